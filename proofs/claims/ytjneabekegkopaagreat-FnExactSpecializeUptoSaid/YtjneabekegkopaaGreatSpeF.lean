/-
  FnExactSpecializeUptoSaid: the law FnExactSpecialize returns true at every argument of bulk at most 1048576, and the argument reads behind the call as it read before.
-/
import Derived.Test.YtjneabekegkopaaGreatSpeE
import Derived.Test.YtjneabekegkopaaGreatRows
import Derived.WalkKit
import Derived.ProofKit
import Derived.OpenShut
import Derived.JoinedCond
import Derived.ReadAgain
set_option linter.all false
set_option linter.unusedVariables false
set_option linter.unusedSimpArgs false
set_option linter.unusedSectionVars false
set_option maxRecDepth 10000
set_option maxHeartbeats 4000000
section
namespace Go.Abs
open Go.Proofs
theorem Zi7 (b:Block) (hz:b.sz≤1000000000:=by exact ob):Z3 Tryz.prog 170 [Zj b] [] (fun r h=>r=.i (((runF b.steps):Nat):Int)∧h=[]):=by
 have hbz:=Z6v b
 refine enter Tryz.func170 kr (n:=20) kr kr (ar (iA (Z0l b) ?_))
 intro b1
 refine ir 1 [(1,.p b1 0)] (ie (ar (irk 1 (.n 3 (.i 0) .r) (ie (aq (ab 0 (al (fun m F h=>∃(k:Nat),(k≤b.steps.length)∧(k+runF (b.steps.drop k)=runF b.steps)∧F=[(1,.p b1 0),(3,.i k)]∧h=[.obj b1 (Z0l b)]∧m=b.steps.length-k) _ _ _ ⟨0,ob,(by simp),rfl,rfl,rfl⟩ (wk [0] (fr (fc (x:=.i 0) li fl))) ?_)))))))
 rintro m F h ⟨k,c0_0,c0_1,rfl,rfl,rfl⟩
 refine aq (ar (irK 3 (.n 4 (.i k) (.n 6 (Z0h b.steps) .r)) [0] [b1] (io (.i b.steps.length) (.i (((Zu b.steps).length:Nat):Int)) (li (by rw [Z0w])) (irk 2 (.n 9 (.b (decide ((k:Int)<(b.steps.length:Int)))) .r) (ib (b:=(decide ((k:Int)<(b.steps.length:Int)))) 9 (fun hb1=>?_) (fun hb1=>?_))))))
 ·have hp1:(k:Int)<(b.steps.length:Int):=(dq).1 hb1
  refine irK 3 (.n 11 (Z0h b.steps) (.n 12 (.i k) (.k (.d .r)))) [0] [b1] ?_
  obtain ⟨x1,hx1⟩:=Z8 (xs:=b.steps) (j:=k) om
  refine is_ (Z0 (es:=Zu b.steps) (hv:=none) (j:=(k:Int)) (sz:=5) (y:=Z0o x1) kr om (Z1r hx1) rfl) (irk 1 (.n 14 (Z0o x1) .r) (ic [] (Zox x1) ?_))
  rintro _ _ ⟨rfl,rfl⟩
  refine irk 1 (.n 16 (.b ((x1.op==14)||(x1.op==15))) .r) (ie (ac ((x1.op==14)||(x1.op==15)) (p:=(x1.op=14)∨(x1.op=15)) (Zf beq_iff_eq beq_iff_eq) (fun hc1=>?_) (fun hc1=>?_)))
  ·refine ak (ab 1 (az (irk 1 (.n 17 (.i k) .r) (ia (((k+1:Nat):Int)) (((k:Int))+(1)) (ir 1 [(1,.p b1 0),(3,.i (k+1:Nat))] (ie ?_))))))
   exact ⟨_,_,_,ob,⟨k+1,ob,(Zmt hx1 hc1 c0_1),rfl,rfl,rfl⟩,(wk [0] (fr (fc (x:=.i (k+1:Nat)) li fl)))⟩
  refine ax 0 (ar (ir 2 [(2,.i k)] (ie ?_)))
  exact at_ (r2 [] [.i k] ⟨rfl,rfl⟩ (li (by have:=Zmu hx1 hc1 c0_1;omega)))
 have hp2:¬((k:Int)<(b.steps.length:Int)):=Zd dq hb1
 refine irk 7 (.n 16 (.b false) (.k (.d .r))) (ie (ac0 (ax 0 (ar (ir 2 [(2,.i k)] (ie ?_))))))
 exact at_ (r2 [] [.i k] ⟨rfl,rfl⟩ (li (by have:=Zqf om c0_1;omega)))
theorem Zcy (b:Block) (mm:Nat) (op:Int) (hm:mm≤b.steps.length:=by exact ob) (ha:∀s∈b.steps.take mm,s.op=op→∃a,s.args=[a]) (hz:b.sz≤1000000000:=by exact ob):Z3 Tryz.prog 171 [Zj b,.i mm,.i op] [] (fun r h=>∃(v:Value),r=oInt (Z1d op (b.steps.take mm)) v∧h=[.tail v 1]):=by
 have hbz:=Z6v b
 refine enter Tryz.func171 kr (n:=35) kr kr (ar (iA (Z0l b) ?_))
 intro b1
 refine ir 1 [(1,.i mm),(2,.i op),(3,.p b1 0)] (ie (ar (iL (Z6 []) 0 1 ?_)))
 intro v1
 refine irk 1 (.n 7 (oInt [] v1) .r) (ie (aq (ar (irk 1 (.n 8 (.i 0) .r) (ie (ab 0 (al (fun m F h=>∃(k:Nat) (acc:List Int) (v:Value),(k≤mm)∧(acc.length≤k)∧(acc++Z1d op ((b.steps.take mm).drop k)=Z1d op (b.steps.take mm))∧F=[(1,.i mm),(2,.i op),(3,.p b1 0),(7,oInt acc v),(8,.i k)]∧h=[.obj b1 (Z0l b),.tail v 1]∧m=mm-k) _ _ _ ⟨0,[],v1,ob,ob,(by simp),rfl,rfl,rfl⟩ (wk [1,0] (fr (fr (fr (fr (fc (x:=.i 0) li fl)))))) ?_)))))))
 rintro m F h ⟨k,acc,v,c0_0,c0_1,c0_2,rfl,rfl,rfl⟩
 refine aq (ar (irk 3 (.n 12 (.b (decide ((k:Int)<(mm:Int)))) .r) (ie (ac (decide ((k:Int)<(mm:Int))) dq (fun hc1=>?_) (fun hc1=>?_)))))
 ·refine ak (aq (ab 1 (ar (irK 3 (.n 16 (Z0h b.steps) (.n 17 (.i k) .r)) [0] [b1] ?_))))
  obtain ⟨x1,hx1⟩:=Z8 (xs:=b.steps) (j:=k) om
  have hxt:(b.steps.take mm)[k]? = some x1:=by rw [List.getElem?_take_of_lt om];exact hx1
  have hxm:=List.mem_of_getElem? hxt
  refine is_ (Z0 (es:=Zu b.steps) (hv:=none) (j:=(k:Int)) (sz:=5) (y:=Z0o x1) kr om (Z1r hx1) rfl) (irk 4 (.n 22 (.b (x1.op==op)) .r) (ie (ac (x1.op==op) beq_iff_eq (fun hc2=>?_) (fun hc2=>?_))))
  ·refine az (irK 4 (.n 23 (oInt acc v) (.n 25 (Z0h b.steps) (.n 26 (.i k) .r))) [0] [b1] (is_ (Z0 (es:=Zu b.steps) (hv:=none) (j:=(k:Int)) (sz:=5) (y:=Z0o x1) kr om (Z1r hx1) rfl) (irk 2 (.n 29 (nInt x1.args) .r) ?_)))
   obtain ⟨x2,hx2⟩:=Z8 (xs:=x1.args) (j:=0) (by obtain ⟨a,ha2⟩:=ha x1 hxm hc2;rw [ha2];simp)
   have hg0:=gI0 hx2
   refine is_ (Z0 (es:=Z6 x1.args) (hv:=none) (j:=0) (sz:=1) (y:=.i x2) kr om (Za hx2) rfl) (irk 1 (.n 31 (.i x2) .r) (iL (Z6 [x2]) 1 1 ?_))
   intro v2
   refine irk 0 (.n 32 (nInt [x2]) (.p .r)) (ip 2 (Z6 (acc++[x2])) (Z6 acc) (Z6 [x2]) v none 1 (Z0x _) (Z0x _) (Z3n _) (by simp<;>omega) (by simp [Z24,Z6]) ?_)
   intro v3
   refine ir 1 [(1,.i mm),(2,.i op),(3,.p b1 0),(7,oInt (acc++[x2]) v3),(8,.i k)] (ie (az (irk 1 (.n 13 (.i k) .r) (ia (((k+1:Nat):Int)) (((k:Int))+(1)) (irk 1 (.n 8 (.i (k+1:Nat)) (.p (.d (.k (.k (.k (.k .z))))))) (ie ?_))))))
   exact ⟨_,_,_,ob,⟨k+1,(acc++[x2]),v3,ob,(by simp;omega),(by have h:=Zta hxt hc2 c0_2;rw [hg0] at h;exact h),rfl,rfl,rfl⟩,(wk [2,0] (fr (fr (fr (fr (fc (x:=.i (k+1:Nat)) li fl))))))⟩
  refine ak (az (irk 1 (.n 13 (.i k) .r) (ia (((k+1:Nat):Int)) (((k:Int))+(1)) (irk 1 (.n 8 (.i (k+1:Nat)) (.p (.d (.d (.p (.d (.d (.d (.k (.k (.k (.k .z)))))))))))) (ie ?_)))))
  exact ⟨_,_,_,ob,⟨k+1,acc,v,ob,ob,(Zxl hxt hc2 c0_2),rfl,rfl,rfl⟩,(wk [0,0] (fr (fr (fr (fr (fc (x:=.i (k+1:Nat)) li fl))))))⟩
 refine ax 0 (ar (ir 2 [(6,oInt acc v)] (ie ?_)))
 exact at_ (r2 [1] [oInt acc v] ⟨v,rfl,rfl⟩ (AVLe.slh _ (congrArg Z6 (Zt9 (by rw [List.length_take];omega) c0_2))))
theorem Z8f (xs:List Int) (y:Int) (hl:xs.length≤1000000000:=by exact ob):Z3 Tryz.prog 172 [nInt xs,.i y] [] (fun r h=>∃(v:Value),r=oInt (xs.erase y) v∧h=[.tail v 1]):=by
 refine enter Tryz.func172 kr (n:=33) kr kr (ar (ir 1 [(0,nInt xs),(1,.i y)] (ie (ar (iL (Z6 []) 0 1 ?_)))))
 intro v1
 refine irk 1 (.n 5 (oInt [] v1) .r) (ie (ar (irk 1 (.n 6 (.b false) .r) (ie (aq (ar (irk 1 (.n 7 (.i 0) .r) (ie (ab 0 (al (fun m F h=>∃(k:Nat) (acc:List Int) (d:Bool) (v:Value),(k≤xs.length)∧(acc.length≤k)∧(acc++(if d=true then xs.drop k else (xs.drop k).erase y)=xs.erase y)∧F=[(0,nInt xs),(1,.i y),(5,oInt acc v),(6,.b d),(7,.i k)]∧h=[.tail v 1]∧m=xs.length-k) _ _ _ ⟨0,[],false,v1,ob,ob,(by simp),rfl,rfl,rfl⟩ (wk [0] (fr (fr (fr (fr (fc (x:=.i 0) li fl)))))) ?_))))))))))
 rintro m F h ⟨k,acc,d,v,c0_0,c0_1,c0_2,rfl,rfl,rfl⟩
 refine aq (ar (irk 2 (.n 9 (.i k) (.n 10 (nInt xs) .r)) (io (.i xs.length) (.i (((Z6 xs).length:Nat):Int)) (li (by rw [Z5])) (irk 1 (.n 12 (.b (decide ((k:Int)<(xs.length:Int)))) .r) (ie (ac (decide ((k:Int)<(xs.length:Int))) dq (fun hc1=>?_) (fun hc1=>?_)))))))
 ·refine ak (aq (ab 1 (ar (irk 2 (.n 15 (nInt xs) (.n 16 (.i k) .r)) ?_))))
  obtain ⟨x1,hx1⟩:=Z8 (xs:=xs) (j:=k) om
  refine is_ (Z0 (es:=Z6 xs) (hv:=none) (j:=(k:Int)) (sz:=1) (y:=.i x1) kr om (Za hx1) rfl) (Z27 [(0,nInt xs),(1,.i y),(5,oInt acc v),(6,.b d),(7,.i k),(24,.b ((x1==y)&&(!d)))] [.tail v 1] ?_ ?_)
  ·refine ir 4 [(0,nInt xs),(1,.i y),(5,oInt acc v),(6,.b d),(7,.i k),(21,.b (x1==y))] (ib (b:=(x1==y)) 21 (fun hb1=>?_) (fun hb1=>?_))
   ·have hp1:x1=y:=(beq_iff_eq).1 hb1
    refine irk 3 (.n 24 (.b (!d)) (.d (.k (.k (.k (.k (.k .z))))))) (ie ?_)
    exact wk [0] (fr (fr (fr (fr (fr (fc (x:=.b (!d)) (lb (by simp only [hb1];rfl)) fl))))))
   have hp2:¬(x1=y):=Zd beq_iff_eq hb1
   refine irk 3 (.n 24 (.b false) (.d (.k (.k (.k (.k (.k .z))))))) (ie ?_)
   exact wk [0] (fr (fr (fr (fr (fr (fc (x:=.b false) (lb (by simp only [hb1];rfl)) fl))))))
  refine Zan (fun F h=>∃(w:Value),F=[(0,nInt xs),(1,.i y),(5,oInt (if (x1=y)∧(¬(d=true)) then acc else (acc++[x1])) w),(6,.b (((x1==y)&&(!d))||d)),(7,.i k)]∧h=[.tail w 1]) (fun _ _=>rfl) ?_ ?_
  ·refine ac ((x1==y)&&(!d)) (p:=(x1=y)∧(¬(d=true))) (Zk beq_iff_eq (Zc Iff.rfl)) (fun hc2=>?_) (fun hc2=>?_)
   ·refine az (ir 1 [(0,nInt xs),(1,.i y),(5,oInt acc v),(6,.b true),(7,.i k)] (ie ?_))
    exact ⟨[(0,nInt xs),(1,.i y),(5,oInt (if (x1=y)∧(¬(d=true)) then acc else (acc++[x1])) v),(6,.b (((x1==y)&&(!d))||d)),(7,.i k)],[.tail v 1],⟨v,rfl,rfl⟩,(wk [0] (fr (fr (fc (x:=oInt acc v) (AVLe.slh _ (congrArg Z6 (by first|rfl|(rw [if_pos hc2])|(rw [if_neg hc2])|(simp [hc2];done)|(rw [Bool.eq_iff_iff];simp [hc2];done)|omega))) (fc (x:=.b true) (lb (by first|rfl|(rw [if_pos hc2])|(rw [if_neg hc2])|(simp [hc2];done)|(rw [Bool.eq_iff_iff];simp [hc2];done)|omega)) fl)))))⟩
   refine az (ir 3 [(0,nInt xs),(1,.i y),(6,.b d),(7,.i k),(25,oInt acc v),(26,nInt xs),(27,.i k)] (is_ (Z0 (es:=Z6 xs) (hv:=none) (j:=(k:Int)) (sz:=1) (y:=.i x1) kr om (Za hx1) rfl) (irk 1 (.n 29 (.i x1) .r) (iL (Z6 [x1]) 1 1 ?_))))
   intro v2
   refine irk 0 (.n 30 (nInt [x1]) (.p .r)) (ip 1 (Z6 (acc++[x1])) (Z6 acc) (Z6 [x1]) v none 1 (Z0x _) (Z0x _) (Z3n _) (by simp<;>omega) (by simp [Z24,Z6]) ?_)
   intro v3
   refine irk 1 (.n 5 (oInt (acc++[x1]) v3) .r) (ie ?_)
   exact ⟨[(0,nInt xs),(1,.i y),(5,oInt (if (x1=y)∧(¬(d=true)) then acc else (acc++[x1])) v3),(6,.b (((x1==y)&&(!d))||d)),(7,.i k)],[.tail v3 1],⟨v3,rfl,rfl⟩,(wk [0] (fr (fr (fc (x:=oInt (acc++[x1]) v3) (AVLe.slh _ (congrArg Z6 (by first|rfl|(rw [if_pos hc2])|(rw [if_neg hc2])|(simp [hc2];done)|(rw [Bool.eq_iff_iff];simp [hc2];done)|omega))) (fc (x:=.b d) (lb (by cases d<;>simp_all)) fl)))))⟩
  rintro F h ⟨w,rfl,rfl⟩
  refine az (ir 1 [(0,nInt xs),(1,.i y),(5,oInt (if (x1=y)∧(¬(d=true)) then acc else (acc++[x1])) w),(6,.b (((x1==y)&&(!d))||d)),(13,.i k)] (ia (((k+1:Nat):Int)) (((k:Int))+(1)) (irk 1 (.n 7 (.i (k+1:Nat)) .r) (ie ?_))))
  exact ⟨_,_,_,ob,⟨k+1,(if (x1=y)∧(¬(d=true)) then acc else (acc++[x1])),(((x1==y)&&(!d))||d),w,ob,(by split<;>(try simp)<;>omega),(Z050 hx1 c0_2),rfl,rfl,rfl⟩,(wk [0] (fr (fr (fr (fr (fc (x:=.i (k+1:Nat)) li fl))))))⟩
 refine ax 0 (ar (ir 2 [(4,oInt acc v)] (ie ?_)))
 exact at_ (r2 [0] [oInt acc v] ⟨v,rfl,rfl⟩ (AVLe.slh _ (congrArg Z6 (Z03t om c0_2))))
theorem Zn4 (b:Block) (x:Int) (fs:List Int) (q:Nat) (ha:∀s∈b.steps,Z0q s.op=true→∃a,s.args=[a]) (hf:fs.length≤3:=by exact ob) (hq:q≤1000000000:=by exact ob) (hz:b.sz≤900000000:=by exact ob):Z3 Tryz.prog 132 [Zj b,.i x,nInt fs,.i q] [] (fun r h=>r=Zj (apA b x fs q)∧h=[]):=by
 have hbz:=Z6v b
 have hrl:=Zbf b.steps
 have hal:=Zg9 (b.steps.take (runF b.steps))
 rw [List.length_take] at hal
 have her:=List.length_erase_le (a:=x) (l:=Z1d 15 (b.steps.take (runF b.steps)))
 have har:∀op:Int,Z0q op=true→∀s∈b.steps.take (runF b.steps),s.op=op→∃a,s.args=[a]:=fun op ho s hs e=>ha s (List.mem_of_mem_take hs) (by rw [e];exact ho)
 refine enter Tryz.func132 kr (n:=88) kr kr (ar (iA (Z0l b) ?_))
 intro b1
 refine iA [nl,.i 0] ?_
 intro b2
 refine ie (ar (iR 1 [(1,.i x),(2,nInt fs),(3,.i q),(4,.p b1 0),(8,.p b2 0),(14,Zj b)] [1] [b1] (ic [] (Zi7 b) ?_)))
 rintro _ _ ⟨rfl,rfl⟩
 refine irk 1 (.n 9 (.i (((runF b.steps):Nat):Int)) .r) (ie (ar (irK 2 (.n 16 (Zj b) (.n 17 (.i (((runF b.steps):Nat):Int)) .r)) [1] [b1] (ic [] (Zcy b (runF b.steps) 14 (ha:=(har _ rfl))) ?_))))
 rintro _ _ ⟨v1,rfl,rfl⟩
 refine irk 1 (.n 10 (oInt (Z1d 14 (b.steps.take (runF b.steps))) v1) .r) (ie (ar (irK 2 (.n 19 (Zj b) (.n 20 (.i (((runF b.steps):Nat):Int)) .r)) [2] [b1] (ic [] (Zcy b (runF b.steps) 15 (ha:=(har _ rfl))) ?_))))
 rintro _ _ ⟨v2,rfl,rfl⟩
 refine irk 1 (.n 11 (oInt (Z1d 15 (b.steps.take (runF b.steps))) v2) .r) (ie (aq (ar (irk 2 (.n 22 (nInt (Z1d 15 (b.steps.take (runF b.steps)))) (.n 23 (.i x) .r)) (ic [] (Z6c (Z1d 15 (b.steps.take (runF b.steps))) x) ?_)))))
 rintro _ _ ⟨rfl,rfl⟩
 refine Z27 [(1,.i x),(2,nInt fs),(3,.i q),(4,.p b1 0),(8,.p b2 0),(9,.i (((runF b.steps):Nat):Int)),(10,oInt (Z1d 14 (b.steps.take (runF b.steps))) v1),(11,oInt (Z1d 15 (b.steps.take (runF b.steps))) v2),(30,.b ((!(decide (x∈(Z1d 15 (b.steps.take (runF b.steps))))))||((fs.length:Int)==0)))] [.tail v2 1,.tail v1 1,.obj b2 [nl,.i 0],.obj b1 (Z0l b)] ?_ ?_
 ·refine ir 2 [(1,.i x),(2,nInt fs),(3,.i q),(4,.p b1 0),(8,.p b2 0),(9,.i (((runF b.steps):Nat):Int)),(10,oInt (Z1d 14 (b.steps.take (runF b.steps))) v1),(11,oInt (Z1d 15 (b.steps.take (runF b.steps))) v2),(26,.b (!(decide (x∈(Z1d 15 (b.steps.take (runF b.steps)))))))] (ib (b:=(!(decide (x∈(Z1d 15 (b.steps.take (runF b.steps))))))) 26 (fun hb1=>?_) (fun hb1=>?_))
  ·have hp1:¬(x∈(Z1d 15 (b.steps.take (runF b.steps)))):=((Zc dq)).1 hb1
   refine irk 4 (.n 30 (.b true) (.d (.k (.k (.k (.k (.k (.k (.k (.k .z)))))))))) (ie ?_)
   exact wk [0,0,0,0] (fr (fr (fr (fr (fr (fr (fr (fr (fc (x:=.b true) (lb (by simp only [hb1];rfl)) fl)))))))))
  have hp2:¬(¬(x∈(Z1d 15 (b.steps.take (runF b.steps))))):=Zd (Zc dq) hb1
  refine irk 1 (.n 27 (nInt fs) (.k (.k (.k (.k (.k (.k (.k (.k (.k .z)))))))))) (io (.i fs.length) (.i (((Z6 fs).length:Nat):Int)) (li (by rw [Z5])) (irk 2 (.n 30 (.b ((fs.length:Int)==0)) .r) (ie ?_)))
  exact wk [0,0,0,0] (fr (fr (fr (fr (fr (fr (fr (fr (fc (x:=.b ((fs.length:Int)==0)) (lb (by simp only [hb1];rfl)) fl)))))))))
 refine ac ((!(decide (x∈(Z1d 15 (b.steps.take (runF b.steps))))))||((fs.length:Int)==0)) (p:=(¬(x∈(Z1d 15 (b.steps.take (runF b.steps)))))∨((fs.length:Int)=0)) (Zf (Zc dq) beq_iff_eq) (fun hc1=>?_) (fun hc1=>?_)
 ·refine ar (iR 1 [(8,.p b2 0),(31,Zj b)] [3] [b1] (iS 2 b2 0 (Z0l b) [nl,.i 0] (Z0l b) (ie ?_)))
  exact at_ (r3 [] [Zj b] [0] [(b2,b2)] ⟨rfl,rfl⟩ (AVLe.agg (.cons (AVLe.sl _ (congrArg Zu (Zzv (fun z=>hc1.elim (fun e=>e z.1) (fun e=>z.2 om))).symm)) (.cons li .nil))))
 refine ak (ar (ir 2 [(1,.i x),(2,nInt fs),(3,.i q),(4,.p b1 0),(8,.p b2 0),(9,.i (((runF b.steps):Nat):Int)),(10,oInt (Z1d 14 (b.steps.take (runF b.steps))) v1),(32,nInt (Z1d 15 (b.steps.take (runF b.steps)))),(33,.i x)] (ic [] (Z8f (Z1d 15 (b.steps.take (runF b.steps))) x) ?_)))
 rintro _ _ ⟨v3,rfl,rfl⟩
 refine irk 1 (.n 11 (oInt ((Z1d 15 (b.steps.take (runF b.steps))).erase x) v3) .r) (ie (aq (ar (irk 1 (.n 12 (.i 0) .r) (ie (ab 0 (al (fun m F h=>∃(k:Nat) (D:List Int) (R:List Int) (v:Value),(k≤fs.length)∧(D.length≤b.steps.length)∧(R.length≤b.steps.length+k)∧(opnG (fs.drop k) (q+k) D R=opnP b.steps x fs q)∧F=[(1,.i x),(2,nInt fs),(3,.i q),(4,.p b1 0),(8,.p b2 0),(9,.i (((runF b.steps):Nat):Int)),(10,nInt D),(11,oInt R v),(12,.i k)]∧h=[.obj b2 [nl,.i 0],.obj b1 (Z0l b),.tail v 1]∧m=fs.length-k) _ _ _ ⟨0,(Z1d 14 (b.steps.take (runF b.steps))),((Z1d 15 (b.steps.take (runF b.steps))).erase x),v3,ob,om,om,(by simp [opnP]),rfl,rfl,rfl⟩ (wk [3,3,0] (fr (fr (fr (fr (fr (fr (fc (x:=oInt (Z1d 14 (b.steps.take (runF b.steps))) v1) (AVLe.forget _ _) (fr (fc (x:=.i 0) li fl)))))))))) ?_)))))))
 rintro m F h ⟨k,D,R,v,c0_0,c0_1,c0_2,c0_3,rfl,rfl,rfl⟩
 refine aq (ar (irk 2 (.n 35 (.i k) (.n 36 (nInt fs) .r)) (io (.i fs.length) (.i (((Z6 fs).length:Nat):Int)) (li (by rw [Z5])) (irk 1 (.n 38 (.b (decide ((k:Int)<(fs.length:Int)))) .r) (ie (ac (decide ((k:Int)<(fs.length:Int))) dq (fun hc2=>?_) (fun hc2=>?_)))))))
 ·refine ak (aq (ab 1 (ar (irk 2 (.n 41 (nInt fs) (.n 42 (.i k) .r)) ?_))))
  obtain ⟨x1,hx1⟩:=Z8 (xs:=fs) (j:=k) om
  refine is_ (Z0 (es:=Z6 fs) (hv:=none) (j:=(k:Int)) (sz:=1) (y:=.i x1) kr om (Za hx1) rfl) (Z27 [(1,.i x),(2,nInt fs),(3,.i q),(4,.p b1 0),(8,.p b2 0),(9,.i (((runF b.steps):Nat):Int)),(10,nInt D),(11,oInt R v),(12,.i k),(52,.b ((x1 != 0)&&(decide (((q+k:Nat):Int)∈D))))] [.obj b2 [nl,.i 0],.obj b1 (Z0l b),.tail v 1] ?_ ?_)
  ·refine ir 3 [(1,.i x),(2,nInt fs),(3,.i q),(4,.p b1 0),(8,.p b2 0),(9,.i (((runF b.steps):Nat):Int)),(10,nInt D),(11,oInt R v),(12,.i k),(46,.b (x1 != 0))] (ib (b:=(x1 != 0)) 46 (fun hb2=>?_) (fun hb2=>?_))
   ·have hp3:x1≠0:=(bne_iff_ne).1 hb2
    refine irk 3 (.n 47 (nInt D) (.n 48 (.i q) (.n 49 (.i k) (.k (.k (.k (.k (.k (.k (.k (.k (.k (.k .z))))))))))))) (ia (((q+k:Nat):Int)) (((q:Int))+((k:Int))) (ic [] (Z6c D ((q+k:Nat):Int)) ?_))
    rintro _ _ ⟨rfl,rfl⟩
    refine irk 1 (.n 52 (.b (decide (((q+k:Nat):Int)∈D))) .r) (ie ?_)
    exact wk [0,0,0] (fr (fr (fr (fr (fr (fr (fr (fr (fr (fc (x:=.b (decide (((q+k:Nat):Int)∈D))) (lb (by simp only [hb2];rfl)) fl))))))))))
   have hp4:¬(x1≠0):=Zd bne_iff_ne hb2
   refine irk 6 (.n 52 (.b false) (.d (.k (.k (.k (.k (.k (.k (.k (.k (.k .z))))))))))) (ie ?_)
   exact wk [0,0,0] (fr (fr (fr (fr (fr (fr (fr (fr (fr (fc (x:=.b false) (lb (by simp only [hb2];rfl)) fl))))))))))
  refine Zan (fun F h=>∃(D2:List Int) (R2:List Int) (w:Value),(opnG (fs.drop (k+1)) (q+((k+1:Nat):Int)) D2 R2=opnP b.steps x fs q)∧(D2.length≤b.steps.length)∧(R2.length≤b.steps.length+(k+1))∧F=[(1,.i x),(2,nInt fs),(3,.i q),(4,.p b1 0),(8,.p b2 0),(9,.i (((runF b.steps):Nat):Int)),(10,nInt D2),(11,oInt R2 w),(12,.i k)]∧h=[.obj b2 [nl,.i 0],.obj b1 (Z0l b),.tail w 1]) (fun _ _=>rfl) ?_ ?_
  ·refine ac ((x1 != 0)&&(decide (((q+k:Nat):Int)∈D))) (p:=(x1≠0)∧(((q+k:Nat):Int)∈D)) (Zk bne_iff_ne dq) (fun hc3=>?_) (fun hc3=>?_)
   ·refine az (ir 3 [(1,.i x),(2,nInt fs),(3,.i q),(4,.p b1 0),(8,.p b2 0),(9,.i (((runF b.steps):Nat):Int)),(11,oInt R v),(12,.i k),(53,nInt D),(54,.i q),(55,.i k)] (ia (((q+k:Nat):Int)) (((q:Int))+((k:Int))) (ic [] (Z8f D ((q+k:Nat):Int)) ?_)))
    rintro _ _ ⟨v4,rfl,rfl⟩
    refine irk 1 (.n 10 (oInt (D.erase ((q+k:Nat):Int)) v4) .r) (ie ?_)
    exact ⟨[(1,.i x),(2,nInt fs),(3,.i q),(4,.p b1 0),(8,.p b2 0),(9,.i (((runF b.steps):Nat):Int)),(10,nInt (D.erase ((q+k:Nat):Int))),(11,oInt R v),(12,.i k)],[.obj b2 [nl,.i 0],.obj b1 (Z0l b),.tail v 1],⟨(D.erase ((q+k:Nat):Int)),R,v,(Z048 hx1 hc3.1 hc3.2 c0_3),(Nat.le_trans List.length_erase_le c0_1),ob,rfl,rfl⟩,(wk [1,1,1] fl)⟩
   refine ar (ir 2 [(1,.i x),(2,nInt fs),(3,.i q),(4,.p b1 0),(8,.p b2 0),(9,.i (((runF b.steps):Nat):Int)),(10,nInt D),(11,oInt R v),(12,.i k),(58,nInt fs),(59,.i k)] (is_ (Z0 (es:=Z6 fs) (hv:=none) (j:=(k:Int)) (sz:=1) (y:=.i x1) kr om (Za hx1) rfl) (irk 2 (.n 62 (.b (x1 != 0)) .r) (ie (ac (x1 != 0) bne_iff_ne (fun hc4=>?_) (fun hc4=>?_))))))
   ·refine az (irk 3 (.n 63 (oInt R v) (.n 64 (.i q) (.n 65 (.i k) .r))) (ia (((q+k:Nat):Int)) (((q:Int))+((k:Int))) (iL (Z6 [((q+k:Nat):Int)]) 1 1 ?_)))
    intro v5
    refine irk 0 (.n 67 (nInt [((q+k:Nat):Int)]) (.p .r)) (ip 3 (Z6 (R++[((q+k:Nat):Int)])) (Z6 R) (Z6 [((q+k:Nat):Int)]) v none 1 (Z0x _) (Z0x _) (Z3n _) (by simp<;>omega) (by simp [Z24,Z6]) ?_)
    intro v6
    refine irk 1 (.n 11 (oInt (R++[((q+k:Nat):Int)]) v6) (.p (.d (.p (.d (.d (.d (.d (.p (.k (.k (.k (.k (.k (.k (.k (.d (.k .z)))))))))))))))))) (ie ?_)
    exact ⟨[(1,.i x),(2,nInt fs),(3,.i q),(4,.p b1 0),(8,.p b2 0),(9,.i (((runF b.steps):Nat):Int)),(10,nInt D),(11,oInt (R++[((q+k:Nat):Int)]) v6),(12,.i k)],[.obj b2 [nl,.i 0],.obj b1 (Z0l b),.tail v6 1],⟨D,(R++[((q+k:Nat):Int)]),v6,(Z01n hx1 hc4 (fun z=>hc3 ⟨hc4,z⟩) c0_3),ob,(by simp;omega),rfl,rfl⟩,(wk [2,2,0] fl)⟩
   refine ak ?_
   exact ⟨[(1,.i x),(2,nInt fs),(3,.i q),(4,.p b1 0),(8,.p b2 0),(9,.i (((runF b.steps):Nat):Int)),(10,nInt D),(11,oInt R v),(12,.i k)],[.obj b2 [nl,.i 0],.obj b1 (Z0l b),.tail v 1],⟨D,R,v,(Zyv hx1 hc4 c0_3),ob,ob,rfl,rfl⟩,(wk [0,0,0] fl)⟩
  rintro F h ⟨D2,R2,w,k2_0,k2_1,k2_2,rfl,rfl⟩
  refine az (ir 1 [(1,.i x),(2,nInt fs),(3,.i q),(4,.p b1 0),(8,.p b2 0),(9,.i (((runF b.steps):Nat):Int)),(10,nInt D2),(11,oInt R2 w),(39,.i k)] (ia (((k+1:Nat):Int)) (((k:Int))+(1)) (irk 1 (.n 12 (.i (k+1:Nat)) .r) (ie ?_))))
  exact ⟨_,_,_,ob,⟨k+1,D2,R2,w,ob,ob,ob,ob,rfl,rfl,rfl⟩,(wk [0,0,0] (fr (fr (fr (fr (fr (fr (fr (fr (fc (x:=.i (k+1:Nat)) li fl))))))))))⟩
 refine ax 0 (ar (irk 1 (.n 69 (nInt D) .r) (ic [] (Zay 14 D) ?_)))
 rintro _ _ ⟨v7,rfl,rfl⟩
 refine irk 1 (.n 71 (.i x) .r) (ic [] (Zd0 16 x) ?_)
 rintro _ _ ⟨rfl,rfl⟩
 refine iL [Z0o (cntS 16 x)] 1 5 ?_
 intro v8
 refine irk 0 (.n 73 (.sl [Z0o (cntS 16 x)] none) (.p .r)) (ip 1 (Zu ((D.map (cntS 14))++[cntS 16 x])) (Zu (D.map (cntS 14))) [Z0o (cntS 16 x)] v7 none 5 (Z1w _) (Z5u rfl) rfl (by simp<;>omega) (by simp [Z2w,Z2l]) ?_)
 intro v9
 refine irk 1 (.n 13 (Z1g ((D.map (cntS 14))++[cntS 16 x]) v9) .r) (ie (ar (irk 2 (.n 75 (Z1g ((D.map (cntS 14))++[cntS 16 x]) v9) (.n 76 (nInt R) .r)) (ic [] (Zay 15 R) ?_))))
 rintro _ _ ⟨v10,rfl,rfl⟩
 refine irk 0 (.n 77 (Z0h (R.map (cntS 15))) (.p .r)) (ip 1 (Zu (((D.map (cntS 14))++[cntS 16 x])++(R.map (cntS 15)))) (Zu ((D.map (cntS 14))++[cntS 16 x])) (Zu (R.map (cntS 15))) v9 none 5 (Z1w _) (Z1w _) (Za8 _) (by simp<;>omega) (by simp [Z2w,Zu]) ?_)
 intro v11
 refine irk 1 (.n 13 (Z1g (((D.map (cntS 14))++[cntS 16 x])++(R.map (cntS 15))) v11) (.q 78 (.k (.k (.k (.d .r)))))) (ie (aD 10 (dtK (fuel:=6) 10 [0,1,2,3] (.n 79 (Z1g (((D.map (cntS 14))++[cntS 16 x])++(R.map (cntS 15))) v11) (.n 81 (Z0h b.steps) (.n 82 (.i (((runF b.steps):Nat):Int)) .r))) [4] [b1] (dx 4 (Z4s (es:=Zu b.steps) (hv:=none) (l:=(((runF b.steps):Nat):Int)) (m:=(((Zu b.steps).length:Nat):Int)) (sz:=5) (es':=Zu (b.steps.drop (runF b.steps))) kr om (by simp<;>omega) (by simp<;>omega) (Z1w _) (by first|(simp only [Int.toNat_natCast,List.take_length,Z38,Z37];done)|(simp only [Int.toNat_natCast,List.take_length,Z38,Z37];rfl)|(simp [Z38,Z37];done))) (dtK (fuel:=3) 5 [6,7] (.n 86 (.i b.result) .r) [4] [b1] (do_ 5 (dp 5 0 [1] [b1] (Zu ((((D.map (cntS 14))++[cntS 16 x])++(R.map (cntS 15)))++(b.steps.drop (runF b.steps)))) (Zu (((D.map (cntS 14))++[cntS 16 x])++(R.map (cntS 15)))) (Zu (b.steps.drop (runF b.steps))) v11 none 5 (Z1w _) (Z1w _) (Za8 _) (by simp<;>omega) (by simp [Z2w,Zu]) ?_)))))))
 intro v12
 refine dtk (fuel:=1) 2 [8] (.n 87 (.agg [Z1g ((((D.map (cntS 14))++[cntS 16 x])++(R.map (cntS 15)))++(b.steps.drop (runF b.steps))) v12,.i b.result]) .r) (do_ 9 (dS 9 3 [] [] b2 0 [Z1g ((((D.map (cntS 14))++[cntS 16 x])++(R.map (cntS 15)))++(b.steps.drop (runF b.steps))) v12,.i b.result] [nl,.i 0] [Z1g ((((D.map (cntS 14))++[cntS 16 x])++(R.map (cntS 15)))++(b.steps.drop (runF b.steps))) v12,.i b.result] (de ?_)))
 have hE:=Z009 (Classical.not_not.1 fun z=>hc1 (.inl z)) (fun z=>hc1 (.inr om)) (Z01m om c0_3)
 exact at_ (r3 [] [.agg [Z1g ((((D.map (cntS 14))++[cntS 16 x])++(R.map (cntS 15)))++(b.steps.drop (runF b.steps))) v12,.i b.result]] [0] [(b2,b2)] ⟨rfl,rfl⟩ (AVLe.agg (.cons (AVLe.sl _ (congrArg Zu hE)) (.cons li .nil))))
theorem Z9f (n:Normal) (b:Block) (mm:Nat) (hn:NOk n) (hw:wB n.decls b) (hb:mm+9*b.sz≤900000000) (ih:∀(b2:Block) (m2:Nat),(wB n.decls b2)→(m2+9*b2.sz≤900000000)→(b2.sz<b.sz)→Z3 Tryz.prog 77 [Zi n,Zj b2,.i m2] [] (fun r h=>r=Zj (spB n.decls m2 b2)∧h=[])):Z3 Tryz.prog 77 [Zi n,Zj b,.i mm] [] (fun r h=>r=Zj (spB n.decls mm b)∧h=[]):=by
 have hdk:=hn.decls
 have hbz:=Z6v b
 have hbs:=(Zib b).1 hw
 refine enter Tryz.func77 kr (n:=107) kr kr (ar (iA (Zh n) ?_))
 intro b1
 refine iA (Z0l b) ?_
 intro b2
 refine iA [nl,.i 0] ?_
 intro b3
 refine ie (ar (iL (Zu []) 0 5 ?_))
 intro v1
 refine iR 3 [(2,.i mm),(3,.p b1 0),(4,.p b2 0),(6,.p b3 0),(17,.agg [Z1g [] v1,.i b.result])] [2] [b2] (iA [nl,.i 0] ?_)
 intro b4
 refine iS 0 b4 0 [Z1g [] v1,.i b.result] [nl,.i 0] [Z1g [] v1,.i b.result] (ie (aq (ar (irk 1 (.n 8 (.i 0) .r) (ie (ab 0 (al (fun m F h=>∃(k:Nat) (q:Nat) (xs:List Step) (v:Value),(k≤b.steps.length)∧(q≤mm+k)∧(xs.length=k)∧(xs++spSs n.decls q (b.steps.drop k)=spSs n.decls mm b.steps)∧F=[(2,.i q),(3,.p b1 0),(4,.p b2 0),(6,.p b3 0),(7,.p b4 0),(8,.i k)]∧h=[.obj b4 [Z1g xs v,.i b.result],.obj b3 [nl,.i 0],.obj b2 (Z0l b),.obj b1 (Zh n),.tail v 5]∧m=b.steps.length-k) _ _ _ ⟨0,mm,[],v1,ob,ob,ob,rfl,rfl,rfl,rfl⟩ (wk [0,1,1,1,0] (fr (fr (fr (fr (fr (fc (x:=.i 0) li fl))))))) ?_)))))))
 rintro m F h ⟨k,q,xs,v,c0_0,c0_1,c0_2,c0_3,rfl,rfl,rfl⟩
 refine aq (ar (irK 3 (.n 18 (.i k) (.n 20 (Z0h b.steps) .r)) [2] [b2] (io (.i b.steps.length) (.i (((Zu b.steps).length:Nat):Int)) (li (by rw [Z0w])) (irk 1 (.n 22 (.b (decide ((k:Int)<(b.steps.length:Int)))) .r) (ie (ac (decide ((k:Int)<(b.steps.length:Int))) dq (fun hc1=>?_) (fun hc1=>?_)))))))
 ·refine ak (aq (ab 1 (ar (irK 3 (.n 26 (Z0h b.steps) (.n 27 (.i k) .r)) [2] [b2] ?_))))
  obtain ⟨x1,hx1⟩:=Z8 (xs:=b.steps) (j:=k) om
  have hsz:=Zl2 hx1
  have hws:=Z04q hw hx1
  have hkz:=Z7a x1
  have haz:=Z9j x1
  have hdf:=Z04s hws
  refine is_ (Z0 (es:=Zu b.steps) (hv:=none) (j:=(k:Int)) (sz:=5) (y:=Z0o x1) kr om (Z1r hx1) rfl) (irk 1 (.n 29 (Z0o x1) .r) (iA [.i 0,.i 0,.i 0,nl,nl] ?_))
  intro b5
  refine iS 0 b5 0 (Z0g x1) [.i 0,.i 0,.i 0,nl,nl] (Z0g x1) (ie (ar (iL (Z0p []) 0 2 ?_)))
  intro v2
  refine irk 1 (.n 10 (Z9u [] v2) .r) (ie (ar (irK 4 (.n 32 (Z2 n.decls) (.n 34 (.i x1.num) .r)) [5,1] [b1,b5] (ic [] (Z81 n.decls x1.num) ?_))))
  rintro _ _ ⟨v3,rfl,rfl⟩
  refine irk 1 (.n 11 (oInt (Zb n.decls x1.num) v3) .r) (ie (aq (ar (irk 1 (.n 12 (.i 0) .r) (ie (ab 2 (al (fun m F h=>∃(j:Nat) (u:Value) (ks:List Block),(j≤x1.kids.length)∧(ks.length=j)∧(ks++spKs n.decls q x1.op x1.num x1.args (x1.kids.drop j) j=spKs n.decls q x1.op x1.num x1.args x1.kids 0)∧F=[(2,.i q),(3,.p b1 0),(4,.p b2 0),(6,.p b3 0),(7,.p b4 0),(8,.i k),(9,.p b5 0),(10,Z9u ks u),(11,oInt (Zb n.decls x1.num) v3),(12,.i j)]∧h=[.obj b5 (Z0g x1),.obj b4 [Z1g xs v,.i b.result],.obj b3 [nl,.i 0],.obj b2 (Z0l b),.obj b1 (Zh n),.tail u 2,.tail v 5,.tail v3 1]∧m=x1.kids.length-j) _ _ _ ⟨0,v2,[],ob,ob,(by simp),rfl,rfl,rfl⟩ (wk [2,2,2,2,2,1,1,0] (fr (fr (fr (fr (fr (fr (fr (fr (fr (fc (x:=.i 0) li fl))))))))))) ?_)))))))
  rintro m F h ⟨j,u,ks,c1_0,c1_1,c1_2,rfl,rfl,rfl⟩
  refine aq (ar (irK 3 (.n 36 (.i j) (.n 38 (Z03 x1.kids) .r)) [0] [b5] (io (.i x1.kids.length) (.i (((Z0p x1.kids).length:Nat):Int)) (li (by rw [Z0r])) (irk 1 (.n 40 (.b (decide ((j:Int)<(x1.kids.length:Int)))) .r) (ie (ac (decide ((j:Int)<(x1.kids.length:Int))) dq (fun hc2=>?_) (fun hc2=>?_)))))))
  ·refine ak (aq (ab 3 (ar (irK 3 (.n 45 (.b (x1.op==8)) .r) [0] [b5] (ie (ac (x1.op==8) beq_iff_eq (fun hc3=>?_) (fun hc3=>?_)))))))
   ·refine aD 8 (dtK (fuel:=4) 8 [0,1,2,3] (.n 47 (Z2 n.decls) (.n 48 (oInt (Zb n.decls x1.num) v3) (.n 49 (.i j) .r))) [4] [b1] ?_)
    obtain ⟨x2,hx2⟩:=Z8 (xs:=Zb n.decls x1.num) (j:=j) (by have h:=(Zdb hws (by assumption)).2;omega)
    have hfk:Z4z n.decls x1.num j=Z1 n.decls x2:=Zb8 (by rw [List.getElem?_map,hx2];rfl)
    have hcf:=Z13 hdk x2
    refine dx 4 (Z0 (es:=Z6 (Zb n.decls x1.num)) (hv:=some v3) (j:=(j:Int)) (sz:=1) (y:=.i x2) kr om (Za hx2) rfl) (dtk (fuel:=2) 3 [5] (.n 51 (.i x2) .r) (do_ 6 (dc 6 [] [] [] (Z3z n.decls x2) ?_)))
    rintro _ _ ⟨rfl,rfl⟩
    refine dtk (fuel:=0) 1 [7] (.n 13 (nInt (Z1 n.decls x2)) .r) (de (aE 22 (dtK (fuel:=17) 22 [0,1,2,3,4] (.n 53 (Z9u ks u) (.n 54 (Zi n) (.n 56 (Z03 x1.kids) (.n 57 (.i j) .r)))) [4,0] [b1,b5] ?_)))
    obtain ⟨x3,hx3⟩:=Z8 (xs:=x1.kids) (j:=j) om
    have hkb:=hx3
    have hks:=Zau hx3
    have hwk:=Zxc hws hx3
    have hpk:=Block.pz_le x3
    refine dx 5 (Z0 (es:=Z0p x1.kids) (hv:=none) (j:=(j:Int)) (sz:=2) (y:=Zj x3) kr om (Z2a hx3) rfl) (dtk (fuel:=13) 16 [6,7,8] (.n 59 (Zj x3) (.n 60 (.i q) (.n 61 (nInt (Z1 n.decls x2)) .r))) (dn 9 (.i (((Z1 n.decls x2).length:Nat):Int)) (.i (((Z6 (Z1 n.decls x2)).length:Nat):Int)) (li (by rw [Z5])) (da 10 (((q+((Z1 n.decls x2).length):Nat):Int)) (((q:Int))+((((Z1 n.decls x2).length:Nat):Int))) (dtK (fuel:=9) 11 [12,13] (.n 66 (nInt x1.args) .r) [0] [b5] ?_))))
    obtain ⟨x4,hx4⟩:=Z8 (xs:=x1.args) (j:=0) (by obtain ⟨⟨a,ha2⟩,_⟩:=Zdb hws (by assumption);rw [ha2];simp)
    have hg1:=gI0 hx4
    refine dx 14 (Z0 (es:=Z6 x1.args) (hv:=none) (j:=0) (sz:=1) (y:=.i x4) kr om (Za hx4) rfl) (dtk (fuel:=5) 8 [15,16,17] (.n 68 (.i x4) (.n 69 (nInt (Z1 n.decls x2)) (.n 70 (.i q) .r))) (do_ 11 (dc 11 [] [0] [b5] (ih x3 (q+((Z1 n.decls x2).length)) hwk ob ob) ?_)))
    rintro _ _ ⟨rfl,rfl⟩
    refine do_ 18 (dc 18 [] [] [] (Zn4 (spB n.decls (q+((Z1 n.decls x2).length)) x3) x4 (Z1 n.decls x2) q (ha:=(by rw [Zjg];exact Z02e ((Zib _).1 hwk))) (hz:=(Nat.le_trans (Zn0 hdk _ hwk) om))) ?_)
    rintro _ _ ⟨rfl,rfl⟩
    refine do_ 19 (dL 19 [] [] [Zj (apA (spB n.decls (q+((Z1 n.decls x2).length)) x3) x4 (Z1 n.decls x2) q)] 1 2 ?_)
    intro v4
    refine dtk (fuel:=2) 2 [] (.n 72 (.sl [Zj (apA (spB n.decls (q+((Z1 n.decls x2).length)) x3) x4 (Z1 n.decls x2) q)] none) (.p .r)) (do_ 20 (dp 20 6 [] [] (Z0p (ks++[apA (spB n.decls (q+((Z1 n.decls x2).length)) x3) x4 (Z1 n.decls x2) q])) (Z0p ks) [Zj (apA (spB n.decls (q+((Z1 n.decls x2).length)) x3) x4 (Z1 n.decls x2) q)] u none 2 (Zgg _) (Z5u rfl) rfl (by simp<;>omega) (by simp [Zap,Z4g]) ?_))
    intro v5
    refine dt (fuel:=0) 1 [21] [(2,.i q),(3,.p b1 0),(4,.p b2 0),(6,.p b3 0),(7,.p b4 0),(8,.i k),(9,.p b5 0),(10,Z9u (ks++[apA (spB n.decls (q+((Z1 n.decls x2).length)) x3) x4 (Z1 n.decls x2) q]) v5),(11,oInt (Zb n.decls x1.num) v3),(12,.i j)] (de (az (irk 1 (.n 41 (.i j) .r) (ia (((j+1:Nat):Int)) (((j:Int))+(1)) (irk 1 (.n 12 (.i (j+1:Nat)) (.p (.d (.k (.k (.k (.k (.k (.k (.k (.k (.k .z)))))))))))) (ie ?_))))))
    exact ⟨_,_,_,ob,⟨j+1,v5,(ks++[apA (spB n.decls (q+((Z1 n.decls x2).length)) x3) x4 (Z1 n.decls x2) q]),ob,(by simp;omega),(by have h:=Zn1 hkb c1_2;rw [spK,if_pos (by assumption),hfk,hg1] at h;exact h),rfl,rfl,rfl⟩,(wk [2,2,2,2,2,0,1,1] (fr (fr (fr (fr (fr (fr (fr (fr (fr (fc (x:=.i (j+1:Nat)) li fl)))))))))))⟩
   refine aE 12 (dtK (fuel:=7) 12 [0,1,2,3,4] (.n 74 (Z9u ks u) (.n 75 (Zi n) (.n 77 (Z03 x1.kids) (.n 78 (.i j) .r)))) [4,0] [b1,b5] ?_)
   obtain ⟨x5,hx5⟩:=Z8 (xs:=x1.kids) (j:=j) om
   have hkb:=hx5
   have hks:=Zau hx5
   have hwk:=Zxc hws hx5
   have hpk:=Block.pz_le x5
   refine dx 5 (Z0 (es:=Z0p x1.kids) (hv:=none) (j:=(j:Int)) (sz:=2) (y:=Zj x5) kr om (Z2a hx5) rfl) (dtk (fuel:=4) 6 [6,7] (.n 80 (Zj x5) (.n 81 (.i q) .r)) (do_ 8 (dc 8 [] [] [] (ih x5 q hwk ob ob) ?_)))
   rintro _ _ ⟨rfl,rfl⟩
   refine do_ 9 (dL 9 [] [] [Zj (spB n.decls q x5)] 1 2 ?_)
   intro v6
   refine dtk (fuel:=2) 2 [] (.n 83 (.sl [Zj (spB n.decls q x5)] none) (.p .r)) (do_ 10 (dp 10 6 [] [] (Z0p (ks++[spB n.decls q x5])) (Z0p ks) [Zj (spB n.decls q x5)] u none 2 (Zgg _) (Z5u rfl) rfl (by simp<;>omega) (by simp [Zap,Z4g]) ?_))
   intro v7
   refine dtk (fuel:=0) 1 [11] (.n 10 (Z9u (ks++[spB n.decls q x5]) v7) (.p (.d (.p (.d (.d (.p (.d (.d (.d (.d (.d (.d (.p (.d (.d (.k (.k (.k (.k (.k (.k (.k (.d .r)))))))))))))))))))))))) (de (az (irk 1 (.n 41 (.i j) .r) (ia (((j+1:Nat):Int)) (((j:Int))+(1)) (irk 1 (.n 12 (.i (j+1:Nat)) (.p (.d (.k (.k (.k (.k (.k (.k (.k (.k (.k .z)))))))))))) (ie ?_))))))
   exact ⟨_,_,_,ob,⟨j+1,v7,(ks++[spB n.decls q x5]),ob,(by simp;omega),(by have h:=Zn1 hkb c1_2;rw [spK,if_neg (by assumption)] at h;exact h),rfl,rfl,rfl⟩,(wk [2,2,2,2,2,0,1,1] (fr (fr (fr (fr (fr (fr (fr (fr (fr (fc (x:=.i (j+1:Nat)) li fl)))))))))))⟩
  have hK:=Zwj om c1_2
  refine ax 2 (aD 17 (dtK (fuel:=6) 17 [0,1,2,3,4,5,6,7,8,9,11] (.n 86 (Z1g xs v) (.n 88 (.i x1.op) (.n 90 (.i x1.num) (.n 92 (.i x1.into) (.n 94 (nInt x1.args) (.n 96 (Z9u ks u) .r)))))) [1,0,0,0,0] [b4,b5,b5,b5,b5] (do_ 10 (dc 10 [] [0,0,0,1] [b5,b5,b5,b4] (Z2o x1.args) ?_))))
  rintro _ _ ⟨v8,rfl,rfl⟩
  refine dtk (fuel:=4) 5 [12] (.n 97 (.agg [.i x1.op,.i x1.num,.i x1.into,nInt x1.args,Z03 ks]) .r) (do_ 13 (dL 13 [1] [b4] [Z0o (Step.mk x1.op x1.num x1.into x1.args ks)] 1 5 ?_))
  intro v9
  refine dtk (fuel:=3) 3 [] (.n 98 (.sl [Z0o (Step.mk x1.op x1.num x1.into x1.args ks)] none) (.p .r)) (do_ 14 (dp 14 8 [] [] (Zu (xs++[Step.mk x1.op x1.num x1.into x1.args ks])) (Zu xs) [Z0o (Step.mk x1.op x1.num x1.into x1.args ks)] v none 5 (Z1w _) (Z5u rfl) rfl (by simp<;>omega) (by simp [Z2w,Z2l]) ?_))
  intro v10
  refine dtk (fuel:=1) 2 [15] (.n 100 (.p b4 0) .r) (do_ 16 (dS 16 4 [] [] b4 0 [Z1g (xs++[Step.mk x1.op x1.num x1.into x1.args ks]) v10] [Z1g xs v,.i b.result] [Z1g (xs++[Step.mk x1.op x1.num x1.into x1.args ks]) v10,.i b.result] (de (ar (irK 2 (.n 102 (.i x1.op) .r) [4] [b5] (ic [] (Z1l x1.op) ?_))))))
  rintro _ _ ⟨rfl,rfl⟩
  refine ie (Zan (fun F h=>F=[(2,.i (((if Z0q x1.op=true then q else q+1):Nat):Int)),(3,.p b1 0),(4,.p b2 0),(6,.p b3 0),(7,.p b4 0),(8,.i k)]∧h=[.obj b4 [Z1g (xs++[Step.mk x1.op x1.num x1.into x1.args ks]) v10,.i b.result],.obj b3 [nl,.i 0],.obj b2 (Z0l b),.obj b1 (Zh n),.tail v10 5]) (fun _ _=>rfl) ?_ ?_)
  ·refine ac (Zw x1.op) Iff.rfl (fun hc4=>?_) (fun hc4=>?_)
   ·refine az (ir 1 [(3,.p b1 0),(4,.p b2 0),(6,.p b3 0),(7,.p b4 0),(8,.i k),(104,.i q)] (ia (((q+1:Nat):Int)) (((q:Int))+(1)) (irk 1 (.n 2 (.i (q+1:Nat)) .r) (ie ?_))))
    exact ⟨[(2,.i (((if Z0q x1.op=true then q else q+1):Nat):Int)),(3,.p b1 0),(4,.p b2 0),(6,.p b3 0),(7,.p b4 0),(8,.i k)],[.obj b4 [Z1g (xs++[Step.mk x1.op x1.num x1.into x1.args ks]) v10,.i b.result],.obj b3 [nl,.i 0],.obj b2 (Z0l b),.obj b1 (Zh n),.tail v10 5],⟨rfl,rfl⟩,(wk [0,4,4,4,0] (fc (x:=.i (q+1:Nat)) (li (by rw [if_neg (fun z=>by rw [hdf,z] at hc4;cases hc4)])) fl))⟩
   refine ak ?_
   exact ⟨[(2,.i (((if Z0q x1.op=true then q else q+1):Nat):Int)),(3,.p b1 0),(4,.p b2 0),(6,.p b3 0),(7,.p b4 0),(8,.i k)],[.obj b4 [Z1g (xs++[Step.mk x1.op x1.num x1.into x1.args ks]) v10,.i b.result],.obj b3 [nl,.i 0],.obj b2 (Z0l b),.obj b1 (Zh n),.tail v10 5],⟨rfl,rfl⟩,(wk [0,4,4,4,0] (fc (x:=.i q) (li (by rw [if_pos (Classical.byContradiction fun z=>hc4 (by rw [hdf,Bool.eq_false_iff.2 z];rfl))])) fl))⟩
  rintro F h ⟨rfl,rfl⟩
  refine az (ir 1 [(2,.i (((if Z0q x1.op=true then q else q+1):Nat):Int)),(3,.p b1 0),(4,.p b2 0),(6,.p b3 0),(7,.p b4 0),(23,.i k)] (ia (((k+1:Nat):Int)) (((k:Int))+(1)) (irk 1 (.n 8 (.i (k+1:Nat)) .r) (ie ?_))))
  exact ⟨_,_,_,ob,⟨k+1,(if Z0q x1.op=true then q else q+1),(xs++[Step.mk x1.op x1.num x1.into x1.args ks]),v10,ob,(by split<;>omega),(by simp;omega),(by have h:=Z04i hx1 c0_3;rw [←hK] at h;exact h),rfl,rfl,rfl⟩,(wk [0,0,0,0,0] (fr (fr (fr (fr (fr (fc (x:=.i (k+1:Nat)) li fl)))))))⟩
 refine ax 0 (ar (irK 1 (.n 106 (.agg [Z1g xs v,.i b.result]) .r) [0] [b4] (iS 1 b3 0 [Z1g xs v,.i b.result] [nl,.i 0] [Z1g xs v,.i b.result] (ie ?_))))
 exact at_ (r3 [] [.agg [Z1g xs v,.i b.result]] [0] [(b3,b3)] ⟨rfl,rfl⟩ (AVLe.agg (.cons (AVLe.sl _ (congrArg Zu (by rw [Zjg];exact Z001 om c0_3))) (.cons (li (by rw [Zjg];rfl)) .nil))))
theorem Za1 (n:Normal) (hn:NOk n) (k:Nat):∀(b2:Block) (m2:Nat),(wB n.decls b2)→(m2+9*b2.sz≤900000000)→(b2.sz<k)→Z3 Tryz.prog 77 [Zi n,Zj b2,.i m2] [] (fun r h=>r=Zj (spB n.decls m2 b2)∧h=[]):=by
 induction k with
 | zero=>intro b mm _ _ h;omega
 | succ k ih=>intro b mm h1 h2 h3;exact Z9f n b mm hn h1 h2 fun b2 m2 k1 k2 k3=>ih b2 m2 k1 k2 om
theorem Zam (n:Normal) (b:Block) (mm:Nat) (hn:NOk n:=by exact ob) (hw:wB n.decls b:=by exact ob) (hb:mm+9*b.sz≤900000000:=by exact ob):Z3 Tryz.prog 77 [Zi n,Zj b,.i mm] [] (fun r h=>r=Zj (spB n.decls mm b)∧h=[]):=Za1 n hn (b.sz+1) b mm hw hb om
theorem Zfb (n:Normal) (hn:NOk n:=by exact ob) (hz:NSz n:=by exact ob) (hbt:∀r∈n.routines,0≤Zg n r.params r.body):Z3 Tryz.prog 36 [Zi n] [] (fun r h=>r=Zi (spN n)∧h=[]):=by
 have hzl:=hn.len
 refine enter Tryz.func36 kr (n:=38) kr kr (ar (iA (Zh n) ?_))
 intro b1
 refine iA [nl,nl] ?_
 intro b2
 refine ie (ar (iR 2 [(1,.p b1 0),(2,.p b2 0),(7,Z2 n.decls)] [1] [b1] (ic [] (Zi4 n.decls (hd:=hn.decls)) ?_)))
 rintro _ _ ⟨rfl,rfl⟩
 refine iL (Zo []) 0 5 ?_
 intro v1
 refine irk 1 (.n 10 (.agg [Z2 n.decls,Z4y [] v1]) .r) (iA [nl,nl] ?_)
 intro b3
 refine iS 0 b3 0 [Z2 n.decls,Z4y [] v1] [nl,nl] [Z2 n.decls,Z4y [] v1] (ie (aq (ar (irk 1 (.n 4 (.i 0) .r) (ie (ab 0 (al (fun m F h=>∃(k:Nat) (v:Value),(k≤n.routines.length)∧F=[(1,.p b1 0),(2,.p b2 0),(3,.p b3 0),(4,.i k)]∧h=[.obj b3 [Z2 n.decls,Z4y ((n.routines.take k).map (spR n.decls)) v],.obj b2 [nl,nl],.obj b1 (Zh n),.tail v 5]∧m=n.routines.length-k) _ _ _ ⟨0,v1,ob,rfl,rfl,rfl⟩ (wk [0,1,1,0] (fr (fr (fr (fc (x:=.i 0) li fl))))) ?_)))))))
 rintro m F h ⟨k,v,c0_0,rfl,rfl,rfl⟩
 refine aq (ar (irK 3 (.n 11 (.i k) (.n 13 (Zm n.routines) .r)) [2] [b1] (io (.i n.routines.length) (.i (((Zo n.routines).length:Nat):Int)) (li (by rw [Z09])) (irk 1 (.n 15 (.b (decide ((k:Int)<(n.routines.length:Int)))) .r) (ie (ac (decide ((k:Int)<(n.routines.length:Int))) dq (fun hc1=>?_) (fun hc1=>?_)))))))
 ·refine ak (aq (ab 1 (ar (irK 3 (.n 19 (Zm n.routines) (.n 20 (.i k) .r)) [2] [b1] ?_))))
  obtain ⟨x1,hx1⟩:=Z8 (xs:=n.routines) (j:=k) om
  have hrm:=List.mem_of_getElem? hx1
  have hbz:=hz.body _ hrm
  have hpl:=hn.params_at hx1
  have hll:=hn.lent_at hx1
  have hwb:=Zl7 hbt _ hrm
  refine is_ (Z0 (es:=Zo n.routines) (hv:=none) (j:=(k:Int)) (sz:=5) (y:=Z0n x1) kr om (Z0v hx1) rfl) (irk 1 (.n 22 (Z0n x1) .r) (iA [nl,nl,.i 0,nl,.i 0] ?_))
  intro b4
  refine iS 0 b4 0 (Z1m x1) [nl,nl,.i 0,nl,.i 0] (Z1m x1) (ie (aE 15 (dtK (fuel:=7) 15 [0,1,2,3,4,5,6,7] (.n 24 (Z4y ((n.routines.take k).map (spR n.decls)) v) (.n 25 (Z0n x1) (.n 26 (Zi n) (.n 28 (Zj x1.body) (.n 30 (nInt x1.params) .r))))) [1,0,3,0,0] [b3,b4,b1,b4,b4] (dn 8 (.i x1.params.length) (.i (((Z6 x1.params).length:Nat):Int)) (li (by rw [Z5])) (do_ 9 (dc 9 [] [0,1] [b4,b3] (Zam n x1.body x1.params.length (hw:=hwb)) ?_))))))
  rintro _ _ ⟨rfl,rfl⟩
  refine do_ 10 (dc 10 [] [1] [b3] (Zkw x1 (spB n.decls x1.params.length x1.body)) ?_)
  rintro _ _ ⟨rfl,rfl⟩
  refine do_ 11 (dL 11 [1] [b3] (Zo [Routine.mk x1.params x1.lent x1.result (spB n.decls x1.params.length x1.body)]) 1 5 ?_)
  intro v2
  refine dtk (fuel:=3) 3 [] (.n 34 (Zm [Routine.mk x1.params x1.lent x1.result (spB n.decls x1.params.length x1.body)]) (.p .r)) (do_ 12 (dp 12 5 [] [] (Zo ((n.routines.take (k+1)).map (spR n.decls))) (Zo ((n.routines.take k).map (spR n.decls))) (Zo [Routine.mk x1.params x1.lent x1.result (spB n.decls x1.params.length x1.body)]) v none 5 (Zc5 _) (Zc5 _) (Zjv _) (by simp<;>omega) (by rw [Z1y hx1];simp [Zo,spR]) ?_))
  intro v3
  refine dtk (fuel:=1) 2 [13] (.n 36 (.p b3 1) .r) (do_ 14 (dS 14 3 [] [] b3 1 [Z4y ((n.routines.take (k+1)).map (spR n.decls)) v3] [Z2 n.decls,Z4y ((n.routines.take k).map (spR n.decls)) v] [Z2 n.decls,Z4y ((n.routines.take (k+1)).map (spR n.decls)) v3] (de (az (irk 1 (.n 16 (.i k) .r) (ia (((k+1:Nat):Int)) (((k:Int))+(1)) (ir 1 [(1,.p b1 0),(2,.p b2 0),(3,.p b3 0),(4,.i (k+1:Nat))] (ie ?_))))))))
  exact ⟨_,_,_,ob,⟨k+1,v3,ob,rfl,rfl,rfl⟩,(wk [0,3,3,0] (fr (fr (fr (fc (x:=.i (k+1:Nat)) li fl)))))⟩
 refine ax 0 (ar (irK 1 (.n 37 (.agg [Z2 n.decls,Z4y ((n.routines.take k).map (spR n.decls)) v]) .r) [0] [b3] (iS 1 b2 0 [Z2 n.decls,Z4y ((n.routines.take k).map (spR n.decls)) v] [nl,nl] [Z2 n.decls,Z4y ((n.routines.take k).map (spR n.decls)) v] (ie ?_))))
 exact at_ (r3 [] [.agg [Z2 n.decls,Z4y ((n.routines.take k).map (spR n.decls)) v]] [0] [(b2,b2)] ⟨rfl,rfl⟩ (AVLe.agg (.cons (AVLe.sl _ (congrArg Zt ob)) (.cons (AVLe.sl _ (congrArg Zo (by rw [List.take_of_length_le om];rfl))) .nil))))
theorem Zhf (n:Normal) (hz:NSz n):Z3 Tryz.prog 13 [Zi n] [] (fun r h=>r=.tup [Zi ((Z1k n).1),.b ((Z1k n).2)]∧h=[]):=by
 refine enter Tryz.func13 kr (n:=13) kr kr (ar (iA (Zh n) ?_))
 intro b1
 refine iA [nl,nl] ?_
 intro b2
 refine ir 1 [(1,.p b1 0),(2,.p b2 0)] (ie (aq (ar (irK 1 (.n 4 (Zi n) .r) [1] [b1] (ic [] (Zf9 n) ?_)))))
 rintro _ _ ⟨rfl,rfl⟩
 refine irk 1 (.n 6 (.b (!Z2j n)) .r) (ie (ac (!Z2j n) (p:=¬(Z2j n=true)) (Zc Iff.rfl) (fun hc1=>?_) (fun hc1=>?_)))
 ·refine ar (irk 1 (.n 7 (.agg [nl,nl]) .r) (iS 0 b2 0 [nl,nl] [nl,nl] [nl,nl] (irk 1 (.n 3 (.b false) .r) (ie ?_))))
  have hE:Z1k n=(noN,false):=if_neg hc1
  exact at_ (r3 [] [.agg [nl,nl],.b false] [0] [(b2,b2)] ⟨rfl,rfl⟩ (AVLe.tup (.cons (AVLe.agg (.cons (AVLe.sl _ (by rw [hE];rfl)) (.cons (AVLe.sl _ (by rw [hE];rfl)) .nil))) (.cons (lb (by rw [hE])) .nil))))
 have hB:Z2j n=true:=Classical.not_not.1 hc1
 obtain ⟨hn,hsg,hbt⟩:=Z7t hz hB
 have hnl:=hn.len
 refine ak (ar (irK 1 (.n 8 (Zi n) .r) [1] [b1] (ic [] (Zfb n (hbt:=hbt)) ?_)))
 rintro _ _ ⟨rfl,rfl⟩
 refine ic [] (Zwn (spN n) (hl:=(by simp only [spN,List.length_map];omega)) (hb:=(Zqm hn hz hbt))) ?_
 rintro _ _ (⟨rfl,rfl,hp1⟩|⟨rfl,rfl,hp2⟩)
 ·have hE:Z1k n=(spN n,true):=by rw [Z1k,if_pos hB,if_pos hp1]
  refine irk 2 (.n 11 (Zi (spN n)) (.n 12 (.b true) .r)) (iS 0 b2 0 (Zh (spN n)) [nl,nl] (Zh (spN n)) (irk 1 (.n 3 (.b true) .r) (ie ?_)))
  exact at_ (r3 [] [Zi (spN n),.b true] [0] [(b2,b2)] ⟨rfl,rfl⟩ (AVLe.tup (.cons (AVLe.agg (.cons (AVLe.sl _ (congrArg Zt (by rw [hE]))) (.cons (AVLe.sl _ (congrArg Zo (by rw [hE]))) .nil))) (.cons (lb (by rw [hE])) .nil))))
 have hE:Z1k n=(noN,false):=by rw [Z1k,if_pos hB,if_neg (by rw [hp2];simp)]
 refine irk 2 (.n 11 (.agg [Z2 [],Zm []]) (.n 12 (.b false) .r)) (iS 0 b2 0 [Z2 [],Zm []] [nl,nl] [Z2 [],Zm []] (irk 1 (.n 3 (.b false) .r) (ie ?_)))
 exact at_ (r3 [] [.agg [Z2 [],Zm []],.b false] [0] [(b2,b2)] ⟨rfl,rfl⟩ (AVLe.tup (.cons (AVLe.agg (.cons (AVLe.sl _ (congrArg Zt (by rw [hE];rfl))) (.cons (AVLe.sl _ (congrArg Zo (by rw [hE];rfl))) .nil))) (.cons (lb (by rw [hE])) .nil))))
end Go.Abs
end
section
namespace Go.Abs
open Go.Proofs
theorem Z02g (op:Int) :Z3 Tryz.prog 79 [.i op] [] (fun r h=>r=.b ((op==14)||(op==15))∧h=[]):=by
 refine enter Tryz.func79 kr (n:=9) kr kr (ar (ir 1 [(0,.i op)] (ie (ar (Z1i 6 [(8,.b ((op==14)||(op==15)))] [] ?_ (fun hj1=>?_))))))
 ·refine ir 1 [(2,.b ((op==14)||(op==15)))] (ie ?_)
  exact at_ (r1 [] ⟨rfl,rfl⟩)
 refine ir 3 [(0,.i op),(5,.b (op==14))] (ib (b:=(op==14)) 5 (fun hb1=>?_) (fun hb1=>?_))
 ·have hp1:op=14:=(beq_iff_eq).1 hb1
  refine ir 3 [(8,.b true)] ?_
  exact Zz (wk [] (fc (x:=.b true) (lb (by simp only [hb1];rfl)) fl)) hj1
 have hp2:¬(op=14):=Zd beq_iff_eq hb1
 refine ir 3 [(8,.b (op==15))] ?_
 exact Zz (wk [] (fc (x:=.b (op==15)) (lb (by simp only [hb1];rfl)) fl)) hj1
theorem Zyx (s:Step) (q:Nat) :Z3 Tryz.prog 134 [Z0o s,.p q 0] [.obj q [.val (.func (.func 79) #[] #[])]] (fun r h=>r=.b (!((s.op==14)||(s.op==15)))∧h=[.obj q [.val (.func (.func 79) #[] #[])]]):=by
 refine enter Tryz.func134 kr (n:=9) kr kr (ar (iA (Z0g s) ?_))
 intro b1
 refine ir 1 [(1,.p q 0),(2,.p b1 0)] (ie (ar (iR 3 [(4,.val (.func (.func 79) #[] #[])),(6,.i s.op)] [1,0] [q,b1] (ic [] (Z02g s.op) ?_))))
 rintro _ _ ⟨rfl,rfl⟩
 refine ir 2 [(3,.b (!((s.op==14)||(s.op==15))))] (ie ?_)
 exact at_ (r1 [1] ⟨rfl,rfl⟩)
theorem Zrv (xs:List Step) (q:Nat) (hl:xs.length≤1000000000:=by exact ob):Z3 Tryz.prog 90 [Z0h xs,.val (.func (.func 134) #[] #[.pointer (some ⟨q,0,none⟩)])] [.obj q [.val (.func (.func 79) #[] #[])]] (fun r h=>(r=.i (((runF xs):Nat):Int)∧h=[.obj q [.val (.func (.func 79) #[] #[])]]∧runF xs<xs.length)∨(r=.i (-1)∧h=[.obj q [.val (.func (.func 79) #[] #[])]]∧runF xs=xs.length)):=by
 refine enter Tryz.func90 kr (n:=19) kr kr (ar (ir 1 [(0,Z0h xs),(1,.val (.func (.func 134) #[] #[.pointer (some ⟨q,0,none⟩)]))] (ie (aq (ar (irk 1 (.n 6 (Z0h xs) .r) (io (.i xs.length) (.i (((Zu xs).length:Nat):Int)) (li (by rw [Z0w])) (irk 1 (.n 8 (.i 0) .r) (ie (ab 0 (al (fun m F h=>∃(k:Nat),(k≤xs.length)∧(k+runF (xs.drop k)=runF xs)∧F=[(0,Z0h xs),(1,.val (.func (.func 134) #[] #[.pointer (some ⟨q,0,none⟩)])),(7,.i xs.length),(8,.i k)]∧h=[.obj q [.val (.func (.func 79) #[] #[])]]∧m=xs.length-k) _ _ _ ⟨0,ob,(by simp),rfl,rfl,rfl⟩ (wk [0] (fr (fr (fr (fc (x:=.i 0) li fl))))) ?_)))))))))))
 rintro m F h ⟨k,c0_0,c0_1,rfl,rfl,rfl⟩
 refine ar (irk 1 (.n 9 (.b (decide ((k:Int)<(xs.length:Int)))) .r) (ie (aq (ac (decide ((k:Int)<(xs.length:Int))) dq (fun hc1=>?_) (fun hc1=>?_)))))
 ·refine ak (aq (ab 1 (ar (irk 2 (.n 5 (.i k) .r) (ie (ar (irk 3 (.n 11 (.val (.func (.func 134) #[] #[.pointer (some ⟨q,0,none⟩)])) (.n 12 (Z0h xs) (.n 13 (.i k) .r))) ?_)))))))
  obtain ⟨x1,hx1⟩:=Z8 (xs:=xs) (j:=k) om
  refine is_ (Z0 (es:=Zu xs) (hv:=none) (j:=(k:Int)) (sz:=5) (y:=Z0o x1) kr om (Z1r hx1) rfl) (irk 1 (.n 15 (Z0o x1) .r) (ic [0] (Zyx x1 q) ?_))
  rintro _ _ ⟨rfl,rfl⟩
  refine ie (ac (!((x1.op==14)||(x1.op==15))) (p:=¬((x1.op=14)∨(x1.op=15))) (Zc (Zf beq_iff_eq beq_iff_eq)) (fun hc2=>?_) (fun hc2=>?_))
  ·refine ar (ir 2 [(4,.i k)] (ie ?_))
   have hE:=Zmu hx1 hc2 c0_1
   exact at_ (r2 [0] [.i k] (.inl ⟨rfl,rfl,ob⟩) li)
  refine ak (az (ia (((k+1:Nat):Int)) (((k:Int))+(1)) (irk 1 (.n 8 (.i (k+1:Nat)) (.p (.p (.d (.p (.d (.d (.d (.d (.d (.k (.k (.k .z))))))))))))) (ie ?_))))
  exact ⟨_,_,_,ob,⟨k+1,ob,(Zmt hx1 (Classical.not_not.1 hc2) c0_1),rfl,rfl,rfl⟩,(wk [0] (fr (fr (fr (fc (x:=.i (k+1:Nat)) li fl)))))⟩
 refine ax 0 (ar (ir 1 [(4,.i (-1))] (ie ?_)))
 have hE:=Zqf om c0_1
 exact at_ (r1 [0] (.inr ⟨rfl,rfl,ob⟩))
theorem Zk5 (b:Block) (hz:b.steps.length≤1000000000:=by exact ob):Z3 Tryz.prog 78 [Zj b,.val (.func (.func 79) #[] #[])] [] (fun r h=>r=.i (((runF b.steps):Nat):Int)∧h=[]):=by
 refine enter Tryz.func78 kr (n:=16) kr kr (ar (iA (Z0l b) ?_))
 intro b1
 refine iA [.val (.func (.func 79) #[] #[])] ?_
 intro b2
 refine ir 1 [(2,.p b1 0),(3,.p b2 0)] (ie (ar (irK 3 (.n 7 (Z0h b.steps) (.n 8 (.val (.func (.func 134) #[] #[.pointer (some ⟨b2,0,none⟩)])) .r)) [1] [b1] (ic [0] (Zrv b.steps b2) ?_))))
 rintro _ _ (⟨rfl,rfl,hp1⟩|⟨rfl,rfl,hp2⟩)
 ·refine irk 1 (.n 5 (.i (((runF b.steps):Nat):Int)) .r) (ie (aq (ar (irk 2 (.n 11 (.b (decide ((((runF b.steps):Nat):Int)<0))) .r) (ie (ac (decide ((((runF b.steps):Nat):Int)<0)) dq (fun hc1=>?_) (fun hc1=>?_)))))))
  ·refine ar (iR 2 [(13,Z0h b.steps)] [1] [b1] (io (.i b.steps.length) (.i (((Zu b.steps).length:Nat):Int)) (li (by rw [Z0w])) (ir 1 [(4,.i b.steps.length)] (ie ?_))))
   exact at_ (r2 [] [.i b.steps.length] ⟨rfl,rfl⟩ li)
  refine ak (ar (ir 2 [(4,.i (((runF b.steps):Nat):Int))] (ie ?_)))
  exact at_ (r1 [] ⟨rfl,rfl⟩)
 refine irk 1 (.n 5 (.i (-1)) .r) (ie (aq (ar (irk 2 (.n 11 (.b (decide ((-1)<0))) .r) (ie (ac (decide ((-1)<0)) dq (fun hc2=>?_) (fun hc2=>?_)))))))
 ·refine ar (iR 2 [(13,Z0h b.steps)] [1] [b1] (io (.i b.steps.length) (.i (((Zu b.steps).length:Nat):Int)) (li (by rw [Z0w])) (ir 1 [(4,.i b.steps.length)] (ie ?_))))
  exact at_ (r2 [] [.i b.steps.length] ⟨rfl,rfl⟩ li)
 refine ak (ar (ir 2 [(4,.i (-1))] (ie ?_)))
 exact at_ (r2 [] [.i (-1)] ⟨rfl,rfl⟩ li)
theorem Zqo (s:Step) (a:Arm) (q:Nat) (ha:s.op=15→∃v,s.args=[v]:=by exact ob):Z3 Tryz.prog 80 [Z0o s,.p q 0] [.obj q [.i a.mat,.i a.fst,nInt a.fds,.b a.chg]] (fun r h=>r=.b ((s.op==15)&&(gI s.args 0==a.mat))∧h=[.obj q [.i a.mat,.i a.fst,nInt a.fds,.b a.chg]]):=by
 refine enter Tryz.func80 kr (n:=16) kr kr (ar (iA (Z0g s) ?_))
 intro b1
 refine ir 1 [(1,.p q 0),(2,.p b1 0)] (ie (aD 13 (dtK (fuel:=9) 13 [0,1,2,3] (.n 7 (.b (s.op==15)) .r) [0] [b1] (db (b:=(s.op==15)) 7 (fun hb1=>?_) (fun hb1=>?_)))))
 ·have hp1:s.op=15:=(beq_iff_eq).1 hb1
  refine dtK (fuel:=7) 9 [4,5] (.n 9 (nInt s.args) (.k (.d .r))) [0] [b1] ?_
  obtain ⟨x1,hx1⟩:=Z8 (xs:=s.args) (j:=0) (by obtain ⟨v,hv⟩:=ha (by assumption);rw [hv];simp)
  have hg0:=gI0 hx1
  refine dx 6 (Z0 (es:=Z6 s.args) (hv:=none) (j:=0) (sz:=1) (y:=.i x1) kr om (Za hx1) rfl) (dT (fuel:=0) 6 [7,8,9,10,11,12] [(3,.b (x1==a.mat))] [1] [q] (de ?_))
  exact at_ (r2 [1] [.b (x1==a.mat)] ⟨rfl,rfl⟩ (lb (by rw [hg0];simp [hp1])))
 have hp2:¬(s.op=15):=Zd beq_iff_eq hb1
 refine dt (fuel:=0) 9 [4,5,6,7,8,9,10,11,12] [(3,.b false)] (de ?_)
 exact at_ (r2 [1] [.b false] ⟨rfl,rfl⟩ lb)
theorem Zru (xs:List Step) (a:Arm) (q:Nat) (hl:xs.length≤1000000000:=by exact ob) (ha:∀s∈xs,s.op=15→∃v,s.args=[v]):Z3 Tryz.prog 90 [Z0h xs,.val (.func (.func 80) #[] #[.pointer (some ⟨q,0,none⟩)])] [.obj q [.i a.mat,.i a.fst,nInt a.fds,.b a.chg]] (fun r h=>(∃(i:Nat),r=.i i∧h=[.obj q [.i a.mat,.i a.fst,nInt a.fds,.b a.chg]]∧a.mat∈Z1d 15 xs)∨(r=.i (-1)∧h=[.obj q [.i a.mat,.i a.fst,nInt a.fds,.b a.chg]]∧¬a.mat∈Z1d 15 xs)):=by
 refine enter Tryz.func90 kr (n:=19) kr kr (ar (ir 1 [(0,Z0h xs),(1,.val (.func (.func 80) #[] #[.pointer (some ⟨q,0,none⟩)]))] (ie (aq (ar (irk 1 (.n 6 (Z0h xs) .r) (io (.i xs.length) (.i (((Zu xs).length:Nat):Int)) (li (by rw [Z0w])) (irk 1 (.n 8 (.i 0) .r) (ie (ab 0 (al (fun m F h=>∃(k:Nat),(k≤xs.length)∧(∀s∈xs.take k,¬(s.op=15∧gI s.args 0=a.mat))∧F=[(0,Z0h xs),(1,.val (.func (.func 80) #[] #[.pointer (some ⟨q,0,none⟩)])),(7,.i xs.length),(8,.i k)]∧h=[.obj q [.i a.mat,.i a.fst,nInt a.fds,.b a.chg]]∧m=xs.length-k) _ _ _ ⟨0,ob,(by simp),rfl,rfl,rfl⟩ (wk [0] (fr (fr (fr (fc (x:=.i 0) li fl))))) ?_)))))))))))
 rintro m F h ⟨k,c0_0,c0_1,rfl,rfl,rfl⟩
 refine ar (irk 1 (.n 9 (.b (decide ((k:Int)<(xs.length:Int)))) .r) (ie (aq (ac (decide ((k:Int)<(xs.length:Int))) dq (fun hc1=>?_) (fun hc1=>?_)))))
 ·refine ak (aq (ab 1 (ar (irk 2 (.n 5 (.i k) .r) (ie (ar (irk 3 (.n 11 (.val (.func (.func 80) #[] #[.pointer (some ⟨q,0,none⟩)])) (.n 12 (Z0h xs) (.n 13 (.i k) .r))) ?_)))))))
  obtain ⟨x1,hx1⟩:=Z8 (xs:=xs) (j:=k) om
  refine is_ (Z0 (es:=Zu xs) (hv:=none) (j:=(k:Int)) (sz:=5) (y:=Z0o x1) kr om (Z1r hx1) rfl) (irk 1 (.n 15 (Z0o x1) .r) (ic [0] (Zqo x1 a q (ha:=(ha _ (List.mem_of_getElem? hx1)))) ?_))
  rintro _ _ ⟨rfl,rfl⟩
  refine ie (ac ((x1.op==15)&&(gI x1.args 0==a.mat)) (p:=(x1.op=15)∧(gI x1.args 0=a.mat)) (Zk beq_iff_eq beq_iff_eq) (fun hc2=>?_) (fun hc2=>?_))
  ·refine ar (ir 2 [(4,.i k)] (ie ?_))
   exact at_ (r1 [0] (.inl ⟨k,rfl,rfl,(Zco.2 ⟨x1,List.mem_of_getElem? hx1,hc2.1,hc2.2⟩)⟩))
  refine ak (az (ia (((k+1:Nat):Int)) (((k:Int))+(1)) (irk 1 (.n 8 (.i (k+1:Nat)) (.p (.p (.d (.p (.d (.d (.d (.d (.d (.k (.k (.k .z))))))))))))) (ie ?_))))
  exact ⟨_,_,_,ob,⟨k+1,ob,(Zzj hx1 c0_1 hc2),rfl,rfl,rfl⟩,(wk [0] (fr (fr (fr (fc (x:=.i (k+1:Nat)) li fl)))))⟩
 refine ax 0 (ar (ir 1 [(4,.i (-1))] (ie ?_)))
 exact at_ (r1 [0] (.inr ⟨rfl,rfl,(Zr1 c0_1 om)⟩))
theorem Zjt (xs:List Step) (a:Arm) (q:Nat) (hl:xs.length≤1000000000:=by exact ob) (ha:∀s∈xs,s.op=15→∃v,s.args=[v]):Z3 Tryz.prog 81 [Z0h xs,.val (.func (.func 80) #[] #[.pointer (some ⟨q,0,none⟩)])] [.obj q [.i a.mat,.i a.fst,nInt a.fds,.b a.chg]] (fun r h=>r=.b (decide (a.mat∈Z1d 15 xs))∧h=[.obj q [.i a.mat,.i a.fst,nInt a.fds,.b a.chg]]):=by
 refine enter Tryz.func81 kr (n:=9) kr kr (ar (ir 1 [(0,Z0h xs),(1,.val (.func (.func 80) #[] #[.pointer (some ⟨q,0,none⟩)]))] (ie (ar (ir 2 [(5,Z0h xs),(6,.val (.func (.func 80) #[] #[.pointer (some ⟨q,0,none⟩)]))] (ic [0] (Zru xs a q (ha:=ha)) ?_))))))
 rintro _ _ (⟨i1,rfl,rfl,hp1⟩|⟨rfl,rfl,hp2⟩)
 ·refine ir 2 [(4,.b (decide ((i1:Int)≥0)))] (ie ?_)
  exact at_ (r2 [0] [.b (decide ((i1:Int)≥0))] ⟨rfl,rfl⟩ lb)
 refine ir 2 [(4,.b (decide ((-1)≥0)))] (ie ?_)
 exact at_ (r2 [0] [.b (decide ((-1)≥0))] ⟨rfl,rfl⟩ lb)
theorem Zxd (w:Int) (v:Int) (q:Nat) :Z3 Tryz.prog 137 [.i w,.p q 0] [.obj q [.i v]] (fun r h=>r=.b (w != v)∧h=[.obj q [.i v]]):=by
 refine enter Tryz.func137 kr (n:=7) kr kr (ar (ir 1 [(0,.i w),(1,.p q 0)] (ie (ar (iR 4 [(3,.b (w != v))] [0] [q] (ie ?_))))))
 exact at_ (r1 [0] ⟨rfl,rfl⟩)
theorem Zwc (xs:List Int) (v:Int) (q:Nat) (hl_xs:xs.length≤4294967296:=by exact ob):Z3 Tryz.prog 136 [nInt xs,.val (.func (.func 137) #[] #[.pointer (some ⟨q,0,none⟩)])] [.obj q [.i v]] (fun r h=>r=nInt (neF xs v)∧h=[.obj q [.i v]]):=by
 refine enter Tryz.func136 kr (n:=23) kr kr (ar (ir 1 [(0,nInt xs),(1,.val (.func (.func 137) #[] #[.pointer (some ⟨q,0,none⟩)]))] (ie (ar (irk 1 (.n 5 (nl) .r) (ie (aq (ar (irk 1 (.n 8 (nInt xs) .r) (io (.i xs.length) (.i (((Z6 xs).length:Nat):Int)) (li (by rw [Z5])) (irk 1 (.n 10 (.i 0) .r) (ie (ab 0 (Z50 1 (al (fun m F h=>∃(k:Nat) (acc:List Int) (u:Value),(k≤xs.length)∧(acc.length≤k)∧(acc++neF (xs.drop k) v=neF xs v)∧F=[(1,.val (.func (.func 137) #[] #[.pointer (some ⟨q,0,none⟩)])),(5,oInt acc u),(8,nInt xs),(9,.i xs.length),(10,.i k)]∧h=[.obj q [.i v],.tail u 1]∧m=xs.length-k) _ _ _ ⟨0,[],(.slice none 0 0),ob,ob,ob,rfl,rfl,rfl⟩ (wk [1,0] (fr (fc (x:=nl) (AVLe.slh _ (by first|rfl|(subst_vars;rfl))) (fr (fr (fc (x:=.i 0) li fl)))))) ?_)))))))))))))))
 rintro m F h ⟨k,acc,u,c0_0,c0_1,c0_2,rfl,rfl,rfl⟩
 refine ar (irk 1 (.n 11 (.b (decide ((k:Int)<(xs.length:Int)))) .r) (ie (aq (ac (decide ((k:Int)<(xs.length:Int))) dq (fun hc1=>?_) (fun hc1=>?_)))))
 ·refine ak (aq (ab 1 (ar ?_)))
  obtain ⟨x1,hx1⟩:=Z8 (xs:=xs) (j:=k) om
  refine is_ (Z0 (es:=Z6 xs) (hv:=none) (j:=(k:Int)) (sz:=1) (y:=.i x1) kr om (Za hx1) rfl) (irk 2 (.n 7 (.i x1) .r) (ie (ar (irk 2 (.n 14 (.val (.func (.func 137) #[] #[.pointer (some ⟨q,0,none⟩)])) (.n 15 (.i x1) .r)) (ic [0] (Zxd x1 v q) ?_)))))
  rintro _ _ ⟨rfl,rfl⟩
  refine ie (Zan (fun F h=>∃(w:Value),F=[(1,.val (.func (.func 137) #[] #[.pointer (some ⟨q,0,none⟩)])),(5,oInt (if (x1 != v)=true then acc++[x1] else acc) w),(8,nInt xs),(9,.i xs.length),(10,.i k)]∧h=[.obj q [.i v],.tail w 1]) (fun _ _=>rfl) ?_ ?_)
  ·refine ac (x1 != v) bne_iff_ne (fun hc2=>?_) (fun hc2=>?_)
   ·refine az (ir 2 [(1,.val (.func (.func 137) #[] #[.pointer (some ⟨q,0,none⟩)])),(8,nInt xs),(9,.i xs.length),(10,.i k),(17,oInt acc u),(18,.i x1)] (iL (Z6 [x1]) 1 1 ?_))
    intro v1
    refine irk 0 (.n 19 (nInt [x1]) (.p .r)) (ip 2 (Z6 (acc++[x1])) (Z6 acc) (Z6 [x1]) u none 1 (Z0x _) (Z0x _) (Z3n _) (by simp<;>omega) (by simp [Z24,Z6]) ?_)
    intro v2
    refine irk 1 (.n 5 (oInt (acc++[x1]) v2) .r) (ie ?_)
    exact ⟨[(1,.val (.func (.func 137) #[] #[.pointer (some ⟨q,0,none⟩)])),(5,oInt (if (x1 != v)=true then acc++[x1] else acc) v2),(8,nInt xs),(9,.i xs.length),(10,.i k)],[.obj q [.i v],.tail v2 1],⟨v2,rfl,rfl⟩,(wk [2,0] (fr (fc (x:=oInt (acc++[x1]) v2) (AVLe.slh _ (congrArg Z6 (by first|rfl|(rw [if_pos hc2])|(rw [if_neg hc2])|(simp [hc2];done)|(rw [Bool.eq_iff_iff];simp [hc2];done)|omega))) fl)))⟩
   refine ak ?_
   exact ⟨[(1,.val (.func (.func 137) #[] #[.pointer (some ⟨q,0,none⟩)])),(5,oInt (if (x1 != v)=true then acc++[x1] else acc) u),(8,nInt xs),(9,.i xs.length),(10,.i k)],[.obj q [.i v],.tail u 1],⟨u,rfl,rfl⟩,(wk [0,0] (fr (fc (x:=oInt acc u) (AVLe.slh _ (congrArg Z6 (by first|rfl|(rw [if_pos hc2])|(rw [if_neg hc2])|(simp [hc2];done)|(rw [Bool.eq_iff_iff];simp [hc2];done)|omega))) fl)))⟩
  rintro F h ⟨w,rfl,rfl⟩
  refine az (ia (((k+1:Nat):Int)) (((k:Int))+(1)) (ir 1 [(1,.val (.func (.func 137) #[] #[.pointer (some ⟨q,0,none⟩)])),(5,oInt (if (x1 != v)=true then acc++[x1] else acc) w),(8,nInt xs),(9,.i xs.length),(10,.i (k+1:Nat))] (ie ?_)))
  exact ⟨_,_,_,ob,⟨k+1,(if (x1 != v)=true then acc++[x1] else acc),w,ob,(by split<;>(try simp)<;>omega),(Z043 hx1 c0_2),rfl,rfl,rfl⟩,(wk [0,0] (fr (fr (fr (fr (fc (x:=.i (k+1:Nat)) li fl))))))⟩
 refine ax 0 (ar (ir 2 [(4,oInt acc u)] (ie ?_)))
 exact at_ (r2 [0] [oInt acc u] ⟨rfl,rfl⟩ (AVLe.sl _ (congrArg Z6 (Z01h om c0_2))))
theorem Zov (xs:List Int) (v:Int) (hl_xs:xs.length≤4294967296:=by exact ob):Z3 Tryz.prog 83 [nInt xs,.i v] [] (fun r h=>r=nInt (neF xs v)∧h=[]):=by
 refine enter Tryz.func83 kr (n:=8) kr kr (ar (iA [.i v] ?_))
 intro b1
 refine ir 1 [(0,nInt xs),(3,.p b1 0)] (ie (ar (ir 2 [(5,nInt xs),(6,.val (.func (.func 137) #[] #[.pointer (some ⟨b1,0,none⟩)]))] (ic [0] (Zwc xs v b1) ?_))))
 rintro _ _ ⟨rfl,rfl⟩
 refine ir 1 [(4,nInt (neF xs v))] (ie ?_)
 exact at_ (r1 [] ⟨rfl,rfl⟩)
theorem Zr7 (xs:List Int) (v:Int) (hl:xs.length≤1000000000:=by exact ob) (hs:xs.Pairwise (·<·):=by exact ob):Z3 Tryz.prog 135 [nInt xs,.i v] [] (fun r h=>∃(q:Nat),r=.tup [.i q,.b (decide (v∈xs))]∧h=[]):=by
 refine enter Tryz.func135 kr (n:=54) kr kr (ar (ir 2 [(0,nInt xs),(1,.i v)] (ie (ar (irk 1 (.n 10 (nInt xs) .r) (io (.i xs.length) (.i (((Z6 xs).length:Nat):Int)) (li (by rw [Z5])) (irk 1 (.n 6 (.i xs.length) .r) (ie (ar (irk 3 (.n 7 (.i 0) (.n 8 (.i xs.length) .r)) (ie (aq (ab 0 (al (fun m F h=>∃(lo:Nat) (hi:Nat),(lo≤hi)∧(hi≤xs.length)∧(∀(j:Nat) (x:Int),j<lo→xs[j]? = some x→x<v)∧(∀(j:Nat) (x:Int),hi≤j→xs[j]? = some x→v≤x)∧F=[(0,nInt xs),(1,.i v),(6,.i xs.length),(7,.i lo),(8,.i hi)]∧h=[]∧m=hi-lo) _ _ _ ⟨0,xs.length,ob,ob,(fun j x h=>absurd h om),(fun j x h hx=>absurd (List.getElem?_eq_some_iff.1 hx).1 om),rfl,rfl,rfl⟩ (wk [] (fr (fr (fr (fc (x:=.i 0) li fl))))) ?_))))))))))))))
 rintro m F h ⟨lo,hi,c0_0,c0_1,c0_2,c0_3,rfl,rfl,rfl⟩
 refine aq (ar (irk 3 (.n 15 (.b (decide ((lo:Int)<(hi:Int)))) .r) (ie (ac (decide ((lo:Int)<(hi:Int))) dq (fun hc1=>?_) (fun hc1=>?_)))))
 ·refine ak (ab 1 (ar (irk 2 (.n 16 (.i lo) (.n 17 (.i hi) .r)) (ia (((lo+hi:Nat):Int)) (((lo:Int))+((hi:Int))) (is_ (kToU (lo+hi) om) (is_ (kShr (lo+hi)) (is_ (kToI ((lo+hi) / 2) om) (irk 1 (.n 9 (.i (((lo+hi) / 2:Nat):Int)) .r) (ie (ar (irk 2 (.n 22 (nInt xs) (.n 23 (.i (((lo+hi) / 2:Nat):Int)) .r)) ?_)))))))))))
  obtain ⟨x1,hx1⟩:=Z8 (xs:=xs) (j:=(lo+hi) / 2) om
  refine is_ (Z0 (es:=Z6 xs) (hv:=none) (j:=(((lo+hi) / 2:Nat):Int)) (sz:=1) (y:=.i x1) kr om (Za hx1) rfl) (irk 2 (.n 25 (.i x1) (.n 26 (.i v) .r)) (ic [] (Zpg x1 v) ?_))
  rintro _ _ ⟨rfl,rfl⟩
  refine ie (ac (decide (x1<v)) dq (fun hc2=>?_) (fun hc2=>?_))
  ·refine az (irk 1 (.n 28 (.i (((lo+hi) / 2:Nat):Int)) .r) (ia ((((lo+hi) / 2+1:Nat):Int)) (((((lo+hi) / 2:Nat):Int))+(1)) (ir 1 [(0,nInt xs),(1,.i v),(6,.i xs.length),(7,.i (((lo+hi) / 2+1:Nat):Int)),(8,.i hi)] (ie ?_))))
   exact ⟨_,_,_,ob,⟨(lo+hi) / 2+1,hi,ob,ob,(Z03c hs hx1 hc2),c0_3,rfl,rfl,rfl⟩,(wk [] (fr (fr (fr (fc (x:=.i (((lo+hi) / 2+1:Nat):Int)) li fl)))))⟩
  refine az (ir 2 [(0,nInt xs),(1,.i v),(6,.i xs.length),(7,.i lo),(8,.i (((lo+hi) / 2:Nat):Int))] (ie ?_))
  exact ⟨_,_,_,ob,⟨lo,(lo+hi) / 2,ob,ob,c0_2,(Z00j hs hx1 hc2),rfl,rfl,rfl⟩,(wk [] (fr (fr (fr (fr (fc (x:=.i (((lo+hi) / 2:Nat):Int)) li fl))))))⟩
 refine ax 0 (ar (irk 5 (.n 31 (.i lo) (.n 35 (.b (decide ((lo:Int)<(xs.length:Int)))) .r)) (ib (b:=(decide ((lo:Int)<(xs.length:Int)))) 35 (fun hb1=>?_) (fun hb1=>?_))))
 ·have hp1:(lo:Int)<(xs.length:Int):=(dq).1 hb1
  refine irk 2 (.n 36 (nInt xs) (.n 37 (.i lo) (.k (.k (.d .r))))) ?_
  obtain ⟨x2,hx2⟩:=Z8 (xs:=xs) (j:=lo) om
  refine is_ (Z0 (es:=Z6 xs) (hv:=none) (j:=(lo:Int)) (sz:=1) (y:=.i x2) kr om (Za hx2) rfl) (irk 4 (.n 42 (.b (x2==v)) .r) (ib (b:=(x2==v)) 42 (fun hb2=>?_) (fun hb2=>?_)))
  ·have hp2:x2=v:=(beq_iff_eq).1 hb2
   refine ir 13 [(4,.i lo),(5,.b true)] (ie ?_)
   exact at_ (r2 [] [.i lo,.b true] ⟨_,rfl,rfl⟩ (AVLe.tup (.cons li (.cons (lb (by have hm:v∈xs:=hp2▸List.mem_of_getElem? hx2;simp [hm])) .nil))))
  have hp3:¬(x2=v):=Zd beq_iff_eq hb2
  refine irk 2 (.n 43 (nInt xs) (.n 44 (.i lo) (.k (.d .r)))) (is_ (Z0 (es:=Z6 xs) (hv:=none) (j:=(lo:Int)) (sz:=1) (y:=.i x2) kr om (Za hx2) rfl) (irk 1 (.n 46 (.i x2) .r) (ic [] (Zev x2) ?_)))
  rintro _ _ ⟨rfl,rfl⟩
  refine ir 8 [(4,.i lo),(5,.b false)] (ie ?_)
  exact at_ (r2 [] [.i lo,.b false] ⟨_,rfl,rfl⟩ (AVLe.tup (.cons li (.cons (lb (by have hm:=Z04v hs c0_2 (fun j x hj=>c0_3 j x om) hx2 (by assumption);simp [hm])) .nil))))
 have hp4:¬((lo:Int)<(xs.length:Int)):=Zd dq hb1
 refine ir 20 [(4,.i lo),(5,.b false)] (ie ?_)
 exact at_ (r2 [] [.i lo,.b false] ⟨_,rfl,rfl⟩ (AVLe.tup (.cons li (.cons (lb (by have hm:=Z03d c0_2 om;simp [hm])) .nil))))
theorem Z023 (xs:List Int) (v:Int) (hl:xs.length≤1000000000:=by exact ob) (hs:xs.Pairwise (·<·):=by exact ob):Z3 Tryz.prog 82 [nInt xs,.i v] [] (fun r h=>r=.b (decide (v∈xs))∧h=[]):=by
 refine enter Tryz.func82 kr (n:=14) kr kr (ar (ir 1 [(0,nInt xs),(1,.i v)] (ie (ar (ir 2 [(8,nInt xs),(9,.i v)] (ic [] (Zr7 xs v) ?_))))))
 rintro _ _ ⟨q1,rfl,rfl⟩
 refine ir 5 [(6,.b (decide (v∈xs)))] (ie (ar (ir 2 [(4,.b (decide (v∈xs)))] (ie ?_))))
 exact at_ (r1 [] ⟨rfl,rfl⟩)
theorem Z04h (am:List Arm) (a:Arm) (b:Block) (hal:am.length≤900000000:=by exact ob) (hc:∀s∈b.steps,Z0q s.op=true→Cn s) (hf:a.fds.length≤3:=by exact ob) (hq:0≤a.fst∧a.fst≤1000000000:=by exact ob) (hz:b.steps.length≤900000000:=by exact ob):Z3 Tryz.prog 39 [nArm (am++[a]),Zj b] [] (fun r h=>r=Zj (apA b a.mat a.fds a.fst)∧h=[]):=by
 have hrl:=Zbf b.steps
 have hpl:(b.steps.take (runF b.steps)).length=runF b.steps:=by rw [List.length_take];omega
 have hlen:(am++[a]).length=am.length+1:=by simp
 refine enter Tryz.func39 kr (n:=120) kr kr (ar (iA (Z0l b) ?_))
 intro b1
 refine iA [nl,.i 0] ?_
 intro b2
 refine ie (ar (ir 2 [(3,.p b1 0),(4,.p b2 0),(17,nArm (am++[a])),(18,nArm (am++[a]))] (io (.i (((am++[a]).length:Nat):Int)) (.i (((Z3w (am++[a])).length:Nat):Int)) (li (by rw [Zel])) (ia ((am.length:Int)) (((((am++[a]).length:Nat):Int))-(1)) ?_))))
 obtain ⟨x1,hx1⟩:=Z8 (xs:=(am++[a])) (j:=am.length) om
 have hxq:x1=a:=by rw [List.getElem?_append_right om] at hx1;simpa using hx1.symm
 have hf1:(x1).fds.length≤3:=by rw [hxq];exact hf
 have hq1:0≤(x1).fst∧(x1).fst≤1000000000:=by rw [hxq];exact hq
 have hhl:=Zgp (x1).fds (x1).fst
 refine is_ (Z0 (es:=Z3w (am++[a])) (hv:=none) (j:=(am.length:Int)) (sz:=4) (y:=.agg [.i x1.mat,.i x1.fst,nInt x1.fds,.b x1.chg]) kr om (Zlp hx1) rfl) (irk 1 (.n 22 (.agg [.i x1.mat,.i x1.fst,nInt x1.fds,.b x1.chg]) .r) (iA [.i 0,.i 0,nl,.b false] ?_))
 intro b3
 refine iS 0 b3 0 [.i x1.mat,.i x1.fst,nInt x1.fds,.b x1.chg] [.i 0,.i 0,nl,.b false] [.i x1.mat,.i x1.fst,nInt x1.fds,.b x1.chg] (ie (ar (irK 1 (.n 23 (Zj b) .r) [2] [b1] (ic [] (Zk5 b) ?_))))
 rintro _ _ ⟨rfl,rfl⟩
 refine irk 1 (.n 6 (.i (((runF b.steps):Nat):Int)) .r) (ie (ar (irk 2 (.n 7 (.val (.func (.func 80) #[] #[.pointer (some ⟨b3,0,none⟩)])) .r) (ie (aq (ar (irK 2 (.n 27 (nInt x1.fds) .r) [0] [b3] (io (.i x1.fds.length) (.i (((Z6 x1.fds).length:Nat):Int)) (li (by rw [Z5])) (Z27 [(3,.p b1 0),(4,.p b2 0),(5,.p b3 0),(6,.i (((runF b.steps):Nat):Int)),(7,.val (.func (.func 80) #[] #[.pointer (some ⟨b3,0,none⟩)])),(38,.b (((x1.fds.length:Int)==0)||(!(decide (x1.mat∈Z1d 15 (b.steps.take (runF b.steps)))))))] [.obj b3 [.i x1.mat,.i x1.fst,nInt x1.fds,.b x1.chg],.obj b2 [nl,.i 0],.obj b1 (Z0l b)] ?_ ?_)))))))))
 ·refine ir 2 [(3,.p b1 0),(4,.p b2 0),(5,.p b3 0),(6,.i (((runF b.steps):Nat):Int)),(7,.val (.func (.func 80) #[] #[.pointer (some ⟨b3,0,none⟩)])),(30,.b ((x1.fds.length:Int)==0))] (ib (b:=((x1.fds.length:Int)==0)) 30 (fun hb1=>?_) (fun hb1=>?_))
  ·have hp1:(x1.fds.length:Int)=0:=(beq_iff_eq).1 hb1
   refine irk 8 (.n 38 (.b true) (.d (.k (.k (.k (.k (.k .z))))))) (ie ?_)
   exact wk [0,0,0] (fr (fr (fr (fr (fr (fc (x:=.b true) (lb (by simp only [hb1];rfl)) fl))))))
  have hp2:¬((x1.fds.length:Int)=0):=Zd beq_iff_eq hb1
  refine irK 3 (.n 32 (Z0h b.steps) (.n 33 (.i (((runF b.steps):Nat):Int)) (.k (.k (.k (.k (.k (.k .z)))))))) [2] [b1] (is_ (Z4s (es:=Zu b.steps) (hv:=none) (l:=0) (m:=(((runF b.steps):Nat):Int)) (sz:=5) (es':=Zu (b.steps.take (runF b.steps))) kr om (by simp<;>omega) (by simp<;>omega) (Z1w _) (by first|(simp only [Int.toNat_natCast,List.take_length,Z38,Z37];done)|(simp only [Int.toNat_natCast,List.take_length,Z38,Z37];rfl)|(simp [Z38,Z37];done))) (irk 1 (.n 35 (.val (.func (.func 80) #[] #[.pointer (some ⟨b3,0,none⟩)])) .r) (ic [0] (Zjt (b.steps.take (runF b.steps)) x1 b3 (ha:=(fun s hs h15=>Zsx (hc s (List.mem_of_mem_take hs) (by rw [h15];rfl))))) ?_)))
  rintro _ _ ⟨rfl,rfl⟩
  refine irk 2 (.n 38 (.b (!(decide (x1.mat∈Z1d 15 (b.steps.take (runF b.steps)))))) .r) (ie ?_)
  exact wk [0,0,0] (fr (fr (fr (fr (fr (fc (x:=.b (!(decide (x1.mat∈Z1d 15 (b.steps.take (runF b.steps)))))) (lb (by simp only [hb1];rfl)) fl))))))
 refine ac (((x1.fds.length:Int)==0)||(!(decide (x1.mat∈Z1d 15 (b.steps.take (runF b.steps)))))) (p:=((x1.fds.length:Int)=0)∨(¬(x1.mat∈Z1d 15 (b.steps.take (runF b.steps))))) (Zf beq_iff_eq (Zc dq)) (fun hc1=>?_) (fun hc1=>?_)
 ·refine ar (iR 1 [(4,.p b2 0),(39,Zj b)] [2] [b1] (iS 1 b2 0 (Z0l b) [nl,.i 0] (Z0l b) (ie ?_)))
  exact at_ (r3 [] [Zj b] [0] [(b2,b2)] ⟨rfl,rfl⟩ (AVLe.agg (.cons (AVLe.sl _ (congrArg Zu (Zzv (fun z=>hc1.elim (fun e=>z.2 (by rw [←hxq];omega)) (fun e=>e (by rw [hxq];exact z.1)))).symm)) (.cons li .nil))))
 refine ak (ar (ir 2 [(3,.p b1 0),(4,.p b2 0),(5,.p b3 0),(6,.i (((runF b.steps):Nat):Int)),(7,.val (.func (.func 80) #[] #[.pointer (some ⟨b3,0,none⟩)])),(8,nl),(9,nl)] (ie (ar (irK 1 (.n 40 (.agg [.i x1.mat,.i x1.fst,nInt x1.fds,.b x1.chg]) .r) [0] [b3] (ic [] (Z55 x1) ?_))))))
 rintro _ _ ⟨rfl,rfl⟩
 refine irk 1 (.n 10 (nInt (Z3i x1.fds x1.fst)) .r) (ie (ar (irk 1 (.n 11 (.b false) .r) (ie (aq (ar (irK 3 (.n 43 (Z0h b.steps) (.n 44 (.i (((runF b.steps):Nat):Int)) .r)) [2] [b1] (is_ (Z4s (es:=Zu b.steps) (hv:=none) (l:=0) (m:=(((runF b.steps):Nat):Int)) (sz:=5) (es':=Zu (b.steps.take (runF b.steps))) kr om (by simp<;>omega) (by simp<;>omega) (Z1w _) (by first|(simp only [Int.toNat_natCast,List.take_length,Z38,Z37];done)|(simp only [Int.toNat_natCast,List.take_length,Z38,Z37];rfl)|(simp [Z38,Z37];done))) (io (.i (((b.steps.take (runF b.steps)).length:Nat):Int)) (.i (((Zu (b.steps.take (runF b.steps))).length:Nat):Int)) (li (by rw [Z0w])) (irk 1 (.n 47 (.i 0) .r) (ie (ab 0 (Z50 5 (Z50 5 (al (fun m F h=>∃(k:Nat) (du:List Step) (dr:List Step) (lf:List Int) (d:Bool) (va:Value) (vb:Value),(k≤runF b.steps)∧(du.length≤k)∧(dr.length≤k)∧(lf.Pairwise (·<·))∧(lf.length≤3)∧(spI x1.mat du dr ((b.steps.take (runF b.steps)).drop k) lf d=spW x1.mat (b.steps.take (runF b.steps)) (Z3i x1.fds x1.fst) false)∧F=[(3,.p b1 0),(4,.p b2 0),(5,.p b3 0),(6,.i (((runF b.steps):Nat):Int)),(7,.val (.func (.func 80) #[] #[.pointer (some ⟨b3,0,none⟩)])),(8,Z1g du va),(9,Z1g dr vb),(10,nInt lf),(11,.b d),(45,Z0h (b.steps.take (runF b.steps))),(46,.i (((b.steps.take (runF b.steps)).length:Nat):Int)),(47,.i k)]∧h=[.obj b3 [.i x1.mat,.i x1.fst,nInt x1.fds,.b x1.chg],.obj b2 [nl,.i 0],.obj b1 (Z0l b),.tail va 5,.tail vb 5]∧m=runF b.steps-k) _ _ _ ⟨0,[],[],(Z3i x1.fds x1.fst),false,(.slice none 0 0),(.slice none 0 0),ob,ob,ob,(Z7k _ _),ob,rfl,rfl,rfl,rfl⟩ (wk [2,2,2,0,0] (fr (fr (fr (fr (fr (fc (x:=nl) (AVLe.slh _ (by first|rfl|(subst_vars;rfl))) (fc (x:=nl) (AVLe.slh _ (by first|rfl|(subst_vars;rfl))) (fr (fr (fr (fr (fc (x:=.i 0) li fl))))))))))))) ?_)))))))))))))))
 rintro m F h ⟨k,du,dr,lf,d,va,vb,c0_0,c0_1,c0_2,c0_3,c0_4,c0_5,rfl,rfl,rfl⟩
 refine ar (irk 1 (.n 48 (.b (decide ((k:Int)<(((b.steps.take (runF b.steps)).length:Nat):Int)))) .r) (ie (aq (ac (decide ((k:Int)<(((b.steps.take (runF b.steps)).length:Nat):Int))) dq (fun hc2=>?_) (fun hc2=>?_)))))
 ·obtain ⟨xe,hxe⟩:=Z8 (xs:=(b.steps.take (runF b.steps))) (j:=k) om
  have hxm:=List.mem_of_mem_take (List.mem_of_getElem? hxe)
  have hrp:=Z8w (List.mem_of_getElem? hxe)
  have hcn:=hc xe hxm (Zjr hrp)
  obtain ⟨xa,hxa1⟩:=Zsx hcn
  have hxa2:xe.args[0]? = some xa:=by rw [hxa1];rfl
  have hg:=gI0 hxa2
  refine ak (aq (ab 1 (ar (is_ (Z0 (es:=Zu (b.steps.take (runF b.steps))) (hv:=none) (j:=(k:Int)) (sz:=5) (y:=Z0o xe) kr om (Z1r hxe) rfl) (irk 1 (.n 50 (Z0o xe) .r) (iA [.i 0,.i 0,.i 0,nl,nl] ?_))))))
  intro b4
  refine iS 0 b4 0 (Z0g xe) [.i 0,.i 0,.i 0,nl,nl] (Z0g xe) (ie (ab 2 (ar (Z1i 11 [(3,.p b1 0),(4,.p b2 0),(5,.p b3 0),(6,.i (((runF b.steps):Nat):Int)),(7,.val (.func (.func 80) #[] #[.pointer (some ⟨b3,0,none⟩)])),(8,Z1g du va),(9,Z1g dr vb),(10,nInt lf),(11,.b d),(13,.p b4 0),(45,Z0h (b.steps.take (runF b.steps))),(46,.i (((b.steps.take (runF b.steps)).length:Nat):Int)),(47,.i k),(66,.b ((xe.op==14)&&(decide (xa∈lf))))] [.obj b4 (Z0g xe),.obj b3 [.i x1.mat,.i x1.fst,nInt x1.fds,.b x1.chg],.obj b2 [nl,.i 0],.obj b1 (Z0l b),.tail va 5,.tail vb 5] ?_ (fun hj1=>?_)))))
  ·refine ir 1 [(3,.p b1 0),(4,.p b2 0),(5,.p b3 0),(6,.i (((runF b.steps):Nat):Int)),(7,.val (.func (.func 80) #[] #[.pointer (some ⟨b3,0,none⟩)])),(8,Z1g du va),(9,Z1g dr vb),(10,nInt lf),(11,.b d),(13,.p b4 0),(45,Z0h (b.steps.take (runF b.steps))),(46,.i (((b.steps.take (runF b.steps)).length:Nat):Int)),(47,.i k),(55,.b ((xe.op==14)&&(decide (xa∈lf))))] (ie (Zan (fun F h=>∃(du2:List Step) (dr2:List Step) (lf2:List Int) (d2:Bool) (w1:Value) (w2:Value),(du2.length≤k+1)∧(dr2.length≤k+1)∧(lf2.Pairwise (·<·))∧(lf2.length≤3)∧(spI x1.mat du2 dr2 ((b.steps.take (runF b.steps)).drop (k+1)) lf2 d2=spW x1.mat (b.steps.take (runF b.steps)) (Z3i x1.fds x1.fst) false)∧F=[(3,.p b1 0),(4,.p b2 0),(5,.p b3 0),(6,.i (((runF b.steps):Nat):Int)),(7,.val (.func (.func 80) #[] #[.pointer (some ⟨b3,0,none⟩)])),(8,Z1g du2 w1),(9,Z1g dr2 w2),(10,nInt lf2),(11,.b d2),(45,Z0h (b.steps.take (runF b.steps))),(46,.i (((b.steps.take (runF b.steps)).length:Nat):Int)),(47,.i k)]∧h=[.obj b3 [.i x1.mat,.i x1.fst,nInt x1.fds,.b x1.chg],.obj b2 [nl,.i 0],.obj b1 (Z0l b),.tail w1 5,.tail w2 5]) (fun _ _=>rfl) ?_ ?_))
   ·refine ac ((xe.op==14)&&(decide (xa∈lf))) (p:=(xe.op=14)∧(xa∈lf)) (Zk beq_iff_eq dq) (fun hc3=>?_) (fun hc3=>?_)
    ·refine az (iR 3 [(3,.p b1 0),(4,.p b2 0),(5,.p b3 0),(6,.i (((runF b.steps):Nat):Int)),(7,.val (.func (.func 80) #[] #[.pointer (some ⟨b3,0,none⟩)])),(8,Z1g du va),(9,Z1g dr vb),(11,.b d),(45,Z0h (b.steps.take (runF b.steps))),(46,.i (((b.steps.take (runF b.steps)).length:Nat):Int)),(47,.i k),(67,nInt lf),(69,nInt xe.args)] [0] [b4] (is_ (Z0 (es:=Z6 xe.args) (hv:=none) (j:=0) (sz:=1) (y:=.i xa) kr om (Za hxa2) rfl) (irk 1 (.n 71 (.i xa) .r) (ic [] (Zov lf xa) ?_))))
     rintro _ _ ⟨rfl,rfl⟩
     refine irk 1 (.n 10 (nInt (neF lf xa)) .r) (ie ?_)
     exact ⟨[(3,.p b1 0),(4,.p b2 0),(5,.p b3 0),(6,.i (((runF b.steps):Nat):Int)),(7,.val (.func (.func 80) #[] #[.pointer (some ⟨b3,0,none⟩)])),(8,Z1g du va),(9,Z1g dr vb),(10,nInt (neF lf xa)),(11,.b d),(45,Z0h (b.steps.take (runF b.steps))),(46,.i (((b.steps.take (runF b.steps)).length:Nat):Int)),(47,.i k)],[.obj b3 [.i x1.mat,.i x1.fst,nInt x1.fds,.b x1.chg],.obj b2 [nl,.i 0],.obj b1 (Z0l b),.tail va 5,.tail vb 5],⟨du,dr,(neF lf xa),d,va,vb,ob,ob,(Zs3 c0_3 _),(Nat.le_trans (Z01i _ _) c0_4),(by have h:=Z04f hxe hc3.1 (by rw [hg];exact hc3.2) c0_5;rw [hg] at h;exact h),rfl,rfl⟩,(wk [1,1,1,1,1] fl)⟩
    refine ar (iR 4 [(3,.p b1 0),(4,.p b2 0),(5,.p b3 0),(6,.i (((runF b.steps):Nat):Int)),(7,.val (.func (.func 80) #[] #[.pointer (some ⟨b3,0,none⟩)])),(8,Z1g du va),(9,Z1g dr vb),(10,nInt lf),(11,.b d),(13,.p b4 0),(45,Z0h (b.steps.take (runF b.steps))),(46,.i (((b.steps.take (runF b.steps)).length:Nat):Int)),(47,.i k),(73,.b (xe.op==14))] [0] [b4] (ie (ac (xe.op==14) beq_iff_eq (fun hc4=>?_) (fun hc4=>?_))))
    ·refine az (irK 2 (.n 77 (Z1g du va) (.n 78 (Z0o xe) .r)) [0] [b4] (iL [Z0o xe] 1 5 ?_))
     intro v1
     refine irk 0 (.n 79 (.sl [Z0o xe] none) (.p .r)) (ip 5 (Zu (du++[xe])) (Zu du) [Z0o xe] va none 5 (Z1w _) (Z5u rfl) rfl (by simp<;>omega) (by simp [Z2w,Z2l]) ?_)
     intro v2
     refine irk 1 (.n 8 (Z1g (du++[xe]) v2) (.q 80 (.k (.k (.k (.k (.k (.k (.k (.k (.d .r))))))))))) (ie ?_)
     exact ⟨[(3,.p b1 0),(4,.p b2 0),(5,.p b3 0),(6,.i (((runF b.steps):Nat):Int)),(7,.val (.func (.func 80) #[] #[.pointer (some ⟨b3,0,none⟩)])),(8,Z1g (du++[xe]) v2),(9,Z1g dr vb),(10,nInt lf),(11,.b d),(45,Z0h (b.steps.take (runF b.steps))),(46,.i (((b.steps.take (runF b.steps)).length:Nat):Int)),(47,.i k)],[.obj b3 [.i x1.mat,.i x1.fst,nInt x1.fds,.b x1.chg],.obj b2 [nl,.i 0],.obj b1 (Z0l b),.tail v2 5,.tail vb 5],⟨(du++[xe]),dr,lf,d,v2,vb,(by simp;omega),ob,ob,ob,(Z02b hxe hc4 (fun z=>hc3 ⟨hc4,by rw [←hg];exact z⟩) c0_5),rfl,rfl⟩,(wk [3,3,3,0,2] fl)⟩
    refine ar (irK 2 (.n 82 (.val (.func (.func 80) #[] #[.pointer (some ⟨b3,0,none⟩)])) (.n 83 (Z0o xe) .r)) [0] [b4] (ic [1] (Zqo xe x1 b3 (ha:=(fun _=>⟨xa,hxa1⟩))) ?_))
    rintro _ _ ⟨rfl,rfl⟩
    refine Z1i 7 [(3,.p b1 0),(4,.p b2 0),(5,.p b3 0),(6,.i (((runF b.steps):Nat):Int)),(7,.val (.func (.func 80) #[] #[.pointer (some ⟨b3,0,none⟩)])),(8,Z1g du va),(9,Z1g dr vb),(10,nInt lf),(11,.b d),(13,.p b4 0),(45,Z0h (b.steps.take (runF b.steps))),(46,.i (((b.steps.take (runF b.steps)).length:Nat):Int)),(47,.i k),(88,.b (((xe.op==15)&&(gI xe.args 0==x1.mat))&&(!d)))] [.obj b3 [.i x1.mat,.i x1.fst,nInt x1.fds,.b x1.chg],.obj b4 (Z0g xe),.obj b2 [nl,.i 0],.obj b1 (Z0l b),.tail va 5,.tail vb 5] ?_ (fun hj2=>?_)
    ·refine ir 1 [(3,.p b1 0),(4,.p b2 0),(5,.p b3 0),(6,.i (((runF b.steps):Nat):Int)),(7,.val (.func (.func 80) #[] #[.pointer (some ⟨b3,0,none⟩)])),(8,Z1g du va),(9,Z1g dr vb),(10,nInt lf),(11,.b d),(13,.p b4 0),(45,Z0h (b.steps.take (runF b.steps))),(46,.i (((b.steps.take (runF b.steps)).length:Nat):Int)),(47,.i k),(81,.b (((xe.op==15)&&(gI xe.args 0==x1.mat))&&(!d)))] (ie (ac (((xe.op==15)&&(gI xe.args 0==x1.mat))&&(!d)) (p:=((xe.op=15)∧(gI xe.args 0=x1.mat))∧(¬(d=true))) (Zk (Zk beq_iff_eq beq_iff_eq) (Zc Iff.rfl)) (fun hc5=>?_) (fun hc5=>?_)))
     ·refine az (irk 1 (.n 11 (.b true) (.k (.k (.k (.k (.k (.k (.k (.k (.d .r)))))))))) (ie ?_))
      exact ⟨[(3,.p b1 0),(4,.p b2 0),(5,.p b3 0),(6,.i (((runF b.steps):Nat):Int)),(7,.val (.func (.func 80) #[] #[.pointer (some ⟨b3,0,none⟩)])),(8,Z1g du va),(9,Z1g dr vb),(10,nInt lf),(11,.b true),(45,Z0h (b.steps.take (runF b.steps))),(46,.i (((b.steps.take (runF b.steps)).length:Nat):Int)),(47,.i k)],[.obj b3 [.i x1.mat,.i x1.fst,nInt x1.fds,.b x1.chg],.obj b2 [nl,.i 0],.obj b1 (Z0l b),.tail va 5,.tail vb 5],⟨du,dr,lf,true,va,vb,ob,ob,ob,ob,(Zz8 hxe hc4 hc5 c0_5),rfl,rfl⟩,(wk [0,1,1,1,1] fl)⟩
     refine az (irK 2 (.n 51 (Z1g dr vb) (.n 52 (Z0o xe) .r)) [1] [b4] (iL [Z0o xe] 1 5 ?_))
     intro v3
     refine irk 0 (.n 53 (.sl [Z0o xe] none) (.p .r)) (ip 6 (Zu (dr++[xe])) (Zu dr) [Z0o xe] vb none 5 (Z1w _) (Z5u rfl) rfl (by simp<;>omega) (by simp [Z2w,Z2l]) ?_)
     intro v4
     refine irk 1 (.n 9 (Z1g (dr++[xe]) v4) (.q 54 (.k (.k (.k (.k (.k (.k (.k (.k (.k (.d .r)))))))))))) (ie ?_)
     exact ⟨[(3,.p b1 0),(4,.p b2 0),(5,.p b3 0),(6,.i (((runF b.steps):Nat):Int)),(7,.val (.func (.func 80) #[] #[.pointer (some ⟨b3,0,none⟩)])),(8,Z1g du va),(9,Z1g (dr++[xe]) v4),(10,nInt lf),(11,.b d),(45,Z0h (b.steps.take (runF b.steps))),(46,.i (((b.steps.take (runF b.steps)).length:Nat):Int)),(47,.i k)],[.obj b3 [.i x1.mat,.i x1.fst,nInt x1.fds,.b x1.chg],.obj b2 [nl,.i 0],.obj b1 (Z0l b),.tail va 5,.tail v4 5],⟨du,(dr++[xe]),lf,d,va,v4,ob,(by simp;omega),ob,ob,(Zz9 hxe hc4 hc5 c0_5),rfl,rfl⟩,(wk [2,3,3,3,0] fl)⟩
    refine ir 1 [(3,.p b1 0),(4,.p b2 0),(5,.p b3 0),(6,.i (((runF b.steps):Nat):Int)),(7,.val (.func (.func 80) #[] #[.pointer (some ⟨b3,0,none⟩)])),(8,Z1g du va),(9,Z1g dr vb),(10,nInt lf),(11,.b d),(13,.p b4 0),(45,Z0h (b.steps.take (runF b.steps))),(46,.i (((b.steps.take (runF b.steps)).length:Nat):Int)),(47,.i k),(85,.b ((xe.op==15)&&(gI xe.args 0==x1.mat)))] (ib (b:=((xe.op==15)&&(gI xe.args 0==x1.mat))) 85 (fun hb2=>?_) (fun hb2=>?_))
    ·have hp3:(xe.op=15)∧(gI xe.args 0=x1.mat):=((Zk beq_iff_eq beq_iff_eq)).1 hb2
     refine irk 3 (.n 88 (.b (!d)) (.d (.k (.k (.k (.k (.k (.k (.k (.k (.k (.k (.k (.k (.k .z))))))))))))))) ?_
     exact Zz (wk [0,0,0,0,0,0] (fr (fr (fr (fr (fr (fr (fr (fr (fr (fr (fr (fr (fr (fc (x:=.b (!d)) (lb (by simp only [hb2];rfl)) fl))))))))))))))) hj2
    have hp4:¬((xe.op=15)∧(gI xe.args 0=x1.mat)):=Zd (Zk beq_iff_eq beq_iff_eq) hb2
    refine irk 3 (.n 88 (.b false) (.d (.k (.k (.k (.k (.k (.k (.k (.k (.k (.k (.k (.k (.k .z))))))))))))))) ?_
    exact Zz (wk [0,0,0,0,0,0] (fr (fr (fr (fr (fr (fr (fr (fr (fr (fr (fr (fr (fr (fc (x:=.b false) (lb (by simp only [hb2];rfl)) fl))))))))))))))) hj2
   rintro F h ⟨du2,dr2,lf2,d2,w1,w2,k2_0,k2_1,k2_2,k2_3,k2_4,rfl,rfl⟩
   refine az (ia (((k+1:Nat):Int)) (((k:Int))+(1)) (ir 1 [(3,.p b1 0),(4,.p b2 0),(5,.p b3 0),(6,.i (((runF b.steps):Nat):Int)),(7,.val (.func (.func 80) #[] #[.pointer (some ⟨b3,0,none⟩)])),(8,Z1g du2 w1),(9,Z1g dr2 w2),(10,nInt lf2),(11,.b d2),(45,Z0h (b.steps.take (runF b.steps))),(46,.i (((b.steps.take (runF b.steps)).length:Nat):Int)),(47,.i (k+1:Nat))] (ie ?_)))
   exact ⟨_,_,_,ob,⟨k+1,du2,dr2,lf2,d2,w1,w2,ob,ob,ob,ob,ob,ob,rfl,rfl,rfl⟩,(wk [0,0,0,0,0] (fr (fr (fr (fr (fr (fr (fr (fr (fr (fr (fr (fc (x:=.i (k+1:Nat)) li fl)))))))))))))⟩
  refine iR 4 [(3,.p b1 0),(4,.p b2 0),(5,.p b3 0),(6,.i (((runF b.steps):Nat):Int)),(7,.val (.func (.func 80) #[] #[.pointer (some ⟨b3,0,none⟩)])),(8,Z1g du va),(9,Z1g dr vb),(10,nInt lf),(11,.b d),(13,.p b4 0),(45,Z0h (b.steps.take (runF b.steps))),(46,.i (((b.steps.take (runF b.steps)).length:Nat):Int)),(47,.i k),(59,.b (xe.op==14))] [0] [b4] (ib (b:=(xe.op==14)) 59 (fun hb3=>?_) (fun hb3=>?_))
  ·have hp5:xe.op=14:=(beq_iff_eq).1 hb3
   refine irK 3 (.n 60 (nInt lf) (.n 62 (nInt xe.args) (.k (.k (.k (.k (.k (.k (.k (.k (.k (.k (.k (.k (.k (.k .z)))))))))))))))) [0] [b4] (is_ (Z0 (es:=Z6 xe.args) (hv:=none) (j:=0) (sz:=1) (y:=.i xa) kr om (Za hxa2) rfl) (irk 1 (.n 64 (.i xa) .r) (ic [] (Z023 lf xa (hs:=c0_3)) ?_)))
   rintro _ _ ⟨rfl,rfl⟩
   refine irk 1 (.n 66 (.b (decide (xa∈lf))) .r) ?_
   exact Zz (wk [0,0,0,0,0,0] (fr (fr (fr (fr (fr (fr (fr (fr (fr (fr (fr (fr (fr (fc (x:=.b (decide (xa∈lf))) (lb (by simp only [hb3];rfl)) fl))))))))))))))) hj1
  have hp6:¬(xe.op=14):=Zd beq_iff_eq hb3
  refine irk 7 (.n 66 (.b false) (.d (.k (.k (.k (.k (.k (.k (.k (.k (.k (.k (.k (.k (.k .z))))))))))))))) ?_
  exact Zz (wk [0,0,0,0,0,0] (fr (fr (fr (fr (fr (fr (fr (fr (fr (fr (fr (fr (fr (fc (x:=.b false) (lb (by simp only [hb3];rfl)) fl))))))))))))))) hj1
 have hWe:=Z02c om c0_5
 refine ax 0 (ar (irK 3 (.n 90 (Z1g du va) (.n 92 (.i x1.mat) .r)) [0] [b3] (ic [] (Zcg 16 x1.mat) ?_)))
 rintro _ _ ⟨u1,rfl,rfl⟩
 refine irk 0 (.n 93 (.agg [.i 16,.i 0,.i 0,nInt [x1.mat],Zvi []]) (.p .r)) (iL [Z0o (Step.mk 16 0 0 [x1.mat] [])] 1 5 ?_)
 intro v5
 refine irk 0 (.n 94 (.sl [Z0o (Step.mk 16 0 0 [x1.mat] [])] none) (.p .r)) (ip 5 (Zu (du++[Step.mk 16 0 0 [x1.mat] []])) (Zu du) [Z0o (Step.mk 16 0 0 [x1.mat] [])] va none 5 (Z1w _) (Z5u rfl) rfl (by simp<;>omega) (by simp [Z2w,Z2l]) ?_)
 intro v6
 refine irk 1 (.n 14 (Z1g (du++[Step.mk 16 0 0 [x1.mat] []]) v6) .r) (ie (ar (irk 2 (.n 96 (Z1g (du++[Step.mk 16 0 0 [x1.mat] []]) v6) (.n 97 (Z0h dr) .r)) (ip 0 (Zu ((du++[Step.mk 16 0 0 [x1.mat] []])++dr)) (Zu (du++[Step.mk 16 0 0 [x1.mat] []])) (Zu dr) v6 none 5 (Z1w _) (Z1w _) (Za8 _) (by simp<;>omega) (by simp [Z2w,Zu]) ?_))))
 intro v7
 refine irk 1 (.n 14 (Z1g ((du++[Step.mk 16 0 0 [x1.mat] []])++dr) v7) (.q 98 (.k (.k (.d .r))))) (ie (aq (ar (irk 1 (.n 99 (nInt lf) .r) (io (.i lf.length) (.i (((Z6 lf).length:Nat):Int)) (li (by rw [Z5])) (irk 1 (.n 101 (.i 0) .r) (ie (ab 3 (al (fun m F h=>∃(j:Nat) (u:Value),(j≤lf.length)∧F=[(3,.p b1 0),(4,.p b2 0),(6,.i (((runF b.steps):Nat):Int)),(14,Z1g (((du++[cntS 16 x1.mat])++dr)++(lf.take j).map (cntS 15)) u),(99,nInt lf),(100,.i lf.length),(101,.i j)]∧h=[.obj b2 [nl,.i 0],.obj b1 (Z0l b),.tail u 5]∧m=lf.length-j) _ _ _ ⟨0,v7,ob,rfl,rfl,rfl⟩ (wk [4,4,0] (fr (fr (fr (fc (x:=Z1g ((du++[Step.mk 16 0 0 [x1.mat] []])++dr) v7) (AVLe.slh _ (congrArg Zu (by simp [cntS]))) (fr (fr (fc (x:=.i 0) li fl)))))))) ?_)))))))))
 rintro m F h ⟨j,u,c1_0,rfl,rfl,rfl⟩
 refine ar (irk 1 (.n 102 (.b (decide ((j:Int)<(lf.length:Int)))) .r) (ie (aq (ac (decide ((j:Int)<(lf.length:Int))) dq (fun hc6=>?_) (fun hc6=>?_)))))
 ·refine ak (aq (ab 4 (ar ?_)))
  obtain ⟨x2,hx2⟩:=Z8 (xs:=lf) (j:=j) om
  have hxl:=hx2
  refine is_ (Z0 (es:=Z6 lf) (hv:=none) (j:=(j:Int)) (sz:=1) (y:=.i x2) kr om (Za hx2) rfl) (irk 2 (.n 16 (.i x2) .r) (ie (az (irk 2 (.n 105 (Z1g (((du++[cntS 16 x1.mat])++dr)++(lf.take j).map (cntS 15)) u) (.n 106 (.i x2) .r)) (ic [] (Zcg 15 x2) ?_)))))
  rintro _ _ ⟨u2,rfl,rfl⟩
  refine irk 0 (.n 107 (.agg [.i 15,.i 0,.i 0,nInt [x2],Zvi []]) (.p .r)) (iL [Z0o (Step.mk 15 0 0 [x2] [])] 1 5 ?_)
  intro v8
  refine irk 0 (.n 108 (.sl [Z0o (Step.mk 15 0 0 [x2] [])] none) (.p .r)) (ip 4 (Zu (((du++[cntS 16 x1.mat])++dr)++(lf.take (j+1)).map (cntS 15))) (Zu (((du++[cntS 16 x1.mat])++dr)++(lf.take j).map (cntS 15))) [Z0o (Step.mk 15 0 0 [x2] [])] u none 5 (Z1w _) (Z5u rfl) rfl (by simp<;>omega) (by rw [Z1y hxl,List.map_append,←List.append_assoc];simp [Z2w,Z2l,cntS]) ?_)
  intro v9
  refine irk 1 (.n 14 (Z1g (((du++[cntS 16 x1.mat])++dr)++(lf.take (j+1)).map (cntS 15)) v9) (.p (.d (.d (.d (.d (.d (.p (.d (.k (.k (.k (.d .r))))))))))))) (ie (az (ia (((j+1:Nat):Int)) (((j:Int))+(1)) (irk 1 (.n 101 (.i (j+1:Nat)) (.p (.k (.k (.k (.k (.k (.k .z)))))))) (ie ?_)))))
  exact ⟨_,_,_,ob,⟨j+1,v9,ob,rfl,rfl,rfl⟩,(wk [3,3,0] (fr (fr (fr (fr (fr (fr (fc (x:=.i (j+1:Nat)) li fl))))))))⟩
 refine ax 3 (aD 10 (dtK (fuel:=6) 10 [0,1,2,3] (.n 111 (Z1g (((du++[cntS 16 x1.mat])++dr)++(lf.take j).map (cntS 15)) u) (.n 113 (Z0h b.steps) (.n 114 (.i (((runF b.steps):Nat):Int)) .r))) [1] [b1] (dx 4 (Z4s (es:=Zu b.steps) (hv:=none) (l:=(((runF b.steps):Nat):Int)) (m:=(((Zu b.steps).length:Nat):Int)) (sz:=5) (es':=Zu (b.steps.drop (runF b.steps))) kr om (by simp<;>omega) (by simp<;>omega) (Z1w _) (by first|(simp only [Int.toNat_natCast,List.take_length,Z38,Z37];done)|(simp only [Int.toNat_natCast,List.take_length,Z38,Z37];rfl)|(simp [Z38,Z37];done))) (dtK (fuel:=3) 5 [6,7] (.n 118 (.i b.result) .r) [1] [b1] (do_ 5 (dp 5 2 [1] [b1] (Zu ((((du++[cntS 16 x1.mat])++dr)++(lf.take j).map (cntS 15))++(b.steps.drop (runF b.steps)))) (Zu (((du++[cntS 16 x1.mat])++dr)++(lf.take j).map (cntS 15))) (Zu (b.steps.drop (runF b.steps))) u none 5 (Z1w _) (Z1w _) (Za8 _) (by simp<;>omega) (by simp [Z2w,Zu]) ?_))))))
 intro v10
 refine dtk (fuel:=1) 2 [8] (.n 119 (.agg [Z1g ((((du++[cntS 16 x1.mat])++dr)++(lf.take j).map (cntS 15))++(b.steps.drop (runF b.steps))) v10,.i b.result]) .r) (do_ 9 (dS 9 1 [] [] b2 0 [Z1g ((((du++[cntS 16 x1.mat])++dr)++(lf.take j).map (cntS 15))++(b.steps.drop (runF b.steps))) v10,.i b.result] [nl,.i 0] [Z1g ((((du++[cntS 16 x1.mat])++dr)++(lf.take j).map (cntS 15))++(b.steps.drop (runF b.steps))) v10,.i b.result] (de ?_)))
 have hE:=Zza hc (Classical.not_not.1 fun z=>hc1 (.inr z)) (fun z=>hc1 (.inl om)) hWe.symm
 exact at_ (r3 [] [.agg [Z1g ((((du++[cntS 16 x1.mat])++dr)++(lf.take j).map (cntS 15))++(b.steps.drop (runF b.steps))) v10,.i b.result]] [0] [(b2,b2)] ⟨rfl,rfl⟩ (AVLe.agg (.cons (AVLe.sl _ (congrArg Zu (by rw [List.take_of_length_le om,←hxq];exact hE))) (.cons li .nil))))
end Go.Abs
end
section
namespace Go.Abs
open Go.Proofs
theorem Zwm (am:List Arm) (x:Int) (q:Nat) (fs:List Int) (b:Block) (hal:am.length≤900000000:=by exact ob) (hc:∀s∈b.steps,Z0q s.op=true→Cn s) (hf:fs.length≤3:=by exact ob) (hq:q≤1000000000:=by exact ob) (hz:b.steps.length≤900000000:=by exact ob):Z3 Tryz.prog 39 [nArm (am++[Arm.mk x q fs false]),Zj b] [] (fun r h=>r=Zj (apA b x fs q)∧h=[]):=Z04h am ⟨x,q,fs,false⟩ b hal hc hf ⟨by show 0≤(q:Int);omega,by show (q:Int)≤1000000000;omega⟩ hz
theorem Zdo (n:Normal) (b:Block) (mm:Nat) (am:List Arm) (hn:NOk n) (hw:wB n.decls b) (hal:am.length+b.pz≤800000000) (hb:mm+4*b.pz≤900000000) (ih:∀(b2:Block) (m2:Nat) (a2:List Arm),(wB n.decls b2)→(a2.length+b2.pz≤800000000)→(m2+4*b2.pz≤900000000)→(b2.pz<b.pz)→Z3 Tryz.prog 38 [.agg [Z2 n.decls,nSg3 (n.routines.map Z4)],Zj b2,.i m2,nArm a2,.val (.func (.func 39) #[] #[])] [] (fun r h=>∃(y:HBlock),r=Z3k y∧h=[.many (Z0b y)]∧y.er=spB n.decls m2 b2)):Z3 Tryz.prog 38 [.agg [Z2 n.decls,nSg3 (n.routines.map Z4)],Zj b,.i mm,nArm am,.val (.func (.func 39) #[] #[])] [] (fun r h=>∃(y:HBlock),r=Z3k y∧h=[.many (Z0b y)]∧y.er=spB n.decls mm b):=by
 have hdk:=hn.decls
 have hbz:=Zq7 b
 refine enter Tryz.func38 kr (n:=98) kr kr (ar (iA [Z2 n.decls,nSg3 (n.routines.map Z4)] ?_))
 intro b1
 refine iA (Z0l b) ?_
 intro b2
 refine iA [nl,.i 0] ?_
 intro b3
 refine ie (ar (iR 3 [(2,.i mm),(3,nArm am),(4,.val (.func (.func 39) #[] #[])),(5,.p b1 0),(6,.p b2 0),(10,.p b3 0),(21,.agg [nl,.i b.result])] [1] [b2] (iA [nl,.i 0] ?_)))
 intro b4
 refine iS 0 b4 0 [nl,.i b.result] [nl,.i 0] [nl,.i b.result] (ie (aq (ar (irK 2 (.n 23 (Z0h b.steps) .r) [2] [b2] (io (.i b.steps.length) (.i (((Zu b.steps).length:Nat):Int)) (li (by rw [Z0w])) (irk 1 (.n 25 (.i 0) .r) (ie (ab 0 (Z50 5 (Z2s (tB [] [] [] (Z05 []) (by simp [Z0e,Z02,Z0t,Z0j,Zr,Z0k,Z04,Z05,Zp,Z1u,Z0b,Z19,Z0i,Zl,Z41,Z2h,Z0m,Z00])) (al (fun m F h=>∃(k:Nat) (q:Nat) (xs:List HStep) (v:Value),(k≤b.steps.length)∧(q≤mm+k)∧(xs.length=k)∧(erSs xs++spSs n.decls q (b.steps.drop k)=spSs n.decls mm b.steps)∧F=[(2,.i q),(3,nArm am),(4,.val (.func (.func 39) #[] #[])),(5,.p b1 0),(10,.p b3 0),(11,.p b4 0),(23,Z0h b.steps),(24,.i b.steps.length),(25,.i k)]∧h=[.obj b4 [Z3c xs v,.i b.result],.obj b3 [nl,.i 0],.obj b1 [Z2 n.decls,nSg3 (n.routines.map Z4)],.tail v 5,.many (Z05 xs)]∧m=b.steps.length-k) _ _ _ ⟨0,mm,[],(.slice none 0 0),ob,ob,ob,rfl,rfl,rfl,rfl⟩ (wk [2,2,3,1,0] (fr (fr (fr (fr (fr (fr (fr (fr (fc (x:=.i 0) li fl)))))))))) ?_)))))))))))
 rintro m F h ⟨k,q,xs,v,c0_0,c0_1,c0_2,c0_3,rfl,rfl,rfl⟩
 refine ar (irk 1 (.n 26 (.b (decide ((k:Int)<(b.steps.length:Int)))) .r) (ie (aq (ac (decide ((k:Int)<(b.steps.length:Int))) dq (fun hc1=>?_) (fun hc1=>?_)))))
 ·refine ak (aq (ab 1 (ar ?_)))
  obtain ⟨x1,hx1⟩:=Z8 (xs:=b.steps) (j:=k) om
  have hsz:=Z01t hx1
  have hws:=Z04q hw hx1
  have hkz:=Z01s x1
  have haz:=Z01r x1
  refine is_ (Z0 (es:=Zu b.steps) (hv:=none) (j:=(k:Int)) (sz:=5) (y:=Z0o x1) kr om (Z1r hx1) rfl) (irk 1 (.n 28 (Z0o x1) .r) (iA [.i 0,.i 0,.i 0,nl,nl] ?_))
  intro b5
  refine iS 0 b5 0 (Z0g x1) [.i 0,.i 0,.i 0,nl,nl] (Z0g x1) (ie (ar (irk 1 (.n 14 (nl) .r) (ie (aq (ar (irK 2 (.n 30 (Z03 x1.kids) .r) [0] [b5] (io (.i x1.kids.length) (.i (((Z0p x1.kids).length:Nat):Int)) (li (by rw [Z0r])) (irk 1 (.n 32 (.i 0) .r) (ie (ab 2 (Z50 2 (Z2s (tB [] [] [] (Zp []) (by simp [Z0e,Z02,Z0t,Z0j,Zr,Z0k,Z04,Z05,Zp,Z1u,Z0b,Z19,Z0i,Zl,Z41,Z2h,Z0m,Z00])) (al (fun m F h=>∃(j:Nat) (ys:List HBlock) (u:Value),(j≤x1.kids.length)∧(ys.length=j)∧(erBs ys++spKs n.decls q x1.op x1.num x1.args (x1.kids.drop j) j=spKs n.decls q x1.op x1.num x1.args x1.kids 0)∧F=[(2,.i q),(3,nArm am),(4,.val (.func (.func 39) #[] #[])),(5,.p b1 0),(10,.p b3 0),(11,.p b4 0),(13,.p b5 0),(14,Z2c ys u),(23,Z0h b.steps),(24,.i b.steps.length),(25,.i k),(30,Z03 x1.kids),(31,.i x1.kids.length),(32,.i j)]∧h=[.obj b5 (Z0g x1),.obj b4 [Z3c xs v,.i b.result],.obj b3 [nl,.i 0],.obj b1 [Z2 n.decls,nSg3 (n.routines.map Z4)],.many (Z05 xs),.tail u 2,.tail v 5,.many (Zp ys)]∧m=x1.kids.length-j) _ _ _ ⟨0,[],(.slice none 0 0),ob,ob,(by simp [erBs]),rfl,rfl,rfl⟩ (wk [2,2,2,2,3,1,1,0] (fr (fr (fr (fr (fr (fr (fr (fc (x:=nl) (AVLe.slh _ (by first|rfl|(subst_vars;rfl))) (fr (fr (fr (fr (fr (fc (x:=.i 0) li fl))))))))))))))) ?_))))))))))))))
  rintro m F h ⟨j,ys,u,c1_0,c1_1,c1_2,rfl,rfl,rfl⟩
  refine ar (irk 1 (.n 33 (.b (decide ((j:Int)<(x1.kids.length:Int)))) .r) (ie (aq (ac (decide ((j:Int)<(x1.kids.length:Int))) dq (fun hc2=>?_) (fun hc2=>?_)))))
  ·refine ak (aq (ab 3 (ar (irk 1 (.n 34 (.i j) .r) ?_))))
   obtain ⟨x2,hx2⟩:=Z8 (xs:=x1.kids) (j:=j) om
   have hkb:=hx2
   have hks:=Z04a hx2
   have hwk:=Zxc hws hx2
   have hst:=Zq7 x2
   refine is_ (Z0 (es:=Z0p x1.kids) (hv:=none) (j:=(j:Int)) (sz:=2) (y:=Zj x2) kr om (Z2a hx2) rfl) (irk 1 (.n 36 (Zj x2) .r) (iA [nl,.i 0] ?_))
   intro b6
   refine irk 1 (.n 15 (.i j) .r) (iS 0 b6 0 (Z0l x2) [nl,.i 0] (Z0l x2) (ie (aq (ar (irK 3 (.n 39 (.b (x1.op != 8)) .r) [1] [b5] (ie (ac (x1.op != 8) bne_iff_ne (fun hc3=>?_) (fun hc3=>?_))))))))
   ·refine ar (irK 6 (.n 40 (Z2c ys u) (.n 41 (.agg [Z2 n.decls,nSg3 (n.routines.map Z4)]) (.n 42 (Zj x2) (.n 43 (.i q) (.n 44 (nArm am) (.n 45 (.val (.func (.func 39) #[] #[])) .r)))))) [4,0] [b1,b6] (ic [] (ih x2 q am (by first|exact hwk|exact Zp2 hwk) (by first|omega|(have h:=Zbw (x:=x3) (q:=(q:Int)) hxl hwk;simp only [List.length_append,List.length_cons,List.length_nil];omega)) (by first|omega|(have h:=Zbw (x:=x3) (q:=(q:Int)) hxl hwk;omega)) (by first|omega|(have h:=Zbw (x:=x3) (q:=(q:Int)) hxl hwk;omega))) ?_))
    rintro _ _ ⟨y1,rfl,rfl,hp1⟩
    have hy:(y1).er=spK n.decls q x1.op x1.num x1.args j x2:=by
     first
     | (rw [spK,if_neg om];exact hp1)
     | (rw [spK,if_pos om,hfk,hg1];exact Eq.trans hp1 (Zku hwk))
    refine iL [Z3k y1] 1 2 ?_
    intro v1
    refine irk 0 (.n 47 (.sl [Z3k y1] none) (.p .r)) (ip 8 (Z16 (ys++[y1])) (Z16 ys) [Z3k y1] u none 2 (Z66 _) (Z5u rfl) rfl (by simp<;>omega) (by simp [Z5a,Z42]) ?_)
    intro v2
    refine Z5c (tB [10,2] [.many (Zp ys),.many (Z0b y1)] (Zp ys++(Z0b y1++[])) (Zp (ys++[y1])) (by simp [Z0e,Z02,Z0t,Z0j,Zr,Z0k,Z04,Z05,Zp,Z1u,Z0b,Z19,Z0i,Zl,Z41,Z2h,Z0m,Z00])) (irk 1 (.n 14 (Z2c (ys++[y1]) v2) (.p (.d (.p (.d (.d (.d (.d (.d (.d (.d (.d (.p (.d (.p (.d (.d (.k (.k (.k (.k (.k (.k (.k (.d .r))))))))))))))))))))))))) (ie (ax 3 (az (ia (((j+1:Nat):Int)) (((j:Int))+(1)) (irk 1 (.n 32 (.i (j+1:Nat)) (.p (.k (.k (.k (.k (.k (.k (.k (.k (.k (.k (.k (.k (.k .z))))))))))))))) (ie ?_)))))))
    exact ⟨_,_,_,ob,⟨j+1,(ys++[y1]),v2,ob,ob,(by rw [Zjx,Zjy,hy];exact Zn1 hkb c1_2),rfl,rfl,rfl⟩,(wk [4,4,4,4,4,1,3,0] (fr (fr (fr (fr (fr (fr (fr (fr (fr (fr (fr (fr (fr (fc (x:=.i (j+1:Nat)) li fl)))))))))))))))⟩
   refine ak (aD 15 (dtK (fuel:=13) 15 [0,1] (.n 50 (nInt x1.args) .r) [1] [b5] ?_))
   obtain ⟨x3,hx3⟩:=Z8 (xs:=x1.args) (j:=0) (by obtain ⟨⟨a,ha2⟩,_⟩:=Zdb hws om;rw [ha2];simp)
   have hg1:=gI0 hx3
   refine dx 2 (Z0 (es:=Z6 x1.args) (hv:=none) (j:=0) (sz:=1) (y:=.i x3) kr om (Za hx3) rfl) (dtK (fuel:=6) 12 [3,4,5,6,7,9] (.n 52 (.i x3) (.n 53 (.i q) (.n 54 (.agg [Z2 n.decls,nSg3 (n.routines.map Z4)]) (.n 56 (.i x1.num) (.n 58 (.i j) .r))))) [4,1] [b1,b5] (Zxx 8 13 ?_ ?_))
   ·refine dc 8 [] [1] [b5] (Z2e _ x1.num) ?_
    rintro _ _ ⟨rfl,rfl⟩
    obtain ⟨x4,hx4⟩:=Z8 (xs:=((Zb n.decls x1.num).map (Z1 n.decls))) (j:=j) (by have h:=(Zdb hws om).2;rw [List.length_map];omega)
    have hfk:=Zb8 hx4
    have hxl:(x4).length≤3:=by rw [←hfk];exact Z8m hdk _ _
    refine dx 10 (Z0 (es:=Z33 ((Zb n.decls x1.num).map (Z1 n.decls))) (hv:=none) (j:=(j:Int)) (sz:=1) (y:=nInt x4) kr om (Z4o hx4) rfl) (dt (fuel:=2) 4 [11,12] [(2,.i q),(3,nArm am),(4,.val (.func (.func 39) #[] #[])),(5,.p b1 0),(10,.p b3 0),(11,.p b4 0),(13,.p b5 0),(14,Z2c ys u),(16,.p b6 0),(23,Z0h b.steps),(24,.i b.steps.length),(25,.i k),(30,Z03 x1.kids),(31,.i x1.kids.length),(32,.i j),(61,.agg [.i x3,.i q,nInt x4,.b false])] (do_ 13 (dA 13 [1] [b5] [.i 0,.i 0,nl,.b false] ?_)))
    intro b7
    refine do_ 14 (dS 14 0 [] [] b7 0 [.i x3,.i q,nInt x4,.b false] [.i 0,.i 0,nl,.b false] [.i x3,.i q,nInt x4,.b false] (de (ar (irK 2 (.n 62 (nArm am) (.n 63 (.agg [.i x3,.i q,nInt x4,.b false]) .r)) [0] [b7] (ic [] (Zbx am (Arm.mk x3 (q:Int) x4 false)) ?_)))))
    rintro _ _ ⟨rfl,rfl⟩
    refine irk 1 (.n 18 (nArm (am++[(Arm.mk x3 (q:Int) x4 false)])) .r) (ie (aE 17 (dtK (fuel:=9) 17 [0,1,2,3,4,6,7,8] (.n 65 (Z2c ys u) (.n 66 (.agg [Z2 n.decls,nSg3 (n.routines.map Z4)]) (.n 67 (.val (.func (.func 39) #[] #[])) (.n 68 (nArm (am++[(Arm.mk x3 (q:Int) x4 false)])) (.n 69 (Zj x2) (.n 71 (.i q) (.n 73 (nInt x4) .r))))))) [5,1,0] [b1,b6,b7] (dn 9 (.i x4.length) (.i (((Z6 x4).length:Nat):Int)) (li (by rw [Z5])) (da 10 (((q+x4.length:Nat):Int)) (((q:Int))+((x4.length:Int))) (dtk (fuel:=5) 7 [11,12] (.n 76 (nArm (am++[(Arm.mk x3 (q:Int) x4 false)])) (.n 77 (.val (.func (.func 39) #[] #[])) .r)) (do_ 5 (dc 5 [] [0,5] [b7,b1] (Zwm am x3 q x4 x2 (hc:=(Z031 ((Zib _).1 hwk)))) ?_))))))))
    rintro _ _ ⟨rfl,rfl⟩
    refine do_ 13 (dc 13 [] [] [] (ih (apA x2 x3 x4 q) (q+x4.length) (am++[(Arm.mk x3 (q:Int) x4 false)]) (by first|exact hwk|exact Zp2 hwk) (by first|omega|(have h:=Zbw (x:=x3) (q:=(q:Int)) hxl hwk;simp only [List.length_append,List.length_cons,List.length_nil];omega)) (by first|omega|(have h:=Zbw (x:=x3) (q:=(q:Int)) hxl hwk;omega)) (by first|omega|(have h:=Zbw (x:=x3) (q:=(q:Int)) hxl hwk;omega))) ?_)
    rintro _ _ ⟨y2,rfl,rfl,hp2⟩
    have hy:(y2).er=spK n.decls q x1.op x1.num x1.args j x2:=by
     first
     | (rw [spK,if_neg om];exact hp2)
     | (rw [spK,if_pos om,hfk,hg1];exact Eq.trans hp2 (Zku hwk))
    refine do_ 14 (dL 14 [] [] [Z3k y2] 1 2 ?_)
    intro v3
    refine dtk (fuel:=2) 2 [] (.n 79 (.sl [Z3k y2] none) (.p .r)) (do_ 15 (dp 15 9 [] [] (Z16 (ys++[y2])) (Z16 ys) [Z3k y2] u none 2 (Z66 _) (Z5u rfl) rfl (by simp<;>omega) (by simp [Z5a,Z42]) ?_))
    intro v4
    refine Zc0 (tB [11,2] [.many (Zp ys),.many (Z0b y2)] (Zp ys++(Z0b y2++[])) (Zp (ys++[y2])) (by simp [Z0e,Z02,Z0t,Z0j,Zr,Z0k,Z04,Z05,Zp,Z1u,Z0b,Z19,Z0i,Zl,Z41,Z2h,Z0m,Z00])) (dtk (fuel:=0) 1 [16] (.n 14 (Z2c (ys++[y2]) v4) (.q 80 (.k (.q 78 (.q 70 (.k (.k (.q 75 (.q 74 (.k (.k (.k (.k (.k (.k (.k (.k (.q 64 (.k (.k (.q 17 (.k (.k (.k (.k (.k (.k (.k (.d .r))))))))))))))))))))))))))))) (de (az (ia (((j+1:Nat):Int)) (((j:Int))+(1)) (irk 1 (.n 32 (.i (j+1:Nat)) (.p (.k (.d (.d (.d (.d (.d (.d (.d (.d (.d (.d (.d (.d (.d (.d (.d (.d (.d (.d (.d (.d (.k (.k (.k (.k (.k (.k (.k (.d (.k (.k (.k (.k (.k .z)))))))))))))))))))))))))))))))))))) (ie ?_))))))
    exact ⟨_,_,_,ob,⟨j+1,(ys++[y2]),v4,ob,ob,(by rw [Zjx,Zjy,hy];exact Zn1 hkb c1_2),rfl,rfl,rfl⟩,(wk [5,5,5,5,5,1,4,0] (fr (fr (fr (fr (fr (fr (fr (fr (fr (fr (fr (fr (fr (fc (x:=.i (j+1:Nat)) li fl)))))))))))))))⟩
   refine dA 13 [1,4,1] [b5,b1,b5] [.i 0,.i 0,nl,.b false] ?_
   intro b8
   refine do_ 8 (dc 8 [] [2] [b5] (Z2e _ x1.num) ?_)
   rintro _ _ ⟨rfl,rfl⟩
   obtain ⟨x5,hx5⟩:=Z8 (xs:=((Zb n.decls x1.num).map (Z1 n.decls))) (j:=j) (by have h:=(Zdb hws om).2;rw [List.length_map];omega)
   have hfk:=Zb8 hx5
   have hxl:(x5).length≤3:=by rw [←hfk];exact Z8m hdk _ _
   refine dx 10 (Z0 (es:=Z33 ((Zb n.decls x1.num).map (Z1 n.decls))) (hv:=none) (j:=(j:Int)) (sz:=1) (y:=nInt x5) kr om (Z4o hx5) rfl) (dt (fuel:=1) 3 [11,12] [(2,.i q),(3,nArm am),(4,.val (.func (.func 39) #[] #[])),(5,.p b1 0),(10,.p b3 0),(11,.p b4 0),(13,.p b5 0),(14,Z2c ys u),(16,.p b6 0),(17,.p b8 0),(23,Z0h b.steps),(24,.i b.steps.length),(25,.i k),(30,Z03 x1.kids),(31,.i x1.kids.length),(32,.i j),(61,.agg [.i x3,.i q,nInt x5,.b false])] (do_ 14 (dS 14 0 [] [] b8 0 [.i x3,.i q,nInt x5,.b false] [.i 0,.i 0,nl,.b false] [.i x3,.i q,nInt x5,.b false] (de (ar (irK 2 (.n 62 (nArm am) (.n 63 (.agg [.i x3,.i q,nInt x5,.b false]) .r)) [0] [b8] (ic [] (Zbx am (Arm.mk x3 (q:Int) x5 false)) ?_)))))))
   rintro _ _ ⟨rfl,rfl⟩
   refine irk 1 (.n 18 (nArm (am++[(Arm.mk x3 (q:Int) x5 false)])) .r) (ie (aE 17 (dtK (fuel:=9) 17 [0,1,2,3,4,6,7,8] (.n 65 (Z2c ys u) (.n 66 (.agg [Z2 n.decls,nSg3 (n.routines.map Z4)]) (.n 67 (.val (.func (.func 39) #[] #[])) (.n 68 (nArm (am++[(Arm.mk x3 (q:Int) x5 false)])) (.n 69 (Zj x2) (.n 71 (.i q) (.n 73 (nInt x5) .r))))))) [5,1,0] [b1,b6,b8] (dn 9 (.i x5.length) (.i (((Z6 x5).length:Nat):Int)) (li (by rw [Z5])) (da 10 (((q+x5.length:Nat):Int)) (((q:Int))+((x5.length:Int))) (dtk (fuel:=5) 7 [11,12] (.n 76 (nArm (am++[(Arm.mk x3 (q:Int) x5 false)])) (.n 77 (.val (.func (.func 39) #[] #[])) .r)) (do_ 5 (dc 5 [] [0,5] [b8,b1] (Zwm am x3 q x5 x2 (hc:=(Z031 ((Zib _).1 hwk)))) ?_))))))))
   rintro _ _ ⟨rfl,rfl⟩
   refine do_ 13 (dc 13 [] [] [] (ih (apA x2 x3 x5 q) (q+x5.length) (am++[(Arm.mk x3 (q:Int) x5 false)]) (by first|exact hwk|exact Zp2 hwk) (by first|omega|(have h:=Zbw (x:=x3) (q:=(q:Int)) hxl hwk;simp only [List.length_append,List.length_cons,List.length_nil];omega)) (by first|omega|(have h:=Zbw (x:=x3) (q:=(q:Int)) hxl hwk;omega)) (by first|omega|(have h:=Zbw (x:=x3) (q:=(q:Int)) hxl hwk;omega))) ?_)
   rintro _ _ ⟨y3,rfl,rfl,hp3⟩
   have hy:(y3).er=spK n.decls q x1.op x1.num x1.args j x2:=by
    first
    | (rw [spK,if_neg om];exact hp3)
    | (rw [spK,if_pos om,hfk,hg1];exact Eq.trans hp3 (Zku hwk))
   refine do_ 14 (dL 14 [] [] [Z3k y3] 1 2 ?_)
   intro v5
   refine dtk (fuel:=2) 2 [] (.n 79 (.sl [Z3k y3] none) (.p .r)) (do_ 15 (dp 15 9 [] [] (Z16 (ys++[y3])) (Z16 ys) [Z3k y3] u none 2 (Z66 _) (Z5u rfl) rfl (by simp<;>omega) (by simp [Z5a,Z42]) ?_))
   intro v6
   refine Zc0 (tB [11,2] [.many (Zp ys),.many (Z0b y3)] (Zp ys++(Z0b y3++[])) (Zp (ys++[y3])) (by simp [Z0e,Z02,Z0t,Z0j,Zr,Z0k,Z04,Z05,Zp,Z1u,Z0b,Z19,Z0i,Zl,Z41,Z2h,Z0m,Z00])) (dtk (fuel:=0) 1 [16] (.n 14 (Z2c (ys++[y3]) v6) (.q 80 (.k (.q 78 (.q 70 (.k (.k (.q 75 (.q 74 (.k (.k (.k (.k (.k (.k (.k (.k (.q 64 (.k (.k (.k (.k (.k (.k (.k (.k (.k (.d .r)))))))))))))))))))))))))))) (de (az (ia (((j+1:Nat):Int)) (((j:Int))+(1)) (irk 1 (.n 32 (.i (j+1:Nat)) (.p (.k (.d (.d (.d (.d (.d (.d (.d (.d (.d (.d (.d (.d (.d (.d (.d (.d (.d (.d (.d (.k (.k (.k (.k (.k (.k (.k (.d (.d (.k (.k (.k (.k (.k .z)))))))))))))))))))))))))))))))))))) (ie ?_))))))
   exact ⟨_,_,_,ob,⟨j+1,(ys++[y3]),v6,ob,ob,(by rw [Zjx,Zjy,hy];exact Zn1 hkb c1_2),rfl,rfl,rfl⟩,(wk [5,5,5,5,5,1,4,0] (fr (fr (fr (fr (fr (fr (fr (fr (fr (fr (fr (fr (fr (fc (x:=.i (j+1:Nat)) li fl)))))))))))))))⟩
  have hK:=Zwj om c1_2
  refine ax 2 (aD 9 (dtK (fuel:=5) 9 [0,1,2,3] (.n 83 (Z3c xs v) (.n 84 (Z0o x1) (.n 85 (Z2c ys u) .r))) [1,0] [b4,b5] (do_ 4 (dc 4 [] [1] [b4] (Zk6 x1 ys u) ?_))))
  rintro _ _ ⟨u1,rfl,rfl⟩
  refine do_ 5 (dL 5 [1] [b4] [Zbt (HStep.mk x1.op x1.num x1.into x1.args u1 ys u)] 1 5 ?_)
  intro v7
  refine dtk (fuel:=3) 3 [] (.n 87 (.sl [Zbt (HStep.mk x1.op x1.num x1.into x1.args u1 ys u)] none) (.p .r)) (do_ 6 (dp 6 8 [] [] (Z2b (xs++[HStep.mk x1.op x1.num x1.into x1.args u1 ys u])) (Z2b xs) [Zbt (HStep.mk x1.op x1.num x1.into x1.args u1 ys u)] v none 5 (Zb7 _) (Z5u rfl) rfl (by simp<;>omega) (by simp [Zar,Z5s]) ?_))
  intro v8
  refine Zc0 (tB [7,2,7,6] [.many (Z05 xs),.tail u1 1,.many (Zp ys),.tail u 2] (Z05 xs++((u1,1)::(Zp ys++((u,2)::[])))) (Z05 (xs++[HStep.mk x1.op x1.num x1.into x1.args u1 ys u])) (by simp [Z0e,Z02,Z0t,Z0j,Zr,Z0k,Z04,Z05,Zp,Z1u,Z0b,Z19,Z0i,Zl,Z41,Z2h,Z0m,Z00])) (dtk (fuel:=1) 2 [7] (.n 89 (.p b4 0) .r) (do_ 8 (dS 8 4 [] [] b4 0 [Z3c (xs++[HStep.mk x1.op x1.num x1.into x1.args u1 ys u]) v8] [Z3c xs v,.i b.result] [Z3c (xs++[HStep.mk x1.op x1.num x1.into x1.args u1 ys u]) v8,.i b.result] (de (ar (irK 2 (.n 91 (.i x1.op) .r) [4] [b5] (ic [] (Z4d x1.op) ?_)))))))
  rintro _ _ ⟨rfl,rfl⟩
  refine irk 1 (.n 93 (.b (!Z0q x1.op)) .r) (ie (Zan (fun F h=>F=[(2,.i (((if Z0q x1.op=true then q else q+1):Nat):Int)),(3,nArm am),(4,.val (.func (.func 39) #[] #[])),(5,.p b1 0),(10,.p b3 0),(11,.p b4 0),(23,Z0h b.steps),(24,.i b.steps.length),(25,.i k)]∧h=[.obj b4 [Z3c (xs++[HStep.mk x1.op x1.num x1.into x1.args u1 ys u]) v8,.i b.result],.many (Z05 (xs++[HStep.mk x1.op x1.num x1.into x1.args u1 ys u])),.obj b3 [nl,.i 0],.obj b1 [Z2 n.decls,nSg3 (n.routines.map Z4)],.tail v8 5]) (fun _ _=>rfl) ?_ ?_))
  ·refine ac (!Z0q x1.op) (p:=¬(Z0q x1.op=true)) (Zc Iff.rfl) (fun hc4=>?_) (fun hc4=>?_)
   ·refine az (ir 1 [(3,nArm am),(4,.val (.func (.func 39) #[] #[])),(5,.p b1 0),(10,.p b3 0),(11,.p b4 0),(23,Z0h b.steps),(24,.i b.steps.length),(25,.i k),(94,.i q)] (ia (((q+1:Nat):Int)) (((q:Int))+(1)) (irk 1 (.n 2 (.i (q+1:Nat)) .r) (ie ?_))))
    exact ⟨[(2,.i (((if Z0q x1.op=true then q else q+1):Nat):Int)),(3,nArm am),(4,.val (.func (.func 39) #[] #[])),(5,.p b1 0),(10,.p b3 0),(11,.p b4 0),(23,Z0h b.steps),(24,.i b.steps.length),(25,.i k)],[.obj b4 [Z3c (xs++[HStep.mk x1.op x1.num x1.into x1.args u1 ys u]) v8,.i b.result],.many (Z05 (xs++[HStep.mk x1.op x1.num x1.into x1.args u1 ys u])),.obj b3 [nl,.i 0],.obj b1 [Z2 n.decls,nSg3 (n.routines.map Z4)],.tail v8 5],⟨rfl,rfl⟩,(wk [0,0,3,3,0] (fc (x:=.i (q+1:Nat)) (li (by rw [if_neg hc4])) fl))⟩
   refine ak ?_
   exact ⟨[(2,.i (((if Z0q x1.op=true then q else q+1):Nat):Int)),(3,nArm am),(4,.val (.func (.func 39) #[] #[])),(5,.p b1 0),(10,.p b3 0),(11,.p b4 0),(23,Z0h b.steps),(24,.i b.steps.length),(25,.i k)],[.obj b4 [Z3c (xs++[HStep.mk x1.op x1.num x1.into x1.args u1 ys u]) v8,.i b.result],.many (Z05 (xs++[HStep.mk x1.op x1.num x1.into x1.args u1 ys u])),.obj b3 [nl,.i 0],.obj b1 [Z2 n.decls,nSg3 (n.routines.map Z4)],.tail v8 5],⟨rfl,rfl⟩,(wk [0,0,3,3,0] (fc (x:=.i q) (li (by rw [if_pos (Classical.not_not.1 hc4)])) fl))⟩
  rintro F h ⟨rfl,rfl⟩
  refine az (ia (((k+1:Nat):Int)) (((k:Int))+(1)) (ir 1 [(2,.i (((if Z0q x1.op=true then q else q+1):Nat):Int)),(3,nArm am),(4,.val (.func (.func 39) #[] #[])),(5,.p b1 0),(10,.p b3 0),(11,.p b4 0),(23,Z0h b.steps),(24,.i b.steps.length),(25,.i (k+1:Nat))] (ie ?_)))
  exact ⟨_,_,_,ob,⟨k+1,(if Z0q x1.op=true then q else q+1),(xs++[HStep.mk x1.op x1.num x1.into x1.args u1 ys u]),v8,ob,(by split<;>omega),ob,(by rw [Zy4,Zy5,HStep.er,hK];exact Z04i hx1 c0_3),rfl,rfl,rfl⟩,(wk [0,1,1,1,0] (fr (fr (fr (fr (fr (fr (fr (fr (fc (x:=.i (k+1:Nat)) li fl))))))))))⟩
 refine ax 0 (ar (irK 1 (.n 97 (.agg [Z3c xs v,.i b.result]) .r) [0] [b4] (iS 1 b3 0 [Z3c xs v,.i b.result] [nl,.i 0] [Z3c xs v,.i b.result] (ie (Z2s (tB [4,3] [.many (Z05 xs),.tail v 5] (Z05 xs++((v,5)::[])) (Z0b (HBlock.mk xs v b.result)) (by simp [Z0e,Z02,Z0t,Z0j,Zr,Z0k,Z04,Z05,Zp,Z1u,Z0b,Z19,Z0i,Zl,Z41,Z2h,Z0m,Z00])) ?_)))))
 exact at_ (r3 [0] [.agg [Z3c xs v,.i b.result]] [1] [(b3,b3)] ⟨(HBlock.mk xs v b.result),rfl,rfl,(by rw [HBlock.er,Zjg,Z001 om c0_3])⟩ (lr _))
theorem Zf4 (n:Normal) (hn:NOk n) (k:Nat):∀(b2:Block) (m2:Nat) (a2:List Arm),(wB n.decls b2)→(a2.length+b2.pz≤800000000)→(m2+4*b2.pz≤900000000)→(b2.pz<k)→Z3 Tryz.prog 38 [.agg [Z2 n.decls,nSg3 (n.routines.map Z4)],Zj b2,.i m2,nArm a2,.val (.func (.func 39) #[] #[])] [] (fun r h=>∃(y:HBlock),r=Z3k y∧h=[.many (Z0b y)]∧y.er=spB n.decls m2 b2):=by
 induction k with
 | zero=>intro b mm am _ _ _ h;omega
 | succ k ih=>intro b mm am h1 h2 h3 h4;exact Zdo n b mm am hn h1 h2 h3 fun b2 m2 a2 k1 k2 k3 k4=>ih b2 m2 a2 k1 k2 k3 om
theorem Zgt (n:Normal) (b:Block) (mm:Nat) (am:List Arm) (hn:NOk n:=by exact ob) (hw:wB n.decls b:=by exact ob) (hal:am.length+b.pz≤800000000:=by exact ob) (hb:mm+4*b.pz≤900000000:=by exact ob):Z3 Tryz.prog 38 [.agg [Z2 n.decls,nSg3 (n.routines.map Z4)],Zj b,.i mm,nArm am,.val (.func (.func 39) #[] #[])] [] (fun r h=>∃(y:HBlock),r=Z3k y∧h=[.many (Z0b y)]∧y.er=spB n.decls mm b):=Zf4 n hn (b.pz+1) b mm am hw hal hb om
theorem Zhx (n:Normal) (rt:Routine) (b:Block) (bs:Nat) (hn:NOk n:=by exact ob) (hw:wB n.decls b:=by exact ob) (hp:rt.params.length≤4:=by exact ob) (hb:b.pz≤200000000:=by exact ob):Z3 Tryz.prog 37 [Z0n rt,Zj b,.p bs 0] [.obj bs [Z2 n.decls,nSg3 (n.routines.map Z4)]] (fun r h=>∃(y:HBlock),r=Z3k y∧h=[.many (Z0b y),.obj bs [Z2 n.decls,nSg3 (n.routines.map Z4)]]∧y.er=spB n.decls rt.params.length b):=by
 refine enter Tryz.func37 kr (n:=12) kr kr (ar (iA (Z1m rt) ?_))
 intro b1
 refine iA (Z0l b) ?_
 intro b2
 refine iA [nl,.i 0] ?_
 intro b3
 refine ie (ar (iR 4 [(5,.p b3 0),(6,.agg [Z2 n.decls,nSg3 (n.routines.map Z4)]),(7,Zj b),(9,nInt rt.params)] [3,1,2] [bs,b2,b1] (io (.i rt.params.length) (.i (((Z6 rt.params).length:Nat):Int)) (li (by rw [Z5])) (ic [] (Z3.args_le (Zgt n b rt.params.length []) (.cons (lr _) (.cons (lr _) (.cons (lr _) (.cons (AVLe.forget [] (some nilV)) (.cons (lr _) .nil)))))) ?_))))
 rintro _ _ ⟨y1,rfl,rfl,hp1⟩
 refine iS 1 b3 0 (Z7b y1) [nl,.i 0] (Z7b y1) (ie ?_)
 exact at_ (r3 [1,3] [Z3k y1] [0] [(b3,b3)] ⟨y1,rfl,rfl,ob⟩ (lr _))
theorem Zf5 (n:Normal) (bs:Nat) (hn:NOk n:=by exact ob) (hz:NSz n:=by exact ob) (hbt:∀r∈n.routines,0≤Zg n r.params r.body):Z3 Tryz.prog 26 [Zi n,.val (.func (.func 37) #[] #[.pointer (some ⟨bs,0,none⟩)])] [.obj bs [Z2 n.decls,nSg3 (n.routines.map Z4)]] (fun r h=>∃(y:HNormal),r=Z22 y∧h=[.many (Z00 y),.obj bs [Z2 n.decls,nSg3 (n.routines.map Z4)]]∧y.er=Normal.mk n.decls (n.routines.map (spR n.decls))):=by
 have hzl:=hn.len
 refine enter Tryz.func26 kr (n:=40) kr kr (ar (iA (Zh n) ?_))
 intro b1
 refine iA [nl,nl] ?_
 intro b2
 refine ie (ar (iR 2 [(1,.val (.func (.func 37) #[] #[.pointer (some ⟨bs,0,none⟩)])),(2,.p b1 0),(4,.p b2 0),(9,Z2 n.decls)] [1] [b1] (ic [] (Zgs n.decls (hd:=hn.decls)) ?_)))
 rintro _ _ ⟨ys1,w1,rfl,rfl,hp1⟩
 have hde:=hp1
 refine irk 1 (.n 11 (.agg [Z4t ys1 w1,nl]) .r) (iA [nl,nl] ?_)
 intro b3
 refine iS 0 b3 0 [Z4t ys1 w1,nl] [nl,nl] [Z4t ys1 w1,nl] (ie (aq (ar (irK 2 (.n 13 (Zm n.routines) .r) [4] [b1] (io (.i n.routines.length) (.i (((Zo n.routines).length:Nat):Int)) (li (by rw [Z09])) (irk 1 (.n 15 (.i 0) .r) (ie (ab 0 (Z50 5 (Z2s (tB [] [] [] (Zl []) (by simp [Z0e,Z02,Z0t,Z0j,Zr,Z0k,Z04,Z05,Zp,Z1u,Z0b,Z19,Z0i,Zl,Z41,Z2h,Z0m,Z00])) (al (fun m F h=>∃(k:Nat) (xs:List HRoutine) (v:Value),(k≤n.routines.length)∧(xs.map HRoutine.er=(n.routines.take k).map (spR n.decls))∧(xs.length=k)∧F=[(1,.val (.func (.func 37) #[] #[.pointer (some ⟨bs,0,none⟩)])),(4,.p b2 0),(5,.p b3 0),(13,Zm n.routines),(14,.i n.routines.length),(15,.i k)]∧h=[.obj b3 [Z4t ys1 w1,Z31 xs v],.many (Z0i ys1),.obj b2 [nl,nl],.obj bs [Z2 n.decls,nSg3 (n.routines.map Z4)],.tail v 5,.tail w1 3,.many (Zl xs)]∧m=n.routines.length-k) _ _ _ ⟨0,[],(.slice none 0 0),ob,rfl,rfl,rfl,rfl,rfl⟩ (wk [2,2,3,4,1,1,0] (fr (fr (fr (fr (fr (fc (x:=.i 0) li fl))))))) ?_)))))))))))
 rintro m F h ⟨k,xs,v,c0_0,c0_1,c0_2,rfl,rfl,rfl⟩
 refine ar (irk 1 (.n 16 (.b (decide ((k:Int)<(n.routines.length:Int)))) .r) (ie (aq (ac (decide ((k:Int)<(n.routines.length:Int))) dq (fun hc1=>?_) (fun hc1=>?_)))))
 ·refine ak (aq (ab 1 (ar ?_)))
  obtain ⟨x1,hx1⟩:=Z8 (xs:=n.routines) (j:=k) om
  have hrm:=List.mem_of_getElem? hx1
  have hbz:=hz.body _ hrm
  have hpl:=hn.params_at hx1
  have hll:=hn.lent_at hx1
  have hwb:=Zl7 hbt _ hrm
  have hpb:=Block.pz_le (x1).body
  refine is_ (Z0 (es:=Zo n.routines) (hv:=none) (j:=(k:Int)) (sz:=5) (y:=Z0n x1) kr om (Z0v hx1) rfl) (irk 1 (.n 18 (Z0n x1) .r) (iA [nl,nl,.i 0,nl,.i 0] ?_))
  intro b4
  refine iS 0 b4 0 (Z1m x1) [nl,nl,.i 0,nl,.i 0] (Z1m x1) (ie (aE 20 (dtK (fuel:=8) 20 [0,1,2,3,5,6,8,9,10,11,12,13] (.n 20 (Z31 xs v) (.n 22 (nInt x1.params) (.n 25 (nInt x1.lent) (.n 28 (.i x1.result) (.n 29 (.val (.func (.func 37) #[] #[.pointer (some ⟨bs,0,none⟩)])) (.n 30 (Z0n x1) (.n 32 (Zj x1.body) .r))))))) [1,0,0,0,0,0] [b3,b4,b4,b4,b4,b4] (do_ 4 (dc 4 [] [0,0,0,0,1] [b4,b4,b4,b4,b3] (Z84 x1.params) ?_)))))
  rintro _ _ ⟨v1,rfl,rfl⟩
  refine do_ 7 (dc 7 [] [0,0,0,1] [b4,b4,b4,b3] (Z84 x1.lent) ?_)
  rintro _ _ ⟨v2,rfl,rfl⟩
  refine do_ 14 (dc 14 [6] [0,1] [b4,b3] (Zhx _ x1 x1.body bs (hw:=hwb)) ?_)
  rintro _ _ ⟨y1,rfl,rfl,hp2⟩
  refine dtk (fuel:=4) 5 [15] (.n 34 (.agg [oInt x1.params v1,oInt x1.lent v2,.i x1.result,Z3c y1.steps y1.sv,.i y1.result]) .r) (do_ 16 (dL 16 [2] [b3] (Z0u [HRoutine.mk x1.params v1 x1.lent v2 x1.result (HBlock.mk y1.steps y1.sv y1.result)]) 1 5 ?_))
  intro v3
  refine dtk (fuel:=3) 3 [] (.n 35 (Zvj [HRoutine.mk x1.params v1 x1.lent v2 x1.result (HBlock.mk y1.steps y1.sv y1.result)]) (.p .r)) (do_ 17 (dp 17 9 [] [] (Z0u (xs++[HRoutine.mk x1.params v1 x1.lent v2 x1.result (HBlock.mk y1.steps y1.sv y1.result)])) (Z0u xs) (Z0u [HRoutine.mk x1.params v1 x1.lent v2 x1.result (HBlock.mk y1.steps y1.sv y1.result)]) v none 5 (Z5y _) (Z5y _) (Zhv _) (by simp<;>omega) (by simp [Z86,Z0u]) ?_))
  intro v4
  refine Zc0 (tB [11,5,4,2] [.many (Zl xs),.tail v1 1,.tail v2 1,.many (Z0b y1)] (Zl xs++((v1,1)::((v2,1)::(Z0b y1++[])))) (Zl (xs++[HRoutine.mk x1.params v1 x1.lent v2 x1.result (HBlock.mk y1.steps y1.sv y1.result)])) (by simp [Z0e,Z02,Z0t,Z0j,Zr,Z0k,Z04,Z05,Zp,Z1u,Z0b,Z19,Z0i,Zl,Z41,Z2h,Z0m,Z00,Zab,HBlock.steps,HBlock.sv])) (dtk (fuel:=1) 2 [18] (.n 37 (.p b3 1) .r) (do_ 19 (dS 19 5 [] [] b3 1 [Z31 (xs++[HRoutine.mk x1.params v1 x1.lent v2 x1.result (HBlock.mk y1.steps y1.sv y1.result)]) v4] [Z4t ys1 w1,Z31 xs v] [Z4t ys1 w1,Z31 (xs++[HRoutine.mk x1.params v1 x1.lent v2 x1.result (HBlock.mk y1.steps y1.sv y1.result)]) v4] (de (az (ia (((k+1:Nat):Int)) (((k:Int))+(1)) (irk 1 (.n 15 (.i (k+1:Nat)) (.p (.d (.p (.d (.d (.p (.p (.p (.d (.d (.d (.d (.d (.d (.d (.p (.d (.p (.d (.k (.k (.k (.k (.k .z))))))))))))))))))))))))) (ie ?_))))))))
  exact ⟨_,_,_,ob,⟨k+1,(xs++[HRoutine.mk x1.params v1 x1.lent v2 x1.result (HBlock.mk y1.steps y1.sv y1.result)]),v4,ob,(Z01f c0_1 hx1 (by show Routine.mk _ _ _ (HBlock.er (HBlock.mk y1.steps y1.sv y1.result))=Routine.mk _ _ _ _;rw [HBlock.eta];exact congrArg (Routine.mk x1.params x1.lent x1.result) (by assumption))),(by simp [c0_2]),rfl,rfl,rfl⟩,(wk [0,5,5,3,1,3,0] (fr (fr (fr (fr (fr (fc (x:=.i (k+1:Nat)) li fl)))))))⟩
 refine ax 0 (ar (irK 1 (.n 39 (.agg [Z4t ys1 w1,Z31 xs v]) .r) [0] [b3] (iS 2 b2 0 [Z4t ys1 w1,Z31 xs v] [nl,nl] [Z4t ys1 w1,Z31 xs v] (ie (Z2s (tB [2,4,4,3] [.many (Z0i ys1),.tail w1 3,.many (Zl xs),.tail v 5] (Z0i ys1++((w1,3)::(Zl xs++((v,5)::[])))) (Z00 (HNormal.mk ys1 w1 xs v)) (by simp [Z0e,Z02,Z0t,Z0j,Zr,Z0k,Z04,Z05,Zp,Z1u,Z0b,Z19,Z0i,Zl,Z41,Z2h,Z0m,Z00])) ?_)))))
 exact at_ (r3 [0,2] [.agg [Z4t ys1 w1,Z31 xs v]] [1] [(b2,b2)] ⟨(HNormal.mk ys1 w1 xs v),rfl,rfl,(by show Normal.mk (ys1.map HDecl.er) (xs.map HRoutine.er)=_;rw [hde,c0_1,List.take_of_length_le om])⟩ (lr _))
theorem Zgq (n:Normal) (hz:NSz n) (hr:∀r∈n.routines,r.body.rng):Z3 Tryz.prog 14 [Zi n] [] (fun r h=>∃(y:HNormal),r=.tup [Z22 y,.b ((Z1k n).2)]∧h=[.many (Z00 y)]∧y.er=(Z1k n).1):=by
 refine enter Tryz.func14 kr (n:=24) kr kr (ar (iA (Zh n) ?_))
 intro b1
 refine iA [nl,nl] ?_
 intro b2
 refine ir 1 [(1,.p b1 0),(2,.p b2 0)] (ie (aq (ar (irK 1 (.n 7 (Zi n) .r) [1] [b1] (ic [] (Zf1 n (hr:=hr)) ?_)))))
 rintro _ _ ⟨rfl,rfl⟩
 refine irk 1 (.n 9 (.b (!Z2j n)) .r) (ie (ac (!Z2j n) (p:=¬(Z2j n=true)) (Zc Iff.rfl) (fun hc1=>?_) (fun hc1=>?_)))
 ·refine ar (irk 1 (.n 10 (.agg [nl,nl]) .r) (iS 0 b2 0 [nl,nl] [nl,nl] [nl,nl] (irk 1 (.n 3 (.b false) .r) (ie ?_))))
  have hE:Z1k n=(noN,false):=if_neg hc1
  refine Z50 5 (Z50 3 (Z2s (tB [0,0] [.tail (.slice none 0 0) 3,.tail (.slice none 0 0) 5] (((.slice none 0 0),3)::(((.slice none 0 0),5)::[])) (Z00 (HNormal.mk [] (.slice none 0 0) [] (.slice none 0 0))) (by simp [Z0e,Z02,Z0t,Z0j,Zr,Z0k,Z04,Z05,Zp,Z1u,Z0b,Z19,Z0i,Zl,Z41,Z2h,Z0m,Z00])) ?_))
  exact at_ (r3 [0] [.agg [nl,nl],.b false] [1] [(b2,b2)] ⟨(HNormal.mk [] (.slice none 0 0) [] (.slice none 0 0)),rfl,rfl,(by rw [hE];rfl)⟩ (AVLe.tup (.cons (lr _) (.cons (lb (by rw [hE])) .nil))))
 have hB:Z2j n=true:=Classical.not_not.1 hc1
 obtain ⟨hn,hsg,hbt⟩:=Z7t hz hB
 refine ak (ar (irK 1 (.n 12 (Zi n) .r) [1] [b1] (ic [] (Z79 n ob ob) ?_)))
 rintro _ _ ⟨rfl,rfl⟩
 refine irk 3 (.n 14 (.agg [Z2 n.decls,nSg3 (n.routines.map Z4)]) (.n 15 (.b (Z0c n)) .r)) (iA [nl,nl] ?_)
 intro b3
 refine iS 0 b3 0 [Z2 n.decls,nSg3 (n.routines.map Z4)] [nl,nl] [Z2 n.decls,nSg3 (n.routines.map Z4)] (irk 1 .r (ie (ar (irK 2 (.n 16 (Zi n) (.n 17 (.val (.func (.func 37) #[] #[.pointer (some ⟨b3,0,none⟩)])) .r)) [2] [b1] (ic [0] (Zf5 n b3 (hbt:=hbt)) ?_)))))
 rintro _ _ ⟨y1,rfl,rfl,hp1⟩
 have hy:y1.er=spN n:=hp1
 have hnl:=hn.len
 refine iA [nl,nl] ?_
 intro b4
 refine iS 0 b4 0 (Z7n y1) [nl,nl] (Z7n y1) (ie (aq (ar (irK 1 (.n 19 (Z22 y1) .r) [0] [b4] (ic [] (Zrr y1 (hl:=(by rw [hy];simp only [spN,List.length_map];omega)) (hb:=(by rw [hy];exact Zqm hn hz hbt))) ?_)))))
 rintro _ _ ⟨rfl,rfl⟩
 refine irk 1 (.n 21 (.b (!Zf0 y1.er)) .r) (ie (ac (!Zf0 y1.er) (p:=¬(Zf0 y1.er=true)) (Zc Iff.rfl) (fun hc2=>?_) (fun hc2=>?_)))
 ·refine ar (irk 1 (.n 22 (.agg [nl,nl]) .r) (iS 3 b2 0 [nl,nl] [nl,nl] [nl,nl] (irk 1 (.n 3 (.b false) .r) (ie ?_))))
  have hE:Z1k n=(noN,false):=by rw [Z1k,if_pos hB,if_neg (by rw [←hy];exact hc2)]
  refine Z50 5 (Z50 3 (Z2s (tB [0,0] [.tail (.slice none 0 0) 3,.tail (.slice none 0 0) 5] (((.slice none 0 0),3)::(((.slice none 0 0),5)::[])) (Z00 (HNormal.mk [] (.slice none 0 0) [] (.slice none 0 0))) (by simp [Z0e,Z02,Z0t,Z0j,Zr,Z0k,Z04,Z05,Zp,Z1u,Z0b,Z19,Z0i,Zl,Z41,Z2h,Z0m,Z00])) ?_))
  exact at_ (r3 [0] [.agg [nl,nl],.b false] [1] [(b2,b2)] ⟨(HNormal.mk [] (.slice none 0 0) [] (.slice none 0 0)),rfl,rfl,(by rw [hE];rfl)⟩ (AVLe.tup (.cons (lr _) (.cons (lb (by rw [hE])) .nil))))
 refine ak (ar (irK 1 (.n 23 (Z22 y1) .r) [0] [b4] (iS 3 b2 0 (Z7n y1) [nl,nl] (Z7n y1) (irk 1 (.n 3 (.b true) .r) (ie ?_)))))
 have hE:Z1k n=(spN n,true):=by rw [Z1k,if_pos hB,if_pos (by rw [←hy];exact Classical.not_not.1 hc2)]
 exact at_ (r3 [2] [Z22 y1,.b true] [0] [(b2,b2)] ⟨y1,rfl,rfl,(by rw [hE];exact hy)⟩ (AVLe.tup (.cons (lr _) (.cons (lb (by rw [hE])) .nil))))
end Go.Abs
end
section
namespace Go.Abs
open Go.Proofs
theorem Z02i (z:HNormal) (n:Normal) (he:z.er=n) (hz:NSz n):Z3 Tryz.prog 13 [Z22 z] [] (fun r h=>r=.tup [Zi ((Z1k n).1),.b ((Z1k n).2)]∧h=[]):=by
 subst he
 have h1:Z3 Tryz.prog 13 [Z22 z] [] _:=(Zhf z.er hz).args_le (.cons (Z5o z) .nil)
 exact h1
theorem Zus (z:HNormal) (n:Normal) (he:z.er=n) (hz:NSz n) (hr:∀r∈n.routines,r.body.rng):Z3 Tryz.prog 14 [Z22 z] [] (fun r h=>∃(y:HNormal),r=.tup [Z22 y,.b ((Z1k n).2)]∧h=[.many (Z00 y)]∧y.er=(Z1k n).1):=by
 subst he
 exact (Zgq z.er hz hr).args_le (.cons (Z5o z) .nil)
theorem Zut (z:HNormal) (n:Normal) (S:List Nat) (M:Mem) (he:z.er=n) (hz:NSz n) (hr:∀r∈n.routines,r.body.rng) (hrp:RepN S M z):Z3 Tryz.prog 14 [av z] [.own S M] (fun r h=>∃(y:HNormal) (S2:List Nat) (M2:Mem),r=.tup [av y,.b ((Z1k n).2)]∧h=[.own S2 M2,.own S M]∧(y.er=(Z1k n).1∧Z45 M2 S2 y∧(Z08 y).Nodup∧RepN S2 M2 y)):=by
 refine ((Zus z n he hz hr).thaw2.lendO [.own S M] (.lent (List.mem_singleton.2 rfl) hrp .nil) sgl ?_).mono ?_
 ·rintro r h ⟨y,S2,M2,rfl,rfl,_⟩
  refine ⟨.tup fun q hq=>?_,fun q hq=>by rw [List.mem_singleton.1 hq];trivial⟩
  rcases List.mem_cons.1 hq with rfl|hq
  ·exact .agg fun q hq=>by
    rcases List.mem_cons.1 hq with rfl|hq
    ·exact .val
    ·rw [List.mem_singleton.1 hq];exact .val
  ·rw [List.mem_singleton.1 hq];exact .val
 ·rintro r h ⟨h1,⟨y,S2,M2,rfl,rfl,hp⟩,rfl⟩;exact ⟨y,S2,M2,rfl,rfl,hp⟩
theorem Zhy (n:Normal) (hl:Z4k n≤9223372036854775807) (hr:∀r∈n.routines,r.body.rng):Z3 Tryz.prog 4 [Zi n] [] (fun r h=>r=.b true∧h=[]):=by
 refine enter Tryz.func4 kr (n:=96) kr kr (ar (iA (Zh n) ?_))
 intro b1
 refine ir 1 [(1,.p b1 0)] (ie (ar (irk 1 (.n 3 (.i 1048576) .r) (ie (ar (irK 2 (.n 14 (Zi n) (.n 15 (.i 1048576) .r)) [0] [b1] (ic [] (Zf6 n 1048576 ob ob) ?_)))))))
 rintro _ _ ⟨rfl,rfl⟩
 refine ir 1 [(1,.p b1 0),(3,.i (szL (Z4k n) 1048576))] (ie (aq (ar (irk 2 (.n 18 (.b (decide ((szL (Z4k n) 1048576)<0))) .r) (ie (ac (decide ((szL (Z4k n) 1048576)<0)) dq (fun hc1=>?_) (fun hc1=>?_)))))))
 ·refine ar (ir 1 [(2,.b true)] (ie ?_))
  exact at_ (r1 [] ⟨rfl,rfl⟩)
 have hsz:Z4k n≤1048576:=by unfold szL at hc1;split at hc1<;>omega
 have hz:=Z044 (n:=n) om
 have hxc:=Z02h hz
 refine ak (ar (irK 1 (.n 20 (Zi n) .r) [0] [b1] (ic [] (Zd9 n ob) ?_)))
 rintro _ _ ⟨y1,rfl,rfl,hp1⟩
 have hnhp1:Z4k y1.er≤1000000000:=by rw [hp1];omega
 refine ic [] (Z02i y1 n ob ob) ?_
 rintro _ _ ⟨rfl,rfl⟩
 refine irk 3 (.n 23 (Zi ((Z1k n).1)) (.n 24 (.b ((Z1k n).2)) .r)) (iA [nl,nl] ?_)
 intro b2
 refine iS 0 b2 0 (Zh ((Z1k n).1)) [nl,nl] (Zh ((Z1k n).1)) (irk 1 (.n 5 (.b ((Z1k n).2)) .r) (ie (ar (irK 1 (.n 25 (Zi n) .r) [2] [b1] (ic [] (Z04p n ob) ?_)))))
 rintro _ _ ⟨y2,S1,M1,rfl,rfl,hp2⟩
 obtain ⟨ho1,ho2,ho3,ho4⟩:=hp2
 have ho5:=Zie y2
 have ho6:=Zzw (y:=y2)
 rw [ho1] at ho5 ho6
 have ho7:∀d∈y2.decls,d.cons.length≤4000000000000:=fun d hd=>by have:=ho6 d hd;omega
 refine iA [nl,nl] ?_
 intro b3
 refine iS 0 b3 0 [.val ((hdOf y2.dv).v),.val ((hdOf y2.rv).v)] [nl,nl] [.val ((hdOf y2.dv).v),.val ((hdOf y2.rv).v)] (ie (ar (irK 1 (.n 28 (.agg [.val ((hdOf y2.dv).v),.val ((hdOf y2.rv).v)]) .r) [0] [b3] (ic [1] (Zut y2 n S1 M1 ob ob ob ob) ?_))))
 rintro _ _ ⟨y3,S21,M21,rfl,rfl,hp3⟩
 obtain ⟨hg1,hg2,hg3,hg4⟩:=hp3
 have hg5:=Zie y3
 have hg6:=Zzw (y:=y3)
 rw [hg1] at hg5 hg6
 have hg7:∀d∈y3.decls,d.cons.length≤4000000000000:=fun d hd=>by have:=hg6 d hd;omega
 refine irk 3 (.n 30 (.agg [.val ((hdOf y3.dv).v),.val ((hdOf y3.rv).v)]) (.n 31 (.b ((Z1k n).2)) .r)) (iA [nl,nl] ?_)
 intro b4
 refine iS 0 b4 0 [.val ((hdOf y3.dv).v),.val ((hdOf y3.rv).v)] [nl,nl] [.val ((hdOf y3.dv).v),.val ((hdOf y3.rv).v)] (irk 1 (.n 8 (.b ((Z1k n).2)) .r) (ie (aq (ar (irK 2 (.n 32 (.agg [.val ((hdOf y3.dv).v),.val ((hdOf y3.rv).v)]) (.n 33 (Zi ((Z1k n).1)) .r)) [0,4] [b4,b2] (ic [1] (Z00v y3 ((Z1k n).1) S21 M21 ob ob ob) ?_))))))
 rintro _ _ ⟨rfl,rfl⟩
 refine irk 4 (.n 36 (.b false) (.n 37 (.b ((Z1k n).2)) (.n 38 (.b ((Z1k n).2)) .r))) (is_ (kBne ((Z1k n).2) ((Z1k n).2)) (irk 1 (.n 40 (.b (((Z1k n).2) != ((Z1k n).2))) .r) (ie (ac (((Z1k n).2) != ((Z1k n).2)) bne_iff_ne (fun hc2=>?_) (fun hc2=>?_)))))
 ·refine ar (ir 1 [(2,.b false)] (ie ?_))
  exact at_ (r2 [] [.b false] ⟨rfl,rfl⟩ (lb (absurd rfl hc2)))
 refine ak (aq (aD 5 (dtK (fuel:=3) 5 [0,1] (.n 41 (.agg [.val ((hdOf y2.dv).v),.val ((hdOf y2.rv).v)]) (.n 42 (Zi n) .r)) [3,6] [b3,b1] (do_ 2 (dc 2 [] [1] [b3] (Zd9 n ob) ?_)))))
 rintro _ _ ⟨y4,rfl,rfl,hp4⟩
 have hnhp4:Z4k y4.er≤1000000000:=by rw [hp4];omega
 refine do_ 3 (dc 3 [3] [] [] (Z04z y2 y4 S1 M1 (by rw [ho1];symm;assumption) ob ob) ?_)
 rintro _ _ ⟨rfl,rfl⟩
 refine dtk (fuel:=0) 1 [4] (.n 45 (.b false) .r) (de (ac0 (ak (ar (irk 1 (.n 9 (.i 1) .r) (ie (ar (irK 2 (.n 46 (.agg [.val ((hdOf y2.dv).v),.val ((hdOf y2.rv).v)]) (.n 47 (.i 1) .r)) [4] [b3] (ic [0] (Zvg S1 M1 y2 1 ob ob ob) ?_)))))))))
 rintro _ _ ⟨rfl,rfl⟩
 refine irk 1 (.n 9 (.i ((1:Int)+((Z08 y2).length:Nat))) (.q 48 (.k (.k (.d .r))))) (ie (aq (ar (Z1i 8 [(1,.p b1 0),(4,.p b2 0),(5,.b ((Z1k n).2)),(7,.p b4 0),(8,.b ((Z1k n).2)),(56,.b (decide (((1:Int)+((Z08 y2).length:Nat))<0)))] [.own S1 (wr M1 (Z08 y2) 1),.many (Z00 y4),.own S21 M21,.obj b4 [.val ((hdOf y3.dv).v),.val ((hdOf y3.rv).v)],.obj b3 [.val ((hdOf y2.dv).v),.val ((hdOf y2.rv).v)],.obj b2 (Zh ((Z1k n).1)),.many (Z00 y1),.obj b1 (Zh n)] ?_ (fun hj1=>?_)))))
 ·refine Z27 [(1,.p b1 0),(4,.p b2 0),(5,.b ((Z1k n).2)),(7,.p b4 0),(61,.b ((decide (((1:Int)+((Z08 y2).length:Nat))<0))||(((Z1k n).2) != ((Z1k n).2))))] [.own S1 (wr M1 (Z08 y2) 1),.many (Z00 y4),.own S21 M21,.obj b4 [.val ((hdOf y3.dv).v),.val ((hdOf y3.rv).v)],.obj b3 [.val ((hdOf y2.dv).v),.val ((hdOf y2.rv).v)],.obj b2 (Zh ((Z1k n).1)),.many (Z00 y1),.obj b1 (Zh n)] ?_ ?_
  ·refine ir 1 [(1,.p b1 0),(4,.p b2 0),(5,.b ((Z1k n).2)),(7,.p b4 0),(8,.b ((Z1k n).2)),(57,.b (decide (((1:Int)+((Z08 y2).length:Nat))<0)))] (ib (b:=(decide (((1:Int)+((Z08 y2).length:Nat))<0))) 57 (fun hb1=>?_) (fun hb1=>?_))
   ·have hp5:((1:Int)+((Z08 y2).length:Nat))<0:=(dq).1 hb1
    refine irk 4 (.n 61 (.b true) (.d (.k (.k (.k (.k .z)))))) (ie ?_)
    exact wk [0,0,0,0,0,0,0,0] (fr (fr (fr (fr (fc (x:=.b true) (lb (by simp only [hb1];rfl)) fl)))))
   have hp6:¬(((1:Int)+((Z08 y2).length:Nat))<0):=Zd dq hb1
   refine irk 2 (.n 58 (.b ((Z1k n).2)) (.n 59 (.b ((Z1k n).2)) (.k (.k (.k (.k (.k .z))))))) (is_ (kBne ((Z1k n).2) ((Z1k n).2)) (irk 1 (.n 61 (.b (((Z1k n).2) != ((Z1k n).2))) .r) (ie ?_)))
   exact wk [0,0,0,0,0,0,0,0] (fr (fr (fr (fr (fc (x:=.b (((Z1k n).2) != ((Z1k n).2))) (lb (by simp only [hb1];rfl)) fl)))))
  refine ac ((decide (((1:Int)+((Z08 y2).length:Nat))<0))||(((Z1k n).2) != ((Z1k n).2))) (p:=(((1:Int)+((Z08 y2).length:Nat))<0)∨(((Z1k n).2)≠((Z1k n).2))) (Zf dq bne_iff_ne) (fun hc3=>?_) (fun hc3=>?_)
  ·refine ar (ir 1 [(2,.b false)] (ie ?_))
   exact at_ (r2 [] [.b false] ⟨rfl,rfl⟩ (lb (hc3.elim (fun q=>by omega) fun q=>absurd rfl q)))
  refine ak (ar (ir 1 [(1,.p b1 0),(4,.p b2 0),(5,.b ((Z1k n).2)),(7,.p b4 0),(10,.i 1)] (ie (ar (irK 2 (.n 62 (.agg [.val ((hdOf y3.dv).v),.val ((hdOf y3.rv).v)]) (.n 63 (.i 1) .r)) [3] [b4] (ic [2] (Zvg S21 M21 y3 1 ob ob ob) ?_))))))
  rintro _ _ ⟨rfl,rfl⟩
  refine irk 1 (.n 10 (.i ((1:Int)+((Z08 y3).length:Nat))) (.p (.d (.d (.k (.k (.k (.k .z)))))))) (ie (ar (irk 1 (.n 11 (.i 1) .r) (ie (ar (irK 2 (.n 65 (.agg [.val ((hdOf y3.dv).v),.val ((hdOf y3.rv).v)]) (.n 66 (.i 1) .r)) [3] [b4] (ic [0] (Zul S21 (wr M21 (Z08 y3) 1) y3 1 (Zhd ((Kp.refl _).wr (Zeg hg2) 1) hg2) ob (Zoe _ _ _ hg3) ob) ?_)))))))
  rintro _ _ ⟨rfl,rfl⟩
  refine irk 1 (.n 11 (.i ((1:Int)+((Z08 y3).length:Nat))) (.p (.d (.d (.d .r))))) (ie (aq (ar (irk 2 (.n 69 (.b (decide (((1:Int)+((Z08 y3).length:Nat))<0))) .r) (ie (ac (decide (((1:Int)+((Z08 y3).length:Nat))<0)) dq (fun hc4=>?_) (fun hc4=>?_)))))))
  ·refine ar (ir 1 [(2,.b false)] (ie ?_))
   exact at_ (r2 [] [.b false] ⟨rfl,rfl⟩ lb)
  refine ak (aq (ar (irk 3 (.n 72 (.b (((1:Int)+((Z08 y3).length:Nat)) != ((1:Int)+((Z08 y3).length:Nat)))) .r) (ie (ac (((1:Int)+((Z08 y3).length:Nat)) != ((1:Int)+((Z08 y3).length:Nat))) bne_iff_ne (fun hc5=>?_) (fun hc5=>?_))))))
  ·refine ar (ir 1 [(2,.b false)] (ie ?_))
   exact at_ (r2 [] [.b false] ⟨rfl,rfl⟩ lb)
  refine ak (ar (irK 1 (.n 74 (Zi n) .r) [7] [b1] (ic [] (Zd9 n ob) ?_)))
  rintro _ _ ⟨y5,rfl,rfl,hp7⟩
  have hnhp7:Z4k y5.er≤1000000000:=by rw [hp7];omega
  refine ic [] (Zus y5 n ob ob ob) ?_
  rintro _ _ ⟨y6,rfl,rfl,hp8⟩
  refine irk 3 (.n 77 (Z22 y6) (.n 78 (.b ((Z1k n).2)) .r)) (iA [nl,nl] ?_)
  intro b5
  refine iS 0 b5 0 (Z7n y6) [nl,nl] (Z7n y6) (irk 1 (.n 13 (.b ((Z1k n).2)) .r) (ie (aq (ar (irK 2 (.n 79 (Z22 y6) (.n 80 (Zi ((Z1k n).1)) .r)) [0,8] [b5,b2] (ic [] (Z04y y6 ((Z1k n).1) ob ob) ?_))))))
  rintro _ _ ⟨rfl,rfl⟩
  refine irk 4 (.n 83 (.b false) (.n 84 (.b ((Z1k n).2)) (.n 85 (.b ((Z1k n).2)) .r))) (is_ (kBne ((Z1k n).2) ((Z1k n).2)) (irk 1 (.n 87 (.b (((Z1k n).2) != ((Z1k n).2))) .r) (ie (ac (((Z1k n).2) != ((Z1k n).2)) bne_iff_ne (fun hc6=>?_) (fun hc6=>?_)))))
  ·refine ar (ir 1 [(2,.b false)] (ie ?_))
   exact at_ (r2 [] [.b false] ⟨rfl,rfl⟩ (lb (absurd rfl hc6)))
  refine ak (ar (ir 1 [(7,.p b4 0),(10,.i ((1:Int)+((Z08 y3).length:Nat))),(11,.i 1)] (ie (ar (irK 2 (.n 88 (.agg [.val ((hdOf y3.dv).v),.val ((hdOf y3.rv).v)]) (.n 89 (.i 1) .r)) [6] [b4] (ic [3] (Zul S21 (wr M21 (Z08 y3) 1) y3 1 (Zhd ((Kp.refl _).wr (Zeg hg2) 1) hg2) ob (Zoe _ _ _ hg3) ob) ?_))))))
  rintro _ _ ⟨rfl,rfl⟩
  refine irk 1 (.n 11 (.i ((1:Int)+((Z08 y3).length:Nat))) (.p (.d (.d (.d (.k .z)))))) (ie (aq (ar (irk 2 (.n 92 (.b (decide (((1:Int)+((Z08 y3).length:Nat))<0))) .r) (ie (ac (decide (((1:Int)+((Z08 y3).length:Nat))<0)) dq (fun hc7=>?_) (fun hc7=>?_)))))))
  ·refine ar (ir 1 [(2,.b false)] (ie ?_))
   exact at_ (r2 [] [.b false] ⟨rfl,rfl⟩ lb)
  refine ak (aq (ar (ir 3 [(95,.b (((1:Int)+((Z08 y3).length:Nat)) != ((1:Int)+((Z08 y3).length:Nat))))] (ie (ac (((1:Int)+((Z08 y3).length:Nat)) != ((1:Int)+((Z08 y3).length:Nat))) bne_iff_ne (fun hc8=>?_) (fun hc8=>?_))))))
  ·refine ar (ir 1 [(2,.b false)] (ie ?_))
   exact at_ (r2 [] [.b false] ⟨rfl,rfl⟩ lb)
  refine ak (ar (ir 1 [(2,.b true)] (ie ?_)))
  exact at_ (r1 [] ⟨rfl,rfl⟩)
 refine ir 3 [(1,.p b1 0),(4,.p b2 0),(5,.b ((Z1k n).2)),(7,.p b4 0),(8,.b ((Z1k n).2)),(51,.b (decide (((1:Int)+((Z08 y2).length:Nat))<0)))] (ib (b:=(decide (((1:Int)+((Z08 y2).length:Nat))<0))) 51 (fun hb2=>?_) (fun hb2=>?_))
 ·have hp9:((1:Int)+((Z08 y2).length:Nat))<0:=(dq).1 hb2
  refine irk 5 (.n 56 (.b true) (.d (.k (.k (.k (.k (.k .z))))))) ?_
  exact Zz (wk [0,0,0,0,0,0,0,0] (fr (fr (fr (fr (fr (fc (x:=.b true) (lb (by simp only [hb2])) fl))))))) hj1
 have hp10:¬(((1:Int)+((Z08 y2).length:Nat))<0):=Zd dq hb2
 refine irK 2 (.n 52 (.agg [.val ((hdOf y3.dv).v),.val ((hdOf y3.rv).v)]) (.n 53 (Zi ((Z1k n).1)) (.k (.k (.k (.k (.k (.k .z)))))))) [3,5] [b4,b2] (ic [2] (Z00v y3 ((Z1k n).1) S21 M21 ob ob ob) ?_)
 rintro _ _ ⟨rfl,rfl⟩
 refine irk 2 (.n 56 (.b false) .r) ?_
 exact Zz (wk [1,1,0,0,0,0,0,0] (fr (fr (fr (fr (fr (fc (x:=.b false) (lb (by simp only [hb2])) fl))))))) hj1
end Go.Abs
end
section
namespace Go.Proofs.YtjneabekegkopaaGreat.fnExactSpecialize
open Go.ChangeShapes Go.WideShapes Go.ChangeAt Go.RowKit Go.Abs
theorem own:ownKnob Tryz.prog.godebug=none:=by kernel_rfl
theorem kids:Kids Tryz.prog (·<Tryz.prog.types.size):=kids_rows kr kr
theorem full:∀t e,t<Tryz.prog.types.size→Tryz.prog.underlying t=some (.slice e)→0<Tryz.prog.cellsOf e:=slices_full_of Tryz.prog kr
theorem Z036 {v:Value} (h:v.cells.toList.length=2):v=.agg v.cells:=by
 cases v<;>first|rfl|(simp [Value.cells] at h)
theorem Zwa {w w':World} {G G':Prot} {h':List Res} (hx:Ext w G [] w' G' h'):∀b,b<w.heap.size→w'.heap[b]? = w.heap[b]?:=
 fun b hb=>(hx.same b hb).eq fun o ⟨r,hr,_⟩=>by cases hr
theorem Ztn {w w':World} {b o:Nat} (h:w'.heap[b]? = w.heap[b]?):w'.cell? ⟨b,o,none⟩=w.cell? ⟨b,o,none⟩:=by simp [World.cell?,h]
theorem Z01e {t:Nat} (h:Nat.blt t Tryz.prog.types.size=true):t<Tryz.prog.types.size:=Nat.le_of_ble_eq_true h
theorem Zxt (H:Type) (enc:TypeId × Value→H) (W:World) (base:Nat) (args:Array Value) (ds gs:List (DataW H)) (before:List MemPlace) (hkb:Rows.uptoSmall H (ds++gs)=true)
  (hW:DataW.Whole enc Tryz.prog Tryz.f4.params.toList Rows.fnExactSpecializeSpec.vars false W args.toList ds gs before) :
  Calls Tryz.prog 4 args W fun e W'=>∃v,e=.returned v∧Rows.fnExactSpecializeSpec.post enc Tryz.prog Tryz.f4 false true false false W args v W':=by
 have hW':=hW
 obtain ⟨p,q,hA0,hV,rfl,hfz,hnd⟩:=hW
 have hA:DataW.TrodAll enc Tryz.prog W 0 (fun _=>true) true Tryz.f4.params.toList args.toList ds p:=hA0
 rw [Tryz.params4] at hA
 obtain ⟨v0,vs0,d0,ds0,p0,q0,hargs,rfl,rfl,h0,r0⟩:=trodAll_cons hA
 obtain ⟨rfl,rfl,rfl⟩:=trodAll_nil r0
 obtain rfl:args=#[v0]:=by cases args;simp_all
 obtain ⟨rfl,rfl⟩:=trodVars_none hV
 obtain ⟨fuel,htr⟩:=h0
 obtain ⟨a,hrc,hsz,hrg⟩:=Zw0 htr
 have hb:Rows.uptoBulkAll ([d0]++[])≤1048576:=of_decide_eq_true hkb
 simp only [List.append_nil,Rows.uptoBulkAll] at hb
 have hsz:Z4k a≤Rows.uptoBulk d0:=hsz
 have hv0:v0=.agg v0.cells:=Z036 (by rw [hrc.length];rfl)
 have hrv:RV W (GA W) (Zi a) v0:=by
  rw [hv0]
  have:=RV.agg hrc
  simpa using this
 have hh:HOk W (GA W) []:=⟨(fun r hr=>by cases hr),List.Pairwise.nil,(fun r hr=>by cases hr),fun b o hg=>hg⟩
 refine (Zhy a om hrg W (GA W) [v0] (.cons hrv .nil) hh).mono ?_
 rintro e W' ⟨v,r,h',G',rfl,⟨rfl,rfl⟩,hv,hh',hx⟩
 have hvb:=hv.val_inv
 subst hvb
 refine ⟨_,rfl,[d0],[],p0++[]++[],[],p0++[],[],hW',?_,?_,rfl,?_,(fun h=>by cases h)⟩
 ·exact trodAll_cons_mk (shut_bool Tryz.underlying4 _) trodAll_mk0
 ·have hold:∀b,b<W.heap.size→W'.heap[b]? = W.heap[b]?:=Zwa hx
  have hlt:=hW'.lt
  have hcar:DataW.TrodAll enc Tryz.prog W' 0 (fun _=>true) true Tryz.f4.params.toList [v0] [d0] (p0++[]):=by
   rw [Tryz.params4]
   refine ⟨p0,[],⟨fuel,DataW.trod_carry fuel 25 _ _ htr fun y hy=>?_⟩,rfl,rfl⟩
   have hyl:=hlt y (by simpa using hy)
   cases y with
   | cell b o=>exact Ztn (hold b hyl)
   | map b=>exact hold b hyl
  exact DataW.TrodAll.respare kids full (by rw [Tryz.params4];intro t ht;rw [List.mem_singleton.1 ht];exact Z01e kr) hcar (fun y hy=>by have:=hlt y (by simpa using hy);simpa using this)
 ·refine ⟨hx.os,hx.output,fun i hi=>?_⟩
  rw [Zwa hx i hi]
  cases W.heap[i]? with
  | none=>rfl
  | some o=>cases o<;>first | rfl | exact ⟨rfl,rfl,rfl,fun _ _=>rfl⟩ | exact .inr ⟨rfl,rfl⟩
set_option maxRecDepth 100000 in
theorem Z03z (os:Os) (started:os.Started) (H:Type) (enc:TypeId × Value→H) (F:Stop.Interp) :
  ReturnsInHanded {} Tryz.checked os 4 .any ((Rows.OpenSpec.upto Rows.fnExactSpecializeSpec).pre6 enc Tryz.prog Tryz.f4 Rows.fnExactSpecializeUptoRow.domain false) (((Rows.OpenSpec.upto Rows.fnExactSpecializeSpec).at F).post enc Tryz.prog Tryz.f4 false true false false):=by
 refine returnsInHanded_of_cond (C:=Tryz.checked) (s:=Rows.OpenSpec.upto Rows.fnExactSpecializeSpec) (k:=Rows.uptoSmall) rfl own started kr Tryz.func4
  (OpenSpec.witness (enc:=enc) (C:=Tryz.checked) (s:=Rows.OpenSpec.upto Rows.fnExactSpecializeSpec) (k:=Rows.uptoSmall) rfl false ⟨#[],#[.agg #[.slice none 0 0,.slice none 0 0]],[]⟩ 8 kr kr kr
   (x:=([.agg [.nil,.nil]],[],[])) kr rfl kr) ?_
 intro W base args ds gs before hval hW _ hk _
 exact Zxt H enc W base args ds gs before hk hW
theorem over:Rows.fnExactSpecializeUptoRow.holds Tryz.pinned (Rows.OpenSpec.upto Rows.fnExactSpecializeSpec):=
 OpenClaim.holds_of_cond 4 Tryz.f4 rfl rfl rfl rfl rfl rfl rfl ⟨rfl,rfl,rfl,rfl,rfl⟩ rfl rfl rfl rfl rfl kr Tryz.func4 kr
  (of_decide_eq_true kr) (by unfold Func.isWrapper;first|(rw [if_pos (by decide +kernel)];kernel_rfl)|(rw [if_neg (by decide +kernel)];exact ⟨rfl,rfl⟩))
  (fun os started H enc _ F=>Z03z os started H enc F)
theorem proved:Rows.FnExactSpecializeUptoSaid:=
 over
#print axioms proved
end Go.Proofs.YtjneabekegkopaaGreat.fnExactSpecialize
end
