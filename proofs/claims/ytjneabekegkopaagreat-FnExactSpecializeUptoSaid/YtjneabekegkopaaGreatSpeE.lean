/-
  A part of the proof of FnExactSpecializeUptoSaid (see the last file): no condition.
-/
import Derived.Test.YtjneabekegkopaaGreatSpeD
set_option linter.all false
set_option linter.unusedVariables false
set_option linter.unusedSimpArgs false
set_option linter.unusedSectionVars false
set_option maxRecDepth 10000
set_option maxHeartbeats 4000000
section
namespace Go.Abs
open Go.Proofs
theorem Z9b (n:Normal) (us:List Int) (s:Step) (hn:NOk n:=by exact ob) (hb:us.length+4*s.sz≤1000000000:=by exact ob) (ih:∀(b:Block) (us:List Int),(b.sz<s.sz)→(us.length+4*b.sz≤1000000000)→Z3 Tryz.prog 98 [Zi n,nInt us,Zj b] [] (fun r h=>r=.i (Zg n us b)∧h=[])):Z3 Tryz.prog 145 [Zi n,nInt us,Z0o s] [] (fun r h=>r=.i (Z9 n us s)∧h=[]):=by
 have hdk:=hn.decls
 have hkz:=Z7a s
 have haz:=Z9j s
 have hdl:=hdk.len
 have hst:=Z40 n us s
 refine enter Tryz.func145 kr (n:=183) kr kr (ar (iA (Zh n) ?_))
 intro b1
 refine iA (Z0g s) ?_
 intro b2
 refine ir 1 [(1,nInt us),(3,.p b1 0),(5,.p b2 0)] (ie (aq (ar (Z1i 9 [(1,nInt us),(3,.p b1 0),(5,.p b2 0),(16,.b ((s.num != 0)&&(!Z21 s.op)))] [.obj b2 (Z0g s),.obj b1 (Zh n)] ?_ (fun hj1=>?_)))))
 ·refine Z1i 15 [(1,nInt us),(3,.p b1 0),(5,.p b2 0),(22,.b (((s.num != 0)&&(!Z21 s.op))||(!Z14 us s.op s.into)))] [.obj b2 (Z0g s),.obj b1 (Zh n)] ?_ (fun hj2=>?_)
  ·refine Z27 [(1,nInt us),(3,.p b1 0),(5,.p b2 0),(38,.b ((((s.num != 0)&&(!Z21 s.op))||(!Z14 us s.op s.into))||((decide ((s.kids.length:Int)>0))&&((s.op != 7)&&(s.op != 8)))))] [.obj b2 (Z0g s),.obj b1 (Zh n)] ?_ ?_
   ·refine ir 1 [(1,nInt us),(3,.p b1 0),(5,.p b2 0),(23,.b (((s.num != 0)&&(!Z21 s.op))||(!Z14 us s.op s.into)))] (ib (b:=(((s.num != 0)&&(!Z21 s.op))||(!Z14 us s.op s.into))) 23 (fun hb1=>?_) (fun hb1=>?_))
    ·have hp1:((s.num≠0)∧(¬(Z21 s.op=true)))∨(¬(Z14 us s.op s.into=true)):=((Zf (Zk bne_iff_ne (Zc Iff.rfl)) (Zc Iff.rfl))).1 hb1
     refine irk 15 (.n 38 (.b true) (.d (.k (.k (.k .z))))) (ie ?_)
     exact wk [0,0] (fr (fr (fr (fc (x:=.b true) (lb (by simp only [hb1];rfl)) fl))))
    have hp2:¬(((s.num≠0)∧(¬(Z21 s.op=true)))∨(¬(Z14 us s.op s.into=true))):=Zd (Zf (Zk bne_iff_ne (Zc Iff.rfl)) (Zc Iff.rfl)) hb1
    refine irK 2 (.n 25 (Z03 s.kids) (.k (.k (.k (.k .z))))) [0] [b2] (io (.i s.kids.length) (.i (((Z0p s.kids).length:Nat):Int)) (li (by rw [Z0r])) (irk 2 (.n 28 (.b (decide ((s.kids.length:Int)>0))) .r) (ib (b:=(decide ((s.kids.length:Int)>0))) 28 (fun hb2=>?_) (fun hb2=>?_))))
    ·have hp3:(s.kids.length:Int)>0:=(dq).1 hb2
     refine irK 5 (.n 33 (.b (s.op != 7)) (.k (.d .r))) [0] [b2] (ib (b:=(s.op != 7)) 33 (fun hb3=>?_) (fun hb3=>?_))
     ·have hp4:s.op≠7:=(bne_iff_ne).1 hb3
      refine irK 5 (.n 38 (.b (s.op != 8)) (.k (.d .r))) [0] [b2] (ie ?_)
      exact wk [0,0] (fr (fr (fr (fc (x:=.b (s.op != 8)) (lb (by simp only [hb1,hb2,hb3];rfl)) fl))))
     have hp5:¬(s.op≠7):=Zd bne_iff_ne hb3
     refine irk 5 (.n 38 (.b false) (.k (.d .r))) (ie ?_)
     exact wk [0,0] (fr (fr (fr (fc (x:=.b false) (lb (by simp only [hb1,hb2,hb3];rfl)) fl))))
    have hp6:¬((s.kids.length:Int)>0):=Zd dq hb2
    refine irk 10 (.n 38 (.b false) (.k (.d .r))) (ie ?_)
    exact wk [0,0] (fr (fr (fr (fc (x:=.b false) (lb (by simp only [hb1,hb2];rfl)) fl))))
   refine ac ((((s.num != 0)&&(!Z21 s.op))||(!Z14 us s.op s.into))||((decide ((s.kids.length:Int)>0))&&((s.op != 7)&&(s.op != 8)))) (p:=(((s.num≠0)∧(¬(Z21 s.op=true)))∨(¬(Z14 us s.op s.into=true)))∨(((s.kids.length:Int)>0)∧((s.op≠7)∧(s.op≠8)))) (Zf (Zf (Zk bne_iff_ne (Zc Iff.rfl)) (Zc Iff.rfl)) (Zk dq (Zk bne_iff_ne bne_iff_ne))) (fun hc1=>?_) (fun hc1=>?_)
   ·refine ar (ir 1 [(6,.i (-1))] (ie ?_))
    exact at_ (r2 [] [.i (-1)] ⟨rfl,rfl⟩ (li (by first|rfl|( grind)|(have q:=Z25 (ds:=n.decls) (us:=us) (args:=s.args) om; grind)|(have q:=Z26 (ds:=n.decls) (us:=us) (args:=s.args) om ‹s.args[0]? = some _› om; grind)|(have q:=Z2q (ds:=n.decls) (us:=us) (args:=s.args) om ‹s.args[0]? = some _› om ‹us[_]? = some _›; grind))))
   refine ak (aq (ar (iR 2 [(1,nInt us),(3,.p b1 0),(5,.p b2 0),(40,.i s.op)] [0] [b2] (ie (ab 0 (ar (irk 2 (.n 41 (.b (s.op==0)) .r) (ie (ac (s.op==0) beq_iff_eq (fun hc2=>?_) (fun hc2=>?_))))))))))
   ·refine ar (irK 2 (.n 44 (nInt s.args) .r) [0] [b2] (io (.i s.args.length) (.i (((Z6 s.args).length:Nat):Int)) (li (by rw [Z5])) (Z27 [(51,.b (((s.args.length:Int)==0)&&(decide ((-999)≤s.num∧s.num≤999))))] [.obj b2 (Z0g s),.obj b1 (Zh n)] ?_ ?_)))
    ·refine ir 2 [(5,.p b2 0),(47,.b ((s.args.length:Int)==0))] (ib (b:=((s.args.length:Int)==0)) 47 (fun hb4=>?_) (fun hb4=>?_))
     ·have hp7:(s.args.length:Int)=0:=(beq_iff_eq).1 hb4
      refine irK 2 (.n 49 (.i s.num) (.k .z)) [0] [b2] (ic [] (Z0y s.num (-999) 999) ?_)
      rintro _ _ ⟨rfl,rfl⟩
      refine ir 1 [(51,.b (decide ((-999)≤s.num∧s.num≤999)))] (ie ?_)
      exact wk [0,0] (fc (x:=.b (decide ((-999)≤s.num∧s.num≤999))) (lb (by simp only [hb4];rfl)) fl)
     have hp8:¬((s.args.length:Int)=0):=Zd beq_iff_eq hb4
     refine ir 4 [(51,.b false)] (ie ?_)
     exact wk [0,0] (fc (x:=.b false) (lb (by simp only [hb4];rfl)) fl)
    refine ac (((s.args.length:Int)==0)&&(decide ((-999)≤s.num∧s.num≤999))) (p:=((s.args.length:Int)=0)∧((-999)≤s.num∧s.num≤999)) (Zk beq_iff_eq dq) (fun hc3=>?_) (fun hc3=>?_)
    ·refine ar (ir 1 [(6,.i 0)] (ie ?_))
     exact at_ (r2 [] [.i 0] ⟨rfl,rfl⟩ (li (by first|rfl|( grind)|(have q:=Z25 (ds:=n.decls) (us:=us) (args:=s.args) om; grind)|(have q:=Z26 (ds:=n.decls) (us:=us) (args:=s.args) om ‹s.args[0]? = some _› om; grind)|(have q:=Z2q (ds:=n.decls) (us:=us) (args:=s.args) om ‹s.args[0]? = some _› om ‹us[_]? = some _›; grind))))
    refine ak (ar (ir 1 [(6,.i (-1))] (ie ?_)))
    exact at_ (r2 [] [.i (-1)] ⟨rfl,rfl⟩ (li (by first|rfl|( grind)|(have q:=Z25 (ds:=n.decls) (us:=us) (args:=s.args) om; grind)|(have q:=Z26 (ds:=n.decls) (us:=us) (args:=s.args) om ‹s.args[0]? = some _› om; grind)|(have q:=Z2q (ds:=n.decls) (us:=us) (args:=s.args) om ‹s.args[0]? = some _› om ‹us[_]? = some _›; grind))))
   refine aq (ar (irk 2 (.n 52 (.b (s.op==1)) .r) (ie (Z92 (fun F h=>F=[(1,nInt us),(3,.p b1 0),(5,.p b2 0),(40,.i s.op),(52,.b ((s.op==1)||((s.op==2)||((s.op==3)||(s.op==4)))))]∧h=[.obj b2 (Z0g s),.obj b1 (Zh n)]) ?_ ?_))))
   ·refine ac (s.op==1) beq_iff_eq (fun hc4=>?_) (fun hc4=>?_)
    ·refine ak ?_
     exact ⟨[(1,nInt us),(3,.p b1 0),(5,.p b2 0),(40,.i s.op),(52,.b ((s.op==1)||((s.op==2)||((s.op==3)||(s.op==4)))))],[.obj b2 (Z0g s),.obj b1 (Zh n)],⟨rfl,rfl⟩,(wk [0,0] (fr (fr (fr (fr (fc (x:=.b (s.op==1)) (lb (by first|rfl|(rw [if_pos hc4])|(rw [if_neg hc4])|(simp [hc4];done)|(rw [Bool.eq_iff_iff];simp [hc4];done)|omega)) fl))))))⟩
    refine ar (ir 2 [(1,nInt us),(3,.p b1 0),(5,.p b2 0),(40,.i s.op),(52,.b (s.op==2))] (ie (ac (s.op==2) beq_iff_eq (fun hc5=>?_) (fun hc5=>?_))))
    ·refine ak ?_
     exact ⟨[(1,nInt us),(3,.p b1 0),(5,.p b2 0),(40,.i s.op),(52,.b ((s.op==1)||((s.op==2)||((s.op==3)||(s.op==4)))))],[.obj b2 (Z0g s),.obj b1 (Zh n)],⟨rfl,rfl⟩,(wk [0,0] (fr (fr (fr (fr (fc (x:=.b (s.op==2)) (lb (by first|rfl|(rw [if_pos hc4])|(rw [if_neg hc4])|(simp [hc4,hc5];done)|(rw [Bool.eq_iff_iff];simp [hc4,hc5];done)|omega)) fl))))))⟩
    refine ar (irk 2 (.n 52 (.b (s.op==3)) (.k (.k (.k (.k .z))))) (ie (ac (s.op==3) beq_iff_eq (fun hc6=>?_) (fun hc6=>?_))))
    ·refine ak ?_
     exact ⟨[(1,nInt us),(3,.p b1 0),(5,.p b2 0),(40,.i s.op),(52,.b ((s.op==1)||((s.op==2)||((s.op==3)||(s.op==4)))))],[.obj b2 (Z0g s),.obj b1 (Zh n)],⟨rfl,rfl⟩,(wk [0,0] (fr (fr (fr (fr (fc (x:=.b (s.op==3)) (lb (by first|rfl|(rw [if_pos hc4])|(rw [if_neg hc4])|(simp [hc4,hc5,hc6];done)|(rw [Bool.eq_iff_iff];simp [hc4,hc5,hc6];done)|omega)) fl))))))⟩
    refine az (irk 2 (.n 52 (.b (s.op==4)) (.d .r)) (ie ?_))
    exact ⟨[(1,nInt us),(3,.p b1 0),(5,.p b2 0),(40,.i s.op),(52,.b ((s.op==1)||((s.op==2)||((s.op==3)||(s.op==4)))))],[.obj b2 (Z0g s),.obj b1 (Zh n)],⟨rfl,rfl⟩,(wk [0,0] (fr (fr (fr (fr (fc (x:=.b (s.op==4)) (lb (by first|rfl|(rw [if_pos hc4])|(rw [if_neg hc4])|(simp [hc4,hc5,hc6];done)|(rw [Bool.eq_iff_iff];simp [hc4,hc5,hc6];done)|omega)) fl))))))⟩
   rintro F h ⟨rfl,rfl⟩
   refine ac ((s.op==1)||((s.op==2)||((s.op==3)||(s.op==4)))) (p:=(s.op=1)∨((s.op=2)∨((s.op=3)∨(s.op=4)))) (Zf beq_iff_eq (Zf beq_iff_eq (Zf beq_iff_eq beq_iff_eq))) (fun hc7=>?_) (fun hc7=>?_)
   ·refine ar (iR 3 [(57,nInt us),(59,nInt s.args)] [0] [b2] (iL (Z6 [0,0]) 2 1 ?_))
    intro v1
    refine irk 0 (.n 60 (nInt [0,0]) (.p .r)) (ic [] (Z3q us s.args [0,0] (hl_tys:=(by first|(simp;done)|(have:=Z13 hdk s.num;omega)))) ?_)
    rintro _ _ ⟨rfl,rfl⟩
    refine ie (ac (Z1q us s.args [0,0]) Iff.rfl (fun hc8=>?_) (fun hc8=>?_))
    ·refine ar (ir 1 [(6,.i 0)] (ie ?_))
     exact at_ (r2 [] [.i 0] ⟨rfl,rfl⟩ (li (by first|rfl|( grind)|(have q:=Z25 (ds:=n.decls) (us:=us) (args:=s.args) om; grind)|(have q:=Z26 (ds:=n.decls) (us:=us) (args:=s.args) om ‹s.args[0]? = some _› om; grind)|(have q:=Z2q (ds:=n.decls) (us:=us) (args:=s.args) om ‹s.args[0]? = some _› om ‹us[_]? = some _›; grind))))
    refine ak (ar (ir 1 [(6,.i (-1))] (ie ?_)))
    exact at_ (r2 [] [.i (-1)] ⟨rfl,rfl⟩ (li (by first|rfl|( grind)|(have q:=Z25 (ds:=n.decls) (us:=us) (args:=s.args) om; grind)|(have q:=Z26 (ds:=n.decls) (us:=us) (args:=s.args) om ‹s.args[0]? = some _› om; grind)|(have q:=Z2q (ds:=n.decls) (us:=us) (args:=s.args) om ‹s.args[0]? = some _› om ‹us[_]? = some _›; grind))))
   refine ar (ir 2 [(1,nInt us),(3,.p b1 0),(5,.p b2 0),(40,.i s.op),(62,.b (s.op==5))] (ie (ac (s.op==5) beq_iff_eq (fun hc9=>?_) (fun hc9=>?_))))
   ·refine ar (iR 3 [(64,nInt us),(66,nInt s.args)] [0] [b2] (iL (Z6 [0]) 1 1 ?_))
    intro v2
    refine irk 0 (.n 67 (nInt [0]) (.p .r)) (ic [] (Z3q us s.args [0] (hl_tys:=(by first|(simp;done)|(have:=Z13 hdk s.num;omega)))) ?_)
    rintro _ _ ⟨rfl,rfl⟩
    refine ie (ac (Z1q us s.args [0]) Iff.rfl (fun hc10=>?_) (fun hc10=>?_))
    ·refine ar (ir 1 [(6,.i 0)] (ie ?_))
     exact at_ (r2 [] [.i 0] ⟨rfl,rfl⟩ (li (by first|rfl|( grind)|(have q:=Z25 (ds:=n.decls) (us:=us) (args:=s.args) om; grind)|(have q:=Z26 (ds:=n.decls) (us:=us) (args:=s.args) om ‹s.args[0]? = some _› om; grind)|(have q:=Z2q (ds:=n.decls) (us:=us) (args:=s.args) om ‹s.args[0]? = some _› om ‹us[_]? = some _›; grind))))
    refine ak (ar (ir 1 [(6,.i (-1))] (ie ?_)))
    exact at_ (r2 [] [.i (-1)] ⟨rfl,rfl⟩ (li (by first|rfl|( grind)|(have q:=Z25 (ds:=n.decls) (us:=us) (args:=s.args) om; grind)|(have q:=Z26 (ds:=n.decls) (us:=us) (args:=s.args) om ‹s.args[0]? = some _› om; grind)|(have q:=Z2q (ds:=n.decls) (us:=us) (args:=s.args) om ‹s.args[0]? = some _› om ‹us[_]? = some _›; grind))))
   refine ar (irk 2 (.n 69 (.b (s.op==6)) .r) (ie (ac (s.op==6) beq_iff_eq (fun hc11=>?_) (fun hc11=>?_))))
   ·refine aD 17 (dtK (fuel:=13) 17 [0,1,2,3] (.n 72 (Z2 n.decls) (.n 74 (.i s.num) .r)) [1,0] [b1,b2] (do_ 4 (dc 4 [] [] [] (Z7d n.decls s.num) ?_)))
    rintro _ _ ⟨rfl,rfl⟩
    refine Zbz [(3,.p b1 0),(5,.p b2 0),(87,.b ((decide ((Z07 n.decls s.num)>0))&&Z1q us s.args (Z1 n.decls s.num)))] [.obj b2 (Z0g s),.obj b1 (Zh n)] ?_ ?_
    ·refine dt (fuel:=10) 12 [5,6] [(1,nInt us),(3,.p b1 0),(5,.p b2 0),(77,.b (decide ((Z07 n.decls s.num)>0)))] (db (b:=(decide ((Z07 n.decls s.num)>0))) 77 (fun hb5=>?_) (fun hb5=>?_))
     ·have hp9:(Z07 n.decls s.num)>0:=(dq).1 hb5
      refine dtK (fuel:=3) 10 [7,8,9,10,11,12,13] (.n 78 (nInt us) (.n 80 (nInt s.args) (.n 82 (Z2 n.decls) (.n 84 (.i s.num) (.k (.d (.k (.k .z)))))))) [0,1,0] [b2,b1,b2] (do_ 14 (dc 14 [] [0] [b2] (Z3z n.decls s.num (hd:=hdk)) ?_))
      rintro _ _ ⟨rfl,rfl⟩
      refine do_ 15 (dc 15 [] [] [] (Z3q us s.args (Z1 n.decls s.num) (hl_tys:=(by first|(simp;done)|(have:=Z13 hdk s.num;omega)))) ?_)
      rintro _ _ ⟨rfl,rfl⟩
      refine dtk (fuel:=0) 1 [16] (.n 87 (.b (Z1q us s.args (Z1 n.decls s.num))) .r) (de ?_)
      exact wk [0,0] (fr (fr (fc (x:=.b (Z1q us s.args (Z1 n.decls s.num))) (lb (by simp only [hb5];rfl)) fl)))
     have hp10:¬((Z07 n.decls s.num)>0):=Zd dq hb5
     refine dtk (fuel:=0) 10 [7,8,9,10,11,12,13,14,15,16] (.n 87 (.b false) (.d (.d (.k (.k .z))))) (de ?_)
     exact wk [0,0] (fr (fr (fc (x:=.b false) (lb (by simp only [hb5];rfl)) fl)))
    refine ac ((decide ((Z07 n.decls s.num)>0))&&Z1q us s.args (Z1 n.decls s.num)) (p:=((Z07 n.decls s.num)>0)∧(Z1q us s.args (Z1 n.decls s.num)=true)) (Zk dq Iff.rfl) (fun hc12=>?_) (fun hc12=>?_)
    ·refine ar (iR 4 [(89,Z2 n.decls),(91,.i s.num)] [1,0] [b1,b2] (ic [] (Z7d n.decls s.num) ?_))
     rintro _ _ ⟨rfl,rfl⟩
     refine ir 1 [(6,.i (Z07 n.decls s.num))] (ie ?_)
     exact at_ (r2 [] [.i (Z07 n.decls s.num)] ⟨rfl,rfl⟩ (li (by first|rfl|( grind)|(have q:=Z25 (ds:=n.decls) (us:=us) (args:=s.args) om; grind)|(have q:=Z26 (ds:=n.decls) (us:=us) (args:=s.args) om ‹s.args[0]? = some _› om; grind)|(have q:=Z2q (ds:=n.decls) (us:=us) (args:=s.args) om ‹s.args[0]? = some _› om ‹us[_]? = some _›; grind))))
    refine ak (ar (ir 1 [(6,.i (-1))] (ie ?_)))
    exact at_ (r2 [] [.i (-1)] ⟨rfl,rfl⟩ (li (by first|rfl|( grind)|(have q:=Z25 (ds:=n.decls) (us:=us) (args:=s.args) om; grind)|(have q:=Z26 (ds:=n.decls) (us:=us) (args:=s.args) om ‹s.args[0]? = some _› om; grind)|(have q:=Z2q (ds:=n.decls) (us:=us) (args:=s.args) om ‹s.args[0]? = some _› om ‹us[_]? = some _›; grind))))
   refine ar (irk 2 (.n 93 (.b (s.op==7)) .r) (ie (ac (s.op==7) beq_iff_eq (fun hc13=>?_) (fun hc13=>?_))))
   ·refine ar (irK 3 (.n 95 (nInt us) (.n 97 (nInt s.args) .r)) [0] [b2] (iL (Z6 [0]) 1 1 ?_))
    intro v3
    refine irk 0 (.n 98 (nInt [0]) (.p .r)) (ic [] (Z3q us s.args [0] (hl_tys:=(by first|(simp;done)|(have:=Z13 hdk s.num;omega)))) ?_)
    rintro _ _ ⟨rfl,rfl⟩
    refine ie (ac (Z1q us s.args [0]) Iff.rfl (fun hc14=>?_) (fun hc14=>?_))
    ·refine ar (iR 3 [(100,Zi n),(101,nInt us),(102,Z0o s)] [2,1] [b1,b2] (ic [] (Z99 n us s (ih:=ob)) ?_))
     rintro _ _ ⟨rfl,rfl⟩
     refine ir 1 [(6,.i (Z3r n us s.op s.num s.kids))] (ie ?_)
     exact at_ (r2 [] [.i (Z3r n us s.op s.num s.kids)] ⟨rfl,rfl⟩ (li (by first|rfl|( grind)|(have q:=Z25 (ds:=n.decls) (us:=us) (args:=s.args) om; grind)|(have q:=Z26 (ds:=n.decls) (us:=us) (args:=s.args) om ‹s.args[0]? = some _› om; grind)|(have q:=Z2q (ds:=n.decls) (us:=us) (args:=s.args) om ‹s.args[0]? = some _› om ‹us[_]? = some _›; grind))))
    refine ak (ar (ir 1 [(6,.i (-1))] (ie ?_)))
    exact at_ (r2 [] [.i (-1)] ⟨rfl,rfl⟩ (li (by first|rfl|( grind)|(have q:=Z25 (ds:=n.decls) (us:=us) (args:=s.args) om; grind)|(have q:=Z26 (ds:=n.decls) (us:=us) (args:=s.args) om ‹s.args[0]? = some _› om; grind)|(have q:=Z2q (ds:=n.decls) (us:=us) (args:=s.args) om ‹s.args[0]? = some _› om ‹us[_]? = some _›; grind))))
   refine ar (irk 2 (.n 104 (.b (s.op==8)) .r) (ie (ac (s.op==8) beq_iff_eq (fun hc15=>?_) (fun hc15=>?_))))
   ·refine ar (irK 5 (.n 106 (nInt us) (.n 108 (nInt s.args) (.n 110 (.i s.num) .r))) [0,0] [b2,b2] (iL (Z6 [s.num]) 1 1 ?_))
    intro v4
    refine irk 0 (.n 111 (nInt [s.num]) (.p .r)) (ic [] (Z3q us s.args [s.num] (hl_tys:=(by first|(simp;done)|(have:=Z13 hdk s.num;omega)))) ?_)
    rintro _ _ ⟨rfl,rfl⟩
    refine ie (ac (Z1q us s.args [s.num]) Iff.rfl (fun hc16=>?_) (fun hc16=>?_))
    ·refine ar (iR 3 [(113,Zi n),(114,nInt us),(115,Z0o s)] [2,1] [b1,b2] (ic [] (Z99 n us s (ih:=ob)) ?_))
     rintro _ _ ⟨rfl,rfl⟩
     refine ir 1 [(6,.i (Z3r n us s.op s.num s.kids))] (ie ?_)
     exact at_ (r2 [] [.i (Z3r n us s.op s.num s.kids)] ⟨rfl,rfl⟩ (li (by first|rfl|( grind)|(have q:=Z25 (ds:=n.decls) (us:=us) (args:=s.args) om; grind)|(have q:=Z26 (ds:=n.decls) (us:=us) (args:=s.args) om ‹s.args[0]? = some _› om; grind)|(have q:=Z2q (ds:=n.decls) (us:=us) (args:=s.args) om ‹s.args[0]? = some _› om ‹us[_]? = some _›; grind))))
    refine ak (ar (ir 1 [(6,.i (-1))] (ie ?_)))
    exact at_ (r2 [] [.i (-1)] ⟨rfl,rfl⟩ (li (by first|rfl|( grind)|(have q:=Z25 (ds:=n.decls) (us:=us) (args:=s.args) om; grind)|(have q:=Z26 (ds:=n.decls) (us:=us) (args:=s.args) om ‹s.args[0]? = some _› om; grind)|(have q:=Z2q (ds:=n.decls) (us:=us) (args:=s.args) om ‹s.args[0]? = some _› om ‹us[_]? = some _›; grind))))
   refine aq (ar (irk 2 (.n 117 (.b (s.op==9)) .r) (ie (Z92 (fun F h=>F=[(1,nInt us),(3,.p b1 0),(5,.p b2 0),(40,.i s.op),(117,.b ((s.op==9)||(s.op==10)))]∧h=[.obj b2 (Z0g s),.obj b1 (Zh n)]) ?_ ?_))))
   ·refine ac (s.op==9) beq_iff_eq (fun hc17=>?_) (fun hc17=>?_)
    ·refine ak ?_
     exact ⟨[(1,nInt us),(3,.p b1 0),(5,.p b2 0),(40,.i s.op),(117,.b ((s.op==9)||(s.op==10)))],[.obj b2 (Z0g s),.obj b1 (Zh n)],⟨rfl,rfl⟩,(wk [0,0] (fr (fr (fr (fr (fc (x:=.b (s.op==9)) (lb (by first|rfl|(rw [if_pos hc17])|(rw [if_neg hc17])|(simp [hc17];done)|(rw [Bool.eq_iff_iff];simp [hc17];done)|omega)) fl))))))⟩
    refine az (ir 2 [(1,nInt us),(3,.p b1 0),(5,.p b2 0),(40,.i s.op),(117,.b (s.op==10))] (ie ?_))
    exact ⟨[(1,nInt us),(3,.p b1 0),(5,.p b2 0),(40,.i s.op),(117,.b ((s.op==9)||(s.op==10)))],[.obj b2 (Z0g s),.obj b1 (Zh n)],⟨rfl,rfl⟩,(wk [0,0] (fr (fr (fr (fr (fc (x:=.b (s.op==10)) (lb (by first|rfl|(rw [if_pos hc17])|(rw [if_neg hc17])|(simp [hc17];done)|(rw [Bool.eq_iff_iff];simp [hc17];done)|omega)) fl))))))⟩
   rintro F h ⟨rfl,rfl⟩
   refine ac ((s.op==9)||(s.op==10)) (p:=(s.op=9)∨(s.op=10)) (Zf beq_iff_eq beq_iff_eq) (fun hc18=>?_) (fun hc18=>?_)
   ·refine ar (iR 3 [(120,Zi n),(121,nInt us),(122,Z0o s)] [1,0] [b1,b2] (ic [] (Zbl n us s) ?_))
    rintro _ _ ⟨rfl,rfl⟩
    refine ir 1 [(6,.i (Z2m n us s.op s.num s.args))] (ie ?_)
    exact at_ (r2 [] [.i (Z2m n us s.op s.num s.args)] ⟨rfl,rfl⟩ (li (by first|rfl|( grind)|(have q:=Z25 (ds:=n.decls) (us:=us) (args:=s.args) om; grind)|(have q:=Z26 (ds:=n.decls) (us:=us) (args:=s.args) om ‹s.args[0]? = some _› om; grind)|(have q:=Z2q (ds:=n.decls) (us:=us) (args:=s.args) om ‹s.args[0]? = some _› om ‹us[_]? = some _›; grind))))
   refine ar (ir 2 [(1,nInt us),(3,.p b1 0),(5,.p b2 0),(40,.i s.op),(124,.b (s.op==11))] (ie (ac (s.op==11) beq_iff_eq (fun hc19=>?_) (fun hc19=>?_))))
   ·refine aD 26 (dtK (fuel:=24) 26 [0,1] (.n 127 (nInt s.args) .r) [0] [b2] (dn 2 (.i s.args.length) (.i (((Z6 s.args).length:Nat):Int)) (li (by rw [Z5])) (dtk (fuel:=21) 23 [3,4] (.n 130 (.b ((s.args.length:Int)==2)) .r) (db (b:=((s.args.length:Int)==2)) 130 (fun hb6=>?_) (fun hb6=>?_)))))
    ·have hp11:(s.args.length:Int)=2:=(beq_iff_eq).1 hb6
     refine dtK (fuel:=19) 21 [5,6] (.n 132 (nInt s.args) (.k (.d .r))) [0] [b2] ?_
     obtain ⟨x1,hx1⟩:=Z8 (xs:=s.args) (j:=0) om
     refine dx 7 (Z0 (es:=Z6 s.args) (hv:=none) (j:=0) (sz:=1) (y:=.i x1) kr om (Za hx1) rfl) (dtk (fuel:=16) 18 [8,9] (.n 134 (.i x1) (.n 135 (nInt us) .r)) (dn 10 (.i us.length) (.i (((Z6 us).length:Nat):Int)) (li (by rw [Z5])) (da 11 (((us.length:Int)-1)) (((us.length:Int))-(1)) (do_ 12 (dc 12 [] [] [] (Z0y x1 0 ((us.length:Int)-1)) ?_)))))
     rintro _ _ ⟨rfl,rfl⟩
     refine dtk (fuel:=11) 13 [13,14] (.n 140 (.b (decide (0≤x1∧x1≤((us.length:Int)-1)))) .r) (db (b:=(decide (0≤x1∧x1≤((us.length:Int)-1)))) 140 (fun hb7=>?_) (fun hb7=>?_))
     ·have hp12:0≤x1∧x1≤((us.length:Int)-1):=(dq).1 hb7
      refine dtK (fuel:=6) 11 [15,16,17,18,19] (.n 142 (Z2 n.decls) (.n 143 (nInt us) (.n 145 (nInt s.args) (.k (.d .r))))) [1,0] [b1,b2] (dx 20 (Z0 (es:=Z6 s.args) (hv:=none) (j:=0) (sz:=1) (y:=.i x1) kr om (Za hx1) rfl) (dtk (fuel:=4) 5 [21] (.n 147 (.i x1) .r) ?_))
      obtain ⟨x2,hx2⟩:=Z8 (xs:=us) (j:=x1.toNat) om
      refine dx 22 (Z0 (es:=Z6 us) (hv:=none) (j:=x1) (sz:=1) (y:=.i x2) kr om (Za hx2) rfl) (dtk (fuel:=2) 3 [23] (.n 149 (.i x2) .r) (do_ 24 (dc 24 [] [] [] (Za0 n.decls x2) ?_)))
      rintro _ _ ⟨rfl,rfl⟩
      refine dtk (fuel:=0) 1 [25] (.n 151 (.b (Z01 n.decls x2)) .r) (de (ac (Z01 n.decls x2) Iff.rfl (fun hc20=>?_) (fun hc20=>?_)))
      ·refine aD 14 (dtK (fuel:=9) 14 [0,1,2,3,4] (.n 153 (Z2 n.decls) (.n 154 (nInt us) (.n 156 (nInt s.args) .r))) [1,0] [b1,b2] (dx 5 (Z0 (es:=Z6 s.args) (hv:=none) (j:=0) (sz:=1) (y:=.i x1) kr om (Za hx1) rfl) (dtk (fuel:=7) 8 [6] (.n 158 (.i x1) .r) (dx 7 (Z0 (es:=Z6 us) (hv:=none) (j:=x1) (sz:=1) (y:=.i x2) kr om (Za hx2) rfl) (dtk (fuel:=5) 6 [8] (.n 160 (.i x2) .r) (da 9 ((x2-1)) ((x2)-(1)) (hb:=(by have:=Zds ‹Z01 n.decls _=true›;omega)) ?_))))))
       obtain ⟨x3,hx3⟩:=Z8 (xs:=n.decls) (j:=(x2-1).toNat) (by have:=Zds ‹Z01 n.decls _=true›;omega)
       have had:=Z00a (us:=us) (args:=s.args) om ‹s.args[0]? = some _› om ‹us[_]? = some _› ‹Z01 n.decls _=true› hx3
       refine dx 10 (Z0 (es:=Zt n.decls) (hv:=none) (j:=(x2-1)) (sz:=3) (y:=Z2r x3) kr (by have:=Zds ‹Z01 n.decls _=true›;omega) (Z0z hx3) rfl) (dtk (fuel:=2) 3 [11] (.n 163 (Z2r x3) .r) (do_ 12 (dA 12 [0,1] [b2,b1] [.i 0,.i 0,nl] ?_)))
       intro b3
       refine do_ 13 (dS 13 0 [] [] b3 0 (Z2i x3) [.i 0,.i 0,nl] (Z2i x3) (de (aD 8 (dtK (fuel:=5) 8 [0,1,2] (.n 164 (nInt us) (.n 166 (nInt s.args) .r)) [1] [b2] (dx 3 (Z4s (es:=Z6 s.args) (hv:=none) (l:=1) (m:=(((Z6 s.args).length:Nat):Int)) (sz:=1) (es':=Z6 (s.args.drop 1)) kr om (by simp<;>omega) (by simp<;>omega) (Z0x _) (by first|(simp only [Int.toNat_natCast,List.take_length,Z3x,Z4n];done)|(simp only [Int.toNat_natCast,List.take_length,Z3x,Z4n];rfl)|(simp [Z3x,Z4n];done))) (dtK (fuel:=2) 4 [4,5] (.n 169 (.i x3.frm) .r) [0] [b3] (do_ 6 (dL 6 [1] [b2] (Z6 [x3.frm]) 1 1 ?_))))))))
       intro v5
       refine dtk (fuel:=1) 1 [] (.n 170 (nInt [x3.frm]) (.p .r)) (do_ 7 (dc 7 [] [] [] (Z3q us (s.args.drop 1) [x3.frm] (hl_tys:=(by first|(simp;done)|(have:=Z13 hdk s.num;omega)))) ?_))
       rintro _ _ ⟨rfl,rfl⟩
       refine de (ac (Z1q us (s.args.drop 1) [x3.frm]) Iff.rfl (fun hc21=>?_) (fun hc21=>?_))
       ·refine ar (iR 3 [(6,.i x3.to_)] [1] [b3] (ie ?_))
        exact at_ (r2 [] [.i x3.to_] ⟨rfl,rfl⟩ (li (by first|rfl|(clear hx1 hx2 hx3;grind)|(have q:=Z25 (ds:=n.decls) (us:=us) (args:=s.args) om;clear hx1 hx2 hx3;grind)|(have q:=Z26 (ds:=n.decls) (us:=us) (args:=s.args) om ‹s.args[0]? = some _› om;clear hx1 hx2 hx3;grind)|(have q:=Z2q (ds:=n.decls) (us:=us) (args:=s.args) om ‹s.args[0]? = some _› om ‹us[_]? = some _›;clear hx1 hx2 hx3;grind))))
       refine ak (ar (ir 1 [(6,.i (-1))] (ie ?_)))
       exact at_ (r2 [] [.i (-1)] ⟨rfl,rfl⟩ (li (by first|rfl|(clear hx1 hx2 hx3;grind)|(have q:=Z25 (ds:=n.decls) (us:=us) (args:=s.args) om;clear hx1 hx2 hx3;grind)|(have q:=Z26 (ds:=n.decls) (us:=us) (args:=s.args) om ‹s.args[0]? = some _› om;clear hx1 hx2 hx3;grind)|(have q:=Z2q (ds:=n.decls) (us:=us) (args:=s.args) om ‹s.args[0]? = some _› om ‹us[_]? = some _›;clear hx1 hx2 hx3;grind))))
      refine ak (ar (ir 1 [(6,.i (-1))] (ie ?_)))
      exact at_ (r2 [] [.i (-1)] ⟨rfl,rfl⟩ (li (by first|rfl|(clear hx1 hx2;grind)|(have q:=Z25 (ds:=n.decls) (us:=us) (args:=s.args) om;clear hx1 hx2;grind)|(have q:=Z26 (ds:=n.decls) (us:=us) (args:=s.args) om ‹s.args[0]? = some _› om;clear hx1 hx2;grind)|(have q:=Z2q (ds:=n.decls) (us:=us) (args:=s.args) om ‹s.args[0]? = some _› om ‹us[_]? = some _›;clear hx1 hx2;grind))))
     have hp13:¬(0≤x1∧x1≤((us.length:Int)-1)):=Zd dq hb7
     refine dtk (fuel:=0) 11 [15,16,17,18,19,20,21,22,23,24,25] (.n 151 (.b false) (.k (.d .r))) (de (ac0 (ak (ar (ir 1 [(6,.i (-1))] (ie ?_))))))
     exact at_ (r2 [] [.i (-1)] ⟨rfl,rfl⟩ (li (by first|rfl|(clear hx1;grind)|(have q:=Z25 (ds:=n.decls) (us:=us) (args:=s.args) om;clear hx1;grind)|(have q:=Z26 (ds:=n.decls) (us:=us) (args:=s.args) om ‹s.args[0]? = some _› om;clear hx1;grind)|(have q:=Z2q (ds:=n.decls) (us:=us) (args:=s.args) om ‹s.args[0]? = some _› om ‹us[_]? = some _›;clear hx1;grind))))
    have hp14:¬((s.args.length:Int)=2):=Zd beq_iff_eq hb6
    refine dtk (fuel:=0) 21 [5,6,7,8,9,10,11,12,13,14,15,16,17,18,19,20,21,22,23,24,25] (.n 151 (.b false) (.k (.d .r))) (de (ac0 (ak (ar (ir 1 [(6,.i (-1))] (ie ?_))))))
    exact at_ (r2 [] [.i (-1)] ⟨rfl,rfl⟩ (li (by first|rfl|( grind)|(have q:=Z25 (ds:=n.decls) (us:=us) (args:=s.args) om; grind)|(have q:=Z26 (ds:=n.decls) (us:=us) (args:=s.args) om ‹s.args[0]? = some _› om; grind)|(have q:=Z2q (ds:=n.decls) (us:=us) (args:=s.args) om ‹s.args[0]? = some _› om ‹us[_]? = some _›; grind))))
   refine aq (ar (irk 2 (.n 174 (.b (s.op==14)) .r) (ie (Z92 (fun F h=>F=[(1,nInt us),(3,.p b1 0),(5,.p b2 0),(174,.b ((s.op==14)||((s.op==15)||((s.op==16)||(s.op==17)))))]∧h=[.obj b2 (Z0g s),.obj b1 (Zh n)]) ?_ ?_))))
   ·refine ac (s.op==14) beq_iff_eq (fun hc22=>?_) (fun hc22=>?_)
    ·refine ak ?_
     exact ⟨[(1,nInt us),(3,.p b1 0),(5,.p b2 0),(174,.b ((s.op==14)||((s.op==15)||((s.op==16)||(s.op==17)))))],[.obj b2 (Z0g s),.obj b1 (Zh n)],⟨rfl,rfl⟩,(wk [0,0] (fr (fr (fr (fc (x:=.b (s.op==14)) (lb (by first|rfl|(rw [if_pos hc22])|(rw [if_neg hc22])|(simp [hc22];done)|(rw [Bool.eq_iff_iff];simp [hc22];done)|omega)) fl)))))⟩
    refine ar (ir 2 [(1,nInt us),(3,.p b1 0),(5,.p b2 0),(40,.i s.op),(174,.b (s.op==15))] (ie (ac (s.op==15) beq_iff_eq (fun hc23=>?_) (fun hc23=>?_))))
    ·refine ak ?_
     exact ⟨[(1,nInt us),(3,.p b1 0),(5,.p b2 0),(174,.b ((s.op==14)||((s.op==15)||((s.op==16)||(s.op==17)))))],[.obj b2 (Z0g s),.obj b1 (Zh n)],⟨rfl,rfl⟩,(wk [0,0] (fr (fr (fr (fc (x:=.b (s.op==15)) (lb (by first|rfl|(rw [if_pos hc22])|(rw [if_neg hc22])|(simp [hc22,hc23];done)|(rw [Bool.eq_iff_iff];simp [hc22,hc23];done)|omega)) fl)))))⟩
    refine ar (irk 2 (.n 174 (.b (s.op==16)) (.k (.k (.k (.k .z))))) (ie (ac (s.op==16) beq_iff_eq (fun hc24=>?_) (fun hc24=>?_))))
    ·refine ak ?_
     exact ⟨[(1,nInt us),(3,.p b1 0),(5,.p b2 0),(174,.b ((s.op==14)||((s.op==15)||((s.op==16)||(s.op==17)))))],[.obj b2 (Z0g s),.obj b1 (Zh n)],⟨rfl,rfl⟩,(wk [0,0] (fr (fr (fr (fc (x:=.b (s.op==16)) (lb (by first|rfl|(rw [if_pos hc22])|(rw [if_neg hc22])|(simp [hc22,hc23,hc24];done)|(rw [Bool.eq_iff_iff];simp [hc22,hc23,hc24];done)|omega)) fl)))))⟩
    refine az (irk 2 (.n 174 (.b (s.op==17)) (.d .r)) (ie ?_))
    exact ⟨[(1,nInt us),(3,.p b1 0),(5,.p b2 0),(174,.b ((s.op==14)||((s.op==15)||((s.op==16)||(s.op==17)))))],[.obj b2 (Z0g s),.obj b1 (Zh n)],⟨rfl,rfl⟩,(wk [0,0] (fr (fr (fr (fc (x:=.b (s.op==17)) (lb (by first|rfl|(rw [if_pos hc22])|(rw [if_neg hc22])|(simp [hc22,hc23,hc24];done)|(rw [Bool.eq_iff_iff];simp [hc22,hc23,hc24];done)|omega)) fl)))))⟩
   rintro F h ⟨rfl,rfl⟩
   refine ac ((s.op==14)||((s.op==15)||((s.op==16)||(s.op==17)))) (p:=(s.op=14)∨((s.op=15)∨((s.op=16)∨(s.op=17)))) (Zf beq_iff_eq (Zf beq_iff_eq (Zf beq_iff_eq beq_iff_eq))) (fun hc25=>?_) (fun hc25=>?_)
   ·refine ar (iR 3 [(179,Zi n),(180,nInt us),(181,Z0o s)] [1,0] [b1,b2] (ic [] (Zal n us s) ?_))
    rintro _ _ ⟨rfl,rfl⟩
    refine ir 1 [(6,.i (Z20 n.decls us s.op s.args))] (ie ?_)
    exact at_ (r2 [] [.i (Z20 n.decls us s.op s.args)] ⟨rfl,rfl⟩ (li (by first|rfl|( grind)|(have q:=Z25 (ds:=n.decls) (us:=us) (args:=s.args) om; grind)|(have q:=Z26 (ds:=n.decls) (us:=us) (args:=s.args) om ‹s.args[0]? = some _› om; grind)|(have q:=Z2q (ds:=n.decls) (us:=us) (args:=s.args) om ‹s.args[0]? = some _› om ‹us[_]? = some _›; grind))))
   refine ak (ar (ir 1 [(6,.i (-1))] (ie ?_)))
   exact at_ (r2 [] [.i (-1)] ⟨rfl,rfl⟩ (li (by first|rfl|( grind)|(have q:=Z25 (ds:=n.decls) (us:=us) (args:=s.args) om; grind)|(have q:=Z26 (ds:=n.decls) (us:=us) (args:=s.args) om ‹s.args[0]? = some _› om; grind)|(have q:=Z2q (ds:=n.decls) (us:=us) (args:=s.args) om ‹s.args[0]? = some _› om ‹us[_]? = some _›; grind))))
  refine ir 1 [(1,nInt us),(3,.p b1 0),(5,.p b2 0),(17,.b ((s.num != 0)&&(!Z21 s.op)))] (ib (b:=((s.num != 0)&&(!Z21 s.op))) 17 (fun hb8=>?_) (fun hb8=>?_))
  ·have hp15:(s.num≠0)∧(¬(Z21 s.op=true)):=((Zk bne_iff_ne (Zc Iff.rfl))).1 hb8
   refine irk 5 (.n 22 (.b true) (.d (.k (.k (.k .z))))) ?_
   exact Zz (wk [0,0] (fr (fr (fr (fc (x:=.b true) (lb (by simp only [hb8];rfl)) fl))))) hj2
  have hp16:¬((s.num≠0)∧(¬(Z21 s.op=true))):=Zd (Zk bne_iff_ne (Zc Iff.rfl)) hb8
  refine irK 2 (.n 18 (nInt us) (.n 19 (Z0o s) (.k (.k (.k (.k .z)))))) [0] [b2] (ic [] (Zea us s) ?_)
  rintro _ _ ⟨rfl,rfl⟩
  refine irk 2 (.n 22 (.b (!Z14 us s.op s.into)) .r) ?_
  exact Zz (wk [0,0] (fr (fr (fr (fc (x:=.b (!Z14 us s.op s.into)) (lb (by simp only [hb8];rfl)) fl))))) hj2
 refine iR 4 [(1,nInt us),(3,.p b1 0),(5,.p b2 0),(11,.b (s.num != 0))] [0] [b2] (ib (b:=(s.num != 0)) 11 (fun hb9=>?_) (fun hb9=>?_))
 ·have hp17:s.num≠0:=(bne_iff_ne).1 hb9
  refine irK 2 (.n 13 (.i s.op) (.k (.k (.k (.k .z))))) [0] [b2] (ic [] (Zi6 s.op) ?_)
  rintro _ _ ⟨rfl,rfl⟩
  refine irk 2 (.n 16 (.b (!Z21 s.op)) .r) ?_
  exact Zz (wk [0,0] (fr (fr (fr (fc (x:=.b (!Z21 s.op)) (lb (by simp only [hb9];rfl)) fl))))) hj1
 have hp18:¬(s.num≠0):=Zd bne_iff_ne hb9
 refine irk 5 (.n 16 (.b false) (.d (.k (.k (.k .z))))) ?_
 exact Zz (wk [0,0] (fr (fr (fr (fc (x:=.b false) (lb (by simp only [hb9];rfl)) fl))))) hj1
theorem Zbk (n:Normal) (us:List Int) (b:Block) (hn:NOk n:=by exact ob) (hb:us.length+4*b.sz≤1000000000:=by exact ob) (ih:∀(s:Step) (us:List Int),(s.sz<b.sz)→(us.length+4*s.sz≤1000000000)→Z3 Tryz.prog 145 [Zi n,nInt us,Z0o s] [] (fun r h=>r=.i (Z9 n us s)∧h=[])):Z3 Tryz.prog 98 [Zi n,nInt us,Zj b] [] (fun r h=>r=.i (Zg n us b)∧h=[]):=by
 have hbz:=Z6v b
 have hbe:=Z8l n us b
 refine enter Tryz.func98 kr (n:=52) kr kr (ar (iA (Zh n) ?_))
 intro b1
 refine iA (Z0l b) ?_
 intro b2
 refine ir 1 [(1,nInt us),(3,.p b1 0),(5,.p b2 0)] (ie (ar (irk 1 (.n 10 (nInt us) .r) (ic [] (Z2o us) ?_))))
 rintro _ _ ⟨v1,rfl,rfl⟩
 refine irk 1 (.n 7 (oInt us v1) .r) (ie (aq (ar (irk 1 (.n 8 (.i 0) .r) (ie (ab 0 (al (fun m F h=>∃(k:Nat) (vs:List Int) (v:Value),(k≤b.steps.length)∧(vs.length≤us.length+k)∧(Z11 n (b.steps.drop k) vs=Z11 n b.steps us)∧F=[(3,.p b1 0),(5,.p b2 0),(7,oInt vs v),(8,.i k)]∧h=[.obj b2 (Z0l b),.obj b1 (Zh n),.tail v 1]∧m=b.steps.length-k) _ _ _ ⟨0,us,v1,ob,ob,ob,rfl,rfl,rfl⟩ (wk [1,1,0] (fr (fr (fr (fc (x:=.i 0) li fl))))) ?_)))))))
 rintro m F h ⟨k,vs,v,c0_0,c0_1,c0_2,rfl,rfl,rfl⟩
 refine aq (ar (irK 3 (.n 12 (.i k) (.n 14 (Z0h b.steps) .r)) [0] [b2] (io (.i b.steps.length) (.i (((Zu b.steps).length:Nat):Int)) (li (by rw [Z0w])) (irk 1 (.n 16 (.b (decide ((k:Int)<(b.steps.length:Int)))) .r) (ie (ac (decide ((k:Int)<(b.steps.length:Int))) dq (fun hc1=>?_) (fun hc1=>?_)))))))
 ·refine ak (aq (ab 1 (aD 9 (dtK (fuel:=4) 9 [0,1,2,3,4] (.n 19 (Zi n) (.n 20 (oInt vs v) (.n 22 (Z0h b.steps) (.n 23 (.i k) .r)))) [1,0] [b1,b2] ?_))))
  obtain ⟨x1,hx1⟩:=Z8 (xs:=b.steps) (j:=k) om
  have hss:=Zl2 hx1
  refine dx 5 (Z0 (es:=Zu b.steps) (hv:=none) (j:=(k:Int)) (sz:=5) (y:=Z0o x1) kr om (Z1r hx1) rfl) (dtk (fuel:=2) 3 [6] (.n 20 (nInt vs) (.n 25 (Z0o x1) (.q 24 (.k (.d .r))))) (do_ 7 (dc 7 [] [] [] (ih x1 vs ob ob) ?_)))
  rintro _ _ ⟨rfl,rfl⟩
  refine dtk (fuel:=0) 1 [8] (.n 9 (.i (Z9 n vs x1)) .r) (de (aq (ar (irk 2 (.n 28 (.b (decide ((Z9 n vs x1)<0))) .r) (ie (ac (decide ((Z9 n vs x1)<0)) dq (fun hc2=>?_) (fun hc2=>?_)))))))
  ·refine ar (ir 1 [(6,.i (-1))] (ie ?_))
   rw [Z7 hx1] at c0_2
   exact at_ (r2 [] [.i (-1)] ⟨rfl,rfl⟩ (li (by clear hx1;first|rfl|omega|grind [Z11])))
  refine ak (ar (irK 3 (.n 30 (Z0h b.steps) (.n 31 (.i k) .r)) [0] [b2] (is_ (Z0 (es:=Zu b.steps) (hv:=none) (j:=(k:Int)) (sz:=5) (y:=Z0o x1) kr om (Z1r hx1) rfl) (irk 2 (.n 34 (.i x1.op) .r) (ic [] (Z1l x1.op) ?_)))))
  rintro _ _ ⟨rfl,rfl⟩
  refine ie (Zan (fun F h=>∃(w:Value),F=[(3,.p b1 0),(5,.p b2 0),(7,oInt (if Zw x1.op=true then vs++[Z9 n vs x1] else vs) w),(8,.i k)]∧h=[.obj b2 (Z0l b),.obj b1 (Zh n),.tail w 1]) (fun _ _=>rfl) ?_ ?_)
  ·refine ac (Zw x1.op) Iff.rfl (fun hc3=>?_) (fun hc3=>?_)
   ·refine az (ir 2 [(3,.p b1 0),(5,.p b2 0),(8,.i k),(36,oInt vs v),(37,.i (Z9 n vs x1))] (iL (Z6 [Z9 n vs x1]) 1 1 ?_))
    intro v2
    refine irk 0 (.n 38 (nInt [Z9 n vs x1]) (.p .r)) (ip 3 (Z6 (vs++[Z9 n vs x1])) (Z6 vs) (Z6 [Z9 n vs x1]) v none 1 (Z0x _) (Z0x _) (Z3n _) (by simp<;>omega) (by simp [Z24,Z6]) ?_)
    intro v3
    refine irk 1 (.n 7 (oInt (vs++[Z9 n vs x1]) v3) .r) (ie ?_)
    exact ⟨[(3,.p b1 0),(5,.p b2 0),(7,oInt (if Zw x1.op=true then vs++[Z9 n vs x1] else vs) v3),(8,.i k)],[.obj b2 (Z0l b),.obj b1 (Zh n),.tail v3 1],⟨v3,rfl,rfl⟩,(wk [2,2,0] (fr (fr (fc (x:=oInt (vs++[Z9 n vs x1]) v3) (AVLe.slh _ (congrArg Z6 (by first|rfl|(rw [if_pos hc3])|(rw [if_neg hc3])|(simp [hc3];done)|(rw [Bool.eq_iff_iff];simp [hc3];done)|omega))) fl))))⟩
   refine ak ?_
   exact ⟨[(3,.p b1 0),(5,.p b2 0),(7,oInt (if Zw x1.op=true then vs++[Z9 n vs x1] else vs) v),(8,.i k)],[.obj b2 (Z0l b),.obj b1 (Zh n),.tail v 1],⟨v,rfl,rfl⟩,(wk [0,0,0] (fr (fr (fc (x:=oInt vs v) (AVLe.slh _ (congrArg Z6 (by first|rfl|(rw [if_pos hc3])|(rw [if_neg hc3])|(simp [hc3];done)|(rw [Bool.eq_iff_iff];simp [hc3];done)|omega))) fl))))⟩
  rintro F h ⟨w,rfl,rfl⟩
  refine az (ir 1 [(3,.p b1 0),(5,.p b2 0),(7,oInt (if Zw x1.op=true then vs++[Z9 n vs x1] else vs) w),(17,.i k)] (ia (((k+1:Nat):Int)) (((k:Int))+(1)) (irk 1 (.n 8 (.i (k+1:Nat)) .r) (ie ?_))))
  have hdr:=Z7 hx1
  exact ⟨_,_,_,ob,⟨k+1,(if Zw x1.op=true then vs++[Z9 n vs x1] else vs),w,ob,(by split<;>(try simp)<;>omega),(by rw [hdr] at c0_2;clear hdr hx1;grind [Z11]),rfl,rfl,rfl⟩,(wk [0,0,0] (fr (fr (fr (fc (x:=.i (k+1:Nat)) li fl)))))⟩
 refine ax 0 (aq (ar (irK 3 (.n 41 (.i b.result) (.n 42 (oInt vs v) .r)) [0] [b2] (io (.i vs.length) (.i (((Z6 vs).length:Nat):Int)) (li (by rw [Z5])) (ia (((vs.length:Int)-1)) (((vs.length:Int))-(1)) (ic [] (Z0y b.result 0 ((vs.length:Int)-1)) ?_))))))
 rintro _ _ ⟨rfl,rfl⟩
 refine irk 1 (.n 46 (.b (!(decide (0≤b.result∧b.result≤((vs.length:Int)-1))))) .r) (ie (ac (!(decide (0≤b.result∧b.result≤((vs.length:Int)-1)))) (p:=¬(0≤b.result∧b.result≤((vs.length:Int)-1))) (Zc dq) (fun hc4=>?_) (fun hc4=>?_)))
 ·refine ar (ir 1 [(6,.i (-1))] (ie ?_))
  try rw [Zs (xs:=b.steps) (k:=k) om] at c0_2
  exact at_ (r2 [] [.i (-1)] ⟨rfl,rfl⟩ (li (by rw [hbe,←c0_2];show _=(atI vs b.result).getD (-1);rw [Z5n hc4];rfl)))
 refine ak (ar (iR 3 [(47,oInt vs v),(49,.i b.result)] [0] [b2] ?_))
 obtain ⟨x2,hx2⟩:=Z8 (xs:=vs) (j:=b.result.toNat) om
 refine is_ (Z0 (es:=Z6 vs) (hv:=some v) (j:=b.result) (sz:=1) (y:=.i x2) kr om (Za hx2) rfl) (ir 2 [(6,.i x2)] (ie ?_))
 try rw [Zs (xs:=b.steps) (k:=k) om] at c0_2
 exact at_ (r2 [] [.i x2] ⟨rfl,rfl⟩ (li (by rw [hbe,←c0_2];show _=(atI vs b.result).getD (-1);rw [Z6m om hx2];rfl)))
theorem Zbm (b:Block) (l:Int) (hb:b.sz≤1000000000) (hl:0≤l∧l≤600) (ih:∀(b2:Block) (l:Int),(b2.sz<b.sz)→(0≤l∧l≤600)→Z3 Tryz.prog 102 [Zj b2,.i l] [] (fun r h=>r=.i (Z3p b2 l)∧h=[])):Z3 Tryz.prog 102 [Zj b,.i l] [] (fun r h=>r=.i (Z3p b l)∧h=[]):=by
 have hbz:=Z6v b
 have hbe:=Zpv b l
 refine enter Tryz.func102 kr (n:=43) kr kr (ar (iA (Z0l b) ?_))
 intro b1
 refine ir 1 [(1,.i l),(2,.p b1 0)] (ie (aq (ar (irk 1 (.n 5 (.i 0) .r) (ie (ab 0 (al (fun m F h=>∃(k:Nat) (q:Int),(k≤b.steps.length)∧(0≤q∧q≤600)∧(Z6b (b.steps.drop k) q=Z6b b.steps l)∧F=[(1,.i q),(2,.p b1 0),(5,.i k)]∧h=[.obj b1 (Z0l b)]∧m=b.steps.length-k) _ _ _ ⟨0,l,ob,ob,ob,rfl,rfl,rfl⟩ (wk [0] (fr (fr (fc (x:=.i 0) li fl)))) ?_)))))))
 rintro m F h ⟨k,q,c0_0,c0_1,c0_2,rfl,rfl,rfl⟩
 refine aq (ar (irK 3 (.n 7 (.i k) (.n 9 (Z0h b.steps) .r)) [0] [b1] (io (.i b.steps.length) (.i (((Zu b.steps).length:Nat):Int)) (li (by rw [Z0w])) (irk 1 (.n 11 (.b (decide ((k:Int)<(b.steps.length:Int)))) .r) (ie (ac (decide ((k:Int)<(b.steps.length:Int))) dq (fun hc1=>?_) (fun hc1=>?_)))))))
 ·refine ak (aq (ab 1 (aq (ar (irk 2 (.n 15 (.b (decide (q<1))) .r) (ie (ac (decide (q<1)) dq (fun hc2=>?_) (fun hc2=>?_))))))))
  ·refine ar (ir 1 [(4,.i (-1))] (ie ?_))
   try rw [Zs (xs:=b.steps) (k:=k) om] at c0_2
   obtain ⟨x1,hx1⟩:=Z8 (xs:=b.steps) (j:=k) om
   rw [Z7 hx1] at c0_2
   clear hx1
   exact at_ (r2 [] [.i (-1)] ⟨rfl,rfl⟩ (li (by first|rfl|omega|grind [Z6b])))
  obtain ⟨s1,hxs1⟩:=Z8 (xs:=b.steps) (j:=k) om
  have hss:=Zoy hxs1
  have hkz:=Z7a s1
  refine ak (ar (irk 1 (.n 16 (.i q) .r) (ia ((q-1)) ((q)-(1)) (ir 1 [(1,.i (q-1)),(2,.p b1 0),(5,.i k)] (ie (ar (irk 1 (.n 6 (.i 0) .r) (ie (ab 2 (al (fun m F h=>∃(j:Nat) (j2:Int),(j≤s1.kids.length)∧(0≤j2∧j2≤600)∧(Z6o (s1.kids.drop j) j2=Z6o s1.kids (q-1))∧F=[(1,.i j2),(2,.p b1 0),(5,.i k),(6,.i j)]∧h=[.obj b1 (Z0l b)]∧m=s1.kids.length-j) _ _ _ ⟨0,(q-1),ob,ob,ob,rfl,rfl,rfl⟩ (wk [0] (fr (fr (fr (fc (x:=.i 0) li fl))))) ?_))))))))))
  rintro m F h ⟨j,j2,c1_0,c1_1,c1_2,rfl,rfl,rfl⟩
  refine aq (ar (irK 4 (.n 18 (.i j) (.n 20 (Z0h b.steps) (.n 21 (.i k) .r))) [0] [b1] (is_ (Z0 (es:=Zu b.steps) (hv:=none) (j:=(k:Int)) (sz:=5) (y:=Z0o s1) kr om (Z1r hxs1) rfl) (irk 2 (.n 24 (Z03 s1.kids) .r) (io (.i s1.kids.length) (.i (((Z0p s1.kids).length:Nat):Int)) (li (by rw [Z0r])) (irk 1 (.n 26 (.b (decide ((j:Int)<(s1.kids.length:Int)))) .r) (ie (ac (decide ((j:Int)<(s1.kids.length:Int))) dq (fun hc3=>?_) (fun hc3=>?_)))))))))
  ·refine ak (aq (ab 3 (ar (irK 3 (.n 30 (Z0h b.steps) (.n 31 (.i k) .r)) [0] [b1] (is_ (Z0 (es:=Zu b.steps) (hv:=none) (j:=(k:Int)) (sz:=5) (y:=Z0o s1) kr om (Z1r hxs1) rfl) (irk 3 (.n 34 (Z03 s1.kids) (.n 35 (.i j) .r)) ?_))))))
   obtain ⟨x1,hx1⟩:=Z8 (xs:=s1.kids) (j:=j) om
   have hks:=Zau hx1
   have hle:=Zka.2 x1 j2 om
   refine is_ (Z0 (es:=Z0p s1.kids) (hv:=none) (j:=(j:Int)) (sz:=2) (y:=Zj x1) kr om (Z2a hx1) rfl) (irk 2 (.n 37 (Zj x1) (.n 38 (.i j2) .r)) (ic [] (ih x1 j2 ob ob) ?_))
   rintro _ _ ⟨rfl,rfl⟩
   refine ir 1 [(1,.i (Z3p x1 j2)),(2,.p b1 0),(5,.i k),(6,.i j)] (ie (ar (irk 2 (.n 41 (.b (decide ((Z3p x1 j2)<0))) .r) (ie (ac (decide ((Z3p x1 j2)<0)) dq (fun hc4=>?_) (fun hc4=>?_))))))
   ·refine ar (ir 1 [(4,.i (-1))] (ie ?_))
    rw [Z7 hxs1] at c0_2
    rw [Z7 hx1] at c1_2
    have hls:=Zfo s1 (q-1)
    exact at_ (r2 [] [.i (-1)] ⟨rfl,rfl⟩ (li (by clear hx1 hxs1;first|rfl|omega|grind [Z6b,Z6o])))
   refine ak (az (irk 1 (.n 27 (.i j) .r) (ia (((j+1:Nat):Int)) (((j:Int))+(1)) (irk 1 (.n 6 (.i (j+1:Nat)) (.p (.d (.d (.k (.k (.k .z))))))) (ie ?_)))))
   have hdr:=Z7 hx1
   exact ⟨_,_,_,ob,⟨j+1,(Z3p x1 j2),ob,ob,(by rw [hdr] at c1_2;clear hdr hx1 hxs1;grind [Z6o]),rfl,rfl,rfl⟩,(wk [0] (fr (fr (fr (fc (x:=.i (j+1:Nat)) li fl)))))⟩
  refine ax 2 (az (irk 1 (.n 12 (.i k) .r) (ia (((k+1:Nat):Int)) (((k:Int))+(1)) (ir 1 [(1,.i j2),(2,.p b1 0),(5,.i (k+1:Nat))] (ie ?_)))))
  rw [Zs om] at c1_2
  have hls:=Zfo s1 (q-1)
  rw [Z6o] at c1_2
  have hdr:=Z7 hxs1
  exact ⟨_,_,_,ob,⟨k+1,j2,ob,ob,(by rw [hdr] at c0_2;clear hdr hxs1;grind [Z6b]),rfl,rfl,rfl⟩,(wk [0] (fr (fr (fc (x:=.i (k+1:Nat)) li fl))))⟩
 refine ax 0 (ar (ir 2 [(4,.i q)] (ie ?_)))
 try rw [Zs (xs:=b.steps) (k:=k) om] at c0_2
 exact at_ (r2 [] [.i q] ⟨rfl,rfl⟩ (li (by first|rfl|omega|grind [Z6b])))
theorem Ze8 (b:Block) (l:Int) (hb:b.sz≤1000000000) (hl:0≤l∧l≤600):Z3 Tryz.prog 102 [.agg [.sl (Zu b.steps) none,.i b.result],.i l] [] (fun r h=>r=.i (Z3p b l)∧h=[]):=by
 have key:∀m:Nat,∀(b:Block) (l:Int),b.sz≤m→b.sz≤1000000000→(0≤l∧l≤600)→Z3 Tryz.prog 102 [.agg [.sl (Zu b.steps) none,.i b.result],.i l] [] (fun r h=>r=.i (Z3p b l)∧h=[]):=by
  intro m
  induction m with
  | zero=>intro b l h;have:=b.sz_pos;omega
  | succ m ih=>intro b l h1 h2 h3;exact Zbm b l h2 h3 fun b2 l2 k1 k2=>ih b2 l2 om om k2
 exact key b.sz b l (Nat.le_refl _) hb hl
theorem Zcz (n:Normal) (hn:NOk n) (m:Nat):∀(b:Block) (us:List Int),(b.sz≤m)→(us.length+4*b.sz≤1000000000)→Z3 Tryz.prog 98 [Zi n,nInt us,Zj b] [] (fun r h=>r=.i (Zg n us b)∧h=[]):=by
 induction m with
 | zero=>intro b us h;have:=b.sz_pos;omega
 | succ m ih=>intro b us h1 h2;exact Zbk n us b hn h2 fun s us2 k1 k2=>Z9b n us2 s hn k2 fun b2 us3 q1 q2=>ih b2 us3 om q2
theorem Z8e (n:Normal) (us:List Int) (b:Block) (hn:NOk n) (hb:us.length+4*b.sz≤1000000000):Z3 Tryz.prog 98 [Zi n,nInt us,Zj b] [] (fun r h=>r=.i (Zg n us b)∧h=[]):=
 Zcz n hn b.sz b us (Nat.le_refl _) hb
theorem Ze7 (n:Normal) (us:List Int) (s:Step) (hn:NOk n) (hb:us.length+4*s.sz≤1000000000):Z3 Tryz.prog 145 [Zi n,nInt us,Z0o s] [] (fun r h=>r=.i (Z9 n us s)∧h=[]):=
 Z9b n us s hn hb fun b2 us3 _ q2=>Z8e n us3 b2 hn q2
theorem Za2 (b:Block) (hb:b.sz≤1000000000:=by exact ob):Z3 Tryz.prog 49 [Zj b] [] (fun r h=>r=.i (Z1x b)∧h=[]):=by
 have hle:=Zka.2 b 600 om
 refine enter Tryz.func49 kr (n:=10) kr kr (ar (iA (Z0l b) ?_))
 intro b1
 refine ir 1 [(1,.p b1 0)] (ie (ar (iR 1 [(4,Zj b)] [0] [b1] (ic [] (Ze8 b 600 ob ob) ?_))))
 rintro _ _ ⟨rfl,rfl⟩
 refine ir 1 [(3,.i (Z3p b 600))] (ie (aq (ar (irk 2 (.n 7 (.b (decide ((Z3p b 600)<0))) .r) (ie (ac (decide ((Z3p b 600)<0)) dq (fun hc1=>?_) (fun hc1=>?_)))))))
 ·refine ar (ir 1 [(2,.i (-1))] (ie ?_))
  exact at_ (r2 [] [.i (-1)] ⟨rfl,rfl⟩ (li (by first|rfl|omega|grind [Z1x])))
 refine ak (ar (ir 1 [(8,.i (Z3p b 600))] (ia ((600-(Z3p b 600))) ((600)-(Z3p b 600)) (ir 1 [(2,.i (600-(Z3p b 600)))] (ie ?_)))))
 exact at_ (r2 [] [.i (600-(Z3p b 600))] ⟨rfl,rfl⟩ (li (by first|rfl|omega|grind [Z1x])))
end Go.Abs
end
section
namespace Go.Abs
open Go.Proofs
theorem Zbn (n:Normal) (hz:NSz n:=by exact ob):Z3 Tryz.prog 47 [Zi n] [] (fun r h=>r=.b (Z10 n)∧h=[]):=by
 have hzl:=hz.len
 refine enter Tryz.func47 kr (n:=35) kr kr (ar (iA (Zh n) ?_))
 intro b1
 refine ir 1 [(1,.p b1 0)] (ie (aq (ar (irK 1 (.n 5 (Zi n) .r) [0] [b1] (ic [] (Z90 n (hz:=hz.decls) (hr:=(fun r hr=>⟨hz.params r hr,hz.lent r hr⟩))) ?_)))))
 rintro _ _ ⟨rfl,rfl⟩
 refine irk 1 (.n 7 (.b (!Z0c n)) .r) (ie (ac (!Z0c n) (p:=¬(Z0c n=true)) (Zc Iff.rfl) (fun hc1=>?_) (fun hc1=>?_)))
 ·refine ar (ir 1 [(2,.b false)] (ie ?_))
  exact at_ (r2 [] [.b false] ⟨rfl,rfl⟩ (lb (by first|rfl|omega|grind [Z10])))
 have hok:=Z8u hz (by simpa using hc1)
 refine ak (aq (ar (irk 1 (.n 3 (.i 0) .r) (ie (ab 0 (al (fun m F h=>∃(k:Nat),(k≤n.routines.length)∧(Z34 n (n.routines.drop k)=Z34 n n.routines)∧F=[(1,.p b1 0),(3,.i k)]∧h=[.obj b1 (Zh n)]∧m=n.routines.length-k) _ _ _ ⟨0,ob,ob,rfl,rfl,rfl⟩ (wk [0] (fr (fc (x:=.i 0) li fl))) ?_))))))
 rintro m F h ⟨k,c0_0,c0_1,rfl,rfl,rfl⟩
 refine aq (ar (irK 3 (.n 8 (.i k) (.n 10 (Zm n.routines) .r)) [0] [b1] (io (.i n.routines.length) (.i (((Zo n.routines).length:Nat):Int)) (li (by rw [Z09])) (irk 1 (.n 12 (.b (decide ((k:Int)<(n.routines.length:Int)))) .r) (ie (ac (decide ((k:Int)<(n.routines.length:Int))) dq (fun hc2=>?_) (fun hc2=>?_)))))))
 ·refine ak (aq (ab 1 (ar (irK 3 (.n 16 (Zm n.routines) (.n 17 (.i k) .r)) [0] [b1] ?_))))
  obtain ⟨x1,hx1⟩:=Z8 (xs:=n.routines) (j:=k) om
  have hbs:=hz.body _ (List.mem_of_getElem? hx1)
  have hps:=hok.params_at hx1
  refine is_ (Z0 (es:=Zo n.routines) (hv:=none) (j:=(k:Int)) (sz:=5) (y:=Z0n x1) kr om (Z0v hx1) rfl) (irk 1 (.n 19 (Z0n x1) .r) (iA [nl,nl,.i 0,nl,.i 0] ?_))
  intro b2
  refine iS 0 b2 0 (Z1m x1) [nl,nl,.i 0,nl,.i 0] (Z1m x1) (ie (aD 15 (dtK (fuel:=13) 15 [0,1] (.n 21 (Zj x1.body) .r) [0] [b2] (do_ 2 (dc 2 [] [] [] (Za2 x1.body) ?_)))))
  rintro _ _ ⟨rfl,rfl⟩
  refine Zbz [(1,.p b1 0),(3,.i k),(34,.b ((decide ((Z1x x1.body)<0))||((Zg n x1.params x1.body) != x1.result)))] [.obj b2 (Z1m x1),.obj b1 (Zh n)] ?_ ?_
  ·refine dt (fuel:=10) 12 [3,4] [(1,.p b1 0),(3,.i k),(4,.p b2 0),(24,.b (decide ((Z1x x1.body)<0)))] (db (b:=(decide ((Z1x x1.body)<0))) 24 (fun hb1=>?_) (fun hb1=>?_))
   ·have hp1:(Z1x x1.body)<0:=(dq).1 hb1
    refine dtk (fuel:=0) 10 [5,6,7,8,9,10,11,12,13,14] (.n 34 (.b true) (.d (.k (.k .z)))) (de ?_)
    exact wk [0,0] (fr (fr (fc (x:=.b true) (lb (by simp only [hb1];rfl)) fl)))
   have hp2:¬((Z1x x1.body)<0):=Zd dq hb1
   refine dtK (fuel:=3) 10 [5,6,7,8,9,11,12] (.n 25 (Zi n) (.n 27 (nInt x1.params) (.n 29 (Zj x1.body) (.n 32 (.i x1.result) (.k (.k (.k .z))))))) [1,0,0,0] [b1,b2,b2,b2] (do_ 10 (dc 10 [] [0] [b2] (Z8e n x1.params x1.body ob ob) ?_))
   rintro _ _ ⟨rfl,rfl⟩
   refine dtk (fuel:=0) 2 [13,14] (.n 34 (.b ((Zg n x1.params x1.body) != x1.result)) .r) (de ?_)
   exact wk [0,0] (fr (fr (fc (x:=.b ((Zg n x1.params x1.body) != x1.result)) (lb (by simp only [hb1];rfl)) fl)))
  refine ac ((decide ((Z1x x1.body)<0))||((Zg n x1.params x1.body) != x1.result)) (p:=((Z1x x1.body)<0)∨((Zg n x1.params x1.body)≠x1.result)) (Zf dq bne_iff_ne) (fun hc3=>?_) (fun hc3=>?_)
  ·refine ar (ir 1 [(2,.b false)] (ie ?_))
   rw [Z7 hx1] at c0_1
   exact at_ (r2 [] [.b false] ⟨rfl,rfl⟩ (lb (by clear hx1;first|rfl|omega|grind [Z34,Z10])))
  refine ak (az (ir 1 [(1,.p b1 0),(13,.i k)] (ia (((k+1:Nat):Int)) (((k:Int))+(1)) (irk 1 (.n 3 (.i (k+1:Nat)) .r) (ie ?_)))))
  have hdr:=Z7 hx1
  exact ⟨_,_,_,ob,⟨k+1,ob,(by rw [hdr] at c0_1;clear hdr hx1;grind [Z34]),rfl,rfl,rfl⟩,(wk [1] (fr (fc (x:=.i (k+1:Nat)) li fl)))⟩
 refine ax 0 (ar (ir 1 [(2,.b true)] (ie ?_)))
 try rw [Zs (xs:=n.routines) (k:=k) om] at c0_1
 exact at_ (r2 [] [.b true] ⟨rfl,rfl⟩ (lb (by first|rfl|omega|grind [Z34,Z10])))
end Go.Abs
end
section
namespace Go.Abs
open Go.Proofs
theorem Zfa (op:Int) :Z3 Tryz.prog 222 [.i op] [] (fun r h=>r=.b (Z2k op)∧h=[]):=by
 refine enter Tryz.func222 kr (n:=17) kr kr (ar (ir 1 [(0,.i op)] (ie (ar (Z1i 6 [(0,.i op),(8,.b ((op==6)||(op==9)))] [] ?_ (fun hj1=>?_))))))
 ·refine Z1i 10 [(0,.i op),(12,.b (((op==6)||(op==9))||(op==10)))] [] ?_ (fun hj2=>?_)
  ·refine Z1i 14 [(16,.b ((((op==6)||(op==9))||(op==10))||(op==11)))] [] ?_ (fun hj3=>?_)
   ·refine ir 1 [(2,.b ((((op==6)||(op==9))||(op==10))||(op==11)))] (ie ?_)
    exact at_ (r2 [] [.b ((((op==6)||(op==9))||(op==10))||(op==11))] ⟨rfl,rfl⟩ (lb (by first|rfl|omega|grind [Z2k])))
   refine ir 1 [(0,.i op),(13,.b (((op==6)||(op==9))||(op==10)))] (ib (b:=(((op==6)||(op==9))||(op==10))) 13 (fun hb1=>?_) (fun hb1=>?_))
   ·have hp1:((op=6)∨(op=9))∨(op=10):=((Zf (Zf beq_iff_eq beq_iff_eq) beq_iff_eq)).1 hb1
    refine ir 3 [(16,.b true)] ?_
    exact Zz (wk [] (fc (x:=.b true) (lb (by simp only [hb1];rfl)) fl)) hj3
   have hp2:¬(((op=6)∨(op=9))∨(op=10)):=Zd (Zf (Zf beq_iff_eq beq_iff_eq) beq_iff_eq) hb1
   refine ir 3 [(16,.b (op==11))] ?_
   exact Zz (wk [] (fc (x:=.b (op==11)) (lb (by simp only [hb1];rfl)) fl)) hj3
  refine ir 1 [(0,.i op),(9,.b ((op==6)||(op==9)))] (ib (b:=((op==6)||(op==9))) 9 (fun hb2=>?_) (fun hb2=>?_))
  ·have hp3:(op=6)∨(op=9):=((Zf beq_iff_eq beq_iff_eq)).1 hb2
   refine ir 3 [(0,.i op),(12,.b true)] ?_
   exact Zz (wk [] (fr (fc (x:=.b true) (lb (by simp only [hb2];rfl)) fl))) hj2
  have hp4:¬((op=6)∨(op=9)):=Zd (Zf beq_iff_eq beq_iff_eq) hb2
  refine ir 3 [(0,.i op),(12,.b (op==10))] ?_
  exact Zz (wk [] (fr (fc (x:=.b (op==10)) (lb (by simp only [hb2];rfl)) fl))) hj2
 refine ir 3 [(0,.i op),(5,.b (op==6))] (ib (b:=(op==6)) 5 (fun hb3=>?_) (fun hb3=>?_))
 ·have hp5:op=6:=(beq_iff_eq).1 hb3
  refine ir 3 [(0,.i op),(8,.b true)] ?_
  exact Zz (wk [] (fr (fc (x:=.b true) (lb (by simp only [hb3];rfl)) fl))) hj1
 have hp6:¬(op=6):=Zd beq_iff_eq hb3
 refine ir 3 [(0,.i op),(8,.b (op==9))] ?_
 exact Zz (wk [] (fr (fc (x:=.b (op==9)) (lb (by simp only [hb3];rfl)) fl))) hj1
theorem Zaz (n:Normal) (s:Step) (i:Nat) (hn:NOk n:=by exact ob) (hnum:s.op=9→0≤s.num∧s.num<n.routines.length:=by exact ob):Z3 Tryz.prog 212 [Zi n,Z0o s,.i i] [] (fun r h=>r=.b (Z2g n s.op s.num i)∧h=[]):=by
 refine enter Tryz.func212 kr (n:=21) kr kr (ar (iA (Zh n) ?_))
 intro b1
 refine iA (Z0g s) ?_
 intro b2
 refine ir 1 [(2,.i i),(3,.p b1 0),(4,.p b2 0)] (ie (ar (irK 4 (.n 10 (.b (s.op==9)) .r) [0] [b2] (ib (b:=(s.op==9)) 10 (fun hb1=>?_) (fun hb1=>?_)))))
 ·have hp1:s.op=9:=(beq_iff_eq).1 hb1
  refine irK 4 (.n 12 (Zm n.routines) (.n 14 (.i s.num) (.k (.d .r)))) [1,0] [b1,b2] ?_
  obtain ⟨x1,hx1⟩:=Z8 (xs:=n.routines) (j:=s.num.toNat) om
  have hlt:=hn.lent_at hx1
  have hlr:=Zyk (n:=n) hp1 hx1
  refine is_ (Z0 (es:=Zo n.routines) (hv:=none) (j:=s.num) (sz:=5) (y:=Z0n x1) kr om (Z0v hx1) rfl) (irk 3 (.n 17 (nInt x1.lent) (.n 18 (.i i) .r)) (ic [] (Z6c x1.lent (i:Int)) ?_))
  rintro _ _ ⟨rfl,rfl⟩
  refine ir 2 [(6,.b (decide ((i:Int)∈x1.lent)))] (ie ?_)
  exact at_ (r2 [] [.b (decide ((i:Int)∈x1.lent))] ⟨rfl,rfl⟩ (lb (by rw [Z2g,hlr])))
 have hp2:¬(s.op=9):=Zd beq_iff_eq hb1
 refine ir 11 [(6,.b false)] (ie ?_)
 exact at_ (r2 [] [.b false] ⟨rfl,rfl⟩ (lb (by rw [Z2g,Zbb,if_neg hp2];simp)))
theorem Zd1 (n:Normal) (us:List Int) (s:Step) (i:Nat) (a:Int) (hn:NOk n:=by exact ob) (hnum:s.op=9→0≤s.num∧s.num<n.routines.length:=by exact ob) (ha:s.args[i]? = some a:=by exact ob) (hi:0≤a∧a<us.length:=by exact ob):Z3 Tryz.prog 211 [Zi n,nInt us,Z0o s,.i i] [] (fun r h=>r=.b (Zai n us s.op s.num a i)∧h=[]):=by
 have hal:=(List.getElem?_eq_some_iff.1 ha).1
 refine enter Tryz.func211 kr (n:=30) kr kr (ar (iA (Zh n) ?_))
 intro b1
 refine iA (Z0g s) ?_
 intro b2
 refine ir 1 [(1,nInt us),(3,.i i),(4,.p b1 0),(6,.p b2 0)] (ie (ar (irK 2 (.n 10 (.i s.op) .r) [0] [b2] (ic [] (Zfa s.op) ?_))))
 rintro _ _ ⟨rfl,rfl⟩
 refine irk 1 (.n 12 (.b (Z2k s.op)) .r) (ib (b:=Z2k s.op) 12 (fun hb1=>?_) (fun hb1=>?_))
 ·have hp1:Z2k s.op=true:=(Iff.rfl).1 hb1
  refine irK 4 (.n 13 (nInt us) (.n 15 (nInt s.args) (.n 16 (.i i) (.k (.d .r))))) [0] [b2] ?_
  obtain ⟨x1,hx1⟩:=Z8 (xs:=s.args) (j:=i) om
  have hxa:x1=a:=by rw [ha] at hx1;exact (Option.some.inj hx1).symm
  subst hxa
  refine is_ (Z0 (es:=Z6 s.args) (hv:=none) (j:=(i:Int)) (sz:=1) (y:=.i x1) kr om (Za hx1) rfl) (irk 1 (.n 18 (.i x1) .r) ?_)
  obtain ⟨x2,hx2⟩:=Z8 (xs:=us) (j:=x1.toNat) om
  have hga:=Z68 hx2
  refine is_ (Z0 (es:=Z6 us) (hv:=none) (j:=x1) (sz:=1) (y:=.i x2) kr om (Za hx2) rfl) (irk 4 (.n 23 (.b (x2 != 0)) .r) (ib (b:=(x2 != 0)) 23 (fun hb2=>?_) (fun hb2=>?_)))
  ·have hp2:x2≠0:=(bne_iff_ne).1 hb2
   refine iR 3 [(23,.b true),(24,Zi n),(25,Z0o s),(26,.i i)] [1,0] [b1,b2] (ic [] (Zaz n s i) ?_)
   rintro _ _ ⟨rfl,rfl⟩
   refine ir 3 [(8,.b (!Z2g n s.op s.num i))] (ie ?_)
   exact at_ (r2 [] [.b (!Z2g n s.op s.num i)] ⟨rfl,rfl⟩ (lb (by clear hx1 hx2;first|rfl|(rw [Zai];grind))))
  have hp3:¬(x2≠0):=Zd bne_iff_ne hb2
  refine ir 7 [(8,.b false)] (ie ?_)
  exact at_ (r2 [] [.b false] ⟨rfl,rfl⟩ (lb (by clear hx1 hx2;first|rfl|(rw [Zai];grind))))
 have hp4:¬(Z2k s.op=true):=Zd Iff.rfl hb1
 refine ir 18 [(8,.b false)] (ie ?_)
 exact at_ (r2 [] [.b false] ⟨rfl,rfl⟩ (lb (by  first|rfl|(rw [Zai];grind))))
theorem Z9a (xs:List Int) (ys:List Int) (hl_xs:xs.length≤4294967296:=by exact ob) (hl_ys:ys.length≤4294967296:=by exact ob):Z3 Tryz.prog 210 [nInt xs,nInt ys] [] (fun r h=>r=.b (decide (xs=ys))∧h=[]):=by
 refine enter Tryz.func210 kr (n:=26) kr kr (ar (ir 1 [(0,nInt xs),(1,nInt ys)] (ie (aq (ar (irk 1 (.n 6 (nInt xs) .r) (io (.i xs.length) (.i (((Z6 xs).length:Nat):Int)) (li (by rw [Z5])) (irk 1 (.n 8 (nInt ys) .r) (io (.i ys.length) (.i (((Z6 ys).length:Nat):Int)) (li (by rw [Z5])) (irk 1 (.n 10 (.b ((xs.length:Int) != (ys.length:Int))) .r) (ie (ac ((xs.length:Int) != (ys.length:Int)) bne_iff_ne (fun hc1=>?_) (fun hc1=>?_)))))))))))))
 ·refine ar (ir 1 [(4,.b false)] (ie ?_))
  exact at_ (r2 [] [.b false] ⟨rfl,rfl⟩ (lb (eq_comm.1 (decide_eq_false (fun q=>by rw [q] at hc1;exact hc1 rfl)))))
 refine ak (aq (ar (irk 1 (.n 5 (.i 0) .r) (ie (ab 0 (al (fun m F h=>∃(k:Nat),(k≤xs.length)∧(xs.take k=ys.take k)∧F=[(0,nInt xs),(1,nInt ys),(5,.i k)]∧h=[]∧m=xs.length-k) _ _ _ ⟨0,ob,ob,rfl,rfl,rfl⟩ (wk [] (fr (fr (fc (x:=.i 0) li fl)))) ?_))))))
 rintro m F h ⟨k,c0_0,c0_1,rfl,rfl,rfl⟩
 refine aq (ar (irk 2 (.n 11 (.i k) (.n 12 (nInt xs) .r)) (io (.i xs.length) (.i (((Z6 xs).length:Nat):Int)) (li (by rw [Z5])) (irk 1 (.n 14 (.b (decide ((k:Int)<(xs.length:Int)))) .r) (ie (ac (decide ((k:Int)<(xs.length:Int))) dq (fun hc2=>?_) (fun hc2=>?_)))))))
 ·refine ak (aq (ab 1 (aD 9 (dtk (fuel:=7) 9 [0,1] (.n 17 (nInt xs) (.n 18 (.i k) .r)) ?_))))
  obtain ⟨x1,hx1⟩:=Z8 (xs:=xs) (j:=k) om
  refine dx 2 (Z0 (es:=Z6 xs) (hv:=none) (j:=(k:Int)) (sz:=1) (y:=.i x1) kr om (Za hx1) rfl) (dtk (fuel:=3) 6 [3,4,5] (.n 20 (.i x1) (.n 21 (nInt ys) (.n 22 (.i k) .r))) ?_)
  obtain ⟨x2,hx2⟩:=Z8 (xs:=ys) (j:=k) om
  refine dx 6 (Z0 (es:=Z6 ys) (hv:=none) (j:=(k:Int)) (sz:=1) (y:=.i x2) kr om (Za hx2) rfl) (dtk (fuel:=0) 2 [7,8] (.n 25 (.b (x1 != x2)) .r) (de (ac (x1 != x2) bne_iff_ne (fun hc3=>?_) (fun hc3=>?_))))
  ·refine ar (ir 1 [(4,.b false)] (ie ?_))
   exact at_ (r2 [] [.b false] ⟨rfl,rfl⟩ (lb (eq_comm.1 (decide_eq_false (fun q=>by subst q;rw [hx1] at hx2;cases hx2;exact hc3 rfl)))))
  refine ak (az (irk 1 (.n 15 (.i k) .r) (ia (((k+1:Nat):Int)) (((k:Int))+(1)) (ir 1 [(0,nInt xs),(1,nInt ys),(5,.i (k+1:Nat))] (ie ?_)))))
  have hdr:=Z7 hx1
  exact ⟨_,_,_,ob,⟨k+1,ob,(by rw [Z1y hx1,Z1y hx2,c0_1];have hxx:x1=x2:=om;rw [hxx]),rfl,rfl,rfl⟩,(wk [] (fr (fr (fc (x:=.i (k+1:Nat)) li fl))))⟩
 refine ax 0 (ar (ir 1 [(4,.b true)] (ie ?_)))
 exact at_ (r2 [] [.b true] ⟨rfl,rfl⟩ (lb (eq_comm.1 (decide_eq_true (by rw [List.take_of_length_le om,List.take_of_length_le om] at c0_1;exact c0_1)))))
theorem Z3g (xs:List Int) (hlen:xs.length≤4294967296:=by exact ob):Z3 Tryz.prog 103 [nInt xs] [] (fun r h=>∃(v:Hd),r=.h v∧h=[rV v xs]):=by
 refine enter Tryz.func103 kr (n:=6) kr kr (ar (ir 1 [(0,nInt xs)] (ie (ar (iVL [] 0 ?_)))))
 intro v1
 refine irk 1 (.n 4 (nInt xs) .r) (iVP 0 v1 [] xs none ?_)
 intro v2
 refine ir 1 [(2,.h v2)] (ie ?_)
 exact at_ (r1 [0] ⟨v2,rfl,rfl⟩ (eq:=(rv (xs:=([]++xs)) ob rz)))
theorem Z4q (b:Nat) (ga:Hd) (gb:Hd) (gc:Hd) (gd:Hd) (ge:Hd) (gf:Hd) (L:Led) (ln:List Int) (t:Int) (o:Int) (p:Int) (hlb:L.vars.length≤1000000000:=by exact ob) (hlk:LLen L:=by exact ob):Z3 Tryz.prog 148 [.p b 0,.i t,.i o,.i p] [.obj b [.h ga,.h gb,.h gc,.h gd,.h ge,.h gf,nInt ln],rV ga L.vars,rV gb L.own,rV gc L.par,rV gd L.con,rV ge L.fst,rV gf L.tok] (fun r h=>∃(wa:Hd) (wb:Hd) (wc:Hd) (wd:Hd) (we:Hd) (wf:Hd),h=[.obj b [.h wa,.h wb,.h wc,.h wd,.h we,.h wf,nInt ln],rV wa ((L.grow t o p).vars),rV wb ((L.grow t o p).own),rV wc ((L.grow t o p).par),rV wd ((L.grow t o p).con),rV we ((L.grow t o p).fst),rV wf ((L.grow t o p).tok)]):=by
 obtain ⟨e1,e2,e3,e4,e5⟩:=hlk
 refine enter Tryz.func148 kr (n:=65) kr kr (ar (iR 6 [(0,.p b 0),(2,.i o),(3,.i p),(8,.p b 0),(12,.h ga),(13,.i t)] [0] [b] (iL (Z6 [t]) 1 1 ?_)))
 intro v1
 refine irk 0 (.n 14 (nInt [t]) (.p .r)) (iVP 2 ga L.vars [t] none ?_)
 intro v2
 refine irk 2 (.n 17 (.p b 0) .r) (iS 2 b 0 [.h v2] [.h ga,.h gb,.h gc,.h gd,.h ge,.h gf,nInt ln] [.h v2,.h gb,.h gc,.h gd,.h ge,.h gf,nInt ln] (ie (ar (irK 6 (.n 18 (.p b 0) (.n 22 (.h gb) (.n 23 (.i o) .r))) [0] [b] (iL (Z6 [o]) 1 1 ?_)))))
 intro v3
 refine irk 0 (.n 24 (nInt [o]) (.p .r)) (iVP 4 gb L.own [o] none ?_)
 intro v4
 refine irk 2 (.n 27 (.p b 1) .r) (iS 2 b 1 [.h v4] [.h v2,.h gb,.h gc,.h gd,.h ge,.h gf,nInt ln] [.h v2,.h v4,.h gc,.h gd,.h ge,.h gf,nInt ln] (ie (ar (irK 6 (.n 28 (.p b 0) (.n 32 (.h gc) (.n 33 (.i p) .r))) [0] [b] (iL (Z6 [p]) 1 1 ?_)))))
 intro v5
 refine irk 0 (.n 34 (nInt [p]) (.p .r)) (iVP 6 gc L.par [p] none ?_)
 intro v6
 refine irk 2 (.n 37 (.p b 2) .r) (iS 2 b 2 [.h v6] [.h v2,.h v4,.h gc,.h gd,.h ge,.h gf,nInt ln] [.h v2,.h v4,.h v6,.h gd,.h ge,.h gf,nInt ln] (ie (ar (irK 5 (.n 38 (.p b 0) (.n 42 (.h gd) .r)) [0] [b] (iL (Z6 [-1]) 1 1 ?_)))))
 intro v7
 refine irk 0 (.n 43 (nInt [-1]) (.p .r)) (iVP 8 gd L.con [-1] none ?_)
 intro v8
 refine irk 2 (.n 46 (.p b 3) .r) (iS 2 b 3 [.h v8] [.h v2,.h v4,.h v6,.h gd,.h ge,.h gf,nInt ln] [.h v2,.h v4,.h v6,.h v8,.h ge,.h gf,nInt ln] (ie (ar (irK 5 (.n 47 (.p b 0) (.n 51 (.h ge) .r)) [0] [b] (iL (Z6 [-1]) 1 1 ?_)))))
 intro v9
 refine irk 0 (.n 52 (nInt [-1]) (.p .r)) (iVP 10 ge L.fst [-1] none ?_)
 intro v10
 refine irk 2 (.n 55 (.p b 4) .r) (iS 2 b 4 [.h v10] [.h v2,.h v4,.h v6,.h v8,.h ge,.h gf,nInt ln] [.h v2,.h v4,.h v6,.h v8,.h v10,.h gf,nInt ln] (ie (az (iR 5 [(56,.p b 0),(60,.h gf)] [0] [b] (iL (Z6 [-1]) 1 1 ?_)))))
 intro v11
 refine irk 0 (.n 61 (nInt [-1]) (.p .r)) (iVP 12 gf L.tok [-1] none ?_)
 intro v12
 refine irk 2 (.n 64 (.p b 5) .r) (iS 2 b 5 [.h v12] [.h v2,.h v4,.h v6,.h v8,.h v10,.h gf,nInt ln] [.h v2,.h v4,.h v6,.h v8,.h v10,.h v12,nInt ln] (ie ?_))
 exact r2 [0,10,8,6,4,2,0] [] ⟨v2,v4,v6,v8,v10,v12,rfl⟩ (lr _) (eq:=(rc (rv (xs:=(L.vars++[t])) ob (rv (xs:=(L.own++[o])) ob (rv (xs:=(L.par++[p])) ob (rv (xs:=(L.con++[-1])) ob (rv (xs:=(L.fst++[-1])) ob (rv (xs:=(L.tok++[-1])) ob rz))))))))
theorem Zry (b:Nat) (ga:Hd) (gb:Hd) (gc:Hd) (gd:Hd) (ge:Hd) (gf:Hd) (L:Led) (ln:List Int) (hlb:L.vars.length≤1000000000:=by exact ob) (hlk:LLen L:=by exact ob) (hln:ln.length≤4294967296:=by exact ob):Z3 Tryz.prog 221 [.p b 0] [.obj b [.h ga,.h gb,.h gc,.h gd,.h ge,.h gf,nInt ln],rV ga L.vars,rV gb L.own,rV gc L.par,rV gd L.con,rV ge L.fst,rV gf L.tok] (fun r h=>∃(c:Nat) (wa:Hd) (wb:Hd) (wc:Hd) (wd:Hd) (we:Hd) (wf:Hd),r=.p c 0∧h=[.obj c [.h wa,.h wb,.h wc,.h wd,.h we,.h wf,nInt ln],rV wa L.vars,rV wb L.own,rV wc L.par,rV wd L.con,rV we L.fst,rV wf L.tok,.obj b [.h ga,.h gb,.h gc,.h gd,.h ge,.h gf,nInt ln],rV ga L.vars,rV gb L.own,rV gc L.par,rV gd L.con,rV ge L.fst,rV gf L.tok]):=by
 obtain ⟨e1,e2,e3,e4,e5⟩:=hlk
 refine enter Tryz.func221 kr (n:=40) kr kr (ar (ir 1 [(0,.p b 0)] (ie (aD 38 (dT (fuel:=10) 38 [0,1,2,3,5,6,7,8,10,11,12,13,15,16,17,18,20,21,22,23,25,26,27,28,30,31,32,33] [(6,.h ga),(11,.h gb),(16,.h gc),(21,.h gd),(26,.h ge),(31,.h gf),(36,nInt ln)] [0,0,0,0,0,0,0] [b,b,b,b,b,b,b] (do_ 4 (dCL 4 [1] [0,0,0,0,0,0] [b,b,b,b,b,b] [rV ga L.vars] (Z3g L.vars) cl2 (gL (v:=ga) 0 gN) (Z1j Z2x) ?_)))))))
 rintro _ _ ⟨v1,rfl,rfl⟩
 refine do_ 9 (dCL 9 [3] [0,0,0,0,0] [b,b,b,b,b] [rV gb L.own] (Z3g L.own) cl2 (gL (v:=gb) 0 gN) (Z1j Z2x) ?_)
 rintro _ _ ⟨v2,rfl,rfl⟩
 refine do_ 14 (dCL 14 [5] [0,0,0,0] [b,b,b,b] [rV gc L.par] (Z3g L.par) cl2 (gL (v:=gc) 0 gN) (Z1j Z2x) ?_)
 rintro _ _ ⟨v3,rfl,rfl⟩
 refine do_ 19 (dCL 19 [7] [0,0,0] [b,b,b] [rV gd L.con] (Z3g L.con) cl2 (gL (v:=gd) 0 gN) (Z1j Z2x) ?_)
 rintro _ _ ⟨v4,rfl,rfl⟩
 refine do_ 24 (dCL 24 [9] [0,0] [b,b] [rV ge L.fst] (Z3g L.fst) cl2 (gL (v:=ge) 0 gN) (Z1j Z2x) ?_)
 rintro _ _ ⟨v5,rfl,rfl⟩
 refine do_ 29 (dCL 29 [11] [0] [b] [rV gf L.tok] (Z3g L.tok) cl2 (gL (v:=gf) 0 gN) (Z1j Z2x) ?_)
 rintro _ _ ⟨v6,rfl,rfl⟩
 refine do_ 34 (dc 34 [] [] [] (Z2o ln) ?_)
 rintro _ _ ⟨v7,rfl,rfl⟩
 refine dt (fuel:=2) 3 [35] [(38,.agg [.h v1,.h v2,.h v3,.h v4,.h v5,.h v6,nInt ln])] (do_ 36 (dA 36 [] [] [.h v1,.h v2,.h v3,.h v4,.h v5,.h v6,nInt ln] ?_))
 intro b1
 refine dt (fuel:=0) 1 [37] [(2,.p b1 0)] (de ?_)
 exact at_ (r1 [0,11,9,7,5,3,1,7,6,5,4,3,2,1] ⟨b1,v1,v2,v3,v4,v5,v6,rfl,rfl⟩)
theorem Zfn (b:Nat) (ga:Hd) (gb:Hd) (gc:Hd) (gd:Hd) (ge:Hd) (gf:Hd) (L:Led) (ln:List Int) (i:Int) (hlk:LLen L:=by exact ob) (hi:0≤i∧i<L.vars.length:=by exact ob) (hq:∀x∈L.own,0≤x∧x≤1000000000):Z3 Tryz.prog 150 [.p b 0,.i i] [.obj b [.h ga,.h gb,.h gc,.h gd,.h ge,.h gf,nInt ln],rV ga L.vars,rV gb L.own,rV gc L.par,rV gd L.con,rV ge L.fst,rV gf L.tok] (fun r h=>(∃(wa:Hd) (wb:Hd) (wc:Hd) (wd:Hd) (we:Hd) (wf:Hd) (L':Led),r=.b true∧h=[.obj b [.h wa,.h wb,.h wc,.h wd,.h we,.h wf,nInt ln],rV wa L'.vars,rV wb L'.own,rV wc L'.par,rV wd L'.con,rV we L'.fst,rV wf L'.tok]∧Z7e L i=some L')∨(r=.b false∧h=[]∧Z7e L i=none)):=by
 obtain ⟨e1,e2,e3,e4,e5⟩:=hlk
 refine enter Tryz.func150 kr (n:=27) kr kr (ar (ir 1 [(0,.p b 0),(1,.i i)] (ie (aq (ar (irK 5 (.n 8 (.h gb) (.n 9 (.i i) .r)) [0] [b] (is_ (vIdx 2 gb L.own i i.toNat (hq:=rfl)) ?_)))))))
 obtain ⟨x1,hx1⟩:=Z8 (xs:=L.own) (j:=i.toNat) om
 have hxq:=hq _ (List.mem_of_getElem? hx1)
 have hgi:=Z68 hx1
 refine ix_ (vGet 2 gb L.own i.toNat x1 hx1) (irk 1 (.n 12 (.b (decide (x1<1))) .r) (ie (ac (decide (x1<1)) dq (fun hc1=>?_) (fun hc1=>?_))))
 ·refine ar (ir 1 [(4,.b false)] (ie ?_))
  exact at_ (r1 [] (.inr ⟨rfl,rfl,(by rw [Z7e,hgi,if_pos hc1])⟩))
 refine ak (aD 15 (dT (fuel:=5) 15 [0,1,2,3,4,5,6,7,8,9] [(16,.h gb),(17,.i i),(21,.h gb),(22,.i i)] [0,0] [b,b] (dx 10 (vIdx 2 gb L.own i i.toNat (hq:=rfl)) (dx_ 11 (vGet 2 gb L.own i.toNat x1 hx1) (da 12 ((x1-1)) ((x1)-(1)) (dx 13 (vIdx 2 gb L.own i i.toNat (hq:=rfl)) (do_ 14 (dVS 14 2 [] [] gb L.own i.toNat (x1-1) (de (ar (ir 1 [(4,.b true)] (ie ?_))))))))))))
 exact at_ (r1 [1,1,0,0,0,0,0] (.inl ⟨ga,gb,gc,gd,ge,gf,(Led.mk L.vars (L.own.set i.toNat (x1-1)) L.par L.con L.fst L.tok),rfl,rfl,(by rw [Z7e,hgi,if_neg hc1])⟩) (eq:=(rc (rv (xs:=L.vars) ob (rv (xs:=(L.own.set i.toNat (x1-1))) ob (rv (xs:=L.par) ob (rv (xs:=L.con) ob (rv (xs:=L.fst) ob (rv (xs:=L.tok) ob rz)))))))))
theorem Zgw (b:Nat) (ga:Hd) (gb:Hd) (gc:Hd) (gd:Hd) (ge:Hd) (gf:Hd) (L:Led) (ln:List Int) (i:Int) (hlk:LLen L:=by exact ob) (hln:ln.length≤4294967296:=by exact ob) (hi:0≤i∧i<L.vars.length:=by exact ob) (hd:∀j:Int,0≤j→j<L.vars.length→gI L.par j<j):Z3 Tryz.prog 189 [.p b 0,.i i] [.obj b [.h ga,.h gb,.h gc,.h gd,.h ge,.h gf,nInt ln],rV ga L.vars,rV gb L.own,rV gc L.par,rV gd L.con,rV ge L.fst,rV gf L.tok] (fun r h=>r=.b (Z1h L ln i)∧h=[.obj b [.h ga,.h gb,.h gc,.h gd,.h ge,.h gf,nInt ln],rV ga L.vars,rV gb L.own,rV gc L.par,rV gd L.con,rV ge L.fst,rV gf L.tok]):=by
 obtain ⟨e1,e2,e3,e4,e5⟩:=hlk
 refine enter Tryz.func189 kr (n:=31) kr kr (ar (ir 1 [(0,.p b 0),(1,.i i)] (ie (aq (ab 0 (al (fun m F h=>∃(j:Int),(0≤j∧j<L.vars.length)∧(Z7h L.own L.par ln (j.toNat+1) j=Z1h L ln i)∧F=[(0,.p b 0),(1,.i j)]∧h=[.obj b [.h ga,.h gb,.h gc,.h gd,.h ge,.h gf,nInt ln],rV ga L.vars,rV gb L.own,rV gc L.par,rV gd L.con,rV ge L.fst,rV gf L.tok]∧m=j.toNat) _ _ _ ⟨i,ob,ob,rfl,rfl,rfl⟩ (wk [0,0,0,0,0,0,0] fl) ?_))))))
 rintro m F h ⟨j,c0_0,c0_1,rfl,rfl,rfl⟩
 refine aq (ar (irK 5 (.n 8 (.h gb) (.n 9 (.i j) .r)) [0] [b] (is_ (vIdx 2 gb L.own j j.toNat (hq:=rfl)) ?_)))
 obtain ⟨x1,hx1⟩:=Z8 (xs:=L.own) (j:=j.toNat) om
 have hg1:=Z68 hx1
 refine ix_ (vGet 2 gb L.own j.toNat x1 hx1) (Z27 [(0,.p b 0),(1,.i j),(21,.b ((decide (x1<1))&&(!(decide (j∈ln)))))] [.obj b [.h ga,.h gb,.h gc,.h gd,.h ge,.h gf,nInt ln],rV ga L.vars,rV gb L.own,rV gc L.par,rV gd L.con,rV ge L.fst,rV gf L.tok] ?_ ?_)
 ·refine ir 2 [(0,.p b 0),(1,.i j),(13,.b (decide (x1<1)))] (ib (b:=(decide (x1<1))) 13 (fun hb1=>?_) (fun hb1=>?_))
  ·have hp1:x1<1:=(dq).1 hb1
   refine irK 5 (.n 17 (nInt ln) (.n 18 (.i j) (.k (.k (.k .z))))) [0] [b] (ic [] (Z6c ln j) ?_)
   rintro _ _ ⟨rfl,rfl⟩
   refine irk 2 (.n 21 (.b (!(decide (j∈ln)))) .r) (ie ?_)
   exact wk [0,0,0,0,0,0,0] (fr (fr (fc (x:=.b (!(decide (j∈ln)))) (lb (by simp only [hb1];rfl)) fl)))
  have hp2:¬(x1<1):=Zd dq hb1
  refine irk 8 (.n 21 (.b false) (.d (.k (.k .z)))) (ie ?_)
  exact wk [0,0,0,0,0,0,0] (fr (fr (fc (x:=.b false) (lb (by simp only [hb1];rfl)) fl)))
 refine ac ((decide (x1<1))&&(!(decide (j∈ln)))) (p:=(x1<1)∧(¬(j∈ln))) (Zk dq (Zc dq)) (fun hc1=>?_) (fun hc1=>?_)
 ·refine ak (ab 1 (ar (iR 5 [(0,.p b 0),(25,.h gc),(26,.i j)] [0] [b] (is_ (vIdx 3 gc L.par j j.toNat (hq:=rfl)) ?_))))
  obtain ⟨x2,hx2⟩:=Z8 (xs:=L.par) (j:=j.toNat) om
  have hg2:=Z68 hx2
  have hdj:=hd j om om
  rw [hg2] at hdj
  refine ix_ (vGet 3 gc L.par j.toNat x2 hx2) (irk 1 (.n 1 (.i x2) .r) (ie (ar (irk 2 (.n 30 (.b (decide (x2<0))) .r) (ie (ac (decide (x2<0)) dq (fun hc2=>?_) (fun hc2=>?_)))))))
  ·refine ar (ir 1 [(4,.b false)] (ie ?_))
   exact at_ (r2 [0,0,0,0,0,0,0] [.b false] ⟨rfl,rfl⟩ (lb (Zif hg1 hg2 hc1 hc2 c0_1)))
  refine ak ?_
  exact ⟨x2.toNat,[(0,.p b 0),(1,.i x2)],[.obj b [.h ga,.h gb,.h gc,.h gd,.h ge,.h gf,nInt ln],rV ga L.vars,rV gb L.own,rV gc L.par,rV gd L.con,rV ge L.fst,rV gf L.tok],ob,⟨x2,om,(Zp8 hg1 hg2 c0_0 hc1 hc2 hd c0_1),rfl,rfl,rfl⟩,(wk [0,0,0,0,0,0,0] fl)⟩
 refine ax 0 (ar (ir 1 [(4,.b true)] (ie ?_)))
 exact at_ (r2 [0,0,0,0,0,0,0] [.b true] ⟨rfl,rfl⟩ (lb (Zig hg1 hc1 c0_1)))
theorem Zog (b:Nat) (ga:Hd) (gb:Hd) (gc:Hd) (gd:Hd) (ge:Hd) (gf:Hd) (L:Led) (ln:List Int) (mm:Nat) (hlk:LLen L:=by exact ob) (hlb:L.vars.length≤1000000000:=by exact ob) (hm:mm≤L.vars.length:=by exact ob):Z3 Tryz.prog 101 [.p b 0,.i mm] [.obj b [.h ga,.h gb,.h gc,.h gd,.h ge,.h gf,nInt ln],rV ga L.vars,rV gb L.own,rV gc L.par,rV gd L.con,rV ge L.fst,rV gf L.tok] (fun r h=>(∃(wa:Hd) (wb:Hd) (wc:Hd) (wd:Hd) (we:Hd) (wf:Hd) (L':Led),r=.b true∧h=[.obj b [.h wa,.h wb,.h wc,.h wd,.h we,.h wf,nInt ln],rV wa L'.vars,rV wb L'.own,rV wc L'.par,rV wd L'.con,rV we L'.fst,rV wf L'.tok]∧cutL L mm=some L')∨(r=.b false∧h=[]∧cutL L mm=none)):=by
 obtain ⟨e1,e2,e3,e4,e5⟩:=hlk
 refine enter Tryz.func101 kr (n:=88) kr kr (ar (ir 1 [(0,.p b 0),(1,.i mm)] (ie (aq (ar (irk 2 (.n 5 (.i mm) .r) (ie (ab 0 (al (fun m F h=>∃(k:Nat),(mm≤k∧k≤L.vars.length)∧(Z32 (L.own.drop k) (L.tok.drop k)=Z32 (L.own.drop mm) (L.tok.drop mm))∧F=[(0,.p b 0),(1,.i mm),(5,.i k)]∧h=[.obj b [.h ga,.h gb,.h gc,.h gd,.h ge,.h gf,nInt ln],rV ga L.vars,rV gb L.own,rV gc L.par,rV gd L.con,rV ge L.fst,rV gf L.tok]∧m=L.vars.length-k) _ _ _ ⟨mm,ob,ob,rfl,rfl,rfl⟩ (wk [0,0,0,0,0,0,0] fl) ?_)))))))))
 rintro m F h ⟨k,c0_0,c0_1,rfl,rfl,rfl⟩
 refine aq (ar (irK 5 (.n 7 (.i k) (.n 11 (.h ga) .r)) [0] [b] (is_ (vLen 1 ga L.vars) (irk 1 (.n 13 (.b (decide ((k:Int)<(L.vars.length:Int)))) .r) (ie (ac (decide ((k:Int)<(L.vars.length:Int))) dq (fun hc1=>?_) (fun hc1=>?_)))))))
 ·refine ak (aq (ab 1 (ar (irK 5 (.n 19 (.h gb) (.n 20 (.i k) .r)) [0] [b] (is_ (vIdx 2 gb L.own (k:Int) k) ?_)))))
  obtain ⟨x1,hx1⟩:=Z8 (xs:=L.own) (j:=k) om
  refine ix_ (vGet 2 gb L.own k x1 hx1) (irk 2 (.n 24 (.b (x1 != 0)) .r) (ib (b:=(x1 != 0)) 24 (fun hb1=>?_) (fun hb1=>?_)))
  ·have hp1:x1≠0:=(bne_iff_ne).1 hb1
   refine irk 9 (.n 33 (.b true) (.k (.d .r))) (ie (ac1 (ar (ir 1 [(4,.b false)] (ie ?_)))))
   obtain ⟨y2,hy2⟩:=Z8 (xs:=L.tok) (j:=k) om
   exact at_ (r1 [] (.inr ⟨rfl,rfl,(by rw [cutL,←c0_1,Z7 hx1,Z7 hy2,Z32,if_pos (show x1≠0∨0≤y2 by omega)];rfl)⟩))
  have hp2:¬(x1≠0):=Zd bne_iff_ne hb1
  refine irK 5 (.n 28 (.h gf) (.n 29 (.i k) (.k (.d .r)))) [0] [b] (is_ (vIdx 6 gf L.tok (k:Int) k) ?_)
  obtain ⟨x2,hx2⟩:=Z8 (xs:=L.tok) (j:=k) om
  refine ix_ (vGet 6 gf L.tok k x2 hx2) (irk 2 (.n 33 (.b (decide (x2≥0))) .r) (ie (ac (decide (x2≥0)) dq (fun hc2=>?_) (fun hc2=>?_))))
  ·refine ar (ir 1 [(4,.b false)] (ie ?_))
   exact at_ (r1 [] (.inr ⟨rfl,rfl,(by rw [cutL,←c0_1,Z7 hx1,Z7 hx2,Z32,if_pos (show x1≠0∨0≤x2 by omega)];rfl)⟩))
  refine ak (az (irk 1 (.n 14 (.i k) .r) (ia (((k+1:Nat):Int)) (((k:Int))+(1)) (ir 1 [(0,.p b 0),(1,.i mm),(5,.i (k+1:Nat))] (ie ?_)))))
  exact ⟨_,_,_,ob,⟨k+1,ob,(by rw [Z7 hx1,Z7 hx2,Z32,if_neg om] at c0_1;exact c0_1),rfl,rfl,rfl⟩,(wk [0,0,0,0,0,0,0] (fr (fr (fc (x:=.i (k+1:Nat)) li fl))))⟩
 refine ax 0 (ar (irK 6 (.n 34 (.p b 0) (.n 38 (.h ga) (.n 39 (.i mm) .r))) [0] [b] (is_ (vCut 1 ga L.vars mm) (irk 2 (.n 42 (.p b 0) .r) (Z5c (tCut 1 mm ga L.vars) (iS 1 b 0 [.h (ga.cut mm)] [.h ga,.h gb,.h gc,.h gd,.h ge,.h gf,nInt ln] [.h (ga.cut mm),.h gb,.h gc,.h gd,.h ge,.h gf,nInt ln] (ie (ar (irK 6 (.n 43 (.p b 0) (.n 47 (.h gb) (.n 48 (.i mm) .r))) [0] [b] (is_ (vCut 2 gb L.own mm) (irk 2 (.n 51 (.p b 1) .r) (Z5c (tCut 2 mm gb L.own) (iS 1 b 1 [.h (gb.cut mm)] [.h (ga.cut mm),.h gb,.h gc,.h gd,.h ge,.h gf,nInt ln] [.h (ga.cut mm),.h (gb.cut mm),.h gc,.h gd,.h ge,.h gf,nInt ln] (ie (ar (irK 6 (.n 52 (.p b 0) (.n 56 (.h gc) (.n 57 (.i mm) .r))) [0] [b] (is_ (vCut 3 gc L.par mm) (irk 2 (.n 60 (.p b 2) .r) (Z5c (tCut 3 mm gc L.par) (iS 1 b 2 [.h (gc.cut mm)] [.h (ga.cut mm),.h (gb.cut mm),.h gc,.h gd,.h ge,.h gf,nInt ln] [.h (ga.cut mm),.h (gb.cut mm),.h (gc.cut mm),.h gd,.h ge,.h gf,nInt ln] (ie (ar (irK 6 (.n 61 (.p b 0) (.n 65 (.h gd) (.n 66 (.i mm) .r))) [0] [b] (is_ (vCut 4 gd L.con mm) (irk 2 (.n 69 (.p b 3) .r) (Z5c (tCut 4 mm gd L.con) (iS 1 b 3 [.h (gd.cut mm)] [.h (ga.cut mm),.h (gb.cut mm),.h (gc.cut mm),.h gd,.h ge,.h gf,nInt ln] [.h (ga.cut mm),.h (gb.cut mm),.h (gc.cut mm),.h (gd.cut mm),.h ge,.h gf,nInt ln] (ie (ar (irK 6 (.n 70 (.p b 0) (.n 74 (.h ge) (.n 75 (.i mm) .r))) [0] [b] (is_ (vCut 5 ge L.fst mm) (irk 2 (.n 78 (.p b 4) .r) (Z5c (tCut 5 mm ge L.fst) (iS 1 b 4 [.h (ge.cut mm)] [.h (ga.cut mm),.h (gb.cut mm),.h (gc.cut mm),.h (gd.cut mm),.h ge,.h gf,nInt ln] [.h (ga.cut mm),.h (gb.cut mm),.h (gc.cut mm),.h (gd.cut mm),.h (ge.cut mm),.h gf,nInt ln] (ie (ar (iR 6 [(79,.p b 0),(83,.h gf),(84,.i mm)] [0] [b] (is_ (vCut 6 gf L.tok mm) (irk 2 (.n 87 (.p b 5) .r) (Z5c (tCut 6 mm gf L.tok) (iS 1 b 5 [.h (gf.cut mm)] [.h (ga.cut mm),.h (gb.cut mm),.h (gc.cut mm),.h (gd.cut mm),.h (ge.cut mm),.h gf,nInt ln] [.h (ga.cut mm),.h (gb.cut mm),.h (gc.cut mm),.h (gd.cut mm),.h (ge.cut mm),.h (gf.cut mm),nInt ln] (ie (ar (ir 1 [(4,.b true)] (ie ?_)))))))))))))))))))))))))))))))))))))))))))))
 exact at_ (r1 [0,5,4,3,2,1,0] (.inl ⟨(ga.cut mm),(gb.cut mm),(gc.cut mm),(gd.cut mm),(ge.cut mm),(gf.cut mm),(Led.mk (L.vars.take mm) (L.own.take mm) (L.par.take mm) (L.con.take mm) (L.fst.take mm) (L.tok.take mm)),rfl,rfl,(by rw [cutL,if_pos (by rw [←c0_1,Zs om];rfl)];rfl)⟩) (eq:=(rc (rv (xs:=(L.vars.take mm)) ob (rv (xs:=(L.own.take mm)) ob (rv (xs:=(L.par.take mm)) ob (rv (xs:=(L.con.take mm)) ob (rv (xs:=(L.fst.take mm)) ob (rv (xs:=(L.tok.take mm)) ob rz)))))))))
theorem Zyj (b:Nat) (ga:Hd) (gb:Hd) (gc:Hd) (gd:Hd) (ge:Hd) (gf:Hd) (n:Normal) (s:Step) (L:Led) (ln:List Int) (q:Int) (x:Int) (hn:NOk n:=by exact ob) (hk:LOk n.decls L q:=by exact ob) (hlb:L.vars.length≤1000000000:=by exact ob) (ha:s.args[0]? = some x:=by exact ob) (hx:0≤x∧x<L.vars.length:=by exact ob) (hq:0≤q∧q≤999999990:=by exact ob):Z3 Tryz.prog 190 [.p b 0,Zi n,Z0o s] [.obj b [.h ga,.h gb,.h gc,.h gd,.h ge,.h gf,nInt ln],rV ga L.vars,rV gb L.own,rV gc L.par,rV gd L.con,rV ge L.fst,rV gf L.tok] (fun r h=>(∃(wa:Hd) (wb:Hd) (wc:Hd) (wd:Hd) (we:Hd) (wf:Hd) (L':Led),r=.b true∧h=[.obj b [.h wa,.h wb,.h wc,.h wd,.h we,.h wf,nInt ln],rV wa L'.vars,rV wb L'.own,rV wc L'.par,rV wd L'.con,rV we L'.fst,rV wf L'.tok]∧Zak n.decls L s.op x=some L')∨(r=.b false∧h=[]∧Zak n.decls L s.op x=none)):=by
 obtain ⟨e1,e2,e3,e4,e5⟩:=hk.len
 have hdk:=hn.decls
 have hal:=(List.getElem?_eq_some_iff.1 ha).1
 obtain ⟨xcon,hxcon⟩:=Z8 (xs:=L.con) (j:=(x).toNat) om
 have hgcon:=Z68 hxcon
 obtain ⟨xtok,hxtok⟩:=Z8 (xs:=L.tok) (j:=(x).toNat) om
 have hgtok:=Z68 hxtok
 obtain ⟨xfst,hxfst⟩:=Z8 (xs:=L.fst) (j:=(x).toNat) om
 have hgfst:=Z68 hxfst
 have hfl:=Z13 hdk xcon
 have har:=hk.arm x om om
 rw [hgcon,hgfst] at har
 refine enter Tryz.func190 kr (n:=105) kr kr (ar (iA (Zh n) ?_))
 intro b1
 refine iA (Z0g s) ?_
 intro b2
 refine ir 1 [(0,.p b 0),(4,.p b1 0),(5,.p b2 0)] (ie (ar (irK 2 (.n 11 (nInt s.args) .r) [0] [b2] (is_ (Z0 (es:=Z6 s.args) (hv:=none) (j:=0) (sz:=1) (y:=.i x) kr om (Za ha) rfl) (irk 2 (.n 7 (.i x) .r) (ie (aq (ar (irK 5 (.n 17 (.h gd) (.n 18 (.i x) .r)) [2] [b] (is_ (vIdx 6 gd L.con x x.toNat (hq:=rfl)) (ix_ (vGet 6 gd L.con x.toNat xcon hxcon) (Z1i 23 [(0,.p b 0),(4,.p b1 0),(5,.p b2 0),(7,.i x),(36,.b ((decide (xcon<0))||((s.op==17)&&(decide (xtok≥0)))))] [.obj b2 (Z0g s),.obj b1 (Zh n),.obj b [.h ga,.h gb,.h gc,.h gd,.h ge,.h gf,nInt ln],rV ga L.vars,rV gb L.own,rV gc L.par,rV gd L.con,rV ge L.fst,rV gf L.tok] ?_ (fun hj1=>?_)))))))))))))
 ·refine ir 1 [(0,.p b 0),(4,.p b1 0),(5,.p b2 0),(7,.i x),(37,.b ((decide (xcon<0))||((s.op==17)&&(decide (xtok≥0)))))] (ib (b:=((decide (xcon<0))||((s.op==17)&&(decide (xtok≥0))))) 37 (fun hb1=>?_) (fun hb1=>?_))
  ·have hp1:(xcon<0)∨((s.op=17)∧(xtok≥0)):=((Zf dq (Zk beq_iff_eq dq))).1 hb1
   refine irk 5 (.n 42 (.b true) (.d (.k (.k (.k (.k .z)))))) (ie (ac1 (ar (ir 1 [(6,.b false)] (ie ?_)))))
   exact at_ (r1 [] (.inr ⟨rfl,rfl,(by rw [Zak,hgcon,hgtok,if_pos om])⟩))
  have hp2:¬((xcon<0)∨((s.op=17)∧(xtok≥0))):=Zd (Zf dq (Zk beq_iff_eq dq)) hb1
  refine irk 2 (.n 38 (.p b 0) (.n 39 (.i x) (.k (.k (.k (.k (.k .z))))))) (ic [2,2,2,2,2,2,2] (Zfn b ga gb gc gd ge gf L ln x (hlk:=hk.len) (hq:=(fun y hy=>⟨hk.nn y hy,by have:=hk.bd y hy;omega⟩))) ?_)
  rintro _ _ (⟨wa1,wb1,wc1,wd1,we1,wf1,L'1,rfl,rfl,hp3⟩|⟨rfl,rfl,hp4⟩)
  ·obtain ⟨t1,t2,t3,t4,t5,t6,t7⟩:=Z35 hp3
   have hk1:=hk.take hp3
   obtain ⟨f1,f2,f3,f4,f5⟩:=hk1.len
   have hxcon1:L'1.con[x.toNat]? = some xcon:=by rw [t4];exact hxcon
   have hvl:L'1.vars.length=L.vars.length:=by rw [t2]
   have har2:=har om
   have hxfst1:L'1.fst[x.toNat]? = some xfst:=by rw [t5];exact hxfst
   refine irk 2 (.n 42 (.b false) .r) (ie (ac0 (ak (aD 11 (dtK (fuel:=4) 11 [0,1,2,3,4,5,6] (.n 44 (Z2 n.decls) (.n 48 (.h wd1) (.n 49 (.i x) .r))) [8,0] [b1,b] (dx 7 (vIdx 4 wd1 L'1.con x x.toNat (hq:=rfl)) (dx_ 8 (vGet 4 wd1 L'1.con x.toNat xcon hxcon1) (do_ 9 (dc 9 [] [] [] (Z3z n.decls xcon) ?_)))))))))
   rintro _ _ ⟨rfl,rfl⟩
   refine dtk (fuel:=0) 1 [10] (.n 8 (nInt (Z1 n.decls xcon)) .r) (de (aq (ar (irk 1 (.n 9 (.i 0) .r) (ie (ab 0 (al (fun m F h=>∃(k:Nat) (o:List Int),(k≤(Z1 n.decls xcon).length)∧(o.length=L.vars.length)∧(∀y∈o,0≤y∧y≤q+k)∧(addF o (xfst+k) ((Z1 n.decls xcon).drop k)=addF L'1.own xfst (Z1 n.decls xcon))∧F=[(0,.p b 0),(5,.p b2 0),(7,.i x),(8,nInt (Z1 n.decls xcon)),(9,.i k)]∧h=[.obj b [.h wa1,.h wb1,.h wc1,.h wd1,.h we1,.h wf1,nInt ln],rV wa1 L'1.vars,rV wb1 o,rV wc1 L'1.par,rV wd1 L'1.con,rV we1 L'1.fst,rV wf1 L'1.tok,.obj b2 (Z0g s)]∧m=(Z1 n.decls xcon).length-k) _ _ _ ⟨0,L'1.own,ob,om,(by intro y hy;have h1:=hk1.nn y hy;have h2:=hk1.bd y hy;omega),(by rw [show xfst+((0:Nat):Int)=xfst by omega,List.drop_zero]),rfl,rfl,rfl⟩ (wk [0,0,0,0,0,0,0,0] (fr (fr (fr (fr (fc (x:=.i 0) li fl)))))) ?_)))))))
   rintro m F h ⟨k,o,c0_0,c0_1,c0_2,c0_3,rfl,rfl,rfl⟩
   refine aq (ar (irk 2 (.n 53 (.i k) (.n 54 (nInt (Z1 n.decls xcon)) .r)) (io (.i (((Z1 n.decls xcon).length:Nat):Int)) (.i (((Z6 (Z1 n.decls xcon)).length:Nat):Int)) (li (by rw [Z5])) (irk 1 (.n 56 (.b (decide ((k:Int)<(((Z1 n.decls xcon).length:Nat):Int)))) .r) (ie (ac (decide ((k:Int)<(((Z1 n.decls xcon).length:Nat):Int))) dq (fun hc1=>?_) (fun hc1=>?_)))))))
   ·refine ak (aq (ab 1 (ar (irk 2 (.n 59 (nInt (Z1 n.decls xcon)) (.n 60 (.i k) .r)) ?_))))
    obtain ⟨x1,hx1⟩:=Z8 (xs:=Z1 n.decls xcon) (j:=k) om
    refine is_ (Z0 (es:=Z6 (Z1 n.decls xcon)) (hv:=none) (j:=(k:Int)) (sz:=1) (y:=.i x1) kr om (Za hx1) rfl) (irk 2 (.n 63 (.b (x1 != 0)) .r) (ie (ac (x1 != 0) bne_iff_ne (fun hc2=>?_) (fun hc2=>?_))))
    ·refine aE 31 (dtK (fuel:=22) 31 [0,1,2,3,4,5,6,7,8] (.n 67 (.h wb1) (.n 71 (.h we1) (.n 72 (.i x) .r))) [0,0] [b,b] (dx 9 (vIdx 5 we1 L'1.fst x x.toNat (hq:=rfl)) (dx_ 10 (vGet 5 we1 L'1.fst x.toNat xfst hxfst1) (dtk (fuel:=19) 20 [11] (.n 75 (.i k) .r) (da 12 ((xfst+(k:Int))) ((xfst)+((k:Int))) (dtK (fuel:=9) 18 [13,14,15,16,17,18,19,20,21] (.n 80 (.h wb1) (.n 84 (.h we1) (.n 85 (.i x) .r))) [0,0] [b,b] (dx 22 (vIdx 5 we1 L'1.fst x x.toNat (hq:=rfl)) (dx_ 23 (vGet 5 we1 L'1.fst x.toNat xfst hxfst1) (dtk (fuel:=6) 7 [24] (.n 88 (.i k) .r) (da 25 ((xfst+(k:Int))) ((xfst)+((k:Int))) (dx 26 (vIdx 2 wb1 o (xfst+(k:Int)) ((xfst+(k:Int)).toNat) (hq:=rfl)) ?_)))))))))))
     obtain ⟨x2,hx2⟩:=Z8 (xs:=o) (j:=((xfst+(k:Int)).toNat)) om
     have hy2:=c0_2 _ (List.mem_of_getElem? hx2)
     refine dx_ 27 (vGet 2 wb1 o ((xfst+(k:Int)).toNat) x2 hx2) (da 28 ((x2+1)) ((x2)+(1)) (dx 29 (vIdx 2 wb1 o (xfst+(k:Int)) ((xfst+(k:Int)).toNat) (hq:=rfl)) (do_ 30 (dVS 30 2 [] [] wb1 o ((xfst+(k:Int)).toNat) (x2+1) (de (az (irk 1 (.n 57 (.i k) .r) (ia (((k+1:Nat):Int)) (((k:Int))+(1)) (ir 1 [(0,.p b 0),(5,.p b2 0),(7,.i x),(8,nInt (Z1 n.decls xcon)),(9,.i (k+1:Nat))] (ie ?_))))))))))
     exact ⟨_,_,_,ob,⟨k+1,(o.set (xfst+(k:Nat)).toNat (x2+1)),ob,ob,(by intro y hy;first|(rcases Z3e hy with hy|rfl<;>first|(have:=c0_2 y hy;omega)|omega)|(have:=c0_2 y hy;omega)),(by rw [Z7 hx1,addF] at c0_3;first|(rw [if_pos hc2,Z68 hx2] at c0_3;rw [show xfst+((k+1:Nat):Int)=xfst+k+1 by omega];exact c0_3)|(rw [if_neg hc2] at c0_3;rw [show xfst+((k+1:Nat):Int)=xfst+k+1 by omega];exact c0_3)),rfl,rfl,rfl⟩,(wk [1,1,0,0,0,0,0,0] (fr (fr (fr (fr (fc (x:=.i (k+1:Nat)) li fl))))) (e:=(rc (rc (rv (xs:=(o.set ((xfst+(k:Int)).toNat) (x2+1))) ob (rc (rc (rc (rc (rc rz))))))))))⟩
    refine ak (az (irk 1 (.n 57 (.i k) .r) (ia (((k+1:Nat):Int)) (((k:Int))+(1)) (ir 1 [(0,.p b 0),(5,.p b2 0),(7,.i x),(8,nInt (Z1 n.decls xcon)),(9,.i (k+1:Nat))] (ie ?_)))))
    exact ⟨_,_,_,ob,⟨k+1,o,ob,ob,(by intro y hy;first|(rcases Z3e hy with hy|rfl<;>first|(have:=c0_2 y hy;omega)|omega)|(have:=c0_2 y hy;omega)),(by rw [Z7 hx1,addF] at c0_3;first|(rw [if_pos hc2,Z68 hx2] at c0_3;rw [show xfst+((k+1:Nat):Int)=xfst+k+1 by omega];exact c0_3)|(rw [if_neg hc2] at c0_3;rw [show xfst+((k+1:Nat):Int)=xfst+k+1 by omega];exact c0_3)),rfl,rfl,rfl⟩,(wk [0,0,0,0,0,0,0,0] (fr (fr (fr (fr (fc (x:=.i (k+1:Nat)) li fl))))))⟩
   refine ax 0 (aq (ar (irK 3 (.n 96 (.b (s.op==17)) .r) [7] [b2] (ie (ac (s.op==17) beq_iff_eq (fun hc3=>?_) (fun hc3=>?_))))))
   ·refine az (iR 6 [(100,.h wf1),(101,.i x),(102,nInt (Z1 n.decls xcon))] [0] [b] (io (.i (((Z1 n.decls xcon).length:Nat):Int)) (.i (((Z6 (Z1 n.decls xcon)).length:Nat):Int)) (li (by rw [Z5])) (is_ (vIdx 6 wf1 L'1.tok x x.toNat (hq:=rfl)) (iVS 6 wf1 L'1.tok x.toNat (((Z1 n.decls xcon).length:Nat):Int) (ie (ar (ir 1 [(6,.b true)] (ie ?_))))))))
    have hof:o=addF L'1.own xfst (Z1 n.decls xcon):=by rw [←c0_3,Zs om];rfl
    exact at_ (r1 [1,1,1,1,1,1,0] (.inl ⟨wa1,wb1,wc1,wd1,we1,wf1,(Led.mk L'1.vars o L'1.par L'1.con L'1.fst (L'1.tok.set x.toNat (((Z1 n.decls xcon).length:Nat):Int))),rfl,rfl,(by rw [Zak,hgcon,hgfst,hgtok,if_neg om,hp3,hof,t6];simp [hc3,t2,t3,t4,t5])⟩) (eq:=(rc (rv (xs:=L'1.vars) ob (rv (xs:=o) ob (rv (xs:=L'1.par) ob (rv (xs:=L'1.con) ob (rv (xs:=L'1.fst) ob (rv (xs:=(L'1.tok.set x.toNat (((Z1 n.decls xcon).length:Nat):Int))) ob rz)))))))))
   refine ak (ar (ir 1 [(6,.b true)] (ie ?_)))
   have hof:o=addF L'1.own xfst (Z1 n.decls xcon):=by rw [←c0_3,Zs om];rfl
   exact at_ (r1 [0,0,0,0,0,0,0] (.inl ⟨wa1,wb1,wc1,wd1,we1,wf1,(Led.mk L'1.vars o L'1.par L'1.con L'1.fst L'1.tok),rfl,rfl,(by rw [Zak,hgcon,hgfst,hgtok,if_neg om,hp3,hof,t6];simp [hc3,t2,t3,t4,t5])⟩) (eq:=(rc (rv (xs:=L'1.vars) ob (rv (xs:=o) ob (rv (xs:=L'1.par) ob (rv (xs:=L'1.con) ob (rv (xs:=L'1.fst) ob (rv (xs:=L'1.tok) ob rz)))))))))
  refine irk 2 (.n 42 (.b true) .r) (ie (ac1 (ar (ir 1 [(6,.b false)] (ie ?_)))))
  exact at_ (r1 [] (.inr ⟨rfl,rfl,(by rw [Zak,hgcon,hgtok,if_neg om,hp4])⟩))
 refine ir 2 [(0,.p b 0),(4,.p b1 0),(5,.p b2 0),(7,.i x),(22,.b (decide (xcon<0)))] (ib (b:=(decide (xcon<0))) 22 (fun hb2=>?_) (fun hb2=>?_))
 ·have hp5:xcon<0:=(dq).1 hb2
  refine irk 14 (.n 36 (.b true) (.d (.k (.k (.k (.k .z)))))) ?_
  exact Zz (wk [0,0,0,0,0,0,0,0,0] (fr (fr (fr (fr (fc (x:=.b true) (lb (by simp only [hb2];rfl)) fl)))))) hj1
 have hp6:¬(xcon<0):=Zd dq hb2
 refine irK 4 (.n 26 (.b (s.op==17)) (.k (.k (.k (.k (.k .z)))))) [0] [b2] (ib (b:=(s.op==17)) 26 (fun hb3=>?_) (fun hb3=>?_))
 ·have hp7:s.op=17:=(beq_iff_eq).1 hb3
  refine irK 5 (.n 30 (.h gf) (.n 31 (.i x) (.k (.d .r)))) [2] [b] (is_ (vIdx 8 gf L.tok x x.toNat (hq:=rfl)) (ix_ (vGet 8 gf L.tok x.toNat xtok hxtok) (irk 3 (.n 36 (.b (decide (xtok≥0))) .r) ?_)))
  exact Zz (wk [0,0,0,0,0,0,0,0,0] (fr (fr (fr (fr (fc (x:=.b (decide (xtok≥0))) (lb (by simp only [hb2,hb3];rfl)) fl)))))) hj1
 have hp8:¬(s.op=17):=Zd beq_iff_eq hb3
 refine irk 10 (.n 36 (.b false) (.k (.d .r))) ?_
 exact Zz (wk [0,0,0,0,0,0,0,0,0] (fr (fr (fr (fr (fc (x:=.b false) (lb (by simp only [hb2,hb3];rfl)) fl)))))) hj1
theorem Zm9 (b:Nat) (ga:Hd) (gb:Hd) (gc:Hd) (gd:Hd) (ge:Hd) (gf:Hd) (n:Normal) (s:Step) (L:Led) (ln:List Int) (q:Int) (hn:NOk n:=by exact ob) (hnum:s.op=9→0≤s.num∧s.num<n.routines.length:=by exact ob) (hk:LOk n.decls L q:=by exact ob) (hlb:L.vars.length≤1000000000:=by exact ob) (hargs:∀a∈s.args,0≤a∧a<L.vars.length) (hinto:0<s.into→s.into≤L.vars.length:=by exact ob) (hal:s.args.length≤1000000000:=by exact ob) (hln:ln.length≤4294967296:=by exact ob) (hq:0≤q∧q≤999999990:=by exact ob):Z3 Tryz.prog 192 [.p b 0,Zi n,Z0o s] [.obj b [.h ga,.h gb,.h gc,.h gd,.h ge,.h gf,nInt ln],rV ga L.vars,rV gb L.own,rV gc L.par,rV gd L.con,rV ge L.fst,rV gf L.tok] (fun r h=>(∃(wa:Hd) (wb:Hd) (wc:Hd) (wd:Hd) (we:Hd) (wf:Hd) (L':Led),r=.b true∧h=[.obj b [.h wa,.h wb,.h wc,.h wd,.h we,.h wf,nInt ln],rV wa L'.vars,rV wb L'.own,rV wc L'.par,rV wd L'.con,rV we L'.fst,rV wf L'.tok]∧Z7f n ln L s.op s.num s.into s.args=some L')∨(r=.b false∧h=[]∧Z7f n ln L s.op s.num s.into s.args=none)):=by
 obtain ⟨e1,e2,e3,e4,e5⟩:=hk.len
 refine enter Tryz.func192 kr (n:=79) kr kr (ar (iA (Zh n) ?_))
 intro b1
 refine iA (Z0g s) ?_
 intro b2
 refine ir 1 [(0,.p b 0),(4,.p b1 0),(5,.p b2 0)] (ie (aq (ar (irk 1 (.n 7 (.i 0) .r) (ie (ab 0 (al (fun m F h=>∃(k:Nat) (L2:Led) (ka:Hd) (kb:Hd) (kc:Hd) (kd:Hd) (ke:Hd) (kf:Hd),(k≤s.args.length)∧(LOk n.decls L2 q)∧(L2.vars=L.vars)∧(Z3s n s.op s.num (s.args.drop k) k L2=Z3s n s.op s.num s.args 0 L)∧F=[(0,.p b 0),(4,.p b1 0),(5,.p b2 0),(7,.i k)]∧h=[.obj b2 (Z0g s),.obj b1 (Zh n),.obj b [.h ka,.h kb,.h kc,.h kd,.h ke,.h kf,nInt ln],rV ka L2.vars,rV kb L2.own,rV kc L2.par,rV kd L2.con,rV ke L2.fst,rV kf L2.tok]∧m=s.args.length-k) _ _ _ ⟨0,L,ga,gb,gc,gd,ge,gf,ob,hk,ob,ob,rfl,rfl,rfl⟩ (wk [0,0,0,0,0,0,0,0,0] (fr (fr (fr (fc (x:=.i 0) li fl))))) ?_)))))))
 rintro m F h ⟨k,L2,ka,kb,kc,kd,ke,kf,c0_0,c0_1,c0_2,c0_3,rfl,rfl,rfl⟩
 refine aq (ar (irK 3 (.n 9 (.i k) (.n 11 (nInt s.args) .r)) [0] [b2] (io (.i s.args.length) (.i (((Z6 s.args).length:Nat):Int)) (li (by rw [Z5])) (irk 1 (.n 13 (.b (decide ((k:Int)<(s.args.length:Int)))) .r) (ie (ac (decide ((k:Int)<(s.args.length:Int))) dq (fun hc1=>?_) (fun hc1=>?_)))))))
 ·obtain ⟨a1,ha1⟩:=Z8 (xs:=s.args) (j:=k) om
  obtain ⟨e6,e7,e8,e9,e10⟩:=c0_1.len
  have hav:=hargs a1 (List.mem_of_getElem? ha1)
  have hvl:L2.vars.length=L.vars.length:=by rw [c0_2]
  refine ak (aq (ab 1 (aD 18 (dtK (fuel:=11) 18 [0,1,2,3,4,5,6] (.n 16 (Zi n) (.n 20 (.h ka) (.n 21 (Z0o s) (.n 22 (.i k) .r)))) [1,2,0] [b1,b,b2] (do_ 7 (dCL 7 [3] [] [] [rV ka L2.vars] (Zd1 n L2.vars s k a1 (ha:=ha1)) cl0 (gS (gL (v:=ka) 0 (gS (gS gN)))) (Z1j Z2x) ?_))))))
  rintro _ _ ⟨rfl,rfl⟩
  refine dtk (fuel:=9) 10 [8] (.n 24 (.b (Zai n L2.vars s.op s.num a1 k)) .r) (db (b:=Zai n L2.vars s.op s.num a1 k) 24 (fun hb1=>?_) (fun hb1=>?_))
  ·have hp1:Zai n L2.vars s.op s.num a1 k=true:=(Iff.rfl).1 hb1
   refine dtK (fuel:=5) 9 [9,10,11,12] (.n 25 (.p b 0) (.n 27 (nInt s.args) (.n 28 (.i k) (.k (.d .r))))) [1] [b2] (dx 13 (Z0 (es:=Z6 s.args) (hv:=none) (j:=(k:Int)) (sz:=1) (y:=.i a1) kr om (Za ha1) rfl) (dtk (fuel:=3) 4 [14] (.n 30 (.i a1) .r) (do_ 15 (dc 15 [3,0,2,2,2,2,2] [] [] (Zfn b ka kb kc kd ke kf L2 ln a1 (hlk:=c0_1.len) (hq:=(fun y hy=>⟨c0_1.nn y hy,by have:=c0_1.bd y hy;omega⟩))) ?_))))
   rintro _ _ (⟨wa1,wb1,wc1,wd1,we1,wf1,L'1,rfl,rfl,hp2⟩|⟨rfl,rfl,hp3⟩)
   ·obtain ⟨t1,t2,t3,t4,t5,t6,t7⟩:=Z35 hp2
    have hk2:=c0_1.take hp2
    refine dtk (fuel:=0) 2 [16,17] (.n 33 (.b false) .r) (de (ac0 (ak (az (irk 1 (.n 14 (.i k) .r) (ia (((k+1:Nat):Int)) (((k:Int))+(1)) (ir 1 [(0,.p b 0),(4,.p b1 0),(5,.p b2 0),(7,.i (k+1:Nat))] (ie ?_))))))))
    exact ⟨_,_,_,ob,⟨k+1,L'1,wa1,wb1,wc1,wd1,we1,wf1,ob,hk2,(t2.trans c0_2),(by rw [Z7 ha1,Z3s,if_pos hp1] at c0_3;simp only [hp2] at c0_3;exact c0_3),rfl,rfl,rfl⟩,(wk [7,7,0,0,0,0,0,0,0] (fr (fr (fr (fc (x:=.i (k+1:Nat)) li fl)))))⟩
   refine dtk (fuel:=0) 2 [16,17] (.n 33 (.b true) .r) (de (ac1 (ar (ir 1 [(6,.b false)] (ie ?_)))))
   exact at_ (r1 [] (.inr ⟨rfl,rfl,(by rw [Z7f,←c0_3,Z7 ha1,Z3s,if_pos hp1,hp3])⟩))
  have hp4:¬(Zai n L2.vars s.op s.num a1 k=true):=Zd Iff.rfl hb1
  refine dtk (fuel:=0) 9 [9,10,11,12,13,14,15,16,17] (.n 33 (.b false) (.k (.d .r))) (de (ac0 (ak (az (irk 1 (.n 14 (.i k) .r) (ia (((k+1:Nat):Int)) (((k:Int))+(1)) (ir 1 [(0,.p b 0),(4,.p b1 0),(5,.p b2 0),(7,.i (k+1:Nat))] (ie ?_))))))))
  exact ⟨_,_,_,ob,⟨k+1,L2,ka,kb,kc,kd,ke,kf,ob,c0_1,c0_2,(by rw [Z7 ha1,Z3s,if_neg hp4] at c0_3;exact c0_3),rfl,rfl,rfl⟩,(wk [1,1,1,0,0,0,0,0,0] (fr (fr (fr (fc (x:=.i (k+1:Nat)) li fl)))))⟩
 have hT:Z3s n s.op s.num s.args 0 L=some L2:=by rw [←c0_3,Zs om];rfl
 obtain ⟨e6,e7,e8,e9,e10⟩:=c0_1.len
 have hvl:L2.vars.length=L.vars.length:=by rw [c0_2]
 refine ax 0 (aq (ar (irk 1 (.n 8 (.i 0) .r) (ie (ab 2 (al (fun m F h=>∃(j:Nat),(j≤s.args.length)∧(Z47 n s.op s.num ln L2 (s.args.drop j) j=Z47 n s.op s.num ln L2 s.args 0)∧F=[(0,.p b 0),(4,.p b1 0),(5,.p b2 0),(8,.i j)]∧h=[.obj b2 (Z0g s),.obj b1 (Zh n),.obj b [.h ka,.h kb,.h kc,.h kd,.h ke,.h kf,nInt ln],rV ka L2.vars,rV kb L2.own,rV kc L2.par,rV kd L2.con,rV ke L2.fst,rV kf L2.tok]∧m=s.args.length-j) _ _ _ ⟨0,ob,ob,rfl,rfl,rfl⟩ (wk [0,0,0,0,0,0,0,0,0] (fr (fr (fr (fc (x:=.i 0) li fl))))) ?_))))))
 rintro m F h ⟨j,c1_0,c1_1,rfl,rfl,rfl⟩
 refine aq (ar (irK 3 (.n 34 (.i j) (.n 36 (nInt s.args) .r)) [0] [b2] (io (.i s.args.length) (.i (((Z6 s.args).length:Nat):Int)) (li (by rw [Z5])) (irk 1 (.n 38 (.b (decide ((j:Int)<(s.args.length:Int)))) .r) (ie (ac (decide ((j:Int)<(s.args.length:Int))) dq (fun hc2=>?_) (fun hc2=>?_)))))))
 ·obtain ⟨a2,ha2⟩:=Z8 (xs:=s.args) (j:=j) om
  have hav:=hargs a2 (List.mem_of_getElem? ha2)
  refine ak (aq (ab 3 (ar (irK 3 (.n 41 (Zi n) (.n 42 (Z0o s) (.n 43 (.i j) .r))) [1,0] [b1,b2] (ic [] (Zaz n s j) ?_)))))
  rintro _ _ ⟨rfl,rfl⟩
  refine Z27 [(0,.p b 0),(4,.p b1 0),(5,.p b2 0),(8,.i j),(54,.b (Z2g n s.op s.num j&&(!Z1h L2 ln a2)))] [.obj b [.h ka,.h kb,.h kc,.h kd,.h ke,.h kf,nInt ln],rV ka L2.vars,rV kb L2.own,rV kc L2.par,rV kd L2.con,rV ke L2.fst,rV kf L2.tok,.obj b2 (Z0g s),.obj b1 (Zh n)] ?_ ?_
  ·refine ir 1 [(0,.p b 0),(4,.p b1 0),(5,.p b2 0),(8,.i j),(45,.b (Z2g n s.op s.num j))] (ib (b:=Z2g n s.op s.num j) 45 (fun hb2=>?_) (fun hb2=>?_))
   ·have hp5:Z2g n s.op s.num j=true:=(Iff.rfl).1 hb2
    refine irK 4 (.n 46 (.p b 0) (.n 48 (nInt s.args) (.n 49 (.i j) (.k (.k (.k (.k (.k .z)))))))) [0] [b2] (is_ (Z0 (es:=Z6 s.args) (hv:=none) (j:=(j:Int)) (sz:=1) (y:=.i a2) kr om (Za ha2) rfl) (irk 1 (.n 51 (.i a2) .r) (ic [2,2,2,2,2,2,2] (Zgw b ka kb kc kd ke kf L2 ln a2 (hlk:=c0_1.len) (hd:=c0_1.down)) ?_)))
    rintro _ _ ⟨rfl,rfl⟩
    refine irk 2 (.n 54 (.b (!Z1h L2 ln a2)) .r) (ie ?_)
    exact wk [0,0,0,0,0,0,0,0,0] (fr (fr (fr (fr (fc (x:=.b (!Z1h L2 ln a2)) (lb (by simp only [hb2];rfl)) fl)))))
   have hp6:¬(Z2g n s.op s.num j=true):=Zd Iff.rfl hb2
   refine irk 9 (.n 54 (.b false) (.d (.k (.k (.k (.k .z)))))) (ie ?_)
   exact wk [2,2,2,2,2,2,2,0,0] (fr (fr (fr (fr (fc (x:=.b false) (lb (by simp only [hb2];rfl)) fl)))))
  refine ac (Z2g n s.op s.num j&&(!Z1h L2 ln a2)) (p:=(Z2g n s.op s.num j=true)∧(¬(Z1h L2 ln a2=true))) (Zk Iff.rfl (Zc Iff.rfl)) (fun hc3=>?_) (fun hc3=>?_)
  ·refine ar (ir 1 [(6,.b false)] (ie ?_))
   have hA:Z47 n s.op s.num ln L2 s.args 0=false:=by rw [←c1_1,Z7 ha2,Z47,if_pos hc3]
   exact at_ (r1 [] (.inr ⟨rfl,rfl,(by rw [Z7f,hT];simp only [hA];rfl)⟩))
  refine ak (az (ir 1 [(0,.p b 0),(4,.p b1 0),(5,.p b2 0),(39,.i j)] (ia (((j+1:Nat):Int)) (((j:Int))+(1)) (irk 1 (.n 8 (.i (j+1:Nat)) .r) (ie ?_)))))
  exact ⟨_,_,_,ob,⟨j+1,ob,(by rw [Z7 ha2,Z47,if_neg hc3] at c1_1;exact c1_1),rfl,rfl,rfl⟩,(wk [7,7,0,0,0,0,0,0,0] (fr (fr (fr (fc (x:=.i (j+1:Nat)) li fl)))))⟩
 have hA:Z47 n s.op s.num ln L2 s.args 0=true:=by rw [←c1_1,Zs om];rfl
 refine ax 2 (aq (ar (irK 3 (.n 57 (.b (decide (s.into>0))) .r) [0] [b2] (ie (ac (decide (s.into>0)) dq (fun hc4=>?_) (fun hc4=>?_))))))
 ·obtain ⟨xt,hxt⟩:=Z8 (xs:=L2.tok) (j:=(s.into-1).toNat) (by have:=hinto hc4;omega)
  have hgt:=Z68 hxt
  refine aq (aD 13 (dtK (fuel:=7) 13 [0,1,2,3,4,5] (.n 61 (.h kf) (.n 63 (.i s.into) .r)) [2,0] [b,b2] (da 6 ((s.into-1)) ((s.into)-(1)) (dx 7 (vIdx 8 kf L2.tok (s.into-1) ((s.into-1).toNat) (hq:=rfl)) (dx_ 8 (vGet 8 kf L2.tok ((s.into-1).toNat) xt hxt) (dtK (fuel:=2) 4 [9,10] (.n 68 (nInt s.args) .r) [0] [b2] (dn 11 (.i s.args.length) (.i (((Z6 s.args).length:Nat):Int)) (li (by rw [Z5])) (dtk (fuel:=0) 1 [12] (.n 70 (.b (xt != (s.args.length:Int))) .r) (de (ac (xt != (s.args.length:Int)) bne_iff_ne (fun hc5=>?_) (fun hc5=>?_)))))))))))
  ·refine ar (ir 1 [(6,.b false)] (ie ?_))
   exact at_ (r1 [] (.inr ⟨rfl,rfl,(by rw [Z7f,hT];simp only [hA,↓reduceIte];rw [Z4v,if_pos hc4,hgt,if_pos hc5])⟩))
  refine ak (aE 9 (dT (fuel:=3) 9 [0,1,2,3,4,5] [(74,.h kf),(76,.i s.into)] [2,0] [b,b2] (da 6 ((s.into-1)) ((s.into)-(1)) (dx 7 (vIdx 8 kf L2.tok (s.into-1) ((s.into-1).toNat) (hq:=rfl)) (do_ 8 (dVS 8 8 [] [] kf L2.tok ((s.into-1).toNat) (-1) (de (ar (ir 1 [(6,.b true)] (ie ?_))))))))))
  exact at_ (r1 [3,3,3,3,3,3,0] (.inl ⟨ka,kb,kc,kd,ke,kf,(Led.mk L2.vars L2.own L2.par L2.con L2.fst (L2.tok.set ((s.into-1).toNat) (-1))),rfl,rfl,(by rw [Z7f,hT];simp only [hA,↓reduceIte];rw [Z4v,if_pos hc4,hgt,if_neg hc5])⟩) (eq:=(rc (rv (xs:=L2.vars) ob (rv (xs:=L2.own) ob (rv (xs:=L2.par) ob (rv (xs:=L2.con) ob (rv (xs:=L2.fst) ob (rv (xs:=(L2.tok.set ((s.into-1).toNat) (-1))) ob rz)))))))))
 refine ak (ar (ir 1 [(6,.b true)] (ie ?_)))
 exact at_ (r1 [2,2,2,2,2,2,2] (.inl ⟨ka,kb,kc,kd,ke,kf,L2,rfl,rfl,(by rw [Z7f,hT];simp only [hA,↓reduceIte];rw [Z4v,if_neg hc4])⟩))
end Go.Abs
end
section
namespace Go.Abs
open Go.Proofs
theorem Zv6 (b:Nat) (ga:Hd) (gb:Hd) (gc:Hd) (gd:Hd) (ge:Hd) (gf:Hd) (n:Normal) (s:Step) (L:Led) (ln:List Int) (q:Int) (i:Nat) (kb0:Block) (m:List Int) (hn:NOk n:=by exact ob) (hk:LOk n.decls L q:=by exact ob) (hf:SFacts n L.vars s:=by exact ob) (hop:s.op=7∨s.op=8:=by exact ob) (hkb:s.kids[i]? = some kb0:=by exact ob) (harm:(Zq n.decls s.op s.num)[i]? = some m:=by exact ob) (hbt:0≤Zg n (L.vars++m) kb0:=by exact ob) (hb:L.vars.length+4*s.sz≤1000000000:=by exact ob) (hq:0≤q∧q+4*s.sz≤999999990:=by exact ob) (hln:ln.length≤4294967296:=by exact ob) (ih:∀(b2:Block) (c:Nat) (ra:Hd) (rb:Hd) (rc:Hd) (rd:Hd) (re:Hd) (rf:Hd) (M:Led) (mm:Nat) (p:Int),(b2.sz<s.sz)→(LOk n.decls M p)→(0≤Zg n M.vars b2)→(mm≤M.vars.length)→(M.vars.length+4*b2.sz≤1000000000)→(0≤p∧p+4*b2.sz≤999999990)→Z3 Tryz.prog 100 [.p c 0,Zi n,Zj b2,.i mm] [.obj c [.h ra,.h rb,.h rc,.h rd,.h re,.h rf,nInt ln],rV ra M.vars,rV rb M.own,rV rc M.par,rV rd M.con,rV re M.fst,rV rf M.tok] (fun r h=>(∃(wa:Hd) (wb:Hd) (wc:Hd) (wd:Hd) (we:Hd) (wf:Hd) (M':Led),r=.b true∧h=[.obj c [.h wa,.h wb,.h wc,.h wd,.h we,.h wf,nInt ln],rV wa M'.vars,rV wb M'.own,rV wc M'.par,rV wd M'.con,rV we M'.fst,rV wf M'.tok]∧Z3b n ln M mm b2=some M')∨(r=.b false∧h=[]∧Z3b n ln M mm b2=none))):Z3 Tryz.prog 209 [.p b 0,Zi n,Z0o s,.i i] [.obj b [.h ga,.h gb,.h gc,.h gd,.h ge,.h gf,nInt ln],rV ga L.vars,rV gb L.own,rV gc L.par,rV gd L.con,rV ge L.fst,rV gf L.tok] (fun r h=>(∃(c:Nat) (wa:Hd) (wb:Hd) (wc:Hd) (wd:Hd) (we:Hd) (wf:Hd) (L':Led),r=.tup [.p c 0,.b true]∧h=[.obj c [.h wa,.h wb,.h wc,.h wd,.h we,.h wf,nInt ln],rV wa L'.vars,rV wb L'.own,rV wc L'.par,rV wd L'.con,rV we L'.fst,rV wf L'.tok,.obj b [.h ga,.h gb,.h gc,.h gd,.h ge,.h gf,nInt ln],rV ga L.vars,rV gb L.own,rV gc L.par,rV gd L.con,rV ge L.fst,rV gf L.tok]∧Z3b n ln (kidL n.decls L s.op s.num s.args i) L.vars.length kb0=some L')∨(r=.tup [.any,.b false]∧h=[.obj b [.h ga,.h gb,.h gc,.h gd,.h ge,.h gf,nInt ln],rV ga L.vars,rV gb L.own,rV gc L.par,rV gd L.con,rV ge L.fst,rV gf L.tok]∧Z3b n ln (kidL n.decls L s.op s.num s.args i) L.vars.length kb0=none)):=by
 obtain ⟨e1,e2,e3,e4,e5⟩:=hk.len
 have hdk:=hn.decls
 have hkz:=Z7a s
 have haz:=Z9j s
 have hK:=Zdt hk hq.1 hf hop harm
 have hm3:=Za5 hdk harm
 have hkl:=(List.getElem?_eq_some_iff.1 hkb).1
 have hks:=Zau hkb
 refine enter Tryz.func209 kr (n:=83) kr kr (ar (iA (Zh n) ?_))
 intro b1
 refine iA (Z0g s) ?_
 intro b2
 refine ir 2 [(0,.p b 0),(3,.i i),(5,.p b1 0),(6,.p b2 0)] (ie (ar (irK 4 (.n 18 (.h ga) .r) [2] [b] (is_ (vLen 3 ga L.vars) (irk 1 (.n 10 (.i L.vars.length) .r) (ie (ar (irk 1 (.n 20 (.p b 0) .r) (ic [2,2,2,2,2,2,2] (Zry b ga gb gc gd ge gf L ln (hlk:=hk.len)) ?_)))))))))
 rintro _ _ ⟨c1,wa1,wb1,wc1,wd1,we1,wf1,rfl,rfl⟩
 refine irk 1 (.n 11 (.p c1 0) .r) (ie (aq (ar (irK 3 (.n 24 (.b (s.op==8)) .r) [14] [b2] (ie (ac (s.op==8) beq_iff_eq (fun hc1=>?_) (fun hc1=>?_)))))))
 ·obtain ⟨x,hxa⟩:=hf.one om
  have ha:s.args[0]? = some x:=by rw [hxa];rfl
  have hx:=hf.args x (by rw [hxa];simp)
  obtain ⟨cc,hcc,hmc⟩:=Z00d hc1 harm
  have hal:=(List.getElem?_eq_some_iff.1 ha).1
  have hcl:=(List.getElem?_eq_some_iff.1 hcc).1
  have hm4:=hm3
  rw [hmc] at hm4
  refine ar (irK 4 (.n 26 (Z2 n.decls) (.n 28 (.i s.num) .r)) [15,14] [b1,b2] (ic [] (Z81 n.decls s.num) ?_))
  rintro _ _ ⟨v1,rfl,rfl⟩
  refine irk 1 (.n 30 (.i i) .r) (is_ (Z0 (es:=Z6 (Zb n.decls s.num)) (hv:=some v1) (j:=(i:Int)) (sz:=1) (y:=.i cc) kr om (Za hcc) rfl) (irk 2 (.n 12 (.i cc) .r) (ie (ar (irK 3 (.n 34 (Z2 n.decls) (.n 35 (.i cc) .r)) [16] [b1] (ic [] (Z3z n.decls cc) ?_))))))
  rintro _ _ ⟨rfl,rfl⟩
  refine irk 1 (.n 13 (nInt (Z1 n.decls cc)) .r) (ie (aD 11 (dtK (fuel:=5) 11 [0,1,2,3,4,5] (.n 40 (.h wd1) (.n 42 (nInt s.args) .r)) [1,15] [c1,b2] (dx 6 (Z0 (es:=Z6 s.args) (hv:=none) (j:=0) (sz:=1) (y:=.i x) kr om (Za ha) rfl) (dtk (fuel:=2) 4 [7,8] (.n 44 (.i x) (.n 45 (.i cc) .r)) (dx 9 (vIdx 5 wd1 L.con x x.toNat (hq:=rfl)) (do_ 10 (dVS 10 5 [] [] wd1 L.con x.toNat cc (de (aD 11 (dtK (fuel:=5) 11 [0,1,2,3,4,5] (.n 50 (.h we1) (.n 52 (nInt s.args) .r)) [2,15] [c1,b2] (dx 6 (Z0 (es:=Z6 s.args) (hv:=none) (j:=0) (sz:=1) (y:=.i x) kr om (Za ha) rfl) (dtk (fuel:=2) 4 [7,8] (.n 54 (.i x) (.n 55 (.i L.vars.length) .r)) (dx 9 (vIdx 6 we1 L.fst x x.toNat (hq:=rfl)) (do_ 10 (dVS 10 6 [] [] we1 L.fst x.toNat (L.vars.length:Int) (de (ar (irk 1 (.n 14 (.i 0) .r) (ie (ab 0 (al (fun m F h=>∃(k:Nat) (L3:Led) (ka:Hd) (kb:Hd) (kc:Hd) (kd:Hd) (ke:Hd) (kf:Hd),(k≤(Z1 n.decls cc).length)∧(LLen L3)∧(L3.vars.length=L.vars.length+k)∧(Z6f L3 x ((Z1 n.decls cc).drop k)=armL n.decls L x cc)∧F=[(3,.i i),(5,.p b1 0),(6,.p b2 0),(10,.i L.vars.length),(11,.p c1 0),(13,nInt (Z1 n.decls cc)),(14,.i k)]∧h=[.obj c1 [.h ka,.h kb,.h kc,.h kd,.h ke,.h kf,nInt ln],.obj b [.h ga,.h gb,.h gc,.h gd,.h ge,.h gf,nInt ln],rV ga L.vars,rV gb L.own,rV gc L.par,rV gd L.con,rV ge L.fst,rV gf L.tok,.obj b2 (Z0g s),.obj b1 (Zh n),rV ka L3.vars,rV kb L3.own,rV kc L3.par,rV kd L3.con,rV ke L3.fst,rV kf L3.tok]∧m=(Z1 n.decls cc).length-k) _ _ _ ⟨0,(Led.mk L.vars L.own L.par (L.con.set x.toNat cc) (L.fst.set x.toNat (L.vars.length:Int)) L.tok),wa1,wb1,wc1,wd1,we1,wf1,ob,(LLen.arm hk.len),ob,(by rw [armL];rfl),rfl,rfl,rfl⟩ (wk [3,7,7,7,7,7,7,7,7,7,3,3,3,1,0,1] (fr (fr (fr (fr (fr (fr (fc (x:=.i 0) li fl))))))) (e:=(rc (rc (rc (rc (rc (rc (rc (rc (rc (rc (rv (xs:=L.vars) ob (rv (xs:=L.own) ob (rv (xs:=L.par) ob (rv (xs:=(L.con.set x.toNat cc)) ob (rv (xs:=(L.fst.set x.toNat (L.vars.length:Int))) ob (rv (xs:=L.tok) ob rz)))))))))))))))))) ?_))))))))))))))))))))))
  rintro m F h ⟨k,L3,ka,kb,kc,kd,ke,kf,c0_0,c0_1,c0_2,c0_3,rfl,rfl,rfl⟩
  refine aq (ar (irk 2 (.n 57 (.i k) (.n 58 (nInt (Z1 n.decls cc)) .r)) (io (.i (((Z1 n.decls cc).length:Nat):Int)) (.i (((Z6 (Z1 n.decls cc)).length:Nat):Int)) (li (by rw [Z5])) (irk 1 (.n 60 (.b (decide ((k:Int)<(((Z1 n.decls cc).length:Nat):Int)))) .r) (ie (ac (decide ((k:Int)<(((Z1 n.decls cc).length:Nat):Int))) dq (fun hc2=>?_) (fun hc2=>?_)))))))
  ·refine ak (aq (ab 1 (aE 10 (dtk (fuel:=7) 10 [0,1,2] (.n 63 (.p c1 0) (.n 64 (nInt (Z1 n.decls cc)) (.n 65 (.i k) .r))) ?_))))
   obtain ⟨x1,hx1⟩:=Z8 (xs:=Z1 n.decls cc) (j:=k) om
   refine dx 3 (Z0 (es:=Z6 (Z1 n.decls cc)) (hv:=none) (j:=(k:Int)) (sz:=1) (y:=.i x1) kr om (Za hx1) rfl) (dtK (fuel:=3) 6 [4,5,6] (.n 67 (.i x1) (.n 69 (nInt s.args) .r)) [8] [b2] (dx 7 (Z0 (es:=Z6 s.args) (hv:=none) (j:=0) (sz:=1) (y:=.i x) kr om (Za ha) rfl) (dtk (fuel:=1) 2 [8] (.n 71 (.i x) .r) (do_ 9 (dc 9 [0,9,9,9,9,9,9] [] [] (Z4q c1 ka kb kc kd ke kf L3 ln x1 0 x (hlk:=c0_1)) ?_)))))
   rintro _ _ ⟨wa2,wb2,wc2,wd2,we2,wf2,rfl⟩
   refine de (az (irk 1 (.n 61 (.i k) (.p .r)) (ia (((k+1:Nat):Int)) (((k:Int))+(1)) (irk 1 (.n 14 (.i (k+1:Nat)) (.p (.d (.d (.p (.d (.d (.p (.d (.d (.d (.d (.p (.d (.d (.k (.k (.k (.k (.k (.k .z))))))))))))))))))))) (ie ?_)))))
   exact ⟨_,_,_,ob,⟨k+1,(L3.grow x1 0 x),wa2,wb2,wc2,wd2,we2,wf2,ob,(LLen.grow c0_1),(by simp [Led.grow];omega),(by rw [Z7 hx1,Z6f] at c0_3;exact c0_3),rfl,rfl,rfl⟩,(wk [0,6,6,6,6,6,6,6,6,6,0,0,0,0,0,0] (fr (fr (fr (fr (fr (fr (fc (x:=.i (k+1:Nat)) li fl))))))))⟩
  have hE:kidL n.decls L s.op s.num s.args i=L3:=by rw [Zyh hc1 ha hcc,←c0_3,Zs om];rfl
  refine ax 0 (aD 12 (dtK (fuel:=6) 12 [0,1,2,3,4,5] (.n 73 (.p c1 0) (.n 74 (.p c1 0) (.n 75 (Zi n) (.n 77 (Z03 s.kids) (.n 78 (.i i) .r))))) [9,8] [b1,b2] (dx 6 (Z0 (es:=Z0p s.kids) (hv:=none) (j:=(i:Int)) (sz:=2) (y:=Zj kb0) kr om (Z2a hkb) rfl) (dtk (fuel:=3) 5 [7,8] (.n 80 (Zj kb0) (.n 81 (.i L.vars.length) .r)) (do_ 9 (dc 9 [0,9,9,9,9,9,9] [] [] (ih kb0 c1 ka kb kc kd ke kf L3 L.vars.length q ob (by rw [←hE];exact hK.1) (by rw [←hE,hK.2];exact hbt) (by rw [←hE,hK.2];simp) (by rw [←hE,hK.2,List.length_append];omega) ob) ?_))))))
  rintro _ _ (⟨wa3,wb3,wc3,wd3,we3,wf3,M'1,rfl,rfl,hp1⟩|⟨rfl,rfl,hp2⟩)
  ·refine dt (fuel:=0) 2 [10,11] [(8,.p c1 0),(9,.b true)] (de ?_)
   exact at_ (r2 [0,0,0,0,0,0,0,0,0,0,0,0,0,0] [.p c1 0,.b true] (.inl ⟨c1,wa3,wb3,wc3,wd3,we3,wf3,M'1,rfl,rfl,(by rw [hE];exact hp1)⟩) (lr _))
  refine dt (fuel:=0) 2 [10,11] [(8,.p c1 0),(9,.b false)] (de ?_)
  exact at_ (r2 [0,0,0,0,0,0,0] [.p c1 0,.b false] (.inr ⟨rfl,rfl,(by rw [hE];exact hp2)⟩) (AVLe.tup (.cons (AVLe.any _) (.cons (lr _) .nil))))
 have hE:=Z01b (ds:=n.decls) (L:=L) (num:=s.num) (args:=s.args) (i:=i) hc1
 refine ak (aD 12 (dtK (fuel:=6) 12 [0,1,2,3,4,5] (.n 73 (.p c1 0) (.n 74 (.p c1 0) (.n 75 (Zi n) (.n 77 (Z03 s.kids) (.n 78 (.i i) .r))))) [15,14] [b1,b2] (dx 6 (Z0 (es:=Z0p s.kids) (hv:=none) (j:=(i:Int)) (sz:=2) (y:=Zj kb0) kr om (Z2a hkb) rfl) (dtk (fuel:=3) 5 [7,8] (.n 80 (Zj kb0) (.n 81 (.i L.vars.length) .r)) (do_ 9 (dc 9 [0,0,0,0,0,0,0] [] [] (ih kb0 c1 wa1 wb1 wc1 wd1 we1 wf1 L L.vars.length q ob (by rw [←hE];exact hK.1) (by rw [←hE,hK.2];exact hbt) (by rw [←hE,hK.2];simp) (by rw [←hE,hK.2,List.length_append];omega) ob) ?_))))))
 rintro _ _ (⟨wa4,wb4,wc4,wd4,we4,wf4,M'2,rfl,rfl,hp3⟩|⟨rfl,rfl,hp4⟩)
 ·refine dt (fuel:=0) 2 [10,11] [(8,.p c1 0),(9,.b true)] (de ?_)
  exact at_ (r2 [0,0,0,0,0,0,0,0,0,0,0,0,0,0] [.p c1 0,.b true] (.inl ⟨c1,wa4,wb4,wc4,wd4,we4,wf4,M'2,rfl,rfl,(by rw [hE];exact hp3)⟩) (lr _))
 refine dt (fuel:=0) 2 [10,11] [(8,.p c1 0),(9,.b false)] (de ?_)
 exact at_ (r2 [0,0,0,0,0,0,0] [.p c1 0,.b false] (.inr ⟨rfl,rfl,(by rw [hE];exact hp4)⟩) (AVLe.tup (.cons (AVLe.any _) (.cons (lr _) .nil))))
theorem Zrx (b:Nat) (ga:Hd) (gb:Hd) (gc:Hd) (gd:Hd) (ge:Hd) (gf:Hd) (n:Normal) (s:Step) (L:Led) (ln:List Int) (q:Int) (hn:NOk n:=by exact ob) (hk:LOk n.decls L q:=by exact ob) (hf:SFacts n L.vars s:=by exact ob) (hop:s.op=7∨s.op=8:=by exact ob) (hb:L.vars.length+4*s.sz≤1000000000:=by exact ob) (hq:0≤q∧q+4*s.sz≤999999990:=by exact ob) (hln:ln.length≤4294967296:=by exact ob) (ih:∀(b2:Block) (c:Nat) (ra:Hd) (rb:Hd) (rc:Hd) (rd:Hd) (re:Hd) (rf:Hd) (M:Led) (mm:Nat) (p:Int),(b2.sz<s.sz)→(LOk n.decls M p)→(0≤Zg n M.vars b2)→(mm≤M.vars.length)→(M.vars.length+4*b2.sz≤1000000000)→(0≤p∧p+4*b2.sz≤999999990)→Z3 Tryz.prog 100 [.p c 0,Zi n,Zj b2,.i mm] [.obj c [.h ra,.h rb,.h rc,.h rd,.h re,.h rf,nInt ln],rV ra M.vars,rV rb M.own,rV rc M.par,rV rd M.con,rV re M.fst,rV rf M.tok] (fun r h=>(∃(wa:Hd) (wb:Hd) (wc:Hd) (wd:Hd) (we:Hd) (wf:Hd) (M':Led),r=.b true∧h=[.obj c [.h wa,.h wb,.h wc,.h wd,.h we,.h wf,nInt ln],rV wa M'.vars,rV wb M'.own,rV wc M'.par,rV wd M'.con,rV we M'.fst,rV wf M'.tok]∧Z3b n ln M mm b2=some M')∨(r=.b false∧h=[]∧Z3b n ln M mm b2=none))):Z3 Tryz.prog 191 [.p b 0,Zi n,Z0o s] [.obj b [.h ga,.h gb,.h gc,.h gd,.h ge,.h gf,nInt ln],rV ga L.vars,rV gb L.own,rV gc L.par,rV gd L.con,rV ge L.fst,rV gf L.tok] (fun r h=>(∃(wa:Hd) (wb:Hd) (wc:Hd) (wd:Hd) (we:Hd) (wf:Hd) (L':Led),r=.b true∧h=[.obj b [.h wa,.h wb,.h wc,.h wd,.h we,.h wf,nInt ln],rV wa L'.vars,rV wb L'.own,rV wc L'.par,rV wd L'.con,rV we L'.fst,rV wf L'.tok]∧Z74 n ln L s=some L')∨(r=.b false∧h=[]∧Z74 n ln L s=none)):=by
 obtain ⟨e1,e2,e3,e4,e5⟩:=hk.len
 have hdk:=hn.decls
 have hkz:=Z7a s
 have haz:=Z9j s
 obtain ⟨hk1,hk2,hk3⟩:=hf.kids hop
 obtain ⟨kd,hkd⟩:=Z8 (xs:=s.kids) (j:=0) om
 obtain ⟨m0,hm0⟩:=Z8 (xs:=Zq n.decls s.op s.num) (j:=0) om
 obtain ⟨x,hxa⟩:=hf.one om
 have ha:s.args[0]? = some x:=by rw [hxa];rfl
 have hx:=hf.args x (by rw [hxa];simp)
 have hgx:=gI0 ha
 have hal:=(List.getElem?_eq_some_iff.1 ha).1
 refine enter Tryz.func191 kr (n:=88) kr kr (ar (iA (Zh n) ?_))
 intro b1
 refine iA (Z0g s) ?_
 intro b2
 refine ir 1 [(0,.p b 0),(4,.p b1 0),(5,.p b2 0)] (ie (aq (ar (Z27 [(0,.p b 0),(4,.p b1 0),(5,.p b2 0),(23,.b ((s.op==8)&&(!Z1h L ln x)))] [.obj b [.h ga,.h gb,.h gc,.h gd,.h ge,.h gf,nInt ln],rV ga L.vars,rV gb L.own,rV gc L.par,rV gd L.con,rV ge L.fst,rV gf L.tok,.obj b2 (Z0g s),.obj b1 (Zh n)] ?_ ?_))))
 ·refine iR 4 [(0,.p b 0),(4,.p b1 0),(5,.p b2 0),(15,.b (s.op==8))] [0] [b2] (ib (b:=(s.op==8)) 15 (fun hb1=>?_) (fun hb1=>?_))
  ·have hp1:s.op=8:=(beq_iff_eq).1 hb1
   refine irK 3 (.n 16 (.p b 0) (.n 18 (nInt s.args) (.k (.k (.k (.k .z)))))) [0] [b2] (is_ (Z0 (es:=Z6 s.args) (hv:=none) (j:=0) (sz:=1) (y:=.i x) kr om (Za ha) rfl) (irk 1 (.n 20 (.i x) .r) (ic [2,2,2,2,2,2,2] (Zgw b ga gb gc gd ge gf L ln x (hlk:=hk.len) (hd:=hk.down)) ?_)))
   rintro _ _ ⟨rfl,rfl⟩
   refine irk 2 (.n 23 (.b (!Z1h L ln x)) .r) (ie ?_)
   exact wk [0,0,0,0,0,0,0,0,0] (fr (fr (fr (fc (x:=.b (!Z1h L ln x)) (lb (by simp only [hb1];rfl)) fl))))
  have hp2:¬(s.op=8):=Zd beq_iff_eq hb1
  refine irk 8 (.n 23 (.b false) (.d (.k (.k (.k .z))))) (ie ?_)
  exact wk [2,2,2,2,2,2,2,0,0] (fr (fr (fr (fc (x:=.b false) (lb (by simp only [hb1];rfl)) fl))))
 refine ac ((s.op==8)&&(!Z1h L ln x)) (p:=(s.op=8)∧(¬(Z1h L ln x=true))) (Zk beq_iff_eq (Zc Iff.rfl)) (fun hc1=>?_) (fun hc1=>?_)
 ·refine ar (ir 1 [(6,.b false)] (ie ?_))
  exact at_ (r1 [] (.inr ⟨rfl,rfl,(by rw [Z74,if_pos (by rw [hgx];exact hc1)])⟩))
 have hgo:=Zll (n:=n) (ln:=ln) (L:=L) (s:=s) (by rw [hgx];exact hc1) hkd
 refine ak (ar (iR 3 [(0,.p b 0),(4,.p b1 0),(5,.p b2 0),(25,.p b 0),(26,Zi n),(27,Z0o s)] [8,7] [b1,b2] (ic [0,0,0,0,0,0,0] (Zv6 b ga gb gc gd ge gf n s L ln q 0 kd m0 (hkb:=hkd) (harm:=hm0) (hbt:=(hk3 0 kd m0 hkd hm0)) (ih:=ob)) ?_)))
 rintro _ _ (⟨c1,wa1,wb1,wc1,wd1,we1,wf1,L'1,rfl,rfl,hp3⟩|⟨rfl,rfl,hp4⟩)
 ·have hone:=hp3
  obtain ⟨l1,l2⟩:=Zv2 hn hk hq.1 hf hop hkd hm0 (hk3 0 kd m0 hkd hm0) hone
  refine irk 5 (.n 7 (.p c1 0) (.n 8 (.b true) .r)) (ie (aq (ar (irk 2 (.n 32 (.b false) .r) (ie (ac0 (ak (aq (ar (irk 1 (.n 9 (.i 1) .r) (ie (ab 0 (al (fun m F h=>∃(k:Nat),(1≤k∧k≤s.kids.length)∧(Zdu n ln L s.op s.num s.args L'1 (s.kids.drop k) k=Zdu n ln L s.op s.num s.args L'1 (s.kids.drop 1) 1)∧F=[(0,.p b 0),(4,.p b1 0),(5,.p b2 0),(7,.p c1 0),(9,.i k)]∧h=[.obj c1 [.h wa1,.h wb1,.h wc1,.h wd1,.h we1,.h wf1,nInt ln],rV wa1 L'1.vars,rV wb1 L'1.own,rV wc1 L'1.par,rV wd1 L'1.con,rV we1 L'1.fst,rV wf1 L'1.tok,.obj b [.h ga,.h gb,.h gc,.h gd,.h ge,.h gf,nInt ln],rV ga L.vars,rV gb L.own,rV gc L.par,rV gd L.con,rV ge L.fst,rV gf L.tok,.obj b2 (Z0g s),.obj b1 (Zh n)]∧m=s.kids.length-k) _ _ _ ⟨1,ob,ob,rfl,rfl,rfl⟩ (wk [0,0,0,0,0,0,0,0,0,0,0,0,0,0,0,0] (fr (fr (fr (fr (fc (x:=.i 1) li fl)))))) ?_)))))))))))))
  rintro m F h ⟨k,c0_0,c0_1,rfl,rfl,rfl⟩
  refine aq (ar (irK 3 (.n 33 (.i k) (.n 35 (Z03 s.kids) .r)) [14] [b2] (io (.i s.kids.length) (.i (((Z0p s.kids).length:Nat):Int)) (li (by rw [Z0r])) (irk 1 (.n 37 (.b (decide ((k:Int)<(s.kids.length:Int)))) .r) (ie (ac (decide ((k:Int)<(s.kids.length:Int))) dq (fun hc2=>?_) (fun hc2=>?_)))))))
  ·obtain ⟨ke,hke⟩:=Z8 (xs:=s.kids) (j:=k) om
   obtain ⟨mk,hmk⟩:=Z8 (xs:=Zq n.decls s.op s.num) (j:=k) om
   have hcs:=Z89 (n:=n) (ln:=ln) (L:=L) (op:=s.op) (num:=s.num) (args:=s.args) (one:=L'1) hke
   refine ak (aq (ab 1 (ar (irK 4 (.n 41 (.p b 0) (.n 42 (Zi n) (.n 43 (Z0o s) (.n 44 (.i k) .r)))) [15,14] [b1,b2] (ic [7,7,7,7,7,7,7] (Zv6 b ga gb gc gd ge gf n s L ln q k ke mk (hkb:=hke) (harm:=hmk) (hbt:=(hk3 k ke mk hke hmk)) (ih:=ob)) ?_)))))
   rintro _ _ (⟨c2,wa2,wb2,wc2,wd2,we2,wf2,L'2,rfl,rfl,hp5⟩|⟨rfl,rfl,hp6⟩)
   ·have htwo:=hp5
    obtain ⟨l3,l4⟩:=Zv2 hn hk hq.1 hf hop hke hmk (hk3 k ke mk hke hmk) htwo
    refine irk 5 (.n 10 (.p c2 0) (.n 11 (.b true) .r)) (ie (aD 26 (dtK (fuel:=15) 26 [0,1,2,3,4,5,6,7,8,9,10] (.n 50 (.b false) (.n 54 (.h wb1) (.n 58 (.h wb2) .r))) [14,0] [c1,c2] (do_ 11 (dCL 11 [16,2] [] [] [rV wb1 L'1.own,rV wb2 L'2.own] (Z9a L'1.own L'2.own) cl0 (gL (v:=wb1) 0 (gL (v:=wb2) 1 gN)) (Z1j (Z1j Z2x)) ?_)))))
    rintro _ _ ⟨rfl,rfl⟩
    refine Zbz [(0,.p b 0),(4,.p b1 0),(5,.p b2 0),(7,.p c1 0),(9,.i k),(73,.b ((!(decide (L'1.own=L'2.own)))||(!(decide (L'1.tok=L'2.tok)))))] [rV wb1 L'1.own,rV wb2 L'2.own,.obj c2 [.h wa2,.h wb2,.h wc2,.h wd2,.h we2,.h wf2,nInt ln],rV wa2 L'2.vars,rV wc2 L'2.par,rV wd2 L'2.con,rV we2 L'2.fst,rV wf2 L'2.tok,.obj b [.h ga,.h gb,.h gc,.h gd,.h ge,.h gf,nInt ln],rV ga L.vars,rV gb L.own,rV gc L.par,rV gd L.con,rV ge L.fst,rV gf L.tok,.obj c1 [.h wa1,.h wb1,.h wc1,.h wd1,.h we1,.h wf1,nInt ln],rV wa1 L'1.vars,rV wc1 L'1.par,rV wd1 L'1.con,rV we1 L'1.fst,rV wf1 L'1.tok,.obj b2 (Z0g s),.obj b1 (Zh n)] ?_ ?_
    ·refine dt (fuel:=11) 14 [12,13,14] [(0,.p b 0),(4,.p b1 0),(5,.p b2 0),(7,.p c1 0),(9,.i k),(10,.p c2 0),(62,.b (!(decide (L'1.own=L'2.own))))] (db (b:=(!(decide (L'1.own=L'2.own)))) 62 (fun hb2=>?_) (fun hb2=>?_))
     ·have hp7:¬(L'1.own=L'2.own):=((Zc dq)).1 hb2
      refine dtk (fuel:=0) 11 [15,16,17,18,19,20,21,22,23,24,25] (.n 73 (.b true) (.d (.k (.k (.k (.k (.k .z))))))) (de ?_)
      exact wk [0,0,0,0,0,0,0,0,0,0,0,0,0,0,0,0,0,0,0,0,0,0,0] (fr (fr (fr (fr (fr (fc (x:=.b true) (lb (by simp only [hb2];rfl)) fl))))))
     have hp8:¬(¬(L'1.own=L'2.own)):=Zd (Zc dq) hb2
     refine dtK (fuel:=3) 11 [15,16,17,18,19,20,21,22] (.n 66 (.h wf1) (.n 70 (.h wf2) (.k (.k (.k (.k (.k (.k .z)))))))) [15,2] [c1,c2] (do_ 23 (dCL 23 [20,7] [] [] [rV wf1 L'1.tok,rV wf2 L'2.tok] (Z9a L'1.tok L'2.tok) cl0 (gL (v:=wf1) 0 (gL (v:=wf2) 1 gN)) (Z1j (Z1j Z2x)) ?_))
     rintro _ _ ⟨rfl,rfl⟩
     refine dtk (fuel:=0) 2 [24,25] (.n 73 (.b (!(decide (L'1.tok=L'2.tok)))) .r) (de ?_)
     exact wk [2,2,2,2,2,2,2,1,1,1,1,1,1,1,1,1,1,1,1,1,0,0,0] (fr (fr (fr (fr (fr (fc (x:=.b (!(decide (L'1.tok=L'2.tok)))) (lb (by simp only [hb2];rfl)) fl))))))
    refine ac ((!(decide (L'1.own=L'2.own)))||(!(decide (L'1.tok=L'2.tok)))) (p:=(¬(L'1.own=L'2.own))∨(¬(L'1.tok=L'2.tok))) (Zf (Zc dq) (Zc dq)) (fun hc3=>?_) (fun hc3=>?_)
    ·refine ar (ir 1 [(6,.b false)] (ie ?_))
     exact at_ (r1 [] (.inr ⟨rfl,rfl,(by rw [hgo,hone];exact Zcn (by rw [←c0_1,hcs,htwo];exact Zqh hc3))⟩))
    refine ak (az (ir 1 [(0,.p b 0),(4,.p b1 0),(5,.p b2 0),(7,.p c1 0),(38,.i k)] (ia (((k+1:Nat):Int)) (((k:Int))+(1)) (irk 1 (.n 9 (.i (k+1:Nat)) .r) (ie ?_)))))
    exact ⟨_,_,_,ob,⟨k+1,ob,(by rw [hcs,htwo,Zmv hc3] at c0_1;exact c0_1),rfl,rfl,rfl⟩,(wk [15,15,0,14,14,14,14,7,7,7,7,7,7,7,7,7] (fr (fr (fr (fr (fc (x:=.i (k+1:Nat)) li fl))))))⟩
   have htwo:=hp6
   refine irk 5 (.n 11 (.b false) .r) (ie (aD 26 (dtk (fuel:=0) 26 [0,1,2,3,4,5,6,7,8,9,10,11,12,13,14,15,16,17,18,19,20,21,22,23,24,25] (.n 73 (.b true) .r) (de (ac1 (ar (ir 1 [(6,.b false)] (ie ?_))))))))
   exact at_ (r1 [] (.inr ⟨rfl,rfl,(by rw [hgo,hone];exact Zcn (by rw [←c0_1,hcs,htwo];rfl))⟩))
  have hE:Zdu n ln L s.op s.num s.args L'1 (s.kids.drop 1) 1=true:=by rw [←c0_1,Zs om,Zdu]
  refine ax 0 (ar (irK 7 (.n 78 (.h wb1) (.n 80 (.p b 1) .r)) [0] [c1] (iS 7 b 1 [.h wb1] [.h ga,.h gb,.h gc,.h gd,.h ge,.h gf,nInt ln] [.h ga,.h wb1,.h gc,.h gd,.h ge,.h gf,nInt ln] (ie (ar (iR 7 [(85,.h wf1),(87,.p b 5)] [1] [c1] (iS 0 b 5 [.h wf1] [.h ga,.h wb1,.h gc,.h gd,.h ge,.h gf,nInt ln] [.h ga,.h wb1,.h gc,.h gd,.h ge,.h wf1,nInt ln] (ie (ar (ir 1 [(6,.b true)] (ie ?_)))))))))))
  exact at_ (r1 [0,7,2,7,7,7,5] (.inl ⟨ga,wb1,gc,gd,ge,wf1,(Led.mk L.vars L'1.own L.par L.con L.fst L'1.tok),rfl,rfl,(by rw [hgo,hone];exact Zmg hE)⟩) (eq:=(rc (rv (xs:=L.vars) ob (rv (xs:=L'1.own) ob (rv (xs:=L.par) ob (rv (xs:=L.con) ob (rv (xs:=L.fst) ob (rv (xs:=L'1.tok) ob rz)))))))))
 have hone:=hp4
 refine irk 5 (.n 8 (.b false) .r) (ie (aq (ar (irk 2 (.n 32 (.b true) .r) (ie (ac1 (ar (ir 1 [(6,.b false)] (ie ?_)))))))))
 exact at_ (r1 [] (.inr ⟨rfl,rfl,(by rw [hgo,hone];rfl)⟩))
theorem Zv7 (b:Nat) (ga:Hd) (gb:Hd) (gc:Hd) (gd:Hd) (ge:Hd) (gf:Hd) (n:Normal) (s:Step) (L:Led) (ln:List Int) (q:Int) (hn:NOk n:=by exact ob) (hk:LOk n.decls L q:=by exact ob) (ht:0≤Z9 n L.vars s:=by exact ob) (hb:L.vars.length+4*s.sz≤1000000000:=by exact ob) (hq:0≤q∧q+4*s.sz≤999999990:=by exact ob) (hln:ln.length≤4294967296:=by exact ob) (ih:∀(b2:Block) (c:Nat) (ra:Hd) (rb:Hd) (rc:Hd) (rd:Hd) (re:Hd) (rf:Hd) (M:Led) (mm:Nat) (p:Int),(b2.sz<s.sz)→(LOk n.decls M p)→(0≤Zg n M.vars b2)→(mm≤M.vars.length)→(M.vars.length+4*b2.sz≤1000000000)→(0≤p∧p+4*b2.sz≤999999990)→Z3 Tryz.prog 100 [.p c 0,Zi n,Zj b2,.i mm] [.obj c [.h ra,.h rb,.h rc,.h rd,.h re,.h rf,nInt ln],rV ra M.vars,rV rb M.own,rV rc M.par,rV rd M.con,rV re M.fst,rV rf M.tok] (fun r h=>(∃(wa:Hd) (wb:Hd) (wc:Hd) (wd:Hd) (we:Hd) (wf:Hd) (M':Led),r=.b true∧h=[.obj c [.h wa,.h wb,.h wc,.h wd,.h we,.h wf,nInt ln],rV wa M'.vars,rV wb M'.own,rV wc M'.par,rV wd M'.con,rV we M'.fst,rV wf M'.tok]∧Z3b n ln M mm b2=some M')∨(r=.b false∧h=[]∧Z3b n ln M mm b2=none))):Z3 Tryz.prog 149 [.p b 0,Zi n,Z0o s] [.obj b [.h ga,.h gb,.h gc,.h gd,.h ge,.h gf,nInt ln],rV ga L.vars,rV gb L.own,rV gc L.par,rV gd L.con,rV ge L.fst,rV gf L.tok] (fun r h=>(∃(wa:Hd) (wb:Hd) (wc:Hd) (wd:Hd) (we:Hd) (wf:Hd) (L':Led),r=.b true∧h=[.obj b [.h wa,.h wb,.h wc,.h wd,.h we,.h wf,nInt ln],rV wa L'.vars,rV wb L'.own,rV wc L'.par,rV wd L'.con,rV we L'.fst,rV wf L'.tok]∧Z8g n ln L s=some L')∨(r=.b false∧h=[]∧Z8g n ln L s=none)):=by
 obtain ⟨e1,e2,e3,e4,e5⟩:=hk.len
 have hdk:=hn.decls
 have hkz:=Z7a s
 have haz:=Z9j s
 have hf:=Z71 ht
 refine enter Tryz.func149 kr (n:=89) kr kr (ar (iA (Zh n) ?_))
 intro b1
 refine iA (Z0g s) ?_
 intro b2
 refine ir 1 [(0,.p b 0),(4,.p b1 0),(5,.p b2 0)] (ie (aD 8 (dtK (fuel:=2) 8 [0,1,2,3,4,5] (.n 9 (Zi n) (.n 13 (.h ga) (.n 14 (Z0o s) .r))) [1,2,0] [b1,b,b2] (do_ 6 (dCL 6 [3] [] [] [rV ga L.vars] (Ze7 n L.vars s ob ob) cl0 (gS (gL (v:=ga) 0 (gS gN))) (Z1j Z2x) ?_)))))
 rintro _ _ ⟨rfl,rfl⟩
 refine dtk (fuel:=0) 1 [7] (.n 7 (.i (Z9 n L.vars s)) .r) (de (ar (irk 1 .r (ie (aq (ar (irK 2 (.n 17 (.i s.op) .r) [1] [b2] (ie (ab 0 (ar (irk 2 (.n 22 (.b (s.op==14)) .r) (ie (ac (s.op==14) beq_iff_eq (fun hc1=>?_) (fun hc1=>?_))))))))))))))
 ·obtain ⟨x,hxa⟩:=hf.one om
  have ha:s.args[0]? = some x:=by rw [hxa];rfl
  have hx:=hf.args x (by rw [hxa];simp)
  have hgx:=gI0 ha
  have hal:=(List.getElem?_eq_some_iff.1 ha).1
  obtain ⟨xo,hxo⟩:=Z8 (xs:=L.own) (j:=x.toNat) om
  have hgo:=Z68 hxo
  have hob:=hk.bd xo (List.mem_of_getElem? hxo)
  have hon:=hk.nn xo (List.mem_of_getElem? hxo)
  refine ar (irK 3 (.n 24 (.p b 0) (.n 26 (nInt s.args) .r)) [1] [b2] (is_ (Z0 (es:=Z6 s.args) (hv:=none) (j:=0) (sz:=1) (y:=.i x) kr om (Za ha) rfl) (irk 1 (.n 28 (.i x) .r) (ic [3,0,2,2,2,2,2] (Zgw b ga gb gc gd ge gf L ln x (hlk:=hk.len) (hd:=hk.down)) ?_))))
  rintro _ _ ⟨rfl,rfl⟩
  refine irk 1 (.n 8 (.b (Z1h L ln x)) .r) (ie (aE 21 (dtK (fuel:=15) 21 [0,1,2,3,4,5] (.n 33 (.h gb) (.n 35 (nInt s.args) .r)) [0,7] [b,b2] (dx 6 (Z0 (es:=Z6 s.args) (hv:=none) (j:=0) (sz:=1) (y:=.i x) kr om (Za ha) rfl) (dtK (fuel:=7) 14 [7,8,9,10,11,12,13] (.n 37 (.i x) (.n 41 (.h gb) (.n 43 (nInt s.args) .r))) [0,7] [b,b2] (dx 14 (Z0 (es:=Z6 s.args) (hv:=none) (j:=0) (sz:=1) (y:=.i x) kr om (Za ha) rfl) (dtk (fuel:=5) 6 [15] (.n 45 (.i x) .r) (dx 16 (vIdx 2 gb L.own x x.toNat (hq:=rfl)) (dx_ 17 (vGet 2 gb L.own x.toNat xo hxo) (da 18 ((xo+1)) ((xo)+(1)) (dx 19 (vIdx 2 gb L.own x x.toNat (hq:=rfl)) (do_ 20 (dVS 20 2 [] [] gb L.own x.toNat (xo+1) (de (aq (ar (irk 2 (.n 73 (.b (!Z1h L ln x)) .r) (ie (ac (!Z1h L ln x) (p:=¬(Z1h L ln x=true)) (Zc Iff.rfl) (fun hc2=>?_) (fun hc2=>?_))))))))))))))))))))
  ·have hP:=(Zvr (n:=n) (ln:=ln) (L:=L) hc1 hgx).trans (Z03s hc2)
   refine ar (ir 1 [(6,.b false)] (ie ?_))
   exact at_ (r1 [] (.inr ⟨rfl,rfl,(by rw [Z1t,hP];first|rfl|exact fin1 (by assumption)|exact fin2 (by assumption) (by assumption)|exact fin3 (by assumption))⟩))
  have hP:=(Zvr (n:=n) (ln:=ln) (L:=L) hc1 hgx).trans (Z00s hc2 hgo)
  obtain ⟨kx,hxv⟩:=Z7p hn hk hq.1 hf hP
  refine ak (aq (ar (irK 2 (.n 75 (.i s.op) .r) [7] [b2] (ic [] (Z1l s.op) ?_))))
  rintro _ _ ⟨rfl,rfl⟩
  refine Z27 [(0,.p b 0),(5,.p b2 0),(7,.i (Z9 n L.vars s)),(80,.b (Zw s.op&&((Z9 n L.vars s) != 0)))] [rV gb (L.own.set x.toNat (xo+1)),.obj b [.h ga,.h gb,.h gc,.h gd,.h ge,.h gf,nInt ln],rV ga L.vars,rV gc L.par,rV gd L.con,rV ge L.fst,rV gf L.tok,.obj b2 (Z0g s),.obj b1 (Zh n)] ?_ ?_
  ·refine ir 1 [(0,.p b 0),(5,.p b2 0),(7,.i (Z9 n L.vars s)),(77,.b (Zw s.op))] (ib (b:=Zw s.op) 77 (fun hb1=>?_) (fun hb1=>?_))
   ·have hp1:Zw s.op=true:=(Iff.rfl).1 hb1
    refine irk 3 (.n 80 (.b ((Z9 n L.vars s) != 0)) (.d (.k (.k (.k .z))))) (ie ?_)
    exact wk [0,0,0,0,0,0,0,0,0] (fr (fr (fr (fc (x:=.b ((Z9 n L.vars s) != 0)) (lb (by simp only [hb1];rfl)) fl))))
   have hp2:¬(Zw s.op=true):=Zd Iff.rfl hb1
   refine irk 3 (.n 80 (.b false) (.d (.k (.k (.k .z))))) (ie ?_)
   exact wk [0,0,0,0,0,0,0,0,0] (fr (fr (fr (fc (x:=.b false) (lb (by simp only [hb1];rfl)) fl))))
  refine ac (Zw s.op&&((Z9 n L.vars s) != 0)) (p:=(Zw s.op=true)∧((Z9 n L.vars s)≠0)) (Zk Iff.rfl bne_iff_ne) (fun hc3=>?_) (fun hc3=>?_)
  ·refine az (ir 2 [(81,.p b 0),(82,.i (Z9 n L.vars s))] (ic [1,1,0,0,0,0,0] (Z4q b ga gb gc gd ge gf (Led.mk L.vars (L.own.set x.toNat (xo+1)) L.par L.con L.fst L.tok) ln (Z9 n L.vars s) 1 (-1) (hlb:=(by rw [hxv];omega)) (hlk:=kx.len)) ?_))
   rintro _ _ ⟨wa1,wb1,wc1,wd1,we1,wf1,rfl⟩
   refine ie (ar (ir 1 [(6,.b true)] (ie ?_)))
   exact at_ (r1 [0,0,0,0,0,0,0] (.inl ⟨wa1,wb1,wc1,wd1,we1,wf1,((Led.mk L.vars (L.own.set x.toNat (xo+1)) L.par L.con L.fst L.tok).grow (Z9 n L.vars s) 1 (-1)),rfl,rfl,(by rw [Z1t,hP];first|rfl|exact fin1 (by assumption)|exact fin2 (by assumption) (by assumption)|exact fin3 (by assumption))⟩))
  refine ar (iR 2 [(0,.p b 0),(85,.i s.op)] [7] [b2] (ic [] (Z1l s.op) ?_))
  rintro _ _ ⟨rfl,rfl⟩
  refine ie (ac (Zw s.op) Iff.rfl (fun hc4=>?_) (fun hc4=>?_))
  ·refine az (ir 1 [(87,.p b 0)] (ic [1,1,0,0,0,0,0] (Z4q b ga gb gc gd ge gf (Led.mk L.vars (L.own.set x.toNat (xo+1)) L.par L.con L.fst L.tok) ln 0 0 (-1) (hlb:=(by rw [hxv];omega)) (hlk:=kx.len)) ?_))
   rintro _ _ ⟨wa2,wb2,wc2,wd2,we2,wf2,rfl⟩
   refine ie (ar (ir 1 [(6,.b true)] (ie ?_)))
   exact at_ (r1 [0,0,0,0,0,0,0] (.inl ⟨wa2,wb2,wc2,wd2,we2,wf2,((Led.mk L.vars (L.own.set x.toNat (xo+1)) L.par L.con L.fst L.tok).grow 0 0 (-1)),rfl,rfl,(by rw [Z1t,hP];first|rfl|exact fin1 (by assumption)|exact fin2 (by assumption) (by assumption)|exact fin3 (by assumption))⟩))
  refine ak (ar (ir 1 [(6,.b true)] (ie ?_)))
  exact at_ (r1 [1,1,0,0,0,0,0] (.inl ⟨ga,gb,gc,gd,ge,gf,(Led.mk L.vars (L.own.set x.toNat (xo+1)) L.par L.con L.fst L.tok),rfl,rfl,(by rw [Z1t,hP];first|rfl|exact fin1 (by assumption)|exact fin2 (by assumption) (by assumption)|exact fin3 (by assumption))⟩) (eq:=(rc (rv (xs:=L.vars) ob (rv (xs:=(L.own.set x.toNat (xo+1))) ob (rv (xs:=L.par) ob (rv (xs:=L.con) ob (rv (xs:=L.fst) ob (rv (xs:=L.tok) ob rz)))))))))
 refine ar (irk 2 (.n 50 (.b (s.op==15)) .r) (ie (ac (s.op==15) beq_iff_eq (fun hc5=>?_) (fun hc5=>?_))))
 ·obtain ⟨x,hxa⟩:=hf.one om
  have ha:s.args[0]? = some x:=by rw [hxa];rfl
  have hx:=hf.args x (by rw [hxa];simp)
  have hgx:=gI0 ha
  have hal:=(List.getElem?_eq_some_iff.1 ha).1
  refine az (irK 3 (.n 52 (.p b 0) (.n 54 (nInt s.args) .r)) [1] [b2] (is_ (Z0 (es:=Z6 s.args) (hv:=none) (j:=0) (sz:=1) (y:=.i x) kr om (Za ha) rfl) (irk 1 (.n 56 (.i x) .r) (ic [3,0,2,2,2,2,2] (Zfn b ga gb gc gd ge gf L ln x (hlk:=hk.len) (hq:=(fun y hy=>⟨hk.nn y hy,by have:=hk.bd y hy;omega⟩))) ?_))))
  rintro _ _ (⟨wa3,wb3,wc3,wd3,we3,wf3,L'1,rfl,rfl,hp3⟩|⟨rfl,rfl,hp4⟩)
  ·have hP:=(Zvs (n:=n) (ln:=ln) (L:=L) hc5 hgx).trans (hp3)
   obtain ⟨kx,hxv⟩:=Z7p hn hk hq.1 hf hP
   refine irk 1 (.n 8 (.b true) .r) (ie (aq (ar (irk 2 (.n 73 (.b false) .r) (ie (ac0 (ak (aq (ar (irK 2 (.n 75 (.i s.op) .r) [7] [b2] (ic [] (Z1l s.op) ?_)))))))))))
   rintro _ _ ⟨rfl,rfl⟩
   refine Z27 [(0,.p b 0),(5,.p b2 0),(7,.i (Z9 n L.vars s)),(80,.b (Zw s.op&&((Z9 n L.vars s) != 0)))] [.obj b [.h wa3,.h wb3,.h wc3,.h wd3,.h we3,.h wf3,nInt ln],rV wa3 L'1.vars,rV wb3 L'1.own,rV wc3 L'1.par,rV wd3 L'1.con,rV we3 L'1.fst,rV wf3 L'1.tok,.obj b2 (Z0g s),.obj b1 (Zh n)] ?_ ?_
   ·refine ir 1 [(0,.p b 0),(5,.p b2 0),(7,.i (Z9 n L.vars s)),(77,.b (Zw s.op))] (ib (b:=Zw s.op) 77 (fun hb2=>?_) (fun hb2=>?_))
    ·have hp5:Zw s.op=true:=(Iff.rfl).1 hb2
     refine irk 3 (.n 80 (.b ((Z9 n L.vars s) != 0)) (.d (.k (.k (.k .z))))) (ie ?_)
     exact wk [0,0,0,0,0,0,0,0,0] (fr (fr (fr (fc (x:=.b ((Z9 n L.vars s) != 0)) (lb (by simp only [hb2];rfl)) fl))))
    have hp6:¬(Zw s.op=true):=Zd Iff.rfl hb2
    refine irk 3 (.n 80 (.b false) (.d (.k (.k (.k .z))))) (ie ?_)
    exact wk [0,0,0,0,0,0,0,0,0] (fr (fr (fr (fc (x:=.b false) (lb (by simp only [hb2];rfl)) fl))))
   refine ac (Zw s.op&&((Z9 n L.vars s) != 0)) (p:=(Zw s.op=true)∧((Z9 n L.vars s)≠0)) (Zk Iff.rfl bne_iff_ne) (fun hc6=>?_) (fun hc6=>?_)
   ·refine az (ir 2 [(81,.p b 0),(82,.i (Z9 n L.vars s))] (ic [0,0,0,0,0,0,0] (Z4q b wa3 wb3 wc3 wd3 we3 wf3 L'1 ln (Z9 n L.vars s) 1 (-1) (hlb:=(by rw [hxv];omega)) (hlk:=kx.len)) ?_))
    rintro _ _ ⟨wa4,wb4,wc4,wd4,we4,wf4,rfl⟩
    refine ie (ar (ir 1 [(6,.b true)] (ie ?_)))
    exact at_ (r1 [0,0,0,0,0,0,0] (.inl ⟨wa4,wb4,wc4,wd4,we4,wf4,(L'1.grow (Z9 n L.vars s) 1 (-1)),rfl,rfl,(by rw [Z1t,hP];first|rfl|exact fin1 (by assumption)|exact fin2 (by assumption) (by assumption)|exact fin3 (by assumption))⟩))
   refine ar (iR 2 [(0,.p b 0),(85,.i s.op)] [7] [b2] (ic [] (Z1l s.op) ?_))
   rintro _ _ ⟨rfl,rfl⟩
   refine ie (ac (Zw s.op) Iff.rfl (fun hc7=>?_) (fun hc7=>?_))
   ·refine az (ir 1 [(87,.p b 0)] (ic [0,0,0,0,0,0,0] (Z4q b wa3 wb3 wc3 wd3 we3 wf3 L'1 ln 0 0 (-1) (hlb:=(by rw [hxv];omega)) (hlk:=kx.len)) ?_))
    rintro _ _ ⟨wa5,wb5,wc5,wd5,we5,wf5,rfl⟩
    refine ie (ar (ir 1 [(6,.b true)] (ie ?_)))
    exact at_ (r1 [0,0,0,0,0,0,0] (.inl ⟨wa5,wb5,wc5,wd5,we5,wf5,(L'1.grow 0 0 (-1)),rfl,rfl,(by rw [Z1t,hP];first|rfl|exact fin1 (by assumption)|exact fin2 (by assumption) (by assumption)|exact fin3 (by assumption))⟩))
   refine ak (ar (ir 1 [(6,.b true)] (ie ?_)))
   exact at_ (r1 [0,0,0,0,0,0,0] (.inl ⟨wa3,wb3,wc3,wd3,we3,wf3,L'1,rfl,rfl,(by rw [Z1t,hP];first|rfl|exact fin1 (by assumption)|exact fin2 (by assumption) (by assumption)|exact fin3 (by assumption))⟩))
  have hP:=(Zvs (n:=n) (ln:=ln) (L:=L) hc5 hgx).trans (hp4)
  refine irk 1 (.n 8 (.b false) .r) (ie (aq (ar (irk 2 (.n 73 (.b true) .r) (ie (ac1 (ar (ir 1 [(6,.b false)] (ie ?_)))))))))
  exact at_ (r1 [] (.inr ⟨rfl,rfl,(by rw [Z1t,hP];first|rfl|exact fin1 (by assumption)|exact fin2 (by assumption) (by assumption)|exact fin3 (by assumption))⟩))
 refine aq (ar (irk 2 (.n 58 (.b (s.op==16)) .r) (ie (Z92 (fun F h=>F=[(0,.p b 0),(4,.p b1 0),(5,.p b2 0),(7,.i (Z9 n L.vars s)),(17,.i s.op),(58,.b ((s.op==16)||(s.op==17)))]∧h=[rV ga L.vars,.obj b2 (Z0g s),.obj b1 (Zh n),.obj b [.h ga,.h gb,.h gc,.h gd,.h ge,.h gf,nInt ln],rV gb L.own,rV gc L.par,rV gd L.con,rV ge L.fst,rV gf L.tok]) ?_ ?_))))
 ·refine ac (s.op==16) beq_iff_eq (fun hc8=>?_) (fun hc8=>?_)
  ·refine ak ?_
   exact ⟨[(0,.p b 0),(4,.p b1 0),(5,.p b2 0),(7,.i (Z9 n L.vars s)),(17,.i s.op),(58,.b ((s.op==16)||(s.op==17)))],[rV ga L.vars,.obj b2 (Z0g s),.obj b1 (Zh n),.obj b [.h ga,.h gb,.h gc,.h gd,.h ge,.h gf,nInt ln],rV gb L.own,rV gc L.par,rV gd L.con,rV ge L.fst,rV gf L.tok],⟨rfl,rfl⟩,(wk [0,0,0,0,0,0,0,0,0] (fr (fr (fr (fr (fr (fc (x:=.b (s.op==16)) (lb (by first|rfl|(rw [if_pos hc8])|(rw [if_neg hc8])|(simp [hc8];done)|(rw [Bool.eq_iff_iff];simp [hc8];done)|omega)) fl)))))))⟩
  refine az (ir 2 [(0,.p b 0),(4,.p b1 0),(5,.p b2 0),(7,.i (Z9 n L.vars s)),(17,.i s.op),(58,.b (s.op==17))] (ie ?_))
  exact ⟨[(0,.p b 0),(4,.p b1 0),(5,.p b2 0),(7,.i (Z9 n L.vars s)),(17,.i s.op),(58,.b ((s.op==16)||(s.op==17)))],[rV ga L.vars,.obj b2 (Z0g s),.obj b1 (Zh n),.obj b [.h ga,.h gb,.h gc,.h gd,.h ge,.h gf,nInt ln],rV gb L.own,rV gc L.par,rV gd L.con,rV ge L.fst,rV gf L.tok],⟨rfl,rfl⟩,(wk [0,0,0,0,0,0,0,0,0] (fr (fr (fr (fr (fr (fc (x:=.b (s.op==17)) (lb (by first|rfl|(rw [if_pos hc8])|(rw [if_neg hc8])|(simp [hc8];done)|(rw [Bool.eq_iff_iff];simp [hc8];done)|omega)) fl)))))))⟩
 rintro F h ⟨rfl,rfl⟩
 refine ac ((s.op==16)||(s.op==17)) (p:=(s.op=16)∨(s.op=17)) (Zf beq_iff_eq beq_iff_eq) (fun hc9=>?_) (fun hc9=>?_)
 ·obtain ⟨x,hxa⟩:=hf.one om
  have ha:s.args[0]? = some x:=by rw [hxa];rfl
  have hx:=hf.args x (by rw [hxa];simp)
  have hgx:=gI0 ha
  have hal:=(List.getElem?_eq_some_iff.1 ha).1
  refine az (iR 3 [(0,.p b 0),(5,.p b2 0),(7,.i (Z9 n L.vars s)),(61,.p b 0),(62,Zi n),(63,Z0o s)] [2,1] [b1,b2] (ic [3,0,2,2,2,2,2] (Zyj b ga gb gc gd ge gf n s L ln q x) ?_))
  rintro _ _ (⟨wa6,wb6,wc6,wd6,we6,wf6,L'2,rfl,rfl,hp7⟩|⟨rfl,rfl,hp8⟩)
  ·have hP:=(Zvt (n:=n) (ln:=ln) (L:=L) hc9 hgx).trans (hp7)
   obtain ⟨kx,hxv⟩:=Z7p hn hk hq.1 hf hP
   refine irk 1 (.n 8 (.b true) .r) (ie (aq (ar (irk 2 (.n 73 (.b false) .r) (ie (ac0 (ak (aq (ar (irK 2 (.n 75 (.i s.op) .r) [7] [b2] (ic [] (Z1l s.op) ?_)))))))))))
   rintro _ _ ⟨rfl,rfl⟩
   refine Z27 [(0,.p b 0),(5,.p b2 0),(7,.i (Z9 n L.vars s)),(80,.b (Zw s.op&&((Z9 n L.vars s) != 0)))] [.obj b [.h wa6,.h wb6,.h wc6,.h wd6,.h we6,.h wf6,nInt ln],rV wa6 L'2.vars,rV wb6 L'2.own,rV wc6 L'2.par,rV wd6 L'2.con,rV we6 L'2.fst,rV wf6 L'2.tok,.obj b2 (Z0g s),.obj b1 (Zh n)] ?_ ?_
   ·refine ir 1 [(0,.p b 0),(5,.p b2 0),(7,.i (Z9 n L.vars s)),(77,.b (Zw s.op))] (ib (b:=Zw s.op) 77 (fun hb3=>?_) (fun hb3=>?_))
    ·have hp9:Zw s.op=true:=(Iff.rfl).1 hb3
     refine irk 3 (.n 80 (.b ((Z9 n L.vars s) != 0)) (.d (.k (.k (.k .z))))) (ie ?_)
     exact wk [0,0,0,0,0,0,0,0,0] (fr (fr (fr (fc (x:=.b ((Z9 n L.vars s) != 0)) (lb (by simp only [hb3];rfl)) fl))))
    have hp10:¬(Zw s.op=true):=Zd Iff.rfl hb3
    refine irk 3 (.n 80 (.b false) (.d (.k (.k (.k .z))))) (ie ?_)
    exact wk [0,0,0,0,0,0,0,0,0] (fr (fr (fr (fc (x:=.b false) (lb (by simp only [hb3];rfl)) fl))))
   refine ac (Zw s.op&&((Z9 n L.vars s) != 0)) (p:=(Zw s.op=true)∧((Z9 n L.vars s)≠0)) (Zk Iff.rfl bne_iff_ne) (fun hc10=>?_) (fun hc10=>?_)
   ·refine az (ir 2 [(81,.p b 0),(82,.i (Z9 n L.vars s))] (ic [0,0,0,0,0,0,0] (Z4q b wa6 wb6 wc6 wd6 we6 wf6 L'2 ln (Z9 n L.vars s) 1 (-1) (hlb:=(by rw [hxv];omega)) (hlk:=kx.len)) ?_))
    rintro _ _ ⟨wa7,wb7,wc7,wd7,we7,wf7,rfl⟩
    refine ie (ar (ir 1 [(6,.b true)] (ie ?_)))
    exact at_ (r1 [0,0,0,0,0,0,0] (.inl ⟨wa7,wb7,wc7,wd7,we7,wf7,(L'2.grow (Z9 n L.vars s) 1 (-1)),rfl,rfl,(by rw [Z1t,hP];first|rfl|exact fin1 (by assumption)|exact fin2 (by assumption) (by assumption)|exact fin3 (by assumption))⟩))
   refine ar (iR 2 [(0,.p b 0),(85,.i s.op)] [7] [b2] (ic [] (Z1l s.op) ?_))
   rintro _ _ ⟨rfl,rfl⟩
   refine ie (ac (Zw s.op) Iff.rfl (fun hc11=>?_) (fun hc11=>?_))
   ·refine az (ir 1 [(87,.p b 0)] (ic [0,0,0,0,0,0,0] (Z4q b wa6 wb6 wc6 wd6 we6 wf6 L'2 ln 0 0 (-1) (hlb:=(by rw [hxv];omega)) (hlk:=kx.len)) ?_))
    rintro _ _ ⟨wa8,wb8,wc8,wd8,we8,wf8,rfl⟩
    refine ie (ar (ir 1 [(6,.b true)] (ie ?_)))
    exact at_ (r1 [0,0,0,0,0,0,0] (.inl ⟨wa8,wb8,wc8,wd8,we8,wf8,(L'2.grow 0 0 (-1)),rfl,rfl,(by rw [Z1t,hP];first|rfl|exact fin1 (by assumption)|exact fin2 (by assumption) (by assumption)|exact fin3 (by assumption))⟩))
   refine ak (ar (ir 1 [(6,.b true)] (ie ?_)))
   exact at_ (r1 [0,0,0,0,0,0,0] (.inl ⟨wa6,wb6,wc6,wd6,we6,wf6,L'2,rfl,rfl,(by rw [Z1t,hP];first|rfl|exact fin1 (by assumption)|exact fin2 (by assumption) (by assumption)|exact fin3 (by assumption))⟩))
  have hP:=(Zvt (n:=n) (ln:=ln) (L:=L) hc9 hgx).trans (hp8)
  refine irk 1 (.n 8 (.b false) .r) (ie (aq (ar (irk 2 (.n 73 (.b true) .r) (ie (ac1 (ar (ir 1 [(6,.b false)] (ie ?_)))))))))
  exact at_ (r1 [] (.inr ⟨rfl,rfl,(by rw [Z1t,hP];first|rfl|exact fin1 (by assumption)|exact fin2 (by assumption) (by assumption)|exact fin3 (by assumption))⟩))
 refine aq (ar (ir 2 [(0,.p b 0),(4,.p b1 0),(5,.p b2 0),(7,.i (Z9 n L.vars s)),(17,.i s.op),(65,.b (s.op==7))] (ie (Z92 (fun F h=>F=[(0,.p b 0),(4,.p b1 0),(5,.p b2 0),(7,.i (Z9 n L.vars s)),(65,.b ((s.op==7)||(s.op==8)))]∧h=[rV ga L.vars,.obj b2 (Z0g s),.obj b1 (Zh n),.obj b [.h ga,.h gb,.h gc,.h gd,.h ge,.h gf,nInt ln],rV gb L.own,rV gc L.par,rV gd L.con,rV ge L.fst,rV gf L.tok]) ?_ ?_))))
 ·refine ac (s.op==7) beq_iff_eq (fun hc12=>?_) (fun hc12=>?_)
  ·refine ak ?_
   exact ⟨[(0,.p b 0),(4,.p b1 0),(5,.p b2 0),(7,.i (Z9 n L.vars s)),(65,.b ((s.op==7)||(s.op==8)))],[rV ga L.vars,.obj b2 (Z0g s),.obj b1 (Zh n),.obj b [.h ga,.h gb,.h gc,.h gd,.h ge,.h gf,nInt ln],rV gb L.own,rV gc L.par,rV gd L.con,rV ge L.fst,rV gf L.tok],⟨rfl,rfl⟩,(wk [0,0,0,0,0,0,0,0,0] (fr (fr (fr (fr (fc (x:=.b (s.op==7)) (lb (by first|rfl|(rw [if_pos hc12])|(rw [if_neg hc12])|(simp [hc12];done)|(rw [Bool.eq_iff_iff];simp [hc12];done)|omega)) fl))))))⟩
  refine az (ir 2 [(0,.p b 0),(4,.p b1 0),(5,.p b2 0),(7,.i (Z9 n L.vars s)),(65,.b (s.op==8))] (ie ?_))
  exact ⟨[(0,.p b 0),(4,.p b1 0),(5,.p b2 0),(7,.i (Z9 n L.vars s)),(65,.b ((s.op==7)||(s.op==8)))],[rV ga L.vars,.obj b2 (Z0g s),.obj b1 (Zh n),.obj b [.h ga,.h gb,.h gc,.h gd,.h ge,.h gf,nInt ln],rV gb L.own,rV gc L.par,rV gd L.con,rV ge L.fst,rV gf L.tok],⟨rfl,rfl⟩,(wk [0,0,0,0,0,0,0,0,0] (fr (fr (fr (fr (fc (x:=.b (s.op==8)) (lb (by first|rfl|(rw [if_pos hc12])|(rw [if_neg hc12])|(simp [hc12];done)|(rw [Bool.eq_iff_iff];simp [hc12];done)|omega)) fl))))))⟩
 rintro F h ⟨rfl,rfl⟩
 refine ac ((s.op==7)||(s.op==8)) (p:=(s.op=7)∨(s.op=8)) (Zf beq_iff_eq beq_iff_eq) (fun hc13=>?_) (fun hc13=>?_)
 ·refine az (iR 3 [(0,.p b 0),(5,.p b2 0),(7,.i (Z9 n L.vars s)),(68,.p b 0),(69,Zi n),(70,Z0o s)] [2,1] [b1,b2] (ic [3,0,2,2,2,2,2] (Zrx b ga gb gc gd ge gf n s L ln q (ih:=ob)) ?_))
  rintro _ _ (⟨wa9,wb9,wc9,wd9,we9,wf9,L'3,rfl,rfl,hp11⟩|⟨rfl,rfl,hp12⟩)
  ·have hP:=(Zyw (n:=n) (ln:=ln) (L:=L) hc13).trans (hp11)
   obtain ⟨kx,hxv⟩:=Z7p hn hk hq.1 hf hP
   refine irk 1 (.n 8 (.b true) .r) (ie (aq (ar (irk 2 (.n 73 (.b false) .r) (ie (ac0 (ak (aq (ar (irK 2 (.n 75 (.i s.op) .r) [7] [b2] (ic [] (Z1l s.op) ?_)))))))))))
   rintro _ _ ⟨rfl,rfl⟩
   refine Z27 [(0,.p b 0),(5,.p b2 0),(7,.i (Z9 n L.vars s)),(80,.b (Zw s.op&&((Z9 n L.vars s) != 0)))] [.obj b [.h wa9,.h wb9,.h wc9,.h wd9,.h we9,.h wf9,nInt ln],rV wa9 L'3.vars,rV wb9 L'3.own,rV wc9 L'3.par,rV wd9 L'3.con,rV we9 L'3.fst,rV wf9 L'3.tok,.obj b2 (Z0g s),.obj b1 (Zh n)] ?_ ?_
   ·refine ir 1 [(0,.p b 0),(5,.p b2 0),(7,.i (Z9 n L.vars s)),(77,.b (Zw s.op))] (ib (b:=Zw s.op) 77 (fun hb4=>?_) (fun hb4=>?_))
    ·have hp13:Zw s.op=true:=(Iff.rfl).1 hb4
     refine irk 3 (.n 80 (.b ((Z9 n L.vars s) != 0)) (.d (.k (.k (.k .z))))) (ie ?_)
     exact wk [0,0,0,0,0,0,0,0,0] (fr (fr (fr (fc (x:=.b ((Z9 n L.vars s) != 0)) (lb (by simp only [hb4];rfl)) fl))))
    have hp14:¬(Zw s.op=true):=Zd Iff.rfl hb4
    refine irk 3 (.n 80 (.b false) (.d (.k (.k (.k .z))))) (ie ?_)
    exact wk [0,0,0,0,0,0,0,0,0] (fr (fr (fr (fc (x:=.b false) (lb (by simp only [hb4];rfl)) fl))))
   refine ac (Zw s.op&&((Z9 n L.vars s) != 0)) (p:=(Zw s.op=true)∧((Z9 n L.vars s)≠0)) (Zk Iff.rfl bne_iff_ne) (fun hc14=>?_) (fun hc14=>?_)
   ·refine az (ir 2 [(81,.p b 0),(82,.i (Z9 n L.vars s))] (ic [0,0,0,0,0,0,0] (Z4q b wa9 wb9 wc9 wd9 we9 wf9 L'3 ln (Z9 n L.vars s) 1 (-1) (hlb:=(by rw [hxv];omega)) (hlk:=kx.len)) ?_))
    rintro _ _ ⟨wa10,wb10,wc10,wd10,we10,wf10,rfl⟩
    refine ie (ar (ir 1 [(6,.b true)] (ie ?_)))
    exact at_ (r1 [0,0,0,0,0,0,0] (.inl ⟨wa10,wb10,wc10,wd10,we10,wf10,(L'3.grow (Z9 n L.vars s) 1 (-1)),rfl,rfl,(by rw [Z1t,hP];first|rfl|exact fin1 (by assumption)|exact fin2 (by assumption) (by assumption)|exact fin3 (by assumption))⟩))
   refine ar (iR 2 [(0,.p b 0),(85,.i s.op)] [7] [b2] (ic [] (Z1l s.op) ?_))
   rintro _ _ ⟨rfl,rfl⟩
   refine ie (ac (Zw s.op) Iff.rfl (fun hc15=>?_) (fun hc15=>?_))
   ·refine az (ir 1 [(87,.p b 0)] (ic [0,0,0,0,0,0,0] (Z4q b wa9 wb9 wc9 wd9 we9 wf9 L'3 ln 0 0 (-1) (hlb:=(by rw [hxv];omega)) (hlk:=kx.len)) ?_))
    rintro _ _ ⟨wa11,wb11,wc11,wd11,we11,wf11,rfl⟩
    refine ie (ar (ir 1 [(6,.b true)] (ie ?_)))
    exact at_ (r1 [0,0,0,0,0,0,0] (.inl ⟨wa11,wb11,wc11,wd11,we11,wf11,(L'3.grow 0 0 (-1)),rfl,rfl,(by rw [Z1t,hP];first|rfl|exact fin1 (by assumption)|exact fin2 (by assumption) (by assumption)|exact fin3 (by assumption))⟩))
   refine ak (ar (ir 1 [(6,.b true)] (ie ?_)))
   exact at_ (r1 [0,0,0,0,0,0,0] (.inl ⟨wa9,wb9,wc9,wd9,we9,wf9,L'3,rfl,rfl,(by rw [Z1t,hP];first|rfl|exact fin1 (by assumption)|exact fin2 (by assumption) (by assumption)|exact fin3 (by assumption))⟩))
  have hP:=(Zyw (n:=n) (ln:=ln) (L:=L) hc13).trans (hp12)
  refine irk 1 (.n 8 (.b false) .r) (ie (aq (ar (irk 2 (.n 73 (.b true) .r) (ie (ac1 (ar (ir 1 [(6,.b false)] (ie ?_)))))))))
  exact at_ (r1 [] (.inr ⟨rfl,rfl,(by rw [Z1t,hP];first|rfl|exact fin1 (by assumption)|exact fin2 (by assumption) (by assumption)|exact fin3 (by assumption))⟩))
 refine az (iR 3 [(0,.p b 0),(5,.p b2 0),(7,.i (Z9 n L.vars s)),(18,.p b 0),(19,Zi n),(20,Z0o s)] [2,1] [b1,b2] (ic [3,0,2,2,2,2,2] (Zm9 b ga gb gc gd ge gf n s L ln q (hnum:=hf.num) (hargs:=hf.args) (hinto:=(fun q=>(hf.into om).2))) ?_))
 rintro _ _ (⟨wa12,wb12,wc12,wd12,we12,wf12,L'4,rfl,rfl,hp15⟩|⟨rfl,rfl,hp16⟩)
 ·have hP:=(Z049 (n:=n) (ln:=ln) (L:=L) hc1 hc5 hc9 hc13).trans (hp15)
  obtain ⟨kx,hxv⟩:=Z7p hn hk hq.1 hf hP
  refine irk 1 (.n 8 (.b true) .r) (ie (aq (ar (irk 2 (.n 73 (.b false) .r) (ie (ac0 (ak (aq (ar (irK 2 (.n 75 (.i s.op) .r) [7] [b2] (ic [] (Z1l s.op) ?_)))))))))))
  rintro _ _ ⟨rfl,rfl⟩
  refine Z27 [(0,.p b 0),(5,.p b2 0),(7,.i (Z9 n L.vars s)),(80,.b (Zw s.op&&((Z9 n L.vars s) != 0)))] [.obj b [.h wa12,.h wb12,.h wc12,.h wd12,.h we12,.h wf12,nInt ln],rV wa12 L'4.vars,rV wb12 L'4.own,rV wc12 L'4.par,rV wd12 L'4.con,rV we12 L'4.fst,rV wf12 L'4.tok,.obj b2 (Z0g s),.obj b1 (Zh n)] ?_ ?_
  ·refine ir 1 [(0,.p b 0),(5,.p b2 0),(7,.i (Z9 n L.vars s)),(77,.b (Zw s.op))] (ib (b:=Zw s.op) 77 (fun hb5=>?_) (fun hb5=>?_))
   ·have hp17:Zw s.op=true:=(Iff.rfl).1 hb5
    refine irk 3 (.n 80 (.b ((Z9 n L.vars s) != 0)) (.d (.k (.k (.k .z))))) (ie ?_)
    exact wk [0,0,0,0,0,0,0,0,0] (fr (fr (fr (fc (x:=.b ((Z9 n L.vars s) != 0)) (lb (by simp only [hb5];rfl)) fl))))
   have hp18:¬(Zw s.op=true):=Zd Iff.rfl hb5
   refine irk 3 (.n 80 (.b false) (.d (.k (.k (.k .z))))) (ie ?_)
   exact wk [0,0,0,0,0,0,0,0,0] (fr (fr (fr (fc (x:=.b false) (lb (by simp only [hb5];rfl)) fl))))
  refine ac (Zw s.op&&((Z9 n L.vars s) != 0)) (p:=(Zw s.op=true)∧((Z9 n L.vars s)≠0)) (Zk Iff.rfl bne_iff_ne) (fun hc16=>?_) (fun hc16=>?_)
  ·refine az (ir 2 [(81,.p b 0),(82,.i (Z9 n L.vars s))] (ic [0,0,0,0,0,0,0] (Z4q b wa12 wb12 wc12 wd12 we12 wf12 L'4 ln (Z9 n L.vars s) 1 (-1) (hlb:=(by rw [hxv];omega)) (hlk:=kx.len)) ?_))
   rintro _ _ ⟨wa13,wb13,wc13,wd13,we13,wf13,rfl⟩
   refine ie (ar (ir 1 [(6,.b true)] (ie ?_)))
   exact at_ (r1 [0,0,0,0,0,0,0] (.inl ⟨wa13,wb13,wc13,wd13,we13,wf13,(L'4.grow (Z9 n L.vars s) 1 (-1)),rfl,rfl,(by rw [Z1t,hP];first|rfl|exact fin1 (by assumption)|exact fin2 (by assumption) (by assumption)|exact fin3 (by assumption))⟩))
  refine ar (iR 2 [(0,.p b 0),(85,.i s.op)] [7] [b2] (ic [] (Z1l s.op) ?_))
  rintro _ _ ⟨rfl,rfl⟩
  refine ie (ac (Zw s.op) Iff.rfl (fun hc17=>?_) (fun hc17=>?_))
  ·refine az (ir 1 [(87,.p b 0)] (ic [0,0,0,0,0,0,0] (Z4q b wa12 wb12 wc12 wd12 we12 wf12 L'4 ln 0 0 (-1) (hlb:=(by rw [hxv];omega)) (hlk:=kx.len)) ?_))
   rintro _ _ ⟨wa14,wb14,wc14,wd14,we14,wf14,rfl⟩
   refine ie (ar (ir 1 [(6,.b true)] (ie ?_)))
   exact at_ (r1 [0,0,0,0,0,0,0] (.inl ⟨wa14,wb14,wc14,wd14,we14,wf14,(L'4.grow 0 0 (-1)),rfl,rfl,(by rw [Z1t,hP];first|rfl|exact fin1 (by assumption)|exact fin2 (by assumption) (by assumption)|exact fin3 (by assumption))⟩))
  refine ak (ar (ir 1 [(6,.b true)] (ie ?_)))
  exact at_ (r1 [0,0,0,0,0,0,0] (.inl ⟨wa12,wb12,wc12,wd12,we12,wf12,L'4,rfl,rfl,(by rw [Z1t,hP];first|rfl|exact fin1 (by assumption)|exact fin2 (by assumption) (by assumption)|exact fin3 (by assumption))⟩))
 have hP:=(Z049 (n:=n) (ln:=ln) (L:=L) hc1 hc5 hc9 hc13).trans (hp16)
 refine irk 1 (.n 8 (.b false) .r) (ie (aq (ar (irk 2 (.n 73 (.b true) .r) (ie (ac1 (ar (ir 1 [(6,.b false)] (ie ?_)))))))))
 exact at_ (r1 [] (.inr ⟨rfl,rfl,(by rw [Z1t,hP];first|rfl|exact fin1 (by assumption)|exact fin2 (by assumption) (by assumption)|exact fin3 (by assumption))⟩))
theorem Zrw (c:Nat) (ga:Hd) (gb:Hd) (gc:Hd) (gd:Hd) (ge:Hd) (gf:Hd) (n:Normal) (b:Block) (L:Led) (ln:List Int) (q:Int) (mm:Nat) (hn:NOk n) (hk:LOk n.decls L q) (ht:0≤Zg n L.vars b) (hm:mm≤L.vars.length) (hb:L.vars.length+4*b.sz≤1000000000) (hq:0≤q∧q+4*b.sz≤999999990) (hln:ln.length≤4294967296) (ih:∀(s2:Step) (c:Nat) (ra:Hd) (rb:Hd) (rc:Hd) (rd:Hd) (re:Hd) (rf:Hd) (M:Led) (p:Int),(s2.sz<b.sz)→(LOk n.decls M p)→(0≤Z9 n M.vars s2)→(M.vars.length+4*s2.sz≤1000000000)→(0≤p∧p+4*s2.sz≤999999990)→Z3 Tryz.prog 149 [.p c 0,Zi n,Z0o s2] [.obj c [.h ra,.h rb,.h rc,.h rd,.h re,.h rf,nInt ln],rV ra M.vars,rV rb M.own,rV rc M.par,rV rd M.con,rV re M.fst,rV rf M.tok] (fun r h=>(∃(wa:Hd) (wb:Hd) (wc:Hd) (wd:Hd) (we:Hd) (wf:Hd) (M':Led),r=.b true∧h=[.obj c [.h wa,.h wb,.h wc,.h wd,.h we,.h wf,nInt ln],rV wa M'.vars,rV wb M'.own,rV wc M'.par,rV wd M'.con,rV we M'.fst,rV wf M'.tok]∧Z8g n ln M s2=some M')∨(r=.b false∧h=[]∧Z8g n ln M s2=none))):Z3 Tryz.prog 100 [.p c 0,Zi n,Zj b,.i mm] [.obj c [.h ga,.h gb,.h gc,.h gd,.h ge,.h gf,nInt ln],rV ga L.vars,rV gb L.own,rV gc L.par,rV gd L.con,rV ge L.fst,rV gf L.tok] (fun r h=>(∃(wa:Hd) (wb:Hd) (wc:Hd) (wd:Hd) (we:Hd) (wf:Hd) (L':Led),r=.b true∧h=[.obj c [.h wa,.h wb,.h wc,.h wd,.h we,.h wf,nInt ln],rV wa L'.vars,rV wb L'.own,rV wc L'.par,rV wd L'.con,rV we L'.fst,rV wf L'.tok]∧Z3b n ln L mm b=some L')∨(r=.b false∧h=[]∧Z3b n ln L mm b=none)):=by
 have hbz:=b.sz_eq
 obtain ⟨vs,rt,hvs,hres,hrt⟩:=Z73 ht
 have hri:=Z4u hres
 have hsz:=Z6v b
 refine enter Tryz.func100 kr (n:=45) kr kr (ar (iA (Zh n) ?_))
 intro b1
 refine iA (Z0l b) ?_
 intro b2
 refine ir 1 [(0,.p c 0),(3,.i mm),(5,.p b1 0),(6,.p b2 0)] (ie (aq (ar (irk 1 (.n 9 (.i 0) .r) (ie (ab 0 (al (fun m F h=>∃(k:Nat) (q2:Int) (L2:Led) (ka:Hd) (kb:Hd) (kc:Hd) (kd:Hd) (ke:Hd) (kf:Hd),(k≤b.steps.length)∧(LOk n.decls L2 q2)∧(0≤q2∧q2+4*ssz (b.steps.drop k)≤999999990)∧(L2.vars.length+4*ssz (b.steps.drop k)≤1000000000)∧(Z11 n (b.steps.drop k) L2.vars=some vs)∧(Z3d n ln L2 (b.steps.drop k)=Z3d n ln L b.steps)∧(L.vars.length≤L2.vars.length)∧F=[(0,.p c 0),(3,.i mm),(5,.p b1 0),(6,.p b2 0),(9,.i k)]∧h=[.obj b2 (Z0l b),.obj b1 (Zh n),.obj c [.h ka,.h kb,.h kc,.h kd,.h ke,.h kf,nInt ln],rV ka L2.vars,rV kb L2.own,rV kc L2.par,rV kd L2.con,rV ke L2.fst,rV kf L2.tok]∧m=b.steps.length-k) _ _ _ ⟨0,q,L,ga,gb,gc,gd,ge,gf,ob,hk,(by rw [List.drop_zero];omega),(by rw [List.drop_zero];omega),hvs,rfl,om,rfl,rfl,rfl⟩ (wk [0,0,0,0,0,0,0,0,0] (fr (fr (fr (fr (fc (x:=.i 0) li fl)))))) ?_)))))))
 rintro m F h ⟨k,q2,L2,ka,kb,kc,kd,ke,kf,c0_0,c0_1,c0_2,c0_3,c0_4,c0_5,c0_6,rfl,rfl,rfl⟩
 refine aq (ar (irK 3 (.n 10 (.i k) (.n 12 (Z0h b.steps) .r)) [0] [b2] (io (.i b.steps.length) (.i (((Zu b.steps).length:Nat):Int)) (li (by rw [Z0w])) (irk 1 (.n 14 (.b (decide ((k:Int)<(b.steps.length:Int)))) .r) (ie (ac (decide ((k:Int)<(b.steps.length:Int))) dq (fun hc1=>?_) (fun hc1=>?_)))))))
 ·obtain ⟨s1,hs1⟩:=Z8 (xs:=b.steps) (j:=k) om
  have hss:=Zoy hs1
  have hdr:=Z7 hs1
  have hz:ssz (b.steps.drop k)=s1.sz+ssz (b.steps.drop (k+1)):=by rw [hdr,ssz]
  rw [hdr] at c0_4 c0_5
  obtain ⟨g1,g2⟩:=Z8h c0_4
  refine ak (aq (ab 1 (aD 9 (dtK (fuel:=4) 9 [0,1,2,3,4] (.n 17 (.p c 0) (.n 18 (Zi n) (.n 20 (Z0h b.steps) (.n 21 (.i k) .r)))) [1,0] [b1,b2] (dx 5 (Z0 (es:=Zu b.steps) (hv:=none) (j:=(k:Int)) (sz:=5) (y:=Z0o s1) kr om (Z1r hs1) rfl) (dtk (fuel:=2) 3 [6] (.n 23 (Z0o s1) .r) (do_ 7 (dc 7 [2,2,2,2,2,2,2] [] [] (ih s1 c ka kb kc kd ke kf L2 q2 ob c0_1 g1 om om) ?_))))))))
  rintro _ _ (⟨wa1,wb1,wc1,wd1,we1,wf1,M'1,rfl,rfl,hp1⟩|⟨rfl,rfl,hp2⟩)
  ·have hP:=hp1
   have kx:=Zl0 hn c0_1 c0_2.1 g1 hP
   refine dtk (fuel:=0) 1 [8] (.n 25 (.b false) .r) (de (ac0 (ak (az (irk 1 (.n 15 (.i k) .r) (ia (((k+1:Nat):Int)) (((k:Int))+(1)) (ir 1 [(0,.p c 0),(3,.i mm),(5,.p b1 0),(6,.p b2 0),(9,.i (k+1:Nat))] (ie ?_))))))))
   exact ⟨_,_,_,ob,⟨k+1,(q2+4*s1.sz),M'1,wa1,wb1,wc1,wd1,we1,wf1,ob,kx.1,om,(by rw [kx.2];have:=Zcv n L2.vars s1;omega),(by rw [kx.2];exact g2),(by rw [←c0_5,Z3d,hP];rfl),(by rw [kx.2];have:=Zcv n L2.vars s1;omega),rfl,rfl,rfl⟩,(wk [7,7,0,0,0,0,0,0,0] (fr (fr (fr (fr (fc (x:=.i (k+1:Nat)) li fl))))))⟩
  have hP:=hp2
  refine dtk (fuel:=0) 1 [8] (.n 25 (.b true) .r) (de (ac1 (ar (ir 1 [(8,.b false)] (ie ?_)))))
  exact at_ (r1 [] (.inr ⟨rfl,rfl,(by rw [Z4f,←c0_5,Z3d,hP];rfl)⟩))
 rw [Zs om] at c0_4 c0_5
 have hvv:L2.vars=vs:=by rw [Z11] at c0_4;exact Option.some.inj c0_4
 have hB:Z3b n ln L mm b=endL mm b.result L2:=by rw [Z4f,←c0_5,Z3d];rfl
 obtain ⟨xr,hxr⟩:=Z8 (xs:=L2.vars) (j:=b.result.toNat) (by rw [hvv];omega)
 have hgr:=Z68 hxr
 have hrl:0≤b.result∧b.result<L2.vars.length:=by rw [hvv];omega
 rw [Z11] at c0_4
 refine ax 0 (aq (aD 16 (dtK (fuel:=10) 16 [0,1,2,3,4,5] (.n 29 (.h ka) (.n 31 (.i b.result) .r)) [2,0] [c,b2] (dx 6 (vIdx 3 ka L2.vars b.result b.result.toNat (hq:=rfl)) (dx_ 7 (vGet 3 ka L2.vars b.result.toNat xr hxr) (dtk (fuel:=6) 8 [8,9] (.n 35 (.b (xr != 0)) .r) (db (b:=(xr != 0)) 35 (fun hb1=>?_) (fun hb1=>?_))))))))
 ·have hp3:xr≠0:=(bne_iff_ne).1 hb1
  refine dtK (fuel:=3) 6 [10,11,12] (.n 36 (.p c 0) (.n 38 (.i b.result) (.k (.d .r)))) [0] [b2] (do_ 13 (dc 13 [2,2,2,2,2,2,2] [] [] (Zfn c ka kb kc kd ke kf L2 ln b.result (hlk:=c0_1.len) (hq:=(fun y hy=>⟨c0_1.nn y hy,by have:=c0_1.bd y hy;omega⟩))) ?_))
  rintro _ _ (⟨wa2,wb2,wc2,wd2,we2,wf2,L'1,rfl,rfl,hp4⟩|⟨rfl,rfl,hp5⟩)
  ·have hE:=hB.trans (Z00u hgr (by assumption) hp4)
   have kx:=c0_1.take hp4
   have hxv:L'1.vars.length=L2.vars.length:=by rw [(Z35 hp4).2.1]
   refine dtk (fuel:=0) 2 [14,15] (.n 41 (.b false) .r) (de (ac0 (ak (ar (ir 2 [(42,.p c 0),(43,.i mm)] (ic [0,0,0,0,0,0,0] (Zog c wa2 wb2 wc2 wd2 we2 wf2 L'1 ln mm (hlk:=(by first|exact kx.len|exact c0_1.len)) (hlb:=om) (hm:=om)) ?_))))))
   rintro _ _ (⟨wa3,wb3,wc3,wd3,we3,wf3,L'2,rfl,rfl,hp6⟩|⟨rfl,rfl,hp7⟩)
   ·refine ir 1 [(8,.b true)] (ie ?_)
    exact at_ (r1 [0,0,0,0,0,0,0] (.inl ⟨wa3,wb3,wc3,wd3,we3,wf3,L'2,rfl,rfl,(by first|exact hE|(rw [hE];exact hp6)|(rw [hB,Zls hgr (by assumption)];exact hp6))⟩))
   refine ir 1 [(8,.b false)] (ie ?_)
   exact at_ (r1 [] (.inr ⟨rfl,rfl,(by first|exact hE|(rw [hE];exact hp7)|(rw [hB,Zls hgr (by assumption)];exact hp7))⟩))
  have hE:=hB.trans (Zy1 hgr (by assumption) hp5)
  refine dtk (fuel:=0) 2 [14,15] (.n 41 (.b true) .r) (de (ac1 (ar (ir 1 [(8,.b false)] (ie ?_)))))
  exact at_ (r1 [] (.inr ⟨rfl,rfl,(by first|exact hE|(rw [hE];exact hp5)|(rw [hB,Zls hgr (by assumption)];exact hp5))⟩))
 have hp8:¬(xr≠0):=Zd bne_iff_ne hb1
 refine dtk (fuel:=0) 6 [10,11,12,13,14,15] (.n 41 (.b false) (.k (.d .r))) (de (ac0 (ak (ar (ir 2 [(42,.p c 0),(43,.i mm)] (ic [2,2,2,2,2,2,2] (Zog c ka kb kc kd ke kf L2 ln mm (hlk:=(by first|exact kx.len|exact c0_1.len)) (hlb:=om) (hm:=om)) ?_))))))
 rintro _ _ (⟨wa4,wb4,wc4,wd4,we4,wf4,L'3,rfl,rfl,hp9⟩|⟨rfl,rfl,hp10⟩)
 ·refine ir 1 [(8,.b true)] (ie ?_)
  exact at_ (r1 [0,0,0,0,0,0,0] (.inl ⟨wa4,wb4,wc4,wd4,we4,wf4,L'3,rfl,rfl,(by first|exact hE|(rw [hE];exact hp9)|(rw [hB,Zls hgr (by assumption)];exact hp9))⟩))
 refine ir 1 [(8,.b false)] (ie ?_)
 exact at_ (r1 [] (.inr ⟨rfl,rfl,(by first|exact hE|(rw [hE];exact hp10)|(rw [hB,Zls hgr (by assumption)];exact hp10))⟩))
end Go.Abs
end
section
namespace Go.Abs
open Go.Proofs
theorem Zk9 (n:Normal) (ln:List Int) (hn:NOk n) (hln:ln.length≤4294967296) (m:Nat):∀(b2:Block) (c:Nat) (ra:Hd) (rb:Hd) (rc:Hd) (rd:Hd) (re:Hd) (rf:Hd) (M:Led) (mm:Nat) (p:Int),(b2.sz<m+1)→(LOk n.decls M p)→(0≤Zg n M.vars b2)→(mm≤M.vars.length)→(M.vars.length+4*b2.sz≤1000000000)→(0≤p∧p+4*b2.sz≤999999990)→Z3 Tryz.prog 100 [.p c 0,Zi n,Zj b2,.i mm] [.obj c [.h ra,.h rb,.h rc,.h rd,.h re,.h rf,nInt ln],rV ra M.vars,rV rb M.own,rV rc M.par,rV rd M.con,rV re M.fst,rV rf M.tok] (fun r h=>(∃(wa:Hd) (wb:Hd) (wc:Hd) (wd:Hd) (we:Hd) (wf:Hd) (M':Led),r=.b true∧h=[.obj c [.h wa,.h wb,.h wc,.h wd,.h we,.h wf,nInt ln],rV wa M'.vars,rV wb M'.own,rV wc M'.par,rV wd M'.con,rV we M'.fst,rV wf M'.tok]∧Z3b n ln M mm b2=some M')∨(r=.b false∧h=[]∧Z3b n ln M mm b2=none)):=by
 induction m with
 | zero=>intro b c ga gb gc gd ge gf L mm q h;have:=b.sz_pos;omega
 | succ m ih=>
  intro b c ga gb gc gd ge gf L mm q h1 hk ht hm hb hp
  exact Zrw c ga gb gc gd ge gf n b L ln q mm hn hk ht hm hb hp hln fun s c ga gb gc gd ge gf L q h2 hk ht hb hp=>Zv7 c ga gb gc gd ge gf n s L ln q hn hk ht hb hp hln
   fun b2 c ga gb gc gd ge gf L mm q h3 hk ht hm hb hp=>ih b2 c ga gb gc gd ge gf L mm q om hk ht hm hb hp
theorem Zv5 (c:Nat) (ra:Hd) (rb:Hd) (rc:Hd) (rd:Hd) (re:Hd) (rf:Hd) (n:Normal) (b2:Block) (M:Led) (ln:List Int) (mm:Nat) (p:Int) (hn:NOk n) (hln:ln.length≤4294967296) (hk:LOk n.decls M p) (ht:0≤Zg n M.vars b2) (hm:mm≤M.vars.length) (hb:M.vars.length+4*b2.sz≤1000000000) (hp:0≤p∧p+4*b2.sz≤999999990):Z3 Tryz.prog 100 [.p c 0,Zi n,Zj b2,.i mm] [.obj c [.h ra,.h rb,.h rc,.h rd,.h re,.h rf,nInt ln],rV ra M.vars,rV rb M.own,rV rc M.par,rV rd M.con,rV re M.fst,rV rf M.tok] (fun r h=>(∃(wa:Hd) (wb:Hd) (wc:Hd) (wd:Hd) (we:Hd) (wf:Hd) (M':Led),r=.b true∧h=[.obj c [.h wa,.h wb,.h wc,.h wd,.h we,.h wf,nInt ln],rV wa M'.vars,rV wb M'.own,rV wc M'.par,rV wd M'.con,rV we M'.fst,rV wf M'.tok]∧Z3b n ln M mm b2=some M')∨(r=.b false∧h=[]∧Z3b n ln M mm b2=none)):=Zk9 n ln hn hln b2.sz b2 c ra rb rc rd re rf M mm p om hk ht hm hb hp
theorem Ze6 (rt:Routine) (hp:rt.params.length≤1000000:=by exact ob) (hl:rt.lent.length≤4294967296:=by exact ob):Z3 Tryz.prog 99 [Z0n rt] [] (fun r h=>∃(c:Nat) (wa:Hd) (wb:Hd) (wc:Hd) (wd:Hd) (we:Hd) (wf:Hd),r=.p c 0∧h=[.obj c [.h wa,.h wb,.h wc,.h wd,.h we,.h wf,nInt rt.lent],rV wa ((newL rt).vars),rV wb ((newL rt).own),rV wc ((newL rt).par),rV wd ((newL rt).con),rV we ((newL rt).fst),rV wf ((newL rt).tok)]):=by
 refine enter Tryz.func99 kr (n:=45) kr kr (ar (iA (Z1m rt) ?_))
 intro b1
 refine ir 1 [(1,.p b1 0)] (ie (ar (irK 2 (.n 6 (nInt rt.lent) .r) [0] [b1] (ic [] (Z2o rt.lent) ?_))))
 rintro _ _ ⟨v1,rfl,rfl⟩
 refine irk 1 (.n 8 (.agg [nl,nl,nl,nl,nl,nl,nInt rt.lent]) .r) (iA [nl,nl,nl,nl,nl,nl,nInt rt.lent] ?_)
 intro b2
 refine Z5c (Zqs 0 b2 [nl,nl,nl,nl,nl,nl,nInt rt.lent] [.h hN,.h hN,.h hN,.h hN,.h hN,.h hN,nInt rt.lent] (.cons (AVLe.hd (v:=hN)) (.cons (AVLe.hd (v:=hN)) (.cons (AVLe.hd (v:=hN)) (.cons (AVLe.hd (v:=hN)) (.cons (AVLe.hd (v:=hN)) (.cons (AVLe.hd (v:=hN)) (.cons (lr _) .nil)))))))) (Z5c (tNil) (Z5c (tNil) (Z5c (tNil) (Z5c (tNil) (Z5c (tNil) (Z5c (tNil) (irk 1 (.n 3 (.p b2 0) .r) (ie (aq (ar (irk 1 (.n 4 (.i 0) .r) (ie (ab 0 (al (fun m F h=>∃(k:Nat) (L2:Led) (ka:Hd) (kb:Hd) (kc:Hd) (kd:Hd) (ke:Hd) (kf:Hd),(k≤rt.params.length)∧(LLen L2)∧(L2.vars.length=k)∧(Z5f rt.lent (rt.params.drop k) k L2=newL rt)∧F=[(1,.p b1 0),(3,.p b2 0),(4,.i k)]∧h=[.obj b2 [.h ka,.h kb,.h kc,.h kd,.h ke,.h kf,nInt rt.lent],.obj b1 (Z1m rt),rV ka L2.vars,rV kb L2.own,rV kc L2.par,rV kd L2.con,rV ke L2.fst,rV kf L2.tok]∧m=rt.params.length-k) _ _ _ ⟨0,(Led.mk [] [] [] [] [] []),hN,hN,hN,hN,hN,hN,ob,⟨rfl,rfl,rfl,rfl,rfl⟩,rfl,rfl,rfl,rfl,rfl⟩ (wk [6,7,0,0,0,0,0,0] (fr (fr (fc (x:=.i 0) li fl))) (e:=(rc (rc (rv (xs:=[]) ob (rv (xs:=[]) ob (rv (xs:=[]) ob (rv (xs:=[]) ob (rv (xs:=[]) ob (rv (xs:=[]) ob rz)))))))))) ?_))))))))))))))
 rintro m F h ⟨k,L2,ka,kb,kc,kd,ke,kf,c0_0,c0_1,c0_2,c0_3,rfl,rfl,rfl⟩
 refine aq (ar (irK 3 (.n 10 (.i k) (.n 12 (nInt rt.params) .r)) [1] [b1] (io (.i rt.params.length) (.i (((Z6 rt.params).length:Nat):Int)) (li (by rw [Z5])) (irk 1 (.n 14 (.b (decide ((k:Int)<(rt.params.length:Int)))) .r) (ie (ac (decide ((k:Int)<(rt.params.length:Int))) dq (fun hc1=>?_) (fun hc1=>?_)))))))
 ·refine ak (aq (ab 1 (ar (irK 3 (.n 18 (nInt rt.params) (.n 19 (.i k) .r)) [1] [b1] ?_))))
  obtain ⟨x1,hx1⟩:=Z8 (xs:=rt.params) (j:=k) om
  refine is_ (Z0 (es:=Z6 rt.params) (hv:=none) (j:=(k:Int)) (sz:=1) (y:=.i x1) kr om (Za hx1) rfl) (Z27 [(1,.p b1 0),(3,.p b2 0),(4,.i k),(29,.b ((x1 != 0)&&(!(decide ((k:Int)∈rt.lent)))))] [.obj b2 [.h ka,.h kb,.h kc,.h kd,.h ke,.h kf,nInt rt.lent],.obj b1 (Z1m rt),rV ka L2.vars,rV kb L2.own,rV kc L2.par,rV kd L2.con,rV ke L2.fst,rV kf L2.tok] ?_ ?_)
  ·refine ir 3 [(1,.p b1 0),(3,.p b2 0),(4,.i k),(23,.b (x1 != 0))] (ib (b:=(x1 != 0)) 23 (fun hb1=>?_) (fun hb1=>?_))
   ·have hp1:x1≠0:=(bne_iff_ne).1 hb1
    refine irK 3 (.n 25 (nInt rt.lent) (.n 26 (.i k) (.k (.k (.k (.k .z)))))) [1] [b1] (ic [] (Z6c rt.lent (k:Int)) ?_)
    rintro _ _ ⟨rfl,rfl⟩
    refine irk 2 (.n 29 (.b (!(decide ((k:Int)∈rt.lent)))) .r) (ie ?_)
    exact wk [0,0,0,0,0,0,0,0] (fr (fr (fr (fc (x:=.b (!(decide ((k:Int)∈rt.lent)))) (lb (by simp only [hb1];rfl)) fl))))
   have hp2:¬(x1≠0):=Zd bne_iff_ne hb1
   refine irk 6 (.n 29 (.b false) (.d (.k (.k (.k .z))))) (ie ?_)
   exact wk [0,0,0,0,0,0,0,0] (fr (fr (fr (fc (x:=.b false) (lb (by simp only [hb1];rfl)) fl))))
  refine ac ((x1 != 0)&&(!(decide ((k:Int)∈rt.lent)))) (p:=(x1≠0)∧(¬((k:Int)∈rt.lent))) (Zk bne_iff_ne (Zc dq)) (fun hc2=>?_) (fun hc2=>?_)
  ·refine az (iR 4 [(1,.p b1 0),(3,.p b2 0),(4,.i k),(30,.p b2 0),(32,nInt rt.params),(33,.i k)] [1] [b1] (is_ (Z0 (es:=Z6 rt.params) (hv:=none) (j:=(k:Int)) (sz:=1) (y:=.i x1) kr om (Za hx1) rfl) (irk 1 (.n 35 (.i x1) .r) (ic [0,1,1,1,1,1,1] (Z4q b2 ka kb kc kd ke kf L2 rt.lent x1 1 (-1) (hlk:=c0_1)) ?_))))
   rintro _ _ ⟨wa1,wb1,wc1,wd1,we1,wf1,rfl⟩
   refine ie (az (irk 1 (.n 15 (.i k) (.p .r)) (ia (((k+1:Nat):Int)) (((k:Int))+(1)) (ir 1 [(1,.p b1 0),(3,.p b2 0),(4,.i (k+1:Nat))] (ie ?_)))))
   exact ⟨_,_,_,ob,⟨k+1,(L2.grow x1 1 (-1)),wa1,wb1,wc1,wd1,we1,wf1,ob,(LLen.grow c0_1),(by simp [Led.grow];omega),(by rw [Z7 hx1,Z5f] at c0_3;first|(rw [if_pos hc2] at c0_3;exact c0_3)|(rw [if_neg hc2] at c0_3;exact c0_3)),rfl,rfl,rfl⟩,(wk [0,6,0,0,0,0,0,0] (fr (fr (fc (x:=.i (k+1:Nat)) li fl))))⟩
  refine az (iR 4 [(1,.p b1 0),(3,.p b2 0),(4,.i k),(37,.p b2 0),(39,nInt rt.params),(40,.i k)] [1] [b1] (is_ (Z0 (es:=Z6 rt.params) (hv:=none) (j:=(k:Int)) (sz:=1) (y:=.i x1) kr om (Za hx1) rfl) (irk 1 (.n 42 (.i x1) .r) (ic [0,1,1,1,1,1,1] (Z4q b2 ka kb kc kd ke kf L2 rt.lent x1 0 (-1) (hlk:=c0_1)) ?_))))
  rintro _ _ ⟨wa2,wb2,wc2,wd2,we2,wf2,rfl⟩
  refine ie (az (irk 1 (.n 15 (.i k) (.p .r)) (ia (((k+1:Nat):Int)) (((k:Int))+(1)) (ir 1 [(1,.p b1 0),(3,.p b2 0),(4,.i (k+1:Nat))] (ie ?_)))))
  exact ⟨_,_,_,ob,⟨k+1,(L2.grow x1 0 (-1)),wa2,wb2,wc2,wd2,we2,wf2,ob,(LLen.grow c0_1),(by simp [Led.grow];omega),(by rw [Z7 hx1,Z5f] at c0_3;first|(rw [if_pos hc2] at c0_3;exact c0_3)|(rw [if_neg hc2] at c0_3;exact c0_3)),rfl,rfl,rfl⟩,(wk [0,6,0,0,0,0,0,0] (fr (fr (fc (x:=.i (k+1:Nat)) li fl))))⟩
 refine ax 0 (ar (ir 2 [(2,.p b2 0)] (ie ?_)))
 have hNl:L2=newL rt:=by rw [←c0_3,Zs om];rfl
 exact at_ (r1 [0,1,1,1,1,1,1] ⟨b2,ka,kb,kc,kd,ke,kf,rfl,rfl⟩ (eq:=(rc (rv (xs:=L2.vars) (by rw [hNl]) (rv (xs:=L2.own) (by rw [hNl]) (rv (xs:=L2.par) (by rw [hNl]) (rv (xs:=L2.con) (by rw [hNl]) (rv (xs:=L2.fst) (by rw [hNl]) (rv (xs:=L2.tok) (by rw [hNl]) rz)))))))))
theorem Z8z (n:Normal) (f:Nat) (rt:Routine) (hn:NOk n:=by exact ob) (hr:n.routines[f]? = some rt:=by exact ob) (ht:0≤Zg n rt.params rt.body:=by exact ob) (hz:rt.body.sz≤100000000:=by exact ob):Z3 Tryz.prog 48 [Zi n,.i f] [] (fun r h=>r=.b (Z1z n rt)∧h=[]):=by
 have hfl:=(List.getElem?_eq_some_iff.1 hr).1
 have hpl:=hn.params_at hr
 have hll:=hn.lent_at hr
 obtain ⟨hk,hkv⟩:=Zvl n.decls rt
 refine enter Tryz.func48 kr (n:=26) kr kr (ar (iA (Zh n) ?_))
 intro b1
 refine ir 1 [(1,.i f),(2,.p b1 0)] (ie (ar (irK 3 (.n 8 (Zm n.routines) (.n 9 (.i f) .r)) [0] [b1] (is_ (Z0 (es:=Zo n.routines) (hv:=none) (j:=(f:Int)) (sz:=5) (y:=Z0n rt) kr om (Z0v hr) rfl) (irk 1 (.n 11 (Z0n rt) .r) (iA [nl,nl,.i 0,nl,.i 0] ?_))))))
 intro b2
 refine iS 0 b2 0 (Z1m rt) [nl,nl,.i 0,nl,.i 0] (Z1m rt) (ie (ar (irK 1 (.n 12 (Z0n rt) .r) [0] [b2] (ic [] (Ze6 rt) ?_))))
 rintro _ _ ⟨c1,wa1,wb1,wc1,wd1,we1,wf1,rfl,rfl⟩
 refine irk 1 (.n 6 (.p c1 0) .r) (ie (ar (iR 6 [(6,.p c1 0),(14,.p c1 0),(15,Zi n),(17,Zj rt.body),(19,nInt rt.params)] [8,7,7] [b1,b2,b2] (io (.i rt.params.length) (.i (((Z6 rt.params).length:Nat):Int)) (li (by rw [Z5])) (ic [0,0,0,0,0,0,0] (Zv5 c1 wa1 wb1 wc1 wd1 we1 wf1 n rt.body (newL rt) rt.lent rt.params.length 1 ob ob hk (by rw [hkv];exact ht) (by rw [hkv];omega) (by rw [hkv];omega) ob) ?_)))))
 rintro _ _ (⟨wa2,wb2,wc2,wd2,we2,wf2,M'1,rfl,rfl,hp1⟩|⟨rfl,rfl,hp2⟩)
 ·have hB:=hp1
  obtain ⟨l1,l2⟩:=Zr8 hn hk om (by rw [hkv];exact ht) (by rw [hkv];omega) hB
  refine ir 2 [(22,.b true),(23,.p c1 0)] (ic [0,0,0,0,0,0,0] (Zog c1 wa2 wb2 wc2 wd2 we2 wf2 M'1 rt.lent 0 (hlk:=l1)) ?_)
  rintro _ _ (⟨wa3,wb3,wc3,wd3,we3,wf3,L'1,rfl,rfl,hp3⟩|⟨rfl,rfl,hp4⟩)
  ·refine ir 2 [(4,.b true)] (ie ?_)
   exact at_ (r2 [] [.b true] ⟨rfl,rfl⟩ (lb (by rw [Z1z,hB];exact (cut1 hp3).symm)))
  refine ir 2 [(4,.b false)] (ie ?_)
  exact at_ (r2 [] [.b false] ⟨rfl,rfl⟩ (lb (by rw [Z1z,hB];exact (cut0 hp4).symm)))
 have hB:=hp2
 refine ir 5 [(4,.b false)] (ie ?_)
 exact at_ (r2 [] [.b false] ⟨rfl,rfl⟩ (lb (by rw [Z1z,hB])))
theorem Zf9 (n:Normal) (hz:NSz n:=by exact ob):Z3 Tryz.prog 19 [Zi n] [] (fun r h=>r=.b (Z2j n)∧h=[]):=by
 have hzl:=hz.len
 refine enter Tryz.func19 kr (n:=18) kr kr (ar (iA (Zh n) ?_))
 intro b1
 refine ir 1 [(1,.p b1 0)] (ie (aq (ar (irK 1 (.n 4 (Zi n) .r) [0] [b1] (ic [] (Zbn n) ?_)))))
 rintro _ _ ⟨rfl,rfl⟩
 refine irk 1 (.n 6 (.b (!Z10 n)) .r) (ie (ac (!Z10 n) (p:=¬(Z10 n=true)) (Zc Iff.rfl) (fun hc1=>?_) (fun hc1=>?_)))
 ·refine ar (ir 1 [(2,.b false)] (ie ?_))
  exact at_ (r2 [] [.b false] ⟨rfl,rfl⟩ (lb (by first|rfl|omega|grind [Z2j])))
 have hV:Z10 n=true:=Classical.not_not.1 hc1
 obtain ⟨hok,hall⟩:=Z5x hz hV
 refine ak (aq (ar (irk 1 (.n 3 (.i 0) .r) (ie (ab 0 (al (fun m F h=>∃(k:Nat),(k≤n.routines.length)∧(Z36 n (n.routines.drop k)=Z36 n n.routines)∧F=[(1,.p b1 0),(3,.i k)]∧h=[.obj b1 (Zh n)]∧m=n.routines.length-k) _ _ _ ⟨0,ob,ob,rfl,rfl,rfl⟩ (wk [0] (fr (fc (x:=.i 0) li fl))) ?_))))))
 rintro m F h ⟨k,c0_0,c0_1,rfl,rfl,rfl⟩
 refine aq (ar (irK 3 (.n 7 (.i k) (.n 9 (Zm n.routines) .r)) [0] [b1] (io (.i n.routines.length) (.i (((Zo n.routines).length:Nat):Int)) (li (by rw [Z09])) (irk 1 (.n 11 (.b (decide ((k:Int)<(n.routines.length:Int)))) .r) (ie (ac (decide ((k:Int)<(n.routines.length:Int))) dq (fun hc2=>?_) (fun hc2=>?_)))))))
 ·obtain ⟨rt,hrt⟩:=Z8 (xs:=n.routines) (j:=k) om
  have hrm:=List.mem_of_getElem? hrt
  refine ak (aq (ab 1 (ar (irK 2 (.n 14 (Zi n) (.n 15 (.i k) .r)) [0] [b1] (ic [] (Z8z n k rt (hr:=hrt) (ht:=(hall rt hrm)) (hz:=(Nat.le_trans (hz.body rt hrm) om))) ?_)))))
  rintro _ _ ⟨rfl,rfl⟩
  refine irk 1 (.n 17 (.b (!Z1z n rt)) .r) (ie (ac (!Z1z n rt) (p:=¬(Z1z n rt=true)) (Zc Iff.rfl) (fun hc3=>?_) (fun hc3=>?_)))
  ·refine ar (ir 1 [(2,.b false)] (ie ?_))
   rw [Z7 hrt] at c0_1
   exact at_ (r2 [] [.b false] ⟨rfl,rfl⟩ (lb (by first|rfl|omega|grind [Z36,Z2j])))
  refine ak (az (irk 1 (.n 12 (.i k) .r) (ia (((k+1:Nat):Int)) (((k:Int))+(1)) (ir 1 [(1,.p b1 0),(3,.i (k+1:Nat))] (ie ?_)))))
  have hdr:=Z7 hrt
  exact ⟨_,_,_,ob,⟨k+1,ob,(by rw [hdr] at c0_1;clear hdr ;grind [Z36]),rfl,rfl,rfl⟩,(wk [0] (fr (fc (x:=.i (k+1:Nat)) li fl)))⟩
 refine ax 0 (ar (ir 1 [(2,.b true)] (ie ?_)))
 try rw [Zs (xs:=n.routines) (k:=k) om] at c0_1
 exact at_ (r2 [] [.b true] ⟨rfl,rfl⟩ (lb (by first|rfl|omega|grind [Z36,Z2j])))
end Go.Abs
end
section
namespace Go.Abs
open Go.Proofs
theorem Zd0 (op:Int) (v:Int) :Z3 Tryz.prog 155 [.i op,.i v] [] (fun r h=>r=Z0o (cntS op v)∧h=[]):=by
 refine enter Tryz.func155 kr (n:=10) kr kr (ar (iA [.i 0,.i 0,.i 0,nl,nl] ?_))
 intro b1
 refine ie (ar (ir 2 [(4,.p b1 0),(5,.i op),(6,.i v)] (iL (Z6 [v]) 1 1 ?_)))
 intro v1
 refine iL (Z0p []) 0 2 ?_
 intro v2
 refine irk 1 (.n 9 (.agg [.i op,.i 0,.i 0,oInt [v] v1,Z9u [] v2]) .r) (iS 2 b1 0 [.i op,.i 0,.i 0,oInt [v] v1,Z9u [] v2] [.i 0,.i 0,.i 0,nl,nl] [.i op,.i 0,.i 0,oInt [v] v1,Z9u [] v2] (ie ?_))
 exact at_ (r3 [] [.agg [.i op,.i 0,.i 0,oInt [v] v1,Z9u [] v2]] [0] [(b1,b1)] ⟨rfl,rfl⟩ (AVLe.agg (.cons li (.cons li (.cons li (.cons (AVLe.sl _ (congrArg Z6 rfl)) (.cons (AVLe.sl _ (congrArg Z0p rfl)) .nil)))))))
theorem Zay (op:Int) (xs:List Int) (hl:xs.length≤1000000000:=by exact ob):Z3 Tryz.prog 154 [.i op,nInt xs] [] (fun r h=>∃(v:Value),r=Z1g (xs.map (cntS op)) v∧h=[.tail v 5]):=by
 refine enter Tryz.func154 kr (n:=24) kr kr (ar (ir 1 [(0,.i op),(1,nInt xs)] (ie (ar (iL (Zu []) 0 5 ?_)))))
 intro v1
 refine irk 1 (.n 5 (Z1g [] v1) .r) (ie (aq (ar (irk 1 (.n 6 (.i 0) .r) (ie (ab 0 (al (fun m F h=>∃(k:Nat) (v:Value),(k≤xs.length)∧F=[(0,.i op),(1,nInt xs),(5,Z1g ((xs.take k).map (cntS op)) v),(6,.i k)]∧h=[.tail v 5]∧m=xs.length-k) _ _ _ ⟨0,v1,ob,rfl,rfl,rfl⟩ (wk [0] (fr (fr (fc (x:=Z1g [] v1) (AVLe.slh _ (congrArg Zu rfl)) (fc (x:=.i 0) li fl))))) ?_)))))))
 rintro m F h ⟨k,v,c0_0,rfl,rfl,rfl⟩
 refine aq (ar (irk 2 (.n 8 (.i k) (.n 9 (nInt xs) .r)) (io (.i xs.length) (.i (((Z6 xs).length:Nat):Int)) (li (by rw [Z5])) (irk 1 (.n 11 (.b (decide ((k:Int)<(xs.length:Int)))) .r) (ie (ac (decide ((k:Int)<(xs.length:Int))) dq (fun hc1=>?_) (fun hc1=>?_)))))))
 ·refine ak (aq (ab 1 (az (irk 4 (.n 14 (Z1g ((xs.take k).map (cntS op)) v) (.n 15 (.i op) (.n 16 (nInt xs) (.n 17 (.i k) .r)))) ?_))))
  obtain ⟨x1,hx1⟩:=Z8 (xs:=xs) (j:=k) om
  refine is_ (Z0 (es:=Z6 xs) (hv:=none) (j:=(k:Int)) (sz:=1) (y:=.i x1) kr om (Za hx1) rfl) (irk 1 (.n 19 (.i x1) .r) (ic [] (Zd0 op x1) ?_))
  rintro _ _ ⟨rfl,rfl⟩
  refine iL [Z0o (cntS op x1)] 1 5 ?_
  intro v2
  refine irk 0 (.n 21 (.sl [Z0o (cntS op x1)] none) (.p .r)) (ip 1 (Zu ((xs.take (k+1)).map (cntS op))) (Zu ((xs.take k).map (cntS op))) [Z0o (cntS op x1)] v none 5 (Z1w _) (Z5u rfl) rfl (by simp<;>omega) (by rw [Z1y hx1];simp [Z2l]) ?_)
  intro v3
  refine ir 1 [(0,.i op),(1,nInt xs),(5,Z1g ((xs.take (k+1)).map (cntS op)) v3),(6,.i k)] (ie (az (irk 1 (.n 12 (.i k) .r) (ia (((k+1:Nat):Int)) (((k:Int))+(1)) (irk 1 (.n 6 (.i (k+1:Nat)) (.p (.d (.k (.k (.k .z)))))) (ie ?_))))))
  exact ⟨_,_,_,ob,⟨k+1,v3,ob,rfl,rfl,rfl⟩,(wk [0] (fr (fr (fr (fc (x:=.i (k+1:Nat)) li fl)))))⟩
 refine ax 0 (ar (ir 2 [(4,Z1g ((xs.take k).map (cntS op)) v)] (ie ?_)))
 exact at_ (r2 [0] [Z1g ((xs.take k).map (cntS op)) v] ⟨v,rfl,rfl⟩ (AVLe.slh _ (congrArg Zu (by rw [List.take_of_length_le om]))))
theorem Zox (s:Step) :Z3 Tryz.prog 151 [Z0o s] [] (fun r h=>r=.b ((s.op==14)||(s.op==15))∧h=[]):=by
 refine enter Tryz.func151 kr (n:=11) kr kr (ar (iA (Z0g s) ?_))
 intro b1
 refine ir 1 [(1,.p b1 0)] (ie (ar (Z1i 8 [(10,.b ((s.op==14)||(s.op==15)))] [.obj b1 (Z0g s)] ?_ (fun hj1=>?_))))
 ·refine ir 1 [(2,.b ((s.op==14)||(s.op==15)))] (ie ?_)
  exact at_ (r1 [] ⟨rfl,rfl⟩)
 refine iR 4 [(1,.p b1 0),(6,.b (s.op==14))] [0] [b1] (ib (b:=(s.op==14)) 6 (fun hb1=>?_) (fun hb1=>?_))
 ·have hp1:s.op=14:=(beq_iff_eq).1 hb1
  refine ir 4 [(10,.b true)] ?_
  exact Zz (wk [0] (fc (x:=.b true) (lb (by simp only [hb1];rfl)) fl)) hj1
 have hp2:¬(s.op=14):=Zd beq_iff_eq hb1
 refine iR 4 [(10,.b (s.op==15))] [0] [b1] ?_
 exact Zz (wk [0] (fc (x:=.b (s.op==15)) (lb (by simp only [hb1];rfl)) fl)) hj1
end Go.Abs
end
section
namespace Go.Abs
open Go.Proofs
theorem Zi4 (ds:List Decl) (hd:DOk ds:=by exact ob):Z3 Tryz.prog 50 [Z2 ds] [] (fun r h=>r=Z2 ds∧h=[]):=by
 have hdl:=hd.len
 refine enter Tryz.func50 kr (n:=55) kr kr (ar (ir 1 [(0,Z2 ds)] (ie (ar (iL (Zt []) 0 3 ?_)))))
 intro v1
 refine irk 1 (.n 3 (Zki [] v1) .r) (ie (aq (ar (irk 1 (.n 4 (.i 0) .r) (ie (ab 0 (al (fun m F h=>∃(k:Nat) (v:Value),(k≤ds.length)∧F=[(0,Z2 ds),(3,Zki (ds.take k) v),(4,.i k)]∧h=[.tail v 3]∧m=ds.length-k) _ _ _ ⟨0,v1,ob,rfl,rfl,rfl⟩ (wk [0] (fr (fc (x:=Zki [] v1) (AVLe.slh _ (congrArg Zt rfl)) (fc (x:=.i 0) li fl)))) ?_)))))))
 rintro m F h ⟨k,v,c0_0,rfl,rfl,rfl⟩
 refine aq (ar (irk 2 (.n 8 (.i k) (.n 9 (Z2 ds) .r)) (io (.i ds.length) (.i (((Zt ds).length:Nat):Int)) (li (by rw [Z0a])) (irk 1 (.n 11 (.b (decide ((k:Int)<(ds.length:Int)))) .r) (ie (ac (decide ((k:Int)<(ds.length:Int))) dq (fun hc1=>?_) (fun hc1=>?_)))))))
 ·obtain ⟨xd,hxd⟩:=Z8 (xs:=ds) (j:=k) om
  have hcl:=hd.cons_at hxd
  refine ak (aq (ab 1 (ar (iL (Z1e []) 0 1 ?_))))
  intro v2
  refine irk 1 (.n 5 (oCon [] v2) .r) (ie (aq (ar (irk 1 (.n 6 (.i 0) .r) (ie (ab 2 (al (fun m F h=>∃(j:Nat) (u:Value),(j≤xd.cons.length)∧F=[(0,Z2 ds),(3,Zki (ds.take k) v),(4,.i k),(5,oCon (xd.cons.take j) u),(6,.i j)]∧h=[.tail u 1,.tail v 3]∧m=xd.cons.length-j) _ _ _ ⟨0,v2,ob,rfl,rfl,rfl⟩ (wk [0,0] (fr (fr (fr (fc (x:=oCon [] v2) (AVLe.slh _ (congrArg Z1e rfl)) (fc (x:=.i 0) li fl)))))) ?_)))))))
  rintro m F h ⟨j,u,c1_0,rfl,rfl,rfl⟩
  refine aq (ar (irk 3 (.n 15 (.i j) (.n 16 (Z2 ds) (.n 17 (.i k) .r))) (is_ (Z0 (es:=Zt ds) (hv:=none) (j:=(k:Int)) (sz:=3) (y:=Z2r xd) kr om (Z0z hxd) rfl) (irk 2 (.n 20 (nCon xd.cons) .r) (io (.i xd.cons.length) (.i (((Z1e xd.cons).length:Nat):Int)) (li (by rw [Z0f])) (irk 1 (.n 22 (.b (decide ((j:Int)<(xd.cons.length:Int)))) .r) (ie (ac (decide ((j:Int)<(xd.cons.length:Int))) dq (fun hc2=>?_) (fun hc2=>?_)))))))))
  ·refine ak (aq (ab 3 (az (irk 3 (.n 25 (oCon (xd.cons.take j) u) (.n 26 (Z2 ds) (.n 27 (.i k) .r))) (is_ (Z0 (es:=Zt ds) (hv:=none) (j:=(k:Int)) (sz:=3) (y:=Z2r xd) kr om (Z0z hxd) rfl) (irk 3 (.n 30 (nCon xd.cons) (.n 31 (.i j) .r)) ?_))))))
   obtain ⟨x1,hx1⟩:=Z8 (xs:=xd.cons) (j:=j) om
   have hfl:=hd.fields_at hxd hx1
   refine is_ (Z0 (es:=Z1e xd.cons) (hv:=none) (j:=(j:Int)) (sz:=1) (y:=aCon x1) kr om (Z4h hx1) rfl) (irk 2 (.n 34 (nInt x1.fields) .r) (ic [] (Z2o x1.fields) ?_))
   rintro _ _ ⟨v3,rfl,rfl⟩
   refine irk 1 (.n 36 (aCon x1) .r) (iL (Z1e [x1]) 1 1 ?_)
   intro v4
   refine irk 0 (.n 37 (nCon [x1]) (.p .r)) (ip 2 (Z1e (xd.cons.take (j+1))) (Z1e (xd.cons.take j)) (Z1e [x1]) u none 1 (Zc2 _) (Zc2 _) (Zu4 _) (by simp<;>omega) (by rw [Z1y hx1];simp [Z1e]) ?_)
   intro v5
   refine ir 1 [(0,Z2 ds),(3,Zki (ds.take k) v),(4,.i k),(5,oCon (xd.cons.take (j+1)) v5),(6,.i j)] (ie (az (irk 1 (.n 23 (.i j) .r) (ia (((j+1:Nat):Int)) (((j:Int))+(1)) (irk 1 (.n 6 (.i (j+1:Nat)) (.p (.d (.k (.k (.k (.k .z))))))) (ie ?_))))))
   exact ⟨_,_,_,ob,⟨j+1,v5,ob,rfl,rfl,rfl⟩,(wk [0,2] (fr (fr (fr (fr (fc (x:=.i (j+1:Nat)) li fl))))))⟩
  refine ax 2 (aE 16 (dtk (fuel:=13) 16 [0,1,2] (.n 39 (Zki (ds.take k) v) (.n 40 (Z2 ds) (.n 41 (.i k) .r))) (dx 3 (Z0 (es:=Zt ds) (hv:=none) (j:=(k:Int)) (sz:=3) (y:=Z2r xd) kr om (Z0z hxd) rfl) (dtk (fuel:=8) 12 [4,5,6,7] (.n 44 (.i xd.frm) (.n 45 (Z2 ds) (.n 46 (.i k) .r))) (dx 8 (Z0 (es:=Zt ds) (hv:=none) (j:=(k:Int)) (sz:=3) (y:=Z2r xd) kr om (Z0z hxd) rfl) (dtk (fuel:=3) 7 [9,10,11,12] (.n 51 (.agg [.i xd.frm,.i xd.to_,nCon (xd.cons.take j)]) .r) (do_ 13 (dL 13 [] [] (Zt [Decl.mk xd.frm xd.to_ (xd.cons.take j)]) 1 3 ?_))))))))
  intro v6
  refine dtk (fuel:=2) 2 [] (.n 52 (Z2 [Decl.mk xd.frm xd.to_ (xd.cons.take j)]) (.p .r)) (do_ 14 (dp 14 2 [] [] (Zt (ds.take (k+1))) (Zt (ds.take k)) (Zt [Decl.mk xd.frm xd.to_ (xd.cons.take j)]) v none 3 (Z6w _) (Z6w _) (Zrh _) (by simp<;>omega) (by rw [Z1y hxd];simp [Zt,List.take_of_length_le (show xd.cons.length≤j by omega)]) ?_))
  intro v7
  refine dt (fuel:=0) 1 [15] [(0,Z2 ds),(3,Zki (ds.take (k+1)) v7),(4,.i k)] (de (az (irk 1 (.n 12 (.i k) .r) (ia (((k+1:Nat):Int)) (((k:Int))+(1)) (irk 1 (.n 4 (.i (k+1:Nat)) (.p (.d (.k (.k .z))))) (ie ?_))))))
  exact ⟨_,_,_,ob,⟨k+1,v7,ob,rfl,rfl,rfl⟩,(wk [0] (fr (fr (fc (x:=.i (k+1:Nat)) li fl))))⟩
 refine ax 0 (ar (ir 2 [(2,Zki (ds.take k) v)] (ie ?_)))
 exact at_ (r2 [] [Zki (ds.take k) v] ⟨rfl,rfl⟩ (AVLe.sl _ (congrArg Zt (by rw [List.take_of_length_le om]))))
theorem Zkw (rt:Routine) (b:Block) (hp:rt.params.length≤4294967296:=by exact ob) (hl:rt.lent.length≤4294967296:=by exact ob):Z3 Tryz.prog 52 [Z0n rt,Zj b] [] (fun r h=>r=Z0n (Routine.mk rt.params rt.lent rt.result b)∧h=[]):=by
 refine enter Tryz.func52 kr (n:=15) kr kr (ar (iA (Z1m rt) ?_))
 intro b1
 refine iA (Z0l b) ?_
 intro b2
 refine iA [nl,nl,.i 0,nl,.i 0] ?_
 intro b3
 refine ie (aD 11 (dT (fuel:=4) 11 [0,1,3,4,6,7,8] [(4,.p b3 0),(6,nInt rt.params),(9,nInt rt.lent),(12,.i rt.result),(13,Zj b)] [2,2,2,1] [b1,b1,b1,b2] (do_ 2 (dc 2 [] [1,2,2] [b2,b1,b1] (Z2o rt.params) ?_))))
 rintro _ _ ⟨v1,rfl,rfl⟩
 refine do_ 5 (dc 5 [] [1,2] [b2,b1] (Z2o rt.lent) ?_)
 rintro _ _ ⟨v2,rfl,rfl⟩
 refine dtk (fuel:=1) 2 [9] (.n 14 (.agg [oInt rt.params v1,oInt rt.lent v2,.i rt.result,Z0h b.steps,.i b.result]) .r) (do_ 10 (dS 10 2 [] [] b3 0 [oInt rt.params v1,oInt rt.lent v2,.i rt.result,Z0h b.steps,.i b.result] [nl,nl,.i 0,nl,.i 0] [oInt rt.params v1,oInt rt.lent v2,.i rt.result,Z0h b.steps,.i b.result] (de ?_)))
 exact at_ (r3 [] [.agg [oInt rt.params v1,oInt rt.lent v2,.i rt.result,Z0h b.steps,.i b.result]] [0] [(b3,b3)] ⟨rfl,rfl⟩ (AVLe.agg (.cons (AVLe.sl _ (congrArg Z6 ob)) (.cons (AVLe.sl _ (congrArg Z6 ob)) (.cons li (.cons (AVLe.sl _ (congrArg Zu ob)) (.cons li .nil)))))))
theorem Zwn (n:Normal) (hl:n.routines.length≤4194304:=by exact ob) (hb:∀r∈n.routines,r.body.sz≤1000000000):Z3 Tryz.prog 20 [Zi n] [] (fun r h=>(r=.tup [Zi n,.b true]∧h=[]∧Zf0 n=true)∨(r=.tup [.agg [Z2 [],Zm []],.b false]∧h=[]∧Zf0 n=false)):=by
 refine enter Tryz.func20 kr (n:=22) kr kr (ar (iA (Zh n) ?_))
 intro b1
 refine iA [nl,nl] ?_
 intro b2
 refine ir 1 [(1,.p b1 0),(2,.p b2 0)] (ie (aq (ar (irk 1 (.n 4 (.i 0) .r) (ie (ab 0 (al (fun m F h=>∃(k:Nat),(k≤n.routines.length)∧(Z9r (n.routines.drop k)=Z9r n.routines)∧F=[(1,.p b1 0),(2,.p b2 0),(4,.i k)]∧h=[.obj b2 [nl,nl],.obj b1 (Zh n)]∧m=n.routines.length-k) _ _ _ ⟨0,ob,ob,rfl,rfl,rfl⟩ (wk [0,0] (fr (fr (fc (x:=.i 0) li fl)))) ?_)))))))
 rintro m F h ⟨k,c0_0,c0_1,rfl,rfl,rfl⟩
 refine aq (ar (irK 3 (.n 5 (.i k) (.n 7 (Zm n.routines) .r)) [1] [b1] (io (.i n.routines.length) (.i (((Zo n.routines).length:Nat):Int)) (li (by rw [Z09])) (irk 1 (.n 9 (.b (decide ((k:Int)<(n.routines.length:Int)))) .r) (ie (ac (decide ((k:Int)<(n.routines.length:Int))) dq (fun hc1=>?_) (fun hc1=>?_)))))))
 ·refine ak (aq (ab 1 (ar (irK 3 (.n 13 (Zm n.routines) (.n 14 (.i k) .r)) [1] [b1] ?_))))
  obtain ⟨x1,hx1⟩:=Z8 (xs:=n.routines) (j:=k) om
  refine is_ (Z0 (es:=Zo n.routines) (hv:=none) (j:=(k:Int)) (sz:=5) (y:=Z0n x1) kr om (Z0v hx1) rfl) (irk 2 (.n 17 (Zj x1.body) .r) (ic [] (Za2 x1.body (hb:=(hb _ (List.mem_of_getElem? hx1)))) ?_))
  rintro _ _ ⟨rfl,rfl⟩
  refine irk 1 (.n 19 (.b (decide ((Z1x x1.body)<0))) .r) (ie (ac (decide ((Z1x x1.body)<0)) dq (fun hc2=>?_) (fun hc2=>?_)))
  ·refine ar (irk 1 (.n 20 (.agg [nl,nl]) .r) (iS 0 b2 0 [nl,nl] [nl,nl] [nl,nl] (irk 1 (.n 3 (.b false) .r) (ie ?_))))
   exact at_ (r3 [] [.agg [nl,nl],.b false] [0] [(b2,b2)] (.inr ⟨rfl,rfl,(by rw [Zf0,←c0_1,Z7 hx1,Z9r,if_pos (by assumption)])⟩) (AVLe.tup (.cons (AVLe.agg (.cons (AVLe.sl _ rfl) (.cons (AVLe.sl _ rfl) .nil))) (.cons (lr _) .nil))))
  refine ak (az (irk 1 (.n 10 (.i k) .r) (ia (((k+1:Nat):Int)) (((k:Int))+(1)) (ir 1 [(1,.p b1 0),(2,.p b2 0),(4,.i (k+1:Nat))] (ie ?_)))))
  exact ⟨_,_,_,ob,⟨k+1,ob,(by rw [Z7 hx1,Z9r,if_neg (by assumption)] at c0_1;exact c0_1),rfl,rfl,rfl⟩,(wk [0,0] (fr (fr (fc (x:=.i (k+1:Nat)) li fl))))⟩
 refine ax 0 (ar (irK 1 (.n 21 (Zi n) .r) [1] [b1] (iS 0 b2 0 (Zh n) [nl,nl] (Zh n) (irk 1 (.n 3 (.b true) .r) (ie ?_)))))
 exact at_ (r3 [] [Zi n,.b true] [0] [(b2,b2)] (.inl ⟨rfl,rfl,(by rw [Zf0,←c0_1,Zs om];rfl)⟩) (lr _))
end Go.Abs
end
section
namespace Go.Abs
open Go.Proofs
theorem Zl4 (xs:List Int) (hl_xs:xs.length≤4294967296:=by exact ob):Z3 Tryz.prog 111 [nInt xs] [] (fun r h=>∃(v:Value),r=oInt xs v∧h=[.tail v 1]):=by
 refine enter Tryz.func111 kr (n:=22) kr kr (ar (ir 1 [(0,nInt xs)] (ie (ar (irk 1 (.n 5 (nInt xs) .r) (io (.i xs.length) (.i (((Z6 xs).length:Nat):Int)) (li (by rw [Z5])) (iKM xs.length [AV.i 0] 1 ?_)))))))
 intro g1
 refine irk 1 (.n 3 (.ms g1 0 xs.length xs.length) .r) (ie (aq (ar (irk 1 (.n 4 (.i 0) .r) (ie (ab 0 (al (fun m F h=>∃(k:Nat),(k≤xs.length)∧F=[(0,nInt xs),(3,.ms g1 0 xs.length xs.length),(4,.i k)]∧h=[.row (.slice (some ⟨g1,0,none⟩) xs.length xs.length) 1 (flat (Z6 (xs.take k))++(List.replicate (xs.length-k) ([.i 0]:List AV)).flatten)]∧m=xs.length-k) _ _ _ ⟨0,ob,rfl,rfl,rfl⟩ (wk [0] (fr (fr (fc (x:=.i 0) li fl))) (e:=(rr (ls:=(List.replicate xs.length [AV.i 0]).flatten) (by rfl) rz))) ?_)))))))
 rintro m F h ⟨k,c0_0,rfl,rfl,rfl⟩
 refine aq (ar (irk 2 (.n 8 (.i k) (.n 9 (nInt xs) .r)) (io (.i xs.length) (.i (((Z6 xs).length:Nat):Int)) (li (by rw [Z5])) (irk 1 (.n 11 (.b (decide ((k:Int)<(xs.length:Int)))) .r) (ie (ac (decide ((k:Int)<(xs.length:Int))) dq (fun hc1=>?_) (fun hc1=>?_)))))))
 ·refine ak (aq (ab 1 (az (irk 4 (.n 14 (.ms g1 0 xs.length xs.length) (.n 15 (.i k) (.n 16 (nInt xs) (.n 17 (.i k) .r)))) ?_))))
  obtain ⟨x1,hx1⟩:=Z8 (xs:=xs) (j:=k) om
  refine is_ (Z0 (es:=Z6 xs) (hv:=none) (j:=(k:Int)) (sz:=1) (y:=.i x1) kr om (Za hx1) rfl) (irk 1 (.n 19 (.i x1) .r) (is_ (kIdx g1 xs.length xs.length k 1 (k:Int)) (iKS 0 g1 xs.length xs.length 1 (k*1) [.i x1] (flat (Z6 (xs.take k))++(List.replicate (xs.length-k) ([.i 0]:List AV)).flatten) (flat (Z6 (xs.take k))++([AV.i x1]++(List.replicate (xs.length-(k+1)) ([.i 0]:List AV)).flatten)) (by rw [Zag (a:=0) (q:=1) (by rw [Zlv,List.length_take,Nat.min_eq_left c0_0]) c0_0 rfl];simp;omega) (by rw [Z6y om];exact Z9w (by rw [Zlv,List.length_take,Nat.min_eq_left c0_0]) rfl) (ie (az (irk 1 (.n 12 (.i k) .r) (ia (((k+1:Nat):Int)) (((k:Int))+(1)) (ir 1 [(0,nInt xs),(3,.ms g1 0 xs.length xs.length),(4,.i (k+1:Nat))] (ie ?_)))))))))
  exact ⟨_,_,_,ob,⟨k+1,ob,rfl,rfl,rfl⟩,(wk [0] (fr (fr (fc (x:=.i (k+1:Nat)) li fl))) (e:=(rr (ls:=flat (Z6 (xs.take k))++([AV.i x1]++(List.replicate (xs.length-(k+1)) ([.i 0]:List AV)).flatten)) (Zw5 hx1) rz)))⟩
 refine ax 0 (ar (ir 2 [(2,.ms g1 0 xs.length xs.length)] (ie (Z2s (tRow 0 (.slice (some ⟨g1,0,none⟩) xs.length xs.length) 1 (flat (Z6 (xs.take k))++(List.replicate (xs.length-k) ([.i 0]:List AV)).flatten) (flat (Z6 xs)) (by rw [Zaf om,List.take_of_length_le om])) (kFrz 2 0 (v:=(⟨some ⟨g1,0,none⟩,xs.length,xs.length⟩:Hd)) (Z6 xs) (Z0x _) ?_)))))
 exact at_ (r1 [0] ⟨(⟨some ⟨g1,0,none⟩,xs.length,xs.length⟩:Hd).v,rfl,rfl⟩)
theorem Z04o (x:Con) (hl:conC x≤1000000000:=by exact ob):Z3 Tryz.prog 158 [aCon x] [] (fun r h=>∃(y:HCon),r=Z005 y∧h=[.many (Z41 y)]∧y.er=x):=by
 refine enter Tryz.func158 kr (n:=9) kr kr (ar (iA (lCon x) ?_))
 intro b1
 refine iA [nl] ?_
 intro b2
 refine ie (ar (iA [nl] ?_))
 intro b3
 refine ie (ar (iR 2 [(2,.p b2 0),(3,.p b3 0),(5,nInt x.fields)] [2] [b1] (ic [] (Zl4 x.fields (hl_xs:=(by have h:=hl;unfold conC at h;omega))) ?_)))
 rintro _ _ ⟨v1,rfl,rfl⟩
 refine irk 1 (.n 7 (.p b3 0) .r) (iS 1 b3 0 [oInt x.fields v1] [nl] [oInt x.fields v1] (ie (ar (irK 1 (.n 8 (.agg [oInt x.fields v1]) .r) [0] [b3] (iS 2 b2 0 [oInt x.fields v1] [nl] [oInt x.fields v1] (ie (Z2s (tB [2] [.tail v1 1] ((v1,1)::[]) (Z41 (HCon.mk x.fields v1)) (by simp [Z0e,Z02,Z0t,Z0j,Zr,Z0k,Z04,Z05,Zp,Z1u,Z0b,Z19,Z0i,Zl,Z41,Z2h,Z0m,Z00])) ?_)))))))
 exact at_ (r3 [0] [.agg [oInt x.fields v1]] [1] [(b2,b2)] ⟨(HCon.mk x.fields v1),rfl,rfl,rfl⟩ (lr _))
theorem Z02t (xs:List Con) (hl:Z65 xs≤1000000000:=by exact ob):Z3 Tryz.prog 110 [nCon xs] [] (fun r h=>∃(ys:List HCon) (w:Value),r=Zf7 ys w∧h=[.many (Z19 ys),.tail w 1]∧ys.map HCon.er=xs):=by
 refine enter Tryz.func110 kr (n:=23) kr kr (ar (ir 1 [(0,nCon xs)] (ie (ar (irk 1 (.n 5 (nCon xs) .r) (io (.i xs.length) (.i (((Z1e xs).length:Nat):Int)) (li (by rw [Z0f])) (iKM xs.length [nl] 1 ?_ (hl:=(by have h:=hl;unfold Z65 at h;omega)))))))))
 intro g1
 refine irk 1 (.n 3 (.ms g1 0 xs.length xs.length) .r) (ie (aq (ar (irk 1 (.n 4 (.i 0) .r) (ie (ab 0 (Z2s (tB [] [] [] (Z19 []) (by simp [Z0e,Z02,Z0t,Z0j,Zr,Z0k,Z04,Z05,Zp,Z1u,Z0b,Z19,Z0i,Zl,Z41,Z2h,Z0m,Z00])) (al (fun m F h=>∃(k:Nat) (ys:List HCon),(k≤xs.length)∧(ys.map HCon.er=xs.take k)∧(ys.length=k)∧F=[(0,nCon xs),(3,.ms g1 0 xs.length xs.length),(4,.i k)]∧h=[.row (.slice (some ⟨g1,0,none⟩) xs.length xs.length) 1 (flat (Z2n ys)++(List.replicate (xs.length-k) ([nl]:List AV)).flatten),.many (Z19 ys)]∧m=xs.length-k) _ _ _ ⟨0,[],ob,rfl,rfl,rfl,rfl,rfl⟩ (wk [1,0] (fr (fr (fc (x:=.i 0) li fl))) (e:=(rr (ls:=(List.replicate xs.length [nl]).flatten) (by rfl) (rc rz)))) ?_))))))))
 rintro m F h ⟨k,ys,c0_0,c0_1,c0_2,rfl,rfl,rfl⟩
 refine aq (ar (irk 2 (.n 8 (.i k) (.n 9 (nCon xs) .r)) (io (.i xs.length) (.i (((Z1e xs).length:Nat):Int)) (li (by rw [Z0f])) (irk 1 (.n 11 (.b (decide ((k:Int)<(xs.length:Int)))) .r) (ie (ac (decide ((k:Int)<(xs.length:Int))) dq (fun hc1=>?_) (fun hc1=>?_)))))))
 ·refine ak (aq (ab 1 (az (irk 4 (.n 14 (.ms g1 0 xs.length xs.length) (.n 15 (.i k) (.n 16 (nCon xs) (.n 17 (.i k) .r)))) ?_))))
  obtain ⟨x1,hx1⟩:=Z8 (xs:=xs) (j:=k) om
  have hcl:=Zjs hx1
  have hl2:=hl
  unfold Z65 at hl2
  refine is_ (Z0 (es:=Z1e xs) (hv:=none) (j:=(k:Int)) (sz:=1) (y:=aCon x1) kr om (Z4h hx1) rfl) (irk 1 (.n 19 (aCon x1) .r) (ic [] (Z04o x1) ?_))
  rintro _ _ ⟨y1,rfl,rfl,hp1⟩
  have hy:=hp1
  refine is_ (kIdx g1 xs.length xs.length k 1 (k:Int)) (iKS 1 g1 xs.length xs.length 1 (k*1) (Zm8 y1) (flat (Z2n ys)++(List.replicate (xs.length-k) ([nl]:List AV)).flatten) (flat (Z2n ys)++(Zm8 y1++(List.replicate (xs.length-(k+1)) ([nl]:List AV)).flatten)) (by rw [Zag (a:=0) (q:=1) (by rw [Zgm,c0_2]) c0_0 rfl];simp;omega) (by rw [Z6y om];exact Z9w (by rw [Zgm,c0_2]) rfl) (Z5c (tB [2,1] [.many (Z19 ys),.many (Z41 y1)] (Z19 ys++(Z41 y1++[])) (Z19 (ys++[y1])) (by simp [Z0e,Z02,Z0t,Z0j,Zr,Z0k,Z04,Z05,Zp,Z1u,Z0b,Z19,Z0i,Zl,Z41,Z2h,Z0m,Z00])) (ie (az (irk 1 (.n 12 (.i k) .r) (ia (((k+1:Nat):Int)) (((k:Int))+(1)) (ir 1 [(0,nCon xs),(3,.ms g1 0 xs.length xs.length),(4,.i (k+1:Nat))] (ie ?_))))))))
  exact ⟨_,_,_,ob,⟨k+1,(ys++[y1]),ob,(Zcl c0_1 hx1 hy),(by simp [c0_2]),rfl,rfl,rfl⟩,(wk [1,0] (fr (fr (fc (x:=.i (k+1:Nat)) li fl))) (e:=(rr (ls:=flat (Z2n ys)++(Zm8 y1++(List.replicate (xs.length-(k+1)) ([nl]:List AV)).flatten)) Zse (rc rz))))⟩
 refine ax 0 (ar (ir 2 [(2,.ms g1 0 xs.length xs.length)] (ie (Z2s (tRow 0 (.slice (some ⟨g1,0,none⟩) xs.length xs.length) 1 (flat (Z2n ys)++(List.replicate (xs.length-k) ([nl]:List AV)).flatten) (flat (Z2n ys)) (Zaf om)) (kFrz 2 0 (v:=(⟨some ⟨g1,0,none⟩,xs.length,xs.length⟩:Hd)) (Z2n ys) (Zdk _) ?_)))))
 exact at_ (r1 [1,0] ⟨ys,(⟨some ⟨g1,0,none⟩,xs.length,xs.length⟩:Hd).v,rfl,rfl,(by rw [c0_1,List.take_of_length_le om])⟩)
theorem Z02u (x:Decl) (hl:Z59 x≤1000000000:=by exact ob):Z3 Tryz.prog 54 [Z2r x] [] (fun r h=>∃(y:HDecl),r=Zt0 y∧h=[.many (Z2h y)]∧y.er=x):=by
 refine enter Tryz.func54 kr (n:=15) kr kr (ar (iA (Z2i x) ?_))
 intro b1
 refine iA [.i 0,.i 0,nl] ?_
 intro b2
 refine ie (ar (iA [.i 0,.i 0,nl] ?_))
 intro b3
 refine ie (ar (iR 3 [(1,.p b1 0),(2,.p b2 0),(3,.p b3 0),(5,.i x.frm),(6,.p b3 0)] [2] [b1] (iS 0 b3 0 [.i x.frm] [.i 0,.i 0,nl] [.i x.frm,.i 0,nl] (ie (ar (irK 3 (.n 8 (.i x.to_) (.n 9 (.p b3 1) .r)) [2] [b1] (iS 0 b3 1 [.i x.to_] [.i x.frm,.i 0,nl] [.i x.frm,.i x.to_,nl] (ie (ar (irK 2 (.n 11 (nCon x.cons) .r) [2] [b1] (ic [] (Z02t x.cons (hl:=(by have h:=hl;unfold Z59 at h;exact h))) ?_)))))))))))
 rintro _ _ ⟨ys1,w1,rfl,rfl,hp1⟩
 have hy:=hp1
 refine irk 1 (.n 13 (.p b3 2) .r) (iS 2 b3 2 [Zf7 ys1 w1] [.i x.frm,.i x.to_,nl] [.i x.frm,.i x.to_,Zf7 ys1 w1] (ie (ar (irK 1 (.n 14 (.agg [.i x.frm,.i x.to_,Zf7 ys1 w1]) .r) [0] [b3] (iS 3 b2 0 [.i x.frm,.i x.to_,Zf7 ys1 w1] [.i 0,.i 0,nl] [.i x.frm,.i x.to_,Zf7 ys1 w1] (ie (Z2s (tB [2,2] [.many (Z19 ys1),.tail w1 1] (Z19 ys1++((w1,1)::[])) (Z2h (HDecl.mk x.frm x.to_ ys1 w1)) (by simp [Z0e,Z02,Z0t,Z0j,Zr,Z0k,Z04,Z05,Zp,Z1u,Z0b,Z19,Z0i,Zl,Z41,Z2h,Z0m,Z00])) ?_)))))))
 exact at_ (r3 [0] [.agg [.i x.frm,.i x.to_,Zf7 ys1 w1]] [1] [(b2,b2)] ⟨(HDecl.mk x.frm x.to_ ys1 w1),rfl,rfl,(by show Decl.mk _ _ _=_;rw [hy])⟩ (lr _))
theorem Zzm (xs:List Decl) (hl:Z2z xs≤1000000000:=by exact ob):Z3 Tryz.prog 22 [Z2 xs] [] (fun r h=>∃(ys:List HDecl) (w:Value),r=Z4t ys w∧h=[.many (Z0i ys),.tail w 3]∧ys.map HDecl.er=xs):=by
 refine enter Tryz.func22 kr (n:=23) kr kr (ar (ir 1 [(0,Z2 xs)] (ie (ar (irk 1 (.n 5 (Z2 xs) .r) (io (.i xs.length) (.i (((Zt xs).length:Nat):Int)) (li (by rw [Z0a])) (iKM xs.length [.i 0,.i 0,nl] 3 ?_ (hl:=(by have h:=hl;unfold Z2z at h;omega)))))))))
 intro g1
 refine irk 1 (.n 3 (.ms g1 0 xs.length xs.length) .r) (ie (aq (ar (irk 1 (.n 4 (.i 0) .r) (ie (ab 0 (Z2s (tB [] [] [] (Z0i []) (by simp [Z0e,Z02,Z0t,Z0j,Zr,Z0k,Z04,Z05,Zp,Z1u,Z0b,Z19,Z0i,Zl,Z41,Z2h,Z0m,Z00])) (al (fun m F h=>∃(k:Nat) (ys:List HDecl),(k≤xs.length)∧(ys.map HDecl.er=xs.take k)∧(ys.length=k)∧F=[(0,Z2 xs),(3,.ms g1 0 xs.length xs.length),(4,.i k)]∧h=[.row (.slice (some ⟨g1,0,none⟩) xs.length xs.length) 3 (flat (Z1a ys)++(List.replicate (xs.length-k) ([.i 0,.i 0,nl]:List AV)).flatten),.many (Z0i ys)]∧m=xs.length-k) _ _ _ ⟨0,[],ob,rfl,rfl,rfl,rfl,rfl⟩ (wk [1,0] (fr (fr (fc (x:=.i 0) li fl))) (e:=(rr (ls:=(List.replicate xs.length [.i 0,.i 0,nl]).flatten) (by rfl) (rc rz)))) ?_))))))))
 rintro m F h ⟨k,ys,c0_0,c0_1,c0_2,rfl,rfl,rfl⟩
 refine aq (ar (irk 2 (.n 8 (.i k) (.n 9 (Z2 xs) .r)) (io (.i xs.length) (.i (((Zt xs).length:Nat):Int)) (li (by rw [Z0a])) (irk 1 (.n 11 (.b (decide ((k:Int)<(xs.length:Int)))) .r) (ie (ac (decide ((k:Int)<(xs.length:Int))) dq (fun hc1=>?_) (fun hc1=>?_)))))))
 ·refine ak (aq (ab 1 (az (irk 4 (.n 14 (.ms g1 0 xs.length xs.length) (.n 15 (.i k) (.n 16 (Z2 xs) (.n 17 (.i k) .r)))) ?_))))
  obtain ⟨x1,hx1⟩:=Z8 (xs:=xs) (j:=k) om
  have hcl:=Zff hx1
  have hl2:=hl
  unfold Z2z at hl2
  refine is_ (Z0 (es:=Zt xs) (hv:=none) (j:=(k:Int)) (sz:=3) (y:=Z2r x1) kr om (Z0z hx1) rfl) (irk 1 (.n 19 (Z2r x1) .r) (ic [] (Z02u x1) ?_))
  rintro _ _ ⟨y1,rfl,rfl,hp1⟩
  have hy:=hp1
  refine is_ (kIdx g1 xs.length xs.length k 3 (k:Int)) (iKS 1 g1 xs.length xs.length 3 (k*3) (Zeo y1) (flat (Z1a ys)++(List.replicate (xs.length-k) ([.i 0,.i 0,nl]:List AV)).flatten) (flat (Z1a ys)++(Zeo y1++(List.replicate (xs.length-(k+1)) ([.i 0,.i 0,nl]:List AV)).flatten)) (by rw [Zag (a:=0) (q:=3) (by rw [Z4p,c0_2]) c0_0 rfl];simp;omega) (by rw [Z6y om];exact Z9w (by rw [Z4p,c0_2]) rfl) (Z5c (tB [2,1] [.many (Z0i ys),.many (Z2h y1)] (Z0i ys++(Z2h y1++[])) (Z0i (ys++[y1])) (by simp [Z0e,Z02,Z0t,Z0j,Zr,Z0k,Z04,Z05,Zp,Z1u,Z0b,Z19,Z0i,Zl,Z41,Z2h,Z0m,Z00])) (ie (az (irk 1 (.n 12 (.i k) .r) (ia (((k+1:Nat):Int)) (((k:Int))+(1)) (ir 1 [(0,Z2 xs),(3,.ms g1 0 xs.length xs.length),(4,.i (k+1:Nat))] (ie ?_))))))))
  exact ⟨_,_,_,ob,⟨k+1,(ys++[y1]),ob,(Zcl c0_1 hx1 hy),(by simp [c0_2]),rfl,rfl,rfl⟩,(wk [1,0] (fr (fr (fc (x:=.i (k+1:Nat)) li fl))) (e:=(rr (ls:=flat (Z1a ys)++(Zeo y1++(List.replicate (xs.length-(k+1)) ([.i 0,.i 0,nl]:List AV)).flatten)) Zsf (rc rz))))⟩
 refine ax 0 (ar (ir 2 [(2,.ms g1 0 xs.length xs.length)] (ie (Z2s (tRow 0 (.slice (some ⟨g1,0,none⟩) xs.length xs.length) 3 (flat (Z1a ys)++(List.replicate (xs.length-k) ([.i 0,.i 0,nl]:List AV)).flatten) (flat (Z1a ys)) (Zaf om)) (kFrz 2 0 (v:=(⟨some ⟨g1,0,none⟩,xs.length,xs.length⟩:Hd)) (Z1a ys) (Zb6 _) ?_)))))
 exact at_ (r1 [1,0] ⟨ys,(⟨some ⟨g1,0,none⟩,xs.length,xs.length⟩:Hd).v,rfl,rfl,(by rw [c0_1,List.take_of_length_le om])⟩)
theorem Zss (xs:List Block) (hl:bcsC xs≤1000000000) (ih:∀(b2:Block),(b2.sz≤bsz xs)→(b2.cst≤1000000000)→Z3 Tryz.prog 112 [Zj b2] [] (fun r h=>∃(y:HBlock),r=Z3k y∧h=[.many (Z0b y)]∧y.er=b2)):Z3 Tryz.prog 213 [Z03 xs] [] (fun r h=>∃(ys:List HBlock) (w:Value),r=Z2c ys w∧h=[.many (Zp ys),.tail w 2]∧ys.map HBlock.er=xs):=by
 refine enter Tryz.func213 kr (n:=23) kr kr (ar (ir 1 [(0,Z03 xs)] (ie (ar (irk 1 (.n 5 (Z03 xs) .r) (io (.i xs.length) (.i (((Z0p xs).length:Nat):Int)) (li (by rw [Z0r])) (iKM xs.length [nl,.i 0] 2 ?_ (hl:=(by have h:=hl;unfold bcsC at h;omega)))))))))
 intro g1
 refine irk 1 (.n 3 (.ms g1 0 xs.length xs.length) .r) (ie (aq (ar (irk 1 (.n 4 (.i 0) .r) (ie (ab 0 (Z2s (tB [] [] [] (Zp []) (by simp [Z0e,Z02,Z0t,Z0j,Zr,Z0k,Z04,Z05,Zp,Z1u,Z0b,Z19,Z0i,Zl,Z41,Z2h,Z0m,Z00])) (al (fun m F h=>∃(k:Nat) (ys:List HBlock),(k≤xs.length)∧(ys.map HBlock.er=xs.take k)∧(ys.length=k)∧F=[(0,Z03 xs),(3,.ms g1 0 xs.length xs.length),(4,.i k)]∧h=[.row (.slice (some ⟨g1,0,none⟩) xs.length xs.length) 2 (flat (Z16 ys)++(List.replicate (xs.length-k) ([nl,.i 0]:List AV)).flatten),.many (Zp ys)]∧m=xs.length-k) _ _ _ ⟨0,[],ob,rfl,rfl,rfl,rfl,rfl⟩ (wk [1,0] (fr (fr (fc (x:=.i 0) li fl))) (e:=(rr (ls:=(List.replicate xs.length [nl,.i 0]).flatten) (by rfl) (rc rz)))) ?_))))))))
 rintro m F h ⟨k,ys,c0_0,c0_1,c0_2,rfl,rfl,rfl⟩
 refine aq (ar (irk 2 (.n 8 (.i k) (.n 9 (Z03 xs) .r)) (io (.i xs.length) (.i (((Z0p xs).length:Nat):Int)) (li (by rw [Z0r])) (irk 1 (.n 11 (.b (decide ((k:Int)<(xs.length:Int)))) .r) (ie (ac (decide ((k:Int)<(xs.length:Int))) dq (fun hc1=>?_) (fun hc1=>?_)))))))
 ·refine ak (aq (ab 1 (az (irk 4 (.n 14 (.ms g1 0 xs.length xs.length) (.n 15 (.i k) (.n 16 (Z03 xs) (.n 17 (.i k) .r)))) ?_))))
  obtain ⟨x1,hx1⟩:=Z8 (xs:=xs) (j:=k) om
  have hcl:=Znx hx1
  have hsz:=Zpd hx1
  have hl2:=hl
  unfold bcsC at hl2
  refine is_ (Z0 (es:=Z0p xs) (hv:=none) (j:=(k:Int)) (sz:=2) (y:=Zj x1) kr om (Z2a hx1) rfl) (irk 1 (.n 19 (Zj x1) .r) (ic [] (ih x1 ob ob) ?_))
  rintro _ _ ⟨y1,rfl,rfl,hp1⟩
  have hy:=hp1
  refine is_ (kIdx g1 xs.length xs.length k 2 (k:Int)) (iKS 1 g1 xs.length xs.length 2 (k*2) (Z7b y1) (flat (Z16 ys)++(List.replicate (xs.length-k) ([nl,.i 0]:List AV)).flatten) (flat (Z16 ys)++(Z7b y1++(List.replicate (xs.length-(k+1)) ([nl,.i 0]:List AV)).flatten)) (by rw [Zag (a:=0) (q:=2) (by rw [Ziq,c0_2]) c0_0 rfl];simp;omega) (by rw [Z6y om];exact Z9w (by rw [Ziq,c0_2]) rfl) (Z5c (tB [2,1] [.many (Zp ys),.many (Z0b y1)] (Zp ys++(Z0b y1++[])) (Zp (ys++[y1])) (by simp [Z0e,Z02,Z0t,Z0j,Zr,Z0k,Z04,Z05,Zp,Z1u,Z0b,Z19,Z0i,Zl,Z41,Z2h,Z0m,Z00])) (ie (az (irk 1 (.n 12 (.i k) .r) (ia (((k+1:Nat):Int)) (((k:Int))+(1)) (ir 1 [(0,Z03 xs),(3,.ms g1 0 xs.length xs.length),(4,.i (k+1:Nat))] (ie ?_))))))))
  exact ⟨_,_,_,ob,⟨k+1,(ys++[y1]),ob,(Zcl c0_1 hx1 hy),(by simp [c0_2]),rfl,rfl,rfl⟩,(wk [1,0] (fr (fr (fc (x:=.i (k+1:Nat)) li fl))) (e:=(rr (ls:=flat (Z16 ys)++(Z7b y1++(List.replicate (xs.length-(k+1)) ([nl,.i 0]:List AV)).flatten)) Zsd (rc rz))))⟩
 refine ax 0 (ar (ir 2 [(2,.ms g1 0 xs.length xs.length)] (ie (Z2s (tRow 0 (.slice (some ⟨g1,0,none⟩) xs.length xs.length) 2 (flat (Z16 ys)++(List.replicate (xs.length-k) ([nl,.i 0]:List AV)).flatten) (flat (Z16 ys)) (Zaf om)) (kFrz 2 0 (v:=(⟨some ⟨g1,0,none⟩,xs.length,xs.length⟩:Hd)) (Z16 ys) (Z66 _) ?_)))))
 exact at_ (r1 [1,0] ⟨ys,(⟨some ⟨g1,0,none⟩,xs.length,xs.length⟩:Hd).v,rfl,rfl,(by rw [c0_1,List.take_of_length_le om])⟩)
theorem Zx4 (xs:List Step) (hl:scsC xs≤1000000000) (ih:∀(s2:Step),(s2.sz≤ssz xs)→(s2.cst≤1000000000)→Z3 Tryz.prog 194 [Z0o s2] [] (fun r h=>∃(y:HStep),r=Zbt y∧h=[.many (Z1u y)]∧y.er=s2)):Z3 Tryz.prog 159 [Z0h xs] [] (fun r h=>∃(ys:List HStep) (w:Value),r=Z3c ys w∧h=[.many (Z05 ys),.tail w 5]∧ys.map HStep.er=xs):=by
 refine enter Tryz.func159 kr (n:=23) kr kr (ar (ir 1 [(0,Z0h xs)] (ie (ar (irk 1 (.n 5 (Z0h xs) .r) (io (.i xs.length) (.i (((Zu xs).length:Nat):Int)) (li (by rw [Z0w])) (iKM xs.length [.i 0,.i 0,.i 0,nl,nl] 5 ?_ (hl:=(by have h:=hl;unfold scsC at h;omega)))))))))
 intro g1
 refine irk 1 (.n 3 (.ms g1 0 xs.length xs.length) .r) (ie (aq (ar (irk 1 (.n 4 (.i 0) .r) (ie (ab 0 (Z2s (tB [] [] [] (Z05 []) (by simp [Z0e,Z02,Z0t,Z0j,Zr,Z0k,Z04,Z05,Zp,Z1u,Z0b,Z19,Z0i,Zl,Z41,Z2h,Z0m,Z00])) (al (fun m F h=>∃(k:Nat) (ys:List HStep),(k≤xs.length)∧(ys.map HStep.er=xs.take k)∧(ys.length=k)∧F=[(0,Z0h xs),(3,.ms g1 0 xs.length xs.length),(4,.i k)]∧h=[.row (.slice (some ⟨g1,0,none⟩) xs.length xs.length) 5 (flat (Z2b ys)++(List.replicate (xs.length-k) ([.i 0,.i 0,.i 0,nl,nl]:List AV)).flatten),.many (Z05 ys)]∧m=xs.length-k) _ _ _ ⟨0,[],ob,rfl,rfl,rfl,rfl,rfl⟩ (wk [1,0] (fr (fr (fc (x:=.i 0) li fl))) (e:=(rr (ls:=(List.replicate xs.length [.i 0,.i 0,.i 0,nl,nl]).flatten) (by rfl) (rc rz)))) ?_))))))))
 rintro m F h ⟨k,ys,c0_0,c0_1,c0_2,rfl,rfl,rfl⟩
 refine aq (ar (irk 2 (.n 8 (.i k) (.n 9 (Z0h xs) .r)) (io (.i xs.length) (.i (((Zu xs).length:Nat):Int)) (li (by rw [Z0w])) (irk 1 (.n 11 (.b (decide ((k:Int)<(xs.length:Int)))) .r) (ie (ac (decide ((k:Int)<(xs.length:Int))) dq (fun hc1=>?_) (fun hc1=>?_)))))))
 ·refine ak (aq (ab 1 (az (irk 4 (.n 14 (.ms g1 0 xs.length xs.length) (.n 15 (.i k) (.n 16 (Z0h xs) (.n 17 (.i k) .r)))) ?_))))
  obtain ⟨x1,hx1⟩:=Z8 (xs:=xs) (j:=k) om
  have hcl:=Zou hx1
  have hsz:=Zn5 hx1
  have hl2:=hl
  unfold scsC at hl2
  refine is_ (Z0 (es:=Zu xs) (hv:=none) (j:=(k:Int)) (sz:=5) (y:=Z0o x1) kr om (Z1r hx1) rfl) (irk 1 (.n 19 (Z0o x1) .r) (ic [] (ih x1 ob ob) ?_))
  rintro _ _ ⟨y1,rfl,rfl,hp1⟩
  have hy:=hp1
  refine is_ (kIdx g1 xs.length xs.length k 5 (k:Int)) (iKS 1 g1 xs.length xs.length 5 (k*5) (Zep y1) (flat (Z2b ys)++(List.replicate (xs.length-k) ([.i 0,.i 0,.i 0,nl,nl]:List AV)).flatten) (flat (Z2b ys)++(Zep y1++(List.replicate (xs.length-(k+1)) ([.i 0,.i 0,.i 0,nl,nl]:List AV)).flatten)) (by rw [Zag (a:=0) (q:=5) (by rw [Zis,c0_2]) c0_0 rfl];simp;omega) (by rw [Z6y om];exact Z9w (by rw [Zis,c0_2]) rfl) (Z5c (tB [2,1] [.many (Z05 ys),.many (Z1u y1)] (Z05 ys++(Z1u y1++[])) (Z05 (ys++[y1])) (by simp [Z0e,Z02,Z0t,Z0j,Zr,Z0k,Z04,Z05,Zp,Z1u,Z0b,Z19,Z0i,Zl,Z41,Z2h,Z0m,Z00])) (ie (az (irk 1 (.n 12 (.i k) .r) (ia (((k+1:Nat):Int)) (((k:Int))+(1)) (ir 1 [(0,Z0h xs),(3,.ms g1 0 xs.length xs.length),(4,.i (k+1:Nat))] (ie ?_))))))))
  exact ⟨_,_,_,ob,⟨k+1,(ys++[y1]),ob,(Zcl c0_1 hx1 hy),(by simp [c0_2]),rfl,rfl,rfl⟩,(wk [1,0] (fr (fr (fc (x:=.i (k+1:Nat)) li fl))) (e:=(rr (ls:=flat (Z2b ys)++(Zep y1++(List.replicate (xs.length-(k+1)) ([.i 0,.i 0,.i 0,nl,nl]:List AV)).flatten)) Zsh (rc rz))))⟩
 refine ax 0 (ar (ir 2 [(2,.ms g1 0 xs.length xs.length)] (ie (Z2s (tRow 0 (.slice (some ⟨g1,0,none⟩) xs.length xs.length) 5 (flat (Z2b ys)++(List.replicate (xs.length-k) ([.i 0,.i 0,.i 0,nl,nl]:List AV)).flatten) (flat (Z2b ys)) (Zaf om)) (kFrz 2 0 (v:=(⟨some ⟨g1,0,none⟩,xs.length,xs.length⟩:Hd)) (Z2b ys) (Zb7 _) ?_)))))
 exact at_ (r1 [1,0] ⟨ys,(⟨some ⟨g1,0,none⟩,xs.length,xs.length⟩:Hd).v,rfl,rfl,(by rw [c0_1,List.take_of_length_le om])⟩)
theorem Zzn (x:Step) (hl:x.cst≤1000000000) (ih:∀(bs:List Block),(bsz bs<x.sz)→(bcsC bs≤1000000000)→Z3 Tryz.prog 213 [Z03 bs] [] (fun r h=>∃(ys:List HBlock) (w:Value),r=Z2c ys w∧h=[.many (Zp ys),.tail w 2]∧ys.map HBlock.er=bs)):Z3 Tryz.prog 194 [Z0o x] [] (fun r h=>∃(y:HStep),r=Zbt y∧h=[.many (Z1u y)]∧y.er=x):=by
 have hce:=x.cst_eq
 have hse:=x.sz_eq
 have hbc:bcsC x.kids=x.kids.length+bcs x.kids:=rfl
 refine enter Tryz.func194 kr (n:=22) kr kr (ar (iA (Z0g x) ?_))
 intro b1
 refine iA [.i 0,.i 0,.i 0,nl,nl] ?_
 intro b2
 refine ie (ar (iA [.i 0,.i 0,.i 0,nl,nl] ?_))
 intro b3
 refine ie (ar (iR 3 [(1,.p b1 0),(2,.p b2 0),(3,.p b3 0),(5,.i x.op),(6,.p b3 0)] [2] [b1] (iS 0 b3 0 [.i x.op] [.i 0,.i 0,.i 0,nl,nl] [.i x.op,.i 0,.i 0,nl,nl] (ie (ar (irK 3 (.n 8 (.i x.num) (.n 9 (.p b3 1) .r)) [2] [b1] (iS 0 b3 1 [.i x.num] [.i x.op,.i 0,.i 0,nl,nl] [.i x.op,.i x.num,.i 0,nl,nl] (ie (ar (irK 3 (.n 11 (.i x.into) (.n 12 (.p b3 2) .r)) [2] [b1] (iS 0 b3 2 [.i x.into] [.i x.op,.i x.num,.i 0,nl,nl] [.i x.op,.i x.num,.i x.into,nl,nl] (ie (ar (irK 2 (.n 14 (nInt x.args) .r) [2] [b1] (ic [] (Zl4 x.args) ?_)))))))))))))))
 rintro _ _ ⟨v1,rfl,rfl⟩
 refine irk 1 (.n 16 (.p b3 3) .r) (iS 1 b3 3 [oInt x.args v1] [.i x.op,.i x.num,.i x.into,nl,nl] [.i x.op,.i x.num,.i x.into,oInt x.args v1,nl] (ie (ar (irK 2 (.n 18 (Z03 x.kids) .r) [3] [b1] (ic [] (ih x.kids ob ob) ?_)))))
 rintro _ _ ⟨ys1,w1,rfl,rfl,hp1⟩
 have hy:=hp1
 refine irk 1 (.n 20 (.p b3 4) .r) (iS 2 b3 4 [Z2c ys1 w1] [.i x.op,.i x.num,.i x.into,oInt x.args v1,nl] [.i x.op,.i x.num,.i x.into,oInt x.args v1,Z2c ys1 w1] (ie (ar (irK 1 (.n 21 (.agg [.i x.op,.i x.num,.i x.into,oInt x.args v1,Z2c ys1 w1]) .r) [0] [b3] (iS 4 b2 0 [.i x.op,.i x.num,.i x.into,oInt x.args v1,Z2c ys1 w1] [.i 0,.i 0,.i 0,nl,nl] [.i x.op,.i x.num,.i x.into,oInt x.args v1,Z2c ys1 w1] (ie (Z2s (tB [4,2,2] [.tail v1 1,.many (Zp ys1),.tail w1 2] ((v1,1)::(Zp ys1++((w1,2)::[]))) (Z1u (HStep.mk x.op x.num x.into x.args v1 ys1 w1)) (by simp [Z0e,Z02,Z0t,Z0j,Zr,Z0k,Z04,Z05,Zp,Z1u,Z0b,Z19,Z0i,Zl,Z41,Z2h,Z0m,Z00])) ?_)))))))
 exact at_ (r3 [0] [.agg [.i x.op,.i x.num,.i x.into,oInt x.args v1,Z2c ys1 w1]] [1] [(b2,b2)] ⟨(HStep.mk x.op x.num x.into x.args v1 ys1 w1),rfl,rfl,(by rw [HStep.er,Zfi,hy];cases x;rfl)⟩ (lr _))
theorem Zx3 (x:Block) (hl:x.cst≤1000000000) (ih:∀(ss:List Step),(ssz ss<x.sz)→(scsC ss≤1000000000)→Z3 Tryz.prog 159 [Z0h ss] [] (fun r h=>∃(ys:List HStep) (w:Value),r=Z3c ys w∧h=[.many (Z05 ys),.tail w 5]∧ys.map HStep.er=ss)):Z3 Tryz.prog 112 [Zj x] [] (fun r h=>∃(y:HBlock),r=Z3k y∧h=[.many (Z0b y)]∧y.er=x):=by
 have hce:=x.cst_eq
 have hse:=x.sz_eq
 have hbc:scsC x.steps=x.steps.length+scs x.steps:=rfl
 refine enter Tryz.func112 kr (n:=12) kr kr (ar (iA (Z0l x) ?_))
 intro b1
 refine iA [nl,.i 0] ?_
 intro b2
 refine ie (ar (iA [nl,.i 0] ?_))
 intro b3
 refine ie (ar (iR 2 [(1,.p b1 0),(2,.p b2 0),(3,.p b3 0),(5,Z0h x.steps)] [2] [b1] (ic [] (ih x.steps ob ob) ?_)))
 rintro _ _ ⟨ys1,w1,rfl,rfl,hp1⟩
 have hy:=hp1
 refine irk 1 (.n 7 (.p b3 0) .r) (iS 2 b3 0 [Z3c ys1 w1] [nl,.i 0] [Z3c ys1 w1,.i 0] (ie (ar (irK 3 (.n 9 (.i x.result) (.n 10 (.p b3 1) .r)) [4] [b1] (iS 0 b3 1 [.i x.result] [Z3c ys1 w1,.i 0] [Z3c ys1 w1,.i x.result] (ie (ar (irK 1 (.n 11 (.agg [Z3c ys1 w1,.i x.result]) .r) [0] [b3] (iS 3 b2 0 [Z3c ys1 w1,.i x.result] [nl,.i 0] [Z3c ys1 w1,.i x.result] (ie (Z2s (tB [2,2] [.many (Z05 ys1),.tail w1 5] (Z05 ys1++((w1,5)::[])) (Z0b (HBlock.mk ys1 w1 x.result)) (by simp [Z0e,Z02,Z0t,Z0j,Zr,Z0k,Z04,Z05,Zp,Z1u,Z0b,Z19,Z0i,Zl,Z41,Z2h,Z0m,Z00])) ?_)))))))))))
 exact at_ (r3 [0] [.agg [Z3c ys1 w1,.i x.result]] [1] [(b2,b2)] ⟨(HBlock.mk ys1 w1 x.result),rfl,rfl,(by rw [HBlock.er,Zfj,hy];cases x;rfl)⟩ (lr _))
theorem Z04n (k:Nat):(∀(s:Step),(s.sz<k)→(s.cst≤1000000000)→Z3 Tryz.prog 194 [Z0o s] [] (fun r h=>∃(y:HStep),r=Zbt y∧h=[.many (Z1u y)]∧y.er=s))∧(∀(b:Block),(b.sz<k)→(b.cst≤1000000000)→Z3 Tryz.prog 112 [Zj b] [] (fun r h=>∃(y:HBlock),r=Z3k y∧h=[.many (Z0b y)]∧y.er=b))∧(∀(ss:List Step),(ssz ss<k)→(scsC ss≤1000000000)→Z3 Tryz.prog 159 [Z0h ss] [] (fun r h=>∃(ys:List HStep) (w:Value),r=Z3c ys w∧h=[.many (Z05 ys),.tail w 5]∧ys.map HStep.er=ss))∧(∀(bs:List Block),(bsz bs<k)→(bcsC bs≤1000000000)→Z3 Tryz.prog 213 [Z03 bs] [] (fun r h=>∃(ys:List HBlock) (w:Value),r=Z2c ys w∧h=[.many (Zp ys),.tail w 2]∧ys.map HBlock.er=bs)):=by
 induction k with
 | zero=>exact ⟨fun s h=>by omega,fun s h=>by omega,fun s h=>by omega,fun s h=>by omega⟩
 | succ k ih=>
  obtain ⟨i1,i2,i3,i4⟩:=ih
  have k1:∀(s:Step),(s.sz<k+1)→(s.cst≤1000000000)→Z3 Tryz.prog 194 [Z0o s] [] (fun r h=>∃(y:HStep),r=Zbt y∧h=[.many (Z1u y)]∧y.er=s):=fun s h hl=>Zzn s hl fun bs h2 h3=>i4 bs om h3
  have k2:∀(b:Block),(b.sz<k+1)→(b.cst≤1000000000)→Z3 Tryz.prog 112 [Zj b] [] (fun r h=>∃(y:HBlock),r=Z3k y∧h=[.many (Z0b y)]∧y.er=b):=fun b h hl=>Zx3 b hl fun ss h2 h3=>i3 ss om h3
  exact ⟨k1,k2,fun ss h hl=>Zx4 ss hl fun s h2 h3=>k1 s om h3,fun bs h hl=>Zss bs hl fun b h2 h3=>k2 b om h3⟩
theorem Zzl (b:Block) (hl:b.cst≤1000000000:=by exact ob):Z3 Tryz.prog 112 [Zj b] [] (fun r h=>∃(y:HBlock),r=Z3k y∧h=[.many (Z0b y)]∧y.er=b):=(Z04n (b.sz+1)).2.1 b om hl
theorem Zst (x:Routine) (hl:rtC x≤1000000000:=by exact ob):Z3 Tryz.prog 55 [Z0n x] [] (fun r h=>∃(y:HRoutine),r=Zg0 y∧h=[.many (Z0m y)]∧y.er=x):=by
 have hl2:=hl
 unfold rtC at hl2
 refine enter Tryz.func55 kr (n:=20) kr kr (ar (iA (Z1m x) ?_))
 intro b1
 refine iA [nl,nl,.i 0,nl,.i 0] ?_
 intro b2
 refine ie (ar (iA [nl,nl,.i 0,nl,.i 0] ?_))
 intro b3
 refine ie (ar (iR 2 [(1,.p b1 0),(2,.p b2 0),(3,.p b3 0),(5,nInt x.params)] [2] [b1] (ic [] (Zl4 x.params) ?_)))
 rintro _ _ ⟨v1,rfl,rfl⟩
 refine irk 1 (.n 7 (.p b3 0) .r) (iS 1 b3 0 [oInt x.params v1] [nl,nl,.i 0,nl,.i 0] [oInt x.params v1,nl,.i 0,nl,.i 0] (ie (ar (irK 2 (.n 9 (nInt x.lent) .r) [3] [b1] (ic [] (Zl4 x.lent) ?_)))))
 rintro _ _ ⟨v2,rfl,rfl⟩
 refine irk 1 (.n 11 (.p b3 1) .r) (iS 1 b3 1 [oInt x.lent v2] [oInt x.params v1,nl,.i 0,nl,.i 0] [oInt x.params v1,oInt x.lent v2,.i 0,nl,.i 0] (ie (ar (irK 3 (.n 13 (.i x.result) (.n 14 (.p b3 2) .r)) [4] [b1] (iS 0 b3 2 [.i x.result] [oInt x.params v1,oInt x.lent v2,.i 0,nl,.i 0] [oInt x.params v1,oInt x.lent v2,.i x.result,nl,.i 0] (ie (ar (irK 2 (.n 16 (Zj x.body) .r) [4] [b1] (ic [] (Zzl x.body) ?_)))))))))
 rintro _ _ ⟨y1,rfl,rfl,hp1⟩
 have hy:=hp1
 refine irk 1 (.n 18 (.p b3 3) .r) (iS 1 b3 3 (Z7b y1) [oInt x.params v1,oInt x.lent v2,.i x.result,nl,.i 0] [oInt x.params v1,oInt x.lent v2,.i x.result,Z3c y1.steps y1.sv,.i y1.result] (ie (ar (irK 1 (.n 19 (.agg [oInt x.params v1,oInt x.lent v2,.i x.result,Z3c y1.steps y1.sv,.i y1.result]) .r) [0] [b3] (iS 4 b2 0 [oInt x.params v1,oInt x.lent v2,.i x.result,Z3c y1.steps y1.sv,.i y1.result] [nl,nl,.i 0,nl,.i 0] [oInt x.params v1,oInt x.lent v2,.i x.result,Z3c y1.steps y1.sv,.i y1.result] (ie (Z2s (tB [4,3,2] [.tail v1 1,.tail v2 1,.many (Z0b y1)] ((v1,1)::((v2,1)::(Z0b y1++[]))) (Z0m (HRoutine.mk x.params v1 x.lent v2 x.result (HBlock.mk y1.steps y1.sv y1.result))) (by simp [Z0e,Z02,Z0t,Z0j,Zr,Z0k,Z04,Z05,Zp,Z1u,Z0b,Z19,Z0i,Zl,Z41,Z2h,Z0m,Z00,Zab,HBlock.steps,HBlock.sv])) ?_)))))))
 exact at_ (r3 [0] [.agg [oInt x.params v1,oInt x.lent v2,.i x.result,Z3c y1.steps y1.sv,.i y1.result]] [1] [(b2,b2)] ⟨(HRoutine.mk x.params v1 x.lent v2 x.result (HBlock.mk y1.steps y1.sv y1.result)),rfl,rfl,(by show Routine.mk _ _ _ (HBlock.er (HBlock.mk y1.steps y1.sv y1.result))=_;rw [HBlock.eta,hy])⟩ (lr _))
theorem Zp0 (xs:List Routine) (hl:rtsC xs≤1000000000:=by exact ob):Z3 Tryz.prog 23 [Zm xs] [] (fun r h=>∃(ys:List HRoutine) (w:Value),r=Z31 ys w∧h=[.many (Zl ys),.tail w 5]∧ys.map HRoutine.er=xs):=by
 refine enter Tryz.func23 kr (n:=23) kr kr (ar (ir 1 [(0,Zm xs)] (ie (ar (irk 1 (.n 5 (Zm xs) .r) (io (.i xs.length) (.i (((Zo xs).length:Nat):Int)) (li (by rw [Z09])) (iKM xs.length [nl,nl,.i 0,nl,.i 0] 5 ?_ (hl:=(by have h:=hl;unfold rtsC at h;omega)))))))))
 intro g1
 refine irk 1 (.n 3 (.ms g1 0 xs.length xs.length) .r) (ie (aq (ar (irk 1 (.n 4 (.i 0) .r) (ie (ab 0 (Z2s (tB [] [] [] (Zl []) (by simp [Z0e,Z02,Z0t,Z0j,Zr,Z0k,Z04,Z05,Zp,Z1u,Z0b,Z19,Z0i,Zl,Z41,Z2h,Z0m,Z00])) (al (fun m F h=>∃(k:Nat) (ys:List HRoutine),(k≤xs.length)∧(ys.map HRoutine.er=xs.take k)∧(ys.length=k)∧F=[(0,Zm xs),(3,.ms g1 0 xs.length xs.length),(4,.i k)]∧h=[.row (.slice (some ⟨g1,0,none⟩) xs.length xs.length) 5 (flat (Z0u ys)++(List.replicate (xs.length-k) ([nl,nl,.i 0,nl,.i 0]:List AV)).flatten),.many (Zl ys)]∧m=xs.length-k) _ _ _ ⟨0,[],ob,rfl,rfl,rfl,rfl,rfl⟩ (wk [1,0] (fr (fr (fc (x:=.i 0) li fl))) (e:=(rr (ls:=(List.replicate xs.length [nl,nl,.i 0,nl,.i 0]).flatten) (by rfl) (rc rz)))) ?_))))))))
 rintro m F h ⟨k,ys,c0_0,c0_1,c0_2,rfl,rfl,rfl⟩
 refine aq (ar (irk 2 (.n 8 (.i k) (.n 9 (Zm xs) .r)) (io (.i xs.length) (.i (((Zo xs).length:Nat):Int)) (li (by rw [Z09])) (irk 1 (.n 11 (.b (decide ((k:Int)<(xs.length:Int)))) .r) (ie (ac (decide ((k:Int)<(xs.length:Int))) dq (fun hc1=>?_) (fun hc1=>?_)))))))
 ·refine ak (aq (ab 1 (az (irk 4 (.n 14 (.ms g1 0 xs.length xs.length) (.n 15 (.i k) (.n 16 (Zm xs) (.n 17 (.i k) .r)))) ?_))))
  obtain ⟨x1,hx1⟩:=Z8 (xs:=xs) (j:=k) om
  have hcl:=Zqe hx1
  have hl2:=hl
  unfold rtsC at hl2
  refine is_ (Z0 (es:=Zo xs) (hv:=none) (j:=(k:Int)) (sz:=5) (y:=Z0n x1) kr om (Z0v hx1) rfl) (irk 1 (.n 19 (Z0n x1) .r) (ic [] (Zst x1) ?_))
  rintro _ _ ⟨y1,rfl,rfl,hp1⟩
  have hy:=hp1
  refine is_ (kIdx g1 xs.length xs.length k 5 (k:Int)) (iKS 1 g1 xs.length xs.length 5 (k*5) (Z6a y1) (flat (Z0u ys)++(List.replicate (xs.length-k) ([nl,nl,.i 0,nl,.i 0]:List AV)).flatten) (flat (Z0u ys)++(Z6a y1++(List.replicate (xs.length-(k+1)) ([nl,nl,.i 0,nl,.i 0]:List AV)).flatten)) (by rw [Zag (a:=0) (q:=5) (by rw [Zir,c0_2]) c0_0 rfl];simp;omega) (by rw [Z6y om];exact Z9w (by rw [Zir,c0_2]) rfl) (Z5c (tB [2,1] [.many (Zl ys),.many (Z0m y1)] (Zl ys++(Z0m y1++[])) (Zl (ys++[y1])) (by simp [Z0e,Z02,Z0t,Z0j,Zr,Z0k,Z04,Z05,Zp,Z1u,Z0b,Z19,Z0i,Zl,Z41,Z2h,Z0m,Z00])) (ie (az (irk 1 (.n 12 (.i k) .r) (ia (((k+1:Nat):Int)) (((k:Int))+(1)) (ir 1 [(0,Zm xs),(3,.ms g1 0 xs.length xs.length),(4,.i (k+1:Nat))] (ie ?_))))))))
  exact ⟨_,_,_,ob,⟨k+1,(ys++[y1]),ob,(Zcl c0_1 hx1 hy),(by simp [c0_2]),rfl,rfl,rfl⟩,(wk [1,0] (fr (fr (fc (x:=.i (k+1:Nat)) li fl))) (e:=(rr (ls:=flat (Z0u ys)++(Z6a y1++(List.replicate (xs.length-(k+1)) ([nl,nl,.i 0,nl,.i 0]:List AV)).flatten)) Zsg (rc rz))))⟩
 refine ax 0 (ar (ir 2 [(2,.ms g1 0 xs.length xs.length)] (ie (Z2s (tRow 0 (.slice (some ⟨g1,0,none⟩) xs.length xs.length) 5 (flat (Z0u ys)++(List.replicate (xs.length-k) ([nl,nl,.i 0,nl,.i 0]:List AV)).flatten) (flat (Z0u ys)) (Zaf om)) (kFrz 2 0 (v:=(⟨some ⟨g1,0,none⟩,xs.length,xs.length⟩:Hd)) (Z0u ys) (Z5y _) ?_)))))
 exact at_ (r1 [1,0] ⟨ys,(⟨some ⟨g1,0,none⟩,xs.length,xs.length⟩:Hd).v,rfl,rfl,(by rw [c0_1,List.take_of_length_le om])⟩)
theorem Zd9 (x:Normal) (hl:Z4k x≤1000000000):Z3 Tryz.prog 8 [Zi x] [] (fun r h=>∃(y:HNormal),r=Z22 y∧h=[.many (Z00 y)]∧y.er=x):=by
 have hl2:=hl
 unfold Z4k at hl2
 refine enter Tryz.func8 kr (n:=13) kr kr (ar (iA (Zh x) ?_))
 intro b1
 refine iA [nl,nl] ?_
 intro b2
 refine ie (ar (iA [nl,nl] ?_))
 intro b3
 refine ie (ar (iR 2 [(1,.p b1 0),(2,.p b2 0),(3,.p b3 0),(5,Z2 x.decls)] [2] [b1] (ic [] (Zzm x.decls) ?_)))
 rintro _ _ ⟨ys1,w1,rfl,rfl,hp1⟩
 have hy1:=hp1
 refine irk 1 (.n 7 (.p b3 0) .r) (iS 2 b3 0 [Z4t ys1 w1] [nl,nl] [Z4t ys1 w1,nl] (ie (ar (irK 2 (.n 9 (Zm x.routines) .r) [4] [b1] (ic [] (Zp0 x.routines) ?_)))))
 rintro _ _ ⟨ys2,w2,rfl,rfl,hp2⟩
 have hy2:=hp2
 refine irk 1 (.n 11 (.p b3 1) .r) (iS 2 b3 1 [Z31 ys2 w2] [Z4t ys1 w1,nl] [Z4t ys1 w1,Z31 ys2 w2] (ie (ar (irK 1 (.n 12 (.agg [Z4t ys1 w1,Z31 ys2 w2]) .r) [0] [b3] (iS 5 b2 0 [Z4t ys1 w1,Z31 ys2 w2] [nl,nl] [Z4t ys1 w1,Z31 ys2 w2] (ie (Z2s (tB [4,4,2,2] [.many (Z0i ys1),.tail w1 3,.many (Zl ys2),.tail w2 5] (Z0i ys1++((w1,3)::(Zl ys2++((w2,5)::[])))) (Z00 (HNormal.mk ys1 w1 ys2 w2)) (by simp [Z0e,Z02,Z0t,Z0j,Zr,Z0k,Z04,Z05,Zp,Z1u,Z0b,Z19,Z0i,Zl,Z41,Z2h,Z0m,Z00])) ?_)))))))
 exact at_ (r3 [0] [.agg [Z4t ys1 w1,Z31 ys2 w2]] [1] [(b2,b2)] ⟨(HNormal.mk ys1 w1 ys2 w2),rfl,rfl,(by rw [HNormal.er];simp only [hy1,hy2])⟩ (lr _))
end Go.Abs
end
section
namespace Go.Abs
open Go.Proofs
theorem Zcm (S:List Nat) (M:Mem) (v:Value) (xs:List Int) (q:Int) (hd:HdOk S v xs.length:=by exact ob) (hs:skI M (vblk v) xs.length:=by exact ob) (hq:0≤q∧q+((adI (vblk v) 0 xs.length).length:Nat)≤4000000000000:=by exact ob):Z3 Tryz.prog 72 [.val v,.i q] [.own S M] (fun r h=>r=.i (q+((adI (vblk v) 0 xs.length).length:Nat))∧h=[.own S (wr M (adI (vblk v) 0 xs.length) q)]):=by
 have hal:=Zb3 (vblk v) xs.length 0
 refine enter Tryz.func72 kr (n:=19) kr kr (ar (ir 1 [(0,.val v),(1,.i q)] (ie (aq (ar (irk 1 (.n 5 (.i 0) .r) (ie (ab 0 (al (fun m F h=>∃(k:Nat) (z:Int) (N:Mem),(k≤xs.length)∧(0≤z)∧(z+((adI (vblk v) k (xs.length-k)).length:Nat)=q+((adI (vblk v) 0 xs.length).length:Nat))∧(Kp M N)∧(wr N (adI (vblk v) k (xs.length-k)) z=wr M (adI (vblk v) 0 xs.length) q)∧F=[(0,.val v),(1,.i z),(5,.i k)]∧h=[.own S N]∧m=xs.length-k) _ _ _ ⟨0,q,M,ob,ob,(by simp),(Kp.refl M),(by simp),rfl,rfl,rfl⟩ (wk [0] (fr (fr (fc (x:=.i 0) li fl)))) ?_)))))))))
 rintro m F h ⟨k,z,N,c0_0,c0_1,c0_2,c0_3,c0_4,rfl,rfl,rfl⟩
 refine aq (ar (irk 2 (.n 6 (.i k) (.n 7 (.val v) .r)) (is_ (oLen S v xs.length hd) (irk 1 (.n 9 (.b (decide ((k:Int)<(xs.length:Int)))) .r) (ie (ac (decide ((k:Int)<(xs.length:Int))) dq (fun hc1=>?_) (fun hc1=>?_)))))))
 ·have hb:=hd.blk (i:=k) om
  have hdr:=Zp7 (vblk v) xs.length k om
  have hl0:(adI (vblk v) k (xs.length-k)).length=(adI (vblk v) (k+1) (xs.length-(k+1))).length+1:=by rw [hdr];rfl
  have hsk:=hs k om
  rw [←Nat.mul_one k] at hsk
  have kp:=c0_3
  have i0:=kp.i hsk
  refine ak (aq (ab 1 (ar (irk 3 (.n 12 (.val v) (.n 13 (.i k) (.n 14 (.i z) .r))) (is_ (oIdx S v xs.length k 1 (k:Int) hd) (iOS 0 S N (vblk v) (k*1) z hb.1 i0 ?_))))))
  have kp:=kp.upd hsk z
  refine ie (az (irk 1 (.n 16 (.i z) .r) (ia ((z+1)) ((z)+(1)) (ir 1 [(0,.val v),(1,.i (z+1)),(5,.i k)] (ie (az (irk 1 (.n 10 (.i k) .r) (ia (((k+1:Nat):Int)) (((k:Int))+(1)) (irk 1 (.n 5 (.i (k+1:Nat)) (.p (.d (.k (.k .z))))) (ie ?_))))))))))
  exact ⟨_,_,_,ob,⟨k+1,(z+1),upd N (vblk v,k*1) z,ob,ob,ob,kp,(by rw [←c0_4,hdr,wr,Nat.mul_one]),rfl,rfl,rfl⟩,(wk [0] (fr (fr (fc (x:=.i (k+1:Nat)) li fl))))⟩
 have he:adI (vblk v) k (xs.length-k)=[]:=by rw [show xs.length-k=0 by omega];rfl
 rw [he,List.length_nil] at c0_2
 rw [he,wr] at c0_4
 refine ax 0 (ar (ir 2 [(4,.i z)] (ie ?_)))
 exact at_ (r2 [0] [.i z] ⟨rfl,rfl⟩ li (eq:=(Zoq (m:=N) c0_4 rz)))
theorem Zvf (S:List Nat) (M:Mem) (v:Value) (xs:List HCon) (q:Int) (hl:xs.length≤4000000000000:=by exact ob) (hd:HdOk S v xs.length:=by exact ob) (hs:Z9z M S (vblk v) 0 xs:=by exact ob) (hq:0≤q∧q+((Z2y xs).length:Nat)≤4000000000000:=by exact ob):Z3 Tryz.prog 71 [.val v,.i q] [.own S M] (fun r h=>r=.i (q+((Z2y xs).length:Nat))∧h=[.own S (wr M (Z2y xs) q)]):=by
 refine enter Tryz.func71 kr (n:=20) kr kr (ar (ir 1 [(0,.val v),(1,.i q)] (ie (aq (ar (irk 1 (.n 5 (.i 0) .r) (ie (ab 0 (al (fun m F h=>∃(k:Nat) (z:Int) (N:Mem),(k≤xs.length)∧(0≤z)∧(z+((Z2y (xs.drop k)).length:Nat)=q+((Z2y xs).length:Nat))∧(Kp M N)∧(wr N (Z2y (xs.drop k)) z=wr M (Z2y xs) q)∧F=[(0,.val v),(1,.i z),(5,.i k)]∧h=[.own S N]∧m=xs.length-k) _ _ _ ⟨0,q,M,ob,ob,(by simp),(Kp.refl M),(by simp),rfl,rfl,rfl⟩ (wk [0] (fr (fr (fc (x:=.i 0) li fl)))) ?_)))))))))
 rintro m F h ⟨k,z,N,c0_0,c0_1,c0_2,c0_3,c0_4,rfl,rfl,rfl⟩
 refine aq (ar (irk 2 (.n 6 (.i k) (.n 7 (.val v) .r)) (is_ (oLen S v xs.length hd) (irk 1 (.n 9 (.b (decide ((k:Int)<(xs.length:Int)))) .r) (ie (ac (decide ((k:Int)<(xs.length:Int))) dq (fun hc1=>?_) (fun hc1=>?_)))))))
 ·have hb:=hd.blk (i:=k) om
  obtain ⟨x1,hx1⟩:=Z8 (xs:=xs) (j:=k) om
  have e1:=Ze5 hs hx1
  rw [Nat.zero_add] at e1
  obtain ⟨⟨a0,d0⟩,s0⟩:=e1
  rw [←Nat.mul_one k] at a0
  have hdr:=Zg3 hx1
  have hln:(Zxh x1).length=(adI (vblk x1.fv) 0 x1.fields.length).length:=rfl
  have hl0:=congrArg List.length hdr
  rw [List.length_append,hln] at hl0
  have kp:=c0_3
  refine ak (aq (ab 1 (az (irk 2 (.n 12 (.val v) (.n 13 (.i k) .r)) (is_ (oIdx S v xs.length k 1 (k:Int) hd) (irk 1 (.n 15 (.val (.pointer (some ⟨vblk v,k*1,none⟩))) .r) ?_))))))
  have t0:skI N (vblk x1.fv) x1.fields.length:=fun i hi=>kp.i (s0 i hi)
  refine ix_ (oGet 0 S N (vblk v) (k*1) x1.fv hb.1 (kp.h a0 d0.ni)) (irk 1 (.n 17 (.i z) .r) (ic [0] (Zcm S N x1.fv x1.fields z) ?_))
  rintro _ _ ⟨rfl,rfl⟩
  have kp:=kp.wr (Z9h s0) z
  refine ir 1 [(0,.val v),(1,.i (z+((adI (vblk x1.fv) 0 x1.fields.length).length:Nat))),(5,.i k)] (ie (az (irk 1 (.n 10 (.i k) .r) (ia (((k+1:Nat):Int)) (((k:Int))+(1)) (irk 1 (.n 5 (.i (k+1:Nat)) (.p (.d (.k (.k .z))))) (ie ?_))))))
  exact ⟨_,_,_,ob,⟨k+1,(z+((adI (vblk x1.fv) 0 x1.fields.length).length:Nat)),(wr N (adI (vblk x1.fv) 0 x1.fields.length) z),ob,ob,ob,kp,(Zni c0_4 hdr rfl om),rfl,rfl,rfl⟩,(wk [0] (fr (fr (fc (x:=.i (k+1:Nat)) li fl))))⟩
 have he:(Z2y (xs.drop k))=[]:=by rw [List.drop_eq_nil_of_le om];rfl
 rw [he,List.length_nil] at c0_2
 rw [he,wr] at c0_4
 refine ax 0 (ar (ir 2 [(4,.i z)] (ie ?_)))
 exact at_ (r2 [0] [.i z] ⟨rfl,rfl⟩ li (eq:=(Zoq (m:=N) c0_4 rz)))
theorem Zs0 (S:List Nat) (M:Mem) (v:Value) (xs:List HDecl) (q:Int) (hl:∀d∈xs,d.cons.length≤4000000000000) (hd:HdOk S v xs.length:=by exact ob) (hs:Z7y M S (vblk v) 0 xs:=by exact ob) (hq:0≤q∧q+((Z12 (vblk v) 0 xs).length:Nat)≤4000000000000:=by exact ob):Z3 Tryz.prog 32 [.val v,.i q] [.own S M] (fun r h=>r=.i (q+((Z12 (vblk v) 0 xs).length:Nat))∧h=[.own S (wr M (Z12 (vblk v) 0 xs) q)]):=by
 have hal:=Zdf (g:=vblk v) (o:=0) (ds:=xs)
 refine enter Tryz.func32 kr (n:=34) kr kr (ar (ir 1 [(0,.val v),(1,.i q)] (ie (aq (ar (irk 1 (.n 5 (.i 0) .r) (ie (ab 0 (al (fun m F h=>∃(k:Nat) (z:Int) (N:Mem),(k≤xs.length)∧(0≤z)∧(z+((Z12 (vblk v) (k*3) (xs.drop k)).length:Nat)=q+((Z12 (vblk v) 0 xs).length:Nat))∧(Kp M N)∧(wr N (Z12 (vblk v) (k*3) (xs.drop k)) z=wr M (Z12 (vblk v) 0 xs) q)∧F=[(0,.val v),(1,.i z),(5,.i k)]∧h=[.own S N]∧m=xs.length-k) _ _ _ ⟨0,q,M,ob,ob,(by simp),(Kp.refl M),(by simp),rfl,rfl,rfl⟩ (wk [0] (fr (fr (fc (x:=.i 0) li fl)))) ?_)))))))))
 rintro m F h ⟨k,z,N,c0_0,c0_1,c0_2,c0_3,c0_4,rfl,rfl,rfl⟩
 refine aq (ar (irk 2 (.n 6 (.i k) (.n 7 (.val v) .r)) (is_ (oLen S v xs.length hd) (irk 1 (.n 9 (.b (decide ((k:Int)<(xs.length:Int)))) .r) (ie (ac (decide ((k:Int)<(xs.length:Int))) dq (fun hc1=>?_) (fun hc1=>?_)))))))
 ·have hb:=hd.blk (i:=k) om
  obtain ⟨x1,hx1⟩:=Z8 (xs:=xs) (j:=k) om
  have e1:=Zbi hs hx1
  rw [Nat.zero_add] at e1
  obtain ⟨i0,i1,⟨a2,d2⟩,s2⟩:=e1
  have hdr:=Zef (g:=vblk v) hx1
  have hl1:=hl x1 (List.mem_of_getElem? hx1)
  have hln:=Zfp (g:=vblk v) (o:=k*3) (d:=x1)
  have hl0:=congrArg List.length hdr
  rw [List.length_append,hln] at hl0
  have kp:=c0_3
  refine ak (aq (ab 1 (ar (irk 3 (.n 12 (.val v) (.n 13 (.i k) (.n 14 (.i z) .r))) (is_ (oIdx S v xs.length k 3 (k:Int) hd) (irk 1 (.n 16 (.val (.pointer (some ⟨vblk v,k*3,none⟩))) .r) (iOS 0 S N (vblk v) (k*3) z hb.1 (kp.i i0) ?_)))))))
  have kp:=kp.upd i0 z
  refine ie (ar (irk 1 (.n 17 (.i z) .r) (ia ((z+1)) ((z)+(1)) (ir 1 [(0,.val v),(1,.i (z+1)),(5,.i k)] (ie (ar (irk 3 (.n 19 (.val v) (.n 20 (.i k) (.n 21 (.i (z+1)) .r))) (is_ (oIdx S v xs.length k 3 (k:Int) hd) (irk 1 (.n 23 (.val (.pointer (some ⟨vblk v,k*3+1,none⟩))) .r) (iOS 0 S (upd N (vblk v,k*3) z) (vblk v) (k*3+1) (z+1) hb.1 (kp.i i1) ?_))))))))))
  have kp:=kp.upd i1 (z+1)
  refine ie (ar (irk 1 (.n 24 (.i (z+1)) .r) (ia (((z+1)+1)) (((z+1))+(1)) (ir 1 [(0,.val v),(1,.i ((z+1)+1)),(5,.i k)] (ie (az (irk 2 (.n 26 (.val v) (.n 27 (.i k) .r)) (is_ (oIdx S v xs.length k 3 (k:Int) hd) (irk 1 (.n 29 (.val (.pointer (some ⟨vblk v,k*3+2,none⟩))) .r) ?_)))))))))
  have t2:Z9z (upd (upd N (vblk v,k*3) z) (vblk v,k*3+1) (z+1)) S (vblk x1.cv) 0 x1.cons:=Zhc kp s2
  refine ix_ (oGet 0 S (upd (upd N (vblk v,k*3) z) (vblk v,k*3+1) (z+1)) (vblk v) (k*3+2) x1.cv hb.1 (kp.h a2 d2.ni)) (irk 1 (.n 31 (.i ((z+1)+1)) .r) (ic [0] (Zvf S (upd (upd N (vblk v,k*3) z) (vblk v,k*3+1) (z+1)) x1.cv x1.cons ((z+1)+1)) ?_))
  rintro _ _ ⟨rfl,rfl⟩
  have kp:=kp.wr (Zde s2) ((z+1)+1)
  refine ir 1 [(0,.val v),(1,.i (((z+1)+1)+((Z2y x1.cons).length:Nat))),(5,.i k)] (ie (az (irk 1 (.n 10 (.i k) .r) (ia (((k+1:Nat):Int)) (((k:Int))+(1)) (irk 1 (.n 5 (.i (k+1:Nat)) (.p (.d (.k (.k .z))))) (ie ?_))))))
  exact ⟨_,_,_,ob,⟨k+1,(((z+1)+1)+((Z2y x1.cons).length:Nat)),(wr (upd (upd N (vblk v,k*3) z) (vblk v,k*3+1) (z+1)) (Z2y x1.cons) ((z+1)+1)),ob,ob,ob,kp,(Zni c0_4 hdr Z030 om),rfl,rfl,rfl⟩,(wk [0] (fr (fr (fc (x:=.i (k+1:Nat)) li fl))))⟩
 have he:(Z12 (vblk v) (k*3) (xs.drop k))=[]:=by rw [List.drop_eq_nil_of_le om];rfl
 rw [he,List.length_nil] at c0_2
 rw [he,wr] at c0_4
 refine ax 0 (ar (ir 2 [(4,.i z)] (ie ?_)))
 exact at_ (r2 [0] [.i z] ⟨rfl,rfl⟩ li (eq:=(Zoq (m:=N) c0_4 rz)))
theorem Zol (S:List Nat) (M:Mem) (v:Value) (xs:List HStep) (q:Int) (ih:∀(S:List Nat) (M:Mem) (v:Value) (ys:List HBlock) (q:Int),(SizeOf.sizeOf ys<SizeOf.sizeOf xs)→(HdOk S v ys.length)→(Z2f M S (vblk v) 0 ys)→(0≤q∧q+((Z06 (vblk v) 0 ys).length:Nat)≤4000000000000)→Z3 Tryz.prog 130 [.val v,.i q] [.own S M] (fun r h=>r=.i (q+((Z06 (vblk v) 0 ys).length:Nat))∧h=[.own S (wr M (Z06 (vblk v) 0 ys) q)])) (hd:HdOk S v xs.length) (hs:Z2p M S (vblk v) 0 xs) (hq:0≤q∧q+((Ze (vblk v) 0 xs).length:Nat)≤4000000000000):Z3 Tryz.prog 73 [.val v,.i q] [.own S M] (fun r h=>r=.i (q+((Ze (vblk v) 0 xs).length:Nat))∧h=[.own S (wr M (Ze (vblk v) 0 xs) q)]):=by
 have hal:=Zdg (g:=vblk v) (o:=0) (xs:=xs)
 refine enter Tryz.func73 kr (n:=48) kr kr (ar (ir 1 [(0,.val v),(1,.i q)] (ie (aq (ar (irk 1 (.n 5 (.i 0) .r) (ie (ab 0 (al (fun m F h=>∃(k:Nat) (z:Int) (N:Mem),(k≤xs.length)∧(0≤z)∧(z+((Ze (vblk v) (k*5) (xs.drop k)).length:Nat)=q+((Ze (vblk v) 0 xs).length:Nat))∧(Kp M N)∧(wr N (Ze (vblk v) (k*5) (xs.drop k)) z=wr M (Ze (vblk v) 0 xs) q)∧F=[(0,.val v),(1,.i z),(5,.i k)]∧h=[.own S N]∧m=xs.length-k) _ _ _ ⟨0,q,M,ob,ob,(by simp),(Kp.refl M),(by simp),rfl,rfl,rfl⟩ (wk [0] (fr (fr (fc (x:=.i 0) li fl)))) ?_)))))))))
 rintro m F h ⟨k,z,N,c0_0,c0_1,c0_2,c0_3,c0_4,rfl,rfl,rfl⟩
 refine aq (ar (irk 2 (.n 6 (.i k) (.n 7 (.val v) .r)) (is_ (oLen S v xs.length hd) (irk 1 (.n 9 (.b (decide ((k:Int)<(xs.length:Int)))) .r) (ie (ac (decide ((k:Int)<(xs.length:Int))) dq (fun hc1=>?_) (fun hc1=>?_)))))))
 ·have hb:=hd.blk (i:=k) om
  obtain ⟨x1,hx1⟩:=Z8 (xs:=xs) (j:=k) om
  have e1:=Zbj hs hx1
  rw [Nat.zero_add] at e1
  rw [Zmy] at e1
  have hz:SizeOf.sizeOf x1.kids<SizeOf.sizeOf xs:=Zps hx1
  obtain ⟨⟨i0,i1,i2⟩,⟨⟨a3,d3⟩,s3⟩,⟨⟨a4,d4⟩,s4⟩⟩:=e1
  have hdr:=Zei (g:=vblk v) hx1
  have hln:=Zkc (g:=vblk v) (o:=k*5) (s:=x1)
  have hl0:=congrArg List.length hdr
  rw [List.length_append,hln] at hl0
  have kp:=c0_3
  refine ak (aq (ab 1 (ar (irk 3 (.n 12 (.val v) (.n 13 (.i k) (.n 14 (.i z) .r))) (is_ (oIdx S v xs.length k 5 (k:Int) hd) (irk 1 (.n 16 (.val (.pointer (some ⟨vblk v,k*5,none⟩))) .r) (iOS 0 S N (vblk v) (k*5) z hb.1 (kp.i i0) ?_)))))))
  have kp:=kp.upd i0 z
  refine ie (ar (irk 1 (.n 17 (.i z) .r) (ia ((z+1)) ((z)+(1)) (ir 1 [(0,.val v),(1,.i (z+1)),(5,.i k)] (ie (ar (irk 3 (.n 19 (.val v) (.n 20 (.i k) (.n 21 (.i (z+1)) .r))) (is_ (oIdx S v xs.length k 5 (k:Int) hd) (irk 1 (.n 23 (.val (.pointer (some ⟨vblk v,k*5+1,none⟩))) .r) (iOS 0 S (upd N (vblk v,k*5) z) (vblk v) (k*5+1) (z+1) hb.1 (kp.i i1) ?_))))))))))
  have kp:=kp.upd i1 (z+1)
  refine ie (ar (irk 1 (.n 24 (.i (z+1)) .r) (ia (((z+1)+1)) (((z+1))+(1)) (ir 1 [(0,.val v),(1,.i ((z+1)+1)),(5,.i k)] (ie (ar (irk 3 (.n 26 (.val v) (.n 27 (.i k) (.n 28 (.i ((z+1)+1)) .r))) (is_ (oIdx S v xs.length k 5 (k:Int) hd) (irk 1 (.n 30 (.val (.pointer (some ⟨vblk v,k*5+2,none⟩))) .r) (iOS 0 S (upd (upd N (vblk v,k*5) z) (vblk v,k*5+1) (z+1)) (vblk v) (k*5+2) ((z+1)+1) hb.1 (kp.i i2) ?_))))))))))
  have kp:=kp.upd i2 ((z+1)+1)
  refine ie (ar (irk 1 (.n 31 (.i ((z+1)+1)) .r) (ia ((((z+1)+1)+1)) ((((z+1)+1))+(1)) (ir 1 [(0,.val v),(1,.i (((z+1)+1)+1)),(5,.i k)] (ie (ar (irk 2 (.n 33 (.val v) (.n 34 (.i k) .r)) (is_ (oIdx S v xs.length k 5 (k:Int) hd) (irk 1 (.n 36 (.val (.pointer (some ⟨vblk v,k*5+3,none⟩))) .r) ?_)))))))))
  have t3:skI (upd (upd (upd N (vblk v,k*5) z) (vblk v,k*5+1) (z+1)) (vblk v,k*5+2) ((z+1)+1)) (vblk x1.av) x1.args.length:=fun i hi=>kp.i (s3 i hi)
  refine ix_ (oGet 0 S (upd (upd (upd N (vblk v,k*5) z) (vblk v,k*5+1) (z+1)) (vblk v,k*5+2) ((z+1)+1)) (vblk v) (k*5+3) x1.av hb.1 (kp.h a3 d3.ni)) (irk 1 (.n 38 (.i (((z+1)+1)+1)) .r) (ic [0] (Zcm S (upd (upd (upd N (vblk v,k*5) z) (vblk v,k*5+1) (z+1)) (vblk v,k*5+2) ((z+1)+1)) x1.av x1.args (((z+1)+1)+1)) ?_))
  rintro _ _ ⟨rfl,rfl⟩
  have kp:=kp.wr (Z9h s3) (((z+1)+1)+1)
  refine ir 1 [(0,.val v),(1,.i ((((z+1)+1)+1)+((adI (vblk x1.av) 0 x1.args.length).length:Nat))),(5,.i k)] (ie (az (irk 2 (.n 40 (.val v) (.n 41 (.i k) .r)) (is_ (oIdx S v xs.length k 5 (k:Int) hd) (irk 1 (.n 43 (.val (.pointer (some ⟨vblk v,k*5+4,none⟩))) .r) ?_)))))
  have t4:Z2f (wr (upd (upd (upd N (vblk v,k*5) z) (vblk v,k*5+1) (z+1)) (vblk v,k*5+2) ((z+1)+1)) (adI (vblk x1.av) 0 x1.args.length) (((z+1)+1)+1)) S (vblk x1.kv) 0 x1.kids:=Zbh kp s4
  refine ix_ (oGet 0 S (wr (upd (upd (upd N (vblk v,k*5) z) (vblk v,k*5+1) (z+1)) (vblk v,k*5+2) ((z+1)+1)) (adI (vblk x1.av) 0 x1.args.length) (((z+1)+1)+1)) (vblk v) (k*5+4) x1.kv hb.1 (kp.h a4 d4.ni)) (irk 1 (.n 45 (.i ((((z+1)+1)+1)+((adI (vblk x1.av) 0 x1.args.length).length:Nat))) .r) (ic [0] (ih S (wr (upd (upd (upd N (vblk v,k*5) z) (vblk v,k*5+1) (z+1)) (vblk v,k*5+2) ((z+1)+1)) (adI (vblk x1.av) 0 x1.args.length) (((z+1)+1)+1)) x1.kv x1.kids ((((z+1)+1)+1)+((adI (vblk x1.av) 0 x1.args.length).length:Nat)) ob ob ob ob) ?_))
  rintro _ _ ⟨rfl,rfl⟩
  have kp:=kp.wr (Z9g s4) ((((z+1)+1)+1)+((adI (vblk x1.av) 0 x1.args.length).length:Nat))
  refine ir 1 [(0,.val v),(1,.i (((((z+1)+1)+1)+((adI (vblk x1.av) 0 x1.args.length).length:Nat))+((Z06 (vblk x1.kv) 0 x1.kids).length:Nat))),(5,.i k)] (ie (az (irk 1 (.n 10 (.i k) .r) (ia (((k+1:Nat):Int)) (((k:Int))+(1)) (irk 1 (.n 5 (.i (k+1:Nat)) (.p (.d (.k (.k .z))))) (ie ?_))))))
  exact ⟨_,_,_,ob,⟨k+1,(((((z+1)+1)+1)+((adI (vblk x1.av) 0 x1.args.length).length:Nat))+((Z06 (vblk x1.kv) 0 x1.kids).length:Nat)),(wr (wr (upd (upd (upd N (vblk v,k*5) z) (vblk v,k*5+1) (z+1)) (vblk v,k*5+2) ((z+1)+1)) (adI (vblk x1.av) 0 x1.args.length) (((z+1)+1)+1)) (Z06 (vblk x1.kv) 0 x1.kids) ((((z+1)+1)+1)+((adI (vblk x1.av) 0 x1.args.length).length:Nat))),ob,ob,ob,kp,(Zni c0_4 hdr Zzr om),rfl,rfl,rfl⟩,(wk [0] (fr (fr (fc (x:=.i (k+1:Nat)) li fl))))⟩
 have he:(Ze (vblk v) (k*5) (xs.drop k))=[]:=by rw [List.drop_eq_nil_of_le om,Ze]
 rw [he,List.length_nil] at c0_2
 rw [he,wr] at c0_4
 refine ax 0 (ar (ir 2 [(4,.i z)] (ie ?_)))
 exact at_ (r2 [0] [.i z] ⟨rfl,rfl⟩ li (eq:=(Zoq (m:=N) c0_4 rz)))
theorem Zme (S:List Nat) (M:Mem) (v:Value) (xs:List HBlock) (q:Int) (ih:∀(S:List Nat) (M:Mem) (v:Value) (ys:List HStep) (q:Int),(SizeOf.sizeOf ys<SizeOf.sizeOf xs)→(HdOk S v ys.length)→(Z2p M S (vblk v) 0 ys)→(0≤q∧q+((Ze (vblk v) 0 ys).length:Nat)≤4000000000000)→Z3 Tryz.prog 73 [.val v,.i q] [.own S M] (fun r h=>r=.i (q+((Ze (vblk v) 0 ys).length:Nat))∧h=[.own S (wr M (Ze (vblk v) 0 ys) q)])) (hd:HdOk S v xs.length) (hs:Z2f M S (vblk v) 0 xs) (hq:0≤q∧q+((Z06 (vblk v) 0 xs).length:Nat)≤4000000000000):Z3 Tryz.prog 130 [.val v,.i q] [.own S M] (fun r h=>r=.i (q+((Z06 (vblk v) 0 xs).length:Nat))∧h=[.own S (wr M (Z06 (vblk v) 0 xs) q)]):=by
 have hal:=Zb1 (g:=vblk v) (o:=0) (xs:=xs)
 refine enter Tryz.func130 kr (n:=27) kr kr (ar (ir 1 [(0,.val v),(1,.i q)] (ie (aq (ar (irk 1 (.n 5 (.i 0) .r) (ie (ab 0 (al (fun m F h=>∃(k:Nat) (z:Int) (N:Mem),(k≤xs.length)∧(0≤z)∧(z+((Z06 (vblk v) (k*2) (xs.drop k)).length:Nat)=q+((Z06 (vblk v) 0 xs).length:Nat))∧(Kp M N)∧(wr N (Z06 (vblk v) (k*2) (xs.drop k)) z=wr M (Z06 (vblk v) 0 xs) q)∧F=[(0,.val v),(1,.i z),(5,.i k)]∧h=[.own S N]∧m=xs.length-k) _ _ _ ⟨0,q,M,ob,ob,(by simp),(Kp.refl M),(by simp),rfl,rfl,rfl⟩ (wk [0] (fr (fr (fc (x:=.i 0) li fl)))) ?_)))))))))
 rintro m F h ⟨k,z,N,c0_0,c0_1,c0_2,c0_3,c0_4,rfl,rfl,rfl⟩
 refine aq (ar (irk 2 (.n 6 (.i k) (.n 7 (.val v) .r)) (is_ (oLen S v xs.length hd) (irk 1 (.n 9 (.b (decide ((k:Int)<(xs.length:Int)))) .r) (ie (ac (decide ((k:Int)<(xs.length:Int))) dq (fun hc1=>?_) (fun hc1=>?_)))))))
 ·have hb:=hd.blk (i:=k) om
  obtain ⟨x1,hx1⟩:=Z8 (xs:=xs) (j:=k) om
  have e1:=Z9y hs hx1
  rw [Nat.zero_add] at e1
  rw [Zje] at e1
  have hz:SizeOf.sizeOf x1.steps<SizeOf.sizeOf xs:=Zlz hx1
  obtain ⟨⟨⟨a0,d0⟩,s0⟩,i1⟩:=e1
  have hdr:=Zbu (g:=vblk v) hx1
  have hln:=Zgy (g:=vblk v) (o:=k*2) (b:=x1)
  have hl0:=congrArg List.length hdr
  rw [List.length_append,hln] at hl0
  have kp:=c0_3
  refine ak (aq (ab 1 (ar (irk 2 (.n 12 (.val v) (.n 13 (.i k) .r)) (is_ (oIdx S v xs.length k 2 (k:Int) hd) (irk 1 (.n 15 (.val (.pointer (some ⟨vblk v,k*2,none⟩))) .r) ?_))))))
  have t0:Z2p N S (vblk x1.sv) 0 x1.steps:=Z8d kp s0
  refine ix_ (oGet 0 S N (vblk v) (k*2) x1.sv hb.1 (kp.h a0 d0.ni)) (irk 1 (.n 17 (.i z) .r) (ic [0] (ih S N x1.sv x1.steps z ob ob ob ob) ?_))
  rintro _ _ ⟨rfl,rfl⟩
  have kp:=kp.wr (Z72 s0) z
  refine ir 1 [(0,.val v),(1,.i (z+((Ze (vblk x1.sv) 0 x1.steps).length:Nat))),(5,.i k)] (ie (ar (irk 3 (.n 19 (.val v) (.n 20 (.i k) (.n 21 (.i (z+((Ze (vblk x1.sv) 0 x1.steps).length:Nat))) .r))) (is_ (oIdx S v xs.length k 2 (k:Int) hd) (irk 1 (.n 23 (.val (.pointer (some ⟨vblk v,k*2+1,none⟩))) .r) (iOS 0 S (wr N (Ze (vblk x1.sv) 0 x1.steps) z) (vblk v) (k*2+1) (z+((Ze (vblk x1.sv) 0 x1.steps).length:Nat)) hb.1 (kp.i i1) ?_))))))
  have kp:=kp.upd i1 (z+((Ze (vblk x1.sv) 0 x1.steps).length:Nat))
  refine ie (az (irk 1 (.n 24 (.i (z+((Ze (vblk x1.sv) 0 x1.steps).length:Nat))) .r) (ia (((z+((Ze (vblk x1.sv) 0 x1.steps).length:Nat))+1)) (((z+((Ze (vblk x1.sv) 0 x1.steps).length:Nat)))+(1)) (ir 1 [(0,.val v),(1,.i ((z+((Ze (vblk x1.sv) 0 x1.steps).length:Nat))+1)),(5,.i k)] (ie (az (irk 1 (.n 10 (.i k) .r) (ia (((k+1:Nat):Int)) (((k:Int))+(1)) (irk 1 (.n 5 (.i (k+1:Nat)) (.p (.d (.k (.k .z))))) (ie ?_))))))))))
  exact ⟨_,_,_,ob,⟨k+1,((z+((Ze (vblk x1.sv) 0 x1.steps).length:Nat))+1),upd (wr N (Ze (vblk x1.sv) 0 x1.steps) z) (vblk v,k*2+1) (z+((Ze (vblk x1.sv) 0 x1.steps).length:Nat)),ob,ob,ob,kp,(Zni c0_4 hdr Zxe om),rfl,rfl,rfl⟩,(wk [0] (fr (fr (fc (x:=.i (k+1:Nat)) li fl))))⟩
 have he:(Z06 (vblk v) (k*2) (xs.drop k))=[]:=by rw [List.drop_eq_nil_of_le om,Z06]
 rw [he,List.length_nil] at c0_2
 rw [he,wr] at c0_4
 refine ax 0 (ar (ir 2 [(4,.i z)] (ie ?_)))
 exact at_ (r2 [0] [.i z] ⟨rfl,rfl⟩ li (eq:=(Zoq (m:=N) c0_4 rz)))
theorem Zvh (n:Nat):(∀(S:List Nat) (M:Mem) (v:Value) (xs:List HStep) (q:Int),(SizeOf.sizeOf xs<n)→(HdOk S v xs.length)→(Z2p M S (vblk v) 0 xs)→(0≤q∧q+((Ze (vblk v) 0 xs).length:Nat)≤4000000000000)→Z3 Tryz.prog 73 [.val v,.i q] [.own S M] (fun r h=>r=.i (q+((Ze (vblk v) 0 xs).length:Nat))∧h=[.own S (wr M (Ze (vblk v) 0 xs) q)]))∧(∀(S:List Nat) (M:Mem) (v:Value) (xs:List HBlock) (q:Int),(SizeOf.sizeOf xs<n)→(HdOk S v xs.length)→(Z2f M S (vblk v) 0 xs)→(0≤q∧q+((Z06 (vblk v) 0 xs).length:Nat)≤4000000000000)→Z3 Tryz.prog 130 [.val v,.i q] [.own S M] (fun r h=>r=.i (q+((Z06 (vblk v) 0 xs).length:Nat))∧h=[.own S (wr M (Z06 (vblk v) 0 xs) q)])):=by
 induction n with
 | zero=>exact ⟨fun _ _ _ _ _ h=>by omega,fun _ _ _ _ _ h=>by omega⟩
 | succ n ih=>
  obtain ⟨i1,i2⟩:=ih
  exact ⟨fun S M v xs q hz h3 h4 h9=>Zol S M v xs q (fun S M v ys q hz2 h3 h4 h9=>i2 S M v ys q om h3 h4 h9) h3 h4 h9,fun S M v xs q hz h3 h4 h9=>Zme S M v xs q (fun S M v ys q hz2 h3 h4 h9=>i1 S M v ys q om h3 h4 h9) h3 h4 h9⟩
theorem Zs1 (S:List Nat) (M:Mem) (v:Value) (xs:List HStep) (q:Int) (hd:HdOk S v xs.length:=by exact ob) (hs:Z2p M S (vblk v) 0 xs:=by exact ob) (hq:0≤q∧q+((Ze (vblk v) 0 xs).length:Nat)≤4000000000000:=by exact ob):Z3 Tryz.prog 73 [.val v,.i q] [.own S M] (fun r h=>r=.i (q+((Ze (vblk v) 0 xs).length:Nat))∧h=[.own S (wr M (Ze (vblk v) 0 xs) q)]):=(Zvh (SizeOf.sizeOf xs+1)).1 S M v xs q om hd hs hq
theorem Zkf (S:List Nat) (M:Mem) (v:Value) (xs:List HRoutine) (q:Int) (hd:HdOk S v xs.length:=by exact ob) (hs:Z49 M S (vblk v) 0 xs:=by exact ob) (hq:0≤q∧q+((Z0d (vblk v) 0 xs).length:Nat)≤4000000000000:=by exact ob):Z3 Tryz.prog 33 [.val v,.i q] [.own S M] (fun r h=>r=.i (q+((Z0d (vblk v) 0 xs).length:Nat))∧h=[.own S (wr M (Z0d (vblk v) 0 xs) q)]):=by
 have hal:=Z8j (g:=vblk v) (o:=0) (xs:=xs)
 refine enter Tryz.func33 kr (n:=50) kr kr (ar (ir 1 [(0,.val v),(1,.i q)] (ie (aq (ar (irk 1 (.n 5 (.i 0) .r) (ie (ab 0 (al (fun m F h=>∃(k:Nat) (z:Int) (N:Mem),(k≤xs.length)∧(0≤z)∧(z+((Z0d (vblk v) (k*5) (xs.drop k)).length:Nat)=q+((Z0d (vblk v) 0 xs).length:Nat))∧(Kp M N)∧(wr N (Z0d (vblk v) (k*5) (xs.drop k)) z=wr M (Z0d (vblk v) 0 xs) q)∧F=[(0,.val v),(1,.i z),(5,.i k)]∧h=[.own S N]∧m=xs.length-k) _ _ _ ⟨0,q,M,ob,ob,(by simp),(Kp.refl M),(by simp),rfl,rfl,rfl⟩ (wk [0] (fr (fr (fc (x:=.i 0) li fl)))) ?_)))))))))
 rintro m F h ⟨k,z,N,c0_0,c0_1,c0_2,c0_3,c0_4,rfl,rfl,rfl⟩
 refine aq (ar (irk 2 (.n 6 (.i k) (.n 7 (.val v) .r)) (is_ (oLen S v xs.length hd) (irk 1 (.n 9 (.b (decide ((k:Int)<(xs.length:Int)))) .r) (ie (ac (decide ((k:Int)<(xs.length:Int))) dq (fun hc1=>?_) (fun hc1=>?_)))))))
 ·have hb:=hd.blk (i:=k) om
  obtain ⟨x1,hx1⟩:=Z8 (xs:=xs) (j:=k) om
  have e1:=Z7z hs hx1
  rw [Nat.zero_add] at e1
  obtain ⟨⟨⟨a0,d0⟩,s0⟩,⟨⟨a1,d1⟩,s1⟩,i2,⟨⟨a3,d3⟩,s3⟩,i4⟩:=e1
  have hdr:=Z9i (g:=vblk v) hx1
  have hln:=Z8s (g:=vblk v) (o:=k*5) (r:=x1)
  have hl0:=congrArg List.length hdr
  rw [List.length_append,hln] at hl0
  have kp:=c0_3
  refine ak (aq (ab 1 (ar (irk 2 (.n 12 (.val v) (.n 13 (.i k) .r)) (is_ (oIdx S v xs.length k 5 (k:Int) hd) (irk 1 (.n 15 (.val (.pointer (some ⟨vblk v,k*5,none⟩))) .r) ?_))))))
  have t0:skI N (vblk x1.pv) x1.params.length:=fun i hi=>kp.i (s0 i hi)
  refine ix_ (oGet 0 S N (vblk v) (k*5) x1.pv hb.1 (kp.h a0 d0.ni)) (irk 1 (.n 17 (.i z) .r) (ic [0] (Zcm S N x1.pv x1.params z) ?_))
  rintro _ _ ⟨rfl,rfl⟩
  have kp:=kp.wr (Z9h s0) z
  refine ir 1 [(0,.val v),(1,.i (z+((adI (vblk x1.pv) 0 x1.params.length).length:Nat))),(5,.i k)] (ie (ar (irk 2 (.n 19 (.val v) (.n 20 (.i k) .r)) (is_ (oIdx S v xs.length k 5 (k:Int) hd) (irk 1 (.n 22 (.val (.pointer (some ⟨vblk v,k*5+1,none⟩))) .r) ?_)))))
  have t1:skI (wr N (adI (vblk x1.pv) 0 x1.params.length) z) (vblk x1.lv) x1.lent.length:=fun i hi=>kp.i (s1 i hi)
  refine ix_ (oGet 0 S (wr N (adI (vblk x1.pv) 0 x1.params.length) z) (vblk v) (k*5+1) x1.lv hb.1 (kp.h a1 d1.ni)) (irk 1 (.n 24 (.i (z+((adI (vblk x1.pv) 0 x1.params.length).length:Nat))) .r) (ic [0] (Zcm S (wr N (adI (vblk x1.pv) 0 x1.params.length) z) x1.lv x1.lent (z+((adI (vblk x1.pv) 0 x1.params.length).length:Nat))) ?_))
  rintro _ _ ⟨rfl,rfl⟩
  have kp:=kp.wr (Z9h s1) (z+((adI (vblk x1.pv) 0 x1.params.length).length:Nat))
  refine ir 1 [(0,.val v),(1,.i ((z+((adI (vblk x1.pv) 0 x1.params.length).length:Nat))+((adI (vblk x1.lv) 0 x1.lent.length).length:Nat))),(5,.i k)] (ie (ar (irk 3 (.n 26 (.val v) (.n 27 (.i k) (.n 28 (.i ((z+((adI (vblk x1.pv) 0 x1.params.length).length:Nat))+((adI (vblk x1.lv) 0 x1.lent.length).length:Nat))) .r))) (is_ (oIdx S v xs.length k 5 (k:Int) hd) (irk 1 (.n 30 (.val (.pointer (some ⟨vblk v,k*5+2,none⟩))) .r) (iOS 0 S (wr (wr N (adI (vblk x1.pv) 0 x1.params.length) z) (adI (vblk x1.lv) 0 x1.lent.length) (z+((adI (vblk x1.pv) 0 x1.params.length).length:Nat))) (vblk v) (k*5+2) ((z+((adI (vblk x1.pv) 0 x1.params.length).length:Nat))+((adI (vblk x1.lv) 0 x1.lent.length).length:Nat)) hb.1 (kp.i i2) ?_))))))
  have kp:=kp.upd i2 ((z+((adI (vblk x1.pv) 0 x1.params.length).length:Nat))+((adI (vblk x1.lv) 0 x1.lent.length).length:Nat))
  refine ie (ar (irk 1 (.n 31 (.i ((z+((adI (vblk x1.pv) 0 x1.params.length).length:Nat))+((adI (vblk x1.lv) 0 x1.lent.length).length:Nat))) .r) (ia ((((z+((adI (vblk x1.pv) 0 x1.params.length).length:Nat))+((adI (vblk x1.lv) 0 x1.lent.length).length:Nat))+1)) ((((z+((adI (vblk x1.pv) 0 x1.params.length).length:Nat))+((adI (vblk x1.lv) 0 x1.lent.length).length:Nat)))+(1)) (ir 1 [(0,.val v),(1,.i (((z+((adI (vblk x1.pv) 0 x1.params.length).length:Nat))+((adI (vblk x1.lv) 0 x1.lent.length).length:Nat))+1)),(5,.i k)] (ie (ar (irk 2 (.n 33 (.val v) (.n 34 (.i k) .r)) (is_ (oIdx S v xs.length k 5 (k:Int) hd) (irk 2 (.n 37 (.val (.pointer (some ⟨vblk v,k*5+3,none⟩))) .r) ?_)))))))))
  have t3:Z2p (upd (wr (wr N (adI (vblk x1.pv) 0 x1.params.length) z) (adI (vblk x1.lv) 0 x1.lent.length) (z+((adI (vblk x1.pv) 0 x1.params.length).length:Nat))) (vblk v,k*5+2) ((z+((adI (vblk x1.pv) 0 x1.params.length).length:Nat))+((adI (vblk x1.lv) 0 x1.lent.length).length:Nat))) S (vblk x1.body.sv) 0 x1.body.steps:=Z8d kp s3
  refine ix_ (oGet 0 S (upd (wr (wr N (adI (vblk x1.pv) 0 x1.params.length) z) (adI (vblk x1.lv) 0 x1.lent.length) (z+((adI (vblk x1.pv) 0 x1.params.length).length:Nat))) (vblk v,k*5+2) ((z+((adI (vblk x1.pv) 0 x1.params.length).length:Nat))+((adI (vblk x1.lv) 0 x1.lent.length).length:Nat))) (vblk v) (k*5+3) x1.body.sv hb.1 (kp.h a3 d3.ni)) (irk 1 (.n 39 (.i (((z+((adI (vblk x1.pv) 0 x1.params.length).length:Nat))+((adI (vblk x1.lv) 0 x1.lent.length).length:Nat))+1)) .r) (ic [0] (Zs1 S (upd (wr (wr N (adI (vblk x1.pv) 0 x1.params.length) z) (adI (vblk x1.lv) 0 x1.lent.length) (z+((adI (vblk x1.pv) 0 x1.params.length).length:Nat))) (vblk v,k*5+2) ((z+((adI (vblk x1.pv) 0 x1.params.length).length:Nat))+((adI (vblk x1.lv) 0 x1.lent.length).length:Nat))) x1.body.sv x1.body.steps (((z+((adI (vblk x1.pv) 0 x1.params.length).length:Nat))+((adI (vblk x1.lv) 0 x1.lent.length).length:Nat))+1)) ?_))
  rintro _ _ ⟨rfl,rfl⟩
  have kp:=kp.wr (Z72 s3) (((z+((adI (vblk x1.pv) 0 x1.params.length).length:Nat))+((adI (vblk x1.lv) 0 x1.lent.length).length:Nat))+1)
  refine ir 1 [(0,.val v),(1,.i ((((z+((adI (vblk x1.pv) 0 x1.params.length).length:Nat))+((adI (vblk x1.lv) 0 x1.lent.length).length:Nat))+1)+((Ze (vblk x1.body.sv) 0 x1.body.steps).length:Nat))),(5,.i k)] (ie (ar (irk 3 (.n 41 (.val v) (.n 42 (.i k) (.n 43 (.i ((((z+((adI (vblk x1.pv) 0 x1.params.length).length:Nat))+((adI (vblk x1.lv) 0 x1.lent.length).length:Nat))+1)+((Ze (vblk x1.body.sv) 0 x1.body.steps).length:Nat))) .r))) (is_ (oIdx S v xs.length k 5 (k:Int) hd) (irk 2 (.n 46 (.val (.pointer (some ⟨vblk v,k*5+4,none⟩))) .r) (iOS 0 S (wr (upd (wr (wr N (adI (vblk x1.pv) 0 x1.params.length) z) (adI (vblk x1.lv) 0 x1.lent.length) (z+((adI (vblk x1.pv) 0 x1.params.length).length:Nat))) (vblk v,k*5+2) ((z+((adI (vblk x1.pv) 0 x1.params.length).length:Nat))+((adI (vblk x1.lv) 0 x1.lent.length).length:Nat))) (Ze (vblk x1.body.sv) 0 x1.body.steps) (((z+((adI (vblk x1.pv) 0 x1.params.length).length:Nat))+((adI (vblk x1.lv) 0 x1.lent.length).length:Nat))+1)) (vblk v) (k*5+4) ((((z+((adI (vblk x1.pv) 0 x1.params.length).length:Nat))+((adI (vblk x1.lv) 0 x1.lent.length).length:Nat))+1)+((Ze (vblk x1.body.sv) 0 x1.body.steps).length:Nat)) hb.1 (kp.i i4) ?_))))))
  have kp:=kp.upd i4 ((((z+((adI (vblk x1.pv) 0 x1.params.length).length:Nat))+((adI (vblk x1.lv) 0 x1.lent.length).length:Nat))+1)+((Ze (vblk x1.body.sv) 0 x1.body.steps).length:Nat))
  refine ie (az (irk 1 (.n 47 (.i ((((z+((adI (vblk x1.pv) 0 x1.params.length).length:Nat))+((adI (vblk x1.lv) 0 x1.lent.length).length:Nat))+1)+((Ze (vblk x1.body.sv) 0 x1.body.steps).length:Nat))) .r) (ia ((((((z+((adI (vblk x1.pv) 0 x1.params.length).length:Nat))+((adI (vblk x1.lv) 0 x1.lent.length).length:Nat))+1)+((Ze (vblk x1.body.sv) 0 x1.body.steps).length:Nat))+1)) ((((((z+((adI (vblk x1.pv) 0 x1.params.length).length:Nat))+((adI (vblk x1.lv) 0 x1.lent.length).length:Nat))+1)+((Ze (vblk x1.body.sv) 0 x1.body.steps).length:Nat)))+(1)) (ir 1 [(0,.val v),(1,.i (((((z+((adI (vblk x1.pv) 0 x1.params.length).length:Nat))+((adI (vblk x1.lv) 0 x1.lent.length).length:Nat))+1)+((Ze (vblk x1.body.sv) 0 x1.body.steps).length:Nat))+1)),(5,.i k)] (ie (az (irk 1 (.n 10 (.i k) .r) (ia (((k+1:Nat):Int)) (((k:Int))+(1)) (irk 1 (.n 5 (.i (k+1:Nat)) (.p (.d (.k (.k .z))))) (ie ?_))))))))))
  exact ⟨_,_,_,ob,⟨k+1,(((((z+((adI (vblk x1.pv) 0 x1.params.length).length:Nat))+((adI (vblk x1.lv) 0 x1.lent.length).length:Nat))+1)+((Ze (vblk x1.body.sv) 0 x1.body.steps).length:Nat))+1),upd (wr (upd (wr (wr N (adI (vblk x1.pv) 0 x1.params.length) z) (adI (vblk x1.lv) 0 x1.lent.length) (z+((adI (vblk x1.pv) 0 x1.params.length).length:Nat))) (vblk v,k*5+2) ((z+((adI (vblk x1.pv) 0 x1.params.length).length:Nat))+((adI (vblk x1.lv) 0 x1.lent.length).length:Nat))) (Ze (vblk x1.body.sv) 0 x1.body.steps) (((z+((adI (vblk x1.pv) 0 x1.params.length).length:Nat))+((adI (vblk x1.lv) 0 x1.lent.length).length:Nat))+1)) (vblk v,k*5+4) ((((z+((adI (vblk x1.pv) 0 x1.params.length).length:Nat))+((adI (vblk x1.lv) 0 x1.lent.length).length:Nat))+1)+((Ze (vblk x1.body.sv) 0 x1.body.steps).length:Nat)),ob,ob,ob,kp,(Zni c0_4 hdr Zp4 om),rfl,rfl,rfl⟩,(wk [0] (fr (fr (fc (x:=.i (k+1:Nat)) li fl))))⟩
 have he:(Z0d (vblk v) (k*5) (xs.drop k))=[]:=by rw [List.drop_eq_nil_of_le om];rfl
 rw [he,List.length_nil] at c0_2
 rw [he,wr] at c0_4
 refine ax 0 (ar (ir 2 [(4,.i z)] (ie ?_)))
 exact at_ (r2 [0] [.i z] ⟨rfl,rfl⟩ li (eq:=(Zoq (m:=N) c0_4 rz)))
theorem Zok (S:List Nat) (M:Mem) (y:HNormal) (q:Int) (hs:Z45 M S y:=by exact ob) (hl:∀d∈y.decls,d.cons.length≤4000000000000) (hq:0≤q∧q+((Z08 y).length:Nat)≤4000000000000:=by exact ob):Z3 Tryz.prog 11 [.agg [.val y.dv,.val y.rv],.i q] [.own S M] (fun r h=>r=.i (q+((Z08 y).length:Nat))∧h=[.own S (wr M (Z08 y) q)]):=by
 obtain ⟨⟨d0,s0⟩,⟨d1,s1⟩⟩:=hs
 have hln:=Zdx (y:=y)
 have kp:=Kp.refl M
 refine enter Tryz.func11 kr (n:=14) kr kr (ar (iA [.val y.dv,.val y.rv] ?_))
 intro b1
 refine ir 1 [(1,.i q),(2,.p b1 0)] (ie (ar (irK 3 (.n 6 (.val y.dv) (.n 7 (.i q) .r)) [0] [b1] (ic [1] (Zs0 S M y.dv y.decls q (hl:=ob)) ?_))))
 rintro _ _ ⟨rfl,rfl⟩
 have kp:=kp.wr (Zb2 s0) q
 have t1:=Z8y kp s1
 refine ir 1 [(1,.i (q+((Z12 (vblk y.dv) 0 y.decls).length:Nat))),(2,.p b1 0)] (ie (ar (iR 3 [(10,.val y.rv),(11,.i (q+((Z12 (vblk y.dv) 0 y.decls).length:Nat)))] [1] [b1] (ic [0] (Zkf S (wr M (Z12 (vblk y.dv) 0 y.decls) q) y.rv y.routines (q+((Z12 (vblk y.dv) 0 y.decls).length:Nat))) ?_))))
 rintro _ _ ⟨rfl,rfl⟩
 refine ir 1 [(1,.i ((q+((Z12 (vblk y.dv) 0 y.decls).length:Nat))+((Z0d (vblk y.rv) 0 y.routines).length:Nat)))] (ie (ar (ir 2 [(4,.i ((q+((Z12 (vblk y.dv) 0 y.decls).length:Nat))+((Z0d (vblk y.rv) 0 y.routines).length:Nat)))] (ie ?_))))
 exact at_ (r2 [0] [.i ((q+((Z12 (vblk y.dv) 0 y.decls).length:Nat))+((Z0d (vblk y.rv) 0 y.routines).length:Nat))] ⟨rfl,rfl⟩ li (eq:=(Zoq (m:=(wr (wr M (Z12 (vblk y.dv) 0 y.decls) q) (Z0d (vblk y.rv) 0 y.routines) (q+((Z12 (vblk y.dv) 0 y.decls).length:Nat)))) Zxf rz)))
theorem Zca (S:List Nat) (M:Mem) (v:Value) (xs:List Int) (q:Int) (hd:HdOk S v xs.length:=by exact ob) (hs:skI M (vblk v) xs.length:=by exact ob) (hh:hold M (adI (vblk v) 0 xs.length) q:=by exact ob) (hq:0≤q∧q+((adI (vblk v) 0 xs.length).length:Nat)≤4000000000000:=by exact ob):Z3 Tryz.prog 75 [.val v,.i q] [.own S M] (fun r h=>r=.i (q+((adI (vblk v) 0 xs.length).length:Nat))∧h=[.own S M]):=by
 have hal:=Zb3 (vblk v) xs.length 0
 refine enter Tryz.func75 kr (n:=21) kr kr (ar (ir 1 [(0,.val v),(1,.i q)] (ie (aq (ar (irk 1 (.n 5 (.i 0) .r) (ie (ab 0 (al (fun m F h=>∃(k:Nat) (z:Int),(k≤xs.length)∧(0≤z)∧(z+((adI (vblk v) k (xs.length-k)).length:Nat)=q+((adI (vblk v) 0 xs.length).length:Nat))∧(hold M (adI (vblk v) k (xs.length-k)) z)∧F=[(0,.val v),(1,.i z),(5,.i k)]∧h=[.own S M]∧m=xs.length-k) _ _ _ ⟨0,q,ob,ob,(by simp),(by simpa using hh),rfl,rfl,rfl⟩ (wk [0] (fr (fr (fc (x:=.i 0) li fl)))) ?_)))))))))
 rintro m F h ⟨k,z,c0_0,c0_1,c0_2,c0_3,rfl,rfl,rfl⟩
 refine aq (ar (irk 2 (.n 6 (.i k) (.n 7 (.val v) .r)) (is_ (oLen S v xs.length hd) (irk 1 (.n 9 (.b (decide ((k:Int)<(xs.length:Int)))) .r) (ie (ac (decide ((k:Int)<(xs.length:Int))) dq (fun hc1=>?_) (fun hc1=>?_)))))))
 ·have hb:=hd.blk (i:=k) om
  have hdr:=Zp7 (vblk v) xs.length k om
  have hl0:(adI (vblk v) k (xs.length-k)).length=(adI (vblk v) (k+1) (xs.length-(k+1))).length+1:=by rw [hdr];rfl
  have hsk:=hs k om
  rw [←Nat.mul_one k] at hsk
  rw [hdr] at c0_3
  have h0:M (vblk v) (k*1)=some (.int .i64 z):=by rw [Nat.mul_one];exact c0_3.1
  refine ak (aq (ab 1 (aq (ar (irk 2 (.n 12 (.val v) (.n 13 (.i k) .r)) (is_ (oIdx S v xs.length k 1 (k:Int) hd) (ix_ (oGet 0 S M (vblk v) (k*1) (.int .i64 z) hb.1 h0) (irk 2 (.n 17 (.b (z != z)) .r) (ie (ac (z != z) bne_iff_ne (fun hc2=>?_) (fun hc2=>?_)))))))))))
  ·refine ar (ir 1 [(4,.i (-1))] (ie ?_))
   exact at_ (r2 [0] [.i (-1)] ⟨rfl,rfl⟩ li)
  refine ak (az (irk 1 (.n 18 (.i z) .r) (ia ((z+1)) ((z)+(1)) (ir 1 [(0,.val v),(1,.i (z+1)),(5,.i k)] (ie (az (irk 1 (.n 10 (.i k) .r) (ia (((k+1:Nat):Int)) (((k:Int))+(1)) (irk 1 (.n 5 (.i (k+1:Nat)) (.p (.d (.k (.k .z))))) (ie ?_))))))))))
  exact ⟨_,_,_,ob,⟨k+1,(z+1),ob,ob,ob,c0_3.2,rfl,rfl,rfl⟩,(wk [0] (fr (fr (fc (x:=.i (k+1:Nat)) li fl))))⟩
 have he:adI (vblk v) k (xs.length-k)=[]:=by rw [show xs.length-k=0 by omega];rfl
 rw [he,List.length_nil] at c0_2
 refine ax 0 (ar (ir 2 [(4,.i z)] (ie ?_)))
 exact at_ (r2 [0] [.i z] ⟨rfl,rfl⟩ li)
theorem Zuk (S:List Nat) (M:Mem) (v:Value) (xs:List HCon) (q:Int) (hl:xs.length≤4000000000000:=by exact ob) (hd:HdOk S v xs.length:=by exact ob) (hs:Z9z M S (vblk v) 0 xs:=by exact ob) (hh:hold M (Z2y xs) q:=by exact ob) (hq:0≤q∧q+((Z2y xs).length:Nat)≤4000000000000:=by exact ob):Z3 Tryz.prog 74 [.val v,.i q] [.own S M] (fun r h=>r=.i (q+((Z2y xs).length:Nat))∧h=[.own S M]):=by
 refine enter Tryz.func74 kr (n:=22) kr kr (ar (ir 1 [(0,.val v),(1,.i q)] (ie (aq (ar (irk 1 (.n 5 (.i 0) .r) (ie (ab 0 (al (fun m F h=>∃(k:Nat) (z:Int),(k≤xs.length)∧(0≤z)∧(z+((Z2y (xs.drop k)).length:Nat)=q+((Z2y xs).length:Nat))∧(hold M (Z2y (xs.drop k)) z)∧F=[(0,.val v),(1,.i z),(5,.i k)]∧h=[.own S M]∧m=xs.length-k) _ _ _ ⟨0,q,ob,ob,(by simp),(by simpa using hh),rfl,rfl,rfl⟩ (wk [0] (fr (fr (fc (x:=.i 0) li fl)))) ?_)))))))))
 rintro m F h ⟨k,z,c0_0,c0_1,c0_2,c0_3,rfl,rfl,rfl⟩
 refine aq (ar (irk 2 (.n 6 (.i k) (.n 7 (.val v) .r)) (is_ (oLen S v xs.length hd) (irk 1 (.n 9 (.b (decide ((k:Int)<(xs.length:Int)))) .r) (ie (ac (decide ((k:Int)<(xs.length:Int))) dq (fun hc1=>?_) (fun hc1=>?_)))))))
 ·have hb:=hd.blk (i:=k) om
  obtain ⟨x1,hx1⟩:=Z8 (xs:=xs) (j:=k) om
  have e1:=Ze5 hs hx1
  rw [Nat.zero_add] at e1
  obtain ⟨⟨a0,d0⟩,s0⟩:=e1
  rw [←Nat.mul_one k] at a0
  have hdr:=Zg3 hx1
  have hln:(Zxh x1).length=(adI (vblk x1.fv) 0 x1.fields.length).length:=rfl
  have hl0:=congrArg List.length hdr
  rw [List.length_append,hln] at hl0
  rw [hdr] at c0_3
  obtain ⟨hA,hR⟩:=(Z4w _ _ _ _).1 c0_3
  have h0:hold M (adI (vblk x1.fv) 0 x1.fields.length) z:=hA
  refine ak (aq (ab 1 (ar (irk 2 (.n 12 (.val v) (.n 13 (.i k) .r)) (is_ (oIdx S v xs.length k 1 (k:Int) hd) (irk 1 (.n 15 (.val (.pointer (some ⟨vblk v,k*1,none⟩))) .r) (ix_ (oGet 0 S M (vblk v) (k*1) x1.fv hb.1 a0) (irk 1 (.n 17 (.i z) .r) (ic [0] (Zca S M x1.fv x1.fields z) ?_)))))))))
  rintro _ _ ⟨rfl,rfl⟩
  refine ir 1 [(0,.val v),(1,.i (z+((adI (vblk x1.fv) 0 x1.fields.length).length:Nat))),(5,.i k)] (ie (ar (irk 2 (.n 20 (.b (decide ((z+((adI (vblk x1.fv) 0 x1.fields.length).length:Nat))<0))) .r) (ie (ac (decide ((z+((adI (vblk x1.fv) 0 x1.fields.length).length:Nat))<0)) dq (fun hc2=>?_) (fun hc2=>?_))))))
  ·refine ar (ir 1 [(4,.i (-1))] (ie ?_))
   exact at_ (r2 [0] [.i (-1)] ⟨rfl,rfl⟩ li)
  refine ak (az (irk 1 (.n 10 (.i k) .r) (ia (((k+1:Nat):Int)) (((k:Int))+(1)) (irk 1 (.n 5 (.i (k+1:Nat)) (.p (.d (.d (.k (.k .z)))))) (ie ?_)))))
  exact ⟨_,_,_,ob,⟨k+1,(z+((adI (vblk x1.fv) 0 x1.fields.length).length:Nat)),ob,ob,ob,(Zcb hR om),rfl,rfl,rfl⟩,(wk [0] (fr (fr (fc (x:=.i (k+1:Nat)) li fl))))⟩
 have he:(Z2y (xs.drop k))=[]:=by rw [List.drop_eq_nil_of_le om];rfl
 rw [he,List.length_nil] at c0_2
 refine ax 0 (ar (ir 2 [(4,.i z)] (ie ?_)))
 exact at_ (r2 [0] [.i z] ⟨rfl,rfl⟩ li)
theorem Zro (S:List Nat) (M:Mem) (v:Value) (xs:List HDecl) (q:Int) (hl:∀d∈xs,d.cons.length≤4000000000000) (hd:HdOk S v xs.length:=by exact ob) (hs:Z7y M S (vblk v) 0 xs:=by exact ob) (hh:hold M (Z12 (vblk v) 0 xs) q:=by exact ob) (hq:0≤q∧q+((Z12 (vblk v) 0 xs).length:Nat)≤4000000000000:=by exact ob):Z3 Tryz.prog 34 [.val v,.i q] [.own S M] (fun r h=>r=.i (q+((Z12 (vblk v) 0 xs).length:Nat))∧h=[.own S M]):=by
 have hal:=Zdf (g:=vblk v) (o:=0) (ds:=xs)
 refine enter Tryz.func34 kr (n:=40) kr kr (ar (ir 1 [(0,.val v),(1,.i q)] (ie (aq (ar (irk 1 (.n 5 (.i 0) .r) (ie (ab 0 (al (fun m F h=>∃(k:Nat) (z:Int),(k≤xs.length)∧(0≤z)∧(z+((Z12 (vblk v) (k*3) (xs.drop k)).length:Nat)=q+((Z12 (vblk v) 0 xs).length:Nat))∧(hold M (Z12 (vblk v) (k*3) (xs.drop k)) z)∧F=[(0,.val v),(1,.i z),(5,.i k)]∧h=[.own S M]∧m=xs.length-k) _ _ _ ⟨0,q,ob,ob,(by simp),(by simpa using hh),rfl,rfl,rfl⟩ (wk [0] (fr (fr (fc (x:=.i 0) li fl)))) ?_)))))))))
 rintro m F h ⟨k,z,c0_0,c0_1,c0_2,c0_3,rfl,rfl,rfl⟩
 refine aq (ar (irk 2 (.n 6 (.i k) (.n 7 (.val v) .r)) (is_ (oLen S v xs.length hd) (irk 1 (.n 9 (.b (decide ((k:Int)<(xs.length:Int)))) .r) (ie (ac (decide ((k:Int)<(xs.length:Int))) dq (fun hc1=>?_) (fun hc1=>?_)))))))
 ·have hb:=hd.blk (i:=k) om
  obtain ⟨x1,hx1⟩:=Z8 (xs:=xs) (j:=k) om
  have e1:=Zbi hs hx1
  rw [Nat.zero_add] at e1
  obtain ⟨i0,i1,⟨a2,d2⟩,s2⟩:=e1
  have hdr:=Zef (g:=vblk v) hx1
  have hl1:=hl x1 (List.mem_of_getElem? hx1)
  have hln:=Zfp (g:=vblk v) (o:=k*3) (d:=x1)
  have hl0:=congrArg List.length hdr
  rw [List.length_append,hln] at hl0
  rw [hdr] at c0_3
  obtain ⟨hA,hR⟩:=(Z4w _ _ _ _).1 c0_3
  obtain ⟨h0,h1,h2⟩:=Zun hA
  refine ak (aq (ab 1 (aq (ar (irk 2 (.n 12 (.val v) (.n 13 (.i k) .r)) (is_ (oIdx S v xs.length k 3 (k:Int) hd) (irk 1 (.n 15 (.val (.pointer (some ⟨vblk v,k*3,none⟩))) .r) (ix_ (oGet 0 S M (vblk v) (k*3) (.int .i64 z) hb.1 h0) (irk 2 (.n 18 (.b (z != z)) .r) (ie (ac (z != z) bne_iff_ne (fun hc2=>?_) (fun hc2=>?_))))))))))))
  ·refine ar (ir 1 [(4,.i (-1))] (ie ?_))
   exact at_ (r2 [0] [.i (-1)] ⟨rfl,rfl⟩ li)
  refine ak (ar (irk 1 (.n 19 (.i z) .r) (ia ((z+1)) ((z)+(1)) (ir 1 [(0,.val v),(1,.i (z+1)),(5,.i k)] (ie (aq (ar (irk 2 (.n 21 (.val v) (.n 22 (.i k) .r)) (is_ (oIdx S v xs.length k 3 (k:Int) hd) (irk 1 (.n 24 (.val (.pointer (some ⟨vblk v,k*3+1,none⟩))) .r) (ix_ (oGet 0 S M (vblk v) (k*3+1) (.int .i64 (z+1)) hb.1 h1) (irk 2 (.n 27 (.b ((z+1) != (z+1))) .r) (ie (ac ((z+1) != (z+1)) bne_iff_ne (fun hc3=>?_) (fun hc3=>?_)))))))))))))))
  ·refine ar (ir 1 [(4,.i (-1))] (ie ?_))
   exact at_ (r2 [0] [.i (-1)] ⟨rfl,rfl⟩ li)
  refine ak (ar (irk 1 (.n 28 (.i (z+1)) .r) (ia (((z+1)+1)) (((z+1))+(1)) (ir 1 [(0,.val v),(1,.i ((z+1)+1)),(5,.i k)] (ie (ar (irk 2 (.n 30 (.val v) (.n 31 (.i k) .r)) (is_ (oIdx S v xs.length k 3 (k:Int) hd) (irk 1 (.n 33 (.val (.pointer (some ⟨vblk v,k*3+2,none⟩))) .r) (ix_ (oGet 0 S M (vblk v) (k*3+2) x1.cv hb.1 a2) (irk 1 (.n 35 (.i ((z+1)+1)) .r) (ic [0] (Zuk S M x1.cv x1.cons ((z+1)+1)) ?_))))))))))))
  rintro _ _ ⟨rfl,rfl⟩
  refine ir 1 [(0,.val v),(1,.i (((z+1)+1)+((Z2y x1.cons).length:Nat))),(5,.i k)] (ie (ar (irk 2 (.n 38 (.b (decide ((((z+1)+1)+((Z2y x1.cons).length:Nat))<0))) .r) (ie (ac (decide ((((z+1)+1)+((Z2y x1.cons).length:Nat))<0)) dq (fun hc4=>?_) (fun hc4=>?_))))))
  ·refine ar (ir 1 [(4,.i (-1))] (ie ?_))
   exact at_ (r2 [0] [.i (-1)] ⟨rfl,rfl⟩ li)
  refine ak (az (irk 1 (.n 10 (.i k) .r) (ia (((k+1:Nat):Int)) (((k:Int))+(1)) (irk 1 (.n 5 (.i (k+1:Nat)) (.p (.d (.d (.k (.k .z)))))) (ie ?_)))))
  exact ⟨_,_,_,ob,⟨k+1,(((z+1)+1)+((Z2y x1.cons).length:Nat)),ob,ob,ob,(Zcb hR om),rfl,rfl,rfl⟩,(wk [0] (fr (fr (fc (x:=.i (k+1:Nat)) li fl))))⟩
 have he:(Z12 (vblk v) (k*3) (xs.drop k))=[]:=by rw [List.drop_eq_nil_of_le om];rfl
 rw [he,List.length_nil] at c0_2
 refine ax 0 (ar (ir 2 [(4,.i z)] (ie ?_)))
 exact at_ (r2 [0] [.i z] ⟨rfl,rfl⟩ li)
theorem Zod (S:List Nat) (M:Mem) (v:Value) (xs:List HStep) (q:Int) (ih:∀(S:List Nat) (M:Mem) (v:Value) (ys:List HBlock) (q:Int),(SizeOf.sizeOf ys<SizeOf.sizeOf xs)→(HdOk S v ys.length)→(Z2f M S (vblk v) 0 ys)→(hold M (Z06 (vblk v) 0 ys) q)→(0≤q∧q+((Z06 (vblk v) 0 ys).length:Nat)≤4000000000000)→Z3 Tryz.prog 131 [.val v,.i q] [.own S M] (fun r h=>r=.i (q+((Z06 (vblk v) 0 ys).length:Nat))∧h=[.own S M])) (hd:HdOk S v xs.length) (hs:Z2p M S (vblk v) 0 xs) (hh:hold M (Ze (vblk v) 0 xs) q) (hq:0≤q∧q+((Ze (vblk v) 0 xs).length:Nat)≤4000000000000):Z3 Tryz.prog 76 [.val v,.i q] [.own S M] (fun r h=>r=.i (q+((Ze (vblk v) 0 xs).length:Nat))∧h=[.own S M]):=by
 have hal:=Zdg (g:=vblk v) (o:=0) (xs:=xs)
 refine enter Tryz.func76 kr (n:=58) kr kr (ar (ir 1 [(0,.val v),(1,.i q)] (ie (aq (ar (irk 1 (.n 5 (.i 0) .r) (ie (ab 0 (al (fun m F h=>∃(k:Nat) (z:Int),(k≤xs.length)∧(0≤z)∧(z+((Ze (vblk v) (k*5) (xs.drop k)).length:Nat)=q+((Ze (vblk v) 0 xs).length:Nat))∧(hold M (Ze (vblk v) (k*5) (xs.drop k)) z)∧F=[(0,.val v),(1,.i z),(5,.i k)]∧h=[.own S M]∧m=xs.length-k) _ _ _ ⟨0,q,ob,ob,(by simp),(by simpa using hh),rfl,rfl,rfl⟩ (wk [0] (fr (fr (fc (x:=.i 0) li fl)))) ?_)))))))))
 rintro m F h ⟨k,z,c0_0,c0_1,c0_2,c0_3,rfl,rfl,rfl⟩
 refine aq (ar (irk 2 (.n 6 (.i k) (.n 7 (.val v) .r)) (is_ (oLen S v xs.length hd) (irk 1 (.n 9 (.b (decide ((k:Int)<(xs.length:Int)))) .r) (ie (ac (decide ((k:Int)<(xs.length:Int))) dq (fun hc1=>?_) (fun hc1=>?_)))))))
 ·have hb:=hd.blk (i:=k) om
  obtain ⟨x1,hx1⟩:=Z8 (xs:=xs) (j:=k) om
  have e1:=Zbj hs hx1
  rw [Nat.zero_add] at e1
  rw [Zmy] at e1
  have hz:SizeOf.sizeOf x1.kids<SizeOf.sizeOf xs:=Zps hx1
  obtain ⟨⟨i0,i1,i2⟩,⟨⟨a3,d3⟩,s3⟩,⟨⟨a4,d4⟩,s4⟩⟩:=e1
  have hdr:=Zei (g:=vblk v) hx1
  have hln:=Zkc (g:=vblk v) (o:=k*5) (s:=x1)
  have hl0:=congrArg List.length hdr
  rw [List.length_append,hln] at hl0
  rw [hdr] at c0_3
  obtain ⟨hA,hR⟩:=(Z4w _ _ _ _).1 c0_3
  obtain ⟨h0,h1,h2,h3,h4⟩:=Zuo hA
  refine ak (aq (ab 1 (aq (ar (irk 2 (.n 12 (.val v) (.n 13 (.i k) .r)) (is_ (oIdx S v xs.length k 5 (k:Int) hd) (irk 1 (.n 15 (.val (.pointer (some ⟨vblk v,k*5,none⟩))) .r) (ix_ (oGet 0 S M (vblk v) (k*5) (.int .i64 z) hb.1 h0) (irk 2 (.n 18 (.b (z != z)) .r) (ie (ac (z != z) bne_iff_ne (fun hc2=>?_) (fun hc2=>?_))))))))))))
  ·refine ar (ir 1 [(4,.i (-1))] (ie ?_))
   exact at_ (r2 [0] [.i (-1)] ⟨rfl,rfl⟩ li)
  refine ak (ar (irk 1 (.n 19 (.i z) .r) (ia ((z+1)) ((z)+(1)) (ir 1 [(0,.val v),(1,.i (z+1)),(5,.i k)] (ie (aq (ar (irk 2 (.n 21 (.val v) (.n 22 (.i k) .r)) (is_ (oIdx S v xs.length k 5 (k:Int) hd) (irk 1 (.n 24 (.val (.pointer (some ⟨vblk v,k*5+1,none⟩))) .r) (ix_ (oGet 0 S M (vblk v) (k*5+1) (.int .i64 (z+1)) hb.1 h1) (irk 2 (.n 27 (.b ((z+1) != (z+1))) .r) (ie (ac ((z+1) != (z+1)) bne_iff_ne (fun hc3=>?_) (fun hc3=>?_)))))))))))))))
  ·refine ar (ir 1 [(4,.i (-1))] (ie ?_))
   exact at_ (r2 [0] [.i (-1)] ⟨rfl,rfl⟩ li)
  refine ak (ar (irk 1 (.n 28 (.i (z+1)) .r) (ia (((z+1)+1)) (((z+1))+(1)) (ir 1 [(0,.val v),(1,.i ((z+1)+1)),(5,.i k)] (ie (aq (ar (irk 2 (.n 30 (.val v) (.n 31 (.i k) .r)) (is_ (oIdx S v xs.length k 5 (k:Int) hd) (irk 1 (.n 33 (.val (.pointer (some ⟨vblk v,k*5+2,none⟩))) .r) (ix_ (oGet 0 S M (vblk v) (k*5+2) (.int .i64 ((z+1)+1)) hb.1 h2) (irk 2 (.n 36 (.b (((z+1)+1) != ((z+1)+1))) .r) (ie (ac (((z+1)+1) != ((z+1)+1)) bne_iff_ne (fun hc4=>?_) (fun hc4=>?_)))))))))))))))
  ·refine ar (ir 1 [(4,.i (-1))] (ie ?_))
   exact at_ (r2 [0] [.i (-1)] ⟨rfl,rfl⟩ li)
  refine ak (ar (irk 1 (.n 37 (.i ((z+1)+1)) .r) (ia ((((z+1)+1)+1)) ((((z+1)+1))+(1)) (ir 1 [(0,.val v),(1,.i (((z+1)+1)+1)),(5,.i k)] (ie (ar (irk 2 (.n 39 (.val v) (.n 40 (.i k) .r)) (is_ (oIdx S v xs.length k 5 (k:Int) hd) (irk 1 (.n 42 (.val (.pointer (some ⟨vblk v,k*5+3,none⟩))) .r) (ix_ (oGet 0 S M (vblk v) (k*5+3) x1.av hb.1 a3) (irk 1 (.n 44 (.i (((z+1)+1)+1)) .r) (ic [0] (Zca S M x1.av x1.args (((z+1)+1)+1)) ?_))))))))))))
  rintro _ _ ⟨rfl,rfl⟩
  refine ir 1 [(0,.val v),(1,.i ((((z+1)+1)+1)+((adI (vblk x1.av) 0 x1.args.length).length:Nat))),(5,.i k)] (ie (aq (ar (irk 2 (.n 47 (.b (decide (((((z+1)+1)+1)+((adI (vblk x1.av) 0 x1.args.length).length:Nat))<0))) .r) (ie (ac (decide (((((z+1)+1)+1)+((adI (vblk x1.av) 0 x1.args.length).length:Nat))<0)) dq (fun hc5=>?_) (fun hc5=>?_)))))))
  ·refine ar (ir 1 [(4,.i (-1))] (ie ?_))
   exact at_ (r2 [0] [.i (-1)] ⟨rfl,rfl⟩ li)
  refine ak (ar (irk 2 (.n 48 (.val v) (.n 49 (.i k) .r)) (is_ (oIdx S v xs.length k 5 (k:Int) hd) (irk 1 (.n 51 (.val (.pointer (some ⟨vblk v,k*5+4,none⟩))) .r) (ix_ (oGet 0 S M (vblk v) (k*5+4) x1.kv hb.1 a4) (irk 1 (.n 53 (.i ((((z+1)+1)+1)+((adI (vblk x1.av) 0 x1.args.length).length:Nat))) .r) (ic [0] (ih S M x1.kv x1.kids ((((z+1)+1)+1)+((adI (vblk x1.av) 0 x1.args.length).length:Nat)) ob ob ob ob ob) ?_)))))))
  rintro _ _ ⟨rfl,rfl⟩
  refine ir 1 [(0,.val v),(1,.i (((((z+1)+1)+1)+((adI (vblk x1.av) 0 x1.args.length).length:Nat))+((Z06 (vblk x1.kv) 0 x1.kids).length:Nat))),(5,.i k)] (ie (ar (irk 2 (.n 56 (.b (decide ((((((z+1)+1)+1)+((adI (vblk x1.av) 0 x1.args.length).length:Nat))+((Z06 (vblk x1.kv) 0 x1.kids).length:Nat))<0))) .r) (ie (ac (decide ((((((z+1)+1)+1)+((adI (vblk x1.av) 0 x1.args.length).length:Nat))+((Z06 (vblk x1.kv) 0 x1.kids).length:Nat))<0)) dq (fun hc6=>?_) (fun hc6=>?_))))))
  ·refine ar (ir 1 [(4,.i (-1))] (ie ?_))
   exact at_ (r2 [0] [.i (-1)] ⟨rfl,rfl⟩ li)
  refine ak (az (irk 1 (.n 10 (.i k) .r) (ia (((k+1:Nat):Int)) (((k:Int))+(1)) (irk 1 (.n 5 (.i (k+1:Nat)) (.p (.d (.d (.k (.k .z)))))) (ie ?_)))))
  exact ⟨_,_,_,ob,⟨k+1,(((((z+1)+1)+1)+((adI (vblk x1.av) 0 x1.args.length).length:Nat))+((Z06 (vblk x1.kv) 0 x1.kids).length:Nat)),ob,ob,ob,(Zcb hR om),rfl,rfl,rfl⟩,(wk [0] (fr (fr (fc (x:=.i (k+1:Nat)) li fl))))⟩
 have he:(Ze (vblk v) (k*5) (xs.drop k))=[]:=by rw [List.drop_eq_nil_of_le om,Ze]
 rw [he,List.length_nil] at c0_2
 refine ax 0 (ar (ir 2 [(4,.i z)] (ie ?_)))
 exact at_ (r2 [0] [.i z] ⟨rfl,rfl⟩ li)
theorem Zlx (S:List Nat) (M:Mem) (v:Value) (xs:List HBlock) (q:Int) (ih:∀(S:List Nat) (M:Mem) (v:Value) (ys:List HStep) (q:Int),(SizeOf.sizeOf ys<SizeOf.sizeOf xs)→(HdOk S v ys.length)→(Z2p M S (vblk v) 0 ys)→(hold M (Ze (vblk v) 0 ys) q)→(0≤q∧q+((Ze (vblk v) 0 ys).length:Nat)≤4000000000000)→Z3 Tryz.prog 76 [.val v,.i q] [.own S M] (fun r h=>r=.i (q+((Ze (vblk v) 0 ys).length:Nat))∧h=[.own S M])) (hd:HdOk S v xs.length) (hs:Z2f M S (vblk v) 0 xs) (hh:hold M (Z06 (vblk v) 0 xs) q) (hq:0≤q∧q+((Z06 (vblk v) 0 xs).length:Nat)≤4000000000000):Z3 Tryz.prog 131 [.val v,.i q] [.own S M] (fun r h=>r=.i (q+((Z06 (vblk v) 0 xs).length:Nat))∧h=[.own S M]):=by
 have hal:=Zb1 (g:=vblk v) (o:=0) (xs:=xs)
 refine enter Tryz.func131 kr (n:=31) kr kr (ar (ir 1 [(0,.val v),(1,.i q)] (ie (aq (ar (irk 1 (.n 5 (.i 0) .r) (ie (ab 0 (al (fun m F h=>∃(k:Nat) (z:Int),(k≤xs.length)∧(0≤z)∧(z+((Z06 (vblk v) (k*2) (xs.drop k)).length:Nat)=q+((Z06 (vblk v) 0 xs).length:Nat))∧(hold M (Z06 (vblk v) (k*2) (xs.drop k)) z)∧F=[(0,.val v),(1,.i z),(5,.i k)]∧h=[.own S M]∧m=xs.length-k) _ _ _ ⟨0,q,ob,ob,(by simp),(by simpa using hh),rfl,rfl,rfl⟩ (wk [0] (fr (fr (fc (x:=.i 0) li fl)))) ?_)))))))))
 rintro m F h ⟨k,z,c0_0,c0_1,c0_2,c0_3,rfl,rfl,rfl⟩
 refine aq (ar (irk 2 (.n 6 (.i k) (.n 7 (.val v) .r)) (is_ (oLen S v xs.length hd) (irk 1 (.n 9 (.b (decide ((k:Int)<(xs.length:Int)))) .r) (ie (ac (decide ((k:Int)<(xs.length:Int))) dq (fun hc1=>?_) (fun hc1=>?_)))))))
 ·have hb:=hd.blk (i:=k) om
  obtain ⟨x1,hx1⟩:=Z8 (xs:=xs) (j:=k) om
  have e1:=Z9y hs hx1
  rw [Nat.zero_add] at e1
  rw [Zje] at e1
  have hz:SizeOf.sizeOf x1.steps<SizeOf.sizeOf xs:=Zlz hx1
  obtain ⟨⟨⟨a0,d0⟩,s0⟩,i1⟩:=e1
  have hdr:=Zbu (g:=vblk v) hx1
  have hln:=Zgy (g:=vblk v) (o:=k*2) (b:=x1)
  have hl0:=congrArg List.length hdr
  rw [List.length_append,hln] at hl0
  rw [hdr] at c0_3
  obtain ⟨hA,hR⟩:=(Z4w _ _ _ _).1 c0_3
  obtain ⟨h0,h1⟩:=Zrq hA
  refine ak (aq (ab 1 (ar (irk 2 (.n 12 (.val v) (.n 13 (.i k) .r)) (is_ (oIdx S v xs.length k 2 (k:Int) hd) (irk 1 (.n 15 (.val (.pointer (some ⟨vblk v,k*2,none⟩))) .r) (ix_ (oGet 0 S M (vblk v) (k*2) x1.sv hb.1 a0) (irk 1 (.n 17 (.i z) .r) (ic [0] (ih S M x1.sv x1.steps z ob ob ob ob ob) ?_)))))))))
  rintro _ _ ⟨rfl,rfl⟩
  refine ir 1 [(0,.val v),(1,.i (z+((Ze (vblk x1.sv) 0 x1.steps).length:Nat))),(5,.i k)] (ie (aq (ar (irk 2 (.n 20 (.b (decide ((z+((Ze (vblk x1.sv) 0 x1.steps).length:Nat))<0))) .r) (ie (ac (decide ((z+((Ze (vblk x1.sv) 0 x1.steps).length:Nat))<0)) dq (fun hc2=>?_) (fun hc2=>?_)))))))
  ·refine ar (ir 1 [(4,.i (-1))] (ie ?_))
   exact at_ (r2 [0] [.i (-1)] ⟨rfl,rfl⟩ li)
  refine ak (aq (ar (irk 2 (.n 21 (.val v) (.n 22 (.i k) .r)) (is_ (oIdx S v xs.length k 2 (k:Int) hd) (irk 1 (.n 24 (.val (.pointer (some ⟨vblk v,k*2+1,none⟩))) .r) (ix_ (oGet 0 S M (vblk v) (k*2+1) (.int .i64 (z+((Ze (vblk x1.sv) 0 x1.steps).length:Nat))) hb.1 h1) (irk 2 (.n 27 (.b ((z+((Ze (vblk x1.sv) 0 x1.steps).length:Nat)) != (z+((Ze (vblk x1.sv) 0 x1.steps).length:Nat)))) .r) (ie (ac ((z+((Ze (vblk x1.sv) 0 x1.steps).length:Nat)) != (z+((Ze (vblk x1.sv) 0 x1.steps).length:Nat))) bne_iff_ne (fun hc3=>?_) (fun hc3=>?_))))))))))
  ·refine ar (ir 1 [(4,.i (-1))] (ie ?_))
   exact at_ (r2 [0] [.i (-1)] ⟨rfl,rfl⟩ li)
  refine ak (az (irk 1 (.n 28 (.i (z+((Ze (vblk x1.sv) 0 x1.steps).length:Nat))) .r) (ia (((z+((Ze (vblk x1.sv) 0 x1.steps).length:Nat))+1)) (((z+((Ze (vblk x1.sv) 0 x1.steps).length:Nat)))+(1)) (ir 1 [(0,.val v),(1,.i ((z+((Ze (vblk x1.sv) 0 x1.steps).length:Nat))+1)),(5,.i k)] (ie (az (irk 1 (.n 10 (.i k) .r) (ia (((k+1:Nat):Int)) (((k:Int))+(1)) (irk 1 (.n 5 (.i (k+1:Nat)) (.p (.d (.k (.k .z))))) (ie ?_))))))))))
  exact ⟨_,_,_,ob,⟨k+1,((z+((Ze (vblk x1.sv) 0 x1.steps).length:Nat))+1),ob,ob,ob,(Zcb hR om),rfl,rfl,rfl⟩,(wk [0] (fr (fr (fc (x:=.i (k+1:Nat)) li fl))))⟩
 have he:(Z06 (vblk v) (k*2) (xs.drop k))=[]:=by rw [List.drop_eq_nil_of_le om,Z06]
 rw [he,List.length_nil] at c0_2
 refine ax 0 (ar (ir 2 [(4,.i z)] (ie ?_)))
 exact at_ (r2 [0] [.i z] ⟨rfl,rfl⟩ li)
theorem Zum (n:Nat):(∀(S:List Nat) (M:Mem) (v:Value) (xs:List HStep) (q:Int),(SizeOf.sizeOf xs<n)→(HdOk S v xs.length)→(Z2p M S (vblk v) 0 xs)→(hold M (Ze (vblk v) 0 xs) q)→(0≤q∧q+((Ze (vblk v) 0 xs).length:Nat)≤4000000000000)→Z3 Tryz.prog 76 [.val v,.i q] [.own S M] (fun r h=>r=.i (q+((Ze (vblk v) 0 xs).length:Nat))∧h=[.own S M]))∧(∀(S:List Nat) (M:Mem) (v:Value) (xs:List HBlock) (q:Int),(SizeOf.sizeOf xs<n)→(HdOk S v xs.length)→(Z2f M S (vblk v) 0 xs)→(hold M (Z06 (vblk v) 0 xs) q)→(0≤q∧q+((Z06 (vblk v) 0 xs).length:Nat)≤4000000000000)→Z3 Tryz.prog 131 [.val v,.i q] [.own S M] (fun r h=>r=.i (q+((Z06 (vblk v) 0 xs).length:Nat))∧h=[.own S M])):=by
 induction n with
 | zero=>exact ⟨fun _ _ _ _ _ h=>by omega,fun _ _ _ _ _ h=>by omega⟩
 | succ n ih=>
  obtain ⟨i1,i2⟩:=ih
  exact ⟨fun S M v xs q hz h3 h4 h5 h9=>Zod S M v xs q (fun S M v ys q hz2 h3 h4 h5 h9=>i2 S M v ys q om h3 h4 h5 h9) h3 h4 h5 h9,fun S M v xs q hz h3 h4 h5 h9=>Zlx S M v xs q (fun S M v ys q hz2 h3 h4 h5 h9=>i1 S M v ys q om h3 h4 h5 h9) h3 h4 h5 h9⟩
theorem Zrp (S:List Nat) (M:Mem) (v:Value) (xs:List HStep) (q:Int) (hd:HdOk S v xs.length:=by exact ob) (hs:Z2p M S (vblk v) 0 xs:=by exact ob) (hh:hold M (Ze (vblk v) 0 xs) q:=by exact ob) (hq:0≤q∧q+((Ze (vblk v) 0 xs).length:Nat)≤4000000000000:=by exact ob):Z3 Tryz.prog 76 [.val v,.i q] [.own S M] (fun r h=>r=.i (q+((Ze (vblk v) 0 xs).length:Nat))∧h=[.own S M]):=(Zum (SizeOf.sizeOf xs+1)).1 S M v xs q om hd hs hh hq
theorem Zk4 (S:List Nat) (M:Mem) (v:Value) (xs:List HRoutine) (q:Int) (hd:HdOk S v xs.length:=by exact ob) (hs:Z49 M S (vblk v) 0 xs:=by exact ob) (hh:hold M (Z0d (vblk v) 0 xs) q:=by exact ob) (hq:0≤q∧q+((Z0d (vblk v) 0 xs).length:Nat)≤4000000000000:=by exact ob):Z3 Tryz.prog 35 [.val v,.i q] [.own S M] (fun r h=>r=.i (q+((Z0d (vblk v) 0 xs).length:Nat))∧h=[.own S M]):=by
 have hal:=Z8j (g:=vblk v) (o:=0) (xs:=xs)
 refine enter Tryz.func35 kr (n:=60) kr kr (ar (ir 1 [(0,.val v),(1,.i q)] (ie (aq (ar (irk 1 (.n 5 (.i 0) .r) (ie (ab 0 (al (fun m F h=>∃(k:Nat) (z:Int),(k≤xs.length)∧(0≤z)∧(z+((Z0d (vblk v) (k*5) (xs.drop k)).length:Nat)=q+((Z0d (vblk v) 0 xs).length:Nat))∧(hold M (Z0d (vblk v) (k*5) (xs.drop k)) z)∧F=[(0,.val v),(1,.i z),(5,.i k)]∧h=[.own S M]∧m=xs.length-k) _ _ _ ⟨0,q,ob,ob,(by simp),(by simpa using hh),rfl,rfl,rfl⟩ (wk [0] (fr (fr (fc (x:=.i 0) li fl)))) ?_)))))))))
 rintro m F h ⟨k,z,c0_0,c0_1,c0_2,c0_3,rfl,rfl,rfl⟩
 refine aq (ar (irk 2 (.n 6 (.i k) (.n 7 (.val v) .r)) (is_ (oLen S v xs.length hd) (irk 1 (.n 9 (.b (decide ((k:Int)<(xs.length:Int)))) .r) (ie (ac (decide ((k:Int)<(xs.length:Int))) dq (fun hc1=>?_) (fun hc1=>?_)))))))
 ·have hb:=hd.blk (i:=k) om
  obtain ⟨x1,hx1⟩:=Z8 (xs:=xs) (j:=k) om
  have e1:=Z7z hs hx1
  rw [Nat.zero_add] at e1
  obtain ⟨⟨⟨a0,d0⟩,s0⟩,⟨⟨a1,d1⟩,s1⟩,i2,⟨⟨a3,d3⟩,s3⟩,i4⟩:=e1
  have hdr:=Z9i (g:=vblk v) hx1
  have hln:=Z8s (g:=vblk v) (o:=k*5) (r:=x1)
  have hl0:=congrArg List.length hdr
  rw [List.length_append,hln] at hl0
  rw [hdr] at c0_3
  obtain ⟨hA,hR⟩:=(Z4w _ _ _ _).1 c0_3
  obtain ⟨h0,h1,h2,h3,h4⟩:=Zly hA
  refine ak (aq (ab 1 (ar (irk 2 (.n 12 (.val v) (.n 13 (.i k) .r)) (is_ (oIdx S v xs.length k 5 (k:Int) hd) (irk 1 (.n 15 (.val (.pointer (some ⟨vblk v,k*5,none⟩))) .r) (ix_ (oGet 0 S M (vblk v) (k*5) x1.pv hb.1 a0) (irk 1 (.n 17 (.i z) .r) (ic [0] (Zca S M x1.pv x1.params z) ?_)))))))))
  rintro _ _ ⟨rfl,rfl⟩
  refine ir 1 [(0,.val v),(1,.i (z+((adI (vblk x1.pv) 0 x1.params.length).length:Nat))),(5,.i k)] (ie (aq (ar (irk 2 (.n 20 (.b (decide ((z+((adI (vblk x1.pv) 0 x1.params.length).length:Nat))<0))) .r) (ie (ac (decide ((z+((adI (vblk x1.pv) 0 x1.params.length).length:Nat))<0)) dq (fun hc2=>?_) (fun hc2=>?_)))))))
  ·refine ar (ir 1 [(4,.i (-1))] (ie ?_))
   exact at_ (r2 [0] [.i (-1)] ⟨rfl,rfl⟩ li)
  refine ak (ar (irk 2 (.n 21 (.val v) (.n 22 (.i k) .r)) (is_ (oIdx S v xs.length k 5 (k:Int) hd) (irk 1 (.n 24 (.val (.pointer (some ⟨vblk v,k*5+1,none⟩))) .r) (ix_ (oGet 0 S M (vblk v) (k*5+1) x1.lv hb.1 a1) (irk 1 (.n 26 (.i (z+((adI (vblk x1.pv) 0 x1.params.length).length:Nat))) .r) (ic [0] (Zca S M x1.lv x1.lent (z+((adI (vblk x1.pv) 0 x1.params.length).length:Nat))) ?_)))))))
  rintro _ _ ⟨rfl,rfl⟩
  refine ir 1 [(0,.val v),(1,.i ((z+((adI (vblk x1.pv) 0 x1.params.length).length:Nat))+((adI (vblk x1.lv) 0 x1.lent.length).length:Nat))),(5,.i k)] (ie (aq (ar (irk 2 (.n 29 (.b (decide (((z+((adI (vblk x1.pv) 0 x1.params.length).length:Nat))+((adI (vblk x1.lv) 0 x1.lent.length).length:Nat))<0))) .r) (ie (ac (decide (((z+((adI (vblk x1.pv) 0 x1.params.length).length:Nat))+((adI (vblk x1.lv) 0 x1.lent.length).length:Nat))<0)) dq (fun hc3=>?_) (fun hc3=>?_)))))))
  ·refine ar (ir 1 [(4,.i (-1))] (ie ?_))
   exact at_ (r2 [0] [.i (-1)] ⟨rfl,rfl⟩ li)
  refine ak (aq (ar (irk 2 (.n 30 (.val v) (.n 31 (.i k) .r)) (is_ (oIdx S v xs.length k 5 (k:Int) hd) (irk 1 (.n 33 (.val (.pointer (some ⟨vblk v,k*5+2,none⟩))) .r) (ix_ (oGet 0 S M (vblk v) (k*5+2) (.int .i64 ((z+((adI (vblk x1.pv) 0 x1.params.length).length:Nat))+((adI (vblk x1.lv) 0 x1.lent.length).length:Nat))) hb.1 h2) (irk 2 (.n 36 (.b (((z+((adI (vblk x1.pv) 0 x1.params.length).length:Nat))+((adI (vblk x1.lv) 0 x1.lent.length).length:Nat)) != ((z+((adI (vblk x1.pv) 0 x1.params.length).length:Nat))+((adI (vblk x1.lv) 0 x1.lent.length).length:Nat)))) .r) (ie (ac (((z+((adI (vblk x1.pv) 0 x1.params.length).length:Nat))+((adI (vblk x1.lv) 0 x1.lent.length).length:Nat)) != ((z+((adI (vblk x1.pv) 0 x1.params.length).length:Nat))+((adI (vblk x1.lv) 0 x1.lent.length).length:Nat))) bne_iff_ne (fun hc4=>?_) (fun hc4=>?_))))))))))
  ·refine ar (ir 1 [(4,.i (-1))] (ie ?_))
   exact at_ (r2 [0] [.i (-1)] ⟨rfl,rfl⟩ li)
  refine ak (ar (irk 1 (.n 37 (.i ((z+((adI (vblk x1.pv) 0 x1.params.length).length:Nat))+((adI (vblk x1.lv) 0 x1.lent.length).length:Nat))) .r) (ia ((((z+((adI (vblk x1.pv) 0 x1.params.length).length:Nat))+((adI (vblk x1.lv) 0 x1.lent.length).length:Nat))+1)) ((((z+((adI (vblk x1.pv) 0 x1.params.length).length:Nat))+((adI (vblk x1.lv) 0 x1.lent.length).length:Nat)))+(1)) (ir 1 [(0,.val v),(1,.i (((z+((adI (vblk x1.pv) 0 x1.params.length).length:Nat))+((adI (vblk x1.lv) 0 x1.lent.length).length:Nat))+1)),(5,.i k)] (ie (ar (irk 2 (.n 39 (.val v) (.n 40 (.i k) .r)) (is_ (oIdx S v xs.length k 5 (k:Int) hd) (irk 2 (.n 43 (.val (.pointer (some ⟨vblk v,k*5+3,none⟩))) .r) (ix_ (oGet 0 S M (vblk v) (k*5+3) x1.body.sv hb.1 a3) (irk 1 (.n 45 (.i (((z+((adI (vblk x1.pv) 0 x1.params.length).length:Nat))+((adI (vblk x1.lv) 0 x1.lent.length).length:Nat))+1)) .r) (ic [0] (Zrp S M x1.body.sv x1.body.steps (((z+((adI (vblk x1.pv) 0 x1.params.length).length:Nat))+((adI (vblk x1.lv) 0 x1.lent.length).length:Nat))+1)) ?_))))))))))))
  rintro _ _ ⟨rfl,rfl⟩
  refine ir 1 [(0,.val v),(1,.i ((((z+((adI (vblk x1.pv) 0 x1.params.length).length:Nat))+((adI (vblk x1.lv) 0 x1.lent.length).length:Nat))+1)+((Ze (vblk x1.body.sv) 0 x1.body.steps).length:Nat))),(5,.i k)] (ie (aq (ar (irk 2 (.n 48 (.b (decide (((((z+((adI (vblk x1.pv) 0 x1.params.length).length:Nat))+((adI (vblk x1.lv) 0 x1.lent.length).length:Nat))+1)+((Ze (vblk x1.body.sv) 0 x1.body.steps).length:Nat))<0))) .r) (ie (ac (decide (((((z+((adI (vblk x1.pv) 0 x1.params.length).length:Nat))+((adI (vblk x1.lv) 0 x1.lent.length).length:Nat))+1)+((Ze (vblk x1.body.sv) 0 x1.body.steps).length:Nat))<0)) dq (fun hc5=>?_) (fun hc5=>?_)))))))
  ·refine ar (ir 1 [(4,.i (-1))] (ie ?_))
   exact at_ (r2 [0] [.i (-1)] ⟨rfl,rfl⟩ li)
  refine ak (aq (ar (irk 2 (.n 49 (.val v) (.n 50 (.i k) .r)) (is_ (oIdx S v xs.length k 5 (k:Int) hd) (irk 2 (.n 53 (.val (.pointer (some ⟨vblk v,k*5+4,none⟩))) .r) (ix_ (oGet 0 S M (vblk v) (k*5+4) (.int .i64 ((((z+((adI (vblk x1.pv) 0 x1.params.length).length:Nat))+((adI (vblk x1.lv) 0 x1.lent.length).length:Nat))+1)+((Ze (vblk x1.body.sv) 0 x1.body.steps).length:Nat))) hb.1 h4) (irk 2 (.n 56 (.b (((((z+((adI (vblk x1.pv) 0 x1.params.length).length:Nat))+((adI (vblk x1.lv) 0 x1.lent.length).length:Nat))+1)+((Ze (vblk x1.body.sv) 0 x1.body.steps).length:Nat)) != ((((z+((adI (vblk x1.pv) 0 x1.params.length).length:Nat))+((adI (vblk x1.lv) 0 x1.lent.length).length:Nat))+1)+((Ze (vblk x1.body.sv) 0 x1.body.steps).length:Nat)))) .r) (ie (ac (((((z+((adI (vblk x1.pv) 0 x1.params.length).length:Nat))+((adI (vblk x1.lv) 0 x1.lent.length).length:Nat))+1)+((Ze (vblk x1.body.sv) 0 x1.body.steps).length:Nat)) != ((((z+((adI (vblk x1.pv) 0 x1.params.length).length:Nat))+((adI (vblk x1.lv) 0 x1.lent.length).length:Nat))+1)+((Ze (vblk x1.body.sv) 0 x1.body.steps).length:Nat))) bne_iff_ne (fun hc6=>?_) (fun hc6=>?_))))))))))
  ·refine ar (ir 1 [(4,.i (-1))] (ie ?_))
   exact at_ (r2 [0] [.i (-1)] ⟨rfl,rfl⟩ li)
  refine ak (az (irk 1 (.n 57 (.i ((((z+((adI (vblk x1.pv) 0 x1.params.length).length:Nat))+((adI (vblk x1.lv) 0 x1.lent.length).length:Nat))+1)+((Ze (vblk x1.body.sv) 0 x1.body.steps).length:Nat))) .r) (ia ((((((z+((adI (vblk x1.pv) 0 x1.params.length).length:Nat))+((adI (vblk x1.lv) 0 x1.lent.length).length:Nat))+1)+((Ze (vblk x1.body.sv) 0 x1.body.steps).length:Nat))+1)) ((((((z+((adI (vblk x1.pv) 0 x1.params.length).length:Nat))+((adI (vblk x1.lv) 0 x1.lent.length).length:Nat))+1)+((Ze (vblk x1.body.sv) 0 x1.body.steps).length:Nat)))+(1)) (ir 1 [(0,.val v),(1,.i (((((z+((adI (vblk x1.pv) 0 x1.params.length).length:Nat))+((adI (vblk x1.lv) 0 x1.lent.length).length:Nat))+1)+((Ze (vblk x1.body.sv) 0 x1.body.steps).length:Nat))+1)),(5,.i k)] (ie (az (irk 1 (.n 10 (.i k) .r) (ia (((k+1:Nat):Int)) (((k:Int))+(1)) (irk 1 (.n 5 (.i (k+1:Nat)) (.p (.d (.k (.k .z))))) (ie ?_))))))))))
  exact ⟨_,_,_,ob,⟨k+1,(((((z+((adI (vblk x1.pv) 0 x1.params.length).length:Nat))+((adI (vblk x1.lv) 0 x1.lent.length).length:Nat))+1)+((Ze (vblk x1.body.sv) 0 x1.body.steps).length:Nat))+1),ob,ob,ob,(Zcb hR om),rfl,rfl,rfl⟩,(wk [0] (fr (fr (fc (x:=.i (k+1:Nat)) li fl))))⟩
 have he:(Z0d (vblk v) (k*5) (xs.drop k))=[]:=by rw [List.drop_eq_nil_of_le om];rfl
 rw [he,List.length_nil] at c0_2
 refine ax 0 (ar (ir 2 [(4,.i z)] (ie ?_)))
 exact at_ (r2 [0] [.i z] ⟨rfl,rfl⟩ li)
theorem Zoc (S:List Nat) (M:Mem) (y:HNormal) (q:Int) (hs:Z45 M S y) (hl:∀d∈y.decls,d.cons.length≤4000000000000) (hh:hold M (Z08 y) q) (hq:0≤q∧q+((Z08 y).length:Nat)≤4000000000000):Z3 Tryz.prog 12 [.agg [.val y.dv,.val y.rv],.i q] [.own S M] (fun r h=>r=.i (q+((Z08 y).length:Nat))∧h=[.own S M]):=by
 obtain ⟨⟨d0,s0⟩,⟨d1,s1⟩⟩:=hs
 have hln:=Zdx (y:=y)
 obtain ⟨h0,h1⟩:=(Z4w _ _ _ _).1 (show hold M (_++_) q from hh)
 refine enter Tryz.func12 kr (n:=18) kr kr (ar (iA [.val y.dv,.val y.rv] ?_))
 intro b1
 refine ir 1 [(1,.i q),(2,.p b1 0)] (ie (ar (irK 3 (.n 6 (.val y.dv) (.n 7 (.i q) .r)) [0] [b1] (ic [1] (Zro S M y.dv y.decls q (hl:=ob)) ?_))))
 rintro _ _ ⟨rfl,rfl⟩
 refine ir 1 [(1,.i (q+((Z12 (vblk y.dv) 0 y.decls).length:Nat))),(2,.p b1 0)] (ie (aq (ar (irk 2 (.n 10 (.b (decide ((q+((Z12 (vblk y.dv) 0 y.decls).length:Nat))<0))) .r) (ie (ac (decide ((q+((Z12 (vblk y.dv) 0 y.decls).length:Nat))<0)) dq (fun hc1=>?_) (fun hc1=>?_)))))))
 ·refine ar (ir 1 [(4,.i (-1))] (ie ?_))
  exact at_ (r2 [0] [.i (-1)] ⟨rfl,rfl⟩ li)
 refine ak (ar (iR 3 [(12,.val y.rv),(13,.i (q+((Z12 (vblk y.dv) 0 y.decls).length:Nat)))] [1] [b1] (ic [0] (Zk4 S M y.rv y.routines (q+((Z12 (vblk y.dv) 0 y.decls).length:Nat))) ?_)))
 rintro _ _ ⟨rfl,rfl⟩
 refine ir 1 [(1,.i ((q+((Z12 (vblk y.dv) 0 y.decls).length:Nat))+((Z0d (vblk y.rv) 0 y.routines).length:Nat)))] (ie (aq (ar (irk 2 (.n 16 (.b (decide (((q+((Z12 (vblk y.dv) 0 y.decls).length:Nat))+((Z0d (vblk y.rv) 0 y.routines).length:Nat))<0))) .r) (ie (ac (decide (((q+((Z12 (vblk y.dv) 0 y.decls).length:Nat))+((Z0d (vblk y.rv) 0 y.routines).length:Nat))<0)) dq (fun hc2=>?_) (fun hc2=>?_)))))))
 ·refine ar (ir 1 [(4,.i (-1))] (ie ?_))
  exact at_ (r2 [0] [.i (-1)] ⟨rfl,rfl⟩ li)
 refine ak (ar (ir 2 [(4,.i ((q+((Z12 (vblk y.dv) 0 y.decls).length:Nat))+((Z0d (vblk y.rv) 0 y.routines).length:Nat)))] (ie ?_)))
 exact at_ (r2 [0] [.i ((q+((Z12 (vblk y.dv) 0 y.decls).length:Nat))+((Z0d (vblk y.rv) 0 y.routines).length:Nat))] ⟨rfl,rfl⟩ li)
end Go.Abs
end
section
namespace Go.Abs
open Go.Proofs
theorem Zhd {m m':Mem} {B:List Nat} {y:HNormal} (k:Kp m m') (h:Z45 m B y):Z45 m' B y:=⟨⟨h.1.1,Zjf k h.1.2⟩,⟨h.2.1,Z8y k h.2.2⟩⟩
theorem Zeg {m:Mem} {B:List Nat} {y:HNormal} (h:Z45 m B y):∀a∈Z08 y,isI m a:=fun a ha=>(List.mem_append.1 ha).elim (Zb2 h.1.2 a) (Zao h.2.2 a)
theorem Z04p (x:Normal) (hl:Z4k x≤1000000000):Z3 Tryz.prog 8 [Zi x] [] (fun r h=>∃(y:HNormal) (S:List Nat) (M:Mem),r=av y∧h=[.own S M]∧(y.er=x∧Z45 M S y∧(Z08 y).Nodup∧RepN S M y)):=(Zd9 x hl).thaw
theorem Zvg (S:List Nat) (M:Mem) (y:HNormal) (q:Int) (hs:Z45 M S y) (hl:∀d∈y.decls,d.cons.length≤4000000000000) (hq:0≤q∧q+((Z08 y).length:Nat)≤4000000000000):Z3 Tryz.prog 11 [av y,.i q] [.own S M] (fun r h=>r=.i (q+((Z08 y).length:Nat))∧h=[.own S (wr M (Z08 y) q)]):=by
 rw [Ztc (Ziw hs)]
 exact Zok S M y q hs hl hq
theorem Zul (S:List Nat) (M:Mem) (y:HNormal) (q:Int) (hs:Z45 M S y) (hl:∀d∈y.decls,d.cons.length≤4000000000000) (hh:hold M (Z08 y) q) (hq:0≤q∧q+((Z08 y).length:Nat)≤4000000000000):Z3 Tryz.prog 12 [av y,.i q] [.own S M] (fun r h=>r=.i (q+((Z08 y).length:Nat))∧h=[.own S M]):=by
 rw [Ztc (Ziw hs)]
 exact Zoc S M y q hs hl hh hq
theorem sgl {S:List Nat} {M:Mem}:∀r∈[Res.own S M],∃B m,r=.own B m:=fun _ hr=>⟨S,M,List.mem_singleton.1 hr⟩
theorem Z00v (y:HNormal) (x:Normal) (S:List Nat) (M:Mem) (he:y.er=x) (hrp:RepN S M y) (hl:Z4k x≤1000000000):Z3 Tryz.prog 10 [av y,Zi x] [.own S M] (fun r h=>r=.b true∧h=[.own S M]):=by
 subst he
 have h1:Z3 Tryz.prog 10 [Z22 y,Zi y.er] [] _:=(Z95 y.er hl).args_le (.cons (Z5o y) (.cons (AVLe.refl _) .nil))
 refine (h1.lendO [.own S M] (.lent (List.mem_singleton.2 rfl) hrp (.same .nil)) sgl ?_).mono ?_
 ·rintro r h ⟨rfl,rfl⟩;exact ⟨.val,fun q hq=>by cases hq⟩
 ·rintro r h ⟨h1,⟨rfl,rfl⟩,rfl⟩;exact ⟨rfl,rfl⟩
theorem Z04z (y z:HNormal) (S:List Nat) (M:Mem) (he:y.er=z.er) (hrp:RepN S M y) (hl:Z4k z.er≤1000000000):Z3 Tryz.prog 10 [av y,Z22 z] [.own S M] (fun r h=>r=.b true∧h=[.own S M]):=
 (Z00v y z.er S M he hrp hl).args_le (.cons (AVLe.refl _) (.cons (Z5o z) .nil))
theorem Z04y (z:HNormal) (x:Normal) (he:z.er=x) (hl:Z4k x≤1000000000):Z3 Tryz.prog 10 [Z22 z,Zi x] [] (fun r h=>r=.b true∧h=[]):=by
 subst he
 exact (Z95 z.er hl).args_le (.cons (Z5o z) (.cons (AVLe.refl _) .nil))
end Go.Abs
end
