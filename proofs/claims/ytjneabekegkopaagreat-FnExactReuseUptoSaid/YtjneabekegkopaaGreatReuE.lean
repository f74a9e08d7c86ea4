/-
  A part of the proof of FnExactReuseUptoSaid (see the last file): no condition.
-/
import Derived.Test.YtjneabekegkopaaGreatReuD
set_option linter.all false
set_option linter.unusedVariables false
set_option linter.unusedSimpArgs false
set_option linter.unusedSectionVars false
set_option maxRecDepth 10000
set_option maxHeartbeats 4000000
namespace Go.Abs
open Go.Proofs
theorem Z9q (n:Normal) (us:List Int) (s:Step) (hn:NOk n:=by exact ob) (hb:us.length+4*s.sz≤1000000000:=by exact ob) (ih:∀(b:Block) (us:List Int),(b.sz<s.sz)→(us.length+4*b.sz≤1000000000)→Z3 Tryz.prog 98 [Zi n,nInt us,Za b] [] (fun r h=>r=.i (Zf n us b)∧h=[])):Z3 Tryz.prog 145 [Zi n,nInt us,Z0g s] [] (fun r h=>r=.i (Z7 n us s)∧h=[]):=by
 have hdk:=hn.decls
 have hkz:=Z5m s
 have haz:=Z86 s
 have hdl:=hdk.len
 have hst:=Z3z n us s
 refine enter Tryz.func145 kr (n:=183) kr kr (ar (iA (Zh n) ?_))
 intro b1
 refine iA (Z02 s) ?_
 intro b2
 refine ir 1 [(1,nInt us),(3,.p b1 0),(5,.p b2 0)] (ie (aq (ar (Z1n 9 [(1,nInt us),(3,.p b1 0),(5,.p b2 0),(16,.b ((s.num != 0)&&(!Z20 s.op)))] [.obj b2 (Z02 s),.obj b1 (Zh n)] ?_ (fun hj1=>?_)))))
 ·refine Z1n 15 [(1,nInt us),(3,.p b1 0),(5,.p b2 0),(22,.b (((s.num != 0)&&(!Z20 s.op))||(!Z15 us s.op s.into)))] [.obj b2 (Z02 s),.obj b1 (Zh n)] ?_ (fun hj2=>?_)
  ·refine Z24 [(1,nInt us),(3,.p b1 0),(5,.p b2 0),(38,.b ((((s.num != 0)&&(!Z20 s.op))||(!Z15 us s.op s.into))||((decide ((s.kids.length:Int)>0))&&((s.op != 7)&&(s.op != 8)))))] [.obj b2 (Z02 s),.obj b1 (Zh n)] ?_ ?_
   ·refine ir 1 [(1,nInt us),(3,.p b1 0),(5,.p b2 0),(23,.b (((s.num != 0)&&(!Z20 s.op))||(!Z15 us s.op s.into)))] (ib (b:=(((s.num != 0)&&(!Z20 s.op))||(!Z15 us s.op s.into))) 23 (fun hb1=>?_) (fun hb1=>?_))
    ·have hp1:((s.num≠0)∧(¬(Z20 s.op=true)))∨(¬(Z15 us s.op s.into=true)):=((Zg (Zj bne_iff_ne (Zc Iff.rfl)) (Zc Iff.rfl))).1 hb1
     refine irk 15 (.n 38 (.b true) (.d (.k (.k (.k .z))))) (ie ?_)
     exact wk [0,0] (fw (fr (fc (x:=.b true) (lb (by simp only [hb1];rfl)) fl)))
    have hp2:¬(((s.num≠0)∧(¬(Z20 s.op=true)))∨(¬(Z15 us s.op s.into=true))):=Zd (Zg (Zj bne_iff_ne (Zc Iff.rfl)) (Zc Iff.rfl)) hb1
    refine irK 2 (.n 25 (Zv s.kids) (.w .z)) [0] [b2] (iw (Z0f s.kids) (irk 2 (.n 28 (.b (decide ((s.kids.length:Int)>0))) .r) (ib (b:=(decide ((s.kids.length:Int)>0))) 28 (fun hb2=>?_) (fun hb2=>?_))))
    ·have hp3:(s.kids.length:Int)>0:=(dq).1 hb2
     refine irK 5 (.n 33 (.b (s.op != 7)) (.k (.d .r))) [0] [b2] (ib (b:=(s.op != 7)) 33 (fun hb3=>?_) (fun hb3=>?_))
     ·have hp4:s.op≠7:=(bne_iff_ne).1 hb3
      refine irK 5 (.n 38 (.b (s.op != 8)) (.k (.d .r))) [0] [b2] (ie ?_)
      exact wk [0,0] (fw (fr (fc (x:=.b (s.op != 8)) (lb (by simp only [hb1,hb2,hb3];rfl)) fl)))
     have hp5:¬(s.op≠7):=Zd bne_iff_ne hb3
     refine irk 5 (.n 38 (.b false) (.k (.d .r))) (ie ?_)
     exact wk [0,0] (fw (fr (fc (x:=.b false) (lb (by simp only [hb1,hb2,hb3];rfl)) fl)))
    have hp6:¬((s.kids.length:Int)>0):=Zd dq hb2
    refine irk 10 (.n 38 (.b false) (.k (.d .r))) (ie ?_)
    exact wk [0,0] (fw (fr (fc (x:=.b false) (lb (by simp only [hb1,hb2];rfl)) fl)))
   refine ac ((((s.num != 0)&&(!Z20 s.op))||(!Z15 us s.op s.into))||((decide ((s.kids.length:Int)>0))&&((s.op != 7)&&(s.op != 8)))) (p:=(((s.num≠0)∧(¬(Z20 s.op=true)))∨(¬(Z15 us s.op s.into=true)))∨(((s.kids.length:Int)>0)∧((s.op≠7)∧(s.op≠8)))) (Zg (Zg (Zj bne_iff_ne (Zc Iff.rfl)) (Zc Iff.rfl)) (Zj dq (Zj bne_iff_ne bne_iff_ne))) (fun hc1=>?_) (fun hc1=>?_)
   ·refine ar (ir 1 [(6,.i (-1))] (ie ?_))
    exact at_ (r2 [] [.i (-1)] ⟨rfl,rfl⟩ (li (by first|rfl|( grind)|(have q:=Z22 (ds:=n.decls) (us:=us) (args:=s.args) om; grind)|(have q:=Z23 (ds:=n.decls) (us:=us) (args:=s.args) om ‹s.args[0]? = some _› om; grind)|(have q:=Z2p (ds:=n.decls) (us:=us) (args:=s.args) om ‹s.args[0]? = some _› om ‹us[_]? = some _›; grind))))
   refine ak (aq (ar (iR 2 [(1,nInt us),(3,.p b1 0),(5,.p b2 0),(40,.i s.op)] [0] [b2] (ie (ab 0 (ar (irk 2 (.n 41 (.b (s.op==0)) .r) (ie (ac (s.op==0) beq_iff_eq (fun hc2=>?_) (fun hc2=>?_))))))))))
   ·refine ar (irK 2 (.n 44 (nInt s.args) .r) [0] [b2] (iw (Z4 s.args) (Z24 [(51,.b (((s.args.length:Int)==0)&&(decide ((-999)≤s.num∧s.num≤999))))] [.obj b2 (Z02 s),.obj b1 (Zh n)] ?_ ?_)))
    ·refine ir 2 [(5,.p b2 0),(47,.b ((s.args.length:Int)==0))] (ib (b:=((s.args.length:Int)==0)) 47 (fun hb4=>?_) (fun hb4=>?_))
     ·have hp7:(s.args.length:Int)=0:=(beq_iff_eq).1 hb4
      refine irK 2 (.n 49 (.i s.num) (.k .z)) [0] [b2] (ic [] (Z0w s.num (-999) 999) ?_)
      rintro _ _ ⟨rfl,rfl⟩
      refine ir 1 [(51,.b (decide ((-999)≤s.num∧s.num≤999)))] (ie ?_)
      exact wk [0,0] (fc (x:=.b (decide ((-999)≤s.num∧s.num≤999))) (lb (by simp only [hb4];rfl)) fl)
     have hp8:¬((s.args.length:Int)=0):=Zd beq_iff_eq hb4
     refine ir 4 [(51,.b false)] (ie ?_)
     exact wk [0,0] (fc (x:=.b false) (lb (by simp only [hb4];rfl)) fl)
    refine ac (((s.args.length:Int)==0)&&(decide ((-999)≤s.num∧s.num≤999))) (p:=((s.args.length:Int)=0)∧((-999)≤s.num∧s.num≤999)) (Zj beq_iff_eq dq) (fun hc3=>?_) (fun hc3=>?_)
    ·refine ar (ir 1 [(6,.i 0)] (ie ?_))
     exact at_ (r2 [] [.i 0] ⟨rfl,rfl⟩ (li (by first|rfl|( grind)|(have q:=Z22 (ds:=n.decls) (us:=us) (args:=s.args) om; grind)|(have q:=Z23 (ds:=n.decls) (us:=us) (args:=s.args) om ‹s.args[0]? = some _› om; grind)|(have q:=Z2p (ds:=n.decls) (us:=us) (args:=s.args) om ‹s.args[0]? = some _› om ‹us[_]? = some _›; grind))))
    refine ak (ar (ir 1 [(6,.i (-1))] (ie ?_)))
    exact at_ (r2 [] [.i (-1)] ⟨rfl,rfl⟩ (li (by first|rfl|( grind)|(have q:=Z22 (ds:=n.decls) (us:=us) (args:=s.args) om; grind)|(have q:=Z23 (ds:=n.decls) (us:=us) (args:=s.args) om ‹s.args[0]? = some _› om; grind)|(have q:=Z2p (ds:=n.decls) (us:=us) (args:=s.args) om ‹s.args[0]? = some _› om ‹us[_]? = some _›; grind))))
   refine aq (ar (irk 2 (.n 52 (.b (s.op==1)) .r) (ie (Z6a (fun F h=>F=[(1,nInt us),(3,.p b1 0),(5,.p b2 0),(40,.i s.op),(52,.b ((s.op==1)||((s.op==2)||((s.op==3)||(s.op==4)))))]∧h=[.obj b2 (Z02 s),.obj b1 (Zh n)]) ?_ ?_))))
   ·refine ac (s.op==1) beq_iff_eq (fun hc4=>?_) (fun hc4=>?_)
    ·refine ak ?_
     exact ⟨[(1,nInt us),(3,.p b1 0),(5,.p b2 0),(40,.i s.op),(52,.b ((s.op==1)||((s.op==2)||((s.op==3)||(s.op==4)))))],[.obj b2 (Z02 s),.obj b1 (Zh n)],⟨rfl,rfl⟩,(wk [0,0] (fq (fc (x:=.b (s.op==1)) (lb (by first|rfl|(rw [if_pos hc4])|(rw [if_neg hc4])|(simp [hc4];done)|(rw [Bool.eq_iff_iff];simp [hc4];done)|omega)) fl)))⟩
    refine ar (ir 2 [(1,nInt us),(3,.p b1 0),(5,.p b2 0),(40,.i s.op),(52,.b (s.op==2))] (ie (ac (s.op==2) beq_iff_eq (fun hc5=>?_) (fun hc5=>?_))))
    ·refine ak ?_
     exact ⟨[(1,nInt us),(3,.p b1 0),(5,.p b2 0),(40,.i s.op),(52,.b ((s.op==1)||((s.op==2)||((s.op==3)||(s.op==4)))))],[.obj b2 (Z02 s),.obj b1 (Zh n)],⟨rfl,rfl⟩,(wk [0,0] (fq (fc (x:=.b (s.op==2)) (lb (by first|rfl|(rw [if_pos hc4])|(rw [if_neg hc4])|(simp [hc4,hc5];done)|(rw [Bool.eq_iff_iff];simp [hc4,hc5];done)|omega)) fl)))⟩
    refine ar (irk 2 (.n 52 (.b (s.op==3)) (.w .z)) (ie (ac (s.op==3) beq_iff_eq (fun hc6=>?_) (fun hc6=>?_))))
    ·refine ak ?_
     exact ⟨[(1,nInt us),(3,.p b1 0),(5,.p b2 0),(40,.i s.op),(52,.b ((s.op==1)||((s.op==2)||((s.op==3)||(s.op==4)))))],[.obj b2 (Z02 s),.obj b1 (Zh n)],⟨rfl,rfl⟩,(wk [0,0] (fq (fc (x:=.b (s.op==3)) (lb (by first|rfl|(rw [if_pos hc4])|(rw [if_neg hc4])|(simp [hc4,hc5,hc6];done)|(rw [Bool.eq_iff_iff];simp [hc4,hc5,hc6];done)|omega)) fl)))⟩
    refine az (irk 2 (.n 52 (.b (s.op==4)) (.d .r)) (ie ?_))
    exact ⟨[(1,nInt us),(3,.p b1 0),(5,.p b2 0),(40,.i s.op),(52,.b ((s.op==1)||((s.op==2)||((s.op==3)||(s.op==4)))))],[.obj b2 (Z02 s),.obj b1 (Zh n)],⟨rfl,rfl⟩,(wk [0,0] (fq (fc (x:=.b (s.op==4)) (lb (by first|rfl|(rw [if_pos hc4])|(rw [if_neg hc4])|(simp [hc4,hc5,hc6];done)|(rw [Bool.eq_iff_iff];simp [hc4,hc5,hc6];done)|omega)) fl)))⟩
   rintro F h ⟨rfl,rfl⟩
   refine ac ((s.op==1)||((s.op==2)||((s.op==3)||(s.op==4)))) (p:=(s.op=1)∨((s.op=2)∨((s.op=3)∨(s.op=4)))) (Zg beq_iff_eq (Zg beq_iff_eq (Zg beq_iff_eq beq_iff_eq))) (fun hc7=>?_) (fun hc7=>?_)
   ·refine ar (iR 3 [(57,nInt us),(59,nInt s.args)] [0] [b2] (iL (Z8 [0,0]) 2 1 ?_))
    intro v1
    refine irk 0 (.n 60 (nInt [0,0]) (.p .r)) (ic [] (Z3n us s.args [0,0] (hl_tys:=(by first|(simp;done)|(have:=Z13 hdk s.num;omega)))) ?_)
    rintro _ _ ⟨rfl,rfl⟩
    refine ie (ac (Z1r us s.args [0,0]) Iff.rfl (fun hc8=>?_) (fun hc8=>?_))
    ·refine ar (ir 1 [(6,.i 0)] (ie ?_))
     exact at_ (r2 [] [.i 0] ⟨rfl,rfl⟩ (li (by first|rfl|( grind)|(have q:=Z22 (ds:=n.decls) (us:=us) (args:=s.args) om; grind)|(have q:=Z23 (ds:=n.decls) (us:=us) (args:=s.args) om ‹s.args[0]? = some _› om; grind)|(have q:=Z2p (ds:=n.decls) (us:=us) (args:=s.args) om ‹s.args[0]? = some _› om ‹us[_]? = some _›; grind))))
    refine ak (ar (ir 1 [(6,.i (-1))] (ie ?_)))
    exact at_ (r2 [] [.i (-1)] ⟨rfl,rfl⟩ (li (by first|rfl|( grind)|(have q:=Z22 (ds:=n.decls) (us:=us) (args:=s.args) om; grind)|(have q:=Z23 (ds:=n.decls) (us:=us) (args:=s.args) om ‹s.args[0]? = some _› om; grind)|(have q:=Z2p (ds:=n.decls) (us:=us) (args:=s.args) om ‹s.args[0]? = some _› om ‹us[_]? = some _›; grind))))
   refine ar (ir 2 [(1,nInt us),(3,.p b1 0),(5,.p b2 0),(40,.i s.op),(62,.b (s.op==5))] (ie (ac (s.op==5) beq_iff_eq (fun hc9=>?_) (fun hc9=>?_))))
   ·refine ar (iR 3 [(64,nInt us),(66,nInt s.args)] [0] [b2] (iL (Z8 [0]) 1 1 ?_))
    intro v2
    refine irk 0 (.n 67 (nInt [0]) (.p .r)) (ic [] (Z3n us s.args [0] (hl_tys:=(by first|(simp;done)|(have:=Z13 hdk s.num;omega)))) ?_)
    rintro _ _ ⟨rfl,rfl⟩
    refine ie (ac (Z1r us s.args [0]) Iff.rfl (fun hc10=>?_) (fun hc10=>?_))
    ·refine ar (ir 1 [(6,.i 0)] (ie ?_))
     exact at_ (r2 [] [.i 0] ⟨rfl,rfl⟩ (li (by first|rfl|( grind)|(have q:=Z22 (ds:=n.decls) (us:=us) (args:=s.args) om; grind)|(have q:=Z23 (ds:=n.decls) (us:=us) (args:=s.args) om ‹s.args[0]? = some _› om; grind)|(have q:=Z2p (ds:=n.decls) (us:=us) (args:=s.args) om ‹s.args[0]? = some _› om ‹us[_]? = some _›; grind))))
    refine ak (ar (ir 1 [(6,.i (-1))] (ie ?_)))
    exact at_ (r2 [] [.i (-1)] ⟨rfl,rfl⟩ (li (by first|rfl|( grind)|(have q:=Z22 (ds:=n.decls) (us:=us) (args:=s.args) om; grind)|(have q:=Z23 (ds:=n.decls) (us:=us) (args:=s.args) om ‹s.args[0]? = some _› om; grind)|(have q:=Z2p (ds:=n.decls) (us:=us) (args:=s.args) om ‹s.args[0]? = some _› om ‹us[_]? = some _›; grind))))
   refine ar (irk 2 (.n 69 (.b (s.op==6)) .r) (ie (ac (s.op==6) beq_iff_eq (fun hc11=>?_) (fun hc11=>?_))))
   ·refine aD 17 (dtK (fuel:=13) 17 [0,1,2,3] (.n 72 (Z2 n.decls) (.n 74 (.i s.num) .r)) [1,0] [b1,b2] (do_ 4 (dc 4 [] [] [] (Z7o n.decls s.num) ?_)))
    rintro _ _ ⟨rfl,rfl⟩
    refine Zca [(3,.p b1 0),(5,.p b2 0),(87,.b ((decide ((Z08 n.decls s.num)>0))&&Z1r us s.args (Z1 n.decls s.num)))] [.obj b2 (Z02 s),.obj b1 (Zh n)] ?_ ?_
    ·refine dt (fuel:=10) 12 [5,6] [(1,nInt us),(3,.p b1 0),(5,.p b2 0),(77,.b (decide ((Z08 n.decls s.num)>0)))] (db (b:=(decide ((Z08 n.decls s.num)>0))) 77 (fun hb5=>?_) (fun hb5=>?_))
     ·have hp9:(Z08 n.decls s.num)>0:=(dq).1 hb5
      refine dtK (fuel:=3) 10 [7,8,9,10,11,12,13] (.n 78 (nInt us) (.n 80 (nInt s.args) (.n 82 (Z2 n.decls) (.n 84 (.i s.num) (.k (.d (.k (.k .z)))))))) [0,1,0] [b2,b1,b2] (do_ 14 (dc 14 [] [0] [b2] (Z3y n.decls s.num (hd:=hdk)) ?_))
      rintro _ _ ⟨rfl,rfl⟩
      refine do_ 15 (dc 15 [] [] [] (Z3n us s.args (Z1 n.decls s.num) (hl_tys:=(by first|(simp;done)|(have:=Z13 hdk s.num;omega)))) ?_)
      rintro _ _ ⟨rfl,rfl⟩
      refine dtk (fuel:=0) 1 [16] (.n 87 (.b (Z1r us s.args (Z1 n.decls s.num))) .r) (de ?_)
      exact wk [0,0] (fw (fc (x:=.b (Z1r us s.args (Z1 n.decls s.num))) (lb (by simp only [hb5];rfl)) fl))
     have hp10:¬((Z08 n.decls s.num)>0):=Zd dq hb5
     refine dtk (fuel:=0) 10 [7,8,9,10,11,12,13,14,15,16] (.n 87 (.b false) (.d (.d (.k (.k .z))))) (de ?_)
     exact wk [0,0] (fw (fc (x:=.b false) (lb (by simp only [hb5];rfl)) fl))
    refine ac ((decide ((Z08 n.decls s.num)>0))&&Z1r us s.args (Z1 n.decls s.num)) (p:=((Z08 n.decls s.num)>0)∧(Z1r us s.args (Z1 n.decls s.num)=true)) (Zj dq Iff.rfl) (fun hc12=>?_) (fun hc12=>?_)
    ·refine ar (iR 4 [(89,Z2 n.decls),(91,.i s.num)] [1,0] [b1,b2] (ic [] (Z7o n.decls s.num) ?_))
     rintro _ _ ⟨rfl,rfl⟩
     refine ir 1 [(6,.i (Z08 n.decls s.num))] (ie ?_)
     exact at_ (r2 [] [.i (Z08 n.decls s.num)] ⟨rfl,rfl⟩ (li (by first|rfl|( grind)|(have q:=Z22 (ds:=n.decls) (us:=us) (args:=s.args) om; grind)|(have q:=Z23 (ds:=n.decls) (us:=us) (args:=s.args) om ‹s.args[0]? = some _› om; grind)|(have q:=Z2p (ds:=n.decls) (us:=us) (args:=s.args) om ‹s.args[0]? = some _› om ‹us[_]? = some _›; grind))))
    refine ak (ar (ir 1 [(6,.i (-1))] (ie ?_)))
    exact at_ (r2 [] [.i (-1)] ⟨rfl,rfl⟩ (li (by first|rfl|( grind)|(have q:=Z22 (ds:=n.decls) (us:=us) (args:=s.args) om; grind)|(have q:=Z23 (ds:=n.decls) (us:=us) (args:=s.args) om ‹s.args[0]? = some _› om; grind)|(have q:=Z2p (ds:=n.decls) (us:=us) (args:=s.args) om ‹s.args[0]? = some _› om ‹us[_]? = some _›; grind))))
   refine ar (irk 2 (.n 93 (.b (s.op==7)) .r) (ie (ac (s.op==7) beq_iff_eq (fun hc13=>?_) (fun hc13=>?_))))
   ·refine ar (irK 3 (.n 95 (nInt us) (.n 97 (nInt s.args) .r)) [0] [b2] (iL (Z8 [0]) 1 1 ?_))
    intro v3
    refine irk 0 (.n 98 (nInt [0]) (.p .r)) (ic [] (Z3n us s.args [0] (hl_tys:=(by first|(simp;done)|(have:=Z13 hdk s.num;omega)))) ?_)
    rintro _ _ ⟨rfl,rfl⟩
    refine ie (ac (Z1r us s.args [0]) Iff.rfl (fun hc14=>?_) (fun hc14=>?_))
    ·refine ar (iR 3 [(100,Zi n),(101,nInt us),(102,Z0g s)] [2,1] [b1,b2] (ic [] (Z9o n us s (ih:=ob)) ?_))
     rintro _ _ ⟨rfl,rfl⟩
     refine ir 1 [(6,.i (Z3o n us s.op s.num s.kids))] (ie ?_)
     exact at_ (r2 [] [.i (Z3o n us s.op s.num s.kids)] ⟨rfl,rfl⟩ (li (by first|rfl|( grind)|(have q:=Z22 (ds:=n.decls) (us:=us) (args:=s.args) om; grind)|(have q:=Z23 (ds:=n.decls) (us:=us) (args:=s.args) om ‹s.args[0]? = some _› om; grind)|(have q:=Z2p (ds:=n.decls) (us:=us) (args:=s.args) om ‹s.args[0]? = some _› om ‹us[_]? = some _›; grind))))
    refine ak (ar (ir 1 [(6,.i (-1))] (ie ?_)))
    exact at_ (r2 [] [.i (-1)] ⟨rfl,rfl⟩ (li (by first|rfl|( grind)|(have q:=Z22 (ds:=n.decls) (us:=us) (args:=s.args) om; grind)|(have q:=Z23 (ds:=n.decls) (us:=us) (args:=s.args) om ‹s.args[0]? = some _› om; grind)|(have q:=Z2p (ds:=n.decls) (us:=us) (args:=s.args) om ‹s.args[0]? = some _› om ‹us[_]? = some _›; grind))))
   refine ar (irk 2 (.n 104 (.b (s.op==8)) .r) (ie (ac (s.op==8) beq_iff_eq (fun hc15=>?_) (fun hc15=>?_))))
   ·refine ar (irK 5 (.n 106 (nInt us) (.n 108 (nInt s.args) (.n 110 (.i s.num) .r))) [0,0] [b2,b2] (iL (Z8 [s.num]) 1 1 ?_))
    intro v4
    refine irk 0 (.n 111 (nInt [s.num]) (.p .r)) (ic [] (Z3n us s.args [s.num] (hl_tys:=(by first|(simp;done)|(have:=Z13 hdk s.num;omega)))) ?_)
    rintro _ _ ⟨rfl,rfl⟩
    refine ie (ac (Z1r us s.args [s.num]) Iff.rfl (fun hc16=>?_) (fun hc16=>?_))
    ·refine ar (iR 3 [(113,Zi n),(114,nInt us),(115,Z0g s)] [2,1] [b1,b2] (ic [] (Z9o n us s (ih:=ob)) ?_))
     rintro _ _ ⟨rfl,rfl⟩
     refine ir 1 [(6,.i (Z3o n us s.op s.num s.kids))] (ie ?_)
     exact at_ (r2 [] [.i (Z3o n us s.op s.num s.kids)] ⟨rfl,rfl⟩ (li (by first|rfl|( grind)|(have q:=Z22 (ds:=n.decls) (us:=us) (args:=s.args) om; grind)|(have q:=Z23 (ds:=n.decls) (us:=us) (args:=s.args) om ‹s.args[0]? = some _› om; grind)|(have q:=Z2p (ds:=n.decls) (us:=us) (args:=s.args) om ‹s.args[0]? = some _› om ‹us[_]? = some _›; grind))))
    refine ak (ar (ir 1 [(6,.i (-1))] (ie ?_)))
    exact at_ (r2 [] [.i (-1)] ⟨rfl,rfl⟩ (li (by first|rfl|( grind)|(have q:=Z22 (ds:=n.decls) (us:=us) (args:=s.args) om; grind)|(have q:=Z23 (ds:=n.decls) (us:=us) (args:=s.args) om ‹s.args[0]? = some _› om; grind)|(have q:=Z2p (ds:=n.decls) (us:=us) (args:=s.args) om ‹s.args[0]? = some _› om ‹us[_]? = some _›; grind))))
   refine aq (ar (irk 2 (.n 117 (.b (s.op==9)) .r) (ie (Z6a (fun F h=>F=[(1,nInt us),(3,.p b1 0),(5,.p b2 0),(40,.i s.op),(117,.b ((s.op==9)||(s.op==10)))]∧h=[.obj b2 (Z02 s),.obj b1 (Zh n)]) ?_ ?_))))
   ·refine ac (s.op==9) beq_iff_eq (fun hc17=>?_) (fun hc17=>?_)
    ·refine ak ?_
     exact ⟨[(1,nInt us),(3,.p b1 0),(5,.p b2 0),(40,.i s.op),(117,.b ((s.op==9)||(s.op==10)))],[.obj b2 (Z02 s),.obj b1 (Zh n)],⟨rfl,rfl⟩,(wk [0,0] (fq (fc (x:=.b (s.op==9)) (lb (by first|rfl|(rw [if_pos hc17])|(rw [if_neg hc17])|(simp [hc17];done)|(rw [Bool.eq_iff_iff];simp [hc17];done)|omega)) fl)))⟩
    refine az (ir 2 [(1,nInt us),(3,.p b1 0),(5,.p b2 0),(40,.i s.op),(117,.b (s.op==10))] (ie ?_))
    exact ⟨[(1,nInt us),(3,.p b1 0),(5,.p b2 0),(40,.i s.op),(117,.b ((s.op==9)||(s.op==10)))],[.obj b2 (Z02 s),.obj b1 (Zh n)],⟨rfl,rfl⟩,(wk [0,0] (fq (fc (x:=.b (s.op==10)) (lb (by first|rfl|(rw [if_pos hc17])|(rw [if_neg hc17])|(simp [hc17];done)|(rw [Bool.eq_iff_iff];simp [hc17];done)|omega)) fl)))⟩
   rintro F h ⟨rfl,rfl⟩
   refine ac ((s.op==9)||(s.op==10)) (p:=(s.op=9)∨(s.op=10)) (Zg beq_iff_eq beq_iff_eq) (fun hc18=>?_) (fun hc18=>?_)
   ·refine ar (iR 3 [(120,Zi n),(121,nInt us),(122,Z0g s)] [1,0] [b1,b2] (ic [] (Zby n us s) ?_))
    rintro _ _ ⟨rfl,rfl⟩
    refine ir 1 [(6,.i (Z2l n us s.op s.num s.args))] (ie ?_)
    exact at_ (r2 [] [.i (Z2l n us s.op s.num s.args)] ⟨rfl,rfl⟩ (li (by first|rfl|( grind)|(have q:=Z22 (ds:=n.decls) (us:=us) (args:=s.args) om; grind)|(have q:=Z23 (ds:=n.decls) (us:=us) (args:=s.args) om ‹s.args[0]? = some _› om; grind)|(have q:=Z2p (ds:=n.decls) (us:=us) (args:=s.args) om ‹s.args[0]? = some _› om ‹us[_]? = some _›; grind))))
   refine ar (ir 2 [(1,nInt us),(3,.p b1 0),(5,.p b2 0),(40,.i s.op),(124,.b (s.op==11))] (ie (ac (s.op==11) beq_iff_eq (fun hc19=>?_) (fun hc19=>?_))))
   ·refine aD 26 (dtK (fuel:=24) 26 [0,1] (.n 127 (nInt s.args) .r) [0] [b2] (dw 2 (Z4 s.args) (dtk (fuel:=21) 23 [3,4] (.n 130 (.b ((s.args.length:Int)==2)) .r) (db (b:=((s.args.length:Int)==2)) 130 (fun hb6=>?_) (fun hb6=>?_)))))
    ·have hp11:(s.args.length:Int)=2:=(beq_iff_eq).1 hb6
     refine dtK (fuel:=19) 21 [5,6] (.n 132 (nInt s.args) (.k (.d .r))) [0] [b2] ?_
     obtain ⟨x1,hx1⟩:=Z6 (xs:=s.args) (j:=0) om
     refine dx 7 (Z0 (es:=Z8 s.args) (hv:=none) (j:=0) (sz:=1) (y:=.i x1) kr om (Z9 hx1) rfl) (dtk (fuel:=16) 18 [8,9] (.n 134 (.i x1) (.n 135 (nInt us) .r)) (dw 10 (Z4 us) (da 11 (((us.length:Int)-1)) (((us.length:Int))-(1)) (do_ 12 (dc 12 [] [] [] (Z0w x1 0 ((us.length:Int)-1)) ?_)))))
     rintro _ _ ⟨rfl,rfl⟩
     refine dtk (fuel:=11) 13 [13,14] (.n 140 (.b (decide (0≤x1∧x1≤((us.length:Int)-1)))) .r) (db (b:=(decide (0≤x1∧x1≤((us.length:Int)-1)))) 140 (fun hb7=>?_) (fun hb7=>?_))
     ·have hp12:0≤x1∧x1≤((us.length:Int)-1):=(dq).1 hb7
      refine dtK (fuel:=6) 11 [15,16,17,18,19] (.n 142 (Z2 n.decls) (.n 143 (nInt us) (.n 145 (nInt s.args) (.k (.d .r))))) [1,0] [b1,b2] (dx 20 (Z0 (es:=Z8 s.args) (hv:=none) (j:=0) (sz:=1) (y:=.i x1) kr om (Z9 hx1) rfl) (dtk (fuel:=4) 5 [21] (.n 147 (.i x1) .r) ?_))
      obtain ⟨x2,hx2⟩:=Z6 (xs:=us) (j:=x1.toNat) om
      refine dx 22 (Z0 (es:=Z8 us) (hv:=none) (j:=x1) (sz:=1) (y:=.i x2) kr om (Z9 hx2) rfl) (dtk (fuel:=2) 3 [23] (.n 149 (.i x2) .r) (do_ 24 (dc 24 [] [] [] (Zaa n.decls x2) ?_)))
      rintro _ _ ⟨rfl,rfl⟩
      refine dtk (fuel:=0) 1 [25] (.n 151 (.b (Z00 n.decls x2)) .r) (de (ac (Z00 n.decls x2) Iff.rfl (fun hc20=>?_) (fun hc20=>?_)))
      ·refine aD 14 (dtK (fuel:=9) 14 [0,1,2,3,4] (.n 153 (Z2 n.decls) (.n 154 (nInt us) (.n 156 (nInt s.args) .r))) [1,0] [b1,b2] (dx 5 (Z0 (es:=Z8 s.args) (hv:=none) (j:=0) (sz:=1) (y:=.i x1) kr om (Z9 hx1) rfl) (dtk (fuel:=7) 8 [6] (.n 158 (.i x1) .r) (dx 7 (Z0 (es:=Z8 us) (hv:=none) (j:=x1) (sz:=1) (y:=.i x2) kr om (Z9 hx2) rfl) (dtk (fuel:=5) 6 [8] (.n 160 (.i x2) .r) (da 9 ((x2-1)) ((x2)-(1)) (hb:=(by have:=Ze5 ‹Z00 n.decls _=true›;omega)) ?_))))))
       obtain ⟨x3,hx3⟩:=Z6 (xs:=n.decls) (j:=(x2-1).toNat) (by have:=Ze5 ‹Z00 n.decls _=true›;omega)
       have had:=Z02l (us:=us) (args:=s.args) om ‹s.args[0]? = some _› om ‹us[_]? = some _› ‹Z00 n.decls _=true› hx3
       refine dx 10 (Z0 (es:=Z0i n.decls) (hv:=none) (j:=(x2-1)) (sz:=3) (y:=Z2s x3) kr (by have:=Ze5 ‹Z00 n.decls _=true›;omega) (Z0z hx3) rfl) (dtk (fuel:=2) 3 [11] (.n 163 (Z2s x3) .r) (do_ 12 (dA 12 [0,1] [b2,b1] [.i 0,.i 0,nl] ?_)))
       intro b3
       refine do_ 13 (dS 13 0 [] [] b3 0 (Z2g x3) [.i 0,.i 0,nl] (Z2g x3) (de (aD 8 (dtK (fuel:=5) 8 [0,1,2] (.n 164 (nInt us) (.n 166 (nInt s.args) .r)) [1] [b2] (dx 3 (Z63 (es:=Z8 s.args) (hv:=none) (l:=1) (m:=(((Z8 s.args).length:Nat):Int)) (sz:=1) (es':=Z8 (s.args.drop 1)) kr om (by simp<;>omega) (by simp<;>omega) (Z11 _) (by first|(simp only [Int.toNat_natCast,List.take_length,Z3v,Z4n];done)|(simp only [Int.toNat_natCast,List.take_length,Z3v,Z4n];rfl)|(simp [Z3v,Z4n];done))) (dtK (fuel:=2) 4 [4,5] (.n 169 (.i x3.frm) .r) [0] [b3] (do_ 6 (dL 6 [1] [b2] (Z8 [x3.frm]) 1 1 ?_))))))))
       intro v5
       refine dtk (fuel:=1) 1 [] (.n 170 (nInt [x3.frm]) (.p .r)) (do_ 7 (dc 7 [] [] [] (Z3n us (s.args.drop 1) [x3.frm] (hl_tys:=(by first|(simp;done)|(have:=Z13 hdk s.num;omega)))) ?_))
       rintro _ _ ⟨rfl,rfl⟩
       refine de (ac (Z1r us (s.args.drop 1) [x3.frm]) Iff.rfl (fun hc21=>?_) (fun hc21=>?_))
       ·refine ar (iR 3 [(6,.i x3.to_)] [1] [b3] (ie ?_))
        exact at_ (r2 [] [.i x3.to_] ⟨rfl,rfl⟩ (li (by first|rfl|(clear hx1 hx2 hx3;grind)|(have q:=Z22 (ds:=n.decls) (us:=us) (args:=s.args) om;clear hx1 hx2 hx3;grind)|(have q:=Z23 (ds:=n.decls) (us:=us) (args:=s.args) om ‹s.args[0]? = some _› om;clear hx1 hx2 hx3;grind)|(have q:=Z2p (ds:=n.decls) (us:=us) (args:=s.args) om ‹s.args[0]? = some _› om ‹us[_]? = some _›;clear hx1 hx2 hx3;grind))))
       refine ak (ar (ir 1 [(6,.i (-1))] (ie ?_)))
       exact at_ (r2 [] [.i (-1)] ⟨rfl,rfl⟩ (li (by first|rfl|(clear hx1 hx2 hx3;grind)|(have q:=Z22 (ds:=n.decls) (us:=us) (args:=s.args) om;clear hx1 hx2 hx3;grind)|(have q:=Z23 (ds:=n.decls) (us:=us) (args:=s.args) om ‹s.args[0]? = some _› om;clear hx1 hx2 hx3;grind)|(have q:=Z2p (ds:=n.decls) (us:=us) (args:=s.args) om ‹s.args[0]? = some _› om ‹us[_]? = some _›;clear hx1 hx2 hx3;grind))))
      refine ak (ar (ir 1 [(6,.i (-1))] (ie ?_)))
      exact at_ (r2 [] [.i (-1)] ⟨rfl,rfl⟩ (li (by first|rfl|(clear hx1 hx2;grind)|(have q:=Z22 (ds:=n.decls) (us:=us) (args:=s.args) om;clear hx1 hx2;grind)|(have q:=Z23 (ds:=n.decls) (us:=us) (args:=s.args) om ‹s.args[0]? = some _› om;clear hx1 hx2;grind)|(have q:=Z2p (ds:=n.decls) (us:=us) (args:=s.args) om ‹s.args[0]? = some _› om ‹us[_]? = some _›;clear hx1 hx2;grind))))
     have hp13:¬(0≤x1∧x1≤((us.length:Int)-1)):=Zd dq hb7
     refine dtk (fuel:=0) 11 [15,16,17,18,19,20,21,22,23,24,25] (.n 151 (.b false) (.k (.d .r))) (de (ac0 (ak (ar (ir 1 [(6,.i (-1))] (ie ?_))))))
     exact at_ (r2 [] [.i (-1)] ⟨rfl,rfl⟩ (li (by first|rfl|(clear hx1;grind)|(have q:=Z22 (ds:=n.decls) (us:=us) (args:=s.args) om;clear hx1;grind)|(have q:=Z23 (ds:=n.decls) (us:=us) (args:=s.args) om ‹s.args[0]? = some _› om;clear hx1;grind)|(have q:=Z2p (ds:=n.decls) (us:=us) (args:=s.args) om ‹s.args[0]? = some _› om ‹us[_]? = some _›;clear hx1;grind))))
    have hp14:¬((s.args.length:Int)=2):=Zd beq_iff_eq hb6
    refine dtk (fuel:=0) 21 [5,6,7,8,9,10,11,12,13,14,15,16,17,18,19,20,21,22,23,24,25] (.n 151 (.b false) (.k (.d .r))) (de (ac0 (ak (ar (ir 1 [(6,.i (-1))] (ie ?_))))))
    exact at_ (r2 [] [.i (-1)] ⟨rfl,rfl⟩ (li (by first|rfl|( grind)|(have q:=Z22 (ds:=n.decls) (us:=us) (args:=s.args) om; grind)|(have q:=Z23 (ds:=n.decls) (us:=us) (args:=s.args) om ‹s.args[0]? = some _› om; grind)|(have q:=Z2p (ds:=n.decls) (us:=us) (args:=s.args) om ‹s.args[0]? = some _› om ‹us[_]? = some _›; grind))))
   refine aq (ar (irk 2 (.n 174 (.b (s.op==14)) .r) (ie (Z6a (fun F h=>F=[(1,nInt us),(3,.p b1 0),(5,.p b2 0),(174,.b ((s.op==14)||((s.op==15)||((s.op==16)||(s.op==17)))))]∧h=[.obj b2 (Z02 s),.obj b1 (Zh n)]) ?_ ?_))))
   ·refine ac (s.op==14) beq_iff_eq (fun hc22=>?_) (fun hc22=>?_)
    ·refine ak ?_
     exact ⟨[(1,nInt us),(3,.p b1 0),(5,.p b2 0),(174,.b ((s.op==14)||((s.op==15)||((s.op==16)||(s.op==17)))))],[.obj b2 (Z02 s),.obj b1 (Zh n)],⟨rfl,rfl⟩,(wk [0,0] (fw (fr (fc (x:=.b (s.op==14)) (lb (by first|rfl|(rw [if_pos hc22])|(rw [if_neg hc22])|(simp [hc22];done)|(rw [Bool.eq_iff_iff];simp [hc22];done)|omega)) fl))))⟩
    refine ar (ir 2 [(1,nInt us),(3,.p b1 0),(5,.p b2 0),(40,.i s.op),(174,.b (s.op==15))] (ie (ac (s.op==15) beq_iff_eq (fun hc23=>?_) (fun hc23=>?_))))
    ·refine ak ?_
     exact ⟨[(1,nInt us),(3,.p b1 0),(5,.p b2 0),(174,.b ((s.op==14)||((s.op==15)||((s.op==16)||(s.op==17)))))],[.obj b2 (Z02 s),.obj b1 (Zh n)],⟨rfl,rfl⟩,(wk [0,0] (fw (fr (fc (x:=.b (s.op==15)) (lb (by first|rfl|(rw [if_pos hc22])|(rw [if_neg hc22])|(simp [hc22,hc23];done)|(rw [Bool.eq_iff_iff];simp [hc22,hc23];done)|omega)) fl))))⟩
    refine ar (irk 2 (.n 174 (.b (s.op==16)) (.w .z)) (ie (ac (s.op==16) beq_iff_eq (fun hc24=>?_) (fun hc24=>?_))))
    ·refine ak ?_
     exact ⟨[(1,nInt us),(3,.p b1 0),(5,.p b2 0),(174,.b ((s.op==14)||((s.op==15)||((s.op==16)||(s.op==17)))))],[.obj b2 (Z02 s),.obj b1 (Zh n)],⟨rfl,rfl⟩,(wk [0,0] (fw (fr (fc (x:=.b (s.op==16)) (lb (by first|rfl|(rw [if_pos hc22])|(rw [if_neg hc22])|(simp [hc22,hc23,hc24];done)|(rw [Bool.eq_iff_iff];simp [hc22,hc23,hc24];done)|omega)) fl))))⟩
    refine az (irk 2 (.n 174 (.b (s.op==17)) (.d .r)) (ie ?_))
    exact ⟨[(1,nInt us),(3,.p b1 0),(5,.p b2 0),(174,.b ((s.op==14)||((s.op==15)||((s.op==16)||(s.op==17)))))],[.obj b2 (Z02 s),.obj b1 (Zh n)],⟨rfl,rfl⟩,(wk [0,0] (fw (fr (fc (x:=.b (s.op==17)) (lb (by first|rfl|(rw [if_pos hc22])|(rw [if_neg hc22])|(simp [hc22,hc23,hc24];done)|(rw [Bool.eq_iff_iff];simp [hc22,hc23,hc24];done)|omega)) fl))))⟩
   rintro F h ⟨rfl,rfl⟩
   refine ac ((s.op==14)||((s.op==15)||((s.op==16)||(s.op==17)))) (p:=(s.op=14)∨((s.op=15)∨((s.op=16)∨(s.op=17)))) (Zg beq_iff_eq (Zg beq_iff_eq (Zg beq_iff_eq beq_iff_eq))) (fun hc25=>?_) (fun hc25=>?_)
   ·refine ar (iR 3 [(179,Zi n),(180,nInt us),(181,Z0g s)] [1,0] [b1,b2] (ic [] (Zay n us s) ?_))
    rintro _ _ ⟨rfl,rfl⟩
    refine ir 1 [(6,.i (Z1z n.decls us s.op s.args))] (ie ?_)
    exact at_ (r2 [] [.i (Z1z n.decls us s.op s.args)] ⟨rfl,rfl⟩ (li (by first|rfl|( grind)|(have q:=Z22 (ds:=n.decls) (us:=us) (args:=s.args) om; grind)|(have q:=Z23 (ds:=n.decls) (us:=us) (args:=s.args) om ‹s.args[0]? = some _› om; grind)|(have q:=Z2p (ds:=n.decls) (us:=us) (args:=s.args) om ‹s.args[0]? = some _› om ‹us[_]? = some _›; grind))))
   refine ak (ar (ir 1 [(6,.i (-1))] (ie ?_)))
   exact at_ (r2 [] [.i (-1)] ⟨rfl,rfl⟩ (li (by first|rfl|( grind)|(have q:=Z22 (ds:=n.decls) (us:=us) (args:=s.args) om; grind)|(have q:=Z23 (ds:=n.decls) (us:=us) (args:=s.args) om ‹s.args[0]? = some _› om; grind)|(have q:=Z2p (ds:=n.decls) (us:=us) (args:=s.args) om ‹s.args[0]? = some _› om ‹us[_]? = some _›; grind))))
  refine ir 1 [(1,nInt us),(3,.p b1 0),(5,.p b2 0),(17,.b ((s.num != 0)&&(!Z20 s.op)))] (ib (b:=((s.num != 0)&&(!Z20 s.op))) 17 (fun hb8=>?_) (fun hb8=>?_))
  ·have hp15:(s.num≠0)∧(¬(Z20 s.op=true)):=((Zj bne_iff_ne (Zc Iff.rfl))).1 hb8
   refine irk 5 (.n 22 (.b true) (.d (.k (.k (.k .z))))) ?_
   exact Zy (wk [0,0] (fw (fr (fc (x:=.b true) (lb (by simp only [hb8];rfl)) fl)))) hj2
  have hp16:¬((s.num≠0)∧(¬(Z20 s.op=true))):=Zd (Zj bne_iff_ne (Zc Iff.rfl)) hb8
  refine irK 2 (.n 18 (nInt us) (.n 19 (Z0g s) (.w .z))) [0] [b2] (ic [] (Zeo us s) ?_)
  rintro _ _ ⟨rfl,rfl⟩
  refine irk 2 (.n 22 (.b (!Z15 us s.op s.into)) .r) ?_
  exact Zy (wk [0,0] (fw (fr (fc (x:=.b (!Z15 us s.op s.into)) (lb (by simp only [hb8];rfl)) fl)))) hj2
 refine iR 4 [(1,nInt us),(3,.p b1 0),(5,.p b2 0),(11,.b (s.num != 0))] [0] [b2] (ib (b:=(s.num != 0)) 11 (fun hb9=>?_) (fun hb9=>?_))
 ·have hp17:s.num≠0:=(bne_iff_ne).1 hb9
  refine irK 2 (.n 13 (.i s.op) (.w .z)) [0] [b2] (ic [] (Zil s.op) ?_)
  rintro _ _ ⟨rfl,rfl⟩
  refine irk 2 (.n 16 (.b (!Z20 s.op)) .r) ?_
  exact Zy (wk [0,0] (fw (fr (fc (x:=.b (!Z20 s.op)) (lb (by simp only [hb9];rfl)) fl)))) hj1
 have hp18:¬(s.num≠0):=Zd bne_iff_ne hb9
 refine irk 5 (.n 16 (.b false) (.d (.k (.k (.k .z))))) ?_
 exact Zy (wk [0,0] (fw (fr (fc (x:=.b false) (lb (by simp only [hb9];rfl)) fl)))) hj1
theorem Zbw (n:Normal) (us:List Int) (b:Block) (hn:NOk n:=by exact ob) (hb:us.length+4*b.sz≤1000000000:=by exact ob) (ih:∀(s:Step) (us:List Int),(s.sz<b.sz)→(us.length+4*s.sz≤1000000000)→Z3 Tryz.prog 145 [Zi n,nInt us,Z0g s] [] (fun r h=>r=.i (Z7 n us s)∧h=[])):Z3 Tryz.prog 98 [Zi n,nInt us,Za b] [] (fun r h=>r=.i (Zf n us b)∧h=[]):=by
 have hbz:=Z4d b
 have hbe:=Z91 n us b
 refine enter Tryz.func98 kr (n:=52) kr kr (ar (iA (Zh n) ?_))
 intro b1
 refine iA (Z03 b) ?_
 intro b2
 refine ir 1 [(1,nInt us),(3,.p b1 0),(5,.p b2 0)] (ie (ar (irk 1 (.n 10 (nInt us) .r) (ic [] (Z26 us) ?_))))
 rintro _ _ ⟨v1,rfl,rfl⟩
 refine irk 1 (.n 7 (oInt us v1) .r) (ie (aq (ar (irk 1 (.n 8 (.i 0) .r) (ie (ab 0 (al (fun m F h=>∃(k:Nat) (vs:List Int) (v:Value),(k≤b.steps.length)∧(vs.length≤us.length+k)∧(Z10 n (b.steps.drop k) vs=Z10 n b.steps us)∧F=[(3,.p b1 0),(5,.p b2 0),(7,oInt vs v),(8,.i k)]∧h=[.obj b2 (Z03 b),.obj b1 (Zh n),.tail v 1]∧m=b.steps.length-k) _ _ _ ⟨0,us,v1,ob,ob,ob,rfl,rfl,rfl⟩ (wk [1,1,0] (fw (fr (fc (x:=.i 0) li fl)))) ?_)))))))
 rintro m F h ⟨k,vs,v,c0_0,c0_1,c0_2,rfl,rfl,rfl⟩
 refine aq (ar (irK 3 (.n 12 (.i k) (.n 14 (Z0b b.steps) .r)) [0] [b2] (iw (Z0l b.steps) (irk 1 (.n 16 (.b (decide ((k:Int)<(b.steps.length:Int)))) .r) (ie (ac (decide ((k:Int)<(b.steps.length:Int))) dq (fun hc1=>?_) (fun hc1=>?_)))))))
 ·refine ak (aq (ab 1 (aD 9 (dtK (fuel:=4) 9 [0,1,2,3,4] (.n 19 (Zi n) (.n 20 (oInt vs v) (.n 22 (Z0b b.steps) (.n 23 (.i k) .r)))) [1,0] [b1,b2] ?_))))
  obtain ⟨x1,hx1⟩:=Z6 (xs:=b.steps) (j:=k) om
  have hss:=Zdh hx1
  refine dx 5 (Z0 (es:=Zo b.steps) (hv:=none) (j:=(k:Int)) (sz:=5) (y:=Z0g x1) kr om (Z0y hx1) rfl) (dtk (fuel:=2) 3 [6] (.n 20 (nInt vs) (.n 25 (Z0g x1) (.q 24 (.k (.d .r))))) (do_ 7 (dc 7 [] [] [] (ih x1 vs ob ob) ?_)))
  rintro _ _ ⟨rfl,rfl⟩
  refine dtk (fuel:=0) 1 [8] (.n 9 (.i (Z7 n vs x1)) .r) (de (aq (ar (irk 2 (.n 28 (.b (decide ((Z7 n vs x1)<0))) .r) (ie (ac (decide ((Z7 n vs x1)<0)) dq (fun hc2=>?_) (fun hc2=>?_)))))))
  ·refine ar (ir 1 [(6,.i (-1))] (ie ?_))
   rw [Z5 hx1] at c0_2
   exact at_ (r2 [] [.i (-1)] ⟨rfl,rfl⟩ (li (by clear hx1;first|rfl|omega|grind [Z10])))
  refine ak (ar (irK 3 (.n 30 (Z0b b.steps) (.n 31 (.i k) .r)) [0] [b2] (is_ (Z0 (es:=Zo b.steps) (hv:=none) (j:=(k:Int)) (sz:=5) (y:=Z0g x1) kr om (Z0y hx1) rfl) (irk 2 (.n 34 (.i x1.op) .r) (ic [] (Z1t x1.op) ?_)))))
  rintro _ _ ⟨rfl,rfl⟩
  refine ie (Zlx (fun F h=>∃(w:Value),F=[(3,.p b1 0),(5,.p b2 0),(7,oInt (if Zx x1.op=true then vs++[Z7 n vs x1] else vs) w),(8,.i k)]∧h=[.obj b2 (Z03 b),.obj b1 (Zh n),.tail w 1]) (fun _ _=>rfl) ?_ ?_)
  ·refine ac (Zx x1.op) Iff.rfl (fun hc3=>?_) (fun hc3=>?_)
   ·refine az (ir 2 [(3,.p b1 0),(5,.p b2 0),(8,.i k),(36,oInt vs v),(37,.i (Z7 n vs x1))] (iL (Z8 [Z7 n vs x1]) 1 1 ?_))
    intro v2
    refine irk 0 (.n 38 (nInt [Z7 n vs x1]) (.p .r)) (ip 3 (Z8 (vs++[Z7 n vs x1])) (Z8 vs) (Z8 [Z7 n vs x1]) v none 1 (Z11 _) (Z11 _) (Z3u _) (by simp<;>omega) (by simp [Z29,Z8]) ?_)
    intro v3
    refine irk 1 (.n 7 (oInt (vs++[Z7 n vs x1]) v3) .r) (ie ?_)
    exact ⟨[(3,.p b1 0),(5,.p b2 0),(7,oInt (if Zx x1.op=true then vs++[Z7 n vs x1] else vs) v3),(8,.i k)],[.obj b2 (Z03 b),.obj b1 (Zh n),.tail v3 1],⟨v3,rfl,rfl⟩,(wk [2,2,0] (fw (fc (x:=oInt (vs++[Z7 n vs x1]) v3) (AVLe.slh _ (congrArg Z8 (by first|rfl|(rw [if_pos hc3])|(rw [if_neg hc3])|(simp [hc3];done)|(rw [Bool.eq_iff_iff];simp [hc3];done)|omega))) fl)))⟩
   refine ak ?_
   exact ⟨[(3,.p b1 0),(5,.p b2 0),(7,oInt (if Zx x1.op=true then vs++[Z7 n vs x1] else vs) v),(8,.i k)],[.obj b2 (Z03 b),.obj b1 (Zh n),.tail v 1],⟨v,rfl,rfl⟩,(wk [0,0,0] (fw (fc (x:=oInt vs v) (AVLe.slh _ (congrArg Z8 (by first|rfl|(rw [if_pos hc3])|(rw [if_neg hc3])|(simp [hc3];done)|(rw [Bool.eq_iff_iff];simp [hc3];done)|omega))) fl)))⟩
  rintro F h ⟨w,rfl,rfl⟩
  refine az (ir 1 [(3,.p b1 0),(5,.p b2 0),(7,oInt (if Zx x1.op=true then vs++[Z7 n vs x1] else vs) w),(17,.i k)] (ia (((k+1:Nat):Int)) (((k:Int))+(1)) (irk 1 (.n 8 (.i (k+1:Nat)) .r) (ie ?_))))
  have hdr:=Z5 hx1
  exact ⟨_,_,_,ob,⟨k+1,(if Zx x1.op=true then vs++[Z7 n vs x1] else vs),w,ob,(by split<;>(try simp)<;>omega),(by rw [hdr] at c0_2;clear hdr hx1;grind [Z10]),rfl,rfl,rfl⟩,(wk [0,0,0] (fw (fr (fc (x:=.i (k+1:Nat)) li fl))))⟩
 refine ax 0 (aq (ar (irK 3 (.n 41 (.i b.result) (.n 42 (oInt vs v) .r)) [0] [b2] (iw (Z4 vs) (ia (((vs.length:Int)-1)) (((vs.length:Int))-(1)) (ic [] (Z0w b.result 0 ((vs.length:Int)-1)) ?_))))))
 rintro _ _ ⟨rfl,rfl⟩
 refine irk 1 (.n 46 (.b (!(decide (0≤b.result∧b.result≤((vs.length:Int)-1))))) .r) (ie (ac (!(decide (0≤b.result∧b.result≤((vs.length:Int)-1)))) (p:=¬(0≤b.result∧b.result≤((vs.length:Int)-1))) (Zc dq) (fun hc4=>?_) (fun hc4=>?_)))
 ·refine ar (ir 1 [(6,.i (-1))] (ie ?_))
  try rw [Zt (xs:=b.steps) (k:=k) om] at c0_2
  exact at_ (r2 [] [.i (-1)] ⟨rfl,rfl⟩ (li (by rw [hbe,←c0_2];show _=(atI vs b.result).getD (-1);rw [Z5t hc4];rfl)))
 refine ak (ar (iR 3 [(47,oInt vs v),(49,.i b.result)] [0] [b2] ?_))
 obtain ⟨x2,hx2⟩:=Z6 (xs:=vs) (j:=b.result.toNat) om
 refine is_ (Z0 (es:=Z8 vs) (hv:=some v) (j:=b.result) (sz:=1) (y:=.i x2) kr om (Z9 hx2) rfl) (ir 2 [(6,.i x2)] (ie ?_))
 try rw [Zt (xs:=b.steps) (k:=k) om] at c0_2
 exact at_ (r2 [] [.i x2] ⟨rfl,rfl⟩ (li (by rw [hbe,←c0_2];show _=(atI vs b.result).getD (-1);rw [Z6v om hx2];rfl)))
theorem Zbz (b:Block) (l:Int) (hb:b.sz≤1000000000) (hl:0≤l∧l≤600) (ih:∀(b2:Block) (l:Int),(b2.sz<b.sz)→(0≤l∧l≤600)→Z3 Tryz.prog 102 [Za b2,.i l] [] (fun r h=>r=.i (Z3m b2 l)∧h=[])):Z3 Tryz.prog 102 [Za b,.i l] [] (fun r h=>r=.i (Z3m b l)∧h=[]):=by
 have hbz:=Z4d b
 have hbe:=Zr4 b l
 refine enter Tryz.func102 kr (n:=43) kr kr (ar (iA (Z03 b) ?_))
 intro b1
 refine ir 1 [(1,.i l),(2,.p b1 0)] (ie (aq (ar (irk 1 (.n 5 (.i 0) .r) (ie (ab 0 (al (fun m F h=>∃(k:Nat) (q:Int),(k≤b.steps.length)∧(0≤q∧q≤600)∧(Z6h (b.steps.drop k) q=Z6h b.steps l)∧F=[(1,.i q),(2,.p b1 0),(5,.i k)]∧h=[.obj b1 (Z03 b)]∧m=b.steps.length-k) _ _ _ ⟨0,l,ob,ob,ob,rfl,rfl,rfl⟩ (wk [0] (fw (fc (x:=.i 0) li fl))) ?_)))))))
 rintro m F h ⟨k,q,c0_0,c0_1,c0_2,rfl,rfl,rfl⟩
 refine aq (ar (irK 3 (.n 7 (.i k) (.n 9 (Z0b b.steps) .r)) [0] [b1] (iw (Z0l b.steps) (irk 1 (.n 11 (.b (decide ((k:Int)<(b.steps.length:Int)))) .r) (ie (ac (decide ((k:Int)<(b.steps.length:Int))) dq (fun hc1=>?_) (fun hc1=>?_)))))))
 ·refine ak (aq (ab 1 (aq (ar (irk 2 (.n 15 (.b (decide (q<1))) .r) (ie (ac (decide (q<1)) dq (fun hc2=>?_) (fun hc2=>?_))))))))
  ·refine ar (ir 1 [(4,.i (-1))] (ie ?_))
   try rw [Zt (xs:=b.steps) (k:=k) om] at c0_2
   obtain ⟨x1,hx1⟩:=Z6 (xs:=b.steps) (j:=k) om
   rw [Z5 hx1] at c0_2
   clear hx1
   exact at_ (r2 [] [.i (-1)] ⟨rfl,rfl⟩ (li (by first|rfl|omega|grind [Z6h])))
  obtain ⟨s1,hxs1⟩:=Z6 (xs:=b.steps) (j:=k) om
  have hss:=Zhx hxs1
  have hkz:=Z5m s1
  refine ak (ar (irk 1 (.n 16 (.i q) .r) (ia ((q-1)) ((q)-(1)) (ir 1 [(1,.i (q-1)),(2,.p b1 0),(5,.i k)] (ie (ar (irk 1 (.n 6 (.i 0) .r) (ie (ab 2 (al (fun m F h=>∃(j:Nat) (j2:Int),(j≤s1.kids.length)∧(0≤j2∧j2≤600)∧(Z6x (s1.kids.drop j) j2=Z6x s1.kids (q-1))∧F=[(1,.i j2),(2,.p b1 0),(5,.i k),(6,.i j)]∧h=[.obj b1 (Z03 b)]∧m=s1.kids.length-j) _ _ _ ⟨0,(q-1),ob,ob,ob,rfl,rfl,rfl⟩ (wk [0] (fw (fr (fc (x:=.i 0) li fl)))) ?_))))))))))
  rintro m F h ⟨j,j2,c1_0,c1_1,c1_2,rfl,rfl,rfl⟩
  refine aq (ar (irK 4 (.n 18 (.i j) (.n 20 (Z0b b.steps) (.n 21 (.i k) .r))) [0] [b1] (is_ (Z0 (es:=Zo b.steps) (hv:=none) (j:=(k:Int)) (sz:=5) (y:=Z0g s1) kr om (Z0y hxs1) rfl) (irk 2 (.n 24 (Zv s1.kids) .r) (iw (Z0f s1.kids) (irk 1 (.n 26 (.b (decide ((j:Int)<(s1.kids.length:Int)))) .r) (ie (ac (decide ((j:Int)<(s1.kids.length:Int))) dq (fun hc3=>?_) (fun hc3=>?_)))))))))
  ·refine ak (aq (ab 3 (ar (irK 3 (.n 30 (Z0b b.steps) (.n 31 (.i k) .r)) [0] [b1] (is_ (Z0 (es:=Zo b.steps) (hv:=none) (j:=(k:Int)) (sz:=5) (y:=Z0g s1) kr om (Z0y hxs1) rfl) (irk 3 (.n 34 (Zv s1.kids) (.n 35 (.i j) .r)) ?_))))))
   obtain ⟨x1,hx1⟩:=Z6 (xs:=s1.kids) (j:=j) om
   have hks:=Z9k hx1
   have hle:=Zkx.2 x1 j2 om
   refine is_ (Z0 (es:=Z19 s1.kids) (hv:=none) (j:=(j:Int)) (sz:=2) (y:=Za x1) kr om (Z1q hx1) rfl) (irk 2 (.n 37 (Za x1) (.n 38 (.i j2) .r)) (ic [] (ih x1 j2 ob ob) ?_))
   rintro _ _ ⟨rfl,rfl⟩
   refine ir 1 [(1,.i (Z3m x1 j2)),(2,.p b1 0),(5,.i k),(6,.i j)] (ie (ar (irk 2 (.n 41 (.b (decide ((Z3m x1 j2)<0))) .r) (ie (ac (decide ((Z3m x1 j2)<0)) dq (fun hc4=>?_) (fun hc4=>?_))))))
   ·refine ar (ir 1 [(4,.i (-1))] (ie ?_))
    rw [Z5 hxs1] at c0_2
    rw [Z5 hx1] at c1_2
    have hls:=Zg2 s1 (q-1)
    exact at_ (r2 [] [.i (-1)] ⟨rfl,rfl⟩ (li (by clear hx1 hxs1;first|rfl|omega|grind [Z6h,Z6x])))
   refine ak (az (irk 1 (.n 27 (.i j) .r) (ia (((j+1:Nat):Int)) (((j:Int))+(1)) (irk 1 (.n 6 (.i (j+1:Nat)) (.p (.d (.d (.k (.k (.k .z))))))) (ie ?_)))))
   have hdr:=Z5 hx1
   exact ⟨_,_,_,ob,⟨j+1,(Z3m x1 j2),ob,ob,(by rw [hdr] at c1_2;clear hdr hx1 hxs1;grind [Z6x]),rfl,rfl,rfl⟩,(wk [0] (fw (fr (fc (x:=.i (j+1:Nat)) li fl))))⟩
  refine ax 2 (az (irk 1 (.n 12 (.i k) .r) (ia (((k+1:Nat):Int)) (((k:Int))+(1)) (ir 1 [(1,.i j2),(2,.p b1 0),(5,.i (k+1:Nat))] (ie ?_)))))
  rw [Zt om] at c1_2
  have hls:=Zg2 s1 (q-1)
  rw [Z6x] at c1_2
  have hdr:=Z5 hxs1
  exact ⟨_,_,_,ob,⟨k+1,j2,ob,ob,(by rw [hdr] at c0_2;clear hdr hxs1;grind [Z6h]),rfl,rfl,rfl⟩,(wk [0] (fw (fc (x:=.i (k+1:Nat)) li fl)))⟩
 refine ax 0 (ar (ir 2 [(4,.i q)] (ie ?_)))
 try rw [Zt (xs:=b.steps) (k:=k) om] at c0_2
 exact at_ (r2 [] [.i q] ⟨rfl,rfl⟩ (li (by first|rfl|omega|grind [Z6h])))
theorem Zem (b:Block) (l:Int) (hb:b.sz≤1000000000) (hl:0≤l∧l≤600):Z3 Tryz.prog 102 [.agg [.sl (Zo b.steps) none,.i b.result],.i l] [] (fun r h=>r=.i (Z3m b l)∧h=[]):=by
 have key:∀m:Nat,∀(b:Block) (l:Int),b.sz≤m→b.sz≤1000000000→(0≤l∧l≤600)→Z3 Tryz.prog 102 [.agg [.sl (Zo b.steps) none,.i b.result],.i l] [] (fun r h=>r=.i (Z3m b l)∧h=[]):=by
  intro m
  induction m with
  | zero=>intro b l h;have:=b.sz_pos;omega
  | succ m ih=>intro b l h1 h2 h3;exact Zbz b l h2 h3 fun b2 l2 k1 k2=>ih b2 l2 om om k2
 exact key b.sz b l (Nat.le_refl _) hb hl
theorem Zda (n:Normal) (hn:NOk n) (m:Nat):∀(b:Block) (us:List Int),(b.sz≤m)→(us.length+4*b.sz≤1000000000)→Z3 Tryz.prog 98 [Zi n,nInt us,Za b] [] (fun r h=>r=.i (Zf n us b)∧h=[]):=by
 induction m with
 | zero=>intro b us h;have:=b.sz_pos;omega
 | succ m ih=>intro b us h1 h2;exact Zbw n us b hn h2 fun s us2 k1 k2=>Z9q n us2 s hn k2 fun b2 us3 q1 q2=>ih b2 us3 om q2
theorem Z8v (n:Normal) (us:List Int) (b:Block) (hn:NOk n) (hb:us.length+4*b.sz≤1000000000):Z3 Tryz.prog 98 [Zi n,nInt us,Za b] [] (fun r h=>r=.i (Zf n us b)∧h=[]):=
 Zda n hn b.sz b us (Nat.le_refl _) hb
theorem Zel (n:Normal) (us:List Int) (s:Step) (hn:NOk n) (hb:us.length+4*s.sz≤1000000000):Z3 Tryz.prog 145 [Zi n,nInt us,Z0g s] [] (fun r h=>r=.i (Z7 n us s)∧h=[]):=
 Z9q n us s hn hb fun b2 us3 _ q2=>Z8v n us3 b2 hn q2
theorem Zht (b:Block) (hb:b.sz≤1000000000:=by exact ob):Z3 Tryz.prog 49 [Za b] [] (fun r h=>r=.i (Z2r b)∧h=[]):=by
 have hle:=Zkx.2 b 600 om
 refine enter Tryz.func49 kr (n:=10) kr kr (ar (iA (Z03 b) ?_))
 intro b1
 refine ir 1 [(1,.p b1 0)] (ie (ar (iR 1 [(4,Za b)] [0] [b1] (ic [] (Zem b 600 ob ob) ?_))))
 rintro _ _ ⟨rfl,rfl⟩
 refine ir 1 [(3,.i (Z3m b 600))] (ie (aq (ar (irk 2 (.n 7 (.b (decide ((Z3m b 600)<0))) .r) (ie (ac (decide ((Z3m b 600)<0)) dq (fun hc1=>?_) (fun hc1=>?_)))))))
 ·refine ar (ir 1 [(2,.i (-1))] (ie ?_))
  exact at_ (r2 [] [.i (-1)] ⟨rfl,rfl⟩ (li (by first|rfl|omega|grind [Z2r])))
 refine ak (ar (ir 1 [(8,.i (Z3m b 600))] (ia ((600-(Z3m b 600))) ((600)-(Z3m b 600)) (ir 1 [(2,.i (600-(Z3m b 600)))] (ie ?_)))))
 exact at_ (r2 [] [.i (600-(Z3m b 600))] ⟨rfl,rfl⟩ (li (by first|rfl|omega|grind [Z2r])))
theorem Zc0 (n:Normal) (hz:NSz n:=by exact ob):Z3 Tryz.prog 47 [Zi n] [] (fun r h=>r=.b (Z05 n)∧h=[]):=by
 have hzl:=hz.len
 refine enter Tryz.func47 kr (n:=35) kr kr (ar (iA (Zh n) ?_))
 intro b1
 refine ir 1 [(1,.p b1 0)] (ie (aq (ar (irK 1 (.n 5 (Zi n) .r) [0] [b1] (ic [] (Z9g n (hz:=hz.decls) (hr:=(fun r hr=>⟨hz.params r hr,hz.lent r hr⟩))) ?_)))))
 rintro _ _ ⟨rfl,rfl⟩
 refine irk 1 (.n 7 (.b (!Z0e n)) .r) (ie (ac (!Z0e n) (p:=¬(Z0e n=true)) (Zc Iff.rfl) (fun hc1=>?_) (fun hc1=>?_)))
 ·refine ar (ir 1 [(2,.b false)] (ie ?_))
  exact at_ (r2 [] [.b false] ⟨rfl,rfl⟩ (lb (by first|rfl|omega|grind [Z05])))
 have hok:=Z9b hz (by simpa using hc1)
 refine ak (aq (ar (irk 1 (.n 3 (.i 0) .r) (ie (ab 0 (al (fun m F h=>∃(k:Nat),(k≤n.routines.length)∧(Z34 n (n.routines.drop k)=Z34 n n.routines)∧F=[(1,.p b1 0),(3,.i k)]∧h=[.obj b1 (Zh n)]∧m=n.routines.length-k) _ _ _ ⟨0,ob,ob,rfl,rfl,rfl⟩ (wk [0] (fr (fc (x:=.i 0) li fl))) ?_))))))
 rintro m F h ⟨k,c0_0,c0_1,rfl,rfl,rfl⟩
 refine aq (ar (irK 3 (.n 8 (.i k) (.n 10 (nRoutine n.routines) .r)) [0] [b1] (iw (Z0a n.routines) (irk 1 (.n 12 (.b (decide ((k:Int)<(n.routines.length:Int)))) .r) (ie (ac (decide ((k:Int)<(n.routines.length:Int))) dq (fun hc2=>?_) (fun hc2=>?_)))))))
 ·refine ak (aq (ab 1 (ar (irK 3 (.n 16 (nRoutine n.routines) (.n 17 (.i k) .r)) [0] [b1] ?_))))
  obtain ⟨x1,hx1⟩:=Z6 (xs:=n.routines) (j:=k) om
  have hbs:=hz.body _ (List.mem_of_getElem? hx1)
  have hps:=hok.params_at hx1
  refine is_ (Z0 (es:=Z0p n.routines) (hv:=none) (j:=(k:Int)) (sz:=5) (y:=Z0s x1) kr om (Z0v hx1) rfl) (irk 1 (.n 19 (Z0s x1) .r) (iA [nl,nl,.i 0,nl,.i 0] ?_))
  intro b2
  refine iS 0 b2 0 (Z1s x1) [nl,nl,.i 0,nl,.i 0] (Z1s x1) (ie (aD 15 (dtK (fuel:=13) 15 [0,1] (.n 21 (Za x1.body) .r) [0] [b2] (do_ 2 (dc 2 [] [] [] (Zht x1.body) ?_)))))
  rintro _ _ ⟨rfl,rfl⟩
  refine Zca [(1,.p b1 0),(3,.i k),(34,.b ((decide ((Z2r x1.body)<0))||((Zf n x1.params x1.body) != x1.result)))] [.obj b2 (Z1s x1),.obj b1 (Zh n)] ?_ ?_
  ·refine dt (fuel:=10) 12 [3,4] [(1,.p b1 0),(3,.i k),(4,.p b2 0),(24,.b (decide ((Z2r x1.body)<0)))] (db (b:=(decide ((Z2r x1.body)<0))) 24 (fun hb1=>?_) (fun hb1=>?_))
   ·have hp1:(Z2r x1.body)<0:=(dq).1 hb1
    refine dtk (fuel:=0) 10 [5,6,7,8,9,10,11,12,13,14] (.n 34 (.b true) (.d (.k (.k .z)))) (de ?_)
    exact wk [0,0] (fw (fc (x:=.b true) (lb (by simp only [hb1];rfl)) fl))
   have hp2:¬((Z2r x1.body)<0):=Zd dq hb1
   refine dtK (fuel:=3) 10 [5,6,7,8,9,11,12] (.n 25 (Zi n) (.n 27 (nInt x1.params) (.n 29 (Za x1.body) (.n 32 (.i x1.result) (.k (.k (.k .z))))))) [1,0,0,0] [b1,b2,b2,b2] (do_ 10 (dc 10 [] [0] [b2] (Z8v n x1.params x1.body ob ob) ?_))
   rintro _ _ ⟨rfl,rfl⟩
   refine dtk (fuel:=0) 2 [13,14] (.n 34 (.b ((Zf n x1.params x1.body) != x1.result)) .r) (de ?_)
   exact wk [0,0] (fw (fc (x:=.b ((Zf n x1.params x1.body) != x1.result)) (lb (by simp only [hb1];rfl)) fl))
  refine ac ((decide ((Z2r x1.body)<0))||((Zf n x1.params x1.body) != x1.result)) (p:=((Z2r x1.body)<0)∨((Zf n x1.params x1.body)≠x1.result)) (Zg dq bne_iff_ne) (fun hc3=>?_) (fun hc3=>?_)
  ·refine ar (ir 1 [(2,.b false)] (ie ?_))
   rw [Z5 hx1] at c0_1
   exact at_ (r2 [] [.b false] ⟨rfl,rfl⟩ (lb (by clear hx1;first|rfl|omega|grind [Z34,Z05])))
  refine ak (az (ir 1 [(1,.p b1 0),(13,.i k)] (ia (((k+1:Nat):Int)) (((k:Int))+(1)) (irk 1 (.n 3 (.i (k+1:Nat)) .r) (ie ?_)))))
  have hdr:=Z5 hx1
  exact ⟨_,_,_,ob,⟨k+1,ob,(by rw [hdr] at c0_1;clear hdr hx1;grind [Z34]),rfl,rfl,rfl⟩,(wk [1] (fr (fc (x:=.i (k+1:Nat)) li fl)))⟩
 refine ax 0 (ar (ir 1 [(2,.b true)] (ie ?_)))
 try rw [Zt (xs:=n.routines) (k:=k) om] at c0_1
 exact at_ (r2 [] [.b true] ⟨rfl,rfl⟩ (lb (by first|rfl|omega|grind [Z34,Z05])))
theorem Z82 (op:Int) :Z3 Tryz.prog 104 [.i op] [] (fun r h=>r=.b (Z0q op)∧h=[]):=by
 refine enter Tryz.func104 kr (n:=5) kr kr (ar (ir 1 [(0,.i op)] (ie (ar (ir 1 [(3,.i op)] (ic [] (Z0w op 14 17) ?_))))))
 rintro _ _ ⟨rfl,rfl⟩
 refine ir 1 [(2,.b (decide (14≤op∧op≤17)))] (ie ?_)
 exact at_ (r2 [] [.b (decide (14≤op∧op≤17))] ⟨rfl,rfl⟩ (lb (by first|rfl|omega|grind [Z0q])))
theorem Zfn (op:Int) :Z3 Tryz.prog 222 [.i op] [] (fun r h=>r=.b (Z2i op)∧h=[]):=by
 refine enter Tryz.func222 kr (n:=17) kr kr (ar (ir 1 [(0,.i op)] (ie (ar (Z1n 6 [(0,.i op),(8,.b ((op==6)||(op==9)))] [] ?_ (fun hj1=>?_))))))
 ·refine Z1n 10 [(0,.i op),(12,.b (((op==6)||(op==9))||(op==10)))] [] ?_ (fun hj2=>?_)
  ·refine Z1n 14 [(16,.b ((((op==6)||(op==9))||(op==10))||(op==11)))] [] ?_ (fun hj3=>?_)
   ·refine ir 1 [(2,.b ((((op==6)||(op==9))||(op==10))||(op==11)))] (ie ?_)
    exact at_ (r2 [] [.b ((((op==6)||(op==9))||(op==10))||(op==11))] ⟨rfl,rfl⟩ (lb (by first|rfl|omega|grind [Z2i])))
   refine ir 1 [(0,.i op),(13,.b (((op==6)||(op==9))||(op==10)))] (ib (b:=(((op==6)||(op==9))||(op==10))) 13 (fun hb1=>?_) (fun hb1=>?_))
   ·have hp1:((op=6)∨(op=9))∨(op=10):=((Zg (Zg beq_iff_eq beq_iff_eq) beq_iff_eq)).1 hb1
    refine ir 3 [(16,.b true)] ?_
    exact Zy (wk [] (fc (x:=.b true) (lb (by simp only [hb1];rfl)) fl)) hj3
   have hp2:¬(((op=6)∨(op=9))∨(op=10)):=Zd (Zg (Zg beq_iff_eq beq_iff_eq) beq_iff_eq) hb1
   refine ir 3 [(16,.b (op==11))] ?_
   exact Zy (wk [] (fc (x:=.b (op==11)) (lb (by simp only [hb1];rfl)) fl)) hj3
  refine ir 1 [(0,.i op),(9,.b ((op==6)||(op==9)))] (ib (b:=((op==6)||(op==9))) 9 (fun hb2=>?_) (fun hb2=>?_))
  ·have hp3:(op=6)∨(op=9):=((Zg beq_iff_eq beq_iff_eq)).1 hb2
   refine ir 3 [(0,.i op),(12,.b true)] ?_
   exact Zy (wk [] (fr (fc (x:=.b true) (lb (by simp only [hb2];rfl)) fl))) hj2
  have hp4:¬((op=6)∨(op=9)):=Zd (Zg beq_iff_eq beq_iff_eq) hb2
  refine ir 3 [(0,.i op),(12,.b (op==10))] ?_
  exact Zy (wk [] (fr (fc (x:=.b (op==10)) (lb (by simp only [hb2];rfl)) fl))) hj2
 refine ir 3 [(0,.i op),(5,.b (op==6))] (ib (b:=(op==6)) 5 (fun hb3=>?_) (fun hb3=>?_))
 ·have hp5:op=6:=(beq_iff_eq).1 hb3
  refine ir 3 [(0,.i op),(8,.b true)] ?_
  exact Zy (wk [] (fr (fc (x:=.b true) (lb (by simp only [hb3];rfl)) fl))) hj1
 have hp6:¬(op=6):=Zd beq_iff_eq hb3
 refine ir 3 [(0,.i op),(8,.b (op==9))] ?_
 exact Zy (wk [] (fr (fc (x:=.b (op==9)) (lb (by simp only [hb3];rfl)) fl))) hj1
theorem Zba (n:Normal) (s:Step) (i:Nat) (hn:NOk n:=by exact ob) (hnum:s.op=9→0≤s.num∧s.num<n.routines.length:=by exact ob):Z3 Tryz.prog 212 [Zi n,Z0g s,.i i] [] (fun r h=>r=.b (Z2d n s.op s.num i)∧h=[]):=by
 refine enter Tryz.func212 kr (n:=21) kr kr (ar (iA (Zh n) ?_))
 intro b1
 refine iA (Z02 s) ?_
 intro b2
 refine ir 1 [(2,.i i),(3,.p b1 0),(4,.p b2 0)] (ie (ar (irK 4 (.n 10 (.b (s.op==9)) .r) [0] [b2] (ib (b:=(s.op==9)) 10 (fun hb1=>?_) (fun hb1=>?_)))))
 ·have hp1:s.op=9:=(beq_iff_eq).1 hb1
  refine irK 4 (.n 12 (nRoutine n.routines) (.n 14 (.i s.num) (.k (.d .r)))) [1,0] [b1,b2] ?_
  obtain ⟨x1,hx1⟩:=Z6 (xs:=n.routines) (j:=s.num.toNat) om
  have hlt:=hn.lent_at hx1
  have hlr:=Z00m (n:=n) hp1 hx1
  refine is_ (Z0 (es:=Z0p n.routines) (hv:=none) (j:=s.num) (sz:=5) (y:=Z0s x1) kr om (Z0v hx1) rfl) (irk 3 (.n 17 (nInt x1.lent) (.n 18 (.i i) .r)) (ic [] (Z83 x1.lent (i:Int)) ?_))
  rintro _ _ ⟨rfl,rfl⟩
  refine ir 2 [(6,.b (decide ((i:Int)∈x1.lent)))] (ie ?_)
  exact at_ (r2 [] [.b (decide ((i:Int)∈x1.lent))] ⟨rfl,rfl⟩ (lb (by rw [Z2d,hlr])))
 have hp2:¬(s.op=9):=Zd beq_iff_eq hb1
 refine ir 11 [(6,.b false)] (ie ?_)
 exact at_ (r2 [] [.b false] ⟨rfl,rfl⟩ (lb (by rw [Z2d,Zbo,if_neg hp2];simp)))
theorem Zdd (n:Normal) (us:List Int) (s:Step) (i:Nat) (a:Int) (hn:NOk n:=by exact ob) (hnum:s.op=9→0≤s.num∧s.num<n.routines.length:=by exact ob) (ha:s.args[i]? = some a:=by exact ob) (hi:0≤a∧a<us.length:=by exact ob):Z3 Tryz.prog 211 [Zi n,nInt us,Z0g s,.i i] [] (fun r h=>r=.b (Zau n us s.op s.num a i)∧h=[]):=by
 have hal:=(List.getElem?_eq_some_iff.1 ha).1
 refine enter Tryz.func211 kr (n:=30) kr kr (ar (iA (Zh n) ?_))
 intro b1
 refine iA (Z02 s) ?_
 intro b2
 refine ir 1 [(1,nInt us),(3,.i i),(4,.p b1 0),(6,.p b2 0)] (ie (ar (irK 2 (.n 10 (.i s.op) .r) [0] [b2] (ic [] (Zfn s.op) ?_))))
 rintro _ _ ⟨rfl,rfl⟩
 refine irk 1 (.n 12 (.b (Z2i s.op)) .r) (ib (b:=Z2i s.op) 12 (fun hb1=>?_) (fun hb1=>?_))
 ·have hp1:Z2i s.op=true:=(Iff.rfl).1 hb1
  refine irK 4 (.n 13 (nInt us) (.n 15 (nInt s.args) (.n 16 (.i i) (.k (.d .r))))) [0] [b2] ?_
  obtain ⟨x1,hx1⟩:=Z6 (xs:=s.args) (j:=i) om
  have hxa:x1=a:=by rw [ha] at hx1;exact (Option.some.inj hx1).symm
  subst hxa
  refine is_ (Z0 (es:=Z8 s.args) (hv:=none) (j:=(i:Int)) (sz:=1) (y:=.i x1) kr om (Z9 hx1) rfl) (irk 1 (.n 18 (.i x1) .r) ?_)
  obtain ⟨x2,hx2⟩:=Z6 (xs:=us) (j:=x1.toNat) om
  have hga:=Z5a hx2
  refine is_ (Z0 (es:=Z8 us) (hv:=none) (j:=x1) (sz:=1) (y:=.i x2) kr om (Z9 hx2) rfl) (irk 4 (.n 23 (.b (x2 != 0)) .r) (ib (b:=(x2 != 0)) 23 (fun hb2=>?_) (fun hb2=>?_)))
  ·have hp2:x2≠0:=(bne_iff_ne).1 hb2
   refine iR 3 [(23,.b true),(24,Zi n),(25,Z0g s),(26,.i i)] [1,0] [b1,b2] (ic [] (Zba n s i) ?_)
   rintro _ _ ⟨rfl,rfl⟩
   refine ir 3 [(8,.b (!Z2d n s.op s.num i))] (ie ?_)
   exact at_ (r2 [] [.b (!Z2d n s.op s.num i)] ⟨rfl,rfl⟩ (lb (by clear hx1 hx2;first|rfl|(rw [Zau];grind))))
  have hp3:¬(x2≠0):=Zd bne_iff_ne hb2
  refine ir 7 [(8,.b false)] (ie ?_)
  exact at_ (r2 [] [.b false] ⟨rfl,rfl⟩ (lb (by clear hx1 hx2;first|rfl|(rw [Zau];grind))))
 have hp4:¬(Z2i s.op=true):=Zd Iff.rfl hb1
 refine ir 18 [(8,.b false)] (ie ?_)
 exact at_ (r2 [] [.b false] ⟨rfl,rfl⟩ (lb (by  first|rfl|(rw [Zau];grind))))
theorem Z9p (xs:List Int) (ys:List Int) (hl_xs:xs.length≤4294967296:=by exact ob) (hl_ys:ys.length≤4294967296:=by exact ob):Z3 Tryz.prog 210 [nInt xs,nInt ys] [] (fun r h=>r=.b (decide (xs=ys))∧h=[]):=by
 refine enter Tryz.func210 kr (n:=26) kr kr (ar (ir 1 [(0,nInt xs),(1,nInt ys)] (ie (aq (ar (irk 1 (.n 6 (nInt xs) .r) (iw (Z4 xs) (irk 1 (.n 8 (nInt ys) .r) (iw (Z4 ys) (irk 1 (.n 10 (.b ((xs.length:Int) != (ys.length:Int))) .r) (ie (ac ((xs.length:Int) != (ys.length:Int)) bne_iff_ne (fun hc1=>?_) (fun hc1=>?_)))))))))))))
 ·refine ar (ir 1 [(4,.b false)] (ie ?_))
  exact at_ (r2 [] [.b false] ⟨rfl,rfl⟩ (lb (eq_comm.1 (decide_eq_false (fun q=>by rw [q] at hc1;exact hc1 rfl)))))
 refine ak (aq (ar (irk 1 (.n 5 (.i 0) .r) (ie (ab 0 (al (fun m F h=>∃(k:Nat),(k≤xs.length)∧(xs.take k=ys.take k)∧F=[(0,nInt xs),(1,nInt ys),(5,.i k)]∧h=[]∧m=xs.length-k) _ _ _ ⟨0,ob,ob,rfl,rfl,rfl⟩ (wk [] (fw (fc (x:=.i 0) li fl))) ?_))))))
 rintro m F h ⟨k,c0_0,c0_1,rfl,rfl,rfl⟩
 refine aq (ar (irk 2 (.n 11 (.i k) (.n 12 (nInt xs) .r)) (iw (Z4 xs) (irk 1 (.n 14 (.b (decide ((k:Int)<(xs.length:Int)))) .r) (ie (ac (decide ((k:Int)<(xs.length:Int))) dq (fun hc2=>?_) (fun hc2=>?_)))))))
 ·refine ak (aq (ab 1 (aD 9 (dtk (fuel:=7) 9 [0,1] (.n 17 (nInt xs) (.n 18 (.i k) .r)) ?_))))
  obtain ⟨x1,hx1⟩:=Z6 (xs:=xs) (j:=k) om
  refine dx 2 (Z0 (es:=Z8 xs) (hv:=none) (j:=(k:Int)) (sz:=1) (y:=.i x1) kr om (Z9 hx1) rfl) (dtk (fuel:=3) 6 [3,4,5] (.n 20 (.i x1) (.n 21 (nInt ys) (.n 22 (.i k) .r))) ?_)
  obtain ⟨x2,hx2⟩:=Z6 (xs:=ys) (j:=k) om
  refine dx 6 (Z0 (es:=Z8 ys) (hv:=none) (j:=(k:Int)) (sz:=1) (y:=.i x2) kr om (Z9 hx2) rfl) (dtk (fuel:=0) 2 [7,8] (.n 25 (.b (x1 != x2)) .r) (de (ac (x1 != x2) bne_iff_ne (fun hc3=>?_) (fun hc3=>?_))))
  ·refine ar (ir 1 [(4,.b false)] (ie ?_))
   exact at_ (r2 [] [.b false] ⟨rfl,rfl⟩ (lb (eq_comm.1 (decide_eq_false (fun q=>by subst q;rw [hx1] at hx2;cases hx2;exact hc3 rfl)))))
  refine ak (az (irk 1 (.n 15 (.i k) .r) (ia (((k+1:Nat):Int)) (((k:Int))+(1)) (ir 1 [(0,nInt xs),(1,nInt ys),(5,.i (k+1:Nat))] (ie ?_)))))
  have hdr:=Z5 hx1
  exact ⟨_,_,_,ob,⟨k+1,ob,(by rw [Z1l hx1,Z1l hx2,c0_1];have hxx:x1=x2:=om;rw [hxx]),rfl,rfl,rfl⟩,(wk [] (fw (fc (x:=.i (k+1:Nat)) li fl)))⟩
 refine ax 0 (ar (ir 1 [(4,.b true)] (ie ?_)))
 exact at_ (r2 [] [.b true] ⟨rfl,rfl⟩ (lb (eq_comm.1 (decide_eq_true (by rw [List.take_of_length_le om,List.take_of_length_le om] at c0_1;exact c0_1)))))
theorem Z2t (xs:List Int) (hlen:xs.length≤4294967296:=by exact ob):Z3 Tryz.prog 103 [nInt xs] [] (fun r h=>∃(v:Hd),r=.h v∧h=[rV v xs]):=by
 refine enter Tryz.func103 kr (n:=6) kr kr (ar (ir 1 [(0,nInt xs)] (ie (ar (iVL [] 0 ?_)))))
 intro v1
 refine irk 1 (.n 4 (nInt xs) .r) (iVP 0 v1 [] xs none ?_)
 intro v2
 refine ir 1 [(2,.h v2)] (ie ?_)
 exact at_ (r1 [0] ⟨v2,rfl,rfl⟩ (eq:=(rv (xs:=([]++xs)) ob rz)))
theorem Z4r (b:Nat) (ga:Hd) (gb:Hd) (gc:Hd) (gd:Hd) (ge:Hd) (gf:Hd) (L:Led) (ln:List Int) (t:Int) (o:Int) (p:Int) (hlb:L.vars.length≤1000000000:=by exact ob) (hlk:LLen L:=by exact ob):Z3 Tryz.prog 148 [.p b 0,.i t,.i o,.i p] [.obj b [.h ga,.h gb,.h gc,.h gd,.h ge,.h gf,nInt ln],rV ga L.vars,rV gb L.own,rV gc L.par,rV gd L.con,rV ge L.fst,rV gf L.tok] (fun r h=>∃(wa:Hd) (wb:Hd) (wc:Hd) (wd:Hd) (we:Hd) (wf:Hd),h=[.obj b [.h wa,.h wb,.h wc,.h wd,.h we,.h wf,nInt ln],rV wa ((L.grow t o p).vars),rV wb ((L.grow t o p).own),rV wc ((L.grow t o p).par),rV wd ((L.grow t o p).con),rV we ((L.grow t o p).fst),rV wf ((L.grow t o p).tok)]):=by
 obtain ⟨e1,e2,e3,e4,e5⟩:=hlk
 refine enter Tryz.func148 kr (n:=65) kr kr (ar (iR 6 [(0,.p b 0),(2,.i o),(3,.i p),(8,.p b 0),(12,.h ga),(13,.i t)] [0] [b] (iL (Z8 [t]) 1 1 ?_)))
 intro v1
 refine irk 0 (.n 14 (nInt [t]) (.p .r)) (iVP 2 ga L.vars [t] none ?_)
 intro v2
 refine irk 2 (.n 17 (.p b 0) .r) (iS 2 b 0 [.h v2] [.h ga,.h gb,.h gc,.h gd,.h ge,.h gf,nInt ln] [.h v2,.h gb,.h gc,.h gd,.h ge,.h gf,nInt ln] (ie (ar (irK 6 (.n 18 (.p b 0) (.n 22 (.h gb) (.n 23 (.i o) .r))) [0] [b] (iL (Z8 [o]) 1 1 ?_)))))
 intro v3
 refine irk 0 (.n 24 (nInt [o]) (.p .r)) (iVP 4 gb L.own [o] none ?_)
 intro v4
 refine irk 2 (.n 27 (.p b 1) .r) (iS 2 b 1 [.h v4] [.h v2,.h gb,.h gc,.h gd,.h ge,.h gf,nInt ln] [.h v2,.h v4,.h gc,.h gd,.h ge,.h gf,nInt ln] (ie (ar (irK 6 (.n 28 (.p b 0) (.n 32 (.h gc) (.n 33 (.i p) .r))) [0] [b] (iL (Z8 [p]) 1 1 ?_)))))
 intro v5
 refine irk 0 (.n 34 (nInt [p]) (.p .r)) (iVP 6 gc L.par [p] none ?_)
 intro v6
 refine irk 2 (.n 37 (.p b 2) .r) (iS 2 b 2 [.h v6] [.h v2,.h v4,.h gc,.h gd,.h ge,.h gf,nInt ln] [.h v2,.h v4,.h v6,.h gd,.h ge,.h gf,nInt ln] (ie (ar (irK 5 (.n 38 (.p b 0) (.n 42 (.h gd) .r)) [0] [b] (iL (Z8 [-1]) 1 1 ?_)))))
 intro v7
 refine irk 0 (.n 43 (nInt [-1]) (.p .r)) (iVP 8 gd L.con [-1] none ?_)
 intro v8
 refine irk 2 (.n 46 (.p b 3) .r) (iS 2 b 3 [.h v8] [.h v2,.h v4,.h v6,.h gd,.h ge,.h gf,nInt ln] [.h v2,.h v4,.h v6,.h v8,.h ge,.h gf,nInt ln] (ie (ar (irK 5 (.n 47 (.p b 0) (.n 51 (.h ge) .r)) [0] [b] (iL (Z8 [-1]) 1 1 ?_)))))
 intro v9
 refine irk 0 (.n 52 (nInt [-1]) (.p .r)) (iVP 10 ge L.fst [-1] none ?_)
 intro v10
 refine irk 2 (.n 55 (.p b 4) .r) (iS 2 b 4 [.h v10] [.h v2,.h v4,.h v6,.h v8,.h ge,.h gf,nInt ln] [.h v2,.h v4,.h v6,.h v8,.h v10,.h gf,nInt ln] (ie (az (iR 5 [(56,.p b 0),(60,.h gf)] [0] [b] (iL (Z8 [-1]) 1 1 ?_)))))
 intro v11
 refine irk 0 (.n 61 (nInt [-1]) (.p .r)) (iVP 12 gf L.tok [-1] none ?_)
 intro v12
 refine irk 2 (.n 64 (.p b 5) .r) (iS 2 b 5 [.h v12] [.h v2,.h v4,.h v6,.h v8,.h v10,.h gf,nInt ln] [.h v2,.h v4,.h v6,.h v8,.h v10,.h v12,nInt ln] (ie ?_))
 exact r2 [0,10,8,6,4,2,0] [] ⟨v2,v4,v6,v8,v10,v12,rfl⟩ (lr _) (eq:=(rc (rv (xs:=(L.vars++[t])) ob (rv (xs:=(L.own++[o])) ob (rv (xs:=(L.par++[p])) ob (rv (xs:=(L.con++[-1])) ob (rv (xs:=(L.fst++[-1])) ob (rv (xs:=(L.tok++[-1])) ob rz))))))))
theorem Zt9 (b:Nat) (ga:Hd) (gb:Hd) (gc:Hd) (gd:Hd) (ge:Hd) (gf:Hd) (L:Led) (ln:List Int) (hlb:L.vars.length≤1000000000:=by exact ob) (hlk:LLen L:=by exact ob) (hln:ln.length≤4294967296:=by exact ob):Z3 Tryz.prog 221 [.p b 0] [.obj b [.h ga,.h gb,.h gc,.h gd,.h ge,.h gf,nInt ln],rV ga L.vars,rV gb L.own,rV gc L.par,rV gd L.con,rV ge L.fst,rV gf L.tok] (fun r h=>∃(c:Nat) (wa:Hd) (wb:Hd) (wc:Hd) (wd:Hd) (we:Hd) (wf:Hd),r=.p c 0∧h=[.obj c [.h wa,.h wb,.h wc,.h wd,.h we,.h wf,nInt ln],rV wa L.vars,rV wb L.own,rV wc L.par,rV wd L.con,rV we L.fst,rV wf L.tok,.obj b [.h ga,.h gb,.h gc,.h gd,.h ge,.h gf,nInt ln],rV ga L.vars,rV gb L.own,rV gc L.par,rV gd L.con,rV ge L.fst,rV gf L.tok]):=by
 obtain ⟨e1,e2,e3,e4,e5⟩:=hlk
 refine enter Tryz.func221 kr (n:=40) kr kr (ar (ir 1 [(0,.p b 0)] (ie (aD 38 (dT (fuel:=10) 38 [0,1,2,3,5,6,7,8,10,11,12,13,15,16,17,18,20,21,22,23,25,26,27,28,30,31,32,33] [(6,.h ga),(11,.h gb),(16,.h gc),(21,.h gd),(26,.h ge),(31,.h gf),(36,nInt ln)] [0,0,0,0,0,0,0] [b,b,b,b,b,b,b] (do_ 4 (dCL 4 [1] [0,0,0,0,0,0] [b,b,b,b,b,b] [rV ga L.vars] (Z2t L.vars) cl2 (gL (v:=ga) 0 gN) (Z1h Z2j) ?_)))))))
 rintro _ _ ⟨v1,rfl,rfl⟩
 refine do_ 9 (dCL 9 [3] [0,0,0,0,0] [b,b,b,b,b] [rV gb L.own] (Z2t L.own) cl2 (gL (v:=gb) 0 gN) (Z1h Z2j) ?_)
 rintro _ _ ⟨v2,rfl,rfl⟩
 refine do_ 14 (dCL 14 [5] [0,0,0,0] [b,b,b,b] [rV gc L.par] (Z2t L.par) cl2 (gL (v:=gc) 0 gN) (Z1h Z2j) ?_)
 rintro _ _ ⟨v3,rfl,rfl⟩
 refine do_ 19 (dCL 19 [7] [0,0,0] [b,b,b] [rV gd L.con] (Z2t L.con) cl2 (gL (v:=gd) 0 gN) (Z1h Z2j) ?_)
 rintro _ _ ⟨v4,rfl,rfl⟩
 refine do_ 24 (dCL 24 [9] [0,0] [b,b] [rV ge L.fst] (Z2t L.fst) cl2 (gL (v:=ge) 0 gN) (Z1h Z2j) ?_)
 rintro _ _ ⟨v5,rfl,rfl⟩
 refine do_ 29 (dCL 29 [11] [0] [b] [rV gf L.tok] (Z2t L.tok) cl2 (gL (v:=gf) 0 gN) (Z1h Z2j) ?_)
 rintro _ _ ⟨v6,rfl,rfl⟩
 refine do_ 34 (dc 34 [] [] [] (Z26 ln) ?_)
 rintro _ _ ⟨v7,rfl,rfl⟩
 refine dt (fuel:=2) 3 [35] [(38,.agg [.h v1,.h v2,.h v3,.h v4,.h v5,.h v6,nInt ln])] (do_ 36 (dA 36 [] [] [.h v1,.h v2,.h v3,.h v4,.h v5,.h v6,nInt ln] ?_))
 intro b1
 refine dt (fuel:=0) 1 [37] [(2,.p b1 0)] (de ?_)
 exact at_ (r1 [0,11,9,7,5,3,1,7,6,5,4,3,2,1] ⟨b1,v1,v2,v3,v4,v5,v6,rfl,rfl⟩)
theorem Zg1 (b:Nat) (ga:Hd) (gb:Hd) (gc:Hd) (gd:Hd) (ge:Hd) (gf:Hd) (L:Led) (ln:List Int) (i:Int) (hlk:LLen L:=by exact ob) (hi:0≤i∧i<L.vars.length:=by exact ob) (hq:∀x∈L.own,0≤x∧x≤1000000000):Z3 Tryz.prog 150 [.p b 0,.i i] [.obj b [.h ga,.h gb,.h gc,.h gd,.h ge,.h gf,nInt ln],rV ga L.vars,rV gb L.own,rV gc L.par,rV gd L.con,rV ge L.fst,rV gf L.tok] (fun r h=>(∃(wa:Hd) (wb:Hd) (wc:Hd) (wd:Hd) (we:Hd) (wf:Hd) (L':Led),r=.b true∧h=[.obj b [.h wa,.h wb,.h wc,.h wd,.h we,.h wf,nInt ln],rV wa L'.vars,rV wb L'.own,rV wc L'.par,rV wd L'.con,rV we L'.fst,rV wf L'.tok]∧Z7q L i=some L')∨(r=.b false∧h=[]∧Z7q L i=none)):=by
 obtain ⟨e1,e2,e3,e4,e5⟩:=hlk
 refine enter Tryz.func150 kr (n:=27) kr kr (ar (ir 1 [(0,.p b 0),(1,.i i)] (ie (aq (ar (irK 5 (.n 8 (.h gb) (.n 9 (.i i) .r)) [0] [b] (is_ (vIdx 2 gb L.own i i.toNat (hq:=rfl)) ?_)))))))
 obtain ⟨x1,hx1⟩:=Z6 (xs:=L.own) (j:=i.toNat) om
 have hxq:=hq _ (List.mem_of_getElem? hx1)
 have hgi:=Z5a hx1
 refine ix_ (vGet 2 gb L.own i.toNat x1 hx1) (irk 1 (.n 12 (.b (decide (x1<1))) .r) (ie (ac (decide (x1<1)) dq (fun hc1=>?_) (fun hc1=>?_))))
 ·refine ar (ir 1 [(4,.b false)] (ie ?_))
  exact at_ (r1 [] (.inr ⟨rfl,rfl,(by rw [Z7q,hgi,if_pos hc1])⟩))
 refine ak (aD 15 (dT (fuel:=5) 15 [0,1,2,3,4,5,6,7,8,9] [(16,.h gb),(17,.i i),(21,.h gb),(22,.i i)] [0,0] [b,b] (dx 10 (vIdx 2 gb L.own i i.toNat (hq:=rfl)) (dx_ 11 (vGet 2 gb L.own i.toNat x1 hx1) (da 12 ((x1-1)) ((x1)-(1)) (dx 13 (vIdx 2 gb L.own i i.toNat (hq:=rfl)) (do_ 14 (dVS 14 2 [] [] gb L.own i.toNat (x1-1) (de (ar (ir 1 [(4,.b true)] (ie ?_))))))))))))
 exact at_ (r1 [1,1,0,0,0,0,0] (.inl ⟨ga,gb,gc,gd,ge,gf,(Led.mk L.vars (L.own.set i.toNat (x1-1)) L.par L.con L.fst L.tok),rfl,rfl,(by rw [Z7q,hgi,if_neg hc1])⟩) (eq:=(rc (rv (xs:=L.vars) ob (rv (xs:=(L.own.set i.toNat (x1-1))) ob (rv (xs:=L.par) ob (rv (xs:=L.con) ob (rv (xs:=L.fst) ob (rv (xs:=L.tok) ob rz)))))))))
theorem Zha (b:Nat) (ga:Hd) (gb:Hd) (gc:Hd) (gd:Hd) (ge:Hd) (gf:Hd) (L:Led) (ln:List Int) (i:Int) (hlk:LLen L:=by exact ob) (hln:ln.length≤4294967296:=by exact ob) (hi:0≤i∧i<L.vars.length:=by exact ob) (hd:∀j:Int,0≤j→j<L.vars.length→gI L.par j<j):Z3 Tryz.prog 189 [.p b 0,.i i] [.obj b [.h ga,.h gb,.h gc,.h gd,.h ge,.h gf,nInt ln],rV ga L.vars,rV gb L.own,rV gc L.par,rV gd L.con,rV ge L.fst,rV gf L.tok] (fun r h=>r=.b (Z1m L ln i)∧h=[.obj b [.h ga,.h gb,.h gc,.h gd,.h ge,.h gf,nInt ln],rV ga L.vars,rV gb L.own,rV gc L.par,rV gd L.con,rV ge L.fst,rV gf L.tok]):=by
 obtain ⟨e1,e2,e3,e4,e5⟩:=hlk
 refine enter Tryz.func189 kr (n:=31) kr kr (ar (ir 1 [(0,.p b 0),(1,.i i)] (ie (aq (ab 0 (al (fun m F h=>∃(j:Int),(0≤j∧j<L.vars.length)∧(Z7u L.own L.par ln (j.toNat+1) j=Z1m L ln i)∧F=[(0,.p b 0),(1,.i j)]∧h=[.obj b [.h ga,.h gb,.h gc,.h gd,.h ge,.h gf,nInt ln],rV ga L.vars,rV gb L.own,rV gc L.par,rV gd L.con,rV ge L.fst,rV gf L.tok]∧m=j.toNat) _ _ _ ⟨i,ob,ob,rfl,rfl,rfl⟩ (wk [0,0,0,0,0,0,0] fl) ?_))))))
 rintro m F h ⟨j,c0_0,c0_1,rfl,rfl,rfl⟩
 refine aq (ar (irK 5 (.n 8 (.h gb) (.n 9 (.i j) .r)) [0] [b] (is_ (vIdx 2 gb L.own j j.toNat (hq:=rfl)) ?_)))
 obtain ⟨x1,hx1⟩:=Z6 (xs:=L.own) (j:=j.toNat) om
 have hg1:=Z5a hx1
 refine ix_ (vGet 2 gb L.own j.toNat x1 hx1) (Z24 [(0,.p b 0),(1,.i j),(21,.b ((decide (x1<1))&&(!(decide (j∈ln)))))] [.obj b [.h ga,.h gb,.h gc,.h gd,.h ge,.h gf,nInt ln],rV ga L.vars,rV gb L.own,rV gc L.par,rV gd L.con,rV ge L.fst,rV gf L.tok] ?_ ?_)
 ·refine ir 2 [(0,.p b 0),(1,.i j),(13,.b (decide (x1<1)))] (ib (b:=(decide (x1<1))) 13 (fun hb1=>?_) (fun hb1=>?_))
  ·have hp1:x1<1:=(dq).1 hb1
   refine irK 5 (.n 17 (nInt ln) (.n 18 (.i j) (.k (.k (.k .z))))) [0] [b] (ic [] (Z83 ln j) ?_)
   rintro _ _ ⟨rfl,rfl⟩
   refine irk 2 (.n 21 (.b (!(decide (j∈ln)))) .r) (ie ?_)
   exact wk [0,0,0,0,0,0,0] (fw (fc (x:=.b (!(decide (j∈ln)))) (lb (by simp only [hb1];rfl)) fl))
  have hp2:¬(x1<1):=Zd dq hb1
  refine irk 8 (.n 21 (.b false) (.d (.k (.k .z)))) (ie ?_)
  exact wk [0,0,0,0,0,0,0] (fw (fc (x:=.b false) (lb (by simp only [hb1];rfl)) fl))
 refine ac ((decide (x1<1))&&(!(decide (j∈ln)))) (p:=(x1<1)∧(¬(j∈ln))) (Zj dq (Zc dq)) (fun hc1=>?_) (fun hc1=>?_)
 ·refine ak (ab 1 (ar (iR 5 [(0,.p b 0),(25,.h gc),(26,.i j)] [0] [b] (is_ (vIdx 3 gc L.par j j.toNat (hq:=rfl)) ?_))))
  obtain ⟨x2,hx2⟩:=Z6 (xs:=L.par) (j:=j.toNat) om
  have hg2:=Z5a hx2
  have hdj:=hd j om om
  rw [hg2] at hdj
  refine ix_ (vGet 3 gc L.par j.toNat x2 hx2) (irk 1 (.n 1 (.i x2) .r) (ie (ar (irk 2 (.n 30 (.b (decide (x2<0))) .r) (ie (ac (decide (x2<0)) dq (fun hc2=>?_) (fun hc2=>?_)))))))
  ·refine ar (ir 1 [(4,.b false)] (ie ?_))
   exact at_ (r2 [0,0,0,0,0,0,0] [.b false] ⟨rfl,rfl⟩ (lb (Ziu hg1 hg2 hc1 hc2 c0_1)))
  refine ak ?_
  exact ⟨x2.toNat,[(0,.p b 0),(1,.i x2)],[.obj b [.h ga,.h gb,.h gc,.h gd,.h ge,.h gf,nInt ln],rV ga L.vars,rV gb L.own,rV gc L.par,rV gd L.con,rV ge L.fst,rV gf L.tok],ob,⟨x2,om,(Zqd hg1 hg2 c0_0 hc1 hc2 hd c0_1),rfl,rfl,rfl⟩,(wk [0,0,0,0,0,0,0] fl)⟩
 refine ax 0 (ar (ir 1 [(4,.b true)] (ie ?_)))
 exact at_ (r2 [0,0,0,0,0,0,0] [.b true] ⟨rfl,rfl⟩ (lb (Ziv hg1 hc1 c0_1)))
theorem Zpj (b:Nat) (ga:Hd) (gb:Hd) (gc:Hd) (gd:Hd) (ge:Hd) (gf:Hd) (L:Led) (ln:List Int) (mm:Nat) (hlk:LLen L:=by exact ob) (hlb:L.vars.length≤1000000000:=by exact ob) (hm:mm≤L.vars.length:=by exact ob):Z3 Tryz.prog 101 [.p b 0,.i mm] [.obj b [.h ga,.h gb,.h gc,.h gd,.h ge,.h gf,nInt ln],rV ga L.vars,rV gb L.own,rV gc L.par,rV gd L.con,rV ge L.fst,rV gf L.tok] (fun r h=>(∃(wa:Hd) (wb:Hd) (wc:Hd) (wd:Hd) (we:Hd) (wf:Hd) (L':Led),r=.b true∧h=[.obj b [.h wa,.h wb,.h wc,.h wd,.h we,.h wf,nInt ln],rV wa L'.vars,rV wb L'.own,rV wc L'.par,rV wd L'.con,rV we L'.fst,rV wf L'.tok]∧cutL L mm=some L')∨(r=.b false∧h=[]∧cutL L mm=none)):=by
 obtain ⟨e1,e2,e3,e4,e5⟩:=hlk
 refine enter Tryz.func101 kr (n:=88) kr kr (ar (ir 1 [(0,.p b 0),(1,.i mm)] (ie (aq (ar (irk 2 (.n 5 (.i mm) .r) (ie (ab 0 (al (fun m F h=>∃(k:Nat),(mm≤k∧k≤L.vars.length)∧(Z30 (L.own.drop k) (L.tok.drop k)=Z30 (L.own.drop mm) (L.tok.drop mm))∧F=[(0,.p b 0),(1,.i mm),(5,.i k)]∧h=[.obj b [.h ga,.h gb,.h gc,.h gd,.h ge,.h gf,nInt ln],rV ga L.vars,rV gb L.own,rV gc L.par,rV gd L.con,rV ge L.fst,rV gf L.tok]∧m=L.vars.length-k) _ _ _ ⟨mm,ob,ob,rfl,rfl,rfl⟩ (wk [0,0,0,0,0,0,0] fl) ?_)))))))))
 rintro m F h ⟨k,c0_0,c0_1,rfl,rfl,rfl⟩
 refine aq (ar (irK 5 (.n 7 (.i k) (.n 11 (.h ga) .r)) [0] [b] (is_ (vLen 1 ga L.vars) (irk 1 (.n 13 (.b (decide ((k:Int)<(L.vars.length:Int)))) .r) (ie (ac (decide ((k:Int)<(L.vars.length:Int))) dq (fun hc1=>?_) (fun hc1=>?_)))))))
 ·refine ak (aq (ab 1 (ar (irK 5 (.n 19 (.h gb) (.n 20 (.i k) .r)) [0] [b] (is_ (vIdx 2 gb L.own (k:Int) k) ?_)))))
  obtain ⟨x1,hx1⟩:=Z6 (xs:=L.own) (j:=k) om
  refine ix_ (vGet 2 gb L.own k x1 hx1) (irk 2 (.n 24 (.b (x1 != 0)) .r) (ib (b:=(x1 != 0)) 24 (fun hb1=>?_) (fun hb1=>?_)))
  ·have hp1:x1≠0:=(bne_iff_ne).1 hb1
   refine irk 9 (.n 33 (.b true) (.k (.d .r))) (ie (ac1 (ar (ir 1 [(4,.b false)] (ie ?_)))))
   obtain ⟨y2,hy2⟩:=Z6 (xs:=L.tok) (j:=k) om
   exact at_ (r1 [] (.inr ⟨rfl,rfl,(by rw [cutL,←c0_1,Z5 hx1,Z5 hy2,Z30,if_pos (show x1≠0∨0≤y2 by omega)];rfl)⟩))
  have hp2:¬(x1≠0):=Zd bne_iff_ne hb1
  refine irK 5 (.n 28 (.h gf) (.n 29 (.i k) (.k (.d .r)))) [0] [b] (is_ (vIdx 6 gf L.tok (k:Int) k) ?_)
  obtain ⟨x2,hx2⟩:=Z6 (xs:=L.tok) (j:=k) om
  refine ix_ (vGet 6 gf L.tok k x2 hx2) (irk 2 (.n 33 (.b (decide (x2≥0))) .r) (ie (ac (decide (x2≥0)) dq (fun hc2=>?_) (fun hc2=>?_))))
  ·refine ar (ir 1 [(4,.b false)] (ie ?_))
   exact at_ (r1 [] (.inr ⟨rfl,rfl,(by rw [cutL,←c0_1,Z5 hx1,Z5 hx2,Z30,if_pos (show x1≠0∨0≤x2 by omega)];rfl)⟩))
  refine ak (az (irk 1 (.n 14 (.i k) .r) (ia (((k+1:Nat):Int)) (((k:Int))+(1)) (ir 1 [(0,.p b 0),(1,.i mm),(5,.i (k+1:Nat))] (ie ?_)))))
  exact ⟨_,_,_,ob,⟨k+1,ob,(by rw [Z5 hx1,Z5 hx2,Z30,if_neg om] at c0_1;exact c0_1),rfl,rfl,rfl⟩,(wk [0,0,0,0,0,0,0] (fw (fc (x:=.i (k+1:Nat)) li fl)))⟩
 refine ax 0 (ar (irK 6 (.n 34 (.p b 0) (.n 38 (.h ga) (.n 39 (.i mm) .r))) [0] [b] (is_ (vCut 1 ga L.vars mm) (irk 2 (.n 42 (.p b 0) .r) (Z4v (tCut 1 mm ga L.vars) (iS 1 b 0 [.h (ga.cut mm)] [.h ga,.h gb,.h gc,.h gd,.h ge,.h gf,nInt ln] [.h (ga.cut mm),.h gb,.h gc,.h gd,.h ge,.h gf,nInt ln] (ie (ar (irK 6 (.n 43 (.p b 0) (.n 47 (.h gb) (.n 48 (.i mm) .r))) [0] [b] (is_ (vCut 2 gb L.own mm) (irk 2 (.n 51 (.p b 1) .r) (Z4v (tCut 2 mm gb L.own) (iS 1 b 1 [.h (gb.cut mm)] [.h (ga.cut mm),.h gb,.h gc,.h gd,.h ge,.h gf,nInt ln] [.h (ga.cut mm),.h (gb.cut mm),.h gc,.h gd,.h ge,.h gf,nInt ln] (ie (ar (irK 6 (.n 52 (.p b 0) (.n 56 (.h gc) (.n 57 (.i mm) .r))) [0] [b] (is_ (vCut 3 gc L.par mm) (irk 2 (.n 60 (.p b 2) .r) (Z4v (tCut 3 mm gc L.par) (iS 1 b 2 [.h (gc.cut mm)] [.h (ga.cut mm),.h (gb.cut mm),.h gc,.h gd,.h ge,.h gf,nInt ln] [.h (ga.cut mm),.h (gb.cut mm),.h (gc.cut mm),.h gd,.h ge,.h gf,nInt ln] (ie (ar (irK 6 (.n 61 (.p b 0) (.n 65 (.h gd) (.n 66 (.i mm) .r))) [0] [b] (is_ (vCut 4 gd L.con mm) (irk 2 (.n 69 (.p b 3) .r) (Z4v (tCut 4 mm gd L.con) (iS 1 b 3 [.h (gd.cut mm)] [.h (ga.cut mm),.h (gb.cut mm),.h (gc.cut mm),.h gd,.h ge,.h gf,nInt ln] [.h (ga.cut mm),.h (gb.cut mm),.h (gc.cut mm),.h (gd.cut mm),.h ge,.h gf,nInt ln] (ie (ar (irK 6 (.n 70 (.p b 0) (.n 74 (.h ge) (.n 75 (.i mm) .r))) [0] [b] (is_ (vCut 5 ge L.fst mm) (irk 2 (.n 78 (.p b 4) .r) (Z4v (tCut 5 mm ge L.fst) (iS 1 b 4 [.h (ge.cut mm)] [.h (ga.cut mm),.h (gb.cut mm),.h (gc.cut mm),.h (gd.cut mm),.h ge,.h gf,nInt ln] [.h (ga.cut mm),.h (gb.cut mm),.h (gc.cut mm),.h (gd.cut mm),.h (ge.cut mm),.h gf,nInt ln] (ie (ar (iR 6 [(79,.p b 0),(83,.h gf),(84,.i mm)] [0] [b] (is_ (vCut 6 gf L.tok mm) (irk 2 (.n 87 (.p b 5) .r) (Z4v (tCut 6 mm gf L.tok) (iS 1 b 5 [.h (gf.cut mm)] [.h (ga.cut mm),.h (gb.cut mm),.h (gc.cut mm),.h (gd.cut mm),.h (ge.cut mm),.h gf,nInt ln] [.h (ga.cut mm),.h (gb.cut mm),.h (gc.cut mm),.h (gd.cut mm),.h (ge.cut mm),.h (gf.cut mm),nInt ln] (ie (ar (ir 1 [(4,.b true)] (ie ?_)))))))))))))))))))))))))))))))))))))))))))))
 exact at_ (r1 [0,5,4,3,2,1,0] (.inl ⟨(ga.cut mm),(gb.cut mm),(gc.cut mm),(gd.cut mm),(ge.cut mm),(gf.cut mm),(Led.mk (L.vars.take mm) (L.own.take mm) (L.par.take mm) (L.con.take mm) (L.fst.take mm) (L.tok.take mm)),rfl,rfl,(by rw [cutL,if_pos (by rw [←c0_1,Zt om];rfl)];rfl)⟩) (eq:=(rc (rv (xs:=(L.vars.take mm)) ob (rv (xs:=(L.own.take mm)) ob (rv (xs:=(L.par.take mm)) ob (rv (xs:=(L.con.take mm)) ob (rv (xs:=(L.fst.take mm)) ob (rv (xs:=(L.tok.take mm)) ob rz)))))))))
theorem Z00l (b:Nat) (ga:Hd) (gb:Hd) (gc:Hd) (gd:Hd) (ge:Hd) (gf:Hd) (n:Normal) (s:Step) (L:Led) (ln:List Int) (q:Int) (x:Int) (hn:NOk n:=by exact ob) (hk:LOk n.decls L q:=by exact ob) (hlb:L.vars.length≤1000000000:=by exact ob) (ha:s.args[0]? = some x:=by exact ob) (hx:0≤x∧x<L.vars.length:=by exact ob) (hq:0≤q∧q≤999999990:=by exact ob):Z3 Tryz.prog 190 [.p b 0,Zi n,Z0g s] [.obj b [.h ga,.h gb,.h gc,.h gd,.h ge,.h gf,nInt ln],rV ga L.vars,rV gb L.own,rV gc L.par,rV gd L.con,rV ge L.fst,rV gf L.tok] (fun r h=>(∃(wa:Hd) (wb:Hd) (wc:Hd) (wd:Hd) (we:Hd) (wf:Hd) (L':Led),r=.b true∧h=[.obj b [.h wa,.h wb,.h wc,.h wd,.h we,.h wf,nInt ln],rV wa L'.vars,rV wb L'.own,rV wc L'.par,rV wd L'.con,rV we L'.fst,rV wf L'.tok]∧Zax n.decls L s.op x=some L')∨(r=.b false∧h=[]∧Zax n.decls L s.op x=none)):=by
 obtain ⟨e1,e2,e3,e4,e5⟩:=hk.len
 have hdk:=hn.decls
 have hal:=(List.getElem?_eq_some_iff.1 ha).1
 obtain ⟨xcon,hxcon⟩:=Z6 (xs:=L.con) (j:=(x).toNat) om
 have hgcon:=Z5a hxcon
 obtain ⟨xtok,hxtok⟩:=Z6 (xs:=L.tok) (j:=(x).toNat) om
 have hgtok:=Z5a hxtok
 obtain ⟨xfst,hxfst⟩:=Z6 (xs:=L.fst) (j:=(x).toNat) om
 have hgfst:=Z5a hxfst
 have hfl:=Z13 hdk xcon
 have har:=hk.arm x om om
 rw [hgcon,hgfst] at har
 refine enter Tryz.func190 kr (n:=105) kr kr (ar (iA (Zh n) ?_))
 intro b1
 refine iA (Z02 s) ?_
 intro b2
 refine ir 1 [(0,.p b 0),(4,.p b1 0),(5,.p b2 0)] (ie (ar (irK 2 (.n 11 (nInt s.args) .r) [0] [b2] (is_ (Z0 (es:=Z8 s.args) (hv:=none) (j:=0) (sz:=1) (y:=.i x) kr om (Z9 ha) rfl) (irk 2 (.n 7 (.i x) .r) (ie (aq (ar (irK 5 (.n 17 (.h gd) (.n 18 (.i x) .r)) [2] [b] (is_ (vIdx 6 gd L.con x x.toNat (hq:=rfl)) (ix_ (vGet 6 gd L.con x.toNat xcon hxcon) (Z1n 23 [(0,.p b 0),(4,.p b1 0),(5,.p b2 0),(7,.i x),(36,.b ((decide (xcon<0))||((s.op==17)&&(decide (xtok≥0)))))] [.obj b2 (Z02 s),.obj b1 (Zh n),.obj b [.h ga,.h gb,.h gc,.h gd,.h ge,.h gf,nInt ln],rV ga L.vars,rV gb L.own,rV gc L.par,rV gd L.con,rV ge L.fst,rV gf L.tok] ?_ (fun hj1=>?_)))))))))))))
 ·refine ir 1 [(0,.p b 0),(4,.p b1 0),(5,.p b2 0),(7,.i x),(37,.b ((decide (xcon<0))||((s.op==17)&&(decide (xtok≥0)))))] (ib (b:=((decide (xcon<0))||((s.op==17)&&(decide (xtok≥0))))) 37 (fun hb1=>?_) (fun hb1=>?_))
  ·have hp1:(xcon<0)∨((s.op=17)∧(xtok≥0)):=((Zg dq (Zj beq_iff_eq dq))).1 hb1
   refine irk 5 (.n 42 (.b true) (.d (.w .z))) (ie (ac1 (ar (ir 1 [(6,.b false)] (ie ?_)))))
   exact at_ (r1 [] (.inr ⟨rfl,rfl,(by rw [Zax,hgcon,hgtok,if_pos om])⟩))
  have hp2:¬((xcon<0)∨((s.op=17)∧(xtok≥0))):=Zd (Zg dq (Zj beq_iff_eq dq)) hb1
  refine irk 2 (.n 38 (.p b 0) (.n 39 (.i x) (.w (.k .z)))) (ic [2,2,2,2,2,2,2] (Zg1 b ga gb gc gd ge gf L ln x (hlk:=hk.len) (hq:=(fun y hy=>⟨hk.nn y hy,by have:=hk.bd y hy;omega⟩))) ?_)
  rintro _ _ (⟨wa1,wb1,wc1,wd1,we1,wf1,L'1,rfl,rfl,hp3⟩|⟨rfl,rfl,hp4⟩)
  ·obtain ⟨t1,t2,t3,t4,t5,t6,t7⟩:=Z35 hp3
   have hk1:=hk.take hp3
   obtain ⟨f1,f2,f3,f4,f5⟩:=hk1.len
   have hxcon1:L'1.con[x.toNat]? = some xcon:=by rw [t4];exact hxcon
   have hvl:L'1.vars.length=L.vars.length:=by rw [t2]
   have har2:=har om
   have hxfst1:L'1.fst[x.toNat]? = some xfst:=by rw [t5];exact hxfst
   refine irk 2 (.n 42 (.b false) .r) (ie (ac0 (ak (aD 11 (dtK (fuel:=4) 11 [0,1,2,3,4,5,6] (.n 44 (Z2 n.decls) (.n 48 (.h wd1) (.n 49 (.i x) .r))) [8,0] [b1,b] (dx 7 (vIdx 4 wd1 L'1.con x x.toNat (hq:=rfl)) (dx_ 8 (vGet 4 wd1 L'1.con x.toNat xcon hxcon1) (do_ 9 (dc 9 [] [] [] (Z3y n.decls xcon) ?_)))))))))
   rintro _ _ ⟨rfl,rfl⟩
   refine dtk (fuel:=0) 1 [10] (.n 8 (nInt (Z1 n.decls xcon)) .r) (de (aq (ar (irk 1 (.n 9 (.i 0) .r) (ie (ab 0 (al (fun m F h=>∃(k:Nat) (o:List Int),(k≤(Z1 n.decls xcon).length)∧(o.length=L.vars.length)∧(∀y∈o,0≤y∧y≤q+k)∧(addF o (xfst+k) ((Z1 n.decls xcon).drop k)=addF L'1.own xfst (Z1 n.decls xcon))∧F=[(0,.p b 0),(5,.p b2 0),(7,.i x),(8,nInt (Z1 n.decls xcon)),(9,.i k)]∧h=[.obj b [.h wa1,.h wb1,.h wc1,.h wd1,.h we1,.h wf1,nInt ln],rV wa1 L'1.vars,rV wb1 o,rV wc1 L'1.par,rV wd1 L'1.con,rV we1 L'1.fst,rV wf1 L'1.tok,.obj b2 (Z02 s)]∧m=(Z1 n.decls xcon).length-k) _ _ _ ⟨0,L'1.own,ob,om,(by intro y hy;have h1:=hk1.nn y hy;have h2:=hk1.bd y hy;omega),(by rw [show xfst+((0:Nat):Int)=xfst by omega,List.drop_zero]),rfl,rfl,rfl⟩ (wk [0,0,0,0,0,0,0,0] (fq (fc (x:=.i 0) li fl))) ?_)))))))
   rintro m F h ⟨k,o,c0_0,c0_1,c0_2,c0_3,rfl,rfl,rfl⟩
   refine aq (ar (irk 2 (.n 53 (.i k) (.n 54 (nInt (Z1 n.decls xcon)) .r)) (io (.i (((Z1 n.decls xcon).length:Nat):Int)) (.i (((Z8 (Z1 n.decls xcon)).length:Nat):Int)) (li (by rw [Z4])) (irk 1 (.n 56 (.b (decide ((k:Int)<(((Z1 n.decls xcon).length:Nat):Int)))) .r) (ie (ac (decide ((k:Int)<(((Z1 n.decls xcon).length:Nat):Int))) dq (fun hc1=>?_) (fun hc1=>?_)))))))
   ·refine ak (aq (ab 1 (ar (irk 2 (.n 59 (nInt (Z1 n.decls xcon)) (.n 60 (.i k) .r)) ?_))))
    obtain ⟨x1,hx1⟩:=Z6 (xs:=Z1 n.decls xcon) (j:=k) om
    refine is_ (Z0 (es:=Z8 (Z1 n.decls xcon)) (hv:=none) (j:=(k:Int)) (sz:=1) (y:=.i x1) kr om (Z9 hx1) rfl) (irk 2 (.n 63 (.b (x1 != 0)) .r) (ie (ac (x1 != 0) bne_iff_ne (fun hc2=>?_) (fun hc2=>?_))))
    ·refine aE 31 (dtK (fuel:=22) 31 [0,1,2,3,4,5,6,7,8] (.n 67 (.h wb1) (.n 71 (.h we1) (.n 72 (.i x) .r))) [0,0] [b,b] (dx 9 (vIdx 5 we1 L'1.fst x x.toNat (hq:=rfl)) (dx_ 10 (vGet 5 we1 L'1.fst x.toNat xfst hxfst1) (dtk (fuel:=19) 20 [11] (.n 75 (.i k) .r) (da 12 ((xfst+(k:Int))) ((xfst)+((k:Int))) (dtK (fuel:=9) 18 [13,14,15,16,17,18,19,20,21] (.n 80 (.h wb1) (.n 84 (.h we1) (.n 85 (.i x) .r))) [0,0] [b,b] (dx 22 (vIdx 5 we1 L'1.fst x x.toNat (hq:=rfl)) (dx_ 23 (vGet 5 we1 L'1.fst x.toNat xfst hxfst1) (dtk (fuel:=6) 7 [24] (.n 88 (.i k) .r) (da 25 ((xfst+(k:Int))) ((xfst)+((k:Int))) (dx 26 (vIdx 2 wb1 o (xfst+(k:Int)) ((xfst+(k:Int)).toNat) (hq:=rfl)) ?_)))))))))))
     obtain ⟨x2,hx2⟩:=Z6 (xs:=o) (j:=((xfst+(k:Int)).toNat)) om
     have hy2:=c0_2 _ (List.mem_of_getElem? hx2)
     refine dx_ 27 (vGet 2 wb1 o ((xfst+(k:Int)).toNat) x2 hx2) (da 28 ((x2+1)) ((x2)+(1)) (dx 29 (vIdx 2 wb1 o (xfst+(k:Int)) ((xfst+(k:Int)).toNat) (hq:=rfl)) (do_ 30 (dVS 30 2 [] [] wb1 o ((xfst+(k:Int)).toNat) (x2+1) (de (az (irk 1 (.n 57 (.i k) .r) (ia (((k+1:Nat):Int)) (((k:Int))+(1)) (ir 1 [(0,.p b 0),(5,.p b2 0),(7,.i x),(8,nInt (Z1 n.decls xcon)),(9,.i (k+1:Nat))] (ie ?_))))))))))
     exact ⟨_,_,_,ob,⟨k+1,(o.set (xfst+(k:Nat)).toNat (x2+1)),ob,ob,(by intro y hy;first|(rcases Z33 hy with hy|rfl<;>first|(have:=c0_2 y hy;omega)|omega)|(have:=c0_2 y hy;omega)),(by rw [Z5 hx1,addF] at c0_3;first|(rw [if_pos hc2,Z5a hx2] at c0_3;rw [show xfst+((k+1:Nat):Int)=xfst+k+1 by omega];exact c0_3)|(rw [if_neg hc2] at c0_3;rw [show xfst+((k+1:Nat):Int)=xfst+k+1 by omega];exact c0_3)),rfl,rfl,rfl⟩,(wk [1,1,0,0,0,0,0,0] (fq (fc (x:=.i (k+1:Nat)) li fl)) (e:=(rc (rc (rv (xs:=(o.set ((xfst+(k:Int)).toNat) (x2+1))) ob (rc (rc (rc (rc (rc rz))))))))))⟩
    refine ak (az (irk 1 (.n 57 (.i k) .r) (ia (((k+1:Nat):Int)) (((k:Int))+(1)) (ir 1 [(0,.p b 0),(5,.p b2 0),(7,.i x),(8,nInt (Z1 n.decls xcon)),(9,.i (k+1:Nat))] (ie ?_)))))
    exact ⟨_,_,_,ob,⟨k+1,o,ob,ob,(by intro y hy;first|(rcases Z33 hy with hy|rfl<;>first|(have:=c0_2 y hy;omega)|omega)|(have:=c0_2 y hy;omega)),(by rw [Z5 hx1,addF] at c0_3;first|(rw [if_pos hc2,Z5a hx2] at c0_3;rw [show xfst+((k+1:Nat):Int)=xfst+k+1 by omega];exact c0_3)|(rw [if_neg hc2] at c0_3;rw [show xfst+((k+1:Nat):Int)=xfst+k+1 by omega];exact c0_3)),rfl,rfl,rfl⟩,(wk [0,0,0,0,0,0,0,0] (fq (fc (x:=.i (k+1:Nat)) li fl)))⟩
   refine ax 0 (aq (ar (irK 3 (.n 96 (.b (s.op==17)) .r) [7] [b2] (ie (ac (s.op==17) beq_iff_eq (fun hc3=>?_) (fun hc3=>?_))))))
   ·refine az (iR 6 [(100,.h wf1),(101,.i x),(102,nInt (Z1 n.decls xcon))] [0] [b] (io (.i (((Z1 n.decls xcon).length:Nat):Int)) (.i (((Z8 (Z1 n.decls xcon)).length:Nat):Int)) (li (by rw [Z4])) (is_ (vIdx 6 wf1 L'1.tok x x.toNat (hq:=rfl)) (iVS 6 wf1 L'1.tok x.toNat (((Z1 n.decls xcon).length:Nat):Int) (ie (ar (ir 1 [(6,.b true)] (ie ?_))))))))
    have hof:o=addF L'1.own xfst (Z1 n.decls xcon):=by rw [←c0_3,Zt om];rfl
    exact at_ (r1 [1,1,1,1,1,1,0] (.inl ⟨wa1,wb1,wc1,wd1,we1,wf1,(Led.mk L'1.vars o L'1.par L'1.con L'1.fst (L'1.tok.set x.toNat (((Z1 n.decls xcon).length:Nat):Int))),rfl,rfl,(by rw [Zax,hgcon,hgfst,hgtok,if_neg om,hp3,hof,t6];simp [hc3,t2,t3,t4,t5])⟩) (eq:=(rc (rv (xs:=L'1.vars) ob (rv (xs:=o) ob (rv (xs:=L'1.par) ob (rv (xs:=L'1.con) ob (rv (xs:=L'1.fst) ob (rv (xs:=(L'1.tok.set x.toNat (((Z1 n.decls xcon).length:Nat):Int))) ob rz)))))))))
   refine ak (ar (ir 1 [(6,.b true)] (ie ?_)))
   have hof:o=addF L'1.own xfst (Z1 n.decls xcon):=by rw [←c0_3,Zt om];rfl
   exact at_ (r1 [0,0,0,0,0,0,0] (.inl ⟨wa1,wb1,wc1,wd1,we1,wf1,(Led.mk L'1.vars o L'1.par L'1.con L'1.fst L'1.tok),rfl,rfl,(by rw [Zax,hgcon,hgfst,hgtok,if_neg om,hp3,hof,t6];simp [hc3,t2,t3,t4,t5])⟩) (eq:=(rc (rv (xs:=L'1.vars) ob (rv (xs:=o) ob (rv (xs:=L'1.par) ob (rv (xs:=L'1.con) ob (rv (xs:=L'1.fst) ob (rv (xs:=L'1.tok) ob rz)))))))))
  refine irk 2 (.n 42 (.b true) .r) (ie (ac1 (ar (ir 1 [(6,.b false)] (ie ?_)))))
  exact at_ (r1 [] (.inr ⟨rfl,rfl,(by rw [Zax,hgcon,hgtok,if_neg om,hp4])⟩))
 refine ir 2 [(0,.p b 0),(4,.p b1 0),(5,.p b2 0),(7,.i x),(22,.b (decide (xcon<0)))] (ib (b:=(decide (xcon<0))) 22 (fun hb2=>?_) (fun hb2=>?_))
 ·have hp5:xcon<0:=(dq).1 hb2
  refine irk 14 (.n 36 (.b true) (.d (.w .z))) ?_
  exact Zy (wk [0,0,0,0,0,0,0,0,0] (fq (fc (x:=.b true) (lb (by simp only [hb2];rfl)) fl))) hj1
 have hp6:¬(xcon<0):=Zd dq hb2
 refine irK 4 (.n 26 (.b (s.op==17)) (.w (.k .z))) [0] [b2] (ib (b:=(s.op==17)) 26 (fun hb3=>?_) (fun hb3=>?_))
 ·have hp7:s.op=17:=(beq_iff_eq).1 hb3
  refine irK 5 (.n 30 (.h gf) (.n 31 (.i x) (.k (.d .r)))) [2] [b] (is_ (vIdx 8 gf L.tok x x.toNat (hq:=rfl)) (ix_ (vGet 8 gf L.tok x.toNat xtok hxtok) (irk 3 (.n 36 (.b (decide (xtok≥0))) .r) ?_)))
  exact Zy (wk [0,0,0,0,0,0,0,0,0] (fq (fc (x:=.b (decide (xtok≥0))) (lb (by simp only [hb2,hb3];rfl)) fl))) hj1
 have hp8:¬(s.op=17):=Zd beq_iff_eq hb3
 refine irk 10 (.n 36 (.b false) (.k (.d .r))) ?_
 exact Zy (wk [0,0,0,0,0,0,0,0,0] (fq (fc (x:=.b false) (lb (by simp only [hb2,hb3];rfl)) fl))) hj1
theorem Znd (b:Nat) (ga:Hd) (gb:Hd) (gc:Hd) (gd:Hd) (ge:Hd) (gf:Hd) (n:Normal) (s:Step) (L:Led) (ln:List Int) (q:Int) (hn:NOk n:=by exact ob) (hnum:s.op=9→0≤s.num∧s.num<n.routines.length:=by exact ob) (hk:LOk n.decls L q:=by exact ob) (hlb:L.vars.length≤1000000000:=by exact ob) (hargs:∀a∈s.args,0≤a∧a<L.vars.length) (hinto:0<s.into→s.into≤L.vars.length:=by exact ob) (hal:s.args.length≤1000000000:=by exact ob) (hln:ln.length≤4294967296:=by exact ob) (hq:0≤q∧q≤999999990:=by exact ob):Z3 Tryz.prog 192 [.p b 0,Zi n,Z0g s] [.obj b [.h ga,.h gb,.h gc,.h gd,.h ge,.h gf,nInt ln],rV ga L.vars,rV gb L.own,rV gc L.par,rV gd L.con,rV ge L.fst,rV gf L.tok] (fun r h=>(∃(wa:Hd) (wb:Hd) (wc:Hd) (wd:Hd) (we:Hd) (wf:Hd) (L':Led),r=.b true∧h=[.obj b [.h wa,.h wb,.h wc,.h wd,.h we,.h wf,nInt ln],rV wa L'.vars,rV wb L'.own,rV wc L'.par,rV wd L'.con,rV we L'.fst,rV wf L'.tok]∧Z7r n ln L s.op s.num s.into s.args=some L')∨(r=.b false∧h=[]∧Z7r n ln L s.op s.num s.into s.args=none)):=by
 obtain ⟨e1,e2,e3,e4,e5⟩:=hk.len
 refine enter Tryz.func192 kr (n:=79) kr kr (ar (iA (Zh n) ?_))
 intro b1
 refine iA (Z02 s) ?_
 intro b2
 refine ir 1 [(0,.p b 0),(4,.p b1 0),(5,.p b2 0)] (ie (aq (ar (irk 1 (.n 7 (.i 0) .r) (ie (ab 0 (al (fun m F h=>∃(k:Nat) (L2:Led) (ka:Hd) (kb:Hd) (kc:Hd) (kd:Hd) (ke:Hd) (kf:Hd),(k≤s.args.length)∧(LOk n.decls L2 q)∧(L2.vars=L.vars)∧(Z3q n s.op s.num (s.args.drop k) k L2=Z3q n s.op s.num s.args 0 L)∧F=[(0,.p b 0),(4,.p b1 0),(5,.p b2 0),(7,.i k)]∧h=[.obj b2 (Z02 s),.obj b1 (Zh n),.obj b [.h ka,.h kb,.h kc,.h kd,.h ke,.h kf,nInt ln],rV ka L2.vars,rV kb L2.own,rV kc L2.par,rV kd L2.con,rV ke L2.fst,rV kf L2.tok]∧m=s.args.length-k) _ _ _ ⟨0,L,ga,gb,gc,gd,ge,gf,ob,hk,ob,ob,rfl,rfl,rfl⟩ (wk [0,0,0,0,0,0,0,0,0] (fw (fr (fc (x:=.i 0) li fl)))) ?_)))))))
 rintro m F h ⟨k,L2,ka,kb,kc,kd,ke,kf,c0_0,c0_1,c0_2,c0_3,rfl,rfl,rfl⟩
 refine aq (ar (irK 3 (.n 9 (.i k) (.n 11 (nInt s.args) .r)) [0] [b2] (iw (Z4 s.args) (irk 1 (.n 13 (.b (decide ((k:Int)<(s.args.length:Int)))) .r) (ie (ac (decide ((k:Int)<(s.args.length:Int))) dq (fun hc1=>?_) (fun hc1=>?_)))))))
 ·obtain ⟨a1,ha1⟩:=Z6 (xs:=s.args) (j:=k) om
  obtain ⟨e6,e7,e8,e9,e10⟩:=c0_1.len
  have hav:=hargs a1 (List.mem_of_getElem? ha1)
  have hvl:L2.vars.length=L.vars.length:=by rw [c0_2]
  refine ak (aq (ab 1 (aD 18 (dtK (fuel:=11) 18 [0,1,2,3,4,5,6] (.n 16 (Zi n) (.n 20 (.h ka) (.n 21 (Z0g s) (.n 22 (.i k) .r)))) [1,2,0] [b1,b,b2] (do_ 7 (dCL 7 [3] [] [] [rV ka L2.vars] (Zdd n L2.vars s k a1 (ha:=ha1)) cl0 (gS (gL (v:=ka) 0 (gS (gS gN)))) (Z1h Z2j) ?_))))))
  rintro _ _ ⟨rfl,rfl⟩
  refine dtk (fuel:=9) 10 [8] (.n 24 (.b (Zau n L2.vars s.op s.num a1 k)) .r) (db (b:=Zau n L2.vars s.op s.num a1 k) 24 (fun hb1=>?_) (fun hb1=>?_))
  ·have hp1:Zau n L2.vars s.op s.num a1 k=true:=(Iff.rfl).1 hb1
   refine dtK (fuel:=5) 9 [9,10,11,12] (.n 25 (.p b 0) (.n 27 (nInt s.args) (.n 28 (.i k) (.k (.d .r))))) [1] [b2] (dx 13 (Z0 (es:=Z8 s.args) (hv:=none) (j:=(k:Int)) (sz:=1) (y:=.i a1) kr om (Z9 ha1) rfl) (dtk (fuel:=3) 4 [14] (.n 30 (.i a1) .r) (do_ 15 (dc 15 [3,0,2,2,2,2,2] [] [] (Zg1 b ka kb kc kd ke kf L2 ln a1 (hlk:=c0_1.len) (hq:=(fun y hy=>⟨c0_1.nn y hy,by have:=c0_1.bd y hy;omega⟩))) ?_))))
   rintro _ _ (⟨wa1,wb1,wc1,wd1,we1,wf1,L'1,rfl,rfl,hp2⟩|⟨rfl,rfl,hp3⟩)
   ·obtain ⟨t1,t2,t3,t4,t5,t6,t7⟩:=Z35 hp2
    have hk2:=c0_1.take hp2
    refine dtk (fuel:=0) 2 [16,17] (.n 33 (.b false) .r) (de (ac0 (ak (az (irk 1 (.n 14 (.i k) .r) (ia (((k+1:Nat):Int)) (((k:Int))+(1)) (ir 1 [(0,.p b 0),(4,.p b1 0),(5,.p b2 0),(7,.i (k+1:Nat))] (ie ?_))))))))
    exact ⟨_,_,_,ob,⟨k+1,L'1,wa1,wb1,wc1,wd1,we1,wf1,ob,hk2,(t2.trans c0_2),(by rw [Z5 ha1,Z3q,if_pos hp1] at c0_3;simp only [hp2] at c0_3;exact c0_3),rfl,rfl,rfl⟩,(wk [7,7,0,0,0,0,0,0,0] (fw (fr (fc (x:=.i (k+1:Nat)) li fl))))⟩
   refine dtk (fuel:=0) 2 [16,17] (.n 33 (.b true) .r) (de (ac1 (ar (ir 1 [(6,.b false)] (ie ?_)))))
   exact at_ (r1 [] (.inr ⟨rfl,rfl,(by rw [Z7r,←c0_3,Z5 ha1,Z3q,if_pos hp1,hp3])⟩))
  have hp4:¬(Zau n L2.vars s.op s.num a1 k=true):=Zd Iff.rfl hb1
  refine dtk (fuel:=0) 9 [9,10,11,12,13,14,15,16,17] (.n 33 (.b false) (.k (.d .r))) (de (ac0 (ak (az (irk 1 (.n 14 (.i k) .r) (ia (((k+1:Nat):Int)) (((k:Int))+(1)) (ir 1 [(0,.p b 0),(4,.p b1 0),(5,.p b2 0),(7,.i (k+1:Nat))] (ie ?_))))))))
  exact ⟨_,_,_,ob,⟨k+1,L2,ka,kb,kc,kd,ke,kf,ob,c0_1,c0_2,(by rw [Z5 ha1,Z3q,if_neg hp4] at c0_3;exact c0_3),rfl,rfl,rfl⟩,(wk [1,1,1,0,0,0,0,0,0] (fw (fr (fc (x:=.i (k+1:Nat)) li fl))))⟩
 have hT:Z3q n s.op s.num s.args 0 L=some L2:=by rw [←c0_3,Zt om];rfl
 obtain ⟨e6,e7,e8,e9,e10⟩:=c0_1.len
 have hvl:L2.vars.length=L.vars.length:=by rw [c0_2]
 refine ax 0 (aq (ar (irk 1 (.n 8 (.i 0) .r) (ie (ab 2 (al (fun m F h=>∃(j:Nat),(j≤s.args.length)∧(Z47 n s.op s.num ln L2 (s.args.drop j) j=Z47 n s.op s.num ln L2 s.args 0)∧F=[(0,.p b 0),(4,.p b1 0),(5,.p b2 0),(8,.i j)]∧h=[.obj b2 (Z02 s),.obj b1 (Zh n),.obj b [.h ka,.h kb,.h kc,.h kd,.h ke,.h kf,nInt ln],rV ka L2.vars,rV kb L2.own,rV kc L2.par,rV kd L2.con,rV ke L2.fst,rV kf L2.tok]∧m=s.args.length-j) _ _ _ ⟨0,ob,ob,rfl,rfl,rfl⟩ (wk [0,0,0,0,0,0,0,0,0] (fw (fr (fc (x:=.i 0) li fl)))) ?_))))))
 rintro m F h ⟨j,c1_0,c1_1,rfl,rfl,rfl⟩
 refine aq (ar (irK 3 (.n 34 (.i j) (.n 36 (nInt s.args) .r)) [0] [b2] (iw (Z4 s.args) (irk 1 (.n 38 (.b (decide ((j:Int)<(s.args.length:Int)))) .r) (ie (ac (decide ((j:Int)<(s.args.length:Int))) dq (fun hc2=>?_) (fun hc2=>?_)))))))
 ·obtain ⟨a2,ha2⟩:=Z6 (xs:=s.args) (j:=j) om
  have hav:=hargs a2 (List.mem_of_getElem? ha2)
  refine ak (aq (ab 3 (ar (irK 3 (.n 41 (Zi n) (.n 42 (Z0g s) (.n 43 (.i j) .r))) [1,0] [b1,b2] (ic [] (Zba n s j) ?_)))))
  rintro _ _ ⟨rfl,rfl⟩
  refine Z24 [(0,.p b 0),(4,.p b1 0),(5,.p b2 0),(8,.i j),(54,.b (Z2d n s.op s.num j&&(!Z1m L2 ln a2)))] [.obj b [.h ka,.h kb,.h kc,.h kd,.h ke,.h kf,nInt ln],rV ka L2.vars,rV kb L2.own,rV kc L2.par,rV kd L2.con,rV ke L2.fst,rV kf L2.tok,.obj b2 (Z02 s),.obj b1 (Zh n)] ?_ ?_
  ·refine ir 1 [(0,.p b 0),(4,.p b1 0),(5,.p b2 0),(8,.i j),(45,.b (Z2d n s.op s.num j))] (ib (b:=Z2d n s.op s.num j) 45 (fun hb2=>?_) (fun hb2=>?_))
   ·have hp5:Z2d n s.op s.num j=true:=(Iff.rfl).1 hb2
    refine irK 4 (.n 46 (.p b 0) (.n 48 (nInt s.args) (.n 49 (.i j) (.w (.k .z))))) [0] [b2] (is_ (Z0 (es:=Z8 s.args) (hv:=none) (j:=(j:Int)) (sz:=1) (y:=.i a2) kr om (Z9 ha2) rfl) (irk 1 (.n 51 (.i a2) .r) (ic [2,2,2,2,2,2,2] (Zha b ka kb kc kd ke kf L2 ln a2 (hlk:=c0_1.len) (hd:=c0_1.down)) ?_)))
    rintro _ _ ⟨rfl,rfl⟩
    refine irk 2 (.n 54 (.b (!Z1m L2 ln a2)) .r) (ie ?_)
    exact wk [0,0,0,0,0,0,0,0,0] (fq (fc (x:=.b (!Z1m L2 ln a2)) (lb (by simp only [hb2];rfl)) fl))
   have hp6:¬(Z2d n s.op s.num j=true):=Zd Iff.rfl hb2
   refine irk 9 (.n 54 (.b false) (.d (.w .z))) (ie ?_)
   exact wk [2,2,2,2,2,2,2,0,0] (fq (fc (x:=.b false) (lb (by simp only [hb2];rfl)) fl))
  refine ac (Z2d n s.op s.num j&&(!Z1m L2 ln a2)) (p:=(Z2d n s.op s.num j=true)∧(¬(Z1m L2 ln a2=true))) (Zj Iff.rfl (Zc Iff.rfl)) (fun hc3=>?_) (fun hc3=>?_)
  ·refine ar (ir 1 [(6,.b false)] (ie ?_))
   have hA:Z47 n s.op s.num ln L2 s.args 0=false:=by rw [←c1_1,Z5 ha2,Z47,if_pos hc3]
   exact at_ (r1 [] (.inr ⟨rfl,rfl,(by rw [Z7r,hT];simp only [hA];rfl)⟩))
  refine ak (az (ir 1 [(0,.p b 0),(4,.p b1 0),(5,.p b2 0),(39,.i j)] (ia (((j+1:Nat):Int)) (((j:Int))+(1)) (irk 1 (.n 8 (.i (j+1:Nat)) .r) (ie ?_)))))
  exact ⟨_,_,_,ob,⟨j+1,ob,(by rw [Z5 ha2,Z47,if_neg hc3] at c1_1;exact c1_1),rfl,rfl,rfl⟩,(wk [7,7,0,0,0,0,0,0,0] (fw (fr (fc (x:=.i (j+1:Nat)) li fl))))⟩
 have hA:Z47 n s.op s.num ln L2 s.args 0=true:=by rw [←c1_1,Zt om];rfl
 refine ax 2 (aq (ar (irK 3 (.n 57 (.b (decide (s.into>0))) .r) [0] [b2] (ie (ac (decide (s.into>0)) dq (fun hc4=>?_) (fun hc4=>?_))))))
 ·obtain ⟨xt,hxt⟩:=Z6 (xs:=L2.tok) (j:=(s.into-1).toNat) (by have:=hinto hc4;omega)
  have hgt:=Z5a hxt
  refine aq (aD 13 (dtK (fuel:=7) 13 [0,1,2,3,4,5] (.n 61 (.h kf) (.n 63 (.i s.into) .r)) [2,0] [b,b2] (da 6 ((s.into-1)) ((s.into)-(1)) (dx 7 (vIdx 8 kf L2.tok (s.into-1) ((s.into-1).toNat) (hq:=rfl)) (dx_ 8 (vGet 8 kf L2.tok ((s.into-1).toNat) xt hxt) (dtK (fuel:=2) 4 [9,10] (.n 68 (nInt s.args) .r) [0] [b2] (dw 11 (Z4 s.args) (dtk (fuel:=0) 1 [12] (.n 70 (.b (xt != (s.args.length:Int))) .r) (de (ac (xt != (s.args.length:Int)) bne_iff_ne (fun hc5=>?_) (fun hc5=>?_)))))))))))
  ·refine ar (ir 1 [(6,.b false)] (ie ?_))
   exact at_ (r1 [] (.inr ⟨rfl,rfl,(by rw [Z7r,hT];simp only [hA,↓reduceIte];rw [Z4z,if_pos hc4,hgt,if_pos hc5])⟩))
  refine ak (aE 9 (dT (fuel:=3) 9 [0,1,2,3,4,5] [(74,.h kf),(76,.i s.into)] [2,0] [b,b2] (da 6 ((s.into-1)) ((s.into)-(1)) (dx 7 (vIdx 8 kf L2.tok (s.into-1) ((s.into-1).toNat) (hq:=rfl)) (do_ 8 (dVS 8 8 [] [] kf L2.tok ((s.into-1).toNat) (-1) (de (ar (ir 1 [(6,.b true)] (ie ?_))))))))))
  exact at_ (r1 [3,3,3,3,3,3,0] (.inl ⟨ka,kb,kc,kd,ke,kf,(Led.mk L2.vars L2.own L2.par L2.con L2.fst (L2.tok.set ((s.into-1).toNat) (-1))),rfl,rfl,(by rw [Z7r,hT];simp only [hA,↓reduceIte];rw [Z4z,if_pos hc4,hgt,if_neg hc5])⟩) (eq:=(rc (rv (xs:=L2.vars) ob (rv (xs:=L2.own) ob (rv (xs:=L2.par) ob (rv (xs:=L2.con) ob (rv (xs:=L2.fst) ob (rv (xs:=(L2.tok.set ((s.into-1).toNat) (-1))) ob rz)))))))))
 refine ak (ar (ir 1 [(6,.b true)] (ie ?_)))
 exact at_ (r1 [2,2,2,2,2,2,2] (.inl ⟨ka,kb,kc,kd,ke,kf,L2,rfl,rfl,(by rw [Z7r,hT];simp only [hA,↓reduceIte];rw [Z4z,if_neg hc4])⟩))
theorem Zww (b:Nat) (ga:Hd) (gb:Hd) (gc:Hd) (gd:Hd) (ge:Hd) (gf:Hd) (n:Normal) (s:Step) (L:Led) (ln:List Int) (q:Int) (i:Nat) (kb0:Block) (m:List Int) (hn:NOk n:=by exact ob) (hk:LOk n.decls L q:=by exact ob) (hf:SFacts n L.vars s:=by exact ob) (hop:s.op=7∨s.op=8:=by exact ob) (hkb:s.kids[i]? = some kb0:=by exact ob) (harm:(Zq n.decls s.op s.num)[i]? = some m:=by exact ob) (hbt:0≤Zf n (L.vars++m) kb0:=by exact ob) (hb:L.vars.length+4*s.sz≤1000000000:=by exact ob) (hq:0≤q∧q+4*s.sz≤999999990:=by exact ob) (hln:ln.length≤4294967296:=by exact ob) (ih:∀(b2:Block) (c:Nat) (ra:Hd) (rb:Hd) (rc:Hd) (rd:Hd) (re:Hd) (rf:Hd) (M:Led) (mm:Nat) (p:Int),(b2.sz<s.sz)→(LOk n.decls M p)→(0≤Zf n M.vars b2)→(mm≤M.vars.length)→(M.vars.length+4*b2.sz≤1000000000)→(0≤p∧p+4*b2.sz≤999999990)→Z3 Tryz.prog 100 [.p c 0,Zi n,Za b2,.i mm] [.obj c [.h ra,.h rb,.h rc,.h rd,.h re,.h rf,nInt ln],rV ra M.vars,rV rb M.own,rV rc M.par,rV rd M.con,rV re M.fst,rV rf M.tok] (fun r h=>(∃(wa:Hd) (wb:Hd) (wc:Hd) (wd:Hd) (we:Hd) (wf:Hd) (M':Led),r=.b true∧h=[.obj c [.h wa,.h wb,.h wc,.h wd,.h we,.h wf,nInt ln],rV wa M'.vars,rV wb M'.own,rV wc M'.par,rV wd M'.con,rV we M'.fst,rV wf M'.tok]∧Z39 n ln M mm b2=some M')∨(r=.b false∧h=[]∧Z39 n ln M mm b2=none))):Z3 Tryz.prog 209 [.p b 0,Zi n,Z0g s,.i i] [.obj b [.h ga,.h gb,.h gc,.h gd,.h ge,.h gf,nInt ln],rV ga L.vars,rV gb L.own,rV gc L.par,rV gd L.con,rV ge L.fst,rV gf L.tok] (fun r h=>(∃(c:Nat) (wa:Hd) (wb:Hd) (wc:Hd) (wd:Hd) (we:Hd) (wf:Hd) (L':Led),r=.tup [.p c 0,.b true]∧h=[.obj c [.h wa,.h wb,.h wc,.h wd,.h we,.h wf,nInt ln],rV wa L'.vars,rV wb L'.own,rV wc L'.par,rV wd L'.con,rV we L'.fst,rV wf L'.tok,.obj b [.h ga,.h gb,.h gc,.h gd,.h ge,.h gf,nInt ln],rV ga L.vars,rV gb L.own,rV gc L.par,rV gd L.con,rV ge L.fst,rV gf L.tok]∧Z39 n ln (kidL n.decls L s.op s.num s.args i) L.vars.length kb0=some L')∨(r=.tup [.any,.b false]∧h=[.obj b [.h ga,.h gb,.h gc,.h gd,.h ge,.h gf,nInt ln],rV ga L.vars,rV gb L.own,rV gc L.par,rV gd L.con,rV ge L.fst,rV gf L.tok]∧Z39 n ln (kidL n.decls L s.op s.num s.args i) L.vars.length kb0=none)):=by
 obtain ⟨e1,e2,e3,e4,e5⟩:=hk.len
 have hdk:=hn.decls
 have hkz:=Z5m s
 have haz:=Z86 s
 have hK:=Ze6 hk hq.1 hf hop harm
 have hm3:=Z8h hdk harm
 have hkl:=(List.getElem?_eq_some_iff.1 hkb).1
 have hks:=Z9k hkb
 refine enter Tryz.func209 kr (n:=83) kr kr (ar (iA (Zh n) ?_))
 intro b1
 refine iA (Z02 s) ?_
 intro b2
 refine ir 2 [(0,.p b 0),(3,.i i),(5,.p b1 0),(6,.p b2 0)] (ie (ar (irK 4 (.n 18 (.h ga) .r) [2] [b] (is_ (vLen 3 ga L.vars) (irk 1 (.n 10 (.i L.vars.length) .r) (ie (ar (irk 1 (.n 20 (.p b 0) .r) (ic [2,2,2,2,2,2,2] (Zt9 b ga gb gc gd ge gf L ln (hlk:=hk.len)) ?_)))))))))
 rintro _ _ ⟨c1,wa1,wb1,wc1,wd1,we1,wf1,rfl,rfl⟩
 refine irk 1 (.n 11 (.p c1 0) .r) (ie (aq (ar (irK 3 (.n 24 (.b (s.op==8)) .r) [14] [b2] (ie (ac (s.op==8) beq_iff_eq (fun hc1=>?_) (fun hc1=>?_)))))))
 ·obtain ⟨x,hxa⟩:=hf.one om
  have ha:s.args[0]? = some x:=by rw [hxa];rfl
  have hx:=hf.args x (by rw [hxa];simp)
  obtain ⟨cc,hcc,hmc⟩:=Z02o hc1 harm
  have hal:=(List.getElem?_eq_some_iff.1 ha).1
  have hcl:=(List.getElem?_eq_some_iff.1 hcc).1
  have hm4:=hm3
  rw [hmc] at hm4
  refine ar (irK 4 (.n 26 (Z2 n.decls) (.n 28 (.i s.num) .r)) [15,14] [b1,b2] (ic [] (Z8e n.decls s.num) ?_))
  rintro _ _ ⟨v1,rfl,rfl⟩
  refine irk 1 (.n 30 (.i i) .r) (is_ (Z0 (es:=Z8 (Zb n.decls s.num)) (hv:=some v1) (j:=(i:Int)) (sz:=1) (y:=.i cc) kr om (Z9 hcc) rfl) (irk 2 (.n 12 (.i cc) .r) (ie (ar (irK 3 (.n 34 (Z2 n.decls) (.n 35 (.i cc) .r)) [16] [b1] (ic [] (Z3y n.decls cc) ?_))))))
  rintro _ _ ⟨rfl,rfl⟩
  refine irk 1 (.n 13 (nInt (Z1 n.decls cc)) .r) (ie (aD 11 (dtK (fuel:=5) 11 [0,1,2,3,4,5] (.n 40 (.h wd1) (.n 42 (nInt s.args) .r)) [1,15] [c1,b2] (dx 6 (Z0 (es:=Z8 s.args) (hv:=none) (j:=0) (sz:=1) (y:=.i x) kr om (Z9 ha) rfl) (dtk (fuel:=2) 4 [7,8] (.n 44 (.i x) (.n 45 (.i cc) .r)) (dx 9 (vIdx 5 wd1 L.con x x.toNat (hq:=rfl)) (do_ 10 (dVS 10 5 [] [] wd1 L.con x.toNat cc (de (aD 11 (dtK (fuel:=5) 11 [0,1,2,3,4,5] (.n 50 (.h we1) (.n 52 (nInt s.args) .r)) [2,15] [c1,b2] (dx 6 (Z0 (es:=Z8 s.args) (hv:=none) (j:=0) (sz:=1) (y:=.i x) kr om (Z9 ha) rfl) (dtk (fuel:=2) 4 [7,8] (.n 54 (.i x) (.n 55 (.i L.vars.length) .r)) (dx 9 (vIdx 6 we1 L.fst x x.toNat (hq:=rfl)) (do_ 10 (dVS 10 6 [] [] we1 L.fst x.toNat (L.vars.length:Int) (de (ar (irk 1 (.n 14 (.i 0) .r) (ie (ab 0 (al (fun m F h=>∃(k:Nat) (L3:Led) (ka:Hd) (kb:Hd) (kc:Hd) (kd:Hd) (ke:Hd) (kf:Hd),(k≤(Z1 n.decls cc).length)∧(LLen L3)∧(L3.vars.length=L.vars.length+k)∧(Z6m L3 x ((Z1 n.decls cc).drop k)=armL n.decls L x cc)∧F=[(3,.i i),(5,.p b1 0),(6,.p b2 0),(10,.i L.vars.length),(11,.p c1 0),(13,nInt (Z1 n.decls cc)),(14,.i k)]∧h=[.obj c1 [.h ka,.h kb,.h kc,.h kd,.h ke,.h kf,nInt ln],.obj b [.h ga,.h gb,.h gc,.h gd,.h ge,.h gf,nInt ln],rV ga L.vars,rV gb L.own,rV gc L.par,rV gd L.con,rV ge L.fst,rV gf L.tok,.obj b2 (Z02 s),.obj b1 (Zh n),rV ka L3.vars,rV kb L3.own,rV kc L3.par,rV kd L3.con,rV ke L3.fst,rV kf L3.tok]∧m=(Z1 n.decls cc).length-k) _ _ _ ⟨0,(Led.mk L.vars L.own L.par (L.con.set x.toNat cc) (L.fst.set x.toNat (L.vars.length:Int)) L.tok),wa1,wb1,wc1,wd1,we1,wf1,ob,(LLen.arm hk.len),ob,(by rw [armL];rfl),rfl,rfl,rfl⟩ (wk [3,7,7,7,7,7,7,7,7,7,3,3,3,1,0,1] (fq (fw (fc (x:=.i 0) li fl))) (e:=(rc (rc (rc (rc (rc (rc (rc (rc (rc (rc (rv (xs:=L.vars) ob (rv (xs:=L.own) ob (rv (xs:=L.par) ob (rv (xs:=(L.con.set x.toNat cc)) ob (rv (xs:=(L.fst.set x.toNat (L.vars.length:Int))) ob (rv (xs:=L.tok) ob rz)))))))))))))))))) ?_))))))))))))))))))))))
  rintro m F h ⟨k,L3,ka,kb,kc,kd,ke,kf,c0_0,c0_1,c0_2,c0_3,rfl,rfl,rfl⟩
  refine aq (ar (irk 2 (.n 57 (.i k) (.n 58 (nInt (Z1 n.decls cc)) .r)) (io (.i (((Z1 n.decls cc).length:Nat):Int)) (.i (((Z8 (Z1 n.decls cc)).length:Nat):Int)) (li (by rw [Z4])) (irk 1 (.n 60 (.b (decide ((k:Int)<(((Z1 n.decls cc).length:Nat):Int)))) .r) (ie (ac (decide ((k:Int)<(((Z1 n.decls cc).length:Nat):Int))) dq (fun hc2=>?_) (fun hc2=>?_)))))))
  ·refine ak (aq (ab 1 (aE 10 (dtk (fuel:=7) 10 [0,1,2] (.n 63 (.p c1 0) (.n 64 (nInt (Z1 n.decls cc)) (.n 65 (.i k) .r))) ?_))))
   obtain ⟨x1,hx1⟩:=Z6 (xs:=Z1 n.decls cc) (j:=k) om
   refine dx 3 (Z0 (es:=Z8 (Z1 n.decls cc)) (hv:=none) (j:=(k:Int)) (sz:=1) (y:=.i x1) kr om (Z9 hx1) rfl) (dtK (fuel:=3) 6 [4,5,6] (.n 67 (.i x1) (.n 69 (nInt s.args) .r)) [8] [b2] (dx 7 (Z0 (es:=Z8 s.args) (hv:=none) (j:=0) (sz:=1) (y:=.i x) kr om (Z9 ha) rfl) (dtk (fuel:=1) 2 [8] (.n 71 (.i x) .r) (do_ 9 (dc 9 [0,9,9,9,9,9,9] [] [] (Z4r c1 ka kb kc kd ke kf L3 ln x1 0 x (hlk:=c0_1)) ?_)))))
   rintro _ _ ⟨wa2,wb2,wc2,wd2,we2,wf2,rfl⟩
   refine de (az (irk 1 (.n 61 (.i k) (.p .r)) (ia (((k+1:Nat):Int)) (((k:Int))+(1)) (irk 1 (.n 14 (.i (k+1:Nat)) (.p (.d (.d (.p (.d (.d (.p (.d (.d (.d (.d (.p (.d (.d (.w (.k (.k .z)))))))))))))))))) (ie ?_)))))
   exact ⟨_,_,_,ob,⟨k+1,(L3.grow x1 0 x),wa2,wb2,wc2,wd2,we2,wf2,ob,(LLen.grow c0_1),(by simp [Led.grow];omega),(by rw [Z5 hx1,Z6m] at c0_3;exact c0_3),rfl,rfl,rfl⟩,(wk [0,6,6,6,6,6,6,6,6,6,0,0,0,0,0,0] (fq (fw (fc (x:=.i (k+1:Nat)) li fl))))⟩
  have hE:kidL n.decls L s.op s.num s.args i=L3:=by rw [Z00i hc1 ha hcc,←c0_3,Zt om];rfl
  refine ax 0 (aD 12 (dtK (fuel:=6) 12 [0,1,2,3,4,5] (.n 73 (.p c1 0) (.n 74 (.p c1 0) (.n 75 (Zi n) (.n 77 (Zv s.kids) (.n 78 (.i i) .r))))) [9,8] [b1,b2] (dx 6 (Z0 (es:=Z19 s.kids) (hv:=none) (j:=(i:Int)) (sz:=2) (y:=Za kb0) kr om (Z1q hkb) rfl) (dtk (fuel:=3) 5 [7,8] (.n 80 (Za kb0) (.n 81 (.i L.vars.length) .r)) (do_ 9 (dc 9 [0,9,9,9,9,9,9] [] [] (ih kb0 c1 ka kb kc kd ke kf L3 L.vars.length q ob (by rw [←hE];exact hK.1) (by rw [←hE,hK.2];exact hbt) (by rw [←hE,hK.2];simp) (by rw [←hE,hK.2,List.length_append];omega) ob) ?_))))))
  rintro _ _ (⟨wa3,wb3,wc3,wd3,we3,wf3,M'1,rfl,rfl,hp1⟩|⟨rfl,rfl,hp2⟩)
  ·refine dt (fuel:=0) 2 [10,11] [(8,.p c1 0),(9,.b true)] (de ?_)
   exact at_ (r2 [0,0,0,0,0,0,0,0,0,0,0,0,0,0] [.p c1 0,.b true] (.inl ⟨c1,wa3,wb3,wc3,wd3,we3,wf3,M'1,rfl,rfl,(by rw [hE];exact hp1)⟩) (lr _))
  refine dt (fuel:=0) 2 [10,11] [(8,.p c1 0),(9,.b false)] (de ?_)
  exact at_ (r2 [0,0,0,0,0,0,0] [.p c1 0,.b false] (.inr ⟨rfl,rfl,(by rw [hE];exact hp2)⟩) (AVLe.tup (.cons (AVLe.any _) (.cons (lr _) .nil))))
 have hE:=Z03p (ds:=n.decls) (L:=L) (num:=s.num) (args:=s.args) (i:=i) hc1
 refine ak (aD 12 (dtK (fuel:=6) 12 [0,1,2,3,4,5] (.n 73 (.p c1 0) (.n 74 (.p c1 0) (.n 75 (Zi n) (.n 77 (Zv s.kids) (.n 78 (.i i) .r))))) [15,14] [b1,b2] (dx 6 (Z0 (es:=Z19 s.kids) (hv:=none) (j:=(i:Int)) (sz:=2) (y:=Za kb0) kr om (Z1q hkb) rfl) (dtk (fuel:=3) 5 [7,8] (.n 80 (Za kb0) (.n 81 (.i L.vars.length) .r)) (do_ 9 (dc 9 [0,0,0,0,0,0,0] [] [] (ih kb0 c1 wa1 wb1 wc1 wd1 we1 wf1 L L.vars.length q ob (by rw [←hE];exact hK.1) (by rw [←hE,hK.2];exact hbt) (by rw [←hE,hK.2];simp) (by rw [←hE,hK.2,List.length_append];omega) ob) ?_))))))
 rintro _ _ (⟨wa4,wb4,wc4,wd4,we4,wf4,M'2,rfl,rfl,hp3⟩|⟨rfl,rfl,hp4⟩)
 ·refine dt (fuel:=0) 2 [10,11] [(8,.p c1 0),(9,.b true)] (de ?_)
  exact at_ (r2 [0,0,0,0,0,0,0,0,0,0,0,0,0,0] [.p c1 0,.b true] (.inl ⟨c1,wa4,wb4,wc4,wd4,we4,wf4,M'2,rfl,rfl,(by rw [hE];exact hp3)⟩) (lr _))
 refine dt (fuel:=0) 2 [10,11] [(8,.p c1 0),(9,.b false)] (de ?_)
 exact at_ (r2 [0,0,0,0,0,0,0] [.p c1 0,.b false] (.inr ⟨rfl,rfl,(by rw [hE];exact hp4)⟩) (AVLe.tup (.cons (AVLe.any _) (.cons (lr _) .nil))))
theorem Zt8 (b:Nat) (ga:Hd) (gb:Hd) (gc:Hd) (gd:Hd) (ge:Hd) (gf:Hd) (n:Normal) (s:Step) (L:Led) (ln:List Int) (q:Int) (hn:NOk n:=by exact ob) (hk:LOk n.decls L q:=by exact ob) (hf:SFacts n L.vars s:=by exact ob) (hop:s.op=7∨s.op=8:=by exact ob) (hb:L.vars.length+4*s.sz≤1000000000:=by exact ob) (hq:0≤q∧q+4*s.sz≤999999990:=by exact ob) (hln:ln.length≤4294967296:=by exact ob) (ih:∀(b2:Block) (c:Nat) (ra:Hd) (rb:Hd) (rc:Hd) (rd:Hd) (re:Hd) (rf:Hd) (M:Led) (mm:Nat) (p:Int),(b2.sz<s.sz)→(LOk n.decls M p)→(0≤Zf n M.vars b2)→(mm≤M.vars.length)→(M.vars.length+4*b2.sz≤1000000000)→(0≤p∧p+4*b2.sz≤999999990)→Z3 Tryz.prog 100 [.p c 0,Zi n,Za b2,.i mm] [.obj c [.h ra,.h rb,.h rc,.h rd,.h re,.h rf,nInt ln],rV ra M.vars,rV rb M.own,rV rc M.par,rV rd M.con,rV re M.fst,rV rf M.tok] (fun r h=>(∃(wa:Hd) (wb:Hd) (wc:Hd) (wd:Hd) (we:Hd) (wf:Hd) (M':Led),r=.b true∧h=[.obj c [.h wa,.h wb,.h wc,.h wd,.h we,.h wf,nInt ln],rV wa M'.vars,rV wb M'.own,rV wc M'.par,rV wd M'.con,rV we M'.fst,rV wf M'.tok]∧Z39 n ln M mm b2=some M')∨(r=.b false∧h=[]∧Z39 n ln M mm b2=none))):Z3 Tryz.prog 191 [.p b 0,Zi n,Z0g s] [.obj b [.h ga,.h gb,.h gc,.h gd,.h ge,.h gf,nInt ln],rV ga L.vars,rV gb L.own,rV gc L.par,rV gd L.con,rV ge L.fst,rV gf L.tok] (fun r h=>(∃(wa:Hd) (wb:Hd) (wc:Hd) (wd:Hd) (we:Hd) (wf:Hd) (L':Led),r=.b true∧h=[.obj b [.h wa,.h wb,.h wc,.h wd,.h we,.h wf,nInt ln],rV wa L'.vars,rV wb L'.own,rV wc L'.par,rV wd L'.con,rV we L'.fst,rV wf L'.tok]∧Z7f n ln L s=some L')∨(r=.b false∧h=[]∧Z7f n ln L s=none)):=by
 obtain ⟨e1,e2,e3,e4,e5⟩:=hk.len
 have hdk:=hn.decls
 have hkz:=Z5m s
 have haz:=Z86 s
 obtain ⟨hk1,hk2,hk3⟩:=hf.kids hop
 obtain ⟨kd,hkd⟩:=Z6 (xs:=s.kids) (j:=0) om
 obtain ⟨m0,hm0⟩:=Z6 (xs:=Zq n.decls s.op s.num) (j:=0) om
 obtain ⟨x,hxa⟩:=hf.one om
 have ha:s.args[0]? = some x:=by rw [hxa];rfl
 have hx:=hf.args x (by rw [hxa];simp)
 have hgx:=gI0 ha
 have hal:=(List.getElem?_eq_some_iff.1 ha).1
 refine enter Tryz.func191 kr (n:=88) kr kr (ar (iA (Zh n) ?_))
 intro b1
 refine iA (Z02 s) ?_
 intro b2
 refine ir 1 [(0,.p b 0),(4,.p b1 0),(5,.p b2 0)] (ie (aq (ar (Z24 [(0,.p b 0),(4,.p b1 0),(5,.p b2 0),(23,.b ((s.op==8)&&(!Z1m L ln x)))] [.obj b [.h ga,.h gb,.h gc,.h gd,.h ge,.h gf,nInt ln],rV ga L.vars,rV gb L.own,rV gc L.par,rV gd L.con,rV ge L.fst,rV gf L.tok,.obj b2 (Z02 s),.obj b1 (Zh n)] ?_ ?_))))
 ·refine iR 4 [(0,.p b 0),(4,.p b1 0),(5,.p b2 0),(15,.b (s.op==8))] [0] [b2] (ib (b:=(s.op==8)) 15 (fun hb1=>?_) (fun hb1=>?_))
  ·have hp1:s.op=8:=(beq_iff_eq).1 hb1
   refine irK 3 (.n 16 (.p b 0) (.n 18 (nInt s.args) (.w .z))) [0] [b2] (is_ (Z0 (es:=Z8 s.args) (hv:=none) (j:=0) (sz:=1) (y:=.i x) kr om (Z9 ha) rfl) (irk 1 (.n 20 (.i x) .r) (ic [2,2,2,2,2,2,2] (Zha b ga gb gc gd ge gf L ln x (hlk:=hk.len) (hd:=hk.down)) ?_)))
   rintro _ _ ⟨rfl,rfl⟩
   refine irk 2 (.n 23 (.b (!Z1m L ln x)) .r) (ie ?_)
   exact wk [0,0,0,0,0,0,0,0,0] (fw (fr (fc (x:=.b (!Z1m L ln x)) (lb (by simp only [hb1];rfl)) fl)))
  have hp2:¬(s.op=8):=Zd beq_iff_eq hb1
  refine irk 8 (.n 23 (.b false) (.d (.k (.k (.k .z))))) (ie ?_)
  exact wk [2,2,2,2,2,2,2,0,0] (fw (fr (fc (x:=.b false) (lb (by simp only [hb1];rfl)) fl)))
 refine ac ((s.op==8)&&(!Z1m L ln x)) (p:=(s.op=8)∧(¬(Z1m L ln x=true))) (Zj beq_iff_eq (Zc Iff.rfl)) (fun hc1=>?_) (fun hc1=>?_)
 ·refine ar (ir 1 [(6,.b false)] (ie ?_))
  exact at_ (r1 [] (.inr ⟨rfl,rfl,(by rw [Z7f,if_pos (by rw [hgx];exact hc1)])⟩))
 have hgo:=Zmb (n:=n) (ln:=ln) (L:=L) (s:=s) (by rw [hgx];exact hc1) hkd
 refine ak (ar (iR 3 [(0,.p b 0),(4,.p b1 0),(5,.p b2 0),(25,.p b 0),(26,Zi n),(27,Z0g s)] [8,7] [b1,b2] (ic [0,0,0,0,0,0,0] (Zww b ga gb gc gd ge gf n s L ln q 0 kd m0 (hkb:=hkd) (harm:=hm0) (hbt:=(hk3 0 kd m0 hkd hm0)) (ih:=ob)) ?_)))
 rintro _ _ (⟨c1,wa1,wb1,wc1,wd1,we1,wf1,L'1,rfl,rfl,hp3⟩|⟨rfl,rfl,hp4⟩)
 ·have hone:=hp3
  obtain ⟨l1,l2⟩:=Zwr hn hk hq.1 hf hop hkd hm0 (hk3 0 kd m0 hkd hm0) hone
  refine irk 5 (.n 7 (.p c1 0) (.n 8 (.b true) .r)) (ie (aq (ar (irk 2 (.n 32 (.b false) .r) (ie (ac0 (ak (aq (ar (irk 1 (.n 9 (.i 1) .r) (ie (ab 0 (al (fun m F h=>∃(k:Nat),(1≤k∧k≤s.kids.length)∧(Ze7 n ln L s.op s.num s.args L'1 (s.kids.drop k) k=Ze7 n ln L s.op s.num s.args L'1 (s.kids.drop 1) 1)∧F=[(0,.p b 0),(4,.p b1 0),(5,.p b2 0),(7,.p c1 0),(9,.i k)]∧h=[.obj c1 [.h wa1,.h wb1,.h wc1,.h wd1,.h we1,.h wf1,nInt ln],rV wa1 L'1.vars,rV wb1 L'1.own,rV wc1 L'1.par,rV wd1 L'1.con,rV we1 L'1.fst,rV wf1 L'1.tok,.obj b [.h ga,.h gb,.h gc,.h gd,.h ge,.h gf,nInt ln],rV ga L.vars,rV gb L.own,rV gc L.par,rV gd L.con,rV ge L.fst,rV gf L.tok,.obj b2 (Z02 s),.obj b1 (Zh n)]∧m=s.kids.length-k) _ _ _ ⟨1,ob,ob,rfl,rfl,rfl⟩ (wk [0,0,0,0,0,0,0,0,0,0,0,0,0,0,0,0] (fq (fc (x:=.i 1) li fl))) ?_)))))))))))))
  rintro m F h ⟨k,c0_0,c0_1,rfl,rfl,rfl⟩
  refine aq (ar (irK 3 (.n 33 (.i k) (.n 35 (Zv s.kids) .r)) [14] [b2] (iw (Z0f s.kids) (irk 1 (.n 37 (.b (decide ((k:Int)<(s.kids.length:Int)))) .r) (ie (ac (decide ((k:Int)<(s.kids.length:Int))) dq (fun hc2=>?_) (fun hc2=>?_)))))))
  ·obtain ⟨ke,hke⟩:=Z6 (xs:=s.kids) (j:=k) om
   obtain ⟨mk,hmk⟩:=Z6 (xs:=Zq n.decls s.op s.num) (j:=k) om
   have hcs:=Z8p (n:=n) (ln:=ln) (L:=L) (op:=s.op) (num:=s.num) (args:=s.args) (one:=L'1) hke
   refine ak (aq (ab 1 (ar (irK 4 (.n 41 (.p b 0) (.n 42 (Zi n) (.n 43 (Z0g s) (.n 44 (.i k) .r)))) [15,14] [b1,b2] (ic [7,7,7,7,7,7,7] (Zww b ga gb gc gd ge gf n s L ln q k ke mk (hkb:=hke) (harm:=hmk) (hbt:=(hk3 k ke mk hke hmk)) (ih:=ob)) ?_)))))
   rintro _ _ (⟨c2,wa2,wb2,wc2,wd2,we2,wf2,L'2,rfl,rfl,hp5⟩|⟨rfl,rfl,hp6⟩)
   ·have htwo:=hp5
    obtain ⟨l3,l4⟩:=Zwr hn hk hq.1 hf hop hke hmk (hk3 k ke mk hke hmk) htwo
    refine irk 5 (.n 10 (.p c2 0) (.n 11 (.b true) .r)) (ie (aD 26 (dtK (fuel:=15) 26 [0,1,2,3,4,5,6,7,8,9,10] (.n 50 (.b false) (.n 54 (.h wb1) (.n 58 (.h wb2) .r))) [14,0] [c1,c2] (do_ 11 (dCL 11 [16,2] [] [] [rV wb1 L'1.own,rV wb2 L'2.own] (Z9p L'1.own L'2.own) cl0 (gL (v:=wb1) 0 (gL (v:=wb2) 1 gN)) (Z1h (Z1h Z2j)) ?_)))))
    rintro _ _ ⟨rfl,rfl⟩
    refine Zca [(0,.p b 0),(4,.p b1 0),(5,.p b2 0),(7,.p c1 0),(9,.i k),(73,.b ((!(decide (L'1.own=L'2.own)))||(!(decide (L'1.tok=L'2.tok)))))] [rV wb1 L'1.own,rV wb2 L'2.own,.obj c2 [.h wa2,.h wb2,.h wc2,.h wd2,.h we2,.h wf2,nInt ln],rV wa2 L'2.vars,rV wc2 L'2.par,rV wd2 L'2.con,rV we2 L'2.fst,rV wf2 L'2.tok,.obj b [.h ga,.h gb,.h gc,.h gd,.h ge,.h gf,nInt ln],rV ga L.vars,rV gb L.own,rV gc L.par,rV gd L.con,rV ge L.fst,rV gf L.tok,.obj c1 [.h wa1,.h wb1,.h wc1,.h wd1,.h we1,.h wf1,nInt ln],rV wa1 L'1.vars,rV wc1 L'1.par,rV wd1 L'1.con,rV we1 L'1.fst,rV wf1 L'1.tok,.obj b2 (Z02 s),.obj b1 (Zh n)] ?_ ?_
    ·refine dt (fuel:=11) 14 [12,13,14] [(0,.p b 0),(4,.p b1 0),(5,.p b2 0),(7,.p c1 0),(9,.i k),(10,.p c2 0),(62,.b (!(decide (L'1.own=L'2.own))))] (db (b:=(!(decide (L'1.own=L'2.own)))) 62 (fun hb2=>?_) (fun hb2=>?_))
     ·have hp7:¬(L'1.own=L'2.own):=((Zc dq)).1 hb2
      refine dtk (fuel:=0) 11 [15,16,17,18,19,20,21,22,23,24,25] (.n 73 (.b true) (.d (.w (.k .z)))) (de ?_)
      exact wk [0,0,0,0,0,0,0,0,0,0,0,0,0,0,0,0,0,0,0,0,0,0,0] (fq (fr (fc (x:=.b true) (lb (by simp only [hb2];rfl)) fl)))
     have hp8:¬(¬(L'1.own=L'2.own)):=Zd (Zc dq) hb2
     refine dtK (fuel:=3) 11 [15,16,17,18,19,20,21,22] (.n 66 (.h wf1) (.n 70 (.h wf2) (.w (.k (.k .z))))) [15,2] [c1,c2] (do_ 23 (dCL 23 [20,7] [] [] [rV wf1 L'1.tok,rV wf2 L'2.tok] (Z9p L'1.tok L'2.tok) cl0 (gL (v:=wf1) 0 (gL (v:=wf2) 1 gN)) (Z1h (Z1h Z2j)) ?_))
     rintro _ _ ⟨rfl,rfl⟩
     refine dtk (fuel:=0) 2 [24,25] (.n 73 (.b (!(decide (L'1.tok=L'2.tok)))) .r) (de ?_)
     exact wk [2,2,2,2,2,2,2,1,1,1,1,1,1,1,1,1,1,1,1,1,0,0,0] (fq (fr (fc (x:=.b (!(decide (L'1.tok=L'2.tok)))) (lb (by simp only [hb2];rfl)) fl)))
    refine ac ((!(decide (L'1.own=L'2.own)))||(!(decide (L'1.tok=L'2.tok)))) (p:=(¬(L'1.own=L'2.own))∨(¬(L'1.tok=L'2.tok))) (Zg (Zc dq) (Zc dq)) (fun hc3=>?_) (fun hc3=>?_)
    ·refine ar (ir 1 [(6,.b false)] (ie ?_))
     exact at_ (r1 [] (.inr ⟨rfl,rfl,(by rw [hgo,hone];exact Zd0 (by rw [←c0_1,hcs,htwo];exact Zrq hc3))⟩))
    refine ak (az (ir 1 [(0,.p b 0),(4,.p b1 0),(5,.p b2 0),(7,.p c1 0),(38,.i k)] (ia (((k+1:Nat):Int)) (((k:Int))+(1)) (irk 1 (.n 9 (.i (k+1:Nat)) .r) (ie ?_)))))
    exact ⟨_,_,_,ob,⟨k+1,ob,(by rw [hcs,htwo,Zny hc3] at c0_1;exact c0_1),rfl,rfl,rfl⟩,(wk [15,15,0,14,14,14,14,7,7,7,7,7,7,7,7,7] (fq (fc (x:=.i (k+1:Nat)) li fl)))⟩
   have htwo:=hp6
   refine irk 5 (.n 11 (.b false) .r) (ie (aD 26 (dtk (fuel:=0) 26 [0,1,2,3,4,5,6,7,8,9,10,11,12,13,14,15,16,17,18,19,20,21,22,23,24,25] (.n 73 (.b true) .r) (de (ac1 (ar (ir 1 [(6,.b false)] (ie ?_))))))))
   exact at_ (r1 [] (.inr ⟨rfl,rfl,(by rw [hgo,hone];exact Zd0 (by rw [←c0_1,hcs,htwo];rfl))⟩))
  have hE:Ze7 n ln L s.op s.num s.args L'1 (s.kids.drop 1) 1=true:=by rw [←c0_1,Zt om,Ze7]
  refine ax 0 (ar (irK 7 (.n 78 (.h wb1) (.n 80 (.p b 1) .r)) [0] [c1] (iS 7 b 1 [.h wb1] [.h ga,.h gb,.h gc,.h gd,.h ge,.h gf,nInt ln] [.h ga,.h wb1,.h gc,.h gd,.h ge,.h gf,nInt ln] (ie (ar (iR 7 [(85,.h wf1),(87,.p b 5)] [1] [c1] (iS 0 b 5 [.h wf1] [.h ga,.h wb1,.h gc,.h gd,.h ge,.h gf,nInt ln] [.h ga,.h wb1,.h gc,.h gd,.h ge,.h wf1,nInt ln] (ie (ar (ir 1 [(6,.b true)] (ie ?_)))))))))))
  exact at_ (r1 [0,7,2,7,7,7,5] (.inl ⟨ga,wb1,gc,gd,ge,wf1,(Led.mk L.vars L'1.own L.par L.con L.fst L'1.tok),rfl,rfl,(by rw [hgo,hone];exact Znk hE)⟩) (eq:=(rc (rv (xs:=L.vars) ob (rv (xs:=L'1.own) ob (rv (xs:=L.par) ob (rv (xs:=L.con) ob (rv (xs:=L.fst) ob (rv (xs:=L'1.tok) ob rz)))))))))
 have hone:=hp4
 refine irk 5 (.n 8 (.b false) .r) (ie (aq (ar (irk 2 (.n 32 (.b true) .r) (ie (ac1 (ar (ir 1 [(6,.b false)] (ie ?_)))))))))
 exact at_ (r1 [] (.inr ⟨rfl,rfl,(by rw [hgo,hone];rfl)⟩))
theorem Zwx (b:Nat) (ga:Hd) (gb:Hd) (gc:Hd) (gd:Hd) (ge:Hd) (gf:Hd) (n:Normal) (s:Step) (L:Led) (ln:List Int) (q:Int) (hn:NOk n:=by exact ob) (hk:LOk n.decls L q:=by exact ob) (ht:0≤Z7 n L.vars s:=by exact ob) (hb:L.vars.length+4*s.sz≤1000000000:=by exact ob) (hq:0≤q∧q+4*s.sz≤999999990:=by exact ob) (hln:ln.length≤4294967296:=by exact ob) (ih:∀(b2:Block) (c:Nat) (ra:Hd) (rb:Hd) (rc:Hd) (rd:Hd) (re:Hd) (rf:Hd) (M:Led) (mm:Nat) (p:Int),(b2.sz<s.sz)→(LOk n.decls M p)→(0≤Zf n M.vars b2)→(mm≤M.vars.length)→(M.vars.length+4*b2.sz≤1000000000)→(0≤p∧p+4*b2.sz≤999999990)→Z3 Tryz.prog 100 [.p c 0,Zi n,Za b2,.i mm] [.obj c [.h ra,.h rb,.h rc,.h rd,.h re,.h rf,nInt ln],rV ra M.vars,rV rb M.own,rV rc M.par,rV rd M.con,rV re M.fst,rV rf M.tok] (fun r h=>(∃(wa:Hd) (wb:Hd) (wc:Hd) (wd:Hd) (we:Hd) (wf:Hd) (M':Led),r=.b true∧h=[.obj c [.h wa,.h wb,.h wc,.h wd,.h we,.h wf,nInt ln],rV wa M'.vars,rV wb M'.own,rV wc M'.par,rV wd M'.con,rV we M'.fst,rV wf M'.tok]∧Z39 n ln M mm b2=some M')∨(r=.b false∧h=[]∧Z39 n ln M mm b2=none))):Z3 Tryz.prog 149 [.p b 0,Zi n,Z0g s] [.obj b [.h ga,.h gb,.h gc,.h gd,.h ge,.h gf,nInt ln],rV ga L.vars,rV gb L.own,rV gc L.par,rV gd L.con,rV ge L.fst,rV gf L.tok] (fun r h=>(∃(wa:Hd) (wb:Hd) (wc:Hd) (wd:Hd) (we:Hd) (wf:Hd) (L':Led),r=.b true∧h=[.obj b [.h wa,.h wb,.h wc,.h wd,.h we,.h wf,nInt ln],rV wa L'.vars,rV wb L'.own,rV wc L'.par,rV wd L'.con,rV we L'.fst,rV wf L'.tok]∧Z8w n ln L s=some L')∨(r=.b false∧h=[]∧Z8w n ln L s=none)):=by
 obtain ⟨e1,e2,e3,e4,e5⟩:=hk.len
 have hdk:=hn.decls
 have hkz:=Z5m s
 have haz:=Z86 s
 have hf:=Z7b ht
 refine enter Tryz.func149 kr (n:=89) kr kr (ar (iA (Zh n) ?_))
 intro b1
 refine iA (Z02 s) ?_
 intro b2
 refine ir 1 [(0,.p b 0),(4,.p b1 0),(5,.p b2 0)] (ie (aD 8 (dtK (fuel:=2) 8 [0,1,2,3,4,5] (.n 9 (Zi n) (.n 13 (.h ga) (.n 14 (Z0g s) .r))) [1,2,0] [b1,b,b2] (do_ 6 (dCL 6 [3] [] [] [rV ga L.vars] (Zel n L.vars s ob ob) cl0 (gS (gL (v:=ga) 0 (gS gN))) (Z1h Z2j) ?_)))))
 rintro _ _ ⟨rfl,rfl⟩
 refine dtk (fuel:=0) 1 [7] (.n 7 (.i (Z7 n L.vars s)) .r) (de (ar (irk 1 .r (ie (aq (ar (irK 2 (.n 17 (.i s.op) .r) [1] [b2] (ie (ab 0 (ar (irk 2 (.n 22 (.b (s.op==14)) .r) (ie (ac (s.op==14) beq_iff_eq (fun hc1=>?_) (fun hc1=>?_))))))))))))))
 ·obtain ⟨x,hxa⟩:=hf.one om
  have ha:s.args[0]? = some x:=by rw [hxa];rfl
  have hx:=hf.args x (by rw [hxa];simp)
  have hgx:=gI0 ha
  have hal:=(List.getElem?_eq_some_iff.1 ha).1
  obtain ⟨xo,hxo⟩:=Z6 (xs:=L.own) (j:=x.toNat) om
  have hgo:=Z5a hxo
  have hob:=hk.bd xo (List.mem_of_getElem? hxo)
  have hon:=hk.nn xo (List.mem_of_getElem? hxo)
  refine ar (irK 3 (.n 24 (.p b 0) (.n 26 (nInt s.args) .r)) [1] [b2] (is_ (Z0 (es:=Z8 s.args) (hv:=none) (j:=0) (sz:=1) (y:=.i x) kr om (Z9 ha) rfl) (irk 1 (.n 28 (.i x) .r) (ic [3,0,2,2,2,2,2] (Zha b ga gb gc gd ge gf L ln x (hlk:=hk.len) (hd:=hk.down)) ?_))))
  rintro _ _ ⟨rfl,rfl⟩
  refine irk 1 (.n 8 (.b (Z1m L ln x)) .r) (ie (aE 21 (dtK (fuel:=15) 21 [0,1,2,3,4,5] (.n 33 (.h gb) (.n 35 (nInt s.args) .r)) [0,7] [b,b2] (dx 6 (Z0 (es:=Z8 s.args) (hv:=none) (j:=0) (sz:=1) (y:=.i x) kr om (Z9 ha) rfl) (dtK (fuel:=7) 14 [7,8,9,10,11,12,13] (.n 37 (.i x) (.n 41 (.h gb) (.n 43 (nInt s.args) .r))) [0,7] [b,b2] (dx 14 (Z0 (es:=Z8 s.args) (hv:=none) (j:=0) (sz:=1) (y:=.i x) kr om (Z9 ha) rfl) (dtk (fuel:=5) 6 [15] (.n 45 (.i x) .r) (dx 16 (vIdx 2 gb L.own x x.toNat (hq:=rfl)) (dx_ 17 (vGet 2 gb L.own x.toNat xo hxo) (da 18 ((xo+1)) ((xo)+(1)) (dx 19 (vIdx 2 gb L.own x x.toNat (hq:=rfl)) (do_ 20 (dVS 20 2 [] [] gb L.own x.toNat (xo+1) (de (aq (ar (irk 2 (.n 73 (.b (!Z1m L ln x)) .r) (ie (ac (!Z1m L ln x) (p:=¬(Z1m L ln x=true)) (Zc Iff.rfl) (fun hc2=>?_) (fun hc2=>?_))))))))))))))))))))
  ·have hP:=(Zxi (n:=n) (ln:=ln) (L:=L) hc1 hgx).trans (Z05r hc2)
   refine ar (ir 1 [(6,.b false)] (ie ?_))
   exact at_ (r1 [] (.inr ⟨rfl,rfl,(by rw [Z1u,hP];first|rfl|exact fin1 (by assumption)|exact fin2 (by assumption) (by assumption)|exact fin3 (by assumption))⟩))
  have hP:=(Zxi (n:=n) (ln:=ln) (L:=L) hc1 hgx).trans (Z034 hc2 hgo)
  obtain ⟨kx,hxv⟩:=Z80 hn hk hq.1 hf hP
  refine ak (aq (ar (irK 2 (.n 75 (.i s.op) .r) [7] [b2] (ic [] (Z1t s.op) ?_))))
  rintro _ _ ⟨rfl,rfl⟩
  refine Z24 [(0,.p b 0),(5,.p b2 0),(7,.i (Z7 n L.vars s)),(80,.b (Zx s.op&&((Z7 n L.vars s) != 0)))] [rV gb (L.own.set x.toNat (xo+1)),.obj b [.h ga,.h gb,.h gc,.h gd,.h ge,.h gf,nInt ln],rV ga L.vars,rV gc L.par,rV gd L.con,rV ge L.fst,rV gf L.tok,.obj b2 (Z02 s),.obj b1 (Zh n)] ?_ ?_
  ·refine ir 1 [(0,.p b 0),(5,.p b2 0),(7,.i (Z7 n L.vars s)),(77,.b (Zx s.op))] (ib (b:=Zx s.op) 77 (fun hb1=>?_) (fun hb1=>?_))
   ·have hp1:Zx s.op=true:=(Iff.rfl).1 hb1
    refine irk 3 (.n 80 (.b ((Z7 n L.vars s) != 0)) (.d (.k (.k (.k .z))))) (ie ?_)
    exact wk [0,0,0,0,0,0,0,0,0] (fw (fr (fc (x:=.b ((Z7 n L.vars s) != 0)) (lb (by simp only [hb1];rfl)) fl)))
   have hp2:¬(Zx s.op=true):=Zd Iff.rfl hb1
   refine irk 3 (.n 80 (.b false) (.d (.k (.k (.k .z))))) (ie ?_)
   exact wk [0,0,0,0,0,0,0,0,0] (fw (fr (fc (x:=.b false) (lb (by simp only [hb1];rfl)) fl)))
  refine ac (Zx s.op&&((Z7 n L.vars s) != 0)) (p:=(Zx s.op=true)∧((Z7 n L.vars s)≠0)) (Zj Iff.rfl bne_iff_ne) (fun hc3=>?_) (fun hc3=>?_)
  ·refine az (ir 2 [(81,.p b 0),(82,.i (Z7 n L.vars s))] (ic [1,1,0,0,0,0,0] (Z4r b ga gb gc gd ge gf (Led.mk L.vars (L.own.set x.toNat (xo+1)) L.par L.con L.fst L.tok) ln (Z7 n L.vars s) 1 (-1) (hlb:=(by rw [hxv];omega)) (hlk:=kx.len)) ?_))
   rintro _ _ ⟨wa1,wb1,wc1,wd1,we1,wf1,rfl⟩
   refine ie (ar (ir 1 [(6,.b true)] (ie ?_)))
   exact at_ (r1 [0,0,0,0,0,0,0] (.inl ⟨wa1,wb1,wc1,wd1,we1,wf1,((Led.mk L.vars (L.own.set x.toNat (xo+1)) L.par L.con L.fst L.tok).grow (Z7 n L.vars s) 1 (-1)),rfl,rfl,(by rw [Z1u,hP];first|rfl|exact fin1 (by assumption)|exact fin2 (by assumption) (by assumption)|exact fin3 (by assumption))⟩))
  refine ar (iR 2 [(0,.p b 0),(85,.i s.op)] [7] [b2] (ic [] (Z1t s.op) ?_))
  rintro _ _ ⟨rfl,rfl⟩
  refine ie (ac (Zx s.op) Iff.rfl (fun hc4=>?_) (fun hc4=>?_))
  ·refine az (ir 1 [(87,.p b 0)] (ic [1,1,0,0,0,0,0] (Z4r b ga gb gc gd ge gf (Led.mk L.vars (L.own.set x.toNat (xo+1)) L.par L.con L.fst L.tok) ln 0 0 (-1) (hlb:=(by rw [hxv];omega)) (hlk:=kx.len)) ?_))
   rintro _ _ ⟨wa2,wb2,wc2,wd2,we2,wf2,rfl⟩
   refine ie (ar (ir 1 [(6,.b true)] (ie ?_)))
   exact at_ (r1 [0,0,0,0,0,0,0] (.inl ⟨wa2,wb2,wc2,wd2,we2,wf2,((Led.mk L.vars (L.own.set x.toNat (xo+1)) L.par L.con L.fst L.tok).grow 0 0 (-1)),rfl,rfl,(by rw [Z1u,hP];first|rfl|exact fin1 (by assumption)|exact fin2 (by assumption) (by assumption)|exact fin3 (by assumption))⟩))
  refine ak (ar (ir 1 [(6,.b true)] (ie ?_)))
  exact at_ (r1 [1,1,0,0,0,0,0] (.inl ⟨ga,gb,gc,gd,ge,gf,(Led.mk L.vars (L.own.set x.toNat (xo+1)) L.par L.con L.fst L.tok),rfl,rfl,(by rw [Z1u,hP];first|rfl|exact fin1 (by assumption)|exact fin2 (by assumption) (by assumption)|exact fin3 (by assumption))⟩) (eq:=(rc (rv (xs:=L.vars) ob (rv (xs:=(L.own.set x.toNat (xo+1))) ob (rv (xs:=L.par) ob (rv (xs:=L.con) ob (rv (xs:=L.fst) ob (rv (xs:=L.tok) ob rz)))))))))
 refine ar (irk 2 (.n 50 (.b (s.op==15)) .r) (ie (ac (s.op==15) beq_iff_eq (fun hc5=>?_) (fun hc5=>?_))))
 ·obtain ⟨x,hxa⟩:=hf.one om
  have ha:s.args[0]? = some x:=by rw [hxa];rfl
  have hx:=hf.args x (by rw [hxa];simp)
  have hgx:=gI0 ha
  have hal:=(List.getElem?_eq_some_iff.1 ha).1
  refine az (irK 3 (.n 52 (.p b 0) (.n 54 (nInt s.args) .r)) [1] [b2] (is_ (Z0 (es:=Z8 s.args) (hv:=none) (j:=0) (sz:=1) (y:=.i x) kr om (Z9 ha) rfl) (irk 1 (.n 56 (.i x) .r) (ic [3,0,2,2,2,2,2] (Zg1 b ga gb gc gd ge gf L ln x (hlk:=hk.len) (hq:=(fun y hy=>⟨hk.nn y hy,by have:=hk.bd y hy;omega⟩))) ?_))))
  rintro _ _ (⟨wa3,wb3,wc3,wd3,we3,wf3,L'1,rfl,rfl,hp3⟩|⟨rfl,rfl,hp4⟩)
  ·have hP:=(Zxj (n:=n) (ln:=ln) (L:=L) hc5 hgx).trans (hp3)
   obtain ⟨kx,hxv⟩:=Z80 hn hk hq.1 hf hP
   refine irk 1 (.n 8 (.b true) .r) (ie (aq (ar (irk 2 (.n 73 (.b false) .r) (ie (ac0 (ak (aq (ar (irK 2 (.n 75 (.i s.op) .r) [7] [b2] (ic [] (Z1t s.op) ?_)))))))))))
   rintro _ _ ⟨rfl,rfl⟩
   refine Z24 [(0,.p b 0),(5,.p b2 0),(7,.i (Z7 n L.vars s)),(80,.b (Zx s.op&&((Z7 n L.vars s) != 0)))] [.obj b [.h wa3,.h wb3,.h wc3,.h wd3,.h we3,.h wf3,nInt ln],rV wa3 L'1.vars,rV wb3 L'1.own,rV wc3 L'1.par,rV wd3 L'1.con,rV we3 L'1.fst,rV wf3 L'1.tok,.obj b2 (Z02 s),.obj b1 (Zh n)] ?_ ?_
   ·refine ir 1 [(0,.p b 0),(5,.p b2 0),(7,.i (Z7 n L.vars s)),(77,.b (Zx s.op))] (ib (b:=Zx s.op) 77 (fun hb2=>?_) (fun hb2=>?_))
    ·have hp5:Zx s.op=true:=(Iff.rfl).1 hb2
     refine irk 3 (.n 80 (.b ((Z7 n L.vars s) != 0)) (.d (.k (.k (.k .z))))) (ie ?_)
     exact wk [0,0,0,0,0,0,0,0,0] (fw (fr (fc (x:=.b ((Z7 n L.vars s) != 0)) (lb (by simp only [hb2];rfl)) fl)))
    have hp6:¬(Zx s.op=true):=Zd Iff.rfl hb2
    refine irk 3 (.n 80 (.b false) (.d (.k (.k (.k .z))))) (ie ?_)
    exact wk [0,0,0,0,0,0,0,0,0] (fw (fr (fc (x:=.b false) (lb (by simp only [hb2];rfl)) fl)))
   refine ac (Zx s.op&&((Z7 n L.vars s) != 0)) (p:=(Zx s.op=true)∧((Z7 n L.vars s)≠0)) (Zj Iff.rfl bne_iff_ne) (fun hc6=>?_) (fun hc6=>?_)
   ·refine az (ir 2 [(81,.p b 0),(82,.i (Z7 n L.vars s))] (ic [0,0,0,0,0,0,0] (Z4r b wa3 wb3 wc3 wd3 we3 wf3 L'1 ln (Z7 n L.vars s) 1 (-1) (hlb:=(by rw [hxv];omega)) (hlk:=kx.len)) ?_))
    rintro _ _ ⟨wa4,wb4,wc4,wd4,we4,wf4,rfl⟩
    refine ie (ar (ir 1 [(6,.b true)] (ie ?_)))
    exact at_ (r1 [0,0,0,0,0,0,0] (.inl ⟨wa4,wb4,wc4,wd4,we4,wf4,(L'1.grow (Z7 n L.vars s) 1 (-1)),rfl,rfl,(by rw [Z1u,hP];first|rfl|exact fin1 (by assumption)|exact fin2 (by assumption) (by assumption)|exact fin3 (by assumption))⟩))
   refine ar (iR 2 [(0,.p b 0),(85,.i s.op)] [7] [b2] (ic [] (Z1t s.op) ?_))
   rintro _ _ ⟨rfl,rfl⟩
   refine ie (ac (Zx s.op) Iff.rfl (fun hc7=>?_) (fun hc7=>?_))
   ·refine az (ir 1 [(87,.p b 0)] (ic [0,0,0,0,0,0,0] (Z4r b wa3 wb3 wc3 wd3 we3 wf3 L'1 ln 0 0 (-1) (hlb:=(by rw [hxv];omega)) (hlk:=kx.len)) ?_))
    rintro _ _ ⟨wa5,wb5,wc5,wd5,we5,wf5,rfl⟩
    refine ie (ar (ir 1 [(6,.b true)] (ie ?_)))
    exact at_ (r1 [0,0,0,0,0,0,0] (.inl ⟨wa5,wb5,wc5,wd5,we5,wf5,(L'1.grow 0 0 (-1)),rfl,rfl,(by rw [Z1u,hP];first|rfl|exact fin1 (by assumption)|exact fin2 (by assumption) (by assumption)|exact fin3 (by assumption))⟩))
   refine ak (ar (ir 1 [(6,.b true)] (ie ?_)))
   exact at_ (r1 [0,0,0,0,0,0,0] (.inl ⟨wa3,wb3,wc3,wd3,we3,wf3,L'1,rfl,rfl,(by rw [Z1u,hP];first|rfl|exact fin1 (by assumption)|exact fin2 (by assumption) (by assumption)|exact fin3 (by assumption))⟩))
  have hP:=(Zxj (n:=n) (ln:=ln) (L:=L) hc5 hgx).trans (hp4)
  refine irk 1 (.n 8 (.b false) .r) (ie (aq (ar (irk 2 (.n 73 (.b true) .r) (ie (ac1 (ar (ir 1 [(6,.b false)] (ie ?_)))))))))
  exact at_ (r1 [] (.inr ⟨rfl,rfl,(by rw [Z1u,hP];first|rfl|exact fin1 (by assumption)|exact fin2 (by assumption) (by assumption)|exact fin3 (by assumption))⟩))
 refine aq (ar (irk 2 (.n 58 (.b (s.op==16)) .r) (ie (Z6a (fun F h=>F=[(0,.p b 0),(4,.p b1 0),(5,.p b2 0),(7,.i (Z7 n L.vars s)),(17,.i s.op),(58,.b ((s.op==16)||(s.op==17)))]∧h=[rV ga L.vars,.obj b2 (Z02 s),.obj b1 (Zh n),.obj b [.h ga,.h gb,.h gc,.h gd,.h ge,.h gf,nInt ln],rV gb L.own,rV gc L.par,rV gd L.con,rV ge L.fst,rV gf L.tok]) ?_ ?_))))
 ·refine ac (s.op==16) beq_iff_eq (fun hc8=>?_) (fun hc8=>?_)
  ·refine ak ?_
   exact ⟨[(0,.p b 0),(4,.p b1 0),(5,.p b2 0),(7,.i (Z7 n L.vars s)),(17,.i s.op),(58,.b ((s.op==16)||(s.op==17)))],[rV ga L.vars,.obj b2 (Z02 s),.obj b1 (Zh n),.obj b [.h ga,.h gb,.h gc,.h gd,.h ge,.h gf,nInt ln],rV gb L.own,rV gc L.par,rV gd L.con,rV ge L.fst,rV gf L.tok],⟨rfl,rfl⟩,(wk [0,0,0,0,0,0,0,0,0] (fq (fr (fc (x:=.b (s.op==16)) (lb (by first|rfl|(rw [if_pos hc8])|(rw [if_neg hc8])|(simp [hc8];done)|(rw [Bool.eq_iff_iff];simp [hc8];done)|omega)) fl))))⟩
  refine az (ir 2 [(0,.p b 0),(4,.p b1 0),(5,.p b2 0),(7,.i (Z7 n L.vars s)),(17,.i s.op),(58,.b (s.op==17))] (ie ?_))
  exact ⟨[(0,.p b 0),(4,.p b1 0),(5,.p b2 0),(7,.i (Z7 n L.vars s)),(17,.i s.op),(58,.b ((s.op==16)||(s.op==17)))],[rV ga L.vars,.obj b2 (Z02 s),.obj b1 (Zh n),.obj b [.h ga,.h gb,.h gc,.h gd,.h ge,.h gf,nInt ln],rV gb L.own,rV gc L.par,rV gd L.con,rV ge L.fst,rV gf L.tok],⟨rfl,rfl⟩,(wk [0,0,0,0,0,0,0,0,0] (fq (fr (fc (x:=.b (s.op==17)) (lb (by first|rfl|(rw [if_pos hc8])|(rw [if_neg hc8])|(simp [hc8];done)|(rw [Bool.eq_iff_iff];simp [hc8];done)|omega)) fl))))⟩
 rintro F h ⟨rfl,rfl⟩
 refine ac ((s.op==16)||(s.op==17)) (p:=(s.op=16)∨(s.op=17)) (Zg beq_iff_eq beq_iff_eq) (fun hc9=>?_) (fun hc9=>?_)
 ·obtain ⟨x,hxa⟩:=hf.one om
  have ha:s.args[0]? = some x:=by rw [hxa];rfl
  have hx:=hf.args x (by rw [hxa];simp)
  have hgx:=gI0 ha
  have hal:=(List.getElem?_eq_some_iff.1 ha).1
  refine az (iR 3 [(0,.p b 0),(5,.p b2 0),(7,.i (Z7 n L.vars s)),(61,.p b 0),(62,Zi n),(63,Z0g s)] [2,1] [b1,b2] (ic [3,0,2,2,2,2,2] (Z00l b ga gb gc gd ge gf n s L ln q x) ?_))
  rintro _ _ (⟨wa6,wb6,wc6,wd6,we6,wf6,L'2,rfl,rfl,hp7⟩|⟨rfl,rfl,hp8⟩)
  ·have hP:=(Zxk (n:=n) (ln:=ln) (L:=L) hc9 hgx).trans (hp7)
   obtain ⟨kx,hxv⟩:=Z80 hn hk hq.1 hf hP
   refine irk 1 (.n 8 (.b true) .r) (ie (aq (ar (irk 2 (.n 73 (.b false) .r) (ie (ac0 (ak (aq (ar (irK 2 (.n 75 (.i s.op) .r) [7] [b2] (ic [] (Z1t s.op) ?_)))))))))))
   rintro _ _ ⟨rfl,rfl⟩
   refine Z24 [(0,.p b 0),(5,.p b2 0),(7,.i (Z7 n L.vars s)),(80,.b (Zx s.op&&((Z7 n L.vars s) != 0)))] [.obj b [.h wa6,.h wb6,.h wc6,.h wd6,.h we6,.h wf6,nInt ln],rV wa6 L'2.vars,rV wb6 L'2.own,rV wc6 L'2.par,rV wd6 L'2.con,rV we6 L'2.fst,rV wf6 L'2.tok,.obj b2 (Z02 s),.obj b1 (Zh n)] ?_ ?_
   ·refine ir 1 [(0,.p b 0),(5,.p b2 0),(7,.i (Z7 n L.vars s)),(77,.b (Zx s.op))] (ib (b:=Zx s.op) 77 (fun hb3=>?_) (fun hb3=>?_))
    ·have hp9:Zx s.op=true:=(Iff.rfl).1 hb3
     refine irk 3 (.n 80 (.b ((Z7 n L.vars s) != 0)) (.d (.k (.k (.k .z))))) (ie ?_)
     exact wk [0,0,0,0,0,0,0,0,0] (fw (fr (fc (x:=.b ((Z7 n L.vars s) != 0)) (lb (by simp only [hb3];rfl)) fl)))
    have hp10:¬(Zx s.op=true):=Zd Iff.rfl hb3
    refine irk 3 (.n 80 (.b false) (.d (.k (.k (.k .z))))) (ie ?_)
    exact wk [0,0,0,0,0,0,0,0,0] (fw (fr (fc (x:=.b false) (lb (by simp only [hb3];rfl)) fl)))
   refine ac (Zx s.op&&((Z7 n L.vars s) != 0)) (p:=(Zx s.op=true)∧((Z7 n L.vars s)≠0)) (Zj Iff.rfl bne_iff_ne) (fun hc10=>?_) (fun hc10=>?_)
   ·refine az (ir 2 [(81,.p b 0),(82,.i (Z7 n L.vars s))] (ic [0,0,0,0,0,0,0] (Z4r b wa6 wb6 wc6 wd6 we6 wf6 L'2 ln (Z7 n L.vars s) 1 (-1) (hlb:=(by rw [hxv];omega)) (hlk:=kx.len)) ?_))
    rintro _ _ ⟨wa7,wb7,wc7,wd7,we7,wf7,rfl⟩
    refine ie (ar (ir 1 [(6,.b true)] (ie ?_)))
    exact at_ (r1 [0,0,0,0,0,0,0] (.inl ⟨wa7,wb7,wc7,wd7,we7,wf7,(L'2.grow (Z7 n L.vars s) 1 (-1)),rfl,rfl,(by rw [Z1u,hP];first|rfl|exact fin1 (by assumption)|exact fin2 (by assumption) (by assumption)|exact fin3 (by assumption))⟩))
   refine ar (iR 2 [(0,.p b 0),(85,.i s.op)] [7] [b2] (ic [] (Z1t s.op) ?_))
   rintro _ _ ⟨rfl,rfl⟩
   refine ie (ac (Zx s.op) Iff.rfl (fun hc11=>?_) (fun hc11=>?_))
   ·refine az (ir 1 [(87,.p b 0)] (ic [0,0,0,0,0,0,0] (Z4r b wa6 wb6 wc6 wd6 we6 wf6 L'2 ln 0 0 (-1) (hlb:=(by rw [hxv];omega)) (hlk:=kx.len)) ?_))
    rintro _ _ ⟨wa8,wb8,wc8,wd8,we8,wf8,rfl⟩
    refine ie (ar (ir 1 [(6,.b true)] (ie ?_)))
    exact at_ (r1 [0,0,0,0,0,0,0] (.inl ⟨wa8,wb8,wc8,wd8,we8,wf8,(L'2.grow 0 0 (-1)),rfl,rfl,(by rw [Z1u,hP];first|rfl|exact fin1 (by assumption)|exact fin2 (by assumption) (by assumption)|exact fin3 (by assumption))⟩))
   refine ak (ar (ir 1 [(6,.b true)] (ie ?_)))
   exact at_ (r1 [0,0,0,0,0,0,0] (.inl ⟨wa6,wb6,wc6,wd6,we6,wf6,L'2,rfl,rfl,(by rw [Z1u,hP];first|rfl|exact fin1 (by assumption)|exact fin2 (by assumption) (by assumption)|exact fin3 (by assumption))⟩))
  have hP:=(Zxk (n:=n) (ln:=ln) (L:=L) hc9 hgx).trans (hp8)
  refine irk 1 (.n 8 (.b false) .r) (ie (aq (ar (irk 2 (.n 73 (.b true) .r) (ie (ac1 (ar (ir 1 [(6,.b false)] (ie ?_)))))))))
  exact at_ (r1 [] (.inr ⟨rfl,rfl,(by rw [Z1u,hP];first|rfl|exact fin1 (by assumption)|exact fin2 (by assumption) (by assumption)|exact fin3 (by assumption))⟩))
 refine aq (ar (ir 2 [(0,.p b 0),(4,.p b1 0),(5,.p b2 0),(7,.i (Z7 n L.vars s)),(17,.i s.op),(65,.b (s.op==7))] (ie (Z6a (fun F h=>F=[(0,.p b 0),(4,.p b1 0),(5,.p b2 0),(7,.i (Z7 n L.vars s)),(65,.b ((s.op==7)||(s.op==8)))]∧h=[rV ga L.vars,.obj b2 (Z02 s),.obj b1 (Zh n),.obj b [.h ga,.h gb,.h gc,.h gd,.h ge,.h gf,nInt ln],rV gb L.own,rV gc L.par,rV gd L.con,rV ge L.fst,rV gf L.tok]) ?_ ?_))))
 ·refine ac (s.op==7) beq_iff_eq (fun hc12=>?_) (fun hc12=>?_)
  ·refine ak ?_
   exact ⟨[(0,.p b 0),(4,.p b1 0),(5,.p b2 0),(7,.i (Z7 n L.vars s)),(65,.b ((s.op==7)||(s.op==8)))],[rV ga L.vars,.obj b2 (Z02 s),.obj b1 (Zh n),.obj b [.h ga,.h gb,.h gc,.h gd,.h ge,.h gf,nInt ln],rV gb L.own,rV gc L.par,rV gd L.con,rV ge L.fst,rV gf L.tok],⟨rfl,rfl⟩,(wk [0,0,0,0,0,0,0,0,0] (fq (fc (x:=.b (s.op==7)) (lb (by first|rfl|(rw [if_pos hc12])|(rw [if_neg hc12])|(simp [hc12];done)|(rw [Bool.eq_iff_iff];simp [hc12];done)|omega)) fl)))⟩
  refine az (ir 2 [(0,.p b 0),(4,.p b1 0),(5,.p b2 0),(7,.i (Z7 n L.vars s)),(65,.b (s.op==8))] (ie ?_))
  exact ⟨[(0,.p b 0),(4,.p b1 0),(5,.p b2 0),(7,.i (Z7 n L.vars s)),(65,.b ((s.op==7)||(s.op==8)))],[rV ga L.vars,.obj b2 (Z02 s),.obj b1 (Zh n),.obj b [.h ga,.h gb,.h gc,.h gd,.h ge,.h gf,nInt ln],rV gb L.own,rV gc L.par,rV gd L.con,rV ge L.fst,rV gf L.tok],⟨rfl,rfl⟩,(wk [0,0,0,0,0,0,0,0,0] (fq (fc (x:=.b (s.op==8)) (lb (by first|rfl|(rw [if_pos hc12])|(rw [if_neg hc12])|(simp [hc12];done)|(rw [Bool.eq_iff_iff];simp [hc12];done)|omega)) fl)))⟩
 rintro F h ⟨rfl,rfl⟩
 refine ac ((s.op==7)||(s.op==8)) (p:=(s.op=7)∨(s.op=8)) (Zg beq_iff_eq beq_iff_eq) (fun hc13=>?_) (fun hc13=>?_)
 ·refine az (iR 3 [(0,.p b 0),(5,.p b2 0),(7,.i (Z7 n L.vars s)),(68,.p b 0),(69,Zi n),(70,Z0g s)] [2,1] [b1,b2] (ic [3,0,2,2,2,2,2] (Zt8 b ga gb gc gd ge gf n s L ln q (ih:=ob)) ?_))
  rintro _ _ (⟨wa9,wb9,wc9,wd9,we9,wf9,L'3,rfl,rfl,hp11⟩|⟨rfl,rfl,hp12⟩)
  ·have hP:=(Z00y (n:=n) (ln:=ln) (L:=L) hc13).trans (hp11)
   obtain ⟨kx,hxv⟩:=Z80 hn hk hq.1 hf hP
   refine irk 1 (.n 8 (.b true) .r) (ie (aq (ar (irk 2 (.n 73 (.b false) .r) (ie (ac0 (ak (aq (ar (irK 2 (.n 75 (.i s.op) .r) [7] [b2] (ic [] (Z1t s.op) ?_)))))))))))
   rintro _ _ ⟨rfl,rfl⟩
   refine Z24 [(0,.p b 0),(5,.p b2 0),(7,.i (Z7 n L.vars s)),(80,.b (Zx s.op&&((Z7 n L.vars s) != 0)))] [.obj b [.h wa9,.h wb9,.h wc9,.h wd9,.h we9,.h wf9,nInt ln],rV wa9 L'3.vars,rV wb9 L'3.own,rV wc9 L'3.par,rV wd9 L'3.con,rV we9 L'3.fst,rV wf9 L'3.tok,.obj b2 (Z02 s),.obj b1 (Zh n)] ?_ ?_
   ·refine ir 1 [(0,.p b 0),(5,.p b2 0),(7,.i (Z7 n L.vars s)),(77,.b (Zx s.op))] (ib (b:=Zx s.op) 77 (fun hb4=>?_) (fun hb4=>?_))
    ·have hp13:Zx s.op=true:=(Iff.rfl).1 hb4
     refine irk 3 (.n 80 (.b ((Z7 n L.vars s) != 0)) (.d (.k (.k (.k .z))))) (ie ?_)
     exact wk [0,0,0,0,0,0,0,0,0] (fw (fr (fc (x:=.b ((Z7 n L.vars s) != 0)) (lb (by simp only [hb4];rfl)) fl)))
    have hp14:¬(Zx s.op=true):=Zd Iff.rfl hb4
    refine irk 3 (.n 80 (.b false) (.d (.k (.k (.k .z))))) (ie ?_)
    exact wk [0,0,0,0,0,0,0,0,0] (fw (fr (fc (x:=.b false) (lb (by simp only [hb4];rfl)) fl)))
   refine ac (Zx s.op&&((Z7 n L.vars s) != 0)) (p:=(Zx s.op=true)∧((Z7 n L.vars s)≠0)) (Zj Iff.rfl bne_iff_ne) (fun hc14=>?_) (fun hc14=>?_)
   ·refine az (ir 2 [(81,.p b 0),(82,.i (Z7 n L.vars s))] (ic [0,0,0,0,0,0,0] (Z4r b wa9 wb9 wc9 wd9 we9 wf9 L'3 ln (Z7 n L.vars s) 1 (-1) (hlb:=(by rw [hxv];omega)) (hlk:=kx.len)) ?_))
    rintro _ _ ⟨wa10,wb10,wc10,wd10,we10,wf10,rfl⟩
    refine ie (ar (ir 1 [(6,.b true)] (ie ?_)))
    exact at_ (r1 [0,0,0,0,0,0,0] (.inl ⟨wa10,wb10,wc10,wd10,we10,wf10,(L'3.grow (Z7 n L.vars s) 1 (-1)),rfl,rfl,(by rw [Z1u,hP];first|rfl|exact fin1 (by assumption)|exact fin2 (by assumption) (by assumption)|exact fin3 (by assumption))⟩))
   refine ar (iR 2 [(0,.p b 0),(85,.i s.op)] [7] [b2] (ic [] (Z1t s.op) ?_))
   rintro _ _ ⟨rfl,rfl⟩
   refine ie (ac (Zx s.op) Iff.rfl (fun hc15=>?_) (fun hc15=>?_))
   ·refine az (ir 1 [(87,.p b 0)] (ic [0,0,0,0,0,0,0] (Z4r b wa9 wb9 wc9 wd9 we9 wf9 L'3 ln 0 0 (-1) (hlb:=(by rw [hxv];omega)) (hlk:=kx.len)) ?_))
    rintro _ _ ⟨wa11,wb11,wc11,wd11,we11,wf11,rfl⟩
    refine ie (ar (ir 1 [(6,.b true)] (ie ?_)))
    exact at_ (r1 [0,0,0,0,0,0,0] (.inl ⟨wa11,wb11,wc11,wd11,we11,wf11,(L'3.grow 0 0 (-1)),rfl,rfl,(by rw [Z1u,hP];first|rfl|exact fin1 (by assumption)|exact fin2 (by assumption) (by assumption)|exact fin3 (by assumption))⟩))
   refine ak (ar (ir 1 [(6,.b true)] (ie ?_)))
   exact at_ (r1 [0,0,0,0,0,0,0] (.inl ⟨wa9,wb9,wc9,wd9,we9,wf9,L'3,rfl,rfl,(by rw [Z1u,hP];first|rfl|exact fin1 (by assumption)|exact fin2 (by assumption) (by assumption)|exact fin3 (by assumption))⟩))
  have hP:=(Z00y (n:=n) (ln:=ln) (L:=L) hc13).trans (hp12)
  refine irk 1 (.n 8 (.b false) .r) (ie (aq (ar (irk 2 (.n 73 (.b true) .r) (ie (ac1 (ar (ir 1 [(6,.b false)] (ie ?_)))))))))
  exact at_ (r1 [] (.inr ⟨rfl,rfl,(by rw [Z1u,hP];first|rfl|exact fin1 (by assumption)|exact fin2 (by assumption) (by assumption)|exact fin3 (by assumption))⟩))
 refine az (iR 3 [(0,.p b 0),(5,.p b2 0),(7,.i (Z7 n L.vars s)),(18,.p b 0),(19,Zi n),(20,Z0g s)] [2,1] [b1,b2] (ic [3,0,2,2,2,2,2] (Znd b ga gb gc gd ge gf n s L ln q (hnum:=hf.num) (hargs:=hf.args) (hinto:=(fun q=>(hf.into om).2))) ?_))
 rintro _ _ (⟨wa12,wb12,wc12,wd12,we12,wf12,L'4,rfl,rfl,hp15⟩|⟨rfl,rfl,hp16⟩)
 ·have hP:=(Z066 (n:=n) (ln:=ln) (L:=L) hc1 hc5 hc9 hc13).trans (hp15)
  obtain ⟨kx,hxv⟩:=Z80 hn hk hq.1 hf hP
  refine irk 1 (.n 8 (.b true) .r) (ie (aq (ar (irk 2 (.n 73 (.b false) .r) (ie (ac0 (ak (aq (ar (irK 2 (.n 75 (.i s.op) .r) [7] [b2] (ic [] (Z1t s.op) ?_)))))))))))
  rintro _ _ ⟨rfl,rfl⟩
  refine Z24 [(0,.p b 0),(5,.p b2 0),(7,.i (Z7 n L.vars s)),(80,.b (Zx s.op&&((Z7 n L.vars s) != 0)))] [.obj b [.h wa12,.h wb12,.h wc12,.h wd12,.h we12,.h wf12,nInt ln],rV wa12 L'4.vars,rV wb12 L'4.own,rV wc12 L'4.par,rV wd12 L'4.con,rV we12 L'4.fst,rV wf12 L'4.tok,.obj b2 (Z02 s),.obj b1 (Zh n)] ?_ ?_
  ·refine ir 1 [(0,.p b 0),(5,.p b2 0),(7,.i (Z7 n L.vars s)),(77,.b (Zx s.op))] (ib (b:=Zx s.op) 77 (fun hb5=>?_) (fun hb5=>?_))
   ·have hp17:Zx s.op=true:=(Iff.rfl).1 hb5
    refine irk 3 (.n 80 (.b ((Z7 n L.vars s) != 0)) (.d (.k (.k (.k .z))))) (ie ?_)
    exact wk [0,0,0,0,0,0,0,0,0] (fw (fr (fc (x:=.b ((Z7 n L.vars s) != 0)) (lb (by simp only [hb5];rfl)) fl)))
   have hp18:¬(Zx s.op=true):=Zd Iff.rfl hb5
   refine irk 3 (.n 80 (.b false) (.d (.k (.k (.k .z))))) (ie ?_)
   exact wk [0,0,0,0,0,0,0,0,0] (fw (fr (fc (x:=.b false) (lb (by simp only [hb5];rfl)) fl)))
  refine ac (Zx s.op&&((Z7 n L.vars s) != 0)) (p:=(Zx s.op=true)∧((Z7 n L.vars s)≠0)) (Zj Iff.rfl bne_iff_ne) (fun hc16=>?_) (fun hc16=>?_)
  ·refine az (ir 2 [(81,.p b 0),(82,.i (Z7 n L.vars s))] (ic [0,0,0,0,0,0,0] (Z4r b wa12 wb12 wc12 wd12 we12 wf12 L'4 ln (Z7 n L.vars s) 1 (-1) (hlb:=(by rw [hxv];omega)) (hlk:=kx.len)) ?_))
   rintro _ _ ⟨wa13,wb13,wc13,wd13,we13,wf13,rfl⟩
   refine ie (ar (ir 1 [(6,.b true)] (ie ?_)))
   exact at_ (r1 [0,0,0,0,0,0,0] (.inl ⟨wa13,wb13,wc13,wd13,we13,wf13,(L'4.grow (Z7 n L.vars s) 1 (-1)),rfl,rfl,(by rw [Z1u,hP];first|rfl|exact fin1 (by assumption)|exact fin2 (by assumption) (by assumption)|exact fin3 (by assumption))⟩))
  refine ar (iR 2 [(0,.p b 0),(85,.i s.op)] [7] [b2] (ic [] (Z1t s.op) ?_))
  rintro _ _ ⟨rfl,rfl⟩
  refine ie (ac (Zx s.op) Iff.rfl (fun hc17=>?_) (fun hc17=>?_))
  ·refine az (ir 1 [(87,.p b 0)] (ic [0,0,0,0,0,0,0] (Z4r b wa12 wb12 wc12 wd12 we12 wf12 L'4 ln 0 0 (-1) (hlb:=(by rw [hxv];omega)) (hlk:=kx.len)) ?_))
   rintro _ _ ⟨wa14,wb14,wc14,wd14,we14,wf14,rfl⟩
   refine ie (ar (ir 1 [(6,.b true)] (ie ?_)))
   exact at_ (r1 [0,0,0,0,0,0,0] (.inl ⟨wa14,wb14,wc14,wd14,we14,wf14,(L'4.grow 0 0 (-1)),rfl,rfl,(by rw [Z1u,hP];first|rfl|exact fin1 (by assumption)|exact fin2 (by assumption) (by assumption)|exact fin3 (by assumption))⟩))
  refine ak (ar (ir 1 [(6,.b true)] (ie ?_)))
  exact at_ (r1 [0,0,0,0,0,0,0] (.inl ⟨wa12,wb12,wc12,wd12,we12,wf12,L'4,rfl,rfl,(by rw [Z1u,hP];first|rfl|exact fin1 (by assumption)|exact fin2 (by assumption) (by assumption)|exact fin3 (by assumption))⟩))
 have hP:=(Z066 (n:=n) (ln:=ln) (L:=L) hc1 hc5 hc9 hc13).trans (hp16)
 refine irk 1 (.n 8 (.b false) .r) (ie (aq (ar (irk 2 (.n 73 (.b true) .r) (ie (ac1 (ar (ir 1 [(6,.b false)] (ie ?_)))))))))
 exact at_ (r1 [] (.inr ⟨rfl,rfl,(by rw [Z1u,hP];first|rfl|exact fin1 (by assumption)|exact fin2 (by assumption) (by assumption)|exact fin3 (by assumption))⟩))
theorem Zt7 (c:Nat) (ga:Hd) (gb:Hd) (gc:Hd) (gd:Hd) (ge:Hd) (gf:Hd) (n:Normal) (b:Block) (L:Led) (ln:List Int) (q:Int) (mm:Nat) (hn:NOk n) (hk:LOk n.decls L q) (ht:0≤Zf n L.vars b) (hm:mm≤L.vars.length) (hb:L.vars.length+4*b.sz≤1000000000) (hq:0≤q∧q+4*b.sz≤999999990) (hln:ln.length≤4294967296) (ih:∀(s2:Step) (c:Nat) (ra:Hd) (rb:Hd) (rc:Hd) (rd:Hd) (re:Hd) (rf:Hd) (M:Led) (p:Int),(s2.sz<b.sz)→(LOk n.decls M p)→(0≤Z7 n M.vars s2)→(M.vars.length+4*s2.sz≤1000000000)→(0≤p∧p+4*s2.sz≤999999990)→Z3 Tryz.prog 149 [.p c 0,Zi n,Z0g s2] [.obj c [.h ra,.h rb,.h rc,.h rd,.h re,.h rf,nInt ln],rV ra M.vars,rV rb M.own,rV rc M.par,rV rd M.con,rV re M.fst,rV rf M.tok] (fun r h=>(∃(wa:Hd) (wb:Hd) (wc:Hd) (wd:Hd) (we:Hd) (wf:Hd) (M':Led),r=.b true∧h=[.obj c [.h wa,.h wb,.h wc,.h wd,.h we,.h wf,nInt ln],rV wa M'.vars,rV wb M'.own,rV wc M'.par,rV wd M'.con,rV we M'.fst,rV wf M'.tok]∧Z8w n ln M s2=some M')∨(r=.b false∧h=[]∧Z8w n ln M s2=none))):Z3 Tryz.prog 100 [.p c 0,Zi n,Za b,.i mm] [.obj c [.h ga,.h gb,.h gc,.h gd,.h ge,.h gf,nInt ln],rV ga L.vars,rV gb L.own,rV gc L.par,rV gd L.con,rV ge L.fst,rV gf L.tok] (fun r h=>(∃(wa:Hd) (wb:Hd) (wc:Hd) (wd:Hd) (we:Hd) (wf:Hd) (L':Led),r=.b true∧h=[.obj c [.h wa,.h wb,.h wc,.h wd,.h we,.h wf,nInt ln],rV wa L'.vars,rV wb L'.own,rV wc L'.par,rV wd L'.con,rV we L'.fst,rV wf L'.tok]∧Z39 n ln L mm b=some L')∨(r=.b false∧h=[]∧Z39 n ln L mm b=none)):=by
 have hbz:=b.sz_eq
 obtain ⟨vs,rt,hvs,hres,hrt⟩:=Z7e ht
 have hri:=Z4y hres
 have hsz:=Z4d b
 refine enter Tryz.func100 kr (n:=45) kr kr (ar (iA (Zh n) ?_))
 intro b1
 refine iA (Z03 b) ?_
 intro b2
 refine ir 1 [(0,.p c 0),(3,.i mm),(5,.p b1 0),(6,.p b2 0)] (ie (aq (ar (irk 1 (.n 9 (.i 0) .r) (ie (ab 0 (al (fun m F h=>∃(k:Nat) (q2:Int) (L2:Led) (ka:Hd) (kb:Hd) (kc:Hd) (kd:Hd) (ke:Hd) (kf:Hd),(k≤b.steps.length)∧(LOk n.decls L2 q2)∧(0≤q2∧q2+4*ssz (b.steps.drop k)≤999999990)∧(L2.vars.length+4*ssz (b.steps.drop k)≤1000000000)∧(Z10 n (b.steps.drop k) L2.vars=some vs)∧(Z3c n ln L2 (b.steps.drop k)=Z3c n ln L b.steps)∧(L.vars.length≤L2.vars.length)∧F=[(0,.p c 0),(3,.i mm),(5,.p b1 0),(6,.p b2 0),(9,.i k)]∧h=[.obj b2 (Z03 b),.obj b1 (Zh n),.obj c [.h ka,.h kb,.h kc,.h kd,.h ke,.h kf,nInt ln],rV ka L2.vars,rV kb L2.own,rV kc L2.par,rV kd L2.con,rV ke L2.fst,rV kf L2.tok]∧m=b.steps.length-k) _ _ _ ⟨0,q,L,ga,gb,gc,gd,ge,gf,ob,hk,(by rw [List.drop_zero];omega),(by rw [List.drop_zero];omega),hvs,rfl,om,rfl,rfl,rfl⟩ (wk [0,0,0,0,0,0,0,0,0] (fq (fc (x:=.i 0) li fl))) ?_)))))))
 rintro m F h ⟨k,q2,L2,ka,kb,kc,kd,ke,kf,c0_0,c0_1,c0_2,c0_3,c0_4,c0_5,c0_6,rfl,rfl,rfl⟩
 refine aq (ar (irK 3 (.n 10 (.i k) (.n 12 (Z0b b.steps) .r)) [0] [b2] (iw (Z0l b.steps) (irk 1 (.n 14 (.b (decide ((k:Int)<(b.steps.length:Int)))) .r) (ie (ac (decide ((k:Int)<(b.steps.length:Int))) dq (fun hc1=>?_) (fun hc1=>?_)))))))
 ·obtain ⟨s1,hs1⟩:=Z6 (xs:=b.steps) (j:=k) om
  have hss:=Zhx hs1
  have hdr:=Z5 hs1
  have hz:ssz (b.steps.drop k)=s1.sz+ssz (b.steps.drop (k+1)):=by rw [hdr,ssz]
  rw [hdr] at c0_4 c0_5
  obtain ⟨g1,g2⟩:=Z8x c0_4
  refine ak (aq (ab 1 (aD 9 (dtK (fuel:=4) 9 [0,1,2,3,4] (.n 17 (.p c 0) (.n 18 (Zi n) (.n 20 (Z0b b.steps) (.n 21 (.i k) .r)))) [1,0] [b1,b2] (dx 5 (Z0 (es:=Zo b.steps) (hv:=none) (j:=(k:Int)) (sz:=5) (y:=Z0g s1) kr om (Z0y hs1) rfl) (dtk (fuel:=2) 3 [6] (.n 23 (Z0g s1) .r) (do_ 7 (dc 7 [2,2,2,2,2,2,2] [] [] (ih s1 c ka kb kc kd ke kf L2 q2 ob c0_1 g1 om om) ?_))))))))
  rintro _ _ (⟨wa1,wb1,wc1,wd1,we1,wf1,M'1,rfl,rfl,hp1⟩|⟨rfl,rfl,hp2⟩)
  ·have hP:=hp1
   have kx:=Zlp hn c0_1 c0_2.1 g1 hP
   refine dtk (fuel:=0) 1 [8] (.n 25 (.b false) .r) (de (ac0 (ak (az (irk 1 (.n 15 (.i k) .r) (ia (((k+1:Nat):Int)) (((k:Int))+(1)) (ir 1 [(0,.p c 0),(3,.i mm),(5,.p b1 0),(6,.p b2 0),(9,.i (k+1:Nat))] (ie ?_))))))))
   exact ⟨_,_,_,ob,⟨k+1,(q2+4*s1.sz),M'1,wa1,wb1,wc1,wd1,we1,wf1,ob,kx.1,om,(by rw [kx.2];have:=Za7 n L2.vars s1;omega),(by rw [kx.2];exact g2),(by rw [←c0_5,Z3c,hP];rfl),(by rw [kx.2];have:=Za7 n L2.vars s1;omega),rfl,rfl,rfl⟩,(wk [7,7,0,0,0,0,0,0,0] (fq (fc (x:=.i (k+1:Nat)) li fl)))⟩
  have hP:=hp2
  refine dtk (fuel:=0) 1 [8] (.n 25 (.b true) .r) (de (ac1 (ar (ir 1 [(8,.b false)] (ie ?_)))))
  exact at_ (r1 [] (.inr ⟨rfl,rfl,(by rw [Z4e,←c0_5,Z3c,hP];rfl)⟩))
 rw [Zt om] at c0_4 c0_5
 have hvv:L2.vars=vs:=by rw [Z10] at c0_4;exact Option.some.inj c0_4
 have hB:Z39 n ln L mm b=endL mm b.result L2:=by rw [Z4e,←c0_5,Z3c];rfl
 obtain ⟨xr,hxr⟩:=Z6 (xs:=L2.vars) (j:=b.result.toNat) (by rw [hvv];omega)
 have hgr:=Z5a hxr
 have hrl:0≤b.result∧b.result<L2.vars.length:=by rw [hvv];omega
 rw [Z10] at c0_4
 refine ax 0 (aq (aD 16 (dtK (fuel:=10) 16 [0,1,2,3,4,5] (.n 29 (.h ka) (.n 31 (.i b.result) .r)) [2,0] [c,b2] (dx 6 (vIdx 3 ka L2.vars b.result b.result.toNat (hq:=rfl)) (dx_ 7 (vGet 3 ka L2.vars b.result.toNat xr hxr) (dtk (fuel:=6) 8 [8,9] (.n 35 (.b (xr != 0)) .r) (db (b:=(xr != 0)) 35 (fun hb1=>?_) (fun hb1=>?_))))))))
 ·have hp3:xr≠0:=(bne_iff_ne).1 hb1
  refine dtK (fuel:=3) 6 [10,11,12] (.n 36 (.p c 0) (.n 38 (.i b.result) (.k (.d .r)))) [0] [b2] (do_ 13 (dc 13 [2,2,2,2,2,2,2] [] [] (Zg1 c ka kb kc kd ke kf L2 ln b.result (hlk:=c0_1.len) (hq:=(fun y hy=>⟨c0_1.nn y hy,by have:=c0_1.bd y hy;omega⟩))) ?_))
  rintro _ _ (⟨wa2,wb2,wc2,wd2,we2,wf2,L'1,rfl,rfl,hp4⟩|⟨rfl,rfl,hp5⟩)
  ·have hE:=hB.trans (Z036 hgr (by assumption) hp4)
   have kx:=c0_1.take hp4
   have hxv:L'1.vars.length=L2.vars.length:=by rw [(Z35 hp4).2.1]
   refine dtk (fuel:=0) 2 [14,15] (.n 41 (.b false) .r) (de (ac0 (ak (ar (ir 2 [(42,.p c 0),(43,.i mm)] (ic [0,0,0,0,0,0,0] (Zpj c wa2 wb2 wc2 wd2 we2 wf2 L'1 ln mm (hlk:=(by first|exact kx.len|exact c0_1.len)) (hlb:=om) (hm:=om)) ?_))))))
   rintro _ _ (⟨wa3,wb3,wc3,wd3,we3,wf3,L'2,rfl,rfl,hp6⟩|⟨rfl,rfl,hp7⟩)
   ·refine ir 1 [(8,.b true)] (ie ?_)
    exact at_ (r1 [0,0,0,0,0,0,0] (.inl ⟨wa3,wb3,wc3,wd3,we3,wf3,L'2,rfl,rfl,(by first|exact hE|(rw [hE];exact hp6)|(rw [hB,Zmq hgr (by assumption)];exact hp6))⟩))
   refine ir 1 [(8,.b false)] (ie ?_)
   exact at_ (r1 [] (.inr ⟨rfl,rfl,(by first|exact hE|(rw [hE];exact hp7)|(rw [hB,Zmq hgr (by assumption)];exact hp7))⟩))
  have hE:=hB.trans (Zzx hgr (by assumption) hp5)
  refine dtk (fuel:=0) 2 [14,15] (.n 41 (.b true) .r) (de (ac1 (ar (ir 1 [(8,.b false)] (ie ?_)))))
  exact at_ (r1 [] (.inr ⟨rfl,rfl,(by first|exact hE|(rw [hE];exact hp5)|(rw [hB,Zmq hgr (by assumption)];exact hp5))⟩))
 have hp8:¬(xr≠0):=Zd bne_iff_ne hb1
 refine dtk (fuel:=0) 6 [10,11,12,13,14,15] (.n 41 (.b false) (.k (.d .r))) (de (ac0 (ak (ar (ir 2 [(42,.p c 0),(43,.i mm)] (ic [2,2,2,2,2,2,2] (Zpj c ka kb kc kd ke kf L2 ln mm (hlk:=(by first|exact kx.len|exact c0_1.len)) (hlb:=om) (hm:=om)) ?_))))))
 rintro _ _ (⟨wa4,wb4,wc4,wd4,we4,wf4,L'3,rfl,rfl,hp9⟩|⟨rfl,rfl,hp10⟩)
 ·refine ir 1 [(8,.b true)] (ie ?_)
  exact at_ (r1 [0,0,0,0,0,0,0] (.inl ⟨wa4,wb4,wc4,wd4,we4,wf4,L'3,rfl,rfl,(by first|exact hE|(rw [hE];exact hp9)|(rw [hB,Zmq hgr (by assumption)];exact hp9))⟩))
 refine ir 1 [(8,.b false)] (ie ?_)
 exact at_ (r1 [] (.inr ⟨rfl,rfl,(by first|exact hE|(rw [hE];exact hp10)|(rw [hB,Zmq hgr (by assumption)];exact hp10))⟩))
theorem Zkw (n:Normal) (ln:List Int) (hn:NOk n) (hln:ln.length≤4294967296) (m:Nat):∀(b2:Block) (c:Nat) (ra:Hd) (rb:Hd) (rc:Hd) (rd:Hd) (re:Hd) (rf:Hd) (M:Led) (mm:Nat) (p:Int),(b2.sz<m+1)→(LOk n.decls M p)→(0≤Zf n M.vars b2)→(mm≤M.vars.length)→(M.vars.length+4*b2.sz≤1000000000)→(0≤p∧p+4*b2.sz≤999999990)→Z3 Tryz.prog 100 [.p c 0,Zi n,Za b2,.i mm] [.obj c [.h ra,.h rb,.h rc,.h rd,.h re,.h rf,nInt ln],rV ra M.vars,rV rb M.own,rV rc M.par,rV rd M.con,rV re M.fst,rV rf M.tok] (fun r h=>(∃(wa:Hd) (wb:Hd) (wc:Hd) (wd:Hd) (we:Hd) (wf:Hd) (M':Led),r=.b true∧h=[.obj c [.h wa,.h wb,.h wc,.h wd,.h we,.h wf,nInt ln],rV wa M'.vars,rV wb M'.own,rV wc M'.par,rV wd M'.con,rV we M'.fst,rV wf M'.tok]∧Z39 n ln M mm b2=some M')∨(r=.b false∧h=[]∧Z39 n ln M mm b2=none)):=by
 induction m with
 | zero=>intro b c ga gb gc gd ge gf L mm q h;have:=b.sz_pos;omega
 | succ m ih=>
  intro b c ga gb gc gd ge gf L mm q h1 hk ht hm hb hp
  exact Zt7 c ga gb gc gd ge gf n b L ln q mm hn hk ht hm hb hp hln fun s c ga gb gc gd ge gf L q h2 hk ht hb hp=>Zwx c ga gb gc gd ge gf n s L ln q hn hk ht hb hp hln
   fun b2 c ga gb gc gd ge gf L mm q h3 hk ht hm hb hp=>ih b2 c ga gb gc gd ge gf L mm q om hk ht hm hb hp
theorem Zwv (c:Nat) (ra:Hd) (rb:Hd) (rc:Hd) (rd:Hd) (re:Hd) (rf:Hd) (n:Normal) (b2:Block) (M:Led) (ln:List Int) (mm:Nat) (p:Int) (hn:NOk n) (hln:ln.length≤4294967296) (hk:LOk n.decls M p) (ht:0≤Zf n M.vars b2) (hm:mm≤M.vars.length) (hb:M.vars.length+4*b2.sz≤1000000000) (hp:0≤p∧p+4*b2.sz≤999999990):Z3 Tryz.prog 100 [.p c 0,Zi n,Za b2,.i mm] [.obj c [.h ra,.h rb,.h rc,.h rd,.h re,.h rf,nInt ln],rV ra M.vars,rV rb M.own,rV rc M.par,rV rd M.con,rV re M.fst,rV rf M.tok] (fun r h=>(∃(wa:Hd) (wb:Hd) (wc:Hd) (wd:Hd) (we:Hd) (wf:Hd) (M':Led),r=.b true∧h=[.obj c [.h wa,.h wb,.h wc,.h wd,.h we,.h wf,nInt ln],rV wa M'.vars,rV wb M'.own,rV wc M'.par,rV wd M'.con,rV we M'.fst,rV wf M'.tok]∧Z39 n ln M mm b2=some M')∨(r=.b false∧h=[]∧Z39 n ln M mm b2=none)):=Zkw n ln hn hln b2.sz b2 c ra rb rc rd re rf M mm p om hk ht hm hb hp
theorem Zek (rt:Routine) (hp:rt.params.length≤1000000:=by exact ob) (hl:rt.lent.length≤4294967296:=by exact ob):Z3 Tryz.prog 99 [Z0s rt] [] (fun r h=>∃(c:Nat) (wa:Hd) (wb:Hd) (wc:Hd) (wd:Hd) (we:Hd) (wf:Hd),r=.p c 0∧h=[.obj c [.h wa,.h wb,.h wc,.h wd,.h we,.h wf,nInt rt.lent],rV wa ((newL rt).vars),rV wb ((newL rt).own),rV wc ((newL rt).par),rV wd ((newL rt).con),rV we ((newL rt).fst),rV wf ((newL rt).tok)]):=by
 refine enter Tryz.func99 kr (n:=45) kr kr (ar (iA (Z1s rt) ?_))
 intro b1
 refine ir 1 [(1,.p b1 0)] (ie (ar (irK 2 (.n 6 (nInt rt.lent) .r) [0] [b1] (ic [] (Z26 rt.lent) ?_))))
 rintro _ _ ⟨v1,rfl,rfl⟩
 refine irk 1 (.n 8 (.agg [nl,nl,nl,nl,nl,nl,nInt rt.lent]) .r) (iA [nl,nl,nl,nl,nl,nl,nInt rt.lent] ?_)
 intro b2
 refine Z4v (Zrz 0 b2 [nl,nl,nl,nl,nl,nl,nInt rt.lent] [.h hN,.h hN,.h hN,.h hN,.h hN,.h hN,nInt rt.lent] (.cons (AVLe.hd (v:=hN)) (.cons (AVLe.hd (v:=hN)) (.cons (AVLe.hd (v:=hN)) (.cons (AVLe.hd (v:=hN)) (.cons (AVLe.hd (v:=hN)) (.cons (AVLe.hd (v:=hN)) (.cons (lr _) .nil)))))))) (Z4v (tNil) (Z4v (tNil) (Z4v (tNil) (Z4v (tNil) (Z4v (tNil) (Z4v (tNil) (irk 1 (.n 3 (.p b2 0) .r) (ie (aq (ar (irk 1 (.n 4 (.i 0) .r) (ie (ab 0 (al (fun m F h=>∃(k:Nat) (L2:Led) (ka:Hd) (kb:Hd) (kc:Hd) (kd:Hd) (ke:Hd) (kf:Hd),(k≤rt.params.length)∧(LLen L2)∧(L2.vars.length=k)∧(Z5o rt.lent (rt.params.drop k) k L2=newL rt)∧F=[(1,.p b1 0),(3,.p b2 0),(4,.i k)]∧h=[.obj b2 [.h ka,.h kb,.h kc,.h kd,.h ke,.h kf,nInt rt.lent],.obj b1 (Z1s rt),rV ka L2.vars,rV kb L2.own,rV kc L2.par,rV kd L2.con,rV ke L2.fst,rV kf L2.tok]∧m=rt.params.length-k) _ _ _ ⟨0,(Led.mk [] [] [] [] [] []),hN,hN,hN,hN,hN,hN,ob,⟨rfl,rfl,rfl,rfl,rfl⟩,rfl,rfl,rfl,rfl,rfl⟩ (wk [6,7,0,0,0,0,0,0] (fw (fc (x:=.i 0) li fl)) (e:=(rc (rc (rv (xs:=[]) ob (rv (xs:=[]) ob (rv (xs:=[]) ob (rv (xs:=[]) ob (rv (xs:=[]) ob (rv (xs:=[]) ob rz)))))))))) ?_))))))))))))))
 rintro m F h ⟨k,L2,ka,kb,kc,kd,ke,kf,c0_0,c0_1,c0_2,c0_3,rfl,rfl,rfl⟩
 refine aq (ar (irK 3 (.n 10 (.i k) (.n 12 (nInt rt.params) .r)) [1] [b1] (iw (Z4 rt.params) (irk 1 (.n 14 (.b (decide ((k:Int)<(rt.params.length:Int)))) .r) (ie (ac (decide ((k:Int)<(rt.params.length:Int))) dq (fun hc1=>?_) (fun hc1=>?_)))))))
 ·refine ak (aq (ab 1 (ar (irK 3 (.n 18 (nInt rt.params) (.n 19 (.i k) .r)) [1] [b1] ?_))))
  obtain ⟨x1,hx1⟩:=Z6 (xs:=rt.params) (j:=k) om
  refine is_ (Z0 (es:=Z8 rt.params) (hv:=none) (j:=(k:Int)) (sz:=1) (y:=.i x1) kr om (Z9 hx1) rfl) (Z24 [(1,.p b1 0),(3,.p b2 0),(4,.i k),(29,.b ((x1 != 0)&&(!(decide ((k:Int)∈rt.lent)))))] [.obj b2 [.h ka,.h kb,.h kc,.h kd,.h ke,.h kf,nInt rt.lent],.obj b1 (Z1s rt),rV ka L2.vars,rV kb L2.own,rV kc L2.par,rV kd L2.con,rV ke L2.fst,rV kf L2.tok] ?_ ?_)
  ·refine ir 3 [(1,.p b1 0),(3,.p b2 0),(4,.i k),(23,.b (x1 != 0))] (ib (b:=(x1 != 0)) 23 (fun hb1=>?_) (fun hb1=>?_))
   ·have hp1:x1≠0:=(bne_iff_ne).1 hb1
    refine irK 3 (.n 25 (nInt rt.lent) (.n 26 (.i k) (.w .z))) [1] [b1] (ic [] (Z83 rt.lent (k:Int)) ?_)
    rintro _ _ ⟨rfl,rfl⟩
    refine irk 2 (.n 29 (.b (!(decide ((k:Int)∈rt.lent)))) .r) (ie ?_)
    exact wk [0,0,0,0,0,0,0,0] (fw (fr (fc (x:=.b (!(decide ((k:Int)∈rt.lent)))) (lb (by simp only [hb1];rfl)) fl)))
   have hp2:¬(x1≠0):=Zd bne_iff_ne hb1
   refine irk 6 (.n 29 (.b false) (.d (.k (.k (.k .z))))) (ie ?_)
   exact wk [0,0,0,0,0,0,0,0] (fw (fr (fc (x:=.b false) (lb (by simp only [hb1];rfl)) fl)))
  refine ac ((x1 != 0)&&(!(decide ((k:Int)∈rt.lent)))) (p:=(x1≠0)∧(¬((k:Int)∈rt.lent))) (Zj bne_iff_ne (Zc dq)) (fun hc2=>?_) (fun hc2=>?_)
  ·refine az (iR 4 [(1,.p b1 0),(3,.p b2 0),(4,.i k),(30,.p b2 0),(32,nInt rt.params),(33,.i k)] [1] [b1] (is_ (Z0 (es:=Z8 rt.params) (hv:=none) (j:=(k:Int)) (sz:=1) (y:=.i x1) kr om (Z9 hx1) rfl) (irk 1 (.n 35 (.i x1) .r) (ic [0,1,1,1,1,1,1] (Z4r b2 ka kb kc kd ke kf L2 rt.lent x1 1 (-1) (hlk:=c0_1)) ?_))))
   rintro _ _ ⟨wa1,wb1,wc1,wd1,we1,wf1,rfl⟩
   refine ie (az (irk 1 (.n 15 (.i k) (.p .r)) (ia (((k+1:Nat):Int)) (((k:Int))+(1)) (ir 1 [(1,.p b1 0),(3,.p b2 0),(4,.i (k+1:Nat))] (ie ?_)))))
   exact ⟨_,_,_,ob,⟨k+1,(L2.grow x1 1 (-1)),wa1,wb1,wc1,wd1,we1,wf1,ob,(LLen.grow c0_1),(by simp [Led.grow];omega),(by rw [Z5 hx1,Z5o] at c0_3;first|(rw [if_pos hc2] at c0_3;exact c0_3)|(rw [if_neg hc2] at c0_3;exact c0_3)),rfl,rfl,rfl⟩,(wk [0,6,0,0,0,0,0,0] (fw (fc (x:=.i (k+1:Nat)) li fl)))⟩
  refine az (iR 4 [(1,.p b1 0),(3,.p b2 0),(4,.i k),(37,.p b2 0),(39,nInt rt.params),(40,.i k)] [1] [b1] (is_ (Z0 (es:=Z8 rt.params) (hv:=none) (j:=(k:Int)) (sz:=1) (y:=.i x1) kr om (Z9 hx1) rfl) (irk 1 (.n 42 (.i x1) .r) (ic [0,1,1,1,1,1,1] (Z4r b2 ka kb kc kd ke kf L2 rt.lent x1 0 (-1) (hlk:=c0_1)) ?_))))
  rintro _ _ ⟨wa2,wb2,wc2,wd2,we2,wf2,rfl⟩
  refine ie (az (irk 1 (.n 15 (.i k) (.p .r)) (ia (((k+1:Nat):Int)) (((k:Int))+(1)) (ir 1 [(1,.p b1 0),(3,.p b2 0),(4,.i (k+1:Nat))] (ie ?_)))))
  exact ⟨_,_,_,ob,⟨k+1,(L2.grow x1 0 (-1)),wa2,wb2,wc2,wd2,we2,wf2,ob,(LLen.grow c0_1),(by simp [Led.grow];omega),(by rw [Z5 hx1,Z5o] at c0_3;first|(rw [if_pos hc2] at c0_3;exact c0_3)|(rw [if_neg hc2] at c0_3;exact c0_3)),rfl,rfl,rfl⟩,(wk [0,6,0,0,0,0,0,0] (fw (fc (x:=.i (k+1:Nat)) li fl)))⟩
 refine ax 0 (ar (ir 2 [(2,.p b2 0)] (ie ?_)))
 have hNl:L2=newL rt:=by rw [←c0_3,Zt om];rfl
 exact at_ (r1 [0,1,1,1,1,1,1] ⟨b2,ka,kb,kc,kd,ke,kf,rfl,rfl⟩ (eq:=(rc (rv (xs:=L2.vars) (by rw [hNl]) (rv (xs:=L2.own) (by rw [hNl]) (rv (xs:=L2.par) (by rw [hNl]) (rv (xs:=L2.con) (by rw [hNl]) (rv (xs:=L2.fst) (by rw [hNl]) (rv (xs:=L2.tok) (by rw [hNl]) rz)))))))))
theorem Z9f (n:Normal) (f:Nat) (rt:Routine) (hn:NOk n:=by exact ob) (hr:n.routines[f]? = some rt:=by exact ob) (ht:0≤Zf n rt.params rt.body:=by exact ob) (hz:rt.body.sz≤100000000:=by exact ob):Z3 Tryz.prog 48 [Zi n,.i f] [] (fun r h=>r=.b (Z1y n rt)∧h=[]):=by
 have hfl:=(List.getElem?_eq_some_iff.1 hr).1
 have hpl:=hn.params_at hr
 have hll:=hn.lent_at hr
 obtain ⟨hk,hkv⟩:=Zx9 n.decls rt
 refine enter Tryz.func48 kr (n:=26) kr kr (ar (iA (Zh n) ?_))
 intro b1
 refine ir 1 [(1,.i f),(2,.p b1 0)] (ie (ar (irK 3 (.n 8 (nRoutine n.routines) (.n 9 (.i f) .r)) [0] [b1] (is_ (Z0 (es:=Z0p n.routines) (hv:=none) (j:=(f:Int)) (sz:=5) (y:=Z0s rt) kr om (Z0v hr) rfl) (irk 1 (.n 11 (Z0s rt) .r) (iA [nl,nl,.i 0,nl,.i 0] ?_))))))
 intro b2
 refine iS 0 b2 0 (Z1s rt) [nl,nl,.i 0,nl,.i 0] (Z1s rt) (ie (ar (irK 1 (.n 12 (Z0s rt) .r) [0] [b2] (ic [] (Zek rt) ?_))))
 rintro _ _ ⟨c1,wa1,wb1,wc1,wd1,we1,wf1,rfl,rfl⟩
 refine irk 1 (.n 6 (.p c1 0) .r) (ie (ar (iR 6 [(6,.p c1 0),(14,.p c1 0),(15,Zi n),(17,Za rt.body),(19,nInt rt.params)] [8,7,7] [b1,b2,b2] (iw (Z4 rt.params) (ic [0,0,0,0,0,0,0] (Zwv c1 wa1 wb1 wc1 wd1 we1 wf1 n rt.body (newL rt) rt.lent rt.params.length 1 ob ob hk (by rw [hkv];exact ht) (by rw [hkv];omega) (by rw [hkv];omega) ob) ?_)))))
 rintro _ _ (⟨wa2,wb2,wc2,wd2,we2,wf2,M'1,rfl,rfl,hp1⟩|⟨rfl,rfl,hp2⟩)
 ·have hB:=hp1
  obtain ⟨l1,l2⟩:=Zse hn hk om (by rw [hkv];exact ht) (by rw [hkv];omega) hB
  refine ir 2 [(22,.b true),(23,.p c1 0)] (ic [0,0,0,0,0,0,0] (Zpj c1 wa2 wb2 wc2 wd2 we2 wf2 M'1 rt.lent 0 (hlk:=l1)) ?_)
  rintro _ _ (⟨wa3,wb3,wc3,wd3,we3,wf3,L'1,rfl,rfl,hp3⟩|⟨rfl,rfl,hp4⟩)
  ·refine ir 2 [(4,.b true)] (ie ?_)
   exact at_ (r2 [] [.b true] ⟨rfl,rfl⟩ (lb (by rw [Z1y,hB];exact (cut1 hp3).symm)))
  refine ir 2 [(4,.b false)] (ie ?_)
  exact at_ (r2 [] [.b false] ⟨rfl,rfl⟩ (lb (by rw [Z1y,hB];exact (cut0 hp4).symm)))
 have hB:=hp2
 refine ir 5 [(4,.b false)] (ie ?_)
 exact at_ (r2 [] [.b false] ⟨rfl,rfl⟩ (lb (by rw [Z1y,hB])))
theorem Zfm (n:Normal) (hz:NSz n:=by exact ob):Z3 Tryz.prog 19 [Zi n] [] (fun r h=>r=.b (Z1x n)∧h=[]):=by
 have hzl:=hz.len
 refine enter Tryz.func19 kr (n:=18) kr kr (ar (iA (Zh n) ?_))
 intro b1
 refine ir 1 [(1,.p b1 0)] (ie (aq (ar (irK 1 (.n 4 (Zi n) .r) [0] [b1] (ic [] (Zc0 n) ?_)))))
 rintro _ _ ⟨rfl,rfl⟩
 refine irk 1 (.n 6 (.b (!Z05 n)) .r) (ie (ac (!Z05 n) (p:=¬(Z05 n=true)) (Zc Iff.rfl) (fun hc1=>?_) (fun hc1=>?_)))
 ·refine ar (ir 1 [(2,.b false)] (ie ?_))
  exact at_ (r2 [] [.b false] ⟨rfl,rfl⟩ (lb (by first|rfl|omega|grind [Z1x])))
 have hV:Z05 n=true:=Classical.not_not.1 hc1
 obtain ⟨hok,hall⟩:=Z4t hz hV
 refine ak (aq (ar (irk 1 (.n 3 (.i 0) .r) (ie (ab 0 (al (fun m F h=>∃(k:Nat),(k≤n.routines.length)∧(Z36 n (n.routines.drop k)=Z36 n n.routines)∧F=[(1,.p b1 0),(3,.i k)]∧h=[.obj b1 (Zh n)]∧m=n.routines.length-k) _ _ _ ⟨0,ob,ob,rfl,rfl,rfl⟩ (wk [0] (fr (fc (x:=.i 0) li fl))) ?_))))))
 rintro m F h ⟨k,c0_0,c0_1,rfl,rfl,rfl⟩
 refine aq (ar (irK 3 (.n 7 (.i k) (.n 9 (nRoutine n.routines) .r)) [0] [b1] (iw (Z0a n.routines) (irk 1 (.n 11 (.b (decide ((k:Int)<(n.routines.length:Int)))) .r) (ie (ac (decide ((k:Int)<(n.routines.length:Int))) dq (fun hc2=>?_) (fun hc2=>?_)))))))
 ·obtain ⟨rt,hrt⟩:=Z6 (xs:=n.routines) (j:=k) om
  have hrm:=List.mem_of_getElem? hrt
  refine ak (aq (ab 1 (ar (irK 2 (.n 14 (Zi n) (.n 15 (.i k) .r)) [0] [b1] (ic [] (Z9f n k rt (hr:=hrt) (ht:=(hall rt hrm)) (hz:=(Nat.le_trans (hz.body rt hrm) om))) ?_)))))
  rintro _ _ ⟨rfl,rfl⟩
  refine irk 1 (.n 17 (.b (!Z1y n rt)) .r) (ie (ac (!Z1y n rt) (p:=¬(Z1y n rt=true)) (Zc Iff.rfl) (fun hc3=>?_) (fun hc3=>?_)))
  ·refine ar (ir 1 [(2,.b false)] (ie ?_))
   rw [Z5 hrt] at c0_1
   exact at_ (r2 [] [.b false] ⟨rfl,rfl⟩ (lb (by first|rfl|omega|grind [Z36,Z1x])))
  refine ak (az (irk 1 (.n 12 (.i k) .r) (ia (((k+1:Nat):Int)) (((k:Int))+(1)) (ir 1 [(1,.p b1 0),(3,.i (k+1:Nat))] (ie ?_)))))
  have hdr:=Z5 hrt
  exact ⟨_,_,_,ob,⟨k+1,ob,(by rw [hdr] at c0_1;clear hdr ;grind [Z36]),rfl,rfl,rfl⟩,(wk [0] (fr (fc (x:=.i (k+1:Nat)) li fl)))⟩
 refine ax 0 (ar (ir 1 [(2,.b true)] (ie ?_)))
 try rw [Zt (xs:=n.routines) (k:=k) om] at c0_1
 exact at_ (r2 [] [.b true] ⟨rfl,rfl⟩ (lb (by first|rfl|omega|grind [Z36,Z1x])))
theorem Zlj (op:Int) (v:Int) :Z3 Tryz.prog 155 [.i op,.i v] [] (fun r h=>r=Z0g (cntS op v)∧h=[]):=by
 refine enter Tryz.func155 kr (n:=10) kr kr (ar (iA [.i 0,.i 0,.i 0,nl,nl] ?_))
 intro b1
 refine ie (ar (ir 2 [(4,.p b1 0),(5,.i op),(6,.i v)] (iL (Z8 [v]) 1 1 ?_)))
 intro v1
 refine iL (Z19 []) 0 2 ?_
 intro v2
 refine irk 1 (.n 9 (.agg [.i op,.i 0,.i 0,oInt [v] v1,Z5n [] v2]) .r) (iS 2 b1 0 [.i op,.i 0,.i 0,oInt [v] v1,Z5n [] v2] [.i 0,.i 0,.i 0,nl,nl] [.i op,.i 0,.i 0,oInt [v] v1,Z5n [] v2] (ie ?_))
 exact at_ (r3 [] [.agg [.i op,.i 0,.i 0,oInt [v] v1,Z5n [] v2]] [0] [(b1,b1)] ⟨rfl,rfl⟩ (AVLe.agg (.cons li (.cons li (.cons li (.cons (AVLe.sl _ (congrArg Z8 rfl)) (.cons (AVLe.sl _ (congrArg Z19 rfl)) .nil)))))))
theorem Zdb (s:Step) (ih:∀(b2:Block),(b2.sz<s.sz)→(b2.sz≤1000000000)→Z3 Tryz.prog 193 [Za b2] [] (fun r h=>r=Za b2∧h=[])) (hz:s.sz≤1000000000):Z3 Tryz.prog 152 [Z0g s] [] (fun r h=>r=Z0g s∧h=[]):=by
 have hkz:=Z5m s
 have haz:=Z86 s
 refine enter Tryz.func152 kr (n:=33) kr kr (ar (iA (Z02 s) ?_))
 intro b1
 refine iA [.i 0,.i 0,.i 0,nl,nl] ?_
 intro b2
 refine ie (ar (iL (Z19 []) 0 2 ?_))
 intro v1
 refine ir 1 [(1,.p b1 0),(2,.p b2 0),(3,Z5n [] v1)] (ie (aq (ar (irk 1 (.n 4 (.i 0) .r) (ie (ab 0 (al (fun m F h=>∃(k:Nat) (v:Value),(k≤s.kids.length)∧F=[(1,.p b1 0),(2,.p b2 0),(3,Z5n (s.kids.take k) v),(4,.i k)]∧h=[.obj b2 [.i 0,.i 0,.i 0,nl,nl],.obj b1 (Z02 s),.tail v 2]∧m=s.kids.length-k) _ _ _ ⟨0,v1,ob,rfl,rfl,rfl⟩ (wk [1,1,0] (fw (fc (x:=Z5n [] v1) (AVLe.slh _ (congrArg Z19 rfl)) (fc (x:=.i 0) li fl)))) ?_)))))))
 rintro m F h ⟨k,v,c0_0,rfl,rfl,rfl⟩
 refine aq (ar (irK 3 (.n 6 (.i k) (.n 8 (Zv s.kids) .r)) [1] [b1] (iw (Z0f s.kids) (irk 1 (.n 10 (.b (decide ((k:Int)<(s.kids.length:Int)))) .r) (ie (ac (decide ((k:Int)<(s.kids.length:Int))) dq (fun hc1=>?_) (fun hc1=>?_)))))))
 ·refine ak (aq (ab 1 (az (irK 4 (.n 13 (Z5n (s.kids.take k) v) (.n 15 (Zv s.kids) (.n 16 (.i k) .r))) [1] [b1] ?_))))
  obtain ⟨x1,hx1⟩:=Z6 (xs:=s.kids) (j:=k) om
  have hks:=Z9k hx1
  refine is_ (Z0 (es:=Z19 s.kids) (hv:=none) (j:=(k:Int)) (sz:=2) (y:=Za x1) kr om (Z1q hx1) rfl) (irk 1 (.n 18 (Za x1) .r) (ic [] (ih x1 ob ob) ?_))
  rintro _ _ ⟨rfl,rfl⟩
  refine iL [Za x1] 1 2 ?_
  intro v2
  refine irk 0 (.n 20 (.sl [Za x1] none) (.p .r)) (ip 3 (Z19 (s.kids.take (k+1))) (Z19 (s.kids.take k)) [Za x1] v none 2 (Zgr _) (Z98 rfl) rfl (by simp<;>omega) (by rw [Z1l hx1];simp [Z4f]) ?_)
  intro v3
  refine ir 1 [(1,.p b1 0),(2,.p b2 0),(3,Z5n (s.kids.take (k+1)) v3),(4,.i k)] (ie (az (irk 1 (.n 11 (.i k) .r) (ia (((k+1:Nat):Int)) (((k:Int))+(1)) (irk 1 (.n 4 (.i (k+1:Nat)) (.p (.d (.k (.k (.k .z)))))) (ie ?_))))))
  exact ⟨_,_,_,ob,⟨k+1,v3,ob,rfl,rfl,rfl⟩,(wk [2,2,0] (fw (fr (fc (x:=.i (k+1:Nat)) li fl))))⟩
 refine ax 0 (aD 12 (dT (fuel:=3) 12 [0,1,2,3,4,5,6,7,9] [(2,.p b2 0),(23,.i s.op),(25,.i s.num),(27,.i s.into),(29,nInt s.args),(31,Z5n (s.kids.take k) v)] [1,1,1,1] [b1,b1,b1,b1] (do_ 8 (dc 8 [] [1,1,1] [b1,b1,b1] (Z26 s.args) ?_))))
 rintro _ _ ⟨v4,rfl,rfl⟩
 refine dtk (fuel:=1) 2 [10] (.n 32 (.agg [.i s.op,.i s.num,.i s.into,oInt s.args v4,Z5n (s.kids.take k) v]) .r) (do_ 11 (dS 11 1 [] [] b2 0 [.i s.op,.i s.num,.i s.into,oInt s.args v4,Z5n (s.kids.take k) v] [.i 0,.i 0,.i 0,nl,nl] [.i s.op,.i s.num,.i s.into,oInt s.args v4,Z5n (s.kids.take k) v] (de ?_)))
 exact at_ (r3 [] [.agg [.i s.op,.i s.num,.i s.into,oInt s.args v4,Z5n (s.kids.take k) v]] [0] [(b2,b2)] ⟨rfl,rfl⟩ (AVLe.agg (.cons (lr _) (.cons (lr _) (.cons (lr _) (.cons (AVLe.forget _ _) (.cons (AVLe.sl _ (congrArg Z19 (by rw [List.take_of_length_le om]))) .nil)))))))
theorem Zbx (b:Block) (ih:∀(s2:Step),(s2.sz<b.sz)→(s2.sz≤1000000000)→Z3 Tryz.prog 152 [Z0g s2] [] (fun r h=>r=Z0g s2∧h=[])) (hz:b.sz≤1000000000):Z3 Tryz.prog 193 [Za b] [] (fun r h=>r=Za b∧h=[]):=by
 have hbz:=Z4d b
 refine enter Tryz.func193 kr (n:=28) kr kr (ar (iA (Z03 b) ?_))
 intro b1
 refine iA [nl,.i 0] ?_
 intro b2
 refine ie (ar (iL (Zo []) 0 5 ?_))
 intro v1
 refine iR 3 [(1,.p b1 0),(2,.p b2 0),(8,.agg [Z5c [] v1,.i b.result])] [2] [b1] (iA [nl,.i 0] ?_)
 intro b3
 refine iS 0 b3 0 [Z5c [] v1,.i b.result] [nl,.i 0] [Z5c [] v1,.i b.result] (ie (aq (ar (irk 1 (.n 4 (.i 0) .r) (ie (ab 0 (al (fun m F h=>∃(k:Nat) (v:Value),(k≤b.steps.length)∧F=[(1,.p b1 0),(2,.p b2 0),(3,.p b3 0),(4,.i k)]∧h=[.obj b3 [Z5c (b.steps.take k) v,.i b.result],.obj b2 [nl,.i 0],.obj b1 (Z03 b),.tail v 5]∧m=b.steps.length-k) _ _ _ ⟨0,v1,ob,rfl,rfl,rfl⟩ (wk [0,1,1,0] (fw (fr (fc (x:=.i 0) li fl)))) ?_)))))))
 rintro m F h ⟨k,v,c0_0,rfl,rfl,rfl⟩
 refine aq (ar (irK 3 (.n 9 (.i k) (.n 11 (Z0b b.steps) .r)) [2] [b1] (iw (Z0l b.steps) (irk 1 (.n 13 (.b (decide ((k:Int)<(b.steps.length:Int)))) .r) (ie (ac (decide ((k:Int)<(b.steps.length:Int))) dq (fun hc1=>?_) (fun hc1=>?_)))))))
 ·refine ak (aq (ab 1 (aE 12 (dtK (fuel:=7) 12 [0,1,2,3,4] (.n 17 (Z5c (b.steps.take k) v) (.n 19 (Z0b b.steps) (.n 20 (.i k) .r))) [0,2] [b3,b1] ?_))))
  obtain ⟨x1,hx1⟩:=Z6 (xs:=b.steps) (j:=k) om
  have hss:=Zhx hx1
  refine dx 5 (Z0 (es:=Zo b.steps) (hv:=none) (j:=(k:Int)) (sz:=5) (y:=Z0g x1) kr om (Z0y hx1) rfl) (dtk (fuel:=5) 6 [6] (.n 22 (Z0g x1) .r) (do_ 7 (dc 7 [] [0] [b3] (ih x1 ob ob) ?_)))
  rintro _ _ ⟨rfl,rfl⟩
  refine do_ 8 (dL 8 [0] [b3] [Z0g x1] 1 5 ?_)
  intro v2
  refine dtk (fuel:=3) 3 [] (.n 24 (.sl [Z0g x1] none) (.p .r)) (do_ 9 (dp 9 4 [] [] (Zo (b.steps.take (k+1))) (Zo (b.steps.take k)) [Z0g x1] v none 5 (Z57 _) (Z98 rfl) rfl (by simp<;>omega) (by rw [Z1l hx1];simp [Z31]) ?_))
  intro v3
  refine dtk (fuel:=1) 2 [10] (.n 26 (.p b3 0) .r) (do_ 11 (dS 11 2 [] [] b3 0 [Z5c (b.steps.take (k+1)) v3] [Z5c (b.steps.take k) v,.i b.result] [Z5c (b.steps.take (k+1)) v3,.i b.result] (de (az (irk 1 (.n 14 (.i k) .r) (ia (((k+1:Nat):Int)) (((k:Int))+(1)) (ir 1 [(1,.p b1 0),(2,.p b2 0),(3,.p b3 0),(4,.i (k+1:Nat))] (ie ?_))))))))
  exact ⟨_,_,_,ob,⟨k+1,v3,ob,rfl,rfl,rfl⟩,(wk [0,2,2,0] (fw (fr (fc (x:=.i (k+1:Nat)) li fl))))⟩
 refine ax 0 (ar (irK 1 (.n 27 (.agg [Z5c (b.steps.take k) v,.i b.result]) .r) [0] [b3] (iS 1 b2 0 [Z5c (b.steps.take k) v,.i b.result] [nl,.i 0] [Z5c (b.steps.take k) v,.i b.result] (ie ?_))))
 exact at_ (r3 [] [.agg [Z5c (b.steps.take k) v,.i b.result]] [0] [(b2,b2)] ⟨rfl,rfl⟩ (AVLe.agg (.cons (AVLe.sl _ (congrArg Zo (by rw [List.take_of_length_le om]))) (.cons (lr _) .nil))))
theorem Zli (k:Nat):(∀(s:Step),(s.sz≤k)→(s.sz≤1000000000)→Z3 Tryz.prog 152 [Z0g s] [] (fun r h=>r=Z0g s∧h=[]))∧(∀(b:Block),(b.sz≤k)→(b.sz≤1000000000)→Z3 Tryz.prog 193 [Za b] [] (fun r h=>r=Za b∧h=[])):=by
 induction k with
 | zero=>exact ⟨fun s h=>by have:=s.sz_pos;omega,fun s h=>by have:=s.sz_pos;omega⟩
 | succ k ih=>exact ⟨fun s h hz=>Zdb s (fun b2 h2 h3=>ih.2 b2 om h3) hz,fun b h hz=>Zbx b (fun s2 h2 h3=>ih.1 s2 om h3) hz⟩
theorem Zfo (s:Step) (hz:s.sz≤1000000000:=by exact ob):Z3 Tryz.prog 152 [Z0g s] [] (fun r h=>r=Z0g s∧h=[]):=(Zli s.sz).1 s (Nat.le_refl _) hz
theorem Zij (ds:List Decl) (hd:DOk ds:=by exact ob):Z3 Tryz.prog 50 [Z2 ds] [] (fun r h=>r=Z2 ds∧h=[]):=by
 have hdl:=hd.len
 refine enter Tryz.func50 kr (n:=55) kr kr (ar (ir 1 [(0,Z2 ds)] (ie (ar (iL (Z0i []) 0 3 ?_)))))
 intro v1
 refine irk 1 (.n 3 (Zl5 [] v1) .r) (ie (aq (ar (irk 1 (.n 4 (.i 0) .r) (ie (ab 0 (al (fun m F h=>∃(k:Nat) (v:Value),(k≤ds.length)∧F=[(0,Z2 ds),(3,Zl5 (ds.take k) v),(4,.i k)]∧h=[.tail v 3]∧m=ds.length-k) _ _ _ ⟨0,v1,ob,rfl,rfl,rfl⟩ (wk [0] (fr (fc (x:=Zl5 [] v1) (AVLe.slh _ (congrArg Z0i rfl)) (fc (x:=.i 0) li fl)))) ?_)))))))
 rintro m F h ⟨k,v,c0_0,rfl,rfl,rfl⟩
 refine aq (ar (irk 2 (.n 8 (.i k) (.n 9 (Z2 ds) .r)) (iw (Z0c ds) (irk 1 (.n 11 (.b (decide ((k:Int)<(ds.length:Int)))) .r) (ie (ac (decide ((k:Int)<(ds.length:Int))) dq (fun hc1=>?_) (fun hc1=>?_)))))))
 ·obtain ⟨xd,hxd⟩:=Z6 (xs:=ds) (j:=k) om
  have hcl:=hd.cons_at hxd
  refine ak (aq (ab 1 (ar (iL (Z37 []) 0 1 ?_))))
  intro v2
  refine irk 1 (.n 5 (oCon [] v2) .r) (ie (aq (ar (irk 1 (.n 6 (.i 0) .r) (ie (ab 2 (al (fun m F h=>∃(j:Nat) (u:Value),(j≤xd.cons.length)∧F=[(0,Z2 ds),(3,Zl5 (ds.take k) v),(4,.i k),(5,oCon (xd.cons.take j) u),(6,.i j)]∧h=[.tail u 1,.tail v 3]∧m=xd.cons.length-j) _ _ _ ⟨0,v2,ob,rfl,rfl,rfl⟩ (wk [0,0] (fw (fr (fc (x:=oCon [] v2) (AVLe.slh _ (congrArg Z37 rfl)) (fc (x:=.i 0) li fl))))) ?_)))))))
  rintro m F h ⟨j,u,c1_0,rfl,rfl,rfl⟩
  refine aq (ar (irk 3 (.n 15 (.i j) (.n 16 (Z2 ds) (.n 17 (.i k) .r))) (is_ (Z0 (es:=Z0i ds) (hv:=none) (j:=(k:Int)) (sz:=3) (y:=Z2s xd) kr om (Z0z hxd) rfl) (irk 2 (.n 20 (nCon xd.cons) .r) (iw (Z0k xd.cons) (irk 1 (.n 22 (.b (decide ((j:Int)<(xd.cons.length:Int)))) .r) (ie (ac (decide ((j:Int)<(xd.cons.length:Int))) dq (fun hc2=>?_) (fun hc2=>?_)))))))))
  ·refine ak (aq (ab 3 (az (irk 3 (.n 25 (oCon (xd.cons.take j) u) (.n 26 (Z2 ds) (.n 27 (.i k) .r))) (is_ (Z0 (es:=Z0i ds) (hv:=none) (j:=(k:Int)) (sz:=3) (y:=Z2s xd) kr om (Z0z hxd) rfl) (irk 3 (.n 30 (nCon xd.cons) (.n 31 (.i j) .r)) ?_))))))
   obtain ⟨x1,hx1⟩:=Z6 (xs:=xd.cons) (j:=j) om
   have hfl:=hd.fields_at hxd hx1
   refine is_ (Z0 (es:=Z37 xd.cons) (hv:=none) (j:=(j:Int)) (sz:=1) (y:=aCon x1) kr om (Z4g hx1) rfl) (irk 2 (.n 34 (nInt x1.fields) .r) (ic [] (Z26 x1.fields) ?_))
   rintro _ _ ⟨v3,rfl,rfl⟩
   refine irk 1 (.n 36 (aCon x1) .r) (iL (Z37 [x1]) 1 1 ?_)
   intro v4
   refine irk 0 (.n 37 (nCon [x1]) (.p .r)) (ip 2 (Z37 (xd.cons.take (j+1))) (Z37 (xd.cons.take j)) (Z37 [x1]) u none 1 (Zcd _) (Zcd _) (Zvp _) (by simp<;>omega) (by rw [Z1l hx1];simp [Z37]) ?_)
   intro v5
   refine ir 1 [(0,Z2 ds),(3,Zl5 (ds.take k) v),(4,.i k),(5,oCon (xd.cons.take (j+1)) v5),(6,.i j)] (ie (az (irk 1 (.n 23 (.i j) .r) (ia (((j+1:Nat):Int)) (((j:Int))+(1)) (irk 1 (.n 6 (.i (j+1:Nat)) (.p (.d (.w .z)))) (ie ?_))))))
   exact ⟨_,_,_,ob,⟨j+1,v5,ob,rfl,rfl,rfl⟩,(wk [0,2] (fq (fc (x:=.i (j+1:Nat)) li fl)))⟩
  refine ax 2 (aE 16 (dtk (fuel:=13) 16 [0,1,2] (.n 39 (Zl5 (ds.take k) v) (.n 40 (Z2 ds) (.n 41 (.i k) .r))) (dx 3 (Z0 (es:=Z0i ds) (hv:=none) (j:=(k:Int)) (sz:=3) (y:=Z2s xd) kr om (Z0z hxd) rfl) (dtk (fuel:=8) 12 [4,5,6,7] (.n 44 (.i xd.frm) (.n 45 (Z2 ds) (.n 46 (.i k) .r))) (dx 8 (Z0 (es:=Z0i ds) (hv:=none) (j:=(k:Int)) (sz:=3) (y:=Z2s xd) kr om (Z0z hxd) rfl) (dtk (fuel:=3) 7 [9,10,11,12] (.n 51 (.agg [.i xd.frm,.i xd.to_,nCon (xd.cons.take j)]) .r) (do_ 13 (dL 13 [] [] (Z0i [Decl.mk xd.frm xd.to_ (xd.cons.take j)]) 1 3 ?_))))))))
  intro v6
  refine dtk (fuel:=2) 2 [] (.n 52 (Z2 [Decl.mk xd.frm xd.to_ (xd.cons.take j)]) (.p .r)) (do_ 14 (dp 14 2 [] [] (Z0i (ds.take (k+1))) (Z0i (ds.take k)) (Z0i [Decl.mk xd.frm xd.to_ (xd.cons.take j)]) v none 3 (Z76 _) (Z76 _) (Zso _) (by simp<;>omega) (by rw [Z1l hxd];simp [Z0i,List.take_of_length_le (show xd.cons.length≤j by omega)]) ?_))
  intro v7
  refine dt (fuel:=0) 1 [15] [(0,Z2 ds),(3,Zl5 (ds.take (k+1)) v7),(4,.i k)] (de (az (irk 1 (.n 12 (.i k) .r) (ia (((k+1:Nat):Int)) (((k:Int))+(1)) (irk 1 (.n 4 (.i (k+1:Nat)) (.p (.d (.k (.k .z))))) (ie ?_))))))
  exact ⟨_,_,_,ob,⟨k+1,v7,ob,rfl,rfl,rfl⟩,(wk [0] (fw (fc (x:=.i (k+1:Nat)) li fl)))⟩
 refine ax 0 (ar (ir 2 [(2,Zl5 (ds.take k) v)] (ie ?_)))
 exact at_ (r2 [] [Zl5 (ds.take k) v] ⟨rfl,rfl⟩ (AVLe.sl _ (congrArg Z0i (by rw [List.take_of_length_le om]))))
theorem Zlm (rt:Routine) (b:Block) (hp:rt.params.length≤4294967296:=by exact ob) (hl:rt.lent.length≤4294967296:=by exact ob):Z3 Tryz.prog 52 [Z0s rt,Za b] [] (fun r h=>r=Z0s (Routine.mk rt.params rt.lent rt.result b)∧h=[]):=by
 refine enter Tryz.func52 kr (n:=15) kr kr (ar (iA (Z1s rt) ?_))
 intro b1
 refine iA (Z03 b) ?_
 intro b2
 refine iA [nl,nl,.i 0,nl,.i 0] ?_
 intro b3
 refine ie (aD 11 (dT (fuel:=4) 11 [0,1,3,4,6,7,8] [(4,.p b3 0),(6,nInt rt.params),(9,nInt rt.lent),(12,.i rt.result),(13,Za b)] [2,2,2,1] [b1,b1,b1,b2] (do_ 2 (dc 2 [] [1,2,2] [b2,b1,b1] (Z26 rt.params) ?_))))
 rintro _ _ ⟨v1,rfl,rfl⟩
 refine do_ 5 (dc 5 [] [1,2] [b2,b1] (Z26 rt.lent) ?_)
 rintro _ _ ⟨v2,rfl,rfl⟩
 refine dtk (fuel:=1) 2 [9] (.n 14 (.agg [oInt rt.params v1,oInt rt.lent v2,.i rt.result,Z0b b.steps,.i b.result]) .r) (do_ 10 (dS 10 2 [] [] b3 0 [oInt rt.params v1,oInt rt.lent v2,.i rt.result,Z0b b.steps,.i b.result] [nl,nl,.i 0,nl,.i 0] [oInt rt.params v1,oInt rt.lent v2,.i rt.result,Z0b b.steps,.i b.result] (de ?_)))
 exact at_ (r3 [] [.agg [oInt rt.params v1,oInt rt.lent v2,.i rt.result,Z0b b.steps,.i b.result]] [0] [(b3,b3)] ⟨rfl,rfl⟩ (AVLe.agg (.cons (AVLe.sl _ (congrArg Z8 ob)) (.cons (AVLe.sl _ (congrArg Z8 ob)) (.cons li (.cons (AVLe.sl _ (congrArg Zo ob)) (.cons li .nil)))))))
theorem Zls (xs:List Int) (hl_xs:xs.length≤4294967296:=by exact ob):Z3 Tryz.prog 111 [nInt xs] [] (fun r h=>∃(v:Value),r=oInt xs v∧h=[.tail v 1]):=by
 refine enter Tryz.func111 kr (n:=22) kr kr (ar (ir 1 [(0,nInt xs)] (ie (ar (irk 1 (.n 5 (nInt xs) .r) (iw (Z4 xs) (iKM xs.length [AV.i 0] 1 ?_)))))))
 intro g1
 refine irk 1 (.n 3 (.ms g1 0 xs.length xs.length) .r) (ie (aq (ar (irk 1 (.n 4 (.i 0) .r) (ie (ab 0 (al (fun m F h=>∃(k:Nat),(k≤xs.length)∧F=[(0,nInt xs),(3,.ms g1 0 xs.length xs.length),(4,.i k)]∧h=[.row (.slice (some ⟨g1,0,none⟩) xs.length xs.length) 1 (flat (Z8 (xs.take k))++(List.replicate (xs.length-k) ([.i 0]:List AV)).flatten)]∧m=xs.length-k) _ _ _ ⟨0,ob,rfl,rfl,rfl⟩ (wk [0] (fw (fc (x:=.i 0) li fl)) (e:=(rr (ls:=(List.replicate xs.length [AV.i 0]).flatten) (by rfl) rz))) ?_)))))))
 rintro m F h ⟨k,c0_0,rfl,rfl,rfl⟩
 refine aq (ar (irk 2 (.n 8 (.i k) (.n 9 (nInt xs) .r)) (iw (Z4 xs) (irk 1 (.n 11 (.b (decide ((k:Int)<(xs.length:Int)))) .r) (ie (ac (decide ((k:Int)<(xs.length:Int))) dq (fun hc1=>?_) (fun hc1=>?_)))))))
 ·refine ak (aq (ab 1 (az (irk 4 (.n 14 (.ms g1 0 xs.length xs.length) (.n 15 (.i k) (.n 16 (nInt xs) (.n 17 (.i k) .r)))) ?_))))
  obtain ⟨x1,hx1⟩:=Z6 (xs:=xs) (j:=k) om
  refine is_ (Z0 (es:=Z8 xs) (hv:=none) (j:=(k:Int)) (sz:=1) (y:=.i x1) kr om (Z9 hx1) rfl) (irk 1 (.n 19 (.i x1) .r) (is_ (kIdx g1 xs.length xs.length k 1 (k:Int)) (iKS 0 g1 xs.length xs.length 1 (k*1) [.i x1] (flat (Z8 (xs.take k))++(List.replicate (xs.length-k) ([.i 0]:List AV)).flatten) (flat (Z8 (xs.take k))++([AV.i x1]++(List.replicate (xs.length-(k+1)) ([.i 0]:List AV)).flatten)) (by rw [Zar (a:=0) (q:=1) (by rw [Zmu,List.length_take,Nat.min_eq_left c0_0]) c0_0 rfl];simp;omega) (by rw [Z78 om];exact Z6q (by rw [Zmu,List.length_take,Nat.min_eq_left c0_0]) rfl) (ie (az (irk 1 (.n 12 (.i k) .r) (ia (((k+1:Nat):Int)) (((k:Int))+(1)) (ir 1 [(0,nInt xs),(3,.ms g1 0 xs.length xs.length),(4,.i (k+1:Nat))] (ie ?_)))))))))
  exact ⟨_,_,_,ob,⟨k+1,ob,rfl,rfl,rfl⟩,(wk [0] (fw (fc (x:=.i (k+1:Nat)) li fl)) (e:=(rr (ls:=flat (Z8 (xs.take k))++([AV.i x1]++(List.replicate (xs.length-(k+1)) ([.i 0]:List AV)).flatten)) (Zy0 hx1) rz)))⟩
 refine ax 0 (ar (ir 2 [(2,.ms g1 0 xs.length xs.length)] (ie (Z2e (tRow 0 (.slice (some ⟨g1,0,none⟩) xs.length xs.length) 1 (flat (Z8 (xs.take k))++(List.replicate (xs.length-k) ([.i 0]:List AV)).flatten) (flat (Z8 xs)) (by rw [Zaq om,List.take_of_length_le om])) (kFrz 2 0 (v:=(⟨some ⟨g1,0,none⟩,xs.length,xs.length⟩:Hd)) (Z8 xs) (Z11 _) ?_)))))
 exact at_ (r1 [0] ⟨(⟨some ⟨g1,0,none⟩,xs.length,xs.length⟩:Hd).v,rfl,rfl⟩)
theorem Z06k (x:Con) (hl:conC x≤1000000000:=by exact ob):Z3 Tryz.prog 158 [aCon x] [] (fun r h=>∃(y:HCon),r=Z02h y∧h=[.many (Z40 y)]∧y.er=x):=by
 refine enter Tryz.func158 kr (n:=9) kr kr (ar (iA (lCon x) ?_))
 intro b1
 refine iA [nl] ?_
 intro b2
 refine ie (ar (iA [nl] ?_))
 intro b3
 refine ie (ar (iR 2 [(2,.p b2 0),(3,.p b3 0),(5,nInt x.fields)] [2] [b1] (ic [] (Zls x.fields (hl_xs:=(by have h:=hl;unfold conC at h;omega))) ?_)))
 rintro _ _ ⟨v1,rfl,rfl⟩
 refine irk 1 (.n 7 (.p b3 0) .r) (iS 1 b3 0 [oInt x.fields v1] [nl] [oInt x.fields v1] (ie (ar (irK 1 (.n 8 (.agg [oInt x.fields v1]) .r) [0] [b3] (iS 2 b2 0 [oInt x.fields v1] [nl] [oInt x.fields v1] (ie (Z2e (tB [2] [.tail v1 1] ((v1,1)::[]) (Z40 (HCon.mk x.fields v1)) (by simp [Z0j,Z01,Z0u,Z0n,Zr,Z0o,Z04,Z06,Zp,Z1v,Z0d,Z1b,Z0m,Zl,Z40,Z2f,Z0r,Zz])) ?_)))))))
 exact at_ (r3 [0] [.agg [oInt x.fields v1]] [1] [(b2,b2)] ⟨(HCon.mk x.fields v1),rfl,rfl,rfl⟩ (lr _))
theorem Z04w (xs:List Con) (hl:Z6c xs≤1000000000:=by exact ob):Z3 Tryz.prog 110 [nCon xs] [] (fun r h=>∃(ys:List HCon) (w:Value),r=Zfk ys w∧h=[.many (Z1b ys),.tail w 1]∧ys.map HCon.er=xs):=by
 refine enter Tryz.func110 kr (n:=23) kr kr (ar (ir 1 [(0,nCon xs)] (ie (ar (irk 1 (.n 5 (nCon xs) .r) (iw (Z0k xs) (iKM xs.length [nl] 1 ?_ (hl:=(by have h:=hl;unfold Z6c at h;omega)))))))))
 intro g1
 refine irk 1 (.n 3 (.ms g1 0 xs.length xs.length) .r) (ie (aq (ar (irk 1 (.n 4 (.i 0) .r) (ie (ab 0 (Z2e (tB [] [] [] (Z1b []) (by simp [Z0j,Z01,Z0u,Z0n,Zr,Z0o,Z04,Z06,Zp,Z1v,Z0d,Z1b,Z0m,Zl,Z40,Z2f,Z0r,Zz])) (al (fun m F h=>∃(k:Nat) (ys:List HCon),(k≤xs.length)∧(ys.map HCon.er=xs.take k)∧(ys.length=k)∧F=[(0,nCon xs),(3,.ms g1 0 xs.length xs.length),(4,.i k)]∧h=[.row (.slice (some ⟨g1,0,none⟩) xs.length xs.length) 1 (flat (Z2n ys)++(List.replicate (xs.length-k) ([nl]:List AV)).flatten),.many (Z1b ys)]∧m=xs.length-k) _ _ _ ⟨0,[],ob,rfl,rfl,rfl,rfl,rfl⟩ (wk [1,0] (fw (fc (x:=.i 0) li fl)) (e:=(rr (ls:=(List.replicate xs.length [nl]).flatten) (by rfl) (rc rz)))) ?_))))))))
 rintro m F h ⟨k,ys,c0_0,c0_1,c0_2,rfl,rfl,rfl⟩
 refine aq (ar (irk 2 (.n 8 (.i k) (.n 9 (nCon xs) .r)) (iw (Z0k xs) (irk 1 (.n 11 (.b (decide ((k:Int)<(xs.length:Int)))) .r) (ie (ac (decide ((k:Int)<(xs.length:Int))) dq (fun hc1=>?_) (fun hc1=>?_)))))))
 ·refine ak (aq (ab 1 (az (irk 4 (.n 14 (.ms g1 0 xs.length xs.length) (.n 15 (.i k) (.n 16 (nCon xs) (.n 17 (.i k) .r)))) ?_))))
  obtain ⟨x1,hx1⟩:=Z6 (xs:=xs) (j:=k) om
  have hcl:=Zkf hx1
  have hl2:=hl
  unfold Z6c at hl2
  refine is_ (Z0 (es:=Z37 xs) (hv:=none) (j:=(k:Int)) (sz:=1) (y:=aCon x1) kr om (Z4g hx1) rfl) (irk 1 (.n 19 (aCon x1) .r) (ic [] (Z06k x1) ?_))
  rintro _ _ ⟨y1,rfl,rfl,hp1⟩
  have hy:=hp1
  refine is_ (kIdx g1 xs.length xs.length k 1 (k:Int)) (iKS 1 g1 xs.length xs.length 1 (k*1) (Znb y1) (flat (Z2n ys)++(List.replicate (xs.length-k) ([nl]:List AV)).flatten) (flat (Z2n ys)++(Znb y1++(List.replicate (xs.length-(k+1)) ([nl]:List AV)).flatten)) (by rw [Zar (a:=0) (q:=1) (by rw [Zgx,c0_2]) c0_0 rfl];simp;omega) (by rw [Z78 om];exact Z6q (by rw [Zgx,c0_2]) rfl) (Z4v (tB [2,1] [.many (Z1b ys),.many (Z40 y1)] (Z1b ys++(Z40 y1++[])) (Z1b (ys++[y1])) (by simp [Z0j,Z01,Z0u,Z0n,Zr,Z0o,Z04,Z06,Zp,Z1v,Z0d,Z1b,Z0m,Zl,Z40,Z2f,Z0r,Zz])) (ie (az (irk 1 (.n 12 (.i k) .r) (ia (((k+1:Nat):Int)) (((k:Int))+(1)) (ir 1 [(0,nCon xs),(3,.ms g1 0 xs.length xs.length),(4,.i (k+1:Nat))] (ie ?_))))))))
  exact ⟨_,_,_,ob,⟨k+1,(ys++[y1]),ob,(Zcy c0_1 hx1 hy),(by simp [c0_2]),rfl,rfl,rfl⟩,(wk [1,0] (fw (fc (x:=.i (k+1:Nat)) li fl)) (e:=(rr (ls:=flat (Z2n ys)++(Znb y1++(List.replicate (xs.length-(k+1)) ([nl]:List AV)).flatten)) Ztp (rc rz))))⟩
 refine ax 0 (ar (ir 2 [(2,.ms g1 0 xs.length xs.length)] (ie (Z2e (tRow 0 (.slice (some ⟨g1,0,none⟩) xs.length xs.length) 1 (flat (Z2n ys)++(List.replicate (xs.length-k) ([nl]:List AV)).flatten) (flat (Z2n ys)) (Zaq om)) (kFrz 2 0 (v:=(⟨some ⟨g1,0,none⟩,xs.length,xs.length⟩:Hd)) (Z2n ys) (Zdy _) ?_)))))
 exact at_ (r1 [1,0] ⟨ys,(⟨some ⟨g1,0,none⟩,xs.length,xs.length⟩:Hd).v,rfl,rfl,(by rw [c0_1,List.take_of_length_le om])⟩)
theorem Z04x (x:Decl) (hl:Z5h x≤1000000000:=by exact ob):Z3 Tryz.prog 54 [Z2s x] [] (fun r h=>∃(y:HDecl),r=Zuc y∧h=[.many (Z2f y)]∧y.er=x):=by
 refine enter Tryz.func54 kr (n:=15) kr kr (ar (iA (Z2g x) ?_))
 intro b1
 refine iA [.i 0,.i 0,nl] ?_
 intro b2
 refine ie (ar (iA [.i 0,.i 0,nl] ?_))
 intro b3
 refine ie (ar (iR 3 [(1,.p b1 0),(2,.p b2 0),(3,.p b3 0),(5,.i x.frm),(6,.p b3 0)] [2] [b1] (iS 0 b3 0 [.i x.frm] [.i 0,.i 0,nl] [.i x.frm,.i 0,nl] (ie (ar (irK 3 (.n 8 (.i x.to_) (.n 9 (.p b3 1) .r)) [2] [b1] (iS 0 b3 1 [.i x.to_] [.i x.frm,.i 0,nl] [.i x.frm,.i x.to_,nl] (ie (ar (irK 2 (.n 11 (nCon x.cons) .r) [2] [b1] (ic [] (Z04w x.cons (hl:=(by have h:=hl;unfold Z5h at h;exact h))) ?_)))))))))))
 rintro _ _ ⟨ys1,w1,rfl,rfl,hp1⟩
 have hy:=hp1
 refine irk 1 (.n 13 (.p b3 2) .r) (iS 2 b3 2 [Zfk ys1 w1] [.i x.frm,.i x.to_,nl] [.i x.frm,.i x.to_,Zfk ys1 w1] (ie (ar (irK 1 (.n 14 (.agg [.i x.frm,.i x.to_,Zfk ys1 w1]) .r) [0] [b3] (iS 3 b2 0 [.i x.frm,.i x.to_,Zfk ys1 w1] [.i 0,.i 0,nl] [.i x.frm,.i x.to_,Zfk ys1 w1] (ie (Z2e (tB [2,2] [.many (Z1b ys1),.tail w1 1] (Z1b ys1++((w1,1)::[])) (Z2f (HDecl.mk x.frm x.to_ ys1 w1)) (by simp [Z0j,Z01,Z0u,Z0n,Zr,Z0o,Z04,Z06,Zp,Z1v,Z0d,Z1b,Z0m,Zl,Z40,Z2f,Z0r,Zz])) ?_)))))))
 exact at_ (r3 [0] [.agg [.i x.frm,.i x.to_,Zfk ys1 w1]] [1] [(b2,b2)] ⟨(HDecl.mk x.frm x.to_ ys1 w1),rfl,rfl,(by show Decl.mk _ _ _=_;rw [hy])⟩ (lr _))
theorem Z01n (xs:List Decl) (hl:Z2x xs≤1000000000:=by exact ob):Z3 Tryz.prog 22 [Z2 xs] [] (fun r h=>∃(ys:List HDecl) (w:Value),r=Z4w ys w∧h=[.many (Z0m ys),.tail w 3]∧ys.map HDecl.er=xs):=by
 refine enter Tryz.func22 kr (n:=23) kr kr (ar (ir 1 [(0,Z2 xs)] (ie (ar (irk 1 (.n 5 (Z2 xs) .r) (iw (Z0c xs) (iKM xs.length [.i 0,.i 0,nl] 3 ?_ (hl:=(by have h:=hl;unfold Z2x at h;omega)))))))))
 intro g1
 refine irk 1 (.n 3 (.ms g1 0 xs.length xs.length) .r) (ie (aq (ar (irk 1 (.n 4 (.i 0) .r) (ie (ab 0 (Z2e (tB [] [] [] (Z0m []) (by simp [Z0j,Z01,Z0u,Z0n,Zr,Z0o,Z04,Z06,Zp,Z1v,Z0d,Z1b,Z0m,Zl,Z40,Z2f,Z0r,Zz])) (al (fun m F h=>∃(k:Nat) (ys:List HDecl),(k≤xs.length)∧(ys.map HDecl.er=xs.take k)∧(ys.length=k)∧F=[(0,Z2 xs),(3,.ms g1 0 xs.length xs.length),(4,.i k)]∧h=[.row (.slice (some ⟨g1,0,none⟩) xs.length xs.length) 3 (flat (Z1d ys)++(List.replicate (xs.length-k) ([.i 0,.i 0,nl]:List AV)).flatten),.many (Z0m ys)]∧m=xs.length-k) _ _ _ ⟨0,[],ob,rfl,rfl,rfl,rfl,rfl⟩ (wk [1,0] (fw (fc (x:=.i 0) li fl)) (e:=(rr (ls:=(List.replicate xs.length [.i 0,.i 0,nl]).flatten) (by rfl) (rc rz)))) ?_))))))))
 rintro m F h ⟨k,ys,c0_0,c0_1,c0_2,rfl,rfl,rfl⟩
 refine aq (ar (irk 2 (.n 8 (.i k) (.n 9 (Z2 xs) .r)) (iw (Z0c xs) (irk 1 (.n 11 (.b (decide ((k:Int)<(xs.length:Int)))) .r) (ie (ac (decide ((k:Int)<(xs.length:Int))) dq (fun hc1=>?_) (fun hc1=>?_)))))))
 ·refine ak (aq (ab 1 (az (irk 4 (.n 14 (.ms g1 0 xs.length xs.length) (.n 15 (.i k) (.n 16 (Z2 xs) (.n 17 (.i k) .r)))) ?_))))
  obtain ⟨x1,hx1⟩:=Z6 (xs:=xs) (j:=k) om
  have hcl:=Zft hx1
  have hl2:=hl
  unfold Z2x at hl2
  refine is_ (Z0 (es:=Z0i xs) (hv:=none) (j:=(k:Int)) (sz:=3) (y:=Z2s x1) kr om (Z0z hx1) rfl) (irk 1 (.n 19 (Z2s x1) .r) (ic [] (Z04x x1) ?_))
  rintro _ _ ⟨y1,rfl,rfl,hp1⟩
  have hy:=hp1
  refine is_ (kIdx g1 xs.length xs.length k 3 (k:Int)) (iKS 1 g1 xs.length xs.length 3 (k*3) (Zf2 y1) (flat (Z1d ys)++(List.replicate (xs.length-k) ([.i 0,.i 0,nl]:List AV)).flatten) (flat (Z1d ys)++(Zf2 y1++(List.replicate (xs.length-(k+1)) ([.i 0,.i 0,nl]:List AV)).flatten)) (by rw [Zar (a:=0) (q:=3) (by rw [Z4q,c0_2]) c0_0 rfl];simp;omega) (by rw [Z78 om];exact Z6q (by rw [Z4q,c0_2]) rfl) (Z4v (tB [2,1] [.many (Z0m ys),.many (Z2f y1)] (Z0m ys++(Z2f y1++[])) (Z0m (ys++[y1])) (by simp [Z0j,Z01,Z0u,Z0n,Zr,Z0o,Z04,Z06,Zp,Z1v,Z0d,Z1b,Z0m,Zl,Z40,Z2f,Z0r,Zz])) (ie (az (irk 1 (.n 12 (.i k) .r) (ia (((k+1:Nat):Int)) (((k:Int))+(1)) (ir 1 [(0,Z2 xs),(3,.ms g1 0 xs.length xs.length),(4,.i (k+1:Nat))] (ie ?_))))))))
  exact ⟨_,_,_,ob,⟨k+1,(ys++[y1]),ob,(Zcy c0_1 hx1 hy),(by simp [c0_2]),rfl,rfl,rfl⟩,(wk [1,0] (fw (fc (x:=.i (k+1:Nat)) li fl)) (e:=(rr (ls:=flat (Z1d ys)++(Zf2 y1++(List.replicate (xs.length-(k+1)) ([.i 0,.i 0,nl]:List AV)).flatten)) Ztq (rc rz))))⟩
 refine ax 0 (ar (ir 2 [(2,.ms g1 0 xs.length xs.length)] (ie (Z2e (tRow 0 (.slice (some ⟨g1,0,none⟩) xs.length xs.length) 3 (flat (Z1d ys)++(List.replicate (xs.length-k) ([.i 0,.i 0,nl]:List AV)).flatten) (flat (Z1d ys)) (Zaq om)) (kFrz 2 0 (v:=(⟨some ⟨g1,0,none⟩,xs.length,xs.length⟩:Hd)) (Z1d ys) (Zbi _) ?_)))))
 exact at_ (r1 [1,0] ⟨ys,(⟨some ⟨g1,0,none⟩,xs.length,xs.length⟩:Hd).v,rfl,rfl,(by rw [c0_1,List.take_of_length_le om])⟩)
theorem Zu4 (xs:List Block) (hl:bcsC xs≤1000000000) (ih:∀(b2:Block),(b2.sz≤bsz xs)→(b2.cst≤1000000000)→Z3 Tryz.prog 112 [Za b2] [] (fun r h=>∃(y:HBlock),r=Z3i y∧h=[.many (Z0d y)]∧y.er=b2)):Z3 Tryz.prog 213 [Zv xs] [] (fun r h=>∃(ys:List HBlock) (w:Value),r=Z1w ys w∧h=[.many (Zp ys),.tail w 2]∧ys.map HBlock.er=xs):=by
 refine enter Tryz.func213 kr (n:=23) kr kr (ar (ir 1 [(0,Zv xs)] (ie (ar (irk 1 (.n 5 (Zv xs) .r) (iw (Z0f xs) (iKM xs.length [nl,.i 0] 2 ?_ (hl:=(by have h:=hl;unfold bcsC at h;omega)))))))))
 intro g1
 refine irk 1 (.n 3 (.ms g1 0 xs.length xs.length) .r) (ie (aq (ar (irk 1 (.n 4 (.i 0) .r) (ie (ab 0 (Z2e (tB [] [] [] (Zp []) (by simp [Z0j,Z01,Z0u,Z0n,Zr,Z0o,Z04,Z06,Zp,Z1v,Z0d,Z1b,Z0m,Zl,Z40,Z2f,Z0r,Zz])) (al (fun m F h=>∃(k:Nat) (ys:List HBlock),(k≤xs.length)∧(ys.map HBlock.er=xs.take k)∧(ys.length=k)∧F=[(0,Zv xs),(3,.ms g1 0 xs.length xs.length),(4,.i k)]∧h=[.row (.slice (some ⟨g1,0,none⟩) xs.length xs.length) 2 (flat (Z1c ys)++(List.replicate (xs.length-k) ([nl,.i 0]:List AV)).flatten),.many (Zp ys)]∧m=xs.length-k) _ _ _ ⟨0,[],ob,rfl,rfl,rfl,rfl,rfl⟩ (wk [1,0] (fw (fc (x:=.i 0) li fl)) (e:=(rr (ls:=(List.replicate xs.length [nl,.i 0]).flatten) (by rfl) (rc rz)))) ?_))))))))
 rintro m F h ⟨k,ys,c0_0,c0_1,c0_2,rfl,rfl,rfl⟩
 refine aq (ar (irk 2 (.n 8 (.i k) (.n 9 (Zv xs) .r)) (iw (Z0f xs) (irk 1 (.n 11 (.b (decide ((k:Int)<(xs.length:Int)))) .r) (ie (ac (decide ((k:Int)<(xs.length:Int))) dq (fun hc1=>?_) (fun hc1=>?_)))))))
 ·refine ak (aq (ab 1 (az (irk 4 (.n 14 (.ms g1 0 xs.length xs.length) (.n 15 (.i k) (.n 16 (Zv xs) (.n 17 (.i k) .r)))) ?_))))
  obtain ⟨x1,hx1⟩:=Z6 (xs:=xs) (j:=k) om
  have hcl:=Zoy hx1
  have hsz:=Zma hx1
  have hl2:=hl
  unfold bcsC at hl2
  refine is_ (Z0 (es:=Z19 xs) (hv:=none) (j:=(k:Int)) (sz:=2) (y:=Za x1) kr om (Z1q hx1) rfl) (irk 1 (.n 19 (Za x1) .r) (ic [] (ih x1 ob ob) ?_))
  rintro _ _ ⟨y1,rfl,rfl,hp1⟩
  have hy:=hp1
  refine is_ (kIdx g1 xs.length xs.length k 2 (k:Int)) (iKS 1 g1 xs.length xs.length 2 (k*2) (Z7m y1) (flat (Z1c ys)++(List.replicate (xs.length-k) ([nl,.i 0]:List AV)).flatten) (flat (Z1c ys)++(Z7m y1++(List.replicate (xs.length-(k+1)) ([nl,.i 0]:List AV)).flatten)) (by rw [Zar (a:=0) (q:=2) (by rw [Zj7,c0_2]) c0_0 rfl];simp;omega) (by rw [Z78 om];exact Z6q (by rw [Zj7,c0_2]) rfl) (Z4v (tB [2,1] [.many (Zp ys),.many (Z0d y1)] (Zp ys++(Z0d y1++[])) (Zp (ys++[y1])) (by simp [Z0j,Z01,Z0u,Z0n,Zr,Z0o,Z04,Z06,Zp,Z1v,Z0d,Z1b,Z0m,Zl,Z40,Z2f,Z0r,Zz])) (ie (az (irk 1 (.n 12 (.i k) .r) (ia (((k+1:Nat):Int)) (((k:Int))+(1)) (ir 1 [(0,Zv xs),(3,.ms g1 0 xs.length xs.length),(4,.i (k+1:Nat))] (ie ?_))))))))
  exact ⟨_,_,_,ob,⟨k+1,(ys++[y1]),ob,(Zcy c0_1 hx1 hy),(by simp [c0_2]),rfl,rfl,rfl⟩,(wk [1,0] (fw (fc (x:=.i (k+1:Nat)) li fl)) (e:=(rr (ls:=flat (Z1c ys)++(Z7m y1++(List.replicate (xs.length-(k+1)) ([nl,.i 0]:List AV)).flatten)) Zto (rc rz))))⟩
 refine ax 0 (ar (ir 2 [(2,.ms g1 0 xs.length xs.length)] (ie (Z2e (tRow 0 (.slice (some ⟨g1,0,none⟩) xs.length xs.length) 2 (flat (Z1c ys)++(List.replicate (xs.length-k) ([nl,.i 0]:List AV)).flatten) (flat (Z1c ys)) (Zaq om)) (kFrz 2 0 (v:=(⟨some ⟨g1,0,none⟩,xs.length,xs.length⟩:Hd)) (Z1c ys) (Z6e _) ?_)))))
 exact at_ (r1 [1,0] ⟨ys,(⟨some ⟨g1,0,none⟩,xs.length,xs.length⟩:Hd).v,rfl,rfl,(by rw [c0_1,List.take_of_length_le om])⟩)
theorem Zz0 (xs:List Step) (hl:scsC xs≤1000000000) (ih:∀(s2:Step),(s2.sz≤ssz xs)→(s2.cst≤1000000000)→Z3 Tryz.prog 194 [Z0g s2] [] (fun r h=>∃(y:HStep),r=Zc6 y∧h=[.many (Z1v y)]∧y.er=s2)):Z3 Tryz.prog 159 [Z0b xs] [] (fun r h=>∃(ys:List HStep) (w:Value),r=Z3b ys w∧h=[.many (Z06 ys),.tail w 5]∧ys.map HStep.er=xs):=by
 refine enter Tryz.func159 kr (n:=23) kr kr (ar (ir 1 [(0,Z0b xs)] (ie (ar (irk 1 (.n 5 (Z0b xs) .r) (iw (Z0l xs) (iKM xs.length [.i 0,.i 0,.i 0,nl,nl] 5 ?_ (hl:=(by have h:=hl;unfold scsC at h;omega)))))))))
 intro g1
 refine irk 1 (.n 3 (.ms g1 0 xs.length xs.length) .r) (ie (aq (ar (irk 1 (.n 4 (.i 0) .r) (ie (ab 0 (Z2e (tB [] [] [] (Z06 []) (by simp [Z0j,Z01,Z0u,Z0n,Zr,Z0o,Z04,Z06,Zp,Z1v,Z0d,Z1b,Z0m,Zl,Z40,Z2f,Z0r,Zz])) (al (fun m F h=>∃(k:Nat) (ys:List HStep),(k≤xs.length)∧(ys.map HStep.er=xs.take k)∧(ys.length=k)∧F=[(0,Z0b xs),(3,.ms g1 0 xs.length xs.length),(4,.i k)]∧h=[.row (.slice (some ⟨g1,0,none⟩) xs.length xs.length) 5 (flat (Z28 ys)++(List.replicate (xs.length-k) ([.i 0,.i 0,.i 0,nl,nl]:List AV)).flatten),.many (Z06 ys)]∧m=xs.length-k) _ _ _ ⟨0,[],ob,rfl,rfl,rfl,rfl,rfl⟩ (wk [1,0] (fw (fc (x:=.i 0) li fl)) (e:=(rr (ls:=(List.replicate xs.length [.i 0,.i 0,.i 0,nl,nl]).flatten) (by rfl) (rc rz)))) ?_))))))))
 rintro m F h ⟨k,ys,c0_0,c0_1,c0_2,rfl,rfl,rfl⟩
 refine aq (ar (irk 2 (.n 8 (.i k) (.n 9 (Z0b xs) .r)) (iw (Z0l xs) (irk 1 (.n 11 (.b (decide ((k:Int)<(xs.length:Int)))) .r) (ie (ac (decide ((k:Int)<(xs.length:Int))) dq (fun hc1=>?_) (fun hc1=>?_)))))))
 ·refine ak (aq (ab 1 (az (irk 4 (.n 14 (.ms g1 0 xs.length xs.length) (.n 15 (.i k) (.n 16 (Z0b xs) (.n 17 (.i k) .r)))) ?_))))
  obtain ⟨x1,hx1⟩:=Z6 (xs:=xs) (j:=k) om
  have hcl:=Zq0 hx1
  have hsz:=Zo4 hx1
  have hl2:=hl
  unfold scsC at hl2
  refine is_ (Z0 (es:=Zo xs) (hv:=none) (j:=(k:Int)) (sz:=5) (y:=Z0g x1) kr om (Z0y hx1) rfl) (irk 1 (.n 19 (Z0g x1) .r) (ic [] (ih x1 ob ob) ?_))
  rintro _ _ ⟨y1,rfl,rfl,hp1⟩
  have hy:=hp1
  refine is_ (kIdx g1 xs.length xs.length k 5 (k:Int)) (iKS 1 g1 xs.length xs.length 5 (k*5) (Zf3 y1) (flat (Z28 ys)++(List.replicate (xs.length-k) ([.i 0,.i 0,.i 0,nl,nl]:List AV)).flatten) (flat (Z28 ys)++(Zf3 y1++(List.replicate (xs.length-(k+1)) ([.i 0,.i 0,.i 0,nl,nl]:List AV)).flatten)) (by rw [Zar (a:=0) (q:=5) (by rw [Zj9,c0_2]) c0_0 rfl];simp;omega) (by rw [Z78 om];exact Z6q (by rw [Zj9,c0_2]) rfl) (Z4v (tB [2,1] [.many (Z06 ys),.many (Z1v y1)] (Z06 ys++(Z1v y1++[])) (Z06 (ys++[y1])) (by simp [Z0j,Z01,Z0u,Z0n,Zr,Z0o,Z04,Z06,Zp,Z1v,Z0d,Z1b,Z0m,Zl,Z40,Z2f,Z0r,Zz])) (ie (az (irk 1 (.n 12 (.i k) .r) (ia (((k+1:Nat):Int)) (((k:Int))+(1)) (ir 1 [(0,Z0b xs),(3,.ms g1 0 xs.length xs.length),(4,.i (k+1:Nat))] (ie ?_))))))))
  exact ⟨_,_,_,ob,⟨k+1,(ys++[y1]),ob,(Zcy c0_1 hx1 hy),(by simp [c0_2]),rfl,rfl,rfl⟩,(wk [1,0] (fw (fc (x:=.i (k+1:Nat)) li fl)) (e:=(rr (ls:=flat (Z28 ys)++(Zf3 y1++(List.replicate (xs.length-(k+1)) ([.i 0,.i 0,.i 0,nl,nl]:List AV)).flatten)) Zts (rc rz))))⟩
 refine ax 0 (ar (ir 2 [(2,.ms g1 0 xs.length xs.length)] (ie (Z2e (tRow 0 (.slice (some ⟨g1,0,none⟩) xs.length xs.length) 5 (flat (Z28 ys)++(List.replicate (xs.length-k) ([.i 0,.i 0,.i 0,nl,nl]:List AV)).flatten) (flat (Z28 ys)) (Zaq om)) (kFrz 2 0 (v:=(⟨some ⟨g1,0,none⟩,xs.length,xs.length⟩:Hd)) (Z28 ys) (Zbj _) ?_)))))
 exact at_ (r1 [1,0] ⟨ys,(⟨some ⟨g1,0,none⟩,xs.length,xs.length⟩:Hd).v,rfl,rfl,(by rw [c0_1,List.take_of_length_le om])⟩)
theorem Z01o (x:Step) (hl:x.cst≤1000000000) (ih:∀(bs:List Block),(bsz bs<x.sz)→(bcsC bs≤1000000000)→Z3 Tryz.prog 213 [Zv bs] [] (fun r h=>∃(ys:List HBlock) (w:Value),r=Z1w ys w∧h=[.many (Zp ys),.tail w 2]∧ys.map HBlock.er=bs)):Z3 Tryz.prog 194 [Z0g x] [] (fun r h=>∃(y:HStep),r=Zc6 y∧h=[.many (Z1v y)]∧y.er=x):=by
 have hce:=x.cst_eq
 have hse:=x.sz_eq
 have hbc:bcsC x.kids=x.kids.length+bcs x.kids:=rfl
 refine enter Tryz.func194 kr (n:=22) kr kr (ar (iA (Z02 x) ?_))
 intro b1
 refine iA [.i 0,.i 0,.i 0,nl,nl] ?_
 intro b2
 refine ie (ar (iA [.i 0,.i 0,.i 0,nl,nl] ?_))
 intro b3
 refine ie (ar (iR 3 [(1,.p b1 0),(2,.p b2 0),(3,.p b3 0),(5,.i x.op),(6,.p b3 0)] [2] [b1] (iS 0 b3 0 [.i x.op] [.i 0,.i 0,.i 0,nl,nl] [.i x.op,.i 0,.i 0,nl,nl] (ie (ar (irK 3 (.n 8 (.i x.num) (.n 9 (.p b3 1) .r)) [2] [b1] (iS 0 b3 1 [.i x.num] [.i x.op,.i 0,.i 0,nl,nl] [.i x.op,.i x.num,.i 0,nl,nl] (ie (ar (irK 3 (.n 11 (.i x.into) (.n 12 (.p b3 2) .r)) [2] [b1] (iS 0 b3 2 [.i x.into] [.i x.op,.i x.num,.i 0,nl,nl] [.i x.op,.i x.num,.i x.into,nl,nl] (ie (ar (irK 2 (.n 14 (nInt x.args) .r) [2] [b1] (ic [] (Zls x.args) ?_)))))))))))))))
 rintro _ _ ⟨v1,rfl,rfl⟩
 refine irk 1 (.n 16 (.p b3 3) .r) (iS 1 b3 3 [oInt x.args v1] [.i x.op,.i x.num,.i x.into,nl,nl] [.i x.op,.i x.num,.i x.into,oInt x.args v1,nl] (ie (ar (irK 2 (.n 18 (Zv x.kids) .r) [3] [b1] (ic [] (ih x.kids ob ob) ?_)))))
 rintro _ _ ⟨ys1,w1,rfl,rfl,hp1⟩
 have hy:=hp1
 refine irk 1 (.n 20 (.p b3 4) .r) (iS 2 b3 4 [Z1w ys1 w1] [.i x.op,.i x.num,.i x.into,oInt x.args v1,nl] [.i x.op,.i x.num,.i x.into,oInt x.args v1,Z1w ys1 w1] (ie (ar (irK 1 (.n 21 (.agg [.i x.op,.i x.num,.i x.into,oInt x.args v1,Z1w ys1 w1]) .r) [0] [b3] (iS 4 b2 0 [.i x.op,.i x.num,.i x.into,oInt x.args v1,Z1w ys1 w1] [.i 0,.i 0,.i 0,nl,nl] [.i x.op,.i x.num,.i x.into,oInt x.args v1,Z1w ys1 w1] (ie (Z2e (tB [4,2,2] [.tail v1 1,.many (Zp ys1),.tail w1 2] ((v1,1)::(Zp ys1++((w1,2)::[]))) (Z1v (HStep.mk x.op x.num x.into x.args v1 ys1 w1)) (by simp [Z0j,Z01,Z0u,Z0n,Zr,Z0o,Z04,Z06,Zp,Z1v,Z0d,Z1b,Z0m,Zl,Z40,Z2f,Z0r,Zz])) ?_)))))))
 exact at_ (r3 [0] [.agg [.i x.op,.i x.num,.i x.into,oInt x.args v1,Z1w ys1 w1]] [1] [(b2,b2)] ⟨(HStep.mk x.op x.num x.into x.args v1 ys1 w1),rfl,rfl,(by rw [HStep.er,Zfw,hy];cases x;rfl)⟩ (lr _))
theorem Zyz (x:Block) (hl:x.cst≤1000000000) (ih:∀(ss:List Step),(ssz ss<x.sz)→(scsC ss≤1000000000)→Z3 Tryz.prog 159 [Z0b ss] [] (fun r h=>∃(ys:List HStep) (w:Value),r=Z3b ys w∧h=[.many (Z06 ys),.tail w 5]∧ys.map HStep.er=ss)):Z3 Tryz.prog 112 [Za x] [] (fun r h=>∃(y:HBlock),r=Z3i y∧h=[.many (Z0d y)]∧y.er=x):=by
 have hce:=x.cst_eq
 have hse:=x.sz_eq
 have hbc:scsC x.steps=x.steps.length+scs x.steps:=rfl
 refine enter Tryz.func112 kr (n:=12) kr kr (ar (iA (Z03 x) ?_))
 intro b1
 refine iA [nl,.i 0] ?_
 intro b2
 refine ie (ar (iA [nl,.i 0] ?_))
 intro b3
 refine ie (ar (iR 2 [(1,.p b1 0),(2,.p b2 0),(3,.p b3 0),(5,Z0b x.steps)] [2] [b1] (ic [] (ih x.steps ob ob) ?_)))
 rintro _ _ ⟨ys1,w1,rfl,rfl,hp1⟩
 have hy:=hp1
 refine irk 1 (.n 7 (.p b3 0) .r) (iS 2 b3 0 [Z3b ys1 w1] [nl,.i 0] [Z3b ys1 w1,.i 0] (ie (ar (irK 3 (.n 9 (.i x.result) (.n 10 (.p b3 1) .r)) [4] [b1] (iS 0 b3 1 [.i x.result] [Z3b ys1 w1,.i 0] [Z3b ys1 w1,.i x.result] (ie (ar (irK 1 (.n 11 (.agg [Z3b ys1 w1,.i x.result]) .r) [0] [b3] (iS 3 b2 0 [Z3b ys1 w1,.i x.result] [nl,.i 0] [Z3b ys1 w1,.i x.result] (ie (Z2e (tB [2,2] [.many (Z06 ys1),.tail w1 5] (Z06 ys1++((w1,5)::[])) (Z0d (HBlock.mk ys1 w1 x.result)) (by simp [Z0j,Z01,Z0u,Z0n,Zr,Z0o,Z04,Z06,Zp,Z1v,Z0d,Z1b,Z0m,Zl,Z40,Z2f,Z0r,Zz])) ?_)))))))))))
 exact at_ (r3 [0] [.agg [Z3b ys1 w1,.i x.result]] [1] [(b2,b2)] ⟨(HBlock.mk ys1 w1 x.result),rfl,rfl,(by rw [HBlock.er,Zfx,hy];cases x;rfl)⟩ (lr _))
theorem Z06j (k:Nat):(∀(s:Step),(s.sz<k)→(s.cst≤1000000000)→Z3 Tryz.prog 194 [Z0g s] [] (fun r h=>∃(y:HStep),r=Zc6 y∧h=[.many (Z1v y)]∧y.er=s))∧(∀(b:Block),(b.sz<k)→(b.cst≤1000000000)→Z3 Tryz.prog 112 [Za b] [] (fun r h=>∃(y:HBlock),r=Z3i y∧h=[.many (Z0d y)]∧y.er=b))∧(∀(ss:List Step),(ssz ss<k)→(scsC ss≤1000000000)→Z3 Tryz.prog 159 [Z0b ss] [] (fun r h=>∃(ys:List HStep) (w:Value),r=Z3b ys w∧h=[.many (Z06 ys),.tail w 5]∧ys.map HStep.er=ss))∧(∀(bs:List Block),(bsz bs<k)→(bcsC bs≤1000000000)→Z3 Tryz.prog 213 [Zv bs] [] (fun r h=>∃(ys:List HBlock) (w:Value),r=Z1w ys w∧h=[.many (Zp ys),.tail w 2]∧ys.map HBlock.er=bs)):=by
 induction k with
 | zero=>exact ⟨fun s h=>by omega,fun s h=>by omega,fun s h=>by omega,fun s h=>by omega⟩
 | succ k ih=>
  obtain ⟨i1,i2,i3,i4⟩:=ih
  have k1:∀(s:Step),(s.sz<k+1)→(s.cst≤1000000000)→Z3 Tryz.prog 194 [Z0g s] [] (fun r h=>∃(y:HStep),r=Zc6 y∧h=[.many (Z1v y)]∧y.er=s):=fun s h hl=>Z01o s hl fun bs h2 h3=>i4 bs om h3
  have k2:∀(b:Block),(b.sz<k+1)→(b.cst≤1000000000)→Z3 Tryz.prog 112 [Za b] [] (fun r h=>∃(y:HBlock),r=Z3i y∧h=[.many (Z0d y)]∧y.er=b):=fun b h hl=>Zyz b hl fun ss h2 h3=>i3 ss om h3
  exact ⟨k1,k2,fun ss h hl=>Zz0 ss hl fun s h2 h3=>k1 s om h3,fun bs h hl=>Zu4 bs hl fun b h2 h3=>k2 b om h3⟩
theorem Z01m (b:Block) (hl:b.cst≤1000000000:=by exact ob):Z3 Tryz.prog 112 [Za b] [] (fun r h=>∃(y:HBlock),r=Z3i y∧h=[.many (Z0d y)]∧y.er=b):=(Z06j (b.sz+1)).2.1 b om hl
theorem Zu5 (x:Routine) (hl:rtC x≤1000000000:=by exact ob):Z3 Tryz.prog 55 [Z0s x] [] (fun r h=>∃(y:HRoutine),r=Zgd y∧h=[.many (Z0r y)]∧y.er=x):=by
 have hl2:=hl
 unfold rtC at hl2
 refine enter Tryz.func55 kr (n:=20) kr kr (ar (iA (Z1s x) ?_))
 intro b1
 refine iA [nl,nl,.i 0,nl,.i 0] ?_
 intro b2
 refine ie (ar (iA [nl,nl,.i 0,nl,.i 0] ?_))
 intro b3
 refine ie (ar (iR 2 [(1,.p b1 0),(2,.p b2 0),(3,.p b3 0),(5,nInt x.params)] [2] [b1] (ic [] (Zls x.params) ?_)))
 rintro _ _ ⟨v1,rfl,rfl⟩
 refine irk 1 (.n 7 (.p b3 0) .r) (iS 1 b3 0 [oInt x.params v1] [nl,nl,.i 0,nl,.i 0] [oInt x.params v1,nl,.i 0,nl,.i 0] (ie (ar (irK 2 (.n 9 (nInt x.lent) .r) [3] [b1] (ic [] (Zls x.lent) ?_)))))
 rintro _ _ ⟨v2,rfl,rfl⟩
 refine irk 1 (.n 11 (.p b3 1) .r) (iS 1 b3 1 [oInt x.lent v2] [oInt x.params v1,nl,.i 0,nl,.i 0] [oInt x.params v1,oInt x.lent v2,.i 0,nl,.i 0] (ie (ar (irK 3 (.n 13 (.i x.result) (.n 14 (.p b3 2) .r)) [4] [b1] (iS 0 b3 2 [.i x.result] [oInt x.params v1,oInt x.lent v2,.i 0,nl,.i 0] [oInt x.params v1,oInt x.lent v2,.i x.result,nl,.i 0] (ie (ar (irK 2 (.n 16 (Za x.body) .r) [4] [b1] (ic [] (Z01m x.body) ?_)))))))))
 rintro _ _ ⟨y1,rfl,rfl,hp1⟩
 have hy:=hp1
 refine irk 1 (.n 18 (.p b3 3) .r) (iS 1 b3 3 (Z7m y1) [oInt x.params v1,oInt x.lent v2,.i x.result,nl,.i 0] [oInt x.params v1,oInt x.lent v2,.i x.result,Z3b y1.steps y1.sv,.i y1.result] (ie (ar (irK 1 (.n 19 (.agg [oInt x.params v1,oInt x.lent v2,.i x.result,Z3b y1.steps y1.sv,.i y1.result]) .r) [0] [b3] (iS 4 b2 0 [oInt x.params v1,oInt x.lent v2,.i x.result,Z3b y1.steps y1.sv,.i y1.result] [nl,nl,.i 0,nl,.i 0] [oInt x.params v1,oInt x.lent v2,.i x.result,Z3b y1.steps y1.sv,.i y1.result] (ie (Z2e (tB [4,3,2] [.tail v1 1,.tail v2 1,.many (Z0d y1)] ((v1,1)::((v2,1)::(Z0d y1++[]))) (Z0r (HRoutine.mk x.params v1 x.lent v2 x.result (HBlock.mk y1.steps y1.sv y1.result))) (by simp [Z0j,Z01,Z0u,Z0n,Zr,Z0o,Z04,Z06,Zp,Z1v,Z0d,Z1b,Z0m,Zl,Z40,Z2f,Z0r,Zz,Zaj,HBlock.steps,HBlock.sv])) ?_)))))))
 exact at_ (r3 [0] [.agg [oInt x.params v1,oInt x.lent v2,.i x.result,Z3b y1.steps y1.sv,.i y1.result]] [1] [(b2,b2)] ⟨(HRoutine.mk x.params v1 x.lent v2 x.result (HBlock.mk y1.steps y1.sv y1.result)),rfl,rfl,(by show Routine.mk _ _ _ (HBlock.er (HBlock.mk y1.steps y1.sv y1.result))=_;rw [HBlock.eta,hy])⟩ (lr _))
theorem Zq6 (xs:List Routine) (hl:rtsC xs≤1000000000:=by exact ob):Z3 Tryz.prog 23 [nRoutine xs] [] (fun r h=>∃(ys:List HRoutine) (w:Value),r=Z2z ys w∧h=[.many (Zl ys),.tail w 5]∧ys.map HRoutine.er=xs):=by
 refine enter Tryz.func23 kr (n:=23) kr kr (ar (ir 1 [(0,nRoutine xs)] (ie (ar (irk 1 (.n 5 (nRoutine xs) .r) (iw (Z0a xs) (iKM xs.length [nl,nl,.i 0,nl,.i 0] 5 ?_ (hl:=(by have h:=hl;unfold rtsC at h;omega)))))))))
 intro g1
 refine irk 1 (.n 3 (.ms g1 0 xs.length xs.length) .r) (ie (aq (ar (irk 1 (.n 4 (.i 0) .r) (ie (ab 0 (Z2e (tB [] [] [] (Zl []) (by simp [Z0j,Z01,Z0u,Z0n,Zr,Z0o,Z04,Z06,Zp,Z1v,Z0d,Z1b,Z0m,Zl,Z40,Z2f,Z0r,Zz])) (al (fun m F h=>∃(k:Nat) (ys:List HRoutine),(k≤xs.length)∧(ys.map HRoutine.er=xs.take k)∧(ys.length=k)∧F=[(0,nRoutine xs),(3,.ms g1 0 xs.length xs.length),(4,.i k)]∧h=[.row (.slice (some ⟨g1,0,none⟩) xs.length xs.length) 5 (flat (Z0x ys)++(List.replicate (xs.length-k) ([nl,nl,.i 0,nl,.i 0]:List AV)).flatten),.many (Zl ys)]∧m=xs.length-k) _ _ _ ⟨0,[],ob,rfl,rfl,rfl,rfl,rfl⟩ (wk [1,0] (fw (fc (x:=.i 0) li fl)) (e:=(rr (ls:=(List.replicate xs.length [nl,nl,.i 0,nl,.i 0]).flatten) (by rfl) (rc rz)))) ?_))))))))
 rintro m F h ⟨k,ys,c0_0,c0_1,c0_2,rfl,rfl,rfl⟩
 refine aq (ar (irk 2 (.n 8 (.i k) (.n 9 (nRoutine xs) .r)) (iw (Z0a xs) (irk 1 (.n 11 (.b (decide ((k:Int)<(xs.length:Int)))) .r) (ie (ac (decide ((k:Int)<(xs.length:Int))) dq (fun hc1=>?_) (fun hc1=>?_)))))))
 ·refine ak (aq (ab 1 (az (irk 4 (.n 14 (.ms g1 0 xs.length xs.length) (.n 15 (.i k) (.n 16 (nRoutine xs) (.n 17 (.i k) .r)))) ?_))))
  obtain ⟨x1,hx1⟩:=Z6 (xs:=xs) (j:=k) om
  have hcl:=Zrn hx1
  have hl2:=hl
  unfold rtsC at hl2
  refine is_ (Z0 (es:=Z0p xs) (hv:=none) (j:=(k:Int)) (sz:=5) (y:=Z0s x1) kr om (Z0v hx1) rfl) (irk 1 (.n 19 (Z0s x1) .r) (ic [] (Zu5 x1) ?_))
  rintro _ _ ⟨y1,rfl,rfl,hp1⟩
  have hy:=hp1
  refine is_ (kIdx g1 xs.length xs.length k 5 (k:Int)) (iKS 1 g1 xs.length xs.length 5 (k*5) (Z6g y1) (flat (Z0x ys)++(List.replicate (xs.length-k) ([nl,nl,.i 0,nl,.i 0]:List AV)).flatten) (flat (Z0x ys)++(Z6g y1++(List.replicate (xs.length-(k+1)) ([nl,nl,.i 0,nl,.i 0]:List AV)).flatten)) (by rw [Zar (a:=0) (q:=5) (by rw [Zj8,c0_2]) c0_0 rfl];simp;omega) (by rw [Z78 om];exact Z6q (by rw [Zj8,c0_2]) rfl) (Z4v (tB [2,1] [.many (Zl ys),.many (Z0r y1)] (Zl ys++(Z0r y1++[])) (Zl (ys++[y1])) (by simp [Z0j,Z01,Z0u,Z0n,Zr,Z0o,Z04,Z06,Zp,Z1v,Z0d,Z1b,Z0m,Zl,Z40,Z2f,Z0r,Zz])) (ie (az (irk 1 (.n 12 (.i k) .r) (ia (((k+1:Nat):Int)) (((k:Int))+(1)) (ir 1 [(0,nRoutine xs),(3,.ms g1 0 xs.length xs.length),(4,.i (k+1:Nat))] (ie ?_))))))))
  exact ⟨_,_,_,ob,⟨k+1,(ys++[y1]),ob,(Zcy c0_1 hx1 hy),(by simp [c0_2]),rfl,rfl,rfl⟩,(wk [1,0] (fw (fc (x:=.i (k+1:Nat)) li fl)) (e:=(rr (ls:=flat (Z0x ys)++(Z6g y1++(List.replicate (xs.length-(k+1)) ([nl,nl,.i 0,nl,.i 0]:List AV)).flatten)) Ztr (rc rz))))⟩
 refine ax 0 (ar (ir 2 [(2,.ms g1 0 xs.length xs.length)] (ie (Z2e (tRow 0 (.slice (some ⟨g1,0,none⟩) xs.length xs.length) 5 (flat (Z0x ys)++(List.replicate (xs.length-k) ([nl,nl,.i 0,nl,.i 0]:List AV)).flatten) (flat (Z0x ys)) (Zaq om)) (kFrz 2 0 (v:=(⟨some ⟨g1,0,none⟩,xs.length,xs.length⟩:Hd)) (Z0x ys) (Z65 _) ?_)))))
 exact at_ (r1 [1,0] ⟨ys,(⟨some ⟨g1,0,none⟩,xs.length,xs.length⟩:Hd).v,rfl,rfl,(by rw [c0_1,List.take_of_length_le om])⟩)
theorem Zdn (x:Normal) (hl:Z4l x≤1000000000):Z3 Tryz.prog 8 [Zi x] [] (fun r h=>∃(y:HNormal),r=Z2h y∧h=[.many (Zz y)]∧y.er=x):=by
 have hl2:=hl
 unfold Z4l at hl2
 refine enter Tryz.func8 kr (n:=13) kr kr (ar (iA (Zh x) ?_))
 intro b1
 refine iA [nl,nl] ?_
 intro b2
 refine ie (ar (iA [nl,nl] ?_))
 intro b3
 refine ie (ar (iR 2 [(1,.p b1 0),(2,.p b2 0),(3,.p b3 0),(5,Z2 x.decls)] [2] [b1] (ic [] (Z01n x.decls) ?_)))
 rintro _ _ ⟨ys1,w1,rfl,rfl,hp1⟩
 have hy1:=hp1
 refine irk 1 (.n 7 (.p b3 0) .r) (iS 2 b3 0 [Z4w ys1 w1] [nl,nl] [Z4w ys1 w1,nl] (ie (ar (irK 2 (.n 9 (nRoutine x.routines) .r) [4] [b1] (ic [] (Zq6 x.routines) ?_)))))
 rintro _ _ ⟨ys2,w2,rfl,rfl,hp2⟩
 have hy2:=hp2
 refine irk 1 (.n 11 (.p b3 1) .r) (iS 2 b3 1 [Z2z ys2 w2] [Z4w ys1 w1,nl] [Z4w ys1 w1,Z2z ys2 w2] (ie (ar (irK 1 (.n 12 (.agg [Z4w ys1 w1,Z2z ys2 w2]) .r) [0] [b3] (iS 5 b2 0 [Z4w ys1 w1,Z2z ys2 w2] [nl,nl] [Z4w ys1 w1,Z2z ys2 w2] (ie (Z2e (tB [4,4,2,2] [.many (Z0m ys1),.tail w1 3,.many (Zl ys2),.tail w2 5] (Z0m ys1++((w1,3)::(Zl ys2++((w2,5)::[])))) (Zz (HNormal.mk ys1 w1 ys2 w2)) (by simp [Z0j,Z01,Z0u,Z0n,Zr,Z0o,Z04,Z06,Zp,Z1v,Z0d,Z1b,Z0m,Zl,Z40,Z2f,Z0r,Zz])) ?_)))))))
 exact at_ (r3 [0] [.agg [Z4w ys1 w1,Z2z ys2 w2]] [1] [(b2,b2)] ⟨(HNormal.mk ys1 w1 ys2 w2),rfl,rfl,(by rw [HNormal.er];simp only [hy1,hy2])⟩ (lr _))
theorem Zcz (S:List Nat) (M:Mem) (v:Value) (xs:List Int) (q:Int) (hd:HdOk S v xs.length:=by exact ob) (hs:skI M (vblk v) xs.length:=by exact ob) (hq:0≤q∧q+((adI (vblk v) 0 xs.length).length:Nat)≤4000000000000:=by exact ob):Z3 Tryz.prog 72 [.val v,.i q] [.own S M] (fun r h=>r=.i (q+((adI (vblk v) 0 xs.length).length:Nat))∧h=[.own S (wr M (adI (vblk v) 0 xs.length) q)]):=by
 have hal:=Zbe (vblk v) xs.length 0
 refine enter Tryz.func72 kr (n:=19) kr kr (ar (ir 1 [(0,.val v),(1,.i q)] (ie (aq (ar (irk 1 (.n 5 (.i 0) .r) (ie (ab 0 (al (fun m F h=>∃(k:Nat) (z:Int) (N:Mem),(k≤xs.length)∧(0≤z)∧(z+((adI (vblk v) k (xs.length-k)).length:Nat)=q+((adI (vblk v) 0 xs.length).length:Nat))∧(Kp M N)∧(wr N (adI (vblk v) k (xs.length-k)) z=wr M (adI (vblk v) 0 xs.length) q)∧F=[(0,.val v),(1,.i z),(5,.i k)]∧h=[.own S N]∧m=xs.length-k) _ _ _ ⟨0,q,M,ob,ob,(by simp),(Kp.refl M),(by simp),rfl,rfl,rfl⟩ (wk [0] (fw (fc (x:=.i 0) li fl))) ?_)))))))))
 rintro m F h ⟨k,z,N,c0_0,c0_1,c0_2,c0_3,c0_4,rfl,rfl,rfl⟩
 refine aq (ar (irk 2 (.n 6 (.i k) (.n 7 (.val v) .r)) (is_ (oLen S v xs.length hd) (irk 1 (.n 9 (.b (decide ((k:Int)<(xs.length:Int)))) .r) (ie (ac (decide ((k:Int)<(xs.length:Int))) dq (fun hc1=>?_) (fun hc1=>?_)))))))
 ·have hb:=hd.blk (i:=k) om
  have hdr:=Zqc (vblk v) xs.length k om
  have hl0:(adI (vblk v) k (xs.length-k)).length=(adI (vblk v) (k+1) (xs.length-(k+1))).length+1:=by rw [hdr];rfl
  have hsk:=hs k om
  rw [←Nat.mul_one k] at hsk
  have kp:=c0_3
  have i0:=kp.i hsk
  refine ak (aq (ab 1 (ar (irk 3 (.n 12 (.val v) (.n 13 (.i k) (.n 14 (.i z) .r))) (is_ (oIdx S v xs.length k 1 (k:Int) hd) (iOS 0 S N (vblk v) (k*1) z hb.1 i0 ?_))))))
  have kp:=kp.upd hsk z
  refine ie (az (irk 1 (.n 16 (.i z) .r) (ia ((z+1)) ((z)+(1)) (ir 1 [(0,.val v),(1,.i (z+1)),(5,.i k)] (ie (az (irk 1 (.n 10 (.i k) .r) (ia (((k+1:Nat):Int)) (((k:Int))+(1)) (irk 1 (.n 5 (.i (k+1:Nat)) (.p (.d (.k (.k .z))))) (ie ?_))))))))))
  exact ⟨_,_,_,ob,⟨k+1,(z+1),upd N (vblk v,k*1) z,ob,ob,ob,kp,(by rw [←c0_4,hdr,wr,Nat.mul_one]),rfl,rfl,rfl⟩,(wk [0] (fw (fc (x:=.i (k+1:Nat)) li fl)))⟩
 have he:adI (vblk v) k (xs.length-k)=[]:=by rw [show xs.length-k=0 by omega];rfl
 rw [he,List.length_nil] at c0_2
 rw [he,wr] at c0_4
 refine ax 0 (ar (ir 2 [(4,.i z)] (ie ?_)))
 exact at_ (r2 [0] [.i z] ⟨rfl,rfl⟩ li (eq:=(Zpv (m:=N) c0_4 rz)))
theorem Zx5 (S:List Nat) (M:Mem) (v:Value) (xs:List HCon) (q:Int) (hl:xs.length≤4000000000000:=by exact ob) (hd:HdOk S v xs.length:=by exact ob) (hs:Za9 M S (vblk v) 0 xs:=by exact ob) (hq:0≤q∧q+((Z2w xs).length:Nat)≤4000000000000:=by exact ob):Z3 Tryz.prog 71 [.val v,.i q] [.own S M] (fun r h=>r=.i (q+((Z2w xs).length:Nat))∧h=[.own S (wr M (Z2w xs) q)]):=by
 refine enter Tryz.func71 kr (n:=20) kr kr (ar (ir 1 [(0,.val v),(1,.i q)] (ie (aq (ar (irk 1 (.n 5 (.i 0) .r) (ie (ab 0 (al (fun m F h=>∃(k:Nat) (z:Int) (N:Mem),(k≤xs.length)∧(0≤z)∧(z+((Z2w (xs.drop k)).length:Nat)=q+((Z2w xs).length:Nat))∧(Kp M N)∧(wr N (Z2w (xs.drop k)) z=wr M (Z2w xs) q)∧F=[(0,.val v),(1,.i z),(5,.i k)]∧h=[.own S N]∧m=xs.length-k) _ _ _ ⟨0,q,M,ob,ob,(by simp),(Kp.refl M),(by simp),rfl,rfl,rfl⟩ (wk [0] (fw (fc (x:=.i 0) li fl))) ?_)))))))))
 rintro m F h ⟨k,z,N,c0_0,c0_1,c0_2,c0_3,c0_4,rfl,rfl,rfl⟩
 refine aq (ar (irk 2 (.n 6 (.i k) (.n 7 (.val v) .r)) (is_ (oLen S v xs.length hd) (irk 1 (.n 9 (.b (decide ((k:Int)<(xs.length:Int)))) .r) (ie (ac (decide ((k:Int)<(xs.length:Int))) dq (fun hc1=>?_) (fun hc1=>?_)))))))
 ·have hb:=hd.blk (i:=k) om
  obtain ⟨x1,hx1⟩:=Z6 (xs:=xs) (j:=k) om
  have e1:=Zei hs hx1
  rw [Nat.zero_add] at e1
  obtain ⟨⟨a0,d0⟩,s0⟩:=e1
  rw [←Nat.mul_one k] at a0
  have hdr:=Zgg hx1
  have hln:(Zzb x1).length=(adI (vblk x1.fv) 0 x1.fields.length).length:=rfl
  have hl0:=congrArg List.length hdr
  rw [List.length_append,hln] at hl0
  have kp:=c0_3
  refine ak (aq (ab 1 (az (irk 2 (.n 12 (.val v) (.n 13 (.i k) .r)) (is_ (oIdx S v xs.length k 1 (k:Int) hd) (irk 1 (.n 15 (.val (.pointer (some ⟨vblk v,k*1,none⟩))) .r) ?_))))))
  have t0:skI N (vblk x1.fv) x1.fields.length:=fun i hi=>kp.i (s0 i hi)
  refine ix_ (oGet 0 S N (vblk v) (k*1) x1.fv hb.1 (kp.h a0 d0.ni)) (irk 1 (.n 17 (.i z) .r) (ic [0] (Zcz S N x1.fv x1.fields z) ?_))
  rintro _ _ ⟨rfl,rfl⟩
  have kp:=kp.wr (Z9u s0) z
  refine ir 1 [(0,.val v),(1,.i (z+((adI (vblk x1.fv) 0 x1.fields.length).length:Nat))),(5,.i k)] (ie (az (irk 1 (.n 10 (.i k) .r) (ia (((k+1:Nat):Int)) (((k:Int))+(1)) (irk 1 (.n 5 (.i (k+1:Nat)) (.p (.d (.k (.k .z))))) (ie ?_))))))
  exact ⟨_,_,_,ob,⟨k+1,(z+((adI (vblk x1.fv) 0 x1.fields.length).length:Nat)),(wr N (adI (vblk x1.fv) 0 x1.fields.length) z),ob,ob,ob,kp,(Zoh c0_4 hdr rfl om),rfl,rfl,rfl⟩,(wk [0] (fw (fc (x:=.i (k+1:Nat)) li fl)))⟩
 have he:(Z2w (xs.drop k))=[]:=by rw [List.drop_eq_nil_of_le om];rfl
 rw [he,List.length_nil] at c0_2
 rw [he,wr] at c0_4
 refine ax 0 (ar (ir 2 [(4,.i z)] (ie ?_)))
 exact at_ (r2 [0] [.i z] ⟨rfl,rfl⟩ li (eq:=(Zpv (m:=N) c0_4 rz)))
theorem Ztb (S:List Nat) (M:Mem) (v:Value) (xs:List HDecl) (q:Int) (hl:∀d∈xs,d.cons.length≤4000000000000) (hd:HdOk S v xs.length:=by exact ob) (hs:Z8b M S (vblk v) 0 xs:=by exact ob) (hq:0≤q∧q+((Z12 (vblk v) 0 xs).length:Nat)≤4000000000000:=by exact ob):Z3 Tryz.prog 32 [.val v,.i q] [.own S M] (fun r h=>r=.i (q+((Z12 (vblk v) 0 xs).length:Nat))∧h=[.own S (wr M (Z12 (vblk v) 0 xs) q)]):=by
 have hal:=Zds (g:=vblk v) (o:=0) (ds:=xs)
 refine enter Tryz.func32 kr (n:=34) kr kr (ar (ir 1 [(0,.val v),(1,.i q)] (ie (aq (ar (irk 1 (.n 5 (.i 0) .r) (ie (ab 0 (al (fun m F h=>∃(k:Nat) (z:Int) (N:Mem),(k≤xs.length)∧(0≤z)∧(z+((Z12 (vblk v) (k*3) (xs.drop k)).length:Nat)=q+((Z12 (vblk v) 0 xs).length:Nat))∧(Kp M N)∧(wr N (Z12 (vblk v) (k*3) (xs.drop k)) z=wr M (Z12 (vblk v) 0 xs) q)∧F=[(0,.val v),(1,.i z),(5,.i k)]∧h=[.own S N]∧m=xs.length-k) _ _ _ ⟨0,q,M,ob,ob,(by simp),(Kp.refl M),(by simp),rfl,rfl,rfl⟩ (wk [0] (fw (fc (x:=.i 0) li fl))) ?_)))))))))
 rintro m F h ⟨k,z,N,c0_0,c0_1,c0_2,c0_3,c0_4,rfl,rfl,rfl⟩
 refine aq (ar (irk 2 (.n 6 (.i k) (.n 7 (.val v) .r)) (is_ (oLen S v xs.length hd) (irk 1 (.n 9 (.b (decide ((k:Int)<(xs.length:Int)))) .r) (ie (ac (decide ((k:Int)<(xs.length:Int))) dq (fun hc1=>?_) (fun hc1=>?_)))))))
 ·have hb:=hd.blk (i:=k) om
  obtain ⟨x1,hx1⟩:=Z6 (xs:=xs) (j:=k) om
  have e1:=Zbu hs hx1
  rw [Nat.zero_add] at e1
  obtain ⟨i0,i1,⟨a2,d2⟩,s2⟩:=e1
  have hdr:=Zeu (g:=vblk v) hx1
  have hl1:=hl x1 (List.mem_of_getElem? hx1)
  have hln:=Zg3 (g:=vblk v) (o:=k*3) (d:=x1)
  have hl0:=congrArg List.length hdr
  rw [List.length_append,hln] at hl0
  have kp:=c0_3
  refine ak (aq (ab 1 (ar (irk 3 (.n 12 (.val v) (.n 13 (.i k) (.n 14 (.i z) .r))) (is_ (oIdx S v xs.length k 3 (k:Int) hd) (irk 1 (.n 16 (.val (.pointer (some ⟨vblk v,k*3,none⟩))) .r) (iOS 0 S N (vblk v) (k*3) z hb.1 (kp.i i0) ?_)))))))
  have kp:=kp.upd i0 z
  refine ie (ar (irk 1 (.n 17 (.i z) .r) (ia ((z+1)) ((z)+(1)) (ir 1 [(0,.val v),(1,.i (z+1)),(5,.i k)] (ie (ar (irk 3 (.n 19 (.val v) (.n 20 (.i k) (.n 21 (.i (z+1)) .r))) (is_ (oIdx S v xs.length k 3 (k:Int) hd) (irk 1 (.n 23 (.val (.pointer (some ⟨vblk v,k*3+1,none⟩))) .r) (iOS 0 S (upd N (vblk v,k*3) z) (vblk v) (k*3+1) (z+1) hb.1 (kp.i i1) ?_))))))))))
  have kp:=kp.upd i1 (z+1)
  refine ie (ar (irk 1 (.n 24 (.i (z+1)) .r) (ia (((z+1)+1)) (((z+1))+(1)) (ir 1 [(0,.val v),(1,.i ((z+1)+1)),(5,.i k)] (ie (az (irk 2 (.n 26 (.val v) (.n 27 (.i k) .r)) (is_ (oIdx S v xs.length k 3 (k:Int) hd) (irk 1 (.n 29 (.val (.pointer (some ⟨vblk v,k*3+2,none⟩))) .r) ?_)))))))))
  have t2:Za9 (upd (upd N (vblk v,k*3) z) (vblk v,k*3+1) (z+1)) S (vblk x1.cv) 0 x1.cons:=Zho kp s2
  refine ix_ (oGet 0 S (upd (upd N (vblk v,k*3) z) (vblk v,k*3+1) (z+1)) (vblk v) (k*3+2) x1.cv hb.1 (kp.h a2 d2.ni)) (irk 1 (.n 31 (.i ((z+1)+1)) .r) (ic [0] (Zx5 S (upd (upd N (vblk v,k*3) z) (vblk v,k*3+1) (z+1)) x1.cv x1.cons ((z+1)+1)) ?_))
  rintro _ _ ⟨rfl,rfl⟩
  have kp:=kp.wr (Zdr s2) ((z+1)+1)
  refine ir 1 [(0,.val v),(1,.i (((z+1)+1)+((Z2w x1.cons).length:Nat))),(5,.i k)] (ie (az (irk 1 (.n 10 (.i k) .r) (ia (((k+1:Nat):Int)) (((k:Int))+(1)) (irk 1 (.n 5 (.i (k+1:Nat)) (.p (.d (.k (.k .z))))) (ie ?_))))))
  exact ⟨_,_,_,ob,⟨k+1,(((z+1)+1)+((Z2w x1.cons).length:Nat)),(wr (upd (upd N (vblk v,k*3) z) (vblk v,k*3+1) (z+1)) (Z2w x1.cons) ((z+1)+1)),ob,ob,ob,kp,(Zoh c0_4 hdr Z053 om),rfl,rfl,rfl⟩,(wk [0] (fw (fc (x:=.i (k+1:Nat)) li fl)))⟩
 have he:(Z12 (vblk v) (k*3) (xs.drop k))=[]:=by rw [List.drop_eq_nil_of_le om];rfl
 rw [he,List.length_nil] at c0_2
 rw [he,wr] at c0_4
 refine ax 0 (ar (ir 2 [(4,.i z)] (ie ?_)))
 exact at_ (r2 [0] [.i z] ⟨rfl,rfl⟩ li (eq:=(Zpv (m:=N) c0_4 rz)))
theorem Zpo (S:List Nat) (M:Mem) (v:Value) (xs:List HStep) (q:Int) (ih:∀(S:List Nat) (M:Mem) (v:Value) (ys:List HBlock) (q:Int),(SizeOf.sizeOf ys<SizeOf.sizeOf xs)→(HdOk S v ys.length)→(Z2c M S (vblk v) 0 ys)→(0≤q∧q+((Z07 (vblk v) 0 ys).length:Nat)≤4000000000000)→Z3 Tryz.prog 130 [.val v,.i q] [.own S M] (fun r h=>r=.i (q+((Z07 (vblk v) 0 ys).length:Nat))∧h=[.own S (wr M (Z07 (vblk v) 0 ys) q)])) (hd:HdOk S v xs.length) (hs:Z2o M S (vblk v) 0 xs) (hq:0≤q∧q+((Ze (vblk v) 0 xs).length:Nat)≤4000000000000):Z3 Tryz.prog 73 [.val v,.i q] [.own S M] (fun r h=>r=.i (q+((Ze (vblk v) 0 xs).length:Nat))∧h=[.own S (wr M (Ze (vblk v) 0 xs) q)]):=by
 have hal:=Zdt (g:=vblk v) (o:=0) (xs:=xs)
 refine enter Tryz.func73 kr (n:=48) kr kr (ar (ir 1 [(0,.val v),(1,.i q)] (ie (aq (ar (irk 1 (.n 5 (.i 0) .r) (ie (ab 0 (al (fun m F h=>∃(k:Nat) (z:Int) (N:Mem),(k≤xs.length)∧(0≤z)∧(z+((Ze (vblk v) (k*5) (xs.drop k)).length:Nat)=q+((Ze (vblk v) 0 xs).length:Nat))∧(Kp M N)∧(wr N (Ze (vblk v) (k*5) (xs.drop k)) z=wr M (Ze (vblk v) 0 xs) q)∧F=[(0,.val v),(1,.i z),(5,.i k)]∧h=[.own S N]∧m=xs.length-k) _ _ _ ⟨0,q,M,ob,ob,(by simp),(Kp.refl M),(by simp),rfl,rfl,rfl⟩ (wk [0] (fw (fc (x:=.i 0) li fl))) ?_)))))))))
 rintro m F h ⟨k,z,N,c0_0,c0_1,c0_2,c0_3,c0_4,rfl,rfl,rfl⟩
 refine aq (ar (irk 2 (.n 6 (.i k) (.n 7 (.val v) .r)) (is_ (oLen S v xs.length hd) (irk 1 (.n 9 (.b (decide ((k:Int)<(xs.length:Int)))) .r) (ie (ac (decide ((k:Int)<(xs.length:Int))) dq (fun hc1=>?_) (fun hc1=>?_)))))))
 ·have hb:=hd.blk (i:=k) om
  obtain ⟨x1,hx1⟩:=Z6 (xs:=xs) (j:=k) om
  have e1:=Zbv hs hx1
  rw [Nat.zero_add] at e1
  rw [Zo1] at e1
  have hz:SizeOf.sizeOf x1.kids<SizeOf.sizeOf xs:=Zr1 hx1
  obtain ⟨⟨i0,i1,i2⟩,⟨⟨a3,d3⟩,s3⟩,⟨⟨a4,d4⟩,s4⟩⟩:=e1
  have hdr:=Zex (g:=vblk v) hx1
  have hln:=Zkz (g:=vblk v) (o:=k*5) (s:=x1)
  have hl0:=congrArg List.length hdr
  rw [List.length_append,hln] at hl0
  have kp:=c0_3
  refine ak (aq (ab 1 (ar (irk 3 (.n 12 (.val v) (.n 13 (.i k) (.n 14 (.i z) .r))) (is_ (oIdx S v xs.length k 5 (k:Int) hd) (irk 1 (.n 16 (.val (.pointer (some ⟨vblk v,k*5,none⟩))) .r) (iOS 0 S N (vblk v) (k*5) z hb.1 (kp.i i0) ?_)))))))
  have kp:=kp.upd i0 z
  refine ie (ar (irk 1 (.n 17 (.i z) .r) (ia ((z+1)) ((z)+(1)) (ir 1 [(0,.val v),(1,.i (z+1)),(5,.i k)] (ie (ar (irk 3 (.n 19 (.val v) (.n 20 (.i k) (.n 21 (.i (z+1)) .r))) (is_ (oIdx S v xs.length k 5 (k:Int) hd) (irk 1 (.n 23 (.val (.pointer (some ⟨vblk v,k*5+1,none⟩))) .r) (iOS 0 S (upd N (vblk v,k*5) z) (vblk v) (k*5+1) (z+1) hb.1 (kp.i i1) ?_))))))))))
  have kp:=kp.upd i1 (z+1)
  refine ie (ar (irk 1 (.n 24 (.i (z+1)) .r) (ia (((z+1)+1)) (((z+1))+(1)) (ir 1 [(0,.val v),(1,.i ((z+1)+1)),(5,.i k)] (ie (ar (irk 3 (.n 26 (.val v) (.n 27 (.i k) (.n 28 (.i ((z+1)+1)) .r))) (is_ (oIdx S v xs.length k 5 (k:Int) hd) (irk 1 (.n 30 (.val (.pointer (some ⟨vblk v,k*5+2,none⟩))) .r) (iOS 0 S (upd (upd N (vblk v,k*5) z) (vblk v,k*5+1) (z+1)) (vblk v) (k*5+2) ((z+1)+1) hb.1 (kp.i i2) ?_))))))))))
  have kp:=kp.upd i2 ((z+1)+1)
  refine ie (ar (irk 1 (.n 31 (.i ((z+1)+1)) .r) (ia ((((z+1)+1)+1)) ((((z+1)+1))+(1)) (ir 1 [(0,.val v),(1,.i (((z+1)+1)+1)),(5,.i k)] (ie (ar (irk 2 (.n 33 (.val v) (.n 34 (.i k) .r)) (is_ (oIdx S v xs.length k 5 (k:Int) hd) (irk 1 (.n 36 (.val (.pointer (some ⟨vblk v,k*5+3,none⟩))) .r) ?_)))))))))
  have t3:skI (upd (upd (upd N (vblk v,k*5) z) (vblk v,k*5+1) (z+1)) (vblk v,k*5+2) ((z+1)+1)) (vblk x1.av) x1.args.length:=fun i hi=>kp.i (s3 i hi)
  refine ix_ (oGet 0 S (upd (upd (upd N (vblk v,k*5) z) (vblk v,k*5+1) (z+1)) (vblk v,k*5+2) ((z+1)+1)) (vblk v) (k*5+3) x1.av hb.1 (kp.h a3 d3.ni)) (irk 1 (.n 38 (.i (((z+1)+1)+1)) .r) (ic [0] (Zcz S (upd (upd (upd N (vblk v,k*5) z) (vblk v,k*5+1) (z+1)) (vblk v,k*5+2) ((z+1)+1)) x1.av x1.args (((z+1)+1)+1)) ?_))
  rintro _ _ ⟨rfl,rfl⟩
  have kp:=kp.wr (Z9u s3) (((z+1)+1)+1)
  refine ir 1 [(0,.val v),(1,.i ((((z+1)+1)+1)+((adI (vblk x1.av) 0 x1.args.length).length:Nat))),(5,.i k)] (ie (az (irk 2 (.n 40 (.val v) (.n 41 (.i k) .r)) (is_ (oIdx S v xs.length k 5 (k:Int) hd) (irk 1 (.n 43 (.val (.pointer (some ⟨vblk v,k*5+4,none⟩))) .r) ?_)))))
  have t4:Z2c (wr (upd (upd (upd N (vblk v,k*5) z) (vblk v,k*5+1) (z+1)) (vblk v,k*5+2) ((z+1)+1)) (adI (vblk x1.av) 0 x1.args.length) (((z+1)+1)+1)) S (vblk x1.kv) 0 x1.kids:=Zbt kp s4
  refine ix_ (oGet 0 S (wr (upd (upd (upd N (vblk v,k*5) z) (vblk v,k*5+1) (z+1)) (vblk v,k*5+2) ((z+1)+1)) (adI (vblk x1.av) 0 x1.args.length) (((z+1)+1)+1)) (vblk v) (k*5+4) x1.kv hb.1 (kp.h a4 d4.ni)) (irk 1 (.n 45 (.i ((((z+1)+1)+1)+((adI (vblk x1.av) 0 x1.args.length).length:Nat))) .r) (ic [0] (ih S (wr (upd (upd (upd N (vblk v,k*5) z) (vblk v,k*5+1) (z+1)) (vblk v,k*5+2) ((z+1)+1)) (adI (vblk x1.av) 0 x1.args.length) (((z+1)+1)+1)) x1.kv x1.kids ((((z+1)+1)+1)+((adI (vblk x1.av) 0 x1.args.length).length:Nat)) ob ob ob ob) ?_))
  rintro _ _ ⟨rfl,rfl⟩
  have kp:=kp.wr (Z9t s4) ((((z+1)+1)+1)+((adI (vblk x1.av) 0 x1.args.length).length:Nat))
  refine ir 1 [(0,.val v),(1,.i (((((z+1)+1)+1)+((adI (vblk x1.av) 0 x1.args.length).length:Nat))+((Z07 (vblk x1.kv) 0 x1.kids).length:Nat))),(5,.i k)] (ie (az (irk 1 (.n 10 (.i k) .r) (ia (((k+1:Nat):Int)) (((k:Int))+(1)) (irk 1 (.n 5 (.i (k+1:Nat)) (.p (.d (.k (.k .z))))) (ie ?_))))))
  exact ⟨_,_,_,ob,⟨k+1,(((((z+1)+1)+1)+((adI (vblk x1.av) 0 x1.args.length).length:Nat))+((Z07 (vblk x1.kv) 0 x1.kids).length:Nat)),(wr (wr (upd (upd (upd N (vblk v,k*5) z) (vblk v,k*5+1) (z+1)) (vblk v,k*5+2) ((z+1)+1)) (adI (vblk x1.av) 0 x1.args.length) (((z+1)+1)+1)) (Z07 (vblk x1.kv) 0 x1.kids) ((((z+1)+1)+1)+((adI (vblk x1.av) 0 x1.args.length).length:Nat))),ob,ob,ob,kp,(Zoh c0_4 hdr Z01t om),rfl,rfl,rfl⟩,(wk [0] (fw (fc (x:=.i (k+1:Nat)) li fl)))⟩
 have he:(Ze (vblk v) (k*5) (xs.drop k))=[]:=by rw [List.drop_eq_nil_of_le om,Ze]
 rw [he,List.length_nil] at c0_2
 rw [he,wr] at c0_4
 refine ax 0 (ar (ir 2 [(4,.i z)] (ie ?_)))
 exact at_ (r2 [0] [.i z] ⟨rfl,rfl⟩ li (eq:=(Zpv (m:=N) c0_4 rz)))
theorem Zni (S:List Nat) (M:Mem) (v:Value) (xs:List HBlock) (q:Int) (ih:∀(S:List Nat) (M:Mem) (v:Value) (ys:List HStep) (q:Int),(SizeOf.sizeOf ys<SizeOf.sizeOf xs)→(HdOk S v ys.length)→(Z2o M S (vblk v) 0 ys)→(0≤q∧q+((Ze (vblk v) 0 ys).length:Nat)≤4000000000000)→Z3 Tryz.prog 73 [.val v,.i q] [.own S M] (fun r h=>r=.i (q+((Ze (vblk v) 0 ys).length:Nat))∧h=[.own S (wr M (Ze (vblk v) 0 ys) q)])) (hd:HdOk S v xs.length) (hs:Z2c M S (vblk v) 0 xs) (hq:0≤q∧q+((Z07 (vblk v) 0 xs).length:Nat)≤4000000000000):Z3 Tryz.prog 130 [.val v,.i q] [.own S M] (fun r h=>r=.i (q+((Z07 (vblk v) 0 xs).length:Nat))∧h=[.own S (wr M (Z07 (vblk v) 0 xs) q)]):=by
 have hal:=Zbc (g:=vblk v) (o:=0) (xs:=xs)
 refine enter Tryz.func130 kr (n:=27) kr kr (ar (ir 1 [(0,.val v),(1,.i q)] (ie (aq (ar (irk 1 (.n 5 (.i 0) .r) (ie (ab 0 (al (fun m F h=>∃(k:Nat) (z:Int) (N:Mem),(k≤xs.length)∧(0≤z)∧(z+((Z07 (vblk v) (k*2) (xs.drop k)).length:Nat)=q+((Z07 (vblk v) 0 xs).length:Nat))∧(Kp M N)∧(wr N (Z07 (vblk v) (k*2) (xs.drop k)) z=wr M (Z07 (vblk v) 0 xs) q)∧F=[(0,.val v),(1,.i z),(5,.i k)]∧h=[.own S N]∧m=xs.length-k) _ _ _ ⟨0,q,M,ob,ob,(by simp),(Kp.refl M),(by simp),rfl,rfl,rfl⟩ (wk [0] (fw (fc (x:=.i 0) li fl))) ?_)))))))))
 rintro m F h ⟨k,z,N,c0_0,c0_1,c0_2,c0_3,c0_4,rfl,rfl,rfl⟩
 refine aq (ar (irk 2 (.n 6 (.i k) (.n 7 (.val v) .r)) (is_ (oLen S v xs.length hd) (irk 1 (.n 9 (.b (decide ((k:Int)<(xs.length:Int)))) .r) (ie (ac (decide ((k:Int)<(xs.length:Int))) dq (fun hc1=>?_) (fun hc1=>?_)))))))
 ·have hb:=hd.blk (i:=k) om
  obtain ⟨x1,hx1⟩:=Z6 (xs:=xs) (j:=k) om
  have e1:=Za8 hs hx1
  rw [Nat.zero_add] at e1
  rw [Zk0] at e1
  have hz:SizeOf.sizeOf x1.steps<SizeOf.sizeOf xs:=Zn0 hx1
  obtain ⟨⟨⟨a0,d0⟩,s0⟩,i1⟩:=e1
  have hdr:=Zc7 (g:=vblk v) hx1
  have hln:=Zhc (g:=vblk v) (o:=k*2) (b:=x1)
  have hl0:=congrArg List.length hdr
  rw [List.length_append,hln] at hl0
  have kp:=c0_3
  refine ak (aq (ab 1 (ar (irk 2 (.n 12 (.val v) (.n 13 (.i k) .r)) (is_ (oIdx S v xs.length k 2 (k:Int) hd) (irk 1 (.n 15 (.val (.pointer (some ⟨vblk v,k*2,none⟩))) .r) ?_))))))
  have t0:Z2o N S (vblk x1.sv) 0 x1.steps:=Z8u kp s0
  refine ix_ (oGet 0 S N (vblk v) (k*2) x1.sv hb.1 (kp.h a0 d0.ni)) (irk 1 (.n 17 (.i z) .r) (ic [0] (ih S N x1.sv x1.steps z ob ob ob ob) ?_))
  rintro _ _ ⟨rfl,rfl⟩
  have kp:=kp.wr (Z7c s0) z
  refine ir 1 [(0,.val v),(1,.i (z+((Ze (vblk x1.sv) 0 x1.steps).length:Nat))),(5,.i k)] (ie (ar (irk 3 (.n 19 (.val v) (.n 20 (.i k) (.n 21 (.i (z+((Ze (vblk x1.sv) 0 x1.steps).length:Nat))) .r))) (is_ (oIdx S v xs.length k 2 (k:Int) hd) (irk 1 (.n 23 (.val (.pointer (some ⟨vblk v,k*2+1,none⟩))) .r) (iOS 0 S (wr N (Ze (vblk x1.sv) 0 x1.steps) z) (vblk v) (k*2+1) (z+((Ze (vblk x1.sv) 0 x1.steps).length:Nat)) hb.1 (kp.i i1) ?_))))))
  have kp:=kp.upd i1 (z+((Ze (vblk x1.sv) 0 x1.steps).length:Nat))
  refine ie (az (irk 1 (.n 24 (.i (z+((Ze (vblk x1.sv) 0 x1.steps).length:Nat))) .r) (ia (((z+((Ze (vblk x1.sv) 0 x1.steps).length:Nat))+1)) (((z+((Ze (vblk x1.sv) 0 x1.steps).length:Nat)))+(1)) (ir 1 [(0,.val v),(1,.i ((z+((Ze (vblk x1.sv) 0 x1.steps).length:Nat))+1)),(5,.i k)] (ie (az (irk 1 (.n 10 (.i k) .r) (ia (((k+1:Nat):Int)) (((k:Int))+(1)) (irk 1 (.n 5 (.i (k+1:Nat)) (.p (.d (.k (.k .z))))) (ie ?_))))))))))
  exact ⟨_,_,_,ob,⟨k+1,((z+((Ze (vblk x1.sv) 0 x1.steps).length:Nat))+1),upd (wr N (Ze (vblk x1.sv) 0 x1.steps) z) (vblk v,k*2+1) (z+((Ze (vblk x1.sv) 0 x1.steps).length:Nat)),ob,ob,ob,kp,(Zoh c0_4 hdr Zz8 om),rfl,rfl,rfl⟩,(wk [0] (fw (fc (x:=.i (k+1:Nat)) li fl)))⟩
 have he:(Z07 (vblk v) (k*2) (xs.drop k))=[]:=by rw [List.drop_eq_nil_of_le om,Z07]
 rw [he,List.length_nil] at c0_2
 rw [he,wr] at c0_4
 refine ax 0 (ar (ir 2 [(4,.i z)] (ie ?_)))
 exact at_ (r2 [0] [.i z] ⟨rfl,rfl⟩ li (eq:=(Zpv (m:=N) c0_4 rz)))
theorem Zx7 (n:Nat):(∀(S:List Nat) (M:Mem) (v:Value) (xs:List HStep) (q:Int),(SizeOf.sizeOf xs<n)→(HdOk S v xs.length)→(Z2o M S (vblk v) 0 xs)→(0≤q∧q+((Ze (vblk v) 0 xs).length:Nat)≤4000000000000)→Z3 Tryz.prog 73 [.val v,.i q] [.own S M] (fun r h=>r=.i (q+((Ze (vblk v) 0 xs).length:Nat))∧h=[.own S (wr M (Ze (vblk v) 0 xs) q)]))∧(∀(S:List Nat) (M:Mem) (v:Value) (xs:List HBlock) (q:Int),(SizeOf.sizeOf xs<n)→(HdOk S v xs.length)→(Z2c M S (vblk v) 0 xs)→(0≤q∧q+((Z07 (vblk v) 0 xs).length:Nat)≤4000000000000)→Z3 Tryz.prog 130 [.val v,.i q] [.own S M] (fun r h=>r=.i (q+((Z07 (vblk v) 0 xs).length:Nat))∧h=[.own S (wr M (Z07 (vblk v) 0 xs) q)])):=by
 induction n with
 | zero=>exact ⟨fun _ _ _ _ _ h=>by omega,fun _ _ _ _ _ h=>by omega⟩
 | succ n ih=>
  obtain ⟨i1,i2⟩:=ih
  exact ⟨fun S M v xs q hz h3 h4 h9=>Zpo S M v xs q (fun S M v ys q hz2 h3 h4 h9=>i2 S M v ys q om h3 h4 h9) h3 h4 h9,fun S M v xs q hz h3 h4 h9=>Zni S M v xs q (fun S M v ys q hz2 h3 h4 h9=>i1 S M v ys q om h3 h4 h9) h3 h4 h9⟩
theorem Ztc (S:List Nat) (M:Mem) (v:Value) (xs:List HStep) (q:Int) (hd:HdOk S v xs.length:=by exact ob) (hs:Z2o M S (vblk v) 0 xs:=by exact ob) (hq:0≤q∧q+((Ze (vblk v) 0 xs).length:Nat)≤4000000000000:=by exact ob):Z3 Tryz.prog 73 [.val v,.i q] [.own S M] (fun r h=>r=.i (q+((Ze (vblk v) 0 xs).length:Nat))∧h=[.own S (wr M (Ze (vblk v) 0 xs) q)]):=(Zx7 (SizeOf.sizeOf xs+1)).1 S M v xs q om hd hs hq
theorem Zl1 (S:List Nat) (M:Mem) (v:Value) (xs:List HRoutine) (q:Int) (hd:HdOk S v xs.length:=by exact ob) (hs:Z49 M S (vblk v) 0 xs:=by exact ob) (hq:0≤q∧q+((Z0h (vblk v) 0 xs).length:Nat)≤4000000000000:=by exact ob):Z3 Tryz.prog 33 [.val v,.i q] [.own S M] (fun r h=>r=.i (q+((Z0h (vblk v) 0 xs).length:Nat))∧h=[.own S (wr M (Z0h (vblk v) 0 xs) q)]):=by
 have hal:=Z8z (g:=vblk v) (o:=0) (xs:=xs)
 refine enter Tryz.func33 kr (n:=50) kr kr (ar (ir 1 [(0,.val v),(1,.i q)] (ie (aq (ar (irk 1 (.n 5 (.i 0) .r) (ie (ab 0 (al (fun m F h=>∃(k:Nat) (z:Int) (N:Mem),(k≤xs.length)∧(0≤z)∧(z+((Z0h (vblk v) (k*5) (xs.drop k)).length:Nat)=q+((Z0h (vblk v) 0 xs).length:Nat))∧(Kp M N)∧(wr N (Z0h (vblk v) (k*5) (xs.drop k)) z=wr M (Z0h (vblk v) 0 xs) q)∧F=[(0,.val v),(1,.i z),(5,.i k)]∧h=[.own S N]∧m=xs.length-k) _ _ _ ⟨0,q,M,ob,ob,(by simp),(Kp.refl M),(by simp),rfl,rfl,rfl⟩ (wk [0] (fw (fc (x:=.i 0) li fl))) ?_)))))))))
 rintro m F h ⟨k,z,N,c0_0,c0_1,c0_2,c0_3,c0_4,rfl,rfl,rfl⟩
 refine aq (ar (irk 2 (.n 6 (.i k) (.n 7 (.val v) .r)) (is_ (oLen S v xs.length hd) (irk 1 (.n 9 (.b (decide ((k:Int)<(xs.length:Int)))) .r) (ie (ac (decide ((k:Int)<(xs.length:Int))) dq (fun hc1=>?_) (fun hc1=>?_)))))))
 ·have hb:=hd.blk (i:=k) om
  obtain ⟨x1,hx1⟩:=Z6 (xs:=xs) (j:=k) om
  have e1:=Z8c hs hx1
  rw [Nat.zero_add] at e1
  obtain ⟨⟨⟨a0,d0⟩,s0⟩,⟨⟨a1,d1⟩,s1⟩,i2,⟨⟨a3,d3⟩,s3⟩,i4⟩:=e1
  have hdr:=Z9v (g:=vblk v) hx1
  have hln:=Z99 (g:=vblk v) (o:=k*5) (r:=x1)
  have hl0:=congrArg List.length hdr
  rw [List.length_append,hln] at hl0
  have kp:=c0_3
  refine ak (aq (ab 1 (ar (irk 2 (.n 12 (.val v) (.n 13 (.i k) .r)) (is_ (oIdx S v xs.length k 5 (k:Int) hd) (irk 1 (.n 15 (.val (.pointer (some ⟨vblk v,k*5,none⟩))) .r) ?_))))))
  have t0:skI N (vblk x1.pv) x1.params.length:=fun i hi=>kp.i (s0 i hi)
  refine ix_ (oGet 0 S N (vblk v) (k*5) x1.pv hb.1 (kp.h a0 d0.ni)) (irk 1 (.n 17 (.i z) .r) (ic [0] (Zcz S N x1.pv x1.params z) ?_))
  rintro _ _ ⟨rfl,rfl⟩
  have kp:=kp.wr (Z9u s0) z
  refine ir 1 [(0,.val v),(1,.i (z+((adI (vblk x1.pv) 0 x1.params.length).length:Nat))),(5,.i k)] (ie (ar (irk 2 (.n 19 (.val v) (.n 20 (.i k) .r)) (is_ (oIdx S v xs.length k 5 (k:Int) hd) (irk 1 (.n 22 (.val (.pointer (some ⟨vblk v,k*5+1,none⟩))) .r) ?_)))))
  have t1:skI (wr N (adI (vblk x1.pv) 0 x1.params.length) z) (vblk x1.lv) x1.lent.length:=fun i hi=>kp.i (s1 i hi)
  refine ix_ (oGet 0 S (wr N (adI (vblk x1.pv) 0 x1.params.length) z) (vblk v) (k*5+1) x1.lv hb.1 (kp.h a1 d1.ni)) (irk 1 (.n 24 (.i (z+((adI (vblk x1.pv) 0 x1.params.length).length:Nat))) .r) (ic [0] (Zcz S (wr N (adI (vblk x1.pv) 0 x1.params.length) z) x1.lv x1.lent (z+((adI (vblk x1.pv) 0 x1.params.length).length:Nat))) ?_))
  rintro _ _ ⟨rfl,rfl⟩
  have kp:=kp.wr (Z9u s1) (z+((adI (vblk x1.pv) 0 x1.params.length).length:Nat))
  refine ir 1 [(0,.val v),(1,.i ((z+((adI (vblk x1.pv) 0 x1.params.length).length:Nat))+((adI (vblk x1.lv) 0 x1.lent.length).length:Nat))),(5,.i k)] (ie (ar (irk 3 (.n 26 (.val v) (.n 27 (.i k) (.n 28 (.i ((z+((adI (vblk x1.pv) 0 x1.params.length).length:Nat))+((adI (vblk x1.lv) 0 x1.lent.length).length:Nat))) .r))) (is_ (oIdx S v xs.length k 5 (k:Int) hd) (irk 1 (.n 30 (.val (.pointer (some ⟨vblk v,k*5+2,none⟩))) .r) (iOS 0 S (wr (wr N (adI (vblk x1.pv) 0 x1.params.length) z) (adI (vblk x1.lv) 0 x1.lent.length) (z+((adI (vblk x1.pv) 0 x1.params.length).length:Nat))) (vblk v) (k*5+2) ((z+((adI (vblk x1.pv) 0 x1.params.length).length:Nat))+((adI (vblk x1.lv) 0 x1.lent.length).length:Nat)) hb.1 (kp.i i2) ?_))))))
  have kp:=kp.upd i2 ((z+((adI (vblk x1.pv) 0 x1.params.length).length:Nat))+((adI (vblk x1.lv) 0 x1.lent.length).length:Nat))
  refine ie (ar (irk 1 (.n 31 (.i ((z+((adI (vblk x1.pv) 0 x1.params.length).length:Nat))+((adI (vblk x1.lv) 0 x1.lent.length).length:Nat))) .r) (ia ((((z+((adI (vblk x1.pv) 0 x1.params.length).length:Nat))+((adI (vblk x1.lv) 0 x1.lent.length).length:Nat))+1)) ((((z+((adI (vblk x1.pv) 0 x1.params.length).length:Nat))+((adI (vblk x1.lv) 0 x1.lent.length).length:Nat)))+(1)) (ir 1 [(0,.val v),(1,.i (((z+((adI (vblk x1.pv) 0 x1.params.length).length:Nat))+((adI (vblk x1.lv) 0 x1.lent.length).length:Nat))+1)),(5,.i k)] (ie (ar (irk 2 (.n 33 (.val v) (.n 34 (.i k) .r)) (is_ (oIdx S v xs.length k 5 (k:Int) hd) (irk 2 (.n 37 (.val (.pointer (some ⟨vblk v,k*5+3,none⟩))) .r) ?_)))))))))
  have t3:Z2o (upd (wr (wr N (adI (vblk x1.pv) 0 x1.params.length) z) (adI (vblk x1.lv) 0 x1.lent.length) (z+((adI (vblk x1.pv) 0 x1.params.length).length:Nat))) (vblk v,k*5+2) ((z+((adI (vblk x1.pv) 0 x1.params.length).length:Nat))+((adI (vblk x1.lv) 0 x1.lent.length).length:Nat))) S (vblk x1.body.sv) 0 x1.body.steps:=Z8u kp s3
  refine ix_ (oGet 0 S (upd (wr (wr N (adI (vblk x1.pv) 0 x1.params.length) z) (adI (vblk x1.lv) 0 x1.lent.length) (z+((adI (vblk x1.pv) 0 x1.params.length).length:Nat))) (vblk v,k*5+2) ((z+((adI (vblk x1.pv) 0 x1.params.length).length:Nat))+((adI (vblk x1.lv) 0 x1.lent.length).length:Nat))) (vblk v) (k*5+3) x1.body.sv hb.1 (kp.h a3 d3.ni)) (irk 1 (.n 39 (.i (((z+((adI (vblk x1.pv) 0 x1.params.length).length:Nat))+((adI (vblk x1.lv) 0 x1.lent.length).length:Nat))+1)) .r) (ic [0] (Ztc S (upd (wr (wr N (adI (vblk x1.pv) 0 x1.params.length) z) (adI (vblk x1.lv) 0 x1.lent.length) (z+((adI (vblk x1.pv) 0 x1.params.length).length:Nat))) (vblk v,k*5+2) ((z+((adI (vblk x1.pv) 0 x1.params.length).length:Nat))+((adI (vblk x1.lv) 0 x1.lent.length).length:Nat))) x1.body.sv x1.body.steps (((z+((adI (vblk x1.pv) 0 x1.params.length).length:Nat))+((adI (vblk x1.lv) 0 x1.lent.length).length:Nat))+1)) ?_))
  rintro _ _ ⟨rfl,rfl⟩
  have kp:=kp.wr (Z7c s3) (((z+((adI (vblk x1.pv) 0 x1.params.length).length:Nat))+((adI (vblk x1.lv) 0 x1.lent.length).length:Nat))+1)
  refine ir 1 [(0,.val v),(1,.i ((((z+((adI (vblk x1.pv) 0 x1.params.length).length:Nat))+((adI (vblk x1.lv) 0 x1.lent.length).length:Nat))+1)+((Ze (vblk x1.body.sv) 0 x1.body.steps).length:Nat))),(5,.i k)] (ie (ar (irk 3 (.n 41 (.val v) (.n 42 (.i k) (.n 43 (.i ((((z+((adI (vblk x1.pv) 0 x1.params.length).length:Nat))+((adI (vblk x1.lv) 0 x1.lent.length).length:Nat))+1)+((Ze (vblk x1.body.sv) 0 x1.body.steps).length:Nat))) .r))) (is_ (oIdx S v xs.length k 5 (k:Int) hd) (irk 2 (.n 46 (.val (.pointer (some ⟨vblk v,k*5+4,none⟩))) .r) (iOS 0 S (wr (upd (wr (wr N (adI (vblk x1.pv) 0 x1.params.length) z) (adI (vblk x1.lv) 0 x1.lent.length) (z+((adI (vblk x1.pv) 0 x1.params.length).length:Nat))) (vblk v,k*5+2) ((z+((adI (vblk x1.pv) 0 x1.params.length).length:Nat))+((adI (vblk x1.lv) 0 x1.lent.length).length:Nat))) (Ze (vblk x1.body.sv) 0 x1.body.steps) (((z+((adI (vblk x1.pv) 0 x1.params.length).length:Nat))+((adI (vblk x1.lv) 0 x1.lent.length).length:Nat))+1)) (vblk v) (k*5+4) ((((z+((adI (vblk x1.pv) 0 x1.params.length).length:Nat))+((adI (vblk x1.lv) 0 x1.lent.length).length:Nat))+1)+((Ze (vblk x1.body.sv) 0 x1.body.steps).length:Nat)) hb.1 (kp.i i4) ?_))))))
  have kp:=kp.upd i4 ((((z+((adI (vblk x1.pv) 0 x1.params.length).length:Nat))+((adI (vblk x1.lv) 0 x1.lent.length).length:Nat))+1)+((Ze (vblk x1.body.sv) 0 x1.body.steps).length:Nat))
  refine ie (az (irk 1 (.n 47 (.i ((((z+((adI (vblk x1.pv) 0 x1.params.length).length:Nat))+((adI (vblk x1.lv) 0 x1.lent.length).length:Nat))+1)+((Ze (vblk x1.body.sv) 0 x1.body.steps).length:Nat))) .r) (ia ((((((z+((adI (vblk x1.pv) 0 x1.params.length).length:Nat))+((adI (vblk x1.lv) 0 x1.lent.length).length:Nat))+1)+((Ze (vblk x1.body.sv) 0 x1.body.steps).length:Nat))+1)) ((((((z+((adI (vblk x1.pv) 0 x1.params.length).length:Nat))+((adI (vblk x1.lv) 0 x1.lent.length).length:Nat))+1)+((Ze (vblk x1.body.sv) 0 x1.body.steps).length:Nat)))+(1)) (ir 1 [(0,.val v),(1,.i (((((z+((adI (vblk x1.pv) 0 x1.params.length).length:Nat))+((adI (vblk x1.lv) 0 x1.lent.length).length:Nat))+1)+((Ze (vblk x1.body.sv) 0 x1.body.steps).length:Nat))+1)),(5,.i k)] (ie (az (irk 1 (.n 10 (.i k) .r) (ia (((k+1:Nat):Int)) (((k:Int))+(1)) (irk 1 (.n 5 (.i (k+1:Nat)) (.p (.d (.k (.k .z))))) (ie ?_))))))))))
  exact ⟨_,_,_,ob,⟨k+1,(((((z+((adI (vblk x1.pv) 0 x1.params.length).length:Nat))+((adI (vblk x1.lv) 0 x1.lent.length).length:Nat))+1)+((Ze (vblk x1.body.sv) 0 x1.body.steps).length:Nat))+1),upd (wr (upd (wr (wr N (adI (vblk x1.pv) 0 x1.params.length) z) (adI (vblk x1.lv) 0 x1.lent.length) (z+((adI (vblk x1.pv) 0 x1.params.length).length:Nat))) (vblk v,k*5+2) ((z+((adI (vblk x1.pv) 0 x1.params.length).length:Nat))+((adI (vblk x1.lv) 0 x1.lent.length).length:Nat))) (Ze (vblk x1.body.sv) 0 x1.body.steps) (((z+((adI (vblk x1.pv) 0 x1.params.length).length:Nat))+((adI (vblk x1.lv) 0 x1.lent.length).length:Nat))+1)) (vblk v,k*5+4) ((((z+((adI (vblk x1.pv) 0 x1.params.length).length:Nat))+((adI (vblk x1.lv) 0 x1.lent.length).length:Nat))+1)+((Ze (vblk x1.body.sv) 0 x1.body.steps).length:Nat)),ob,ob,ob,kp,(Zoh c0_4 hdr Zq9 om),rfl,rfl,rfl⟩,(wk [0] (fw (fc (x:=.i (k+1:Nat)) li fl)))⟩
 have he:(Z0h (vblk v) (k*5) (xs.drop k))=[]:=by rw [List.drop_eq_nil_of_le om];rfl
 rw [he,List.length_nil] at c0_2
 rw [he,wr] at c0_4
 refine ax 0 (ar (ir 2 [(4,.i z)] (ie ?_)))
 exact at_ (r2 [0] [.i z] ⟨rfl,rfl⟩ li (eq:=(Zpv (m:=N) c0_4 rz)))
theorem Zpn (S:List Nat) (M:Mem) (y:HNormal) (q:Int) (hs:Z44 M S y:=by exact ob) (hl:∀d∈y.decls,d.cons.length≤4000000000000) (hq:0≤q∧q+((Z09 y).length:Nat)≤4000000000000:=by exact ob):Z3 Tryz.prog 11 [.agg [.val y.dv,.val y.rv],.i q] [.own S M] (fun r h=>r=.i (q+((Z09 y).length:Nat))∧h=[.own S (wr M (Z09 y) q)]):=by
 obtain ⟨⟨d0,s0⟩,⟨d1,s1⟩⟩:=hs
 have hln:=Zea (y:=y)
 have kp:=Kp.refl M
 refine enter Tryz.func11 kr (n:=14) kr kr (ar (iA [.val y.dv,.val y.rv] ?_))
 intro b1
 refine ir 1 [(1,.i q),(2,.p b1 0)] (ie (ar (irK 3 (.n 6 (.val y.dv) (.n 7 (.i q) .r)) [0] [b1] (ic [1] (Ztb S M y.dv y.decls q (hl:=ob)) ?_))))
 rintro _ _ ⟨rfl,rfl⟩
 have kp:=kp.wr (Zbd s0) q
 have t1:=Z9e kp s1
 refine ir 1 [(1,.i (q+((Z12 (vblk y.dv) 0 y.decls).length:Nat))),(2,.p b1 0)] (ie (ar (iR 3 [(10,.val y.rv),(11,.i (q+((Z12 (vblk y.dv) 0 y.decls).length:Nat)))] [1] [b1] (ic [0] (Zl1 S (wr M (Z12 (vblk y.dv) 0 y.decls) q) y.rv y.routines (q+((Z12 (vblk y.dv) 0 y.decls).length:Nat))) ?_))))
 rintro _ _ ⟨rfl,rfl⟩
 refine ir 1 [(1,.i ((q+((Z12 (vblk y.dv) 0 y.decls).length:Nat))+((Z0h (vblk y.rv) 0 y.routines).length:Nat)))] (ie (ar (ir 2 [(4,.i ((q+((Z12 (vblk y.dv) 0 y.decls).length:Nat))+((Z0h (vblk y.rv) 0 y.routines).length:Nat)))] (ie ?_))))
 exact at_ (r2 [0] [.i ((q+((Z12 (vblk y.dv) 0 y.decls).length:Nat))+((Z0h (vblk y.rv) 0 y.routines).length:Nat))] ⟨rfl,rfl⟩ li (eq:=(Zpv (m:=(wr (wr M (Z12 (vblk y.dv) 0 y.decls) q) (Z0h (vblk y.rv) 0 y.routines) (q+((Z12 (vblk y.dv) 0 y.decls).length:Nat)))) Zz9 rz)))
theorem Zcl (S:List Nat) (M:Mem) (v:Value) (xs:List Int) (q:Int) (hd:HdOk S v xs.length:=by exact ob) (hs:skI M (vblk v) xs.length:=by exact ob) (hh:hold M (adI (vblk v) 0 xs.length) q:=by exact ob) (hq:0≤q∧q+((adI (vblk v) 0 xs.length).length:Nat)≤4000000000000:=by exact ob):Z3 Tryz.prog 75 [.val v,.i q] [.own S M] (fun r h=>r=.i (q+((adI (vblk v) 0 xs.length).length:Nat))∧h=[.own S M]):=by
 have hal:=Zbe (vblk v) xs.length 0
 refine enter Tryz.func75 kr (n:=21) kr kr (ar (ir 1 [(0,.val v),(1,.i q)] (ie (aq (ar (irk 1 (.n 5 (.i 0) .r) (ie (ab 0 (al (fun m F h=>∃(k:Nat) (z:Int),(k≤xs.length)∧(0≤z)∧(z+((adI (vblk v) k (xs.length-k)).length:Nat)=q+((adI (vblk v) 0 xs.length).length:Nat))∧(hold M (adI (vblk v) k (xs.length-k)) z)∧F=[(0,.val v),(1,.i z),(5,.i k)]∧h=[.own S M]∧m=xs.length-k) _ _ _ ⟨0,q,ob,ob,(by simp),(by simpa using hh),rfl,rfl,rfl⟩ (wk [0] (fw (fc (x:=.i 0) li fl))) ?_)))))))))
 rintro m F h ⟨k,z,c0_0,c0_1,c0_2,c0_3,rfl,rfl,rfl⟩
 refine aq (ar (irk 2 (.n 6 (.i k) (.n 7 (.val v) .r)) (is_ (oLen S v xs.length hd) (irk 1 (.n 9 (.b (decide ((k:Int)<(xs.length:Int)))) .r) (ie (ac (decide ((k:Int)<(xs.length:Int))) dq (fun hc1=>?_) (fun hc1=>?_)))))))
 ·have hb:=hd.blk (i:=k) om
  have hdr:=Zqc (vblk v) xs.length k om
  have hl0:(adI (vblk v) k (xs.length-k)).length=(adI (vblk v) (k+1) (xs.length-(k+1))).length+1:=by rw [hdr];rfl
  have hsk:=hs k om
  rw [←Nat.mul_one k] at hsk
  rw [hdr] at c0_3
  have h0:M (vblk v) (k*1)=some (.int .i64 z):=by rw [Nat.mul_one];exact c0_3.1
  refine ak (aq (ab 1 (aq (ar (irk 2 (.n 12 (.val v) (.n 13 (.i k) .r)) (is_ (oIdx S v xs.length k 1 (k:Int) hd) (ix_ (oGet 0 S M (vblk v) (k*1) (.int .i64 z) hb.1 h0) (irk 2 (.n 17 (.b (z != z)) .r) (ie (ac (z != z) bne_iff_ne (fun hc2=>?_) (fun hc2=>?_)))))))))))
  ·refine ar (ir 1 [(4,.i (-1))] (ie ?_))
   exact at_ (r2 [0] [.i (-1)] ⟨rfl,rfl⟩ li)
  refine ak (az (irk 1 (.n 18 (.i z) .r) (ia ((z+1)) ((z)+(1)) (ir 1 [(0,.val v),(1,.i (z+1)),(5,.i k)] (ie (az (irk 1 (.n 10 (.i k) .r) (ia (((k+1:Nat):Int)) (((k:Int))+(1)) (irk 1 (.n 5 (.i (k+1:Nat)) (.p (.d (.k (.k .z))))) (ie ?_))))))))))
  exact ⟨_,_,_,ob,⟨k+1,(z+1),ob,ob,ob,c0_3.2,rfl,rfl,rfl⟩,(wk [0] (fw (fc (x:=.i (k+1:Nat)) li fl)))⟩
 have he:adI (vblk v) k (xs.length-k)=[]:=by rw [show xs.length-k=0 by omega];rfl
 rw [he,List.length_nil] at c0_2
 refine ax 0 (ar (ir 2 [(4,.i z)] (ie ?_)))
 exact at_ (r2 [0] [.i z] ⟨rfl,rfl⟩ li)
theorem Zw7 (S:List Nat) (M:Mem) (v:Value) (xs:List HCon) (q:Int) (hl:xs.length≤4000000000000:=by exact ob) (hd:HdOk S v xs.length:=by exact ob) (hs:Za9 M S (vblk v) 0 xs:=by exact ob) (hh:hold M (Z2w xs) q:=by exact ob) (hq:0≤q∧q+((Z2w xs).length:Nat)≤4000000000000:=by exact ob):Z3 Tryz.prog 74 [.val v,.i q] [.own S M] (fun r h=>r=.i (q+((Z2w xs).length:Nat))∧h=[.own S M]):=by
 refine enter Tryz.func74 kr (n:=22) kr kr (ar (ir 1 [(0,.val v),(1,.i q)] (ie (aq (ar (irk 1 (.n 5 (.i 0) .r) (ie (ab 0 (al (fun m F h=>∃(k:Nat) (z:Int),(k≤xs.length)∧(0≤z)∧(z+((Z2w (xs.drop k)).length:Nat)=q+((Z2w xs).length:Nat))∧(hold M (Z2w (xs.drop k)) z)∧F=[(0,.val v),(1,.i z),(5,.i k)]∧h=[.own S M]∧m=xs.length-k) _ _ _ ⟨0,q,ob,ob,(by simp),(by simpa using hh),rfl,rfl,rfl⟩ (wk [0] (fw (fc (x:=.i 0) li fl))) ?_)))))))))
 rintro m F h ⟨k,z,c0_0,c0_1,c0_2,c0_3,rfl,rfl,rfl⟩
 refine aq (ar (irk 2 (.n 6 (.i k) (.n 7 (.val v) .r)) (is_ (oLen S v xs.length hd) (irk 1 (.n 9 (.b (decide ((k:Int)<(xs.length:Int)))) .r) (ie (ac (decide ((k:Int)<(xs.length:Int))) dq (fun hc1=>?_) (fun hc1=>?_)))))))
 ·have hb:=hd.blk (i:=k) om
  obtain ⟨x1,hx1⟩:=Z6 (xs:=xs) (j:=k) om
  have e1:=Zei hs hx1
  rw [Nat.zero_add] at e1
  obtain ⟨⟨a0,d0⟩,s0⟩:=e1
  rw [←Nat.mul_one k] at a0
  have hdr:=Zgg hx1
  have hln:(Zzb x1).length=(adI (vblk x1.fv) 0 x1.fields.length).length:=rfl
  have hl0:=congrArg List.length hdr
  rw [List.length_append,hln] at hl0
  rw [hdr] at c0_3
  obtain ⟨hA,hR⟩:=(Z50 _ _ _ _).1 c0_3
  have h0:hold M (adI (vblk x1.fv) 0 x1.fields.length) z:=hA
  refine ak (aq (ab 1 (ar (irk 2 (.n 12 (.val v) (.n 13 (.i k) .r)) (is_ (oIdx S v xs.length k 1 (k:Int) hd) (irk 1 (.n 15 (.val (.pointer (some ⟨vblk v,k*1,none⟩))) .r) (ix_ (oGet 0 S M (vblk v) (k*1) x1.fv hb.1 a0) (irk 1 (.n 17 (.i z) .r) (ic [0] (Zcl S M x1.fv x1.fields z) ?_)))))))))
  rintro _ _ ⟨rfl,rfl⟩
  refine ir 1 [(0,.val v),(1,.i (z+((adI (vblk x1.fv) 0 x1.fields.length).length:Nat))),(5,.i k)] (ie (ar (irk 2 (.n 20 (.b (decide ((z+((adI (vblk x1.fv) 0 x1.fields.length).length:Nat))<0))) .r) (ie (ac (decide ((z+((adI (vblk x1.fv) 0 x1.fields.length).length:Nat))<0)) dq (fun hc2=>?_) (fun hc2=>?_))))))
  ·refine ar (ir 1 [(4,.i (-1))] (ie ?_))
   exact at_ (r2 [0] [.i (-1)] ⟨rfl,rfl⟩ li)
  refine ak (az (irk 1 (.n 10 (.i k) .r) (ia (((k+1:Nat):Int)) (((k:Int))+(1)) (irk 1 (.n 5 (.i (k+1:Nat)) (.p (.d (.d (.k (.k .z)))))) (ie ?_)))))
  exact ⟨_,_,_,ob,⟨k+1,(z+((adI (vblk x1.fv) 0 x1.fields.length).length:Nat)),ob,ob,ob,(Zcm hR om),rfl,rfl,rfl⟩,(wk [0] (fw (fc (x:=.i (k+1:Nat)) li fl)))⟩
 have he:(Z2w (xs.drop k))=[]:=by rw [List.drop_eq_nil_of_le om];rfl
 rw [he,List.length_nil] at c0_2
 refine ax 0 (ar (ir 2 [(4,.i z)] (ie ?_)))
 exact at_ (r2 [0] [.i z] ⟨rfl,rfl⟩ li)
theorem Zsz (S:List Nat) (M:Mem) (v:Value) (xs:List HDecl) (q:Int) (hl:∀d∈xs,d.cons.length≤4000000000000) (hd:HdOk S v xs.length:=by exact ob) (hs:Z8b M S (vblk v) 0 xs:=by exact ob) (hh:hold M (Z12 (vblk v) 0 xs) q:=by exact ob) (hq:0≤q∧q+((Z12 (vblk v) 0 xs).length:Nat)≤4000000000000:=by exact ob):Z3 Tryz.prog 34 [.val v,.i q] [.own S M] (fun r h=>r=.i (q+((Z12 (vblk v) 0 xs).length:Nat))∧h=[.own S M]):=by
 have hal:=Zds (g:=vblk v) (o:=0) (ds:=xs)
 refine enter Tryz.func34 kr (n:=40) kr kr (ar (ir 1 [(0,.val v),(1,.i q)] (ie (aq (ar (irk 1 (.n 5 (.i 0) .r) (ie (ab 0 (al (fun m F h=>∃(k:Nat) (z:Int),(k≤xs.length)∧(0≤z)∧(z+((Z12 (vblk v) (k*3) (xs.drop k)).length:Nat)=q+((Z12 (vblk v) 0 xs).length:Nat))∧(hold M (Z12 (vblk v) (k*3) (xs.drop k)) z)∧F=[(0,.val v),(1,.i z),(5,.i k)]∧h=[.own S M]∧m=xs.length-k) _ _ _ ⟨0,q,ob,ob,(by simp),(by simpa using hh),rfl,rfl,rfl⟩ (wk [0] (fw (fc (x:=.i 0) li fl))) ?_)))))))))
 rintro m F h ⟨k,z,c0_0,c0_1,c0_2,c0_3,rfl,rfl,rfl⟩
 refine aq (ar (irk 2 (.n 6 (.i k) (.n 7 (.val v) .r)) (is_ (oLen S v xs.length hd) (irk 1 (.n 9 (.b (decide ((k:Int)<(xs.length:Int)))) .r) (ie (ac (decide ((k:Int)<(xs.length:Int))) dq (fun hc1=>?_) (fun hc1=>?_)))))))
 ·have hb:=hd.blk (i:=k) om
  obtain ⟨x1,hx1⟩:=Z6 (xs:=xs) (j:=k) om
  have e1:=Zbu hs hx1
  rw [Nat.zero_add] at e1
  obtain ⟨i0,i1,⟨a2,d2⟩,s2⟩:=e1
  have hdr:=Zeu (g:=vblk v) hx1
  have hl1:=hl x1 (List.mem_of_getElem? hx1)
  have hln:=Zg3 (g:=vblk v) (o:=k*3) (d:=x1)
  have hl0:=congrArg List.length hdr
  rw [List.length_append,hln] at hl0
  rw [hdr] at c0_3
  obtain ⟨hA,hR⟩:=(Z50 _ _ _ _).1 c0_3
  obtain ⟨h0,h1,h2⟩:=Zwa hA
  refine ak (aq (ab 1 (aq (ar (irk 2 (.n 12 (.val v) (.n 13 (.i k) .r)) (is_ (oIdx S v xs.length k 3 (k:Int) hd) (irk 1 (.n 15 (.val (.pointer (some ⟨vblk v,k*3,none⟩))) .r) (ix_ (oGet 0 S M (vblk v) (k*3) (.int .i64 z) hb.1 h0) (irk 2 (.n 18 (.b (z != z)) .r) (ie (ac (z != z) bne_iff_ne (fun hc2=>?_) (fun hc2=>?_))))))))))))
  ·refine ar (ir 1 [(4,.i (-1))] (ie ?_))
   exact at_ (r2 [0] [.i (-1)] ⟨rfl,rfl⟩ li)
  refine ak (ar (irk 1 (.n 19 (.i z) .r) (ia ((z+1)) ((z)+(1)) (ir 1 [(0,.val v),(1,.i (z+1)),(5,.i k)] (ie (aq (ar (irk 2 (.n 21 (.val v) (.n 22 (.i k) .r)) (is_ (oIdx S v xs.length k 3 (k:Int) hd) (irk 1 (.n 24 (.val (.pointer (some ⟨vblk v,k*3+1,none⟩))) .r) (ix_ (oGet 0 S M (vblk v) (k*3+1) (.int .i64 (z+1)) hb.1 h1) (irk 2 (.n 27 (.b ((z+1) != (z+1))) .r) (ie (ac ((z+1) != (z+1)) bne_iff_ne (fun hc3=>?_) (fun hc3=>?_)))))))))))))))
  ·refine ar (ir 1 [(4,.i (-1))] (ie ?_))
   exact at_ (r2 [0] [.i (-1)] ⟨rfl,rfl⟩ li)
  refine ak (ar (irk 1 (.n 28 (.i (z+1)) .r) (ia (((z+1)+1)) (((z+1))+(1)) (ir 1 [(0,.val v),(1,.i ((z+1)+1)),(5,.i k)] (ie (ar (irk 2 (.n 30 (.val v) (.n 31 (.i k) .r)) (is_ (oIdx S v xs.length k 3 (k:Int) hd) (irk 1 (.n 33 (.val (.pointer (some ⟨vblk v,k*3+2,none⟩))) .r) (ix_ (oGet 0 S M (vblk v) (k*3+2) x1.cv hb.1 a2) (irk 1 (.n 35 (.i ((z+1)+1)) .r) (ic [0] (Zw7 S M x1.cv x1.cons ((z+1)+1)) ?_))))))))))))
  rintro _ _ ⟨rfl,rfl⟩
  refine ir 1 [(0,.val v),(1,.i (((z+1)+1)+((Z2w x1.cons).length:Nat))),(5,.i k)] (ie (ar (irk 2 (.n 38 (.b (decide ((((z+1)+1)+((Z2w x1.cons).length:Nat))<0))) .r) (ie (ac (decide ((((z+1)+1)+((Z2w x1.cons).length:Nat))<0)) dq (fun hc4=>?_) (fun hc4=>?_))))))
  ·refine ar (ir 1 [(4,.i (-1))] (ie ?_))
   exact at_ (r2 [0] [.i (-1)] ⟨rfl,rfl⟩ li)
  refine ak (az (irk 1 (.n 10 (.i k) .r) (ia (((k+1:Nat):Int)) (((k:Int))+(1)) (irk 1 (.n 5 (.i (k+1:Nat)) (.p (.d (.d (.k (.k .z)))))) (ie ?_)))))
  exact ⟨_,_,_,ob,⟨k+1,(((z+1)+1)+((Z2w x1.cons).length:Nat)),ob,ob,ob,(Zcm hR om),rfl,rfl,rfl⟩,(wk [0] (fw (fc (x:=.i (k+1:Nat)) li fl)))⟩
 have he:(Z12 (vblk v) (k*3) (xs.drop k))=[]:=by rw [List.drop_eq_nil_of_le om];rfl
 rw [he,List.length_nil] at c0_2
 refine ax 0 (ar (ir 2 [(4,.i z)] (ie ?_)))
 exact at_ (r2 [0] [.i z] ⟨rfl,rfl⟩ li)
theorem Zpg (S:List Nat) (M:Mem) (v:Value) (xs:List HStep) (q:Int) (ih:∀(S:List Nat) (M:Mem) (v:Value) (ys:List HBlock) (q:Int),(SizeOf.sizeOf ys<SizeOf.sizeOf xs)→(HdOk S v ys.length)→(Z2c M S (vblk v) 0 ys)→(hold M (Z07 (vblk v) 0 ys) q)→(0≤q∧q+((Z07 (vblk v) 0 ys).length:Nat)≤4000000000000)→Z3 Tryz.prog 131 [.val v,.i q] [.own S M] (fun r h=>r=.i (q+((Z07 (vblk v) 0 ys).length:Nat))∧h=[.own S M])) (hd:HdOk S v xs.length) (hs:Z2o M S (vblk v) 0 xs) (hh:hold M (Ze (vblk v) 0 xs) q) (hq:0≤q∧q+((Ze (vblk v) 0 xs).length:Nat)≤4000000000000):Z3 Tryz.prog 76 [.val v,.i q] [.own S M] (fun r h=>r=.i (q+((Ze (vblk v) 0 xs).length:Nat))∧h=[.own S M]):=by
 have hal:=Zdt (g:=vblk v) (o:=0) (xs:=xs)
 refine enter Tryz.func76 kr (n:=58) kr kr (ar (ir 1 [(0,.val v),(1,.i q)] (ie (aq (ar (irk 1 (.n 5 (.i 0) .r) (ie (ab 0 (al (fun m F h=>∃(k:Nat) (z:Int),(k≤xs.length)∧(0≤z)∧(z+((Ze (vblk v) (k*5) (xs.drop k)).length:Nat)=q+((Ze (vblk v) 0 xs).length:Nat))∧(hold M (Ze (vblk v) (k*5) (xs.drop k)) z)∧F=[(0,.val v),(1,.i z),(5,.i k)]∧h=[.own S M]∧m=xs.length-k) _ _ _ ⟨0,q,ob,ob,(by simp),(by simpa using hh),rfl,rfl,rfl⟩ (wk [0] (fw (fc (x:=.i 0) li fl))) ?_)))))))))
 rintro m F h ⟨k,z,c0_0,c0_1,c0_2,c0_3,rfl,rfl,rfl⟩
 refine aq (ar (irk 2 (.n 6 (.i k) (.n 7 (.val v) .r)) (is_ (oLen S v xs.length hd) (irk 1 (.n 9 (.b (decide ((k:Int)<(xs.length:Int)))) .r) (ie (ac (decide ((k:Int)<(xs.length:Int))) dq (fun hc1=>?_) (fun hc1=>?_)))))))
 ·have hb:=hd.blk (i:=k) om
  obtain ⟨x1,hx1⟩:=Z6 (xs:=xs) (j:=k) om
  have e1:=Zbv hs hx1
  rw [Nat.zero_add] at e1
  rw [Zo1] at e1
  have hz:SizeOf.sizeOf x1.kids<SizeOf.sizeOf xs:=Zr1 hx1
  obtain ⟨⟨i0,i1,i2⟩,⟨⟨a3,d3⟩,s3⟩,⟨⟨a4,d4⟩,s4⟩⟩:=e1
  have hdr:=Zex (g:=vblk v) hx1
  have hln:=Zkz (g:=vblk v) (o:=k*5) (s:=x1)
  have hl0:=congrArg List.length hdr
  rw [List.length_append,hln] at hl0
  rw [hdr] at c0_3
  obtain ⟨hA,hR⟩:=(Z50 _ _ _ _).1 c0_3
  obtain ⟨h0,h1,h2,h3,h4⟩:=Zwb hA
  refine ak (aq (ab 1 (aq (ar (irk 2 (.n 12 (.val v) (.n 13 (.i k) .r)) (is_ (oIdx S v xs.length k 5 (k:Int) hd) (irk 1 (.n 15 (.val (.pointer (some ⟨vblk v,k*5,none⟩))) .r) (ix_ (oGet 0 S M (vblk v) (k*5) (.int .i64 z) hb.1 h0) (irk 2 (.n 18 (.b (z != z)) .r) (ie (ac (z != z) bne_iff_ne (fun hc2=>?_) (fun hc2=>?_))))))))))))
  ·refine ar (ir 1 [(4,.i (-1))] (ie ?_))
   exact at_ (r2 [0] [.i (-1)] ⟨rfl,rfl⟩ li)
  refine ak (ar (irk 1 (.n 19 (.i z) .r) (ia ((z+1)) ((z)+(1)) (ir 1 [(0,.val v),(1,.i (z+1)),(5,.i k)] (ie (aq (ar (irk 2 (.n 21 (.val v) (.n 22 (.i k) .r)) (is_ (oIdx S v xs.length k 5 (k:Int) hd) (irk 1 (.n 24 (.val (.pointer (some ⟨vblk v,k*5+1,none⟩))) .r) (ix_ (oGet 0 S M (vblk v) (k*5+1) (.int .i64 (z+1)) hb.1 h1) (irk 2 (.n 27 (.b ((z+1) != (z+1))) .r) (ie (ac ((z+1) != (z+1)) bne_iff_ne (fun hc3=>?_) (fun hc3=>?_)))))))))))))))
  ·refine ar (ir 1 [(4,.i (-1))] (ie ?_))
   exact at_ (r2 [0] [.i (-1)] ⟨rfl,rfl⟩ li)
  refine ak (ar (irk 1 (.n 28 (.i (z+1)) .r) (ia (((z+1)+1)) (((z+1))+(1)) (ir 1 [(0,.val v),(1,.i ((z+1)+1)),(5,.i k)] (ie (aq (ar (irk 2 (.n 30 (.val v) (.n 31 (.i k) .r)) (is_ (oIdx S v xs.length k 5 (k:Int) hd) (irk 1 (.n 33 (.val (.pointer (some ⟨vblk v,k*5+2,none⟩))) .r) (ix_ (oGet 0 S M (vblk v) (k*5+2) (.int .i64 ((z+1)+1)) hb.1 h2) (irk 2 (.n 36 (.b (((z+1)+1) != ((z+1)+1))) .r) (ie (ac (((z+1)+1) != ((z+1)+1)) bne_iff_ne (fun hc4=>?_) (fun hc4=>?_)))))))))))))))
  ·refine ar (ir 1 [(4,.i (-1))] (ie ?_))
   exact at_ (r2 [0] [.i (-1)] ⟨rfl,rfl⟩ li)
  refine ak (ar (irk 1 (.n 37 (.i ((z+1)+1)) .r) (ia ((((z+1)+1)+1)) ((((z+1)+1))+(1)) (ir 1 [(0,.val v),(1,.i (((z+1)+1)+1)),(5,.i k)] (ie (ar (irk 2 (.n 39 (.val v) (.n 40 (.i k) .r)) (is_ (oIdx S v xs.length k 5 (k:Int) hd) (irk 1 (.n 42 (.val (.pointer (some ⟨vblk v,k*5+3,none⟩))) .r) (ix_ (oGet 0 S M (vblk v) (k*5+3) x1.av hb.1 a3) (irk 1 (.n 44 (.i (((z+1)+1)+1)) .r) (ic [0] (Zcl S M x1.av x1.args (((z+1)+1)+1)) ?_))))))))))))
  rintro _ _ ⟨rfl,rfl⟩
  refine ir 1 [(0,.val v),(1,.i ((((z+1)+1)+1)+((adI (vblk x1.av) 0 x1.args.length).length:Nat))),(5,.i k)] (ie (aq (ar (irk 2 (.n 47 (.b (decide (((((z+1)+1)+1)+((adI (vblk x1.av) 0 x1.args.length).length:Nat))<0))) .r) (ie (ac (decide (((((z+1)+1)+1)+((adI (vblk x1.av) 0 x1.args.length).length:Nat))<0)) dq (fun hc5=>?_) (fun hc5=>?_)))))))
  ·refine ar (ir 1 [(4,.i (-1))] (ie ?_))
   exact at_ (r2 [0] [.i (-1)] ⟨rfl,rfl⟩ li)
  refine ak (ar (irk 2 (.n 48 (.val v) (.n 49 (.i k) .r)) (is_ (oIdx S v xs.length k 5 (k:Int) hd) (irk 1 (.n 51 (.val (.pointer (some ⟨vblk v,k*5+4,none⟩))) .r) (ix_ (oGet 0 S M (vblk v) (k*5+4) x1.kv hb.1 a4) (irk 1 (.n 53 (.i ((((z+1)+1)+1)+((adI (vblk x1.av) 0 x1.args.length).length:Nat))) .r) (ic [0] (ih S M x1.kv x1.kids ((((z+1)+1)+1)+((adI (vblk x1.av) 0 x1.args.length).length:Nat)) ob ob ob ob ob) ?_)))))))
  rintro _ _ ⟨rfl,rfl⟩
  refine ir 1 [(0,.val v),(1,.i (((((z+1)+1)+1)+((adI (vblk x1.av) 0 x1.args.length).length:Nat))+((Z07 (vblk x1.kv) 0 x1.kids).length:Nat))),(5,.i k)] (ie (ar (irk 2 (.n 56 (.b (decide ((((((z+1)+1)+1)+((adI (vblk x1.av) 0 x1.args.length).length:Nat))+((Z07 (vblk x1.kv) 0 x1.kids).length:Nat))<0))) .r) (ie (ac (decide ((((((z+1)+1)+1)+((adI (vblk x1.av) 0 x1.args.length).length:Nat))+((Z07 (vblk x1.kv) 0 x1.kids).length:Nat))<0)) dq (fun hc6=>?_) (fun hc6=>?_))))))
  ·refine ar (ir 1 [(4,.i (-1))] (ie ?_))
   exact at_ (r2 [0] [.i (-1)] ⟨rfl,rfl⟩ li)
  refine ak (az (irk 1 (.n 10 (.i k) .r) (ia (((k+1:Nat):Int)) (((k:Int))+(1)) (irk 1 (.n 5 (.i (k+1:Nat)) (.p (.d (.d (.k (.k .z)))))) (ie ?_)))))
  exact ⟨_,_,_,ob,⟨k+1,(((((z+1)+1)+1)+((adI (vblk x1.av) 0 x1.args.length).length:Nat))+((Z07 (vblk x1.kv) 0 x1.kids).length:Nat)),ob,ob,ob,(Zcm hR om),rfl,rfl,rfl⟩,(wk [0] (fw (fc (x:=.i (k+1:Nat)) li fl)))⟩
 have he:(Ze (vblk v) (k*5) (xs.drop k))=[]:=by rw [List.drop_eq_nil_of_le om,Ze]
 rw [he,List.length_nil] at c0_2
 refine ax 0 (ar (ir 2 [(4,.i z)] (ie ?_)))
 exact at_ (r2 [0] [.i z] ⟨rfl,rfl⟩ li)
theorem Zmy (S:List Nat) (M:Mem) (v:Value) (xs:List HBlock) (q:Int) (ih:∀(S:List Nat) (M:Mem) (v:Value) (ys:List HStep) (q:Int),(SizeOf.sizeOf ys<SizeOf.sizeOf xs)→(HdOk S v ys.length)→(Z2o M S (vblk v) 0 ys)→(hold M (Ze (vblk v) 0 ys) q)→(0≤q∧q+((Ze (vblk v) 0 ys).length:Nat)≤4000000000000)→Z3 Tryz.prog 76 [.val v,.i q] [.own S M] (fun r h=>r=.i (q+((Ze (vblk v) 0 ys).length:Nat))∧h=[.own S M])) (hd:HdOk S v xs.length) (hs:Z2c M S (vblk v) 0 xs) (hh:hold M (Z07 (vblk v) 0 xs) q) (hq:0≤q∧q+((Z07 (vblk v) 0 xs).length:Nat)≤4000000000000):Z3 Tryz.prog 131 [.val v,.i q] [.own S M] (fun r h=>r=.i (q+((Z07 (vblk v) 0 xs).length:Nat))∧h=[.own S M]):=by
 have hal:=Zbc (g:=vblk v) (o:=0) (xs:=xs)
 refine enter Tryz.func131 kr (n:=31) kr kr (ar (ir 1 [(0,.val v),(1,.i q)] (ie (aq (ar (irk 1 (.n 5 (.i 0) .r) (ie (ab 0 (al (fun m F h=>∃(k:Nat) (z:Int),(k≤xs.length)∧(0≤z)∧(z+((Z07 (vblk v) (k*2) (xs.drop k)).length:Nat)=q+((Z07 (vblk v) 0 xs).length:Nat))∧(hold M (Z07 (vblk v) (k*2) (xs.drop k)) z)∧F=[(0,.val v),(1,.i z),(5,.i k)]∧h=[.own S M]∧m=xs.length-k) _ _ _ ⟨0,q,ob,ob,(by simp),(by simpa using hh),rfl,rfl,rfl⟩ (wk [0] (fw (fc (x:=.i 0) li fl))) ?_)))))))))
 rintro m F h ⟨k,z,c0_0,c0_1,c0_2,c0_3,rfl,rfl,rfl⟩
 refine aq (ar (irk 2 (.n 6 (.i k) (.n 7 (.val v) .r)) (is_ (oLen S v xs.length hd) (irk 1 (.n 9 (.b (decide ((k:Int)<(xs.length:Int)))) .r) (ie (ac (decide ((k:Int)<(xs.length:Int))) dq (fun hc1=>?_) (fun hc1=>?_)))))))
 ·have hb:=hd.blk (i:=k) om
  obtain ⟨x1,hx1⟩:=Z6 (xs:=xs) (j:=k) om
  have e1:=Za8 hs hx1
  rw [Nat.zero_add] at e1
  rw [Zk0] at e1
  have hz:SizeOf.sizeOf x1.steps<SizeOf.sizeOf xs:=Zn0 hx1
  obtain ⟨⟨⟨a0,d0⟩,s0⟩,i1⟩:=e1
  have hdr:=Zc7 (g:=vblk v) hx1
  have hln:=Zhc (g:=vblk v) (o:=k*2) (b:=x1)
  have hl0:=congrArg List.length hdr
  rw [List.length_append,hln] at hl0
  rw [hdr] at c0_3
  obtain ⟨hA,hR⟩:=(Z50 _ _ _ _).1 c0_3
  obtain ⟨h0,h1⟩:=Zt1 hA
  refine ak (aq (ab 1 (ar (irk 2 (.n 12 (.val v) (.n 13 (.i k) .r)) (is_ (oIdx S v xs.length k 2 (k:Int) hd) (irk 1 (.n 15 (.val (.pointer (some ⟨vblk v,k*2,none⟩))) .r) (ix_ (oGet 0 S M (vblk v) (k*2) x1.sv hb.1 a0) (irk 1 (.n 17 (.i z) .r) (ic [0] (ih S M x1.sv x1.steps z ob ob ob ob ob) ?_)))))))))
  rintro _ _ ⟨rfl,rfl⟩
  refine ir 1 [(0,.val v),(1,.i (z+((Ze (vblk x1.sv) 0 x1.steps).length:Nat))),(5,.i k)] (ie (aq (ar (irk 2 (.n 20 (.b (decide ((z+((Ze (vblk x1.sv) 0 x1.steps).length:Nat))<0))) .r) (ie (ac (decide ((z+((Ze (vblk x1.sv) 0 x1.steps).length:Nat))<0)) dq (fun hc2=>?_) (fun hc2=>?_)))))))
  ·refine ar (ir 1 [(4,.i (-1))] (ie ?_))
   exact at_ (r2 [0] [.i (-1)] ⟨rfl,rfl⟩ li)
  refine ak (aq (ar (irk 2 (.n 21 (.val v) (.n 22 (.i k) .r)) (is_ (oIdx S v xs.length k 2 (k:Int) hd) (irk 1 (.n 24 (.val (.pointer (some ⟨vblk v,k*2+1,none⟩))) .r) (ix_ (oGet 0 S M (vblk v) (k*2+1) (.int .i64 (z+((Ze (vblk x1.sv) 0 x1.steps).length:Nat))) hb.1 h1) (irk 2 (.n 27 (.b ((z+((Ze (vblk x1.sv) 0 x1.steps).length:Nat)) != (z+((Ze (vblk x1.sv) 0 x1.steps).length:Nat)))) .r) (ie (ac ((z+((Ze (vblk x1.sv) 0 x1.steps).length:Nat)) != (z+((Ze (vblk x1.sv) 0 x1.steps).length:Nat))) bne_iff_ne (fun hc3=>?_) (fun hc3=>?_))))))))))
  ·refine ar (ir 1 [(4,.i (-1))] (ie ?_))
   exact at_ (r2 [0] [.i (-1)] ⟨rfl,rfl⟩ li)
  refine ak (az (irk 1 (.n 28 (.i (z+((Ze (vblk x1.sv) 0 x1.steps).length:Nat))) .r) (ia (((z+((Ze (vblk x1.sv) 0 x1.steps).length:Nat))+1)) (((z+((Ze (vblk x1.sv) 0 x1.steps).length:Nat)))+(1)) (ir 1 [(0,.val v),(1,.i ((z+((Ze (vblk x1.sv) 0 x1.steps).length:Nat))+1)),(5,.i k)] (ie (az (irk 1 (.n 10 (.i k) .r) (ia (((k+1:Nat):Int)) (((k:Int))+(1)) (irk 1 (.n 5 (.i (k+1:Nat)) (.p (.d (.k (.k .z))))) (ie ?_))))))))))
  exact ⟨_,_,_,ob,⟨k+1,((z+((Ze (vblk x1.sv) 0 x1.steps).length:Nat))+1),ob,ob,ob,(Zcm hR om),rfl,rfl,rfl⟩,(wk [0] (fw (fc (x:=.i (k+1:Nat)) li fl)))⟩
 have he:(Z07 (vblk v) (k*2) (xs.drop k))=[]:=by rw [List.drop_eq_nil_of_le om,Z07]
 rw [he,List.length_nil] at c0_2
 refine ax 0 (ar (ir 2 [(4,.i z)] (ie ?_)))
 exact at_ (r2 [0] [.i z] ⟨rfl,rfl⟩ li)
theorem Zw9 (n:Nat):(∀(S:List Nat) (M:Mem) (v:Value) (xs:List HStep) (q:Int),(SizeOf.sizeOf xs<n)→(HdOk S v xs.length)→(Z2o M S (vblk v) 0 xs)→(hold M (Ze (vblk v) 0 xs) q)→(0≤q∧q+((Ze (vblk v) 0 xs).length:Nat)≤4000000000000)→Z3 Tryz.prog 76 [.val v,.i q] [.own S M] (fun r h=>r=.i (q+((Ze (vblk v) 0 xs).length:Nat))∧h=[.own S M]))∧(∀(S:List Nat) (M:Mem) (v:Value) (xs:List HBlock) (q:Int),(SizeOf.sizeOf xs<n)→(HdOk S v xs.length)→(Z2c M S (vblk v) 0 xs)→(hold M (Z07 (vblk v) 0 xs) q)→(0≤q∧q+((Z07 (vblk v) 0 xs).length:Nat)≤4000000000000)→Z3 Tryz.prog 131 [.val v,.i q] [.own S M] (fun r h=>r=.i (q+((Z07 (vblk v) 0 xs).length:Nat))∧h=[.own S M])):=by
 induction n with
 | zero=>exact ⟨fun _ _ _ _ _ h=>by omega,fun _ _ _ _ _ h=>by omega⟩
 | succ n ih=>
  obtain ⟨i1,i2⟩:=ih
  exact ⟨fun S M v xs q hz h3 h4 h5 h9=>Zpg S M v xs q (fun S M v ys q hz2 h3 h4 h5 h9=>i2 S M v ys q om h3 h4 h5 h9) h3 h4 h5 h9,fun S M v xs q hz h3 h4 h5 h9=>Zmy S M v xs q (fun S M v ys q hz2 h3 h4 h5 h9=>i1 S M v ys q om h3 h4 h5 h9) h3 h4 h5 h9⟩
theorem Zt0 (S:List Nat) (M:Mem) (v:Value) (xs:List HStep) (q:Int) (hd:HdOk S v xs.length:=by exact ob) (hs:Z2o M S (vblk v) 0 xs:=by exact ob) (hh:hold M (Ze (vblk v) 0 xs) q:=by exact ob) (hq:0≤q∧q+((Ze (vblk v) 0 xs).length:Nat)≤4000000000000:=by exact ob):Z3 Tryz.prog 76 [.val v,.i q] [.own S M] (fun r h=>r=.i (q+((Ze (vblk v) 0 xs).length:Nat))∧h=[.own S M]):=(Zw9 (SizeOf.sizeOf xs+1)).1 S M v xs q om hd hs hh hq
theorem Zkr (S:List Nat) (M:Mem) (v:Value) (xs:List HRoutine) (q:Int) (hd:HdOk S v xs.length:=by exact ob) (hs:Z49 M S (vblk v) 0 xs:=by exact ob) (hh:hold M (Z0h (vblk v) 0 xs) q:=by exact ob) (hq:0≤q∧q+((Z0h (vblk v) 0 xs).length:Nat)≤4000000000000:=by exact ob):Z3 Tryz.prog 35 [.val v,.i q] [.own S M] (fun r h=>r=.i (q+((Z0h (vblk v) 0 xs).length:Nat))∧h=[.own S M]):=by
 have hal:=Z8z (g:=vblk v) (o:=0) (xs:=xs)
 refine enter Tryz.func35 kr (n:=60) kr kr (ar (ir 1 [(0,.val v),(1,.i q)] (ie (aq (ar (irk 1 (.n 5 (.i 0) .r) (ie (ab 0 (al (fun m F h=>∃(k:Nat) (z:Int),(k≤xs.length)∧(0≤z)∧(z+((Z0h (vblk v) (k*5) (xs.drop k)).length:Nat)=q+((Z0h (vblk v) 0 xs).length:Nat))∧(hold M (Z0h (vblk v) (k*5) (xs.drop k)) z)∧F=[(0,.val v),(1,.i z),(5,.i k)]∧h=[.own S M]∧m=xs.length-k) _ _ _ ⟨0,q,ob,ob,(by simp),(by simpa using hh),rfl,rfl,rfl⟩ (wk [0] (fw (fc (x:=.i 0) li fl))) ?_)))))))))
 rintro m F h ⟨k,z,c0_0,c0_1,c0_2,c0_3,rfl,rfl,rfl⟩
 refine aq (ar (irk 2 (.n 6 (.i k) (.n 7 (.val v) .r)) (is_ (oLen S v xs.length hd) (irk 1 (.n 9 (.b (decide ((k:Int)<(xs.length:Int)))) .r) (ie (ac (decide ((k:Int)<(xs.length:Int))) dq (fun hc1=>?_) (fun hc1=>?_)))))))
 ·have hb:=hd.blk (i:=k) om
  obtain ⟨x1,hx1⟩:=Z6 (xs:=xs) (j:=k) om
  have e1:=Z8c hs hx1
  rw [Nat.zero_add] at e1
  obtain ⟨⟨⟨a0,d0⟩,s0⟩,⟨⟨a1,d1⟩,s1⟩,i2,⟨⟨a3,d3⟩,s3⟩,i4⟩:=e1
  have hdr:=Z9v (g:=vblk v) hx1
  have hln:=Z99 (g:=vblk v) (o:=k*5) (r:=x1)
  have hl0:=congrArg List.length hdr
  rw [List.length_append,hln] at hl0
  rw [hdr] at c0_3
  obtain ⟨hA,hR⟩:=(Z50 _ _ _ _).1 c0_3
  obtain ⟨h0,h1,h2,h3,h4⟩:=Zmz hA
  refine ak (aq (ab 1 (ar (irk 2 (.n 12 (.val v) (.n 13 (.i k) .r)) (is_ (oIdx S v xs.length k 5 (k:Int) hd) (irk 1 (.n 15 (.val (.pointer (some ⟨vblk v,k*5,none⟩))) .r) (ix_ (oGet 0 S M (vblk v) (k*5) x1.pv hb.1 a0) (irk 1 (.n 17 (.i z) .r) (ic [0] (Zcl S M x1.pv x1.params z) ?_)))))))))
  rintro _ _ ⟨rfl,rfl⟩
  refine ir 1 [(0,.val v),(1,.i (z+((adI (vblk x1.pv) 0 x1.params.length).length:Nat))),(5,.i k)] (ie (aq (ar (irk 2 (.n 20 (.b (decide ((z+((adI (vblk x1.pv) 0 x1.params.length).length:Nat))<0))) .r) (ie (ac (decide ((z+((adI (vblk x1.pv) 0 x1.params.length).length:Nat))<0)) dq (fun hc2=>?_) (fun hc2=>?_)))))))
  ·refine ar (ir 1 [(4,.i (-1))] (ie ?_))
   exact at_ (r2 [0] [.i (-1)] ⟨rfl,rfl⟩ li)
  refine ak (ar (irk 2 (.n 21 (.val v) (.n 22 (.i k) .r)) (is_ (oIdx S v xs.length k 5 (k:Int) hd) (irk 1 (.n 24 (.val (.pointer (some ⟨vblk v,k*5+1,none⟩))) .r) (ix_ (oGet 0 S M (vblk v) (k*5+1) x1.lv hb.1 a1) (irk 1 (.n 26 (.i (z+((adI (vblk x1.pv) 0 x1.params.length).length:Nat))) .r) (ic [0] (Zcl S M x1.lv x1.lent (z+((adI (vblk x1.pv) 0 x1.params.length).length:Nat))) ?_)))))))
  rintro _ _ ⟨rfl,rfl⟩
  refine ir 1 [(0,.val v),(1,.i ((z+((adI (vblk x1.pv) 0 x1.params.length).length:Nat))+((adI (vblk x1.lv) 0 x1.lent.length).length:Nat))),(5,.i k)] (ie (aq (ar (irk 2 (.n 29 (.b (decide (((z+((adI (vblk x1.pv) 0 x1.params.length).length:Nat))+((adI (vblk x1.lv) 0 x1.lent.length).length:Nat))<0))) .r) (ie (ac (decide (((z+((adI (vblk x1.pv) 0 x1.params.length).length:Nat))+((adI (vblk x1.lv) 0 x1.lent.length).length:Nat))<0)) dq (fun hc3=>?_) (fun hc3=>?_)))))))
  ·refine ar (ir 1 [(4,.i (-1))] (ie ?_))
   exact at_ (r2 [0] [.i (-1)] ⟨rfl,rfl⟩ li)
  refine ak (aq (ar (irk 2 (.n 30 (.val v) (.n 31 (.i k) .r)) (is_ (oIdx S v xs.length k 5 (k:Int) hd) (irk 1 (.n 33 (.val (.pointer (some ⟨vblk v,k*5+2,none⟩))) .r) (ix_ (oGet 0 S M (vblk v) (k*5+2) (.int .i64 ((z+((adI (vblk x1.pv) 0 x1.params.length).length:Nat))+((adI (vblk x1.lv) 0 x1.lent.length).length:Nat))) hb.1 h2) (irk 2 (.n 36 (.b (((z+((adI (vblk x1.pv) 0 x1.params.length).length:Nat))+((adI (vblk x1.lv) 0 x1.lent.length).length:Nat)) != ((z+((adI (vblk x1.pv) 0 x1.params.length).length:Nat))+((adI (vblk x1.lv) 0 x1.lent.length).length:Nat)))) .r) (ie (ac (((z+((adI (vblk x1.pv) 0 x1.params.length).length:Nat))+((adI (vblk x1.lv) 0 x1.lent.length).length:Nat)) != ((z+((adI (vblk x1.pv) 0 x1.params.length).length:Nat))+((adI (vblk x1.lv) 0 x1.lent.length).length:Nat))) bne_iff_ne (fun hc4=>?_) (fun hc4=>?_))))))))))
  ·refine ar (ir 1 [(4,.i (-1))] (ie ?_))
   exact at_ (r2 [0] [.i (-1)] ⟨rfl,rfl⟩ li)
  refine ak (ar (irk 1 (.n 37 (.i ((z+((adI (vblk x1.pv) 0 x1.params.length).length:Nat))+((adI (vblk x1.lv) 0 x1.lent.length).length:Nat))) .r) (ia ((((z+((adI (vblk x1.pv) 0 x1.params.length).length:Nat))+((adI (vblk x1.lv) 0 x1.lent.length).length:Nat))+1)) ((((z+((adI (vblk x1.pv) 0 x1.params.length).length:Nat))+((adI (vblk x1.lv) 0 x1.lent.length).length:Nat)))+(1)) (ir 1 [(0,.val v),(1,.i (((z+((adI (vblk x1.pv) 0 x1.params.length).length:Nat))+((adI (vblk x1.lv) 0 x1.lent.length).length:Nat))+1)),(5,.i k)] (ie (ar (irk 2 (.n 39 (.val v) (.n 40 (.i k) .r)) (is_ (oIdx S v xs.length k 5 (k:Int) hd) (irk 2 (.n 43 (.val (.pointer (some ⟨vblk v,k*5+3,none⟩))) .r) (ix_ (oGet 0 S M (vblk v) (k*5+3) x1.body.sv hb.1 a3) (irk 1 (.n 45 (.i (((z+((adI (vblk x1.pv) 0 x1.params.length).length:Nat))+((adI (vblk x1.lv) 0 x1.lent.length).length:Nat))+1)) .r) (ic [0] (Zt0 S M x1.body.sv x1.body.steps (((z+((adI (vblk x1.pv) 0 x1.params.length).length:Nat))+((adI (vblk x1.lv) 0 x1.lent.length).length:Nat))+1)) ?_))))))))))))
  rintro _ _ ⟨rfl,rfl⟩
  refine ir 1 [(0,.val v),(1,.i ((((z+((adI (vblk x1.pv) 0 x1.params.length).length:Nat))+((adI (vblk x1.lv) 0 x1.lent.length).length:Nat))+1)+((Ze (vblk x1.body.sv) 0 x1.body.steps).length:Nat))),(5,.i k)] (ie (aq (ar (irk 2 (.n 48 (.b (decide (((((z+((adI (vblk x1.pv) 0 x1.params.length).length:Nat))+((adI (vblk x1.lv) 0 x1.lent.length).length:Nat))+1)+((Ze (vblk x1.body.sv) 0 x1.body.steps).length:Nat))<0))) .r) (ie (ac (decide (((((z+((adI (vblk x1.pv) 0 x1.params.length).length:Nat))+((adI (vblk x1.lv) 0 x1.lent.length).length:Nat))+1)+((Ze (vblk x1.body.sv) 0 x1.body.steps).length:Nat))<0)) dq (fun hc5=>?_) (fun hc5=>?_)))))))
  ·refine ar (ir 1 [(4,.i (-1))] (ie ?_))
   exact at_ (r2 [0] [.i (-1)] ⟨rfl,rfl⟩ li)
  refine ak (aq (ar (irk 2 (.n 49 (.val v) (.n 50 (.i k) .r)) (is_ (oIdx S v xs.length k 5 (k:Int) hd) (irk 2 (.n 53 (.val (.pointer (some ⟨vblk v,k*5+4,none⟩))) .r) (ix_ (oGet 0 S M (vblk v) (k*5+4) (.int .i64 ((((z+((adI (vblk x1.pv) 0 x1.params.length).length:Nat))+((adI (vblk x1.lv) 0 x1.lent.length).length:Nat))+1)+((Ze (vblk x1.body.sv) 0 x1.body.steps).length:Nat))) hb.1 h4) (irk 2 (.n 56 (.b (((((z+((adI (vblk x1.pv) 0 x1.params.length).length:Nat))+((adI (vblk x1.lv) 0 x1.lent.length).length:Nat))+1)+((Ze (vblk x1.body.sv) 0 x1.body.steps).length:Nat)) != ((((z+((adI (vblk x1.pv) 0 x1.params.length).length:Nat))+((adI (vblk x1.lv) 0 x1.lent.length).length:Nat))+1)+((Ze (vblk x1.body.sv) 0 x1.body.steps).length:Nat)))) .r) (ie (ac (((((z+((adI (vblk x1.pv) 0 x1.params.length).length:Nat))+((adI (vblk x1.lv) 0 x1.lent.length).length:Nat))+1)+((Ze (vblk x1.body.sv) 0 x1.body.steps).length:Nat)) != ((((z+((adI (vblk x1.pv) 0 x1.params.length).length:Nat))+((adI (vblk x1.lv) 0 x1.lent.length).length:Nat))+1)+((Ze (vblk x1.body.sv) 0 x1.body.steps).length:Nat))) bne_iff_ne (fun hc6=>?_) (fun hc6=>?_))))))))))
  ·refine ar (ir 1 [(4,.i (-1))] (ie ?_))
   exact at_ (r2 [0] [.i (-1)] ⟨rfl,rfl⟩ li)
  refine ak (az (irk 1 (.n 57 (.i ((((z+((adI (vblk x1.pv) 0 x1.params.length).length:Nat))+((adI (vblk x1.lv) 0 x1.lent.length).length:Nat))+1)+((Ze (vblk x1.body.sv) 0 x1.body.steps).length:Nat))) .r) (ia ((((((z+((adI (vblk x1.pv) 0 x1.params.length).length:Nat))+((adI (vblk x1.lv) 0 x1.lent.length).length:Nat))+1)+((Ze (vblk x1.body.sv) 0 x1.body.steps).length:Nat))+1)) ((((((z+((adI (vblk x1.pv) 0 x1.params.length).length:Nat))+((adI (vblk x1.lv) 0 x1.lent.length).length:Nat))+1)+((Ze (vblk x1.body.sv) 0 x1.body.steps).length:Nat)))+(1)) (ir 1 [(0,.val v),(1,.i (((((z+((adI (vblk x1.pv) 0 x1.params.length).length:Nat))+((adI (vblk x1.lv) 0 x1.lent.length).length:Nat))+1)+((Ze (vblk x1.body.sv) 0 x1.body.steps).length:Nat))+1)),(5,.i k)] (ie (az (irk 1 (.n 10 (.i k) .r) (ia (((k+1:Nat):Int)) (((k:Int))+(1)) (irk 1 (.n 5 (.i (k+1:Nat)) (.p (.d (.k (.k .z))))) (ie ?_))))))))))
  exact ⟨_,_,_,ob,⟨k+1,(((((z+((adI (vblk x1.pv) 0 x1.params.length).length:Nat))+((adI (vblk x1.lv) 0 x1.lent.length).length:Nat))+1)+((Ze (vblk x1.body.sv) 0 x1.body.steps).length:Nat))+1),ob,ob,ob,(Zcm hR om),rfl,rfl,rfl⟩,(wk [0] (fw (fc (x:=.i (k+1:Nat)) li fl)))⟩
 have he:(Z0h (vblk v) (k*5) (xs.drop k))=[]:=by rw [List.drop_eq_nil_of_le om];rfl
 rw [he,List.length_nil] at c0_2
 refine ax 0 (ar (ir 2 [(4,.i z)] (ie ?_)))
 exact at_ (r2 [0] [.i z] ⟨rfl,rfl⟩ li)
theorem Zpf (S:List Nat) (M:Mem) (y:HNormal) (q:Int) (hs:Z44 M S y) (hl:∀d∈y.decls,d.cons.length≤4000000000000) (hh:hold M (Z09 y) q) (hq:0≤q∧q+((Z09 y).length:Nat)≤4000000000000):Z3 Tryz.prog 12 [.agg [.val y.dv,.val y.rv],.i q] [.own S M] (fun r h=>r=.i (q+((Z09 y).length:Nat))∧h=[.own S M]):=by
 obtain ⟨⟨d0,s0⟩,⟨d1,s1⟩⟩:=hs
 have hln:=Zea (y:=y)
 obtain ⟨h0,h1⟩:=(Z50 _ _ _ _).1 (show hold M (_++_) q from hh)
 refine enter Tryz.func12 kr (n:=18) kr kr (ar (iA [.val y.dv,.val y.rv] ?_))
 intro b1
 refine ir 1 [(1,.i q),(2,.p b1 0)] (ie (ar (irK 3 (.n 6 (.val y.dv) (.n 7 (.i q) .r)) [0] [b1] (ic [1] (Zsz S M y.dv y.decls q (hl:=ob)) ?_))))
 rintro _ _ ⟨rfl,rfl⟩
 refine ir 1 [(1,.i (q+((Z12 (vblk y.dv) 0 y.decls).length:Nat))),(2,.p b1 0)] (ie (aq (ar (irk 2 (.n 10 (.b (decide ((q+((Z12 (vblk y.dv) 0 y.decls).length:Nat))<0))) .r) (ie (ac (decide ((q+((Z12 (vblk y.dv) 0 y.decls).length:Nat))<0)) dq (fun hc1=>?_) (fun hc1=>?_)))))))
 ·refine ar (ir 1 [(4,.i (-1))] (ie ?_))
  exact at_ (r2 [0] [.i (-1)] ⟨rfl,rfl⟩ li)
 refine ak (ar (iR 3 [(12,.val y.rv),(13,.i (q+((Z12 (vblk y.dv) 0 y.decls).length:Nat)))] [1] [b1] (ic [0] (Zkr S M y.rv y.routines (q+((Z12 (vblk y.dv) 0 y.decls).length:Nat))) ?_)))
 rintro _ _ ⟨rfl,rfl⟩
 refine ir 1 [(1,.i ((q+((Z12 (vblk y.dv) 0 y.decls).length:Nat))+((Z0h (vblk y.rv) 0 y.routines).length:Nat)))] (ie (aq (ar (irk 2 (.n 16 (.b (decide (((q+((Z12 (vblk y.dv) 0 y.decls).length:Nat))+((Z0h (vblk y.rv) 0 y.routines).length:Nat))<0))) .r) (ie (ac (decide (((q+((Z12 (vblk y.dv) 0 y.decls).length:Nat))+((Z0h (vblk y.rv) 0 y.routines).length:Nat))<0)) dq (fun hc2=>?_) (fun hc2=>?_)))))))
 ·refine ar (ir 1 [(4,.i (-1))] (ie ?_))
  exact at_ (r2 [0] [.i (-1)] ⟨rfl,rfl⟩ li)
 refine ak (ar (ir 2 [(4,.i ((q+((Z12 (vblk y.dv) 0 y.decls).length:Nat))+((Z0h (vblk y.rv) 0 y.routines).length:Nat)))] (ie ?_)))
 exact at_ (r2 [0] [.i ((q+((Z12 (vblk y.dv) 0 y.decls).length:Nat))+((Z0h (vblk y.rv) 0 y.routines).length:Nat))] ⟨rfl,rfl⟩ li)
theorem Zhp {m m':Mem} {B:List Nat} {y:HNormal} (k:Kp m m') (h:Z44 m B y):Z44 m' B y:=⟨⟨h.1.1,Zk1 k h.1.2⟩,⟨h.2.1,Z9e k h.2.2⟩⟩
theorem Zev {m:Mem} {B:List Nat} {y:HNormal} (h:Z44 m B y):∀a∈Z09 y,isI m a:=fun a ha=>(List.mem_append.1 ha).elim (Zbd h.1.2 a) (Zb0 h.2.2 a)
theorem Z06l (x:Normal) (hl:Z4l x≤1000000000):Z3 Tryz.prog 8 [Zi x] [] (fun r h=>∃(y:HNormal) (S:List Nat) (M:Mem),r=av y∧h=[.own S M]∧(y.er=x∧Z44 M S y∧(Z09 y).Nodup∧RepN S M y)):=(Zdn x hl).thaw
theorem Zx6 (S:List Nat) (M:Mem) (y:HNormal) (q:Int) (hs:Z44 M S y) (hl:∀d∈y.decls,d.cons.length≤4000000000000) (hq:0≤q∧q+((Z09 y).length:Nat)≤4000000000000):Z3 Tryz.prog 11 [av y,.i q] [.own S M] (fun r h=>r=.i (q+((Z09 y).length:Nat))∧h=[.own S (wr M (Z09 y) q)]):=by
 rw [Zuo (Zjd hs)]
 exact Zpn S M y q hs hl hq
theorem Zw8 (S:List Nat) (M:Mem) (y:HNormal) (q:Int) (hs:Z44 M S y) (hl:∀d∈y.decls,d.cons.length≤4000000000000) (hh:hold M (Z09 y) q) (hq:0≤q∧q+((Z09 y).length:Nat)≤4000000000000):Z3 Tryz.prog 12 [av y,.i q] [.own S M] (fun r h=>r=.i (q+((Z09 y).length:Nat))∧h=[.own S M]):=by
 rw [Zuo (Zjd hs)]
 exact Zpf S M y q hs hl hh hq
theorem sgl {S:List Nat} {M:Mem}:∀r∈[Res.own S M],∃B m,r=.own B m:=fun _ hr=>⟨S,M,List.mem_singleton.1 hr⟩
theorem Z037 (y:HNormal) (x:Normal) (S:List Nat) (M:Mem) (he:y.er=x) (hrp:RepN S M y) (hl:Z4l x≤1000000000):Z3 Tryz.prog 10 [av y,Zi x] [.own S M] (fun r h=>r=.b true∧h=[.own S M]):=by
 subst he
 have h1:Z3 Tryz.prog 10 [Z2h y,Zi y.er] [] _:=(Z9l y.er hl).args_le (.cons (Z7d y) (.cons (AVLe.refl _) .nil))
 refine (h1.lendO [.own S M] (.lent (List.mem_singleton.2 rfl) hrp (.same .nil)) sgl ?_).mono ?_
 ·rintro r h ⟨rfl,rfl⟩;exact ⟨.val,fun q hq=>by cases hq⟩
 ·rintro r h ⟨h1,⟨rfl,rfl⟩,rfl⟩;exact ⟨rfl,rfl⟩
theorem Z06u (y z:HNormal) (S:List Nat) (M:Mem) (he:y.er=z.er) (hrp:RepN S M y) (hl:Z4l z.er≤1000000000):Z3 Tryz.prog 10 [av y,Z2h z] [.own S M] (fun r h=>r=.b true∧h=[.own S M]):=
 (Z037 y z.er S M he hrp hl).args_le (.cons (AVLe.refl _) (.cons (Z7d z) .nil))
theorem Z06t (z:HNormal) (x:Normal) (he:z.er=x) (hl:Z4l x≤1000000000):Z3 Tryz.prog 10 [Z2h z,Zi x] [] (fun r h=>r=.b true∧h=[]):=by
 subst he
 exact (Z9l z.er hl).args_le (.cons (Z7d z) (.cons (AVLe.refl _) .nil))
end Go.Abs
section
namespace Go.Abs
theorem HOk.rgrow {w:World} {G:Prot} {h2:List Res} {g len len' cap k:Nat} {ls ls':List AV} (hh:HOk w G (.row (.slice (some ⟨g,0,none⟩) len cap) k ls::h2)) {cs cs':Array Value} {e:TypeId}
  (hb:w.heap[g]? = some (.cells cs e (0,0))) (hsz:cs'.size=cs.size) (hle:len'≤cap) (hcap:cs.size=cap*k) (hl:ls'.length=len'*k) (hls:RCs w G ls' (cs'.toList.take (len'*k))) :
  HOk (w.setRow g cs') G (.row (.slice (some ⟨g,0,none⟩) len' cap) k ls'::h2) ∧
   Ext w G (.row (.slice (some ⟨g,0,none⟩) len cap) k ls::h2) (w.setRow g cs') G (.row (.slice (some ⟨g,0,none⟩) len' cap) k ls'::h2):=by
 have hmem:Res.row (.slice (some ⟨g,0,none⟩) len cap) k ls∈Res.row (.slice (some ⟨g,0,none⟩) len cap) k ls::h2:=List.mem_cons_self ..
 have hA:Agree G w (w.setRow g cs') G:=⟨fun c j hg=>by
  have hne:c≠g:=fun he=>hh.prot _ hmem c j he hg
  simp [World.cell?,Zk w g c cs' hne],fun _ _ h=>h⟩
 have e1:Ext w G [.row (.slice (some ⟨g,0,none⟩) len cap) k ls] (w.setRow g cs') G [.row (.slice (some ⟨g,0,none⟩) len' cap) k ls']:=by
  refine ⟨rfl,rfl,rfl,by simp [World.setRow],fun _ _ h=>h,?_,fun _ _ _ h=>.inl h,?_⟩
  ·intro c hc
   by_cases hcb:c=g
   ·subst hcb
    exact .inr ⟨cs,cs',e,(0,0),hb,setRow_heap w c cs cs' e (0,0) hb,hsz,fun j hj=>absurd ⟨_,List.mem_cons_self ..,rfl⟩ hj⟩
   ·exact .inl (Zk w g c cs' hcb)
  ·rintro c j _ ⟨r,hr,hf⟩
   rw [List.mem_singleton.1 hr] at hf
   exact ⟨_,List.mem_cons_self ..,hf⟩
 have e2:HOk (w.setRow g cs') G [.row (.slice (some ⟨g,0,none⟩) len' cap) k ls']:=by
  refine ⟨fun r hr=>?_,List.pairwise_singleton _ _,fun r hr c j hf hg=>?_,fun c j hg=>?_⟩
  ·rw [List.mem_singleton.1 hr]
   exact .inr ⟨g,len',cap,cs',e,rfl,setRow_heap w g cs cs' e (0,0) hb,hle,hsz.trans hcap,hl,hls.mono hA⟩
  ·rw [List.mem_singleton.1 hr] at hf
   exact hh.prot _ hmem c j hf hg
  ·have:=hh.lt c j hg
   simpa [World.setRow] using this
 exact HOk.frame (h:=[.row (.slice (some ⟨g,0,none⟩) len cap) k ls]) (k:=h2) hh e1 e2
section
variable {P:Program} {n:Nat} {ops:Array Oper} {k:Nat} {F:Fr} {h2:List Res}
theorem Ztg {K:Fr→List Res→Prop} {v:Hd} {sz m:Nat} {ls xs:List AV} {hx:Option Value} (hd:Z59 n (opAt ops k)=true) (ha:Z3p P ops F k=some (.val v.v,.sl xs hx,sz))
  (hxs:∀y∈xs,y.leaves.length=sz) (hone:(flat xs).all AV.one=true) (hm0:ls.length=m*sz) (hk0:0<sz) (hne:xs≠[]) (hbound:m+xs.length≤4294967296)
  (hK:∀v':Hd,K (F.put (opAt ops k).dst (.val v'.v)) (.row v'.v sz (ls++flat xs)::h2)):OpOK P n (opAt ops k) F (.row v.v sz ls::h2) K:=by
 unfold Z3p at ha
 generalize hoo:opAt ops k=o at ha hd hK
 obtain ⟨dst,op,type,pos,after,guard⟩:=o
 cases op<;>simp only at ha<;>try (cases ha)
 rename_i c
 obtain ⟨callee,args,tys⟩:=c
 simp only at ha
 split at ha
 case h_2=>cases ha
 rename_i s x t t' hargs htys
 split at ha
 case h_2=>cases ha
 rename_i e htt ht
 have:=Nat.eq_of_beq_eq_true htt
 subst this
 split at ha
 case h_2=>cases ha
 rename_i i hinfo
 split at ha
 case h_2=>cases ha
 rename_i z hz
 split at ha
 case h_2=>cases ha
 rename_i hb
 simp only [Bool.and_eq_true] at hb
 simp only [Option.some.injEq,Prod.mk.injEq] at ha
 obtain ⟨h3,h4,hk1⟩:=ha
 have e1:args=#[s,x]:=by rw [←Array.toArray_toList (xs:=args),hargs]
 have e2:tys=#[t,t]:=by rw [←Array.toArray_toList (xs:=tys),htys]
 subst e1;subst e2
 have hzs:z.cells.size=sz:=by rw [Nat.eq_of_beq_eq_true hb.1,hk1]
 have hby:=Nat.le_of_ble_eq_true hb.2
 have hfl:=Z1f xs hxs
 intro Q w G a hF hh
 have v1:=hF.ev s
 have v2:=hF.ev x
 rw [h3] at v1
 rw [h4] at v2
 have v1:=v1.val_inv
 have v2:=v2.forget
 have finish:∀(v':Hd) w',(Builtin.append_ #[t,t] type #[v.v,a.eval x]).run P w=.ok v'.v w'→HOk w' G (.row v'.v sz (ls++flat xs)::h2)→Ext w G (.row v.v sz ls::h2) w' G (.row v'.v sz (ls++flat xs)::h2) →
   ({ dst:=dst,op:=.call { callee:=.builtin .append,args:=#[s,x],argTypes:=#[t,t] },type:=type,pos:=pos,after:=after,guard:=guard }:Oper).wp P a w
    (fun a' w'=>∃F' h' G',K F' h'∧FR w' G' n F' a'∧HOk w' G' h'∧Ext w G (.row v.v sz ls::h2) w' G' h') Q:=by
  intro v' w' hr j1 j2
  have hrun:(execOp a.eval { dst:=dst,op:=.call { callee:=.builtin .append,args:=#[s,x],argTypes:=#[t,t] },type:=type,pos:=pos,after:=after,guard:=guard }).run P w=.ok (.value v'.v) w':=by
   simp only [execOp,resolve,invoke,builtin,Sem.run_bind,Sem.run_pure,Result.andThen_ok,List.map_toArray,List.map_cons,List.map_nil,v1,hr]
  unfold Oper.wp
  rw [hrun]
  exact ⟨_,_,G,hK v',(hF.mono (j2.agree hh)).put (Z1o hd) .val,j1,j2⟩
 have hrow0:=hh.ok (.row v.v sz ls) (List.mem_cons_self ..)
 have hsub2:∀r:Res,List.Sublist (r::h2) (r::.row v.v sz ls::h2):=fun r=>List.Sublist.cons_cons _ (List.sublist_cons_self _ _)
 have grown:∀(olds news:List Value) (old:Nat),RCs w G ls olds→RCs w G (flat xs) news →
   HOk (w.drew.alloc (.cells (olds.toArray++news.toArray++Builtin.zeroCells z.cells (grownCap w (m+xs.length) old e-(m+xs.length))) e)) G
    (.row (.slice (some ⟨w.heap.size,0,none⟩) (m+xs.length) (grownCap w (m+xs.length) old e)) sz (ls++flat xs)::h2) ∧
   Ext w G (.row v.v sz ls::h2) (w.drew.alloc (.cells (olds.toArray++news.toArray++Builtin.zeroCells z.cells (grownCap w (m+xs.length) old e-(m+xs.length))) e)) G
    (.row (.slice (some ⟨w.heap.size,0,none⟩) (m+xs.length) (grownCap w (m+xs.length) old e)) sz (ls++flat xs)::h2):=by
  intro olds news old ho hn
  have hge:=grownCap_ge w (m+xs.length) old e
  have hol:=ho.length
  have hnl:=hn.length
  have hlen:(ls++flat xs).length=(m+xs.length)*sz:=by rw [List.length_append,hm0,hfl,Nat.add_mul]
  obtain ⟨j1,j2⟩:=hh.drew.alloc_rrow (olds.toArray++news.toArray++Builtin.zeroCells z.cells (grownCap w (m+xs.length) old e-(m+xs.length))) e
   (ls:=ls++flat xs) (len:=m+xs.length) (cap:=grownCap w (m+xs.length) old e) (k:=sz) hge
   (by
    have q2:(grownCap w (m+xs.length) old e-(m+xs.length))*sz=grownCap w (m+xs.length) old e*sz-(m+xs.length)*sz:=Nat.sub_mul ..
    have q3:(m+xs.length)*sz≤grownCap w (m+xs.length) old e*sz:=Nat.mul_le_mul_right _ hge
    have q4:(m+xs.length)*sz=m*sz+xs.length*sz:=Nat.add_mul ..
    simp only [Array.size_append,List.size_toArray,size_zeroCells,hzs,hol,hnl,hm0,hfl]
    omega) hlen
   (by
    have:(olds.toArray++news.toArray++Builtin.zeroCells z.cells (grownCap w (m+xs.length) old e-(m+xs.length))).toList.take ((m+xs.length)*sz)=olds++news:=by
     simp only [Array.toList_append]
     rw [←hlen,List.length_append,←hol,←hnl,←List.length_append]
     exact List.take_left
    rw [this]
    exact (ho.append hn).mono (Z53 w G))
  exact ⟨j1.sub (hsub2 _),(Ext.drew w G _).trans (j2.sub' (hsub2 _))⟩
 generalize hax:a.eval x=ax at v2 finish
 cases v2 with
 | nil _=>exact absurd rfl hne
 | sl hq hcc hm=>
  rename_i b o' k' c
  have hpos:0<xs.length:=List.length_pos_iff.2 hne
  have hfm:=hm.flat_mem
  obtain ⟨news,hn,hnc⟩:=hfm.cells
  have hnl:news.length=xs.length*i.size:=by rw [hn.length,hfl,hk1]
  have hone':=hn.one_cells hone
  have hnews:∀j u,news[j]? = some u→w.cell? ((⟨b,o',none⟩:Addr).add j)=some u:=fun j u hj=>by rw [Z5e];exact (hnc j u hj).1
  have hbb:(m+xs.length)*i.bytes≤140737488355328:=by
   have:=Nat.mul_le_mul hbound hby
   omega
  rcases hrow0 with ⟨hv0,hl0⟩|⟨g,len,cap,cur,el,hv0,hrow,hlc,hcur,hll,hcells⟩
  ·subst hl0
   have hm1:m=0:=by
    have:m*sz=0:=by simpa using hm0.symm
    rcases Nat.mul_eq_zero.1 this with h|h
    ·exact h
    ·omega
   subst hm1
   rw [hv0] at finish hh ⊢
   have hr:=run_append_nil (P:=P) w t type e i z ht hinfo hz ⟨b,o',none⟩ xs.length c news hnl hnews hpos om (by simp only [Nat.zero_add] at hbb;omega)
   obtain ⟨j1,j2⟩:=grown [] news 0 .nil hn
   simp only [Nat.zero_add,Array.empty_append,List.nil_append] at j1 j2
   rw [hv0] at j2
   exact finish ⟨some ⟨w.heap.size,0,none⟩,xs.length,grownCap w xs.length 0 e⟩ _ hr (by simpa using j1) (by simpa using j2)
  ·have hlm:len=m:=Nat.eq_of_mul_eq_mul_right hk0 (hll.symm.trans hm0)
   subst hlm
   rw [hv0] at finish hh ⊢
   have q5:len*sz≤cap*sz:=Nat.mul_le_mul_right _ hlc
   have h1:(cur.toList.take (len*sz)).length=len*sz:=by rw [List.length_take,Array.length_toList,hcur,Nat.min_eq_left q5]
   have hcl:cur.toList.length=cap*sz:=by rw [Array.length_toList,hcur]
   by_cases hroom:len+xs.length≤cap
   ·have q1:(len+xs.length)*sz≤cap*sz:=Nat.mul_le_mul_right _ hroom
    have q2:(len+xs.length)*sz=len*sz+xs.length*sz:=Nat.add_mul ..
    have hfit:len*i.size+news.length≤cur.size:=by rw [hnl,hcur,hk1];omega
    have hr:=Z6r (P:=P) w t type e el i ht hinfo g len cap cur hrow ⟨b,o',none⟩ xs.length c news hnl hnews hone' hroom hfit
    rw [hk1] at hr
    have hnl':news.length=xs.length*sz:=by rw [hnl,hk1]
    obtain ⟨j1,j2⟩:=hh.rgrow (ls':=ls++flat xs) (len':=len+xs.length) (cs':=(cur.toList.take (len*sz)++news++cur.toList.drop (len*sz+news.length)).toArray) hrow
     (by simp only [List.size_toArray,List.length_append,h1,hnl',List.length_drop,hcl,hcur];omega) hroom hcur (by rw [List.length_append,hll,hfl,q2]) (by
      have:(cur.toList.take (len*sz)++news++cur.toList.drop (len*sz+news.length)).toArray.toList.take ((len+xs.length)*sz)=cur.toList.take (len*sz)++news:=by
       rw [List.toList_toArray,q2,←hnl']
       conv=>lhs;arg 1;rw [show len*sz+news.length=(cur.toList.take (len*sz)++news).length from by rw [List.length_append,h1]]
       exact List.take_left
      rw [this]
      exact hcells.append hn)
    exact finish ⟨some ⟨g,0,none⟩,len+xs.length,cap⟩ _ hr j1 j2
   ·have hr:=run_append_grow (P:=P) w t type e i z ht hinfo hz ⟨g,0,none⟩ len cap (cur.toList.take (len*sz)) (by rw [hk1];exact h1) (fun j u hj=>by
     rw [Z5e,cell_of_row w g _ cur el (0,0) hrow]
     rw [List.getElem?_take] at hj
     split at hj
     ·simpa using hj
     ·cases hj) ⟨b,o',none⟩ xs.length c news hnl hnews om om (growslice_fits om hbb)
    obtain ⟨j1,j2⟩:=grown (cur.toList.take (len*sz)) news cap hcells hn
    rw [hv0] at j2
    exact finish ⟨some ⟨w.heap.size,0,none⟩,len+xs.length,grownCap w (len+xs.length) cap e⟩ _ hr j1 j2
end
section
variable {P:Program} {n:Nat} {ops:Array Oper} {B:Fr→List Res→Prop} {k:Nat} {F:Fr} {h:List Res}
end
end Go.Abs
namespace Go.Abs
section
variable {P:Program} {n:Nat} {ops:Array Oper} {B:Fr→List Res→Prop} {T:List (Nat × List Nat)} {fuel:Nat} {done:List Nat} {F:Fr} {h:List Res}
theorem dKA (i j m:Nat) (js bs:List Nat) (v:Hd) (sz:Nat) (ls xs:List AV) (hx:Option Value) (hm0:ls.length=m*sz) (hxs:∀y∈xs,y.leaves.length=sz) (hone:(flat xs).all AV.one=true) (hne:xs≠[]) (hbound:m+xs.length≤4294967296)
  (hK:∀v':Hd,DGo P n ops B (T.filter fun t=>!befB ops i t.1) fuel (done++[i]) (F.put (opAt ops i).dst (.h v')) (rK v' sz (ls++flat xs)::Z3h [j] h)) (hk0:0<sz:=by omega) (hk:okAt n ops F i=true:=by kernel_rfl)
  (ha:Z3p P ops F i=some (.h v,.sl xs hx,sz):=by kernel_rfl) (hp:Z4i [j] h=some [rK v sz ls]:=by kernel_rfl) (ho:Z9c ops i T=bs:=by kernel_rfl)
  (hj:js.map (fun q=>(Z16 (Z3h [j] h))[q]?)=bs.map some:=by kernel_rfl):DOp P n ops B T fuel done F h i:=
 dop [j] js bs hk (Z2k hp) ho hj (Ztg (h2:=[]) (Z1j hk).2.1 ha hxs hone hm0 hk0 hne hbound hK)
theorem dFrz (t j:Nat) {v:Value} {kk:Nat} (es:List AV) (hes:∀y∈es,y.leaves.length=kk) (H:DGo P n ops B T fuel done ((t,.sl es (some v))::F) (.tail v kk::Z3h [j] h)) (hk0:0<kk:=by omega) (hF':F.get t=.val v:=by kernel_rfl)
  (hp:Z4i [j] h=some [.row v kk (flat es)]:=by kernel_rfl):DGo P n ops B T fuel done F h:=by
 intro Q w G a SL hF hh hQ hcl hcov hk
 have hp':=Z1g (Z2k hp)
 obtain ⟨G',h1,h2',h3⟩:=Z8q (hh.perm hp') hes hk0
 have e:=h2'.perm hp'.symm (List.Perm.refl _)
 have hF2:=hF.mono (e.agree hh)
 have hv:=hF2.get t
 rw [hF'] at hv
 have hv:=hv.val_inv
 refine H Q w G' a SL ⟨hF2.defers,hF2.size,fun s=>?_⟩ h1 hQ hcl (fun p hp=>let ⟨t,ht,e1,f⟩:=hcov p hp;⟨t,ht,e1,fun w' hw hb=>f w' (fun b o hg=>hw b o (e.sub b o hg)) hb⟩)
  fun F2 h2'' G2 a2 w2 b1 b2 b3 b4=>hk F2 h2'' G2 a2 w2 b1 b2 b3 (e.trans b4)
 show RV w G' (match Nat.beq t s with|true=>_|false=>Fr.get F s) _
 cases hb:Nat.beq t s with
 | true=>
  have:=Nat.eq_of_beq_eq_true hb
  subst this
  rw [hv]
  exact h3
 | false=>exact hF2.get s
end
theorem Z3.form {P:Program} {f:FuncId} {as1:List AV} {h0:List Res} {T:Hd→AV} {kk m:Nat} {ls:List AV} {hs:List Res} (H:Z3 P f as1 h0 (fun r h=>∃v:Hd,r=T v∧h=rK v kk ls::hs)) (hm:ls.length=m*kk) (hk:0<kk) (h1:0<m) :
  Z3 P f as1 h0 (fun r h=>∃(g c:Nat),r=T ⟨some ⟨g,0,none⟩,m,c⟩∧h=rK ⟨some ⟨g,0,none⟩,m,c⟩ kk ls::hs):=by
 intro w G vs hv hh
 refine (H w G vs hv hh).mono ?_
 rintro e w' ⟨u,r,h',G',he,⟨v,rfl,rfl⟩,hr,hh',hx⟩
 obtain ⟨g,c,rfl⟩:=Zrl (hh'.ok _ (List.mem_cons_self ..)) hm hk h1
 exact ⟨u,_,_,G',he,⟨g,c,rfl,rfl⟩,hr,hh',hx⟩
end Go.Abs
namespace Go.Abs
section
variable {h:List Res}
theorem Zob (j i p:Nat) {u:Value} {kk b:Nat} {es ls:List AV} (hp:Z4i [j,i] h=some [.row u kk (flat es),.obj b ls]) (hes:∀y∈es,y.leaves.length=kk) (hk:0<kk) (hl:ls[p]? = some (.val u)) :
  Turn h (.obj b (ls.set p (.sl es (some u)))::.tail u kk::Z3h [j,i] h):=by
 intro w G hh
 have hp':=Z1g (Z2k hp)
 have hh':=hh.perm hp'
 obtain ⟨G',h1,h2',h3⟩:=Z8q (h2:=.obj b ls::Z3h [j,i] h) hh' hes hk
 have e:=h2'.perm hp'.symm (List.Perm.refl _)
 have h1:HOk w G' (.tail u kk::.obj b ls::Z3h [j,i] h):=h1
 have perm:(Res.tail u kk::.obj b ls::Z3h [j,i] h).Perm (.obj b ls::.tail u kk::Z3h [j,i] h):=List.Perm.swap ..
 have h4:=h1.perm perm
 have e4:=e.perm (List.Perm.refl _) perm
 have hset:∀{w:World} {G:Prot},RV w G (.sl es (some u)) u→ROk w G (.obj b ls)→ROk w G (.obj b (ls.set p (.sl es (some u)))):=by
  intro w G hu hr
  obtain ⟨cs,el,k1,k5⟩:=hr
  refine ⟨cs,el,k1,?_⟩
  obtain ⟨c,c1,c2⟩:=k5.get p _ hl
  have:=c2.val_inv
  subst this
  have h6:=k5.set p hu
  rwa [show cs.toList.set p c=cs.toList from by
   apply List.ext_getElem?
   intro q
   rw [List.getElem?_set]
   split
   ·rename_i hq;subst hq;split
    ·exact c1.symm
    ·rename_i hq2;rw [List.getElem?_eq_none om]
   ·rfl] at h6
 refine ⟨G',⟨fun r hr=>?_,?_,fun r hr=>?_,h4.lt⟩,⟨e4.os,e4.tape,e4.output,e4.size,e4.sub,e4.same,e4.newG,fun b' o hb ⟨r,hr,hf⟩=>e4.newfp b' o hb ?_⟩⟩
 ·rcases List.mem_cons.1 hr with rfl|hr
  ·exact hset h3 (h4.ok _ (List.mem_cons_self ..))
  ·exact h4.ok r (List.mem_cons_of_mem _ hr)
 ·have:=List.pairwise_cons.1 h4.apart
  exact List.pairwise_cons.2 ⟨fun r hr b' o f1 f2=>this.1 r hr b' o f1 f2,this.2⟩
 ·rcases List.mem_cons.1 hr with rfl|hr
  ·exact fun b' o f1 hg=>h4.prot (.obj b ls) (List.mem_cons_self ..) b' o f1 hg
  ·exact h4.prot r (List.mem_cons_of_mem _ hr)
 ·rcases List.mem_cons.1 hr with rfl|hr
  ·exact ⟨.obj b ls,List.mem_cons_self ..,hf⟩
  ·exact ⟨r,List.mem_cons_of_mem _ hr,hf⟩
theorem tOFr (j i p:Nat) (u:Value) (kk b:Nat) (es ls:List AV) (hes:∀y∈es,y.leaves.length=kk) (hl:ls[p]? = some (.val u)) (hk:0<kk:=by omega) (hp:Z4i [j,i] h=some [.row u kk (flat es),.obj b ls]:=by kernel_rfl) :
  Turn h (.obj b (ls.set p (.sl es (some u)))::.tail u kk::Z3h [j,i] h):=Zob j i p hp hes hk hl
end
end Go.Abs
namespace Go.Abs
section
variable {P:Program} {n:Nat} {ops:Array Oper} {k:Nat} {F:Fr} {h:List Res}
theorem Zys (j:Nat) {g l c m kk:Nat} {ls:List AV} (hi:Zas P ops F k=some (.val (.slice (some ⟨g,0,none⟩) l c),(m:Int))) (hj:h[j]? = some (.row (.slice (some ⟨g,0,none⟩) l c) kk ls)) (hle:m≤l) :
  StOK P (opAt ops k) F h [] (.val (.slice (some ⟨g,0,none⟩) m c)):=by
 unfold Zas at hi
 generalize hoo:opAt ops k=o at hi
 obtain ⟨dst,op,type,pos,after,guard⟩:=o
 cases op<;>simp only at hi<;>try (cases hi)
 rename_i t x lo hi' mx
 cases lo with
 | some _=>simp at hi
 | none=>
  cases hi' with
  | none=>simp at hi
  | some y=>
   cases mx with
   | some _=>simp at hi
   | none=>
    simp only at hi
    split at hi
    ·rename_i e ht
     split at hi
     ·rename_i inf hinf
      split at hi
      ·rename_i ik m' hm
       simp only [Option.some.injEq,Prod.mk.injEq] at hi
       obtain ⟨hx,rfl⟩:=hi
       intro n w G a hF hh
       have v1:=hF.ev x
       rw [hx] at v1
       have v1:=v1.val_inv
       have v2:=hF.ev y
       rw [hm] at v2
       have v2:=v2.val_inv
       have hcap:l≤c:=by
        rcases hh.ok _ (List.mem_of_getElem? hj) with ⟨h0,_⟩|⟨g',l',c',cur,el,h0,_,hc,_⟩
        ·cases h0
        ·cases h0;exact hc
       refine ⟨_,.val,fun w' _ _=>?_⟩
       simp only [execOp,v1,v2,Option.map_some,Option.map_none]
       refine Z1e ?_
       simp only [Instr.sliceAt,Sem.run_bind,Zu ht,Result.andThen_ok,Instr.slice]
       have hmm:(Instr.sliceBounds true l c none (some (.int ik (m:Int))) none).run P w'=.ok (0,m,c) w':=by
        have hb2:=fun q=>Z4x (P:=P) (c:=q) (v:=.int ik (m:Int)) (y:=c) rfl om om w'
        simp [Instr.sliceBounds,hb2]
       rw [hmm]
       have hz:∀a:Addr,a.add 0=a:=fun a=>by simp [Addr.add]
       simp only [Result.andThen_ok,Z2m hinf,Nat.zero_mul,hz]
       by_cases h0:c=0<;>simp [h0]
      ·cases hi
     ·cases hi
    ·cases hi
theorem kCut (j g l c m kk:Nat) (ls:List AV) (hle:m≤l:=by omega) (hi:Zas P ops F k=some (.val (.slice (some ⟨g,0,none⟩) l c),(m:Int)):=by kernel_rfl) (hj:h[j]? = some (.row (.slice (some ⟨g,0,none⟩) l c) kk ls):=by kernel_rfl) :
  StOK P (opAt ops k) F h [] (.val (.slice (some ⟨g,0,none⟩) m c)):=Zys j hi hj hle
variable {B:Fr→List Res→Prop}
theorem iVM (l:Nat) (hK:∀v:Hd,SI P n ops B (k+1) (F.put (opAt ops k).dst (.h v)) (rV v (List.replicate l 0)::h)) (hl:l≤4294967296:=by omega) (hk:okAt n ops F k=true:=by kernel_rfl)
  (hm:Zcx P ops F k=some ((l:Int),(l:Int),.i 0):=by kernel_rfl):SI P n ops B k F h:=
 Z03h (Z8 (List.replicate l 0)) hk hm (Nat.le_refl _) hl (by simp [Z8]) fun v'=>Z019 fun g hg=>by subst hg;exact hK g
end
end Go.Abs
end
