/-
  A part of the proof of FnExactFlattenUptoSaid (see the last file): no condition.
-/
import Derived.Test.YtobaalepdnclfaaGreatFlaD
set_option linter.all false
set_option linter.unusedVariables false
set_option linter.unusedSimpArgs false
set_option linter.unusedSectionVars false
set_option maxRecDepth 10000
set_option maxHeartbeats 4000000
namespace Go.Abs
open Go.Proofs
theorem Zk2 (n:Normal) (us:List Int) (s:Step) (hn:NOk n:=by exact ob) (hb:us.length+4*s.sz<=1000000000:=by exact ob) (ih:∀(b:Block) (us:List Int),(b.sz<s.sz)->(us.length+4*b.sz<=1000000000)->Zd Tryz.prog 70 [ZJ n,Z1 us,Zx b] [] (fun r h=>r=.i (ZF n us b)/\h=[])):Zd Tryz.prog 105 [ZJ n,Z1 us,ZN s] [] (fun r h=>r=.i (Zp n us s)/\h=[]):=by
 have hdk:=hn.decls
 have hkz:=UO s
 have haz:=TR s
 have hdl:=hdk.len
 have hst:=Qd n us s
 refine enter Tryz.func105 kr (n:=183) kr kr (ar (iA (ZU n) ?_))
 intro b1
 refine iA (ZE s) ?_
 intro b2
 refine ir 1 [(1,Z1 us),(3,.p b1 0),(5,.p b2 0)] (ie (aq (ar (YV 9 [(1,Z1 us),(3,.p b1 0),(5,.p b2 0),(16,.b ((s.num != 0)&&(!XI s.op)))] [.obj b2 (ZE s),.obj b1 (ZU n)] ?_ (fun hj1=>?_)))))
 ·refine YV 15 [(1,Z1 us),(3,.p b1 0),(5,.p b2 0),(22,.b (((s.num != 0)&&(!XI s.op))||(!Wl us s.op s.into)))] [.obj b2 (ZE s),.obj b1 (ZU n)] ?_ (fun hj2=>?_)
  ·refine Xl [(1,Z1 us),(3,.p b1 0),(5,.p b2 0),(38,.b ((((s.num != 0)&&(!XI s.op))||(!Wl us s.op s.into))||((decide ((s.kids.length:Int)>0))&&((s.op != 7)&&(s.op != 8)))))] [.obj b2 (ZE s),.obj b1 (ZU n)] ?_ ?_
   ·refine ir 1 [(1,Z1 us),(3,.p b1 0),(5,.p b2 0),(23,.b (((s.num != 0)&&(!XI s.op))||(!Wl us s.op s.into)))] (ib (b:=(((s.num != 0)&&(!XI s.op))||(!Wl us s.op s.into))) 23 (fun hb1=>?_) (fun hb1=>?_))
    ·have hp1:((s.num≠0)/\(¬(XI s.op=true)))∨(¬(Wl us s.op s.into=true)):=((Zz (ZZ Zw (ZP Iff.rfl)) (ZP Iff.rfl))).1 hb1
     refine Z0 15 (.n 38 (.b true) (.d (.k (.k (.k .z))))) (ie ?_)
     exact wk [0,0] (fw (fr (fc (x:=.b true) (lb (by simp only [hb1];rfl)) fl)))
    have hp2:¬(((s.num≠0)/\(¬(XI s.op=true)))∨(¬(Wl us s.op s.into=true))):=Zv (Zz (ZZ Zw (ZP Iff.rfl)) (ZP Iff.rfl)) hb1
    refine Za 2 (.n 25 (ZT s.kids) (.w .z)) [0] [b2] (iw (VJ s.kids) (Z0 2 (.n 28 (.b (decide ((s.kids.length:Int)>0))) .r) (ib (b:=(decide ((s.kids.length:Int)>0))) 28 (fun hb2=>?_) (fun hb2=>?_))))
    ·have hp3:(s.kids.length:Int)>0:=(dq).1 hb2
     refine Za 5 (.n 33 (.b (s.op != 7)) (.k (.d .r))) [0] [b2] (ib (b:=(s.op != 7)) 33 (fun hb3=>?_) (fun hb3=>?_))
     ·have hp4:s.op≠7:=(Zw).1 hb3
      refine Za 5 (.n 38 (.b (s.op != 8)) (.k (.d .r))) [0] [b2] (ie ?_)
      exact wk [0,0] (fw (fr (fc (x:=.b (s.op != 8)) (lb (by simp only [hb1,hb2,hb3];rfl)) fl)))
     have hp5:¬(s.op≠7):=Zv Zw hb3
     refine Z0 5 (.n 38 (.b false) (.k (.d .r))) (ie ?_)
     exact wk [0,0] (fw (fr (fc (x:=.b false) (lb (by simp only [hb1,hb2,hb3];rfl)) fl)))
    have hp6:¬((s.kids.length:Int)>0):=Zv dq hb2
    refine Z0 10 (.n 38 (.b false) (.k (.d .r))) (ie ?_)
    exact wk [0,0] (fw (fr (fc (x:=.b false) (lb (by simp only [hb1,hb2];rfl)) fl)))
   refine ac ((((s.num != 0)&&(!XI s.op))||(!Wl us s.op s.into))||((decide ((s.kids.length:Int)>0))&&((s.op != 7)&&(s.op != 8)))) (p:=(((s.num≠0)/\(¬(XI s.op=true)))∨(¬(Wl us s.op s.into=true)))∨(((s.kids.length:Int)>0)/\((s.op≠7)/\(s.op≠8)))) (Zz (Zz (ZZ Zw (ZP Iff.rfl)) (ZP Iff.rfl)) (ZZ dq (ZZ Zw Zw))) (fun hc1=>?_) (fun hc1=>?_)
   ·refine ar (ir 1 [(6,.i (-1))] (ie ?_))
    exact Z5 (r2 [] [.i (-1)] ⟨rfl,rfl⟩ (li (by first|rfl|( grind)|(have q:=Vo (ds:=n.decls) (us:=us) (args:=s.args) om; grind)|(have q:=Vp (ds:=n.decls) (us:=us) (args:=s.args) om ‹s.args[0]? = some _› om; grind)|(have q:=Vh (ds:=n.decls) (us:=us) (args:=s.args) om ‹s.args[0]? = some _› om ‹us[_]? = some _›; grind))))
   refine ak (aq (ar (iR 2 [(1,Z1 us),(3,.p b1 0),(5,.p b2 0),(40,.i s.op)] [0] [b2] (ie (ab 0 (ar (Z0 2 (.n 41 (.b (s.op==0)) .r) (ie (ac (s.op==0) Ze (fun hc2=>?_) (fun hc2=>?_))))))))))
   ·refine ar (Za 2 (.n 44 (Z1 s.args) .r) [0] [b2] (iw (ZD s.args) (Xl [(51,.b (((s.args.length:Int)==0)&&(decide ((-999)<=s.num/\s.num<=999))))] [.obj b2 (ZE s),.obj b1 (ZU n)] ?_ ?_)))
    ·refine ir 2 [(5,.p b2 0),(47,.b ((s.args.length:Int)==0))] (ib (b:=((s.args.length:Int)==0)) 47 (fun hb4=>?_) (fun hb4=>?_))
     ·have hp7:(s.args.length:Int)=0:=(Ze).1 hb4
      refine Za 2 (.n 49 (.i s.num) (.k .z)) [0] [b2] (ic [] (Un s.num (-999) 999) ?_)
      rintro _ _ ⟨rfl,rfl⟩
      refine ir 1 [(51,.b (decide ((-999)<=s.num/\s.num<=999)))] (ie ?_)
      exact wk [0,0] (fc (x:=.b (decide ((-999)<=s.num/\s.num<=999))) (lb (by simp only [hb4];rfl)) fl)
     have hp8:¬((s.args.length:Int)=0):=Zv Ze hb4
     refine ir 4 [(51,.b false)] (ie ?_)
     exact wk [0,0] (fc (x:=.b false) (lb (by simp only [hb4];rfl)) fl)
    refine ac (((s.args.length:Int)==0)&&(decide ((-999)<=s.num/\s.num<=999))) (p:=((s.args.length:Int)=0)/\((-999)<=s.num/\s.num<=999)) (ZZ Ze dq) (fun hc3=>?_) (fun hc3=>?_)
    ·refine ar (ir 1 [(6,.i 0)] (ie ?_))
     exact Z5 (r2 [] [.i 0] ⟨rfl,rfl⟩ (li (by first|rfl|( grind)|(have q:=Vo (ds:=n.decls) (us:=us) (args:=s.args) om; grind)|(have q:=Vp (ds:=n.decls) (us:=us) (args:=s.args) om ‹s.args[0]? = some _› om; grind)|(have q:=Vh (ds:=n.decls) (us:=us) (args:=s.args) om ‹s.args[0]? = some _› om ‹us[_]? = some _›; grind))))
    refine ak (ar (ir 1 [(6,.i (-1))] (ie ?_)))
    exact Z5 (r2 [] [.i (-1)] ⟨rfl,rfl⟩ (li (by first|rfl|( grind)|(have q:=Vo (ds:=n.decls) (us:=us) (args:=s.args) om; grind)|(have q:=Vp (ds:=n.decls) (us:=us) (args:=s.args) om ‹s.args[0]? = some _› om; grind)|(have q:=Vh (ds:=n.decls) (us:=us) (args:=s.args) om ‹s.args[0]? = some _› om ‹us[_]? = some _›; grind))))
   refine aq (ar (Z0 2 (.n 52 (.b (s.op==1)) .r) (ie (Ug (fun F h=>F=[(1,Z1 us),(3,.p b1 0),(5,.p b2 0),(40,.i s.op),(52,.b ((s.op==1)||((s.op==2)||((s.op==3)||(s.op==4)))))]/\h=[.obj b2 (ZE s),.obj b1 (ZU n)]) ?_ ?_))))
   ·refine ac (s.op==1) Ze (fun hc4=>?_) (fun hc4=>?_)
    ·refine ak ?_
     exact ⟨_,_,⟨rfl,rfl⟩,(wk [0,0] (fq (fc (x:=.b (s.op==1)) (lb (by first|rfl|(rw [Z8 hc4])|(rw [Z4 hc4])|(simp [hc4];done)|(rw [YW];simp [hc4];done)|omega)) fl)))⟩
    refine ar (ir 2 [(1,Z1 us),(3,.p b1 0),(5,.p b2 0),(40,.i s.op),(52,.b (s.op==2))] (ie (ac (s.op==2) Ze (fun hc5=>?_) (fun hc5=>?_))))
    ·refine ak ?_
     exact ⟨_,_,⟨rfl,rfl⟩,(wk [0,0] (fq (fc (x:=.b (s.op==2)) (lb (by first|rfl|(rw [Z8 hc4])|(rw [Z4 hc4])|(simp [hc4,hc5];done)|(rw [YW];simp [hc4,hc5];done)|omega)) fl)))⟩
    refine ar (Z0 2 (.n 52 (.b (s.op==3)) (.w .z)) (ie (ac (s.op==3) Ze (fun hc6=>?_) (fun hc6=>?_))))
    ·refine ak ?_
     exact ⟨_,_,⟨rfl,rfl⟩,(wk [0,0] (fq (fc (x:=.b (s.op==3)) (lb (by first|rfl|(rw [Z8 hc4])|(rw [Z4 hc4])|(simp [hc4,hc5,hc6];done)|(rw [YW];simp [hc4,hc5,hc6];done)|omega)) fl)))⟩
    refine az (Z0 2 (.n 52 (.b (s.op==4)) (.d .r)) (ie ?_))
    exact ⟨_,_,⟨rfl,rfl⟩,(wk [0,0] (fq (fc (x:=.b (s.op==4)) (lb (by first|rfl|(rw [Z8 hc4])|(rw [Z4 hc4])|(simp [hc4,hc5,hc6];done)|(rw [YW];simp [hc4,hc5,hc6];done)|omega)) fl)))⟩
   rintro F h ⟨rfl,rfl⟩
   refine ac ((s.op==1)||((s.op==2)||((s.op==3)||(s.op==4)))) (p:=(s.op=1)∨((s.op=2)∨((s.op=3)∨(s.op=4)))) (Zz Ze (Zz Ze (Zz Ze Ze))) (fun hc7=>?_) (fun hc7=>?_)
   ·refine ar (iR 3 [(57,Z1 us),(59,Z1 s.args)] [0] [b2] (iL (Z6 [0,0]) 2 1 ?_))
    intro v1
    refine Z0 0 (.n 60 (Z1 [0,0]) (.p .r)) (ic [] (Jj us s.args [0,0] (hl_tys:=(by first|(simp;done)|(have:=VV hdk s.num;omega)))) ?_)
    rintro _ _ ⟨rfl,rfl⟩
    refine ie (ac (YM us s.args [0,0]) Iff.rfl (fun hc8=>?_) (fun hc8=>?_))
    ·refine ar (ir 1 [(6,.i 0)] (ie ?_))
     exact Z5 (r2 [] [.i 0] ⟨rfl,rfl⟩ (li (by first|rfl|( grind)|(have q:=Vo (ds:=n.decls) (us:=us) (args:=s.args) om; grind)|(have q:=Vp (ds:=n.decls) (us:=us) (args:=s.args) om ‹s.args[0]? = some _› om; grind)|(have q:=Vh (ds:=n.decls) (us:=us) (args:=s.args) om ‹s.args[0]? = some _› om ‹us[_]? = some _›; grind))))
    refine ak (ar (ir 1 [(6,.i (-1))] (ie ?_)))
    exact Z5 (r2 [] [.i (-1)] ⟨rfl,rfl⟩ (li (by first|rfl|( grind)|(have q:=Vo (ds:=n.decls) (us:=us) (args:=s.args) om; grind)|(have q:=Vp (ds:=n.decls) (us:=us) (args:=s.args) om ‹s.args[0]? = some _› om; grind)|(have q:=Vh (ds:=n.decls) (us:=us) (args:=s.args) om ‹s.args[0]? = some _› om ‹us[_]? = some _›; grind))))
   refine ar (ir 2 [(1,Z1 us),(3,.p b1 0),(5,.p b2 0),(40,.i s.op),(62,.b (s.op==5))] (ie (ac (s.op==5) Ze (fun hc9=>?_) (fun hc9=>?_))))
   ·refine ar (iR 3 [(64,Z1 us),(66,Z1 s.args)] [0] [b2] (iL (Z6 [0]) 1 1 ?_))
    intro v2
    refine Z0 0 (.n 67 (Z1 [0]) (.p .r)) (ic [] (Jj us s.args [0] (hl_tys:=(by first|(simp;done)|(have:=VV hdk s.num;omega)))) ?_)
    rintro _ _ ⟨rfl,rfl⟩
    refine ie (ac (YM us s.args [0]) Iff.rfl (fun hc10=>?_) (fun hc10=>?_))
    ·refine ar (ir 1 [(6,.i 0)] (ie ?_))
     exact Z5 (r2 [] [.i 0] ⟨rfl,rfl⟩ (li (by first|rfl|( grind)|(have q:=Vo (ds:=n.decls) (us:=us) (args:=s.args) om; grind)|(have q:=Vp (ds:=n.decls) (us:=us) (args:=s.args) om ‹s.args[0]? = some _› om; grind)|(have q:=Vh (ds:=n.decls) (us:=us) (args:=s.args) om ‹s.args[0]? = some _› om ‹us[_]? = some _›; grind))))
    refine ak (ar (ir 1 [(6,.i (-1))] (ie ?_)))
    exact Z5 (r2 [] [.i (-1)] ⟨rfl,rfl⟩ (li (by first|rfl|( grind)|(have q:=Vo (ds:=n.decls) (us:=us) (args:=s.args) om; grind)|(have q:=Vp (ds:=n.decls) (us:=us) (args:=s.args) om ‹s.args[0]? = some _› om; grind)|(have q:=Vh (ds:=n.decls) (us:=us) (args:=s.args) om ‹s.args[0]? = some _› om ‹us[_]? = some _›; grind))))
   refine ar (Z0 2 (.n 69 (.b (s.op==6)) .r) (ie (ac (s.op==6) Ze (fun hc11=>?_) (fun hc11=>?_))))
   ·refine aD 17 (ZI (fuel:=13) 17 [0,1,2,3] (.n 72 (Z3 n.decls) (.n 74 (.i s.num) .r)) [1,0] [b1,b2] (Zm 4 (dc 4 [] [] [] (Zaw n.decls s.num) ?_)))
    rintro _ _ ⟨rfl,rfl⟩
    refine Ke [(3,.p b1 0),(5,.p b2 0),(87,.b ((decide ((Yr n.decls s.num)>0))&&YM us s.args (Zc n.decls s.num)))] [.obj b2 (ZE s),.obj b1 (ZU n)] ?_ ?_
    ·refine dt (fuel:=10) 12 [5,6] [(1,Z1 us),(3,.p b1 0),(5,.p b2 0),(77,.b (decide ((Yr n.decls s.num)>0)))] (db (b:=(decide ((Yr n.decls s.num)>0))) 77 (fun hb5=>?_) (fun hb5=>?_))
     ·have hp9:(Yr n.decls s.num)>0:=(dq).1 hb5
      refine ZI (fuel:=3) 10 [7,8,9,10,11,12,13] (.n 78 (Z1 us) (.n 80 (Z1 s.args) (.n 82 (Z3 n.decls) (.n 84 (.i s.num) (.k (.d (.k (.k .z)))))))) [0,1,0] [b2,b1,b2] (Zm 14 (dc 14 [] [0] [b2] (Z1b n.decls s.num (hd:=hdk)) ?_))
      rintro _ _ ⟨rfl,rfl⟩
      refine Zm 15 (dc 15 [] [] [] (Jj us s.args (Zc n.decls s.num) (hl_tys:=(by first|(simp;done)|(have:=VV hdk s.num;omega)))) ?_)
      rintro _ _ ⟨rfl,rfl⟩
      refine Zi (fuel:=0) 1 [16] (.n 87 (.b (YM us s.args (Zc n.decls s.num))) .r) (de ?_)
      exact wk [0,0] (fw (fc (x:=.b (YM us s.args (Zc n.decls s.num))) (lb (by simp only [hb5];rfl)) fl))
     have hp10:¬((Yr n.decls s.num)>0):=Zv dq hb5
     refine Zi (fuel:=0) 10 [7,8,9,10,11,12,13,14,15,16] (.n 87 (.b false) (.d (.d (.k (.k .z))))) (de ?_)
     exact wk [0,0] (fw (fc (x:=.b false) (lb (by simp only [hb5];rfl)) fl))
    refine ac ((decide ((Yr n.decls s.num)>0))&&YM us s.args (Zc n.decls s.num)) (p:=((Yr n.decls s.num)>0)/\(YM us s.args (Zc n.decls s.num)=true)) (ZZ dq Iff.rfl) (fun hc12=>?_) (fun hc12=>?_)
    ·refine ar (iR 4 [(89,Z3 n.decls),(91,.i s.num)] [1,0] [b1,b2] (ic [] (Zaw n.decls s.num) ?_))
     rintro _ _ ⟨rfl,rfl⟩
     refine ir 1 [(6,.i (Yr n.decls s.num))] (ie ?_)
     exact Z5 (r2 [] [.i (Yr n.decls s.num)] ⟨rfl,rfl⟩ (li (by first|rfl|( grind)|(have q:=Vo (ds:=n.decls) (us:=us) (args:=s.args) om; grind)|(have q:=Vp (ds:=n.decls) (us:=us) (args:=s.args) om ‹s.args[0]? = some _› om; grind)|(have q:=Vh (ds:=n.decls) (us:=us) (args:=s.args) om ‹s.args[0]? = some _› om ‹us[_]? = some _›; grind))))
    refine ak (ar (ir 1 [(6,.i (-1))] (ie ?_)))
    exact Z5 (r2 [] [.i (-1)] ⟨rfl,rfl⟩ (li (by first|rfl|( grind)|(have q:=Vo (ds:=n.decls) (us:=us) (args:=s.args) om; grind)|(have q:=Vp (ds:=n.decls) (us:=us) (args:=s.args) om ‹s.args[0]? = some _› om; grind)|(have q:=Vh (ds:=n.decls) (us:=us) (args:=s.args) om ‹s.args[0]? = some _› om ‹us[_]? = some _›; grind))))
   refine ar (Z0 2 (.n 93 (.b (s.op==7)) .r) (ie (ac (s.op==7) Ze (fun hc13=>?_) (fun hc13=>?_))))
   ·refine ar (Za 3 (.n 95 (Z1 us) (.n 97 (Z1 s.args) .r)) [0] [b2] (iL (Z6 [0]) 1 1 ?_))
    intro v3
    refine Z0 0 (.n 98 (Z1 [0]) (.p .r)) (ic [] (Jj us s.args [0] (hl_tys:=(by first|(simp;done)|(have:=VV hdk s.num;omega)))) ?_)
    rintro _ _ ⟨rfl,rfl⟩
    refine ie (ac (YM us s.args [0]) Iff.rfl (fun hc14=>?_) (fun hc14=>?_))
    ·refine ar (iR 3 [(100,ZJ n),(101,Z1 us),(102,ZN s)] [2,1] [b1,b2] (ic [] (Zjy n us s (ih:=ob)) ?_))
     rintro _ _ ⟨rfl,rfl⟩
     refine ir 1 [(6,.i (Vw n us s.op s.num s.kids))] (ie ?_)
     exact Z5 (r2 [] [.i (Vw n us s.op s.num s.kids)] ⟨rfl,rfl⟩ (li (by first|rfl|( grind)|(have q:=Vo (ds:=n.decls) (us:=us) (args:=s.args) om; grind)|(have q:=Vp (ds:=n.decls) (us:=us) (args:=s.args) om ‹s.args[0]? = some _› om; grind)|(have q:=Vh (ds:=n.decls) (us:=us) (args:=s.args) om ‹s.args[0]? = some _› om ‹us[_]? = some _›; grind))))
    refine ak (ar (ir 1 [(6,.i (-1))] (ie ?_)))
    exact Z5 (r2 [] [.i (-1)] ⟨rfl,rfl⟩ (li (by first|rfl|( grind)|(have q:=Vo (ds:=n.decls) (us:=us) (args:=s.args) om; grind)|(have q:=Vp (ds:=n.decls) (us:=us) (args:=s.args) om ‹s.args[0]? = some _› om; grind)|(have q:=Vh (ds:=n.decls) (us:=us) (args:=s.args) om ‹s.args[0]? = some _› om ‹us[_]? = some _›; grind))))
   refine ar (Z0 2 (.n 104 (.b (s.op==8)) .r) (ie (ac (s.op==8) Ze (fun hc15=>?_) (fun hc15=>?_))))
   ·refine ar (Za 5 (.n 106 (Z1 us) (.n 108 (Z1 s.args) (.n 110 (.i s.num) .r))) [0,0] [b2,b2] (iL (Z6 [s.num]) 1 1 ?_))
    intro v4
    refine Z0 0 (.n 111 (Z1 [s.num]) (.p .r)) (ic [] (Jj us s.args [s.num] (hl_tys:=(by first|(simp;done)|(have:=VV hdk s.num;omega)))) ?_)
    rintro _ _ ⟨rfl,rfl⟩
    refine ie (ac (YM us s.args [s.num]) Iff.rfl (fun hc16=>?_) (fun hc16=>?_))
    ·refine ar (iR 3 [(113,ZJ n),(114,Z1 us),(115,ZN s)] [2,1] [b1,b2] (ic [] (Zjy n us s (ih:=ob)) ?_))
     rintro _ _ ⟨rfl,rfl⟩
     refine ir 1 [(6,.i (Vw n us s.op s.num s.kids))] (ie ?_)
     exact Z5 (r2 [] [.i (Vw n us s.op s.num s.kids)] ⟨rfl,rfl⟩ (li (by first|rfl|( grind)|(have q:=Vo (ds:=n.decls) (us:=us) (args:=s.args) om; grind)|(have q:=Vp (ds:=n.decls) (us:=us) (args:=s.args) om ‹s.args[0]? = some _› om; grind)|(have q:=Vh (ds:=n.decls) (us:=us) (args:=s.args) om ‹s.args[0]? = some _› om ‹us[_]? = some _›; grind))))
    refine ak (ar (ir 1 [(6,.i (-1))] (ie ?_)))
    exact Z5 (r2 [] [.i (-1)] ⟨rfl,rfl⟩ (li (by first|rfl|( grind)|(have q:=Vo (ds:=n.decls) (us:=us) (args:=s.args) om; grind)|(have q:=Vp (ds:=n.decls) (us:=us) (args:=s.args) om ‹s.args[0]? = some _› om; grind)|(have q:=Vh (ds:=n.decls) (us:=us) (args:=s.args) om ‹s.args[0]? = some _› om ‹us[_]? = some _›; grind))))
   refine aq (ar (Z0 2 (.n 117 (.b (s.op==9)) .r) (ie (Ug (fun F h=>F=[(1,Z1 us),(3,.p b1 0),(5,.p b2 0),(40,.i s.op),(117,.b ((s.op==9)||(s.op==10)))]/\h=[.obj b2 (ZE s),.obj b1 (ZU n)]) ?_ ?_))))
   ·refine ac (s.op==9) Ze (fun hc17=>?_) (fun hc17=>?_)
    ·refine ak ?_
     exact ⟨_,_,⟨rfl,rfl⟩,(wk [0,0] (fq (fc (x:=.b (s.op==9)) (lb (by first|rfl|(rw [Z8 hc17])|(rw [Z4 hc17])|(simp [hc17];done)|(rw [YW];simp [hc17];done)|omega)) fl)))⟩
    refine az (ir 2 [(1,Z1 us),(3,.p b1 0),(5,.p b2 0),(40,.i s.op),(117,.b (s.op==10))] (ie ?_))
    exact ⟨_,_,⟨rfl,rfl⟩,(wk [0,0] (fq (fc (x:=.b (s.op==10)) (lb (by first|rfl|(rw [Z8 hc17])|(rw [Z4 hc17])|(simp [hc17];done)|(rw [YW];simp [hc17];done)|omega)) fl)))⟩
   rintro F h ⟨rfl,rfl⟩
   refine ac ((s.op==9)||(s.op==10)) (p:=(s.op=9)∨(s.op=10)) (Zz Ze Ze) (fun hc18=>?_) (fun hc18=>?_)
   ·refine ar (iR 3 [(120,ZJ n),(121,Z1 us),(122,ZN s)] [1,0] [b1,b2] (ic [] (Zyj n us s) ?_))
    rintro _ _ ⟨rfl,rfl⟩
    refine ir 1 [(6,.i (UE n us s.op s.num s.args))] (ie ?_)
    exact Z5 (r2 [] [.i (UE n us s.op s.num s.args)] ⟨rfl,rfl⟩ (li (by first|rfl|( grind)|(have q:=Vo (ds:=n.decls) (us:=us) (args:=s.args) om; grind)|(have q:=Vp (ds:=n.decls) (us:=us) (args:=s.args) om ‹s.args[0]? = some _› om; grind)|(have q:=Vh (ds:=n.decls) (us:=us) (args:=s.args) om ‹s.args[0]? = some _› om ‹us[_]? = some _›; grind))))
   refine ar (ir 2 [(1,Z1 us),(3,.p b1 0),(5,.p b2 0),(40,.i s.op),(124,.b (s.op==11))] (ie (ac (s.op==11) Ze (fun hc19=>?_) (fun hc19=>?_))))
   ·refine aD 26 (ZI (fuel:=24) 26 [0,1] (.n 127 (Z1 s.args) .r) [0] [b2] (dw 2 (ZD s.args) (Zi (fuel:=21) 23 [3,4] (.n 130 (.b ((s.args.length:Int)==2)) .r) (db (b:=((s.args.length:Int)==2)) 130 (fun hb6=>?_) (fun hb6=>?_)))))
    ·have hp11:(s.args.length:Int)=2:=(Ze).1 hb6
     refine ZI (fuel:=19) 21 [5,6] (.n 132 (Z1 s.args) (.k (.d .r))) [0] [b2] ?_
     obtain ⟨x1,hx1⟩:=Zl (xs:=s.args) (j:=0) om
     refine dx 7 (Zj (es:=Z6 s.args) (hv:=none) (j:=0) (sz:=1) (y:=.i x1) kr om (ZH hx1) rfl) (Zi (fuel:=16) 18 [8,9] (.n 134 (.i x1) (.n 135 (Z1 us) .r)) (dw 10 (ZD us) (da 11 (((us.length:Int)-1)) (((us.length:Int))-(1)) (Zm 12 (dc 12 [] [] [] (Un x1 0 ((us.length:Int)-1)) ?_)))))
     rintro _ _ ⟨rfl,rfl⟩
     refine Zi (fuel:=11) 13 [13,14] (.n 140 (.b (decide (0<=x1/\x1<=((us.length:Int)-1)))) .r) (db (b:=(decide (0<=x1/\x1<=((us.length:Int)-1)))) 140 (fun hb7=>?_) (fun hb7=>?_))
     ·have hp12:0<=x1/\x1<=((us.length:Int)-1):=(dq).1 hb7
      refine ZI (fuel:=6) 11 [15,16,17,18,19] (.n 142 (Z3 n.decls) (.n 143 (Z1 us) (.n 145 (Z1 s.args) (.k (.d .r))))) [1,0] [b1,b2] (dx 20 (Zj (es:=Z6 s.args) (hv:=none) (j:=0) (sz:=1) (y:=.i x1) kr om (ZH hx1) rfl) (Zi (fuel:=4) 5 [21] (.n 147 (.i x1) .r) ?_))
      obtain ⟨x2,hx2⟩:=Zl (xs:=us) (j:=x1.toNat) om
      refine dx 22 (Zj (es:=Z6 us) (hv:=none) (j:=x1) (sz:=1) (y:=.i x2) kr om (ZH hx2) rfl) (Zi (fuel:=2) 3 [23] (.n 149 (.i x2) .r) (Zm 24 (dc 24 [] [] [] (Zjx n.decls x2) ?_)))
      rintro _ _ ⟨rfl,rfl⟩
      refine Zi (fuel:=0) 1 [25] (.n 151 (.b (Yv n.decls x2)) .r) (de (ac (Yv n.decls x2) Iff.rfl (fun hc20=>?_) (fun hc20=>?_)))
      ·refine aD 14 (ZI (fuel:=9) 14 [0,1,2,3,4] (.n 153 (Z3 n.decls) (.n 154 (Z1 us) (.n 156 (Z1 s.args) .r))) [1,0] [b1,b2] (dx 5 (Zj (es:=Z6 s.args) (hv:=none) (j:=0) (sz:=1) (y:=.i x1) kr om (ZH hx1) rfl) (Zi (fuel:=7) 8 [6] (.n 158 (.i x1) .r) (dx 7 (Zj (es:=Z6 us) (hv:=none) (j:=x1) (sz:=1) (y:=.i x2) kr om (ZH hx2) rfl) (Zi (fuel:=5) 6 [8] (.n 160 (.i x2) .r) (da 9 ((x2-1)) ((x2)-(1)) (hb:=(by have:=Z8x ‹Yv n.decls _=true›;omega)) ?_))))))
       obtain ⟨x3,hx3⟩:=Zl (xs:=n.decls) (j:=(x2-1).toNat) (by have:=Z8x ‹Yv n.decls _=true›;omega)
       have had:=Zm8 (us:=us) (args:=s.args) om ‹s.args[0]? = some _› om ‹us[_]? = some _› ‹Yv n.decls _=true› hx3
       refine dx 10 (Zj (es:=ZQ n.decls) (hv:=none) (j:=(x2-1)) (sz:=3) (y:=Yw x3) kr (by have:=Z8x ‹Yv n.decls _=true›;omega) (Wd hx3) rfl) (Zi (fuel:=2) 3 [11] (.n 163 (Yw x3) .r) (Zm 12 (dA 12 [0,1] [b2,b1] [.i 0,.i 0,nl] ?_)))
       intro b3
       refine Zm 13 (dS 13 0 [] [] b3 0 (Ys x3) [.i 0,.i 0,nl] (Ys x3) (de (aD 8 (ZI (fuel:=5) 8 [0,1,2] (.n 164 (Z1 us) (.n 166 (Z1 s.args) .r)) [1] [b2] (dx 3 (Z33 (es:=Z6 s.args) (hv:=none) (l:=1) (m:=(((Z6 s.args).length:Nat):Int)) (sz:=1) (es':=Z6 (s.args.drop 1)) kr om (by simp<;>omega) (by simp<;>omega) (YS _) (by first|(simp only [Te,Qh,Qr,Kg];done)|(simp only [Te,Qh,Qr,Kg];rfl)|(simp [Qr,Kg];done))) (ZI (fuel:=2) 4 [4,5] (.n 169 (.i x3.frm) .r) [0] [b3] (Zm 6 (dL 6 [1] [b2] (Z6 [x3.frm]) 1 1 ?_))))))))
       intro v5
       refine Zi (fuel:=1) 1 [] (.n 170 (Z1 [x3.frm]) (.p .r)) (Zm 7 (dc 7 [] [] [] (Jj us (s.args.drop 1) [x3.frm] (hl_tys:=(by first|(simp;done)|(have:=VV hdk s.num;omega)))) ?_))
       rintro _ _ ⟨rfl,rfl⟩
       refine de (ac (YM us (s.args.drop 1) [x3.frm]) Iff.rfl (fun hc21=>?_) (fun hc21=>?_))
       ·refine ar (iR 3 [(6,.i x3.to_)] [1] [b3] (ie ?_))
        exact Z5 (r2 [] [.i x3.to_] ⟨rfl,rfl⟩ (li (by first|rfl|(clear hx1 hx2 hx3;grind)|(have q:=Vo (ds:=n.decls) (us:=us) (args:=s.args) om;clear hx1 hx2 hx3;grind)|(have q:=Vp (ds:=n.decls) (us:=us) (args:=s.args) om ‹s.args[0]? = some _› om;clear hx1 hx2 hx3;grind)|(have q:=Vh (ds:=n.decls) (us:=us) (args:=s.args) om ‹s.args[0]? = some _› om ‹us[_]? = some _›;clear hx1 hx2 hx3;grind))))
       refine ak (ar (ir 1 [(6,.i (-1))] (ie ?_)))
       exact Z5 (r2 [] [.i (-1)] ⟨rfl,rfl⟩ (li (by first|rfl|(clear hx1 hx2 hx3;grind)|(have q:=Vo (ds:=n.decls) (us:=us) (args:=s.args) om;clear hx1 hx2 hx3;grind)|(have q:=Vp (ds:=n.decls) (us:=us) (args:=s.args) om ‹s.args[0]? = some _› om;clear hx1 hx2 hx3;grind)|(have q:=Vh (ds:=n.decls) (us:=us) (args:=s.args) om ‹s.args[0]? = some _› om ‹us[_]? = some _›;clear hx1 hx2 hx3;grind))))
      refine ak (ar (ir 1 [(6,.i (-1))] (ie ?_)))
      exact Z5 (r2 [] [.i (-1)] ⟨rfl,rfl⟩ (li (by first|rfl|(clear hx1 hx2;grind)|(have q:=Vo (ds:=n.decls) (us:=us) (args:=s.args) om;clear hx1 hx2;grind)|(have q:=Vp (ds:=n.decls) (us:=us) (args:=s.args) om ‹s.args[0]? = some _› om;clear hx1 hx2;grind)|(have q:=Vh (ds:=n.decls) (us:=us) (args:=s.args) om ‹s.args[0]? = some _› om ‹us[_]? = some _›;clear hx1 hx2;grind))))
     have hp13:¬(0<=x1/\x1<=((us.length:Int)-1)):=Zv dq hb7
     refine Zi (fuel:=0) 11 [15,16,17,18,19,20,21,22,23,24,25] (.n 151 (.b false) (.k (.d .r))) (de (YA (ak (ar (ir 1 [(6,.i (-1))] (ie ?_))))))
     exact Z5 (r2 [] [.i (-1)] ⟨rfl,rfl⟩ (li (by first|rfl|(clear hx1;grind)|(have q:=Vo (ds:=n.decls) (us:=us) (args:=s.args) om;clear hx1;grind)|(have q:=Vp (ds:=n.decls) (us:=us) (args:=s.args) om ‹s.args[0]? = some _› om;clear hx1;grind)|(have q:=Vh (ds:=n.decls) (us:=us) (args:=s.args) om ‹s.args[0]? = some _› om ‹us[_]? = some _›;clear hx1;grind))))
    have hp14:¬((s.args.length:Int)=2):=Zv Ze hb6
    refine Zi (fuel:=0) 21 [5,6,7,8,9,10,11,12,13,14,15,16,17,18,19,20,21,22,23,24,25] (.n 151 (.b false) (.k (.d .r))) (de (YA (ak (ar (ir 1 [(6,.i (-1))] (ie ?_))))))
    exact Z5 (r2 [] [.i (-1)] ⟨rfl,rfl⟩ (li (by first|rfl|( grind)|(have q:=Vo (ds:=n.decls) (us:=us) (args:=s.args) om; grind)|(have q:=Vp (ds:=n.decls) (us:=us) (args:=s.args) om ‹s.args[0]? = some _› om; grind)|(have q:=Vh (ds:=n.decls) (us:=us) (args:=s.args) om ‹s.args[0]? = some _› om ‹us[_]? = some _›; grind))))
   refine aq (ar (Z0 2 (.n 174 (.b (s.op==14)) .r) (ie (Ug (fun F h=>F=[(1,Z1 us),(3,.p b1 0),(5,.p b2 0),(174,.b ((s.op==14)||((s.op==15)||((s.op==16)||(s.op==17)))))]/\h=[.obj b2 (ZE s),.obj b1 (ZU n)]) ?_ ?_))))
   ·refine ac (s.op==14) Ze (fun hc22=>?_) (fun hc22=>?_)
    ·refine ak ?_
     exact ⟨_,_,⟨rfl,rfl⟩,(wk [0,0] (fw (fr (fc (x:=.b (s.op==14)) (lb (by first|rfl|(rw [Z8 hc22])|(rw [Z4 hc22])|(simp [hc22];done)|(rw [YW];simp [hc22];done)|omega)) fl))))⟩
    refine ar (ir 2 [(1,Z1 us),(3,.p b1 0),(5,.p b2 0),(40,.i s.op),(174,.b (s.op==15))] (ie (ac (s.op==15) Ze (fun hc23=>?_) (fun hc23=>?_))))
    ·refine ak ?_
     exact ⟨_,_,⟨rfl,rfl⟩,(wk [0,0] (fw (fr (fc (x:=.b (s.op==15)) (lb (by first|rfl|(rw [Z8 hc22])|(rw [Z4 hc22])|(simp [hc22,hc23];done)|(rw [YW];simp [hc22,hc23];done)|omega)) fl))))⟩
    refine ar (Z0 2 (.n 174 (.b (s.op==16)) (.w .z)) (ie (ac (s.op==16) Ze (fun hc24=>?_) (fun hc24=>?_))))
    ·refine ak ?_
     exact ⟨_,_,⟨rfl,rfl⟩,(wk [0,0] (fw (fr (fc (x:=.b (s.op==16)) (lb (by first|rfl|(rw [Z8 hc22])|(rw [Z4 hc22])|(simp [hc22,hc23,hc24];done)|(rw [YW];simp [hc22,hc23,hc24];done)|omega)) fl))))⟩
    refine az (Z0 2 (.n 174 (.b (s.op==17)) (.d .r)) (ie ?_))
    exact ⟨_,_,⟨rfl,rfl⟩,(wk [0,0] (fw (fr (fc (x:=.b (s.op==17)) (lb (by first|rfl|(rw [Z8 hc22])|(rw [Z4 hc22])|(simp [hc22,hc23,hc24];done)|(rw [YW];simp [hc22,hc23,hc24];done)|omega)) fl))))⟩
   rintro F h ⟨rfl,rfl⟩
   refine ac ((s.op==14)||((s.op==15)||((s.op==16)||(s.op==17)))) (p:=(s.op=14)∨((s.op=15)∨((s.op=16)∨(s.op=17)))) (Zz Ze (Zz Ze (Zz Ze Ze))) (fun hc25=>?_) (fun hc25=>?_)
   ·refine ar (iR 3 [(179,ZJ n),(180,Z1 us),(181,ZN s)] [1,0] [b1,b2] (ic [] (Zy8 n us s) ?_))
    rintro _ _ ⟨rfl,rfl⟩
    refine ir 1 [(6,.i (Uw n.decls us s.op s.args))] (ie ?_)
    exact Z5 (r2 [] [.i (Uw n.decls us s.op s.args)] ⟨rfl,rfl⟩ (li (by first|rfl|( grind)|(have q:=Vo (ds:=n.decls) (us:=us) (args:=s.args) om; grind)|(have q:=Vp (ds:=n.decls) (us:=us) (args:=s.args) om ‹s.args[0]? = some _› om; grind)|(have q:=Vh (ds:=n.decls) (us:=us) (args:=s.args) om ‹s.args[0]? = some _› om ‹us[_]? = some _›; grind))))
   refine ak (ar (ir 1 [(6,.i (-1))] (ie ?_)))
   exact Z5 (r2 [] [.i (-1)] ⟨rfl,rfl⟩ (li (by first|rfl|( grind)|(have q:=Vo (ds:=n.decls) (us:=us) (args:=s.args) om; grind)|(have q:=Vp (ds:=n.decls) (us:=us) (args:=s.args) om ‹s.args[0]? = some _› om; grind)|(have q:=Vh (ds:=n.decls) (us:=us) (args:=s.args) om ‹s.args[0]? = some _› om ‹us[_]? = some _›; grind))))
  refine ir 1 [(1,Z1 us),(3,.p b1 0),(5,.p b2 0),(17,.b ((s.num != 0)&&(!XI s.op)))] (ib (b:=((s.num != 0)&&(!XI s.op))) 17 (fun hb8=>?_) (fun hb8=>?_))
  ·have hp15:(s.num≠0)/\(¬(XI s.op=true)):=((ZZ Zw (ZP Iff.rfl))).1 hb8
   refine Z0 5 (.n 22 (.b true) (.d (.k (.k (.k .z))))) ?_
   exact ZL (wk [0,0] (fw (fr (fc (x:=.b true) (lb (by simp only [hb8];rfl)) fl)))) hj2
  have hp16:¬((s.num≠0)/\(¬(XI s.op=true))):=Zv (ZZ Zw (ZP Iff.rfl)) hb8
  refine Za 2 (.n 18 (Z1 us) (.n 19 (ZN s) (.w .z))) [0] [b2] (ic [] (Zyq us s) ?_)
  rintro _ _ ⟨rfl,rfl⟩
  refine Z0 2 (.n 22 (.b (!Wl us s.op s.into)) .r) ?_
  exact ZL (wk [0,0] (fw (fr (fc (x:=.b (!Wl us s.op s.into)) (lb (by simp only [hb8];rfl)) fl)))) hj2
 refine iR 4 [(1,Z1 us),(3,.p b1 0),(5,.p b2 0),(11,.b (s.num != 0))] [0] [b2] (ib (b:=(s.num != 0)) 11 (fun hb9=>?_) (fun hb9=>?_))
 ·have hp17:s.num≠0:=(Zw).1 hb9
  refine Za 2 (.n 13 (.i s.op) (.w .z)) [0] [b2] (ic [] (Zye s.op) ?_)
  rintro _ _ ⟨rfl,rfl⟩
  refine Z0 2 (.n 16 (.b (!XI s.op)) .r) ?_
  exact ZL (wk [0,0] (fw (fr (fc (x:=.b (!XI s.op)) (lb (by simp only [hb9];rfl)) fl)))) hj1
 have hp18:¬(s.num≠0):=Zv Zw hb9
 refine Z0 5 (.n 16 (.b false) (.d (.k (.k (.k .z))))) ?_
 exact ZL (wk [0,0] (fw (fr (fc (x:=.b false) (lb (by simp only [hb9];rfl)) fl)))) hj1
theorem Zy4 (n:Normal) (us:List Int) (b:Block) (hn:NOk n:=by exact ob) (hb:us.length+4*b.sz<=1000000000:=by exact ob) (ih:∀(s:Step) (us:List Int),(s.sz<b.sz)->(us.length+4*s.sz<=1000000000)->Zd Tryz.prog 105 [ZJ n,Z1 us,ZN s] [] (fun r h=>r=.i (Zp n us s)/\h=[])):Zd Tryz.prog 70 [ZJ n,Z1 us,Zx b] [] (fun r h=>r=.i (ZF n us b)/\h=[]):=by
 have hbz:=Z02 b
 have hbe:=Z3z n us b
 refine enter Tryz.func70 kr (n:=52) kr kr (ar (iA (ZU n) ?_))
 intro b1
 refine iA (YY b) ?_
 intro b2
 refine ir 1 [(1,Z1 us),(3,.p b1 0),(5,.p b2 0)] (ie (ar (Z0 1 (.n 10 (Z1 us) .r) (ic [] (K3 us) ?_))))
 rintro _ _ ⟨v1,rfl,rfl⟩
 refine Z0 1 (.n 7 (Zb us v1) .r) (ie (aq (ar (Z0 1 (.n 8 (.i 0) .r) (ie (ab 0 (al (fun m F h=>∃(k:Nat) (vs:List Int) (v:Value),(k<=b.steps.length)/\(vs.length<=us.length+k)/\(X7 n (b.steps.drop k) vs=X7 n b.steps us)/\F=[(3,.p b1 0),(5,.p b2 0),(7,Zb vs v),(8,.i k)]/\h=[.obj b2 (YY b),.obj b1 (ZU n),.tail v 1]/\m=b.steps.length-k) _ _ _ ⟨0,us,v1,ob,ob,ob,rfl,rfl,rfl⟩ (wk [1,1,0] (fw (fr (fc (x:=.i 0) li fl)))) ?_)))))))
 rintro m F h ⟨k,vs,v,c0_0,c0_1,c0_2,rfl,rfl,rfl⟩
 refine aq (ar (Za 3 (.n 12 (.i k) (.n 14 (ZX b.steps) .r)) [0] [b2] (iw (UK b.steps) (Z0 1 (.n 16 (.b (decide ((k:Int)<(b.steps.length:Int)))) .r) (ie (ac (decide ((k:Int)<(b.steps.length:Int))) dq (fun hc1=>?_) (fun hc1=>?_)))))))
 ·refine ak (aq (ab 1 (aD 9 (ZI (fuel:=4) 9 [0,1,2,3,4] (.n 19 (ZJ n) (.n 20 (Zb vs v) (.n 22 (ZX b.steps) (.n 23 (.i k) .r)))) [1,0] [b1,b2] ?_))))
  obtain ⟨x1,hx1⟩:=Zl (xs:=b.steps) (j:=k) om
  have hss:=Z5y hx1
  refine dx 5 (Zj (es:=Wg b.steps) (hv:=none) (j:=(k:Int)) (sz:=5) (y:=ZN x1) kr om (T6 hx1) rfl) (Zi (fuel:=2) 3 [6] (.n 20 (Z1 vs) (.n 25 (ZN x1) (.q 24 (.k (.d .r))))) (Zm 7 (dc 7 [] [] [] (ih x1 vs ob ob) ?_)))
  rintro _ _ ⟨rfl,rfl⟩
  refine Zi (fuel:=0) 1 [8] (.n 9 (.i (Zp n vs x1)) .r) (de (aq (ar (Z0 2 (.n 28 (.b (decide ((Zp n vs x1)<0))) .r) (ie (ac (decide ((Zp n vs x1)<0)) dq (fun hc2=>?_) (fun hc2=>?_)))))))
  ·refine ar (ir 1 [(6,.i (-1))] (ie ?_))
   rw [Zu hx1] at c0_2
   exact Z5 (r2 [] [.i (-1)] ⟨rfl,rfl⟩ (li (by clear hx1;first|rfl|omega|grind [X7])))
  refine ak (ar (Za 3 (.n 30 (ZX b.steps) (.n 31 (.i k) .r)) [0] [b2] (Zf (Zj (es:=Wg b.steps) (hv:=none) (j:=(k:Int)) (sz:=5) (y:=ZN x1) kr om (T6 hx1) rfl) (Z0 2 (.n 34 (.i x1.op) .r) (ic [] (Q9 x1.op) ?_)))))
  rintro _ _ ⟨rfl,rfl⟩
  refine ie (JE (fun F h=>∃(w:Value),F=[(3,.p b1 0),(5,.p b2 0),(7,Zb (if Yl x1.op=true then vs++[Zp n vs x1] else vs) w),(8,.i k)]/\h=[.obj b2 (YY b),.obj b1 (ZU n),.tail w 1]) (fun _ _=>rfl) ?_ ?_)
  ·refine ac (Yl x1.op) Iff.rfl (fun hc3=>?_) (fun hc3=>?_)
   ·refine az (ir 2 [(3,.p b1 0),(5,.p b2 0),(8,.i k),(36,Zb vs v),(37,.i (Zp n vs x1))] (iL (Z6 [Zp n vs x1]) 1 1 ?_))
    intro v2
    refine Z0 0 (.n 38 (Z1 [Zp n vs x1]) (.p .r)) (ip 3 (Z6 (vs++[Zp n vs x1])) (Z6 vs) (Z6 [Zp n vs x1]) v none 1 (YS _) (YS _) (VL _) (by simp<;>omega) (by simp [VK,Z6]) ?_)
    intro v3
    refine Z0 1 (.n 7 (Zb (vs++[Zp n vs x1]) v3) .r) (ie ?_)
    exact ⟨_,_,⟨v3,rfl,rfl⟩,(wk [2,2,0] (fw (fc (x:=Zb (vs++[Zp n vs x1]) v3) (Zg.slh _ (Y1 Z6 (by first|rfl|(rw [Z8 hc3])|(rw [Z4 hc3])|(simp [hc3];done)|(rw [YW];simp [hc3];done)|omega))) fl)))⟩
   refine ak ?_
   exact ⟨_,_,⟨v,rfl,rfl⟩,(wk [0,0,0] (fw (fc (x:=Zb vs v) (Zg.slh _ (Y1 Z6 (by first|rfl|(rw [Z8 hc3])|(rw [Z4 hc3])|(simp [hc3];done)|(rw [YW];simp [hc3];done)|omega))) fl)))⟩
  rintro F h ⟨w,rfl,rfl⟩
  refine az (ir 1 [(3,.p b1 0),(5,.p b2 0),(7,Zb (if Yl x1.op=true then vs++[Zp n vs x1] else vs) w),(17,.i k)] (ia (((k+1:Nat):Int)) (((k:Int))+(1)) (Z0 1 (.n 8 (.i (k+1:Nat)) .r) (ie ?_))))
  have hdr:=Zu hx1
  exact ⟨_,_,_,ob,⟨k+1,(if Yl x1.op=true then vs++[Zp n vs x1] else vs),w,ob,(by split<;>(try simp)<;>omega),(by rw [hdr] at c0_2;clear hdr hx1;grind [X7]),rfl,rfl,rfl⟩,(wk [0,0,0] (fw (fr (fc (x:=.i (k+1:Nat)) li fl))))⟩
 refine ax 0 (aq (ar (Za 3 (.n 41 (.i b.result) (.n 42 (Zb vs v) .r)) [0] [b2] (iw (ZD vs) (ia (((vs.length:Int)-1)) (((vs.length:Int))-(1)) (ic [] (Un b.result 0 ((vs.length:Int)-1)) ?_))))))
 rintro _ _ ⟨rfl,rfl⟩
 refine Z0 1 (.n 46 (.b (!(decide (0<=b.result/\b.result<=((vs.length:Int)-1))))) .r) (ie (ac (!(decide (0<=b.result/\b.result<=((vs.length:Int)-1)))) (p:=¬(0<=b.result/\b.result<=((vs.length:Int)-1))) (ZP dq) (fun hc4=>?_) (fun hc4=>?_)))
 ·refine ar (ir 1 [(6,.i (-1))] (ie ?_))
  try rw [Ye (xs:=b.steps) (k:=k) om] at c0_2
  exact Z5 (r2 [] [.i (-1)] ⟨rfl,rfl⟩ (li (by rw [hbe,<-c0_2];show _=(Yq vs b.result).getD (-1);rw [Tm hc4];rfl)))
 refine ak (ar (iR 3 [(47,Zb vs v),(49,.i b.result)] [0] [b2] ?_))
 obtain ⟨x2,hx2⟩:=Zl (xs:=vs) (j:=b.result.toNat) om
 refine Zf (Zj (es:=Z6 vs) (hv:=some v) (j:=b.result) (sz:=1) (y:=.i x2) kr om (ZH hx2) rfl) (ir 2 [(6,.i x2)] (ie ?_))
 try rw [Ye (xs:=b.steps) (k:=k) om] at c0_2
 exact Z5 (r2 [] [.i x2] ⟨rfl,rfl⟩ (li (by rw [hbe,<-c0_2];show _=(Yq vs b.result).getD (-1);rw [Ut om hx2];rfl)))
theorem Zyn (b:Block) (l:Int) (hb:b.sz<=1000000000) (hl:0<=l/\l<=600) (ih:∀(b2:Block) (l:Int),(b2.sz<b.sz)->(0<=l/\l<=600)->Zd Tryz.prog 104 [Zx b2,.i l] [] (fun r h=>r=.i (X4 b2 l)/\h=[])):Zd Tryz.prog 104 [Zx b,.i l] [] (fun r h=>r=.i (X4 b l)/\h=[]):=by
 have hbz:=Z02 b
 have hbe:=Zgs b l
 refine enter Tryz.func104 kr (n:=43) kr kr (ar (iA (YY b) ?_))
 intro b1
 refine ir 1 [(1,.i l),(2,.p b1 0)] (ie (aq (ar (Z0 1 (.n 5 (.i 0) .r) (ie (ab 0 (al (fun m F h=>∃(k:Nat) (q:Int),(k<=b.steps.length)/\(0<=q/\q<=600)/\(Ul (b.steps.drop k) q=Ul b.steps l)/\F=[(1,.i q),(2,.p b1 0),(5,.i k)]/\h=[.obj b1 (YY b)]/\m=b.steps.length-k) _ _ _ ⟨0,l,ob,ob,ob,rfl,rfl,rfl⟩ (wk [0] (fw (fc (x:=.i 0) li fl))) ?_)))))))
 rintro m F h ⟨k,q,c0_0,c0_1,c0_2,rfl,rfl,rfl⟩
 refine aq (ar (Za 3 (.n 7 (.i k) (.n 9 (ZX b.steps) .r)) [0] [b1] (iw (UK b.steps) (Z0 1 (.n 11 (.b (decide ((k:Int)<(b.steps.length:Int)))) .r) (ie (ac (decide ((k:Int)<(b.steps.length:Int))) dq (fun hc1=>?_) (fun hc1=>?_)))))))
 ·refine ak (aq (ab 1 (aq (ar (Z0 2 (.n 15 (.b (decide (q<1))) .r) (ie (ac (decide (q<1)) dq (fun hc2=>?_) (fun hc2=>?_))))))))
  ·refine ar (ir 1 [(4,.i (-1))] (ie ?_))
   try rw [Ye (xs:=b.steps) (k:=k) om] at c0_2
   obtain ⟨x1,hx1⟩:=Zl (xs:=b.steps) (j:=k) om
   rw [Zu hx1] at c0_2
   clear hx1
   exact Z5 (r2 [] [.i (-1)] ⟨rfl,rfl⟩ (li (by first|rfl|omega|grind [Ul])))
  obtain ⟨s1,hxs1⟩:=Zl (xs:=b.steps) (j:=k) om
  have hss:=Zb4 hxs1
  have hkz:=UO s1
  refine ak (ar (Z0 1 (.n 16 (.i q) .r) (ia ((q-1)) ((q)-(1)) (ir 1 [(1,.i (q-1)),(2,.p b1 0),(5,.i k)] (ie (ar (Z0 1 (.n 6 (.i 0) .r) (ie (ab 2 (al (fun m F h=>∃(j:Nat) (j2:Int),(j<=s1.kids.length)/\(0<=j2/\j2<=600)/\(UB (s1.kids.drop j) j2=UB s1.kids (q-1))/\F=[(1,.i j2),(2,.p b1 0),(5,.i k),(6,.i j)]/\h=[.obj b1 (YY b)]/\m=s1.kids.length-j) _ _ _ ⟨0,(q-1),ob,ob,ob,rfl,rfl,rfl⟩ (wk [0] (fw (fr (fc (x:=.i 0) li fl)))) ?_))))))))))
  rintro m F h ⟨j,j2,c1_0,c1_1,c1_2,rfl,rfl,rfl⟩
  refine aq (ar (Za 4 (.n 18 (.i j) (.n 20 (ZX b.steps) (.n 21 (.i k) .r))) [0] [b1] (Zf (Zj (es:=Wg b.steps) (hv:=none) (j:=(k:Int)) (sz:=5) (y:=ZN s1) kr om (T6 hxs1) rfl) (Z0 2 (.n 24 (ZT s1.kids) .r) (iw (VJ s1.kids) (Z0 1 (.n 26 (.b (decide ((j:Int)<(s1.kids.length:Int)))) .r) (ie (ac (decide ((j:Int)<(s1.kids.length:Int))) dq (fun hc3=>?_) (fun hc3=>?_)))))))))
  ·refine ak (aq (ab 3 (ar (Za 3 (.n 30 (ZX b.steps) (.n 31 (.i k) .r)) [0] [b1] (Zf (Zj (es:=Wg b.steps) (hv:=none) (j:=(k:Int)) (sz:=5) (y:=ZN s1) kr om (T6 hxs1) rfl) (Z0 3 (.n 34 (ZT s1.kids) (.n 35 (.i j) .r)) ?_))))))
   obtain ⟨x1,hx1⟩:=Zl (xs:=s1.kids) (j:=j) om
   have hks:=UN hx1
   have hle:=Z95.2 x1 j2 om
   refine Zf (Zj (es:=Xw s1.kids) (hv:=none) (j:=(j:Int)) (sz:=2) (y:=Zx x1) kr om (WY hx1) rfl) (Z0 2 (.n 37 (Zx x1) (.n 38 (.i j2) .r)) (ic [] (ih x1 j2 ob ob) ?_))
   rintro _ _ ⟨rfl,rfl⟩
   refine ir 1 [(1,.i (X4 x1 j2)),(2,.p b1 0),(5,.i k),(6,.i j)] (ie (ar (Z0 2 (.n 41 (.b (decide ((X4 x1 j2)<0))) .r) (ie (ac (decide ((X4 x1 j2)<0)) dq (fun hc4=>?_) (fun hc4=>?_))))))
   ·refine ar (ir 1 [(4,.i (-1))] (ie ?_))
    rw [Zu hxs1] at c0_2
    rw [Zu hx1] at c1_2
    have hls:=Z56 s1 (q-1)
    exact Z5 (r2 [] [.i (-1)] ⟨rfl,rfl⟩ (li (by clear hx1 hxs1;first|rfl|omega|grind [Ul,UB])))
   refine ak (az (Z0 1 (.n 27 (.i j) .r) (ia (((j+1:Nat):Int)) (((j:Int))+(1)) (Z0 1 (.n 6 (.i (j+1:Nat)) (.p (.d (.d (.k (.k (.k .z))))))) (ie ?_)))))
   have hdr:=Zu hx1
   exact ⟨_,_,_,ob,⟨j+1,(X4 x1 j2),ob,ob,(by rw [hdr] at c1_2;clear hdr hx1 hxs1;grind [UB]),rfl,rfl,rfl⟩,(wk [0] (fw (fr (fc (x:=.i (j+1:Nat)) li fl))))⟩
  refine ax 2 (az (Z0 1 (.n 12 (.i k) .r) (ia (((k+1:Nat):Int)) (((k:Int))+(1)) (ir 1 [(1,.i j2),(2,.p b1 0),(5,.i (k+1:Nat))] (ie ?_)))))
  rw [Ye om] at c1_2
  have hls:=Z56 s1 (q-1)
  rw [UB] at c1_2
  have hdr:=Zu hxs1
  exact ⟨_,_,_,ob,⟨k+1,j2,ob,ob,(by rw [hdr] at c0_2;clear hdr hxs1;grind [Ul]),rfl,rfl,rfl⟩,(wk [0] (fw (fc (x:=.i (k+1:Nat)) li fl)))⟩
 refine ax 0 (ar (ir 2 [(4,.i q)] (ie ?_)))
 try rw [Ye (xs:=b.steps) (k:=k) om] at c0_2
 exact Z5 (r2 [] [.i q] ⟨rfl,rfl⟩ (li (by first|rfl|omega|grind [Ul])))
theorem Zym (b:Block) (l:Int) (hb:b.sz<=1000000000) (hl:0<=l/\l<=600):Zd Tryz.prog 104 [.agg [.sl (Wg b.steps) none,.i b.result],.i l] [] (fun r h=>r=.i (X4 b l)/\h=[]):=by
 have key:∀m:Nat,∀(b:Block) (l:Int),b.sz<=m->b.sz<=1000000000->(0<=l/\l<=600)->Zd Tryz.prog 104 [.agg [.sl (Wg b.steps) none,.i b.result],.i l] [] (fun r h=>r=.i (X4 b l)/\h=[]):=by
  intro m
  induction m with
  | zero=>intro b l h;have:=b.sz_pos;omega
  | succ m ih=>intro b l h1 h2 h3;exact Zyn b l h2 h3 fun b2 l2 k1 k2=>ih b2 l2 om om k2
 exact key b.sz b l (Yp _) hb hl
theorem Zy3 (n:Normal) (hn:NOk n) (m:Nat):∀(b:Block) (us:List Int),(b.sz<=m)->(us.length+4*b.sz<=1000000000)->Zd Tryz.prog 70 [ZJ n,Z1 us,Zx b] [] (fun r h=>r=.i (ZF n us b)/\h=[]):=by
 induction m with
 | zero=>intro b us h;have:=b.sz_pos;omega
 | succ m ih=>intro b us h1 h2;exact Zy4 n us b hn h2 fun s us2 k1 k2=>Zk2 n us2 s hn k2 fun b2 us3 q1 q2=>ih b2 us3 om q2
theorem Zjw (n:Normal) (us:List Int) (b:Block) (hn:NOk n) (hb:us.length+4*b.sz<=1000000000):Zd Tryz.prog 70 [ZJ n,Z1 us,Zx b] [] (fun r h=>r=.i (ZF n us b)/\h=[]):=
 Zy3 n hn b.sz b us (Yp _) hb
theorem Zyl (n:Normal) (us:List Int) (s:Step) (hn:NOk n) (hb:us.length+4*s.sz<=1000000000):Zd Tryz.prog 105 [ZJ n,Z1 us,ZN s] [] (fun r h=>r=.i (Zp n us s)/\h=[]):=
 Zk2 n us s hn hb fun b2 us3 _ q2=>Zjw n us3 b2 hn q2
theorem Zyo (b:Block) (hb:b.sz<=1000000000:=by exact ob):Zd Tryz.prog 69 [Zx b] [] (fun r h=>r=.i (Vl b)/\h=[]):=by
 have hle:=Z95.2 b 600 om
 refine enter Tryz.func69 kr (n:=10) kr kr (ar (iA (YY b) ?_))
 intro b1
 refine ir 1 [(1,.p b1 0)] (ie (ar (iR 1 [(4,Zx b)] [0] [b1] (ic [] (Zym b 600 ob ob) ?_))))
 rintro _ _ ⟨rfl,rfl⟩
 refine ir 1 [(3,.i (X4 b 600))] (ie (aq (ar (Z0 2 (.n 7 (.b (decide ((X4 b 600)<0))) .r) (ie (ac (decide ((X4 b 600)<0)) dq (fun hc1=>?_) (fun hc1=>?_)))))))
 ·refine ar (ir 1 [(2,.i (-1))] (ie ?_))
  exact Z5 (r2 [] [.i (-1)] ⟨rfl,rfl⟩ (li (by first|rfl|omega|grind [Vl])))
 refine ak (ar (ir 1 [(8,.i (X4 b 600))] (ia ((600-(X4 b 600))) ((600)-(X4 b 600)) (ir 1 [(2,.i (600-(X4 b 600)))] (ie ?_)))))
 exact Z5 (r2 [] [.i (600-(X4 b 600))] ⟨rfl,rfl⟩ (li (by first|rfl|omega|grind [Vl])))
theorem Zyt (n:Normal) (hz:NSz n:=by exact ob):Zd Tryz.prog 35 [ZJ n] [] (fun r h=>r=.b (Vm n)/\h=[]):=by
 have hzl:=hz.len
 refine enter Tryz.func35 kr (n:=35) kr kr (ar (iA (ZU n) ?_))
 intro b1
 refine ir 1 [(1,.p b1 0)] (ie (aq (ar (Za 1 (.n 5 (ZJ n) .r) [0] [b1] (ic [] (Zys n (hz:=hz.decls) (hr:=(fun r hr=>⟨hz.params r hr,hz.lent r hr⟩))) ?_)))))
 rintro _ _ ⟨rfl,rfl⟩
 refine Z0 1 (.n 7 (.b (!XF n)) .r) (ie (ac (!XF n) (p:=¬(XF n=true)) (ZP Iff.rfl) (fun hc1=>?_) (fun hc1=>?_)))
 ·refine ar (ir 1 [(2,.b false)] (ie ?_))
  exact Z5 (r2 [] [.b false] ⟨rfl,rfl⟩ (lb (by first|rfl|omega|grind [Vm])))
 have hok:=Z9i hz (by simpa using hc1)
 refine ak (aq (ar (Z0 1 (.n 3 (.i 0) .r) (ie (ab 0 (al (fun m F h=>∃(k:Nat),(k<=n.routines.length)/\(T9 n (n.routines.drop k)=T9 n n.routines)/\F=[(1,.p b1 0),(3,.i k)]/\h=[.obj b1 (ZU n)]/\m=n.routines.length-k) _ _ _ ⟨0,ob,ob,rfl,rfl,rfl⟩ (wk [0] (fr (fc (x:=.i 0) li fl))) ?_))))))
 rintro m F h ⟨k,c0_0,c0_1,rfl,rfl,rfl⟩
 refine aq (ar (Za 3 (.n 8 (.i k) (.n 10 (Yh n.routines) .r)) [0] [b1] (iw (VY n.routines) (Z0 1 (.n 12 (.b (decide ((k:Int)<(n.routines.length:Int)))) .r) (ie (ac (decide ((k:Int)<(n.routines.length:Int))) dq (fun hc2=>?_) (fun hc2=>?_)))))))
 ·refine ak (aq (ab 1 (ar (Za 3 (.n 16 (Yh n.routines) (.n 17 (.i k) .r)) [0] [b1] ?_))))
  obtain ⟨x1,hx1⟩:=Zl (xs:=n.routines) (j:=k) om
  have hbs:=hz.body _ (ZV hx1)
  have hps:=hok.params_at hx1
  refine Zf (Zj (es:=WD n.routines) (hv:=none) (j:=(k:Int)) (sz:=5) (y:=Xc x1) kr om (VX hx1) rfl) (Z0 1 (.n 19 (Xc x1) .r) (iA [nl,nl,.i 0,nl,.i 0] ?_))
  intro b2
  refine iS 0 b2 0 (WI x1) [nl,nl,.i 0,nl,.i 0] (WI x1) (ie (aD 15 (ZI (fuel:=13) 15 [0,1] (.n 21 (Zx x1.body) .r) [0] [b2] (Zm 2 (dc 2 [] [] [] (Zyo x1.body) ?_)))))
  rintro _ _ ⟨rfl,rfl⟩
  refine Ke [(1,.p b1 0),(3,.i k),(34,.b ((decide ((Vl x1.body)<0))||((ZF n x1.params x1.body) != x1.result)))] [.obj b2 (WI x1),.obj b1 (ZU n)] ?_ ?_
  ·refine dt (fuel:=10) 12 [3,4] [(1,.p b1 0),(3,.i k),(4,.p b2 0),(24,.b (decide ((Vl x1.body)<0)))] (db (b:=(decide ((Vl x1.body)<0))) 24 (fun hb1=>?_) (fun hb1=>?_))
   ·have hp1:(Vl x1.body)<0:=(dq).1 hb1
    refine Zi (fuel:=0) 10 [5,6,7,8,9,10,11,12,13,14] (.n 34 (.b true) (.d (.k (.k .z)))) (de ?_)
    exact wk [0,0] (fw (fc (x:=.b true) (lb (by simp only [hb1];rfl)) fl))
   have hp2:¬((Vl x1.body)<0):=Zv dq hb1
   refine ZI (fuel:=3) 10 [5,6,7,8,9,11,12] (.n 25 (ZJ n) (.n 27 (Z1 x1.params) (.n 29 (Zx x1.body) (.n 32 (.i x1.result) (.k (.k (.k .z))))))) [1,0,0,0] [b1,b2,b2,b2] (Zm 10 (dc 10 [] [0] [b2] (Zjw n x1.params x1.body ob ob) ?_))
   rintro _ _ ⟨rfl,rfl⟩
   refine Zi (fuel:=0) 2 [13,14] (.n 34 (.b ((ZF n x1.params x1.body) != x1.result)) .r) (de ?_)
   exact wk [0,0] (fw (fc (x:=.b ((ZF n x1.params x1.body) != x1.result)) (lb (by simp only [hb1];rfl)) fl))
  refine ac ((decide ((Vl x1.body)<0))||((ZF n x1.params x1.body) != x1.result)) (p:=((Vl x1.body)<0)∨((ZF n x1.params x1.body)≠x1.result)) (Zz dq Zw) (fun hc3=>?_) (fun hc3=>?_)
  ·refine ar (ir 1 [(2,.b false)] (ie ?_))
   rw [Zu hx1] at c0_1
   exact Z5 (r2 [] [.b false] ⟨rfl,rfl⟩ (lb (by clear hx1;first|rfl|omega|grind [T9,Vm])))
  refine ak (az (ir 1 [(1,.p b1 0),(13,.i k)] (ia (((k+1:Nat):Int)) (((k:Int))+(1)) (Z0 1 (.n 3 (.i (k+1:Nat)) .r) (ie ?_)))))
  have hdr:=Zu hx1
  exact ⟨_,_,_,ob,⟨k+1,ob,(by rw [hdr] at c0_1;clear hdr hx1;grind [T9]),rfl,rfl,rfl⟩,(wk [1] (fr (fc (x:=.i (k+1:Nat)) li fl)))⟩
 refine ax 0 (ar (ir 1 [(2,.b true)] (ie ?_)))
 try rw [Ye (xs:=n.routines) (k:=k) om] at c0_1
 exact Z5 (r2 [] [.b true] ⟨rfl,rfl⟩ (lb (by first|rfl|omega|grind [T9,Vm])))
theorem Zy6 (op:Int) :Zd Tryz.prog 173 [.i op] [] (fun r h=>r=.b (VW op)/\h=[]):=by
 refine enter Tryz.func173 kr (n:=17) kr kr (ar (ir 1 [(0,.i op)] (ie (ar (YV 6 [(0,.i op),(8,.b ((op==6)||(op==9)))] [] ?_ (fun hj1=>?_))))))
 ·refine YV 10 [(0,.i op),(12,.b (((op==6)||(op==9))||(op==10)))] [] ?_ (fun hj2=>?_)
  ·refine YV 14 [(16,.b ((((op==6)||(op==9))||(op==10))||(op==11)))] [] ?_ (fun hj3=>?_)
   ·refine ir 1 [(2,.b ((((op==6)||(op==9))||(op==10))||(op==11)))] (ie ?_)
    exact Z5 (r2 [] [.b ((((op==6)||(op==9))||(op==10))||(op==11))] ⟨rfl,rfl⟩ (lb (by first|rfl|omega|grind [VW])))
   refine ir 1 [(0,.i op),(13,.b (((op==6)||(op==9))||(op==10)))] (ib (b:=(((op==6)||(op==9))||(op==10))) 13 (fun hb1=>?_) (fun hb1=>?_))
   ·have hp1:((op=6)∨(op=9))∨(op=10):=((Zz (Zz Ze Ze) Ze)).1 hb1
    refine ir 3 [(16,.b true)] ?_
    exact ZL (wk [] (fc (x:=.b true) (lb (by simp only [hb1];rfl)) fl)) hj3
   have hp2:¬(((op=6)∨(op=9))∨(op=10)):=Zv (Zz (Zz Ze Ze) Ze) hb1
   refine ir 3 [(16,.b (op==11))] ?_
   exact ZL (wk [] (fc (x:=.b (op==11)) (lb (by simp only [hb1];rfl)) fl)) hj3
  refine ir 1 [(0,.i op),(9,.b ((op==6)||(op==9)))] (ib (b:=((op==6)||(op==9))) 9 (fun hb2=>?_) (fun hb2=>?_))
  ·have hp3:(op=6)∨(op=9):=((Zz Ze Ze)).1 hb2
   refine ir 3 [(0,.i op),(12,.b true)] ?_
   exact ZL (wk [] (fr (fc (x:=.b true) (lb (by simp only [hb2];rfl)) fl))) hj2
  have hp4:¬((op=6)∨(op=9)):=Zv (Zz Ze Ze) hb2
  refine ir 3 [(0,.i op),(12,.b (op==10))] ?_
  exact ZL (wk [] (fr (fc (x:=.b (op==10)) (lb (by simp only [hb2];rfl)) fl))) hj2
 refine ir 3 [(0,.i op),(5,.b (op==6))] (ib (b:=(op==6)) 5 (fun hb3=>?_) (fun hb3=>?_))
 ·have hp5:op=6:=(Ze).1 hb3
  refine ir 3 [(0,.i op),(8,.b true)] ?_
  exact ZL (wk [] (fr (fc (x:=.b true) (lb (by simp only [hb3];rfl)) fl))) hj1
 have hp6:¬(op=6):=Zv Ze hb3
 refine ir 3 [(0,.i op),(8,.b (op==9))] ?_
 exact ZL (wk [] (fr (fc (x:=.b (op==9)) (lb (by simp only [hb3];rfl)) fl))) hj1
theorem Zjz (n:Normal) (s:Step) (i:Nat) (hn:NOk n:=by exact ob) (hnum:s.op=9->0<=s.num/\s.num<n.routines.length:=by exact ob):Zd Tryz.prog 163 [ZJ n,ZN s,.i i] [] (fun r h=>r=.b (W4 n s.op s.num i)/\h=[]):=by
 refine enter Tryz.func163 kr (n:=21) kr kr (ar (iA (ZU n) ?_))
 intro b1
 refine iA (ZE s) ?_
 intro b2
 refine ir 1 [(2,.i i),(3,.p b1 0),(4,.p b2 0)] (ie (ar (Za 4 (.n 10 (.b (s.op==9)) .r) [0] [b2] (ib (b:=(s.op==9)) 10 (fun hb1=>?_) (fun hb1=>?_)))))
 ·have hp1:s.op=9:=(Ze).1 hb1
  refine Za 4 (.n 12 (Yh n.routines) (.n 14 (.i s.num) (.k (.d .r)))) [1,0] [b1,b2] ?_
  obtain ⟨x1,hx1⟩:=Zl (xs:=n.routines) (j:=s.num.toNat) om
  have hlt:=hn.lent_at hx1
  have hlr:=Zu2 (n:=n) hp1 hx1
  refine Zf (Zj (es:=WD n.routines) (hv:=none) (j:=s.num) (sz:=5) (y:=Xc x1) kr om (VX hx1) rfl) (Z0 3 (.n 17 (Z1 x1.lent) (.n 18 (.i i) .r)) (ic [] (Zaz x1.lent (i:Int)) ?_))
  rintro _ _ ⟨rfl,rfl⟩
  refine ir 2 [(6,.b (decide ((i:Int)∈x1.lent)))] (ie ?_)
  exact Z5 (r2 [] [.b (decide ((i:Int)∈x1.lent))] ⟨rfl,rfl⟩ (lb (by rw [W4,hlr])))
 have hp2:¬(s.op=9):=Zv Ze hb1
 refine ir 11 [(6,.b false)] (ie ?_)
 exact Z5 (r2 [] [.b false] ⟨rfl,rfl⟩ (lb (by rw [W4,JW,Z4 hp2];simp)))
theorem Zyg (n:Normal) (us:List Int) (s:Step) (i:Nat) (a:Int) (hn:NOk n:=by exact ob) (hnum:s.op=9->0<=s.num/\s.num<n.routines.length:=by exact ob) (ha:s.args[i]? = some a:=by exact ob) (hi:0<=a/\a<us.length:=by exact ob):Zd Tryz.prog 162 [ZJ n,Z1 us,ZN s,.i i] [] (fun r h=>r=.b (Uv n us s.op s.num a i)/\h=[]):=by
 have hal:=(Yg.1 ha).1
 refine enter Tryz.func162 kr (n:=30) kr kr (ar (iA (ZU n) ?_))
 intro b1
 refine iA (ZE s) ?_
 intro b2
 refine ir 1 [(1,Z1 us),(3,.i i),(4,.p b1 0),(6,.p b2 0)] (ie (ar (Za 2 (.n 10 (.i s.op) .r) [0] [b2] (ic [] (Zy6 s.op) ?_))))
 rintro _ _ ⟨rfl,rfl⟩
 refine Z0 1 (.n 12 (.b (VW s.op)) .r) (ib (b:=VW s.op) 12 (fun hb1=>?_) (fun hb1=>?_))
 ·have hp1:VW s.op=true:=(Iff.rfl).1 hb1
  refine Za 4 (.n 13 (Z1 us) (.n 15 (Z1 s.args) (.n 16 (.i i) (.k (.d .r))))) [0] [b2] ?_
  obtain ⟨x1,hx1⟩:=Zl (xs:=s.args) (j:=i) om
  have hxa:x1=a:=by rw [ha] at hx1;exact (U6 hx1).symm
  subst hxa
  refine Zf (Zj (es:=Z6 s.args) (hv:=none) (j:=(i:Int)) (sz:=1) (y:=.i x1) kr om (ZH hx1) rfl) (Z0 1 (.n 18 (.i x1) .r) ?_)
  obtain ⟨x2,hx2⟩:=Zl (xs:=us) (j:=x1.toNat) om
  have hga:=XR hx2
  refine Zf (Zj (es:=Z6 us) (hv:=none) (j:=x1) (sz:=1) (y:=.i x2) kr om (ZH hx2) rfl) (Z0 4 (.n 23 (.b (x2 != 0)) .r) (ib (b:=(x2 != 0)) 23 (fun hb2=>?_) (fun hb2=>?_)))
  ·have hp2:x2≠0:=(Zw).1 hb2
   refine iR 3 [(23,.b true),(24,ZJ n),(25,ZN s),(26,.i i)] [1,0] [b1,b2] (ic [] (Zjz n s i) ?_)
   rintro _ _ ⟨rfl,rfl⟩
   refine ir 3 [(8,.b (!W4 n s.op s.num i))] (ie ?_)
   exact Z5 (r2 [] [.b (!W4 n s.op s.num i)] ⟨rfl,rfl⟩ (lb (by clear hx1 hx2;first|rfl|(rw [Uv];grind))))
  have hp3:¬(x2≠0):=Zv Zw hb2
  refine ir 7 [(8,.b false)] (ie ?_)
  exact Z5 (r2 [] [.b false] ⟨rfl,rfl⟩ (lb (by clear hx1 hx2;first|rfl|(rw [Uv];grind))))
 have hp4:¬(VW s.op=true):=Zv Iff.rfl hb1
 refine ir 18 [(8,.b false)] (ie ?_)
 exact Z5 (r2 [] [.b false] ⟨rfl,rfl⟩ (lb (by  first|rfl|(rw [Uv];grind))))
theorem Zk1 (xs:List Int) (ys:List Int) (hl_xs:xs.length<=4294967296:=by exact ob) (hl_ys:ys.length<=4294967296:=by exact ob):Zd Tryz.prog 161 [Z1 xs,Z1 ys] [] (fun r h=>r=.b (decide (xs=ys))/\h=[]):=by
 refine enter Tryz.func161 kr (n:=26) kr kr (ar (ir 1 [(0,Z1 xs),(1,Z1 ys)] (ie (aq (ar (Z0 1 (.n 6 (Z1 xs) .r) (iw (ZD xs) (Z0 1 (.n 8 (Z1 ys) .r) (iw (ZD ys) (Z0 1 (.n 10 (.b ((xs.length:Int) != (ys.length:Int))) .r) (ie (ac ((xs.length:Int) != (ys.length:Int)) Zw (fun hc1=>?_) (fun hc1=>?_)))))))))))))
 ·refine ar (ir 1 [(4,.b false)] (ie ?_))
  exact Z5 (r2 [] [.b false] ⟨rfl,rfl⟩ (lb (eq_comm.1 (decide_eq_false (fun q=>by rw [q] at hc1;exact hc1 rfl)))))
 refine ak (aq (ar (Z0 1 (.n 5 (.i 0) .r) (ie (ab 0 (al (fun m F h=>∃(k:Nat),(k<=xs.length)/\(xs.take k=ys.take k)/\F=[(0,Z1 xs),(1,Z1 ys),(5,.i k)]/\h=[]/\m=xs.length-k) _ _ _ ⟨0,ob,ob,rfl,rfl,rfl⟩ (wk [] (fw (fc (x:=.i 0) li fl))) ?_))))))
 rintro m F h ⟨k,c0_0,c0_1,rfl,rfl,rfl⟩
 refine aq (ar (Z0 2 (.n 11 (.i k) (.n 12 (Z1 xs) .r)) (iw (ZD xs) (Z0 1 (.n 14 (.b (decide ((k:Int)<(xs.length:Int)))) .r) (ie (ac (decide ((k:Int)<(xs.length:Int))) dq (fun hc2=>?_) (fun hc2=>?_)))))))
 ·refine ak (aq (ab 1 (aD 9 (Zi (fuel:=7) 9 [0,1] (.n 17 (Z1 xs) (.n 18 (.i k) .r)) ?_))))
  obtain ⟨x1,hx1⟩:=Zl (xs:=xs) (j:=k) om
  refine dx 2 (Zj (es:=Z6 xs) (hv:=none) (j:=(k:Int)) (sz:=1) (y:=.i x1) kr om (ZH hx1) rfl) (Zi (fuel:=3) 6 [3,4,5] (.n 20 (.i x1) (.n 21 (Z1 ys) (.n 22 (.i k) .r))) ?_)
  obtain ⟨x2,hx2⟩:=Zl (xs:=ys) (j:=k) om
  refine dx 6 (Zj (es:=Z6 ys) (hv:=none) (j:=(k:Int)) (sz:=1) (y:=.i x2) kr om (ZH hx2) rfl) (Zi (fuel:=0) 2 [7,8] (.n 25 (.b (x1 != x2)) .r) (de (ac (x1 != x2) Zw (fun hc3=>?_) (fun hc3=>?_))))
  ·refine ar (ir 1 [(4,.b false)] (ie ?_))
   exact Z5 (r2 [] [.b false] ⟨rfl,rfl⟩ (lb (eq_comm.1 (decide_eq_false (fun q=>by subst q;rw [hx1] at hx2;cases hx2;exact hc3 rfl)))))
  refine ak (az (Z0 1 (.n 15 (.i k) .r) (ia (((k+1:Nat):Int)) (((k:Int))+(1)) (ir 1 [(0,Z1 xs),(1,Z1 ys),(5,.i (k+1:Nat))] (ie ?_)))))
  have hdr:=Zu hx1
  exact ⟨_,_,_,ob,⟨k+1,ob,(by rw [V3 hx1,V3 hx2,c0_1];have hxx:x1=x2:=om;rw [hxx]),rfl,rfl,rfl⟩,(wk [] (fw (fc (x:=.i (k+1:Nat)) li fl)))⟩
 refine ax 0 (ar (ir 1 [(4,.b true)] (ie ?_)))
 exact Z5 (r2 [] [.b true] ⟨rfl,rfl⟩ (lb (eq_comm.1 (decide_eq_true (by rw [W7 om,W7 om] at c0_1;exact c0_1)))))
theorem Z01 (xs:List Int) (hlen:xs.length<=4294967296:=by exact ob):Zd Tryz.prog 41 [Z1 xs] [] (fun r h=>∃(v:Hd),r=.h v/\h=[rV v xs]):=by
 refine enter Tryz.func41 kr (n:=6) kr kr (ar (ir 1 [(0,Z1 xs)] (ie (ar (iVL [] 0 ?_)))))
 intro v1
 refine Z0 1 (.n 4 (Z1 xs) .r) (Q0 0 v1 [] xs none ?_)
 intro v2
 refine ir 1 [(2,.h v2)] (ie ?_)
 exact Z5 (r1 [0] ⟨v2,rfl,rfl⟩ (eq:=(rv (xs:=([]++xs)) ob rz)))
theorem Tw (b:Nat) (ga:Hd) (gb:Hd) (gc:Hd) (gd:Hd) (ge:Hd) (gf:Hd) (L:Led) (ln:List Int) (t:Int) (o:Int) (p:Int) (hlb:L.vars.length<=1000000000:=by exact ob) (hlk:LLen L:=by exact ob):Zd Tryz.prog 108 [.p b 0,.i t,.i o,.i p] [.obj b [.h ga,.h gb,.h gc,.h gd,.h ge,.h gf,Z1 ln],rV ga L.vars,rV gb L.own,rV gc L.par,rV gd L.con,rV ge L.fst,rV gf L.tok] (fun r h=>∃(wa:Hd) (wb:Hd) (wc:Hd) (wd:Hd) (we:Hd) (wf:Hd),h=[.obj b [.h wa,.h wb,.h wc,.h wd,.h we,.h wf,Z1 ln],rV wa ((L.grow t o p).vars),rV wb ((L.grow t o p).own),rV wc ((L.grow t o p).par),rV wd ((L.grow t o p).con),rV we ((L.grow t o p).fst),rV wf ((L.grow t o p).tok)]):=by
 obtain ⟨e1,e2,e3,e4,e5⟩:=hlk
 refine enter Tryz.func108 kr (n:=65) kr kr (ar (iR 6 [(0,.p b 0),(2,.i o),(3,.i p),(8,.p b 0),(12,.h ga),(13,.i t)] [0] [b] (iL (Z6 [t]) 1 1 ?_)))
 intro v1
 refine Z0 0 (.n 14 (Z1 [t]) (.p .r)) (Q0 2 ga L.vars [t] none ?_)
 intro v2
 refine Z0 2 (.n 17 (.p b 0) .r) (iS 2 b 0 [.h v2] [.h ga,.h gb,.h gc,.h gd,.h ge,.h gf,Z1 ln] [.h v2,.h gb,.h gc,.h gd,.h ge,.h gf,Z1 ln] (ie (ar (Za 6 (.n 18 (.p b 0) (.n 22 (.h gb) (.n 23 (.i o) .r))) [0] [b] (iL (Z6 [o]) 1 1 ?_)))))
 intro v3
 refine Z0 0 (.n 24 (Z1 [o]) (.p .r)) (Q0 4 gb L.own [o] none ?_)
 intro v4
 refine Z0 2 (.n 27 (.p b 1) .r) (iS 2 b 1 [.h v4] [.h v2,.h gb,.h gc,.h gd,.h ge,.h gf,Z1 ln] [.h v2,.h v4,.h gc,.h gd,.h ge,.h gf,Z1 ln] (ie (ar (Za 6 (.n 28 (.p b 0) (.n 32 (.h gc) (.n 33 (.i p) .r))) [0] [b] (iL (Z6 [p]) 1 1 ?_)))))
 intro v5
 refine Z0 0 (.n 34 (Z1 [p]) (.p .r)) (Q0 6 gc L.par [p] none ?_)
 intro v6
 refine Z0 2 (.n 37 (.p b 2) .r) (iS 2 b 2 [.h v6] [.h v2,.h v4,.h gc,.h gd,.h ge,.h gf,Z1 ln] [.h v2,.h v4,.h v6,.h gd,.h ge,.h gf,Z1 ln] (ie (ar (Za 5 (.n 38 (.p b 0) (.n 42 (.h gd) .r)) [0] [b] (iL (Z6 [-1]) 1 1 ?_)))))
 intro v7
 refine Z0 0 (.n 43 (Z1 [-1]) (.p .r)) (Q0 8 gd L.con [-1] none ?_)
 intro v8
 refine Z0 2 (.n 46 (.p b 3) .r) (iS 2 b 3 [.h v8] [.h v2,.h v4,.h v6,.h gd,.h ge,.h gf,Z1 ln] [.h v2,.h v4,.h v6,.h v8,.h ge,.h gf,Z1 ln] (ie (ar (Za 5 (.n 47 (.p b 0) (.n 51 (.h ge) .r)) [0] [b] (iL (Z6 [-1]) 1 1 ?_)))))
 intro v9
 refine Z0 0 (.n 52 (Z1 [-1]) (.p .r)) (Q0 10 ge L.fst [-1] none ?_)
 intro v10
 refine Z0 2 (.n 55 (.p b 4) .r) (iS 2 b 4 [.h v10] [.h v2,.h v4,.h v6,.h v8,.h ge,.h gf,Z1 ln] [.h v2,.h v4,.h v6,.h v8,.h v10,.h gf,Z1 ln] (ie (az (iR 5 [(56,.p b 0),(60,.h gf)] [0] [b] (iL (Z6 [-1]) 1 1 ?_)))))
 intro v11
 refine Z0 0 (.n 61 (Z1 [-1]) (.p .r)) (Q0 12 gf L.tok [-1] none ?_)
 intro v12
 refine Z0 2 (.n 64 (.p b 5) .r) (iS 2 b 5 [.h v12] [.h v2,.h v4,.h v6,.h v8,.h v10,.h gf,Z1 ln] [.h v2,.h v4,.h v6,.h v8,.h v10,.h v12,Z1 ln] (ie ?_))
 exact r2 [0,10,8,6,4,2,0] [] ⟨v2,v4,v6,v8,v10,v12,rfl⟩ (lr _) (eq:=(rc (rv (xs:=(L.vars++[t])) ob (rv (xs:=(L.own++[o])) ob (rv (xs:=(L.par++[p])) ob (rv (xs:=(L.con++[-1])) ob (rv (xs:=(L.fst++[-1])) ob (rv (xs:=(L.tok++[-1])) ob rz))))))))
theorem Zts (b:Nat) (ga:Hd) (gb:Hd) (gc:Hd) (gd:Hd) (ge:Hd) (gf:Hd) (L:Led) (ln:List Int) (hlb:L.vars.length<=1000000000:=by exact ob) (hlk:LLen L:=by exact ob) (hln:ln.length<=4294967296:=by exact ob):Zd Tryz.prog 172 [.p b 0] [.obj b [.h ga,.h gb,.h gc,.h gd,.h ge,.h gf,Z1 ln],rV ga L.vars,rV gb L.own,rV gc L.par,rV gd L.con,rV ge L.fst,rV gf L.tok] (fun r h=>∃(c:Nat) (wa:Hd) (wb:Hd) (wc:Hd) (wd:Hd) (we:Hd) (wf:Hd),r=.p c 0/\h=[.obj c [.h wa,.h wb,.h wc,.h wd,.h we,.h wf,Z1 ln],rV wa L.vars,rV wb L.own,rV wc L.par,rV wd L.con,rV we L.fst,rV wf L.tok,.obj b [.h ga,.h gb,.h gc,.h gd,.h ge,.h gf,Z1 ln],rV ga L.vars,rV gb L.own,rV gc L.par,rV gd L.con,rV ge L.fst,rV gf L.tok]):=by
 obtain ⟨e1,e2,e3,e4,e5⟩:=hlk
 refine enter Tryz.func172 kr (n:=40) kr kr (ar (ir 1 [(0,.p b 0)] (ie (aD 38 (dT (fuel:=10) 38 [0,1,2,3,5,6,7,8,10,11,12,13,15,16,17,18,20,21,22,23,25,26,27,28,30,31,32,33] [(6,.h ga),(11,.h gb),(16,.h gc),(21,.h gd),(26,.h ge),(31,.h gf),(36,Z1 ln)] [0,0,0,0,0,0,0] [b,b,b,b,b,b,b] (Zm 4 (Vs 4 [1] [0,0,0,0,0,0] [b,b,b,b,b,b] [rV ga L.vars] (Z01 L.vars) Qm (gL (v:=ga) 0 gN) (WS Vx) ?_)))))))
 rintro _ _ ⟨v1,rfl,rfl⟩
 refine Zm 9 (Vs 9 [3] [0,0,0,0,0] [b,b,b,b,b] [rV gb L.own] (Z01 L.own) Qm (gL (v:=gb) 0 gN) (WS Vx) ?_)
 rintro _ _ ⟨v2,rfl,rfl⟩
 refine Zm 14 (Vs 14 [5] [0,0,0,0] [b,b,b,b] [rV gc L.par] (Z01 L.par) Qm (gL (v:=gc) 0 gN) (WS Vx) ?_)
 rintro _ _ ⟨v3,rfl,rfl⟩
 refine Zm 19 (Vs 19 [7] [0,0,0] [b,b,b] [rV gd L.con] (Z01 L.con) Qm (gL (v:=gd) 0 gN) (WS Vx) ?_)
 rintro _ _ ⟨v4,rfl,rfl⟩
 refine Zm 24 (Vs 24 [9] [0,0] [b,b] [rV ge L.fst] (Z01 L.fst) Qm (gL (v:=ge) 0 gN) (WS Vx) ?_)
 rintro _ _ ⟨v5,rfl,rfl⟩
 refine Zm 29 (Vs 29 [11] [0] [b] [rV gf L.tok] (Z01 L.tok) Qm (gL (v:=gf) 0 gN) (WS Vx) ?_)
 rintro _ _ ⟨v6,rfl,rfl⟩
 refine Zm 34 (dc 34 [] [] [] (K3 ln) ?_)
 rintro _ _ ⟨v7,rfl,rfl⟩
 refine dt (fuel:=2) 3 [35] [(38,.agg [.h v1,.h v2,.h v3,.h v4,.h v5,.h v6,Z1 ln])] (Zm 36 (dA 36 [] [] [.h v1,.h v2,.h v3,.h v4,.h v5,.h v6,Z1 ln] ?_))
 intro b1
 refine dt (fuel:=0) 1 [37] [(2,.p b1 0)] (de ?_)
 exact Z5 (r1 [0,11,9,7,5,3,1,7,6,5,4,3,2,1] ⟨b1,v1,v2,v3,v4,v5,v6,rfl,rfl⟩)
theorem Z55 (b:Nat) (ga:Hd) (gb:Hd) (gc:Hd) (gd:Hd) (ge:Hd) (gf:Hd) (L:Led) (ln:List Int) (i:Int) (hlk:LLen L:=by exact ob) (hi:0<=i/\i<L.vars.length:=by exact ob) (hq:∀x∈L.own,0<=x/\x<=1000000000):Zd Tryz.prog 110 [.p b 0,.i i] [.obj b [.h ga,.h gb,.h gc,.h gd,.h ge,.h gf,Z1 ln],rV ga L.vars,rV gb L.own,rV gc L.par,rV gd L.con,rV ge L.fst,rV gf L.tok] (fun r h=>(∃(wa:Hd) (wb:Hd) (wc:Hd) (wd:Hd) (we:Hd) (wf:Hd) (L':Led),r=.b true/\h=[.obj b [.h wa,.h wb,.h wc,.h wd,.h we,.h wf,Z1 ln],rV wa L'.vars,rV wb L'.own,rV wc L'.par,rV wd L'.con,rV we L'.fst,rV wf L'.tok]/\Vd L i=some L')∨(r=.b false/\h=[]/\Vd L i=none)):=by
 obtain ⟨e1,e2,e3,e4,e5⟩:=hlk
 refine enter Tryz.func110 kr (n:=27) kr kr (ar (ir 1 [(0,.p b 0),(1,.i i)] (ie (aq (ar (Za 5 (.n 8 (.h gb) (.n 9 (.i i) .r)) [0] [b] (Zf (Xb 2 gb L.own i i.toNat (hq:=rfl)) ?_)))))))
 obtain ⟨x1,hx1⟩:=Zl (xs:=L.own) (j:=i.toNat) om
 have hxq:=hq _ (ZV hx1)
 have hgi:=XR hx1
 refine YR (WA 2 gb L.own i.toNat x1 hx1) (Z0 1 (.n 12 (.b (decide (x1<1))) .r) (ie (ac (decide (x1<1)) dq (fun hc1=>?_) (fun hc1=>?_))))
 ·refine ar (ir 1 [(4,.b false)] (ie ?_))
  exact Z5 (r1 [] (.inr ⟨rfl,rfl,(by rw [Vd,hgi,Z8 hc1])⟩))
 refine ak (aD 15 (dT (fuel:=5) 15 [0,1,2,3,4,5,6,7,8,9] [(16,.h gb),(17,.i i),(21,.h gb),(22,.i i)] [0,0] [b,b] (dx 10 (Xb 2 gb L.own i i.toNat (hq:=rfl)) (Qp 11 (WA 2 gb L.own i.toNat x1 hx1) (da 12 ((x1-1)) ((x1)-(1)) (dx 13 (Xb 2 gb L.own i i.toNat (hq:=rfl)) (Zm 14 (KP 14 2 [] [] gb L.own i.toNat (x1-1) (de (ar (ir 1 [(4,.b true)] (ie ?_))))))))))))
 exact Z5 (r1 [1,1,0,0,0,0,0] (.inl ⟨ga,gb,gc,gd,ge,gf,(Led.mk L.vars (L.own.set i.toNat (x1-1)) L.par L.con L.fst L.tok),rfl,rfl,(by rw [Vd,hgi,Z4 hc1])⟩) (eq:=(rc (rv (xs:=L.vars) ob (rv (xs:=(L.own.set i.toNat (x1-1))) ob (rv (xs:=L.par) ob (rv (xs:=L.con) ob (rv (xs:=L.fst) ob (rv (xs:=L.tok) ob rz)))))))))
theorem Z92 (b:Nat) (ga:Hd) (gb:Hd) (gc:Hd) (gd:Hd) (ge:Hd) (gf:Hd) (L:Led) (ln:List Int) (i:Int) (hlk:LLen L:=by exact ob) (hln:ln.length<=4294967296:=by exact ob) (hi:0<=i/\i<L.vars.length:=by exact ob) (hd:∀j:Int,0<=j->j<L.vars.length->gI L.par j<j):Zd Tryz.prog 141 [.p b 0,.i i] [.obj b [.h ga,.h gb,.h gc,.h gd,.h ge,.h gf,Z1 ln],rV ga L.vars,rV gb L.own,rV gc L.par,rV gd L.con,rV ge L.fst,rV gf L.tok] (fun r h=>r=.b (YG L ln i)/\h=[.obj b [.h ga,.h gb,.h gc,.h gd,.h ge,.h gf,Z1 ln],rV ga L.vars,rV gb L.own,rV gc L.par,rV gd L.con,rV ge L.fst,rV gf L.tok]):=by
 obtain ⟨e1,e2,e3,e4,e5⟩:=hlk
 refine enter Tryz.func141 kr (n:=31) kr kr (ar (ir 1 [(0,.p b 0),(1,.i i)] (ie (aq (ab 0 (al (fun m F h=>∃(j:Int),(0<=j/\j<L.vars.length)/\(T0 L.own L.par ln (j.toNat+1) j=YG L ln i)/\F=[(0,.p b 0),(1,.i j)]/\h=[.obj b [.h ga,.h gb,.h gc,.h gd,.h ge,.h gf,Z1 ln],rV ga L.vars,rV gb L.own,rV gc L.par,rV gd L.con,rV ge L.fst,rV gf L.tok]/\m=j.toNat) _ _ _ ⟨i,ob,ob,rfl,rfl,rfl⟩ (wk [0,0,0,0,0,0,0] fl) ?_))))))
 rintro m F h ⟨j,c0_0,c0_1,rfl,rfl,rfl⟩
 refine aq (ar (Za 5 (.n 8 (.h gb) (.n 9 (.i j) .r)) [0] [b] (Zf (Xb 2 gb L.own j j.toNat (hq:=rfl)) ?_)))
 obtain ⟨x1,hx1⟩:=Zl (xs:=L.own) (j:=j.toNat) om
 have hg1:=XR hx1
 refine YR (WA 2 gb L.own j.toNat x1 hx1) (Xl [(0,.p b 0),(1,.i j),(21,.b ((decide (x1<1))&&(!(decide (j∈ln)))))] [.obj b [.h ga,.h gb,.h gc,.h gd,.h ge,.h gf,Z1 ln],rV ga L.vars,rV gb L.own,rV gc L.par,rV gd L.con,rV ge L.fst,rV gf L.tok] ?_ ?_)
 ·refine ir 2 [(0,.p b 0),(1,.i j),(13,.b (decide (x1<1)))] (ib (b:=(decide (x1<1))) 13 (fun hb1=>?_) (fun hb1=>?_))
  ·have hp1:x1<1:=(dq).1 hb1
   refine Za 5 (.n 17 (Z1 ln) (.n 18 (.i j) (.k (.k (.k .z))))) [0] [b] (ic [] (Zaz ln j) ?_)
   rintro _ _ ⟨rfl,rfl⟩
   refine Z0 2 (.n 21 (.b (!(decide (j∈ln)))) .r) (ie ?_)
   exact wk [0,0,0,0,0,0,0] (fw (fc (x:=.b (!(decide (j∈ln)))) (lb (by simp only [hb1];rfl)) fl))
  have hp2:¬(x1<1):=Zv dq hb1
  refine Z0 8 (.n 21 (.b false) (.d (.k (.k .z)))) (ie ?_)
  exact wk [0,0,0,0,0,0,0] (fw (fc (x:=.b false) (lb (by simp only [hb1];rfl)) fl))
 refine ac ((decide (x1<1))&&(!(decide (j∈ln)))) (p:=(x1<1)/\(¬(j∈ln))) (ZZ dq (ZP dq)) (fun hc1=>?_) (fun hc1=>?_)
 ·refine ak (ab 1 (ar (iR 5 [(0,.p b 0),(25,.h gc),(26,.i j)] [0] [b] (Zf (Xb 3 gc L.par j j.toNat (hq:=rfl)) ?_))))
  obtain ⟨x2,hx2⟩:=Zl (xs:=L.par) (j:=j.toNat) om
  have hg2:=XR hx2
  have hdj:=hd j om om
  rw [hg2] at hdj
  refine YR (WA 3 gc L.par j.toNat x2 hx2) (Z0 1 (.n 1 (.i x2) .r) (ie (ar (Z0 2 (.n 30 (.b (decide (x2<0))) .r) (ie (ac (decide (x2<0)) dq (fun hc2=>?_) (fun hc2=>?_)))))))
  ·refine ar (ir 1 [(4,.b false)] (ie ?_))
   exact Z5 (r2 [0,0,0,0,0,0,0] [.b false] ⟨rfl,rfl⟩ (lb (Zci hg1 hg2 hc1 hc2 c0_1)))
  refine ak ?_
  exact ⟨_,_,_,ob,⟨x2,om,(Zcj hg1 hg2 c0_0 hc1 hc2 hd c0_1),rfl,rfl,rfl⟩,(wk [0,0,0,0,0,0,0] fl)⟩
 refine ax 0 (ar (ir 1 [(4,.b true)] (ie ?_)))
 exact Z5 (r2 [0,0,0,0,0,0,0] [.b true] ⟨rfl,rfl⟩ (lb (Zck hg1 hc1 c0_1)))
theorem Z93 (b:Nat) (ga:Hd) (gb:Hd) (gc:Hd) (gd:Hd) (ge:Hd) (gf:Hd) (L:Led) (ln:List Int) (mm:Nat) (hlk:LLen L:=by exact ob) (hlb:L.vars.length<=1000000000:=by exact ob) (hm:mm<=L.vars.length:=by exact ob):Zd Tryz.prog 73 [.p b 0,.i mm] [.obj b [.h ga,.h gb,.h gc,.h gd,.h ge,.h gf,Z1 ln],rV ga L.vars,rV gb L.own,rV gc L.par,rV gd L.con,rV ge L.fst,rV gf L.tok] (fun r h=>(∃(wa:Hd) (wb:Hd) (wc:Hd) (wd:Hd) (we:Hd) (wf:Hd) (L':Led),r=.b true/\h=[.obj b [.h wa,.h wb,.h wc,.h wd,.h we,.h wf,Z1 ln],rV wa L'.vars,rV wb L'.own,rV wc L'.par,rV wd L'.con,rV we L'.fst,rV wf L'.tok]/\V7 L mm=some L')∨(r=.b false/\h=[]/\V7 L mm=none)):=by
 obtain ⟨e1,e2,e3,e4,e5⟩:=hlk
 refine enter Tryz.func73 kr (n:=88) kr kr (ar (ir 1 [(0,.p b 0),(1,.i mm)] (ie (aq (ar (Z0 2 (.n 5 (.i mm) .r) (ie (ab 0 (al (fun m F h=>∃(k:Nat),(mm<=k/\k<=L.vars.length)/\(XD (L.own.drop k) (L.tok.drop k)=XD (L.own.drop mm) (L.tok.drop mm))/\F=[(0,.p b 0),(1,.i mm),(5,.i k)]/\h=[.obj b [.h ga,.h gb,.h gc,.h gd,.h ge,.h gf,Z1 ln],rV ga L.vars,rV gb L.own,rV gc L.par,rV gd L.con,rV ge L.fst,rV gf L.tok]/\m=L.vars.length-k) _ _ _ ⟨mm,ob,ob,rfl,rfl,rfl⟩ (wk [0,0,0,0,0,0,0] fl) ?_)))))))))
 rintro m F h ⟨k,c0_0,c0_1,rfl,rfl,rfl⟩
 refine aq (ar (Za 5 (.n 7 (.i k) (.n 11 (.h ga) .r)) [0] [b] (Zf (Z04 1 ga L.vars) (Z0 1 (.n 13 (.b (decide ((k:Int)<(L.vars.length:Int)))) .r) (ie (ac (decide ((k:Int)<(L.vars.length:Int))) dq (fun hc1=>?_) (fun hc1=>?_)))))))
 ·refine ak (aq (ab 1 (ar (Za 5 (.n 19 (.h gb) (.n 20 (.i k) .r)) [0] [b] (Zf (Xb 2 gb L.own (k:Int) k) ?_)))))
  obtain ⟨x1,hx1⟩:=Zl (xs:=L.own) (j:=k) om
  refine YR (WA 2 gb L.own k x1 hx1) (Z0 2 (.n 24 (.b (x1 != 0)) .r) (ib (b:=(x1 != 0)) 24 (fun hb1=>?_) (fun hb1=>?_)))
  ·have hp1:x1≠0:=(Zw).1 hb1
   refine Z0 9 (.n 33 (.b true) (.k (.d .r))) (ie (X8 (ar (ir 1 [(4,.b false)] (ie ?_)))))
   obtain ⟨y2,hy2⟩:=Zl (xs:=L.tok) (j:=k) om
   exact Z5 (r1 [] (.inr ⟨rfl,rfl,(by rw [V7,<-c0_1,Zu hx1,Zu hy2,XD,Z8 (show x1≠0∨0<=y2 by omega)];rfl)⟩))
  have hp2:¬(x1≠0):=Zv Zw hb1
  refine Za 5 (.n 28 (.h gf) (.n 29 (.i k) (.k (.d .r)))) [0] [b] (Zf (Xb 6 gf L.tok (k:Int) k) ?_)
  obtain ⟨x2,hx2⟩:=Zl (xs:=L.tok) (j:=k) om
  refine YR (WA 6 gf L.tok k x2 hx2) (Z0 2 (.n 33 (.b (decide (x2>=0))) .r) (ie (ac (decide (x2>=0)) dq (fun hc2=>?_) (fun hc2=>?_))))
  ·refine ar (ir 1 [(4,.b false)] (ie ?_))
   exact Z5 (r1 [] (.inr ⟨rfl,rfl,(by rw [V7,<-c0_1,Zu hx1,Zu hx2,XD,Z8 (show x1≠0∨0<=x2 by omega)];rfl)⟩))
  refine ak (az (Z0 1 (.n 14 (.i k) .r) (ia (((k+1:Nat):Int)) (((k:Int))+(1)) (ir 1 [(0,.p b 0),(1,.i mm),(5,.i (k+1:Nat))] (ie ?_)))))
  exact ⟨_,_,_,ob,⟨k+1,ob,(by rw [Zu hx1,Zu hx2,XD,Z4 om] at c0_1;exact c0_1),rfl,rfl,rfl⟩,(wk [0,0,0,0,0,0,0] (fw (fc (x:=.i (k+1:Nat)) li fl)))⟩
 refine ax 0 (ar (Za 6 (.n 34 (.p b 0) (.n 38 (.h ga) (.n 39 (.i mm) .r))) [0] [b] (Zf (Td 1 ga L.vars mm) (Z0 2 (.n 42 (.p b 0) .r) (WR (Z03 1 mm ga L.vars) (iS 1 b 0 [.h (ga.cut mm)] [.h ga,.h gb,.h gc,.h gd,.h ge,.h gf,Z1 ln] [.h (ga.cut mm),.h gb,.h gc,.h gd,.h ge,.h gf,Z1 ln] (ie (ar (Za 6 (.n 43 (.p b 0) (.n 47 (.h gb) (.n 48 (.i mm) .r))) [0] [b] (Zf (Td 2 gb L.own mm) (Z0 2 (.n 51 (.p b 1) .r) (WR (Z03 2 mm gb L.own) (iS 1 b 1 [.h (gb.cut mm)] [.h (ga.cut mm),.h gb,.h gc,.h gd,.h ge,.h gf,Z1 ln] [.h (ga.cut mm),.h (gb.cut mm),.h gc,.h gd,.h ge,.h gf,Z1 ln] (ie (ar (Za 6 (.n 52 (.p b 0) (.n 56 (.h gc) (.n 57 (.i mm) .r))) [0] [b] (Zf (Td 3 gc L.par mm) (Z0 2 (.n 60 (.p b 2) .r) (WR (Z03 3 mm gc L.par) (iS 1 b 2 [.h (gc.cut mm)] [.h (ga.cut mm),.h (gb.cut mm),.h gc,.h gd,.h ge,.h gf,Z1 ln] [.h (ga.cut mm),.h (gb.cut mm),.h (gc.cut mm),.h gd,.h ge,.h gf,Z1 ln] (ie (ar (Za 6 (.n 61 (.p b 0) (.n 65 (.h gd) (.n 66 (.i mm) .r))) [0] [b] (Zf (Td 4 gd L.con mm) (Z0 2 (.n 69 (.p b 3) .r) (WR (Z03 4 mm gd L.con) (iS 1 b 3 [.h (gd.cut mm)] [.h (ga.cut mm),.h (gb.cut mm),.h (gc.cut mm),.h gd,.h ge,.h gf,Z1 ln] [.h (ga.cut mm),.h (gb.cut mm),.h (gc.cut mm),.h (gd.cut mm),.h ge,.h gf,Z1 ln] (ie (ar (Za 6 (.n 70 (.p b 0) (.n 74 (.h ge) (.n 75 (.i mm) .r))) [0] [b] (Zf (Td 5 ge L.fst mm) (Z0 2 (.n 78 (.p b 4) .r) (WR (Z03 5 mm ge L.fst) (iS 1 b 4 [.h (ge.cut mm)] [.h (ga.cut mm),.h (gb.cut mm),.h (gc.cut mm),.h (gd.cut mm),.h ge,.h gf,Z1 ln] [.h (ga.cut mm),.h (gb.cut mm),.h (gc.cut mm),.h (gd.cut mm),.h (ge.cut mm),.h gf,Z1 ln] (ie (ar (iR 6 [(79,.p b 0),(83,.h gf),(84,.i mm)] [0] [b] (Zf (Td 6 gf L.tok mm) (Z0 2 (.n 87 (.p b 5) .r) (WR (Z03 6 mm gf L.tok) (iS 1 b 5 [.h (gf.cut mm)] [.h (ga.cut mm),.h (gb.cut mm),.h (gc.cut mm),.h (gd.cut mm),.h (ge.cut mm),.h gf,Z1 ln] [.h (ga.cut mm),.h (gb.cut mm),.h (gc.cut mm),.h (gd.cut mm),.h (ge.cut mm),.h (gf.cut mm),Z1 ln] (ie (ar (ir 1 [(4,.b true)] (ie ?_)))))))))))))))))))))))))))))))))))))))))))))
 exact Z5 (r1 [0,5,4,3,2,1,0] (.inl ⟨(ga.cut mm),(gb.cut mm),(gc.cut mm),(gd.cut mm),(ge.cut mm),(gf.cut mm),(Led.mk (L.vars.take mm) (L.own.take mm) (L.par.take mm) (L.con.take mm) (L.fst.take mm) (L.tok.take mm)),rfl,rfl,(by rw [V7,Z8 (by rw [<-c0_1,Ye om];rfl)];rfl)⟩) (eq:=(rc (rv (xs:=(L.vars.take mm)) ob (rv (xs:=(L.own.take mm)) ob (rv (xs:=(L.par.take mm)) ob (rv (xs:=(L.con.take mm)) ob (rv (xs:=(L.fst.take mm)) ob (rv (xs:=(L.tok.take mm)) ob rz)))))))))
theorem Ztu (b:Nat) (ga:Hd) (gb:Hd) (gc:Hd) (gd:Hd) (ge:Hd) (gf:Hd) (n:Normal) (s:Step) (L:Led) (ln:List Int) (q:Int) (x:Int) (hn:NOk n:=by exact ob) (hk:LOk n.decls L q:=by exact ob) (hlb:L.vars.length<=1000000000:=by exact ob) (ha:s.args[0]? = some x:=by exact ob) (hx:0<=x/\x<L.vars.length:=by exact ob) (hq:0<=q/\q<=999999990:=by exact ob):Zd Tryz.prog 142 [.p b 0,ZJ n,ZN s] [.obj b [.h ga,.h gb,.h gc,.h gd,.h ge,.h gf,Z1 ln],rV ga L.vars,rV gb L.own,rV gc L.par,rV gd L.con,rV ge L.fst,rV gf L.tok] (fun r h=>(∃(wa:Hd) (wb:Hd) (wc:Hd) (wd:Hd) (we:Hd) (wf:Hd) (L':Led),r=.b true/\h=[.obj b [.h wa,.h wb,.h wc,.h wd,.h we,.h wf,Z1 ln],rV wa L'.vars,rV wb L'.own,rV wc L'.par,rV wd L'.con,rV we L'.fst,rV wf L'.tok]/\UC n.decls L s.op x=some L')∨(r=.b false/\h=[]/\UC n.decls L s.op x=none)):=by
 obtain ⟨e1,e2,e3,e4,e5⟩:=hk.len
 have hdk:=hn.decls
 have hal:=(Yg.1 ha).1
 obtain ⟨xcon,hxcon⟩:=Zl (xs:=L.con) (j:=(x).toNat) om
 have hgcon:=XR hxcon
 obtain ⟨xtok,hxtok⟩:=Zl (xs:=L.tok) (j:=(x).toNat) om
 have hgtok:=XR hxtok
 obtain ⟨xfst,hxfst⟩:=Zl (xs:=L.fst) (j:=(x).toNat) om
 have hgfst:=XR hxfst
 have hfl:=VV hdk xcon
 have har:=hk.arm x om om
 rw [hgcon,hgfst] at har
 refine enter Tryz.func142 kr (n:=105) kr kr (ar (iA (ZU n) ?_))
 intro b1
 refine iA (ZE s) ?_
 intro b2
 refine ir 1 [(0,.p b 0),(4,.p b1 0),(5,.p b2 0)] (ie (ar (Za 2 (.n 11 (Z1 s.args) .r) [0] [b2] (Zf (Zj (es:=Z6 s.args) (hv:=none) (j:=0) (sz:=1) (y:=.i x) kr om (ZH ha) rfl) (Z0 2 (.n 7 (.i x) .r) (ie (aq (ar (Za 5 (.n 17 (.h gd) (.n 18 (.i x) .r)) [2] [b] (Zf (Xb 6 gd L.con x x.toNat (hq:=rfl)) (YR (WA 6 gd L.con x.toNat xcon hxcon) (YV 23 [(0,.p b 0),(4,.p b1 0),(5,.p b2 0),(7,.i x),(36,.b ((decide (xcon<0))||((s.op==17)&&(decide (xtok>=0)))))] [.obj b2 (ZE s),.obj b1 (ZU n),.obj b [.h ga,.h gb,.h gc,.h gd,.h ge,.h gf,Z1 ln],rV ga L.vars,rV gb L.own,rV gc L.par,rV gd L.con,rV ge L.fst,rV gf L.tok] ?_ (fun hj1=>?_)))))))))))))
 ·refine ir 1 [(0,.p b 0),(4,.p b1 0),(5,.p b2 0),(7,.i x),(37,.b ((decide (xcon<0))||((s.op==17)&&(decide (xtok>=0)))))] (ib (b:=((decide (xcon<0))||((s.op==17)&&(decide (xtok>=0))))) 37 (fun hb1=>?_) (fun hb1=>?_))
  ·have hp1:(xcon<0)∨((s.op=17)/\(xtok>=0)):=((Zz dq (ZZ Ze dq))).1 hb1
   refine Z0 5 (.n 42 (.b true) (.d (.w .z))) (ie (X8 (ar (ir 1 [(6,.b false)] (ie ?_)))))
   exact Z5 (r1 [] (.inr ⟨rfl,rfl,(by rw [UC,hgcon,hgtok,Z8 om])⟩))
  have hp2:¬((xcon<0)∨((s.op=17)/\(xtok>=0))):=Zv (Zz dq (ZZ Ze dq)) hb1
  refine Z0 2 (.n 38 (.p b 0) (.n 39 (.i x) (.w (.k .z)))) (ic [2,2,2,2,2,2,2] (Z55 b ga gb gc gd ge gf L ln x (hlk:=hk.len) (hq:=(fun y hy=>⟨hk.nn y hy,by have:=hk.bd y hy;omega⟩))) ?_)
  rintro _ _ (⟨wa1,wb1,wc1,wd1,we1,wf1,L'1,rfl,rfl,hp3⟩|⟨rfl,rfl,hp4⟩)
  ·obtain ⟨t1,t2,t3,t4,t5,t6,t7⟩:=Tb hp3
   have hk1:=hk.take hp3
   obtain ⟨f1,f2,f3,f4,f5⟩:=hk1.len
   have hxcon1:L'1.con[x.toNat]? = some xcon:=by rw [t4];exact hxcon
   have hvl:L'1.vars.length=L.vars.length:=by rw [t2]
   have har2:=har om
   have hxfst1:L'1.fst[x.toNat]? = some xfst:=by rw [t5];exact hxfst
   refine Z0 2 (.n 42 (.b false) .r) (ie (YA (ak (aD 11 (ZI (fuel:=4) 11 [0,1,2,3,4,5,6] (.n 44 (Z3 n.decls) (.n 48 (.h wd1) (.n 49 (.i x) .r))) [8,0] [b1,b] (dx 7 (Xb 4 wd1 L'1.con x x.toNat (hq:=rfl)) (Qp 8 (WA 4 wd1 L'1.con x.toNat xcon hxcon1) (Zm 9 (dc 9 [] [] [] (Z1b n.decls xcon) ?_)))))))))
   rintro _ _ ⟨rfl,rfl⟩
   refine Zi (fuel:=0) 1 [10] (.n 8 (Z1 (Zc n.decls xcon)) .r) (de (aq (ar (Z0 1 (.n 9 (.i 0) .r) (ie (ab 0 (al (fun m F h=>∃(k:Nat) (o:List Int),(k<=(Zc n.decls xcon).length)/\(o.length=L.vars.length)/\(∀y∈o,0<=y/\y<=q+k)/\(VF o (xfst+k) ((Zc n.decls xcon).drop k)=VF L'1.own xfst (Zc n.decls xcon))/\F=[(0,.p b 0),(5,.p b2 0),(7,.i x),(8,Z1 (Zc n.decls xcon)),(9,.i k)]/\h=[.obj b [.h wa1,.h wb1,.h wc1,.h wd1,.h we1,.h wf1,Z1 ln],rV wa1 L'1.vars,rV wb1 o,rV wc1 L'1.par,rV wd1 L'1.con,rV we1 L'1.fst,rV wf1 L'1.tok,.obj b2 (ZE s)]/\m=(Zc n.decls xcon).length-k) _ _ _ ⟨0,L'1.own,ob,om,(by intro y hy;have h1:=hk1.nn y hy;have h2:=hk1.bd y hy;omega),(by rw [show xfst+((0:Nat):Int)=xfst by omega,VR]),rfl,rfl,rfl⟩ (wk [0,0,0,0,0,0,0,0] (fq (fc (x:=.i 0) li fl))) ?_)))))))
   rintro m F h ⟨k,o,c0_0,c0_1,c0_2,c0_3,rfl,rfl,rfl⟩
   refine aq (ar (Z0 2 (.n 53 (.i k) (.n 54 (Z1 (Zc n.decls xcon)) .r)) (io (.i (((Zc n.decls xcon).length:Nat):Int)) (.i (((Z6 (Zc n.decls xcon)).length:Nat):Int)) (li (by rw [ZD])) (Z0 1 (.n 56 (.b (decide ((k:Int)<(((Zc n.decls xcon).length:Nat):Int)))) .r) (ie (ac (decide ((k:Int)<(((Zc n.decls xcon).length:Nat):Int))) dq (fun hc1=>?_) (fun hc1=>?_)))))))
   ·refine ak (aq (ab 1 (ar (Z0 2 (.n 59 (Z1 (Zc n.decls xcon)) (.n 60 (.i k) .r)) ?_))))
    obtain ⟨x1,hx1⟩:=Zl (xs:=Zc n.decls xcon) (j:=k) om
    refine Zf (Zj (es:=Z6 (Zc n.decls xcon)) (hv:=none) (j:=(k:Int)) (sz:=1) (y:=.i x1) kr om (ZH hx1) rfl) (Z0 2 (.n 63 (.b (x1 != 0)) .r) (ie (ac (x1 != 0) Zw (fun hc2=>?_) (fun hc2=>?_))))
    ·refine aE 31 (ZI (fuel:=22) 31 [0,1,2,3,4,5,6,7,8] (.n 67 (.h wb1) (.n 71 (.h we1) (.n 72 (.i x) .r))) [0,0] [b,b] (dx 9 (Xb 5 we1 L'1.fst x x.toNat (hq:=rfl)) (Qp 10 (WA 5 we1 L'1.fst x.toNat xfst hxfst1) (Zi (fuel:=19) 20 [11] (.n 75 (.i k) .r) (da 12 ((xfst+(k:Int))) ((xfst)+((k:Int))) (ZI (fuel:=9) 18 [13,14,15,16,17,18,19,20,21] (.n 80 (.h wb1) (.n 84 (.h we1) (.n 85 (.i x) .r))) [0,0] [b,b] (dx 22 (Xb 5 we1 L'1.fst x x.toNat (hq:=rfl)) (Qp 23 (WA 5 we1 L'1.fst x.toNat xfst hxfst1) (Zi (fuel:=6) 7 [24] (.n 88 (.i k) .r) (da 25 ((xfst+(k:Int))) ((xfst)+((k:Int))) (dx 26 (Xb 2 wb1 o (xfst+(k:Int)) ((xfst+(k:Int)).toNat) (hq:=rfl)) ?_)))))))))))
     obtain ⟨x2,hx2⟩:=Zl (xs:=o) (j:=((xfst+(k:Int)).toNat)) om
     have hy2:=c0_2 _ (ZV hx2)
     refine Qp 27 (WA 2 wb1 o ((xfst+(k:Int)).toNat) x2 hx2) (da 28 ((x2+1)) ((x2)+(1)) (dx 29 (Xb 2 wb1 o (xfst+(k:Int)) ((xfst+(k:Int)).toNat) (hq:=rfl)) (Zm 30 (KP 30 2 [] [] wb1 o ((xfst+(k:Int)).toNat) (x2+1) (de (az (Z0 1 (.n 57 (.i k) .r) (ia (((k+1:Nat):Int)) (((k:Int))+(1)) (ir 1 [(0,.p b 0),(5,.p b2 0),(7,.i x),(8,Z1 (Zc n.decls xcon)),(9,.i (k+1:Nat))] (ie ?_))))))))))
     exact ⟨_,_,_,ob,⟨k+1,(o.set (xfst+(k:Nat)).toNat (x2+1)),ob,ob,(by intro y hy;first|(rcases Ty hy with hy|rfl<;>first|(have:=c0_2 y hy;omega)|omega)|(have:=c0_2 y hy;omega)),(by rw [Zu hx1,VF] at c0_3;first|(rw [Z8 hc2,XR hx2] at c0_3;rw [show xfst+((k+1:Nat):Int)=xfst+k+1 by omega];exact c0_3)|(rw [Z4 hc2] at c0_3;rw [show xfst+((k+1:Nat):Int)=xfst+k+1 by omega];exact c0_3)),rfl,rfl,rfl⟩,(wk [1,1,0,0,0,0,0,0] (fq (fc (x:=.i (k+1:Nat)) li fl)) (e:=(rc (rc (rv (xs:=(o.set ((xfst+(k:Int)).toNat) (x2+1))) ob (rc (rc (rc (rc (rc rz))))))))))⟩
    refine ak (az (Z0 1 (.n 57 (.i k) .r) (ia (((k+1:Nat):Int)) (((k:Int))+(1)) (ir 1 [(0,.p b 0),(5,.p b2 0),(7,.i x),(8,Z1 (Zc n.decls xcon)),(9,.i (k+1:Nat))] (ie ?_)))))
    exact ⟨_,_,_,ob,⟨k+1,o,ob,ob,(by intro y hy;first|(rcases Ty hy with hy|rfl<;>first|(have:=c0_2 y hy;omega)|omega)|(have:=c0_2 y hy;omega)),(by rw [Zu hx1,VF] at c0_3;first|(rw [Z8 hc2,XR hx2] at c0_3;rw [show xfst+((k+1:Nat):Int)=xfst+k+1 by omega];exact c0_3)|(rw [Z4 hc2] at c0_3;rw [show xfst+((k+1:Nat):Int)=xfst+k+1 by omega];exact c0_3)),rfl,rfl,rfl⟩,(wk [0,0,0,0,0,0,0,0] (fq (fc (x:=.i (k+1:Nat)) li fl)))⟩
   refine ax 0 (aq (ar (Za 3 (.n 96 (.b (s.op==17)) .r) [7] [b2] (ie (ac (s.op==17) Ze (fun hc3=>?_) (fun hc3=>?_))))))
   ·refine az (iR 6 [(100,.h wf1),(101,.i x),(102,Z1 (Zc n.decls xcon))] [0] [b] (io (.i (((Zc n.decls xcon).length:Nat):Int)) (.i (((Z6 (Zc n.decls xcon)).length:Nat):Int)) (li (by rw [ZD])) (Zf (Xb 6 wf1 L'1.tok x x.toNat (hq:=rfl)) (iVS 6 wf1 L'1.tok x.toNat (((Zc n.decls xcon).length:Nat):Int) (ie (ar (ir 1 [(6,.b true)] (ie ?_))))))))
    have hof:o=VF L'1.own xfst (Zc n.decls xcon):=by rw [<-c0_3,Ye om];rfl
    exact Z5 (r1 [1,1,1,1,1,1,0] (.inl ⟨wa1,wb1,wc1,wd1,we1,wf1,(Led.mk L'1.vars o L'1.par L'1.con L'1.fst (L'1.tok.set x.toNat (((Zc n.decls xcon).length:Nat):Int))),rfl,rfl,(by rw [UC,hgcon,hgfst,hgtok,Z4 om,hp3,hof,t6];simp [hc3,t2,t3,t4,t5])⟩) (eq:=(rc (rv (xs:=L'1.vars) ob (rv (xs:=o) ob (rv (xs:=L'1.par) ob (rv (xs:=L'1.con) ob (rv (xs:=L'1.fst) ob (rv (xs:=(L'1.tok.set x.toNat (((Zc n.decls xcon).length:Nat):Int))) ob rz)))))))))
   refine ak (ar (ir 1 [(6,.b true)] (ie ?_)))
   have hof:o=VF L'1.own xfst (Zc n.decls xcon):=by rw [<-c0_3,Ye om];rfl
   exact Z5 (r1 [0,0,0,0,0,0,0] (.inl ⟨wa1,wb1,wc1,wd1,we1,wf1,(Led.mk L'1.vars o L'1.par L'1.con L'1.fst L'1.tok),rfl,rfl,(by rw [UC,hgcon,hgfst,hgtok,Z4 om,hp3,hof,t6];simp [hc3,t2,t3,t4,t5])⟩) (eq:=(rc (rv (xs:=L'1.vars) ob (rv (xs:=o) ob (rv (xs:=L'1.par) ob (rv (xs:=L'1.con) ob (rv (xs:=L'1.fst) ob (rv (xs:=L'1.tok) ob rz)))))))))
  refine Z0 2 (.n 42 (.b true) .r) (ie (X8 (ar (ir 1 [(6,.b false)] (ie ?_)))))
  exact Z5 (r1 [] (.inr ⟨rfl,rfl,(by rw [UC,hgcon,hgtok,Z4 om,hp4])⟩))
 refine ir 2 [(0,.p b 0),(4,.p b1 0),(5,.p b2 0),(7,.i x),(22,.b (decide (xcon<0)))] (ib (b:=(decide (xcon<0))) 22 (fun hb2=>?_) (fun hb2=>?_))
 ·have hp5:xcon<0:=(dq).1 hb2
  refine Z0 14 (.n 36 (.b true) (.d (.w .z))) ?_
  exact ZL (wk [0,0,0,0,0,0,0,0,0] (fq (fc (x:=.b true) (lb (by simp only [hb2];rfl)) fl))) hj1
 have hp6:¬(xcon<0):=Zv dq hb2
 refine Za 4 (.n 26 (.b (s.op==17)) (.w (.k .z))) [0] [b2] (ib (b:=(s.op==17)) 26 (fun hb3=>?_) (fun hb3=>?_))
 ·have hp7:s.op=17:=(Ze).1 hb3
  refine Za 5 (.n 30 (.h gf) (.n 31 (.i x) (.k (.d .r)))) [2] [b] (Zf (Xb 8 gf L.tok x x.toNat (hq:=rfl)) (YR (WA 8 gf L.tok x.toNat xtok hxtok) (Z0 3 (.n 36 (.b (decide (xtok>=0))) .r) ?_)))
  exact ZL (wk [0,0,0,0,0,0,0,0,0] (fq (fc (x:=.b (decide (xtok>=0))) (lb (by simp only [hb2,hb3];rfl)) fl))) hj1
 have hp8:¬(s.op=17):=Zv Ze hb3
 refine Z0 10 (.n 36 (.b false) (.k (.d .r))) ?_
 exact ZL (wk [0,0,0,0,0,0,0,0,0] (fq (fc (x:=.b false) (lb (by simp only [hb2,hb3];rfl)) fl))) hj1
theorem Ztt (b:Nat) (ga:Hd) (gb:Hd) (gc:Hd) (gd:Hd) (ge:Hd) (gf:Hd) (n:Normal) (s:Step) (L:Led) (ln:List Int) (q:Int) (hn:NOk n:=by exact ob) (hnum:s.op=9->0<=s.num/\s.num<n.routines.length:=by exact ob) (hk:LOk n.decls L q:=by exact ob) (hlb:L.vars.length<=1000000000:=by exact ob) (hargs:∀a∈s.args,0<=a/\a<L.vars.length) (hinto:0<s.into->s.into<=L.vars.length:=by exact ob) (hal:s.args.length<=1000000000:=by exact ob) (hln:ln.length<=4294967296:=by exact ob) (hq:0<=q/\q<=999999990:=by exact ob):Zd Tryz.prog 144 [.p b 0,ZJ n,ZN s] [.obj b [.h ga,.h gb,.h gc,.h gd,.h ge,.h gf,Z1 ln],rV ga L.vars,rV gb L.own,rV gc L.par,rV gd L.con,rV ge L.fst,rV gf L.tok] (fun r h=>(∃(wa:Hd) (wb:Hd) (wc:Hd) (wd:Hd) (we:Hd) (wf:Hd) (L':Led),r=.b true/\h=[.obj b [.h wa,.h wb,.h wc,.h wd,.h we,.h wf,Z1 ln],rV wa L'.vars,rV wb L'.own,rV wc L'.par,rV wd L'.con,rV we L'.fst,rV wf L'.tok]/\Vj n ln L s.op s.num s.into s.args=some L')∨(r=.b false/\h=[]/\Vj n ln L s.op s.num s.into s.args=none)):=by
 obtain ⟨e1,e2,e3,e4,e5⟩:=hk.len
 refine enter Tryz.func144 kr (n:=79) kr kr (ar (iA (ZU n) ?_))
 intro b1
 refine iA (ZE s) ?_
 intro b2
 refine ir 1 [(0,.p b 0),(4,.p b1 0),(5,.p b2 0)] (ie (aq (ar (Z0 1 (.n 7 (.i 0) .r) (ie (ab 0 (al (fun m F h=>∃(k:Nat) (L2:Led) (ka:Hd) (kb:Hd) (kc:Hd) (kd:Hd) (ke:Hd) (kf:Hd),(k<=s.args.length)/\(LOk n.decls L2 q)/\(L2.vars=L.vars)/\(Uz n s.op s.num (s.args.drop k) k L2=Uz n s.op s.num s.args 0 L)/\F=[(0,.p b 0),(4,.p b1 0),(5,.p b2 0),(7,.i k)]/\h=[.obj b2 (ZE s),.obj b1 (ZU n),.obj b [.h ka,.h kb,.h kc,.h kd,.h ke,.h kf,Z1 ln],rV ka L2.vars,rV kb L2.own,rV kc L2.par,rV kd L2.con,rV ke L2.fst,rV kf L2.tok]/\m=s.args.length-k) _ _ _ ⟨0,L,ga,gb,gc,gd,ge,gf,ob,hk,ob,ob,rfl,rfl,rfl⟩ (wk [0,0,0,0,0,0,0,0,0] (fw (fr (fc (x:=.i 0) li fl)))) ?_)))))))
 rintro m F h ⟨k,L2,ka,kb,kc,kd,ke,kf,c0_0,c0_1,c0_2,c0_3,rfl,rfl,rfl⟩
 refine aq (ar (Za 3 (.n 9 (.i k) (.n 11 (Z1 s.args) .r)) [0] [b2] (iw (ZD s.args) (Z0 1 (.n 13 (.b (decide ((k:Int)<(s.args.length:Int)))) .r) (ie (ac (decide ((k:Int)<(s.args.length:Int))) dq (fun hc1=>?_) (fun hc1=>?_)))))))
 ·obtain ⟨a1,ha1⟩:=Zl (xs:=s.args) (j:=k) om
  obtain ⟨e6,e7,e8,e9,e10⟩:=c0_1.len
  have hav:=hargs a1 (ZV ha1)
  have hvl:L2.vars.length=L.vars.length:=by rw [c0_2]
  refine ak (aq (ab 1 (aD 18 (ZI (fuel:=11) 18 [0,1,2,3,4,5,6] (.n 16 (ZJ n) (.n 20 (.h ka) (.n 21 (ZN s) (.n 22 (.i k) .r)))) [1,2,0] [b1,b,b2] (Zm 7 (Vs 7 [3] [] [] [rV ka L2.vars] (Zyg n L2.vars s k a1 (ha:=ha1)) cl0 (gS (gL (v:=ka) 0 (gS (gS gN)))) (WS Vx) ?_))))))
  rintro _ _ ⟨rfl,rfl⟩
  refine Zi (fuel:=9) 10 [8] (.n 24 (.b (Uv n L2.vars s.op s.num a1 k)) .r) (db (b:=Uv n L2.vars s.op s.num a1 k) 24 (fun hb1=>?_) (fun hb1=>?_))
  ·have hp1:Uv n L2.vars s.op s.num a1 k=true:=(Iff.rfl).1 hb1
   refine ZI (fuel:=5) 9 [9,10,11,12] (.n 25 (.p b 0) (.n 27 (Z1 s.args) (.n 28 (.i k) (.k (.d .r))))) [1] [b2] (dx 13 (Zj (es:=Z6 s.args) (hv:=none) (j:=(k:Int)) (sz:=1) (y:=.i a1) kr om (ZH ha1) rfl) (Zi (fuel:=3) 4 [14] (.n 30 (.i a1) .r) (Zm 15 (dc 15 [3,0,2,2,2,2,2] [] [] (Z55 b ka kb kc kd ke kf L2 ln a1 (hlk:=c0_1.len) (hq:=(fun y hy=>⟨c0_1.nn y hy,by have:=c0_1.bd y hy;omega⟩))) ?_))))
   rintro _ _ (⟨wa1,wb1,wc1,wd1,we1,wf1,L'1,rfl,rfl,hp2⟩|⟨rfl,rfl,hp3⟩)
   ·obtain ⟨t1,t2,t3,t4,t5,t6,t7⟩:=Tb hp2
    have hk2:=c0_1.take hp2
    refine Zi (fuel:=0) 2 [16,17] (.n 33 (.b false) .r) (de (YA (ak (az (Z0 1 (.n 14 (.i k) .r) (ia (((k+1:Nat):Int)) (((k:Int))+(1)) (ir 1 [(0,.p b 0),(4,.p b1 0),(5,.p b2 0),(7,.i (k+1:Nat))] (ie ?_))))))))
    exact ⟨_,_,_,ob,⟨k+1,L'1,wa1,wb1,wc1,wd1,we1,wf1,ob,hk2,(t2.trans c0_2),(by rw [Zu ha1,Uz,Z8 hp1] at c0_3;simp only [hp2] at c0_3;exact c0_3),rfl,rfl,rfl⟩,(wk [7,7,0,0,0,0,0,0,0] (fw (fr (fc (x:=.i (k+1:Nat)) li fl))))⟩
   refine Zi (fuel:=0) 2 [16,17] (.n 33 (.b true) .r) (de (X8 (ar (ir 1 [(6,.b false)] (ie ?_)))))
   exact Z5 (r1 [] (.inr ⟨rfl,rfl,(by rw [Vj,<-c0_3,Zu ha1,Uz,Z8 hp1,hp3])⟩))
  have hp4:¬(Uv n L2.vars s.op s.num a1 k=true):=Zv Iff.rfl hb1
  refine Zi (fuel:=0) 9 [9,10,11,12,13,14,15,16,17] (.n 33 (.b false) (.k (.d .r))) (de (YA (ak (az (Z0 1 (.n 14 (.i k) .r) (ia (((k+1:Nat):Int)) (((k:Int))+(1)) (ir 1 [(0,.p b 0),(4,.p b1 0),(5,.p b2 0),(7,.i (k+1:Nat))] (ie ?_))))))))
  exact ⟨_,_,_,ob,⟨k+1,L2,ka,kb,kc,kd,ke,kf,ob,c0_1,c0_2,(by rw [Zu ha1,Uz,Z4 hp4] at c0_3;exact c0_3),rfl,rfl,rfl⟩,(wk [1,1,1,0,0,0,0,0,0] (fw (fr (fc (x:=.i (k+1:Nat)) li fl))))⟩
 have hT:Uz n s.op s.num s.args 0 L=some L2:=by rw [<-c0_3,Ye om];rfl
 obtain ⟨e6,e7,e8,e9,e10⟩:=c0_1.len
 have hvl:L2.vars.length=L.vars.length:=by rw [c0_2]
 refine ax 0 (aq (ar (Z0 1 (.n 8 (.i 0) .r) (ie (ab 2 (al (fun m F h=>∃(j:Nat),(j<=s.args.length)/\(TY n s.op s.num ln L2 (s.args.drop j) j=TY n s.op s.num ln L2 s.args 0)/\F=[(0,.p b 0),(4,.p b1 0),(5,.p b2 0),(8,.i j)]/\h=[.obj b2 (ZE s),.obj b1 (ZU n),.obj b [.h ka,.h kb,.h kc,.h kd,.h ke,.h kf,Z1 ln],rV ka L2.vars,rV kb L2.own,rV kc L2.par,rV kd L2.con,rV ke L2.fst,rV kf L2.tok]/\m=s.args.length-j) _ _ _ ⟨0,ob,ob,rfl,rfl,rfl⟩ (wk [0,0,0,0,0,0,0,0,0] (fw (fr (fc (x:=.i 0) li fl)))) ?_))))))
 rintro m F h ⟨j,c1_0,c1_1,rfl,rfl,rfl⟩
 refine aq (ar (Za 3 (.n 34 (.i j) (.n 36 (Z1 s.args) .r)) [0] [b2] (iw (ZD s.args) (Z0 1 (.n 38 (.b (decide ((j:Int)<(s.args.length:Int)))) .r) (ie (ac (decide ((j:Int)<(s.args.length:Int))) dq (fun hc2=>?_) (fun hc2=>?_)))))))
 ·obtain ⟨a2,ha2⟩:=Zl (xs:=s.args) (j:=j) om
  have hav:=hargs a2 (ZV ha2)
  refine ak (aq (ab 3 (ar (Za 3 (.n 41 (ZJ n) (.n 42 (ZN s) (.n 43 (.i j) .r))) [1,0] [b1,b2] (ic [] (Zjz n s j) ?_)))))
  rintro _ _ ⟨rfl,rfl⟩
  refine Xl [(0,.p b 0),(4,.p b1 0),(5,.p b2 0),(8,.i j),(54,.b (W4 n s.op s.num j&&(!YG L2 ln a2)))] [.obj b [.h ka,.h kb,.h kc,.h kd,.h ke,.h kf,Z1 ln],rV ka L2.vars,rV kb L2.own,rV kc L2.par,rV kd L2.con,rV ke L2.fst,rV kf L2.tok,.obj b2 (ZE s),.obj b1 (ZU n)] ?_ ?_
  ·refine ir 1 [(0,.p b 0),(4,.p b1 0),(5,.p b2 0),(8,.i j),(45,.b (W4 n s.op s.num j))] (ib (b:=W4 n s.op s.num j) 45 (fun hb2=>?_) (fun hb2=>?_))
   ·have hp5:W4 n s.op s.num j=true:=(Iff.rfl).1 hb2
    refine Za 4 (.n 46 (.p b 0) (.n 48 (Z1 s.args) (.n 49 (.i j) (.w (.k .z))))) [0] [b2] (Zf (Zj (es:=Z6 s.args) (hv:=none) (j:=(j:Int)) (sz:=1) (y:=.i a2) kr om (ZH ha2) rfl) (Z0 1 (.n 51 (.i a2) .r) (ic [2,2,2,2,2,2,2] (Z92 b ka kb kc kd ke kf L2 ln a2 (hlk:=c0_1.len) (hd:=c0_1.down)) ?_)))
    rintro _ _ ⟨rfl,rfl⟩
    refine Z0 2 (.n 54 (.b (!YG L2 ln a2)) .r) (ie ?_)
    exact wk [0,0,0,0,0,0,0,0,0] (fq (fc (x:=.b (!YG L2 ln a2)) (lb (by simp only [hb2];rfl)) fl))
   have hp6:¬(W4 n s.op s.num j=true):=Zv Iff.rfl hb2
   refine Z0 9 (.n 54 (.b false) (.d (.w .z))) (ie ?_)
   exact wk [2,2,2,2,2,2,2,0,0] (fq (fc (x:=.b false) (lb (by simp only [hb2];rfl)) fl))
  refine ac (W4 n s.op s.num j&&(!YG L2 ln a2)) (p:=(W4 n s.op s.num j=true)/\(¬(YG L2 ln a2=true))) (ZZ Iff.rfl (ZP Iff.rfl)) (fun hc3=>?_) (fun hc3=>?_)
  ·refine ar (ir 1 [(6,.b false)] (ie ?_))
   have hA:TY n s.op s.num ln L2 s.args 0=false:=by rw [<-c1_1,Zu ha2,TY,Z8 hc3]
   exact Z5 (r1 [] (.inr ⟨rfl,rfl,(by rw [Vj,hT];simp only [hA];rfl)⟩))
  refine ak (az (ir 1 [(0,.p b 0),(4,.p b1 0),(5,.p b2 0),(39,.i j)] (ia (((j+1:Nat):Int)) (((j:Int))+(1)) (Z0 1 (.n 8 (.i (j+1:Nat)) .r) (ie ?_)))))
  exact ⟨_,_,_,ob,⟨j+1,ob,(by rw [Zu ha2,TY,Z4 hc3] at c1_1;exact c1_1),rfl,rfl,rfl⟩,(wk [7,7,0,0,0,0,0,0,0] (fw (fr (fc (x:=.i (j+1:Nat)) li fl))))⟩
 have hA:TY n s.op s.num ln L2 s.args 0=true:=by rw [<-c1_1,Ye om];rfl
 refine ax 2 (aq (ar (Za 3 (.n 57 (.b (decide (s.into>0))) .r) [0] [b2] (ie (ac (decide (s.into>0)) dq (fun hc4=>?_) (fun hc4=>?_))))))
 ·obtain ⟨xt,hxt⟩:=Zl (xs:=L2.tok) (j:=(s.into-1).toNat) (by have:=hinto hc4;omega)
  have hgt:=XR hxt
  refine aq (aD 13 (ZI (fuel:=7) 13 [0,1,2,3,4,5] (.n 61 (.h kf) (.n 63 (.i s.into) .r)) [2,0] [b,b2] (da 6 ((s.into-1)) ((s.into)-(1)) (dx 7 (Xb 8 kf L2.tok (s.into-1) ((s.into-1).toNat) (hq:=rfl)) (Qp 8 (WA 8 kf L2.tok ((s.into-1).toNat) xt hxt) (ZI (fuel:=2) 4 [9,10] (.n 68 (Z1 s.args) .r) [0] [b2] (dw 11 (ZD s.args) (Zi (fuel:=0) 1 [12] (.n 70 (.b (xt != (s.args.length:Int))) .r) (de (ac (xt != (s.args.length:Int)) Zw (fun hc5=>?_) (fun hc5=>?_)))))))))))
  ·refine ar (ir 1 [(6,.b false)] (ie ?_))
   exact Z5 (r1 [] (.inr ⟨rfl,rfl,(by rw [Vj,hT];simp only [hA,↓reduceIte];rw [TZ,Z8 hc4,hgt,Z8 hc5])⟩))
  refine ak (aE 9 (dT (fuel:=3) 9 [0,1,2,3,4,5] [(74,.h kf),(76,.i s.into)] [2,0] [b,b2] (da 6 ((s.into-1)) ((s.into)-(1)) (dx 7 (Xb 8 kf L2.tok (s.into-1) ((s.into-1).toNat) (hq:=rfl)) (Zm 8 (KP 8 8 [] [] kf L2.tok ((s.into-1).toNat) (-1) (de (ar (ir 1 [(6,.b true)] (ie ?_))))))))))
  exact Z5 (r1 [3,3,3,3,3,3,0] (.inl ⟨ka,kb,kc,kd,ke,kf,(Led.mk L2.vars L2.own L2.par L2.con L2.fst (L2.tok.set ((s.into-1).toNat) (-1))),rfl,rfl,(by rw [Vj,hT];simp only [hA,↓reduceIte];rw [TZ,Z8 hc4,hgt,Z4 hc5])⟩) (eq:=(rc (rv (xs:=L2.vars) ob (rv (xs:=L2.own) ob (rv (xs:=L2.par) ob (rv (xs:=L2.con) ob (rv (xs:=L2.fst) ob (rv (xs:=(L2.tok.set ((s.into-1).toNat) (-1))) ob rz)))))))))
 refine ak (ar (ir 1 [(6,.b true)] (ie ?_)))
 exact Z5 (r1 [2,2,2,2,2,2,2] (.inl ⟨ka,kb,kc,kd,ke,kf,L2,rfl,rfl,(by rw [Vj,hT];simp only [hA,↓reduceIte];rw [TZ,Z4 hc4])⟩))
theorem Zgr (b:Nat) (ga:Hd) (gb:Hd) (gc:Hd) (gd:Hd) (ge:Hd) (gf:Hd) (n:Normal) (s:Step) (L:Led) (ln:List Int) (q:Int) (i:Nat) (kb0:Block) (m:List Int) (hn:NOk n:=by exact ob) (hk:LOk n.decls L q:=by exact ob) (hf:SFacts n L.vars s:=by exact ob) (hop:s.op=7∨s.op=8:=by exact ob) (hkb:s.kids[i]? = some kb0:=by exact ob) (harm:(Zy n.decls s.op s.num)[i]? = some m:=by exact ob) (hbt:0<=ZF n (L.vars++m) kb0:=by exact ob) (hb:L.vars.length+4*s.sz<=1000000000:=by exact ob) (hq:0<=q/\q+4*s.sz<=999999990:=by exact ob) (hln:ln.length<=4294967296:=by exact ob) (ih:∀(b2:Block) (c:Nat) (ra:Hd) (rb:Hd) (rc:Hd) (rd:Hd) (re:Hd) (rf:Hd) (M:Led) (mm:Nat) (p:Int),(b2.sz<s.sz)->(LOk n.decls M p)->(0<=ZF n M.vars b2)->(mm<=M.vars.length)->(M.vars.length+4*b2.sz<=1000000000)->(0<=p/\p+4*b2.sz<=999999990)->Zd Tryz.prog 72 [.p c 0,ZJ n,Zx b2,.i mm] [.obj c [.h ra,.h rb,.h rc,.h rd,.h re,.h rf,Z1 ln],rV ra M.vars,rV rb M.own,rV rc M.par,rV rd M.con,rV re M.fst,rV rf M.tok] (fun r h=>(∃(wa:Hd) (wb:Hd) (wc:Hd) (wd:Hd) (we:Hd) (wf:Hd) (M':Led),r=.b true/\h=[.obj c [.h wa,.h wb,.h wc,.h wd,.h we,.h wf,Z1 ln],rV wa M'.vars,rV wb M'.own,rV wc M'.par,rV wd M'.con,rV we M'.fst,rV wf M'.tok]/\Xv n ln M mm b2=some M')∨(r=.b false/\h=[]/\Xv n ln M mm b2=none))):Zd Tryz.prog 160 [.p b 0,ZJ n,ZN s,.i i] [.obj b [.h ga,.h gb,.h gc,.h gd,.h ge,.h gf,Z1 ln],rV ga L.vars,rV gb L.own,rV gc L.par,rV gd L.con,rV ge L.fst,rV gf L.tok] (fun r h=>(∃(c:Nat) (wa:Hd) (wb:Hd) (wc:Hd) (wd:Hd) (we:Hd) (wf:Hd) (L':Led),r=.tup [.p c 0,.b true]/\h=[.obj c [.h wa,.h wb,.h wc,.h wd,.h we,.h wf,Z1 ln],rV wa L'.vars,rV wb L'.own,rV wc L'.par,rV wd L'.con,rV we L'.fst,rV wf L'.tok,.obj b [.h ga,.h gb,.h gc,.h gd,.h ge,.h gf,Z1 ln],rV ga L.vars,rV gb L.own,rV gc L.par,rV gd L.con,rV ge L.fst,rV gf L.tok]/\Xv n ln (Xr n.decls L s.op s.num s.args i) L.vars.length kb0=some L')∨(r=.tup [.any,.b false]/\h=[.obj b [.h ga,.h gb,.h gc,.h gd,.h ge,.h gf,Z1 ln],rV ga L.vars,rV gb L.own,rV gc L.par,rV gd L.con,rV ge L.fst,rV gf L.tok]/\Xv n ln (Xr n.decls L s.op s.num s.args i) L.vars.length kb0=none)):=by
 obtain ⟨e1,e2,e3,e4,e5⟩:=hk.len
 have hdk:=hn.decls
 have hkz:=UO s
 have haz:=TR s
 have hK:=JS hk hq.1 hf hop harm
 have hm3:=Z0d hdk harm
 have hkl:=(Yg.1 hkb).1
 have hks:=UN hkb
 refine enter Tryz.func160 kr (n:=83) kr kr (ar (iA (ZU n) ?_))
 intro b1
 refine iA (ZE s) ?_
 intro b2
 refine ir 2 [(0,.p b 0),(3,.i i),(5,.p b1 0),(6,.p b2 0)] (ie (ar (Za 4 (.n 18 (.h ga) .r) [2] [b] (Zf (Z04 3 ga L.vars) (Z0 1 (.n 10 (.i L.vars.length) .r) (ie (ar (Z0 1 (.n 20 (.p b 0) .r) (ic [2,2,2,2,2,2,2] (Zts b ga gb gc gd ge gf L ln (hlk:=hk.len)) ?_)))))))))
 rintro _ _ ⟨c1,wa1,wb1,wc1,wd1,we1,wf1,rfl,rfl⟩
 refine Z0 1 (.n 11 (.p c1 0) .r) (ie (aq (ar (Za 3 (.n 24 (.b (s.op==8)) .r) [14] [b2] (ie (ac (s.op==8) Ze (fun hc1=>?_) (fun hc1=>?_)))))))
 ·obtain ⟨x,hxa⟩:=hf.one om
  have ha:s.args[0]? = some x:=by rw [hxa];rfl
  have hx:=hf.args x (by rw [hxa];simp)
  obtain ⟨cc,hcc,hmc⟩:=Z71 hc1 harm
  have hal:=(Yg.1 ha).1
  have hcl:=(Yg.1 hcc).1
  have hm4:=hm3
  rw [hmc] at hm4
  refine ar (Za 4 (.n 26 (Z3 n.decls) (.n 28 (.i s.num) .r)) [15,14] [b1,b2] (ic [] (Zax n.decls s.num) ?_))
  rintro _ _ ⟨v1,rfl,rfl⟩
  refine Z0 1 (.n 30 (.i i) .r) (Zf (Zj (es:=Z6 (Zt n.decls s.num)) (hv:=some v1) (j:=(i:Int)) (sz:=1) (y:=.i cc) kr om (ZH hcc) rfl) (Z0 2 (.n 12 (.i cc) .r) (ie (ar (Za 3 (.n 34 (Z3 n.decls) (.n 35 (.i cc) .r)) [16] [b1] (ic [] (Z1b n.decls cc) ?_))))))
  rintro _ _ ⟨rfl,rfl⟩
  refine Z0 1 (.n 13 (Z1 (Zc n.decls cc)) .r) (ie (aD 11 (ZI (fuel:=5) 11 [0,1,2,3,4,5] (.n 40 (.h wd1) (.n 42 (Z1 s.args) .r)) [1,15] [c1,b2] (dx 6 (Zj (es:=Z6 s.args) (hv:=none) (j:=0) (sz:=1) (y:=.i x) kr om (ZH ha) rfl) (Zi (fuel:=2) 4 [7,8] (.n 44 (.i x) (.n 45 (.i cc) .r)) (dx 9 (Xb 5 wd1 L.con x x.toNat (hq:=rfl)) (Zm 10 (KP 10 5 [] [] wd1 L.con x.toNat cc (de (aD 11 (ZI (fuel:=5) 11 [0,1,2,3,4,5] (.n 50 (.h we1) (.n 52 (Z1 s.args) .r)) [2,15] [c1,b2] (dx 6 (Zj (es:=Z6 s.args) (hv:=none) (j:=0) (sz:=1) (y:=.i x) kr om (ZH ha) rfl) (Zi (fuel:=2) 4 [7,8] (.n 54 (.i x) (.n 55 (.i L.vars.length) .r)) (dx 9 (Xb 6 we1 L.fst x x.toNat (hq:=rfl)) (Zm 10 (KP 10 6 [] [] we1 L.fst x.toNat (L.vars.length:Int) (de (ar (Z0 1 (.n 14 (.i 0) .r) (ie (ab 0 (al (fun m F h=>∃(k:Nat) (L3:Led) (ka:Hd) (kb:Hd) (kc:Hd) (kd:Hd) (ke:Hd) (kf:Hd),(k<=(Zc n.decls cc).length)/\(LLen L3)/\(L3.vars.length=L.vars.length+k)/\(TW L3 x ((Zc n.decls cc).drop k)=TS n.decls L x cc)/\F=[(3,.i i),(5,.p b1 0),(6,.p b2 0),(10,.i L.vars.length),(11,.p c1 0),(13,Z1 (Zc n.decls cc)),(14,.i k)]/\h=[.obj c1 [.h ka,.h kb,.h kc,.h kd,.h ke,.h kf,Z1 ln],.obj b [.h ga,.h gb,.h gc,.h gd,.h ge,.h gf,Z1 ln],rV ga L.vars,rV gb L.own,rV gc L.par,rV gd L.con,rV ge L.fst,rV gf L.tok,.obj b2 (ZE s),.obj b1 (ZU n),rV ka L3.vars,rV kb L3.own,rV kc L3.par,rV kd L3.con,rV ke L3.fst,rV kf L3.tok]/\m=(Zc n.decls cc).length-k) _ _ _ ⟨0,(Led.mk L.vars L.own L.par (L.con.set x.toNat cc) (L.fst.set x.toNat (L.vars.length:Int)) L.tok),wa1,wb1,wc1,wd1,we1,wf1,ob,(LLen.arm hk.len),ob,(by rw [TS];rfl),rfl,rfl,rfl⟩ (wk [3,7,7,7,7,7,7,7,7,7,3,3,3,1,0,1] (fq (fw (fc (x:=.i 0) li fl))) (e:=(rc (rc (rc (rc (rc (rc (rc (rc (rc (rc (rv (xs:=L.vars) ob (rv (xs:=L.own) ob (rv (xs:=L.par) ob (rv (xs:=(L.con.set x.toNat cc)) ob (rv (xs:=(L.fst.set x.toNat (L.vars.length:Int))) ob (rv (xs:=L.tok) ob rz)))))))))))))))))) ?_))))))))))))))))))))))
  rintro m F h ⟨k,L3,ka,kb,kc,kd,ke,kf,c0_0,c0_1,c0_2,c0_3,rfl,rfl,rfl⟩
  refine aq (ar (Z0 2 (.n 57 (.i k) (.n 58 (Z1 (Zc n.decls cc)) .r)) (io (.i (((Zc n.decls cc).length:Nat):Int)) (.i (((Z6 (Zc n.decls cc)).length:Nat):Int)) (li (by rw [ZD])) (Z0 1 (.n 60 (.b (decide ((k:Int)<(((Zc n.decls cc).length:Nat):Int)))) .r) (ie (ac (decide ((k:Int)<(((Zc n.decls cc).length:Nat):Int))) dq (fun hc2=>?_) (fun hc2=>?_)))))))
  ·refine ak (aq (ab 1 (aE 10 (Zi (fuel:=7) 10 [0,1,2] (.n 63 (.p c1 0) (.n 64 (Z1 (Zc n.decls cc)) (.n 65 (.i k) .r))) ?_))))
   obtain ⟨x1,hx1⟩:=Zl (xs:=Zc n.decls cc) (j:=k) om
   refine dx 3 (Zj (es:=Z6 (Zc n.decls cc)) (hv:=none) (j:=(k:Int)) (sz:=1) (y:=.i x1) kr om (ZH hx1) rfl) (ZI (fuel:=3) 6 [4,5,6] (.n 67 (.i x1) (.n 69 (Z1 s.args) .r)) [8] [b2] (dx 7 (Zj (es:=Z6 s.args) (hv:=none) (j:=0) (sz:=1) (y:=.i x) kr om (ZH ha) rfl) (Zi (fuel:=1) 2 [8] (.n 71 (.i x) .r) (Zm 9 (dc 9 [0,9,9,9,9,9,9] [] [] (Tw c1 ka kb kc kd ke kf L3 ln x1 0 x (hlk:=c0_1)) ?_)))))
   rintro _ _ ⟨wa2,wb2,wc2,wd2,we2,wf2,rfl⟩
   refine de (az (Z0 1 (.n 61 (.i k) (.p .r)) (ia (((k+1:Nat):Int)) (((k:Int))+(1)) (Z0 1 (.n 14 (.i (k+1:Nat)) (.p (.d (.d (.p (.d (.d (.p (.d (.d (.d (.d (.p (.d (.d (.w (.k (.k .z)))))))))))))))))) (ie ?_)))))
   exact ⟨_,_,_,ob,⟨k+1,(L3.grow x1 0 x),wa2,wb2,wc2,wd2,we2,wf2,ob,(LLen.grow c0_1),(by simp [Led.grow];omega),(by rw [Zu hx1,TW] at c0_3;exact c0_3),rfl,rfl,rfl⟩,(wk [0,6,6,6,6,6,6,6,6,6,0,0,0,0,0,0] (fq (fw (fc (x:=.i (k+1:Nat)) li fl))))⟩
  have hE:Xr n.decls L s.op s.num s.args i=L3:=by rw [Zt4 hc1 ha hcc,<-c0_3,Ye om];rfl
  refine ax 0 (aD 12 (ZI (fuel:=6) 12 [0,1,2,3,4,5] (.n 73 (.p c1 0) (.n 74 (.p c1 0) (.n 75 (ZJ n) (.n 77 (ZT s.kids) (.n 78 (.i i) .r))))) [9,8] [b1,b2] (dx 6 (Zj (es:=Xw s.kids) (hv:=none) (j:=(i:Int)) (sz:=2) (y:=Zx kb0) kr om (WY hkb) rfl) (Zi (fuel:=3) 5 [7,8] (.n 80 (Zx kb0) (.n 81 (.i L.vars.length) .r)) (Zm 9 (dc 9 [0,9,9,9,9,9,9] [] [] (ih kb0 c1 ka kb kc kd ke kf L3 L.vars.length q ob (by rw [<-hE];exact hK.1) (by rw [<-hE,hK.2];exact hbt) (by rw [<-hE,hK.2];simp) (by rw [<-hE,hK.2,ZC];omega) ob) ?_))))))
  rintro _ _ (⟨wa3,wb3,wc3,wd3,we3,wf3,M'1,rfl,rfl,hp1⟩|⟨rfl,rfl,hp2⟩)
  ·refine dt (fuel:=0) 2 [10,11] [(8,.p c1 0),(9,.b true)] (de ?_)
   exact Z5 (r2 [0,0,0,0,0,0,0,0,0,0,0,0,0,0] [.p c1 0,.b true] (.inl ⟨c1,wa3,wb3,wc3,wd3,we3,wf3,M'1,rfl,rfl,(by rw [hE];exact hp1)⟩) (lr _))
  refine dt (fuel:=0) 2 [10,11] [(8,.p c1 0),(9,.b false)] (de ?_)
  exact Z5 (r2 [0,0,0,0,0,0,0] [.p c1 0,.b false] (.inr ⟨rfl,rfl,(by rw [hE];exact hp2)⟩) (Zg.tup (.cons (Zg.any _) (.cons (lr _) .nil))))
 have hE:=Zt5 (ds:=n.decls) (L:=L) (num:=s.num) (args:=s.args) (i:=i) hc1
 refine ak (aD 12 (ZI (fuel:=6) 12 [0,1,2,3,4,5] (.n 73 (.p c1 0) (.n 74 (.p c1 0) (.n 75 (ZJ n) (.n 77 (ZT s.kids) (.n 78 (.i i) .r))))) [15,14] [b1,b2] (dx 6 (Zj (es:=Xw s.kids) (hv:=none) (j:=(i:Int)) (sz:=2) (y:=Zx kb0) kr om (WY hkb) rfl) (Zi (fuel:=3) 5 [7,8] (.n 80 (Zx kb0) (.n 81 (.i L.vars.length) .r)) (Zm 9 (dc 9 [0,0,0,0,0,0,0] [] [] (ih kb0 c1 wa1 wb1 wc1 wd1 we1 wf1 L L.vars.length q ob (by rw [<-hE];exact hK.1) (by rw [<-hE,hK.2];exact hbt) (by rw [<-hE,hK.2];simp) (by rw [<-hE,hK.2,ZC];omega) ob) ?_))))))
 rintro _ _ (⟨wa4,wb4,wc4,wd4,we4,wf4,M'2,rfl,rfl,hp3⟩|⟨rfl,rfl,hp4⟩)
 ·refine dt (fuel:=0) 2 [10,11] [(8,.p c1 0),(9,.b true)] (de ?_)
  exact Z5 (r2 [0,0,0,0,0,0,0,0,0,0,0,0,0,0] [.p c1 0,.b true] (.inl ⟨c1,wa4,wb4,wc4,wd4,we4,wf4,M'2,rfl,rfl,(by rw [hE];exact hp3)⟩) (lr _))
 refine dt (fuel:=0) 2 [10,11] [(8,.p c1 0),(9,.b false)] (de ?_)
 exact Z5 (r2 [0,0,0,0,0,0,0] [.p c1 0,.b false] (.inr ⟨rfl,rfl,(by rw [hE];exact hp4)⟩) (Zg.tup (.cons (Zg.any _) (.cons (lr _) .nil))))
theorem Ztr (b:Nat) (ga:Hd) (gb:Hd) (gc:Hd) (gd:Hd) (ge:Hd) (gf:Hd) (n:Normal) (s:Step) (L:Led) (ln:List Int) (q:Int) (hn:NOk n:=by exact ob) (hk:LOk n.decls L q:=by exact ob) (hf:SFacts n L.vars s:=by exact ob) (hop:s.op=7∨s.op=8:=by exact ob) (hb:L.vars.length+4*s.sz<=1000000000:=by exact ob) (hq:0<=q/\q+4*s.sz<=999999990:=by exact ob) (hln:ln.length<=4294967296:=by exact ob) (ih:∀(b2:Block) (c:Nat) (ra:Hd) (rb:Hd) (rc:Hd) (rd:Hd) (re:Hd) (rf:Hd) (M:Led) (mm:Nat) (p:Int),(b2.sz<s.sz)->(LOk n.decls M p)->(0<=ZF n M.vars b2)->(mm<=M.vars.length)->(M.vars.length+4*b2.sz<=1000000000)->(0<=p/\p+4*b2.sz<=999999990)->Zd Tryz.prog 72 [.p c 0,ZJ n,Zx b2,.i mm] [.obj c [.h ra,.h rb,.h rc,.h rd,.h re,.h rf,Z1 ln],rV ra M.vars,rV rb M.own,rV rc M.par,rV rd M.con,rV re M.fst,rV rf M.tok] (fun r h=>(∃(wa:Hd) (wb:Hd) (wc:Hd) (wd:Hd) (we:Hd) (wf:Hd) (M':Led),r=.b true/\h=[.obj c [.h wa,.h wb,.h wc,.h wd,.h we,.h wf,Z1 ln],rV wa M'.vars,rV wb M'.own,rV wc M'.par,rV wd M'.con,rV we M'.fst,rV wf M'.tok]/\Xv n ln M mm b2=some M')∨(r=.b false/\h=[]/\Xv n ln M mm b2=none))):Zd Tryz.prog 143 [.p b 0,ZJ n,ZN s] [.obj b [.h ga,.h gb,.h gc,.h gd,.h ge,.h gf,Z1 ln],rV ga L.vars,rV gb L.own,rV gc L.par,rV gd L.con,rV ge L.fst,rV gf L.tok] (fun r h=>(∃(wa:Hd) (wb:Hd) (wc:Hd) (wd:Hd) (we:Hd) (wf:Hd) (L':Led),r=.b true/\h=[.obj b [.h wa,.h wb,.h wc,.h wd,.h we,.h wf,Z1 ln],rV wa L'.vars,rV wb L'.own,rV wc L'.par,rV wd L'.con,rV we L'.fst,rV wf L'.tok]/\Tq n ln L s=some L')∨(r=.b false/\h=[]/\Tq n ln L s=none)):=by
 obtain ⟨e1,e2,e3,e4,e5⟩:=hk.len
 have hdk:=hn.decls
 have hkz:=UO s
 have haz:=TR s
 obtain ⟨hk1,hk2,hk3⟩:=hf.kids hop
 obtain ⟨kd,hkd⟩:=Zl (xs:=s.kids) (j:=0) om
 obtain ⟨m0,hm0⟩:=Zl (xs:=Zy n.decls s.op s.num) (j:=0) om
 obtain ⟨x,hxa⟩:=hf.one om
 have ha:s.args[0]? = some x:=by rw [hxa];rfl
 have hx:=hf.args x (by rw [hxa];simp)
 have hgx:=QO ha
 have hal:=(Yg.1 ha).1
 refine enter Tryz.func143 kr (n:=88) kr kr (ar (iA (ZU n) ?_))
 intro b1
 refine iA (ZE s) ?_
 intro b2
 refine ir 1 [(0,.p b 0),(4,.p b1 0),(5,.p b2 0)] (ie (aq (ar (Xl [(0,.p b 0),(4,.p b1 0),(5,.p b2 0),(23,.b ((s.op==8)&&(!YG L ln x)))] [.obj b [.h ga,.h gb,.h gc,.h gd,.h ge,.h gf,Z1 ln],rV ga L.vars,rV gb L.own,rV gc L.par,rV gd L.con,rV ge L.fst,rV gf L.tok,.obj b2 (ZE s),.obj b1 (ZU n)] ?_ ?_))))
 ·refine iR 4 [(0,.p b 0),(4,.p b1 0),(5,.p b2 0),(15,.b (s.op==8))] [0] [b2] (ib (b:=(s.op==8)) 15 (fun hb1=>?_) (fun hb1=>?_))
  ·have hp1:s.op=8:=(Ze).1 hb1
   refine Za 3 (.n 16 (.p b 0) (.n 18 (Z1 s.args) (.w .z))) [0] [b2] (Zf (Zj (es:=Z6 s.args) (hv:=none) (j:=0) (sz:=1) (y:=.i x) kr om (ZH ha) rfl) (Z0 1 (.n 20 (.i x) .r) (ic [2,2,2,2,2,2,2] (Z92 b ga gb gc gd ge gf L ln x (hlk:=hk.len) (hd:=hk.down)) ?_)))
   rintro _ _ ⟨rfl,rfl⟩
   refine Z0 2 (.n 23 (.b (!YG L ln x)) .r) (ie ?_)
   exact wk [0,0,0,0,0,0,0,0,0] (fw (fr (fc (x:=.b (!YG L ln x)) (lb (by simp only [hb1];rfl)) fl)))
  have hp2:¬(s.op=8):=Zv Ze hb1
  refine Z0 8 (.n 23 (.b false) (.d (.k (.k (.k .z))))) (ie ?_)
  exact wk [2,2,2,2,2,2,2,0,0] (fw (fr (fc (x:=.b false) (lb (by simp only [hb1];rfl)) fl)))
 refine ac ((s.op==8)&&(!YG L ln x)) (p:=(s.op=8)/\(¬(YG L ln x=true))) (ZZ Ze (ZP Iff.rfl)) (fun hc1=>?_) (fun hc1=>?_)
 ·refine ar (ir 1 [(6,.b false)] (ie ?_))
  exact Z5 (r1 [] (.inr ⟨rfl,rfl,(by rw [Tq,Z8 (by rw [hgx];exact hc1)])⟩))
 have hgo:=Zdb (n:=n) (ln:=ln) (L:=L) (s:=s) (by rw [hgx];exact hc1) hkd
 refine ak (ar (iR 3 [(0,.p b 0),(4,.p b1 0),(5,.p b2 0),(25,.p b 0),(26,ZJ n),(27,ZN s)] [8,7] [b1,b2] (ic [0,0,0,0,0,0,0] (Zgr b ga gb gc gd ge gf n s L ln q 0 kd m0 (hkb:=hkd) (harm:=hm0) (hbt:=(hk3 0 kd m0 hkd hm0)) (ih:=ob)) ?_)))
 rintro _ _ (⟨c1,wa1,wb1,wc1,wd1,we1,wf1,L'1,rfl,rfl,hp3⟩|⟨rfl,rfl,hp4⟩)
 ·have hone:=hp3
  obtain ⟨l1,l2⟩:=Zgf hn hk hq.1 hf hop hkd hm0 (hk3 0 kd m0 hkd hm0) hone
  refine Z0 5 (.n 7 (.p c1 0) (.n 8 (.b true) .r)) (ie (aq (ar (Z0 2 (.n 32 (.b false) .r) (ie (YA (ak (aq (ar (Z0 1 (.n 9 (.i 1) .r) (ie (ab 0 (al (fun m F h=>∃(k:Nat),(1<=k/\k<=s.kids.length)/\(UA n ln L s.op s.num s.args L'1 (s.kids.drop k) k=UA n ln L s.op s.num s.args L'1 (s.kids.drop 1) 1)/\F=[(0,.p b 0),(4,.p b1 0),(5,.p b2 0),(7,.p c1 0),(9,.i k)]/\h=[.obj c1 [.h wa1,.h wb1,.h wc1,.h wd1,.h we1,.h wf1,Z1 ln],rV wa1 L'1.vars,rV wb1 L'1.own,rV wc1 L'1.par,rV wd1 L'1.con,rV we1 L'1.fst,rV wf1 L'1.tok,.obj b [.h ga,.h gb,.h gc,.h gd,.h ge,.h gf,Z1 ln],rV ga L.vars,rV gb L.own,rV gc L.par,rV gd L.con,rV ge L.fst,rV gf L.tok,.obj b2 (ZE s),.obj b1 (ZU n)]/\m=s.kids.length-k) _ _ _ ⟨1,ob,ob,rfl,rfl,rfl⟩ (wk [0,0,0,0,0,0,0,0,0,0,0,0,0,0,0,0] (fq (fc (x:=.i 1) li fl))) ?_)))))))))))))
  rintro m F h ⟨k,c0_0,c0_1,rfl,rfl,rfl⟩
  refine aq (ar (Za 3 (.n 33 (.i k) (.n 35 (ZT s.kids) .r)) [14] [b2] (iw (VJ s.kids) (Z0 1 (.n 37 (.b (decide ((k:Int)<(s.kids.length:Int)))) .r) (ie (ac (decide ((k:Int)<(s.kids.length:Int))) dq (fun hc2=>?_) (fun hc2=>?_)))))))
  ·obtain ⟨ke,hke⟩:=Zl (xs:=s.kids) (j:=k) om
   obtain ⟨mk,hmk⟩:=Zl (xs:=Zy n.decls s.op s.num) (j:=k) om
   have hcs:=Z2m (n:=n) (ln:=ln) (L:=L) (op:=s.op) (num:=s.num) (args:=s.args) (one:=L'1) hke
   refine ak (aq (ab 1 (ar (Za 4 (.n 41 (.p b 0) (.n 42 (ZJ n) (.n 43 (ZN s) (.n 44 (.i k) .r)))) [15,14] [b1,b2] (ic [7,7,7,7,7,7,7] (Zgr b ga gb gc gd ge gf n s L ln q k ke mk (hkb:=hke) (harm:=hmk) (hbt:=(hk3 k ke mk hke hmk)) (ih:=ob)) ?_)))))
   rintro _ _ (⟨c2,wa2,wb2,wc2,wd2,we2,wf2,L'2,rfl,rfl,hp5⟩|⟨rfl,rfl,hp6⟩)
   ·have htwo:=hp5
    obtain ⟨l3,l4⟩:=Zgf hn hk hq.1 hf hop hke hmk (hk3 k ke mk hke hmk) htwo
    refine Z0 5 (.n 10 (.p c2 0) (.n 11 (.b true) .r)) (ie (aD 26 (ZI (fuel:=15) 26 [0,1,2,3,4,5,6,7,8,9,10] (.n 50 (.b false) (.n 54 (.h wb1) (.n 58 (.h wb2) .r))) [14,0] [c1,c2] (Zm 11 (Vs 11 [16,2] [] [] [rV wb1 L'1.own,rV wb2 L'2.own] (Zk1 L'1.own L'2.own) cl0 (gL (v:=wb1) 0 (gL (v:=wb2) 1 gN)) (WS (WS Vx)) ?_)))))
    rintro _ _ ⟨rfl,rfl⟩
    refine Ke [(0,.p b 0),(4,.p b1 0),(5,.p b2 0),(7,.p c1 0),(9,.i k),(73,.b ((!(decide (L'1.own=L'2.own)))||(!(decide (L'1.tok=L'2.tok)))))] [rV wb1 L'1.own,rV wb2 L'2.own,.obj c2 [.h wa2,.h wb2,.h wc2,.h wd2,.h we2,.h wf2,Z1 ln],rV wa2 L'2.vars,rV wc2 L'2.par,rV wd2 L'2.con,rV we2 L'2.fst,rV wf2 L'2.tok,.obj b [.h ga,.h gb,.h gc,.h gd,.h ge,.h gf,Z1 ln],rV ga L.vars,rV gb L.own,rV gc L.par,rV gd L.con,rV ge L.fst,rV gf L.tok,.obj c1 [.h wa1,.h wb1,.h wc1,.h wd1,.h we1,.h wf1,Z1 ln],rV wa1 L'1.vars,rV wc1 L'1.par,rV wd1 L'1.con,rV we1 L'1.fst,rV wf1 L'1.tok,.obj b2 (ZE s),.obj b1 (ZU n)] ?_ ?_
    ·refine dt (fuel:=11) 14 [12,13,14] [(0,.p b 0),(4,.p b1 0),(5,.p b2 0),(7,.p c1 0),(9,.i k),(10,.p c2 0),(62,.b (!(decide (L'1.own=L'2.own))))] (db (b:=(!(decide (L'1.own=L'2.own)))) 62 (fun hb2=>?_) (fun hb2=>?_))
     ·have hp7:¬(L'1.own=L'2.own):=((ZP dq)).1 hb2
      refine Zi (fuel:=0) 11 [15,16,17,18,19,20,21,22,23,24,25] (.n 73 (.b true) (.d (.w (.k .z)))) (de ?_)
      exact wk [0,0,0,0,0,0,0,0,0,0,0,0,0,0,0,0,0,0,0,0,0,0,0] (fq (fr (fc (x:=.b true) (lb (by simp only [hb2];rfl)) fl)))
     have hp8:¬(¬(L'1.own=L'2.own)):=Zv (ZP dq) hb2
     refine ZI (fuel:=3) 11 [15,16,17,18,19,20,21,22] (.n 66 (.h wf1) (.n 70 (.h wf2) (.w (.k (.k .z))))) [15,2] [c1,c2] (Zm 23 (Vs 23 [20,7] [] [] [rV wf1 L'1.tok,rV wf2 L'2.tok] (Zk1 L'1.tok L'2.tok) cl0 (gL (v:=wf1) 0 (gL (v:=wf2) 1 gN)) (WS (WS Vx)) ?_))
     rintro _ _ ⟨rfl,rfl⟩
     refine Zi (fuel:=0) 2 [24,25] (.n 73 (.b (!(decide (L'1.tok=L'2.tok)))) .r) (de ?_)
     exact wk [2,2,2,2,2,2,2,1,1,1,1,1,1,1,1,1,1,1,1,1,0,0,0] (fq (fr (fc (x:=.b (!(decide (L'1.tok=L'2.tok)))) (lb (by simp only [hb2];rfl)) fl)))
    refine ac ((!(decide (L'1.own=L'2.own)))||(!(decide (L'1.tok=L'2.tok)))) (p:=(¬(L'1.own=L'2.own))∨(¬(L'1.tok=L'2.tok))) (Zz (ZP dq) (ZP dq)) (fun hc3=>?_) (fun hc3=>?_)
    ·refine ar (ir 1 [(6,.b false)] (ie ?_))
     exact Z5 (r1 [] (.inr ⟨rfl,rfl,(by rw [hgo,hone];exact Z2q (by rw [<-c0_1,hcs,htwo];exact Zj0 hc3))⟩))
    refine ak (az (ir 1 [(0,.p b 0),(4,.p b1 0),(5,.p b2 0),(7,.p c1 0),(38,.i k)] (ia (((k+1:Nat):Int)) (((k:Int))+(1)) (Z0 1 (.n 9 (.i (k+1:Nat)) .r) (ie ?_)))))
    exact ⟨_,_,_,ob,⟨k+1,ob,(by rw [hcs,htwo,Zj2 hc3] at c0_1;exact c0_1),rfl,rfl,rfl⟩,(wk [15,15,0,14,14,14,14,7,7,7,7,7,7,7,7,7] (fq (fc (x:=.i (k+1:Nat)) li fl)))⟩
   have htwo:=hp6
   refine Z0 5 (.n 11 (.b false) .r) (ie (aD 26 (Zi (fuel:=0) 26 [0,1,2,3,4,5,6,7,8,9,10,11,12,13,14,15,16,17,18,19,20,21,22,23,24,25] (.n 73 (.b true) .r) (de (X8 (ar (ir 1 [(6,.b false)] (ie ?_))))))))
   exact Z5 (r1 [] (.inr ⟨rfl,rfl,(by rw [hgo,hone];exact Z2q (by rw [<-c0_1,hcs,htwo];rfl))⟩))
  have hE:UA n ln L s.op s.num s.args L'1 (s.kids.drop 1) 1=true:=by rw [<-c0_1,Ye om,UA]
  refine ax 0 (ar (Za 7 (.n 78 (.h wb1) (.n 80 (.p b 1) .r)) [0] [c1] (iS 7 b 1 [.h wb1] [.h ga,.h gb,.h gc,.h gd,.h ge,.h gf,Z1 ln] [.h ga,.h wb1,.h gc,.h gd,.h ge,.h gf,Z1 ln] (ie (ar (iR 7 [(85,.h wf1),(87,.p b 5)] [1] [c1] (iS 0 b 5 [.h wf1] [.h ga,.h wb1,.h gc,.h gd,.h ge,.h gf,Z1 ln] [.h ga,.h wb1,.h gc,.h gd,.h ge,.h wf1,Z1 ln] (ie (ar (ir 1 [(6,.b true)] (ie ?_)))))))))))
  exact Z5 (r1 [0,7,2,7,7,7,5] (.inl ⟨ga,wb1,gc,gd,ge,wf1,(Led.mk L.vars L'1.own L.par L.con L.fst L'1.tok),rfl,rfl,(by rw [hgo,hone];exact Zhc hE)⟩) (eq:=(rc (rv (xs:=L.vars) ob (rv (xs:=L'1.own) ob (rv (xs:=L.par) ob (rv (xs:=L.con) ob (rv (xs:=L.fst) ob (rv (xs:=L'1.tok) ob rz)))))))))
 have hone:=hp4
 refine Z0 5 (.n 8 (.b false) .r) (ie (aq (ar (Z0 2 (.n 32 (.b true) .r) (ie (X8 (ar (ir 1 [(6,.b false)] (ie ?_)))))))))
 exact Z5 (r1 [] (.inr ⟨rfl,rfl,(by rw [hgo,hone];rfl)⟩))
theorem Ztv (b:Nat) (ga:Hd) (gb:Hd) (gc:Hd) (gd:Hd) (ge:Hd) (gf:Hd) (n:Normal) (s:Step) (L:Led) (ln:List Int) (q:Int) (hn:NOk n:=by exact ob) (hk:LOk n.decls L q:=by exact ob) (ht:0<=Zp n L.vars s:=by exact ob) (hb:L.vars.length+4*s.sz<=1000000000:=by exact ob) (hq:0<=q/\q+4*s.sz<=999999990:=by exact ob) (hln:ln.length<=4294967296:=by exact ob) (ih:∀(b2:Block) (c:Nat) (ra:Hd) (rb:Hd) (rc:Hd) (rd:Hd) (re:Hd) (rf:Hd) (M:Led) (mm:Nat) (p:Int),(b2.sz<s.sz)->(LOk n.decls M p)->(0<=ZF n M.vars b2)->(mm<=M.vars.length)->(M.vars.length+4*b2.sz<=1000000000)->(0<=p/\p+4*b2.sz<=999999990)->Zd Tryz.prog 72 [.p c 0,ZJ n,Zx b2,.i mm] [.obj c [.h ra,.h rb,.h rc,.h rd,.h re,.h rf,Z1 ln],rV ra M.vars,rV rb M.own,rV rc M.par,rV rd M.con,rV re M.fst,rV rf M.tok] (fun r h=>(∃(wa:Hd) (wb:Hd) (wc:Hd) (wd:Hd) (we:Hd) (wf:Hd) (M':Led),r=.b true/\h=[.obj c [.h wa,.h wb,.h wc,.h wd,.h we,.h wf,Z1 ln],rV wa M'.vars,rV wb M'.own,rV wc M'.par,rV wd M'.con,rV we M'.fst,rV wf M'.tok]/\Xv n ln M mm b2=some M')∨(r=.b false/\h=[]/\Xv n ln M mm b2=none))):Zd Tryz.prog 109 [.p b 0,ZJ n,ZN s] [.obj b [.h ga,.h gb,.h gc,.h gd,.h ge,.h gf,Z1 ln],rV ga L.vars,rV gb L.own,rV gc L.par,rV gd L.con,rV ge L.fst,rV gf L.tok] (fun r h=>(∃(wa:Hd) (wb:Hd) (wc:Hd) (wd:Hd) (we:Hd) (wf:Hd) (L':Led),r=.b true/\h=[.obj b [.h wa,.h wb,.h wc,.h wd,.h we,.h wf,Z1 ln],rV wa L'.vars,rV wb L'.own,rV wc L'.par,rV wd L'.con,rV we L'.fst,rV wf L'.tok]/\Vc n ln L s=some L')∨(r=.b false/\h=[]/\Vc n ln L s=none)):=by
 obtain ⟨e1,e2,e3,e4,e5⟩:=hk.len
 have hdk:=hn.decls
 have hkz:=UO s
 have haz:=TR s
 have hf:=TG ht
 refine enter Tryz.func109 kr (n:=89) kr kr (ar (iA (ZU n) ?_))
 intro b1
 refine iA (ZE s) ?_
 intro b2
 refine ir 1 [(0,.p b 0),(4,.p b1 0),(5,.p b2 0)] (ie (aD 8 (ZI (fuel:=2) 8 [0,1,2,3,4,5] (.n 9 (ZJ n) (.n 13 (.h ga) (.n 14 (ZN s) .r))) [1,2,0] [b1,b,b2] (Zm 6 (Vs 6 [3] [] [] [rV ga L.vars] (Zyl n L.vars s ob ob) cl0 (gS (gL (v:=ga) 0 (gS gN))) (WS Vx) ?_)))))
 rintro _ _ ⟨rfl,rfl⟩
 refine Zi (fuel:=0) 1 [7] (.n 7 (.i (Zp n L.vars s)) .r) (de (ar (Z0 1 .r (ie (aq (ar (Za 2 (.n 17 (.i s.op) .r) [1] [b2] (ie (ab 0 (ar (Z0 2 (.n 22 (.b (s.op==14)) .r) (ie (ac (s.op==14) Ze (fun hc1=>?_) (fun hc1=>?_))))))))))))))
 ·obtain ⟨x,hxa⟩:=hf.one om
  have ha:s.args[0]? = some x:=by rw [hxa];rfl
  have hx:=hf.args x (by rw [hxa];simp)
  have hgx:=QO ha
  have hal:=(Yg.1 ha).1
  obtain ⟨xo,hxo⟩:=Zl (xs:=L.own) (j:=x.toNat) om
  have hgo:=XR hxo
  have hob:=hk.bd xo (ZV hxo)
  have hon:=hk.nn xo (ZV hxo)
  refine ar (Za 3 (.n 24 (.p b 0) (.n 26 (Z1 s.args) .r)) [1] [b2] (Zf (Zj (es:=Z6 s.args) (hv:=none) (j:=0) (sz:=1) (y:=.i x) kr om (ZH ha) rfl) (Z0 1 (.n 28 (.i x) .r) (ic [3,0,2,2,2,2,2] (Z92 b ga gb gc gd ge gf L ln x (hlk:=hk.len) (hd:=hk.down)) ?_))))
  rintro _ _ ⟨rfl,rfl⟩
  refine Z0 1 (.n 8 (.b (YG L ln x)) .r) (ie (aE 21 (ZI (fuel:=15) 21 [0,1,2,3,4,5] (.n 33 (.h gb) (.n 35 (Z1 s.args) .r)) [0,7] [b,b2] (dx 6 (Zj (es:=Z6 s.args) (hv:=none) (j:=0) (sz:=1) (y:=.i x) kr om (ZH ha) rfl) (ZI (fuel:=7) 14 [7,8,9,10,11,12,13] (.n 37 (.i x) (.n 41 (.h gb) (.n 43 (Z1 s.args) .r))) [0,7] [b,b2] (dx 14 (Zj (es:=Z6 s.args) (hv:=none) (j:=0) (sz:=1) (y:=.i x) kr om (ZH ha) rfl) (Zi (fuel:=5) 6 [15] (.n 45 (.i x) .r) (dx 16 (Xb 2 gb L.own x x.toNat (hq:=rfl)) (Qp 17 (WA 2 gb L.own x.toNat xo hxo) (da 18 ((xo+1)) ((xo)+(1)) (dx 19 (Xb 2 gb L.own x x.toNat (hq:=rfl)) (Zm 20 (KP 20 2 [] [] gb L.own x.toNat (xo+1) (de (aq (ar (Z0 2 (.n 73 (.b (!YG L ln x)) .r) (ie (ac (!YG L ln x) (p:=¬(YG L ln x=true)) (ZP Iff.rfl) (fun hc2=>?_) (fun hc2=>?_))))))))))))))))))))
  ·have hP:=(Z9o (n:=n) (ln:=ln) (L:=L) hc1 hgx).trans (Zoq hc2)
   refine ar (ir 1 [(6,.b false)] (ie ?_))
   exact Z5 (r1 [] (.inr ⟨rfl,rfl,(by rw [WU,hP];first|rfl|exact VM (by assumption)|exact VN (by assumption) (by assumption)|exact VO (by assumption))⟩))
  have hP:=(Z9o (n:=n) (ln:=ln) (L:=L) hc1 hgx).trans (Zor hc2 hgo)
  obtain ⟨kx,hxv⟩:=J8 hn hk hq.1 hf hP
  refine ak (aq (ar (Za 2 (.n 75 (.i s.op) .r) [7] [b2] (ic [] (Q9 s.op) ?_))))
  rintro _ _ ⟨rfl,rfl⟩
  refine Xl [(0,.p b 0),(5,.p b2 0),(7,.i (Zp n L.vars s)),(80,.b (Yl s.op&&((Zp n L.vars s) != 0)))] [rV gb (L.own.set x.toNat (xo+1)),.obj b [.h ga,.h gb,.h gc,.h gd,.h ge,.h gf,Z1 ln],rV ga L.vars,rV gc L.par,rV gd L.con,rV ge L.fst,rV gf L.tok,.obj b2 (ZE s),.obj b1 (ZU n)] ?_ ?_
  ·refine ir 1 [(0,.p b 0),(5,.p b2 0),(7,.i (Zp n L.vars s)),(77,.b (Yl s.op))] (ib (b:=Yl s.op) 77 (fun hb1=>?_) (fun hb1=>?_))
   ·have hp1:Yl s.op=true:=(Iff.rfl).1 hb1
    refine Z0 3 (.n 80 (.b ((Zp n L.vars s) != 0)) (.d (.k (.k (.k .z))))) (ie ?_)
    exact wk [0,0,0,0,0,0,0,0,0] (fw (fr (fc (x:=.b ((Zp n L.vars s) != 0)) (lb (by simp only [hb1];rfl)) fl)))
   have hp2:¬(Yl s.op=true):=Zv Iff.rfl hb1
   refine Z0 3 (.n 80 (.b false) (.d (.k (.k (.k .z))))) (ie ?_)
   exact wk [0,0,0,0,0,0,0,0,0] (fw (fr (fc (x:=.b false) (lb (by simp only [hb1];rfl)) fl)))
  refine ac (Yl s.op&&((Zp n L.vars s) != 0)) (p:=(Yl s.op=true)/\((Zp n L.vars s)≠0)) (ZZ Iff.rfl Zw) (fun hc3=>?_) (fun hc3=>?_)
  ·refine az (ir 2 [(81,.p b 0),(82,.i (Zp n L.vars s))] (ic [1,1,0,0,0,0,0] (Tw b ga gb gc gd ge gf (Led.mk L.vars (L.own.set x.toNat (xo+1)) L.par L.con L.fst L.tok) ln (Zp n L.vars s) 1 (-1) (hlb:=(by rw [hxv];omega)) (hlk:=kx.len)) ?_))
   rintro _ _ ⟨wa1,wb1,wc1,wd1,we1,wf1,rfl⟩
   refine ie (ar (ir 1 [(6,.b true)] (ie ?_)))
   exact Z5 (r1 [0,0,0,0,0,0,0] (.inl ⟨wa1,wb1,wc1,wd1,we1,wf1,((Led.mk L.vars (L.own.set x.toNat (xo+1)) L.par L.con L.fst L.tok).grow (Zp n L.vars s) 1 (-1)),rfl,rfl,(by rw [WU,hP];first|rfl|exact VM (by assumption)|exact VN (by assumption) (by assumption)|exact VO (by assumption))⟩))
  refine ar (iR 2 [(0,.p b 0),(85,.i s.op)] [7] [b2] (ic [] (Q9 s.op) ?_))
  rintro _ _ ⟨rfl,rfl⟩
  refine ie (ac (Yl s.op) Iff.rfl (fun hc4=>?_) (fun hc4=>?_))
  ·refine az (ir 1 [(87,.p b 0)] (ic [1,1,0,0,0,0,0] (Tw b ga gb gc gd ge gf (Led.mk L.vars (L.own.set x.toNat (xo+1)) L.par L.con L.fst L.tok) ln 0 0 (-1) (hlb:=(by rw [hxv];omega)) (hlk:=kx.len)) ?_))
   rintro _ _ ⟨wa2,wb2,wc2,wd2,we2,wf2,rfl⟩
   refine ie (ar (ir 1 [(6,.b true)] (ie ?_)))
   exact Z5 (r1 [0,0,0,0,0,0,0] (.inl ⟨wa2,wb2,wc2,wd2,we2,wf2,((Led.mk L.vars (L.own.set x.toNat (xo+1)) L.par L.con L.fst L.tok).grow 0 0 (-1)),rfl,rfl,(by rw [WU,hP];first|rfl|exact VM (by assumption)|exact VN (by assumption) (by assumption)|exact VO (by assumption))⟩))
  refine ak (ar (ir 1 [(6,.b true)] (ie ?_)))
  exact Z5 (r1 [1,1,0,0,0,0,0] (.inl ⟨ga,gb,gc,gd,ge,gf,(Led.mk L.vars (L.own.set x.toNat (xo+1)) L.par L.con L.fst L.tok),rfl,rfl,(by rw [WU,hP];first|rfl|exact VM (by assumption)|exact VN (by assumption) (by assumption)|exact VO (by assumption))⟩) (eq:=(rc (rv (xs:=L.vars) ob (rv (xs:=(L.own.set x.toNat (xo+1))) ob (rv (xs:=L.par) ob (rv (xs:=L.con) ob (rv (xs:=L.fst) ob (rv (xs:=L.tok) ob rz)))))))))
 refine ar (Z0 2 (.n 50 (.b (s.op==15)) .r) (ie (ac (s.op==15) Ze (fun hc5=>?_) (fun hc5=>?_))))
 ·obtain ⟨x,hxa⟩:=hf.one om
  have ha:s.args[0]? = some x:=by rw [hxa];rfl
  have hx:=hf.args x (by rw [hxa];simp)
  have hgx:=QO ha
  have hal:=(Yg.1 ha).1
  refine az (Za 3 (.n 52 (.p b 0) (.n 54 (Z1 s.args) .r)) [1] [b2] (Zf (Zj (es:=Z6 s.args) (hv:=none) (j:=0) (sz:=1) (y:=.i x) kr om (ZH ha) rfl) (Z0 1 (.n 56 (.i x) .r) (ic [3,0,2,2,2,2,2] (Z55 b ga gb gc gd ge gf L ln x (hlk:=hk.len) (hq:=(fun y hy=>⟨hk.nn y hy,by have:=hk.bd y hy;omega⟩))) ?_))))
  rintro _ _ (⟨wa3,wb3,wc3,wd3,we3,wf3,L'1,rfl,rfl,hp3⟩|⟨rfl,rfl,hp4⟩)
  ·have hP:=(Z9p (n:=n) (ln:=ln) (L:=L) hc5 hgx).trans (hp3)
   obtain ⟨kx,hxv⟩:=J8 hn hk hq.1 hf hP
   refine Z0 1 (.n 8 (.b true) .r) (ie (aq (ar (Z0 2 (.n 73 (.b false) .r) (ie (YA (ak (aq (ar (Za 2 (.n 75 (.i s.op) .r) [7] [b2] (ic [] (Q9 s.op) ?_)))))))))))
   rintro _ _ ⟨rfl,rfl⟩
   refine Xl [(0,.p b 0),(5,.p b2 0),(7,.i (Zp n L.vars s)),(80,.b (Yl s.op&&((Zp n L.vars s) != 0)))] [.obj b [.h wa3,.h wb3,.h wc3,.h wd3,.h we3,.h wf3,Z1 ln],rV wa3 L'1.vars,rV wb3 L'1.own,rV wc3 L'1.par,rV wd3 L'1.con,rV we3 L'1.fst,rV wf3 L'1.tok,.obj b2 (ZE s),.obj b1 (ZU n)] ?_ ?_
   ·refine ir 1 [(0,.p b 0),(5,.p b2 0),(7,.i (Zp n L.vars s)),(77,.b (Yl s.op))] (ib (b:=Yl s.op) 77 (fun hb2=>?_) (fun hb2=>?_))
    ·have hp5:Yl s.op=true:=(Iff.rfl).1 hb2
     refine Z0 3 (.n 80 (.b ((Zp n L.vars s) != 0)) (.d (.k (.k (.k .z))))) (ie ?_)
     exact wk [0,0,0,0,0,0,0,0,0] (fw (fr (fc (x:=.b ((Zp n L.vars s) != 0)) (lb (by simp only [hb2];rfl)) fl)))
    have hp6:¬(Yl s.op=true):=Zv Iff.rfl hb2
    refine Z0 3 (.n 80 (.b false) (.d (.k (.k (.k .z))))) (ie ?_)
    exact wk [0,0,0,0,0,0,0,0,0] (fw (fr (fc (x:=.b false) (lb (by simp only [hb2];rfl)) fl)))
   refine ac (Yl s.op&&((Zp n L.vars s) != 0)) (p:=(Yl s.op=true)/\((Zp n L.vars s)≠0)) (ZZ Iff.rfl Zw) (fun hc6=>?_) (fun hc6=>?_)
   ·refine az (ir 2 [(81,.p b 0),(82,.i (Zp n L.vars s))] (ic [0,0,0,0,0,0,0] (Tw b wa3 wb3 wc3 wd3 we3 wf3 L'1 ln (Zp n L.vars s) 1 (-1) (hlb:=(by rw [hxv];omega)) (hlk:=kx.len)) ?_))
    rintro _ _ ⟨wa4,wb4,wc4,wd4,we4,wf4,rfl⟩
    refine ie (ar (ir 1 [(6,.b true)] (ie ?_)))
    exact Z5 (r1 [0,0,0,0,0,0,0] (.inl ⟨wa4,wb4,wc4,wd4,we4,wf4,(L'1.grow (Zp n L.vars s) 1 (-1)),rfl,rfl,(by rw [WU,hP];first|rfl|exact VM (by assumption)|exact VN (by assumption) (by assumption)|exact VO (by assumption))⟩))
   refine ar (iR 2 [(0,.p b 0),(85,.i s.op)] [7] [b2] (ic [] (Q9 s.op) ?_))
   rintro _ _ ⟨rfl,rfl⟩
   refine ie (ac (Yl s.op) Iff.rfl (fun hc7=>?_) (fun hc7=>?_))
   ·refine az (ir 1 [(87,.p b 0)] (ic [0,0,0,0,0,0,0] (Tw b wa3 wb3 wc3 wd3 we3 wf3 L'1 ln 0 0 (-1) (hlb:=(by rw [hxv];omega)) (hlk:=kx.len)) ?_))
    rintro _ _ ⟨wa5,wb5,wc5,wd5,we5,wf5,rfl⟩
    refine ie (ar (ir 1 [(6,.b true)] (ie ?_)))
    exact Z5 (r1 [0,0,0,0,0,0,0] (.inl ⟨wa5,wb5,wc5,wd5,we5,wf5,(L'1.grow 0 0 (-1)),rfl,rfl,(by rw [WU,hP];first|rfl|exact VM (by assumption)|exact VN (by assumption) (by assumption)|exact VO (by assumption))⟩))
   refine ak (ar (ir 1 [(6,.b true)] (ie ?_)))
   exact Z5 (r1 [0,0,0,0,0,0,0] (.inl ⟨wa3,wb3,wc3,wd3,we3,wf3,L'1,rfl,rfl,(by rw [WU,hP];first|rfl|exact VM (by assumption)|exact VN (by assumption) (by assumption)|exact VO (by assumption))⟩))
  have hP:=(Z9p (n:=n) (ln:=ln) (L:=L) hc5 hgx).trans (hp4)
  refine Z0 1 (.n 8 (.b false) .r) (ie (aq (ar (Z0 2 (.n 73 (.b true) .r) (ie (X8 (ar (ir 1 [(6,.b false)] (ie ?_)))))))))
  exact Z5 (r1 [] (.inr ⟨rfl,rfl,(by rw [WU,hP];first|rfl|exact VM (by assumption)|exact VN (by assumption) (by assumption)|exact VO (by assumption))⟩))
 refine aq (ar (Z0 2 (.n 58 (.b (s.op==16)) .r) (ie (Ug (fun F h=>F=[(0,.p b 0),(4,.p b1 0),(5,.p b2 0),(7,.i (Zp n L.vars s)),(17,.i s.op),(58,.b ((s.op==16)||(s.op==17)))]/\h=[rV ga L.vars,.obj b2 (ZE s),.obj b1 (ZU n),.obj b [.h ga,.h gb,.h gc,.h gd,.h ge,.h gf,Z1 ln],rV gb L.own,rV gc L.par,rV gd L.con,rV ge L.fst,rV gf L.tok]) ?_ ?_))))
 ·refine ac (s.op==16) Ze (fun hc8=>?_) (fun hc8=>?_)
  ·refine ak ?_
   exact ⟨_,_,⟨rfl,rfl⟩,(wk [0,0,0,0,0,0,0,0,0] (fq (fr (fc (x:=.b (s.op==16)) (lb (by first|rfl|(rw [Z8 hc8])|(rw [Z4 hc8])|(simp [hc8];done)|(rw [YW];simp [hc8];done)|omega)) fl))))⟩
  refine az (ir 2 [(0,.p b 0),(4,.p b1 0),(5,.p b2 0),(7,.i (Zp n L.vars s)),(17,.i s.op),(58,.b (s.op==17))] (ie ?_))
  exact ⟨_,_,⟨rfl,rfl⟩,(wk [0,0,0,0,0,0,0,0,0] (fq (fr (fc (x:=.b (s.op==17)) (lb (by first|rfl|(rw [Z8 hc8])|(rw [Z4 hc8])|(simp [hc8];done)|(rw [YW];simp [hc8];done)|omega)) fl))))⟩
 rintro F h ⟨rfl,rfl⟩
 refine ac ((s.op==16)||(s.op==17)) (p:=(s.op=16)∨(s.op=17)) (Zz Ze Ze) (fun hc9=>?_) (fun hc9=>?_)
 ·obtain ⟨x,hxa⟩:=hf.one om
  have ha:s.args[0]? = some x:=by rw [hxa];rfl
  have hx:=hf.args x (by rw [hxa];simp)
  have hgx:=QO ha
  have hal:=(Yg.1 ha).1
  refine az (iR 3 [(0,.p b 0),(5,.p b2 0),(7,.i (Zp n L.vars s)),(61,.p b 0),(62,ZJ n),(63,ZN s)] [2,1] [b1,b2] (ic [3,0,2,2,2,2,2] (Ztu b ga gb gc gd ge gf n s L ln q x) ?_))
  rintro _ _ (⟨wa6,wb6,wc6,wd6,we6,wf6,L'2,rfl,rfl,hp7⟩|⟨rfl,rfl,hp8⟩)
  ·have hP:=(Z5g (n:=n) (ln:=ln) (L:=L) hc9 hgx).trans (hp7)
   obtain ⟨kx,hxv⟩:=J8 hn hk hq.1 hf hP
   refine Z0 1 (.n 8 (.b true) .r) (ie (aq (ar (Z0 2 (.n 73 (.b false) .r) (ie (YA (ak (aq (ar (Za 2 (.n 75 (.i s.op) .r) [7] [b2] (ic [] (Q9 s.op) ?_)))))))))))
   rintro _ _ ⟨rfl,rfl⟩
   refine Xl [(0,.p b 0),(5,.p b2 0),(7,.i (Zp n L.vars s)),(80,.b (Yl s.op&&((Zp n L.vars s) != 0)))] [.obj b [.h wa6,.h wb6,.h wc6,.h wd6,.h we6,.h wf6,Z1 ln],rV wa6 L'2.vars,rV wb6 L'2.own,rV wc6 L'2.par,rV wd6 L'2.con,rV we6 L'2.fst,rV wf6 L'2.tok,.obj b2 (ZE s),.obj b1 (ZU n)] ?_ ?_
   ·refine ir 1 [(0,.p b 0),(5,.p b2 0),(7,.i (Zp n L.vars s)),(77,.b (Yl s.op))] (ib (b:=Yl s.op) 77 (fun hb3=>?_) (fun hb3=>?_))
    ·have hp9:Yl s.op=true:=(Iff.rfl).1 hb3
     refine Z0 3 (.n 80 (.b ((Zp n L.vars s) != 0)) (.d (.k (.k (.k .z))))) (ie ?_)
     exact wk [0,0,0,0,0,0,0,0,0] (fw (fr (fc (x:=.b ((Zp n L.vars s) != 0)) (lb (by simp only [hb3];rfl)) fl)))
    have hp10:¬(Yl s.op=true):=Zv Iff.rfl hb3
    refine Z0 3 (.n 80 (.b false) (.d (.k (.k (.k .z))))) (ie ?_)
    exact wk [0,0,0,0,0,0,0,0,0] (fw (fr (fc (x:=.b false) (lb (by simp only [hb3];rfl)) fl)))
   refine ac (Yl s.op&&((Zp n L.vars s) != 0)) (p:=(Yl s.op=true)/\((Zp n L.vars s)≠0)) (ZZ Iff.rfl Zw) (fun hc10=>?_) (fun hc10=>?_)
   ·refine az (ir 2 [(81,.p b 0),(82,.i (Zp n L.vars s))] (ic [0,0,0,0,0,0,0] (Tw b wa6 wb6 wc6 wd6 we6 wf6 L'2 ln (Zp n L.vars s) 1 (-1) (hlb:=(by rw [hxv];omega)) (hlk:=kx.len)) ?_))
    rintro _ _ ⟨wa7,wb7,wc7,wd7,we7,wf7,rfl⟩
    refine ie (ar (ir 1 [(6,.b true)] (ie ?_)))
    exact Z5 (r1 [0,0,0,0,0,0,0] (.inl ⟨wa7,wb7,wc7,wd7,we7,wf7,(L'2.grow (Zp n L.vars s) 1 (-1)),rfl,rfl,(by rw [WU,hP];first|rfl|exact VM (by assumption)|exact VN (by assumption) (by assumption)|exact VO (by assumption))⟩))
   refine ar (iR 2 [(0,.p b 0),(85,.i s.op)] [7] [b2] (ic [] (Q9 s.op) ?_))
   rintro _ _ ⟨rfl,rfl⟩
   refine ie (ac (Yl s.op) Iff.rfl (fun hc11=>?_) (fun hc11=>?_))
   ·refine az (ir 1 [(87,.p b 0)] (ic [0,0,0,0,0,0,0] (Tw b wa6 wb6 wc6 wd6 we6 wf6 L'2 ln 0 0 (-1) (hlb:=(by rw [hxv];omega)) (hlk:=kx.len)) ?_))
    rintro _ _ ⟨wa8,wb8,wc8,wd8,we8,wf8,rfl⟩
    refine ie (ar (ir 1 [(6,.b true)] (ie ?_)))
    exact Z5 (r1 [0,0,0,0,0,0,0] (.inl ⟨wa8,wb8,wc8,wd8,we8,wf8,(L'2.grow 0 0 (-1)),rfl,rfl,(by rw [WU,hP];first|rfl|exact VM (by assumption)|exact VN (by assumption) (by assumption)|exact VO (by assumption))⟩))
   refine ak (ar (ir 1 [(6,.b true)] (ie ?_)))
   exact Z5 (r1 [0,0,0,0,0,0,0] (.inl ⟨wa6,wb6,wc6,wd6,we6,wf6,L'2,rfl,rfl,(by rw [WU,hP];first|rfl|exact VM (by assumption)|exact VN (by assumption) (by assumption)|exact VO (by assumption))⟩))
  have hP:=(Z5g (n:=n) (ln:=ln) (L:=L) hc9 hgx).trans (hp8)
  refine Z0 1 (.n 8 (.b false) .r) (ie (aq (ar (Z0 2 (.n 73 (.b true) .r) (ie (X8 (ar (ir 1 [(6,.b false)] (ie ?_)))))))))
  exact Z5 (r1 [] (.inr ⟨rfl,rfl,(by rw [WU,hP];first|rfl|exact VM (by assumption)|exact VN (by assumption) (by assumption)|exact VO (by assumption))⟩))
 refine aq (ar (ir 2 [(0,.p b 0),(4,.p b1 0),(5,.p b2 0),(7,.i (Zp n L.vars s)),(17,.i s.op),(65,.b (s.op==7))] (ie (Ug (fun F h=>F=[(0,.p b 0),(4,.p b1 0),(5,.p b2 0),(7,.i (Zp n L.vars s)),(65,.b ((s.op==7)||(s.op==8)))]/\h=[rV ga L.vars,.obj b2 (ZE s),.obj b1 (ZU n),.obj b [.h ga,.h gb,.h gc,.h gd,.h ge,.h gf,Z1 ln],rV gb L.own,rV gc L.par,rV gd L.con,rV ge L.fst,rV gf L.tok]) ?_ ?_))))
 ·refine ac (s.op==7) Ze (fun hc12=>?_) (fun hc12=>?_)
  ·refine ak ?_
   exact ⟨_,_,⟨rfl,rfl⟩,(wk [0,0,0,0,0,0,0,0,0] (fq (fc (x:=.b (s.op==7)) (lb (by first|rfl|(rw [Z8 hc12])|(rw [Z4 hc12])|(simp [hc12];done)|(rw [YW];simp [hc12];done)|omega)) fl)))⟩
  refine az (ir 2 [(0,.p b 0),(4,.p b1 0),(5,.p b2 0),(7,.i (Zp n L.vars s)),(65,.b (s.op==8))] (ie ?_))
  exact ⟨_,_,⟨rfl,rfl⟩,(wk [0,0,0,0,0,0,0,0,0] (fq (fc (x:=.b (s.op==8)) (lb (by first|rfl|(rw [Z8 hc12])|(rw [Z4 hc12])|(simp [hc12];done)|(rw [YW];simp [hc12];done)|omega)) fl)))⟩
 rintro F h ⟨rfl,rfl⟩
 refine ac ((s.op==7)||(s.op==8)) (p:=(s.op=7)∨(s.op=8)) (Zz Ze Ze) (fun hc13=>?_) (fun hc13=>?_)
 ·refine az (iR 3 [(0,.p b 0),(5,.p b2 0),(7,.i (Zp n L.vars s)),(68,.p b 0),(69,ZJ n),(70,ZN s)] [2,1] [b1,b2] (ic [3,0,2,2,2,2,2] (Ztr b ga gb gc gd ge gf n s L ln q (ih:=ob)) ?_))
  rintro _ _ (⟨wa9,wb9,wc9,wd9,we9,wf9,L'3,rfl,rfl,hp11⟩|⟨rfl,rfl,hp12⟩)
  ·have hP:=(Z2v (n:=n) (ln:=ln) (L:=L) hc13).trans (hp11)
   obtain ⟨kx,hxv⟩:=J8 hn hk hq.1 hf hP
   refine Z0 1 (.n 8 (.b true) .r) (ie (aq (ar (Z0 2 (.n 73 (.b false) .r) (ie (YA (ak (aq (ar (Za 2 (.n 75 (.i s.op) .r) [7] [b2] (ic [] (Q9 s.op) ?_)))))))))))
   rintro _ _ ⟨rfl,rfl⟩
   refine Xl [(0,.p b 0),(5,.p b2 0),(7,.i (Zp n L.vars s)),(80,.b (Yl s.op&&((Zp n L.vars s) != 0)))] [.obj b [.h wa9,.h wb9,.h wc9,.h wd9,.h we9,.h wf9,Z1 ln],rV wa9 L'3.vars,rV wb9 L'3.own,rV wc9 L'3.par,rV wd9 L'3.con,rV we9 L'3.fst,rV wf9 L'3.tok,.obj b2 (ZE s),.obj b1 (ZU n)] ?_ ?_
   ·refine ir 1 [(0,.p b 0),(5,.p b2 0),(7,.i (Zp n L.vars s)),(77,.b (Yl s.op))] (ib (b:=Yl s.op) 77 (fun hb4=>?_) (fun hb4=>?_))
    ·have hp13:Yl s.op=true:=(Iff.rfl).1 hb4
     refine Z0 3 (.n 80 (.b ((Zp n L.vars s) != 0)) (.d (.k (.k (.k .z))))) (ie ?_)
     exact wk [0,0,0,0,0,0,0,0,0] (fw (fr (fc (x:=.b ((Zp n L.vars s) != 0)) (lb (by simp only [hb4];rfl)) fl)))
    have hp14:¬(Yl s.op=true):=Zv Iff.rfl hb4
    refine Z0 3 (.n 80 (.b false) (.d (.k (.k (.k .z))))) (ie ?_)
    exact wk [0,0,0,0,0,0,0,0,0] (fw (fr (fc (x:=.b false) (lb (by simp only [hb4];rfl)) fl)))
   refine ac (Yl s.op&&((Zp n L.vars s) != 0)) (p:=(Yl s.op=true)/\((Zp n L.vars s)≠0)) (ZZ Iff.rfl Zw) (fun hc14=>?_) (fun hc14=>?_)
   ·refine az (ir 2 [(81,.p b 0),(82,.i (Zp n L.vars s))] (ic [0,0,0,0,0,0,0] (Tw b wa9 wb9 wc9 wd9 we9 wf9 L'3 ln (Zp n L.vars s) 1 (-1) (hlb:=(by rw [hxv];omega)) (hlk:=kx.len)) ?_))
    rintro _ _ ⟨wa10,wb10,wc10,wd10,we10,wf10,rfl⟩
    refine ie (ar (ir 1 [(6,.b true)] (ie ?_)))
    exact Z5 (r1 [0,0,0,0,0,0,0] (.inl ⟨wa10,wb10,wc10,wd10,we10,wf10,(L'3.grow (Zp n L.vars s) 1 (-1)),rfl,rfl,(by rw [WU,hP];first|rfl|exact VM (by assumption)|exact VN (by assumption) (by assumption)|exact VO (by assumption))⟩))
   refine ar (iR 2 [(0,.p b 0),(85,.i s.op)] [7] [b2] (ic [] (Q9 s.op) ?_))
   rintro _ _ ⟨rfl,rfl⟩
   refine ie (ac (Yl s.op) Iff.rfl (fun hc15=>?_) (fun hc15=>?_))
   ·refine az (ir 1 [(87,.p b 0)] (ic [0,0,0,0,0,0,0] (Tw b wa9 wb9 wc9 wd9 we9 wf9 L'3 ln 0 0 (-1) (hlb:=(by rw [hxv];omega)) (hlk:=kx.len)) ?_))
    rintro _ _ ⟨wa11,wb11,wc11,wd11,we11,wf11,rfl⟩
    refine ie (ar (ir 1 [(6,.b true)] (ie ?_)))
    exact Z5 (r1 [0,0,0,0,0,0,0] (.inl ⟨wa11,wb11,wc11,wd11,we11,wf11,(L'3.grow 0 0 (-1)),rfl,rfl,(by rw [WU,hP];first|rfl|exact VM (by assumption)|exact VN (by assumption) (by assumption)|exact VO (by assumption))⟩))
   refine ak (ar (ir 1 [(6,.b true)] (ie ?_)))
   exact Z5 (r1 [0,0,0,0,0,0,0] (.inl ⟨wa9,wb9,wc9,wd9,we9,wf9,L'3,rfl,rfl,(by rw [WU,hP];first|rfl|exact VM (by assumption)|exact VN (by assumption) (by assumption)|exact VO (by assumption))⟩))
  have hP:=(Z2v (n:=n) (ln:=ln) (L:=L) hc13).trans (hp12)
  refine Z0 1 (.n 8 (.b false) .r) (ie (aq (ar (Z0 2 (.n 73 (.b true) .r) (ie (X8 (ar (ir 1 [(6,.b false)] (ie ?_)))))))))
  exact Z5 (r1 [] (.inr ⟨rfl,rfl,(by rw [WU,hP];first|rfl|exact VM (by assumption)|exact VN (by assumption) (by assumption)|exact VO (by assumption))⟩))
 refine az (iR 3 [(0,.p b 0),(5,.p b2 0),(7,.i (Zp n L.vars s)),(18,.p b 0),(19,ZJ n),(20,ZN s)] [2,1] [b1,b2] (ic [3,0,2,2,2,2,2] (Ztt b ga gb gc gd ge gf n s L ln q (hnum:=hf.num) (hargs:=hf.args) (hinto:=(fun q=>(hf.into om).2))) ?_))
 rintro _ _ (⟨wa12,wb12,wc12,wd12,we12,wf12,L'4,rfl,rfl,hp15⟩|⟨rfl,rfl,hp16⟩)
 ·have hP:=(Zi6 (n:=n) (ln:=ln) (L:=L) hc1 hc5 hc9 hc13).trans (hp15)
  obtain ⟨kx,hxv⟩:=J8 hn hk hq.1 hf hP
  refine Z0 1 (.n 8 (.b true) .r) (ie (aq (ar (Z0 2 (.n 73 (.b false) .r) (ie (YA (ak (aq (ar (Za 2 (.n 75 (.i s.op) .r) [7] [b2] (ic [] (Q9 s.op) ?_)))))))))))
  rintro _ _ ⟨rfl,rfl⟩
  refine Xl [(0,.p b 0),(5,.p b2 0),(7,.i (Zp n L.vars s)),(80,.b (Yl s.op&&((Zp n L.vars s) != 0)))] [.obj b [.h wa12,.h wb12,.h wc12,.h wd12,.h we12,.h wf12,Z1 ln],rV wa12 L'4.vars,rV wb12 L'4.own,rV wc12 L'4.par,rV wd12 L'4.con,rV we12 L'4.fst,rV wf12 L'4.tok,.obj b2 (ZE s),.obj b1 (ZU n)] ?_ ?_
  ·refine ir 1 [(0,.p b 0),(5,.p b2 0),(7,.i (Zp n L.vars s)),(77,.b (Yl s.op))] (ib (b:=Yl s.op) 77 (fun hb5=>?_) (fun hb5=>?_))
   ·have hp17:Yl s.op=true:=(Iff.rfl).1 hb5
    refine Z0 3 (.n 80 (.b ((Zp n L.vars s) != 0)) (.d (.k (.k (.k .z))))) (ie ?_)
    exact wk [0,0,0,0,0,0,0,0,0] (fw (fr (fc (x:=.b ((Zp n L.vars s) != 0)) (lb (by simp only [hb5];rfl)) fl)))
   have hp18:¬(Yl s.op=true):=Zv Iff.rfl hb5
   refine Z0 3 (.n 80 (.b false) (.d (.k (.k (.k .z))))) (ie ?_)
   exact wk [0,0,0,0,0,0,0,0,0] (fw (fr (fc (x:=.b false) (lb (by simp only [hb5];rfl)) fl)))
  refine ac (Yl s.op&&((Zp n L.vars s) != 0)) (p:=(Yl s.op=true)/\((Zp n L.vars s)≠0)) (ZZ Iff.rfl Zw) (fun hc16=>?_) (fun hc16=>?_)
  ·refine az (ir 2 [(81,.p b 0),(82,.i (Zp n L.vars s))] (ic [0,0,0,0,0,0,0] (Tw b wa12 wb12 wc12 wd12 we12 wf12 L'4 ln (Zp n L.vars s) 1 (-1) (hlb:=(by rw [hxv];omega)) (hlk:=kx.len)) ?_))
   rintro _ _ ⟨wa13,wb13,wc13,wd13,we13,wf13,rfl⟩
   refine ie (ar (ir 1 [(6,.b true)] (ie ?_)))
   exact Z5 (r1 [0,0,0,0,0,0,0] (.inl ⟨wa13,wb13,wc13,wd13,we13,wf13,(L'4.grow (Zp n L.vars s) 1 (-1)),rfl,rfl,(by rw [WU,hP];first|rfl|exact VM (by assumption)|exact VN (by assumption) (by assumption)|exact VO (by assumption))⟩))
  refine ar (iR 2 [(0,.p b 0),(85,.i s.op)] [7] [b2] (ic [] (Q9 s.op) ?_))
  rintro _ _ ⟨rfl,rfl⟩
  refine ie (ac (Yl s.op) Iff.rfl (fun hc17=>?_) (fun hc17=>?_))
  ·refine az (ir 1 [(87,.p b 0)] (ic [0,0,0,0,0,0,0] (Tw b wa12 wb12 wc12 wd12 we12 wf12 L'4 ln 0 0 (-1) (hlb:=(by rw [hxv];omega)) (hlk:=kx.len)) ?_))
   rintro _ _ ⟨wa14,wb14,wc14,wd14,we14,wf14,rfl⟩
   refine ie (ar (ir 1 [(6,.b true)] (ie ?_)))
   exact Z5 (r1 [0,0,0,0,0,0,0] (.inl ⟨wa14,wb14,wc14,wd14,we14,wf14,(L'4.grow 0 0 (-1)),rfl,rfl,(by rw [WU,hP];first|rfl|exact VM (by assumption)|exact VN (by assumption) (by assumption)|exact VO (by assumption))⟩))
  refine ak (ar (ir 1 [(6,.b true)] (ie ?_)))
  exact Z5 (r1 [0,0,0,0,0,0,0] (.inl ⟨wa12,wb12,wc12,wd12,we12,wf12,L'4,rfl,rfl,(by rw [WU,hP];first|rfl|exact VM (by assumption)|exact VN (by assumption) (by assumption)|exact VO (by assumption))⟩))
 have hP:=(Zi6 (n:=n) (ln:=ln) (L:=L) hc1 hc5 hc9 hc13).trans (hp16)
 refine Z0 1 (.n 8 (.b false) .r) (ie (aq (ar (Z0 2 (.n 73 (.b true) .r) (ie (X8 (ar (ir 1 [(6,.b false)] (ie ?_)))))))))
 exact Z5 (r1 [] (.inr ⟨rfl,rfl,(by rw [WU,hP];first|rfl|exact VM (by assumption)|exact VN (by assumption) (by assumption)|exact VO (by assumption))⟩))
theorem Ztp (c:Nat) (ga:Hd) (gb:Hd) (gc:Hd) (gd:Hd) (ge:Hd) (gf:Hd) (n:Normal) (b:Block) (L:Led) (ln:List Int) (q:Int) (mm:Nat) (hn:NOk n) (hk:LOk n.decls L q) (ht:0<=ZF n L.vars b) (hm:mm<=L.vars.length) (hb:L.vars.length+4*b.sz<=1000000000) (hq:0<=q/\q+4*b.sz<=999999990) (hln:ln.length<=4294967296) (ih:∀(s2:Step) (c:Nat) (ra:Hd) (rb:Hd) (rc:Hd) (rd:Hd) (re:Hd) (rf:Hd) (M:Led) (p:Int),(s2.sz<b.sz)->(LOk n.decls M p)->(0<=Zp n M.vars s2)->(M.vars.length+4*s2.sz<=1000000000)->(0<=p/\p+4*s2.sz<=999999990)->Zd Tryz.prog 109 [.p c 0,ZJ n,ZN s2] [.obj c [.h ra,.h rb,.h rc,.h rd,.h re,.h rf,Z1 ln],rV ra M.vars,rV rb M.own,rV rc M.par,rV rd M.con,rV re M.fst,rV rf M.tok] (fun r h=>(∃(wa:Hd) (wb:Hd) (wc:Hd) (wd:Hd) (we:Hd) (wf:Hd) (M':Led),r=.b true/\h=[.obj c [.h wa,.h wb,.h wc,.h wd,.h we,.h wf,Z1 ln],rV wa M'.vars,rV wb M'.own,rV wc M'.par,rV wd M'.con,rV we M'.fst,rV wf M'.tok]/\Vc n ln M s2=some M')∨(r=.b false/\h=[]/\Vc n ln M s2=none))):Zd Tryz.prog 72 [.p c 0,ZJ n,Zx b,.i mm] [.obj c [.h ga,.h gb,.h gc,.h gd,.h ge,.h gf,Z1 ln],rV ga L.vars,rV gb L.own,rV gc L.par,rV gd L.con,rV ge L.fst,rV gf L.tok] (fun r h=>(∃(wa:Hd) (wb:Hd) (wc:Hd) (wd:Hd) (we:Hd) (wf:Hd) (L':Led),r=.b true/\h=[.obj c [.h wa,.h wb,.h wc,.h wd,.h we,.h wf,Z1 ln],rV wa L'.vars,rV wb L'.own,rV wc L'.par,rV wd L'.con,rV we L'.fst,rV wf L'.tok]/\Xv n ln L mm b=some L')∨(r=.b false/\h=[]/\Xv n ln L mm b=none)):=by
 have hbz:=b.sz_eq
 obtain ⟨vs,rt,hvs,hres,hrt⟩:=QF ht
 have hri:=Tn hres
 have hsz:=Z02 b
 refine enter Tryz.func72 kr (n:=45) kr kr (ar (iA (ZU n) ?_))
 intro b1
 refine iA (YY b) ?_
 intro b2
 refine ir 1 [(0,.p c 0),(3,.i mm),(5,.p b1 0),(6,.p b2 0)] (ie (aq (ar (Z0 1 (.n 9 (.i 0) .r) (ie (ab 0 (al (fun m F h=>∃(k:Nat) (q2:Int) (L2:Led) (ka:Hd) (kb:Hd) (kc:Hd) (kd:Hd) (ke:Hd) (kf:Hd),(k<=b.steps.length)/\(LOk n.decls L2 q2)/\(0<=q2/\q2+4*ZR (b.steps.drop k)<=999999990)/\(L2.vars.length+4*ZR (b.steps.drop k)<=1000000000)/\(X7 n (b.steps.drop k) L2.vars=some vs)/\(Xz n ln L2 (b.steps.drop k)=Xz n ln L b.steps)/\(L.vars.length<=L2.vars.length)/\F=[(0,.p c 0),(3,.i mm),(5,.p b1 0),(6,.p b2 0),(9,.i k)]/\h=[.obj b2 (YY b),.obj b1 (ZU n),.obj c [.h ka,.h kb,.h kc,.h kd,.h ke,.h kf,Z1 ln],rV ka L2.vars,rV kb L2.own,rV kc L2.par,rV kd L2.con,rV ke L2.fst,rV kf L2.tok]/\m=b.steps.length-k) _ _ _ ⟨0,q,L,ga,gb,gc,gd,ge,gf,ob,hk,(by rw [VR];omega),(by rw [VR];omega),hvs,rfl,om,rfl,rfl,rfl⟩ (wk [0,0,0,0,0,0,0,0,0] (fq (fc (x:=.i 0) li fl))) ?_)))))))
 rintro m F h ⟨k,q2,L2,ka,kb,kc,kd,ke,kf,c0_0,c0_1,c0_2,c0_3,c0_4,c0_5,c0_6,rfl,rfl,rfl⟩
 refine aq (ar (Za 3 (.n 10 (.i k) (.n 12 (ZX b.steps) .r)) [0] [b2] (iw (UK b.steps) (Z0 1 (.n 14 (.b (decide ((k:Int)<(b.steps.length:Int)))) .r) (ie (ac (decide ((k:Int)<(b.steps.length:Int))) dq (fun hc1=>?_) (fun hc1=>?_)))))))
 ·obtain ⟨s1,hs1⟩:=Zl (xs:=b.steps) (j:=k) om
  have hss:=Zb4 hs1
  have hdr:=Zu hs1
  have hz:ZR (b.steps.drop k)=s1.sz+ZR (b.steps.drop (k+1)):=by rw [hdr,ZR]
  rw [hdr] at c0_4 c0_5
  obtain ⟨g1,g2⟩:=KA c0_4
  refine ak (aq (ab 1 (aD 9 (ZI (fuel:=4) 9 [0,1,2,3,4] (.n 17 (.p c 0) (.n 18 (ZJ n) (.n 20 (ZX b.steps) (.n 21 (.i k) .r)))) [1,0] [b1,b2] (dx 5 (Zj (es:=Wg b.steps) (hv:=none) (j:=(k:Int)) (sz:=5) (y:=ZN s1) kr om (T6 hs1) rfl) (Zi (fuel:=2) 3 [6] (.n 23 (ZN s1) .r) (Zm 7 (dc 7 [2,2,2,2,2,2,2] [] [] (ih s1 c ka kb kc kd ke kf L2 q2 ob c0_1 g1 om om) ?_))))))))
  rintro _ _ (⟨wa1,wb1,wc1,wd1,we1,wf1,M'1,rfl,rfl,hp1⟩|⟨rfl,rfl,hp2⟩)
  ·have hP:=hp1
   have kx:=Z5x hn c0_1 c0_2.1 g1 hP
   refine Zi (fuel:=0) 1 [8] (.n 25 (.b false) .r) (de (YA (ak (az (Z0 1 (.n 15 (.i k) .r) (ia (((k+1:Nat):Int)) (((k:Int))+(1)) (ir 1 [(0,.p c 0),(3,.i mm),(5,.p b1 0),(6,.p b2 0),(9,.i (k+1:Nat))] (ie ?_))))))))
   exact ⟨_,_,_,ob,⟨k+1,(q2+4*s1.sz),M'1,wa1,wb1,wc1,wd1,we1,wf1,ob,kx.1,om,(by rw [kx.2];have:=Jc n L2.vars s1;omega),(by rw [kx.2];exact g2),(by rw [<-c0_5,Xz,hP];rfl),(by rw [kx.2];have:=Jc n L2.vars s1;omega),rfl,rfl,rfl⟩,(wk [7,7,0,0,0,0,0,0,0] (fq (fc (x:=.i (k+1:Nat)) li fl)))⟩
  have hP:=hp2
  refine Zi (fuel:=0) 1 [8] (.n 25 (.b true) .r) (de (X8 (ar (ir 1 [(8,.b false)] (ie ?_)))))
  exact Z5 (r1 [] (.inr ⟨rfl,rfl,(by rw [To,<-c0_5,Xz,hP];rfl)⟩))
 rw [Ye om] at c0_4 c0_5
 have hvv:L2.vars=vs:=by rw [X7] at c0_4;exact U6 c0_4
 have hB:Xv n ln L mm b=WE mm b.result L2:=by rw [To,<-c0_5,Xz];rfl
 obtain ⟨xr,hxr⟩:=Zl (xs:=L2.vars) (j:=b.result.toNat) (by rw [hvv];omega)
 have hgr:=XR hxr
 have hrl:0<=b.result/\b.result<L2.vars.length:=by rw [hvv];omega
 rw [X7] at c0_4
 refine ax 0 (aq (aD 16 (ZI (fuel:=10) 16 [0,1,2,3,4,5] (.n 29 (.h ka) (.n 31 (.i b.result) .r)) [2,0] [c,b2] (dx 6 (Xb 3 ka L2.vars b.result b.result.toNat (hq:=rfl)) (Qp 7 (WA 3 ka L2.vars b.result.toNat xr hxr) (Zi (fuel:=6) 8 [8,9] (.n 35 (.b (xr != 0)) .r) (db (b:=(xr != 0)) 35 (fun hb1=>?_) (fun hb1=>?_))))))))
 ·have hp3:xr≠0:=(Zw).1 hb1
  refine ZI (fuel:=3) 6 [10,11,12] (.n 36 (.p c 0) (.n 38 (.i b.result) (.k (.d .r)))) [0] [b2] (Zm 13 (dc 13 [2,2,2,2,2,2,2] [] [] (Z55 c ka kb kc kd ke kf L2 ln b.result (hlk:=c0_1.len) (hq:=(fun y hy=>⟨c0_1.nn y hy,by have:=c0_1.bd y hy;omega⟩))) ?_))
  rintro _ _ (⟨wa2,wb2,wc2,wd2,we2,wf2,L'1,rfl,rfl,hp4⟩|⟨rfl,rfl,hp5⟩)
  ·have hE:=hB.trans (Zph hgr (by assumption) hp4)
   have kx:=c0_1.take hp4
   have hxv:L'1.vars.length=L2.vars.length:=by rw [(Tb hp4).2.1]
   refine Zi (fuel:=0) 2 [14,15] (.n 41 (.b false) .r) (de (YA (ak (ar (ir 2 [(42,.p c 0),(43,.i mm)] (ic [0,0,0,0,0,0,0] (Z93 c wa2 wb2 wc2 wd2 we2 wf2 L'1 ln mm (hlk:=(by first|exact kx.len|exact c0_1.len)) (hlb:=om) (hm:=om)) ?_))))))
   rintro _ _ (⟨wa3,wb3,wc3,wd3,we3,wf3,L'2,rfl,rfl,hp6⟩|⟨rfl,rfl,hp7⟩)
   ·refine ir 1 [(8,.b true)] (ie ?_)
    exact Z5 (r1 [0,0,0,0,0,0,0] (.inl ⟨wa3,wb3,wc3,wd3,we3,wf3,L'2,rfl,rfl,(by first|exact hE|(rw [hE];exact hp6)|(rw [hB,Z29 hgr (by assumption)];exact hp6))⟩))
   refine ir 1 [(8,.b false)] (ie ?_)
   exact Z5 (r1 [] (.inr ⟨rfl,rfl,(by first|exact hE|(rw [hE];exact hp7)|(rw [hB,Z29 hgr (by assumption)];exact hp7))⟩))
  have hE:=hB.trans (Zpg hgr (by assumption) hp5)
  refine Zi (fuel:=0) 2 [14,15] (.n 41 (.b true) .r) (de (X8 (ar (ir 1 [(8,.b false)] (ie ?_)))))
  exact Z5 (r1 [] (.inr ⟨rfl,rfl,(by first|exact hE|(rw [hE];exact hp5)|(rw [hB,Z29 hgr (by assumption)];exact hp5))⟩))
 have hp8:¬(xr≠0):=Zv Zw hb1
 refine Zi (fuel:=0) 6 [10,11,12,13,14,15] (.n 41 (.b false) (.k (.d .r))) (de (YA (ak (ar (ir 2 [(42,.p c 0),(43,.i mm)] (ic [2,2,2,2,2,2,2] (Z93 c ka kb kc kd ke kf L2 ln mm (hlk:=(by first|exact kx.len|exact c0_1.len)) (hlb:=om) (hm:=om)) ?_))))))
 rintro _ _ (⟨wa4,wb4,wc4,wd4,we4,wf4,L'3,rfl,rfl,hp9⟩|⟨rfl,rfl,hp10⟩)
 ·refine ir 1 [(8,.b true)] (ie ?_)
  exact Z5 (r1 [0,0,0,0,0,0,0] (.inl ⟨wa4,wb4,wc4,wd4,we4,wf4,L'3,rfl,rfl,(by first|exact hE|(rw [hE];exact hp9)|(rw [hB,Z29 hgr (by assumption)];exact hp9))⟩))
 refine ir 1 [(8,.b false)] (ie ?_)
 exact Z5 (r1 [] (.inr ⟨rfl,rfl,(by first|exact hE|(rw [hE];exact hp10)|(rw [hB,Z29 hgr (by assumption)];exact hp10))⟩))
theorem Ztq (n:Normal) (ln:List Int) (hn:NOk n) (hln:ln.length<=4294967296) (m:Nat):∀(b2:Block) (c:Nat) (ra:Hd) (rb:Hd) (rc:Hd) (rd:Hd) (re:Hd) (rf:Hd) (M:Led) (mm:Nat) (p:Int),(b2.sz<m+1)->(LOk n.decls M p)->(0<=ZF n M.vars b2)->(mm<=M.vars.length)->(M.vars.length+4*b2.sz<=1000000000)->(0<=p/\p+4*b2.sz<=999999990)->Zd Tryz.prog 72 [.p c 0,ZJ n,Zx b2,.i mm] [.obj c [.h ra,.h rb,.h rc,.h rd,.h re,.h rf,Z1 ln],rV ra M.vars,rV rb M.own,rV rc M.par,rV rd M.con,rV re M.fst,rV rf M.tok] (fun r h=>(∃(wa:Hd) (wb:Hd) (wc:Hd) (wd:Hd) (we:Hd) (wf:Hd) (M':Led),r=.b true/\h=[.obj c [.h wa,.h wb,.h wc,.h wd,.h we,.h wf,Z1 ln],rV wa M'.vars,rV wb M'.own,rV wc M'.par,rV wd M'.con,rV we M'.fst,rV wf M'.tok]/\Xv n ln M mm b2=some M')∨(r=.b false/\h=[]/\Xv n ln M mm b2=none)):=by
 induction m with
 | zero=>intro b c ga gb gc gd ge gf L mm q h;have:=b.sz_pos;omega
 | succ m ih=>
  intro b c ga gb gc gd ge gf L mm q h1 hk ht hm hb hp
  exact Ztp c ga gb gc gd ge gf n b L ln q mm hn hk ht hm hb hp hln fun s c ga gb gc gd ge gf L q h2 hk ht hb hp=>Ztv c ga gb gc gd ge gf n s L ln q hn hk ht hb hp hln
   fun b2 c ga gb gc gd ge gf L mm q h3 hk ht hm hb hp=>ih b2 c ga gb gc gd ge gf L mm q om hk ht hm hb hp
theorem Zto (c:Nat) (ra:Hd) (rb:Hd) (rc:Hd) (rd:Hd) (re:Hd) (rf:Hd) (n:Normal) (b2:Block) (M:Led) (ln:List Int) (mm:Nat) (p:Int) (hn:NOk n) (hln:ln.length<=4294967296) (hk:LOk n.decls M p) (ht:0<=ZF n M.vars b2) (hm:mm<=M.vars.length) (hb:M.vars.length+4*b2.sz<=1000000000) (hp:0<=p/\p+4*b2.sz<=999999990):Zd Tryz.prog 72 [.p c 0,ZJ n,Zx b2,.i mm] [.obj c [.h ra,.h rb,.h rc,.h rd,.h re,.h rf,Z1 ln],rV ra M.vars,rV rb M.own,rV rc M.par,rV rd M.con,rV re M.fst,rV rf M.tok] (fun r h=>(∃(wa:Hd) (wb:Hd) (wc:Hd) (wd:Hd) (we:Hd) (wf:Hd) (M':Led),r=.b true/\h=[.obj c [.h wa,.h wb,.h wc,.h wd,.h we,.h wf,Z1 ln],rV wa M'.vars,rV wb M'.own,rV wc M'.par,rV wd M'.con,rV we M'.fst,rV wf M'.tok]/\Xv n ln M mm b2=some M')∨(r=.b false/\h=[]/\Xv n ln M mm b2=none)):=Ztq n ln hn hln b2.sz b2 c ra rb rc rd re rf M mm p om hk ht hm hb hp
theorem Zyh (rt:Routine) (hp:rt.params.length<=1000000:=by exact ob) (hl:rt.lent.length<=4294967296:=by exact ob):Zd Tryz.prog 71 [Xc rt] [] (fun r h=>∃(c:Nat) (wa:Hd) (wb:Hd) (wc:Hd) (wd:Hd) (we:Hd) (wf:Hd),r=.p c 0/\h=[.obj c [.h wa,.h wb,.h wc,.h wd,.h we,.h wf,Z1 rt.lent],rV wa ((XM rt).vars),rV wb ((XM rt).own),rV wc ((XM rt).par),rV wd ((XM rt).con),rV we ((XM rt).fst),rV wf ((XM rt).tok)]):=by
 refine enter Tryz.func71 kr (n:=45) kr kr (ar (iA (WI rt) ?_))
 intro b1
 refine ir 1 [(1,.p b1 0)] (ie (ar (Za 2 (.n 6 (Z1 rt.lent) .r) [0] [b1] (ic [] (K3 rt.lent) ?_))))
 rintro _ _ ⟨v1,rfl,rfl⟩
 refine Z0 1 (.n 8 (.agg [nl,nl,nl,nl,nl,nl,Z1 rt.lent]) .r) (iA [nl,nl,nl,nl,nl,nl,Z1 rt.lent] ?_)
 intro b2
 refine WR (Zb7 0 b2 [nl,nl,nl,nl,nl,nl,Z1 rt.lent] [.h hN,.h hN,.h hN,.h hN,.h hN,.h hN,Z1 rt.lent] (.cons (Zg.hd (v:=hN)) (.cons (Zg.hd (v:=hN)) (.cons (Zg.hd (v:=hN)) (.cons (Zg.hd (v:=hN)) (.cons (Zg.hd (v:=hN)) (.cons (Zg.hd (v:=hN)) (.cons (lr _) .nil)))))))) (WR (Qy) (WR (Qy) (WR (Qy) (WR (Qy) (WR (Qy) (WR (Qy) (Z0 1 (.n 3 (.p b2 0) .r) (ie (aq (ar (Z0 1 (.n 4 (.i 0) .r) (ie (ab 0 (al (fun m F h=>∃(k:Nat) (L2:Led) (ka:Hd) (kb:Hd) (kc:Hd) (kd:Hd) (ke:Hd) (kf:Hd),(k<=rt.params.length)/\(LLen L2)/\(L2.vars.length=k)/\(U3 rt.lent (rt.params.drop k) k L2=XM rt)/\F=[(1,.p b1 0),(3,.p b2 0),(4,.i k)]/\h=[.obj b2 [.h ka,.h kb,.h kc,.h kd,.h ke,.h kf,Z1 rt.lent],.obj b1 (WI rt),rV ka L2.vars,rV kb L2.own,rV kc L2.par,rV kd L2.con,rV ke L2.fst,rV kf L2.tok]/\m=rt.params.length-k) _ _ _ ⟨0,(Led.mk [] [] [] [] [] []),hN,hN,hN,hN,hN,hN,ob,⟨rfl,rfl,rfl,rfl,rfl⟩,rfl,rfl,rfl,rfl,rfl⟩ (wk [6,7,0,0,0,0,0,0] (fw (fc (x:=.i 0) li fl)) (e:=(rc (rc (rv (xs:=[]) ob (rv (xs:=[]) ob (rv (xs:=[]) ob (rv (xs:=[]) ob (rv (xs:=[]) ob (rv (xs:=[]) ob rz)))))))))) ?_))))))))))))))
 rintro m F h ⟨k,L2,ka,kb,kc,kd,ke,kf,c0_0,c0_1,c0_2,c0_3,rfl,rfl,rfl⟩
 refine aq (ar (Za 3 (.n 10 (.i k) (.n 12 (Z1 rt.params) .r)) [1] [b1] (iw (ZD rt.params) (Z0 1 (.n 14 (.b (decide ((k:Int)<(rt.params.length:Int)))) .r) (ie (ac (decide ((k:Int)<(rt.params.length:Int))) dq (fun hc1=>?_) (fun hc1=>?_)))))))
 ·refine ak (aq (ab 1 (ar (Za 3 (.n 18 (Z1 rt.params) (.n 19 (.i k) .r)) [1] [b1] ?_))))
  obtain ⟨x1,hx1⟩:=Zl (xs:=rt.params) (j:=k) om
  refine Zf (Zj (es:=Z6 rt.params) (hv:=none) (j:=(k:Int)) (sz:=1) (y:=.i x1) kr om (ZH hx1) rfl) (Xl [(1,.p b1 0),(3,.p b2 0),(4,.i k),(29,.b ((x1 != 0)&&(!(decide ((k:Int)∈rt.lent)))))] [.obj b2 [.h ka,.h kb,.h kc,.h kd,.h ke,.h kf,Z1 rt.lent],.obj b1 (WI rt),rV ka L2.vars,rV kb L2.own,rV kc L2.par,rV kd L2.con,rV ke L2.fst,rV kf L2.tok] ?_ ?_)
  ·refine ir 3 [(1,.p b1 0),(3,.p b2 0),(4,.i k),(23,.b (x1 != 0))] (ib (b:=(x1 != 0)) 23 (fun hb1=>?_) (fun hb1=>?_))
   ·have hp1:x1≠0:=(Zw).1 hb1
    refine Za 3 (.n 25 (Z1 rt.lent) (.n 26 (.i k) (.w .z))) [1] [b1] (ic [] (Zaz rt.lent (k:Int)) ?_)
    rintro _ _ ⟨rfl,rfl⟩
    refine Z0 2 (.n 29 (.b (!(decide ((k:Int)∈rt.lent)))) .r) (ie ?_)
    exact wk [0,0,0,0,0,0,0,0] (fw (fr (fc (x:=.b (!(decide ((k:Int)∈rt.lent)))) (lb (by simp only [hb1];rfl)) fl)))
   have hp2:¬(x1≠0):=Zv Zw hb1
   refine Z0 6 (.n 29 (.b false) (.d (.k (.k (.k .z))))) (ie ?_)
   exact wk [0,0,0,0,0,0,0,0] (fw (fr (fc (x:=.b false) (lb (by simp only [hb1];rfl)) fl)))
  refine ac ((x1 != 0)&&(!(decide ((k:Int)∈rt.lent)))) (p:=(x1≠0)/\(¬((k:Int)∈rt.lent))) (ZZ Zw (ZP dq)) (fun hc2=>?_) (fun hc2=>?_)
  ·refine az (iR 4 [(1,.p b1 0),(3,.p b2 0),(4,.i k),(30,.p b2 0),(32,Z1 rt.params),(33,.i k)] [1] [b1] (Zf (Zj (es:=Z6 rt.params) (hv:=none) (j:=(k:Int)) (sz:=1) (y:=.i x1) kr om (ZH hx1) rfl) (Z0 1 (.n 35 (.i x1) .r) (ic [0,1,1,1,1,1,1] (Tw b2 ka kb kc kd ke kf L2 rt.lent x1 1 (-1) (hlk:=c0_1)) ?_))))
   rintro _ _ ⟨wa1,wb1,wc1,wd1,we1,wf1,rfl⟩
   refine ie (az (Z0 1 (.n 15 (.i k) (.p .r)) (ia (((k+1:Nat):Int)) (((k:Int))+(1)) (ir 1 [(1,.p b1 0),(3,.p b2 0),(4,.i (k+1:Nat))] (ie ?_)))))
   exact ⟨_,_,_,ob,⟨k+1,(L2.grow x1 1 (-1)),wa1,wb1,wc1,wd1,we1,wf1,ob,(LLen.grow c0_1),(by simp [Led.grow];omega),(by rw [Zu hx1,U3] at c0_3;first|(rw [Z8 hc2] at c0_3;exact c0_3)|(rw [Z4 hc2] at c0_3;exact c0_3)),rfl,rfl,rfl⟩,(wk [0,6,0,0,0,0,0,0] (fw (fc (x:=.i (k+1:Nat)) li fl)))⟩
  refine az (iR 4 [(1,.p b1 0),(3,.p b2 0),(4,.i k),(37,.p b2 0),(39,Z1 rt.params),(40,.i k)] [1] [b1] (Zf (Zj (es:=Z6 rt.params) (hv:=none) (j:=(k:Int)) (sz:=1) (y:=.i x1) kr om (ZH hx1) rfl) (Z0 1 (.n 42 (.i x1) .r) (ic [0,1,1,1,1,1,1] (Tw b2 ka kb kc kd ke kf L2 rt.lent x1 0 (-1) (hlk:=c0_1)) ?_))))
  rintro _ _ ⟨wa2,wb2,wc2,wd2,we2,wf2,rfl⟩
  refine ie (az (Z0 1 (.n 15 (.i k) (.p .r)) (ia (((k+1:Nat):Int)) (((k:Int))+(1)) (ir 1 [(1,.p b1 0),(3,.p b2 0),(4,.i (k+1:Nat))] (ie ?_)))))
  exact ⟨_,_,_,ob,⟨k+1,(L2.grow x1 0 (-1)),wa2,wb2,wc2,wd2,we2,wf2,ob,(LLen.grow c0_1),(by simp [Led.grow];omega),(by rw [Zu hx1,U3] at c0_3;first|(rw [Z8 hc2] at c0_3;exact c0_3)|(rw [Z4 hc2] at c0_3;exact c0_3)),rfl,rfl,rfl⟩,(wk [0,6,0,0,0,0,0,0] (fw (fc (x:=.i (k+1:Nat)) li fl)))⟩
 refine ax 0 (ar (ir 2 [(2,.p b2 0)] (ie ?_)))
 have hNl:L2=XM rt:=by rw [<-c0_3,Ye om];rfl
 exact Z5 (r1 [0,1,1,1,1,1,1] ⟨b2,ka,kb,kc,kd,ke,kf,rfl,rfl⟩ (eq:=(rc (rv (xs:=L2.vars) (by rw [hNl]) (rv (xs:=L2.own) (by rw [hNl]) (rv (xs:=L2.par) (by rw [hNl]) (rv (xs:=L2.con) (by rw [hNl]) (rv (xs:=L2.fst) (by rw [hNl]) (rv (xs:=L2.tok) (by rw [hNl]) rz)))))))))
theorem Zy1 (n:Normal) (f:Nat) (rt:Routine) (hn:NOk n:=by exact ob) (hr:n.routines[f]? = some rt:=by exact ob) (ht:0<=ZF n rt.params rt.body:=by exact ob) (hz:rt.body.sz<=100000000:=by exact ob):Zd Tryz.prog 36 [ZJ n,.i f] [] (fun r h=>r=.b (VU n rt)/\h=[]):=by
 have hfl:=(Yg.1 hr).1
 have hpl:=hn.params_at hr
 have hll:=hn.lent_at hr
 obtain ⟨hk,hkv⟩:=Z9g n.decls rt
 refine enter Tryz.func36 kr (n:=26) kr kr (ar (iA (ZU n) ?_))
 intro b1
 refine ir 1 [(1,.i f),(2,.p b1 0)] (ie (ar (Za 3 (.n 8 (Yh n.routines) (.n 9 (.i f) .r)) [0] [b1] (Zf (Zj (es:=WD n.routines) (hv:=none) (j:=(f:Int)) (sz:=5) (y:=Xc rt) kr om (VX hr) rfl) (Z0 1 (.n 11 (Xc rt) .r) (iA [nl,nl,.i 0,nl,.i 0] ?_))))))
 intro b2
 refine iS 0 b2 0 (WI rt) [nl,nl,.i 0,nl,.i 0] (WI rt) (ie (ar (Za 1 (.n 12 (Xc rt) .r) [0] [b2] (ic [] (Zyh rt) ?_))))
 rintro _ _ ⟨c1,wa1,wb1,wc1,wd1,we1,wf1,rfl,rfl⟩
 refine Z0 1 (.n 6 (.p c1 0) .r) (ie (ar (iR 6 [(6,.p c1 0),(14,.p c1 0),(15,ZJ n),(17,Zx rt.body),(19,Z1 rt.params)] [8,7,7] [b1,b2,b2] (iw (ZD rt.params) (ic [0,0,0,0,0,0,0] (Zto c1 wa1 wb1 wc1 wd1 we1 wf1 n rt.body (XM rt) rt.lent rt.params.length 1 ob ob hk (by rw [hkv];exact ht) (by rw [hkv];omega) (by rw [hkv];omega) ob) ?_)))))
 rintro _ _ (⟨wa2,wb2,wc2,wd2,we2,wf2,M'1,rfl,rfl,hp1⟩|⟨rfl,rfl,hp2⟩)
 ·have hB:=hp1
  obtain ⟨l1,l2⟩:=Zmz hn hk om (by rw [hkv];exact ht) (by rw [hkv];omega) hB
  refine ir 2 [(22,.b true),(23,.p c1 0)] (ic [0,0,0,0,0,0,0] (Z93 c1 wa2 wb2 wc2 wd2 we2 wf2 M'1 rt.lent 0 (hlk:=l1)) ?_)
  rintro _ _ (⟨wa3,wb3,wc3,wd3,we3,wf3,L'1,rfl,rfl,hp3⟩|⟨rfl,rfl,hp4⟩)
  ·refine ir 2 [(4,.b true)] (ie ?_)
   exact Z5 (r2 [] [.b true] ⟨rfl,rfl⟩ (lb (by rw [VU,hB];exact (Zo3 hp3).symm)))
  refine ir 2 [(4,.b false)] (ie ?_)
  exact Z5 (r2 [] [.b false] ⟨rfl,rfl⟩ (lb (by rw [VU,hB];exact (Zo2 hp4).symm)))
 have hB:=hp2
 refine ir 5 [(4,.b false)] (ie ?_)
 exact Z5 (r2 [] [.b false] ⟨rfl,rfl⟩ (lb (by rw [VU,hB])))
theorem Zy2 (n:Normal) (hz:NSz n:=by exact ob):Zd Tryz.prog 15 [ZJ n] [] (fun r h=>r=.b (Ws n)/\h=[]):=by
 have hzl:=hz.len
 refine enter Tryz.func15 kr (n:=18) kr kr (ar (iA (ZU n) ?_))
 intro b1
 refine ir 1 [(1,.p b1 0)] (ie (aq (ar (Za 1 (.n 4 (ZJ n) .r) [0] [b1] (ic [] (Zyt n) ?_)))))
 rintro _ _ ⟨rfl,rfl⟩
 refine Z0 1 (.n 6 (.b (!Vm n)) .r) (ie (ac (!Vm n) (p:=¬(Vm n=true)) (ZP Iff.rfl) (fun hc1=>?_) (fun hc1=>?_)))
 ·refine ar (ir 1 [(2,.b false)] (ie ?_))
  exact Z5 (r2 [] [.b false] ⟨rfl,rfl⟩ (lb (by first|rfl|omega|grind [Ws])))
 have hV:Vm n=true:=XE.1 hc1
 obtain ⟨hok,hall⟩:=Zbb hz hV
 refine ak (aq (ar (Z0 1 (.n 3 (.i 0) .r) (ie (ab 0 (al (fun m F h=>∃(k:Nat),(k<=n.routines.length)/\(T2 n (n.routines.drop k)=T2 n n.routines)/\F=[(1,.p b1 0),(3,.i k)]/\h=[.obj b1 (ZU n)]/\m=n.routines.length-k) _ _ _ ⟨0,ob,ob,rfl,rfl,rfl⟩ (wk [0] (fr (fc (x:=.i 0) li fl))) ?_))))))
 rintro m F h ⟨k,c0_0,c0_1,rfl,rfl,rfl⟩
 refine aq (ar (Za 3 (.n 7 (.i k) (.n 9 (Yh n.routines) .r)) [0] [b1] (iw (VY n.routines) (Z0 1 (.n 11 (.b (decide ((k:Int)<(n.routines.length:Int)))) .r) (ie (ac (decide ((k:Int)<(n.routines.length:Int))) dq (fun hc2=>?_) (fun hc2=>?_)))))))
 ·obtain ⟨rt,hrt⟩:=Zl (xs:=n.routines) (j:=k) om
  have hrm:=ZV hrt
  refine ak (aq (ab 1 (ar (Za 2 (.n 14 (ZJ n) (.n 15 (.i k) .r)) [0] [b1] (ic [] (Zy1 n k rt (hr:=hrt) (ht:=(hall rt hrm)) (hz:=(QA (hz.body rt hrm) om))) ?_)))))
  rintro _ _ ⟨rfl,rfl⟩
  refine Z0 1 (.n 17 (.b (!VU n rt)) .r) (ie (ac (!VU n rt) (p:=¬(VU n rt=true)) (ZP Iff.rfl) (fun hc3=>?_) (fun hc3=>?_)))
  ·refine ar (ir 1 [(2,.b false)] (ie ?_))
   rw [Zu hrt] at c0_1
   exact Z5 (r2 [] [.b false] ⟨rfl,rfl⟩ (lb (by first|rfl|omega|grind [T2,Ws])))
  refine ak (az (Z0 1 (.n 12 (.i k) .r) (ia (((k+1:Nat):Int)) (((k:Int))+(1)) (ir 1 [(1,.p b1 0),(3,.i (k+1:Nat))] (ie ?_)))))
  have hdr:=Zu hrt
  exact ⟨_,_,_,ob,⟨k+1,ob,(by rw [hdr] at c0_1;clear hdr ;grind [T2]),rfl,rfl,rfl⟩,(wk [0] (fr (fc (x:=.i (k+1:Nat)) li fl)))⟩
 refine ax 0 (ar (ir 1 [(2,.b true)] (ie ?_)))
 try rw [Ye (xs:=n.routines) (k:=k) om] at c0_1
 exact Z5 (r2 [] [.b true] ⟨rfl,rfl⟩ (lb (by first|rfl|omega|grind [T2,Ws])))
theorem Zyf (fs:List Int) (q:Int) (hl:fs.length<=1000000:=by exact ob) (hq:0<=q/\q<=1000000000:=by exact ob):Zd Tryz.prog 76 [Z1 fs,.i q] [] (fun r h=>r=Z1 (Y7 fs q)/\h=[]):=by
 refine enter Tryz.func76 kr (n:=26) kr kr (ar (ir 1 [(0,Z1 fs),(1,.i q)] (ie (ar (iL (Z6 []) 0 1 ?_)))))
 intro v1
 refine Z0 1 (.n 5 (Zb [] v1) .r) (ie (aq (ar (Z0 1 (.n 6 (.i 0) .r) (ie (ab 0 (al (fun m F h=>∃(k:Nat) (acc:List Int) (v:Value),(k<=fs.length)/\(acc.length<=k)/\(acc++Y7 (fs.drop k) (q+k)=Y7 fs q)/\F=[(0,Z1 fs),(1,.i q),(5,Zb acc v),(6,.i k)]/\h=[.tail v 1]/\m=fs.length-k) _ _ _ ⟨0,[],v1,ob,ob,(by simp),rfl,rfl,rfl⟩ (wk [0] (fw (fr (fc (x:=.i 0) li fl)))) ?_)))))))
 rintro m F h ⟨k,acc,v,c0_0,c0_1,c0_2,rfl,rfl,rfl⟩
 refine aq (ar (Z0 2 (.n 8 (.i k) (.n 9 (Z1 fs) .r)) (iw (ZD fs) (Z0 1 (.n 11 (.b (decide ((k:Int)<(fs.length:Int)))) .r) (ie (ac (decide ((k:Int)<(fs.length:Int))) dq (fun hc1=>?_) (fun hc1=>?_)))))))
 ·refine ak (aq (ab 1 (ar (Z0 2 (.n 14 (Z1 fs) (.n 15 (.i k) .r)) ?_))))
  obtain ⟨x1,hx1⟩:=Zl (xs:=fs) (j:=k) om
  refine Zf (Zj (es:=Z6 fs) (hv:=none) (j:=(k:Int)) (sz:=1) (y:=.i x1) kr om (ZH hx1) rfl) (Z0 2 (.n 18 (.b (x1 != 0)) .r) (ie (JE (fun F h=>∃(w:Value),F=[(0,Z1 fs),(1,.i q),(5,Zb (if x1≠0 then acc++[q+k] else acc) w),(6,.i k)]/\h=[.tail w 1]) (fun _ _=>rfl) ?_ ?_)))
  ·refine ac (x1 != 0) Zw (fun hc2=>?_) (fun hc2=>?_)
   ·refine az (ir 3 [(0,Z1 fs),(1,.i q),(6,.i k),(19,Zb acc v),(20,.i q),(21,.i k)] (ia ((q+(k:Int))) ((q)+((k:Int))) (iL (Z6 [(q+(k:Int))]) 1 1 ?_)))
    intro v2
    refine Z0 0 (.n 23 (Z1 [(q+(k:Int))]) (.p .r)) (ip 1 (Z6 (acc++[(q+(k:Int))])) (Z6 acc) (Z6 [(q+(k:Int))]) v none 1 (YS _) (YS _) (VL _) (by simp<;>omega) (by simp [VK,Z6]) ?_)
    intro v3
    refine Z0 1 (.n 5 (Zb (acc++[(q+(k:Int))]) v3) .r) (ie ?_)
    exact ⟨_,_,⟨v3,rfl,rfl⟩,(wk [0] (fw (fc (x:=Zb (acc++[(q+(k:Int))]) v3) (Zg.slh _ (Y1 Z6 (by first|rfl|(rw [Z8 hc2])|(rw [Z4 hc2])|(simp [hc2];done)|(rw [YW];simp [hc2];done)|omega))) fl)))⟩
   refine ak ?_
   exact ⟨_,_,⟨v,rfl,rfl⟩,(wk [0] (fw (fc (x:=Zb acc v) (Zg.slh _ (Y1 Z6 (by first|rfl|(rw [Z8 hc2])|(rw [Z4 hc2])|(simp [hc2];done)|(rw [YW];simp [hc2];done)|omega))) fl)))⟩
  rintro F h ⟨w,rfl,rfl⟩
  refine az (ir 1 [(0,Z1 fs),(1,.i q),(5,Zb (if x1≠0 then acc++[q+k] else acc) w),(12,.i k)] (ia (((k+1:Nat):Int)) (((k:Int))+(1)) (Z0 1 (.n 6 (.i (k+1:Nat)) .r) (ie ?_))))
  exact ⟨_,_,_,ob,⟨k+1,(if x1≠0 then acc++[q+k] else acc),w,ob,(by split<;>(try simp)<;>omega),(Zfq hx1 c0_2),rfl,rfl,rfl⟩,(wk [0] (fw (fr (fc (x:=.i (k+1:Nat)) li fl))))⟩
 refine ax 0 (ar (ir 2 [(4,Zb acc v)] (ie ?_)))
 exact Z5 (r2 [] [Zb acc v] ⟨rfl,rfl⟩ (Zg.sl _ (Y1 Z6 (Zfp om c0_2))))
theorem Zk0 (mm:Nat) (hl:mm<=4294967296:=by exact ob):Zd Tryz.prog 38 [.i 0,.i mm] [] (fun r h=>r=Z1 (Y0 mm)/\h=[]):=by
 refine enter Tryz.func38 kr (n:=20) kr kr (ar (ir 1 [(0,.i 0),(1,.i mm)] (ie (ar (iL (Z6 []) 0 1 ?_)))))
 intro v1
 refine Z0 1 (.n 5 (Zb [] v1) .r) (ie (aq (ar (Z0 1 (.n 6 (.i 0) .r) (ie (ab 0 (al (fun m F h=>∃(k:Nat) (v:Value),(k<=mm)/\F=[(0,.i 0),(1,.i mm),(5,Zb (Y0 k) v),(6,.i k)]/\h=[.tail v 1]/\m=mm-k) _ _ _ ⟨0,v1,ob,rfl,rfl,rfl⟩ (wk [0] (fw (fc (x:=Zb [] v1) (Zg.slh _ (Y1 Z6 rfl)) (fc (x:=.i 0) li fl)))) ?_)))))))
 rintro m F h ⟨k,v,c0_0,rfl,rfl,rfl⟩
 refine aq (ar (Z0 3 (.n 10 (.b (decide ((k:Int)<(mm:Int)))) .r) (ie (ac (decide ((k:Int)<(mm:Int))) dq (fun hc1=>?_) (fun hc1=>?_)))))
 ·refine ak (aq (ab 1 (az (Z0 3 (.n 13 (Zb (Y0 k) v) (.n 14 (.i 0) (.n 15 (.i k) .r))) (ia ((k:Int)) ((0)+((k:Int))) (iL (Z6 [(k:Int)]) 1 1 ?_))))))
  intro v2
  refine Z0 0 (.n 17 (Z1 [(k:Int)]) (.p .r)) (ip 1 (Z6 (Y0 (k+1))) (Z6 (Y0 k)) (Z6 [(k:Int)]) v none 1 (YS _) (YS _) (VL _) (by rw [ZD,QS];simp<;>omega) (by rw [Zv3,VK]) ?_)
  intro v3
  refine Z0 1 (.n 5 (Zb (Y0 (k+1)) v3) (.p (.d (.p (.d (.d (.d (.d (.k (.k (.d .r))))))))))) (ie (az (Z0 1 (.n 11 (.i k) .r) (ia (((k+1:Nat):Int)) (((k:Int))+(1)) (Z0 1 (.n 6 (.i (k+1:Nat)) (.p (.d (.k (.k (.k .z)))))) (ie ?_))))))
  exact ⟨_,_,_,ob,⟨k+1,v3,ob,rfl,rfl,rfl⟩,(wk [0] (fw (fr (fc (x:=.i (k+1:Nat)) li fl))))⟩
 refine ax 0 (ar (ir 2 [(4,Zb (Y0 k) v)] (ie ?_)))
 exact Z5 (r2 [] [Zb (Y0 k) v] ⟨rfl,rfl⟩ (Zg.sl _ (Y1 Z6 (by rw [show k=mm by omega]))))
theorem Zk3 (xs:List Int) (i:Int) (y:Int) (hl_xs:xs.length<=4294967296:=by exact ob) (hi:0<=i/\i<xs.length:=by exact ob):Zd Tryz.prog 113 [Z1 xs,.i i,.i y] [] (fun r h=>∃(v:Value),r=Zb (xs.set i.toNat y) v/\h=[.tail v 1]):=by
 refine enter Tryz.func113 kr (n:=15) kr kr (ar (ir 1 [(0,Z1 xs),(1,.i i),(2,.i y)] (ie (ar (Z0 1 (.n 8 (Z1 xs) .r) (ic [] (Z01 xs) ?_))))))
 rintro _ _ ⟨v1,rfl,rfl⟩
 refine Z0 1 (.n 7 (.h v1) .r) (ie (ar (Z0 3 (.n 10 (.h v1) (.n 11 (.i i) (.n 12 (.i y) .r))) (Zf (Xb 0 v1 xs i i.toNat (hq:=rfl)) (iVS 0 v1 xs i.toNat y (ie (ar (ir 2 [(6,.h v1)] (ie (Zbl 6 0 (v:=v1) (xs:=(xs.set i.toNat y)) ?_))))))))))
 exact Z5 (r1 [0] ⟨v1.v,rfl,rfl⟩)
theorem Zy7 (ds:List Decl) (hd:DOk ds:=by exact ob):Zd Tryz.prog 37 [Z3 ds] [] (fun r h=>r=Z3 ds/\h=[]):=by
 have hdl:=hd.len
 refine enter Tryz.func37 kr (n:=55) kr kr (ar (ir 1 [(0,Z3 ds)] (ie (ar (iL (ZQ []) 0 3 ?_)))))
 intro v1
 refine Z0 1 (.n 3 (Ky [] v1) .r) (ie (aq (ar (Z0 1 (.n 4 (.i 0) .r) (ie (ab 0 (al (fun m F h=>∃(k:Nat) (v:Value),(k<=ds.length)/\F=[(0,Z3 ds),(3,Ky (ds.take k) v),(4,.i k)]/\h=[.tail v 3]/\m=ds.length-k) _ _ _ ⟨0,v1,ob,rfl,rfl,rfl⟩ (wk [0] (fr (fc (x:=Ky [] v1) (Zg.slh _ (Y1 ZQ rfl)) (fc (x:=.i 0) li fl)))) ?_)))))))
 rintro m F h ⟨k,v,c0_0,rfl,rfl,rfl⟩
 refine aq (ar (Z0 2 (.n 8 (.i k) (.n 9 (Z3 ds) .r)) (iw (Wv ds) (Z0 1 (.n 11 (.b (decide ((k:Int)<(ds.length:Int)))) .r) (ie (ac (decide ((k:Int)<(ds.length:Int))) dq (fun hc1=>?_) (fun hc1=>?_)))))))
 ·obtain ⟨xd,hxd⟩:=Zl (xs:=ds) (j:=k) om
  have hcl:=hd.cons_at hxd
  refine ak (aq (ab 1 (ar (iL (YH []) 0 1 ?_))))
  intro v2
  refine Z0 1 (.n 5 (Z2s [] v2) .r) (ie (aq (ar (Z0 1 (.n 6 (.i 0) .r) (ie (ab 2 (al (fun m F h=>∃(j:Nat) (u:Value),(j<=xd.cons.length)/\F=[(0,Z3 ds),(3,Ky (ds.take k) v),(4,.i k),(5,Z2s (xd.cons.take j) u),(6,.i j)]/\h=[.tail u 1,.tail v 3]/\m=xd.cons.length-j) _ _ _ ⟨0,v2,ob,rfl,rfl,rfl⟩ (wk [0,0] (fw (fr (fc (x:=Z2s [] v2) (Zg.slh _ (Y1 YH rfl)) (fc (x:=.i 0) li fl))))) ?_)))))))
  rintro m F h ⟨j,u,c1_0,rfl,rfl,rfl⟩
  refine aq (ar (Z0 3 (.n 15 (.i j) (.n 16 (Z3 ds) (.n 17 (.i k) .r))) (Zf (Zj (es:=ZQ ds) (hv:=none) (j:=(k:Int)) (sz:=3) (y:=Yw xd) kr om (Wd hxd) rfl) (Z0 2 (.n 20 (Y8 xd.cons) .r) (iw (Wc xd.cons) (Z0 1 (.n 22 (.b (decide ((j:Int)<(xd.cons.length:Int)))) .r) (ie (ac (decide ((j:Int)<(xd.cons.length:Int))) dq (fun hc2=>?_) (fun hc2=>?_)))))))))
  ·refine ak (aq (ab 3 (az (Z0 3 (.n 25 (Z2s (xd.cons.take j) u) (.n 26 (Z3 ds) (.n 27 (.i k) .r))) (Zf (Zj (es:=ZQ ds) (hv:=none) (j:=(k:Int)) (sz:=3) (y:=Yw xd) kr om (Wd hxd) rfl) (Z0 3 (.n 30 (Y8 xd.cons) (.n 31 (.i j) .r)) ?_))))))
   obtain ⟨x1,hx1⟩:=Zl (xs:=xd.cons) (j:=j) om
   have hfl:=hd.fields_at hxd hx1
   refine Zf (Zj (es:=YH xd.cons) (hv:=none) (j:=(j:Int)) (sz:=1) (y:=Wm x1) kr om (Qq hx1) rfl) (Z0 2 (.n 34 (Z1 x1.fields) .r) (ic [] (K3 x1.fields) ?_))
   rintro _ _ ⟨v3,rfl,rfl⟩
   refine Z0 1 (.n 36 (Wm x1) .r) (iL (YH [x1]) 1 1 ?_)
   intro v4
   refine Z0 0 (.n 37 (Y8 [x1]) (.p .r)) (ip 2 (YH (xd.cons.take (j+1))) (YH (xd.cons.take j)) (YH [x1]) u none 1 (Z4a _) (Z4a _) (Zow _) (by simp<;>omega) (by rw [V3 hx1];simp [YH]) ?_)
   intro v5
   refine ir 1 [(0,Z3 ds),(3,Ky (ds.take k) v),(4,.i k),(5,Z2s (xd.cons.take (j+1)) v5),(6,.i j)] (ie (az (Z0 1 (.n 23 (.i j) .r) (ia (((j+1:Nat):Int)) (((j:Int))+(1)) (Z0 1 (.n 6 (.i (j+1:Nat)) (.p (.d (.w .z)))) (ie ?_))))))
   exact ⟨_,_,_,ob,⟨j+1,v5,ob,rfl,rfl,rfl⟩,(wk [0,2] (fq (fc (x:=.i (j+1:Nat)) li fl)))⟩
  refine ax 2 (aE 16 (Zi (fuel:=13) 16 [0,1,2] (.n 39 (Ky (ds.take k) v) (.n 40 (Z3 ds) (.n 41 (.i k) .r))) (dx 3 (Zj (es:=ZQ ds) (hv:=none) (j:=(k:Int)) (sz:=3) (y:=Yw xd) kr om (Wd hxd) rfl) (Zi (fuel:=8) 12 [4,5,6,7] (.n 44 (.i xd.frm) (.n 45 (Z3 ds) (.n 46 (.i k) .r))) (dx 8 (Zj (es:=ZQ ds) (hv:=none) (j:=(k:Int)) (sz:=3) (y:=Yw xd) kr om (Wd hxd) rfl) (Zi (fuel:=3) 7 [9,10,11,12] (.n 51 (.agg [.i xd.frm,.i xd.to_,Y8 (xd.cons.take j)]) .r) (Zm 13 (dL 13 [] [] (ZQ [Decl.mk xd.frm xd.to_ (xd.cons.take j)]) 1 3 ?_))))))))
  intro v6
  refine Zi (fuel:=2) 2 [] (.n 52 (Z3 [Decl.mk xd.frm xd.to_ (xd.cons.take j)]) (.p .r)) (Zm 14 (dp 14 2 [] [] (ZQ (ds.take (k+1))) (ZQ (ds.take k)) (ZQ [Decl.mk xd.frm xd.to_ (xd.cons.take j)]) v none 3 (Z0n _) (Z0n _) (Zoy _) (by simp<;>omega) (by rw [V3 hxd];simp [ZQ,W7 (show xd.cons.length<=j by omega)]) ?_))
  intro v7
  refine dt (fuel:=0) 1 [15] [(0,Z3 ds),(3,Ky (ds.take (k+1)) v7),(4,.i k)] (de (az (Z0 1 (.n 12 (.i k) .r) (ia (((k+1:Nat):Int)) (((k:Int))+(1)) (Z0 1 (.n 4 (.i (k+1:Nat)) (.p (.d (.k (.k .z))))) (ie ?_))))))
  exact ⟨_,_,_,ob,⟨k+1,v7,ob,rfl,rfl,rfl⟩,(wk [0] (fw (fc (x:=.i (k+1:Nat)) li fl)))⟩
 refine ax 0 (ar (ir 2 [(2,Ky (ds.take k) v)] (ie ?_)))
 exact Z5 (r2 [] [Ky (ds.take k) v] ⟨rfl,rfl⟩ (Zg.sl _ (Y1 ZQ (by rw [W7 om]))))
theorem Qa (e:Nat) (v:Hd) (c:List Instr) (x:Instr) (hl:c.length<=4200000000:=by exact ob):Zd Tryz.prog 40 [.p e 0,UJ x] [.obj e [.h v],rK v 6 (Z9 (ZS c))] (fun r h=>∃(v2:Hd),r=.i c.length/\h=[.obj e [.h v2],rK v2 6 (Z9 (ZS (c++[x])))]):=by
 refine enter Tryz.func40 kr (n:=21) kr kr (ar (iA (UQ x) ?_))
 intro b1
 refine ir 1 [(0,.p e 0),(3,.p b1 0)] (ie (aD 11 (ZI (fuel:=5) 11 [0,1,2,3,4,5] (.n 5 (.p e 0) (.n 9 (.h v) (.n 10 (UJ x) .r))) [1,0] [e,b1] (Zm 6 (dL 6 [1] [e] (ZS [x]) 1 6 ?_)))))
 intro v1
 refine Zi (fuel:=4) 4 [] (.n 11 (XT [x]) (.p .r)) (Zm 7 (dKA 7 3 c.length [] [] v 6 (Z9 (ZS c)) (ZS [x]) none (QN c) (Z7w _) (Zp9 _) (by simp [ZS]) (by simp<;>omega) ?_))
 intro v2
 refine Zi (fuel:=1) 3 [8,9] (.n 14 (.p e 0) .r) (Zm 10 (dS 10 3 [] [] e 0 [.h v2] [.h v] [.h v2] (de (ar (iR 4 [(18,.h v2)] [0] [e] (Zf (Z2k 1 (c.length+1) v2 6 (Z9 (ZS c)++Z9 (ZS [x])) (by rw [ZC,QN,QN];simp only [Y5,Yk];omega)) (ia ((((c.length+1:Nat):Int)-1)) ((((c.length+1:Nat):Int))-(1)) (ir 1 [(4,.i (((c.length+1:Nat):Int)-1))] (ie ?_)))))))))
 exact Z5 (r2 [0,0] [.i (((c.length+1:Nat):Int)-1)] ⟨v2,rfl,rfl⟩ li (eq:=(rc (rr (ls:=Z9 (ZS c)++Z9 (ZS [x])) (Zqo c x) rz))))
theorem Zav (e:Nat) (v:Hd) (c:List Instr) (i:Nat) (hz:Zr c i:=by exact ob) (hl:c.length<=4200000000:=by exact ob):Zd Tryz.prog 111 [.p e 0,.i i] [.obj e [.h v],rK v 6 (Z9 (ZS c))] (fun r h=>∃(v2:Hd),h=[.obj e [.h v2],rK v2 6 (Z9 (ZS (XH c i)))]):=by
 have hzl:=hz.lt
 obtain ⟨x,hx,hx1,hx2⟩:=hz
 refine enter Tryz.func111 kr (n:=30) kr kr (Z0x 1 c.length (v:=v) (QN c) om (fun g1 c1 he1=>?_))
 subst he1
 refine ar (iR 5 [(0,.p e 0),(1,.i i),(8,.ms g1 0 c.length c1),(9,.i i)] [0] [e] (Zf (Uk g1 c.length c1 i 6 (i:Int)) (YR (Z90 1 g1 c.length c1 6 (i*6) (Z9 (ZS c)) (UQ x) 68 (UJ x) (Zqn hx)) (iA [.i 0,.i 0,.i 0,.i 0,nl,nl] ?_))))
 intro b1
 refine iS 0 b1 0 (UQ x) [.i 0,.i 0,.i 0,.i 0,nl,nl] (UQ x) (ie (aE 19 (dT (fuel:=8) 19 [0,1,2,3,4,5,6,7,8,9,10] [(4,.p b1 0),(15,.ms g1 0 c.length c1),(16,.i i),(18,.i x.op),(22,.ms g1 0 c.length c1)] [1,0,1] [e,b1,e] (dn 11 (.i c.length) (.i c.length) (lr _) (ZI (fuel:=2) 7 [12,13,14,15,16] (.n 28 (.agg [.i x.op,.i 0,.i c.length,.i 0,Z1 x.args,Z1 x.jumps]) .r) [0,0] [b1,b1] (dx 17 (Uk g1 c.length c1 i 6 (i:Int)) (Zm 18 (dKS 18 2 [] [] g1 c.length c1 6 (i*6) [.i x.op,.i 0,.i c.length,.i 0,Z1 x.args,Z1 x.jumps] (Z9 (ZS c)) (Z9 (ZS (c.set i ⟨x.op,0,c.length,0,x.args,x.jumps⟩))) (by rw [QN];simp only [Y5,Yk];omega) (Zfe (t:=⟨x.op,0,c.length,0,x.args,x.jumps⟩) hx) (de ?_)))))))))
 exact r2 [2,0] [] ⟨⟨some ⟨g1,0,none⟩,c.length,c1⟩,rfl⟩ (lr _) (eq:=(rc (rr (ls:=(Z9 (ZS (c.set i ⟨x.op,0,c.length,0,x.args,x.jumps⟩)))) (by rw [Zly hx hx1 hx2]) rz)))
theorem Zy5 (n:Normal) (s:Step) (us:List Int) (cons:List Int) (first:List Int) (e:Nat) (v:Hd) (c:List Instr) (hn:NOk n) (ht:0<=Zp n us s) (hop:s.op=7∨s.op=8) (hcl:cons.length=us.length) (hfl:first.length=us.length) (hfs:VE first) (hb:us.length+4*s.sz<=900000000) (hcn:c.length+16*s.sz<=4000000000) (ih:∀(b2:Block) (us2:List Int) (cons2:List Int) (first2:List Int) (e:Nat) (v5:Hd) (c2:List Instr),(0<=ZF n us2 b2)->(cons2.length=us2.length)->(first2.length=us2.length)->(VE first2)->(us2.length+4*b2.sz<=900000000)->(c2.length+16*b2.sz<=4000000000)->(b2.sz<s.sz)->Zd Tryz.prog 39 [.p e 0,ZJ n,Zx b2,Z1 cons2,Z1 first2] [.obj e [.h v5],rK v5 6 (Z9 (ZS c2))] (fun r h=>∃(v2:Hd),h=[.obj e [.h v2],rK v2 6 (Z9 (ZS (flB (Ya n.decls) n.decls (cons2,first2) b2 c2)))])):Zd Tryz.prog 74 [.p e 0,ZJ n,ZN s,Z1 cons,Z1 first] [.obj e [.h v],rK v 6 (Z9 (ZS c))] (fun r h=>∃(v2:Hd),h=[.obj e [.h v2],rK v2 6 (Z9 (ZS (Xj (Ya n.decls) n.decls (cons,first) s c)))]):=by
 have hdk:=hn.decls
 have hf:=TG ht
 have hse:=s.sz_eq
 have haz:=TR s
 have hkz:=UO s
 have hcp:cons.length<=900000000:=by omega
 refine enter Tryz.func74 kr (n:=208) kr kr (ar (iA (ZU n) ?_))
 intro b1
 refine iA (ZE s) ?_
 intro b2
 refine ie (ar (ir 1 [(0,.p e 0),(3,Z1 cons),(4,Z1 first),(6,.p b1 0),(7,.p b2 0),(24,Z1 cons)] (iw (ZD cons) (Z0 1 (.n 10 (.i cons.length) .r) (ie (aq (ar (Za 3 (.n 28 (.b (s.op==7)) .r) [0] [b2] (ie (ac (s.op==7) Ze (fun hc1=>?_) (fun hc1=>?_)))))))))))
 ·obtain ⟨k0,k1,hkk,ht0,ht1⟩:=Zgk hf hc1
  have hbe:Yx s.kids=k0.sz+k1.sz:=by rw [hkk];simp [Yx]
  have hk0:s.kids[0]? = some k0:=by rw [hkk];rfl
  have hk1:s.kids[1]? = some k1:=by rw [hkk];rfl
  have hs0:=UN hk0
  have hs1:=UN hk1
  refine ar (Za 3 (.n 29 (.p e 0) (.n 31 (Z1 s.args) .r)) [0] [b2] (ic [] (K3 s.args) ?_))
  rintro _ _ ⟨v1,rfl,rfl⟩
  refine Z0 1 (.n 33 (.agg [.i 20,.i 0,.i 0,.i 0,Z1 s.args,.sl [] none]) .r) (ic [3,3] (Qa e v c (Instr.mk 20 0 0 0 s.args []) (hl:=Yf)) ?_)
  rintro _ _ ⟨v21,rfl,rfl⟩
  refine Z0 1 (.n 11 (.i c.length) .r) (ie (aD 9 (ZI (fuel:=5) 9 [0,1,2,3] (.n 35 (.p e 0) (.n 36 (ZJ n) (.n 38 (ZT s.kids) .r))) [4,3] [b1,b2] (dx 4 (Zj (es:=Xw s.kids) (hv:=none) (j:=0) (sz:=2) (y:=Zx k0) kr om (WY hk0) rfl) (Zi (fuel:=1) 4 [5,6,7] (.n 40 (Zx k0) (.n 41 (Z1 cons) (.n 42 (Z1 first) .r))) (Zm 8 (dc 8 [0,0] [] [] (ih k0 _ cons first e v21 (c++[(Instr.mk 20 0 0 0 s.args [])]) (by first|exact ht0|exact ht1|exact hbt) Yf Yf (by first|exact hfs|exact VE.x hfs om om) Yf Yf ob) ?_)))))))
  rintro _ _ ⟨v22,rfl⟩
  have q1:(flB (Ya n.decls) n.decls (cons,first) k0 (c++[(Instr.mk 20 0 0 0 s.args [])])).length+16<=_:=TU (Ya n.decls) hdk _ _ _
  simp only [Uq,UL,Q2,ZC,Y5,Yk] at q1
  refine de (ar (Za 4 (.n 44 (.p e 0) (.n 45 (.i cons.length) (.n 47 (ZT s.kids) (.p .r)))) [3] [b2] (Zf (Zj (es:=Xw s.kids) (hv:=none) (j:=0) (sz:=2) (y:=Zx k0) kr om (WY hk0) rfl) (Z0 2 (.n 50 (.i k0.result) .r) (iL (Z6 [k0.result]) 1 1 ?_)))))
  intro v2
  refine Z0 1 (.n 52 (.agg [.i 18,.i cons.length,.i 0,.i 0,Z1 [k0.result],.sl [] none]) .r) (ic [1,1] (Qa e v22 (flB (Ya n.decls) n.decls (cons,first) k0 (c++[(Instr.mk 20 0 0 0 s.args [])])) (Instr.mk 18 (cons.length:Int) 0 0 [k0.result] []) (hl:=Yf)) ?_)
  rintro _ _ ⟨v23,rfl,rfl⟩
  refine ie (ar (Z0 2 (.n 54 (.p e 0) (.n 55 (.agg [.i 22,.i 0,.i 0,.i 0,.sl [] none,.sl [] none]) .r)) (ic [0,0] (Qa e v23 ((flB (Ya n.decls) n.decls (cons,first) k0 (c++[(Instr.mk 20 0 0 0 s.args [])]))++[(Instr.mk 18 (cons.length:Int) 0 0 [k0.result] [])]) (Instr.mk 22 0 0 0 [] []) (hl:=Yf)) ?_)))
  rintro _ _ ⟨v24,rfl,rfl⟩
  refine Z0 1 (.n 12 (.i ((((flB (Ya n.decls) n.decls (cons,first) k0 (c++[(Instr.mk 20 0 0 0 s.args [])]))++[(Instr.mk 18 (cons.length:Int) 0 0 [k0.result] [])]).length:Nat):Int)) .r) (ie (ar (Z0 2 (.n 57 (.p e 0) (.n 58 (.i c.length) .r)) (ic [0,0] (Zav e v24 (((flB (Ya n.decls) n.decls (cons,first) k0 (c++[(Instr.mk 20 0 0 0 s.args [])]))++[(Instr.mk 18 (cons.length:Int) 0 0 [k0.result] [])])++[(Instr.mk 22 0 0 0 [] [])]) c.length (hz:=(by first|exact c2_2 ei (ZV hei)|(repeat (first|exact Zr.new rfl rfl|refine Zr.app ?_|refine Zr.flB ?_|refine Zr.aim ?_)))) (hl:=Yf)) ?_))))
  rintro _ _ ⟨v25,rfl⟩
  refine ie (aD 9 (ZI (fuel:=5) 9 [0,1,2,3] (.n 60 (.p e 0) (.n 61 (ZJ n) (.n 63 (ZT s.kids) (.p .r)))) [5,4] [b1,b2] (dx 4 (Zj (es:=Xw s.kids) (hv:=none) (j:=1) (sz:=2) (y:=Zx k1) kr om (WY hk1) rfl) (Zi (fuel:=1) 4 [5,6,7] (.n 65 (Zx k1) (.n 66 (Z1 cons) (.n 67 (Z1 first) .r))) (Zm 8 (dc 8 [0,0] [] [] (ih k1 _ cons first e v25 (XH (((flB (Ya n.decls) n.decls (cons,first) k0 (c++[(Instr.mk 20 0 0 0 s.args [])]))++[(Instr.mk 18 (cons.length:Int) 0 0 [k0.result] [])])++[(Instr.mk 22 0 0 0 [] [])]) c.length) (by first|exact ht0|exact ht1|exact hbt) Yf Yf (by first|exact hfs|exact VE.x hfs om om) Yf Yf ob) ?_))))))
  rintro _ _ ⟨v26,rfl⟩
  have q2:((flB (Ya n.decls) n.decls (cons,first) k1 (XH (((flB (Ya n.decls) n.decls (cons,first) k0 (c++[(Instr.mk 20 0 0 0 s.args [])]))++[(Instr.mk 18 (cons.length:Int) 0 0 [k0.result] [])])++[(Instr.mk 22 0 0 0 [] [])]) c.length))).length+16<=_:=TU (Ya n.decls) hdk _ _ _
  simp only [Uq,UL,Q2,ZC,Y5,Yk] at q2
  refine de (ar (Za 4 (.n 69 (.p e 0) (.n 70 (.i cons.length) (.n 72 (ZT s.kids) (.p .r)))) [4] [b2] (Zf (Zj (es:=Xw s.kids) (hv:=none) (j:=1) (sz:=2) (y:=Zx k1) kr om (WY hk1) rfl) (Z0 2 (.n 75 (.i k1.result) .r) (iL (Z6 [k1.result]) 1 1 ?_)))))
  intro v3
  refine Z0 1 (.n 77 (.agg [.i 18,.i cons.length,.i 0,.i 0,Z1 [k1.result],.sl [] none]) .r) (ic [1,1] (Qa e v26 (flB (Ya n.decls) n.decls (cons,first) k1 (XH (((flB (Ya n.decls) n.decls (cons,first) k0 (c++[(Instr.mk 20 0 0 0 s.args [])]))++[(Instr.mk 18 (cons.length:Int) 0 0 [k0.result] [])])++[(Instr.mk 22 0 0 0 [] [])]) c.length)) (Instr.mk 18 (cons.length:Int) 0 0 [k1.result] []) (hl:=Yf)) ?_)
  rintro _ _ ⟨v27,rfl,rfl⟩
  refine ie (ar (ir 2 [(79,.p e 0),(80,.i ((((flB (Ya n.decls) n.decls (cons,first) k0 (c++[(Instr.mk 20 0 0 0 s.args [])]))++[(Instr.mk 18 (cons.length:Int) 0 0 [k0.result] [])]).length:Nat):Int))] (ic [0,0] (Zav e v27 ((flB (Ya n.decls) n.decls (cons,first) k1 (XH (((flB (Ya n.decls) n.decls (cons,first) k0 (c++[(Instr.mk 20 0 0 0 s.args [])]))++[(Instr.mk 18 (cons.length:Int) 0 0 [k0.result] [])])++[(Instr.mk 22 0 0 0 [] [])]) c.length))++[(Instr.mk 18 (cons.length:Int) 0 0 [k1.result] [])]) (((flB (Ya n.decls) n.decls (cons,first) k0 (c++[(Instr.mk 20 0 0 0 s.args [])]))++[(Instr.mk 18 (cons.length:Int) 0 0 [k0.result] [])]).length) (hz:=(by first|exact c2_2 ei (ZV hei)|(repeat (first|exact Zr.new rfl rfl|refine Zr.app ?_|refine Zr.flB ?_|refine Zr.aim ?_)))) (hl:=Yf)) ?_)))
  rintro _ _ ⟨v28,rfl⟩
  refine ie ?_
  exact Z5 (r2 [0,0] [] ⟨v28,rfl⟩ (lr _) (eq:=(rc (rr (ls:=Z9 (ZS (XH ((flB (Ya n.decls) n.decls (cons,first) k1 (XH (((flB (Ya n.decls) n.decls (cons,first) k0 (c++[(Instr.mk 20 0 0 0 s.args [])]))++[(Instr.mk 18 (cons.length:Int) 0 0 [k0.result] [])])++[(Instr.mk 22 0 0 0 [] [])]) c.length))++[(Instr.mk 18 (cons.length:Int) 0 0 [k1.result] [])]) (((flB (Ya n.decls) n.decls (cons,first) k0 (c++[(Instr.mk 20 0 0 0 s.args [])]))++[(Instr.mk 18 (cons.length:Int) 0 0 [k0.result] [])]).length)))) (by rw [Zf1 hc1 hkk];rfl) rz))))
 have h8:s.op=8:=by omega
 obtain ⟨hkl,hkm⟩:=Zgl hf h8
 obtain ⟨x0,hxl⟩:=hf.one (.inr (.inl h8))
 have hx0:s.args[0]? = some x0:=by rw [hxl];rfl
 have hg0:=QO hx0
 have hxb:=hf.args x0 (by rw [hxl];exact ZW.2 rfl)
 have hk3:=Z9j hdk s.num
 refine ak (ar (Za 2 (.n 83 (Z1 s.args) .r) [0] [b2] (Zf (Zj (es:=Z6 s.args) (hv:=none) (j:=0) (sz:=1) (y:=.i x0) kr om (ZH hx0) rfl) (Z0 2 (.n 13 (.i x0) .r) (ie (ar (Za 4 (.n 87 (Z3 n.decls) (.n 89 (.i s.num) .r)) [1,0] [b1,b2] (ic [] (Zax n.decls s.num) ?_))))))))
 rintro _ _ ⟨v4,rfl,rfl⟩
 refine Z0 1 (.n 14 (Zb (Zt n.decls s.num) v4) .r) (ie (ar (Za 4 (.n 91 (.p e 0) (.n 93 (.i s.num) (.n 94 (.i x0) .r))) [1] [b2] (iL (Z6 [x0]) 1 1 ?_))))
 intro v5
 refine Z0 1 (.n 96 (.agg [.i 21,.i 0,.i s.num,.i 0,Z1 [x0],.sl [] none]) .r) (ic [4,4] (Qa e v c (Instr.mk 21 0 s.num 0 [x0] []) (hl:=Yf)) ?_)
 rintro _ _ ⟨v29,rfl,rfl⟩
 refine Z0 1 (.n 15 (.i c.length) .r) (ie (ar (iL (Z6 []) 0 1 ?_)))
 intro v6
 refine Z0 1 (.n 16 (Zb [] v6) .r) (ie (ar (iL (Z6 []) 0 1 ?_)))
 intro v7
 refine Z0 1 (.n 17 (Zb [] v7) .r) (ie (aq (ar (Z0 1 (.n 18 (.i 0) .r) (ie (ab 0 (al (fun m F h=>∃(k:Nat) (ts:List Int) (u1:Value) (es:List Nat) (u2:Value) (cc:List Instr) (r3:Hd),(k<=s.kids.length)/\(Wh (Ya n.decls) n.decls (cons,first) s.num x0 c.length (s.kids.drop k) k cc ts es=Xj (Ya n.decls) n.decls (cons,first) s c)/\(∀i∈es,Zr cc i)/\(cc[c.length]? = some (ZB 21 0 s.num 0 s.args))/\(cc.length<=c.length+1+16*Yx (s.kids.take k))/\(es.length<=k)/\(ts.length=k)/\F=[(0,.p e 0),(3,Z1 cons),(4,Z1 first),(6,.p b1 0),(7,.p b2 0),(10,.i cons.length),(13,.i x0),(14,Zb (Zt n.decls s.num) v4),(15,.i c.length),(16,Zb ts u1),(17,Zb (X6 es) u2),(18,.i k)]/\h=[.obj e [.h r3],.obj b2 (ZE s),.obj b1 (ZU n),.tail u1 1,.tail u2 1,.tail v4 1,rK r3 6 (Z9 (ZS cc))]/\m=s.kids.length-k) _ _ _ ⟨0,[],v6,[],v7,(c++[Instr.mk 21 0 s.num 0 [x0] []]),v29,ob,(by rw [VR,Zf2 h8,hg0,hxl];rfl),(fun i hi=>by cases hi),(by rw [hxl];simp [ZB]),(by simp [Yx]),ob,ob,rfl,rfl,rfl⟩ (wk [2,5,5,1,0,2,0] (fq (fq (fw (fc (x:=Zb [] v7) (Zg.slh _ (Y1 Z6 ob)) (fc (x:=.i 0) li fl))))) (e:=(rc (rc (rc (rc (rc (rc (rr (ls:=Z9 (ZS (c++[(Instr.mk 21 0 s.num 0 [x0] [])]))) rfl rz))))))))) ?_)))))))
 rintro m F h ⟨k,ts,u1,es,u2,cc,r3,c0_0,c0_1,c0_2,c0_3,c0_4,c0_5,c0_6,rfl,rfl,rfl⟩
 refine aq (ar (Z0 2 (.n 100 (.i k) (.n 101 (Zb (Zt n.decls s.num) v4) .r)) (io (.i (((Zt n.decls s.num).length:Nat):Int)) (.i (((Z6 (Zt n.decls s.num)).length:Nat):Int)) (li (by rw [ZD])) (Z0 1 (.n 103 (.b (decide ((k:Int)<(((Zt n.decls s.num).length:Nat):Int)))) .r) (ie (ac (decide ((k:Int)<(((Zt n.decls s.num).length:Nat):Int))) dq (fun hc2=>?_) (fun hc2=>?_)))))))
 ·obtain ⟨xk,hxk⟩:=Zl (xs:=Zt n.decls s.num) (j:=k) om
  obtain ⟨kb,hkb⟩:=Zl (xs:=s.kids) (j:=k) om
  obtain ⟨hbt,hgc,hfk⟩:=hkm k kb xk hkb hxk
  have hks:=UN hkb
  obtain ⟨hkt1,hkt2⟩:=Z7a hkb
  have hcf:=VV hdk xk
  have hfl3:(XZ n.decls s.num k).length=(Zc n.decls xk).length:=by rw [hfk]
  refine ak (aq (ab 1 (ar (Za 5 (.n 106 (Zb ts u1) (.n 110 (.h r3) .r)) [0] [e] (Zf (Z2k 6 cc.length r3 6 (Z9 (ZS cc)) (QN cc)) (iL (Z6 [(cc.length:Int)]) 1 1 ?_))))))
  intro v8
  refine Z0 0 (.n 112 (Z1 [(cc.length:Int)]) (.p .r)) (ip 4 (Z6 (ts++[(cc.length:Int)])) (Z6 ts) (Z6 [(cc.length:Int)]) u1 none 1 (YS _) (YS _) (VL _) (by simp<;>omega) (by simp [VK,Z6]) ?_)
  intro v9
  refine Z0 1 (.n 16 (Zb (ts++[(cc.length:Int)]) v9) (.p (.d (.p (.d (.d (.d (.p (.d (.d (.w (.w (.k (.d .r)))))))))))))) (ie (aD 9 (ZI (fuel:=5) 9 [0,1,2,3] (.n 115 (Z3 n.decls) (.n 116 (Zb (Zt n.decls s.num) v4) (.n 117 (.i k) .r))) [4] [b1] (dx 4 (Zj (es:=Z6 (Zt n.decls s.num)) (hv:=some v4) (j:=(k:Int)) (sz:=1) (y:=.i xk) kr om (ZH hxk) rfl) (Zi (fuel:=3) 4 [5] (.n 119 (.i xk) .r) (Zm 6 (dc 6 [] [] [] (Z1b n.decls xk) ?_)))))))
  rintro _ _ ⟨rfl,rfl⟩
  refine dn 7 (.i (((Zc n.decls xk).length:Nat):Int)) (.i (((Z6 (Zc n.decls xk)).length:Nat):Int)) (li (by rw [ZD])) (Zi (fuel:=0) 1 [8] (.n 19 (.i (((Zc n.decls xk).length:Nat):Int)) .r) (de (aq (ar (Z0 1 (.n 20 (.i 0) .r) (ie (ab 2 (al (fun m F h=>∃(i:Nat) (r4:Hd),(i<=(Zc n.decls xk).length)/\F=[(0,.p e 0),(3,Z1 cons),(4,Z1 first),(6,.p b1 0),(7,.p b2 0),(10,.i cons.length),(13,.i x0),(14,Zb (Zt n.decls s.num) v4),(15,.i c.length),(16,Zb (ts++[(cc.length:Int)]) v9),(17,Zb (X6 es) u2),(18,.i k),(19,.i (((Zc n.decls xk).length:Nat):Int)),(20,.i i)]/\h=[.obj e [.h r4],.obj b2 (ZE s),.obj b1 (ZU n),.tail u2 1,.tail v4 1,.tail v9 1,rK r4 6 (Z9 (ZS (cc++YE cons.length i x0)))]/\m=(Zc n.decls xk).length-i) _ _ _ ⟨0,r3,ob,rfl,rfl,rfl⟩ (wk [2,2,2,2,2,0,1] (fq (fq (fq (fr (fc (x:=.i 0) li fl))))) (e:=(rc (rc (rc (rc (rc (rc (rr (ls:=Z9 (ZS cc)) (by simp [YE]) rz))))))))) ?_))))))))
  rintro m F h ⟨i,r4,c1_0,rfl,rfl,rfl⟩
  refine aq (ar (Z0 3 (.n 124 (.b (decide ((i:Int)<(((Zc n.decls xk).length:Nat):Int)))) .r) (ie (ac (decide ((i:Int)<(((Zc n.decls xk).length:Nat):Int))) dq (fun hc3=>?_) (fun hc3=>?_)))))
  ·refine ak (aq (ab 3 (az (Z0 3 (.n 127 (.p e 0) (.n 128 (.i cons.length) (.n 129 (.i i) .r))) (ia (((cons.length+i:Nat):Int)) (((cons.length:Int))+((i:Int))) (Z0 2 (.n 131 (.i i) (.n 132 (.i x0) .r)) (iL (Z6 [x0]) 1 1 ?_)))))))
   intro v10
   refine Z0 1 (.n 134 (.agg [.i 19,.i (cons.length+i:Nat),.i i,.i 0,Z1 [x0],.sl [] none]) .r) (ic [1,6] (Qa e r4 (cc++YE cons.length i x0) (Instr.mk 19 ((cons.length+i:Nat):Int) (i:Int) 0 [x0] []) (hl:=Yf)) ?_)
   rintro _ _ ⟨v210,rfl,rfl⟩
   refine ie (az (Z0 1 (.n 125 (.i i) .r) (ia (((i+1:Nat):Int)) (((i:Int))+(1)) (Z0 1 (.n 20 (.i (i+1:Nat)) (.p (.d (.p (.d (.p (.d (.d (.p (.d (.d (.d (.d (.w (.w (.w (.k .z))))))))))))))))) (ie ?_)))))
   exact ⟨_,_,_,ob,⟨i+1,v210,ob,rfl,rfl,rfl⟩,(wk [0,2,2,2,2,2,0] (fq (fq (fq (fr (fc (x:=.i (i+1:Nat)) li fl))))) (e:=(rc (rc (rc (rc (rc (rc (rr (ls:=Z9 (ZS ((cc++YE cons.length i x0)++[(Instr.mk 19 ((cons.length+i:Nat):Int) (i:Int) 0 [x0] [])]))) (by rw [Zh3,<-Xs];rfl) rz)))))))))⟩
  have hie:(Zc n.decls xk).length=i:=by omega
  have hA:(Ya n.decls).arm (cons,first) x0 s.num k=(cons.set x0.toNat xk++Y0 (Zc n.decls xk).length,first.set x0.toNat (cons.length:Int)++Y0 (Zc n.decls xk).length):=by rw [<-hgc];rfl
  refine ax 2 (ar (Z0 1 (.n 136 (.i (((Zc n.decls xk).length:Nat):Int)) .r) (ic [] (Zk0 ((Zc n.decls xk).length)) ?_)))
  rintro _ _ ⟨rfl,rfl⟩
  refine Z0 1 (.n 21 (Z1 (Y0 ((Zc n.decls xk).length))) .r) (ie (aD 23 (ZI (fuel:=18) 23 [0,1,2,3,4] (.n 138 (.p e 0) (.n 139 (ZJ n) (.n 141 (ZT s.kids) (.n 142 (.i k) .r)))) [2,1] [b1,b2] (dx 5 (Zj (es:=Xw s.kids) (hv:=none) (j:=(k:Int)) (sz:=2) (y:=Zx kb) kr om (WY hkb) rfl) (Zi (fuel:=12) 17 [6,7,8,9,10] (.n 144 (Zx kb) (.n 145 (Z1 cons) (.n 146 (.i x0) (.n 147 (Zb (Zt n.decls s.num) v4) (.n 148 (.i k) .r))))) (dx 11 (Zj (es:=Z6 (Zt n.decls s.num)) (hv:=some v4) (j:=(k:Int)) (sz:=1) (y:=.i xk) kr om (ZH hxk) rfl) (Zi (fuel:=5) 11 [12,14,16,17,18,20] (.n 150 (.i xk) (.n 152 (Z1 (Y0 ((Zc n.decls xk).length))) (.n 154 (Z1 first) (.n 155 (.i x0) (.n 156 (.i cons.length) (.n 158 (Z1 (Y0 ((Zc n.decls xk).length))) .r)))))) (Zm 13 (dc 13 [] [1,2] [b2,b1] (Zk3 cons x0 xk) ?_)))))))))
  rintro _ _ ⟨v11,rfl,rfl⟩
  refine Zi (fuel:=4) 4 [] (.n 151 (Z1 (cons.set x0.toNat xk)) (.p .r)) (Zm 15 (dc 15 [] [1,2] [b2,b1] (Z1c (cons.set x0.toNat xk) (Y0 ((Zc n.decls xk).length)) (hl:=Yf)) ?_))
  rintro _ _ ⟨v12,rfl,rfl⟩
  refine Zm 19 (dc 19 [] [1,2] [b2,b1] (Zk3 first x0 (cons.length:Int)) ?_)
  rintro _ _ ⟨v13,rfl,rfl⟩
  refine Zi (fuel:=2) 2 [] (.n 157 (Z1 (first.set x0.toNat (cons.length:Int))) (.p .r)) (Zm 21 (dc 21 [] [1,2] [b2,b1] (Z1c (first.set x0.toNat (cons.length:Int)) (Y0 ((Zc n.decls xk).length)) (hl:=Yf)) ?_))
  rintro _ _ ⟨v14,rfl,rfl⟩
  refine Zi (fuel:=1) 1 [] (.n 153 (Z1 ((cons.set x0.toNat xk)++(Y0 ((Zc n.decls xk).length)))) (.n 159 (Z1 ((first.set x0.toNat (cons.length:Int))++(Y0 ((Zc n.decls xk).length)))) (.p (.k (.p .r))))) (Zm 22 (dc 22 [4,9] [] [] (ih kb _ ((cons.set x0.toNat xk)++(Y0 ((Zc n.decls xk).length))) ((first.set x0.toNat (cons.length:Int))++(Y0 ((Zc n.decls xk).length))) e r4 (cc++YE cons.length i x0) (by first|exact ht0|exact ht1|exact hbt) Yf Yf (by first|exact hfs|exact VE.x hfs om om) Yf Yf ob) ?_))
  rintro _ _ ⟨v211,rfl⟩
  have q3:((flB (Ya n.decls) n.decls (((cons.set x0.toNat xk)++(Y0 ((Zc n.decls xk).length))),((first.set x0.toNat (cons.length:Int))++(Y0 ((Zc n.decls xk).length)))) kb (cc++YE cons.length i x0))).length+16<=_:=TU (Ya n.decls) hdk _ _ _
  simp only [Uq,UL,Q2,ZC,Y5,Yk] at q3
  refine de (ar (Za 5 (.n 161 (.p e 0) (.n 162 (.i cons.length) (.n 164 (ZT s.kids) (.n 165 (.i k) (.p .r))))) [6] [b2] (Zf (Zj (es:=Xw s.kids) (hv:=none) (j:=(k:Int)) (sz:=2) (y:=Zx kb) kr om (WY hkb) rfl) (Z0 2 (.n 168 (.i kb.result) .r) (iL (Z6 [kb.result]) 1 1 ?_)))))
  intro v15
  refine Z0 1 (.n 170 (.agg [.i 18,.i cons.length,.i 0,.i 0,Z1 [kb.result],.sl [] none]) .r) (ic [1,1] (Qa e v211 (flB (Ya n.decls) n.decls (((cons.set x0.toNat xk)++(Y0 ((Zc n.decls xk).length))),((first.set x0.toNat (cons.length:Int))++(Y0 ((Zc n.decls xk).length)))) kb (cc++YE cons.length i x0)) (Instr.mk 18 (cons.length:Int) 0 0 [kb.result] []) (hl:=Yf)) ?_)
  rintro _ _ ⟨v212,rfl,rfl⟩
  refine ie (ar (Z0 2 (.n 172 (.i k) (.n 173 (Zb (Zt n.decls s.num) v4) .r)) (io (.i (((Zt n.decls s.num).length:Nat):Int)) (.i (((Z6 (Zt n.decls s.num)).length:Nat):Int)) (li (by rw [ZD])) (ia (((((Zt n.decls s.num).length:Nat):Int)-1)) (((((Zt n.decls s.num).length:Nat):Int))-(1)) (Z0 1 (.n 176 (.b (decide ((k:Int)<((((Zt n.decls s.num).length:Nat):Int)-1)))) .r) (ie (ac (decide ((k:Int)<((((Zt n.decls s.num).length:Nat):Int)-1))) dq (fun hc4=>?_) (fun hc4=>?_))))))))
  ·refine ar (Z0 2 (.n 177 (.p e 0) (.n 178 (.agg [.i 22,.i 0,.i 0,.i 0,.sl [] none,.sl [] none]) .r)) (ic [0,0] (Qa e v212 ((flB (Ya n.decls) n.decls (((cons.set x0.toNat xk)++(Y0 ((Zc n.decls xk).length))),((first.set x0.toNat (cons.length:Int))++(Y0 ((Zc n.decls xk).length)))) kb (cc++YE cons.length i x0))++[(Instr.mk 18 (cons.length:Int) 0 0 [kb.result] [])]) (Instr.mk 22 0 0 0 [] []) (hl:=Yf)) ?_))
   rintro _ _ ⟨v213,rfl,rfl⟩
   refine Z0 1 (.n 22 (.i ((((flB (Ya n.decls) n.decls (((cons.set x0.toNat xk)++(Y0 ((Zc n.decls xk).length))),((first.set x0.toNat (cons.length:Int))++(Y0 ((Zc n.decls xk).length)))) kb (cc++YE cons.length i x0))++[(Instr.mk 18 (cons.length:Int) 0 0 [kb.result] [])]).length:Nat):Int)) .r) (ie (az (Z0 2 (.n 180 (Zb (X6 es) u2) (.n 181 (.i ((((flB (Ya n.decls) n.decls (((cons.set x0.toNat xk)++(Y0 ((Zc n.decls xk).length))),((first.set x0.toNat (cons.length:Int))++(Y0 ((Zc n.decls xk).length)))) kb (cc++YE cons.length i x0))++[(Instr.mk 18 (cons.length:Int) 0 0 [kb.result] [])]).length:Nat):Int)) .r)) (iL (Z6 [((((flB (Ya n.decls) n.decls (((cons.set x0.toNat xk)++(Y0 ((Zc n.decls xk).length))),((first.set x0.toNat (cons.length:Int))++(Y0 ((Zc n.decls xk).length)))) kb (cc++YE cons.length i x0))++[(Instr.mk 18 (cons.length:Int) 0 0 [kb.result] [])]).length:Nat):Int)]) 1 1 ?_))))
   intro v16
   refine Z0 0 (.n 182 (Z1 [((((flB (Ya n.decls) n.decls (((cons.set x0.toNat xk)++(Y0 ((Zc n.decls xk).length))),((first.set x0.toNat (cons.length:Int))++(Y0 ((Zc n.decls xk).length)))) kb (cc++YE cons.length i x0))++[(Instr.mk 18 (cons.length:Int) 0 0 [kb.result] [])]).length:Nat):Int)]) (.p (.k (.d (.d (.p (.d (.d (.d (.p (.p (.d (.d (.p (.d (.p (.d (.p (.d (.d (.d (.d (.d (.d (.d (.d (.d (.d (.d (.d (.d (.d (.p (.d (.d (.d (.d (.d (.p (.d (.d (.d (.d (.d (.p (.d (.d (.w (.w (.k (.k (.d (.k .z))))))))))))))))))))))))))))))))))))))))))))))))))))) (ip 10 (Z6 ((X6 es)++[((((flB (Ya n.decls) n.decls (((cons.set x0.toNat xk)++(Y0 ((Zc n.decls xk).length))),((first.set x0.toNat (cons.length:Int))++(Y0 ((Zc n.decls xk).length)))) kb (cc++YE cons.length i x0))++[(Instr.mk 18 (cons.length:Int) 0 0 [kb.result] [])]).length:Nat):Int)])) (Z6 (X6 es)) (Z6 [((((flB (Ya n.decls) n.decls (((cons.set x0.toNat xk)++(Y0 ((Zc n.decls xk).length))),((first.set x0.toNat (cons.length:Int))++(Y0 ((Zc n.decls xk).length)))) kb (cc++YE cons.length i x0))++[(Instr.mk 18 (cons.length:Int) 0 0 [kb.result] [])]).length:Nat):Int)]) u2 none 1 (YS _) (YS _) (VL _) (by simp [JX]<;>omega) (by simp [VK,Z6]) ?_)
   intro v17
   refine Z0 1 (.n 17 (Zb ((X6 es)++[((((flB (Ya n.decls) n.decls (((cons.set x0.toNat xk)++(Y0 ((Zc n.decls xk).length))),((first.set x0.toNat (cons.length:Int))++(Y0 ((Zc n.decls xk).length)))) kb (cc++YE cons.length i x0))++[(Instr.mk 18 (cons.length:Int) 0 0 [kb.result] [])]).length:Nat):Int)]) v17) .r) (ie (az (Z0 1 (.n 104 (.i k) .r) (ia (((k+1:Nat):Int)) (((k:Int))+(1)) (Z0 1 (.n 18 (.i (k+1:Nat)) (.p (.d (.k (.p (.d (.d (.w (.w (.k (.k .z))))))))))) (ie ?_))))))
   exact ⟨_,_,_,ob,⟨k+1,(ts++[(cc.length:Int)]),v9,(es++[((flB (Ya n.decls) n.decls (((cons.set x0.toNat xk)++(Y0 ((Zc n.decls xk).length))),((first.set x0.toNat (cons.length:Int))++(Y0 ((Zc n.decls xk).length)))) kb (cc++YE cons.length i x0))++[(Instr.mk 18 (cons.length:Int) 0 0 [kb.result] [])]).length]),v17,(((flB (Ya n.decls) n.decls (((cons.set x0.toNat xk)++(Y0 ((Zc n.decls xk).length))),((first.set x0.toNat (cons.length:Int))++(Y0 ((Zc n.decls xk).length)))) kb (cc++YE cons.length i x0))++[(Instr.mk 18 (cons.length:Int) 0 0 [kb.result] [])])++[(Instr.mk 22 0 0 0 [] [])]),v213,ob,(by have h:=Zev (X:=Ya n.decls) hkb om c0_1;rw [hfl3,hie,hA] at h;exact h),(fun j hj=>(ZG.1 hj).elim (fun hj=>(c0_2 j hj).app.flB.app.app) fun hj=>by rw [ZW.1 hj];exact Zr.new rfl rfl),(Z2f (Z2f (Zfl (Z2f c0_3)))),Yf,Yf,Yf,rfl,rfl,rfl⟩,(wk [2,8,8,9,0,7,1] (fq (fq (fw (fc (x:=Zb ((X6 es)++[((((flB (Ya n.decls) n.decls (((cons.set x0.toNat xk)++(Y0 ((Zc n.decls xk).length))),((first.set x0.toNat (cons.length:Int))++(Y0 ((Zc n.decls xk).length)))) kb (cc++YE cons.length i x0))++[(Instr.mk 18 (cons.length:Int) 0 0 [kb.result] [])]).length:Nat):Int)]) v17) (Zg.slh _ (Y1 Z6 (Zhs _ _))) (fc (x:=.i (k+1:Nat)) li fl))))))⟩
  refine ak (az (Z0 1 (.n 104 (.i k) .r) (ia (((k+1:Nat):Int)) (((k:Int))+(1)) (Z0 1 (.n 18 (.i (k+1:Nat)) (.p (.d (.d (.p (.p (.d (.d (.p (.d (.p (.d (.p (.d (.d (.d (.d (.d (.d (.d (.d (.d (.d (.d (.d (.d (.d (.p (.d (.d (.d (.d (.d (.p (.d (.d (.d (.d (.d (.p (.d (.d (.w (.w (.k (.k (.k .z))))))))))))))))))))))))))))))))))))))))))))))) (ie ?_)))))
  exact ⟨_,_,_,ob,⟨k+1,(ts++[(cc.length:Int)]),v9,es,u2,((flB (Ya n.decls) n.decls (((cons.set x0.toNat xk)++(Y0 ((Zc n.decls xk).length))),((first.set x0.toNat (cons.length:Int))++(Y0 ((Zc n.decls xk).length)))) kb (cc++YE cons.length i x0))++[(Instr.mk 18 (cons.length:Int) 0 0 [kb.result] [])]),v212,ob,(by have h:=Zew (X:=Ya n.decls) hkb om c0_1;rw [hfl3,hie,hA] at h;exact h),(fun j hj=>(c0_2 j hj).app.flB.app),(Z2f (Zfl (Z2f c0_3))),Yf,Yf,Yf,rfl,rfl,rfl⟩,(wk [0,6,6,8,6,6,0] (fq (fq (fw (fr (fc (x:=.i (k+1:Nat)) li fl))))))⟩
 have hAe:=Zet om c0_1
 have hbt:Yx (s.kids.take k)=Yx s.kids:=by rw [W7 om]
 have hat:=(Yg.1 c0_3).1
 rw [hxl] at c0_3
 refine Z0x 6 cc.length (v:=r3) (QN cc) om (fun g1 c1 he1=>?_)
 subst he1
 refine ax 0 (aD 13 (dT (fuel:=4) 13 [0,1,2,3,4,5,6,7,9] [(0,.p e 0),(17,Zb (X6 es) u2),(187,.ms g1 0 cc.length c1),(188,.i c.length),(190,.i s.num),(191,.i x0),(193,Zb ts u1)] [0,1] [e,b2] (Zm 8 (dL 8 [1,0] [b2,e] (Z6 [x0]) 1 1 ?_))))
 intro v18
 refine Zi (fuel:=2) 3 [10] (.n 194 (.agg [.i 21,.i 0,.i s.num,.i 0,Zb [x0] v18,Zb ts u1]) .r) (dx 11 (Uk g1 cc.length c1 c.length 6 (c.length:Int)) (Zi (fuel:=1) 1 [] (.n 194 (.agg [.i 21,.i 0,.i s.num,.i 0,Z1 [x0],Z1 ts]) (.q 195 (.d .r))) (Zm 12 (dKS 12 7 [] [] g1 cc.length c1 6 (c.length*6) [.i 21,.i 0,.i s.num,.i 0,Z1 [x0],Z1 ts] (Z9 (ZS cc)) (Z9 (ZS (cc.set c.length ⟨21,0,s.num,0,[x0],ts⟩))) (by rw [QN];simp only [Y5,Yk];omega) (Zfe (t:=⟨21,0,s.num,0,[x0],ts⟩) c0_3) (de (ar (Z0 1 (.n 23 (.i 0) .r) (ie (ab 4 (al (fun m F h=>∃(i2:Nat) (cc2:List Instr) (r5:Hd),(i2<=es.length)/\(Ur cc2 (es.drop i2)=Xj (Ya n.decls) n.decls (cons,first) s c)/\(∀j∈es,Zr cc2 j)/\(cc2.length=cc.length)/\F=[(0,.p e 0),(17,Zb (X6 es) u2),(23,.i i2)]/\h=[.obj e [.h r5],.tail u2 1,rK r5 6 (Z9 (ZS cc2))]/\m=es.length-i2) _ _ _ ⟨0,(U0 cc c.length ts),(⟨some ⟨g1,0,none⟩,cc.length,c1⟩:Hd),ob,hAe,(fun j hj=>(c0_2 j hj).fan),(UL _ _ _),rfl,rfl,rfl⟩ (wk [2,5,0] (fw (fc (x:=.i 0) li fl)) (e:=(rc (rc (rr (ls:=(Z9 (ZS (cc.set c.length ⟨21,0,s.num,0,[x0],ts⟩)))) (by rw [Zq2 c0_3]) rz))))) ?_))))))))))
 rintro m F h ⟨i2,cc2,r5,c2_0,c2_1,c2_2,c2_3,rfl,rfl,rfl⟩
 refine aq (ar (Z0 2 (.n 196 (.i i2) (.n 197 (Zb (X6 es) u2) .r)) (io (.i (((X6 es).length:Nat):Int)) (.i (((Z6 (X6 es)).length:Nat):Int)) (li (by rw [ZD])) (Z0 1 (.n 199 (.b (decide ((i2:Int)<(((X6 es).length:Nat):Int)))) .r) (ie (ac (decide ((i2:Int)<(((X6 es).length:Nat):Int))) dq (fun hc5=>?_) (fun hc5=>?_)))))))
 ·rw [JX] at hc5
  obtain ⟨ei,hei⟩:=Zl (xs:=es) (j:=i2) om
  refine ak (aq (ab 5 (az (Z0 3 (.n 202 (.p e 0) (.n 203 (Zb (X6 es) u2) (.n 204 (.i i2) .r))) (Zf (Zj (es:=Z6 (X6 es)) (hv:=some u2) (j:=(i2:Int)) (sz:=1) (y:=.i ei) kr om (ZH (Zhr hei)) rfl) (Z0 1 (.n 206 (.i ei) .r) (ic [0,1] (Zav e r5 cc2 ei (hz:=(by first|exact c2_2 ei (ZV hei)|(repeat (first|exact Zr.new rfl rfl|refine Zr.app ?_|refine Zr.flB ?_|refine Zr.aim ?_)))) (hl:=Yf)) ?_)))))))
  rintro _ _ ⟨v214,rfl⟩
  refine ie (az (Z0 1 (.n 200 (.i i2) (.p .r)) (ia (((i2+1:Nat):Int)) (((i2:Int))+(1)) (ir 1 [(0,.p e 0),(17,Zb (X6 es) u2),(23,.i (i2+1:Nat))] (ie ?_)))))
  exact ⟨_,_,_,ob,⟨i2+1,(XH cc2 ei),v214,ob,(Zch hei c2_1),(fun j hj=>(c2_2 j hj).aim),Yf,rfl,rfl,rfl⟩,(wk [0,1,0] (fw (fc (x:=.i (i2+1:Nat)) li fl)))⟩
 rw [JX] at hc5
 refine ax 4 ?_
 exact r2 [0,1] [] ⟨r5,rfl⟩ (lr _) (eq:=(rc (rr (ls:=Z9 (ZS cc2)) (by rw [Zcg om c2_1]) rz)))
theorem Zya (n:Normal) (b:Block) (us:List Int) (cons:List Int) (first:List Int) (e:Nat) (v:Hd) (c:List Instr) (hn:NOk n) (ht:0<=ZF n us b) (hcl:cons.length=us.length) (hfl:first.length=us.length) (hfs:VE first) (hb:us.length+4*b.sz<=900000000) (hcn:c.length+16*b.sz<=4000000000) (ih:∀(s2:Step) (us2:List Int) (cons2:List Int) (first2:List Int) (e:Nat) (v5:Hd) (c2:List Instr),(0<=Zp n us2 s2)->(s2.op=7∨s2.op=8)->(cons2.length=us2.length)->(first2.length=us2.length)->(VE first2)->(us2.length+4*s2.sz<=900000000)->(c2.length+16*s2.sz<=4000000000)->(s2.sz<b.sz)->Zd Tryz.prog 74 [.p e 0,ZJ n,ZN s2,Z1 cons2,Z1 first2] [.obj e [.h v5],rK v5 6 (Z9 (ZS c2))] (fun r h=>∃(v2:Hd),h=[.obj e [.h v2],rK v2 6 (Z9 (ZS (Xj (Ya n.decls) n.decls (cons2,first2) s2 c2)))])):Zd Tryz.prog 39 [.p e 0,ZJ n,Zx b,Z1 cons,Z1 first] [.obj e [.h v],rK v 6 (Z9 (ZS c))] (fun r h=>∃(v2:Hd),h=[.obj e [.h v2],rK v2 6 (Z9 (ZS (flB (Ya n.decls) n.decls (cons,first) b c)))]):=by
 have hdk:=hn.decls
 obtain ⟨fvs,t0,hvs,hres,hrt⟩:=QF ht
 have hbz:=Z02 b
 have hbe:=b.sz_eq
 refine enter Tryz.func39 kr (n:=97) kr kr (ar (iA (ZU n) ?_))
 intro b1
 refine iA (YY b) ?_
 intro b2
 refine ie (ar (ir 1 [(0,.p e 0),(3,Z1 cons),(4,Z1 first),(6,.p b1 0),(7,.p b2 0),(10,.i 0)] (ie (ab 0 (al (fun m F h=>∃(k:Nat) (vs:List Int) (cs:List Int) (fs:List Int) (cc:List Instr) (r3:Hd),(k<=b.steps.length)/\(us.length<=vs.length/\vs.length<=us.length+ZR (b.steps.take k))/\(X7 n (b.steps.drop k) vs=some fvs)/\(Ww (Ya n.decls) n.decls (cs,fs) (b.steps.drop k) cc=Ww (Ya n.decls) n.decls (cons,first) b.steps c)/\(cs.length=vs.length)/\(fs.length=vs.length)/\(VE fs)/\(cc.length<=c.length+16*ZR (b.steps.take k))/\F=[(0,.p e 0),(3,Z1 cs),(4,Z1 fs),(6,.p b1 0),(7,.p b2 0),(10,.i k)]/\h=[.obj b2 (YY b),.obj b1 (ZU n),.obj e [.h r3],rK r3 6 (Z9 (ZS cc))]/\m=b.steps.length-k) _ _ _ ⟨0,us,cons,first,c,v,ob,(by simp),(by rw [VR];exact hvs),rfl,hcl,hfl,hfs,(by simp),rfl,rfl,rfl⟩ (wk [0,0,0,0] (fq (fr (fc (x:=.i 0) li fl)))) ?_)))))
 rintro m F h ⟨k,vs,cs,fs,cc,r3,c0_0,c0_1,c0_2,c0_3,c0_4,c0_5,c0_6,c0_7,rfl,rfl,rfl⟩
 refine aq (ar (Za 3 (.n 13 (.i k) (.n 15 (ZX b.steps) .r)) [0] [b2] (iw (UK b.steps) (Z0 1 (.n 17 (.b (decide ((k:Int)<(b.steps.length:Int)))) .r) (ie (ac (decide ((k:Int)<(b.steps.length:Int))) dq (fun hc1=>?_) (fun hc1=>?_)))))))
 ·refine ak (aq (ab 1 (ar (Za 3 (.n 21 (ZX b.steps) (.n 22 (.i k) .r)) [0] [b2] ?_))))
  obtain ⟨x1,hx1⟩:=Zl (xs:=b.steps) (j:=k) om
  have hsz:=Z5y hx1
  have hdr:=Zu hx1
  have c0_2s:=c0_2
  rw [hdr] at c0_2s
  obtain ⟨g1,g2⟩:=KA c0_2s
  have hf:=TG g1
  have hkz:=UO x1
  have haz:=TR x1
  have htk:=Zk7 hx1
  have htl:=Zk8 b.steps (k+1)
  have hsp:=x1.sz_pos
  have hdc:=KR g1
  have hfl:=Z89 (Ya n.decls) hdk x1 (cs,fs) cc
  refine Zf (Zj (es:=Wg b.steps) (hv:=none) (j:=(k:Int)) (sz:=5) (y:=ZN x1) kr om (T6 hx1) rfl) (Z0 1 (.n 24 (ZN x1) .r) (iA [.i 0,.i 0,.i 0,nl,nl] ?_))
  intro b3
  refine iS 0 b3 0 (ZE x1) [.i 0,.i 0,.i 0,nl,nl] (ZE x1) (ie (aq (ar (Za 2 (.n 26 (.i x1.op) .r) [0] [b3] (ie (ab 2 (aq (ar (Z0 2 (.n 41 (.b (x1.op==7)) .r) (ie (Ug (fun F h=>F=[(0,.p e 0),(3,Z1 cs),(4,Z1 fs),(6,.p b1 0),(7,.p b2 0),(10,.i k),(11,.p b3 0),(26,.i x1.op),(41,.b ((x1.op==7)||(x1.op==8)))]/\h=[.obj b3 (ZE x1),.obj b2 (YY b),.obj b1 (ZU n),.obj e [.h r3],rK r3 6 (Z9 (ZS cc))]) ?_ ?_)))))))))))
  ·refine ac (x1.op==7) Ze (fun hc2=>?_) (fun hc2=>?_)
   ·refine ak ?_
    exact ⟨_,_,⟨rfl,rfl⟩,(wk [0,0,0,0,0] (fq (fq (fc (x:=.b (x1.op==7)) (lb (by first|rfl|(rw [Z8 hc2])|(rw [Z4 hc2])|(simp [hc2];done)|(rw [YW];simp [hc2];done)|omega)) fl))))⟩
   refine az (ir 2 [(0,.p e 0),(3,Z1 cs),(4,Z1 fs),(6,.p b1 0),(7,.p b2 0),(10,.i k),(11,.p b3 0),(26,.i x1.op),(41,.b (x1.op==8))] (ie ?_))
   exact ⟨_,_,⟨rfl,rfl⟩,(wk [0,0,0,0,0] (fq (fq (fc (x:=.b (x1.op==8)) (lb (by first|rfl|(rw [Z8 hc2])|(rw [Z4 hc2])|(simp [hc2];done)|(rw [YW];simp [hc2];done)|omega)) fl))))⟩
  rintro F h ⟨rfl,rfl⟩
  refine JE (fun F h=>∃(r4:Hd),F=[(0,.p e 0),(3,Z1 cs),(4,Z1 fs),(6,.p b1 0),(7,.p b2 0),(10,.i k),(11,.p b3 0)]/\h=[.obj b3 (ZE x1),.obj b2 (YY b),.obj b1 (ZU n),.obj e [.h r4],rK r4 6 (Z9 (ZS (Xj (Ya n.decls) n.decls (cs,fs) x1 cc)))]) (fun _ _=>rfl) ?_ ?_
  ·refine ac ((x1.op==7)||(x1.op==8)) (p:=(x1.op=7)∨(x1.op=8)) (Zz Ze Ze) (fun hc3=>?_) (fun hc3=>?_)
   ·refine az (iR 5 [(0,.p e 0),(3,Z1 cs),(4,Z1 fs),(6,.p b1 0),(7,.p b2 0),(10,.i k),(11,.p b3 0),(44,.p e 0),(45,ZJ n),(46,ZN x1),(47,Z1 cs),(48,Z1 fs)] [2,0] [b1,b3] (ic [3,3] (ih x1 vs cs fs e r3 cc g1 ob ob ob c0_6 ob ob ob) ?_))
    rintro _ _ ⟨v21,rfl⟩
    refine ie ?_
    exact ⟨_,_,⟨v21,rfl,rfl⟩,(wk [2,2,2,0,0] fl)⟩
   refine aq (ar (ir 2 [(0,.p e 0),(3,Z1 cs),(4,Z1 fs),(6,.p b1 0),(7,.p b2 0),(10,.i k),(11,.p b3 0),(26,.i x1.op),(50,.b (x1.op==14))] (ie (Ug (fun F h=>F=[(0,.p e 0),(3,Z1 cs),(4,Z1 fs),(6,.p b1 0),(7,.p b2 0),(10,.i k),(11,.p b3 0),(26,.i x1.op),(50,.b ((x1.op==14)||(x1.op==15)))]/\h=[.obj b3 (ZE x1),.obj b2 (YY b),.obj b1 (ZU n),.obj e [.h r3],rK r3 6 (Z9 (ZS cc))]) ?_ ?_))))
   ·refine ac (x1.op==14) Ze (fun hc4=>?_) (fun hc4=>?_)
    ·refine ak ?_
     exact ⟨_,_,⟨rfl,rfl⟩,(wk [0,0,0,0,0] (fq (fq (fc (x:=.b (x1.op==14)) (lb (by first|rfl|(rw [Z8 hc4])|(rw [Z4 hc4])|(simp [hc4];done)|(rw [YW];simp [hc4];done)|omega)) fl))))⟩
    refine az (ir 2 [(0,.p e 0),(3,Z1 cs),(4,Z1 fs),(6,.p b1 0),(7,.p b2 0),(10,.i k),(11,.p b3 0),(26,.i x1.op),(50,.b (x1.op==15))] (ie ?_))
    exact ⟨_,_,⟨rfl,rfl⟩,(wk [0,0,0,0,0] (fq (fq (fc (x:=.b (x1.op==15)) (lb (by first|rfl|(rw [Z8 hc4])|(rw [Z4 hc4])|(simp [hc4];done)|(rw [YW];simp [hc4];done)|omega)) fl))))⟩
   rintro F h ⟨rfl,rfl⟩
   refine ac ((x1.op==14)||(x1.op==15)) (p:=(x1.op=14)∨(x1.op=15)) (Zz Ze Ze) (fun hc5=>?_) (fun hc5=>?_)
   ·refine aE 8 (dT (fuel:=3) 8 [0,1,2,3,4] [(0,.p e 0),(3,Z1 cs),(4,Z1 fs),(6,.p b1 0),(7,.p b2 0),(10,.i k),(11,.p b3 0),(53,.p e 0),(55,.i x1.op),(57,Z1 x1.args)] [0,0] [b3,b3] (Zm 5 (dc 5 [] [0] [b3] (K3 x1.args) ?_)))
    rintro _ _ ⟨v1,rfl,rfl⟩
    refine Zi (fuel:=1) 2 [6] (.n 59 (.agg [.i x1.op,.i 0,.i 0,.i 0,Z1 x1.args,.sl [] none]) .r) (Zm 7 (dc 7 [4,4] [] [] (Qa e r3 cc (Instr.mk x1.op 0 0 0 x1.args []) (hl:=Yf)) ?_))
    rintro _ _ ⟨v22,rfl,rfl⟩
    refine de ?_
    exact ⟨_,_,⟨v22,rfl,rfl⟩,(wk [3,3,3,0,0] fl (e:=(rc (rc (rc (rc (rr (ls:=Z9 (ZS (cc++[(Instr.mk x1.op 0 0 0 x1.args [])]))) (by rw [JM hc5];rfl) rz)))))))⟩
   refine aq (ar (ir 2 [(0,.p e 0),(3,Z1 cs),(4,Z1 fs),(6,.p b1 0),(7,.p b2 0),(10,.i k),(11,.p b3 0),(26,.i x1.op),(61,.b (x1.op==16))] (ie (Ug (fun F h=>F=[(0,.p e 0),(3,Z1 cs),(4,Z1 fs),(6,.p b1 0),(7,.p b2 0),(10,.i k),(11,.p b3 0),(61,.b ((x1.op==16)||(x1.op==17)))]/\h=[.obj b3 (ZE x1),.obj b2 (YY b),.obj b1 (ZU n),.obj e [.h r3],rK r3 6 (Z9 (ZS cc))]) ?_ ?_))))
   ·refine ac (x1.op==16) Ze (fun hc6=>?_) (fun hc6=>?_)
    ·refine ak ?_
     exact ⟨_,_,⟨rfl,rfl⟩,(wk [0,0,0,0,0] (fq (fw (fr (fc (x:=.b (x1.op==16)) (lb (by first|rfl|(rw [Z8 hc6])|(rw [Z4 hc6])|(simp [hc6];done)|(rw [YW];simp [hc6];done)|omega)) fl)))))⟩
    refine az (ir 2 [(0,.p e 0),(3,Z1 cs),(4,Z1 fs),(6,.p b1 0),(7,.p b2 0),(10,.i k),(11,.p b3 0),(61,.b (x1.op==17))] (ie ?_))
    exact ⟨_,_,⟨rfl,rfl⟩,(wk [0,0,0,0,0] (fq (fw (fr (fc (x:=.b (x1.op==17)) (lb (by first|rfl|(rw [Z8 hc6])|(rw [Z4 hc6])|(simp [hc6];done)|(rw [YW];simp [hc6];done)|omega)) fl)))))⟩
   rintro F h ⟨rfl,rfl⟩
   refine ac ((x1.op==16)||(x1.op==17)) (p:=(x1.op=16)∨(x1.op=17)) (Zz Ze Ze) (fun hc7=>?_) (fun hc7=>?_)
   ·refine ar (iR 2 [(0,.p e 0),(3,Z1 cs),(4,Z1 fs),(6,.p b1 0),(7,.p b2 0),(10,.i k),(11,.p b3 0),(65,Z1 x1.args)] [0] [b3] ?_)
    obtain ⟨x2,hx2⟩:=Zl (xs:=x1.args) (j:=0) (by obtain ⟨a,ha⟩:=hf.one om;rw [ha];simp)
    have hg0:=QO hx2
    have hra:=hf.args x2 (ZV hx2)
    refine Zf (Zj (es:=Z6 x1.args) (hv:=none) (j:=0) (sz:=1) (y:=.i x2) kr om (ZH hx2) rfl) (Z0 2 (.n 12 (.i x2) .r) (ie (aE 20 (ZI (fuel:=11) 20 [0,1,2,3,4,5,6,7,8] (.n 68 (.p e 0) (.n 70 (.i x1.op) (.n 72 (Z1 x1.args) (.n 74 (Z3 n.decls) (.n 75 (Z1 cs) (.n 76 (.i x2) .r)))))) [0,0,2] [b3,b3,b1] ?_))))
    obtain ⟨x3,hx3⟩:=Zl (xs:=cs) (j:=x2.toNat) om
    have hg1:=XR hx3
    have hcf:=VV hdk x3
    refine dx 9 (Zj (es:=Z6 cs) (hv:=none) (j:=x2) (sz:=1) (y:=.i x3) kr om (ZH hx3) rfl) (Zi (fuel:=7) 10 [10,12,13] (.n 78 (.i x3) (.n 80 (Z1 fs) (.n 81 (.i x2) .r))) ?_)
    obtain ⟨x4,hx4⟩:=Zl (xs:=fs) (j:=x2.toNat) om
    have hg2:=XR hx4
    have hgf:=c0_6 _ (ZV hx4)
    have hhl:=Z0t (Zc n.decls x3) x4
    refine dx 14 (Zj (es:=Z6 fs) (hv:=none) (j:=x2) (sz:=1) (y:=.i x4) kr om (ZH hx4) rfl) (Zi (fuel:=5) 6 [15] (.n 83 (.i x4) .r) (Zm 11 (dc 11 [] [0,0] [b3,b3] (Z1b n.decls x3) ?_)))
    rintro _ _ ⟨rfl,rfl⟩
    refine Zm 16 (dc 16 [] [0,0] [b3,b3] (Zyf (Zc n.decls x3) x4) ?_)
    rintro _ _ ⟨rfl,rfl⟩
    refine Zm 17 (dc 17 [] [0] [b3] (Z1c x1.args (Y7 (Zc n.decls x3) x4) (hl:=Yf)) ?_)
    rintro _ _ ⟨v2,rfl,rfl⟩
    refine Zi (fuel:=1) 2 [18] (.n 86 (.agg [.i x1.op,.i 0,.i 0,.i 0,Z1 (x1.args++(Y7 (Zc n.decls x3) x4)),.sl [] none]) .r) (Zm 19 (dc 19 [4,4] [] [] (Qa e r3 cc (Instr.mk x1.op 0 0 0 (x1.args++(Y7 (Zc n.decls x3) x4)) []) (hl:=Yf)) ?_))
    rintro _ _ ⟨v23,rfl,rfl⟩
    refine de ?_
    exact ⟨_,_,⟨v23,rfl,rfl⟩,(wk [3,3,3,0,0] fl (e:=(rc (rc (rc (rc (rr (ls:=Z9 (ZS (cc++[(Instr.mk x1.op 0 0 0 (x1.args++(Y7 (Zc n.decls x3) x4)) [])]))) (by rw [JO hc7];show _=Z9 (ZS (cc++[ZB _ 0 0 0 (x1.args++Y7 (Zc n.decls (gI cs (gI x1.args 0))) (gI fs (gI x1.args 0)))]));rw [hg0,hg1,hg2];rfl) rz)))))))⟩
   refine aE 14 (dT (fuel:=10) 14 [0,1,2,3] [(0,.p e 0),(3,Z1 cs),(4,Z1 fs),(6,.p b1 0),(7,.p b2 0),(10,.i k),(11,.p b3 0),(27,.p e 0),(29,.i x1.op),(30,Z1 cs)] [0] [b3] (dw 4 (ZD cs) (ZI (fuel:=3) 9 [5,6,7,8,9,10] (.n 33 (.i x1.num) (.n 35 (.i x1.into) (.n 37 (Z1 x1.args) .r))) [0,0,0] [b3,b3,b3] (Zm 11 (dc 11 [] [0,0,0] [b3,b3,b3] (K3 x1.args) ?_)))))
   rintro _ _ ⟨v3,rfl,rfl⟩
   refine Zi (fuel:=1) 2 [12] (.n 39 (.agg [.i x1.op,.i cs.length,.i x1.num,.i x1.into,Z1 x1.args,.sl [] none]) .r) (Zm 13 (dc 13 [4,4] [] [] (Qa e r3 cc (Instr.mk x1.op (cs.length:Int) x1.num x1.into x1.args []) (hl:=Yf)) ?_))
   rintro _ _ ⟨v24,rfl,rfl⟩
   refine de ?_
   exact ⟨_,_,⟨v24,rfl,rfl⟩,(wk [3,3,3,0,0] fl (e:=(rc (rc (rc (rc (rr (ls:=Z9 (ZS (cc++[(Instr.mk x1.op (cs.length:Int) x1.num x1.into x1.args [])]))) (by rw [JN om om hc5 hc7];rfl) rz)))))))⟩
  rintro F h ⟨r4,rfl,rfl⟩
  refine ar (iR 2 [(0,.p e 0),(3,Z1 cs),(4,Z1 fs),(6,.p b1 0),(7,.p b2 0),(10,.i k),(89,.i x1.op)] [0] [b3] (ic [] (Q9 x1.op) ?_))
  rintro _ _ ⟨rfl,rfl⟩
  refine ie (ac (Yl x1.op) Iff.rfl (fun hc8=>?_) (fun hc8=>?_))
  ·refine ar (Z0 1 (.n 91 (Z1 cs) .r) (iL (Z6 [0]) 1 1 ?_))
   intro v4
   refine Z0 0 (.n 92 (Z1 [0]) (.p .r)) (ic [] (Z1c cs [0] (hl:=Yf)) ?_)
   rintro _ _ ⟨v5,rfl,rfl⟩
   refine Z0 1 (.n 3 (Zb (cs++[0]) v5) (.q 93 (.k (.k (.q 90 (.k (.d .r))))))) (ie (az (Z0 1 (.n 94 (Z1 fs) .r) (iL (Z6 [0]) 1 1 ?_))))
   intro v6
   refine Z0 0 (.n 95 (Z1 [0]) (.p .r)) (ic [] (Z1c fs [0] (hl:=Yf)) ?_)
   rintro _ _ ⟨v7,rfl,rfl⟩
   refine Z0 1 (.n 4 (Zb (fs++[0]) v7) (.q 96 (.w (.w (.d .r))))) (ie (az (Z0 1 (.n 18 (.i k) .r) (ia (((k+1:Nat):Int)) (((k:Int))+(1)) (Z0 1 (.n 10 (.i (k+1:Nat)) (.p (.d (.k (.d (.d (.d (.k (.d (.d (.d (.d (.k (.k (.k .z))))))))))))))) (ie ?_))))))
   have hnc:¬Y2 x1.op=true:=fun q=>by rw [q,hc8] at hdc;cases hdc
   exact ⟨_,_,_,ob,⟨k+1,(Um n vs x1),(cs++[0]),(fs++[0]),(Xj (Ya n.decls) n.decls (cs,fs) x1 cc),r4,ob,(by have:=Jc n vs x1;omega),g2,(by have h:=Z4l (X:=Ya n.decls) hx1 c0_3;rw [Z4 hnc] at h;exact h),(by rw [Z5q g1 hnc];simp [c0_4]),(by rw [Z5q g1 hnc];simp [c0_5]),c0_6.snoc,om,rfl,rfl,rfl⟩,(wk [5,5,5,5] (fr (fc (x:=Zb (cs++[0]) v5) (Zg.sl _ (Y1 Z6 ob)) (fc (x:=Zb (fs++[0]) v7) (Zg.sl _ (Y1 Z6 ob)) (fw (fc (x:=.i (k+1:Nat)) li fl))))))⟩
  refine ak (az (Z0 1 (.n 18 (.i k) .r) (ia (((k+1:Nat):Int)) (((k:Int))+(1)) (Z0 1 (.n 10 (.i (k+1:Nat)) (.p (.d (.p (.w (.k .z)))))) (ie ?_)))))
  have hyc:Y2 x1.op=true:=by cases q:Y2 x1.op with
   | true=>rfl
   | false=>rw [q] at hdc;exact absurd hdc hc8
  have hsv:=Za6 g1 hyc
  rw [hsv] at g2
  exact ⟨_,_,_,ob,⟨k+1,vs,cs,fs,(Xj (Ya n.decls) n.decls (cs,fs) x1 cc),r4,ob,om,g2,(by have h:=Z4l (X:=Ya n.decls) hx1 c0_3;rw [Z8 hyc] at h;exact h),ob,ob,ob,om,rfl,rfl,rfl⟩,(wk [1,1,1,1] (fq (fr (fc (x:=.i (k+1:Nat)) li fl))))⟩
 refine ax 0 ?_
 exact r2 [2,2] [] ⟨r3,rfl⟩ (lr _) (eq:=(rc (rr (ls:=Z9 (ZS cc)) (by rw [Zf6 om c0_3,Zf0]) rz)))
theorem Zyb (n:Normal) (hn:NOk n) (k:Nat):(∀(s:Step) (us:List Int) (cons:List Int) (first:List Int) (e:Nat) (v:Hd) (c:List Instr),(0<=Zp n us s)->(s.op=7∨s.op=8)->(cons.length=us.length)->(first.length=us.length)->(VE first)->(us.length+4*s.sz<=900000000)->(c.length+16*s.sz<=4000000000)->(s.sz<=k)->Zd Tryz.prog 74 [.p e 0,ZJ n,ZN s,Z1 cons,Z1 first] [.obj e [.h v],rK v 6 (Z9 (ZS c))] (fun r h=>∃(v2:Hd),h=[.obj e [.h v2],rK v2 6 (Z9 (ZS (Xj (Ya n.decls) n.decls (cons,first) s c)))]))/\(∀(b:Block) (us:List Int) (cons:List Int) (first:List Int) (e:Nat) (v:Hd) (c:List Instr),(0<=ZF n us b)->(cons.length=us.length)->(first.length=us.length)->(VE first)->(us.length+4*b.sz<=900000000)->(c.length+16*b.sz<=4000000000)->(b.sz<=k)->Zd Tryz.prog 39 [.p e 0,ZJ n,Zx b,Z1 cons,Z1 first] [.obj e [.h v],rK v 6 (Z9 (ZS c))] (fun r h=>∃(v2:Hd),h=[.obj e [.h v2],rK v2 6 (Z9 (ZS (flB (Ya n.decls) n.decls (cons,first) b c)))])):=by
 induction k with
 | zero=>exact ⟨fun s us cons first e v c h1 h2 h3 h4 h5 h6 h7 h8=>by have:=s.sz_pos;omega,fun b us cons first e v c h1 h2 h3 h4 h5 h6 h7=>by have:=b.sz_eq;omega⟩
 | succ k ih=>exact ⟨fun s us cons first e v c h1 h2 h3 h4 h5 h6 h7 h8=>Zy5 n s us cons first e v c hn h1 h2 h3 h4 h5 h6 h7 fun b2 us2 c2 f2 e2 v2 i2 q1 q2 q3 q4 q5 q6 q7=>ih.2 b2 us2 c2 f2 e2 v2 i2 q1 q2 q3 q4 q5 q6 om,fun b us cons first e v c h1 h2 h3 h4 h5 h6 h7=>Zya n b us cons first e v c hn h1 h2 h3 h4 h5 h6 fun s2 us2 c2 f2 e2 v2 i2 q1 q2 q3 q4 q5 q6 q7 q8=>ih.1 s2 us2 c2 f2 e2 v2 i2 q1 q2 q3 q4 q5 q6 q7 om⟩
theorem Zy9 (n:Normal) (b:Block) (us:List Int) (cons:List Int) (first:List Int) (e:Nat) (v:Hd) (c:List Instr) (hn:NOk n:=by exact ob) (ht:0<=ZF n us b:=by exact ob) (hcl:cons.length=us.length:=by exact ob) (hfl:first.length=us.length:=by exact ob) (hfs:VE first:=by exact ob) (hb:us.length+4*b.sz<=900000000:=by exact ob) (hcn:c.length+16*b.sz<=4000000000:=by exact ob):Zd Tryz.prog 39 [.p e 0,ZJ n,Zx b,Z1 cons,Z1 first] [.obj e [.h v],rK v 6 (Z9 (ZS c))] (fun r h=>∃(v2:Hd),h=[.obj e [.h v2],rK v2 6 (Z9 (ZS (flB (Ya n.decls) n.decls (cons,first) b c)))]):=(Zyb n hn b.sz).2 b us cons first e v c ht hcl hfl hfs hb hcn (Yp _)
theorem Zyi (c:List Instr) (p:Nat) (hrg:Rg c:=by exact ob) (hlc:c.length<=1000000000:=by exact ob) (hp:p<=1000000000:=by exact ob):Zd Tryz.prog 42 [XT c,.i p] [] (fun r h=>r=.i (max (XP 0 c) (p:Int))/\h=[]):=by
 refine enter Tryz.func42 kr (n:=45) kr kr (ar (ir 1 [(0,XT c),(1,.i p)] (ie (ar (Z0 2 (.n 5 (.i p) .r) (ie (aq (ar (Z0 1 (.n 6 (.i 0) .r) (ie (ab 0 (al (fun m F h=>∃(k:Nat) (mx:Int),(k<=c.length)/\(0<=mx/\mx<=1000000001)/\(XP mx (c.drop k)=XP (p:Int) c)/\F=[(0,XT c),(5,.i mx),(6,.i k)]/\h=[]/\m=c.length-k) _ _ _ ⟨0,(p:Int),ob,ob,rfl,rfl,rfl,rfl⟩ (wk [] (fw (fc (x:=.i 0) li fl))) ?_))))))))))))
 rintro m F h ⟨k,mx,c0_0,c0_1,c0_2,rfl,rfl,rfl⟩
 refine aq (ar (Z0 2 (.n 9 (.i k) (.n 10 (XT c) .r)) (iw (Z26 c) (Z0 1 (.n 12 (.b (decide ((k:Int)<(c.length:Int)))) .r) (ie (ac (decide ((k:Int)<(c.length:Int))) dq (fun hc1=>?_) (fun hc1=>?_)))))))
 ·refine ak (aq (ab 1 (ar (Z0 3 (.n 15 (.i mx) (.n 16 (XT c) (.n 17 (.i k) .r))) ?_))))
  obtain ⟨x1,hx1⟩:=Zl (xs:=c) (j:=k) om
  have hrx:=hrg _ (ZV hx1)
  have hdx:=hrx.dst
  have hlx:=hrx.len
  refine Zf (Zj (es:=ZS c) (hv:=none) (j:=(k:Int)) (sz:=6) (y:=UJ x1) kr om (Z25 hx1) rfl) (Z0 2 (.n 20 (.i x1.dst) .r) (ia ((x1.dst+1)) ((x1.dst)+(1)) (Zf (Z2l mx (x1.dst+1)) (ir 1 [(0,XT c),(5,.i (max mx (x1.dst+1))),(6,.i k)] (ie (ar (Z0 1 (.n 7 (.i 0) .r) (ie (ab 2 (al (fun m F h=>∃(j:Nat) (mm:Int),(j<=x1.args.length)/\(0<=mm/\mm<=1000000001)/\((x1.args.drop j).foldl (fun m a=>max m (a+1)) mm=U4 mx x1)/\F=[(0,XT c),(5,.i mm),(6,.i k),(7,.i j)]/\h=[]/\m=x1.args.length-j) _ _ _ ⟨0,(max mx (x1.dst+1)),ob,ob,rfl,rfl,rfl,rfl⟩ (wk [] (fw (fr (fc (x:=.i 0) li fl)))) ?_))))))))))
  rintro m F h ⟨j,mm,c1_0,c1_1,c1_2,rfl,rfl,rfl⟩
  refine aq (ar (Z0 3 (.n 23 (.i j) (.n 24 (XT c) (.n 25 (.i k) .r))) (Zf (Zj (es:=ZS c) (hv:=none) (j:=(k:Int)) (sz:=6) (y:=UJ x1) kr om (Z25 hx1) rfl) (Z0 2 (.n 28 (Z1 x1.args) .r) (iw (ZD x1.args) (Z0 1 (.n 30 (.b (decide ((j:Int)<(x1.args.length:Int)))) .r) (ie (ac (decide ((j:Int)<(x1.args.length:Int))) dq (fun hc2=>?_) (fun hc2=>?_)))))))))
  ·refine ak (aq (ab 3 (az (Z0 3 (.n 33 (.i mm) (.n 34 (XT c) (.n 35 (.i k) .r))) (Zf (Zj (es:=ZS c) (hv:=none) (j:=(k:Int)) (sz:=6) (y:=UJ x1) kr om (Z25 hx1) rfl) (Z0 3 (.n 38 (Z1 x1.args) (.n 39 (.i j) .r)) ?_))))))
   obtain ⟨x2,hx2⟩:=Zl (xs:=x1.args) (j:=j) om
   have hax:=hrx.args x2 (ZV hx2)
   refine Zf (Zj (es:=Z6 x1.args) (hv:=none) (j:=(j:Int)) (sz:=1) (y:=.i x2) kr om (ZH hx2) rfl) (Z0 1 (.n 41 (.i x2) .r) (ia ((x2+1)) ((x2)+(1)) (Zf (Z2l mm (x2+1)) (ir 1 [(0,XT c),(5,.i (max mm (x2+1))),(6,.i k),(7,.i j)] (ie (az (Z0 1 (.n 31 (.i j) .r) (ia (((j+1:Nat):Int)) (((j:Int))+(1)) (Z0 1 (.n 7 (.i (j+1:Nat)) (.p (.d (.k (.k (.k .z)))))) (ie ?_))))))))))
   exact ⟨_,_,_,ob,⟨j+1,(max mm (x2+1)),ob,ob,(Zha hx2 c1_2),rfl,rfl,rfl⟩,(wk [] (fw (fr (fc (x:=.i (j+1:Nat)) li fl))))⟩
  refine ax 2 (az (Z0 1 (.n 13 (.i k) .r) (ia (((k+1:Nat):Int)) (((k:Int))+(1)) (ir 1 [(0,XT c),(5,.i mm),(6,.i (k+1:Nat))] (ie ?_)))))
  exact ⟨_,_,_,ob,⟨k+1,mm,ob,ob,(Zw6 hx1 (Zh9 om c1_2) c0_2),rfl,rfl,rfl⟩,(wk [] (fw (fc (x:=.i (k+1:Nat)) li fl)))⟩
 refine ax 0 (ar (ir 2 [(4,.i mx)] (ie ?_)))
 exact Z5 (r2 [] [.i mx] ⟨rfl,rfl⟩ (li (by rw [<-Zw3];exact Zw5 om c0_2)))
theorem Zyc (n:Normal) (hn:NOk n:=by exact ob) (hz:NSz n:=by exact ob) (hB:Ws n=true:=by exact ob):Zd Tryz.prog 16 [ZJ n] [] (fun r h=>r=UI (WZ n)/\h=[]):=by
 have hzl:=hn.len
 obtain ⟨_,_,hbt⟩:=KN hz hB
 have hdk:=hn.decls
 refine enter Tryz.func16 kr (n:=73) kr kr (ar (iA (ZU n) ?_))
 intro b1
 refine iA [nl,nl] ?_
 intro b2
 refine ie (ar (iR 2 [(1,.p b1 0),(2,.p b2 0),(9,Z3 n.decls)] [1] [b1] (ic [] (Zy7 n.decls (hd:=hn.decls)) ?_)))
 rintro _ _ ⟨rfl,rfl⟩
 refine iL (V9 []) 0 5 ?_
 intro v1
 refine Z0 1 (.n 12 (.agg [Z3 n.decls,Q4 [] v1]) .r) (iA [nl,nl] ?_)
 intro b3
 refine iS 0 b3 0 [Z3 n.decls,Q4 [] v1] [nl,nl] [Z3 n.decls,Q4 [] v1] (ie (aq (ar (Z0 1 (.n 4 (.i 0) .r) (ie (ab 0 (al (fun m F h=>∃(k:Nat) (v:Value),(k<=n.routines.length)/\F=[(1,.p b1 0),(2,.p b2 0),(3,.p b3 0),(4,.i k)]/\h=[.obj b3 [Z3 n.decls,Q4 ((n.routines.take k).map (Vb n.decls)) v],.obj b2 [nl,nl],.obj b1 (ZU n),.tail v 5]/\m=n.routines.length-k) _ _ _ ⟨0,v1,ob,rfl,rfl,rfl⟩ (wk [0,1,1,0] (fw (fr (fc (x:=.i 0) li fl)))) ?_)))))))
 rintro m F h ⟨k,v,c0_0,rfl,rfl,rfl⟩
 refine aq (ar (Za 3 (.n 13 (.i k) (.n 15 (Yh n.routines) .r)) [2] [b1] (iw (VY n.routines) (Z0 1 (.n 17 (.b (decide ((k:Int)<(n.routines.length:Int)))) .r) (ie (ac (decide ((k:Int)<(n.routines.length:Int))) dq (fun hc1=>?_) (fun hc1=>?_)))))))
 ·refine ak (aq (ab 1 (ar (Za 3 (.n 21 (Yh n.routines) (.n 22 (.i k) .r)) [2] [b1] ?_))))
  obtain ⟨x1,hx1⟩:=Zl (xs:=n.routines) (j:=k) om
  have hrm:=ZV hx1
  have hbz:=hz.body _ hrm
  have hpl:=hn.params_at hx1
  have hll:=hn.lent_at hx1
  have hty:=hbt _ hrm
  have hcl:=Z7e hz hB _ hrm
  have hfl:=TU (Ya n.decls) hdk (x1).body (Y0 (x1).params.length,Y0 (x1).params.length) []
  simp only [Yk] at hfl
  refine Zf (Zj (es:=WD n.routines) (hv:=none) (j:=(k:Int)) (sz:=5) (y:=Xc x1) kr om (VX hx1) rfl) (Z0 1 (.n 24 (Xc x1) .r) (iA [nl,nl,.i 0,nl,.i 0] ?_))
  intro b4
  refine iS 0 b4 0 (WI x1) [nl,nl,.i 0,nl,.i 0] (WI x1) (ie (ar (iKL 6 ?_)))
  intro g1
  refine Z0 1 (.n 26 (.agg [.ms g1 0 0 0]) .r) (iA [.ms g1 0 0 0] ?_)
  intro b5
  refine Z0 1 (.n 6 (.p b5 0) .r) (ie (ar (Za 2 (.n 29 (Z1 x1.params) .r) [2] [b4] (iw (ZD x1.params) (ic [] (Zk0 x1.params.length) ?_)))))
  rintro _ _ ⟨rfl,rfl⟩
  refine Z0 1 (.n 7 (Z1 (Y0 x1.params.length)) .r) (ie (ar (Za 6 (.n 32 (.p b5 0) (.n 33 (ZJ n) (.n 35 (Zx x1.body) (.n 36 (Z1 (Y0 x1.params.length)) (.n 37 (Z1 (Y0 x1.params.length)) .r))))) [5,2] [b1,b4] (ic [0,0] (Zy9 n x1.body x1.params (Y0 x1.params.length) (Y0 x1.params.length) b5 (⟨some ⟨g1,0,none⟩,0,0⟩:Hd) [] (ht:=hty) (hcl:=(QS _)) (hfl:=(QS _)) (hfs:=(Zl5 _ om)) (hcn:=(by simp only [Yk];omega))) ?_))))
  rintro _ _ ⟨v21,rfl⟩
  refine ie (ar (Za 4 (.n 39 (.p b5 0) (.n 42 (.i x1.body.result) (.p .r))) [2] [b4] (iL (Z6 [x1.body.result]) 1 1 ?_)))
  intro v2
  refine Z0 1 (.n 44 (.agg [.i 23,.i 0,.i 0,.i 0,Z1 [x1.body.result],.sl [] none]) .r) (ic [1,1] (Qa b5 v21 (flB (Ya n.decls) n.decls ((Y0 x1.params.length),(Y0 x1.params.length)) x1.body []) (Instr.mk 23 0 0 0 [x1.body.result] []) (hl:=om)) ?_)
  rintro _ _ ⟨v22,rfl,rfl⟩
  refine WR (K4 1 v22.v 6 (Z9 (ZS ((flB (Ya n.decls) n.decls ((Y0 x1.params.length),(Y0 x1.params.length)) x1.body [])++[(Instr.mk 23 0 0 0 [x1.body.result] [])]))) (Z9 (ZS (Wa n.decls x1))) (by rw [<-Znp hz hB x1 hrm];rfl)) (WR (Zko 0 0 0 v22.v 6 b5 (ZS (Wa n.decls x1)) [.h v22] (Z7w _) rfl) (ie (aE 27 (ZI (fuel:=13) 27 [0,1,2,3,5,6,8,9,10,11,12,13,14,15] (.n 47 (Q4 ((n.routines.take k).map (Vb n.decls)) v) (.n 49 (Z1 x1.params) (.n 52 (Z1 x1.lent) (.n 55 (.i x1.result) (.n 59 (Zhn (Wa n.decls x1) v22.v) (.n 61 (Z1 x1.params) .r)))))) [4,3,3,3,0,3] [b3,b4,b4,b4,b5,b4] (dw 16 (ZD x1.params) (ZI (fuel:=8) 12 [18,19,20,21] (.n 67 (Zhn (Wa n.decls x1) v22.v) .r) [0] [b5] (Zm 4 (dc 4 [] [0,1,0,1,1,2] [b5,b4,b5,b4,b4,b3] (K3 x1.params) ?_))))))))
  rintro _ _ ⟨v3,rfl,rfl⟩
  refine Zm 7 (dc 7 [] [0,1,0,1,2] [b5,b4,b5,b4,b3] (K3 x1.lent) ?_)
  rintro _ _ ⟨v4,rfl,rfl⟩
  refine Zi (fuel:=6) 6 [] (.n 59 (XT (Wa n.decls x1)) (.q 53 (.q 50 (.k (.q 62 (.w (.d .r))))))) (Zm 17 (dc 17 [] [0,1,2] [b5,b4,b3] (Zyi (Wa n.decls x1) x1.params.length (hrg:=(Z7f hz hB _ hrm))) ?_))
  rintro _ _ ⟨rfl,rfl⟩
  refine Zi (fuel:=4) 5 [22] (.n 68 (.agg [Z1 x1.params,Z1 x1.lent,.i x1.result,.i (max (XP 0 (Wa n.decls x1)) (x1.params.length:Int)),XT (Wa n.decls x1)]) .r) (Zm 23 (dL 23 [2] [b3] (V9 [(Proc.mk x1.params x1.lent x1.result (max (XP 0 (Wa n.decls x1)) (x1.params.length:Int)) (Wa n.decls x1))]) 1 5 ?_))
  intro v5
  refine Zi (fuel:=3) 3 [] (.n 69 (U1 [(Proc.mk x1.params x1.lent x1.result (max (XP 0 (Wa n.decls x1)) (x1.params.length:Int)) (Wa n.decls x1))]) (.p .r)) (Zm 24 (dp 24 10 [] [] (V9 ((n.routines.take (k+1)).map (Vb n.decls))) (V9 ((n.routines.take k).map (Vb n.decls))) (V9 [(Proc.mk x1.params x1.lent x1.result (max (XP 0 (Wa n.decls x1)) (x1.params.length:Int)) (Wa n.decls x1))]) v none 5 (Ze1 _) (Ze1 _) (Zpc _) (by simp<;>omega) (by rw [V3 hx1];simp [V9,Vb]) ?_))
  intro v6
  refine Zi (fuel:=1) 2 [25] (.n 71 (.p b3 1) .r) (Zm 26 (dS 26 8 [] [] b3 1 [Q4 ((n.routines.take (k+1)).map (Vb n.decls)) v6] [Z3 n.decls,Q4 ((n.routines.take k).map (Vb n.decls)) v] [Z3 n.decls,Q4 ((n.routines.take (k+1)).map (Vb n.decls)) v6] (de (az (Z0 1 (.n 18 (.i k) .r) (ia (((k+1:Nat):Int)) (((k:Int))+(1)) (ir 1 [(1,.p b1 0),(2,.p b2 0),(3,.p b3 0),(4,.i (k+1:Nat))] (ie ?_))))))))
  exact ⟨_,_,_,ob,⟨k+1,v6,ob,rfl,rfl,rfl⟩,(wk [0,8,8,0] (fw (fr (fc (x:=.i (k+1:Nat)) li fl))))⟩
 refine ax 0 (ar (Za 1 (.n 72 (.agg [Z3 n.decls,Q4 ((n.routines.take k).map (Vb n.decls)) v]) .r) [0] [b3] (iS 1 b2 0 [Z3 n.decls,Q4 ((n.routines.take k).map (Vb n.decls)) v] [nl,nl] [Z3 n.decls,Q4 ((n.routines.take k).map (Vb n.decls)) v] (ie ?_))))
 exact Z5 (r3 [] [.agg [Z3 n.decls,Q4 ((n.routines.take k).map (Vb n.decls)) v]] [0] [(b2,b2)] ⟨rfl,rfl⟩ (Zg.agg (.cons (Zg.sl _ (Y1 ZQ rfl)) (.cons (Zg.sl _ (Y1 V9 (by rw [W7 om];rfl))) .nil))))
theorem Zxz (n:Normal) (hz:NSz n):Zd Tryz.prog 5 [ZJ n] [] (fun r h=>r=.tup [UI ((Yb n).1),.b ((Yb n).2)]/\h=[]):=by
 refine enter Tryz.func5 kr (n:=29) kr kr (ar (iA (ZU n) ?_))
 intro b1
 refine iA [nl,nl] ?_
 intro b2
 refine ir 1 [(1,.p b1 0),(2,.p b2 0)] (ie (aq (ar (Za 1 (.n 6 (ZJ n) .r) [1] [b1] (ic [] (Zy2 n) ?_)))))
 rintro _ _ ⟨rfl,rfl⟩
 refine Z0 1 (.n 8 (.b (!Ws n)) .r) (ie (ac (!Ws n) (p:=¬(Ws n=true)) (ZP Iff.rfl) (fun hc1=>?_) (fun hc1=>?_)))
 ·refine ar (Z0 1 (.n 9 (.agg [nl,nl]) .r) (iS 0 b2 0 [nl,nl] [nl,nl] [nl,nl] (Z0 1 (.n 3 (.b false) .r) (ie ?_))))
  have hE:=Z8f hc1
  exact Z5 (r3 [] [.agg [nl,nl],.b false] [0] [(b2,b2)] ⟨rfl,rfl⟩ (Zg.tup (.cons (Zg.agg (.cons (Zg.sl _ (by rw [hE];rfl)) (.cons (Zg.sl _ (by rw [hE];rfl)) .nil))) (.cons (lb (by rw [hE])) .nil))))
 have hB:Ws n=true:=XE.1 hc1
 obtain ⟨hn,hsg,hbt⟩:=KN hz hB
 have hzl:=hn.len
 have hpl:=Zrk n
 refine ak (ar (Za 1 (.n 10 (ZJ n) .r) [1] [b1] (ic [] (Zyc n (hB:=hB)) ?_)))
 rintro _ _ ⟨rfl,rfl⟩
 refine iA [nl,nl] ?_
 intro b3
 refine iS 0 b3 0 (Tv (WZ n)) [nl,nl] (Tv (WZ n)) (ie (aq (ar (Z0 1 (.n 5 (.i 0) .r) (ie (ab 0 (al (fun m F h=>∃(k:Nat),(k<=n.routines.length)/\(U5 n.decls (n.routines.drop k)=U5 n.decls n.routines)/\F=[(2,.p b2 0),(4,.p b3 0),(5,.i k)]/\h=[.obj b3 (Tv (WZ n)),.obj b2 [nl,nl]]/\m=n.routines.length-k) _ _ _ ⟨0,ob,rfl,rfl,rfl,rfl⟩ (wk [0,0] (fw (fc (x:=.i 0) li fl))) ?_)))))))
 rintro m F h ⟨k,c0_0,c0_1,rfl,rfl,rfl⟩
 refine aq (ar (Za 3 (.n 12 (.i k) (.n 14 (U1 ((WZ n).procs)) .r)) [0] [b3] (io (.i ((((WZ n).procs).length:Nat):Int)) (.i (((V9 ((WZ n).procs)).length:Nat):Int)) (li (by rw [Z4e])) (Z0 1 (.n 16 (.b (decide ((k:Int)<((((WZ n).procs).length:Nat):Int)))) .r) (ie (ac (decide ((k:Int)<((((WZ n).procs).length:Nat):Int))) dq (fun hc2=>?_) (fun hc2=>?_)))))))
 ·obtain ⟨rt,hrt⟩:=Zl (xs:=n.routines) (j:=k) om
  have hpx:=Zrj hrt
  have hcl:=Z7e hz hB _ (ZV hrt)
  refine ak (aq (ab 1 (ar (Za 3 (.n 20 (U1 ((WZ n).procs)) (.n 21 (.i k) .r)) [0] [b3] (Zf (Zj (es:=V9 ((WZ n).procs)) (hv:=none) (j:=(k:Int)) (sz:=5) (y:=QD (Vb n.decls rt)) kr om (Z7y hpx) rfl) (Z0 2 (.n 24 (XT ((Vb n.decls rt).code)) .r) (io (.i ((((Vb n.decls rt).code).length:Nat):Int)) (.i (((ZS ((Vb n.decls rt).code)).length:Nat):Int)) (li (by rw [Z26])) (Z0 1 (.n 26 (.b (decide (((((Vb n.decls rt).code).length:Nat):Int)>2000))) .r) (ie (ac (decide (((((Vb n.decls rt).code).length:Nat):Int)>2000)) dq (fun hc3=>?_) (fun hc3=>?_)))))))))))
  ·refine ar (Z0 1 (.n 27 (.agg [nl,nl]) .r) (iS 1 b2 0 [nl,nl] [nl,nl] [nl,nl] (Z0 1 (.n 3 (.b false) .r) (ie ?_))))
   have hE:=Z8e (Zje hrt (by have h:((Wa n.decls rt).length:Int)>2000:=hc3;omega) c0_1)
   exact Z5 (r3 [] [.agg [nl,nl],.b false] [0] [(b2,b2)] ⟨rfl,rfl⟩ (Zg.tup (.cons (Zg.agg (.cons (Zg.sl _ (by rw [hE];rfl)) (.cons (Zg.sl _ (by rw [hE];rfl)) .nil))) (.cons (lb (by rw [hE])) .nil))))
  refine ak (az (Z0 1 (.n 17 (.i k) .r) (ia (((k+1:Nat):Int)) (((k:Int))+(1)) (ir 1 [(2,.p b2 0),(4,.p b3 0),(5,.i (k+1:Nat))] (ie ?_)))))
  exact ⟨_,_,_,ob,⟨k+1,ob,(Zjd hrt (by exact fun q=>hc3 (by show ((Wa n.decls rt).length:Int)>2000;omega)) c0_1),rfl,rfl,rfl⟩,(wk [0,0] (fw (fc (x:=.i (k+1:Nat)) li fl)))⟩
 refine ax 0 (ar (Za 1 (.n 28 (UI (WZ n)) .r) [0] [b3] (iS 1 b2 0 (Tv (WZ n)) [nl,nl] (Tv (WZ n)) (Z0 1 (.n 3 (.b true) .r) (ie ?_)))))
 have hE:=Z8h hB (Zjc om c0_1)
 exact Z5 (r3 [] [UI (WZ n),.b true] [0] [(b2,b2)] ⟨rfl,rfl⟩ (Zg.tup (.cons (Zg.agg (.cons (Zg.sl _ (Y1 ZQ (by rw [hE]))) (.cons (Zg.sl _ (Y1 V9 (by rw [hE]))) .nil))) (.cons (lb (by rw [hE])) .nil))))
theorem Zpn (x:Instr) (h1:x.args.length<=1000000000:=by exact ob) (h2:x.jumps.length<=1000000000:=by exact ob):Zd Tryz.prog 129 [UJ x,UJ x] [] (fun r h=>r=.b true/\h=[]):=by
 refine enter Tryz.func129 kr (n:=37) kr kr (ar (iA (UQ x) ?_))
 intro b1
 refine iA (UQ x) ?_
 intro b2
 refine ir 1 [(2,.p b1 0),(3,.p b2 0)] (ie (aq (ar (Za 5 (.n 9 (.b (x.op != x.op)) .r) [1,0] [b1,b2] (ie (ac (x.op != x.op) Zw (fun hc1=>?_) (fun hc1=>?_)))))))
 ·refine ar (ir 1 [(4,.b false)] (ie ?_))
  exact Z5 (r2 [] [.b false] ⟨rfl,rfl⟩ lb)
 refine ak (aq (ar (Za 5 (.n 14 (.b (x.dst != x.dst)) .r) [1,0] [b1,b2] (ie (ac (x.dst != x.dst) Zw (fun hc2=>?_) (fun hc2=>?_))))))
 ·refine ar (ir 1 [(4,.b false)] (ie ?_))
  exact Z5 (r2 [] [.b false] ⟨rfl,rfl⟩ lb)
 refine ak (aq (ar (Za 5 (.n 19 (.b (x.num != x.num)) .r) [1,0] [b1,b2] (ie (ac (x.num != x.num) Zw (fun hc3=>?_) (fun hc3=>?_))))))
 ·refine ar (ir 1 [(4,.b false)] (ie ?_))
  exact Z5 (r2 [] [.b false] ⟨rfl,rfl⟩ lb)
 refine ak (aq (ar (Za 5 (.n 24 (.b (x.into != x.into)) .r) [1,0] [b1,b2] (ie (ac (x.into != x.into) Zw (fun hc4=>?_) (fun hc4=>?_))))))
 ·refine ar (ir 1 [(4,.b false)] (ie ?_))
  exact Z5 (r2 [] [.b false] ⟨rfl,rfl⟩ lb)
 refine ak (aq (ar (Za 4 (.n 26 (Z1 x.args) (.n 28 (Z1 x.args) .r)) [1,0] [b1,b2] (ic [] (J1 x.args) ?_))))
 rintro _ _ ⟨rfl,rfl⟩
 refine Z0 1 (.n 30 (.b false) .r) (ie (YA (ak (aq (ar (iR 4 [(32,Z1 x.jumps),(34,Z1 x.jumps)] [1,0] [b1,b2] (ic [] (J1 x.jumps) ?_)))))))
 rintro _ _ ⟨rfl,rfl⟩
 refine ir 1 [(36,.b false)] (ie (YA (ak (ar (ir 1 [(4,.b true)] (ie ?_))))))
 exact Z5 (r1 [] ⟨rfl,rfl⟩)
theorem Zpo (cs:List Instr) (hl:cs.length<=1000000000:=by exact ob) (ha:∀x∈cs,x.args.length<=1000000000/\x.jumps.length<=1000000000):Zd Tryz.prog 96 [XT cs,XT cs] [] (fun r h=>r=.b true/\h=[]):=by
 refine enter Tryz.func96 kr (n:=27) kr kr (ar (ir 1 [(0,XT cs),(1,XT cs)] (ie (aq (ar (Z0 1 (.n 6 (XT cs) .r) (iw (Z26 cs) (Z0 1 (.n 8 (XT cs) .r) (iw (Z26 cs) (Z0 1 (.n 10 (.b ((cs.length:Int) != (cs.length:Int))) .r) (ie (ac ((cs.length:Int) != (cs.length:Int)) Zw (fun hc1=>?_) (fun hc1=>?_)))))))))))))
 ·refine ar (ir 1 [(4,.b false)] (ie ?_))
  exact Z5 (r2 [] [.b false] ⟨rfl,rfl⟩ lb)
 refine ak (aq (ar (Z0 1 (.n 5 (.i 0) .r) (ie (ab 0 (al (fun m F h=>∃(k:Nat),(k<=cs.length)/\F=[(0,XT cs),(1,XT cs),(5,.i k)]/\h=[]/\m=cs.length-k) _ _ _ ⟨0,ob,rfl,rfl,rfl⟩ (wk [] (fw (fc (x:=.i 0) li fl))) ?_))))))
 rintro m F h ⟨k,c0_0,rfl,rfl,rfl⟩
 refine aq (ar (Z0 2 (.n 11 (.i k) (.n 12 (XT cs) .r)) (iw (Z26 cs) (Z0 1 (.n 14 (.b (decide ((k:Int)<(cs.length:Int)))) .r) (ie (ac (decide ((k:Int)<(cs.length:Int))) dq (fun hc2=>?_) (fun hc2=>?_)))))))
 ·refine ak (aq (ab 1 (aD 10 (Zi (fuel:=8) 10 [0,1] (.n 17 (XT cs) (.n 18 (.i k) .r)) ?_))))
  obtain ⟨x1,hx1⟩:=Zl (xs:=cs) (j:=k) om
  have hm:=ha _ (ZV hx1)
  refine dx 2 (Zj (es:=ZS cs) (hv:=none) (j:=(k:Int)) (sz:=6) (y:=UJ x1) kr om (Z25 hx1) rfl) (Zi (fuel:=4) 7 [3,4,5] (.n 20 (UJ x1) (.n 21 (XT cs) (.n 22 (.i k) .r))) (dx 6 (Zj (es:=ZS cs) (hv:=none) (j:=(k:Int)) (sz:=6) (y:=UJ x1) kr om (Z25 hx1) rfl) (Zi (fuel:=2) 3 [7] (.n 24 (UJ x1) .r) (Zm 8 (dc 8 [] [] [] (Zpn x1) ?_)))))
  rintro _ _ ⟨rfl,rfl⟩
  refine Zi (fuel:=0) 1 [9] (.n 26 (.b false) .r) (de (YA (ak (az (Z0 1 (.n 15 (.i k) .r) (ia (((k+1:Nat):Int)) (((k:Int))+(1)) (ir 1 [(0,XT cs),(1,XT cs),(5,.i (k+1:Nat))] (ie ?_))))))))
  exact ⟨_,_,_,ob,⟨k+1,ob,rfl,rfl,rfl⟩,(wk [] (fw (fc (x:=.i (k+1:Nat)) li fl)))⟩
 refine ax 0 (ar (ir 1 [(4,.b true)] (ie ?_)))
 exact Z5 (r1 [] ⟨rfl,rfl⟩)
theorem Zpr (x:Proc) (h1:x.params.length<=1000000000:=by exact ob) (h2:x.lent.length<=1000000000:=by exact ob) (h3:x.code.length<=1000000000:=by exact ob) (ha:∀i∈x.code,i.args.length<=1000000000/\i.jumps.length<=1000000000):Zd Tryz.prog 56 [QD x,QD x] [] (fun r h=>r=.b true/\h=[]):=by
 refine enter Tryz.func56 kr (n:=33) kr kr (ar (iA (Z53 x) ?_))
 intro b1
 refine iA (Z53 x) ?_
 intro b2
 refine ir 1 [(2,.p b1 0),(3,.p b2 0)] (ie (aq (ar (Za 4 (.n 6 (Z1 x.params) (.n 8 (Z1 x.params) .r)) [1,0] [b1,b2] (ic [] (J1 x.params) ?_)))))
 rintro _ _ ⟨rfl,rfl⟩
 refine Z0 1 (.n 10 (.b false) .r) (ie (YA (ak (aq (ar (Za 4 (.n 12 (Z1 x.lent) (.n 14 (Z1 x.lent) .r)) [1,0] [b1,b2] (ic [] (J1 x.lent) ?_)))))))
 rintro _ _ ⟨rfl,rfl⟩
 refine Z0 1 (.n 16 (.b false) .r) (ie (YA (ak (aq (ar (Za 5 (.n 21 (.b (x.result != x.result)) .r) [1,0] [b1,b2] (ie (ac (x.result != x.result) Zw (fun hc1=>?_) (fun hc1=>?_)))))))))
 ·refine ar (ir 1 [(4,.b false)] (ie ?_))
  exact Z5 (r2 [] [.b false] ⟨rfl,rfl⟩ lb)
 refine ak (aq (ar (Za 5 (.n 26 (.b (x.regs != x.regs)) .r) [1,0] [b1,b2] (ie (ac (x.regs != x.regs) Zw (fun hc2=>?_) (fun hc2=>?_))))))
 ·refine ar (ir 1 [(4,.b false)] (ie ?_))
  exact Z5 (r2 [] [.b false] ⟨rfl,rfl⟩ lb)
 refine ak (aq (ar (iR 4 [(28,XT x.code),(30,XT x.code)] [1,0] [b1,b2] (ic [] (Zpo x.code (ha:=ha)) ?_))))
 rintro _ _ ⟨rfl,rfl⟩
 refine ir 1 [(32,.b false)] (ie (YA (ak (ar (ir 1 [(4,.b true)] (ie ?_))))))
 exact Z5 (r1 [] ⟨rfl,rfl⟩)
theorem Zps (cs:List Proc) (hl:cs.length<=1000000000:=by exact ob) (h1:∀x∈cs,x.params.length<=1000000000) (h2:∀x∈cs,x.lent.length<=1000000000) (h3:∀x∈cs,x.code.length<=1000000000) (ha:∀x∈cs,∀i∈x.code,i.args.length<=1000000000/\i.jumps.length<=1000000000):Zd Tryz.prog 26 [U1 cs,U1 cs] [] (fun r h=>r=.b true/\h=[]):=by
 refine enter Tryz.func26 kr (n:=27) kr kr (ar (ir 1 [(0,U1 cs),(1,U1 cs)] (ie (aq (ar (Z0 1 (.n 6 (U1 cs) .r) (iw (Z4e cs) (Z0 1 (.n 8 (U1 cs) .r) (iw (Z4e cs) (Z0 1 (.n 10 (.b ((cs.length:Int) != (cs.length:Int))) .r) (ie (ac ((cs.length:Int) != (cs.length:Int)) Zw (fun hc1=>?_) (fun hc1=>?_)))))))))))))
 ·refine ar (ir 1 [(4,.b false)] (ie ?_))
  exact Z5 (r2 [] [.b false] ⟨rfl,rfl⟩ lb)
 refine ak (aq (ar (Z0 1 (.n 5 (.i 0) .r) (ie (ab 0 (al (fun m F h=>∃(k:Nat),(k<=cs.length)/\F=[(0,U1 cs),(1,U1 cs),(5,.i k)]/\h=[]/\m=cs.length-k) _ _ _ ⟨0,ob,rfl,rfl,rfl⟩ (wk [] (fw (fc (x:=.i 0) li fl))) ?_))))))
 rintro m F h ⟨k,c0_0,rfl,rfl,rfl⟩
 refine aq (ar (Z0 2 (.n 11 (.i k) (.n 12 (U1 cs) .r)) (iw (Z4e cs) (Z0 1 (.n 14 (.b (decide ((k:Int)<(cs.length:Int)))) .r) (ie (ac (decide ((k:Int)<(cs.length:Int))) dq (fun hc2=>?_) (fun hc2=>?_)))))))
 ·refine ak (aq (ab 1 (aD 10 (Zi (fuel:=8) 10 [0,1] (.n 17 (U1 cs) (.n 18 (.i k) .r)) ?_))))
  obtain ⟨x1,hx1⟩:=Zl (xs:=cs) (j:=k) om
  have hm:=ZV hx1
  have k1:=h1 _ hm
  have k2:=h2 _ hm
  have k3:=h3 _ hm
  refine dx 2 (Zj (es:=V9 cs) (hv:=none) (j:=(k:Int)) (sz:=5) (y:=QD x1) kr om (Z7y hx1) rfl) (Zi (fuel:=4) 7 [3,4,5] (.n 20 (QD x1) (.n 21 (U1 cs) (.n 22 (.i k) .r))) (dx 6 (Zj (es:=V9 cs) (hv:=none) (j:=(k:Int)) (sz:=5) (y:=QD x1) kr om (Z7y hx1) rfl) (Zi (fuel:=2) 3 [7] (.n 24 (QD x1) .r) (Zm 8 (dc 8 [] [] [] (Zpr x1 (ha:=(ha _ hm))) ?_)))))
  rintro _ _ ⟨rfl,rfl⟩
  refine Zi (fuel:=0) 1 [9] (.n 26 (.b false) .r) (de (YA (ak (az (Z0 1 (.n 15 (.i k) .r) (ia (((k+1:Nat):Int)) (((k:Int))+(1)) (ir 1 [(0,U1 cs),(1,U1 cs),(5,.i (k+1:Nat))] (ie ?_))))))))
  exact ⟨_,_,_,ob,⟨k+1,ob,rfl,rfl,rfl⟩,(wk [] (fw (fc (x:=.i (k+1:Nat)) li fl)))⟩
 refine ax 0 (ar (ir 1 [(4,.b true)] (ie ?_)))
 exact Z5 (r1 [] ⟨rfl,rfl⟩)
theorem Ze9 (im:Image) (hk:ImOk im):Zd Tryz.prog 8 [UI im,UI im] [] (fun r h=>r=.b true/\h=[]):=by
 have hd:=hk.decls
 have hp:=hk.procs
 refine enter Tryz.func8 kr (n:=17) kr kr (ar (iA (Tv im) ?_))
 intro b1
 refine iA (Tv im) ?_
 intro b2
 refine ir 1 [(2,.p b1 0),(3,.p b2 0)] (ie (aq (ar (Za 4 (.n 6 (Z3 im.decls) (.n 8 (Z3 im.decls) .r)) [1,0] [b1,b2] (ic [] (Zgp im.decls) ?_)))))
 rintro _ _ ⟨rfl,rfl⟩
 refine Z0 1 (.n 10 (.b false) .r) (ie (YA (ak (aq (ar (iR 4 [(12,U1 im.procs),(14,U1 im.procs)] [1,0] [b1,b2] (ic [] (Zps im.procs (h1:=hk.params) (h2:=hk.lent) (h3:=(fun p hp=>by have:=hk.code p hp;omega)) (ha:=(fun p hp i hi=>⟨by have:=hk.args p hp i hi;omega,by have:=hk.jumps p hp i hi;omega⟩))) ?_)))))))
 rintro _ _ ⟨rfl,rfl⟩
 refine ir 1 [(16,.b false)] (ie (YA (ak (ar (ir 1 [(4,.b true)] (ie ?_))))))
 exact Z5 (r1 [] ⟨rfl,rfl⟩)
theorem J4 (S:List Nat) (M:ZK) (v:Value) (xs:List Int) (q:Int) (hd:Xu S v xs.length:=by exact ob) (hs:V1 M (Z2 v) xs.length:=by exact ob) (hq:0<=q/\q+((Z7 (Z2 v) 0 xs.length).length:Nat)<=4000000000000:=by exact ob):Zd Tryz.prog 59 [.val v,.i q] [.own S M] (fun r h=>r=.i (q+((Z7 (Z2 v) 0 xs.length).length:Nat))/\h=[.own S (wr M (Z7 (Z2 v) 0 xs.length) q)]):=by
 have hal:=Qj (Z2 v) xs.length 0
 refine enter Tryz.func59 kr (n:=19) kr kr (ar (ir 1 [(0,.val v),(1,.i q)] (ie (aq (ar (Z0 1 (.n 5 (.i 0) .r) (ie (ab 0 (al (fun m F h=>∃(k:Nat) (z:Int) (N:ZK),(k<=xs.length)/\(0<=z)/\(z+((Z7 (Z2 v) k (xs.length-k)).length:Nat)=q+((Z7 (Z2 v) 0 xs.length).length:Nat))/\(Kp M N)/\(wr N (Z7 (Z2 v) k (xs.length-k)) z=wr M (Z7 (Z2 v) 0 xs.length) q)/\F=[(0,.val v),(1,.i z),(5,.i k)]/\h=[.own S N]/\m=xs.length-k) _ _ _ ⟨0,q,M,ob,ob,(by simp),(Kp.refl M),(by simp),rfl,rfl,rfl⟩ (wk [0] (fw (fc (x:=.i 0) li fl))) ?_)))))))))
 rintro m F h ⟨k,z,N,c0_0,c0_1,c0_2,c0_3,c0_4,rfl,rfl,rfl⟩
 refine aq (ar (Z0 2 (.n 6 (.i k) (.n 7 (.val v) .r)) (Zf (Tz S v xs.length hd) (Z0 1 (.n 9 (.b (decide ((k:Int)<(xs.length:Int)))) .r) (ie (ac (decide ((k:Int)<(xs.length:Int))) dq (fun hc1=>?_) (fun hc1=>?_)))))))
 ·have hb:=hd.blk (i:=k) om
  have hdr:=Zbx (Z2 v) xs.length k om
  have hl0:(Z7 (Z2 v) k (xs.length-k)).length=(Z7 (Z2 v) (k+1) (xs.length-(k+1))).length+1:=by rw [hdr];rfl
  have hsk:=hs k om
  rw [<-VS k] at hsk
  have kp:=c0_3
  have i0:=kp.i hsk
  refine ak (aq (ab 1 (ar (Z0 3 (.n 12 (.val v) (.n 13 (.i k) (.n 14 (.i z) .r))) (Zf (X5 S v xs.length k 1 (k:Int) hd) (UM 0 S N (Z2 v) (k*1) z hb.1 i0 ?_))))))
  have kp:=kp.upd hsk z
  refine ie (az (Z0 1 (.n 16 (.i z) .r) (ia ((z+1)) ((z)+(1)) (ir 1 [(0,.val v),(1,.i (z+1)),(5,.i k)] (ie (az (Z0 1 (.n 10 (.i k) .r) (ia (((k+1:Nat):Int)) (((k:Int))+(1)) (Z0 1 (.n 5 (.i (k+1:Nat)) (.p (.d (.k (.k .z))))) (ie ?_))))))))))
  exact ⟨_,_,_,ob,⟨k+1,(z+1),upd N (Z2 v,k*1) z,ob,ob,ob,kp,(by rw [<-c0_4,hdr,wr,VS]),rfl,rfl,rfl⟩,(wk [0] (fw (fc (x:=.i (k+1:Nat)) li fl)))⟩
 have he:Z7 (Z2 v) k (xs.length-k)=[]:=by rw [show xs.length-k=0 by omega];rfl
 rw [he,Yk] at c0_2
 rw [he,wr] at c0_4
 refine ax 0 (ar (ir 2 [(4,.i z)] (ie ?_)))
 exact Z5 (r2 [0] [.i z] ⟨rfl,rfl⟩ li (eq:=(QX (m:=N) c0_4 rz)))
theorem Zuh (S:List Nat) (M:ZK) (v:Value) (xs:List HCon) (q:Int) (hl:xs.length<=4000000000000:=by exact ob) (hd:Xu S v xs.length:=by exact ob) (hs:Qv M S (Z2 v) 0 xs:=by exact ob) (hq:0<=q/\q+((XB xs).length:Nat)<=4000000000000:=by exact ob):Zd Tryz.prog 58 [.val v,.i q] [.own S M] (fun r h=>r=.i (q+((XB xs).length:Nat))/\h=[.own S (wr M (XB xs) q)]):=by
 refine enter Tryz.func58 kr (n:=20) kr kr (ar (ir 1 [(0,.val v),(1,.i q)] (ie (aq (ar (Z0 1 (.n 5 (.i 0) .r) (ie (ab 0 (al (fun m F h=>∃(k:Nat) (z:Int) (N:ZK),(k<=xs.length)/\(0<=z)/\(z+((XB (xs.drop k)).length:Nat)=q+((XB xs).length:Nat))/\(Kp M N)/\(wr N (XB (xs.drop k)) z=wr M (XB xs) q)/\F=[(0,.val v),(1,.i z),(5,.i k)]/\h=[.own S N]/\m=xs.length-k) _ _ _ ⟨0,q,M,ob,ob,(by simp),(Kp.refl M),(by simp),rfl,rfl,rfl⟩ (wk [0] (fw (fc (x:=.i 0) li fl))) ?_)))))))))
 rintro m F h ⟨k,z,N,c0_0,c0_1,c0_2,c0_3,c0_4,rfl,rfl,rfl⟩
 refine aq (ar (Z0 2 (.n 6 (.i k) (.n 7 (.val v) .r)) (Zf (Tz S v xs.length hd) (Z0 1 (.n 9 (.b (decide ((k:Int)<(xs.length:Int)))) .r) (ie (ac (decide ((k:Int)<(xs.length:Int))) dq (fun hc1=>?_) (fun hc1=>?_)))))))
 ·have hb:=hd.blk (i:=k) om
  obtain ⟨x1,hx1⟩:=Zl (xs:=xs) (j:=k) om
  have e1:=Zaf hs hx1
  rw [XQ] at e1
  obtain ⟨⟨a0,d0⟩,s0⟩:=e1
  rw [<-VS k] at a0
  have hdr:=Zbu hx1
  have hln:(Z3r x1).length=(Z7 (Z2 x1.fv) 0 x1.fields.length).length:=rfl
  have hl0:=Y1 List.length hdr
  rw [ZC,hln] at hl0
  have kp:=c0_3
  refine ak (aq (ab 1 (az (Z0 2 (.n 12 (.val v) (.n 13 (.i k) .r)) (Zf (X5 S v xs.length k 1 (k:Int) hd) (Z0 1 (.n 15 (.val (.pointer (some ⟨Z2 v,k*1,none⟩))) .r) ?_))))))
  have t0:V1 N (Z2 x1.fv) x1.fields.length:=fun i hi=>kp.i (s0 i hi)
  refine YR (Wj 0 S N (Z2 v) (k*1) x1.fv hb.1 (kp.h a0 d0.ni)) (Z0 1 (.n 17 (.i z) .r) (ic [0] (J4 S N x1.fv x1.fields z) ?_))
  rintro _ _ ⟨rfl,rfl⟩
  have kp:=kp.wr (UZ s0) z
  refine ir 1 [(0,.val v),(1,.i (z+((Z7 (Z2 x1.fv) 0 x1.fields.length).length:Nat))),(5,.i k)] (ie (az (Z0 1 (.n 10 (.i k) .r) (ia (((k+1:Nat):Int)) (((k:Int))+(1)) (Z0 1 (.n 5 (.i (k+1:Nat)) (.p (.d (.k (.k .z))))) (ie ?_))))))
  exact ⟨_,_,_,ob,⟨k+1,(z+((Z7 (Z2 x1.fv) 0 x1.fields.length).length:Nat)),(wr N (Z7 (Z2 x1.fv) 0 x1.fields.length) z),ob,ob,ob,kp,(Z06 c0_4 hdr rfl om),rfl,rfl,rfl⟩,(wk [0] (fw (fc (x:=.i (k+1:Nat)) li fl)))⟩
 have he:(XB (xs.drop k))=[]:=by rw [Tg om];rfl
 rw [he,Yk] at c0_2
 rw [he,wr] at c0_4
 refine ax 0 (ar (ir 2 [(4,.i z)] (ie ?_)))
 exact Z5 (r2 [0] [.i z] ⟨rfl,rfl⟩ li (eq:=(QX (m:=N) c0_4 rz)))
theorem Zh8 (S:List Nat) (M:ZK) (v:Value) (xs:List HDecl) (q:Int) (hl:∀d∈xs,d.cons.length<=4000000000000) (hd:Xu S v xs.length:=by exact ob) (hs:Qw M S (Z2 v) 0 xs:=by exact ob) (hq:0<=q/\q+((Ym (Z2 v) 0 xs).length:Nat)<=4000000000000:=by exact ob):Zd Tryz.prog 28 [.val v,.i q] [.own S M] (fun r h=>r=.i (q+((Ym (Z2 v) 0 xs).length:Nat))/\h=[.own S (wr M (Ym (Z2 v) 0 xs) q)]):=by
 have hal:=Z6p (g:=Z2 v) (o:=0) (ds:=xs)
 refine enter Tryz.func28 kr (n:=34) kr kr (ar (ir 1 [(0,.val v),(1,.i q)] (ie (aq (ar (Z0 1 (.n 5 (.i 0) .r) (ie (ab 0 (al (fun m F h=>∃(k:Nat) (z:Int) (N:ZK),(k<=xs.length)/\(0<=z)/\(z+((Ym (Z2 v) (k*3) (xs.drop k)).length:Nat)=q+((Ym (Z2 v) 0 xs).length:Nat))/\(Kp M N)/\(wr N (Ym (Z2 v) (k*3) (xs.drop k)) z=wr M (Ym (Z2 v) 0 xs) q)/\F=[(0,.val v),(1,.i z),(5,.i k)]/\h=[.own S N]/\m=xs.length-k) _ _ _ ⟨0,q,M,ob,ob,(by simp),(Kp.refl M),(by simp),rfl,rfl,rfl⟩ (wk [0] (fw (fc (x:=.i 0) li fl))) ?_)))))))))
 rintro m F h ⟨k,z,N,c0_0,c0_1,c0_2,c0_3,c0_4,rfl,rfl,rfl⟩
 refine aq (ar (Z0 2 (.n 6 (.i k) (.n 7 (.val v) .r)) (Zf (Tz S v xs.length hd) (Z0 1 (.n 9 (.b (decide ((k:Int)<(xs.length:Int)))) .r) (ie (ac (decide ((k:Int)<(xs.length:Int))) dq (fun hc1=>?_) (fun hc1=>?_)))))))
 ·have hb:=hd.blk (i:=k) om
  obtain ⟨x1,hx1⟩:=Zl (xs:=xs) (j:=k) om
  have e1:=Zai hs hx1
  rw [XQ] at e1
  obtain ⟨i0,i1,⟨a2,d2⟩,s2⟩:=e1
  have hdr:=Zbw (g:=Z2 v) hx1
  have hl1:=hl x1 (ZV hx1)
  have hln:=Z57 (g:=Z2 v) (o:=k*3) (d:=x1)
  have hl0:=Y1 List.length hdr
  rw [ZC,hln] at hl0
  have kp:=c0_3
  refine ak (aq (ab 1 (ar (Z0 3 (.n 12 (.val v) (.n 13 (.i k) (.n 14 (.i z) .r))) (Zf (X5 S v xs.length k 3 (k:Int) hd) (Z0 1 (.n 16 (.val (.pointer (some ⟨Z2 v,k*3,none⟩))) .r) (UM 0 S N (Z2 v) (k*3) z hb.1 (kp.i i0) ?_)))))))
  have kp:=kp.upd i0 z
  refine ie (ar (Z0 1 (.n 17 (.i z) .r) (ia ((z+1)) ((z)+(1)) (ir 1 [(0,.val v),(1,.i (z+1)),(5,.i k)] (ie (ar (Z0 3 (.n 19 (.val v) (.n 20 (.i k) (.n 21 (.i (z+1)) .r))) (Zf (X5 S v xs.length k 3 (k:Int) hd) (Z0 1 (.n 23 (.val (.pointer (some ⟨Z2 v,k*3+1,none⟩))) .r) (UM 0 S (upd N (Z2 v,k*3) z) (Z2 v) (k*3+1) (z+1) hb.1 (kp.i i1) ?_))))))))))
  have kp:=kp.upd i1 (z+1)
  refine ie (ar (Z0 1 (.n 24 (.i (z+1)) .r) (ia (((z+1)+1)) (((z+1))+(1)) (ir 1 [(0,.val v),(1,.i ((z+1)+1)),(5,.i k)] (ie (az (Z0 2 (.n 26 (.val v) (.n 27 (.i k) .r)) (Zf (X5 S v xs.length k 3 (k:Int) hd) (Z0 1 (.n 29 (.val (.pointer (some ⟨Z2 v,k*3+2,none⟩))) .r) ?_)))))))))
  have t2:Qv (upd (upd N (Z2 v,k*3) z) (Z2 v,k*3+1) (z+1)) S (Z2 x1.cv) 0 x1.cons:=Zag kp s2
  refine YR (Wj 0 S (upd (upd N (Z2 v,k*3) z) (Z2 v,k*3+1) (z+1)) (Z2 v) (k*3+2) x1.cv hb.1 (kp.h a2 d2.ni)) (Z0 1 (.n 31 (.i ((z+1)+1)) .r) (ic [0] (Zuh S (upd (upd N (Z2 v,k*3) z) (Z2 v,k*3+1) (z+1)) x1.cv x1.cons ((z+1)+1)) ?_))
  rintro _ _ ⟨rfl,rfl⟩
  have kp:=kp.wr (Z6n s2) ((z+1)+1)
  refine ir 1 [(0,.val v),(1,.i (((z+1)+1)+((XB x1.cons).length:Nat))),(5,.i k)] (ie (az (Z0 1 (.n 10 (.i k) .r) (ia (((k+1:Nat):Int)) (((k:Int))+(1)) (Z0 1 (.n 5 (.i (k+1:Nat)) (.p (.d (.k (.k .z))))) (ie ?_))))))
  exact ⟨_,_,_,ob,⟨k+1,(((z+1)+1)+((XB x1.cons).length:Nat)),(wr (upd (upd N (Z2 v,k*3) z) (Z2 v,k*3+1) (z+1)) (XB x1.cons) ((z+1)+1)),ob,ob,ob,kp,(Z06 c0_4 hdr Y16 om),rfl,rfl,rfl⟩,(wk [0] (fw (fc (x:=.i (k+1:Nat)) li fl)))⟩
 have he:(Ym (Z2 v) (k*3) (xs.drop k))=[]:=by rw [Tg om];rfl
 rw [he,Yk] at c0_2
 rw [he,wr] at c0_4
 refine ax 0 (ar (ir 2 [(4,.i z)] (ie ?_)))
 exact Z5 (r2 [0] [.i z] ⟨rfl,rfl⟩ li (eq:=(QX (m:=N) c0_4 rz)))
theorem Zuo (S:List Nat) (M:ZK) (v:Value) (xs:List HStep) (q:Int) (ih:∀(S:List Nat) (M:ZK) (v:Value) (ys:List HBlock) (q:Int),(SizeOf.sizeOf ys<SizeOf.sizeOf xs)->(Xu S v ys.length)->(VA M S (Z2 v) 0 ys)->(0<=q/\q+((Xh (Z2 v) 0 ys).length:Nat)<=4000000000000)->Zd Tryz.prog 98 [.val v,.i q] [.own S M] (fun r h=>r=.i (q+((Xh (Z2 v) 0 ys).length:Nat))/\h=[.own S (wr M (Xh (Z2 v) 0 ys) q)])) (hd:Xu S v xs.length) (hs:V2 M S (Z2 v) 0 xs) (hq:0<=q/\q+((Yc (Z2 v) 0 xs).length:Nat)<=4000000000000):Zd Tryz.prog 60 [.val v,.i q] [.own S M] (fun r h=>r=.i (q+((Yc (Z2 v) 0 xs).length:Nat))/\h=[.own S (wr M (Yc (Z2 v) 0 xs) q)]):=by
 have hal:=Zcc (g:=Z2 v) (o:=0) (xs:=xs)
 refine enter Tryz.func60 kr (n:=48) kr kr (ar (ir 1 [(0,.val v),(1,.i q)] (ie (aq (ar (Z0 1 (.n 5 (.i 0) .r) (ie (ab 0 (al (fun m F h=>∃(k:Nat) (z:Int) (N:ZK),(k<=xs.length)/\(0<=z)/\(z+((Yc (Z2 v) (k*5) (xs.drop k)).length:Nat)=q+((Yc (Z2 v) 0 xs).length:Nat))/\(Kp M N)/\(wr N (Yc (Z2 v) (k*5) (xs.drop k)) z=wr M (Yc (Z2 v) 0 xs) q)/\F=[(0,.val v),(1,.i z),(5,.i k)]/\h=[.own S N]/\m=xs.length-k) _ _ _ ⟨0,q,M,ob,ob,(by simp),(Kp.refl M),(by simp),rfl,rfl,rfl⟩ (wk [0] (fw (fc (x:=.i 0) li fl))) ?_)))))))))
 rintro m F h ⟨k,z,N,c0_0,c0_1,c0_2,c0_3,c0_4,rfl,rfl,rfl⟩
 refine aq (ar (Z0 2 (.n 6 (.i k) (.n 7 (.val v) .r)) (Zf (Tz S v xs.length hd) (Z0 1 (.n 9 (.b (decide ((k:Int)<(xs.length:Int)))) .r) (ie (ac (decide ((k:Int)<(xs.length:Int))) dq (fun hc1=>?_) (fun hc1=>?_)))))))
 ·have hb:=hd.blk (i:=k) om
  obtain ⟨x1,hx1⟩:=Zl (xs:=xs) (j:=k) om
  have e1:=Zjm hs hx1
  rw [XQ] at e1
  rw [Zxh] at e1
  have hz:SizeOf.sizeOf x1.kids<SizeOf.sizeOf xs:=Zqz hx1
  obtain ⟨⟨i0,i1,i2⟩,⟨⟨a3,d3⟩,s3⟩,⟨⟨a4,d4⟩,s4⟩⟩:=e1
  have hdr:=Zlw (g:=Z2 v) hx1
  have hln:=Zgv (g:=Z2 v) (o:=k*5) (s:=x1)
  have hl0:=Y1 List.length hdr
  rw [ZC,hln] at hl0
  have kp:=c0_3
  refine ak (aq (ab 1 (ar (Z0 3 (.n 12 (.val v) (.n 13 (.i k) (.n 14 (.i z) .r))) (Zf (X5 S v xs.length k 5 (k:Int) hd) (Z0 1 (.n 16 (.val (.pointer (some ⟨Z2 v,k*5,none⟩))) .r) (UM 0 S N (Z2 v) (k*5) z hb.1 (kp.i i0) ?_)))))))
  have kp:=kp.upd i0 z
  refine ie (ar (Z0 1 (.n 17 (.i z) .r) (ia ((z+1)) ((z)+(1)) (ir 1 [(0,.val v),(1,.i (z+1)),(5,.i k)] (ie (ar (Z0 3 (.n 19 (.val v) (.n 20 (.i k) (.n 21 (.i (z+1)) .r))) (Zf (X5 S v xs.length k 5 (k:Int) hd) (Z0 1 (.n 23 (.val (.pointer (some ⟨Z2 v,k*5+1,none⟩))) .r) (UM 0 S (upd N (Z2 v,k*5) z) (Z2 v) (k*5+1) (z+1) hb.1 (kp.i i1) ?_))))))))))
  have kp:=kp.upd i1 (z+1)
  refine ie (ar (Z0 1 (.n 24 (.i (z+1)) .r) (ia (((z+1)+1)) (((z+1))+(1)) (ir 1 [(0,.val v),(1,.i ((z+1)+1)),(5,.i k)] (ie (ar (Z0 3 (.n 26 (.val v) (.n 27 (.i k) (.n 28 (.i ((z+1)+1)) .r))) (Zf (X5 S v xs.length k 5 (k:Int) hd) (Z0 1 (.n 30 (.val (.pointer (some ⟨Z2 v,k*5+2,none⟩))) .r) (UM 0 S (upd (upd N (Z2 v,k*5) z) (Z2 v,k*5+1) (z+1)) (Z2 v) (k*5+2) ((z+1)+1) hb.1 (kp.i i2) ?_))))))))))
  have kp:=kp.upd i2 ((z+1)+1)
  refine ie (ar (Z0 1 (.n 31 (.i ((z+1)+1)) .r) (ia ((((z+1)+1)+1)) ((((z+1)+1))+(1)) (ir 1 [(0,.val v),(1,.i (((z+1)+1)+1)),(5,.i k)] (ie (ar (Z0 2 (.n 33 (.val v) (.n 34 (.i k) .r)) (Zf (X5 S v xs.length k 5 (k:Int) hd) (Z0 1 (.n 36 (.val (.pointer (some ⟨Z2 v,k*5+3,none⟩))) .r) ?_)))))))))
  have t3:V1 (upd (upd (upd N (Z2 v,k*5) z) (Z2 v,k*5+1) (z+1)) (Z2 v,k*5+2) ((z+1)+1)) (Z2 x1.av) x1.args.length:=fun i hi=>kp.i (s3 i hi)
  refine YR (Wj 0 S (upd (upd (upd N (Z2 v,k*5) z) (Z2 v,k*5+1) (z+1)) (Z2 v,k*5+2) ((z+1)+1)) (Z2 v) (k*5+3) x1.av hb.1 (kp.h a3 d3.ni)) (Z0 1 (.n 38 (.i (((z+1)+1)+1)) .r) (ic [0] (J4 S (upd (upd (upd N (Z2 v,k*5) z) (Z2 v,k*5+1) (z+1)) (Z2 v,k*5+2) ((z+1)+1)) x1.av x1.args (((z+1)+1)+1)) ?_))
  rintro _ _ ⟨rfl,rfl⟩
  have kp:=kp.wr (UZ s3) (((z+1)+1)+1)
  refine ir 1 [(0,.val v),(1,.i ((((z+1)+1)+1)+((Z7 (Z2 x1.av) 0 x1.args.length).length:Nat))),(5,.i k)] (ie (az (Z0 2 (.n 40 (.val v) (.n 41 (.i k) .r)) (Zf (X5 S v xs.length k 5 (k:Int) hd) (Z0 1 (.n 43 (.val (.pointer (some ⟨Z2 v,k*5+4,none⟩))) .r) ?_)))))
  have t4:VA (wr (upd (upd (upd N (Z2 v,k*5) z) (Z2 v,k*5+1) (z+1)) (Z2 v,k*5+2) ((z+1)+1)) (Z7 (Z2 x1.av) 0 x1.args.length) (((z+1)+1)+1)) S (Z2 x1.kv) 0 x1.kids:=Zad kp s4
  refine YR (Wj 0 S (wr (upd (upd (upd N (Z2 v,k*5) z) (Z2 v,k*5+1) (z+1)) (Z2 v,k*5+2) ((z+1)+1)) (Z7 (Z2 x1.av) 0 x1.args.length) (((z+1)+1)+1)) (Z2 v) (k*5+4) x1.kv hb.1 (kp.h a4 d4.ni)) (Z0 1 (.n 45 (.i ((((z+1)+1)+1)+((Z7 (Z2 x1.av) 0 x1.args.length).length:Nat))) .r) (ic [0] (ih S (wr (upd (upd (upd N (Z2 v,k*5) z) (Z2 v,k*5+1) (z+1)) (Z2 v,k*5+2) ((z+1)+1)) (Z7 (Z2 x1.av) 0 x1.args.length) (((z+1)+1)+1)) x1.kv x1.kids ((((z+1)+1)+1)+((Z7 (Z2 x1.av) 0 x1.args.length).length:Nat)) ob ob ob ob) ?_))
  rintro _ _ ⟨rfl,rfl⟩
  have kp:=kp.wr (Z6m s4) ((((z+1)+1)+1)+((Z7 (Z2 x1.av) 0 x1.args.length).length:Nat))
  refine ir 1 [(0,.val v),(1,.i (((((z+1)+1)+1)+((Z7 (Z2 x1.av) 0 x1.args.length).length:Nat))+((Xh (Z2 x1.kv) 0 x1.kids).length:Nat))),(5,.i k)] (ie (az (Z0 1 (.n 10 (.i k) .r) (ia (((k+1:Nat):Int)) (((k:Int))+(1)) (Z0 1 (.n 5 (.i (k+1:Nat)) (.p (.d (.k (.k .z))))) (ie ?_))))))
  exact ⟨_,_,_,ob,⟨k+1,(((((z+1)+1)+1)+((Z7 (Z2 x1.av) 0 x1.args.length).length:Nat))+((Xh (Z2 x1.kv) 0 x1.kids).length:Nat)),(wr (wr (upd (upd (upd N (Z2 v,k*5) z) (Z2 v,k*5+1) (z+1)) (Z2 v,k*5+2) ((z+1)+1)) (Z7 (Z2 x1.av) 0 x1.args.length) (((z+1)+1)+1)) (Xh (Z2 x1.kv) 0 x1.kids) ((((z+1)+1)+1)+((Z7 (Z2 x1.av) 0 x1.args.length).length:Nat))),ob,ob,ob,kp,(Z06 c0_4 hdr Y1c om),rfl,rfl,rfl⟩,(wk [0] (fw (fc (x:=.i (k+1:Nat)) li fl)))⟩
 have he:(Yc (Z2 v) (k*5) (xs.drop k))=[]:=by rw [Tg om,Yc]
 rw [he,Yk] at c0_2
 rw [he,wr] at c0_4
 refine ax 0 (ar (ir 2 [(4,.i z)] (ie ?_)))
 exact Z5 (r2 [0] [.i z] ⟨rfl,rfl⟩ li (eq:=(QX (m:=N) c0_4 rz)))
theorem Zug (S:List Nat) (M:ZK) (v:Value) (xs:List HBlock) (q:Int) (ih:∀(S:List Nat) (M:ZK) (v:Value) (ys:List HStep) (q:Int),(SizeOf.sizeOf ys<SizeOf.sizeOf xs)->(Xu S v ys.length)->(V2 M S (Z2 v) 0 ys)->(0<=q/\q+((Yc (Z2 v) 0 ys).length:Nat)<=4000000000000)->Zd Tryz.prog 60 [.val v,.i q] [.own S M] (fun r h=>r=.i (q+((Yc (Z2 v) 0 ys).length:Nat))/\h=[.own S (wr M (Yc (Z2 v) 0 ys) q)])) (hd:Xu S v xs.length) (hs:VA M S (Z2 v) 0 xs) (hq:0<=q/\q+((Xh (Z2 v) 0 xs).length:Nat)<=4000000000000):Zd Tryz.prog 98 [.val v,.i q] [.own S M] (fun r h=>r=.i (q+((Xh (Z2 v) 0 xs).length:Nat))/\h=[.own S (wr M (Xh (Z2 v) 0 xs) q)]):=by
 have hal:=Zbr (g:=Z2 v) (o:=0) (xs:=xs)
 refine enter Tryz.func98 kr (n:=27) kr kr (ar (ir 1 [(0,.val v),(1,.i q)] (ie (aq (ar (Z0 1 (.n 5 (.i 0) .r) (ie (ab 0 (al (fun m F h=>∃(k:Nat) (z:Int) (N:ZK),(k<=xs.length)/\(0<=z)/\(z+((Xh (Z2 v) (k*2) (xs.drop k)).length:Nat)=q+((Xh (Z2 v) 0 xs).length:Nat))/\(Kp M N)/\(wr N (Xh (Z2 v) (k*2) (xs.drop k)) z=wr M (Xh (Z2 v) 0 xs) q)/\F=[(0,.val v),(1,.i z),(5,.i k)]/\h=[.own S N]/\m=xs.length-k) _ _ _ ⟨0,q,M,ob,ob,(by simp),(Kp.refl M),(by simp),rfl,rfl,rfl⟩ (wk [0] (fw (fc (x:=.i 0) li fl))) ?_)))))))))
 rintro m F h ⟨k,z,N,c0_0,c0_1,c0_2,c0_3,c0_4,rfl,rfl,rfl⟩
 refine aq (ar (Z0 2 (.n 6 (.i k) (.n 7 (.val v) .r)) (Zf (Tz S v xs.length hd) (Z0 1 (.n 9 (.b (decide ((k:Int)<(xs.length:Int)))) .r) (ie (ac (decide ((k:Int)<(xs.length:Int))) dq (fun hc1=>?_) (fun hc1=>?_)))))))
 ·have hb:=hd.blk (i:=k) om
  obtain ⟨x1,hx1⟩:=Zl (xs:=xs) (j:=k) om
  have e1:=Zjh hs hx1
  rw [XQ] at e1
  rw [Zxe] at e1
  have hz:SizeOf.sizeOf x1.steps<SizeOf.sizeOf xs:=Zr3 hx1
  obtain ⟨⟨⟨a0,d0⟩,s0⟩,i1⟩:=e1
  have hdr:=Zll (g:=Z2 v) hx1
  have hln:=Zgt (g:=Z2 v) (o:=k*2) (b:=x1)
  have hl0:=Y1 List.length hdr
  rw [ZC,hln] at hl0
  have kp:=c0_3
  refine ak (aq (ab 1 (ar (Z0 2 (.n 12 (.val v) (.n 13 (.i k) .r)) (Zf (X5 S v xs.length k 2 (k:Int) hd) (Z0 1 (.n 15 (.val (.pointer (some ⟨Z2 v,k*2,none⟩))) .r) ?_))))))
  have t0:V2 N S (Z2 x1.sv) 0 x1.steps:=Z30 kp s0
  refine YR (Wj 0 S N (Z2 v) (k*2) x1.sv hb.1 (kp.h a0 d0.ni)) (Z0 1 (.n 17 (.i z) .r) (ic [0] (ih S N x1.sv x1.steps z ob ob ob ob) ?_))
  rintro _ _ ⟨rfl,rfl⟩
  have kp:=kp.wr (Z3t s0) z
  refine ir 1 [(0,.val v),(1,.i (z+((Yc (Z2 x1.sv) 0 x1.steps).length:Nat))),(5,.i k)] (ie (ar (Z0 3 (.n 19 (.val v) (.n 20 (.i k) (.n 21 (.i (z+((Yc (Z2 x1.sv) 0 x1.steps).length:Nat))) .r))) (Zf (X5 S v xs.length k 2 (k:Int) hd) (Z0 1 (.n 23 (.val (.pointer (some ⟨Z2 v,k*2+1,none⟩))) .r) (UM 0 S (wr N (Yc (Z2 x1.sv) 0 x1.steps) z) (Z2 v) (k*2+1) (z+((Yc (Z2 x1.sv) 0 x1.steps).length:Nat)) hb.1 (kp.i i1) ?_))))))
  have kp:=kp.upd i1 (z+((Yc (Z2 x1.sv) 0 x1.steps).length:Nat))
  refine ie (az (Z0 1 (.n 24 (.i (z+((Yc (Z2 x1.sv) 0 x1.steps).length:Nat))) .r) (ia (((z+((Yc (Z2 x1.sv) 0 x1.steps).length:Nat))+1)) (((z+((Yc (Z2 x1.sv) 0 x1.steps).length:Nat)))+(1)) (ir 1 [(0,.val v),(1,.i ((z+((Yc (Z2 x1.sv) 0 x1.steps).length:Nat))+1)),(5,.i k)] (ie (az (Z0 1 (.n 10 (.i k) .r) (ia (((k+1:Nat):Int)) (((k:Int))+(1)) (Z0 1 (.n 5 (.i (k+1:Nat)) (.p (.d (.k (.k .z))))) (ie ?_))))))))))
  exact ⟨_,_,_,ob,⟨k+1,((z+((Yc (Z2 x1.sv) 0 x1.steps).length:Nat))+1),upd (wr N (Yc (Z2 x1.sv) 0 x1.steps) z) (Z2 v,k*2+1) (z+((Yc (Z2 x1.sv) 0 x1.steps).length:Nat)),ob,ob,ob,kp,(Z06 c0_4 hdr Y15 om),rfl,rfl,rfl⟩,(wk [0] (fw (fc (x:=.i (k+1:Nat)) li fl)))⟩
 have he:(Xh (Z2 v) (k*2) (xs.drop k))=[]:=by rw [Tg om,Xh]
 rw [he,Yk] at c0_2
 rw [he,wr] at c0_4
 refine ax 0 (ar (ir 2 [(4,.i z)] (ie ?_)))
 exact Z5 (r2 [0] [.i z] ⟨rfl,rfl⟩ li (eq:=(QX (m:=N) c0_4 rz)))
theorem Zur (n:Nat):(∀(S:List Nat) (M:ZK) (v:Value) (xs:List HStep) (q:Int),(SizeOf.sizeOf xs<n)->(Xu S v xs.length)->(V2 M S (Z2 v) 0 xs)->(0<=q/\q+((Yc (Z2 v) 0 xs).length:Nat)<=4000000000000)->Zd Tryz.prog 60 [.val v,.i q] [.own S M] (fun r h=>r=.i (q+((Yc (Z2 v) 0 xs).length:Nat))/\h=[.own S (wr M (Yc (Z2 v) 0 xs) q)]))/\(∀(S:List Nat) (M:ZK) (v:Value) (xs:List HBlock) (q:Int),(SizeOf.sizeOf xs<n)->(Xu S v xs.length)->(VA M S (Z2 v) 0 xs)->(0<=q/\q+((Xh (Z2 v) 0 xs).length:Nat)<=4000000000000)->Zd Tryz.prog 98 [.val v,.i q] [.own S M] (fun r h=>r=.i (q+((Xh (Z2 v) 0 xs).length:Nat))/\h=[.own S (wr M (Xh (Z2 v) 0 xs) q)])):=by
 induction n with
 | zero=>exact ⟨fun _ _ _ _ _ h=>by omega,fun _ _ _ _ _ h=>by omega⟩
 | succ n ih=>
  obtain ⟨i1,i2⟩:=ih
  exact ⟨fun S M v xs q hz h3 h4 h9=>Zuo S M v xs q (fun S M v ys q hz2 h3 h4 h9=>i2 S M v ys q om h3 h4 h9) h3 h4 h9,fun S M v xs q hz h3 h4 h9=>Zug S M v xs q (fun S M v ys q hz2 h3 h4 h9=>i1 S M v ys q om h3 h4 h9) h3 h4 h9⟩
theorem Zun (S:List Nat) (M:ZK) (v:Value) (xs:List HStep) (q:Int) (hd:Xu S v xs.length:=by exact ob) (hs:V2 M S (Z2 v) 0 xs:=by exact ob) (hq:0<=q/\q+((Yc (Z2 v) 0 xs).length:Nat)<=4000000000000:=by exact ob):Zd Tryz.prog 60 [.val v,.i q] [.own S M] (fun r h=>r=.i (q+((Yc (Z2 v) 0 xs).length:Nat))/\h=[.own S (wr M (Yc (Z2 v) 0 xs) q)]):=(Zur (SizeOf.sizeOf xs+1)).1 S M v xs q om hd hs hq
theorem Zum (S:List Nat) (M:ZK) (v:Value) (xs:List HRoutine) (q:Int) (hd:Xu S v xs.length:=by exact ob) (hs:Jh M S (Z2 v) 0 xs:=by exact ob) (hq:0<=q/\q+((WK (Z2 v) 0 xs).length:Nat)<=4000000000000:=by exact ob):Zd Tryz.prog 29 [.val v,.i q] [.own S M] (fun r h=>r=.i (q+((WK (Z2 v) 0 xs).length:Nat))/\h=[.own S (wr M (WK (Z2 v) 0 xs) q)]):=by
 have hal:=Zc9 (g:=Z2 v) (o:=0) (xs:=xs)
 refine enter Tryz.func29 kr (n:=50) kr kr (ar (ir 1 [(0,.val v),(1,.i q)] (ie (aq (ar (Z0 1 (.n 5 (.i 0) .r) (ie (ab 0 (al (fun m F h=>∃(k:Nat) (z:Int) (N:ZK),(k<=xs.length)/\(0<=z)/\(z+((WK (Z2 v) (k*5) (xs.drop k)).length:Nat)=q+((WK (Z2 v) 0 xs).length:Nat))/\(Kp M N)/\(wr N (WK (Z2 v) (k*5) (xs.drop k)) z=wr M (WK (Z2 v) 0 xs) q)/\F=[(0,.val v),(1,.i z),(5,.i k)]/\h=[.own S N]/\m=xs.length-k) _ _ _ ⟨0,q,M,ob,ob,(by simp),(Kp.refl M),(by simp),rfl,rfl,rfl⟩ (wk [0] (fw (fc (x:=.i 0) li fl))) ?_)))))))))
 rintro m F h ⟨k,z,N,c0_0,c0_1,c0_2,c0_3,c0_4,rfl,rfl,rfl⟩
 refine aq (ar (Z0 2 (.n 6 (.i k) (.n 7 (.val v) .r)) (Zf (Tz S v xs.length hd) (Z0 1 (.n 9 (.b (decide ((k:Int)<(xs.length:Int)))) .r) (ie (ac (decide ((k:Int)<(xs.length:Int))) dq (fun hc1=>?_) (fun hc1=>?_)))))))
 ·have hb:=hd.blk (i:=k) om
  obtain ⟨x1,hx1⟩:=Zl (xs:=xs) (j:=k) om
  have e1:=Zjk hs hx1
  rw [XQ] at e1
  obtain ⟨⟨⟨a0,d0⟩,s0⟩,⟨⟨a1,d1⟩,s1⟩,i2,⟨⟨a3,d3⟩,s3⟩,i4⟩:=e1
  have hdr:=Zls (g:=Z2 v) hx1
  have hln:=Z97 (g:=Z2 v) (o:=k*5) (r:=x1)
  have hl0:=Y1 List.length hdr
  rw [ZC,hln] at hl0
  have kp:=c0_3
  refine ak (aq (ab 1 (ar (Z0 2 (.n 12 (.val v) (.n 13 (.i k) .r)) (Zf (X5 S v xs.length k 5 (k:Int) hd) (Z0 1 (.n 15 (.val (.pointer (some ⟨Z2 v,k*5,none⟩))) .r) ?_))))))
  have t0:V1 N (Z2 x1.pv) x1.params.length:=fun i hi=>kp.i (s0 i hi)
  refine YR (Wj 0 S N (Z2 v) (k*5) x1.pv hb.1 (kp.h a0 d0.ni)) (Z0 1 (.n 17 (.i z) .r) (ic [0] (J4 S N x1.pv x1.params z) ?_))
  rintro _ _ ⟨rfl,rfl⟩
  have kp:=kp.wr (UZ s0) z
  refine ir 1 [(0,.val v),(1,.i (z+((Z7 (Z2 x1.pv) 0 x1.params.length).length:Nat))),(5,.i k)] (ie (ar (Z0 2 (.n 19 (.val v) (.n 20 (.i k) .r)) (Zf (X5 S v xs.length k 5 (k:Int) hd) (Z0 1 (.n 22 (.val (.pointer (some ⟨Z2 v,k*5+1,none⟩))) .r) ?_)))))
  have t1:V1 (wr N (Z7 (Z2 x1.pv) 0 x1.params.length) z) (Z2 x1.lv) x1.lent.length:=fun i hi=>kp.i (s1 i hi)
  refine YR (Wj 0 S (wr N (Z7 (Z2 x1.pv) 0 x1.params.length) z) (Z2 v) (k*5+1) x1.lv hb.1 (kp.h a1 d1.ni)) (Z0 1 (.n 24 (.i (z+((Z7 (Z2 x1.pv) 0 x1.params.length).length:Nat))) .r) (ic [0] (J4 S (wr N (Z7 (Z2 x1.pv) 0 x1.params.length) z) x1.lv x1.lent (z+((Z7 (Z2 x1.pv) 0 x1.params.length).length:Nat))) ?_))
  rintro _ _ ⟨rfl,rfl⟩
  have kp:=kp.wr (UZ s1) (z+((Z7 (Z2 x1.pv) 0 x1.params.length).length:Nat))
  refine ir 1 [(0,.val v),(1,.i ((z+((Z7 (Z2 x1.pv) 0 x1.params.length).length:Nat))+((Z7 (Z2 x1.lv) 0 x1.lent.length).length:Nat))),(5,.i k)] (ie (ar (Z0 3 (.n 26 (.val v) (.n 27 (.i k) (.n 28 (.i ((z+((Z7 (Z2 x1.pv) 0 x1.params.length).length:Nat))+((Z7 (Z2 x1.lv) 0 x1.lent.length).length:Nat))) .r))) (Zf (X5 S v xs.length k 5 (k:Int) hd) (Z0 1 (.n 30 (.val (.pointer (some ⟨Z2 v,k*5+2,none⟩))) .r) (UM 0 S (wr (wr N (Z7 (Z2 x1.pv) 0 x1.params.length) z) (Z7 (Z2 x1.lv) 0 x1.lent.length) (z+((Z7 (Z2 x1.pv) 0 x1.params.length).length:Nat))) (Z2 v) (k*5+2) ((z+((Z7 (Z2 x1.pv) 0 x1.params.length).length:Nat))+((Z7 (Z2 x1.lv) 0 x1.lent.length).length:Nat)) hb.1 (kp.i i2) ?_))))))
  have kp:=kp.upd i2 ((z+((Z7 (Z2 x1.pv) 0 x1.params.length).length:Nat))+((Z7 (Z2 x1.lv) 0 x1.lent.length).length:Nat))
  refine ie (ar (Z0 1 (.n 31 (.i ((z+((Z7 (Z2 x1.pv) 0 x1.params.length).length:Nat))+((Z7 (Z2 x1.lv) 0 x1.lent.length).length:Nat))) .r) (ia ((((z+((Z7 (Z2 x1.pv) 0 x1.params.length).length:Nat))+((Z7 (Z2 x1.lv) 0 x1.lent.length).length:Nat))+1)) ((((z+((Z7 (Z2 x1.pv) 0 x1.params.length).length:Nat))+((Z7 (Z2 x1.lv) 0 x1.lent.length).length:Nat)))+(1)) (ir 1 [(0,.val v),(1,.i (((z+((Z7 (Z2 x1.pv) 0 x1.params.length).length:Nat))+((Z7 (Z2 x1.lv) 0 x1.lent.length).length:Nat))+1)),(5,.i k)] (ie (ar (Z0 2 (.n 33 (.val v) (.n 34 (.i k) .r)) (Zf (X5 S v xs.length k 5 (k:Int) hd) (Z0 2 (.n 37 (.val (.pointer (some ⟨Z2 v,k*5+3,none⟩))) .r) ?_)))))))))
  have t3:V2 (upd (wr (wr N (Z7 (Z2 x1.pv) 0 x1.params.length) z) (Z7 (Z2 x1.lv) 0 x1.lent.length) (z+((Z7 (Z2 x1.pv) 0 x1.params.length).length:Nat))) (Z2 v,k*5+2) ((z+((Z7 (Z2 x1.pv) 0 x1.params.length).length:Nat))+((Z7 (Z2 x1.lv) 0 x1.lent.length).length:Nat))) S (Z2 x1.body.sv) 0 x1.body.steps:=Z30 kp s3
  refine YR (Wj 0 S (upd (wr (wr N (Z7 (Z2 x1.pv) 0 x1.params.length) z) (Z7 (Z2 x1.lv) 0 x1.lent.length) (z+((Z7 (Z2 x1.pv) 0 x1.params.length).length:Nat))) (Z2 v,k*5+2) ((z+((Z7 (Z2 x1.pv) 0 x1.params.length).length:Nat))+((Z7 (Z2 x1.lv) 0 x1.lent.length).length:Nat))) (Z2 v) (k*5+3) x1.body.sv hb.1 (kp.h a3 d3.ni)) (Z0 1 (.n 39 (.i (((z+((Z7 (Z2 x1.pv) 0 x1.params.length).length:Nat))+((Z7 (Z2 x1.lv) 0 x1.lent.length).length:Nat))+1)) .r) (ic [0] (Zun S (upd (wr (wr N (Z7 (Z2 x1.pv) 0 x1.params.length) z) (Z7 (Z2 x1.lv) 0 x1.lent.length) (z+((Z7 (Z2 x1.pv) 0 x1.params.length).length:Nat))) (Z2 v,k*5+2) ((z+((Z7 (Z2 x1.pv) 0 x1.params.length).length:Nat))+((Z7 (Z2 x1.lv) 0 x1.lent.length).length:Nat))) x1.body.sv x1.body.steps (((z+((Z7 (Z2 x1.pv) 0 x1.params.length).length:Nat))+((Z7 (Z2 x1.lv) 0 x1.lent.length).length:Nat))+1)) ?_))
  rintro _ _ ⟨rfl,rfl⟩
  have kp:=kp.wr (Z3t s3) (((z+((Z7 (Z2 x1.pv) 0 x1.params.length).length:Nat))+((Z7 (Z2 x1.lv) 0 x1.lent.length).length:Nat))+1)
  refine ir 1 [(0,.val v),(1,.i ((((z+((Z7 (Z2 x1.pv) 0 x1.params.length).length:Nat))+((Z7 (Z2 x1.lv) 0 x1.lent.length).length:Nat))+1)+((Yc (Z2 x1.body.sv) 0 x1.body.steps).length:Nat))),(5,.i k)] (ie (ar (Z0 3 (.n 41 (.val v) (.n 42 (.i k) (.n 43 (.i ((((z+((Z7 (Z2 x1.pv) 0 x1.params.length).length:Nat))+((Z7 (Z2 x1.lv) 0 x1.lent.length).length:Nat))+1)+((Yc (Z2 x1.body.sv) 0 x1.body.steps).length:Nat))) .r))) (Zf (X5 S v xs.length k 5 (k:Int) hd) (Z0 2 (.n 46 (.val (.pointer (some ⟨Z2 v,k*5+4,none⟩))) .r) (UM 0 S (wr (upd (wr (wr N (Z7 (Z2 x1.pv) 0 x1.params.length) z) (Z7 (Z2 x1.lv) 0 x1.lent.length) (z+((Z7 (Z2 x1.pv) 0 x1.params.length).length:Nat))) (Z2 v,k*5+2) ((z+((Z7 (Z2 x1.pv) 0 x1.params.length).length:Nat))+((Z7 (Z2 x1.lv) 0 x1.lent.length).length:Nat))) (Yc (Z2 x1.body.sv) 0 x1.body.steps) (((z+((Z7 (Z2 x1.pv) 0 x1.params.length).length:Nat))+((Z7 (Z2 x1.lv) 0 x1.lent.length).length:Nat))+1)) (Z2 v) (k*5+4) ((((z+((Z7 (Z2 x1.pv) 0 x1.params.length).length:Nat))+((Z7 (Z2 x1.lv) 0 x1.lent.length).length:Nat))+1)+((Yc (Z2 x1.body.sv) 0 x1.body.steps).length:Nat)) hb.1 (kp.i i4) ?_))))))
  have kp:=kp.upd i4 ((((z+((Z7 (Z2 x1.pv) 0 x1.params.length).length:Nat))+((Z7 (Z2 x1.lv) 0 x1.lent.length).length:Nat))+1)+((Yc (Z2 x1.body.sv) 0 x1.body.steps).length:Nat))
  refine ie (az (Z0 1 (.n 47 (.i ((((z+((Z7 (Z2 x1.pv) 0 x1.params.length).length:Nat))+((Z7 (Z2 x1.lv) 0 x1.lent.length).length:Nat))+1)+((Yc (Z2 x1.body.sv) 0 x1.body.steps).length:Nat))) .r) (ia ((((((z+((Z7 (Z2 x1.pv) 0 x1.params.length).length:Nat))+((Z7 (Z2 x1.lv) 0 x1.lent.length).length:Nat))+1)+((Yc (Z2 x1.body.sv) 0 x1.body.steps).length:Nat))+1)) ((((((z+((Z7 (Z2 x1.pv) 0 x1.params.length).length:Nat))+((Z7 (Z2 x1.lv) 0 x1.lent.length).length:Nat))+1)+((Yc (Z2 x1.body.sv) 0 x1.body.steps).length:Nat)))+(1)) (ir 1 [(0,.val v),(1,.i (((((z+((Z7 (Z2 x1.pv) 0 x1.params.length).length:Nat))+((Z7 (Z2 x1.lv) 0 x1.lent.length).length:Nat))+1)+((Yc (Z2 x1.body.sv) 0 x1.body.steps).length:Nat))+1)),(5,.i k)] (ie (az (Z0 1 (.n 10 (.i k) .r) (ia (((k+1:Nat):Int)) (((k:Int))+(1)) (Z0 1 (.n 5 (.i (k+1:Nat)) (.p (.d (.k (.k .z))))) (ie ?_))))))))))
  exact ⟨_,_,_,ob,⟨k+1,(((((z+((Z7 (Z2 x1.pv) 0 x1.params.length).length:Nat))+((Z7 (Z2 x1.lv) 0 x1.lent.length).length:Nat))+1)+((Yc (Z2 x1.body.sv) 0 x1.body.steps).length:Nat))+1),upd (wr (upd (wr (wr N (Z7 (Z2 x1.pv) 0 x1.params.length) z) (Z7 (Z2 x1.lv) 0 x1.lent.length) (z+((Z7 (Z2 x1.pv) 0 x1.params.length).length:Nat))) (Z2 v,k*5+2) ((z+((Z7 (Z2 x1.pv) 0 x1.params.length).length:Nat))+((Z7 (Z2 x1.lv) 0 x1.lent.length).length:Nat))) (Yc (Z2 x1.body.sv) 0 x1.body.steps) (((z+((Z7 (Z2 x1.pv) 0 x1.params.length).length:Nat))+((Z7 (Z2 x1.lv) 0 x1.lent.length).length:Nat))+1)) (Z2 v,k*5+4) ((((z+((Z7 (Z2 x1.pv) 0 x1.params.length).length:Nat))+((Z7 (Z2 x1.lv) 0 x1.lent.length).length:Nat))+1)+((Yc (Z2 x1.body.sv) 0 x1.body.steps).length:Nat)),ob,ob,ob,kp,(Z06 c0_4 hdr Y1b om),rfl,rfl,rfl⟩,(wk [0] (fw (fc (x:=.i (k+1:Nat)) li fl)))⟩
 have he:(WK (Z2 v) (k*5) (xs.drop k))=[]:=by rw [Tg om];rfl
 rw [he,Yk] at c0_2
 rw [he,wr] at c0_4
 refine ax 0 (ar (ir 2 [(4,.i z)] (ie ?_)))
 exact Z5 (r2 [0] [.i z] ⟨rfl,rfl⟩ li (eq:=(QX (m:=N) c0_4 rz)))
theorem Zuk (S:List Nat) (M:ZK) (y:HNormal) (q:Int) (hs:Jg M S y) (hl:∀d∈y.decls,d.cons.length<=4000000000000) (hq:0<=q/\q+((XY y).length:Nat)<=4000000000000):Zd Tryz.prog 10 [.agg [.val y.dv,.val y.rv],.i q] [.own S M] (fun r h=>r=.i (q+((XY y).length:Nat))/\h=[.own S (wr M (XY y) q)]):=by
 obtain ⟨⟨d0,s0⟩,⟨d1,s1⟩⟩:=hs
 have hln:=Zgu (y:=y)
 have kp:=Kp.refl M
 refine enter Tryz.func10 kr (n:=14) kr kr (ar (iA [.val y.dv,.val y.rv] ?_))
 intro b1
 refine ir 1 [(1,.i q),(2,.p b1 0)] (ie (ar (Za 3 (.n 6 (.val y.dv) (.n 7 (.i q) .r)) [0] [b1] (ic [1] (Zh8 S M y.dv y.decls q (hl:=ob)) ?_))))
 rintro _ _ ⟨rfl,rfl⟩
 have kp:=kp.wr (Z3s s0) q
 have t1:=Zjl kp s1
 refine ir 1 [(1,.i (q+((Ym (Z2 y.dv) 0 y.decls).length:Nat))),(2,.p b1 0)] (ie (ar (iR 3 [(10,.val y.rv),(11,.i (q+((Ym (Z2 y.dv) 0 y.decls).length:Nat)))] [1] [b1] (ic [0] (Zum S (wr M (Ym (Z2 y.dv) 0 y.decls) q) y.rv y.routines (q+((Ym (Z2 y.dv) 0 y.decls).length:Nat))) ?_))))
 rintro _ _ ⟨rfl,rfl⟩
 refine ir 1 [(1,.i ((q+((Ym (Z2 y.dv) 0 y.decls).length:Nat))+((WK (Z2 y.rv) 0 y.routines).length:Nat)))] (ie (ar (ir 2 [(4,.i ((q+((Ym (Z2 y.dv) 0 y.decls).length:Nat))+((WK (Z2 y.rv) 0 y.routines).length:Nat)))] (ie ?_))))
 exact Z5 (r2 [0] [.i ((q+((Ym (Z2 y.dv) 0 y.decls).length:Nat))+((WK (Z2 y.rv) 0 y.routines).length:Nat))] ⟨rfl,rfl⟩ li (eq:=(QX (m:=(wr (wr M (Ym (Z2 y.dv) 0 y.decls) q) (WK (Z2 y.rv) 0 y.routines) (q+((Ym (Z2 y.dv) 0 y.decls).length:Nat)))) Y19 rz)))
theorem Z2h (S:List Nat) (M:ZK) (v:Value) (xs:List Int) (q:Int) (hd:Xu S v xs.length:=by exact ob) (hs:V1 M (Z2 v) xs.length:=by exact ob) (hh:YQ M (Z7 (Z2 v) 0 xs.length) q:=by exact ob) (hq:0<=q/\q+((Z7 (Z2 v) 0 xs.length).length:Nat)<=4000000000000:=by exact ob):Zd Tryz.prog 63 [.val v,.i q] [.own S M] (fun r h=>r=.i (q+((Z7 (Z2 v) 0 xs.length).length:Nat))/\h=[.own S M]):=by
 have hal:=Qj (Z2 v) xs.length 0
 refine enter Tryz.func63 kr (n:=21) kr kr (ar (ir 1 [(0,.val v),(1,.i q)] (ie (aq (ar (Z0 1 (.n 5 (.i 0) .r) (ie (ab 0 (al (fun m F h=>∃(k:Nat) (z:Int),(k<=xs.length)/\(0<=z)/\(z+((Z7 (Z2 v) k (xs.length-k)).length:Nat)=q+((Z7 (Z2 v) 0 xs.length).length:Nat))/\(YQ M (Z7 (Z2 v) k (xs.length-k)) z)/\F=[(0,.val v),(1,.i z),(5,.i k)]/\h=[.own S M]/\m=xs.length-k) _ _ _ ⟨0,q,ob,ob,(by simp),(by simpa using hh),rfl,rfl,rfl⟩ (wk [0] (fw (fc (x:=.i 0) li fl))) ?_)))))))))
 rintro m F h ⟨k,z,c0_0,c0_1,c0_2,c0_3,rfl,rfl,rfl⟩
 refine aq (ar (Z0 2 (.n 6 (.i k) (.n 7 (.val v) .r)) (Zf (Tz S v xs.length hd) (Z0 1 (.n 9 (.b (decide ((k:Int)<(xs.length:Int)))) .r) (ie (ac (decide ((k:Int)<(xs.length:Int))) dq (fun hc1=>?_) (fun hc1=>?_)))))))
 ·have hb:=hd.blk (i:=k) om
  have hdr:=Zbx (Z2 v) xs.length k om
  have hl0:(Z7 (Z2 v) k (xs.length-k)).length=(Z7 (Z2 v) (k+1) (xs.length-(k+1))).length+1:=by rw [hdr];rfl
  have hsk:=hs k om
  rw [<-VS k] at hsk
  rw [hdr] at c0_3
  have h0:M (Z2 v) (k*1)=some (.int .i64 z):=by rw [VS];exact c0_3.1
  refine ak (aq (ab 1 (aq (ar (Z0 2 (.n 12 (.val v) (.n 13 (.i k) .r)) (Zf (X5 S v xs.length k 1 (k:Int) hd) (YR (Wj 0 S M (Z2 v) (k*1) (.int .i64 z) hb.1 h0) (Z0 2 (.n 17 (.b (z != z)) .r) (ie (ac (z != z) Zw (fun hc2=>?_) (fun hc2=>?_)))))))))))
  ·refine ar (ir 1 [(4,.i (-1))] (ie ?_))
   exact Z5 (r2 [0] [.i (-1)] ⟨rfl,rfl⟩ li)
  refine ak (az (Z0 1 (.n 18 (.i z) .r) (ia ((z+1)) ((z)+(1)) (ir 1 [(0,.val v),(1,.i (z+1)),(5,.i k)] (ie (az (Z0 1 (.n 10 (.i k) .r) (ia (((k+1:Nat):Int)) (((k:Int))+(1)) (Z0 1 (.n 5 (.i (k+1:Nat)) (.p (.d (.k (.k .z))))) (ie ?_))))))))))
  exact ⟨_,_,_,ob,⟨k+1,(z+1),ob,ob,ob,c0_3.2,rfl,rfl,rfl⟩,(wk [0] (fw (fc (x:=.i (k+1:Nat)) li fl)))⟩
 have he:Z7 (Z2 v) k (xs.length-k)=[]:=by rw [show xs.length-k=0 by omega];rfl
 rw [he,Yk] at c0_2
 refine ax 0 (ar (ir 2 [(4,.i z)] (ie ?_)))
 exact Z5 (r2 [0] [.i z] ⟨rfl,rfl⟩ li)
theorem Zqu (S:List Nat) (M:ZK) (v:Value) (xs:List HCon) (q:Int) (hl:xs.length<=4000000000000:=by exact ob) (hd:Xu S v xs.length:=by exact ob) (hs:Qv M S (Z2 v) 0 xs:=by exact ob) (hh:YQ M (XB xs) q:=by exact ob) (hq:0<=q/\q+((XB xs).length:Nat)<=4000000000000:=by exact ob):Zd Tryz.prog 62 [.val v,.i q] [.own S M] (fun r h=>r=.i (q+((XB xs).length:Nat))/\h=[.own S M]):=by
 refine enter Tryz.func62 kr (n:=22) kr kr (ar (ir 1 [(0,.val v),(1,.i q)] (ie (aq (ar (Z0 1 (.n 5 (.i 0) .r) (ie (ab 0 (al (fun m F h=>∃(k:Nat) (z:Int),(k<=xs.length)/\(0<=z)/\(z+((XB (xs.drop k)).length:Nat)=q+((XB xs).length:Nat))/\(YQ M (XB (xs.drop k)) z)/\F=[(0,.val v),(1,.i z),(5,.i k)]/\h=[.own S M]/\m=xs.length-k) _ _ _ ⟨0,q,ob,ob,(by simp),(by simpa using hh),rfl,rfl,rfl⟩ (wk [0] (fw (fc (x:=.i 0) li fl))) ?_)))))))))
 rintro m F h ⟨k,z,c0_0,c0_1,c0_2,c0_3,rfl,rfl,rfl⟩
 refine aq (ar (Z0 2 (.n 6 (.i k) (.n 7 (.val v) .r)) (Zf (Tz S v xs.length hd) (Z0 1 (.n 9 (.b (decide ((k:Int)<(xs.length:Int)))) .r) (ie (ac (decide ((k:Int)<(xs.length:Int))) dq (fun hc1=>?_) (fun hc1=>?_)))))))
 ·have hb:=hd.blk (i:=k) om
  obtain ⟨x1,hx1⟩:=Zl (xs:=xs) (j:=k) om
  have e1:=Zaf hs hx1
  rw [XQ] at e1
  obtain ⟨⟨a0,d0⟩,s0⟩:=e1
  rw [<-VS k] at a0
  have hdr:=Zbu hx1
  have hln:(Z3r x1).length=(Z7 (Z2 x1.fv) 0 x1.fields.length).length:=rfl
  have hl0:=Y1 List.length hdr
  rw [ZC,hln] at hl0
  rw [hdr] at c0_3
  obtain ⟨hA,hR⟩:=(Kq _ _ _ _).1 c0_3
  have h0:YQ M (Z7 (Z2 x1.fv) 0 x1.fields.length) z:=hA
  refine ak (aq (ab 1 (ar (Z0 2 (.n 12 (.val v) (.n 13 (.i k) .r)) (Zf (X5 S v xs.length k 1 (k:Int) hd) (Z0 1 (.n 15 (.val (.pointer (some ⟨Z2 v,k*1,none⟩))) .r) (YR (Wj 0 S M (Z2 v) (k*1) x1.fv hb.1 a0) (Z0 1 (.n 17 (.i z) .r) (ic [0] (Z2h S M x1.fv x1.fields z) ?_)))))))))
  rintro _ _ ⟨rfl,rfl⟩
  refine ir 1 [(0,.val v),(1,.i (z+((Z7 (Z2 x1.fv) 0 x1.fields.length).length:Nat))),(5,.i k)] (ie (ar (Z0 2 (.n 20 (.b (decide ((z+((Z7 (Z2 x1.fv) 0 x1.fields.length).length:Nat))<0))) .r) (ie (ac (decide ((z+((Z7 (Z2 x1.fv) 0 x1.fields.length).length:Nat))<0)) dq (fun hc2=>?_) (fun hc2=>?_))))))
  ·refine ar (ir 1 [(4,.i (-1))] (ie ?_))
   exact Z5 (r2 [0] [.i (-1)] ⟨rfl,rfl⟩ li)
  refine ak (az (Z0 1 (.n 10 (.i k) .r) (ia (((k+1:Nat):Int)) (((k:Int))+(1)) (Z0 1 (.n 5 (.i (k+1:Nat)) (.p (.d (.d (.k (.k .z)))))) (ie ?_)))))
  exact ⟨_,_,_,ob,⟨k+1,(z+((Z7 (Z2 x1.fv) 0 x1.fields.length).length:Nat)),ob,ob,ob,(Z4t hR om),rfl,rfl,rfl⟩,(wk [0] (fw (fc (x:=.i (k+1:Nat)) li fl)))⟩
 have he:(XB (xs.drop k))=[]:=by rw [Tg om];rfl
 rw [he,Yk] at c0_2
 refine ax 0 (ar (ir 2 [(4,.i z)] (ie ?_)))
 exact Z5 (r2 [0] [.i z] ⟨rfl,rfl⟩ li)
theorem Zqv (S:List Nat) (M:ZK) (v:Value) (xs:List HDecl) (q:Int) (hl:∀d∈xs,d.cons.length<=4000000000000) (hd:Xu S v xs.length:=by exact ob) (hs:Qw M S (Z2 v) 0 xs:=by exact ob) (hh:YQ M (Ym (Z2 v) 0 xs) q:=by exact ob) (hq:0<=q/\q+((Ym (Z2 v) 0 xs).length:Nat)<=4000000000000:=by exact ob):Zd Tryz.prog 31 [.val v,.i q] [.own S M] (fun r h=>r=.i (q+((Ym (Z2 v) 0 xs).length:Nat))/\h=[.own S M]):=by
 have hal:=Z6p (g:=Z2 v) (o:=0) (ds:=xs)
 refine enter Tryz.func31 kr (n:=40) kr kr (ar (ir 1 [(0,.val v),(1,.i q)] (ie (aq (ar (Z0 1 (.n 5 (.i 0) .r) (ie (ab 0 (al (fun m F h=>∃(k:Nat) (z:Int),(k<=xs.length)/\(0<=z)/\(z+((Ym (Z2 v) (k*3) (xs.drop k)).length:Nat)=q+((Ym (Z2 v) 0 xs).length:Nat))/\(YQ M (Ym (Z2 v) (k*3) (xs.drop k)) z)/\F=[(0,.val v),(1,.i z),(5,.i k)]/\h=[.own S M]/\m=xs.length-k) _ _ _ ⟨0,q,ob,ob,(by simp),(by simpa using hh),rfl,rfl,rfl⟩ (wk [0] (fw (fc (x:=.i 0) li fl))) ?_)))))))))
 rintro m F h ⟨k,z,c0_0,c0_1,c0_2,c0_3,rfl,rfl,rfl⟩
 refine aq (ar (Z0 2 (.n 6 (.i k) (.n 7 (.val v) .r)) (Zf (Tz S v xs.length hd) (Z0 1 (.n 9 (.b (decide ((k:Int)<(xs.length:Int)))) .r) (ie (ac (decide ((k:Int)<(xs.length:Int))) dq (fun hc1=>?_) (fun hc1=>?_)))))))
 ·have hb:=hd.blk (i:=k) om
  obtain ⟨x1,hx1⟩:=Zl (xs:=xs) (j:=k) om
  have e1:=Zai hs hx1
  rw [XQ] at e1
  obtain ⟨i0,i1,⟨a2,d2⟩,s2⟩:=e1
  have hdr:=Zbw (g:=Z2 v) hx1
  have hl1:=hl x1 (ZV hx1)
  have hln:=Z57 (g:=Z2 v) (o:=k*3) (d:=x1)
  have hl0:=Y1 List.length hdr
  rw [ZC,hln] at hl0
  rw [hdr] at c0_3
  obtain ⟨hA,hR⟩:=(Kq _ _ _ _).1 c0_3
  obtain ⟨h0,h1,h2⟩:=Zr0 hA
  refine ak (aq (ab 1 (aq (ar (Z0 2 (.n 12 (.val v) (.n 13 (.i k) .r)) (Zf (X5 S v xs.length k 3 (k:Int) hd) (Z0 1 (.n 15 (.val (.pointer (some ⟨Z2 v,k*3,none⟩))) .r) (YR (Wj 0 S M (Z2 v) (k*3) (.int .i64 z) hb.1 h0) (Z0 2 (.n 18 (.b (z != z)) .r) (ie (ac (z != z) Zw (fun hc2=>?_) (fun hc2=>?_))))))))))))
  ·refine ar (ir 1 [(4,.i (-1))] (ie ?_))
   exact Z5 (r2 [0] [.i (-1)] ⟨rfl,rfl⟩ li)
  refine ak (ar (Z0 1 (.n 19 (.i z) .r) (ia ((z+1)) ((z)+(1)) (ir 1 [(0,.val v),(1,.i (z+1)),(5,.i k)] (ie (aq (ar (Z0 2 (.n 21 (.val v) (.n 22 (.i k) .r)) (Zf (X5 S v xs.length k 3 (k:Int) hd) (Z0 1 (.n 24 (.val (.pointer (some ⟨Z2 v,k*3+1,none⟩))) .r) (YR (Wj 0 S M (Z2 v) (k*3+1) (.int .i64 (z+1)) hb.1 h1) (Z0 2 (.n 27 (.b ((z+1) != (z+1))) .r) (ie (ac ((z+1) != (z+1)) Zw (fun hc3=>?_) (fun hc3=>?_)))))))))))))))
  ·refine ar (ir 1 [(4,.i (-1))] (ie ?_))
   exact Z5 (r2 [0] [.i (-1)] ⟨rfl,rfl⟩ li)
  refine ak (ar (Z0 1 (.n 28 (.i (z+1)) .r) (ia (((z+1)+1)) (((z+1))+(1)) (ir 1 [(0,.val v),(1,.i ((z+1)+1)),(5,.i k)] (ie (ar (Z0 2 (.n 30 (.val v) (.n 31 (.i k) .r)) (Zf (X5 S v xs.length k 3 (k:Int) hd) (Z0 1 (.n 33 (.val (.pointer (some ⟨Z2 v,k*3+2,none⟩))) .r) (YR (Wj 0 S M (Z2 v) (k*3+2) x1.cv hb.1 a2) (Z0 1 (.n 35 (.i ((z+1)+1)) .r) (ic [0] (Zqu S M x1.cv x1.cons ((z+1)+1)) ?_))))))))))))
  rintro _ _ ⟨rfl,rfl⟩
  refine ir 1 [(0,.val v),(1,.i (((z+1)+1)+((XB x1.cons).length:Nat))),(5,.i k)] (ie (ar (Z0 2 (.n 38 (.b (decide ((((z+1)+1)+((XB x1.cons).length:Nat))<0))) .r) (ie (ac (decide ((((z+1)+1)+((XB x1.cons).length:Nat))<0)) dq (fun hc4=>?_) (fun hc4=>?_))))))
  ·refine ar (ir 1 [(4,.i (-1))] (ie ?_))
   exact Z5 (r2 [0] [.i (-1)] ⟨rfl,rfl⟩ li)
  refine ak (az (Z0 1 (.n 10 (.i k) .r) (ia (((k+1:Nat):Int)) (((k:Int))+(1)) (Z0 1 (.n 5 (.i (k+1:Nat)) (.p (.d (.d (.k (.k .z)))))) (ie ?_)))))
  exact ⟨_,_,_,ob,⟨k+1,(((z+1)+1)+((XB x1.cons).length:Nat)),ob,ob,ob,(Z4t hR om),rfl,rfl,rfl⟩,(wk [0] (fw (fc (x:=.i (k+1:Nat)) li fl)))⟩
 have he:(Ym (Z2 v) (k*3) (xs.drop k))=[]:=by rw [Tg om];rfl
 rw [he,Yk] at c0_2
 refine ax 0 (ar (ir 2 [(4,.i z)] (ie ?_)))
 exact Z5 (r2 [0] [.i z] ⟨rfl,rfl⟩ li)
end Go.Abs
