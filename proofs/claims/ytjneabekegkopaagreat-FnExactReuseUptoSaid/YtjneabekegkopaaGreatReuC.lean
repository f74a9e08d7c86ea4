/-
  A part of the proof of FnExactReuseUptoSaid (see the last file): no condition.
-/
import Derived.Test.YtjneabekegkopaaGreatReuB
import Derived.Test.YtjneabekegkopaaGreatProg
import Derived.RangeFuncNested
import Derived.RangeFuncBound
import Derived.RangeFuncCalls
import Derived.RangeFuncLeaves
import Derived.Shelf.Abstract
import Derived.Shelf.RegionOpen
import Derived.WalkKit
import Derived.OwnWalkIn
import Derived.TacticsInMore
import Derived.LoopNIn
import Derived.LoopIn
set_option linter.all false
set_option linter.unusedVariables false
set_option linter.unusedSimpArgs false
set_option linter.unusedSectionVars false
set_option maxRecDepth 10000
set_option maxHeartbeats 4000000
section
namespace Go.Abs
def Zm:List Step→Nat
 | []=>0
 | s::r=>if Z0q s.op=true then Zm r+1 else 0
def atF (op x:Int):List Step→Int→Int
 | [],_=>-1
 | s::r,k=>if s.op=op∧gI s.args 0=x then k else atF op x r (k+1)
def conB (many:Nat) (s:Step):Prop:=(s.op=6∧s.into=0)∧s.args.length=many
instance (many:Nat) (s:Step):Decidable (conB many s):=by unfold conB;infer_instance
def conF (many:Nat):List Step→Int→Int
 | [],_=>-1
 | s::r,k=>if conB many s then k else conF many r (k+1)
def gSt (xs:List Step) (i:Int):Step:=xs[i.toNat]?.getD (cntS 0 0)
def Z73 (v:Int) (s:Step):Step:=.mk s.op s.num v s.args s.kids
def Z4b (xs:List Step) (x:Int):Int:=atF 16 x (xs.take (Zm xs)) 0
def Z3g (xs:List Step) (many:Nat):Int:=conF many (xs.drop (Zm xs)) (Zm xs)
def reuL (xs:List Step) (x:Int) (many:Nat):List Step:=
 if Z4b xs x<0∨Z3g xs many<0 then xs else (xs.set (Z4b xs x).toNat (cntS 17 x)).set (Z3g xs many).toNat (Z73 (1+x) (gSt xs (Z3g xs many)))
def reuA (b:Block) (x:Int) (many:Nat):Block:=.mk (reuL b.steps x many) b.result
mutual
def ruS (ds:List Decl) (kept:List Int):Step→Step
 | .mk op num into args kids=>.mk op num into args (ruKs ds kept op num args kids 0)
def ruKs (ds:List Decl) (kept:List Int) (op num:Int) (args:List Int):List Block→Nat→List Block
 | [],_=>[]
 | b::r,k=>(if op=8∧¬gI args 0∈kept then reuA (ruB ds (if Z4b b.steps (gI args 0)<0∨Z3g b.steps (Z3w ds num k).length<0 then kept else gI args 0::kept) b) (gI args 0) (Z3w ds num k).length else ruB ds kept b)::ruKs ds kept op num args r (k+1)
def ruSs (ds:List Decl) (kept:List Int):List Step→List Step
 | []=>[]
 | s::r=>ruS ds kept s::ruSs ds kept r
def ruB (ds:List Decl) (kept:List Int):Block→Block
 | .mk steps result=>.mk (ruSs ds kept steps) result
end
def Z00h (ds:List Decl) (kept:List Int) (num:Int) (args:List Int) (k:Nat) (b:Block):List Int:=if Z4b b.steps (gI args 0)<0∨Z3g b.steps (Z3w ds num k).length<0 then kept else gI args 0::kept
def ruK (ds:List Decl) (kept:List Int) (op num:Int) (args:List Int) (k:Nat) (b:Block):Block:=if op=8∧¬gI args 0∈kept then reuA (ruB ds (Z00h ds kept num args k b) b) (gI args 0) (Z3w ds num k).length else ruB ds kept b
theorem Zf8 (ds:List Decl) (kept:List Int) (s:Step):ruS ds kept s=.mk s.op s.num s.into s.args (ruKs ds kept s.op s.num s.args s.kids 0):=by cases s;rw [ruS];rfl
theorem Znx (ds:List Decl) (kept:List Int) (b:Block):ruB ds kept b=.mk (ruSs ds kept b.steps) b.result:=by cases b;rw [ruB];rfl
theorem Zg6 (ds:List Decl) (kept:List Int):∀xs:List Step,ruSs ds kept xs=xs.map (ruS ds kept)
 | []=>rfl
 | s::r=>by rw [ruSs,Zg6 ds kept r];rfl
section
variable {ds:List Decl} {kept:List Int}
theorem Z06c {xs acc r:List Step} {k:Nat} {s:Step} (h:xs[k]? = some s) (ha:acc++ruSs ds kept (xs.drop k)=r) :
  (acc++[.mk s.op s.num s.into s.args (ruKs ds kept s.op s.num s.args s.kids 0)])++ruSs ds kept (xs.drop (k+1))=r:=by
 rw [Z5 h,ruSs,Zf8] at ha
 rw [←ha];simp
theorem Z029 {xs acc r:List Step} {k:Nat} (h:xs.length≤k) (ha:acc++ruSs ds kept (xs.drop k)=r):acc=r:=by
 rw [Zt h,ruSs,List.append_nil] at ha;exact ha
theorem Zro {op num:Int} {args:List Int} {bs acc r:List Block} {k:Nat} {b:Block} (h:bs[k]? = some b) (ha:acc++ruKs ds kept op num args (bs.drop k) k=r) :
  (acc++[ruK ds kept op num args k b])++ruKs ds kept op num args (bs.drop (k+1)) (k+1)=r:=by
 rw [Z5 h,ruKs] at ha
 rw [←ha,ruK,Z00h];simp
theorem Zy5 {op num:Int} {args:List Int} {bs acc r:List Block} {k j:Nat} (h:bs.length≤k) (ha:acc++ruKs ds kept op num args (bs.drop k) j=r):acc=r:=by
 rw [Zt h,ruKs,List.append_nil] at ha;exact ha
end
section
variable {ds:List Decl}
mutual
theorem Zy8:∀(s:Step) {K K':List Int},(∀z,z∈K↔z∈K')→ruS ds K s=ruS ds K' s
 | .mk op num into args kids,K,K',h=>by rw [ruS,ruS,Zjv kids h]
theorem Zjv:∀(bs:List Block) {K K':List Int} {op num:Int} {args:List Int} {k:Nat},(∀z,z∈K↔z∈K')→ruKs ds K op num args bs k=ruKs ds K' op num args bs k
 | [],_,_,_,_,_,_,_=>by rw [ruKs,ruKs]
 | b::r,K,K',op,num,args,k,h=>by
  have h1:=Zjv r (op:=op) (num:=num) (args:=args) (k:=k+1) h
  have h2:=Zhm b h
  have h3:∀z,z∈(gI args 0::K)↔z∈(gI args 0::K'):=fun z=>by rw [List.mem_cons,List.mem_cons,h z]
  have h4:=Zhm b h3
  rw [ruKs,ruKs,h1,h2]
  congr 1
  by_cases hq:op=8∧¬gI args 0∈K
  ·have hq':op=8∧¬gI args 0∈K':=⟨hq.1,fun z=>hq.2 ((h _).2 z)⟩
   rw [if_pos hq,if_pos hq']
   congr 1
   split
   ·exact h2
   ·exact h4
  ·have hq':¬(op=8∧¬gI args 0∈K'):=fun z=>hq ⟨z.1,fun y=>z.2 ((h _).1 y)⟩
   rw [if_neg hq,if_neg hq']
theorem Zjw:∀(xs:List Step) {K K':List Int},(∀z,z∈K↔z∈K')→ruSs ds K xs=ruSs ds K' xs
 | [],_,_,_=>by rw [ruSs,ruSs]
 | s::r,K,K',h=>by rw [ruSs,ruSs,Zy8 s h,Zjw r h]
theorem Zhm:∀(b:Block) {K K':List Int},(∀z,z∈K↔z∈K')→ruB ds K b=ruB ds K' b
 | .mk steps result,K,K',h=>by rw [ruB,ruB,Zjw steps h]
end
end
theorem Zan:∀xs:List Step,Zm xs≤xs.length
 | []=>Nat.le_refl _
 | s::r=>by have:=Zan r;rw [Zm];split<;>simp<;>omega
section
variable {f:Step→Step} (hop:∀s,(f s).op=s.op) (hin:∀s,(f s).into=s.into) (har:∀s,(f s).args=s.args)
include hop
theorem Zh8:∀xs:List Step,Zm (xs.map f)=Zm xs
 | []=>rfl
 | s::r=>by rw [List.map_cons,Zm,Zm,hop,Zh8 r]
include har
theorem Zun {op x:Int}:∀(xs:List Step) (k:Int),atF op x (xs.map f) k=atF op x xs k
 | [],_=>rfl
 | s::r,k=>by rw [List.map_cons,atF,atF,hop,har,Zun r]
theorem Zxh (xs:List Step) (x:Int):Z4b (xs.map f) x=Z4b xs x:=by rw [Z4b,Zh8 hop,←List.map_take,Zun hop har,Z4b]
include hin
theorem Zqr {many:Nat}:∀(xs:List Step) (k:Int),conF many (xs.map f) k=conF many xs k
 | [],_=>rfl
 | s::r,k=>by
  have e:conB many (f s)↔conB many s:=by rw [conB,conB,hop,hin,har]
  rw [List.map_cons,conF,conF,Zqr r]
  by_cases h:conB many s
  ·rw [if_pos h,if_pos (e.2 h)]
  ·rw [if_neg h,if_neg (fun z=>h (e.1 z))]
theorem Zvb (xs:List Step) (many:Nat):Z3g (xs.map f) many=Z3g xs many:=by rw [Z3g,Zh8 hop,←List.map_drop,Zqr hop hin har,Z3g]
end
theorem Z01x {op x:Int}:∀{xs:List Step} {k:Int},¬atF op x xs k<0→0≤k→k≤atF op x xs k∧atF op x xs k<k+xs.length∧∃s,xs[(atF op x xs k-k).toNat]? = some s∧s.op=op∧gI s.args 0=x
 | [],k,h,_=>by simp [atF] at h
 | s::r,k,h,hk=>by
  rw [atF] at h ⊢
  split
  ·rename_i q
   refine ⟨Int.le_refl _,by rw [List.length_cons];omega,s,?_,q⟩
   rw [Int.sub_self];rfl
  ·rename_i q
   rw [if_neg q] at h
   obtain ⟨h1,h2,t,h3,h4⟩:=Z01x (xs:=r) (k:=k+1) h om
   refine ⟨by omega,by rw [List.length_cons];omega,t,?_,h4⟩
   rw [show (atF op x r (k+1)-k).toNat=(atF op x r (k+1)-(k+1)).toNat+1 by omega,List.getElem?_cons_succ]
   exact h3
theorem Zvc {many:Nat}:∀{xs:List Step} {k:Int},¬conF many xs k<0→0≤k→k≤conF many xs k∧conF many xs k<k+xs.length∧∃s,xs[(conF many xs k-k).toNat]? = some s∧conB many s
 | [],k,h,_=>by simp [conF] at h
 | s::r,k,h,hk=>by
  rw [conF] at h ⊢
  split
  ·rename_i q
   refine ⟨Int.le_refl _,by rw [List.length_cons];omega,s,?_,q⟩
   rw [Int.sub_self];rfl
  ·rename_i q
   rw [if_neg q] at h
   obtain ⟨h1,h2,t,h3,h4⟩:=Zvc (xs:=r) (k:=k+1) h om
   refine ⟨by omega,by rw [List.length_cons];omega,t,?_,h4⟩
   rw [show (conF many r (k+1)-k).toNat=(conF many r (k+1)-(k+1)).toNat+1 by omega,List.getElem?_cons_succ]
   exact h3
theorem Zdw {many:Nat}:∀(xs:List Step) (k:Int) (j:Int),0≤k→0≤j→conF many xs (k+j)=if conF many xs k<0 then -1 else conF many xs k+j
 | [],k,j,_,_=>by simp [conF]
 | s::r,k,j,hk,hj=>by
  rw [conF,conF]
  split
  ·rw [if_neg om]
  ·have:=Zdw (many:=many) r (k+1) j om hj
   rw [←this];congr 1;omega
theorem Z6i {xs:List Step} {x:Int} (h:¬Z4b xs x<0):0≤Z4b xs x∧Z4b xs x<Zm xs∧∃s,xs[(Z4b xs x).toNat]? = some s∧s.op=16∧gI s.args 0=x:=by
 obtain ⟨h1,h2,s,h3,h4⟩:=Z01x h (Int.le_refl 0)
 have hl:=Zan xs
 rw [List.length_take,Nat.min_eq_left hl] at h2
 have h2':Z4b xs x<Zm xs:=by unfold Z4b;omega
 have h1':0≤Z4b xs x:=h1
 refine ⟨h1',h2',s,?_,h4⟩
 rw [Int.sub_zero] at h3
 have h5:(Z4b xs x).toNat<Zm xs:=by omega
 rwa [show atF 16 x (xs.take (Zm xs)) 0=Z4b xs x from rfl,List.getElem?_take_of_lt h5] at h3
theorem Z5g {xs:List Step} {many:Nat} (h:¬Z3g xs many<0):(Zm xs:Int)≤Z3g xs many∧Z3g xs many<xs.length∧∃s,xs[(Z3g xs many).toNat]? = some s∧conB many s∧gSt xs (Z3g xs many)=s:=by
 obtain ⟨h1,h2,s,h3,h4⟩:=Zvc h om
 have hl:=Zan xs
 rw [List.length_drop] at h2
 have h1':(Zm xs:Int)≤Z3g xs many:=h1
 have h2':Z3g xs many<xs.length:=by unfold Z3g;omega
 rw [List.getElem?_drop,show conF many (xs.drop (Zm xs)) (Zm xs)=Z3g xs many from rfl,show Zm xs+(Z3g xs many-(Zm xs:Int)).toNat=(Z3g xs many).toNat by omega] at h3
 exact ⟨h1',h2',s,h3,h4,by rw [gSt,h3];rfl⟩
theorem Z010 {f:Step→Step} (hop:∀s,(f s).op=s.op) (hin:∀s,(f s).into=s.into) (har:∀s,(f s).args=s.args) (hc:∀x,f (cntS 17 x)=cntS 17 x) (hi:∀v s,f (Z73 v s)=Z73 v (f s)) (xs:List Step) (x:Int) (many:Nat) :
  reuL (xs.map f) x many=(reuL xs x many).map f:=by
 rw [reuL,Zxh hop har,Zvb hop hin har,reuL]
 split
 ·rfl
 ·rename_i hq
  obtain ⟨_,_,s,h3,_,h5⟩:=Z5g (fun z=>hq (.inr z))
  have e:gSt (xs.map f) (Z3g xs many)=f (gSt xs (Z3g xs many)):=by rw [gSt,List.getElem?_map,h3,h5];rfl
  rw [e,List.map_set,List.map_set,hc,hi]
theorem Zy3 {ds:List Decl} {K:List Int} {b:Block} {x:Int} {many:Nat}:ruB ds K (reuA b x many)=reuA (ruB ds K b) x many:=by
 rw [reuA,ruB,reuA,Znx,Zg6,Zg6]
 show Block.mk _ _=Block.mk (reuL (b.steps.map (ruS ds K)) x many) b.result
 rw [Z010 (f:=ruS ds K) (fun s=>by rw [Zf8];rfl) (fun s=>by rw [Zf8];rfl) (fun s=>by rw [Zf8];rfl) (fun x=>by rw [Zf8];rfl) (fun v s=>by rw [Zf8,Zf8];rfl)]
end Go.Abs
end
section
namespace Go.Abs
def cn1 (op:Int) (c:List Int):List Int:=if Z0q op=true then c.set (op-14).toNat (gI c (op-14)+1) else c
mutual
def cnS:Step→List Int→List Int
 | .mk op _ _ _ kids,c=>cnBs kids (cn1 op c)
def cnBs:List Block→List Int→List Int
 | [],c=>c
 | b::r,c=>cnBs r (cnB b c)
def cnSs:List Step→List Int→List Int
 | [],c=>c
 | s::r,c=>cnSs r (cnS s c)
def cnB:Block→List Int→List Int
 | .mk steps _,c=>cnSs steps c
end
theorem Z05m (s:Step) (c:List Int):cnS s c=cnBs s.kids (cn1 s.op c):=by cases s;rw [cnS];rfl
theorem Z01z (b:Block) (c:List Int):cnB b c=cnSs b.steps c:=by cases b;rw [cnB];rfl
theorem Z022 {xs:List Step} {k:Nat} {s:Step} {c r:List Int} (h:xs[k]? = some s) (ha:cnSs (xs.drop k) c=r):cnSs (xs.drop (k+1)) (cnBs s.kids (cn1 s.op c))=r:=by
 rw [Z5 h,cnSs,Z05m] at ha;exact ha
theorem Zv5 {xs:List Step} {k:Nat} {c r:List Int} (h:xs.length≤k) (ha:cnSs (xs.drop k) c=r):c=r:=by
 rw [Zt h,cnSs] at ha;exact ha
theorem Z020 {xs:List Block} {k:Nat} {s:Block} {c r:List Int} (h:xs[k]? = some s) (ha:cnBs (xs.drop k) c=r):cnBs (xs.drop (k+1)) (cnB s c)=r:=by
 rw [Z5 h,cnBs] at ha;exact ha
theorem Zv3 {xs:List Block} {k:Nat} {c r:List Int} (h:xs.length≤k) (ha:cnBs (xs.drop k) c=r):c=r:=by
 rw [Zt h,cnBs] at ha;exact ha
structure CB (c:List Int) (q:Int):Prop where
 len:c.length=4
 bd:∀x∈c,0≤x∧x≤q
theorem CB.le {c:List Int} {q p:Int} (h:CB c q) (hq:q≤p):CB c p:=⟨h.len,fun x hx=>by have:=h.bd x hx;omega⟩
theorem CB.at {c:List Int} {q:Int} (h:CB c q) {i:Int} (hi:i.toNat<4):0≤gI c i∧gI c i≤q:=h.bd _ (by rw [gI,List.getElem?_eq_getElem (by rw [h.len];exact hi)];exact List.getElem_mem _)
theorem CB.one {c:List Int} {q:Int} (h:CB c q) (_:0≤q) (op:Int):CB (cn1 op c) (q+1):=by
 rw [cn1]
 split
 ·rename_i ho
  have ho':14≤op∧op≤17:=by simpa [Z0q] using ho
  refine ⟨by rw [List.length_set];exact h.len,fun x hx=>?_⟩
  rcases Z33 hx with hx|rfl
  ·have:=h.bd x hx;omega
  ·have:=h.at (i:=op-14) om;omega
 ·exact h.le om
mutual
theorem CB.s:∀(s:Step) {c:List Int} {q:Int},CB c q→0≤q→CB (cnS s c) (q+s.sz)
 | .mk op num into args kids,c,q,h,hq=>by
  have:=CB.bs kids (h.one hq op) om
  rw [cnS,Step.sz];exact this.le om
theorem CB.bs:∀(bs:List Block) {c:List Int} {q:Int},CB c q→0≤q→CB (cnBs bs c) (q+bsz bs)
 | [],c,q,h,hq=>by rw [cnBs,bsz];exact h.le om
 | b::r,c,q,h,hq=>by
  have:=CB.bs r (CB.b b h hq) om
  rw [cnBs,bsz];exact this.le om
theorem CB.ss:∀(xs:List Step) {c:List Int} {q:Int},CB c q→0≤q→CB (cnSs xs c) (q+ssz xs)
 | [],c,q,h,hq=>by rw [cnSs,ssz];exact h.le om
 | s::r,c,q,h,hq=>by
  have:=CB.ss r (CB.s s h hq) om
  rw [cnSs,ssz];exact this.le om
theorem CB.b:∀(b:Block) {c:List Int} {q:Int},CB c q→0≤q→CB (cnB b c) (q+b.sz)
 | .mk steps result,c,q,h,hq=>by
  have:=CB.ss steps h hq
  rw [cnB,Block.sz];exact this.le om
end
mutual
def nrS:Step→Prop
 | .mk op _ _ _ kids=>op≠17∧nrBs kids
def nrBs:List Block→Prop
 | []=>True
 | b::r=>nrB b∧nrBs r
def nrSs:List Step→Prop
 | []=>True
 | s::r=>nrS s∧nrSs r
def nrB:Block→Prop
 | .mk steps _=>nrSs steps
end
theorem Z026 (s:Step):nrS s↔s.op≠17∧nrBs s.kids:=by cases s;rw [nrS];rfl
theorem Zxa (b:Block):nrB b↔nrSs b.steps:=by cases b;rw [nrB];rfl
theorem Zl4:∀{xs:List Step},nrSs xs↔∀s∈xs,nrS s
 | []=>by simp [nrSs]
 | s::r=>by rw [nrSs,Zl4];simp
theorem Zr8:∀{xs:List Block},nrBs xs↔∀s∈xs,nrB s
 | []=>by simp [nrBs]
 | s::r=>by rw [nrBs,Zr8];simp
theorem Z02w (op:Int) (c:List Int):(cn1 op c).length=c.length:=by rw [cn1];split<;>simp
theorem Zv1 {op:Int} {c:List Int} (hl:c.length=4):gI c 3≤gI (cn1 op c) 3∧(gI (cn1 op c) 3=gI c 3→op≠17):=by
 rw [cn1]
 split
 ·rename_i ho
  have ho':14≤op∧op≤17:=by simpa [Z0q] using ho
  by_cases h:op=17
  ·subst h
   rw [Z5j (x:=17-14) (j:=3) om om]
   show gI c 3≤gI c 3+1∧_
   refine ⟨by omega,fun e=>?_⟩
   have:gI c 3+1=gI c 3:=e
   omega
  ·rw [Z4u om];exact ⟨Int.le_refl _,fun _=>h⟩
 ·rename_i ho
  exact ⟨Int.le_refl _,fun _ h=>ho (by rw [h];rfl)⟩
mutual
theorem Zv6:∀(s:Step) {c:List Int},c.length=4→(cnS s c).length=4∧gI c 3≤gI (cnS s c) 3∧(gI (cnS s c) 3=gI c 3→nrS s)
 | .mk op num into args kids,c,hl=>by
  have h1:=Zv1 (op:=op) hl
  obtain ⟨h2,h3,h4⟩:=Zj0 kids (c:=cn1 op c) (by rw [Z02w];exact hl)
  rw [cnS,nrS]
  exact ⟨h2,by omega,fun e=>⟨h1.2 om,h4 om⟩⟩
theorem Zj0:∀(bs:List Block) {c:List Int},c.length=4→(cnBs bs c).length=4∧gI c 3≤gI (cnBs bs c) 3∧(gI (cnBs bs c) 3=gI c 3→nrBs bs)
 | [],c,hl=>by rw [cnBs,nrBs];exact ⟨hl,Int.le_refl _,fun _=>True.intro⟩
 | b::r,c,hl=>by
  obtain ⟨h2,h3,h4⟩:=Zmd b hl
  obtain ⟨h5,h6,h7⟩:=Zj0 r h2
  rw [cnBs,nrBs]
  exact ⟨h5,by omega,fun e=>⟨h4 om,h7 om⟩⟩
theorem Zj1:∀(xs:List Step) {c:List Int},c.length=4→(cnSs xs c).length=4∧gI c 3≤gI (cnSs xs c) 3∧(gI (cnSs xs c) 3=gI c 3→nrSs xs)
 | [],c,hl=>by rw [cnSs,nrSs];exact ⟨hl,Int.le_refl _,fun _=>True.intro⟩
 | b::r,c,hl=>by
  obtain ⟨h2,h3,h4⟩:=Zv6 b hl
  obtain ⟨h5,h6,h7⟩:=Zj1 r h2
  rw [cnSs,nrSs]
  exact ⟨h5,by omega,fun e=>⟨h4 om,h7 om⟩⟩
theorem Zmd:∀(b:Block) {c:List Int},c.length=4→(cnB b c).length=4∧gI c 3≤gI (cnB b c) 3∧(gI (cnB b c) 3=gI c 3→nrB b)
 | .mk steps result,c,hl=>by rw [cnB,nrB];exact Zj1 steps hl
end
def cnRs:List Routine→List Int→List Int
 | [],c=>c
 | r::rs,c=>cnRs rs (cnB r.body c)
theorem Z021 {xs:List Routine} {k:Nat} {s:Routine} {c r:List Int} (h:xs[k]? = some s) (ha:cnRs (xs.drop k) c=r):cnRs (xs.drop (k+1)) (cnB s.body c)=r:=by
 rw [Z5 h,cnRs] at ha;exact ha
theorem Zv4 {xs:List Routine} {k:Nat} {c r:List Int} (h:xs.length≤k) (ha:cnRs (xs.drop k) c=r):c=r:=by
 rw [Zt h,cnRs] at ha;exact ha
theorem Zaf:∀(rs:List Routine) {c:List Int},c.length=4→(cnRs rs c).length=4∧gI c 3≤gI (cnRs rs c) 3∧(gI (cnRs rs c) 3=gI c 3→∀r∈rs,nrB r.body)
 | [],c,hl=>by rw [cnRs];exact ⟨hl,Int.le_refl _,fun _ r hr=>by cases hr⟩
 | r::rs,c,hl=>by
  obtain ⟨h2,h3,h4⟩:=Zmd r.body hl
  obtain ⟨h5,h6,h7⟩:=Zaf rs h2
  rw [cnRs]
  refine ⟨h5,by omega,fun e q hq=>?_⟩
  rcases List.mem_cons.1 hq with rfl|hq
  ·exact h4 om
  ·exact h7 om q hq
def cntN (n:Normal):List Int:=cnRs n.routines [0,0,0,0]
theorem Z02x {n:Normal} (h:¬gI (cntN n) 3>0):∀r∈n.routines,nrB r.body:=by
 obtain ⟨h1,h2,h3⟩:=Zaf n.routines (c:=[0,0,0,0]) rfl
 have e:gI [0,0,0,0] 3=0:=rfl
 have h':¬gI (cnRs n.routines [0,0,0,0]) 3>0:=h
 exact h3 om
theorem Zq4:∀{xs:List Step} {i:Nat} {s:Step} (t:Step),xs[i]? = some s→ssz (xs.set i t)+s.sz=ssz xs+t.sz
 | [],_,_,_,h=>by simp at h
 | x::r,0,s,t,h=>by simp at h;subst h;rw [List.set_cons_zero,ssz,ssz];omega
 | x::r,i+1,s,t,h=>by
  have:=Zq4 (xs:=r) (i:=i) t (by simpa using h)
  rw [List.set_cons_succ,ssz,ssz];omega
theorem Zl9:∀{xs:List Step} {i:Nat} {s:Step} (t:Step),xs[i]? = some s→pzSs (xs.set i t)+s.pz=pzSs xs+t.pz
 | [],_,_,_,h=>by simp at h
 | x::r,0,s,t,h=>by simp at h;subst h;rw [List.set_cons_zero,pzSs,pzSs];omega
 | x::r,i+1,s,t,h=>by
  have:=Zl9 (xs:=r) (i:=i) t (by simpa using h)
  rw [List.set_cons_succ,pzSs,pzSs];omega
theorem Z00e (v:Int) (s:Step):(Z73 v s).sz=s.sz:=by cases s;rw [Z73,Step.sz,Step.sz];rfl
theorem Z00d (v:Int) (s:Step):(Z73 v s).pz=s.pz:=by cases s;rw [Z73,Step.pz,Step.pz];rfl
theorem Zmh {xs:List Step} {x:Int} {many:Nat} (h:¬(Z4b xs x<0∨Z3g xs many<0)):(Z4b xs x).toNat<(Z3g xs many).toNat:=by
 obtain ⟨h1,h2,_⟩:=Z6i (fun z=>h (.inl z))
 obtain ⟨h3,h4,_⟩:=Z5g (fun z=>h (.inr z))
 omega
theorem Zap {xs:List Step} {x:Int} {many:Nat} (h:¬(Z4b xs x<0∨Z3g xs many<0)) {t:Step} {s:Step} (hs:xs[(Z3g xs many).toNat]? = some s):(xs.set (Z4b xs x).toNat t)[(Z3g xs many).toNat]? = some s:=by
 have:=Zmh h
 rw [List.getElem?_set_ne om];exact hs
theorem Zxw {xs:List Step} {x:Int} {many:Nat} (h:∀s∈xs,Z0q s.op=true→2≤s.sz):ssz (reuL xs x many)≤ssz xs:=by
 rw [reuL]
 split
 ·exact Nat.le_refl _
 ·rename_i hq
  obtain ⟨_,_,s,h3,h4,_⟩:=Z6i (fun z=>hq (.inl z))
  obtain ⟨_,_,t,h5,_,h6⟩:=Z5g (fun z=>hq (.inr z))
  have e1:=Zq4 (cntS 17 x) h3
  have e2:=Zq4 (Z73 (1+x) (gSt xs (Z3g xs many))) (Zap hq (t:=cntS 17 x) h5)
  have h7:=h s (List.mem_of_getElem? h3) (by rw [h4];rfl)
  rw [Zv8] at e1
  rw [Z00e,h6] at e2
  rw [h6]
  omega
section
variable {ds:List Decl}
theorem Z048 {xs:List Step} {x:Int} {many:Nat} (h:wSs ds xs):pzSs (reuL xs x many)=pzSs xs:=by
 rw [reuL]
 split
 ·rfl
 ·rename_i hq
  obtain ⟨_,_,s,h3,h4,_⟩:=Z6i (fun z=>hq (.inl z))
  obtain ⟨_,_,t,h5,_,h6⟩:=Z5g (fun z=>hq (.inr z))
  have e1:=Zl9 (cntS 17 x) h3
  have e2:=Zl9 (Z73 (1+x) (gSt xs (Z3g xs many))) (Zap hq (t:=cntS 17 x) h5)
  have h7:=Zs4 h s (List.mem_of_getElem? h3) (by rw [h4];rfl)
  have h8:s.pz=2:=by rw [h7,Zv7]
  rw [Zv7] at e1
  rw [Z00d,h6] at e2
  rw [h6]
  omega
theorem Z046 {b:Block} {x:Int} {many:Nat} (h:wB ds b):(reuA b x many).pz=b.pz:=by
 rw [reuA,Block.pz,Z048 ((Zlv b).1 h),b.pz_eq]
theorem Z051 {v:Int} {s:Step} (h:wS ds s) (h6:s.op=6):wS ds (Z73 v s):=by
 obtain ⟨h1,h2,h3,h4⟩:=(Zu9 s).1 h
 exact (Zu9 _).2 ⟨h1,fun hc=>absurd hc (by show ¬Z0q s.op=true;rw [h6];decide),h3,h4⟩
theorem Z01s {v:Int}:wS ds (cntS 17 v):=(Zu9 _).2 ⟨rfl,fun _=>⟨rfl,rfl,rfl,v,rfl⟩,fun e=>absurd e (show (17:Int)≠8 by decide),True.intro⟩
theorem Z06o {xs:List Step} {x:Int} {many:Nat} (h:wSs ds xs):wSs ds (reuL xs x many):=by
 rw [reuL]
 split
 ·exact h
 ·rename_i hq
  obtain ⟨_,_,t,h5,h7,h6⟩:=Z5g (fun z=>hq (.inr z))
  rw [Zc2]
  intro s hs
  rcases List.mem_or_eq_of_mem_set hs with hs|rfl
  ·rcases List.mem_or_eq_of_mem_set hs with hs|rfl
   ·exact Zc2.1 h s hs
   ·exact Z01s
  ·rw [h6];exact Z051 (Zc2.1 h t (List.mem_of_getElem? h5)) h7.1.1
theorem Z02c {b:Block} {x:Int} {many:Nat} (h:wB ds b):wB ds (reuA b x many):=by rw [reuA,Zlv];exact Z06o ((Zlv b).1 h)
theorem Z03y {xs:List Step} {x:Int} (h:wSs ds xs) (ho:¬Z4b xs x<0):xs[(Z4b xs x).toNat]? = some (cntS 16 x):=by
 obtain ⟨_,_,s,h3,h4,h5⟩:=Z6i ho
 have h6:=Zs4 h s (List.mem_of_getElem? h3) (by rw [h4];rfl)
 rw [h3,h6,h4,h5]
variable (hd:DOk ds)
mutual
theorem Z06a:∀(s:Step) {K:List Int},wS ds s→(ruS ds K s).sz≤s.sz
 | .mk op num into args kids,K,h=>by
  have:=Zy7 kids (K:=K) (op:=op) (num:=num) (args:=args) (k:=0) h.2.2.2
  rw [ruS,Step.sz,Step.sz];omega
theorem Zy7:∀(bs:List Block) {K:List Int} {op num:Int} {args:List Int} {k:Nat},wBs ds bs→bsz (ruKs ds K op num args bs k)≤bsz bs
 | [],_,_,_,_,_,_=>Nat.le_refl _
 | b::r,K,op,num,args,k,h=>by
  have h2:=Zy7 r (K:=K) (op:=op) (num:=num) (args:=args) (k:=k+1) h.2
  have key:∀K2:List Int,(reuA (ruB ds K2 b) (gI args 0) (Z3w ds num k).length).sz≤b.sz:=fun K2=>by
   have h1:=Zy4 b (K:=K2) h.1
   have h3:=Zxw (xs:=(ruB ds K2 b).steps) (x:=gI args 0) (many:=(Z3w ds num k).length) (by
    rw [Znx,Zg6]
    intro s hs hc
    obtain ⟨t,ht,rfl⟩:=List.mem_map.1 hs
    rw [Zf8] at hc ⊢
    obtain ⟨_,_,a,ha⟩:=Z02e (Zc2.1 ((Zlv b).1 h.1) t ht) hc
    rw [Step.sz,ha];simp)
   rw [reuA,Block.sz]
   rw [Block.sz_eq] at h1
   omega
  rw [ruKs,bsz,bsz]
  split
  ·have:=key (if Z4b b.steps (gI args 0)<0∨Z3g b.steps (Z3w ds num k).length<0 then K else gI args 0::K)
   omega
  ·have:=Zy4 b (K:=K) h.1
   omega
theorem Zy9:∀(xs:List Step) {K:List Int},wSs ds xs→ssz (ruSs ds K xs)≤ssz xs
 | [],_,_=>Nat.le_refl _
 | s::r,K,h=>by
  have h1:=Z06a s (K:=K) h.1
  have h2:=Zy9 r (K:=K) h.2
  rw [ruSs,ssz,ssz];omega
theorem Zy4:∀(b:Block) {K:List Int},wB ds b→(ruB ds K b).sz≤b.sz
 | .mk steps result,K,h=>by
  have:=Zy9 steps (K:=K) h
  rw [ruB,Block.sz,Block.sz];omega
end
end
theorem Zh9:∀{xs:List Step} {i:Nat} {s t:Step},xs[i]? = some s→Z0q t.op=Z0q s.op→Zm (xs.set i t)=Zm xs
 | [],_,_,_,h,_=>by simp at h
 | x::r,0,s,t,h,e=>by simp at h;subst h;rw [List.set_cons_zero,Zm,Zm,e]
 | x::r,i+1,s,t,h,e=>by
  rw [List.set_cons_succ,Zm,Zm,Zh9 (xs:=r) (i:=i) (by simpa using h) e]
theorem Z00k {xs:List Step} {x:Int} {many:Nat}:Zm (reuL xs x many)=Zm xs:=by
 rw [reuL]
 split
 ·rfl
 ·rename_i hq
  obtain ⟨_,_,s,h3,h4,_⟩:=Z6i (fun z=>hq (.inl z))
  obtain ⟨_,_,t,h5,_,h6⟩:=Z5g (fun z=>hq (.inr z))
  rw [Zh9 (Zap hq (t:=cntS 17 x) h5) (by rw [h6];rfl),Zh9 h3 (by rw [h4];rfl)]
theorem Zqh {op x:Int}:∀{xs:List Step} {k:Int},(∀s∈xs,s.op≠op)→atF op x xs k=-1
 | [],_,_=>rfl
 | s::r,k,h=>by
  rw [atF,if_neg (fun z=>h s (List.mem_cons_self ..) z.1)]
  exact Zqh fun t ht=>h t (List.mem_cons_of_mem _ ht)
theorem Zqi {op x:Int}:∀{xs:List Step} {k:Int},0≤k→(∃s∈xs,s.op=op∧gI s.args 0=x)→0≤atF op x xs k
 | [],_,_,h=>by obtain ⟨s,hs,_⟩:=h;cases hs
 | s::r,k,hk,h=>by
  rw [atF]
  split
  ·exact hk
  ·rename_i q
   obtain ⟨t,ht,h1⟩:=h
   rcases List.mem_cons.1 ht with rfl|ht
   ·exact absurd h1 q
   ·exact Zqi om ⟨t,ht,h1⟩
theorem told {xs:List Step} {x:Int} {many:Nat} (hn:nrSs xs):0≤atF 17 x ((reuL xs x many).take (Zm (reuL xs x many))) 0↔¬(Z4b xs x<0∨Z3g xs many<0):=by
 rw [Z00k]
 constructor
 ·intro h hq
  rw [reuL,if_pos hq,Zqh (fun s hs=>((Z026 s).1 (Zl4.1 hn s (List.mem_of_mem_take hs))).1)] at h
  omega
 ·intro hq
  obtain ⟨h1,h2,s,h3,h4,_⟩:=Z6i (fun z=>hq (.inl z))
  have hap:=Zmh hq
  refine Zqi (Int.le_refl 0) ⟨cntS 17 x,?_,rfl,rfl⟩
  rw [reuL,if_neg hq]
  refine List.mem_of_getElem? (i:=(Z4b xs x).toNat) ?_
  rw [List.getElem?_take_of_lt om,List.getElem?_set_ne om,List.getElem?_set_self (List.getElem?_eq_some_iff.1 h3).1]
def nrk (b:Block):Prop:=∀s∈b.steps,nrBs s.kids
theorem Zpp {b:Block} (h:nrB b):nrk b:=fun s hs=>((Z026 s).1 (Zl4.1 ((Zxa b).1 h) s hs)).2
theorem Z061 {b:Block} {k j:Nat} {s:Step} {c:Block} (h:nrk b) (hs:b.steps[k]? = some s) (hc:s.kids[j]? = some c):nrB c:=Zr8.1 (h s (List.mem_of_getElem? hs)) c (List.mem_of_getElem? hc)
theorem Zxb {b:Block} {x:Int} {many:Nat} (h:nrB b):nrk (reuA b x many):=by
 intro s hs
 have hs:s∈reuL b.steps x many:=hs
 rw [reuL] at hs
 split at hs
 ·exact Zpp h s hs
 ·rename_i hq
  obtain ⟨_,_,t,h5,_,h6⟩:=Z5g (fun z=>hq (.inr z))
  rcases List.mem_or_eq_of_mem_set hs with hs|rfl
  ·rcases List.mem_or_eq_of_mem_set hs with hs|rfl
   ·exact Zpp h s hs
   ·exact True.intro
  ·rw [h6];exact Zpp h t (List.mem_of_getElem? h5)
theorem Z047 {ds:List Decl} {b:Block} {x:Int} {many:Nat} (h:wB ds b):(reuA b x many).sz≤b.sz:=by
 have:=Zxw (xs:=b.steps) (x:=x) (many:=many) fun s hs hc=>by
  have h7:=Zs4 ((Zlv b).1 h) s hs hc
  rw [h7,Zv8];omega
 rw [reuA,Block.sz,b.sz_eq];omega
def ruR (ds:List Decl) (r:Routine):Routine:=⟨r.params,r.lent,r.result,ruB ds [] r.body⟩
def ruN (n:Normal):Normal:=⟨n.decls,n.routines.map (ruR n.decls)⟩
def reuF (n:Normal):Normal × Bool:=if Z1x n=true∧¬gI (cntN n) 3>0 then (ruN n,true) else (noN,false)
end Go.Abs
end
section
namespace Go.Abs
theorem Zji {xs:List Step} {k:Nat} {s:Step} {r:Nat} (h:xs[k]? = some s) (hs:Z0q s.op=true) (ha:k+Zm (xs.drop k)=r):k+1+Zm (xs.drop (k+1))=r:=by
 rw [Z5 h,Zm,if_pos hs] at ha;omega
theorem Zjj {xs:List Step} {k:Nat} {s:Step} {r:Nat} (h:xs[k]? = some s) (hs:¬Z0q s.op=true) (ha:k+Zm (xs.drop k)=r):k=r:=by
 rw [Z5 h,Zm,if_neg hs] at ha;omega
theorem Znc {xs:List Step} {k:Nat} {r:Nat} (h:xs.length≤k) (ha:k+Zm (xs.drop k)=r):k=r:=by
 rw [Zt h,Zm] at ha;omega
theorem Zqj {op x:Int} {xs:List Step} {k:Nat} {s:Step} {r:Int} (h:xs[k]? = some s) (hs:s.op=op∧gI s.args 0=x) (ha:atF op x (xs.drop k) k=r):(k:Int)=r:=by
 rw [Z5 h,atF,if_pos hs] at ha;exact ha
theorem Zkb {op x:Int} {xs:List Step} {k:Nat} {s:Step} {r:Int} (h:xs[k]? = some s) (hs:¬(s.op=op∧gI s.args 0=x)) (ha:atF op x (xs.drop k) k=r):atF op x (xs.drop (k+1)) ((k+1:Nat):Int)=r:=by
 rw [Z5 h,atF,if_neg hs] at ha;rw [←ha];congr 1
theorem Zum {op x:Int} {xs:List Step} {k:Nat} {r:Int} (h:xs.length≤k) (ha:atF op x (xs.drop k) k=r):-1=r:=by
 rw [Zt h,atF] at ha;exact ha
theorem Zmf {many:Nat} {xs:List Step} {k:Nat} {s:Step} {r:Int} (h:xs[k]? = some s) (hs:conB many s) (ha:conF many (xs.drop k) k=r):(k:Int)=r:=by
 rw [Z5 h,conF,if_pos hs] at ha;exact ha
theorem Zme {many:Nat} {xs:List Step} {k:Nat} {s:Step} {r:Int} (h:xs[k]? = some s) (hs:¬conB many s) (ha:conF many (xs.drop k) k=r):conF many (xs.drop (k+1)) ((k+1:Nat):Int)=r:=by
 rw [Z5 h,conF,if_neg hs] at ha;rw [←ha];congr 1
theorem Zqq {many:Nat} {xs:List Step} {k:Nat} {r:Int} (h:xs.length≤k) (ha:conF many (xs.drop k) k=r):-1=r:=by
 rw [Zt h,conF] at ha;exact ha
theorem Zxv {xs:List Step} {x:Int} {many:Nat} (h:Z4b xs x<0∨Z3g xs many<0):reuL xs x many=xs:=if_pos h
theorem Zrh {xs:List Step} {x:Int} {many:Nat} {s:Step} (h:¬(Z4b xs x<0∨Z3g xs many<0)) (hs:gSt xs (Z3g xs many)=s):(xs.set (Z4b xs x).toNat (cntS 17 x)).set (Z3g xs many).toNat (Z73 (1+x) s)=reuL xs x many:=by
 rw [reuL,if_neg h,hs]
theorem Z4h (xs:List Step):(flat (Zo xs)).length=xs.length*5:=by rw [Z1f _ (Z57 _)];simp
theorem Z8l (s:Step) (r:List Step):flat (Zo (s::r))=Z02 s++flat (Zo r):=by rw [Z31,Z31];rfl
theorem Zsy {xs:List Step} {k:Nat} {x:Step} (h:xs[k]? = some x):flat (Zo (xs.take k))++flat [Z0g x]=flat (Zo (xs.take (k+1))):=by
 rw [Z1l h,Z4p,Z2q,Z8l]
 have:flat (Zo [])=[]:=by rw [Z31];rfl
 rw [this];rfl
theorem Z92 {xs:List Step} {i:Nat} {s:Step} (h:xs[i]? = some s):flat (Zo xs)=flat (Zo (xs.take i))++(Z02 s++flat (Zo (xs.drop (i+1)))):=by
 have hi:=(List.getElem?_eq_some_iff.1 h).1
 have e:xs=xs.take i++(s::xs.drop (i+1)):=by rw [←Z5 h,List.take_append_drop]
 conv=>lhs;rw [e,Z4p,Z2q,Z8l]
theorem Zmv {xs:List Step} {i:Nat} {s t:Step} (h:xs[i]? = some s):(flat (Zo xs)).take (i*5)++Z02 t++(flat (Zo xs)).drop (i*5+(Z02 t).length)=flat (Zo (xs.set i t)):=by
 have hi:=(List.getElem?_eq_some_iff.1 h).1
 have hl:(flat (Zo (xs.take i))).length=i*5:=by rw [Z4h,List.length_take,Nat.min_eq_left om]
 rw [Z92 h,Z6q (xs:=Z02 s) (ys:=Z02 t) hl rfl]
 have e:xs.set i t=xs.take i++(t::xs.drop (i+1)):=by rw [List.set_eq_take_append_cons_drop,if_pos hi]
 rw [e,Z4p,Z2q,Z8l]
theorem Zw0 {xs:List Step} {i:Nat} {s:Step} (h:xs[i]? = some s):((flat (Zo xs)).drop (i*5)).take (Z02 s).length=Z02 s:=by
 have hi:=(List.getElem?_eq_some_iff.1 h).1
 have hl:(flat (Zo (xs.take i))).length=i*5:=by rw [Z4h,List.length_take,Nat.min_eq_left om]
 rw [Z92 h]
 exact Zld hl
theorem Z002 {xs:List Step} {i:Nat} {s:Step} (v:Int) (h:xs[i]? = some s):(flat (Zo xs)).take (i*5)++[.i v]++(flat (Zo xs)).drop (i*5+1)=flat (Zo (xs.set i (.mk v s.num s.into s.args s.kids))):=by
 have hi:=(List.getElem?_eq_some_iff.1 h).1
 have hl:(flat (Zo (xs.take i))).length=i*5:=by rw [Z4h,List.length_take,Nat.min_eq_left om]
 have e:Z02 s=[.i s.op]++[.i s.num,.i s.into,nInt s.args,Zv s.kids]:=rfl
 rw [Z92 h,e,List.append_assoc [AV.i s.op]]
 have q:=Z6q (A:=flat (Zo (xs.take i))) (xs:=[.i s.op]) (ys:=[.i v]) (B:=[.i s.num,.i s.into,nInt s.args,Zv s.kids]++flat (Zo (xs.drop (i+1)))) hl rfl
 refine q.trans ?_
 have e2:xs.set i (.mk v s.num s.into s.args s.kids)=xs.take i++(.mk v s.num s.into s.args s.kids::xs.drop (i+1)):=by rw [List.set_eq_take_append_cons_drop,if_pos hi]
 rw [e2,Z4p,Z2q,Z8l]
 rfl
theorem Zsx {xs:List Step} {i:Nat} {s:Step} (v:Int) (h:xs[i]? = some s):(flat (Zo xs)).take (i*5+2)++[.i v]++(flat (Zo xs)).drop (i*5+2+1)=flat (Zo (xs.set i (Z73 v s))):=by
 have hi:=(List.getElem?_eq_some_iff.1 h).1
 have hl:(flat (Zo (xs.take i))).length=i*5:=by rw [Z4h,List.length_take,Nat.min_eq_left om]
 have e:Z02 s=[.i s.op,.i s.num]++([.i s.into]++[nInt s.args,Zv s.kids]):=rfl
 rw [Z92 h,e,List.append_assoc [AV.i s.op,.i s.num],←List.append_assoc (flat (Zo (xs.take i)))]
 have q:=Z6q (A:=flat (Zo (xs.take i))++[.i s.op,.i s.num]) (xs:=[.i s.into]) (ys:=[.i v]) (B:=[nInt s.args,Zv s.kids]++flat (Zo (xs.drop (i+1)))) (o:=i*5+2) (by simp [hl]) rfl
 rw [List.append_assoc [AV.i s.into]]
 refine q.trans ?_
 have e2:xs.set i (Z73 v s)=xs.take i++(Z73 v s::xs.drop (i+1)):=by rw [List.set_eq_take_append_cons_drop,if_pos hi]
 rw [e2,Z4p,Z2q,Z8l,List.append_assoc]
 rfl
structure InsI (xs:List Int) (v:Int) (k:Nat) (acc:List Int) (d:Bool):Prop where
 len:acc.length≤k+(if d=true then 1 else 0)
 sub:∀z∈acc,z∈xs.take k∨z=v
 all:∀z∈xs.take k,z∈acc
 done:d=true→v∈acc
theorem InsI.zero (xs:List Int) (v:Int):InsI xs v 0 [] false:=⟨by simp,by simp,by simp,by simp⟩
theorem InsI.step {xs:List Int} {v:Int} {k:Nat} {acc:List Int} {d:Bool} {x:Int} (h:InsI xs v k acc d) (hx:xs[k]? = some x) {acc2:List Int} {d2:Bool}
  (hc:(acc2=acc++[x]∧d2=d)∨(acc2=(acc++[v])++[x]∧d2=true∧¬d=true)∨(acc2=acc++[x]∧d2=true∧x=v)):InsI xs v (k+1) acc2 d2:=by
 obtain ⟨h1,h2,h3,h4⟩:=h
 have ht:∀z,z∈xs.take (k+1)↔z∈xs.take k∨z=x:=fun z=>by rw [Z1l hx];simp
 rcases hc with ⟨rfl,rfl⟩|⟨rfl,rfl,hd⟩|⟨rfl,rfl,rfl⟩
 ·refine ⟨by simp;omega,fun z hz=>?_,fun z hz=>?_,fun q=>List.mem_append_left _ (h4 q)⟩
  ·rw [ht]
   rcases List.mem_append.1 hz with hz|hz
   ·rcases h2 z hz with q|q
    ·exact .inl (.inl q)
    ·exact .inr q
   ·exact .inl (.inr (List.mem_singleton.1 hz))
  ·rcases (ht z).1 hz with q|q
   ·exact List.mem_append_left _ (h3 z q)
   ·subst q;simp
 ·rw [if_neg hd] at h1
  refine ⟨by simp;omega,fun z hz=>?_,fun z hz=>?_,fun _=>by simp⟩
  ·rw [ht]
   simp only [List.mem_append,List.mem_singleton] at hz
   rcases hz with (hz|hz)|hz
   ·rcases h2 z hz with q|q
    ·exact .inl (.inl q)
    ·exact .inr q
   ·exact .inr hz
   ·exact .inl (.inr hz)
  ·rcases (ht z).1 hz with q|q
   ·exact List.mem_append_left _ (List.mem_append_left _ (h3 z q))
   ·subst q;simp
 ·refine ⟨by simp;split at h1<;>omega,fun z hz=>?_,fun z hz=>?_,fun _=>by simp⟩
  ·rw [ht]
   rcases List.mem_append.1 hz with hz|hz
   ·rcases h2 z hz with q|q
    ·exact .inl (.inl q)
    ·exact .inr q
   ·exact .inl (.inr (List.mem_singleton.1 hz))
  ·rcases (ht z).1 hz with q|q
   ·exact List.mem_append_left _ (h3 z q)
   ·subst q;simp
theorem InsI.fin {xs:List Int} {v:Int} {k:Nat} {acc:List Int} {d:Bool} (h:InsI xs v k acc d) (hk:k=xs.length) :
  (d=true→acc.length≤xs.length+1∧∀z,z∈acc↔z∈xs∨z=v)∧(¬d=true→(acc++[v]).length≤xs.length+1∧∀z,z∈acc++[v]↔z∈xs∨z=v):=by
 obtain ⟨h1,h2,h3,h4⟩:=h
 subst hk
 rw [List.take_length] at h2 h3
 refine ⟨fun hd=>?_,fun hd=>?_⟩
 ·rw [if_pos hd] at h1
  exact ⟨h1,fun z=>⟨h2 z,fun q=>q.elim (h3 z) fun e=>e▸h4 hd⟩⟩
 ·rw [if_neg hd] at h1
  refine ⟨by simp;omega,fun z=>?_⟩
  rw [List.mem_append,List.mem_singleton]
  exact ⟨fun q=>q.elim (h2 z) .inr,fun q=>q.elim (fun e=>.inl (h3 z e)) .inr⟩
end Go.Abs
namespace Go.Abs
theorem InsI.go {xs:List Int} {v:Int} {k:Nat} {acc:List Int} {d:Bool} {x:Int} (h:InsI xs v k acc d) (hx:xs[k]? = some x) {acc2:List Int} {d2:Bool}
  (hc:(acc2=acc∧d2=d)∨(acc2=acc++[v]∧d2=true∧¬d=true)∨(acc2=acc∧d2=true∧x=v)):InsI xs v (k+1) (acc2++[x]) d2:=by
 refine h.step hx ?_
 rcases hc with ⟨e1,e2⟩|⟨e1,e2,e3⟩|⟨e1,e2,e3⟩
 ·exact .inl ⟨by rw [e1],e2⟩
 ·exact .inr (.inl ⟨by rw [e1],e2,e3⟩)
 ·exact .inr (.inr ⟨by rw [e1],e2,e3⟩)
section
variable {ds:List Decl} {kept K2:List Int} {op num x:Int} {args:List Int} {j many:Nat} {kd:Block}
theorem Z028 (h8:op=8) (hx:gI args 0=x) (hk:¬x∈kept) (hm:(Z3w ds num j).length=many) (hq:¬(Z4b kd.steps x<0∨Z3g kd.steps many<0)) (hK:∀z,z∈K2↔z∈kept∨z=x):ruB ds K2 (reuA kd x many)=ruK ds kept op num args j kd:=by
 subst hx hm
 have e:∀z,z∈K2↔z∈gI args 0::kept:=fun z=>by rw [hK z,List.mem_cons];exact Or.comm
 rw [ruK,if_pos ⟨h8,hk⟩,Z00h,if_neg hq,Zy3,Zhm kd e]
theorem Zy6 (h8:op=8) (hx:gI args 0=x) (hk:¬x∈kept) (hm:(Z3w ds num j).length=many) (hq:Z4b kd.steps x<0∨Z3g kd.steps many<0):ruB ds kept (reuA kd x many)=ruK ds kept op num args j kd:=by
 subst hx hm
 rw [ruK,if_pos ⟨h8,hk⟩,Z00h,if_pos hq,Zy3]
theorem Zef (h:¬(op=8∧¬gI args 0∈kept)):ruB ds kept kd=ruK ds kept op num args j kd:=by rw [ruK,if_neg h]
end
theorem Zv2 {op:Int} {c:List Int} (h:Z0q op=true):cn1 op c=c.set (op-14).toNat (gI c (op-14)+1):=if_pos h
theorem Z01y {op:Int} {c:List Int} (h:¬Z0q op=true):cn1 op c=c:=if_neg h
theorem Zml {op:Int} (h:Z0q op=true):14≤op∧op≤17:=by simpa [Z0q] using h
end Go.Abs
namespace Go.Abs
theorem Zke:∀(xs:List Block) (b:Block),bsz (xs++[b])=bsz xs+b.sz
 | [],b=>by rw [List.nil_append,bsz,bsz,bsz];omega
 | x::r,b=>by rw [List.cons_append,bsz,bsz,Zke r b];omega
theorem Zbf:∀{xs:List Block} {k:Nat} {b:Block},xs[k]? = some b→bsz (xs.take k)+b.sz≤bsz xs
 | [],_,_,h=>by simp at h
 | x::r,0,b,h=>by simp at h;subst h;simp [bsz]
 | x::r,k+1,b,h=>by
  have:=Zbf (xs:=r) (k:=k) (by simpa using h)
  rw [List.take_succ_cons,bsz,bsz];omega
theorem Zez {xs:List Block} {k:Nat} (h:xs.length≤k):bsz (xs.take k)=bsz xs:=by rw [List.take_of_length_le h]
end Go.Abs
end
section
namespace Go.Abs
def Z87 (am:List Arm) (x:Int):Bool:=am.any fun o=>o.chg&&(o.mat==x)
theorem Zn8 {am:List Arm} {x:Int}:Z87 am x=true↔∃o∈am,o.chg=true∧o.mat=x:=by simp [Z87]
theorem Z00g {am:List Arm} {x:Int} (h:∀o∈am,¬(o.chg=true∧o.mat=x)):Z87 am x=false:=by
 rw [Bool.eq_false_iff]
 intro z
 obtain ⟨o,ho,h1⟩:=Zn8.1 z
 exact h o ho h1
def Za4 (am:List Arm) (a:Arm) (b:Block):Prop:=Z87 am a.mat=true∨(Z4b b.steps a.mat<0∨Z3g b.steps a.fds.length<0)
instance (am:List Arm) (a:Arm) (b:Block):Decidable (Za4 am a b):=by unfold Za4;infer_instance
def ruI (am:List Arm) (a:Arm) (b:Block):Block:=if Za4 am a b then b else reuA b a.mat a.fds.length
def armI (am:List Arm) (a:Arm) (b:Block):Arm:=if Za4 am a b then a else ⟨a.mat,a.fst,a.fds,true⟩
theorem Zju {am:List Arm} {a:Arm} {b:Block} (h:Za4 am a b):ruI am a b=b:=if_pos h
theorem Zpw {am:List Arm} {a:Arm} {b:Block} (h:¬Za4 am a b):ruI am a b=reuA b a.mat a.fds.length:=if_neg h
theorem Zou {am:List Arm} {a:Arm} {b:Block} (h:Za4 am a b):armI am a b=a:=if_pos h
theorem Zqe {am:List Arm} {a:Arm} {b:Block} (h:¬Za4 am a b):armI am a b=⟨a.mat,a.fst,a.fds,true⟩:=if_neg h
theorem Zz6 {ds:List Decl} {am:List Arm} {a:Arm} {b:Block} (h:wB ds b):wB ds (ruI am a b):=by
 rw [ruI];split
 ·exact h
 ·exact Z02c h
theorem Zd6 {ds:List Decl} {am:List Arm} {a:Arm} {b:Block} (h:wB ds b):(ruI am a b).pz=b.pz:=by
 rw [ruI];split
 ·rfl
 ·exact Z046 h
theorem Zh5 {am:List Arm} {a:Arm} {b:Block} {kept:List Int} (hk:∀x,x∈kept↔Z87 am x=true) (ha:a.chg=false):∀x,x∈(if Za4 am a b then kept else a.mat::kept)↔Z87 (am++[armI am a b]) x=true:=by
 intro x
 have e:∀o:Arm,Z87 (am++[o]) x=(Z87 am x||(o.chg&&(o.mat==x))):=fun o=>by simp [Z87]
 by_cases h:Za4 am a b
 ·rw [if_pos h,Zou h,e,ha,hk x];simp
 ·rw [if_neg h,Zqe h,e,List.mem_cons,hk x]
  simp only [Bool.true_and,Bool.or_eq_true,beq_iff_eq]
  constructor
  ·rintro (rfl|q)
   ·exact .inr rfl
   ·exact .inl q
  ·rintro (q|q)
   ·exact .inr q
   ·exact .inl q.symm
theorem Zpx {ds:List Decl} {am:List Arm} {kept:List Int} {op num x m:Int} {args fs:List Int} {j:Nat} {kd:Block} (h8:op=8) (hx:gI args 0=x) (hf:Z3w ds num j=fs) (hk:∀x,x∈kept↔Z87 am x=true) :
  ruB ds (if Za4 am ⟨x,m,fs,false⟩ kd then kept else x::kept) (ruI am ⟨x,m,fs,false⟩ kd)=ruK ds kept op num args j kd:=by
 have hm:(Z3w ds num j).length=fs.length:=by rw [hf]
 by_cases h1:Z87 am x=true
 ·have hn:Za4 am ⟨x,m,fs,false⟩ kd:=.inl h1
  rw [if_pos hn,Zju hn]
  exact Zef fun z=>z.2 (by rw [hx];exact (hk x).2 h1)
 ·have hkx:¬x∈kept:=fun z=>h1 ((hk x).1 z)
  by_cases h2:Z4b kd.steps x<0∨Z3g kd.steps fs.length<0
  ·have hn:Za4 am ⟨x,m,fs,false⟩ kd:=.inr h2
   rw [if_pos hn,Zju hn]
   have h3:=Zy6 (ds:=ds) (num:=num) (j:=j) h8 hx hkx hm h2
   have e:reuA kd x fs.length=kd:=by
    rw [reuA,Zxv h2];cases kd;rfl
   rw [e] at h3
   exact h3
  ·have hn:¬Za4 am ⟨x,m,fs,false⟩ kd:=fun z=>z.elim h1 h2
   rw [if_neg hn,Zpw hn]
   exact Z028 h8 hx hkx hm h2 fun z=>by rw [List.mem_cons];exact Or.comm
theorem Z8k (xs:List Arm):(flat (Z14 xs)).length=xs.length*4:=by rw [Z1f _ (Z46 _)];simp
theorem Zpd {xs:List Arm} {i:Nat} {s:Arm} (h:xs[i]? = some s):flat (Z14 xs)=flat (Z14 (xs.take i))++(lArm s++flat (Z14 (xs.drop (i+1)))):=by
 have e:xs=xs.take i++(s::xs.drop (i+1)):=by rw [←Z5 h,List.take_append_drop]
 conv=>lhs;rw [e,Z6d,Z2q]
 rfl
theorem Zms {xs:List Arm} {i:Nat} {s:Arm} (h:xs[i]? = some s):((flat (Z14 xs)).drop (i*4)).take (lArm s).length=lArm s:=by
 have hi:=(List.getElem?_eq_some_iff.1 h).1
 have hl:(flat (Z14 (xs.take i))).length=i*4:=by rw [Z8k,List.length_take,Nat.min_eq_left om]
 rw [Zpd h]
 exact Zld hl
theorem Zvy {am:List Arm} {a:Arm} (v:Bool):(flat (Z14 (am++[a]))).take (am.length*4+3)++[.b v]++(flat (Z14 (am++[a]))).drop (am.length*4+3+1)=flat (Z14 (am++[⟨a.mat,a.fst,a.fds,v⟩])):=by
 have hl:=Z8k am
 have e:∀o:Arm,flat (Z14 (am++[o]))=flat (Z14 am)++lArm o:=fun o=>by
  rw [Z6d,Z2q]
  show flat (Z14 am)++(lArm o++[])=_
  rw [List.append_nil]
 have q:=Z6q (A:=flat (Z14 am)++[.i a.mat,.i a.fst,nInt a.fds]) (xs:=[.b a.chg]) (ys:=[.b v]) (B:=[]) (o:=am.length*4+3) (by simp [hl]) rfl
 have e2:∀w:Bool,flat (Z14 am)++[.i a.mat,.i a.fst,nInt a.fds]++([AV.b w]++[])=flat (Z14 am)++lArm ⟨a.mat,a.fst,a.fds,w⟩:=fun w=>by simp
 rw [e,e]
 rw [e2,e2] at q
 exact q
theorem Zsu (am:List Arm) (a:Arm):flat (Z14 am)++flat (Z14 [a])=flat (Z14 (am++[a])):=by rw [Z6d,Z2q]
theorem Zzg (am:List Arm) (a:Arm):(am++[a])[am.length]? = some a:=by simp
theorem Zzp {xs:List Step} {many:Nat} (h:¬conF many (xs.drop (Zm xs)) 0<0):Z3g xs many=Zm xs+conF many (xs.drop (Zm xs)) 0∧¬Z3g xs many<0:=by
 have:=Zdw (many:=many) (xs.drop (Zm xs)) 0 (Zm xs) (Int.le_refl 0) om
 rw [if_neg h,Int.zero_add] at this
 have e:Z3g xs many=conF many (xs.drop (Zm xs)) (Zm xs):=rfl
 omega
theorem Zzo {xs:List Step} {many:Nat} (h:conF many (xs.drop (Zm xs)) 0<0):Z3g xs many<0:=by
 have:=Zdw (many:=many) (xs.drop (Zm xs)) 0 (Zm xs) (Int.le_refl 0) om
 rw [if_pos h,Int.zero_add] at this
 have e:Z3g xs many=conF many (xs.drop (Zm xs)) (Zm xs):=rfl
 omega
end Go.Abs
end
section
namespace Go.Abs
theorem Zy2 {n:Normal}:∀rs:List Routine,(∀r∈rs,wB n.decls r.body)→rtsS (rs.map (ruR n.decls))≤rtsS rs
 | [],_=>by simp [rtsS]
 | r::rs,h=>by
  have h1:=Zy2 rs fun q hq=>h q (List.mem_cons_of_mem _ hq)
  have h2:=Zy4 r.body (K:=[]) (h r (List.mem_cons_self ..))
  rw [Block.sz_cst,Block.sz_cst] at h2
  rw [List.map_cons,rtsS,rtsS]
  have h3:rtC (ruR n.decls r)=r.params.length+(r.lent.length+(ruB n.decls [] r.body).cst):=rfl
  have h4:rtC r=r.params.length+(r.lent.length+r.body.cst):=rfl
  omega
theorem Z072 {n:Normal} (hw:∀r∈n.routines,wB n.decls r.body):Z4l (ruN n)≤9*Z4l n:=by
 have h:=Zy2 n.routines hw
 unfold Z4l rtsC ruN
 simp only [List.length_map]
 omega
theorem Z069 {n:Normal} (hz:NSz n):Z4l (reuF n).1≤9*Z4l n:=by
 unfold reuF
 split
 ·rename_i hb
  obtain ⟨h1,_,h3⟩:=Z64 hz hb.1
  exact Z072 (Zq8 h1 hz h3)
 ·exact Nat.zero_le _
end Go.Abs
end
section
namespace Go.Abs
def GB (B:List Nat):Prot:=fun b _=>b∈B
def HB (B:List Nat) (v:Value):Prop:=∀g,v.ownBlock=some g→g∈B
def Z3k (w:World) (B:List Nat) (ts:List (Value × Nat)):Prop:=∀p∈ts,Zc5 w p.1 p.2∧HB B p.1
theorem Z3k.left {w:World} {B:List Nat} {a b:List (Value × Nat)} (h:Z3k w B (a++b)):Z3k w B a:=fun p hp=>h p (List.mem_append.2 (.inl hp))
theorem Z3k.right {w:World} {B:List Nat} {a b:List (Value × Nat)} (h:Z3k w B (a++b)):Z3k w B b:=fun p hp=>h p (List.mem_append.2 (.inr hp))
theorem Z3k.head {w:World} {B:List Nat} {v:Value} {k:Nat} {b:List (Value × Nat)} (h:Z3k w B ((v,k)::b)):Zc5 w v k∧HB B v:=h _ (List.mem_cons_self ..)
theorem Z3k.tail {w:World} {B:List Nat} {p:Value × Nat} {b:List (Value × Nat)} (h:Z3k w B (p::b)):Z3k w B b:=fun q hq=>h q (List.mem_cons_of_mem _ hq)
section
variable {w:World} {G:Prot} {B:List Nat}
def InB (w:World) (G:Prot) (B:List Nat) (x:AV):Prop:=∀u,RV w G x u→RV w (GB B) x u
def InL (w:World) (G:Prot) (B:List Nat) (ls:List AV):Prop:=∀x∈ls,InB w G B x
theorem Ze3:InL w G B []:=fun _ h=>by cases h
theorem Z3l {x:AV} {l:List AV} (h:InB w G B x) (t:InL w G B l):InL w G B (x::l):=fun y hy=>by
 rcases List.mem_cons.1 hy with rfl|hy
 ·exact h
 ·exact t y hy
theorem Zn2 (z:Int):InB w G B (.i z):=fun _ h=>by cases h;exact .val
theorem Zri {b:Nat} (hb:b∈B):∀{o:Nat} {ls:List AV},InL w G B ls→RMem w G b o ls→RMem w (GB B) b o ls
 | _,_,_,.nil=>.nil
 | _,_,hi,.cons hc _ h t=>.cons hc hb (hi _ (List.mem_cons_self ..) _ h) (Zri hb (fun x hx=>hi x (List.mem_cons_of_mem _ hx)) t)
theorem Zrg {b k:Nat} (hb:b∈B):∀{o:Nat} {es:List AV},(∀y∈es,InL w G B y.leaves)→REls w G k b o es→REls w (GB B) k b o es
 | _,_,_,.nil=>.nil
 | _,_,hi,.cons hl h t=>.cons hl (Zri hb (hi _ (List.mem_cons_self ..)) h) (Zrg hb (fun x hx=>hi x (List.mem_cons_of_mem _ hx)) t)
theorem Zje {es:List AV} {v:Value} (hb:HB B v) (hi:∀y∈es,InL w G B y.leaves):InB w G B (.sl es (some v)):=by
 intro u h
 have e:=h.header
 subst e
 cases h with
 | nil hq=>exact .nil hq
 | sl hq hc hm=>exact .sl hq hc (Zrg (hb _ (by rfl)) hi hm)
theorem Zfz {xs:List Int} {v:Value} (hb:HB B v):InB w G B (oInt xs v):=Zje hb fun y hy=>by
 simp only [Z8,List.mem_map] at hy
 obtain ⟨z,_,rfl⟩:=hy
 exact Z3l (Zn2 z) Ze3
theorem Z03i {ls:List AV} (hi:InL w G B ls):InB w G B (.agg ls):=by
 intro u h
 cases h with
 | agg hc=>exact .agg (hc.clean (InB w G B) (fun x v hp hx=>hp v hx) hi)
theorem Z03j {c:HCon} (h:Z3k w B (Z40 c)):InL w G B (Znb c):=Z3l (Zfz h.head.2) Ze3
theorem Zwg {cs:List HCon} (h:Z3k w B (Z1b cs)):∀y∈Z2n cs,InL w G B y.leaves:=by
 intro y hy
 simp only [Z2n,List.mem_map] at hy
 obtain ⟨c,hc,rfl⟩:=hy
 exact Z03j fun p hp=>h p (List.mem_flatMap.2 ⟨c,hc,hp⟩)
theorem Z009 {d:HDecl} (h:Z3k w B (Z2f d)):InL w G B (Zf2 d):=
 Z3l (Zn2 _) (Z3l (Zn2 _) (Z3l (Zje (Z3k.right h).head.2 (Zwg (Z3k.left h))) Ze3))
theorem Zwh {ds:List HDecl} (h:Z3k w B (Z0m ds)):∀y∈Z1d ds,InL w G B y.leaves:=by
 intro y hy
 simp only [Z1d,List.mem_map] at hy
 obtain ⟨c,hc,rfl⟩:=hy
 exact Z009 fun p hp=>h p (List.mem_flatMap.2 ⟨c,hc,hp⟩)
mutual
theorem Z00a:∀(s:HStep),Z3k w B (Z1v s)→InL w G B (Zf3 s)
 | .mk op num into args av kids kv,h=>by
  rw [Z1v] at h
  exact Z3l (Zn2 _) (Z3l (Zn2 _) (Z3l (Zn2 _) (Z3l (Zfz h.head.2) (Z3l (Zje h.tail.right.head.2 (Zjf kids h.tail.left)) Ze3))))
theorem Zn3:∀(s:HBlock),Z3k w B (Z0d s)→InL w G B (Z7m s)
 | .mk steps sv result,h=>by
  rw [Z0d] at h
  exact Z3l (Zje h.right.head.2 (Zn5 steps h.left)) (Z3l (Zn2 _) Ze3)
theorem Zn5:∀(xs:List HStep),Z3k w B (Z06 xs)→∀y∈Z28 xs,InL w G B y.leaves
 | [],_=>fun y hy=>by rw [Z28] at hy;cases hy
 | s::r,h=>fun y hy=>by
  rw [Z28] at hy
  rw [Z06] at h
  rcases List.mem_cons.1 hy with rfl|hy
  ·rw [Zcf];exact Z00a s h.left
  ·exact Zn5 r h.right y hy
theorem Zjf:∀(xs:List HBlock),Z3k w B (Zp xs)→∀y∈Z1c xs,InL w G B y.leaves
 | [],_=>fun y hy=>by rw [Z1c] at hy;cases hy
 | s::r,h=>fun y hy=>by
  rw [Z1c] at hy
  rw [Zp] at h
  rcases List.mem_cons.1 hy with rfl|hy
  ·rw [Zag];exact Zn3 s h.left
  ·exact Zjf r h.right y hy
end
theorem Zpi {r:HRoutine} (h:Z3k w B (Z0r r)):InL w G B (Z6g r):=by
 have h2:Z3k w B (Z0d r.body):=h.tail.tail
 have hb:=Zn3 (G:=G) r.body h2
 exact Z3l (Zfz h.head.2) (Z3l (Zfz h.tail.head.2) (Z3l (Zn2 _) hb))
theorem Zn4 {rs:List HRoutine} (h:Z3k w B (Zl rs)):∀y∈Z0x rs,InL w G B y.leaves:=by
 intro y hy
 simp only [Z0x,List.mem_map] at hy
 obtain ⟨c,hc,rfl⟩:=hy
 exact Zpi fun p hp=>h p (List.mem_flatMap.2 ⟨c,hc,hp⟩)
theorem Zt3 {y:HNormal} (h:Z3k w B (Zz y)):InB w G B (Z2h y):=
 Z03i (Z3l (Zje h.right.head.2 (Zwh h.left)) (Z3l (Zje h.right.tail.right.head.2 (Zn4 h.right.tail.left)) Ze3))
end
def Z88 (w:World):Mem:=fun b o=>w.cell? ⟨b,o,none⟩
section
variable {w:World} {G:Prot} {B:List Nat}
theorem rm_i {g o:Nat} {z:Int} {xs:List AV} (h:RMem w G g o (.i z::xs)):isI (Z88 w) (g,o)∧RMem w G g (o+1) xs:=by
 cases h with
 | cons hc _ hx t=>exact ⟨⟨z,by have:=hx.val_inv;subst this;exact hc⟩,t⟩
theorem Zq1 {es:List AV} {v u:Value} {k:Nat} (h:RV w G (.sl es (some v)) u) (ht:Zc5 w v k) (hb:HB B v):HdOk B v es.length∧∃kk,REls w G kk (vblk v) 0 es:=by
 have e:=h.header
 subst e
 rcases ht with rfl|⟨g,len,cap,cur,e,rfl,h1,h2,h3⟩
 ·cases h with
  | nil _=>exact ⟨.inl ⟨rfl,rfl⟩,0,.nil⟩
 ·cases h with
  | nil _=>exact ⟨.inr ⟨g,cap,rfl,hb g rfl⟩,0,.nil⟩
  | sl _ hc hm=>exact ⟨.inr ⟨g,cap,rfl,hb g rfl⟩,_,hm⟩
theorem Zxx {g o:Nat} {es:List AV} {v:Value} {k:Nat} {xs:List AV} (h:RMem w G g o (.sl es (some v)::xs)) (ht:Zc5 w v k) (hb:HB B v) :
  skH (Z88 w) B g o v es.length∧(∃kk,REls w G kk (vblk v) 0 es)∧RMem w G g (o+1) xs:=by
 cases h with
 | cons hc _ hx t=>
  have e:=hx.header
  subst e
  obtain ⟨a,b⟩:=Zq1 hx ht hb
  exact ⟨⟨hc,a⟩,b,t⟩
theorem Z04j {g kk:Nat} {xs:List Int} (h:REls w G kk g 0 (Z8 xs)):skI (Z88 w) g xs.length:=by
 intro i hi
 have hx:(Z8 xs)[i]? = some (.i xs[i]):=by simp [Z8,hi]
 have hk:kk=1:=(h.len _ (List.mem_of_getElem? hx)).symm
 subst hk
 have:=h.get i _ hx
 rw [Nat.zero_add,Nat.mul_one] at this
 exact (rm_i this).1
theorem Zru {g o:Nat} {v:Value} {xs:List Int} {k:Nat} {ls:List AV} (h:RMem w G g o (oInt xs v::ls)) (ht:Zc5 w v k∧HB B v) :
  (skH (Z88 w) B g o v xs.length∧skI (Z88 w) (vblk v) xs.length)∧RMem w G g (o+1) ls:=by
 obtain ⟨a,⟨kk,b⟩,c⟩:=Zxx h ht.1 ht.2
 rw [Z4] at a
 exact ⟨⟨a,Z04j b⟩,c⟩
theorem Z06f {g o:Nat} {c:HCon} (h:RMem w G g o (Znb c)) (ha:Z3k w B (Z40 c)):Z04h (Z88 w) B g o c:=(Zru h ha.head).1
theorem Zyi {g kk:Nat}:∀{o:Nat} {cs:List HCon},REls w G kk g o (Z2n cs)→Z3k w B (Z1b cs)→Za9 (Z88 w) B g o cs
 | _,[],_,_=>trivial
 | _,c::r,.cons hl h t,ha=>by
  have ha:Z3k w B (Z40 c++Z1b r):=ha
  have hk:1=kk:=hl
  subst hk
  exact ⟨Z06f h ha.left,Zyi t ha.right⟩
theorem Z04i {g o:Nat} {d:HDecl} (h:RMem w G g o (Zf2 d)) (ha:Z3k w B (Z2f d)):Zyg (Z88 w) B g o d:=by
 obtain ⟨h1,h⟩:=rm_i h
 obtain ⟨h2,h⟩:=rm_i h
 obtain ⟨h3,⟨_,h4⟩,_⟩:=Zxx h (Z3k.right ha).head.1 (Z3k.right ha).head.2
 rw [Zkh] at h3
 exact ⟨h1,h2,h3,Zyi h4 (Z3k.left ha)⟩
theorem Zrt {g kk:Nat}:∀{o:Nat} {cs:List HDecl},REls w G kk g o (Z1d cs)→Z3k w B (Z0m cs)→Z8b (Z88 w) B g o cs
 | _,[],_,_=>trivial
 | _,c::r,.cons hl h t,ha=>by
  have ha:Z3k w B (Z2f c++Z0m r):=ha
  have hk:3=kk:=hl
  subst hk
  exact ⟨Z04i h ha.left,Zrt t ha.right⟩
mutual
theorem Z04k {g o:Nat}:∀{s:HStep},RMem w G g o (Zf3 s)→Z3k w B (Z1v s)→Z8t (Z88 w) B g o s
 | .mk _ _ _ _ _ _ _,h,ha=>by
  rw [Z1v] at ha
  rw [Z8t]
  obtain ⟨h1,h⟩:=rm_i h
  obtain ⟨h2,h⟩:=rm_i h
  obtain ⟨h3,h⟩:=rm_i h
  obtain ⟨h4,h⟩:=Zru h ha.head
  obtain ⟨h5,⟨_,h6⟩,_⟩:=Zxx h ha.tail.right.head.1 ha.tail.right.head.2
  rw [Zgs] at h5
  exact ⟨⟨h1,h2,h3⟩,h4,h5,Zo2 h6 ha.tail.left⟩
theorem Z01b {g o:Nat}:∀{s:HBlock},RMem w G g o (Z7m s)→Z3k w B (Z0d s)→Z62 (Z88 w) B g o s
 | .mk _ _ _,h,ha=>by
  rw [Z0d] at ha
  rw [Z62]
  obtain ⟨h5,⟨_,h6⟩,h⟩:=Zxx h ha.right.head.1 ha.right.head.2
  rw [Zb5] at h5
  exact ⟨⟨h5,Zlg h6 ha.left⟩,(rm_i h).1⟩
theorem Zlg {g kk:Nat}:∀{o:Nat} {xs:List HStep},REls w G kk g o (Z28 xs)→Z3k w B (Z06 xs)→Z2o (Z88 w) B g o xs
 | _,[],_,_=>by rw [Z2o];trivial
 | _,s::r,h,ha=>by
  rw [Z28] at h
  rw [Z06] at ha
  rw [Z2o]
  cases h with
  | cons hl h t=>
   rw [Zcf] at hl h
   have hk:5=kk:=hl
   subst hk
   exact ⟨Z04k h ha.left,Zlg t ha.right⟩
theorem Zo2 {g kk:Nat}:∀{o:Nat} {xs:List HBlock},REls w G kk g o (Z1c xs)→Z3k w B (Zp xs)→Z2c (Z88 w) B g o xs
 | _,[],_,_=>by rw [Z2c];trivial
 | _,s::r,h,ha=>by
  rw [Z1c] at h
  rw [Zp] at ha
  rw [Z2c]
  cases h with
  | cons hl h t=>
   rw [Zag] at hl h
   have hk:2=kk:=hl
   subst hk
   exact ⟨Z01b h ha.left,Zo2 t ha.right⟩
end
theorem Ztw {g o:Nat} {r:HRoutine} (h:RMem w G g o (Z6g r)) (ha:Z3k w B (Z0r r)):Zd9 (Z88 w) B g o r:=by
 have ha2:Z3k w B (Z0d r.body):=ha.tail.tail
 rw [Zaj] at ha2
 obtain ⟨h1,h⟩:=Zru h ha.head
 obtain ⟨h2,h⟩:=Zru h ha.tail.head
 obtain ⟨h3,h⟩:=rm_i h
 obtain ⟨h5,⟨_,h6⟩,h⟩:=Zxx h ha2.right.head.1 ha2.right.head.2
 rw [Zb5] at h5
 exact ⟨h1,h2,h3,⟨h5,Zlg h6 ha2.left⟩,(rm_i h).1⟩
theorem Zhq {g kk:Nat}:∀{o:Nat} {cs:List HRoutine},REls w G kk g o (Z0x cs)→Z3k w B (Zl cs)→Z49 (Z88 w) B g o cs
 | _,[],_,_=>trivial
 | _,c::r,.cons hl h t,ha=>by
  have ha:Z3k w B (Z0r c++Zl r):=ha
  have hk:5=kk:=hl
  subst hk
  exact ⟨Ztw h ha.left,Zhq t ha.right⟩
def nv (y:HNormal):Value:=.agg #[y.dv,y.rv]
def hdOf:Value→Hd
 | .slice a l c=>⟨a,l,c⟩
 | _=>⟨none,0,0⟩
abbrev av (y:HNormal):AV:=.agg [.h (hdOf y.dv),.h (hdOf y.rv)]
def HdY (y:HNormal):Prop:=(hdOf y.dv).v=y.dv∧(hdOf y.rv).v=y.rv
theorem HdOk.of {B:List Nat} {v:Value} {n:Nat} (h:HdOk B v n):(hdOf v).v=v:=by
 rcases h with ⟨rfl,_⟩|⟨g,cap,rfl,_⟩<;>rfl
theorem Zjd {m:Mem} {B:List Nat} {y:HNormal} (h:Z44 m B y):HdY y:=⟨h.1.1.of,h.2.1.of⟩
theorem Zuo {y:HNormal} (h:HdY y):av y=.agg [.val y.dv,.val y.rv]:=by
 show AV.agg [.val (hdOf y.dv).v,.val (hdOf y.rv).v]=_
 rw [h.1,h.2]
theorem Z04b {y:HNormal} {u:Value} (h:RV w G (Z2h y) u):u=nv y:=by
 cases h with
 | agg hc=>cases hc with
  | cons h1 t=>cases t with
   | cons h2 t=>cases t;rw [h1.header,h2.header];rfl
theorem Zyj {y:HNormal} {u:Value} (h:RV w G (Z2h y) u) (ha:Z3k w B (Zz y)):Z44 (Z88 w) B y:=by
 cases h with
 | agg hc=>cases hc with
  | cons h1 t=>cases t with
   | cons h2 t=>
    obtain ⟨a1,_,a2⟩:=Zq1 h1 ha.right.head.1 ha.right.head.2
    obtain ⟨b1,_,b2⟩:=Zq1 h2 ha.right.tail.right.head.1 ha.right.tail.right.head.2
    rw [Zia] at a1
    rw [Zdz] at b1
    exact ⟨⟨a1,Zrt a2 ha.left⟩,b1,Zhq b2 ha.right.tail.left⟩
end
def Zza (B:List Nat) (m:Mem) (x:AV) (u:Value):Prop:=
 ∀w:World,(∀b∈B,∃cs e,w.heap[b]? = some (.cells cs e (0,0))∧∀o,cs[o]? = m b o)→RV w (GB B) x u
def RepN (S:List Nat) (M:Mem) (y:HNormal):Prop:=Zza S M (Z2h y) (nv y)∧HdY y
theorem Zzi {ts:List (Value × Nat)} {p:Value × Nat} (h:p∈ts):HB (blks ts) p.1:=fun _ hg=>List.mem_filterMap.2 ⟨p,h,hg⟩
theorem Z02t {w:World} {ts:List (Value × Nat)} (h:∀p∈ts,Zc5 w p.1 p.2) (hp:ts.Pairwise (fun p q=>∀b o,Zi1 p.1 p.2 b o→Zi1 q.1 q.2 b o→False)):(blks ts).Nodup:=by
 refine List.pairwise_filterMap.2 (hp.imp_of_mem ?_)
 rintro ⟨v,k⟩ ⟨v',k'⟩ hm hm' hd b hb b' hb' rfl
 rcases h _ hm with e|⟨g,len,cap,cur,el,e,_⟩
 ·simp only at e;subst e;simp [Value.ownBlock] at hb
 rcases h _ hm' with e'|⟨g',len',cap',cur',el',e',_⟩
 ·simp only at e';subst e';simp [Value.ownBlock] at hb'
 simp only at e e'
 subst e;subst e'
 simp only [Value.ownBlock,Option.some.injEq] at hb hb'
 subst hb;subst hb'
 exact hd g' (len*k+len'*k') ⟨rfl,Nat.le_add_right _ _⟩ ⟨rfl,Nat.le_add_left _ _⟩
theorem thaw {w0 w:World} {G0 G':Prot} {y:HNormal} {u:Value} (hh0:HOk w0 G0 []) (hx:Ext w0 G0 [] w G' [.many (Zz y)]) (hh:HOk w G' [.many (Zz y)]) (hv:RV w G' (Z2h y) u) :
  HOk w G0 [.own (blks (Zz y)) (Z88 w)]∧Ext w0 G0 [] w G0 [.own (blks (Zz y)) (Z88 w)]∧Z44 (Z88 w) (blks (Zz y)) y∧(Z09 y).Nodup ∧
   Zza (blks (Zz y)) (Z88 w) (Z2h y) (nv y):=by
 obtain ⟨t1,t2⟩:=hh.ok _ (List.mem_singleton.2 rfl)
 have ha:Z3k w (blks (Zz y)) (Zz y):=fun p hp=>⟨t1 p hp,Zzi hp⟩
 have hcells:∀b∈blks (Zz y),∃cs e,w.heap[b]? = some (.cells cs e (0,0))∧∀o,cs[o]? = Z88 w b o:=by
  intro b hb
  obtain ⟨p,hp,hpb⟩:=List.mem_filterMap.1 hb
  rcases t1 p hp with e|⟨g,len,cap,cur,el,e,h1,_⟩
  ·rw [e] at hpb;simp [Value.ownBlock] at hpb
  ·rw [e] at hpb
   simp only [Value.ownBlock,Option.some.injEq] at hpb
   subst hpb
   exact ⟨cur,el,h1,fun o=>(cell_of_row w g o cur el (0,0) h1).symm⟩
 have hfresh:∀b∈blks (Zz y),w0.heap.size≤b:=by
  intro b hb
  obtain ⟨p,hp,hpb⟩:=List.mem_filterMap.1 hb
  rcases t1 p hp with e|⟨g,len,cap,cur,el,e,h1,_⟩
  ·rw [e] at hpb;simp [Value.ownBlock] at hpb
  ·have e':=e
   rw [e] at hpb
   simp only [Value.ownBlock,Option.some.injEq] at hpb
   subst hpb
   refine Nat.le_of_not_lt fun hlt=>?_
   obtain ⟨r,hr,_⟩:=hx.newfp g (len*p.2) hlt ⟨_,List.mem_singleton.2 rfl,p,hp,by rw [e'];exact ⟨rfl,Nat.le_refl _⟩⟩
   cases hr
 have hsk:=Zyj hv ha
 have hrv:=Zt3 ha _ hv
 rw [Z04b hv] at hrv
 refine ⟨⟨fun r hr=>?_,List.pairwise_singleton _ _,fun r hr b o hf hg=>?_,fun b o hg=>Nat.lt_of_lt_of_le (hh0.lt b o hg) hx.size⟩,
  ⟨hx.os,hx.tape,hx.output,hx.size,fun _ _ h=>h,hx.same,fun _ _ _ h=>.inl h,fun b o hb hf=>?_⟩,hsk,Zon hsk (Z02t t1 t2),fun w' hw'=>?_⟩
 ·rw [List.mem_singleton.1 hr]
  exact hcells
 ·rw [List.mem_singleton.1 hr] at hf
  have h1:=hfresh b hf
  have h2:=hh0.lt b o hg
  omega
 ·obtain ⟨r,hr,hf⟩:=hf
  rw [List.mem_singleton.1 hr] at hf
  have h1:=hfresh b hf
  omega
 ·refine hrv.mono ⟨fun b o hb=>?_,fun _ _ h=>h⟩
  obtain ⟨cs,e,h1,h2⟩:=hcells b hb
  obtain ⟨cs',e',h1',h2'⟩:=hw' b hb
  rw [cell_of_row w b o cs e (0,0) h1,cell_of_row w' b o cs' e' (0,0) h1',h2,h2']
theorem Z3.thaw {P:Program} {f:FuncId} {args:List AV} {Q:HNormal→Prop} (H:Z3 P f args [] (fun r h=>∃y:HNormal,r=Z2h y∧h=[.many (Zz y)]∧Q y)) :
  Z3 P f args [] (fun r h=>∃(y:HNormal) (S:List Nat) (M:Mem),r=av y∧h=[.own S M]∧(Q y∧Z44 M S y∧(Z09 y).Nodup∧RepN S M y)):=by
 intro w G vs ha hh
 refine (H w G vs ha hh).mono ?_
 rintro e w' ⟨v,r,h',G',rfl,⟨y,rfl,rfl,hq⟩,hv,hh',hx⟩
 obtain ⟨a1,a2,a3,a4,a5⟩:=Go.Abs.thaw hh hx hh' hv
 rw [Z04b hv]
 exact ⟨_,_,_,_,rfl,⟨y,_,_,rfl,rfl,hq,a3,a4,a5,Zjd a3⟩,by rw [Zuo (Zjd a3)];exact .agg (.cons .val (.cons .val .nil)),a1,a2⟩
theorem Z3.thaw2 {P:Program} {f:FuncId} {args:List AV} {c:Bool} {Q:HNormal→Prop} (H:Z3 P f args [] (fun r h=>∃y:HNormal,r=.tup [Z2h y,.b c]∧h=[.many (Zz y)]∧Q y)) :
  Z3 P f args [] (fun r h=>∃(y:HNormal) (S:List Nat) (M:Mem),r=.tup [av y,.b c]∧h=[.own S M]∧(Q y∧Z44 M S y∧(Z09 y).Nodup∧RepN S M y)):=by
 intro w G vs ha hh
 refine (H w G vs ha hh).mono ?_
 rintro e w' ⟨v,r,h',G',rfl,⟨y,rfl,rfl,hq⟩,hv,hh',hx⟩
 cases hv with
 | tup hc=>cases hc with
  | cons h1 t=>
   obtain ⟨a1,a2,a3,a4,a5⟩:=Go.Abs.thaw hh hx hh' h1
   refine ⟨_,_,_,_,rfl,⟨y,_,_,rfl,rfl,hq,a3,a4,a5,Zjd a3⟩,.tup (.cons ?_ ?_),a1,a2⟩
   ·rw [Z04b h1,Zuo (Zjd a3)];exact .agg (.cons .val (.cons .val .nil))
   ·cases t with
    | cons h2 t=>cases t;cases h2;exact .cons .val .nil
inductive ArgO (bs:List Res):List AV→List AV→Prop
 | nil:ArgO bs [] []
 | same {x as1 xs} (t:ArgO bs as1 xs):ArgO bs (x::as1) (x::xs)
 | lent {B m y as1 xs} (h:Res.own B m∈bs) (hr:RepN B m y) (t:ArgO bs as1 xs):ArgO bs (av y::as1) (Z2h y::xs)
theorem ArgO.rcs {w:World} {G Gb:Prot} {bs:List Res} (hA:Agree G w w Gb) (hb:∀B m,Res.own B m∈bs→∀x u,Zza B m x u→RV w Gb x u) :
  ∀{as1 xs:List AV} {vs:List Value},ArgO bs as1 xs→RCs w G as1 vs→RCs w Gb xs vs
 | _,_,_,.nil,.nil=>.nil
 | _,_,_,.same t,.cons h r=>.cons (h.mono hA) (t.rcs hA hb r)
 | _,_,_,.lent (y:=y) hm hr t,.cons (v:=v) h r=>by
  have e:v=nv y:=by
   rw [Zuo hr.2] at h
   cases h with
   | agg hc=>cases hc with
    | cons h1 t=>cases t with
     | cons h2 t=>cases t;cases h1;cases h2;rfl
  subst e
  exact .cons (hb _ _ hm _ _ hr.1) (t.rcs hA hb r)
theorem ROk.cleanR {w:World} {G G2:Prot} {q:Res} (h0:ROk w G q) (hcq:Zet q):ROk w G2 q:=by
 cases q with
 | obj b ls=>obtain ⟨cs,el,k1,k2⟩:=h0;exact ⟨cs,el,k1,k2.vals hcq⟩
 | tail v k=>exact h0
 | ge s=>exact h0
 | vec v ls=>
  rcases h0 with ⟨rfl,h0⟩|⟨g,cap,cur,el,rfl,k1,k2,k3,k4⟩
  ·exact .inl ⟨rfl,h0⟩
  ·exact .inr ⟨g,cap,cur,el,rfl,k1,k2,k3,k4.vals hcq⟩
 | many ts=>exact h0
 | own B m=>exact h0
 | row v k ls=>
  rcases h0 with ⟨rfl,h0⟩|⟨g,len,cap,cur,el,rfl,k1,k2,k3,k4,k5⟩
  ·exact .inl ⟨rfl,h0⟩
  ·exact .inr ⟨g,len,cap,cur,el,rfl,k1,k2,k3,k4,k5.vals hcq⟩
theorem Z3.lendO {P:Program} {f:FuncId} {as1 xs:List AV} {h1:List Res} (bs:List Res) {R:AV→List Res→Prop} (H:Z3 P f xs h1 R) (hargs:ArgO bs as1 xs)
  (hb:∀r∈bs,∃B m,r=.own B m) (hclean:∀r h',R r h'→Clean h' r∧∀q∈h',Zet q) :
  Z3 P f as1 (h1++bs) (fun r h'=>∃h1',R r h1'∧h'=h1'++bs):=by
 intro w G vs hvs hh
 let Gb:Prot:=fun b o=>G b o∨fps bs b o
 have hA:Agree G w w Gb:=⟨fun _ _ _=>rfl,fun _ _ h=>.inl h⟩
 have hbslt:∀b o,fps bs b o→b<w.heap.size:=fun b o ⟨q,hq,hf⟩=>(hh.ok q (List.mem_append.2 (.inr hq))).lt b o hf
 have hwhole:∀b o o',fps bs b o→fps bs b o':=fun b o o' ⟨q,hq,hf⟩=>⟨q,hq,by
  obtain ⟨B,m,rfl⟩:=hb q hq
  exact hf⟩
 have g3:HOk w Gb h1:=⟨fun r hr=>(hh.ok r (List.mem_append.2 (.inl hr))).same hA,hh.left.apart,fun r hr b o hf hg=>by
   rcases hg with hg|hg
   ·exact hh.prot r (List.mem_append.2 (.inl hr)) b o hf hg
   ·exact hh.cross ⟨r,hr,hf⟩ hg,fun b o hg=>by
   rcases hg with hg|hg
   ·exact hh.lt b o hg
   ·exact hbslt b o hg⟩
 have g4:∀B m,Res.own B m∈bs→∀x u,Zza B m x u→RV w Gb x u:=fun B m hm x u hr=>
  (hr w (hh.ok _ (List.mem_append.2 (.inr hm)))).mono ⟨fun _ _ _=>rfl,fun b o hb=>.inr ⟨_,hm,hb⟩⟩
 refine (H w Gb vs (hargs.rcs hA g4 hvs) g3).mono ?_
 rintro e w' ⟨v,r,h',G',rfl,hR,hv,hh',hx⟩
 obtain ⟨c1,c2⟩:=hclean r h' hR
 let G2:Prot:=fun b o=>G' b o∧¬(fps bs b o)
 have hGkeep:∀b o,G b o→G2 b o:=fun b o hg=>⟨hx.sub b o (.inl hg),fun ⟨q,hq,hf⟩=>hh.prot q (List.mem_append.2 (.inr hq)) b o hf hg⟩
 have hnew:∀v k g,Res.tail v k∈h'→v.ownBlock=some g→∀o,G' g o→G2 g o:=by
  intro v k g hm hg o hgo
  refine ⟨hgo,fun hf=>?_⟩
  have hlt:=hbslt _ _ hf
  rcases hh'.ok _ hm with rfl|⟨g',len,cap,cur,el,rfl,t1,t2,t3⟩
  ·simp [Value.ownBlock] at hg
  ·simp only [Value.ownBlock,Option.some.injEq] at hg
   subst hg
   have hfp:fps h' g' (len*k):=⟨_,hm,rfl,Nat.le_refl _⟩
   exact hh.cross (hx.newfp g' (len*k) hlt hfp) (hwhole _ _ _ hf)
 have e1:Ext w G h1 w' G2 h':=⟨hx.os,hx.tape,hx.output,hx.size,hGkeep,hx.same,fun b o hb' hg=>by
  rcases hx.newG b o hb' hg.1 with h|h
  ·rcases h with h|h
   ·exact .inl h
   ·exact absurd h hg.2
  ·exact .inr h,hx.newfp⟩
 have e2:HOk w' G2 h':=⟨fun q hq=>(hh'.ok q hq).cleanR (c2 q hq),hh'.apart,fun q hq b o hf hg=>hh'.prot q hq b o hf hg.1,fun b o hg=>hh'.lt b o hg.1⟩
 obtain ⟨f1,f2⟩:=hh.frame e1 e2
 exact ⟨v,r,h'++bs,G2,rfl,⟨h',hR,rfl⟩,RV.clean hnew c1 hv,f1,f2⟩
section
variable {P:Program} {n:Nat} {ops:Array Oper} {B:Fr→List Res→Prop} {k:Nat} {F:Fr} {h:List Res}
def Zuu (P:Program) (ops:Array Oper) (F:Fr) (k:Nat):Option (Bool × Bool):=
 match (opAt ops k).op with
 | .binOp .neq t x y _=>match P.underlying t with
  | some .bool=>match F.ev x,F.ev y with
   | .val (.bool a),.val (.bool b)=>some (a,b)
   | _,_=>none
  | _=>none
 | _=>none
theorem kBne (a b:Bool) (hb:Zuu P ops F k=some (a,b):=by kernel_rfl):StOK P (opAt ops k) F h [] (.b (a != b)):=by
 unfold Zuu at hb
 generalize hoo:opAt ops k=o at hb
 obtain ⟨dst,op,type,pos,after,guard⟩:=o
 cases op<;>simp only at hb<;>try (cases hb)
 rename_i bop t x y yt
 cases bop<;>simp only at hb<;>try (cases hb)
 split at hb
 ·rename_i ht
  split at hb
  ·rename_i a' b' h1 h2
   cases hb
   intro n w G ac hF hh
   have v1:=hF.ev x
   have v2:=hF.ev y
   rw [h1] at v1
   rw [h2] at v2
   have v1:=v1.val_inv
   have v2:=v2.val_inv
   refine ⟨_,.val,fun w' _ _=>?_⟩
   simp only [execOp,v1,v2]
   have he:(Op.equalIn (9999+1) t (.bool a) (.bool b)).run P w'=.ok (a==b) w':=by
    rw [Op.equalIn]
    simp [Sem.run_bind,Zu ht]
   refine Z1e ?_
   simp only [eqGuard,binOp,Op.equal,Op.maxDepth]
   have he2:(Op.equalIn 10000 t (.bool a) (.bool b)).run P w'=.ok (a==b) w':=he
   simp [Sem.run_bind,he2,bne]
  ·cases hb
 ·cases hb
end
end Go.Abs
end
namespace Go.Abs
open Go.Proofs
theorem Zec {xs:List Int} {k:Nat} {n x:Int} (h:n∉xs.take k) (hx:xs[k]? = some x) (hn:¬x=n):n∉xs.take (k+1):=by
 rw [List.take_add_one,hx]
 simp only [Option.toList_some,List.mem_append,List.mem_singleton]
 exact fun q=>q.elim h fun q=>hn q.symm
theorem Ztd {xs:List Int} {k:Nat} {n x:Int} (hx:xs[k]? = some x) (hn:x=n):n∈xs:=hn▸List.mem_of_getElem? hx
theorem Z0w (n:Int) (low:Int) (high:Int) :Z3 Tryz.prog 146 [.i n,.i low,.i high] [] (fun r h=>r=.b (decide (low≤n∧n≤high))∧h=[]):=by
 refine enter Tryz.func146 kr (n:=15) kr kr (ar (ir 1 [(0,.i n),(1,.i low),(2,.i high)] (ie (ar (Z1n 8 [(14,.b ((decide (low≤n))&&(decide (n≤high))))] [] ?_ (fun hj1=>?_))))))
 ·refine ir 1 [(6,.b ((decide (low≤n))&&(decide (n≤high))))] (ie ?_)
  exact at_ (r2 [] [.b ((decide (low≤n))&&(decide (n≤high)))] ⟨rfl,rfl⟩ (lb (by rw [Bool.eq_iff_iff];simp)))
 refine ir 4 [(0,.i n),(2,.i high),(10,.b (decide (low≤n)))] (ib (b:=(decide (low≤n))) 10 (fun hb1=>?_) (fun hb1=>?_))
 ·have hp1:low≤n:=(dq).1 hb1
  refine ir 4 [(14,.b (decide (n≤high)))] ?_
  exact Zy (wk [] (fc (x:=.b (decide (n≤high))) (lb (by simp only [hb1];rfl)) fl)) hj1
 have hp2:¬(low≤n):=Zd dq hb1
 refine ir 4 [(14,.b false)] ?_
 exact Zy (wk [] (fc (x:=.b false) (lb (by simp only [hb1];rfl)) fl)) hj1
theorem Z83 (xs:List Int) (n:Int) (hlen:xs.length≤4294967296:=by exact ob):Z3 Tryz.prog 147 [nInt xs,.i n] [] (fun r h=>r=.b (decide (n∈xs))∧h=[]):=by
 refine enter Tryz.func147 kr (n:=18) kr kr (ar (ir 1 [(0,nInt xs),(1,.i n)] (ie (aq (ar (irk 1 (.n 5 (.i 0) .r) (ie (ab 0 (al (fun m F h=>∃(k:Nat),(k≤xs.length)∧(n∉xs.take k)∧F=[(0,nInt xs),(1,.i n),(5,.i k)]∧h=[]∧m=xs.length-k) _ _ _ ⟨0,ob,ob,rfl,rfl,rfl⟩ (wk [] (fw (fc (x:=.i 0) li fl))) ?_)))))))))
 rintro m F h ⟨k,c0_0,c0_1,rfl,rfl,rfl⟩
 refine aq (ar (irk 2 (.n 6 (.i k) (.n 7 (nInt xs) .r)) (iw (Z4 xs) (irk 1 (.n 9 (.b (decide ((k:Int)<(xs.length:Int)))) .r) (ie (ac (decide ((k:Int)<(xs.length:Int))) dq (fun hc1=>?_) (fun hc1=>?_)))))))
 ·refine ak (aq (ab 1 (ar (irk 2 (.n 12 (nInt xs) (.n 13 (.i k) .r)) ?_))))
  obtain ⟨x1,hx1⟩:=Z6 (xs:=xs) (j:=k) om
  refine is_ (Z0 (es:=Z8 xs) (hv:=none) (j:=(k:Int)) (sz:=1) (y:=.i x1) kr om (Z9 hx1) rfl) (irk 3 (.n 17 (.b (x1==n)) .r) (ie (ac (x1==n) beq_iff_eq (fun hc2=>?_) (fun hc2=>?_))))
  ·refine ar (ir 1 [(4,.b true)] (ie ?_))
   exact at_ (r2 [] [.b true] ⟨rfl,rfl⟩ (lb (by rw [eq_comm,dq];exact Ztd hx1 hc2)))
  refine ak (az (irk 1 (.n 10 (.i k) .r) (ia (((k+1:Nat):Int)) (((k:Int))+(1)) (ir 1 [(0,nInt xs),(1,.i n),(5,.i (k+1:Nat))] (ie ?_)))))
  exact ⟨_,_,_,ob,⟨k+1,ob,(Zec c0_1 hx1 hc2),rfl,rfl,rfl⟩,(wk [] (fw (fc (x:=.i (k+1:Nat)) li fl)))⟩
 refine ax 0 (ar (ir 1 [(4,.b false)] (ie ?_)))
 have hke:k=xs.length:=by omega
 exact at_ (r2 [] [.b false] ⟨rfl,rfl⟩ (lb (by rw [eq_comm,decide_eq_false_iff_not];rw [hke,List.take_length] at c0_1;exact c0_1)))
theorem Z26 (xs:List Int) (hlen:xs.length≤4294967296:=by exact ob):Z3 Tryz.prog 103 [nInt xs] [] (fun r h=>∃(v:Value),r=oInt xs v∧h=[.tail v 1]):=by
 refine enter Tryz.func103 kr (n:=6) kr kr (ar (ir 1 [(0,nInt xs)] (ie (ar (iL (Z8 []) 0 1 ?_)))))
 intro v1
 refine irk 1 (.n 4 (nInt xs) .r) (ip 0 (Z8 xs) (Z8 []) (Z8 xs) v1 none 1 (Z11 _) (Z11 _) (Z3u _) (by simp<;>omega) (by simp [Z8]) ?_)
 intro v2
 refine ir 1 [(2,oInt xs v2)] (ie ?_)
 exact at_ (r1 [0] ⟨v2,rfl,rfl⟩)
theorem Z6t (ds:List Decl) (n:Nat) (hd:DOk ds:=by exact ob) (hn:n≤ds.length:=by exact ob):Z3 Tryz.prog 156 [Z2 ds,.i n] [] (fun r h=>r=.i ((Zs (ds.take n):Nat):Int)∧h=[]):=by
 refine enter Tryz.func156 kr (n:=21) kr kr (ar (ir 1 [(0,Z2 ds),(1,.i n)] (ie (ar (irk 1 (.n 5 (.i 0) .r) (ie (aq (ar (irk 1 (.n 6 (.i 0) .r) (ie (ab 0 (al (fun m F h=>∃(k:Nat),(k≤n)∧F=[(0,Z2 ds),(1,.i n),(5,.i ((Zs (ds.take k):Nat):Int)),(6,.i k)]∧h=[]∧m=n-k) _ _ _ ⟨0,ob,rfl,rfl,rfl⟩ (wk [] (fw (fc (x:=.i 0) li (fc (x:=.i 0) li fl)))) ?_))))))))))))
 rintro m F h ⟨k,c0_0,rfl,rfl,rfl⟩
 refine aq (ar (irk 3 (.n 9 (.b (decide ((k:Int)<(n:Int)))) .r) (ie (ac (decide ((k:Int)<(n:Int))) dq (fun hc1=>?_) (fun hc1=>?_)))))
 ·refine ak (aq (ab 1 (az (irk 3 (.n 12 (.i ((Zs (ds.take k):Nat):Int)) (.n 13 (Z2 ds) (.n 14 (.i k) .r))) ?_))))
  obtain ⟨x1,hx1⟩:=Z6 (xs:=ds) (j:=k) om
  refine is_ (Z0 (es:=Z0i ds) (hv:=none) (j:=(k:Int)) (sz:=3) (y:=Z2s x1) kr om (Z0z hx1) rfl) (irk 2 (.n 17 (nCon x1.cons) .r) (iw (Z0k x1.cons) (ia ((((Zs (ds.take k))+x1.cons.length:Nat):Int)) ((((Zs (ds.take k):Nat):Int))+((x1.cons.length:Int))) (hb:=(by have h1:=hd.cons_at hx1;have h2:=(hd.take k).sum;omega)) (irk 1 (.n 5 (.i (((Zs (ds.take k))+x1.cons.length:Nat):Int)) (.p (.p (.d (.p (.d (.d (.d (.d (.k (.k (.d .r)))))))))))) (ie (az (irk 1 (.n 10 (.i k) .r) (ia (((k+1:Nat):Int)) (((k:Int))+(1)) (hb:=(by have:=hd.len;omega)) (irk 1 (.n 6 (.i (k+1:Nat)) (.p (.d (.k (.k (.k .z)))))) (ie ?_))))))))))
  have hsn:Zs (ds.take (k+1))=Zs (ds.take k)+x1.cons.length:=by rw [Z1l hx1,Z5f];simp [Zs]
  exact ⟨_,_,_,ob,⟨k+1,ob,rfl,rfl,rfl⟩,(wk [] (fw (fc (x:=.i (((Zs (ds.take k))+x1.cons.length:Nat):Int)) li (fc (x:=.i (k+1:Nat)) li fl))))⟩
 refine ax 0 (ar (ir 2 [(4,.i ((Zs (ds.take k):Nat):Int))] (ie ?_)))
 have hke:k=n:=by omega
 subst hke
 exact at_ (r2 [] [.i ((Zs (ds.take k):Nat):Int)] ⟨rfl,rfl⟩ li)
theorem Z7o (ds:List Decl) (c:Int) (hd:DOk ds:=by exact ob):Z3 Tryz.prog 157 [Z2 ds,.i c] [] (fun r h=>r=.i (Z08 ds c)∧h=[]):=by
 refine enter Tryz.func157 kr (n:=30) kr kr (ar (ir 1 [(0,Z2 ds),(1,.i c)] (ie (aq (ar (irk 1 (.n 5 (.i 0) .r) (ie (ab 0 (al (fun m F h=>∃(k:Nat),(k≤ds.length)∧((Z3s c (ds.drop k) k (Zs (ds.take k))).1=Z08 ds c)∧F=[(0,Z2 ds),(1,.i c),(5,.i k)]∧h=[]∧m=ds.length-k) _ _ _ ⟨0,ob,(by rfl),rfl,rfl,rfl⟩ (wk [] (fw (fc (x:=.i 0) li fl))) ?_)))))))))
 rintro m F h ⟨k,c0_0,c0_1,rfl,rfl,rfl⟩
 refine aq (ar (irk 2 (.n 7 (.i k) (.n 8 (Z2 ds) .r)) (iw (Z0c ds) (irk 1 (.n 10 (.b (decide ((k:Int)<(ds.length:Int)))) .r) (ie (ac (decide ((k:Int)<(ds.length:Int))) dq (fun hc1=>?_) (fun hc1=>?_)))))))
 ·refine ak (aq (ab 1 (ar (irk 2 (.n 13 (Z2 ds) (.n 14 (.i k) .r)) (ic [] (Z6t ds k) ?_)))))
  rintro _ _ ⟨rfl,rfl⟩
  refine irk 1 (.n 6 (.i ((Zs (ds.take k):Nat):Int)) .r) (ie (ar (irk 5 (.n 16 (.i c) (.n 17 (.i ((Zs (ds.take k):Nat):Int)) (.n 18 (.i ((Zs (ds.take k):Nat):Int)) (.n 19 (Z2 ds) (.n 20 (.i k) .r))))) ?_)))
  obtain ⟨x1,hx1⟩:=Z6 (xs:=ds) (j:=k) om
  refine is_ (Z0 (es:=Z0i ds) (hv:=none) (j:=(k:Int)) (sz:=3) (y:=Z2s x1) kr om (Z0z hx1) rfl) (irk 2 (.n 23 (nCon x1.cons) .r) (iw (Z0k x1.cons) (ia ((((Zs (ds.take k))+x1.cons.length:Nat):Int)) ((((Zs (ds.take k):Nat):Int))+((x1.cons.length:Int))) (hb:=(by have h1:=hd.cons_at hx1;have h2:=(hd.take k).sum;omega)) (ia (((((Zs (ds.take k))+x1.cons.length:Nat):Int)-1)) (((((Zs (ds.take k))+x1.cons.length:Nat):Int))-(1)) (hb:=(by have h1:=hd.cons_at hx1;have h2:=(hd.take k).sum;omega)) (ic [] (Z0w c ((Zs (ds.take k):Nat):Int) ((((Zs (ds.take k))+x1.cons.length:Nat):Int)-1)) ?_)))))
  rintro _ _ ⟨rfl,rfl⟩
  refine ie (ac (decide (((Zs (ds.take k):Nat):Int)≤c∧c≤((((Zs (ds.take k))+x1.cons.length:Nat):Int)-1))) dq (fun hc2=>?_) (fun hc2=>?_))
  ·refine ar (ir 1 [(28,.i k)] (ia (((k+1:Nat):Int)) (((k:Int))+(1)) (hb:=(by have h2:=hd.len;omega)) (ir 1 [(4,.i (k+1:Nat))] (ie ?_))))
   exact at_ (r2 [] [.i (k+1:Nat)] ⟨rfl,rfl⟩ (li (by rw [←c0_1,Z5 hx1,Z3s,if_pos hc2];rfl)))
  refine ak (az (irk 1 (.n 11 (.i k) .r) (ia (((k+1:Nat):Int)) (((k:Int))+(1)) (hb:=(by have h2:=hd.len;omega)) (ir 1 [(0,Z2 ds),(1,.i c),(5,.i (k+1:Nat))] (ie ?_)))))
  have hdr:=Z5 hx1
  exact ⟨_,_,_,ob,⟨k+1,ob,(by rw [hdr] at c0_1;rw [←c0_1,Z3s,if_neg hc2,Z1l hx1,Z5f];rfl),rfl,rfl,rfl⟩,(wk [] (fw (fc (x:=.i (k+1:Nat)) li fl)))⟩
 refine ax 0 (ar (ir 1 [(4,.i (-1))] (ie ?_)))
 exact at_ (r2 [] [.i (-1)] ⟨rfl,rfl⟩ (li (by rw [←c0_1,Zt om];rfl)))
theorem Z3y (ds:List Decl) (c:Int) (hd:DOk ds:=by exact ob):Z3 Tryz.prog 107 [Z2 ds,.i c] [] (fun r h=>r=nInt (Z1 ds c)∧h=[]):=by
 refine enter Tryz.func107 kr (n:=27) kr kr (ar (ir 1 [(0,Z2 ds),(1,.i c)] (ie (ar (irk 2 (.n 6 (Z2 ds) (.n 7 (.i c) .r)) (ic [] (Z7o ds c) ?_))))))
 rintro _ _ ⟨rfl,rfl⟩
 refine irk 1 (.n 5 (.i (Z08 ds c)) .r) (ie (aq (ar (irk 2 (.n 10 (.b (decide ((Z08 ds c)<1))) .r) (ie (ac (decide ((Z08 ds c)<1)) dq (fun hc1=>?_) (fun hc1=>?_)))))))
 ·refine ar (iL (Z8 []) 0 1 ?_)
  intro v1
  refine ir 1 [(4,oInt [] v1)] (ie ?_)
  exact at_ (r2 [] [oInt [] v1] ⟨rfl,rfl⟩ (AVLe.sl _ (congrArg Z8 (by rw [(Z7v hc1).1]))))
 obtain ⟨k,d,x,hk1,hk2,hk3,hk4,hk5⟩:=Za0 hc1
 have hkl:=(List.getElem?_eq_some_iff.1 hk1).1
 have hxl:=(List.getElem?_eq_some_iff.1 hk3).1
 have hsm:=(hd.take k).sum
 have hdl:=hd.cons_at hk1
 have hdn:=hd.len
 refine ak (aD 16 (dtk (fuel:=14) 16 [0,1] (.n 12 (Z2 ds) (.n 13 (.i (Z08 ds c)) .r)) (da 2 ((k:Int)) ((Z08 ds c)-(1)) (hb:=(by have:=hd.len;omega)) ?_)))
 obtain ⟨x1,hx1⟩:=Z6 (xs:=ds) (j:=k) om
 have hxe:x1=d:=by rw [hk1] at hx1;exact (Option.some.inj hx1).symm
 subst hxe
 refine dx 3 (Z0 (es:=Z0i ds) (hv:=none) (j:=(k:Int)) (sz:=3) (y:=Z2s x1) kr om (Z0z hx1) rfl) (dt (fuel:=7) 12 [4,5,6,7,8] [(17,nCon x1.cons),(18,.i c),(19,Z2 ds),(20,.i (Z08 ds c))] (da 9 ((k:Int)) ((Z08 ds c)-(1)) (hb:=(by have:=hd.len;omega)) (do_ 10 (dc 10 [] [] [] (Z6t ds k) ?_))))
 rintro _ _ ⟨rfl,rfl⟩
 refine da 11 ((c-((Zs (ds.take k):Nat):Int))) ((c)-(((Zs (ds.take k):Nat):Int))) ?_
 obtain ⟨x2,hx2⟩:=Z6 (xs:=x1.cons) (j:=(c-((Zs (ds.take k):Nat):Int)).toNat) om
 have hxe:x2=x:=by rw [show (c - ↑(Zs (ds.take k))).toNat=(c-Zs (ds.take k)).toNat from rfl,hk3] at hx2;exact (Option.some.inj hx2).symm
 subst hxe
 refine dx 12 (Z0 (es:=Z37 x1.cons) (hv:=none) (j:=(c-((Zs (ds.take k):Nat):Int))) (sz:=1) (y:=aCon x2) kr om (Z4g hx2) rfl) (dt (fuel:=0) 3 [13,14,15] [(4,nInt x2.fields)] (de ?_))
 exact at_ (r2 [] [nInt x2.fields] ⟨rfl,rfl⟩ (AVLe.sl _ (congrArg Z8 hk5.symm)))
theorem Z8e (ds:List Decl) (t:Int) (hd:DOk ds:=by exact ob):Z3 Tryz.prog 106 [Z2 ds,.i t] [] (fun r h=>∃(v:Value),r=oInt (Zb ds t) v∧h=[.tail v 1]):=by
 have hdn:=hd.len
 refine enter Tryz.func106 kr (n:=35) kr kr (ar (ir 1 [(0,Z2 ds),(1,.i t)] (ie (ar (iL (Z8 []) 0 1 ?_)))))
 intro v1
 refine irk 1 (.n 5 (oInt [] v1) .r) (ie (aq (ar (irk 2 (.n 8 (.i t) (.n 9 (Z2 ds) .r)) (iw (Z0c ds) (ic [] (Z0w t 1 (ds.length:Int)) ?_))))))
 rintro _ _ ⟨rfl,rfl⟩
 refine irk 1 (.n 12 (.b (!(decide (1≤t∧t≤(ds.length:Int))))) .r) (ie (ac (!(decide (1≤t∧t≤(ds.length:Int)))) (p:=¬(1≤t∧t≤(ds.length:Int))) (Zc dq) (fun hc1=>?_) (fun hc1=>?_)))
 ·refine ar (ir 2 [(4,oInt [] v1)] (ie ?_))
  exact at_ (r2 [0] [oInt [] v1] ⟨v1,rfl,rfl⟩ (AVLe.slh _ (congrArg Z8 (by simp [Zb];omega))))
 have hc1:1≤t∧t≤ds.length:=by simpa using hc1
 obtain ⟨d,hd1⟩:=Z6 (xs:=ds) (j:=(t-1).toNat) om
 have hdc:=hd.cons_at hd1
 have hsm:=(hd.take (t-1).toNat).sum
 refine ak (aq (ar (irk 1 (.n 6 (.i 0) .r) (ie (ab 0 (al (fun m F h=>∃(k:Nat) (v:Value),(k≤d.cons.length)∧F=[(0,Z2 ds),(1,.i t),(5,oInt (Z18 (Zs (ds.take (t-1).toNat)) k) v),(6,.i k)]∧h=[.tail v 1]∧m=d.cons.length-k) _ _ _ ⟨0,v1,(by first|omega|rfl|(simp<;>omega)|grind [Zb,Z18]),rfl,rfl,rfl⟩ (wk [0] (fw (fc (x:=oInt [] v1) (AVLe.slh _ (congrArg Z8 (by first|omega|rfl|(simp<;>omega)|grind [Zb,Z18]))) (fc (x:=.i 0) (li (by first|omega|rfl|(simp<;>omega)|grind [Zb,Z18])) fl)))) ?_))))))
 rintro m F h ⟨k,v,c0_0,rfl,rfl,rfl⟩
 refine aq (ar (irk 3 (.n 14 (.i k) (.n 15 (Z2 ds) (.n 16 (.i t) .r))) (ia ((((t-1).toNat:Nat):Int)) ((t)-(1)) (is_ (Z0 (es:=Z0i ds) (hv:=none) (j:=(((t-1).toNat:Nat):Int)) (sz:=3) (y:=Z2s d) kr om (Z0z hd1) rfl) (irk 2 (.n 20 (nCon d.cons) .r) (iw (Z0k d.cons) (irk 1 (.n 22 (.b (decide ((k:Int)<(d.cons.length:Int)))) .r) (ie (ac (decide ((k:Int)<(d.cons.length:Int))) dq (fun hc2=>?_) (fun hc2=>?_))))))))))
 ·refine ak (aq (ab 1 (az (irk 3 (.n 25 (oInt (Z18 (Zs (ds.take (t-1).toNat)) k) v) (.n 26 (Z2 ds) (.n 27 (.i t) .r))) (ia ((((t-1).toNat:Nat):Int)) ((t)-(1)) (ic [] (Z6t ds ((t-1).toNat) (hd:=(by first|omega|rfl|(simp<;>omega)|grind [Zb,Z18])) (hn:=(by first|omega|rfl|(simp<;>omega)|grind [Zb,Z18]))) ?_))))))
  rintro _ _ ⟨rfl,rfl⟩
  refine irk 1 (.n 30 (.i k) .r) (ia ((((Zs (ds.take ((t-1).toNat)))+k:Nat):Int)) ((((Zs (ds.take ((t-1).toNat)):Nat):Int))+((k:Int))) (iL (Z8 [(((Zs (ds.take ((t-1).toNat)))+k:Nat):Int)]) 1 1 ?_))
  intro v2
  refine irk 0 (.n 32 (nInt [(((Zs (ds.take ((t-1).toNat)))+k:Nat):Int)]) (.p .r)) (ip 1 (Z8 (Z18 (Zs (ds.take (t-1).toNat)) k++[(((Zs (ds.take ((t-1).toNat)))+k:Nat):Int)])) (Z8 (Z18 (Zs (ds.take (t-1).toNat)) k)) (Z8 [(((Zs (ds.take ((t-1).toNat)))+k:Nat):Int)]) v none 1 (Z11 _) (Z11 _) (Z3u _) (by simp<;>omega) (by simp [Z29,Z8]) ?_)
  intro v3
  refine ir 1 [(0,Z2 ds),(1,.i t),(5,oInt (Z18 (Zs (ds.take (t-1).toNat)) k++[(((Zs (ds.take ((t-1).toNat)))+k:Nat):Int)]) v3),(6,.i k)] (ie (az (irk 1 (.n 23 (.i k) .r) (ia (((k+1:Nat):Int)) (((k:Int))+(1)) (irk 1 (.n 6 (.i (k+1:Nat)) (.p (.d (.k (.k (.k .z)))))) (ie ?_))))))
  exact ⟨_,_,_,(by first|omega|rfl|(simp<;>omega)|grind [Zb,Z18]),⟨k+1,v3,(by first|omega|rfl|(simp<;>omega)|grind [Zb,Z18]),rfl,rfl,rfl⟩,(wk [0] (fw (fc (x:=oInt (Z18 (Zs (ds.take (t-1).toNat)) k++[(((Zs (ds.take ((t-1).toNat)))+k:Nat):Int)]) v3) (AVLe.slh _ (congrArg Z8 (Zd2 _ _).symm)) (fc (x:=.i (k+1:Nat)) (li (by first|omega|rfl|(simp<;>omega)|grind [Zb,Z18])) fl))))⟩
 refine ax 0 (ar (ir 2 [(4,oInt (Z18 (Zs (ds.take (t-1).toNat)) k) v)] (ie ?_)))
 exact at_ (r2 [0] [oInt (Z18 (Zs (ds.take (t-1).toNat)) k) v] ⟨v,rfl,rfl⟩ (AVLe.slh _ (congrArg Z8 (by rw [Zb,if_pos hc1,hd1,show k=d.cons.length by omega];rfl))))
theorem Zhr (ds:List Decl) (frm:Int) (to_:Int) (hl_ds:ds.length≤4294967296:=by exact ob):Z3 Tryz.prog 208 [Z2 ds,.i frm,.i to_] [] (fun r h=>r=.i (Z2a ds frm to_)∧h=[]):=by
 refine enter Tryz.func208 kr (n:=41) kr kr (ar (ir 1 [(0,Z2 ds),(1,.i frm),(2,.i to_)] (ie (aq (ar (irk 1 (.n 7 (.i 0) .r) (ie (ab 0 (al (fun m F h=>∃(k:Nat),(k≤ds.length)∧(Z3r frm to_ (ds.drop k) k=Z2a ds frm to_)∧F=[(0,Z2 ds),(1,.i frm),(2,.i to_),(7,.i k)]∧h=[]∧m=ds.length-k) _ _ _ ⟨0,ob,ob,rfl,rfl,rfl⟩ (wk [] (fw (fr (fc (x:=.i 0) li fl)))) ?_)))))))))
 rintro m F h ⟨k,c0_0,c0_1,rfl,rfl,rfl⟩
 refine aq (ar (irk 2 (.n 8 (.i k) (.n 9 (Z2 ds) .r)) (iw (Z0c ds) (irk 1 (.n 11 (.b (decide ((k:Int)<(ds.length:Int)))) .r) (ie (ac (decide ((k:Int)<(ds.length:Int))) dq (fun hc1=>?_) (fun hc1=>?_)))))))
 ·refine ak (aq (ab 1 (ar (irk 2 (.n 14 (Z2 ds) (.n 15 (.i k) .r)) ?_))))
  obtain ⟨x1,hx1⟩:=Z6 (xs:=ds) (j:=k) om
  refine is_ (Z0 (es:=Z0i ds) (hv:=none) (j:=(k:Int)) (sz:=3) (y:=Z2s x1) kr om (Z0z hx1) rfl) (irk 2 (.n 18 (nCon x1.cons) .r) (iw (Z0k x1.cons) (Z1n 16 [(0,Z2 ds),(1,.i frm),(2,.i to_),(7,.i k),(29,.b (((x1.cons.length:Int)==0)&&(x1.frm==frm)))] [] ?_ (fun hj1=>?_))))
  ·refine Z24 [(0,Z2 ds),(1,.i frm),(2,.i to_),(7,.i k),(38,.b ((((x1.cons.length:Int)==0)&&(x1.frm==frm))&&(x1.to_==to_)))] [] ?_ ?_
   ·refine ir 1 [(0,Z2 ds),(1,.i frm),(2,.i to_),(7,.i k),(30,.b (((x1.cons.length:Int)==0)&&(x1.frm==frm)))] (ib (b:=(((x1.cons.length:Int)==0)&&(x1.frm==frm))) 30 (fun hb1=>?_) (fun hb1=>?_))
    ·have hp1:((x1.cons.length:Int)=0)∧(x1.frm=frm):=((Zj beq_iff_eq beq_iff_eq)).1 hb1
     refine irk 2 (.n 31 (Z2 ds) (.n 32 (.i k) (.w (.k .z)))) (is_ (Z0 (es:=Z0i ds) (hv:=none) (j:=(k:Int)) (sz:=3) (y:=Z2s x1) kr om (Z0z hx1) rfl) (irk 5 (.n 38 (.b (x1.to_==to_)) .r) (ie ?_)))
     exact wk [] (fq (fc (x:=.b (x1.to_==to_)) (lb (by simp only [hb1];rfl)) fl))
    have hp2:¬(((x1.cons.length:Int)=0)∧(x1.frm=frm)):=Zd (Zj beq_iff_eq beq_iff_eq) hb1
    refine irk 8 (.n 38 (.b false) (.d (.w .z))) (ie ?_)
    exact wk [] (fq (fc (x:=.b false) (lb (by simp only [hb1];rfl)) fl))
   refine ac ((((x1.cons.length:Int)==0)&&(x1.frm==frm))&&(x1.to_==to_)) (p:=(((x1.cons.length:Int)=0)∧(x1.frm=frm))∧(x1.to_=to_)) (Zj (Zj beq_iff_eq beq_iff_eq) beq_iff_eq) (fun hc2=>?_) (fun hc2=>?_)
   ·refine ar (ir 1 [(39,.i k)] (ia (((k+1:Nat):Int)) (((k:Int))+(1)) (ir 1 [(6,.i (k+1:Nat))] (ie ?_))))
    rw [Z5 hx1] at c0_1
    exact at_ (r2 [] [.i (k+1:Nat)] ⟨rfl,rfl⟩ (li (by clear hx1;first|rfl|omega|grind [Z3r])))
   refine ak (az (ir 1 [(0,Z2 ds),(1,.i frm),(2,.i to_),(12,.i k)] (ia (((k+1:Nat):Int)) (((k:Int))+(1)) (irk 1 (.n 7 (.i (k+1:Nat)) .r) (ie ?_)))))
   have hdr:=Z5 hx1
   exact ⟨_,_,_,ob,⟨k+1,ob,(by rw [hdr] at c0_1;clear hdr hx1;grind [Z3r]),rfl,rfl,rfl⟩,(wk [] (fw (fr (fc (x:=.i (k+1:Nat)) li fl))))⟩
  refine ir 2 [(0,Z2 ds),(1,.i frm),(2,.i to_),(7,.i k),(21,.b ((x1.cons.length:Int)==0))] (ib (b:=((x1.cons.length:Int)==0)) 21 (fun hb2=>?_) (fun hb2=>?_))
  ·have hp3:(x1.cons.length:Int)=0:=(beq_iff_eq).1 hb2
   refine irk 2 (.n 22 (Z2 ds) (.n 23 (.i k) (.w (.k .z)))) (is_ (Z0 (es:=Z0i ds) (hv:=none) (j:=(k:Int)) (sz:=3) (y:=Z2s x1) kr om (Z0z hx1) rfl) (irk 5 (.n 29 (.b (x1.frm==frm)) .r) ?_))
   exact Zy (wk [] (fq (fc (x:=.b (x1.frm==frm)) (lb (by simp only [hb2];rfl)) fl))) hj1
  have hp4:¬((x1.cons.length:Int)=0):=Zd beq_iff_eq hb2
  refine irk 8 (.n 29 (.b false) (.d (.w .z))) ?_
  exact Zy (wk [] (fq (fc (x:=.b false) (lb (by simp only [hb2];rfl)) fl))) hj1
 refine ax 0 (ar (ir 1 [(6,.i (-1))] (ie ?_)))
 try rw [Zt (xs:=ds) (k:=k) om] at c0_1
 exact at_ (r2 [] [.i (-1)] ⟨rfl,rfl⟩ (li (by first|rfl|omega|grind [Z3r])))
theorem Zaa (ds:List Decl) (t:Int) (hd:DOk ds:=by exact ob):Z3 Tryz.prog 187 [Z2 ds,.i t] [] (fun r h=>r=.b (Z00 ds t)∧h=[]):=by
 have hdn:=hd.len
 refine enter Tryz.func187 kr (n:=19) kr kr (ar (ir 1 [(0,Z2 ds),(1,.i t)] (ie (ar (irk 2 (.n 5 (.i t) (.n 6 (Z2 ds) .r)) (iw (Z0c ds) (ic [] (Z0w t 1 (ds.length:Int)) ?_)))))))
 rintro _ _ ⟨rfl,rfl⟩
 refine irk 1 (.n 9 (.b (decide (1≤t∧t≤(ds.length:Int)))) .r) (ib (b:=(decide (1≤t∧t≤(ds.length:Int)))) 9 (fun hb1=>?_) (fun hb1=>?_))
 ·have hp1:1≤t∧t≤(ds.length:Int):=(dq).1 hb1
  refine irk 2 (.n 10 (Z2 ds) (.n 11 (.i t) (.k .z))) (ia ((t-1)) ((t)-(1)) ?_)
  obtain ⟨x1,hx1⟩:=Z6 (xs:=ds) (j:=(t-1).toNat) om
  refine is_ (Z0 (es:=Z0i ds) (hv:=none) (j:=(t-1)) (sz:=3) (y:=Z2s x1) kr om (Z0z hx1) rfl) (irk 2 (.n 15 (nCon x1.cons) .r) (iw (Z0k x1.cons) (ir 3 [(4,.b ((x1.cons.length:Int)==0))] (ie ?_))))
  exact at_ (r2 [] [.b ((x1.cons.length:Int)==0)] ⟨rfl,rfl⟩ (lb (by first|omega|rfl|(rw [Z74 hp1 hx1])|exact Z95 hp2)))
 have hp2:¬(1≤t∧t≤(ds.length:Int)):=Zd dq hb1
 refine ir 10 [(4,.b false)] (ie ?_)
 exact at_ (r2 [] [.b false] ⟨rfl,rfl⟩ (lb (by first|omega|rfl|(rw [Z74 hp1 hx1])|exact Z95 hp2)))
theorem Zik (xs:List Int) (ys:List Int) (hl:xs.length+ys.length≤4294967296:=by exact ob):Z3 Tryz.prog 108 [nInt xs,nInt ys] [] (fun r h=>∃(v:Value),r=oInt (xs++ys) v∧h=[.tail v 1]):=by
 refine enter Tryz.func108 kr (n:=9) kr kr (ar (ir 1 [(0,nInt xs),(1,nInt ys)] (ie (ar (irk 1 (.n 5 (nInt xs) .r) (ic [] (Z26 xs) ?_))))))
 rintro _ _ ⟨v1,rfl,rfl⟩
 refine irk 1 (.n 7 (nInt ys) .r) (ip 0 (Z8 (xs++ys)) (Z8 xs) (Z8 ys) v1 none 1 (Z11 _) (Z11 _) (Z3u _) (by simp<;>omega) (by simp [Z29,Z8]) ?_)
 intro v2
 refine ir 1 [(4,oInt (xs++ys) v2)] (ie ?_)
 exact at_ (r1 [0] ⟨v2,rfl,rfl⟩)
theorem Z9n (ds:List Decl) (xs:List Int) (hl_ds:ds.length≤4294967296:=by exact ob) (hl_xs:xs.length≤4294967296:=by exact ob):Z3 Tryz.prog 181 [Z2 ds,nInt xs] [] (fun r h=>r=.b (Z1p ds.length xs)∧h=[]):=by
 refine enter Tryz.func181 kr (n:=20) kr kr (ar (ir 1 [(0,Z2 ds),(1,nInt xs)] (ie (aq (ar (irk 1 (.n 5 (.i 0) .r) (ie (ab 0 (al (fun m F h=>∃(k:Nat),(k≤xs.length)∧(Z1p ds.length (xs.drop k)=Z1p ds.length xs)∧F=[(0,Z2 ds),(1,nInt xs),(5,.i k)]∧h=[]∧m=xs.length-k) _ _ _ ⟨0,ob,ob,rfl,rfl,rfl⟩ (wk [] (fw (fc (x:=.i 0) li fl))) ?_)))))))))
 rintro m F h ⟨k,c0_0,c0_1,rfl,rfl,rfl⟩
 refine aq (ar (irk 2 (.n 6 (.i k) (.n 7 (nInt xs) .r)) (iw (Z4 xs) (irk 1 (.n 9 (.b (decide ((k:Int)<(xs.length:Int)))) .r) (ie (ac (decide ((k:Int)<(xs.length:Int))) dq (fun hc1=>?_) (fun hc1=>?_)))))))
 ·refine ak (aq (ab 1 (ar (irk 2 (.n 12 (nInt xs) (.n 13 (.i k) .r)) ?_))))
  obtain ⟨x1,hx1⟩:=Z6 (xs:=xs) (j:=k) om
  refine is_ (Z0 (es:=Z8 xs) (hv:=none) (j:=(k:Int)) (sz:=1) (y:=.i x1) kr om (Z9 hx1) rfl) (irk 2 (.n 15 (.i x1) (.n 16 (Z2 ds) .r)) (iw (Z0c ds) (ic [] (Z0w x1 0 (ds.length:Int)) ?_)))
  rintro _ _ ⟨rfl,rfl⟩
  refine irk 1 (.n 19 (.b (!(decide (0≤x1∧x1≤(ds.length:Int))))) .r) (ie (ac (!(decide (0≤x1∧x1≤(ds.length:Int)))) (p:=¬(0≤x1∧x1≤(ds.length:Int))) (Zc dq) (fun hc2=>?_) (fun hc2=>?_)))
  ·refine ar (ir 1 [(4,.b false)] (ie ?_))
   rw [Z5 hx1] at c0_1
   exact at_ (r2 [] [.b false] ⟨rfl,rfl⟩ (lb (by clear hx1;first|rfl|omega|grind [Z1p])))
  refine ak (az (irk 1 (.n 10 (.i k) .r) (ia (((k+1:Nat):Int)) (((k:Int))+(1)) (ir 1 [(0,Z2 ds),(1,nInt xs),(5,.i (k+1:Nat))] (ie ?_)))))
  have hdr:=Z5 hx1
  exact ⟨_,_,_,ob,⟨k+1,ob,(by rw [hdr] at c0_1;clear hdr hx1;grind [Z1p]),rfl,rfl,rfl⟩,(wk [] (fw (fc (x:=.i (k+1:Nat)) li fl)))⟩
 refine ax 0 (ar (ir 1 [(4,.b true)] (ie ?_)))
 try rw [Zt (xs:=xs) (k:=k) om] at c0_1
 exact at_ (r2 [] [.b true] ⟨rfl,rfl⟩ (lb (by first|rfl|omega|grind [Z1p])))
theorem Z8i (xs:List Int) (hl_xs:xs.length≤4294967296:=by exact ob):Z3 Tryz.prog 60 [nInt xs] [] (fun r h=>∃(v:Value),r=oInt xs v∧h=[.tail v 1]):=by
 refine enter Tryz.func60 kr (n:=8) kr kr (ar (ir 1 [(0,nInt xs)] (ie (aq (ar (irk 1 (.n 3 (nInt xs) .r) (iN (Z8 xs) (fun hz1=>?_) ?_)))))))
 ·have hz1:=Zgt hz1
  refine ie (ac1 (ar (ir 1 [(2,nl)] (ie (Z6b 1 ?_)))))
  exact at_ (r2 [0] [nl] ⟨(.slice none 0 0),rfl,rfl⟩ (AVLe.slh _ (by first|rfl|(subst_vars;rfl))))
 refine ie (ac0 (ak (ar (iL (Z8 []) 0 1 ?_))))
 intro v1
 refine irk 1 (.n 6 (nInt xs) .r) (ip 0 (Z8 xs) (Z8 []) (Z8 xs) v1 none 1 (Z11 _) (Z11 _) (Z3u _) (by simp<;>omega) (by simp [Z8]) ?_)
 intro v2
 refine ir 1 [(2,oInt xs v2)] (ie ?_)
 exact at_ (r1 [0] ⟨v2,rfl,rfl⟩)
theorem Z9x (xs:List Int) (hl_xs:xs.length≤4294967296:=by exact ob):Z3 Tryz.prog 60 [nInt xs] [] (fun r h=>∃(v:Hd),r=.h v∧h=[rV v xs]):=by
 refine enter Tryz.func60 kr (n:=8) kr kr (ar (ir 1 [(0,nInt xs)] (ie (aq (ar (irk 1 (.n 3 (nInt xs) .r) (iN (Z8 xs) (fun hz1=>?_) ?_)))))))
 ·have hz1:=Zgt hz1
  refine ie (ac1 (ar (ir 1 [(2,nl)] (ie (Z2e tNil ?_)))))
  exact at_ (r2 [0] [nl] ⟨hN,rfl,rfl⟩ (AVLe.hd (v:=hN)) (eq:=(rv (xs:=[]) ob rz)))
 refine ie (ac0 (ak (ar (iVL [] 0 ?_))))
 intro v1
 refine irk 1 (.n 6 (nInt xs) .r) (iVP 0 v1 [] xs none ?_)
 intro v2
 refine ir 1 [(2,.h v2)] (ie ?_)
 exact at_ (r1 [0] ⟨v2,rfl,rfl⟩ (eq:=(rv (xs:=([]++xs)) ob rz)))
theorem Z7t (xs:List Int) (i:Int) (hl_xs:xs.length≤4294967296:=by exact ob):Z3 Tryz.prog 198 [nInt xs,.i i] [] (fun r h=>r=.i (Zn6 xs i)∧h=[]):=by
 refine enter Tryz.func198 kr (n:=19) kr kr (ar (ir 1 [(0,nInt xs),(1,.i i)] (ie (aq (ar (irk 1 (.n 6 (nInt xs) .r) (iw (Z4 xs) (irk 1 (.n 8 (.i 0) .r) (ie (ab 0 (al (fun m F h=>∃(k:Nat),(k≤xs.length)∧(Zb6 i (xs.drop k) k=Zn6 xs i)∧F=[(0,nInt xs),(1,.i i),(7,.i xs.length),(8,.i k)]∧h=[]∧m=xs.length-k) _ _ _ ⟨0,ob,(by rfl),rfl,rfl,rfl⟩ (wk [] (fw (fr (fc (x:=.i 0) li fl)))) ?_)))))))))))
 rintro m F h ⟨k,c0_0,c0_1,rfl,rfl,rfl⟩
 refine ar (irk 1 (.n 9 (.b (decide ((k:Int)<(xs.length:Int)))) .r) (ie (aq (ac (decide ((k:Int)<(xs.length:Int))) dq (fun hc1=>?_) (fun hc1=>?_)))))
 ·refine ak (aq (ab 1 (ar (irk 2 (.n 5 (.i k) .r) (ie (ar (irk 3 (.n 11 (.i i) (.n 12 (nInt xs) (.n 13 (.i k) .r))) ?_)))))))
  obtain ⟨x1,hx1⟩:=Z6 (xs:=xs) (j:=k) om
  refine is_ (Z0 (es:=Z8 xs) (hv:=none) (j:=(k:Int)) (sz:=1) (y:=.i x1) kr om (Z9 hx1) rfl) (irk 2 (.n 16 (.b (i==x1)) .r) (ie (ac (i==x1) beq_iff_eq (fun hc2=>?_) (fun hc2=>?_))))
  ·refine ar (ir 2 [(4,.i k)] (ie ?_))
   rw [Z5 hx1] at c0_1
   exact at_ (r2 [] [.i k] ⟨rfl,rfl⟩ (li (by clear hx1;first|rfl|omega|grind [Zb6])))
  refine ak (az (ia (((k+1:Nat):Int)) (((k:Int))+(1)) (ir 1 [(0,nInt xs),(1,.i i),(7,.i xs.length),(8,.i (k+1:Nat))] (ie ?_))))
  have hdr:=Z5 hx1
  exact ⟨_,_,_,ob,⟨k+1,ob,(by rw [hdr] at c0_1;clear hdr hx1;grind [Zb6]),rfl,rfl,rfl⟩,(wk [] (fw (fr (fc (x:=.i (k+1:Nat)) li fl))))⟩
 refine ax 0 (ar (ir 1 [(4,.i (-1))] (ie ?_)))
 try rw [Zt (xs:=xs) (k:=k) om] at c0_1
 exact at_ (r2 [] [.i (-1)] ⟨rfl,rfl⟩ (li (by first|rfl|omega|grind [Zb6])))
theorem Z38 (xs:List Int) (i:Int) (hl_xs:xs.length≤4294967296:=by exact ob):Z3 Tryz.prog 162 [nInt xs,.i i] [] (fun r h=>r=.b (decide (i∈xs))∧h=[]):=by
 refine enter Tryz.func162 kr (n:=9) kr kr (ar (ir 1 [(0,nInt xs),(1,.i i)] (ie (ar (ir 2 [(5,nInt xs),(6,.i i)] (ic [] (Z7t xs i) ?_))))))
 rintro _ _ ⟨rfl,rfl⟩
 refine ir 2 [(4,.b (decide ((Zn6 xs i)≥0)))] (ie ?_)
 exact at_ (r2 [] [.b (decide ((Zn6 xs i)≥0))] ⟨rfl,rfl⟩ (lb (Zt4 xs i)))
theorem Z1a (xs:List Int) (ys:List Int) (hl_xs:xs.length≤4294967296:=by exact ob) (hl_ys:ys.length≤4294967296:=by exact ob):Z3 Tryz.prog 215 [nInt xs,nInt ys] [] (fun r h=>r=.b (decide (xs=ys))∧h=[]):=by
 refine enter Tryz.func215 kr (n:=26) kr kr (ar (ir 1 [(0,nInt xs),(1,nInt ys)] (ie (aq (ar (irk 1 (.n 6 (nInt xs) .r) (iw (Z4 xs) (irk 1 (.n 8 (nInt ys) .r) (iw (Z4 ys) (irk 1 (.n 10 (.b ((xs.length:Int) != (ys.length:Int))) .r) (ie (ac ((xs.length:Int) != (ys.length:Int)) bne_iff_ne (fun hc1=>?_) (fun hc1=>?_)))))))))))))
 ·refine ar (ir 1 [(4,.b false)] (ie ?_))
  exact at_ (r2 [] [.b false] ⟨rfl,rfl⟩ (lb (eq_comm.1 (decide_eq_false (fun q=>by rw [q] at hc1;exact hc1 rfl)))))
 refine ak (aq (ar (irk 1 (.n 11 (nInt xs) .r) (iw (Z4 xs) (irk 1 (.n 13 (.i 0) .r) (ie (ab 0 (al (fun m F h=>∃(k:Nat),(k≤xs.length)∧(xs.take k=ys.take k)∧F=[(0,nInt xs),(1,nInt ys),(12,.i xs.length),(13,.i k)]∧h=[]∧m=xs.length-k) _ _ _ ⟨0,ob,ob,rfl,rfl,rfl⟩ (wk [] (fw (fr (fc (x:=.i 0) li fl)))) ?_))))))))
 rintro m F h ⟨k,c0_0,c0_1,rfl,rfl,rfl⟩
 refine ar (irk 1 (.n 14 (.b (decide ((k:Int)<(xs.length:Int)))) .r) (ie (aq (ac (decide ((k:Int)<(xs.length:Int))) dq (fun hc2=>?_) (fun hc2=>?_)))))
 ·refine ak (aq (ab 1 (ar (irk 2 (.n 5 (.i k) .r) (ie (aD 9 (dtk (fuel:=7) 9 [0,1] (.n 16 (nInt xs) (.n 17 (.i k) .r)) ?_)))))))
  obtain ⟨x1,hx1⟩:=Z6 (xs:=xs) (j:=k) om
  refine dx 2 (Z0 (es:=Z8 xs) (hv:=none) (j:=(k:Int)) (sz:=1) (y:=.i x1) kr om (Z9 hx1) rfl) (dtk (fuel:=3) 6 [3,4,5] (.n 19 (.i x1) (.n 20 (nInt ys) (.n 21 (.i k) .r))) ?_)
  obtain ⟨x2,hx2⟩:=Z6 (xs:=ys) (j:=k) om
  refine dx 6 (Z0 (es:=Z8 ys) (hv:=none) (j:=(k:Int)) (sz:=1) (y:=.i x2) kr om (Z9 hx2) rfl) (dtk (fuel:=0) 2 [7,8] (.n 24 (.b (x1 != x2)) .r) (de (ac (x1 != x2) bne_iff_ne (fun hc3=>?_) (fun hc3=>?_))))
  ·refine ar (ir 1 [(4,.b false)] (ie ?_))
   exact at_ (r2 [] [.b false] ⟨rfl,rfl⟩ (lb (eq_comm.1 (decide_eq_false (fun q=>by subst q;rw [hx1] at hx2;cases hx2;exact hc3 rfl)))))
  refine ak (az (ia (((k+1:Nat):Int)) (((k:Int))+(1)) (ir 1 [(0,nInt xs),(1,nInt ys),(12,.i xs.length),(13,.i (k+1:Nat))] (ie ?_))))
  have hdr:=Z5 hx1
  exact ⟨_,_,_,ob,⟨k+1,ob,(by rw [Z1l hx1,Z1l hx2,c0_1];have hxx:x1=x2:=om;rw [hxx]),rfl,rfl,rfl⟩,(wk [] (fw (fr (fc (x:=.i (k+1:Nat)) li fl))))⟩
 refine ax 0 (ar (ir 1 [(4,.b true)] (ie ?_)))
 exact at_ (r2 [] [.b true] ⟨rfl,rfl⟩ (lb (eq_comm.1 (decide_eq_true (by rw [List.take_of_length_le om,List.take_of_length_le om] at c0_1;exact c0_1)))))
theorem Z8d (m:Nat) (hm:m≤4294967296:=by exact ob):Z3 Tryz.prog 223 [nl,.i m] [] (fun r h=>∃(v:Hd),r=.h v∧h=[rV v []]):=by
 refine enter Tryz.func223 kr (n:=27) kr kr (Z2e tNil (Zge (F':=[(0,.h hN),(1,.i m)]) (h':=[rV hN []]) (wk [0] (fc (x:=nl) (AVLe.hd (v:=hN)) ( fc (x:=.i m) (lr _) (Zw1 _)))) (ar (ir 1 [(0,.h hN),(1,.i m)] (ie (aq (ar (irk 2 (.n 6 (.b (decide ((m:Int)<0))) .r) (ie (ac (decide ((m:Int)<0)) dq (fun hc1=>?_) (fun hc1=>?_)))))))))))
 ·exfalso;omega
 refine ak (aq (ar (irk 2 (.n 8 (.i m) (.n 9 (.h hN) .r)) (is_ (StOK.le (Z02b hN) (li (by rfl))) (irk 1 (.n 11 (.h hN) .r) (is_ (StOK.le (vLen 0 hN []) (li (by rfl))) (ia ((0-0)) ((0)-(0)) (ia ((m:Int)) (((m:Int))-((0-0))) (ir 1 [(0,.h hN),(1,.i m)] (ie (ar (irk 2 (.n 16 (.b (decide ((m:Int)>0))) .r) (ie (ac (decide ((m:Int)>0)) dq (fun hc2=>?_) (fun hc2=>?_)))))))))))))))
 ·refine az (irk 2 (.n 17 (.h hN) (.n 18 (.h hN) .r)) (is_ (StOK.le (Z02b hN) (li (by rfl))) (is_ (vCut 0 hN [] 0) (irk 1 (.n 21 (.i m) .r) (iZ m ?_)))))
  intro v1
  refine irk 1 (.n 23 (.h hN) .r) (is_ (StOK.le (vLen 1 hN []) (li (by rfl))) (is_ (vCut 0 v1 (List.replicate m 0) 0) (ir 1 [(0,.h (v1.cut 0))] (ie (ar (ir 2 [(4,.h (v1.cut 0))] (ie (Z2e (tCut 0 0 v1 (List.replicate m 0)) ?_))))))))
  exact at_ (r1 [0] ⟨(v1.cut 0),rfl,rfl⟩ (eq:=(rv (xs:=((List.replicate m 0).take 0)) ob rz)))
 refine ak (ar (ir 2 [(4,.h hN)] (ie ?_)))
 exact at_ (r1 [0] ⟨hN,rfl,rfl⟩)
theorem Z7n (xss:List (List Int)) (hl_xss:xss.length≤4294967296:=by exact ob) (hf:xss.flatten.length≤4294967296:=by exact ob):Z3 Tryz.prog 214 [Z2y xss] [] (fun r h=>∃(v:Value),r=oInt xss.flatten v∧h=[.tail v 1]):=by
 have hft:=Zmw xss
 refine enter Tryz.func214 kr (n:=36) kr kr (ar (ir 1 [(0,Z2y xss)] (ie (ar (irk 1 (.n 3 (.i 0) .r) (ie (aq (ar (irk 1 (.n 9 (Z2y xss) .r) (iw (Z6z xss) (irk 1 (.n 11 (.i 0) .r) (ie (ab 0 (al (fun m F h=>∃(k:Nat) (q:Nat),(k≤xss.length)∧(q=(xss.take k).flatten.length)∧F=[(0,Z2y xss),(3,.i q),(9,Z2y xss),(10,.i xss.length),(11,.i k)]∧h=[]∧m=xss.length-k) _ _ _ ⟨0,0,ob,(by simp),rfl,rfl,rfl⟩ (wk [] (fr (fc (x:=.i 0) li (fw (fc (x:=.i 0) li fl))))) ?_))))))))))))))
 rintro m F h ⟨k,q,c0_0,c0_1,rfl,rfl,rfl⟩
 refine ar (irk 1 (.n 12 (.b (decide ((k:Int)<(xss.length:Int)))) .r) (ie (aq (ac (decide ((k:Int)<(xss.length:Int))) dq (fun hc1=>?_) (fun hc1=>?_)))))
 ·refine ak (aq (ab 1 (ar ?_)))
  obtain ⟨x1,hx1⟩:=Z6 (xs:=xss) (j:=k) om
  refine is_ (Z0 (es:=Z3a xss) (hv:=none) (j:=(k:Int)) (sz:=1) (y:=nInt x1) kr om (Z4o hx1) rfl) (irk 2 (.n 5 (nInt x1) .r) (ie (ar (irk 2 (.n 15 (.i q) (.n 16 (nInt x1) .r)) (iw (Z4 x1) (ia (((q+x1.length:Nat):Int)) (((q:Int))+((x1.length:Int))) (hb:=(by have:=Zja hx1;omega)) (irk 1 (.n 3 (.i (q+x1.length:Nat)) (.p (.p (.d (.d (.d (.p (.d (.k (.d .r)))))))))) (ie (ar (irk 2 (.n 20 (.b (decide (((q+x1.length:Nat):Int)<0))) .r) (ie (ac (decide (((q+x1.length:Nat):Int)<0)) dq (fun hc2=>?_) (fun hc2=>?_)))))))))))))
  ·exfalso;omega
  refine ak (az (ia (((k+1:Nat):Int)) (((k:Int))+(1)) (irk 1 (.n 11 (.i (k+1:Nat)) (.p (.d (.w .z)))) (ie ?_))))
  have hdr:=Z5 hx1
  exact ⟨_,_,_,ob,⟨k+1,q+x1.length,ob,(by rw [Zgy hx1,List.length_append,c0_1]),rfl,rfl,rfl⟩,(wk [] (fr (fc (x:=.i (q+x1.length:Nat)) li (fw (fc (x:=.i (k+1:Nat)) li fl)))))⟩
 refine ax 0 (ar (irk 1 (.n 23 (.i q) .r) (ic [] (Z8d q (hm:=(by have:=hft k;omega))) ?_)))
 rintro _ _ ⟨v1,rfl,rfl⟩
 refine irk 1 (.n 6 (.h v1) .r) (ie (aq (ar (irk 1 (.n 25 (Z2y xss) .r) (iw (Z6z xss) (irk 1 (.n 27 (.i 0) .r) (ie (ab 2 (al (fun m F h=>∃(j:Nat) (v:Hd),(j≤xss.length)∧F=[(6,.h v),(25,Z2y xss),(26,.i xss.length),(27,.i j)]∧h=[rV v ((xss.take j).flatten)]∧m=xss.length-j) _ _ _ ⟨0,v1,ob,rfl,rfl,rfl⟩ (wk [0] (fw (fr (fc (x:=.i 0) li fl))) (e:=(rv (xs:=[]) ob rz))) ?_)))))))))
 rintro m F h ⟨j,v,c1_0,rfl,rfl,rfl⟩
 refine ar (irk 1 (.n 28 (.b (decide ((j:Int)<(xss.length:Int)))) .r) (ie (aq (ac (decide ((j:Int)<(xss.length:Int))) dq (fun hc3=>?_) (fun hc3=>?_)))))
 ·refine ak (aq (ab 3 (ar ?_)))
  obtain ⟨x2,hx2⟩:=Z6 (xs:=xss) (j:=j) om
  refine is_ (Z0 (es:=Z3a xss) (hv:=none) (j:=(j:Int)) (sz:=1) (y:=nInt x2) kr om (Z4o hx2) rfl) (irk 2 (.n 8 (nInt x2) .r) (ie (az (irk 2 (.n 31 (.h v) (.n 32 (nInt x2) .r)) (iVP 0 v ((xss.take j).flatten) x2 none (hbound:=(by have:=Zja hx2;omega)) ?_)))))
  intro v2
  refine irk 1 (.n 6 (.h v2) (.p (.d (.d (.d (.p (.d (.d .r)))))))) (ie (az (ia (((j+1:Nat):Int)) (((j:Int))+(1)) (irk 1 (.n 27 (.i (j+1:Nat)) (.p (.k (.k (.k .z))))) (ie ?_)))))
  have hdr:=Z5 hx2
  exact ⟨_,_,_,ob,⟨j+1,v2,ob,rfl,rfl,rfl⟩,(wk [0] (fw (fr (fc (x:=.i (j+1:Nat)) li fl))) (e:=(rv (xs:=((xss.take j).flatten++x2)) (Zgy hx2).symm rz)))⟩
 refine ax 2 (ar (ir 2 [(2,.h v)] (ie (Zue 2 0 (v:=v) (xs:=(xss.take j).flatten) ?_))))
 exact at_ (r2 [0] [oInt ((xss.take j).flatten) v.v] ⟨v.v,rfl,rfl⟩ (AVLe.slh _ (congrArg Z8 (by rw [List.take_of_length_le om]))))
theorem Z67 (ds:List Decl) (t:Int) (hl_ds:ds.length≤4294967296:=by exact ob):Z3 Tryz.prog 119 [Z2 ds,.i t] [] (fun r h=>r=.b (decide (0≤t∧t≤ds.length))∧h=[]):=by
 refine enter Tryz.func119 kr (n:=13) kr kr (ar (ir 1 [(0,Z2 ds),(1,.i t)] (ie (ar (Z1n 8 [(12,.b ((decide (t≥0))&&(decide (t≤(ds.length:Int)))))] [] ?_ (fun hj1=>?_))))))
 ·refine ir 1 [(4,.b ((decide (t≥0))&&(decide (t≤(ds.length:Int)))))] (ie ?_)
  exact at_ (r2 [] [.b ((decide (t≥0))&&(decide (t≤(ds.length:Int))))] ⟨rfl,rfl⟩ (lb (by rw [Bool.eq_iff_iff];simp)))
 refine ir 3 [(0,Z2 ds),(1,.i t),(7,.b (decide (t≥0)))] (ib (b:=(decide (t≥0))) 7 (fun hb1=>?_) (fun hb1=>?_))
 ·have hp1:t≥0:=(dq).1 hb1
  refine irk 2 (.n 8 (.i t) (.n 9 (Z2 ds) (.k .z))) (iw (Z0c ds) (ir 2 [(12,.b (decide (t≤(ds.length:Int))))] ?_))
  exact Zy (wk [] (fc (x:=.b (decide (t≤(ds.length:Int)))) (lb (by simp only [hb1];rfl)) fl)) hj1
 have hp2:¬(t≥0):=Zd dq hb1
 refine ir 5 [(12,.b false)] ?_
 exact Zy (wk [] (fc (x:=.b false) (lb (by simp only [hb1];rfl)) fl)) hj1
theorem Z9j (ds:List Decl) (xs:List Int) (hl_ds:ds.length≤4294967296:=by exact ob) (hl_xs:xs.length≤4294967296:=by exact ob):Z3 Tryz.prog 118 [Z2 ds,nInt xs] [] (fun r h=>r=.b (Z1p ds.length xs)∧h=[]):=by
 refine enter Tryz.func118 kr (n:=18) kr kr (ar (ir 1 [(0,Z2 ds),(1,nInt xs)] (ie (aq (ar (irk 1 (.n 7 (nInt xs) .r) (iw (Z4 xs) (irk 1 (.n 9 (.i 0) .r) (ie (ab 0 (al (fun m F h=>∃(k:Nat),(k≤xs.length)∧(Z1p ds.length (xs.drop k)=Z1p ds.length xs)∧F=[(0,Z2 ds),(7,nInt xs),(8,.i xs.length),(9,.i k)]∧h=[]∧m=xs.length-k) _ _ _ ⟨0,ob,ob,rfl,rfl,rfl⟩ (wk [] (fw (fr (fc (x:=.i 0) li fl)))) ?_)))))))))))
 rintro m F h ⟨k,c0_0,c0_1,rfl,rfl,rfl⟩
 refine ar (irk 1 (.n 10 (.b (decide ((k:Int)<(xs.length:Int)))) .r) (ie (aq (ac (decide ((k:Int)<(xs.length:Int))) dq (fun hc1=>?_) (fun hc1=>?_)))))
 ·refine ak (aq (ab 1 (ar ?_)))
  obtain ⟨x1,hx1⟩:=Z6 (xs:=xs) (j:=k) om
  refine is_ (Z0 (es:=Z8 xs) (hv:=none) (j:=(k:Int)) (sz:=1) (y:=.i x1) kr om (Z9 hx1) rfl) (irk 2 (.n 6 (.i x1) .r) (ie (ar (irk 2 (.n 13 (Z2 ds) (.n 14 (.i x1) .r)) (ic [] (Z67 ds x1) ?_)))))
  rintro _ _ ⟨rfl,rfl⟩
  refine irk 1 (.n 16 (.b (!(decide (0≤x1∧x1≤ds.length)))) .r) (ie (ac (!(decide (0≤x1∧x1≤ds.length))) (p:=¬(0≤x1∧x1≤ds.length)) (Zc dq) (fun hc2=>?_) (fun hc2=>?_)))
  ·refine ar (ir 1 [(4,.b false)] (ie ?_))
   rw [Z5 hx1] at c0_1
   exact at_ (r2 [] [.b false] ⟨rfl,rfl⟩ (lb (by clear hx1;first|rfl|omega|grind [Z1p])))
  refine ak (az (ia (((k+1:Nat):Int)) (((k:Int))+(1)) (irk 1 (.n 9 (.i (k+1:Nat)) (.p (.d (.p (.d (.d (.d (.p (.d (.k (.k (.k .z)))))))))))) (ie ?_))))
  have hdr:=Z5 hx1
  exact ⟨_,_,_,ob,⟨k+1,ob,(by rw [hdr] at c0_1;clear hdr hx1;grind [Z1p]),rfl,rfl,rfl⟩,(wk [] (fw (fr (fc (x:=.i (k+1:Nat)) li fl))))⟩
 refine ax 0 (ar (ir 1 [(4,.b true)] (ie ?_)))
 try rw [Zt (xs:=xs) (k:=k) om] at c0_1
 exact at_ (r2 [] [.b true] ⟨rfl,rfl⟩ (lb (by first|rfl|omega|grind [Z1p])))
theorem Zff (ds:List Decl) (hd:DOk ds:=by exact ob):Z3 Tryz.prog 166 [Z2 ds] [] (fun r h=>r=.i (Zs ds:Nat)∧h=[]):=by
 have hdl:=hd.len
 refine enter Tryz.func166 kr (n:=19) kr kr (ar (ir 1 [(0,Z2 ds)] (ie (ar (irk 1 (.n 3 (.i 0) .r) (ie (aq (ar (irk 1 (.n 6 (Z2 ds) .r) (iw (Z0c ds) (irk 1 (.n 8 (.i 0) .r) (ie (ab 0 (al (fun m F h=>∃(k:Nat),(k≤ds.length)∧F=[(3,.i ((Zs (ds.take k):Nat):Int)),(6,Z2 ds),(7,.i ds.length),(8,.i k)]∧h=[]∧m=ds.length-k) _ _ _ ⟨0,ob,rfl,rfl,rfl⟩ (wk [] (fc (x:=.i 0) li (fw (fc (x:=.i 0) li fl)))) ?_))))))))))))))
 rintro m F h ⟨k,c0_0,rfl,rfl,rfl⟩
 refine ar (irk 1 (.n 9 (.b (decide ((k:Int)<(ds.length:Int)))) .r) (ie (aq (ac (decide ((k:Int)<(ds.length:Int))) dq (fun hc1=>?_) (fun hc1=>?_)))))
 ·refine ak (aq (ab 1 (ar ?_)))
  obtain ⟨x1,hx1⟩:=Z6 (xs:=ds) (j:=k) om
  refine is_ (Z0 (es:=Z0i ds) (hv:=none) (j:=(k:Int)) (sz:=3) (y:=Z2s x1) kr om (Z0z hx1) rfl) (irk 1 (.n 11 (Z2s x1) .r) (iA [.i 0,.i 0,nl] ?_))
  intro b1
  refine iS 0 b1 0 (Z2g x1) [.i 0,.i 0,nl] (Z2g x1) (ie (az (irK 3 (.n 12 (.i ((Zs (ds.take k):Nat):Int)) (.n 14 (nCon x1.cons) .r)) [0] [b1] (iw (Z0k x1.cons) (ia (((Zs (ds.take k)+x1.cons.length:Nat):Int)) ((((Zs (ds.take k):Nat):Int))+((x1.cons.length:Int))) (hb:=(by have h1:=hd.cons_at hx1;have h2:=(hd.take k).sum;omega)) (irk 1 (.n 3 (.i ((Zs (ds.take k)+x1.cons.length:Nat):Int)) (.p (.p (.d (.d (.p (.d (.p (.d (.d .r)))))))))) (ie (az (ia (((k+1:Nat):Int)) (((k:Int))+(1)) (irk 1 (.n 8 (.i (k+1:Nat)) (.p (.k (.k (.k .z))))) (ie ?_)))))))))))
  have hdr:=Z5 hx1
  exact ⟨_,_,_,ob,⟨k+1,ob,rfl,rfl,rfl⟩,(wk [] (fc (x:=.i ((Zs (ds.take k)+x1.cons.length:Nat):Int)) (li (by rw [Z1l hx1,Z5f];simp [Zs])) (fw (fc (x:=.i (k+1:Nat)) li fl))))⟩
 refine ax 0 (ar (ir 2 [(2,.i ((Zs (ds.take k):Nat):Int))] (ie ?_)))
 exact at_ (r2 [] [.i ((Zs (ds.take k):Nat):Int)] ⟨rfl,rfl⟩ (li (by rw [List.take_of_length_le om])))
theorem Zcp (ds:List Decl) (c:Int) (hd:DOk ds:=by exact ob) (hc:-9223372036854775808≤c∧c≤9223372036854775807:=by exact ob):Z3 Tryz.prog 167 [Z2 ds,.i c] [] (fun r h=>r=.tup [.i (Z08 ds c),.agg [nInt (Z1 ds c)]]∧h=[]):=by
 have hdl:=hd.len
 refine enter Tryz.func167 kr (n:=38) kr kr (ar (ir 1 [(0,Z2 ds),(1,.i c)] (iA [nl] ?_)))
 intro b1
 refine ie (aq (ar (irk 1 (.n 8 (Z2 ds) .r) (iw (Z0c ds) (irk 1 (.n 10 (.i 0) .r) (ie (ab 0 (al (fun m F h=>∃(k:Nat) (cv:Int),(k≤ds.length)∧(AtC c (Zs (ds.take k)) cv)∧(Z3s c (ds.drop k) k (Zs (ds.take k))=Z3s c ds 0 0)∧F=[(1,.i cv),(5,.p b1 0),(8,Z2 ds),(9,.i ds.length),(10,.i k)]∧h=[.obj b1 [nl]]∧m=ds.length-k) _ _ _ ⟨0,c,ob,(.inl (by simp [Zs])),rfl,rfl,rfl,rfl⟩ (wk [0] (fq (fc (x:=.i 0) li fl))) ?_))))))))
 rintro m F h ⟨k,cv,c0_0,c0_1,c0_2,rfl,rfl,rfl⟩
 refine ar (irk 1 (.n 11 (.b (decide ((k:Int)<(ds.length:Int)))) .r) (ie (aq (ac (decide ((k:Int)<(ds.length:Int))) dq (fun hc1=>?_) (fun hc1=>?_)))))
 ·refine ak (aq (ab 1 (ar (irk 1 (.n 12 (.i k) .r) ?_))))
  obtain ⟨x1,hx1⟩:=Z6 (xs:=ds) (j:=k) om
  refine is_ (Z0 (es:=Z0i ds) (hv:=none) (j:=(k:Int)) (sz:=3) (y:=Z2s x1) kr om (Z0z hx1) rfl) (irk 1 (.n 14 (Z2s x1) .r) (iA [.i 0,.i 0,nl] ?_))
  intro b2
  refine irk 1 (.n 6 (.i k) .r) (iS 0 b2 0 (Z2g x1) [.i 0,.i 0,nl] (Z2g x1) (ie (aq (ar (Z24 [(1,.i cv),(5,.p b1 0),(6,.i k),(7,.p b2 0),(8,Z2 ds),(9,.i ds.length),(10,.i k),(23,.b ((decide (cv≥0))&&(decide (cv<(x1.cons.length:Int)))))] [.obj b2 (Z2g x1),.obj b1 [nl]] ?_ ?_)))))
  ·refine ir 3 [(1,.i cv),(5,.p b1 0),(6,.i k),(7,.p b2 0),(8,Z2 ds),(9,.i ds.length),(10,.i k),(17,.b (decide (cv≥0)))] (ib (b:=(decide (cv≥0))) 17 (fun hb1=>?_) (fun hb1=>?_))
   ·have hp1:cv≥0:=(dq).1 hb1
    refine irK 3 (.n 18 (.i cv) (.n 20 (nCon x1.cons) (.w (.w .z)))) [0] [b2] (iw (Z0k x1.cons) (irk 2 (.n 23 (.b (decide (cv<(x1.cons.length:Int)))) .r) (ie ?_)))
    exact wk [0,0] (fq (fw (fr (fc (x:=.b (decide (cv<(x1.cons.length:Int)))) (lb (by simp only [hb1];rfl)) fl))))
   have hp2:¬(cv≥0):=Zd dq hb1
   refine irk 6 (.n 23 (.b false) (.d (.w (.k (.k (.k .z)))))) (ie ?_)
   exact wk [0,0] (fq (fw (fr (fc (x:=.b false) (lb (by simp only [hb1];rfl)) fl))))
  refine ac ((decide (cv≥0))&&(decide (cv<(x1.cons.length:Int)))) (p:=(cv≥0)∧(cv<(x1.cons.length:Int))) (Zj dq dq) (fun hc2=>?_) (fun hc2=>?_)
  ·refine aD 9 (dt (fuel:=8) 9 [0] [(1,.i cv),(5,.p b1 0),(7,.p b2 0),(24,.i k)] (da 1 (((k+1:Nat):Int)) (((k:Int))+(1)) (dtK (fuel:=4) 7 [2,3,4] (.n 27 (nCon x1.cons) (.n 28 (.i cv) .r)) [0] [b2] ?_)))
   obtain ⟨x2,hx2⟩:=Z6 (xs:=x1.cons) (j:=cv.toNat) om
   refine dx 5 (Z0 (es:=Z37 x1.cons) (hv:=none) (j:=cv) (sz:=1) (y:=aCon x2) kr om (Z4g hx2) rfl) (dtk (fuel:=1) 3 [6,7] (.n 4 (.i (k+1:Nat)) (.n 30 (aCon x2) .r)) (do_ 8 (dS 8 1 [] [] b1 0 (lCon x2) [nl] (lCon x2) (de ?_))))
   have hz:=(hd.take k).sum
   have h3:=hd.cons_at hx1
   have hH:=c0_2.symm.trans (Zmg hx1 c0_1 om h3 hc.1 hc2 hx2)
   exact at_ (r3 [] [.i (k+1:Nat),aCon x2] [0] [(b1,b1)] ⟨rfl,rfl⟩ (AVLe.tup (.cons (li (by rw [Z08,hH];omega)) (.cons (AVLe.agg (.cons (AVLe.sl _ (congrArg Z8 (by rw [Z1,hH]))) .nil)) .nil))))
  refine ak (az (iR 3 [(5,.p b1 0),(8,Z2 ds),(9,.i ds.length),(10,.i k),(31,.i cv),(33,nCon x1.cons)] [0] [b2] (iw (Z0k x1.cons) (iW ((cv)-((x1.cons.length:Int))) (irk 1 (.n 1 (.i (wrp ((cv)-((x1.cons.length:Int))))) .r) (ie (az (ia (((k+1:Nat):Int)) (((k:Int))+(1)) (irk 1 (.n 10 (.i (k+1:Nat)) (.p (.k (.p (.p (.k (.k (.k .z)))))))) (ie ?_))))))))))
  have hdr:=Z5 hx1
  exact ⟨_,_,_,ob,⟨k+1,(wrp ((cv)-((x1.cons.length:Int)))),ob,(by have hz:=(hd.take k).sum;have h3:=hd.cons_at hx1;rw [Z1l hx1,Z5f];simpa [Zs] using Z05b c0_1 om h3 hc),(Zp3 hx1 c0_1 hc2 c0_2),rfl,rfl,rfl⟩,(wk [1] (fq (fc (x:=.i (k+1:Nat)) li fl)))⟩
 refine ax 0 (ar (irk 2 (.n 4 (.i (-1)) (.n 37 (.agg [nl]) .r)) (iS 0 b1 0 [nl] [nl] [nl] (ie ?_))))
 have hH:Z3s c ds 0 0=(-1,[]):=by rw [←c0_2,Zt om];rfl
 exact at_ (r3 [] [.i (-1),.agg [nl]] [0] [(b1,b1)] ⟨rfl,rfl⟩ (AVLe.tup (.cons (li (by rw [Z08,hH])) (.cons (AVLe.agg (.cons (AVLe.sl _ (by rw [Z1,hH];rfl)) .nil)) .nil))))
theorem Zfg (ds:List Decl) (c:Int) (hd:DOk ds:=by exact ob) (hc:-9223372036854775808≤c∧c≤9223372036854775807:=by exact ob):Z3 Tryz.prog 124 [Z2 ds,.i c] [] (fun r h=>r=nInt (Z1 ds c)∧h=[]):=by
 refine enter Tryz.func124 kr (n:=15) kr kr (ar (ir 1 [(0,Z2 ds),(1,.i c)] (ie (ar (ir 2 [(8,Z2 ds),(9,.i c)] (ic [] (Zcp ds c) ?_))))))
 rintro _ _ ⟨rfl,rfl⟩
 refine ir 3 [(11,.i (Z08 ds c)),(12,.agg [nInt (Z1 ds c)])] (iA [nl] ?_)
 intro b1
 refine irk 1 .r (iS 0 b1 0 [nInt (Z1 ds c)] [nl] [nInt (Z1 ds c)] (ie (ar (iR 3 [(4,nInt (Z1 ds c))] [0] [b1] (ie ?_)))))
 exact at_ (r1 [] ⟨rfl,rfl⟩)
theorem Zic (ds:List Decl) (t:Int) (hd:DOk ds:=by exact ob):Z3 Tryz.prog 123 [Z2 ds,.i t] [] (fun r h=>r=nInt (Zb ds t)∧h=[]):=by
 have hdl:=hd.len
 refine enter Tryz.func123 kr (n:=39) kr kr (ar (ir 1 [(0,Z2 ds),(1,.i t)] (ie (aq (ar (Z24 [(0,Z2 ds),(1,.i t),(15,.b ((decide (t<1))||(decide (t>(ds.length:Int)))))] [] ?_ ?_))))))
 ·refine ir 3 [(0,Z2 ds),(1,.i t),(10,.b (decide (t<1)))] (ib (b:=(decide (t<1))) 10 (fun hb1=>?_) (fun hb1=>?_))
  ·have hp1:t<1:=(dq).1 hb1
   refine irk 5 (.n 15 (.b true) (.d (.k (.k .z)))) (ie ?_)
   exact wk [] (fw (fc (x:=.b true) (lb (by simp only [hb1];rfl)) fl))
  have hp2:¬(t<1):=Zd dq hb1
  refine irk 2 (.n 11 (.i t) (.n 12 (Z2 ds) (.k (.k (.k .z))))) (iw (Z0c ds) (irk 2 (.n 15 (.b (decide (t>(ds.length:Int)))) .r) (ie ?_)))
  exact wk [] (fw (fc (x:=.b (decide (t>(ds.length:Int)))) (lb (by simp only [hb1];rfl)) fl))
 refine ac ((decide (t<1))||(decide (t>(ds.length:Int)))) (p:=(t<1)∨(t>(ds.length:Int))) (Zg dq dq) (fun hc1=>?_) (fun hc1=>?_)
 ·refine ar (ir 1 [(4,nl)] (ie ?_))
  exact at_ (r2 [] [nl] ⟨rfl,rfl⟩ (AVLe.sl _ (by rw [Zb,if_neg om];rfl)))
 have hti:1≤t∧t≤ds.length:=by omega
 obtain ⟨d,hd1⟩:=Z6 (xs:=ds) (j:=(t-1).toNat) om
 have hdc:=hd.cons_at hd1
 have hsm:=(hd.take (t-1).toNat).sum
 refine ak (ar (ir 2 [(0,Z2 ds),(1,.i t),(16,Z2 ds),(17,.i t)] (ia ((((t-1).toNat:Nat):Int)) ((t)-(1)) (is_ (Z63 (es:=Z0i ds) (hv:=none) (l:=0) (m:=(((t-1).toNat:Nat):Int)) (sz:=3) (es':=Z0i (ds.take ((t-1).toNat))) kr om (by simp<;>omega) (by simp<;>omega) (Z76 _) (by first|(simp only [Int.toNat_natCast,List.take_length,Z5w,Z5v];done)|(simp only [Int.toNat_natCast,List.take_length,Z5w,Z5v];rfl)|(simp [Z5w,Z5v];done))) (ic [] (Zff (ds.take ((t-1).toNat)) (hd:=(hd.take _))) ?_)))))
 rintro _ _ ⟨rfl,rfl⟩
 refine irk 1 (.n 5 (.i ((Zs (ds.take ((t-1).toNat)):Nat):Int)) .r) (ie (ar (irk 1 (.n 6 (nl) .r) (ie (aq (ar (irk 2 (.n 21 (Z2 ds) (.n 22 (.i t) .r)) (ia ((((t-1).toNat:Nat):Int)) ((t)-(1)) (is_ (Z0 (es:=Z0i ds) (hv:=none) (j:=(((t-1).toNat:Nat):Int)) (sz:=3) (y:=Z2s d) kr om (Z0z hd1) rfl) (irk 2 (.n 26 (nCon d.cons) .r) (iw (Z0k d.cons) (irk 1 (.n 28 (.i 0) .r) (ie (ab 0 (Z6b 1 (al (fun m F h=>∃(k:Nat) (v:Value),(k≤d.cons.length)∧F=[(5,.i ((Zs (ds.take ((t-1).toNat)):Nat):Int)),(6,oInt (Z18 (Zs (ds.take (t-1).toNat)) k) v),(27,.i d.cons.length),(28,.i k)]∧h=[.tail v 1]∧m=d.cons.length-k) _ _ _ ⟨0,(.slice none 0 0),ob,rfl,rfl,rfl⟩ (wk [0] (fr (fc (x:=nl) (AVLe.slh _ rfl) (fr (fc (x:=.i 0) li fl))))) ?_))))))))))))))))
 rintro m F h ⟨k,v,c0_0,rfl,rfl,rfl⟩
 refine ar (irk 1 (.n 29 (.b (decide ((k:Int)<(d.cons.length:Int)))) .r) (ie (aq (ac (decide ((k:Int)<(d.cons.length:Int))) dq (fun hc2=>?_) (fun hc2=>?_)))))
 ·refine ak (aq (ab 1 (ar (irk 2 (.n 7 (.i k) .r) (ie (az (irk 3 (.n 31 (oInt (Z18 (Zs (ds.take (t-1).toNat)) k) v) (.n 32 (.i ((Zs (ds.take ((t-1).toNat)):Nat):Int)) (.n 33 (.i k) .r))) (ia ((((Zs (ds.take ((t-1).toNat)))+k:Nat):Int)) ((((Zs (ds.take ((t-1).toNat)):Nat):Int))+((k:Int))) (iL (Z8 [(((Zs (ds.take ((t-1).toNat)))+k:Nat):Int)]) 1 1 ?_)))))))))
  intro v1
  refine irk 0 (.n 35 (nInt [(((Zs (ds.take ((t-1).toNat)))+k:Nat):Int)]) (.p .r)) (ip 1 (Z8 (Z18 (Zs (ds.take (t-1).toNat)) k++[(((Zs (ds.take ((t-1).toNat)))+k:Nat):Int)])) (Z8 (Z18 (Zs (ds.take (t-1).toNat)) k)) (Z8 [(((Zs (ds.take ((t-1).toNat)))+k:Nat):Int)]) v none 1 (Z11 _) (Z11 _) (Z3u _) (by simp;omega) (by simp [Z29,Z8]) ?_)
  intro v2
  refine irk 1 (.n 6 (oInt (Z18 (Zs (ds.take (t-1).toNat)) k++[(((Zs (ds.take ((t-1).toNat)))+k:Nat):Int)]) v2) (.p (.d (.p (.d (.d (.d (.d (.d (.k (.d .r))))))))))) (ie (az (ia (((k+1:Nat):Int)) (((k:Int))+(1)) (irk 1 (.n 28 (.i (k+1:Nat)) (.p (.k (.k (.k .z))))) (ie ?_)))))
  exact ⟨_,_,_,ob,⟨k+1,v2,ob,rfl,rfl,rfl⟩,(wk [0] (fr (fc (x:=oInt (Z18 (Zs (ds.take (t-1).toNat)) k++[(((Zs (ds.take ((t-1).toNat)))+k:Nat):Int)]) v2) (AVLe.slh _ (congrArg Z8 (Zd2 _ _).symm)) (fr (fc (x:=.i (k+1:Nat)) li fl)))))⟩
 refine ax 0 (ar (ir 2 [(4,oInt (Z18 (Zs (ds.take (t-1).toNat)) k) v)] (ie ?_)))
 exact at_ (r2 [] [oInt (Z18 (Zs (ds.take (t-1).toNat)) k) v] ⟨rfl,rfl⟩ (AVLe.sl _ (congrArg Z8 (by rw [Zb,if_pos hti,hd1,show k=d.cons.length by omega];rfl))))
theorem Z5k (ds:List Decl) (t:Int) (hd:DOk ds:=by exact ob):Z3 Tryz.prog 195 [Z2 ds,.i t] [] (fun r h=>r=.tup [Z2s (Z27 ds t),.b (Z00 ds t)]∧h=[]):=by
 have hdl:=hd.len
 refine enter Tryz.func195 kr (n:=30) kr kr (ar (iA [.i 0,.i 0,nl] ?_))
 intro b1
 refine ir 1 [(0,Z2 ds),(1,.i t),(4,.p b1 0)] (ie (aq (ar (Z1n 8 [(0,Z2 ds),(1,.i t),(4,.p b1 0),(13,.b ((decide (t<1))||(decide (t>(ds.length:Int)))))] [.obj b1 [.i 0,.i 0,nl]] ?_ (fun hj1=>?_)))))
 ·refine ir 1 [(0,Z2 ds),(1,.i t),(4,.p b1 0),(14,.b ((decide (t<1))||(decide (t>(ds.length:Int)))))] (ib (b:=((decide (t<1))||(decide (t>(ds.length:Int))))) 14 (fun hb1=>?_) (fun hb1=>?_))
  ·have hp1:(t<1)∨(t>(ds.length:Int)):=((Zg dq dq)).1 hb1
   refine irk 9 (.n 23 (.b true) (.d (.k (.k (.k .z))))) (ie (ac1 (ar (irk 1 (.n 24 (.agg [.i 0,.i 0,nl]) .r) (iS 0 b1 0 [.i 0,.i 0,nl] [.i 0,.i 0,nl] [.i 0,.i 0,nl] (irk 1 (.n 5 (.b false) .r) (ie ?_)))))))
   have hA:Z00 ds t=false:=(Z95 om).symm
   have hD:Z27 ds t=⟨0,0,[]⟩:=by rw [Z27,hA];rfl
   exact at_ (r3 [] [.agg [.i 0,.i 0,nl],.b false] [0] [(b1,b1)] ⟨rfl,rfl⟩ (AVLe.tup (.cons (AVLe.agg (.cons (li (by rw [hD])) (.cons (li (by rw [hD])) (.cons (AVLe.sl _ (by rw [hD];rfl)) .nil)))) (.cons (lb (by rw [hA])) .nil))))
  have hp2:¬((t<1)∨(t>(ds.length:Int))):=Zd (Zg dq dq) hb1
  refine irk 2 (.n 15 (Z2 ds) (.n 16 (.i t) (.w .z))) (ia ((t-1)) ((t)-(1)) ?_)
  obtain ⟨x1,hx1⟩:=Z6 (xs:=ds) (j:=(t-1).toNat) om
  refine is_ (Z0 (es:=Z0i ds) (hv:=none) (j:=(t-1)) (sz:=3) (y:=Z2s x1) kr om (Z0z hx1) rfl) (irk 2 (.n 20 (nCon x1.cons) .r) (iw (Z0k x1.cons) (irk 2 (.n 23 (.b (decide ((x1.cons.length:Int)>0))) .r) (ie (ac (decide ((x1.cons.length:Int)>0)) dq (fun hc1=>?_) (fun hc1=>?_))))))
  ·refine ar (irk 1 (.n 24 (.agg [.i 0,.i 0,nl]) .r) (iS 0 b1 0 [.i 0,.i 0,nl] [.i 0,.i 0,nl] [.i 0,.i 0,nl] (irk 1 (.n 5 (.b false) .r) (ie ?_))))
   have hA:Z00 ds t=false:=(Z74 om hx1).symm.trans (beq_eq_false_iff_ne.2 om)
   have hD:Z27 ds t=⟨0,0,[]⟩:=by rw [Z27,hA];rfl
   exact at_ (r3 [] [.agg [.i 0,.i 0,nl],.b false] [0] [(b1,b1)] ⟨rfl,rfl⟩ (AVLe.tup (.cons (AVLe.agg (.cons (li (by rw [hD])) (.cons (li (by rw [hD])) (.cons (AVLe.sl _ (by rw [hD];rfl)) .nil)))) (.cons (lb (by rw [hA])) .nil))))
  refine ak (ar (irk 2 (.n 25 (Z2 ds) (.n 26 (.i t) .r)) (ia ((t-1)) ((t)-(1)) (is_ (Z0 (es:=Z0i ds) (hv:=none) (j:=(t-1)) (sz:=3) (y:=Z2s x1) kr om (Z0z hx1) rfl) (irk 1 (.n 29 (Z2s x1) .r) (iS 0 b1 0 (Z2g x1) [.i 0,.i 0,nl] (Z2g x1) (irk 1 (.n 5 (.b true) .r) (ie ?_))))))))
  have hA:Z00 ds t=true:=(Z74 om hx1).symm.trans (beq_iff_eq.2 om)
  have hD:Z27 ds t=x1:=by rw [Z27,hA,hx1];rfl
  exact at_ (r3 [] [Z2s x1,.b true] [0] [(b1,b1)] ⟨rfl,rfl⟩ (AVLe.tup (.cons (AVLe.agg (.cons (li (by rw [hD])) (.cons (li (by rw [hD])) (.cons (AVLe.sl _ (congrArg Z37 (by rw [hD]))) .nil)))) (.cons (lb (by rw [hA])) .nil))))
 refine ir 3 [(0,Z2 ds),(1,.i t),(4,.p b1 0),(8,.b (decide (t<1)))] (ib (b:=(decide (t<1))) 8 (fun hb2=>?_) (fun hb2=>?_))
 ·have hp3:t<1:=(dq).1 hb2
  refine irk 5 (.n 13 (.b true) (.d (.k (.k (.k .z))))) ?_
  exact Zy (wk [0] (fw (fr (fc (x:=.b true) (lb (by simp only [hb2];rfl)) fl)))) hj1
 have hp4:¬(t<1):=Zd dq hb2
 refine irk 2 (.n 9 (.i t) (.n 10 (Z2 ds) (.w .z))) (iw (Z0c ds) (irk 2 (.n 13 (.b (decide (t>(ds.length:Int)))) .r) ?_))
 exact Zy (wk [0] (fw (fr (fc (x:=.b (decide (t>(ds.length:Int)))) (lb (by simp only [hb2];rfl)) fl)))) hj1
theorem Zh2 (ds:List Decl) (frm:Int) (to_:Int) (hl_ds:ds.length≤4294967296:=by exact ob):Z3 Tryz.prog 216 [Z2 ds,.i frm,.i to_] [] (fun r h=>r=.i (Z2a ds frm to_)∧h=[]):=by
 refine enter Tryz.func216 kr (n:=35) kr kr (ar (ir 1 [(0,Z2 ds),(1,.i frm),(2,.i to_)] (ie (aq (ar (irk 1 (.n 9 (Z2 ds) .r) (iw (Z0c ds) (irk 1 (.n 11 (.i 0) .r) (ie (ab 0 (al (fun m F h=>∃(k:Nat),(k≤ds.length)∧(Z3r frm to_ (ds.drop k) k=Z2a ds frm to_)∧F=[(1,.i frm),(2,.i to_),(9,Z2 ds),(10,.i ds.length),(11,.i k)]∧h=[]∧m=ds.length-k) _ _ _ ⟨0,ob,rfl,rfl,rfl,rfl⟩ (wk [] (fq (fc (x:=.i 0) li fl))) ?_)))))))))))
 rintro m F h ⟨k,c0_0,c0_1,rfl,rfl,rfl⟩
 refine ar (irk 1 (.n 12 (.b (decide ((k:Int)<(ds.length:Int)))) .r) (ie (aq (ac (decide ((k:Int)<(ds.length:Int))) dq (fun hc1=>?_) (fun hc1=>?_)))))
 ·refine ak (aq (ab 1 (ar (irk 1 (.n 13 (.i k) .r) ?_))))
  obtain ⟨x1,hx1⟩:=Z6 (xs:=ds) (j:=k) om
  refine is_ (Z0 (es:=Z0i ds) (hv:=none) (j:=(k:Int)) (sz:=3) (y:=Z2s x1) kr om (Z0z hx1) rfl) (irk 1 (.n 15 (Z2s x1) .r) (iA [.i 0,.i 0,nl] ?_))
  intro b1
  refine irk 1 (.n 7 (.i k) .r) (iS 0 b1 0 (Z2g x1) [.i 0,.i 0,nl] (Z2g x1) (ie (ar (irK 2 (.n 17 (nCon x1.cons) .r) [0] [b1] (iw (Z0k x1.cons) (Z1n 10 [(1,.i frm),(2,.i to_),(7,.i k),(8,.p b1 0),(9,Z2 ds),(10,.i ds.length),(11,.i k),(25,.b (((x1.cons.length:Int)==0)&&(x1.frm==frm)))] [.obj b1 (Z2g x1)] ?_ (fun hj1=>?_)))))))
  ·refine Z24 [(1,.i frm),(2,.i to_),(7,.i k),(9,Z2 ds),(10,.i ds.length),(11,.i k),(31,.b ((((x1.cons.length:Int)==0)&&(x1.frm==frm))&&(x1.to_==to_)))] [.obj b1 (Z2g x1)] ?_ ?_
   ·refine ir 1 [(1,.i frm),(2,.i to_),(7,.i k),(8,.p b1 0),(9,Z2 ds),(10,.i ds.length),(11,.i k),(26,.b (((x1.cons.length:Int)==0)&&(x1.frm==frm)))] (ib (b:=(((x1.cons.length:Int)==0)&&(x1.frm==frm))) 26 (fun hb1=>?_) (fun hb1=>?_))
    ·have hp1:((x1.cons.length:Int)=0)∧(x1.frm=frm):=((Zj beq_iff_eq beq_iff_eq)).1 hb1
     refine irK 5 (.n 31 (.b (x1.to_==to_)) (.d (.k (.k (.k (.d (.k (.k (.k .z))))))))) [0] [b1] (ie ?_)
     exact wk [0] (fq (fw (fc (x:=.b (x1.to_==to_)) (lb (by simp only [hb1];rfl)) fl)))
    have hp2:¬(((x1.cons.length:Int)=0)∧(x1.frm=frm)):=Zd (Zj beq_iff_eq beq_iff_eq) hb1
    refine irk 5 (.n 31 (.b false) (.d (.k (.k (.k (.d (.k (.k (.k .z))))))))) (ie ?_)
    exact wk [0] (fq (fw (fc (x:=.b false) (lb (by simp only [hb1];rfl)) fl)))
   refine ac ((((x1.cons.length:Int)==0)&&(x1.frm==frm))&&(x1.to_==to_)) (p:=(((x1.cons.length:Int)=0)∧(x1.frm=frm))∧(x1.to_=to_)) (Zj (Zj beq_iff_eq beq_iff_eq) beq_iff_eq) (fun hc2=>?_) (fun hc2=>?_)
   ·refine ar (ir 1 [(32,.i k)] (ia (((k+1:Nat):Int)) (((k:Int))+(1)) (ir 1 [(6,.i (k+1:Nat))] (ie ?_))))
    rw [Z5 hx1] at c0_1
    exact at_ (r2 [] [.i (k+1:Nat)] ⟨rfl,rfl⟩ (li (by clear hx1;first|rfl|omega|grind [Z3r])))
   refine ak (az (ia (((k+1:Nat):Int)) (((k:Int))+(1)) (ir 1 [(1,.i frm),(2,.i to_),(9,Z2 ds),(10,.i ds.length),(11,.i (k+1:Nat))] (ie ?_))))
   have hdr:=Z5 hx1
   exact ⟨_,_,_,ob,⟨k+1,ob,(by rw [hdr] at c0_1;clear hdr hx1;grind [Z3r]),rfl,rfl,rfl⟩,(wk [] (fq (fc (x:=.i (k+1:Nat)) li fl)))⟩
  refine ir 2 [(1,.i frm),(2,.i to_),(7,.i k),(8,.p b1 0),(9,Z2 ds),(10,.i ds.length),(11,.i k),(20,.b ((x1.cons.length:Int)==0))] (ib (b:=((x1.cons.length:Int)==0)) 20 (fun hb2=>?_) (fun hb2=>?_))
  ·have hp3:(x1.cons.length:Int)=0:=(beq_iff_eq).1 hb2
   refine irK 5 (.n 25 (.b (x1.frm==frm)) (.d (.w (.k (.k (.k .z)))))) [0] [b1] ?_
   exact Zy (wk [0] (fq (fw (fr (fc (x:=.b (x1.frm==frm)) (lb (by simp only [hb2];rfl)) fl))))) hj1
  have hp4:¬((x1.cons.length:Int)=0):=Zd beq_iff_eq hb2
  refine irk 5 (.n 25 (.b false) (.d (.w (.k (.k (.k .z)))))) ?_
  exact Zy (wk [0] (fq (fw (fr (fc (x:=.b false) (lb (by simp only [hb2];rfl)) fl))))) hj1
 refine ax 0 (ar (ir 1 [(6,.i (-1))] (ie ?_)))
 try rw [Zt (xs:=ds) (k:=k) om] at c0_1
 exact at_ (r2 [] [.i (-1)] ⟨rfl,rfl⟩ (li (by first|rfl|omega|grind [Z3r])))
theorem Zcn (ds:List Decl) (hz:DSz ds:=by exact ob):Z3 Tryz.prog 117 [Z2 ds] [] (fun r h=>r=.b (Zw ds)∧h=[]):=by
 have hzl:=hz.len
 refine enter Tryz.func117 kr (n:=106) kr kr (ar (ir 1 [(0,Z2 ds)] (ie (aq (ar (irk 1 (.n 9 (Z2 ds) .r) (iw (Z0c ds) (irk 1 (.n 11 (.b (decide ((ds.length:Int)>4))) .r) (ie (ac (decide ((ds.length:Int)>4)) dq (fun hc1=>?_) (fun hc1=>?_)))))))))))
 ·refine ar (ir 1 [(2,.b false)] (ie ?_))
  exact at_ (r2 [] [.b false] ⟨rfl,rfl⟩ (lb (by rw [Zw,decide_eq_false om];rfl)))
 refine ak (aq (ar (irk 1 (.n 12 (Z2 ds) .r) (iw (Z0c ds) (irk 1 (.n 14 (.i 0) .r) (ie (ab 0 (al (fun m F h=>∃(k:Nat),(k≤ds.length)∧(Z3t ds (ds.drop k) k=Z3t ds ds 0)∧F=[(0,Z2 ds),(12,Z2 ds),(13,.i ds.length),(14,.i k)]∧h=[]∧m=ds.length-k) _ _ _ ⟨0,ob,rfl,rfl,rfl,rfl⟩ (wk [] (fw (fr (fc (x:=.i 0) li fl)))) ?_))))))))
 rintro m F h ⟨k,c0_0,c0_1,rfl,rfl,rfl⟩
 refine ar (irk 1 (.n 15 (.b (decide ((k:Int)<(ds.length:Int)))) .r) (ie (aq (ac (decide ((k:Int)<(ds.length:Int))) dq (fun hc2=>?_) (fun hc2=>?_)))))
 ·refine ak (aq (ab 1 (ar (irk 1 (.n 16 (.i k) .r) ?_))))
  obtain ⟨x1,hx1⟩:=Z6 (xs:=ds) (j:=k) om
  have hz1:=hz.cons_at hx1
  refine is_ (Z0 (es:=Z0i ds) (hv:=none) (j:=(k:Int)) (sz:=3) (y:=Z2s x1) kr om (Z0z hx1) rfl) (irk 1 (.n 18 (Z2s x1) .r) (iA [.i 0,.i 0,nl] ?_))
  intro b1
  refine irk 1 (.n 3 (.i k) .r) (iS 0 b1 0 (Z2g x1) [.i 0,.i 0,nl] (Z2g x1) (ie (aq (ar (irK 3 (.n 19 (Z2 ds) (.n 21 (.i x1.frm) .r)) [0] [b1] (ic [] (Z67 ds x1.frm) ?_))))))
  rintro _ _ ⟨rfl,rfl⟩
  refine Z1n 12 [(0,Z2 ds),(3,.i k),(4,.p b1 0),(12,Z2 ds),(13,.i ds.length),(14,.i k),(30,.b ((!(decide (0≤x1.frm∧x1.frm≤ds.length)))||(!(decide (0≤x1.to_∧x1.to_≤ds.length)))))] [.obj b1 (Z2g x1)] ?_ (fun hj1=>?_)
  ·refine Z1n 18 [(0,Z2 ds),(3,.i k),(4,.p b1 0),(12,Z2 ds),(13,.i ds.length),(14,.i k),(36,.b (((!(decide (0≤x1.frm∧x1.frm≤ds.length)))||(!(decide (0≤x1.to_∧x1.to_≤ds.length))))||(decide ((x1.cons.length:Int)>3))))] [.obj b1 (Z2g x1)] ?_ (fun hj2=>?_)
   ·refine Z24 [(0,Z2 ds),(3,.i k),(4,.p b1 0),(12,Z2 ds),(13,.i ds.length),(14,.i k),(52,.b ((((!(decide (0≤x1.frm∧x1.frm≤ds.length)))||(!(decide (0≤x1.to_∧x1.to_≤ds.length))))||(decide ((x1.cons.length:Int)>3)))||((decide ((x1.cons.length:Int)>0))&&((x1.frm != 0)||(x1.to_ != 0)))))] [.obj b1 (Z2g x1)] ?_ ?_
    ·refine ir 1 [(0,Z2 ds),(3,.i k),(4,.p b1 0),(12,Z2 ds),(13,.i ds.length),(14,.i k),(37,.b (((!(decide (0≤x1.frm∧x1.frm≤ds.length)))||(!(decide (0≤x1.to_∧x1.to_≤ds.length))))||(decide ((x1.cons.length:Int)>3))))] (ib (b:=(((!(decide (0≤x1.frm∧x1.frm≤ds.length)))||(!(decide (0≤x1.to_∧x1.to_≤ds.length))))||(decide ((x1.cons.length:Int)>3)))) 37 (fun hb1=>?_) (fun hb1=>?_))
     ·have hp1:((¬(0≤x1.frm∧x1.frm≤ds.length))∨(¬(0≤x1.to_∧x1.to_≤ds.length)))∨((x1.cons.length:Int)>3):=((Zg (Zg (Zc dq) (Zc dq)) dq)).1 hb1
      refine irk 15 (.n 52 (.b true) (.d (.w (.k (.k .z))))) (ie ?_)
      exact wk [0] (fq (fw (fc (x:=.b true) (lb (by simp only [hb1];rfl)) fl)))
     have hp2:¬(((¬(0≤x1.frm∧x1.frm≤ds.length))∨(¬(0≤x1.to_∧x1.to_≤ds.length)))∨((x1.cons.length:Int)>3)):=Zd (Zg (Zg (Zc dq) (Zc dq)) dq) hb1
     refine irK 2 (.n 39 (nCon x1.cons) (.w (.k (.k (.k .z))))) [0] [b1] (iw (Z0k x1.cons) (irk 2 (.n 42 (.b (decide ((x1.cons.length:Int)>0))) .r) (ib (b:=(decide ((x1.cons.length:Int)>0))) 42 (fun hb2=>?_) (fun hb2=>?_))))
     ·have hp3:(x1.cons.length:Int)>0:=(dq).1 hb2
      refine irK 4 (.n 46 (.b (x1.frm != 0)) (.k (.d .r))) [0] [b1] (ib (b:=(x1.frm != 0)) 46 (fun hb3=>?_) (fun hb3=>?_))
      ·have hp4:x1.frm≠0:=(bne_iff_ne).1 hb3
       refine irk 6 (.n 52 (.b true) (.k (.d .r))) (ie ?_)
       exact wk [0] (fq (fw (fc (x:=.b true) (lb (by simp only [hb1,hb2,hb3];rfl)) fl)))
      have hp5:¬(x1.frm≠0):=Zd bne_iff_ne hb3
      refine irK 6 (.n 52 (.b (x1.to_ != 0)) (.k (.d .r))) [0] [b1] (ie ?_)
      exact wk [0] (fq (fw (fc (x:=.b (x1.to_ != 0)) (lb (by simp only [hb1,hb2,hb3];rfl)) fl)))
     have hp6:¬((x1.cons.length:Int)>0):=Zd dq hb2
     refine irk 10 (.n 52 (.b false) (.k (.d .r))) (ie ?_)
     exact wk [0] (fq (fw (fc (x:=.b false) (lb (by simp only [hb1,hb2];rfl)) fl)))
    refine ac ((((!(decide (0≤x1.frm∧x1.frm≤ds.length)))||(!(decide (0≤x1.to_∧x1.to_≤ds.length))))||(decide ((x1.cons.length:Int)>3)))||((decide ((x1.cons.length:Int)>0))&&((x1.frm != 0)||(x1.to_ != 0)))) (p:=(((¬(0≤x1.frm∧x1.frm≤ds.length))∨(¬(0≤x1.to_∧x1.to_≤ds.length)))∨((x1.cons.length:Int)>3))∨(((x1.cons.length:Int)>0)∧((x1.frm≠0)∨(x1.to_≠0)))) (Zg (Zg (Zg (Zc dq) (Zc dq)) dq) (Zj dq (Zg bne_iff_ne bne_iff_ne))) (fun hc3=>?_) (fun hc3=>?_)
    ·refine ar (ir 1 [(2,.b false)] (ie ?_))
     exact at_ (r2 [] [.b false] ⟨rfl,rfl⟩ (lb (Zi3 hx1 (Zp6 hc3) c0_1)))
    refine ak (aq (ar (iR 2 [(0,Z2 ds),(3,.i k),(4,.p b1 0),(12,Z2 ds),(13,.i ds.length),(14,.i k),(54,nCon x1.cons)] [0] [b1] (iw (Z0k x1.cons) (irk 1 (.n 56 (.i 0) .r) (ie (ab 2 (al (fun m F h=>∃(q:Nat),(q≤x1.cons.length)∧(Z4a ds.length (x1.cons.drop q)=Z4a ds.length x1.cons)∧F=[(0,Z2 ds),(3,.i k),(4,.p b1 0),(12,Z2 ds),(13,.i ds.length),(14,.i k),(54,nCon x1.cons),(55,.i x1.cons.length),(56,.i q)]∧h=[.obj b1 (Z2g x1)]∧m=x1.cons.length-q) _ _ _ ⟨0,ob,rfl,rfl,rfl,rfl⟩ (wk [0] (fq (fq (fc (x:=.i 0) li fl)))) ?_))))))))
    rintro m F h ⟨q,c1_0,c1_1,rfl,rfl,rfl⟩
    refine ar (irk 1 (.n 57 (.b (decide ((q:Int)<(x1.cons.length:Int)))) .r) (ie (aq (ac (decide ((q:Int)<(x1.cons.length:Int))) dq (fun hc4=>?_) (fun hc4=>?_)))))
    ·refine ak (aq (ab 3 (ar ?_)))
     obtain ⟨x2,hx2⟩:=Z6 (xs:=x1.cons) (j:=q) om
     refine is_ (Z0 (es:=Z37 x1.cons) (hv:=none) (j:=(q:Int)) (sz:=1) (y:=aCon x2) kr om (Z4g hx2) rfl) (irk 1 (.n 59 (aCon x2) .r) (iA [nl] ?_))
     intro b2
     refine iS 0 b2 0 (lCon x2) [nl] (lCon x2) (ie (ar (irK 2 (.n 61 (nInt x2.fields) .r) [0] [b2] (iw (Z4 x2.fields) (Z24 [(0,Z2 ds),(3,.i k),(4,.p b1 0),(12,Z2 ds),(13,.i ds.length),(14,.i k),(54,nCon x1.cons),(55,.i x1.cons.length),(56,.i q),(70,.b ((decide ((x2.fields.length:Int)>3))||(!Z1p ds.length x2.fields)))] [.obj b2 (lCon x2),.obj b1 (Z2g x1)] ?_ ?_)))))
     ·refine ir 2 [(0,Z2 ds),(3,.i k),(4,.p b1 0),(6,.p b2 0),(12,Z2 ds),(13,.i ds.length),(14,.i k),(54,nCon x1.cons),(55,.i x1.cons.length),(56,.i q),(64,.b (decide ((x2.fields.length:Int)>3)))] (ib (b:=(decide ((x2.fields.length:Int)>3))) 64 (fun hb4=>?_) (fun hb4=>?_))
      ·have hp7:(x2.fields.length:Int)>3:=(dq).1 hb4
       refine irk 6 (.n 70 (.b true) (.d (.k (.k (.k (.d (.w (.k (.k .z))))))))) (ie ?_)
       exact wk [0,0] (fq (fq (fr (fc (x:=.b true) (lb (by simp only [hb4];rfl)) fl))))
      have hp8:¬((x2.fields.length:Int)>3):=Zd dq hb4
      refine irK 3 (.n 65 (Z2 ds) (.n 67 (nInt x2.fields) (.w (.d (.w (.k (.k .z))))))) [0] [b2] (ic [] (Z9j ds x2.fields) ?_)
      rintro _ _ ⟨rfl,rfl⟩
      refine irk 2 (.n 70 (.b (!Z1p ds.length x2.fields)) .r) (ie ?_)
      exact wk [0,0] (fq (fq (fr (fc (x:=.b (!Z1p ds.length x2.fields)) (lb (by simp only [hb4];rfl)) fl))))
     refine ac ((decide ((x2.fields.length:Int)>3))||(!Z1p ds.length x2.fields)) (p:=((x2.fields.length:Int)>3)∨(¬(Z1p ds.length x2.fields=true))) (Zg dq (Zc Iff.rfl)) (fun hc5=>?_) (fun hc5=>?_)
     ·refine ar (ir 1 [(2,.b false)] (ie ?_))
      exact at_ (r2 [] [.b false] ⟨rfl,rfl⟩ (lb (Zi3 hx1 (Zp7 om (by rw [←c1_1,Z5 hx2,Z4a,if_neg (by rw [Zvd hc5];simp)])) c0_1)))
     refine ak (az (ia (((q+1:Nat):Int)) (((q:Int))+(1)) (ir 1 [(0,Z2 ds),(3,.i k),(4,.p b1 0),(12,Z2 ds),(13,.i ds.length),(14,.i k),(54,nCon x1.cons),(55,.i x1.cons.length),(56,.i (q+1:Nat))] (ie ?_))))
     have hdr:=Z5 hx2
     exact ⟨_,_,_,ob,⟨q+1,ob,(by rw [Z5 hx2,Z4a,if_pos (Zsk hc5)] at c1_1;exact c1_1),rfl,rfl,rfl⟩,(wk [1] (fq (fq (fc (x:=.i (q+1:Nat)) li fl))))⟩
    have hC:Z4a ds.length x1.cons=true:=by rw [←c1_1,Zt om];rfl
    refine ax 2 (ar (irk 2 (.n 72 (Z2 ds) (.n 73 (.i k) .r)) (is_ (Z63 (es:=Z0i ds) (hv:=none) (l:=0) (m:=(k:Int)) (sz:=3) (es':=Z0i (ds.take k)) kr om (by simp<;>omega) (by simp<;>omega) (Z76 _) (by first|(simp only [Int.toNat_natCast,List.take_length,Z5w,Z5v];done)|(simp only [Int.toNat_natCast,List.take_length,Z5w,Z5v];rfl)|(simp [Z5w,Z5v];done))) (io (.i (((ds.take k).length:Nat):Int)) (.i (((Z0i (ds.take k)).length:Nat):Int)) (li (by rw [Z0c])) (irk 1 (.n 76 (.i 0) .r) (ie (ab 4 (al (fun m F h=>∃(j:Nat),(j≤k)∧(x1.cons.length=0→Zcc x1 ((ds.take k).drop j)=Zcc x1 (ds.take k))∧F=[(0,Z2 ds),(4,.p b1 0),(12,Z2 ds),(13,.i ds.length),(14,.i k),(74,Z2 (ds.take k)),(75,.i (((ds.take k).length:Nat):Int)),(76,.i j)]∧h=[.obj b1 (Z2g x1)]∧m=k-j) _ _ _ ⟨0,ob,ob,rfl,rfl,rfl⟩ (wk [0] (fq (fw (fr (fc (x:=.i 0) li fl))))) ?_))))))))
    rintro m F h ⟨j,c2_0,c2_1,rfl,rfl,rfl⟩
    refine ar (irk 1 (.n 77 (.b (decide ((j:Int)<(((ds.take k).length:Nat):Int)))) .r) (ie (aq (ac (decide ((j:Int)<(((ds.take k).length:Nat):Int))) dq (fun hc6=>?_) (fun hc6=>?_)))))
    ·have htl:(ds.take k).length≤k:=by rw [List.length_take];omega
     refine ak (aq (ab 5 (ar ?_)))
     obtain ⟨x3,hx3⟩:=Z6 (xs:=(ds.take k)) (j:=j) om
     refine is_ (Z0 (es:=Z0i (ds.take k)) (hv:=none) (j:=(j:Int)) (sz:=3) (y:=Z2s x3) kr om (Z0z hx3) rfl) (irk 1 (.n 79 (Z2s x3) .r) (iA [.i 0,.i 0,nl] ?_))
     intro b3
     refine iS 0 b3 0 (Z2g x3) [.i 0,.i 0,nl] (Z2g x3) (ie (ar (irK 2 (.n 81 (nCon x1.cons) .r) [1] [b1] (iw (Z0k x1.cons) (Z1n 10 [(0,Z2 ds),(4,.p b1 0),(8,.p b3 0),(12,Z2 ds),(13,.i ds.length),(14,.i k),(74,Z2 (ds.take k)),(75,.i (((ds.take k).length:Nat):Int)),(76,.i j),(89,.b (((x1.cons.length:Int)==0)&&((x3.cons.length:Int)==0)))] [.obj b3 (Z2g x3),.obj b1 (Z2g x1)] ?_ (fun hj3=>?_))))))
     ·refine Z1n 17 [(0,Z2 ds),(4,.p b1 0),(8,.p b3 0),(12,Z2 ds),(13,.i ds.length),(14,.i k),(74,Z2 (ds.take k)),(75,.i (((ds.take k).length:Nat):Int)),(76,.i j),(96,.b ((((x1.cons.length:Int)==0)&&((x3.cons.length:Int)==0))&&(x3.frm==x1.frm)))] [.obj b3 (Z2g x3),.obj b1 (Z2g x1)] ?_ (fun hj4=>?_)
      ·refine Z24 [(0,Z2 ds),(4,.p b1 0),(12,Z2 ds),(13,.i ds.length),(14,.i k),(74,Z2 (ds.take k)),(75,.i (((ds.take k).length:Nat):Int)),(76,.i j),(103,.b (((((x1.cons.length:Int)==0)&&((x3.cons.length:Int)==0))&&(x3.frm==x1.frm))&&(x3.to_==x1.to_)))] [.obj b3 (Z2g x3),.obj b1 (Z2g x1)] ?_ ?_
       ·refine ir 1 [(0,Z2 ds),(4,.p b1 0),(8,.p b3 0),(12,Z2 ds),(13,.i ds.length),(14,.i k),(74,Z2 (ds.take k)),(75,.i (((ds.take k).length:Nat):Int)),(76,.i j),(97,.b ((((x1.cons.length:Int)==0)&&((x3.cons.length:Int)==0))&&(x3.frm==x1.frm)))] (ib (b:=((((x1.cons.length:Int)==0)&&((x3.cons.length:Int)==0))&&(x3.frm==x1.frm))) 97 (fun hb5=>?_) (fun hb5=>?_))
        ·have hp9:(((x1.cons.length:Int)=0)∧((x3.cons.length:Int)=0))∧(x3.frm=x1.frm):=((Zj (Zj beq_iff_eq beq_iff_eq) beq_iff_eq)).1 hb5
         refine irK 6 (.n 103 (.b (x3.to_==x1.to_)) (.d (.k (.k (.d (.w (.k (.k .z)))))))) [0,1] [b3,b1] (ie ?_)
         exact wk [0,0] (fq (fq (fc (x:=.b (x3.to_==x1.to_)) (lb (by simp only [hb5];rfl)) fl)))
        have hp10:¬((((x1.cons.length:Int)=0)∧((x3.cons.length:Int)=0))∧(x3.frm=x1.frm)):=Zd (Zj (Zj beq_iff_eq beq_iff_eq) beq_iff_eq) hb5
        refine irk 6 (.n 103 (.b false) (.d (.k (.k (.d (.w (.k (.k .z)))))))) (ie ?_)
        exact wk [0,0] (fq (fq (fc (x:=.b false) (lb (by simp only [hb5];rfl)) fl)))
       refine ac (((((x1.cons.length:Int)==0)&&((x3.cons.length:Int)==0))&&(x3.frm==x1.frm))&&(x3.to_==x1.to_)) (p:=((((x1.cons.length:Int)=0)∧((x3.cons.length:Int)=0))∧(x3.frm=x1.frm))∧(x3.to_=x1.to_)) (Zj (Zj (Zj beq_iff_eq beq_iff_eq) beq_iff_eq) beq_iff_eq) (fun hc7=>?_) (fun hc7=>?_)
       ·refine ar (ir 1 [(2,.b false)] (ie ?_))
        exact at_ (r2 [] [.b false] ⟨rfl,rfl⟩ (lb (Zi3 hx1 (Zp8 om (by rw [←c2_1 om,Z5 hx3,Zcc,if_pos om])) c0_1)))
       refine ak (az (ia (((j+1:Nat):Int)) (((j:Int))+(1)) (ir 1 [(0,Z2 ds),(4,.p b1 0),(12,Z2 ds),(13,.i ds.length),(14,.i k),(74,Z2 (ds.take k)),(75,.i (((ds.take k).length:Nat):Int)),(76,.i (j+1:Nat))] (ie ?_))))
       exact ⟨_,_,_,ob,⟨j+1,ob,(fun q=>by have hq:=c2_1 q;rw [Z5 hx3,Zcc,if_neg om] at hq;exact hq),rfl,rfl,rfl⟩,(wk [1] (fq (fw (fr (fc (x:=.i (j+1:Nat)) li fl)))))⟩
      refine ir 1 [(0,Z2 ds),(4,.p b1 0),(8,.p b3 0),(12,Z2 ds),(13,.i ds.length),(14,.i k),(74,Z2 (ds.take k)),(75,.i (((ds.take k).length:Nat):Int)),(76,.i j),(90,.b (((x1.cons.length:Int)==0)&&((x3.cons.length:Int)==0)))] (ib (b:=(((x1.cons.length:Int)==0)&&((x3.cons.length:Int)==0))) 90 (fun hb6=>?_) (fun hb6=>?_))
      ·have hp11:((x1.cons.length:Int)=0)∧((x3.cons.length:Int)=0):=((Zj beq_iff_eq beq_iff_eq)).1 hb6
       refine irK 6 (.n 96 (.b (x3.frm==x1.frm)) (.d (.w (.w (.k .z))))) [0,1] [b3,b1] ?_
       exact Zy (wk [0,0] (fq (fq (fr (fc (x:=.b (x3.frm==x1.frm)) (lb (by simp only [hb6];rfl)) fl))))) hj4
      have hp12:¬(((x1.cons.length:Int)=0)∧((x3.cons.length:Int)=0)):=Zd (Zj beq_iff_eq beq_iff_eq) hb6
      refine irk 6 (.n 96 (.b false) (.d (.w (.w (.k .z))))) ?_
      exact Zy (wk [0,0] (fq (fq (fr (fc (x:=.b false) (lb (by simp only [hb6];rfl)) fl))))) hj4
     refine ir 2 [(0,Z2 ds),(4,.p b1 0),(8,.p b3 0),(12,Z2 ds),(13,.i ds.length),(14,.i k),(74,Z2 (ds.take k)),(75,.i (((ds.take k).length:Nat):Int)),(76,.i j),(84,.b ((x1.cons.length:Int)==0))] (ib (b:=((x1.cons.length:Int)==0)) 84 (fun hb7=>?_) (fun hb7=>?_))
     ·have hp13:(x1.cons.length:Int)=0:=(beq_iff_eq).1 hb7
      refine irK 2 (.n 86 (nCon x3.cons) (.w (.w (.k (.k .z))))) [0] [b3] (iw (Z0k x3.cons) (irk 2 (.n 89 (.b ((x3.cons.length:Int)==0)) .r) ?_))
      exact Zy (wk [0,0] (fq (fq (fr (fc (x:=.b ((x3.cons.length:Int)==0)) (lb (by simp only [hb7];rfl)) fl))))) hj3
     have hp14:¬((x1.cons.length:Int)=0):=Zd beq_iff_eq hb7
     refine irk 5 (.n 89 (.b false) (.d (.w (.w (.k .z))))) ?_
     exact Zy (wk [0,0] (fq (fq (fr (fc (x:=.b false) (lb (by simp only [hb7];rfl)) fl))))) hj3
    have htl:(ds.take k).length=k:=by rw [List.length_take];omega
    have hD:x1.cons.length=0→Zcc x1 (ds.take k)=false:=fun q=>by rw [←c2_1 q,Zt om];rfl
    refine ax 4 (az (ia (((k+1:Nat):Int)) (((k:Int))+(1)) (irk 1 (.n 14 (.i (k+1:Nat)) (.p (.d (.k (.d (.k (.k .z))))))) (ie ?_))))
    have hdr:=Z5 hx1
    exact ⟨_,_,_,ob,⟨k+1,ob,(Z01p hx1 (Zp9 hc3 hC hD) c0_1),rfl,rfl,rfl⟩,(wk [] (fw (fr (fc (x:=.i (k+1:Nat)) li fl))))⟩
   refine ir 1 [(0,Z2 ds),(3,.i k),(4,.p b1 0),(12,Z2 ds),(13,.i ds.length),(14,.i k),(31,.b ((!(decide (0≤x1.frm∧x1.frm≤ds.length)))||(!(decide (0≤x1.to_∧x1.to_≤ds.length)))))] (ib (b:=((!(decide (0≤x1.frm∧x1.frm≤ds.length)))||(!(decide (0≤x1.to_∧x1.to_≤ds.length))))) 31 (fun hb8=>?_) (fun hb8=>?_))
   ·have hp15:(¬(0≤x1.frm∧x1.frm≤ds.length))∨(¬(0≤x1.to_∧x1.to_≤ds.length)):=((Zg (Zc dq) (Zc dq))).1 hb8
    refine irk 5 (.n 36 (.b true) (.d (.w (.k (.k .z))))) ?_
    exact Zy (wk [0] (fq (fw (fc (x:=.b true) (lb (by simp only [hb8];rfl)) fl)))) hj2
   have hp16:¬((¬(0≤x1.frm∧x1.frm≤ds.length))∨(¬(0≤x1.to_∧x1.to_≤ds.length))):=Zd (Zg (Zc dq) (Zc dq)) hb8
   refine irK 2 (.n 33 (nCon x1.cons) (.w (.k (.k (.k .z))))) [0] [b1] (iw (Z0k x1.cons) (irk 2 (.n 36 (.b (decide ((x1.cons.length:Int)>3))) .r) ?_))
   exact Zy (wk [0] (fq (fw (fc (x:=.b (decide ((x1.cons.length:Int)>3))) (lb (by simp only [hb8];rfl)) fl)))) hj2
  refine ir 2 [(0,Z2 ds),(3,.i k),(4,.p b1 0),(12,Z2 ds),(13,.i ds.length),(14,.i k),(24,.b (!(decide (0≤x1.frm∧x1.frm≤ds.length))))] (ib (b:=(!(decide (0≤x1.frm∧x1.frm≤ds.length)))) 24 (fun hb9=>?_) (fun hb9=>?_))
  ·have hp17:¬(0≤x1.frm∧x1.frm≤ds.length):=((Zc dq)).1 hb9
   refine irk 6 (.n 30 (.b true) (.d (.w (.k (.k .z))))) ?_
   exact Zy (wk [0] (fq (fw (fc (x:=.b true) (lb (by simp only [hb9];rfl)) fl)))) hj1
  have hp18:¬(¬(0≤x1.frm∧x1.frm≤ds.length)):=Zd (Zc dq) hb9
  refine irK 3 (.n 25 (Z2 ds) (.n 27 (.i x1.to_) (.w (.k (.k (.k .z)))))) [0] [b1] (ic [] (Z67 ds x1.to_) ?_)
  rintro _ _ ⟨rfl,rfl⟩
  refine irk 2 (.n 30 (.b (!(decide (0≤x1.to_∧x1.to_≤ds.length)))) .r) ?_
  exact Zy (wk [0] (fq (fw (fc (x:=.b (!(decide (0≤x1.to_∧x1.to_≤ds.length)))) (lb (by simp only [hb9];rfl)) fl)))) hj1
 refine ax 0 (ar (ir 1 [(2,.b true)] (ie ?_)))
 exact at_ (r2 [] [.b true] ⟨rfl,rfl⟩ (lb (Zz4 om om c0_1)))
theorem Z32 (op:Int) :Z3 Tryz.prog 67 [.i op] [] (fun r h=>r=.b (Z0q op)∧h=[]):=by
 refine enter Tryz.func67 kr (n:=9) kr kr (ar (ir 1 [(0,.i op)] (ie (ar (Z1n 6 [(8,.b ((decide (op≥14))&&(decide (op≤17))))] [] ?_ (fun hj1=>?_))))))
 ·refine ir 1 [(2,.b ((decide (op≥14))&&(decide (op≤17))))] (ie ?_)
  exact at_ (r2 [] [.b ((decide (op≥14))&&(decide (op≤17)))] ⟨rfl,rfl⟩ (lb (by rw [Z0q,Bool.eq_iff_iff];simp)))
 refine ir 3 [(0,.i op),(5,.b (decide (op≥14)))] (ib (b:=(decide (op≥14))) 5 (fun hb1=>?_) (fun hb1=>?_))
 ·have hp1:op≥14:=(dq).1 hb1
  refine ir 3 [(8,.b (decide (op≤17)))] ?_
  exact Zy (wk [] (fc (x:=.b (decide (op≤17))) (lb (by simp only [hb1];rfl)) fl)) hj1
 have hp2:¬(op≥14):=Zd dq hb1
 refine ir 3 [(8,.b false)] ?_
 exact Zy (wk [] (fc (x:=.b false) (lb (by simp only [hb1];rfl)) fl)) hj1
theorem Z7k (op:Int) :Z3 Tryz.prog 201 [.i op] [] (fun r h=>r=.b (Z2i op)∧h=[]):=by
 refine enter Tryz.func201 kr (n:=17) kr kr (ar (ir 1 [(0,.i op)] (ie (ar (Z1n 6 [(0,.i op),(8,.b ((op==6)||(op==9)))] [] ?_ (fun hj1=>?_))))))
 ·refine Z1n 10 [(0,.i op),(12,.b (((op==6)||(op==9))||(op==10)))] [] ?_ (fun hj2=>?_)
  ·refine Z1n 14 [(16,.b ((((op==6)||(op==9))||(op==10))||(op==11)))] [] ?_ (fun hj3=>?_)
   ·refine ir 1 [(2,.b ((((op==6)||(op==9))||(op==10))||(op==11)))] (ie ?_)
    exact at_ (r2 [] [.b ((((op==6)||(op==9))||(op==10))||(op==11))] ⟨rfl,rfl⟩ (lb (by first|rfl|omega|grind [Z2i])))
   refine ir 1 [(0,.i op),(13,.b (((op==6)||(op==9))||(op==10)))] (ib (b:=(((op==6)||(op==9))||(op==10))) 13 (fun hb1=>?_) (fun hb1=>?_))
   ·have hp1:((op=6)∨(op=9))∨(op=10):=((Zg (Zg beq_iff_eq beq_iff_eq) beq_iff_eq)).1 hb1
    refine ir 3 [(16,.b true)] ?_
    exact Zy (wk [] (fc (x:=.b true) (lb (by simp only [hb1];rfl)) fl)) hj3
   have hp2:¬(((op=6)∨(op=9))∨(op=10)):=Zd (Zg (Zg beq_iff_eq beq_iff_eq) beq_iff_eq) hb1
   refine ir 3 [(16,.b (op==11))] ?_
   exact Zy (wk [] (fc (x:=.b (op==11)) (lb (by simp only [hb1];rfl)) fl)) hj3
  refine ir 1 [(0,.i op),(9,.b ((op==6)||(op==9)))] (ib (b:=((op==6)||(op==9))) 9 (fun hb2=>?_) (fun hb2=>?_))
  ·have hp3:(op=6)∨(op=9):=((Zg beq_iff_eq beq_iff_eq)).1 hb2
   refine ir 3 [(0,.i op),(12,.b true)] ?_
   exact Zy (wk [] (fr (fc (x:=.b true) (lb (by simp only [hb2];rfl)) fl))) hj2
  have hp4:¬((op=6)∨(op=9)):=Zd (Zg beq_iff_eq beq_iff_eq) hb2
  refine ir 3 [(0,.i op),(12,.b (op==10))] ?_
  exact Zy (wk [] (fr (fc (x:=.b (op==10)) (lb (by simp only [hb2];rfl)) fl))) hj2
 refine ir 3 [(0,.i op),(5,.b (op==6))] (ib (b:=(op==6)) 5 (fun hb3=>?_) (fun hb3=>?_))
 ·have hp5:op=6:=(beq_iff_eq).1 hb3
  refine ir 3 [(0,.i op),(8,.b true)] ?_
  exact Zy (wk [] (fr (fc (x:=.b true) (lb (by simp only [hb3];rfl)) fl))) hj1
 have hp6:¬(op=6):=Zd beq_iff_eq hb3
 refine ir 3 [(0,.i op),(8,.b (op==9))] ?_
 exact Zy (wk [] (fr (fc (x:=.b (op==9)) (lb (by simp only [hb3];rfl)) fl))) hj1
theorem Zav (b:Block) (c:Nat) (v:Int) (hb:b.sz≤1000000000:=by exact ob) (hv:0≤v∧v≤600:=by exact ob) (ih:∀(b2:Block) (c:Nat) (v:Int),(b2.sz<b.sz)→(0≤v∧v≤600)→Z3 Tryz.prog 126 [Za b2,.p c 0] [.obj c [.i v]] (fun r h=>(r=.b true∧h=[.obj c [.i (600-Z3m b2 (600-v))]]∧0≤Z3m b2 (600-v))∨(r=.b false∧h=[]∧Z3m b2 (600-v)<0))):Z3 Tryz.prog 126 [Za b,.p c 0] [.obj c [.i v]] (fun r h=>(r=.b true∧h=[.obj c [.i (600-Z3m b (600-v))]]∧0≤Z3m b (600-v))∨(r=.b false∧h=[]∧Z3m b (600-v)<0)):=by
 have hbz:=Z4d b
 have hbe:=Zr4 b (600-v)
 refine enter Tryz.func126 kr (n:=38) kr kr (ar (iA (Z03 b) ?_))
 intro b1
 refine ir 1 [(1,.p c 0),(2,.p b1 0)] (ie (aq (ar (irK 2 (.n 10 (Z0b b.steps) .r) [0] [b1] (iw (Z0l b.steps) (irk 1 (.n 12 (.i 0) .r) (ie (ab 0 (al (fun m F h=>∃(k:Nat) (q:Int),(k≤b.steps.length)∧(0≤q∧q≤600)∧(Z6h (b.steps.drop k) (600-q)=Z6h b.steps (600-v))∧F=[(1,.p c 0),(10,Z0b b.steps),(11,.i b.steps.length),(12,.i k)]∧h=[.obj c [.i q]]∧m=b.steps.length-k) _ _ _ ⟨0,v,ob,ob,rfl,rfl,rfl,rfl⟩ (wk [1] (fw (fr (fc (x:=.i 0) li fl)))) ?_)))))))))
 rintro m F h ⟨k,q,c0_0,c0_1,c0_2,rfl,rfl,rfl⟩
 refine ar (irk 1 (.n 13 (.b (decide ((k:Int)<(b.steps.length:Int)))) .r) (ie (aq (ac (decide ((k:Int)<(b.steps.length:Int))) dq (fun hc1=>?_) (fun hc1=>?_)))))
 ·refine ak (aq (ab 1 (ar ?_)))
  obtain ⟨x1,hx1⟩:=Z6 (xs:=b.steps) (j:=k) om
  have hss:=Zhx hx1
  have hkz:=Z5m x1
  refine is_ (Z0 (es:=Zo b.steps) (hv:=none) (j:=(k:Int)) (sz:=5) (y:=Z0g x1) kr om (Z0y hx1) rfl) (irk 1 (.n 15 (Z0g x1) .r) (iA [.i 0,.i 0,.i 0,nl,nl] ?_))
  intro b2
  refine iS 0 b2 0 (Z02 x1) [.i 0,.i 0,.i 0,nl,nl] (Z02 x1) (ie (aq (ar (irK 3 (.n 16 (.p c 0) (.n 18 (.i q) .r)) [1] [c] (ia ((q+1)) ((q)+(1)) (irk 1 (.n 20 (.p c 0) .r) (iS 1 c 0 [.i (q+1)] [.i q] [.i (q+1)] (ie (ar (irK 4 (.n 24 (.b (decide ((q+1)>600))) .r) [0] [c] (ie (ac (decide ((q+1)>600)) dq (fun hc2=>?_) (fun hc2=>?_)))))))))))))
  ·refine ar (ir 1 [(4,.b false)] (ie ?_))
   exact at_ (r1 [] (.inr ⟨rfl,rfl,(by rw [hbe,←c0_2,Z5 hx1,Z6h,if_pos om];omega)⟩))
  refine ak (ar (irK 2 (.n 26 (Zv x1.kids) .r) [1] [b2] (iw (Z0f x1.kids) (irk 1 (.n 28 (.i 0) .r) (ie (ab 2 (al (fun m F h=>∃(j:Nat) (j2:Int),(j≤x1.kids.length)∧(0≤j2∧j2≤600)∧(Z6x (x1.kids.drop j) (600-j2)=Z6x x1.kids (600-(q+1)))∧F=[(1,.p c 0),(10,Z0b b.steps),(11,.i b.steps.length),(12,.i k),(26,Zv x1.kids),(27,.i x1.kids.length),(28,.i j)]∧h=[.obj c [.i j2]]∧m=x1.kids.length-j) _ _ _ ⟨0,(q+1),ob,ob,rfl,rfl,rfl,rfl⟩ (wk [0] (fq (fw (fc (x:=.i 0) li fl)))) ?_)))))))
  rintro m F h ⟨j,j2,c1_0,c1_1,c1_2,rfl,rfl,rfl⟩
  refine ar (irk 1 (.n 29 (.b (decide ((j:Int)<(x1.kids.length:Int)))) .r) (ie (aq (ac (decide ((j:Int)<(x1.kids.length:Int))) dq (fun hc3=>?_) (fun hc3=>?_)))))
  ·refine ak (aq (ab 3 (ar ?_)))
   obtain ⟨x2,hx2⟩:=Z6 (xs:=x1.kids) (j:=j) om
   have hks:=Z9k hx2
   have hle:=Zkx.2 x2 (600-j2) om
   refine is_ (Z0 (es:=Z19 x1.kids) (hv:=none) (j:=(j:Int)) (sz:=2) (y:=Za x2) kr om (Z1q hx2) rfl) (irk 1 (.n 31 (Za x2) .r) (iA [nl,.i 0] ?_))
   intro b3
   refine iS 0 b3 0 (Z03 x2) [nl,.i 0] (Z03 x2) (ie (ar (irK 2 (.n 32 (Za x2) (.n 33 (.p c 0) .r)) [0] [b3] (ic [1] (ih x2 c j2 ob ob) ?_))))
   rintro _ _ (⟨rfl,rfl,hp1⟩|⟨rfl,rfl,hp2⟩)
   ·refine irk 1 (.n 35 (.b false) .r) (ie (ac0 (ak (az (ia (((j+1:Nat):Int)) (((j:Int))+(1)) (irk 1 (.n 28 (.i (j+1:Nat)) (.p (.d (.p (.d (.d (.p (.d (.p (.d (.w (.k (.k .z))))))))))))) (ie ?_)))))))
    have hdr:=Z5 hx2
    exact ⟨_,_,_,ob,⟨j+1,(600-Z3m x2 (600-j2)),ob,ob,(by rw [Z5 hx2,Z6x,if_neg om] at c1_2;rw [show 600-(600-Z3m x2 (600-j2))=Z3m x2 (600-j2) by omega];exact c1_2),rfl,rfl,rfl⟩,(wk [0] (fq (fw (fc (x:=.i (j+1:Nat)) li fl))))⟩
   refine irk 1 (.n 35 (.b true) .r) (ie (ac1 (ar (ir 1 [(4,.b false)] (ie ?_)))))
   exact at_ (r1 [] (.inr ⟨rfl,rfl,(by rw [hbe,←c0_2,Z5 hx1,Z6h,if_neg om,if_pos (by rw [Zg2,show (600-q-1:Int)=600-(q+1) by omega,←c1_2,Z5 hx2,Z6x,if_pos hp2];omega)];omega)⟩))
  have hE:Z6x x1.kids (600-(q+1))=600-j2:=by rw [←c1_2,Zt om,Z6x]
  refine ax 2 (az (ia (((k+1:Nat):Int)) (((k:Int))+(1)) (irk 1 (.n 12 (.i (k+1:Nat)) (.p (.d (.k (.k (.k .z)))))) (ie ?_))))
  have hdr:=Z5 hx1
  exact ⟨_,_,_,ob,⟨k+1,j2,ob,ob,(by rw [Z5 hx1,Z6h,if_neg om,Zg2,show (600-q-1:Int)=600-(q+1) by omega,hE,if_neg om] at c0_2;exact c0_2),rfl,rfl,rfl⟩,(wk [0] (fw (fr (fc (x:=.i (k+1:Nat)) li fl))))⟩
 refine ax 0 (ar (ir 1 [(4,.b true)] (ie ?_)))
 have hF:Z3m b (600-v)=600-q:=by rw [hbe,←c0_2,Zt om,Z6h]
 exact at_ (r1 [0] (.inl ⟨rfl,rfl,om⟩) (eq:=(ro (ls:=[.i q]) (by rw [hF,show (600-(600-q):Int)=q by omega]) rz)))
theorem Zcq:∀(b:Block) (c:Nat) (v:Int),(b.sz≤1000000000)→(0≤v∧v≤600)→Z3 Tryz.prog 126 [Za b,.p c 0] [.obj c [.i v]] (fun r h=>(r=.b true∧h=[.obj c [.i (600-Z3m b (600-v))]]∧0≤Z3m b (600-v))∨(r=.b false∧h=[]∧Z3m b (600-v)<0)):=by
 have key:∀m:Nat,∀(b:Block) (c:Nat) (v:Int),(b.sz≤m)→(b.sz≤1000000000)→(0≤v∧v≤600)→Z3 Tryz.prog 126 [Za b,.p c 0] [.obj c [.i v]] (fun r h=>(r=.b true∧h=[.obj c [.i (600-Z3m b (600-v))]]∧0≤Z3m b (600-v))∨(r=.b false∧h=[]∧Z3m b (600-v)<0)):=by
  intro m
  induction m with
  | zero=>intro b c v h;have:=b.sz_pos;omega
  | succ m ih=>intro b c v h1 h2 h3;exact Zav b c v h2 h3 fun b2 c2 v2 k1 k2=>ih b2 c2 v2 om om k2
 intro b c v h2 h3
 exact key b.sz b c v (Nat.le_refl _) h2 h3
theorem Zh1 (b:Block) (hb:b.sz≤1000000000:=by exact ob):Z3 Tryz.prog 68 [Za b] [] (fun r h=>r=.i (Z2r b)∧h=[]):=by
 refine enter Tryz.func68 kr (n:=8) kr kr (ar (iA (Z03 b) ?_))
 intro b1
 refine ir 1 [(1,.p b1 0)] (ie (ar (iA [.i 0] ?_)))
 intro b2
 refine iS 0 b2 0 [.i 0] [.i 0] [.i 0] (ie (aq (ar (irK 1 (.n 4 (Za b) .r) [1] [b1] (ic [0] (Zcq b b2 0 ob ob) ?_)))))
 rintro _ _ (⟨rfl,rfl,hp1⟩|⟨rfl,rfl,hp2⟩)
 ·have h0:=hp1
  rw [show (600-0:Int)=600 from rfl] at h0
  refine irk 1 (.n 6 (.b false) .r) (ie (ac0 (ak (ar (iR 2 [(2,.i (600-Z3m b (600-0)))] [0] [b2] (ie ?_))))))
  exact at_ (r2 [] [.i (600-Z3m b (600-0))] ⟨rfl,rfl⟩ (li (by rw [show (600-0:Int)=600 from rfl,Z2r,if_neg om])))
 have h0:=hp2
 rw [show (600-0:Int)=600 from rfl] at h0
 refine irk 1 (.n 6 (.b true) .r) (ie (ac1 (ar (ir 1 [(2,.i (-1))] (ie ?_)))))
 exact at_ (r2 [] [.i (-1)] ⟨rfl,rfl⟩ (li (by rw [Z2r,if_pos h0])))
theorem Ze2 (ds:List Decl) (fs:List Sg3) (hz:DSz ds:=by exact ob) (hf:∀f∈fs,f.pms.length≤4194304∧f.lnt.length≤4194304) (hfl:fs.length≤4194304:=by exact ob):Z3 Tryz.prog 58 [Z2 ds,nSg3 fs] [] (fun r h=>r=.b (Z2u ds fs)∧h=[]):=by
 have hzl:=hz.len
 refine enter Tryz.func58 kr (n:=102) kr kr (ar (ir 1 [(0,Z2 ds),(1,nSg3 fs)] (ie (aq (ar (irk 1 (.n 9 (Z2 ds) .r) (ic [] (Zcn ds) ?_)))))))
 rintro _ _ ⟨rfl,rfl⟩
 refine Z1n 8 [(0,Z2 ds),(1,nSg3 fs),(16,.b ((!Zw ds)||(decide ((fs.length:Int)<1))))] [] ?_ (fun hj1=>?_)
 ·refine Z1n 13 [(0,Z2 ds),(1,nSg3 fs),(21,.b (((!Zw ds)||(decide ((fs.length:Int)<1)))||(decide ((fs.length:Int)>4))))] [] ?_ (fun hj2=>?_)
  ·refine ir 1 [(0,Z2 ds),(1,nSg3 fs),(22,.b (((!Zw ds)||(decide ((fs.length:Int)<1)))||(decide ((fs.length:Int)>4))))] (ib (b:=(((!Zw ds)||(decide ((fs.length:Int)<1)))||(decide ((fs.length:Int)>4)))) 22 (fun hb1=>?_) (fun hb1=>?_))
   ·have hp1:((¬(Zw ds=true))∨((fs.length:Int)<1))∨((fs.length:Int)>4):=((Zg (Zg (Zc Iff.rfl) dq) dq)).1 hb1
    refine irk 14 (.n 36 (.b true) (.d (.k (.k .z)))) (ie (ac1 (ar (ir 1 [(4,.b false)] (ie ?_)))))
    exact at_ (r2 [] [.b false] ⟨rfl,rfl⟩ (lb (Z04z (by assumption))))
   have hp2:¬(((¬(Zw ds=true))∨((fs.length:Int)<1))∨((fs.length:Int)>4)):=Zd (Zg (Zg (Zc Iff.rfl) dq) dq) hb1
   refine irk 1 (.n 23 (nSg3 fs) (.k (.k (.k .z)))) ?_
   obtain ⟨x1,hx1⟩:=Z6 (xs:=fs) (j:=0) om
   refine is_ (Z0 (es:=Z6l fs) (hv:=none) (j:=0) (sz:=3) (y:=aSg3 x1) kr om (Z7i hx1) rfl) (irk 2 (.n 26 (nInt x1.pms) .r) (iw (Z4 x1.pms) (irk 3 (.n 30 (.b (decide ((x1.pms.length:Int)>0))) .r) (ib (b:=(decide ((x1.pms.length:Int)>0))) 30 (fun hb2=>?_) (fun hb2=>?_)))))
   ·have hp3:(x1.pms.length:Int)>0:=(dq).1 hb2
    refine irk 6 (.n 36 (.b true) (.k (.d .r))) (ie (ac1 (ar (ir 1 [(4,.b false)] (ie ?_)))))
    exact at_ (r2 [] [.b false] ⟨rfl,rfl⟩ (lb (Zz5 hx1 (.inl (by assumption)))))
   have hp4:¬((x1.pms.length:Int)>0):=Zd dq hb2
   refine irk 1 (.n 31 (nSg3 fs) (.k (.d .r))) (is_ (Z0 (es:=Z6l fs) (hv:=none) (j:=0) (sz:=3) (y:=aSg3 x1) kr om (Z7i hx1) rfl) (irk 4 (.n 36 (.b (x1.res != 0)) .r) (ie (ac (x1.res != 0) bne_iff_ne (fun hc1=>?_) (fun hc1=>?_)))))
   ·refine ar (ir 1 [(4,.b false)] (ie ?_))
    exact at_ (r2 [] [.b false] ⟨rfl,rfl⟩ (lb (Zz5 hx1 (.inr hc1))))
   refine ak (aq (ar (irk 1 (.n 37 (nSg3 fs) .r) (iw (Z6f fs) (irk 1 (.n 39 (.i 0) .r) (ie (ab 0 (al (fun m F h=>∃(k:Nat),(k≤fs.length)∧(Z61 ds.length (fs.drop k)=Z61 ds.length fs)∧F=[(0,Z2 ds),(37,nSg3 fs),(38,.i fs.length),(39,.i k)]∧h=[]∧m=fs.length-k) _ _ _ ⟨0,ob,ob,rfl,rfl,rfl⟩ (wk [] (fw (fr (fc (x:=.i 0) li fl)))) ?_))))))))
   rintro m F h ⟨k,c0_0,c0_1,rfl,rfl,rfl⟩
   refine ar (irk 1 (.n 40 (.b (decide ((k:Int)<(fs.length:Int)))) .r) (ie (aq (ac (decide ((k:Int)<(fs.length:Int))) dq (fun hc2=>?_) (fun hc2=>?_)))))
   ·refine ak (aq (ab 1 (ar ?_)))
    obtain ⟨x2,hx2⟩:=Z6 (xs:=fs) (j:=k) om
    have hf2:=hf _ (List.mem_of_getElem? hx2)
    refine is_ (Z0 (es:=Z6l fs) (hv:=none) (j:=(k:Int)) (sz:=3) (y:=aSg3 x2) kr om (Z7i hx2) rfl) (irk 1 (.n 42 (aSg3 x2) .r) (iA [nl,nl,.i 0] ?_))
    intro b1
    refine iS 0 b1 0 (lSg3 x2) [nl,nl,.i 0] (lSg3 x2) (ie (aq (ar (irK 2 (.n 44 (nInt x2.pms) .r) [0] [b1] (iw (Z4 x2.pms) (Z1n 11 [(0,Z2 ds),(6,.p b1 0),(37,nSg3 fs),(38,.i fs.length),(39,.i k),(53,.b ((decide ((x2.pms.length:Int)>3))||(!Z1p ds.length x2.pms)))] [.obj b1 (lSg3 x2)] ?_ (fun hj3=>?_)))))))
    ·refine Z24 [(0,Z2 ds),(6,.p b1 0),(37,nSg3 fs),(38,.i fs.length),(39,.i k),(60,.b (((decide ((x2.pms.length:Int)>3))||(!Z1p ds.length x2.pms))||(!(decide (0≤x2.res∧x2.res≤ds.length)))))] [.obj b1 (lSg3 x2)] ?_ ?_
     ·refine ir 1 [(0,Z2 ds),(6,.p b1 0),(37,nSg3 fs),(38,.i fs.length),(39,.i k),(54,.b ((decide ((x2.pms.length:Int)>3))||(!Z1p ds.length x2.pms)))] (ib (b:=((decide ((x2.pms.length:Int)>3))||(!Z1p ds.length x2.pms))) 54 (fun hb3=>?_) (fun hb3=>?_))
      ·have hp5:((x2.pms.length:Int)>3)∨(¬(Z1p ds.length x2.pms=true)):=((Zg dq (Zc Iff.rfl))).1 hb3
       refine irk 6 (.n 60 (.b true) (.d (.w (.k .z)))) (ie ?_)
       exact wk [0] (fq (fr (fc (x:=.b true) (lb (by simp only [hb3];rfl)) fl)))
      have hp6:¬(((x2.pms.length:Int)>3)∨(¬(Z1p ds.length x2.pms=true))):=Zd (Zg dq (Zc Iff.rfl)) hb3
      refine irK 3 (.n 55 (Z2 ds) (.n 57 (.i x2.res) (.w (.k (.k .z))))) [0] [b1] (ic [] (Z67 ds x2.res) ?_)
      rintro _ _ ⟨rfl,rfl⟩
      refine irk 2 (.n 60 (.b (!(decide (0≤x2.res∧x2.res≤ds.length)))) .r) (ie ?_)
      exact wk [0] (fq (fr (fc (x:=.b (!(decide (0≤x2.res∧x2.res≤ds.length)))) (lb (by simp only [hb3];rfl)) fl)))
     refine ac (((decide ((x2.pms.length:Int)>3))||(!Z1p ds.length x2.pms))||(!(decide (0≤x2.res∧x2.res≤ds.length)))) (p:=(((x2.pms.length:Int)>3)∨(¬(Z1p ds.length x2.pms=true)))∨(¬(0≤x2.res∧x2.res≤ds.length))) (Zg (Zg dq (Zc Iff.rfl)) (Zc dq)) (fun hc3=>?_) (fun hc3=>?_)
     ·refine ar (ir 1 [(4,.b false)] (ie ?_))
      exact at_ (r2 [] [.b false] ⟨rfl,rfl⟩ (lb (Zlu (Zd8 hx2 (Z04c hc3) c0_1))))
     refine ak (ar (iR 2 [(0,Z2 ds),(6,.p b1 0),(37,nSg3 fs),(38,.i fs.length),(39,.i k),(62,nInt x2.lnt)] [0] [b1] (iw (Z4 x2.lnt) (irk 1 (.n 64 (.i 0) .r) (ie (ab 2 (al (fun m F h=>∃(j:Nat),(j≤x2.lnt.length)∧(Z43 x2.pms (x2.lnt.drop j) (if j=0 then none else x2.lnt[j-1]?)=Z3e x2.pms x2.lnt)∧F=[(0,Z2 ds),(6,.p b1 0),(37,nSg3 fs),(38,.i fs.length),(39,.i k),(62,nInt x2.lnt),(63,.i x2.lnt.length),(64,.i j)]∧h=[.obj b1 (lSg3 x2)]∧m=x2.lnt.length-j) _ _ _ ⟨0,ob,(by rfl),rfl,rfl,rfl⟩ (wk [0] (fq (fw (fr (fc (x:=.i 0) li fl))))) ?_)))))))
     rintro m F h ⟨j,c1_0,c1_1,rfl,rfl,rfl⟩
     refine ar (irk 1 (.n 65 (.b (decide ((j:Int)<(x2.lnt.length:Int)))) .r) (ie (aq (ac (decide ((j:Int)<(x2.lnt.length:Int))) dq (fun hc4=>?_) (fun hc4=>?_)))))
     ·refine ak (aq (ab 3 (ar (irk 1 (.n 66 (.i j) .r) ?_))))
      obtain ⟨x3,hx3⟩:=Z6 (xs:=x2.lnt) (j:=j) om
      refine is_ (Z0 (es:=Z8 x2.lnt) (hv:=none) (j:=(j:Int)) (sz:=1) (y:=.i x3) kr om (Z9 hx3) rfl) (irk 3 (.n 7 (.i j) (.n 8 (.i x3) .r)) (ie (ar (Z1n 9 [(0,Z2 ds),(6,.p b1 0),(7,.i j),(8,.i x3),(37,nSg3 fs),(38,.i fs.length),(39,.i k),(62,nInt x2.lnt),(63,.i x2.lnt.length),(64,.i j),(77,.b ((decide (x3<0))||(decide (x3≥(x2.pms.length:Int)))))] [.obj b1 (lSg3 x2)] ?_ (fun hj4=>?_)))))
      ·refine ir 1 [(0,Z2 ds),(6,.p b1 0),(7,.i j),(8,.i x3),(37,nSg3 fs),(38,.i fs.length),(39,.i k),(62,nInt x2.lnt),(63,.i x2.lnt.length),(64,.i j),(78,.b ((decide (x3<0))||(decide (x3≥(x2.pms.length:Int)))))] (ib (b:=((decide (x3<0))||(decide (x3≥(x2.pms.length:Int))))) 78 (fun hb4=>?_) (fun hb4=>?_))
       ·have hp7:(x3<0)∨(x3≥(x2.pms.length:Int)):=((Zg dq dq)).1 hb4
        refine irk 21 (.n 99 (.b true) (.d (.k (.k (.d (.d (.w (.k (.k .z))))))))) (ie (ac1 (ar (ir 1 [(4,.b false)] (ie ?_)))))
        exact at_ (r2 [] [.b false] ⟨rfl,rfl⟩ (lb (Zlu (Zd8 hx2 (Zpy (Zl0 hx3 (by rintro ⟨q1,q2,q3⟩;first|omega|(rw [hx4] at q2;exact q2 (congrArg some om))|(have:=q3 _ (by rw [if_neg om];exact hx5);omega)) c1_1)) c0_1))))
       have hp8:¬((x3<0)∨(x3≥(x2.pms.length:Int))):=Zd (Zg dq dq) hb4
       refine irK 3 (.n 80 (nInt x2.pms) (.n 81 (.i x3) (.w (.w (.k (.k (.k .z))))))) [0] [b1] ?_
       obtain ⟨x4,hx4⟩:=Z6 (xs:=x2.pms) (j:=x3.toNat) om
       refine is_ (Z0 (es:=Z8 x2.pms) (hv:=none) (j:=x3) (sz:=1) (y:=.i x4) kr om (Z9 hx4) rfl) (irk 4 (.n 86 (.b (x4==0)) .r) (ib (b:=(x4==0)) 86 (fun hb5=>?_) (fun hb5=>?_)))
       ·have hp9:x4=0:=(beq_iff_eq).1 hb5
        refine irk 13 (.n 99 (.b true) (.k (.d .r))) (ie (ac1 (ar (ir 1 [(4,.b false)] (ie ?_)))))
        exact at_ (r2 [] [.b false] ⟨rfl,rfl⟩ (lb (Zlu (Zd8 hx2 (Zpy (Zl0 hx3 (by rintro ⟨q1,q2,q3⟩;first|omega|(rw [hx4] at q2;exact q2 (congrArg some om))|(have:=q3 _ (by rw [if_neg om];exact hx5);omega)) c1_1)) c0_1))))
       have hp10:¬(x4=0):=Zd beq_iff_eq hb5
       refine irk 3 (.n 89 (.b (decide ((j:Int)>0))) (.k (.d .r))) (ib (b:=(decide ((j:Int)>0))) 89 (fun hb6=>?_) (fun hb6=>?_))
       ·have hp11:(j:Int)>0:=(dq).1 hb6
        refine irK 4 (.n 90 (.i x3) (.n 92 (nInt x2.lnt) (.n 93 (.i j) (.k (.d .r))))) [0] [b1] (ia (((j-1:Nat):Int)) (((j:Int))-(1)) ?_)
        obtain ⟨x5,hx5⟩:=Z6 (xs:=x2.lnt) (j:=j-1) om
        refine is_ (Z0 (es:=Z8 x2.lnt) (hv:=none) (j:=((j-1:Nat):Int)) (sz:=1) (y:=.i x5) kr om (Z9 hx5) rfl) (irk 4 (.n 99 (.b (decide (x3≤x5))) .r) (ie (ac (decide (x3≤x5)) dq (fun hc5=>?_) (fun hc5=>?_))))
        ·refine ar (ir 1 [(4,.b false)] (ie ?_))
         exact at_ (r2 [] [.b false] ⟨rfl,rfl⟩ (lb (Zlu (Zd8 hx2 (Zpy (Zl0 hx3 (by rintro ⟨q1,q2,q3⟩;first|omega|(rw [hx4] at q2;exact q2 (congrArg some om))|(have:=q3 _ (by rw [if_neg om];exact hx5);omega)) c1_1)) c0_1))))
        refine ak (az (ia (((j+1:Nat):Int)) (((j:Int))+(1)) (irk 1 (.n 64 (.i (j+1:Nat)) (.p (.d (.p (.p (.d (.d (.d (.d (.d (.p (.d (.d (.d (.k (.k (.d (.d (.w (.k .z)))))))))))))))))))) (ie ?_))))
        have hdr:=Z5 hx3
        exact ⟨_,_,_,ob,⟨j+1,ob,(Zx1 hx3 ⟨by omega,(by rw [hx4];intro q;cases q;omega),fun p hp=>by first|(rw [if_pos om] at hp;cases hp;done)|(rw [if_neg om,hx5] at hp;cases hp;omega)⟩ c1_1),rfl,rfl,rfl⟩,(wk [0] (fq (fw (fr (fc (x:=.i (j+1:Nat)) li fl)))))⟩
       have hp12:¬((j:Int)>0):=Zd dq hb6
       refine irk 10 (.n 99 (.b false) (.k (.d .r))) (ie (ac0 (ak (az (ia (((j+1:Nat):Int)) (((j:Int))+(1)) (irk 1 (.n 64 (.i (j+1:Nat)) (.p (.d (.d (.d (.p (.d (.d (.d (.k (.k (.d (.d (.w (.k .z))))))))))))))) (ie ?_)))))))
       have hdr:=Z5 hx3
       exact ⟨_,_,_,ob,⟨j+1,ob,(Zx1 hx3 ⟨by omega,(by rw [hx4];intro q;cases q;omega),fun p hp=>by first|(rw [if_pos om] at hp;cases hp;done)|(rw [if_neg om,hx5] at hp;cases hp;omega)⟩ c1_1),rfl,rfl,rfl⟩,(wk [0] (fq (fw (fr (fc (x:=.i (j+1:Nat)) li fl)))))⟩
      refine ir 3 [(0,Z2 ds),(6,.p b1 0),(7,.i j),(8,.i x3),(37,nSg3 fs),(38,.i fs.length),(39,.i k),(62,nInt x2.lnt),(63,.i x2.lnt.length),(64,.i j),(71,.b (decide (x3<0)))] (ib (b:=(decide (x3<0))) 71 (fun hb7=>?_) (fun hb7=>?_))
      ·have hp13:x3<0:=(dq).1 hb7
       refine irk 6 (.n 77 (.b true) (.d (.w (.w (.k (.k .z)))))) ?_
       exact Zy (wk [0] (fq (fq (fw (fc (x:=.b true) (lb (by simp only [hb7];rfl)) fl))))) hj4
      have hp14:¬(x3<0):=Zd dq hb7
      refine irK 3 (.n 72 (.i x3) (.n 74 (nInt x2.pms) (.w (.w (.k (.k (.k .z))))))) [0] [b1] (iw (Z4 x2.pms) (irk 2 (.n 77 (.b (decide (x3≥(x2.pms.length:Int)))) .r) ?_))
      exact Zy (wk [0] (fq (fq (fw (fc (x:=.b (decide (x3≥(x2.pms.length:Int)))) (lb (by simp only [hb7];rfl)) fl))))) hj4
     have hL:Z3e x2.pms x2.lnt=true:=by rw [←c1_1,Zt om];rfl
     have hS:=Z04d hc3 hL
     refine ax 2 (az (ia (((k+1:Nat):Int)) (((k:Int))+(1)) (irk 1 (.n 39 (.i (k+1:Nat)) (.p (.d (.k (.d (.k (.k .z))))))) (ie ?_))))
     have hdr:=Z5 hx2
     exact ⟨_,_,_,ob,⟨k+1,ob,(Z01a hx2 hS c0_1),rfl,rfl,rfl⟩,(wk [] (fw (fr (fc (x:=.i (k+1:Nat)) li fl))))⟩
    refine ir 2 [(0,Z2 ds),(6,.p b1 0),(37,nSg3 fs),(38,.i fs.length),(39,.i k),(47,.b (decide ((x2.pms.length:Int)>3)))] (ib (b:=(decide ((x2.pms.length:Int)>3))) 47 (fun hb8=>?_) (fun hb8=>?_))
    ·have hp15:(x2.pms.length:Int)>3:=(dq).1 hb8
     refine irk 6 (.n 53 (.b true) (.d (.w (.k .z)))) ?_
     exact Zy (wk [0] (fq (fr (fc (x:=.b true) (lb (by simp only [hb8];rfl)) fl)))) hj3
    have hp16:¬((x2.pms.length:Int)>3):=Zd dq hb8
    refine irK 3 (.n 48 (Z2 ds) (.n 50 (nInt x2.pms) (.w (.k (.k .z))))) [0] [b1] (ic [] (Z9j ds x2.pms) ?_)
    rintro _ _ ⟨rfl,rfl⟩
    refine irk 2 (.n 53 (.b (!Z1p ds.length x2.pms)) .r) ?_
    exact Zy (wk [0] (fq (fr (fc (x:=.b (!Z1p ds.length x2.pms)) (lb (by simp only [hb8];rfl)) fl)))) hj3
   refine ax 0 (ar (ir 1 [(4,.b true)] (ie ?_)))
   exact at_ (r2 [] [.b true] ⟨rfl,rfl⟩ (lb (Z050 (by assumption) hx1 (by assumption) hc1 (by rw [←c0_1,Zt om];rfl))))
  refine ir 1 [(0,Z2 ds),(1,nSg3 fs),(17,.b ((!Zw ds)||(decide ((fs.length:Int)<1))))] (ib (b:=((!Zw ds)||(decide ((fs.length:Int)<1)))) 17 (fun hb9=>?_) (fun hb9=>?_))
  ·have hp17:(¬(Zw ds=true))∨((fs.length:Int)<1):=((Zg (Zc Iff.rfl) dq)).1 hb9
   refine irk 4 (.n 21 (.b true) (.d (.k (.k .z)))) ?_
   exact Zy (wk [] (fw (fc (x:=.b true) (lb (by simp only [hb9];rfl)) fl))) hj2
  have hp18:¬((¬(Zw ds=true))∨((fs.length:Int)<1)):=Zd (Zg (Zc Iff.rfl) dq) hb9
  refine irk 1 (.n 18 (nSg3 fs) (.k (.k (.k .z)))) (iw (Z6f fs) (irk 2 (.n 21 (.b (decide ((fs.length:Int)>4))) .r) ?_))
  exact Zy (wk [] (fw (fc (x:=.b (decide ((fs.length:Int)>4))) (lb (by simp only [hb9];rfl)) fl))) hj2
 refine ir 2 [(0,Z2 ds),(1,nSg3 fs),(12,.b (!Zw ds))] (ib (b:=(!Zw ds)) 12 (fun hb10=>?_) (fun hb10=>?_))
 ·have hp19:¬(Zw ds=true):=((Zc Iff.rfl)).1 hb10
  refine irk 4 (.n 16 (.b true) (.d (.k (.k .z)))) ?_
  exact Zy (wk [] (fw (fc (x:=.b true) (lb (by simp only [hb10];rfl)) fl))) hj1
 have hp20:¬(¬(Zw ds=true)):=Zd (Zc Iff.rfl) hb10
 refine irk 1 (.n 13 (nSg3 fs) (.k (.k (.k .z)))) (iw (Z6f fs) (irk 2 (.n 16 (.b (decide ((fs.length:Int)<1))) .r) ?_))
 exact Zy (wk [] (fw (fc (x:=.b (decide ((fs.length:Int)<1))) (lb (by simp only [hb10];rfl)) fl))) hj1
theorem Z7x (n:Normal) (hz:NSz n:=by exact ob):Z3 Tryz.prog 25 [Zi n] [] (fun r h=>(r=.tup [.agg [Z2 n.decls,sq1 n],.b (Z0e n)]∧h=[]∧n.routines.length≤4)∨(r=.tup [.agg [Z2 [],nSg3 []],.b false]∧h=[]∧Z0e n=false)):=by
 have hzl:=hz.len
 refine enter Tryz.func25 kr (n:=41) kr kr (ar (iA (Zh n) ?_))
 intro b1
 refine iA [nl,nl] ?_
 intro b2
 refine ir 1 [(1,.p b1 0),(2,.p b2 0)] (ie (aq (ar (irK 2 (.n 8 (nRoutine n.routines) .r) [1] [b1] (iw (Z0a n.routines) (irk 1 (.n 10 (.b (decide ((n.routines.length:Int)>4))) .r) (ie (ac (decide ((n.routines.length:Int)>4)) dq (fun hc1=>?_) (fun hc1=>?_)))))))))
 ·refine ar (irk 1 (.n 11 (.agg [nl,nl]) .r) (iS 0 b2 0 [nl,nl] [nl,nl] [nl,nl] (irk 1 (.n 3 (.b false) .r) (ie ?_))))
  exact at_ (r3 [] [.agg [nl,nl],.b false] [0] [(b2,b2)] (.inr ⟨rfl,rfl,(by rw [Zhf,decide_eq_false om];rfl)⟩) (AVLe.tup (.cons (AVLe.agg (.cons (AVLe.sl _ rfl) (.cons (AVLe.sl _ rfl) .nil))) (.cons (lr _) .nil))))
 refine ak (ar (irK 3 (.n 14 (.agg [Z2 n.decls,nl]) .r) [1] [b1] (iA [nl,nl] ?_)))
 intro b3
 refine iS 0 b3 0 [Z2 n.decls,nl] [nl,nl] [Z2 n.decls,nl] (ie (aq (ar (irK 2 (.n 16 (nRoutine n.routines) .r) [2] [b1] (iw (Z0a n.routines) (irk 1 (.n 18 (.i 0) .r) (ie (ab 0 (Z6b 3 (al (fun m F h=>∃(k:Nat) (v:Value),(k≤n.routines.length)∧F=[(1,.p b1 0),(2,.p b2 0),(4,.p b3 0),(16,nRoutine n.routines),(17,.i n.routines.length),(18,.i k)]∧h=[.obj b3 [Z2 n.decls,oSg3 ((n.routines.take k).map Z17) v],.obj b2 [nl,nl],.obj b1 (Zh n),.tail v 3]∧m=n.routines.length-k) _ _ _ ⟨0,(.slice none 0 0),ob,rfl,rfl,rfl⟩ (wk [1,1,1,0] (fq (fr (fc (x:=.i 0) li fl)))) ?_))))))))))
 rintro m F h ⟨k,v,c0_0,rfl,rfl,rfl⟩
 refine ar (irk 1 (.n 19 (.b (decide ((k:Int)<(n.routines.length:Int)))) .r) (ie (aq (ac (decide ((k:Int)<(n.routines.length:Int))) dq (fun hc2=>?_) (fun hc2=>?_)))))
 ·refine ak (aq (ab 1 (ar ?_)))
  obtain ⟨x1,hx1⟩:=Z6 (xs:=n.routines) (j:=k) om
  refine is_ (Z0 (es:=Z0p n.routines) (hv:=none) (j:=(k:Int)) (sz:=5) (y:=Z0s x1) kr om (Z0v hx1) rfl) (irk 1 (.n 21 (Z0s x1) .r) (iA [nl,nl,.i 0,nl,.i 0] ?_))
  intro b4
  refine iS 0 b4 0 (Z1s x1) [nl,nl,.i 0,nl,.i 0] (Z1s x1) (ie (az (irK 9 (.n 23 (oSg3 ((n.routines.take k).map Z17) v) (.n 30 (.agg [nInt x1.params,nInt x1.lent,.i x1.result]) .r)) [1,0,0,0] [b3,b4,b4,b4] (iL (Z6l [Sg3.mk x1.params x1.lent x1.result]) 1 3 ?_))))
  intro v1
  refine irk 0 (.n 31 (nSg3 [Sg3.mk x1.params x1.lent x1.result]) (.p .r)) (ip 5 (Z6l ((n.routines.take (k+1)).map Z17)) (Z6l ((n.routines.take k).map Z17)) (Z6l [Sg3.mk x1.params x1.lent x1.result]) v none 3 (Zmp _) (Zmp _) (Zvs _) (by simp<;>omega) (by rw [Z1l hx1];simp [Z6l,Z17]) ?_)
  intro v2
  refine irk 1 (.n 33 (.p b3 1) .r) (iS 3 b3 1 [oSg3 ((n.routines.take (k+1)).map Z17) v2] [Z2 n.decls,oSg3 ((n.routines.take k).map Z17) v] [Z2 n.decls,oSg3 ((n.routines.take (k+1)).map Z17) v2] (ie (az (ia (((k+1:Nat):Int)) (((k:Int))+(1)) (irk 1 (.n 18 (.i (k+1:Nat)) (.p (.d (.p (.d (.d (.d (.p (.d (.p (.d (.w (.k .z))))))))))))) (ie ?_))))))
  have hdr:=Z5 hx1
  exact ⟨_,_,_,ob,⟨k+1,v2,ob,rfl,rfl,rfl⟩,(wk [0,3,3,0] (fq (fr (fc (x:=.i (k+1:Nat)) li fl))))⟩
 refine ax 0 (aD 8 (dtK (fuel:=3) 8 [0,1,2,3,4] (.n 35 (.agg [Z2 n.decls,oSg3 ((n.routines.take k).map Z17) v]) (.n 37 (Z2 n.decls) (.n 39 (nSg3 ((n.routines.take k).map Z17)) .r))) [0,2,0] [b3,b1,b3] (do_ 5 (dc 5 [] [0] [b3] (Ze2 n.decls ((n.routines.take k).map Z17) (hz:=hz.decls) (hf:=(by intro f hf;obtain ⟨r,h1,rfl⟩:=List.mem_map.1 hf;have:=List.mem_of_mem_take h1;exact ⟨hz.params r this,hz.lent r this⟩))) ?_))))
 rintro _ _ ⟨rfl,rfl⟩
 refine do_ 6 (dS 6 1 [] [] b2 0 [Z2 n.decls,oSg3 ((n.routines.take k).map Z17) v] [nl,nl] [Z2 n.decls,oSg3 ((n.routines.take k).map Z17) v] (dtk (fuel:=0) 1 [7] (.n 3 (.b (Z2u n.decls ((n.routines.take k).map Z17))) .r) (de ?_)))
 have htk:n.routines.take k=n.routines:=List.take_of_length_le om
 exact at_ (r3 [] [.agg [Z2 n.decls,oSg3 ((n.routines.take k).map Z17) v],.b (Z2u n.decls ((n.routines.take k).map Z17))] [0] [(b2,b2)] (.inl ⟨rfl,rfl,om⟩) (AVLe.tup (.cons (AVLe.agg (.cons (lr _) (.cons (AVLe.sl _ (congrArg Z6l (by rw [htk]))) .nil))) (.cons (lb (by rw [htk,Zhf,decide_eq_true (p:=n.routines.length≤4) om,Bool.true_and])) .nil))))
theorem Z2b (n:Normal) (t:Int) (hn:NOk n:=by exact ob):Z3 Tryz.prog 64 [.agg [Z2 n.decls,sq1 n],.i t] [] (fun r h=>r=Z2y ((Zb n.decls t).map (Z1 n.decls))∧h=[]):=by
 have hdk:=hn.decls
 have hcl:=Zhh hdk t
 refine enter Tryz.func64 kr (n:=26) kr kr (ar (iA [Z2 n.decls,sq1 n] ?_))
 intro b1
 refine ir 1 [(1,.i t),(2,.p b1 0)] (ie (ar (irk 1 (.n 5 (nl) .r) (ie (aq (ar (irK 3 (.n 9 (Z2 n.decls) (.n 10 (.i t) .r)) [0] [b1] (ic [] (Zic n.decls t) ?_))))))))
 rintro _ _ ⟨rfl,rfl⟩
 refine io (.i (((Zb n.decls t).length:Nat):Int)) (.i (((Z8 (Zb n.decls t)).length:Nat):Int)) (li (by rw [Z4])) (irk 1 (.n 13 (.i 0) .r) (ie (ab 0 (Z6b 1 (al (fun m F h=>∃(k:Nat) (v:Value),(k≤(Zb n.decls t).length)∧F=[(2,.p b1 0),(5,Zii (((Zb n.decls t).take k).map (Z1 n.decls)) v),(11,nInt (Zb n.decls t)),(12,.i (((Zb n.decls t).length:Nat):Int)),(13,.i k)]∧h=[.obj b1 [Z2 n.decls,sq1 n],.tail v 1]∧m=(Zb n.decls t).length-k) _ _ _ ⟨0,(.slice none 0 0),ob,rfl,rfl,rfl⟩ (wk [1,0] (fr (fc (x:=nl) (AVLe.slh _ rfl) (fw (fc (x:=.i 0) li fl))))) ?_)))))
 rintro m F h ⟨k,v,c0_0,rfl,rfl,rfl⟩
 refine ar (irk 1 (.n 14 (.b (decide ((k:Int)<(((Zb n.decls t).length:Nat):Int)))) .r) (ie (aq (ac (decide ((k:Int)<(((Zb n.decls t).length:Nat):Int))) dq (fun hc1=>?_) (fun hc1=>?_)))))
 ·refine ak (aq (ab 1 (ar ?_)))
  obtain ⟨x1,hx1⟩:=Z6 (xs:=Zb n.decls t) (j:=k) om
  refine is_ (Z0 (es:=Z8 (Zb n.decls t)) (hv:=none) (j:=(k:Int)) (sz:=1) (y:=.i x1) kr om (Z9 hx1) rfl) (irk 2 (.n 7 (.i x1) .r) (ie (az (irK 4 (.n 17 (Zii (((Zb n.decls t).take k).map (Z1 n.decls)) v) (.n 19 (Z2 n.decls) (.n 20 (.i x1) .r))) [0] [b1] (ic [] (Zfg n.decls x1 (hc:=(by have:=Zmi hdk hx1;omega))) ?_)))))
  rintro _ _ ⟨rfl,rfl⟩
  refine iL (Z3a [Z1 n.decls x1]) 1 1 ?_
  intro v1
  refine irk 0 (.n 22 (Z2y [Z1 n.decls x1]) (.p .r)) (ip 2 (Z3a (((Zb n.decls t).take (k+1)).map (Z1 n.decls))) (Z3a (((Zb n.decls t).take k).map (Z1 n.decls))) (Z3a [Z1 n.decls x1]) v none 1 (Zj3 _) (Zj3 _) (Zsp _) (by simp;omega) (by rw [Z1l hx1];simp [Z3a]) ?_)
  intro v2
  refine irk 1 (.n 5 (Zii (((Zb n.decls t).take (k+1)).map (Z1 n.decls)) v2) (.p (.d (.p (.d (.d (.d (.d (.p (.d (.k (.d .r)))))))))))) (ie (az (ia (((k+1:Nat):Int)) (((k:Int))+(1)) (irk 1 (.n 13 (.i (k+1:Nat)) (.p (.w .z))) (ie ?_)))))
  have hdr:=Z5 hx1
  exact ⟨_,_,_,ob,⟨k+1,v2,ob,rfl,rfl,rfl⟩,(wk [2,0] (fq (fc (x:=.i (k+1:Nat)) li fl)))⟩
 refine ax 0 (ar (ir 2 [(4,Zii (((Zb n.decls t).take k).map (Z1 n.decls)) v)] (ie ?_)))
 exact at_ (r2 [] [Zii (((Zb n.decls t).take k).map (Z1 n.decls)) v] ⟨rfl,rfl⟩ (AVLe.sl _ (congrArg Z3a (by rw [List.take_of_length_le om]))))
theorem Z6o (n:Normal) (op:Int) (num:Int) (ts:List Int) (hn:NOk n:=by exact ob) (hl_ts:ts.length≤4294967296:=by exact ob) (hnum:-9223372036854775808≤num∧num≤9223372036854775807:=by exact ob):Z3 Tryz.prog 197 [.agg [Z2 n.decls,sq1 n],.i op,.i num,nInt ts] [] (fun r h=>∃(t:Int),r=.tup [.i t,.b ((Z0t n op num ts).isSome)]∧h=[]∧∀x,Z0t n op num ts=some x→t=x):=by
 have hdk:=hn.decls
 have hrl:=hn.len
 have hcfl:(Z1 n.decls num).length≤4294967296:=by have:=Z13 hdk num;omega
 have hdl:n.decls.length≤4294967296:=by have:=hdk.len;omega
 refine enter Tryz.func197 kr (n:=149) kr kr (ar (iA [Z2 n.decls,sq1 n] ?_))
 intro b1
 refine ir 2 [(1,.i op),(2,.i num),(3,nInt ts),(4,.p b1 0)] (ie (ar (irk 2 (.n 11 (.i 0) .r) (ie (aq (ar (irk 1 (.n 18 (.i op) .r) (ie (ab 0 (ar (irk 2 (.n 19 (.b (op==0)) .r) (ie (ac (op==0) beq_iff_eq (fun hc1=>?_) (fun hc1=>?_))))))))))))))
 ·refine ar (Z1n 6 [(3,nInt ts),(26,.b ((decide (num≥(-999)))&&(decide (num≤999))))] [.obj b1 [Z2 n.decls,sq1 n]] ?_ (fun hj1=>?_))
  ·refine Z1n 11 [(31,.b (((decide (num≥(-999)))&&(decide (num≤999)))&&((ts.length:Int)==0)))] [.obj b1 [Z2 n.decls,sq1 n]] ?_ (fun hj2=>?_)
   ·refine ir 2 [(8,.i 0),(9,.b (((decide (num≥(-999)))&&(decide (num≤999)))&&((ts.length:Int)==0)))] (ie ?_)
    have hF:=sf0 (n:=n) (num:=num) (ts:=ts) hc1
    exact at_ (r2 [] [.i 0,.b (((decide (num≥(-999)))&&(decide (num≤999)))&&((ts.length:Int)==0))] ⟨0,rfl,rfl,(sfp hF)⟩ (AVLe.tup (.cons (lr _) (.cons (lb (sfb hF (by simp [*];try omega))) .nil))))
   refine ir 1 [(3,nInt ts),(27,.b ((decide (num≥(-999)))&&(decide (num≤999))))] (ib (b:=((decide (num≥(-999)))&&(decide (num≤999)))) 27 (fun hb1=>?_) (fun hb1=>?_))
   ·have hp1:(num≥(-999))∧(num≤999):=((Zj dq dq)).1 hb1
    refine irk 1 (.n 28 (nInt ts) (.k .z)) (iw (Z4 ts) (ir 2 [(31,.b ((ts.length:Int)==0))] ?_))
    exact Zy (wk [0] (fc (x:=.b ((ts.length:Int)==0)) (lb (by simp only [hb1];rfl)) fl)) hj2
   have hp2:¬((num≥(-999))∧(num≤999)):=Zd (Zj dq dq) hb1
   refine ir 4 [(31,.b false)] ?_
   exact Zy (wk [0] (fc (x:=.b false) (lb (by simp only [hb1];rfl)) fl)) hj2
  refine ir 3 [(2,.i num),(3,nInt ts),(23,.b (decide (num≥(-999))))] (ib (b:=(decide (num≥(-999)))) 23 (fun hb2=>?_) (fun hb2=>?_))
  ·have hp3:num≥(-999):=(dq).1 hb2
   refine ir 3 [(3,nInt ts),(26,.b (decide (num≤999)))] ?_
   exact Zy (wk [0] (fr (fc (x:=.b (decide (num≤999))) (lb (by simp only [hb2];rfl)) fl))) hj1
  have hp4:¬(num≥(-999)):=Zd dq hb2
  refine ir 3 [(3,nInt ts),(26,.b false)] ?_
  exact Zy (wk [0] (fr (fc (x:=.b false) (lb (by simp only [hb2];rfl)) fl))) hj1
 refine aq (ar (irk 2 (.n 32 (.b (op==1)) .r) (ie (Z6a (fun F h=>F=[(1,.i op),(2,.i num),(3,nInt ts),(4,.p b1 0),(11,.i 0),(18,.i op),(32,.b ((op==1)||((op==2)||((op==3)||(op==4)))))]∧h=[.obj b1 [Z2 n.decls,sq1 n]]) ?_ ?_))))
 ·refine ac (op==1) beq_iff_eq (fun hc2=>?_) (fun hc2=>?_)
  ·refine ak ?_
   exact ⟨[(1,.i op),(2,.i num),(3,nInt ts),(4,.p b1 0),(11,.i 0),(18,.i op),(32,.b ((op==1)||((op==2)||((op==3)||(op==4)))))],[.obj b1 [Z2 n.decls,sq1 n]],⟨rfl,rfl⟩,(wk [0] (fq (fw (fc (x:=.b (op==1)) (lb (by first|rfl|(rw [if_pos hc2])|(rw [if_neg hc2])|(simp [hc2];done)|(rw [Bool.eq_iff_iff];simp [hc2];done)|omega)) fl))))⟩
  refine ar (ir 2 [(1,.i op),(2,.i num),(3,nInt ts),(4,.p b1 0),(11,.i 0),(18,.i op),(32,.b (op==2))] (ie (ac (op==2) beq_iff_eq (fun hc3=>?_) (fun hc3=>?_))))
  ·refine ak ?_
   exact ⟨[(1,.i op),(2,.i num),(3,nInt ts),(4,.p b1 0),(11,.i 0),(18,.i op),(32,.b ((op==1)||((op==2)||((op==3)||(op==4)))))],[.obj b1 [Z2 n.decls,sq1 n]],⟨rfl,rfl⟩,(wk [0] (fq (fw (fc (x:=.b (op==2)) (lb (by first|rfl|(rw [if_pos hc2])|(rw [if_neg hc2])|(simp [hc2,hc3];done)|(rw [Bool.eq_iff_iff];simp [hc2,hc3];done)|omega)) fl))))⟩
  refine ar (irk 2 (.n 32 (.b (op==3)) (.w (.k (.k .z)))) (ie (ac (op==3) beq_iff_eq (fun hc4=>?_) (fun hc4=>?_))))
  ·refine ak ?_
   exact ⟨[(1,.i op),(2,.i num),(3,nInt ts),(4,.p b1 0),(11,.i 0),(18,.i op),(32,.b ((op==1)||((op==2)||((op==3)||(op==4)))))],[.obj b1 [Z2 n.decls,sq1 n]],⟨rfl,rfl⟩,(wk [0] (fq (fw (fc (x:=.b (op==3)) (lb (by first|rfl|(rw [if_pos hc2])|(rw [if_neg hc2])|(simp [hc2,hc3,hc4];done)|(rw [Bool.eq_iff_iff];simp [hc2,hc3,hc4];done)|omega)) fl))))⟩
  refine az (irk 2 (.n 32 (.b (op==4)) (.d .r)) (ie ?_))
  exact ⟨[(1,.i op),(2,.i num),(3,nInt ts),(4,.p b1 0),(11,.i 0),(18,.i op),(32,.b ((op==1)||((op==2)||((op==3)||(op==4)))))],[.obj b1 [Z2 n.decls,sq1 n]],⟨rfl,rfl⟩,(wk [0] (fq (fw (fc (x:=.b (op==4)) (lb (by first|rfl|(rw [if_pos hc2])|(rw [if_neg hc2])|(simp [hc2,hc3,hc4];done)|(rw [Bool.eq_iff_iff];simp [hc2,hc3,hc4];done)|omega)) fl))))⟩
 rintro F h ⟨rfl,rfl⟩
 refine ac ((op==1)||((op==2)||((op==3)||(op==4)))) (p:=(op=1)∨((op=2)∨((op=3)∨(op=4)))) (Zg beq_iff_eq (Zg beq_iff_eq (Zg beq_iff_eq beq_iff_eq))) (fun hc5=>?_) (fun hc5=>?_)
 ·refine az (iL (Z8 [0,0]) 2 1 ?_)
  intro v1
  refine ir 1 [(2,.i num),(3,nInt ts),(10,oInt [0,0] v1),(11,.i 0)] (ie (ar (Z1n 8 [(141,.i 0),(148,.b ((num==0)&&(decide (ts=[0,0]))))] [.tail v1 1,.obj b1 [Z2 n.decls,sq1 n]] ?_ (fun hj3=>?_))))
  ·refine ir 2 [(8,.i 0),(9,.b ((num==0)&&(decide (ts=[0,0]))))] (ie ?_)
   have hF:=sf1 (n:=n) (num:=num) (ts:=ts) hc5
   exact at_ (r2 [] [.i 0,.b ((num==0)&&(decide (ts=[0,0])))] ⟨0,rfl,rfl,(sfp hF)⟩ (AVLe.tup (.cons (lr _) (.cons (lb (sfb hF (by simp [*];try omega))) .nil))))
  refine ir 4 [(3,nInt ts),(10,oInt [0,0] v1),(141,.i 0),(144,.b (num==0))] (ib (b:=(num==0)) 144 (fun hb3=>?_) (fun hb3=>?_))
  ·have hp5:num=0:=(beq_iff_eq).1 hb3
   refine irk 2 (.n 145 (nInt ts) (.n 146 (nInt [0,0]) (.k (.d (.d (.k .z)))))) (ic [] (Z1a ts [0,0]) ?_)
   rintro _ _ ⟨rfl,rfl⟩
   refine irk 1 (.n 148 (.b (decide (ts=[0,0]))) .r) ?_
   exact Zy (wk [0,0] (fr (fc (x:=.b (decide (ts=[0,0]))) (lb (by simp only [hb3];rfl)) fl))) hj3
  have hp6:¬(num=0):=Zd beq_iff_eq hb3
  refine ir 4 [(141,.i 0),(148,.b false)] ?_
  exact Zy (wk [0,0] (fr (fc (x:=.b false) (lb (by simp only [hb3];rfl)) fl))) hj3
 refine ar (ir 2 [(1,.i op),(2,.i num),(3,nInt ts),(4,.p b1 0),(11,.i 0),(18,.i op),(38,.b (op==5))] (ie (ac (op==5) beq_iff_eq (fun hc6=>?_) (fun hc6=>?_))))
 ·refine az (iL (Z8 [0]) 1 1 ?_)
  intro v2
  refine irk 1 (.n 10 (oInt [0] v2) .r) (ie (ar (Z1n 8 [(141,.i 0),(148,.b ((num==0)&&(decide (ts=[0]))))] [.tail v2 1,.obj b1 [Z2 n.decls,sq1 n]] ?_ (fun hj4=>?_))))
  ·refine ir 2 [(8,.i 0),(9,.b ((num==0)&&(decide (ts=[0]))))] (ie ?_)
   have hF:=sf5 (n:=n) (num:=num) (ts:=ts) hc6
   exact at_ (r2 [] [.i 0,.b ((num==0)&&(decide (ts=[0])))] ⟨0,rfl,rfl,(sfp hF)⟩ (AVLe.tup (.cons (lr _) (.cons (lb (sfb hF (by simp [*];try omega))) .nil))))
  refine ir 4 [(3,nInt ts),(10,oInt [0] v2),(141,.i 0),(144,.b (num==0))] (ib (b:=(num==0)) 144 (fun hb4=>?_) (fun hb4=>?_))
  ·have hp7:num=0:=(beq_iff_eq).1 hb4
   refine irk 2 (.n 145 (nInt ts) (.n 146 (nInt [0]) (.k (.d (.d (.k .z)))))) (ic [] (Z1a ts [0]) ?_)
   rintro _ _ ⟨rfl,rfl⟩
   refine irk 1 (.n 148 (.b (decide (ts=[0]))) .r) ?_
   exact Zy (wk [0,0] (fr (fc (x:=.b (decide (ts=[0]))) (lb (by simp only [hb4];rfl)) fl))) hj4
  have hp8:¬(num=0):=Zd beq_iff_eq hb4
  refine ir 4 [(141,.i 0),(148,.b false)] ?_
  exact Zy (wk [0,0] (fr (fc (x:=.b false) (lb (by simp only [hb4];rfl)) fl))) hj4
 refine ar (irk 2 (.n 41 (.b (op==11)) .r) (ie (ac (op==11) beq_iff_eq (fun hc7=>?_) (fun hc7=>?_))))
 ·refine aq (ar (irk 1 (.n 43 (nInt ts) .r) (iw (Z4 ts) (irk 1 (.n 45 (.b ((ts.length:Int) != 2)) .r) (ie (ac ((ts.length:Int) != 2) bne_iff_ne (fun hc8=>?_) (fun hc8=>?_)))))))
  ·refine ar (ir 2 [(8,.i (-1)),(9,.b false)] (ie ?_))
   have hF:=Z077 (n:=n) (num:=num) hc7 hc8
   exact at_ (r2 [] [.i (-1),.b false] ⟨(-1),rfl,rfl,(sfnp hF)⟩ (AVLe.tup (.cons (lr _) (.cons (lb (sfn hF)) .nil))))
  refine ak (aD 12 (dtK (fuel:=9) 12 [0,1,2] (.n 48 (Z2 n.decls) (.n 49 (nInt ts) .r)) [0] [b1] ?_))
  obtain ⟨x1,hx1⟩:=Z6 (xs:=ts) (j:=0) om
  refine dx 3 (Z0 (es:=Z8 ts) (hv:=none) (j:=0) (sz:=1) (y:=.i x1) kr om (Z9 hx1) rfl) (dtk (fuel:=7) 8 [4] (.n 51 (.i x1) .r) (dK (fun F h=>∃(b2:Nat),F=[(2,.i num),(3,nInt ts),(12,.p b2 0),(13,.b (Z00 n.decls x1))]∧h=[.obj b2 (Z2g (Z27 n.decls x1)),.obj b1 [Z2 n.decls,sq1 n]]) ?_ ?_))
  ·refine Zvi 5 9 ?_ ?_
   ·refine dc 5 [] [] [] (Z5k n.decls x1) ?_
    rintro _ _ ⟨rfl,rfl⟩
    refine dt (fuel:=3) 6 [6,7,8] [(2,.i num),(3,nInt ts),(53,Z2s (Z27 n.decls x1)),(54,.b (Z00 n.decls x1))] (do_ 9 (dA 9 [] [] [.i 0,.i 0,nl] ?_))
    intro b2
    refine do_ 10 (dS 10 0 [] [] b2 0 (Z2g (Z27 n.decls x1)) [.i 0,.i 0,nl] (Z2g (Z27 n.decls x1)) (dtk (fuel:=0) 1 [11] (.n 13 (.b (Z00 n.decls x1)) .r) (de ?_)))
    exact ⟨[(2,.i num),(3,nInt ts),(12,.p b2 0),(13,.b (Z00 n.decls x1))],[.obj b2 (Z2g (Z27 n.decls x1)),.obj b1 [Z2 n.decls,sq1 n]],⟨b2,rfl,rfl⟩,(wk [0,0] fl)⟩
   refine dA 9 [0] [b1] [.i 0,.i 0,nl] ?_
   intro b3
   refine do_ 5 (dc 5 [] [] [] (Z5k n.decls x1) ?_)
   rintro _ _ ⟨rfl,rfl⟩
   refine dt (fuel:=2) 5 [6,7,8] [(2,.i num),(3,nInt ts),(12,.p b3 0),(53,Z2s (Z27 n.decls x1)),(54,.b (Z00 n.decls x1))] (do_ 10 (dS 10 0 [] [] b3 0 (Z2g (Z27 n.decls x1)) [.i 0,.i 0,nl] (Z2g (Z27 n.decls x1)) (dtk (fuel:=0) 1 [11] (.n 13 (.b (Z00 n.decls x1)) .r) (de ?_))))
   exact ⟨[(2,.i num),(3,nInt ts),(12,.p b3 0),(13,.b (Z00 n.decls x1))],[.obj b3 (Z2g (Z27 n.decls x1)),.obj b1 [Z2 n.decls,sq1 n]],⟨b3,rfl,rfl⟩,(wk [0,0] fl)⟩
  rintro F h ⟨b2,rfl,rfl⟩
  refine aD 17 (dT (fuel:=13) 17 [0,1,2,3] [(2,.i num),(3,nInt ts),(12,.p b2 0),(56,.i ((Z27 n.decls x1).to_)),(58,.b (Z00 n.decls x1))] [0] [b2] (db (b:=Z00 n.decls x1) 58 (fun hb5=>?_) (fun hb5=>?_)))
  ·have hp9:Z00 n.decls x1=true:=(Iff.rfl).1 hb5
   refine dtk (fuel:=12) 13 [4] (.n 59 (nInt ts) (.k (.k (.d (.k (.k .z)))))) ?_
   obtain ⟨x2,hx2⟩:=Z6 (xs:=ts) (j:=1) om
   refine dx 5 (Z0 (es:=Z8 ts) (hv:=none) (j:=1) (sz:=1) (y:=.i x2) kr om (Z9 hx2) rfl) (dtK (fuel:=4) 11 [6,7,8,9,10,11,15] (.n 8 (.i ((Z27 n.decls x1).to_)) (.n 66 (.b (x2==((Z27 n.decls x1).frm))) .r)) [0] [b2] (db (b:=(x2==((Z27 n.decls x1).frm))) 66 (fun hb6=>?_) (fun hb6=>?_)))
   ·have hp10:x2=((Z27 n.decls x1).frm):=(beq_iff_eq).1 hb6
    refine dtk (fuel:=0) 4 [12,13,14,16] (.n 9 (.b (num==0)) (.d (.k .z))) (de ?_)
    have hF:=Z04g (n:=n) (num:=num) hc7 hc8 hx1 hx2
    exact at_ (r2 [] [.i ((Z27 n.decls x1).to_),.b (num==0)] ⟨(Z27 n.decls x1).to_,rfl,rfl,(sfp hF)⟩ (AVLe.tup (.cons (lr _) (.cons (lb (sfb hF (by simp [*];try omega))) .nil))))
   have hp11:¬(x2=((Z27 n.decls x1).frm)):=Zd beq_iff_eq hb6
   refine dtk (fuel:=0) 4 [12,13,14,16] (.n 9 (.b false) (.d (.k .z))) (de ?_)
   have hF:=Z04g (n:=n) (num:=num) hc7 hc8 hx1 hx2
   exact at_ (r2 [] [.i ((Z27 n.decls x1).to_),.b false] ⟨(Z27 n.decls x1).to_,rfl,rfl,(sfp hF)⟩ (AVLe.tup (.cons (lr _) (.cons (lb (sfb hF (by simp [*]))) .nil))))
  have hp12:¬(Z00 n.decls x1=true):=Zd Iff.rfl hb5
  refine dt (fuel:=0) 13 [4,5,6,7,8,9,10,11,12,13,14,15,16] [(8,.i ((Z27 n.decls x1).to_)),(9,.b false)] (de ?_)
  have hF:=Z076 (n:=n) (num:=num) hc7 hc8 hx1 (by assumption)
  exact at_ (r2 [] [.i ((Z27 n.decls x1).to_),.b false] ⟨(Z27 n.decls x1).to_,rfl,rfl,(sfnp hF)⟩ (AVLe.tup (.cons (lr _) (.cons (lb (sfn hF)) .nil))))
 refine ar (irk 2 (.n 70 (.b (op==6)) .r) (ie (ac (op==6) beq_iff_eq (fun hc9=>?_) (fun hc9=>?_))))
 ·refine ar (irK 3 (.n 74 (Z2 n.decls) (.n 75 (.i num) .r)) [0] [b1] (ic [] (Zcp n.decls num) ?_))
  rintro _ _ ⟨rfl,rfl⟩
  refine irk 3 (.n 77 (.i (Z08 n.decls num)) (.n 78 (.agg [nInt (Z1 n.decls num)]) .r)) (iA [nl] ?_)
  intro b4
  refine irk 1 (.n 14 (.i (Z08 n.decls num)) .r) (iS 0 b4 0 [nInt (Z1 n.decls num)] [nl] [nInt (Z1 n.decls num)] (ie (ar (Z1n 9 [(79,.i (Z08 n.decls num)),(87,.b ((decide ((Z08 n.decls num)≥0))&&(decide (ts=(Z1 n.decls num)))))] [.obj b4 [nInt (Z1 n.decls num)],.obj b1 [Z2 n.decls,sq1 n]] ?_ (fun hj5=>?_)))))
  ·refine ir 2 [(8,.i (Z08 n.decls num)),(9,.b ((decide ((Z08 n.decls num)≥0))&&(decide (ts=(Z1 n.decls num)))))] (ie ?_)
   have hF:=sf6 (n:=n) (num:=num) (ts:=ts) hc9
   exact at_ (r2 [] [.i (Z08 n.decls num),.b ((decide ((Z08 n.decls num)≥0))&&(decide (ts=(Z1 n.decls num))))] ⟨Z08 n.decls num,rfl,rfl,(sfp hF)⟩ (AVLe.tup (.cons (lr _) (.cons (lb (sfb hF (by simp [*];try omega))) .nil))))
  refine ir 4 [(3,nInt ts),(15,.p b4 0),(79,.i (Z08 n.decls num)),(82,.b (decide ((Z08 n.decls num)≥0)))] (ib (b:=(decide ((Z08 n.decls num)≥0))) 82 (fun hb7=>?_) (fun hb7=>?_))
  ·have hp13:(Z08 n.decls num)≥0:=(dq).1 hb7
   refine irK 3 (.n 83 (nInt ts) (.n 85 (nInt (Z1 n.decls num)) (.k (.d (.d (.k .z)))))) [0] [b4] (ic [] (Z1a ts (Z1 n.decls num)) ?_)
   rintro _ _ ⟨rfl,rfl⟩
   refine irk 1 (.n 87 (.b (decide (ts=(Z1 n.decls num)))) .r) ?_
   exact Zy (wk [0,0] (fr (fc (x:=.b (decide (ts=(Z1 n.decls num)))) (lb (by simp only [hb7];rfl)) fl))) hj5
  have hp14:¬((Z08 n.decls num)≥0):=Zd dq hb7
  refine irk 5 (.n 87 (.b false) (.d (.d (.d (.k .z))))) ?_
  exact Zy (wk [0,0] (fr (fc (x:=.b false) (lb (by simp only [hb7];rfl)) fl))) hj5
 refine aq (ar (irk 2 (.n 88 (.b (op==9)) .r) (ie (Z6a (fun F h=>F=[(1,.i op),(2,.i num),(3,nInt ts),(4,.p b1 0),(88,.b ((op==9)||(op==10)))]∧h=[.obj b1 [Z2 n.decls,sq1 n]]) ?_ ?_))))
 ·refine ac (op==9) beq_iff_eq (fun hc10=>?_) (fun hc10=>?_)
  ·refine ak ?_
   exact ⟨[(1,.i op),(2,.i num),(3,nInt ts),(4,.p b1 0),(88,.b ((op==9)||(op==10)))],[.obj b1 [Z2 n.decls,sq1 n]],⟨rfl,rfl⟩,(wk [0] (fq (fc (x:=.b (op==9)) (lb (by first|rfl|(rw [if_pos hc10])|(rw [if_neg hc10])|(simp [hc10];done)|(rw [Bool.eq_iff_iff];simp [hc10];done)|omega)) fl)))⟩
  refine az (ir 2 [(1,.i op),(2,.i num),(3,nInt ts),(4,.p b1 0),(88,.b (op==10))] (ie ?_))
  exact ⟨[(1,.i op),(2,.i num),(3,nInt ts),(4,.p b1 0),(88,.b ((op==9)||(op==10)))],[.obj b1 [Z2 n.decls,sq1 n]],⟨rfl,rfl⟩,(wk [0] (fq (fc (x:=.b (op==10)) (lb (by first|rfl|(rw [if_pos hc10])|(rw [if_neg hc10])|(simp [hc10];done)|(rw [Bool.eq_iff_iff];simp [hc10];done)|omega)) fl)))⟩
 rintro F h ⟨rfl,rfl⟩
 refine ac ((op==9)||(op==10)) (p:=(op=9)∨(op=10)) (Zg beq_iff_eq beq_iff_eq) (fun hc11=>?_) (fun hc11=>?_)
 ·refine aq (ar (Z24 [(1,.i op),(2,.i num),(3,nInt ts),(4,.p b1 0),(99,.b ((decide (num<0))||(decide (num≥(((n.routines.map Z17).length:Nat):Int)))))] [.obj b1 [Z2 n.decls,sq1 n]] ?_ ?_))
  ·refine ir 3 [(1,.i op),(2,.i num),(3,nInt ts),(4,.p b1 0),(93,.b (decide (num<0)))] (ib (b:=(decide (num<0))) 93 (fun hb8=>?_) (fun hb8=>?_))
   ·have hp15:num<0:=(dq).1 hb8
    refine irk 6 (.n 99 (.b true) (.d (.w .z))) (ie ?_)
    exact wk [0] (fq (fc (x:=.b true) (lb (by simp only [hb8];rfl)) fl))
   have hp16:¬(num<0):=Zd dq hb8
   refine irK 3 (.n 94 (.i num) (.n 96 (sq1 n) (.w (.k .z)))) [0] [b1] (io (.i (((n.routines.map Z17).length:Nat):Int)) (.i (((Z6l (n.routines.map Z17)).length:Nat):Int)) (li (by rw [Z6f])) (irk 2 (.n 99 (.b (decide (num≥(((n.routines.map Z17).length:Nat):Int)))) .r) (ie ?_)))
   exact wk [0] (fq (fc (x:=.b (decide (num≥(((n.routines.map Z17).length:Nat):Int)))) (lb (by simp only [hb8];rfl)) fl))
  refine ac ((decide (num<0))||(decide (num≥(((n.routines.map Z17).length:Nat):Int)))) (p:=(num<0)∨(num≥(((n.routines.map Z17).length:Nat):Int))) (Zg dq dq) (fun hc12=>?_) (fun hc12=>?_)
  ·refine ar (ir 2 [(8,.i (-1)),(9,.b false)] (ie ?_))
   have hF:=sf9n (n:=n) (ts:=ts) hc11 hc12
   exact at_ (r2 [] [.i (-1),.b false] ⟨(-1),rfl,rfl,(sfnp hF)⟩ (AVLe.tup (.cons (lr _) (.cons (lb (sfn hF)) .nil))))
  refine ak (aD 14 (dT (fuel:=11) 14 [0,1,2] [(1,.i op),(2,.i num),(3,nInt ts),(4,.p b1 0),(101,sq1 n),(102,.i num)] [0] [b1] ?_))
  obtain ⟨x3,hx3⟩:=Z6 (xs:=(n.routines.map Z17)) (j:=num.toNat) om
  obtain ⟨r,hr,hrx⟩:=Zg7 hx3
  have hrp:=hn.params_at hr
  have hpx:x3.pms=r.params:=by rw [hrx];rfl
  have hpl:x3.pms.length≤3:=by rw [hpx];exact hrp
  refine dx 3 (Z0 (es:=Z6l (n.routines.map Z17)) (hv:=none) (j:=num) (sz:=3) (y:=aSg3 x3) kr om (Z7i hx3) rfl) (dtK (fuel:=5) 10 [4,5,6,7,8] (.n 105 (nInt x3.pms) (.n 107 (sq1 n) (.n 108 (.i num) .r))) [0] [b1] (dx 9 (Z0 (es:=Z6l (n.routines.map Z17)) (hv:=none) (j:=num) (sz:=3) (y:=aSg3 x3) kr om (Z7i hx3) rfl) (dtk (fuel:=0) 4 [10,11,12,13] (.n 10 (nInt x3.pms) (.n 11 (.i x3.res) .r)) (de (aq (ar (irk 2 (.n 113 (.b (op==9)) .r) (ie (ac (op==9) beq_iff_eq (fun hc13=>?_) (fun hc13=>?_))))))))))
  ·refine ar (ir 3 [(114,.i x3.res),(115,nInt ts),(116,nInt x3.pms)] (ic [] (Z1a ts x3.pms) ?_))
   rintro _ _ ⟨rfl,rfl⟩
   refine ir 2 [(8,.i x3.res),(9,.b (decide (ts=x3.pms)))] (ie ?_)
   have hF:=sf9 (ts:=ts) hc13 hc12 hx3
   exact at_ (r2 [] [.i x3.res,.b (decide (ts=x3.pms))] ⟨x3.res,rfl,rfl,(sfp hF)⟩ (AVLe.tup (.cons (lr _) (.cons (lb (sfb hF (by simp [*];try omega))) .nil))))
  refine ak (ar (irk 1 (.n 118 (nInt x3.pms) .r) (iw (Z4 x3.pms) (ia (((x3.pms.length:Int)-1)) (((x3.pms.length:Int))-(1)) (irk 1 (.n 16 (.i ((x3.pms.length:Int)-1)) .r) (ie (aq (ar (irk 2 (.n 122 (.b (decide (((x3.pms.length:Int)-1)<0))) .r) (ie (ac (decide (((x3.pms.length:Int)-1)<0)) dq (fun hc14=>?_) (fun hc14=>?_))))))))))))
  ·refine ar (ir 2 [(8,.i (-1)),(9,.b false)] (ie ?_))
   have hF:=Z075 (ts:=ts) (hc11.resolve_left hc13) hc12 hx3 hc14
   exact at_ (r2 [] [.i (-1),.b false] ⟨(-1),rfl,rfl,(sfnp hF)⟩ (AVLe.tup (.cons (lr _) (.cons (lb (sfn hF)) .nil))))
  refine ak (aD 9 (dtK (fuel:=5) 9 [0,1,2,3] (.n 124 (Z2 n.decls) (.n 125 (nInt x3.pms) (.n 126 (.i ((x3.pms.length:Int)-1)) .r))) [0] [b1] ?_))
  obtain ⟨x4,hx4⟩:=Z6 (xs:=x3.pms) (j:=((x3.pms.length:Int)-1).toNat) om
  refine dx 4 (Z0 (es:=Z8 x3.pms) (hv:=none) (j:=((x3.pms.length:Int)-1)) (sz:=1) (y:=.i x4) kr om (Z9 hx4) rfl) (dtk (fuel:=2) 4 [5,6] (.n 128 (.i x4) (.n 129 (.i x3.res) .r)) (do_ 7 (dc 7 [] [] [] (Zh2 n.decls x4 x3.res) ?_)))
  rintro _ _ ⟨rfl,rfl⟩
  refine dtk (fuel:=0) 1 [8] (.n 17 (.i (Z2a n.decls x4 x3.res)) .r) (de (ar (Z1n 10 [(131,.i (Z2a n.decls x4 x3.res)),(140,.b ((decide ((Z2a n.decls x4 x3.res)≥0))&&(decide (ts=(x3.pms.take (((x3.pms.length:Int)-1).toNat))))))] [.obj b1 [Z2 n.decls,sq1 n]] ?_ (fun hj6=>?_))))
  ·refine ir 2 [(8,.i (Z2a n.decls x4 x3.res)),(9,.b ((decide ((Z2a n.decls x4 x3.res)≥0))&&(decide (ts=(x3.pms.take (((x3.pms.length:Int)-1).toNat))))))] (ie ?_)
   have hF:=sf10 (ts:=ts) (hc11.resolve_left hc13) hc12 hx3 hc14 hx4
   exact at_ (r2 [] [.i (Z2a n.decls x4 x3.res),.b ((decide ((Z2a n.decls x4 x3.res)≥0))&&(decide (ts=(x3.pms.take (((x3.pms.length:Int)-1).toNat)))))] ⟨Z2a n.decls x4 x3.res,rfl,rfl,(sfp hF)⟩ (AVLe.tup (.cons (lr _) (.cons (lb (sfb hF (by rw [Bool.eq_iff_iff];simp))) .nil))))
  refine ir 4 [(3,nInt ts),(10,nInt x3.pms),(16,.i ((x3.pms.length:Int)-1)),(131,.i (Z2a n.decls x4 x3.res)),(134,.b (decide ((Z2a n.decls x4 x3.res)≥0)))] (ib (b:=(decide ((Z2a n.decls x4 x3.res)≥0))) 134 (fun hb9=>?_) (fun hb9=>?_))
  ·have hp17:(Z2a n.decls x4 x3.res)≥0:=(dq).1 hb9
   refine irk 3 (.n 135 (nInt ts) (.n 136 (nInt x3.pms) (.n 137 (.i ((x3.pms.length:Int)-1)) (.k (.d (.d (.d (.k .z)))))))) (is_ (Z63 (es:=Z8 x3.pms) (hv:=none) (l:=0) (m:=((x3.pms.length:Int)-1)) (sz:=1) (es':=Z8 (x3.pms.take (((x3.pms.length:Int)-1).toNat))) kr om (by simp<;>omega) (by simp<;>omega) (Z11 _) (by first|(simp only [Int.toNat_natCast,List.take_length,Z3v,Z4n];done)|(simp only [Int.toNat_natCast,List.take_length,Z3v,Z4n];rfl)|(simp [Z3v,Z4n];done))) (ic [] (Z1a ts (x3.pms.take (((x3.pms.length:Int)-1).toNat))) ?_))
   rintro _ _ ⟨rfl,rfl⟩
   refine irk 1 (.n 140 (.b (decide (ts=(x3.pms.take (((x3.pms.length:Int)-1).toNat))))) .r) ?_
   exact Zy (wk [0] (fr (fc (x:=.b (decide (ts=(x3.pms.take (((x3.pms.length:Int)-1).toNat))))) (lb (by simp only [hb9];rfl)) fl))) hj6
  have hp18:¬((Z2a n.decls x4 x3.res)≥0):=Zd dq hb9
  refine irk 6 (.n 140 (.b false) (.d (.d (.d (.d (.k .z)))))) ?_
  exact Zy (wk [0] (fr (fc (x:=.b false) (lb (by simp only [hb9];rfl)) fl))) hj6
 refine ar (ir 2 [(8,.i (-1)),(9,.b false)] (ie ?_))
 have hF:=sfd (n:=n) (num:=num) (ts:=ts) hc1 hc5 hc6 hc7 hc9 hc11
 exact at_ (r2 [] [.i (-1),.b false] ⟨(-1),rfl,rfl,(sfnp hF)⟩ (AVLe.tup (.cons (lr _) (.cons (lb (sfn hF)) .nil))))
theorem Z4j (n:Normal) (us:List Int) (ks:List Block) (ms:List (List Int)) (hn:NOk n:=by exact ob) (hnn:∀t∈us,0≤t) (hk:0<ks.length:=by exact ob) (hl:ks.length=ms.length:=by exact ob) (hb:us.length+3+4*bsz ks≤1000000000:=by exact ob) (hr:brng ks:=by exact ob) (hm3:∀m∈ms,m.length≤3) (hmn:∀m∈ms,∀f∈m,0≤f) (ih:∀(b:Block) (us:List Int),(b.sz≤bsz ks)→(us.length+4*b.sz≤1000000000)→(b.rng)→(∀t∈us,0≤t)→Z3 Tryz.prog 113 [.agg [Z2 n.decls,sq1 n],nInt us,Za b] [] (fun r h=>r=.i (Zf n us b)∧h=[])):Z3 Tryz.prog 196 [.agg [Z2 n.decls,sq1 n],nInt us,Zv ks,Z2y ms] [] (fun r h=>r=.tup [.i (Z1k n us ks ms true 0),.b (decide (0≤Z1k n us ks ms true 0))]∧h=[]):=by
 have hkl:=Zux ks
 refine enter Tryz.func196 kr (n:=45) kr kr (ar (iA [Z2 n.decls,sq1 n] ?_))
 intro b1
 refine ir 2 [(1,nInt us),(2,Zv ks),(3,Z2y ms),(4,.p b1 0)] (ie (ar (irk 1 (.n 10 (.i (-1)) .r) (ie (aq (ar (irk 1 (.n 14 (Zv ks) .r) (iw (Z0f ks) (irk 1 (.n 16 (.i 0) .r) (ie (ab 0 (al (fun m F h=>∃(k:Nat) (t:Int),(k≤ks.length)∧(0<k→0≤t)∧(Z1k n us (ks.drop k) (ms.drop k) (decide (k=0)) t=Z1k n us ks ms true 0)∧F=[(1,nInt us),(3,Z2y ms),(4,.p b1 0),(10,.i t),(14,Zv ks),(15,.i ks.length),(16,.i k)]∧h=[.obj b1 [Z2 n.decls,sq1 n]]∧m=ks.length-k) _ _ _ ⟨0,(-1),ob,ob,(Zws hk (-1)),rfl,rfl,rfl⟩ (wk [0] (fq (fw (fc (x:=.i 0) li fl)))) ?_))))))))))))
 rintro m F h ⟨k,t,c0_0,c0_1,c0_2,rfl,rfl,rfl⟩
 refine ar (irk 1 (.n 17 (.b (decide ((k:Int)<(ks.length:Int)))) .r) (ie (aq (ac (decide ((k:Int)<(ks.length:Int))) dq (fun hc1=>?_) (fun hc1=>?_)))))
 ·refine ak (aq (ab 1 (ar (irk 1 (.n 18 (.i k) .r) ?_))))
  obtain ⟨x1,hx1⟩:=Z6 (xs:=ks) (j:=k) om
  have hbs:=Zuy hx1
  have hbr:=Zfs hr hx1
  refine is_ (Z0 (es:=Z19 ks) (hv:=none) (j:=(k:Int)) (sz:=2) (y:=Za x1) kr om (Z1q hx1) rfl) (irk 1 (.n 20 (Za x1) .r) (iA [nl,.i 0] ?_))
  intro b2
  refine irk 1 (.n 11 (.i k) .r) (iS 0 b2 0 (Z03 x1) [nl,.i 0] (Z03 x1) (ie (aD 11 (dtK (fuel:=7) 11 [0,1,2,3] (.n 21 (.agg [Z2 n.decls,sq1 n]) (.n 22 (nInt us) (.n 23 (Z2y ms) (.n 24 (.i k) .r)))) [1] [b1] ?_))))
  obtain ⟨x2,hx2⟩:=Z6 (xs:=ms) (j:=k) om
  have hxl:=hm3 x2 (List.mem_of_getElem? hx2)
  have hxn:=hmn x2 (List.mem_of_getElem? hx2)
  refine dx 4 (Z0 (es:=Z3a ms) (hv:=none) (j:=(k:Int)) (sz:=1) (y:=nInt x2) kr om (Z4o hx2) rfl) (dtK (fuel:=4) 6 [5,8] (.n 26 (nInt x2) (.n 29 (Za x1) .r)) [0] [b2] (do_ 6 (dL 6 [0,1] [b2,b1] (Z3a [us,x2]) 2 1 ?_)))
  intro v1
  refine dtk (fuel:=3) 3 [] (.n 27 (Z2y [us,x2]) (.p .r)) (do_ 7 (dc 7 [] [0,1] [b2,b1] (Z7n [us,x2] (hf:=(by simp only [Zdo,List.length_append];omega))) ?_))
  rintro _ _ ⟨v2,rfl,rfl⟩
  refine dtk (fuel:=2) 2 [] (.n 28 (nInt ([us,x2].flatten)) (.p .r)) (do_ 9 (dc 9 [] [] [] (ih x1 ([us,x2].flatten) ob (by simp only [Zdo,List.length_append];omega) ob (by rw [Zdo];exact Znl hnn hxn)) ?_))
  rintro _ _ ⟨rfl,rfl⟩
  refine dtk (fuel:=0) 1 [10] (.n 13 (.i (Zf n ([us,x2].flatten) x1)) .r) (de (aq (ar (Z24 [(1,nInt us),(3,Z2y ms),(4,.p b1 0),(13,.i (Zf n ([us,x2].flatten) x1)),(14,Zv ks),(15,.i ks.length),(16,.i k),(41,.b ((decide ((Zf n ([us,x2].flatten) x1)<0))||((decide ((k:Int)>0))&&((Zf n ([us,x2].flatten) x1) != t))))] [.tail v2 1,.tail v1 1,.obj b2 (Z03 x1),.obj b1 [Z2 n.decls,sq1 n]] ?_ ?_))))
  ·refine ir 3 [(1,nInt us),(3,Z2y ms),(4,.p b1 0),(10,.i t),(11,.i k),(13,.i (Zf n ([us,x2].flatten) x1)),(14,Zv ks),(15,.i ks.length),(16,.i k),(33,.b (decide ((Zf n ([us,x2].flatten) x1)<0)))] (ib (b:=(decide ((Zf n ([us,x2].flatten) x1)<0))) 33 (fun hb1=>?_) (fun hb1=>?_))
   ·have hp1:(Zf n ([us,x2].flatten) x1)<0:=(dq).1 hb1
    refine irk 8 (.n 41 (.b true) (.d (.k (.k (.k (.d (.d (.w .z)))))))) (ie ?_)
    exact wk [0,0,0,0] (fq (fw (fr (fc (x:=.b true) (lb (by simp only [hb1];rfl)) fl))))
   have hp2:¬((Zf n ([us,x2].flatten) x1)<0):=Zd dq hb1
   refine irk 3 (.n 36 (.b (decide ((k:Int)>0))) (.w (.k (.d (.w .z))))) (ib (b:=(decide ((k:Int)>0))) 36 (fun hb2=>?_) (fun hb2=>?_))
   ·have hp3:(k:Int)>0:=(dq).1 hb2
    refine irk 5 (.n 41 (.b ((Zf n ([us,x2].flatten) x1) != t)) (.k (.d .r))) (ie ?_)
    exact wk [0,0,0,0] (fq (fw (fr (fc (x:=.b ((Zf n ([us,x2].flatten) x1) != t)) (lb (by simp only [hb1,hb2];rfl)) fl))))
   have hp4:¬((k:Int)>0):=Zd dq hb2
   refine irk 5 (.n 41 (.b false) (.k (.d .r))) (ie ?_)
   exact wk [0,0,0,0] (fq (fw (fr (fc (x:=.b false) (lb (by simp only [hb1,hb2];rfl)) fl))))
  refine ac ((decide ((Zf n ([us,x2].flatten) x1)<0))||((decide ((k:Int)>0))&&((Zf n ([us,x2].flatten) x1) != t))) (p:=((Zf n ([us,x2].flatten) x1)<0)∨(((k:Int)>0)∧((Zf n ([us,x2].flatten) x1)≠t))) (Zg dq (Zj dq bne_iff_ne)) (fun hc2=>?_) (fun hc2=>?_)
  ·refine ar (ir 2 [(8,.i (-1)),(9,.b false)] (ie ?_))
   have hK:Z1k n us ks ms true 0=-1:=by rw [←c0_2];rw [Zdo] at hc2;exact Zr2 hx1 hx2 hc2
   exact at_ (r2 [] [.i (-1),.b false] ⟨rfl,rfl⟩ (AVLe.tup (.cons (li (by rw [hK])) (.cons (lb (by rw [hK];rfl)) .nil))))
  refine ak (az (ir 2 [(1,nInt us),(3,Z2y ms),(4,.p b1 0),(10,.i (Zf n ([us,x2].flatten) x1)),(14,Zv ks),(15,.i ks.length),(16,.i k)] (ie (az (ia (((k+1:Nat):Int)) (((k:Int))+(1)) (irk 1 (.n 16 (.i (k+1:Nat)) (.p (.w (.k (.k .z))))) (ie ?_)))))))
  exact ⟨_,_,_,ob,⟨k+1,Zf n ([us,x2].flatten) x1,ob,(by intro _;omega),(by rw [Zdo] at hc2 ⊢;rw [←c0_2];exact (Zna hx1 hx2 hc2).symm),rfl,rfl,rfl⟩,(wk [3] (fq (fw (fc (x:=.i (k+1:Nat)) li fl))))⟩
 refine ax 0 (ar (ir 3 [(8,.i t),(9,.b true)] (ie ?_)))
 have hK:Z1k n us ks ms true 0=t:=by rw [←c0_2];exact Zr3 om
 exact at_ (r2 [] [.i t,.b true] ⟨rfl,rfl⟩ (AVLe.tup (.cons (li (by rw [hK])) (.cons (lb (by rw [hK];exact (decide_eq_true (c0_1 om)).symm)) .nil))))
theorem Z4k (n:Normal) (us:List Int) (s:Step) (hn:NOk n:=by exact ob) (hty:NTy n:=by exact ob) (hnn:∀t∈us,0≤t) (hb:us.length+4*s.sz≤1000000000:=by exact ob) (hr:s.rng:=by exact ob) (ih:∀(b:Block) (us:List Int),(b.sz<s.sz)→(us.length+4*b.sz≤1000000000)→(b.rng)→(∀t∈us,0≤t)→Z3 Tryz.prog 113 [.agg [Z2 n.decls,sq1 n],nInt us,Za b] [] (fun r h=>r=.i (Zf n us b)∧h=[])):Z3 Tryz.prog 160 [.agg [Z2 n.decls,sq1 n],nInt us,Z0g s] [] (fun r h=>∃(t:Int),r=.tup [.i t,.b (decide (0≤Z7 n us s))]∧h=[]∧(¬Z0q s.op=true→0≤Z7 n us s→t=Z7 n us s)):=by
 have hdk:=hn.decls
 have hkz:=Z5m s
 have haz:=Z86 s
 have hse:=s.sz_eq
 rw [s.rng_eq] at hr
 obtain ⟨hnum,hkr⟩:=hr
 refine enter Tryz.func160 kr (n:=233) kr kr (ar (iA [Z2 n.decls,sq1 n] ?_))
 intro b1
 refine iA (Z02 s) ?_
 intro b2
 refine ir 2 [(1,nInt us),(3,.p b1 0),(5,.p b2 0)] (ie (ar (irK 2 (.n 16 (nInt s.args) .r) [0] [b2] (iw (Z4 s.args) (iM 0 s.args.length ?_)))))
 intro v1
 refine irk 1 (.n 8 (oInt [] v1) .r) (ie (aq (ar (irK 2 (.n 20 (nInt s.args) .r) [1] [b2] (iw (Z4 s.args) (irk 1 (.n 22 (.i 0) .r) (ie (ab 0 (al (fun m F h=>∃(k:Nat) (ts:List Int) (v:Value),(k≤s.args.length)∧(ts.length=k)∧(Z21 us (s.args.take k)=some ts)∧F=[(1,nInt us),(3,.p b1 0),(5,.p b2 0),(8,oInt ts v),(20,nInt s.args),(21,.i s.args.length),(22,.i k)]∧h=[.obj b2 (Z02 s),.obj b1 [Z2 n.decls,sq1 n],.tail v 1]∧m=s.args.length-k) _ _ _ ⟨0,[],v1,ob,ob,ob,rfl,rfl,rfl⟩ (wk [1,1,0] (fq (fw (fc (x:=.i 0) li fl)))) ?_)))))))))
 rintro m F h ⟨k,ts,v,c0_0,c0_1,c0_2,rfl,rfl,rfl⟩
 refine ar (irk 1 (.n 23 (.b (decide ((k:Int)<(s.args.length:Int)))) .r) (ie (aq (ac (decide ((k:Int)<(s.args.length:Int))) dq (fun hc1=>?_) (fun hc1=>?_)))))
 ·refine ak (aq (ab 1 (ar ?_)))
  obtain ⟨x1,hx1⟩:=Z6 (xs:=s.args) (j:=k) om
  refine is_ (Z0 (es:=Z8 s.args) (hv:=none) (j:=(k:Int)) (sz:=1) (y:=.i x1) kr om (Z9 hx1) rfl) (irk 2 (.n 10 (.i x1) .r) (ie (aq (ar (Z24 [(1,nInt us),(3,.p b1 0),(5,.p b2 0),(8,oInt ts v),(10,.i x1),(20,nInt s.args),(21,.i s.args.length),(22,.i k),(33,.b ((decide (x1<0))||(decide (x1≥(us.length:Int)))))] [.obj b2 (Z02 s),.obj b1 [Z2 n.decls,sq1 n],.tail v 1] ?_ ?_)))))
  ·refine ir 3 [(1,nInt us),(3,.p b1 0),(5,.p b2 0),(8,oInt ts v),(10,.i x1),(20,nInt s.args),(21,.i s.args.length),(22,.i k),(28,.b (decide (x1<0)))] (ib (b:=(decide (x1<0))) 28 (fun hb1=>?_) (fun hb1=>?_))
   ·have hp1:x1<0:=(dq).1 hb1
    refine irk 5 (.n 33 (.b true) (.d (.w (.w .z)))) (ie ?_)
    exact wk [0,0,0] (fq (fq (fc (x:=.b true) (lb (by simp only [hb1];rfl)) fl)))
   have hp2:¬(x1<0):=Zd dq hb1
   refine irk 2 (.n 29 (.i x1) (.n 30 (nInt us) (.w (.w (.k .z))))) (iw (Z4 us) (irk 2 (.n 33 (.b (decide (x1≥(us.length:Int)))) .r) (ie ?_)))
   exact wk [0,0,0] (fq (fq (fc (x:=.b (decide (x1≥(us.length:Int)))) (lb (by simp only [hb1];rfl)) fl)))
  refine ac ((decide (x1<0))||(decide (x1≥(us.length:Int)))) (p:=(x1<0)∨(x1≥(us.length:Int))) (Zg dq dq) (fun hc2=>?_) (fun hc2=>?_)
  ·refine ar (ir 2 [(6,.i (-1)),(7,.b false)] (ie ?_))
   have hS:Z7 n us s=-1:=Zio (Ziw hx1 (Z5t om))
   exact at_ (r2 [] [.i (-1),.b false] ⟨(-1),rfl,rfl,(by intro _ h;rw [hS] at h;omega)⟩ (AVLe.tup (.cons (lr _) (.cons (lb (by rw [hS];rfl)) .nil))))
  refine ak (az (ir 3 [(1,nInt us),(3,.p b1 0),(5,.p b2 0),(20,nInt s.args),(21,.i s.args.length),(22,.i k),(34,oInt ts v),(35,nInt us),(36,.i x1)] ?_))
  obtain ⟨x2,hx2⟩:=Z6 (xs:=us) (j:=x1.toNat) om
  refine is_ (Z0 (es:=Z8 us) (hv:=none) (j:=x1) (sz:=1) (y:=.i x2) kr om (Z9 hx2) rfl) (irk 1 (.n 38 (.i x2) .r) (iL (Z8 [x2]) 1 1 ?_))
  intro v2
  refine irk 0 (.n 39 (nInt [x2]) (.p .r)) (ip 3 (Z8 (ts++[x2])) (Z8 ts) (Z8 [x2]) v none 1 (Z11 _) (Z11 _) (Z3u _) (by simp<;>omega) (by simp [Z29,Z8]) ?_)
  intro v3
  refine irk 1 (.n 8 (oInt (ts++[x2]) v3) .r) (ie (az (ia (((k+1:Nat):Int)) (((k:Int))+(1)) (irk 1 (.n 22 (.i (k+1:Nat)) (.p (.k (.p (.d (.d (.p (.w (.k .z))))))))) (ie ?_)))))
  exact ⟨_,_,_,ob,⟨k+1,(ts++[x2]),v3,ob,ob,(Zot c0_2 hx1 (by rw [Z6v om hx2])),rfl,rfl,rfl⟩,(wk [2,2,0] (fq (fw (fc (x:=.i (k+1:Nat)) li fl))))⟩
 refine ax 0 (aq (ar (Z24 [(1,nInt us),(3,.p b1 0),(5,.p b2 0),(8,oInt ts v),(70,.b ((s.into != 0)&&((s.op != 6)||((decide (s.into<1))||((decide (s.into>(us.length:Int)))||((gI us (s.into-1))==0))))))] [.obj b2 (Z02 s),.obj b1 [Z2 n.decls,sq1 n],.tail v 1] ?_ ?_)))
 ·refine iR 4 [(1,nInt us),(3,.p b1 0),(5,.p b2 0),(8,oInt ts v),(45,.b (s.into != 0))] [0] [b2] (ib (b:=(s.into != 0)) 45 (fun hb2=>?_) (fun hb2=>?_))
  ·have hp3:s.into≠0:=(bne_iff_ne).1 hb2
   refine irK 4 (.n 49 (.b (s.op != 6)) (.w (.k .z))) [0] [b2] (ib (b:=(s.op != 6)) 49 (fun hb3=>?_) (fun hb3=>?_))
   ·have hp4:s.op≠6:=(bne_iff_ne).1 hb3
    refine irk 21 (.n 70 (.b true) (.k (.d .r))) (ie ?_)
    exact wk [0,0,0] (fq (fc (x:=.b true) (lb (by simp only [hb2,hb3];rfl)) fl))
   have hp5:¬(s.op≠6):=Zd bne_iff_ne hb3
   refine irK 5 (.n 54 (.b (decide (s.into<1))) (.d (.d .r))) [0] [b2] (ib (b:=(decide (s.into<1))) 54 (fun hb4=>?_) (fun hb4=>?_))
   ·have hp6:s.into<1:=(dq).1 hb4
    refine irk 16 (.n 70 (.b true) (.k (.d .r))) (ie ?_)
    exact wk [0,0,0] (fq (fc (x:=.b true) (lb (by simp only [hb2,hb3,hb4];rfl)) fl))
   have hp7:¬(s.into<1):=Zd dq hb4
   refine irK 3 (.n 56 (.i s.into) (.n 57 (nInt us) (.k (.d .r)))) [0] [b2] (iw (Z4 us) (irk 3 (.n 61 (.b (decide (s.into>(us.length:Int)))) .r) (ib (b:=(decide (s.into>(us.length:Int)))) 61 (fun hb5=>?_) (fun hb5=>?_))))
   ·have hp8:s.into>(us.length:Int):=(dq).1 hb5
    refine irk 9 (.n 70 (.b true) (.k (.d .r))) (ie ?_)
    exact wk [0,0,0] (fq (fc (x:=.b true) (lb (by simp only [hb2,hb3,hb4,hb5];rfl)) fl))
   have hp9:¬(s.into>(us.length:Int)):=Zd dq hb5
   refine irK 3 (.n 62 (nInt us) (.n 64 (.i s.into) (.k (.d .r)))) [0] [b2] (ia ((s.into-1)) ((s.into)-(1)) (is_ (Z0 (es:=Z8 us) (hv:=none) (j:=(s.into-1)) (sz:=1) (y:=.i (gI us (s.into-1))) kr om (Z9 (Z024 om)) rfl) (irk 4 (.n 70 (.b ((gI us (s.into-1))==0)) .r) (ie ?_))))
   exact wk [0,0,0] (fq (fc (x:=.b ((gI us (s.into-1))==0)) (lb (by simp only [hb2,hb3,hb4,hb5];rfl)) fl))
  have hp10:¬(s.into≠0):=Zd bne_iff_ne hb2
  refine irk 25 (.n 70 (.b false) (.d (.w .z))) (ie ?_)
  exact wk [0,0,0] (fq (fc (x:=.b false) (lb (by simp only [hb2];rfl)) fl))
 refine ac ((s.into != 0)&&((s.op != 6)||((decide (s.into<1))||((decide (s.into>(us.length:Int)))||((gI us (s.into-1))==0))))) (p:=(s.into≠0)∧((s.op≠6)∨((s.into<1)∨((s.into>(us.length:Int))∨((gI us (s.into-1))=0))))) (Zj bne_iff_ne (Zg bne_iff_ne (Zg dq (Zg dq beq_iff_eq)))) (fun hc3=>?_) (fun hc3=>?_)
 ·refine ar (ir 2 [(6,.i (-1)),(7,.b false)] (ie ?_))
  have hS:Z7 n us s=-1:=Zlq (Zcs.1 hc3)
  exact at_ (r2 [] [.i (-1),.b false] ⟨(-1),rfl,rfl,(by intro _ h;rw [hS] at h;omega)⟩ (AVLe.tup (.cons (lr _) (.cons (lb (by rw [hS];rfl)) .nil))))
 refine ak (aq (ab 2 (ar (iR 2 [(1,nInt us),(3,.p b1 0),(5,.p b2 0),(8,oInt ts v),(73,.i s.op)] [0] [b2] (ic [] (Z32 s.op) ?_)))))
 rintro _ _ ⟨rfl,rfl⟩
 refine irk 1 (.n 71 (.b (Z0q s.op)) .r) (ie (ac (Z0q s.op) Iff.rfl (fun hc4=>?_) (fun hc4=>?_)))
 ·refine ar (irk 1 (.n 75 (oInt ts v) .r) (iw (Z4 ts) (Z1n 9 [(3,.p b1 0),(5,.p b2 0),(8,oInt ts v),(83,.b (((ts.length:Int)==1)&&((gI ts 0) != 0)))] [.obj b2 (Z02 s),.obj b1 [Z2 n.decls,sq1 n],.tail v 1] ?_ (fun hj1=>?_))))
  ·refine Z1n 14 [(3,.p b1 0),(5,.p b2 0),(8,oInt ts v),(88,.b ((((ts.length:Int)==1)&&((gI ts 0) != 0))&&(s.num==0)))] [.obj b2 (Z02 s),.obj b1 [Z2 n.decls,sq1 n],.tail v 1] ?_ (fun hj2=>?_)
   ·refine Z1n 20 [(3,.p b1 0),(5,.p b2 0),(8,oInt ts v),(94,.b (((((ts.length:Int)==1)&&((gI ts 0) != 0))&&(s.num==0))&&((s.kids.length:Int)==0)))] [.obj b2 (Z02 s),.obj b1 [Z2 n.decls,sq1 n],.tail v 1] ?_ (fun hj3=>?_)
    ·refine ir 1 [(3,.p b1 0),(5,.p b2 0),(8,oInt ts v),(11,.b (((((ts.length:Int)==1)&&((gI ts 0) != 0))&&(s.num==0))&&((s.kids.length:Int)==0)))] (ie (aq (ar (Z24 [(3,.p b1 0),(8,oInt ts v),(11,.b (((((ts.length:Int)==1)&&((gI ts 0) != 0))&&(s.num==0))&&((s.kids.length:Int)==0))),(105,.b ((((((ts.length:Int)==1)&&((gI ts 0) != 0))&&(s.num==0))&&((s.kids.length:Int)==0))&&((s.op==16)||(s.op==17))))] [.obj b2 (Z02 s),.obj b1 [Z2 n.decls,sq1 n],.tail v 1] ?_ ?_))))
     ·refine ir 2 [(3,.p b1 0),(5,.p b2 0),(8,oInt ts v),(11,.b (((((ts.length:Int)==1)&&((gI ts 0) != 0))&&(s.num==0))&&((s.kids.length:Int)==0))),(96,.b (((((ts.length:Int)==1)&&((gI ts 0) != 0))&&(s.num==0))&&((s.kids.length:Int)==0)))] (ib (b:=(((((ts.length:Int)==1)&&((gI ts 0) != 0))&&(s.num==0))&&((s.kids.length:Int)==0))) 96 (fun hb6=>?_) (fun hb6=>?_))
      ·have hp11:((((ts.length:Int)=1)∧((gI ts 0)≠0))∧(s.num=0))∧((s.kids.length:Int)=0):=((Zj (Zj (Zj beq_iff_eq bne_iff_ne) beq_iff_eq) beq_iff_eq)).1 hb6
       refine irK 4 (.n 100 (.b (s.op==16)) (.w (.k .z))) [0] [b2] (ib (b:=(s.op==16)) 100 (fun hb7=>?_) (fun hb7=>?_))
       ·have hp12:s.op=16:=(beq_iff_eq).1 hb7
        refine irk 5 (.n 105 (.b true) (.k (.d .r))) (ie ?_)
        exact wk [0,0,0] (fw (fr (fc (x:=.b true) (lb (by simp only [hb6,hb7];rfl)) fl)))
       have hp13:¬(s.op=16):=Zd beq_iff_eq hb7
       refine irK 5 (.n 105 (.b (s.op==17)) (.k (.d .r))) [0] [b2] (ie ?_)
       exact wk [0,0,0] (fw (fr (fc (x:=.b (s.op==17)) (lb (by simp only [hb6,hb7];rfl)) fl)))
      have hp14:¬(((((ts.length:Int)=1)∧((gI ts 0)≠0))∧(s.num=0))∧((s.kids.length:Int)=0)):=Zd (Zj (Zj (Zj beq_iff_eq bne_iff_ne) beq_iff_eq) beq_iff_eq) hb6
      refine irk 9 (.n 105 (.b false) (.d (.k (.d (.k (.k .z)))))) (ie ?_)
      exact wk [0,0,0] (fw (fr (fc (x:=.b false) (lb (by simp only [hb6];rfl)) fl)))
     refine ac ((((((ts.length:Int)==1)&&((gI ts 0) != 0))&&(s.num==0))&&((s.kids.length:Int)==0))&&((s.op==16)||(s.op==17))) (p:=(((((ts.length:Int)=1)∧((gI ts 0)≠0))∧(s.num=0))∧((s.kids.length:Int)=0))∧((s.op=16)∨(s.op=17))) (Zj (Zj (Zj (Zj beq_iff_eq bne_iff_ne) beq_iff_eq) beq_iff_eq) (Zg beq_iff_eq beq_iff_eq)) (fun hc5=>?_) (fun hc5=>?_)
     ·refine aD 12 (dT (fuel:=9) 12 [0,1,2] [(108,Z2 n.decls),(109,oInt ts v)] [1] [b1] (dx 3 (Z0 (es:=Z8 ts) (hv:=some v) (j:=0) (sz:=1) (y:=.i (gI ts 0)) kr om (Z9 (Zkq om)) rfl) (dtk (fuel:=7) 8 [4] (.n 111 (.i (gI ts 0)) .r) (dK (fun F h=>F=[(13,.b (Z00 n.decls (gI ts 0)))]∧h=[.obj b2 (Z02 s),.obj b1 [Z2 n.decls,sq1 n],.tail v 1]) ?_ ?_))))
      ·refine Zvi 5 9 ?_ ?_
       ·refine dc 5 [] [] [] (Z5k n.decls (gI ts 0)) ?_
        rintro _ _ ⟨rfl,rfl⟩
        refine dt (fuel:=3) 6 [6,7,8] [(113,Z2s (Z27 n.decls (gI ts 0))),(114,.b (Z00 n.decls (gI ts 0)))] (do_ 9 (dA 9 [] [] [.i 0,.i 0,nl] ?_))
        intro b3
        refine do_ 10 (dS 10 0 [] [] b3 0 (Z2g (Z27 n.decls (gI ts 0))) [.i 0,.i 0,nl] (Z2g (Z27 n.decls (gI ts 0))) (dt (fuel:=0) 1 [11] [(13,.b (Z00 n.decls (gI ts 0)))] (de ?_)))
        exact ⟨[(13,.b (Z00 n.decls (gI ts 0)))],[.obj b2 (Z02 s),.obj b1 [Z2 n.decls,sq1 n],.tail v 1],⟨rfl,rfl⟩,(wk [1,1,1] fl)⟩
       refine dA 9 [1] [b1] [.i 0,.i 0,nl] ?_
       intro b4
       refine do_ 5 (dc 5 [] [] [] (Z5k n.decls (gI ts 0)) ?_)
       rintro _ _ ⟨rfl,rfl⟩
       refine dt (fuel:=2) 5 [6,7,8] [(12,.p b4 0),(113,Z2s (Z27 n.decls (gI ts 0))),(114,.b (Z00 n.decls (gI ts 0)))] (do_ 10 (dS 10 0 [] [] b4 0 (Z2g (Z27 n.decls (gI ts 0))) [.i 0,.i 0,nl] (Z2g (Z27 n.decls (gI ts 0))) (dt (fuel:=0) 1 [11] [(13,.b (Z00 n.decls (gI ts 0)))] (de ?_))))
       exact ⟨[(13,.b (Z00 n.decls (gI ts 0)))],[.obj b2 (Z02 s),.obj b1 [Z2 n.decls,sq1 n],.tail v 1],⟨rfl,rfl⟩,(wk [1,1,1] fl)⟩
      rintro F h ⟨rfl,rfl⟩
      refine az (ir 3 [(11,.b (!Z00 n.decls (gI ts 0)))] (ie (ar (ir 3 [(6,.i (-1)),(7,.b (!Z00 n.decls (gI ts 0)))] (ie ?_)))))
      have hS0:=Z6j (n:=n) hnn (Z54 c0_2 om) (fun q=>hc3 (Zcs.2 q))
      exact at_ (r2 [] [.i (-1),.b (!Z00 n.decls (gI ts 0))] ⟨(-1),rfl,rfl,(fun q=>absurd hc4 q)⟩ (AVLe.tup (.cons (lr _) (.cons (lb (Zyo hS0 hc4 hc5)) .nil))))
     refine ak (ar (ir 3 [(6,.i (-1)),(7,.b (((((ts.length:Int)==1)&&((gI ts 0) != 0))&&(s.num==0))&&((s.kids.length:Int)==0)))] (ie ?_)))
     have hS0:=Z6j (n:=n) hnn (Z54 c0_2 om) (fun q=>hc3 (Zcs.2 q))
     exact at_ (r2 [] [.i (-1),.b (((((ts.length:Int)==1)&&((gI ts 0) != 0))&&(s.num==0))&&((s.kids.length:Int)==0))] ⟨(-1),rfl,rfl,(fun q=>absurd hc4 q)⟩ (AVLe.tup (.cons (lr _) (.cons (lb (Zyp hS0 hc4 hc5)) .nil))))
    refine ir 1 [(3,.p b1 0),(5,.p b2 0),(8,oInt ts v),(89,.b ((((ts.length:Int)==1)&&((gI ts 0) != 0))&&(s.num==0)))] (ib (b:=((((ts.length:Int)==1)&&((gI ts 0) != 0))&&(s.num==0))) 89 (fun hb8=>?_) (fun hb8=>?_))
    ·have hp15:(((ts.length:Int)=1)∧((gI ts 0)≠0))∧(s.num=0):=((Zj (Zj beq_iff_eq bne_iff_ne) beq_iff_eq)).1 hb8
     refine irK 2 (.n 91 (Zv s.kids) (.w .z)) [0] [b2] (iw (Z0f s.kids) (irk 2 (.n 94 (.b ((s.kids.length:Int)==0)) .r) ?_))
     exact Zy (wk [0,0,0] (fw (fr (fc (x:=.b ((s.kids.length:Int)==0)) (lb (by simp only [hb8];rfl)) fl)))) hj3
    have hp16:¬((((ts.length:Int)=1)∧((gI ts 0)≠0))∧(s.num=0)):=Zd (Zj (Zj beq_iff_eq bne_iff_ne) beq_iff_eq) hb8
    refine irk 5 (.n 94 (.b false) (.d (.k (.k (.k .z))))) ?_
    exact Zy (wk [0,0,0] (fw (fr (fc (x:=.b false) (lb (by simp only [hb8];rfl)) fl)))) hj3
   refine ir 1 [(3,.p b1 0),(5,.p b2 0),(8,oInt ts v),(84,.b (((ts.length:Int)==1)&&((gI ts 0) != 0)))] (ib (b:=(((ts.length:Int)==1)&&((gI ts 0) != 0))) 84 (fun hb9=>?_) (fun hb9=>?_))
   ·have hp17:((ts.length:Int)=1)∧((gI ts 0)≠0):=((Zj beq_iff_eq bne_iff_ne)).1 hb9
    refine irK 4 (.n 88 (.b (s.num==0)) (.d (.k (.k (.k .z))))) [0] [b2] ?_
    exact Zy (wk [0,0,0] (fw (fr (fc (x:=.b (s.num==0)) (lb (by simp only [hb9];rfl)) fl)))) hj2
   have hp18:¬(((ts.length:Int)=1)∧((gI ts 0)≠0)):=Zd (Zj beq_iff_eq bne_iff_ne) hb9
   refine irk 4 (.n 88 (.b false) (.d (.k (.k (.k .z))))) ?_
   exact Zy (wk [0,0,0] (fw (fr (fc (x:=.b false) (lb (by simp only [hb9];rfl)) fl)))) hj2
  refine ir 2 [(3,.p b1 0),(5,.p b2 0),(8,oInt ts v),(78,.b ((ts.length:Int)==1))] (ib (b:=((ts.length:Int)==1)) 78 (fun hb10=>?_) (fun hb10=>?_))
  ·have hp19:(ts.length:Int)=1:=(beq_iff_eq).1 hb10
   refine irk 1 (.n 79 (oInt ts v) (.w .z)) (is_ (Z0 (es:=Z8 ts) (hv:=some v) (j:=0) (sz:=1) (y:=.i (gI ts 0)) kr om (Z9 (Zkq om)) rfl) (irk 3 (.n 83 (.b ((gI ts 0) != 0)) .r) ?_))
   exact Zy (wk [0,0,0] (fw (fr (fc (x:=.b ((gI ts 0) != 0)) (lb (by simp only [hb10];rfl)) fl)))) hj1
  have hp20:¬((ts.length:Int)=1):=Zd beq_iff_eq hb10
  refine irk 5 (.n 83 (.b false) (.d (.k (.k (.k .z))))) ?_
  exact Zy (wk [0,0,0] (fw (fr (fc (x:=.b false) (lb (by simp only [hb10];rfl)) fl)))) hj1
 refine ar (irK 4 (.n 118 (.b (s.op==7)) .r) [0] [b2] (ie (ac (s.op==7) beq_iff_eq (fun hc6=>?_) (fun hc6=>?_))))
 ·refine aq (ar (irk 1 (.n 122 (oInt ts v) .r) (iw (Z4 ts) (Z1n 9 [(1,nInt us),(3,.p b1 0),(5,.p b2 0),(130,.b (((ts.length:Int) != 1)||((gI ts 0) != 0)))] [.obj b2 (Z02 s),.obj b1 [Z2 n.decls,sq1 n],.tail v 1] ?_ (fun hj4=>?_)))))
  ·refine Z1n 14 [(1,nInt us),(3,.p b1 0),(5,.p b2 0),(135,.b ((((ts.length:Int) != 1)||((gI ts 0) != 0))||(s.num != 0)))] [.obj b2 (Z02 s),.obj b1 [Z2 n.decls,sq1 n],.tail v 1] ?_ (fun hj5=>?_)
   ·refine Z24 [(1,nInt us),(3,.p b1 0),(5,.p b2 0),(141,.b (((((ts.length:Int) != 1)||((gI ts 0) != 0))||(s.num != 0))||((s.kids.length:Int) != 2)))] [.obj b2 (Z02 s),.obj b1 [Z2 n.decls,sq1 n],.tail v 1] ?_ ?_
    ·refine ir 1 [(1,nInt us),(3,.p b1 0),(5,.p b2 0),(136,.b ((((ts.length:Int) != 1)||((gI ts 0) != 0))||(s.num != 0)))] (ib (b:=((((ts.length:Int) != 1)||((gI ts 0) != 0))||(s.num != 0))) 136 (fun hb11=>?_) (fun hb11=>?_))
     ·have hp21:(((ts.length:Int)≠1)∨((gI ts 0)≠0))∨(s.num≠0):=((Zg (Zg bne_iff_ne bne_iff_ne) bne_iff_ne)).1 hb11
      refine irk 5 (.n 141 (.b true) (.d (.k (.k (.k .z))))) (ie ?_)
      exact wk [0,0,0] (fw (fr (fc (x:=.b true) (lb (by simp only [hb11];rfl)) fl)))
     have hp22:¬((((ts.length:Int)≠1)∨((gI ts 0)≠0))∨(s.num≠0)):=Zd (Zg (Zg bne_iff_ne bne_iff_ne) bne_iff_ne) hb11
     refine irK 2 (.n 138 (Zv s.kids) (.w .z)) [0] [b2] (iw (Z0f s.kids) (irk 2 (.n 141 (.b ((s.kids.length:Int) != 2)) .r) (ie ?_)))
     exact wk [0,0,0] (fw (fr (fc (x:=.b ((s.kids.length:Int) != 2)) (lb (by simp only [hb11];rfl)) fl)))
    refine ac (((((ts.length:Int) != 1)||((gI ts 0) != 0))||(s.num != 0))||((s.kids.length:Int) != 2)) (p:=((((ts.length:Int)≠1)∨((gI ts 0)≠0))∨(s.num≠0))∨((s.kids.length:Int)≠2)) (Zg (Zg (Zg bne_iff_ne bne_iff_ne) bne_iff_ne) bne_iff_ne) (fun hc7=>?_) (fun hc7=>?_)
    ·refine ar (ir 2 [(6,.i (-1)),(7,.b false)] (ie ?_))
     have hS0:=Z6j (n:=n) hnn (Z54 c0_2 om) (fun q=>hc3 (Zcs.2 q))
     have hS:=Z04o hS0 hc4 hc6 hc7
     exact at_ (r2 [] [.i (-1),.b false] ⟨(-1),rfl,rfl,(by intro _ h;rw [hS] at h;omega)⟩ (AVLe.tup (.cons (lr _) (.cons (lb (by rw [hS];rfl)) .nil))))
    refine ak (aD 10 (dT (fuel:=6) 10 [0,1,2,3] [(142,.agg [Z2 n.decls,sq1 n]),(143,nInt us),(145,Zv s.kids)] [1,0] [b1,b2] (do_ 4 (dMN 4 [0,1] [b2,b1] 2 2 ?_))))
    intro v4
    refine dtk (fuel:=5) 5 [] (.n 146 (Z2y (List.replicate 2 [])) (.p .r)) (do_ 5 (dc 5 [] [] [] (Z4j n us s.kids (List.replicate 2 []) (hnn:=hnn) (hm3:=(by intro m hm;first|(rw [List.eq_of_mem_replicate hm];simp;done)|(obtain ⟨c,_,rfl⟩:=List.mem_map.1 hm;exact Z13 hdk c))) (hmn:=(by intro m hm f hf;first|(rw [List.eq_of_mem_replicate hm] at hf;simp at hf;done)|(obtain ⟨c,_,rfl⟩:=List.mem_map.1 hm;exact hty.fields c f hf))) (ih:=(fun b us2 h1 h2 h3 h4=>ih b us2 om h2 h3 h4))) ?_))
    rintro _ _ ⟨rfl,rfl⟩
    refine dt (fuel:=0) 4 [6,7,8,9] [(6,.i (Z1k n us s.kids (List.replicate 2 []) true 0)),(7,.b (decide (0≤Z1k n us s.kids (List.replicate 2 []) true 0)))] (de ?_)
    have hS0:=Z6j (n:=n) hnn (Z54 c0_2 om) (fun q=>hc3 (Zcs.2 q))
    have hS:=Z06g hS0 hc4 hc6 hc7
    exact at_ (r2 [] [.i (Z1k n us s.kids (List.replicate 2 []) true 0),.b (decide (0≤Z1k n us s.kids (List.replicate 2 []) true 0))] ⟨Z1k n us s.kids (List.replicate 2 []) true 0,rfl,rfl,(fun _ _=>hS.symm)⟩ (AVLe.tup (.cons (lr _) (.cons (lb (by rw [hS])) .nil))))
   refine ir 1 [(1,nInt us),(3,.p b1 0),(5,.p b2 0),(131,.b (((ts.length:Int) != 1)||((gI ts 0) != 0)))] (ib (b:=(((ts.length:Int) != 1)||((gI ts 0) != 0))) 131 (fun hb12=>?_) (fun hb12=>?_))
   ·have hp23:((ts.length:Int)≠1)∨((gI ts 0)≠0):=((Zg bne_iff_ne bne_iff_ne)).1 hb12
    refine irk 4 (.n 135 (.b true) (.d (.k (.k (.k .z))))) ?_
    exact Zy (wk [0,0,0] (fw (fr (fc (x:=.b true) (lb (by simp only [hb12];rfl)) fl)))) hj5
   have hp24:¬(((ts.length:Int)≠1)∨((gI ts 0)≠0)):=Zd (Zg bne_iff_ne bne_iff_ne) hb12
   refine irK 4 (.n 135 (.b (s.num != 0)) (.d (.k (.k (.k .z))))) [0] [b2] ?_
   exact Zy (wk [0,0,0] (fw (fr (fc (x:=.b (s.num != 0)) (lb (by simp only [hb12];rfl)) fl)))) hj5
  refine ir 2 [(1,nInt us),(3,.p b1 0),(5,.p b2 0),(8,oInt ts v),(125,.b ((ts.length:Int) != 1))] (ib (b:=((ts.length:Int) != 1)) 125 (fun hb13=>?_) (fun hb13=>?_))
  ·have hp25:(ts.length:Int)≠1:=(bne_iff_ne).1 hb13
   refine irk 5 (.n 130 (.b true) (.d (.k (.k (.k .z))))) ?_
   exact Zy (wk [0,0,0] (fw (fr (fc (x:=.b true) (lb (by simp only [hb13];rfl)) fl)))) hj4
  have hp26:¬((ts.length:Int)≠1):=Zd bne_iff_ne hb13
  refine irk 1 (.n 126 (oInt ts v) (.w .z)) (is_ (Z0 (es:=Z8 ts) (hv:=some v) (j:=0) (sz:=1) (y:=.i (gI ts 0)) kr om (Z9 (Zkq om)) rfl) (irk 3 (.n 130 (.b ((gI ts 0) != 0)) .r) ?_))
  exact Zy (wk [0,0,0] (fw (fr (fc (x:=.b ((gI ts 0) != 0)) (lb (by simp only [hb13];rfl)) fl)))) hj4
 refine ar (irK 4 (.n 150 (.b (s.op==8)) .r) [0] [b2] (ie (ac (s.op==8) beq_iff_eq (fun hc8=>?_) (fun hc8=>?_))))
 ·refine ar (irK 3 (.n 154 (.agg [Z2 n.decls,sq1 n]) (.n 156 (.i s.num) .r)) [1,0] [b1,b2] (ic [] (Z2b _ s.num) ?_))
  rintro _ _ ⟨rfl,rfl⟩
  refine irk 1 (.n 14 (Z2y ((Zb n.decls s.num).map (Z1 n.decls))) .r) (ie (aq (aD 24 (dtk (fuel:=23) 24 [0] (.n 158 (oInt ts v) .r) (dw 1 (Z4 ts) (Zca [(1,nInt us),(3,.p b1 0),(5,.p b2 0),(14,Z2y ((Zb n.decls s.num).map (Z1 n.decls))),(181,.b (((ts.length:Int) != 1)||(((gI ts 0) != s.num)||((((((Zb n.decls s.num).map (Z1 n.decls)).length:Nat):Int)==0)||((s.kids.length:Int) != ((((Zb n.decls s.num).map (Z1 n.decls)).length:Nat):Int))))))] [.obj b2 (Z02 s),.obj b1 [Z2 n.decls,sq1 n],.tail v 1] ?_ ?_))))))
  ·refine dt (fuel:=20) 22 [2,3] [(1,nInt us),(3,.p b1 0),(5,.p b2 0),(8,oInt ts v),(14,Z2y ((Zb n.decls s.num).map (Z1 n.decls))),(161,.b ((ts.length:Int) != 1))] (db (b:=((ts.length:Int) != 1)) 161 (fun hb14=>?_) (fun hb14=>?_))
   ·have hp27:(ts.length:Int)≠1:=(bne_iff_ne).1 hb14
    refine dtk (fuel:=0) 20 [4,5,6,7,8,9,10,11,12,13,14,15,16,17,18,19,20,21,22,23] (.n 181 (.b true) (.d (.k (.k (.k (.d (.k .z))))))) (de ?_)
    exact wk [0,0,0] (fq (fc (x:=.b true) (lb (by simp only [hb14];rfl)) fl))
   have hp28:¬((ts.length:Int)≠1):=Zd bne_iff_ne hb14
   refine dtk (fuel:=19) 20 [4] (.n 162 (oInt ts v) (.w (.d (.k .z)))) (dx 5 (Z0 (es:=Z8 ts) (hv:=some v) (j:=0) (sz:=1) (y:=.i (gI ts 0)) kr om (Z9 (Zkq om)) rfl) (dtK (fuel:=12) 18 [6,7,8,9,10,11] (.n 169 (.b ((gI ts 0) != s.num)) .r) [0] [b2] (db (b:=((gI ts 0) != s.num)) 169 (fun hb15=>?_) (fun hb15=>?_))))
   ·have hp29:(gI ts 0)≠s.num:=(bne_iff_ne).1 hb15
    refine dtk (fuel:=0) 12 [12,13,14,15,16,17,18,19,20,21,22,23] (.n 181 (.b true) (.k (.d .r))) (de ?_)
    exact wk [0,0,0] (fq (fc (x:=.b true) (lb (by simp only [hb14,hb15];rfl)) fl))
   have hp30:¬((gI ts 0)≠s.num):=Zd bne_iff_ne hb15
   refine dtk (fuel:=11) 12 [12] (.n 170 (Z2y ((Zb n.decls s.num).map (Z1 n.decls))) (.k (.d .r))) (dn 13 (.i ((((Zb n.decls s.num).map (Z1 n.decls)).length:Nat):Int)) (.i (((Z3a ((Zb n.decls s.num).map (Z1 n.decls))).length:Nat):Int)) (li (by rw [Z6z])) (dtk (fuel:=7) 10 [14,15,16] (.n 174 (.b (((((Zb n.decls s.num).map (Z1 n.decls)).length:Nat):Int)==0)) .r) (db (b:=(((((Zb n.decls s.num).map (Z1 n.decls)).length:Nat):Int)==0)) 174 (fun hb16=>?_) (fun hb16=>?_))))
   ·have hp31:((((Zb n.decls s.num).map (Z1 n.decls)).length:Nat):Int)=0:=(beq_iff_eq).1 hb16
    refine dtk (fuel:=0) 7 [17,18,19,20,21,22,23] (.n 181 (.b true) (.k (.d .r))) (de ?_)
    exact wk [0,0,0] (fq (fc (x:=.b true) (lb (by simp only [hb14,hb15,hb16];rfl)) fl))
   have hp32:¬(((((Zb n.decls s.num).map (Z1 n.decls)).length:Nat):Int)=0):=Zd beq_iff_eq hb16
   refine dtK (fuel:=5) 7 [17,18] (.n 176 (Zv s.kids) (.k (.d .r))) [0] [b2] (dw 19 (Z0f s.kids) (dtk (fuel:=3) 4 [20] (.n 178 (Z2y ((Zb n.decls s.num).map (Z1 n.decls))) .r) (dn 21 (.i ((((Zb n.decls s.num).map (Z1 n.decls)).length:Nat):Int)) (.i (((Z3a ((Zb n.decls s.num).map (Z1 n.decls))).length:Nat):Int)) (li (by rw [Z6z])) (dtk (fuel:=0) 2 [22,23] (.n 181 (.b ((s.kids.length:Int) != ((((Zb n.decls s.num).map (Z1 n.decls)).length:Nat):Int))) .r) (de ?_)))))
   exact wk [0,0,0] (fq (fc (x:=.b ((s.kids.length:Int) != ((((Zb n.decls s.num).map (Z1 n.decls)).length:Nat):Int))) (lb (by simp only [hb14,hb15,hb16];rfl)) fl))
  refine ac (((ts.length:Int) != 1)||(((gI ts 0) != s.num)||((((((Zb n.decls s.num).map (Z1 n.decls)).length:Nat):Int)==0)||((s.kids.length:Int) != ((((Zb n.decls s.num).map (Z1 n.decls)).length:Nat):Int))))) (p:=((ts.length:Int)≠1)∨(((gI ts 0)≠s.num)∨((((((Zb n.decls s.num).map (Z1 n.decls)).length:Nat):Int)=0)∨((s.kids.length:Int)≠((((Zb n.decls s.num).map (Z1 n.decls)).length:Nat):Int))))) (Zg bne_iff_ne (Zg bne_iff_ne (Zg beq_iff_eq bne_iff_ne))) (fun hc9=>?_) (fun hc9=>?_)
  ·refine ar (ir 2 [(6,.i (-1)),(7,.b false)] (ie ?_))
   have hS0:=Z6j (n:=n) hnn (Z54 c0_2 om) (fun q=>hc3 (Zcs.2 q))
   have hS:=Z04p hS0 hc4 hc6 hc8 hc9
   exact at_ (r2 [] [.i (-1),.b false] ⟨(-1),rfl,rfl,(by intro _ h;rw [hS] at h;omega)⟩ (AVLe.tup (.cons (lr _) (.cons (lb (by rw [hS];rfl)) .nil))))
  refine ak (ar (iR 5 [(182,.agg [Z2 n.decls,sq1 n]),(183,nInt us),(185,Zv s.kids),(186,Z2y ((Zb n.decls s.num).map (Z1 n.decls)))] [1,0] [b1,b2] (ic [] (Z4j n us s.kids ((Zb n.decls s.num).map (Z1 n.decls)) (hnn:=hnn) (hm3:=(by intro m hm;first|(rw [List.eq_of_mem_replicate hm];simp;done)|(obtain ⟨c,_,rfl⟩:=List.mem_map.1 hm;exact Z13 hdk c))) (hmn:=(by intro m hm f hf;first|(rw [List.eq_of_mem_replicate hm] at hf;simp at hf;done)|(obtain ⟨c,_,rfl⟩:=List.mem_map.1 hm;exact hty.fields c f hf))) (ih:=(fun b us2 h1 h2 h3 h4=>ih b us2 om h2 h3 h4))) ?_)))
  rintro _ _ ⟨rfl,rfl⟩
  refine ir 4 [(6,.i (Z1k n us s.kids ((Zb n.decls s.num).map (Z1 n.decls)) true 0)),(7,.b (decide (0≤Z1k n us s.kids ((Zb n.decls s.num).map (Z1 n.decls)) true 0)))] (ie ?_)
  have hS0:=Z6j (n:=n) hnn (Z54 c0_2 om) (fun q=>hc3 (Zcs.2 q))
  have hS:=Z06h hS0 hc4 hc6 hc8 hc9
  exact at_ (r2 [] [.i (Z1k n us s.kids ((Zb n.decls s.num).map (Z1 n.decls)) true 0),.b (decide (0≤Z1k n us s.kids ((Zb n.decls s.num).map (Z1 n.decls)) true 0))] ⟨Z1k n us s.kids ((Zb n.decls s.num).map (Z1 n.decls)) true 0,rfl,rfl,(fun _ _=>hS.symm)⟩ (AVLe.tup (.cons (lr _) (.cons (lb (by rw [hS])) .nil))))
 refine ar (irK 2 (.n 192 (Zv s.kids) .r) [0] [b2] (iw (Z0f s.kids) (Z1n 33 [(3,.p b1 0),(5,.p b2 0),(8,oInt ts v),(223,.b ((decide ((s.kids.length:Int)>0))||((s.op==10)&&((decide (s.num≥0))&&((decide (s.num<(((n.routines.map Z17).length:Nat):Int)))&&(decide (((((sgI n s.num).lnt).length:Nat):Int)>0)))))))] [.obj b2 (Z02 s),.obj b1 [Z2 n.decls,sq1 n],.tail v 1] ?_ (fun hj6=>?_))))
 ·refine ir 1 [(3,.p b1 0),(5,.p b2 0),(8,oInt ts v),(190,.b ((decide ((s.kids.length:Int)>0))||((s.op==10)&&((decide (s.num≥0))&&((decide (s.num<(((n.routines.map Z17).length:Nat):Int)))&&(decide (((((sgI n s.num).lnt).length:Nat):Int)>0)))))))] (ie (ac ((decide ((s.kids.length:Int)>0))||((s.op==10)&&((decide (s.num≥0))&&((decide (s.num<(((n.routines.map Z17).length:Nat):Int)))&&(decide (((((sgI n s.num).lnt).length:Nat):Int)>0)))))) (p:=((s.kids.length:Int)>0)∨((s.op=10)∧((s.num≥0)∧((s.num<(((n.routines.map Z17).length:Nat):Int))∧(((((sgI n s.num).lnt).length:Nat):Int)>0))))) (Zg dq (Zj beq_iff_eq (Zj dq (Zj dq dq)))) (fun hc10=>?_) (fun hc10=>?_)))
  ·refine ar (ir 2 [(6,.i (-1)),(7,.b false)] (ie ?_))
   have hS0:=Z6j (n:=n) hnn (Z54 c0_2 om) (fun q=>hc3 (Zcs.2 q))
   have hS:=stB hS0 hc4 hc6 hc8 hc10
   exact at_ (r2 [] [.i (-1),.b false] ⟨(-1),rfl,rfl,(by intro _ h;rw [hS] at h;omega)⟩ (AVLe.tup (.cons (lr _) (.cons (lb (by rw [hS];rfl)) .nil))))
  refine ak (ar (iR 6 [(224,.agg [Z2 n.decls,sq1 n]),(226,.i s.op),(228,.i s.num),(229,nInt ts)] [1,0,0] [b1,b2,b2] (ic [] (Z6o _ s.op s.num ts) ?_)))
  rintro _ _ ⟨t1,rfl,rfl,hp33⟩
  refine ir 4 [(6,.i t1),(7,.b ((Z0t n s.op s.num ts).isSome))] (ie ?_)
  have hS0:=Z6j (n:=n) hnn (Z54 c0_2 om) (fun q=>hc3 (Zcs.2 q))
  have hS:=stS hS0 hc4 hc6 hc8 hc10
  exact at_ (r2 [] [.i t1,.b ((Z0t n s.op s.num ts).isSome)] ⟨t1,rfl,rfl,(Z079 hS hp33)⟩ (AVLe.tup (.cons (lr _) (.cons (lb (Z078 hty hS)) .nil))))
 refine ir 2 [(3,.p b1 0),(5,.p b2 0),(8,oInt ts v),(195,.b (decide ((s.kids.length:Int)>0)))] (ib (b:=(decide ((s.kids.length:Int)>0))) 195 (fun hb17=>?_) (fun hb17=>?_))
 ·have hp34:(s.kids.length:Int)>0:=(dq).1 hb17
  refine irk 28 (.n 223 (.b true) (.d (.k (.k (.k .z))))) ?_
  exact Zy (wk [0,0,0] (fw (fr (fc (x:=.b true) (lb (by simp only [hb17];rfl)) fl)))) hj6
 have hp35:¬((s.kids.length:Int)>0):=Zd dq hb17
 refine irK 4 (.n 199 (.b (s.op==10)) (.w .z)) [0] [b2] (ib (b:=(s.op==10)) 199 (fun hb18=>?_) (fun hb18=>?_))
 ·have hp36:s.op=10:=(beq_iff_eq).1 hb18
  refine irK 5 (.n 204 (.b (decide (s.num≥0))) (.d (.d .r))) [0] [b2] (ib (b:=(decide (s.num≥0))) 204 (fun hb19=>?_) (fun hb19=>?_))
  ·have hp37:s.num≥0:=(dq).1 hb19
   refine irK 4 (.n 206 (.i s.num) (.n 208 (sq1 n) (.k (.d .r)))) [0,1] [b2,b1] (io (.i (((n.routines.map Z17).length:Nat):Int)) (.i (((Z6l (n.routines.map Z17)).length:Nat):Int)) (li (by rw [Z6f])) (irk 3 (.n 212 (.b (decide (s.num<(((n.routines.map Z17).length:Nat):Int)))) .r) (ib (b:=(decide (s.num<(((n.routines.map Z17).length:Nat):Int)))) 212 (fun hb20=>?_) (fun hb20=>?_))))
   ·have hp38:s.num<(((n.routines.map Z17).length:Nat):Int):=(dq).1 hb20
    refine irK 4 (.n 214 (sq1 n) (.n 216 (.i s.num) (.k (.d .r)))) [1,0] [b1,b2] (is_ (Z0 (es:=Z6l (n.routines.map Z17)) (hv:=none) (j:=s.num) (sz:=3) (y:=aSg3 (sgI n s.num)) kr om (Z7i (Zye om)) rfl) (irk 2 (.n 219 (nInt ((sgI n s.num).lnt)) .r) (io (.i ((((sgI n s.num).lnt).length:Nat):Int)) (.i (((Z8 ((sgI n s.num).lnt)).length:Nat):Int)) (li (by rw [Z4])) (irk 3 (.n 223 (.b (decide (((((sgI n s.num).lnt).length:Nat):Int)>0))) .r) ?_))))
    exact Zy (wk [0,0,0] (fw (fr (fc (x:=.b (decide (((((sgI n s.num).lnt).length:Nat):Int)>0))) (lb (by simp only [hb17,hb18,hb19,hb20];rfl)) fl)))) hj6
   have hp39:¬(s.num<(((n.routines.map Z17).length:Nat):Int)):=Zd dq hb20
   refine irk 11 (.n 223 (.b false) (.k (.d .r))) ?_
   exact Zy (wk [0,0,0] (fw (fr (fc (x:=.b false) (lb (by simp only [hb17,hb18,hb19,hb20];rfl)) fl)))) hj6
  have hp40:¬(s.num≥0):=Zd dq hb19
  refine irk 19 (.n 223 (.b false) (.k (.d .r))) ?_
  exact Zy (wk [0,0,0] (fw (fr (fc (x:=.b false) (lb (by simp only [hb17,hb18,hb19];rfl)) fl)))) hj6
 have hp41:¬(s.op=10):=Zd beq_iff_eq hb18
 refine irk 24 (.n 223 (.b false) (.k (.d .r))) ?_
 exact Zy (wk [0,0,0] (fw (fr (fc (x:=.b false) (lb (by simp only [hb17,hb18];rfl)) fl)))) hj6
theorem Zbm (n:Normal) (us:List Int) (b:Block) (hn:NOk n) (hnn:∀t∈us,0≤t) (hb:us.length+4*b.sz≤1000000000) (hr:b.rng) (ih:∀(s:Step) (us:List Int),(s.sz<b.sz)→(us.length+4*s.sz≤1000000000)→(s.rng)→(∀t∈us,0≤t)→Z3 Tryz.prog 160 [.agg [Z2 n.decls,sq1 n],nInt us,Z0g s] [] (fun r h=>∃(t:Int),r=.tup [.i t,.b (decide (0≤Z7 n us s))]∧h=[]∧(¬Z0q s.op=true→0≤Z7 n us s→t=Z7 n us s))):Z3 Tryz.prog 113 [.agg [Z2 n.decls,sq1 n],nInt us,Za b] [] (fun r h=>r=.i (Zf n us b)∧h=[]):=by
 have hbz:=Z4d b
 have hbe:=Z91 n us b
 rw [b.rng_eq] at hr
 refine enter Tryz.func113 kr (n:=54) kr kr (ar (iA [Z2 n.decls,sq1 n] ?_))
 intro b1
 refine iA (Z03 b) ?_
 intro b2
 refine ir 1 [(1,nInt us),(3,.p b1 0),(5,.p b2 0)] (ie (ar (irk 1 (.n 12 (nInt us) .r) (ic [] (Z8i us) ?_))))
 rintro _ _ ⟨v1,rfl,rfl⟩
 refine irk 1 (.n 7 (oInt us v1) .r) (ie (aq (ar (irK 2 (.n 15 (Z0b b.steps) .r) [1] [b2] (iw (Z0l b.steps) (irk 1 (.n 17 (.i 0) .r) (ie (ab 0 (al (fun m F h=>∃(k:Nat) (vs:List Int) (v:Value),(k≤b.steps.length)∧(vs.length≤us.length+k)∧(∀t∈vs,0≤t)∧(Z10 n (b.steps.drop k) vs=Z10 n b.steps us)∧F=[(3,.p b1 0),(5,.p b2 0),(7,oInt vs v),(15,Z0b b.steps),(16,.i b.steps.length),(17,.i k)]∧h=[.obj b2 (Z03 b),.obj b1 [Z2 n.decls,sq1 n],.tail v 1]∧m=b.steps.length-k) _ _ _ ⟨0,us,v1,ob,ob,ob,ob,rfl,rfl,rfl⟩ (wk [1,1,0] (fq (fr (fc (x:=.i 0) li fl)))) ?_)))))))))
 rintro m F h ⟨k,vs,v,c0_0,c0_1,c0_2,c0_3,rfl,rfl,rfl⟩
 refine ar (irk 1 (.n 18 (.b (decide ((k:Int)<(b.steps.length:Int)))) .r) (ie (aq (ac (decide ((k:Int)<(b.steps.length:Int))) dq (fun hc1=>?_) (fun hc1=>?_)))))
 ·refine ak (aq (ab 1 (ar ?_)))
  obtain ⟨x1,hx1⟩:=Z6 (xs:=b.steps) (j:=k) om
  have hss:=Zdh hx1
  have hsr:=Zln hr hx1
  refine is_ (Z0 (es:=Zo b.steps) (hv:=none) (j:=(k:Int)) (sz:=5) (y:=Z0g x1) kr om (Z0y hx1) rfl) (irk 1 (.n 20 (Z0g x1) .r) (iA [.i 0,.i 0,.i 0,nl,nl] ?_))
  intro b3
  refine iS 0 b3 0 (Z02 x1) [.i 0,.i 0,.i 0,nl,nl] (Z02 x1) (ie (ar (irK 3 (.n 22 (.agg [Z2 n.decls,sq1 n]) (.n 23 (nInt vs) (.n 24 (Z0g x1) .r))) [2,0] [b1,b3] (ic [] (ih x1 vs ob ob ob ob) ?_))))
  rintro _ _ ⟨t1,rfl,rfl,hp1⟩
  refine irk 5 (.n 10 (.i t1) (.n 11 (.b (decide (0≤Z7 n vs x1))) .r)) (ie (aq (ar (irk 2 (.n 29 (.b (!decide (0≤Z7 n vs x1))) .r) (ie (ac (!decide (0≤Z7 n vs x1)) (p:=¬(decide (0≤Z7 n vs x1)=true)) (Zc Iff.rfl) (fun hc2=>?_) (fun hc2=>?_)))))))
  ·refine ar (ir 1 [(6,.i (-1))] (ie ?_))
   exact at_ (r2 [] [.i (-1)] ⟨rfl,rfl⟩ (li (by rw [hbe,←c0_3,Zu1 hx1 (fun q=>hc2 (decide_eq_true q)) rfl])))
  refine ak (ar (irK 2 (.n 31 (.i x1.op) .r) [0] [b3] (ic [] (Z32 x1.op) ?_)))
  rintro _ _ ⟨rfl,rfl⟩
  refine irk 1 (.n 33 (.b (!Z0q x1.op)) .r) (ie (Zlx (fun F h=>∃(w:Value),F=[(3,.p b1 0),(5,.p b2 0),(7,oInt (if Z0q x1.op=true then vs else vs++[t1]) w),(15,Z0b b.steps),(16,.i b.steps.length),(17,.i k)]∧h=[.obj b2 (Z03 b),.obj b1 [Z2 n.decls,sq1 n],.tail w 1]) (fun _ _=>rfl) ?_ ?_))
  ·refine ac (!Z0q x1.op) (p:=¬(Z0q x1.op=true)) (Zc Iff.rfl) (fun hc3=>?_) (fun hc3=>?_)
   ·refine az (ir 2 [(3,.p b1 0),(5,.p b2 0),(15,Z0b b.steps),(16,.i b.steps.length),(17,.i k),(34,oInt vs v),(35,.i t1)] (iL (Z8 [t1]) 1 1 ?_))
    intro v2
    refine irk 0 (.n 36 (nInt [t1]) (.p .r)) (ip 4 (Z8 (vs++[t1])) (Z8 vs) (Z8 [t1]) v none 1 (Z11 _) (Z11 _) (Z3u _) (by simp<;>omega) (by simp [Z29,Z8]) ?_)
    intro v3
    refine irk 1 (.n 7 (oInt (vs++[t1]) v3) .r) (ie ?_)
    exact ⟨[(3,.p b1 0),(5,.p b2 0),(7,oInt (if Z0q x1.op=true then vs else vs++[t1]) v3),(15,Z0b b.steps),(16,.i b.steps.length),(17,.i k)],[.obj b2 (Z03 b),.obj b1 [Z2 n.decls,sq1 n],.tail v3 1],⟨v3,rfl,rfl⟩,(wk [3,3,0] (fw (fc (x:=oInt (vs++[t1]) v3) (AVLe.slh _ (congrArg Z8 (by first|rfl|(rw [if_pos hc3])|(rw [if_neg hc3])|(simp [hc3];done)|(rw [Bool.eq_iff_iff];simp [hc3];done)|omega))) fl)))⟩
   refine ak ?_
   exact ⟨[(3,.p b1 0),(5,.p b2 0),(7,oInt (if Z0q x1.op=true then vs else vs++[t1]) v),(15,Z0b b.steps),(16,.i b.steps.length),(17,.i k)],[.obj b2 (Z03 b),.obj b1 [Z2 n.decls,sq1 n],.tail v 1],⟨v,rfl,rfl⟩,(wk [1,1,1] (fw (fc (x:=oInt vs v) (AVLe.slh _ (congrArg Z8 (by first|rfl|(rw [if_pos hc3])|(rw [if_neg hc3])|(simp [hc3];done)|(rw [Bool.eq_iff_iff];simp [hc3];done)|omega))) fl)))⟩
  rintro F h ⟨w,rfl,rfl⟩
  refine az (ia (((k+1:Nat):Int)) (((k:Int))+(1)) (ir 1 [(3,.p b1 0),(5,.p b2 0),(7,oInt (if Z0q x1.op=true then vs else vs++[t1]) w),(15,Z0b b.steps),(16,.i b.steps.length),(17,.i (k+1:Nat))] (ie ?_)))
  have h0:0≤Z7 n vs x1:=of_decide_eq_true (Classical.not_not.1 hc2)
  exact ⟨_,_,_,ob,⟨k+1,(if Z0q x1.op=true then vs else vs++[t1]),w,ob,(by split<;>(try simp)<;>omega),(Z070 c0_2 (fun q=>by rw [hp1 q h0];exact h0)),(Z01f hx1 h0 hp1 c0_3),rfl,rfl,rfl⟩,(wk [0,0,0] (fq (fr (fc (x:=.i (k+1:Nat)) li fl))))⟩
 refine ax 0 (aq (ar (Z24 [(5,.p b2 0),(7,oInt vs v),(48,.b ((decide (b.result<0))||(decide (b.result≥(vs.length:Int)))))] [.obj b2 (Z03 b),.obj b1 [Z2 n.decls,sq1 n],.tail v 1] ?_ ?_)))
 ·refine iR 4 [(5,.p b2 0),(7,oInt vs v),(42,.b (decide (b.result<0)))] [0] [b2] (ib (b:=(decide (b.result<0))) 42 (fun hb1=>?_) (fun hb1=>?_))
  ·have hp2:b.result<0:=(dq).1 hb1
   refine irk 6 (.n 48 (.b true) (.d (.k (.k .z)))) (ie ?_)
   exact wk [0,0,0] (fw (fc (x:=.b true) (lb (by simp only [hb1];rfl)) fl))
  have hp3:¬(b.result<0):=Zd dq hb1
  refine irK 3 (.n 44 (.i b.result) (.n 45 (oInt vs v) (.k (.k (.k .z))))) [0] [b2] (iw (Z4 vs) (irk 2 (.n 48 (.b (decide (b.result≥(vs.length:Int)))) .r) (ie ?_)))
  exact wk [0,0,0] (fw (fc (x:=.b (decide (b.result≥(vs.length:Int)))) (lb (by simp only [hb1];rfl)) fl))
 refine ac ((decide (b.result<0))||(decide (b.result≥(vs.length:Int)))) (p:=(b.result<0)∨(b.result≥(vs.length:Int))) (Zg dq dq) (fun hc4=>?_) (fun hc4=>?_)
 ·refine ar (ir 1 [(6,.i (-1))] (ie ?_))
  exact at_ (r2 [] [.i (-1)] ⟨rfl,rfl⟩ (li (by rw [hbe,←c0_3,Zt om];show _=(atI vs b.result).getD (-1);rw [Z5t om];rfl)))
 refine ak (ar (iR 3 [(49,oInt vs v),(51,.i b.result)] [0] [b2] ?_))
 obtain ⟨x2,hx2⟩:=Z6 (xs:=vs) (j:=b.result.toNat) om
 refine is_ (Z0 (es:=Z8 vs) (hv:=some v) (j:=b.result) (sz:=1) (y:=.i x2) kr om (Z9 hx2) rfl) (ir 2 [(6,.i x2)] (ie ?_))
 exact at_ (r2 [] [.i x2] ⟨rfl,rfl⟩ (li (by rw [hbe,←c0_3,Zt om];show _=(atI vs b.result).getD (-1);rw [Z6v om hx2];rfl)))
theorem Zco (n:Normal) (hn:NOk n) (hty:NTy n) (m:Nat):∀(b:Block) (us:List Int),(b.sz≤m)→(us.length+4*b.sz≤1000000000)→(b.rng)→(∀t∈us,0≤t)→Z3 Tryz.prog 113 [.agg [Z2 n.decls,sq1 n],nInt us,Za b] [] (fun r h=>r=.i (Zf n us b)∧h=[]):=by
 induction m with
 | zero=>intro b us h;have:=b.sz_pos;omega
 | succ m ih=>intro b us h1 h2 h3 h4;exact Zbm n us b hn h4 h2 h3 fun s us2 k1 k2 k3 k4=>Z4k n us2 s hn hty k4 k2 k3 fun b2 us3 q1 q2 q3 q4=>ih b2 us3 om q2 q3 q4
theorem Z8n (n:Normal) (us:List Int) (b:Block) (hn:NOk n) (hty:NTy n) (hnn:∀t∈us,0≤t) (hb:us.length+4*b.sz≤1000000000) (hr:b.rng):Z3 Tryz.prog 113 [.agg [Z2 n.decls,sq1 n],nInt us,Za b] [] (fun r h=>r=.i (Zf n us b)∧h=[]):=
 Zco n hn hty b.sz b us (Nat.le_refl _) hb hr hnn
theorem Z7j (n:Normal) (hz:NSz n:=by exact ob) (hr:∀r∈n.routines,r.body.rng):Z3 Tryz.prog 56 [Zi n] [] (fun r h=>r=.b (Z05 n)∧h=[]):=by
 have hzl:=hz.len
 refine enter Tryz.func56 kr (n:=37) kr kr (ar (iA (Zh n) ?_))
 intro b1
 refine ir 1 [(1,.p b1 0)] (ie (ar (irK 1 (.n 8 (Zi n) .r) [0] [b1] (ic [] (Z7x n) ?_))))
 rintro _ _ (⟨rfl,rfl,hp1⟩|⟨rfl,rfl,hp2⟩)
 ·refine irk 3 (.n 10 (.agg [Z2 n.decls,sq1 n]) (.n 11 (.b (Z0e n)) .r)) (iA [nl,nl] ?_)
  intro b2
  refine iS 0 b2 0 [Z2 n.decls,sq1 n] [nl,nl] [Z2 n.decls,sq1 n] (irk 1 (.n 4 (.b (Z0e n)) .r) (ie (aq (ar (irk 2 (.n 13 (.b (!Z0e n)) .r) (ie (ac (!Z0e n) (p:=¬(Z0e n=true)) (Zc Iff.rfl) (fun hc1=>?_) (fun hc1=>?_))))))))
  ·refine ar (ir 1 [(2,.b false)] (ie ?_))
   exact at_ (r2 [] [.b false] ⟨rfl,rfl⟩ (lb (by rw [Z05,Bool.eq_false_iff.2 hc1];rfl)))
  have hsg:Z0e n=true:=by simpa using hc1
  have hok:=Z9b hz hsg
  have hty:=Zd1 hsg
  refine ak (aq (ar (irK 2 (.n 15 (nRoutine n.routines) .r) [1] [b1] (iw (Z0a n.routines) (irk 1 (.n 17 (.i 0) .r) (ie (ab 0 (al (fun m F h=>∃(k:Nat),(k≤n.routines.length)∧(Z34 n (n.routines.drop k)=Z34 n n.routines)∧F=[(3,.p b2 0),(15,nRoutine n.routines),(16,.i n.routines.length),(17,.i k)]∧h=[.obj b2 [Z2 n.decls,sq1 n]]∧m=n.routines.length-k) _ _ _ ⟨0,ob,ob,rfl,rfl,rfl⟩ (wk [0] (fw (fr (fc (x:=.i 0) li fl)))) ?_))))))))
  rintro m F h ⟨k,c0_0,c0_1,rfl,rfl,rfl⟩
  refine ar (irk 1 (.n 18 (.b (decide ((k:Int)<(n.routines.length:Int)))) .r) (ie (aq (ac (decide ((k:Int)<(n.routines.length:Int))) dq (fun hc2=>?_) (fun hc2=>?_)))))
  ·refine ak (aq (ab 1 (ar ?_)))
   obtain ⟨x1,hx1⟩:=Z6 (xs:=n.routines) (j:=k) om
   have hrm:=List.mem_of_getElem? hx1
   have hbs:=hz.body _ hrm
   have hps:=hok.params_at hx1
   refine is_ (Z0 (es:=Z0p n.routines) (hv:=none) (j:=(k:Int)) (sz:=5) (y:=Z0s x1) kr om (Z0v hx1) rfl) (irk 1 (.n 20 (Z0s x1) .r) (iA [nl,nl,.i 0,nl,.i 0] ?_))
   intro b3
   refine iS 0 b3 0 (Z1s x1) [nl,nl,.i 0,nl,.i 0] (Z1s x1) (ie (aD 15 (dtK (fuel:=13) 15 [0,1] (.n 22 (Za x1.body) .r) [0] [b3] (do_ 2 (dc 2 [] [] [] (Zh1 x1.body) ?_)))))
   rintro _ _ ⟨rfl,rfl⟩
   refine Zca [(3,.p b2 0),(15,nRoutine n.routines),(16,.i n.routines.length),(17,.i k),(35,.b ((decide ((Z2r x1.body)<0))||((Zf n x1.params x1.body) != x1.result)))] [.obj b3 (Z1s x1),.obj b2 [Z2 n.decls,sq1 n]] ?_ ?_
   ·refine dt (fuel:=10) 12 [3,4] [(3,.p b2 0),(6,.p b3 0),(15,nRoutine n.routines),(16,.i n.routines.length),(17,.i k),(25,.b (decide ((Z2r x1.body)<0)))] (db (b:=(decide ((Z2r x1.body)<0))) 25 (fun hb1=>?_) (fun hb1=>?_))
    ·have hp3:(Z2r x1.body)<0:=(dq).1 hb1
     refine dtk (fuel:=0) 10 [5,6,7,8,9,10,11,12,13,14] (.n 35 (.b true) (.d (.k (.d (.k (.k (.k .z))))))) (de ?_)
     exact wk [0,0] (fq (fc (x:=.b true) (lb (by simp only [hb1];rfl)) fl))
    have hp4:¬((Z2r x1.body)<0):=Zd dq hb1
    refine dtK (fuel:=3) 10 [5,6,7,8,9,11,12] (.n 26 (.agg [Z2 n.decls,sq1 n]) (.n 28 (nInt x1.params) (.n 30 (Za x1.body) (.n 33 (.i x1.result) (.k (.k (.d (.k (.k (.k .z)))))))))) [1,0,0,0] [b2,b3,b3,b3] (do_ 10 (dc 10 [] [0] [b3] (Z8n n x1.params x1.body ob hty (hty.params _ hrm) ob (hr _ hrm)) ?_))
    rintro _ _ ⟨rfl,rfl⟩
    refine dtk (fuel:=0) 2 [13,14] (.n 35 (.b ((Zf n x1.params x1.body) != x1.result)) .r) (de ?_)
    exact wk [0,0] (fq (fc (x:=.b ((Zf n x1.params x1.body) != x1.result)) (lb (by simp only [hb1];rfl)) fl))
   refine ac ((decide ((Z2r x1.body)<0))||((Zf n x1.params x1.body) != x1.result)) (p:=((Z2r x1.body)<0)∨((Zf n x1.params x1.body)≠x1.result)) (Zg dq bne_iff_ne) (fun hc3=>?_) (fun hc3=>?_)
   ·refine ar (ir 1 [(2,.b false)] (ie ?_))
    rw [Z5 hx1] at c0_1
    exact at_ (r2 [] [.b false] ⟨rfl,rfl⟩ (lb (by clear hx1;first|rfl|omega|grind [Z34,Z05])))
   refine ak (az (ia (((k+1:Nat):Int)) (((k:Int))+(1)) (ir 1 [(3,.p b2 0),(15,nRoutine n.routines),(16,.i n.routines.length),(17,.i (k+1:Nat))] (ie ?_))))
   have hdr:=Z5 hx1
   exact ⟨_,_,_,ob,⟨k+1,ob,(by rw [hdr] at c0_1;clear hdr hx1;grind [Z34]),rfl,rfl,rfl⟩,(wk [1] (fw (fr (fc (x:=.i (k+1:Nat)) li fl))))⟩
  refine ax 0 (ar (ir 1 [(2,.b true)] (ie ?_)))
  try rw [Zt (xs:=n.routines) (k:=k) om] at c0_1
  exact at_ (r2 [] [.b true] ⟨rfl,rfl⟩ (lb (by first|rfl|omega|grind [Z34,Z05])))
 refine irk 3 (.n 10 (.agg [Z2 [],nSg3 []]) (.n 11 (.b false) .r)) (iA [nl,nl] ?_)
 intro b4
 refine iS 0 b4 0 [Z2 [],nSg3 []] [nl,nl] [Z2 [],nSg3 []] (irk 1 (.n 4 (.b false) .r) (ie (aq (ar (irk 2 (.n 13 (.b true) .r) (ie (ac1 (ar (ir 1 [(2,.b false)] (ie ?_))))))))))
 exact at_ (r2 [] [.b false] ⟨rfl,rfl⟩ (lb (by rw [Z05,‹Z0e n=false›];rfl)))
theorem Z8m (a:Arm) (hl:a.fds.length≤1000000:=by exact ob) (hf:0≤a.fst∧a.fst≤1000000000:=by exact ob):Z3 Tryz.prog 62 [.agg [.i a.mat,.i a.fst,nInt a.fds,.b a.chg]] [] (fun r h=>r=nInt (Z5b a.fds a.fst)∧h=[]):=by
 refine enter Tryz.func62 kr (n:=25) kr kr (ar (iA [.i a.mat,.i a.fst,nInt a.fds,.b a.chg] ?_))
 intro b1
 refine ir 1 [(1,.p b1 0)] (ie (ar (irk 1 (.n 3 (nl) .r) (ie (aq (ar (irK 2 (.n 7 (nInt a.fds) .r) [0] [b1] (iw (Z4 a.fds) (irk 1 (.n 9 (.i 0) .r) (ie (ab 0 (Z6b 1 (al (fun m F h=>∃(k:Nat) (acc:List Int) (v:Value),(k≤a.fds.length)∧(acc.length≤k)∧(acc++Z5b (a.fds.drop k) (a.fst+k)=Z5b a.fds a.fst)∧F=[(1,.p b1 0),(3,oInt acc v),(7,nInt a.fds),(8,.i a.fds.length),(9,.i k)]∧h=[.obj b1 [.i a.mat,.i a.fst,nInt a.fds,.b a.chg],.tail v 1]∧m=a.fds.length-k) _ _ _ ⟨0,[],(.slice none 0 0),ob,ob,ob,rfl,rfl,rfl⟩ (wk [1,0] (fr (fc (x:=nl) (AVLe.slh _ (by first|rfl|(subst_vars;rfl))) (fw (fc (x:=.i 0) li fl))))) ?_)))))))))))))
 rintro m F h ⟨k,acc,v,c0_0,c0_1,c0_2,rfl,rfl,rfl⟩
 refine ar (irk 1 (.n 10 (.b (decide ((k:Int)<(a.fds.length:Int)))) .r) (ie (aq (ac (decide ((k:Int)<(a.fds.length:Int))) dq (fun hc1=>?_) (fun hc1=>?_)))))
 ·refine ak (aq (ab 1 (ar (irk 1 (.n 11 (.i k) .r) ?_))))
  obtain ⟨x1,hx1⟩:=Z6 (xs:=a.fds) (j:=k) om
  refine is_ (Z0 (es:=Z8 a.fds) (hv:=none) (j:=(k:Int)) (sz:=1) (y:=.i x1) kr om (Z9 hx1) rfl) (irk 3 (.n 4 (.i k) (.n 5 (.i x1) .r)) (ie (ar (irk 2 (.n 15 (.b (x1 != 0)) .r) (ie (Zlx (fun F h=>∃(w:Value),F=[(1,.p b1 0),(3,oInt (if x1≠0 then acc++[a.fst+k] else acc) w),(7,nInt a.fds),(8,.i a.fds.length),(9,.i k)]∧h=[.obj b1 [.i a.mat,.i a.fst,nInt a.fds,.b a.chg],.tail w 1]) (fun _ _=>rfl) ?_ ?_))))))
  ·refine ac (x1 != 0) bne_iff_ne (fun hc2=>?_) (fun hc2=>?_)
   ·refine az (iR 4 [(1,.p b1 0),(7,nInt a.fds),(8,.i a.fds.length),(9,.i k),(16,oInt acc v),(18,.i a.fst),(19,.i k)] [0] [b1] (ia ((a.fst+(k:Int))) ((a.fst)+((k:Int))) (iL (Z8 [(a.fst+(k:Int))]) 1 1 ?_)))
    intro v1
    refine irk 0 (.n 21 (nInt [(a.fst+(k:Int))]) (.p .r)) (ip 2 (Z8 (acc++[(a.fst+(k:Int))])) (Z8 acc) (Z8 [(a.fst+(k:Int))]) v none 1 (Z11 _) (Z11 _) (Z3u _) (by simp<;>omega) (by simp [Z29,Z8]) ?_)
    intro v2
    refine irk 1 (.n 3 (oInt (acc++[(a.fst+(k:Int))]) v2) .r) (ie ?_)
    exact ⟨[(1,.p b1 0),(3,oInt (if x1≠0 then acc++[a.fst+k] else acc) v2),(7,nInt a.fds),(8,.i a.fds.length),(9,.i k)],[.obj b1 [.i a.mat,.i a.fst,nInt a.fds,.b a.chg],.tail v2 1],⟨v2,rfl,rfl⟩,(wk [2,0] (fr (fc (x:=oInt (acc++[(a.fst+(k:Int))]) v2) (AVLe.slh _ (congrArg Z8 (by first|rfl|(rw [if_pos hc2])|(rw [if_neg hc2])|(simp [hc2];done)|(rw [Bool.eq_iff_iff];simp [hc2];done)|omega))) fl)))⟩
   refine ak ?_
   exact ⟨[(1,.p b1 0),(3,oInt (if x1≠0 then acc++[a.fst+k] else acc) v),(7,nInt a.fds),(8,.i a.fds.length),(9,.i k)],[.obj b1 [.i a.mat,.i a.fst,nInt a.fds,.b a.chg],.tail v 1],⟨v,rfl,rfl⟩,(wk [0,0] (fr (fc (x:=oInt acc v) (AVLe.slh _ (congrArg Z8 (by first|rfl|(rw [if_pos hc2])|(rw [if_neg hc2])|(simp [hc2];done)|(rw [Bool.eq_iff_iff];simp [hc2];done)|omega))) fl)))⟩
  rintro F h ⟨w,rfl,rfl⟩
  refine az (ia (((k+1:Nat):Int)) (((k:Int))+(1)) (ir 1 [(1,.p b1 0),(3,oInt (if x1≠0 then acc++[a.fst+k] else acc) w),(7,nInt a.fds),(8,.i a.fds.length),(9,.i (k+1:Nat))] (ie ?_)))
  exact ⟨_,_,_,ob,⟨k+1,(if x1≠0 then acc++[a.fst+k] else acc),w,ob,(by split<;>(try simp)<;>omega),(Z003 hx1 c0_2),rfl,rfl,rfl⟩,(wk [0,0] (fq (fc (x:=.i (k+1:Nat)) li fl)))⟩
 refine ax 0 (ar (ir 2 [(2,oInt acc v)] (ie ?_)))
 exact at_ (r2 [] [oInt acc v] ⟨rfl,rfl⟩ (AVLe.sl _ (congrArg Z8 (Zw6 om c0_2))))
theorem Zae (b:Nat) (ga:Hd) (gb:Hd) (gc:Hd) (n:Normal) (L:LedB) (ln:List Int) (am:List Arm) (t:Int) (o:Int) (hlb:L.vars.length≤1000000000:=by exact ob) (hlk:LLen L:=by exact ob):Z3 Tryz.prog 161 [.p b 0,.i t,.i o] [.obj b [Z2 n.decls,sq1 n,nInt ln,nArm am,.h ga,.h gb,.h gc],rV ga L.vars,rV gb L.own,rV gc L.tok] (fun r h=>∃(wa:Hd) (wb:Hd) (wc:Hd),h=[.obj b [Z2 n.decls,sq1 n,nInt ln,nArm am,.h wa,.h wb,.h wc],rV wa ((L.grow t o (-1)).vars),rV wb ((L.grow t o (-1)).own),rV wc ((L.grow t o (-1)).tok)]):=by
 have hlk0:=hlk
 obtain ⟨e1,e2,e3,e4,e5⟩:=hlk0
 refine enter Tryz.func161 kr (n:=35) kr kr (ar (iR 6 [(0,.p b 0),(2,.i o),(6,.p b 0),(10,.h ga),(11,.i t)] [0] [b] (iL (Z8 [t]) 1 1 ?_)))
 intro v1
 refine irk 0 (.n 12 (nInt [t]) (.p .r)) (iVP 2 ga L.vars [t] none ?_)
 intro v2
 refine irk 2 (.n 15 (.p b 4) .r) (iS 2 b 4 [.h v2] [Z2 n.decls,sq1 n,nInt ln,nArm am,.h ga,.h gb,.h gc] [Z2 n.decls,sq1 n,nInt ln,nArm am,.h v2,.h gb,.h gc] (ie (ar (irK 6 (.n 16 (.p b 0) (.n 20 (.h gb) (.n 21 (.i o) .r))) [0] [b] (iL (Z8 [o]) 1 1 ?_)))))
 intro v3
 refine irk 0 (.n 22 (nInt [o]) (.p .r)) (iVP 4 gb L.own [o] none ?_)
 intro v4
 refine irk 2 (.n 25 (.p b 5) .r) (iS 2 b 5 [.h v4] [Z2 n.decls,sq1 n,nInt ln,nArm am,.h v2,.h gb,.h gc] [Z2 n.decls,sq1 n,nInt ln,nArm am,.h v2,.h v4,.h gc] (ie (az (iR 5 [(26,.p b 0),(30,.h gc)] [0] [b] (iL (Z8 [-1]) 1 1 ?_)))))
 intro v5
 refine irk 0 (.n 31 (nInt [-1]) (.p .r)) (iVP 6 gc L.tok [-1] none ?_)
 intro v6
 refine irk 2 (.n 34 (.p b 6) .r) (iS 2 b 6 [.h v6] [Z2 n.decls,sq1 n,nInt ln,nArm am,.h v2,.h v4,.h gc] [Z2 n.decls,sq1 n,nInt ln,nArm am,.h v2,.h v4,.h v6] (ie ?_))
 exact r2 [0,4,2,0] [] ⟨v2,v4,v6,rfl⟩ (lr _) (eq:=(rc (rv (xs:=(L.vars++[t])) ob (rv (xs:=(L.own++[o])) ob (rv (xs:=(L.tok++[-1])) ob rz)))))
theorem Zfr (b:Nat) (ga:Hd) (gb:Hd) (gc:Hd) (n:Normal) (L:LedB) (ln:List Int) (am:List Arm) (i:Int) (hlk:LLen L:=by exact ob) (hi:0≤i∧i<L.vars.length:=by exact ob) (hq:∀x∈L.own,-1000000000≤x∧x≤1000000000):Z3 Tryz.prog 164 [.p b 0,.i i] [.obj b [Z2 n.decls,sq1 n,nInt ln,nArm am,.h ga,.h gb,.h gc],rV ga L.vars,rV gb L.own,rV gc L.tok] (fun r h=>r=.b (decide (1≤gI L.own i))∧h=[.obj b [Z2 n.decls,sq1 n,nInt ln,nArm am,.h ga,.h gb,.h gc],rV ga ((decL L i).vars),rV gb ((decL L i).own),rV gc ((decL L i).tok)]):=by
 have hlk0:=hlk
 obtain ⟨e1,e2,e3,e4,e5⟩:=hlk0
 refine enter Tryz.func164 kr (n:=22) kr kr (ar (ir 1 [(0,.p b 0),(1,.i i)] (ie (ar (irK 5 (.n 8 (.h gb) (.n 9 (.i i) .r)) [0] [b] (is_ (vIdx 2 gb L.own i i.toNat (hq:=rfl)) ?_))))))
 obtain ⟨x1,hx1⟩:=Z6 (xs:=L.own) (j:=i.toNat) om
 have hxq:=hq _ (List.mem_of_getElem? hx1)
 have hgi:=Z5a hx1
 have hsl:(L.own.set i.toNat (x1-1)).length=L.own.length:=List.length_set
 refine ix_ (vGet 2 gb L.own i.toNat x1 hx1) (ia ((x1-1)) ((x1)-(1)) (is_ (vIdx 2 gb L.own i i.toNat (hq:=rfl)) (iVS 2 gb L.own i.toNat (x1-1) (ie (ar (iR 5 [(17,.h gb),(18,.i i)] [1] [b] (is_ (vIdx 0 gb (L.own.set i.toNat (x1-1)) i i.toNat (hq:=rfl)) ?_)))))))
 obtain ⟨x2,hx2⟩:=Z6 (xs:=(L.own.set i.toNat (x1-1))) (j:=i.toNat) om
 have hxe:x2=x1-1:=by rw [List.getElem?_set_self om] at hx2;exact (Option.some.inj hx2).symm
 refine ix_ (vGet 0 gb (L.own.set i.toNat (x1-1)) i.toNat x2 hx2) (ir 2 [(4,.b (decide (x2≥0)))] (ie ?_))
 exact at_ (r2 [1,1,0,0] [.b (decide (x2≥0))] ⟨rfl,rfl⟩ (lb (by rw [hxe,hgi,Bool.eq_iff_iff];simp)) (eq:=(rc (rv (xs:=L.vars) ob (rv (xs:=(L.own.set i.toNat (x1-1))) (by rw [decL,hgi]) (rv (xs:=L.tok) ob rz))))))
theorem Zm8 (b:Nat) (ga:Hd) (gb:Hd) (gc:Hd) (n:Normal) (L:LedB) (ln:List Int) (am:List Arm) (hlb:L.vars.length≤1000000000:=by exact ob) (hlk:LLen L:=by exact ob):Z3 Tryz.prog 218 [.p b 0] [.obj b [Z2 n.decls,sq1 n,nInt ln,nArm am,.h ga,.h gb,.h gc],rV ga L.vars,rV gb L.own,rV gc L.tok] (fun r h=>∃(c:Nat) (wa:Hd) (wb:Hd) (wc:Hd),r=.p c 0∧h=[.obj c [Z2 n.decls,sq1 n,nInt ln,nArm am,.h wa,.h wb,.h wc],rV wa L.vars,rV wb L.own,rV wc L.tok,.obj b [Z2 n.decls,sq1 n,nInt ln,nArm am,.h ga,.h gb,.h gc],rV ga L.vars,rV gb L.own,rV gc L.tok]):=by
 have hlk0:=hlk
 obtain ⟨e1,e2,e3,e4,e5⟩:=hlk0
 refine enter Tryz.func218 kr (n:=25) kr kr (ar (ir 1 [(0,.p b 0)] (ie (ar (irK 3 (.n 6 (.agg [Z2 n.decls,sq1 n,nInt ln,nArm am,.h ga,.h gb,.h gc]) .r) [0] [b] (iA [nl,nl,nl,nl,nl,nl,nl] ?_))))))
 intro b1
 refine iS 0 b1 0 [Z2 n.decls,sq1 n,nInt ln,nArm am,.h ga,.h gb,.h gc] [nl,nl,nl,nl,nl,nl,nl] [Z2 n.decls,sq1 n,nInt ln,nArm am,.h ga,.h gb,.h gc] (ie (aD 21 (dtK (fuel:=9) 21 [0,1,2,3,5,6,7,8,10,11,12,13] (.n 10 (.h ga) (.n 15 (.h gb) (.n 20 (.h gc) .r))) [1,1,1] [b,b,b] (do_ 4 (dCL 4 [2] [1,1] [b,b] [rV ga L.vars] (Z9x L.vars) cl2 (gL (v:=ga) 0 gN) (Z1h Z2j) ?_)))))
 rintro _ _ ⟨v1,rfl,rfl⟩
 refine do_ 9 (dCL 9 [4] [1] [b] [rV gb L.own] (Z9x L.own) cl2 (gL (v:=gb) 0 gN) (Z1h Z2j) ?_)
 rintro _ _ ⟨v2,rfl,rfl⟩
 refine do_ 14 (dCL 14 [6] [] [] [rV gc L.tok] (Z9x L.tok) cl2 (gL (v:=gc) 0 gN) (Z1h Z2j) ?_)
 rintro _ _ ⟨v3,rfl,rfl⟩
 refine dtk (fuel:=5) 6 [15] (.n 22 (.p b1 4) .r) (do_ 16 (dS 16 6 [] [] b1 4 [.h v1] [Z2 n.decls,sq1 n,nInt ln,nArm am,.h ga,.h gb,.h gc] [Z2 n.decls,sq1 n,nInt ln,nArm am,.h v1,.h gb,.h gc] (dtk (fuel:=3) 4 [17] (.n 23 (.p b1 5) .r) (do_ 18 (dS 18 0 [] [] b1 5 [.h v2] [Z2 n.decls,sq1 n,nInt ln,nArm am,.h v1,.h gb,.h gc] [Z2 n.decls,sq1 n,nInt ln,nArm am,.h v1,.h v2,.h gc] (dtk (fuel:=1) 2 [19] (.n 24 (.p b1 6) .r) (do_ 20 (dS 20 0 [] [] b1 6 [.h v3] [Z2 n.decls,sq1 n,nInt ln,nArm am,.h v1,.h v2,.h gc] [Z2 n.decls,sq1 n,nInt ln,nArm am,.h v1,.h v2,.h v3] (de (ar (ir 1 [(2,.p b1 0)] (ie ?_))))))))))))
 exact at_ (r1 [0,4,2,0,3,2,1,0] ⟨b1,v1,v2,v3,rfl,rfl⟩)
theorem Ziy (b:Nat) (ga:Hd) (gb:Hd) (gc:Hd) (n:Normal) (L:LedB) (ln:List Int) (am:List Arm) (i:Int) (hlk:LLen L) (har:ArmR n.decls L am) (hln:ln.length≤4294967296) (hal:am.length≤1000000000) (hlb:L.vars.length≤1000000000) (hd:∀j:Int,0≤j→j<L.vars.length→gI L.par j<j) (hi:0≤i∧i<L.vars.length) (ih:∀(i2:Int),(0≤i2∧i2<i)→Z3 Tryz.prog 217 [.p b 0,.i i2] [.obj b [Z2 n.decls,sq1 n,nInt ln,nArm am,.h ga,.h gb,.h gc],rV ga L.vars,rV gb L.own,rV gc L.tok] (fun r h=>r=.b (Z1m L ln i2)∧h=[.obj b [Z2 n.decls,sq1 n,nInt ln,nArm am,.h ga,.h gb,.h gc],rV ga L.vars,rV gb L.own,rV gc L.tok])):Z3 Tryz.prog 217 [.p b 0,.i i] [.obj b [Z2 n.decls,sq1 n,nInt ln,nArm am,.h ga,.h gb,.h gc],rV ga L.vars,rV gb L.own,rV gc L.tok] (fun r h=>r=.b (Z1m L ln i)∧h=[.obj b [Z2 n.decls,sq1 n,nInt ln,nArm am,.h ga,.h gb,.h gc],rV ga L.vars,rV gb L.own,rV gc L.tok]):=by
 have hlk0:=hlk
 obtain ⟨e1,e2,e3,e4,e5⟩:=hlk0
 refine enter Tryz.func217 kr (n:=51) kr kr (ar (ir 1 [(0,.p b 0),(1,.i i)] (ie (aq (ar (irK 5 (.n 10 (.h gb) (.n 11 (.i i) .r)) [0] [b] (is_ (vIdx 2 gb L.own i i.toNat (hq:=rfl)) ?_)))))))
 obtain ⟨x1,hx1⟩:=Z6 (xs:=L.own) (j:=i.toNat) om
 have hgi:=Z5a hx1
 refine ix_ (vGet 2 gb L.own i.toNat x1 hx1) (Z24 [(0,.p b 0),(1,.i i),(22,.b ((decide (x1>0))||(decide (i∈ln))))] [.obj b [Z2 n.decls,sq1 n,nInt ln,nArm am,.h ga,.h gb,.h gc],rV ga L.vars,rV gb L.own,rV gc L.tok] ?_ ?_)
 ·refine ir 2 [(0,.p b 0),(1,.i i),(15,.b (decide (x1>0)))] (ib (b:=(decide (x1>0))) 15 (fun hb1=>?_) (fun hb1=>?_))
  ·have hp1:x1>0:=(dq).1 hb1
   refine irk 7 (.n 22 (.b true) (.d (.k (.k .z)))) (ie ?_)
   exact wk [0,0,0,0] (fw (fc (x:=.b true) (lb (by simp only [hb1];rfl)) fl))
  have hp2:¬(x1>0):=Zd dq hb1
  refine irK 5 (.n 19 (nInt ln) (.n 20 (.i i) (.k (.k (.k .z))))) [0] [b] (ic [] (Z38 ln i) ?_)
  rintro _ _ ⟨rfl,rfl⟩
  refine irk 1 (.n 22 (.b (decide (i∈ln))) .r) (ie ?_)
  exact wk [0,0,0,0] (fw (fc (x:=.b (decide (i∈ln))) (lb (by simp only [hb1];rfl)) fl))
 refine ac ((decide (x1>0))||(decide (i∈ln))) (p:=(x1>0)∨(i∈ln)) (Zg dq dq) (fun hc1=>?_) (fun hc1=>?_)
 ·refine ar (ir 1 [(4,.b true)] (ie ?_))
  exact at_ (r2 [0,0,0,0] [.b true] ⟨rfl,rfl⟩ (lb (Zuk (by rw [hgi];exact hc1)).symm))
 refine ak (aq (ar (iR 4 [(0,.p b 0),(1,.i i),(26,nArm am)] [0] [b] (iw (Zmm am) (irk 1 (.n 28 (.i 0) .r) (ie (ab 0 (al (fun m F h=>∃(k:Nat),(k≤am.length)∧(∀a∈am.take k,¬(a.fst≤i∧i<a.fst+a.fds.length))∧F=[(0,.p b 0),(1,.i i),(26,nArm am),(27,.i am.length),(28,.i k)]∧h=[.obj b [Z2 n.decls,sq1 n,nInt ln,nArm am,.h ga,.h gb,.h gc],rV ga L.vars,rV gb L.own,rV gc L.tok]∧m=am.length-k) _ _ _ ⟨0,ob,ob,rfl,rfl,rfl⟩ (wk [0,0,0,0] (fq (fc (x:=.i 0) li fl))) ?_))))))))
 rintro m F h ⟨k,c0_0,c0_1,rfl,rfl,rfl⟩
 refine ar (irk 1 (.n 29 (.b (decide ((k:Int)<(am.length:Int)))) .r) (ie (aq (ac (decide ((k:Int)<(am.length:Int))) dq (fun hc2=>?_) (fun hc2=>?_)))))
 ·refine ak (aq (ab 1 (ar ?_)))
  obtain ⟨x2,hx2⟩:=Z6 (xs:=am) (j:=k) om
  have ham:=List.mem_of_getElem? hx2
  have hrg:=har.rng _ ham
  refine is_ (Z0 (es:=Z14 am) (hv:=none) (j:=(k:Int)) (sz:=4) (y:=.agg [.i x2.mat,.i x2.fst,nInt x2.fds,.b x2.chg]) kr om (Zvm hx2) rfl) (irk 1 (.n 31 (.agg [.i x2.mat,.i x2.fst,nInt x2.fds,.b x2.chg]) .r) (iA [.i 0,.i 0,nl,.b false] ?_))
  intro b1
  refine iS 0 b1 0 [.i x2.mat,.i x2.fst,nInt x2.fds,.b x2.chg] [.i 0,.i 0,nl,.b false] [.i x2.mat,.i x2.fst,nInt x2.fds,.b x2.chg] (ie (ar (Z24 [(0,.p b 0),(1,.i i),(6,.p b1 0),(26,nArm am),(27,.i am.length),(28,.i k),(45,.b ((decide (i≥x2.fst))&&(decide (i<(x2.fst+(x2.fds.length:Int))))))] [.obj b1 [.i x2.mat,.i x2.fst,nInt x2.fds,.b x2.chg],.obj b [Z2 n.decls,sq1 n,nInt ln,nArm am,.h ga,.h gb,.h gc],rV ga L.vars,rV gb L.own,rV gc L.tok] ?_ ?_)))
  ·refine iR 5 [(0,.p b 0),(1,.i i),(6,.p b1 0),(26,nArm am),(27,.i am.length),(28,.i k),(36,.b (decide (i≥x2.fst)))] [0] [b1] (ib (b:=(decide (i≥x2.fst))) 36 (fun hb2=>?_) (fun hb2=>?_))
   ·have hp3:i≥x2.fst:=(dq).1 hb2
    refine irK 5 (.n 37 (.i i) (.n 39 (.i x2.fst) (.n 41 (nInt x2.fds) (.w (.k (.k (.k .z))))))) [0,0] [b1,b1] (iw (Z4 x2.fds) (ia ((x2.fst+(x2.fds.length:Int))) ((x2.fst)+((x2.fds.length:Int))) (irk 2 (.n 45 (.b (decide (i<(x2.fst+(x2.fds.length:Int))))) .r) (ie ?_))))
    exact wk [0,0,0,0,0] (fq (fw (fc (x:=.b (decide (i<(x2.fst+(x2.fds.length:Int))))) (lb (by simp only [hb2];rfl)) fl)))
   have hp4:¬(i≥x2.fst):=Zd dq hb2
   refine irk 9 (.n 45 (.b false) (.d (.w (.k (.k .z))))) (ie ?_)
   exact wk [0,0,0,0,0] (fq (fw (fc (x:=.b false) (lb (by simp only [hb2];rfl)) fl)))
  refine ac ((decide (i≥x2.fst))&&(decide (i<(x2.fst+(x2.fds.length:Int))))) (p:=(i≥x2.fst)∧(i<(x2.fst+(x2.fds.length:Int)))) (Zj dq dq) (fun hc3=>?_) (fun hc3=>?_)
  ·refine ar (iR 3 [(46,.p b 0),(48,.i x2.mat)] [0] [b1] (ic [1,1,1,1] (ih x2.mat ob) ?_))
   rintro _ _ ⟨rfl,rfl⟩
   refine ir 1 [(4,.b (Z1m L ln x2.mat))] (ie ?_)
   have hpa:=har.par _ ham i hc3.1 hc3.2
   exact at_ (r2 [0,0,0,0] [.b (Z1m L ln x2.mat)] ⟨rfl,rfl⟩ (lb (Zzd hi hd (by rw [hgi];exact hc1) hpa hrg.1).symm))
  refine ak (az (ia (((k+1:Nat):Int)) (((k:Int))+(1)) (ir 1 [(0,.p b 0),(1,.i i),(26,nArm am),(27,.i am.length),(28,.i (k+1:Nat))] (ie ?_))))
  have hdr:=Z5 hx2
  exact ⟨_,_,_,ob,⟨k+1,ob,(by rw [Z1l hx2];exact fun a ha=>(List.mem_append.1 ha).elim (c0_1 a) (fun ha=>by rw [List.mem_singleton.1 ha];exact fun q=>hc3 ⟨q.1,q.2⟩)),rfl,rfl,rfl⟩,(wk [1,1,1,1] (fq (fc (x:=.i (k+1:Nat)) li fl)))⟩
 refine ax 0 (ar (ir 1 [(4,.b false)] (ie ?_)))
 have hpn:gI L.par i<0:=Int.not_le.1 fun h=>by
  obtain ⟨a,ha,q⟩:=har.non i hi.1 hi.2 h
  exact c0_1 a (by rw [List.take_of_length_le om];exact ha) q
 exact at_ (r2 [0,0,0,0] [.b false] ⟨rfl,rfl⟩ (lb (Zuj (by rw [hgi];exact hc1) hpn).symm))
theorem Zgm (b:Nat) (ga gb gc:Hd) (n:Normal) (L:LedB) (ln:List Int) (am:List Arm) (i:Int) (hlk:LLen L) (har:ArmR n.decls L am) (hln:ln.length≤4294967296) (hal:am.length≤1000000000) (hlb:L.vars.length≤1000000000)
  (hd:∀j:Int,0≤j→j<L.vars.length→gI L.par j<j) (hi:0≤i∧i<L.vars.length):Z3 Tryz.prog 217 [.p b 0,.i i] [.obj b [Z2 n.decls,sq1 n,nInt ln,nArm am,.h ga,.h gb,.h gc],rV ga L.vars,rV gb L.own,rV gc L.tok] (fun r h=>r=.b (Z1m L ln i)∧h=[.obj b [Z2 n.decls,sq1 n,nInt ln,nArm am,.h ga,.h gb,.h gc],rV ga L.vars,rV gb L.own,rV gc L.tok]):=by
 have key:∀m:Nat,∀j:Int,0≤j→j.toNat≤m→j<L.vars.length→Z3 Tryz.prog 217 [.p b 0,.i j] [.obj b [Z2 n.decls,sq1 n,nInt ln,nArm am,.h ga,.h gb,.h gc],rV ga L.vars,rV gb L.own,rV gc L.tok] (fun r h=>r=.b (Z1m L ln j)∧h=[.obj b [Z2 n.decls,sq1 n,nInt ln,nArm am,.h ga,.h gb,.h gc],rV ga L.vars,rV gb L.own,rV gc L.tok]):=by
  intro m
  induction m with
  | zero=>intro j h1 h2 h3;exact Ziy b ga gb gc n L ln am j hlk har hln hal hlb hd ⟨h1,h3⟩ fun i2 q=>by omega
  | succ m ih=>intro j h1 h2 h3;exact Ziy b ga gb gc n L ln am j hlk har hln hal hlb hd ⟨h1,h3⟩ fun i2 q=>ih i2 q.1 om om
 exact key i.toNat i hi.1 (Nat.le_refl _) hi.2
end Go.Abs
section
namespace Go.Proofs
open Go.RowKit Go.Shelf
attribute [local go_sem] Oper.semAt_some
structure ArmV where
 m:Int
 f:Int
 sa:Option Addr
 sl:Nat
 sc:Nat
 c:Bool
 deriving Inhabited
def ArmV.enc (a:ArmV):Value:=.agg #[.int .i64 a.m,.int .i64 a.f,.slice a.sa a.sl a.sc,.bool a.c]
def armG (zs:List ArmV) (i:Nat):ArmV:=zs[i]?.getD default
def dn (zs:List ArmV) (k:Nat):List (Nat × ArmV):=(List.range k).map fun j=>(zs.length-1-j,armG zs (zs.length-1-j))
theorem Zpa (zs:List ArmV) (k:Nat):dn zs (k+1)=dn zs k++[(zs.length-1-k,armG zs (zs.length-1-k))]:=by simp [dn,List.range_succ]
theorem Zvl (zs:List ArmV) (k:Nat):(dn zs k).length=k:=by simp [dn]
def Zgc (n₀:Nat) (W:World) (v:Value) (zs:List ArmV):Prop:=
 (∃a c,v=.slice a 0 c∧zs=[])∨∃b off cap,v=.slice (some ⟨b,off,none⟩) zs.length cap∧b<n₀∧∀j,j<zs.length →
  W.cell? ⟨b,off+j*4,none⟩=some (.int .i64 (armG zs j).m)∧W.cell? ⟨b,off+j*4+1,none⟩=some (.int .i64 (armG zs j).f) ∧
  W.cell? ⟨b,off+j*4+2,none⟩=some (.slice (armG zs j).sa (armG zs j).sl (armG zs j).sc)∧W.cell? ⟨b,off+j*4+3,none⟩=some (.bool (armG zs j).c)
theorem Zgc.below {n₀:Nat} {A B:World} {v:Value} {zs:List ArmV} (h:Below n₀ A B) (H:Zgc n₀ A v zs):Zgc n₀ B v zs:=by
 rcases H with H|⟨b,off,cap,e,hb,hc⟩
 ·exact .inl H
 ·refine .inr ⟨b,off,cap,e,hb,fun j hj=>?_⟩
  obtain ⟨h0,h1,h2,h3⟩:=hc j hj
  exact ⟨(h.cell (p:=⟨b,_,none⟩) hb).trans h0,(h.cell (p:=⟨b,_,none⟩) hb).trans h1,(h.cell (p:=⟨b,_,none⟩) hb).trans h2,(h.cell (p:=⟨b,_,none⟩) hb).trans h3⟩
set_option maxRecDepth 100000 in
set_option maxHeartbeats 2000000 in
theorem Zzh (F:Fence) (n:Nat) (h8:F.fn 165) (hro:F.round=none) (hn:1≤n) (l Bs n₀ b off cap:Nat) (zs:List ArmV) (hreach:zs.length≤1000000000) (hb:b<n₀) (J Jx:List (Nat × ArmV)→World→Prop)
  (hY:∀pre x W,J pre W→pre.length<zs.length→YieldAt F (n-1) Tryz.prog l #[.int .i64 ((x.1:Nat):Int),x.2.enc] W fun e W'=>
   (e=.returned (.bool true)∧J (pre++[x]) W'∧Below n₀ W W')∨(e=.returned (.bool false)∧Jx (pre++[x]) W'))
  (W:World) (hBn:Bs<n₀) (hBs:W.cell? ⟨Bs,0,none⟩=some (.slice (some ⟨b,off,none⟩) zs.length cap)) (hc:∀j,j<zs.length →
  W.cell? ⟨b,off+j*4,none⟩=some (.int .i64 (armG zs j).m)∧W.cell? ⟨b,off+j*4+1,none⟩=some (.int .i64 (armG zs j).f) ∧
  W.cell? ⟨b,off+j*4+2,none⟩=some (.slice (armG zs j).sa (armG zs j).sl (armG zs j).sc)∧W.cell? ⟨b,off+j*4+3,none⟩=some (.bool (armG zs j).c)) (h0:J [] W) :
  CallsIn F n Tryz.prog 165 #[.func (.yield l) #[] #[],.pointer (some ⟨Bs,0,none⟩)] W fun e W'=>(∃v,e=.returned v) ∧
   ((∃ys,ys=dn zs zs.length∧J ys W')∨(∃pre,(∃k,k≤zs.length∧pre=dn zs k)∧Jx pre W')):=by
 refine callsIn_of_wp Tryz.func165 rfl h8 ?_ hro
 simp only [Tryz.ntmps165,List.size_toArray,List.length_cons,List.length_nil,Nat.reduceAdd,Nat.reduceSub,Array.replicate_succ,Array.replicate_zero,List.push_toArray,List.append_toArray,List.nil_append,List.cons_append]
 gi_wp2
 gi_loopw [3] (fun i wr=>∃k:Nat,k≤zs.length∧i=.int .i64 ((zs.length:Int)-1-k)∧J (dn zs k) wr∧Below n₀ W wr)
  (fun i _=>(intOf i+1).toNat)
 case atStart=>exact ⟨0,Nat.zero_le _,by simp,h0,Below.refl _ _⟩
 case round=>
  obtain ⟨k,hk,rfl,hJs,hnx⟩:=hrel
  have hBx:wr.cell? ⟨Bs,0,none⟩=some (.slice (some ⟨b,off,none⟩) zs.length cap):=(hnx.cell (p:=⟨Bs,0,none⟩) hBn).trans hBs
  by_cases hlt:k<zs.length
  ·obtain ⟨q,hq⟩:∃q:Nat,(zs.length:Int)-1-k=(q:Int):=⟨zs.length-1-k,by omega⟩
   have hqk:zs.length-1-k=q:=by omega
   obtain ⟨g0,g1,g2,g3⟩:=hc q (by omega)
   have c0:=(hnx.cell (p:=⟨b,off+q*4,none⟩) hb).trans g0
   have c1:=(hnx.cell (p:=⟨b,off+q*4+1,none⟩) hb).trans g1
   have c2:=(hnx.cell (p:=⟨b,off+q*4+2,none⟩) hb).trans g2
   have c3:=(hnx.cell (p:=⟨b,off+q*4+3,none⟩) hb).trans g3
   obtain ⟨fn,tmps,assign,body,hy,hR⟩:=hY _ (q,armG zs q) wr hJs (by rw [Zvl];exact hlt)
   dsimp only [ArmV.enc] at hy
   rw [hq]
   have hql:(q:Int)<zs.length:=by omega
   gi_wp2
   refine hR.mono ?_
   rintro e W3 (⟨rfl,hJ3,hk3⟩|⟨rfl,hJx3⟩)
   ·gi_wp2
    go_roundw
    case rel=>exact ⟨k+1,by omega,by congr 1;omega,by rw [Zpa,hqk];exact hJ3,hnx.trans hk3⟩
    case measure=>simp [intOf]
   ·gi_wp2
    refine bodyPost_ret (results_none rfl _ _ _) rfl ?_
    exact ⟨⟨_,rfl⟩,.inr ⟨_,⟨k+1,by omega,by rw [Zpa,hqk]⟩,hJx3⟩⟩
  ·obtain rfl:k=zs.length:=by omega
   have hneg:¬(0≤(zs.length:Int)-1-zs.length):=by omega
   gi_wp2
   go_end0
   first|exact ⟨⟨_,rfl⟩,.inl ⟨_,rfl,hJs⟩⟩|exact ⟨⟨_,rfl⟩,.inl hJs⟩
set_option maxRecDepth 100000 in
set_option maxHeartbeats 1000000 in
theorem Zm7 (F:Fence) (n:Nat) (h8:F.fn 165) (hro:F.round=none) (l Bs:Nat) (a:Option Addr) (c:Nat) (J:List (Nat × ArmV)→World→Prop) (W:World) (hBs:W.cell? ⟨Bs,0,none⟩=some (.slice a 0 c)) (h0:J [] W) :
  CallsIn F n Tryz.prog 165 #[.func (.yield l) #[] #[],.pointer (some ⟨Bs,0,none⟩)] W fun e W'=>(∃v,e=.returned v)∧J [] W':=by
 refine callsIn_of_wp Tryz.func165 rfl h8 ?_ hro
 simp only [Tryz.ntmps165,List.size_toArray,List.length_cons,List.length_nil,Nat.reduceAdd,Nat.reduceSub,Array.replicate_succ,Array.replicate_zero,List.push_toArray,List.append_toArray,List.nil_append,List.cons_append]
 gi_wp2
 gi_loopw [3] (fun i wr=>i=.int .i64 (-1)∧J [] wr) (fun _ _=>0)
 case atStart=>exact ⟨rfl,h0⟩
 case round=>
  obtain ⟨rfl,hJs⟩:=hrel
  gi_wp2
  go_end0
  exact ⟨⟨_,rfl⟩,hJs⟩
set_option maxHeartbeats 1000000 in
theorem Z02q (F:Fence) (n:Nat) (h6:F.fn 122) (hro:F.round=none) (v:Value) (hv1:∃a l c,v=.slice a l c) (w:World) :
  CallsIn F n Tryz.prog 122 #[v] w fun e w'=>e=.returned (.func (.func 165) #[] #[.pointer (some ⟨w.heap.size,0,none⟩)])∧w'=w.alloc (.cells #[v] 91):=by
 obtain ⟨a,ll,c,rfl⟩:=hv1
 refine callsIn_of_wp Tryz.func122 rfl h6 ?_ hro
 simp only [Tryz.ntmps122,List.size_toArray,List.length_cons,List.length_nil,Nat.reduceAdd,Nat.reduceSub,Array.replicate_succ,Array.replicate_zero,List.push_toArray,List.append_toArray,List.nil_append,List.cons_append]
 gi_wp2
 go_ret
 exact ⟨rfl,rfl⟩
theorem Zsa (F:Fence) (n:Nat) (h8:F.fn 165) (hro:F.round=none) (hn:1≤n) (Bs n₀:Nat) (v:Value) (zs:List ArmV) (hreach:zs.length≤1000000000) (w:World) (hBs:Bs<n₀) (hn₀:n₀≤w.heap.size)
  (hc:w.cell? ⟨Bs,0,none⟩=some v) (hI:Zgc n₀ w v zs) :
  SeqStopsK F n Tryz.prog 165 #[.pointer (some ⟨Bs,0,none⟩)] (fun x:Nat × ArmV=>#[Value.int .i64 ((x.1:Nat):Int),x.2.enc]) (Below n₀) (fun ys=>ys=dn zs zs.length) (fun pre=>∃k,k≤zs.length∧pre=dn zs k) zs.length w:=by
 intro l J Jx W hW _ _ hY h0
 have hc':=(hW.cell (p:=⟨Bs,0,none⟩) (Nat.lt_of_lt_of_le hBs hn₀)).trans hc
 rcases hI.below (hW.mono hn₀) with ⟨a,c,rfl,rfl⟩|⟨b,off,cap,rfl,hb,hcs⟩
 ·exact (Zm7 F n h8 hro l Bs a c J W hc' h0).mono fun e W' ⟨he,hj⟩=>⟨he,.inl ⟨_,rfl,hj⟩⟩
 ·exact Zzh F n h8 hro hn l Bs n₀ b off cap zs hreach hb J Jx hY W hBs hc' hcs h0
def Box4 (W:World) (B:Nat) (a:ArmV):Prop:=W.heap[B]? = some (.cells #[.int .i64 a.m,.int .i64 a.f,.slice a.sa a.sl a.sc,.bool a.c] 96 (0,0))
theorem Zkd {β:Type} (B:Nat) (f:β→ArmV):Own (fun s W=>Box4 W B (f s)):=fun s X Y row hs hg hrow=>
 (grownBy_keeps_cells hg hrow hs rfl).trans hs
theorem Box4.lt {W:World} {B:Nat} {a:ArmV} (h:Box4 W B a):B<W.heap.size:=(Array.getElem?_eq_some_iff.1 h).1
theorem Box4.alloc {W:World} {B:Nat} {a:ArmV} (h:Box4 W B a) (o:Obj):Box4 (W.alloc o) B a:=(Below.heap_alloc W o B h.lt).trans h
theorem Box4.other {W:World} {B B':Nat} {a:ArmV} (h:Box4 W B a) (hne:B≠B') (j:Nat) (u:Value):Box4 (W.setCell ⟨B',j,none⟩ u) B a:=(heap_setCell_other W ⟨B',j,none⟩ B u hne).trans h
theorem Box4.cells {W:World} {B:Nat} {a:ArmV} (h:Box4 W B a):W.cell? ⟨B,0,none⟩=some (.int .i64 a.m)∧W.cell? ⟨B,1,none⟩=some (.int .i64 a.f)∧W.cell? ⟨B,2,none⟩=some (.slice a.sa a.sl a.sc)∧W.cell? ⟨B,3,none⟩=some (.bool a.c):=by
 have h':W.heap[B]? = _:=h
 refine ⟨?_,?_,?_,?_⟩<;>simp [World.cell?,h']
theorem Box4.frozen {W:World} {B:Nat} {a:ArmV} (h:Box4 W B a) (j:Nat):W.frozen? ⟨B,j,none⟩=false:=by simp [World.frozen?,show W.heap[B]? = _ from h]
def w4 (W:World) (B:Nat) (a:ArmV):World:=(((W.setCell ⟨B,0,none⟩ (.int .i64 a.m)).setCell ⟨B,1,none⟩ (.int .i64 a.f)).setCell ⟨B,2,none⟩ (.slice a.sa a.sl a.sc)).setCell ⟨B,3,none⟩ (.bool a.c)
theorem Box4.put {W:World} {B:Nat} {a:ArmV} (b:ArmV) (h:Box4 W B a):Box4 (w4 W B b) B b:=
 heap_setCell_same _ B 3 _ 96 _ (heap_setCell_same _ B 2 _ 96 _ (heap_setCell_same _ B 1 _ 96 _ (heap_setCell_same _ B 0 _ 96 _ h)))
theorem Zs2 (W:World) (B:Nat) (a:ArmV) (k:Nat) (h:k≠B):(w4 W B a).heap[k]? = W.heap[k]?:=
 (heap_setCell_other _ ⟨B,3,none⟩ k _ h).trans ((heap_setCell_other _ ⟨B,2,none⟩ k _ h).trans ((heap_setCell_other _ ⟨B,1,none⟩ k _ h).trans (heap_setCell_other _ ⟨B,0,none⟩ k _ h)))
theorem Zs1 (W:World) (B:Nat) (a:ArmV):KeepsOthers W (w4 W B a):=(((KeepsOthers.setCell _ _ _).trans (KeepsOthers.setCell _ _ _)).trans (KeepsOthers.setCell _ _ _)).trans (KeepsOthers.setCell _ _ _)
theorem Zs0 {n₀:Nat} {w W:World} {B:Nat} (a:ArmV) (h:Below n₀ w W) (hB:n₀≤B):Below n₀ w (w4 W B a):=
 (((h.setCell (p:=⟨B,0,none⟩) hB _).setCell (p:=⟨B,1,none⟩) hB _).setCell (p:=⟨B,2,none⟩) hB _).setCell (p:=⟨B,3,none⟩) hB _
set_option maxRecDepth 100000 in
set_option maxHeartbeats 4000000 in
theorem Z071 (F:Fence) (n:Nat) (h61:F.fn 61) (h122:F.fn 122) (h165:F.fn 165) (hro:F.round=none) (hn:6≤n) (v:Int) (av:Value) (zs:List ArmV) (hreach:zs.length≤1000000000) (w:World) (hav:∃a l c,av=.slice a l c) (hA:Zgc w.heap.size w av zs) :
  CallsIn F n Tryz.prog 61 #[av,.int .i64 v] w fun e W'=>((∃k,k<zs.length∧(armG zs (zs.length-1-k)).m=v∧(∀j,j<k→(armG zs (zs.length-1-j)).m≠v)∧e=.returned (.tuple #[(armG zs (zs.length-1-k)).enc,.bool true])) ∨
   ((∀j,j<zs.length→(armG zs (zs.length-1-j)).m≠v)∧e=.returned (.tuple #[.agg #[.int .i64 0,.int .i64 0,.slice none 0 0,.bool false],.bool false])))∧Below w.heap.size w W':=by
 have h1:1≤n:=by omega
 refine callsIn_of_wp_marks Tryz.func61 rfl h61 ?_ hro
 simp only [Tryz.ntmps61,List.size_toArray,List.length_cons,List.length_nil,Nat.reduceAdd,Nat.reduceSub,Array.replicate_succ,Array.replicate_zero,List.push_toArray,List.append_toArray,List.nil_append,List.cons_append]
 obtain ⟨aa,al,ac,rfl⟩:=hav
 gi_wp2_with (gi_at_call 122;refine (Z02q F (n-1) h122 hro _ ⟨_,_,_,rfl⟩ _).mono ?_;rintro e w' ⟨rfl,rfl⟩)
 obtain ⟨W0,hW0⟩:∃W0,(((w.alloc (.cells #[.int .i64 v] 3)).alloc (.cells #[.int .i64 0,.int .i64 0,.slice none 0 0,.bool false] 96)).alloc (.cells #[.bool false] 4)).alloc (.cells #[.slice aa al ac] 91)=W0:=⟨_,rfl⟩
 have hB0:Below w.heap.size w W0:=by rw [←hW0];exact ((((Below.refl _ w).alloc (Nat.le_refl _) _).alloc (by simp) _).alloc (by simp;omega) _).alloc (by simp;omega) _
 have hsz:W0.heap.size=w.heap.size+4:=by rw [←hW0];simp
 have bV:Boxed W0 w.heap.size 3 (.int .i64 v):=by rw [←hW0];exact (((Boxed.new w 3 (.int .i64 v)).alloc _).alloc _).alloc _
 have bR:Box4 W0 (w.heap.size+1) default:=by
  rw [←hW0]
  have h:Box4 ((w.alloc (.cells #[.int .i64 v] 3)).alloc (.cells #[.int .i64 0,.int .i64 0,.slice none 0 0,.bool false] 96)) (w.alloc (.cells #[.int .i64 v] 3)).heap.size default:=World.alloc_heap_new _ _
  rw [World.size_alloc] at h
  exact (h.alloc _).alloc _
 have bO:Boxed W0 (w.heap.size+1+1) 4 (.bool false):=by
  rw [←hW0]
  have h:=Boxed.new ((w.alloc (.cells #[.int .i64 v] 3)).alloc (.cells #[.int .i64 0,.int .i64 0,.slice none 0 0,.bool false] 96)) 4 (.bool false)
  simp only [World.size_alloc] at h
  exact h.alloc _
 have bA:Boxed W0 (w.heap.size+1+1+1) 91 (.slice aa al ac):=by
  rw [←hW0]
  have h:=Boxed.new (((w.alloc (.cells #[.int .i64 v] 3)).alloc (.cells #[.int .i64 0,.int .i64 0,.slice none 0 0,.bool false] 96)).alloc (.cells #[.bool false] 4)) 91 (.slice aa al ac)
  simp only [World.size_alloc] at h
  exact h
 have hA0:Zgc (w.heap.size+4) W0 (.slice aa al ac) zs:=by
  rcases hA.below hB0 with h|⟨b,off,cap,e,hb,hc⟩
  ·exact .inl h
  ·exact .inr ⟨b,off,cap,e,by omega,hc⟩
 rw [hW0]
 clear hW0
 refine wpIn_rangeFunc_ownH hro h1 (gf:=165) (lb:=#[.pointer (some ⟨w.heap.size+1+1+1,0,none⟩)]) rfl h165 (enters_of Tryz.func165 (by kernel_rfl) rfl)
  (Zsa F (n-1) h165 hro (by omega) (w.heap.size+1+1+1) (w.heap.size+4) _ zs hreach W0 (by omega) (by omega) bA.cell hA0) belowK_t (belowK_b (by omega)) (Below.refl _ _) (fun _=>rfl)
  (fun pre W=>(((((∀x∈pre,x.2.m≠v)∧Boxed W w.heap.size 3 (.int .i64 v))∧Box4 W (w.heap.size+1) default)∧Boxed W (w.heap.size+1+1) 4 (.bool false))∧Boxed W (w.heap.size+1+1+1) 91 (.slice aa al ac))∧Below w.heap.size w W)
  (fun c pre W=>((∃pre0 x,(c=.ret∧pre=pre0++[x]∧x.2.m=v∧∀y∈pre0,y.2.m≠v)∧Box4 W (w.heap.size+1) x.2)∧Boxed W (w.heap.size+1+1) 4 (.bool true))∧Below w.heap.size w W)
  (OwnFrom.and (OwnFrom.and (OwnFrom.and (OwnFrom.and (OwnFrom.and (ownFrom_pure _ _) (Own.from (boxed_own _ _ _) _)) (Own.from (Zkd _ _) _)) (Own.from (boxed_own _ _ _) _)) (Own.from (boxed_own _ _ _) _)) (ownFrom_below (Nat.le_refl _) (by omega)))
  (fun c=>OwnFrom.and (OwnFrom.and (fun s X Y row hs hg hr=>by
   obtain ⟨pre0,x,h,hb⟩:=hs
   exact ⟨pre0,x,h,Zkd (w.heap.size+1) (fun (_:Unit)=>x.2) () X Y row hb hg (fun r e=>(hr r e).2)⟩) (Own.from (boxed_own _ _ _) _)) (ownFrom_below (Nat.le_refl _) (by omega)))
  ⟨⟨⟨⟨⟨by simp,bV⟩,bR⟩,bO⟩,bA⟩,hB0⟩
  (fun x a' W=>∃Bx,w.heap.size+1+1<Bx∧Box4 W Bx x.2∧a'={ tmps:=#[.slice aa al ac,.int .i64 v,undef,.pointer (some ⟨w.heap.size,0,none⟩),.pointer (some ⟨w.heap.size+1,0,none⟩),.pointer (some ⟨w.heap.size+1+1,0,none⟩),undef,.pointer (some ⟨Bx,0,none⟩),.slice aa al ac,.func (.func 165) #[] #[.pointer (some ⟨w.heap.size+1+1+1,0,none⟩)],.int .i64 ((x.1:Nat):Int),x.2.enc,undef,undef,undef,undef,undef,undef],defers:=[] })
  (fun x a' _ X Y row hs hg hr=>by obtain ⟨Bx,e1,e2,e3⟩:=hs;exact ⟨Bx,e1,Zkd Bx (fun (_:Unit)=>x.2) () X Y row e2 hg (fun r e=>(hr r e).2),e3⟩)
  ?assign ?body ?done ?stop
 case assign=>
  rintro l pre ⟨xi,x⟩ W K ⟨⟨⟨⟨⟨hp,bV1⟩,bR1⟩,bO1⟩,bA1⟩,hB1⟩ hK
  obtain ⟨xm,xf,xsa,xsl,xsc,xc⟩:=x
  dsimp only [ArmV.enc] at hK ⊢
  gi_wp2
  have hbA:=bA1.lt
  exact hK _ _ ((KeepsOthers.alloc _ _).from _) ((Below.refl _ W).alloc (by omega) _) ⟨⟨⟨⟨⟨hp,bV1.alloc _⟩,bR1.alloc _⟩,bO1.alloc _⟩,bA1.alloc _⟩,hB1.alloc hB1.size _⟩ ⟨W.heap.size,by omega,World.alloc_heap_new W _,rfl⟩
 case body=>
  rintro l pre ⟨xi,x⟩ a' W hl ⟨r,hr⟩ ⟨⟨⟨⟨⟨hp,bV1⟩,bR1⟩,bO1⟩,bA1⟩,hB1⟩ ⟨Bx,hBx,bX,rfl⟩ hlt
  obtain ⟨xm,xf,xsa,xsl,xsc,xc⟩:=x
  have cV:=bV1.cell
  obtain ⟨x0,x1,x2,x3⟩:=bX.cells
  dsimp only at x0 x1 x2 x3
  obtain ⟨r0,r1,r2,r3⟩:=bR1.cells
  have f0:=bR1.frozen 0
  have f1:=bR1.frozen 1
  have f2:=bR1.frozen 2
  have f3:=bR1.frozen 3
  have cO:=bO1.cell
  have fO:=bO1.frozen
  gi_wp2
  ·rename_i hxy
   have hxv:xm=v:=by first|exact hxy|exact eq_of_beq hxy|(simp at hxy;exact hxy)
   have b4:=bR1.put ⟨xm,xf,xsa,xsl,xsc,xc⟩
   have b5:Boxed (w4 W (w.heap.size+1) ⟨xm,xf,xsa,xsl,xsc,xc⟩) (w.heap.size+1+1) 4 (.bool false):=(Zs2 W _ _ _ (by omega)).trans bO1
   have b6:Box4 ((w4 W (w.heap.size+1) ⟨xm,xf,xsa,xsl,xsc,xc⟩).setCell ⟨w.heap.size+1+1,0,none⟩ (.bool true)) (w.heap.size+1) ⟨xm,xf,xsa,xsl,xsc,xc⟩:=b4.other (by omega) 0 _
   exact ⟨((Zs1 W (w.heap.size+1) ⟨xm,xf,xsa,xsl,xsc,xc⟩).trans (KeepsOthers.setCell _ _ _)).from _,⟨⟨pre,xi,⟨xm,xf,xsa,xsl,xsc,xc⟩,⟨rfl,rfl,hxv,fun a b h=>hp (a,b) h⟩,b6⟩,b5.set _⟩,(Zs0 ⟨xm,xf,xsa,xsl,xsc,xc⟩ hB1 (by omega)).setCell (p:=⟨w.heap.size+1+1,0,none⟩) (by simp;omega) _⟩
  ·rename_i hxy
   exact ⟨KeepsFrom.refl _ _,Below.refl _ _,⟨⟨⟨⟨fun a b h=>(List.mem_append.1 h).elim (hp (a,b)) (fun e=>by simp at e;obtain ⟨rfl,rfl⟩:=e;simpa using hxy),bV1⟩,bR1⟩,bO1⟩,bA1⟩,hB1⟩
 case done=>
  rintro D ys W hD rfl ⟨⟨⟨⟨⟨hp,bV1⟩,bR1⟩,bO1⟩,bA1⟩,hB1⟩ hK
  obtain ⟨r0,r1,r2,r3⟩:=bR1.cells
  have f0:=bR1.frozen 0
  have f1:=bR1.frozen 1
  have f2:=bR1.frozen 2
  have f3:=bR1.frozen 3
  have cO:=bO1.cell
  have fO:=bO1.frozen
  gi_wp2
  have hK':=((Zs1 W (w.heap.size+1) (⟨0,0,none,0,0,false⟩:ArmV)).trans (KeepsOthers.setCell _ ⟨w.heap.size+1+1,0,none⟩ (.bool false))).same D _ hK rfl
  refine ⟨by simp,.inl ⟨_,_,rfl,run_takeDeferred hK',?_⟩⟩
  have b4:=bR1.put (⟨0,0,none,0,0,false⟩:ArmV)
  have b5:Boxed (w4 W (w.heap.size+1) (⟨0,0,none,0,0,false⟩:ArmV)) (w.heap.size+1+1) 4 (.bool false):=(Zs2 W _ _ _ (by omega)).trans bO1
  have b6:Box4 ((w4 W (w.heap.size+1) (⟨0,0,none,0,0,false⟩:ArmV)).setCell ⟨w.heap.size+1+1,0,none⟩ (.bool false)) (w.heap.size+1) (⟨0,0,none,0,0,false⟩:ArmV):=b4.other (by omega) 0 _
  have b7:=b5.set (.bool false)
  have n4:w.heap.size+1≠D:=by omega
  have n5:w.heap.size+1+1≠D:=by omega
  have b8:Box4 (((w4 W (w.heap.size+1) (⟨0,0,none,0,0,false⟩:ArmV)).setCell ⟨w.heap.size+1+1,0,none⟩ (.bool false)).putObj D (.deferred none)) (w.heap.size+1) (⟨0,0,none,0,0,false⟩:ArmV):=(World.putObj_heap_other n4).trans b6
  have b9:Boxed (((w4 W (w.heap.size+1) (⟨0,0,none,0,0,false⟩:ArmV)).setCell ⟨w.heap.size+1+1,0,none⟩ (.bool false)).putObj D (.deferred none)) (w.heap.size+1+1) 4 (.bool false):=(World.putObj_heap_other n5).trans b7
  obtain ⟨y0,y1,y2,y3⟩:=b8.cells
  have y4:=b9.cell
  dsimp only [w4] at y0 y1 y2 y3 y4
  refine ⟨.tuple #[.agg #[.int .i64 0,.int .i64 0,.slice none 0 0,.bool false],.bool false],?_,⟨.inr ⟨fun j hj=>hp (zs.length-1-j,armG zs (zs.length-1-j)) (List.mem_map.2 ⟨j,List.mem_range.2 hj,rfl⟩),rfl⟩,
   ((Zs0 (⟨0,0,none,0,0,false⟩:ArmV) hB1 (by omega)).setCell (p:=⟨w.heap.size+1+1,0,none⟩) (by simp;omega) _).trans (belowK_b (w:=w) (Nat.le_refl _) _ D _ _ (by omega) hK' rfl rfl)⟩⟩
  simp [results,Tryz.f61,go_sem,y0,y1,y2,y3,y4]
 case stop=>
  rintro D c pre W hD hpre ⟨⟨⟨pre0,x,⟨rfl,he,hx,hy⟩,bR1⟩,bO1⟩,hB1⟩ hK
  gi_wp2
  refine ⟨by simp,.inl ⟨_,_,rfl,run_takeDeferred hK,?_⟩⟩
  have n4:w.heap.size+1≠D:=by omega
  have n5:w.heap.size+1+1≠D:=by omega
  have b8:Box4 (W.putObj D (.deferred none)) (w.heap.size+1) x.2:=(World.putObj_heap_other n4).trans bR1
  have b9:Boxed (W.putObj D (.deferred none)) (w.heap.size+1+1) 4 (.bool true):=(World.putObj_heap_other n5).trans bO1
  obtain ⟨y0,y1,y2,y3⟩:=b8.cells
  have y4:=b9.cell
  obtain ⟨k,hk,rfl⟩:=hpre
  obtain ⟨k',rfl⟩:∃k',k=k'+1:=by
   cases k with
   | zero=>simp [dn] at he
   | succ k'=>exact ⟨k',rfl⟩
  rw [Zpa] at he
  obtain ⟨e1,e2⟩:=List.append_inj' he rfl
  have e3:x=(zs.length-1-k',armG zs (zs.length-1-k')):=(List.cons.inj e2).1.symm
  subst e3
  refine ⟨.tuple #[(armG zs (zs.length-1-k')).enc,.bool true],?_,⟨.inl ⟨k',by omega,hx,fun j hj=>hy (zs.length-1-j,armG zs (zs.length-1-j)) (e1▸List.mem_map.2 ⟨j,List.mem_range.2 hj,rfl⟩),rfl⟩,
   hB1.trans (belowK_b (w:=w) (Nat.le_refl _) W D _ _ (by omega) hK rfl rfl)⟩⟩
  simp [results,Tryz.f61,go_sem,y0,y1,y2,y3,y4,ArmV.enc]
end Go.Proofs
end
section
namespace Go.Abs
open Go.Proofs
theorem Zr9 {v:Int}:∀{am:List Arm} {i:Nat} {a:Arm},am[i]? = some a→a.mat=v→(∀j b,i<j→am[j]? = some b→b.mat≠v)→ofF am v=some a
 | [],_,_,h,_,_=>by simp at h
 | x::r,0,a,h,hm,hl=>by
  simp at h
  subst h
  have:ofF r v=none:=Zd3 fun b hb=>by
   obtain ⟨j,hj⟩:=List.getElem?_of_mem hb
   exact hl (j+1) b om (by simpa using hj)
  rw [ofF,this]
  simp [hm]
 | x::r,i+1,a,h,hm,hl=>by
  have:ofF r v=some a:=Zr9 (by simpa using h) hm fun j b hj hb=>hl (j+1) b om (by simpa using hb)
  rw [ofF,this]
def Z01u (w:World) (G:Prot) (b o:Nat) (a:Arm) (z:ArmV):Prop:=
 w.cell? ⟨b,o,none⟩=some (.int .i64 z.m)∧w.cell? ⟨b,o+1,none⟩=some (.int .i64 z.f)∧w.cell? ⟨b,o+2,none⟩=some (.slice z.sa z.sl z.sc)∧w.cell? ⟨b,o+3,none⟩=some (.bool z.c) ∧
  z.m=a.mat∧z.f=a.fst∧z.c=a.chg∧RV w G (nInt a.fds) (.slice z.sa z.sl z.sc)∧G b o
theorem Z04l {w:World} {G:Prot} {es:List AV} {hv:Option Value} {u:Value} (h:RV w G (.sl es hv) u):∃a l c,u=.slice a l c:=by
 cases h with
 | nil _=>exact ⟨_,_,_,rfl⟩
 | sl _ _ _=>exact ⟨_,_,_,rfl⟩
theorem Z02n {w:World} {G:Prot} {b o:Nat} {a:Arm} (h:RMem w G b o (lArm a)):∃z,Z01u w G b o a z:=by
 cases h with
 | cons c0 g0 r0 t=>cases t with
  | cons c1 _ r1 t=>cases t with
   | cons c2 _ r2 t=>cases t with
    | cons c3 _ r3 t=>
     have e0:=r0.val_inv;subst e0
     have e1:=r1.val_inv;subst e1
     have e3:=r3.val_inv;subst e3
     have hs:∃sa sl sc,∃u,u=Value.slice sa sl sc∧w.cell? ⟨b,o+2,none⟩=some u∧RV w G (nInt a.fds) u:=by
      obtain ⟨sa,sl,sc,e⟩:=Z04l r2
      exact ⟨sa,sl,sc,_,e,c2,r2⟩
     obtain ⟨sa,sl,sc,u,rfl,c2',r2'⟩:=hs
     exact ⟨⟨a.mat,a.fst,sa,sl,sc,a.chg⟩,c0,c1,c2',c3,rfl,rfl,rfl,r2',g0⟩
theorem Zqg {w:World} {G:Prot} {b k:Nat}:∀{o:Nat} {am:List Arm},REls w G k b o (Z14 am)→∃zs:List ArmV,zs.length=am.length∧∀(j:Nat) a,am[j]? = some a→Z01u w G b (o+j*4) a (armG zs j)
 | _,[],_=>⟨[],rfl,fun j a h=>by simp at h⟩
 | o,x::r,.cons hl h t=>by
  have hk:4=k:=hl
  subst hk
  obtain ⟨z,hz⟩:=Z02n h
  obtain ⟨zs,hlen,hzs⟩:=Zqg t
  refine ⟨z::zs,by simp [hlen],fun j a hj=>?_⟩
  cases j with
  | zero=>simp at hj;subst hj;simpa [armG] using hz
  | succ j=>
   have:=hzs j a (by simpa using hj)
   rw [show o+(j+1)*4=o+4+j*4 by omega]
   simpa [armG] using this
theorem Z02p (am:List Arm) (v:Int) (hal:am.length≤1000000000):Z3 Tryz.prog 61 [nArm am,.i v] [] (fun r h=>(∃(a:Arm),r=.tup [.agg [.i a.mat,.i a.fst,nInt a.fds,.b a.chg],.b true]∧h=[]∧ofF am v=some a)∨(r=.tup [.agg [.i 0,.i 0,oInt [] (.slice none 0 0),.b false],.b false]∧h=[]∧ofF am v=none)):=by
 intro w G vs ha hh
 obtain ⟨u,rfl,hu⟩:∃u,vs=[u,.int .i64 v]∧RV w G (nArm am) u:=by
  cases ha with
  | cons h1 t=>cases t with
   | cons h2 t=>cases t;have:=h2.val_inv;subst this;exact ⟨_,rfl,h1⟩
 obtain ⟨zs,hlen,hat,hav,hrel⟩:∃zs:List ArmV,zs.length=am.length∧Zgc w.heap.size w u zs∧(∃a l c,u=.slice a l c)∧∀(j:Nat) a,am[j]? = some a→(armG zs j).m=a.mat∧(armG zs j).f=a.fst∧(armG zs j).c=a.chg∧RV w G (nInt a.fds) (.slice (armG zs j).sa (armG zs j).sl (armG zs j).sc):=by
  have hu':RV w G (.sl (Z14 am) none) u:=hu
  generalize hes:Z14 am=es at hu'
  cases hu' with
  | nil _=>
   cases am with
   | nil=>exact ⟨[],rfl,.inl ⟨_,_,rfl,rfl⟩,⟨_,_,_,rfl⟩,fun j a h=>by simp at h⟩
   | cons _ _=>simp [Z14] at hes
  | @sl _ _ b o k cap _ hc hm=>
   subst hes
   obtain ⟨zs,hlen,hzs⟩:=Zqg hm
   have hel:(Z14 am).length=zs.length:=by simp [Z14,hlen]
   refine ⟨zs,hlen,?_,⟨_,_,_,rfl⟩,fun j a hj=>by obtain ⟨_,_,_,_,q1,q2,q3,q4,_⟩:=hzs j a hj;exact ⟨q1,q2,q3,q4⟩⟩
   cases am with
   | nil=>exact .inl ⟨_,_,rfl,List.eq_nil_of_length_eq_zero hlen⟩
   | cons x r=>
    refine .inr ⟨b,o,cap,by rw [hel],hh.lt b _ (hzs 0 x rfl).2.2.2.2.2.2.2.2,fun j hj=>?_⟩
    have hj2:j<(x::r).length:=by omega
    obtain ⟨q0,q1,q2,q3,_⟩:=hzs j _ (List.getElem?_eq_getElem hj2)
    exact ⟨q0,q1,q2,q3⟩
 refine (callsIn_wide.1 (Z071 Fence.wide 6 trivial trivial trivial rfl om v u zs om w hav hat)).mono ?_
 rintro e W' ⟨hres,hB⟩
 have hA:Agree G w W' G:=⟨fun b o hg=>hB.cell (p:=⟨b,o,none⟩) (hh.lt b o hg),fun _ _ h=>h⟩
 have hH:HOk W' G []:=⟨(fun r hr=>by cases hr),List.Pairwise.nil,(fun r hr=>by cases hr),fun b o hg=>Nat.lt_of_lt_of_le (hh.lt b o hg) hB.size⟩
 have hX:Ext w G [] W' G []:=⟨hB.os,hB.tape,hB.output,hB.size,fun _ _ h=>h,fun b hb=>.inl (hB.block b hb),fun _ _ _ h=>.inl h,fun _ _ _ h=>h⟩
 have hmn:∀j,j<zs.length→∃a,am[zs.length-1-j]? = some a:=fun j hj=>⟨_,List.getElem?_eq_getElem om⟩
 rcases hres with ⟨k,hk,hm,hlt,rfl⟩|⟨hno,rfl⟩
 ·obtain ⟨a,hga⟩:=hmn k hk
  obtain ⟨q1,q2,q3,q4⟩:=hrel _ a hga
  have hof:ofF am v=some a:=Zr9 hga (q1▸hm) fun j b hj hb=>by
   have hjl:=(List.getElem?_eq_some_iff.1 hb).1
   have:=hlt (zs.length-1-j) om
   rw [show zs.length-1-(zs.length-1-j)=j by omega,(hrel j b hb).1] at this
   exact this
  refine ⟨_,.tup [.agg [.i a.mat,.i a.fst,nInt a.fds,.b a.chg],.b true],[],G,rfl,.inl ⟨a,rfl,rfl,hof⟩,?_,hH,hX⟩
  refine .tup (.cons (.agg (cs:=[_,_,_,_]) (.cons ?_ (.cons ?_ (.cons (q4.mono hA) (.cons ?_ .nil))))) (.cons .val .nil))
  ·rw [q1];exact .val
  ·rw [q2];exact .val
  ·rw [q3];exact .val
 ·have hof:ofF am v=none:=Zd3 fun a ha=>by
   obtain ⟨j,hj⟩:=List.getElem?_of_mem ha
   have hjl:=(List.getElem?_eq_some_iff.1 hj).1
   have:=hno (zs.length-1-j) om
   rw [show zs.length-1-(zs.length-1-j)=j by omega,(hrel j a hj).1] at this
   exact this
  refine ⟨_,.tup [.agg [.i 0,.i 0,oInt [] (.slice none 0 0),.b false],.b false],[],G,rfl,.inr ⟨rfl,rfl,hof⟩,?_,hH,hX⟩
  exact .tup (.cons (.agg (cs:=[_,_,_,_]) (.cons .val (.cons .val (.cons (.nil (fun x hx=>(Option.some.inj hx).symm)) (.cons .val .nil))))) (.cons .val .nil))
end Go.Abs
end
