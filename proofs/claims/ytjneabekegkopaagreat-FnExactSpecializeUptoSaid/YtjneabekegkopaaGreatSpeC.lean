/-
  A part of the proof of FnExactSpecializeUptoSaid (see the last file): no condition.
-/
import Derived.Test.YtjneabekegkopaaGreatSpeB
import Derived.Test.YtjneabekegkopaaGreatProg
import Derived.RangeFuncNested
import Derived.RangeFuncBound
import Derived.RangeFuncCalls
import Derived.RangeFuncLeaves
import Derived.Shelf.Abstract
import Derived.Shelf.RegionOpen
import Derived.WalkKit
import Derived.OwnWalkIn
import Derived.TacticsInMore
import Derived.LoopNIn
import Derived.LoopIn
set_option linter.all false
set_option linter.unusedVariables false
set_option linter.unusedSimpArgs false
set_option linter.unusedSectionVars false
set_option maxRecDepth 10000
set_option maxHeartbeats 4000000
section
namespace Go.Abs
mutual
def spS (ds:List Decl) (m:Nat):Step→Step
 | .mk op num into args kids=>.mk op num into args (spKs ds m op num args kids 0)
def spKs (ds:List Decl) (m:Nat) (op num:Int) (args:List Int):List Block→Nat→List Block
 | [],_=>[]
 | b::r,k=>(if op=8 then apA (spB ds (m+(Z4z ds num k).length) b) (gI args 0) (Z4z ds num k) m else spB ds m b)::spKs ds m op num args r (k+1)
def spSs (ds:List Decl) (m:Nat):List Step→List Step
 | []=>[]
 | s::r=>spS ds m s::spSs ds (if Z0q s.op=true then m else m+1) r
def spB (ds:List Decl) (m:Nat):Block→Block
 | .mk steps result=>.mk (spSs ds m steps) result
end
def spK (ds:List Decl) (m:Nat) (op num:Int) (args:List Int) (k:Nat) (b:Block):Block:=if op=8 then apA (spB ds (m+(Z4z ds num k).length) b) (gI args 0) (Z4z ds num k) m else spB ds m b
theorem Zn2 (ds:List Decl) (m:Nat) (s:Step):spS ds m s=.mk s.op s.num s.into s.args (spKs ds m s.op s.num s.args s.kids 0):=by cases s;rw [spS];rfl
theorem Zjg (ds:List Decl) (m:Nat) (b:Block):spB ds m b=.mk (spSs ds m b.steps) b.result:=by cases b;rw [spB];rfl
section
variable {ds:List Decl} {m:Nat}
theorem Z04i {xs acc r:List Step} {k:Nat} {s:Step} (h:xs[k]? = some s) (ha:acc++spSs ds m (xs.drop k)=r) :
  (acc++[.mk s.op s.num s.into s.args (spKs ds m s.op s.num s.args s.kids 0)])++spSs ds (if Z0q s.op=true then m else m+1) (xs.drop (k+1))=r:=by
 rw [Z7 h,spSs,Zn2] at ha
 rw [←ha];simp
theorem Z001 {xs acc r:List Step} {k:Nat} (h:xs.length≤k) (ha:acc++spSs ds m (xs.drop k)=r):acc=r:=by
 rw [Zs h,spSs,List.append_nil] at ha;exact ha
theorem Zn1 {op num:Int} {args:List Int} {bs acc r:List Block} {k:Nat} {b:Block} (h:bs[k]? = some b) (ha:acc++spKs ds m op num args (bs.drop k) k=r) :
  (acc++[spK ds m op num args k b])++spKs ds m op num args (bs.drop (k+1)) (k+1)=r:=by
 rw [Z7 h,spKs] at ha
 rw [←ha,spK];simp
theorem Zwj {op num:Int} {args:List Int} {bs acc r:List Block} {k j:Nat} (h:bs.length≤k) (ha:acc++spKs ds m op num args (bs.drop k) j=r):acc=r:=by
 rw [Zs h,spKs,List.append_nil] at ha;exact ha
end
mutual
def wS (ds:List Decl):Step→Prop
 | .mk op num into args kids=>(Zw op=!Z0q op)∧(Z0q op=true→num=0∧into=0∧kids=[]∧∃a,args=[a])∧(op=8→(∃a,args=[a])∧kids.length=(Zb ds num).length)∧wBs ds kids
def wBs (ds:List Decl):List Block→Prop
 | []=>True
 | b::r=>wB ds b∧wBs ds r
def wSs (ds:List Decl):List Step→Prop
 | []=>True
 | s::r=>wS ds s∧wSs ds r
def wB (ds:List Decl):Block→Prop
 | .mk steps _=>wSs ds steps
end
section
variable {ds:List Decl}
theorem Zxb (s:Step):wS ds s↔(Zw s.op=!Z0q s.op)∧(Z0q s.op=true→s.num=0∧s.into=0∧s.kids=[]∧∃a,s.args=[a])∧(s.op=8→(∃a,s.args=[a])∧s.kids.length=(Zb ds s.num).length)∧wBs ds s.kids:=by cases s;rw [wS];rfl
theorem Zib (b:Block):wB ds b↔wSs ds b.steps:=by cases b;rw [wB];rfl
theorem Zbp:∀{xs:List Step},wSs ds xs↔∀s∈xs,wS ds s
 | []=>by simp [wSs]
 | s::r=>by rw [wSs,Zbp];simp
theorem Zxa:∀{xs:List Block},wBs ds xs↔∀s∈xs,wB ds s
 | []=>by simp [wBs]
 | s::r=>by rw [wBs,Zxa];simp
theorem Z04q {b:Block} {k:Nat} {s:Step} (h:wB ds b) (hs:b.steps[k]? = some s):wS ds s:=Zbp.1 ((Zib b).1 h) s (List.mem_of_getElem? hs)
theorem Zxc {s:Step} {k:Nat} {b:Block} (h:wS ds s) (hb:s.kids[k]? = some b):wB ds b:=Zxa.1 ((Zxb s).1 h).2.2.2 b (List.mem_of_getElem? hb)
theorem Znf {s:Step} (h:wS ds s) (hc:Z0q s.op=true):Cn s∧s.kids=[]∧∃a,s.args=[a]:=by
 obtain ⟨h1,h2,h3,a,h4⟩:=((Zxb s).1 h).2.1 hc
 refine ⟨?_,h3,a,h4⟩
 cases s with
 | mk op num into args kids=>
  simp only [Step.num,Step.into,Step.kids,Step.args] at h1 h2 h3 h4
  subst h1 h2 h3 h4
  rfl
theorem Zp3 {op v:Int} (h:op=14∨op=15∨op=16):wS ds (cntS op v):=(Zxb _).2 ⟨by show Zw op=!Z0q op;rcases h with rfl|rfl|rfl<;>rfl,fun _=>⟨rfl,rfl,rfl,v,rfl⟩,fun e=>absurd e (show op≠8 by omega),True.intro⟩
theorem Z04s {s:Step} (h:wS ds s):Zw s.op=!Z0q s.op:=((Zxb s).1 h).1
theorem Zdb {s:Step} (h:wS ds s) (h8:s.op=8):(∃a,s.args=[a])∧s.kids.length=(Zb ds s.num).length:=((Zxb s).1 h).2.2.1 h8
theorem Z031 {xs:List Step} (h:wSs ds xs):∀s∈xs,Z0q s.op=true→Cn s:=fun s hs hc=>(Znf (Zbp.1 h s hs) hc).1
theorem Z02y {xs:List Step} {x:Int} {fs:List Int} {q:Int} (h:wSs ds xs):wSs ds (apL xs x fs q):=by
 rw [apL]
 split
 ·rw [Zbp]
  intro s hs
  simp only [List.mem_append,List.mem_map,List.mem_singleton] at hs
  rcases hs with ((⟨a,_,rfl⟩|rfl)|⟨a,_,rfl⟩)|hs
  ·exact Zp3 om
  ·exact Zp3 om
  ·exact Zp3 om
  ·exact Zbp.1 h s (List.mem_of_mem_drop hs)
 ·exact h
theorem Zp2 {b:Block} {x:Int} {fs:List Int} {q:Int} (h:wB ds b):wB ds (apA b x fs q):=by
 rw [apA,Zib];exact Z02y ((Zib b).1 h)
end
section
variable {n:Normal}
theorem Zyn {us:List Int} {s:Step} (g:0≤Z9 n us s) (h:Z0q s.op=true):s.num=0∧s.into=0∧s.kids=[]:=by
 have ho:14≤s.op∧s.op≤17:=by simpa [Z0q] using h
 rw [Z40] at g
 split at g
 ·omega
 ·rename_i q
  refine ⟨Classical.byContradiction fun z=>q (.inl ⟨z,?_⟩),Classical.byContradiction fun z=>q (.inr (.inl ?_)),Classical.byContradiction fun z=>q (.inr (.inr ⟨List.length_pos_iff.2 z,by omega,by omega⟩))⟩
  ·rw [Z21];simp;omega
  ·rw [Z14,if_neg z,if_neg om];simp
mutual
theorem Z05g:∀(s:Step) {us:List Int},0≤Z9 n us s→wS n.decls s
 | .mk op num into args kids,us,g=>by
  have hf:=Z71 g
  rw [wS]
  refine ⟨Zgd g,fun hc=>?_,fun h8=>?_,?_⟩
  ·obtain ⟨h1,h2,h3⟩:=Zyn g hc
   have ho:14≤op∧op≤17:=by simpa [Z0q] using hc
   exact ⟨h1,h2,h3,hf.one (.inr (.inr ho))⟩
  ·obtain ⟨k1,k2,k3⟩:=hf.kids (.inr h8)
   refine ⟨hf.one (.inr (.inl h8)),?_⟩
   have e:Zq n.decls op num=(Zb n.decls num).map (Z1 n.decls):=by rw [Zq,if_neg om]
   have k1':kids.length=(Zq n.decls op num).length:=k1
   rw [k1',e,List.length_map]
  ·refine Z003 kids fun i b hb=>?_
   have hl:0<kids.length:=by have:=(List.getElem?_eq_some_iff.1 hb).1;omega
   obtain ⟨k1,k2,k3⟩:=hf.kids (Z01c g hl)
   have k1':kids.length=(Zq n.decls op num).length:=k1
   have hi:=(List.getElem?_eq_some_iff.1 hb).1
   obtain ⟨mk,hmk⟩:=Z8 (xs:=Zq n.decls op num) (j:=i) om
   exact ⟨_,k3 i b mk hb hmk⟩
theorem Z003:∀(bs:List Block),(∀(i:Nat) (b:Block),bs[i]? = some b→∃us,0≤Zg n us b)→wBs n.decls bs
 | [],_=>True.intro
 | b::r,h=>by
  obtain ⟨us,hu⟩:=h 0 b rfl
  exact ⟨Z04r b hu,Z003 r fun i x hx=>h (i+1) x (by simpa using hx)⟩
theorem Z004:∀(xs:List Step) {us vs:List Int},Z11 n xs us=some vs→wSs n.decls xs
 | [],_,_,_=>True.intro
 | s::r,us,vs,h=>by
  obtain ⟨g1,g2⟩:=Z8h h
  exact ⟨Z05g s g1,Z004 r g2⟩
theorem Z04r:∀(b:Block) {us:List Int},0≤Zg n us b→wB n.decls b
 | .mk steps result,us,h=>by
  obtain ⟨fvs,t0,hvs,_,_⟩:=Z73 h
  rw [wB];exact Z004 steps hvs
end
end
mutual
def Step.pz:Step→Nat
 | .mk _ _ _ args kids=>1+args.length+pzBs kids
def Block.pz:Block→Nat
 | .mk steps _=>1+pzSs steps
def pzSs:List Step→Nat
 | []=>0
 | s::r=>s.pz+pzSs r
def pzBs:List Block→Nat
 | []=>0
 | b::r=>b.pz+8+pzBs r
end
theorem Step.pz_eq (s:Step):s.pz=1+s.args.length+pzBs s.kids:=by cases s;rw [Step.pz];rfl
theorem Block.pz_eq (b:Block):b.pz=1+pzSs b.steps:=by cases b;rw [Block.pz];rfl
theorem Zct:∀xs ys:List Step,pzSs (xs++ys)=pzSs xs+pzSs ys
 | [],ys=>by simp [pzSs]
 | x::r,ys=>by rw [List.cons_append,pzSs,pzSs,Zct r ys];omega
theorem Ztp (op v:Int):(cntS op v).pz=2:=by rw [cntS,Step.pz];simp [pzBs]
theorem Zh9 (op:Int):∀l:List Int,pzSs (l.map (cntS op))=2*l.length
 | []=>by simp [pzSs]
 | x::r=>by rw [List.map_cons,pzSs,Ztp,Zh9 op r,List.length_cons];omega
theorem Z01q {l:List Step} {k:Nat} {s:Step} (h:l[k]? = some s):k+s.pz≤pzSs l:=by
 induction l generalizing k with
 | nil=>simp at h
 | cons t r ih=>
  have ht:=t.pz_eq
  cases k with
  | zero=>simp at h;subst h;simp only [pzSs];omega
  | succ k=>have:=ih (k:=k) (by simpa using h);simp only [pzSs];omega
theorem Z01p {l:List Block} {k:Nat} {b:Block} (h:l[k]? = some b):k+b.pz+8≤pzBs l:=by
 induction l generalizing k with
 | nil=>simp at h
 | cons t r ih=>
  cases k with
  | zero=>simp at h;subst h;simp only [pzBs];omega
  | succ k=>have:=ih (k:=k) (by simpa using h);simp only [pzBs];omega
theorem Z01t {b:Block} {k:Nat} {s:Step} (h:b.steps[k]? = some s):k+s.pz<b.pz:=by have:=Z01q h;have:=b.pz_eq;omega
theorem Z04a {s:Step} {k:Nat} {b:Block} (h:s.kids[k]? = some b):k+b.pz+8<s.pz:=by have:=Z01p h;have:=s.pz_eq;omega
theorem Zq5:∀xs:List Step,xs.length≤pzSs xs
 | []=>Nat.le_refl _
 | s::r=>by have:=Zq5 r;have:=s.pz_eq;rw [pzSs,List.length_cons];omega
theorem Zq4:∀xs:List Block,xs.length≤pzBs xs
 | []=>Nat.le_refl _
 | s::r=>by have:=Zq4 r;rw [pzBs,List.length_cons];omega
theorem Zq7 (b:Block):b.steps.length<b.pz:=by have:=Zq5 b.steps;have:=b.pz_eq;omega
theorem Z01r (s:Step):s.args.length<s.pz:=by have:=s.pz_eq;omega
theorem Z01s (s:Step):s.kids.length<s.pz:=by have:=Zq4 s.kids;have:=s.pz_eq;omega
mutual
theorem Step.pz_le:∀s:Step,s.pz≤9*s.sz
 | .mk _ _ _ args kids=>by have:=Zvw kids;rw [Step.pz,Step.sz];omega
theorem Block.pz_le:∀b:Block,b.pz+8≤9*b.sz
 | .mk steps _=>by have:=Zvx steps;rw [Block.pz,Block.sz];omega
theorem Zvx:∀xs:List Step,pzSs xs≤9*ssz xs
 | []=>Nat.zero_le _
 | s::r=>by have:=s.pz_le;have:=Zvx r;rw [pzSs,ssz];omega
theorem Zvw:∀xs:List Block,pzBs xs≤9*bsz xs
 | []=>Nat.zero_le _
 | s::r=>by have:=s.pz_le;have:=Zvw r;rw [pzBs,bsz];omega
end
theorem Zq6:∀xs:List Step,(∀s∈xs,2≤s.pz)→2*xs.length≤pzSs xs
 | [],_=>by simp
 | s::r,h=>by
  have h1:=Zq6 r fun t ht=>h t (List.mem_cons_of_mem _ ht)
  have h2:=h s (List.mem_cons_self ..)
  rw [pzSs,List.length_cons];omega
section
variable {ds:List Decl}
theorem Zjr {op:Int} (h:op=14∨op=15):Z0q op=true:=by rw [Z0q];simp;omega
theorem Z037 {xs:List Step} {x:Int} {fs:List Int} {q:Int} (hf:fs.length≤3) (h:wSs ds xs):pzSs (apL xs x fs q)≤pzSs xs+6:=by
 rw [apL]
 split
 ·rename_i hc
  have h1:=Zq3 (q:=q) hc.1 hf
  have h2:=Zq6 (xs.take (runF xs)) fun s hs=>by
   obtain ⟨_,_,a,ha⟩:=Znf (Zbp.1 h s (List.mem_of_mem_take hs)) (Zjr (Z8w hs))
   rw [s.pz_eq,ha];simp
  have h3:pzSs xs=pzSs (xs.take (runF xs))+pzSs (xs.drop (runF xs)):=by rw [←Zct,List.take_append_drop]
  have h4:=Zbf xs
  rw [List.length_take] at h2
  rw [Zct,Zct,Zct,Zh9,Zh9,pzSs,pzSs,Ztp]
  omega
 ·omega
theorem Zbw {b:Block} {x:Int} {fs:List Int} {q:Int} (hf:fs.length≤3) (h:wB ds b):(apA b x fs q).pz≤b.pz+6:=by
 have:=Z037 (x:=x) (q:=q) hf ((Zib b).1 h)
 rw [apA,Block.pz,b.pz_eq];omega
theorem Z04j {xs:List Step}:∀{m:Nat},wSs ds xs→∀s∈spSs ds m xs,s.op=14∨s.op=15→2≤s.sz:=by
 induction xs with
 | nil=>intro m _ s hs;simp [spSs] at hs
 | cons t r ih=>
  intro m h s hs ho
  rw [spSs] at hs
  rcases List.mem_cons.1 hs with rfl|hs
  ·rw [Zn2] at ho ⊢
   obtain ⟨_,_,a,ha⟩:=Znf h.1 (Zjr ho)
   rw [Step.sz,ha];simp
  ·exact ih h.2 s hs ho
variable (hd:DOk ds)
include hd
mutual
theorem Z04g:∀(s:Step) {m:Nat},wS ds s→(spS ds m s).sz≤s.pz
 | .mk op num into args kids,m,h=>by
  have:=Zwk kids (m:=m) (op:=op) (num:=num) (args:=args) (k:=0) h.2.2.2
  rw [spS,Step.sz,Step.pz];omega
theorem Zwk:∀(bs:List Block) {m:Nat} {op num:Int} {args:List Int} {k:Nat},wBs ds bs→bsz (spKs ds m op num args bs k)≤pzBs bs
 | [],_,_,_,_,_,_=>Nat.le_refl _
 | b::r,m,op,num,args,k,h=>by
  have h2:=Zwk r (m:=m) (op:=op) (num:=num) (args:=args) (k:=k+1) h.2
  rw [spKs,bsz,pzBs]
  split
  ·have h1:=Zn0 b (m:=m+(Z4z ds num k).length) h.1
   have h3:=Z038 (xs:=(spB ds (m+(Z4z ds num k).length) b).steps) (x:=gI args 0) (q:=(m:Int)) (Z8m hd num k) (by rw [Zjg];exact Z04j ((Zib b).1 h.1))
   rw [apA,Block.sz]
   rw [Block.sz_eq] at h1
   omega
  ·have h1:=Zn0 b (m:=m) h.1
   omega
theorem Zwl:∀(xs:List Step) {m:Nat},wSs ds xs→ssz (spSs ds m xs)≤pzSs xs
 | [],_,_=>Nat.le_refl _
 | s::r,m,h=>by
  have h1:=Z04g s (m:=m) h.1
  have h2:=Zwl r (m:=if Z0q s.op=true then m else m+1) h.2
  rw [spSs,ssz,pzSs];omega
theorem Zn0:∀(b:Block) {m:Nat},wB ds b→(spB ds m b).sz≤b.pz
 | .mk steps result,m,h=>by
  have:=Zwl steps (m:=m) h
  rw [spB,Block.sz,Block.pz];omega
end
end
section
variable {ds:List Decl} {m:Nat}
theorem Z02d {s:Step} (h:s.kids=[]):spS ds m s=s:=by
 rw [Zn2,h,spKs]
 cases s with
 | mk op num into args kids=>simp only [Step.kids] at h;subst h;rfl
theorem Zkv {rest:List Step}:∀{pre:List Step},(∀s∈pre,Z0q s.op=true∧s.kids=[])→spSs ds m (pre++rest)=pre++spSs ds m rest
 | [],_=>rfl
 | s::r,h=>by
  obtain ⟨h1,h2⟩:=h s (List.mem_cons_self ..)
  rw [List.cons_append,spSs,Z02d h2,if_pos h1,Zkv fun t ht=>h t (List.mem_cons_of_mem _ ht),List.cons_append]
theorem Zqn {xs:List Step} (h:wSs ds xs):spSs ds m xs=xs.take (runF xs)++spSs ds m (xs.drop (runF xs)):=by
 have:=Zkv (ds:=ds) (m:=m) (rest:=xs.drop (runF xs)) (pre:=xs.take (runF xs)) fun s hs=>by
  have h1:=Zjr (Z8w hs)
  exact ⟨h1,(Znf (Zbp.1 h s (List.mem_of_mem_take hs)) h1).2.1⟩
 rw [List.take_append_drop] at this
 exact this
theorem Zor:∀(xs:List Step) {m:Nat},runF (spSs ds m xs)=runF xs
 | [],_=>rfl
 | s::r,m=>by
  have e:(spS ds m s).op=s.op:=by rw [Zn2];rfl
  rw [spSs,runF,runF,e,Zor r]
theorem Z02f {xs:List Step} {x:Int} {fs:List Int} {q:Int} (h:wSs ds xs):spSs ds m (apL xs x fs q)=apL (spSs ds m xs) x fs q:=by
 have hl:(xs.take (runF xs)).length=runF xs:=by rw [List.length_take];have:=Zbf xs;omega
 have ht:(spSs ds m xs).take (runF xs)=xs.take (runF xs):=by
  rw [Zqn h,List.take_append_of_le_length om,List.take_take,Nat.min_self]
 have hr:(spSs ds m xs).drop (runF xs)=spSs ds m (xs.drop (runF xs)):=by
  rw [Zqn h,List.drop_append_of_le_length om,List.drop_take,Nat.sub_self];rfl
 have e:apL (spSs ds m xs) x fs q=if x∈Z1d 15 (xs.take (runF xs))∧fs.length≠0 then (opnP xs x fs q).1.map (cntS 14)++[cntS 16 x]++(opnP xs x fs q).2.map (cntS 15)++spSs ds m (xs.drop (runF xs)) else spSs ds m xs:=by
  rw [apL,Zor,ht,hr,opnP,Zor,ht];rfl
 rw [e,apL]
 split
 ·refine Zkv fun s hs=>?_
  simp only [List.mem_append,List.mem_map,List.mem_singleton] at hs
  rcases hs with (⟨a,_,rfl⟩|rfl)|⟨a,_,rfl⟩<;>exact ⟨rfl,rfl⟩
 ·rfl
theorem Zku {b:Block} {x:Int} {fs:List Int} {q:Int} (h:wB ds b):spB ds m (apA b x fs q)=apA (spB ds m b) x fs q:=by
 rw [apA,spB,Z02f ((Zib b).1 h),apA,Zjg];rfl
end
def spR (ds:List Decl) (r:Routine):Routine:=⟨r.params,r.lent,r.result,spB ds r.params.length r.body⟩
def spN (n:Normal):Normal:=⟨n.decls,n.routines.map (spR n.decls)⟩
def Z1k (n:Normal):Normal × Bool:=if Z2j n=true then (if Zf0 (spN n)=true then (spN n,true) else (noN,false)) else (noN,false)
theorem Zl7 {n:Normal} (hbt:∀r∈n.routines,0≤Zg n r.params r.body):∀r∈n.routines,wB n.decls r.body:=fun r hr=>Z04r r.body (hbt r hr)
theorem Zqm {n:Normal} (hn:NOk n) (hz:NSz n) (hbt:∀r∈n.routines,0≤Zg n r.params r.body):∀r∈(spN n).routines,r.body.sz≤1000000000:=by
 intro r hr
 obtain ⟨q,hq,rfl⟩:=List.mem_map.1 hr
 have h1:=Zn0 hn.decls q.body (m:=q.params.length) (Zl7 hbt q hq)
 have h2:=hz.body q hq
 have h3:=q.body.pz_le
 show (spB n.decls q.params.length q.body).sz≤1000000000
 omega
end Go.Abs
namespace Go.Abs
theorem Zmt {xs:List Step} {k:Nat} {s:Step} {r:Nat} (h:xs[k]? = some s) (hs:s.op=14∨s.op=15) (ha:k+runF (xs.drop k)=r):k+1+runF (xs.drop (k+1))=r:=by
 rw [Z7 h,runF,if_pos hs] at ha;omega
theorem Zmu {xs:List Step} {k:Nat} {s:Step} {r:Nat} (h:xs[k]? = some s) (hs:¬(s.op=14∨s.op=15)) (ha:k+runF (xs.drop k)=r):k=r:=by
 rw [Z7 h,runF,if_neg hs] at ha;omega
theorem Zqf {xs:List Step} {k:Nat} {r:Nat} (h:xs.length≤k) (ha:k+runF (xs.drop k)=r):k=r:=by
 rw [Zs h,runF] at ha;omega
theorem Zta {op:Int} {xs:List Step} {acc r:List Int} {k:Nat} {s:Step} (h:xs[k]? = some s) (hs:s.op=op) (ha:acc++Z1d op (xs.drop k)=r):(acc++[gI s.args 0])++Z1d op (xs.drop (k+1))=r:=by
 rw [Z7 h,Z1d,if_pos hs] at ha;rw [←ha];simp
theorem Zxl {op:Int} {xs:List Step} {acc r:List Int} {k:Nat} {s:Step} (h:xs[k]? = some s) (hs:¬s.op=op) (ha:acc++Z1d op (xs.drop k)=r):acc++Z1d op (xs.drop (k+1))=r:=by
 rw [Z7 h,Z1d,if_neg hs] at ha;exact ha
theorem Zt9 {op:Int} {xs:List Step} {acc r:List Int} {k:Nat} (h:xs.length≤k) (ha:acc++Z1d op (xs.drop k)=r):acc=r:=by
 rw [Zs h,Z1d,List.append_nil] at ha;exact ha
theorem Z050 {xs acc r:List Int} {y:Int} {k:Nat} {x:Int} {d:Bool} (h:xs[k]? = some x) (ha:acc++(if d=true then xs.drop k else (xs.drop k).erase y)=r) :
  (if x=y∧¬d=true then acc else acc++[x])++(if ((x==y&&!d)||d)=true then xs.drop (k+1) else (xs.drop (k+1)).erase y)=r:=by
 rw [Z7 h] at ha
 rw [←ha]
 by_cases hd:d=true
 ·simp [hd]
 ·by_cases hx:x=y
  ·simp [hd,hx]
  ·rw [if_neg (fun z=>hx z.1),if_neg hd,List.erase_cons_tail (by simpa using hx)]
   simp [hd,hx]
theorem Z03t {xs acc r:List Int} {y:Int} {k:Nat} {d:Bool} (h:xs.length≤k) (ha:acc++(if d=true then xs.drop k else (xs.drop k).erase y)=r):acc=r:=by
 rw [Zs h] at ha;simpa using ha
section
variable {fs D R:List Int} {q k:Nat} {f:Int} {r:List Int × List Int}
theorem Z048 (h:fs[k]? = some f) (h0:f≠0) (hm:((q+k:Nat):Int)∈D) (ha:opnG (fs.drop k) (q+k) D R=r):opnG (fs.drop (k+1)) (q+((k+1:Nat):Int)) (D.erase ((q+k:Nat):Int)) R=r:=by
 rw [Z7 h,opnG,if_pos ⟨h0,by rw [←Int.natCast_add];exact hm⟩,←Int.natCast_add] at ha
 rw [←ha];congr 1
theorem Z01n (h:fs[k]? = some f) (h0:f≠0) (hm:¬((q+k:Nat):Int)∈D) (ha:opnG (fs.drop k) (q+k) D R=r):opnG (fs.drop (k+1)) (q+((k+1:Nat):Int)) D (R++[((q+k:Nat):Int)])=r:=by
 rw [Z7 h,opnG,if_neg (fun z=>hm (by rw [Int.natCast_add];exact z.2)),if_pos h0,←Int.natCast_add] at ha
 rw [←ha];congr 1
theorem Zyv (h:fs[k]? = some f) (h0:¬f≠0) (ha:opnG (fs.drop k) (q+k) D R=r):opnG (fs.drop (k+1)) (q+((k+1:Nat):Int)) D R=r:=by
 rw [Z7 h,opnG,if_neg (fun z=>h0 z.1),if_neg h0] at ha
 rw [←ha];congr 1
theorem Z01m (h:fs.length≤k) (ha:opnG (fs.drop k) (q+k) D R=r):r=(D,R):=by
 rw [Zs h,opnG] at ha;exact ha.symm
end
theorem Z009 {xs:List Step} {x:Int} {fs:List Int} {q:Int} {D R:List Int} (h1:x∈Z1d 15 (xs.take (runF xs))) (h2:fs.length≠0) (hr:opnP xs x fs q=(D,R)):D.map (cntS 14)++[cntS 16 x]++R.map (cntS 15)++xs.drop (runF xs)=apL xs x fs q:=by
 rw [apL,if_pos ⟨h1,h2⟩,hr]
theorem Z02e {ds:List Decl} {xs:List Step}:∀{m:Nat},wSs ds xs→∀s∈spSs ds m xs,Z0q s.op=true→∃a,s.args=[a]:=by
 induction xs with
 | nil=>intro m _ s hs;simp [spSs] at hs
 | cons t r ih=>
  intro m h s hs ho
  rw [spSs] at hs
  rcases List.mem_cons.1 hs with rfl|hs
  ·rw [Zn2] at ho ⊢
   exact (Znf h.1 ho).2.2
  ·exact ih h.2 s hs ho
end Go.Abs
end
section
namespace Go.Abs
theorem Zco {op m:Int}:∀{xs:List Step},m∈Z1d op xs↔∃s∈xs,s.op=op∧gI s.args 0=m
 | []=>by simp [Z1d]
 | s::r=>by
  rw [Z1d]
  by_cases h:s.op=op
  ·rw [if_pos h,List.mem_cons,Zco]
   constructor
   ·rintro (rfl|⟨t,ht,h1,h2⟩)
    ·exact ⟨s,List.mem_cons_self ..,h,rfl⟩
    ·exact ⟨t,List.mem_cons_of_mem _ ht,h1,h2⟩
   ·rintro ⟨t,ht,h1,h2⟩
    rcases List.mem_cons.1 ht with rfl|ht
    ·exact .inl h2.symm
    ·exact .inr ⟨t,ht,h1,h2⟩
  ·rw [if_neg h,Zco]
   constructor
   ·rintro ⟨t,ht,h1⟩;exact ⟨t,List.mem_cons_of_mem _ ht,h1⟩
   ·rintro ⟨t,ht,h1,h2⟩
    rcases List.mem_cons.1 ht with rfl|ht
    ·exact absurd h1 h
    ·exact ⟨t,ht,h1,h2⟩
theorem Zsx {s:Step} (h:Cn s):∃a,s.args=[a]:=⟨gI s.args 0,by have:=congrArg Step.args h;exact this⟩
theorem Zr1 {op m:Int} {xs:List Step} {k:Nat} (h:∀s∈xs.take k,¬(s.op=op∧gI s.args 0=m)) (hk:xs.length≤k):¬m∈Z1d op xs:=by
 rw [List.take_of_length_le hk] at h
 intro z
 obtain ⟨s,hs,h1,h2⟩:=Zco.1 z
 exact h s hs ⟨h1,h2⟩
theorem Zzj {α:Type} {xs:List α} {k:Nat} {x:α} {p:α→Prop} (hx:xs[k]? = some x) (h:∀s∈xs.take k,p s) (hp:p x):∀s∈xs.take (k+1),p s:=by
 rw [Z1y hx]
 intro s hs
 rcases List.mem_append.1 hs with hs|hs
 ·exact h s hs
 ·rw [List.mem_singleton.1 hs];exact hp
theorem Z043 {xs acc r:List Int} {v:Int} {k:Nat} {x:Int} (h:xs[k]? = some x) (ha:acc++neF (xs.drop k) v=r):(if (x != v)=true then acc++[x] else acc)++neF (xs.drop (k+1)) v=r:=by
 rw [Z7 h,neF] at ha
 rw [←ha,neF]
 by_cases hx:x=v
 ·simp [hx]
 ·simp [hx]
theorem Z01h {xs acc r:List Int} {v:Int} {k:Nat} (h:xs.length≤k) (ha:acc++neF (xs.drop k) v=r):acc=r:=by
 rw [Zs h,neF,List.filter_nil,List.append_nil] at ha;exact ha
section
variable {xs:List Int} {v:Int} {lo hi:Nat}
theorem Z03c {m:Nat} {y:Int} (hs:xs.Pairwise (·<·)) (hy:xs[m]? = some y) (hv:y<v):∀(j:Nat) (x:Int),j<m+1→xs[j]? = some x→x<v:=by
 intro j x hj hx
 rcases Nat.lt_or_ge j m with h|h
 ·have hm:=(List.getElem?_eq_some_iff.1 hy).1
  have:=List.pairwise_iff_getElem.1 hs j m om hm h
  rw [List.getElem?_eq_getElem om] at hx
  rw [List.getElem?_eq_getElem hm] at hy
  have e1:=Option.some.inj hx
  have e2:=Option.some.inj hy
  omega
 ·have:j=m:=by omega
  subst this;rw [hx] at hy;cases hy;exact hv
theorem Z00j {m:Nat} {y:Int} (hs:xs.Pairwise (·<·)) (hy:xs[m]? = some y) (hv:¬y<v):∀(j:Nat) (x:Int),m≤j→xs[j]? = some x→v≤x:=by
 intro j x hj hx
 rcases Nat.lt_or_ge m j with h|h
 ·have hm:=(List.getElem?_eq_some_iff.1 hx).1
  have:=List.pairwise_iff_getElem.1 hs m j om hm h
  rw [List.getElem?_eq_getElem hm] at hx
  rw [List.getElem?_eq_getElem om] at hy
  have e1:=Option.some.inj hx
  have e2:=Option.some.inj hy
  omega
 ·have:j=m:=by omega
  subst this;rw [hx] at hy;cases hy;omega
theorem Z04v (hs:xs.Pairwise (·<·)) (h1:∀(j:Nat) (x:Int),j<lo→xs[j]? = some x→x<v) (h2:∀(j:Nat) (x:Int),lo≤j→xs[j]? = some x→v≤x) {y:Int} (hy:xs[lo]? = some y) (hn:y≠v):¬v∈xs:=by
 intro hv
 obtain ⟨j,hj⟩:=List.getElem?_of_mem hv
 rcases Nat.lt_or_ge j lo with h|h
 ·have:=h1 j v h hj;omega
 ·have hm:=h2 lo y (Nat.le_refl _) hy
  rcases Nat.lt_or_ge lo j with h3|h3
  ·have hjl:=(List.getElem?_eq_some_iff.1 hj).1
   have:=List.pairwise_iff_getElem.1 hs lo j om hjl h3
   rw [List.getElem?_eq_getElem hjl] at hj
   rw [List.getElem?_eq_getElem om] at hy
   have e1:=Option.some.inj hj
   have e2:=Option.some.inj hy
   omega
  ·have:j=lo:=by omega
   subst this;rw [hj] at hy;cases hy;exact hn rfl
theorem Z03d (h1:∀(j:Nat) (x:Int),j<lo→xs[j]? = some x→x<v) (hl:xs.length≤lo):¬v∈xs:=by
 intro hv
 obtain ⟨j,hj⟩:=List.getElem?_of_mem hv
 have:=h1 j v (by have:=(List.getElem?_eq_some_iff.1 hj).1;omega) hj
 omega
end
section
variable {m:Int} {xs du dr:List Step} {lf:List Int} {d:Bool} {k:Nat} {s:Step} {W:List Step × List Step × List Int}
def spI (m:Int) (du dr:List Step) (xs:List Step) (lf:List Int) (d:Bool):List Step × List Step × List Int:=(du++(spW m xs lf d).1,dr++(spW m xs lf d).2.1,(spW m xs lf d).2.2)
theorem Z04f (h:xs[k]? = some s) (h1:s.op=14) (h2:gI s.args 0∈lf) (ha:spI m du dr (xs.drop k) lf d=W):spI m du dr (xs.drop (k+1)) (neF lf (gI s.args 0)) d=W:=by
 rw [spI,Z7 h,spW,if_pos ⟨h1,h2⟩] at ha;exact ha
theorem Z02b (h:xs[k]? = some s) (h1:s.op=14) (h2:¬gI s.args 0∈lf) (ha:spI m du dr (xs.drop k) lf d=W):spI m (du++[s]) dr (xs.drop (k+1)) lf d=W:=by
 rw [spI,Z7 h,spW,if_neg (fun z=>h2 z.2),if_pos h1] at ha
 rw [←ha,spI,List.append_assoc];rfl
theorem Zz8 (h:xs[k]? = some s) (h1:¬s.op=14) (h2:(s.op=15∧gI s.args 0=m)∧¬d=true) (ha:spI m du dr (xs.drop k) lf d=W):spI m du dr (xs.drop (k+1)) lf true=W:=by
 rw [spI,Z7 h,spW,if_neg (fun z=>h1 z.1),if_neg h1,if_pos h2] at ha;exact ha
theorem Zz9 (h:xs[k]? = some s) (h1:¬s.op=14) (h2:¬((s.op=15∧gI s.args 0=m)∧¬d=true)) (ha:spI m du dr (xs.drop k) lf d=W):spI m du (dr++[s]) (xs.drop (k+1)) lf d=W:=by
 rw [spI,Z7 h,spW,if_neg (fun z=>h1 z.1),if_neg h1,if_neg h2] at ha
 rw [←ha,spI,List.append_assoc];rfl
theorem Z02c (h:xs.length≤k) (ha:spI m du dr (xs.drop k) lf d=W):W=(du,dr,lf):=by
 rw [spI,Zs h,spW,List.append_nil,List.append_nil] at ha;exact ha.symm
end
theorem Z01i (xs:List Int) (v:Int):(neF xs v).length≤xs.length:=List.length_filter_le _ _
end Go.Abs
end
section
namespace Go.Abs
theorem Zw8 {n:Normal} (hd:DOk n.decls):∀rs:List Routine,(∀r∈rs,wB n.decls r.body)→rtsS (rs.map (spR n.decls))≤9*rtsS rs
 | [],_=>by simp [rtsS]
 | r::rs,h=>by
  have h1:=Zw8 hd rs fun q hq=>h q (List.mem_cons_of_mem _ hq)
  have h2:=Zn0 hd r.body (m:=r.params.length) (h r (List.mem_cons_self ..))
  have h5:=r.body.pz_le
  rw [Block.sz_cst] at h2 h5
  rw [List.map_cons,rtsS,rtsS]
  have h3:rtC (spR n.decls r)=r.params.length+(r.lent.length+(spB n.decls r.params.length r.body).cst):=rfl
  have h4:rtC r=r.params.length+(r.lent.length+r.body.cst):=rfl
  omega
theorem Z05d {n:Normal} (hn:NOk n) (hw:∀r∈n.routines,wB n.decls r.body):Z4k (spN n)≤9*Z4k n:=by
 have h:=Zw8 hn.decls n.routines hw
 unfold Z4k rtsC spN
 simp only [List.length_map]
 omega
theorem Z02h {n:Normal} (hz:NSz n):Z4k (Z1k n).1≤9*Z4k n:=by
 unfold Z1k
 split
 ·rename_i hb
  obtain ⟨h1,_,h3⟩:=Z7t hz hb
  split
  ·exact Z05d h1 (Zl7 h3)
  ·exact Nat.zero_le _
 ·exact Nat.zero_le _
end Go.Abs
end
section
namespace Go.Abs
def GB (B:List Nat):Prot:=fun b _=>b∈B
def HB (B:List Nat) (v:Value):Prop:=∀g,v.ownBlock=some g→g∈B
def Z3m (w:World) (B:List Nat) (ts:List (Value × Nat)):Prop:=∀p∈ts,Zbs w p.1 p.2∧HB B p.1
theorem Z3m.left {w:World} {B:List Nat} {a b:List (Value × Nat)} (h:Z3m w B (a++b)):Z3m w B a:=fun p hp=>h p (List.mem_append.2 (.inl hp))
theorem Z3m.right {w:World} {B:List Nat} {a b:List (Value × Nat)} (h:Z3m w B (a++b)):Z3m w B b:=fun p hp=>h p (List.mem_append.2 (.inr hp))
theorem Z3m.head {w:World} {B:List Nat} {v:Value} {k:Nat} {b:List (Value × Nat)} (h:Z3m w B ((v,k)::b)):Zbs w v k∧HB B v:=h _ (List.mem_cons_self ..)
theorem Z3m.tail {w:World} {B:List Nat} {p:Value × Nat} {b:List (Value × Nat)} (h:Z3m w B (p::b)):Z3m w B b:=fun q hq=>h q (List.mem_cons_of_mem _ hq)
section
variable {w:World} {G:Prot} {B:List Nat}
def InB (w:World) (G:Prot) (B:List Nat) (x:AV):Prop:=∀u,RV w G x u→RV w (GB B) x u
def InL (w:World) (G:Prot) (B:List Nat) (ls:List AV):Prop:=∀x∈ls,InB w G B x
theorem Zdq:InL w G B []:=fun _ h=>by cases h
theorem Z3o {x:AV} {l:List AV} (h:InB w G B x) (t:InL w G B l):InL w G B (x::l):=fun y hy=>by
 rcases List.mem_cons.1 hy with rfl|hy
 ·exact h
 ·exact t y hy
theorem Zm0 (z:Int):InB w G B (.i z):=fun _ h=>by cases h;exact .val
theorem Zqa {b:Nat} (hb:b∈B):∀{o:Nat} {ls:List AV},InL w G B ls→RMem w G b o ls→RMem w (GB B) b o ls
 | _,_,_,.nil=>.nil
 | _,_,hi,.cons hc _ h t=>.cons hc hb (hi _ (List.mem_cons_self ..) _ h) (Zqa hb (fun x hx=>hi x (List.mem_cons_of_mem _ hx)) t)
theorem Zq9 {b k:Nat} (hb:b∈B):∀{o:Nat} {es:List AV},(∀y∈es,InL w G B y.leaves)→REls w G k b o es→REls w (GB B) k b o es
 | _,_,_,.nil=>.nil
 | _,_,hi,.cons hl h t=>.cons hl (Zqa hb (hi _ (List.mem_cons_self ..)) h) (Zq9 hb (fun x hx=>hi x (List.mem_cons_of_mem _ hx)) t)
theorem Zix {es:List AV} {v:Value} (hb:HB B v) (hi:∀y∈es,InL w G B y.leaves):InB w G B (.sl es (some v)):=by
 intro u h
 have e:=h.header
 subst e
 cases h with
 | nil hq=>exact .nil hq
 | sl hq hc hm=>exact .sl hq hc (Zq9 (hb _ (by rfl)) hi hm)
theorem Zfl {xs:List Int} {v:Value} (hb:HB B v):InB w G B (oInt xs v):=Zix hb fun y hy=>by
 simp only [Z6,List.mem_map] at hy
 obtain ⟨z,_,rfl⟩:=hy
 exact Z3o (Zm0 z) Zdq
theorem Z014 {ls:List AV} (hi:InL w G B ls):InB w G B (.agg ls):=by
 intro u h
 cases h with
 | agg hc=>exact .agg (hc.clean (InB w G B) (fun x v hp hx=>hp v hx) hi)
theorem Z015 {c:HCon} (h:Z3m w B (Z41 c)):InL w G B (Zm8 c):=Z3o (Zfl h.head.2) Zdq
theorem Zuu {cs:List HCon} (h:Z3m w B (Z19 cs)):∀y∈Z2n cs,InL w G B y.leaves:=by
 intro y hy
 simp only [Z2n,List.mem_map] at hy
 obtain ⟨c,hc,rfl⟩:=hy
 exact Z015 fun p hp=>h p (List.mem_flatMap.2 ⟨c,hc,hp⟩)
theorem Zyc {d:HDecl} (h:Z3m w B (Z2h d)):InL w G B (Zeo d):=
 Z3o (Zm0 _) (Z3o (Zm0 _) (Z3o (Zix (Z3m.right h).head.2 (Zuu (Z3m.left h))) Zdq))
theorem Zuv {ds:List HDecl} (h:Z3m w B (Z0i ds)):∀y∈Z1a ds,InL w G B y.leaves:=by
 intro y hy
 simp only [Z1a,List.mem_map] at hy
 obtain ⟨c,hc,rfl⟩:=hy
 exact Zyc fun p hp=>h p (List.mem_flatMap.2 ⟨c,hc,hp⟩)
mutual
theorem Zyd:∀(s:HStep),Z3m w B (Z1u s)→InL w G B (Zep s)
 | .mk op num into args av kids kv,h=>by
  rw [Z1u] at h
  exact Z3o (Zm0 _) (Z3o (Zm0 _) (Z3o (Zm0 _) (Z3o (Zfl h.head.2) (Z3o (Zix h.tail.right.head.2 (Ziy kids h.tail.left)) Zdq))))
theorem Zm1:∀(s:HBlock),Z3m w B (Z0b s)→InL w G B (Z7b s)
 | .mk steps sv result,h=>by
  rw [Z0b] at h
  exact Z3o (Zix h.right.head.2 (Zm3 steps h.left)) (Z3o (Zm0 _) Zdq)
theorem Zm3:∀(xs:List HStep),Z3m w B (Z05 xs)→∀y∈Z2b xs,InL w G B y.leaves
 | [],_=>fun y hy=>by rw [Z2b] at hy;cases hy
 | s::r,h=>fun y hy=>by
  rw [Z2b] at hy
  rw [Z05] at h
  rcases List.mem_cons.1 hy with rfl|hy
  ·rw [Zc4];exact Zyd s h.left
  ·exact Zm3 r h.right y hy
theorem Ziy:∀(xs:List HBlock),Z3m w B (Zp xs)→∀y∈Z16 xs,InL w G B y.leaves
 | [],_=>fun y hy=>by rw [Z16] at hy;cases hy
 | s::r,h=>fun y hy=>by
  rw [Z16] at hy
  rw [Zp] at h
  rcases List.mem_cons.1 hy with rfl|hy
  ·rw [Za7];exact Zm1 s h.left
  ·exact Ziy r h.right y hy
end
theorem Zof {r:HRoutine} (h:Z3m w B (Z0m r)):InL w G B (Z6a r):=by
 have h2:Z3m w B (Z0b r.body):=h.tail.tail
 have hb:=Zm1 (G:=G) r.body h2
 exact Z3o (Zfl h.head.2) (Z3o (Zfl h.tail.head.2) (Z3o (Zm0 _) hb))
theorem Zm2 {rs:List HRoutine} (h:Z3m w B (Zl rs)):∀y∈Z0u rs,InL w G B y.leaves:=by
 intro y hy
 simp only [Z0u,List.mem_map] at hy
 obtain ⟨c,hc,rfl⟩:=hy
 exact Zof fun p hp=>h p (List.mem_flatMap.2 ⟨c,hc,hp⟩)
theorem Zrs {y:HNormal} (h:Z3m w B (Z00 y)):InB w G B (Z22 y):=
 Z014 (Z3o (Zix h.right.head.2 (Zuv h.left)) (Z3o (Zix h.right.tail.right.head.2 (Zm2 h.right.tail.left)) Zdq))
end
def Z7u (w:World):Mem:=fun b o=>w.cell? ⟨b,o,none⟩
section
variable {w:World} {G:Prot} {B:List Nat}
theorem rm_i {g o:Nat} {z:Int} {xs:List AV} (h:RMem w G g o (.i z::xs)):isI (Z7u w) (g,o)∧RMem w G g (o+1) xs:=by
 cases h with
 | cons hc _ hx t=>exact ⟨⟨z,by have:=hx.val_inv;subst this;exact hc⟩,t⟩
theorem Zow {es:List AV} {v u:Value} {k:Nat} (h:RV w G (.sl es (some v)) u) (ht:Zbs w v k) (hb:HB B v):HdOk B v es.length∧∃kk,REls w G kk (vblk v) 0 es:=by
 have e:=h.header
 subst e
 rcases ht with rfl|⟨g,len,cap,cur,e,rfl,h1,h2,h3⟩
 ·cases h with
  | nil _=>exact ⟨.inl ⟨rfl,rfl⟩,0,.nil⟩
 ·cases h with
  | nil _=>exact ⟨.inr ⟨g,cap,rfl,hb g rfl⟩,0,.nil⟩
  | sl _ hc hm=>exact ⟨.inr ⟨g,cap,rfl,hb g rfl⟩,_,hm⟩
theorem Zw2 {g o:Nat} {es:List AV} {v:Value} {k:Nat} {xs:List AV} (h:RMem w G g o (.sl es (some v)::xs)) (ht:Zbs w v k) (hb:HB B v) :
  skH (Z7u w) B g o v es.length∧(∃kk,REls w G kk (vblk v) 0 es)∧RMem w G g (o+1) xs:=by
 cases h with
 | cons hc _ hx t=>
  have e:=hx.header
  subst e
  obtain ⟨a,b⟩:=Zow hx ht hb
  exact ⟨⟨hc,a⟩,b,t⟩
theorem Z028 {g kk:Nat} {xs:List Int} (h:REls w G kk g 0 (Z6 xs)):skI (Z7u w) g xs.length:=by
 intro i hi
 have hx:(Z6 xs)[i]? = some (.i xs[i]):=by simp [Z6,hi]
 have hk:kk=1:=(h.len _ (List.mem_of_getElem? hx)).symm
 subst hk
 have:=h.get i _ hx
 rw [Nat.zero_add,Nat.mul_one] at this
 exact (rm_i this).1
theorem Zql {g o:Nat} {v:Value} {xs:List Int} {k:Nat} {ls:List AV} (h:RMem w G g o (oInt xs v::ls)) (ht:Zbs w v k∧HB B v) :
  (skH (Z7u w) B g o v xs.length∧skI (Z7u w) (vblk v) xs.length)∧RMem w G g (o+1) ls:=by
 obtain ⟨a,⟨kk,b⟩,c⟩:=Zw2 h ht.1 ht.2
 rw [Z5] at a
 exact ⟨⟨a,Z028 b⟩,c⟩
theorem Z04e {g o:Nat} {c:HCon} (h:RMem w G g o (Zm8 c)) (ha:Z3m w B (Z41 c)):Z026 (Z7u w) B g o c:=(Zql h ha.head).1
theorem Zwh {g kk:Nat}:∀{o:Nat} {cs:List HCon},REls w G kk g o (Z2n cs)→Z3m w B (Z19 cs)→Z9z (Z7u w) B g o cs
 | _,[],_,_=>trivial
 | _,c::r,.cons hl h t,ha=>by
  have ha:Z3m w B (Z41 c++Z19 r):=ha
  have hk:1=kk:=hl
  subst hk
  exact ⟨Z04e h ha.left,Zwh t ha.right⟩
theorem Z027 {g o:Nat} {d:HDecl} (h:RMem w G g o (Zeo d)) (ha:Z3m w B (Z2h d)):Zwf (Z7u w) B g o d:=by
 obtain ⟨h1,h⟩:=rm_i h
 obtain ⟨h2,h⟩:=rm_i h
 obtain ⟨h3,⟨_,h4⟩,_⟩:=Zw2 h (Z3m.right ha).head.1 (Z3m.right ha).head.2
 rw [Zju] at h3
 exact ⟨h1,h2,h3,Zwh h4 (Z3m.left ha)⟩
theorem Zqk {g kk:Nat}:∀{o:Nat} {cs:List HDecl},REls w G kk g o (Z1a cs)→Z3m w B (Z0i cs)→Z7y (Z7u w) B g o cs
 | _,[],_,_=>trivial
 | _,c::r,.cons hl h t,ha=>by
  have ha:Z3m w B (Z2h c++Z0i r):=ha
  have hk:3=kk:=hl
  subst hk
  exact ⟨Z027 h ha.left,Zqk t ha.right⟩
mutual
theorem Z029 {g o:Nat}:∀{s:HStep},RMem w G g o (Zep s)→Z3m w B (Z1u s)→Z8c (Z7u w) B g o s
 | .mk _ _ _ _ _ _ _,h,ha=>by
  rw [Z1u] at ha
  rw [Z8c]
  obtain ⟨h1,h⟩:=rm_i h
  obtain ⟨h2,h⟩:=rm_i h
  obtain ⟨h3,h⟩:=rm_i h
  obtain ⟨h4,h⟩:=Zql h ha.head
  obtain ⟨h5,⟨_,h6⟩,_⟩:=Zw2 h ha.tail.right.head.1 ha.tail.right.head.2
  rw [Zgh] at h5
  exact ⟨⟨h1,h2,h3⟩,h4,h5,Zmz h6 ha.tail.left⟩
theorem Zz7 {g o:Nat}:∀{s:HBlock},RMem w G g o (Z7b s)→Z3m w B (Z0b s)→Z5w (Z7u w) B g o s
 | .mk _ _ _,h,ha=>by
  rw [Z0b] at ha
  rw [Z5w]
  obtain ⟨h5,⟨_,h6⟩,h⟩:=Zw2 h ha.right.head.1 ha.right.head.2
  rw [Zas] at h5
  exact ⟨⟨h5,Zkr h6 ha.left⟩,(rm_i h).1⟩
theorem Zkr {g kk:Nat}:∀{o:Nat} {xs:List HStep},REls w G kk g o (Z2b xs)→Z3m w B (Z05 xs)→Z2p (Z7u w) B g o xs
 | _,[],_,_=>by rw [Z2p];trivial
 | _,s::r,h,ha=>by
  rw [Z2b] at h
  rw [Z05] at ha
  rw [Z2p]
  cases h with
  | cons hl h t=>
   rw [Zc4] at hl h
   have hk:5=kk:=hl
   subst hk
   exact ⟨Z029 h ha.left,Zkr t ha.right⟩
theorem Zmz {g kk:Nat}:∀{o:Nat} {xs:List HBlock},REls w G kk g o (Z16 xs)→Z3m w B (Zp xs)→Z2f (Z7u w) B g o xs
 | _,[],_,_=>by rw [Z2f];trivial
 | _,s::r,h,ha=>by
  rw [Z16] at h
  rw [Zp] at ha
  rw [Z2f]
  cases h with
  | cons hl h t=>
   rw [Za7] at hl h
   have hk:2=kk:=hl
   subst hk
   exact ⟨Zz7 h ha.left,Zmz t ha.right⟩
end
theorem Zsm {g o:Nat} {r:HRoutine} (h:RMem w G g o (Z6a r)) (ha:Z3m w B (Z0m r)):Zcx (Z7u w) B g o r:=by
 have ha2:Z3m w B (Z0b r.body):=ha.tail.tail
 rw [Zab] at ha2
 obtain ⟨h1,h⟩:=Zql h ha.head
 obtain ⟨h2,h⟩:=Zql h ha.tail.head
 obtain ⟨h3,h⟩:=rm_i h
 obtain ⟨h5,⟨_,h6⟩,h⟩:=Zw2 h ha2.right.head.1 ha2.right.head.2
 rw [Zas] at h5
 exact ⟨h1,h2,h3,⟨h5,Zkr h6 ha2.left⟩,(rm_i h).1⟩
theorem Zhe {g kk:Nat}:∀{o:Nat} {cs:List HRoutine},REls w G kk g o (Z0u cs)→Z3m w B (Zl cs)→Z49 (Z7u w) B g o cs
 | _,[],_,_=>trivial
 | _,c::r,.cons hl h t,ha=>by
  have ha:Z3m w B (Z0m c++Zl r):=ha
  have hk:5=kk:=hl
  subst hk
  exact ⟨Zsm h ha.left,Zhe t ha.right⟩
def nv (y:HNormal):Value:=.agg #[y.dv,y.rv]
def hdOf:Value→Hd
 | .slice a l c=>⟨a,l,c⟩
 | _=>⟨none,0,0⟩
abbrev av (y:HNormal):AV:=.agg [.h (hdOf y.dv),.h (hdOf y.rv)]
def HdY (y:HNormal):Prop:=(hdOf y.dv).v=y.dv∧(hdOf y.rv).v=y.rv
theorem HdOk.of {B:List Nat} {v:Value} {n:Nat} (h:HdOk B v n):(hdOf v).v=v:=by
 rcases h with ⟨rfl,_⟩|⟨g,cap,rfl,_⟩<;>rfl
theorem Ziw {m:Mem} {B:List Nat} {y:HNormal} (h:Z45 m B y):HdY y:=⟨h.1.1.of,h.2.1.of⟩
theorem Ztc {y:HNormal} (h:HdY y):av y=.agg [.val y.dv,.val y.rv]:=by
 show AV.agg [.val (hdOf y.dv).v,.val (hdOf y.rv).v]=_
 rw [h.1,h.2]
theorem Z01y {y:HNormal} {u:Value} (h:RV w G (Z22 y) u):u=nv y:=by
 cases h with
 | agg hc=>cases hc with
  | cons h1 t=>cases t with
   | cons h2 t=>cases t;rw [h1.header,h2.header];rfl
theorem Zwi {y:HNormal} {u:Value} (h:RV w G (Z22 y) u) (ha:Z3m w B (Z00 y)):Z45 (Z7u w) B y:=by
 cases h with
 | agg hc=>cases hc with
  | cons h1 t=>cases t with
   | cons h2 t=>
    obtain ⟨a1,_,a2⟩:=Zow h1 ha.right.head.1 ha.right.head.2
    obtain ⟨b1,_,b2⟩:=Zow h2 ha.right.tail.right.head.1 ha.right.tail.right.head.2
    rw [Zhu] at a1
    rw [Zdl] at b1
    exact ⟨⟨a1,Zqk a2 ha.left⟩,b1,Zhe b2 ha.right.tail.left⟩
end
def Zxg (B:List Nat) (m:Mem) (x:AV) (u:Value):Prop:=
 ∀w:World,(∀b∈B,∃cs e,w.heap[b]? = some (.cells cs e (0,0))∧∀o,cs[o]? = m b o)→RV w (GB B) x u
def RepN (S:List Nat) (M:Mem) (y:HNormal):Prop:=Zxg S M (Z22 y) (nv y)∧HdY y
theorem Zxo {ts:List (Value × Nat)} {p:Value × Nat} (h:p∈ts):HB (blks ts) p.1:=fun _ hg=>List.mem_filterMap.2 ⟨p,h,hg⟩
theorem Z00i {w:World} {ts:List (Value × Nat)} (h:∀p∈ts,Zbs w p.1 p.2) (hp:ts.Pairwise (fun p q=>∀b o,Zhm p.1 p.2 b o→Zhm q.1 q.2 b o→False)):(blks ts).Nodup:=by
 refine List.pairwise_filterMap.2 (hp.imp_of_mem ?_)
 rintro ⟨v,k⟩ ⟨v',k'⟩ hm hm' hd b hb b' hb' rfl
 rcases h _ hm with e|⟨g,len,cap,cur,el,e,_⟩
 ·simp only at e;subst e;simp [Value.ownBlock] at hb
 rcases h _ hm' with e'|⟨g',len',cap',cur',el',e',_⟩
 ·simp only at e';subst e';simp [Value.ownBlock] at hb'
 simp only at e e'
 subst e;subst e'
 simp only [Value.ownBlock,Option.some.injEq] at hb hb'
 subst hb;subst hb'
 exact hd g' (len*k+len'*k') ⟨rfl,Nat.le_add_right _ _⟩ ⟨rfl,Nat.le_add_left _ _⟩
theorem thaw {w0 w:World} {G0 G':Prot} {y:HNormal} {u:Value} (hh0:HOk w0 G0 []) (hx:Ext w0 G0 [] w G' [.many (Z00 y)]) (hh:HOk w G' [.many (Z00 y)]) (hv:RV w G' (Z22 y) u) :
  HOk w G0 [.own (blks (Z00 y)) (Z7u w)]∧Ext w0 G0 [] w G0 [.own (blks (Z00 y)) (Z7u w)]∧Z45 (Z7u w) (blks (Z00 y)) y∧(Z08 y).Nodup ∧
   Zxg (blks (Z00 y)) (Z7u w) (Z22 y) (nv y):=by
 obtain ⟨t1,t2⟩:=hh.ok _ (List.mem_singleton.2 rfl)
 have ha:Z3m w (blks (Z00 y)) (Z00 y):=fun p hp=>⟨t1 p hp,Zxo hp⟩
 have hcells:∀b∈blks (Z00 y),∃cs e,w.heap[b]? = some (.cells cs e (0,0))∧∀o,cs[o]? = Z7u w b o:=by
  intro b hb
  obtain ⟨p,hp,hpb⟩:=List.mem_filterMap.1 hb
  rcases t1 p hp with e|⟨g,len,cap,cur,el,e,h1,_⟩
  ·rw [e] at hpb;simp [Value.ownBlock] at hpb
  ·rw [e] at hpb
   simp only [Value.ownBlock,Option.some.injEq] at hpb
   subst hpb
   exact ⟨cur,el,h1,fun o=>(cell_of_row w g o cur el (0,0) h1).symm⟩
 have hfresh:∀b∈blks (Z00 y),w0.heap.size≤b:=by
  intro b hb
  obtain ⟨p,hp,hpb⟩:=List.mem_filterMap.1 hb
  rcases t1 p hp with e|⟨g,len,cap,cur,el,e,h1,_⟩
  ·rw [e] at hpb;simp [Value.ownBlock] at hpb
  ·have e':=e
   rw [e] at hpb
   simp only [Value.ownBlock,Option.some.injEq] at hpb
   subst hpb
   refine Nat.le_of_not_lt fun hlt=>?_
   obtain ⟨r,hr,_⟩:=hx.newfp g (len*p.2) hlt ⟨_,List.mem_singleton.2 rfl,p,hp,by rw [e'];exact ⟨rfl,Nat.le_refl _⟩⟩
   cases hr
 have hsk:=Zwi hv ha
 have hrv:=Zrs ha _ hv
 rw [Z01y hv] at hrv
 refine ⟨⟨fun r hr=>?_,List.pairwise_singleton _ _,fun r hr b o hf hg=>?_,fun b o hg=>Nat.lt_of_lt_of_le (hh0.lt b o hg) hx.size⟩,
  ⟨hx.os,hx.tape,hx.output,hx.size,fun _ _ h=>h,hx.same,fun _ _ _ h=>.inl h,fun b o hb hf=>?_⟩,hsk,Znn hsk (Z00i t1 t2),fun w' hw'=>?_⟩
 ·rw [List.mem_singleton.1 hr]
  exact hcells
 ·rw [List.mem_singleton.1 hr] at hf
  have h1:=hfresh b hf
  have h2:=hh0.lt b o hg
  omega
 ·obtain ⟨r,hr,hf⟩:=hf
  rw [List.mem_singleton.1 hr] at hf
  have h1:=hfresh b hf
  omega
 ·refine hrv.mono ⟨fun b o hb=>?_,fun _ _ h=>h⟩
  obtain ⟨cs,e,h1,h2⟩:=hcells b hb
  obtain ⟨cs',e',h1',h2'⟩:=hw' b hb
  rw [cell_of_row w b o cs e (0,0) h1,cell_of_row w' b o cs' e' (0,0) h1',h2,h2']
theorem Z3.thaw {P:Program} {f:FuncId} {args:List AV} {Q:HNormal→Prop} (H:Z3 P f args [] (fun r h=>∃y:HNormal,r=Z22 y∧h=[.many (Z00 y)]∧Q y)) :
  Z3 P f args [] (fun r h=>∃(y:HNormal) (S:List Nat) (M:Mem),r=av y∧h=[.own S M]∧(Q y∧Z45 M S y∧(Z08 y).Nodup∧RepN S M y)):=by
 intro w G vs ha hh
 refine (H w G vs ha hh).mono ?_
 rintro e w' ⟨v,r,h',G',rfl,⟨y,rfl,rfl,hq⟩,hv,hh',hx⟩
 obtain ⟨a1,a2,a3,a4,a5⟩:=Go.Abs.thaw hh hx hh' hv
 rw [Z01y hv]
 exact ⟨_,_,_,_,rfl,⟨y,_,_,rfl,rfl,hq,a3,a4,a5,Ziw a3⟩,by rw [Ztc (Ziw a3)];exact .agg (.cons .val (.cons .val .nil)),a1,a2⟩
theorem Z3.thaw2 {P:Program} {f:FuncId} {args:List AV} {c:Bool} {Q:HNormal→Prop} (H:Z3 P f args [] (fun r h=>∃y:HNormal,r=.tup [Z22 y,.b c]∧h=[.many (Z00 y)]∧Q y)) :
  Z3 P f args [] (fun r h=>∃(y:HNormal) (S:List Nat) (M:Mem),r=.tup [av y,.b c]∧h=[.own S M]∧(Q y∧Z45 M S y∧(Z08 y).Nodup∧RepN S M y)):=by
 intro w G vs ha hh
 refine (H w G vs ha hh).mono ?_
 rintro e w' ⟨v,r,h',G',rfl,⟨y,rfl,rfl,hq⟩,hv,hh',hx⟩
 cases hv with
 | tup hc=>cases hc with
  | cons h1 t=>
   obtain ⟨a1,a2,a3,a4,a5⟩:=Go.Abs.thaw hh hx hh' h1
   refine ⟨_,_,_,_,rfl,⟨y,_,_,rfl,rfl,hq,a3,a4,a5,Ziw a3⟩,.tup (.cons ?_ ?_),a1,a2⟩
   ·rw [Z01y h1,Ztc (Ziw a3)];exact .agg (.cons .val (.cons .val .nil))
   ·cases t with
    | cons h2 t=>cases t;cases h2;exact .cons .val .nil
inductive ArgO (bs:List Res):List AV→List AV→Prop
 | nil:ArgO bs [] []
 | same {x as1 xs} (t:ArgO bs as1 xs):ArgO bs (x::as1) (x::xs)
 | lent {B m y as1 xs} (h:Res.own B m∈bs) (hr:RepN B m y) (t:ArgO bs as1 xs):ArgO bs (av y::as1) (Z22 y::xs)
theorem ArgO.rcs {w:World} {G Gb:Prot} {bs:List Res} (hA:Agree G w w Gb) (hb:∀B m,Res.own B m∈bs→∀x u,Zxg B m x u→RV w Gb x u) :
  ∀{as1 xs:List AV} {vs:List Value},ArgO bs as1 xs→RCs w G as1 vs→RCs w Gb xs vs
 | _,_,_,.nil,.nil=>.nil
 | _,_,_,.same t,.cons h r=>.cons (h.mono hA) (t.rcs hA hb r)
 | _,_,_,.lent (y:=y) hm hr t,.cons (v:=v) h r=>by
  have e:v=nv y:=by
   rw [Ztc hr.2] at h
   cases h with
   | agg hc=>cases hc with
    | cons h1 t=>cases t with
     | cons h2 t=>cases t;cases h1;cases h2;rfl
  subst e
  exact .cons (hb _ _ hm _ _ hr.1) (t.rcs hA hb r)
theorem ROk.cleanR {w:World} {G G2:Prot} {q:Res} (h0:ROk w G q) (hcq:Zfz q):ROk w G2 q:=by
 cases q with
 | obj b ls=>obtain ⟨cs,el,k1,k2⟩:=h0;exact ⟨cs,el,k1,k2.vals hcq⟩
 | tail v k=>exact h0
 | ge s=>exact h0
 | vec v ls=>
  rcases h0 with ⟨rfl,h0⟩|⟨g,cap,cur,el,rfl,k1,k2,k3,k4⟩
  ·exact .inl ⟨rfl,h0⟩
  ·exact .inr ⟨g,cap,cur,el,rfl,k1,k2,k3,k4.vals hcq⟩
 | many ts=>exact h0
 | own B m=>exact h0
 | row v k ls=>
  rcases h0 with ⟨rfl,h0⟩|⟨g,len,cap,cur,el,rfl,k1,k2,k3,k4,k5⟩
  ·exact .inl ⟨rfl,h0⟩
  ·exact .inr ⟨g,len,cap,cur,el,rfl,k1,k2,k3,k4,k5.vals hcq⟩
theorem Z3.lendO {P:Program} {f:FuncId} {as1 xs:List AV} {h1:List Res} (bs:List Res) {R:AV→List Res→Prop} (H:Z3 P f xs h1 R) (hargs:ArgO bs as1 xs)
  (hb:∀r∈bs,∃B m,r=.own B m) (hclean:∀r h',R r h'→Clean h' r∧∀q∈h',Zfz q) :
  Z3 P f as1 (h1++bs) (fun r h'=>∃h1',R r h1'∧h'=h1'++bs):=by
 intro w G vs hvs hh
 let Gb:Prot:=fun b o=>G b o∨fps bs b o
 have hA:Agree G w w Gb:=⟨fun _ _ _=>rfl,fun _ _ h=>.inl h⟩
 have hbslt:∀b o,fps bs b o→b<w.heap.size:=fun b o ⟨q,hq,hf⟩=>(hh.ok q (List.mem_append.2 (.inr hq))).lt b o hf
 have hwhole:∀b o o',fps bs b o→fps bs b o':=fun b o o' ⟨q,hq,hf⟩=>⟨q,hq,by
  obtain ⟨B,m,rfl⟩:=hb q hq
  exact hf⟩
 have g3:HOk w Gb h1:=⟨fun r hr=>(hh.ok r (List.mem_append.2 (.inl hr))).same hA,hh.left.apart,fun r hr b o hf hg=>by
   rcases hg with hg|hg
   ·exact hh.prot r (List.mem_append.2 (.inl hr)) b o hf hg
   ·exact hh.cross ⟨r,hr,hf⟩ hg,fun b o hg=>by
   rcases hg with hg|hg
   ·exact hh.lt b o hg
   ·exact hbslt b o hg⟩
 have g4:∀B m,Res.own B m∈bs→∀x u,Zxg B m x u→RV w Gb x u:=fun B m hm x u hr=>
  (hr w (hh.ok _ (List.mem_append.2 (.inr hm)))).mono ⟨fun _ _ _=>rfl,fun b o hb=>.inr ⟨_,hm,hb⟩⟩
 refine (H w Gb vs (hargs.rcs hA g4 hvs) g3).mono ?_
 rintro e w' ⟨v,r,h',G',rfl,hR,hv,hh',hx⟩
 obtain ⟨c1,c2⟩:=hclean r h' hR
 let G2:Prot:=fun b o=>G' b o∧¬(fps bs b o)
 have hGkeep:∀b o,G b o→G2 b o:=fun b o hg=>⟨hx.sub b o (.inl hg),fun ⟨q,hq,hf⟩=>hh.prot q (List.mem_append.2 (.inr hq)) b o hf hg⟩
 have hnew:∀v k g,Res.tail v k∈h'→v.ownBlock=some g→∀o,G' g o→G2 g o:=by
  intro v k g hm hg o hgo
  refine ⟨hgo,fun hf=>?_⟩
  have hlt:=hbslt _ _ hf
  rcases hh'.ok _ hm with rfl|⟨g',len,cap,cur,el,rfl,t1,t2,t3⟩
  ·simp [Value.ownBlock] at hg
  ·simp only [Value.ownBlock,Option.some.injEq] at hg
   subst hg
   have hfp:fps h' g' (len*k):=⟨_,hm,rfl,Nat.le_refl _⟩
   exact hh.cross (hx.newfp g' (len*k) hlt hfp) (hwhole _ _ _ hf)
 have e1:Ext w G h1 w' G2 h':=⟨hx.os,hx.tape,hx.output,hx.size,hGkeep,hx.same,fun b o hb' hg=>by
  rcases hx.newG b o hb' hg.1 with h|h
  ·rcases h with h|h
   ·exact .inl h
   ·exact absurd h hg.2
  ·exact .inr h,hx.newfp⟩
 have e2:HOk w' G2 h':=⟨fun q hq=>(hh'.ok q hq).cleanR (c2 q hq),hh'.apart,fun q hq b o hf hg=>hh'.prot q hq b o hf hg.1,fun b o hg=>hh'.lt b o hg.1⟩
 obtain ⟨f1,f2⟩:=hh.frame e1 e2
 exact ⟨v,r,h'++bs,G2,rfl,⟨h',hR,rfl⟩,RV.clean hnew c1 hv,f1,f2⟩
section
variable {P:Program} {n:Nat} {ops:Array Oper} {B:Fr→List Res→Prop} {k:Nat} {F:Fr} {h:List Res}
def Zti (P:Program) (ops:Array Oper) (F:Fr) (k:Nat):Option (Bool × Bool):=
 match (opAt ops k).op with
 | .binOp .neq t x y _=>match P.underlying t with
  | some .bool=>match F.ev x,F.ev y with
   | .val (.bool a),.val (.bool b)=>some (a,b)
   | _,_=>none
  | _=>none
 | _=>none
theorem kBne (a b:Bool) (hb:Zti P ops F k=some (a,b):=by kernel_rfl):StOK P (opAt ops k) F h [] (.b (a != b)):=by
 unfold Zti at hb
 generalize hoo:opAt ops k=o at hb
 obtain ⟨dst,op,type,pos,after,guard⟩:=o
 cases op<;>simp only at hb<;>try (cases hb)
 rename_i bop t x y yt
 cases bop<;>simp only at hb<;>try (cases hb)
 split at hb
 ·rename_i ht
  split at hb
  ·rename_i a' b' h1 h2
   cases hb
   intro n w G ac hF hh
   have v1:=hF.ev x
   have v2:=hF.ev y
   rw [h1] at v1
   rw [h2] at v2
   have v1:=v1.val_inv
   have v2:=v2.val_inv
   refine ⟨_,.val,fun w' _ _=>?_⟩
   simp only [execOp,v1,v2]
   have he:(Op.equalIn (9999+1) t (.bool a) (.bool b)).run P w'=.ok (a==b) w':=by
    rw [Op.equalIn]
    simp [Sem.run_bind,Zx ht]
   refine Z1b ?_
   simp only [eqGuard,binOp,Op.equal,Op.maxDepth]
   have he2:(Op.equalIn 10000 t (.bool a) (.bool b)).run P w'=.ok (a==b) w':=he
   simp [Sem.run_bind,he2,bne]
  ·cases hb
 ·cases hb
end
end Go.Abs
end
section
namespace Go.Abs
open Go.Proofs
theorem Zdz {xs:List Int} {k:Nat} {n x:Int} (h:n∉xs.take k) (hx:xs[k]? = some x) (hn:¬x=n):n∉xs.take (k+1):=by
 rw [List.take_add_one,hx]
 simp only [Option.toList_some,List.mem_append,List.mem_singleton]
 exact fun q=>q.elim h fun q=>hn q.symm
theorem Zs2 {xs:List Int} {k:Nat} {n x:Int} (hx:xs[k]? = some x) (hn:x=n):n∈xs:=hn▸List.mem_of_getElem? hx
theorem Z0y (n:Int) (low:Int) (high:Int) :Z3 Tryz.prog 146 [.i n,.i low,.i high] [] (fun r h=>r=.b (decide (low≤n∧n≤high))∧h=[]):=by
 refine enter Tryz.func146 kr (n:=15) kr kr (ar (ir 1 [(0,.i n),(1,.i low),(2,.i high)] (ie (ar (Z1i 8 [(14,.b ((decide (low≤n))&&(decide (n≤high))))] [] ?_ (fun hj1=>?_))))))
 ·refine ir 1 [(6,.b ((decide (low≤n))&&(decide (n≤high))))] (ie ?_)
  exact at_ (r2 [] [.b ((decide (low≤n))&&(decide (n≤high)))] ⟨rfl,rfl⟩ (lb (by rw [Bool.eq_iff_iff];simp)))
 refine ir 4 [(0,.i n),(2,.i high),(10,.b (decide (low≤n)))] (ib (b:=(decide (low≤n))) 10 (fun hb1=>?_) (fun hb1=>?_))
 ·have hp1:low≤n:=(dq).1 hb1
  refine ir 4 [(14,.b (decide (n≤high)))] ?_
  exact Zz (wk [] (fc (x:=.b (decide (n≤high))) (lb (by simp only [hb1];rfl)) fl)) hj1
 have hp2:¬(low≤n):=Zd dq hb1
 refine ir 4 [(14,.b false)] ?_
 exact Zz (wk [] (fc (x:=.b false) (lb (by simp only [hb1];rfl)) fl)) hj1
theorem Z6c (xs:List Int) (n:Int) (hlen:xs.length≤4294967296:=by exact ob):Z3 Tryz.prog 147 [nInt xs,.i n] [] (fun r h=>r=.b (decide (n∈xs))∧h=[]):=by
 refine enter Tryz.func147 kr (n:=18) kr kr (ar (ir 1 [(0,nInt xs),(1,.i n)] (ie (aq (ar (irk 1 (.n 5 (.i 0) .r) (ie (ab 0 (al (fun m F h=>∃(k:Nat),(k≤xs.length)∧(n∉xs.take k)∧F=[(0,nInt xs),(1,.i n),(5,.i k)]∧h=[]∧m=xs.length-k) _ _ _ ⟨0,ob,ob,rfl,rfl,rfl⟩ (wk [] (fr (fr (fc (x:=.i 0) li fl)))) ?_)))))))))
 rintro m F h ⟨k,c0_0,c0_1,rfl,rfl,rfl⟩
 refine aq (ar (irk 2 (.n 6 (.i k) (.n 7 (nInt xs) .r)) (io (.i xs.length) (.i (((Z6 xs).length:Nat):Int)) (li (by rw [Z5])) (irk 1 (.n 9 (.b (decide ((k:Int)<(xs.length:Int)))) .r) (ie (ac (decide ((k:Int)<(xs.length:Int))) dq (fun hc1=>?_) (fun hc1=>?_)))))))
 ·refine ak (aq (ab 1 (ar (irk 2 (.n 12 (nInt xs) (.n 13 (.i k) .r)) ?_))))
  obtain ⟨x1,hx1⟩:=Z8 (xs:=xs) (j:=k) om
  refine is_ (Z0 (es:=Z6 xs) (hv:=none) (j:=(k:Int)) (sz:=1) (y:=.i x1) kr om (Za hx1) rfl) (irk 3 (.n 17 (.b (x1==n)) .r) (ie (ac (x1==n) beq_iff_eq (fun hc2=>?_) (fun hc2=>?_))))
  ·refine ar (ir 1 [(4,.b true)] (ie ?_))
   exact at_ (r2 [] [.b true] ⟨rfl,rfl⟩ (lb (by rw [eq_comm,dq];exact Zs2 hx1 hc2)))
  refine ak (az (irk 1 (.n 10 (.i k) .r) (ia (((k+1:Nat):Int)) (((k:Int))+(1)) (ir 1 [(0,nInt xs),(1,.i n),(5,.i (k+1:Nat))] (ie ?_)))))
  exact ⟨_,_,_,ob,⟨k+1,ob,(Zdz c0_1 hx1 hc2),rfl,rfl,rfl⟩,(wk [] (fr (fr (fc (x:=.i (k+1:Nat)) li fl))))⟩
 refine ax 0 (ar (ir 1 [(4,.b false)] (ie ?_)))
 have hke:k=xs.length:=by omega
 exact at_ (r2 [] [.b false] ⟨rfl,rfl⟩ (lb (by rw [eq_comm,decide_eq_false_iff_not];rw [hke,List.take_length] at c0_1;exact c0_1)))
theorem Z2o (xs:List Int) (hlen:xs.length≤4294967296:=by exact ob):Z3 Tryz.prog 103 [nInt xs] [] (fun r h=>∃(v:Value),r=oInt xs v∧h=[.tail v 1]):=by
 refine enter Tryz.func103 kr (n:=6) kr kr (ar (ir 1 [(0,nInt xs)] (ie (ar (iL (Z6 []) 0 1 ?_)))))
 intro v1
 refine irk 1 (.n 4 (nInt xs) .r) (ip 0 (Z6 xs) (Z6 []) (Z6 xs) v1 none 1 (Z0x _) (Z0x _) (Z3n _) (by simp<;>omega) (by simp [Z6]) ?_)
 intro v2
 refine ir 1 [(2,oInt xs v2)] (ie ?_)
 exact at_ (r1 [0] ⟨v2,rfl,rfl⟩)
theorem Z6k (ds:List Decl) (n:Nat) (hd:DOk ds:=by exact ob) (hn:n≤ds.length:=by exact ob):Z3 Tryz.prog 156 [Z2 ds,.i n] [] (fun r h=>r=.i ((Zv (ds.take n):Nat):Int)∧h=[]):=by
 refine enter Tryz.func156 kr (n:=21) kr kr (ar (ir 1 [(0,Z2 ds),(1,.i n)] (ie (ar (irk 1 (.n 5 (.i 0) .r) (ie (aq (ar (irk 1 (.n 6 (.i 0) .r) (ie (ab 0 (al (fun m F h=>∃(k:Nat),(k≤n)∧F=[(0,Z2 ds),(1,.i n),(5,.i ((Zv (ds.take k):Nat):Int)),(6,.i k)]∧h=[]∧m=n-k) _ _ _ ⟨0,ob,rfl,rfl,rfl⟩ (wk [] (fr (fr (fc (x:=.i 0) li (fc (x:=.i 0) li fl))))) ?_))))))))))))
 rintro m F h ⟨k,c0_0,rfl,rfl,rfl⟩
 refine aq (ar (irk 3 (.n 9 (.b (decide ((k:Int)<(n:Int)))) .r) (ie (ac (decide ((k:Int)<(n:Int))) dq (fun hc1=>?_) (fun hc1=>?_)))))
 ·refine ak (aq (ab 1 (az (irk 3 (.n 12 (.i ((Zv (ds.take k):Nat):Int)) (.n 13 (Z2 ds) (.n 14 (.i k) .r))) ?_))))
  obtain ⟨x1,hx1⟩:=Z8 (xs:=ds) (j:=k) om
  refine is_ (Z0 (es:=Zt ds) (hv:=none) (j:=(k:Int)) (sz:=3) (y:=Z2r x1) kr om (Z0z hx1) rfl) (irk 2 (.n 17 (nCon x1.cons) .r) (io (.i x1.cons.length) (.i (((Z1e x1.cons).length:Nat):Int)) (li (by rw [Z0f])) (ia ((((Zv (ds.take k))+x1.cons.length:Nat):Int)) ((((Zv (ds.take k):Nat):Int))+((x1.cons.length:Int))) (hb:=(by have h1:=hd.cons_at hx1;have h2:=(hd.take k).sum;omega)) (irk 1 (.n 5 (.i (((Zv (ds.take k))+x1.cons.length:Nat):Int)) (.p (.p (.d (.p (.d (.d (.d (.d (.k (.k (.d .r)))))))))))) (ie (az (irk 1 (.n 10 (.i k) .r) (ia (((k+1:Nat):Int)) (((k:Int))+(1)) (hb:=(by have:=hd.len;omega)) (irk 1 (.n 6 (.i (k+1:Nat)) (.p (.d (.k (.k (.k .z)))))) (ie ?_))))))))))
  have hsn:Zv (ds.take (k+1))=Zv (ds.take k)+x1.cons.length:=by rw [Z1y hx1,Z58];simp [Zv]
  exact ⟨_,_,_,ob,⟨k+1,ob,rfl,rfl,rfl⟩,(wk [] (fr (fr (fc (x:=.i (((Zv (ds.take k))+x1.cons.length:Nat):Int)) li (fc (x:=.i (k+1:Nat)) li fl)))))⟩
 refine ax 0 (ar (ir 2 [(4,.i ((Zv (ds.take k):Nat):Int))] (ie ?_)))
 have hke:k=n:=by omega
 subst hke
 exact at_ (r2 [] [.i ((Zv (ds.take k):Nat):Int)] ⟨rfl,rfl⟩ li)
theorem Z7d (ds:List Decl) (c:Int) (hd:DOk ds:=by exact ob):Z3 Tryz.prog 157 [Z2 ds,.i c] [] (fun r h=>r=.i (Z07 ds c)∧h=[]):=by
 refine enter Tryz.func157 kr (n:=30) kr kr (ar (ir 1 [(0,Z2 ds),(1,.i c)] (ie (aq (ar (irk 1 (.n 5 (.i 0) .r) (ie (ab 0 (al (fun m F h=>∃(k:Nat),(k≤ds.length)∧((Z3u c (ds.drop k) k (Zv (ds.take k))).1=Z07 ds c)∧F=[(0,Z2 ds),(1,.i c),(5,.i k)]∧h=[]∧m=ds.length-k) _ _ _ ⟨0,ob,(by rfl),rfl,rfl,rfl⟩ (wk [] (fr (fr (fc (x:=.i 0) li fl)))) ?_)))))))))
 rintro m F h ⟨k,c0_0,c0_1,rfl,rfl,rfl⟩
 refine aq (ar (irk 2 (.n 7 (.i k) (.n 8 (Z2 ds) .r)) (io (.i ds.length) (.i (((Zt ds).length:Nat):Int)) (li (by rw [Z0a])) (irk 1 (.n 10 (.b (decide ((k:Int)<(ds.length:Int)))) .r) (ie (ac (decide ((k:Int)<(ds.length:Int))) dq (fun hc1=>?_) (fun hc1=>?_)))))))
 ·refine ak (aq (ab 1 (ar (irk 2 (.n 13 (Z2 ds) (.n 14 (.i k) .r)) (ic [] (Z6k ds k) ?_)))))
  rintro _ _ ⟨rfl,rfl⟩
  refine irk 1 (.n 6 (.i ((Zv (ds.take k):Nat):Int)) .r) (ie (ar (irk 5 (.n 16 (.i c) (.n 17 (.i ((Zv (ds.take k):Nat):Int)) (.n 18 (.i ((Zv (ds.take k):Nat):Int)) (.n 19 (Z2 ds) (.n 20 (.i k) .r))))) ?_)))
  obtain ⟨x1,hx1⟩:=Z8 (xs:=ds) (j:=k) om
  refine is_ (Z0 (es:=Zt ds) (hv:=none) (j:=(k:Int)) (sz:=3) (y:=Z2r x1) kr om (Z0z hx1) rfl) (irk 2 (.n 23 (nCon x1.cons) .r) (io (.i x1.cons.length) (.i (((Z1e x1.cons).length:Nat):Int)) (li (by rw [Z0f])) (ia ((((Zv (ds.take k))+x1.cons.length:Nat):Int)) ((((Zv (ds.take k):Nat):Int))+((x1.cons.length:Int))) (hb:=(by have h1:=hd.cons_at hx1;have h2:=(hd.take k).sum;omega)) (ia (((((Zv (ds.take k))+x1.cons.length:Nat):Int)-1)) (((((Zv (ds.take k))+x1.cons.length:Nat):Int))-(1)) (hb:=(by have h1:=hd.cons_at hx1;have h2:=(hd.take k).sum;omega)) (ic [] (Z0y c ((Zv (ds.take k):Nat):Int) ((((Zv (ds.take k))+x1.cons.length:Nat):Int)-1)) ?_)))))
  rintro _ _ ⟨rfl,rfl⟩
  refine ie (ac (decide (((Zv (ds.take k):Nat):Int)≤c∧c≤((((Zv (ds.take k))+x1.cons.length:Nat):Int)-1))) dq (fun hc2=>?_) (fun hc2=>?_))
  ·refine ar (ir 1 [(28,.i k)] (ia (((k+1:Nat):Int)) (((k:Int))+(1)) (hb:=(by have h2:=hd.len;omega)) (ir 1 [(4,.i (k+1:Nat))] (ie ?_))))
   exact at_ (r2 [] [.i (k+1:Nat)] ⟨rfl,rfl⟩ (li (by rw [←c0_1,Z7 hx1,Z3u,if_pos hc2];rfl)))
  refine ak (az (irk 1 (.n 11 (.i k) .r) (ia (((k+1:Nat):Int)) (((k:Int))+(1)) (hb:=(by have h2:=hd.len;omega)) (ir 1 [(0,Z2 ds),(1,.i c),(5,.i (k+1:Nat))] (ie ?_)))))
  have hdr:=Z7 hx1
  exact ⟨_,_,_,ob,⟨k+1,ob,(by rw [hdr] at c0_1;rw [←c0_1,Z3u,if_neg hc2,Z1y hx1,Z58];rfl),rfl,rfl,rfl⟩,(wk [] (fr (fr (fc (x:=.i (k+1:Nat)) li fl))))⟩
 refine ax 0 (ar (ir 1 [(4,.i (-1))] (ie ?_)))
 exact at_ (r2 [] [.i (-1)] ⟨rfl,rfl⟩ (li (by rw [←c0_1,Zs om];rfl)))
theorem Z3z (ds:List Decl) (c:Int) (hd:DOk ds:=by exact ob):Z3 Tryz.prog 107 [Z2 ds,.i c] [] (fun r h=>r=nInt (Z1 ds c)∧h=[]):=by
 refine enter Tryz.func107 kr (n:=27) kr kr (ar (ir 1 [(0,Z2 ds),(1,.i c)] (ie (ar (irk 2 (.n 6 (Z2 ds) (.n 7 (.i c) .r)) (ic [] (Z7d ds c) ?_))))))
 rintro _ _ ⟨rfl,rfl⟩
 refine irk 1 (.n 5 (.i (Z07 ds c)) .r) (ie (aq (ar (irk 2 (.n 10 (.b (decide ((Z07 ds c)<1))) .r) (ie (ac (decide ((Z07 ds c)<1)) dq (fun hc1=>?_) (fun hc1=>?_)))))))
 ·refine ar (iL (Z6 []) 0 1 ?_)
  intro v1
  refine ir 1 [(4,oInt [] v1)] (ie ?_)
  exact at_ (r2 [] [oInt [] v1] ⟨rfl,rfl⟩ (AVLe.sl _ (congrArg Z6 (by rw [(Z7i hc1).1]))))
 obtain ⟨k,d,x,hk1,hk2,hk3,hk4,hk5⟩:=Z9o hc1
 have hkl:=(List.getElem?_eq_some_iff.1 hk1).1
 have hxl:=(List.getElem?_eq_some_iff.1 hk3).1
 have hsm:=(hd.take k).sum
 have hdl:=hd.cons_at hk1
 have hdn:=hd.len
 refine ak (aD 16 (dtk (fuel:=14) 16 [0,1] (.n 12 (Z2 ds) (.n 13 (.i (Z07 ds c)) .r)) (da 2 ((k:Int)) ((Z07 ds c)-(1)) (hb:=(by have:=hd.len;omega)) ?_)))
 obtain ⟨x1,hx1⟩:=Z8 (xs:=ds) (j:=k) om
 have hxe:x1=d:=by rw [hk1] at hx1;exact (Option.some.inj hx1).symm
 subst hxe
 refine dx 3 (Z0 (es:=Zt ds) (hv:=none) (j:=(k:Int)) (sz:=3) (y:=Z2r x1) kr om (Z0z hx1) rfl) (dt (fuel:=7) 12 [4,5,6,7,8] [(17,nCon x1.cons),(18,.i c),(19,Z2 ds),(20,.i (Z07 ds c))] (da 9 ((k:Int)) ((Z07 ds c)-(1)) (hb:=(by have:=hd.len;omega)) (do_ 10 (dc 10 [] [] [] (Z6k ds k) ?_))))
 rintro _ _ ⟨rfl,rfl⟩
 refine da 11 ((c-((Zv (ds.take k):Nat):Int))) ((c)-(((Zv (ds.take k):Nat):Int))) ?_
 obtain ⟨x2,hx2⟩:=Z8 (xs:=x1.cons) (j:=(c-((Zv (ds.take k):Nat):Int)).toNat) om
 have hxe:x2=x:=by rw [show (c - ↑(Zv (ds.take k))).toNat=(c-Zv (ds.take k)).toNat from rfl,hk3] at hx2;exact (Option.some.inj hx2).symm
 subst hxe
 refine dx 12 (Z0 (es:=Z1e x1.cons) (hv:=none) (j:=(c-((Zv (ds.take k):Nat):Int))) (sz:=1) (y:=aCon x2) kr om (Z4h hx2) rfl) (dt (fuel:=0) 3 [13,14,15] [(4,nInt x2.fields)] (de ?_))
 exact at_ (r2 [] [nInt x2.fields] ⟨rfl,rfl⟩ (AVLe.sl _ (congrArg Z6 hk5.symm)))
theorem Z81 (ds:List Decl) (t:Int) (hd:DOk ds:=by exact ob):Z3 Tryz.prog 106 [Z2 ds,.i t] [] (fun r h=>∃(v:Value),r=oInt (Zb ds t) v∧h=[.tail v 1]):=by
 have hdn:=hd.len
 refine enter Tryz.func106 kr (n:=35) kr kr (ar (ir 1 [(0,Z2 ds),(1,.i t)] (ie (ar (iL (Z6 []) 0 1 ?_)))))
 intro v1
 refine irk 1 (.n 5 (oInt [] v1) .r) (ie (aq (ar (irk 2 (.n 8 (.i t) (.n 9 (Z2 ds) .r)) (io (.i ds.length) (.i (((Zt ds).length:Nat):Int)) (li (by rw [Z0a])) (ic [] (Z0y t 1 (ds.length:Int)) ?_))))))
 rintro _ _ ⟨rfl,rfl⟩
 refine irk 1 (.n 12 (.b (!(decide (1≤t∧t≤(ds.length:Int))))) .r) (ie (ac (!(decide (1≤t∧t≤(ds.length:Int)))) (p:=¬(1≤t∧t≤(ds.length:Int))) (Zc dq) (fun hc1=>?_) (fun hc1=>?_)))
 ·refine ar (ir 2 [(4,oInt [] v1)] (ie ?_))
  exact at_ (r2 [0] [oInt [] v1] ⟨v1,rfl,rfl⟩ (AVLe.slh _ (congrArg Z6 (by simp [Zb];omega))))
 have hc1:1≤t∧t≤ds.length:=by simpa using hc1
 obtain ⟨d,hd1⟩:=Z8 (xs:=ds) (j:=(t-1).toNat) om
 have hdc:=hd.cons_at hd1
 have hsm:=(hd.take (t-1).toNat).sum
 refine ak (aq (ar (irk 1 (.n 6 (.i 0) .r) (ie (ab 0 (al (fun m F h=>∃(k:Nat) (v:Value),(k≤d.cons.length)∧F=[(0,Z2 ds),(1,.i t),(5,oInt (Z17 (Zv (ds.take (t-1).toNat)) k) v),(6,.i k)]∧h=[.tail v 1]∧m=d.cons.length-k) _ _ _ ⟨0,v1,(by first|omega|rfl|(simp<;>omega)|grind [Zb,Z17]),rfl,rfl,rfl⟩ (wk [0] (fr (fr (fc (x:=oInt [] v1) (AVLe.slh _ (congrArg Z6 (by first|omega|rfl|(simp<;>omega)|grind [Zb,Z17]))) (fc (x:=.i 0) (li (by first|omega|rfl|(simp<;>omega)|grind [Zb,Z17])) fl))))) ?_))))))
 rintro m F h ⟨k,v,c0_0,rfl,rfl,rfl⟩
 refine aq (ar (irk 3 (.n 14 (.i k) (.n 15 (Z2 ds) (.n 16 (.i t) .r))) (ia ((((t-1).toNat:Nat):Int)) ((t)-(1)) (is_ (Z0 (es:=Zt ds) (hv:=none) (j:=(((t-1).toNat:Nat):Int)) (sz:=3) (y:=Z2r d) kr om (Z0z hd1) rfl) (irk 2 (.n 20 (nCon d.cons) .r) (io (.i d.cons.length) (.i (((Z1e d.cons).length:Nat):Int)) (li (by rw [Z0f])) (irk 1 (.n 22 (.b (decide ((k:Int)<(d.cons.length:Int)))) .r) (ie (ac (decide ((k:Int)<(d.cons.length:Int))) dq (fun hc2=>?_) (fun hc2=>?_))))))))))
 ·refine ak (aq (ab 1 (az (irk 3 (.n 25 (oInt (Z17 (Zv (ds.take (t-1).toNat)) k) v) (.n 26 (Z2 ds) (.n 27 (.i t) .r))) (ia ((((t-1).toNat:Nat):Int)) ((t)-(1)) (ic [] (Z6k ds ((t-1).toNat) (hd:=(by first|omega|rfl|(simp<;>omega)|grind [Zb,Z17])) (hn:=(by first|omega|rfl|(simp<;>omega)|grind [Zb,Z17]))) ?_))))))
  rintro _ _ ⟨rfl,rfl⟩
  refine irk 1 (.n 30 (.i k) .r) (ia ((((Zv (ds.take ((t-1).toNat)))+k:Nat):Int)) ((((Zv (ds.take ((t-1).toNat)):Nat):Int))+((k:Int))) (iL (Z6 [(((Zv (ds.take ((t-1).toNat)))+k:Nat):Int)]) 1 1 ?_))
  intro v2
  refine irk 0 (.n 32 (nInt [(((Zv (ds.take ((t-1).toNat)))+k:Nat):Int)]) (.p .r)) (ip 1 (Z6 (Z17 (Zv (ds.take (t-1).toNat)) k++[(((Zv (ds.take ((t-1).toNat)))+k:Nat):Int)])) (Z6 (Z17 (Zv (ds.take (t-1).toNat)) k)) (Z6 [(((Zv (ds.take ((t-1).toNat)))+k:Nat):Int)]) v none 1 (Z0x _) (Z0x _) (Z3n _) (by simp<;>omega) (by simp [Z24,Z6]) ?_)
  intro v3
  refine ir 1 [(0,Z2 ds),(1,.i t),(5,oInt (Z17 (Zv (ds.take (t-1).toNat)) k++[(((Zv (ds.take ((t-1).toNat)))+k:Nat):Int)]) v3),(6,.i k)] (ie (az (irk 1 (.n 23 (.i k) .r) (ia (((k+1:Nat):Int)) (((k:Int))+(1)) (irk 1 (.n 6 (.i (k+1:Nat)) (.p (.d (.k (.k (.k .z)))))) (ie ?_))))))
  exact ⟨_,_,_,(by first|omega|rfl|(simp<;>omega)|grind [Zb,Z17]),⟨k+1,v3,(by first|omega|rfl|(simp<;>omega)|grind [Zb,Z17]),rfl,rfl,rfl⟩,(wk [0] (fr (fr (fc (x:=oInt (Z17 (Zv (ds.take (t-1).toNat)) k++[(((Zv (ds.take ((t-1).toNat)))+k:Nat):Int)]) v3) (AVLe.slh _ (congrArg Z6 (Zcq _ _).symm)) (fc (x:=.i (k+1:Nat)) (li (by first|omega|rfl|(simp<;>omega)|grind [Zb,Z17])) fl)))))⟩
 refine ax 0 (ar (ir 2 [(4,oInt (Z17 (Zv (ds.take (t-1).toNat)) k) v)] (ie ?_)))
 exact at_ (r2 [0] [oInt (Z17 (Zv (ds.take (t-1).toNat)) k) v] ⟨v,rfl,rfl⟩ (AVLe.slh _ (congrArg Z6 (by rw [Zb,if_pos hc1,hd1,show k=d.cons.length by omega];rfl))))
theorem Zhg (ds:List Decl) (frm:Int) (to_:Int) (hl_ds:ds.length≤4294967296:=by exact ob):Z3 Tryz.prog 208 [Z2 ds,.i frm,.i to_] [] (fun r h=>r=.i (Z2d ds frm to_)∧h=[]):=by
 refine enter Tryz.func208 kr (n:=41) kr kr (ar (ir 1 [(0,Z2 ds),(1,.i frm),(2,.i to_)] (ie (aq (ar (irk 1 (.n 7 (.i 0) .r) (ie (ab 0 (al (fun m F h=>∃(k:Nat),(k≤ds.length)∧(Z3t frm to_ (ds.drop k) k=Z2d ds frm to_)∧F=[(0,Z2 ds),(1,.i frm),(2,.i to_),(7,.i k)]∧h=[]∧m=ds.length-k) _ _ _ ⟨0,ob,ob,rfl,rfl,rfl⟩ (wk [] (fr (fr (fr (fc (x:=.i 0) li fl))))) ?_)))))))))
 rintro m F h ⟨k,c0_0,c0_1,rfl,rfl,rfl⟩
 refine aq (ar (irk 2 (.n 8 (.i k) (.n 9 (Z2 ds) .r)) (io (.i ds.length) (.i (((Zt ds).length:Nat):Int)) (li (by rw [Z0a])) (irk 1 (.n 11 (.b (decide ((k:Int)<(ds.length:Int)))) .r) (ie (ac (decide ((k:Int)<(ds.length:Int))) dq (fun hc1=>?_) (fun hc1=>?_)))))))
 ·refine ak (aq (ab 1 (ar (irk 2 (.n 14 (Z2 ds) (.n 15 (.i k) .r)) ?_))))
  obtain ⟨x1,hx1⟩:=Z8 (xs:=ds) (j:=k) om
  refine is_ (Z0 (es:=Zt ds) (hv:=none) (j:=(k:Int)) (sz:=3) (y:=Z2r x1) kr om (Z0z hx1) rfl) (irk 2 (.n 18 (nCon x1.cons) .r) (io (.i x1.cons.length) (.i (((Z1e x1.cons).length:Nat):Int)) (li (by rw [Z0f])) (Z1i 16 [(0,Z2 ds),(1,.i frm),(2,.i to_),(7,.i k),(29,.b (((x1.cons.length:Int)==0)&&(x1.frm==frm)))] [] ?_ (fun hj1=>?_))))
  ·refine Z27 [(0,Z2 ds),(1,.i frm),(2,.i to_),(7,.i k),(38,.b ((((x1.cons.length:Int)==0)&&(x1.frm==frm))&&(x1.to_==to_)))] [] ?_ ?_
   ·refine ir 1 [(0,Z2 ds),(1,.i frm),(2,.i to_),(7,.i k),(30,.b (((x1.cons.length:Int)==0)&&(x1.frm==frm)))] (ib (b:=(((x1.cons.length:Int)==0)&&(x1.frm==frm))) 30 (fun hb1=>?_) (fun hb1=>?_))
    ·have hp1:((x1.cons.length:Int)=0)∧(x1.frm=frm):=((Zk beq_iff_eq beq_iff_eq)).1 hb1
     refine irk 2 (.n 31 (Z2 ds) (.n 32 (.i k) (.k (.k (.k (.k (.k .z))))))) (is_ (Z0 (es:=Zt ds) (hv:=none) (j:=(k:Int)) (sz:=3) (y:=Z2r x1) kr om (Z0z hx1) rfl) (irk 5 (.n 38 (.b (x1.to_==to_)) .r) (ie ?_)))
     exact wk [] (fr (fr (fr (fr (fc (x:=.b (x1.to_==to_)) (lb (by simp only [hb1];rfl)) fl)))))
    have hp2:¬(((x1.cons.length:Int)=0)∧(x1.frm=frm)):=Zd (Zk beq_iff_eq beq_iff_eq) hb1
    refine irk 8 (.n 38 (.b false) (.d (.k (.k (.k (.k .z)))))) (ie ?_)
    exact wk [] (fr (fr (fr (fr (fc (x:=.b false) (lb (by simp only [hb1];rfl)) fl)))))
   refine ac ((((x1.cons.length:Int)==0)&&(x1.frm==frm))&&(x1.to_==to_)) (p:=(((x1.cons.length:Int)=0)∧(x1.frm=frm))∧(x1.to_=to_)) (Zk (Zk beq_iff_eq beq_iff_eq) beq_iff_eq) (fun hc2=>?_) (fun hc2=>?_)
   ·refine ar (ir 1 [(39,.i k)] (ia (((k+1:Nat):Int)) (((k:Int))+(1)) (ir 1 [(6,.i (k+1:Nat))] (ie ?_))))
    rw [Z7 hx1] at c0_1
    exact at_ (r2 [] [.i (k+1:Nat)] ⟨rfl,rfl⟩ (li (by clear hx1;first|rfl|omega|grind [Z3t])))
   refine ak (az (ir 1 [(0,Z2 ds),(1,.i frm),(2,.i to_),(12,.i k)] (ia (((k+1:Nat):Int)) (((k:Int))+(1)) (irk 1 (.n 7 (.i (k+1:Nat)) .r) (ie ?_)))))
   have hdr:=Z7 hx1
   exact ⟨_,_,_,ob,⟨k+1,ob,(by rw [hdr] at c0_1;clear hdr hx1;grind [Z3t]),rfl,rfl,rfl⟩,(wk [] (fr (fr (fr (fc (x:=.i (k+1:Nat)) li fl)))))⟩
  refine ir 2 [(0,Z2 ds),(1,.i frm),(2,.i to_),(7,.i k),(21,.b ((x1.cons.length:Int)==0))] (ib (b:=((x1.cons.length:Int)==0)) 21 (fun hb2=>?_) (fun hb2=>?_))
  ·have hp3:(x1.cons.length:Int)=0:=(beq_iff_eq).1 hb2
   refine irk 2 (.n 22 (Z2 ds) (.n 23 (.i k) (.k (.k (.k (.k (.k .z))))))) (is_ (Z0 (es:=Zt ds) (hv:=none) (j:=(k:Int)) (sz:=3) (y:=Z2r x1) kr om (Z0z hx1) rfl) (irk 5 (.n 29 (.b (x1.frm==frm)) .r) ?_))
   exact Zz (wk [] (fr (fr (fr (fr (fc (x:=.b (x1.frm==frm)) (lb (by simp only [hb2];rfl)) fl)))))) hj1
  have hp4:¬((x1.cons.length:Int)=0):=Zd beq_iff_eq hb2
  refine irk 8 (.n 29 (.b false) (.d (.k (.k (.k (.k .z)))))) ?_
  exact Zz (wk [] (fr (fr (fr (fr (fc (x:=.b false) (lb (by simp only [hb2];rfl)) fl)))))) hj1
 refine ax 0 (ar (ir 1 [(6,.i (-1))] (ie ?_)))
 try rw [Zs (xs:=ds) (k:=k) om] at c0_1
 exact at_ (r2 [] [.i (-1)] ⟨rfl,rfl⟩ (li (by first|rfl|omega|grind [Z3t])))
theorem Za0 (ds:List Decl) (t:Int) (hd:DOk ds:=by exact ob):Z3 Tryz.prog 187 [Z2 ds,.i t] [] (fun r h=>r=.b (Z01 ds t)∧h=[]):=by
 have hdn:=hd.len
 refine enter Tryz.func187 kr (n:=19) kr kr (ar (ir 1 [(0,Z2 ds),(1,.i t)] (ie (ar (irk 2 (.n 5 (.i t) (.n 6 (Z2 ds) .r)) (io (.i ds.length) (.i (((Zt ds).length:Nat):Int)) (li (by rw [Z0a])) (ic [] (Z0y t 1 (ds.length:Int)) ?_)))))))
 rintro _ _ ⟨rfl,rfl⟩
 refine irk 1 (.n 9 (.b (decide (1≤t∧t≤(ds.length:Int)))) .r) (ib (b:=(decide (1≤t∧t≤(ds.length:Int)))) 9 (fun hb1=>?_) (fun hb1=>?_))
 ·have hp1:1≤t∧t≤(ds.length:Int):=(dq).1 hb1
  refine irk 2 (.n 10 (Z2 ds) (.n 11 (.i t) (.k .z))) (ia ((t-1)) ((t)-(1)) ?_)
  obtain ⟨x1,hx1⟩:=Z8 (xs:=ds) (j:=(t-1).toNat) om
  refine is_ (Z0 (es:=Zt ds) (hv:=none) (j:=(t-1)) (sz:=3) (y:=Z2r x1) kr om (Z0z hx1) rfl) (irk 2 (.n 15 (nCon x1.cons) .r) (io (.i x1.cons.length) (.i (((Z1e x1.cons).length:Nat):Int)) (li (by rw [Z0f])) (ir 3 [(4,.b ((x1.cons.length:Int)==0))] (ie ?_))))
  exact at_ (r2 [] [.b ((x1.cons.length:Int)==0)] ⟨rfl,rfl⟩ (lb (by first|omega|rfl|(rw [Z6u hp1 hx1])|exact Z8p hp2)))
 have hp2:¬(1≤t∧t≤(ds.length:Int)):=Zd dq hb1
 refine ir 10 [(4,.b false)] (ie ?_)
 exact at_ (r2 [] [.b false] ⟨rfl,rfl⟩ (lb (by first|omega|rfl|(rw [Z6u hp1 hx1])|exact Z8p hp2)))
theorem Zi5 (xs:List Int) (ys:List Int) (hl:xs.length+ys.length≤4294967296:=by exact ob):Z3 Tryz.prog 108 [nInt xs,nInt ys] [] (fun r h=>∃(v:Value),r=oInt (xs++ys) v∧h=[.tail v 1]):=by
 refine enter Tryz.func108 kr (n:=9) kr kr (ar (ir 1 [(0,nInt xs),(1,nInt ys)] (ie (ar (irk 1 (.n 5 (nInt xs) .r) (ic [] (Z2o xs) ?_))))))
 rintro _ _ ⟨v1,rfl,rfl⟩
 refine irk 1 (.n 7 (nInt ys) .r) (ip 0 (Z6 (xs++ys)) (Z6 xs) (Z6 ys) v1 none 1 (Z0x _) (Z0x _) (Z3n _) (by simp<;>omega) (by simp [Z24,Z6]) ?_)
 intro v2
 refine ir 1 [(4,oInt (xs++ys) v2)] (ie ?_)
 exact at_ (r1 [0] ⟨v2,rfl,rfl⟩)
theorem Z98 (ds:List Decl) (xs:List Int) (hl_ds:ds.length≤4294967296:=by exact ob) (hl_xs:xs.length≤4294967296:=by exact ob):Z3 Tryz.prog 181 [Z2 ds,nInt xs] [] (fun r h=>r=.b (Z1o ds.length xs)∧h=[]):=by
 refine enter Tryz.func181 kr (n:=20) kr kr (ar (ir 1 [(0,Z2 ds),(1,nInt xs)] (ie (aq (ar (irk 1 (.n 5 (.i 0) .r) (ie (ab 0 (al (fun m F h=>∃(k:Nat),(k≤xs.length)∧(Z1o ds.length (xs.drop k)=Z1o ds.length xs)∧F=[(0,Z2 ds),(1,nInt xs),(5,.i k)]∧h=[]∧m=xs.length-k) _ _ _ ⟨0,ob,ob,rfl,rfl,rfl⟩ (wk [] (fr (fr (fc (x:=.i 0) li fl)))) ?_)))))))))
 rintro m F h ⟨k,c0_0,c0_1,rfl,rfl,rfl⟩
 refine aq (ar (irk 2 (.n 6 (.i k) (.n 7 (nInt xs) .r)) (io (.i xs.length) (.i (((Z6 xs).length:Nat):Int)) (li (by rw [Z5])) (irk 1 (.n 9 (.b (decide ((k:Int)<(xs.length:Int)))) .r) (ie (ac (decide ((k:Int)<(xs.length:Int))) dq (fun hc1=>?_) (fun hc1=>?_)))))))
 ·refine ak (aq (ab 1 (ar (irk 2 (.n 12 (nInt xs) (.n 13 (.i k) .r)) ?_))))
  obtain ⟨x1,hx1⟩:=Z8 (xs:=xs) (j:=k) om
  refine is_ (Z0 (es:=Z6 xs) (hv:=none) (j:=(k:Int)) (sz:=1) (y:=.i x1) kr om (Za hx1) rfl) (irk 2 (.n 15 (.i x1) (.n 16 (Z2 ds) .r)) (io (.i ds.length) (.i (((Zt ds).length:Nat):Int)) (li (by rw [Z0a])) (ic [] (Z0y x1 0 (ds.length:Int)) ?_)))
  rintro _ _ ⟨rfl,rfl⟩
  refine irk 1 (.n 19 (.b (!(decide (0≤x1∧x1≤(ds.length:Int))))) .r) (ie (ac (!(decide (0≤x1∧x1≤(ds.length:Int)))) (p:=¬(0≤x1∧x1≤(ds.length:Int))) (Zc dq) (fun hc2=>?_) (fun hc2=>?_)))
  ·refine ar (ir 1 [(4,.b false)] (ie ?_))
   rw [Z7 hx1] at c0_1
   exact at_ (r2 [] [.b false] ⟨rfl,rfl⟩ (lb (by clear hx1;first|rfl|omega|grind [Z1o])))
  refine ak (az (irk 1 (.n 10 (.i k) .r) (ia (((k+1:Nat):Int)) (((k:Int))+(1)) (ir 1 [(0,Z2 ds),(1,nInt xs),(5,.i (k+1:Nat))] (ie ?_)))))
  have hdr:=Z7 hx1
  exact ⟨_,_,_,ob,⟨k+1,ob,(by rw [hdr] at c0_1;clear hdr hx1;grind [Z1o]),rfl,rfl,rfl⟩,(wk [] (fr (fr (fc (x:=.i (k+1:Nat)) li fl))))⟩
 refine ax 0 (ar (ir 1 [(4,.b true)] (ie ?_)))
 try rw [Zs (xs:=xs) (k:=k) om] at c0_1
 exact at_ (r2 [] [.b true] ⟨rfl,rfl⟩ (lb (by first|rfl|omega|grind [Z1o])))
end Go.Abs
end
section
namespace Go.Abs
open Go.Proofs
theorem Z84 (xs:List Int) (hl_xs:xs.length≤4294967296:=by exact ob):Z3 Tryz.prog 60 [nInt xs] [] (fun r h=>∃(v:Value),r=oInt xs v∧h=[.tail v 1]):=by
 refine enter Tryz.func60 kr (n:=8) kr kr (ar (ir 1 [(0,nInt xs)] (ie (aq (ar (irk 1 (.n 3 (nInt xs) .r) (iN (Z6 xs) (fun hz1=>?_) ?_)))))))
 ·have hz1:=Zgi hz1
  refine ie (ac1 (ar (ir 1 [(2,nl)] (ie (Z50 1 ?_)))))
  exact at_ (r2 [0] [nl] ⟨(.slice none 0 0),rfl,rfl⟩ (AVLe.slh _ (by first|rfl|(subst_vars;rfl))))
 refine ie (ac0 (ak (ar (iL (Z6 []) 0 1 ?_))))
 intro v1
 refine irk 1 (.n 6 (nInt xs) .r) (ip 0 (Z6 xs) (Z6 []) (Z6 xs) v1 none 1 (Z0x _) (Z0x _) (Z3n _) (by simp<;>omega) (by simp [Z6]) ?_)
 intro v2
 refine ir 1 [(2,oInt xs v2)] (ie ?_)
 exact at_ (r1 [0] ⟨v2,rfl,rfl⟩)
theorem Z9l (xs:List Int) (hl_xs:xs.length≤4294967296:=by exact ob):Z3 Tryz.prog 60 [nInt xs] [] (fun r h=>∃(v:Hd),r=.h v∧h=[rV v xs]):=by
 refine enter Tryz.func60 kr (n:=8) kr kr (ar (ir 1 [(0,nInt xs)] (ie (aq (ar (irk 1 (.n 3 (nInt xs) .r) (iN (Z6 xs) (fun hz1=>?_) ?_)))))))
 ·have hz1:=Zgi hz1
  refine ie (ac1 (ar (ir 1 [(2,nl)] (ie (Z2s tNil ?_)))))
  exact at_ (r2 [0] [nl] ⟨hN,rfl,rfl⟩ (AVLe.hd (v:=hN)) (eq:=(rv (xs:=[]) ob rz)))
 refine ie (ac0 (ak (ar (iVL [] 0 ?_))))
 intro v1
 refine irk 1 (.n 6 (nInt xs) .r) (iVP 0 v1 [] xs none ?_)
 intro v2
 refine ir 1 [(2,.h v2)] (ie ?_)
 exact at_ (r1 [0] ⟨v2,rfl,rfl⟩ (eq:=(rv (xs:=([]++xs)) ob rz)))
theorem Z7g (xs:List Int) (i:Int) (hl_xs:xs.length≤4294967296:=by exact ob):Z3 Tryz.prog 198 [nInt xs,.i i] [] (fun r h=>r=.i (Zm4 xs i)∧h=[]):=by
 refine enter Tryz.func198 kr (n:=19) kr kr (ar (ir 1 [(0,nInt xs),(1,.i i)] (ie (aq (ar (irk 1 (.n 6 (nInt xs) .r) (io (.i xs.length) (.i (((Z6 xs).length:Nat):Int)) (li (by rw [Z5])) (irk 1 (.n 8 (.i 0) .r) (ie (ab 0 (al (fun m F h=>∃(k:Nat),(k≤xs.length)∧(Zat i (xs.drop k) k=Zm4 xs i)∧F=[(0,nInt xs),(1,.i i),(7,.i xs.length),(8,.i k)]∧h=[]∧m=xs.length-k) _ _ _ ⟨0,ob,(by rfl),rfl,rfl,rfl⟩ (wk [] (fr (fr (fr (fc (x:=.i 0) li fl))))) ?_)))))))))))
 rintro m F h ⟨k,c0_0,c0_1,rfl,rfl,rfl⟩
 refine ar (irk 1 (.n 9 (.b (decide ((k:Int)<(xs.length:Int)))) .r) (ie (aq (ac (decide ((k:Int)<(xs.length:Int))) dq (fun hc1=>?_) (fun hc1=>?_)))))
 ·refine ak (aq (ab 1 (ar (irk 2 (.n 5 (.i k) .r) (ie (ar (irk 3 (.n 11 (.i i) (.n 12 (nInt xs) (.n 13 (.i k) .r))) ?_)))))))
  obtain ⟨x1,hx1⟩:=Z8 (xs:=xs) (j:=k) om
  refine is_ (Z0 (es:=Z6 xs) (hv:=none) (j:=(k:Int)) (sz:=1) (y:=.i x1) kr om (Za hx1) rfl) (irk 2 (.n 16 (.b (i==x1)) .r) (ie (ac (i==x1) beq_iff_eq (fun hc2=>?_) (fun hc2=>?_))))
  ·refine ar (ir 2 [(4,.i k)] (ie ?_))
   rw [Z7 hx1] at c0_1
   exact at_ (r2 [] [.i k] ⟨rfl,rfl⟩ (li (by clear hx1;first|rfl|omega|grind [Zat])))
  refine ak (az (ia (((k+1:Nat):Int)) (((k:Int))+(1)) (ir 1 [(0,nInt xs),(1,.i i),(7,.i xs.length),(8,.i (k+1:Nat))] (ie ?_))))
  have hdr:=Z7 hx1
  exact ⟨_,_,_,ob,⟨k+1,ob,(by rw [hdr] at c0_1;clear hdr hx1;grind [Zat]),rfl,rfl,rfl⟩,(wk [] (fr (fr (fr (fc (x:=.i (k+1:Nat)) li fl)))))⟩
 refine ax 0 (ar (ir 1 [(4,.i (-1))] (ie ?_)))
 try rw [Zs (xs:=xs) (k:=k) om] at c0_1
 exact at_ (r2 [] [.i (-1)] ⟨rfl,rfl⟩ (li (by first|rfl|omega|grind [Zat])))
theorem Z3a (xs:List Int) (i:Int) (hl_xs:xs.length≤4294967296:=by exact ob):Z3 Tryz.prog 162 [nInt xs,.i i] [] (fun r h=>r=.b (decide (i∈xs))∧h=[]):=by
 refine enter Tryz.func162 kr (n:=9) kr kr (ar (ir 1 [(0,nInt xs),(1,.i i)] (ie (ar (ir 2 [(5,nInt xs),(6,.i i)] (ic [] (Z7g xs i) ?_))))))
 rintro _ _ ⟨rfl,rfl⟩
 refine ir 2 [(4,.b (decide ((Zm4 xs i)≥0)))] (ie ?_)
 exact at_ (r2 [] [.b (decide ((Zm4 xs i)≥0))] ⟨rfl,rfl⟩ (lb (Zrt xs i)))
theorem Z18 (xs:List Int) (ys:List Int) (hl_xs:xs.length≤4294967296:=by exact ob) (hl_ys:ys.length≤4294967296:=by exact ob):Z3 Tryz.prog 215 [nInt xs,nInt ys] [] (fun r h=>r=.b (decide (xs=ys))∧h=[]):=by
 refine enter Tryz.func215 kr (n:=26) kr kr (ar (ir 1 [(0,nInt xs),(1,nInt ys)] (ie (aq (ar (irk 1 (.n 6 (nInt xs) .r) (io (.i xs.length) (.i (((Z6 xs).length:Nat):Int)) (li (by rw [Z5])) (irk 1 (.n 8 (nInt ys) .r) (io (.i ys.length) (.i (((Z6 ys).length:Nat):Int)) (li (by rw [Z5])) (irk 1 (.n 10 (.b ((xs.length:Int) != (ys.length:Int))) .r) (ie (ac ((xs.length:Int) != (ys.length:Int)) bne_iff_ne (fun hc1=>?_) (fun hc1=>?_)))))))))))))
 ·refine ar (ir 1 [(4,.b false)] (ie ?_))
  exact at_ (r2 [] [.b false] ⟨rfl,rfl⟩ (lb (eq_comm.1 (decide_eq_false (fun q=>by rw [q] at hc1;exact hc1 rfl)))))
 refine ak (aq (ar (irk 1 (.n 11 (nInt xs) .r) (io (.i xs.length) (.i (((Z6 xs).length:Nat):Int)) (li (by rw [Z5])) (irk 1 (.n 13 (.i 0) .r) (ie (ab 0 (al (fun m F h=>∃(k:Nat),(k≤xs.length)∧(xs.take k=ys.take k)∧F=[(0,nInt xs),(1,nInt ys),(12,.i xs.length),(13,.i k)]∧h=[]∧m=xs.length-k) _ _ _ ⟨0,ob,ob,rfl,rfl,rfl⟩ (wk [] (fr (fr (fr (fc (x:=.i 0) li fl))))) ?_))))))))
 rintro m F h ⟨k,c0_0,c0_1,rfl,rfl,rfl⟩
 refine ar (irk 1 (.n 14 (.b (decide ((k:Int)<(xs.length:Int)))) .r) (ie (aq (ac (decide ((k:Int)<(xs.length:Int))) dq (fun hc2=>?_) (fun hc2=>?_)))))
 ·refine ak (aq (ab 1 (ar (irk 2 (.n 5 (.i k) .r) (ie (aD 9 (dtk (fuel:=7) 9 [0,1] (.n 16 (nInt xs) (.n 17 (.i k) .r)) ?_)))))))
  obtain ⟨x1,hx1⟩:=Z8 (xs:=xs) (j:=k) om
  refine dx 2 (Z0 (es:=Z6 xs) (hv:=none) (j:=(k:Int)) (sz:=1) (y:=.i x1) kr om (Za hx1) rfl) (dtk (fuel:=3) 6 [3,4,5] (.n 19 (.i x1) (.n 20 (nInt ys) (.n 21 (.i k) .r))) ?_)
  obtain ⟨x2,hx2⟩:=Z8 (xs:=ys) (j:=k) om
  refine dx 6 (Z0 (es:=Z6 ys) (hv:=none) (j:=(k:Int)) (sz:=1) (y:=.i x2) kr om (Za hx2) rfl) (dtk (fuel:=0) 2 [7,8] (.n 24 (.b (x1 != x2)) .r) (de (ac (x1 != x2) bne_iff_ne (fun hc3=>?_) (fun hc3=>?_))))
  ·refine ar (ir 1 [(4,.b false)] (ie ?_))
   exact at_ (r2 [] [.b false] ⟨rfl,rfl⟩ (lb (eq_comm.1 (decide_eq_false (fun q=>by subst q;rw [hx1] at hx2;cases hx2;exact hc3 rfl)))))
  refine ak (az (ia (((k+1:Nat):Int)) (((k:Int))+(1)) (ir 1 [(0,nInt xs),(1,nInt ys),(12,.i xs.length),(13,.i (k+1:Nat))] (ie ?_))))
  have hdr:=Z7 hx1
  exact ⟨_,_,_,ob,⟨k+1,ob,(by rw [Z1y hx1,Z1y hx2,c0_1];have hxx:x1=x2:=om;rw [hxx]),rfl,rfl,rfl⟩,(wk [] (fr (fr (fr (fc (x:=.i (k+1:Nat)) li fl)))))⟩
 refine ax 0 (ar (ir 1 [(4,.b true)] (ie ?_)))
 exact at_ (r2 [] [.b true] ⟨rfl,rfl⟩ (lb (eq_comm.1 (decide_eq_true (by rw [List.take_of_length_le om,List.take_of_length_le om] at c0_1;exact c0_1)))))
theorem Z80 (m:Nat) (hm:m≤4294967296:=by exact ob):Z3 Tryz.prog 223 [nl,.i m] [] (fun r h=>∃(v:Hd),r=.h v∧h=[rV v []]):=by
 refine enter Tryz.func223 kr (n:=27) kr kr (Z2s tNil (Zg1 (F':=[(0,.h hN),(1,.i m)]) (h':=[rV hN []]) (wk [0] (fc (x:=nl) (AVLe.hd (v:=hN)) ( fc (x:=.i m) (lr _) (Zue _)))) (ar (ir 1 [(0,.h hN),(1,.i m)] (ie (aq (ar (irk 2 (.n 6 (.b (decide ((m:Int)<0))) .r) (ie (ac (decide ((m:Int)<0)) dq (fun hc1=>?_) (fun hc1=>?_)))))))))))
 ·exfalso;omega
 refine ak (aq (ar (irk 2 (.n 8 (.i m) (.n 9 (.h hN) .r)) (is_ (StOK.le (Z002 hN) (li (by rfl))) (irk 1 (.n 11 (.h hN) .r) (is_ (StOK.le (vLen 0 hN []) (li (by rfl))) (ia ((0-0)) ((0)-(0)) (ia ((m:Int)) (((m:Int))-((0-0))) (ir 1 [(0,.h hN),(1,.i m)] (ie (ar (irk 2 (.n 16 (.b (decide ((m:Int)>0))) .r) (ie (ac (decide ((m:Int)>0)) dq (fun hc2=>?_) (fun hc2=>?_)))))))))))))))
 ·refine az (irk 2 (.n 17 (.h hN) (.n 18 (.h hN) .r)) (is_ (StOK.le (Z002 hN) (li (by rfl))) (is_ (vCut 0 hN [] 0) (irk 1 (.n 21 (.i m) .r) (iZ m ?_)))))
  intro v1
  refine irk 1 (.n 23 (.h hN) .r) (is_ (StOK.le (vLen 1 hN []) (li (by rfl))) (is_ (vCut 0 v1 (List.replicate m 0) 0) (ir 1 [(0,.h (v1.cut 0))] (ie (ar (ir 2 [(4,.h (v1.cut 0))] (ie (Z2s (tCut 0 0 v1 (List.replicate m 0)) ?_))))))))
  exact at_ (r1 [0] ⟨(v1.cut 0),rfl,rfl⟩ (eq:=(rv (xs:=((List.replicate m 0).take 0)) ob rz)))
 refine ak (ar (ir 2 [(4,.h hN)] (ie ?_)))
 exact at_ (r1 [0] ⟨hN,rfl,rfl⟩)
theorem Z7c (xss:List (List Int)) (hl_xss:xss.length≤4294967296:=by exact ob) (hf:xss.flatten.length≤4294967296:=by exact ob):Z3 Tryz.prog 214 [Z30 xss] [] (fun r h=>∃(v:Value),r=oInt xss.flatten v∧h=[.tail v 1]):=by
 have hft:=Zlw xss
 refine enter Tryz.func214 kr (n:=36) kr kr (ar (ir 1 [(0,Z30 xss)] (ie (ar (irk 1 (.n 3 (.i 0) .r) (ie (aq (ar (irk 1 (.n 9 (Z30 xss) .r) (io (.i xss.length) (.i (((Z33 xss).length:Nat):Int)) (li (by rw [Z6r])) (irk 1 (.n 11 (.i 0) .r) (ie (ab 0 (al (fun m F h=>∃(k:Nat) (q:Nat),(k≤xss.length)∧(q=(xss.take k).flatten.length)∧F=[(0,Z30 xss),(3,.i q),(9,Z30 xss),(10,.i xss.length),(11,.i k)]∧h=[]∧m=xss.length-k) _ _ _ ⟨0,0,ob,(by simp),rfl,rfl,rfl⟩ (wk [] (fr (fc (x:=.i 0) li (fr (fr (fc (x:=.i 0) li fl)))))) ?_))))))))))))))
 rintro m F h ⟨k,q,c0_0,c0_1,rfl,rfl,rfl⟩
 refine ar (irk 1 (.n 12 (.b (decide ((k:Int)<(xss.length:Int)))) .r) (ie (aq (ac (decide ((k:Int)<(xss.length:Int))) dq (fun hc1=>?_) (fun hc1=>?_)))))
 ·refine ak (aq (ab 1 (ar ?_)))
  obtain ⟨x1,hx1⟩:=Z8 (xs:=xss) (j:=k) om
  refine is_ (Z0 (es:=Z33 xss) (hv:=none) (j:=(k:Int)) (sz:=1) (y:=nInt x1) kr om (Z4o hx1) rfl) (irk 2 (.n 5 (nInt x1) .r) (ie (ar (irk 2 (.n 15 (.i q) (.n 16 (nInt x1) .r)) (io (.i x1.length) (.i (((Z6 x1).length:Nat):Int)) (li (by rw [Z5])) (ia (((q+x1.length:Nat):Int)) (((q:Int))+((x1.length:Int))) (hb:=(by have:=Zit hx1;omega)) (irk 1 (.n 3 (.i (q+x1.length:Nat)) (.p (.p (.d (.d (.d (.p (.d (.k (.d .r)))))))))) (ie (ar (irk 2 (.n 20 (.b (decide (((q+x1.length:Nat):Int)<0))) .r) (ie (ac (decide (((q+x1.length:Nat):Int)<0)) dq (fun hc2=>?_) (fun hc2=>?_)))))))))))))
  ·exfalso;omega
  refine ak (az (ia (((k+1:Nat):Int)) (((k:Int))+(1)) (irk 1 (.n 11 (.i (k+1:Nat)) (.p (.d (.k (.k (.k (.k .z))))))) (ie ?_))))
  have hdr:=Z7 hx1
  exact ⟨_,_,_,ob,⟨k+1,q+x1.length,ob,(by rw [Zgn hx1,List.length_append,c0_1]),rfl,rfl,rfl⟩,(wk [] (fr (fc (x:=.i (q+x1.length:Nat)) li (fr (fr (fc (x:=.i (k+1:Nat)) li fl))))))⟩
 refine ax 0 (ar (irk 1 (.n 23 (.i q) .r) (ic [] (Z80 q (hm:=(by have:=hft k;omega))) ?_)))
 rintro _ _ ⟨v1,rfl,rfl⟩
 refine irk 1 (.n 6 (.h v1) .r) (ie (aq (ar (irk 1 (.n 25 (Z30 xss) .r) (io (.i xss.length) (.i (((Z33 xss).length:Nat):Int)) (li (by rw [Z6r])) (irk 1 (.n 27 (.i 0) .r) (ie (ab 2 (al (fun m F h=>∃(j:Nat) (v:Hd),(j≤xss.length)∧F=[(6,.h v),(25,Z30 xss),(26,.i xss.length),(27,.i j)]∧h=[rV v ((xss.take j).flatten)]∧m=xss.length-j) _ _ _ ⟨0,v1,ob,rfl,rfl,rfl⟩ (wk [0] (fr (fr (fr (fc (x:=.i 0) li fl)))) (e:=(rv (xs:=[]) ob rz))) ?_)))))))))
 rintro m F h ⟨j,v,c1_0,rfl,rfl,rfl⟩
 refine ar (irk 1 (.n 28 (.b (decide ((j:Int)<(xss.length:Int)))) .r) (ie (aq (ac (decide ((j:Int)<(xss.length:Int))) dq (fun hc3=>?_) (fun hc3=>?_)))))
 ·refine ak (aq (ab 3 (ar ?_)))
  obtain ⟨x2,hx2⟩:=Z8 (xs:=xss) (j:=j) om
  refine is_ (Z0 (es:=Z33 xss) (hv:=none) (j:=(j:Int)) (sz:=1) (y:=nInt x2) kr om (Z4o hx2) rfl) (irk 2 (.n 8 (nInt x2) .r) (ie (az (irk 2 (.n 31 (.h v) (.n 32 (nInt x2) .r)) (iVP 0 v ((xss.take j).flatten) x2 none (hbound:=(by have:=Zit hx2;omega)) ?_)))))
  intro v2
  refine irk 1 (.n 6 (.h v2) (.p (.d (.d (.d (.p (.d (.d .r)))))))) (ie (az (ia (((j+1:Nat):Int)) (((j:Int))+(1)) (irk 1 (.n 27 (.i (j+1:Nat)) (.p (.k (.k (.k .z))))) (ie ?_)))))
  have hdr:=Z7 hx2
  exact ⟨_,_,_,ob,⟨j+1,v2,ob,rfl,rfl,rfl⟩,(wk [0] (fr (fr (fr (fc (x:=.i (j+1:Nat)) li fl)))) (e:=(rv (xs:=((xss.take j).flatten++x2)) (Zgn hx2).symm rz)))⟩
 refine ax 2 (ar (ir 2 [(2,.h v)] (ie (Zt2 2 0 (v:=v) (xs:=(xss.take j).flatten) ?_))))
 exact at_ (r2 [0] [oInt ((xss.take j).flatten) v.v] ⟨v.v,rfl,rfl⟩ (AVLe.slh _ (congrArg Z6 (by rw [List.take_of_length_le om]))))
end Go.Abs
end
section
namespace Go.Abs
open Go.Proofs
theorem Z61 (ds:List Decl) (t:Int) (hl_ds:ds.length≤4294967296:=by exact ob):Z3 Tryz.prog 119 [Z2 ds,.i t] [] (fun r h=>r=.b (decide (0≤t∧t≤ds.length))∧h=[]):=by
 refine enter Tryz.func119 kr (n:=13) kr kr (ar (ir 1 [(0,Z2 ds),(1,.i t)] (ie (ar (Z1i 8 [(12,.b ((decide (t≥0))&&(decide (t≤(ds.length:Int)))))] [] ?_ (fun hj1=>?_))))))
 ·refine ir 1 [(4,.b ((decide (t≥0))&&(decide (t≤(ds.length:Int)))))] (ie ?_)
  exact at_ (r2 [] [.b ((decide (t≥0))&&(decide (t≤(ds.length:Int))))] ⟨rfl,rfl⟩ (lb (by rw [Bool.eq_iff_iff];simp)))
 refine ir 3 [(0,Z2 ds),(1,.i t),(7,.b (decide (t≥0)))] (ib (b:=(decide (t≥0))) 7 (fun hb1=>?_) (fun hb1=>?_))
 ·have hp1:t≥0:=(dq).1 hb1
  refine irk 2 (.n 8 (.i t) (.n 9 (Z2 ds) (.k .z))) (io (.i ds.length) (.i (((Zt ds).length:Nat):Int)) (li (by rw [Z0a])) (ir 2 [(12,.b (decide (t≤(ds.length:Int))))] ?_))
  exact Zz (wk [] (fc (x:=.b (decide (t≤(ds.length:Int)))) (lb (by simp only [hb1];rfl)) fl)) hj1
 have hp2:¬(t≥0):=Zd dq hb1
 refine ir 5 [(12,.b false)] ?_
 exact Zz (wk [] (fc (x:=.b false) (lb (by simp only [hb1];rfl)) fl)) hj1
theorem Z94 (ds:List Decl) (xs:List Int) (hl_ds:ds.length≤4294967296:=by exact ob) (hl_xs:xs.length≤4294967296:=by exact ob):Z3 Tryz.prog 118 [Z2 ds,nInt xs] [] (fun r h=>r=.b (Z1o ds.length xs)∧h=[]):=by
 refine enter Tryz.func118 kr (n:=18) kr kr (ar (ir 1 [(0,Z2 ds),(1,nInt xs)] (ie (aq (ar (irk 1 (.n 7 (nInt xs) .r) (io (.i xs.length) (.i (((Z6 xs).length:Nat):Int)) (li (by rw [Z5])) (irk 1 (.n 9 (.i 0) .r) (ie (ab 0 (al (fun m F h=>∃(k:Nat),(k≤xs.length)∧(Z1o ds.length (xs.drop k)=Z1o ds.length xs)∧F=[(0,Z2 ds),(7,nInt xs),(8,.i xs.length),(9,.i k)]∧h=[]∧m=xs.length-k) _ _ _ ⟨0,ob,ob,rfl,rfl,rfl⟩ (wk [] (fr (fr (fr (fc (x:=.i 0) li fl))))) ?_)))))))))))
 rintro m F h ⟨k,c0_0,c0_1,rfl,rfl,rfl⟩
 refine ar (irk 1 (.n 10 (.b (decide ((k:Int)<(xs.length:Int)))) .r) (ie (aq (ac (decide ((k:Int)<(xs.length:Int))) dq (fun hc1=>?_) (fun hc1=>?_)))))
 ·refine ak (aq (ab 1 (ar ?_)))
  obtain ⟨x1,hx1⟩:=Z8 (xs:=xs) (j:=k) om
  refine is_ (Z0 (es:=Z6 xs) (hv:=none) (j:=(k:Int)) (sz:=1) (y:=.i x1) kr om (Za hx1) rfl) (irk 2 (.n 6 (.i x1) .r) (ie (ar (irk 2 (.n 13 (Z2 ds) (.n 14 (.i x1) .r)) (ic [] (Z61 ds x1) ?_)))))
  rintro _ _ ⟨rfl,rfl⟩
  refine irk 1 (.n 16 (.b (!(decide (0≤x1∧x1≤ds.length)))) .r) (ie (ac (!(decide (0≤x1∧x1≤ds.length))) (p:=¬(0≤x1∧x1≤ds.length)) (Zc dq) (fun hc2=>?_) (fun hc2=>?_)))
  ·refine ar (ir 1 [(4,.b false)] (ie ?_))
   rw [Z7 hx1] at c0_1
   exact at_ (r2 [] [.b false] ⟨rfl,rfl⟩ (lb (by clear hx1;first|rfl|omega|grind [Z1o])))
  refine ak (az (ia (((k+1:Nat):Int)) (((k:Int))+(1)) (irk 1 (.n 9 (.i (k+1:Nat)) (.p (.d (.p (.d (.d (.d (.p (.d (.k (.k (.k .z)))))))))))) (ie ?_))))
  have hdr:=Z7 hx1
  exact ⟨_,_,_,ob,⟨k+1,ob,(by rw [hdr] at c0_1;clear hdr hx1;grind [Z1o]),rfl,rfl,rfl⟩,(wk [] (fr (fr (fr (fc (x:=.i (k+1:Nat)) li fl)))))⟩
 refine ax 0 (ar (ir 1 [(4,.b true)] (ie ?_)))
 try rw [Zs (xs:=xs) (k:=k) om] at c0_1
 exact at_ (r2 [] [.b true] ⟨rfl,rfl⟩ (lb (by first|rfl|omega|grind [Z1o])))
theorem Zf2 (ds:List Decl) (hd:DOk ds:=by exact ob):Z3 Tryz.prog 166 [Z2 ds] [] (fun r h=>r=.i (Zv ds:Nat)∧h=[]):=by
 have hdl:=hd.len
 refine enter Tryz.func166 kr (n:=19) kr kr (ar (ir 1 [(0,Z2 ds)] (ie (ar (irk 1 (.n 3 (.i 0) .r) (ie (aq (ar (irk 1 (.n 6 (Z2 ds) .r) (io (.i ds.length) (.i (((Zt ds).length:Nat):Int)) (li (by rw [Z0a])) (irk 1 (.n 8 (.i 0) .r) (ie (ab 0 (al (fun m F h=>∃(k:Nat),(k≤ds.length)∧F=[(3,.i ((Zv (ds.take k):Nat):Int)),(6,Z2 ds),(7,.i ds.length),(8,.i k)]∧h=[]∧m=ds.length-k) _ _ _ ⟨0,ob,rfl,rfl,rfl⟩ (wk [] (fc (x:=.i 0) li (fr (fr (fc (x:=.i 0) li fl))))) ?_))))))))))))))
 rintro m F h ⟨k,c0_0,rfl,rfl,rfl⟩
 refine ar (irk 1 (.n 9 (.b (decide ((k:Int)<(ds.length:Int)))) .r) (ie (aq (ac (decide ((k:Int)<(ds.length:Int))) dq (fun hc1=>?_) (fun hc1=>?_)))))
 ·refine ak (aq (ab 1 (ar ?_)))
  obtain ⟨x1,hx1⟩:=Z8 (xs:=ds) (j:=k) om
  refine is_ (Z0 (es:=Zt ds) (hv:=none) (j:=(k:Int)) (sz:=3) (y:=Z2r x1) kr om (Z0z hx1) rfl) (irk 1 (.n 11 (Z2r x1) .r) (iA [.i 0,.i 0,nl] ?_))
  intro b1
  refine iS 0 b1 0 (Z2i x1) [.i 0,.i 0,nl] (Z2i x1) (ie (az (irK 3 (.n 12 (.i ((Zv (ds.take k):Nat):Int)) (.n 14 (nCon x1.cons) .r)) [0] [b1] (io (.i x1.cons.length) (.i (((Z1e x1.cons).length:Nat):Int)) (li (by rw [Z0f])) (ia (((Zv (ds.take k)+x1.cons.length:Nat):Int)) ((((Zv (ds.take k):Nat):Int))+((x1.cons.length:Int))) (hb:=(by have h1:=hd.cons_at hx1;have h2:=(hd.take k).sum;omega)) (irk 1 (.n 3 (.i ((Zv (ds.take k)+x1.cons.length:Nat):Int)) (.p (.p (.d (.d (.p (.d (.p (.d (.d .r)))))))))) (ie (az (ia (((k+1:Nat):Int)) (((k:Int))+(1)) (irk 1 (.n 8 (.i (k+1:Nat)) (.p (.k (.k (.k .z))))) (ie ?_)))))))))))
  have hdr:=Z7 hx1
  exact ⟨_,_,_,ob,⟨k+1,ob,rfl,rfl,rfl⟩,(wk [] (fc (x:=.i ((Zv (ds.take k)+x1.cons.length:Nat):Int)) (li (by rw [Z1y hx1,Z58];simp [Zv])) (fr (fr (fc (x:=.i (k+1:Nat)) li fl)))))⟩
 refine ax 0 (ar (ir 2 [(2,.i ((Zv (ds.take k):Nat):Int))] (ie ?_)))
 exact at_ (r2 [] [.i ((Zv (ds.take k):Nat):Int)] ⟨rfl,rfl⟩ (li (by rw [List.take_of_length_le om])))
theorem Zce (ds:List Decl) (c:Int) (hd:DOk ds:=by exact ob) (hc:-9223372036854775808≤c∧c≤9223372036854775807:=by exact ob):Z3 Tryz.prog 167 [Z2 ds,.i c] [] (fun r h=>r=.tup [.i (Z07 ds c),.agg [nInt (Z1 ds c)]]∧h=[]):=by
 have hdl:=hd.len
 refine enter Tryz.func167 kr (n:=38) kr kr (ar (ir 1 [(0,Z2 ds),(1,.i c)] (iA [nl] ?_)))
 intro b1
 refine ie (aq (ar (irk 1 (.n 8 (Z2 ds) .r) (io (.i ds.length) (.i (((Zt ds).length:Nat):Int)) (li (by rw [Z0a])) (irk 1 (.n 10 (.i 0) .r) (ie (ab 0 (al (fun m F h=>∃(k:Nat) (cv:Int),(k≤ds.length)∧(AtC c (Zv (ds.take k)) cv)∧(Z3u c (ds.drop k) k (Zv (ds.take k))=Z3u c ds 0 0)∧F=[(1,.i cv),(5,.p b1 0),(8,Z2 ds),(9,.i ds.length),(10,.i k)]∧h=[.obj b1 [nl]]∧m=ds.length-k) _ _ _ ⟨0,c,ob,(.inl (by simp [Zv])),rfl,rfl,rfl,rfl⟩ (wk [0] (fr (fr (fr (fr (fc (x:=.i 0) li fl)))))) ?_))))))))
 rintro m F h ⟨k,cv,c0_0,c0_1,c0_2,rfl,rfl,rfl⟩
 refine ar (irk 1 (.n 11 (.b (decide ((k:Int)<(ds.length:Int)))) .r) (ie (aq (ac (decide ((k:Int)<(ds.length:Int))) dq (fun hc1=>?_) (fun hc1=>?_)))))
 ·refine ak (aq (ab 1 (ar (irk 1 (.n 12 (.i k) .r) ?_))))
  obtain ⟨x1,hx1⟩:=Z8 (xs:=ds) (j:=k) om
  refine is_ (Z0 (es:=Zt ds) (hv:=none) (j:=(k:Int)) (sz:=3) (y:=Z2r x1) kr om (Z0z hx1) rfl) (irk 1 (.n 14 (Z2r x1) .r) (iA [.i 0,.i 0,nl] ?_))
  intro b2
  refine irk 1 (.n 6 (.i k) .r) (iS 0 b2 0 (Z2i x1) [.i 0,.i 0,nl] (Z2i x1) (ie (aq (ar (Z27 [(1,.i cv),(5,.p b1 0),(6,.i k),(7,.p b2 0),(8,Z2 ds),(9,.i ds.length),(10,.i k),(23,.b ((decide (cv≥0))&&(decide (cv<(x1.cons.length:Int)))))] [.obj b2 (Z2i x1),.obj b1 [nl]] ?_ ?_)))))
  ·refine ir 3 [(1,.i cv),(5,.p b1 0),(6,.i k),(7,.p b2 0),(8,Z2 ds),(9,.i ds.length),(10,.i k),(17,.b (decide (cv≥0)))] (ib (b:=(decide (cv≥0))) 17 (fun hb1=>?_) (fun hb1=>?_))
   ·have hp1:cv≥0:=(dq).1 hb1
    refine irK 3 (.n 18 (.i cv) (.n 20 (nCon x1.cons) (.k (.k (.k (.k (.k (.k (.k (.k .z)))))))))) [0] [b2] (io (.i x1.cons.length) (.i (((Z1e x1.cons).length:Nat):Int)) (li (by rw [Z0f])) (irk 2 (.n 23 (.b (decide (cv<(x1.cons.length:Int)))) .r) (ie ?_)))
    exact wk [0,0] (fr (fr (fr (fr (fr (fr (fr (fc (x:=.b (decide (cv<(x1.cons.length:Int)))) (lb (by simp only [hb1];rfl)) fl))))))))
   have hp2:¬(cv≥0):=Zd dq hb1
   refine irk 6 (.n 23 (.b false) (.d (.k (.k (.k (.k (.k (.k (.k .z))))))))) (ie ?_)
   exact wk [0,0] (fr (fr (fr (fr (fr (fr (fr (fc (x:=.b false) (lb (by simp only [hb1];rfl)) fl))))))))
  refine ac ((decide (cv≥0))&&(decide (cv<(x1.cons.length:Int)))) (p:=(cv≥0)∧(cv<(x1.cons.length:Int))) (Zk dq dq) (fun hc2=>?_) (fun hc2=>?_)
  ·refine aD 9 (dt (fuel:=8) 9 [0] [(1,.i cv),(5,.p b1 0),(7,.p b2 0),(24,.i k)] (da 1 (((k+1:Nat):Int)) (((k:Int))+(1)) (dtK (fuel:=4) 7 [2,3,4] (.n 27 (nCon x1.cons) (.n 28 (.i cv) .r)) [0] [b2] ?_)))
   obtain ⟨x2,hx2⟩:=Z8 (xs:=x1.cons) (j:=cv.toNat) om
   refine dx 5 (Z0 (es:=Z1e x1.cons) (hv:=none) (j:=cv) (sz:=1) (y:=aCon x2) kr om (Z4h hx2) rfl) (dtk (fuel:=1) 3 [6,7] (.n 4 (.i (k+1:Nat)) (.n 30 (aCon x2) .r)) (do_ 8 (dS 8 1 [] [] b1 0 (lCon x2) [nl] (lCon x2) (de ?_))))
   have hz:=(hd.take k).sum
   have h3:=hd.cons_at hx1
   have hH:=c0_2.symm.trans (Zln hx1 c0_1 om h3 hc.1 hc2 hx2)
   exact at_ (r3 [] [.i (k+1:Nat),aCon x2] [0] [(b1,b1)] ⟨rfl,rfl⟩ (AVLe.tup (.cons (li (by rw [Z07,hH];omega)) (.cons (AVLe.agg (.cons (AVLe.sl _ (congrArg Z6 (by rw [Z1,hH]))) .nil)) .nil))))
  refine ak (az (iR 3 [(5,.p b1 0),(8,Z2 ds),(9,.i ds.length),(10,.i k),(31,.i cv),(33,nCon x1.cons)] [0] [b2] (io (.i x1.cons.length) (.i (((Z1e x1.cons).length:Nat):Int)) (li (by rw [Z0f])) (iW ((cv)-((x1.cons.length:Int))) (irk 1 (.n 1 (.i (wrp ((cv)-((x1.cons.length:Int))))) .r) (ie (az (ia (((k+1:Nat):Int)) (((k:Int))+(1)) (irk 1 (.n 10 (.i (k+1:Nat)) (.p (.k (.p (.p (.k (.k (.k .z)))))))) (ie ?_))))))))))
  have hdr:=Z7 hx1
  exact ⟨_,_,_,ob,⟨k+1,(wrp ((cv)-((x1.cons.length:Int)))),ob,(by have hz:=(hd.take k).sum;have h3:=hd.cons_at hx1;rw [Z1y hx1,Z58];simpa [Zv] using Z03b c0_1 om h3 hc),(Zo1 hx1 c0_1 hc2 c0_2),rfl,rfl,rfl⟩,(wk [1] (fr (fr (fr (fr (fc (x:=.i (k+1:Nat)) li fl))))))⟩
 refine ax 0 (ar (irk 2 (.n 4 (.i (-1)) (.n 37 (.agg [nl]) .r)) (iS 0 b1 0 [nl] [nl] [nl] (ie ?_))))
 have hH:Z3u c ds 0 0=(-1,[]):=by rw [←c0_2,Zs om];rfl
 exact at_ (r3 [] [.i (-1),.agg [nl]] [0] [(b1,b1)] ⟨rfl,rfl⟩ (AVLe.tup (.cons (li (by rw [Z07,hH])) (.cons (AVLe.agg (.cons (AVLe.sl _ (by rw [Z1,hH];rfl)) .nil)) .nil))))
theorem Zf3 (ds:List Decl) (c:Int) (hd:DOk ds:=by exact ob) (hc:-9223372036854775808≤c∧c≤9223372036854775807:=by exact ob):Z3 Tryz.prog 124 [Z2 ds,.i c] [] (fun r h=>r=nInt (Z1 ds c)∧h=[]):=by
 refine enter Tryz.func124 kr (n:=15) kr kr (ar (ir 1 [(0,Z2 ds),(1,.i c)] (ie (ar (ir 2 [(8,Z2 ds),(9,.i c)] (ic [] (Zce ds c) ?_))))))
 rintro _ _ ⟨rfl,rfl⟩
 refine ir 3 [(11,.i (Z07 ds c)),(12,.agg [nInt (Z1 ds c)])] (iA [nl] ?_)
 intro b1
 refine irk 1 .r (iS 0 b1 0 [nInt (Z1 ds c)] [nl] [nInt (Z1 ds c)] (ie (ar (iR 3 [(4,nInt (Z1 ds c))] [0] [b1] (ie ?_)))))
 exact at_ (r1 [] ⟨rfl,rfl⟩)
theorem Zhw (ds:List Decl) (t:Int) (hd:DOk ds:=by exact ob):Z3 Tryz.prog 123 [Z2 ds,.i t] [] (fun r h=>r=nInt (Zb ds t)∧h=[]):=by
 have hdl:=hd.len
 refine enter Tryz.func123 kr (n:=39) kr kr (ar (ir 1 [(0,Z2 ds),(1,.i t)] (ie (aq (ar (Z27 [(0,Z2 ds),(1,.i t),(15,.b ((decide (t<1))||(decide (t>(ds.length:Int)))))] [] ?_ ?_))))))
 ·refine ir 3 [(0,Z2 ds),(1,.i t),(10,.b (decide (t<1)))] (ib (b:=(decide (t<1))) 10 (fun hb1=>?_) (fun hb1=>?_))
  ·have hp1:t<1:=(dq).1 hb1
   refine irk 5 (.n 15 (.b true) (.d (.k (.k .z)))) (ie ?_)
   exact wk [] (fr (fr (fc (x:=.b true) (lb (by simp only [hb1];rfl)) fl)))
  have hp2:¬(t<1):=Zd dq hb1
  refine irk 2 (.n 11 (.i t) (.n 12 (Z2 ds) (.k (.k (.k .z))))) (io (.i ds.length) (.i (((Zt ds).length:Nat):Int)) (li (by rw [Z0a])) (irk 2 (.n 15 (.b (decide (t>(ds.length:Int)))) .r) (ie ?_)))
  exact wk [] (fr (fr (fc (x:=.b (decide (t>(ds.length:Int)))) (lb (by simp only [hb1];rfl)) fl)))
 refine ac ((decide (t<1))||(decide (t>(ds.length:Int)))) (p:=(t<1)∨(t>(ds.length:Int))) (Zf dq dq) (fun hc1=>?_) (fun hc1=>?_)
 ·refine ar (ir 1 [(4,nl)] (ie ?_))
  exact at_ (r2 [] [nl] ⟨rfl,rfl⟩ (AVLe.sl _ (by rw [Zb,if_neg om];rfl)))
 have hti:1≤t∧t≤ds.length:=by omega
 obtain ⟨d,hd1⟩:=Z8 (xs:=ds) (j:=(t-1).toNat) om
 have hdc:=hd.cons_at hd1
 have hsm:=(hd.take (t-1).toNat).sum
 refine ak (ar (ir 2 [(0,Z2 ds),(1,.i t),(16,Z2 ds),(17,.i t)] (ia ((((t-1).toNat:Nat):Int)) ((t)-(1)) (is_ (Z4s (es:=Zt ds) (hv:=none) (l:=0) (m:=(((t-1).toNat:Nat):Int)) (sz:=3) (es':=Zt (ds.take ((t-1).toNat))) kr om (by simp<;>omega) (by simp<;>omega) (Z6w _) (by first|(simp only [Int.toNat_natCast,List.take_length,Z5r,Z5q];done)|(simp only [Int.toNat_natCast,List.take_length,Z5r,Z5q];rfl)|(simp [Z5r,Z5q];done))) (ic [] (Zf2 (ds.take ((t-1).toNat)) (hd:=(hd.take _))) ?_)))))
 rintro _ _ ⟨rfl,rfl⟩
 refine irk 1 (.n 5 (.i ((Zv (ds.take ((t-1).toNat)):Nat):Int)) .r) (ie (ar (irk 1 (.n 6 (nl) .r) (ie (aq (ar (irk 2 (.n 21 (Z2 ds) (.n 22 (.i t) .r)) (ia ((((t-1).toNat:Nat):Int)) ((t)-(1)) (is_ (Z0 (es:=Zt ds) (hv:=none) (j:=(((t-1).toNat:Nat):Int)) (sz:=3) (y:=Z2r d) kr om (Z0z hd1) rfl) (irk 2 (.n 26 (nCon d.cons) .r) (io (.i d.cons.length) (.i (((Z1e d.cons).length:Nat):Int)) (li (by rw [Z0f])) (irk 1 (.n 28 (.i 0) .r) (ie (ab 0 (Z50 1 (al (fun m F h=>∃(k:Nat) (v:Value),(k≤d.cons.length)∧F=[(5,.i ((Zv (ds.take ((t-1).toNat)):Nat):Int)),(6,oInt (Z17 (Zv (ds.take (t-1).toNat)) k) v),(27,.i d.cons.length),(28,.i k)]∧h=[.tail v 1]∧m=d.cons.length-k) _ _ _ ⟨0,(.slice none 0 0),ob,rfl,rfl,rfl⟩ (wk [0] (fr (fc (x:=nl) (AVLe.slh _ rfl) (fr (fc (x:=.i 0) li fl))))) ?_))))))))))))))))
 rintro m F h ⟨k,v,c0_0,rfl,rfl,rfl⟩
 refine ar (irk 1 (.n 29 (.b (decide ((k:Int)<(d.cons.length:Int)))) .r) (ie (aq (ac (decide ((k:Int)<(d.cons.length:Int))) dq (fun hc2=>?_) (fun hc2=>?_)))))
 ·refine ak (aq (ab 1 (ar (irk 2 (.n 7 (.i k) .r) (ie (az (irk 3 (.n 31 (oInt (Z17 (Zv (ds.take (t-1).toNat)) k) v) (.n 32 (.i ((Zv (ds.take ((t-1).toNat)):Nat):Int)) (.n 33 (.i k) .r))) (ia ((((Zv (ds.take ((t-1).toNat)))+k:Nat):Int)) ((((Zv (ds.take ((t-1).toNat)):Nat):Int))+((k:Int))) (iL (Z6 [(((Zv (ds.take ((t-1).toNat)))+k:Nat):Int)]) 1 1 ?_)))))))))
  intro v1
  refine irk 0 (.n 35 (nInt [(((Zv (ds.take ((t-1).toNat)))+k:Nat):Int)]) (.p .r)) (ip 1 (Z6 (Z17 (Zv (ds.take (t-1).toNat)) k++[(((Zv (ds.take ((t-1).toNat)))+k:Nat):Int)])) (Z6 (Z17 (Zv (ds.take (t-1).toNat)) k)) (Z6 [(((Zv (ds.take ((t-1).toNat)))+k:Nat):Int)]) v none 1 (Z0x _) (Z0x _) (Z3n _) (by simp;omega) (by simp [Z24,Z6]) ?_)
  intro v2
  refine irk 1 (.n 6 (oInt (Z17 (Zv (ds.take (t-1).toNat)) k++[(((Zv (ds.take ((t-1).toNat)))+k:Nat):Int)]) v2) (.p (.d (.p (.d (.d (.d (.d (.d (.k (.d .r))))))))))) (ie (az (ia (((k+1:Nat):Int)) (((k:Int))+(1)) (irk 1 (.n 28 (.i (k+1:Nat)) (.p (.k (.k (.k .z))))) (ie ?_)))))
  exact ⟨_,_,_,ob,⟨k+1,v2,ob,rfl,rfl,rfl⟩,(wk [0] (fr (fc (x:=oInt (Z17 (Zv (ds.take (t-1).toNat)) k++[(((Zv (ds.take ((t-1).toNat)))+k:Nat):Int)]) v2) (AVLe.slh _ (congrArg Z6 (Zcq _ _).symm)) (fr (fc (x:=.i (k+1:Nat)) li fl)))))⟩
 refine ax 0 (ar (ir 2 [(4,oInt (Z17 (Zv (ds.take (t-1).toNat)) k) v)] (ie ?_)))
 exact at_ (r2 [] [oInt (Z17 (Zv (ds.take (t-1).toNat)) k) v] ⟨rfl,rfl⟩ (AVLe.sl _ (congrArg Z6 (by rw [Zb,if_pos hti,hd1,show k=d.cons.length by omega];rfl))))
theorem Z5d (ds:List Decl) (t:Int) (hd:DOk ds:=by exact ob):Z3 Tryz.prog 195 [Z2 ds,.i t] [] (fun r h=>r=.tup [Z2r (Z29 ds t),.b (Z01 ds t)]∧h=[]):=by
 have hdl:=hd.len
 refine enter Tryz.func195 kr (n:=30) kr kr (ar (iA [.i 0,.i 0,nl] ?_))
 intro b1
 refine ir 1 [(0,Z2 ds),(1,.i t),(4,.p b1 0)] (ie (aq (ar (Z1i 8 [(0,Z2 ds),(1,.i t),(4,.p b1 0),(13,.b ((decide (t<1))||(decide (t>(ds.length:Int)))))] [.obj b1 [.i 0,.i 0,nl]] ?_ (fun hj1=>?_)))))
 ·refine ir 1 [(0,Z2 ds),(1,.i t),(4,.p b1 0),(14,.b ((decide (t<1))||(decide (t>(ds.length:Int)))))] (ib (b:=((decide (t<1))||(decide (t>(ds.length:Int))))) 14 (fun hb1=>?_) (fun hb1=>?_))
  ·have hp1:(t<1)∨(t>(ds.length:Int)):=((Zf dq dq)).1 hb1
   refine irk 9 (.n 23 (.b true) (.d (.k (.k (.k .z))))) (ie (ac1 (ar (irk 1 (.n 24 (.agg [.i 0,.i 0,nl]) .r) (iS 0 b1 0 [.i 0,.i 0,nl] [.i 0,.i 0,nl] [.i 0,.i 0,nl] (irk 1 (.n 5 (.b false) .r) (ie ?_)))))))
   have hA:Z01 ds t=false:=(Z8p om).symm
   have hD:Z29 ds t=⟨0,0,[]⟩:=by rw [Z29,hA];rfl
   exact at_ (r3 [] [.agg [.i 0,.i 0,nl],.b false] [0] [(b1,b1)] ⟨rfl,rfl⟩ (AVLe.tup (.cons (AVLe.agg (.cons (li (by rw [hD])) (.cons (li (by rw [hD])) (.cons (AVLe.sl _ (by rw [hD];rfl)) .nil)))) (.cons (lb (by rw [hA])) .nil))))
  have hp2:¬((t<1)∨(t>(ds.length:Int))):=Zd (Zf dq dq) hb1
  refine irk 2 (.n 15 (Z2 ds) (.n 16 (.i t) (.k (.k (.k (.k .z)))))) (ia ((t-1)) ((t)-(1)) ?_)
  obtain ⟨x1,hx1⟩:=Z8 (xs:=ds) (j:=(t-1).toNat) om
  refine is_ (Z0 (es:=Zt ds) (hv:=none) (j:=(t-1)) (sz:=3) (y:=Z2r x1) kr om (Z0z hx1) rfl) (irk 2 (.n 20 (nCon x1.cons) .r) (io (.i x1.cons.length) (.i (((Z1e x1.cons).length:Nat):Int)) (li (by rw [Z0f])) (irk 2 (.n 23 (.b (decide ((x1.cons.length:Int)>0))) .r) (ie (ac (decide ((x1.cons.length:Int)>0)) dq (fun hc1=>?_) (fun hc1=>?_))))))
  ·refine ar (irk 1 (.n 24 (.agg [.i 0,.i 0,nl]) .r) (iS 0 b1 0 [.i 0,.i 0,nl] [.i 0,.i 0,nl] [.i 0,.i 0,nl] (irk 1 (.n 5 (.b false) .r) (ie ?_))))
   have hA:Z01 ds t=false:=(Z6u om hx1).symm.trans (beq_eq_false_iff_ne.2 om)
   have hD:Z29 ds t=⟨0,0,[]⟩:=by rw [Z29,hA];rfl
   exact at_ (r3 [] [.agg [.i 0,.i 0,nl],.b false] [0] [(b1,b1)] ⟨rfl,rfl⟩ (AVLe.tup (.cons (AVLe.agg (.cons (li (by rw [hD])) (.cons (li (by rw [hD])) (.cons (AVLe.sl _ (by rw [hD];rfl)) .nil)))) (.cons (lb (by rw [hA])) .nil))))
  refine ak (ar (irk 2 (.n 25 (Z2 ds) (.n 26 (.i t) .r)) (ia ((t-1)) ((t)-(1)) (is_ (Z0 (es:=Zt ds) (hv:=none) (j:=(t-1)) (sz:=3) (y:=Z2r x1) kr om (Z0z hx1) rfl) (irk 1 (.n 29 (Z2r x1) .r) (iS 0 b1 0 (Z2i x1) [.i 0,.i 0,nl] (Z2i x1) (irk 1 (.n 5 (.b true) .r) (ie ?_))))))))
  have hA:Z01 ds t=true:=(Z6u om hx1).symm.trans (beq_iff_eq.2 om)
  have hD:Z29 ds t=x1:=by rw [Z29,hA,hx1];rfl
  exact at_ (r3 [] [Z2r x1,.b true] [0] [(b1,b1)] ⟨rfl,rfl⟩ (AVLe.tup (.cons (AVLe.agg (.cons (li (by rw [hD])) (.cons (li (by rw [hD])) (.cons (AVLe.sl _ (congrArg Z1e (by rw [hD]))) .nil)))) (.cons (lb (by rw [hA])) .nil))))
 refine ir 3 [(0,Z2 ds),(1,.i t),(4,.p b1 0),(8,.b (decide (t<1)))] (ib (b:=(decide (t<1))) 8 (fun hb2=>?_) (fun hb2=>?_))
 ·have hp3:t<1:=(dq).1 hb2
  refine irk 5 (.n 13 (.b true) (.d (.k (.k (.k .z))))) ?_
  exact Zz (wk [0] (fr (fr (fr (fc (x:=.b true) (lb (by simp only [hb2];rfl)) fl))))) hj1
 have hp4:¬(t<1):=Zd dq hb2
 refine irk 2 (.n 9 (.i t) (.n 10 (Z2 ds) (.k (.k (.k (.k .z)))))) (io (.i ds.length) (.i (((Zt ds).length:Nat):Int)) (li (by rw [Z0a])) (irk 2 (.n 13 (.b (decide (t>(ds.length:Int)))) .r) ?_))
 exact Zz (wk [0] (fr (fr (fr (fc (x:=.b (decide (t>(ds.length:Int)))) (lb (by simp only [hb2];rfl)) fl))))) hj1
theorem Zgr (ds:List Decl) (frm:Int) (to_:Int) (hl_ds:ds.length≤4294967296:=by exact ob):Z3 Tryz.prog 216 [Z2 ds,.i frm,.i to_] [] (fun r h=>r=.i (Z2d ds frm to_)∧h=[]):=by
 refine enter Tryz.func216 kr (n:=35) kr kr (ar (ir 1 [(0,Z2 ds),(1,.i frm),(2,.i to_)] (ie (aq (ar (irk 1 (.n 9 (Z2 ds) .r) (io (.i ds.length) (.i (((Zt ds).length:Nat):Int)) (li (by rw [Z0a])) (irk 1 (.n 11 (.i 0) .r) (ie (ab 0 (al (fun m F h=>∃(k:Nat),(k≤ds.length)∧(Z3t frm to_ (ds.drop k) k=Z2d ds frm to_)∧F=[(1,.i frm),(2,.i to_),(9,Z2 ds),(10,.i ds.length),(11,.i k)]∧h=[]∧m=ds.length-k) _ _ _ ⟨0,ob,rfl,rfl,rfl,rfl⟩ (wk [] (fr (fr (fr (fr (fc (x:=.i 0) li fl)))))) ?_)))))))))))
 rintro m F h ⟨k,c0_0,c0_1,rfl,rfl,rfl⟩
 refine ar (irk 1 (.n 12 (.b (decide ((k:Int)<(ds.length:Int)))) .r) (ie (aq (ac (decide ((k:Int)<(ds.length:Int))) dq (fun hc1=>?_) (fun hc1=>?_)))))
 ·refine ak (aq (ab 1 (ar (irk 1 (.n 13 (.i k) .r) ?_))))
  obtain ⟨x1,hx1⟩:=Z8 (xs:=ds) (j:=k) om
  refine is_ (Z0 (es:=Zt ds) (hv:=none) (j:=(k:Int)) (sz:=3) (y:=Z2r x1) kr om (Z0z hx1) rfl) (irk 1 (.n 15 (Z2r x1) .r) (iA [.i 0,.i 0,nl] ?_))
  intro b1
  refine irk 1 (.n 7 (.i k) .r) (iS 0 b1 0 (Z2i x1) [.i 0,.i 0,nl] (Z2i x1) (ie (ar (irK 2 (.n 17 (nCon x1.cons) .r) [0] [b1] (io (.i x1.cons.length) (.i (((Z1e x1.cons).length:Nat):Int)) (li (by rw [Z0f])) (Z1i 10 [(1,.i frm),(2,.i to_),(7,.i k),(8,.p b1 0),(9,Z2 ds),(10,.i ds.length),(11,.i k),(25,.b (((x1.cons.length:Int)==0)&&(x1.frm==frm)))] [.obj b1 (Z2i x1)] ?_ (fun hj1=>?_)))))))
  ·refine Z27 [(1,.i frm),(2,.i to_),(7,.i k),(9,Z2 ds),(10,.i ds.length),(11,.i k),(31,.b ((((x1.cons.length:Int)==0)&&(x1.frm==frm))&&(x1.to_==to_)))] [.obj b1 (Z2i x1)] ?_ ?_
   ·refine ir 1 [(1,.i frm),(2,.i to_),(7,.i k),(8,.p b1 0),(9,Z2 ds),(10,.i ds.length),(11,.i k),(26,.b (((x1.cons.length:Int)==0)&&(x1.frm==frm)))] (ib (b:=(((x1.cons.length:Int)==0)&&(x1.frm==frm))) 26 (fun hb1=>?_) (fun hb1=>?_))
    ·have hp1:((x1.cons.length:Int)=0)∧(x1.frm=frm):=((Zk beq_iff_eq beq_iff_eq)).1 hb1
     refine irK 5 (.n 31 (.b (x1.to_==to_)) (.d (.k (.k (.k (.d (.k (.k (.k .z))))))))) [0] [b1] (ie ?_)
     exact wk [0] (fr (fr (fr (fr (fr (fr (fc (x:=.b (x1.to_==to_)) (lb (by simp only [hb1];rfl)) fl)))))))
    have hp2:¬(((x1.cons.length:Int)=0)∧(x1.frm=frm)):=Zd (Zk beq_iff_eq beq_iff_eq) hb1
    refine irk 5 (.n 31 (.b false) (.d (.k (.k (.k (.d (.k (.k (.k .z))))))))) (ie ?_)
    exact wk [0] (fr (fr (fr (fr (fr (fr (fc (x:=.b false) (lb (by simp only [hb1];rfl)) fl)))))))
   refine ac ((((x1.cons.length:Int)==0)&&(x1.frm==frm))&&(x1.to_==to_)) (p:=(((x1.cons.length:Int)=0)∧(x1.frm=frm))∧(x1.to_=to_)) (Zk (Zk beq_iff_eq beq_iff_eq) beq_iff_eq) (fun hc2=>?_) (fun hc2=>?_)
   ·refine ar (ir 1 [(32,.i k)] (ia (((k+1:Nat):Int)) (((k:Int))+(1)) (ir 1 [(6,.i (k+1:Nat))] (ie ?_))))
    rw [Z7 hx1] at c0_1
    exact at_ (r2 [] [.i (k+1:Nat)] ⟨rfl,rfl⟩ (li (by clear hx1;first|rfl|omega|grind [Z3t])))
   refine ak (az (ia (((k+1:Nat):Int)) (((k:Int))+(1)) (ir 1 [(1,.i frm),(2,.i to_),(9,Z2 ds),(10,.i ds.length),(11,.i (k+1:Nat))] (ie ?_))))
   have hdr:=Z7 hx1
   exact ⟨_,_,_,ob,⟨k+1,ob,(by rw [hdr] at c0_1;clear hdr hx1;grind [Z3t]),rfl,rfl,rfl⟩,(wk [] (fr (fr (fr (fr (fc (x:=.i (k+1:Nat)) li fl))))))⟩
  refine ir 2 [(1,.i frm),(2,.i to_),(7,.i k),(8,.p b1 0),(9,Z2 ds),(10,.i ds.length),(11,.i k),(20,.b ((x1.cons.length:Int)==0))] (ib (b:=((x1.cons.length:Int)==0)) 20 (fun hb2=>?_) (fun hb2=>?_))
  ·have hp3:(x1.cons.length:Int)=0:=(beq_iff_eq).1 hb2
   refine irK 5 (.n 25 (.b (x1.frm==frm)) (.d (.k (.k (.k (.k (.k (.k (.k .z))))))))) [0] [b1] ?_
   exact Zz (wk [0] (fr (fr (fr (fr (fr (fr (fr (fc (x:=.b (x1.frm==frm)) (lb (by simp only [hb2];rfl)) fl))))))))) hj1
  have hp4:¬((x1.cons.length:Int)=0):=Zd beq_iff_eq hb2
  refine irk 5 (.n 25 (.b false) (.d (.k (.k (.k (.k (.k (.k (.k .z))))))))) ?_
  exact Zz (wk [0] (fr (fr (fr (fr (fr (fr (fr (fc (x:=.b false) (lb (by simp only [hb2];rfl)) fl))))))))) hj1
 refine ax 0 (ar (ir 1 [(6,.i (-1))] (ie ?_)))
 try rw [Zs (xs:=ds) (k:=k) om] at c0_1
 exact at_ (r2 [] [.i (-1)] ⟨rfl,rfl⟩ (li (by first|rfl|omega|grind [Z3t])))
theorem Zcc (ds:List Decl) (hz:DSz ds:=by exact ob):Z3 Tryz.prog 117 [Z2 ds] [] (fun r h=>r=.b (Zy ds)∧h=[]):=by
 have hzl:=hz.len
 refine enter Tryz.func117 kr (n:=106) kr kr (ar (ir 1 [(0,Z2 ds)] (ie (aq (ar (irk 1 (.n 9 (Z2 ds) .r) (io (.i ds.length) (.i (((Zt ds).length:Nat):Int)) (li (by rw [Z0a])) (irk 1 (.n 11 (.b (decide ((ds.length:Int)>4))) .r) (ie (ac (decide ((ds.length:Int)>4)) dq (fun hc1=>?_) (fun hc1=>?_)))))))))))
 ·refine ar (ir 1 [(2,.b false)] (ie ?_))
  exact at_ (r2 [] [.b false] ⟨rfl,rfl⟩ (lb (by rw [Zy,decide_eq_false om];rfl)))
 refine ak (aq (ar (irk 1 (.n 12 (Z2 ds) .r) (io (.i ds.length) (.i (((Zt ds).length:Nat):Int)) (li (by rw [Z0a])) (irk 1 (.n 14 (.i 0) .r) (ie (ab 0 (al (fun m F h=>∃(k:Nat),(k≤ds.length)∧(Z3v ds (ds.drop k) k=Z3v ds ds 0)∧F=[(0,Z2 ds),(12,Z2 ds),(13,.i ds.length),(14,.i k)]∧h=[]∧m=ds.length-k) _ _ _ ⟨0,ob,rfl,rfl,rfl,rfl⟩ (wk [] (fr (fr (fr (fc (x:=.i 0) li fl))))) ?_))))))))
 rintro m F h ⟨k,c0_0,c0_1,rfl,rfl,rfl⟩
 refine ar (irk 1 (.n 15 (.b (decide ((k:Int)<(ds.length:Int)))) .r) (ie (aq (ac (decide ((k:Int)<(ds.length:Int))) dq (fun hc2=>?_) (fun hc2=>?_)))))
 ·refine ak (aq (ab 1 (ar (irk 1 (.n 16 (.i k) .r) ?_))))
  obtain ⟨x1,hx1⟩:=Z8 (xs:=ds) (j:=k) om
  have hz1:=hz.cons_at hx1
  refine is_ (Z0 (es:=Zt ds) (hv:=none) (j:=(k:Int)) (sz:=3) (y:=Z2r x1) kr om (Z0z hx1) rfl) (irk 1 (.n 18 (Z2r x1) .r) (iA [.i 0,.i 0,nl] ?_))
  intro b1
  refine irk 1 (.n 3 (.i k) .r) (iS 0 b1 0 (Z2i x1) [.i 0,.i 0,nl] (Z2i x1) (ie (aq (ar (irK 3 (.n 19 (Z2 ds) (.n 21 (.i x1.frm) .r)) [0] [b1] (ic [] (Z61 ds x1.frm) ?_))))))
  rintro _ _ ⟨rfl,rfl⟩
  refine Z1i 12 [(0,Z2 ds),(3,.i k),(4,.p b1 0),(12,Z2 ds),(13,.i ds.length),(14,.i k),(30,.b ((!(decide (0≤x1.frm∧x1.frm≤ds.length)))||(!(decide (0≤x1.to_∧x1.to_≤ds.length)))))] [.obj b1 (Z2i x1)] ?_ (fun hj1=>?_)
  ·refine Z1i 18 [(0,Z2 ds),(3,.i k),(4,.p b1 0),(12,Z2 ds),(13,.i ds.length),(14,.i k),(36,.b (((!(decide (0≤x1.frm∧x1.frm≤ds.length)))||(!(decide (0≤x1.to_∧x1.to_≤ds.length))))||(decide ((x1.cons.length:Int)>3))))] [.obj b1 (Z2i x1)] ?_ (fun hj2=>?_)
   ·refine Z27 [(0,Z2 ds),(3,.i k),(4,.p b1 0),(12,Z2 ds),(13,.i ds.length),(14,.i k),(52,.b ((((!(decide (0≤x1.frm∧x1.frm≤ds.length)))||(!(decide (0≤x1.to_∧x1.to_≤ds.length))))||(decide ((x1.cons.length:Int)>3)))||((decide ((x1.cons.length:Int)>0))&&((x1.frm != 0)||(x1.to_ != 0)))))] [.obj b1 (Z2i x1)] ?_ ?_
    ·refine ir 1 [(0,Z2 ds),(3,.i k),(4,.p b1 0),(12,Z2 ds),(13,.i ds.length),(14,.i k),(37,.b (((!(decide (0≤x1.frm∧x1.frm≤ds.length)))||(!(decide (0≤x1.to_∧x1.to_≤ds.length))))||(decide ((x1.cons.length:Int)>3))))] (ib (b:=(((!(decide (0≤x1.frm∧x1.frm≤ds.length)))||(!(decide (0≤x1.to_∧x1.to_≤ds.length))))||(decide ((x1.cons.length:Int)>3)))) 37 (fun hb1=>?_) (fun hb1=>?_))
     ·have hp1:((¬(0≤x1.frm∧x1.frm≤ds.length))∨(¬(0≤x1.to_∧x1.to_≤ds.length)))∨((x1.cons.length:Int)>3):=((Zf (Zf (Zc dq) (Zc dq)) dq)).1 hb1
      refine irk 15 (.n 52 (.b true) (.d (.k (.k (.k (.k (.k (.k .z)))))))) (ie ?_)
      exact wk [0] (fr (fr (fr (fr (fr (fr (fc (x:=.b true) (lb (by simp only [hb1];rfl)) fl)))))))
     have hp2:¬(((¬(0≤x1.frm∧x1.frm≤ds.length))∨(¬(0≤x1.to_∧x1.to_≤ds.length)))∨((x1.cons.length:Int)>3)):=Zd (Zf (Zf (Zc dq) (Zc dq)) dq) hb1
     refine irK 2 (.n 39 (nCon x1.cons) (.k (.k (.k (.k (.k (.k (.k .z)))))))) [0] [b1] (io (.i x1.cons.length) (.i (((Z1e x1.cons).length:Nat):Int)) (li (by rw [Z0f])) (irk 2 (.n 42 (.b (decide ((x1.cons.length:Int)>0))) .r) (ib (b:=(decide ((x1.cons.length:Int)>0))) 42 (fun hb2=>?_) (fun hb2=>?_))))
     ·have hp3:(x1.cons.length:Int)>0:=(dq).1 hb2
      refine irK 4 (.n 46 (.b (x1.frm != 0)) (.k (.d .r))) [0] [b1] (ib (b:=(x1.frm != 0)) 46 (fun hb3=>?_) (fun hb3=>?_))
      ·have hp4:x1.frm≠0:=(bne_iff_ne).1 hb3
       refine irk 6 (.n 52 (.b true) (.k (.d .r))) (ie ?_)
       exact wk [0] (fr (fr (fr (fr (fr (fr (fc (x:=.b true) (lb (by simp only [hb1,hb2,hb3];rfl)) fl)))))))
      have hp5:¬(x1.frm≠0):=Zd bne_iff_ne hb3
      refine irK 6 (.n 52 (.b (x1.to_ != 0)) (.k (.d .r))) [0] [b1] (ie ?_)
      exact wk [0] (fr (fr (fr (fr (fr (fr (fc (x:=.b (x1.to_ != 0)) (lb (by simp only [hb1,hb2,hb3];rfl)) fl)))))))
     have hp6:¬((x1.cons.length:Int)>0):=Zd dq hb2
     refine irk 10 (.n 52 (.b false) (.k (.d .r))) (ie ?_)
     exact wk [0] (fr (fr (fr (fr (fr (fr (fc (x:=.b false) (lb (by simp only [hb1,hb2];rfl)) fl)))))))
    refine ac ((((!(decide (0≤x1.frm∧x1.frm≤ds.length)))||(!(decide (0≤x1.to_∧x1.to_≤ds.length))))||(decide ((x1.cons.length:Int)>3)))||((decide ((x1.cons.length:Int)>0))&&((x1.frm != 0)||(x1.to_ != 0)))) (p:=(((¬(0≤x1.frm∧x1.frm≤ds.length))∨(¬(0≤x1.to_∧x1.to_≤ds.length)))∨((x1.cons.length:Int)>3))∨(((x1.cons.length:Int)>0)∧((x1.frm≠0)∨(x1.to_≠0)))) (Zf (Zf (Zf (Zc dq) (Zc dq)) dq) (Zk dq (Zf bne_iff_ne bne_iff_ne))) (fun hc3=>?_) (fun hc3=>?_)
    ·refine ar (ir 1 [(2,.b false)] (ie ?_))
     exact at_ (r2 [] [.b false] ⟨rfl,rfl⟩ (lb (Zhp hx1 (Zo4 hc3) c0_1)))
    refine ak (aq (ar (iR 2 [(0,Z2 ds),(3,.i k),(4,.p b1 0),(12,Z2 ds),(13,.i ds.length),(14,.i k),(54,nCon x1.cons)] [0] [b1] (io (.i x1.cons.length) (.i (((Z1e x1.cons).length:Nat):Int)) (li (by rw [Z0f])) (irk 1 (.n 56 (.i 0) .r) (ie (ab 2 (al (fun m F h=>∃(q:Nat),(q≤x1.cons.length)∧(Z4a ds.length (x1.cons.drop q)=Z4a ds.length x1.cons)∧F=[(0,Z2 ds),(3,.i k),(4,.p b1 0),(12,Z2 ds),(13,.i ds.length),(14,.i k),(54,nCon x1.cons),(55,.i x1.cons.length),(56,.i q)]∧h=[.obj b1 (Z2i x1)]∧m=x1.cons.length-q) _ _ _ ⟨0,ob,rfl,rfl,rfl,rfl⟩ (wk [0] (fr (fr (fr (fr (fr (fr (fr (fr (fc (x:=.i 0) li fl)))))))))) ?_))))))))
    rintro m F h ⟨q,c1_0,c1_1,rfl,rfl,rfl⟩
    refine ar (irk 1 (.n 57 (.b (decide ((q:Int)<(x1.cons.length:Int)))) .r) (ie (aq (ac (decide ((q:Int)<(x1.cons.length:Int))) dq (fun hc4=>?_) (fun hc4=>?_)))))
    ·refine ak (aq (ab 3 (ar ?_)))
     obtain ⟨x2,hx2⟩:=Z8 (xs:=x1.cons) (j:=q) om
     refine is_ (Z0 (es:=Z1e x1.cons) (hv:=none) (j:=(q:Int)) (sz:=1) (y:=aCon x2) kr om (Z4h hx2) rfl) (irk 1 (.n 59 (aCon x2) .r) (iA [nl] ?_))
     intro b2
     refine iS 0 b2 0 (lCon x2) [nl] (lCon x2) (ie (ar (irK 2 (.n 61 (nInt x2.fields) .r) [0] [b2] (io (.i x2.fields.length) (.i (((Z6 x2.fields).length:Nat):Int)) (li (by rw [Z5])) (Z27 [(0,Z2 ds),(3,.i k),(4,.p b1 0),(12,Z2 ds),(13,.i ds.length),(14,.i k),(54,nCon x1.cons),(55,.i x1.cons.length),(56,.i q),(70,.b ((decide ((x2.fields.length:Int)>3))||(!Z1o ds.length x2.fields)))] [.obj b2 (lCon x2),.obj b1 (Z2i x1)] ?_ ?_)))))
     ·refine ir 2 [(0,Z2 ds),(3,.i k),(4,.p b1 0),(6,.p b2 0),(12,Z2 ds),(13,.i ds.length),(14,.i k),(54,nCon x1.cons),(55,.i x1.cons.length),(56,.i q),(64,.b (decide ((x2.fields.length:Int)>3)))] (ib (b:=(decide ((x2.fields.length:Int)>3))) 64 (fun hb4=>?_) (fun hb4=>?_))
      ·have hp7:(x2.fields.length:Int)>3:=(dq).1 hb4
       refine irk 6 (.n 70 (.b true) (.d (.k (.k (.k (.d (.k (.k (.k (.k (.k (.k .z)))))))))))) (ie ?_)
       exact wk [0,0] (fr (fr (fr (fr (fr (fr (fr (fr (fr (fc (x:=.b true) (lb (by simp only [hb4];rfl)) fl))))))))))
      have hp8:¬((x2.fields.length:Int)>3):=Zd dq hb4
      refine irK 3 (.n 65 (Z2 ds) (.n 67 (nInt x2.fields) (.k (.k (.k (.k (.d (.k (.k (.k (.k (.k (.k .z))))))))))))) [0] [b2] (ic [] (Z94 ds x2.fields) ?_)
      rintro _ _ ⟨rfl,rfl⟩
      refine irk 2 (.n 70 (.b (!Z1o ds.length x2.fields)) .r) (ie ?_)
      exact wk [0,0] (fr (fr (fr (fr (fr (fr (fr (fr (fr (fc (x:=.b (!Z1o ds.length x2.fields)) (lb (by simp only [hb4];rfl)) fl))))))))))
     refine ac ((decide ((x2.fields.length:Int)>3))||(!Z1o ds.length x2.fields)) (p:=((x2.fields.length:Int)>3)∨(¬(Z1o ds.length x2.fields=true))) (Zf dq (Zc Iff.rfl)) (fun hc5=>?_) (fun hc5=>?_)
     ·refine ar (ir 1 [(2,.b false)] (ie ?_))
      exact at_ (r2 [] [.b false] ⟨rfl,rfl⟩ (lb (Zhp hx1 (Zo5 om (by rw [←c1_1,Z7 hx2,Z4a,if_neg (by rw [Ztt hc5];simp)])) c0_1)))
     refine ak (az (ia (((q+1:Nat):Int)) (((q:Int))+(1)) (ir 1 [(0,Z2 ds),(3,.i k),(4,.p b1 0),(12,Z2 ds),(13,.i ds.length),(14,.i k),(54,nCon x1.cons),(55,.i x1.cons.length),(56,.i (q+1:Nat))] (ie ?_))))
     have hdr:=Z7 hx2
     exact ⟨_,_,_,ob,⟨q+1,ob,(by rw [Z7 hx2,Z4a,if_pos (Zre hc5)] at c1_1;exact c1_1),rfl,rfl,rfl⟩,(wk [1] (fr (fr (fr (fr (fr (fr (fr (fr (fc (x:=.i (q+1:Nat)) li fl))))))))))⟩
    have hC:Z4a ds.length x1.cons=true:=by rw [←c1_1,Zs om];rfl
    refine ax 2 (ar (irk 2 (.n 72 (Z2 ds) (.n 73 (.i k) .r)) (is_ (Z4s (es:=Zt ds) (hv:=none) (l:=0) (m:=(k:Int)) (sz:=3) (es':=Zt (ds.take k)) kr om (by simp<;>omega) (by simp<;>omega) (Z6w _) (by first|(simp only [Int.toNat_natCast,List.take_length,Z5r,Z5q];done)|(simp only [Int.toNat_natCast,List.take_length,Z5r,Z5q];rfl)|(simp [Z5r,Z5q];done))) (io (.i (((ds.take k).length:Nat):Int)) (.i (((Zt (ds.take k)).length:Nat):Int)) (li (by rw [Z0a])) (irk 1 (.n 76 (.i 0) .r) (ie (ab 4 (al (fun m F h=>∃(j:Nat),(j≤k)∧(x1.cons.length=0→Zc1 x1 ((ds.take k).drop j)=Zc1 x1 (ds.take k))∧F=[(0,Z2 ds),(4,.p b1 0),(12,Z2 ds),(13,.i ds.length),(14,.i k),(74,Z2 (ds.take k)),(75,.i (((ds.take k).length:Nat):Int)),(76,.i j)]∧h=[.obj b1 (Z2i x1)]∧m=k-j) _ _ _ ⟨0,ob,ob,rfl,rfl,rfl⟩ (wk [0] (fr (fr (fr (fr (fr (fr (fr (fc (x:=.i 0) li fl))))))))) ?_))))))))
    rintro m F h ⟨j,c2_0,c2_1,rfl,rfl,rfl⟩
    refine ar (irk 1 (.n 77 (.b (decide ((j:Int)<(((ds.take k).length:Nat):Int)))) .r) (ie (aq (ac (decide ((j:Int)<(((ds.take k).length:Nat):Int))) dq (fun hc6=>?_) (fun hc6=>?_)))))
    ·have htl:(ds.take k).length≤k:=by rw [List.length_take];omega
     refine ak (aq (ab 5 (ar ?_)))
     obtain ⟨x3,hx3⟩:=Z8 (xs:=(ds.take k)) (j:=j) om
     refine is_ (Z0 (es:=Zt (ds.take k)) (hv:=none) (j:=(j:Int)) (sz:=3) (y:=Z2r x3) kr om (Z0z hx3) rfl) (irk 1 (.n 79 (Z2r x3) .r) (iA [.i 0,.i 0,nl] ?_))
     intro b3
     refine iS 0 b3 0 (Z2i x3) [.i 0,.i 0,nl] (Z2i x3) (ie (ar (irK 2 (.n 81 (nCon x1.cons) .r) [1] [b1] (io (.i x1.cons.length) (.i (((Z1e x1.cons).length:Nat):Int)) (li (by rw [Z0f])) (Z1i 10 [(0,Z2 ds),(4,.p b1 0),(8,.p b3 0),(12,Z2 ds),(13,.i ds.length),(14,.i k),(74,Z2 (ds.take k)),(75,.i (((ds.take k).length:Nat):Int)),(76,.i j),(89,.b (((x1.cons.length:Int)==0)&&((x3.cons.length:Int)==0)))] [.obj b3 (Z2i x3),.obj b1 (Z2i x1)] ?_ (fun hj3=>?_))))))
     ·refine Z1i 17 [(0,Z2 ds),(4,.p b1 0),(8,.p b3 0),(12,Z2 ds),(13,.i ds.length),(14,.i k),(74,Z2 (ds.take k)),(75,.i (((ds.take k).length:Nat):Int)),(76,.i j),(96,.b ((((x1.cons.length:Int)==0)&&((x3.cons.length:Int)==0))&&(x3.frm==x1.frm)))] [.obj b3 (Z2i x3),.obj b1 (Z2i x1)] ?_ (fun hj4=>?_)
      ·refine Z27 [(0,Z2 ds),(4,.p b1 0),(12,Z2 ds),(13,.i ds.length),(14,.i k),(74,Z2 (ds.take k)),(75,.i (((ds.take k).length:Nat):Int)),(76,.i j),(103,.b (((((x1.cons.length:Int)==0)&&((x3.cons.length:Int)==0))&&(x3.frm==x1.frm))&&(x3.to_==x1.to_)))] [.obj b3 (Z2i x3),.obj b1 (Z2i x1)] ?_ ?_
       ·refine ir 1 [(0,Z2 ds),(4,.p b1 0),(8,.p b3 0),(12,Z2 ds),(13,.i ds.length),(14,.i k),(74,Z2 (ds.take k)),(75,.i (((ds.take k).length:Nat):Int)),(76,.i j),(97,.b ((((x1.cons.length:Int)==0)&&((x3.cons.length:Int)==0))&&(x3.frm==x1.frm)))] (ib (b:=((((x1.cons.length:Int)==0)&&((x3.cons.length:Int)==0))&&(x3.frm==x1.frm))) 97 (fun hb5=>?_) (fun hb5=>?_))
        ·have hp9:(((x1.cons.length:Int)=0)∧((x3.cons.length:Int)=0))∧(x3.frm=x1.frm):=((Zk (Zk beq_iff_eq beq_iff_eq) beq_iff_eq)).1 hb5
         refine irK 6 (.n 103 (.b (x3.to_==x1.to_)) (.d (.k (.k (.d (.k (.k (.k (.k (.k (.k .z))))))))))) [0,1] [b3,b1] (ie ?_)
         exact wk [0,0] (fr (fr (fr (fr (fr (fr (fr (fr (fc (x:=.b (x3.to_==x1.to_)) (lb (by simp only [hb5];rfl)) fl)))))))))
        have hp10:¬((((x1.cons.length:Int)=0)∧((x3.cons.length:Int)=0))∧(x3.frm=x1.frm)):=Zd (Zk (Zk beq_iff_eq beq_iff_eq) beq_iff_eq) hb5
        refine irk 6 (.n 103 (.b false) (.d (.k (.k (.d (.k (.k (.k (.k (.k (.k .z))))))))))) (ie ?_)
        exact wk [0,0] (fr (fr (fr (fr (fr (fr (fr (fr (fc (x:=.b false) (lb (by simp only [hb5];rfl)) fl)))))))))
       refine ac (((((x1.cons.length:Int)==0)&&((x3.cons.length:Int)==0))&&(x3.frm==x1.frm))&&(x3.to_==x1.to_)) (p:=((((x1.cons.length:Int)=0)∧((x3.cons.length:Int)=0))∧(x3.frm=x1.frm))∧(x3.to_=x1.to_)) (Zk (Zk (Zk beq_iff_eq beq_iff_eq) beq_iff_eq) beq_iff_eq) (fun hc7=>?_) (fun hc7=>?_)
       ·refine ar (ir 1 [(2,.b false)] (ie ?_))
        exact at_ (r2 [] [.b false] ⟨rfl,rfl⟩ (lb (Zhp hx1 (Zo6 om (by rw [←c2_1 om,Z7 hx3,Zc1,if_pos om])) c0_1)))
       refine ak (az (ia (((j+1:Nat):Int)) (((j:Int))+(1)) (ir 1 [(0,Z2 ds),(4,.p b1 0),(12,Z2 ds),(13,.i ds.length),(14,.i k),(74,Z2 (ds.take k)),(75,.i (((ds.take k).length:Nat):Int)),(76,.i (j+1:Nat))] (ie ?_))))
       exact ⟨_,_,_,ob,⟨j+1,ob,(fun q=>by have hq:=c2_1 q;rw [Z7 hx3,Zc1,if_neg om] at hq;exact hq),rfl,rfl,rfl⟩,(wk [1] (fr (fr (fr (fr (fr (fr (fr (fc (x:=.i (j+1:Nat)) li fl)))))))))⟩
      refine ir 1 [(0,Z2 ds),(4,.p b1 0),(8,.p b3 0),(12,Z2 ds),(13,.i ds.length),(14,.i k),(74,Z2 (ds.take k)),(75,.i (((ds.take k).length:Nat):Int)),(76,.i j),(90,.b (((x1.cons.length:Int)==0)&&((x3.cons.length:Int)==0)))] (ib (b:=(((x1.cons.length:Int)==0)&&((x3.cons.length:Int)==0))) 90 (fun hb6=>?_) (fun hb6=>?_))
      ·have hp11:((x1.cons.length:Int)=0)∧((x3.cons.length:Int)=0):=((Zk beq_iff_eq beq_iff_eq)).1 hb6
       refine irK 6 (.n 96 (.b (x3.frm==x1.frm)) (.d (.k (.k (.k (.k (.k (.k (.k (.k (.k .z))))))))))) [0,1] [b3,b1] ?_
       exact Zz (wk [0,0] (fr (fr (fr (fr (fr (fr (fr (fr (fr (fc (x:=.b (x3.frm==x1.frm)) (lb (by simp only [hb6];rfl)) fl))))))))))) hj4
      have hp12:¬(((x1.cons.length:Int)=0)∧((x3.cons.length:Int)=0)):=Zd (Zk beq_iff_eq beq_iff_eq) hb6
      refine irk 6 (.n 96 (.b false) (.d (.k (.k (.k (.k (.k (.k (.k (.k (.k .z))))))))))) ?_
      exact Zz (wk [0,0] (fr (fr (fr (fr (fr (fr (fr (fr (fr (fc (x:=.b false) (lb (by simp only [hb6];rfl)) fl))))))))))) hj4
     refine ir 2 [(0,Z2 ds),(4,.p b1 0),(8,.p b3 0),(12,Z2 ds),(13,.i ds.length),(14,.i k),(74,Z2 (ds.take k)),(75,.i (((ds.take k).length:Nat):Int)),(76,.i j),(84,.b ((x1.cons.length:Int)==0))] (ib (b:=((x1.cons.length:Int)==0)) 84 (fun hb7=>?_) (fun hb7=>?_))
     ·have hp13:(x1.cons.length:Int)=0:=(beq_iff_eq).1 hb7
      refine irK 2 (.n 86 (nCon x3.cons) (.k (.k (.k (.k (.k (.k (.k (.k (.k (.k .z))))))))))) [0] [b3] (io (.i x3.cons.length) (.i (((Z1e x3.cons).length:Nat):Int)) (li (by rw [Z0f])) (irk 2 (.n 89 (.b ((x3.cons.length:Int)==0)) .r) ?_))
      exact Zz (wk [0,0] (fr (fr (fr (fr (fr (fr (fr (fr (fr (fc (x:=.b ((x3.cons.length:Int)==0)) (lb (by simp only [hb7];rfl)) fl))))))))))) hj3
     have hp14:¬((x1.cons.length:Int)=0):=Zd beq_iff_eq hb7
     refine irk 5 (.n 89 (.b false) (.d (.k (.k (.k (.k (.k (.k (.k (.k (.k .z))))))))))) ?_
     exact Zz (wk [0,0] (fr (fr (fr (fr (fr (fr (fr (fr (fr (fc (x:=.b false) (lb (by simp only [hb7];rfl)) fl))))))))))) hj3
    have htl:(ds.take k).length=k:=by rw [List.length_take];omega
    have hD:x1.cons.length=0→Zc1 x1 (ds.take k)=false:=fun q=>by rw [←c2_1 q,Zs om];rfl
    refine ax 4 (az (ia (((k+1:Nat):Int)) (((k:Int))+(1)) (irk 1 (.n 14 (.i (k+1:Nat)) (.p (.d (.k (.d (.k (.k .z))))))) (ie ?_))))
    have hdr:=Z7 hx1
    exact ⟨_,_,_,ob,⟨k+1,ob,(Zzo hx1 (Zo7 hc3 hC hD) c0_1),rfl,rfl,rfl⟩,(wk [] (fr (fr (fr (fc (x:=.i (k+1:Nat)) li fl)))))⟩
   refine ir 1 [(0,Z2 ds),(3,.i k),(4,.p b1 0),(12,Z2 ds),(13,.i ds.length),(14,.i k),(31,.b ((!(decide (0≤x1.frm∧x1.frm≤ds.length)))||(!(decide (0≤x1.to_∧x1.to_≤ds.length)))))] (ib (b:=((!(decide (0≤x1.frm∧x1.frm≤ds.length)))||(!(decide (0≤x1.to_∧x1.to_≤ds.length))))) 31 (fun hb8=>?_) (fun hb8=>?_))
   ·have hp15:(¬(0≤x1.frm∧x1.frm≤ds.length))∨(¬(0≤x1.to_∧x1.to_≤ds.length)):=((Zf (Zc dq) (Zc dq))).1 hb8
    refine irk 5 (.n 36 (.b true) (.d (.k (.k (.k (.k (.k (.k .z)))))))) ?_
    exact Zz (wk [0] (fr (fr (fr (fr (fr (fr (fc (x:=.b true) (lb (by simp only [hb8];rfl)) fl)))))))) hj2
   have hp16:¬((¬(0≤x1.frm∧x1.frm≤ds.length))∨(¬(0≤x1.to_∧x1.to_≤ds.length))):=Zd (Zf (Zc dq) (Zc dq)) hb8
   refine irK 2 (.n 33 (nCon x1.cons) (.k (.k (.k (.k (.k (.k (.k .z)))))))) [0] [b1] (io (.i x1.cons.length) (.i (((Z1e x1.cons).length:Nat):Int)) (li (by rw [Z0f])) (irk 2 (.n 36 (.b (decide ((x1.cons.length:Int)>3))) .r) ?_))
   exact Zz (wk [0] (fr (fr (fr (fr (fr (fr (fc (x:=.b (decide ((x1.cons.length:Int)>3))) (lb (by simp only [hb8];rfl)) fl)))))))) hj2
  refine ir 2 [(0,Z2 ds),(3,.i k),(4,.p b1 0),(12,Z2 ds),(13,.i ds.length),(14,.i k),(24,.b (!(decide (0≤x1.frm∧x1.frm≤ds.length))))] (ib (b:=(!(decide (0≤x1.frm∧x1.frm≤ds.length)))) 24 (fun hb9=>?_) (fun hb9=>?_))
  ·have hp17:¬(0≤x1.frm∧x1.frm≤ds.length):=((Zc dq)).1 hb9
   refine irk 6 (.n 30 (.b true) (.d (.k (.k (.k (.k (.k (.k .z)))))))) ?_
   exact Zz (wk [0] (fr (fr (fr (fr (fr (fr (fc (x:=.b true) (lb (by simp only [hb9];rfl)) fl)))))))) hj1
  have hp18:¬(¬(0≤x1.frm∧x1.frm≤ds.length)):=Zd (Zc dq) hb9
  refine irK 3 (.n 25 (Z2 ds) (.n 27 (.i x1.to_) (.k (.k (.k (.k (.k (.k (.k .z))))))))) [0] [b1] (ic [] (Z61 ds x1.to_) ?_)
  rintro _ _ ⟨rfl,rfl⟩
  refine irk 2 (.n 30 (.b (!(decide (0≤x1.to_∧x1.to_≤ds.length)))) .r) ?_
  exact Zz (wk [0] (fr (fr (fr (fr (fr (fr (fc (x:=.b (!(decide (0≤x1.to_∧x1.to_≤ds.length)))) (lb (by simp only [hb9];rfl)) fl)))))))) hj1
 refine ax 0 (ar (ir 1 [(2,.b true)] (ie ?_)))
 exact at_ (r2 [] [.b true] ⟨rfl,rfl⟩ (lb (Zx8 om om c0_1)))
end Go.Abs
end
section
namespace Go.Abs
open Go.Proofs
theorem Z4d (op:Int) :Z3 Tryz.prog 67 [.i op] [] (fun r h=>r=.b (Z0q op)∧h=[]):=by
 refine enter Tryz.func67 kr (n:=9) kr kr (ar (ir 1 [(0,.i op)] (ie (ar (Z1i 6 [(8,.b ((decide (op≥14))&&(decide (op≤17))))] [] ?_ (fun hj1=>?_))))))
 ·refine ir 1 [(2,.b ((decide (op≥14))&&(decide (op≤17))))] (ie ?_)
  exact at_ (r2 [] [.b ((decide (op≥14))&&(decide (op≤17)))] ⟨rfl,rfl⟩ (lb (by rw [Z0q,Bool.eq_iff_iff];simp)))
 refine ir 3 [(0,.i op),(5,.b (decide (op≥14)))] (ib (b:=(decide (op≥14))) 5 (fun hb1=>?_) (fun hb1=>?_))
 ·have hp1:op≥14:=(dq).1 hb1
  refine ir 3 [(8,.b (decide (op≤17)))] ?_
  exact Zz (wk [] (fc (x:=.b (decide (op≤17))) (lb (by simp only [hb1];rfl)) fl)) hj1
 have hp2:¬(op≥14):=Zd dq hb1
 refine ir 3 [(8,.b false)] ?_
 exact Zz (wk [] (fc (x:=.b false) (lb (by simp only [hb1];rfl)) fl)) hj1
theorem Z78 (op:Int) :Z3 Tryz.prog 201 [.i op] [] (fun r h=>r=.b (Z2k op)∧h=[]):=by
 refine enter Tryz.func201 kr (n:=17) kr kr (ar (ir 1 [(0,.i op)] (ie (ar (Z1i 6 [(0,.i op),(8,.b ((op==6)||(op==9)))] [] ?_ (fun hj1=>?_))))))
 ·refine Z1i 10 [(0,.i op),(12,.b (((op==6)||(op==9))||(op==10)))] [] ?_ (fun hj2=>?_)
  ·refine Z1i 14 [(16,.b ((((op==6)||(op==9))||(op==10))||(op==11)))] [] ?_ (fun hj3=>?_)
   ·refine ir 1 [(2,.b ((((op==6)||(op==9))||(op==10))||(op==11)))] (ie ?_)
    exact at_ (r2 [] [.b ((((op==6)||(op==9))||(op==10))||(op==11))] ⟨rfl,rfl⟩ (lb (by first|rfl|omega|grind [Z2k])))
   refine ir 1 [(0,.i op),(13,.b (((op==6)||(op==9))||(op==10)))] (ib (b:=(((op==6)||(op==9))||(op==10))) 13 (fun hb1=>?_) (fun hb1=>?_))
   ·have hp1:((op=6)∨(op=9))∨(op=10):=((Zf (Zf beq_iff_eq beq_iff_eq) beq_iff_eq)).1 hb1
    refine ir 3 [(16,.b true)] ?_
    exact Zz (wk [] (fc (x:=.b true) (lb (by simp only [hb1];rfl)) fl)) hj3
   have hp2:¬(((op=6)∨(op=9))∨(op=10)):=Zd (Zf (Zf beq_iff_eq beq_iff_eq) beq_iff_eq) hb1
   refine ir 3 [(16,.b (op==11))] ?_
   exact Zz (wk [] (fc (x:=.b (op==11)) (lb (by simp only [hb1];rfl)) fl)) hj3
  refine ir 1 [(0,.i op),(9,.b ((op==6)||(op==9)))] (ib (b:=((op==6)||(op==9))) 9 (fun hb2=>?_) (fun hb2=>?_))
  ·have hp3:(op=6)∨(op=9):=((Zf beq_iff_eq beq_iff_eq)).1 hb2
   refine ir 3 [(0,.i op),(12,.b true)] ?_
   exact Zz (wk [] (fr (fc (x:=.b true) (lb (by simp only [hb2];rfl)) fl))) hj2
  have hp4:¬((op=6)∨(op=9)):=Zd (Zf beq_iff_eq beq_iff_eq) hb2
  refine ir 3 [(0,.i op),(12,.b (op==10))] ?_
  exact Zz (wk [] (fr (fc (x:=.b (op==10)) (lb (by simp only [hb2];rfl)) fl))) hj2
 refine ir 3 [(0,.i op),(5,.b (op==6))] (ib (b:=(op==6)) 5 (fun hb3=>?_) (fun hb3=>?_))
 ·have hp5:op=6:=(beq_iff_eq).1 hb3
  refine ir 3 [(0,.i op),(8,.b true)] ?_
  exact Zz (wk [] (fr (fc (x:=.b true) (lb (by simp only [hb3];rfl)) fl))) hj1
 have hp6:¬(op=6):=Zd beq_iff_eq hb3
 refine ir 3 [(0,.i op),(8,.b (op==9))] ?_
 exact Zz (wk [] (fr (fc (x:=.b (op==9)) (lb (by simp only [hb3];rfl)) fl))) hj1
theorem Zaj (b:Block) (c:Nat) (v:Int) (hb:b.sz≤1000000000:=by exact ob) (hv:0≤v∧v≤600:=by exact ob) (ih:∀(b2:Block) (c:Nat) (v:Int),(b2.sz<b.sz)→(0≤v∧v≤600)→Z3 Tryz.prog 126 [Zj b2,.p c 0] [.obj c [.i v]] (fun r h=>(r=.b true∧h=[.obj c [.i (600-Z3p b2 (600-v))]]∧0≤Z3p b2 (600-v))∨(r=.b false∧h=[]∧Z3p b2 (600-v)<0))):Z3 Tryz.prog 126 [Zj b,.p c 0] [.obj c [.i v]] (fun r h=>(r=.b true∧h=[.obj c [.i (600-Z3p b (600-v))]]∧0≤Z3p b (600-v))∨(r=.b false∧h=[]∧Z3p b (600-v)<0)):=by
 have hbz:=Z6v b
 have hbe:=Zpv b (600-v)
 refine enter Tryz.func126 kr (n:=38) kr kr (ar (iA (Z0l b) ?_))
 intro b1
 refine ir 1 [(1,.p c 0),(2,.p b1 0)] (ie (aq (ar (irK 2 (.n 10 (Z0h b.steps) .r) [0] [b1] (io (.i b.steps.length) (.i (((Zu b.steps).length:Nat):Int)) (li (by rw [Z0w])) (irk 1 (.n 12 (.i 0) .r) (ie (ab 0 (al (fun m F h=>∃(k:Nat) (q:Int),(k≤b.steps.length)∧(0≤q∧q≤600)∧(Z6b (b.steps.drop k) (600-q)=Z6b b.steps (600-v))∧F=[(1,.p c 0),(10,Z0h b.steps),(11,.i b.steps.length),(12,.i k)]∧h=[.obj c [.i q]]∧m=b.steps.length-k) _ _ _ ⟨0,v,ob,ob,rfl,rfl,rfl,rfl⟩ (wk [1] (fr (fr (fr (fc (x:=.i 0) li fl))))) ?_)))))))))
 rintro m F h ⟨k,q,c0_0,c0_1,c0_2,rfl,rfl,rfl⟩
 refine ar (irk 1 (.n 13 (.b (decide ((k:Int)<(b.steps.length:Int)))) .r) (ie (aq (ac (decide ((k:Int)<(b.steps.length:Int))) dq (fun hc1=>?_) (fun hc1=>?_)))))
 ·refine ak (aq (ab 1 (ar ?_)))
  obtain ⟨x1,hx1⟩:=Z8 (xs:=b.steps) (j:=k) om
  have hss:=Zoy hx1
  have hkz:=Z7a x1
  refine is_ (Z0 (es:=Zu b.steps) (hv:=none) (j:=(k:Int)) (sz:=5) (y:=Z0o x1) kr om (Z1r hx1) rfl) (irk 1 (.n 15 (Z0o x1) .r) (iA [.i 0,.i 0,.i 0,nl,nl] ?_))
  intro b2
  refine iS 0 b2 0 (Z0g x1) [.i 0,.i 0,.i 0,nl,nl] (Z0g x1) (ie (aq (ar (irK 3 (.n 16 (.p c 0) (.n 18 (.i q) .r)) [1] [c] (ia ((q+1)) ((q)+(1)) (irk 1 (.n 20 (.p c 0) .r) (iS 1 c 0 [.i (q+1)] [.i q] [.i (q+1)] (ie (ar (irK 4 (.n 24 (.b (decide ((q+1)>600))) .r) [0] [c] (ie (ac (decide ((q+1)>600)) dq (fun hc2=>?_) (fun hc2=>?_)))))))))))))
  ·refine ar (ir 1 [(4,.b false)] (ie ?_))
   exact at_ (r1 [] (.inr ⟨rfl,rfl,(by rw [hbe,←c0_2,Z7 hx1,Z6b,if_pos om];omega)⟩))
  refine ak (ar (irK 2 (.n 26 (Z03 x1.kids) .r) [1] [b2] (io (.i x1.kids.length) (.i (((Z0p x1.kids).length:Nat):Int)) (li (by rw [Z0r])) (irk 1 (.n 28 (.i 0) .r) (ie (ab 2 (al (fun m F h=>∃(j:Nat) (j2:Int),(j≤x1.kids.length)∧(0≤j2∧j2≤600)∧(Z6o (x1.kids.drop j) (600-j2)=Z6o x1.kids (600-(q+1)))∧F=[(1,.p c 0),(10,Z0h b.steps),(11,.i b.steps.length),(12,.i k),(26,Z03 x1.kids),(27,.i x1.kids.length),(28,.i j)]∧h=[.obj c [.i j2]]∧m=x1.kids.length-j) _ _ _ ⟨0,(q+1),ob,ob,rfl,rfl,rfl,rfl⟩ (wk [0] (fr (fr (fr (fr (fr (fr (fc (x:=.i 0) li fl)))))))) ?_)))))))
  rintro m F h ⟨j,j2,c1_0,c1_1,c1_2,rfl,rfl,rfl⟩
  refine ar (irk 1 (.n 29 (.b (decide ((j:Int)<(x1.kids.length:Int)))) .r) (ie (aq (ac (decide ((j:Int)<(x1.kids.length:Int))) dq (fun hc3=>?_) (fun hc3=>?_)))))
  ·refine ak (aq (ab 3 (ar ?_)))
   obtain ⟨x2,hx2⟩:=Z8 (xs:=x1.kids) (j:=j) om
   have hks:=Zau hx2
   have hle:=Zka.2 x2 (600-j2) om
   refine is_ (Z0 (es:=Z0p x1.kids) (hv:=none) (j:=(j:Int)) (sz:=2) (y:=Zj x2) kr om (Z2a hx2) rfl) (irk 1 (.n 31 (Zj x2) .r) (iA [nl,.i 0] ?_))
   intro b3
   refine iS 0 b3 0 (Z0l x2) [nl,.i 0] (Z0l x2) (ie (ar (irK 2 (.n 32 (Zj x2) (.n 33 (.p c 0) .r)) [0] [b3] (ic [1] (ih x2 c j2 ob ob) ?_))))
   rintro _ _ (⟨rfl,rfl,hp1⟩|⟨rfl,rfl,hp2⟩)
   ·refine irk 1 (.n 35 (.b false) .r) (ie (ac0 (ak (az (ia (((j+1:Nat):Int)) (((j:Int))+(1)) (irk 1 (.n 28 (.i (j+1:Nat)) (.p (.d (.p (.d (.d (.p (.d (.p (.d (.k (.k (.k (.k (.k (.k .z)))))))))))))))) (ie ?_)))))))
    have hdr:=Z7 hx2
    exact ⟨_,_,_,ob,⟨j+1,(600-Z3p x2 (600-j2)),ob,ob,(by rw [Z7 hx2,Z6o,if_neg om] at c1_2;rw [show 600-(600-Z3p x2 (600-j2))=Z3p x2 (600-j2) by omega];exact c1_2),rfl,rfl,rfl⟩,(wk [0] (fr (fr (fr (fr (fr (fr (fc (x:=.i (j+1:Nat)) li fl))))))))⟩
   refine irk 1 (.n 35 (.b true) .r) (ie (ac1 (ar (ir 1 [(4,.b false)] (ie ?_)))))
   exact at_ (r1 [] (.inr ⟨rfl,rfl,(by rw [hbe,←c0_2,Z7 hx1,Z6b,if_neg om,if_pos (by rw [Zfo,show (600-q-1:Int)=600-(q+1) by omega,←c1_2,Z7 hx2,Z6o,if_pos hp2];omega)];omega)⟩))
  have hE:Z6o x1.kids (600-(q+1))=600-j2:=by rw [←c1_2,Zs om,Z6o]
  refine ax 2 (az (ia (((k+1:Nat):Int)) (((k:Int))+(1)) (irk 1 (.n 12 (.i (k+1:Nat)) (.p (.d (.k (.k (.k .z)))))) (ie ?_))))
  have hdr:=Z7 hx1
  exact ⟨_,_,_,ob,⟨k+1,j2,ob,ob,(by rw [Z7 hx1,Z6b,if_neg om,Zfo,show (600-q-1:Int)=600-(q+1) by omega,hE,if_neg om] at c0_2;exact c0_2),rfl,rfl,rfl⟩,(wk [0] (fr (fr (fr (fc (x:=.i (k+1:Nat)) li fl)))))⟩
 refine ax 0 (ar (ir 1 [(4,.b true)] (ie ?_)))
 have hF:Z3p b (600-v)=600-q:=by rw [hbe,←c0_2,Zs om,Z6b]
 exact at_ (r1 [0] (.inl ⟨rfl,rfl,om⟩) (eq:=(ro (ls:=[.i q]) (by rw [hF,show (600-(600-q):Int)=q by omega]) rz)))
theorem Zcf:∀(b:Block) (c:Nat) (v:Int),(b.sz≤1000000000)→(0≤v∧v≤600)→Z3 Tryz.prog 126 [Zj b,.p c 0] [.obj c [.i v]] (fun r h=>(r=.b true∧h=[.obj c [.i (600-Z3p b (600-v))]]∧0≤Z3p b (600-v))∨(r=.b false∧h=[]∧Z3p b (600-v)<0)):=by
 have key:∀m:Nat,∀(b:Block) (c:Nat) (v:Int),(b.sz≤m)→(b.sz≤1000000000)→(0≤v∧v≤600)→Z3 Tryz.prog 126 [Zj b,.p c 0] [.obj c [.i v]] (fun r h=>(r=.b true∧h=[.obj c [.i (600-Z3p b (600-v))]]∧0≤Z3p b (600-v))∨(r=.b false∧h=[]∧Z3p b (600-v)<0)):=by
  intro m
  induction m with
  | zero=>intro b c v h;have:=b.sz_pos;omega
  | succ m ih=>intro b c v h1 h2 h3;exact Zaj b c v h2 h3 fun b2 c2 v2 k1 k2=>ih b2 c2 v2 om om k2
 intro b c v h2 h3
 exact key b.sz b c v (Nat.le_refl _) h2 h3
theorem Z9t (b:Block) (hb:b.sz≤1000000000:=by exact ob):Z3 Tryz.prog 68 [Zj b] [] (fun r h=>r=.i (Z1x b)∧h=[]):=by
 refine enter Tryz.func68 kr (n:=8) kr kr (ar (iA (Z0l b) ?_))
 intro b1
 refine ir 1 [(1,.p b1 0)] (ie (ar (iA [.i 0] ?_)))
 intro b2
 refine iS 0 b2 0 [.i 0] [.i 0] [.i 0] (ie (aq (ar (irK 1 (.n 4 (Zj b) .r) [1] [b1] (ic [0] (Zcf b b2 0 ob ob) ?_)))))
 rintro _ _ (⟨rfl,rfl,hp1⟩|⟨rfl,rfl,hp2⟩)
 ·have h0:=hp1
  rw [show (600-0:Int)=600 from rfl] at h0
  refine irk 1 (.n 6 (.b false) .r) (ie (ac0 (ak (ar (iR 2 [(2,.i (600-Z3p b (600-0)))] [0] [b2] (ie ?_))))))
  exact at_ (r2 [] [.i (600-Z3p b (600-0))] ⟨rfl,rfl⟩ (li (by rw [show (600-0:Int)=600 from rfl,Z1x,if_neg om])))
 have h0:=hp2
 rw [show (600-0:Int)=600 from rfl] at h0
 refine irk 1 (.n 6 (.b true) .r) (ie (ac1 (ar (ir 1 [(2,.i (-1))] (ie ?_)))))
 exact at_ (r2 [] [.i (-1)] ⟨rfl,rfl⟩ (li (by rw [Z1x,if_pos h0])))
theorem Zdp (ds:List Decl) (fs:List Sg3) (hz:DSz ds:=by exact ob) (hf:∀f∈fs,f.pms.length≤4194304∧f.lnt.length≤4194304) (hfl:fs.length≤4194304:=by exact ob):Z3 Tryz.prog 58 [Z2 ds,nSg3 fs] [] (fun r h=>r=.b (Z2u ds fs)∧h=[]):=by
 have hzl:=hz.len
 refine enter Tryz.func58 kr (n:=102) kr kr (ar (ir 1 [(0,Z2 ds),(1,nSg3 fs)] (ie (aq (ar (irk 1 (.n 9 (Z2 ds) .r) (ic [] (Zcc ds) ?_)))))))
 rintro _ _ ⟨rfl,rfl⟩
 refine Z1i 8 [(0,Z2 ds),(1,nSg3 fs),(16,.b ((!Zy ds)||(decide ((fs.length:Int)<1))))] [] ?_ (fun hj1=>?_)
 ·refine Z1i 13 [(0,Z2 ds),(1,nSg3 fs),(21,.b (((!Zy ds)||(decide ((fs.length:Int)<1)))||(decide ((fs.length:Int)>4))))] [] ?_ (fun hj2=>?_)
  ·refine ir 1 [(0,Z2 ds),(1,nSg3 fs),(22,.b (((!Zy ds)||(decide ((fs.length:Int)<1)))||(decide ((fs.length:Int)>4))))] (ib (b:=(((!Zy ds)||(decide ((fs.length:Int)<1)))||(decide ((fs.length:Int)>4)))) 22 (fun hb1=>?_) (fun hb1=>?_))
   ·have hp1:((¬(Zy ds=true))∨((fs.length:Int)<1))∨((fs.length:Int)>4):=((Zf (Zf (Zc Iff.rfl) dq) dq)).1 hb1
    refine irk 14 (.n 36 (.b true) (.d (.k (.k .z)))) (ie (ac1 (ar (ir 1 [(4,.b false)] (ie ?_)))))
    exact at_ (r2 [] [.b false] ⟨rfl,rfl⟩ (lb (Z02w (by assumption))))
   have hp2:¬(((¬(Zy ds=true))∨((fs.length:Int)<1))∨((fs.length:Int)>4)):=Zd (Zf (Zf (Zc Iff.rfl) dq) dq) hb1
   refine irk 1 (.n 23 (nSg3 fs) (.k (.k (.k .z)))) ?_
   obtain ⟨x1,hx1⟩:=Z8 (xs:=fs) (j:=0) om
   refine is_ (Z0 (es:=Z5j fs) (hv:=none) (j:=0) (sz:=3) (y:=aSg3 x1) kr om (Z77 hx1) rfl) (irk 2 (.n 26 (nInt x1.pms) .r) (io (.i x1.pms.length) (.i (((Z6 x1.pms).length:Nat):Int)) (li (by rw [Z5])) (irk 3 (.n 30 (.b (decide ((x1.pms.length:Int)>0))) .r) (ib (b:=(decide ((x1.pms.length:Int)>0))) 30 (fun hb2=>?_) (fun hb2=>?_)))))
   ·have hp3:(x1.pms.length:Int)>0:=(dq).1 hb2
    refine irk 6 (.n 36 (.b true) (.k (.d .r))) (ie (ac1 (ar (ir 1 [(4,.b false)] (ie ?_)))))
    exact at_ (r2 [] [.b false] ⟨rfl,rfl⟩ (lb (Zx9 hx1 (.inl (by assumption)))))
   have hp4:¬((x1.pms.length:Int)>0):=Zd dq hb2
   refine irk 1 (.n 31 (nSg3 fs) (.k (.d .r))) (is_ (Z0 (es:=Z5j fs) (hv:=none) (j:=0) (sz:=3) (y:=aSg3 x1) kr om (Z77 hx1) rfl) (irk 4 (.n 36 (.b (x1.res != 0)) .r) (ie (ac (x1.res != 0) bne_iff_ne (fun hc1=>?_) (fun hc1=>?_)))))
   ·refine ar (ir 1 [(4,.b false)] (ie ?_))
    exact at_ (r2 [] [.b false] ⟨rfl,rfl⟩ (lb (Zx9 hx1 (.inr hc1))))
   refine ak (aq (ar (irk 1 (.n 37 (nSg3 fs) .r) (io (.i fs.length) (.i (((Z5j fs).length:Nat):Int)) (li (by rw [Z67])) (irk 1 (.n 39 (.i 0) .r) (ie (ab 0 (al (fun m F h=>∃(k:Nat),(k≤fs.length)∧(Z5v ds.length (fs.drop k)=Z5v ds.length fs)∧F=[(0,Z2 ds),(37,nSg3 fs),(38,.i fs.length),(39,.i k)]∧h=[]∧m=fs.length-k) _ _ _ ⟨0,ob,ob,rfl,rfl,rfl⟩ (wk [] (fr (fr (fr (fc (x:=.i 0) li fl))))) ?_))))))))
   rintro m F h ⟨k,c0_0,c0_1,rfl,rfl,rfl⟩
   refine ar (irk 1 (.n 40 (.b (decide ((k:Int)<(fs.length:Int)))) .r) (ie (aq (ac (decide ((k:Int)<(fs.length:Int))) dq (fun hc2=>?_) (fun hc2=>?_)))))
   ·refine ak (aq (ab 1 (ar ?_)))
    obtain ⟨x2,hx2⟩:=Z8 (xs:=fs) (j:=k) om
    have hf2:=hf _ (List.mem_of_getElem? hx2)
    refine is_ (Z0 (es:=Z5j fs) (hv:=none) (j:=(k:Int)) (sz:=3) (y:=aSg3 x2) kr om (Z77 hx2) rfl) (irk 1 (.n 42 (aSg3 x2) .r) (iA [nl,nl,.i 0] ?_))
    intro b1
    refine iS 0 b1 0 (lSg3 x2) [nl,nl,.i 0] (lSg3 x2) (ie (aq (ar (irK 2 (.n 44 (nInt x2.pms) .r) [0] [b1] (io (.i x2.pms.length) (.i (((Z6 x2.pms).length:Nat):Int)) (li (by rw [Z5])) (Z1i 11 [(0,Z2 ds),(6,.p b1 0),(37,nSg3 fs),(38,.i fs.length),(39,.i k),(53,.b ((decide ((x2.pms.length:Int)>3))||(!Z1o ds.length x2.pms)))] [.obj b1 (lSg3 x2)] ?_ (fun hj3=>?_)))))))
    ·refine Z27 [(0,Z2 ds),(6,.p b1 0),(37,nSg3 fs),(38,.i fs.length),(39,.i k),(60,.b (((decide ((x2.pms.length:Int)>3))||(!Z1o ds.length x2.pms))||(!(decide (0≤x2.res∧x2.res≤ds.length)))))] [.obj b1 (lSg3 x2)] ?_ ?_
     ·refine ir 1 [(0,Z2 ds),(6,.p b1 0),(37,nSg3 fs),(38,.i fs.length),(39,.i k),(54,.b ((decide ((x2.pms.length:Int)>3))||(!Z1o ds.length x2.pms)))] (ib (b:=((decide ((x2.pms.length:Int)>3))||(!Z1o ds.length x2.pms))) 54 (fun hb3=>?_) (fun hb3=>?_))
      ·have hp5:((x2.pms.length:Int)>3)∨(¬(Z1o ds.length x2.pms=true)):=((Zf dq (Zc Iff.rfl))).1 hb3
       refine irk 6 (.n 60 (.b true) (.d (.k (.k (.k (.k (.k .z))))))) (ie ?_)
       exact wk [0] (fr (fr (fr (fr (fr (fc (x:=.b true) (lb (by simp only [hb3];rfl)) fl))))))
      have hp6:¬(((x2.pms.length:Int)>3)∨(¬(Z1o ds.length x2.pms=true))):=Zd (Zf dq (Zc Iff.rfl)) hb3
      refine irK 3 (.n 55 (Z2 ds) (.n 57 (.i x2.res) (.k (.k (.k (.k (.k (.k .z)))))))) [0] [b1] (ic [] (Z61 ds x2.res) ?_)
      rintro _ _ ⟨rfl,rfl⟩
      refine irk 2 (.n 60 (.b (!(decide (0≤x2.res∧x2.res≤ds.length)))) .r) (ie ?_)
      exact wk [0] (fr (fr (fr (fr (fr (fc (x:=.b (!(decide (0≤x2.res∧x2.res≤ds.length)))) (lb (by simp only [hb3];rfl)) fl))))))
     refine ac (((decide ((x2.pms.length:Int)>3))||(!Z1o ds.length x2.pms))||(!(decide (0≤x2.res∧x2.res≤ds.length)))) (p:=(((x2.pms.length:Int)>3)∨(¬(Z1o ds.length x2.pms=true)))∨(¬(0≤x2.res∧x2.res≤ds.length))) (Zf (Zf dq (Zc Iff.rfl)) (Zc dq)) (fun hc3=>?_) (fun hc3=>?_)
     ·refine ar (ir 1 [(4,.b false)] (ie ?_))
      exact at_ (r2 [] [.b false] ⟨rfl,rfl⟩ (lb (Zl6 (Zcw hx2 (Z01z hc3) c0_1))))
     refine ak (ar (iR 2 [(0,Z2 ds),(6,.p b1 0),(37,nSg3 fs),(38,.i fs.length),(39,.i k),(62,nInt x2.lnt)] [0] [b1] (io (.i x2.lnt.length) (.i (((Z6 x2.lnt).length:Nat):Int)) (li (by rw [Z5])) (irk 1 (.n 64 (.i 0) .r) (ie (ab 2 (al (fun m F h=>∃(j:Nat),(j≤x2.lnt.length)∧(Z44 x2.pms (x2.lnt.drop j) (if j=0 then none else x2.lnt[j-1]?)=Z3h x2.pms x2.lnt)∧F=[(0,Z2 ds),(6,.p b1 0),(37,nSg3 fs),(38,.i fs.length),(39,.i k),(62,nInt x2.lnt),(63,.i x2.lnt.length),(64,.i j)]∧h=[.obj b1 (lSg3 x2)]∧m=x2.lnt.length-j) _ _ _ ⟨0,ob,(by rfl),rfl,rfl,rfl⟩ (wk [0] (fr (fr (fr (fr (fr (fr (fr (fc (x:=.i 0) li fl))))))))) ?_)))))))
     rintro m F h ⟨j,c1_0,c1_1,rfl,rfl,rfl⟩
     refine ar (irk 1 (.n 65 (.b (decide ((j:Int)<(x2.lnt.length:Int)))) .r) (ie (aq (ac (decide ((j:Int)<(x2.lnt.length:Int))) dq (fun hc4=>?_) (fun hc4=>?_)))))
     ·refine ak (aq (ab 3 (ar (irk 1 (.n 66 (.i j) .r) ?_))))
      obtain ⟨x3,hx3⟩:=Z8 (xs:=x2.lnt) (j:=j) om
      refine is_ (Z0 (es:=Z6 x2.lnt) (hv:=none) (j:=(j:Int)) (sz:=1) (y:=.i x3) kr om (Za hx3) rfl) (irk 3 (.n 7 (.i j) (.n 8 (.i x3) .r)) (ie (ar (Z1i 9 [(0,Z2 ds),(6,.p b1 0),(7,.i j),(8,.i x3),(37,nSg3 fs),(38,.i fs.length),(39,.i k),(62,nInt x2.lnt),(63,.i x2.lnt.length),(64,.i j),(77,.b ((decide (x3<0))||(decide (x3≥(x2.pms.length:Int)))))] [.obj b1 (lSg3 x2)] ?_ (fun hj4=>?_)))))
      ·refine ir 1 [(0,Z2 ds),(6,.p b1 0),(7,.i j),(8,.i x3),(37,nSg3 fs),(38,.i fs.length),(39,.i k),(62,nInt x2.lnt),(63,.i x2.lnt.length),(64,.i j),(78,.b ((decide (x3<0))||(decide (x3≥(x2.pms.length:Int)))))] (ib (b:=((decide (x3<0))||(decide (x3≥(x2.pms.length:Int))))) 78 (fun hb4=>?_) (fun hb4=>?_))
       ·have hp7:(x3<0)∨(x3≥(x2.pms.length:Int)):=((Zf dq dq)).1 hb4
        refine irk 21 (.n 99 (.b true) (.d (.k (.k (.d (.d (.k (.k (.k (.k (.k (.k .z)))))))))))) (ie (ac1 (ar (ir 1 [(4,.b false)] (ie ?_)))))
        exact at_ (r2 [] [.b false] ⟨rfl,rfl⟩ (lb (Zl6 (Zcw hx2 (Zos (Zkd hx3 (by rintro ⟨q1,q2,q3⟩;first|omega|(rw [hx4] at q2;exact q2 (congrArg some om))|(have:=q3 _ (by rw [if_neg om];exact hx5);omega)) c1_1)) c0_1))))
       have hp8:¬((x3<0)∨(x3≥(x2.pms.length:Int))):=Zd (Zf dq dq) hb4
       refine irK 3 (.n 80 (nInt x2.pms) (.n 81 (.i x3) (.k (.k (.k (.k (.k (.k (.k (.k (.k (.k (.k .z))))))))))))) [0] [b1] ?_
       obtain ⟨x4,hx4⟩:=Z8 (xs:=x2.pms) (j:=x3.toNat) om
       refine is_ (Z0 (es:=Z6 x2.pms) (hv:=none) (j:=x3) (sz:=1) (y:=.i x4) kr om (Za hx4) rfl) (irk 4 (.n 86 (.b (x4==0)) .r) (ib (b:=(x4==0)) 86 (fun hb5=>?_) (fun hb5=>?_)))
       ·have hp9:x4=0:=(beq_iff_eq).1 hb5
        refine irk 13 (.n 99 (.b true) (.k (.d .r))) (ie (ac1 (ar (ir 1 [(4,.b false)] (ie ?_)))))
        exact at_ (r2 [] [.b false] ⟨rfl,rfl⟩ (lb (Zl6 (Zcw hx2 (Zos (Zkd hx3 (by rintro ⟨q1,q2,q3⟩;first|omega|(rw [hx4] at q2;exact q2 (congrArg some om))|(have:=q3 _ (by rw [if_neg om];exact hx5);omega)) c1_1)) c0_1))))
       have hp10:¬(x4=0):=Zd beq_iff_eq hb5
       refine irk 3 (.n 89 (.b (decide ((j:Int)>0))) (.k (.d .r))) (ib (b:=(decide ((j:Int)>0))) 89 (fun hb6=>?_) (fun hb6=>?_))
       ·have hp11:(j:Int)>0:=(dq).1 hb6
        refine irK 4 (.n 90 (.i x3) (.n 92 (nInt x2.lnt) (.n 93 (.i j) (.k (.d .r))))) [0] [b1] (ia (((j-1:Nat):Int)) (((j:Int))-(1)) ?_)
        obtain ⟨x5,hx5⟩:=Z8 (xs:=x2.lnt) (j:=j-1) om
        refine is_ (Z0 (es:=Z6 x2.lnt) (hv:=none) (j:=((j-1:Nat):Int)) (sz:=1) (y:=.i x5) kr om (Za hx5) rfl) (irk 4 (.n 99 (.b (decide (x3≤x5))) .r) (ie (ac (decide (x3≤x5)) dq (fun hc5=>?_) (fun hc5=>?_))))
        ·refine ar (ir 1 [(4,.b false)] (ie ?_))
         exact at_ (r2 [] [.b false] ⟨rfl,rfl⟩ (lb (Zl6 (Zcw hx2 (Zos (Zkd hx3 (by rintro ⟨q1,q2,q3⟩;first|omega|(rw [hx4] at q2;exact q2 (congrArg some om))|(have:=q3 _ (by rw [if_neg om];exact hx5);omega)) c1_1)) c0_1))))
        refine ak (az (ia (((j+1:Nat):Int)) (((j:Int))+(1)) (irk 1 (.n 64 (.i (j+1:Nat)) (.p (.d (.p (.p (.d (.d (.d (.d (.d (.p (.d (.d (.d (.k (.k (.d (.d (.k (.k (.k (.k (.k .z))))))))))))))))))))))) (ie ?_))))
        have hdr:=Z7 hx3
        exact ⟨_,_,_,ob,⟨j+1,ob,(Zvb hx3 ⟨by omega,(by rw [hx4];intro q;cases q;omega),fun p hp=>by first|(rw [if_pos om] at hp;cases hp;done)|(rw [if_neg om,hx5] at hp;cases hp;omega)⟩ c1_1),rfl,rfl,rfl⟩,(wk [0] (fr (fr (fr (fr (fr (fr (fr (fc (x:=.i (j+1:Nat)) li fl)))))))))⟩
       have hp12:¬((j:Int)>0):=Zd dq hb6
       refine irk 10 (.n 99 (.b false) (.k (.d .r))) (ie (ac0 (ak (az (ia (((j+1:Nat):Int)) (((j:Int))+(1)) (irk 1 (.n 64 (.i (j+1:Nat)) (.p (.d (.d (.d (.p (.d (.d (.d (.k (.k (.d (.d (.k (.k (.k (.k (.k .z)))))))))))))))))) (ie ?_)))))))
       have hdr:=Z7 hx3
       exact ⟨_,_,_,ob,⟨j+1,ob,(Zvb hx3 ⟨by omega,(by rw [hx4];intro q;cases q;omega),fun p hp=>by first|(rw [if_pos om] at hp;cases hp;done)|(rw [if_neg om,hx5] at hp;cases hp;omega)⟩ c1_1),rfl,rfl,rfl⟩,(wk [0] (fr (fr (fr (fr (fr (fr (fr (fc (x:=.i (j+1:Nat)) li fl)))))))))⟩
      refine ir 3 [(0,Z2 ds),(6,.p b1 0),(7,.i j),(8,.i x3),(37,nSg3 fs),(38,.i fs.length),(39,.i k),(62,nInt x2.lnt),(63,.i x2.lnt.length),(64,.i j),(71,.b (decide (x3<0)))] (ib (b:=(decide (x3<0))) 71 (fun hb7=>?_) (fun hb7=>?_))
      ·have hp13:x3<0:=(dq).1 hb7
       refine irk 6 (.n 77 (.b true) (.d (.k (.k (.k (.k (.k (.k (.k (.k (.k (.k .z)))))))))))) ?_
       exact Zz (wk [0] (fr (fr (fr (fr (fr (fr (fr (fr (fr (fr (fc (x:=.b true) (lb (by simp only [hb7];rfl)) fl)))))))))))) hj4
      have hp14:¬(x3<0):=Zd dq hb7
      refine irK 3 (.n 72 (.i x3) (.n 74 (nInt x2.pms) (.k (.k (.k (.k (.k (.k (.k (.k (.k (.k (.k .z))))))))))))) [0] [b1] (io (.i x2.pms.length) (.i (((Z6 x2.pms).length:Nat):Int)) (li (by rw [Z5])) (irk 2 (.n 77 (.b (decide (x3≥(x2.pms.length:Int)))) .r) ?_))
      exact Zz (wk [0] (fr (fr (fr (fr (fr (fr (fr (fr (fr (fr (fc (x:=.b (decide (x3≥(x2.pms.length:Int)))) (lb (by simp only [hb7];rfl)) fl)))))))))))) hj4
     have hL:Z3h x2.pms x2.lnt=true:=by rw [←c1_1,Zs om];rfl
     have hS:=Z020 hc3 hL
     refine ax 2 (az (ia (((k+1:Nat):Int)) (((k:Int))+(1)) (irk 1 (.n 39 (.i (k+1:Nat)) (.p (.d (.k (.d (.k (.k .z))))))) (ie ?_))))
     have hdr:=Z7 hx2
     exact ⟨_,_,_,ob,⟨k+1,ob,(Zz6 hx2 hS c0_1),rfl,rfl,rfl⟩,(wk [] (fr (fr (fr (fc (x:=.i (k+1:Nat)) li fl)))))⟩
    refine ir 2 [(0,Z2 ds),(6,.p b1 0),(37,nSg3 fs),(38,.i fs.length),(39,.i k),(47,.b (decide ((x2.pms.length:Int)>3)))] (ib (b:=(decide ((x2.pms.length:Int)>3))) 47 (fun hb8=>?_) (fun hb8=>?_))
    ·have hp15:(x2.pms.length:Int)>3:=(dq).1 hb8
     refine irk 6 (.n 53 (.b true) (.d (.k (.k (.k (.k (.k .z))))))) ?_
     exact Zz (wk [0] (fr (fr (fr (fr (fr (fc (x:=.b true) (lb (by simp only [hb8];rfl)) fl))))))) hj3
    have hp16:¬((x2.pms.length:Int)>3):=Zd dq hb8
    refine irK 3 (.n 48 (Z2 ds) (.n 50 (nInt x2.pms) (.k (.k (.k (.k (.k (.k .z)))))))) [0] [b1] (ic [] (Z94 ds x2.pms) ?_)
    rintro _ _ ⟨rfl,rfl⟩
    refine irk 2 (.n 53 (.b (!Z1o ds.length x2.pms)) .r) ?_
    exact Zz (wk [0] (fr (fr (fr (fr (fr (fc (x:=.b (!Z1o ds.length x2.pms)) (lb (by simp only [hb8];rfl)) fl))))))) hj3
   refine ax 0 (ar (ir 1 [(4,.b true)] (ie ?_)))
   exact at_ (r2 [] [.b true] ⟨rfl,rfl⟩ (lb (Z02x (by assumption) hx1 (by assumption) hc1 (by rw [←c0_1,Zs om];rfl))))
  refine ir 1 [(0,Z2 ds),(1,nSg3 fs),(17,.b ((!Zy ds)||(decide ((fs.length:Int)<1))))] (ib (b:=((!Zy ds)||(decide ((fs.length:Int)<1)))) 17 (fun hb9=>?_) (fun hb9=>?_))
  ·have hp17:(¬(Zy ds=true))∨((fs.length:Int)<1):=((Zf (Zc Iff.rfl) dq)).1 hb9
   refine irk 4 (.n 21 (.b true) (.d (.k (.k .z)))) ?_
   exact Zz (wk [] (fr (fr (fc (x:=.b true) (lb (by simp only [hb9];rfl)) fl)))) hj2
  have hp18:¬((¬(Zy ds=true))∨((fs.length:Int)<1)):=Zd (Zf (Zc Iff.rfl) dq) hb9
  refine irk 1 (.n 18 (nSg3 fs) (.k (.k (.k .z)))) (io (.i fs.length) (.i (((Z5j fs).length:Nat):Int)) (li (by rw [Z67])) (irk 2 (.n 21 (.b (decide ((fs.length:Int)>4))) .r) ?_))
  exact Zz (wk [] (fr (fr (fc (x:=.b (decide ((fs.length:Int)>4))) (lb (by simp only [hb9];rfl)) fl)))) hj2
 refine ir 2 [(0,Z2 ds),(1,nSg3 fs),(12,.b (!Zy ds))] (ib (b:=(!Zy ds)) 12 (fun hb10=>?_) (fun hb10=>?_))
 ·have hp19:¬(Zy ds=true):=((Zc Iff.rfl)).1 hb10
  refine irk 4 (.n 16 (.b true) (.d (.k (.k .z)))) ?_
  exact Zz (wk [] (fr (fr (fc (x:=.b true) (lb (by simp only [hb10];rfl)) fl)))) hj1
 have hp20:¬(¬(Zy ds=true)):=Zd (Zc Iff.rfl) hb10
 refine irk 1 (.n 13 (nSg3 fs) (.k (.k (.k .z)))) (io (.i fs.length) (.i (((Z5j fs).length:Nat):Int)) (li (by rw [Z67])) (irk 2 (.n 16 (.b (decide ((fs.length:Int)<1))) .r) ?_))
 exact Zz (wk [] (fr (fr (fc (x:=.b (decide ((fs.length:Int)<1))) (lb (by simp only [hb10];rfl)) fl)))) hj1
theorem Z7l (n:Normal) (hz:NSz n:=by exact ob):Z3 Tryz.prog 25 [Zi n] [] (fun r h=>(r=.tup [.agg [Z2 n.decls,nSg3 (n.routines.map Z4)],.b (Z0c n)]∧h=[]∧n.routines.length≤4)∨(r=.tup [.agg [Z2 [],nSg3 []],.b false]∧h=[]∧Z0c n=false)):=by
 have hzl:=hz.len
 refine enter Tryz.func25 kr (n:=41) kr kr (ar (iA (Zh n) ?_))
 intro b1
 refine iA [nl,nl] ?_
 intro b2
 refine ir 1 [(1,.p b1 0),(2,.p b2 0)] (ie (aq (ar (irK 2 (.n 8 (Zm n.routines) .r) [1] [b1] (io (.i n.routines.length) (.i (((Zo n.routines).length:Nat):Int)) (li (by rw [Z09])) (irk 1 (.n 10 (.b (decide ((n.routines.length:Int)>4))) .r) (ie (ac (decide ((n.routines.length:Int)>4)) dq (fun hc1=>?_) (fun hc1=>?_)))))))))
 ·refine ar (irk 1 (.n 11 (.agg [nl,nl]) .r) (iS 0 b2 0 [nl,nl] [nl,nl] [nl,nl] (irk 1 (.n 3 (.b false) .r) (ie ?_))))
  exact at_ (r3 [] [.agg [nl,nl],.b false] [0] [(b2,b2)] (.inr ⟨rfl,rfl,(by rw [Zh2,decide_eq_false om];rfl)⟩) (AVLe.tup (.cons (AVLe.agg (.cons (AVLe.sl _ rfl) (.cons (AVLe.sl _ rfl) .nil))) (.cons (lr _) .nil))))
 refine ak (ar (irK 3 (.n 14 (.agg [Z2 n.decls,nl]) .r) [1] [b1] (iA [nl,nl] ?_)))
 intro b3
 refine iS 0 b3 0 [Z2 n.decls,nl] [nl,nl] [Z2 n.decls,nl] (ie (aq (ar (irK 2 (.n 16 (Zm n.routines) .r) [2] [b1] (io (.i n.routines.length) (.i (((Zo n.routines).length:Nat):Int)) (li (by rw [Z09])) (irk 1 (.n 18 (.i 0) .r) (ie (ab 0 (Z50 3 (al (fun m F h=>∃(k:Nat) (v:Value),(k≤n.routines.length)∧F=[(1,.p b1 0),(2,.p b2 0),(4,.p b3 0),(16,Zm n.routines),(17,.i n.routines.length),(18,.i k)]∧h=[.obj b3 [Z2 n.decls,oSg3 ((n.routines.take k).map Z4) v],.obj b2 [nl,nl],.obj b1 (Zh n),.tail v 3]∧m=n.routines.length-k) _ _ _ ⟨0,(.slice none 0 0),ob,rfl,rfl,rfl⟩ (wk [1,1,1,0] (fr (fr (fr (fr (fr (fc (x:=.i 0) li fl))))))) ?_))))))))))
 rintro m F h ⟨k,v,c0_0,rfl,rfl,rfl⟩
 refine ar (irk 1 (.n 19 (.b (decide ((k:Int)<(n.routines.length:Int)))) .r) (ie (aq (ac (decide ((k:Int)<(n.routines.length:Int))) dq (fun hc2=>?_) (fun hc2=>?_)))))
 ·refine ak (aq (ab 1 (ar ?_)))
  obtain ⟨x1,hx1⟩:=Z8 (xs:=n.routines) (j:=k) om
  refine is_ (Z0 (es:=Zo n.routines) (hv:=none) (j:=(k:Int)) (sz:=5) (y:=Z0n x1) kr om (Z0v hx1) rfl) (irk 1 (.n 21 (Z0n x1) .r) (iA [nl,nl,.i 0,nl,.i 0] ?_))
  intro b4
  refine iS 0 b4 0 (Z1m x1) [nl,nl,.i 0,nl,.i 0] (Z1m x1) (ie (az (irK 9 (.n 23 (oSg3 ((n.routines.take k).map Z4) v) (.n 30 (.agg [nInt x1.params,nInt x1.lent,.i x1.result]) .r)) [1,0,0,0] [b3,b4,b4,b4] (iL (Z5j [Sg3.mk x1.params x1.lent x1.result]) 1 3 ?_))))
  intro v1
  refine irk 0 (.n 31 (nSg3 [Sg3.mk x1.params x1.lent x1.result]) (.p .r)) (ip 5 (Z5j ((n.routines.take (k+1)).map Z4)) (Z5j ((n.routines.take k).map Z4)) (Z5j [Sg3.mk x1.params x1.lent x1.result]) v none 3 (Zlr _) (Zlr _) (Zu7 _) (by simp<;>omega) (by rw [Z1y hx1];simp [Z5j,Z4]) ?_)
  intro v2
  refine irk 1 (.n 33 (.p b3 1) .r) (iS 3 b3 1 [oSg3 ((n.routines.take (k+1)).map Z4) v2] [Z2 n.decls,oSg3 ((n.routines.take k).map Z4) v] [Z2 n.decls,oSg3 ((n.routines.take (k+1)).map Z4) v2] (ie (az (ia (((k+1:Nat):Int)) (((k:Int))+(1)) (irk 1 (.n 18 (.i (k+1:Nat)) (.p (.d (.p (.d (.d (.d (.p (.d (.p (.d (.k (.k (.k (.k (.k .z)))))))))))))))) (ie ?_))))))
  have hdr:=Z7 hx1
  exact ⟨_,_,_,ob,⟨k+1,v2,ob,rfl,rfl,rfl⟩,(wk [0,3,3,0] (fr (fr (fr (fr (fr (fc (x:=.i (k+1:Nat)) li fl)))))))⟩
 refine ax 0 (aD 8 (dtK (fuel:=3) 8 [0,1,2,3,4] (.n 35 (.agg [Z2 n.decls,oSg3 ((n.routines.take k).map Z4) v]) (.n 37 (Z2 n.decls) (.n 39 (nSg3 ((n.routines.take k).map Z4)) .r))) [0,2,0] [b3,b1,b3] (do_ 5 (dc 5 [] [0] [b3] (Zdp n.decls ((n.routines.take k).map Z4) (hz:=hz.decls) (hf:=(by intro f hf;obtain ⟨r,h1,rfl⟩:=List.mem_map.1 hf;have:=List.mem_of_mem_take h1;exact ⟨hz.params r this,hz.lent r this⟩))) ?_))))
 rintro _ _ ⟨rfl,rfl⟩
 refine do_ 6 (dS 6 1 [] [] b2 0 [Z2 n.decls,oSg3 ((n.routines.take k).map Z4) v] [nl,nl] [Z2 n.decls,oSg3 ((n.routines.take k).map Z4) v] (dtk (fuel:=0) 1 [7] (.n 3 (.b (Z2u n.decls ((n.routines.take k).map Z4))) .r) (de ?_)))
 have htk:n.routines.take k=n.routines:=List.take_of_length_le om
 exact at_ (r3 [] [.agg [Z2 n.decls,oSg3 ((n.routines.take k).map Z4) v],.b (Z2u n.decls ((n.routines.take k).map Z4))] [0] [(b2,b2)] (.inl ⟨rfl,rfl,om⟩) (AVLe.tup (.cons (AVLe.agg (.cons (lr _) (.cons (AVLe.sl _ (congrArg Z5j (by rw [htk]))) .nil))) (.cons (lb (by rw [htk,Zh2,decide_eq_true (p:=n.routines.length≤4) om,Bool.true_and])) .nil))))
end Go.Abs
end
section
namespace Go.Abs
open Go.Proofs
theorem Z2e (n:Normal) (t:Int) (hn:NOk n:=by exact ob):Z3 Tryz.prog 64 [.agg [Z2 n.decls,nSg3 (n.routines.map Z4)],.i t] [] (fun r h=>r=Z30 ((Zb n.decls t).map (Z1 n.decls))∧h=[]):=by
 have hdk:=hn.decls
 have hcl:=Zh4 hdk t
 refine enter Tryz.func64 kr (n:=26) kr kr (ar (iA [Z2 n.decls,nSg3 (n.routines.map Z4)] ?_))
 intro b1
 refine ir 1 [(1,.i t),(2,.p b1 0)] (ie (ar (irk 1 (.n 5 (nl) .r) (ie (aq (ar (irK 3 (.n 9 (Z2 n.decls) (.n 10 (.i t) .r)) [0] [b1] (ic [] (Zhw n.decls t) ?_))))))))
 rintro _ _ ⟨rfl,rfl⟩
 refine io (.i (((Zb n.decls t).length:Nat):Int)) (.i (((Z6 (Zb n.decls t)).length:Nat):Int)) (li (by rw [Z5])) (irk 1 (.n 13 (.i 0) .r) (ie (ab 0 (Z50 1 (al (fun m F h=>∃(k:Nat) (v:Value),(k≤(Zb n.decls t).length)∧F=[(2,.p b1 0),(5,Zi3 (((Zb n.decls t).take k).map (Z1 n.decls)) v),(11,nInt (Zb n.decls t)),(12,.i (((Zb n.decls t).length:Nat):Int)),(13,.i k)]∧h=[.obj b1 [Z2 n.decls,nSg3 (n.routines.map Z4)],.tail v 1]∧m=(Zb n.decls t).length-k) _ _ _ ⟨0,(.slice none 0 0),ob,rfl,rfl,rfl⟩ (wk [1,0] (fr (fc (x:=nl) (AVLe.slh _ rfl) (fr (fr (fc (x:=.i 0) li fl)))))) ?_)))))
 rintro m F h ⟨k,v,c0_0,rfl,rfl,rfl⟩
 refine ar (irk 1 (.n 14 (.b (decide ((k:Int)<(((Zb n.decls t).length:Nat):Int)))) .r) (ie (aq (ac (decide ((k:Int)<(((Zb n.decls t).length:Nat):Int))) dq (fun hc1=>?_) (fun hc1=>?_)))))
 ·refine ak (aq (ab 1 (ar ?_)))
  obtain ⟨x1,hx1⟩:=Z8 (xs:=Zb n.decls t) (j:=k) om
  refine is_ (Z0 (es:=Z6 (Zb n.decls t)) (hv:=none) (j:=(k:Int)) (sz:=1) (y:=.i x1) kr om (Za hx1) rfl) (irk 2 (.n 7 (.i x1) .r) (ie (az (irK 4 (.n 17 (Zi3 (((Zb n.decls t).take k).map (Z1 n.decls)) v) (.n 19 (Z2 n.decls) (.n 20 (.i x1) .r))) [0] [b1] (ic [] (Zf3 n.decls x1 (hc:=(by have:=Zlo hdk hx1;omega))) ?_)))))
  rintro _ _ ⟨rfl,rfl⟩
  refine iL (Z33 [Z1 n.decls x1]) 1 1 ?_
  intro v1
  refine irk 0 (.n 22 (Z30 [Z1 n.decls x1]) (.p .r)) (ip 2 (Z33 (((Zb n.decls t).take (k+1)).map (Z1 n.decls))) (Z33 (((Zb n.decls t).take k).map (Z1 n.decls))) (Z33 [Z1 n.decls x1]) v none 1 (Zim _) (Zim _) (Zri _) (by simp;omega) (by rw [Z1y hx1];simp [Z33]) ?_)
  intro v2
  refine irk 1 (.n 5 (Zi3 (((Zb n.decls t).take (k+1)).map (Z1 n.decls)) v2) (.p (.d (.p (.d (.d (.d (.d (.p (.d (.k (.d .r)))))))))))) (ie (az (ia (((k+1:Nat):Int)) (((k:Int))+(1)) (irk 1 (.n 13 (.i (k+1:Nat)) (.p (.k (.k (.k (.k .z)))))) (ie ?_)))))
  have hdr:=Z7 hx1
  exact ⟨_,_,_,ob,⟨k+1,v2,ob,rfl,rfl,rfl⟩,(wk [2,0] (fr (fr (fr (fr (fc (x:=.i (k+1:Nat)) li fl))))))⟩
 refine ax 0 (ar (ir 2 [(4,Zi3 (((Zb n.decls t).take k).map (Z1 n.decls)) v)] (ie ?_)))
 exact at_ (r2 [] [Zi3 (((Zb n.decls t).take k).map (Z1 n.decls)) v] ⟨rfl,rfl⟩ (AVLe.sl _ (congrArg Z33 (by rw [List.take_of_length_le om]))))
theorem Z6h (n:Normal) (op:Int) (num:Int) (ts:List Int) (hn:NOk n:=by exact ob) (hl_ts:ts.length≤4294967296:=by exact ob) (hnum:-9223372036854775808≤num∧num≤9223372036854775807:=by exact ob):Z3 Tryz.prog 197 [.agg [Z2 n.decls,nSg3 (n.routines.map Z4)],.i op,.i num,nInt ts] [] (fun r h=>∃(t:Int),r=.tup [.i t,.b ((Z0s n op num ts).isSome)]∧h=[]∧∀x,Z0s n op num ts=some x→t=x):=by
 have hdk:=hn.decls
 have hrl:=hn.len
 have hcfl:(Z1 n.decls num).length≤4294967296:=by have:=Z13 hdk num;omega
 have hdl:n.decls.length≤4294967296:=by have:=hdk.len;omega
 refine enter Tryz.func197 kr (n:=149) kr kr (ar (iA [Z2 n.decls,nSg3 (n.routines.map Z4)] ?_))
 intro b1
 refine ir 2 [(1,.i op),(2,.i num),(3,nInt ts),(4,.p b1 0)] (ie (ar (irk 2 (.n 11 (.i 0) .r) (ie (aq (ar (irk 1 (.n 18 (.i op) .r) (ie (ab 0 (ar (irk 2 (.n 19 (.b (op==0)) .r) (ie (ac (op==0) beq_iff_eq (fun hc1=>?_) (fun hc1=>?_))))))))))))))
 ·refine ar (Z1i 6 [(3,nInt ts),(26,.b ((decide (num≥(-999)))&&(decide (num≤999))))] [.obj b1 [Z2 n.decls,nSg3 (n.routines.map Z4)]] ?_ (fun hj1=>?_))
  ·refine Z1i 11 [(31,.b (((decide (num≥(-999)))&&(decide (num≤999)))&&((ts.length:Int)==0)))] [.obj b1 [Z2 n.decls,nSg3 (n.routines.map Z4)]] ?_ (fun hj2=>?_)
   ·refine ir 2 [(8,.i 0),(9,.b (((decide (num≥(-999)))&&(decide (num≤999)))&&((ts.length:Int)==0)))] (ie ?_)
    have hF:=sf0 (n:=n) (num:=num) (ts:=ts) hc1
    exact at_ (r2 [] [.i 0,.b (((decide (num≥(-999)))&&(decide (num≤999)))&&((ts.length:Int)==0))] ⟨0,rfl,rfl,(sfp hF)⟩ (AVLe.tup (.cons (lr _) (.cons (lb (sfb hF (by simp [*];try omega))) .nil))))
   refine ir 1 [(3,nInt ts),(27,.b ((decide (num≥(-999)))&&(decide (num≤999))))] (ib (b:=((decide (num≥(-999)))&&(decide (num≤999)))) 27 (fun hb1=>?_) (fun hb1=>?_))
   ·have hp1:(num≥(-999))∧(num≤999):=((Zk dq dq)).1 hb1
    refine irk 1 (.n 28 (nInt ts) (.k .z)) (io (.i ts.length) (.i (((Z6 ts).length:Nat):Int)) (li (by rw [Z5])) (ir 2 [(31,.b ((ts.length:Int)==0))] ?_))
    exact Zz (wk [0] (fc (x:=.b ((ts.length:Int)==0)) (lb (by simp only [hb1];rfl)) fl)) hj2
   have hp2:¬((num≥(-999))∧(num≤999)):=Zd (Zk dq dq) hb1
   refine ir 4 [(31,.b false)] ?_
   exact Zz (wk [0] (fc (x:=.b false) (lb (by simp only [hb1];rfl)) fl)) hj2
  refine ir 3 [(2,.i num),(3,nInt ts),(23,.b (decide (num≥(-999))))] (ib (b:=(decide (num≥(-999)))) 23 (fun hb2=>?_) (fun hb2=>?_))
  ·have hp3:num≥(-999):=(dq).1 hb2
   refine ir 3 [(3,nInt ts),(26,.b (decide (num≤999)))] ?_
   exact Zz (wk [0] (fr (fc (x:=.b (decide (num≤999))) (lb (by simp only [hb2];rfl)) fl))) hj1
  have hp4:¬(num≥(-999)):=Zd dq hb2
  refine ir 3 [(3,nInt ts),(26,.b false)] ?_
  exact Zz (wk [0] (fr (fc (x:=.b false) (lb (by simp only [hb2];rfl)) fl))) hj1
 refine aq (ar (irk 2 (.n 32 (.b (op==1)) .r) (ie (Z92 (fun F h=>F=[(1,.i op),(2,.i num),(3,nInt ts),(4,.p b1 0),(11,.i 0),(18,.i op),(32,.b ((op==1)||((op==2)||((op==3)||(op==4)))))]∧h=[.obj b1 [Z2 n.decls,nSg3 (n.routines.map Z4)]]) ?_ ?_))))
 ·refine ac (op==1) beq_iff_eq (fun hc2=>?_) (fun hc2=>?_)
  ·refine ak ?_
   exact ⟨[(1,.i op),(2,.i num),(3,nInt ts),(4,.p b1 0),(11,.i 0),(18,.i op),(32,.b ((op==1)||((op==2)||((op==3)||(op==4)))))],[.obj b1 [Z2 n.decls,nSg3 (n.routines.map Z4)]],⟨rfl,rfl⟩,(wk [0] (fr (fr (fr (fr (fr (fr (fc (x:=.b (op==1)) (lb (by first|rfl|(rw [if_pos hc2])|(rw [if_neg hc2])|(simp [hc2];done)|(rw [Bool.eq_iff_iff];simp [hc2];done)|omega)) fl))))))))⟩
  refine ar (ir 2 [(1,.i op),(2,.i num),(3,nInt ts),(4,.p b1 0),(11,.i 0),(18,.i op),(32,.b (op==2))] (ie (ac (op==2) beq_iff_eq (fun hc3=>?_) (fun hc3=>?_))))
  ·refine ak ?_
   exact ⟨[(1,.i op),(2,.i num),(3,nInt ts),(4,.p b1 0),(11,.i 0),(18,.i op),(32,.b ((op==1)||((op==2)||((op==3)||(op==4)))))],[.obj b1 [Z2 n.decls,nSg3 (n.routines.map Z4)]],⟨rfl,rfl⟩,(wk [0] (fr (fr (fr (fr (fr (fr (fc (x:=.b (op==2)) (lb (by first|rfl|(rw [if_pos hc2])|(rw [if_neg hc2])|(simp [hc2,hc3];done)|(rw [Bool.eq_iff_iff];simp [hc2,hc3];done)|omega)) fl))))))))⟩
  refine ar (irk 2 (.n 32 (.b (op==3)) (.k (.k (.k (.k (.k (.k .z))))))) (ie (ac (op==3) beq_iff_eq (fun hc4=>?_) (fun hc4=>?_))))
  ·refine ak ?_
   exact ⟨[(1,.i op),(2,.i num),(3,nInt ts),(4,.p b1 0),(11,.i 0),(18,.i op),(32,.b ((op==1)||((op==2)||((op==3)||(op==4)))))],[.obj b1 [Z2 n.decls,nSg3 (n.routines.map Z4)]],⟨rfl,rfl⟩,(wk [0] (fr (fr (fr (fr (fr (fr (fc (x:=.b (op==3)) (lb (by first|rfl|(rw [if_pos hc2])|(rw [if_neg hc2])|(simp [hc2,hc3,hc4];done)|(rw [Bool.eq_iff_iff];simp [hc2,hc3,hc4];done)|omega)) fl))))))))⟩
  refine az (irk 2 (.n 32 (.b (op==4)) (.d .r)) (ie ?_))
  exact ⟨[(1,.i op),(2,.i num),(3,nInt ts),(4,.p b1 0),(11,.i 0),(18,.i op),(32,.b ((op==1)||((op==2)||((op==3)||(op==4)))))],[.obj b1 [Z2 n.decls,nSg3 (n.routines.map Z4)]],⟨rfl,rfl⟩,(wk [0] (fr (fr (fr (fr (fr (fr (fc (x:=.b (op==4)) (lb (by first|rfl|(rw [if_pos hc2])|(rw [if_neg hc2])|(simp [hc2,hc3,hc4];done)|(rw [Bool.eq_iff_iff];simp [hc2,hc3,hc4];done)|omega)) fl))))))))⟩
 rintro F h ⟨rfl,rfl⟩
 refine ac ((op==1)||((op==2)||((op==3)||(op==4)))) (p:=(op=1)∨((op=2)∨((op=3)∨(op=4)))) (Zf beq_iff_eq (Zf beq_iff_eq (Zf beq_iff_eq beq_iff_eq))) (fun hc5=>?_) (fun hc5=>?_)
 ·refine az (iL (Z6 [0,0]) 2 1 ?_)
  intro v1
  refine ir 1 [(2,.i num),(3,nInt ts),(10,oInt [0,0] v1),(11,.i 0)] (ie (ar (Z1i 8 [(141,.i 0),(148,.b ((num==0)&&(decide (ts=[0,0]))))] [.tail v1 1,.obj b1 [Z2 n.decls,nSg3 (n.routines.map Z4)]] ?_ (fun hj3=>?_))))
  ·refine ir 2 [(8,.i 0),(9,.b ((num==0)&&(decide (ts=[0,0]))))] (ie ?_)
   have hF:=sf1 (n:=n) (num:=num) (ts:=ts) hc5
   exact at_ (r2 [] [.i 0,.b ((num==0)&&(decide (ts=[0,0])))] ⟨0,rfl,rfl,(sfp hF)⟩ (AVLe.tup (.cons (lr _) (.cons (lb (sfb hF (by simp [*];try omega))) .nil))))
  refine ir 4 [(3,nInt ts),(10,oInt [0,0] v1),(141,.i 0),(144,.b (num==0))] (ib (b:=(num==0)) 144 (fun hb3=>?_) (fun hb3=>?_))
  ·have hp5:num=0:=(beq_iff_eq).1 hb3
   refine irk 2 (.n 145 (nInt ts) (.n 146 (nInt [0,0]) (.k (.d (.d (.k .z)))))) (ic [] (Z18 ts [0,0]) ?_)
   rintro _ _ ⟨rfl,rfl⟩
   refine irk 1 (.n 148 (.b (decide (ts=[0,0]))) .r) ?_
   exact Zz (wk [0,0] (fr (fc (x:=.b (decide (ts=[0,0]))) (lb (by simp only [hb3];rfl)) fl))) hj3
  have hp6:¬(num=0):=Zd beq_iff_eq hb3
  refine ir 4 [(141,.i 0),(148,.b false)] ?_
  exact Zz (wk [0,0] (fr (fc (x:=.b false) (lb (by simp only [hb3];rfl)) fl))) hj3
 refine ar (ir 2 [(1,.i op),(2,.i num),(3,nInt ts),(4,.p b1 0),(11,.i 0),(18,.i op),(38,.b (op==5))] (ie (ac (op==5) beq_iff_eq (fun hc6=>?_) (fun hc6=>?_))))
 ·refine az (iL (Z6 [0]) 1 1 ?_)
  intro v2
  refine irk 1 (.n 10 (oInt [0] v2) .r) (ie (ar (Z1i 8 [(141,.i 0),(148,.b ((num==0)&&(decide (ts=[0]))))] [.tail v2 1,.obj b1 [Z2 n.decls,nSg3 (n.routines.map Z4)]] ?_ (fun hj4=>?_))))
  ·refine ir 2 [(8,.i 0),(9,.b ((num==0)&&(decide (ts=[0]))))] (ie ?_)
   have hF:=sf5 (n:=n) (num:=num) (ts:=ts) hc6
   exact at_ (r2 [] [.i 0,.b ((num==0)&&(decide (ts=[0])))] ⟨0,rfl,rfl,(sfp hF)⟩ (AVLe.tup (.cons (lr _) (.cons (lb (sfb hF (by simp [*];try omega))) .nil))))
  refine ir 4 [(3,nInt ts),(10,oInt [0] v2),(141,.i 0),(144,.b (num==0))] (ib (b:=(num==0)) 144 (fun hb4=>?_) (fun hb4=>?_))
  ·have hp7:num=0:=(beq_iff_eq).1 hb4
   refine irk 2 (.n 145 (nInt ts) (.n 146 (nInt [0]) (.k (.d (.d (.k .z)))))) (ic [] (Z18 ts [0]) ?_)
   rintro _ _ ⟨rfl,rfl⟩
   refine irk 1 (.n 148 (.b (decide (ts=[0]))) .r) ?_
   exact Zz (wk [0,0] (fr (fc (x:=.b (decide (ts=[0]))) (lb (by simp only [hb4];rfl)) fl))) hj4
  have hp8:¬(num=0):=Zd beq_iff_eq hb4
  refine ir 4 [(141,.i 0),(148,.b false)] ?_
  exact Zz (wk [0,0] (fr (fc (x:=.b false) (lb (by simp only [hb4];rfl)) fl))) hj4
 refine ar (irk 2 (.n 41 (.b (op==11)) .r) (ie (ac (op==11) beq_iff_eq (fun hc7=>?_) (fun hc7=>?_))))
 ·refine aq (ar (irk 1 (.n 43 (nInt ts) .r) (io (.i ts.length) (.i (((Z6 ts).length:Nat):Int)) (li (by rw [Z5])) (irk 1 (.n 45 (.b ((ts.length:Int) != 2)) .r) (ie (ac ((ts.length:Int) != 2) bne_iff_ne (fun hc8=>?_) (fun hc8=>?_)))))))
  ·refine ar (ir 2 [(8,.i (-1)),(9,.b false)] (ie ?_))
   have hF:=Z05c (n:=n) (num:=num) hc7 hc8
   exact at_ (r2 [] [.i (-1),.b false] ⟨(-1),rfl,rfl,(sfnp hF)⟩ (AVLe.tup (.cons (lr _) (.cons (lb (sfn hF)) .nil))))
  refine ak (aD 12 (dtK (fuel:=9) 12 [0,1,2] (.n 48 (Z2 n.decls) (.n 49 (nInt ts) .r)) [0] [b1] ?_))
  obtain ⟨x1,hx1⟩:=Z8 (xs:=ts) (j:=0) om
  refine dx 3 (Z0 (es:=Z6 ts) (hv:=none) (j:=0) (sz:=1) (y:=.i x1) kr om (Za hx1) rfl) (dtk (fuel:=7) 8 [4] (.n 51 (.i x1) .r) (dK (fun F h=>∃(b2:Nat),F=[(2,.i num),(3,nInt ts),(12,.p b2 0),(13,.b (Z01 n.decls x1))]∧h=[.obj b2 (Z2i (Z29 n.decls x1)),.obj b1 [Z2 n.decls,nSg3 (n.routines.map Z4)]]) ?_ ?_))
  ·refine Zxx 5 9 ?_ ?_
   ·refine dc 5 [] [] [] (Z5d n.decls x1) ?_
    rintro _ _ ⟨rfl,rfl⟩
    refine dt (fuel:=3) 6 [6,7,8] [(2,.i num),(3,nInt ts),(53,Z2r (Z29 n.decls x1)),(54,.b (Z01 n.decls x1))] (do_ 9 (dA 9 [] [] [.i 0,.i 0,nl] ?_))
    intro b2
    refine do_ 10 (dS 10 0 [] [] b2 0 (Z2i (Z29 n.decls x1)) [.i 0,.i 0,nl] (Z2i (Z29 n.decls x1)) (dtk (fuel:=0) 1 [11] (.n 13 (.b (Z01 n.decls x1)) .r) (de ?_)))
    exact ⟨[(2,.i num),(3,nInt ts),(12,.p b2 0),(13,.b (Z01 n.decls x1))],[.obj b2 (Z2i (Z29 n.decls x1)),.obj b1 [Z2 n.decls,nSg3 (n.routines.map Z4)]],⟨b2,rfl,rfl⟩,(wk [0,0] fl)⟩
   refine dA 9 [0] [b1] [.i 0,.i 0,nl] ?_
   intro b3
   refine do_ 5 (dc 5 [] [] [] (Z5d n.decls x1) ?_)
   rintro _ _ ⟨rfl,rfl⟩
   refine dt (fuel:=2) 5 [6,7,8] [(2,.i num),(3,nInt ts),(12,.p b3 0),(53,Z2r (Z29 n.decls x1)),(54,.b (Z01 n.decls x1))] (do_ 10 (dS 10 0 [] [] b3 0 (Z2i (Z29 n.decls x1)) [.i 0,.i 0,nl] (Z2i (Z29 n.decls x1)) (dtk (fuel:=0) 1 [11] (.n 13 (.b (Z01 n.decls x1)) .r) (de ?_))))
   exact ⟨[(2,.i num),(3,nInt ts),(12,.p b3 0),(13,.b (Z01 n.decls x1))],[.obj b3 (Z2i (Z29 n.decls x1)),.obj b1 [Z2 n.decls,nSg3 (n.routines.map Z4)]],⟨b3,rfl,rfl⟩,(wk [0,0] fl)⟩
  rintro F h ⟨b2,rfl,rfl⟩
  refine aD 17 (dT (fuel:=13) 17 [0,1,2,3] [(2,.i num),(3,nInt ts),(12,.p b2 0),(56,.i ((Z29 n.decls x1).to_)),(58,.b (Z01 n.decls x1))] [0] [b2] (db (b:=Z01 n.decls x1) 58 (fun hb5=>?_) (fun hb5=>?_)))
  ·have hp9:Z01 n.decls x1=true:=(Iff.rfl).1 hb5
   refine dtk (fuel:=12) 13 [4] (.n 59 (nInt ts) (.k (.k (.d (.k (.k .z)))))) ?_
   obtain ⟨x2,hx2⟩:=Z8 (xs:=ts) (j:=1) om
   refine dx 5 (Z0 (es:=Z6 ts) (hv:=none) (j:=1) (sz:=1) (y:=.i x2) kr om (Za hx2) rfl) (dtK (fuel:=4) 11 [6,7,8,9,10,11,15] (.n 8 (.i ((Z29 n.decls x1).to_)) (.n 66 (.b (x2==((Z29 n.decls x1).frm))) .r)) [0] [b2] (db (b:=(x2==((Z29 n.decls x1).frm))) 66 (fun hb6=>?_) (fun hb6=>?_)))
   ·have hp10:x2=((Z29 n.decls x1).frm):=(beq_iff_eq).1 hb6
    refine dtk (fuel:=0) 4 [12,13,14,16] (.n 9 (.b (num==0)) (.d (.k .z))) (de ?_)
    have hF:=Z024 (n:=n) (num:=num) hc7 hc8 hx1 hx2
    exact at_ (r2 [] [.i ((Z29 n.decls x1).to_),.b (num==0)] ⟨(Z29 n.decls x1).to_,rfl,rfl,(sfp hF)⟩ (AVLe.tup (.cons (lr _) (.cons (lb (sfb hF (by simp [*];try omega))) .nil))))
   have hp11:¬(x2=((Z29 n.decls x1).frm)):=Zd beq_iff_eq hb6
   refine dtk (fuel:=0) 4 [12,13,14,16] (.n 9 (.b false) (.d (.k .z))) (de ?_)
   have hF:=Z024 (n:=n) (num:=num) hc7 hc8 hx1 hx2
   exact at_ (r2 [] [.i ((Z29 n.decls x1).to_),.b false] ⟨(Z29 n.decls x1).to_,rfl,rfl,(sfp hF)⟩ (AVLe.tup (.cons (lr _) (.cons (lb (sfb hF (by simp [*]))) .nil))))
  have hp12:¬(Z01 n.decls x1=true):=Zd Iff.rfl hb5
  refine dt (fuel:=0) 13 [4,5,6,7,8,9,10,11,12,13,14,15,16] [(8,.i ((Z29 n.decls x1).to_)),(9,.b false)] (de ?_)
  have hF:=Z05b (n:=n) (num:=num) hc7 hc8 hx1 (by assumption)
  exact at_ (r2 [] [.i ((Z29 n.decls x1).to_),.b false] ⟨(Z29 n.decls x1).to_,rfl,rfl,(sfnp hF)⟩ (AVLe.tup (.cons (lr _) (.cons (lb (sfn hF)) .nil))))
 refine ar (irk 2 (.n 70 (.b (op==6)) .r) (ie (ac (op==6) beq_iff_eq (fun hc9=>?_) (fun hc9=>?_))))
 ·refine ar (irK 3 (.n 74 (Z2 n.decls) (.n 75 (.i num) .r)) [0] [b1] (ic [] (Zce n.decls num) ?_))
  rintro _ _ ⟨rfl,rfl⟩
  refine irk 3 (.n 77 (.i (Z07 n.decls num)) (.n 78 (.agg [nInt (Z1 n.decls num)]) .r)) (iA [nl] ?_)
  intro b4
  refine irk 1 (.n 14 (.i (Z07 n.decls num)) .r) (iS 0 b4 0 [nInt (Z1 n.decls num)] [nl] [nInt (Z1 n.decls num)] (ie (ar (Z1i 9 [(79,.i (Z07 n.decls num)),(87,.b ((decide ((Z07 n.decls num)≥0))&&(decide (ts=(Z1 n.decls num)))))] [.obj b4 [nInt (Z1 n.decls num)],.obj b1 [Z2 n.decls,nSg3 (n.routines.map Z4)]] ?_ (fun hj5=>?_)))))
  ·refine ir 2 [(8,.i (Z07 n.decls num)),(9,.b ((decide ((Z07 n.decls num)≥0))&&(decide (ts=(Z1 n.decls num)))))] (ie ?_)
   have hF:=sf6 (n:=n) (num:=num) (ts:=ts) hc9
   exact at_ (r2 [] [.i (Z07 n.decls num),.b ((decide ((Z07 n.decls num)≥0))&&(decide (ts=(Z1 n.decls num))))] ⟨Z07 n.decls num,rfl,rfl,(sfp hF)⟩ (AVLe.tup (.cons (lr _) (.cons (lb (sfb hF (by simp [*];try omega))) .nil))))
  refine ir 4 [(3,nInt ts),(15,.p b4 0),(79,.i (Z07 n.decls num)),(82,.b (decide ((Z07 n.decls num)≥0)))] (ib (b:=(decide ((Z07 n.decls num)≥0))) 82 (fun hb7=>?_) (fun hb7=>?_))
  ·have hp13:(Z07 n.decls num)≥0:=(dq).1 hb7
   refine irK 3 (.n 83 (nInt ts) (.n 85 (nInt (Z1 n.decls num)) (.k (.d (.d (.k .z)))))) [0] [b4] (ic [] (Z18 ts (Z1 n.decls num)) ?_)
   rintro _ _ ⟨rfl,rfl⟩
   refine irk 1 (.n 87 (.b (decide (ts=(Z1 n.decls num)))) .r) ?_
   exact Zz (wk [0,0] (fr (fc (x:=.b (decide (ts=(Z1 n.decls num)))) (lb (by simp only [hb7];rfl)) fl))) hj5
  have hp14:¬((Z07 n.decls num)≥0):=Zd dq hb7
  refine irk 5 (.n 87 (.b false) (.d (.d (.d (.k .z))))) ?_
  exact Zz (wk [0,0] (fr (fc (x:=.b false) (lb (by simp only [hb7];rfl)) fl))) hj5
 refine aq (ar (irk 2 (.n 88 (.b (op==9)) .r) (ie (Z92 (fun F h=>F=[(1,.i op),(2,.i num),(3,nInt ts),(4,.p b1 0),(88,.b ((op==9)||(op==10)))]∧h=[.obj b1 [Z2 n.decls,nSg3 (n.routines.map Z4)]]) ?_ ?_))))
 ·refine ac (op==9) beq_iff_eq (fun hc10=>?_) (fun hc10=>?_)
  ·refine ak ?_
   exact ⟨[(1,.i op),(2,.i num),(3,nInt ts),(4,.p b1 0),(88,.b ((op==9)||(op==10)))],[.obj b1 [Z2 n.decls,nSg3 (n.routines.map Z4)]],⟨rfl,rfl⟩,(wk [0] (fr (fr (fr (fr (fc (x:=.b (op==9)) (lb (by first|rfl|(rw [if_pos hc10])|(rw [if_neg hc10])|(simp [hc10];done)|(rw [Bool.eq_iff_iff];simp [hc10];done)|omega)) fl))))))⟩
  refine az (ir 2 [(1,.i op),(2,.i num),(3,nInt ts),(4,.p b1 0),(88,.b (op==10))] (ie ?_))
  exact ⟨[(1,.i op),(2,.i num),(3,nInt ts),(4,.p b1 0),(88,.b ((op==9)||(op==10)))],[.obj b1 [Z2 n.decls,nSg3 (n.routines.map Z4)]],⟨rfl,rfl⟩,(wk [0] (fr (fr (fr (fr (fc (x:=.b (op==10)) (lb (by first|rfl|(rw [if_pos hc10])|(rw [if_neg hc10])|(simp [hc10];done)|(rw [Bool.eq_iff_iff];simp [hc10];done)|omega)) fl))))))⟩
 rintro F h ⟨rfl,rfl⟩
 refine ac ((op==9)||(op==10)) (p:=(op=9)∨(op=10)) (Zf beq_iff_eq beq_iff_eq) (fun hc11=>?_) (fun hc11=>?_)
 ·refine aq (ar (Z27 [(1,.i op),(2,.i num),(3,nInt ts),(4,.p b1 0),(99,.b ((decide (num<0))||(decide (num≥(((n.routines.map Z4).length:Nat):Int)))))] [.obj b1 [Z2 n.decls,nSg3 (n.routines.map Z4)]] ?_ ?_))
  ·refine ir 3 [(1,.i op),(2,.i num),(3,nInt ts),(4,.p b1 0),(93,.b (decide (num<0)))] (ib (b:=(decide (num<0))) 93 (fun hb8=>?_) (fun hb8=>?_))
   ·have hp15:num<0:=(dq).1 hb8
    refine irk 6 (.n 99 (.b true) (.d (.k (.k (.k (.k .z)))))) (ie ?_)
    exact wk [0] (fr (fr (fr (fr (fc (x:=.b true) (lb (by simp only [hb8];rfl)) fl)))))
   have hp16:¬(num<0):=Zd dq hb8
   refine irK 3 (.n 94 (.i num) (.n 96 (nSg3 (n.routines.map Z4)) (.k (.k (.k (.k (.k .z))))))) [0] [b1] (io (.i (((n.routines.map Z4).length:Nat):Int)) (.i (((Z5j (n.routines.map Z4)).length:Nat):Int)) (li (by rw [Z67])) (irk 2 (.n 99 (.b (decide (num≥(((n.routines.map Z4).length:Nat):Int)))) .r) (ie ?_)))
   exact wk [0] (fr (fr (fr (fr (fc (x:=.b (decide (num≥(((n.routines.map Z4).length:Nat):Int)))) (lb (by simp only [hb8];rfl)) fl)))))
  refine ac ((decide (num<0))||(decide (num≥(((n.routines.map Z4).length:Nat):Int)))) (p:=(num<0)∨(num≥(((n.routines.map Z4).length:Nat):Int))) (Zf dq dq) (fun hc12=>?_) (fun hc12=>?_)
  ·refine ar (ir 2 [(8,.i (-1)),(9,.b false)] (ie ?_))
   have hF:=sf9n (n:=n) (ts:=ts) hc11 hc12
   exact at_ (r2 [] [.i (-1),.b false] ⟨(-1),rfl,rfl,(sfnp hF)⟩ (AVLe.tup (.cons (lr _) (.cons (lb (sfn hF)) .nil))))
  refine ak (aD 14 (dT (fuel:=11) 14 [0,1,2] [(1,.i op),(2,.i num),(3,nInt ts),(4,.p b1 0),(101,nSg3 (n.routines.map Z4)),(102,.i num)] [0] [b1] ?_))
  obtain ⟨x3,hx3⟩:=Z8 (xs:=(n.routines.map Z4)) (j:=num.toNat) om
  obtain ⟨r,hr,hrx⟩:=Zft hx3
  have hrp:=hn.params_at hr
  have hpx:x3.pms=r.params:=by rw [hrx];rfl
  have hpl:x3.pms.length≤3:=by rw [hpx];exact hrp
  refine dx 3 (Z0 (es:=Z5j (n.routines.map Z4)) (hv:=none) (j:=num) (sz:=3) (y:=aSg3 x3) kr om (Z77 hx3) rfl) (dtK (fuel:=5) 10 [4,5,6,7,8] (.n 105 (nInt x3.pms) (.n 107 (nSg3 (n.routines.map Z4)) (.n 108 (.i num) .r))) [0] [b1] (dx 9 (Z0 (es:=Z5j (n.routines.map Z4)) (hv:=none) (j:=num) (sz:=3) (y:=aSg3 x3) kr om (Z77 hx3) rfl) (dtk (fuel:=0) 4 [10,11,12,13] (.n 10 (nInt x3.pms) (.n 11 (.i x3.res) .r)) (de (aq (ar (irk 2 (.n 113 (.b (op==9)) .r) (ie (ac (op==9) beq_iff_eq (fun hc13=>?_) (fun hc13=>?_))))))))))
  ·refine ar (ir 3 [(114,.i x3.res),(115,nInt ts),(116,nInt x3.pms)] (ic [] (Z18 ts x3.pms) ?_))
   rintro _ _ ⟨rfl,rfl⟩
   refine ir 2 [(8,.i x3.res),(9,.b (decide (ts=x3.pms)))] (ie ?_)
   have hF:=sf9 (ts:=ts) hc13 hc12 hx3
   exact at_ (r2 [] [.i x3.res,.b (decide (ts=x3.pms))] ⟨x3.res,rfl,rfl,(sfp hF)⟩ (AVLe.tup (.cons (lr _) (.cons (lb (sfb hF (by simp [*];try omega))) .nil))))
  refine ak (ar (irk 1 (.n 118 (nInt x3.pms) .r) (io (.i x3.pms.length) (.i (((Z6 x3.pms).length:Nat):Int)) (li (by rw [Z5])) (ia (((x3.pms.length:Int)-1)) (((x3.pms.length:Int))-(1)) (irk 1 (.n 16 (.i ((x3.pms.length:Int)-1)) .r) (ie (aq (ar (irk 2 (.n 122 (.b (decide (((x3.pms.length:Int)-1)<0))) .r) (ie (ac (decide (((x3.pms.length:Int)-1)<0)) dq (fun hc14=>?_) (fun hc14=>?_))))))))))))
  ·refine ar (ir 2 [(8,.i (-1)),(9,.b false)] (ie ?_))
   have hF:=Z05a (ts:=ts) (hc11.resolve_left hc13) hc12 hx3 hc14
   exact at_ (r2 [] [.i (-1),.b false] ⟨(-1),rfl,rfl,(sfnp hF)⟩ (AVLe.tup (.cons (lr _) (.cons (lb (sfn hF)) .nil))))
  refine ak (aD 9 (dtK (fuel:=5) 9 [0,1,2,3] (.n 124 (Z2 n.decls) (.n 125 (nInt x3.pms) (.n 126 (.i ((x3.pms.length:Int)-1)) .r))) [0] [b1] ?_))
  obtain ⟨x4,hx4⟩:=Z8 (xs:=x3.pms) (j:=((x3.pms.length:Int)-1).toNat) om
  refine dx 4 (Z0 (es:=Z6 x3.pms) (hv:=none) (j:=((x3.pms.length:Int)-1)) (sz:=1) (y:=.i x4) kr om (Za hx4) rfl) (dtk (fuel:=2) 4 [5,6] (.n 128 (.i x4) (.n 129 (.i x3.res) .r)) (do_ 7 (dc 7 [] [] [] (Zgr n.decls x4 x3.res) ?_)))
  rintro _ _ ⟨rfl,rfl⟩
  refine dtk (fuel:=0) 1 [8] (.n 17 (.i (Z2d n.decls x4 x3.res)) .r) (de (ar (Z1i 10 [(131,.i (Z2d n.decls x4 x3.res)),(140,.b ((decide ((Z2d n.decls x4 x3.res)≥0))&&(decide (ts=(x3.pms.take (((x3.pms.length:Int)-1).toNat))))))] [.obj b1 [Z2 n.decls,nSg3 (n.routines.map Z4)]] ?_ (fun hj6=>?_))))
  ·refine ir 2 [(8,.i (Z2d n.decls x4 x3.res)),(9,.b ((decide ((Z2d n.decls x4 x3.res)≥0))&&(decide (ts=(x3.pms.take (((x3.pms.length:Int)-1).toNat))))))] (ie ?_)
   have hF:=sf10 (ts:=ts) (hc11.resolve_left hc13) hc12 hx3 hc14 hx4
   exact at_ (r2 [] [.i (Z2d n.decls x4 x3.res),.b ((decide ((Z2d n.decls x4 x3.res)≥0))&&(decide (ts=(x3.pms.take (((x3.pms.length:Int)-1).toNat)))))] ⟨Z2d n.decls x4 x3.res,rfl,rfl,(sfp hF)⟩ (AVLe.tup (.cons (lr _) (.cons (lb (sfb hF (by rw [Bool.eq_iff_iff];simp))) .nil))))
  refine ir 4 [(3,nInt ts),(10,nInt x3.pms),(16,.i ((x3.pms.length:Int)-1)),(131,.i (Z2d n.decls x4 x3.res)),(134,.b (decide ((Z2d n.decls x4 x3.res)≥0)))] (ib (b:=(decide ((Z2d n.decls x4 x3.res)≥0))) 134 (fun hb9=>?_) (fun hb9=>?_))
  ·have hp17:(Z2d n.decls x4 x3.res)≥0:=(dq).1 hb9
   refine irk 3 (.n 135 (nInt ts) (.n 136 (nInt x3.pms) (.n 137 (.i ((x3.pms.length:Int)-1)) (.k (.d (.d (.d (.k .z)))))))) (is_ (Z4s (es:=Z6 x3.pms) (hv:=none) (l:=0) (m:=((x3.pms.length:Int)-1)) (sz:=1) (es':=Z6 (x3.pms.take (((x3.pms.length:Int)-1).toNat))) kr om (by simp<;>omega) (by simp<;>omega) (Z0x _) (by first|(simp only [Int.toNat_natCast,List.take_length,Z3x,Z4n];done)|(simp only [Int.toNat_natCast,List.take_length,Z3x,Z4n];rfl)|(simp [Z3x,Z4n];done))) (ic [] (Z18 ts (x3.pms.take (((x3.pms.length:Int)-1).toNat))) ?_))
   rintro _ _ ⟨rfl,rfl⟩
   refine irk 1 (.n 140 (.b (decide (ts=(x3.pms.take (((x3.pms.length:Int)-1).toNat))))) .r) ?_
   exact Zz (wk [0] (fr (fc (x:=.b (decide (ts=(x3.pms.take (((x3.pms.length:Int)-1).toNat))))) (lb (by simp only [hb9];rfl)) fl))) hj6
  have hp18:¬((Z2d n.decls x4 x3.res)≥0):=Zd dq hb9
  refine irk 6 (.n 140 (.b false) (.d (.d (.d (.d (.k .z)))))) ?_
  exact Zz (wk [0] (fr (fc (x:=.b false) (lb (by simp only [hb9];rfl)) fl))) hj6
 refine ar (ir 2 [(8,.i (-1)),(9,.b false)] (ie ?_))
 have hF:=sfd (n:=n) (num:=num) (ts:=ts) hc1 hc5 hc6 hc7 hc9 hc11
 exact at_ (r2 [] [.i (-1),.b false] ⟨(-1),rfl,rfl,(sfnp hF)⟩ (AVLe.tup (.cons (lr _) (.cons (lb (sfn hF)) .nil))))
end Go.Abs
end
section
namespace Go.Abs
open Go.Proofs
theorem Z4i (n:Normal) (us:List Int) (ks:List Block) (ms:List (List Int)) (hn:NOk n:=by exact ob) (hnn:∀t∈us,0≤t) (hk:0<ks.length:=by exact ob) (hl:ks.length=ms.length:=by exact ob) (hb:us.length+3+4*bsz ks≤1000000000:=by exact ob) (hr:brng ks:=by exact ob) (hm3:∀m∈ms,m.length≤3) (hmn:∀m∈ms,∀f∈m,0≤f) (ih:∀(b:Block) (us:List Int),(b.sz≤bsz ks)→(us.length+4*b.sz≤1000000000)→(b.rng)→(∀t∈us,0≤t)→Z3 Tryz.prog 113 [.agg [Z2 n.decls,nSg3 (n.routines.map Z4)],nInt us,Zj b] [] (fun r h=>r=.i (Zg n us b)∧h=[])):Z3 Tryz.prog 196 [.agg [Z2 n.decls,nSg3 (n.routines.map Z4)],nInt us,Z03 ks,Z30 ms] [] (fun r h=>r=.tup [.i (Z1f n us ks ms true 0),.b (decide (0≤Z1f n us ks ms true 0))]∧h=[]):=by
 have hkl:=Ztl ks
 refine enter Tryz.func196 kr (n:=45) kr kr (ar (iA [Z2 n.decls,nSg3 (n.routines.map Z4)] ?_))
 intro b1
 refine ir 2 [(1,nInt us),(2,Z03 ks),(3,Z30 ms),(4,.p b1 0)] (ie (ar (irk 1 (.n 10 (.i (-1)) .r) (ie (aq (ar (irk 1 (.n 14 (Z03 ks) .r) (io (.i ks.length) (.i (((Z0p ks).length:Nat):Int)) (li (by rw [Z0r])) (irk 1 (.n 16 (.i 0) .r) (ie (ab 0 (al (fun m F h=>∃(k:Nat) (t:Int),(k≤ks.length)∧(0<k→0≤t)∧(Z1f n us (ks.drop k) (ms.drop k) (decide (k=0)) t=Z1f n us ks ms true 0)∧F=[(1,nInt us),(3,Z30 ms),(4,.p b1 0),(10,.i t),(14,Z03 ks),(15,.i ks.length),(16,.i k)]∧h=[.obj b1 [Z2 n.decls,nSg3 (n.routines.map Z4)]]∧m=ks.length-k) _ _ _ ⟨0,(-1),ob,ob,(Zv3 hk (-1)),rfl,rfl,rfl⟩ (wk [0] (fr (fr (fr (fr (fr (fr (fc (x:=.i 0) li fl)))))))) ?_))))))))))))
 rintro m F h ⟨k,t,c0_0,c0_1,c0_2,rfl,rfl,rfl⟩
 refine ar (irk 1 (.n 17 (.b (decide ((k:Int)<(ks.length:Int)))) .r) (ie (aq (ac (decide ((k:Int)<(ks.length:Int))) dq (fun hc1=>?_) (fun hc1=>?_)))))
 ·refine ak (aq (ab 1 (ar (irk 1 (.n 18 (.i k) .r) ?_))))
  obtain ⟨x1,hx1⟩:=Z8 (xs:=ks) (j:=k) om
  have hbs:=Ztm hx1
  have hbr:=Zfe hr hx1
  refine is_ (Z0 (es:=Z0p ks) (hv:=none) (j:=(k:Int)) (sz:=2) (y:=Zj x1) kr om (Z2a hx1) rfl) (irk 1 (.n 20 (Zj x1) .r) (iA [nl,.i 0] ?_))
  intro b2
  refine irk 1 (.n 11 (.i k) .r) (iS 0 b2 0 (Z0l x1) [nl,.i 0] (Z0l x1) (ie (aD 11 (dtK (fuel:=7) 11 [0,1,2,3] (.n 21 (.agg [Z2 n.decls,nSg3 (n.routines.map Z4)]) (.n 22 (nInt us) (.n 23 (Z30 ms) (.n 24 (.i k) .r)))) [1] [b1] ?_))))
  obtain ⟨x2,hx2⟩:=Z8 (xs:=ms) (j:=k) om
  have hxl:=hm3 x2 (List.mem_of_getElem? hx2)
  have hxn:=hmn x2 (List.mem_of_getElem? hx2)
  refine dx 4 (Z0 (es:=Z33 ms) (hv:=none) (j:=(k:Int)) (sz:=1) (y:=nInt x2) kr om (Z4o hx2) rfl) (dtK (fuel:=4) 6 [5,8] (.n 26 (nInt x2) (.n 29 (Zj x1) .r)) [0] [b2] (do_ 6 (dL 6 [0,1] [b2,b1] (Z33 [us,x2]) 2 1 ?_)))
  intro v1
  refine dtk (fuel:=3) 3 [] (.n 27 (Z30 [us,x2]) (.p .r)) (do_ 7 (dc 7 [] [0,1] [b2,b1] (Z7c [us,x2] (hf:=(by simp only [Zda,List.length_append];omega))) ?_))
  rintro _ _ ⟨v2,rfl,rfl⟩
  refine dtk (fuel:=2) 2 [] (.n 28 (nInt ([us,x2].flatten)) (.p .r)) (do_ 9 (dc 9 [] [] [] (ih x1 ([us,x2].flatten) ob (by simp only [Zda,List.length_append];omega) ob (by rw [Zda];exact Zmh hnn hxn)) ?_))
  rintro _ _ ⟨rfl,rfl⟩
  refine dtk (fuel:=0) 1 [10] (.n 13 (.i (Zg n ([us,x2].flatten) x1)) .r) (de (aq (ar (Z27 [(1,nInt us),(3,Z30 ms),(4,.p b1 0),(13,.i (Zg n ([us,x2].flatten) x1)),(14,Z03 ks),(15,.i ks.length),(16,.i k),(41,.b ((decide ((Zg n ([us,x2].flatten) x1)<0))||((decide ((k:Int)>0))&&((Zg n ([us,x2].flatten) x1) != t))))] [.tail v2 1,.tail v1 1,.obj b2 (Z0l x1),.obj b1 [Z2 n.decls,nSg3 (n.routines.map Z4)]] ?_ ?_))))
  ·refine ir 3 [(1,nInt us),(3,Z30 ms),(4,.p b1 0),(10,.i t),(11,.i k),(13,.i (Zg n ([us,x2].flatten) x1)),(14,Z03 ks),(15,.i ks.length),(16,.i k),(33,.b (decide ((Zg n ([us,x2].flatten) x1)<0)))] (ib (b:=(decide ((Zg n ([us,x2].flatten) x1)<0))) 33 (fun hb1=>?_) (fun hb1=>?_))
   ·have hp1:(Zg n ([us,x2].flatten) x1)<0:=(dq).1 hb1
    refine irk 8 (.n 41 (.b true) (.d (.k (.k (.k (.d (.d (.k (.k (.k (.k .z))))))))))) (ie ?_)
    exact wk [0,0,0,0] (fr (fr (fr (fr (fr (fr (fr (fc (x:=.b true) (lb (by simp only [hb1];rfl)) fl))))))))
   have hp2:¬((Zg n ([us,x2].flatten) x1)<0):=Zd dq hb1
   refine irk 3 (.n 36 (.b (decide ((k:Int)>0))) (.k (.k (.k (.k (.k (.d (.k (.k (.k (.k .z))))))))))) (ib (b:=(decide ((k:Int)>0))) 36 (fun hb2=>?_) (fun hb2=>?_))
   ·have hp3:(k:Int)>0:=(dq).1 hb2
    refine irk 5 (.n 41 (.b ((Zg n ([us,x2].flatten) x1) != t)) (.k (.d .r))) (ie ?_)
    exact wk [0,0,0,0] (fr (fr (fr (fr (fr (fr (fr (fc (x:=.b ((Zg n ([us,x2].flatten) x1) != t)) (lb (by simp only [hb1,hb2];rfl)) fl))))))))
   have hp4:¬((k:Int)>0):=Zd dq hb2
   refine irk 5 (.n 41 (.b false) (.k (.d .r))) (ie ?_)
   exact wk [0,0,0,0] (fr (fr (fr (fr (fr (fr (fr (fc (x:=.b false) (lb (by simp only [hb1,hb2];rfl)) fl))))))))
  refine ac ((decide ((Zg n ([us,x2].flatten) x1)<0))||((decide ((k:Int)>0))&&((Zg n ([us,x2].flatten) x1) != t))) (p:=((Zg n ([us,x2].flatten) x1)<0)∨(((k:Int)>0)∧((Zg n ([us,x2].flatten) x1)≠t))) (Zf dq (Zk dq bne_iff_ne)) (fun hc2=>?_) (fun hc2=>?_)
  ·refine ar (ir 2 [(8,.i (-1)),(9,.b false)] (ie ?_))
   have hK:Z1f n us ks ms true 0=-1:=by rw [←c0_2];rw [Zda] at hc2;exact Zpt hx1 hx2 hc2
   exact at_ (r2 [] [.i (-1),.b false] ⟨rfl,rfl⟩ (AVLe.tup (.cons (li (by rw [hK])) (.cons (lb (by rw [hK];rfl)) .nil))))
  refine ak (az (ir 2 [(1,nInt us),(3,Z30 ms),(4,.p b1 0),(10,.i (Zg n ([us,x2].flatten) x1)),(14,Z03 ks),(15,.i ks.length),(16,.i k)] (ie (az (ia (((k+1:Nat):Int)) (((k:Int))+(1)) (irk 1 (.n 16 (.i (k+1:Nat)) (.p (.k (.k (.k (.k (.k (.k .z)))))))) (ie ?_)))))))
  exact ⟨_,_,_,ob,⟨k+1,Zg n ([us,x2].flatten) x1,ob,(by intro _;omega),(by rw [Zda] at hc2 ⊢;rw [←c0_2];exact (Zm7 hx1 hx2 hc2).symm),rfl,rfl,rfl⟩,(wk [3] (fr (fr (fr (fr (fr (fr (fc (x:=.i (k+1:Nat)) li fl))))))))⟩
 refine ax 0 (ar (ir 3 [(8,.i t),(9,.b true)] (ie ?_)))
 have hK:Z1f n us ks ms true 0=t:=by rw [←c0_2];exact Zpu om
 exact at_ (r2 [] [.i t,.b true] ⟨rfl,rfl⟩ (AVLe.tup (.cons (li (by rw [hK])) (.cons (lb (by rw [hK];exact (decide_eq_true (c0_1 om)).symm)) .nil))))
theorem Z4j (n:Normal) (us:List Int) (s:Step) (hn:NOk n:=by exact ob) (hty:NTy n:=by exact ob) (hnn:∀t∈us,0≤t) (hb:us.length+4*s.sz≤1000000000:=by exact ob) (hr:s.rng:=by exact ob) (ih:∀(b:Block) (us:List Int),(b.sz<s.sz)→(us.length+4*b.sz≤1000000000)→(b.rng)→(∀t∈us,0≤t)→Z3 Tryz.prog 113 [.agg [Z2 n.decls,nSg3 (n.routines.map Z4)],nInt us,Zj b] [] (fun r h=>r=.i (Zg n us b)∧h=[])):Z3 Tryz.prog 160 [.agg [Z2 n.decls,nSg3 (n.routines.map Z4)],nInt us,Z0o s] [] (fun r h=>∃(t:Int),r=.tup [.i t,.b (decide (0≤Z9 n us s))]∧h=[]∧(¬Z0q s.op=true→0≤Z9 n us s→t=Z9 n us s)):=by
 have hdk:=hn.decls
 have hkz:=Z7a s
 have haz:=Z9j s
 have hse:=s.sz_eq
 rw [s.rng_eq] at hr
 obtain ⟨hnum,hkr⟩:=hr
 refine enter Tryz.func160 kr (n:=233) kr kr (ar (iA [Z2 n.decls,nSg3 (n.routines.map Z4)] ?_))
 intro b1
 refine iA (Z0g s) ?_
 intro b2
 refine ir 2 [(1,nInt us),(3,.p b1 0),(5,.p b2 0)] (ie (ar (irK 2 (.n 16 (nInt s.args) .r) [0] [b2] (io (.i s.args.length) (.i (((Z6 s.args).length:Nat):Int)) (li (by rw [Z5])) (iM 0 s.args.length ?_)))))
 intro v1
 refine irk 1 (.n 8 (oInt [] v1) .r) (ie (aq (ar (irK 2 (.n 20 (nInt s.args) .r) [1] [b2] (io (.i s.args.length) (.i (((Z6 s.args).length:Nat):Int)) (li (by rw [Z5])) (irk 1 (.n 22 (.i 0) .r) (ie (ab 0 (al (fun m F h=>∃(k:Nat) (ts:List Int) (v:Value),(k≤s.args.length)∧(ts.length=k)∧(Z23 us (s.args.take k)=some ts)∧F=[(1,nInt us),(3,.p b1 0),(5,.p b2 0),(8,oInt ts v),(20,nInt s.args),(21,.i s.args.length),(22,.i k)]∧h=[.obj b2 (Z0g s),.obj b1 [Z2 n.decls,nSg3 (n.routines.map Z4)],.tail v 1]∧m=s.args.length-k) _ _ _ ⟨0,[],v1,ob,ob,ob,rfl,rfl,rfl⟩ (wk [1,1,0] (fr (fr (fr (fr (fr (fr (fc (x:=.i 0) li fl)))))))) ?_)))))))))
 rintro m F h ⟨k,ts,v,c0_0,c0_1,c0_2,rfl,rfl,rfl⟩
 refine ar (irk 1 (.n 23 (.b (decide ((k:Int)<(s.args.length:Int)))) .r) (ie (aq (ac (decide ((k:Int)<(s.args.length:Int))) dq (fun hc1=>?_) (fun hc1=>?_)))))
 ·refine ak (aq (ab 1 (ar ?_)))
  obtain ⟨x1,hx1⟩:=Z8 (xs:=s.args) (j:=k) om
  refine is_ (Z0 (es:=Z6 s.args) (hv:=none) (j:=(k:Int)) (sz:=1) (y:=.i x1) kr om (Za hx1) rfl) (irk 2 (.n 10 (.i x1) .r) (ie (aq (ar (Z27 [(1,nInt us),(3,.p b1 0),(5,.p b2 0),(8,oInt ts v),(10,.i x1),(20,nInt s.args),(21,.i s.args.length),(22,.i k),(33,.b ((decide (x1<0))||(decide (x1≥(us.length:Int)))))] [.obj b2 (Z0g s),.obj b1 [Z2 n.decls,nSg3 (n.routines.map Z4)],.tail v 1] ?_ ?_)))))
  ·refine ir 3 [(1,nInt us),(3,.p b1 0),(5,.p b2 0),(8,oInt ts v),(10,.i x1),(20,nInt s.args),(21,.i s.args.length),(22,.i k),(28,.b (decide (x1<0)))] (ib (b:=(decide (x1<0))) 28 (fun hb1=>?_) (fun hb1=>?_))
   ·have hp1:x1<0:=(dq).1 hb1
    refine irk 5 (.n 33 (.b true) (.d (.k (.k (.k (.k (.k (.k (.k (.k .z)))))))))) (ie ?_)
    exact wk [0,0,0] (fr (fr (fr (fr (fr (fr (fr (fr (fc (x:=.b true) (lb (by simp only [hb1];rfl)) fl)))))))))
   have hp2:¬(x1<0):=Zd dq hb1
   refine irk 2 (.n 29 (.i x1) (.n 30 (nInt us) (.k (.k (.k (.k (.k (.k (.k (.k (.k .z))))))))))) (io (.i us.length) (.i (((Z6 us).length:Nat):Int)) (li (by rw [Z5])) (irk 2 (.n 33 (.b (decide (x1≥(us.length:Int)))) .r) (ie ?_)))
   exact wk [0,0,0] (fr (fr (fr (fr (fr (fr (fr (fr (fc (x:=.b (decide (x1≥(us.length:Int)))) (lb (by simp only [hb1];rfl)) fl)))))))))
  refine ac ((decide (x1<0))||(decide (x1≥(us.length:Int)))) (p:=(x1<0)∨(x1≥(us.length:Int))) (Zf dq dq) (fun hc2=>?_) (fun hc2=>?_)
  ·refine ar (ir 2 [(6,.i (-1)),(7,.b false)] (ie ?_))
   have hS:Z9 n us s=-1:=Zi9 (Zih hx1 (Z5n om))
   exact at_ (r2 [] [.i (-1),.b false] ⟨(-1),rfl,rfl,(by intro _ h;rw [hS] at h;omega)⟩ (AVLe.tup (.cons (lr _) (.cons (lb (by rw [hS];rfl)) .nil))))
  refine ak (az (ir 3 [(1,nInt us),(3,.p b1 0),(5,.p b2 0),(20,nInt s.args),(21,.i s.args.length),(22,.i k),(34,oInt ts v),(35,nInt us),(36,.i x1)] ?_))
  obtain ⟨x2,hx2⟩:=Z8 (xs:=us) (j:=x1.toNat) om
  refine is_ (Z0 (es:=Z6 us) (hv:=none) (j:=x1) (sz:=1) (y:=.i x2) kr om (Za hx2) rfl) (irk 1 (.n 38 (.i x2) .r) (iL (Z6 [x2]) 1 1 ?_))
  intro v2
  refine irk 0 (.n 39 (nInt [x2]) (.p .r)) (ip 3 (Z6 (ts++[x2])) (Z6 ts) (Z6 [x2]) v none 1 (Z0x _) (Z0x _) (Z3n _) (by simp<;>omega) (by simp [Z24,Z6]) ?_)
  intro v3
  refine irk 1 (.n 8 (oInt (ts++[x2]) v3) .r) (ie (az (ia (((k+1:Nat):Int)) (((k:Int))+(1)) (irk 1 (.n 22 (.i (k+1:Nat)) (.p (.k (.p (.d (.d (.p (.k (.k (.k (.k (.k .z)))))))))))) (ie ?_)))))
  exact ⟨_,_,_,ob,⟨k+1,(ts++[x2]),v3,ob,ob,(Znt c0_2 hx1 (by rw [Z6m om hx2])),rfl,rfl,rfl⟩,(wk [2,2,0] (fr (fr (fr (fr (fr (fr (fc (x:=.i (k+1:Nat)) li fl))))))))⟩
 refine ax 0 (aq (ar (Z27 [(1,nInt us),(3,.p b1 0),(5,.p b2 0),(8,oInt ts v),(70,.b ((s.into != 0)&&((s.op != 6)||((decide (s.into<1))||((decide (s.into>(us.length:Int)))||((gI us (s.into-1))==0))))))] [.obj b2 (Z0g s),.obj b1 [Z2 n.decls,nSg3 (n.routines.map Z4)],.tail v 1] ?_ ?_)))
 ·refine iR 4 [(1,nInt us),(3,.p b1 0),(5,.p b2 0),(8,oInt ts v),(45,.b (s.into != 0))] [0] [b2] (ib (b:=(s.into != 0)) 45 (fun hb2=>?_) (fun hb2=>?_))
  ·have hp3:s.into≠0:=(bne_iff_ne).1 hb2
   refine irK 4 (.n 49 (.b (s.op != 6)) (.k (.k (.k (.k (.k .z)))))) [0] [b2] (ib (b:=(s.op != 6)) 49 (fun hb3=>?_) (fun hb3=>?_))
   ·have hp4:s.op≠6:=(bne_iff_ne).1 hb3
    refine irk 21 (.n 70 (.b true) (.k (.d .r))) (ie ?_)
    exact wk [0,0,0] (fr (fr (fr (fr (fc (x:=.b true) (lb (by simp only [hb2,hb3];rfl)) fl)))))
   have hp5:¬(s.op≠6):=Zd bne_iff_ne hb3
   refine irK 5 (.n 54 (.b (decide (s.into<1))) (.d (.d .r))) [0] [b2] (ib (b:=(decide (s.into<1))) 54 (fun hb4=>?_) (fun hb4=>?_))
   ·have hp6:s.into<1:=(dq).1 hb4
    refine irk 16 (.n 70 (.b true) (.k (.d .r))) (ie ?_)
    exact wk [0,0,0] (fr (fr (fr (fr (fc (x:=.b true) (lb (by simp only [hb2,hb3,hb4];rfl)) fl)))))
   have hp7:¬(s.into<1):=Zd dq hb4
   refine irK 3 (.n 56 (.i s.into) (.n 57 (nInt us) (.k (.d .r)))) [0] [b2] (io (.i us.length) (.i (((Z6 us).length:Nat):Int)) (li (by rw [Z5])) (irk 3 (.n 61 (.b (decide (s.into>(us.length:Int)))) .r) (ib (b:=(decide (s.into>(us.length:Int)))) 61 (fun hb5=>?_) (fun hb5=>?_))))
   ·have hp8:s.into>(us.length:Int):=(dq).1 hb5
    refine irk 9 (.n 70 (.b true) (.k (.d .r))) (ie ?_)
    exact wk [0,0,0] (fr (fr (fr (fr (fc (x:=.b true) (lb (by simp only [hb2,hb3,hb4,hb5];rfl)) fl)))))
   have hp9:¬(s.into>(us.length:Int)):=Zd dq hb5
   refine irK 3 (.n 62 (nInt us) (.n 64 (.i s.into) (.k (.d .r)))) [0] [b2] (ia ((s.into-1)) ((s.into)-(1)) (is_ (Z0 (es:=Z6 us) (hv:=none) (j:=(s.into-1)) (sz:=1) (y:=.i (gI us (s.into-1))) kr om (Za (Zzx om)) rfl) (irk 4 (.n 70 (.b ((gI us (s.into-1))==0)) .r) (ie ?_))))
   exact wk [0,0,0] (fr (fr (fr (fr (fc (x:=.b ((gI us (s.into-1))==0)) (lb (by simp only [hb2,hb3,hb4,hb5];rfl)) fl)))))
  have hp10:¬(s.into≠0):=Zd bne_iff_ne hb2
  refine irk 25 (.n 70 (.b false) (.d (.k (.k (.k (.k .z)))))) (ie ?_)
  exact wk [0,0,0] (fr (fr (fr (fr (fc (x:=.b false) (lb (by simp only [hb2];rfl)) fl)))))
 refine ac ((s.into != 0)&&((s.op != 6)||((decide (s.into<1))||((decide (s.into>(us.length:Int)))||((gI us (s.into-1))==0))))) (p:=(s.into≠0)∧((s.op≠6)∨((s.into<1)∨((s.into>(us.length:Int))∨((gI us (s.into-1))=0))))) (Zk bne_iff_ne (Zf bne_iff_ne (Zf dq (Zf dq beq_iff_eq)))) (fun hc3=>?_) (fun hc3=>?_)
 ·refine ar (ir 2 [(6,.i (-1)),(7,.b false)] (ie ?_))
  have hS:Z9 n us s=-1:=Zl1 (Zch.1 hc3)
  exact at_ (r2 [] [.i (-1),.b false] ⟨(-1),rfl,rfl,(by intro _ h;rw [hS] at h;omega)⟩ (AVLe.tup (.cons (lr _) (.cons (lb (by rw [hS];rfl)) .nil))))
 refine ak (aq (ab 2 (ar (iR 2 [(1,nInt us),(3,.p b1 0),(5,.p b2 0),(8,oInt ts v),(73,.i s.op)] [0] [b2] (ic [] (Z4d s.op) ?_)))))
 rintro _ _ ⟨rfl,rfl⟩
 refine irk 1 (.n 71 (.b (Z0q s.op)) .r) (ie (ac (Z0q s.op) Iff.rfl (fun hc4=>?_) (fun hc4=>?_)))
 ·refine ar (irk 1 (.n 75 (oInt ts v) .r) (io (.i ts.length) (.i (((Z6 ts).length:Nat):Int)) (li (by rw [Z5])) (Z1i 9 [(3,.p b1 0),(5,.p b2 0),(8,oInt ts v),(83,.b (((ts.length:Int)==1)&&((gI ts 0) != 0)))] [.obj b2 (Z0g s),.obj b1 [Z2 n.decls,nSg3 (n.routines.map Z4)],.tail v 1] ?_ (fun hj1=>?_))))
  ·refine Z1i 14 [(3,.p b1 0),(5,.p b2 0),(8,oInt ts v),(88,.b ((((ts.length:Int)==1)&&((gI ts 0) != 0))&&(s.num==0)))] [.obj b2 (Z0g s),.obj b1 [Z2 n.decls,nSg3 (n.routines.map Z4)],.tail v 1] ?_ (fun hj2=>?_)
   ·refine Z1i 20 [(3,.p b1 0),(5,.p b2 0),(8,oInt ts v),(94,.b (((((ts.length:Int)==1)&&((gI ts 0) != 0))&&(s.num==0))&&((s.kids.length:Int)==0)))] [.obj b2 (Z0g s),.obj b1 [Z2 n.decls,nSg3 (n.routines.map Z4)],.tail v 1] ?_ (fun hj3=>?_)
    ·refine ir 1 [(3,.p b1 0),(5,.p b2 0),(8,oInt ts v),(11,.b (((((ts.length:Int)==1)&&((gI ts 0) != 0))&&(s.num==0))&&((s.kids.length:Int)==0)))] (ie (aq (ar (Z27 [(3,.p b1 0),(8,oInt ts v),(11,.b (((((ts.length:Int)==1)&&((gI ts 0) != 0))&&(s.num==0))&&((s.kids.length:Int)==0))),(105,.b ((((((ts.length:Int)==1)&&((gI ts 0) != 0))&&(s.num==0))&&((s.kids.length:Int)==0))&&((s.op==16)||(s.op==17))))] [.obj b2 (Z0g s),.obj b1 [Z2 n.decls,nSg3 (n.routines.map Z4)],.tail v 1] ?_ ?_))))
     ·refine ir 2 [(3,.p b1 0),(5,.p b2 0),(8,oInt ts v),(11,.b (((((ts.length:Int)==1)&&((gI ts 0) != 0))&&(s.num==0))&&((s.kids.length:Int)==0))),(96,.b (((((ts.length:Int)==1)&&((gI ts 0) != 0))&&(s.num==0))&&((s.kids.length:Int)==0)))] (ib (b:=(((((ts.length:Int)==1)&&((gI ts 0) != 0))&&(s.num==0))&&((s.kids.length:Int)==0))) 96 (fun hb6=>?_) (fun hb6=>?_))
      ·have hp11:((((ts.length:Int)=1)∧((gI ts 0)≠0))∧(s.num=0))∧((s.kids.length:Int)=0):=((Zk (Zk (Zk beq_iff_eq bne_iff_ne) beq_iff_eq) beq_iff_eq)).1 hb6
       refine irK 4 (.n 100 (.b (s.op==16)) (.k (.k (.k (.k (.k .z)))))) [0] [b2] (ib (b:=(s.op==16)) 100 (fun hb7=>?_) (fun hb7=>?_))
       ·have hp12:s.op=16:=(beq_iff_eq).1 hb7
        refine irk 5 (.n 105 (.b true) (.k (.d .r))) (ie ?_)
        exact wk [0,0,0] (fr (fr (fr (fc (x:=.b true) (lb (by simp only [hb6,hb7];rfl)) fl))))
       have hp13:¬(s.op=16):=Zd beq_iff_eq hb7
       refine irK 5 (.n 105 (.b (s.op==17)) (.k (.d .r))) [0] [b2] (ie ?_)
       exact wk [0,0,0] (fr (fr (fr (fc (x:=.b (s.op==17)) (lb (by simp only [hb6,hb7];rfl)) fl))))
      have hp14:¬(((((ts.length:Int)=1)∧((gI ts 0)≠0))∧(s.num=0))∧((s.kids.length:Int)=0)):=Zd (Zk (Zk (Zk beq_iff_eq bne_iff_ne) beq_iff_eq) beq_iff_eq) hb6
      refine irk 9 (.n 105 (.b false) (.d (.k (.d (.k (.k .z)))))) (ie ?_)
      exact wk [0,0,0] (fr (fr (fr (fc (x:=.b false) (lb (by simp only [hb6];rfl)) fl))))
     refine ac ((((((ts.length:Int)==1)&&((gI ts 0) != 0))&&(s.num==0))&&((s.kids.length:Int)==0))&&((s.op==16)||(s.op==17))) (p:=(((((ts.length:Int)=1)∧((gI ts 0)≠0))∧(s.num=0))∧((s.kids.length:Int)=0))∧((s.op=16)∨(s.op=17))) (Zk (Zk (Zk (Zk beq_iff_eq bne_iff_ne) beq_iff_eq) beq_iff_eq) (Zf beq_iff_eq beq_iff_eq)) (fun hc5=>?_) (fun hc5=>?_)
     ·refine aD 12 (dT (fuel:=9) 12 [0,1,2] [(108,Z2 n.decls),(109,oInt ts v)] [1] [b1] (dx 3 (Z0 (es:=Z6 ts) (hv:=some v) (j:=0) (sz:=1) (y:=.i (gI ts 0)) kr om (Za (Zk3 om)) rfl) (dtk (fuel:=7) 8 [4] (.n 111 (.i (gI ts 0)) .r) (dK (fun F h=>F=[(13,.b (Z01 n.decls (gI ts 0)))]∧h=[.obj b2 (Z0g s),.obj b1 [Z2 n.decls,nSg3 (n.routines.map Z4)],.tail v 1]) ?_ ?_))))
      ·refine Zxx 5 9 ?_ ?_
       ·refine dc 5 [] [] [] (Z5d n.decls (gI ts 0)) ?_
        rintro _ _ ⟨rfl,rfl⟩
        refine dt (fuel:=3) 6 [6,7,8] [(113,Z2r (Z29 n.decls (gI ts 0))),(114,.b (Z01 n.decls (gI ts 0)))] (do_ 9 (dA 9 [] [] [.i 0,.i 0,nl] ?_))
        intro b3
        refine do_ 10 (dS 10 0 [] [] b3 0 (Z2i (Z29 n.decls (gI ts 0))) [.i 0,.i 0,nl] (Z2i (Z29 n.decls (gI ts 0))) (dt (fuel:=0) 1 [11] [(13,.b (Z01 n.decls (gI ts 0)))] (de ?_)))
        exact ⟨[(13,.b (Z01 n.decls (gI ts 0)))],[.obj b2 (Z0g s),.obj b1 [Z2 n.decls,nSg3 (n.routines.map Z4)],.tail v 1],⟨rfl,rfl⟩,(wk [1,1,1] fl)⟩
       refine dA 9 [1] [b1] [.i 0,.i 0,nl] ?_
       intro b4
       refine do_ 5 (dc 5 [] [] [] (Z5d n.decls (gI ts 0)) ?_)
       rintro _ _ ⟨rfl,rfl⟩
       refine dt (fuel:=2) 5 [6,7,8] [(12,.p b4 0),(113,Z2r (Z29 n.decls (gI ts 0))),(114,.b (Z01 n.decls (gI ts 0)))] (do_ 10 (dS 10 0 [] [] b4 0 (Z2i (Z29 n.decls (gI ts 0))) [.i 0,.i 0,nl] (Z2i (Z29 n.decls (gI ts 0))) (dt (fuel:=0) 1 [11] [(13,.b (Z01 n.decls (gI ts 0)))] (de ?_))))
       exact ⟨[(13,.b (Z01 n.decls (gI ts 0)))],[.obj b2 (Z0g s),.obj b1 [Z2 n.decls,nSg3 (n.routines.map Z4)],.tail v 1],⟨rfl,rfl⟩,(wk [1,1,1] fl)⟩
      rintro F h ⟨rfl,rfl⟩
      refine az (ir 3 [(11,.b (!Z01 n.decls (gI ts 0)))] (ie (ar (ir 3 [(6,.i (-1)),(7,.b (!Z01 n.decls (gI ts 0)))] (ie ?_)))))
      have hS0:=Z6d (n:=n) hnn (Z51 c0_2 om) (fun q=>hc3 (Zch.2 q))
      exact at_ (r2 [] [.i (-1),.b (!Z01 n.decls (gI ts 0))] ⟨(-1),rfl,rfl,(fun q=>absurd hc4 q)⟩ (AVLe.tup (.cons (lr _) (.cons (lb (Zwt hS0 hc4 hc5)) .nil))))
     refine ak (ar (ir 3 [(6,.i (-1)),(7,.b (((((ts.length:Int)==1)&&((gI ts 0) != 0))&&(s.num==0))&&((s.kids.length:Int)==0)))] (ie ?_)))
     have hS0:=Z6d (n:=n) hnn (Z51 c0_2 om) (fun q=>hc3 (Zch.2 q))
     exact at_ (r2 [] [.i (-1),.b (((((ts.length:Int)==1)&&((gI ts 0) != 0))&&(s.num==0))&&((s.kids.length:Int)==0))] ⟨(-1),rfl,rfl,(fun q=>absurd hc4 q)⟩ (AVLe.tup (.cons (lr _) (.cons (lb (Zwu hS0 hc4 hc5)) .nil))))
    refine ir 1 [(3,.p b1 0),(5,.p b2 0),(8,oInt ts v),(89,.b ((((ts.length:Int)==1)&&((gI ts 0) != 0))&&(s.num==0)))] (ib (b:=((((ts.length:Int)==1)&&((gI ts 0) != 0))&&(s.num==0))) 89 (fun hb8=>?_) (fun hb8=>?_))
    ·have hp15:(((ts.length:Int)=1)∧((gI ts 0)≠0))∧(s.num=0):=((Zk (Zk beq_iff_eq bne_iff_ne) beq_iff_eq)).1 hb8
     refine irK 2 (.n 91 (Z03 s.kids) (.k (.k (.k (.k .z))))) [0] [b2] (io (.i s.kids.length) (.i (((Z0p s.kids).length:Nat):Int)) (li (by rw [Z0r])) (irk 2 (.n 94 (.b ((s.kids.length:Int)==0)) .r) ?_))
     exact Zz (wk [0,0,0] (fr (fr (fr (fc (x:=.b ((s.kids.length:Int)==0)) (lb (by simp only [hb8];rfl)) fl))))) hj3
    have hp16:¬((((ts.length:Int)=1)∧((gI ts 0)≠0))∧(s.num=0)):=Zd (Zk (Zk beq_iff_eq bne_iff_ne) beq_iff_eq) hb8
    refine irk 5 (.n 94 (.b false) (.d (.k (.k (.k .z))))) ?_
    exact Zz (wk [0,0,0] (fr (fr (fr (fc (x:=.b false) (lb (by simp only [hb8];rfl)) fl))))) hj3
   refine ir 1 [(3,.p b1 0),(5,.p b2 0),(8,oInt ts v),(84,.b (((ts.length:Int)==1)&&((gI ts 0) != 0)))] (ib (b:=(((ts.length:Int)==1)&&((gI ts 0) != 0))) 84 (fun hb9=>?_) (fun hb9=>?_))
   ·have hp17:((ts.length:Int)=1)∧((gI ts 0)≠0):=((Zk beq_iff_eq bne_iff_ne)).1 hb9
    refine irK 4 (.n 88 (.b (s.num==0)) (.d (.k (.k (.k .z))))) [0] [b2] ?_
    exact Zz (wk [0,0,0] (fr (fr (fr (fc (x:=.b (s.num==0)) (lb (by simp only [hb9];rfl)) fl))))) hj2
   have hp18:¬(((ts.length:Int)=1)∧((gI ts 0)≠0)):=Zd (Zk beq_iff_eq bne_iff_ne) hb9
   refine irk 4 (.n 88 (.b false) (.d (.k (.k (.k .z))))) ?_
   exact Zz (wk [0,0,0] (fr (fr (fr (fc (x:=.b false) (lb (by simp only [hb9];rfl)) fl))))) hj2
  refine ir 2 [(3,.p b1 0),(5,.p b2 0),(8,oInt ts v),(78,.b ((ts.length:Int)==1))] (ib (b:=((ts.length:Int)==1)) 78 (fun hb10=>?_) (fun hb10=>?_))
  ·have hp19:(ts.length:Int)=1:=(beq_iff_eq).1 hb10
   refine irk 1 (.n 79 (oInt ts v) (.k (.k (.k (.k .z))))) (is_ (Z0 (es:=Z6 ts) (hv:=some v) (j:=0) (sz:=1) (y:=.i (gI ts 0)) kr om (Za (Zk3 om)) rfl) (irk 3 (.n 83 (.b ((gI ts 0) != 0)) .r) ?_))
   exact Zz (wk [0,0,0] (fr (fr (fr (fc (x:=.b ((gI ts 0) != 0)) (lb (by simp only [hb10];rfl)) fl))))) hj1
  have hp20:¬((ts.length:Int)=1):=Zd beq_iff_eq hb10
  refine irk 5 (.n 83 (.b false) (.d (.k (.k (.k .z))))) ?_
  exact Zz (wk [0,0,0] (fr (fr (fr (fc (x:=.b false) (lb (by simp only [hb10];rfl)) fl))))) hj1
 refine ar (irK 4 (.n 118 (.b (s.op==7)) .r) [0] [b2] (ie (ac (s.op==7) beq_iff_eq (fun hc6=>?_) (fun hc6=>?_))))
 ·refine aq (ar (irk 1 (.n 122 (oInt ts v) .r) (io (.i ts.length) (.i (((Z6 ts).length:Nat):Int)) (li (by rw [Z5])) (Z1i 9 [(1,nInt us),(3,.p b1 0),(5,.p b2 0),(130,.b (((ts.length:Int) != 1)||((gI ts 0) != 0)))] [.obj b2 (Z0g s),.obj b1 [Z2 n.decls,nSg3 (n.routines.map Z4)],.tail v 1] ?_ (fun hj4=>?_)))))
  ·refine Z1i 14 [(1,nInt us),(3,.p b1 0),(5,.p b2 0),(135,.b ((((ts.length:Int) != 1)||((gI ts 0) != 0))||(s.num != 0)))] [.obj b2 (Z0g s),.obj b1 [Z2 n.decls,nSg3 (n.routines.map Z4)],.tail v 1] ?_ (fun hj5=>?_)
   ·refine Z27 [(1,nInt us),(3,.p b1 0),(5,.p b2 0),(141,.b (((((ts.length:Int) != 1)||((gI ts 0) != 0))||(s.num != 0))||((s.kids.length:Int) != 2)))] [.obj b2 (Z0g s),.obj b1 [Z2 n.decls,nSg3 (n.routines.map Z4)],.tail v 1] ?_ ?_
    ·refine ir 1 [(1,nInt us),(3,.p b1 0),(5,.p b2 0),(136,.b ((((ts.length:Int) != 1)||((gI ts 0) != 0))||(s.num != 0)))] (ib (b:=((((ts.length:Int) != 1)||((gI ts 0) != 0))||(s.num != 0))) 136 (fun hb11=>?_) (fun hb11=>?_))
     ·have hp21:(((ts.length:Int)≠1)∨((gI ts 0)≠0))∨(s.num≠0):=((Zf (Zf bne_iff_ne bne_iff_ne) bne_iff_ne)).1 hb11
      refine irk 5 (.n 141 (.b true) (.d (.k (.k (.k .z))))) (ie ?_)
      exact wk [0,0,0] (fr (fr (fr (fc (x:=.b true) (lb (by simp only [hb11];rfl)) fl))))
     have hp22:¬((((ts.length:Int)≠1)∨((gI ts 0)≠0))∨(s.num≠0)):=Zd (Zf (Zf bne_iff_ne bne_iff_ne) bne_iff_ne) hb11
     refine irK 2 (.n 138 (Z03 s.kids) (.k (.k (.k (.k .z))))) [0] [b2] (io (.i s.kids.length) (.i (((Z0p s.kids).length:Nat):Int)) (li (by rw [Z0r])) (irk 2 (.n 141 (.b ((s.kids.length:Int) != 2)) .r) (ie ?_)))
     exact wk [0,0,0] (fr (fr (fr (fc (x:=.b ((s.kids.length:Int) != 2)) (lb (by simp only [hb11];rfl)) fl))))
    refine ac (((((ts.length:Int) != 1)||((gI ts 0) != 0))||(s.num != 0))||((s.kids.length:Int) != 2)) (p:=((((ts.length:Int)≠1)∨((gI ts 0)≠0))∨(s.num≠0))∨((s.kids.length:Int)≠2)) (Zf (Zf (Zf bne_iff_ne bne_iff_ne) bne_iff_ne) bne_iff_ne) (fun hc7=>?_) (fun hc7=>?_)
    ·refine ar (ir 2 [(6,.i (-1)),(7,.b false)] (ie ?_))
     have hS0:=Z6d (n:=n) hnn (Z51 c0_2 om) (fun q=>hc3 (Zch.2 q))
     have hS:=Z02l hS0 hc4 hc6 hc7
     exact at_ (r2 [] [.i (-1),.b false] ⟨(-1),rfl,rfl,(by intro _ h;rw [hS] at h;omega)⟩ (AVLe.tup (.cons (lr _) (.cons (lb (by rw [hS];rfl)) .nil))))
    refine ak (aD 10 (dT (fuel:=6) 10 [0,1,2,3] [(142,.agg [Z2 n.decls,nSg3 (n.routines.map Z4)]),(143,nInt us),(145,Z03 s.kids)] [1,0] [b1,b2] (do_ 4 (dMN 4 [0,1] [b2,b1] 2 2 ?_))))
    intro v4
    refine dtk (fuel:=5) 5 [] (.n 146 (Z30 (List.replicate 2 [])) (.p .r)) (do_ 5 (dc 5 [] [] [] (Z4i n us s.kids (List.replicate 2 []) (hnn:=hnn) (hm3:=(by intro m hm;first|(rw [List.eq_of_mem_replicate hm];simp;done)|(obtain ⟨c,_,rfl⟩:=List.mem_map.1 hm;exact Z13 hdk c))) (hmn:=(by intro m hm f hf;first|(rw [List.eq_of_mem_replicate hm] at hf;simp at hf;done)|(obtain ⟨c,_,rfl⟩:=List.mem_map.1 hm;exact hty.fields c f hf))) (ih:=(fun b us2 h1 h2 h3 h4=>ih b us2 om h2 h3 h4))) ?_))
    rintro _ _ ⟨rfl,rfl⟩
    refine dt (fuel:=0) 4 [6,7,8,9] [(6,.i (Z1f n us s.kids (List.replicate 2 []) true 0)),(7,.b (decide (0≤Z1f n us s.kids (List.replicate 2 []) true 0)))] (de ?_)
    have hS0:=Z6d (n:=n) hnn (Z51 c0_2 om) (fun q=>hc3 (Zch.2 q))
    have hS:=Z04k hS0 hc4 hc6 hc7
    exact at_ (r2 [] [.i (Z1f n us s.kids (List.replicate 2 []) true 0),.b (decide (0≤Z1f n us s.kids (List.replicate 2 []) true 0))] ⟨Z1f n us s.kids (List.replicate 2 []) true 0,rfl,rfl,(fun _ _=>hS.symm)⟩ (AVLe.tup (.cons (lr _) (.cons (lb (by rw [hS])) .nil))))
   refine ir 1 [(1,nInt us),(3,.p b1 0),(5,.p b2 0),(131,.b (((ts.length:Int) != 1)||((gI ts 0) != 0)))] (ib (b:=(((ts.length:Int) != 1)||((gI ts 0) != 0))) 131 (fun hb12=>?_) (fun hb12=>?_))
   ·have hp23:((ts.length:Int)≠1)∨((gI ts 0)≠0):=((Zf bne_iff_ne bne_iff_ne)).1 hb12
    refine irk 4 (.n 135 (.b true) (.d (.k (.k (.k .z))))) ?_
    exact Zz (wk [0,0,0] (fr (fr (fr (fc (x:=.b true) (lb (by simp only [hb12];rfl)) fl))))) hj5
   have hp24:¬(((ts.length:Int)≠1)∨((gI ts 0)≠0)):=Zd (Zf bne_iff_ne bne_iff_ne) hb12
   refine irK 4 (.n 135 (.b (s.num != 0)) (.d (.k (.k (.k .z))))) [0] [b2] ?_
   exact Zz (wk [0,0,0] (fr (fr (fr (fc (x:=.b (s.num != 0)) (lb (by simp only [hb12];rfl)) fl))))) hj5
  refine ir 2 [(1,nInt us),(3,.p b1 0),(5,.p b2 0),(8,oInt ts v),(125,.b ((ts.length:Int) != 1))] (ib (b:=((ts.length:Int) != 1)) 125 (fun hb13=>?_) (fun hb13=>?_))
  ·have hp25:(ts.length:Int)≠1:=(bne_iff_ne).1 hb13
   refine irk 5 (.n 130 (.b true) (.d (.k (.k (.k .z))))) ?_
   exact Zz (wk [0,0,0] (fr (fr (fr (fc (x:=.b true) (lb (by simp only [hb13];rfl)) fl))))) hj4
  have hp26:¬((ts.length:Int)≠1):=Zd bne_iff_ne hb13
  refine irk 1 (.n 126 (oInt ts v) (.k (.k (.k (.k .z))))) (is_ (Z0 (es:=Z6 ts) (hv:=some v) (j:=0) (sz:=1) (y:=.i (gI ts 0)) kr om (Za (Zk3 om)) rfl) (irk 3 (.n 130 (.b ((gI ts 0) != 0)) .r) ?_))
  exact Zz (wk [0,0,0] (fr (fr (fr (fc (x:=.b ((gI ts 0) != 0)) (lb (by simp only [hb13];rfl)) fl))))) hj4
 refine ar (irK 4 (.n 150 (.b (s.op==8)) .r) [0] [b2] (ie (ac (s.op==8) beq_iff_eq (fun hc8=>?_) (fun hc8=>?_))))
 ·refine ar (irK 3 (.n 154 (.agg [Z2 n.decls,nSg3 (n.routines.map Z4)]) (.n 156 (.i s.num) .r)) [1,0] [b1,b2] (ic [] (Z2e _ s.num) ?_))
  rintro _ _ ⟨rfl,rfl⟩
  refine irk 1 (.n 14 (Z30 ((Zb n.decls s.num).map (Z1 n.decls))) .r) (ie (aq (aD 24 (dtk (fuel:=23) 24 [0] (.n 158 (oInt ts v) .r) (dn 1 (.i ts.length) (.i (((Z6 ts).length:Nat):Int)) (li (by rw [Z5])) (Zbz [(1,nInt us),(3,.p b1 0),(5,.p b2 0),(14,Z30 ((Zb n.decls s.num).map (Z1 n.decls))),(181,.b (((ts.length:Int) != 1)||(((gI ts 0) != s.num)||((((((Zb n.decls s.num).map (Z1 n.decls)).length:Nat):Int)==0)||((s.kids.length:Int) != ((((Zb n.decls s.num).map (Z1 n.decls)).length:Nat):Int))))))] [.obj b2 (Z0g s),.obj b1 [Z2 n.decls,nSg3 (n.routines.map Z4)],.tail v 1] ?_ ?_))))))
  ·refine dt (fuel:=20) 22 [2,3] [(1,nInt us),(3,.p b1 0),(5,.p b2 0),(8,oInt ts v),(14,Z30 ((Zb n.decls s.num).map (Z1 n.decls))),(161,.b ((ts.length:Int) != 1))] (db (b:=((ts.length:Int) != 1)) 161 (fun hb14=>?_) (fun hb14=>?_))
   ·have hp27:(ts.length:Int)≠1:=(bne_iff_ne).1 hb14
    refine dtk (fuel:=0) 20 [4,5,6,7,8,9,10,11,12,13,14,15,16,17,18,19,20,21,22,23] (.n 181 (.b true) (.d (.k (.k (.k (.d (.k .z))))))) (de ?_)
    exact wk [0,0,0] (fr (fr (fr (fr (fc (x:=.b true) (lb (by simp only [hb14];rfl)) fl)))))
   have hp28:¬((ts.length:Int)≠1):=Zd bne_iff_ne hb14
   refine dtk (fuel:=19) 20 [4] (.n 162 (oInt ts v) (.k (.k (.k (.k (.d (.k .z))))))) (dx 5 (Z0 (es:=Z6 ts) (hv:=some v) (j:=0) (sz:=1) (y:=.i (gI ts 0)) kr om (Za (Zk3 om)) rfl) (dtK (fuel:=12) 18 [6,7,8,9,10,11] (.n 169 (.b ((gI ts 0) != s.num)) .r) [0] [b2] (db (b:=((gI ts 0) != s.num)) 169 (fun hb15=>?_) (fun hb15=>?_))))
   ·have hp29:(gI ts 0)≠s.num:=(bne_iff_ne).1 hb15
    refine dtk (fuel:=0) 12 [12,13,14,15,16,17,18,19,20,21,22,23] (.n 181 (.b true) (.k (.d .r))) (de ?_)
    exact wk [0,0,0] (fr (fr (fr (fr (fc (x:=.b true) (lb (by simp only [hb14,hb15];rfl)) fl)))))
   have hp30:¬((gI ts 0)≠s.num):=Zd bne_iff_ne hb15
   refine dtk (fuel:=11) 12 [12] (.n 170 (Z30 ((Zb n.decls s.num).map (Z1 n.decls))) (.k (.d .r))) (dn 13 (.i ((((Zb n.decls s.num).map (Z1 n.decls)).length:Nat):Int)) (.i (((Z33 ((Zb n.decls s.num).map (Z1 n.decls))).length:Nat):Int)) (li (by rw [Z6r])) (dtk (fuel:=7) 10 [14,15,16] (.n 174 (.b (((((Zb n.decls s.num).map (Z1 n.decls)).length:Nat):Int)==0)) .r) (db (b:=(((((Zb n.decls s.num).map (Z1 n.decls)).length:Nat):Int)==0)) 174 (fun hb16=>?_) (fun hb16=>?_))))
   ·have hp31:((((Zb n.decls s.num).map (Z1 n.decls)).length:Nat):Int)=0:=(beq_iff_eq).1 hb16
    refine dtk (fuel:=0) 7 [17,18,19,20,21,22,23] (.n 181 (.b true) (.k (.d .r))) (de ?_)
    exact wk [0,0,0] (fr (fr (fr (fr (fc (x:=.b true) (lb (by simp only [hb14,hb15,hb16];rfl)) fl)))))
   have hp32:¬(((((Zb n.decls s.num).map (Z1 n.decls)).length:Nat):Int)=0):=Zd beq_iff_eq hb16
   refine dtK (fuel:=5) 7 [17,18] (.n 176 (Z03 s.kids) (.k (.d .r))) [0] [b2] (dn 19 (.i s.kids.length) (.i (((Z0p s.kids).length:Nat):Int)) (li (by rw [Z0r])) (dtk (fuel:=3) 4 [20] (.n 178 (Z30 ((Zb n.decls s.num).map (Z1 n.decls))) .r) (dn 21 (.i ((((Zb n.decls s.num).map (Z1 n.decls)).length:Nat):Int)) (.i (((Z33 ((Zb n.decls s.num).map (Z1 n.decls))).length:Nat):Int)) (li (by rw [Z6r])) (dtk (fuel:=0) 2 [22,23] (.n 181 (.b ((s.kids.length:Int) != ((((Zb n.decls s.num).map (Z1 n.decls)).length:Nat):Int))) .r) (de ?_)))))
   exact wk [0,0,0] (fr (fr (fr (fr (fc (x:=.b ((s.kids.length:Int) != ((((Zb n.decls s.num).map (Z1 n.decls)).length:Nat):Int))) (lb (by simp only [hb14,hb15,hb16];rfl)) fl)))))
  refine ac (((ts.length:Int) != 1)||(((gI ts 0) != s.num)||((((((Zb n.decls s.num).map (Z1 n.decls)).length:Nat):Int)==0)||((s.kids.length:Int) != ((((Zb n.decls s.num).map (Z1 n.decls)).length:Nat):Int))))) (p:=((ts.length:Int)≠1)∨(((gI ts 0)≠s.num)∨((((((Zb n.decls s.num).map (Z1 n.decls)).length:Nat):Int)=0)∨((s.kids.length:Int)≠((((Zb n.decls s.num).map (Z1 n.decls)).length:Nat):Int))))) (Zf bne_iff_ne (Zf bne_iff_ne (Zf beq_iff_eq bne_iff_ne))) (fun hc9=>?_) (fun hc9=>?_)
  ·refine ar (ir 2 [(6,.i (-1)),(7,.b false)] (ie ?_))
   have hS0:=Z6d (n:=n) hnn (Z51 c0_2 om) (fun q=>hc3 (Zch.2 q))
   have hS:=Z02m hS0 hc4 hc6 hc8 hc9
   exact at_ (r2 [] [.i (-1),.b false] ⟨(-1),rfl,rfl,(by intro _ h;rw [hS] at h;omega)⟩ (AVLe.tup (.cons (lr _) (.cons (lb (by rw [hS];rfl)) .nil))))
  refine ak (ar (iR 5 [(182,.agg [Z2 n.decls,nSg3 (n.routines.map Z4)]),(183,nInt us),(185,Z03 s.kids),(186,Z30 ((Zb n.decls s.num).map (Z1 n.decls)))] [1,0] [b1,b2] (ic [] (Z4i n us s.kids ((Zb n.decls s.num).map (Z1 n.decls)) (hnn:=hnn) (hm3:=(by intro m hm;first|(rw [List.eq_of_mem_replicate hm];simp;done)|(obtain ⟨c,_,rfl⟩:=List.mem_map.1 hm;exact Z13 hdk c))) (hmn:=(by intro m hm f hf;first|(rw [List.eq_of_mem_replicate hm] at hf;simp at hf;done)|(obtain ⟨c,_,rfl⟩:=List.mem_map.1 hm;exact hty.fields c f hf))) (ih:=(fun b us2 h1 h2 h3 h4=>ih b us2 om h2 h3 h4))) ?_)))
  rintro _ _ ⟨rfl,rfl⟩
  refine ir 4 [(6,.i (Z1f n us s.kids ((Zb n.decls s.num).map (Z1 n.decls)) true 0)),(7,.b (decide (0≤Z1f n us s.kids ((Zb n.decls s.num).map (Z1 n.decls)) true 0)))] (ie ?_)
  have hS0:=Z6d (n:=n) hnn (Z51 c0_2 om) (fun q=>hc3 (Zch.2 q))
  have hS:=Z04l hS0 hc4 hc6 hc8 hc9
  exact at_ (r2 [] [.i (Z1f n us s.kids ((Zb n.decls s.num).map (Z1 n.decls)) true 0),.b (decide (0≤Z1f n us s.kids ((Zb n.decls s.num).map (Z1 n.decls)) true 0))] ⟨Z1f n us s.kids ((Zb n.decls s.num).map (Z1 n.decls)) true 0,rfl,rfl,(fun _ _=>hS.symm)⟩ (AVLe.tup (.cons (lr _) (.cons (lb (by rw [hS])) .nil))))
 refine ar (irK 2 (.n 192 (Z03 s.kids) .r) [0] [b2] (io (.i s.kids.length) (.i (((Z0p s.kids).length:Nat):Int)) (li (by rw [Z0r])) (Z1i 33 [(3,.p b1 0),(5,.p b2 0),(8,oInt ts v),(223,.b ((decide ((s.kids.length:Int)>0))||((s.op==10)&&((decide (s.num≥0))&&((decide (s.num<(((n.routines.map Z4).length:Nat):Int)))&&(decide (((((sgI n s.num).lnt).length:Nat):Int)>0)))))))] [.obj b2 (Z0g s),.obj b1 [Z2 n.decls,nSg3 (n.routines.map Z4)],.tail v 1] ?_ (fun hj6=>?_))))
 ·refine ir 1 [(3,.p b1 0),(5,.p b2 0),(8,oInt ts v),(190,.b ((decide ((s.kids.length:Int)>0))||((s.op==10)&&((decide (s.num≥0))&&((decide (s.num<(((n.routines.map Z4).length:Nat):Int)))&&(decide (((((sgI n s.num).lnt).length:Nat):Int)>0)))))))] (ie (ac ((decide ((s.kids.length:Int)>0))||((s.op==10)&&((decide (s.num≥0))&&((decide (s.num<(((n.routines.map Z4).length:Nat):Int)))&&(decide (((((sgI n s.num).lnt).length:Nat):Int)>0)))))) (p:=((s.kids.length:Int)>0)∨((s.op=10)∧((s.num≥0)∧((s.num<(((n.routines.map Z4).length:Nat):Int))∧(((((sgI n s.num).lnt).length:Nat):Int)>0))))) (Zf dq (Zk beq_iff_eq (Zk dq (Zk dq dq)))) (fun hc10=>?_) (fun hc10=>?_)))
  ·refine ar (ir 2 [(6,.i (-1)),(7,.b false)] (ie ?_))
   have hS0:=Z6d (n:=n) hnn (Z51 c0_2 om) (fun q=>hc3 (Zch.2 q))
   have hS:=stB hS0 hc4 hc6 hc8 hc10
   exact at_ (r2 [] [.i (-1),.b false] ⟨(-1),rfl,rfl,(by intro _ h;rw [hS] at h;omega)⟩ (AVLe.tup (.cons (lr _) (.cons (lb (by rw [hS];rfl)) .nil))))
  refine ak (ar (iR 6 [(224,.agg [Z2 n.decls,nSg3 (n.routines.map Z4)]),(226,.i s.op),(228,.i s.num),(229,nInt ts)] [1,0,0] [b1,b2,b2] (ic [] (Z6h _ s.op s.num ts) ?_)))
  rintro _ _ ⟨t1,rfl,rfl,hp33⟩
  refine ir 4 [(6,.i t1),(7,.b ((Z0s n s.op s.num ts).isSome))] (ie ?_)
  have hS0:=Z6d (n:=n) hnn (Z51 c0_2 om) (fun q=>hc3 (Zch.2 q))
  have hS:=stS hS0 hc4 hc6 hc8 hc10
  exact at_ (r2 [] [.i t1,.b ((Z0s n s.op s.num ts).isSome)] ⟨t1,rfl,rfl,(Z05f hS hp33)⟩ (AVLe.tup (.cons (lr _) (.cons (lb (Z05e hty hS)) .nil))))
 refine ir 2 [(3,.p b1 0),(5,.p b2 0),(8,oInt ts v),(195,.b (decide ((s.kids.length:Int)>0)))] (ib (b:=(decide ((s.kids.length:Int)>0))) 195 (fun hb17=>?_) (fun hb17=>?_))
 ·have hp34:(s.kids.length:Int)>0:=(dq).1 hb17
  refine irk 28 (.n 223 (.b true) (.d (.k (.k (.k .z))))) ?_
  exact Zz (wk [0,0,0] (fr (fr (fr (fc (x:=.b true) (lb (by simp only [hb17];rfl)) fl))))) hj6
 have hp35:¬((s.kids.length:Int)>0):=Zd dq hb17
 refine irK 4 (.n 199 (.b (s.op==10)) (.k (.k (.k (.k .z))))) [0] [b2] (ib (b:=(s.op==10)) 199 (fun hb18=>?_) (fun hb18=>?_))
 ·have hp36:s.op=10:=(beq_iff_eq).1 hb18
  refine irK 5 (.n 204 (.b (decide (s.num≥0))) (.d (.d .r))) [0] [b2] (ib (b:=(decide (s.num≥0))) 204 (fun hb19=>?_) (fun hb19=>?_))
  ·have hp37:s.num≥0:=(dq).1 hb19
   refine irK 4 (.n 206 (.i s.num) (.n 208 (nSg3 (n.routines.map Z4)) (.k (.d .r)))) [0,1] [b2,b1] (io (.i (((n.routines.map Z4).length:Nat):Int)) (.i (((Z5j (n.routines.map Z4)).length:Nat):Int)) (li (by rw [Z67])) (irk 3 (.n 212 (.b (decide (s.num<(((n.routines.map Z4).length:Nat):Int)))) .r) (ib (b:=(decide (s.num<(((n.routines.map Z4).length:Nat):Int)))) 212 (fun hb20=>?_) (fun hb20=>?_))))
   ·have hp38:s.num<(((n.routines.map Z4).length:Nat):Int):=(dq).1 hb20
    refine irK 4 (.n 214 (nSg3 (n.routines.map Z4)) (.n 216 (.i s.num) (.k (.d .r)))) [1,0] [b1,b2] (is_ (Z0 (es:=Z5j (n.routines.map Z4)) (hv:=none) (j:=s.num) (sz:=3) (y:=aSg3 (sgI n s.num)) kr om (Z77 (Zwd om)) rfl) (irk 2 (.n 219 (nInt ((sgI n s.num).lnt)) .r) (io (.i ((((sgI n s.num).lnt).length:Nat):Int)) (.i (((Z6 ((sgI n s.num).lnt)).length:Nat):Int)) (li (by rw [Z5])) (irk 3 (.n 223 (.b (decide (((((sgI n s.num).lnt).length:Nat):Int)>0))) .r) ?_))))
    exact Zz (wk [0,0,0] (fr (fr (fr (fc (x:=.b (decide (((((sgI n s.num).lnt).length:Nat):Int)>0))) (lb (by simp only [hb17,hb18,hb19,hb20];rfl)) fl))))) hj6
   have hp39:¬(s.num<(((n.routines.map Z4).length:Nat):Int)):=Zd dq hb20
   refine irk 11 (.n 223 (.b false) (.k (.d .r))) ?_
   exact Zz (wk [0,0,0] (fr (fr (fr (fc (x:=.b false) (lb (by simp only [hb17,hb18,hb19,hb20];rfl)) fl))))) hj6
  have hp40:¬(s.num≥0):=Zd dq hb19
  refine irk 19 (.n 223 (.b false) (.k (.d .r))) ?_
  exact Zz (wk [0,0,0] (fr (fr (fr (fc (x:=.b false) (lb (by simp only [hb17,hb18,hb19];rfl)) fl))))) hj6
 have hp41:¬(s.op=10):=Zd beq_iff_eq hb18
 refine irk 24 (.n 223 (.b false) (.k (.d .r))) ?_
 exact Zz (wk [0,0,0] (fr (fr (fr (fc (x:=.b false) (lb (by simp only [hb17,hb18];rfl)) fl))))) hj6
theorem Zba (n:Normal) (us:List Int) (b:Block) (hn:NOk n) (hnn:∀t∈us,0≤t) (hb:us.length+4*b.sz≤1000000000) (hr:b.rng) (ih:∀(s:Step) (us:List Int),(s.sz<b.sz)→(us.length+4*s.sz≤1000000000)→(s.rng)→(∀t∈us,0≤t)→Z3 Tryz.prog 160 [.agg [Z2 n.decls,nSg3 (n.routines.map Z4)],nInt us,Z0o s] [] (fun r h=>∃(t:Int),r=.tup [.i t,.b (decide (0≤Z9 n us s))]∧h=[]∧(¬Z0q s.op=true→0≤Z9 n us s→t=Z9 n us s))):Z3 Tryz.prog 113 [.agg [Z2 n.decls,nSg3 (n.routines.map Z4)],nInt us,Zj b] [] (fun r h=>r=.i (Zg n us b)∧h=[]):=by
 have hbz:=Z6v b
 have hbe:=Z8l n us b
 rw [b.rng_eq] at hr
 refine enter Tryz.func113 kr (n:=54) kr kr (ar (iA [Z2 n.decls,nSg3 (n.routines.map Z4)] ?_))
 intro b1
 refine iA (Z0l b) ?_
 intro b2
 refine ir 1 [(1,nInt us),(3,.p b1 0),(5,.p b2 0)] (ie (ar (irk 1 (.n 12 (nInt us) .r) (ic [] (Z84 us) ?_))))
 rintro _ _ ⟨v1,rfl,rfl⟩
 refine irk 1 (.n 7 (oInt us v1) .r) (ie (aq (ar (irK 2 (.n 15 (Z0h b.steps) .r) [1] [b2] (io (.i b.steps.length) (.i (((Zu b.steps).length:Nat):Int)) (li (by rw [Z0w])) (irk 1 (.n 17 (.i 0) .r) (ie (ab 0 (al (fun m F h=>∃(k:Nat) (vs:List Int) (v:Value),(k≤b.steps.length)∧(vs.length≤us.length+k)∧(∀t∈vs,0≤t)∧(Z11 n (b.steps.drop k) vs=Z11 n b.steps us)∧F=[(3,.p b1 0),(5,.p b2 0),(7,oInt vs v),(15,Z0h b.steps),(16,.i b.steps.length),(17,.i k)]∧h=[.obj b2 (Z0l b),.obj b1 [Z2 n.decls,nSg3 (n.routines.map Z4)],.tail v 1]∧m=b.steps.length-k) _ _ _ ⟨0,us,v1,ob,ob,ob,ob,rfl,rfl,rfl⟩ (wk [1,1,0] (fr (fr (fr (fr (fr (fc (x:=.i 0) li fl))))))) ?_)))))))))
 rintro m F h ⟨k,vs,v,c0_0,c0_1,c0_2,c0_3,rfl,rfl,rfl⟩
 refine ar (irk 1 (.n 18 (.b (decide ((k:Int)<(b.steps.length:Int)))) .r) (ie (aq (ac (decide ((k:Int)<(b.steps.length:Int))) dq (fun hc1=>?_) (fun hc1=>?_)))))
 ·refine ak (aq (ab 1 (ar ?_)))
  obtain ⟨x1,hx1⟩:=Z8 (xs:=b.steps) (j:=k) om
  have hss:=Zl2 hx1
  have hsr:=Zkx hr hx1
  refine is_ (Z0 (es:=Zu b.steps) (hv:=none) (j:=(k:Int)) (sz:=5) (y:=Z0o x1) kr om (Z1r hx1) rfl) (irk 1 (.n 20 (Z0o x1) .r) (iA [.i 0,.i 0,.i 0,nl,nl] ?_))
  intro b3
  refine iS 0 b3 0 (Z0g x1) [.i 0,.i 0,.i 0,nl,nl] (Z0g x1) (ie (ar (irK 3 (.n 22 (.agg [Z2 n.decls,nSg3 (n.routines.map Z4)]) (.n 23 (nInt vs) (.n 24 (Z0o x1) .r))) [2,0] [b1,b3] (ic [] (ih x1 vs ob ob ob ob) ?_))))
  rintro _ _ ⟨t1,rfl,rfl,hp1⟩
  refine irk 5 (.n 10 (.i t1) (.n 11 (.b (decide (0≤Z9 n vs x1))) .r)) (ie (aq (ar (irk 2 (.n 29 (.b (!decide (0≤Z9 n vs x1))) .r) (ie (ac (!decide (0≤Z9 n vs x1)) (p:=¬(decide (0≤Z9 n vs x1)=true)) (Zc Iff.rfl) (fun hc2=>?_) (fun hc2=>?_)))))))
  ·refine ar (ir 1 [(6,.i (-1))] (ie ?_))
   exact at_ (r2 [] [.i (-1)] ⟨rfl,rfl⟩ (li (by rw [hbe,←c0_3,Zsp hx1 (fun q=>hc2 (decide_eq_true q)) rfl])))
  refine ak (ar (irK 2 (.n 31 (.i x1.op) .r) [0] [b3] (ic [] (Z4d x1.op) ?_)))
  rintro _ _ ⟨rfl,rfl⟩
  refine irk 1 (.n 33 (.b (!Z0q x1.op)) .r) (ie (Zan (fun F h=>∃(w:Value),F=[(3,.p b1 0),(5,.p b2 0),(7,oInt (if Z0q x1.op=true then vs else vs++[t1]) w),(15,Z0h b.steps),(16,.i b.steps.length),(17,.i k)]∧h=[.obj b2 (Z0l b),.obj b1 [Z2 n.decls,nSg3 (n.routines.map Z4)],.tail w 1]) (fun _ _=>rfl) ?_ ?_))
  ·refine ac (!Z0q x1.op) (p:=¬(Z0q x1.op=true)) (Zc Iff.rfl) (fun hc3=>?_) (fun hc3=>?_)
   ·refine az (ir 2 [(3,.p b1 0),(5,.p b2 0),(15,Z0h b.steps),(16,.i b.steps.length),(17,.i k),(34,oInt vs v),(35,.i t1)] (iL (Z6 [t1]) 1 1 ?_))
    intro v2
    refine irk 0 (.n 36 (nInt [t1]) (.p .r)) (ip 4 (Z6 (vs++[t1])) (Z6 vs) (Z6 [t1]) v none 1 (Z0x _) (Z0x _) (Z3n _) (by simp<;>omega) (by simp [Z24,Z6]) ?_)
    intro v3
    refine irk 1 (.n 7 (oInt (vs++[t1]) v3) .r) (ie ?_)
    exact ⟨[(3,.p b1 0),(5,.p b2 0),(7,oInt (if Z0q x1.op=true then vs else vs++[t1]) v3),(15,Z0h b.steps),(16,.i b.steps.length),(17,.i k)],[.obj b2 (Z0l b),.obj b1 [Z2 n.decls,nSg3 (n.routines.map Z4)],.tail v3 1],⟨v3,rfl,rfl⟩,(wk [3,3,0] (fr (fr (fc (x:=oInt (vs++[t1]) v3) (AVLe.slh _ (congrArg Z6 (by first|rfl|(rw [if_pos hc3])|(rw [if_neg hc3])|(simp [hc3];done)|(rw [Bool.eq_iff_iff];simp [hc3];done)|omega))) fl))))⟩
   refine ak ?_
   exact ⟨[(3,.p b1 0),(5,.p b2 0),(7,oInt (if Z0q x1.op=true then vs else vs++[t1]) v),(15,Z0h b.steps),(16,.i b.steps.length),(17,.i k)],[.obj b2 (Z0l b),.obj b1 [Z2 n.decls,nSg3 (n.routines.map Z4)],.tail v 1],⟨v,rfl,rfl⟩,(wk [1,1,1] (fr (fr (fc (x:=oInt vs v) (AVLe.slh _ (congrArg Z6 (by first|rfl|(rw [if_pos hc3])|(rw [if_neg hc3])|(simp [hc3];done)|(rw [Bool.eq_iff_iff];simp [hc3];done)|omega))) fl))))⟩
  rintro F h ⟨w,rfl,rfl⟩
  refine az (ia (((k+1:Nat):Int)) (((k:Int))+(1)) (ir 1 [(3,.p b1 0),(5,.p b2 0),(7,oInt (if Z0q x1.op=true then vs else vs++[t1]) w),(15,Z0h b.steps),(16,.i b.steps.length),(17,.i (k+1:Nat))] (ie ?_)))
  have h0:0≤Z9 n vs x1:=of_decide_eq_true (Classical.not_not.1 hc2)
  exact ⟨_,_,_,ob,⟨k+1,(if Z0q x1.op=true then vs else vs++[t1]),w,ob,(by split<;>(try simp)<;>omega),(Z056 c0_2 (fun q=>by rw [hp1 q h0];exact h0)),(Zze hx1 h0 hp1 c0_3),rfl,rfl,rfl⟩,(wk [0,0,0] (fr (fr (fr (fr (fr (fc (x:=.i (k+1:Nat)) li fl)))))))⟩
 refine ax 0 (aq (ar (Z27 [(5,.p b2 0),(7,oInt vs v),(48,.b ((decide (b.result<0))||(decide (b.result≥(vs.length:Int)))))] [.obj b2 (Z0l b),.obj b1 [Z2 n.decls,nSg3 (n.routines.map Z4)],.tail v 1] ?_ ?_)))
 ·refine iR 4 [(5,.p b2 0),(7,oInt vs v),(42,.b (decide (b.result<0)))] [0] [b2] (ib (b:=(decide (b.result<0))) 42 (fun hb1=>?_) (fun hb1=>?_))
  ·have hp2:b.result<0:=(dq).1 hb1
   refine irk 6 (.n 48 (.b true) (.d (.k (.k .z)))) (ie ?_)
   exact wk [0,0,0] (fr (fr (fc (x:=.b true) (lb (by simp only [hb1];rfl)) fl)))
  have hp3:¬(b.result<0):=Zd dq hb1
  refine irK 3 (.n 44 (.i b.result) (.n 45 (oInt vs v) (.k (.k (.k .z))))) [0] [b2] (io (.i vs.length) (.i (((Z6 vs).length:Nat):Int)) (li (by rw [Z5])) (irk 2 (.n 48 (.b (decide (b.result≥(vs.length:Int)))) .r) (ie ?_)))
  exact wk [0,0,0] (fr (fr (fc (x:=.b (decide (b.result≥(vs.length:Int)))) (lb (by simp only [hb1];rfl)) fl)))
 refine ac ((decide (b.result<0))||(decide (b.result≥(vs.length:Int)))) (p:=(b.result<0)∨(b.result≥(vs.length:Int))) (Zf dq dq) (fun hc4=>?_) (fun hc4=>?_)
 ·refine ar (ir 1 [(6,.i (-1))] (ie ?_))
  exact at_ (r2 [] [.i (-1)] ⟨rfl,rfl⟩ (li (by rw [hbe,←c0_3,Zs om];show _=(atI vs b.result).getD (-1);rw [Z5n om];rfl)))
 refine ak (ar (iR 3 [(49,oInt vs v),(51,.i b.result)] [0] [b2] ?_))
 obtain ⟨x2,hx2⟩:=Z8 (xs:=vs) (j:=b.result.toNat) om
 refine is_ (Z0 (es:=Z6 vs) (hv:=some v) (j:=b.result) (sz:=1) (y:=.i x2) kr om (Za hx2) rfl) (ir 2 [(6,.i x2)] (ie ?_))
 exact at_ (r2 [] [.i x2] ⟨rfl,rfl⟩ (li (by rw [hbe,←c0_3,Zs om];show _=(atI vs b.result).getD (-1);rw [Z6m om hx2];rfl)))
theorem Zcd (n:Normal) (hn:NOk n) (hty:NTy n) (m:Nat):∀(b:Block) (us:List Int),(b.sz≤m)→(us.length+4*b.sz≤1000000000)→(b.rng)→(∀t∈us,0≤t)→Z3 Tryz.prog 113 [.agg [Z2 n.decls,nSg3 (n.routines.map Z4)],nInt us,Zj b] [] (fun r h=>r=.i (Zg n us b)∧h=[]):=by
 induction m with
 | zero=>intro b us h;have:=b.sz_pos;omega
 | succ m ih=>intro b us h1 h2 h3 h4;exact Zba n us b hn h4 h2 h3 fun s us2 k1 k2 k3 k4=>Z4j n us2 s hn hty k4 k2 k3 fun b2 us3 q1 q2 q3 q4=>ih b2 us3 om q2 q3 q4
theorem Z87 (n:Normal) (us:List Int) (b:Block) (hn:NOk n) (hty:NTy n) (hnn:∀t∈us,0≤t) (hb:us.length+4*b.sz≤1000000000) (hr:b.rng):Z3 Tryz.prog 113 [.agg [Z2 n.decls,nSg3 (n.routines.map Z4)],nInt us,Zj b] [] (fun r h=>r=.i (Zg n us b)∧h=[]):=
 Zcd n hn hty b.sz b us (Nat.le_refl _) hb hr hnn
end Go.Abs
end
section
namespace Go.Abs
open Go.Proofs
theorem Zb9 (n:Normal) (hz:NSz n:=by exact ob) (hr:∀r∈n.routines,r.body.rng):Z3 Tryz.prog 56 [Zi n] [] (fun r h=>r=.b (Z10 n)∧h=[]):=by
 have hzl:=hz.len
 refine enter Tryz.func56 kr (n:=37) kr kr (ar (iA (Zh n) ?_))
 intro b1
 refine ir 1 [(1,.p b1 0)] (ie (ar (irK 1 (.n 8 (Zi n) .r) [0] [b1] (ic [] (Z7l n) ?_))))
 rintro _ _ (⟨rfl,rfl,hp1⟩|⟨rfl,rfl,hp2⟩)
 ·refine irk 3 (.n 10 (.agg [Z2 n.decls,nSg3 (n.routines.map Z4)]) (.n 11 (.b (Z0c n)) .r)) (iA [nl,nl] ?_)
  intro b2
  refine iS 0 b2 0 [Z2 n.decls,nSg3 (n.routines.map Z4)] [nl,nl] [Z2 n.decls,nSg3 (n.routines.map Z4)] (irk 1 (.n 4 (.b (Z0c n)) .r) (ie (aq (ar (irk 2 (.n 13 (.b (!Z0c n)) .r) (ie (ac (!Z0c n) (p:=¬(Z0c n=true)) (Zc Iff.rfl) (fun hc1=>?_) (fun hc1=>?_))))))))
  ·refine ar (ir 1 [(2,.b false)] (ie ?_))
   exact at_ (r2 [] [.b false] ⟨rfl,rfl⟩ (lb (by rw [Z10,Bool.eq_false_iff.2 hc1];rfl)))
  have hsg:Z0c n=true:=by simpa using hc1
  have hok:=Z8u hz hsg
  have hty:=Zcp hsg
  refine ak (aq (ar (irK 2 (.n 15 (Zm n.routines) .r) [1] [b1] (io (.i n.routines.length) (.i (((Zo n.routines).length:Nat):Int)) (li (by rw [Z09])) (irk 1 (.n 17 (.i 0) .r) (ie (ab 0 (al (fun m F h=>∃(k:Nat),(k≤n.routines.length)∧(Z34 n (n.routines.drop k)=Z34 n n.routines)∧F=[(3,.p b2 0),(15,Zm n.routines),(16,.i n.routines.length),(17,.i k)]∧h=[.obj b2 [Z2 n.decls,nSg3 (n.routines.map Z4)]]∧m=n.routines.length-k) _ _ _ ⟨0,ob,ob,rfl,rfl,rfl⟩ (wk [0] (fr (fr (fr (fc (x:=.i 0) li fl))))) ?_))))))))
  rintro m F h ⟨k,c0_0,c0_1,rfl,rfl,rfl⟩
  refine ar (irk 1 (.n 18 (.b (decide ((k:Int)<(n.routines.length:Int)))) .r) (ie (aq (ac (decide ((k:Int)<(n.routines.length:Int))) dq (fun hc2=>?_) (fun hc2=>?_)))))
  ·refine ak (aq (ab 1 (ar ?_)))
   obtain ⟨x1,hx1⟩:=Z8 (xs:=n.routines) (j:=k) om
   have hrm:=List.mem_of_getElem? hx1
   have hbs:=hz.body _ hrm
   have hps:=hok.params_at hx1
   refine is_ (Z0 (es:=Zo n.routines) (hv:=none) (j:=(k:Int)) (sz:=5) (y:=Z0n x1) kr om (Z0v hx1) rfl) (irk 1 (.n 20 (Z0n x1) .r) (iA [nl,nl,.i 0,nl,.i 0] ?_))
   intro b3
   refine iS 0 b3 0 (Z1m x1) [nl,nl,.i 0,nl,.i 0] (Z1m x1) (ie (aD 15 (dtK (fuel:=13) 15 [0,1] (.n 22 (Zj x1.body) .r) [0] [b3] (do_ 2 (dc 2 [] [] [] (Z9t x1.body) ?_)))))
   rintro _ _ ⟨rfl,rfl⟩
   refine Zbz [(3,.p b2 0),(15,Zm n.routines),(16,.i n.routines.length),(17,.i k),(35,.b ((decide ((Z1x x1.body)<0))||((Zg n x1.params x1.body) != x1.result)))] [.obj b3 (Z1m x1),.obj b2 [Z2 n.decls,nSg3 (n.routines.map Z4)]] ?_ ?_
   ·refine dt (fuel:=10) 12 [3,4] [(3,.p b2 0),(6,.p b3 0),(15,Zm n.routines),(16,.i n.routines.length),(17,.i k),(25,.b (decide ((Z1x x1.body)<0)))] (db (b:=(decide ((Z1x x1.body)<0))) 25 (fun hb1=>?_) (fun hb1=>?_))
    ·have hp3:(Z1x x1.body)<0:=(dq).1 hb1
     refine dtk (fuel:=0) 10 [5,6,7,8,9,10,11,12,13,14] (.n 35 (.b true) (.d (.k (.d (.k (.k (.k .z))))))) (de ?_)
     exact wk [0,0] (fr (fr (fr (fr (fc (x:=.b true) (lb (by simp only [hb1];rfl)) fl)))))
    have hp4:¬((Z1x x1.body)<0):=Zd dq hb1
    refine dtK (fuel:=3) 10 [5,6,7,8,9,11,12] (.n 26 (.agg [Z2 n.decls,nSg3 (n.routines.map Z4)]) (.n 28 (nInt x1.params) (.n 30 (Zj x1.body) (.n 33 (.i x1.result) (.k (.k (.d (.k (.k (.k .z)))))))))) [1,0,0,0] [b2,b3,b3,b3] (do_ 10 (dc 10 [] [0] [b3] (Z87 n x1.params x1.body ob hty (hty.params _ hrm) ob (hr _ hrm)) ?_))
    rintro _ _ ⟨rfl,rfl⟩
    refine dtk (fuel:=0) 2 [13,14] (.n 35 (.b ((Zg n x1.params x1.body) != x1.result)) .r) (de ?_)
    exact wk [0,0] (fr (fr (fr (fr (fc (x:=.b ((Zg n x1.params x1.body) != x1.result)) (lb (by simp only [hb1];rfl)) fl)))))
   refine ac ((decide ((Z1x x1.body)<0))||((Zg n x1.params x1.body) != x1.result)) (p:=((Z1x x1.body)<0)∨((Zg n x1.params x1.body)≠x1.result)) (Zf dq bne_iff_ne) (fun hc3=>?_) (fun hc3=>?_)
   ·refine ar (ir 1 [(2,.b false)] (ie ?_))
    rw [Z7 hx1] at c0_1
    exact at_ (r2 [] [.b false] ⟨rfl,rfl⟩ (lb (by clear hx1;first|rfl|omega|grind [Z34,Z10])))
   refine ak (az (ia (((k+1:Nat):Int)) (((k:Int))+(1)) (ir 1 [(3,.p b2 0),(15,Zm n.routines),(16,.i n.routines.length),(17,.i (k+1:Nat))] (ie ?_))))
   have hdr:=Z7 hx1
   exact ⟨_,_,_,ob,⟨k+1,ob,(by rw [hdr] at c0_1;clear hdr hx1;grind [Z34]),rfl,rfl,rfl⟩,(wk [1] (fr (fr (fr (fc (x:=.i (k+1:Nat)) li fl)))))⟩
  refine ax 0 (ar (ir 1 [(2,.b true)] (ie ?_)))
  try rw [Zs (xs:=n.routines) (k:=k) om] at c0_1
  exact at_ (r2 [] [.b true] ⟨rfl,rfl⟩ (lb (by first|rfl|omega|grind [Z34,Z10])))
 refine irk 3 (.n 10 (.agg [Z2 [],nSg3 []]) (.n 11 (.b false) .r)) (iA [nl,nl] ?_)
 intro b4
 refine iS 0 b4 0 [Z2 [],nSg3 []] [nl,nl] [Z2 [],nSg3 []] (irk 1 (.n 4 (.b false) .r) (ie (aq (ar (irk 2 (.n 13 (.b true) .r) (ie (ac1 (ar (ir 1 [(2,.b false)] (ie ?_))))))))))
 exact at_ (r2 [] [.b false] ⟨rfl,rfl⟩ (lb (by rw [Z10,‹Z0c n=false›];rfl)))
end Go.Abs
end
section
namespace Go.Abs
open Go.Proofs
theorem Z55 (a:Arm) (hl:a.fds.length≤1000000:=by exact ob) (hf:0≤a.fst∧a.fst≤1000000000:=by exact ob):Z3 Tryz.prog 62 [.agg [.i a.mat,.i a.fst,nInt a.fds,.b a.chg]] [] (fun r h=>r=nInt (Z3i a.fds a.fst)∧h=[]):=by
 refine enter Tryz.func62 kr (n:=25) kr kr (ar (iA [.i a.mat,.i a.fst,nInt a.fds,.b a.chg] ?_))
 intro b1
 refine ir 1 [(1,.p b1 0)] (ie (ar (irk 1 (.n 3 (nl) .r) (ie (aq (ar (irK 2 (.n 7 (nInt a.fds) .r) [0] [b1] (io (.i a.fds.length) (.i (((Z6 a.fds).length:Nat):Int)) (li (by rw [Z5])) (irk 1 (.n 9 (.i 0) .r) (ie (ab 0 (Z50 1 (al (fun m F h=>∃(k:Nat) (acc:List Int) (v:Value),(k≤a.fds.length)∧(acc.length≤k)∧(acc++Z3i (a.fds.drop k) (a.fst+k)=Z3i a.fds a.fst)∧F=[(1,.p b1 0),(3,oInt acc v),(7,nInt a.fds),(8,.i a.fds.length),(9,.i k)]∧h=[.obj b1 [.i a.mat,.i a.fst,nInt a.fds,.b a.chg],.tail v 1]∧m=a.fds.length-k) _ _ _ ⟨0,[],(.slice none 0 0),ob,ob,ob,rfl,rfl,rfl⟩ (wk [1,0] (fr (fc (x:=nl) (AVLe.slh _ (by first|rfl|(subst_vars;rfl))) (fr (fr (fc (x:=.i 0) li fl)))))) ?_)))))))))))))
 rintro m F h ⟨k,acc,v,c0_0,c0_1,c0_2,rfl,rfl,rfl⟩
 refine ar (irk 1 (.n 10 (.b (decide ((k:Int)<(a.fds.length:Int)))) .r) (ie (aq (ac (decide ((k:Int)<(a.fds.length:Int))) dq (fun hc1=>?_) (fun hc1=>?_)))))
 ·refine ak (aq (ab 1 (ar (irk 1 (.n 11 (.i k) .r) ?_))))
  obtain ⟨x1,hx1⟩:=Z8 (xs:=a.fds) (j:=k) om
  refine is_ (Z0 (es:=Z6 a.fds) (hv:=none) (j:=(k:Int)) (sz:=1) (y:=.i x1) kr om (Za hx1) rfl) (irk 3 (.n 4 (.i k) (.n 5 (.i x1) .r)) (ie (ar (irk 2 (.n 15 (.b (x1 != 0)) .r) (ie (Zan (fun F h=>∃(w:Value),F=[(1,.p b1 0),(3,oInt (if x1≠0 then acc++[a.fst+k] else acc) w),(7,nInt a.fds),(8,.i a.fds.length),(9,.i k)]∧h=[.obj b1 [.i a.mat,.i a.fst,nInt a.fds,.b a.chg],.tail w 1]) (fun _ _=>rfl) ?_ ?_))))))
  ·refine ac (x1 != 0) bne_iff_ne (fun hc2=>?_) (fun hc2=>?_)
   ·refine az (iR 4 [(1,.p b1 0),(7,nInt a.fds),(8,.i a.fds.length),(9,.i k),(16,oInt acc v),(18,.i a.fst),(19,.i k)] [0] [b1] (ia ((a.fst+(k:Int))) ((a.fst)+((k:Int))) (iL (Z6 [(a.fst+(k:Int))]) 1 1 ?_)))
    intro v1
    refine irk 0 (.n 21 (nInt [(a.fst+(k:Int))]) (.p .r)) (ip 2 (Z6 (acc++[(a.fst+(k:Int))])) (Z6 acc) (Z6 [(a.fst+(k:Int))]) v none 1 (Z0x _) (Z0x _) (Z3n _) (by simp<;>omega) (by simp [Z24,Z6]) ?_)
    intro v2
    refine irk 1 (.n 3 (oInt (acc++[(a.fst+(k:Int))]) v2) .r) (ie ?_)
    exact ⟨[(1,.p b1 0),(3,oInt (if x1≠0 then acc++[a.fst+k] else acc) v2),(7,nInt a.fds),(8,.i a.fds.length),(9,.i k)],[.obj b1 [.i a.mat,.i a.fst,nInt a.fds,.b a.chg],.tail v2 1],⟨v2,rfl,rfl⟩,(wk [2,0] (fr (fc (x:=oInt (acc++[(a.fst+(k:Int))]) v2) (AVLe.slh _ (congrArg Z6 (by first|rfl|(rw [if_pos hc2])|(rw [if_neg hc2])|(simp [hc2];done)|(rw [Bool.eq_iff_iff];simp [hc2];done)|omega))) fl)))⟩
   refine ak ?_
   exact ⟨[(1,.p b1 0),(3,oInt (if x1≠0 then acc++[a.fst+k] else acc) v),(7,nInt a.fds),(8,.i a.fds.length),(9,.i k)],[.obj b1 [.i a.mat,.i a.fst,nInt a.fds,.b a.chg],.tail v 1],⟨v,rfl,rfl⟩,(wk [0,0] (fr (fc (x:=oInt acc v) (AVLe.slh _ (congrArg Z6 (by first|rfl|(rw [if_pos hc2])|(rw [if_neg hc2])|(simp [hc2];done)|(rw [Bool.eq_iff_iff];simp [hc2];done)|omega))) fl)))⟩
  rintro F h ⟨w,rfl,rfl⟩
  refine az (ia (((k+1:Nat):Int)) (((k:Int))+(1)) (ir 1 [(1,.p b1 0),(3,oInt (if x1≠0 then acc++[a.fst+k] else acc) w),(7,nInt a.fds),(8,.i a.fds.length),(9,.i (k+1:Nat))] (ie ?_)))
  exact ⟨_,_,_,ob,⟨k+1,(if x1≠0 then acc++[a.fst+k] else acc),w,ob,(by split<;>(try simp)<;>omega),(Zy6 hx1 c0_2),rfl,rfl,rfl⟩,(wk [0,0] (fr (fr (fr (fr (fc (x:=.i (k+1:Nat)) li fl))))))⟩
 refine ax 0 (ar (ir 2 [(2,oInt acc v)] (ie ?_)))
 exact at_ (r2 [] [oInt acc v] ⟨rfl,rfl⟩ (AVLe.sl _ (congrArg Z6 (Zuj om c0_2))))
theorem Za6 (b:Nat) (ga:Hd) (gb:Hd) (gc:Hd) (n:Normal) (L:LedB) (ln:List Int) (am:List Arm) (t:Int) (o:Int) (hlb:L.vars.length≤1000000000:=by exact ob) (hlk:LLen L:=by exact ob):Z3 Tryz.prog 161 [.p b 0,.i t,.i o] [.obj b [Z2 n.decls,nSg3 (n.routines.map Z4),nInt ln,nArm am,.h ga,.h gb,.h gc],rV ga L.vars,rV gb L.own,rV gc L.tok] (fun r h=>∃(wa:Hd) (wb:Hd) (wc:Hd),h=[.obj b [Z2 n.decls,nSg3 (n.routines.map Z4),nInt ln,nArm am,.h wa,.h wb,.h wc],rV wa ((L.grow t o (-1)).vars),rV wb ((L.grow t o (-1)).own),rV wc ((L.grow t o (-1)).tok)]):=by
 have hlk0:=hlk
 obtain ⟨e1,e2,e3,e4,e5⟩:=hlk0
 refine enter Tryz.func161 kr (n:=35) kr kr (ar (iR 6 [(0,.p b 0),(2,.i o),(6,.p b 0),(10,.h ga),(11,.i t)] [0] [b] (iL (Z6 [t]) 1 1 ?_)))
 intro v1
 refine irk 0 (.n 12 (nInt [t]) (.p .r)) (iVP 2 ga L.vars [t] none ?_)
 intro v2
 refine irk 2 (.n 15 (.p b 4) .r) (iS 2 b 4 [.h v2] [Z2 n.decls,nSg3 (n.routines.map Z4),nInt ln,nArm am,.h ga,.h gb,.h gc] [Z2 n.decls,nSg3 (n.routines.map Z4),nInt ln,nArm am,.h v2,.h gb,.h gc] (ie (ar (irK 6 (.n 16 (.p b 0) (.n 20 (.h gb) (.n 21 (.i o) .r))) [0] [b] (iL (Z6 [o]) 1 1 ?_)))))
 intro v3
 refine irk 0 (.n 22 (nInt [o]) (.p .r)) (iVP 4 gb L.own [o] none ?_)
 intro v4
 refine irk 2 (.n 25 (.p b 5) .r) (iS 2 b 5 [.h v4] [Z2 n.decls,nSg3 (n.routines.map Z4),nInt ln,nArm am,.h v2,.h gb,.h gc] [Z2 n.decls,nSg3 (n.routines.map Z4),nInt ln,nArm am,.h v2,.h v4,.h gc] (ie (az (iR 5 [(26,.p b 0),(30,.h gc)] [0] [b] (iL (Z6 [-1]) 1 1 ?_)))))
 intro v5
 refine irk 0 (.n 31 (nInt [-1]) (.p .r)) (iVP 6 gc L.tok [-1] none ?_)
 intro v6
 refine irk 2 (.n 34 (.p b 6) .r) (iS 2 b 6 [.h v6] [Z2 n.decls,nSg3 (n.routines.map Z4),nInt ln,nArm am,.h v2,.h v4,.h gc] [Z2 n.decls,nSg3 (n.routines.map Z4),nInt ln,nArm am,.h v2,.h v4,.h v6] (ie ?_))
 exact r2 [0,4,2,0] [] ⟨v2,v4,v6,rfl⟩ (lr _) (eq:=(rc (rv (xs:=(L.vars++[t])) ob (rv (xs:=(L.own++[o])) ob (rv (xs:=(L.tok++[-1])) ob rz)))))
theorem Zfd (b:Nat) (ga:Hd) (gb:Hd) (gc:Hd) (n:Normal) (L:LedB) (ln:List Int) (am:List Arm) (i:Int) (hlk:LLen L:=by exact ob) (hi:0≤i∧i<L.vars.length:=by exact ob) (hq:∀x∈L.own,-1000000000≤x∧x≤1000000000):Z3 Tryz.prog 164 [.p b 0,.i i] [.obj b [Z2 n.decls,nSg3 (n.routines.map Z4),nInt ln,nArm am,.h ga,.h gb,.h gc],rV ga L.vars,rV gb L.own,rV gc L.tok] (fun r h=>r=.b (decide (1≤gI L.own i))∧h=[.obj b [Z2 n.decls,nSg3 (n.routines.map Z4),nInt ln,nArm am,.h ga,.h gb,.h gc],rV ga ((decL L i).vars),rV gb ((decL L i).own),rV gc ((decL L i).tok)]):=by
 have hlk0:=hlk
 obtain ⟨e1,e2,e3,e4,e5⟩:=hlk0
 refine enter Tryz.func164 kr (n:=22) kr kr (ar (ir 1 [(0,.p b 0),(1,.i i)] (ie (ar (irK 5 (.n 8 (.h gb) (.n 9 (.i i) .r)) [0] [b] (is_ (vIdx 2 gb L.own i i.toNat (hq:=rfl)) ?_))))))
 obtain ⟨x1,hx1⟩:=Z8 (xs:=L.own) (j:=i.toNat) om
 have hxq:=hq _ (List.mem_of_getElem? hx1)
 have hgi:=Z68 hx1
 have hsl:(L.own.set i.toNat (x1-1)).length=L.own.length:=List.length_set
 refine ix_ (vGet 2 gb L.own i.toNat x1 hx1) (ia ((x1-1)) ((x1)-(1)) (is_ (vIdx 2 gb L.own i i.toNat (hq:=rfl)) (iVS 2 gb L.own i.toNat (x1-1) (ie (ar (iR 5 [(17,.h gb),(18,.i i)] [1] [b] (is_ (vIdx 0 gb (L.own.set i.toNat (x1-1)) i i.toNat (hq:=rfl)) ?_)))))))
 obtain ⟨x2,hx2⟩:=Z8 (xs:=(L.own.set i.toNat (x1-1))) (j:=i.toNat) om
 have hxe:x2=x1-1:=by rw [List.getElem?_set_self om] at hx2;exact (Option.some.inj hx2).symm
 refine ix_ (vGet 0 gb (L.own.set i.toNat (x1-1)) i.toNat x2 hx2) (ir 2 [(4,.b (decide (x2≥0)))] (ie ?_))
 exact at_ (r2 [1,1,0,0] [.b (decide (x2≥0))] ⟨rfl,rfl⟩ (lb (by rw [hxe,hgi,Bool.eq_iff_iff];simp)) (eq:=(rc (rv (xs:=L.vars) ob (rv (xs:=(L.own.set i.toNat (x1-1))) (by rw [decL,hgi]) (rv (xs:=L.tok) ob rz))))))
theorem Zlj (b:Nat) (ga:Hd) (gb:Hd) (gc:Hd) (n:Normal) (L:LedB) (ln:List Int) (am:List Arm) (hlb:L.vars.length≤1000000000:=by exact ob) (hlk:LLen L:=by exact ob):Z3 Tryz.prog 218 [.p b 0] [.obj b [Z2 n.decls,nSg3 (n.routines.map Z4),nInt ln,nArm am,.h ga,.h gb,.h gc],rV ga L.vars,rV gb L.own,rV gc L.tok] (fun r h=>∃(c:Nat) (wa:Hd) (wb:Hd) (wc:Hd),r=.p c 0∧h=[.obj c [Z2 n.decls,nSg3 (n.routines.map Z4),nInt ln,nArm am,.h wa,.h wb,.h wc],rV wa L.vars,rV wb L.own,rV wc L.tok,.obj b [Z2 n.decls,nSg3 (n.routines.map Z4),nInt ln,nArm am,.h ga,.h gb,.h gc],rV ga L.vars,rV gb L.own,rV gc L.tok]):=by
 have hlk0:=hlk
 obtain ⟨e1,e2,e3,e4,e5⟩:=hlk0
 refine enter Tryz.func218 kr (n:=25) kr kr (ar (ir 1 [(0,.p b 0)] (ie (ar (irK 3 (.n 6 (.agg [Z2 n.decls,nSg3 (n.routines.map Z4),nInt ln,nArm am,.h ga,.h gb,.h gc]) .r) [0] [b] (iA [nl,nl,nl,nl,nl,nl,nl] ?_))))))
 intro b1
 refine iS 0 b1 0 [Z2 n.decls,nSg3 (n.routines.map Z4),nInt ln,nArm am,.h ga,.h gb,.h gc] [nl,nl,nl,nl,nl,nl,nl] [Z2 n.decls,nSg3 (n.routines.map Z4),nInt ln,nArm am,.h ga,.h gb,.h gc] (ie (aD 21 (dtK (fuel:=9) 21 [0,1,2,3,5,6,7,8,10,11,12,13] (.n 10 (.h ga) (.n 15 (.h gb) (.n 20 (.h gc) .r))) [1,1,1] [b,b,b] (do_ 4 (dCL 4 [2] [1,1] [b,b] [rV ga L.vars] (Z9l L.vars) cl2 (gL (v:=ga) 0 gN) (Z1j Z2x) ?_)))))
 rintro _ _ ⟨v1,rfl,rfl⟩
 refine do_ 9 (dCL 9 [4] [1] [b] [rV gb L.own] (Z9l L.own) cl2 (gL (v:=gb) 0 gN) (Z1j Z2x) ?_)
 rintro _ _ ⟨v2,rfl,rfl⟩
 refine do_ 14 (dCL 14 [6] [] [] [rV gc L.tok] (Z9l L.tok) cl2 (gL (v:=gc) 0 gN) (Z1j Z2x) ?_)
 rintro _ _ ⟨v3,rfl,rfl⟩
 refine dtk (fuel:=5) 6 [15] (.n 22 (.p b1 4) .r) (do_ 16 (dS 16 6 [] [] b1 4 [.h v1] [Z2 n.decls,nSg3 (n.routines.map Z4),nInt ln,nArm am,.h ga,.h gb,.h gc] [Z2 n.decls,nSg3 (n.routines.map Z4),nInt ln,nArm am,.h v1,.h gb,.h gc] (dtk (fuel:=3) 4 [17] (.n 23 (.p b1 5) .r) (do_ 18 (dS 18 0 [] [] b1 5 [.h v2] [Z2 n.decls,nSg3 (n.routines.map Z4),nInt ln,nArm am,.h v1,.h gb,.h gc] [Z2 n.decls,nSg3 (n.routines.map Z4),nInt ln,nArm am,.h v1,.h v2,.h gc] (dtk (fuel:=1) 2 [19] (.n 24 (.p b1 6) .r) (do_ 20 (dS 20 0 [] [] b1 6 [.h v3] [Z2 n.decls,nSg3 (n.routines.map Z4),nInt ln,nArm am,.h v1,.h v2,.h gc] [Z2 n.decls,nSg3 (n.routines.map Z4),nInt ln,nArm am,.h v1,.h v2,.h v3] (de (ar (ir 1 [(2,.p b1 0)] (ie ?_))))))))))))
 exact at_ (r1 [0,4,2,0,3,2,1,0] ⟨b1,v1,v2,v3,rfl,rfl⟩)
theorem Zij (b:Nat) (ga:Hd) (gb:Hd) (gc:Hd) (n:Normal) (L:LedB) (ln:List Int) (am:List Arm) (i:Int) (hlk:LLen L) (har:ArmR n.decls L am) (hln:ln.length≤4294967296) (hal:am.length≤1000000000) (hlb:L.vars.length≤1000000000) (hd:∀j:Int,0≤j→j<L.vars.length→gI L.par j<j) (hi:0≤i∧i<L.vars.length) (ih:∀(i2:Int),(0≤i2∧i2<i)→Z3 Tryz.prog 217 [.p b 0,.i i2] [.obj b [Z2 n.decls,nSg3 (n.routines.map Z4),nInt ln,nArm am,.h ga,.h gb,.h gc],rV ga L.vars,rV gb L.own,rV gc L.tok] (fun r h=>r=.b (Z1h L ln i2)∧h=[.obj b [Z2 n.decls,nSg3 (n.routines.map Z4),nInt ln,nArm am,.h ga,.h gb,.h gc],rV ga L.vars,rV gb L.own,rV gc L.tok])):Z3 Tryz.prog 217 [.p b 0,.i i] [.obj b [Z2 n.decls,nSg3 (n.routines.map Z4),nInt ln,nArm am,.h ga,.h gb,.h gc],rV ga L.vars,rV gb L.own,rV gc L.tok] (fun r h=>r=.b (Z1h L ln i)∧h=[.obj b [Z2 n.decls,nSg3 (n.routines.map Z4),nInt ln,nArm am,.h ga,.h gb,.h gc],rV ga L.vars,rV gb L.own,rV gc L.tok]):=by
 have hlk0:=hlk
 obtain ⟨e1,e2,e3,e4,e5⟩:=hlk0
 refine enter Tryz.func217 kr (n:=51) kr kr (ar (ir 1 [(0,.p b 0),(1,.i i)] (ie (aq (ar (irK 5 (.n 10 (.h gb) (.n 11 (.i i) .r)) [0] [b] (is_ (vIdx 2 gb L.own i i.toNat (hq:=rfl)) ?_)))))))
 obtain ⟨x1,hx1⟩:=Z8 (xs:=L.own) (j:=i.toNat) om
 have hgi:=Z68 hx1
 refine ix_ (vGet 2 gb L.own i.toNat x1 hx1) (Z27 [(0,.p b 0),(1,.i i),(22,.b ((decide (x1>0))||(decide (i∈ln))))] [.obj b [Z2 n.decls,nSg3 (n.routines.map Z4),nInt ln,nArm am,.h ga,.h gb,.h gc],rV ga L.vars,rV gb L.own,rV gc L.tok] ?_ ?_)
 ·refine ir 2 [(0,.p b 0),(1,.i i),(15,.b (decide (x1>0)))] (ib (b:=(decide (x1>0))) 15 (fun hb1=>?_) (fun hb1=>?_))
  ·have hp1:x1>0:=(dq).1 hb1
   refine irk 7 (.n 22 (.b true) (.d (.k (.k .z)))) (ie ?_)
   exact wk [0,0,0,0] (fr (fr (fc (x:=.b true) (lb (by simp only [hb1];rfl)) fl)))
  have hp2:¬(x1>0):=Zd dq hb1
  refine irK 5 (.n 19 (nInt ln) (.n 20 (.i i) (.k (.k (.k .z))))) [0] [b] (ic [] (Z3a ln i) ?_)
  rintro _ _ ⟨rfl,rfl⟩
  refine irk 1 (.n 22 (.b (decide (i∈ln))) .r) (ie ?_)
  exact wk [0,0,0,0] (fr (fr (fc (x:=.b (decide (i∈ln))) (lb (by simp only [hb1];rfl)) fl)))
 refine ac ((decide (x1>0))||(decide (i∈ln))) (p:=(x1>0)∨(i∈ln)) (Zf dq dq) (fun hc1=>?_) (fun hc1=>?_)
 ·refine ar (ir 1 [(4,.b true)] (ie ?_))
  exact at_ (r2 [0,0,0,0] [.b true] ⟨rfl,rfl⟩ (lb (Zt8 (by rw [hgi];exact hc1)).symm))
 refine ak (aq (ar (iR 4 [(0,.p b 0),(1,.i i),(26,nArm am)] [0] [b] (io (.i am.length) (.i (((Z3w am).length:Nat):Int)) (li (by rw [Zel])) (irk 1 (.n 28 (.i 0) .r) (ie (ab 0 (al (fun m F h=>∃(k:Nat),(k≤am.length)∧(∀a∈am.take k,¬(a.fst≤i∧i<a.fst+a.fds.length))∧F=[(0,.p b 0),(1,.i i),(26,nArm am),(27,.i am.length),(28,.i k)]∧h=[.obj b [Z2 n.decls,nSg3 (n.routines.map Z4),nInt ln,nArm am,.h ga,.h gb,.h gc],rV ga L.vars,rV gb L.own,rV gc L.tok]∧m=am.length-k) _ _ _ ⟨0,ob,ob,rfl,rfl,rfl⟩ (wk [0,0,0,0] (fr (fr (fr (fr (fc (x:=.i 0) li fl)))))) ?_))))))))
 rintro m F h ⟨k,c0_0,c0_1,rfl,rfl,rfl⟩
 refine ar (irk 1 (.n 29 (.b (decide ((k:Int)<(am.length:Int)))) .r) (ie (aq (ac (decide ((k:Int)<(am.length:Int))) dq (fun hc2=>?_) (fun hc2=>?_)))))
 ·refine ak (aq (ab 1 (ar ?_)))
  obtain ⟨x2,hx2⟩:=Z8 (xs:=am) (j:=k) om
  have ham:=List.mem_of_getElem? hx2
  have hrg:=har.rng _ ham
  refine is_ (Z0 (es:=Z3w am) (hv:=none) (j:=(k:Int)) (sz:=4) (y:=.agg [.i x2.mat,.i x2.fst,nInt x2.fds,.b x2.chg]) kr om (Zlp hx2) rfl) (irk 1 (.n 31 (.agg [.i x2.mat,.i x2.fst,nInt x2.fds,.b x2.chg]) .r) (iA [.i 0,.i 0,nl,.b false] ?_))
  intro b1
  refine iS 0 b1 0 [.i x2.mat,.i x2.fst,nInt x2.fds,.b x2.chg] [.i 0,.i 0,nl,.b false] [.i x2.mat,.i x2.fst,nInt x2.fds,.b x2.chg] (ie (ar (Z27 [(0,.p b 0),(1,.i i),(6,.p b1 0),(26,nArm am),(27,.i am.length),(28,.i k),(45,.b ((decide (i≥x2.fst))&&(decide (i<(x2.fst+(x2.fds.length:Int))))))] [.obj b1 [.i x2.mat,.i x2.fst,nInt x2.fds,.b x2.chg],.obj b [Z2 n.decls,nSg3 (n.routines.map Z4),nInt ln,nArm am,.h ga,.h gb,.h gc],rV ga L.vars,rV gb L.own,rV gc L.tok] ?_ ?_)))
  ·refine iR 5 [(0,.p b 0),(1,.i i),(6,.p b1 0),(26,nArm am),(27,.i am.length),(28,.i k),(36,.b (decide (i≥x2.fst)))] [0] [b1] (ib (b:=(decide (i≥x2.fst))) 36 (fun hb2=>?_) (fun hb2=>?_))
   ·have hp3:i≥x2.fst:=(dq).1 hb2
    refine irK 5 (.n 37 (.i i) (.n 39 (.i x2.fst) (.n 41 (nInt x2.fds) (.k (.k (.k (.k (.k (.k (.k .z)))))))))) [0,0] [b1,b1] (io (.i x2.fds.length) (.i (((Z6 x2.fds).length:Nat):Int)) (li (by rw [Z5])) (ia ((x2.fst+(x2.fds.length:Int))) ((x2.fst)+((x2.fds.length:Int))) (irk 2 (.n 45 (.b (decide (i<(x2.fst+(x2.fds.length:Int))))) .r) (ie ?_))))
    exact wk [0,0,0,0,0] (fr (fr (fr (fr (fr (fr (fc (x:=.b (decide (i<(x2.fst+(x2.fds.length:Int))))) (lb (by simp only [hb2];rfl)) fl)))))))
   have hp4:¬(i≥x2.fst):=Zd dq hb2
   refine irk 9 (.n 45 (.b false) (.d (.k (.k (.k (.k (.k (.k .z)))))))) (ie ?_)
   exact wk [0,0,0,0,0] (fr (fr (fr (fr (fr (fr (fc (x:=.b false) (lb (by simp only [hb2];rfl)) fl)))))))
  refine ac ((decide (i≥x2.fst))&&(decide (i<(x2.fst+(x2.fds.length:Int))))) (p:=(i≥x2.fst)∧(i<(x2.fst+(x2.fds.length:Int)))) (Zk dq dq) (fun hc3=>?_) (fun hc3=>?_)
  ·refine ar (iR 3 [(46,.p b 0),(48,.i x2.mat)] [0] [b1] (ic [1,1,1,1] (ih x2.mat ob) ?_))
   rintro _ _ ⟨rfl,rfl⟩
   refine ir 1 [(4,.b (Z1h L ln x2.mat))] (ie ?_)
   have hpa:=har.par _ ham i hc3.1 hc3.2
   exact at_ (r2 [0,0,0,0] [.b (Z1h L ln x2.mat)] ⟨rfl,rfl⟩ (lb (Zxj hi hd (by rw [hgi];exact hc1) hpa hrg.1).symm))
  refine ak (az (ia (((k+1:Nat):Int)) (((k:Int))+(1)) (ir 1 [(0,.p b 0),(1,.i i),(26,nArm am),(27,.i am.length),(28,.i (k+1:Nat))] (ie ?_))))
  have hdr:=Z7 hx2
  exact ⟨_,_,_,ob,⟨k+1,ob,(by rw [Z1y hx2];exact fun a ha=>(List.mem_append.1 ha).elim (c0_1 a) (fun ha=>by rw [List.mem_singleton.1 ha];exact fun q=>hc3 ⟨q.1,q.2⟩)),rfl,rfl,rfl⟩,(wk [1,1,1,1] (fr (fr (fr (fr (fc (x:=.i (k+1:Nat)) li fl))))))⟩
 refine ax 0 (ar (ir 1 [(4,.b false)] (ie ?_)))
 have hpn:gI L.par i<0:=Int.not_le.1 fun h=>by
  obtain ⟨a,ha,q⟩:=har.non i hi.1 hi.2 h
  exact c0_1 a (by rw [List.take_of_length_le om];exact ha) q
 exact at_ (r2 [0,0,0,0] [.b false] ⟨rfl,rfl⟩ (lb (Zt7 (by rw [hgi];exact hc1) hpn).symm))
theorem Zga (b:Nat) (ga gb gc:Hd) (n:Normal) (L:LedB) (ln:List Int) (am:List Arm) (i:Int) (hlk:LLen L) (har:ArmR n.decls L am) (hln:ln.length≤4294967296) (hal:am.length≤1000000000) (hlb:L.vars.length≤1000000000)
  (hd:∀j:Int,0≤j→j<L.vars.length→gI L.par j<j) (hi:0≤i∧i<L.vars.length):Z3 Tryz.prog 217 [.p b 0,.i i] [.obj b [Z2 n.decls,nSg3 (n.routines.map Z4),nInt ln,nArm am,.h ga,.h gb,.h gc],rV ga L.vars,rV gb L.own,rV gc L.tok] (fun r h=>r=.b (Z1h L ln i)∧h=[.obj b [Z2 n.decls,nSg3 (n.routines.map Z4),nInt ln,nArm am,.h ga,.h gb,.h gc],rV ga L.vars,rV gb L.own,rV gc L.tok]):=by
 have key:∀m:Nat,∀j:Int,0≤j→j.toNat≤m→j<L.vars.length→Z3 Tryz.prog 217 [.p b 0,.i j] [.obj b [Z2 n.decls,nSg3 (n.routines.map Z4),nInt ln,nArm am,.h ga,.h gb,.h gc],rV ga L.vars,rV gb L.own,rV gc L.tok] (fun r h=>r=.b (Z1h L ln j)∧h=[.obj b [Z2 n.decls,nSg3 (n.routines.map Z4),nInt ln,nArm am,.h ga,.h gb,.h gc],rV ga L.vars,rV gb L.own,rV gc L.tok]):=by
  intro m
  induction m with
  | zero=>intro j h1 h2 h3;exact Zij b ga gb gc n L ln am j hlk har hln hal hlb hd ⟨h1,h3⟩ fun i2 q=>by omega
  | succ m ih=>intro j h1 h2 h3;exact Zij b ga gb gc n L ln am j hlk har hln hal hlb hd ⟨h1,h3⟩ fun i2 q=>ih i2 q.1 om om
 exact key i.toNat i hi.1 (Nat.le_refl _) hi.2
end Go.Abs
end
section
namespace Go.Proofs
open Go.RowKit Go.Shelf
attribute [local go_sem] Oper.semAt_some
structure ArmV where
 m:Int
 f:Int
 sa:Option Addr
 sl:Nat
 sc:Nat
 c:Bool
 deriving Inhabited
def ArmV.enc (a:ArmV):Value:=.agg #[.int .i64 a.m,.int .i64 a.f,.slice a.sa a.sl a.sc,.bool a.c]
def armG (zs:List ArmV) (i:Nat):ArmV:=zs[i]?.getD default
def dn (zs:List ArmV) (k:Nat):List (Nat × ArmV):=(List.range k).map fun j=>(zs.length-1-j,armG zs (zs.length-1-j))
theorem Zo8 (zs:List ArmV) (k:Nat):dn zs (k+1)=dn zs k++[(zs.length-1-k,armG zs (zs.length-1-k))]:=by simp [dn,List.range_succ]
theorem Zu0 (zs:List ArmV) (k:Nat):(dn zs k).length=k:=by simp [dn]
def Zfy (n₀:Nat) (W:World) (v:Value) (zs:List ArmV):Prop:=
 (∃a c,v=.slice a 0 c∧zs=[])∨∃b off cap,v=.slice (some ⟨b,off,none⟩) zs.length cap∧b<n₀∧∀j,j<zs.length →
  W.cell? ⟨b,off+j*4,none⟩=some (.int .i64 (armG zs j).m)∧W.cell? ⟨b,off+j*4+1,none⟩=some (.int .i64 (armG zs j).f) ∧
  W.cell? ⟨b,off+j*4+2,none⟩=some (.slice (armG zs j).sa (armG zs j).sl (armG zs j).sc)∧W.cell? ⟨b,off+j*4+3,none⟩=some (.bool (armG zs j).c)
theorem Zfy.below {n₀:Nat} {A B:World} {v:Value} {zs:List ArmV} (h:Below n₀ A B) (H:Zfy n₀ A v zs):Zfy n₀ B v zs:=by
 rcases H with H|⟨b,off,cap,e,hb,hc⟩
 ·exact .inl H
 ·refine .inr ⟨b,off,cap,e,hb,fun j hj=>?_⟩
  obtain ⟨h0,h1,h2,h3⟩:=hc j hj
  exact ⟨(h.cell (p:=⟨b,_,none⟩) hb).trans h0,(h.cell (p:=⟨b,_,none⟩) hb).trans h1,(h.cell (p:=⟨b,_,none⟩) hb).trans h2,(h.cell (p:=⟨b,_,none⟩) hb).trans h3⟩
set_option maxRecDepth 100000 in
set_option maxHeartbeats 2000000 in
theorem Zxn (F:Fence) (n:Nat) (h8:F.fn 165) (hro:F.round=none) (hn:1≤n) (l Bs n₀ b off cap:Nat) (zs:List ArmV) (hreach:zs.length≤1000000000) (hb:b<n₀) (J Jx:List (Nat × ArmV)→World→Prop)
  (hY:∀pre x W,J pre W→pre.length<zs.length→YieldAt F (n-1) Tryz.prog l #[.int .i64 ((x.1:Nat):Int),x.2.enc] W fun e W'=>
   (e=.returned (.bool true)∧J (pre++[x]) W'∧Below n₀ W W')∨(e=.returned (.bool false)∧Jx (pre++[x]) W'))
  (W:World) (hBn:Bs<n₀) (hBs:W.cell? ⟨Bs,0,none⟩=some (.slice (some ⟨b,off,none⟩) zs.length cap)) (hc:∀j,j<zs.length →
  W.cell? ⟨b,off+j*4,none⟩=some (.int .i64 (armG zs j).m)∧W.cell? ⟨b,off+j*4+1,none⟩=some (.int .i64 (armG zs j).f) ∧
  W.cell? ⟨b,off+j*4+2,none⟩=some (.slice (armG zs j).sa (armG zs j).sl (armG zs j).sc)∧W.cell? ⟨b,off+j*4+3,none⟩=some (.bool (armG zs j).c)) (h0:J [] W) :
  CallsIn F n Tryz.prog 165 #[.func (.yield l) #[] #[],.pointer (some ⟨Bs,0,none⟩)] W fun e W'=>(∃v,e=.returned v) ∧
   ((∃ys,ys=dn zs zs.length∧J ys W')∨(∃pre,(∃k,k≤zs.length∧pre=dn zs k)∧Jx pre W')):=by
 refine callsIn_of_wp Tryz.func165 rfl h8 ?_ hro
 simp only [Tryz.ntmps165,List.size_toArray,List.length_cons,List.length_nil,Nat.reduceAdd,Nat.reduceSub,Array.replicate_succ,Array.replicate_zero,List.push_toArray,List.append_toArray,List.nil_append,List.cons_append]
 gi_wp2
 gi_loopw [3] (fun i wr=>∃k:Nat,k≤zs.length∧i=.int .i64 ((zs.length:Int)-1-k)∧J (dn zs k) wr∧Below n₀ W wr)
  (fun i _=>(intOf i+1).toNat)
 case atStart=>exact ⟨0,Nat.zero_le _,by simp,h0,Below.refl _ _⟩
 case round=>
  obtain ⟨k,hk,rfl,hJs,hnx⟩:=hrel
  have hBx:wr.cell? ⟨Bs,0,none⟩=some (.slice (some ⟨b,off,none⟩) zs.length cap):=(hnx.cell (p:=⟨Bs,0,none⟩) hBn).trans hBs
  by_cases hlt:k<zs.length
  ·obtain ⟨q,hq⟩:∃q:Nat,(zs.length:Int)-1-k=(q:Int):=⟨zs.length-1-k,by omega⟩
   have hqk:zs.length-1-k=q:=by omega
   obtain ⟨g0,g1,g2,g3⟩:=hc q (by omega)
   have c0:=(hnx.cell (p:=⟨b,off+q*4,none⟩) hb).trans g0
   have c1:=(hnx.cell (p:=⟨b,off+q*4+1,none⟩) hb).trans g1
   have c2:=(hnx.cell (p:=⟨b,off+q*4+2,none⟩) hb).trans g2
   have c3:=(hnx.cell (p:=⟨b,off+q*4+3,none⟩) hb).trans g3
   obtain ⟨fn,tmps,assign,body,hy,hR⟩:=hY _ (q,armG zs q) wr hJs (by rw [Zu0];exact hlt)
   dsimp only [ArmV.enc] at hy
   rw [hq]
   have hql:(q:Int)<zs.length:=by omega
   gi_wp2
   refine hR.mono ?_
   rintro e W3 (⟨rfl,hJ3,hk3⟩|⟨rfl,hJx3⟩)
   ·gi_wp2
    go_roundw
    case rel=>exact ⟨k+1,by omega,by congr 1;omega,by rw [Zo8,hqk];exact hJ3,hnx.trans hk3⟩
    case measure=>simp [intOf]
   ·gi_wp2
    refine bodyPost_ret (results_none rfl _ _ _) rfl ?_
    exact ⟨⟨_,rfl⟩,.inr ⟨_,⟨k+1,by omega,by rw [Zo8,hqk]⟩,hJx3⟩⟩
  ·obtain rfl:k=zs.length:=by omega
   have hneg:¬(0≤(zs.length:Int)-1-zs.length):=by omega
   gi_wp2
   go_end0
   first|exact ⟨⟨_,rfl⟩,.inl ⟨_,rfl,hJs⟩⟩|exact ⟨⟨_,rfl⟩,.inl hJs⟩
set_option maxRecDepth 100000 in
set_option maxHeartbeats 1000000 in
theorem Zli (F:Fence) (n:Nat) (h8:F.fn 165) (hro:F.round=none) (l Bs:Nat) (a:Option Addr) (c:Nat) (J:List (Nat × ArmV)→World→Prop) (W:World) (hBs:W.cell? ⟨Bs,0,none⟩=some (.slice a 0 c)) (h0:J [] W) :
  CallsIn F n Tryz.prog 165 #[.func (.yield l) #[] #[],.pointer (some ⟨Bs,0,none⟩)] W fun e W'=>(∃v,e=.returned v)∧J [] W':=by
 refine callsIn_of_wp Tryz.func165 rfl h8 ?_ hro
 simp only [Tryz.ntmps165,List.size_toArray,List.length_cons,List.length_nil,Nat.reduceAdd,Nat.reduceSub,Array.replicate_succ,Array.replicate_zero,List.push_toArray,List.append_toArray,List.nil_append,List.cons_append]
 gi_wp2
 gi_loopw [3] (fun i wr=>i=.int .i64 (-1)∧J [] wr) (fun _ _=>0)
 case atStart=>exact ⟨rfl,h0⟩
 case round=>
  obtain ⟨rfl,hJs⟩:=hrel
  gi_wp2
  go_end0
  exact ⟨⟨_,rfl⟩,hJs⟩
set_option maxHeartbeats 1000000 in
theorem Z00f (F:Fence) (n:Nat) (h6:F.fn 122) (hro:F.round=none) (v:Value) (hv1:∃a l c,v=.slice a l c) (w:World) :
  CallsIn F n Tryz.prog 122 #[v] w fun e w'=>e=.returned (.func (.func 165) #[] #[.pointer (some ⟨w.heap.size,0,none⟩)])∧w'=w.alloc (.cells #[v] 91):=by
 obtain ⟨a,ll,c,rfl⟩:=hv1
 refine callsIn_of_wp Tryz.func122 rfl h6 ?_ hro
 simp only [Tryz.ntmps122,List.size_toArray,List.length_cons,List.length_nil,Nat.reduceAdd,Nat.reduceSub,Array.replicate_succ,Array.replicate_zero,List.push_toArray,List.append_toArray,List.nil_append,List.cons_append]
 gi_wp2
 go_ret
 exact ⟨rfl,rfl⟩
theorem Zr3 (F:Fence) (n:Nat) (h8:F.fn 165) (hro:F.round=none) (hn:1≤n) (Bs n₀:Nat) (v:Value) (zs:List ArmV) (hreach:zs.length≤1000000000) (w:World) (hBs:Bs<n₀) (hn₀:n₀≤w.heap.size)
  (hc:w.cell? ⟨Bs,0,none⟩=some v) (hI:Zfy n₀ w v zs) :
  SeqStopsK F n Tryz.prog 165 #[.pointer (some ⟨Bs,0,none⟩)] (fun x:Nat × ArmV=>#[Value.int .i64 ((x.1:Nat):Int),x.2.enc]) (Below n₀) (fun ys=>ys=dn zs zs.length) (fun pre=>∃k,k≤zs.length∧pre=dn zs k) zs.length w:=by
 intro l J Jx W hW _ _ hY h0
 have hc':=(hW.cell (p:=⟨Bs,0,none⟩) (Nat.lt_of_lt_of_le hBs hn₀)).trans hc
 rcases hI.below (hW.mono hn₀) with ⟨a,c,rfl,rfl⟩|⟨b,off,cap,rfl,hb,hcs⟩
 ·exact (Zli F n h8 hro l Bs a c J W hc' h0).mono fun e W' ⟨he,hj⟩=>⟨he,.inl ⟨_,rfl,hj⟩⟩
 ·exact Zxn F n h8 hro hn l Bs n₀ b off cap zs hreach hb J Jx hY W hBs hc' hcs h0
def Box4 (W:World) (B:Nat) (a:ArmV):Prop:=W.heap[B]? = some (.cells #[.int .i64 a.m,.int .i64 a.f,.slice a.sa a.sl a.sc,.bool a.c] 96 (0,0))
theorem Zjq {β:Type} (B:Nat) (f:β→ArmV):Own (fun s W=>Box4 W B (f s)):=fun s X Y row hs hg hrow=>
 (grownBy_keeps_cells hg hrow hs rfl).trans hs
theorem Box4.lt {W:World} {B:Nat} {a:ArmV} (h:Box4 W B a):B<W.heap.size:=(Array.getElem?_eq_some_iff.1 h).1
theorem Box4.alloc {W:World} {B:Nat} {a:ArmV} (h:Box4 W B a) (o:Obj):Box4 (W.alloc o) B a:=(Below.heap_alloc W o B h.lt).trans h
theorem Box4.other {W:World} {B B':Nat} {a:ArmV} (h:Box4 W B a) (hne:B≠B') (j:Nat) (u:Value):Box4 (W.setCell ⟨B',j,none⟩ u) B a:=(heap_setCell_other W ⟨B',j,none⟩ B u hne).trans h
theorem Box4.cells {W:World} {B:Nat} {a:ArmV} (h:Box4 W B a):W.cell? ⟨B,0,none⟩=some (.int .i64 a.m)∧W.cell? ⟨B,1,none⟩=some (.int .i64 a.f)∧W.cell? ⟨B,2,none⟩=some (.slice a.sa a.sl a.sc)∧W.cell? ⟨B,3,none⟩=some (.bool a.c):=by
 have h':W.heap[B]? = _:=h
 refine ⟨?_,?_,?_,?_⟩<;>simp [World.cell?,h']
theorem Box4.frozen {W:World} {B:Nat} {a:ArmV} (h:Box4 W B a) (j:Nat):W.frozen? ⟨B,j,none⟩=false:=by simp [World.frozen?,show W.heap[B]? = _ from h]
def w4 (W:World) (B:Nat) (a:ArmV):World:=(((W.setCell ⟨B,0,none⟩ (.int .i64 a.m)).setCell ⟨B,1,none⟩ (.int .i64 a.f)).setCell ⟨B,2,none⟩ (.slice a.sa a.sl a.sc)).setCell ⟨B,3,none⟩ (.bool a.c)
theorem Box4.put {W:World} {B:Nat} {a:ArmV} (b:ArmV) (h:Box4 W B a):Box4 (w4 W B b) B b:=
 heap_setCell_same _ B 3 _ 96 _ (heap_setCell_same _ B 2 _ 96 _ (heap_setCell_same _ B 1 _ 96 _ (heap_setCell_same _ B 0 _ 96 _ h)))
theorem Zqv (W:World) (B:Nat) (a:ArmV) (k:Nat) (h:k≠B):(w4 W B a).heap[k]? = W.heap[k]?:=
 (heap_setCell_other _ ⟨B,3,none⟩ k _ h).trans ((heap_setCell_other _ ⟨B,2,none⟩ k _ h).trans ((heap_setCell_other _ ⟨B,1,none⟩ k _ h).trans (heap_setCell_other _ ⟨B,0,none⟩ k _ h)))
theorem Zqu (W:World) (B:Nat) (a:ArmV):KeepsOthers W (w4 W B a):=(((KeepsOthers.setCell _ _ _).trans (KeepsOthers.setCell _ _ _)).trans (KeepsOthers.setCell _ _ _)).trans (KeepsOthers.setCell _ _ _)
theorem Zqt {n₀:Nat} {w W:World} {B:Nat} (a:ArmV) (h:Below n₀ w W) (hB:n₀≤B):Below n₀ w (w4 W B a):=
 (((h.setCell (p:=⟨B,0,none⟩) hB _).setCell (p:=⟨B,1,none⟩) hB _).setCell (p:=⟨B,2,none⟩) hB _).setCell (p:=⟨B,3,none⟩) hB _
set_option maxRecDepth 100000 in
set_option maxHeartbeats 4000000 in
theorem Z057 (F:Fence) (n:Nat) (h61:F.fn 61) (h122:F.fn 122) (h165:F.fn 165) (hro:F.round=none) (hn:6≤n) (v:Int) (av:Value) (zs:List ArmV) (hreach:zs.length≤1000000000) (w:World) (hav:∃a l c,av=.slice a l c) (hA:Zfy w.heap.size w av zs) :
  CallsIn F n Tryz.prog 61 #[av,.int .i64 v] w fun e W'=>((∃k,k<zs.length∧(armG zs (zs.length-1-k)).m=v∧(∀j,j<k→(armG zs (zs.length-1-j)).m≠v)∧e=.returned (.tuple #[(armG zs (zs.length-1-k)).enc,.bool true])) ∨
   ((∀j,j<zs.length→(armG zs (zs.length-1-j)).m≠v)∧e=.returned (.tuple #[.agg #[.int .i64 0,.int .i64 0,.slice none 0 0,.bool false],.bool false])))∧Below w.heap.size w W':=by
 have h1:1≤n:=by omega
 refine callsIn_of_wp_marks Tryz.func61 rfl h61 ?_ hro
 simp only [Tryz.ntmps61,List.size_toArray,List.length_cons,List.length_nil,Nat.reduceAdd,Nat.reduceSub,Array.replicate_succ,Array.replicate_zero,List.push_toArray,List.append_toArray,List.nil_append,List.cons_append]
 obtain ⟨aa,al,ac,rfl⟩:=hav
 gi_wp2_with (gi_at_call 122;refine (Z00f F (n-1) h122 hro _ ⟨_,_,_,rfl⟩ _).mono ?_;rintro e w' ⟨rfl,rfl⟩)
 obtain ⟨W0,hW0⟩:∃W0,(((w.alloc (.cells #[.int .i64 v] 3)).alloc (.cells #[.int .i64 0,.int .i64 0,.slice none 0 0,.bool false] 96)).alloc (.cells #[.bool false] 4)).alloc (.cells #[.slice aa al ac] 91)=W0:=⟨_,rfl⟩
 have hB0:Below w.heap.size w W0:=by rw [←hW0];exact ((((Below.refl _ w).alloc (Nat.le_refl _) _).alloc (by simp) _).alloc (by simp;omega) _).alloc (by simp;omega) _
 have hsz:W0.heap.size=w.heap.size+4:=by rw [←hW0];simp
 have bV:Boxed W0 w.heap.size 3 (.int .i64 v):=by rw [←hW0];exact (((Boxed.new w 3 (.int .i64 v)).alloc _).alloc _).alloc _
 have bR:Box4 W0 (w.heap.size+1) default:=by
  rw [←hW0]
  have h:Box4 ((w.alloc (.cells #[.int .i64 v] 3)).alloc (.cells #[.int .i64 0,.int .i64 0,.slice none 0 0,.bool false] 96)) (w.alloc (.cells #[.int .i64 v] 3)).heap.size default:=World.alloc_heap_new _ _
  rw [World.size_alloc] at h
  exact (h.alloc _).alloc _
 have bO:Boxed W0 (w.heap.size+1+1) 4 (.bool false):=by
  rw [←hW0]
  have h:=Boxed.new ((w.alloc (.cells #[.int .i64 v] 3)).alloc (.cells #[.int .i64 0,.int .i64 0,.slice none 0 0,.bool false] 96)) 4 (.bool false)
  simp only [World.size_alloc] at h
  exact h.alloc _
 have bA:Boxed W0 (w.heap.size+1+1+1) 91 (.slice aa al ac):=by
  rw [←hW0]
  have h:=Boxed.new (((w.alloc (.cells #[.int .i64 v] 3)).alloc (.cells #[.int .i64 0,.int .i64 0,.slice none 0 0,.bool false] 96)).alloc (.cells #[.bool false] 4)) 91 (.slice aa al ac)
  simp only [World.size_alloc] at h
  exact h
 have hA0:Zfy (w.heap.size+4) W0 (.slice aa al ac) zs:=by
  rcases hA.below hB0 with h|⟨b,off,cap,e,hb,hc⟩
  ·exact .inl h
  ·exact .inr ⟨b,off,cap,e,by omega,hc⟩
 rw [hW0]
 clear hW0
 refine wpIn_rangeFunc_ownH hro h1 (gf:=165) (lb:=#[.pointer (some ⟨w.heap.size+1+1+1,0,none⟩)]) rfl h165 (enters_of Tryz.func165 (by kernel_rfl) rfl)
  (Zr3 F (n-1) h165 hro (by omega) (w.heap.size+1+1+1) (w.heap.size+4) _ zs hreach W0 (by omega) (by omega) bA.cell hA0) belowK_t (belowK_b (by omega)) (Below.refl _ _) (fun _=>rfl)
  (fun pre W=>(((((∀x∈pre,x.2.m≠v)∧Boxed W w.heap.size 3 (.int .i64 v))∧Box4 W (w.heap.size+1) default)∧Boxed W (w.heap.size+1+1) 4 (.bool false))∧Boxed W (w.heap.size+1+1+1) 91 (.slice aa al ac))∧Below w.heap.size w W)
  (fun c pre W=>((∃pre0 x,(c=.ret∧pre=pre0++[x]∧x.2.m=v∧∀y∈pre0,y.2.m≠v)∧Box4 W (w.heap.size+1) x.2)∧Boxed W (w.heap.size+1+1) 4 (.bool true))∧Below w.heap.size w W)
  (OwnFrom.and (OwnFrom.and (OwnFrom.and (OwnFrom.and (OwnFrom.and (ownFrom_pure _ _) (Own.from (boxed_own _ _ _) _)) (Own.from (Zjq _ _) _)) (Own.from (boxed_own _ _ _) _)) (Own.from (boxed_own _ _ _) _)) (ownFrom_below (Nat.le_refl _) (by omega)))
  (fun c=>OwnFrom.and (OwnFrom.and (fun s X Y row hs hg hr=>by
   obtain ⟨pre0,x,h,hb⟩:=hs
   exact ⟨pre0,x,h,Zjq (w.heap.size+1) (fun (_:Unit)=>x.2) () X Y row hb hg (fun r e=>(hr r e).2)⟩) (Own.from (boxed_own _ _ _) _)) (ownFrom_below (Nat.le_refl _) (by omega)))
  ⟨⟨⟨⟨⟨by simp,bV⟩,bR⟩,bO⟩,bA⟩,hB0⟩
  (fun x a' W=>∃Bx,w.heap.size+1+1<Bx∧Box4 W Bx x.2∧a'={ tmps:=#[.slice aa al ac,.int .i64 v,undef,.pointer (some ⟨w.heap.size,0,none⟩),.pointer (some ⟨w.heap.size+1,0,none⟩),.pointer (some ⟨w.heap.size+1+1,0,none⟩),undef,.pointer (some ⟨Bx,0,none⟩),.slice aa al ac,.func (.func 165) #[] #[.pointer (some ⟨w.heap.size+1+1+1,0,none⟩)],.int .i64 ((x.1:Nat):Int),x.2.enc,undef,undef,undef,undef,undef,undef],defers:=[] })
  (fun x a' _ X Y row hs hg hr=>by obtain ⟨Bx,e1,e2,e3⟩:=hs;exact ⟨Bx,e1,Zjq Bx (fun (_:Unit)=>x.2) () X Y row e2 hg (fun r e=>(hr r e).2),e3⟩)
  ?assign ?body ?done ?stop
 case assign=>
  rintro l pre ⟨xi,x⟩ W K ⟨⟨⟨⟨⟨hp,bV1⟩,bR1⟩,bO1⟩,bA1⟩,hB1⟩ hK
  obtain ⟨xm,xf,xsa,xsl,xsc,xc⟩:=x
  dsimp only [ArmV.enc] at hK ⊢
  gi_wp2
  have hbA:=bA1.lt
  exact hK _ _ ((KeepsOthers.alloc _ _).from _) ((Below.refl _ W).alloc (by omega) _) ⟨⟨⟨⟨⟨hp,bV1.alloc _⟩,bR1.alloc _⟩,bO1.alloc _⟩,bA1.alloc _⟩,hB1.alloc hB1.size _⟩ ⟨W.heap.size,by omega,World.alloc_heap_new W _,rfl⟩
 case body=>
  rintro l pre ⟨xi,x⟩ a' W hl ⟨r,hr⟩ ⟨⟨⟨⟨⟨hp,bV1⟩,bR1⟩,bO1⟩,bA1⟩,hB1⟩ ⟨Bx,hBx,bX,rfl⟩ hlt
  obtain ⟨xm,xf,xsa,xsl,xsc,xc⟩:=x
  have cV:=bV1.cell
  obtain ⟨x0,x1,x2,x3⟩:=bX.cells
  dsimp only at x0 x1 x2 x3
  obtain ⟨r0,r1,r2,r3⟩:=bR1.cells
  have f0:=bR1.frozen 0
  have f1:=bR1.frozen 1
  have f2:=bR1.frozen 2
  have f3:=bR1.frozen 3
  have cO:=bO1.cell
  have fO:=bO1.frozen
  gi_wp2
  ·rename_i hxy
   have hxv:xm=v:=by first|exact hxy|exact eq_of_beq hxy|(simp at hxy;exact hxy)
   have b4:=bR1.put ⟨xm,xf,xsa,xsl,xsc,xc⟩
   have b5:Boxed (w4 W (w.heap.size+1) ⟨xm,xf,xsa,xsl,xsc,xc⟩) (w.heap.size+1+1) 4 (.bool false):=(Zqv W _ _ _ (by omega)).trans bO1
   have b6:Box4 ((w4 W (w.heap.size+1) ⟨xm,xf,xsa,xsl,xsc,xc⟩).setCell ⟨w.heap.size+1+1,0,none⟩ (.bool true)) (w.heap.size+1) ⟨xm,xf,xsa,xsl,xsc,xc⟩:=b4.other (by omega) 0 _
   exact ⟨((Zqu W (w.heap.size+1) ⟨xm,xf,xsa,xsl,xsc,xc⟩).trans (KeepsOthers.setCell _ _ _)).from _,⟨⟨pre,xi,⟨xm,xf,xsa,xsl,xsc,xc⟩,⟨rfl,rfl,hxv,fun a b h=>hp (a,b) h⟩,b6⟩,b5.set _⟩,(Zqt ⟨xm,xf,xsa,xsl,xsc,xc⟩ hB1 (by omega)).setCell (p:=⟨w.heap.size+1+1,0,none⟩) (by simp;omega) _⟩
  ·rename_i hxy
   exact ⟨KeepsFrom.refl _ _,Below.refl _ _,⟨⟨⟨⟨fun a b h=>(List.mem_append.1 h).elim (hp (a,b)) (fun e=>by simp at e;obtain ⟨rfl,rfl⟩:=e;simpa using hxy),bV1⟩,bR1⟩,bO1⟩,bA1⟩,hB1⟩
 case done=>
  rintro D ys W hD rfl ⟨⟨⟨⟨⟨hp,bV1⟩,bR1⟩,bO1⟩,bA1⟩,hB1⟩ hK
  obtain ⟨r0,r1,r2,r3⟩:=bR1.cells
  have f0:=bR1.frozen 0
  have f1:=bR1.frozen 1
  have f2:=bR1.frozen 2
  have f3:=bR1.frozen 3
  have cO:=bO1.cell
  have fO:=bO1.frozen
  gi_wp2
  have hK':=((Zqu W (w.heap.size+1) (⟨0,0,none,0,0,false⟩:ArmV)).trans (KeepsOthers.setCell _ ⟨w.heap.size+1+1,0,none⟩ (.bool false))).same D _ hK rfl
  refine ⟨by simp,.inl ⟨_,_,rfl,run_takeDeferred hK',?_⟩⟩
  have b4:=bR1.put (⟨0,0,none,0,0,false⟩:ArmV)
  have b5:Boxed (w4 W (w.heap.size+1) (⟨0,0,none,0,0,false⟩:ArmV)) (w.heap.size+1+1) 4 (.bool false):=(Zqv W _ _ _ (by omega)).trans bO1
  have b6:Box4 ((w4 W (w.heap.size+1) (⟨0,0,none,0,0,false⟩:ArmV)).setCell ⟨w.heap.size+1+1,0,none⟩ (.bool false)) (w.heap.size+1) (⟨0,0,none,0,0,false⟩:ArmV):=b4.other (by omega) 0 _
  have b7:=b5.set (.bool false)
  have n4:w.heap.size+1≠D:=by omega
  have n5:w.heap.size+1+1≠D:=by omega
  have b8:Box4 (((w4 W (w.heap.size+1) (⟨0,0,none,0,0,false⟩:ArmV)).setCell ⟨w.heap.size+1+1,0,none⟩ (.bool false)).putObj D (.deferred none)) (w.heap.size+1) (⟨0,0,none,0,0,false⟩:ArmV):=(World.putObj_heap_other n4).trans b6
  have b9:Boxed (((w4 W (w.heap.size+1) (⟨0,0,none,0,0,false⟩:ArmV)).setCell ⟨w.heap.size+1+1,0,none⟩ (.bool false)).putObj D (.deferred none)) (w.heap.size+1+1) 4 (.bool false):=(World.putObj_heap_other n5).trans b7
  obtain ⟨y0,y1,y2,y3⟩:=b8.cells
  have y4:=b9.cell
  dsimp only [w4] at y0 y1 y2 y3 y4
  refine ⟨.tuple #[.agg #[.int .i64 0,.int .i64 0,.slice none 0 0,.bool false],.bool false],?_,⟨.inr ⟨fun j hj=>hp (zs.length-1-j,armG zs (zs.length-1-j)) (List.mem_map.2 ⟨j,List.mem_range.2 hj,rfl⟩),rfl⟩,
   ((Zqt (⟨0,0,none,0,0,false⟩:ArmV) hB1 (by omega)).setCell (p:=⟨w.heap.size+1+1,0,none⟩) (by simp;omega) _).trans (belowK_b (w:=w) (Nat.le_refl _) _ D _ _ (by omega) hK' rfl rfl)⟩⟩
  simp [results,Tryz.f61,go_sem,y0,y1,y2,y3,y4]
 case stop=>
  rintro D c pre W hD hpre ⟨⟨⟨pre0,x,⟨rfl,he,hx,hy⟩,bR1⟩,bO1⟩,hB1⟩ hK
  gi_wp2
  refine ⟨by simp,.inl ⟨_,_,rfl,run_takeDeferred hK,?_⟩⟩
  have n4:w.heap.size+1≠D:=by omega
  have n5:w.heap.size+1+1≠D:=by omega
  have b8:Box4 (W.putObj D (.deferred none)) (w.heap.size+1) x.2:=(World.putObj_heap_other n4).trans bR1
  have b9:Boxed (W.putObj D (.deferred none)) (w.heap.size+1+1) 4 (.bool true):=(World.putObj_heap_other n5).trans bO1
  obtain ⟨y0,y1,y2,y3⟩:=b8.cells
  have y4:=b9.cell
  obtain ⟨k,hk,rfl⟩:=hpre
  obtain ⟨k',rfl⟩:∃k',k=k'+1:=by
   cases k with
   | zero=>simp [dn] at he
   | succ k'=>exact ⟨k',rfl⟩
  rw [Zo8] at he
  obtain ⟨e1,e2⟩:=List.append_inj' he rfl
  have e3:x=(zs.length-1-k',armG zs (zs.length-1-k')):=(List.cons.inj e2).1.symm
  subst e3
  refine ⟨.tuple #[(armG zs (zs.length-1-k')).enc,.bool true],?_,⟨.inl ⟨k',by omega,hx,fun j hj=>hy (zs.length-1-j,armG zs (zs.length-1-j)) (e1▸List.mem_map.2 ⟨j,List.mem_range.2 hj,rfl⟩),rfl⟩,
   hB1.trans (belowK_b (w:=w) (Nat.le_refl _) W D _ _ (by omega) hK rfl rfl)⟩⟩
  simp [results,Tryz.f61,go_sem,y0,y1,y2,y3,y4,ArmV.enc]
end Go.Proofs
end
section
namespace Go.Abs
open Go.Proofs
theorem Zpz {v:Int}:∀{am:List Arm} {i:Nat} {a:Arm},am[i]? = some a→a.mat=v→(∀j b,i<j→am[j]? = some b→b.mat≠v)→ofF am v=some a
 | [],_,_,h,_,_=>by simp at h
 | x::r,0,a,h,hm,hl=>by
  simp at h
  subst h
  have:ofF r v=none:=Zcr fun b hb=>by
   obtain ⟨j,hj⟩:=List.getElem?_of_mem hb
   exact hl (j+1) b om (by simpa using hj)
  rw [ofF,this]
  simp [hm]
 | x::r,i+1,a,h,hm,hl=>by
  have:ofF r v=some a:=Zpz (by simpa using h) hm fun j b hj hb=>hl (j+1) b om (by simpa using hb)
  rw [ofF,this]
def Zzs (w:World) (G:Prot) (b o:Nat) (a:Arm) (z:ArmV):Prop:=
 w.cell? ⟨b,o,none⟩=some (.int .i64 z.m)∧w.cell? ⟨b,o+1,none⟩=some (.int .i64 z.f)∧w.cell? ⟨b,o+2,none⟩=some (.slice z.sa z.sl z.sc)∧w.cell? ⟨b,o+3,none⟩=some (.bool z.c) ∧
  z.m=a.mat∧z.f=a.fst∧z.c=a.chg∧RV w G (nInt a.fds) (.slice z.sa z.sl z.sc)∧G b o
theorem Z02a {w:World} {G:Prot} {es:List AV} {hv:Option Value} {u:Value} (h:RV w G (.sl es hv) u):∃a l c,u=.slice a l c:=by
 cases h with
 | nil _=>exact ⟨_,_,_,rfl⟩
 | sl _ _ _=>exact ⟨_,_,_,rfl⟩
theorem Z00c {w:World} {G:Prot} {b o:Nat} {a:Arm} (h:RMem w G b o (lArm a)):∃z,Zzs w G b o a z:=by
 cases h with
 | cons c0 g0 r0 t=>cases t with
  | cons c1 _ r1 t=>cases t with
   | cons c2 _ r2 t=>cases t with
    | cons c3 _ r3 t=>
     have e0:=r0.val_inv;subst e0
     have e1:=r1.val_inv;subst e1
     have e3:=r3.val_inv;subst e3
     have hs:∃sa sl sc,∃u,u=Value.slice sa sl sc∧w.cell? ⟨b,o+2,none⟩=some u∧RV w G (nInt a.fds) u:=by
      obtain ⟨sa,sl,sc,e⟩:=Z02a r2
      exact ⟨sa,sl,sc,_,e,c2,r2⟩
     obtain ⟨sa,sl,sc,u,rfl,c2',r2'⟩:=hs
     exact ⟨⟨a.mat,a.fst,sa,sl,sc,a.chg⟩,c0,c1,c2',c3,rfl,rfl,rfl,r2',g0⟩
theorem Zpa {w:World} {G:Prot} {b k:Nat}:∀{o:Nat} {am:List Arm},REls w G k b o (Z3w am)→∃zs:List ArmV,zs.length=am.length∧∀(j:Nat) a,am[j]? = some a→Zzs w G b (o+j*4) a (armG zs j)
 | _,[],_=>⟨[],rfl,fun j a h=>by simp at h⟩
 | o,x::r,.cons hl h t=>by
  have hk:4=k:=hl
  subst hk
  obtain ⟨z,hz⟩:=Z00c h
  obtain ⟨zs,hlen,hzs⟩:=Zpa t
  refine ⟨z::zs,by simp [hlen],fun j a hj=>?_⟩
  cases j with
  | zero=>simp at hj;subst hj;simpa [armG] using hz
  | succ j=>
   have:=hzs j a (by simpa using hj)
   rw [show o+(j+1)*4=o+4+j*4 by omega]
   simpa [armG] using this
theorem Z00e (am:List Arm) (v:Int) (hal:am.length≤1000000000):Z3 Tryz.prog 61 [nArm am,.i v] [] (fun r h=>(∃(a:Arm),r=.tup [.agg [.i a.mat,.i a.fst,nInt a.fds,.b a.chg],.b true]∧h=[]∧ofF am v=some a)∨(r=.tup [.agg [.i 0,.i 0,oInt [] (.slice none 0 0),.b false],.b false]∧h=[]∧ofF am v=none)):=by
 intro w G vs ha hh
 obtain ⟨u,rfl,hu⟩:∃u,vs=[u,.int .i64 v]∧RV w G (nArm am) u:=by
  cases ha with
  | cons h1 t=>cases t with
   | cons h2 t=>cases t;have:=h2.val_inv;subst this;exact ⟨_,rfl,h1⟩
 obtain ⟨zs,hlen,hat,hav,hrel⟩:∃zs:List ArmV,zs.length=am.length∧Zfy w.heap.size w u zs∧(∃a l c,u=.slice a l c)∧∀(j:Nat) a,am[j]? = some a→(armG zs j).m=a.mat∧(armG zs j).f=a.fst∧(armG zs j).c=a.chg∧RV w G (nInt a.fds) (.slice (armG zs j).sa (armG zs j).sl (armG zs j).sc):=by
  have hu':RV w G (.sl (Z3w am) none) u:=hu
  generalize hes:Z3w am=es at hu'
  cases hu' with
  | nil _=>
   cases am with
   | nil=>exact ⟨[],rfl,.inl ⟨_,_,rfl,rfl⟩,⟨_,_,_,rfl⟩,fun j a h=>by simp at h⟩
   | cons _ _=>simp [Z3w] at hes
  | @sl _ _ b o k cap _ hc hm=>
   subst hes
   obtain ⟨zs,hlen,hzs⟩:=Zpa hm
   have hel:(Z3w am).length=zs.length:=by simp [Z3w,hlen]
   refine ⟨zs,hlen,?_,⟨_,_,_,rfl⟩,fun j a hj=>by obtain ⟨_,_,_,_,q1,q2,q3,q4,_⟩:=hzs j a hj;exact ⟨q1,q2,q3,q4⟩⟩
   cases am with
   | nil=>exact .inl ⟨_,_,rfl,List.eq_nil_of_length_eq_zero hlen⟩
   | cons x r=>
    refine .inr ⟨b,o,cap,by rw [hel],hh.lt b _ (hzs 0 x rfl).2.2.2.2.2.2.2.2,fun j hj=>?_⟩
    have hj2:j<(x::r).length:=by omega
    obtain ⟨q0,q1,q2,q3,_⟩:=hzs j _ (List.getElem?_eq_getElem hj2)
    exact ⟨q0,q1,q2,q3⟩
 refine (callsIn_wide.1 (Z057 Fence.wide 6 trivial trivial trivial rfl om v u zs om w hav hat)).mono ?_
 rintro e W' ⟨hres,hB⟩
 have hA:Agree G w W' G:=⟨fun b o hg=>hB.cell (p:=⟨b,o,none⟩) (hh.lt b o hg),fun _ _ h=>h⟩
 have hH:HOk W' G []:=⟨(fun r hr=>by cases hr),List.Pairwise.nil,(fun r hr=>by cases hr),fun b o hg=>Nat.lt_of_lt_of_le (hh.lt b o hg) hB.size⟩
 have hX:Ext w G [] W' G []:=⟨hB.os,hB.tape,hB.output,hB.size,fun _ _ h=>h,fun b hb=>.inl (hB.block b hb),fun _ _ _ h=>.inl h,fun _ _ _ h=>h⟩
 have hmn:∀j,j<zs.length→∃a,am[zs.length-1-j]? = some a:=fun j hj=>⟨_,List.getElem?_eq_getElem om⟩
 rcases hres with ⟨k,hk,hm,hlt,rfl⟩|⟨hno,rfl⟩
 ·obtain ⟨a,hga⟩:=hmn k hk
  obtain ⟨q1,q2,q3,q4⟩:=hrel _ a hga
  have hof:ofF am v=some a:=Zpz hga (q1▸hm) fun j b hj hb=>by
   have hjl:=(List.getElem?_eq_some_iff.1 hb).1
   have:=hlt (zs.length-1-j) om
   rw [show zs.length-1-(zs.length-1-j)=j by omega,(hrel j b hb).1] at this
   exact this
  refine ⟨_,.tup [.agg [.i a.mat,.i a.fst,nInt a.fds,.b a.chg],.b true],[],G,rfl,.inl ⟨a,rfl,rfl,hof⟩,?_,hH,hX⟩
  refine .tup (.cons (.agg (cs:=[_,_,_,_]) (.cons ?_ (.cons ?_ (.cons (q4.mono hA) (.cons ?_ .nil))))) (.cons .val .nil))
  ·rw [q1];exact .val
  ·rw [q2];exact .val
  ·rw [q3];exact .val
 ·have hof:ofF am v=none:=Zcr fun a ha=>by
   obtain ⟨j,hj⟩:=List.getElem?_of_mem ha
   have hjl:=(List.getElem?_eq_some_iff.1 hj).1
   have:=hno (zs.length-1-j) om
   rw [show zs.length-1-(zs.length-1-j)=j by omega,(hrel j a hj).1] at this
   exact this
  refine ⟨_,.tup [.agg [.i 0,.i 0,oInt [] (.slice none 0 0),.b false],.b false],[],G,rfl,.inr ⟨rfl,rfl,hof⟩,?_,hH,hX⟩
  exact .tup (.cons (.agg (cs:=[_,_,_,_]) (.cons .val (.cons .val (.cons (.nil (fun x hx=>(Option.some.inj hx).symm)) (.cons .val .nil))))) (.cons .val .nil))
end Go.Abs
end
