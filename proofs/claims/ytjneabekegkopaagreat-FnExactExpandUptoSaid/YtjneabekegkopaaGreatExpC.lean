/-
  A part of the proof of FnExactExpandUptoSaid (see the last file): no condition.
-/
import Derived.Test.YtjneabekegkopaaGreatExpB
import Derived.Test.YtjneabekegkopaaGreatRows
import Derived.Deep.Slices
import Derived.ChangeArms
import Derived.Test.YtjneabekegkopaaGreatProg
import Derived.RangeFuncNested
import Derived.RangeFuncBound
import Derived.RangeFuncCalls
import Derived.RangeFuncLeaves
import Derived.Shelf.Abstract
import Derived.Shelf.RegionOpen
import Derived.WalkKit
import Derived.OwnWalkIn
import Derived.TacticsInMore
import Derived.LoopNIn
import Derived.LoopIn
set_option linter.all false
set_option linter.unusedVariables false
set_option linter.unusedSimpArgs false
set_option linter.unusedSectionVars false
section
namespace Go.Abs
open Go.Proofs Go.Proofs.YtjneabekegkopaaGreat
section
variable {H:Type} {enc:TypeId × Value→H} {w:World}
def GA (w:World):Prot:=fun b _=>b<w.heap.size
abbrev Tr (enc:TypeId × Value→H) (w:World) (n:Nat) (t:TypeId) (cs:List Value) (x:DataW H × List MemPlace):Prop:=DataW.trod enc Tryz.prog w 0 (fun _=>true) true n t cs=some x
theorem Zj3 {w:World} {a:Addr} {v:Value} (h:w.cell? a=some v):a.block<w.heap.size∧a.spot=none:=by
 unfold World.cell? at h
 split at h
 ·rename_i c e fr hb
  split at h
  ·cases h
  ·rename_i hs
   exact ⟨(Array.getElem?_eq_some_iff.1 hb).1,by simpa using hs⟩
 ·cases h
theorem Zpg {α:Type} {c:α→Nat}:∀{xs:List α} {ds:List (DataW H)},xs.length=ds.length→(∀(i:Nat) a d,xs[i]? = some a→ds[i]? = some d→c a+1≤Rows.uptoBulk d)→(xs.map fun a=>c a+1).sum≤Rows.uptoBulkAll ds
 | [],[],_,_=>Nat.le_refl _
 | a::r,d::ds,hl,h=>by
  have h0:=h 0 a d rfl rfl
  have h1:=Zpg (c:=c) (xs:=r) (ds:=ds) (by simpa using hl) fun i a d ha hd=>h (i+1) a d (by simpa using ha) (by simpa using hd)
  rw [List.map_cons,List.sum_cons,Rows.uptoBulkAll]
  omega
theorem Zvw {α:Type} {f:α→AV} {G:Prot} {k b:Nat} (hf:∀x,(f x).leaves.length=k):∀{xs:List α} {o:Nat},(∀(i:Nat) a,xs[i]? = some a→RMem w G b (o+i*k) (f a).leaves)→REls w G k b o (xs.map f)
 | [],_,_=>.nil
 | x::r,o,h=>by
  refine .cons (hf x) (by have:=h 0 x rfl;simpa using this) (Zvw hf fun i a ha=>?_)
  have:=h (i+1) a (by simpa using ha)
  rw [show o+(i+1)*k=o+k+i*k by rw [Nat.add_mul];omega] at this
  exact this
theorem Zar {α:Type} [Inhabited α] {t e k:Nat} (ht:Tryz.prog.underlying t=some (.slice e)) (hk:Tryz.prog.cellsOf e=k) (h0:0<k) (f:α→AV) (hf:∀x,(f x).leaves.length=k) (c:α→Nat) (Q:α→Prop) {n:Nat} {cs:List Value} {x:DataW H × List MemPlace}
  (h:Tr enc w n t cs x) (el:∀m cs y,m<n→Tr enc w m e cs y→∃a:α,RCs w (GA w) (f a).leaves cs∧c a+1≤Rows.uptoBulk y.1∧Q a) :
  ∃(v:Value) (xs:List α),cs=[v]∧RV w (GA w) (.sl (xs.map f) none) v∧(xs.map fun a=>c a+1).sum+1≤Rows.uptoBulk x.1∧∀a∈xs,Q a:=by
 rcases DataW.trod_slice ht h with ⟨rfl,rfl⟩|⟨a,len,cap,elems,rest,m,rfl,rfl,rfl,_,hlc,_,hlen,hel,_,_⟩
 ·exact ⟨_,[],rfl,.nil (by simp),by simp [Rows.uptoBulk],by simp⟩
 ·rw [hk] at hel
  have hone:∀i,i<len→∃z:α,∃cs' y,w.cells? 0 (a.add (i*k)) k=some cs'∧elems[i]? = some y∧RCs w (GA w) (f z).leaves cs'∧c z+1≤Rows.uptoBulk y.1∧Q z:=by
   intro i hi
   have h1:=hel i hi
   rw [List.getElem?_eq_getElem om] at h1
   obtain ⟨cs',h2,h3⟩:=Option.bind_eq_some_iff.1 h1
   obtain ⟨z,hz1,hz2,hz3⟩:=el m cs' _ om h3
   exact ⟨z,cs',_,h2,List.getElem?_eq_getElem om,hz1,hz2,hz3⟩
  obtain ⟨V,hV⟩:=Go.Deep.choose_lt hone
  refine ⟨_,(List.range len).map V,rfl,?_,?_,?_⟩
  ·cases hl0:len with
   | zero=>exact .nil (by simp)
   | succ q=>
    have hsp:a.spot=none:=by
     obtain ⟨cs',y,g1,_⟩:=hV 0 om
     obtain ⟨_,g2,g3⟩:=World.cells?_some g1
     have g4:=g3 0 h0
     rw [List.getElem?_eq_getElem om] at g4
     have g5:=(Zj3 g4).2
     simpa [Addr.add] using g5
    obtain ⟨b,o,sp⟩:=a
    simp only at hsp
    subst hsp
    rw [←hl0]
    have hll:(((List.range len).map V).map f).length=len:=by simp
    have:=RV.sl (w:=w) (G:=GA w) (es:=((List.range len).map V).map f) (hv:=none) (b:=b) (o:=o) (k:=k) (cap:=cap) (by simp) (by rw [hll];exact hlc) (Zvw hf fun i z hz=>by
     have hi:i<len:=by have:=(List.getElem?_eq_some_iff.1 hz).1;simpa using this
     have hz':V i=z:=by simpa [hi] using hz
     obtain ⟨cs',y,g1,_,g2,_⟩:=hV i hi
     rw [hz'] at g2
     obtain ⟨_,g3,g4⟩:=World.cells?_some g1
     refine RMem.of_cells g2 fun j u hj=>?_
     have hjl:j<k:=by have:=(List.getElem?_eq_some_iff.1 hj).1;omega
     have g5:=(g4 j hjl).trans hj
     rw [Addr.add_lit,Addr.add_lit] at g5
     exact ⟨g5,(Zj3 g5).1⟩)
    rw [hll] at this
    exact this
  ·have:=Zpg (c:=c) (xs:=(List.range len).map V) (ds:=elems.map (·.1)) (by simp [hlen]) fun i z d hz hd=>by
    have hi:i<len:=by have:=(List.getElem?_eq_some_iff.1 hz).1;simpa using this
    have hz':V i=z:=by simpa [hi] using hz
    obtain ⟨cs',y,_,g1,_,g2,_⟩:=hV i hi
    rw [List.getElem?_map,g1] at hd
    simp only [Option.map_some,Option.some.injEq] at hd
    rw [←hd,←hz']
    exact g2
   simp only [Rows.uptoBulk]
   omega
  ·intro z hz
   obtain ⟨i,hi,rfl⟩:=List.mem_map.1 hz
   obtain ⟨_,_,_,_,_,_,g⟩:=hV i (List.mem_range.1 hi)
   exact g
theorem Zey {n:Nat} {cs:List Value} {x:DataW H × List MemPlace} (h:Tr enc w n 3 cs x):∃z:Int,cs=[.int .i64 z]∧Rows.uptoBulk x.1=1∧-9223372036854775808≤z∧z≤9223372036854775807:=by
 obtain ⟨z,rfl,rfl,hw⟩:=DataW.trod_int Tryz.underlying3 h
 refine ⟨z,rfl,rfl,?_⟩
 simpa [Lit.wf,IntKind.min,IntKind.max,IntKind.signed,IntKind.bits] using hw
theorem Zqt:∀xs:List Int,(xs.map fun _=>0+1).sum=xs.length
 | []=>rfl
 | _::r=>by rw [List.map_cons,List.sum_cons,Zqt r,List.length_cons];omega
theorem Zkp {n:Nat} {cs:List Value} {x:DataW H × List MemPlace} (h:Tr enc w n 49 cs x):∃(v:Value) (xs:List Int),cs=[v]∧RV w (GA w) (nInt xs) v∧xs.length+1≤Rows.uptoBulk x.1:=by
 obtain ⟨v,xs,h1,h2,h3,_⟩:=Zar Tryz.underlying49 (k:=1) kr om (fun z:Int=>AV.i z) (fun _=>rfl) (fun _=>0) (fun _=>True) h fun m cs y _ hy=>by
  obtain ⟨z,rfl,hb,_⟩:=Zey hy
  exact ⟨z,.cons .val .nil,Nat.le_of_eq hb.symm,trivial⟩
 have hs:=Zqt xs
 exact ⟨v,xs,h1,h2,by omega⟩
theorem Z02x {β:Type} {v:List β} (h:v.length=1):∃a,v=[a]:=by cases v with|nil=>simp at h|cons a r=>cases r with|nil=>exact ⟨a,rfl⟩|cons _ _=>simp at h
instance:Inhabited Con:=⟨⟨[]⟩⟩
instance:Inhabited Decl:=⟨⟨0,0,[]⟩⟩
instance:Inhabited Step:=⟨.mk 0 0 0 [] []⟩
instance:Inhabited Block:=⟨.mk [] 0⟩
instance:Inhabited Routine:=⟨⟨[],[],0,.mk [] 0⟩⟩
theorem fld {n:Nat} {cs:List Value} {fs:Array Field} {xs:List (DataW H × List MemPlace)} (hf:∀(i:Nat) (f:Field),fs[i]? = some f→DataW.trod enc Tryz.prog w 0 (fun _=>true) true n f.type ((cs.drop f.offset).take (Tryz.prog.cellsOf f.type))=xs[i]?)
  (i:Nat) (f:Field) (hi:fs[i]? = some f) {y:DataW H × List MemPlace} (hy:xs[i]? = some y) (k:Nat) (hk:Tryz.prog.cellsOf f.type=k):Tr enc w n f.type ((cs.drop f.offset).take k) y:=by
 subst hk
 exact (hf i f hi).trans hy
theorem c49:Tryz.prog.cellsOf 49=1:=by kernel_rfl
theorem c3:Tryz.prog.cellsOf 3=1:=by kernel_rfl
theorem Z031 {n:Nat} {cs:List Value} {x:DataW H × List MemPlace} (h:Tr enc w n 166 cs x):∃a:Con,RCs w (GA w) (lCon a) cs∧conC a+1≤Rows.uptoBulk x.1:=by
 obtain ⟨ys,m,rfl,rfl,hl,hyl,hf⟩:=DataW.trod_struct Tryz.underlying166 h
 have hl:cs.length=1:=hl.trans kr
 obtain ⟨v,rfl⟩:=Z02x hl
 obtain ⟨y0,rfl⟩:∃y0,ys=[y0]:=Z02x hyl
 have h0:Tr enc w m 49 [v] y0:=fld hf 0 _ rfl rfl 1 c49
 obtain ⟨v',xs,e,h2,h3⟩:=Zkp h0
 cases e
 refine ⟨⟨xs⟩,.cons h2 .nil,?_⟩
 simp only [Rows.uptoBulk,Rows.uptoBulkAll,List.map_cons,List.map_nil]
 show xs.length+1≤_
 omega
theorem c66:Tryz.prog.cellsOf 66=1:=by kernel_rfl
theorem c70:Tryz.prog.cellsOf 70=1:=by kernel_rfl
theorem c201:Tryz.prog.cellsOf 201=1:=by kernel_rfl
theorem c72:Tryz.prog.cellsOf 72=2:=by kernel_rfl
theorem c22:Tryz.prog.cellsOf 22=1:=by kernel_rfl
theorem c23:Tryz.prog.cellsOf 23=1:=by kernel_rfl
theorem Zya {β:Type} {v:List β} (h:v.length=2):∃a b,v=[a,b]:=by
 match v,h with
 | [a,b],_=>exact ⟨a,b,rfl⟩
theorem Z02t {β:Type} {v:List β} (h:v.length=3):∃a b c,v=[a,b,c]:=by
 match v,h with
 | [a,b,c],_=>exact ⟨a,b,c,rfl⟩
theorem Z03m {β:Type} {v:List β} (h:v.length=4):∃a b c d,v=[a,b,c,d]:=by
 match v,h with
 | [a,b,c,d],_=>exact ⟨a,b,c,d,rfl⟩
theorem Z00t {β:Type} {v:List β} (h:v.length=5):∃a b c d e,v=[a,b,c,d,e]:=by
 match v,h with
 | [a,b,c,d,e],_=>exact ⟨a,b,c,d,e,rfl⟩
theorem sum_cons:∀cs:List Con,(cs.map fun a=>conC a+1).sum=Z6i cs
 | []=>rfl
 | c::r=>by rw [List.map_cons,List.sum_cons,sum_cons r];unfold Z6i;rw [Za4,List.length_cons];omega
theorem Zn8:∀cs:List Decl,(cs.map fun a=>Z5i a+1).sum=Z31 cs
 | []=>rfl
 | c::r=>by rw [List.map_cons,List.sum_cons,Zn8 r];unfold Z31;rw [Z7f,List.length_cons];omega
theorem Zn9:∀cs:List Step,(cs.map fun a=>a.cst+1).sum=scsC cs
 | []=>by unfold scsC;rw [scs];rfl
 | c::r=>by rw [List.map_cons,List.sum_cons,Zn9 r];unfold scsC;rw [scs,List.length_cons];omega
theorem Zjj:∀cs:List Block,(cs.map fun a=>a.cst+1).sum=bcsC cs
 | []=>by unfold bcsC;rw [bcs];rfl
 | c::r=>by rw [List.map_cons,List.sum_cons,Zjj r];unfold bcsC;rw [bcs,List.length_cons];omega
theorem Zf2:∀cs:List Routine,(cs.map fun a=>rtC a+1).sum=rtsC cs
 | []=>rfl
 | c::r=>by rw [List.map_cons,List.sum_cons,Zf2 r];unfold rtsC;rw [rtsS,List.length_cons];omega
theorem Z012 {n:Nat} {cs:List Value} {x:DataW H × List MemPlace} (h:Tr enc w n 66 cs x):∃(v:Value) (xs:List Con),cs=[v]∧RV w (GA w) (nCon xs) v∧Z6i xs+1≤Rows.uptoBulk x.1:=by
 obtain ⟨v,xs,h1,h2,h3,_⟩:=Zar Tryz.underlying66 (k:=1) kr om aCon (fun _=>rfl) conC (fun _=>True) h fun m cs y _ hy=>by
  obtain ⟨a,h1,h2⟩:=Z031 hy
  exact ⟨a,h1,h2,trivial⟩
 rw [sum_cons] at h3
 exact ⟨v,xs,h1,h2,h3⟩
theorem Z013 {n:Nat} {cs:List Value} {x:DataW H × List MemPlace} (h:Tr enc w n 68 cs x):∃a:Decl,RCs w (GA w) (Z2i a) cs∧Z5i a+1≤Rows.uptoBulk x.1:=by
 obtain ⟨ys,m,rfl,rfl,hl,hyl,hf⟩:=DataW.trod_struct Tryz.underlying68 h
 have hl:cs.length=3:=hl.trans kr
 obtain ⟨v0,v1,v2,rfl⟩:=Z02t hl
 obtain ⟨y0,y1,y2,rfl⟩:∃a b c,ys=[a,b,c]:=Z02t hyl
 obtain ⟨z0,e0,b0,_⟩:=Zey (show Tr enc w m 3 [v0] y0 from fld hf 0 _ rfl rfl 1 c3)
 obtain ⟨z1,e1,b1,_⟩:=Zey (show Tr enc w m 3 [v1] y1 from fld hf 1 _ rfl rfl 1 c3)
 obtain ⟨u2,xs,e2,h2,b2⟩:=Z012 (show Tr enc w m 66 [v2] y2 from fld hf 2 _ rfl rfl 1 c66)
 cases e0;cases e1;cases e2
 refine ⟨⟨z0,z1,xs⟩,.cons .val (.cons .val (.cons h2 .nil)),?_⟩
 simp only [Rows.uptoBulk,Rows.uptoBulkAll,List.map_cons,List.map_nil]
 show Z6i xs+1≤_
 omega
theorem Zyi {n:Nat} {cs:List Value} {x:DataW H × List MemPlace} (h:Tr enc w n 22 cs x):∃(v:Value) (xs:List Decl),cs=[v]∧RV w (GA w) (Z2 xs) v∧Z31 xs+1≤Rows.uptoBulk x.1:=by
 obtain ⟨v,xs,h1,h2,h3,_⟩:=Zar Tryz.underlying22 (k:=3) kr om Z2q (fun _=>rfl) Z5i (fun _=>True) h fun m cs y _ hy=>by
  obtain ⟨a,h1,h2⟩:=Z013 hy
  exact ⟨a,h1,h2,trivial⟩
 rw [Zn8] at h3
 exact ⟨v,xs,h1,h2,h3⟩
theorem Zwj:∀{xs:List Step},(∀a∈xs,a.rng)→srng xs
 | [],_=>by rw [srng];trivial
 | x::r,h=>by rw [srng];exact ⟨h x (List.mem_cons_self ..),Zwj fun a ha=>h a (List.mem_cons_of_mem _ ha)⟩
theorem Zth:∀{xs:List Block},(∀a∈xs,a.rng)→brng xs
 | [],_=>by rw [brng];trivial
 | x::r,h=>by rw [brng];exact ⟨h x (List.mem_cons_self ..),Zth fun a ha=>h a (List.mem_cons_of_mem _ ha)⟩
theorem Z011:∀(n:Nat),(∀{cs:List Value} {x:DataW H × List MemPlace},Tr enc w n 203 cs x→∃a:Step,RCs w (GA w) (Z0j a) cs∧a.cst+1≤Rows.uptoBulk x.1∧a.rng) ∧
  (∀{cs:List Value} {x:DataW H × List MemPlace},Tr enc w n 72 cs x→∃a:Block,RCs w (GA w) (Z1b a) cs∧a.cst+1≤Rows.uptoBulk x.1∧a.rng):=by
 intro n
 induction n using Nat.strongRecOn with
 | ind n ih=>
  refine ⟨fun {cs x} h=>?_,fun {cs x} h=>?_⟩
  ·obtain ⟨ys,m,rfl,rfl,hl,hyl,hf⟩:=DataW.trod_struct Tryz.underlying203 h
   have hl:cs.length=5:=hl.trans kr
   obtain ⟨v0,v1,v2,v3,v4,rfl⟩:=Z00t hl
   obtain ⟨y0,y1,y2,y3,y4,rfl⟩:∃a b c d e,ys=[a,b,c,d,e]:=Z00t hyl
   obtain ⟨z0,e0,b0,_⟩:=Zey (show Tr enc w m 3 [v0] y0 from fld hf 0 _ rfl rfl 1 c3)
   obtain ⟨z1,e1,b1,r1⟩:=Zey (show Tr enc w m 3 [v1] y1 from fld hf 1 _ rfl rfl 1 c3)
   obtain ⟨z2,e2,b2,_⟩:=Zey (show Tr enc w m 3 [v2] y2 from fld hf 2 _ rfl rfl 1 c3)
   obtain ⟨u3,xs,e3,h3,b3⟩:=Zkp (show Tr enc w m 49 [v3] y3 from fld hf 3 _ rfl rfl 1 c49)
   obtain ⟨u4,bs,e4,h4,b4,q4⟩:=Zar Tryz.underlying201 (k:=2) c72 om Zk (fun _=>rfl) Block.cst Block.rng (show Tr enc w m 201 [v4] y4 from fld hf 4 _ rfl rfl 1 c201) fun m' cs y hm hy=>(ih m' om).2 hy
   cases e0;cases e1;cases e2;cases e3;cases e4
   rw [Zjj] at b4
   refine ⟨.mk z0 z1 z2 xs bs,.cons .val (.cons .val (.cons .val (.cons h3 (.cons (by rw [←Z42] at h4;exact h4) .nil)))),?_,?_⟩
   ·simp only [Rows.uptoBulk,Rows.uptoBulkAll,List.map_cons,List.map_nil]
    rw [Step.cst]
    unfold bcsC at b4
    omega
   ·rw [Step.rng]
    exact ⟨r1,Zth q4⟩
  ·obtain ⟨ys,m,rfl,rfl,hl,hyl,hf⟩:=DataW.trod_struct Tryz.underlying72 h
   have hl:cs.length=2:=hl.trans c72
   obtain ⟨v0,v1,rfl⟩:=Zya hl
   obtain ⟨y0,y1,rfl⟩:∃a b,ys=[a,b]:=Zya hyl
   obtain ⟨u0,xs,e0,h0,b0,q0⟩:=Zar Tryz.underlying70 (k:=5) kr om Z0q (fun _=>rfl) Step.cst Step.rng (show Tr enc w m 70 [v0] y0 from fld hf 0 _ rfl rfl 1 c70) fun m' cs y hm hy=>(ih m' om).1 hy
   obtain ⟨z1,e1,b1,_⟩:=Zey (show Tr enc w m 3 [v1] y1 from fld hf 1 _ rfl rfl 1 c3)
   cases e0;cases e1
   rw [Zn9] at b0
   refine ⟨.mk xs z1,.cons (by rw [←Z3i] at h0;exact h0) (.cons .val .nil),?_,?_⟩
   ·simp only [Rows.uptoBulk,Rows.uptoBulkAll,List.map_cons,List.map_nil]
    rw [Block.cst]
    unfold scsC at b0
    omega
   ·rw [Block.rng]
    exact Zwj q0
theorem Zs8 {n:Nat} {cs:List Value} {x:DataW H × List MemPlace} (h:Tr enc w n 74 cs x):∃a:Routine,RCs w (GA w) (Z1m a) cs∧rtC a+1≤Rows.uptoBulk x.1∧a.body.rng:=by
 obtain ⟨ys,m,rfl,rfl,hl,hyl,hf⟩:=DataW.trod_struct Tryz.underlying74 h
 have hl:cs.length=5:=hl.trans kr
 obtain ⟨v0,v1,v2,v3,v4,rfl⟩:=Z00t hl
 obtain ⟨y0,y1,y2,y3,rfl⟩:∃a b c d,ys=[a,b,c,d]:=Z03m hyl
 obtain ⟨u0,ps,e0,h0,b0⟩:=Zkp (show Tr enc w m 49 [v0] y0 from fld hf 0 _ rfl rfl 1 c49)
 obtain ⟨u1,ls,e1,h1,b1⟩:=Zkp (show Tr enc w m 49 [v1] y1 from fld hf 1 _ rfl rfl 1 c49)
 obtain ⟨z2,e2,b2,_⟩:=Zey (show Tr enc w m 3 [v2] y2 from fld hf 2 _ rfl rfl 1 c3)
 obtain ⟨b,h3,b3,q3⟩:=(Z011 m).2 (show Tr enc w m 72 [v3,v4] y3 from fld hf 3 _ rfl rfl 2 c72)
 cases e0;cases e1;cases e2
 refine ⟨⟨ps,ls,z2,b⟩,.cons h0 (.cons h1 (.cons .val h3)),?_,q3⟩
 simp only [Rows.uptoBulk,Rows.uptoBulkAll,List.map_cons,List.map_nil]
 show ps.length+(ls.length+b.cst)+1≤_
 omega
theorem Zvv {n:Nat} {cs:List Value} {x:DataW H × List MemPlace} (h:Tr enc w n 25 cs x):∃a:Normal,RCs w (GA w) (Zi a) cs∧Z4m a≤Rows.uptoBulk x.1∧∀r∈a.routines,r.body.rng:=by
 obtain ⟨ys,m,rfl,rfl,hl,hyl,hf⟩:=DataW.trod_struct Tryz.underlying25 h
 have hl:cs.length=2:=hl.trans kr
 obtain ⟨v0,v1,rfl⟩:=Zya hl
 obtain ⟨y0,y1,rfl⟩:∃a b,ys=[a,b]:=Zya hyl
 obtain ⟨u0,ds,e0,h0,b0⟩:=Zyi (show Tr enc w m 22 [v0] y0 from fld hf 0 _ rfl rfl 1 c22)
 obtain ⟨u1,rs,e1,h1,b1,q1⟩:=Zar Tryz.underlying23 (k:=5) kr om Z0o (fun _=>rfl) rtC (fun r=>r.body.rng) (show Tr enc w m 23 [v1] y1 from fld hf 1 _ rfl rfl 1 c23) fun m' cs y hm hy=>Zs8 hy
 cases e0;cases e1
 rw [Zf2] at b1
 refine ⟨⟨ds,rs⟩,.cons h0 (.cons h1 .nil),?_,q1⟩
 simp only [Rows.uptoBulk,Rows.uptoBulkAll,List.map_cons,List.map_nil]
 show Z31 ds+rtsC rs≤_
 omega
end
end Go.Abs
end
section
namespace Go.Abs
def GB (B:List Nat):Prot:=fun b _=>b∈B
def HB (B:List Nat) (v:Value):Prop:=∀g,v.ownBlock=some g→g∈B
def Z3j (w:World) (B:List Nat) (ts:List (Value × Nat)):Prop:=∀p∈ts,Zc4 w p.1 p.2∧HB B p.1
theorem Z3j.left {w:World} {B:List Nat} {a b:List (Value × Nat)} (h:Z3j w B (a++b)):Z3j w B a:=fun p hp=>h p (List.mem_append.2 (.inl hp))
theorem Z3j.right {w:World} {B:List Nat} {a b:List (Value × Nat)} (h:Z3j w B (a++b)):Z3j w B b:=fun p hp=>h p (List.mem_append.2 (.inr hp))
theorem Z3j.head {w:World} {B:List Nat} {v:Value} {k:Nat} {b:List (Value × Nat)} (h:Z3j w B ((v,k)::b)):Zc4 w v k∧HB B v:=h _ (List.mem_cons_self ..)
theorem Z3j.tail {w:World} {B:List Nat} {p:Value × Nat} {b:List (Value × Nat)} (h:Z3j w B (p::b)):Z3j w B b:=fun q hq=>h q (List.mem_cons_of_mem _ hq)
section
variable {w:World} {G:Prot} {B:List Nat}
def InB (w:World) (G:Prot) (B:List Nat) (x:AV):Prop:=∀u,RV w G x u→RV w (GB B) x u
def InL (w:World) (G:Prot) (B:List Nat) (ls:List AV):Prop:=∀x∈ls,InB w G B x
theorem Zdz:InL w G B []:=fun _ h=>by cases h
theorem Z3l {x:AV} {l:List AV} (h:InB w G B x) (t:InL w G B l):InL w G B (x::l):=fun y hy=>by
 rcases List.mem_cons.1 hy with rfl|hy
 ·exact h
 ·exact t y hy
theorem Zm5 (z:Int):InB w G B (.i z):=fun _ h=>by cases h;exact .val
theorem Zqd {b:Nat} (hb:b∈B):∀{o:Nat} {ls:List AV},InL w G B ls→RMem w G b o ls→RMem w (GB B) b o ls
 | _,_,_,.nil=>.nil
 | _,_,hi,.cons hc _ h t=>.cons hc hb (hi _ (List.mem_cons_self ..) _ h) (Zqd hb (fun x hx=>hi x (List.mem_cons_of_mem _ hx)) t)
theorem Zqc {b k:Nat} (hb:b∈B):∀{o:Nat} {es:List AV},(∀y∈es,InL w G B y.leaves)→REls w G k b o es→REls w (GB B) k b o es
 | _,_,_,.nil=>.nil
 | _,_,hi,.cons hl h t=>.cons hl (Zqd hb (hi _ (List.mem_cons_self ..)) h) (Zqc hb (fun x hx=>hi x (List.mem_cons_of_mem _ hx)) t)
theorem Ziw {es:List AV} {v:Value} (hb:HB B v) (hi:∀y∈es,InL w G B y.leaves):InB w G B (.sl es (some v)):=by
 intro u h
 have e:=h.header
 subst e
 cases h with
 | nil hq=>exact .nil hq
 | sl hq hc hm=>exact .sl hq hc (Zqc (hb _ (by rfl)) hi hm)
theorem Zfp {xs:List Int} {v:Value} (hb:HB B v):InB w G B (oInt xs v):=Ziw hb fun y hy=>by
 simp only [Z6,List.mem_map] at hy
 obtain ⟨z,_,rfl⟩:=hy
 exact Z3l (Zm5 z) Zdz
theorem Z00l {ls:List AV} (hi:InL w G B ls):InB w G B (.agg ls):=by
 intro u h
 cases h with
 | agg hc=>exact .agg (hc.clean (InB w G B) (fun x v hp hx=>hp v hx) hi)
theorem Z00m {c:HCon} (h:Z3j w B (Z3k c)):InL w G B (Zme c):=Z3l (Zfp h.head.2) Zdz
theorem Zur {cs:List HCon} (h:Z3j w B (Z13 cs)):∀y∈Z2l cs,InL w G B y.leaves:=by
 intro y hy
 simp only [Z2l,List.mem_map] at hy
 obtain ⟨c,hc,rfl⟩:=hy
 exact Z00m fun p hp=>h p (List.mem_flatMap.2 ⟨c,hc,hp⟩)
theorem Zy1 {d:HDecl} (h:Z3j w B (Z25 d)):InL w G B (Zeu d):=
 Z3l (Zm5 _) (Z3l (Zm5 _) (Z3l (Ziw (Z3j.right h).head.2 (Zur (Z3j.left h))) Zdz))
theorem Zus {ds:List HDecl} (h:Z3j w B (Z0f ds)):∀y∈Z18 ds,InL w G B y.leaves:=by
 intro y hy
 simp only [Z18,List.mem_map] at hy
 obtain ⟨c,hc,rfl⟩:=hy
 exact Zy1 fun p hp=>h p (List.mem_flatMap.2 ⟨c,hc,hp⟩)
mutual
theorem Zy2:∀(s:HStep),Z3j w B (Z1p s)→InL w G B (Zev s)
 | .mk op num into args av kids kv,h=>by
  rw [Z1p] at h
  exact Z3l (Zm5 _) (Z3l (Zm5 _) (Z3l (Zm5 _) (Z3l (Zfp h.head.2) (Z3l (Ziw h.tail.right.head.2 (Zix kids h.tail.left)) Zdz))))
theorem Zm6:∀(s:HBlock),Z3j w B (Z06 s)→InL w G B (Z7k s)
 | .mk steps sv result,h=>by
  rw [Z06] at h
  exact Z3l (Ziw h.right.head.2 (Zm8 steps h.left)) (Z3l (Zm5 _) Zdz)
theorem Zm8:∀(xs:List HStep),Z3j w B (Zs xs)→∀y∈Z1e xs,InL w G B y.leaves
 | [],_=>fun y hy=>by rw [Z1e] at hy;cases hy
 | s::r,h=>fun y hy=>by
  rw [Z1e] at hy
  rw [Zs] at h
  rcases List.mem_cons.1 hy with rfl|hy
  ·rw [Zcd];exact Zy2 s h.left
  ·exact Zm8 r h.right y hy
theorem Zix:∀(xs:List HBlock),Z3j w B (Zp xs)→∀y∈Z16 xs,InL w G B y.leaves
 | [],_=>fun y hy=>by rw [Z16] at hy;cases hy
 | s::r,h=>fun y hy=>by
  rw [Z16] at hy
  rw [Zp] at h
  rcases List.mem_cons.1 hy with rfl|hy
  ·rw [Zal];exact Zm6 s h.left
  ·exact Zix r h.right y hy
end
theorem Zok {r:HRoutine} (h:Z3j w B (Z0l r)):InL w G B (Z6m r):=by
 have h2:Z3j w B (Z06 r.body):=h.tail.tail
 have hb:=Zm6 (G:=G) r.body h2
 exact Z3l (Zfp h.head.2) (Z3l (Zfp h.tail.head.2) (Z3l (Zm5 _) hb))
theorem Zm7 {rs:List HRoutine} (h:Z3j w B (Ze rs)):∀y∈Z0s rs,InL w G B y.leaves:=by
 intro y hy
 simp only [Z0s,List.mem_map] at hy
 obtain ⟨c,hc,rfl⟩:=hy
 exact Zok fun p hp=>h p (List.mem_flatMap.2 ⟨c,hc,hp⟩)
theorem Zrs {y:HNormal} (h:Z3j w B (Zz y)):InB w G B (Z23 y):=
 Z00l (Z3l (Ziw h.right.head.2 (Zus h.left)) (Z3l (Ziw h.right.tail.right.head.2 (Zm7 h.right.tail.left)) Zdz))
end
def Z84 (w:World):Mem:=fun b o=>w.cell? ⟨b,o,none⟩
section
variable {w:World} {G:Prot} {B:List Nat}
theorem rm_i {g o:Nat} {z:Int} {xs:List AV} (h:RMem w G g o (.i z::xs)):isI (Z84 w) (g,o)∧RMem w G g (o+1) xs:=by
 cases h with
 | cons hc _ hx t=>exact ⟨⟨z,by have:=hx.val_inv;subst this;exact hc⟩,t⟩
theorem Zp0 {es:List AV} {v u:Value} {k:Nat} (h:RV w G (.sl es (some v)) u) (ht:Zc4 w v k) (hb:HB B v):HdOk B v es.length∧∃kk,REls w G kk (vblk v) 0 es:=by
 have e:=h.header
 subst e
 rcases ht with rfl|⟨g,len,cap,cur,e,rfl,h1,h2,h3⟩
 ·cases h with
  | nil _=>exact ⟨.inl ⟨rfl,rfl⟩,0,.nil⟩
 ·cases h with
  | nil _=>exact ⟨.inr ⟨g,cap,rfl,hb g rfl⟩,0,.nil⟩
  | sl _ hc hm=>exact ⟨.inr ⟨g,cap,rfl,hb g rfl⟩,_,hm⟩
theorem Zvx {g o:Nat} {es:List AV} {v:Value} {k:Nat} {xs:List AV} (h:RMem w G g o (.sl es (some v)::xs)) (ht:Zc4 w v k) (hb:HB B v) :
  skH (Z84 w) B g o v es.length∧(∃kk,REls w G kk (vblk v) 0 es)∧RMem w G g (o+1) xs:=by
 cases h with
 | cons hc _ hx t=>
  have e:=hx.header
  subst e
  obtain ⟨a,b⟩:=Zp0 hx ht hb
  exact ⟨⟨hc,a⟩,b,t⟩
theorem Z01e {g kk:Nat} {xs:List Int} (h:REls w G kk g 0 (Z6 xs)):skI (Z84 w) g xs.length:=by
 intro i hi
 have hx:(Z6 xs)[i]? = some (.i xs[i]):=by simp [Z6,hi]
 have hk:kk=1:=(h.len _ (List.mem_of_getElem? hx)).symm
 subst hk
 have:=h.get i _ hx
 rw [Nat.zero_add,Nat.mul_one] at this
 exact (rm_i this).1
theorem Zqo {g o:Nat} {v:Value} {xs:List Int} {k:Nat} {ls:List AV} (h:RMem w G g o (oInt xs v::ls)) (ht:Zc4 w v k∧HB B v) :
  (skH (Z84 w) B g o v xs.length∧skI (Z84 w) (vblk v) xs.length)∧RMem w G g (o+1) ls:=by
 obtain ⟨a,⟨kk,b⟩,c⟩:=Zvx h ht.1 ht.2
 rw [Z5] at a
 exact ⟨⟨a,Z01e b⟩,c⟩
theorem Z034 {g o:Nat} {c:HCon} (h:RMem w G g o (Zme c)) (ha:Z3j w B (Z3k c)):Z01c (Z84 w) B g o c:=(Zqo h ha.head).1
theorem Zwa {g kk:Nat}:∀{o:Nat} {cs:List HCon},REls w G kk g o (Z2l cs)→Z3j w B (Z13 cs)→Zac (Z84 w) B g o cs
 | _,[],_,_=>trivial
 | _,c::r,.cons hl h t,ha=>by
  have ha:Z3j w B (Z3k c++Z13 r):=ha
  have hk:1=kk:=hl
  subst hk
  exact ⟨Z034 h ha.left,Zwa t ha.right⟩
theorem Z01d {g o:Nat} {d:HDecl} (h:RMem w G g o (Zeu d)) (ha:Z3j w B (Z25 d)):Zw8 (Z84 w) B g o d:=by
 obtain ⟨h1,h⟩:=rm_i h
 obtain ⟨h2,h⟩:=rm_i h
 obtain ⟨h3,⟨_,h4⟩,_⟩:=Zvx h (Z3j.right ha).head.1 (Z3j.right ha).head.2
 rw [Zjt] at h3
 exact ⟨h1,h2,h3,Zwa h4 (Z3j.left ha)⟩
theorem Zqn {g kk:Nat}:∀{o:Nat} {cs:List HDecl},REls w G kk g o (Z18 cs)→Z3j w B (Z0f cs)→Z88 (Z84 w) B g o cs
 | _,[],_,_=>trivial
 | _,c::r,.cons hl h t,ha=>by
  have ha:Z3j w B (Z25 c++Z0f r):=ha
  have hk:3=kk:=hl
  subst hk
  exact ⟨Z01d h ha.left,Zqn t ha.right⟩
mutual
theorem Z01f {g o:Nat}:∀{s:HStep},RMem w G g o (Zev s)→Z3j w B (Z1p s)→Z8n (Z84 w) B g o s
 | .mk _ _ _ _ _ _ _,h,ha=>by
  rw [Z1p] at ha
  rw [Z8n]
  obtain ⟨h1,h⟩:=rm_i h
  obtain ⟨h2,h⟩:=rm_i h
  obtain ⟨h3,h⟩:=rm_i h
  obtain ⟨h4,h⟩:=Zqo h ha.head
  obtain ⟨h5,⟨_,h6⟩,_⟩:=Zvx h ha.tail.right.head.1 ha.tail.right.head.2
  rw [Zgl] at h5
  exact ⟨⟨h1,h2,h3⟩,h4,h5,Zn2 h6 ha.tail.left⟩
theorem Zyr {g o:Nat}:∀{s:HBlock},RMem w G g o (Z7k s)→Z3j w B (Z06 s)→Z66 (Z84 w) B g o s
 | .mk _ _ _,h,ha=>by
  rw [Z06] at ha
  rw [Z66]
  obtain ⟨h5,⟨_,h6⟩,h⟩:=Zvx h ha.right.head.1 ha.right.head.2
  rw [Zb5] at h5
  exact ⟨⟨h5,Zkt h6 ha.left⟩,(rm_i h).1⟩
theorem Zkt {g kk:Nat}:∀{o:Nat} {xs:List HStep},REls w G kk g o (Z1e xs)→Z3j w B (Zs xs)→Z2o (Z84 w) B g o xs
 | _,[],_,_=>by rw [Z2o];trivial
 | _,s::r,h,ha=>by
  rw [Z1e] at h
  rw [Zs] at ha
  rw [Z2o]
  cases h with
  | cons hl h t=>
   rw [Zcd] at hl h
   have hk:5=kk:=hl
   subst hk
   exact ⟨Z01f h ha.left,Zkt t ha.right⟩
theorem Zn2 {g kk:Nat}:∀{o:Nat} {xs:List HBlock},REls w G kk g o (Z16 xs)→Z3j w B (Zp xs)→Z2f (Z84 w) B g o xs
 | _,[],_,_=>by rw [Z2f];trivial
 | _,s::r,h,ha=>by
  rw [Z16] at h
  rw [Zp] at ha
  rw [Z2f]
  cases h with
  | cons hl h t=>
   rw [Zal] at hl h
   have hk:2=kk:=hl
   subst hk
   exact ⟨Zyr h ha.left,Zn2 t ha.right⟩
end
theorem Zsl {g o:Nat} {r:HRoutine} (h:RMem w G g o (Z6m r)) (ha:Z3j w B (Z0l r)):Zd5 (Z84 w) B g o r:=by
 have ha2:Z3j w B (Z06 r.body):=ha.tail.tail
 rw [Zao] at ha2
 obtain ⟨h1,h⟩:=Zqo h ha.head
 obtain ⟨h2,h⟩:=Zqo h ha.tail.head
 obtain ⟨h3,h⟩:=rm_i h
 obtain ⟨h5,⟨_,h6⟩,h⟩:=Zvx h ha2.right.head.1 ha2.right.head.2
 rw [Zb5] at h5
 exact ⟨h1,h2,h3,⟨h5,Zkt h6 ha2.left⟩,(rm_i h).1⟩
theorem Zhe {g kk:Nat}:∀{o:Nat} {cs:List HRoutine},REls w G kk g o (Z0s cs)→Z3j w B (Ze cs)→Z4c (Z84 w) B g o cs
 | _,[],_,_=>trivial
 | _,c::r,.cons hl h t,ha=>by
  have ha:Z3j w B (Z0l c++Ze r):=ha
  have hk:5=kk:=hl
  subst hk
  exact ⟨Zsl h ha.left,Zhe t ha.right⟩
def nv (y:HNormal):Value:=.agg #[y.dv,y.rv]
def hdOf:Value→Hd
 | .slice a l c=>⟨a,l,c⟩
 | _=>⟨none,0,0⟩
abbrev av (y:HNormal):AV:=.agg [.h (hdOf y.dv),.h (hdOf y.rv)]
def HdY (y:HNormal):Prop:=(hdOf y.dv).v=y.dv∧(hdOf y.rv).v=y.rv
theorem HdOk.of {B:List Nat} {v:Value} {n:Nat} (h:HdOk B v n):(hdOf v).v=v:=by
 rcases h with ⟨rfl,_⟩|⟨g,cap,rfl,_⟩<;>rfl
theorem Ziv {m:Mem} {B:List Nat} {y:HNormal} (h:Z46 m B y):HdY y:=⟨h.1.1.of,h.2.1.of⟩
theorem Zta {y:HNormal} (h:HdY y):av y=.agg [.val y.dv,.val y.rv]:=by
 show AV.agg [.val (hdOf y.dv).v,.val (hdOf y.rv).v]=_
 rw [h.1,h.2]
theorem Z015 {y:HNormal} {u:Value} (h:RV w G (Z23 y) u):u=nv y:=by
 cases h with
 | agg hc=>cases hc with
  | cons h1 t=>cases t with
   | cons h2 t=>cases t;rw [h1.header,h2.header];rfl
theorem Zwb {y:HNormal} {u:Value} (h:RV w G (Z23 y) u) (ha:Z3j w B (Zz y)):Z46 (Z84 w) B y:=by
 cases h with
 | agg hc=>cases hc with
  | cons h1 t=>cases t with
   | cons h2 t=>
    obtain ⟨a1,_,a2⟩:=Zp0 h1 ha.right.head.1 ha.right.head.2
    obtain ⟨b1,_,b2⟩:=Zp0 h2 ha.right.tail.right.head.1 ha.right.tail.right.head.2
    rw [Zhv] at a1
    rw [Zdt] at b1
    exact ⟨⟨a1,Zqn a2 ha.left⟩,b1,Zhe b2 ha.right.tail.left⟩
end
def Zx6 (B:List Nat) (m:Mem) (x:AV) (u:Value):Prop:=
 ∀w:World,(∀b∈B,∃cs e,w.heap[b]? = some (.cells cs e (0,0))∧∀o,cs[o]? = m b o)→RV w (GB B) x u
def RepN (S:List Nat) (M:Mem) (y:HNormal):Prop:=Zx6 S M (Z23 y) (nv y)∧HdY y
theorem Zxd {ts:List (Value × Nat)} {p:Value × Nat} (h:p∈ts):HB (blks ts) p.1:=fun _ hg=>List.mem_filterMap.2 ⟨p,h,hg⟩
theorem Zzy {w:World} {ts:List (Value × Nat)} (h:∀p∈ts,Zc4 w p.1 p.2) (hp:ts.Pairwise (fun p q=>∀b o,Zhn p.1 p.2 b o→Zhn q.1 q.2 b o→False)):(blks ts).Nodup:=by
 refine List.pairwise_filterMap.2 (hp.imp_of_mem ?_)
 rintro ⟨v,k⟩ ⟨v',k'⟩ hm hm' hd b hb b' hb' rfl
 rcases h _ hm with e|⟨g,len,cap,cur,el,e,_⟩
 ·simp only at e;subst e;simp [Value.ownBlock] at hb
 rcases h _ hm' with e'|⟨g',len',cap',cur',el',e',_⟩
 ·simp only at e';subst e';simp [Value.ownBlock] at hb'
 simp only at e e'
 subst e;subst e'
 simp only [Value.ownBlock,Option.some.injEq] at hb hb'
 subst hb;subst hb'
 exact hd g' (len*k+len'*k') ⟨rfl,Nat.le_add_right _ _⟩ ⟨rfl,Nat.le_add_left _ _⟩
theorem thaw {w0 w:World} {G0 G':Prot} {y:HNormal} {u:Value} (hh0:HOk w0 G0 []) (hx:Ext w0 G0 [] w G' [.many (Zz y)]) (hh:HOk w G' [.many (Zz y)]) (hv:RV w G' (Z23 y) u) :
  HOk w G0 [.own (blks (Zz y)) (Z84 w)]∧Ext w0 G0 [] w G0 [.own (blks (Zz y)) (Z84 w)]∧Z46 (Z84 w) (blks (Zz y)) y∧(Z0c y).Nodup ∧
   Zx6 (blks (Zz y)) (Z84 w) (Z23 y) (nv y):=by
 obtain ⟨t1,t2⟩:=hh.ok _ (List.mem_singleton.2 rfl)
 have ha:Z3j w (blks (Zz y)) (Zz y):=fun p hp=>⟨t1 p hp,Zxd hp⟩
 have hcells:∀b∈blks (Zz y),∃cs e,w.heap[b]? = some (.cells cs e (0,0))∧∀o,cs[o]? = Z84 w b o:=by
  intro b hb
  obtain ⟨p,hp,hpb⟩:=List.mem_filterMap.1 hb
  rcases t1 p hp with e|⟨g,len,cap,cur,el,e,h1,_⟩
  ·rw [e] at hpb;simp [Value.ownBlock] at hpb
  ·rw [e] at hpb
   simp only [Value.ownBlock,Option.some.injEq] at hpb
   subst hpb
   exact ⟨cur,el,h1,fun o=>(cell_of_row w g o cur el (0,0) h1).symm⟩
 have hfresh:∀b∈blks (Zz y),w0.heap.size≤b:=by
  intro b hb
  obtain ⟨p,hp,hpb⟩:=List.mem_filterMap.1 hb
  rcases t1 p hp with e|⟨g,len,cap,cur,el,e,h1,_⟩
  ·rw [e] at hpb;simp [Value.ownBlock] at hpb
  ·have e':=e
   rw [e] at hpb
   simp only [Value.ownBlock,Option.some.injEq] at hpb
   subst hpb
   refine Nat.le_of_not_lt fun hlt=>?_
   obtain ⟨r,hr,_⟩:=hx.newfp g (len*p.2) hlt ⟨_,List.mem_singleton.2 rfl,p,hp,by rw [e'];exact ⟨rfl,Nat.le_refl _⟩⟩
   cases hr
 have hsk:=Zwb hv ha
 have hrv:=Zrs ha _ hv
 rw [Z015 hv] at hrv
 refine ⟨⟨fun r hr=>?_,List.pairwise_singleton _ _,fun r hr b o hf hg=>?_,fun b o hg=>Nat.lt_of_lt_of_le (hh0.lt b o hg) hx.size⟩,
  ⟨hx.os,hx.tape,hx.output,hx.size,fun _ _ h=>h,hx.same,fun _ _ _ h=>.inl h,fun b o hb hf=>?_⟩,hsk,Znm hsk (Zzy t1 t2),fun w' hw'=>?_⟩
 ·rw [List.mem_singleton.1 hr]
  exact hcells
 ·rw [List.mem_singleton.1 hr] at hf
  have h1:=hfresh b hf
  have h2:=hh0.lt b o hg
  omega
 ·obtain ⟨r,hr,hf⟩:=hf
  rw [List.mem_singleton.1 hr] at hf
  have h1:=hfresh b hf
  omega
 ·refine hrv.mono ⟨fun b o hb=>?_,fun _ _ h=>h⟩
  obtain ⟨cs,e,h1,h2⟩:=hcells b hb
  obtain ⟨cs',e',h1',h2'⟩:=hw' b hb
  rw [cell_of_row w b o cs e (0,0) h1,cell_of_row w' b o cs' e' (0,0) h1',h2,h2']
theorem Z3.thaw {P:Program} {f:FuncId} {args:List AV} {Q:HNormal→Prop} (H:Z3 P f args [] (fun r h=>∃y:HNormal,r=Z23 y∧h=[.many (Zz y)]∧Q y)) :
  Z3 P f args [] (fun r h=>∃(y:HNormal) (S:List Nat) (M:Mem),r=av y∧h=[.own S M]∧(Q y∧Z46 M S y∧(Z0c y).Nodup∧RepN S M y)):=by
 intro w G vs ha hh
 refine (H w G vs ha hh).mono ?_
 rintro e w' ⟨v,r,h',G',rfl,⟨y,rfl,rfl,hq⟩,hv,hh',hx⟩
 obtain ⟨a1,a2,a3,a4,a5⟩:=Go.Abs.thaw hh hx hh' hv
 rw [Z015 hv]
 exact ⟨_,_,_,_,rfl,⟨y,_,_,rfl,rfl,hq,a3,a4,a5,Ziv a3⟩,by rw [Zta (Ziv a3)];exact .agg (.cons .val (.cons .val .nil)),a1,a2⟩
theorem Z3.thaw2 {P:Program} {f:FuncId} {args:List AV} {c:Bool} {Q:HNormal→Prop} (H:Z3 P f args [] (fun r h=>∃y:HNormal,r=.tup [Z23 y,.b c]∧h=[.many (Zz y)]∧Q y)) :
  Z3 P f args [] (fun r h=>∃(y:HNormal) (S:List Nat) (M:Mem),r=.tup [av y,.b c]∧h=[.own S M]∧(Q y∧Z46 M S y∧(Z0c y).Nodup∧RepN S M y)):=by
 intro w G vs ha hh
 refine (H w G vs ha hh).mono ?_
 rintro e w' ⟨v,r,h',G',rfl,⟨y,rfl,rfl,hq⟩,hv,hh',hx⟩
 cases hv with
 | tup hc=>cases hc with
  | cons h1 t=>
   obtain ⟨a1,a2,a3,a4,a5⟩:=Go.Abs.thaw hh hx hh' h1
   refine ⟨_,_,_,_,rfl,⟨y,_,_,rfl,rfl,hq,a3,a4,a5,Ziv a3⟩,.tup (.cons ?_ ?_),a1,a2⟩
   ·rw [Z015 h1,Zta (Ziv a3)];exact .agg (.cons .val (.cons .val .nil))
   ·cases t with
    | cons h2 t=>cases t;cases h2;exact .cons .val .nil
inductive ArgO (bs:List Res):List AV→List AV→Prop
 | nil:ArgO bs [] []
 | same {x as1 xs} (t:ArgO bs as1 xs):ArgO bs (x::as1) (x::xs)
 | lent {B m y as1 xs} (h:Res.own B m∈bs) (hr:RepN B m y) (t:ArgO bs as1 xs):ArgO bs (av y::as1) (Z23 y::xs)
theorem ArgO.rcs {w:World} {G Gb:Prot} {bs:List Res} (hA:Agree G w w Gb) (hb:∀B m,Res.own B m∈bs→∀x u,Zx6 B m x u→RV w Gb x u) :
  ∀{as1 xs:List AV} {vs:List Value},ArgO bs as1 xs→RCs w G as1 vs→RCs w Gb xs vs
 | _,_,_,.nil,.nil=>.nil
 | _,_,_,.same t,.cons h r=>.cons (h.mono hA) (t.rcs hA hb r)
 | _,_,_,.lent (y:=y) hm hr t,.cons (v:=v) h r=>by
  have e:v=nv y:=by
   rw [Zta hr.2] at h
   cases h with
   | agg hc=>cases hc with
    | cons h1 t=>cases t with
     | cons h2 t=>cases t;cases h1;cases h2;rfl
  subst e
  exact .cons (hb _ _ hm _ _ hr.1) (t.rcs hA hb r)
theorem ROk.cleanR {w:World} {G G2:Prot} {q:Res} (h0:ROk w G q) (hcq:Zg6 q):ROk w G2 q:=by
 cases q with
 | obj b ls=>obtain ⟨cs,el,k1,k2⟩:=h0;exact ⟨cs,el,k1,k2.vals hcq⟩
 | tail v k=>exact h0
 | ge s=>exact h0
 | vec v ls=>
  rcases h0 with ⟨rfl,h0⟩|⟨g,cap,cur,el,rfl,k1,k2,k3,k4⟩
  ·exact .inl ⟨rfl,h0⟩
  ·exact .inr ⟨g,cap,cur,el,rfl,k1,k2,k3,k4.vals hcq⟩
 | many ts=>exact h0
 | own B m=>exact h0
 | row v k ls=>
  rcases h0 with ⟨rfl,h0⟩|⟨g,len,cap,cur,el,rfl,k1,k2,k3,k4,k5⟩
  ·exact .inl ⟨rfl,h0⟩
  ·exact .inr ⟨g,len,cap,cur,el,rfl,k1,k2,k3,k4,k5.vals hcq⟩
theorem Z3.lendO {P:Program} {f:FuncId} {as1 xs:List AV} {h1:List Res} (bs:List Res) {R:AV→List Res→Prop} (H:Z3 P f xs h1 R) (hargs:ArgO bs as1 xs)
  (hb:∀r∈bs,∃B m,r=.own B m) (hclean:∀r h',R r h'→Clean h' r∧∀q∈h',Zg6 q) :
  Z3 P f as1 (h1++bs) (fun r h'=>∃h1',R r h1'∧h'=h1'++bs):=by
 intro w G vs hvs hh
 let Gb:Prot:=fun b o=>G b o∨fps bs b o
 have hA:Agree G w w Gb:=⟨fun _ _ _=>rfl,fun _ _ h=>.inl h⟩
 have hbslt:∀b o,fps bs b o→b<w.heap.size:=fun b o ⟨q,hq,hf⟩=>(hh.ok q (List.mem_append.2 (.inr hq))).lt b o hf
 have hwhole:∀b o o',fps bs b o→fps bs b o':=fun b o o' ⟨q,hq,hf⟩=>⟨q,hq,by
  obtain ⟨B,m,rfl⟩:=hb q hq
  exact hf⟩
 have g3:HOk w Gb h1:=⟨fun r hr=>(hh.ok r (List.mem_append.2 (.inl hr))).same hA,hh.left.apart,fun r hr b o hf hg=>by
   rcases hg with hg|hg
   ·exact hh.prot r (List.mem_append.2 (.inl hr)) b o hf hg
   ·exact hh.cross ⟨r,hr,hf⟩ hg,fun b o hg=>by
   rcases hg with hg|hg
   ·exact hh.lt b o hg
   ·exact hbslt b o hg⟩
 have g4:∀B m,Res.own B m∈bs→∀x u,Zx6 B m x u→RV w Gb x u:=fun B m hm x u hr=>
  (hr w (hh.ok _ (List.mem_append.2 (.inr hm)))).mono ⟨fun _ _ _=>rfl,fun b o hb=>.inr ⟨_,hm,hb⟩⟩
 refine (H w Gb vs (hargs.rcs hA g4 hvs) g3).mono ?_
 rintro e w' ⟨v,r,h',G',rfl,hR,hv,hh',hx⟩
 obtain ⟨c1,c2⟩:=hclean r h' hR
 let G2:Prot:=fun b o=>G' b o∧¬(fps bs b o)
 have hGkeep:∀b o,G b o→G2 b o:=fun b o hg=>⟨hx.sub b o (.inl hg),fun ⟨q,hq,hf⟩=>hh.prot q (List.mem_append.2 (.inr hq)) b o hf hg⟩
 have hnew:∀v k g,Res.tail v k∈h'→v.ownBlock=some g→∀o,G' g o→G2 g o:=by
  intro v k g hm hg o hgo
  refine ⟨hgo,fun hf=>?_⟩
  have hlt:=hbslt _ _ hf
  rcases hh'.ok _ hm with rfl|⟨g',len,cap,cur,el,rfl,t1,t2,t3⟩
  ·simp [Value.ownBlock] at hg
  ·simp only [Value.ownBlock,Option.some.injEq] at hg
   subst hg
   have hfp:fps h' g' (len*k):=⟨_,hm,rfl,Nat.le_refl _⟩
   exact hh.cross (hx.newfp g' (len*k) hlt hfp) (hwhole _ _ _ hf)
 have e1:Ext w G h1 w' G2 h':=⟨hx.os,hx.tape,hx.output,hx.size,hGkeep,hx.same,fun b o hb' hg=>by
  rcases hx.newG b o hb' hg.1 with h|h
  ·rcases h with h|h
   ·exact .inl h
   ·exact absurd h hg.2
  ·exact .inr h,hx.newfp⟩
 have e2:HOk w' G2 h':=⟨fun q hq=>(hh'.ok q hq).cleanR (c2 q hq),hh'.apart,fun q hq b o hf hg=>hh'.prot q hq b o hf hg.1,fun b o hg=>hh'.lt b o hg.1⟩
 obtain ⟨f1,f2⟩:=hh.frame e1 e2
 exact ⟨v,r,h'++bs,G2,rfl,⟨h',hR,rfl⟩,RV.clean hnew c1 hv,f1,f2⟩
section
variable {P:Program} {n:Nat} {ops:Array Oper} {B:Fr→List Res→Prop} {k:Nat} {F:Fr} {h:List Res}
def Ztg (P:Program) (ops:Array Oper) (F:Fr) (k:Nat):Option (Bool × Bool):=
 match (opAt ops k).op with
 | .binOp .neq t x y _=>match P.underlying t with
  | some .bool=>match F.ev x,F.ev y with
   | .val (.bool a),.val (.bool b)=>some (a,b)
   | _,_=>none
  | _=>none
 | _=>none
theorem kBne (a b:Bool) (hb:Ztg P ops F k=some (a,b):=by kernel_rfl):StOK P (opAt ops k) F h [] (.b (a != b)):=by
 unfold Ztg at hb
 generalize hoo:opAt ops k=o at hb
 obtain ⟨dst,op,type,pos,after,guard⟩:=o
 cases op<;>simp only at hb<;>try (cases hb)
 rename_i bop t x y yt
 cases bop<;>simp only at hb<;>try (cases hb)
 split at hb
 ·rename_i ht
  split at hb
  ·rename_i a' b' h1 h2
   cases hb
   intro n w G ac hF hh
   have v1:=hF.ev x
   have v2:=hF.ev y
   rw [h1] at v1
   rw [h2] at v2
   have v1:=v1.val_inv
   have v2:=v2.val_inv
   refine ⟨_,.val,fun w' _ _=>?_⟩
   simp only [execOp,v1,v2]
   have he:(Op.equalIn (9999+1) t (.bool a) (.bool b)).run P w'=.ok (a==b) w':=by
    rw [Op.equalIn]
    simp [Sem.run_bind,Zx ht]
   refine Z1a ?_
   simp only [eqGuard,binOp,Op.equal,Op.maxDepth]
   have he2:(Op.equalIn 10000 t (.bool a) (.bool b)).run P w'=.ok (a==b) w':=he
   simp [Sem.run_bind,he2,bne]
  ·cases hb
 ·cases hb
end
end Go.Abs
end
section
namespace Go.Abs
open Go.Proofs
set_option maxRecDepth 10000
set_option maxHeartbeats 4000000
theorem Ze6 {xs:List Int} {k:Nat} {n x:Int} (h:n∉xs.take k) (hx:xs[k]? = some x) (hn:¬x=n):n∉xs.take (k+1):=by
 rw [List.take_add_one,hx]
 simp only [Option.toList_some,List.mem_append,List.mem_singleton]
 exact fun q=>q.elim h fun q=>hn q.symm
theorem Zs1 {xs:List Int} {k:Nat} {n x:Int} (hx:xs[k]? = some x) (hn:x=n):n∈xs:=hn▸List.mem_of_getElem? hx
theorem Z0r (n:Int) (low:Int) (high:Int) :Z3 Tryz.prog 146 [.i n,.i low,.i high] [] (fun r h=>r=.b (decide (low≤n∧n≤high))∧h=[]):=by
 refine enter Tryz.func146 kr (n:=15) kr kr (ar (ir 1 [(0,.i n),(1,.i low),(2,.i high)] (ie (ar (Z1t 8 [(14,.b ((decide (low≤n))&&(decide (n≤high))))] [] ?_ (fun hj1=>?_))))))
 ·refine ir 1 [(6,.b ((decide (low≤n))&&(decide (n≤high))))] (ie ?_)
  exact at_ (r2 [] [.b ((decide (low≤n))&&(decide (n≤high)))] ⟨rfl,rfl⟩ (lb (by rw [Bool.eq_iff_iff];simp)))
 refine ir 4 [(0,.i n),(2,.i high),(10,.b (decide (low≤n)))] (ib (b:=(decide (low≤n))) 10 (fun hb1=>?_) (fun hb1=>?_))
 ·have hp1:low≤n:=(decide_eq_true_iff).1 hb1
  refine ir 4 [(14,.b (decide (n≤high)))] ?_
  exact Z05 (wk [] (fc (x:=.b (decide (n≤high))) (lb (by simp only [hb1];rfl)) fl)) hj1
 have hp2:¬(low≤n):=Zj decide_eq_true_iff hb1
 refine ir 4 [(14,.b false)] ?_
 exact Z05 (wk [] (fc (x:=.b false) (lb (by simp only [hb1];rfl)) fl)) hj1
theorem Zaf (xs:List Int) (n:Int) (hlen:xs.length≤4294967296:=by exact ob):Z3 Tryz.prog 147 [nInt xs,.i n] [] (fun r h=>r=.b (decide (n∈xs))∧h=[]):=by
 refine enter Tryz.func147 kr (n:=18) kr kr (ar (ir 1 [(0,nInt xs),(1,.i n)] (ie (aq (ar (irk 1 (.n 5 (.i 0) .r) (ie (ab 0 (al (fun m F h=>∃(k:Nat),(k≤xs.length)∧(n∉xs.take k)∧F=[(0,nInt xs),(1,.i n),(5,.i k)]∧h=[]∧m=xs.length-k) _ _ _ ⟨0,ob,ob,rfl,rfl,rfl⟩ (wk [] (fr (fr (fc (x:=.i 0) li fl)))) ?_)))))))))
 rintro m F h ⟨k,c0_0,c0_1,rfl,rfl,rfl⟩
 refine aq (ar (irk 2 (.n 6 (.i k) (.n 7 (nInt xs) .r)) (io (.i xs.length) (.i (((Z6 xs).length:Nat):Int)) (li (by rw [Z5])) (irk 1 (.n 9 (.b (decide ((k:Int)<(xs.length:Int)))) .r) (ie (ac (decide ((k:Int)<(xs.length:Int))) decide_eq_true_iff (fun hc1=>?_) (fun hc1=>?_)))))))
 ·refine ak (aq (ab 1 (ar (irk 2 (.n 12 (nInt xs) (.n 13 (.i k) .r)) ?_))))
  obtain ⟨x1,hx1⟩:=Z9 (xs:=xs) (j:=k) om
  refine is_ (Z0 (es:=Z6 xs) (hv:=none) (j:=(k:Int)) (sz:=1) (y:=.i x1) kr om (Za hx1) rfl) (irk 3 (.n 17 (.b (x1==n)) .r) (ie (ac (x1==n) beq_iff_eq (fun hc2=>?_) (fun hc2=>?_))))
  ·refine ar (ir 1 [(4,.b true)] (ie ?_))
   exact at_ (r2 [] [.b true] ⟨rfl,rfl⟩ (lb (by rw [eq_comm,decide_eq_true_iff];exact Zs1 hx1 hc2)))
  refine ak (az (irk 1 (.n 10 (.i k) .r) (ia (((k+1:Nat):Int)) (((k:Int))+(1)) (ir 1 [(0,nInt xs),(1,.i n),(5,.i (k+1:Nat))] (ie ?_)))))
  exact ⟨_,_,_,ob,⟨k+1,ob,(Ze6 c0_1 hx1 hc2),rfl,rfl,rfl⟩,(wk [] (fr (fr (fc (x:=.i (k+1:Nat)) li fl))))⟩
 refine ax 0 (ar (ir 1 [(4,.b false)] (ie ?_)))
 have hke:k=xs.length:=by omega
 exact at_ (r2 [] [.b false] ⟨rfl,rfl⟩ (lb (by rw [eq_comm,decide_eq_false_iff_not];rw [hke,List.take_length] at c0_1;exact c0_1)))
theorem Z2a (xs:List Int) (hlen:xs.length≤4294967296:=by exact ob):Z3 Tryz.prog 103 [nInt xs] [] (fun r h=>∃(v:Value),r=oInt xs v∧h=[.tail v 1]):=by
 refine enter Tryz.func103 kr (n:=6) kr kr (ar (ir 1 [(0,nInt xs)] (ie (ar (iL (Z6 []) 0 1 ?_)))))
 intro v1
 refine irk 1 (.n 4 (nInt xs) .r) (ip 0 (Z6 xs) (Z6 []) (Z6 xs) v1 none 1 (Z14 _) (Z14 _) (Z48 _) (by simp<;>omega) (by simp [Z6]) ?_)
 intro v2
 refine ir 1 [(2,oInt xs v2)] (ie ?_)
 exact at_ (r1 [0] ⟨v2,rfl,rfl⟩)
theorem Z6w (ds:List Decl) (n:Nat) (hd:DOk ds:=by exact ob) (hn:n≤ds.length:=by exact ob):Z3 Tryz.prog 156 [Z2 ds,.i n] [] (fun r h=>r=.i ((Zu (ds.take n):Nat):Int)∧h=[]):=by
 refine enter Tryz.func156 kr (n:=21) kr kr (ar (ir 1 [(0,Z2 ds),(1,.i n)] (ie (ar (irk 1 (.n 5 (.i 0) .r) (ie (aq (ar (irk 1 (.n 6 (.i 0) .r) (ie (ab 0 (al (fun m F h=>∃(k:Nat),(k≤n)∧F=[(0,Z2 ds),(1,.i n),(5,.i ((Zu (ds.take k):Nat):Int)),(6,.i k)]∧h=[]∧m=n-k) _ _ _ ⟨0,ob,rfl,rfl,rfl⟩ (wk [] (fr (fr (fc (x:=.i 0) li (fc (x:=.i 0) li fl))))) ?_))))))))))))
 rintro m F h ⟨k,c0_0,rfl,rfl,rfl⟩
 refine aq (ar (irk 3 (.n 9 (.b (decide ((k:Int)<(n:Int)))) .r) (ie (ac (decide ((k:Int)<(n:Int))) decide_eq_true_iff (fun hc1=>?_) (fun hc1=>?_)))))
 ·refine ak (aq (ab 1 (az (irk 3 (.n 12 (.i ((Zu (ds.take k):Nat):Int)) (.n 13 (Z2 ds) (.n 14 (.i k) .r))) ?_))))
  obtain ⟨x1,hx1⟩:=Z9 (xs:=ds) (j:=k) om
  refine is_ (Z0 (es:=Zt ds) (hv:=none) (j:=(k:Int)) (sz:=3) (y:=Z2q x1) kr om (Z0y hx1) rfl) (irk 2 (.n 17 (nCon x1.cons) .r) (io (.i x1.cons.length) (.i (((Z1f x1.cons).length:Nat):Int)) (li (by rw [Z0k])) (ia ((((Zu (ds.take k))+x1.cons.length:Nat):Int)) ((((Zu (ds.take k):Nat):Int))+((x1.cons.length:Int))) (hb:=(by have h1:=hd.cons_at hx1;have h2:=(hd.take k).sum;omega)) (irk 1 (.n 5 (.i (((Zu (ds.take k))+x1.cons.length:Nat):Int)) (.p (.p (.d (.p (.d (.d (.d (.d (.k (.k (.d .r)))))))))))) (ie (az (irk 1 (.n 10 (.i k) .r) (ia (((k+1:Nat):Int)) (((k:Int))+(1)) (hb:=(by have:=hd.len;omega)) (irk 1 (.n 6 (.i (k+1:Nat)) (.p (.d (.k (.k (.k .z)))))) (ie ?_))))))))))
  have hsn:Zu (ds.take (k+1))=Zu (ds.take k)+x1.cons.length:=by rw [Z1z hx1,Z5h];simp [Zu]
  exact ⟨_,_,_,ob,⟨k+1,ob,rfl,rfl,rfl⟩,(wk [] (fr (fr (fc (x:=.i (((Zu (ds.take k))+x1.cons.length:Nat):Int)) li (fc (x:=.i (k+1:Nat)) li fl)))))⟩
 refine ax 0 (ar (ir 2 [(4,.i ((Zu (ds.take k):Nat):Int))] (ie ?_)))
 have hke:k=n:=by omega
 subst hke
 exact at_ (r2 [] [.i ((Zu (ds.take k):Nat):Int)] ⟨rfl,rfl⟩ li)
theorem Z7m (ds:List Decl) (c:Int) (hd:DOk ds:=by exact ob):Z3 Tryz.prog 157 [Z2 ds,.i c] [] (fun r h=>r=.i (Z0a ds c)∧h=[]):=by
 refine enter Tryz.func157 kr (n:=30) kr kr (ar (ir 1 [(0,Z2 ds),(1,.i c)] (ie (aq (ar (irk 1 (.n 5 (.i 0) .r) (ie (ab 0 (al (fun m F h=>∃(k:Nat),(k≤ds.length)∧((Z3t c (ds.drop k) k (Zu (ds.take k))).1=Z0a ds c)∧F=[(0,Z2 ds),(1,.i c),(5,.i k)]∧h=[]∧m=ds.length-k) _ _ _ ⟨0,ob,(by rfl),rfl,rfl,rfl⟩ (wk [] (fr (fr (fc (x:=.i 0) li fl)))) ?_)))))))))
 rintro m F h ⟨k,c0_0,c0_1,rfl,rfl,rfl⟩
 refine aq (ar (irk 2 (.n 7 (.i k) (.n 8 (Z2 ds) .r)) (io (.i ds.length) (.i (((Zt ds).length:Nat):Int)) (li (by rw [Z0e])) (irk 1 (.n 10 (.b (decide ((k:Int)<(ds.length:Int)))) .r) (ie (ac (decide ((k:Int)<(ds.length:Int))) decide_eq_true_iff (fun hc1=>?_) (fun hc1=>?_)))))))
 ·refine ak (aq (ab 1 (ar (irk 2 (.n 13 (Z2 ds) (.n 14 (.i k) .r)) (ic [] (Z6w ds k) ?_)))))
  rintro _ _ ⟨rfl,rfl⟩
  refine irk 1 (.n 6 (.i ((Zu (ds.take k):Nat):Int)) .r) (ie (ar (irk 5 (.n 16 (.i c) (.n 17 (.i ((Zu (ds.take k):Nat):Int)) (.n 18 (.i ((Zu (ds.take k):Nat):Int)) (.n 19 (Z2 ds) (.n 20 (.i k) .r))))) ?_)))
  obtain ⟨x1,hx1⟩:=Z9 (xs:=ds) (j:=k) om
  refine is_ (Z0 (es:=Zt ds) (hv:=none) (j:=(k:Int)) (sz:=3) (y:=Z2q x1) kr om (Z0y hx1) rfl) (irk 2 (.n 23 (nCon x1.cons) .r) (io (.i x1.cons.length) (.i (((Z1f x1.cons).length:Nat):Int)) (li (by rw [Z0k])) (ia ((((Zu (ds.take k))+x1.cons.length:Nat):Int)) ((((Zu (ds.take k):Nat):Int))+((x1.cons.length:Int))) (hb:=(by have h1:=hd.cons_at hx1;have h2:=(hd.take k).sum;omega)) (ia (((((Zu (ds.take k))+x1.cons.length:Nat):Int)-1)) (((((Zu (ds.take k))+x1.cons.length:Nat):Int))-(1)) (hb:=(by have h1:=hd.cons_at hx1;have h2:=(hd.take k).sum;omega)) (ic [] (Z0r c ((Zu (ds.take k):Nat):Int) ((((Zu (ds.take k))+x1.cons.length:Nat):Int)-1)) ?_)))))
  rintro _ _ ⟨rfl,rfl⟩
  refine ie (ac (decide (((Zu (ds.take k):Nat):Int)≤c∧c≤((((Zu (ds.take k))+x1.cons.length:Nat):Int)-1))) decide_eq_true_iff (fun hc2=>?_) (fun hc2=>?_))
  ·refine ar (ir 1 [(28,.i k)] (ia (((k+1:Nat):Int)) (((k:Int))+(1)) (hb:=(by have h2:=hd.len;omega)) (ir 1 [(4,.i (k+1:Nat))] (ie ?_))))
   exact at_ (r2 [] [.i (k+1:Nat)] ⟨rfl,rfl⟩ (li (by rw [←c0_1,Z7 hx1,Z3t,if_pos hc2];rfl)))
  refine ak (az (irk 1 (.n 11 (.i k) .r) (ia (((k+1:Nat):Int)) (((k:Int))+(1)) (hb:=(by have h2:=hd.len;omega)) (ir 1 [(0,Z2 ds),(1,.i c),(5,.i (k+1:Nat))] (ie ?_)))))
  have hdr:=Z7 hx1
  exact ⟨_,_,_,ob,⟨k+1,ob,(by rw [hdr] at c0_1;rw [←c0_1,Z3t,if_neg hc2,Z1z hx1,Z5h];rfl),rfl,rfl,rfl⟩,(wk [] (fr (fr (fc (x:=.i (k+1:Nat)) li fl))))⟩
 refine ax 0 (ar (ir 1 [(4,.i (-1))] (ie ?_)))
 exact at_ (r2 [] [.i (-1)] ⟨rfl,rfl⟩ (li (by rw [←c0_1,Zv om];rfl)))
theorem Z3c (ds:List Decl) (c:Int) (hd:DOk ds:=by exact ob):Z3 Tryz.prog 107 [Z2 ds,.i c] [] (fun r h=>r=nInt (Z1 ds c)∧h=[]):=by
 refine enter Tryz.func107 kr (n:=27) kr kr (ar (ir 1 [(0,Z2 ds),(1,.i c)] (ie (ar (irk 2 (.n 6 (Z2 ds) (.n 7 (.i c) .r)) (ic [] (Z7m ds c) ?_))))))
 rintro _ _ ⟨rfl,rfl⟩
 refine irk 1 (.n 5 (.i (Z0a ds c)) .r) (ie (aq (ar (irk 2 (.n 10 (.b (decide ((Z0a ds c)<1))) .r) (ie (ac (decide ((Z0a ds c)<1)) decide_eq_true_iff (fun hc1=>?_) (fun hc1=>?_)))))))
 ·refine ar (iL (Z6 []) 0 1 ?_)
  intro v1
  refine ir 1 [(4,oInt [] v1)] (ie ?_)
  exact at_ (r2 [] [oInt [] v1] ⟨rfl,rfl⟩ (AVLe.sl _ (congrArg Z6 (by rw [(Z7s hc1).1]))))
 obtain ⟨k,d,x,hk1,hk2,hk3,hk4,hk5⟩:=Za3 hc1
 have hkl:=(List.getElem?_eq_some_iff.1 hk1).1
 have hxl:=(List.getElem?_eq_some_iff.1 hk3).1
 have hsm:=(hd.take k).sum
 have hdl:=hd.cons_at hk1
 have hdn:=hd.len
 refine ak (aD 16 (dtk (fuel:=14) 16 [0,1] (.n 12 (Z2 ds) (.n 13 (.i (Z0a ds c)) .r)) (da 2 ((k:Int)) ((Z0a ds c)-(1)) (hb:=(by have:=hd.len;omega)) ?_)))
 obtain ⟨x1,hx1⟩:=Z9 (xs:=ds) (j:=k) om
 have hxe:x1=d:=by rw [hk1] at hx1;exact (Option.some.inj hx1).symm
 subst hxe
 refine dx 3 (Z0 (es:=Zt ds) (hv:=none) (j:=(k:Int)) (sz:=3) (y:=Z2q x1) kr om (Z0y hx1) rfl) (dt (fuel:=7) 12 [4,5,6,7,8] [(17,nCon x1.cons),(18,.i c),(19,Z2 ds),(20,.i (Z0a ds c))] (da 9 ((k:Int)) ((Z0a ds c)-(1)) (hb:=(by have:=hd.len;omega)) (do_ 10 (dc 10 [] [] [] (Z6w ds k) ?_))))
 rintro _ _ ⟨rfl,rfl⟩
 refine da 11 ((c-((Zu (ds.take k):Nat):Int))) ((c)-(((Zu (ds.take k):Nat):Int))) ?_
 obtain ⟨x2,hx2⟩:=Z9 (xs:=x1.cons) (j:=(c-((Zu (ds.take k):Nat):Int)).toNat) om
 have hxe:x2=x:=by rw [show (c - ↑(Zu (ds.take k))).toNat=(c-Zu (ds.take k)).toNat from rfl,hk3] at hx2;exact (Option.some.inj hx2).symm
 subst hxe
 refine dx 12 (Z0 (es:=Z1f x1.cons) (hv:=none) (j:=(c-((Zu (ds.take k):Nat):Int))) (sz:=1) (y:=aCon x2) kr om (Z4j hx2) rfl) (dt (fuel:=0) 3 [13,14,15] [(4,nInt x2.fields)] (de ?_))
 exact at_ (r2 [] [nInt x2.fields] ⟨rfl,rfl⟩ (AVLe.sl _ (congrArg Z6 hk5.symm)))
theorem Z8b (ds:List Decl) (t:Int) (hd:DOk ds:=by exact ob):Z3 Tryz.prog 106 [Z2 ds,.i t] [] (fun r h=>∃(v:Value),r=oInt (Zb ds t) v∧h=[.tail v 1]):=by
 have hdn:=hd.len
 refine enter Tryz.func106 kr (n:=35) kr kr (ar (ir 1 [(0,Z2 ds),(1,.i t)] (ie (ar (iL (Z6 []) 0 1 ?_)))))
 intro v1
 refine irk 1 (.n 5 (oInt [] v1) .r) (ie (aq (ar (irk 2 (.n 8 (.i t) (.n 9 (Z2 ds) .r)) (io (.i ds.length) (.i (((Zt ds).length:Nat):Int)) (li (by rw [Z0e])) (ic [] (Z0r t 1 (ds.length:Int)) ?_))))))
 rintro _ _ ⟨rfl,rfl⟩
 refine irk 1 (.n 12 (.b (!(decide (1≤t∧t≤(ds.length:Int))))) .r) (ie (ac (!(decide (1≤t∧t≤(ds.length:Int)))) (p:=¬(1≤t∧t≤(ds.length:Int))) (Zg decide_eq_true_iff) (fun hc1=>?_) (fun hc1=>?_)))
 ·refine ar (ir 2 [(4,oInt [] v1)] (ie ?_))
  exact at_ (r2 [0] [oInt [] v1] ⟨v1,rfl,rfl⟩ (AVLe.slh _ (congrArg Z6 (by simp [Zb];omega))))
 have hc1:1≤t∧t≤ds.length:=by simpa using hc1
 obtain ⟨d,hd1⟩:=Z9 (xs:=ds) (j:=(t-1).toNat) om
 have hdc:=hd.cons_at hd1
 have hsm:=(hd.take (t-1).toNat).sum
 refine ak (aq (ar (irk 1 (.n 6 (.i 0) .r) (ie (ab 0 (al (fun m F h=>∃(k:Nat) (v:Value),(k≤d.cons.length)∧F=[(0,Z2 ds),(1,.i t),(5,oInt (Z17 (Zu (ds.take (t-1).toNat)) k) v),(6,.i k)]∧h=[.tail v 1]∧m=d.cons.length-k) _ _ _ ⟨0,v1,(by first|omega|rfl|(simp<;>omega)|grind [Zb,Z17]),rfl,rfl,rfl⟩ (wk [0] (fr (fr (fc (x:=oInt [] v1) (AVLe.slh _ (congrArg Z6 (by first|omega|rfl|(simp<;>omega)|grind [Zb,Z17]))) (fc (x:=.i 0) (li (by first|omega|rfl|(simp<;>omega)|grind [Zb,Z17])) fl))))) ?_))))))
 rintro m F h ⟨k,v,c0_0,rfl,rfl,rfl⟩
 refine aq (ar (irk 3 (.n 14 (.i k) (.n 15 (Z2 ds) (.n 16 (.i t) .r))) (ia ((((t-1).toNat:Nat):Int)) ((t)-(1)) (is_ (Z0 (es:=Zt ds) (hv:=none) (j:=(((t-1).toNat:Nat):Int)) (sz:=3) (y:=Z2q d) kr om (Z0y hd1) rfl) (irk 2 (.n 20 (nCon d.cons) .r) (io (.i d.cons.length) (.i (((Z1f d.cons).length:Nat):Int)) (li (by rw [Z0k])) (irk 1 (.n 22 (.b (decide ((k:Int)<(d.cons.length:Int)))) .r) (ie (ac (decide ((k:Int)<(d.cons.length:Int))) decide_eq_true_iff (fun hc2=>?_) (fun hc2=>?_))))))))))
 ·refine ak (aq (ab 1 (az (irk 3 (.n 25 (oInt (Z17 (Zu (ds.take (t-1).toNat)) k) v) (.n 26 (Z2 ds) (.n 27 (.i t) .r))) (ia ((((t-1).toNat:Nat):Int)) ((t)-(1)) (ic [] (Z6w ds ((t-1).toNat) (hd:=(by first|omega|rfl|(simp<;>omega)|grind [Zb,Z17])) (hn:=(by first|omega|rfl|(simp<;>omega)|grind [Zb,Z17]))) ?_))))))
  rintro _ _ ⟨rfl,rfl⟩
  refine irk 1 (.n 30 (.i k) .r) (ia ((((Zu (ds.take ((t-1).toNat)))+k:Nat):Int)) ((((Zu (ds.take ((t-1).toNat)):Nat):Int))+((k:Int))) (iL (Z6 [(((Zu (ds.take ((t-1).toNat)))+k:Nat):Int)]) 1 1 ?_))
  intro v2
  refine irk 0 (.n 32 (nInt [(((Zu (ds.take ((t-1).toNat)))+k:Nat):Int)]) (.p .r)) (ip 1 (Z6 (Z17 (Zu (ds.take (t-1).toNat)) k++[(((Zu (ds.take ((t-1).toNat)))+k:Nat):Int)])) (Z6 (Z17 (Zu (ds.take (t-1).toNat)) k)) (Z6 [(((Zu (ds.take ((t-1).toNat)))+k:Nat):Int)]) v none 1 (Z14 _) (Z14 _) (Z48 _) (by simp<;>omega) (by simp [Z2n,Z6]) ?_)
  intro v3
  refine ir 1 [(0,Z2 ds),(1,.i t),(5,oInt (Z17 (Zu (ds.take (t-1).toNat)) k++[(((Zu (ds.take ((t-1).toNat)))+k:Nat):Int)]) v3),(6,.i k)] (ie (az (irk 1 (.n 23 (.i k) .r) (ia (((k+1:Nat):Int)) (((k:Int))+(1)) (irk 1 (.n 6 (.i (k+1:Nat)) (.p (.d (.k (.k (.k .z)))))) (ie ?_))))))
  exact ⟨_,_,_,(by first|omega|rfl|(simp<;>omega)|grind [Zb,Z17]),⟨k+1,v3,(by first|omega|rfl|(simp<;>omega)|grind [Zb,Z17]),rfl,rfl,rfl⟩,(wk [0] (fr (fr (fc (x:=oInt (Z17 (Zu (ds.take (t-1).toNat)) k++[(((Zu (ds.take ((t-1).toNat)))+k:Nat):Int)]) v3) (AVLe.slh _ (congrArg Z6 (Zd0 _ _).symm)) (fc (x:=.i (k+1:Nat)) (li (by first|omega|rfl|(simp<;>omega)|grind [Zb,Z17])) fl)))))⟩
 refine ax 0 (ar (ir 2 [(4,oInt (Z17 (Zu (ds.take (t-1).toNat)) k) v)] (ie ?_)))
 exact at_ (r2 [0] [oInt (Z17 (Zu (ds.take (t-1).toNat)) k) v] ⟨v,rfl,rfl⟩ (AVLe.slh _ (congrArg Z6 (by rw [Zb,if_pos hc1,hd1,show k=d.cons.length by omega];rfl))))
theorem Zhf (ds:List Decl) (frm:Int) (to_:Int) (hl_ds:ds.length≤4294967296:=by exact ob):Z3 Tryz.prog 208 [Z2 ds,.i frm,.i to_] [] (fun r h=>r=.i (Z2d ds frm to_)∧h=[]):=by
 refine enter Tryz.func208 kr (n:=41) kr kr (ar (ir 1 [(0,Z2 ds),(1,.i frm),(2,.i to_)] (ie (aq (ar (irk 1 (.n 7 (.i 0) .r) (ie (ab 0 (al (fun m F h=>∃(k:Nat),(k≤ds.length)∧(Z3r frm to_ (ds.drop k) k=Z2d ds frm to_)∧F=[(0,Z2 ds),(1,.i frm),(2,.i to_),(7,.i k)]∧h=[]∧m=ds.length-k) _ _ _ ⟨0,ob,ob,rfl,rfl,rfl⟩ (wk [] (fr (fr (fr (fc (x:=.i 0) li fl))))) ?_)))))))))
 rintro m F h ⟨k,c0_0,c0_1,rfl,rfl,rfl⟩
 refine aq (ar (irk 2 (.n 8 (.i k) (.n 9 (Z2 ds) .r)) (io (.i ds.length) (.i (((Zt ds).length:Nat):Int)) (li (by rw [Z0e])) (irk 1 (.n 11 (.b (decide ((k:Int)<(ds.length:Int)))) .r) (ie (ac (decide ((k:Int)<(ds.length:Int))) decide_eq_true_iff (fun hc1=>?_) (fun hc1=>?_)))))))
 ·refine ak (aq (ab 1 (ar (irk 2 (.n 14 (Z2 ds) (.n 15 (.i k) .r)) ?_))))
  obtain ⟨x1,hx1⟩:=Z9 (xs:=ds) (j:=k) om
  refine is_ (Z0 (es:=Zt ds) (hv:=none) (j:=(k:Int)) (sz:=3) (y:=Z2q x1) kr om (Z0y hx1) rfl) (irk 2 (.n 18 (nCon x1.cons) .r) (io (.i x1.cons.length) (.i (((Z1f x1.cons).length:Nat):Int)) (li (by rw [Z0k])) (Z1t 16 [(0,Z2 ds),(1,.i frm),(2,.i to_),(7,.i k),(29,.b (((x1.cons.length:Int)==0)&&(x1.frm==frm)))] [] ?_ (fun hj1=>?_))))
  ·refine Z2h [(0,Z2 ds),(1,.i frm),(2,.i to_),(7,.i k),(38,.b ((((x1.cons.length:Int)==0)&&(x1.frm==frm))&&(x1.to_==to_)))] [] ?_ ?_
   ·refine ir 1 [(0,Z2 ds),(1,.i frm),(2,.i to_),(7,.i k),(30,.b (((x1.cons.length:Int)==0)&&(x1.frm==frm)))] (ib (b:=(((x1.cons.length:Int)==0)&&(x1.frm==frm))) 30 (fun hb1=>?_) (fun hb1=>?_))
    ·have hp1:((x1.cons.length:Int)=0)∧(x1.frm=frm):=((Zo beq_iff_eq beq_iff_eq)).1 hb1
     refine irk 2 (.n 31 (Z2 ds) (.n 32 (.i k) (.k (.k (.k (.k (.k .z))))))) (is_ (Z0 (es:=Zt ds) (hv:=none) (j:=(k:Int)) (sz:=3) (y:=Z2q x1) kr om (Z0y hx1) rfl) (irk 5 (.n 38 (.b (x1.to_==to_)) .r) (ie ?_)))
     exact wk [] (fr (fr (fr (fr (fc (x:=.b (x1.to_==to_)) (lb (by simp only [hb1];rfl)) fl)))))
    have hp2:¬(((x1.cons.length:Int)=0)∧(x1.frm=frm)):=Zj (Zo beq_iff_eq beq_iff_eq) hb1
    refine irk 8 (.n 38 (.b false) (.d (.k (.k (.k (.k .z)))))) (ie ?_)
    exact wk [] (fr (fr (fr (fr (fc (x:=.b false) (lb (by simp only [hb1];rfl)) fl)))))
   refine ac ((((x1.cons.length:Int)==0)&&(x1.frm==frm))&&(x1.to_==to_)) (p:=(((x1.cons.length:Int)=0)∧(x1.frm=frm))∧(x1.to_=to_)) (Zo (Zo beq_iff_eq beq_iff_eq) beq_iff_eq) (fun hc2=>?_) (fun hc2=>?_)
   ·refine ar (ir 1 [(39,.i k)] (ia (((k+1:Nat):Int)) (((k:Int))+(1)) (ir 1 [(6,.i (k+1:Nat))] (ie ?_))))
    rw [Z7 hx1] at c0_1
    exact at_ (r2 [] [.i (k+1:Nat)] ⟨rfl,rfl⟩ (li (by clear hx1;first|rfl|omega|grind [Z3r])))
   refine ak (az (ir 1 [(0,Z2 ds),(1,.i frm),(2,.i to_),(12,.i k)] (ia (((k+1:Nat):Int)) (((k:Int))+(1)) (irk 1 (.n 7 (.i (k+1:Nat)) .r) (ie ?_)))))
   have hdr:=Z7 hx1
   exact ⟨_,_,_,ob,⟨k+1,ob,(by rw [hdr] at c0_1;clear hdr hx1;grind [Z3r]),rfl,rfl,rfl⟩,(wk [] (fr (fr (fr (fc (x:=.i (k+1:Nat)) li fl)))))⟩
  refine ir 2 [(0,Z2 ds),(1,.i frm),(2,.i to_),(7,.i k),(21,.b ((x1.cons.length:Int)==0))] (ib (b:=((x1.cons.length:Int)==0)) 21 (fun hb2=>?_) (fun hb2=>?_))
  ·have hp3:(x1.cons.length:Int)=0:=(beq_iff_eq).1 hb2
   refine irk 2 (.n 22 (Z2 ds) (.n 23 (.i k) (.k (.k (.k (.k (.k .z))))))) (is_ (Z0 (es:=Zt ds) (hv:=none) (j:=(k:Int)) (sz:=3) (y:=Z2q x1) kr om (Z0y hx1) rfl) (irk 5 (.n 29 (.b (x1.frm==frm)) .r) ?_))
   exact Z05 (wk [] (fr (fr (fr (fr (fc (x:=.b (x1.frm==frm)) (lb (by simp only [hb2];rfl)) fl)))))) hj1
  have hp4:¬((x1.cons.length:Int)=0):=Zj beq_iff_eq hb2
  refine irk 8 (.n 29 (.b false) (.d (.k (.k (.k (.k .z)))))) ?_
  exact Z05 (wk [] (fr (fr (fr (fr (fc (x:=.b false) (lb (by simp only [hb2];rfl)) fl)))))) hj1
 refine ax 0 (ar (ir 1 [(6,.i (-1))] (ie ?_)))
 try rw [Zv (xs:=ds) (k:=k) om] at c0_1
 exact at_ (r2 [] [.i (-1)] ⟨rfl,rfl⟩ (li (by first|rfl|omega|grind [Z3r])))
theorem Zae (ds:List Decl) (t:Int) (hd:DOk ds:=by exact ob):Z3 Tryz.prog 187 [Z2 ds,.i t] [] (fun r h=>r=.b (Z02 ds t)∧h=[]):=by
 have hdn:=hd.len
 refine enter Tryz.func187 kr (n:=19) kr kr (ar (ir 1 [(0,Z2 ds),(1,.i t)] (ie (ar (irk 2 (.n 5 (.i t) (.n 6 (Z2 ds) .r)) (io (.i ds.length) (.i (((Zt ds).length:Nat):Int)) (li (by rw [Z0e])) (ic [] (Z0r t 1 (ds.length:Int)) ?_)))))))
 rintro _ _ ⟨rfl,rfl⟩
 refine irk 1 (.n 9 (.b (decide (1≤t∧t≤(ds.length:Int)))) .r) (ib (b:=(decide (1≤t∧t≤(ds.length:Int)))) 9 (fun hb1=>?_) (fun hb1=>?_))
 ·have hp1:1≤t∧t≤(ds.length:Int):=(decide_eq_true_iff).1 hb1
  refine irk 2 (.n 10 (Z2 ds) (.n 11 (.i t) (.k .z))) (ia ((t-1)) ((t)-(1)) ?_)
  obtain ⟨x1,hx1⟩:=Z9 (xs:=ds) (j:=(t-1).toNat) om
  refine is_ (Z0 (es:=Zt ds) (hv:=none) (j:=(t-1)) (sz:=3) (y:=Z2q x1) kr om (Z0y hx1) rfl) (irk 2 (.n 15 (nCon x1.cons) .r) (io (.i x1.cons.length) (.i (((Z1f x1.cons).length:Nat):Int)) (li (by rw [Z0k])) (ir 3 [(4,.b ((x1.cons.length:Int)==0))] (ie ?_))))
  exact at_ (r2 [] [.b ((x1.cons.length:Int)==0)] ⟨rfl,rfl⟩ (lb (by first|omega|rfl|(rw [Z75 hp1 hx1])|exact Z92 hp2)))
 have hp2:¬(1≤t∧t≤(ds.length:Int)):=Zj decide_eq_true_iff hb1
 refine ir 10 [(4,.b false)] (ie ?_)
 exact at_ (r2 [] [.b false] ⟨rfl,rfl⟩ (lb (by first|omega|rfl|(rw [Z75 hp1 hx1])|exact Z92 hp2)))
theorem Z50 (xs:List Int) (ys:List Int) (hl:xs.length+ys.length≤4294967296:=by exact ob):Z3 Tryz.prog 108 [nInt xs,nInt ys] [] (fun r h=>∃(v:Value),r=oInt (xs++ys) v∧h=[.tail v 1]):=by
 refine enter Tryz.func108 kr (n:=9) kr kr (ar (ir 1 [(0,nInt xs),(1,nInt ys)] (ie (ar (irk 1 (.n 5 (nInt xs) .r) (ic [] (Z2a xs) ?_))))))
 rintro _ _ ⟨v1,rfl,rfl⟩
 refine irk 1 (.n 7 (nInt ys) .r) (ip 0 (Z6 (xs++ys)) (Z6 xs) (Z6 ys) v1 none 1 (Z14 _) (Z14 _) (Z48 _) (by simp<;>omega) (by simp [Z2n,Z6]) ?_)
 intro v2
 refine ir 1 [(4,oInt (xs++ys) v2)] (ie ?_)
 exact at_ (r1 [0] ⟨v2,rfl,rfl⟩)
theorem Z9m (ds:List Decl) (xs:List Int) (hl_ds:ds.length≤4294967296:=by exact ob) (hl_xs:xs.length≤4294967296:=by exact ob):Z3 Tryz.prog 181 [Z2 ds,nInt xs] [] (fun r h=>r=.b (Z1o ds.length xs)∧h=[]):=by
 refine enter Tryz.func181 kr (n:=20) kr kr (ar (ir 1 [(0,Z2 ds),(1,nInt xs)] (ie (aq (ar (irk 1 (.n 5 (.i 0) .r) (ie (ab 0 (al (fun m F h=>∃(k:Nat),(k≤xs.length)∧(Z1o ds.length (xs.drop k)=Z1o ds.length xs)∧F=[(0,Z2 ds),(1,nInt xs),(5,.i k)]∧h=[]∧m=xs.length-k) _ _ _ ⟨0,ob,ob,rfl,rfl,rfl⟩ (wk [] (fr (fr (fc (x:=.i 0) li fl)))) ?_)))))))))
 rintro m F h ⟨k,c0_0,c0_1,rfl,rfl,rfl⟩
 refine aq (ar (irk 2 (.n 6 (.i k) (.n 7 (nInt xs) .r)) (io (.i xs.length) (.i (((Z6 xs).length:Nat):Int)) (li (by rw [Z5])) (irk 1 (.n 9 (.b (decide ((k:Int)<(xs.length:Int)))) .r) (ie (ac (decide ((k:Int)<(xs.length:Int))) decide_eq_true_iff (fun hc1=>?_) (fun hc1=>?_)))))))
 ·refine ak (aq (ab 1 (ar (irk 2 (.n 12 (nInt xs) (.n 13 (.i k) .r)) ?_))))
  obtain ⟨x1,hx1⟩:=Z9 (xs:=xs) (j:=k) om
  refine is_ (Z0 (es:=Z6 xs) (hv:=none) (j:=(k:Int)) (sz:=1) (y:=.i x1) kr om (Za hx1) rfl) (irk 2 (.n 15 (.i x1) (.n 16 (Z2 ds) .r)) (io (.i ds.length) (.i (((Zt ds).length:Nat):Int)) (li (by rw [Z0e])) (ic [] (Z0r x1 0 (ds.length:Int)) ?_)))
  rintro _ _ ⟨rfl,rfl⟩
  refine irk 1 (.n 19 (.b (!(decide (0≤x1∧x1≤(ds.length:Int))))) .r) (ie (ac (!(decide (0≤x1∧x1≤(ds.length:Int)))) (p:=¬(0≤x1∧x1≤(ds.length:Int))) (Zg decide_eq_true_iff) (fun hc2=>?_) (fun hc2=>?_)))
  ·refine ar (ir 1 [(4,.b false)] (ie ?_))
   rw [Z7 hx1] at c0_1
   exact at_ (r2 [] [.b false] ⟨rfl,rfl⟩ (lb (by clear hx1;first|rfl|omega|grind [Z1o])))
  refine ak (az (irk 1 (.n 10 (.i k) .r) (ia (((k+1:Nat):Int)) (((k:Int))+(1)) (ir 1 [(0,Z2 ds),(1,nInt xs),(5,.i (k+1:Nat))] (ie ?_)))))
  have hdr:=Z7 hx1
  exact ⟨_,_,_,ob,⟨k+1,ob,(by rw [hdr] at c0_1;clear hdr hx1;grind [Z1o]),rfl,rfl,rfl⟩,(wk [] (fr (fr (fc (x:=.i (k+1:Nat)) li fl))))⟩
 refine ax 0 (ar (ir 1 [(4,.b true)] (ie ?_)))
 try rw [Zv (xs:=xs) (k:=k) om] at c0_1
 exact at_ (r2 [] [.b true] ⟨rfl,rfl⟩ (lb (by first|rfl|omega|grind [Z1o])))
end Go.Abs
end
section
namespace Go.Abs
open Go.Proofs
set_option maxRecDepth 10000
set_option maxHeartbeats 4000000
theorem Z8e (xs:List Int) (hl_xs:xs.length≤4294967296:=by exact ob):Z3 Tryz.prog 60 [nInt xs] [] (fun r h=>∃(v:Value),r=oInt xs v∧h=[.tail v 1]):=by
 refine enter Tryz.func60 kr (n:=8) kr kr (ar (ir 1 [(0,nInt xs)] (ie (aq (ar (irk 1 (.n 3 (nInt xs) .r) (iN (Z6 xs) (fun hz1=>?_) ?_)))))))
 ·have hz1:=Zgm hz1
  refine ie (ac1 (ar (ir 1 [(2,.sl [] (some (.slice none 0 0)))] (ie (Z6h 1 ?_)))))
  exact at_ (r2 [0] [.sl [] (some (.slice none 0 0))] ⟨(.slice none 0 0),rfl,rfl⟩ (AVLe.slh _ (by first|rfl|(subst_vars;rfl))))
 refine ie (ac0 (ak (ar (iL (Z6 []) 0 1 ?_))))
 intro v1
 refine irk 1 (.n 6 (nInt xs) .r) (ip 0 (Z6 xs) (Z6 []) (Z6 xs) v1 none 1 (Z14 _) (Z14 _) (Z48 _) (by simp<;>omega) (by simp [Z6]) ?_)
 intro v2
 refine ir 1 [(2,oInt xs v2)] (ie ?_)
 exact at_ (r1 [0] ⟨v2,rfl,rfl⟩)
theorem Za0 (xs:List Int) (hl_xs:xs.length≤4294967296:=by exact ob):Z3 Tryz.prog 60 [nInt xs] [] (fun r h=>∃(v:Hd),r=.h v∧h=[rV v xs]):=by
 refine enter Tryz.func60 kr (n:=8) kr kr (ar (ir 1 [(0,nInt xs)] (ie (aq (ar (irk 1 (.n 3 (nInt xs) .r) (iN (Z6 xs) (fun hz1=>?_) ?_)))))))
 ·have hz1:=Zgm hz1
  refine ie (ac1 (ar (ir 1 [(2,.sl [] (some (.slice none 0 0)))] (ie (Z2r tNil ?_)))))
  exact at_ (r2 [0] [.sl [] (some (.slice none 0 0))] ⟨hN,rfl,rfl⟩ (AVLe.hd (v:=hN)) (eq:=(rv (xs:=[]) ob rz)))
 refine ie (ac0 (ak (ar (iVL [] 0 ?_))))
 intro v1
 refine irk 1 (.n 6 (nInt xs) .r) (iVP 0 v1 [] xs none ?_)
 intro v2
 refine ir 1 [(2,.h v2)] (ie ?_)
 exact at_ (r1 [0] ⟨v2,rfl,rfl⟩ (eq:=(rv (xs:=([]++xs)) ob rz)))
theorem Z7q (xs:List Int) (i:Int) (hl_xs:xs.length≤4294967296:=by exact ob):Z3 Tryz.prog 198 [nInt xs,.i i] [] (fun r h=>r=.i (Zm9 xs i)∧h=[]):=by
 refine enter Tryz.func198 kr (n:=19) kr kr (ar (ir 1 [(0,nInt xs),(1,.i i)] (ie (aq (ar (irk 1 (.n 6 (nInt xs) .r) (io (.i xs.length) (.i (((Z6 xs).length:Nat):Int)) (li (by rw [Z5])) (irk 1 (.n 8 (.i 0) .r) (ie (ab 0 (al (fun m F h=>∃(k:Nat),(k≤xs.length)∧(Zb6 i (xs.drop k) k=Zm9 xs i)∧F=[(0,nInt xs),(1,.i i),(7,.i xs.length),(8,.i k)]∧h=[]∧m=xs.length-k) _ _ _ ⟨0,ob,(by rfl),rfl,rfl,rfl⟩ (wk [] (fr (fr (fr (fc (x:=.i 0) li fl))))) ?_)))))))))))
 rintro m F h ⟨k,c0_0,c0_1,rfl,rfl,rfl⟩
 refine ar (irk 1 (.n 9 (.b (decide ((k:Int)<(xs.length:Int)))) .r) (ie (aq (ac (decide ((k:Int)<(xs.length:Int))) decide_eq_true_iff (fun hc1=>?_) (fun hc1=>?_)))))
 ·refine ak (aq (ab 1 (ar (irk 2 (.n 5 (.i k) .r) (ie (ar (irk 3 (.n 11 (.i i) (.n 12 (nInt xs) (.n 13 (.i k) .r))) ?_)))))))
  obtain ⟨x1,hx1⟩:=Z9 (xs:=xs) (j:=k) om
  refine is_ (Z0 (es:=Z6 xs) (hv:=none) (j:=(k:Int)) (sz:=1) (y:=.i x1) kr om (Za hx1) rfl) (irk 2 (.n 16 (.b (i==x1)) .r) (ie (ac (i==x1) beq_iff_eq (fun hc2=>?_) (fun hc2=>?_))))
  ·refine ar (ir 2 [(4,.i k)] (ie ?_))
   rw [Z7 hx1] at c0_1
   exact at_ (r2 [] [.i k] ⟨rfl,rfl⟩ (li (by clear hx1;first|rfl|omega|grind [Zb6])))
  refine ak (az (ia (((k+1:Nat):Int)) (((k:Int))+(1)) (ir 1 [(0,nInt xs),(1,.i i),(7,.i xs.length),(8,.i (k+1:Nat))] (ie ?_))))
  have hdr:=Z7 hx1
  exact ⟨_,_,_,ob,⟨k+1,ob,(by rw [hdr] at c0_1;clear hdr hx1;grind [Zb6]),rfl,rfl,rfl⟩,(wk [] (fr (fr (fr (fc (x:=.i (k+1:Nat)) li fl)))))⟩
 refine ax 0 (ar (ir 1 [(4,.i (-1))] (ie ?_)))
 try rw [Zv (xs:=xs) (k:=k) om] at c0_1
 exact at_ (r2 [] [.i (-1)] ⟨rfl,rfl⟩ (li (by first|rfl|omega|grind [Zb6])))
theorem Z39 (xs:List Int) (i:Int) (hl_xs:xs.length≤4294967296:=by exact ob):Z3 Tryz.prog 162 [nInt xs,.i i] [] (fun r h=>r=.b (decide (i∈xs))∧h=[]):=by
 refine enter Tryz.func162 kr (n:=9) kr kr (ar (ir 1 [(0,nInt xs),(1,.i i)] (ie (ar (ir 2 [(5,nInt xs),(6,.i i)] (ic [] (Z7q xs i) ?_))))))
 rintro _ _ ⟨rfl,rfl⟩
 refine ir 2 [(4,.b (decide ((Zm9 xs i)≥0)))] (ie ?_)
 exact at_ (r2 [] [.b (decide ((Zm9 xs i)≥0))] ⟨rfl,rfl⟩ (lb (Zrt xs i)))
theorem Z19 (xs:List Int) (ys:List Int) (hl_xs:xs.length≤4294967296:=by exact ob) (hl_ys:ys.length≤4294967296:=by exact ob):Z3 Tryz.prog 215 [nInt xs,nInt ys] [] (fun r h=>r=.b (decide (xs=ys))∧h=[]):=by
 refine enter Tryz.func215 kr (n:=26) kr kr (ar (ir 1 [(0,nInt xs),(1,nInt ys)] (ie (aq (ar (irk 1 (.n 6 (nInt xs) .r) (io (.i xs.length) (.i (((Z6 xs).length:Nat):Int)) (li (by rw [Z5])) (irk 1 (.n 8 (nInt ys) .r) (io (.i ys.length) (.i (((Z6 ys).length:Nat):Int)) (li (by rw [Z5])) (irk 1 (.n 10 (.b ((xs.length:Int) != (ys.length:Int))) .r) (ie (ac ((xs.length:Int) != (ys.length:Int)) bne_iff_ne (fun hc1=>?_) (fun hc1=>?_)))))))))))))
 ·refine ar (ir 1 [(4,.b false)] (ie ?_))
  exact at_ (r2 [] [.b false] ⟨rfl,rfl⟩ (lb (eq_comm.1 (decide_eq_false (fun q=>by rw [q] at hc1;exact hc1 rfl)))))
 refine ak (aq (ar (irk 1 (.n 11 (nInt xs) .r) (io (.i xs.length) (.i (((Z6 xs).length:Nat):Int)) (li (by rw [Z5])) (irk 1 (.n 13 (.i 0) .r) (ie (ab 0 (al (fun m F h=>∃(k:Nat),(k≤xs.length)∧(xs.take k=ys.take k)∧F=[(0,nInt xs),(1,nInt ys),(12,.i xs.length),(13,.i k)]∧h=[]∧m=xs.length-k) _ _ _ ⟨0,ob,ob,rfl,rfl,rfl⟩ (wk [] (fr (fr (fr (fc (x:=.i 0) li fl))))) ?_))))))))
 rintro m F h ⟨k,c0_0,c0_1,rfl,rfl,rfl⟩
 refine ar (irk 1 (.n 14 (.b (decide ((k:Int)<(xs.length:Int)))) .r) (ie (aq (ac (decide ((k:Int)<(xs.length:Int))) decide_eq_true_iff (fun hc2=>?_) (fun hc2=>?_)))))
 ·refine ak (aq (ab 1 (ar (irk 2 (.n 5 (.i k) .r) (ie (aD 9 (dtk (fuel:=7) 9 [0,1] (.n 16 (nInt xs) (.n 17 (.i k) .r)) ?_)))))))
  obtain ⟨x1,hx1⟩:=Z9 (xs:=xs) (j:=k) om
  refine dx 2 (Z0 (es:=Z6 xs) (hv:=none) (j:=(k:Int)) (sz:=1) (y:=.i x1) kr om (Za hx1) rfl) (dtk (fuel:=3) 6 [3,4,5] (.n 19 (.i x1) (.n 20 (nInt ys) (.n 21 (.i k) .r))) ?_)
  obtain ⟨x2,hx2⟩:=Z9 (xs:=ys) (j:=k) om
  refine dx 6 (Z0 (es:=Z6 ys) (hv:=none) (j:=(k:Int)) (sz:=1) (y:=.i x2) kr om (Za hx2) rfl) (dtk (fuel:=0) 2 [7,8] (.n 24 (.b (x1 != x2)) .r) (de (ac (x1 != x2) bne_iff_ne (fun hc3=>?_) (fun hc3=>?_))))
  ·refine ar (ir 1 [(4,.b false)] (ie ?_))
   exact at_ (r2 [] [.b false] ⟨rfl,rfl⟩ (lb (eq_comm.1 (decide_eq_false (fun q=>by subst q;rw [hx1] at hx2;cases hx2;exact hc3 rfl)))))
  refine ak (az (ia (((k+1:Nat):Int)) (((k:Int))+(1)) (ir 1 [(0,nInt xs),(1,nInt ys),(12,.i xs.length),(13,.i (k+1:Nat))] (ie ?_))))
  have hdr:=Z7 hx1
  exact ⟨_,_,_,ob,⟨k+1,ob,(by rw [Z1z hx1,Z1z hx2,c0_1];have hxx:x1=x2:=om;rw [hxx]),rfl,rfl,rfl⟩,(wk [] (fr (fr (fr (fc (x:=.i (k+1:Nat)) li fl)))))⟩
 refine ax 0 (ar (ir 1 [(4,.b true)] (ie ?_)))
 exact at_ (r2 [] [.b true] ⟨rfl,rfl⟩ (lb (eq_comm.1 (decide_eq_true (by rw [List.take_of_length_le om,List.take_of_length_le om] at c0_1;exact c0_1)))))
theorem Z8a (m:Nat) (hm:m≤4294967296:=by exact ob):Z3 Tryz.prog 223 [.sl [] (some (.slice none 0 0)),.i m] [] (fun r h=>∃(v:Hd),r=.h v∧h=[rV v []]):=by
 refine enter Tryz.func223 kr (n:=27) kr kr (Z2r tNil (Zg8 (F':=[(0,.h hN),(1,.i m)]) (h':=[rV hN []]) (wk [0] (fc (x:=.sl [] (some (.slice none 0 0))) (AVLe.hd (v:=hN)) ( fc (x:=.i m) (lr _) (Zue _)))) (ar (ir 1 [(0,.h hN),(1,.i m)] (ie (aq (ar (irk 2 (.n 6 (.b (decide ((m:Int)<0))) .r) (ie (ac (decide ((m:Int)<0)) decide_eq_true_iff (fun hc1=>?_) (fun hc1=>?_)))))))))))
 ·exfalso;omega
 refine ak (aq (ar (irk 2 (.n 8 (.i m) (.n 9 (.h hN) .r)) (is_ (StOK.le (Zzl hN) (li (by rfl))) (irk 1 (.n 11 (.h hN) .r) (is_ (StOK.le (vLen 0 hN []) (li (by rfl))) (ia ((0-0)) ((0)-(0)) (ia ((m:Int)) (((m:Int))-((0-0))) (ir 1 [(0,.h hN),(1,.i m)] (ie (ar (irk 2 (.n 16 (.b (decide ((m:Int)>0))) .r) (ie (ac (decide ((m:Int)>0)) decide_eq_true_iff (fun hc2=>?_) (fun hc2=>?_)))))))))))))))
 ·refine az (irk 2 (.n 17 (.h hN) (.n 18 (.h hN) .r)) (is_ (StOK.le (Zzl hN) (li (by rfl))) (is_ (vCut 0 hN [] 0) (irk 1 (.n 21 (.i m) .r) (iZ m ?_)))))
  intro v1
  refine irk 1 (.n 23 (.h hN) .r) (is_ (StOK.le (vLen 1 hN []) (li (by rfl))) (is_ (vCut 0 v1 (List.replicate m 0) 0) (ir 1 [(0,.h (v1.cut 0))] (ie (ar (ir 2 [(4,.h (v1.cut 0))] (ie (Z2r (tCut 0 0 v1 (List.replicate m 0)) ?_))))))))
  exact at_ (r1 [0] ⟨(v1.cut 0),rfl,rfl⟩ (eq:=(rv (xs:=((List.replicate m 0).take 0)) ob rz)))
 refine ak (ar (ir 2 [(4,.h hN)] (ie ?_)))
 exact at_ (r1 [0] ⟨hN,rfl,rfl⟩)
theorem Z7l (xss:List (List Int)) (hl_xss:xss.length≤4294967296:=by exact ob) (hf:xss.flatten.length≤4294967296:=by exact ob):Z3 Tryz.prog 214 [Z32 xss] [] (fun r h=>∃(v:Value),r=oInt xss.flatten v∧h=[.tail v 1]):=by
 have hft:=Zm0 xss
 refine enter Tryz.func214 kr (n:=36) kr kr (ar (ir 1 [(0,Z32 xss)] (ie (ar (irk 1 (.n 3 (.i 0) .r) (ie (aq (ar (irk 1 (.n 9 (Z32 xss) .r) (io (.i xss.length) (.i (((Z35 xss).length:Nat):Int)) (li (by rw [Z71])) (irk 1 (.n 11 (.i 0) .r) (ie (ab 0 (al (fun m F h=>∃(k:Nat) (q:Nat),(k≤xss.length)∧(q=(xss.take k).flatten.length)∧F=[(0,Z32 xss),(3,.i q),(9,Z32 xss),(10,.i xss.length),(11,.i k)]∧h=[]∧m=xss.length-k) _ _ _ ⟨0,0,ob,(by simp),rfl,rfl,rfl⟩ (wk [] (fr (fc (x:=.i 0) li (fr (fr (fc (x:=.i 0) li fl)))))) ?_))))))))))))))
 rintro m F h ⟨k,q,c0_0,c0_1,rfl,rfl,rfl⟩
 refine ar (irk 1 (.n 12 (.b (decide ((k:Int)<(xss.length:Int)))) .r) (ie (aq (ac (decide ((k:Int)<(xss.length:Int))) decide_eq_true_iff (fun hc1=>?_) (fun hc1=>?_)))))
 ·refine ak (aq (ab 1 (ar ?_)))
  obtain ⟨x1,hx1⟩:=Z9 (xs:=xss) (j:=k) om
  refine is_ (Z0 (es:=Z35 xss) (hv:=none) (j:=(k:Int)) (sz:=1) (y:=nInt x1) kr om (Z4q hx1) rfl) (irk 2 (.n 5 (nInt x1) .r) (ie (ar (irk 2 (.n 15 (.i q) (.n 16 (nInt x1) .r)) (io (.i x1.length) (.i (((Z6 x1).length:Nat):Int)) (li (by rw [Z5])) (ia (((q+x1.length:Nat):Int)) (((q:Int))+((x1.length:Int))) (hb:=(by have:=Zis hx1;omega)) (irk 1 (.n 3 (.i (q+x1.length:Nat)) (.p (.p (.d (.d (.d (.p (.d (.k (.d .r)))))))))) (ie (ar (irk 2 (.n 20 (.b (decide (((q+x1.length:Nat):Int)<0))) .r) (ie (ac (decide (((q+x1.length:Nat):Int)<0)) decide_eq_true_iff (fun hc2=>?_) (fun hc2=>?_)))))))))))))
  ·exfalso;omega
  refine ak (az (ia (((k+1:Nat):Int)) (((k:Int))+(1)) (irk 1 (.n 11 (.i (k+1:Nat)) (.p (.d (.k (.k (.k (.k .z))))))) (ie ?_))))
  have hdr:=Z7 hx1
  exact ⟨_,_,_,ob,⟨k+1,q+x1.length,ob,(by rw [Zgr hx1,List.length_append,c0_1]),rfl,rfl,rfl⟩,(wk [] (fr (fc (x:=.i (q+x1.length:Nat)) li (fr (fr (fc (x:=.i (k+1:Nat)) li fl))))))⟩
 refine ax 0 (ar (irk 1 (.n 23 (.i q) .r) (ic [] (Z8a q (hm:=(by have:=hft k;omega))) ?_)))
 rintro _ _ ⟨v1,rfl,rfl⟩
 refine irk 1 (.n 6 (.h v1) .r) (ie (aq (ar (irk 1 (.n 25 (Z32 xss) .r) (io (.i xss.length) (.i (((Z35 xss).length:Nat):Int)) (li (by rw [Z71])) (irk 1 (.n 27 (.i 0) .r) (ie (ab 2 (al (fun m F h=>∃(j:Nat) (v:Hd),(j≤xss.length)∧F=[(6,.h v),(25,Z32 xss),(26,.i xss.length),(27,.i j)]∧h=[rV v ((xss.take j).flatten)]∧m=xss.length-j) _ _ _ ⟨0,v1,ob,rfl,rfl,rfl⟩ (wk [0] (fr (fr (fr (fc (x:=.i 0) li fl)))) (e:=(rv (xs:=[]) ob rz))) ?_)))))))))
 rintro m F h ⟨j,v,c1_0,rfl,rfl,rfl⟩
 refine ar (irk 1 (.n 28 (.b (decide ((j:Int)<(xss.length:Int)))) .r) (ie (aq (ac (decide ((j:Int)<(xss.length:Int))) decide_eq_true_iff (fun hc3=>?_) (fun hc3=>?_)))))
 ·refine ak (aq (ab 3 (ar ?_)))
  obtain ⟨x2,hx2⟩:=Z9 (xs:=xss) (j:=j) om
  refine is_ (Z0 (es:=Z35 xss) (hv:=none) (j:=(j:Int)) (sz:=1) (y:=nInt x2) kr om (Z4q hx2) rfl) (irk 2 (.n 8 (nInt x2) .r) (ie (az (irk 2 (.n 31 (.h v) (.n 32 (nInt x2) .r)) (iVP 0 v ((xss.take j).flatten) x2 none (hbound:=(by have:=Zis hx2;omega)) ?_)))))
  intro v2
  refine irk 1 (.n 6 (.h v2) (.p (.d (.d (.d (.p (.d (.d .r)))))))) (ie (az (ia (((j+1:Nat):Int)) (((j:Int))+(1)) (irk 1 (.n 27 (.i (j+1:Nat)) (.p (.k (.k (.k .z))))) (ie ?_)))))
  have hdr:=Z7 hx2
  exact ⟨_,_,_,ob,⟨j+1,v2,ob,rfl,rfl,rfl⟩,(wk [0] (fr (fr (fr (fc (x:=.i (j+1:Nat)) li fl)))) (e:=(rv (xs:=((xss.take j).flatten++x2)) (Zgr hx2).symm rz)))⟩
 refine ax 2 (ar (ir 2 [(2,.h v)] (ie (Zld 2 0 (v:=v) (xs:=(xss.take j).flatten) ?_))))
 exact at_ (r2 [0] [oInt ((xss.take j).flatten) v.v] ⟨v.v,rfl,rfl⟩ (AVLe.slh _ (congrArg Z6 (by rw [List.take_of_length_le om]))))
end Go.Abs
end
section
namespace Go.Abs
open Go.Proofs
set_option maxRecDepth 10000
set_option maxHeartbeats 4000000
theorem Z6d (ds:List Decl) (t:Int) (hl_ds:ds.length≤4294967296:=by exact ob):Z3 Tryz.prog 119 [Z2 ds,.i t] [] (fun r h=>r=.b (decide (0≤t∧t≤ds.length))∧h=[]):=by
 refine enter Tryz.func119 kr (n:=13) kr kr (ar (ir 1 [(0,Z2 ds),(1,.i t)] (ie (ar (Z1t 8 [(12,.b ((decide (t≥0))&&(decide (t≤(ds.length:Int)))))] [] ?_ (fun hj1=>?_))))))
 ·refine ir 1 [(4,.b ((decide (t≥0))&&(decide (t≤(ds.length:Int)))))] (ie ?_)
  exact at_ (r2 [] [.b ((decide (t≥0))&&(decide (t≤(ds.length:Int))))] ⟨rfl,rfl⟩ (lb (by rw [Bool.eq_iff_iff];simp)))
 refine ir 3 [(0,Z2 ds),(1,.i t),(7,.b (decide (t≥0)))] (ib (b:=(decide (t≥0))) 7 (fun hb1=>?_) (fun hb1=>?_))
 ·have hp1:t≥0:=(decide_eq_true_iff).1 hb1
  refine irk 2 (.n 8 (.i t) (.n 9 (Z2 ds) (.k .z))) (io (.i ds.length) (.i (((Zt ds).length:Nat):Int)) (li (by rw [Z0e])) (ir 2 [(12,.b (decide (t≤(ds.length:Int))))] ?_))
  exact Z05 (wk [] (fc (x:=.b (decide (t≤(ds.length:Int)))) (lb (by simp only [hb1];rfl)) fl)) hj1
 have hp2:¬(t≥0):=Zj decide_eq_true_iff hb1
 refine ir 5 [(12,.b false)] ?_
 exact Z05 (wk [] (fc (x:=.b false) (lb (by simp only [hb1];rfl)) fl)) hj1
theorem Z9h (ds:List Decl) (xs:List Int) (hl_ds:ds.length≤4294967296:=by exact ob) (hl_xs:xs.length≤4294967296:=by exact ob):Z3 Tryz.prog 118 [Z2 ds,nInt xs] [] (fun r h=>r=.b (Z1o ds.length xs)∧h=[]):=by
 refine enter Tryz.func118 kr (n:=18) kr kr (ar (ir 1 [(0,Z2 ds),(1,nInt xs)] (ie (aq (ar (irk 1 (.n 7 (nInt xs) .r) (io (.i xs.length) (.i (((Z6 xs).length:Nat):Int)) (li (by rw [Z5])) (irk 1 (.n 9 (.i 0) .r) (ie (ab 0 (al (fun m F h=>∃(k:Nat),(k≤xs.length)∧(Z1o ds.length (xs.drop k)=Z1o ds.length xs)∧F=[(0,Z2 ds),(7,nInt xs),(8,.i xs.length),(9,.i k)]∧h=[]∧m=xs.length-k) _ _ _ ⟨0,ob,ob,rfl,rfl,rfl⟩ (wk [] (fr (fr (fr (fc (x:=.i 0) li fl))))) ?_)))))))))))
 rintro m F h ⟨k,c0_0,c0_1,rfl,rfl,rfl⟩
 refine ar (irk 1 (.n 10 (.b (decide ((k:Int)<(xs.length:Int)))) .r) (ie (aq (ac (decide ((k:Int)<(xs.length:Int))) decide_eq_true_iff (fun hc1=>?_) (fun hc1=>?_)))))
 ·refine ak (aq (ab 1 (ar ?_)))
  obtain ⟨x1,hx1⟩:=Z9 (xs:=xs) (j:=k) om
  refine is_ (Z0 (es:=Z6 xs) (hv:=none) (j:=(k:Int)) (sz:=1) (y:=.i x1) kr om (Za hx1) rfl) (irk 2 (.n 6 (.i x1) .r) (ie (ar (irk 2 (.n 13 (Z2 ds) (.n 14 (.i x1) .r)) (ic [] (Z6d ds x1) ?_)))))
  rintro _ _ ⟨rfl,rfl⟩
  refine irk 1 (.n 16 (.b (!(decide (0≤x1∧x1≤ds.length)))) .r) (ie (ac (!(decide (0≤x1∧x1≤ds.length))) (p:=¬(0≤x1∧x1≤ds.length)) (Zg decide_eq_true_iff) (fun hc2=>?_) (fun hc2=>?_)))
  ·refine ar (ir 1 [(4,.b false)] (ie ?_))
   rw [Z7 hx1] at c0_1
   exact at_ (r2 [] [.b false] ⟨rfl,rfl⟩ (lb (by clear hx1;first|rfl|omega|grind [Z1o])))
  refine ak (az (ia (((k+1:Nat):Int)) (((k:Int))+(1)) (irk 1 (.n 9 (.i (k+1:Nat)) (.p (.d (.p (.d (.d (.d (.p (.d (.k (.k (.k .z)))))))))))) (ie ?_))))
  have hdr:=Z7 hx1
  exact ⟨_,_,_,ob,⟨k+1,ob,(by rw [hdr] at c0_1;clear hdr hx1;grind [Z1o]),rfl,rfl,rfl⟩,(wk [] (fr (fr (fr (fc (x:=.i (k+1:Nat)) li fl)))))⟩
 refine ax 0 (ar (ir 1 [(4,.b true)] (ie ?_)))
 try rw [Zv (xs:=xs) (k:=k) om] at c0_1
 exact at_ (r2 [] [.b true] ⟨rfl,rfl⟩ (lb (by first|rfl|omega|grind [Z1o])))
theorem Zf6 (ds:List Decl) (hd:DOk ds:=by exact ob):Z3 Tryz.prog 166 [Z2 ds] [] (fun r h=>r=.i (Zu ds:Nat)∧h=[]):=by
 have hdl:=hd.len
 refine enter Tryz.func166 kr (n:=19) kr kr (ar (ir 1 [(0,Z2 ds)] (ie (ar (irk 1 (.n 3 (.i 0) .r) (ie (aq (ar (irk 1 (.n 6 (Z2 ds) .r) (io (.i ds.length) (.i (((Zt ds).length:Nat):Int)) (li (by rw [Z0e])) (irk 1 (.n 8 (.i 0) .r) (ie (ab 0 (al (fun m F h=>∃(k:Nat),(k≤ds.length)∧F=[(3,.i ((Zu (ds.take k):Nat):Int)),(6,Z2 ds),(7,.i ds.length),(8,.i k)]∧h=[]∧m=ds.length-k) _ _ _ ⟨0,ob,rfl,rfl,rfl⟩ (wk [] (fc (x:=.i 0) li (fr (fr (fc (x:=.i 0) li fl))))) ?_))))))))))))))
 rintro m F h ⟨k,c0_0,rfl,rfl,rfl⟩
 refine ar (irk 1 (.n 9 (.b (decide ((k:Int)<(ds.length:Int)))) .r) (ie (aq (ac (decide ((k:Int)<(ds.length:Int))) decide_eq_true_iff (fun hc1=>?_) (fun hc1=>?_)))))
 ·refine ak (aq (ab 1 (ar ?_)))
  obtain ⟨x1,hx1⟩:=Z9 (xs:=ds) (j:=k) om
  refine is_ (Z0 (es:=Zt ds) (hv:=none) (j:=(k:Int)) (sz:=3) (y:=Z2q x1) kr om (Z0y hx1) rfl) (irk 1 (.n 11 (Z2q x1) .r) (iA [.i 0,.i 0,.sl [] (some (.slice none 0 0))] ?_))
  intro b1
  refine iS 0 b1 0 (Z2i x1) [.i 0,.i 0,.sl [] (some (.slice none 0 0))] (Z2i x1) (ie (az (irK 3 (.n 12 (.i ((Zu (ds.take k):Nat):Int)) (.n 14 (nCon x1.cons) .r)) [0] [b1] (io (.i x1.cons.length) (.i (((Z1f x1.cons).length:Nat):Int)) (li (by rw [Z0k])) (ia (((Zu (ds.take k)+x1.cons.length:Nat):Int)) ((((Zu (ds.take k):Nat):Int))+((x1.cons.length:Int))) (hb:=(by have h1:=hd.cons_at hx1;have h2:=(hd.take k).sum;omega)) (irk 1 (.n 3 (.i ((Zu (ds.take k)+x1.cons.length:Nat):Int)) (.p (.p (.d (.d (.p (.d (.p (.d (.d .r)))))))))) (ie (az (ia (((k+1:Nat):Int)) (((k:Int))+(1)) (irk 1 (.n 8 (.i (k+1:Nat)) (.p (.k (.k (.k .z))))) (ie ?_)))))))))))
  have hdr:=Z7 hx1
  exact ⟨_,_,_,ob,⟨k+1,ob,rfl,rfl,rfl⟩,(wk [] (fc (x:=.i ((Zu (ds.take k)+x1.cons.length:Nat):Int)) (li (by rw [Z1z hx1,Z5h];simp [Zu])) (fr (fr (fc (x:=.i (k+1:Nat)) li fl)))))⟩
 refine ax 0 (ar (ir 2 [(2,.i ((Zu (ds.take k):Nat):Int))] (ie ?_)))
 exact at_ (r2 [] [.i ((Zu (ds.take k):Nat):Int)] ⟨rfl,rfl⟩ (li (by rw [List.take_of_length_le om])))
theorem Zcp (ds:List Decl) (c:Int) (hd:DOk ds:=by exact ob) (hc:-9223372036854775808≤c∧c≤9223372036854775807:=by exact ob):Z3 Tryz.prog 167 [Z2 ds,.i c] [] (fun r h=>r=.tup [.i (Z0a ds c),.agg [nInt (Z1 ds c)]]∧h=[]):=by
 have hdl:=hd.len
 refine enter Tryz.func167 kr (n:=38) kr kr (ar (ir 1 [(0,Z2 ds),(1,.i c)] (iA [.sl [] (some (.slice none 0 0))] ?_)))
 intro b1
 refine ie (aq (ar (irk 1 (.n 8 (Z2 ds) .r) (io (.i ds.length) (.i (((Zt ds).length:Nat):Int)) (li (by rw [Z0e])) (irk 1 (.n 10 (.i 0) .r) (ie (ab 0 (al (fun m F h=>∃(k:Nat) (cv:Int),(k≤ds.length)∧(AtC c (Zu (ds.take k)) cv)∧(Z3t c (ds.drop k) k (Zu (ds.take k))=Z3t c ds 0 0)∧F=[(1,.i cv),(5,.p b1 0),(8,Z2 ds),(9,.i ds.length),(10,.i k)]∧h=[.obj b1 [.sl [] (some (.slice none 0 0))]]∧m=ds.length-k) _ _ _ ⟨0,c,ob,(.inl (by simp [Zu])),rfl,rfl,rfl,rfl⟩ (wk [0] (fr (fr (fr (fr (fc (x:=.i 0) li fl)))))) ?_))))))))
 rintro m F h ⟨k,cv,c0_0,c0_1,c0_2,rfl,rfl,rfl⟩
 refine ar (irk 1 (.n 11 (.b (decide ((k:Int)<(ds.length:Int)))) .r) (ie (aq (ac (decide ((k:Int)<(ds.length:Int))) decide_eq_true_iff (fun hc1=>?_) (fun hc1=>?_)))))
 ·refine ak (aq (ab 1 (ar (irk 1 (.n 12 (.i k) .r) ?_))))
  obtain ⟨x1,hx1⟩:=Z9 (xs:=ds) (j:=k) om
  refine is_ (Z0 (es:=Zt ds) (hv:=none) (j:=(k:Int)) (sz:=3) (y:=Z2q x1) kr om (Z0y hx1) rfl) (irk 1 (.n 14 (Z2q x1) .r) (iA [.i 0,.i 0,.sl [] (some (.slice none 0 0))] ?_))
  intro b2
  refine irk 1 (.n 6 (.i k) .r) (iS 0 b2 0 (Z2i x1) [.i 0,.i 0,.sl [] (some (.slice none 0 0))] (Z2i x1) (ie (aq (ar (Z2h [(1,.i cv),(5,.p b1 0),(6,.i k),(7,.p b2 0),(8,Z2 ds),(9,.i ds.length),(10,.i k),(23,.b ((decide (cv≥0))&&(decide (cv<(x1.cons.length:Int)))))] [.obj b2 (Z2i x1),.obj b1 [.sl [] (some (.slice none 0 0))]] ?_ ?_)))))
  ·refine ir 3 [(1,.i cv),(5,.p b1 0),(6,.i k),(7,.p b2 0),(8,Z2 ds),(9,.i ds.length),(10,.i k),(17,.b (decide (cv≥0)))] (ib (b:=(decide (cv≥0))) 17 (fun hb1=>?_) (fun hb1=>?_))
   ·have hp1:cv≥0:=(decide_eq_true_iff).1 hb1
    refine irK 3 (.n 18 (.i cv) (.n 20 (nCon x1.cons) (.k (.k (.k (.k (.k (.k (.k (.k .z)))))))))) [0] [b2] (io (.i x1.cons.length) (.i (((Z1f x1.cons).length:Nat):Int)) (li (by rw [Z0k])) (irk 2 (.n 23 (.b (decide (cv<(x1.cons.length:Int)))) .r) (ie ?_)))
    exact wk [0,0] (fr (fr (fr (fr (fr (fr (fr (fc (x:=.b (decide (cv<(x1.cons.length:Int)))) (lb (by simp only [hb1];rfl)) fl))))))))
   have hp2:¬(cv≥0):=Zj decide_eq_true_iff hb1
   refine irk 6 (.n 23 (.b false) (.d (.k (.k (.k (.k (.k (.k (.k .z))))))))) (ie ?_)
   exact wk [0,0] (fr (fr (fr (fr (fr (fr (fr (fc (x:=.b false) (lb (by simp only [hb1];rfl)) fl))))))))
  refine ac ((decide (cv≥0))&&(decide (cv<(x1.cons.length:Int)))) (p:=(cv≥0)∧(cv<(x1.cons.length:Int))) (Zo decide_eq_true_iff decide_eq_true_iff) (fun hc2=>?_) (fun hc2=>?_)
  ·refine aD 9 (dt (fuel:=8) 9 [0] [(1,.i cv),(5,.p b1 0),(7,.p b2 0),(24,.i k)] (da 1 (((k+1:Nat):Int)) (((k:Int))+(1)) (dtK (fuel:=4) 7 [2,3,4] (.n 27 (nCon x1.cons) (.n 28 (.i cv) .r)) [0] [b2] ?_)))
   obtain ⟨x2,hx2⟩:=Z9 (xs:=x1.cons) (j:=cv.toNat) om
   refine dx 5 (Z0 (es:=Z1f x1.cons) (hv:=none) (j:=cv) (sz:=1) (y:=aCon x2) kr om (Z4j hx2) rfl) (dtk (fuel:=1) 3 [6,7] (.n 4 (.i (k+1:Nat)) (.n 30 (aCon x2) .r)) (do_ 8 (dS 8 1 [] [] b1 0 (lCon x2) [.sl [] (some (.slice none 0 0))] (lCon x2) (de ?_))))
   have hz:=(hd.take k).sum
   have h3:=hd.cons_at hx1
   have hH:=c0_2.symm.trans (Zlr hx1 c0_1 om h3 hc.1 hc2 hx2)
   exact at_ (r3 [] [.i (k+1:Nat),aCon x2] [0] [(b1,b1)] ⟨rfl,rfl⟩ (AVLe.tup (.cons (li (by rw [Z0a,hH];omega)) (.cons (AVLe.agg (.cons (AVLe.sl _ (congrArg Z6 (by rw [Z1,hH]))) .nil)) .nil))))
  refine ak (az (iR 3 [(5,.p b1 0),(8,Z2 ds),(9,.i ds.length),(10,.i k),(31,.i cv),(33,nCon x1.cons)] [0] [b2] (io (.i x1.cons.length) (.i (((Z1f x1.cons).length:Nat):Int)) (li (by rw [Z0k])) (iW ((cv)-((x1.cons.length:Int))) (irk 1 (.n 1 (.i (wrp ((cv)-((x1.cons.length:Int))))) .r) (ie (az (ia (((k+1:Nat):Int)) (((k:Int))+(1)) (irk 1 (.n 10 (.i (k+1:Nat)) (.p (.k (.p (.p (.k (.k (.k .z)))))))) (ie ?_))))))))))
  have hdr:=Z7 hx1
  exact ⟨_,_,_,ob,⟨k+1,(wrp ((cv)-((x1.cons.length:Int)))),ob,(by have hz:=(hd.take k).sum;have h3:=hd.cons_at hx1;rw [Z1z hx1,Z5h];simpa [Zu] using Z026 c0_1 om h3 hc),(Zo1 hx1 c0_1 hc2 c0_2),rfl,rfl,rfl⟩,(wk [1] (fr (fr (fr (fr (fc (x:=.i (k+1:Nat)) li fl))))))⟩
 refine ax 0 (ar (irk 2 (.n 4 (.i (-1)) (.n 37 (.agg [.sl [] (some (.slice none 0 0))]) .r)) (iS 0 b1 0 [.sl [] (some (.slice none 0 0))] [.sl [] (some (.slice none 0 0))] [.sl [] (some (.slice none 0 0))] (ie ?_))))
 have hH:Z3t c ds 0 0=(-1,[]):=by rw [←c0_2,Zv om];rfl
 exact at_ (r3 [] [.i (-1),.agg [.sl [] (some (.slice none 0 0))]] [0] [(b1,b1)] ⟨rfl,rfl⟩ (AVLe.tup (.cons (li (by rw [Z0a,hH])) (.cons (AVLe.agg (.cons (AVLe.sl _ (by rw [Z1,hH];rfl)) .nil)) .nil))))
theorem Zf8 (ds:List Decl) (c:Int) (hd:DOk ds:=by exact ob) (hc:-9223372036854775808≤c∧c≤9223372036854775807:=by exact ob):Z3 Tryz.prog 124 [Z2 ds,.i c] [] (fun r h=>r=nInt (Z1 ds c)∧h=[]):=by
 refine enter Tryz.func124 kr (n:=15) kr kr (ar (ir 1 [(0,Z2 ds),(1,.i c)] (ie (ar (ir 2 [(8,Z2 ds),(9,.i c)] (ic [] (Zcp ds c) ?_))))))
 rintro _ _ ⟨rfl,rfl⟩
 refine ir 3 [(11,.i (Z0a ds c)),(12,.agg [nInt (Z1 ds c)])] (iA [.sl [] (some (.slice none 0 0))] ?_)
 intro b1
 refine irk 1 .r (iS 0 b1 0 [nInt (Z1 ds c)] [.sl [] (some (.slice none 0 0))] [nInt (Z1 ds c)] (ie (ar (iR 3 [(4,nInt (Z1 ds c))] [0] [b1] (ie ?_)))))
 exact at_ (r1 [] ⟨rfl,rfl⟩)
theorem Zhx (ds:List Decl) (t:Int) (hd:DOk ds:=by exact ob):Z3 Tryz.prog 123 [Z2 ds,.i t] [] (fun r h=>r=nInt (Zb ds t)∧h=[]):=by
 have hdl:=hd.len
 refine enter Tryz.func123 kr (n:=39) kr kr (ar (ir 1 [(0,Z2 ds),(1,.i t)] (ie (aq (ar (Z2h [(0,Z2 ds),(1,.i t),(15,.b ((decide (t<1))||(decide (t>(ds.length:Int)))))] [] ?_ ?_))))))
 ·refine ir 3 [(0,Z2 ds),(1,.i t),(10,.b (decide (t<1)))] (ib (b:=(decide (t<1))) 10 (fun hb1=>?_) (fun hb1=>?_))
  ·have hp1:t<1:=(decide_eq_true_iff).1 hb1
   refine irk 5 (.n 15 (.b true) (.d (.k (.k .z)))) (ie ?_)
   exact wk [] (fr (fr (fc (x:=.b true) (lb (by simp only [hb1];rfl)) fl)))
  have hp2:¬(t<1):=Zj decide_eq_true_iff hb1
  refine irk 2 (.n 11 (.i t) (.n 12 (Z2 ds) (.k (.k (.k .z))))) (io (.i ds.length) (.i (((Zt ds).length:Nat):Int)) (li (by rw [Z0e])) (irk 2 (.n 15 (.b (decide (t>(ds.length:Int)))) .r) (ie ?_)))
  exact wk [] (fr (fr (fc (x:=.b (decide (t>(ds.length:Int)))) (lb (by simp only [hb1];rfl)) fl)))
 refine ac ((decide (t<1))||(decide (t>(ds.length:Int)))) (p:=(t<1)∨(t>(ds.length:Int))) (Zf decide_eq_true_iff decide_eq_true_iff) (fun hc1=>?_) (fun hc1=>?_)
 ·refine ar (ir 1 [(4,.sl [] (some (.slice none 0 0)))] (ie ?_))
  exact at_ (r2 [] [.sl [] (some (.slice none 0 0))] ⟨rfl,rfl⟩ (AVLe.sl _ (by rw [Zb,if_neg om];rfl)))
 have hti:1≤t∧t≤ds.length:=by omega
 obtain ⟨d,hd1⟩:=Z9 (xs:=ds) (j:=(t-1).toNat) om
 have hdc:=hd.cons_at hd1
 have hsm:=(hd.take (t-1).toNat).sum
 refine ak (ar (ir 2 [(0,Z2 ds),(1,.i t),(16,Z2 ds),(17,.i t)] (ia ((((t-1).toNat:Nat):Int)) ((t)-(1)) (is_ (Z8q (es:=Zt ds) (hv:=none) (l:=0) (m:=(((t-1).toNat:Nat):Int)) (sz:=3) (es':=Zt (ds.take ((t-1).toNat))) kr om (by simp<;>omega) (by simp<;>omega) (Z76 _) (by first|(simp only [Int.toNat_natCast,List.take_length,Z62,Z61];done)|(simp only [Int.toNat_natCast,List.take_length,Z62,Z61];rfl)|(simp [Z62,Z61];done))) (ic [] (Zf6 (ds.take ((t-1).toNat)) (hd:=(hd.take _))) ?_)))))
 rintro _ _ ⟨rfl,rfl⟩
 refine irk 1 (.n 5 (.i ((Zu (ds.take ((t-1).toNat)):Nat):Int)) .r) (ie (ar (irk 1 (.n 6 (.sl [] (some (.slice none 0 0))) .r) (ie (aq (ar (irk 2 (.n 21 (Z2 ds) (.n 22 (.i t) .r)) (ia ((((t-1).toNat:Nat):Int)) ((t)-(1)) (is_ (Z0 (es:=Zt ds) (hv:=none) (j:=(((t-1).toNat:Nat):Int)) (sz:=3) (y:=Z2q d) kr om (Z0y hd1) rfl) (irk 2 (.n 26 (nCon d.cons) .r) (io (.i d.cons.length) (.i (((Z1f d.cons).length:Nat):Int)) (li (by rw [Z0k])) (irk 1 (.n 28 (.i 0) .r) (ie (ab 0 (Z6h 1 (al (fun m F h=>∃(k:Nat) (v:Value),(k≤d.cons.length)∧F=[(5,.i ((Zu (ds.take ((t-1).toNat)):Nat):Int)),(6,oInt (Z17 (Zu (ds.take (t-1).toNat)) k) v),(27,.i d.cons.length),(28,.i k)]∧h=[.tail v 1]∧m=d.cons.length-k) _ _ _ ⟨0,(.slice none 0 0),ob,rfl,rfl,rfl⟩ (wk [0] (fr (fc (x:=.sl [] (some (.slice none 0 0))) (AVLe.slh _ rfl) (fr (fc (x:=.i 0) li fl))))) ?_))))))))))))))))
 rintro m F h ⟨k,v,c0_0,rfl,rfl,rfl⟩
 refine ar (irk 1 (.n 29 (.b (decide ((k:Int)<(d.cons.length:Int)))) .r) (ie (aq (ac (decide ((k:Int)<(d.cons.length:Int))) decide_eq_true_iff (fun hc2=>?_) (fun hc2=>?_)))))
 ·refine ak (aq (ab 1 (ar (irk 2 (.n 7 (.i k) .r) (ie (az (irk 3 (.n 31 (oInt (Z17 (Zu (ds.take (t-1).toNat)) k) v) (.n 32 (.i ((Zu (ds.take ((t-1).toNat)):Nat):Int)) (.n 33 (.i k) .r))) (ia ((((Zu (ds.take ((t-1).toNat)))+k:Nat):Int)) ((((Zu (ds.take ((t-1).toNat)):Nat):Int))+((k:Int))) (iL (Z6 [(((Zu (ds.take ((t-1).toNat)))+k:Nat):Int)]) 1 1 ?_)))))))))
  intro v1
  refine irk 0 (.n 35 (nInt [(((Zu (ds.take ((t-1).toNat)))+k:Nat):Int)]) (.p .r)) (ip 1 (Z6 (Z17 (Zu (ds.take (t-1).toNat)) k++[(((Zu (ds.take ((t-1).toNat)))+k:Nat):Int)])) (Z6 (Z17 (Zu (ds.take (t-1).toNat)) k)) (Z6 [(((Zu (ds.take ((t-1).toNat)))+k:Nat):Int)]) v none 1 (Z14 _) (Z14 _) (Z48 _) (by simp;omega) (by simp [Z2n,Z6]) ?_)
  intro v2
  refine irk 1 (.n 6 (oInt (Z17 (Zu (ds.take (t-1).toNat)) k++[(((Zu (ds.take ((t-1).toNat)))+k:Nat):Int)]) v2) (.p (.d (.p (.d (.d (.d (.d (.d (.k (.d .r))))))))))) (ie (az (ia (((k+1:Nat):Int)) (((k:Int))+(1)) (irk 1 (.n 28 (.i (k+1:Nat)) (.p (.k (.k (.k .z))))) (ie ?_)))))
  exact ⟨_,_,_,ob,⟨k+1,v2,ob,rfl,rfl,rfl⟩,(wk [0] (fr (fc (x:=oInt (Z17 (Zu (ds.take (t-1).toNat)) k++[(((Zu (ds.take ((t-1).toNat)))+k:Nat):Int)]) v2) (AVLe.slh _ (congrArg Z6 (Zd0 _ _).symm)) (fr (fc (x:=.i (k+1:Nat)) li fl)))))⟩
 refine ax 0 (ar (ir 2 [(4,oInt (Z17 (Zu (ds.take (t-1).toNat)) k) v)] (ie ?_)))
 exact at_ (r2 [] [oInt (Z17 (Zu (ds.take (t-1).toNat)) k) v] ⟨rfl,rfl⟩ (AVLe.sl _ (congrArg Z6 (by rw [Zb,if_pos hti,hd1,show k=d.cons.length by omega];rfl))))
theorem Z5l (ds:List Decl) (t:Int) (hd:DOk ds:=by exact ob):Z3 Tryz.prog 195 [Z2 ds,.i t] [] (fun r h=>r=.tup [Z2q (Z2b ds t),.b (Z02 ds t)]∧h=[]):=by
 have hdl:=hd.len
 refine enter Tryz.func195 kr (n:=30) kr kr (ar (iA [.i 0,.i 0,.sl [] (some (.slice none 0 0))] ?_))
 intro b1
 refine ir 1 [(0,Z2 ds),(1,.i t),(4,.p b1 0)] (ie (aq (ar (Z1t 8 [(0,Z2 ds),(1,.i t),(4,.p b1 0),(13,.b ((decide (t<1))||(decide (t>(ds.length:Int)))))] [.obj b1 [.i 0,.i 0,.sl [] (some (.slice none 0 0))]] ?_ (fun hj1=>?_)))))
 ·refine ir 1 [(0,Z2 ds),(1,.i t),(4,.p b1 0),(14,.b ((decide (t<1))||(decide (t>(ds.length:Int)))))] (ib (b:=((decide (t<1))||(decide (t>(ds.length:Int))))) 14 (fun hb1=>?_) (fun hb1=>?_))
  ·have hp1:(t<1)∨(t>(ds.length:Int)):=((Zf decide_eq_true_iff decide_eq_true_iff)).1 hb1
   refine irk 9 (.n 23 (.b true) (.d (.k (.k (.k .z))))) (ie (ac1 (ar (irk 1 (.n 24 (.agg [.i 0,.i 0,.sl [] (some (.slice none 0 0))]) .r) (iS 0 b1 0 [.i 0,.i 0,.sl [] (some (.slice none 0 0))] [.i 0,.i 0,.sl [] (some (.slice none 0 0))] [.i 0,.i 0,.sl [] (some (.slice none 0 0))] (irk 1 (.n 5 (.b false) .r) (ie ?_)))))))
   have hA:Z02 ds t=false:=(Z92 om).symm
   have hD:Z2b ds t=⟨0,0,[]⟩:=by rw [Z2b,hA];rfl
   exact at_ (r3 [] [.agg [.i 0,.i 0,.sl [] (some (.slice none 0 0))],.b false] [0] [(b1,b1)] ⟨rfl,rfl⟩ (AVLe.tup (.cons (AVLe.agg (.cons (li (by rw [hD])) (.cons (li (by rw [hD])) (.cons (AVLe.sl _ (by rw [hD];rfl)) .nil)))) (.cons (lb (by rw [hA])) .nil))))
  have hp2:¬((t<1)∨(t>(ds.length:Int))):=Zj (Zf decide_eq_true_iff decide_eq_true_iff) hb1
  refine irk 2 (.n 15 (Z2 ds) (.n 16 (.i t) (.k (.k (.k (.k .z)))))) (ia ((t-1)) ((t)-(1)) ?_)
  obtain ⟨x1,hx1⟩:=Z9 (xs:=ds) (j:=(t-1).toNat) om
  refine is_ (Z0 (es:=Zt ds) (hv:=none) (j:=(t-1)) (sz:=3) (y:=Z2q x1) kr om (Z0y hx1) rfl) (irk 2 (.n 20 (nCon x1.cons) .r) (io (.i x1.cons.length) (.i (((Z1f x1.cons).length:Nat):Int)) (li (by rw [Z0k])) (irk 2 (.n 23 (.b (decide ((x1.cons.length:Int)>0))) .r) (ie (ac (decide ((x1.cons.length:Int)>0)) decide_eq_true_iff (fun hc1=>?_) (fun hc1=>?_))))))
  ·refine ar (irk 1 (.n 24 (.agg [.i 0,.i 0,.sl [] (some (.slice none 0 0))]) .r) (iS 0 b1 0 [.i 0,.i 0,.sl [] (some (.slice none 0 0))] [.i 0,.i 0,.sl [] (some (.slice none 0 0))] [.i 0,.i 0,.sl [] (some (.slice none 0 0))] (irk 1 (.n 5 (.b false) .r) (ie ?_))))
   have hA:Z02 ds t=false:=(Z75 om hx1).symm.trans (beq_eq_false_iff_ne.2 om)
   have hD:Z2b ds t=⟨0,0,[]⟩:=by rw [Z2b,hA];rfl
   exact at_ (r3 [] [.agg [.i 0,.i 0,.sl [] (some (.slice none 0 0))],.b false] [0] [(b1,b1)] ⟨rfl,rfl⟩ (AVLe.tup (.cons (AVLe.agg (.cons (li (by rw [hD])) (.cons (li (by rw [hD])) (.cons (AVLe.sl _ (by rw [hD];rfl)) .nil)))) (.cons (lb (by rw [hA])) .nil))))
  refine ak (ar (irk 2 (.n 25 (Z2 ds) (.n 26 (.i t) .r)) (ia ((t-1)) ((t)-(1)) (is_ (Z0 (es:=Zt ds) (hv:=none) (j:=(t-1)) (sz:=3) (y:=Z2q x1) kr om (Z0y hx1) rfl) (irk 1 (.n 29 (Z2q x1) .r) (iS 0 b1 0 (Z2i x1) [.i 0,.i 0,.sl [] (some (.slice none 0 0))] (Z2i x1) (irk 1 (.n 5 (.b true) .r) (ie ?_))))))))
  have hA:Z02 ds t=true:=(Z75 om hx1).symm.trans (beq_iff_eq.2 om)
  have hD:Z2b ds t=x1:=by rw [Z2b,hA,hx1];rfl
  exact at_ (r3 [] [Z2q x1,.b true] [0] [(b1,b1)] ⟨rfl,rfl⟩ (AVLe.tup (.cons (AVLe.agg (.cons (li (by rw [hD])) (.cons (li (by rw [hD])) (.cons (AVLe.sl _ (congrArg Z1f (by rw [hD]))) .nil)))) (.cons (lb (by rw [hA])) .nil))))
 refine ir 3 [(0,Z2 ds),(1,.i t),(4,.p b1 0),(8,.b (decide (t<1)))] (ib (b:=(decide (t<1))) 8 (fun hb2=>?_) (fun hb2=>?_))
 ·have hp3:t<1:=(decide_eq_true_iff).1 hb2
  refine irk 5 (.n 13 (.b true) (.d (.k (.k (.k .z))))) ?_
  exact Z05 (wk [0] (fr (fr (fr (fc (x:=.b true) (lb (by simp only [hb2];rfl)) fl))))) hj1
 have hp4:¬(t<1):=Zj decide_eq_true_iff hb2
 refine irk 2 (.n 9 (.i t) (.n 10 (Z2 ds) (.k (.k (.k (.k .z)))))) (io (.i ds.length) (.i (((Zt ds).length:Nat):Int)) (li (by rw [Z0e])) (irk 2 (.n 13 (.b (decide (t>(ds.length:Int)))) .r) ?_))
 exact Z05 (wk [0] (fr (fr (fr (fc (x:=.b (decide (t>(ds.length:Int)))) (lb (by simp only [hb2];rfl)) fl))))) hj1
theorem Zgu (ds:List Decl) (frm:Int) (to_:Int) (hl_ds:ds.length≤4294967296:=by exact ob):Z3 Tryz.prog 216 [Z2 ds,.i frm,.i to_] [] (fun r h=>r=.i (Z2d ds frm to_)∧h=[]):=by
 refine enter Tryz.func216 kr (n:=35) kr kr (ar (ir 1 [(0,Z2 ds),(1,.i frm),(2,.i to_)] (ie (aq (ar (irk 1 (.n 9 (Z2 ds) .r) (io (.i ds.length) (.i (((Zt ds).length:Nat):Int)) (li (by rw [Z0e])) (irk 1 (.n 11 (.i 0) .r) (ie (ab 0 (al (fun m F h=>∃(k:Nat),(k≤ds.length)∧(Z3r frm to_ (ds.drop k) k=Z2d ds frm to_)∧F=[(1,.i frm),(2,.i to_),(9,Z2 ds),(10,.i ds.length),(11,.i k)]∧h=[]∧m=ds.length-k) _ _ _ ⟨0,ob,rfl,rfl,rfl,rfl⟩ (wk [] (fr (fr (fr (fr (fc (x:=.i 0) li fl)))))) ?_)))))))))))
 rintro m F h ⟨k,c0_0,c0_1,rfl,rfl,rfl⟩
 refine ar (irk 1 (.n 12 (.b (decide ((k:Int)<(ds.length:Int)))) .r) (ie (aq (ac (decide ((k:Int)<(ds.length:Int))) decide_eq_true_iff (fun hc1=>?_) (fun hc1=>?_)))))
 ·refine ak (aq (ab 1 (ar (irk 1 (.n 13 (.i k) .r) ?_))))
  obtain ⟨x1,hx1⟩:=Z9 (xs:=ds) (j:=k) om
  refine is_ (Z0 (es:=Zt ds) (hv:=none) (j:=(k:Int)) (sz:=3) (y:=Z2q x1) kr om (Z0y hx1) rfl) (irk 1 (.n 15 (Z2q x1) .r) (iA [.i 0,.i 0,.sl [] (some (.slice none 0 0))] ?_))
  intro b1
  refine irk 1 (.n 7 (.i k) .r) (iS 0 b1 0 (Z2i x1) [.i 0,.i 0,.sl [] (some (.slice none 0 0))] (Z2i x1) (ie (ar (irK 2 (.n 17 (nCon x1.cons) .r) [0] [b1] (io (.i x1.cons.length) (.i (((Z1f x1.cons).length:Nat):Int)) (li (by rw [Z0k])) (Z1t 10 [(1,.i frm),(2,.i to_),(7,.i k),(8,.p b1 0),(9,Z2 ds),(10,.i ds.length),(11,.i k),(25,.b (((x1.cons.length:Int)==0)&&(x1.frm==frm)))] [.obj b1 (Z2i x1)] ?_ (fun hj1=>?_)))))))
  ·refine Z2h [(1,.i frm),(2,.i to_),(7,.i k),(9,Z2 ds),(10,.i ds.length),(11,.i k),(31,.b ((((x1.cons.length:Int)==0)&&(x1.frm==frm))&&(x1.to_==to_)))] [.obj b1 (Z2i x1)] ?_ ?_
   ·refine ir 1 [(1,.i frm),(2,.i to_),(7,.i k),(8,.p b1 0),(9,Z2 ds),(10,.i ds.length),(11,.i k),(26,.b (((x1.cons.length:Int)==0)&&(x1.frm==frm)))] (ib (b:=(((x1.cons.length:Int)==0)&&(x1.frm==frm))) 26 (fun hb1=>?_) (fun hb1=>?_))
    ·have hp1:((x1.cons.length:Int)=0)∧(x1.frm=frm):=((Zo beq_iff_eq beq_iff_eq)).1 hb1
     refine irK 5 (.n 31 (.b (x1.to_==to_)) (.d (.k (.k (.k (.d (.k (.k (.k .z))))))))) [0] [b1] (ie ?_)
     exact wk [0] (fr (fr (fr (fr (fr (fr (fc (x:=.b (x1.to_==to_)) (lb (by simp only [hb1];rfl)) fl)))))))
    have hp2:¬(((x1.cons.length:Int)=0)∧(x1.frm=frm)):=Zj (Zo beq_iff_eq beq_iff_eq) hb1
    refine irk 5 (.n 31 (.b false) (.d (.k (.k (.k (.d (.k (.k (.k .z))))))))) (ie ?_)
    exact wk [0] (fr (fr (fr (fr (fr (fr (fc (x:=.b false) (lb (by simp only [hb1];rfl)) fl)))))))
   refine ac ((((x1.cons.length:Int)==0)&&(x1.frm==frm))&&(x1.to_==to_)) (p:=(((x1.cons.length:Int)=0)∧(x1.frm=frm))∧(x1.to_=to_)) (Zo (Zo beq_iff_eq beq_iff_eq) beq_iff_eq) (fun hc2=>?_) (fun hc2=>?_)
   ·refine ar (ir 1 [(32,.i k)] (ia (((k+1:Nat):Int)) (((k:Int))+(1)) (ir 1 [(6,.i (k+1:Nat))] (ie ?_))))
    rw [Z7 hx1] at c0_1
    exact at_ (r2 [] [.i (k+1:Nat)] ⟨rfl,rfl⟩ (li (by clear hx1;first|rfl|omega|grind [Z3r])))
   refine ak (az (ia (((k+1:Nat):Int)) (((k:Int))+(1)) (ir 1 [(1,.i frm),(2,.i to_),(9,Z2 ds),(10,.i ds.length),(11,.i (k+1:Nat))] (ie ?_))))
   have hdr:=Z7 hx1
   exact ⟨_,_,_,ob,⟨k+1,ob,(by rw [hdr] at c0_1;clear hdr hx1;grind [Z3r]),rfl,rfl,rfl⟩,(wk [] (fr (fr (fr (fr (fc (x:=.i (k+1:Nat)) li fl))))))⟩
  refine ir 2 [(1,.i frm),(2,.i to_),(7,.i k),(8,.p b1 0),(9,Z2 ds),(10,.i ds.length),(11,.i k),(20,.b ((x1.cons.length:Int)==0))] (ib (b:=((x1.cons.length:Int)==0)) 20 (fun hb2=>?_) (fun hb2=>?_))
  ·have hp3:(x1.cons.length:Int)=0:=(beq_iff_eq).1 hb2
   refine irK 5 (.n 25 (.b (x1.frm==frm)) (.d (.k (.k (.k (.k (.k (.k (.k .z))))))))) [0] [b1] ?_
   exact Z05 (wk [0] (fr (fr (fr (fr (fr (fr (fr (fc (x:=.b (x1.frm==frm)) (lb (by simp only [hb2];rfl)) fl))))))))) hj1
  have hp4:¬((x1.cons.length:Int)=0):=Zj beq_iff_eq hb2
  refine irk 5 (.n 25 (.b false) (.d (.k (.k (.k (.k (.k (.k (.k .z))))))))) ?_
  exact Z05 (wk [0] (fr (fr (fr (fr (fr (fr (fr (fc (x:=.b false) (lb (by simp only [hb2];rfl)) fl))))))))) hj1
 refine ax 0 (ar (ir 1 [(6,.i (-1))] (ie ?_)))
 try rw [Zv (xs:=ds) (k:=k) om] at c0_1
 exact at_ (r2 [] [.i (-1)] ⟨rfl,rfl⟩ (li (by first|rfl|omega|grind [Z3r])))
theorem Zcn (ds:List Decl) (hz:DSz ds:=by exact ob):Z3 Tryz.prog 117 [Z2 ds] [] (fun r h=>r=.b (Z00 ds)∧h=[]):=by
 have hzl:=hz.len
 refine enter Tryz.func117 kr (n:=106) kr kr (ar (ir 1 [(0,Z2 ds)] (ie (aq (ar (irk 1 (.n 9 (Z2 ds) .r) (io (.i ds.length) (.i (((Zt ds).length:Nat):Int)) (li (by rw [Z0e])) (irk 1 (.n 11 (.b (decide ((ds.length:Int)>4))) .r) (ie (ac (decide ((ds.length:Int)>4)) decide_eq_true_iff (fun hc1=>?_) (fun hc1=>?_)))))))))))
 ·refine ar (ir 1 [(2,.b false)] (ie ?_))
  exact at_ (r2 [] [.b false] ⟨rfl,rfl⟩ (lb (by rw [Z00,decide_eq_false om];rfl)))
 refine ak (aq (ar (irk 1 (.n 12 (Z2 ds) .r) (io (.i ds.length) (.i (((Zt ds).length:Nat):Int)) (li (by rw [Z0e])) (irk 1 (.n 14 (.i 0) .r) (ie (ab 0 (al (fun m F h=>∃(k:Nat),(k≤ds.length)∧(Z3u ds (ds.drop k) k=Z3u ds ds 0)∧F=[(0,Z2 ds),(12,Z2 ds),(13,.i ds.length),(14,.i k)]∧h=[]∧m=ds.length-k) _ _ _ ⟨0,ob,rfl,rfl,rfl,rfl⟩ (wk [] (fr (fr (fr (fc (x:=.i 0) li fl))))) ?_))))))))
 rintro m F h ⟨k,c0_0,c0_1,rfl,rfl,rfl⟩
 refine ar (irk 1 (.n 15 (.b (decide ((k:Int)<(ds.length:Int)))) .r) (ie (aq (ac (decide ((k:Int)<(ds.length:Int))) decide_eq_true_iff (fun hc2=>?_) (fun hc2=>?_)))))
 ·refine ak (aq (ab 1 (ar (irk 1 (.n 16 (.i k) .r) ?_))))
  obtain ⟨x1,hx1⟩:=Z9 (xs:=ds) (j:=k) om
  have hz1:=hz.cons_at hx1
  refine is_ (Z0 (es:=Zt ds) (hv:=none) (j:=(k:Int)) (sz:=3) (y:=Z2q x1) kr om (Z0y hx1) rfl) (irk 1 (.n 18 (Z2q x1) .r) (iA [.i 0,.i 0,.sl [] (some (.slice none 0 0))] ?_))
  intro b1
  refine irk 1 (.n 3 (.i k) .r) (iS 0 b1 0 (Z2i x1) [.i 0,.i 0,.sl [] (some (.slice none 0 0))] (Z2i x1) (ie (aq (ar (irK 3 (.n 19 (Z2 ds) (.n 21 (.i x1.frm) .r)) [0] [b1] (ic [] (Z6d ds x1.frm) ?_))))))
  rintro _ _ ⟨rfl,rfl⟩
  refine Z1t 12 [(0,Z2 ds),(3,.i k),(4,.p b1 0),(12,Z2 ds),(13,.i ds.length),(14,.i k),(30,.b ((!(decide (0≤x1.frm∧x1.frm≤ds.length)))||(!(decide (0≤x1.to_∧x1.to_≤ds.length)))))] [.obj b1 (Z2i x1)] ?_ (fun hj1=>?_)
  ·refine Z1t 18 [(0,Z2 ds),(3,.i k),(4,.p b1 0),(12,Z2 ds),(13,.i ds.length),(14,.i k),(36,.b (((!(decide (0≤x1.frm∧x1.frm≤ds.length)))||(!(decide (0≤x1.to_∧x1.to_≤ds.length))))||(decide ((x1.cons.length:Int)>3))))] [.obj b1 (Z2i x1)] ?_ (fun hj2=>?_)
   ·refine Z2h [(0,Z2 ds),(3,.i k),(4,.p b1 0),(12,Z2 ds),(13,.i ds.length),(14,.i k),(52,.b ((((!(decide (0≤x1.frm∧x1.frm≤ds.length)))||(!(decide (0≤x1.to_∧x1.to_≤ds.length))))||(decide ((x1.cons.length:Int)>3)))||((decide ((x1.cons.length:Int)>0))&&((x1.frm != 0)||(x1.to_ != 0)))))] [.obj b1 (Z2i x1)] ?_ ?_
    ·refine ir 1 [(0,Z2 ds),(3,.i k),(4,.p b1 0),(12,Z2 ds),(13,.i ds.length),(14,.i k),(37,.b (((!(decide (0≤x1.frm∧x1.frm≤ds.length)))||(!(decide (0≤x1.to_∧x1.to_≤ds.length))))||(decide ((x1.cons.length:Int)>3))))] (ib (b:=(((!(decide (0≤x1.frm∧x1.frm≤ds.length)))||(!(decide (0≤x1.to_∧x1.to_≤ds.length))))||(decide ((x1.cons.length:Int)>3)))) 37 (fun hb1=>?_) (fun hb1=>?_))
     ·have hp1:((¬(0≤x1.frm∧x1.frm≤ds.length))∨(¬(0≤x1.to_∧x1.to_≤ds.length)))∨((x1.cons.length:Int)>3):=((Zf (Zf (Zg decide_eq_true_iff) (Zg decide_eq_true_iff)) decide_eq_true_iff)).1 hb1
      refine irk 15 (.n 52 (.b true) (.d (.k (.k (.k (.k (.k (.k .z)))))))) (ie ?_)
      exact wk [0] (fr (fr (fr (fr (fr (fr (fc (x:=.b true) (lb (by simp only [hb1];rfl)) fl)))))))
     have hp2:¬(((¬(0≤x1.frm∧x1.frm≤ds.length))∨(¬(0≤x1.to_∧x1.to_≤ds.length)))∨((x1.cons.length:Int)>3)):=Zj (Zf (Zf (Zg decide_eq_true_iff) (Zg decide_eq_true_iff)) decide_eq_true_iff) hb1
     refine irK 2 (.n 39 (nCon x1.cons) (.k (.k (.k (.k (.k (.k (.k .z)))))))) [0] [b1] (io (.i x1.cons.length) (.i (((Z1f x1.cons).length:Nat):Int)) (li (by rw [Z0k])) (irk 2 (.n 42 (.b (decide ((x1.cons.length:Int)>0))) .r) (ib (b:=(decide ((x1.cons.length:Int)>0))) 42 (fun hb2=>?_) (fun hb2=>?_))))
     ·have hp3:(x1.cons.length:Int)>0:=(decide_eq_true_iff).1 hb2
      refine irK 4 (.n 46 (.b (x1.frm != 0)) (.k (.d .r))) [0] [b1] (ib (b:=(x1.frm != 0)) 46 (fun hb3=>?_) (fun hb3=>?_))
      ·have hp4:x1.frm≠0:=(bne_iff_ne).1 hb3
       refine irk 6 (.n 52 (.b true) (.k (.d .r))) (ie ?_)
       exact wk [0] (fr (fr (fr (fr (fr (fr (fc (x:=.b true) (lb (by simp only [hb1,hb2,hb3];rfl)) fl)))))))
      have hp5:¬(x1.frm≠0):=Zj bne_iff_ne hb3
      refine irK 6 (.n 52 (.b (x1.to_ != 0)) (.k (.d .r))) [0] [b1] (ie ?_)
      exact wk [0] (fr (fr (fr (fr (fr (fr (fc (x:=.b (x1.to_ != 0)) (lb (by simp only [hb1,hb2,hb3];rfl)) fl)))))))
     have hp6:¬((x1.cons.length:Int)>0):=Zj decide_eq_true_iff hb2
     refine irk 10 (.n 52 (.b false) (.k (.d .r))) (ie ?_)
     exact wk [0] (fr (fr (fr (fr (fr (fr (fc (x:=.b false) (lb (by simp only [hb1,hb2];rfl)) fl)))))))
    refine ac ((((!(decide (0≤x1.frm∧x1.frm≤ds.length)))||(!(decide (0≤x1.to_∧x1.to_≤ds.length))))||(decide ((x1.cons.length:Int)>3)))||((decide ((x1.cons.length:Int)>0))&&((x1.frm != 0)||(x1.to_ != 0)))) (p:=(((¬(0≤x1.frm∧x1.frm≤ds.length))∨(¬(0≤x1.to_∧x1.to_≤ds.length)))∨((x1.cons.length:Int)>3))∨(((x1.cons.length:Int)>0)∧((x1.frm≠0)∨(x1.to_≠0)))) (Zf (Zf (Zf (Zg decide_eq_true_iff) (Zg decide_eq_true_iff)) decide_eq_true_iff) (Zo decide_eq_true_iff (Zf bne_iff_ne bne_iff_ne))) (fun hc3=>?_) (fun hc3=>?_)
    ·refine ar (ir 1 [(2,.b false)] (ie ?_))
     exact at_ (r2 [] [.b false] ⟨rfl,rfl⟩ (lb (Zhq hx1 (Zo4 hc3) c0_1)))
    refine ak (aq (ar (iR 2 [(0,Z2 ds),(3,.i k),(4,.p b1 0),(12,Z2 ds),(13,.i ds.length),(14,.i k),(54,nCon x1.cons)] [0] [b1] (io (.i x1.cons.length) (.i (((Z1f x1.cons).length:Nat):Int)) (li (by rw [Z0k])) (irk 1 (.n 56 (.i 0) .r) (ie (ab 2 (al (fun m F h=>∃(q:Nat),(q≤x1.cons.length)∧(Z4d ds.length (x1.cons.drop q)=Z4d ds.length x1.cons)∧F=[(0,Z2 ds),(3,.i k),(4,.p b1 0),(12,Z2 ds),(13,.i ds.length),(14,.i k),(54,nCon x1.cons),(55,.i x1.cons.length),(56,.i q)]∧h=[.obj b1 (Z2i x1)]∧m=x1.cons.length-q) _ _ _ ⟨0,ob,rfl,rfl,rfl,rfl⟩ (wk [0] (fr (fr (fr (fr (fr (fr (fr (fr (fc (x:=.i 0) li fl)))))))))) ?_))))))))
    rintro m F h ⟨q,c1_0,c1_1,rfl,rfl,rfl⟩
    refine ar (irk 1 (.n 57 (.b (decide ((q:Int)<(x1.cons.length:Int)))) .r) (ie (aq (ac (decide ((q:Int)<(x1.cons.length:Int))) decide_eq_true_iff (fun hc4=>?_) (fun hc4=>?_)))))
    ·refine ak (aq (ab 3 (ar ?_)))
     obtain ⟨x2,hx2⟩:=Z9 (xs:=x1.cons) (j:=q) om
     refine is_ (Z0 (es:=Z1f x1.cons) (hv:=none) (j:=(q:Int)) (sz:=1) (y:=aCon x2) kr om (Z4j hx2) rfl) (irk 1 (.n 59 (aCon x2) .r) (iA [.sl [] (some (.slice none 0 0))] ?_))
     intro b2
     refine iS 0 b2 0 (lCon x2) [.sl [] (some (.slice none 0 0))] (lCon x2) (ie (ar (irK 2 (.n 61 (nInt x2.fields) .r) [0] [b2] (io (.i x2.fields.length) (.i (((Z6 x2.fields).length:Nat):Int)) (li (by rw [Z5])) (Z2h [(0,Z2 ds),(3,.i k),(4,.p b1 0),(12,Z2 ds),(13,.i ds.length),(14,.i k),(54,nCon x1.cons),(55,.i x1.cons.length),(56,.i q),(70,.b ((decide ((x2.fields.length:Int)>3))||(!Z1o ds.length x2.fields)))] [.obj b2 (lCon x2),.obj b1 (Z2i x1)] ?_ ?_)))))
     ·refine ir 2 [(0,Z2 ds),(3,.i k),(4,.p b1 0),(6,.p b2 0),(12,Z2 ds),(13,.i ds.length),(14,.i k),(54,nCon x1.cons),(55,.i x1.cons.length),(56,.i q),(64,.b (decide ((x2.fields.length:Int)>3)))] (ib (b:=(decide ((x2.fields.length:Int)>3))) 64 (fun hb4=>?_) (fun hb4=>?_))
      ·have hp7:(x2.fields.length:Int)>3:=(decide_eq_true_iff).1 hb4
       refine irk 6 (.n 70 (.b true) (.d (.k (.k (.k (.d (.k (.k (.k (.k (.k (.k .z)))))))))))) (ie ?_)
       exact wk [0,0] (fr (fr (fr (fr (fr (fr (fr (fr (fr (fc (x:=.b true) (lb (by simp only [hb4];rfl)) fl))))))))))
      have hp8:¬((x2.fields.length:Int)>3):=Zj decide_eq_true_iff hb4
      refine irK 3 (.n 65 (Z2 ds) (.n 67 (nInt x2.fields) (.k (.k (.k (.k (.d (.k (.k (.k (.k (.k (.k .z))))))))))))) [0] [b2] (ic [] (Z9h ds x2.fields) ?_)
      rintro _ _ ⟨rfl,rfl⟩
      refine irk 2 (.n 70 (.b (!Z1o ds.length x2.fields)) .r) (ie ?_)
      exact wk [0,0] (fr (fr (fr (fr (fr (fr (fr (fr (fr (fc (x:=.b (!Z1o ds.length x2.fields)) (lb (by simp only [hb4];rfl)) fl))))))))))
     refine ac ((decide ((x2.fields.length:Int)>3))||(!Z1o ds.length x2.fields)) (p:=((x2.fields.length:Int)>3)∨(¬(Z1o ds.length x2.fields=true))) (Zf decide_eq_true_iff (Zg Iff.rfl)) (fun hc5=>?_) (fun hc5=>?_)
     ·refine ar (ir 1 [(2,.b false)] (ie ?_))
      exact at_ (r2 [] [.b false] ⟨rfl,rfl⟩ (lb (Zhq hx1 (Zo5 om (by rw [←c1_1,Z7 hx2,Z4d,if_neg (by rw [Ztp hc5];simp)])) c0_1)))
     refine ak (az (ia (((q+1:Nat):Int)) (((q:Int))+(1)) (ir 1 [(0,Z2 ds),(3,.i k),(4,.p b1 0),(12,Z2 ds),(13,.i ds.length),(14,.i k),(54,nCon x1.cons),(55,.i x1.cons.length),(56,.i (q+1:Nat))] (ie ?_))))
     have hdr:=Z7 hx2
     exact ⟨_,_,_,ob,⟨q+1,ob,(by rw [Z7 hx2,Z4d,if_pos (Zrd hc5)] at c1_1;exact c1_1),rfl,rfl,rfl⟩,(wk [1] (fr (fr (fr (fr (fr (fr (fr (fr (fc (x:=.i (q+1:Nat)) li fl))))))))))⟩
    have hC:Z4d ds.length x1.cons=true:=by rw [←c1_1,Zv om];rfl
    refine ax 2 (ar (irk 2 (.n 72 (Z2 ds) (.n 73 (.i k) .r)) (is_ (Z8q (es:=Zt ds) (hv:=none) (l:=0) (m:=(k:Int)) (sz:=3) (es':=Zt (ds.take k)) kr om (by simp<;>omega) (by simp<;>omega) (Z76 _) (by first|(simp only [Int.toNat_natCast,List.take_length,Z62,Z61];done)|(simp only [Int.toNat_natCast,List.take_length,Z62,Z61];rfl)|(simp [Z62,Z61];done))) (io (.i (((ds.take k).length:Nat):Int)) (.i (((Zt (ds.take k)).length:Nat):Int)) (li (by rw [Z0e])) (irk 1 (.n 76 (.i 0) .r) (ie (ab 4 (al (fun m F h=>∃(j:Nat),(j≤k)∧(x1.cons.length=0→Zca x1 ((ds.take k).drop j)=Zca x1 (ds.take k))∧F=[(0,Z2 ds),(4,.p b1 0),(12,Z2 ds),(13,.i ds.length),(14,.i k),(74,Z2 (ds.take k)),(75,.i (((ds.take k).length:Nat):Int)),(76,.i j)]∧h=[.obj b1 (Z2i x1)]∧m=k-j) _ _ _ ⟨0,ob,ob,rfl,rfl,rfl⟩ (wk [0] (fr (fr (fr (fr (fr (fr (fr (fc (x:=.i 0) li fl))))))))) ?_))))))))
    rintro m F h ⟨j,c2_0,c2_1,rfl,rfl,rfl⟩
    refine ar (irk 1 (.n 77 (.b (decide ((j:Int)<(((ds.take k).length:Nat):Int)))) .r) (ie (aq (ac (decide ((j:Int)<(((ds.take k).length:Nat):Int))) decide_eq_true_iff (fun hc6=>?_) (fun hc6=>?_)))))
    ·have htl:(ds.take k).length≤k:=by rw [List.length_take];omega
     refine ak (aq (ab 5 (ar ?_)))
     obtain ⟨x3,hx3⟩:=Z9 (xs:=(ds.take k)) (j:=j) om
     refine is_ (Z0 (es:=Zt (ds.take k)) (hv:=none) (j:=(j:Int)) (sz:=3) (y:=Z2q x3) kr om (Z0y hx3) rfl) (irk 1 (.n 79 (Z2q x3) .r) (iA [.i 0,.i 0,.sl [] (some (.slice none 0 0))] ?_))
     intro b3
     refine iS 0 b3 0 (Z2i x3) [.i 0,.i 0,.sl [] (some (.slice none 0 0))] (Z2i x3) (ie (ar (irK 2 (.n 81 (nCon x1.cons) .r) [1] [b1] (io (.i x1.cons.length) (.i (((Z1f x1.cons).length:Nat):Int)) (li (by rw [Z0k])) (Z1t 10 [(0,Z2 ds),(4,.p b1 0),(8,.p b3 0),(12,Z2 ds),(13,.i ds.length),(14,.i k),(74,Z2 (ds.take k)),(75,.i (((ds.take k).length:Nat):Int)),(76,.i j),(89,.b (((x1.cons.length:Int)==0)&&((x3.cons.length:Int)==0)))] [.obj b3 (Z2i x3),.obj b1 (Z2i x1)] ?_ (fun hj3=>?_))))))
     ·refine Z1t 17 [(0,Z2 ds),(4,.p b1 0),(8,.p b3 0),(12,Z2 ds),(13,.i ds.length),(14,.i k),(74,Z2 (ds.take k)),(75,.i (((ds.take k).length:Nat):Int)),(76,.i j),(96,.b ((((x1.cons.length:Int)==0)&&((x3.cons.length:Int)==0))&&(x3.frm==x1.frm)))] [.obj b3 (Z2i x3),.obj b1 (Z2i x1)] ?_ (fun hj4=>?_)
      ·refine Z2h [(0,Z2 ds),(4,.p b1 0),(12,Z2 ds),(13,.i ds.length),(14,.i k),(74,Z2 (ds.take k)),(75,.i (((ds.take k).length:Nat):Int)),(76,.i j),(103,.b (((((x1.cons.length:Int)==0)&&((x3.cons.length:Int)==0))&&(x3.frm==x1.frm))&&(x3.to_==x1.to_)))] [.obj b3 (Z2i x3),.obj b1 (Z2i x1)] ?_ ?_
       ·refine ir 1 [(0,Z2 ds),(4,.p b1 0),(8,.p b3 0),(12,Z2 ds),(13,.i ds.length),(14,.i k),(74,Z2 (ds.take k)),(75,.i (((ds.take k).length:Nat):Int)),(76,.i j),(97,.b ((((x1.cons.length:Int)==0)&&((x3.cons.length:Int)==0))&&(x3.frm==x1.frm)))] (ib (b:=((((x1.cons.length:Int)==0)&&((x3.cons.length:Int)==0))&&(x3.frm==x1.frm))) 97 (fun hb5=>?_) (fun hb5=>?_))
        ·have hp9:(((x1.cons.length:Int)=0)∧((x3.cons.length:Int)=0))∧(x3.frm=x1.frm):=((Zo (Zo beq_iff_eq beq_iff_eq) beq_iff_eq)).1 hb5
         refine irK 6 (.n 103 (.b (x3.to_==x1.to_)) (.d (.k (.k (.d (.k (.k (.k (.k (.k (.k .z))))))))))) [0,1] [b3,b1] (ie ?_)
         exact wk [0,0] (fr (fr (fr (fr (fr (fr (fr (fr (fc (x:=.b (x3.to_==x1.to_)) (lb (by simp only [hb5];rfl)) fl)))))))))
        have hp10:¬((((x1.cons.length:Int)=0)∧((x3.cons.length:Int)=0))∧(x3.frm=x1.frm)):=Zj (Zo (Zo beq_iff_eq beq_iff_eq) beq_iff_eq) hb5
        refine irk 6 (.n 103 (.b false) (.d (.k (.k (.d (.k (.k (.k (.k (.k (.k .z))))))))))) (ie ?_)
        exact wk [0,0] (fr (fr (fr (fr (fr (fr (fr (fr (fc (x:=.b false) (lb (by simp only [hb5];rfl)) fl)))))))))
       refine ac (((((x1.cons.length:Int)==0)&&((x3.cons.length:Int)==0))&&(x3.frm==x1.frm))&&(x3.to_==x1.to_)) (p:=((((x1.cons.length:Int)=0)∧((x3.cons.length:Int)=0))∧(x3.frm=x1.frm))∧(x3.to_=x1.to_)) (Zo (Zo (Zo beq_iff_eq beq_iff_eq) beq_iff_eq) beq_iff_eq) (fun hc7=>?_) (fun hc7=>?_)
       ·refine ar (ir 1 [(2,.b false)] (ie ?_))
        exact at_ (r2 [] [.b false] ⟨rfl,rfl⟩ (lb (Zhq hx1 (Zo6 om (by rw [←c2_1 om,Z7 hx3,Zca,if_pos om])) c0_1)))
       refine ak (az (ia (((j+1:Nat):Int)) (((j:Int))+(1)) (ir 1 [(0,Z2 ds),(4,.p b1 0),(12,Z2 ds),(13,.i ds.length),(14,.i k),(74,Z2 (ds.take k)),(75,.i (((ds.take k).length:Nat):Int)),(76,.i (j+1:Nat))] (ie ?_))))
       exact ⟨_,_,_,ob,⟨j+1,ob,(fun q=>by have hq:=c2_1 q;rw [Z7 hx3,Zca,if_neg om] at hq;exact hq),rfl,rfl,rfl⟩,(wk [1] (fr (fr (fr (fr (fr (fr (fr (fc (x:=.i (j+1:Nat)) li fl)))))))))⟩
      refine ir 1 [(0,Z2 ds),(4,.p b1 0),(8,.p b3 0),(12,Z2 ds),(13,.i ds.length),(14,.i k),(74,Z2 (ds.take k)),(75,.i (((ds.take k).length:Nat):Int)),(76,.i j),(90,.b (((x1.cons.length:Int)==0)&&((x3.cons.length:Int)==0)))] (ib (b:=(((x1.cons.length:Int)==0)&&((x3.cons.length:Int)==0))) 90 (fun hb6=>?_) (fun hb6=>?_))
      ·have hp11:((x1.cons.length:Int)=0)∧((x3.cons.length:Int)=0):=((Zo beq_iff_eq beq_iff_eq)).1 hb6
       refine irK 6 (.n 96 (.b (x3.frm==x1.frm)) (.d (.k (.k (.k (.k (.k (.k (.k (.k (.k .z))))))))))) [0,1] [b3,b1] ?_
       exact Z05 (wk [0,0] (fr (fr (fr (fr (fr (fr (fr (fr (fr (fc (x:=.b (x3.frm==x1.frm)) (lb (by simp only [hb6];rfl)) fl))))))))))) hj4
      have hp12:¬(((x1.cons.length:Int)=0)∧((x3.cons.length:Int)=0)):=Zj (Zo beq_iff_eq beq_iff_eq) hb6
      refine irk 6 (.n 96 (.b false) (.d (.k (.k (.k (.k (.k (.k (.k (.k (.k .z))))))))))) ?_
      exact Z05 (wk [0,0] (fr (fr (fr (fr (fr (fr (fr (fr (fr (fc (x:=.b false) (lb (by simp only [hb6];rfl)) fl))))))))))) hj4
     refine ir 2 [(0,Z2 ds),(4,.p b1 0),(8,.p b3 0),(12,Z2 ds),(13,.i ds.length),(14,.i k),(74,Z2 (ds.take k)),(75,.i (((ds.take k).length:Nat):Int)),(76,.i j),(84,.b ((x1.cons.length:Int)==0))] (ib (b:=((x1.cons.length:Int)==0)) 84 (fun hb7=>?_) (fun hb7=>?_))
     ·have hp13:(x1.cons.length:Int)=0:=(beq_iff_eq).1 hb7
      refine irK 2 (.n 86 (nCon x3.cons) (.k (.k (.k (.k (.k (.k (.k (.k (.k (.k .z))))))))))) [0] [b3] (io (.i x3.cons.length) (.i (((Z1f x3.cons).length:Nat):Int)) (li (by rw [Z0k])) (irk 2 (.n 89 (.b ((x3.cons.length:Int)==0)) .r) ?_))
      exact Z05 (wk [0,0] (fr (fr (fr (fr (fr (fr (fr (fr (fr (fc (x:=.b ((x3.cons.length:Int)==0)) (lb (by simp only [hb7];rfl)) fl))))))))))) hj3
     have hp14:¬((x1.cons.length:Int)=0):=Zj beq_iff_eq hb7
     refine irk 5 (.n 89 (.b false) (.d (.k (.k (.k (.k (.k (.k (.k (.k (.k .z))))))))))) ?_
     exact Z05 (wk [0,0] (fr (fr (fr (fr (fr (fr (fr (fr (fr (fc (x:=.b false) (lb (by simp only [hb7];rfl)) fl))))))))))) hj3
    have htl:(ds.take k).length=k:=by rw [List.length_take];omega
    have hD:x1.cons.length=0→Zca x1 (ds.take k)=false:=fun q=>by rw [←c2_1 q,Zv om];rfl
    refine ax 4 (az (ia (((k+1:Nat):Int)) (((k:Int))+(1)) (irk 1 (.n 14 (.i (k+1:Nat)) (.p (.d (.k (.d (.k (.k .z))))))) (ie ?_))))
    have hdr:=Z7 hx1
    exact ⟨_,_,_,ob,⟨k+1,ob,(Zz5 hx1 (Zo7 hc3 hC hD) c0_1),rfl,rfl,rfl⟩,(wk [] (fr (fr (fr (fc (x:=.i (k+1:Nat)) li fl)))))⟩
   refine ir 1 [(0,Z2 ds),(3,.i k),(4,.p b1 0),(12,Z2 ds),(13,.i ds.length),(14,.i k),(31,.b ((!(decide (0≤x1.frm∧x1.frm≤ds.length)))||(!(decide (0≤x1.to_∧x1.to_≤ds.length)))))] (ib (b:=((!(decide (0≤x1.frm∧x1.frm≤ds.length)))||(!(decide (0≤x1.to_∧x1.to_≤ds.length))))) 31 (fun hb8=>?_) (fun hb8=>?_))
   ·have hp15:(¬(0≤x1.frm∧x1.frm≤ds.length))∨(¬(0≤x1.to_∧x1.to_≤ds.length)):=((Zf (Zg decide_eq_true_iff) (Zg decide_eq_true_iff))).1 hb8
    refine irk 5 (.n 36 (.b true) (.d (.k (.k (.k (.k (.k (.k .z)))))))) ?_
    exact Z05 (wk [0] (fr (fr (fr (fr (fr (fr (fc (x:=.b true) (lb (by simp only [hb8];rfl)) fl)))))))) hj2
   have hp16:¬((¬(0≤x1.frm∧x1.frm≤ds.length))∨(¬(0≤x1.to_∧x1.to_≤ds.length))):=Zj (Zf (Zg decide_eq_true_iff) (Zg decide_eq_true_iff)) hb8
   refine irK 2 (.n 33 (nCon x1.cons) (.k (.k (.k (.k (.k (.k (.k .z)))))))) [0] [b1] (io (.i x1.cons.length) (.i (((Z1f x1.cons).length:Nat):Int)) (li (by rw [Z0k])) (irk 2 (.n 36 (.b (decide ((x1.cons.length:Int)>3))) .r) ?_))
   exact Z05 (wk [0] (fr (fr (fr (fr (fr (fr (fc (x:=.b (decide ((x1.cons.length:Int)>3))) (lb (by simp only [hb8];rfl)) fl)))))))) hj2
  refine ir 2 [(0,Z2 ds),(3,.i k),(4,.p b1 0),(12,Z2 ds),(13,.i ds.length),(14,.i k),(24,.b (!(decide (0≤x1.frm∧x1.frm≤ds.length))))] (ib (b:=(!(decide (0≤x1.frm∧x1.frm≤ds.length)))) 24 (fun hb9=>?_) (fun hb9=>?_))
  ·have hp17:¬(0≤x1.frm∧x1.frm≤ds.length):=((Zg decide_eq_true_iff)).1 hb9
   refine irk 6 (.n 30 (.b true) (.d (.k (.k (.k (.k (.k (.k .z)))))))) ?_
   exact Z05 (wk [0] (fr (fr (fr (fr (fr (fr (fc (x:=.b true) (lb (by simp only [hb9];rfl)) fl)))))))) hj1
  have hp18:¬(¬(0≤x1.frm∧x1.frm≤ds.length)):=Zj (Zg decide_eq_true_iff) hb9
  refine irK 3 (.n 25 (Z2 ds) (.n 27 (.i x1.to_) (.k (.k (.k (.k (.k (.k (.k .z))))))))) [0] [b1] (ic [] (Z6d ds x1.to_) ?_)
  rintro _ _ ⟨rfl,rfl⟩
  refine irk 2 (.n 30 (.b (!(decide (0≤x1.to_∧x1.to_≤ds.length)))) .r) ?_
  exact Z05 (wk [0] (fr (fr (fr (fr (fr (fr (fc (x:=.b (!(decide (0≤x1.to_∧x1.to_≤ds.length)))) (lb (by simp only [hb9];rfl)) fl)))))))) hj1
 refine ax 0 (ar (ir 1 [(2,.b true)] (ie ?_)))
 exact at_ (r2 [] [.b true] ⟨rfl,rfl⟩ (lb (Zx2 om om c0_1)))
end Go.Abs
end
section
namespace Go.Abs
open Go.Proofs
set_option maxRecDepth 10000
set_option maxHeartbeats 4000000
theorem Z4g (op:Int) :Z3 Tryz.prog 67 [.i op] [] (fun r h=>r=.b (Z0w op)∧h=[]):=by
 refine enter Tryz.func67 kr (n:=9) kr kr (ar (ir 1 [(0,.i op)] (ie (ar (Z1t 6 [(8,.b ((decide (op≥14))&&(decide (op≤17))))] [] ?_ (fun hj1=>?_))))))
 ·refine ir 1 [(2,.b ((decide (op≥14))&&(decide (op≤17))))] (ie ?_)
  exact at_ (r2 [] [.b ((decide (op≥14))&&(decide (op≤17)))] ⟨rfl,rfl⟩ (lb (by rw [Z0w,Bool.eq_iff_iff];simp)))
 refine ir 3 [(0,.i op),(5,.b (decide (op≥14)))] (ib (b:=(decide (op≥14))) 5 (fun hb1=>?_) (fun hb1=>?_))
 ·have hp1:op≥14:=(decide_eq_true_iff).1 hb1
  refine ir 3 [(8,.b (decide (op≤17)))] ?_
  exact Z05 (wk [] (fc (x:=.b (decide (op≤17))) (lb (by simp only [hb1];rfl)) fl)) hj1
 have hp2:¬(op≥14):=Zj decide_eq_true_iff hb1
 refine ir 3 [(8,.b false)] ?_
 exact Z05 (wk [] (fc (x:=.b false) (lb (by simp only [hb1];rfl)) fl)) hj1
theorem Z7i (op:Int) :Z3 Tryz.prog 201 [.i op] [] (fun r h=>r=.b (Z2k op)∧h=[]):=by
 refine enter Tryz.func201 kr (n:=17) kr kr (ar (ir 1 [(0,.i op)] (ie (ar (Z1t 6 [(0,.i op),(8,.b ((op==6)||(op==9)))] [] ?_ (fun hj1=>?_))))))
 ·refine Z1t 10 [(0,.i op),(12,.b (((op==6)||(op==9))||(op==10)))] [] ?_ (fun hj2=>?_)
  ·refine Z1t 14 [(16,.b ((((op==6)||(op==9))||(op==10))||(op==11)))] [] ?_ (fun hj3=>?_)
   ·refine ir 1 [(2,.b ((((op==6)||(op==9))||(op==10))||(op==11)))] (ie ?_)
    exact at_ (r2 [] [.b ((((op==6)||(op==9))||(op==10))||(op==11))] ⟨rfl,rfl⟩ (lb (by first|rfl|omega|grind [Z2k])))
   refine ir 1 [(0,.i op),(13,.b (((op==6)||(op==9))||(op==10)))] (ib (b:=(((op==6)||(op==9))||(op==10))) 13 (fun hb1=>?_) (fun hb1=>?_))
   ·have hp1:((op=6)∨(op=9))∨(op=10):=((Zf (Zf beq_iff_eq beq_iff_eq) beq_iff_eq)).1 hb1
    refine ir 3 [(16,.b true)] ?_
    exact Z05 (wk [] (fc (x:=.b true) (lb (by simp only [hb1];rfl)) fl)) hj3
   have hp2:¬(((op=6)∨(op=9))∨(op=10)):=Zj (Zf (Zf beq_iff_eq beq_iff_eq) beq_iff_eq) hb1
   refine ir 3 [(16,.b (op==11))] ?_
   exact Z05 (wk [] (fc (x:=.b (op==11)) (lb (by simp only [hb1];rfl)) fl)) hj3
  refine ir 1 [(0,.i op),(9,.b ((op==6)||(op==9)))] (ib (b:=((op==6)||(op==9))) 9 (fun hb2=>?_) (fun hb2=>?_))
  ·have hp3:(op=6)∨(op=9):=((Zf beq_iff_eq beq_iff_eq)).1 hb2
   refine ir 3 [(0,.i op),(12,.b true)] ?_
   exact Z05 (wk [] (fr (fc (x:=.b true) (lb (by simp only [hb2];rfl)) fl))) hj2
  have hp4:¬((op=6)∨(op=9)):=Zj (Zf beq_iff_eq beq_iff_eq) hb2
  refine ir 3 [(0,.i op),(12,.b (op==10))] ?_
  exact Z05 (wk [] (fr (fc (x:=.b (op==10)) (lb (by simp only [hb2];rfl)) fl))) hj2
 refine ir 3 [(0,.i op),(5,.b (op==6))] (ib (b:=(op==6)) 5 (fun hb3=>?_) (fun hb3=>?_))
 ·have hp5:op=6:=(beq_iff_eq).1 hb3
  refine ir 3 [(0,.i op),(8,.b true)] ?_
  exact Z05 (wk [] (fr (fc (x:=.b true) (lb (by simp only [hb3];rfl)) fl))) hj1
 have hp6:¬(op=6):=Zj beq_iff_eq hb3
 refine ir 3 [(0,.i op),(8,.b (op==9))] ?_
 exact Z05 (wk [] (fr (fc (x:=.b (op==9)) (lb (by simp only [hb3];rfl)) fl))) hj1
theorem Zaw (b:Block) (c:Nat) (v:Int) (hb:b.sz≤1000000000:=by exact ob) (hv:0≤v∧v≤600:=by exact ob) (ih:∀(b2:Block) (c:Nat) (v:Int),(b2.sz<b.sz)→(0≤v∧v≤600)→Z3 Tryz.prog 126 [Zk b2,.p c 0] [.obj c [.i v]] (fun r h=>(r=.b true∧h=[.obj c [.i (600-Z3m b2 (600-v))]]∧0≤Z3m b2 (600-v))∨(r=.b false∧h=[]∧Z3m b2 (600-v)<0))):Z3 Tryz.prog 126 [Zk b,.p c 0] [.obj c [.i v]] (fun r h=>(r=.b true∧h=[.obj c [.i (600-Z3m b (600-v))]]∧0≤Z3m b (600-v))∨(r=.b false∧h=[]∧Z3m b (600-v)<0)):=by
 have hbz:=Z81 b
 have hbe:=Zq2 b (600-v)
 refine enter Tryz.func126 kr (n:=38) kr kr (ar (iA (Z1b b) ?_))
 intro b1
 refine ir 1 [(1,.p c 0),(2,.p b1 0)] (ie (aq (ar (irK 2 (.n 10 (Z10 b.steps) .r) [0] [b1] (io (.i b.steps.length) (.i (((Z0t b.steps).length:Nat):Int)) (li (by rw [Z1c])) (irk 1 (.n 12 (.i 0) .r) (ie (ab 0 (al (fun m F h=>∃(k:Nat) (q:Int),(k≤b.steps.length)∧(0≤q∧q≤600)∧(Z6n (b.steps.drop k) (600-q)=Z6n b.steps (600-v))∧F=[(1,.p c 0),(10,Z10 b.steps),(11,.i b.steps.length),(12,.i k)]∧h=[.obj c [.i q]]∧m=b.steps.length-k) _ _ _ ⟨0,v,ob,ob,rfl,rfl,rfl,rfl⟩ (wk [1] (fr (fr (fr (fc (x:=.i 0) li fl))))) ?_)))))))))
 rintro m F h ⟨k,q,c0_0,c0_1,c0_2,rfl,rfl,rfl⟩
 refine ar (irk 1 (.n 13 (.b (decide ((k:Int)<(b.steps.length:Int)))) .r) (ie (aq (ac (decide ((k:Int)<(b.steps.length:Int))) decide_eq_true_iff (fun hc1=>?_) (fun hc1=>?_)))))
 ·refine ak (aq (ab 1 (ar ?_)))
  obtain ⟨x1,hx1⟩:=Z9 (xs:=b.steps) (j:=k) om
  have hss:=Zl7 hx1
  have hkz:=Z64 x1
  refine is_ (Z0 (es:=Z0t b.steps) (hv:=none) (j:=(k:Int)) (sz:=5) (y:=Z0q x1) kr om (Z2t hx1) rfl) (irk 1 (.n 15 (Z0q x1) .r) (iA [.i 0,.i 0,.i 0,.sl [] (some (.slice none 0 0)),.sl [] (some (.slice none 0 0))] ?_))
  intro b2
  refine iS 0 b2 0 (Z0j x1) [.i 0,.i 0,.i 0,.sl [] (some (.slice none 0 0)),.sl [] (some (.slice none 0 0))] (Z0j x1) (ie (aq (ar (irK 3 (.n 16 (.p c 0) (.n 18 (.i q) .r)) [1] [c] (ia ((q+1)) ((q)+(1)) (irk 1 (.n 20 (.p c 0) .r) (iS 1 c 0 [.i (q+1)] [.i q] [.i (q+1)] (ie (ar (irK 4 (.n 24 (.b (decide ((q+1)>600))) .r) [0] [c] (ie (ac (decide ((q+1)>600)) decide_eq_true_iff (fun hc2=>?_) (fun hc2=>?_)))))))))))))
  ·refine ar (ir 1 [(4,.b false)] (ie ?_))
   exact at_ (r1 [] (.inr ⟨rfl,rfl,(by rw [hbe,←c0_2,Z7 hx1,Z6n,if_pos om];omega)⟩))
  refine ak (ar (irK 2 (.n 26 (Z03 x1.kids) .r) [1] [b2] (io (.i x1.kids.length) (.i (((Z0i x1.kids).length:Nat):Int)) (li (by rw [Z0n])) (irk 1 (.n 28 (.i 0) .r) (ie (ab 2 (al (fun m F h=>∃(j:Nat) (j2:Int),(j≤x1.kids.length)∧(0≤j2∧j2≤600)∧(Z6z (x1.kids.drop j) (600-j2)=Z6z x1.kids (600-(q+1)))∧F=[(1,.p c 0),(10,Z10 b.steps),(11,.i b.steps.length),(12,.i k),(26,Z03 x1.kids),(27,.i x1.kids.length),(28,.i j)]∧h=[.obj c [.i j2]]∧m=x1.kids.length-j) _ _ _ ⟨0,(q+1),ob,ob,rfl,rfl,rfl,rfl⟩ (wk [0] (fr (fr (fr (fr (fr (fr (fc (x:=.i 0) li fl)))))))) ?_)))))))
  rintro m F h ⟨j,j2,c1_0,c1_1,c1_2,rfl,rfl,rfl⟩
  refine ar (irk 1 (.n 29 (.b (decide ((j:Int)<(x1.kids.length:Int)))) .r) (ie (aq (ac (decide ((j:Int)<(x1.kids.length:Int))) decide_eq_true_iff (fun hc3=>?_) (fun hc3=>?_)))))
  ·refine ak (aq (ab 3 (ar ?_)))
   obtain ⟨x2,hx2⟩:=Z9 (xs:=x1.kids) (j:=j) om
   have hks:=Z9i hx2
   have hle:=Zka.2 x2 (600-j2) om
   refine is_ (Z0 (es:=Z0i x1.kids) (hv:=none) (j:=(j:Int)) (sz:=2) (y:=Zk x2) kr om (Z22 hx2) rfl) (irk 1 (.n 31 (Zk x2) .r) (iA [.sl [] (some (.slice none 0 0)),.i 0] ?_))
   intro b3
   refine iS 0 b3 0 (Z1b x2) [.sl [] (some (.slice none 0 0)),.i 0] (Z1b x2) (ie (ar (irK 2 (.n 32 (Zk x2) (.n 33 (.p c 0) .r)) [0] [b3] (ic [1] (ih x2 c j2 ob ob) ?_))))
   rintro _ _ (⟨rfl,rfl,hp1⟩|⟨rfl,rfl,hp2⟩)
   ·refine irk 1 (.n 35 (.b false) .r) (ie (ac0 (ak (az (ia (((j+1:Nat):Int)) (((j:Int))+(1)) (irk 1 (.n 28 (.i (j+1:Nat)) (.p (.d (.p (.d (.d (.p (.d (.p (.d (.k (.k (.k (.k (.k (.k .z)))))))))))))))) (ie ?_)))))))
    have hdr:=Z7 hx2
    exact ⟨_,_,_,ob,⟨j+1,(600-Z3m x2 (600-j2)),ob,ob,(by rw [Z7 hx2,Z6z,if_neg om] at c1_2;rw [show 600-(600-Z3m x2 (600-j2))=Z3m x2 (600-j2) by omega];exact c1_2),rfl,rfl,rfl⟩,(wk [0] (fr (fr (fr (fr (fr (fr (fc (x:=.i (j+1:Nat)) li fl))))))))⟩
   refine irk 1 (.n 35 (.b true) .r) (ie (ac1 (ar (ir 1 [(4,.b false)] (ie ?_)))))
   exact at_ (r1 [] (.inr ⟨rfl,rfl,(by rw [hbe,←c0_2,Z7 hx1,Z6n,if_neg om,if_pos (by rw [Zfs,show (600-q-1:Int)=600-(q+1) by omega,←c1_2,Z7 hx2,Z6z,if_pos hp2];omega)];omega)⟩))
  have hE:Z6z x1.kids (600-(q+1))=600-j2:=by rw [←c1_2,Zv om,Z6z]
  refine ax 2 (az (ia (((k+1:Nat):Int)) (((k:Int))+(1)) (irk 1 (.n 12 (.i (k+1:Nat)) (.p (.d (.k (.k (.k .z)))))) (ie ?_))))
  have hdr:=Z7 hx1
  exact ⟨_,_,_,ob,⟨k+1,j2,ob,ob,(by rw [Z7 hx1,Z6n,if_neg om,Zfs,show (600-q-1:Int)=600-(q+1) by omega,hE,if_neg om] at c0_2;exact c0_2),rfl,rfl,rfl⟩,(wk [0] (fr (fr (fr (fc (x:=.i (k+1:Nat)) li fl)))))⟩
 refine ax 0 (ar (ir 1 [(4,.b true)] (ie ?_)))
 have hF:Z3m b (600-v)=600-q:=by rw [hbe,←c0_2,Zv om,Z6n]
 exact at_ (r1 [0] (.inl ⟨rfl,rfl,om⟩) (eq:=(ro (ls:=[.i q]) (by rw [hF,show (600-(600-q):Int)=q by omega]) rz)))
theorem Zcq:∀(b:Block) (c:Nat) (v:Int),(b.sz≤1000000000)→(0≤v∧v≤600)→Z3 Tryz.prog 126 [Zk b,.p c 0] [.obj c [.i v]] (fun r h=>(r=.b true∧h=[.obj c [.i (600-Z3m b (600-v))]]∧0≤Z3m b (600-v))∨(r=.b false∧h=[]∧Z3m b (600-v)<0)):=by
 have key:∀m:Nat,∀(b:Block) (c:Nat) (v:Int),(b.sz≤m)→(b.sz≤1000000000)→(0≤v∧v≤600)→Z3 Tryz.prog 126 [Zk b,.p c 0] [.obj c [.i v]] (fun r h=>(r=.b true∧h=[.obj c [.i (600-Z3m b (600-v))]]∧0≤Z3m b (600-v))∨(r=.b false∧h=[]∧Z3m b (600-v)<0)):=by
  intro m
  induction m with
  | zero=>intro b c v h;have:=b.sz_pos;omega
  | succ m ih=>intro b c v h1 h2 h3;exact Zaw b c v h2 h3 fun b2 c2 v2 k1 k2=>ih b2 c2 v2 om om k2
 intro b c v h2 h3
 exact key b.sz b c v (Nat.le_refl _) h2 h3
theorem Za8 (b:Block) (hb:b.sz≤1000000000:=by exact ob):Z3 Tryz.prog 68 [Zk b] [] (fun r h=>r=.i (Z1y b)∧h=[]):=by
 refine enter Tryz.func68 kr (n:=8) kr kr (ar (iA (Z1b b) ?_))
 intro b1
 refine ir 1 [(1,.p b1 0)] (ie (ar (iA [.i 0] ?_)))
 intro b2
 refine iS 0 b2 0 [.i 0] [.i 0] [.i 0] (ie (aq (ar (irK 1 (.n 4 (Zk b) .r) [1] [b1] (ic [0] (Zcq b b2 0 ob ob) ?_)))))
 rintro _ _ (⟨rfl,rfl,hp1⟩|⟨rfl,rfl,hp2⟩)
 ·have h0:=hp1
  rw [show (600-0:Int)=600 from rfl] at h0
  refine irk 1 (.n 6 (.b false) .r) (ie (ac0 (ak (ar (iR 2 [(2,.i (600-Z3m b (600-0)))] [0] [b2] (ie ?_))))))
  exact at_ (r2 [] [.i (600-Z3m b (600-0))] ⟨rfl,rfl⟩ (li (by rw [show (600-0:Int)=600 from rfl,Z1y,if_neg om])))
 have h0:=hp2
 rw [show (600-0:Int)=600 from rfl] at h0
 refine irk 1 (.n 6 (.b true) .r) (ie (ac1 (ar (ir 1 [(2,.i (-1))] (ie ?_)))))
 exact at_ (r2 [] [.i (-1)] ⟨rfl,rfl⟩ (li (by rw [Z1y,if_pos h0])))
theorem Zdy (ds:List Decl) (fs:List Sg3) (hz:DSz ds:=by exact ob) (hf:∀f∈fs,f.pms.length≤4194304∧f.lnt.length≤4194304) (hfl:fs.length≤4194304:=by exact ob):Z3 Tryz.prog 58 [Z2 ds,nSg3 fs] [] (fun r h=>r=.b (Z2w ds fs)∧h=[]):=by
 have hzl:=hz.len
 refine enter Tryz.func58 kr (n:=102) kr kr (ar (ir 1 [(0,Z2 ds),(1,nSg3 fs)] (ie (aq (ar (irk 1 (.n 9 (Z2 ds) .r) (ic [] (Zcn ds) ?_)))))))
 rintro _ _ ⟨rfl,rfl⟩
 refine Z1t 8 [(0,Z2 ds),(1,nSg3 fs),(16,.b ((!Z00 ds)||(decide ((fs.length:Int)<1))))] [] ?_ (fun hj1=>?_)
 ·refine Z1t 13 [(0,Z2 ds),(1,nSg3 fs),(21,.b (((!Z00 ds)||(decide ((fs.length:Int)<1)))||(decide ((fs.length:Int)>4))))] [] ?_ (fun hj2=>?_)
  ·refine ir 1 [(0,Z2 ds),(1,nSg3 fs),(22,.b (((!Z00 ds)||(decide ((fs.length:Int)<1)))||(decide ((fs.length:Int)>4))))] (ib (b:=(((!Z00 ds)||(decide ((fs.length:Int)<1)))||(decide ((fs.length:Int)>4)))) 22 (fun hb1=>?_) (fun hb1=>?_))
   ·have hp1:((¬(Z00 ds=true))∨((fs.length:Int)<1))∨((fs.length:Int)>4):=((Zf (Zf (Zg Iff.rfl) decide_eq_true_iff) decide_eq_true_iff)).1 hb1
    refine irk 14 (.n 36 (.b true) (.d (.k (.k .z)))) (ie (ac1 (ar (ir 1 [(4,.b false)] (ie ?_)))))
    exact at_ (r2 [] [.b false] ⟨rfl,rfl⟩ (lb (Z01w (by assumption))))
   have hp2:¬(((¬(Z00 ds=true))∨((fs.length:Int)<1))∨((fs.length:Int)>4)):=Zj (Zf (Zf (Zg Iff.rfl) decide_eq_true_iff) decide_eq_true_iff) hb1
   refine irk 1 (.n 23 (nSg3 fs) (.k (.k (.k .z)))) ?_
   obtain ⟨x1,hx1⟩:=Z9 (xs:=fs) (j:=0) om
   refine is_ (Z0 (es:=Z5q fs) (hv:=none) (j:=0) (sz:=3) (y:=aSg3 x1) kr om (Z7g hx1) rfl) (irk 2 (.n 26 (nInt x1.pms) .r) (io (.i x1.pms.length) (.i (((Z6 x1.pms).length:Nat):Int)) (li (by rw [Z5])) (irk 3 (.n 30 (.b (decide ((x1.pms.length:Int)>0))) .r) (ib (b:=(decide ((x1.pms.length:Int)>0))) 30 (fun hb2=>?_) (fun hb2=>?_)))))
   ·have hp3:(x1.pms.length:Int)>0:=(decide_eq_true_iff).1 hb2
    refine irk 6 (.n 36 (.b true) (.k (.d .r))) (ie (ac1 (ar (ir 1 [(4,.b false)] (ie ?_)))))
    exact at_ (r2 [] [.b false] ⟨rfl,rfl⟩ (lb (Zx3 hx1 (.inl (by assumption)))))
   have hp4:¬((x1.pms.length:Int)>0):=Zj decide_eq_true_iff hb2
   refine irk 1 (.n 31 (nSg3 fs) (.k (.d .r))) (is_ (Z0 (es:=Z5q fs) (hv:=none) (j:=0) (sz:=3) (y:=aSg3 x1) kr om (Z7g hx1) rfl) (irk 4 (.n 36 (.b (x1.res != 0)) .r) (ie (ac (x1.res != 0) bne_iff_ne (fun hc1=>?_) (fun hc1=>?_)))))
   ·refine ar (ir 1 [(4,.b false)] (ie ?_))
    exact at_ (r2 [] [.b false] ⟨rfl,rfl⟩ (lb (Zx3 hx1 (.inr hc1))))
   refine ak (aq (ar (irk 1 (.n 37 (nSg3 fs) .r) (io (.i fs.length) (.i (((Z5q fs).length:Nat):Int)) (li (by rw [Z6k])) (irk 1 (.n 39 (.i 0) .r) (ie (ab 0 (al (fun m F h=>∃(k:Nat),(k≤fs.length)∧(Z65 ds.length (fs.drop k)=Z65 ds.length fs)∧F=[(0,Z2 ds),(37,nSg3 fs),(38,.i fs.length),(39,.i k)]∧h=[]∧m=fs.length-k) _ _ _ ⟨0,ob,ob,rfl,rfl,rfl⟩ (wk [] (fr (fr (fr (fc (x:=.i 0) li fl))))) ?_))))))))
   rintro m F h ⟨k,c0_0,c0_1,rfl,rfl,rfl⟩
   refine ar (irk 1 (.n 40 (.b (decide ((k:Int)<(fs.length:Int)))) .r) (ie (aq (ac (decide ((k:Int)<(fs.length:Int))) decide_eq_true_iff (fun hc2=>?_) (fun hc2=>?_)))))
   ·refine ak (aq (ab 1 (ar ?_)))
    obtain ⟨x2,hx2⟩:=Z9 (xs:=fs) (j:=k) om
    have hf2:=hf _ (List.mem_of_getElem? hx2)
    refine is_ (Z0 (es:=Z5q fs) (hv:=none) (j:=(k:Int)) (sz:=3) (y:=aSg3 x2) kr om (Z7g hx2) rfl) (irk 1 (.n 42 (aSg3 x2) .r) (iA [.sl [] (some (.slice none 0 0)),.sl [] (some (.slice none 0 0)),.i 0] ?_))
    intro b1
    refine iS 0 b1 0 (lSg3 x2) [.sl [] (some (.slice none 0 0)),.sl [] (some (.slice none 0 0)),.i 0] (lSg3 x2) (ie (aq (ar (irK 2 (.n 44 (nInt x2.pms) .r) [0] [b1] (io (.i x2.pms.length) (.i (((Z6 x2.pms).length:Nat):Int)) (li (by rw [Z5])) (Z1t 11 [(0,Z2 ds),(6,.p b1 0),(37,nSg3 fs),(38,.i fs.length),(39,.i k),(53,.b ((decide ((x2.pms.length:Int)>3))||(!Z1o ds.length x2.pms)))] [.obj b1 (lSg3 x2)] ?_ (fun hj3=>?_)))))))
    ·refine Z2h [(0,Z2 ds),(6,.p b1 0),(37,nSg3 fs),(38,.i fs.length),(39,.i k),(60,.b (((decide ((x2.pms.length:Int)>3))||(!Z1o ds.length x2.pms))||(!(decide (0≤x2.res∧x2.res≤ds.length)))))] [.obj b1 (lSg3 x2)] ?_ ?_
     ·refine ir 1 [(0,Z2 ds),(6,.p b1 0),(37,nSg3 fs),(38,.i fs.length),(39,.i k),(54,.b ((decide ((x2.pms.length:Int)>3))||(!Z1o ds.length x2.pms)))] (ib (b:=((decide ((x2.pms.length:Int)>3))||(!Z1o ds.length x2.pms))) 54 (fun hb3=>?_) (fun hb3=>?_))
      ·have hp5:((x2.pms.length:Int)>3)∨(¬(Z1o ds.length x2.pms=true)):=((Zf decide_eq_true_iff (Zg Iff.rfl))).1 hb3
       refine irk 6 (.n 60 (.b true) (.d (.k (.k (.k (.k (.k .z))))))) (ie ?_)
       exact wk [0] (fr (fr (fr (fr (fr (fc (x:=.b true) (lb (by simp only [hb3];rfl)) fl))))))
      have hp6:¬(((x2.pms.length:Int)>3)∨(¬(Z1o ds.length x2.pms=true))):=Zj (Zf decide_eq_true_iff (Zg Iff.rfl)) hb3
      refine irK 3 (.n 55 (Z2 ds) (.n 57 (.i x2.res) (.k (.k (.k (.k (.k (.k .z)))))))) [0] [b1] (ic [] (Z6d ds x2.res) ?_)
      rintro _ _ ⟨rfl,rfl⟩
      refine irk 2 (.n 60 (.b (!(decide (0≤x2.res∧x2.res≤ds.length)))) .r) (ie ?_)
      exact wk [0] (fr (fr (fr (fr (fr (fc (x:=.b (!(decide (0≤x2.res∧x2.res≤ds.length)))) (lb (by simp only [hb3];rfl)) fl))))))
     refine ac (((decide ((x2.pms.length:Int)>3))||(!Z1o ds.length x2.pms))||(!(decide (0≤x2.res∧x2.res≤ds.length)))) (p:=(((x2.pms.length:Int)>3)∨(¬(Z1o ds.length x2.pms=true)))∨(¬(0≤x2.res∧x2.res≤ds.length))) (Zf (Zf decide_eq_true_iff (Zg Iff.rfl)) (Zg decide_eq_true_iff)) (fun hc3=>?_) (fun hc3=>?_)
     ·refine ar (ir 1 [(4,.b false)] (ie ?_))
      exact at_ (r2 [] [.b false] ⟨rfl,rfl⟩ (lb (Zla (Zd4 hx2 (Z016 hc3) c0_1))))
     refine ak (ar (iR 2 [(0,Z2 ds),(6,.p b1 0),(37,nSg3 fs),(38,.i fs.length),(39,.i k),(62,nInt x2.lnt)] [0] [b1] (io (.i x2.lnt.length) (.i (((Z6 x2.lnt).length:Nat):Int)) (li (by rw [Z5])) (irk 1 (.n 64 (.i 0) .r) (ie (ab 2 (al (fun m F h=>∃(j:Nat),(j≤x2.lnt.length)∧(Z43 x2.pms (x2.lnt.drop j) (if j=0 then none else x2.lnt[j-1]?)=Z3d x2.pms x2.lnt)∧F=[(0,Z2 ds),(6,.p b1 0),(37,nSg3 fs),(38,.i fs.length),(39,.i k),(62,nInt x2.lnt),(63,.i x2.lnt.length),(64,.i j)]∧h=[.obj b1 (lSg3 x2)]∧m=x2.lnt.length-j) _ _ _ ⟨0,ob,(by rfl),rfl,rfl,rfl⟩ (wk [0] (fr (fr (fr (fr (fr (fr (fr (fc (x:=.i 0) li fl))))))))) ?_)))))))
     rintro m F h ⟨j,c1_0,c1_1,rfl,rfl,rfl⟩
     refine ar (irk 1 (.n 65 (.b (decide ((j:Int)<(x2.lnt.length:Int)))) .r) (ie (aq (ac (decide ((j:Int)<(x2.lnt.length:Int))) decide_eq_true_iff (fun hc4=>?_) (fun hc4=>?_)))))
     ·refine ak (aq (ab 3 (ar (irk 1 (.n 66 (.i j) .r) ?_))))
      obtain ⟨x3,hx3⟩:=Z9 (xs:=x2.lnt) (j:=j) om
      refine is_ (Z0 (es:=Z6 x2.lnt) (hv:=none) (j:=(j:Int)) (sz:=1) (y:=.i x3) kr om (Za hx3) rfl) (irk 3 (.n 7 (.i j) (.n 8 (.i x3) .r)) (ie (ar (Z1t 9 [(0,Z2 ds),(6,.p b1 0),(7,.i j),(8,.i x3),(37,nSg3 fs),(38,.i fs.length),(39,.i k),(62,nInt x2.lnt),(63,.i x2.lnt.length),(64,.i j),(77,.b ((decide (x3<0))||(decide (x3≥(x2.pms.length:Int)))))] [.obj b1 (lSg3 x2)] ?_ (fun hj4=>?_)))))
      ·refine ir 1 [(0,Z2 ds),(6,.p b1 0),(7,.i j),(8,.i x3),(37,nSg3 fs),(38,.i fs.length),(39,.i k),(62,nInt x2.lnt),(63,.i x2.lnt.length),(64,.i j),(78,.b ((decide (x3<0))||(decide (x3≥(x2.pms.length:Int)))))] (ib (b:=((decide (x3<0))||(decide (x3≥(x2.pms.length:Int))))) 78 (fun hb4=>?_) (fun hb4=>?_))
       ·have hp7:(x3<0)∨(x3≥(x2.pms.length:Int)):=((Zf decide_eq_true_iff decide_eq_true_iff)).1 hb4
        refine irk 21 (.n 99 (.b true) (.d (.k (.k (.d (.d (.k (.k (.k (.k (.k (.k .z)))))))))))) (ie (ac1 (ar (ir 1 [(4,.b false)] (ie ?_)))))
        exact at_ (r2 [] [.b false] ⟨rfl,rfl⟩ (lb (Zla (Zd4 hx2 (Zox (Zkd hx3 (by rintro ⟨q1,q2,q3⟩;first|omega|(rw [hx4] at q2;exact q2 (congrArg some om))|(have:=q3 _ (by rw [if_neg om];exact hx5);omega)) c1_1)) c0_1))))
       have hp8:¬((x3<0)∨(x3≥(x2.pms.length:Int))):=Zj (Zf decide_eq_true_iff decide_eq_true_iff) hb4
       refine irK 3 (.n 80 (nInt x2.pms) (.n 81 (.i x3) (.k (.k (.k (.k (.k (.k (.k (.k (.k (.k (.k .z))))))))))))) [0] [b1] ?_
       obtain ⟨x4,hx4⟩:=Z9 (xs:=x2.pms) (j:=x3.toNat) om
       refine is_ (Z0 (es:=Z6 x2.pms) (hv:=none) (j:=x3) (sz:=1) (y:=.i x4) kr om (Za hx4) rfl) (irk 4 (.n 86 (.b (x4==0)) .r) (ib (b:=(x4==0)) 86 (fun hb5=>?_) (fun hb5=>?_)))
       ·have hp9:x4=0:=(beq_iff_eq).1 hb5
        refine irk 13 (.n 99 (.b true) (.k (.d .r))) (ie (ac1 (ar (ir 1 [(4,.b false)] (ie ?_)))))
        exact at_ (r2 [] [.b false] ⟨rfl,rfl⟩ (lb (Zla (Zd4 hx2 (Zox (Zkd hx3 (by rintro ⟨q1,q2,q3⟩;first|omega|(rw [hx4] at q2;exact q2 (congrArg some om))|(have:=q3 _ (by rw [if_neg om];exact hx5);omega)) c1_1)) c0_1))))
       have hp10:¬(x4=0):=Zj beq_iff_eq hb5
       refine irk 3 (.n 89 (.b (decide ((j:Int)>0))) (.k (.d .r))) (ib (b:=(decide ((j:Int)>0))) 89 (fun hb6=>?_) (fun hb6=>?_))
       ·have hp11:(j:Int)>0:=(decide_eq_true_iff).1 hb6
        refine irK 4 (.n 90 (.i x3) (.n 92 (nInt x2.lnt) (.n 93 (.i j) (.k (.d .r))))) [0] [b1] (ia (((j-1:Nat):Int)) (((j:Int))-(1)) ?_)
        obtain ⟨x5,hx5⟩:=Z9 (xs:=x2.lnt) (j:=j-1) om
        refine is_ (Z0 (es:=Z6 x2.lnt) (hv:=none) (j:=((j-1:Nat):Int)) (sz:=1) (y:=.i x5) kr om (Za hx5) rfl) (irk 4 (.n 99 (.b (decide (x3≤x5))) .r) (ie (ac (decide (x3≤x5)) decide_eq_true_iff (fun hc5=>?_) (fun hc5=>?_))))
        ·refine ar (ir 1 [(4,.b false)] (ie ?_))
         exact at_ (r2 [] [.b false] ⟨rfl,rfl⟩ (lb (Zla (Zd4 hx2 (Zox (Zkd hx3 (by rintro ⟨q1,q2,q3⟩;first|omega|(rw [hx4] at q2;exact q2 (congrArg some om))|(have:=q3 _ (by rw [if_neg om];exact hx5);omega)) c1_1)) c0_1))))
        refine ak (az (ia (((j+1:Nat):Int)) (((j:Int))+(1)) (irk 1 (.n 64 (.i (j+1:Nat)) (.p (.d (.p (.p (.d (.d (.d (.d (.d (.p (.d (.d (.d (.k (.k (.d (.d (.k (.k (.k (.k (.k .z))))))))))))))))))))))) (ie ?_))))
        have hdr:=Z7 hx3
        exact ⟨_,_,_,ob,⟨j+1,ob,(Zv9 hx3 ⟨by omega,(by rw [hx4];intro q;cases q;omega),fun p hp=>by first|(rw [if_pos om] at hp;cases hp;done)|(rw [if_neg om,hx5] at hp;cases hp;omega)⟩ c1_1),rfl,rfl,rfl⟩,(wk [0] (fr (fr (fr (fr (fr (fr (fr (fc (x:=.i (j+1:Nat)) li fl)))))))))⟩
       have hp12:¬((j:Int)>0):=Zj decide_eq_true_iff hb6
       refine irk 10 (.n 99 (.b false) (.k (.d .r))) (ie (ac0 (ak (az (ia (((j+1:Nat):Int)) (((j:Int))+(1)) (irk 1 (.n 64 (.i (j+1:Nat)) (.p (.d (.d (.d (.p (.d (.d (.d (.k (.k (.d (.d (.k (.k (.k (.k (.k .z)))))))))))))))))) (ie ?_)))))))
       have hdr:=Z7 hx3
       exact ⟨_,_,_,ob,⟨j+1,ob,(Zv9 hx3 ⟨by omega,(by rw [hx4];intro q;cases q;omega),fun p hp=>by first|(rw [if_pos om] at hp;cases hp;done)|(rw [if_neg om,hx5] at hp;cases hp;omega)⟩ c1_1),rfl,rfl,rfl⟩,(wk [0] (fr (fr (fr (fr (fr (fr (fr (fc (x:=.i (j+1:Nat)) li fl)))))))))⟩
      refine ir 3 [(0,Z2 ds),(6,.p b1 0),(7,.i j),(8,.i x3),(37,nSg3 fs),(38,.i fs.length),(39,.i k),(62,nInt x2.lnt),(63,.i x2.lnt.length),(64,.i j),(71,.b (decide (x3<0)))] (ib (b:=(decide (x3<0))) 71 (fun hb7=>?_) (fun hb7=>?_))
      ·have hp13:x3<0:=(decide_eq_true_iff).1 hb7
       refine irk 6 (.n 77 (.b true) (.d (.k (.k (.k (.k (.k (.k (.k (.k (.k (.k .z)))))))))))) ?_
       exact Z05 (wk [0] (fr (fr (fr (fr (fr (fr (fr (fr (fr (fr (fc (x:=.b true) (lb (by simp only [hb7];rfl)) fl)))))))))))) hj4
      have hp14:¬(x3<0):=Zj decide_eq_true_iff hb7
      refine irK 3 (.n 72 (.i x3) (.n 74 (nInt x2.pms) (.k (.k (.k (.k (.k (.k (.k (.k (.k (.k (.k .z))))))))))))) [0] [b1] (io (.i x2.pms.length) (.i (((Z6 x2.pms).length:Nat):Int)) (li (by rw [Z5])) (irk 2 (.n 77 (.b (decide (x3≥(x2.pms.length:Int)))) .r) ?_))
      exact Z05 (wk [0] (fr (fr (fr (fr (fr (fr (fr (fr (fr (fr (fc (x:=.b (decide (x3≥(x2.pms.length:Int)))) (lb (by simp only [hb7];rfl)) fl)))))))))))) hj4
     have hL:Z3d x2.pms x2.lnt=true:=by rw [←c1_1,Zv om];rfl
     have hS:=Z017 hc3 hL
     refine ax 2 (az (ia (((k+1:Nat):Int)) (((k:Int))+(1)) (irk 1 (.n 39 (.i (k+1:Nat)) (.p (.d (.k (.d (.k (.k .z))))))) (ie ?_))))
     have hdr:=Z7 hx2
     exact ⟨_,_,_,ob,⟨k+1,ob,(Zyq hx2 hS c0_1),rfl,rfl,rfl⟩,(wk [] (fr (fr (fr (fc (x:=.i (k+1:Nat)) li fl)))))⟩
    refine ir 2 [(0,Z2 ds),(6,.p b1 0),(37,nSg3 fs),(38,.i fs.length),(39,.i k),(47,.b (decide ((x2.pms.length:Int)>3)))] (ib (b:=(decide ((x2.pms.length:Int)>3))) 47 (fun hb8=>?_) (fun hb8=>?_))
    ·have hp15:(x2.pms.length:Int)>3:=(decide_eq_true_iff).1 hb8
     refine irk 6 (.n 53 (.b true) (.d (.k (.k (.k (.k (.k .z))))))) ?_
     exact Z05 (wk [0] (fr (fr (fr (fr (fr (fc (x:=.b true) (lb (by simp only [hb8];rfl)) fl))))))) hj3
    have hp16:¬((x2.pms.length:Int)>3):=Zj decide_eq_true_iff hb8
    refine irK 3 (.n 48 (Z2 ds) (.n 50 (nInt x2.pms) (.k (.k (.k (.k (.k (.k .z)))))))) [0] [b1] (ic [] (Z9h ds x2.pms) ?_)
    rintro _ _ ⟨rfl,rfl⟩
    refine irk 2 (.n 53 (.b (!Z1o ds.length x2.pms)) .r) ?_
    exact Z05 (wk [0] (fr (fr (fr (fr (fr (fc (x:=.b (!Z1o ds.length x2.pms)) (lb (by simp only [hb8];rfl)) fl))))))) hj3
   refine ax 0 (ar (ir 1 [(4,.b true)] (ie ?_)))
   exact at_ (r2 [] [.b true] ⟨rfl,rfl⟩ (lb (Z01x (by assumption) hx1 (by assumption) hc1 (by rw [←c0_1,Zv om];rfl))))
  refine ir 1 [(0,Z2 ds),(1,nSg3 fs),(17,.b ((!Z00 ds)||(decide ((fs.length:Int)<1))))] (ib (b:=((!Z00 ds)||(decide ((fs.length:Int)<1)))) 17 (fun hb9=>?_) (fun hb9=>?_))
  ·have hp17:(¬(Z00 ds=true))∨((fs.length:Int)<1):=((Zf (Zg Iff.rfl) decide_eq_true_iff)).1 hb9
   refine irk 4 (.n 21 (.b true) (.d (.k (.k .z)))) ?_
   exact Z05 (wk [] (fr (fr (fc (x:=.b true) (lb (by simp only [hb9];rfl)) fl)))) hj2
  have hp18:¬((¬(Z00 ds=true))∨((fs.length:Int)<1)):=Zj (Zf (Zg Iff.rfl) decide_eq_true_iff) hb9
  refine irk 1 (.n 18 (nSg3 fs) (.k (.k (.k .z)))) (io (.i fs.length) (.i (((Z5q fs).length:Nat):Int)) (li (by rw [Z6k])) (irk 2 (.n 21 (.b (decide ((fs.length:Int)>4))) .r) ?_))
  exact Z05 (wk [] (fr (fr (fc (x:=.b (decide ((fs.length:Int)>4))) (lb (by simp only [hb9];rfl)) fl)))) hj2
 refine ir 2 [(0,Z2 ds),(1,nSg3 fs),(12,.b (!Z00 ds))] (ib (b:=(!Z00 ds)) 12 (fun hb10=>?_) (fun hb10=>?_))
 ·have hp19:¬(Z00 ds=true):=((Zg Iff.rfl)).1 hb10
  refine irk 4 (.n 16 (.b true) (.d (.k (.k .z)))) ?_
  exact Z05 (wk [] (fr (fr (fc (x:=.b true) (lb (by simp only [hb10];rfl)) fl)))) hj1
 have hp20:¬(¬(Z00 ds=true)):=Zj (Zg Iff.rfl) hb10
 refine irk 1 (.n 13 (nSg3 fs) (.k (.k (.k .z)))) (io (.i fs.length) (.i (((Z5q fs).length:Nat):Int)) (li (by rw [Z6k])) (irk 2 (.n 16 (.b (decide ((fs.length:Int)<1))) .r) ?_))
 exact Z05 (wk [] (fr (fr (fc (x:=.b (decide ((fs.length:Int)<1))) (lb (by simp only [hb10];rfl)) fl)))) hj1
theorem Z7u (n:Normal) (hz:NSz n:=by exact ob):Z3 Tryz.prog 25 [Zh n] [] (fun r h=>(r=.tup [.agg [Z2 n.decls,nSg3 (n.routines.map Z4)],.b (Z0g n)]∧h=[]∧n.routines.length≤4)∨(r=.tup [.agg [Z2 [],nSg3 []],.b false]∧h=[]∧Z0g n=false)):=by
 have hzl:=hz.len
 refine enter Tryz.func25 kr (n:=41) kr kr (ar (iA (Zi n) ?_))
 intro b1
 refine iA [.sl [] (some (.slice none 0 0)),.sl [] (some (.slice none 0 0))] ?_
 intro b2
 refine ir 1 [(1,.p b1 0),(2,.p b2 0)] (ie (aq (ar (irK 2 (.n 8 (Zl n.routines) .r) [1] [b1] (io (.i n.routines.length) (.i (((Zr n.routines).length:Nat):Int)) (li (by rw [Z0d])) (irk 1 (.n 10 (.b (decide ((n.routines.length:Int)>4))) .r) (ie (ac (decide ((n.routines.length:Int)>4)) decide_eq_true_iff (fun hc1=>?_) (fun hc1=>?_)))))))))
 ·refine ar (irk 1 (.n 11 (.agg [.sl [] (some (.slice none 0 0)),.sl [] (some (.slice none 0 0))]) .r) (iS 0 b2 0 [.sl [] (some (.slice none 0 0)),.sl [] (some (.slice none 0 0))] [.sl [] (some (.slice none 0 0)),.sl [] (some (.slice none 0 0))] [.sl [] (some (.slice none 0 0)),.sl [] (some (.slice none 0 0))] (irk 1 (.n 3 (.b false) .r) (ie ?_))))
  exact at_ (r3 [] [.agg [.sl [] (some (.slice none 0 0)),.sl [] (some (.slice none 0 0))],.b false] [0] [(b2,b2)] (.inr ⟨rfl,rfl,(by rw [Zh3,decide_eq_false om];rfl)⟩) (AVLe.tup (.cons (AVLe.agg (.cons (AVLe.sl _ rfl) (.cons (AVLe.sl _ rfl) .nil))) (.cons (lr _) .nil))))
 refine ak (ar (irK 3 (.n 14 (.agg [Z2 n.decls,.sl [] (some (.slice none 0 0))]) .r) [1] [b1] (iA [.sl [] (some (.slice none 0 0)),.sl [] (some (.slice none 0 0))] ?_)))
 intro b3
 refine iS 0 b3 0 [Z2 n.decls,.sl [] (some (.slice none 0 0))] [.sl [] (some (.slice none 0 0)),.sl [] (some (.slice none 0 0))] [Z2 n.decls,.sl [] (some (.slice none 0 0))] (ie (aq (ar (irK 2 (.n 16 (Zl n.routines) .r) [2] [b1] (io (.i n.routines.length) (.i (((Zr n.routines).length:Nat):Int)) (li (by rw [Z0d])) (irk 1 (.n 18 (.i 0) .r) (ie (ab 0 (Z6h 3 (al (fun m F h=>∃(k:Nat) (v:Value),(k≤n.routines.length)∧F=[(1,.p b1 0),(2,.p b2 0),(4,.p b3 0),(16,Zl n.routines),(17,.i n.routines.length),(18,.i k)]∧h=[.obj b3 [Z2 n.decls,oSg3 ((n.routines.take k).map Z4) v],.obj b2 [.sl [] (some (.slice none 0 0)),.sl [] (some (.slice none 0 0))],.obj b1 (Zi n),.tail v 3]∧m=n.routines.length-k) _ _ _ ⟨0,(.slice none 0 0),ob,rfl,rfl,rfl⟩ (wk [1,1,1,0] (fr (fr (fr (fr (fr (fc (x:=.i 0) li fl))))))) ?_))))))))))
 rintro m F h ⟨k,v,c0_0,rfl,rfl,rfl⟩
 refine ar (irk 1 (.n 19 (.b (decide ((k:Int)<(n.routines.length:Int)))) .r) (ie (aq (ac (decide ((k:Int)<(n.routines.length:Int))) decide_eq_true_iff (fun hc2=>?_) (fun hc2=>?_)))))
 ·refine ak (aq (ab 1 (ar ?_)))
  obtain ⟨x1,hx1⟩:=Z9 (xs:=n.routines) (j:=k) om
  refine is_ (Z0 (es:=Zr n.routines) (hv:=none) (j:=(k:Int)) (sz:=5) (y:=Z0o x1) kr om (Z0v hx1) rfl) (irk 1 (.n 21 (Z0o x1) .r) (iA [.sl [] (some (.slice none 0 0)),.sl [] (some (.slice none 0 0)),.i 0,.sl [] (some (.slice none 0 0)),.i 0] ?_))
  intro b4
  refine iS 0 b4 0 (Z1m x1) [.sl [] (some (.slice none 0 0)),.sl [] (some (.slice none 0 0)),.i 0,.sl [] (some (.slice none 0 0)),.i 0] (Z1m x1) (ie (az (irK 9 (.n 23 (oSg3 ((n.routines.take k).map Z4) v) (.n 30 (.agg [nInt x1.params,nInt x1.lent,.i x1.result]) .r)) [1,0,0,0] [b3,b4,b4,b4] (iL (Z5q [Sg3.mk x1.params x1.lent x1.result]) 1 3 ?_))))
  intro v1
  refine irk 0 (.n 31 (nSg3 [Sg3.mk x1.params x1.lent x1.result]) (.p .r)) (ip 5 (Z5q ((n.routines.take (k+1)).map Z4)) (Z5q ((n.routines.take k).map Z4)) (Z5q [Sg3.mk x1.params x1.lent x1.result]) v none 3 (Zlv _) (Zlv _) (Zu4 _) (by simp<;>omega) (by rw [Z1z hx1];simp [Z5q,Z4]) ?_)
  intro v2
  refine irk 1 (.n 33 (.p b3 1) .r) (iS 3 b3 1 [oSg3 ((n.routines.take (k+1)).map Z4) v2] [Z2 n.decls,oSg3 ((n.routines.take k).map Z4) v] [Z2 n.decls,oSg3 ((n.routines.take (k+1)).map Z4) v2] (ie (az (ia (((k+1:Nat):Int)) (((k:Int))+(1)) (irk 1 (.n 18 (.i (k+1:Nat)) (.p (.d (.p (.d (.d (.d (.p (.d (.p (.d (.k (.k (.k (.k (.k .z)))))))))))))))) (ie ?_))))))
  have hdr:=Z7 hx1
  exact ⟨_,_,_,ob,⟨k+1,v2,ob,rfl,rfl,rfl⟩,(wk [0,3,3,0] (fr (fr (fr (fr (fr (fc (x:=.i (k+1:Nat)) li fl)))))))⟩
 refine ax 0 (aD 8 (dtK (fuel:=3) 8 [0,1,2,3,4] (.n 35 (.agg [Z2 n.decls,oSg3 ((n.routines.take k).map Z4) v]) (.n 37 (Z2 n.decls) (.n 39 (nSg3 ((n.routines.take k).map Z4)) .r))) [0,2,0] [b3,b1,b3] (do_ 5 (dc 5 [] [0] [b3] (Zdy n.decls ((n.routines.take k).map Z4) (hz:=hz.decls) (hf:=(by intro f hf;obtain ⟨r,h1,rfl⟩:=List.mem_map.1 hf;have:=List.mem_of_mem_take h1;exact ⟨hz.params r this,hz.lent r this⟩))) ?_))))
 rintro _ _ ⟨rfl,rfl⟩
 refine do_ 6 (dS 6 1 [] [] b2 0 [Z2 n.decls,oSg3 ((n.routines.take k).map Z4) v] [.sl [] (some (.slice none 0 0)),.sl [] (some (.slice none 0 0))] [Z2 n.decls,oSg3 ((n.routines.take k).map Z4) v] (dtk (fuel:=0) 1 [7] (.n 3 (.b (Z2w n.decls ((n.routines.take k).map Z4))) .r) (de ?_)))
 have htk:n.routines.take k=n.routines:=List.take_of_length_le om
 exact at_ (r3 [] [.agg [Z2 n.decls,oSg3 ((n.routines.take k).map Z4) v],.b (Z2w n.decls ((n.routines.take k).map Z4))] [0] [(b2,b2)] (.inl ⟨rfl,rfl,om⟩) (AVLe.tup (.cons (AVLe.agg (.cons (lr _) (.cons (AVLe.sl _ (congrArg Z5q (by rw [htk]))) .nil))) (.cons (lb (by rw [htk,Zh3,decide_eq_true (p:=n.routines.length≤4) om,Bool.true_and])) .nil))))
end Go.Abs
end
section
namespace Go.Abs
open Go.Proofs
set_option maxRecDepth 10000
set_option maxHeartbeats 4000000
theorem Z2e (n:Normal) (t:Int) (hn:NOk n:=by exact ob):Z3 Tryz.prog 64 [.agg [Z2 n.decls,nSg3 (n.routines.map Z4)],.i t] [] (fun r h=>r=Z32 ((Zb n.decls t).map (Z1 n.decls))∧h=[]):=by
 have hdk:=hn.decls
 have hcl:=Zh5 hdk t
 refine enter Tryz.func64 kr (n:=26) kr kr (ar (iA [Z2 n.decls,nSg3 (n.routines.map Z4)] ?_))
 intro b1
 refine ir 1 [(1,.i t),(2,.p b1 0)] (ie (ar (irk 1 (.n 5 (.sl [] (some (.slice none 0 0))) .r) (ie (aq (ar (irK 3 (.n 9 (Z2 n.decls) (.n 10 (.i t) .r)) [0] [b1] (ic [] (Zhx n.decls t) ?_))))))))
 rintro _ _ ⟨rfl,rfl⟩
 refine io (.i (((Zb n.decls t).length:Nat):Int)) (.i (((Z6 (Zb n.decls t)).length:Nat):Int)) (li (by rw [Z5])) (irk 1 (.n 13 (.i 0) .r) (ie (ab 0 (Z6h 1 (al (fun m F h=>∃(k:Nat) (v:Value),(k≤(Zb n.decls t).length)∧F=[(2,.p b1 0),(5,Zi2 (((Zb n.decls t).take k).map (Z1 n.decls)) v),(11,nInt (Zb n.decls t)),(12,.i (((Zb n.decls t).length:Nat):Int)),(13,.i k)]∧h=[.obj b1 [Z2 n.decls,nSg3 (n.routines.map Z4)],.tail v 1]∧m=(Zb n.decls t).length-k) _ _ _ ⟨0,(.slice none 0 0),ob,rfl,rfl,rfl⟩ (wk [1,0] (fr (fc (x:=.sl [] (some (.slice none 0 0))) (AVLe.slh _ rfl) (fr (fr (fc (x:=.i 0) li fl)))))) ?_)))))
 rintro m F h ⟨k,v,c0_0,rfl,rfl,rfl⟩
 refine ar (irk 1 (.n 14 (.b (decide ((k:Int)<(((Zb n.decls t).length:Nat):Int)))) .r) (ie (aq (ac (decide ((k:Int)<(((Zb n.decls t).length:Nat):Int))) decide_eq_true_iff (fun hc1=>?_) (fun hc1=>?_)))))
 ·refine ak (aq (ab 1 (ar ?_)))
  obtain ⟨x1,hx1⟩:=Z9 (xs:=Zb n.decls t) (j:=k) om
  refine is_ (Z0 (es:=Z6 (Zb n.decls t)) (hv:=none) (j:=(k:Int)) (sz:=1) (y:=.i x1) kr om (Za hx1) rfl) (irk 2 (.n 7 (.i x1) .r) (ie (az (irK 4 (.n 17 (Zi2 (((Zb n.decls t).take k).map (Z1 n.decls)) v) (.n 19 (Z2 n.decls) (.n 20 (.i x1) .r))) [0] [b1] (ic [] (Zf8 n.decls x1 (hc:=(by have:=Zls hdk hx1;omega))) ?_)))))
  rintro _ _ ⟨rfl,rfl⟩
  refine iL (Z35 [Z1 n.decls x1]) 1 1 ?_
  intro v1
  refine irk 0 (.n 22 (Z32 [Z1 n.decls x1]) (.p .r)) (ip 2 (Z35 (((Zb n.decls t).take (k+1)).map (Z1 n.decls))) (Z35 (((Zb n.decls t).take k).map (Z1 n.decls))) (Z35 [Z1 n.decls x1]) v none 1 (Zil _) (Zil _) (Zrh _) (by simp;omega) (by rw [Z1z hx1];simp [Z35]) ?_)
  intro v2
  refine irk 1 (.n 5 (Zi2 (((Zb n.decls t).take (k+1)).map (Z1 n.decls)) v2) (.p (.d (.p (.d (.d (.d (.d (.p (.d (.k (.d .r)))))))))))) (ie (az (ia (((k+1:Nat):Int)) (((k:Int))+(1)) (irk 1 (.n 13 (.i (k+1:Nat)) (.p (.k (.k (.k (.k .z)))))) (ie ?_)))))
  have hdr:=Z7 hx1
  exact ⟨_,_,_,ob,⟨k+1,v2,ob,rfl,rfl,rfl⟩,(wk [2,0] (fr (fr (fr (fr (fc (x:=.i (k+1:Nat)) li fl))))))⟩
 refine ax 0 (ar (ir 2 [(4,Zi2 (((Zb n.decls t).take k).map (Z1 n.decls)) v)] (ie ?_)))
 exact at_ (r2 [] [Zi2 (((Zb n.decls t).take k).map (Z1 n.decls)) v] ⟨rfl,rfl⟩ (AVLe.sl _ (congrArg Z35 (by rw [List.take_of_length_le om]))))
theorem Z6t (n:Normal) (op:Int) (num:Int) (ts:List Int) (hn:NOk n:=by exact ob) (hl_ts:ts.length≤4294967296:=by exact ob) (hnum:-9223372036854775808≤num∧num≤9223372036854775807:=by exact ob):Z3 Tryz.prog 197 [.agg [Z2 n.decls,nSg3 (n.routines.map Z4)],.i op,.i num,nInt ts] [] (fun r h=>∃(t:Int),r=.tup [.i t,.b ((Z0p n op num ts).isSome)]∧h=[]∧∀x,Z0p n op num ts=some x→t=x):=by
 have hdk:=hn.decls
 have hrl:=hn.len
 have hcfl:(Z1 n.decls num).length≤4294967296:=by have:=Z0u hdk num;omega
 have hdl:n.decls.length≤4294967296:=by have:=hdk.len;omega
 refine enter Tryz.func197 kr (n:=149) kr kr (ar (iA [Z2 n.decls,nSg3 (n.routines.map Z4)] ?_))
 intro b1
 refine ir 2 [(1,.i op),(2,.i num),(3,nInt ts),(4,.p b1 0)] (ie (ar (irk 2 (.n 11 (.i 0) .r) (ie (aq (ar (irk 1 (.n 18 (.i op) .r) (ie (ab 0 (ar (irk 2 (.n 19 (.b (op==0)) .r) (ie (ac (op==0) beq_iff_eq (fun hc1=>?_) (fun hc1=>?_))))))))))))))
 ·refine ar (Z1t 6 [(3,nInt ts),(26,.b ((decide (num≥(-999)))&&(decide (num≤999))))] [.obj b1 [Z2 n.decls,nSg3 (n.routines.map Z4)]] ?_ (fun hj1=>?_))
  ·refine Z1t 11 [(31,.b (((decide (num≥(-999)))&&(decide (num≤999)))&&((ts.length:Int)==0)))] [.obj b1 [Z2 n.decls,nSg3 (n.routines.map Z4)]] ?_ (fun hj2=>?_)
   ·refine ir 2 [(8,.i 0),(9,.b (((decide (num≥(-999)))&&(decide (num≤999)))&&((ts.length:Int)==0)))] (ie ?_)
    have hF:=sf0 (n:=n) (num:=num) (ts:=ts) hc1
    exact at_ (r2 [] [.i 0,.b (((decide (num≥(-999)))&&(decide (num≤999)))&&((ts.length:Int)==0))] ⟨0,rfl,rfl,(sfp hF)⟩ (AVLe.tup (.cons (lr _) (.cons (lb (sfb hF (by simp [*];try omega))) .nil))))
   refine ir 1 [(3,nInt ts),(27,.b ((decide (num≥(-999)))&&(decide (num≤999))))] (ib (b:=((decide (num≥(-999)))&&(decide (num≤999)))) 27 (fun hb1=>?_) (fun hb1=>?_))
   ·have hp1:(num≥(-999))∧(num≤999):=((Zo decide_eq_true_iff decide_eq_true_iff)).1 hb1
    refine irk 1 (.n 28 (nInt ts) (.k .z)) (io (.i ts.length) (.i (((Z6 ts).length:Nat):Int)) (li (by rw [Z5])) (ir 2 [(31,.b ((ts.length:Int)==0))] ?_))
    exact Z05 (wk [0] (fc (x:=.b ((ts.length:Int)==0)) (lb (by simp only [hb1];rfl)) fl)) hj2
   have hp2:¬((num≥(-999))∧(num≤999)):=Zj (Zo decide_eq_true_iff decide_eq_true_iff) hb1
   refine ir 4 [(31,.b false)] ?_
   exact Z05 (wk [0] (fc (x:=.b false) (lb (by simp only [hb1];rfl)) fl)) hj2
  refine ir 3 [(2,.i num),(3,nInt ts),(23,.b (decide (num≥(-999))))] (ib (b:=(decide (num≥(-999)))) 23 (fun hb2=>?_) (fun hb2=>?_))
  ·have hp3:num≥(-999):=(decide_eq_true_iff).1 hb2
   refine ir 3 [(3,nInt ts),(26,.b (decide (num≤999)))] ?_
   exact Z05 (wk [0] (fr (fc (x:=.b (decide (num≤999))) (lb (by simp only [hb2];rfl)) fl))) hj1
  have hp4:¬(num≥(-999)):=Zj decide_eq_true_iff hb2
  refine ir 3 [(3,nInt ts),(26,.b false)] ?_
  exact Z05 (wk [0] (fr (fc (x:=.b false) (lb (by simp only [hb2];rfl)) fl))) hj1
 refine aq (ar (irk 2 (.n 32 (.b (op==1)) .r) (ie (Z9f (fun F h=>F=[(1,.i op),(2,.i num),(3,nInt ts),(4,.p b1 0),(11,.i 0),(18,.i op),(32,.b ((op==1)||((op==2)||((op==3)||(op==4)))))]∧h=[.obj b1 [Z2 n.decls,nSg3 (n.routines.map Z4)]]) ?_ ?_))))
 ·refine ac (op==1) beq_iff_eq (fun hc2=>?_) (fun hc2=>?_)
  ·refine ak ?_
   exact ⟨[(1,.i op),(2,.i num),(3,nInt ts),(4,.p b1 0),(11,.i 0),(18,.i op),(32,.b ((op==1)||((op==2)||((op==3)||(op==4)))))],[.obj b1 [Z2 n.decls,nSg3 (n.routines.map Z4)]],⟨rfl,rfl⟩,(wk [0] (fr (fr (fr (fr (fr (fr (fc (x:=.b (op==1)) (lb (by first|rfl|(rw [if_pos hc2])|(rw [if_neg hc2])|(simp [hc2];done)|(rw [Bool.eq_iff_iff];simp [hc2];done)|omega)) fl))))))))⟩
  refine ar (ir 2 [(1,.i op),(2,.i num),(3,nInt ts),(4,.p b1 0),(11,.i 0),(18,.i op),(32,.b (op==2))] (ie (ac (op==2) beq_iff_eq (fun hc3=>?_) (fun hc3=>?_))))
  ·refine ak ?_
   exact ⟨[(1,.i op),(2,.i num),(3,nInt ts),(4,.p b1 0),(11,.i 0),(18,.i op),(32,.b ((op==1)||((op==2)||((op==3)||(op==4)))))],[.obj b1 [Z2 n.decls,nSg3 (n.routines.map Z4)]],⟨rfl,rfl⟩,(wk [0] (fr (fr (fr (fr (fr (fr (fc (x:=.b (op==2)) (lb (by first|rfl|(rw [if_pos hc2])|(rw [if_neg hc2])|(simp [hc2,hc3];done)|(rw [Bool.eq_iff_iff];simp [hc2,hc3];done)|omega)) fl))))))))⟩
  refine ar (irk 2 (.n 32 (.b (op==3)) (.k (.k (.k (.k (.k (.k .z))))))) (ie (ac (op==3) beq_iff_eq (fun hc4=>?_) (fun hc4=>?_))))
  ·refine ak ?_
   exact ⟨[(1,.i op),(2,.i num),(3,nInt ts),(4,.p b1 0),(11,.i 0),(18,.i op),(32,.b ((op==1)||((op==2)||((op==3)||(op==4)))))],[.obj b1 [Z2 n.decls,nSg3 (n.routines.map Z4)]],⟨rfl,rfl⟩,(wk [0] (fr (fr (fr (fr (fr (fr (fc (x:=.b (op==3)) (lb (by first|rfl|(rw [if_pos hc2])|(rw [if_neg hc2])|(simp [hc2,hc3,hc4];done)|(rw [Bool.eq_iff_iff];simp [hc2,hc3,hc4];done)|omega)) fl))))))))⟩
  refine az (irk 2 (.n 32 (.b (op==4)) (.d .r)) (ie ?_))
  exact ⟨[(1,.i op),(2,.i num),(3,nInt ts),(4,.p b1 0),(11,.i 0),(18,.i op),(32,.b ((op==1)||((op==2)||((op==3)||(op==4)))))],[.obj b1 [Z2 n.decls,nSg3 (n.routines.map Z4)]],⟨rfl,rfl⟩,(wk [0] (fr (fr (fr (fr (fr (fr (fc (x:=.b (op==4)) (lb (by first|rfl|(rw [if_pos hc2])|(rw [if_neg hc2])|(simp [hc2,hc3,hc4];done)|(rw [Bool.eq_iff_iff];simp [hc2,hc3,hc4];done)|omega)) fl))))))))⟩
 rintro F h ⟨rfl,rfl⟩
 refine ac ((op==1)||((op==2)||((op==3)||(op==4)))) (p:=(op=1)∨((op=2)∨((op=3)∨(op=4)))) (Zf beq_iff_eq (Zf beq_iff_eq (Zf beq_iff_eq beq_iff_eq))) (fun hc5=>?_) (fun hc5=>?_)
 ·refine az (iL (Z6 [0,0]) 2 1 ?_)
  intro v1
  refine ir 1 [(2,.i num),(3,nInt ts),(10,oInt [0,0] v1),(11,.i 0)] (ie (ar (Z1t 8 [(141,.i 0),(148,.b ((num==0)&&(decide (ts=[0,0]))))] [.tail v1 1,.obj b1 [Z2 n.decls,nSg3 (n.routines.map Z4)]] ?_ (fun hj3=>?_))))
  ·refine ir 2 [(8,.i 0),(9,.b ((num==0)&&(decide (ts=[0,0]))))] (ie ?_)
   have hF:=sf1 (n:=n) (num:=num) (ts:=ts) hc5
   exact at_ (r2 [] [.i 0,.b ((num==0)&&(decide (ts=[0,0])))] ⟨0,rfl,rfl,(sfp hF)⟩ (AVLe.tup (.cons (lr _) (.cons (lb (sfb hF (by simp [*];try omega))) .nil))))
  refine ir 4 [(3,nInt ts),(10,oInt [0,0] v1),(141,.i 0),(144,.b (num==0))] (ib (b:=(num==0)) 144 (fun hb3=>?_) (fun hb3=>?_))
  ·have hp5:num=0:=(beq_iff_eq).1 hb3
   refine irk 2 (.n 145 (nInt ts) (.n 146 (nInt [0,0]) (.k (.d (.d (.k .z)))))) (ic [] (Z19 ts [0,0]) ?_)
   rintro _ _ ⟨rfl,rfl⟩
   refine irk 1 (.n 148 (.b (decide (ts=[0,0]))) .r) ?_
   exact Z05 (wk [0,0] (fr (fc (x:=.b (decide (ts=[0,0]))) (lb (by simp only [hb3];rfl)) fl))) hj3
  have hp6:¬(num=0):=Zj beq_iff_eq hb3
  refine ir 4 [(141,.i 0),(148,.b false)] ?_
  exact Z05 (wk [0,0] (fr (fc (x:=.b false) (lb (by simp only [hb3];rfl)) fl))) hj3
 refine ar (ir 2 [(1,.i op),(2,.i num),(3,nInt ts),(4,.p b1 0),(11,.i 0),(18,.i op),(38,.b (op==5))] (ie (ac (op==5) beq_iff_eq (fun hc6=>?_) (fun hc6=>?_))))
 ·refine az (iL (Z6 [0]) 1 1 ?_)
  intro v2
  refine irk 1 (.n 10 (oInt [0] v2) .r) (ie (ar (Z1t 8 [(141,.i 0),(148,.b ((num==0)&&(decide (ts=[0]))))] [.tail v2 1,.obj b1 [Z2 n.decls,nSg3 (n.routines.map Z4)]] ?_ (fun hj4=>?_))))
  ·refine ir 2 [(8,.i 0),(9,.b ((num==0)&&(decide (ts=[0]))))] (ie ?_)
   have hF:=sf5 (n:=n) (num:=num) (ts:=ts) hc6
   exact at_ (r2 [] [.i 0,.b ((num==0)&&(decide (ts=[0])))] ⟨0,rfl,rfl,(sfp hF)⟩ (AVLe.tup (.cons (lr _) (.cons (lb (sfb hF (by simp [*];try omega))) .nil))))
  refine ir 4 [(3,nInt ts),(10,oInt [0] v2),(141,.i 0),(144,.b (num==0))] (ib (b:=(num==0)) 144 (fun hb4=>?_) (fun hb4=>?_))
  ·have hp7:num=0:=(beq_iff_eq).1 hb4
   refine irk 2 (.n 145 (nInt ts) (.n 146 (nInt [0]) (.k (.d (.d (.k .z)))))) (ic [] (Z19 ts [0]) ?_)
   rintro _ _ ⟨rfl,rfl⟩
   refine irk 1 (.n 148 (.b (decide (ts=[0]))) .r) ?_
   exact Z05 (wk [0,0] (fr (fc (x:=.b (decide (ts=[0]))) (lb (by simp only [hb4];rfl)) fl))) hj4
  have hp8:¬(num=0):=Zj beq_iff_eq hb4
  refine ir 4 [(141,.i 0),(148,.b false)] ?_
  exact Z05 (wk [0,0] (fr (fc (x:=.b false) (lb (by simp only [hb4];rfl)) fl))) hj4
 refine ar (irk 2 (.n 41 (.b (op==11)) .r) (ie (ac (op==11) beq_iff_eq (fun hc7=>?_) (fun hc7=>?_))))
 ·refine aq (ar (irk 1 (.n 43 (nInt ts) .r) (io (.i ts.length) (.i (((Z6 ts).length:Nat):Int)) (li (by rw [Z5])) (irk 1 (.n 45 (.b ((ts.length:Int) != 2)) .r) (ie (ac ((ts.length:Int) != 2) bne_iff_ne (fun hc8=>?_) (fun hc8=>?_)))))))
  ·refine ar (ir 2 [(8,.i (-1)),(9,.b false)] (ie ?_))
   have hF:=Z03u (n:=n) (num:=num) hc7 hc8
   exact at_ (r2 [] [.i (-1),.b false] ⟨(-1),rfl,rfl,(sfnp hF)⟩ (AVLe.tup (.cons (lr _) (.cons (lb (sfn hF)) .nil))))
  refine ak (aD 12 (dtK (fuel:=9) 12 [0,1,2] (.n 48 (Z2 n.decls) (.n 49 (nInt ts) .r)) [0] [b1] ?_))
  obtain ⟨x1,hx1⟩:=Z9 (xs:=ts) (j:=0) om
  refine dx 3 (Z0 (es:=Z6 ts) (hv:=none) (j:=0) (sz:=1) (y:=.i x1) kr om (Za hx1) rfl) (dtk (fuel:=7) 8 [4] (.n 51 (.i x1) .r) (dK (fun F h=>∃(b2:Nat),F=[(2,.i num),(3,nInt ts),(12,.p b2 0),(13,.b (Z02 n.decls x1))]∧h=[.obj b2 (Z2i (Z2b n.decls x1)),.obj b1 [Z2 n.decls,nSg3 (n.routines.map Z4)]]) ?_ ?_))
  ·refine Zxn 5 9 ?_ ?_
   ·refine dc 5 [] [] [] (Z5l n.decls x1) ?_
    rintro _ _ ⟨rfl,rfl⟩
    refine dt (fuel:=3) 6 [6,7,8] [(2,.i num),(3,nInt ts),(53,Z2q (Z2b n.decls x1)),(54,.b (Z02 n.decls x1))] (do_ 9 (dA 9 [] [] [.i 0,.i 0,.sl [] (some (.slice none 0 0))] ?_))
    intro b2
    refine do_ 10 (dS 10 0 [] [] b2 0 (Z2i (Z2b n.decls x1)) [.i 0,.i 0,.sl [] (some (.slice none 0 0))] (Z2i (Z2b n.decls x1)) (dtk (fuel:=0) 1 [11] (.n 13 (.b (Z02 n.decls x1)) .r) (de ?_)))
    exact ⟨[(2,.i num),(3,nInt ts),(12,.p b2 0),(13,.b (Z02 n.decls x1))],[.obj b2 (Z2i (Z2b n.decls x1)),.obj b1 [Z2 n.decls,nSg3 (n.routines.map Z4)]],⟨b2,rfl,rfl⟩,(wk [0,0] fl)⟩
   refine dA 9 [0] [b1] [.i 0,.i 0,.sl [] (some (.slice none 0 0))] ?_
   intro b3
   refine do_ 5 (dc 5 [] [] [] (Z5l n.decls x1) ?_)
   rintro _ _ ⟨rfl,rfl⟩
   refine dt (fuel:=2) 5 [6,7,8] [(2,.i num),(3,nInt ts),(12,.p b3 0),(53,Z2q (Z2b n.decls x1)),(54,.b (Z02 n.decls x1))] (do_ 10 (dS 10 0 [] [] b3 0 (Z2i (Z2b n.decls x1)) [.i 0,.i 0,.sl [] (some (.slice none 0 0))] (Z2i (Z2b n.decls x1)) (dtk (fuel:=0) 1 [11] (.n 13 (.b (Z02 n.decls x1)) .r) (de ?_))))
   exact ⟨[(2,.i num),(3,nInt ts),(12,.p b3 0),(13,.b (Z02 n.decls x1))],[.obj b3 (Z2i (Z2b n.decls x1)),.obj b1 [Z2 n.decls,nSg3 (n.routines.map Z4)]],⟨b3,rfl,rfl⟩,(wk [0,0] fl)⟩
  rintro F h ⟨b2,rfl,rfl⟩
  refine aD 17 (dT (fuel:=13) 17 [0,1,2,3] [(2,.i num),(3,nInt ts),(12,.p b2 0),(56,.i ((Z2b n.decls x1).to_)),(58,.b (Z02 n.decls x1))] [0] [b2] (db (b:=Z02 n.decls x1) 58 (fun hb5=>?_) (fun hb5=>?_)))
  ·have hp9:Z02 n.decls x1=true:=(Iff.rfl).1 hb5
   refine dtk (fuel:=12) 13 [4] (.n 59 (nInt ts) (.k (.k (.d (.k (.k .z)))))) ?_
   obtain ⟨x2,hx2⟩:=Z9 (xs:=ts) (j:=1) om
   refine dx 5 (Z0 (es:=Z6 ts) (hv:=none) (j:=1) (sz:=1) (y:=.i x2) kr om (Za hx2) rfl) (dtK (fuel:=4) 11 [6,7,8,9,10,11,15] (.n 8 (.i ((Z2b n.decls x1).to_)) (.n 66 (.b (x2==((Z2b n.decls x1).frm))) .r)) [0] [b2] (db (b:=(x2==((Z2b n.decls x1).frm))) 66 (fun hb6=>?_) (fun hb6=>?_)))
   ·have hp10:x2=((Z2b n.decls x1).frm):=(beq_iff_eq).1 hb6
    refine dtk (fuel:=0) 4 [12,13,14,16] (.n 9 (.b (num==0)) (.d (.k .z))) (de ?_)
    have hF:=Z01a (n:=n) (num:=num) hc7 hc8 hx1 hx2
    exact at_ (r2 [] [.i ((Z2b n.decls x1).to_),.b (num==0)] ⟨(Z2b n.decls x1).to_,rfl,rfl,(sfp hF)⟩ (AVLe.tup (.cons (lr _) (.cons (lb (sfb hF (by simp [*];try omega))) .nil))))
   have hp11:¬(x2=((Z2b n.decls x1).frm)):=Zj beq_iff_eq hb6
   refine dtk (fuel:=0) 4 [12,13,14,16] (.n 9 (.b false) (.d (.k .z))) (de ?_)
   have hF:=Z01a (n:=n) (num:=num) hc7 hc8 hx1 hx2
   exact at_ (r2 [] [.i ((Z2b n.decls x1).to_),.b false] ⟨(Z2b n.decls x1).to_,rfl,rfl,(sfp hF)⟩ (AVLe.tup (.cons (lr _) (.cons (lb (sfb hF (by simp [*]))) .nil))))
  have hp12:¬(Z02 n.decls x1=true):=Zj Iff.rfl hb5
  refine dt (fuel:=0) 13 [4,5,6,7,8,9,10,11,12,13,14,15,16] [(8,.i ((Z2b n.decls x1).to_)),(9,.b false)] (de ?_)
  have hF:=Z03t (n:=n) (num:=num) hc7 hc8 hx1 (by assumption)
  exact at_ (r2 [] [.i ((Z2b n.decls x1).to_),.b false] ⟨(Z2b n.decls x1).to_,rfl,rfl,(sfnp hF)⟩ (AVLe.tup (.cons (lr _) (.cons (lb (sfn hF)) .nil))))
 refine ar (irk 2 (.n 70 (.b (op==6)) .r) (ie (ac (op==6) beq_iff_eq (fun hc9=>?_) (fun hc9=>?_))))
 ·refine ar (irK 3 (.n 74 (Z2 n.decls) (.n 75 (.i num) .r)) [0] [b1] (ic [] (Zcp n.decls num) ?_))
  rintro _ _ ⟨rfl,rfl⟩
  refine irk 3 (.n 77 (.i (Z0a n.decls num)) (.n 78 (.agg [nInt (Z1 n.decls num)]) .r)) (iA [.sl [] (some (.slice none 0 0))] ?_)
  intro b4
  refine irk 1 (.n 14 (.i (Z0a n.decls num)) .r) (iS 0 b4 0 [nInt (Z1 n.decls num)] [.sl [] (some (.slice none 0 0))] [nInt (Z1 n.decls num)] (ie (ar (Z1t 9 [(79,.i (Z0a n.decls num)),(87,.b ((decide ((Z0a n.decls num)≥0))&&(decide (ts=(Z1 n.decls num)))))] [.obj b4 [nInt (Z1 n.decls num)],.obj b1 [Z2 n.decls,nSg3 (n.routines.map Z4)]] ?_ (fun hj5=>?_)))))
  ·refine ir 2 [(8,.i (Z0a n.decls num)),(9,.b ((decide ((Z0a n.decls num)≥0))&&(decide (ts=(Z1 n.decls num)))))] (ie ?_)
   have hF:=sf6 (n:=n) (num:=num) (ts:=ts) hc9
   exact at_ (r2 [] [.i (Z0a n.decls num),.b ((decide ((Z0a n.decls num)≥0))&&(decide (ts=(Z1 n.decls num))))] ⟨Z0a n.decls num,rfl,rfl,(sfp hF)⟩ (AVLe.tup (.cons (lr _) (.cons (lb (sfb hF (by simp [*];try omega))) .nil))))
  refine ir 4 [(3,nInt ts),(15,.p b4 0),(79,.i (Z0a n.decls num)),(82,.b (decide ((Z0a n.decls num)≥0)))] (ib (b:=(decide ((Z0a n.decls num)≥0))) 82 (fun hb7=>?_) (fun hb7=>?_))
  ·have hp13:(Z0a n.decls num)≥0:=(decide_eq_true_iff).1 hb7
   refine irK 3 (.n 83 (nInt ts) (.n 85 (nInt (Z1 n.decls num)) (.k (.d (.d (.k .z)))))) [0] [b4] (ic [] (Z19 ts (Z1 n.decls num)) ?_)
   rintro _ _ ⟨rfl,rfl⟩
   refine irk 1 (.n 87 (.b (decide (ts=(Z1 n.decls num)))) .r) ?_
   exact Z05 (wk [0,0] (fr (fc (x:=.b (decide (ts=(Z1 n.decls num)))) (lb (by simp only [hb7];rfl)) fl))) hj5
  have hp14:¬((Z0a n.decls num)≥0):=Zj decide_eq_true_iff hb7
  refine irk 5 (.n 87 (.b false) (.d (.d (.d (.k .z))))) ?_
  exact Z05 (wk [0,0] (fr (fc (x:=.b false) (lb (by simp only [hb7];rfl)) fl))) hj5
 refine aq (ar (irk 2 (.n 88 (.b (op==9)) .r) (ie (Z9f (fun F h=>F=[(1,.i op),(2,.i num),(3,nInt ts),(4,.p b1 0),(88,.b ((op==9)||(op==10)))]∧h=[.obj b1 [Z2 n.decls,nSg3 (n.routines.map Z4)]]) ?_ ?_))))
 ·refine ac (op==9) beq_iff_eq (fun hc10=>?_) (fun hc10=>?_)
  ·refine ak ?_
   exact ⟨[(1,.i op),(2,.i num),(3,nInt ts),(4,.p b1 0),(88,.b ((op==9)||(op==10)))],[.obj b1 [Z2 n.decls,nSg3 (n.routines.map Z4)]],⟨rfl,rfl⟩,(wk [0] (fr (fr (fr (fr (fc (x:=.b (op==9)) (lb (by first|rfl|(rw [if_pos hc10])|(rw [if_neg hc10])|(simp [hc10];done)|(rw [Bool.eq_iff_iff];simp [hc10];done)|omega)) fl))))))⟩
  refine az (ir 2 [(1,.i op),(2,.i num),(3,nInt ts),(4,.p b1 0),(88,.b (op==10))] (ie ?_))
  exact ⟨[(1,.i op),(2,.i num),(3,nInt ts),(4,.p b1 0),(88,.b ((op==9)||(op==10)))],[.obj b1 [Z2 n.decls,nSg3 (n.routines.map Z4)]],⟨rfl,rfl⟩,(wk [0] (fr (fr (fr (fr (fc (x:=.b (op==10)) (lb (by first|rfl|(rw [if_pos hc10])|(rw [if_neg hc10])|(simp [hc10];done)|(rw [Bool.eq_iff_iff];simp [hc10];done)|omega)) fl))))))⟩
 rintro F h ⟨rfl,rfl⟩
 refine ac ((op==9)||(op==10)) (p:=(op=9)∨(op=10)) (Zf beq_iff_eq beq_iff_eq) (fun hc11=>?_) (fun hc11=>?_)
 ·refine aq (ar (Z2h [(1,.i op),(2,.i num),(3,nInt ts),(4,.p b1 0),(99,.b ((decide (num<0))||(decide (num≥(((n.routines.map Z4).length:Nat):Int)))))] [.obj b1 [Z2 n.decls,nSg3 (n.routines.map Z4)]] ?_ ?_))
  ·refine ir 3 [(1,.i op),(2,.i num),(3,nInt ts),(4,.p b1 0),(93,.b (decide (num<0)))] (ib (b:=(decide (num<0))) 93 (fun hb8=>?_) (fun hb8=>?_))
   ·have hp15:num<0:=(decide_eq_true_iff).1 hb8
    refine irk 6 (.n 99 (.b true) (.d (.k (.k (.k (.k .z)))))) (ie ?_)
    exact wk [0] (fr (fr (fr (fr (fc (x:=.b true) (lb (by simp only [hb8];rfl)) fl)))))
   have hp16:¬(num<0):=Zj decide_eq_true_iff hb8
   refine irK 3 (.n 94 (.i num) (.n 96 (nSg3 (n.routines.map Z4)) (.k (.k (.k (.k (.k .z))))))) [0] [b1] (io (.i (((n.routines.map Z4).length:Nat):Int)) (.i (((Z5q (n.routines.map Z4)).length:Nat):Int)) (li (by rw [Z6k])) (irk 2 (.n 99 (.b (decide (num≥(((n.routines.map Z4).length:Nat):Int)))) .r) (ie ?_)))
   exact wk [0] (fr (fr (fr (fr (fc (x:=.b (decide (num≥(((n.routines.map Z4).length:Nat):Int)))) (lb (by simp only [hb8];rfl)) fl)))))
  refine ac ((decide (num<0))||(decide (num≥(((n.routines.map Z4).length:Nat):Int)))) (p:=(num<0)∨(num≥(((n.routines.map Z4).length:Nat):Int))) (Zf decide_eq_true_iff decide_eq_true_iff) (fun hc12=>?_) (fun hc12=>?_)
  ·refine ar (ir 2 [(8,.i (-1)),(9,.b false)] (ie ?_))
   have hF:=sf9n (n:=n) (ts:=ts) hc11 hc12
   exact at_ (r2 [] [.i (-1),.b false] ⟨(-1),rfl,rfl,(sfnp hF)⟩ (AVLe.tup (.cons (lr _) (.cons (lb (sfn hF)) .nil))))
  refine ak (aD 14 (dT (fuel:=11) 14 [0,1,2] [(1,.i op),(2,.i num),(3,nInt ts),(4,.p b1 0),(101,nSg3 (n.routines.map Z4)),(102,.i num)] [0] [b1] ?_))
  obtain ⟨x3,hx3⟩:=Z9 (xs:=(n.routines.map Z4)) (j:=num.toNat) om
  obtain ⟨r,hr,hrx⟩:=Zfw hx3
  have hrp:=hn.params_at hr
  have hpx:x3.pms=r.params:=by rw [hrx];rfl
  have hpl:x3.pms.length≤3:=by rw [hpx];exact hrp
  refine dx 3 (Z0 (es:=Z5q (n.routines.map Z4)) (hv:=none) (j:=num) (sz:=3) (y:=aSg3 x3) kr om (Z7g hx3) rfl) (dtK (fuel:=5) 10 [4,5,6,7,8] (.n 105 (nInt x3.pms) (.n 107 (nSg3 (n.routines.map Z4)) (.n 108 (.i num) .r))) [0] [b1] (dx 9 (Z0 (es:=Z5q (n.routines.map Z4)) (hv:=none) (j:=num) (sz:=3) (y:=aSg3 x3) kr om (Z7g hx3) rfl) (dtk (fuel:=0) 4 [10,11,12,13] (.n 10 (nInt x3.pms) (.n 11 (.i x3.res) .r)) (de (aq (ar (irk 2 (.n 113 (.b (op==9)) .r) (ie (ac (op==9) beq_iff_eq (fun hc13=>?_) (fun hc13=>?_))))))))))
  ·refine ar (ir 3 [(114,.i x3.res),(115,nInt ts),(116,nInt x3.pms)] (ic [] (Z19 ts x3.pms) ?_))
   rintro _ _ ⟨rfl,rfl⟩
   refine ir 2 [(8,.i x3.res),(9,.b (decide (ts=x3.pms)))] (ie ?_)
   have hF:=sf9 (ts:=ts) hc13 hc12 hx3
   exact at_ (r2 [] [.i x3.res,.b (decide (ts=x3.pms))] ⟨x3.res,rfl,rfl,(sfp hF)⟩ (AVLe.tup (.cons (lr _) (.cons (lb (sfb hF (by simp [*];try omega))) .nil))))
  refine ak (ar (irk 1 (.n 118 (nInt x3.pms) .r) (io (.i x3.pms.length) (.i (((Z6 x3.pms).length:Nat):Int)) (li (by rw [Z5])) (ia (((x3.pms.length:Int)-1)) (((x3.pms.length:Int))-(1)) (irk 1 (.n 16 (.i ((x3.pms.length:Int)-1)) .r) (ie (aq (ar (irk 2 (.n 122 (.b (decide (((x3.pms.length:Int)-1)<0))) .r) (ie (ac (decide (((x3.pms.length:Int)-1)<0)) decide_eq_true_iff (fun hc14=>?_) (fun hc14=>?_))))))))))))
  ·refine ar (ir 2 [(8,.i (-1)),(9,.b false)] (ie ?_))
   have hF:=Z03s (ts:=ts) (hc11.resolve_left hc13) hc12 hx3 hc14
   exact at_ (r2 [] [.i (-1),.b false] ⟨(-1),rfl,rfl,(sfnp hF)⟩ (AVLe.tup (.cons (lr _) (.cons (lb (sfn hF)) .nil))))
  refine ak (aD 9 (dtK (fuel:=5) 9 [0,1,2,3] (.n 124 (Z2 n.decls) (.n 125 (nInt x3.pms) (.n 126 (.i ((x3.pms.length:Int)-1)) .r))) [0] [b1] ?_))
  obtain ⟨x4,hx4⟩:=Z9 (xs:=x3.pms) (j:=((x3.pms.length:Int)-1).toNat) om
  refine dx 4 (Z0 (es:=Z6 x3.pms) (hv:=none) (j:=((x3.pms.length:Int)-1)) (sz:=1) (y:=.i x4) kr om (Za hx4) rfl) (dtk (fuel:=2) 4 [5,6] (.n 128 (.i x4) (.n 129 (.i x3.res) .r)) (do_ 7 (dc 7 [] [] [] (Zgu n.decls x4 x3.res) ?_)))
  rintro _ _ ⟨rfl,rfl⟩
  refine dtk (fuel:=0) 1 [8] (.n 17 (.i (Z2d n.decls x4 x3.res)) .r) (de (ar (Z1t 10 [(131,.i (Z2d n.decls x4 x3.res)),(140,.b ((decide ((Z2d n.decls x4 x3.res)≥0))&&(decide (ts=(x3.pms.take (((x3.pms.length:Int)-1).toNat))))))] [.obj b1 [Z2 n.decls,nSg3 (n.routines.map Z4)]] ?_ (fun hj6=>?_))))
  ·refine ir 2 [(8,.i (Z2d n.decls x4 x3.res)),(9,.b ((decide ((Z2d n.decls x4 x3.res)≥0))&&(decide (ts=(x3.pms.take (((x3.pms.length:Int)-1).toNat))))))] (ie ?_)
   have hF:=sf10 (ts:=ts) (hc11.resolve_left hc13) hc12 hx3 hc14 hx4
   exact at_ (r2 [] [.i (Z2d n.decls x4 x3.res),.b ((decide ((Z2d n.decls x4 x3.res)≥0))&&(decide (ts=(x3.pms.take (((x3.pms.length:Int)-1).toNat)))))] ⟨Z2d n.decls x4 x3.res,rfl,rfl,(sfp hF)⟩ (AVLe.tup (.cons (lr _) (.cons (lb (sfb hF (by rw [Bool.eq_iff_iff];simp))) .nil))))
  refine ir 4 [(3,nInt ts),(10,nInt x3.pms),(16,.i ((x3.pms.length:Int)-1)),(131,.i (Z2d n.decls x4 x3.res)),(134,.b (decide ((Z2d n.decls x4 x3.res)≥0)))] (ib (b:=(decide ((Z2d n.decls x4 x3.res)≥0))) 134 (fun hb9=>?_) (fun hb9=>?_))
  ·have hp17:(Z2d n.decls x4 x3.res)≥0:=(decide_eq_true_iff).1 hb9
   refine irk 3 (.n 135 (nInt ts) (.n 136 (nInt x3.pms) (.n 137 (.i ((x3.pms.length:Int)-1)) (.k (.d (.d (.d (.k .z)))))))) (is_ (Z8q (es:=Z6 x3.pms) (hv:=none) (l:=0) (m:=((x3.pms.length:Int)-1)) (sz:=1) (es':=Z6 (x3.pms.take (((x3.pms.length:Int)-1).toNat))) kr om (by simp<;>omega) (by simp<;>omega) (Z14 _) (by first|(simp only [Int.toNat_natCast,List.take_length,Z3v,Z4p];done)|(simp only [Int.toNat_natCast,List.take_length,Z3v,Z4p];rfl)|(simp [Z3v,Z4p];done))) (ic [] (Z19 ts (x3.pms.take (((x3.pms.length:Int)-1).toNat))) ?_))
   rintro _ _ ⟨rfl,rfl⟩
   refine irk 1 (.n 140 (.b (decide (ts=(x3.pms.take (((x3.pms.length:Int)-1).toNat))))) .r) ?_
   exact Z05 (wk [0] (fr (fc (x:=.b (decide (ts=(x3.pms.take (((x3.pms.length:Int)-1).toNat))))) (lb (by simp only [hb9];rfl)) fl))) hj6
  have hp18:¬((Z2d n.decls x4 x3.res)≥0):=Zj decide_eq_true_iff hb9
  refine irk 6 (.n 140 (.b false) (.d (.d (.d (.d (.k .z)))))) ?_
  exact Z05 (wk [0] (fr (fc (x:=.b false) (lb (by simp only [hb9];rfl)) fl))) hj6
 refine ar (ir 2 [(8,.i (-1)),(9,.b false)] (ie ?_))
 have hF:=sfd (n:=n) (num:=num) (ts:=ts) hc1 hc5 hc6 hc7 hc9 hc11
 exact at_ (r2 [] [.i (-1),.b false] ⟨(-1),rfl,rfl,(sfnp hF)⟩ (AVLe.tup (.cons (lr _) (.cons (lb (sfn hF)) .nil))))
end Go.Abs
end
section
namespace Go.Abs
open Go.Proofs
set_option maxRecDepth 10000
set_option maxHeartbeats 4000000
theorem Z4k (n:Normal) (us:List Int) (ks:List Block) (ms:List (List Int)) (hn:NOk n:=by exact ob) (hnn:∀t∈us,0≤t) (hk:0<ks.length:=by exact ob) (hl:ks.length=ms.length:=by exact ob) (hb:us.length+3+4*bsz ks≤1000000000:=by exact ob) (hr:brng ks:=by exact ob) (hm3:∀m∈ms,m.length≤3) (hmn:∀m∈ms,∀f∈m,0≤f) (ih:∀(b:Block) (us:List Int),(b.sz≤bsz ks)→(us.length+4*b.sz≤1000000000)→(b.rng)→(∀t∈us,0≤t)→Z3 Tryz.prog 113 [.agg [Z2 n.decls,nSg3 (n.routines.map Z4)],nInt us,Zk b] [] (fun r h=>r=.i (Zc n us b)∧h=[])):Z3 Tryz.prog 196 [.agg [Z2 n.decls,nSg3 (n.routines.map Z4)],nInt us,Z03 ks,Z32 ms] [] (fun r h=>r=.tup [.i (Z1h n us ks ms true 0),.b (decide (0≤Z1h n us ks ms true 0))]∧h=[]):=by
 have hkl:=Ztj ks
 refine enter Tryz.func196 kr (n:=45) kr kr (ar (iA [Z2 n.decls,nSg3 (n.routines.map Z4)] ?_))
 intro b1
 refine ir 2 [(1,nInt us),(2,Z03 ks),(3,Z32 ms),(4,.p b1 0)] (ie (ar (irk 1 (.n 10 (.i (-1)) .r) (ie (aq (ar (irk 1 (.n 14 (Z03 ks) .r) (io (.i ks.length) (.i (((Z0i ks).length:Nat):Int)) (li (by rw [Z0n])) (irk 1 (.n 16 (.i 0) .r) (ie (ab 0 (al (fun m F h=>∃(k:Nat) (t:Int),(k≤ks.length)∧(0<k→0≤t)∧(Z1h n us (ks.drop k) (ms.drop k) (decide (k=0)) t=Z1h n us ks ms true 0)∧F=[(1,nInt us),(3,Z32 ms),(4,.p b1 0),(10,.i t),(14,Z03 ks),(15,.i ks.length),(16,.i k)]∧h=[.obj b1 [Z2 n.decls,nSg3 (n.routines.map Z4)]]∧m=ks.length-k) _ _ _ ⟨0,(-1),ob,ob,(Zv1 hk (-1)),rfl,rfl,rfl⟩ (wk [0] (fr (fr (fr (fr (fr (fr (fc (x:=.i 0) li fl)))))))) ?_))))))))))))
 rintro m F h ⟨k,t,c0_0,c0_1,c0_2,rfl,rfl,rfl⟩
 refine ar (irk 1 (.n 17 (.b (decide ((k:Int)<(ks.length:Int)))) .r) (ie (aq (ac (decide ((k:Int)<(ks.length:Int))) decide_eq_true_iff (fun hc1=>?_) (fun hc1=>?_)))))
 ·refine ak (aq (ab 1 (ar (irk 1 (.n 18 (.i k) .r) ?_))))
  obtain ⟨x1,hx1⟩:=Z9 (xs:=ks) (j:=k) om
  have hbs:=Ztk hx1
  have hbr:=Zfi hr hx1
  refine is_ (Z0 (es:=Z0i ks) (hv:=none) (j:=(k:Int)) (sz:=2) (y:=Zk x1) kr om (Z22 hx1) rfl) (irk 1 (.n 20 (Zk x1) .r) (iA [.sl [] (some (.slice none 0 0)),.i 0] ?_))
  intro b2
  refine irk 1 (.n 11 (.i k) .r) (iS 0 b2 0 (Z1b x1) [.sl [] (some (.slice none 0 0)),.i 0] (Z1b x1) (ie (aD 11 (dtK (fuel:=7) 11 [0,1,2,3] (.n 21 (.agg [Z2 n.decls,nSg3 (n.routines.map Z4)]) (.n 22 (nInt us) (.n 23 (Z32 ms) (.n 24 (.i k) .r)))) [1] [b1] ?_))))
  obtain ⟨x2,hx2⟩:=Z9 (xs:=ms) (j:=k) om
  have hxl:=hm3 x2 (List.mem_of_getElem? hx2)
  have hxn:=hmn x2 (List.mem_of_getElem? hx2)
  refine dx 4 (Z0 (es:=Z35 ms) (hv:=none) (j:=(k:Int)) (sz:=1) (y:=nInt x2) kr om (Z4q hx2) rfl) (dtK (fuel:=4) 6 [5,8] (.n 26 (nInt x2) (.n 29 (Zk x1) .r)) [0] [b2] (do_ 6 (dL 6 [0,1] [b2,b1] (Z35 [us,x2]) 2 1 ?_)))
  intro v1
  refine dtk (fuel:=3) 3 [] (.n 27 (Z32 [us,x2]) (.p .r)) (do_ 7 (dc 7 [] [0,1] [b2,b1] (Z7l [us,x2] (hf:=(by simp only [Zdj,List.length_append];omega))) ?_))
  rintro _ _ ⟨v2,rfl,rfl⟩
  refine dtk (fuel:=2) 2 [] (.n 28 (nInt ([us,x2].flatten)) (.p .r)) (do_ 9 (dc 9 [] [] [] (ih x1 ([us,x2].flatten) ob (by simp only [Zdj,List.length_append];omega) ob (by rw [Zdj];exact Zmm hnn hxn)) ?_))
  rintro _ _ ⟨rfl,rfl⟩
  refine dtk (fuel:=0) 1 [10] (.n 13 (.i (Zc n ([us,x2].flatten) x1)) .r) (de (aq (ar (Z2h [(1,nInt us),(3,Z32 ms),(4,.p b1 0),(13,.i (Zc n ([us,x2].flatten) x1)),(14,Z03 ks),(15,.i ks.length),(16,.i k),(41,.b ((decide ((Zc n ([us,x2].flatten) x1)<0))||((decide ((k:Int)>0))&&((Zc n ([us,x2].flatten) x1) != t))))] [.tail v2 1,.tail v1 1,.obj b2 (Z1b x1),.obj b1 [Z2 n.decls,nSg3 (n.routines.map Z4)]] ?_ ?_))))
  ·refine ir 3 [(1,nInt us),(3,Z32 ms),(4,.p b1 0),(10,.i t),(11,.i k),(13,.i (Zc n ([us,x2].flatten) x1)),(14,Z03 ks),(15,.i ks.length),(16,.i k),(33,.b (decide ((Zc n ([us,x2].flatten) x1)<0)))] (ib (b:=(decide ((Zc n ([us,x2].flatten) x1)<0))) 33 (fun hb1=>?_) (fun hb1=>?_))
   ·have hp1:(Zc n ([us,x2].flatten) x1)<0:=(decide_eq_true_iff).1 hb1
    refine irk 8 (.n 41 (.b true) (.d (.k (.k (.k (.d (.d (.k (.k (.k (.k .z))))))))))) (ie ?_)
    exact wk [0,0,0,0] (fr (fr (fr (fr (fr (fr (fr (fc (x:=.b true) (lb (by simp only [hb1];rfl)) fl))))))))
   have hp2:¬((Zc n ([us,x2].flatten) x1)<0):=Zj decide_eq_true_iff hb1
   refine irk 3 (.n 36 (.b (decide ((k:Int)>0))) (.k (.k (.k (.k (.k (.d (.k (.k (.k (.k .z))))))))))) (ib (b:=(decide ((k:Int)>0))) 36 (fun hb2=>?_) (fun hb2=>?_))
   ·have hp3:(k:Int)>0:=(decide_eq_true_iff).1 hb2
    refine irk 5 (.n 41 (.b ((Zc n ([us,x2].flatten) x1) != t)) (.k (.d .r))) (ie ?_)
    exact wk [0,0,0,0] (fr (fr (fr (fr (fr (fr (fr (fc (x:=.b ((Zc n ([us,x2].flatten) x1) != t)) (lb (by simp only [hb1,hb2];rfl)) fl))))))))
   have hp4:¬((k:Int)>0):=Zj decide_eq_true_iff hb2
   refine irk 5 (.n 41 (.b false) (.k (.d .r))) (ie ?_)
   exact wk [0,0,0,0] (fr (fr (fr (fr (fr (fr (fr (fc (x:=.b false) (lb (by simp only [hb1,hb2];rfl)) fl))))))))
  refine ac ((decide ((Zc n ([us,x2].flatten) x1)<0))||((decide ((k:Int)>0))&&((Zc n ([us,x2].flatten) x1) != t))) (p:=((Zc n ([us,x2].flatten) x1)<0)∨(((k:Int)>0)∧((Zc n ([us,x2].flatten) x1)≠t))) (Zf decide_eq_true_iff (Zo decide_eq_true_iff bne_iff_ne)) (fun hc2=>?_) (fun hc2=>?_)
  ·refine ar (ir 2 [(8,.i (-1)),(9,.b false)] (ie ?_))
   have hK:Z1h n us ks ms true 0=-1:=by rw [←c0_2];rw [Zdj] at hc2;exact Zq0 hx1 hx2 hc2
   exact at_ (r2 [] [.i (-1),.b false] ⟨rfl,rfl⟩ (AVLe.tup (.cons (li (by rw [hK])) (.cons (lb (by rw [hK];rfl)) .nil))))
  refine ak (az (ir 2 [(1,nInt us),(3,Z32 ms),(4,.p b1 0),(10,.i (Zc n ([us,x2].flatten) x1)),(14,Z03 ks),(15,.i ks.length),(16,.i k)] (ie (az (ia (((k+1:Nat):Int)) (((k:Int))+(1)) (irk 1 (.n 16 (.i (k+1:Nat)) (.p (.k (.k (.k (.k (.k (.k .z)))))))) (ie ?_)))))))
  exact ⟨_,_,_,ob,⟨k+1,Zc n ([us,x2].flatten) x1,ob,(by intro _;omega),(by rw [Zdj] at hc2 ⊢;rw [←c0_2];exact (Zmd hx1 hx2 hc2).symm),rfl,rfl,rfl⟩,(wk [3] (fr (fr (fr (fr (fr (fr (fc (x:=.i (k+1:Nat)) li fl))))))))⟩
 refine ax 0 (ar (ir 3 [(8,.i t),(9,.b true)] (ie ?_)))
 have hK:Z1h n us ks ms true 0=t:=by rw [←c0_2];exact Zq1 om
 exact at_ (r2 [] [.i t,.b true] ⟨rfl,rfl⟩ (AVLe.tup (.cons (li (by rw [hK])) (.cons (lb (by rw [hK];exact (decide_eq_true (c0_1 om)).symm)) .nil))))
theorem Z4l (n:Normal) (us:List Int) (s:Step) (hn:NOk n:=by exact ob) (hty:NTy n:=by exact ob) (hnn:∀t∈us,0≤t) (hb:us.length+4*s.sz≤1000000000:=by exact ob) (hr:s.rng:=by exact ob) (ih:∀(b:Block) (us:List Int),(b.sz<s.sz)→(us.length+4*b.sz≤1000000000)→(b.rng)→(∀t∈us,0≤t)→Z3 Tryz.prog 113 [.agg [Z2 n.decls,nSg3 (n.routines.map Z4)],nInt us,Zk b] [] (fun r h=>r=.i (Zc n us b)∧h=[])):Z3 Tryz.prog 160 [.agg [Z2 n.decls,nSg3 (n.routines.map Z4)],nInt us,Z0q s] [] (fun r h=>∃(t:Int),r=.tup [.i t,.b (decide (0≤Z8 n us s))]∧h=[]∧(¬Z0w s.op=true→0≤Z8 n us s→t=Z8 n us s)):=by
 have hdk:=hn.decls
 have hkz:=Z64 s
 have haz:=Z83 s
 have hse:=s.sz_eq
 rw [s.rng_eq] at hr
 obtain ⟨hnum,hkr⟩:=hr
 refine enter Tryz.func160 kr (n:=233) kr kr (ar (iA [Z2 n.decls,nSg3 (n.routines.map Z4)] ?_))
 intro b1
 refine iA (Z0j s) ?_
 intro b2
 refine ir 2 [(1,nInt us),(3,.p b1 0),(5,.p b2 0)] (ie (ar (irK 2 (.n 16 (nInt s.args) .r) [0] [b2] (io (.i s.args.length) (.i (((Z6 s.args).length:Nat):Int)) (li (by rw [Z5])) (iM 0 s.args.length ?_)))))
 intro v1
 refine irk 1 (.n 8 (oInt [] v1) .r) (ie (aq (ar (irK 2 (.n 20 (nInt s.args) .r) [1] [b2] (io (.i s.args.length) (.i (((Z6 s.args).length:Nat):Int)) (li (by rw [Z5])) (irk 1 (.n 22 (.i 0) .r) (ie (ab 0 (al (fun m F h=>∃(k:Nat) (ts:List Int) (v:Value),(k≤s.args.length)∧(ts.length=k)∧(Z24 us (s.args.take k)=some ts)∧F=[(1,nInt us),(3,.p b1 0),(5,.p b2 0),(8,oInt ts v),(20,nInt s.args),(21,.i s.args.length),(22,.i k)]∧h=[.obj b2 (Z0j s),.obj b1 [Z2 n.decls,nSg3 (n.routines.map Z4)],.tail v 1]∧m=s.args.length-k) _ _ _ ⟨0,[],v1,ob,ob,ob,rfl,rfl,rfl⟩ (wk [1,1,0] (fr (fr (fr (fr (fr (fr (fc (x:=.i 0) li fl)))))))) ?_)))))))))
 rintro m F h ⟨k,ts,v,c0_0,c0_1,c0_2,rfl,rfl,rfl⟩
 refine ar (irk 1 (.n 23 (.b (decide ((k:Int)<(s.args.length:Int)))) .r) (ie (aq (ac (decide ((k:Int)<(s.args.length:Int))) decide_eq_true_iff (fun hc1=>?_) (fun hc1=>?_)))))
 ·refine ak (aq (ab 1 (ar ?_)))
  obtain ⟨x1,hx1⟩:=Z9 (xs:=s.args) (j:=k) om
  refine is_ (Z0 (es:=Z6 s.args) (hv:=none) (j:=(k:Int)) (sz:=1) (y:=.i x1) kr om (Za hx1) rfl) (irk 2 (.n 10 (.i x1) .r) (ie (aq (ar (Z2h [(1,nInt us),(3,.p b1 0),(5,.p b2 0),(8,oInt ts v),(10,.i x1),(20,nInt s.args),(21,.i s.args.length),(22,.i k),(33,.b ((decide (x1<0))||(decide (x1≥(us.length:Int)))))] [.obj b2 (Z0j s),.obj b1 [Z2 n.decls,nSg3 (n.routines.map Z4)],.tail v 1] ?_ ?_)))))
  ·refine ir 3 [(1,nInt us),(3,.p b1 0),(5,.p b2 0),(8,oInt ts v),(10,.i x1),(20,nInt s.args),(21,.i s.args.length),(22,.i k),(28,.b (decide (x1<0)))] (ib (b:=(decide (x1<0))) 28 (fun hb1=>?_) (fun hb1=>?_))
   ·have hp1:x1<0:=(decide_eq_true_iff).1 hb1
    refine irk 5 (.n 33 (.b true) (.d (.k (.k (.k (.k (.k (.k (.k (.k .z)))))))))) (ie ?_)
    exact wk [0,0,0] (fr (fr (fr (fr (fr (fr (fr (fr (fc (x:=.b true) (lb (by simp only [hb1];rfl)) fl)))))))))
   have hp2:¬(x1<0):=Zj decide_eq_true_iff hb1
   refine irk 2 (.n 29 (.i x1) (.n 30 (nInt us) (.k (.k (.k (.k (.k (.k (.k (.k (.k .z))))))))))) (io (.i us.length) (.i (((Z6 us).length:Nat):Int)) (li (by rw [Z5])) (irk 2 (.n 33 (.b (decide (x1≥(us.length:Int)))) .r) (ie ?_)))
   exact wk [0,0,0] (fr (fr (fr (fr (fr (fr (fr (fr (fc (x:=.b (decide (x1≥(us.length:Int)))) (lb (by simp only [hb1];rfl)) fl)))))))))
  refine ac ((decide (x1<0))||(decide (x1≥(us.length:Int)))) (p:=(x1<0)∨(x1≥(us.length:Int))) (Zf decide_eq_true_iff decide_eq_true_iff) (fun hc2=>?_) (fun hc2=>?_)
  ·refine ar (ir 2 [(6,.i (-1)),(7,.b false)] (ie ?_))
   have hS:Z8 n us s=-1:=Zi7 (Zif hx1 (Z5x om))
   exact at_ (r2 [] [.i (-1),.b false] ⟨(-1),rfl,rfl,(by intro _ h;rw [hS] at h;omega)⟩ (AVLe.tup (.cons (lr _) (.cons (lb (by rw [hS];rfl)) .nil))))
  refine ak (az (ir 3 [(1,nInt us),(3,.p b1 0),(5,.p b2 0),(20,nInt s.args),(21,.i s.args.length),(22,.i k),(34,oInt ts v),(35,nInt us),(36,.i x1)] ?_))
  obtain ⟨x2,hx2⟩:=Z9 (xs:=us) (j:=x1.toNat) om
  refine is_ (Z0 (es:=Z6 us) (hv:=none) (j:=x1) (sz:=1) (y:=.i x2) kr om (Za hx2) rfl) (irk 1 (.n 38 (.i x2) .r) (iL (Z6 [x2]) 1 1 ?_))
  intro v2
  refine irk 0 (.n 39 (nInt [x2]) (.p .r)) (ip 3 (Z6 (ts++[x2])) (Z6 ts) (Z6 [x2]) v none 1 (Z14 _) (Z14 _) (Z48 _) (by simp<;>omega) (by simp [Z2n,Z6]) ?_)
  intro v3
  refine irk 1 (.n 8 (oInt (ts++[x2]) v3) .r) (ie (az (ia (((k+1:Nat):Int)) (((k:Int))+(1)) (irk 1 (.n 22 (.i (k+1:Nat)) (.p (.k (.p (.d (.d (.p (.k (.k (.k (.k (.k .z)))))))))))) (ie ?_)))))
  exact ⟨_,_,_,ob,⟨k+1,(ts++[x2]),v3,ob,ob,(Zns c0_2 hx1 (by rw [Z6y om hx2])),rfl,rfl,rfl⟩,(wk [2,2,0] (fr (fr (fr (fr (fr (fr (fc (x:=.i (k+1:Nat)) li fl))))))))⟩
 refine ax 0 (aq (ar (Z2h [(1,nInt us),(3,.p b1 0),(5,.p b2 0),(8,oInt ts v),(70,.b ((s.into != 0)&&((s.op != 6)||((decide (s.into<1))||((decide (s.into>(us.length:Int)))||((gI us (s.into-1))==0))))))] [.obj b2 (Z0j s),.obj b1 [Z2 n.decls,nSg3 (n.routines.map Z4)],.tail v 1] ?_ ?_)))
 ·refine iR 4 [(1,nInt us),(3,.p b1 0),(5,.p b2 0),(8,oInt ts v),(45,.b (s.into != 0))] [0] [b2] (ib (b:=(s.into != 0)) 45 (fun hb2=>?_) (fun hb2=>?_))
  ·have hp3:s.into≠0:=(bne_iff_ne).1 hb2
   refine irK 4 (.n 49 (.b (s.op != 6)) (.k (.k (.k (.k (.k .z)))))) [0] [b2] (ib (b:=(s.op != 6)) 49 (fun hb3=>?_) (fun hb3=>?_))
   ·have hp4:s.op≠6:=(bne_iff_ne).1 hb3
    refine irk 21 (.n 70 (.b true) (.k (.d .r))) (ie ?_)
    exact wk [0,0,0] (fr (fr (fr (fr (fc (x:=.b true) (lb (by simp only [hb2,hb3];rfl)) fl)))))
   have hp5:¬(s.op≠6):=Zj bne_iff_ne hb3
   refine irK 5 (.n 54 (.b (decide (s.into<1))) (.d (.d .r))) [0] [b2] (ib (b:=(decide (s.into<1))) 54 (fun hb4=>?_) (fun hb4=>?_))
   ·have hp6:s.into<1:=(decide_eq_true_iff).1 hb4
    refine irk 16 (.n 70 (.b true) (.k (.d .r))) (ie ?_)
    exact wk [0,0,0] (fr (fr (fr (fr (fc (x:=.b true) (lb (by simp only [hb2,hb3,hb4];rfl)) fl)))))
   have hp7:¬(s.into<1):=Zj decide_eq_true_iff hb4
   refine irK 3 (.n 56 (.i s.into) (.n 57 (nInt us) (.k (.d .r)))) [0] [b2] (io (.i us.length) (.i (((Z6 us).length:Nat):Int)) (li (by rw [Z5])) (irk 3 (.n 61 (.b (decide (s.into>(us.length:Int)))) .r) (ib (b:=(decide (s.into>(us.length:Int)))) 61 (fun hb5=>?_) (fun hb5=>?_))))
   ·have hp8:s.into>(us.length:Int):=(decide_eq_true_iff).1 hb5
    refine irk 9 (.n 70 (.b true) (.k (.d .r))) (ie ?_)
    exact wk [0,0,0] (fr (fr (fr (fr (fc (x:=.b true) (lb (by simp only [hb2,hb3,hb4,hb5];rfl)) fl)))))
   have hp9:¬(s.into>(us.length:Int)):=Zj decide_eq_true_iff hb5
   refine irK 3 (.n 62 (nInt us) (.n 64 (.i s.into) (.k (.d .r)))) [0] [b2] (ia ((s.into-1)) ((s.into)-(1)) (is_ (Z0 (es:=Z6 us) (hv:=none) (j:=(s.into-1)) (sz:=1) (y:=.i (gI us (s.into-1))) kr om (Za (Zze om)) rfl) (irk 4 (.n 70 (.b ((gI us (s.into-1))==0)) .r) (ie ?_))))
   exact wk [0,0,0] (fr (fr (fr (fr (fc (x:=.b ((gI us (s.into-1))==0)) (lb (by simp only [hb2,hb3,hb4,hb5];rfl)) fl)))))
  have hp10:¬(s.into≠0):=Zj bne_iff_ne hb2
  refine irk 25 (.n 70 (.b false) (.d (.k (.k (.k (.k .z)))))) (ie ?_)
  exact wk [0,0,0] (fr (fr (fr (fr (fc (x:=.b false) (lb (by simp only [hb2];rfl)) fl)))))
 refine ac ((s.into != 0)&&((s.op != 6)||((decide (s.into<1))||((decide (s.into>(us.length:Int)))||((gI us (s.into-1))==0))))) (p:=(s.into≠0)∧((s.op≠6)∨((s.into<1)∨((s.into>(us.length:Int))∨((gI us (s.into-1))=0))))) (Zo bne_iff_ne (Zf bne_iff_ne (Zf decide_eq_true_iff (Zf decide_eq_true_iff beq_iff_eq)))) (fun hc3=>?_) (fun hc3=>?_)
 ·refine ar (ir 2 [(6,.i (-1)),(7,.b false)] (ie ?_))
  have hS:Z8 n us s=-1:=Zl6 (Zcs.1 hc3)
  exact at_ (r2 [] [.i (-1),.b false] ⟨(-1),rfl,rfl,(by intro _ h;rw [hS] at h;omega)⟩ (AVLe.tup (.cons (lr _) (.cons (lb (by rw [hS];rfl)) .nil))))
 refine ak (aq (ab 2 (ar (iR 2 [(1,nInt us),(3,.p b1 0),(5,.p b2 0),(8,oInt ts v),(73,.i s.op)] [0] [b2] (ic [] (Z4g s.op) ?_)))))
 rintro _ _ ⟨rfl,rfl⟩
 refine irk 1 (.n 71 (.b (Z0w s.op)) .r) (ie (ac (Z0w s.op) Iff.rfl (fun hc4=>?_) (fun hc4=>?_)))
 ·refine ar (irk 1 (.n 75 (oInt ts v) .r) (io (.i ts.length) (.i (((Z6 ts).length:Nat):Int)) (li (by rw [Z5])) (Z1t 9 [(3,.p b1 0),(5,.p b2 0),(8,oInt ts v),(83,.b (((ts.length:Int)==1)&&((gI ts 0) != 0)))] [.obj b2 (Z0j s),.obj b1 [Z2 n.decls,nSg3 (n.routines.map Z4)],.tail v 1] ?_ (fun hj1=>?_))))
  ·refine Z1t 14 [(3,.p b1 0),(5,.p b2 0),(8,oInt ts v),(88,.b ((((ts.length:Int)==1)&&((gI ts 0) != 0))&&(s.num==0)))] [.obj b2 (Z0j s),.obj b1 [Z2 n.decls,nSg3 (n.routines.map Z4)],.tail v 1] ?_ (fun hj2=>?_)
   ·refine Z1t 20 [(3,.p b1 0),(5,.p b2 0),(8,oInt ts v),(94,.b (((((ts.length:Int)==1)&&((gI ts 0) != 0))&&(s.num==0))&&((s.kids.length:Int)==0)))] [.obj b2 (Z0j s),.obj b1 [Z2 n.decls,nSg3 (n.routines.map Z4)],.tail v 1] ?_ (fun hj3=>?_)
    ·refine ir 1 [(3,.p b1 0),(5,.p b2 0),(8,oInt ts v),(11,.b (((((ts.length:Int)==1)&&((gI ts 0) != 0))&&(s.num==0))&&((s.kids.length:Int)==0)))] (ie (aq (ar (Z2h [(3,.p b1 0),(8,oInt ts v),(11,.b (((((ts.length:Int)==1)&&((gI ts 0) != 0))&&(s.num==0))&&((s.kids.length:Int)==0))),(105,.b ((((((ts.length:Int)==1)&&((gI ts 0) != 0))&&(s.num==0))&&((s.kids.length:Int)==0))&&((s.op==16)||(s.op==17))))] [.obj b2 (Z0j s),.obj b1 [Z2 n.decls,nSg3 (n.routines.map Z4)],.tail v 1] ?_ ?_))))
     ·refine ir 2 [(3,.p b1 0),(5,.p b2 0),(8,oInt ts v),(11,.b (((((ts.length:Int)==1)&&((gI ts 0) != 0))&&(s.num==0))&&((s.kids.length:Int)==0))),(96,.b (((((ts.length:Int)==1)&&((gI ts 0) != 0))&&(s.num==0))&&((s.kids.length:Int)==0)))] (ib (b:=(((((ts.length:Int)==1)&&((gI ts 0) != 0))&&(s.num==0))&&((s.kids.length:Int)==0))) 96 (fun hb6=>?_) (fun hb6=>?_))
      ·have hp11:((((ts.length:Int)=1)∧((gI ts 0)≠0))∧(s.num=0))∧((s.kids.length:Int)=0):=((Zo (Zo (Zo beq_iff_eq bne_iff_ne) beq_iff_eq) beq_iff_eq)).1 hb6
       refine irK 4 (.n 100 (.b (s.op==16)) (.k (.k (.k (.k (.k .z)))))) [0] [b2] (ib (b:=(s.op==16)) 100 (fun hb7=>?_) (fun hb7=>?_))
       ·have hp12:s.op=16:=(beq_iff_eq).1 hb7
        refine irk 5 (.n 105 (.b true) (.k (.d .r))) (ie ?_)
        exact wk [0,0,0] (fr (fr (fr (fc (x:=.b true) (lb (by simp only [hb6,hb7];rfl)) fl))))
       have hp13:¬(s.op=16):=Zj beq_iff_eq hb7
       refine irK 5 (.n 105 (.b (s.op==17)) (.k (.d .r))) [0] [b2] (ie ?_)
       exact wk [0,0,0] (fr (fr (fr (fc (x:=.b (s.op==17)) (lb (by simp only [hb6,hb7];rfl)) fl))))
      have hp14:¬(((((ts.length:Int)=1)∧((gI ts 0)≠0))∧(s.num=0))∧((s.kids.length:Int)=0)):=Zj (Zo (Zo (Zo beq_iff_eq bne_iff_ne) beq_iff_eq) beq_iff_eq) hb6
      refine irk 9 (.n 105 (.b false) (.d (.k (.d (.k (.k .z)))))) (ie ?_)
      exact wk [0,0,0] (fr (fr (fr (fc (x:=.b false) (lb (by simp only [hb6];rfl)) fl))))
     refine ac ((((((ts.length:Int)==1)&&((gI ts 0) != 0))&&(s.num==0))&&((s.kids.length:Int)==0))&&((s.op==16)||(s.op==17))) (p:=(((((ts.length:Int)=1)∧((gI ts 0)≠0))∧(s.num=0))∧((s.kids.length:Int)=0))∧((s.op=16)∨(s.op=17))) (Zo (Zo (Zo (Zo beq_iff_eq bne_iff_ne) beq_iff_eq) beq_iff_eq) (Zf beq_iff_eq beq_iff_eq)) (fun hc5=>?_) (fun hc5=>?_)
     ·refine aD 12 (dT (fuel:=9) 12 [0,1,2] [(108,Z2 n.decls),(109,oInt ts v)] [1] [b1] (dx 3 (Z0 (es:=Z6 ts) (hv:=some v) (j:=0) (sz:=1) (y:=.i (gI ts 0)) kr om (Za (Zk3 om)) rfl) (dtk (fuel:=7) 8 [4] (.n 111 (.i (gI ts 0)) .r) (dK (fun F h=>F=[(13,.b (Z02 n.decls (gI ts 0)))]∧h=[.obj b2 (Z0j s),.obj b1 [Z2 n.decls,nSg3 (n.routines.map Z4)],.tail v 1]) ?_ ?_))))
      ·refine Zxn 5 9 ?_ ?_
       ·refine dc 5 [] [] [] (Z5l n.decls (gI ts 0)) ?_
        rintro _ _ ⟨rfl,rfl⟩
        refine dt (fuel:=3) 6 [6,7,8] [(113,Z2q (Z2b n.decls (gI ts 0))),(114,.b (Z02 n.decls (gI ts 0)))] (do_ 9 (dA 9 [] [] [.i 0,.i 0,.sl [] (some (.slice none 0 0))] ?_))
        intro b3
        refine do_ 10 (dS 10 0 [] [] b3 0 (Z2i (Z2b n.decls (gI ts 0))) [.i 0,.i 0,.sl [] (some (.slice none 0 0))] (Z2i (Z2b n.decls (gI ts 0))) (dt (fuel:=0) 1 [11] [(13,.b (Z02 n.decls (gI ts 0)))] (de ?_)))
        exact ⟨[(13,.b (Z02 n.decls (gI ts 0)))],[.obj b2 (Z0j s),.obj b1 [Z2 n.decls,nSg3 (n.routines.map Z4)],.tail v 1],⟨rfl,rfl⟩,(wk [1,1,1] fl)⟩
       refine dA 9 [1] [b1] [.i 0,.i 0,.sl [] (some (.slice none 0 0))] ?_
       intro b4
       refine do_ 5 (dc 5 [] [] [] (Z5l n.decls (gI ts 0)) ?_)
       rintro _ _ ⟨rfl,rfl⟩
       refine dt (fuel:=2) 5 [6,7,8] [(12,.p b4 0),(113,Z2q (Z2b n.decls (gI ts 0))),(114,.b (Z02 n.decls (gI ts 0)))] (do_ 10 (dS 10 0 [] [] b4 0 (Z2i (Z2b n.decls (gI ts 0))) [.i 0,.i 0,.sl [] (some (.slice none 0 0))] (Z2i (Z2b n.decls (gI ts 0))) (dt (fuel:=0) 1 [11] [(13,.b (Z02 n.decls (gI ts 0)))] (de ?_))))
       exact ⟨[(13,.b (Z02 n.decls (gI ts 0)))],[.obj b2 (Z0j s),.obj b1 [Z2 n.decls,nSg3 (n.routines.map Z4)],.tail v 1],⟨rfl,rfl⟩,(wk [1,1,1] fl)⟩
      rintro F h ⟨rfl,rfl⟩
      refine az (ir 3 [(11,.b (!Z02 n.decls (gI ts 0)))] (ie (ar (ir 3 [(6,.i (-1)),(7,.b (!Z02 n.decls (gI ts 0)))] (ie ?_)))))
      have hS0:=Z6p (n:=n) hnn (Z58 c0_2 om) (fun q=>hc3 (Zcs.2 q))
      exact at_ (r2 [] [.i (-1),.b (!Z02 n.decls (gI ts 0))] ⟨(-1),rfl,rfl,(fun q=>absurd hc4 q)⟩ (AVLe.tup (.cons (lr _) (.cons (lb (Zwm hS0 hc4 hc5)) .nil))))
     refine ak (ar (ir 3 [(6,.i (-1)),(7,.b (((((ts.length:Int)==1)&&((gI ts 0) != 0))&&(s.num==0))&&((s.kids.length:Int)==0)))] (ie ?_)))
     have hS0:=Z6p (n:=n) hnn (Z58 c0_2 om) (fun q=>hc3 (Zcs.2 q))
     exact at_ (r2 [] [.i (-1),.b (((((ts.length:Int)==1)&&((gI ts 0) != 0))&&(s.num==0))&&((s.kids.length:Int)==0))] ⟨(-1),rfl,rfl,(fun q=>absurd hc4 q)⟩ (AVLe.tup (.cons (lr _) (.cons (lb (Zwn hS0 hc4 hc5)) .nil))))
    refine ir 1 [(3,.p b1 0),(5,.p b2 0),(8,oInt ts v),(89,.b ((((ts.length:Int)==1)&&((gI ts 0) != 0))&&(s.num==0)))] (ib (b:=((((ts.length:Int)==1)&&((gI ts 0) != 0))&&(s.num==0))) 89 (fun hb8=>?_) (fun hb8=>?_))
    ·have hp15:(((ts.length:Int)=1)∧((gI ts 0)≠0))∧(s.num=0):=((Zo (Zo beq_iff_eq bne_iff_ne) beq_iff_eq)).1 hb8
     refine irK 2 (.n 91 (Z03 s.kids) (.k (.k (.k (.k .z))))) [0] [b2] (io (.i s.kids.length) (.i (((Z0i s.kids).length:Nat):Int)) (li (by rw [Z0n])) (irk 2 (.n 94 (.b ((s.kids.length:Int)==0)) .r) ?_))
     exact Z05 (wk [0,0,0] (fr (fr (fr (fc (x:=.b ((s.kids.length:Int)==0)) (lb (by simp only [hb8];rfl)) fl))))) hj3
    have hp16:¬((((ts.length:Int)=1)∧((gI ts 0)≠0))∧(s.num=0)):=Zj (Zo (Zo beq_iff_eq bne_iff_ne) beq_iff_eq) hb8
    refine irk 5 (.n 94 (.b false) (.d (.k (.k (.k .z))))) ?_
    exact Z05 (wk [0,0,0] (fr (fr (fr (fc (x:=.b false) (lb (by simp only [hb8];rfl)) fl))))) hj3
   refine ir 1 [(3,.p b1 0),(5,.p b2 0),(8,oInt ts v),(84,.b (((ts.length:Int)==1)&&((gI ts 0) != 0)))] (ib (b:=(((ts.length:Int)==1)&&((gI ts 0) != 0))) 84 (fun hb9=>?_) (fun hb9=>?_))
   ·have hp17:((ts.length:Int)=1)∧((gI ts 0)≠0):=((Zo beq_iff_eq bne_iff_ne)).1 hb9
    refine irK 4 (.n 88 (.b (s.num==0)) (.d (.k (.k (.k .z))))) [0] [b2] ?_
    exact Z05 (wk [0,0,0] (fr (fr (fr (fc (x:=.b (s.num==0)) (lb (by simp only [hb9];rfl)) fl))))) hj2
   have hp18:¬(((ts.length:Int)=1)∧((gI ts 0)≠0)):=Zj (Zo beq_iff_eq bne_iff_ne) hb9
   refine irk 4 (.n 88 (.b false) (.d (.k (.k (.k .z))))) ?_
   exact Z05 (wk [0,0,0] (fr (fr (fr (fc (x:=.b false) (lb (by simp only [hb9];rfl)) fl))))) hj2
  refine ir 2 [(3,.p b1 0),(5,.p b2 0),(8,oInt ts v),(78,.b ((ts.length:Int)==1))] (ib (b:=((ts.length:Int)==1)) 78 (fun hb10=>?_) (fun hb10=>?_))
  ·have hp19:(ts.length:Int)=1:=(beq_iff_eq).1 hb10
   refine irk 1 (.n 79 (oInt ts v) (.k (.k (.k (.k .z))))) (is_ (Z0 (es:=Z6 ts) (hv:=some v) (j:=0) (sz:=1) (y:=.i (gI ts 0)) kr om (Za (Zk3 om)) rfl) (irk 3 (.n 83 (.b ((gI ts 0) != 0)) .r) ?_))
   exact Z05 (wk [0,0,0] (fr (fr (fr (fc (x:=.b ((gI ts 0) != 0)) (lb (by simp only [hb10];rfl)) fl))))) hj1
  have hp20:¬((ts.length:Int)=1):=Zj beq_iff_eq hb10
  refine irk 5 (.n 83 (.b false) (.d (.k (.k (.k .z))))) ?_
  exact Z05 (wk [0,0,0] (fr (fr (fr (fc (x:=.b false) (lb (by simp only [hb10];rfl)) fl))))) hj1
 refine ar (irK 4 (.n 118 (.b (s.op==7)) .r) [0] [b2] (ie (ac (s.op==7) beq_iff_eq (fun hc6=>?_) (fun hc6=>?_))))
 ·refine aq (ar (irk 1 (.n 122 (oInt ts v) .r) (io (.i ts.length) (.i (((Z6 ts).length:Nat):Int)) (li (by rw [Z5])) (Z1t 9 [(1,nInt us),(3,.p b1 0),(5,.p b2 0),(130,.b (((ts.length:Int) != 1)||((gI ts 0) != 0)))] [.obj b2 (Z0j s),.obj b1 [Z2 n.decls,nSg3 (n.routines.map Z4)],.tail v 1] ?_ (fun hj4=>?_)))))
  ·refine Z1t 14 [(1,nInt us),(3,.p b1 0),(5,.p b2 0),(135,.b ((((ts.length:Int) != 1)||((gI ts 0) != 0))||(s.num != 0)))] [.obj b2 (Z0j s),.obj b1 [Z2 n.decls,nSg3 (n.routines.map Z4)],.tail v 1] ?_ (fun hj5=>?_)
   ·refine Z2h [(1,nInt us),(3,.p b1 0),(5,.p b2 0),(141,.b (((((ts.length:Int) != 1)||((gI ts 0) != 0))||(s.num != 0))||((s.kids.length:Int) != 2)))] [.obj b2 (Z0j s),.obj b1 [Z2 n.decls,nSg3 (n.routines.map Z4)],.tail v 1] ?_ ?_
    ·refine ir 1 [(1,nInt us),(3,.p b1 0),(5,.p b2 0),(136,.b ((((ts.length:Int) != 1)||((gI ts 0) != 0))||(s.num != 0)))] (ib (b:=((((ts.length:Int) != 1)||((gI ts 0) != 0))||(s.num != 0))) 136 (fun hb11=>?_) (fun hb11=>?_))
     ·have hp21:(((ts.length:Int)≠1)∨((gI ts 0)≠0))∨(s.num≠0):=((Zf (Zf bne_iff_ne bne_iff_ne) bne_iff_ne)).1 hb11
      refine irk 5 (.n 141 (.b true) (.d (.k (.k (.k .z))))) (ie ?_)
      exact wk [0,0,0] (fr (fr (fr (fc (x:=.b true) (lb (by simp only [hb11];rfl)) fl))))
     have hp22:¬((((ts.length:Int)≠1)∨((gI ts 0)≠0))∨(s.num≠0)):=Zj (Zf (Zf bne_iff_ne bne_iff_ne) bne_iff_ne) hb11
     refine irK 2 (.n 138 (Z03 s.kids) (.k (.k (.k (.k .z))))) [0] [b2] (io (.i s.kids.length) (.i (((Z0i s.kids).length:Nat):Int)) (li (by rw [Z0n])) (irk 2 (.n 141 (.b ((s.kids.length:Int) != 2)) .r) (ie ?_)))
     exact wk [0,0,0] (fr (fr (fr (fc (x:=.b ((s.kids.length:Int) != 2)) (lb (by simp only [hb11];rfl)) fl))))
    refine ac (((((ts.length:Int) != 1)||((gI ts 0) != 0))||(s.num != 0))||((s.kids.length:Int) != 2)) (p:=((((ts.length:Int)≠1)∨((gI ts 0)≠0))∨(s.num≠0))∨((s.kids.length:Int)≠2)) (Zf (Zf (Zf bne_iff_ne bne_iff_ne) bne_iff_ne) bne_iff_ne) (fun hc7=>?_) (fun hc7=>?_)
    ·refine ar (ir 2 [(6,.i (-1)),(7,.b false)] (ie ?_))
     have hS0:=Z6p (n:=n) hnn (Z58 c0_2 om) (fun q=>hc3 (Zcs.2 q))
     have hS:=Z01l hS0 hc4 hc6 hc7
     exact at_ (r2 [] [.i (-1),.b false] ⟨(-1),rfl,rfl,(by intro _ h;rw [hS] at h;omega)⟩ (AVLe.tup (.cons (lr _) (.cons (lb (by rw [hS];rfl)) .nil))))
    refine ak (aD 10 (dT (fuel:=6) 10 [0,1,2,3] [(142,.agg [Z2 n.decls,nSg3 (n.routines.map Z4)]),(143,nInt us),(145,Z03 s.kids)] [1,0] [b1,b2] (do_ 4 (dMN 4 [0,1] [b2,b1] 2 2 ?_))))
    intro v4
    refine dtk (fuel:=5) 5 [] (.n 146 (Z32 (List.replicate 2 [])) (.p .r)) (do_ 5 (dc 5 [] [] [] (Z4k n us s.kids (List.replicate 2 []) (hnn:=hnn) (hm3:=(by intro m hm;first|(rw [List.eq_of_mem_replicate hm];simp;done)|(obtain ⟨c,_,rfl⟩:=List.mem_map.1 hm;exact Z0u hdk c))) (hmn:=(by intro m hm f hf;first|(rw [List.eq_of_mem_replicate hm] at hf;simp at hf;done)|(obtain ⟨c,_,rfl⟩:=List.mem_map.1 hm;exact hty.fields c f hf))) (ih:=(fun b us2 h1 h2 h3 h4=>ih b us2 om h2 h3 h4))) ?_))
    rintro _ _ ⟨rfl,rfl⟩
    refine dt (fuel:=0) 4 [6,7,8,9] [(6,.i (Z1h n us s.kids (List.replicate 2 []) true 0)),(7,.b (decide (0≤Z1h n us s.kids (List.replicate 2 []) true 0)))] (de ?_)
    have hS0:=Z6p (n:=n) hnn (Z58 c0_2 om) (fun q=>hc3 (Zcs.2 q))
    have hS:=Z036 hS0 hc4 hc6 hc7
    exact at_ (r2 [] [.i (Z1h n us s.kids (List.replicate 2 []) true 0),.b (decide (0≤Z1h n us s.kids (List.replicate 2 []) true 0))] ⟨Z1h n us s.kids (List.replicate 2 []) true 0,rfl,rfl,(fun _ _=>hS.symm)⟩ (AVLe.tup (.cons (lr _) (.cons (lb (by rw [hS])) .nil))))
   refine ir 1 [(1,nInt us),(3,.p b1 0),(5,.p b2 0),(131,.b (((ts.length:Int) != 1)||((gI ts 0) != 0)))] (ib (b:=(((ts.length:Int) != 1)||((gI ts 0) != 0))) 131 (fun hb12=>?_) (fun hb12=>?_))
   ·have hp23:((ts.length:Int)≠1)∨((gI ts 0)≠0):=((Zf bne_iff_ne bne_iff_ne)).1 hb12
    refine irk 4 (.n 135 (.b true) (.d (.k (.k (.k .z))))) ?_
    exact Z05 (wk [0,0,0] (fr (fr (fr (fc (x:=.b true) (lb (by simp only [hb12];rfl)) fl))))) hj5
   have hp24:¬(((ts.length:Int)≠1)∨((gI ts 0)≠0)):=Zj (Zf bne_iff_ne bne_iff_ne) hb12
   refine irK 4 (.n 135 (.b (s.num != 0)) (.d (.k (.k (.k .z))))) [0] [b2] ?_
   exact Z05 (wk [0,0,0] (fr (fr (fr (fc (x:=.b (s.num != 0)) (lb (by simp only [hb12];rfl)) fl))))) hj5
  refine ir 2 [(1,nInt us),(3,.p b1 0),(5,.p b2 0),(8,oInt ts v),(125,.b ((ts.length:Int) != 1))] (ib (b:=((ts.length:Int) != 1)) 125 (fun hb13=>?_) (fun hb13=>?_))
  ·have hp25:(ts.length:Int)≠1:=(bne_iff_ne).1 hb13
   refine irk 5 (.n 130 (.b true) (.d (.k (.k (.k .z))))) ?_
   exact Z05 (wk [0,0,0] (fr (fr (fr (fc (x:=.b true) (lb (by simp only [hb13];rfl)) fl))))) hj4
  have hp26:¬((ts.length:Int)≠1):=Zj bne_iff_ne hb13
  refine irk 1 (.n 126 (oInt ts v) (.k (.k (.k (.k .z))))) (is_ (Z0 (es:=Z6 ts) (hv:=some v) (j:=0) (sz:=1) (y:=.i (gI ts 0)) kr om (Za (Zk3 om)) rfl) (irk 3 (.n 130 (.b ((gI ts 0) != 0)) .r) ?_))
  exact Z05 (wk [0,0,0] (fr (fr (fr (fc (x:=.b ((gI ts 0) != 0)) (lb (by simp only [hb13];rfl)) fl))))) hj4
 refine ar (irK 4 (.n 150 (.b (s.op==8)) .r) [0] [b2] (ie (ac (s.op==8) beq_iff_eq (fun hc8=>?_) (fun hc8=>?_))))
 ·refine ar (irK 3 (.n 154 (.agg [Z2 n.decls,nSg3 (n.routines.map Z4)]) (.n 156 (.i s.num) .r)) [1,0] [b1,b2] (ic [] (Z2e _ s.num) ?_))
  rintro _ _ ⟨rfl,rfl⟩
  refine irk 1 (.n 14 (Z32 ((Zb n.decls s.num).map (Z1 n.decls))) .r) (ie (aq (aD 24 (dtk (fuel:=23) 24 [0] (.n 158 (oInt ts v) .r) (dn 1 (.i ts.length) (.i (((Z6 ts).length:Nat):Int)) (li (by rw [Z5])) (Zc9 [(1,nInt us),(3,.p b1 0),(5,.p b2 0),(14,Z32 ((Zb n.decls s.num).map (Z1 n.decls))),(181,.b (((ts.length:Int) != 1)||(((gI ts 0) != s.num)||((((((Zb n.decls s.num).map (Z1 n.decls)).length:Nat):Int)==0)||((s.kids.length:Int) != ((((Zb n.decls s.num).map (Z1 n.decls)).length:Nat):Int))))))] [.obj b2 (Z0j s),.obj b1 [Z2 n.decls,nSg3 (n.routines.map Z4)],.tail v 1] ?_ ?_))))))
  ·refine dt (fuel:=20) 22 [2,3] [(1,nInt us),(3,.p b1 0),(5,.p b2 0),(8,oInt ts v),(14,Z32 ((Zb n.decls s.num).map (Z1 n.decls))),(161,.b ((ts.length:Int) != 1))] (db (b:=((ts.length:Int) != 1)) 161 (fun hb14=>?_) (fun hb14=>?_))
   ·have hp27:(ts.length:Int)≠1:=(bne_iff_ne).1 hb14
    refine dtk (fuel:=0) 20 [4,5,6,7,8,9,10,11,12,13,14,15,16,17,18,19,20,21,22,23] (.n 181 (.b true) (.d (.k (.k (.k (.d (.k .z))))))) (de ?_)
    exact wk [0,0,0] (fr (fr (fr (fr (fc (x:=.b true) (lb (by simp only [hb14];rfl)) fl)))))
   have hp28:¬((ts.length:Int)≠1):=Zj bne_iff_ne hb14
   refine dtk (fuel:=19) 20 [4] (.n 162 (oInt ts v) (.k (.k (.k (.k (.d (.k .z))))))) (dx 5 (Z0 (es:=Z6 ts) (hv:=some v) (j:=0) (sz:=1) (y:=.i (gI ts 0)) kr om (Za (Zk3 om)) rfl) (dtK (fuel:=12) 18 [6,7,8,9,10,11] (.n 169 (.b ((gI ts 0) != s.num)) .r) [0] [b2] (db (b:=((gI ts 0) != s.num)) 169 (fun hb15=>?_) (fun hb15=>?_))))
   ·have hp29:(gI ts 0)≠s.num:=(bne_iff_ne).1 hb15
    refine dtk (fuel:=0) 12 [12,13,14,15,16,17,18,19,20,21,22,23] (.n 181 (.b true) (.k (.d .r))) (de ?_)
    exact wk [0,0,0] (fr (fr (fr (fr (fc (x:=.b true) (lb (by simp only [hb14,hb15];rfl)) fl)))))
   have hp30:¬((gI ts 0)≠s.num):=Zj bne_iff_ne hb15
   refine dtk (fuel:=11) 12 [12] (.n 170 (Z32 ((Zb n.decls s.num).map (Z1 n.decls))) (.k (.d .r))) (dn 13 (.i ((((Zb n.decls s.num).map (Z1 n.decls)).length:Nat):Int)) (.i (((Z35 ((Zb n.decls s.num).map (Z1 n.decls))).length:Nat):Int)) (li (by rw [Z71])) (dtk (fuel:=7) 10 [14,15,16] (.n 174 (.b (((((Zb n.decls s.num).map (Z1 n.decls)).length:Nat):Int)==0)) .r) (db (b:=(((((Zb n.decls s.num).map (Z1 n.decls)).length:Nat):Int)==0)) 174 (fun hb16=>?_) (fun hb16=>?_))))
   ·have hp31:((((Zb n.decls s.num).map (Z1 n.decls)).length:Nat):Int)=0:=(beq_iff_eq).1 hb16
    refine dtk (fuel:=0) 7 [17,18,19,20,21,22,23] (.n 181 (.b true) (.k (.d .r))) (de ?_)
    exact wk [0,0,0] (fr (fr (fr (fr (fc (x:=.b true) (lb (by simp only [hb14,hb15,hb16];rfl)) fl)))))
   have hp32:¬(((((Zb n.decls s.num).map (Z1 n.decls)).length:Nat):Int)=0):=Zj beq_iff_eq hb16
   refine dtK (fuel:=5) 7 [17,18] (.n 176 (Z03 s.kids) (.k (.d .r))) [0] [b2] (dn 19 (.i s.kids.length) (.i (((Z0i s.kids).length:Nat):Int)) (li (by rw [Z0n])) (dtk (fuel:=3) 4 [20] (.n 178 (Z32 ((Zb n.decls s.num).map (Z1 n.decls))) .r) (dn 21 (.i ((((Zb n.decls s.num).map (Z1 n.decls)).length:Nat):Int)) (.i (((Z35 ((Zb n.decls s.num).map (Z1 n.decls))).length:Nat):Int)) (li (by rw [Z71])) (dtk (fuel:=0) 2 [22,23] (.n 181 (.b ((s.kids.length:Int) != ((((Zb n.decls s.num).map (Z1 n.decls)).length:Nat):Int))) .r) (de ?_)))))
   exact wk [0,0,0] (fr (fr (fr (fr (fc (x:=.b ((s.kids.length:Int) != ((((Zb n.decls s.num).map (Z1 n.decls)).length:Nat):Int))) (lb (by simp only [hb14,hb15,hb16];rfl)) fl)))))
  refine ac (((ts.length:Int) != 1)||(((gI ts 0) != s.num)||((((((Zb n.decls s.num).map (Z1 n.decls)).length:Nat):Int)==0)||((s.kids.length:Int) != ((((Zb n.decls s.num).map (Z1 n.decls)).length:Nat):Int))))) (p:=((ts.length:Int)≠1)∨(((gI ts 0)≠s.num)∨((((((Zb n.decls s.num).map (Z1 n.decls)).length:Nat):Int)=0)∨((s.kids.length:Int)≠((((Zb n.decls s.num).map (Z1 n.decls)).length:Nat):Int))))) (Zf bne_iff_ne (Zf bne_iff_ne (Zf beq_iff_eq bne_iff_ne))) (fun hc9=>?_) (fun hc9=>?_)
  ·refine ar (ir 2 [(6,.i (-1)),(7,.b false)] (ie ?_))
   have hS0:=Z6p (n:=n) hnn (Z58 c0_2 om) (fun q=>hc3 (Zcs.2 q))
   have hS:=Z01m hS0 hc4 hc6 hc8 hc9
   exact at_ (r2 [] [.i (-1),.b false] ⟨(-1),rfl,rfl,(by intro _ h;rw [hS] at h;omega)⟩ (AVLe.tup (.cons (lr _) (.cons (lb (by rw [hS];rfl)) .nil))))
  refine ak (ar (iR 5 [(182,.agg [Z2 n.decls,nSg3 (n.routines.map Z4)]),(183,nInt us),(185,Z03 s.kids),(186,Z32 ((Zb n.decls s.num).map (Z1 n.decls)))] [1,0] [b1,b2] (ic [] (Z4k n us s.kids ((Zb n.decls s.num).map (Z1 n.decls)) (hnn:=hnn) (hm3:=(by intro m hm;first|(rw [List.eq_of_mem_replicate hm];simp;done)|(obtain ⟨c,_,rfl⟩:=List.mem_map.1 hm;exact Z0u hdk c))) (hmn:=(by intro m hm f hf;first|(rw [List.eq_of_mem_replicate hm] at hf;simp at hf;done)|(obtain ⟨c,_,rfl⟩:=List.mem_map.1 hm;exact hty.fields c f hf))) (ih:=(fun b us2 h1 h2 h3 h4=>ih b us2 om h2 h3 h4))) ?_)))
  rintro _ _ ⟨rfl,rfl⟩
  refine ir 4 [(6,.i (Z1h n us s.kids ((Zb n.decls s.num).map (Z1 n.decls)) true 0)),(7,.b (decide (0≤Z1h n us s.kids ((Zb n.decls s.num).map (Z1 n.decls)) true 0)))] (ie ?_)
  have hS0:=Z6p (n:=n) hnn (Z58 c0_2 om) (fun q=>hc3 (Zcs.2 q))
  have hS:=Z037 hS0 hc4 hc6 hc8 hc9
  exact at_ (r2 [] [.i (Z1h n us s.kids ((Zb n.decls s.num).map (Z1 n.decls)) true 0),.b (decide (0≤Z1h n us s.kids ((Zb n.decls s.num).map (Z1 n.decls)) true 0))] ⟨Z1h n us s.kids ((Zb n.decls s.num).map (Z1 n.decls)) true 0,rfl,rfl,(fun _ _=>hS.symm)⟩ (AVLe.tup (.cons (lr _) (.cons (lb (by rw [hS])) .nil))))
 refine ar (irK 2 (.n 192 (Z03 s.kids) .r) [0] [b2] (io (.i s.kids.length) (.i (((Z0i s.kids).length:Nat):Int)) (li (by rw [Z0n])) (Z1t 33 [(3,.p b1 0),(5,.p b2 0),(8,oInt ts v),(223,.b ((decide ((s.kids.length:Int)>0))||((s.op==10)&&((decide (s.num≥0))&&((decide (s.num<(((n.routines.map Z4).length:Nat):Int)))&&(decide (((((sgI n s.num).lnt).length:Nat):Int)>0)))))))] [.obj b2 (Z0j s),.obj b1 [Z2 n.decls,nSg3 (n.routines.map Z4)],.tail v 1] ?_ (fun hj6=>?_))))
 ·refine ir 1 [(3,.p b1 0),(5,.p b2 0),(8,oInt ts v),(190,.b ((decide ((s.kids.length:Int)>0))||((s.op==10)&&((decide (s.num≥0))&&((decide (s.num<(((n.routines.map Z4).length:Nat):Int)))&&(decide (((((sgI n s.num).lnt).length:Nat):Int)>0)))))))] (ie (ac ((decide ((s.kids.length:Int)>0))||((s.op==10)&&((decide (s.num≥0))&&((decide (s.num<(((n.routines.map Z4).length:Nat):Int)))&&(decide (((((sgI n s.num).lnt).length:Nat):Int)>0)))))) (p:=((s.kids.length:Int)>0)∨((s.op=10)∧((s.num≥0)∧((s.num<(((n.routines.map Z4).length:Nat):Int))∧(((((sgI n s.num).lnt).length:Nat):Int)>0))))) (Zf decide_eq_true_iff (Zo beq_iff_eq (Zo decide_eq_true_iff (Zo decide_eq_true_iff decide_eq_true_iff)))) (fun hc10=>?_) (fun hc10=>?_)))
  ·refine ar (ir 2 [(6,.i (-1)),(7,.b false)] (ie ?_))
   have hS0:=Z6p (n:=n) hnn (Z58 c0_2 om) (fun q=>hc3 (Zcs.2 q))
   have hS:=stB hS0 hc4 hc6 hc8 hc10
   exact at_ (r2 [] [.i (-1),.b false] ⟨(-1),rfl,rfl,(by intro _ h;rw [hS] at h;omega)⟩ (AVLe.tup (.cons (lr _) (.cons (lb (by rw [hS];rfl)) .nil))))
  refine ak (ar (iR 6 [(224,.agg [Z2 n.decls,nSg3 (n.routines.map Z4)]),(226,.i s.op),(228,.i s.num),(229,nInt ts)] [1,0,0] [b1,b2,b2] (ic [] (Z6t _ s.op s.num ts) ?_)))
  rintro _ _ ⟨t1,rfl,rfl,hp33⟩
  refine ir 4 [(6,.i t1),(7,.b ((Z0p n s.op s.num ts).isSome))] (ie ?_)
  have hS0:=Z6p (n:=n) hnn (Z58 c0_2 om) (fun q=>hc3 (Zcs.2 q))
  have hS:=stS hS0 hc4 hc6 hc8 hc10
  exact at_ (r2 [] [.i t1,.b ((Z0p n s.op s.num ts).isSome)] ⟨t1,rfl,rfl,(Z03w hS hp33)⟩ (AVLe.tup (.cons (lr _) (.cons (lb (Z03v hty hS)) .nil))))
 refine ir 2 [(3,.p b1 0),(5,.p b2 0),(8,oInt ts v),(195,.b (decide ((s.kids.length:Int)>0)))] (ib (b:=(decide ((s.kids.length:Int)>0))) 195 (fun hb17=>?_) (fun hb17=>?_))
 ·have hp34:(s.kids.length:Int)>0:=(decide_eq_true_iff).1 hb17
  refine irk 28 (.n 223 (.b true) (.d (.k (.k (.k .z))))) ?_
  exact Z05 (wk [0,0,0] (fr (fr (fr (fc (x:=.b true) (lb (by simp only [hb17];rfl)) fl))))) hj6
 have hp35:¬((s.kids.length:Int)>0):=Zj decide_eq_true_iff hb17
 refine irK 4 (.n 199 (.b (s.op==10)) (.k (.k (.k (.k .z))))) [0] [b2] (ib (b:=(s.op==10)) 199 (fun hb18=>?_) (fun hb18=>?_))
 ·have hp36:s.op=10:=(beq_iff_eq).1 hb18
  refine irK 5 (.n 204 (.b (decide (s.num≥0))) (.d (.d .r))) [0] [b2] (ib (b:=(decide (s.num≥0))) 204 (fun hb19=>?_) (fun hb19=>?_))
  ·have hp37:s.num≥0:=(decide_eq_true_iff).1 hb19
   refine irK 4 (.n 206 (.i s.num) (.n 208 (nSg3 (n.routines.map Z4)) (.k (.d .r)))) [0,1] [b2,b1] (io (.i (((n.routines.map Z4).length:Nat):Int)) (.i (((Z5q (n.routines.map Z4)).length:Nat):Int)) (li (by rw [Z6k])) (irk 3 (.n 212 (.b (decide (s.num<(((n.routines.map Z4).length:Nat):Int)))) .r) (ib (b:=(decide (s.num<(((n.routines.map Z4).length:Nat):Int)))) 212 (fun hb20=>?_) (fun hb20=>?_))))
   ·have hp38:s.num<(((n.routines.map Z4).length:Nat):Int):=(decide_eq_true_iff).1 hb20
    refine irK 4 (.n 214 (nSg3 (n.routines.map Z4)) (.n 216 (.i s.num) (.k (.d .r)))) [1,0] [b1,b2] (is_ (Z0 (es:=Z5q (n.routines.map Z4)) (hv:=none) (j:=s.num) (sz:=3) (y:=aSg3 (sgI n s.num)) kr om (Z7g (Zw6 om)) rfl) (irk 2 (.n 219 (nInt ((sgI n s.num).lnt)) .r) (io (.i ((((sgI n s.num).lnt).length:Nat):Int)) (.i (((Z6 ((sgI n s.num).lnt)).length:Nat):Int)) (li (by rw [Z5])) (irk 3 (.n 223 (.b (decide (((((sgI n s.num).lnt).length:Nat):Int)>0))) .r) ?_))))
    exact Z05 (wk [0,0,0] (fr (fr (fr (fc (x:=.b (decide (((((sgI n s.num).lnt).length:Nat):Int)>0))) (lb (by simp only [hb17,hb18,hb19,hb20];rfl)) fl))))) hj6
   have hp39:¬(s.num<(((n.routines.map Z4).length:Nat):Int)):=Zj decide_eq_true_iff hb20
   refine irk 11 (.n 223 (.b false) (.k (.d .r))) ?_
   exact Z05 (wk [0,0,0] (fr (fr (fr (fc (x:=.b false) (lb (by simp only [hb17,hb18,hb19,hb20];rfl)) fl))))) hj6
  have hp40:¬(s.num≥0):=Zj decide_eq_true_iff hb19
  refine irk 19 (.n 223 (.b false) (.k (.d .r))) ?_
  exact Z05 (wk [0,0,0] (fr (fr (fr (fc (x:=.b false) (lb (by simp only [hb17,hb18,hb19];rfl)) fl))))) hj6
 have hp41:¬(s.op=10):=Zj beq_iff_eq hb18
 refine irk 24 (.n 223 (.b false) (.k (.d .r))) ?_
 exact Z05 (wk [0,0,0] (fr (fr (fr (fc (x:=.b false) (lb (by simp only [hb17,hb18];rfl)) fl))))) hj6
theorem Zbm (n:Normal) (us:List Int) (b:Block) (hn:NOk n) (hnn:∀t∈us,0≤t) (hb:us.length+4*b.sz≤1000000000) (hr:b.rng) (ih:∀(s:Step) (us:List Int),(s.sz<b.sz)→(us.length+4*s.sz≤1000000000)→(s.rng)→(∀t∈us,0≤t)→Z3 Tryz.prog 160 [.agg [Z2 n.decls,nSg3 (n.routines.map Z4)],nInt us,Z0q s] [] (fun r h=>∃(t:Int),r=.tup [.i t,.b (decide (0≤Z8 n us s))]∧h=[]∧(¬Z0w s.op=true→0≤Z8 n us s→t=Z8 n us s))):Z3 Tryz.prog 113 [.agg [Z2 n.decls,nSg3 (n.routines.map Z4)],nInt us,Zk b] [] (fun r h=>r=.i (Zc n us b)∧h=[]):=by
 have hbz:=Z81 b
 have hbe:=Z8u n us b
 rw [b.rng_eq] at hr
 refine enter Tryz.func113 kr (n:=54) kr kr (ar (iA [Z2 n.decls,nSg3 (n.routines.map Z4)] ?_))
 intro b1
 refine iA (Z1b b) ?_
 intro b2
 refine ir 1 [(1,nInt us),(3,.p b1 0),(5,.p b2 0)] (ie (ar (irk 1 (.n 12 (nInt us) .r) (ic [] (Z8e us) ?_))))
 rintro _ _ ⟨v1,rfl,rfl⟩
 refine irk 1 (.n 7 (oInt us v1) .r) (ie (aq (ar (irK 2 (.n 15 (Z10 b.steps) .r) [1] [b2] (io (.i b.steps.length) (.i (((Z0t b.steps).length:Nat):Int)) (li (by rw [Z1c])) (irk 1 (.n 17 (.i 0) .r) (ie (ab 0 (al (fun m F h=>∃(k:Nat) (vs:List Int) (v:Value),(k≤b.steps.length)∧(vs.length≤us.length+k)∧(∀t∈vs,0≤t)∧(Z0x n (b.steps.drop k) vs=Z0x n b.steps us)∧F=[(3,.p b1 0),(5,.p b2 0),(7,oInt vs v),(15,Z10 b.steps),(16,.i b.steps.length),(17,.i k)]∧h=[.obj b2 (Z1b b),.obj b1 [Z2 n.decls,nSg3 (n.routines.map Z4)],.tail v 1]∧m=b.steps.length-k) _ _ _ ⟨0,us,v1,ob,ob,ob,ob,rfl,rfl,rfl⟩ (wk [1,1,0] (fr (fr (fr (fr (fr (fc (x:=.i 0) li fl))))))) ?_)))))))))
 rintro m F h ⟨k,vs,v,c0_0,c0_1,c0_2,c0_3,rfl,rfl,rfl⟩
 refine ar (irk 1 (.n 18 (.b (decide ((k:Int)<(b.steps.length:Int)))) .r) (ie (aq (ac (decide ((k:Int)<(b.steps.length:Int))) decide_eq_true_iff (fun hc1=>?_) (fun hc1=>?_)))))
 ·refine ak (aq (ab 1 (ar ?_)))
  obtain ⟨x1,hx1⟩:=Z9 (xs:=b.steps) (j:=k) om
  have hss:=Zfz hx1
  have hsr:=Zl3 hr hx1
  refine is_ (Z0 (es:=Z0t b.steps) (hv:=none) (j:=(k:Int)) (sz:=5) (y:=Z0q x1) kr om (Z2t hx1) rfl) (irk 1 (.n 20 (Z0q x1) .r) (iA [.i 0,.i 0,.i 0,.sl [] (some (.slice none 0 0)),.sl [] (some (.slice none 0 0))] ?_))
  intro b3
  refine iS 0 b3 0 (Z0j x1) [.i 0,.i 0,.i 0,.sl [] (some (.slice none 0 0)),.sl [] (some (.slice none 0 0))] (Z0j x1) (ie (ar (irK 3 (.n 22 (.agg [Z2 n.decls,nSg3 (n.routines.map Z4)]) (.n 23 (nInt vs) (.n 24 (Z0q x1) .r))) [2,0] [b1,b3] (ic [] (ih x1 vs ob ob ob ob) ?_))))
  rintro _ _ ⟨t1,rfl,rfl,hp1⟩
  refine irk 5 (.n 10 (.i t1) (.n 11 (.b (decide (0≤Z8 n vs x1))) .r)) (ie (aq (ar (irk 2 (.n 29 (.b (!decide (0≤Z8 n vs x1))) .r) (ie (ac (!decide (0≤Z8 n vs x1)) (p:=¬(decide (0≤Z8 n vs x1)=true)) (Zg Iff.rfl) (fun hc2=>?_) (fun hc2=>?_)))))))
  ·refine ar (ir 1 [(6,.i (-1))] (ie ?_))
   exact at_ (r2 [] [.i (-1)] ⟨rfl,rfl⟩ (li (by rw [hbe,←c0_3,Zsp hx1 (fun q=>hc2 (decide_eq_true q)) rfl])))
  refine ak (ar (irK 2 (.n 31 (.i x1.op) .r) [0] [b3] (ic [] (Z4g x1.op) ?_)))
  rintro _ _ ⟨rfl,rfl⟩
  refine irk 1 (.n 33 (.b (!Z0w x1.op)) .r) (ie (Zi9 (fun F h=>∃(w:Value),F=[(3,.p b1 0),(5,.p b2 0),(7,oInt (if Z0w x1.op=true then vs else vs++[t1]) w),(15,Z10 b.steps),(16,.i b.steps.length),(17,.i k)]∧h=[.obj b2 (Z1b b),.obj b1 [Z2 n.decls,nSg3 (n.routines.map Z4)],.tail w 1]) (fun _ _=>rfl) ?_ ?_))
  ·refine ac (!Z0w x1.op) (p:=¬(Z0w x1.op=true)) (Zg Iff.rfl) (fun hc3=>?_) (fun hc3=>?_)
   ·refine az (ir 2 [(3,.p b1 0),(5,.p b2 0),(15,Z10 b.steps),(16,.i b.steps.length),(17,.i k),(34,oInt vs v),(35,.i t1)] (iL (Z6 [t1]) 1 1 ?_))
    intro v2
    refine irk 0 (.n 36 (nInt [t1]) (.p .r)) (ip 4 (Z6 (vs++[t1])) (Z6 vs) (Z6 [t1]) v none 1 (Z14 _) (Z14 _) (Z48 _) (by simp<;>omega) (by simp [Z2n,Z6]) ?_)
    intro v3
    refine irk 1 (.n 7 (oInt (vs++[t1]) v3) .r) (ie ?_)
    exact ⟨[(3,.p b1 0),(5,.p b2 0),(7,oInt (if Z0w x1.op=true then vs else vs++[t1]) v3),(15,Z10 b.steps),(16,.i b.steps.length),(17,.i k)],[.obj b2 (Z1b b),.obj b1 [Z2 n.decls,nSg3 (n.routines.map Z4)],.tail v3 1],⟨v3,rfl,rfl⟩,(wk [3,3,0] (fr (fr (fc (x:=oInt (vs++[t1]) v3) (AVLe.slh _ (congrArg Z6 (by first|rfl|(rw [if_pos hc3])|(rw [if_neg hc3])|(simp [hc3];done)|(rw [Bool.eq_iff_iff];simp [hc3];done)|omega))) fl))))⟩
   refine ak ?_
   exact ⟨[(3,.p b1 0),(5,.p b2 0),(7,oInt (if Z0w x1.op=true then vs else vs++[t1]) v),(15,Z10 b.steps),(16,.i b.steps.length),(17,.i k)],[.obj b2 (Z1b b),.obj b1 [Z2 n.decls,nSg3 (n.routines.map Z4)],.tail v 1],⟨v,rfl,rfl⟩,(wk [1,1,1] (fr (fr (fc (x:=oInt vs v) (AVLe.slh _ (congrArg Z6 (by first|rfl|(rw [if_pos hc3])|(rw [if_neg hc3])|(simp [hc3];done)|(rw [Bool.eq_iff_iff];simp [hc3];done)|omega))) fl))))⟩
  rintro F h ⟨w,rfl,rfl⟩
  refine az (ia (((k+1:Nat):Int)) (((k:Int))+(1)) (ir 1 [(3,.p b1 0),(5,.p b2 0),(7,oInt (if Z0w x1.op=true then vs else vs++[t1]) w),(15,Z10 b.steps),(16,.i b.steps.length),(17,.i (k+1:Nat))] (ie ?_)))
  have h0:0≤Z8 n vs x1:=of_decide_eq_true (Classical.not_not.1 hc2)
  exact ⟨_,_,_,ob,⟨k+1,(if Z0w x1.op=true then vs else vs++[t1]),w,ob,(by split<;>(try simp)<;>omega),(Z03o c0_2 (fun q=>by rw [hp1 q h0];exact h0)),(Zyw hx1 h0 hp1 c0_3),rfl,rfl,rfl⟩,(wk [0,0,0] (fr (fr (fr (fr (fr (fc (x:=.i (k+1:Nat)) li fl)))))))⟩
 refine ax 0 (aq (ar (Z2h [(5,.p b2 0),(7,oInt vs v),(48,.b ((decide (b.result<0))||(decide (b.result≥(vs.length:Int)))))] [.obj b2 (Z1b b),.obj b1 [Z2 n.decls,nSg3 (n.routines.map Z4)],.tail v 1] ?_ ?_)))
 ·refine iR 4 [(5,.p b2 0),(7,oInt vs v),(42,.b (decide (b.result<0)))] [0] [b2] (ib (b:=(decide (b.result<0))) 42 (fun hb1=>?_) (fun hb1=>?_))
  ·have hp2:b.result<0:=(decide_eq_true_iff).1 hb1
   refine irk 6 (.n 48 (.b true) (.d (.k (.k .z)))) (ie ?_)
   exact wk [0,0,0] (fr (fr (fc (x:=.b true) (lb (by simp only [hb1];rfl)) fl)))
  have hp3:¬(b.result<0):=Zj decide_eq_true_iff hb1
  refine irK 3 (.n 44 (.i b.result) (.n 45 (oInt vs v) (.k (.k (.k .z))))) [0] [b2] (io (.i vs.length) (.i (((Z6 vs).length:Nat):Int)) (li (by rw [Z5])) (irk 2 (.n 48 (.b (decide (b.result≥(vs.length:Int)))) .r) (ie ?_)))
  exact wk [0,0,0] (fr (fr (fc (x:=.b (decide (b.result≥(vs.length:Int)))) (lb (by simp only [hb1];rfl)) fl)))
 refine ac ((decide (b.result<0))||(decide (b.result≥(vs.length:Int)))) (p:=(b.result<0)∨(b.result≥(vs.length:Int))) (Zf decide_eq_true_iff decide_eq_true_iff) (fun hc4=>?_) (fun hc4=>?_)
 ·refine ar (ir 1 [(6,.i (-1))] (ie ?_))
  exact at_ (r2 [] [.i (-1)] ⟨rfl,rfl⟩ (li (by rw [hbe,←c0_3,Zv om];show _=(atI vs b.result).getD (-1);rw [Z5x om];rfl)))
 refine ak (ar (iR 3 [(49,oInt vs v),(51,.i b.result)] [0] [b2] ?_))
 obtain ⟨x2,hx2⟩:=Z9 (xs:=vs) (j:=b.result.toNat) om
 refine is_ (Z0 (es:=Z6 vs) (hv:=some v) (j:=b.result) (sz:=1) (y:=.i x2) kr om (Za hx2) rfl) (ir 2 [(6,.i x2)] (ie ?_))
 exact at_ (r2 [] [.i x2] ⟨rfl,rfl⟩ (li (by rw [hbe,←c0_3,Zv om];show _=(atI vs b.result).getD (-1);rw [Z6y om hx2];rfl)))
theorem Zco (n:Normal) (hn:NOk n) (hty:NTy n) (m:Nat):∀(b:Block) (us:List Int),(b.sz≤m)→(us.length+4*b.sz≤1000000000)→(b.rng)→(∀t∈us,0≤t)→Z3 Tryz.prog 113 [.agg [Z2 n.decls,nSg3 (n.routines.map Z4)],nInt us,Zk b] [] (fun r h=>r=.i (Zc n us b)∧h=[]):=by
 induction m with
 | zero=>intro b us h;have:=b.sz_pos;omega
 | succ m ih=>intro b us h1 h2 h3 h4;exact Zbm n us b hn h4 h2 h3 fun s us2 k1 k2 k3 k4=>Z4l n us2 s hn hty k4 k2 k3 fun b2 us3 q1 q2 q3 q4=>ih b2 us3 om q2 q3 q4
theorem Z8h (n:Normal) (us:List Int) (b:Block) (hn:NOk n) (hty:NTy n) (hnn:∀t∈us,0≤t) (hb:us.length+4*b.sz≤1000000000) (hr:b.rng):Z3 Tryz.prog 113 [.agg [Z2 n.decls,nSg3 (n.routines.map Z4)],nInt us,Zk b] [] (fun r h=>r=.i (Zc n us b)∧h=[]):=
 Zco n hn hty b.sz b us (Nat.le_refl _) hb hr hnn
end Go.Abs
end
section
namespace Go.Abs
open Go.Proofs
set_option maxRecDepth 10000
set_option maxHeartbeats 4000000
theorem Zbl (n:Normal) (hz:NSz n:=by exact ob) (hr:∀r∈n.routines,r.body.rng):Z3 Tryz.prog 56 [Zh n] [] (fun r h=>r=.b (Z0z n)∧h=[]):=by
 have hzl:=hz.len
 refine enter Tryz.func56 kr (n:=37) kr kr (ar (iA (Zi n) ?_))
 intro b1
 refine ir 1 [(1,.p b1 0)] (ie (ar (irK 1 (.n 8 (Zh n) .r) [0] [b1] (ic [] (Z7u n) ?_))))
 rintro _ _ (⟨rfl,rfl,hp1⟩|⟨rfl,rfl,hp2⟩)
 ·refine irk 3 (.n 10 (.agg [Z2 n.decls,nSg3 (n.routines.map Z4)]) (.n 11 (.b (Z0g n)) .r)) (iA [.sl [] (some (.slice none 0 0)),.sl [] (some (.slice none 0 0))] ?_)
  intro b2
  refine iS 0 b2 0 [Z2 n.decls,nSg3 (n.routines.map Z4)] [.sl [] (some (.slice none 0 0)),.sl [] (some (.slice none 0 0))] [Z2 n.decls,nSg3 (n.routines.map Z4)] (irk 1 (.n 4 (.b (Z0g n)) .r) (ie (aq (ar (irk 2 (.n 13 (.b (!Z0g n)) .r) (ie (ac (!Z0g n) (p:=¬(Z0g n=true)) (Zg Iff.rfl) (fun hc1=>?_) (fun hc1=>?_))))))))
  ·refine ar (ir 1 [(2,.b false)] (ie ?_))
   exact at_ (r2 [] [.b false] ⟨rfl,rfl⟩ (lb (by rw [Z0z,Bool.eq_false_iff.2 hc1];rfl)))
  have hsg:Z0g n=true:=by simpa using hc1
  have hok:=Z97 hz hsg
  have hty:=Zcz hsg
  refine ak (aq (ar (irK 2 (.n 15 (Zl n.routines) .r) [1] [b1] (io (.i n.routines.length) (.i (((Zr n.routines).length:Nat):Int)) (li (by rw [Z0d])) (irk 1 (.n 17 (.i 0) .r) (ie (ab 0 (al (fun m F h=>∃(k:Nat),(k≤n.routines.length)∧(Z36 n (n.routines.drop k)=Z36 n n.routines)∧F=[(3,.p b2 0),(15,Zl n.routines),(16,.i n.routines.length),(17,.i k)]∧h=[.obj b2 [Z2 n.decls,nSg3 (n.routines.map Z4)]]∧m=n.routines.length-k) _ _ _ ⟨0,ob,ob,rfl,rfl,rfl⟩ (wk [0] (fr (fr (fr (fc (x:=.i 0) li fl))))) ?_))))))))
  rintro m F h ⟨k,c0_0,c0_1,rfl,rfl,rfl⟩
  refine ar (irk 1 (.n 18 (.b (decide ((k:Int)<(n.routines.length:Int)))) .r) (ie (aq (ac (decide ((k:Int)<(n.routines.length:Int))) decide_eq_true_iff (fun hc2=>?_) (fun hc2=>?_)))))
  ·refine ak (aq (ab 1 (ar ?_)))
   obtain ⟨x1,hx1⟩:=Z9 (xs:=n.routines) (j:=k) om
   have hrm:=List.mem_of_getElem? hx1
   have hbs:=hz.body _ hrm
   have hps:=hok.params_at hx1
   refine is_ (Z0 (es:=Zr n.routines) (hv:=none) (j:=(k:Int)) (sz:=5) (y:=Z0o x1) kr om (Z0v hx1) rfl) (irk 1 (.n 20 (Z0o x1) .r) (iA [.sl [] (some (.slice none 0 0)),.sl [] (some (.slice none 0 0)),.i 0,.sl [] (some (.slice none 0 0)),.i 0] ?_))
   intro b3
   refine iS 0 b3 0 (Z1m x1) [.sl [] (some (.slice none 0 0)),.sl [] (some (.slice none 0 0)),.i 0,.sl [] (some (.slice none 0 0)),.i 0] (Z1m x1) (ie (aD 15 (dtK (fuel:=13) 15 [0,1] (.n 22 (Zk x1.body) .r) [0] [b3] (do_ 2 (dc 2 [] [] [] (Za8 x1.body) ?_)))))
   rintro _ _ ⟨rfl,rfl⟩
   refine Zc9 [(3,.p b2 0),(15,Zl n.routines),(16,.i n.routines.length),(17,.i k),(35,.b ((decide ((Z1y x1.body)<0))||((Zc n x1.params x1.body) != x1.result)))] [.obj b3 (Z1m x1),.obj b2 [Z2 n.decls,nSg3 (n.routines.map Z4)]] ?_ ?_
   ·refine dt (fuel:=10) 12 [3,4] [(3,.p b2 0),(6,.p b3 0),(15,Zl n.routines),(16,.i n.routines.length),(17,.i k),(25,.b (decide ((Z1y x1.body)<0)))] (db (b:=(decide ((Z1y x1.body)<0))) 25 (fun hb1=>?_) (fun hb1=>?_))
    ·have hp3:(Z1y x1.body)<0:=(decide_eq_true_iff).1 hb1
     refine dtk (fuel:=0) 10 [5,6,7,8,9,10,11,12,13,14] (.n 35 (.b true) (.d (.k (.d (.k (.k (.k .z))))))) (de ?_)
     exact wk [0,0] (fr (fr (fr (fr (fc (x:=.b true) (lb (by simp only [hb1];rfl)) fl)))))
    have hp4:¬((Z1y x1.body)<0):=Zj decide_eq_true_iff hb1
    refine dtK (fuel:=3) 10 [5,6,7,8,9,11,12] (.n 26 (.agg [Z2 n.decls,nSg3 (n.routines.map Z4)]) (.n 28 (nInt x1.params) (.n 30 (Zk x1.body) (.n 33 (.i x1.result) (.k (.k (.d (.k (.k (.k .z)))))))))) [1,0,0,0] [b2,b3,b3,b3] (do_ 10 (dc 10 [] [0] [b3] (Z8h n x1.params x1.body ob hty (hty.params _ hrm) ob (hr _ hrm)) ?_))
    rintro _ _ ⟨rfl,rfl⟩
    refine dtk (fuel:=0) 2 [13,14] (.n 35 (.b ((Zc n x1.params x1.body) != x1.result)) .r) (de ?_)
    exact wk [0,0] (fr (fr (fr (fr (fc (x:=.b ((Zc n x1.params x1.body) != x1.result)) (lb (by simp only [hb1];rfl)) fl)))))
   refine ac ((decide ((Z1y x1.body)<0))||((Zc n x1.params x1.body) != x1.result)) (p:=((Z1y x1.body)<0)∨((Zc n x1.params x1.body)≠x1.result)) (Zf decide_eq_true_iff bne_iff_ne) (fun hc3=>?_) (fun hc3=>?_)
   ·refine ar (ir 1 [(2,.b false)] (ie ?_))
    rw [Z7 hx1] at c0_1
    exact at_ (r2 [] [.b false] ⟨rfl,rfl⟩ (lb (by clear hx1;first|rfl|omega|grind [Z36,Z0z])))
   refine ak (az (ia (((k+1:Nat):Int)) (((k:Int))+(1)) (ir 1 [(3,.p b2 0),(15,Zl n.routines),(16,.i n.routines.length),(17,.i (k+1:Nat))] (ie ?_))))
   have hdr:=Z7 hx1
   exact ⟨_,_,_,ob,⟨k+1,ob,(by rw [hdr] at c0_1;clear hdr hx1;grind [Z36]),rfl,rfl,rfl⟩,(wk [1] (fr (fr (fr (fc (x:=.i (k+1:Nat)) li fl)))))⟩
  refine ax 0 (ar (ir 1 [(2,.b true)] (ie ?_)))
  try rw [Zv (xs:=n.routines) (k:=k) om] at c0_1
  exact at_ (r2 [] [.b true] ⟨rfl,rfl⟩ (lb (by first|rfl|omega|grind [Z36,Z0z])))
 refine irk 3 (.n 10 (.agg [Z2 [],nSg3 []]) (.n 11 (.b false) .r)) (iA [.sl [] (some (.slice none 0 0)),.sl [] (some (.slice none 0 0))] ?_)
 intro b4
 refine iS 0 b4 0 [Z2 [],nSg3 []] [.sl [] (some (.slice none 0 0)),.sl [] (some (.slice none 0 0))] [Z2 [],nSg3 []] (irk 1 (.n 4 (.b false) .r) (ie (aq (ar (irk 2 (.n 13 (.b true) .r) (ie (ac1 (ar (ir 1 [(2,.b false)] (ie ?_))))))))))
 exact at_ (r2 [] [.b false] ⟨rfl,rfl⟩ (lb (by rw [Z0z,‹Z0g n=false›];rfl)))
end Go.Abs
end
section
namespace Go.Abs
open Go.Proofs
set_option maxRecDepth 10000
set_option maxHeartbeats 4000000
theorem Z3w (a:Arm) (hl:a.fds.length≤1000000:=by exact ob) (hf:0≤a.fst∧a.fst≤1000000000:=by exact ob):Z3 Tryz.prog 62 [.agg [.i a.mat,.i a.fst,nInt a.fds,.b a.chg]] [] (fun r h=>r=nInt (Z20 a.fds a.fst)∧h=[]):=by
 refine enter Tryz.func62 kr (n:=25) kr kr (ar (iA [.i a.mat,.i a.fst,nInt a.fds,.b a.chg] ?_))
 intro b1
 refine ir 1 [(1,.p b1 0)] (ie (ar (irk 1 (.n 3 (.sl [] (some (.slice none 0 0))) .r) (ie (aq (ar (irK 2 (.n 7 (nInt a.fds) .r) [0] [b1] (io (.i a.fds.length) (.i (((Z6 a.fds).length:Nat):Int)) (li (by rw [Z5])) (irk 1 (.n 9 (.i 0) .r) (ie (ab 0 (Z6h 1 (al (fun m F h=>∃(k:Nat) (acc:List Int) (v:Value),(k≤a.fds.length)∧(acc.length≤k)∧(acc++Z20 (a.fds.drop k) (a.fst+k)=Z20 a.fds a.fst)∧F=[(1,.p b1 0),(3,oInt acc v),(7,nInt a.fds),(8,.i a.fds.length),(9,.i k)]∧h=[.obj b1 [.i a.mat,.i a.fst,nInt a.fds,.b a.chg],.tail v 1]∧m=a.fds.length-k) _ _ _ ⟨0,[],(.slice none 0 0),ob,ob,ob,rfl,rfl,rfl⟩ (wk [1,0] (fr (fc (x:=.sl [] (some (.slice none 0 0))) (AVLe.slh _ (by first|rfl|(subst_vars;rfl))) (fr (fr (fc (x:=.i 0) li fl)))))) ?_)))))))))))))
 rintro m F h ⟨k,acc,v,c0_0,c0_1,c0_2,rfl,rfl,rfl⟩
 refine ar (irk 1 (.n 10 (.b (decide ((k:Int)<(a.fds.length:Int)))) .r) (ie (aq (ac (decide ((k:Int)<(a.fds.length:Int))) decide_eq_true_iff (fun hc1=>?_) (fun hc1=>?_)))))
 ·refine ak (aq (ab 1 (ar (irk 1 (.n 11 (.i k) .r) ?_))))
  obtain ⟨x1,hx1⟩:=Z9 (xs:=a.fds) (j:=k) om
  refine is_ (Z0 (es:=Z6 a.fds) (hv:=none) (j:=(k:Int)) (sz:=1) (y:=.i x1) kr om (Za hx1) rfl) (irk 3 (.n 4 (.i k) (.n 5 (.i x1) .r)) (ie (ar (irk 2 (.n 15 (.b (x1 != 0)) .r) (ie (Zi9 (fun F h=>∃(w:Value),F=[(1,.p b1 0),(3,oInt (if x1≠0 then acc++[a.fst+k] else acc) w),(7,nInt a.fds),(8,.i a.fds.length),(9,.i k)]∧h=[.obj b1 [.i a.mat,.i a.fst,nInt a.fds,.b a.chg],.tail w 1]) (fun _ _=>rfl) ?_ ?_))))))
  ·refine ac (x1 != 0) bne_iff_ne (fun hc2=>?_) (fun hc2=>?_)
   ·refine az (iR 4 [(1,.p b1 0),(7,nInt a.fds),(8,.i a.fds.length),(9,.i k),(16,oInt acc v),(18,.i a.fst),(19,.i k)] [0] [b1] (ia ((a.fst+(k:Int))) ((a.fst)+((k:Int))) (iL (Z6 [(a.fst+(k:Int))]) 1 1 ?_)))
    intro v1
    refine irk 0 (.n 21 (nInt [(a.fst+(k:Int))]) (.p .r)) (ip 2 (Z6 (acc++[(a.fst+(k:Int))])) (Z6 acc) (Z6 [(a.fst+(k:Int))]) v none 1 (Z14 _) (Z14 _) (Z48 _) (by simp<;>omega) (by simp [Z2n,Z6]) ?_)
    intro v2
    refine irk 1 (.n 3 (oInt (acc++[(a.fst+(k:Int))]) v2) .r) (ie ?_)
    exact ⟨[(1,.p b1 0),(3,oInt (if x1≠0 then acc++[a.fst+k] else acc) v2),(7,nInt a.fds),(8,.i a.fds.length),(9,.i k)],[.obj b1 [.i a.mat,.i a.fst,nInt a.fds,.b a.chg],.tail v2 1],⟨v2,rfl,rfl⟩,(wk [2,0] (fr (fc (x:=oInt (acc++[(a.fst+(k:Int))]) v2) (AVLe.slh _ (congrArg Z6 (by first|rfl|(rw [if_pos hc2])|(rw [if_neg hc2])|(simp [hc2];done)|(rw [Bool.eq_iff_iff];simp [hc2];done)|omega))) fl)))⟩
   refine ak ?_
   exact ⟨[(1,.p b1 0),(3,oInt (if x1≠0 then acc++[a.fst+k] else acc) v),(7,nInt a.fds),(8,.i a.fds.length),(9,.i k)],[.obj b1 [.i a.mat,.i a.fst,nInt a.fds,.b a.chg],.tail v 1],⟨v,rfl,rfl⟩,(wk [0,0] (fr (fc (x:=oInt acc v) (AVLe.slh _ (congrArg Z6 (by first|rfl|(rw [if_pos hc2])|(rw [if_neg hc2])|(simp [hc2];done)|(rw [Bool.eq_iff_iff];simp [hc2];done)|omega))) fl)))⟩
  rintro F h ⟨w,rfl,rfl⟩
  refine az (ia (((k+1:Nat):Int)) (((k:Int))+(1)) (ir 1 [(1,.p b1 0),(3,oInt (if x1≠0 then acc++[a.fst+k] else acc) w),(7,nInt a.fds),(8,.i a.fds.length),(9,.i (k+1:Nat))] (ie ?_)))
  exact ⟨_,_,_,ob,⟨k+1,(if x1≠0 then acc++[a.fst+k] else acc),w,ob,(by split<;>(try simp)<;>omega),(Zpy hx1 c0_2),rfl,rfl,rfl⟩,(wk [0,0] (fr (fr (fr (fr (fc (x:=.i (k+1:Nat)) li fl))))))⟩
 refine ax 0 (ar (ir 2 [(2,oInt acc v)] (ie ?_)))
 exact at_ (r2 [] [oInt acc v] ⟨rfl,rfl⟩ (AVLe.sl _ (congrArg Z6 (Zm1 om c0_2))))
theorem Zak (b:Nat) (ga:Hd) (gb:Hd) (gc:Hd) (n:Normal) (L:LedB) (ln:List Int) (am:List Arm) (t:Int) (o:Int) (hlb:L.vars.length≤1000000000:=by exact ob) (hlk:LLen L:=by exact ob):Z3 Tryz.prog 161 [.p b 0,.i t,.i o] [.obj b [Z2 n.decls,nSg3 (n.routines.map Z4),nInt ln,nArm am,.h ga,.h gb,.h gc],rV ga L.vars,rV gb L.own,rV gc L.tok] (fun r h=>∃(wa:Hd) (wb:Hd) (wc:Hd),h=[.obj b [Z2 n.decls,nSg3 (n.routines.map Z4),nInt ln,nArm am,.h wa,.h wb,.h wc],rV wa ((L.grow t o (-1)).vars),rV wb ((L.grow t o (-1)).own),rV wc ((L.grow t o (-1)).tok)]):=by
 have hlk0:=hlk
 obtain ⟨e1,e2,e3,e4,e5⟩:=hlk0
 refine enter Tryz.func161 kr (n:=35) kr kr (ar (iR 6 [(0,.p b 0),(2,.i o),(6,.p b 0),(10,.h ga),(11,.i t)] [0] [b] (iL (Z6 [t]) 1 1 ?_)))
 intro v1
 refine irk 0 (.n 12 (nInt [t]) (.p .r)) (iVP 2 ga L.vars [t] none ?_)
 intro v2
 refine irk 2 (.n 15 (.p b 4) .r) (iS 2 b 4 [.h v2] [Z2 n.decls,nSg3 (n.routines.map Z4),nInt ln,nArm am,.h ga,.h gb,.h gc] [Z2 n.decls,nSg3 (n.routines.map Z4),nInt ln,nArm am,.h v2,.h gb,.h gc] (ie (ar (irK 6 (.n 16 (.p b 0) (.n 20 (.h gb) (.n 21 (.i o) .r))) [0] [b] (iL (Z6 [o]) 1 1 ?_)))))
 intro v3
 refine irk 0 (.n 22 (nInt [o]) (.p .r)) (iVP 4 gb L.own [o] none ?_)
 intro v4
 refine irk 2 (.n 25 (.p b 5) .r) (iS 2 b 5 [.h v4] [Z2 n.decls,nSg3 (n.routines.map Z4),nInt ln,nArm am,.h v2,.h gb,.h gc] [Z2 n.decls,nSg3 (n.routines.map Z4),nInt ln,nArm am,.h v2,.h v4,.h gc] (ie (az (iR 5 [(26,.p b 0),(30,.h gc)] [0] [b] (iL (Z6 [-1]) 1 1 ?_)))))
 intro v5
 refine irk 0 (.n 31 (nInt [-1]) (.p .r)) (iVP 6 gc L.tok [-1] none ?_)
 intro v6
 refine irk 2 (.n 34 (.p b 6) .r) (iS 2 b 6 [.h v6] [Z2 n.decls,nSg3 (n.routines.map Z4),nInt ln,nArm am,.h v2,.h v4,.h gc] [Z2 n.decls,nSg3 (n.routines.map Z4),nInt ln,nArm am,.h v2,.h v4,.h v6] (ie ?_))
 exact r2 [0,4,2,0] [] ⟨v2,v4,v6,rfl⟩ (lr _) (eq:=(rc (rv (xs:=(L.vars++[t])) ob (rv (xs:=(L.own++[o])) ob (rv (xs:=(L.tok++[-1])) ob rz)))))
theorem Zfh (b:Nat) (ga:Hd) (gb:Hd) (gc:Hd) (n:Normal) (L:LedB) (ln:List Int) (am:List Arm) (i:Int) (hlk:LLen L:=by exact ob) (hi:0≤i∧i<L.vars.length:=by exact ob) (hq:∀x∈L.own,-1000000000≤x∧x≤1000000000):Z3 Tryz.prog 164 [.p b 0,.i i] [.obj b [Z2 n.decls,nSg3 (n.routines.map Z4),nInt ln,nArm am,.h ga,.h gb,.h gc],rV ga L.vars,rV gb L.own,rV gc L.tok] (fun r h=>r=.b (decide (1≤gI L.own i))∧h=[.obj b [Z2 n.decls,nSg3 (n.routines.map Z4),nInt ln,nArm am,.h ga,.h gb,.h gc],rV ga ((decL L i).vars),rV gb ((decL L i).own),rV gc ((decL L i).tok)]):=by
 have hlk0:=hlk
 obtain ⟨e1,e2,e3,e4,e5⟩:=hlk0
 refine enter Tryz.func164 kr (n:=22) kr kr (ar (ir 1 [(0,.p b 0),(1,.i i)] (ie (ar (irK 5 (.n 8 (.h gb) (.n 9 (.i i) .r)) [0] [b] (is_ (vIdx 2 gb L.own i i.toNat (hq:=rfl)) ?_))))))
 obtain ⟨x1,hx1⟩:=Z9 (xs:=L.own) (j:=i.toNat) om
 have hxq:=hq _ (List.mem_of_getElem? hx1)
 have hgi:=Z5e hx1
 have hsl:(L.own.set i.toNat (x1-1)).length=L.own.length:=List.length_set
 refine ix_ (vGet 2 gb L.own i.toNat x1 hx1) (ia ((x1-1)) ((x1)-(1)) (is_ (vIdx 2 gb L.own i i.toNat (hq:=rfl)) (iVS 2 gb L.own i.toNat (x1-1) (ie (ar (iR 5 [(17,.h gb),(18,.i i)] [1] [b] (is_ (vIdx 0 gb (L.own.set i.toNat (x1-1)) i i.toNat (hq:=rfl)) ?_)))))))
 obtain ⟨x2,hx2⟩:=Z9 (xs:=(L.own.set i.toNat (x1-1))) (j:=i.toNat) om
 have hxe:x2=x1-1:=by rw [List.getElem?_set_self om] at hx2;exact (Option.some.inj hx2).symm
 refine ix_ (vGet 0 gb (L.own.set i.toNat (x1-1)) i.toNat x2 hx2) (ir 2 [(4,.b (decide (x2≥0)))] (ie ?_))
 exact at_ (r2 [1,1,0,0] [.b (decide (x2≥0))] ⟨rfl,rfl⟩ (lb (by rw [hxe,hgi,Bool.eq_iff_iff];simp)) (eq:=(rc (rv (xs:=L.vars) ob (rv (xs:=(L.own.set i.toNat (x1-1))) (by rw [decL,hgi]) (rv (xs:=L.tok) ob rz))))))
theorem Zln (b:Nat) (ga:Hd) (gb:Hd) (gc:Hd) (n:Normal) (L:LedB) (ln:List Int) (am:List Arm) (hlb:L.vars.length≤1000000000:=by exact ob) (hlk:LLen L:=by exact ob):Z3 Tryz.prog 218 [.p b 0] [.obj b [Z2 n.decls,nSg3 (n.routines.map Z4),nInt ln,nArm am,.h ga,.h gb,.h gc],rV ga L.vars,rV gb L.own,rV gc L.tok] (fun r h=>∃(c:Nat) (wa:Hd) (wb:Hd) (wc:Hd),r=.p c 0∧h=[.obj c [Z2 n.decls,nSg3 (n.routines.map Z4),nInt ln,nArm am,.h wa,.h wb,.h wc],rV wa L.vars,rV wb L.own,rV wc L.tok,.obj b [Z2 n.decls,nSg3 (n.routines.map Z4),nInt ln,nArm am,.h ga,.h gb,.h gc],rV ga L.vars,rV gb L.own,rV gc L.tok]):=by
 have hlk0:=hlk
 obtain ⟨e1,e2,e3,e4,e5⟩:=hlk0
 refine enter Tryz.func218 kr (n:=25) kr kr (ar (ir 1 [(0,.p b 0)] (ie (ar (irK 3 (.n 6 (.agg [Z2 n.decls,nSg3 (n.routines.map Z4),nInt ln,nArm am,.h ga,.h gb,.h gc]) .r) [0] [b] (iA [.sl [] (some (.slice none 0 0)),.sl [] (some (.slice none 0 0)),.sl [] (some (.slice none 0 0)),.sl [] (some (.slice none 0 0)),.sl [] (some (.slice none 0 0)),.sl [] (some (.slice none 0 0)),.sl [] (some (.slice none 0 0))] ?_))))))
 intro b1
 refine iS 0 b1 0 [Z2 n.decls,nSg3 (n.routines.map Z4),nInt ln,nArm am,.h ga,.h gb,.h gc] [.sl [] (some (.slice none 0 0)),.sl [] (some (.slice none 0 0)),.sl [] (some (.slice none 0 0)),.sl [] (some (.slice none 0 0)),.sl [] (some (.slice none 0 0)),.sl [] (some (.slice none 0 0)),.sl [] (some (.slice none 0 0))] [Z2 n.decls,nSg3 (n.routines.map Z4),nInt ln,nArm am,.h ga,.h gb,.h gc] (ie (aD 21 (dtK (fuel:=9) 21 [0,1,2,3,5,6,7,8,10,11,12,13] (.n 10 (.h ga) (.n 15 (.h gb) (.n 20 (.h gc) .r))) [1,1,1] [b,b,b] (do_ 4 (dCL 4 [2] [1,1] [b,b] [rV ga L.vars] (Za0 L.vars) cl2 (gL (v:=ga) 0 gN) (Z1j Z2z) ?_)))))
 rintro _ _ ⟨v1,rfl,rfl⟩
 refine do_ 9 (dCL 9 [4] [1] [b] [rV gb L.own] (Za0 L.own) cl2 (gL (v:=gb) 0 gN) (Z1j Z2z) ?_)
 rintro _ _ ⟨v2,rfl,rfl⟩
 refine do_ 14 (dCL 14 [6] [] [] [rV gc L.tok] (Za0 L.tok) cl2 (gL (v:=gc) 0 gN) (Z1j Z2z) ?_)
 rintro _ _ ⟨v3,rfl,rfl⟩
 refine dtk (fuel:=5) 6 [15] (.n 22 (.p b1 4) .r) (do_ 16 (dS 16 6 [] [] b1 4 [.h v1] [Z2 n.decls,nSg3 (n.routines.map Z4),nInt ln,nArm am,.h ga,.h gb,.h gc] [Z2 n.decls,nSg3 (n.routines.map Z4),nInt ln,nArm am,.h v1,.h gb,.h gc] (dtk (fuel:=3) 4 [17] (.n 23 (.p b1 5) .r) (do_ 18 (dS 18 0 [] [] b1 5 [.h v2] [Z2 n.decls,nSg3 (n.routines.map Z4),nInt ln,nArm am,.h v1,.h gb,.h gc] [Z2 n.decls,nSg3 (n.routines.map Z4),nInt ln,nArm am,.h v1,.h v2,.h gc] (dtk (fuel:=1) 2 [19] (.n 24 (.p b1 6) .r) (do_ 20 (dS 20 0 [] [] b1 6 [.h v3] [Z2 n.decls,nSg3 (n.routines.map Z4),nInt ln,nArm am,.h v1,.h v2,.h gc] [Z2 n.decls,nSg3 (n.routines.map Z4),nInt ln,nArm am,.h v1,.h v2,.h v3] (de (ar (ir 1 [(2,.p b1 0)] (ie ?_))))))))))))
 exact at_ (r1 [0,4,2,0,3,2,1,0] ⟨b1,v1,v2,v3,rfl,rfl⟩)
theorem Zii (b:Nat) (ga:Hd) (gb:Hd) (gc:Hd) (n:Normal) (L:LedB) (ln:List Int) (am:List Arm) (i:Int) (hlk:LLen L) (har:ArmR n.decls L am) (hln:ln.length≤4294967296) (hal:am.length≤1000000000) (hlb:L.vars.length≤1000000000) (hd:∀j:Int,0≤j→j<L.vars.length→gI L.par j<j) (hi:0≤i∧i<L.vars.length) (ih:∀(i2:Int),(0≤i2∧i2<i)→Z3 Tryz.prog 217 [.p b 0,.i i2] [.obj b [Z2 n.decls,nSg3 (n.routines.map Z4),nInt ln,nArm am,.h ga,.h gb,.h gc],rV ga L.vars,rV gb L.own,rV gc L.tok] (fun r h=>r=.b (Z1i L ln i2)∧h=[.obj b [Z2 n.decls,nSg3 (n.routines.map Z4),nInt ln,nArm am,.h ga,.h gb,.h gc],rV ga L.vars,rV gb L.own,rV gc L.tok])):Z3 Tryz.prog 217 [.p b 0,.i i] [.obj b [Z2 n.decls,nSg3 (n.routines.map Z4),nInt ln,nArm am,.h ga,.h gb,.h gc],rV ga L.vars,rV gb L.own,rV gc L.tok] (fun r h=>r=.b (Z1i L ln i)∧h=[.obj b [Z2 n.decls,nSg3 (n.routines.map Z4),nInt ln,nArm am,.h ga,.h gb,.h gc],rV ga L.vars,rV gb L.own,rV gc L.tok]):=by
 have hlk0:=hlk
 obtain ⟨e1,e2,e3,e4,e5⟩:=hlk0
 refine enter Tryz.func217 kr (n:=51) kr kr (ar (ir 1 [(0,.p b 0),(1,.i i)] (ie (aq (ar (irK 5 (.n 10 (.h gb) (.n 11 (.i i) .r)) [0] [b] (is_ (vIdx 2 gb L.own i i.toNat (hq:=rfl)) ?_)))))))
 obtain ⟨x1,hx1⟩:=Z9 (xs:=L.own) (j:=i.toNat) om
 have hgi:=Z5e hx1
 refine ix_ (vGet 2 gb L.own i.toNat x1 hx1) (Z2h [(0,.p b 0),(1,.i i),(22,.b ((decide (x1>0))||(decide (i∈ln))))] [.obj b [Z2 n.decls,nSg3 (n.routines.map Z4),nInt ln,nArm am,.h ga,.h gb,.h gc],rV ga L.vars,rV gb L.own,rV gc L.tok] ?_ ?_)
 ·refine ir 2 [(0,.p b 0),(1,.i i),(15,.b (decide (x1>0)))] (ib (b:=(decide (x1>0))) 15 (fun hb1=>?_) (fun hb1=>?_))
  ·have hp1:x1>0:=(decide_eq_true_iff).1 hb1
   refine irk 7 (.n 22 (.b true) (.d (.k (.k .z)))) (ie ?_)
   exact wk [0,0,0,0] (fr (fr (fc (x:=.b true) (lb (by simp only [hb1];rfl)) fl)))
  have hp2:¬(x1>0):=Zj decide_eq_true_iff hb1
  refine irK 5 (.n 19 (nInt ln) (.n 20 (.i i) (.k (.k (.k .z))))) [0] [b] (ic [] (Z39 ln i) ?_)
  rintro _ _ ⟨rfl,rfl⟩
  refine irk 1 (.n 22 (.b (decide (i∈ln))) .r) (ie ?_)
  exact wk [0,0,0,0] (fr (fr (fc (x:=.b (decide (i∈ln))) (lb (by simp only [hb1];rfl)) fl)))
 refine ac ((decide (x1>0))||(decide (i∈ln))) (p:=(x1>0)∨(i∈ln)) (Zf decide_eq_true_iff decide_eq_true_iff) (fun hc1=>?_) (fun hc1=>?_)
 ·refine ar (ir 1 [(4,.b true)] (ie ?_))
  exact at_ (r2 [0,0,0,0] [.b true] ⟨rfl,rfl⟩ (lb (Zt6 (by rw [hgi];exact hc1)).symm))
 refine ak (aq (ar (iR 4 [(0,.p b 0),(1,.i i),(26,nArm am)] [0] [b] (io (.i am.length) (.i (((Z41 am).length:Nat):Int)) (li (by rw [Zlt])) (irk 1 (.n 28 (.i 0) .r) (ie (ab 0 (al (fun m F h=>∃(k:Nat),(k≤am.length)∧(∀a∈am.take k,¬(a.fst≤i∧i<a.fst+a.fds.length))∧F=[(0,.p b 0),(1,.i i),(26,nArm am),(27,.i am.length),(28,.i k)]∧h=[.obj b [Z2 n.decls,nSg3 (n.routines.map Z4),nInt ln,nArm am,.h ga,.h gb,.h gc],rV ga L.vars,rV gb L.own,rV gc L.tok]∧m=am.length-k) _ _ _ ⟨0,ob,ob,rfl,rfl,rfl⟩ (wk [0,0,0,0] (fr (fr (fr (fr (fc (x:=.i 0) li fl)))))) ?_))))))))
 rintro m F h ⟨k,c0_0,c0_1,rfl,rfl,rfl⟩
 refine ar (irk 1 (.n 29 (.b (decide ((k:Int)<(am.length:Int)))) .r) (ie (aq (ac (decide ((k:Int)<(am.length:Int))) decide_eq_true_iff (fun hc2=>?_) (fun hc2=>?_)))))
 ·refine ak (aq (ab 1 (ar ?_)))
  obtain ⟨x2,hx2⟩:=Z9 (xs:=am) (j:=k) om
  have ham:=List.mem_of_getElem? hx2
  have hrg:=har.rng _ ham
  refine is_ (Z0 (es:=Z41 am) (hv:=none) (j:=(k:Int)) (sz:=4) (y:=.agg [.i x2.mat,.i x2.fst,nInt x2.fds,.b x2.chg]) kr om (Ztx hx2) rfl) (irk 1 (.n 31 (.agg [.i x2.mat,.i x2.fst,nInt x2.fds,.b x2.chg]) .r) (iA [.i 0,.i 0,.sl [] (some (.slice none 0 0)),.b false] ?_))
  intro b1
  refine iS 0 b1 0 [.i x2.mat,.i x2.fst,nInt x2.fds,.b x2.chg] [.i 0,.i 0,.sl [] (some (.slice none 0 0)),.b false] [.i x2.mat,.i x2.fst,nInt x2.fds,.b x2.chg] (ie (ar (Z2h [(0,.p b 0),(1,.i i),(6,.p b1 0),(26,nArm am),(27,.i am.length),(28,.i k),(45,.b ((decide (i≥x2.fst))&&(decide (i<(x2.fst+(x2.fds.length:Int))))))] [.obj b1 [.i x2.mat,.i x2.fst,nInt x2.fds,.b x2.chg],.obj b [Z2 n.decls,nSg3 (n.routines.map Z4),nInt ln,nArm am,.h ga,.h gb,.h gc],rV ga L.vars,rV gb L.own,rV gc L.tok] ?_ ?_)))
  ·refine iR 5 [(0,.p b 0),(1,.i i),(6,.p b1 0),(26,nArm am),(27,.i am.length),(28,.i k),(36,.b (decide (i≥x2.fst)))] [0] [b1] (ib (b:=(decide (i≥x2.fst))) 36 (fun hb2=>?_) (fun hb2=>?_))
   ·have hp3:i≥x2.fst:=(decide_eq_true_iff).1 hb2
    refine irK 5 (.n 37 (.i i) (.n 39 (.i x2.fst) (.n 41 (nInt x2.fds) (.k (.k (.k (.k (.k (.k (.k .z)))))))))) [0,0] [b1,b1] (io (.i x2.fds.length) (.i (((Z6 x2.fds).length:Nat):Int)) (li (by rw [Z5])) (ia ((x2.fst+(x2.fds.length:Int))) ((x2.fst)+((x2.fds.length:Int))) (irk 2 (.n 45 (.b (decide (i<(x2.fst+(x2.fds.length:Int))))) .r) (ie ?_))))
    exact wk [0,0,0,0,0] (fr (fr (fr (fr (fr (fr (fc (x:=.b (decide (i<(x2.fst+(x2.fds.length:Int))))) (lb (by simp only [hb2];rfl)) fl)))))))
   have hp4:¬(i≥x2.fst):=Zj decide_eq_true_iff hb2
   refine irk 9 (.n 45 (.b false) (.d (.k (.k (.k (.k (.k (.k .z)))))))) (ie ?_)
   exact wk [0,0,0,0,0] (fr (fr (fr (fr (fr (fr (fc (x:=.b false) (lb (by simp only [hb2];rfl)) fl)))))))
  refine ac ((decide (i≥x2.fst))&&(decide (i<(x2.fst+(x2.fds.length:Int))))) (p:=(i≥x2.fst)∧(i<(x2.fst+(x2.fds.length:Int)))) (Zo decide_eq_true_iff decide_eq_true_iff) (fun hc3=>?_) (fun hc3=>?_)
  ·refine ar (iR 3 [(46,.p b 0),(48,.i x2.mat)] [0] [b1] (ic [1,1,1,1] (ih x2.mat ob) ?_))
   rintro _ _ ⟨rfl,rfl⟩
   refine ir 1 [(4,.b (Z1i L ln x2.mat))] (ie ?_)
   have hpa:=har.par _ ham i hc3.1 hc3.2
   exact at_ (r2 [0,0,0,0] [.b (Z1i L ln x2.mat)] ⟨rfl,rfl⟩ (lb (Zx9 hi hd (by rw [hgi];exact hc1) hpa hrg.1).symm))
  refine ak (az (ia (((k+1:Nat):Int)) (((k:Int))+(1)) (ir 1 [(0,.p b 0),(1,.i i),(26,nArm am),(27,.i am.length),(28,.i (k+1:Nat))] (ie ?_))))
  have hdr:=Z7 hx2
  exact ⟨_,_,_,ob,⟨k+1,ob,(by rw [Z1z hx2];exact fun a ha=>(List.mem_append.1 ha).elim (c0_1 a) (fun ha=>by rw [List.mem_singleton.1 ha];exact fun q=>hc3 ⟨q.1,q.2⟩)),rfl,rfl,rfl⟩,(wk [1,1,1,1] (fr (fr (fr (fr (fc (x:=.i (k+1:Nat)) li fl))))))⟩
 refine ax 0 (ar (ir 1 [(4,.b false)] (ie ?_)))
 have hpn:gI L.par i<0:=Int.not_le.1 fun h=>by
  obtain ⟨a,ha,q⟩:=har.non i hi.1 hi.2 h
  exact c0_1 a (by rw [List.take_of_length_le om];exact ha) q
 exact at_ (r2 [0,0,0,0] [.b false] ⟨rfl,rfl⟩ (lb (Zt5 (by rw [hgi];exact hc1) hpn).symm))
theorem Zgg (b:Nat) (ga gb gc:Hd) (n:Normal) (L:LedB) (ln:List Int) (am:List Arm) (i:Int) (hlk:LLen L) (har:ArmR n.decls L am) (hln:ln.length≤4294967296) (hal:am.length≤1000000000) (hlb:L.vars.length≤1000000000)
  (hd:∀j:Int,0≤j→j<L.vars.length→gI L.par j<j) (hi:0≤i∧i<L.vars.length):Z3 Tryz.prog 217 [.p b 0,.i i] [.obj b [Z2 n.decls,nSg3 (n.routines.map Z4),nInt ln,nArm am,.h ga,.h gb,.h gc],rV ga L.vars,rV gb L.own,rV gc L.tok] (fun r h=>r=.b (Z1i L ln i)∧h=[.obj b [Z2 n.decls,nSg3 (n.routines.map Z4),nInt ln,nArm am,.h ga,.h gb,.h gc],rV ga L.vars,rV gb L.own,rV gc L.tok]):=by
 have key:∀m:Nat,∀j:Int,0≤j→j.toNat≤m→j<L.vars.length→Z3 Tryz.prog 217 [.p b 0,.i j] [.obj b [Z2 n.decls,nSg3 (n.routines.map Z4),nInt ln,nArm am,.h ga,.h gb,.h gc],rV ga L.vars,rV gb L.own,rV gc L.tok] (fun r h=>r=.b (Z1i L ln j)∧h=[.obj b [Z2 n.decls,nSg3 (n.routines.map Z4),nInt ln,nArm am,.h ga,.h gb,.h gc],rV ga L.vars,rV gb L.own,rV gc L.tok]):=by
  intro m
  induction m with
  | zero=>intro j h1 h2 h3;exact Zii b ga gb gc n L ln am j hlk har hln hal hlb hd ⟨h1,h3⟩ fun i2 q=>by omega
  | succ m ih=>intro j h1 h2 h3;exact Zii b ga gb gc n L ln am j hlk har hln hal hlb hd ⟨h1,h3⟩ fun i2 q=>ih i2 q.1 om om
 exact key i.toNat i hi.1 (Nat.le_refl _) hi.2
end Go.Abs
end
section
namespace Go.Proofs
open Go.RowKit Go.Shelf
attribute [local go_sem] Oper.semAt_some
structure ArmV where
 m:Int
 f:Int
 sa:Option Addr
 sl:Nat
 sc:Nat
 c:Bool
 deriving Inhabited
def ArmV.enc (a:ArmV):Value:=.agg #[.int .i64 a.m,.int .i64 a.f,.slice a.sa a.sl a.sc,.bool a.c]
def armG (zs:List ArmV) (i:Nat):ArmV:=zs[i]?.getD default
def dn (zs:List ArmV) (k:Nat):List (Nat × ArmV):=(List.range k).map fun j=>(zs.length-1-j,armG zs (zs.length-1-j))
theorem Zo8 (zs:List ArmV) (k:Nat):dn zs (k+1)=dn zs k++[(zs.length-1-k,armG zs (zs.length-1-k))]:=by simp [dn,List.range_succ]
theorem Ztw (zs:List ArmV) (k:Nat):(dn zs k).length=k:=by simp [dn]
def Zg5 (n₀:Nat) (W:World) (v:Value) (zs:List ArmV):Prop:=
 (∃a c,v=.slice a 0 c∧zs=[])∨∃b off cap,v=.slice (some ⟨b,off,none⟩) zs.length cap∧b<n₀∧∀j,j<zs.length →
  W.cell? ⟨b,off+j*4,none⟩=some (.int .i64 (armG zs j).m)∧W.cell? ⟨b,off+j*4+1,none⟩=some (.int .i64 (armG zs j).f) ∧
  W.cell? ⟨b,off+j*4+2,none⟩=some (.slice (armG zs j).sa (armG zs j).sl (armG zs j).sc)∧W.cell? ⟨b,off+j*4+3,none⟩=some (.bool (armG zs j).c)
theorem Zg5.below {n₀:Nat} {A B:World} {v:Value} {zs:List ArmV} (h:Below n₀ A B) (H:Zg5 n₀ A v zs):Zg5 n₀ B v zs:=by
 rcases H with H|⟨b,off,cap,e,hb,hc⟩
 ·exact .inl H
 ·refine .inr ⟨b,off,cap,e,hb,fun j hj=>?_⟩
  obtain ⟨h0,h1,h2,h3⟩:=hc j hj
  exact ⟨(h.cell (p:=⟨b,_,none⟩) hb).trans h0,(h.cell (p:=⟨b,_,none⟩) hb).trans h1,(h.cell (p:=⟨b,_,none⟩) hb).trans h2,(h.cell (p:=⟨b,_,none⟩) hb).trans h3⟩
set_option maxRecDepth 100000 in
set_option maxHeartbeats 2000000 in
theorem Zxc (F:Fence) (n:Nat) (h8:F.fn 165) (hro:F.round=none) (hn:1≤n) (l Bs n₀ b off cap:Nat) (zs:List ArmV) (hreach:zs.length≤1000000000) (hb:b<n₀) (J Jx:List (Nat × ArmV)→World→Prop)
  (hY:∀pre x W,J pre W→pre.length<zs.length→YieldAt F (n-1) Tryz.prog l #[.int .i64 ((x.1:Nat):Int),x.2.enc] W fun e W'=>
   (e=.returned (.bool true)∧J (pre++[x]) W'∧Below n₀ W W')∨(e=.returned (.bool false)∧Jx (pre++[x]) W'))
  (W:World) (hBn:Bs<n₀) (hBs:W.cell? ⟨Bs,0,none⟩=some (.slice (some ⟨b,off,none⟩) zs.length cap)) (hc:∀j,j<zs.length →
  W.cell? ⟨b,off+j*4,none⟩=some (.int .i64 (armG zs j).m)∧W.cell? ⟨b,off+j*4+1,none⟩=some (.int .i64 (armG zs j).f) ∧
  W.cell? ⟨b,off+j*4+2,none⟩=some (.slice (armG zs j).sa (armG zs j).sl (armG zs j).sc)∧W.cell? ⟨b,off+j*4+3,none⟩=some (.bool (armG zs j).c)) (h0:J [] W) :
  CallsIn F n Tryz.prog 165 #[.func (.yield l) #[] #[],.pointer (some ⟨Bs,0,none⟩)] W fun e W'=>(∃v,e=.returned v) ∧
   ((∃ys,ys=dn zs zs.length∧J ys W')∨(∃pre,(∃k,k≤zs.length∧pre=dn zs k)∧Jx pre W')):=by
 refine callsIn_of_wp Tryz.func165 rfl h8 ?_ hro
 simp only [Tryz.ntmps165,List.size_toArray,List.length_cons,List.length_nil,Nat.reduceAdd,Nat.reduceSub,Array.replicate_succ,Array.replicate_zero,List.push_toArray,List.append_toArray,List.nil_append,List.cons_append]
 gi_wp2
 gi_loopw [3] (fun i wr=>∃k:Nat,k≤zs.length∧i=.int .i64 ((zs.length:Int)-1-k)∧J (dn zs k) wr∧Below n₀ W wr)
  (fun i _=>(intOf i+1).toNat)
 case atStart=>exact ⟨0,Nat.zero_le _,by simp,h0,Below.refl _ _⟩
 case round=>
  obtain ⟨k,hk,rfl,hJs,hnx⟩:=hrel
  have hBx:wr.cell? ⟨Bs,0,none⟩=some (.slice (some ⟨b,off,none⟩) zs.length cap):=(hnx.cell (p:=⟨Bs,0,none⟩) hBn).trans hBs
  by_cases hlt:k<zs.length
  ·obtain ⟨q,hq⟩:∃q:Nat,(zs.length:Int)-1-k=(q:Int):=⟨zs.length-1-k,by omega⟩
   have hqk:zs.length-1-k=q:=by omega
   obtain ⟨g0,g1,g2,g3⟩:=hc q (by omega)
   have c0:=(hnx.cell (p:=⟨b,off+q*4,none⟩) hb).trans g0
   have c1:=(hnx.cell (p:=⟨b,off+q*4+1,none⟩) hb).trans g1
   have c2:=(hnx.cell (p:=⟨b,off+q*4+2,none⟩) hb).trans g2
   have c3:=(hnx.cell (p:=⟨b,off+q*4+3,none⟩) hb).trans g3
   obtain ⟨fn,tmps,assign,body,hy,hR⟩:=hY _ (q,armG zs q) wr hJs (by rw [Ztw];exact hlt)
   dsimp only [ArmV.enc] at hy
   rw [hq]
   have hql:(q:Int)<zs.length:=by omega
   gi_wp2
   refine hR.mono ?_
   rintro e W3 (⟨rfl,hJ3,hk3⟩|⟨rfl,hJx3⟩)
   ·gi_wp2
    go_roundw
    case rel=>exact ⟨k+1,by omega,by congr 1;omega,by rw [Zo8,hqk];exact hJ3,hnx.trans hk3⟩
    case measure=>simp [intOf]
   ·gi_wp2
    refine bodyPost_ret (results_none rfl _ _ _) rfl ?_
    exact ⟨⟨_,rfl⟩,.inr ⟨_,⟨k+1,by omega,by rw [Zo8,hqk]⟩,hJx3⟩⟩
  ·obtain rfl:k=zs.length:=by omega
   have hneg:¬(0≤(zs.length:Int)-1-zs.length):=by omega
   gi_wp2
   go_end0
   first|exact ⟨⟨_,rfl⟩,.inl ⟨_,rfl,hJs⟩⟩|exact ⟨⟨_,rfl⟩,.inl hJs⟩
set_option maxRecDepth 100000 in
set_option maxHeartbeats 1000000 in
theorem Zlm (F:Fence) (n:Nat) (h8:F.fn 165) (hro:F.round=none) (l Bs:Nat) (a:Option Addr) (c:Nat) (J:List (Nat × ArmV)→World→Prop) (W:World) (hBs:W.cell? ⟨Bs,0,none⟩=some (.slice a 0 c)) (h0:J [] W) :
  CallsIn F n Tryz.prog 165 #[.func (.yield l) #[] #[],.pointer (some ⟨Bs,0,none⟩)] W fun e W'=>(∃v,e=.returned v)∧J [] W':=by
 refine callsIn_of_wp Tryz.func165 rfl h8 ?_ hro
 simp only [Tryz.ntmps165,List.size_toArray,List.length_cons,List.length_nil,Nat.reduceAdd,Nat.reduceSub,Array.replicate_succ,Array.replicate_zero,List.push_toArray,List.append_toArray,List.nil_append,List.cons_append]
 gi_wp2
 gi_loopw [3] (fun i wr=>i=.int .i64 (-1)∧J [] wr) (fun _ _=>0)
 case atStart=>exact ⟨rfl,h0⟩
 case round=>
  obtain ⟨rfl,hJs⟩:=hrel
  gi_wp2
  go_end0
  exact ⟨⟨_,rfl⟩,hJs⟩
set_option maxHeartbeats 1000000 in
theorem Zzv (F:Fence) (n:Nat) (h6:F.fn 122) (hro:F.round=none) (v:Value) (hv1:∃a l c,v=.slice a l c) (w:World) :
  CallsIn F n Tryz.prog 122 #[v] w fun e w'=>e=.returned (.func (.func 165) #[] #[.pointer (some ⟨w.heap.size,0,none⟩)])∧w'=w.alloc (.cells #[v] 91):=by
 obtain ⟨a,ll,c,rfl⟩:=hv1
 refine callsIn_of_wp Tryz.func122 rfl h6 ?_ hro
 simp only [Tryz.ntmps122,List.size_toArray,List.length_cons,List.length_nil,Nat.reduceAdd,Nat.reduceSub,Array.replicate_succ,Array.replicate_zero,List.push_toArray,List.append_toArray,List.nil_append,List.cons_append]
 gi_wp2
 go_ret
 exact ⟨rfl,rfl⟩
theorem Zr3 (F:Fence) (n:Nat) (h8:F.fn 165) (hro:F.round=none) (hn:1≤n) (Bs n₀:Nat) (v:Value) (zs:List ArmV) (hreach:zs.length≤1000000000) (w:World) (hBs:Bs<n₀) (hn₀:n₀≤w.heap.size)
  (hc:w.cell? ⟨Bs,0,none⟩=some v) (hI:Zg5 n₀ w v zs) :
  SeqStopsK F n Tryz.prog 165 #[.pointer (some ⟨Bs,0,none⟩)] (fun x:Nat × ArmV=>#[Value.int .i64 ((x.1:Nat):Int),x.2.enc]) (Below n₀) (fun ys=>ys=dn zs zs.length) (fun pre=>∃k,k≤zs.length∧pre=dn zs k) zs.length w:=by
 intro l J Jx W hW _ _ hY h0
 have hc':=(hW.cell (p:=⟨Bs,0,none⟩) (Nat.lt_of_lt_of_le hBs hn₀)).trans hc
 rcases hI.below (hW.mono hn₀) with ⟨a,c,rfl,rfl⟩|⟨b,off,cap,rfl,hb,hcs⟩
 ·exact (Zlm F n h8 hro l Bs a c J W hc' h0).mono fun e W' ⟨he,hj⟩=>⟨he,.inl ⟨_,rfl,hj⟩⟩
 ·exact Zxc F n h8 hro hn l Bs n₀ b off cap zs hreach hb J Jx hY W hBs hc' hcs h0
def Box4 (W:World) (B:Nat) (a:ArmV):Prop:=W.heap[B]? = some (.cells #[.int .i64 a.m,.int .i64 a.f,.slice a.sa a.sl a.sc,.bool a.c] 96 (0,0))
theorem Zjr {β:Type} (B:Nat) (f:β→ArmV):Own (fun s W=>Box4 W B (f s)):=fun s X Y row hs hg hrow=>
 (grownBy_keeps_cells hg hrow hs rfl).trans hs
theorem Box4.lt {W:World} {B:Nat} {a:ArmV} (h:Box4 W B a):B<W.heap.size:=(Array.getElem?_eq_some_iff.1 h).1
theorem Box4.alloc {W:World} {B:Nat} {a:ArmV} (h:Box4 W B a) (o:Obj):Box4 (W.alloc o) B a:=(Below.heap_alloc W o B h.lt).trans h
theorem Box4.other {W:World} {B B':Nat} {a:ArmV} (h:Box4 W B a) (hne:B≠B') (j:Nat) (u:Value):Box4 (W.setCell ⟨B',j,none⟩ u) B a:=(heap_setCell_other W ⟨B',j,none⟩ B u hne).trans h
theorem Box4.cells {W:World} {B:Nat} {a:ArmV} (h:Box4 W B a):W.cell? ⟨B,0,none⟩=some (.int .i64 a.m)∧W.cell? ⟨B,1,none⟩=some (.int .i64 a.f)∧W.cell? ⟨B,2,none⟩=some (.slice a.sa a.sl a.sc)∧W.cell? ⟨B,3,none⟩=some (.bool a.c):=by
 have h':W.heap[B]? = _:=h
 refine ⟨?_,?_,?_,?_⟩<;>simp [World.cell?,h']
theorem Box4.frozen {W:World} {B:Nat} {a:ArmV} (h:Box4 W B a) (j:Nat):W.frozen? ⟨B,j,none⟩=false:=by simp [World.frozen?,show W.heap[B]? = _ from h]
def w4 (W:World) (B:Nat) (a:ArmV):World:=(((W.setCell ⟨B,0,none⟩ (.int .i64 a.m)).setCell ⟨B,1,none⟩ (.int .i64 a.f)).setCell ⟨B,2,none⟩ (.slice a.sa a.sl a.sc)).setCell ⟨B,3,none⟩ (.bool a.c)
theorem Box4.put {W:World} {B:Nat} {a:ArmV} (b:ArmV) (h:Box4 W B a):Box4 (w4 W B b) B b:=
 heap_setCell_same _ B 3 _ 96 _ (heap_setCell_same _ B 2 _ 96 _ (heap_setCell_same _ B 1 _ 96 _ (heap_setCell_same _ B 0 _ 96 _ h)))
theorem Zqx (W:World) (B:Nat) (a:ArmV) (k:Nat) (h:k≠B):(w4 W B a).heap[k]? = W.heap[k]?:=
 (heap_setCell_other _ ⟨B,3,none⟩ k _ h).trans ((heap_setCell_other _ ⟨B,2,none⟩ k _ h).trans ((heap_setCell_other _ ⟨B,1,none⟩ k _ h).trans (heap_setCell_other _ ⟨B,0,none⟩ k _ h)))
theorem Zqw (W:World) (B:Nat) (a:ArmV):KeepsOthers W (w4 W B a):=(((KeepsOthers.setCell _ _ _).trans (KeepsOthers.setCell _ _ _)).trans (KeepsOthers.setCell _ _ _)).trans (KeepsOthers.setCell _ _ _)
theorem Zqv {n₀:Nat} {w W:World} {B:Nat} (a:ArmV) (h:Below n₀ w W) (hB:n₀≤B):Below n₀ w (w4 W B a):=
 (((h.setCell (p:=⟨B,0,none⟩) hB _).setCell (p:=⟨B,1,none⟩) hB _).setCell (p:=⟨B,2,none⟩) hB _).setCell (p:=⟨B,3,none⟩) hB _
set_option maxRecDepth 100000 in
set_option maxHeartbeats 4000000 in
theorem Z03p (F:Fence) (n:Nat) (h61:F.fn 61) (h122:F.fn 122) (h165:F.fn 165) (hro:F.round=none) (hn:6≤n) (v:Int) (av:Value) (zs:List ArmV) (hreach:zs.length≤1000000000) (w:World) (hav:∃a l c,av=.slice a l c) (hA:Zg5 w.heap.size w av zs) :
  CallsIn F n Tryz.prog 61 #[av,.int .i64 v] w fun e W'=>((∃k,k<zs.length∧(armG zs (zs.length-1-k)).m=v∧(∀j,j<k→(armG zs (zs.length-1-j)).m≠v)∧e=.returned (.tuple #[(armG zs (zs.length-1-k)).enc,.bool true])) ∨
   ((∀j,j<zs.length→(armG zs (zs.length-1-j)).m≠v)∧e=.returned (.tuple #[.agg #[.int .i64 0,.int .i64 0,.slice none 0 0,.bool false],.bool false])))∧Below w.heap.size w W':=by
 have h1:1≤n:=by omega
 refine callsIn_of_wp_marks Tryz.func61 rfl h61 ?_ hro
 simp only [Tryz.ntmps61,List.size_toArray,List.length_cons,List.length_nil,Nat.reduceAdd,Nat.reduceSub,Array.replicate_succ,Array.replicate_zero,List.push_toArray,List.append_toArray,List.nil_append,List.cons_append]
 obtain ⟨aa,al,ac,rfl⟩:=hav
 gi_wp2_with (gi_at_call 122;refine (Zzv F (n-1) h122 hro _ ⟨_,_,_,rfl⟩ _).mono ?_;rintro e w' ⟨rfl,rfl⟩)
 obtain ⟨W0,hW0⟩:∃W0,(((w.alloc (.cells #[.int .i64 v] 3)).alloc (.cells #[.int .i64 0,.int .i64 0,.slice none 0 0,.bool false] 96)).alloc (.cells #[.bool false] 4)).alloc (.cells #[.slice aa al ac] 91)=W0:=⟨_,rfl⟩
 have hB0:Below w.heap.size w W0:=by rw [←hW0];exact ((((Below.refl _ w).alloc (Nat.le_refl _) _).alloc (by simp) _).alloc (by simp;omega) _).alloc (by simp;omega) _
 have hsz:W0.heap.size=w.heap.size+4:=by rw [←hW0];simp
 have bV:Boxed W0 w.heap.size 3 (.int .i64 v):=by rw [←hW0];exact (((Boxed.new w 3 (.int .i64 v)).alloc _).alloc _).alloc _
 have bR:Box4 W0 (w.heap.size+1) default:=by
  rw [←hW0]
  have h:Box4 ((w.alloc (.cells #[.int .i64 v] 3)).alloc (.cells #[.int .i64 0,.int .i64 0,.slice none 0 0,.bool false] 96)) (w.alloc (.cells #[.int .i64 v] 3)).heap.size default:=World.alloc_heap_new _ _
  rw [World.size_alloc] at h
  exact (h.alloc _).alloc _
 have bO:Boxed W0 (w.heap.size+1+1) 4 (.bool false):=by
  rw [←hW0]
  have h:=Boxed.new ((w.alloc (.cells #[.int .i64 v] 3)).alloc (.cells #[.int .i64 0,.int .i64 0,.slice none 0 0,.bool false] 96)) 4 (.bool false)
  simp only [World.size_alloc] at h
  exact h.alloc _
 have bA:Boxed W0 (w.heap.size+1+1+1) 91 (.slice aa al ac):=by
  rw [←hW0]
  have h:=Boxed.new (((w.alloc (.cells #[.int .i64 v] 3)).alloc (.cells #[.int .i64 0,.int .i64 0,.slice none 0 0,.bool false] 96)).alloc (.cells #[.bool false] 4)) 91 (.slice aa al ac)
  simp only [World.size_alloc] at h
  exact h
 have hA0:Zg5 (w.heap.size+4) W0 (.slice aa al ac) zs:=by
  rcases hA.below hB0 with h|⟨b,off,cap,e,hb,hc⟩
  ·exact .inl h
  ·exact .inr ⟨b,off,cap,e,by omega,hc⟩
 rw [hW0]
 clear hW0
 refine wpIn_rangeFunc_ownH hro h1 (gf:=165) (lb:=#[.pointer (some ⟨w.heap.size+1+1+1,0,none⟩)]) rfl h165 (enters_of Tryz.func165 (by kernel_rfl) rfl)
  (Zr3 F (n-1) h165 hro (by omega) (w.heap.size+1+1+1) (w.heap.size+4) _ zs hreach W0 (by omega) (by omega) bA.cell hA0) belowK_t (belowK_b (by omega)) (Below.refl _ _) (fun _=>rfl)
  (fun pre W=>(((((∀x∈pre,x.2.m≠v)∧Boxed W w.heap.size 3 (.int .i64 v))∧Box4 W (w.heap.size+1) default)∧Boxed W (w.heap.size+1+1) 4 (.bool false))∧Boxed W (w.heap.size+1+1+1) 91 (.slice aa al ac))∧Below w.heap.size w W)
  (fun c pre W=>((∃pre0 x,(c=.ret∧pre=pre0++[x]∧x.2.m=v∧∀y∈pre0,y.2.m≠v)∧Box4 W (w.heap.size+1) x.2)∧Boxed W (w.heap.size+1+1) 4 (.bool true))∧Below w.heap.size w W)
  (OwnFrom.and (OwnFrom.and (OwnFrom.and (OwnFrom.and (OwnFrom.and (ownFrom_pure _ _) (Own.from (boxed_own _ _ _) _)) (Own.from (Zjr _ _) _)) (Own.from (boxed_own _ _ _) _)) (Own.from (boxed_own _ _ _) _)) (ownFrom_below (Nat.le_refl _) (by omega)))
  (fun c=>OwnFrom.and (OwnFrom.and (fun s X Y row hs hg hr=>by
   obtain ⟨pre0,x,h,hb⟩:=hs
   exact ⟨pre0,x,h,Zjr (w.heap.size+1) (fun (_:Unit)=>x.2) () X Y row hb hg (fun r e=>(hr r e).2)⟩) (Own.from (boxed_own _ _ _) _)) (ownFrom_below (Nat.le_refl _) (by omega)))
  ⟨⟨⟨⟨⟨by simp,bV⟩,bR⟩,bO⟩,bA⟩,hB0⟩
  (fun x a' W=>∃Bx,w.heap.size+1+1<Bx∧Box4 W Bx x.2∧a'={ tmps:=#[.slice aa al ac,.int .i64 v,undef,.pointer (some ⟨w.heap.size,0,none⟩),.pointer (some ⟨w.heap.size+1,0,none⟩),.pointer (some ⟨w.heap.size+1+1,0,none⟩),undef,.pointer (some ⟨Bx,0,none⟩),.slice aa al ac,.func (.func 165) #[] #[.pointer (some ⟨w.heap.size+1+1+1,0,none⟩)],.int .i64 ((x.1:Nat):Int),x.2.enc,undef,undef,undef,undef,undef,undef],defers:=[] })
  (fun x a' _ X Y row hs hg hr=>by obtain ⟨Bx,e1,e2,e3⟩:=hs;exact ⟨Bx,e1,Zjr Bx (fun (_:Unit)=>x.2) () X Y row e2 hg (fun r e=>(hr r e).2),e3⟩)
  ?assign ?body ?done ?stop
 case assign=>
  rintro l pre ⟨xi,x⟩ W K ⟨⟨⟨⟨⟨hp,bV1⟩,bR1⟩,bO1⟩,bA1⟩,hB1⟩ hK
  obtain ⟨xm,xf,xsa,xsl,xsc,xc⟩:=x
  dsimp only [ArmV.enc] at hK ⊢
  gi_wp2
  have hbA:=bA1.lt
  exact hK _ _ ((KeepsOthers.alloc _ _).from _) ((Below.refl _ W).alloc (by omega) _) ⟨⟨⟨⟨⟨hp,bV1.alloc _⟩,bR1.alloc _⟩,bO1.alloc _⟩,bA1.alloc _⟩,hB1.alloc hB1.size _⟩ ⟨W.heap.size,by omega,World.alloc_heap_new W _,rfl⟩
 case body=>
  rintro l pre ⟨xi,x⟩ a' W hl ⟨r,hr⟩ ⟨⟨⟨⟨⟨hp,bV1⟩,bR1⟩,bO1⟩,bA1⟩,hB1⟩ ⟨Bx,hBx,bX,rfl⟩ hlt
  obtain ⟨xm,xf,xsa,xsl,xsc,xc⟩:=x
  have cV:=bV1.cell
  obtain ⟨x0,x1,x2,x3⟩:=bX.cells
  dsimp only at x0 x1 x2 x3
  obtain ⟨r0,r1,r2,r3⟩:=bR1.cells
  have f0:=bR1.frozen 0
  have f1:=bR1.frozen 1
  have f2:=bR1.frozen 2
  have f3:=bR1.frozen 3
  have cO:=bO1.cell
  have fO:=bO1.frozen
  gi_wp2
  ·rename_i hxy
   have hxv:xm=v:=by first|exact hxy|exact eq_of_beq hxy|(simp at hxy;exact hxy)
   have b4:=bR1.put ⟨xm,xf,xsa,xsl,xsc,xc⟩
   have b5:Boxed (w4 W (w.heap.size+1) ⟨xm,xf,xsa,xsl,xsc,xc⟩) (w.heap.size+1+1) 4 (.bool false):=(Zqx W _ _ _ (by omega)).trans bO1
   have b6:Box4 ((w4 W (w.heap.size+1) ⟨xm,xf,xsa,xsl,xsc,xc⟩).setCell ⟨w.heap.size+1+1,0,none⟩ (.bool true)) (w.heap.size+1) ⟨xm,xf,xsa,xsl,xsc,xc⟩:=b4.other (by omega) 0 _
   exact ⟨((Zqw W (w.heap.size+1) ⟨xm,xf,xsa,xsl,xsc,xc⟩).trans (KeepsOthers.setCell _ _ _)).from _,⟨⟨pre,xi,⟨xm,xf,xsa,xsl,xsc,xc⟩,⟨rfl,rfl,hxv,fun a b h=>hp (a,b) h⟩,b6⟩,b5.set _⟩,(Zqv ⟨xm,xf,xsa,xsl,xsc,xc⟩ hB1 (by omega)).setCell (p:=⟨w.heap.size+1+1,0,none⟩) (by simp;omega) _⟩
  ·rename_i hxy
   exact ⟨KeepsFrom.refl _ _,Below.refl _ _,⟨⟨⟨⟨fun a b h=>(List.mem_append.1 h).elim (hp (a,b)) (fun e=>by simp at e;obtain ⟨rfl,rfl⟩:=e;simpa using hxy),bV1⟩,bR1⟩,bO1⟩,bA1⟩,hB1⟩
 case done=>
  rintro D ys W hD rfl ⟨⟨⟨⟨⟨hp,bV1⟩,bR1⟩,bO1⟩,bA1⟩,hB1⟩ hK
  obtain ⟨r0,r1,r2,r3⟩:=bR1.cells
  have f0:=bR1.frozen 0
  have f1:=bR1.frozen 1
  have f2:=bR1.frozen 2
  have f3:=bR1.frozen 3
  have cO:=bO1.cell
  have fO:=bO1.frozen
  gi_wp2
  have hK':=((Zqw W (w.heap.size+1) (⟨0,0,none,0,0,false⟩:ArmV)).trans (KeepsOthers.setCell _ ⟨w.heap.size+1+1,0,none⟩ (.bool false))).same D _ hK rfl
  refine ⟨by simp,.inl ⟨_,_,rfl,run_takeDeferred hK',?_⟩⟩
  have b4:=bR1.put (⟨0,0,none,0,0,false⟩:ArmV)
  have b5:Boxed (w4 W (w.heap.size+1) (⟨0,0,none,0,0,false⟩:ArmV)) (w.heap.size+1+1) 4 (.bool false):=(Zqx W _ _ _ (by omega)).trans bO1
  have b6:Box4 ((w4 W (w.heap.size+1) (⟨0,0,none,0,0,false⟩:ArmV)).setCell ⟨w.heap.size+1+1,0,none⟩ (.bool false)) (w.heap.size+1) (⟨0,0,none,0,0,false⟩:ArmV):=b4.other (by omega) 0 _
  have b7:=b5.set (.bool false)
  have n4:w.heap.size+1≠D:=by omega
  have n5:w.heap.size+1+1≠D:=by omega
  have b8:Box4 (((w4 W (w.heap.size+1) (⟨0,0,none,0,0,false⟩:ArmV)).setCell ⟨w.heap.size+1+1,0,none⟩ (.bool false)).putObj D (.deferred none)) (w.heap.size+1) (⟨0,0,none,0,0,false⟩:ArmV):=(World.putObj_heap_other n4).trans b6
  have b9:Boxed (((w4 W (w.heap.size+1) (⟨0,0,none,0,0,false⟩:ArmV)).setCell ⟨w.heap.size+1+1,0,none⟩ (.bool false)).putObj D (.deferred none)) (w.heap.size+1+1) 4 (.bool false):=(World.putObj_heap_other n5).trans b7
  obtain ⟨y0,y1,y2,y3⟩:=b8.cells
  have y4:=b9.cell
  dsimp only [w4] at y0 y1 y2 y3 y4
  refine ⟨.tuple #[.agg #[.int .i64 0,.int .i64 0,.slice none 0 0,.bool false],.bool false],?_,⟨.inr ⟨fun j hj=>hp (zs.length-1-j,armG zs (zs.length-1-j)) (List.mem_map.2 ⟨j,List.mem_range.2 hj,rfl⟩),rfl⟩,
   ((Zqv (⟨0,0,none,0,0,false⟩:ArmV) hB1 (by omega)).setCell (p:=⟨w.heap.size+1+1,0,none⟩) (by simp;omega) _).trans (belowK_b (w:=w) (Nat.le_refl _) _ D _ _ (by omega) hK' rfl rfl)⟩⟩
  simp [results,Tryz.f61,go_sem,y0,y1,y2,y3,y4]
 case stop=>
  rintro D c pre W hD hpre ⟨⟨⟨pre0,x,⟨rfl,he,hx,hy⟩,bR1⟩,bO1⟩,hB1⟩ hK
  gi_wp2
  refine ⟨by simp,.inl ⟨_,_,rfl,run_takeDeferred hK,?_⟩⟩
  have n4:w.heap.size+1≠D:=by omega
  have n5:w.heap.size+1+1≠D:=by omega
  have b8:Box4 (W.putObj D (.deferred none)) (w.heap.size+1) x.2:=(World.putObj_heap_other n4).trans bR1
  have b9:Boxed (W.putObj D (.deferred none)) (w.heap.size+1+1) 4 (.bool true):=(World.putObj_heap_other n5).trans bO1
  obtain ⟨y0,y1,y2,y3⟩:=b8.cells
  have y4:=b9.cell
  obtain ⟨k,hk,rfl⟩:=hpre
  obtain ⟨k',rfl⟩:∃k',k=k'+1:=by
   cases k with
   | zero=>simp [dn] at he
   | succ k'=>exact ⟨k',rfl⟩
  rw [Zo8] at he
  obtain ⟨e1,e2⟩:=List.append_inj' he rfl
  have e3:x=(zs.length-1-k',armG zs (zs.length-1-k')):=(List.cons.inj e2).1.symm
  subst e3
  refine ⟨.tuple #[(armG zs (zs.length-1-k')).enc,.bool true],?_,⟨.inl ⟨k',by omega,hx,fun j hj=>hy (zs.length-1-j,armG zs (zs.length-1-j)) (e1▸List.mem_map.2 ⟨j,List.mem_range.2 hj,rfl⟩),rfl⟩,
   hB1.trans (belowK_b (w:=w) (Nat.le_refl _) W D _ _ (by omega) hK rfl rfl)⟩⟩
  simp [results,Tryz.f61,go_sem,y0,y1,y2,y3,y4,ArmV.enc]
end Go.Proofs
end
section
namespace Go.Abs
open Go.Proofs
theorem Zq6 {v:Int}:∀{am:List Arm} {i:Nat} {a:Arm},am[i]? = some a→a.mat=v→(∀j b,i<j→am[j]? = some b→b.mat≠v)→ofF am v=some a
 | [],_,_,h,_,_=>by simp at h
 | x::r,0,a,h,hm,hl=>by
  simp at h
  subst h
  have:ofF r v=none:=Zd1 fun b hb=>by
   obtain ⟨j,hj⟩:=List.getElem?_of_mem hb
   exact hl (j+1) b om (by simpa using hj)
  rw [ofF,this]
  simp [hm]
 | x::r,i+1,a,h,hm,hl=>by
  have:ofF r v=some a:=Zq6 (by simpa using h) hm fun j b hj hb=>hl (j+1) b om (by simpa using hb)
  rw [ofF,this]
def Zz9 (w:World) (G:Prot) (b o:Nat) (a:Arm) (z:ArmV):Prop:=
 w.cell? ⟨b,o,none⟩=some (.int .i64 z.m)∧w.cell? ⟨b,o+1,none⟩=some (.int .i64 z.f)∧w.cell? ⟨b,o+2,none⟩=some (.slice z.sa z.sl z.sc)∧w.cell? ⟨b,o+3,none⟩=some (.bool z.c) ∧
  z.m=a.mat∧z.f=a.fst∧z.c=a.chg∧RV w G (nInt a.fds) (.slice z.sa z.sl z.sc)∧G b o
theorem Z01g {w:World} {G:Prot} {es:List AV} {hv:Option Value} {u:Value} (h:RV w G (.sl es hv) u):∃a l c,u=.slice a l c:=by
 cases h with
 | nil _=>exact ⟨_,_,_,rfl⟩
 | sl _ _ _=>exact ⟨_,_,_,rfl⟩
theorem Zzs {w:World} {G:Prot} {b o:Nat} {a:Arm} (h:RMem w G b o (lArm a)):∃z,Zz9 w G b o a z:=by
 cases h with
 | cons c0 g0 r0 t=>cases t with
  | cons c1 _ r1 t=>cases t with
   | cons c2 _ r2 t=>cases t with
    | cons c3 _ r3 t=>
     have e0:=r0.val_inv;subst e0
     have e1:=r1.val_inv;subst e1
     have e3:=r3.val_inv;subst e3
     have hs:∃sa sl sc,∃u,u=Value.slice sa sl sc∧w.cell? ⟨b,o+2,none⟩=some u∧RV w G (nInt a.fds) u:=by
      obtain ⟨sa,sl,sc,e⟩:=Z01g r2
      exact ⟨sa,sl,sc,_,e,c2,r2⟩
     obtain ⟨sa,sl,sc,u,rfl,c2',r2'⟩:=hs
     exact ⟨⟨a.mat,a.fst,sa,sl,sc,a.chg⟩,c0,c1,c2',c3,rfl,rfl,rfl,r2',g0⟩
theorem Zpc {w:World} {G:Prot} {b k:Nat}:∀{o:Nat} {am:List Arm},REls w G k b o (Z41 am)→∃zs:List ArmV,zs.length=am.length∧∀(j:Nat) a,am[j]? = some a→Zz9 w G b (o+j*4) a (armG zs j)
 | _,[],_=>⟨[],rfl,fun j a h=>by simp at h⟩
 | o,x::r,.cons hl h t=>by
  have hk:4=k:=hl
  subst hk
  obtain ⟨z,hz⟩:=Zzs h
  obtain ⟨zs,hlen,hzs⟩:=Zpc t
  refine ⟨z::zs,by simp [hlen],fun j a hj=>?_⟩
  cases j with
  | zero=>simp at hj;subst hj;simpa [armG] using hz
  | succ j=>
   have:=hzs j a (by simpa using hj)
   rw [show o+(j+1)*4=o+4+j*4 by omega]
   simpa [armG] using this
theorem Zt8 (am:List Arm) (v:Int) (hal:am.length≤1000000000):Z3 Tryz.prog 61 [nArm am,.i v] [] (fun r h=>(∃(a:Arm),r=.tup [.agg [.i a.mat,.i a.fst,nInt a.fds,.b a.chg],.b true]∧h=[]∧ofF am v=some a)∨(r=.tup [.agg [.i 0,.i 0,oInt [] (.slice none 0 0),.b false],.b false]∧h=[]∧ofF am v=none)):=by
 intro w G vs ha hh
 obtain ⟨u,rfl,hu⟩:∃u,vs=[u,.int .i64 v]∧RV w G (nArm am) u:=by
  cases ha with
  | cons h1 t=>cases t with
   | cons h2 t=>cases t;have:=h2.val_inv;subst this;exact ⟨_,rfl,h1⟩
 obtain ⟨zs,hlen,hat,hav,hrel⟩:∃zs:List ArmV,zs.length=am.length∧Zg5 w.heap.size w u zs∧(∃a l c,u=.slice a l c)∧∀(j:Nat) a,am[j]? = some a→(armG zs j).m=a.mat∧(armG zs j).f=a.fst∧(armG zs j).c=a.chg∧RV w G (nInt a.fds) (.slice (armG zs j).sa (armG zs j).sl (armG zs j).sc):=by
  have hu':RV w G (.sl (Z41 am) none) u:=hu
  generalize hes:Z41 am=es at hu'
  cases hu' with
  | nil _=>
   cases am with
   | nil=>exact ⟨[],rfl,.inl ⟨_,_,rfl,rfl⟩,⟨_,_,_,rfl⟩,fun j a h=>by simp at h⟩
   | cons _ _=>simp [Z41] at hes
  | @sl _ _ b o k cap _ hc hm=>
   subst hes
   obtain ⟨zs,hlen,hzs⟩:=Zpc hm
   have hel:(Z41 am).length=zs.length:=by simp [Z41,hlen]
   refine ⟨zs,hlen,?_,⟨_,_,_,rfl⟩,fun j a hj=>by obtain ⟨_,_,_,_,q1,q2,q3,q4,_⟩:=hzs j a hj;exact ⟨q1,q2,q3,q4⟩⟩
   cases am with
   | nil=>exact .inl ⟨_,_,rfl,List.eq_nil_of_length_eq_zero hlen⟩
   | cons x r=>
    refine .inr ⟨b,o,cap,by rw [hel],hh.lt b _ (hzs 0 x rfl).2.2.2.2.2.2.2.2,fun j hj=>?_⟩
    have hj2:j<(x::r).length:=by omega
    obtain ⟨q0,q1,q2,q3,_⟩:=hzs j _ (List.getElem?_eq_getElem hj2)
    exact ⟨q0,q1,q2,q3⟩
 refine (callsIn_wide.1 (Z03p Fence.wide 6 trivial trivial trivial rfl om v u zs om w hav hat)).mono ?_
 rintro e W' ⟨hres,hB⟩
 have hA:Agree G w W' G:=⟨fun b o hg=>hB.cell (p:=⟨b,o,none⟩) (hh.lt b o hg),fun _ _ h=>h⟩
 have hH:HOk W' G []:=⟨(fun r hr=>by cases hr),List.Pairwise.nil,(fun r hr=>by cases hr),fun b o hg=>Nat.lt_of_lt_of_le (hh.lt b o hg) hB.size⟩
 have hX:Ext w G [] W' G []:=⟨hB.os,hB.tape,hB.output,hB.size,fun _ _ h=>h,fun b hb=>.inl (hB.block b hb),fun _ _ _ h=>.inl h,fun _ _ _ h=>h⟩
 have hmn:∀j,j<zs.length→∃a,am[zs.length-1-j]? = some a:=fun j hj=>⟨_,List.getElem?_eq_getElem om⟩
 rcases hres with ⟨k,hk,hm,hlt,rfl⟩|⟨hno,rfl⟩
 ·obtain ⟨a,hga⟩:=hmn k hk
  obtain ⟨q1,q2,q3,q4⟩:=hrel _ a hga
  have hof:ofF am v=some a:=Zq6 hga (q1▸hm) fun j b hj hb=>by
   have hjl:=(List.getElem?_eq_some_iff.1 hb).1
   have:=hlt (zs.length-1-j) om
   rw [show zs.length-1-(zs.length-1-j)=j by omega,(hrel j b hb).1] at this
   exact this
  refine ⟨_,.tup [.agg [.i a.mat,.i a.fst,nInt a.fds,.b a.chg],.b true],[],G,rfl,.inl ⟨a,rfl,rfl,hof⟩,?_,hH,hX⟩
  refine .tup (.cons (.agg (cs:=[_,_,_,_]) (.cons ?_ (.cons ?_ (.cons (q4.mono hA) (.cons ?_ .nil))))) (.cons .val .nil))
  ·rw [q1];exact .val
  ·rw [q2];exact .val
  ·rw [q3];exact .val
 ·have hof:ofF am v=none:=Zd1 fun a ha=>by
   obtain ⟨j,hj⟩:=List.getElem?_of_mem ha
   have hjl:=(List.getElem?_eq_some_iff.1 hj).1
   have:=hno (zs.length-1-j) om
   rw [show zs.length-1-(zs.length-1-j)=j by omega,(hrel j a hj).1] at this
   exact this
  refine ⟨_,.tup [.agg [.i 0,.i 0,oInt [] (.slice none 0 0),.b false],.b false],[],G,rfl,.inr ⟨rfl,rfl,hof⟩,?_,hH,hX⟩
  exact .tup (.cons (.agg (cs:=[_,_,_,_]) (.cons .val (.cons .val (.cons (.nil (fun x hx=>(Option.some.inj hx).symm)) (.cons .val .nil))))) (.cons .val .nil))
end Go.Abs
end
section
namespace Go.Abs
open Go.Proofs
set_option maxRecDepth 10000
set_option maxHeartbeats 4000000
theorem Znv (b:Nat) (ga:Hd) (gb:Hd) (gc:Hd) (n:Normal) (L:LedB) (ln:List Int) (am:List Arm) (x:Block) (mm:Nat) (hlk:LLen L:=by exact ob) (hlb:L.vars.length≤1000000000:=by exact ob) (hm:mm≤L.vars.length:=by exact ob) (hr:0≤x.result∧x.result<L.vars.length:=by exact ob) (hq:∀y∈L.own,-999999999≤y∧y≤1000000000):Z3 Tryz.prog 116 [.p b 0,Zk x,.i mm] [.obj b [Z2 n.decls,nSg3 (n.routines.map Z4),nInt ln,nArm am,.h ga,.h gb,.h gc],rV ga L.vars,rV gb L.own,rV gc L.tok] (fun r h=>(r=.b true∧h=[.obj b [Z2 n.decls,nSg3 (n.routines.map Z4),nInt ln,nArm am,.h ga,.h gb,.h gc],rV ga ((endM L x.result).vars),rV gb ((endM L x.result).own),rV gc ((endM L x.result).tok)]∧endL mm x.result L=some ((endM L x.result).take mm))∨(r=.b false∧h=[]∧endL mm x.result L=none)):=by
 have hlk0:=hlk
 obtain ⟨e1,e2,e3,e4,e5⟩:=hlk0
 have d1:(decL L x.result).own.length=L.own.length:=List.length_set
 have d2:(decL L x.result).tok.length=L.tok.length:=rfl
 have d3:(decL L x.result).vars.length=L.vars.length:=rfl
 refine enter Tryz.func116 kr (n:=52) kr kr (ar (iA (Z1b x) ?_))
 intro b1
 refine ir 1 [(0,.p b 0),(2,.i mm),(4,.p b1 0)] (ie (aq (aD 16 (dtK (fuel:=10) 16 [0,1,2,3,4,5] (.n 11 (.h ga) (.n 13 (.i x.result) .r)) [1,0] [b,b1] (dx 6 (vIdx 2 ga L.vars x.result x.result.toNat (hq:=rfl)) ?_)))))
 obtain ⟨x1,hx1⟩:=Z9 (xs:=L.vars) (j:=x.result.toNat) om
 have hgv:=Z5e hx1
 refine dx_ 7 (vGet 2 ga L.vars x.result.toNat x1 hx1) (dtk (fuel:=6) 8 [8,9] (.n 17 (.b (x1 != 0)) .r) (db (b:=(x1 != 0)) 17 (fun hb1=>?_) (fun hb1=>?_)))
 ·have hp1:x1≠0:=(bne_iff_ne).1 hb1
  refine dtK (fuel:=3) 6 [10,11,12] (.n 18 (.p b 0) (.n 20 (.i x.result) (.k (.d .r)))) [0] [b1] (do_ 13 (dc 13 [1,1,1,1] [] [] (Zfh b ga gb gc n L ln am x.result (hq:=(fun y hy=>by have:=hq y hy;omega))) ?_))
  rintro _ _ ⟨rfl,rfl⟩
  refine dtk (fuel:=0) 2 [14,15] (.n 23 (.b (!decide (1≤gI L.own x.result))) .r) (de (ac (!decide (1≤gI L.own x.result)) (p:=¬(decide (1≤gI L.own x.result)=true)) (Zg Iff.rfl) (fun hc1=>?_) (fun hc1=>?_)))
  ·refine ar (ir 1 [(6,.b false)] (ie ?_))
   exact at_ (r1 [] (.inr ⟨rfl,rfl,(Zxq (by rw [hgv];exact hp1) (fun q=>hc1 (decide_eq_true q)))⟩))
  refine ak (aq (ar (irk 2 (.n 7 (.i mm) .r) (ie (ab 0 (al (fun m F h=>∃(k:Nat),(mm≤k∧k≤L.vars.length)∧(Z34 ((decL L x.result).own.drop k) ((decL L x.result).tok.drop k)=Z34 ((decL L x.result).own.drop mm) ((decL L x.result).tok.drop mm))∧F=[(0,.p b 0),(7,.i k)]∧h=[.obj b [Z2 n.decls,nSg3 (n.routines.map Z4),nInt ln,nArm am,.h ga,.h gb,.h gc],rV ga ((decL L x.result).vars),rV gb ((decL L x.result).own),rV gc ((decL L x.result).tok)]∧m=L.vars.length-k) _ _ _ ⟨mm,om,ob,rfl,rfl,rfl⟩ (wk [0,0,0,0] fl) ?_))))))
  rintro m F h ⟨k,c0_0,c0_1,rfl,rfl,rfl⟩
  refine aq (ar (irK 5 (.n 25 (.i k) (.n 29 (.h ga) .r)) [0] [b] (is_ (vLen 1 ga ((decL L x.result).vars)) (irk 1 (.n 31 (.b (decide ((k:Int)<((((decL L x.result).vars).length:Nat):Int)))) .r) (ie (ac (decide ((k:Int)<((((decL L x.result).vars).length:Nat):Int))) decide_eq_true_iff (fun hc2=>?_) (fun hc2=>?_)))))))
  ·refine ak (aq (ab 1 (ar (irK 5 (.n 37 (.h gb) (.n 38 (.i k) .r)) [0] [b] (is_ (vIdx 2 gb ((decL L x.result).own) (k:Int) k) ?_)))))
   obtain ⟨x2,hx2⟩:=Z9 (xs:=(decL L x.result).own) (j:=k) om
   refine ix_ (vGet 2 gb ((decL L x.result).own) k x2 hx2) (irk 2 (.n 42 (.b (x2 != 0)) .r) (ib (b:=(x2 != 0)) 42 (fun hb2=>?_) (fun hb2=>?_)))
   ·have hp2:x2≠0:=(bne_iff_ne).1 hb2
    refine irk 9 (.n 51 (.b true) (.k (.d .r))) (ie (ac1 (ar (ir 1 [(6,.b false)] (ie ?_)))))
    have hE:endM L x.result=decL L x.result:=if_pos (by rw [hgv];exact hp1)
    obtain ⟨y,hy⟩:=Z9 (xs:=(decL L x.result).tok) (j:=k) om
    exact at_ (r1 [] (.inr ⟨rfl,rfl,(Zfl (by rw [hE];exact Zdk hx2 hy (.inl hp2) c0_1))⟩))
   have hp3:¬(x2≠0):=Zj bne_iff_ne hb2
   refine irK 5 (.n 46 (.h gc) (.n 47 (.i k) (.k (.d .r)))) [0] [b] (is_ (vIdx 3 gc ((decL L x.result).tok) (k:Int) k) ?_)
   obtain ⟨x3,hx3⟩:=Z9 (xs:=(decL L x.result).tok) (j:=k) om
   refine ix_ (vGet 3 gc ((decL L x.result).tok) k x3 hx3) (irk 2 (.n 51 (.b (decide (x3≥0))) .r) (ie (ac (decide (x3≥0)) decide_eq_true_iff (fun hc3=>?_) (fun hc3=>?_))))
   ·refine ar (ir 1 [(6,.b false)] (ie ?_))
    have hE:endM L x.result=decL L x.result:=if_pos (by rw [hgv];exact hp1)
    exact at_ (r1 [] (.inr ⟨rfl,rfl,(Zfl (by rw [hE];exact Zdk hx2 hx3 (.inr hc3) c0_1))⟩))
   refine ak (az (irk 1 (.n 32 (.i k) .r) (ia (((k+1:Nat):Int)) (((k:Int))+(1)) (ir 1 [(0,.p b 0),(7,.i (k+1:Nat))] (ie ?_)))))
   exact ⟨_,_,_,ob,⟨k+1,ob,(by first|exact Zg4 hx2 hx3 om c0_1|exact Zg4 hx4 hx5 om c0_1),rfl,rfl,rfl⟩,(wk [0,0,0,0] (fr (fc (x:=.i (k+1:Nat)) li fl)))⟩
  refine ax 0 (ar (ir 1 [(6,.b true)] (ie ?_)))
  have hE:endM L x.result=decL L x.result:=if_pos (by rw [hgv];exact hp1)
  exact at_ (r1 [0,0,0,0] (.inl ⟨rfl,rfl,(Zpq (fun _=>of_decide_eq_true (Classical.not_not.1 hc1)) (by rw [hE];exact Znj om c0_1))⟩) (eq:=(rc (rv (xs:=(decL L x.result).vars) (by rw [hE]) (rv (xs:=(decL L x.result).own) (by rw [hE]) (rv (xs:=(decL L x.result).tok) (by rw [hE]) rz))))))
 have hp4:¬(x1≠0):=Zj bne_iff_ne hb1
 refine dtk (fuel:=0) 6 [10,11,12,13,14,15] (.n 23 (.b false) (.k (.d .r))) (de (ac0 (ak (aq (ar (irk 2 (.n 7 (.i mm) .r) (ie (ab 0 (al (fun m F h=>∃(k:Nat),(mm≤k∧k≤L.vars.length)∧(Z34 (L.own.drop k) (L.tok.drop k)=Z34 (L.own.drop mm) (L.tok.drop mm))∧F=[(0,.p b 0),(7,.i k)]∧h=[.obj b [Z2 n.decls,nSg3 (n.routines.map Z4),nInt ln,nArm am,.h ga,.h gb,.h gc],rV ga L.vars,rV gb L.own,rV gc L.tok]∧m=L.vars.length-k) _ _ _ ⟨mm,om,ob,rfl,rfl,rfl⟩ (wk [1,1,1,1] fl) ?_)))))))))
 rintro m F h ⟨k,c0_0,c0_1,rfl,rfl,rfl⟩
 refine aq (ar (irK 5 (.n 25 (.i k) (.n 29 (.h ga) .r)) [0] [b] (is_ (vLen 1 ga L.vars) (irk 1 (.n 31 (.b (decide ((k:Int)<(L.vars.length:Int)))) .r) (ie (ac (decide ((k:Int)<(L.vars.length:Int))) decide_eq_true_iff (fun hc4=>?_) (fun hc4=>?_)))))))
 ·refine ak (aq (ab 1 (ar (irK 5 (.n 37 (.h gb) (.n 38 (.i k) .r)) [0] [b] (is_ (vIdx 2 gb L.own (k:Int) k) ?_)))))
  obtain ⟨x4,hx4⟩:=Z9 (xs:=L.own) (j:=k) om
  refine ix_ (vGet 2 gb L.own k x4 hx4) (irk 2 (.n 42 (.b (x4 != 0)) .r) (ib (b:=(x4 != 0)) 42 (fun hb3=>?_) (fun hb3=>?_)))
  ·have hp5:x4≠0:=(bne_iff_ne).1 hb3
   refine irk 9 (.n 51 (.b true) (.k (.d .r))) (ie (ac1 (ar (ir 1 [(6,.b false)] (ie ?_)))))
   have hE:endM L x.result=L:=if_neg (by rw [hgv];exact hp4)
   obtain ⟨y,hy⟩:=Z9 (xs:=L.tok) (j:=k) om
   exact at_ (r1 [] (.inr ⟨rfl,rfl,(Zfl (by rw [hE];exact Zdk hx4 hy (.inl hp5) c0_1))⟩))
  have hp6:¬(x4≠0):=Zj bne_iff_ne hb3
  refine irK 5 (.n 46 (.h gc) (.n 47 (.i k) (.k (.d .r)))) [0] [b] (is_ (vIdx 3 gc L.tok (k:Int) k) ?_)
  obtain ⟨x5,hx5⟩:=Z9 (xs:=L.tok) (j:=k) om
  refine ix_ (vGet 3 gc L.tok k x5 hx5) (irk 2 (.n 51 (.b (decide (x5≥0))) .r) (ie (ac (decide (x5≥0)) decide_eq_true_iff (fun hc5=>?_) (fun hc5=>?_))))
  ·refine ar (ir 1 [(6,.b false)] (ie ?_))
   have hE:endM L x.result=L:=if_neg (by rw [hgv];exact hp4)
   exact at_ (r1 [] (.inr ⟨rfl,rfl,(Zfl (by rw [hE];exact Zdk hx4 hx5 (.inr hc5) c0_1))⟩))
  refine ak (az (irk 1 (.n 32 (.i k) .r) (ia (((k+1:Nat):Int)) (((k:Int))+(1)) (ir 1 [(0,.p b 0),(7,.i (k+1:Nat))] (ie ?_)))))
  exact ⟨_,_,_,ob,⟨k+1,ob,(by first|exact Zg4 hx2 hx3 om c0_1|exact Zg4 hx4 hx5 om c0_1),rfl,rfl,rfl⟩,(wk [0,0,0,0] (fr (fc (x:=.i (k+1:Nat)) li fl)))⟩
 refine ax 0 (ar (ir 1 [(6,.b true)] (ie ?_)))
 have hE:endM L x.result=L:=if_neg (by rw [hgv];exact hp4)
 exact at_ (r1 [0,0,0,0] (.inl ⟨rfl,rfl,(Zpq (fun q=>absurd (by rw [←hgv];exact q) hp4) (by rw [hE];exact Znj om c0_1))⟩) (eq:=(rc (rv (xs:=L.vars) (by rw [hE]) (rv (xs:=L.own) (by rw [hE]) (rv (xs:=L.tok) (by rw [hE]) rz))))))
theorem Zte (b:Nat) (ga:Hd) (gb:Hd) (gc:Hd) (n:Normal) (L:LedB) (ln:List Int) (am:List Arm) (i:Int) (hlk:LLen L) (hi:0≤i∧i<L.vars.length) (hq:∀x∈L.own,-1000000000≤x∧x≤1000000000):Z3 Tryz.prog 164 [.p b 0,.i i] [.obj b [Z2 n.decls,nSg3 (n.routines.map Z4),nInt ln,nArm am,.h ga,.h gb,.h gc],rV ga L.vars,rV gb L.own,rV gc L.tok] (fun r h=>(r=.b true∧h=[.obj b [Z2 n.decls,nSg3 (n.routines.map Z4),nInt ln,nArm am,.h ga,.h gb,.h gc],rV ga ((decL L i).vars),rV gb ((decL L i).own),rV gc ((decL L i).tok)]∧1≤gI L.own i)∨(r=.b false∧h=[.obj b [Z2 n.decls,nSg3 (n.routines.map Z4),nInt ln,nArm am,.h ga,.h gb,.h gc],rV ga ((decL L i).vars),rV gb ((decL L i).own),rV gc ((decL L i).tok)]∧¬1≤gI L.own i)):=by
 refine (Zfh b ga gb gc n L ln am i hlk hi hq).mono fun r h q=>?_
 obtain ⟨rfl,rfl⟩:=q
 by_cases hc:1≤gI L.own i
 ·exact .inl ⟨by rw [decide_eq_true hc],rfl,hc⟩
 ·exact .inr ⟨by rw [decide_eq_false hc],rfl,hc⟩
theorem Ztb (b:Nat) (ga:Hd) (gb:Hd) (gc:Hd) (n:Normal) (L:LedB) (ln:List Int) (am:List Arm) (op:Int) (v:Int) (q:Int) (hn:NOk n:=by exact ob) (hk:LOk n.decls L q:=by exact ob) (har:ArmR n.decls L am:=by exact ob) (hln:ln.length≤4294967296:=by exact ob) (hal:am.length≤1000000000:=by exact ob) (hlb:L.vars.length≤1000000000:=by exact ob) (hi:0≤v∧v<L.vars.length:=by exact ob) (hq:0≤q∧q≤999999980:=by exact ob):Z3 Tryz.prog 199 [.p b 0,.i op,.i v] [.obj b [Z2 n.decls,nSg3 (n.routines.map Z4),nInt ln,nArm am,.h ga,.h gb,.h gc],rV ga L.vars,rV gb L.own,rV gc L.tok] (fun r h=>(∃(L':LedB),r=.b true∧h=[.obj b [Z2 n.decls,nSg3 (n.routines.map Z4),nInt ln,nArm am,.h ga,.h gb,.h gc],rV ga L'.vars,rV gb L'.own,rV gc L'.tok]∧cntL n ln L op v=some L')∨(r=.b false∧h=[]∧cntL n ln L op v=none)):=by
 have hlk:=hk.len
 obtain ⟨e1,e2,e3,e4,e5⟩:=hk.len
 have hdk:=hn.decls
 obtain ⟨xo,hxo⟩:=Z9 (xs:=L.own) (j:=v.toNat) om
 have hgo:=Z5e hxo
 obtain ⟨xt,hxt⟩:=Z9 (xs:=L.tok) (j:=v.toNat) om
 have hgt:=Z5e hxt
 have hob:=hk.bd xo (List.mem_of_getElem? hxo)
 have hon:=hk.nn xo (List.mem_of_getElem? hxo)
 have d1:(decL L v).own.length=L.own.length:=List.length_set
 have d2:(decL L v).tok.length=L.tok.length:=rfl
 have d3:(decL L v).vars.length=L.vars.length:=rfl
 refine enter Tryz.func199 kr (n:=91) kr kr (ar (ir 1 [(0,.p b 0),(1,.i op),(2,.i v)] (ie (aq (ar (irk 1 (.n 11 (.i op) .r) (ie (ab 0 (ar (irk 2 (.n 12 (.b (op==14)) .r) (ie (ac (op==14) beq_iff_eq (fun hc1=>?_) (fun hc1=>?_)))))))))))))
 ·refine aq (ar (irk 2 (.n 14 (.p b 0) (.n 15 (.i v) .r)) (ic [0,0,0,0] (Zgg b ga gb gc _ L ln am v ob ob ob ob ob hk.down ob) ?_)))
  rintro _ _ ⟨rfl,rfl⟩
  refine irk 1 (.n 17 (.b (!Z1i L ln v)) .r) (ie (ac (!Z1i L ln v) (p:=¬(Z1i L ln v=true)) (Zg Iff.rfl) (fun hc2=>?_) (fun hc2=>?_)))
  ·refine ar (ir 1 [(6,.b false)] (ie ?_))
   exact at_ (r1 [] (.inr ⟨rfl,rfl,(Zxh hc1 hc2)⟩))
  refine ak (ar (iR 5 [(21,.h gb),(22,.i v)] [0] [b] (is_ (vIdx 2 gb L.own v v.toNat (hq:=rfl)) (ix_ (vGet 2 gb L.own v.toNat xo hxo) (ia ((xo+1)) ((xo)+(1)) (is_ (vIdx 2 gb L.own v v.toNat (hq:=rfl)) (iVS 2 gb L.own v.toNat (xo+1) (ie (ar (ir 1 [(6,.b true)] (ie ?_)))))))))))
  exact at_ (r1 [1,1,0,0] (.inl ⟨(Led.mk L.vars (L.own.set v.toNat (xo+1)) L.par L.con L.fst L.tok),rfl,rfl,(Zxi hc1 (Classical.not_not.1 hc2) hgo)⟩) (eq:=(rc (rv (xs:=L.vars) ob (rv (xs:=(L.own.set v.toNat (xo+1))) ob (rv (xs:=L.tok) ob rz))))))
 refine ar (irk 2 (.n 27 (.b (op==15)) .r) (ie (ac (op==15) beq_iff_eq (fun hc3=>?_) (fun hc3=>?_))))
 ·refine ar (ir 2 [(29,.p b 0),(30,.i v)] (ic [0,0,0,0] (Zte b ga gb gc n L ln am v ob ob (fun y hy=>by have h1:=hk.nn y hy;have h2:=hk.bd y hy;omega)) ?_))
  rintro _ _ (⟨rfl,rfl,hp1⟩|⟨rfl,rfl,hp2⟩)
  ·refine ir 1 [(6,.b true)] (ie ?_)
   exact at_ (r1 [0,0,0,0] (.inl ⟨(decL L v),rfl,rfl,(Zto hc3 hp1)⟩))
  refine ir 1 [(6,.b false)] (ie ?_)
  exact at_ (r1 [] (.inr ⟨rfl,rfl,(Ztn hc3 hp2)⟩))
 refine ak (ar (irK 5 (.n 36 (nArm am) (.n 37 (.i v) .r)) [0] [b] (ic [] (Zt8 am v ob) ?_)))
 rintro _ _ (⟨a1,rfl,rfl,hp3⟩|⟨rfl,rfl,hp4⟩)
 ·have hof:=hp3
  have hmem:=(Zot hof).1
  have hrg:=har.rng _ hmem
  have hO:=(Zpj (n:=n) (ln:=ln) hc1 hc3).trans (Zyh (op:=op) har hi hof hgt)
  have hfl:a1.fds.length≤3:=by
   have h:=har.off v hi.1 hi.2
   rw [hof] at h
   rw [h.2.2]
   exact Z0u hdk _
  have hhl:=Z7h a1.fds a1.fst
  refine irk 3 (.n 39 (.agg [.i a1.mat,.i a1.fst,nInt a1.fds,.b a1.chg]) (.n 40 (.b true) .r)) (iA [.i 0,.i 0,.sl [] (some (.slice none 0 0)),.b false] ?_)
  intro b1
  refine iS 0 b1 0 [.i a1.mat,.i a1.fst,nInt a1.fds,.b a1.chg] [.i 0,.i 0,.sl [] (some (.slice none 0 0)),.b false] [.i a1.mat,.i a1.fst,nInt a1.fds,.b a1.chg] (irk 1 (.n 8 (.b true) .r) (ie (aq (ar (irk 5 (.n 43 (.b false) (.n 44 (.p b 0) (.n 45 (.i v) .r))) (ic [1,1,1,1] (Zfh b ga gb gc n L ln am v (hlk:=hlk) (hq:=(fun y hy=>by have h1:=hk.nn y hy;have h2:=hk.bd y hy;omega))) ?_))))))
  rintro _ _ ⟨rfl,rfl⟩
  refine Z2h [(0,.p b 0),(1,.i op),(2,.i v),(7,.p b1 0),(62,.b ((!decide (1≤gI L.own v))||((op==17)&&(decide (xt≥0)))))] [.obj b [Z2 n.decls,nSg3 (n.routines.map Z4),nInt ln,nArm am,.h ga,.h gb,.h gc],rV ga ((decL L v).vars),rV gb ((decL L v).own),rV gc ((decL L v).tok),.obj b1 [.i a1.mat,.i a1.fst,nInt a1.fds,.b a1.chg]] ?_ ?_
  ·refine ir 3 [(0,.p b 0),(1,.i op),(2,.i v),(7,.p b1 0),(49,.b (!decide (1≤gI L.own v)))] (ib (b:=(!decide (1≤gI L.own v))) 49 (fun hb1=>?_) (fun hb1=>?_))
   ·have hp5:¬(decide (1≤gI L.own v)=true):=((Zg Iff.rfl)).1 hb1
    refine irk 13 (.n 62 (.b true) (.d (.k (.k (.k (.k .z)))))) (ie ?_)
    exact wk [0,0,0,0,0] (fr (fr (fr (fr (fc (x:=.b true) (lb (by simp only [hb1];rfl)) fl)))))
   have hp6:¬(¬(decide (1≤gI L.own v)=true)):=Zj (Zg Iff.rfl) hb1
   refine irk 3 (.n 52 (.b (op==17)) (.k (.k (.k (.k (.k .z)))))) (ib (b:=(op==17)) 52 (fun hb2=>?_) (fun hb2=>?_))
   ·have hp7:op=17:=(beq_iff_eq).1 hb2
    refine irK 5 (.n 56 (.h gc) (.n 57 (.i v) (.k (.d .r)))) [0] [b] (is_ (vIdx 3 gc ((decL L v).tok) v v.toNat (hq:=rfl)) (ix_ (vGet 3 gc ((decL L v).tok) v.toNat xt hxt) (irk 3 (.n 62 (.b (decide (xt≥0))) .r) (ie ?_))))
    exact wk [0,0,0,0,0] (fr (fr (fr (fr (fc (x:=.b (decide (xt≥0))) (lb (by simp only [hb1,hb2];rfl)) fl)))))
   have hp8:¬(op=17):=Zj beq_iff_eq hb2
   refine irk 10 (.n 62 (.b false) (.k (.d .r))) (ie ?_)
   exact wk [0,0,0,0,0] (fr (fr (fr (fr (fc (x:=.b false) (lb (by simp only [hb1,hb2];rfl)) fl)))))
  refine ac ((!decide (1≤gI L.own v))||((op==17)&&(decide (xt≥0)))) (p:=(¬(decide (1≤gI L.own v)=true))∨((op=17)∧(xt≥0))) (Zf (Zg Iff.rfl) (Zo beq_iff_eq decide_eq_true_iff)) (fun hc4=>?_) (fun hc4=>?_)
  ·refine ar (ir 1 [(6,.b false)] (ie ?_))
   exact at_ (r1 [] (.inr ⟨rfl,rfl,(by rw [hO,if_pos (hc4.imp (fun h g=>h (decide_eq_true g)) id)])⟩))
  have hG:¬(¬1≤gI L.own v∨(op=17∧xt≥0)):=fun z=>hc4 (z.imp (fun h g=>h (of_decide_eq_true g)) id)
  have hbd:=Z02k hk (Classical.not_not.1 fun z=>hG (.inl z)) hi
  refine ak (aq (ar (iR 1 [(0,.p b 0),(1,.i op),(2,.i v),(7,.p b1 0),(63,.agg [.i a1.mat,.i a1.fst,nInt a1.fds,.b a1.chg])] [4] [b1] (ic [] (Z3w a1) ?_))))
  rintro _ _ ⟨rfl,rfl⟩
  refine io (.i (((Z20 a1.fds a1.fst).length:Nat):Int)) (.i (((Z6 (Z20 a1.fds a1.fst)).length:Nat):Int)) (li (by rw [Z5])) (irk 1 (.n 66 (.i 0) .r) (ie (ab 1 (al (fun m F h=>∃(k:Nat) (o:List Int),(k≤(Z20 a1.fds a1.fst).length)∧(o.length=L.vars.length)∧(∀y∈o,0≤y∧y≤q+k)∧(Zr8 o ((Z20 a1.fds a1.fst).drop k)=addF (decL L v).own a1.fst a1.fds)∧F=[(0,.p b 0),(1,.i op),(2,.i v),(7,.p b1 0),(64,nInt (Z20 a1.fds a1.fst)),(65,.i (((Z20 a1.fds a1.fst).length:Nat):Int)),(66,.i k)]∧h=[.obj b [Z2 n.decls,nSg3 (n.routines.map Z4),nInt ln,nArm am,.h ga,.h gb,.h gc],rV ga ((decL L v).vars),rV gb o,rV gc ((decL L v).tok),.obj b1 [.i a1.mat,.i a1.fst,nInt a1.fds,.b a1.chg]]∧m=(Z20 a1.fds a1.fst).length-k) _ _ _ ⟨0,(decL L v).own,ob,ob,(fun y hy=>by have:=hbd y hy;omega),(by rw [List.drop_zero];exact Zxe),rfl,rfl,rfl⟩ (wk [0,0,0,0,0] (fr (fr (fr (fr (fr (fr (fc (x:=.i 0) li fl)))))))) ?_))))
  rintro m F h ⟨k,o,c0_0,c0_1,c0_2,c0_3,rfl,rfl,rfl⟩
  refine ar (irk 1 (.n 67 (.b (decide ((k:Int)<(((Z20 a1.fds a1.fst).length:Nat):Int)))) .r) (ie (aq (ac (decide ((k:Int)<(((Z20 a1.fds a1.fst).length:Nat):Int))) decide_eq_true_iff (fun hc5=>?_) (fun hc5=>?_)))))
  ·refine ak (aq (ab 2 (ar ?_)))
   obtain ⟨x1,hx1⟩:=Z9 (xs:=(Z20 a1.fds a1.fst)) (j:=k) om
   have hfm:=Zgt (List.mem_of_getElem? hx1)
   refine is_ (Z0 (es:=Z6 (Z20 a1.fds a1.fst)) (hv:=none) (j:=(k:Int)) (sz:=1) (y:=.i x1) kr om (Za hx1) rfl) (irk 2 (.n 10 (.i x1) .r) (ie (az (irK 5 (.n 73 (.h gb) (.n 74 (.i x1) .r)) [0] [b] (is_ (vIdx 2 gb o x1 x1.toNat (hq:=rfl)) ?_)))))
   obtain ⟨x2,hx2⟩:=Z9 (xs:=o) (j:=x1.toNat) om
   have hy2:=c0_2 _ (List.mem_of_getElem? hx2)
   have hgx:=Z5e hx2
   refine ix_ (vGet 2 gb o x1.toNat x2 hx2) (ia ((x2+1)) ((x2)+(1)) (is_ (vIdx 2 gb o x1 x1.toNat (hq:=rfl)) (iVS 2 gb o x1.toNat (x2+1) (ie (az (ia (((k+1:Nat):Int)) (((k:Int))+(1)) (irk 1 (.n 66 (.i (k+1:Nat)) (.p (.p (.p (.p (.p (.d (.d (.d (.p (.d (.k (.k (.k (.k (.k (.k .z))))))))))))))))) (ie ?_))))))))
   exact ⟨_,_,_,ob,⟨k+1,(o.set x1.toNat (x2+1)),ob,(by simp [c0_1]),(by intro y hy;rcases Z3a hy with hy|rfl<;>first|(have:=c0_2 y hy;omega)|omega),(Zzz hx1 hgx c0_3),rfl,rfl,rfl⟩,(wk [1,1,0,0,0] (fr (fr (fr (fr (fr (fr (fc (x:=.i (k+1:Nat)) li fl))))))))⟩
  refine ax 1 (aq (ar (irk 2 (.n 81 (.b (op==17)) .r) (ie (ac (op==17) beq_iff_eq (fun hc6=>?_) (fun hc6=>?_))))))
  ·refine aE 10 (dT (fuel:=3) 10 [0,1,2,3,4,5,6] [(85,.h gc),(86,.i v),(88,nInt a1.fds)] [0,4] [b,b1] (dn 7 (.i a1.fds.length) (.i (((Z6 a1.fds).length:Nat):Int)) (li (by rw [Z5])) (dx 8 (vIdx 3 gc ((decL L v).tok) v v.toNat (hq:=rfl)) (do_ 9 (dVS 9 3 [] [] gc ((decL L v).tok) v.toNat (a1.fds.length:Int) (de (ar (ir 1 [(6,.b true)] (ie ?_)))))))))
   have hE:=Zph om c0_3
   exact at_ (r1 [1,1,1,0] (.inl ⟨(Led.mk L.vars o L.par L.con L.fst (L.tok.set v.toNat a1.fds.length)),rfl,rfl,(by rw [hO,if_neg hG,if_pos hc6,hE];rfl)⟩) (eq:=(rc (rv (xs:=(decL L v).vars) ob (rv (xs:=o) ob (rv (xs:=(((decL L v).tok).set v.toNat (a1.fds.length:Int))) ob rz))))))
  refine ak (ar (ir 1 [(6,.b true)] (ie ?_)))
  have hE:=Zph om c0_3
  exact at_ (r1 [0,0,0,0] (.inl ⟨(Led.mk L.vars o L.par L.con L.fst L.tok),rfl,rfl,(by rw [hO,if_neg hG,if_neg hc6,hE];rfl)⟩) (eq:=(rc (rv (xs:=(decL L v).vars) ob (rv (xs:=o) ob (rv (xs:=(decL L v).tok) ob rz))))))
 refine irk 3 (.n 39 (.agg [.i 0,.i 0,oInt [] (.slice none 0 0),.b false]) (.n 40 (.b false) .r)) (iA [.i 0,.i 0,.sl [] (some (.slice none 0 0)),.b false] ?_)
 intro b2
 refine iS 0 b2 0 [.i 0,.i 0,oInt [] (.slice none 0 0),.b false] [.i 0,.i 0,.sl [] (some (.slice none 0 0)),.b false] [.i 0,.i 0,oInt [] (.slice none 0 0),.b false] (irk 1 (.n 8 (.b false) .r) (ie (aq (ar (irk 22 (.n 62 (.b true) .r) (ie (ac1 (ar (ir 1 [(6,.b false)] (ie ?_))))))))))
 exact at_ (r1 [] (.inr ⟨rfl,rfl,((Zpj (n:=n) (ln:=ln) hc1 hc3).trans (Zj7 har hi hp4))⟩))
end Go.Abs
end
