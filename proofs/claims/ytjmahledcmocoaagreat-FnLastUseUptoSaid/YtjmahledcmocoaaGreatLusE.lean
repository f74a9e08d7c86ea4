/-
  FnLastUseUptoSaid: the law FnLastUse returns true at every argument of bulk at most 1048576, and the argument reads behind the call as it read before.
-/
import Derived.Test.YtjmahledcmocoaaGreatLusD
import Derived.Shelf.Sort.Plain
import Derived.Shelf.Slices.CompactI
import Derived.Ground.NamesProg
import Derived.Ground.Names2Prog
import Derived.Test.YtjmahledcmocoaaGreatProg
import Derived.Test.YtjmahledcmocoaaGreatRows
import Derived.WalkKit
import Derived.ProofKit
import Derived.OpenShut
import Derived.JoinedCond
import Derived.ReadAgain
set_option linter.all false
set_option linter.unusedVariables false
set_option linter.unusedSimpArgs false
set_option linter.unusedSectionVars false
set_option maxRecDepth 10000
set_option maxHeartbeats 4000000
section
namespace Go.Proofs
open Go.Shelf
def Tryz.lays189_ren:Go.Shelf.Ren:=⟨fun|189=>105|125=>141|257=>140|128=>189|129=>190|294=>180|295=>181|296=>182|297=>183|298=>184|299=>185|216=>186|300=>187|301=>188|328=>236|329=>237|330=>238|331=>239|332=>240|215=>241|343=>277|n=>n,fun|28=>31|3=>3|46=>145|0=>0|51=>188|53=>190|4=>4|183=>181|182=>180|131=>127|5=>5|9=>9|218=>218|222=>113|228=>246|229=>247|n=>n,fun|n=>n⟩
theorem Tryz.lays189:Go.Proofs.Lays.n189 Tryz.prog Tryz.lays189_ren:={
 mixed:=by kernel_rfl
 f125:=Tryz.func141.trans (congrArg some (by kernel_rfl))
 f128:=Tryz.func189.trans (congrArg some (by kernel_rfl))
 f129:=Tryz.func190.trans (congrArg some (by kernel_rfl))
 f189:=Tryz.func105.trans (congrArg some (by kernel_rfl))
 f215:=Tryz.func241.trans (congrArg some (by kernel_rfl))
 f216:=Tryz.func186.trans (congrArg some (by kernel_rfl))
 f257:=Tryz.func140.trans (congrArg some (by kernel_rfl))
 f294:=Tryz.func180.trans (congrArg some (by kernel_rfl))
 f295:=Tryz.func181.trans (congrArg some (by kernel_rfl))
 f296:=Tryz.func182.trans (congrArg some (by kernel_rfl))
 f297:=Tryz.func183.trans (congrArg some (by kernel_rfl))
 f298:=Tryz.func184.trans (congrArg some (by kernel_rfl))
 f299:=Tryz.func185.trans (congrArg some (by kernel_rfl))
 f300:=Tryz.func187.trans (congrArg some (by kernel_rfl))
 f301:=Tryz.func188.trans (congrArg some (by kernel_rfl))
 f328:=Tryz.func236.trans (congrArg some (by kernel_rfl))
 f329:=Tryz.func237.trans (congrArg some (by kernel_rfl))
 f330:=Tryz.func238.trans (congrArg some (by kernel_rfl))
 f331:=Tryz.func239.trans (congrArg some (by kernel_rfl))
 f332:=Tryz.func240.trans (congrArg some (by kernel_rfl))
 f343:=Tryz.func277.trans (congrArg some (by kernel_rfl))
 t0:=Tryz.underlying0
 a0:=Tryz.isAgg0
 z0:=Tryz.sizeOf0
 v0:=Tryz.zeroValue0
 t3:=Tryz.underlying3
 a3:=Tryz.isAgg3
 z3:=Tryz.sizeOf3
 v3:=Tryz.zeroValue3
 t4:=Tryz.underlying4
 a4:=Tryz.isAgg4
 z4:=Tryz.sizeOf4
 v4:=Tryz.zeroValue4
 t5:=Tryz.underlying5
 a5:=Tryz.isAgg5
 z5:=Tryz.sizeOf5
 v5:=Tryz.zeroValue5
 t9:=Tryz.underlying9
 a9:=Tryz.isAgg9
 z9:=Tryz.sizeOf9
 v9:=Tryz.zeroValue9
 t28:=Tryz.underlying31
 a28:=Tryz.isAgg31
 z28:=Tryz.sizeOf31
 v28:=Tryz.zeroValue31
 t46:=Tryz.underlying145
 a46:=Tryz.isAgg145
 z46:=Tryz.sizeOf145
 v46:=Tryz.zeroValue145
 t51:=Tryz.underlying188
 a51:=Tryz.isAgg188
 z51:=Tryz.sizeOf188
 v51:=Tryz.zeroValue188
 t53:=Tryz.underlying190
 a53:=Tryz.isAgg190
 z53:=Tryz.sizeOf190
 v53:=Tryz.zeroValue190
 t131:=Tryz.underlying127
 a131:=Tryz.isAgg127
 z131:=Tryz.sizeOf127
 v131:=Tryz.zeroValue127
 t182:=Tryz.underlying180
 a182:=Tryz.isAgg180
 z182:=Tryz.sizeOf180
 v182:=Tryz.zeroValue180
 t183:=Tryz.underlying181
 a183:=Tryz.isAgg181
 z183:=Tryz.sizeOf181
 v183:=Tryz.zeroValue181
 t218:=Tryz.underlying218
 a218:=Tryz.isAgg218
 z218:=Tryz.sizeOf218
 v218:=Tryz.zeroValue218
 t222:=Tryz.underlying113
 a222:=Tryz.isAgg113
 z222:=Tryz.sizeOf113
 v222:=Tryz.zeroValue113
 t228:=Tryz.underlying246
 a228:=Tryz.isAgg246
 z228:=Tryz.sizeOf246
 v228:=Tryz.zeroValue246
 t229:=Tryz.underlying247
 a229:=Tryz.isAgg247
 z229:=Tryz.sizeOf247
 v229:=Tryz.zeroValue247 }
def Tryz.lays20_ren:Go.Shelf.Ren:=⟨fun|20=>106|n=>n,fun|22=>31|3=>3|4=>4|0=>0|n=>n,fun|n=>n⟩
theorem Tryz.lays20:Go.Proofs.Lays2.n20 Tryz.prog Tryz.lays20_ren:={
 mixed:=by kernel_rfl
 f20:=Tryz.func106.trans (congrArg some (by kernel_rfl))
 t0:=Tryz.underlying0
 a0:=Tryz.isAgg0
 z0:=Tryz.sizeOf0
 v0:=Tryz.zeroValue0
 t3:=Tryz.underlying3
 a3:=Tryz.isAgg3
 z3:=Tryz.sizeOf3
 v3:=Tryz.zeroValue3
 t4:=Tryz.underlying4
 a4:=Tryz.isAgg4
 z4:=Tryz.sizeOf4
 v4:=Tryz.zeroValue4
 t22:=Tryz.underlying31
 a22:=Tryz.isAgg31
 z22:=Tryz.sizeOf31
 v22:=Tryz.zeroValue31
 i3:=by kernel_rfl }
theorem Tryz.sort_int (blk off cap:Nat) (zs:List Int) (w:World) (hH:Go.Sort.Holds (Value.int .i64) w blk off zs.toArray) (hblk:blk<w.heap.size) (hsz:zs.length<4611686018427387904) :
  Calls Tryz.prog 105 #[.slice (some ⟨blk,off,none⟩) zs.length cap] w fun e w'=>
   e=.returned (.tuple #[])∧∃n os,w'=Go.Sort.grow (Go.Sort.putRow (Value.int .i64) (Go.Sort.ahead w n) blk off (zs.mergeSort fun x y=>decide (x≤y)).toArray) os:=Any.slices_Sort_int Tryz.lays189 blk off cap zs w hH hblk hsz
theorem Tryz.compact_int (blk off cap:Nat) (zs:List Int) (w:World) (hH:Go.Sort.Holds (Value.int .i64) w blk off zs.toArray) (hsz:zs.length≤9223372036854775807) (hcap:zs.length≤cap) :
  Calls Tryz.prog 106 #[.slice (some ⟨blk,off,none⟩) zs.length cap] w fun e w'=>e=.returned (.slice (some ⟨blk,off,none⟩) (Lib.compact zs).length cap)∧∃q,w'=Go.Sort.putRow (Value.int .i64) (Go.Sort.ahead w q) blk off (Lib.compact zs++List.replicate (zs.length-(Lib.compact zs).length) 0).toArray:=
 Any.slices_Compact_int Tryz.lays20 blk off cap zs w hH hsz hcap
end Go.Proofs
end
namespace Go.Abs
open Go.Proofs
theorem M4:∀{w:World} {G:ZY} (ys:LI),Yz w G (Z7 ys) (ys.map (fun z=>Value.int .i64 z))
 | _,_,[]=>.nil
 | _,_,_::r=>.cons .val (M4 r)
theorem IK:∀{w:World} {G:ZY} {ys:LI} {vs:List Value},Yz w G (Z7 ys) vs->vs=ys.map (fun z=>Value.int .i64 z)
 | _,_,[],_,.nil=>rfl
 | _,_,_::r,_,.cons h t=>by rw [Uf,<-IK (ys:=r) t,h.val_inv]
theorem LS {w w':World} {G:ZY} {g cap q:Nat} {xs ys:LI} {zs:Array Int} {os:Array Obj} (hh:Yj w G [.vec (.slice (some ⟨g,0,none⟩) xs.length cap) (Z7 xs)])
  (he:w'=Sort.grow (Sort.putRow (Value.int .i64) (Sort.ahead w q) g 0 zs) os) (hz:zs.size=xs.length) (hy:ys.length<=xs.length) (hv:∀j,j<ys.length->zs[j]! = ys[j]!) :
  Yj w' G [.vec (.slice (some ⟨g,0,none⟩) ys.length cap) (Z7 ys)]/\YO w G [.vec (.slice (some ⟨g,0,none⟩) xs.length cap) (Z7 xs)] w' G [.vec (.slice (some ⟨g,0,none⟩) ys.length cap) (Z7 ys)]:=by
 have hmem:Res.vec (.slice (some ⟨g,0,none⟩) xs.length cap) (Z7 xs)∈[Res.vec (.slice (some ⟨g,0,none⟩) xs.length cap) (Z7 xs)]:=YZ ..
 rcases hh.ok _ hmem with ⟨e,_⟩|⟨g',cap',cur,el,e,h1,h2,h3,h4⟩
 ·cases e
 ·have h2':xs.length<=cap:=by
   have:=e;simp only [Value.slice.injEq,XQ,Addr.mk.injEq] at this
   rw [Ye] at h2;omega
  have e':=e
  simp only [Value.slice.injEq,XQ,Addr.mk.injEq,and_true] at e'
  obtain ⟨rfl,hl,rfl⟩:=e'
  have hg:g<w.heap.size:=(Vs.1 h1).1
  have hgs:(Sort.putRow (Value.int .i64) (Sort.ahead w q) g 0 zs).heap.size=w.heap.size:=by rw [Sort.size_putRow];rfl
  have Ac:∀c,c<w.heap.size->w'.heap[c]? = (Sort.putRow (Value.int .i64) (Sort.ahead w q) g 0 zs).heap[c]?:=fun c hc=>by
   rw [he];exact Sort.heap_grow_old _ _ (by rw [hgs];exact hc)
  have hot:∀c,c<w.heap.size->c≠g->w'.heap[c]? = w.heap[c]?:=fun c hc hne=>by
   rw [Ac c hc]
   simp only [Sort.putRow,Sort.mapBlock,Array.getElem?_modify,Zp (Ne.symm hne)]
   rfl
  have hat:w'.heap[g]? = some (.cells (Sort.putCells (Value.int .i64) 0 zs cur) el (0,0)):=by
   rw [Ac g hg]
   simp only [Sort.putRow,Sort.mapBlock,Array.getElem?_modify,if_true]
   show Option.map _ w.heap[g]? = _
   rw [h1];rfl
  have hcs:(Sort.putCells (Value.int .i64) 0 zs cur).size=cur.size:=by simp [Sort.putCells]
  have htk:(Sort.putCells (Value.int .i64) 0 zs cur).toList.take ys.length=ys.map (fun z=>Value.int .i64 z):=by
   apply List.ext_getElem?
   intro j
   rw [T5,Br,QL]
   split
   ·rename_i hj
    have hjc:j<cur.size:=by omega
    simp only [Sort.putCells,Array.getElem?_mapIdx,Array.getElem?_eq_getElem hjc,Bu,Wv,Nat.sub_zero]
    rw [Zw ⟨T7 _,by omega⟩,hv j hj,TM hj,getElem!_pos ys j hj]
    rfl
   ·rename_i hj
    simp [GU (Nat.le_of_not_lt hj)]
  have hio:w'.os=w.os/\w'.tape=w.tape/\w'.output=w.output:=by subst he;exact ⟨rfl,rfl,rfl⟩
  have X6:w.heap.size<=w'.heap.size:=by rw [he,Sort.size_grow,hgs];omega
  refine ⟨⟨fun r hr=>?_,JL _ _,fun r hr c j hf hg2=>?_,fun c j hg2=>?_⟩,
   ⟨hio.1,hio.2.1,hio.2.2,X6,fun _ _ h=>h,fun c hc=>?_,fun _ _ _ h=>.inl h,fun c j hc ⟨r,hr,hf⟩=>?_⟩⟩
  ·rw [Xp.1 hr]
   refine .inr ⟨g,cap,_,el,by rw [Ye],hat,by rw [Ye];omega,hcs.trans h3,?_⟩
   rw [Ye,htk]
   exact M4 ys
  ·rw [Xp.1 hr] at hf
   exact hh.prot _ hmem c j hf hg2
  ·have:=hh.lt c j hg2;omega
  ·by_cases hcg:c=g
   ·subst hcg
    exact .inr ⟨cur,_,el,(0,0),h1,hat,hcs,fun o hn=>absurd ⟨_,hmem,rfl⟩ hn⟩
   ·exact .inl (hot c hc hcg)
  ·rw [Xp.1 hr] at hf
   exact ⟨_,hmem,hf⟩
theorem Iw {w:World} {G:ZY} {g cap:Nat} {xs:LI} {r:List Res} (hh:Yj w G (.vec (.slice (some ⟨g,0,none⟩) xs.length cap) (Z7 xs)::r)) :
  Sort.Holds (Value.int .i64) w g 0 xs.toArray/\g<w.heap.size/\xs.length<=cap:=by
 rcases hh.ok _ (YZ ..) with ⟨e,_⟩|⟨g',cap',cur,el,e,h1,h2,h3,h4⟩
 ·cases e
 ·simp only [Value.slice.injEq,XQ,Addr.mk.injEq,and_true] at e
  obtain ⟨rfl,hl,rfl⟩:=e
  rw [Ye] at h2 h4
  have hx:=IK h4
  refine ⟨fun j hj=>⟨?_,?_⟩,(Vs.1 h1).1,h2⟩
  ·have hj':j<xs.length:=by simpa using hj
   rw [Wv,cell_of_row w _ j cur el (0,0) h1,<-Br]
   have h6:(cur.toList.take xs.length)[j]? = some (Value.int .i64 xs[j]):=by rw [hx,QL,TM hj'];rfl
   rw [T5,Zw hj'] at h6
   rw [h6]
   simp [hj']
  ·exact frozen_of_row w _ _ cur el h1
theorem Z3o (g:Hd) (xs:LI) (hl:xs.length<=1000000000) (hne:xs≠[]):W3 Tryz.prog 105 [.h g] [rV g xs] (fun r h=>h=[rV g (xs.mergeSort fun x y=>decide (x<=y))]):=by
 intro w G vs ha hh
 have hvs:vs=[g.v]:=by
  cases ha with
  | cons h1 t=>cases t;rw [h1.val_inv]
 subst hvs
 rcases hh.ok _ (YZ ..) with ⟨e,h0⟩|⟨b,cap,cur,el,e,_⟩
 ·exact absurd (by cases xs with|nil=>rfl|cons _ _=>simp [Z7] at h0) hne
 ·rw [Ye] at e
  obtain ⟨ga,gl,gc⟩:=g
  simp only [Hd.v,Value.slice.injEq] at e
  obtain ⟨rfl,rfl,rfl⟩:=e
  obtain ⟨k1,k2,k3⟩:=Iw hh
  refine (Tryz.sort_int b 0 gc xs w k1 k2 om).mono ?_
  rintro e w' ⟨rfl,q,os,he⟩
  have hlen:(xs.mergeSort fun x y=>decide (x<=y)).length=xs.length:=List.length_mergeSort _
  obtain ⟨m1,m2⟩:=LS (ys:=xs.mergeSort fun x y=>decide (x<=y)) hh he (by simp) om (fun j hj=>by simp [hj])
  rw [hlen] at m1 m2
  exact ⟨_,.tup [],_,G,rfl,rfl,.tup .nil,m1,m2⟩
theorem OY (g:Hd) (xs:LI) (hl:xs.length<=1000000000) (hne:xs≠[]):W3 Tryz.prog 106 [.h g] [rV g xs] (fun r h=>∃u:Hd,r=.h u/\h=[rV u (Lib.compact xs)]):=by
 intro w G vs ha hh
 have hvs:vs=[g.v]:=by
  cases ha with
  | cons h1 t=>cases t;rw [h1.val_inv]
 subst hvs
 rcases hh.ok _ (YZ ..) with ⟨e,h0⟩|⟨b,cap,cur,el,e,_⟩
 ·exact absurd (by cases xs with|nil=>rfl|cons _ _=>simp [Z7] at h0) hne
 ·rw [Ye] at e
  obtain ⟨ga,gl,gc⟩:=g
  simp only [Hd.v,Value.slice.injEq] at e
  obtain ⟨rfl,rfl,rfl⟩:=e
  obtain ⟨k1,k2,k3⟩:=Iw hh
  refine (Tryz.compact_int b 0 gc xs w k1 om k3).mono ?_
  rintro e w' ⟨rfl,q,he⟩
  have hlen:(Lib.compact xs).length<=xs.length:=by
   have:=List.length_filter_le (Lib.keeps xs.toArray) (List.range xs.length)
   simpa [Lib.compact,Lib.compactUpTo] using this
  obtain ⟨m1,m2⟩:=LS (ys:=Lib.compact xs) (os:=#[]) hh (he.trans (Sort.grow_empty _).symm) (by simp;omega) hlen (fun j hj=>by
   rw [getElem!_pos _ j (by simp;omega),getElem!_pos _ j hj]
   simp [List.getElem_append,hj])
  exact ⟨_,_,_,G,rfl,⟨⟨some ⟨b,0,none⟩,(Lib.compact xs).length,gc⟩,rfl,rfl⟩,.val,m1,m2⟩
abbrev Mem:=Nat->Nat->Option Value
abbrev JO:=Nat × Nat
def upd (m:Mem) (a:JO) (z:Int):Mem:=fun g o=>if g=a.1/\o=a.2 then some (.int .i64 z) else m g o
def wr (m:Mem):List JO->Int->Mem
 | [],_=>m
 | a::r,k=>wr (upd m a k) r (k+1)
def Ac (m:Mem):List JO->Int->Prop
 | [],_=>True
 | a::r,k=>m a.1 a.2=some (.int .i64 k)/\Ac m r (k+1)
def IN (m:Mem) (a:JO):Prop:=∃z,m a.1 a.2=some (.int .i64 z)
structure Kp (m m':Mem):Prop where
 i:∀{a:JO},IN m a->IN m' a
 h:∀{g o:Nat} {v:Value},m g o=some v->(∀z,v≠.int .i64 z)->m' g o=some v
section
variable {P:Program} {n:Nat} {ops:Array Oper} {B:Fr->List Res->Prop} {k:Nat} {F:Fr} {h h2:List Res}
end
section
variable {m m':Mem} {B:List Nat}
end
section
variable {m:Mem} {B:List Nat} {g:Nat}
end
section
variable {m:Mem} {B:List Nat}
end
def Zn (g lo hi:Nat) (X:List Nat) (a:JO):Prop:=(a.1=g/\lo<=a.2/\a.2<hi)∨a.1∈X
structure Nd (g lo hi:Nat) (X:List Nat) (as1:List JO):Prop where
 nd:(X.Nodup/\g∉X)->as1.Nodup
 zn:∀a∈as1,Zn g lo hi X a
section
variable {m:Mem} {B:List Nat}
end
def GB (B:List Nat):ZY:=fun b _=>b∈B
section
variable {w:World} {G:ZY} {B:List Nat}
end
section
variable {w:World} {G:ZY} {B:List Nat}
def Iv:Value->Hd
 | .slice a l c=>⟨a,l,c⟩
 | _=>⟨none,0,0⟩
abbrev av (y:NI):AV:=.agg [.h (Iv y.dv),.h (Iv y.rv)]
end
def NM (B:List Nat) (m:Mem) (x:AV) (u:Value):Prop:=
 ∀w:World,(∀b∈B,∃cs e,w.heap[b]? = some (.cells cs e (0,0))/\∀o,cs[o]? = m b o)->RV w (GB B) x u
inductive Bv (bs:List Res):List AV->List AV->Prop
 | nil:Bv bs [] []
 | same {x as1 xs} (t:Bv bs as1 xs):Bv bs (x::as1) (x::xs)
 | gen {B m x a u as1 xs} (h:Res.own B m∈bs) (hr:NM B m x u) (ha:∀w G v,RV w G a v->v=u) (t:Bv bs as1 xs):Bv bs (a::as1) (x::xs)
section
variable {P:Program} {n:Nat} {ops:Array Oper} {B:Fr->List Res->Prop} {k:Nat} {F:Fr} {h:List Res}
end
end Go.Abs
section
namespace Go.Abs
section
variable {P:Program} {n:Nat} {ops:Array Oper} {B:Fr->List Res->Prop} {k:Nat} {F:Fr} {h:List Res}
end
end Go.Abs
namespace Go.Abs
end Go.Abs
namespace Go.Abs
end Go.Abs
end
namespace Go.Abs
open Go.Proofs
theorem Mz (v:Int) (q:Nat) (g:Hd) (xs:LI) (hl:xs.length<=1000000000:=by exact ob):Zf 104 [.i v,.p q 0] [.obj q [.h g],rV g xs] (fun r h=>∃(w:Hd),h=[.obj q [.h w],rV w (xs++[v])]):=by
 exact ZD 7 Tryz.func104 (az (ZU 2 [0] (iL (Z7 [v]) 1 1 fun v1=>ZE 0 [(5,Z6 [v])] (K3 2 g xs [v] none fun v2=>ZA 2 q [.h v2] (ie (r2 [0,0] [] ⟨v2,rfl⟩ (lr _)))))))
theorem Z67 (s:Z3) (q:Nat) (g:Hd) (xs:LI) (ih:∀(b2:Z4) (k2:Nat) (q:Nat) (g:Hd) (xs2:LI),(b2.sz<s.sz)->(k2<=b2.steps.length)->(xs2.length+b2.sz<=1000000000)->Zf 64 [ZC b2,.i k2,.val (.func (.func 104) #[] #[.pointer (some ⟨q,0,none⟩)])] [.obj q [.h g],rV g xs2] (fun r h=>∃(w:Hd),h=[.obj q [.h w],rV w (xs2++(Xj (b2.steps.drop k2)++[b2.result]))])) (hz:xs.length+s.sz<=1000000000):Zf 102 [Ym s,.val (.func (.func 104) #[] #[.pointer (some ⟨q,0,none⟩)])] [.obj q [.h g],rV g xs] (fun r h=>∃(w:Hd),h=[.obj q [.h w],rV w (xs++vS s)]):=by
 have hkz:=U8 s
 have haz:=T9 s
 have hse:=s.sz_eq
 refine ZD 33 Tryz.func102 (ar (iA (Xf s) fun b1=>ie (Y6 2 [0] (Zu [] (IG s.op) (ie (ac (YP s.op) Iff.rfl (fun Z9=>?_) (fun Z9=>?_)))))))
 ·exact ZK (r2 [1,1] [] ⟨g,rfl⟩ (lr _) (eq:=(rc (rv (xs:=xs) (by rw [Bp,Zw (by assumption),T4]) rz))))
 refine ak (Y6 2 [0] (iw (Ye s.args) (Z1 (ab 0 (Y0 (fun fz gz m F h=>∃(j:Nat) (ys:LI) (u:Hd),(j<=s.args.length)/\(ys.length=xs.length+j)/\(ys++s.args.drop j=xs++s.args)/\F=sF [1,2,12,13] fz [(14,.i j)]/\h=[Za gz 0,.obj q [.h u],rV u ys]/\m=s.args.length-j) _ _ _ ⟨0,xs,g,ob,ob,rfl,rfl,rfl,rfl⟩ (ZV 3 (Yd fl)) ?_)))))
 rintro m F h ⟨j,ys,u,Yf,Zi,Zr,rfl,rfl,rfl⟩
 refine Ya (aq (VA ((j:Int)<(s.args.length:Int)) (fun Zg=>?_) (fun Zg=>?_)))
 ·refine ak (aq (ab 1 (ar ?_)))
  obtain ⟨x1,Z5⟩:=Zq s.args j om
  refine Zm (Zh none (j:Int) 1 (ZZ Z5)) (Z1 (az (Z2 2 (ic [1,1] (Mz x1 q u ys) ?_))))
  rintro _ _ ⟨w1,rfl⟩
  exact ie (az (ZG j (Z1 (ZI ⟨j+1,(ys++[x1]),w1,ob,(by simp;omega),(by rw [Yo Z5] at Zr;rw [<-Zr];simp),rfl,rfl,rfl⟩ (wk [2,0,0] (ZL j fl))))))
 have hA:ys=xs++s.args:=by rw [Xz om,T4] at Zr;exact Zr
 refine ax 0 (Zo 2 [0] (iw (Vk s.kids) (Z1 (ab 2 (Y0 (fun fz gz m F h=>∃(i:Nat) (zs:LI) (u2:Hd),(i<=s.kids.length)/\(zs.length+YK (s.kids.drop i)<=xs.length+s.args.length+YK s.kids)/\(zs++Ww (s.kids.drop i)=ys++Ww s.kids)/\F=sF [1,23,24] fz [(25,.i i)]/\h=[.obj q [.h u2],rV u2 zs]/\m=s.kids.length-i) _ _ _ ⟨0,ys,u,ob,(by rw [TL];omega),rfl,rfl,rfl,rfl⟩ (wk [1,1] (Yd fl)) ?_)))))
 rintro m F h ⟨i,zs,u2,VZ,Wi,Xs,rfl,rfl,rfl⟩
 refine Ya (aq (VA ((i:Int)<(s.kids.length:Int)) (fun ZF=>?_) (fun ZF=>?_)))
 ·refine ak (aq (ab 3 (ar ?_)))
  obtain ⟨x2,Zv⟩:=Zq s.kids i om
  have hks:=VS Zv
  have hbd:=Ey Zv
  refine Zm (Zh none (i:Int) 2 (Vv Zv)) (Z2 1 (iA [nl,.i 0] fun b2=>ZA 0 b2 (YI x2) (ie (az (ZU 2 [0] (ic [1,1] (ih x2 0 q u2 zs ob (T7 _) ob) ?_))))))
  rintro _ _ ⟨w2,rfl⟩
  exact ie (az (ZG i (Z1 (ZI ⟨i+1,(zs++(Xj (x2.steps.drop 0)++[x2.result])),w2,ob,(by have h1:=Cq x2;rw [At] at h1;simp only [Yk,TL] at h1 ⊢;omega),(by have h1:=Z5x Zv Xs;rw [At] at h1;exact h1),rfl,rfl,rfl⟩ (wk [0,0] (ZL i fl))))))
 exact ax 2 (r2 [0,0] [] ⟨u2,rfl⟩ (lr _) (eq:=(rc (rv (xs:=zs) (by rw [Bp,Zp (by assumption),<-VN,<-hA];exact Z5w om Xs) rz))))
theorem Z6a (b:Z4) (k0:Nat) (q:Nat) (g:Hd) (xs:LI) (ih:∀(s2:Z3) (q:Nat) (g:Hd) (xs2:LI),(s2.sz<b.sz)->(xs2.length+s2.sz<=1000000000)->Zf 102 [Ym s2,.val (.func (.func 104) #[] #[.pointer (some ⟨q,0,none⟩)])] [.obj q [.h g],rV g xs2] (fun r h=>∃(w:Hd),h=[.obj q [.h w],rV w (xs2++vS s2)])) (hk:k0<=b.steps.length) (hz:xs.length+b.sz<=1000000000):Zf 64 [ZC b,.i k0,.val (.func (.func 104) #[] #[.pointer (some ⟨q,0,none⟩)])] [.obj q [.h g],rV g xs] (fun r h=>∃(w:Hd),h=[.obj q [.h w],rV w (xs++(Xj (b.steps.drop k0)++[b.result]))]):=by
 have hbz:=WS b
 have hbe:=b.sz_eq
 have hsd:=Ar b.steps k0
 have hdl:(b.steps.drop k0).length=b.steps.length-k0:=Ki
 refine ZD 25 Tryz.func64 (ar (iA (YI b) fun b1=>?_))
 refine ie (Y6 3 [0] (Zm (Ke (es:=Zj b.steps) (hv:=none) (l:=(k0:Int)) (m:=(((Zj b.steps).length:Nat):Int)) (sz:=5) (es':=Zj (b.steps.drop k0)) kr om (by simp<;>omega) (by simp<;>omega) (X1 _) (by first|(simp only [VV,Va,Tb,Ta];done)|(simp only [VV,Va,Tb,Ta];rfl)|(simp [Tb,Ta];done))) (io (.i (((b.steps.drop k0).length:Nat):Int)) (.i (((Zj (b.steps.drop k0)).length:Nat):Int)) (li (by rw [W8])) (Z1 (ab 0 (Y0 (fun fz gz m F h=>∃(k:Nat) (ys:LI) (u:Hd),(k<=(b.steps.drop k0).length)/\(ys.length+Y5 ((b.steps.drop k0).drop k)<=xs.length+Y5 (b.steps.drop k0))/\(ys++Xj ((b.steps.drop k0).drop k)=xs++Xj (b.steps.drop k0))/\F=sF [2,3,11,12] fz [(13,.i k)]/\h=[Za gz 0,.obj q [.h u],rV u ys]/\m=(b.steps.drop k0).length-k) _ _ _ ⟨0,xs,g,ob,(YQ _),rfl,rfl,rfl,rfl⟩ (ZV 3 (Yd fl)) ?_))))))
 rintro m F h ⟨k,ys,u,Yf,Zi,Zr,rfl,rfl,rfl⟩
 refine Ya (aq (VA ((k:Int)<(((b.steps.drop k0).length:Nat):Int)) (fun Z9=>?_) (fun Z9=>?_)))
 ·refine ak (aq (ab 1 (ar ?_)))
  obtain ⟨x1,Z5⟩:=Zq (b.steps.drop k0) k om
  have hss:=UZ (b:=b) (by have h:=Z5;rw [Aw] at h;exact h)
  have hsd1:=Cl Z5
  have hvl:=E5 x1
  refine Zm (Zh none (k:Int) 5 (XO Z5)) (Z2 1 (iA [.i 0,.i 0,.i 0,nl,nl] fun b2=>ZA 0 b2 (Xf x1) (ie (az (ZU 2 [0] (ic [2,2] (ih x1 q u ys ob ob) ?_))))))
  rintro _ _ ⟨w1,rfl⟩
  exact ie (az (ZG k (Z1 (ZI ⟨k+1,(ys++vS x1),w1,ob,(by rw [Yk];omega),(Z5z (xs:=xs) Z5 Zr),rfl,rfl,rfl⟩ (wk [3,0,0] (ZL k fl))))))
 refine ax 0 (az (ZU 3 [0] (ic [1,1] (Mz b.result q u ys) ?_)))
 rintro _ _ ⟨w2,rfl⟩
 exact ie (r2 [0,0] [] ⟨w2,rfl⟩ (lr _) (eq:=(rc (rv (xs:=(ys++[b.result])) (by have h:=Z5y om Zr;rw [<-VN,<-h]) rz))))
theorem Z6c (k:Nat):(∀(s:Z3) (q:Nat) (g:Hd) (xs:LI),(s.sz<=k)->(xs.length+s.sz<=1000000000)->Zf 102 [Ym s,.val (.func (.func 104) #[] #[.pointer (some ⟨q,0,none⟩)])] [.obj q [.h g],rV g xs] (fun r h=>∃(w:Hd),h=[.obj q [.h w],rV w (xs++vS s)]))/\(∀(b:Z4) (k0:Nat) (q:Nat) (g:Hd) (xs:LI),(b.sz<=k)->(k0<=b.steps.length)->(xs.length+b.sz<=1000000000)->Zf 64 [ZC b,.i k0,.val (.func (.func 104) #[] #[.pointer (some ⟨q,0,none⟩)])] [.obj q [.h g],rV g xs] (fun r h=>∃(w:Hd),h=[.obj q [.h w],rV w (xs++(Xj (b.steps.drop k0)++[b.result]))])):=by
 induction k with
 | zero=>exact ⟨fun s q g xs h=>by have:=s.sz_pos;omega,fun b k0 q g xs h=>by have:=b.sz_pos;omega⟩
 | succ k ih=>exact ⟨fun s q g xs h hz=>Z67 s q g xs (fun b2 k2 q g xs2 h2 hk h3=>ih.2 b2 k2 q g xs2 om hk h3) hz,fun b k0 q g xs h hk hz=>Z6a b k0 q g xs (fun s2 q g xs2 h2 h3=>ih.1 s2 q g xs2 om h3) hk hz⟩
theorem Z69 (b:Z4) (k0:Nat) (q:Nat) (g:Hd) (xs:LI) (hk:k0<=b.steps.length:=by exact ob) (hz:xs.length+b.sz<=1000000000:=by exact ob):Zf 64 [ZC b,.i k0,.val (.func (.func 104) #[] #[.pointer (some ⟨q,0,none⟩)])] [.obj q [.h g],rV g xs] (fun r h=>∃(w:Hd),h=[.obj q [.h w],rV w (xs++(Xj (b.steps.drop k0)++[b.result]))]):=(Z6c b.sz).2 b k0 q g xs (YQ _) hk hz
theorem SV (b:Z4) (k0:Nat) (hk:k0<=b.steps.length:=by exact ob) (hz:b.sz<=100000000:=by exact ob):Zf 68 [ZC b,.i k0] [] (fun r h=>∃(w:Hd),r=.h w/\h=[rV w (Bj b k0)]):=by
 have hvl:=E6 (b.steps.drop k0)
 have hsd:=Ar b.steps k0
 have hbe:=b.sz_eq
 have hll:([]++(Xj (b.steps.drop k0)++[b.result])).length<=100000000:=by simp;omega
 have hne:[]++(Xj (b.steps.drop k0)++[b.result])≠[]:=by simp
 refine ZD 14 Tryz.func68 (ar (iA (YI b) fun b1=>Z1 (ar (iA [nl] fun b2=>Xx (Nf 0 b2 [nl] [.h hN] (.cons (Ze.hd (v:=hN)) .nil)) (Xx (As) (ie (Zo 3 [2] (ic [1,0] (Z69 b k0 b2 hN [] (hz:=(by simp;omega))) ?_))))))))
 rintro _ _ ⟨w1,rfl⟩
 refine ie (Zo 1 [0] (ic [1] (Z3o w1 ([]++(Xj (b.steps.drop k0)++[b.result])) om hne) ?_))
 rintro _ _ rfl
 refine ie (Zo 1 [1] (ic [0] (OY w1 (JE ([]++(Xj (b.steps.drop k0)++[b.result]))) (by simp only [JE,List.length_mergeSort];omega) (Z3n hne)) ?_))
 rintro _ _ ⟨u1,rfl,rfl⟩
 exact Zs (r1 [0] ⟨u1,rfl,rfl⟩ (eq:=(rv (xs:=(Lib.compact (JE ([]++(Xj (b.steps.drop k0)++[b.result]))))) rfl rz)))
theorem SW (b:Z4) (k:Int) (hk:0<=k/\k<=b.steps.length:=by exact ob) (hz:b.sz<=100000000:=by exact ob):Zf 68 [ZC b,.i k] [] (fun r h=>∃(w:Hd),r=.h w/\h=[rV w (Bj b k.toNat)]):=by obtain ⟨k0,rfl⟩:∃k0:Nat,k=(k0:Int):=⟨k.toNat,by omega⟩;exact SV b k0 om hz
theorem On (v:Int) (n:Int) (q:Nat) :Zf 108 [.i v,.p q 0] [.obj q [.i n]] (fun r h=>r=.b ((decide (v>=0))&&(decide (v<n)))/\h=[.obj q [.i n]]):=by
 refine ZD 11 Tryz.func108 (Ya (ar (WQ 7 [] [(10,.b ((decide (v>=0))&&(decide (v<n))))] (fun gz=>gz) ?_ (fun hj1=>?_))))
 ·exact Zs (r1 [0] ⟨rfl,rfl⟩)
 refine Z2 3 (ib (b:=(decide (v>=0))) 6 (fun Zb=>?_) (fun Zb=>?_))
 ·have ZX:v>=0:=(dq).1 Zb
  exact ZU 4 [0] (Xm (wk [0] (ZM (decide (v<n)) Zb fl)) hj1)
 have Y9:¬(v>=0):=YS dq Zb
 exact Z2 4 (Xm (wk [0] (ZM false Zb fl)) hj1)
theorem Oo (xs:LI) (n:Int) (q:Nat) (hl_xs:xs.length<=4294967296:=by exact ob):Zf 107 [Z6 xs,.val (.func (.func 108) #[] #[.pointer (some ⟨q,0,none⟩)])] [.obj q [.i n]] (fun r h=>∃(v:Value),r=ZQ (Uw xs n) v/\h=[.tail v 1,.obj q [.i n]]):=by
 refine ZD 23 Tryz.func107 (Ya (Ya (X4 1 (iw (Ye xs) (Z1 (ab 0 (NX 1 (Y0 (fun fz gz m F h=>∃(k:Nat) (acc:LI) (u:Value),(k<=xs.length)/\(acc.length<=k)/\(acc++Uw (xs.drop k) n=Uw xs n)/\F=sF [1,8,9] fz [(5,ZQ acc u),(10,.i k)]/\h=[Za gz 1,.tail u 1]/\m=xs.length-k) _ _ _ ⟨0,[],(.slice none 0 0),ob,ob,ob,rfl,rfl,rfl⟩ (wk [1,0] (fc (x:=nl) (Ze.slh _ (by first|rfl|(subst_vars;rfl))) (Yd fl))) ?_))))))))
 rintro m F h ⟨k,acc,u,Yf,Zi,Zr,rfl,rfl,rfl⟩
 refine Ya (aq (VA ((k:Int)<(xs.length:Int)) (fun Z9=>?_) (fun Z9=>?_)))
 ·refine ak (aq (ab 1 (ar ?_)))
  obtain ⟨x1,Z5⟩:=Zq xs k om
  refine Zm (Zh none (k:Int) 1 (ZZ Z5)) (Z1 (Yg 2 (Zu [0] (On x1 n q) (ie (Kx (fun fz gz F h=>∃(w:Value),F=sF [1,8,9,10] fz [(5,ZQ (if 0<=x1/\x1<n then acc++[x1] else acc) w)]/\h=[Za gz 0,.tail w 1]) (fun _ _=>rfl) ?_ ?_)))))
  ·refine ac ((decide (x1>=0))&&(decide (x1<n))) (p:=0<=x1/\x1<n) (Xv dq dq) (fun Zg=>?_) (fun Zg=>?_)
   ·exact az (Z2 2 (iL (Z7 [x1]) 1 1 fun v1=>ZE 0 [(19,Z6 [x1])] (ip 2 (Z7 (acc++[x1])) (Z7 acc) (Z7 [x1]) u none 1 (Yw _) (Yw _) (XT _) (by simp<;>omega) (by simp [XR,Z7]) fun v2=>Z1 (ZJ ⟨v2,rfl,rfl⟩ (wk [2,0] (fc (x:=ZQ (acc++[x1]) v2) (Ze.slh _ (Ys Z7 (by first|rfl|(rw [Zw Zg])|(rw [Zp Zg])|(simp [Zg];done)|(rw [Xc];simp [Zg];done)|omega))) fl))))))
   exact ak (ZJ ⟨u,rfl,rfl⟩ (wk [0,0] (fc (x:=ZQ acc u) (Ze.slh _ (Ys Z7 (by first|rfl|(rw [Zw Zg])|(rw [Zp Zg])|(simp [Zg];done)|(rw [Xc];simp [Zg];done)|omega))) fl)))
  rintro F h ⟨w,rfl,rfl⟩
  exact az (ZG k (Z1 (ZI ⟨k+1,(if 0<=x1/\x1<n then acc++[x1] else acc),w,ob,(by split<;>(try simp)<;>omega),(Ot Z5 Zr),rfl,rfl,rfl⟩ (wk [0,0] (fr (ZL k fl))))))
 exact ax 0 (ar (Zs (r2 [1,0] [ZQ acc u] ⟨u,rfl,rfl⟩ (Ze.slh _ (Ys Z7 (Oq om Zr))))))
theorem Z3l (xs:LI) (n:Int) (hl_xs:xs.length<=4294967296:=by exact ob):Zf 69 [Z6 xs,.i n] [] (fun r h=>∃(v:Value),r=ZQ (Uw xs n) v/\h=[.tail v 1]):=by
 refine ZD 8 Tryz.func69 (ar (iA [.i n] fun b1=>Z1 (Yg 2 (ic [0] (Oo xs n b1) ?_))))
 rintro _ _ ⟨v1,rfl,rfl⟩
 exact Zs (r1 [0] ⟨v1,rfl,rfl⟩)
theorem IF (b:Z4) (n:Int) (k:Int) (hb:b.sz<=20000000:=by exact ob):Zf 28 [ZC b,.i n,.i k] [] (Yt (Z6 (T0 b n k))):=by
 have hsl:=Z3k b k.toNat
 refine ZD 26 Tryz.func28 (ar (iA (YI b) fun b1=>Z1 (Y6 1 [0] (Zu [] (IE b) (WQ 7 [1,2,3] [(13,.b ((decide ((WF b)<0))||(decide (k<0))))] (fun gz=>gz) ?_ (fun hj1=>?_))))))
 ·refine XM [1,2,3] [(20,.b (((decide ((WF b)<0))||(decide (k<0)))||(decide (k>(b.steps.length:Int)))))] (fun gz=>gz) ?_ ?_
  ·refine Z2 1 (ib (b:=((decide ((WF b)<0))||(decide (k<0)))) 14 (fun Zb=>?_) (fun Zb=>?_))
   ·have ZX:((WF b)<0)∨(k<0):=((Xo dq dq)).1 Zb
    exact Z1 (wk [0] (ZM true Zb fl))
   have Y9:¬(((WF b)<0)∨(k<0)):=YS (Xo dq dq) Zb
   exact ZU 3 [0] (iw (W8 b.steps) (Z1 (wk [0] (ZM (decide (k>(b.steps.length:Int))) Zb fl))))
  refine ac (((decide ((WF b)<0))||(decide (k<0)))||(decide (k>(b.steps.length:Int)))) (p:=(((WF b)<0)∨(k<0))∨(k>(b.steps.length:Int))) (Xo (Xo dq dq) dq) (fun Z9=>?_) (fun Z9=>?_)
  ·exact ar (Zs (Y3 (nl) (Ze.sl _ (by rw [T0,Zw om];rfl))))
  refine ak (Zo 2 [0] (ic [] (SW b k (hk:=om)) ?_))
  rintro _ _ ⟨w1,rfl,rfl⟩
  refine Z2 1 (Sw [0] [rV w1 (Bj b k.toNat)] (Z3l (Bj b k.toNat) n) OP (gL (v:=w1) 0 (gS gN)) (TX QE) ?_)
  rintro _ _ ⟨v1,rfl,rfl⟩
  exact Zs (Y3 (ZQ (Uw (Bj b k.toNat) n) v1) (Ze.sl _ (Ys Z7 (by rw [T0,Zp om];exact Z3m n b k.toNat))))
 refine Z2 2 (ib (b:=(decide ((WF b)<0))) 10 (fun ZP=>?_) (fun ZP=>?_))
 ·have YL:(WF b)<0:=(dq).1 ZP
  exact Z2 3 (Xm (wk [0] (ZM true ZP fl)) hj1)
 have YX:¬((WF b)<0):=YS dq ZP
 exact Z2 3 (Xm (wk [0] (ZM (decide (k<0)) ZP fl)) hj1)
theorem L6 (xs:LI) (n:Int) (hl:xs.length<=1000000000:=by exact ob):Zf 23 [Z6 xs,.i n] [] (Yt (.b (decide (n∈xs)))):=by
 refine ZD 18 Tryz.func23 (Ya (Y1 (ab 0 (Y0 (fun fz gz m F h=>∃(k:Nat),(k<=xs.length)/\(n∉xs.take k)/\F=sF [0,1] fz [(5,.i k)]/\h=gz/\m=xs.length-k) _ _ _ ⟨0,ob,(by simp),rfl,rfl,rfl⟩ (wk [] (Yd fl)) ?_))))
 rintro m F h ⟨k,Yf,Zi,rfl,rfl,rfl⟩
 refine X4 2 (iw (Ye xs) (ZT ((k:Int)<(xs.length:Int)) (fun Z9=>?_) (fun Z9=>?_)))
 ·refine ak (aq (ab 1 (Yg 2 ?_)))
  obtain ⟨x1,Z5⟩:=Zq xs k om
  refine Zm (Zh none (k:Int) 1 (ZZ Z5)) (YR (x1==n) Zz (fun Zg=>?_) (fun Zg=>?_))
  ·exact ar (Zs (Y3 (.b true) (lb (by rw [eq_comm,dq];have:=Zg;subst this;exact ZW Z5))))
  exact ak (az (Z2 1 (ZG k (Z1 (ZI ⟨k+1,ob,(Z1g Z5 Zi Zg),rfl,rfl,rfl⟩ (wk [] (ZL k fl)))))))
 exact ax 0 (ar (Zs (Y3 (.b false) (lb (by rw [eq_comm,decide_eq_false_iff_not];rwa [WT om] at Zi)))))
theorem Re (rd:Nat) (bs:LI) (p:Nat) (Zt:∀z∈bs,0<=z/\z<=255) (hp:p+73706410<=1000000000:=by exact ob):Zf 61 [.p rd 0] [Yc rd bs p] (fun r h=>∃(b:Z4) (p2:Nat),r=ZC b/\h=[Yc rd bs p2]/\b.sz<=7330634/\b.rng/\b.rb/\p<=p2/\p2<=p+73706410):=by
 refine ZD 57 Tryz.func61 (ar (iA [nl,.i 0] fun b1=>ie (Yg 1 (ic [1] (Rg rd bs p (Zt:=ob)) ?_))))
 rintro _ _ ⟨n21,p21,rfl,rfl,ZX⟩
 have haf:=ZX
 refine iA [nl,nl] fun b2=>ZA 0 b2 (YN n21) (ie (aD 12 (ZH 7 12 [0,1,2,3,4] [0,0] (dw 5 (Up n21.routines) (WU 6 10 ?_ ?_)))))
 ·refine dc 6 [1] [0] [b2] (UP rd bs p21 n21.routines.length (Zt:=ob) (hmx:=(by first|(have:=haf.1.len;omega)|omega))) ?_
  rintro _ _ ⟨Yn,rfl,rfl,Y9⟩
  obtain ⟨x1,Z5⟩:=Zq n21.routines Yn om
  have hz1:=haf.1.rt _ (ZW Z5)
  have hz1b:=haf.1.rb _ (ZW Z5)
  have hzl:=C3 (x1).body
  have hze:=(x1).body.sz_eq
  refine dx 7 (Zh none (Yn:Int) 5 (WB Z5)) (Zk 2 4 [8,9] (Z8 10 (dA 10 [1] [b2] [nl,.i 0] fun b3=>Z8 11 (Yy 11 0 [] [] b3 (YI x1.body) (de (Zo 3 [0] (iw (W8 x1.body.steps) (ia (((x1.body.steps.length+1:Nat):Int)) (((x1.body.steps.length:Int))+(1)) (ic [1] (UP rd bs (p21+1) (x1.body.steps.length+1) (Zt:=ob) (hmx:=(by first|(have:=haf.1.len;omega)|omega))) ?_)))))))))
  rintro _ _ ⟨YB,rfl,rfl,YL⟩
  refine Z1 (Y6 3 [1] (iw (W8 x1.body.steps) (Z2 2 (ib (b:=(decide ((YB:Int)<(x1.body.steps.length:Int)))) 29 (fun Zb=>?_) (fun Zb=>?_)))))
  ·have YX:(YB:Int)<(x1.body.steps.length:Int):=(dq).1 Zb
   refine ZU 3 [1] ?_
   obtain ⟨x2,Zv⟩:=Zq x1.body.steps YB om
   refine Zm (Zh none (YB:Int) 5 (XO Zv)) (Z2 2 (iw (Vk x2.kids) (ZT ((x2.kids.length:Int)>0) (fun Z9=>?_) (fun Z9=>?_))))
   ·refine aD 18 (ZH 15 18 [0,1,2] [1] (dx 3 (Zh none (YB:Int) 5 (XO Zv)) (ZH 8 14 [4,5,6,7,8,9] [1] (dx 10 (Zh none (YB:Int) 5 (XO Zv)) (Zk 5 7 [11,12] (dw 13 (Vk x2.kids) (Z8 14 (dc 14 [0] [0] [b3] (UP rd bs ((p21+1)+1) x2.kids.length (Zt:=ob) (hmx:=(by first|(have:=haf.1.len;omega)|omega))) ?_))))))))
    rintro _ _ ⟨BZ,rfl,rfl,X9⟩
    obtain ⟨x3,X3⟩:=Zq x2.kids BZ om
    have hkg:=IY hz1.2.2 (by assumption) X3
    have hkb:=(G7 ⟨hz1.2.2.2,hz1b⟩ (by assumption) X3).2
    exact dx 15 (Zh none (BZ:Int) 2 (Vv X3)) (Zk 1 2 [16] (Z8 17 (Yy 17 3 [] [] b1 (YI x3) (de (ZK (r3 [1] [ZC x3] [0] [(b1,b1)] ⟨x3,((p21+1)+1)+1,rfl,rfl,(by first|exact ⟨by omega,hkg.2,hkb,by omega,by omega⟩|exact ⟨by omega,hz1.2.2.2,hz1b,by omega,by omega⟩)⟩ (lr _)))))))
   exact ak (Zo 1 [1] (ZA 3 b1 (YI x1.body) (ie (ZK (r3 [1] [ZC x1.body] [0] [(b1,b1)] ⟨x1.body,(p21+1)+1,rfl,rfl,(by first|exact ⟨by omega,hkg.2,hkb,by omega,by omega⟩|exact ⟨by omega,hz1.2.2.2,hz1b,by omega,by omega⟩)⟩ (lr _))))))
  have XV:¬((YB:Int)<(x1.body.steps.length:Int)):=YS dq Zb
  exact Z1 (Wz (ak (Zo 1 [1] (ZA 3 b1 (YI x1.body) (ie (ZK (r3 [1] [ZC x1.body] [0] [(b1,b1)] ⟨x1.body,(p21+1)+1,rfl,rfl,(by first|exact ⟨by omega,hkg.2,hkb,by omega,by omega⟩|exact ⟨by omega,hz1.2.2.2,hz1b,by omega,by omega⟩)⟩ (lr _))))))))
 refine dA 10 [0,0] [b2,b2] [nl,.i 0] fun b4=>Z8 6 (dc 6 [2] [1] [b2] (UP rd bs p21 n21.routines.length (Zt:=ob) (hmx:=(by first|(have:=haf.1.len;omega)|omega))) ?_)
 rintro _ _ ⟨Ul,rfl,rfl,Wu⟩
 obtain ⟨x4,Te⟩:=Zq n21.routines Ul om
 have hz1:=haf.1.rt _ (ZW Te)
 have hz1b:=haf.1.rb _ (ZW Te)
 have hzl:=C3 (x4).body
 have hze:=(x4).body.sz_eq
 refine dx 7 (Zh none (Ul:Int) 5 (WB Te)) (Zk 1 3 [8,9] (Z8 11 (Yy 11 1 [] [] b4 (YI x4.body) (de (Zo 3 [0] (iw (W8 x4.body.steps) (ia (((x4.body.steps.length+1:Nat):Int)) (((x4.body.steps.length:Int))+(1)) (ic [1] (UP rd bs (p21+1) (x4.body.steps.length+1) (Zt:=ob) (hmx:=(by first|(have:=haf.1.len;omega)|omega))) ?_))))))))
 rintro _ _ ⟨Ag,rfl,rfl,V5⟩
 refine Z1 (Y6 3 [1] (iw (W8 x4.body.steps) (Z2 2 (ib (b:=(decide ((Ag:Int)<(x4.body.steps.length:Int)))) 29 (fun ZP=>?_) (fun ZP=>?_)))))
 ·have Vm:(Ag:Int)<(x4.body.steps.length:Int):=(dq).1 ZP
  refine ZU 3 [1] ?_
  obtain ⟨x5,UV⟩:=Zq x4.body.steps Ag om
  refine Zm (Zh none (Ag:Int) 5 (XO UV)) (Z2 2 (iw (Vk x5.kids) (ZT ((x5.kids.length:Int)>0) (fun Zg=>?_) (fun Zg=>?_))))
  ·refine aD 18 (ZH 15 18 [0,1,2] [1] (dx 3 (Zh none (Ag:Int) 5 (XO UV)) (ZH 8 14 [4,5,6,7,8,9] [1] (dx 10 (Zh none (Ag:Int) 5 (XO UV)) (Zk 5 7 [11,12] (dw 13 (Vk x5.kids) (Z8 14 (dc 14 [0] [0] [b4] (UP rd bs ((p21+1)+1) x5.kids.length (Zt:=ob) (hmx:=(by first|(have:=haf.1.len;omega)|omega))) ?_))))))))
   rintro _ _ ⟨L0,rfl,rfl,US⟩
   obtain ⟨x6,QB⟩:=Zq x5.kids L0 om
   have hkg:=IY hz1.2.2 (by assumption) QB
   have hkb:=(G7 ⟨hz1.2.2.2,hz1b⟩ (by assumption) QB).2
   exact dx 15 (Zh none (L0:Int) 2 (Vv QB)) (Zk 1 2 [16] (Z8 17 (Yy 17 3 [] [] b1 (YI x6) (de (ZK (r3 [1] [ZC x6] [0] [(b1,b1)] ⟨x6,((p21+1)+1)+1,rfl,rfl,(by first|exact ⟨by omega,hkg.2,hkb,by omega,by omega⟩|exact ⟨by omega,hz1.2.2.2,hz1b,by omega,by omega⟩)⟩ (lr _)))))))
  exact ak (Zo 1 [1] (ZA 3 b1 (YI x4.body) (ie (ZK (r3 [1] [ZC x4.body] [0] [(b1,b1)] ⟨x4.body,(p21+1)+1,rfl,rfl,(by first|exact ⟨by omega,hkg.2,hkb,by omega,by omega⟩|exact ⟨by omega,hz1.2.2.2,hz1b,by omega,by omega⟩)⟩ (lr _))))))
 have UT:¬((Ag:Int)<(x4.body.steps.length:Int)):=YS dq ZP
 exact Z1 (Wz (ak (Zo 1 [1] (ZA 3 b1 (YI x4.body) (ie (ZK (r3 [1] [ZC x4.body] [0] [(b1,b1)] ⟨x4.body,(p21+1)+1,rfl,rfl,(by first|exact ⟨by omega,hkg.2,hkb,by omega,by omega⟩|exact ⟨by omega,hz1.2.2.2,hz1b,by omega,by omega⟩)⟩ (lr _))))))))
theorem Rd (code:LI) (hcl:code.length<=1048576:=by exact ob) (hcb:∀z∈code,0<=z/\z<=255):Zf 20 [V7 code] [] (fun r h=>∃(b:Z4) (z:Int),r=.tup [ZC b,.i z]/\h=[]/\b.sz<=7330634/\b.rng/\-1000000000<=z/\z<=1000000000):=by
 refine ZD 16 Tryz.func20 (ar (iA [nl,.i 0] fun b1=>Z1 (Yg 1 (ic [] (S1 code (hc:=hcb)) ?_))))
 rintro _ _ ⟨rd1,bs1,rfl,rfl,ZX⟩
 have hnr:=ZX
 refine Z1 (Yg 1 (ic [0] (Re rd1 bs1 0 (Zt:=hnr)) ?_))
 rintro _ _ ⟨b2,p21,rfl,rfl,Y9⟩
 have hab:=Y9
 have hrb:=hab.2.2.1
 rw [Z4.rb_eq] at hrb
 refine iA [nl,.i 0] fun b3=>ZA 0 b3 (YI b2) (ie (aD 8 (ZH 4 8 [0,1,2,3] [0,0] (Z8 4 (dL 4 [0] [b3] (Z7 [0,1,2,3,4,6,-1,b2.result]) 8 1 fun v1=>Yh 3 3 [] [(14,Z6 [0,1,2,3,4,6,-1,b2.result])] (Z8 5 (dc 5 [2] [0] [b3] (WW rd1 bs1 p21 [0,1,2,3,4,6,-1,b2.result] (Zt:=hnr)) ?_)))))))
 rintro _ _ ⟨z1,rfl,rfl,YL⟩
 have hon:=YL
 simp only [Yr,List.not_mem_nil,or_false] at hon
 exact Z8 6 (Yy 6 3 [] [] b1 (YI b2) (Zk 0 1 [7] (de (ZK (r3 [] [ZC b2,.i z1] [0] [(b1,b1)] ⟨b2,z1,rfl,rfl,⟨hab.1,hab.2.1,by omega,by omega⟩⟩ (lr _))))))
theorem Rc (code:LI) (hcl:code.length<=1048576:=by exact ob) (hcb:∀z∈code,0<=z/\z<=255):Zf 25 [V7 code] [] (fun r h=>∃(b:Z4) (z:Int),r=.tup [ZC b,.i z]/\h=[]/\b.sz<=7330634/\b.rng/\-1000000000<=z/\z<=1000000000):=by
 refine ZD 8 Tryz.func25 (ar (iA [nl,.i 0] fun b1=>Z1 (Yg 1 (ic [] (Rd code (hcl:=hcl) (hcb:=hcb)) ?_))))
 rintro _ _ ⟨b2,z1,rfl,rfl,ZX⟩
 exact Z2 2 (ZA 0 b1 (YI b2) (Zs (r3 [] [ZC b2,.i z1] [0] [(b1,b1)] ⟨b2,z1,rfl,rfl,ob⟩ (lr _))))
theorem Z0m (code:LI) (hcb:∀z∈code,0<=z/\z<=255):Zf 5 [V7 code] [] (Yt (.b true)):=by
 refine ZD 59 Tryz.func5 (Ya (X4 1 (iw (Qg code) (ZT ((code.length:Int)>1048576) (fun Z9=>?_) (fun Z9=>?_)))))
 ·exact ar (Zs (N9))
 have hcl:code.length<=1048576:=by omega
 refine ak (Yg 1 (ic [] (Rc code (hcl:=hcl) (hcb:=hcb)) ?_))
 rintro _ _ ⟨b1,z1,rfl,rfl,ZX⟩
 obtain ⟨hbz,hbr,hz0,hz9⟩:=ZX
 have hl1:=Z5l b1 (z1+1)
 have hl2:=Nj b1 (z1+1) (YT b1 z1)
 have hl3:=Nj b1 (z1+1) (YT b1 z1+1)
 have hbl:=C3 b1
 have hub:=Z5m b1 z1
 have hlb:=FT b1 z1
 refine Z2 3 (iA [nl,.i 0] fun b2=>ZA 0 b2 (YI b1) (Z1 (Zo 2 [0] (Zu [] (SR b1 z1) (Z1 (Y6 3 [0] (Zu [] (MG b1 z1) (WQ 9 [3,4,5] [(25,.b (((YT b1 z1) != (YT b1 z1))||(decide ((YT b1 z1)<0))))] (fun gz=>gz) ?_ (fun hj1=>?_)))))))))
 ·refine XM [3,4,5] [(29,.b ((((YT b1 z1) != (YT b1 z1))||(decide ((YT b1 z1)<0)))||(decide (z1<0))))] (fun gz=>gz) ?_ ?_
  ·refine Z2 1 (ib (b:=(((YT b1 z1) != (YT b1 z1))||(decide ((YT b1 z1)<0)))) 26 (fun Zb=>?_) (fun Zb=>?_))
   ·have Y9:((YT b1 z1)≠(YT b1 z1))∨((YT b1 z1)<0):=((Xo Xd dq)).1 Zb
    exact Z1 (wk [0] (fc (x:=.b true) (lb (by rw [Zb];rfl)) fl))
   have YL:¬(((YT b1 z1)≠(YT b1 z1))∨((YT b1 z1)<0)):=YS (Xo Xd dq) Zb
   exact Z1 (wk [0] (fc (x:=.b (decide (z1<0))) (lb (by rw [Zb];rfl)) fl))
  refine ac ((((YT b1 z1) != (YT b1 z1))||(decide ((YT b1 z1)<0)))||(decide (z1<0))) (p:=(((YT b1 z1)≠(YT b1 z1))∨((YT b1 z1)<0))∨(z1<0)) (Xo (Xo Xd dq) dq) (fun Zg=>?_) (fun Zg=>?_)
  ·exact Zo 3 [0] (Zu [] (MG b1 z1) (Zs (Y3 (.b ((YT b1 z1)==(YT b1 z1))) (lb (by first|(simp;done)|exact absurd (FU (b:=b1) (v:=z1) om om) ZF|exact (Decidable.em (YT b1 z1=(b1.steps.length:Int))).elim (fun q=>by rw [Zz.2 q];rfl) (fun q=>by rw [decide_eq_false (FV (b:=b1) (v:=z1) om q)];simp))))))
  refine ak (Y6 2 [0] (ia ((z1+1)) ((z1)+(1)) (Z2 1 (Zu [] (IF b1 (z1+1) (YT b1 z1)) (Z2 1 (Zu [] (L6 (T0 b1 (z1+1) (YT b1 z1)) z1) (YR (!(decide (z1∈(T0 b1 (z1+1) (YT b1 z1))))) (p:=¬(z1∈(T0 b1 (z1+1) (YT b1 z1)))) (Xh dq) (fun ZF=>?_) (fun ZF=>?_))))))))
  ·exact ar (Zs (Y3 (.b false) (lb (by first|(simp;done)|exact absurd (FU (b:=b1) (v:=z1) om om) ZF|exact (Decidable.em (YT b1 z1=(b1.steps.length:Int))).elim (fun q=>by rw [Zz.2 q];rfl) (fun q=>by rw [decide_eq_false (FV (b:=b1) (v:=z1) om q)];simp)))))
  refine ak (Zo 3 [0] (iw (W8 b1.steps) (WQ 16 [] [(58,.b (((YT b1 z1)==(b1.steps.length:Int))||(!(decide (z1∈(T0 b1 (z1+1) ((YT b1 z1)+1)))))))] (fun gz=>gz) ?_ (fun hj2=>?_))))
  ·exact Zs (Y3 (.b (((YT b1 z1)==(b1.steps.length:Int))||(!(decide (z1∈(T0 b1 (z1+1) ((YT b1 z1)+1))))))) (lb (by first|(simp;done)|exact absurd (FU (b:=b1) (v:=z1) om om) ZF|exact (Decidable.em (YT b1 z1=(b1.steps.length:Int))).elim (fun q=>by rw [Zz.2 q];rfl) (fun q=>by rw [decide_eq_false (FV (b:=b1) (v:=z1) om q)];simp))))
  refine Z2 2 (ib (b:=((YT b1 z1)==(b1.steps.length:Int))) 48 (fun ZP=>?_) (fun ZP=>?_))
  ·have YX:(YT b1 z1)=(b1.steps.length:Int):=(Zz).1 ZP
   exact Z2 10 (Xm (wk [0] (fc (x:=.b true) (lb (by rw [ZP];rfl)) fl)) hj2)
  have X9:¬((YT b1 z1)=(b1.steps.length:Int)):=YS Zz ZP
  exact ZU 2 [0] (ia ((z1+1)) ((z1)+(1)) (Z2 1 (ia (((YT b1 z1)+1)) (((YT b1 z1))+(1)) (Zu [] (IF b1 (z1+1) ((YT b1 z1)+1)) (Z2 1 (Zu [] (L6 (T0 b1 (z1+1) ((YT b1 z1)+1)) z1) (Z2 2 (Xm (wk [0] (fc (x:=.b (!(decide (z1∈(T0 b1 (z1+1) ((YT b1 z1)+1)))))) (lb (by rw [ZP];rfl)) fl)) hj2))))))))
 refine Z2 2 (ib (b:=((YT b1 z1) != (YT b1 z1))) 22 (fun YW=>?_) (fun YW=>?_))
 ·have XV:(YT b1 z1)≠(YT b1 z1):=(Xd).1 YW
  exact Z2 3 (Xm (wk [0] (fc (x:=.b true) (lb (by rw [YW];rfl)) fl)) hj1)
 have Wu:¬((YT b1 z1)≠(YT b1 z1)):=YS Xd YW
 exact Z2 3 (Xm (wk [0] (fc (x:=.b (decide ((YT b1 z1)<0))) (lb (by rw [YW];rfl)) fl)) hj1)
end Go.Abs
section
namespace Go.Proofs.YtjmahledcmocoaaGreat.fnLastUse
open Go.ChangeShapes Go.WideShapes Go.ChangeAt Go.RowKit Go.Abs
theorem own:ownKnob Tryz.prog.godebug=none:=by kernel_rfl
theorem kids:Kids Tryz.prog (·<Tryz.prog.types.size):=kids_rows kr kr
theorem Rb:∀t e,t<Tryz.prog.types.size->Tryz.prog.underlying t=some (.slice e)->0<Tryz.prog.cellsOf e:=slices_full_of Tryz.prog kr
theorem Mq {w w':World} {G G':ZY} {h':List Res} (hx:YO w G [] w' G' h'):∀b,b<w.heap.size->w'.heap[b]? = w.heap[b]?:=
 fun b hb=>(hx.same b hb).eq fun o ⟨r,hr,_⟩=>by cases hr
theorem ON {w w':World} {b o:Nat} (h:w'.heap[b]? = w.heap[b]?):w'.cell? ⟨b,o,none⟩=w.cell? ⟨b,o,none⟩:=by simp [World.cell?,h]
theorem Z13 {t:Nat} (h:Nat.blt t Tryz.prog.types.size=true):t<Tryz.prog.types.size:=Nat.le_of_ble_eq_true h
set_option maxRecDepth 100000 in
theorem P5 (H:Type) (enc:TypeId × Value->H) (W:World) (base:Nat) (args:Array Value) (ds gs:List (DataW H)) (before:List MemPlace) (hval:∀(j:Nat) t v,Tryz.f5.params[j]? = some t->args[j]? = some v->Value.okWide Tryz.prog W .any base t v)
  (hW:DataW.Whole enc Tryz.prog Tryz.f5.params.toList Rows.fnLastUseSpec.vars false W args.toList ds gs before) :
  Calls Tryz.prog 5 args W fun e W'=>∃v,e=.returned v/\Rows.fnLastUseSpec.post enc Tryz.prog Tryz.f5 false true false false W args v W':=by
 have hW':=hW
 obtain ⟨p,q,hA0,hV,rfl,hfz,hnd⟩:=hW
 have hA:DataW.TrodAll enc Tryz.prog W 0 (fun _=>true) true Tryz.f5.params.toList args.toList ds p:=hA0
 rw [Tryz.params5] at hA
 obtain ⟨v0,vs0,d0,ds0,p0,q0,hargs,rfl,rfl,h0,r0⟩:=trodAll_cons hA
 obtain ⟨rfl,rfl,rfl⟩:=trodAll_nil r0
 obtain rfl:args=#[v0]:=by cases args;simp_all
 obtain ⟨rfl,rfl⟩:=trodVars_none hV
 obtain ⟨fuel,htr⟩:=h0
 obtain ⟨qa,ql,qc,rfl⟩:=okWide_slice Tryz.underlying22 (hval 0 22 v0 kr rfl)
 obtain ⟨v1,code,hv1,hrv,hcb⟩:=Z2d htr
 have hv1:[Value.slice qa ql qc]=[v1]:=hv1
 cases hv1
 have hh:Yj W (GA W) []:=⟨(fun r hr=>by cases hr),List.Pairwise.nil,(fun r hr=>by cases hr),fun b o hg=>hg⟩
 refine (Z0m code hcb W (GA W) [.slice qa ql qc] (.cons hrv .nil) hh).mono ?_
 rintro e W' ⟨v,r,h',G',rfl,⟨rfl,rfl⟩,hv,hh',hx⟩
 have hvb:=hv.val_inv
 subst hvb
 refine ⟨_,rfl,[d0],[],p0++[]++[],[],p0++[],[],hW',?_,?_,rfl,?_,(fun h=>by cases h)⟩
 ·exact trodAll_cons_mk (shut_bool Tryz.underlying4 _) trodAll_mk0
 ·have Ac:∀b,b<W.heap.size->W'.heap[b]? = W.heap[b]?:=Mq hx
  have hlt:=hW'.lt
  have hcar:DataW.TrodAll enc Tryz.prog W' 0 (fun _=>true) true Tryz.f5.params.toList [.slice qa ql qc] [d0] (p0++[]):=by
   rw [Tryz.params5]
   refine ⟨p0,[],⟨fuel,DataW.trod_carry fuel 22 _ _ htr fun y hy=>?_⟩,rfl,rfl⟩
   have hyl:=hlt y (by simpa using hy)
   cases y with
   | cell b o=>exact ON (Ac b hyl)
   | map b=>exact Ac b hyl
  exact DataW.TrodAll.respare kids Rb (by rw [Tryz.params5];intro t ht;rw [List.mem_singleton.1 ht];exact Z13 kr) hcar (fun y hy=>by have:=hlt y (by simpa using hy);simpa using this)
 ·refine ⟨hx.os,hx.output,fun i hi=>?_⟩
  rw [Mq hx i hi]
  cases W.heap[i]? with
  | none=>rfl
  | some o=>cases o<;>first | rfl | exact ⟨rfl,rfl,rfl,fun _ _=>rfl⟩ | exact .inr ⟨rfl,rfl⟩
set_option maxRecDepth 100000 in
theorem Z12 (os:Os) (started:os.Started) (H:Type) (enc:TypeId × Value->H) (F:Stop.Interp) :
  ReturnsInHanded {} Tryz.checked os 5 .any ((Rows.OpenSpec.upto Rows.fnLastUseSpec).pre6 enc Tryz.prog Tryz.f5 Rows.fnLastUseUptoRow.domain false) (((Rows.OpenSpec.upto Rows.fnLastUseSpec).at F).post enc Tryz.prog Tryz.f5 false true false false):=by
 refine returnsInHanded_of_cond (C:=Tryz.checked) (s:=Rows.OpenSpec.upto Rows.fnLastUseSpec) (k:=Rows.uptoSmall) rfl own started kr Tryz.func5
  (OpenSpec.witness (enc:=enc) (C:=Tryz.checked) (s:=Rows.OpenSpec.upto Rows.fnLastUseSpec) (k:=Rows.uptoSmall) rfl false ⟨#[],#[.slice none 0 0],[]⟩ 8 kr kr kr
   (x:=([.nil],[],[])) kr rfl kr) ?_
 intro W base args ds gs before hval hW _ hk _
 exact P5 H enc W base args ds gs before hval hW
theorem O3 {a b:Bool} (ha:a=true) (hb:b=true):(a&&b)=true:=by rw [ha,hb];rfl
set_option maxHeartbeats 4000000 in
theorem OQ:joinedFacts Tryz.pinned.checked.prog 5 Tryz.f5 (Rows.OpenSpec.upto Rows.fnLastUseSpec).bare Rows.fnLastUseUptoRow=true:=by
 unfold joinedFacts
 iterate 31 refine O3 ?_ (by as_aux_lemma=>kernel_rfl)
 as_aux_lemma=>kernel_rfl
theorem Z24:Rows.fnLastUseUptoRow.holds Tryz.pinned (Rows.OpenSpec.upto Rows.fnLastUseSpec):=
 OpenClaim.holds_of_cond 5 Tryz.f5 rfl rfl rfl rfl rfl rfl rfl ⟨rfl,rfl,rfl,rfl,rfl⟩ rfl rfl rfl rfl rfl (by as_aux_lemma=>kernel_rfl) Tryz.func5 OQ
  (of_decide_eq_true kr) (by unfold Func.isWrapper;first|(rw [if_pos (by decide +kernel)];kernel_rfl)|(rw [if_neg (by decide +kernel)];exact ⟨rfl,rfl⟩))
  (fun os started H enc _ F=>Z12 os started H enc F)
theorem proved:Rows.FnLastUseUptoSaid:=
 Z24
#print axioms proved
end Go.Proofs.YtjmahledcmocoaaGreat.fnLastUse
end
