/-
  A part of the proofs of several laws (see the last file): no condition.
-/
import Derived.Test.YtabmbhgiodcppaaGreatXdA
import Derived.Test.YtabmbhgiodcppaaGreatRows
import Derived.Deep.Slices
import Derived.ChangeArms
set_option linter.all false
set_option linter.unusedVariables false
set_option linter.unusedSimpArgs false
set_option linter.unusedSectionVars false
set_option maxRecDepth 10000
set_option maxHeartbeats 4000000
section
namespace Go.Abs
structure Vn where
 fields:LI
 fv:Value
structure Vf where
 frm:Int
 to_:Int
 cons:List Vn
 cv:Value
mutual
inductive Cr where
 | mk (op num into:Int) (args:LI) (av:Value) (kids:List BF) (kv:Value)
inductive BF where
 | mk (steps:List Cr) (sv:Value) (result:Int)
end
namespace Cr
end Cr
namespace BF
end BF
structure Gh where
 params:LI
 pv:Value
 lent:LI
 lv:Value
 result:Int
 body:BF
structure Nx where
 decls:List Vf
 dv:Value
 routines:List Gh
 rv:Value
abbrev Rv (c:Vn):List AV:=[ZC c.fields c.fv]
abbrev NA (c:Vn):AV:=.agg (Rv c)
def Ul (cs:List Vn):List AV:=cs.map NA
abbrev Fs (xs:List Vn) (v:Value):AV:=.sl (Ul xs) (some v)
abbrev Rw (d:Vf):List AV:=[.i d.frm,.i d.to_,Fs d.cons d.cv]
abbrev NB (d:Vf):AV:=.agg (Rw d)
def Vi (ds:List Vf):List AV:=ds.map NB
abbrev Zdb (xs:List Vf) (v:Value):AV:=.sl (Vi xs) (some v)
@[simp] theorem Zjj (xs:List Vn):(Ul xs).length=xs.length:=by simp [Ul]
theorem Z69 (xs ys:List Vn):Ul (xs++ys)=Ul xs++Ul ys:=by simp [Ul]
theorem Ot (xs:List Vn):∀y∈Ul xs,y.leaves.length=1:=by intro y hy;simp only [Ul,Xz] at hy;obtain ⟨x,_,rfl⟩:=hy;rfl
@[simp] theorem Zjk (xs:List Vf):(Vi xs).length=xs.length:=by simp [Vi]
theorem Z6a (xs ys:List Vf):Vi (xs++ys)=Vi xs++Vi ys:=by simp [Vi]
theorem Ou (xs:List Vf):∀y∈Vi xs,y.leaves.length=3:=by intro y hy;simp only [Vi,Xz] at hy;obtain ⟨x,_,rfl⟩:=hy;rfl
def F5 (c:Vn):List (Value × Nat):=[(c.fv,1)]
def Qq (cs:List Vn):List (Value × Nat):=cs.flatMap F5
def F6 (d:Vf):List (Value × Nat):=Qq d.cons++[(d.cv,1)]
def QK (ds:List Vf):List (Value × Nat):=ds.flatMap F6
mutual
def F8:Cr->List (Value × Nat)
 | .mk _ _ _ _ av kids kv=>(av,1)::(Kc kids++[(kv,2)])
def DW:BF->List (Value × Nat)
 | .mk steps sv _=>Kd steps++[(sv,5)]
def Kd:List Cr->List (Value × Nat)
 | []=>[]
 | s::r=>F8 s++Kd r
def Kc:List BF->List (Value × Nat)
 | []=>[]
 | b::r=>DW b++Kc r
end
def F7 (r:Gh):List (Value × Nat):=(r.pv,1)::(r.lv,1)::DW r.body
def Bi (rs:List Gh):List (Value × Nat):=rs.flatMap F7
def H8 (n:Nx):List (Value × Nat):=QK n.decls++((n.dv,3)::(Bi n.routines++[(n.rv,5)]))
theorem F9:∀(xs:List Cr) (ys:List Cr),Kd (xs++ys)=Kd xs++Kd ys
 | [],ys=>by simp [Kd]
 | x::r,ys=>by rw [J1,Kd,Kd,F9 r ys,W0]
theorem F4:∀(xs:List BF) (ys:List BF),Kc (xs++ys)=Kc xs++Kc ys
 | [],ys=>by simp [Kc]
 | x::r,ys=>by rw [J1,Kc,Kc,F4 r ys,W0]
theorem Ha:Kd []=[]:=by rw [Kd]
theorem H5:Kc []=[]:=by rw [Kc]
theorem H6 (xs ys:List Vn):Qq (xs++ys)=Qq xs++Qq ys:=by simp [Qq]
theorem H7 (xs ys:List Vf):QK (xs++ys)=QK xs++QK ys:=by simp [QK]
theorem H9 (xs ys:List Gh):Bi (xs++ys)=Bi xs++Bi ys:=by simp [Bi]
def Vn.er (c:Vn):Yg:=⟨c.fields⟩
def Vf.er (d:Vf):Zc:=⟨d.frm,d.to_,d.cons.map Vn.er⟩
inductive QC:List AV->List AV->Prop
 | nil:QC [] []
 | cons {x y:AV} {xs ys:List AV} (hl:x.leaves.length=y.leaves.length) (h:Wq x.leaves y.leaves) (t:QC xs ys):QC (x::xs) (y::ys)
theorem QC.length:∀{xs ys:List AV},QC xs ys->xs.length=ys.length
 | _,_,.nil=>rfl
 | _,_,.cons _ _ t=>by simp [t.length]
theorem QC.els {w:World} {G:Yk} {k b:Nat}:∀{o:Nat} {xs ys:List AV},QC xs ys->V8 w G k b o xs->V8 w G k b o ys
 | _,_,_,.nil,_=>.nil
 | _,_,_,.cons hl h t,.cons hk hm r=>.cons (hl▸hk) (h.mem hm) (t.els r)
theorem Zd.els {es es':List AV} (hv:Option Value) (h:QC es es'):Zd (.sl es hv) (.sl es' none):=by
 intro w G v hr
 cases hr with
 | nil _=>cases h;exact .nil (by simp)
 | sl _ hc hm=>rw [h.length] at hc ⊢;exact .sl (by simp) hc (h.els hm)
theorem QC.map {α β:Type} {f:α->AV} {g:β->AV} {e:α->β} (h:∀x,(f x).leaves.length=(g (e x)).leaves.length/\Wq (f x).leaves (g (e x)).leaves):∀xs:List α,QC (xs.map f) ((xs.map e).map g)
 | []=>.nil
 | x::r=>.cons (h x).1 (h x).2 (QC.map h r)
theorem Zcr (c:Vn):Wq (Rv c) (D7 c.er):=.cons (Zd.forget _ _) .nil
theorem Z6s (cs:List Vn):QC (Ul cs) (Xy (cs.map Vn.er)):=QC.map (f:=NA) (g:=Cu) (e:=Vn.er) (fun c=>⟨rfl,Zcr c⟩) cs
theorem Zcs (d:Vf):Wq (Rw d) (KM d.er):=.cons (Zd.refl _) (.cons (Zd.refl _) (.cons (Zd.els _ (Z6s _)) .nil))
theorem Z6t (ds:List Vf):QC (Vi ds) (Yv (ds.map Vf.er)):=QC.map (f:=NB) (g:=Cv) (e:=Vf.er) (fun c=>⟨rfl,Zcs c⟩) ds
theorem KO {es:List AV} {k:Nat} (h:es.all (fun y=>Nat.beq y.leaves.length k)=true):∀y∈es,y.leaves.length=k:=fun y hy=>Tu (A8.1 h y hy)
abbrev rK (g:Hd) (k:Nat) (ls:List AV):Res:=.row g.v k ls
section
variable {P:Program} {n:Nat} {c:Code} {A:WZ} {F:Fr} {h:List Res} {ops:Array Oper} {B:Fr->List Res->Prop} {k:Nat}
variable {T:List (Nat × List Nat)} {fuel:Nat} {done:List Nat}
theorem tB (is:List Nat) (hs:List Res) (L' L:List (Value × Nat)) (e:L'=L) (hp:XX is h=some hs:=by kernel_rfl) (hb:K3 hs=some L':=by kernel_rfl):V0 h (.many L::Xv is h):=e▸Zid is hp hb
theorem rr {v:Value} {q:Nat} {ls ls':List AV} {t t':List Res} (h:ls=ls') (e:t=t'):Res.row v q ls::t=.row v q ls'::t':=h▸e▸rfl
theorem Hp (j m:Nat) (v:Hd) (kk:Nat) (ls:List AV) (hm:ls.length=m*kk) (hk:0<kk:=by omega) (hl:E4 P ops F k=some (.h v):=by kernel_rfl) (hj:h[j]? = some (rK v kk ls):=by kernel_rfl):W3 P (ZP ops k) F h [] (.i m):=
 Zhq j hl hj hm hk
theorem XI (b l c' q sz:Nat) (j:Int) (hq:j=(q:Int)/\q<l:=by omega) (hi:BY P ops F k=some (.val (.slice (some ⟨b,0,none⟩) l c'),j,sz):=by kernel_rfl):W3 P (ZP ops k) F h [] (.val (.pointer (some ⟨b,q*sz,none⟩))):=by
 have:=Z1z (P:=P) (F:=F) (h:=h) hi om om
 rw [hq.1,TH,Wf] at this
 exact this
theorem WO (j g len cap kk o:Nat) (ls zs:List AV) (t:TypeId) (y:AV) (hz:(ls.drop o).take zs.length=zs) (hl:Mt ops F k=some (t,.val (.pointer (some ⟨g,o,none⟩))):=by kernel_rfl) (hj:h[j]? = some (.row (.slice (some ⟨g,0,none⟩) len cap) kk ls):=by kernel_rfl)
  (hy:Bn P t zs=some y:=by kernel_rfl):W3 P (ZP ops k) F h [g] y:=Zhr j hl hj hz hy
theorem DX (j g len cap kk o:Nat) (xs ls:List AV) (ls':List AV) (hlt:o+xs.length<=ls.length) (he:ls.take o++xs++ls.drop (o+xs.length)=ls') (H:SI P n ops B (k+1) F (.row (.slice (some ⟨g,0,none⟩) len cap) kk ls'::Xv [j] h)) (hk:Xr n ops F k=true:=by kernel_rfl)
  (hs:storeAt P ops F k=some (g,o,xs):=by kernel_rfl) (hp:XX [j] h=some [.row (.slice (some ⟨g,0,none⟩) len cap) kk ls]:=by kernel_rfl):SI P n ops B k F h:=
 QL hk (WR.perm (Uq (VM hp)) (Si hs hlt (by rw [he];exact H)))
theorem QE (i j:Nat) (js bs:List Nat) (g len cap kk o:Nat) (xs ls:List AV) (ls':List AV) (hlt:o+xs.length<=ls.length) (he:ls.take o++xs++ls.drop (o+xs.length)=ls')
  (H:X6 P n ops B (T.filter fun t=>!Vz ops i t.1) fuel (done++[i]) F (.row (.slice (some ⟨g,0,none⟩) len cap) kk ls'::Xv [j] h)) (hk:Xr n ops F i=true:=by kernel_rfl)
  (hs:storeAt P ops F i=some (g,o,xs):=by kernel_rfl) (hp:XX [j] h=some [.row (.slice (some ⟨g,0,none⟩) len cap) kk ls]:=by kernel_rfl) (ho:UP ops i T=bs:=by kernel_rfl)
  (hj:js.map (fun q=>(V7 (Xv [j] h))[q]?)=bs.map some:=by kernel_rfl):U6 P n ops B T fuel done F h i:=
 Ar [j] js bs hk (VM hp) ho hj (Si (h2:=[]) hs hlt (by rw [he];exact H))
theorem BX (sz:Nat) (hK:∀g,SI P n ops B (k+1) (F.put (ZP ops k).dst (.val (.slice (some ⟨g,0,none⟩) 0 0))) (.row (.slice (some ⟨g,0,none⟩) 0 0) sz []::h)) (hk:Xr n ops F k=true:=by kernel_rfl)
  (ha:TB P ops F k=some ([],0,sz):=by kernel_rfl):SI P n ops B k F h:=QL hk (Zdq (UQ hk).2.1 ha hK)
theorem Hk (j g sz:Nat) (xs:List AV) (hx:Option Value) (hxs:∀y∈xs,y.leaves.length=sz) (hbound:xs.length<=4294967296) (hK:∀v:Hd,SI P n ops B (k+1) (F.put (ZP ops k).dst (.h v)) (rK v sz (Z9 xs)::Xv [j] h))
  (hk:Xr n ops F k=true:=by kernel_rfl) (ha:Q0 P ops F k=some (.val (.slice (some ⟨g,0,none⟩) 0 0),.sl xs hx,sz):=by kernel_rfl) (hp:XX [j] h=some [.row (.slice (some ⟨g,0,none⟩) 0 0) sz []]:=by kernel_rfl):SI P n ops B k F h:=
 QL hk (WR.perm (Uq (VM hp)) (Zdp (UQ hk).2.1 ha hxs hbound hK))
theorem Fk (j m:Nat) {v:Hd} {kk:Nat} {ls:List AV} (hm:ls.length=m*kk) (h0:0<m) (H:∀g c',v=⟨some ⟨g,0,none⟩,m,c'⟩->YA P n c A F h) (hk:0<kk:=by omega) (hj:h[j]? = some (rK v kk ls):=by kernel_rfl):YA P n c A F h:=
 Z3f j m hj hm hk h0 H
theorem Rr (t j:Nat) {v:Hd} {kk:Nat} (es:List AV) (hes:∀y∈es,y.leaves.length=kk) (H:YA P n c A ((t,.sl es (some v.v))::F) (.tail v.v kk::Xv [j] h)) (hk:0<kk:=by omega) (hF':F.get t=.h v:=by kernel_rfl)
  (hp:XX [j] h=some [rK v kk (Z9 es)]:=by kernel_rfl):YA P n c A F h:=Z3e t j hF' hp hes hk H
theorem Zi2 (j i p:Nat) (u v:Value) (kk kv:Nat) (es ls:List AV) (hes:∀y∈es,y.leaves.length=kk) (hl:ls[p]? = some (.val u)) (hk:0<kk:=by omega) (hp:XX [j,i] h=some [.row u kk (Z9 es),.row v kv ls]:=by kernel_rfl) :
  V0 h (.row v kv (ls.set p (.sl es (some u)))::.tail u kk::Xv [j,i] h):=Z2i j i p hp hes hk hl
theorem FG {A xs ys B:List AV} {o:Nat} (hA:A.length=o) (hl:xs.length=ys.length):(A++(xs++B)).take o++ys++(A++(xs++B)).drop (o+ys.length)=A++(ys++B):=by
 subst hA
 rw [Ab,<-hl,<-List.drop_drop,List.drop_left,List.drop_left,W0]
theorem HV {A xs B:List AV} {o:Nat} (hA:A.length=o):((A++(xs++B)).drop o).take xs.length=xs:=by
 subst hA
 rw [List.drop_left,Ab]
theorem Tk (xs ys:List AV):Z9 (xs++ys)=Z9 xs++Z9 ys:=by simp [Z9]
theorem Ev (j:Nat) (v:Value) (q:Nat) (ls ls':List AV) (e:ls=ls') (hp:XX [j] h=some [.row v q ls]:=by kernel_rfl):V0 h (.row v q ls'::Xv [j] h):=by
 subst e
 intro w G hh
 have hp':=Uq (VM hp)
 exact ⟨G,hh.perm hp',(X3.refl w G h).perm (TI _) hp'⟩
end
end Go.Abs
end
section
namespace Go.Abs
theorem YH.rgrow {w:World} {G:Yk} {h2:List Res} {g len len' cap k:Nat} {ls ls':List AV} (hh:YH w G (.row (.slice (some ⟨g,0,none⟩) len cap) k ls::h2)) {cs cs':Array Value} {e:TypeId}
  (hb:w.heap[g]? = some (.cells cs e (0,0))) (XO:cs'.size=cs.size) (hle:len'<=cap) (hcap:cs.size=cap*k) (hl:ls'.length=len'*k) (hls:YT w G ls' (cs'.toList.take (len'*k))) :
  YH (w.setRow g cs') G (.row (.slice (some ⟨g,0,none⟩) len' cap) k ls'::h2) /\
   X3 w G (.row (.slice (some ⟨g,0,none⟩) len cap) k ls::h2) (w.setRow g cs') G (.row (.slice (some ⟨g,0,none⟩) len' cap) k ls'::h2):=by
 have hmem:Res.row (.slice (some ⟨g,0,none⟩) len cap) k ls∈Res.row (.slice (some ⟨g,0,none⟩) len cap) k ls::h2:=Xm ..
 have hA:U5 G w (w.setRow g cs') G:=⟨fun c j hg=>by
  have hne:c≠g:=fun he=>hh.prot _ hmem c j he hg
  simp [World.cell?,VT w g c cs' hne],fun _ _ h=>h⟩
 have e1:X3 w G [.row (.slice (some ⟨g,0,none⟩) len cap) k ls] (w.setRow g cs') G [.row (.slice (some ⟨g,0,none⟩) len' cap) k ls']:=by
  refine ⟨rfl,rfl,rfl,by simp [World.setRow],fun _ _ h=>h,?_,fun _ _ _ h=>.inl h,?_⟩
  ·intro c hc
   by_cases hcb:c=g
   ·subst hcb
    exact .inr ⟨cs,cs',e,(0,0),hb,setRow_heap w c cs cs' e (0,0) hb,XO,fun j hj=>absurd ⟨_,Xm ..,rfl⟩ hj⟩
   ·exact .inl (VT w g c cs' hcb)
  ·rintro c j _ ⟨r,hr,hf⟩
   rw [XE.1 hr] at hf
   exact ⟨_,Xm ..,hf⟩
 have e2:YH (w.setRow g cs') G [.row (.slice (some ⟨g,0,none⟩) len' cap) k ls']:=by
  refine ⟨fun r hr=>?_,EC _ _,fun r hr c j hf hg=>?_,fun c j hg=>?_⟩
  ·rw [XE.1 hr]
   exact .inr ⟨g,len',cap,cs',e,rfl,setRow_heap w g cs cs' e (0,0) hb,hle,XO.trans hcap,hl,hls.mono hA⟩
  ·rw [XE.1 hr] at hf
   exact hh.prot _ hmem c j hf hg
  ·have:=hh.lt c j hg
   simpa [World.setRow] using this
 exact YH.frame (h:=[.row (.slice (some ⟨g,0,none⟩) len cap) k ls]) (k:=h2) hh e1 e2
section
variable {P:Program} {n:Nat} {ops:Array Oper} {k:Nat} {F:Fr} {h2:List Res}
theorem Sf {K:Fr->List Res->Prop} {v:Hd} {sz m:Nat} {ls xs:List AV} {hx:Option Value} (hd:VU n (ZP ops k)=true) (ha:Q0 P ops F k=some (.val v.v,.sl xs hx,sz))
  (hxs:∀y∈xs,y.leaves.length=sz) (hone:(Z9 xs).all AV.one=true) (hm0:ls.length=m*sz) (hk0:0<sz) (hne:xs≠[]) (hbound:m+xs.length<=4294967296)
  (hK:∀v':Hd,K (F.put (ZP ops k).dst (.val v'.v)) (.row v'.v sz (ls++Z9 xs)::h2)):WR P n (ZP ops k) F (.row v.v sz ls::h2) K:=by
 unfold Q0 at ha
 generalize hoo:ZP ops k=o at ha hd hK
 obtain ⟨dst,op,type,pos,after,guard⟩:=o
 cases op<;>simp only at ha<;>try (cases ha)
 rename_i c
 obtain ⟨callee,args,tys⟩:=c
 simp only at ha
 split at ha
 case h_2=>cases ha
 rename_i s x t t' hargs htys
 split at ha
 case h_2=>cases ha
 rename_i e htt ht
 have:=Tu htt
 subst this
 split at ha
 case h_2=>cases ha
 rename_i i hinfo
 split at ha
 case h_2=>cases ha
 rename_i z hz
 split at ha
 case h_2=>cases ha
 rename_i hb
 simp only [YX] at hb
 simp only [Ww,Prod.mk.injEq] at ha
 obtain ⟨h3,h4,hk1⟩:=ha
 have e1:args=#[s,x]:=by rw [<-T8 (xs:=args),hargs]
 have e2:tys=#[t,t]:=by rw [<-T8 (xs:=tys),htys]
 subst e1;subst e2
 have hzs:z.cells.size=sz:=by rw [Tu hb.1,hk1]
 have hby:=Vl hb.2
 have hfl:=UL xs hxs
 intro Q w G a hF hh
 have v1:=hF.ev s
 have v2:=hF.ev x
 rw [h3] at v1
 rw [h4] at v2
 have v1:=v1.val_inv
 have v2:=v2.forget
 have finish:∀(v':Hd) w',(Builtin.append_ #[t,t] type #[v.v,a.eval x]).run P w=.ok v'.v w'->YH w' G (.row v'.v sz (ls++Z9 xs)::h2)->X3 w G (.row v.v sz ls::h2) w' G (.row v'.v sz (ls++Z9 xs)::h2) ->
   ({ dst:=dst,op:=.call { callee:=.builtin .append,args:=#[s,x],argTypes:=#[t,t] },type:=type,pos:=pos,after:=after,guard:=guard }:Oper).wp P a w
    (fun a' w'=>∃F' h' G',K F' h'/\FR w' G' n F' a'/\YH w' G' h'/\X3 w G (.row v.v sz ls::h2) w' G' h') Q:=by
  intro v' w' hr j1 j2
  have hrun:(execOp a.eval { dst:=dst,op:=.call { callee:=.builtin .append,args:=#[s,x],argTypes:=#[t,t] },type:=type,pos:=pos,after:=after,guard:=guard }).run P w=.ok (.value v'.v) w':=by
   simp only [execOp,resolve,invoke,builtin,Sem.run_bind,Sem.run_pure,Result.andThen_ok,G9,T9,G8,v1,hr]
  unfold Oper.wp
  rw [hrun]
  exact ⟨_,_,G,hK v',(hF.mono (j2.agree hh)).put (TO hd) .val,j1,j2⟩
 have hrow0:=hh.ok (.row v.v sz ls) (Xm ..)
 have hsub2:∀r:Res,List.Sublist (r::h2) (r::.row v.v sz ls::h2):=fun r=>List.Sublist.cons_cons _ (Co _ _)
 have grown:∀(olds news:List Value) (old:Nat),YT w G ls olds->YT w G (Z9 xs) news ->
   YH (w.drew.alloc (.cells (olds.toArray++news.toArray++Builtin.zeroCells z.cells (grownCap w (m+xs.length) old e-(m+xs.length))) e)) G
    (.row (.slice (some ⟨w.heap.size,0,none⟩) (m+xs.length) (grownCap w (m+xs.length) old e)) sz (ls++Z9 xs)::h2) /\
   X3 w G (.row v.v sz ls::h2) (w.drew.alloc (.cells (olds.toArray++news.toArray++Builtin.zeroCells z.cells (grownCap w (m+xs.length) old e-(m+xs.length))) e)) G
    (.row (.slice (some ⟨w.heap.size,0,none⟩) (m+xs.length) (grownCap w (m+xs.length) old e)) sz (ls++Z9 xs)::h2):=by
  intro olds news old ho hn
  have Xo:=grownCap_ge w (m+xs.length) old e
  have hol:=ho.length
  have hnl:=hn.length
  have hlen:(ls++Z9 xs).length=(m+xs.length)*sz:=by rw [ZV,hm0,hfl,QY]
  obtain ⟨j1,j2⟩:=hh.drew.alloc_rrow (olds.toArray++news.toArray++Builtin.zeroCells z.cells (grownCap w (m+xs.length) old e-(m+xs.length))) e
   (ls:=ls++Z9 xs) (len:=m+xs.length) (cap:=grownCap w (m+xs.length) old e) (k:=sz) Xo
   (by
    have q2:(grownCap w (m+xs.length) old e-(m+xs.length))*sz=grownCap w (m+xs.length) old e*sz-(m+xs.length)*sz:=Nat.sub_mul ..
    have q3:(m+xs.length)*sz<=grownCap w (m+xs.length) old e*sz:=JA _ Xo
    have q4:(m+xs.length)*sz=m*sz+xs.length*sz:=QY ..
    simp only [Array.size_append,Gc,size_zeroCells,hzs,hol,hnl,hm0,hfl]
    omega) hlen
   (by
    have:(olds.toArray++news.toArray++Builtin.zeroCells z.cells (grownCap w (m+xs.length) old e-(m+xs.length))).toList.take ((m+xs.length)*sz)=olds++news:=by
     simp only [Iv]
     rw [<-hlen,ZV,<-hol,<-hnl,<-ZV]
     exact Ab
    rw [this]
    exact (ho.append hn).mono (BI w G))
  exact ⟨j1.sub (hsub2 _),(X3.drew w G _).trans (j2.sub' (hsub2 _))⟩
 generalize hax:a.eval x=ax at v2 finish
 cases v2 with
 | nil _=>exact absurd rfl hne
 | sl hq hcc hm=>
  rename_i b o' k' c
  have hpos:0<xs.length:=Jz.2 hne
  have hfm:=hm.flat_mem
  obtain ⟨news,hn,hnc⟩:=hfm.cells
  have hnl:news.length=xs.length*i.size:=by rw [hn.length,hfl,hk1]
  have hone':=hn.one_cells hone
  have hnews:∀j u,news[j]? = some u->w.cell? ((⟨b,o',none⟩:Addr).add j)=some u:=fun j u hj=>by rw [JD];exact (hnc j u hj).1
  have hbb:(m+xs.length)*i.bytes<=140737488355328:=by
   have:=Nat.mul_le_mul hbound hby
   omega
  rcases hrow0 with ⟨hv0,hl0⟩|⟨g,len,cap,cur,el,hv0,hrow,hlc,hcur,hll,hcells⟩
  ·subst hl0
   have hm1:m=0:=by
    have:m*sz=0:=by simpa using hm0.symm
    rcases Nat.mul_eq_zero.1 this with h|h
    ·exact h
    ·omega
   subst hm1
   rw [hv0] at finish hh ⊢
   have hr:=run_append_nil (P:=P) w t type e i z ht hinfo hz ⟨b,o',none⟩ xs.length c news hnl hnews hpos om (by simp only [Wf] at hbb;omega)
   obtain ⟨j1,j2⟩:=grown [] news 0 .nil hn
   simp only [Wf,Array.empty_append,A9] at j1 j2
   rw [hv0] at j2
   exact finish ⟨some ⟨w.heap.size,0,none⟩,xs.length,grownCap w xs.length 0 e⟩ _ hr (by simpa using j1) (by simpa using j2)
  ·have hlm:len=m:=Ix hk0 (hll.symm.trans hm0)
   subst hlm
   rw [hv0] at finish hh ⊢
   have q5:len*sz<=cap*sz:=JA _ hlc
   have h1:(cur.toList.take (len*sz)).length=len*sz:=by rw [XW,A7,hcur,VG q5]
   have hcl:cur.toList.length=cap*sz:=by rw [A7,hcur]
   by_cases hroom:len+xs.length<=cap
   ·have q1:(len+xs.length)*sz<=cap*sz:=JA _ hroom
    have q2:(len+xs.length)*sz=len*sz+xs.length*sz:=QY ..
    have hfit:len*i.size+news.length<=cur.size:=by rw [hnl,hcur,hk1];omega
    have hr:=MU (P:=P) w t type e el i ht hinfo g len cap cur hrow ⟨b,o',none⟩ xs.length c news hnl hnews hone' hroom hfit
    rw [hk1] at hr
    have hnl':news.length=xs.length*sz:=by rw [hnl,hk1]
    obtain ⟨j1,j2⟩:=hh.rgrow (ls':=ls++Z9 xs) (len':=len+xs.length) (cs':=(cur.toList.take (len*sz)++news++cur.toList.drop (len*sz+news.length)).toArray) hrow
     (by simp only [Gc,ZV,h1,hnl',Bz,hcl,hcur];omega) hroom hcur (by rw [ZV,hll,hfl,q2]) (by
      have:(cur.toList.take (len*sz)++news++cur.toList.drop (len*sz+news.length)).toArray.toList.take ((len+xs.length)*sz)=cur.toList.take (len*sz)++news:=by
       rw [Gd,q2,<-hnl']
       conv=>lhs;arg 1;rw [show len*sz+news.length=(cur.toList.take (len*sz)++news).length from by rw [ZV,h1]]
       exact Ab
      rw [this]
      exact hcells.append hn)
    exact finish ⟨some ⟨g,0,none⟩,len+xs.length,cap⟩ _ hr j1 j2
   ·have hr:=run_append_grow (P:=P) w t type e i z ht hinfo hz ⟨g,0,none⟩ len cap (cur.toList.take (len*sz)) (by rw [hk1];exact h1) (fun j u hj=>by
     rw [JD,cell_of_row w g _ cur el (0,0) hrow]
     rw [Qh] at hj
     split at hj
     ·simpa using hj
     ·cases hj) ⟨b,o',none⟩ xs.length c news hnl hnews om om (growslice_fits om hbb)
    obtain ⟨j1,j2⟩:=grown (cur.toList.take (len*sz)) news cap hcells hn
    rw [hv0] at j2
    exact finish ⟨some ⟨w.heap.size,0,none⟩,len+xs.length,grownCap w (len+xs.length) cap e⟩ _ hr j1 j2
end
section
variable {P:Program} {n:Nat} {ops:Array Oper} {B:Fr->List Res->Prop} {k:Nat} {F:Fr} {h:List Res}
theorem Fa (j m:Nat) (v:Hd) (sz:Nat) (ls xs:List AV) (hx:Option Value) (hm0:ls.length=m*sz) (hxs:∀y∈xs,y.leaves.length=sz) (hone:(Z9 xs).all AV.one=true) (hne:xs≠[]) (hbound:m+xs.length<=4294967296)
  (hK:∀v':Hd,SI P n ops B (k+1) (F.put (ZP ops k).dst (.h v')) (rK v' sz (ls++Z9 xs)::Xv [j] h)) (hk0:0<sz:=by omega)
  (hk:Xr n ops F k=true:=by kernel_rfl) (ha:Q0 P ops F k=some (.h v,.sl xs hx,sz):=by kernel_rfl) (hp:XX [j] h=some [rK v sz ls]:=by kernel_rfl):SI P n ops B k F h:=
 QL hk (WR.perm (Uq (VM hp)) (Sf (UQ hk).2.1 ha hxs hone hm0 hk0 hne hbound hK))
end
end Go.Abs
namespace Go.Abs
section
variable {P:Program} {n:Nat} {ops:Array Oper} {B:Fr->List Res->Prop} {T:List (Nat × List Nat)} {fuel:Nat} {done:List Nat} {F:Fr} {h:List Res}
theorem La (i j m:Nat) (js bs:List Nat) (v:Hd) (sz:Nat) (ls xs:List AV) (hx:Option Value) (hm0:ls.length=m*sz) (hxs:∀y∈xs,y.leaves.length=sz) (hone:(Z9 xs).all AV.one=true) (hne:xs≠[]) (hbound:m+xs.length<=4294967296)
  (hK:∀v':Hd,X6 P n ops B (T.filter fun t=>!Vz ops i t.1) fuel (done++[i]) (F.put (ZP ops i).dst (.h v')) (rK v' sz (ls++Z9 xs)::Xv [j] h)) (hk0:0<sz:=by omega) (hk:Xr n ops F i=true:=by kernel_rfl)
  (ha:Q0 P ops F i=some (.h v,.sl xs hx,sz):=by kernel_rfl) (hp:XX [j] h=some [rK v sz ls]:=by kernel_rfl) (ho:UP ops i T=bs:=by kernel_rfl)
  (hj:js.map (fun q=>(V7 (Xv [j] h))[q]?)=bs.map some:=by kernel_rfl):U6 P n ops B T fuel done F h i:=
 Ar [j] js bs hk (VM hp) ho hj (Sf (h2:=[]) (UQ hk).2.1 ha hxs hone hm0 hk0 hne hbound hK)
end
theorem WK.form {P:Program} {f:FuncId} {as1:List AV} {h0:List Res} {T:Hd->AV} {kk m:Nat} {ls:List AV} {hs:List Res} (H:WK P f as1 h0 (fun r h=>∃v:Hd,r=T v/\h=rK v kk ls::hs)) (hm:ls.length=m*kk) (hk:0<kk) (h1:0<m) :
  WK P f as1 h0 (fun r h=>∃(g c:Nat),r=T ⟨some ⟨g,0,none⟩,m,c⟩/\h=rK ⟨some ⟨g,0,none⟩,m,c⟩ kk ls::hs):=by
 intro w G vs hv hh
 refine (H w G vs hv hh).mono ?_
 rintro e w' ⟨u,r,h',G',he,⟨v,rfl,rfl⟩,hr,hh',hx⟩
 obtain ⟨g,c,rfl⟩:=HU (hh'.ok _ (Xm ..)) hm hk h1
 exact ⟨u,_,_,G',he,⟨g,c,rfl,rfl⟩,hr,hh',hx⟩
end Go.Abs
namespace Go.Abs
section
variable {h:List Res}
theorem Zif (j i p:Nat) {u:Value} {kk b:Nat} {es ls:List AV} (hp:XX [j,i] h=some [.row u kk (Z9 es),.obj b ls]) (hes:∀y∈es,y.leaves.length=kk) (hk:0<kk) (hl:ls[p]? = some (.val u)) :
  V0 h (.obj b (ls.set p (.sl es (some u)))::.tail u kk::Xv [j,i] h):=by
 intro w G hh
 have hp':=Uq (VM hp)
 have hh':=hh.perm hp'
 obtain ⟨G',h1,h2',h3⟩:=Ej (h2:=.obj b ls::Xv [j,i] h) hh' hes hk
 have e:=h2'.perm hp'.symm (TI _)
 have h1:YH w G' (.tail u kk::.obj b ls::Xv [j,i] h):=h1
 have perm:(Res.tail u kk::.obj b ls::Xv [j,i] h).Perm (.obj b ls::.tail u kk::Xv [j,i] h):=List.Perm.swap ..
 have h4:=h1.perm perm
 have e4:=e.perm (TI _) perm
 have hset:∀{w:World} {G:Yk},RV w G (.sl es (some u)) u->Qi w G (.obj b ls)->Qi w G (.obj b (ls.set p (.sl es (some u)))):=by
  intro w G hu hr
  obtain ⟨cs,el,k1,k5⟩:=hr
  refine ⟨cs,el,k1,?_⟩
  obtain ⟨c,c1,c2⟩:=k5.get p _ hl
  have:=c2.val_inv
  subst this
  have h6:=k5.set p hu
  rwa [show cs.toList.set p c=cs.toList from by
   apply List.ext_getElem?
   intro q
   rw [List.getElem?_set]
   split
   ·rename_i hq;subst hq;split
    ·exact c1.symm
    ·rename_i hq2;rw [Jy om]
   ·rfl] at h6
 refine ⟨G',⟨fun r hr=>?_,?_,fun r hr=>?_,h4.lt⟩,⟨e4.os,e4.tape,e4.output,e4.size,e4.sub,e4.same,e4.newG,fun b' o hb ⟨r,hr,hf⟩=>e4.newfp b' o hb ?_⟩⟩
 ·rcases YL.1 hr with rfl|hr
  ·exact hset h3 (h4.ok _ (Xm ..))
  ·exact h4.ok r (Xt _ hr)
 ·have:=WY.1 h4.apart
  exact WY.2 ⟨fun r hr b' o f1 f2=>this.1 r hr b' o f1 f2,this.2⟩
 ·rcases YL.1 hr with rfl|hr
  ·exact fun b' o f1 hg=>h4.prot (.obj b ls) (Xm ..) b' o f1 hg
  ·exact h4.prot r (Xt _ hr)
 ·rcases YL.1 hr with rfl|hr
  ·exact ⟨.obj b ls,Xm ..,hf⟩
  ·exact ⟨r,Xt _ hr,hf⟩
theorem Uw (j i p:Nat) (u:Value) (kk b:Nat) (es ls:List AV) (hes:∀y∈es,y.leaves.length=kk) (hl:ls[p]? = some (.val u)) (hk:0<kk:=by omega) (hp:XX [j,i] h=some [.row u kk (Z9 es),.obj b ls]:=by kernel_rfl) :
  V0 h (.obj b (ls.set p (.sl es (some u)))::.tail u kk::Xv [j,i] h):=Zif j i p hp hes hk hl
end
end Go.Abs
namespace Go.Abs
section
variable {P:Program} {n:Nat} {ops:Array Oper} {k:Nat} {F:Fr} {h:List Res}
theorem Zhs (j:Nat) {g l c m kk:Nat} {ls:List AV} (hi:Em P ops F k=some (.val (.slice (some ⟨g,0,none⟩) l c),(m:Int))) (hj:h[j]? = some (.row (.slice (some ⟨g,0,none⟩) l c) kk ls)) (hle:m<=l) :
  W3 P (ZP ops k) F h [] (.val (.slice (some ⟨g,0,none⟩) m c)):=by
 unfold Em at hi
 generalize hoo:ZP ops k=o at hi
 obtain ⟨dst,op,type,pos,after,guard⟩:=o
 cases op<;>simp only at hi<;>try (cases hi)
 rename_i t x lo hi' mx
 cases lo with
 | some _=>simp at hi
 | none=>
  cases hi' with
  | none=>simp at hi
  | some y=>
   cases mx with
   | some _=>simp at hi
   | none=>
    simp only at hi
    split at hi
    ·rename_i e ht
     split at hi
     ·rename_i inf hinf
      split at hi
      ·rename_i ik m' hm
       simp only [Ww,Prod.mk.injEq] at hi
       obtain ⟨hx,rfl⟩:=hi
       intro n w G a hF hh
       have v1:=hF.ev x
       rw [hx] at v1
       have v1:=v1.val_inv
       have v2:=hF.ev y
       rw [hm] at v2
       have v2:=v2.val_inv
       have hcap:l<=c:=by
        rcases hh.ok _ (Y4 hj) with ⟨h0,_⟩|⟨g',l',c',cur,el,h0,_,hc,_⟩
        ·cases h0
        ·cases h0;exact hc
       refine ⟨_,.val,fun w' _ _=>?_⟩
       simp only [execOp,v1,v2,ED,Option.map_none]
       refine VO ?_
       simp only [Instr.sliceAt,Sem.run_bind,Uh ht,Result.andThen_ok,Instr.slice]
       have hmm:(Instr.sliceBounds true l c none (some (.int ik (m:Int))) none).run P w'=.ok (0,m,c) w':=by
        have ZH:=fun q=>FJ (P:=P) (c:=q) (v:=.int ik (m:Int)) (y:=c) rfl om om w'
        simp [Instr.sliceBounds,ZH]
       rw [hmm]
       have hz:∀a:Addr,a.add 0=a:=fun a=>by simp [Addr.add]
       simp only [Result.andThen_ok,Qx hinf,Nat.zero_mul,hz]
       by_cases h0:c=0<;>simp [h0]
      ·cases hi
     ·cases hi
    ·cases hi
theorem Rq (j g l c m kk:Nat) (ls:List AV) (hle:m<=l:=by omega) (hi:Em P ops F k=some (.val (.slice (some ⟨g,0,none⟩) l c),(m:Int)):=by kernel_rfl) (hj:h[j]? = some (.row (.slice (some ⟨g,0,none⟩) l c) kk ls):=by kernel_rfl) :
  W3 P (ZP ops k) F h [] (.val (.slice (some ⟨g,0,none⟩) m c)):=Zhs j hi hj hle
variable {B:Fr->List Res->Prop}
end
end Go.Abs
end
namespace Go.Abs
theorem Yi {α:Type} {xs:List α} {k:Nat} {x:α} (h:xs[k]? = some x):xs.drop k=x::xs.drop (k+1):=by
 have hk:=(X9.1 h).1
 rw [Nt hk]
 congr 1
 rw [Dp hk] at h
 exact Dq h
theorem Xn {α:Type} {xs:List α} {k:Nat} (h:xs.length<=k):xs.drop k=[]:=G7 h
theorem V4 {α:Type} {xs:List α} {k:Nat} {x:α} (h:xs[k]? = some x):xs.take (k+1)=xs.take k++[x]:=by
 rw [List.take_add_one,h];rfl
def YJ:List Zc->Nat
 | []=>0
 | d::ds=>d.cons.length+YJ ds
theorem Dx (xs ys:List Zc):YJ (xs++ys)=YJ xs+YJ ys:=by
 induction xs with
 | nil=>simp [YJ]
 | cons d ds ih=>simp [YJ,ih];omega
structure Xs (ds:List Zc):Prop where
 len:ds.length<=4
 cons:∀d∈ds,d.cons.length<=3
 fields:∀d∈ds,∀c∈d.cons,c.fields.length<=3
theorem Z58 {ds:List Zc} {m:Nat} (h:∀d∈ds,d.cons.length<=m):YJ ds<=ds.length*m:=by
 induction ds with
 | nil=>simp [YJ]
 | cons d ds ih=>
  have h1:=h d (by simp)
  have h2:=ih (fun x hx=>h x (by simp [hx]))
  simp only [YJ,Yp,QY];omega
theorem Xs.sum {ds:List Zc} (h:Xs ds):YJ ds<=12:=by
 have:=Z58 h.cons
 have:=h.len
 have:ds.length*3<=4*3:=JA 3 h.len
 omega
theorem Xs.take {ds:List Zc} (h:Xs ds) (k:Nat):Xs (ds.take k):=
 ⟨by have:=h.len;simp;omega,fun d hd=>h.cons d (QX hd),fun d hd=>h.fields d (QX hd)⟩
theorem Xs.cons_at {ds:List Zc} (h:Xs ds) {k:Nat} {d:Zc} (hd:ds[k]? = some d):d.cons.length<=3:=h.cons d (Y4 hd)
theorem Xs.fields_at {ds:List Zc} (h:Xs ds) {k j:Nat} {d:Zc} {c:Yg} (hd:ds[k]? = some d) (hc:d.cons[j]? = some c):c.fields.length<=3:=
 h.fields d (Y4 hd) c (Y4 hc)
def UB (c:Int):List Zc->Nat->Nat->Int × LI
 | [],_,_=>(-1,[])
 | d::ds,i,first=>
  if (first:Int)<=c/\c<=((first+d.cons.length:Nat):Int)-1 then ((i:Int)+1,(d.cons[(c-first).toNat]?.map (·.fields)).getD []) else UB c ds (i+1) (first+d.cons.length)
def Wn (ds:List Zc) (c:Int):Int:=(UB c ds 0 0).1
def ZO (ds:List Zc) (c:Int):LI:=(UB c ds 0 0).2
theorem Gz {c:Int}:∀{ds:List Zc} {i first:Nat},(UB c ds i first=(-1,[]) ∨
  ∃k d x,ds[k]? = some d/\(first+YJ (ds.take k):Int)<=c/\c<first+YJ (ds.take k)+d.cons.length/\d.cons[(c-(first+YJ (ds.take k))).toNat]? = some x/\UB c ds i first=((i:Int)+k+1,x.fields))
 | [],_,_=>.inl rfl
 | d::ds,i,first=>by
  rw [UB]
  split
  ·rename_i h
   have hlt:(c-first).toNat<d.cons.length:=by omega
   refine .inr ⟨0,d,d.cons[(c-first).toNat],rfl,by simp [YJ];omega,by simp [YJ];omega,?_,?_⟩
   ·simp [YJ]
   ·rw [Dp hlt];simp
  ·rcases Gz (c:=c) (ds:=ds) (i:=i+1) (first:=first+d.cons.length) with h|⟨k,e,x,h1,h2,h3,h4,h5⟩
   ·exact .inl h
   ·refine .inr ⟨k+1,e,x,by simpa using h1,by simp [YJ];omega,by simp [YJ];omega,?_,?_⟩
    ·rw [<-h4];congr 3;simp [YJ];omega
    ·rw [h5];congr 1;omega
theorem L7 {ds:List Zc} {c:Int} (h:¬Wn ds c<1) :
  ∃k d x,ds[k]? = some d/\(YJ (ds.take k):Int)<=c/\d.cons[(c-YJ (ds.take k)).toNat]? = some x/\Wn ds c=(k:Int)+1/\ZO ds c=x.fields:=by
 rcases Gz (c:=c) (ds:=ds) (i:=0) (first:=0) with h1|⟨k,d,x,h1,h2,_,h4,h5⟩
 ·simp [Wn,h1] at h
 ·exact ⟨k,d,x,h1,by simpa using h2,by simpa using h4,by simp [Wn,h5],by simp [ZO,h5]⟩
theorem Ob {ds:List Zc} {c:Int} (h:Wn ds c<1):ZO ds c=[]/\Wn ds c=-1:=by
 rcases Gz (c:=c) (ds:=ds) (i:=0) (first:=0) with h1|⟨k,d,x,h1,h2,_,h4,h5⟩
 ·simp [ZO,Wn,h1]
 ·simp [Wn,h5] at h;omega
def VX (first:Int):Nat->LI
 | 0=>[]
 | n+1=>first::VX (first+1) n
theorem S7 (first:Int) (n:Nat):VX first (n+1)=VX first n++[first+n]:=by
 induction n generalizing first with
 | zero=>simp [VX]
 | succ n ih=>rw [VX,ih (first+1),VX];simp;omega
@[simp] theorem Zd8 (first:Int) (n:Nat):(VX first n).length=n:=by
 induction n generalizing first with
 | zero=>rfl
 | succ n ih=>simp [VX,ih]
def ZY (ds:List Zc) (t:Int):LI:=
 if 1<=t/\t<=ds.length then VX (YJ (ds.take (t-1).toNat)) (((ds[(t-1).toNat]?).map (·.cons.length)).getD 0) else []
def Dt (frm to_:Int):List Zc->Nat->Int
 | [],_=>-1
 | d::ds,i=>if d.cons.length=0/\d.frm=frm/\d.to_=to_ then (i:Int)+1 else Dt frm to_ ds (i+1)
def Ai (ds:List Zc) (frm to_:Int):Int:=Dt frm to_ ds 0
def VW (ds:List Zc) (t:Int):Bool:=decide (1<=t/\t<=ds.length)&&((ds[(t-1).toNat]?).map fun d=>decide (d.cons.length=0)).getD false
theorem Rn {ds:List Zc} {t:Int} {x:Zc} (h:1<=t/\t<=ds.length) (hx:ds[(t-1).toNat]? = some x):((x.cons.length:Int)==0)=VW ds t:=by
 rw [VW,hx,Yd];simp [h]
theorem Rm {ds:List Zc} {t:Int} (h:¬(1<=t/\t<=ds.length)):false=VW ds t:=by
 rw [VW,Yd];simp only [Bool.false_eq_true,YX,decide_eq_true_eq,h,false_and]
def Wm (m:Nat) (xs:LI):Bool:=xs.all fun t=>decide (0<=t/\t<=m)
end Go.Abs
section
namespace Go.Abs
section
variable {h:List Res}
end
end Go.Abs
namespace Go.Abs
section
variable {P:Program} {ops:Array Oper} {k:Nat} {F:Fr} {h:List Res}
def Mw (ops:Array Oper) (F:Fr) (k:Nat):Option (Int × Int):=
 match (ZP ops k).op with
 | .call c=>match c.callee,c.args.toList with
  | .builtin .max,[x,y]=>match F.ev x,F.ev y with
   | .val (.int .i64 a),.val (.int .i64 b)=>some (a,b)
   | _,_=>none
  | _,_=>none
 | _=>none
theorem Zhp {a b:Int} (hl:Mw ops F k=some (a,b)):W3 P (ZP ops k) F h [] (.i (max a b)):=by
 unfold Mw at hl
 generalize hoo:ZP ops k=o at hl
 obtain ⟨dst,op,type,pos,after,guard⟩:=o
 cases op<;>simp only at hl<;>try (cases hl)
 rename_i c
 obtain ⟨callee,args,tys⟩:=c
 simp only at hl
 split at hl
 case h_2=>cases hl
 rename_i x y hargs
 split at hl
 case h_2=>cases hl
 rename_i u v hx hy
 cases hl
 have e1:args=#[x,y]:=by rw [<-T8 (xs:=args),hargs]
 subst e1
 intro n w G a' hF hh
 have vx:=hF.ev x
 have vy:=hF.ev y
 rw [hx] at vx
 rw [hy] at vy
 have vx:=vx.val_inv
 have vy:=vy.val_inv
 refine ⟨_,.val,fun w' _ _=>?_⟩
 simp only [execOp,resolve,invoke,builtin,Sem.run_bind,Sem.run_pure,Result.andThen_ok,G9,T9,G8,vx,vy]
 have e:(if b>a then b else a)=max a b:=by
  rw [Int.max_def]
  split<;>split<;>omega
 simp [Builtin.max_,Builtin.max2,Sem.run_pure,List.foldlM,e]
theorem Hq (a b:Int) (ha:Mw ops F k=some (a,b):=by kernel_rfl):W3 P (ZP ops k) F h [] (.i (max a b)):=Zhp ha
end
end Go.Abs
end
namespace Go.Abs
section
variable {P:Program} {n:Nat} {ops:Array Oper} {B:Fr->List Res->Prop} {k:Nat} {F:Fr} {h:List Res} {T:List (Nat × List Nat)} {fuel:Nat} {done:List Nat}
theorem Sh {K:Fr->List Res->Prop} {ls:List AV} {len sz:Nat} (hd:VU n (ZP ops k)=true) (ha:TB P ops F k=some (ls,len,sz)) (hlen:ls.length=len*sz)
  (hK:∀g,K (F.put (ZP ops k).dst (.val (.slice (some ⟨g,0,none⟩) len len))) (.row (.slice (some ⟨g,0,none⟩) len len) sz ls::h)):WR P n (ZP ops k) F h K:=by
 unfold TB at ha
 generalize hoo:ZP ops k=q at ha hd hK
 obtain ⟨dst,op,type,pos,after,guard⟩:=q
 cases op<;>simp only at ha<;>try (cases ha)
 rename_i t ln parts
 split at ha
 case h_2=>cases ha
 rename_i e ht
 split at ha
 case h_2=>cases ha
 rename_i i hi
 split at ha
 case h_2=>cases ha
 rename_i hc
 simp only [YX] at hc
 split at ha
 case h_2=>cases ha
 rename_i ls' hf
 simp only [Ww,Prod.mk.injEq] at ha
 obtain ⟨rfl,rfl,XO⟩:=ha
 intro Q w G a hF hh
 obtain ⟨cs,h1,h2⟩:=I1 hF parts ht hi rfl hc.1 hc.2 hf
 have hr:(execOp a.eval { dst:=dst,op:=.buildSlice t ln parts,type:=type,pos:=pos,after:=after,guard:=guard }).run P w =
   .ok (.value (.slice (some ⟨w.heap.size,0,none⟩) ln ln)) (w.alloc (.cells cs e)):=by
  simp only [execOp]
  exact VO h2
 unfold Oper.wp
 rw [hr]
 have hlc:=h1.length
 simp only [A7] at hlc
 obtain ⟨j1,j2⟩:=hh.alloc_rrow cs e (ls:=ls') (len:=ln) (cap:=ln) (k:=sz) (X5 _) (by rw [hlc];exact hlen) hlen (by rw [<-hlen,<-hlc];simpa [Wg] using h1)
 exact ⟨_,_,G,hK _,(hF.mono (j2.agree hh)).put (TO hd) .val,j1,j2⟩
theorem UO (es es':List AV) (he:es=es') (len sz:Nat) (hK:∀v,SI P n ops B (k+1) (F.put (ZP ops k).dst (.sl es' (some v))) (.tail v sz::h)) (hk:Xr n ops F k=true:=by kernel_rfl)
  (ha:TB P ops F k=some (Z9 es,len,sz):=by kernel_rfl) (hlen:es.length=len:=by kernel_rfl) (hall:AY es sz=true:=by kernel_rfl):SI P n ops B k F h:=by
 subst he;exact iL es len sz hK hk ha hlen hall
theorem WG (i:Nat) (js bs:List Nat) (es es':List AV) (he:es=es') (len sz:Nat) (hK:∀v,X6 P n ops B (T.filter fun t=>!Vz ops i t.1) fuel (done++[i]) (F.put (ZP ops i).dst (.sl es' (some v))) (.tail v sz::h))
  (hk:Xr n ops F i=true:=by kernel_rfl) (ha:TB P ops F i=some (Z9 es,len,sz):=by kernel_rfl) (hlen:es.length=len:=by kernel_rfl) (hall:AY es sz=true:=by kernel_rfl)
  (ho:UP ops i T=bs:=by kernel_rfl) (hj:js.map (fun j=>(V7 h)[j]?)=bs.map some:=by kernel_rfl):U6 P n ops B T fuel done F h i:=by
 subst he;exact dL i js bs es len sz hK hk ha hlen hall ho hj
theorem iKN (ls:List AV) (len sz:Nat) (hK:∀g,SI P n ops B (k+1) (F.put (ZP ops k).dst (.val (.slice (some ⟨g,0,none⟩) len len))) (.row (.slice (some ⟨g,0,none⟩) len len) sz ls::h)) (hlen:ls.length=len*sz:=by rfl) (hk:Xr n ops F k=true:=by kernel_rfl)
  (ha:TB P ops F k=some (ls,len,sz):=by kernel_rfl):SI P n ops B k F h:=QL hk (Sh (UQ hk).2.1 ha hlen hK)
theorem dKN (i:Nat) (js bs:List Nat) (ls:List AV) (len sz:Nat) (hK:∀g,X6 P n ops B (T.filter fun t=>!Vz ops i t.1) fuel (done++[i]) (F.put (ZP ops i).dst (.val (.slice (some ⟨g,0,none⟩) len len))) (.row (.slice (some ⟨g,0,none⟩) len len) sz ls::h)) (hlen:ls.length=len*sz:=by rfl)
  (hk:Xr n ops F i=true:=by kernel_rfl) (ha:TB P ops F i=some (ls,len,sz):=by kernel_rfl) (ho:UP ops i T=bs:=by kernel_rfl) (hj:js.map (fun j=>(V7 h)[j]?)=bs.map some:=by kernel_rfl):U6 P n ops B T fuel done F h i:=
 Ar (h1:=[]) (h2:=h) [] js bs hk rfl ho hj (Sh (UQ hk).2.1 ha hlen hK)
end
theorem WK.frz {P:Program} {f:FuncId} {as1:List AV} {h0:List Res} {E:Type} {kk:Nat} {es:E->List AV} {hs:E->List Res} {Q:E->Prop} (H:WK P f as1 h0 (fun r h=>∃(e:E) (v:Hd),r=.h v/\h=rK v kk (Z9 (es e))::hs e/\Q e)) (hes:∀e,∀y∈es e,y.leaves.length=kk) (hk:0<kk) :
  WK P f as1 h0 (fun r h=>∃(e:E) (v:Value),r=.sl (es e) (some v)/\h=.tail v kk::hs e/\Q e):=by
 intro w G vs hv hh
 refine (H w G vs hv hh).mono ?_
 rintro e w' ⟨u,r,h',G',he,⟨x,v,rfl,rfl,hq⟩,hr,hh',hx⟩
 obtain ⟨G2,h1,h2,h3⟩:=Ej hh' (hes x) hk
 have hrv:=hr.val_inv
 subst hrv
 exact ⟨_,_,_,G2,he,⟨x,v.v,rfl,rfl,hq⟩,h3,h1,hx.trans h2⟩
theorem LO {es:List AV} {sz k:Nat} {y:AV} (h:∀x∈es,x.leaves.length=sz) (hy:y.leaves.length=sz) (hk:k<es.length):(Z9 es).take (k*sz)++y.leaves++(Z9 es).drop (k*sz+y.leaves.length)=Z9 (es.set k y):=by
 obtain ⟨x,hx⟩:=Bf (xs:=es) (j:=k) hk
 have hxl:=h x (Y4 hx)
 have e1:es=es.take k++(x::es.drop (k+1)):=by rw [<-Yi hx,TL]
 have e2:es.set k y=es.take k++(y::es.drop (k+1)):=by rw [Ga,Zh hk]
 have hl:(Z9 (es.take k)).length=k*sz:=by rw [UL (k:=sz) _ (fun z hz=>h z (QX hz)),XW,VG om]
 have e3:Z9 es=Z9 (es.take k)++(x.leaves++Z9 (es.drop (k+1))):=by
  conv=>lhs;rw [e1,Tk]
  simp [Z9]
 rw [e2,Tk,e3,FG hl (by rw [hxl,hy])]
 simp [Z9]
theorem Z66 (ds:List Zc) (k:Nat) (d:Zc):Yv (ds.set k d)=(Yv ds).set k (Cv d):=by simp [Yv,List.map_set]
theorem CS (xs:List Zc):(Z9 (Yv xs)).length=xs.length*3:=by rw [UL (k:=3) _ (QF xs)];simp
theorem GY {ds:List Zc} {k:Nat} (d:Zc) (hk:k<ds.length):(Z9 (Yv ds)).take (k*3)++KM d++(Z9 (Yv ds)).drop (k*3+3)=Z9 (Yv (ds.set k d)):=by
 rw [Z66];exact LO (y:=Cv d) (QF ds) rfl (by simpa using hk)
theorem LL (xs ys:List Zc):Z9 (Yv xs)++Z9 (Yv ys)=Z9 (Yv (xs++ys)):=by rw [Z64,Tk]
section
variable {P:Program} {n:Nat} {ops:Array Oper} {B:Fr->List Res->Prop} {k:Nat} {F:Fr} {h:List Res}
theorem D4 (j m:Nat) {v:Hd} {kk:Nat} {ls:List AV} (hm:ls.length=m*kk) (h0:0<m) (H:∀g c',v=⟨some ⟨g,0,none⟩,m,c'⟩->SI P n ops B k F h) (hk:0<kk:=by omega) (hj:h[j]? = some (rK v kk ls):=by kernel_rfl):SI P n ops B k F h:=by
 intro Q w G a hF hh hq
 obtain ⟨g,c',e⟩:=HU (hh.ok _ (Y4 hj)) hm hk h0
 exact H g c' e Q w G a hF hh hq
theorem Z5e (j m:Nat) {v:Hd} {kk:Nat} {ls:List AV} {T fuel done} (hm:ls.length=m*kk) (h0:0<m) (H:∀g c',v=⟨some ⟨g,0,none⟩,m,c'⟩->X6 P n ops B T fuel done F h) (hk:0<kk:=by omega) (hj:h[j]? = some (rK v kk ls):=by kernel_rfl):X6 P n ops B T fuel done F h:=by
 intro Q w G a SL hF hh hQ hcl hcov hq
 obtain ⟨g,c',e⟩:=HU (hh.ok _ (Y4 hj)) hm hk h0
 exact H g c' e Q w G a SL hF hh hQ hcl hcov hq
end
section
variable {P:Program} {n:Nat} {ops:Array Oper} {B:Fr->List Res->Prop} {k:Nat} {F:Fr} {h:List Res}
def L9 (P:Program) (ops:Array Oper) (F:Fr) (k:Nat):Option (IntKind × Int):=
 match (ZP ops k).op with
 | .convert s d x=>match P.underlying s,P.underlying d,F.ev x with
  | some (.int _),some (.int q),.val (.int _ z)=>some (q,z)
  | _,_,_=>none
 | _=>none
theorem kCv (q:IntKind) (z z':Int) (e:q.wrap z=z') (hc:L9 P ops F k=some (q,z):=by kernel_rfl):W3 P (ZP ops k) F h [] (.val (.int q z')):=by
 unfold L9 at hc
 generalize hoo:ZP ops k=o at hc
 obtain ⟨dst,op,type,pos,after,guard⟩:=o
 cases op<;>simp only at hc<;>try (cases hc)
 rename_i s d x
 split at hc
 ·rename_i q1 q2 q3 z2 h1 h2 h3
  cases hc
  intro n w G ac hF hh
  have v1:=hF.ev x
  rw [h3] at v1
  have v1:=v1.val_inv
  refine ⟨_,.val,fun w' _ _=>?_⟩
  simp only [execOp,v1]
  refine VO ?_
  simp [convert,Uh h1,Uh h2,Conv.intToInt,e]
 ·cases hc
theorem Ns {z:Int} (h:0<=z/\z<=9223372036854775807):IntKind.i64.wrap z=z:=IntWalk.i64_in _ om
theorem Mi (z:Int) (hz:0<=z/\z<=255) (hc:L9 P ops F k=some (.i64,z):=by kernel_rfl):W3 P (ZP ops k) F h [] (.i z):=kCv .i64 z z (Ns om) hc
def BL (ops:Array Oper) (F:Fr) (k:Nat) (b:BinOp):Option (Int × Int):=
 match (ZP ops k).op with
 | .binOp c _ x y _=>if c==b then match F.ev x,F.ev y with
  | .val (.int .i64 z),.val (.int .i64 u)=>some (z,u)
  | _,_=>none else none
 | _=>none
theorem Hr (a b:Int) (hb:0<b) (ha:0<=a/\a<=9223372036854775807) (hc:BL ops F k .quo=some (a,b):=by kernel_rfl):W3 P (ZP ops k) F h [] (.i (a / b)):=by
 unfold BL at hc
 generalize hoo:ZP ops k=o at hc
 obtain ⟨dst,op,type,pos,after,guard⟩:=o
 cases op<;>simp only at hc<;>try (cases hc)
 rename_i bop t x y yt
 cases bop<;>simp only [Zi,reduceCtorEq,if_false,if_true] at hc<;>try (cases hc)
 split at hc
 ·rename_i z yk h1 h2
  cases hc
  intro n' w G ac hF hh
  have v1:=hF.ev x
  have v2:=hF.ev y
  rw [h1] at v1
  rw [h2] at v2
  have v1:=v1.val_inv
  have v2:=v2.val_inv
  refine ⟨_,.val,fun w' _ _=>?_⟩
  simp only [execOp,v1,v2]
  refine VO ?_
  have e1:a.tdiv b=a / b:=Int.tdiv_eq_ediv_of_nonneg ha.1
  have e2:IntKind.i64.wrap (a / b)=a / b:=Ns ⟨Int.ediv_nonneg ha.1 om,Int.le_trans (Int.ediv_le_self b ha.1) ha.2⟩
  have e3:b≠0:=by omega
  simp [eqGuard,binOp,Op.intDiv,e1,e2,e3]
 ·cases hc
theorem E2 (a b:Int) (hb:0<b) (ha:0<=a) (hc:BL ops F k .rem=some (a,b):=by kernel_rfl):W3 P (ZP ops k) F h [] (.i (a % b)):=by
 unfold BL at hc
 generalize hoo:ZP ops k=o at hc
 obtain ⟨dst,op,type,pos,after,guard⟩:=o
 cases op<;>simp only at hc<;>try (cases hc)
 rename_i bop t x y yt
 cases bop<;>simp only [Zi,reduceCtorEq,if_false,if_true] at hc<;>try (cases hc)
 split at hc
 ·rename_i z yk h1 h2
  cases hc
  intro n' w G ac hF hh
  have v1:=hF.ev x
  have v2:=hF.ev y
  rw [h1] at v1
  rw [h2] at v2
  have v1:=v1.val_inv
  have v2:=v2.val_inv
  refine ⟨_,.val,fun w' _ _=>?_⟩
  simp only [execOp,v1,v2]
  refine VO ?_
  have e1:a.tmod b=a % b:=Int.tmod_eq_emod_of_nonneg ha
  have e3:b≠0:=by omega
  simp [eqGuard,binOp,Op.intDiv,e1,e3]
 ·cases hc
theorem E1 (a b:Nat) (hb:0<b) (ha:a<=9223372036854775807) (hc:BL ops F k .quo=some ((a:Int),(b:Int)):=by kernel_rfl):W3 P (ZP ops k) F h [] (.i (a / b:Nat)):=by
 rw [Int.natCast_ediv];exact Hr a b om om hc
theorem Rs (a b:Nat) (hb:0<b) (_ha:a<=9223372036854775807) (hc:BL ops F k .rem=some ((a:Int),(b:Int)):=by kernel_rfl):W3 P (ZP ops k) F h [] (.i (a % b:Nat)):=by
 rw [Int.natCast_emod];exact E2 a b om om hc
def EA (a b:Int):Int:=IntKind.i64.wrap ((BitVec.ofInt 64 a ^^^ BitVec.ofInt 64 b).toNat:Int)
theorem Z2w {a b:Int} (ha:0<=a/\a<4611686018427387904) (hb:0<=b/\b<4611686018427387904):0<=EA a b/\EA a b<4611686018427387904:=by
 obtain ⟨x,rfl⟩:=Int.eq_ofNat_of_zero_le ha.1
 obtain ⟨y,rfl⟩:=Int.eq_ofNat_of_zero_le hb.1
 have h1:(BitVec.ofInt 64 (x:Int) ^^^ BitVec.ofInt 64 (y:Int)).toNat=x ^^^ y:=by
  rw [BitVec.toNat_xor,BitVec.toNat_ofInt,BitVec.toNat_ofInt]
  have e1:((x:Int) % ((2 ^ 64:Nat):Int)).toNat=x:=by omega
  have e2:((y:Int) % ((2 ^ 64:Nat):Int)).toNat=y:=by omega
  rw [e1,e2]
 have h2:x ^^^ y<2 ^ 62:=Nat.xor_lt_two_pow om om
 rw [EA,h1,Ns om]
 omega
theorem Zby (a b:Int) (hc:BL ops F k .xor=some (a,b):=by kernel_rfl):W3 P (ZP ops k) F h [] (.i (EA a b)):=by
 unfold BL at hc
 generalize hoo:ZP ops k=o at hc
 obtain ⟨dst,op,type,pos,after,guard⟩:=o
 cases op<;>simp only at hc<;>try (cases hc)
 rename_i bop t x y yt
 cases bop<;>simp only [Zi,reduceCtorEq,if_false,if_true] at hc<;>try (cases hc)
 split at hc
 ·rename_i z yk h1 h2
  cases hc
  intro n' w G ac hF hh
  have v1:=hF.ev x
  have v2:=hF.ev y
  rw [h1] at v1
  rw [h2] at v2
  have v1:=v1.val_inv
  have v2:=v2.val_inv
  refine ⟨_,.val,fun w' _ _=>?_⟩
  simp only [execOp,v1,v2]
  refine VO ?_
  simp [eqGuard,binOp,Op.intBits,IntKind.bits]
  exact Yo (fun z:Nat=>IntKind.i64.wrap (z:Int)) (by rw [BitVec.toNat_xor,BitVec.toNat_ofInt,BitVec.toNat_ofInt];rfl)
 ·cases hc
end
end Go.Abs
section
namespace Go.Abs
inductive Z2 where
 | mk (op num:Int) (kids:List Z2)
namespace Z2
def op:Z2->Int|.mk a _ _=>a
def num:Z2->Int|.mk _ a _=>a
def kids:Z2->List Z2|.mk _ _ a=>a
end Z2
structure Func where
 params:LI
 result:Int
 body:Z2
structure Wa where
 decls:List Zc
 funcs:List Func
instance:Inhabited Z2:=⟨.mk 0 0 []⟩
mutual
def Ln:Z2->AV
 | .mk op num kids=>.agg [.i op,.i num,.sl (Yz kids) none]
def Yz:List Z2->List AV
 | []=>[]
 | e::r=>Ln e::Yz r
end
abbrev Y7 (e:Z2):AV:=.agg [.i e.op,.i e.num,.sl (Yz e.kids) none]
abbrev YY (e:Z2):List AV:=[.i e.op,.i e.num,.sl (Yz e.kids) none]
abbrev XD (xs:List Z2):AV:=.sl (Yz xs) none
abbrev QQ (xs:List Z2) (v:Value):AV:=.sl (Yz xs) (some v)
abbrev EG (f:Func):AV:=.agg [Z4 f.params,.i f.result,.i f.body.op,.i f.body.num,XD f.body.kids]
abbrev Hu (f:Func):List AV:=[Z4 f.params,.i f.result,.i f.body.op,.i f.body.num,XD f.body.kids]
def Xu (xs:List Func):List AV:=xs.map EG
abbrev HD (xs:List Func):AV:=.sl (Xu xs) none
abbrev AX (p:Wa):AV:=.agg [Y5 p.decls,HD p.funcs]
abbrev Mj (p:Wa):List AV:=[Y5 p.decls,HD p.funcs]
abbrev IE (z:Int):AV:=.val (.int .u8 z)
def Q1 (xs:LI):List AV:=xs.map IE
abbrev Up (xs:LI):AV:=.sl (Q1 xs) none
theorem Z67 (e:Z2):Ln e=Y7 e:=by cases e;rw [Ln];rfl
theorem XQ:∀xs:List Z2,Yz xs=xs.map Y7
 | []=>by rw [Yz];rfl
 | s::ss=>by rw [Yz,XQ ss,Z67];rfl
theorem DE {xs:List Z2} {j:Nat} {x:Z2} (h:xs[j]? = some x):(Yz xs)[j]? = some (Y7 x):=by simp [XQ,h]
theorem GH {xs:List Func} {j:Nat} {x:Func} (h:xs[j]? = some x):(Xu xs)[j]? = some (EG x):=by simp [Xu,h]
theorem Lj {xs:LI} {j:Nat} {x:Int} (h:xs[j]? = some x):(Q1 xs)[j]? = some (IE x):=by simp [Q1,h]
@[simp] theorem Lo (xs:List Z2):(Yz xs).length=xs.length:=by simp [XQ]
@[simp] theorem DF (xs:List Func):(Xu xs).length=xs.length:=by simp [Xu]
@[simp] theorem BO (xs:LI):(Q1 xs).length=xs.length:=by simp [Q1]
theorem At (xs ys:List Z2):Yz (xs++ys)=Yz xs++Yz ys:=by simp [XQ]
theorem Z68 (xs ys:List Func):Xu (xs++ys)=Xu xs++Xu ys:=by simp [Xu]
theorem Lk (xs:LI) (n:Nat):(Q1 xs).take n=Q1 (xs.take n):=by simp [Q1]
theorem Li (xs:LI) (n:Nat):(Q1 xs).drop n=Q1 (xs.drop n):=by simp [Q1]
theorem Te (xs:List Z2):∀y∈Yz xs,y.leaves.length=3:=by intro y hy;simp only [XQ,Xz] at hy;obtain ⟨x,_,rfl⟩:=hy;rfl
theorem GI (xs:List Func):∀y∈Xu xs,y.leaves.length=5:=by intro y hy;simp only [Xu,Xz] at hy;obtain ⟨x,_,rfl⟩:=hy;rfl
theorem Z62 (xs:LI):∀y∈Q1 xs,y.leaves.length=1:=by intro y hy;simp only [Q1,Xz] at hy;obtain ⟨x,_,rfl⟩:=hy;rfl
theorem Au (xs:List Z2):(Z9 (Yz xs)).all AV.one=true:=Jg fun y hy=>by simp only [XQ,Xz] at hy;obtain ⟨x,_,rfl⟩:=hy;rfl
end Go.Abs
end
section
namespace Go.Abs
open Go.Proofs Go.Proofs.YtabmbhgiodcppaaGreat
section
variable {H:Type} {enc:TypeId × Value->H} {w:World}
def GA (w:World):Yk:=fun b _=>b<w.heap.size
abbrev Tr (enc:TypeId × Value->H) (w:World) (n:Nat) (t:TypeId) (cs:List Value) (x:DataW H × List MemPlace):Prop:=DataW.trod enc Tryz.prog w 0 (fun _=>true) true n t cs=some x
theorem RR {w:World} {a:Addr} {v:Value} (h:w.cell? a=some v):a.block<w.heap.size/\a.spot=none:=by
 unfold World.cell? at h
 split at h
 ·rename_i c e fr hb
  split at h
  ·cases h
  ·rename_i hs
   exact ⟨(UW.1 hb).1,by simpa using hs⟩
 ·cases h
theorem O3 {α:Type} {c:α->Nat}:∀{xs:List α} {ds:List (DataW H)},xs.length=ds.length->(∀(i:Nat) a d,xs[i]? = some a->ds[i]? = some d->c a+1<=Rows.uptoBulk d)->(xs.map fun a=>c a+1).sum<=Rows.uptoBulkAll ds
 | [],[],_,_=>X5 _
 | a::r,d::ds,hl,h=>by
  have h0:=h 0 a d rfl rfl
  have h1:=O3 (c:=c) (xs:=r) (ds:=ds) (by simpa using hl) fun i a d ha hd=>h (i+1) a d (by simpa using ha) (by simpa using hd)
  rw [T9,List.sum_cons,Rows.uptoBulkAll]
  omega
theorem SW {α:Type} {f:α->AV} {G:Yk} {k b:Nat} (hf:∀x,(f x).leaves.length=k):∀{xs:List α} {o:Nat},(∀(i:Nat) a,xs[i]? = some a->Wx w G b (o+i*k) (f a).leaves)->V8 w G k b o (xs.map f)
 | [],_,_=>.nil
 | x::r,o,h=>by
  refine .cons (hf x) (by have:=h 0 x rfl;simpa using this) (SW hf fun i a ha=>?_)
  have:=h (i+1) a (by simpa using ha)
  rw [show o+(i+1)*k=o+k+i*k by rw [QY];omega] at this
  exact this
theorem Zeb {α:Type} [Inhabited α] {t e k:Nat} (ht:Tryz.prog.underlying t=some (.slice e)) (hk:Tryz.prog.cellsOf e=k) (h0:0<k) (f:α->AV) (hf:∀x,(f x).leaves.length=k) (c:α->Nat) (Q:α->Prop) {n:Nat} {cs:List Value} {x:DataW H × List MemPlace}
  (h:Tr enc w n t cs x) (el:∀m cs y,m<n->Tr enc w m e cs y->∃a:α,YT w (GA w) (f a).leaves cs/\c a+1<=Rows.uptoBulk y.1/\Q a) :
  ∃(v:Value) (xs:List α),cs=[v]/\RV w (GA w) (.sl (xs.map f) none) v/\(xs.map fun a=>c a+1).sum+1<=Rows.uptoBulk x.1/\∀a∈xs,Q a:=by
 rcases DataW.trod_slice ht h with ⟨rfl,rfl⟩|⟨a,len,cap,elems,rest,m,rfl,rfl,rfl,_,hlc,_,hlen,hel,_,_⟩
 ·exact ⟨_,[],rfl,.nil (by simp),by simp [Rows.uptoBulk],by simp⟩
 ·rw [hk] at hel
  have hone:∀i,i<len->∃z:α,∃cs' y,w.cells? 0 (a.add (i*k)) k=some cs'/\elems[i]? = some y/\YT w (GA w) (f z).leaves cs'/\c z+1<=Rows.uptoBulk y.1/\Q z:=by
   intro i hi
   have h1:=hel i hi
   rw [Dp om] at h1
   obtain ⟨cs',h2,h3⟩:=Option.bind_eq_some_iff.1 h1
   obtain ⟨z,hz1,hz2,hz3⟩:=el m cs' _ om h3
   exact ⟨z,cs',_,h2,Dp om,hz1,hz2,hz3⟩
  obtain ⟨V,hV⟩:=Go.Deep.choose_lt hone
  refine ⟨_,(List.range len).map V,rfl,?_,?_,?_⟩
  ·cases hl0:len with
   | zero=>exact .nil (by simp)
   | succ q=>
    have hsp:a.spot=none:=by
     obtain ⟨cs',y,g1,_⟩:=hV 0 om
     obtain ⟨_,g2,g3⟩:=World.cells?_some g1
     have g4:=g3 0 h0
     rw [Dp om] at g4
     have g5:=(RR g4).2
     simpa [Addr.add] using g5
    obtain ⟨b,o,sp⟩:=a
    simp only at hsp
    subst hsp
    rw [<-hl0]
    have hll:(((List.range len).map V).map f).length=len:=by simp
    have:=RV.sl (w:=w) (G:=GA w) (es:=((List.range len).map V).map f) (hv:=none) (b:=b) (o:=o) (k:=k) (cap:=cap) (by simp) (by rw [hll];exact hlc) (SW hf fun i z hz=>by
     have hi:i<len:=by have:=(X9.1 hz).1;simpa using this
     have hz':V i=z:=by simpa [hi] using hz
     obtain ⟨cs',y,g1,_,g2,_⟩:=hV i hi
     rw [hz'] at g2
     obtain ⟨_,g3,g4⟩:=World.cells?_some g1
     refine Wx.of_cells g2 fun j u hj=>?_
     have hjl:j<k:=by have:=(X9.1 hj).1;omega
     have g5:=(g4 j hjl).trans hj
     rw [Addr.add_lit,Addr.add_lit] at g5
     exact ⟨g5,(RR g5).1⟩)
    rw [hll] at this
    exact this
  ·have:=O3 (c:=c) (xs:=(List.range len).map V) (ds:=elems.map (·.1)) (by simp [hlen]) fun i z d hz hd=>by
    have hi:i<len:=by have:=(X9.1 hz).1;simpa using this
    have hz':V i=z:=by simpa [hi] using hz
    obtain ⟨cs',y,_,g1,_,g2,_⟩:=hV i hi
    rw [J2,g1] at hd
    simp only [ED,Ww] at hd
    rw [<-hd,<-hz']
    exact g2
   simp only [Rows.uptoBulk]
   omega
  ·intro z hz
   obtain ⟨i,hi,rfl⟩:=Xz.1 hz
   obtain ⟨_,_,_,_,_,_,g⟩:=hV i (List.mem_range.1 hi)
   exact g
theorem Zea {n:Nat} {cs:List Value} {x:DataW H × List MemPlace} (h:Tr enc w n 5 cs x):∃z:Int,cs=[.int .u8 z]/\Rows.uptoBulk x.1=1/\0<=z/\z<=255:=by
 obtain ⟨z,rfl,rfl,hw⟩:=DataW.trod_int Tryz.underlying5 h
 refine ⟨z,rfl,rfl,?_⟩
 simpa [Lit.wf,IntKind.min,IntKind.max,IntKind.signed,IntKind.bits] using hw
theorem SN {n:Nat} {cs:List Value} {x:DataW H × List MemPlace} (h:Tr enc w n 22 cs x):∃(v:Value) (xs:LI),cs=[v]/\RV w (GA w) (Up xs) v/\∀z∈xs,0<=z/\z<=255:=by
 obtain ⟨v,xs,h1,h2,h3,h4⟩:=Zeb Tryz.underlying22 (k:=1) kr om (fun z:Int=>IE z) (fun _=>rfl) (fun _=>0) (fun z=>0<=z/\z<=255) h fun m cs y _ hy=>by
  obtain ⟨z,rfl,hb,hz⟩:=Zea hy
  exact ⟨z,.cons .val .nil,Nat.le_of_eq hb.symm,hz⟩
 exact ⟨v,xs,h1,h2,h4⟩
end
end Go.Abs
end
namespace Go.Abs
structure Sg where
 params:LI
 result:Int
abbrev NC (f:Sg):AV:=.agg [.sl (Z6 f.params) none,.i f.result,.i 0,.i 0,.sl [] none]
def WH (fs:List Sg):List AV:=fs.map NC
theorem Lr {xs:List Sg} {j:Nat} {x:Sg} (h:xs[j]? = some x):(WH xs)[j]? = some (NC x):=by simp [WH,h]
@[simp] theorem Ox (xs:List Sg):(WH xs).length=xs.length:=by simp [WH]
theorem GK (xs:List Sg):∀y∈WH xs,y.leaves.length=5:=by intro y hy;simp only [WH,Xz] at hy;obtain ⟨x,_,rfl⟩:=hy;rfl
theorem Oy (xs:List Sg):(Z9 (WH xs)).all AV.one=true:=Jg fun y hy=>by simp only [WH,Xz] at hy;obtain ⟨x,_,rfl⟩:=hy;rfl
mutual
def Z5.sz:Z5->Nat
 | .mk _ _ _ args kids=>1+args.length+YU kids
def Z8.sz:Z8->Nat
 | .mk steps _=>1+Yu steps
def Yu:List Z5->Nat
 | []=>0
 | s::r=>s.sz+Yu r
def YU:List Z8->Nat
 | []=>0
 | b::r=>b.sz+YU r
end
theorem Z5.sz_pos (s:Z5):1<=s.sz:=by cases s;rw [Z5.sz];omega
theorem Z8.sz_pos (b:Z8):1<=b.sz:=by cases b;rw [Z8.sz];omega
theorem Jt (l:List Z5):l.length<=Yu l:=by
 induction l with
 | nil=>simp
 | cons s r ih=>have:=s.sz_pos;simp only [Yp,Yu];omega
theorem O1 (l:List Z8):l.length<=YU l:=by
 induction l with
 | nil=>simp
 | cons s r ih=>have:=s.sz_pos;simp only [Yp,YU];omega
theorem Zhk {l:List Z5} {k:Nat} {s:Z5} (h:l[k]? = some s):s.sz<=Yu l:=by
 induction l generalizing k with
 | nil=>simp at h
 | cons t r ih=>
  cases k with
  | zero=>simp at h;subst h;simp only [Yu];omega
  | succ k=>have:=ih (k:=k) (by simpa using h);simp only [Yu];omega
theorem O0 {l:List Z8} {k:Nat} {s:Z8} (h:l[k]? = some s):s.sz<=YU l:=by
 induction l generalizing k with
 | nil=>simp at h
 | cons t r ih=>
  cases k with
  | zero=>simp at h;subst h;simp only [YU];omega
  | succ k=>have:=ih (k:=k) (by simpa using h);simp only [YU];omega
theorem Z5.sz_eq (s:Z5):s.sz=1+s.args.length+YU s.kids:=by cases s;rw [Z5.sz];rfl
theorem Z8.sz_eq (b:Z8):b.sz=1+Yu b.steps:=by cases b;rw [Z8.sz];rfl
theorem Es {b:Z8} {k:Nat} {s:Z5} (h:b.steps[k]? = some s):s.sz<b.sz:=by have:=Zhk h;have:=b.sz_eq;omega
theorem Qu {s:Z5} {k:Nat} {b:Z8} (h:s.kids[k]? = some b):b.sz<s.sz:=by have:=O0 h;have:=s.sz_eq;omega
theorem JE (s:Z5):s.args.length<s.sz:=by have:=s.sz_eq;omega
theorem Kg (s:Z5):s.kids.length<s.sz:=by have:=s.sz_eq;have:=O1 s.kids;omega
theorem UG (b:Z8):b.steps.length<b.sz:=by have:=b.sz_eq;have:=Jt b.steps;omega
structure QZ (ds:List Zc):Prop where
 len:ds.length<=4194304
 cons:∀d∈ds,d.cons.length<=4194304
 fields:∀d∈ds,∀c∈d.cons,c.fields.length<=4194304
theorem QZ.cons_at {ds:List Zc} (h:QZ ds) {k:Nat} {d:Zc} (hd:ds[k]? = some d):d.cons.length<=4194304:=h.cons d (Y4 hd)
theorem QZ.fields_at {ds:List Zc} (h:QZ ds) {k j:Nat} {d:Zc} {c:Yg} (hd:ds[k]? = some d) (hc:d.cons[j]? = some c):c.fields.length<=4194304:=
 h.fields d (Y4 hd) c (Y4 hc)
def JF (m:Nat) (c:Yg):Bool:=decide (c.fields.length<=3)&&Wm m c.fields
def K5 (d:Zc):List Zc->Bool
 | []=>false
 | e::r=>if e.cons.length=0/\e.frm=d.frm/\e.to_=d.to_ then true else K5 d r
def TN (m:Nat):List Yg->Bool
 | []=>true
 | c::r=>if JF m c=true then TN m r else false
def Tb (ds:List Zc) (d:Zc) (i:Nat):Bool:=
 if 0<d.cons.length then (if d.cons.length<=3/\d.frm=0/\d.to_=0 then TN ds.length d.cons else false)
 else if K5 d (ds.take i)=true then false else decide (0<=d.frm/\d.frm<=ds.length)&&decide (0<=d.to_/\d.to_<=ds.length)
def CH (ds:List Zc) (i:Nat):Bool:=(ds[i]?.map fun d=>Tb ds d i).getD false
theorem EM {ds:List Zc} {i:Nat} {d:Zc} (h:ds[i]? = some d):CH ds i=Tb ds d i:=by rw [CH,h];rfl
def Tc (ds:List Zc):List Zc->Nat->Bool
 | [],_=>true
 | _::r,i=>if CH ds i=true then Tc ds r (i+1) else false
def WQ (ds:List Zc):Bool:=decide (ds.length<=4)&&Tc ds ds 0
theorem Od {m:Nat} {cs:List Yg}:TN m cs=true↔∀c∈cs,JF m c=true:=by
 induction cs with
 | nil=>simp [TN]
 | cons c r ih=>
  rw [TN]
  split
  ·rename_i h;simp [ih,h]
  ·rename_i h;simp [h]
theorem Le {ds:List Zc}:∀{l:List Zc} {i:Nat},Tc ds l i=true↔∀j<l.length,CH ds (i+j)=true
 | [],i=>by simp [Tc]
 | d::r,i=>by
  rw [Tc]
  split
  ·rename_i h
   rw [Le (l:=r)]
   constructor
   ·intro hq j hj
    cases j with
    | zero=>exact h
    | succ j=>have:=hq j (by simpa using hj);rwa [show i+(j+1)=i+1+j by omega]
   ·intro hq j hj
    have:=hq (j+1) (by simpa using hj)
    rwa [show i+(j+1)=i+1+j by omega] at this
  ·rename_i h
   simp only [Bool.false_eq_true,false_iff]
   intro hq
   exact h (hq 0 (by simp))
theorem Iq {ds:List Zc} (h:WQ ds=true):Xs ds:=by
 simp only [WQ,YX,decide_eq_true_eq] at h
 obtain ⟨h1,h2⟩:=h
 rw [Le] at h2
 have key:∀d∈ds,∃i,Tb ds d i=true:=fun d hd=>by
  obtain ⟨i,hi⟩:=List.mem_iff_getElem?.1 hd
  have:=h2 i (X9.1 hi).1
  rw [Wf,EM hi] at this
  exact ⟨i,this⟩
 have hc:∀d∈ds,0<d.cons.length->d.cons.length<=3/\TN ds.length d.cons=true:=fun d hd hp=>by
  obtain ⟨i,hi⟩:=key d hd
  rw [Tb,Zh hp] at hi
  split at hi
  ·rename_i h;exact ⟨h.1,hi⟩
  ·cases hi
 refine ⟨h1,fun d hd=>?_,fun d hd c hc'=>?_⟩
 ·by_cases hp:0<d.cons.length
  ·exact (hc d hd hp).1
  ·omega
 ·have:=Od.1 (hc d hd (List.length_pos_of_mem hc')).2 c hc'
  simp only [JF,YX,decide_eq_true_eq] at this
  exact this.1
def KU (m:Nat) (f:Sg):Bool:=decide (f.params.length<=3)&&(Wm m f.params&&decide (0<=f.result/\f.result<=m))
def Jq (m:Nat):List Sg->Bool
 | []=>true
 | f::r=>if KU m f=true then Jq m r else false
def GV:List Sg->Bool
 | []=>false
 | f::_=>decide (f.params.length=0)&&decide (f.result=0)
theorem Z7c {fs:List Sg} {x:Sg} (h:fs[0]? = some x):GV fs=(decide (x.params.length=0)&&decide (x.result=0)):=by
 cases fs with
 | nil=>simp at h
 | cons f r=>simp at h;subst h;rfl
def UV (ds:List Zc) (fs:List Sg):Bool:=
 WQ ds&&(decide (1<=fs.length/\fs.length<=4)&&(Jq ds.length fs&&GV fs))
def QN (ps:LI):LI->Option Int->Bool
 | [],_=>true
 | v::r,prev=>if (0<=v/\v<=(ps.length:Int)-1)/\ps[v.toNat]?≠some 0/\(∀p,prev=some p->p<v) then QN ps r (some v) else false
theorem Mo {ps r:LI} {v:Int} {prev:Option Int} (h:(0<=v/\v<=(ps.length:Int)-1)/\ps[v.toNat]?≠some 0/\(∀p,prev=some p->p<v)):QN ps (v::r) prev=QN ps r (some v):=by
 rw [QN,Zh h]
theorem Hz {ps r:LI} {v:Int} {prev:Option Int} (h:¬((0<=v/\v<=(ps.length:Int)-1)/\ps[v.toNat]?≠some 0/\(∀p,prev=some p->p<v))):QN ps (v::r) prev=false:=by
 rw [QN,Zb h]
def Uy (ps ls:LI):Bool:=QN ps ls none
def D8:List YE->Bool
 | []=>true
 | r::rs=>if Uy r.params r.lent=true then D8 rs else false
def Qc (r:YE):Sg:=⟨r.params,r.result⟩
def AG (n:ZG):Bool:=decide (n.routines.length<=4)&&(UV n.decls (n.routines.map Qc)&&D8 n.routines)
end Go.Abs
section
namespace Go.Abs
def Wy {α:Type} (xs:List α) (i:Int):Option α:=if 0<=i/\i<=(xs.length:Int)-1 then xs[i.toNat]? else none
theorem BK {α:Type} {xs:List α} {i:Int} {x:α} (h:0<=i/\i<=(xs.length:Int)-1) (hx:xs[i.toNat]? = some x):Wy xs i=some x:=by rw [Wy,Zh h,hx]
theorem AZ {α:Type} {xs:List α} {i:Int} (h:¬(0<=i/\i<=(xs.length:Int)-1)):Wy xs i=none:=by rw [Wy,Zb h]
theorem Cz {α:Type} {xs:List α} {i:Int} {x:α} (h:Wy xs i=some x):(0<=i/\i<=(xs.length:Int)-1)/\xs[i.toNat]? = some x:=by
 rw [Wy] at h
 split at h
 ·rename_i h1;exact ⟨h1,h⟩
 ·cases h
def J0 (vars:LI):LI->LI->Bool
 | [],[]=>true
 | a::as1,t::ts=>if Wy vars a=some t then J0 vars as1 ts else false
 | _,_=>false
def V5 (vars args types:LI):Bool:=J0 vars args types
theorem Z2k {vars:LI}:∀{args types:LI},args.length≠types.length->J0 vars args types=false
 | [],[],h=>absurd rfl h
 | [],_::_,_=>rfl
 | _::_,[],_=>rfl
 | a::as1,t::ts,h=>by
  rw [J0]
  split
  ·exact Z2k (by simpa using h)
  ·rfl
theorem Zij {vars args types:LI} {k:Nat} {a t:Int} (ha:args[k]? = some a) (ht:types[k]? = some t) (h:Wy vars a=some t) :
  J0 vars (args.drop k) (types.drop k)=J0 vars (args.drop (k+1)) (types.drop (k+1)):=by
 rw [Yi ha,Yi ht,J0,Zh h]
theorem Z2j {vars args types:LI} {k:Nat} {a t:Int} (ha:args[k]? = some a) (ht:types[k]? = some t) (h:Wy vars a≠some t) :
  J0 vars (args.drop k) (types.drop k)=false:=by
 rw [Yi ha,Yi ht,J0,Zb h]
theorem Zii {vars args types:LI} {k:Nat} (ha:args.length<=k) (ht:types.length<=k):J0 vars (args.drop k) (types.drop k)=true:=by
 rw [Xn ha,Xn ht];rfl
def Qp (op:Int):Bool:=op==0||(op==6||(op==8||(op==9||op==10)))
def Xh (op:Int):Bool:=decide (0<=op/\op<=11)
def YO (op:Int):Bool:=decide (14<=op/\op<=17)
def Qf (vars:LI) (op into:Int):Bool:=
 if into=0 then true else if op=6 then ((Wy vars (into-1)).map fun t=>decide (0<t)).getD false else false
def EI (ds:List Zc) (ps:LI) (res:Int):Int:=Ai ds (ps.getLast?.getD 0) res
def Cb (ds:List Zc) (vars:LI) (op:Int) (args:LI) (r:YE):Int:=
 if op=9 then (if V5 vars args r.params=true then r.result else -1)
 else if r.params.length=0∨0<r.lent.length∨¬V5 vars args (r.params.take (r.params.length-1))=true then -1
 else EI ds r.params r.result
def Ko (n:ZG) (vars:LI) (op num:Int) (args:LI):Int:=
 match Wy n.routines num with
 | none=>-1
 | some r=>Cb n.decls vars op args r
def Ja (ds:List Zc) (vars:LI) (op:Int) (args:LI):Int:=
 match args with
 | [a]=>match Wy vars a with
  | some t=>if t=0 then -1 else if (op≠14/\op≠15)/\VW ds t=true then -1 else 0
  | none=>-1
 | _=>-1
def J7 (ds:List Zc) (vars:LI) (args:LI):Int:=
 match args with
 | [a,b]=>match Wy vars a with
  | some t=>if VW ds t=true then
    (match ds[(t-1).toNat]? with
     | some d=>if V5 vars [b] [d.frm]=true then d.to_ else -1
     | none=>-1) else -1
  | none=>-1
 | _=>-1
def W4 (ds:List Zc) (op num:Int):List LI:=if op=7 then [[],[]] else (ZY ds num).map (ZO ds)
mutual
def YZ (n:ZG) (vars:LI):Z5->Int
 | .mk op num into args kids=>
  if (num≠0/\¬Qp op=true)∨¬Qf vars op into=true∨(0<kids.length/\op≠7/\op≠8) then -1
  else if op=0 then (if args.length=0/\(-999<=num/\num<=999) then 0 else -1)
  else if op=1∨op=2∨op=3∨op=4 then (if V5 vars args [0,0]=true then 0 else -1)
  else if op=5 then (if V5 vars args [0]=true then 0 else -1)
  else if op=6 then (if 0<Wn n.decls num/\V5 vars args (ZO n.decls num)=true then Wn n.decls num else -1)
  else if op=7 then (if V5 vars args [0]=true then (if (W4 n.decls op num).length=0∨kids.length≠(W4 n.decls op num).length then -1 else QM n vars kids (W4 n.decls op num) true 0) else -1)
  else if op=8 then (if V5 vars args [num]=true then (if (W4 n.decls op num).length=0∨kids.length≠(W4 n.decls op num).length then -1 else QM n vars kids (W4 n.decls op num) true 0) else -1)
  else if op=9∨op=10 then Ko n vars op num args
  else if op=11 then J7 n.decls vars args
  else if op=14∨op=15∨op=16∨op=17 then Ja n.decls vars op args
  else -1
def QM (n:ZG) (vars:LI):List Z8->List LI->Bool->Int->Int
 | [],_,_,t=>t
 | b::bs,more,first,t=>
  match more with
  | []=>-1
  | m::ms=>if W6 n (vars++m) b<0∨(first=false/\W6 n (vars++m) b≠t) then -1 else QM n vars bs ms false (W6 n (vars++m) b)
def UF (n:ZG):List Z5->LI->Option LI
 | [],vars=>some vars
 | s::r,vars=>if YZ n vars s<0 then none else UF n r (if Xh s.op=true then vars++[YZ n vars s] else vars)
def W6 (n:ZG) (vars:LI):Z8->Int
 | .mk steps result=>match UF n steps vars with
  | none=>-1
  | some vs=>(Wy vs result).getD (-1)
end
def JU (n:ZG) (vars:LI) (op num:Int) (kids:List Z8):Int:=
 if (W4 n.decls op num).length=0∨kids.length≠(W4 n.decls op num).length then -1 else QM n vars kids (W4 n.decls op num) true 0
mutual
def C0:Z5->Int->Int
 | .mk _ _ _ _ kids,left=>AE kids left
def Tp:Z8->Int->Int
 | .mk steps _,left=>JW steps left
def JW:List Z5->Int->Int
 | [],left=>left
 | s::r,left=>if left<1 then -1 else if C0 s (left-1)<0 then -1 else JW r (C0 s (left-1))
def AE:List Z8->Int->Int
 | [],left=>left
 | b::r,left=>if Tp b left<0 then -1 else AE r (Tp b left)
end
def Bv (b:Z8):Int:=if Tp b 600<0 then -1 else 600-Tp b 600
def Br (n:ZG):List YE->Bool
 | []=>true
 | r::rs=>if ¬Bv r.body<0/\W6 n r.params r.body=r.result then Br n rs else false
def Kw (n:ZG):Bool:=AG n&&Br n n.routines
theorem RH:(∀(s:Z5) (l:Int),0<=l->C0 s l<=l)/\(∀(b:Z8) (l:Int),0<=l->Tp b l<=l):=by
 have key:∀m:Nat,(∀s:Z5,s.sz<=m->∀l:Int,0<=l->C0 s l<=l)/\(∀b:Z8,b.sz<=m->∀l:Int,0<=l->Tp b l<=l):=by
  intro m
  induction m with
  | zero=>exact ⟨fun s h=>by have:=s.sz_pos;omega,fun s h=>by have:=s.sz_pos;omega⟩
  | succ m ih=>
   refine ⟨fun s hs l hl=>?_,fun b hb l hl=>?_⟩
   ·cases s with
    | mk op num into args kids=>
     rw [C0]
     have hk:YU kids<=m:=by rw [Z5.sz] at hs;omega
     clear hs
     induction kids generalizing l with
     | nil=>rw [AE];exact Int.le_refl _
     | cons b r ihr=>
      rw [YU] at hk
      have:=ih.2 b om l hl
      rw [AE]
      split
      ·omega
      ·have:=ihr (Tp b l) om om;omega
   ·cases b with
    | mk steps res=>
     rw [Tp]
     have hk:Yu steps<=m:=by rw [Z8.sz] at hb;omega
     clear hb
     induction steps generalizing l with
     | nil=>rw [JW];exact Int.le_refl _
     | cons s r ihr=>
      rw [Yu] at hk
      rw [JW]
      split
      ·omega
      ·have:=ih.1 s om (l-1) om
       split
       ·omega
       ·have:=ihr (C0 s (l-1)) om om;omega
 exact ⟨fun s l hl=>(key s.sz).1 s (X5 _) l hl,fun b l hl=>(key b.sz).2 b (X5 _) l hl⟩
end Go.Abs
namespace Go.Abs
theorem Zhl {l:List Z5} {k:Nat} {s:Z5} (h:l[k]? = some s):k+s.sz<=Yu l:=by
 induction l generalizing k with
 | nil=>simp at h
 | cons t r ih=>
  cases k with
  | zero=>simp at h;subst h;simp only [Yu];omega
  | succ k=>have:=ih (k:=k) (by simpa using h);have:=t.sz_pos;simp only [Yu];omega
theorem Dj {b:Z8} {k:Nat} {s:Z5} (h:b.steps[k]? = some s):k+s.sz<b.sz:=by have:=Zhl h;have:=b.sz_eq;omega
structure Xw (n:ZG):Prop where
 decls:Xs n.decls
 len:n.routines.length<=4
 params:∀r∈n.routines,r.params.length<=3
 lent:∀r∈n.routines,r.lent.length<=4194304
theorem Xw.params_at {n:ZG} (h:Xw n) {k:Nat} {r:YE} (hr:n.routines[k]? = some r):r.params.length<=3:=h.params r (Y4 hr)
theorem Xw.lent_at {n:ZG} (h:Xw n) {k:Nat} {r:YE} (hr:n.routines[k]? = some r):r.lent.length<=4194304:=h.lent r (Y4 hr)
theorem Z45 {ds:List Zc} {num:Int} {k:Nat} {x:Int} (h:(ZY ds num)[k]? = some x):(W4 ds 8 num)[k]? = some (ZO ds x):=by
 rw [W4,Zb om,J2,h];rfl
end Go.Abs
namespace Go.Abs
theorem E8 {ds:List Zc} (hd:Xs ds) (t:Int):(ZY ds t).length<=3:=by
 rw [ZY]
 split
 ·rename_i h
  obtain ⟨d,hd1⟩:=Bf (xs:=ds) (j:=(t-1).toNat) om
  rw [hd1,Zd8]
  exact hd.cons_at hd1
 ·simp
theorem Vq {ds:List Zc} (hd:Xs ds) (c:Int):(ZO ds c).length<=3:=by
 by_cases h:Wn ds c<1
 ·rw [(Ob h).1];simp
 ·obtain ⟨k,d,x,h1,_,h3,_,h5⟩:=L7 h
  rw [h5];exact hd.fields_at h1 h3
theorem NO {ds:List Zc} (hd:Xs ds) {op num:Int} {k:Nat} {m:LI} (h:(W4 ds op num)[k]? = some m):m.length<=3:=by
 have hm:=Y4 h
 rw [W4] at hm
 split at hm
 ·simp at hm;subst hm;simp
 ·obtain ⟨c,_,rfl⟩:=Xz.1 hm;exact Vq hd c
theorem J8 {α:Type} {xs:List α} {x:α} (h:xs.length=1) (hx:xs[0]? = some x):xs=[x]:=by
 cases xs with
 | nil=>simp at h
 | cons a r=>
  cases r with
  | nil=>simp at hx;rw [hx]
  | cons b r=>simp at h
theorem Dz {ds:List Zc} {us args:LI} {op:Int} (h:args.length≠1):Ja ds us op args=-1:=by
 cases args with
 | nil=>rfl
 | cons a r=>
  cases r with
  | nil=>simp at h
  | cons b r=>rfl
theorem DA {ds:List Zc} {us args:LI} {op a:Int} (h:args=[a]) (hi:¬(0<=a/\a<=(us.length:Int)-1)):Ja ds us op args=-1:=by
 subst h;rw [Ja];simp only [AZ hi]
theorem Dy {ds:List Zc} {us args:LI} {op a t:Int} (h:args=[a]) (hi:0<=a/\a<=(us.length:Int)-1) (ht:us[a.toNat]? = some t) :
  Ja ds us op args=if t=0 then -1 else if (op≠14/\op≠15)/\VW ds t=true then -1 else 0:=by
 subst h;rw [Ja];simp only [BK hi ht]
theorem Zeu {n:ZG} {us args:LI} {op num:Int} {r:YE} (hi:0<=num/\num<=(n.routines.length:Int)-1) (hr:n.routines[num.toNat]? = some r) :
  Ko n us op num args=Cb n.decls us op args r:=by
 rw [Ko];simp only [BK hi hr]
theorem Zev {n:ZG} {us args:LI} {op num:Int} (hi:¬(0<=num/\num<=(n.routines.length:Int)-1)):Ko n us op num args=-1:=by
 rw [Ko];simp only [AZ hi]
theorem Zae {xs:LI} {x:Int} (h:xs[xs.length-1]? = some x):xs.getLast?.getD 0=x:=by
 rw [List.getLast?_eq_getElem?,h];rfl
theorem Zc7 {n:ZG} {us:LI} {bs:List Z8} {ms:List LI} {b:Z8} {m:LI} {k:Nat} {t:Int} (hb:bs[k]? = some b) (hm:ms[k]? = some m)
  (h:¬(W6 n (us++m) b<0∨(k:Int)>0/\W6 n (us++m) b≠t)) :
  QM n us (bs.drop k) (ms.drop k) (decide (k=0)) t=QM n us (bs.drop (k+1)) (ms.drop (k+1)) (decide (k+1=0)) (W6 n (us++m) b):=by
 rw [Yi hb,Yi hm,QM,Zb]
 ·simp
 ·rintro (q|⟨q1,q2⟩)
  ·exact h (.inl q)
  ·exact h (.inr ⟨by simp at q1;omega,q2⟩)
theorem Zc5 {n:ZG} {us:LI} {bs:List Z8} {ms:List LI} {b:Z8} {m:LI} {k:Nat} {t:Int} (hb:bs[k]? = some b) (hm:ms[k]? = some m)
  (h:W6 n (us++m) b<0∨(k:Int)>0/\W6 n (us++m) b≠t) :
  QM n us (bs.drop k) (ms.drop k) (decide (k=0)) t=-1:=by
 rw [Yi hb,Yi hm,QM,Zh]
 rcases h with q|⟨q1,q2⟩
 ·exact .inl q
 ·exact .inr ⟨by simp;omega,q2⟩
theorem Zc6 {n:ZG} {us:LI} {bs:List Z8} {ms:List LI} {k:Nat} {f:Bool} {t:Int} (hb:bs.length<=k):QM n us (bs.drop k) (ms.drop k) f t=t:=by
 rw [Xn hb,QM]
end Go.Abs
end
namespace Go.Abs
theorem Na (n:ZG) (us:LI) (s:Z5):YZ n us s =
  if (s.num≠0/\¬Qp s.op=true)∨¬Qf us s.op s.into=true∨(0<s.kids.length/\s.op≠7/\s.op≠8) then -1
  else if s.op=0 then (if s.args.length=0/\(-999<=s.num/\s.num<=999) then 0 else -1)
  else if s.op=1∨s.op=2∨s.op=3∨s.op=4 then (if V5 us s.args [0,0]=true then 0 else -1)
  else if s.op=5 then (if V5 us s.args [0]=true then 0 else -1)
  else if s.op=6 then (if 0<Wn n.decls s.num/\V5 us s.args (ZO n.decls s.num)=true then Wn n.decls s.num else -1)
  else if s.op=7 then (if V5 us s.args [0]=true then JU n us s.op s.num s.kids else -1)
  else if s.op=8 then (if V5 us s.args [s.num]=true then JU n us s.op s.num s.kids else -1)
  else if s.op=9∨s.op=10 then Ko n us s.op s.num s.args
  else if s.op=11 then J7 n.decls us s.args
  else if s.op=14∨s.op=15∨s.op=16∨s.op=17 then Ja n.decls us s.op s.args
  else -1:=by
 cases s with
 | mk op num into args kids=>rw [YZ];rfl
theorem IS (n:ZG) (us:LI) (b:Z8):W6 n us b=match UF n b.steps us with
  | none=>-1
  | some vs=>(Wy vs b.result).getD (-1):=by
 cases b with
 | mk st r=>rw [W6];rfl
theorem NM {α:Type} {xs:List α} {x:α} (h:xs.length=2) (hx:xs[0]? = some x):∃y,xs=[x,y]:=by
 match xs,h with
 | [a,b],_=>simp at hx;subst hx;exact ⟨b,rfl⟩
theorem UY {ds:List Zc} {us args:LI} (h:args.length≠2):J7 ds us args=-1:=by
 match args,h with
 | [],_=>rfl
 | [_],_=>rfl
 | [_,_],h=>simp at h
 | _::_::_::_,_=>rfl
theorem UZ {ds:List Zc} {us args:LI} {a:Int} (hl:args.length=2) (h:args[0]? = some a) (hi:¬(0<=a/\a<=(us.length:Int)-1)):J7 ds us args=-1:=by
 obtain ⟨y,rfl⟩:=NM hl h;rw [J7];simp only [AZ hi]
theorem UH {ds:List Zc} {us args:LI} {a t:Int} (hl:args.length=2) (h:args[0]? = some a) (hi:0<=a/\a<=(us.length:Int)-1) (ht:us[a.toNat]? = some t) :
  J7 ds us args=if VW ds t=true then
    (match ds[(t-1).toNat]? with
     | some d=>if V5 us (args.drop 1) [d.frm]=true then d.to_ else -1
     | none=>-1) else -1:=by
 obtain ⟨y,rfl⟩:=NM hl h;rw [J7];simp only [BK hi ht];rfl
theorem Z3y {ds:List Zc} {us args:LI} {a t:Int} {d:Zc} (hl:args.length=2) (h:args[0]? = some a) (hi:0<=a/\a<=(us.length:Int)-1) (ht:us[a.toNat]? = some t)
  (hA:VW ds t=true) (hd:ds[(t-1).toNat]? = some d):J7 ds us args=if V5 us (args.drop 1) [d.frm]=true then d.to_ else -1:=by
 rw [UH hl h hi ht,Zh hA];simp only [hd]
theorem Md {ds:List Zc} {t:Int} (h:VW ds t=true):1<=t/\t<=ds.length:=by
 simp only [VW,YX,decide_eq_true_eq] at h;exact h.1
theorem Zcn (b:Z8) (l:Int):Tp b l=JW b.steps l:=by cases b;rw [Tp];rfl
theorem RJ (s:Z5) (l:Int):C0 s l=AE s.kids l:=by cases s;rw [C0];rfl
structure Ad (n:ZG):Prop where
 decls:QZ n.decls
 len:n.routines.length<=4194304
 params:∀r∈n.routines,r.params.length<=4194304
 lent:∀r∈n.routines,r.lent.length<=4194304
 body:∀r∈n.routines,r.body.sz<=10000000
theorem I6 {m:Nat} {fs:List Sg} (h:Jq m fs=true):∀f∈fs,KU m f=true:=by
 induction fs with
 | nil=>simp
 | cons f r ih=>
  rw [Jq] at h
  split at h
  ·rename_i h1
   intro g hg
   rcases YL.1 hg with rfl|hg
   ·exact h1
   ·exact ih h g hg
  ·cases h
theorem S2 {n:ZG} (hz:Ad n) (h:AG n=true):Xw n:=by
 simp only [AG,UV,YX,decide_eq_true_eq] at h
 obtain ⟨h1,⟨h2,h3,h4,h5⟩,h6⟩:=h
 refine ⟨Iq h2,h1,fun r hr=>?_,hz.lent⟩
 have:=I6 h4 (Qc r) (Xz.2 ⟨r,hr,rfl⟩)
 simp only [KU,YX,decide_eq_true_eq] at this
 exact this.1
def gI (xs:LI) (i:Int):Int:=xs[i.toNat]?.getD 0
theorem Tl {xs:LI} {i:Int} {x:Int} (h:xs[i.toNat]? = some x):gI xs i=x:=by rw [gI,h];rfl
structure ZL where
 vars:LI
 own:LI
 par:LI
 con:LI
 fst:LI
 tok:LI
def ZL.grow (L:ZL) (t own par:Int):ZL:=⟨L.vars++[t],L.own++[own],L.par++[par],L.con++[-1],L.fst++[-1],L.tok++[-1]⟩
def Qe (L:ZL) (v:Int):Option ZL:=if gI L.own v<1 then none else some { L with own:=L.own.set v.toNat (gI L.own v-1) }
def K0 (own par ln:LI):Nat->Int->Bool
 | 0,_=>false
 | k+1,v=>if gI own v<1/\¬v∈ln then (if gI par v<0 then false else K0 own par ln k (gI par v)) else true
def Ta (L:ZL) (ln:LI) (v:Int):Bool:=K0 L.own L.par ln (v.toNat+1) v
def QD:LI->Int->LI->LI
 | own,_,[]=>own
 | own,p,f::r=>QD (if f≠0 then own.set p.toNat (gI own p+1) else own) (p+1) r
def AH (ds:List Zc) (L:ZL) (op x:Int):Option ZL:=
 if gI L.con x<0∨(op=17/\0<=gI L.tok x) then none
 else match Qe L x with
  | none=>none
  | some L1=>some { L1 with
    own:=QD L1.own (gI L.fst x) (ZO ds (gI L.con x))
    tok:=if op=17 then L.tok.set x.toNat (ZO ds (gI L.con x)).length else L.tok }
def Ap (op:Int):Bool:=op==6||(op==9||(op==10||op==11))
def E5 (n:ZG) (op num:Int):LI:=if op=9 then ((n.routines[num.toNat]?).map (·.lent)).getD [] else []
def T2 (n:ZG) (op num:Int) (i:Nat):Bool:=decide ((i:Int)∈E5 n op num)
def JG (n:ZG) (vars:LI) (op num a:Int) (i:Nat):Bool:=Ap op&&(gI vars a != 0&&!T2 n op num i)
def KI (n:ZG) (op num:Int):LI->Nat->ZL->Option ZL
 | [],_,L=>some L
 | a::r,i,L=>if JG n L.vars op num a i=true then (match Qe L a with
   | none=>none
   | some L1=>KI n op num r (i+1) L1) else KI n op num r (i+1) L
def BV (n:ZG) (op num:Int) (ln:LI) (L:ZL):LI->Nat->Bool
 | [],_=>true
 | a::r,i=>if T2 n op num i=true/\¬Ta L ln a=true then false else BV n op num ln L r (i+1)
def EY (L:ZL) (into:Int) (m:Nat):Option ZL:=
 if 0<into then (if gI L.tok (into-1)≠m then none else some { L with tok:=L.tok.set (into-1).toNat (-1) }) else some L
def JK (n:ZG) (ln:LI) (L:ZL) (op num into:Int) (args:LI):Option ZL:=
 match KI n op num args 0 L with
 | none=>none
 | some L1=>if BV n op num ln L1 args 0=true then EY L1 into args.length else none
def Ck:LI->LI->Bool
 | o::os,t::ts=>if o≠0∨0<=t then false else Ck os ts
 | _,_=>true
def ZL.take (L:ZL) (m:Nat):ZL:=⟨L.vars.take m,L.own.take m,L.par.take m,L.con.take m,L.fst.take m,L.tok.take m⟩
def JH (L:ZL) (m:Nat):Option ZL:=if Ck (L.own.drop m) (L.tok.drop m)=true then some (L.take m) else none
def CV (L:ZL) (par:Int):LI->ZL
 | []=>L
 | t::r=>CV (L.grow t 0 par) par r
def Cy (ds:List Zc) (L:ZL) (x c:Int):ZL:=
 CV { L with con:=L.con.set x.toNat c,fst:=L.fst.set x.toNat L.vars.length } x (ZO ds c)
def TT (ds:List Zc) (L:ZL) (op num:Int) (args:LI) (i:Nat):ZL:=
 if op=8 then Cy ds L (gI args 0) (gI (ZY ds num) i) else L
def Bp (lent:LI):LI->Nat->ZL->ZL
 | [],_,L=>L
 | t::r,i,L=>Bp lent r (i+1) (L.grow t (if t≠0/\¬(i:Int)∈lent then 1 else 0) (-1))
def KQ (r:YE):ZL:=Bp r.lent r.params 0 ⟨[],[],[],[],[],[]⟩
def CI (L:ZL) (ln:LI) (v:Int):Option ZL:=if Ta L ln v=true then some { L with own:=L.own.set v.toNat (gI L.own v+1) } else none
def A1 (n:ZG) (ln:LI) (L:ZL) (op num into:Int) (args:LI) (ch:Option ZL):Option ZL:=
 if op=14 then CI L ln (gI args 0)
 else if op=15 then Qe L (gI args 0)
 else if op=16∨op=17 then AH n.decls L op (gI args 0)
 else if op=7∨op=8 then (if op=8/\¬Ta L ln (gI args 0)=true then none else ch)
 else JK n ln L op num into args
def Az (L:ZL) (op t:Int) (r:Option ZL):Option ZL:=
 match r with
 | none=>none
 | some L1=>if Xh op=true then some (L1.grow t (if t≠0 then 1 else 0) (-1)) else some L1
def D9 (L:ZL) (first:Option ZL) (rest:ZL->Bool):Option ZL:=
 match first with
 | none=>none
 | some one=>if rest one=true then some { L with own:=one.own,tok:=one.tok } else none
def I4 (one:ZL) (two:Option ZL) (rest:Bool):Bool:=
 match two with
 | none=>false
 | some two=>if one.own=two.own/\one.tok=two.tok then rest else false
def G0 (r:Option ZL) (f:ZL->Option ZL):Option ZL:=match r with|none=>none|some L=>f L
def Ax (m:Nat) (res:Int) (L:ZL):Option ZL:=G0 (if gI L.vars res≠0 then Qe L res else some L) fun L2=>JH L2 m
mutual
def QT (n:ZG) (ln:LI) (L:ZL):Z5->Option ZL
 | .mk op num into args kids=>Az L op (YZ n L.vars (.mk op num into args kids)) (A1 n ln L op num into args (Jl n ln L op num args kids))
def Jl (n:ZG) (ln:LI) (L:ZL) (op num:Int) (args:LI):List Z8->Option ZL
 | []=>none
 | b::bs=>D9 L (U7 n ln (TT n.decls L op num args 0) L.vars.length b) fun one=>JT n ln L op num args one bs 1
def JT (n:ZG) (ln:LI) (L:ZL) (op num:Int) (args:LI) (one:ZL):List Z8->Nat->Bool
 | [],_=>true
 | b::bs,i=>I4 one (U7 n ln (TT n.decls L op num args i) L.vars.length b) (JT n ln L op num args one bs (i+1))
def A3 (n:ZG) (ln:LI) (L:ZL):List Z5->Option ZL
 | []=>some L
 | s::r=>G0 (QT n ln L s) fun L1=>A3 n ln L1 r
def U7 (n:ZG) (ln:LI) (L:ZL) (m:Nat):Z8->Option ZL
 | .mk steps result=>G0 (A3 n ln L steps) (Ax m result)
end
theorem Z20 (n:ZG) (ln:LI) (L:ZL) (s:Z5):QT n ln L s=Az L s.op (YZ n L.vars s) (A1 n ln L s.op s.num s.into s.args (Jl n ln L s.op s.num s.args s.kids)):=by
 cases s with
 | mk op num into args kids=>rw [QT];rfl
theorem IR (n:ZG) (ln:LI) (L:ZL) (m:Nat) (b:Z8):U7 n ln L m b=G0 (A3 n ln L b.steps) (Ax m b.result):=by
 cases b with
 | mk st r=>rw [U7];rfl
def Z4a (n:ZG) (r:YE):Bool:=
 match U7 n r.lent (KQ r) r.params.length r.body with
 | none=>false
 | some L=>(JH L 0).isSome
def NW (n:ZG):List YE->Bool
 | []=>true
 | r::rs=>if Z4a n r=true then NW n rs else false
def Z4b (n:ZG):Bool:=Kw n&&NW n n.routines
structure Tv (L:ZL):Prop where
 own:L.own.length=L.vars.length
 par:L.par.length=L.vars.length
 con:L.con.length=L.vars.length
 fst:L.fst.length=L.vars.length
 tok:L.tok.length=L.vars.length
structure XJ (ds:List Zc) (L:ZL) (q:Int):Prop where
 len:Tv L
 down:∀j:Int,0<=j->j<L.vars.length->gI L.par j<j
 arm:∀x:Int,0<=x->x<L.vars.length->0<=gI L.con x->0<=gI L.fst x/\gI L.fst x+(ZO ds (gI L.con x)).length<=L.vars.length
 nn:∀x∈L.own,0<=x
 bd:∀x∈L.own,x<=q
end Go.Abs
section
namespace Go.Abs
end Go.Abs
namespace Go.Abs
theorem Zco {n:ZG} {op num:Int} {r:YE} (h:op=9) (hr:n.routines[num.toNat]? = some r):E5 n op num=r.lent:=by
 rw [E5,Zh h,hr];rfl
end Go.Abs
namespace Go.Abs
theorem Z3l {own par ln:LI} {N:Int} (hd:∀j:Int,0<=j->j<N->gI par j<j):∀(k:Nat) (v:Int),0<=v->v<N->v.toNat+1<=k->K0 own par ln k v=K0 own par ln (v.toNat+1) v:=by
 intro k
 induction k using Nat.strongRecOn with
 | ind k ih=>
  intro v h0 hN hk
  cases k with
  | zero=>omega
  | succ k=>
   rw [K0,K0]
   split
   ·split
    ·rfl
    ·have hdv:=hd v h0 hN
     rw [ih k om (gI par v) om om om]
     rw [ih v.toNat om (gI par v) om om om]
   ·rfl
theorem Z3n {own par ln:LI} {N j x1 x2:Int} {r:Bool} (h1:gI own j=x1) (h2:gI par j=x2) (hj:0<=j/\j<N) (hx:x1<1/\¬j∈ln) (h0:¬x2<0) (hd:∀i:Int,0<=i->i<N->gI par i<i)
  (h:K0 own par ln (j.toNat+1) j=r):K0 own par ln (x2.toNat+1) x2=r:=by
 rw [K0,h1,h2,Zh hx,Zb h0] at h
 have hdv:=hd j hj.1 hj.2
 rw [<-h,Z3l hd j.toNat x2 om om om]
theorem Z3m {own par ln:LI} {j x1 x2:Int} {r:Bool} (h1:gI own j=x1) (h2:gI par j=x2) (hx:x1<1/\¬j∈ln) (h0:x2<0) (h:K0 own par ln (j.toNat+1) j=r):false=r:=by
 rw [K0,h1,h2,Zh hx,Zh h0] at h;exact h
theorem Z3o {own par ln:LI} {j x1:Int} {r:Bool} (h1:gI own j=x1) (hx:¬(x1<1/\¬j∈ln)) (h:K0 own par ln (j.toNat+1) j=r):true=r:=by
 rw [K0,h1,Zb hx] at h;exact h
end Go.Abs
namespace Go.Abs
theorem A4 {L L':ZL} {v:Int} (h:Qe L v=some L'):1<=gI L.own v/\L'.vars=L.vars/\L'.par=L.par/\L'.con=L.con/\L'.fst=L.fst/\L'.tok=L.tok/\L'.own=L.own.set v.toNat (gI L.own v-1):=by
 rw [Qe] at h
 split at h
 ·cases h
 ·cases h;exact ⟨by omega,rfl,rfl,rfl,rfl,rfl,rfl⟩
theorem H1 {xs:LI} {v:Int} (h:gI xs v≠0):gI xs v∈xs:=by
 rw [gI] at h ⊢
 cases hx:xs[v.toNat]? with
 | none=>rw [hx] at h;exact absurd rfl h
 | some y=>exact Y4 hx
theorem JY {xs:LI} {i:Nat} {a x:Int} (h:x∈xs.set i a):x∈xs∨x=a:=List.mem_or_eq_of_mem_set h
theorem XJ.take {ds:List Zc} {L L':ZL} {q v:Int} (hk:XJ ds L q) (h:Qe L v=some L'):XJ ds L' q:=by
 obtain ⟨t1,t2,t3,t4,t5,t6,t7⟩:=A4 h
 obtain ⟨f1,f2,f3,f4,f5⟩:=hk.len
 have hm:=H1 (xs:=L.own) (v:=v) om
 refine ⟨⟨by rw [t7,t2,VF];exact f1,by rw [t3,t2];exact f2,by rw [t4,t2];exact f3,by rw [t5,t2];exact f4,by rw [t6,t2];exact f5⟩,?_,?_,?_,?_⟩
 ·rw [t2,t3];exact hk.down
 ·rw [t2,t4,t5];exact hk.arm
 ·rw [t7];intro x hx
  rcases JY hx with hx|rfl
  ·exact hk.nn x hx
  ·omega
 ·rw [t7];intro x hx
  rcases JY hx with hx|rfl
  ·exact hk.bd x hx
  ·have:=hk.bd _ hm;omega
end Go.Abs
end
namespace Go.Abs
theorem Nj {us:LI}:∀{args tys:LI},J0 us args tys=true->args.length=tys.length/\∀a∈args,0<=a/\a<us.length
 | [],[],_=>⟨rfl,by simp⟩
 | [],_::_,h=>by cases h
 | _::_,[],h=>by cases h
 | a::as1,t::ts,h=>by
  rw [J0] at h
  split at h
  ·rename_i h1
   obtain ⟨q1,q2⟩:=Nj h
   refine ⟨by simp [q1],fun x hx=>?_⟩
   rcases YL.1 hx with rfl|hx
   ·have:=(Cz h1).1;omega
   ·exact q2 x hx
  ·cases h
theorem Ru {n:ZG} {us:LI}:∀{bs:List Z8} {ms:List LI} {f:Bool} {t:Int},0<=t->0<=QM n us bs ms f t ->
  ∀(i:Nat) (b:Z8) (m:LI),bs[i]? = some b->ms[i]? = some m->0<=W6 n (us++m) b
 | [],_,_,_,_,_,i,b,m,hb,_=>by simp at hb
 | b::bs,[],_,_,_,h,_,_,_,_,hm=>by simp at hm
 | b::bs,m::ms,f,t,ht,h,i,c,l,hc,hl=>by
  rw [QM] at h
  split at h
  ·omega
  ·rename_i hq
   have h0:0<=W6 n (us++m) b:=by
    rcases Int.lt_or_le (W6 n (us++m) b) 0 with q|q
    ·exact absurd (.inl q) hq
    ·exact q
   cases i with
   | zero=>simp at hc hl;subst hc hl;exact h0
   | succ i=>exact Ru h0 h i c l (by simpa using hc) (by simpa using hl)
structure Cs (n:ZG) (us:LI) (s:Z5):Prop where
 args:∀a∈s.args,0<=a/\a<us.length
 one:(s.op=7∨s.op=8∨(14<=s.op/\s.op<=17))->∃a,s.args=[a]
 num:s.op=9->0<=s.num/\s.num<n.routines.length
 into:s.into≠0->1<=s.into/\s.into<=us.length
 kids:(s.op=7∨s.op=8)->s.kids.length=(W4 n.decls s.op s.num).length/\(W4 n.decls s.op s.num).length≠0 /\
  ∀(i:Nat) (b:Z8) (m:LI),s.kids[i]? = some b->(W4 n.decls s.op s.num)[i]? = some m->0<=W6 n (us++m) b
theorem Zc4 {n:ZG} {us:LI} {op num:Int} {kids:List Z8} (h:0<=JU n us op num kids) :
  kids.length=(W4 n.decls op num).length/\(W4 n.decls op num).length≠0/\∀(i:Nat) (b:Z8) (m:LI),kids[i]? = some b->(W4 n.decls op num)[i]? = some m->0<=W6 n (us++m) b:=by
 rw [JU] at h
 split at h
 ·omega
 ·rename_i hq
  exact ⟨by omega,by omega,Ru (Int.le_refl 0) h⟩
theorem RO {xs:LI} (h:xs.length=1):∃a,xs=[a]:=by
 match xs,h with
 | [a],_=>exact ⟨a,rfl⟩
theorem Z22 {n:ZG} {us:LI} {s:Z5} (h:0<=YZ n us s):Cs n us s:=by
 rw [Na] at h
 split at h
 ·omega
 rename_i h0
 have hinto:s.into≠0->1<=s.into/\s.into<=us.length:=by
  intro hi
  have hv:Qf us s.op s.into=true:=by
   cases q:Qf us s.op s.into with
   | true=>rfl
   | false=>exact absurd (.inr (.inl (by rw [q];simp))) h0
  rw [Qf,Zb hi] at hv
  split at hv
  ·cases ha:Wy us (s.into-1) with
   | none=>rw [ha] at hv;cases hv
   | some t=>have:=(Cz ha).1;omega
  ·cases hv
 have mk:(∀a∈s.args,0<=a/\a<us.length)->((s.op=7∨s.op=8∨(14<=s.op/\s.op<=17))->∃a,s.args=[a])->(s.op=9->0<=s.num/\s.num<n.routines.length) ->
   ((s.op=7∨s.op=8)->0<=JU n us s.op s.num s.kids)->Cs n us s:=fun a b c d=>⟨a,b,c,hinto,fun q=>Zc4 (d q)⟩
 have ty:∀{tys},V5 us s.args tys=true->s.args.length=tys.length/\∀a∈s.args,0<=a/\a<us.length:=fun q=>Nj q
 split at h
 ·rename_i h1
  split at h
  ·rename_i h2
   exact mk (by rw [List.eq_nil_of_length_eq_zero h2.1];simp) om om om
  ·omega
 split at h
 ·split at h
  ·rename_i h1 h2;exact mk (ty h2).2 om om om
  ·omega
 split at h
 ·split at h
  ·rename_i h1 h2;exact mk (ty h2).2 om om om
  ·omega
 split at h
 ·split at h
  ·rename_i h1 h2;exact mk (ty h2.2).2 om om om
  ·omega
 split at h
 ·split at h
  ·rename_i h1 h2;exact mk (ty h2).2 (fun _=>RO (by simpa using (ty h2).1)) om (fun _=>h)
  ·omega
 split at h
 ·split at h
  ·rename_i h1 h2;exact mk (ty h2).2 (fun _=>RO (by simpa using (ty h2).1)) om (fun _=>h)
  ·omega
 split at h
 ·rename_i hop
  rw [Ko] at h
  cases hr:Wy n.routines s.num with
  | none=>rw [hr] at h;simp at h
  | some r=>
   rw [hr] at h
   simp only at h
   have hn:=(Cz hr).1
   rw [Cb] at h
   split at h
   ·split at h
    ·rename_i h2;exact mk (ty h2).2 om om om
    ·omega
   ·split at h
    ·omega
    ·rename_i h2
     have h3:V5 us s.args (r.params.take (r.params.length-1))=true:=by
      cases q:V5 us s.args (r.params.take (r.params.length-1)) with
      | true=>rfl
      | false=>exact absurd (.inr (.inr (by rw [q];simp))) h2
     exact mk (ty h3).2 om om om
 split at h
 ·rename_i hop
  rcases he:s.args with _|⟨a,_|⟨b,_|⟨c,r⟩⟩⟩
  ·rw [he,show J7 n.decls us []=-1 from rfl] at h;omega
  ·rw [he,show J7 n.decls us [a]=-1 from rfl] at h;omega
  ·rw [he,J7] at h
   cases ha:Wy us a with
   | none=>rw [ha] at h;simp at h
   | some t=>
    rw [ha] at h
    simp only at h
    split at h
    ·cases hd:n.decls[(t-1).toNat]? with
     | none=>rw [hd] at h;simp at h
     | some d=>
      rw [hd] at h
      simp only at h
      split at h
      ·rename_i h3
       have h4:=(Nj h3).2 b (by simp)
       have h5:=(Cz ha).1
       refine mk (fun x hx=>?_) om om om
       rw [he] at hx
       rcases YL.1 hx with rfl|hx
       ·omega
       ·rw [XE.1 hx];exact h4
      ·omega
    ·omega
  ·rw [he,show J7 n.decls us (a::b::c::r)=-1 from rfl] at h;omega
 split at h
 ·rename_i hop
  rcases he:s.args with _|⟨a,_|⟨b,r⟩⟩
  ·rw [he,show Ja n.decls us s.op []=-1 from rfl] at h;omega
  ·rw [he,Ja] at h
   cases ha:Wy us a with
   | none=>rw [ha] at h;simp at h
   | some t=>
    have h5:=(Cz ha).1
    refine mk (fun x hx=>?_) (fun _=>⟨a,he⟩) om om
    rw [he] at hx
    rw [XE.1 hx];omega
  ·rw [he,show Ja n.decls us s.op (a::b::r)=-1 from rfl] at h;omega
 ·omega
def Ks (n:ZG) (us:LI) (s:Z5):LI:=if Xh s.op=true then us++[YZ n us s] else us
theorem Oo {L L':ZL} {ln:LI} {v:Int} (h:CI L ln v=some L'):L'.vars=L.vars/\L'.par=L.par/\L'.con=L.con/\L'.fst=L.fst/\L'.tok=L.tok/\L'.own=L.own.set v.toNat (gI L.own v+1):=by
 rw [CI] at h
 split at h
 ·cases h;exact ⟨rfl,rfl,rfl,rfl,rfl,rfl⟩
 ·cases h
theorem IK:∀(fs:LI) (own:LI) (p:Int),(QD own p fs).length=own.length
 | [],own,p=>rfl
 | f::r,own,p=>by rw [QD,IK r];split<;>simp
theorem LR {xs:LI} {q v:Int} (h:∀x∈xs,x<=q) (hq:0<=q):gI xs v<=q:=by
 by_cases h0:gI xs v=0
 ·omega
 ·exact h _ (H1 h0)
theorem LS {xs:LI} {v:Int} (h:∀x∈xs,0<=x):0<=gI xs v:=by
 by_cases h0:gI xs v=0
 ·omega
 ·exact h _ (H1 h0)
theorem IL:∀(fs:LI) (own:LI) (p:Int),(∀x∈own,0<=x)->∀x∈QD own p fs,0<=x
 | [],own,p,h=>h
 | f::r,own,p,h=>by
  rw [QD]
  refine IL r _ _ fun x hx=>?_
  split at hx
  ·rcases JY hx with hx|rfl
   ·exact h x hx
   ·have:=LS (v:=p) h;omega
  ·exact h x hx
theorem IJ:∀(fs:LI) (own:LI) (p q:Int),0<=q->(∀x∈own,x<=q)->∀x∈QD own p fs,x<=q+fs.length
 | [],own,p,q,hq,h=>by intro x hx;have:=h x hx;simp;omega
 | f::r,own,p,q,hq,h=>by
  intro x hx
  rw [QD] at hx
  have:=IJ r _ _ (q+1) om (fun y hy=>by
   split at hy
   ·rcases JY hy with hy|rfl
    ·have:=h y hy;omega
    ·have:=LR (v:=p) h hq;omega
   ·have:=h y hy;omega) x hx
  simp only [Yp];omega
theorem Sl {ds:List Zc} {L L':ZL} {op v:Int} (h:AH ds L op v=some L'):L'.vars=L.vars/\L'.par=L.par/\L'.con=L.con/\L'.fst=L.fst/\L'.tok.length=L.tok.length /\
  ∃L1,Qe L v=some L1/\L'.own=QD L1.own (gI L.fst v) (ZO ds (gI L.con v)):=by
 rw [AH] at h
 split at h
 ·cases h
 ·cases ht:Qe L v with
  | none=>rw [ht] at h;cases h
  | some L1=>
   rw [ht] at h
   simp only at h
   obtain ⟨t1,t2,t3,t4,t5,t6,t7⟩:=A4 ht
   cases h
   refine ⟨t2,t3,t4,t5,?_,L1,rfl,rfl⟩
   split
   ·rw [VF]
   ·rfl
theorem LZ {n:ZG} {op num:Int} {ds:List Zc} {q:Int}:∀{as1:LI} {i:Nat} {L L':ZL},XJ ds L q->KI n op num as1 i L=some L'->XJ ds L' q/\L'.vars=L.vars/\L'.par=L.par/\L'.con=L.con/\L'.fst=L.fst/\L'.tok=L.tok
 | [],i,L,L',hk,h=>by rw [KI] at h;cases h;exact ⟨hk,rfl,rfl,rfl,rfl,rfl⟩
 | a::r,i,L,L',hk,h=>by
  rw [KI] at h
  split at h
  ·cases ht:Qe L a with
   | none=>rw [ht] at h;cases h
   | some L1=>
    rw [ht] at h
    obtain ⟨t1,t2,t3,t4,t5,t6,t7⟩:=A4 ht
    obtain ⟨k1,k2,k3,k4,k5,k6⟩:=LZ (hk.take ht) h
    exact ⟨k1,k2.trans t2,k3.trans t3,k4.trans t4,k5.trans t5,k6.trans t6⟩
  ·exact LZ hk h
theorem XJ.le {ds:List Zc} {L:ZL} {q q':Int} (h:XJ ds L q) (hq:q<=q'):XJ ds L q':=⟨h.len,h.down,h.arm,h.nn,fun x hx=>Int.le_trans (h.bd x hx) hq⟩
theorem XJ.turn {ds:List Zc} {L L':ZL} {q q':Int} (hk:XJ ds L q) (h1:L'.vars=L.vars) (h2:L'.par=L.par) (h3:L'.con=L.con) (h4:L'.fst=L.fst) (h5:L'.tok.length=L.tok.length) (h6:L'.own.length=L.own.length)
  (h7:∀x∈L'.own,0<=x) (h8:∀x∈L'.own,x<=q'):XJ ds L' q':=by
 obtain ⟨f1,f2,f3,f4,f5⟩:=hk.len
 refine ⟨⟨by rw [h6,h1];exact f1,by rw [h2,h1];exact f2,by rw [h3,h1];exact f3,by rw [h4,h1];exact f4,by rw [h5,h1];exact f5⟩,?_,?_,h7,h8⟩
 ·rw [h1,h2];exact hk.down
 ·rw [h1,h3,h4];exact hk.arm
theorem DS {xs ys:LI} {j:Int} (h:j.toNat<xs.length):gI (xs++ys) j=gI xs j:=by
 rw [gI,gI,AN h]
theorem Pt {xs:LI} {y:Int} {j:Int} (h:j.toNat=xs.length):gI (xs++[y]) j=y:=by
 rw [gI,h];simp
theorem XJ.grow {ds:List Zc} {L:ZL} {q t o p:Int} (hk:XJ ds L q) (hp:p<L.vars.length) (ho:0<=o/\o<=q):XJ ds (L.grow t o p) q:=by
 obtain ⟨f1,f2,f3,f4,f5⟩:=hk.len
 refine ⟨⟨by simp [ZL.grow,f1],by simp [ZL.grow,f2],by simp [ZL.grow,f3],by simp [ZL.grow,f4],by simp [ZL.grow,f5]⟩,?_,?_,?_,?_⟩
 ·intro j hj hl
  simp only [ZL.grow,ZV,BA] at hl ⊢
  by_cases hlt:j<L.vars.length
  ·rw [DS om];exact hk.down j hj hlt
  ·rw [Pt om];omega
 ·intro x hx hl
  simp only [ZL.grow,ZV,BA] at hl ⊢
  by_cases hlt:x<L.vars.length
  ·rw [DS om,DS om]
   intro hc
   have:=hk.arm x hx hlt hc
   exact ⟨this.1,by omega⟩
  ·rw [Pt om];omega
 ·intro x hx
  simp only [ZL.grow,Xf,XE] at hx
  rcases hx with hx|rfl
  ·exact hk.nn x hx
  ·exact ho.1
 ·intro x hx
  simp only [ZL.grow,Xf,XE] at hx
  rcases hx with hx|rfl
  ·exact hk.bd x hx
  ·exact ho.2
theorem Pu {xs:LI} {k:Nat} {a:Int} {j:Int} (h:xs.length<=j.toNat/\j.toNat<xs.length+k):gI (xs++List.replicate k a) j=a:=by
 rw [gI,Cm h.1,List.getElem?_replicate,Zh om];rfl
theorem Pv {xs:LI} {x j c:Int} (h:j.toNat=x.toNat) (hl:x.toNat<xs.length):gI (xs.set x.toNat c) j=c:=by
 rw [gI,h,List.getElem?_set_self hl];rfl
theorem Pw {xs:LI} {x j c:Int} (h:j.toNat≠x.toNat):gI (xs.set x.toNat c) j=gI xs j:=by
 rw [gI,gI,List.getElem?_set_ne (fun q=>h q.symm)]
theorem PS {p:Int}:∀(fs:LI) (L:ZL),CV L p fs=⟨L.vars++fs,L.own++List.replicate fs.length 0,L.par++List.replicate fs.length p,L.con++List.replicate fs.length (-1),
  L.fst++List.replicate fs.length (-1),L.tok++List.replicate fs.length (-1)⟩
 | [],L=>by simp [CV]
 | t::r,L=>by rw [CV,PS r];simp [ZL.grow,Z2y]
theorem Z43 {ds:List Zc} {L:ZL} {q x c:Int} (hk:XJ ds L q) (hq:0<=q) (hx:0<=x/\x<L.vars.length):XJ ds (Cy ds L x c) q/\(Cy ds L x c).vars=L.vars++ZO ds c:=by
 obtain ⟨f1,f2,f3,f4,f5⟩:=hk.len
 rw [Cy,PS]
 refine ⟨⟨⟨by simp [f1],by simp [f2],by simp [f3],by simp [f4],by simp [f5]⟩,?_,?_,?_,?_⟩,rfl⟩
 ·intro j hj hl
  simp only [ZV] at hl ⊢
  by_cases hlt:j<L.vars.length
  ·rw [DS om];exact hk.down j hj hlt
  ·rw [Pu om];omega
 ·intro y hy hl
  simp only [ZV] at hl ⊢
  by_cases hlt:y<L.vars.length
  ·rw [DS (by simp;omega),DS (by simp;omega)]
   by_cases he:y.toNat=x.toNat
   ·rw [Pv he om,Pv he om]
    intro _
    exact ⟨by omega,by simp⟩
   ·rw [Pw he,Pw he]
    intro hc
    have:=hk.arm y hy hlt hc
    exact ⟨this.1,by omega⟩
  ·rw [Pu (by simp;omega)];omega
 ·intro y hy
  simp only [Xf,List.mem_replicate] at hy
  rcases hy with hy|⟨_,rfl⟩
  ·exact hk.nn y hy
  ·exact Int.le_refl 0
 ·intro y hy
  simp only [Xf,List.mem_replicate] at hy
  rcases hy with hy|⟨_,rfl⟩
  ·exact hk.bd y hy
  ·exact hq
theorem Ht {n:ZG} {L:ZL} {q:Int} {s:Z5} {i:Nat} {m:LI} (hk:XJ n.decls L q) (hq:0<=q) (hf:Cs n L.vars s) (hop:s.op=7∨s.op=8) (hm:(W4 n.decls s.op s.num)[i]? = some m) :
  XJ n.decls (TT n.decls L s.op s.num s.args i) q/\(TT n.decls L s.op s.num s.args i).vars=L.vars++m:=by
 rw [TT]
 split
 ·rename_i h8
  obtain ⟨a,ha⟩:=hf.one om
  have hb:=hf.args a (by rw [ha];simp)
  have hg:gI s.args 0=a:=by rw [ha];rfl
  rw [W4,Zb om,J2] at hm
  cases hc:(ZY n.decls s.num)[i]? with
  | none=>rw [hc] at hm;cases hm
  | some c=>
   rw [hc] at hm
   cases hm
   have hgc:gI (ZY n.decls s.num) (i:Int)=c:=by rw [gI];simp [hc]
   rw [hg,hgc]
   exact Z43 hk hq hb
 ·rename_i h8
  rw [W4,Zh om] at hm
  have:m=[]:=by
   match i,hm with
   | 0,hm=>simpa using hm.symm
   | 1,hm=>simpa using hm.symm
   | i+2,hm=>simp at hm
  subst this
  exact ⟨hk,by simp⟩
theorem Z23 {n:ZG}:∀{l:List Z5} {us vs:LI},UF n l us=some vs->us.length<=vs.length
 | [],us,vs,h=>by rw [UF] at h;cases h;exact X5 _
 | s::r,us,vs,h=>by
  rw [UF] at h
  split at h
  ·cases h
  ·have:=Z23 h
   split at this
   ·simp only [ZV,BA] at this;omega
   ·exact this
theorem PT {n:ZG} {ln:LI} {L L':ZL} {op num into q:Int} {args:LI} {ds:List Zc} (hk:XJ ds L q) (h:JK n ln L op num into args=some L'):XJ ds L' q/\L'.vars=L.vars:=by
 rw [JK] at h
 cases ht:KI n op num args 0 L with
 | none=>rw [ht] at h;cases h
 | some L1=>
  rw [ht] at h
  simp only at h
  obtain ⟨k1,k2,k3,k4,k5,k6⟩:=LZ hk ht
  split at h
  ·rw [EY] at h
   split at h
   ·split at h
    ·cases h
    ·cases h
     exact ⟨k1.turn rfl rfl rfl rfl (by simp) rfl k1.nn k1.bd,k2⟩
   ·cases h;exact ⟨k1,k2⟩
  ·cases h
theorem Z5d {L L':ZL} {m:Nat} (h:JH L m=some L'):L'=L.take m/\Ck (L.own.drop m) (L.tok.drop m)=true:=by
 rw [JH] at h
 split at h
 ·rename_i hz;cases h;exact ⟨rfl,hz⟩
 ·cases h
theorem Ni {r:Option ZL} {f:ZL->Option ZL} {L:ZL} (h:G0 r f=some L):∃L1,r=some L1/\f L1=some L:=by
 cases r with
 | none=>cases h
 | some L1=>exact ⟨L1,rfl,h⟩
theorem RG (n:ZG) (hn:Xw n) (ln:LI):∀m:Nat,
  (∀(s:Z5) (L L':ZL) (q:Int),s.sz<=m->XJ n.decls L q->0<=q->0<=YZ n L.vars s->QT n ln L s=some L'->XJ n.decls L' (q+4*s.sz)/\L'.vars=Ks n L.vars s) /\
  (∀(b:Z8) (L O:ZL) (q:Int) (k:Nat),b.sz<=m->XJ n.decls L q->0<=q->0<=W6 n L.vars b->k<=L.vars.length->U7 n ln L k b=some O ->
   (O.own.length=k/\O.tok.length=k/\(∀x∈O.own,0<=x/\x<=q+4*b.sz))/\Tv O/\O.vars.length=k):=by
 intro m
 induction m with
 | zero=>exact ⟨fun s _ _ _ h=>by have:=s.sz_pos;omega,fun s _ _ _ _ h=>by have:=s.sz_pos;omega⟩
 | succ m ih=>
  have hs:∀(s:Z5) (L L':ZL) (q:Int),s.sz<=m+1->XJ n.decls L q->0<=q->0<=YZ n L.vars s->QT n ln L s=some L'->XJ n.decls L' (q+4*s.sz)/\L'.vars=Ks n L.vars s:=by
   intro s L L' q XO hk hq hty h
   have hp:=s.sz_pos
   have hf:=Z22 hty
   obtain ⟨f1,f2,f3,f4,f5⟩:=hk.len
   rw [Z20] at h
   unfold Az at h
   cases hpk:A1 n ln L s.op s.num s.into s.args (Jl n ln L s.op s.num s.args s.kids) with
   | none=>rw [hpk] at h;cases h
   | some L1=>
    rw [hpk] at h
    simp only at h
    have key:XJ n.decls L1 (q+4*s.sz)/\L1.vars=L.vars:=by
     rw [A1] at hpk
     split at hpk
     ·obtain ⟨d1,d2,d3,d4,d5,d6⟩:=Oo hpk
      refine ⟨hk.turn d1 d2 d3 d4 (by rw [d5]) (by rw [d6,VF]) ?_ ?_,d1⟩
      ·rw [d6];intro x hx
       rcases JY hx with hx|rfl
       ·exact hk.nn x hx
       ·have:=LS (v:=gI s.args 0) hk.nn;omega
      ·rw [d6];intro x hx
       rcases JY hx with hx|rfl
       ·have:=hk.bd x hx;omega
       ·have:=LR (v:=gI s.args 0) hk.bd hq;omega
     split at hpk
     ·exact ⟨(hk.take hpk).le om,(A4 hpk).2.1⟩
     split at hpk
     ·rename_i hop
      obtain ⟨d1,d2,d3,d4,d5,Lt,ht,d6⟩:=Sl hpk
      have hkt:=hk.take ht
      have h3:=Vq hn.decls (gI L.con (gI s.args 0))
      refine ⟨hk.turn d1 d2 d3 d4 d5 ?_ ?_ ?_,d1⟩
      ·rw [d6,IK,(A4 ht).2.2.2.2.2.2,VF]
      ·rw [d6];exact IL _ _ _ hkt.nn
      ·rw [d6];intro x hx
       have:=IJ _ _ _ q hq hkt.bd x hx;omega
     split at hpk
     ·rename_i hop
      split at hpk
      ·cases hpk
      ·cases hks:s.kids with
       | nil=>rw [hks,Jl] at hpk;cases hpk
       | cons b bs=>
        rw [hks,Jl] at hpk
        unfold D9 at hpk
        cases hb:U7 n ln (TT n.decls L s.op s.num s.args 0) L.vars.length b with
        | none=>rw [hb] at hpk;cases hpk
        | some one=>
         rw [hb] at hpk
         simp only at hpk
         split at hpk
         ·cases hpk
          obtain ⟨q1,q2,q3⟩:=hf.kids hop
          have hks0:s.kids[0]? = some b:=by rw [hks];rfl
          obtain ⟨a0,ha0⟩:=Bf (xs:=W4 n.decls s.op s.num) (j:=0) om
          obtain ⟨k1,k2⟩:=Ht hk hq hf hop ha0
          have hbz:=Qu hks0
          obtain ⟨⟨r1,r2,r3⟩,_⟩:=ih.2 b _ one q L.vars.length om k1 hq (by rw [k2];exact q3 0 b a0 hks0 ha0) (by rw [k2];simp) hb
          refine ⟨hk.turn rfl rfl rfl rfl (by simp only;omega) (by simp only;omega) (fun x hx=>(r3 x hx).1) (fun x hx=>?_),rfl⟩
          have:=(r3 x hx).2;omega
         ·cases hpk
     ·obtain ⟨k1,k2⟩:=PT hk hpk
      exact ⟨k1.le om,k2⟩
    split at h
    ·rename_i hd
     cases h
     refine ⟨key.1.grow om ?_,by rw [Ks,Zh hd];simp [ZL.grow,key.2]⟩
     split<;>omega
    ·rename_i hd
     cases h
     exact ⟨key.1,by rw [Ks,Zb hd];exact key.2⟩
  refine ⟨hs,?_⟩
  intro b L O q k XO hk hq hty hkl h
  have hsteps:∀(l:List Z5) (L L':ZL) (q:Int) (vs:LI),Yu l<=m->XJ n.decls L q->0<=q->UF n l L.vars=some vs->A3 n ln L l=some L'->XJ n.decls L' (q+4*Yu l)/\L'.vars=vs:=by
   intro l
   induction l with
   | nil=>intro L L' q vs _ hk _ h1 h2;rw [UF] at h1;rw [A3] at h2;cases h1;cases h2;exact ⟨by simpa [Yu] using hk,rfl⟩
   | cons s r ihr=>
    intro L L' q vs hz hk hq h1 h2
    rw [Yu] at hz
    rw [A3] at h2
    obtain ⟨L1,e1,e2⟩:=Ni h2
    rw [UF] at h1
    split at h1
    ·cases h1
    ·rename_i h0
     obtain ⟨k1,k2⟩:=hs s L L1 q om hk hq om e1
     obtain ⟨k3,k4⟩:=ihr L1 L' (q+4*s.sz) vs om k1 om (by rw [k2];exact h1) e2
     exact ⟨k3.le (by rw [Yu];omega),k4⟩
  have hbz:=b.sz_eq
  rw [IR] at h
  obtain ⟨L1,e1,e2⟩:=Ni h
  rw [IS] at hty
  cases hv:UF n b.steps L.vars with
  | none=>rw [hv] at hty;simp at hty
  | some vs=>
   obtain ⟨k1,k2⟩:=hsteps b.steps L L1 q vs om hk hq hv e1
   have hlen:=Z23 hv
   rw [Ax] at e2
   obtain ⟨L2,e3,e4⟩:=Ni e2
   have k3:XJ n.decls L2 (q+4*Yu b.steps)/\L2.vars=L1.vars:=by
    split at e3
    ·exact ⟨k1.take e3,(A4 e3).2.1⟩
    ·cases e3;exact ⟨k1,rfl⟩
   obtain ⟨rfl,_⟩:=Z5d e4
   obtain ⟨g1,g2,g3,g4,g5⟩:=k3.1.len
   have hl2:L2.vars.length=vs.length:=by rw [k3.2,k2]
   refine ⟨⟨by simp [ZL.take];omega,by simp [ZL.take];omega,fun x hx=>?_⟩,⟨by simp [ZL.take];omega,by simp [ZL.take];omega,by simp [ZL.take];omega,by simp [ZL.take];omega,by simp [ZL.take];omega⟩,by simp [ZL.take];omega⟩
   have hx':x∈L2.own:=QX hx
   have:=k3.1.nn x hx'
   have:=k3.1.bd x hx'
   omega
theorem Z21 {n:ZG} (hn:Xw n) {ln:LI} {s:Z5} {L L':ZL} {q:Int} (hk:XJ n.decls L q) (hq:0<=q) (hty:0<=YZ n L.vars s) (h:QT n ln L s=some L'):XJ n.decls L' (q+4*s.sz)/\L'.vars=Ks n L.vars s:=
 (RG n hn ln s.sz).1 s L L' q (X5 _) hk hq hty h
theorem NY {n:ZG} (hn:Xw n) {ln:LI} {b:Z8} {L O:ZL} {q:Int} {k:Nat} (hk:XJ n.decls L q) (hq:0<=q) (hty:0<=W6 n L.vars b) (hkl:k<=L.vars.length) (h:U7 n ln L k b=some O) :
  O.own.length=k/\O.tok.length=k/\(∀x∈O.own,0<=x/\x<=q+4*b.sz):=
 ((RG n hn ln b.sz).2 b L O q k (X5 _) hk hq hty hkl h).1
theorem Fz {n:ZG} (hn:Xw n) {ln:LI} {s:Z5} {L L1:ZL} {q:Int} (hk:XJ n.decls L q) (hq:0<=q) (hf:Cs n L.vars s)
  (hpk:A1 n ln L s.op s.num s.into s.args (Jl n ln L s.op s.num s.args s.kids)=some L1):XJ n.decls L1 (q+4*s.sz)/\L1.vars=L.vars:=by
 have hp:=s.sz_pos
 obtain ⟨f1,f2,f3,f4,f5⟩:=hk.len
 rw [A1] at hpk
 split at hpk
 ·obtain ⟨d1,d2,d3,d4,d5,d6⟩:=Oo hpk
  refine ⟨hk.turn d1 d2 d3 d4 (by rw [d5]) (by rw [d6,VF]) ?_ ?_,d1⟩
  ·rw [d6];intro x hx
   rcases JY hx with hx|rfl
   ·exact hk.nn x hx
   ·have:=LS (v:=gI s.args 0) hk.nn;omega
  ·rw [d6];intro x hx
   rcases JY hx with hx|rfl
   ·have:=hk.bd x hx;omega
   ·have:=LR (v:=gI s.args 0) hk.bd hq;omega
 split at hpk
 ·exact ⟨(hk.take hpk).le om,(A4 hpk).2.1⟩
 split at hpk
 ·rename_i hop
  obtain ⟨d1,d2,d3,d4,d5,Lt,ht,d6⟩:=Sl hpk
  have hkt:=hk.take ht
  have h3:=Vq hn.decls (gI L.con (gI s.args 0))
  refine ⟨hk.turn d1 d2 d3 d4 d5 ?_ ?_ ?_,d1⟩
  ·rw [d6,IK,(A4 ht).2.2.2.2.2.2,VF]
  ·rw [d6];exact IL _ _ _ hkt.nn
  ·rw [d6];intro x hx
   have:=IJ _ _ _ q hq hkt.bd x hx;omega
 split at hpk
 ·rename_i hop
  split at hpk
  ·cases hpk
  ·cases hks:s.kids with
   | nil=>rw [hks,Jl] at hpk;cases hpk
   | cons b bs=>
    rw [hks,Jl] at hpk
    unfold D9 at hpk
    cases hb:U7 n ln (TT n.decls L s.op s.num s.args 0) L.vars.length b with
    | none=>rw [hb] at hpk;cases hpk
    | some one=>
     rw [hb] at hpk
     simp only at hpk
     split at hpk
     ·cases hpk
      obtain ⟨q1,q2,q3⟩:=hf.kids hop
      have hks0:s.kids[0]? = some b:=by rw [hks];rfl
      obtain ⟨a0,ha0⟩:=Bf (xs:=W4 n.decls s.op s.num) (j:=0) om
      obtain ⟨k1,k2⟩:=Ht hk hq hf hop ha0
      have hbz:=Qu hks0
      obtain ⟨r1,r2,r3⟩:=NY hn k1 hq (by rw [k2];exact q3 0 b a0 hks0 ha0) (by rw [k2];simp) hb
      refine ⟨hk.turn rfl rfl rfl rfl (by simp only;omega) (by simp only;omega) (fun x hx=>(r3 x hx).1) (fun x hx=>?_),rfl⟩
      have:=(r3 x hx).2;omega
     ·cases hpk
 ·obtain ⟨k1,k2⟩:=PT hk hpk
  exact ⟨k1.le om,k2⟩
end Go.Abs
section
namespace Go.Abs
theorem Z44 {ds:List Zc} {op num:Int} {i:Nat} {m:LI} (h8:op=8) (h:(W4 ds op num)[i]? = some m):∃c,(ZY ds num)[i]? = some c/\m=ZO ds c:=by
 rw [W4,Zb om,J2] at h
 cases hc:(ZY ds num)[i]? with
 | none=>rw [hc] at h;cases h
 | some c=>rw [hc] at h;cases h;exact ⟨c,rfl,rfl⟩
theorem Zc0 {ds:List Zc} {L:ZL} {op num x c:Int} {args:LI} {i:Nat} (h8:op=8) (hx:args[0]? = some x) (hc:(ZY ds num)[i]? = some c):TT ds L op num args i=Cy ds L x c:=by
 have h1:gI args 0=x:=by rw [gI];simp [hx]
 have h2:gI (ZY ds num) (i:Int)=c:=by rw [gI];simp [hc]
 rw [TT,Zh h8,h1,h2]
theorem Zc1 {ds:List Zc} {L:ZL} {op num:Int} {args:LI} {i:Nat} (h8:¬op=8):TT ds L op num args i=L:=by rw [TT,Zb h8]
theorem Zc2 {n:ZG} {ln:LI} {L:ZL} {op num:Int} {args:LI} {kids:List Z8} {kb:Z8} (h:kids[0]? = some kb) :
  Jl n ln L op num args kids=D9 L (U7 n ln (TT n.decls L op num args 0) L.vars.length kb) fun one=>JT n ln L op num args one (kids.drop 1) 1:=by
 cases kids with
 | nil=>simp at h
 | cons b bs=>simp at h;subst h;rw [Jl];rfl
theorem Zc3 {n:ZG} {ln:LI} {L one:ZL} {op num:Int} {args:LI} {kids:List Z8} {kb:Z8} {k:Nat} (h:kids[k]? = some kb) :
  JT n ln L op num args one (kids.drop k) k=I4 one (U7 n ln (TT n.decls L op num args k) L.vars.length kb) (JT n ln L op num args one (kids.drop (k+1)) (k+1)):=by
 rw [Yi h,JT]
def CD (n:ZG) (ln:LI) (L:ZL) (s:Z5):Option ZL:=
 if s.op=8/\¬Ta L ln (gI s.args 0)=true then none else Jl n ln L s.op s.num s.args s.kids
theorem Z4p {n:ZG} {ln:LI} {L:ZL} {s:Z5} {kb:Z8} (h:¬(s.op=8/\¬Ta L ln (gI s.args 0)=true)) (hk:s.kids[0]? = some kb) :
  CD n ln L s=D9 L (U7 n ln (TT n.decls L s.op s.num s.args 0) L.vars.length kb) fun one=>JT n ln L s.op s.num s.args one (s.kids.drop 1) 1:=by
 rw [CD,Zb h,Zc2 hk]
theorem QH {xs:LI} {x:Int} (h:xs[0]? = some x):gI xs 0=x:=by rw [gI];simp [h]
end Go.Abs
namespace Go.Abs
theorem Tv.grow {L:ZL} {t o p:Int} (h:Tv L):Tv (L.grow t o p):=by
 obtain ⟨f1,f2,f3,f4,f5⟩:=h
 exact ⟨by simp [ZL.grow,f1],by simp [ZL.grow,f2],by simp [ZL.grow,f3],by simp [ZL.grow,f4],by simp [ZL.grow,f5]⟩
theorem Tv.arm {L:ZL} {i j:Nat} {c d:Int} (h:Tv L):Tv ⟨L.vars,L.own,L.par,L.con.set i c,L.fst.set j d,L.tok⟩:=by
 obtain ⟨f1,f2,f3,f4,f5⟩:=h
 exact ⟨f1,f2,by simp [f3],by simp [f4],f5⟩
end Go.Abs
namespace Go.Abs
theorem Rt {n:ZG} (hn:Xw n) {ln:LI} {L O:ZL} {q:Int} {s:Z5} {i:Nat} {kb:Z8} {m:LI} (hk:XJ n.decls L q) (hq:0<=q) (hf:Cs n L.vars s) (hop:s.op=7∨s.op=8)
  (_:s.kids[i]? = some kb) (harm:(W4 n.decls s.op s.num)[i]? = some m) (hbt:0<=W6 n (L.vars++m) kb) (h:U7 n ln (TT n.decls L s.op s.num s.args i) L.vars.length kb=some O) :
  O.own.length=L.vars.length/\O.tok.length=L.vars.length:=by
 obtain ⟨k1,k2⟩:=Ht hk hq hf hop harm
 obtain ⟨r1,r2,_⟩:=NY hn k1 hq (by rw [k2];exact hbt) (by rw [k2];simp) h
 exact ⟨r1,r2⟩
theorem Zfo {one two:ZL} {r:Bool} (h:¬(¬one.own=two.own∨¬one.tok=two.tok)):I4 one (some two) r=r:=Zh ⟨Uz.1 fun q=>h (.inl q),Uz.1 fun q=>h (.inr q)⟩
theorem Zfn {one two:ZL} {r:Bool} (h:¬one.own=two.own∨¬one.tok=two.tok):I4 one (some two) r=false:=Zb fun q=>h.elim (fun z=>z q.1) fun z=>z q.2
theorem Zcx {L one:ZL} {f:ZL->Bool} (h:f one=true):D9 L (some one) f=some ⟨L.vars,one.own,L.par,L.con,L.fst,one.tok⟩:=Zh h
theorem RU {L one:ZL} {f:ZL->Bool} (h:f one=false):D9 L (some one) f=none:=Zb (by rw [h];simp)
end Go.Abs
namespace Go.Abs
section
variable {n:ZG} {ln:LI} {L:ZL} {s:Z5}
abbrev AI (n:ZG) (ln:LI) (L:ZL) (s:Z5):Option ZL:=A1 n ln L s.op s.num s.into s.args (Jl n ln L s.op s.num s.args s.kids)
theorem Sq {x:Int} (h:s.op=14) (hx:gI s.args 0=x):AI n ln L s=CI L ln x:=hx▸Zh h
theorem Sr {x:Int} (h:s.op=15) (hx:gI s.args 0=x):AI n ln L s=Qe L x:=by rw [<-hx,AI,A1,Zb om,Zh h]
theorem Ss {x:Int} (h:s.op=16∨s.op=17) (hx:gI s.args 0=x):AI n ln L s=AH n.decls L s.op x:=by rw [<-hx,AI,A1,Zb om,Zb om,Zh h]
theorem St (h:s.op=7∨s.op=8):AI n ln L s=CD n ln L s:=by rw [AI,A1,Zb om,Zb om,Zb om,Zh h,CD]
theorem Su (h1:¬s.op=14) (h2:¬s.op=15) (h3:¬(s.op=16∨s.op=17)) (h4:¬(s.op=7∨s.op=8)):AI n ln L s=JK n ln L s.op s.num s.into s.args:=by
 rw [AI,A1,Zb h1,Zb h2,Zb h3,Zb h4]
theorem Z5z {v:Int} (h:¬Ta L ln v=true):CI L ln v=none:=Zb h
theorem Z60 {v x:Int} (h:¬¬Ta L ln v=true) (hx:gI L.own v=x):CI L ln v=some ⟨L.vars,L.own.set v.toNat (x+1),L.par,L.con,L.fst,L.tok⟩:=by rw [CI,Zh (Uz.1 h),hx]
theorem Ts (n:ZG) (ln:LI) (L:ZL) (s:Z5):QT n ln L s=Az L s.op (YZ n L.vars s) (AI n ln L s):=Z20 n ln L s
theorem Th {X:ZL} {op t:Int} (h:Xh op=true/\t≠0):Az L op t (some X)=some (X.grow t 1 (-1)):=by
 unfold Az;simp only [h.1,↓reduceIte];rw [Zh h.2]
theorem Ti {X:ZL} {op t:Int} (h:¬(Xh op=true/\t≠0)) (h2:Xh op=true):Az L op t (some X)=some (X.grow 0 0 (-1)):=by
 have ht:t=0:=Uz.1 fun q=>h ⟨h2,q⟩
 subst ht
 unfold Az;simp only [h2,↓reduceIte];rfl
theorem Tj {X:ZL} {op t:Int} (h:¬Xh op=true):Az L op t (some X)=some X:=by
 unfold Az;simp only [Zb h]
end
end Go.Abs
namespace Go.Abs
theorem NZ {n:ZG} {us:LI} {b:Z8} (h:0<=W6 n us b):∃vs t,UF n b.steps us=some vs/\Wy vs b.result=some t/\0<=t:=by
 rw [IS] at h
 cases hv:UF n b.steps us with
 | none=>rw [hv] at h;simp at h
 | some vs=>
  rw [hv] at h
  simp only at h
  cases ha:Wy vs b.result with
  | none=>rw [ha] at h;simp at h
  | some t=>rw [ha] at h;exact ⟨vs,t,rfl,ha,h⟩
theorem Z24 {n:ZG} {us vs:LI} {s:Z5} {r:List Z5} (h:UF n (s::r) us=some vs):0<=YZ n us s/\UF n r (Ks n us s)=some vs:=by
 rw [UF] at h
 split at h
 ·cases h
 ·exact ⟨by omega,h⟩
theorem Z0v (n:ZG) (us:LI) (s:Z5):us.length<=(Ks n us s).length/\(Ks n us s).length<=us.length+s.sz:=by
 have:=s.sz_pos
 rw [Ks];split
 ·simp only [ZV,BA];omega
 ·omega
end Go.Abs
namespace Go.Abs
theorem Z6p {X L:ZL} {m:Nat} {r x:Int} (hg:gI L.vars r=x) (h:x≠0) (ht:Qe L r=some X):Ax m r L=JH X m:=by rw [Ax,hg,Zh h,ht];rfl
theorem Z6o {L:ZL} {m:Nat} {r x:Int} (hg:gI L.vars r=x) (h:x≠0) (ht:Qe L r=none):Ax m r L=none:=by rw [Ax,hg,Zh h,ht];rfl
theorem EQ {L:ZL} {m:Nat} {r x:Int} (hg:gI L.vars r=x) (h:¬x≠0):Ax m r L=JH L m:=by rw [Ax,hg,Zb h];rfl
end Go.Abs
namespace Go.Abs
theorem Sp {ds:List Zc} {lent:LI}:∀{ps:LI} {i:Nat} {L:ZL},XJ ds L 1->XJ ds (Bp lent ps i L) 1/\(Bp lent ps i L).vars=L.vars++ps
 | [],i,L,hk=>⟨hk,by simp [Bp]⟩
 | t::r,i,L,hk=>by
  rw [Bp]
  obtain ⟨k1,k2⟩:=Sp (lent:=lent) (ps:=r) (i:=i+1) (hk.grow (t:=t) (o:=if t≠0/\¬(i:Int)∈lent then 1 else 0) (p:=-1) om (by split<;>omega))
  exact ⟨k1,by rw [k2];simp [ZL.grow]⟩
theorem Zd0 (ds:List Zc) (r:YE):XJ ds (KQ r) 1/\(KQ r).vars=r.params:=by
 have h:XJ ds (⟨[],[],[],[],[],[]⟩:ZL) 1:=⟨⟨rfl,rfl,rfl,rfl,rfl⟩,fun j h1 h2=>by simp at h2;omega,fun j h1 h2=>by simp at h2;omega,by simp,by simp⟩
 obtain ⟨k1,k2⟩:=Sp (lent:=r.lent) (ps:=r.params) (i:=0) h
 exact ⟨k1,by rw [KQ,k2];rfl⟩
end Go.Abs
namespace Go.Abs
theorem Z08 {n:ZG}:∀{l:List YE},Br n l=true->∀r∈l,¬Bv r.body<0/\W6 n r.params r.body=r.result
 | [],_,r,h=>by simp at h
 | a::l,h,r,hr=>by
  rw [Br] at h
  split at h
  ·rename_i h1
   rcases YL.1 hr with rfl|hr
   ·exact h1
   ·exact Z08 h r hr
  ·cases h
theorem Zis {n:ZG} (hz:Ad n) (h:Kw n=true):Xw n/\∀r∈n.routines,0<=W6 n r.params r.body:=by
 simp only [Kw,YX] at h
 refine ⟨S2 hz h.1,fun r hr=>?_⟩
 rw [(Z08 h.2 r hr).2]
 have h1:=h.1
 simp only [AG,UV,YX] at h1
 have:=I6 h1.2.1.2.2.1 (Qc r) (Xz.2 ⟨r,hr,rfl⟩)
 simp only [KU,YX,decide_eq_true_eq,Qc] at this
 exact (of_decide_eq_true this.2.2).1
end Go.Abs
end
section
namespace Go.Abs
theorem Z6c {xs:LI} (h:Z6 xs=[]):xs=[]:=by cases xs with|nil=>rfl|cons x r=>cases h
theorem Z63 {xs:List Yg} (h:Xy xs=[]):xs=[]:=by cases xs with|nil=>rfl|cons x r=>cases h
theorem Z65 {xs:List Zc} (h:Yv xs=[]):xs=[]:=by cases xs with|nil=>rfl|cons x r=>cases h
end Go.Abs
namespace Go.Abs
end Go.Abs
namespace Go.Abs
end Go.Abs
end
section
namespace Go.Abs
theorem Z52 {c:Int} {ds:List Zc} {k:Nat} {d:Zc} {r:Int × LI} (h:ds[k]? = some d) (hn:¬(c-YJ (ds.take k)>=0/\c-YJ (ds.take k)<d.cons.length))
  (hr:UB c (ds.drop k) k (YJ (ds.take k))=r):UB c (ds.drop (k+1)) (k+1) (YJ (ds.take (k+1)))=r:=by
 rw [Yi h,UB,Zb om] at hr
 rw [V4 h,Dx,<-hr];rfl
end Go.Abs
namespace Go.Abs
theorem Z54 {c:Int} {ds:List Zc} {k:Nat} {d:Zc} {x:Yg} (h:ds[k]? = some d) (hn:c-YJ (ds.take k)>=0/\c-YJ (ds.take k)<d.cons.length)
  (hx:d.cons[(c-YJ (ds.take k)).toNat]? = some x):UB c (ds.drop k) k (YJ (ds.take k))=((k:Int)+1,x.fields):=by
 rw [Yi h,UB,Zh om,hx];rfl
def BD (c:Int) (z:Nat) (v:Int):Prop:=v=c-z∨(c<0/\c-z < -9223372036854775808/\v=c-z+18446744073709551616)
theorem Z47 {c:Int} {z l:Nat} {v:Int} (h:BD c z v) (hz:z<=100) (hl:l<=3) (hc:-9223372036854775808<=c/\c<=9223372036854775807):BD c (z+l) (Do (v-l)):=by
 unfold BD at *;rw [Do,IntKind.wrap_i64];omega
theorem Z53 {c v:Int} {ds:List Zc} {k:Nat} {d:Zc} {r:Int × LI} (h:ds[k]? = some d) (ha:BD c (YJ (ds.take k)) v) (hn:¬(v>=0/\v<d.cons.length))
  (hr:UB c (ds.drop k) k (YJ (ds.take k))=r):UB c (ds.drop (k+1)) (k+1) (YJ (ds.take (k+1)))=r:=Z52 h (by unfold BD at ha;omega) hr
theorem Z55 {c v:Int} {ds:List Zc} {k:Nat} {d:Zc} {x:Yg} (h:ds[k]? = some d) (ha:BD c (YJ (ds.take k)) v) (hz:YJ (ds.take k)<=100) (hl:d.cons.length<=3) (hc:-9223372036854775808<=c)
  (hn:v>=0/\v<d.cons.length) (hx:d.cons[v.toNat]? = some x):UB c (ds.drop k) k (YJ (ds.take k))=((k:Int)+1,x.fields):=by
 have:v=c-(YJ (ds.take k):Int):=by unfold BD at ha;omega
 subst this
 exact Z54 h hn hx
end Go.Abs
namespace Go.Abs
abbrev Ok (ds:List Zc) (d:Zc):Prop:=
 (((¬(0<=d.frm/\d.frm<=ds.length))∨(¬(0<=d.to_/\d.to_<=ds.length)))∨((d.cons.length:Int)>3))∨(((d.cons.length:Int)>0)/\((d.frm≠0)∨(d.to_≠0)))
theorem Z5t {ds:List Zc} {d:Zc} {i:Nat} (h:Ok ds d):Tb ds d i=false:=by
 rw [Tb]
 split
 ·rw [Zb];rintro ⟨h1,h2,h3⟩
  rcases h with ((h|h)|h)|h<;>omega
 ·split
  ·rfl
  ·rcases h with ((h|h)|h)|h
   ·rw [decide_eq_false h];rfl
   ·rw [decide_eq_false h,Bool.and_false]
   ·omega
   ·omega
theorem Z5u {ds:List Zc} {d:Zc} {i:Nat} (hl:0<d.cons.length) (h:TN ds.length d.cons=false):Tb ds d i=false:=by
 rw [Tb,Zh hl];split
 ·exact h
 ·rfl
theorem Z5v {ds:List Zc} {d:Zc} {i:Nat} (hl:d.cons.length=0) (h:K5 d (ds.take i)=true):Tb ds d i=false:=by
 rw [Tb,Zb om,Zh h]
theorem Z5w {ds:List Zc} {d:Zc} {i:Nat} (h1:¬Ok ds d) (h2:TN ds.length d.cons=true) (h3:d.cons.length=0->K5 d (ds.take i)=false):Tb ds d i=true:=by
 rw [Tb]
 have ha:0<=d.frm/\d.frm<=ds.length:=Uz.1 fun q=>h1 (.inl (.inl (.inl q)))
 have hb:0<=d.to_/\d.to_<=ds.length:=Uz.1 fun q=>h1 (.inl (.inl (.inr q)))
 have hc:¬(d.cons.length:Int)>3:=fun q=>h1 (.inl (.inr q))
 split
 ·rename_i hl
  have hd:¬(d.frm≠0∨d.to_≠0):=fun q=>h1 (.inr ⟨by omega,q⟩)
  rw [Zh ⟨by omega,by omega,by omega⟩];exact h2
 ·rw [Zb (by rw [h3 om];simp),decide_eq_true ha,decide_eq_true hb];rfl
theorem Nm {ds:List Zc} {k:Nat} {d:Zc} (h:ds[k]? = some d) (hA:Tb ds d k=false) (c:Tc ds (ds.drop k) k=Tc ds ds 0):false=WQ ds:=by
 rw [WQ,<-c,Yi h,Tc,EM h,hA,Zb (by simp),Bool.and_false]
theorem Ziu {ds:List Zc} {k:Nat} {d:Zc} {r:Bool} (h:ds[k]? = some d) (hA:Tb ds d k=true) (c:Tc ds (ds.drop k) k=r):Tc ds (ds.drop (k+1)) (k+1)=r:=by
 rw [Yi h,Tc,EM h,hA,Zh rfl] at c;exact c
theorem Zit {ds:List Zc} {k:Nat} (hl:ds.length<=4) (hk:ds.length<=k) (c:Tc ds (ds.drop k) k=Tc ds ds 0):true=WQ ds:=by
 rw [WQ,<-c,Xn hk,decide_eq_true hl];rfl
theorem Z56 {m:Nat} {c:Yg} (h:((c.fields.length:Int)>3)∨(¬(Wm m c.fields=true))):JF m c=false:=by
 rw [JF]
 rcases h with h|h
 ·rw [decide_eq_false om];rfl
 ·rw [QA.2 h,Bool.and_false]
theorem Z57 {m:Nat} {c:Yg} (h:¬(((c.fields.length:Int)>3)∨(¬(Wm m c.fields=true)))):JF m c=true:=by
 rw [JF,Uz.1 fun q=>h (.inr q),decide_eq_true (by have:¬(c.fields.length:Int)>3:=fun q=>h (.inl q);omega)];rfl
end Go.Abs
end
section
namespace Go.Abs
structure VI where
 pms:LI
 lnt:LI
 res:Int
abbrev Rx (f:VI):List AV:=[Z4 f.pms,Z4 f.lnt,.i f.res]
abbrev Gk (f:VI):AV:=.agg (Rx f)
def Tg (fs:List VI):List AV:=fs.map Gk
abbrev KP (xs:List VI):AV:=.sl (Tg xs) none
abbrev HG (xs:List VI) (v:Value):AV:=.sl (Tg xs) (some v)
theorem DJ {xs:List VI} {j:Nat} {x:VI} (h:xs[j]? = some x):(Tg xs)[j]? = some (Gk x):=by simp [Tg,h]
@[simp] theorem EP (xs:List VI):(Tg xs).length=xs.length:=by simp [Tg]
theorem Ow (xs:List VI):∀y∈Tg xs,y.leaves.length=3:=by intro y hy;simp only [Tg,Xz] at hy;obtain ⟨x,_,rfl⟩:=hy;rfl
theorem Z6g (xs:List VI):(Z9 (Tg xs)).all AV.one=true:=Jg fun y hy=>by simp only [Tg,Xz] at hy;obtain ⟨x,_,rfl⟩:=hy;rfl
def AK (m:Nat) (f:VI):Bool:=KU m ⟨f.pms,f.res⟩&&Uy f.pms f.lnt
def KV (m:Nat):List VI->Bool
 | []=>true
 | f::r=>if AK m f=true then KV m r else false
def LK:List VI->Bool
 | []=>false
 | f::_=>decide (f.pms.length=0)&&decide (f.res=0)
def Qg (ds:List Zc) (fs:List VI):Bool:=WQ ds&&(decide (1<=fs.length/\fs.length<=4)&&(LK fs&&KV ds.length fs))
theorem P9 {fs:List VI} {x:VI} (h:fs[0]? = some x):LK fs=(decide (x.pms.length=0)&&decide (x.res=0)):=by
 cases fs with
 | nil=>simp at h
 | cons f r=>simp at h;subst h;rfl
theorem RM {ps ls:LI} {j:Nat} {v:Int} {r:Bool} (h:ls[j]? = some v) (hg:(0<=v/\v<=(ps.length:Int)-1)/\ps[v.toNat]?≠some 0/\(∀p,(if j=0 then none else ls[j-1]?)=some p->p<v))
  (hr:QN ps (ls.drop j) (if j=0 then none else ls[j-1]?)=r):QN ps (ls.drop (j+1)) (if j+1=0 then none else ls[j+1-1]?)=r:=by
 rw [Yi h,Mo hg] at hr
 rw [Zb om,show j+1-1=j from rfl,h];exact hr
theorem Mq {ps ls:LI} {j:Nat} {v:Int} {r:Bool} (h:ls[j]? = some v) (hg:¬((0<=v/\v<=(ps.length:Int)-1)/\ps[v.toNat]?≠some 0/\(∀p,(if j=0 then none else ls[j-1]?)=some p->p<v)))
  (hr:QN ps (ls.drop j) (if j=0 then none else ls[j-1]?)=r):r=false:=by
 rw [Yi h,Hz hg] at hr;exact hr.symm
theorem I5 {m:Nat} {fs:List VI} {k:Nat} {f:VI} {r:Bool} (h:fs[k]? = some f) (hb:AK m f=false) (hr:KV m (fs.drop k)=r):r=false:=by
 rw [Yi h,KV,hb,Zb (by simp)] at hr;exact hr.symm
theorem Zfw {m:Nat} {fs:List VI} {k:Nat} {f:VI} {r:Bool} (h:fs[k]? = some f) (hb:AK m f=true) (hr:KV m (fs.drop k)=r):KV m (fs.drop (k+1))=r:=by
 rw [Yi h,KV,Zh hb] at hr;exact hr
end Go.Abs
namespace Go.Abs
section
variable {ds:List Zc} {fs:List VI} {x:VI}
theorem Ziz (h:((¬(WQ ds=true))∨((fs.length:Int)<1))∨((fs.length:Int)>4)):false=Qg ds fs:=by
 rw [Qg]
 rcases h with (h|h)|h
 ·rw [QA.2 h];rfl
 ·rw [decide_eq_false (p:=1<=fs.length/\fs.length<=4) om];simp
 ·rw [decide_eq_false (p:=1<=fs.length/\fs.length<=4) om];simp
theorem Z2r (hx:fs[0]? = some x) (h:((x.pms.length:Int)>0)∨x.res≠0):false=Qg ds fs:=by
 rw [Qg,P9 hx]
 rcases h with h|h
 ·rw [decide_eq_false (p:=x.pms.length=0) om];simp
 ·rw [decide_eq_false (p:=x.res=0) h];simp
theorem Ir (h:KV ds.length fs=false):false=Qg ds fs:=by rw [Qg,h];simp
theorem Zj0 (h:¬(((¬(WQ ds=true))∨((fs.length:Int)<1))∨((fs.length:Int)>4))) (hx:fs[0]? = some x) (h1:¬((x.pms.length:Int)>0)) (h2:¬x.res≠0) (h3:KV ds.length fs=true) :
  true=Qg ds fs:=by
 have hv:WQ ds=true:=Uz.1 fun q=>h (.inl (.inl q))
 have ha:¬(fs.length:Int)<1:=fun q=>h (.inl (.inr q))
 have hb:¬(fs.length:Int)>4:=fun q=>h (.inr q)
 rw [Qg,P9 hx,hv,h3,decide_eq_true (p:=1<=fs.length/\fs.length<=4) om,decide_eq_true (p:=x.pms.length=0) om,decide_eq_true (p:=x.res=0) (Uz.1 h2)];rfl
abbrev Z10 (m:Nat) (x:VI):Prop:=(((x.pms.length:Int)>3)∨(¬(Wm m x.pms=true)))∨(¬(0<=x.res/\x.res<=m))
theorem Zfi {m:Nat} (h:Z10 m x):AK m x=false:=by
 rw [AK,KU]
 rcases h with (h|h)|h
 ·rw [decide_eq_false (p:=x.pms.length<=3) om];simp
 ·rw [QA.2 h];simp
 ·rw [decide_eq_false h];simp
theorem MV {m:Nat} (h:Uy x.pms x.lnt=false):AK m x=false:=by rw [AK,h,Bool.and_false]
theorem Zfj {m:Nat} (h:¬Z10 m x) (hl:Uy x.pms x.lnt=true):AK m x=true:=by
 have h1:¬(x.pms.length:Int)>3:=fun q=>h (.inl (.inl q))
 rw [AK,KU,hl,decide_eq_true (p:=x.pms.length<=3) om,Uz.1 fun q=>h (.inl (.inr q)),decide_eq_true (Uz.1 fun q=>h (.inr q))];rfl
end
end Go.Abs
end
section
namespace Go.Abs
structure NTy (n:ZG):Prop where
 result:∀r∈n.routines,0<=r.result
 params:∀r∈n.routines,∀p∈r.params,0<=p
 decl:∀d∈n.decls,d.cons.length=0->0<=d.frm/\0<=d.to_
 fields:∀c,∀f∈ZO n.decls c,0<=f
end Go.Abs
namespace Go.Abs
end Go.Abs
namespace Go.Abs
end Go.Abs
namespace Go.Abs
section
variable {S:Option Int} {c:Prop} [Decidable c] {v:Int} {b:Bool}
end
section
variable {n:ZG} {op num:Int} {ts:LI}
end
end Go.Abs
end
namespace Go.Abs
mutual
def Z5.rng:Z5->Prop
 | .mk _ num _ _ kids=>(-9223372036854775808<=num/\num<=9223372036854775807)/\Am kids
def Z8.rng:Z8->Prop
 | .mk steps _=>AL steps
def AL:List Z5->Prop
 | []=>True
 | s::r=>s.rng/\AL r
def Am:List Z8->Prop
 | []=>True
 | b::r=>b.rng/\Am r
end
theorem Z5.rng_eq (s:Z5):s.rng=((-9223372036854775808<=s.num/\s.num<=9223372036854775807)/\Am s.kids):=by cases s;rw [Z5.rng];rfl
theorem Z8.rng_eq (b:Z8):b.rng=AL b.steps:=by cases b;rw [Z8.rng];rfl
section
variable {n:ZG} {us ts:LI} {s:Z5}
end
theorem Zi0 {n:ZG} {us:LI} {s:Z5} (h:0<=YZ n us s):(0<=s.op/\s.op<=11)∨(14<=s.op/\s.op<=17):=by
 rw [Na] at h
 by_cases hq:(0<=s.op/\s.op<=11)∨(14<=s.op/\s.op<=17)
 ·exact hq
 ·exfalso
  split at h
  ·omega
  rw [Zb om,Zb om,Zb om,Zb om,Zb om,Zb om,Zb om,Zb om,Zb om] at h
  omega
theorem On {n:ZG} {us:LI} {s:Z5} (h:0<=YZ n us s):Xh s.op=!YO s.op:=by
 have:=Zi0 h
 rw [Xh,YO,Yd];simp;omega

end Go.Abs
section
namespace Go.Abs
structure JB where
 mat:Int
 fst:Int
 fds:LI
 chg:Bool
def UN:LI->Int->LI
 | [],_=>[]
 | t::r,p=>if t≠0 then p::UN r (p+1) else UN r (p+1)
theorem Zah {xs:LI} {k:Nat} {t p:Int} {acc r:LI} (h:xs[k]? = some t) (ha:acc++UN (xs.drop k) (p+k)=r) :
  (if t≠0 then acc++[p+k] else acc)++UN (xs.drop (k+1)) (p+((k+1:Nat):Int))=r:=by
 rw [Yi h,UN] at ha
 rw [show p+((k+1:Nat):Int)=p+k+1 by omega]
 split
 ·rename_i q;rw [Zh q] at ha;rw [W0];exact ha
 ·rename_i q;rw [Zb q] at ha;exact ha
theorem Zag {xs:LI} {k:Nat} {p:Int} {acc r:LI} (h:xs.length<=k) (ha:acc++UN (xs.drop k) (p+k)=r):acc=r:=by
 rw [Xn h,UN,TJ] at ha;exact ha
theorem M2:∀{xs:LI} {p f:Int},f∈UN xs p->p<=f/\f<p+xs.length
 | [],_,_,h=>by simp [UN] at h
 | t::r,p,f,h=>by
  rw [UN] at h
  split at h
  ·rcases YL.1 h with rfl|h
   ·simp only [Yp];omega
   ·have:=M2 h;simp only [Yp];omega
  ·have:=M2 h;simp only [Yp];omega
theorem Hb:∀(xs:LI) (p:Int),(UN xs p).length<=xs.length
 | [],_=>by simp [UN]
 | t::r,p=>by
  have:=Hb r (p+1)
  rw [UN];split<;>simp<;>omega
def S9:List JB->Int->Option JB
 | [],_=>none
 | a::r,v=>match S9 r v with
  | some x=>some x
  | none=>if a.mat=v then some a else none
structure Zjc (ds:List Zc) (L:ZL) (as1:List JB):Prop where
 rng:∀a∈as1,0<=a.mat/\a.mat<a.fst/\a.fst+a.fds.length<=L.vars.length
 par:∀a∈as1,∀v:Int,a.fst<=v->v<a.fst+a.fds.length->gI L.par v=a.mat
 non:∀v:Int,0<=v->v<L.vars.length->0<=gI L.par v->∃a∈as1,a.fst<=v/\v<a.fst+a.fds.length
 off:∀v:Int,0<=v->v<L.vars.length->match S9 as1 v with
  | none=>gI L.con v<0
  | some a=>0<=gI L.con v/\a.fst=gI L.fst v/\a.fds=ZO ds (gI L.con v)
end Go.Abs
namespace Go.Abs
end Go.Abs
namespace Go.Abs
end Go.Abs
namespace Go.Abs
section
variable {n:ZG} {ln:LI} {L:ZL} {op v:Int} {am:List JB} {a:JB}
end
end Go.Abs
namespace Go.Abs
end Go.Abs
end
section
namespace Go.Abs
section
variable {n:ZG} {us:LI} {op num:Int}
end
end Go.Abs
namespace Go.Abs
end Go.Abs
namespace Go.Abs
end Go.Abs
end
section
namespace Go.Abs
section
variable {n:ZG} {ln:LI}
end
end Go.Abs
namespace Go.Abs
theorem RK {ps:LI}:∀{ls:LI} {prev:Option Int},QN ps ls prev=true->∀v∈ls,(0<=v/\v<=(ps.length:Int)-1)/\ps[v.toNat]?≠some 0
 | [],_,_,v,h=>by cases h
 | x::r,prev,h,v,hv=>by
  rw [QN] at h
  split at h
  ·rename_i q
   rcases YL.1 hv with rfl|hv
   ·exact ⟨q.1,q.2.1⟩
   ·exact RK h v hv
  ·cases h
end Go.Abs
namespace Go.Abs
end Go.Abs
namespace Go.Abs
section
variable {n:ZG} {ln:LI} {L:ZL} {s:Z5}
end
end Go.Abs
namespace Go.Abs
end Go.Abs
namespace Go.Abs
end Go.Abs
namespace Go.Abs
end Go.Abs
end
section
namespace Go.Abs
end Go.Abs
namespace Go.Abs
end Go.Abs
namespace Go.Abs
end Go.Abs
end
section
namespace Go.Abs
def Z4y (c:Yg):Nat:=c.fields.length
def Oe:List Yg->Nat
 | []=>0
 | c::r=>Z4y c+Oe r
def Z59 (l:List Yg):Nat:=l.length+Oe l
def Z5s (d:Zc):Nat:=Z59 d.cons
def Ol:List Zc->Nat
 | []=>0
 | d::r=>Z5s d+Ol r
def Z5x (l:List Zc):Nat:=l.length+Ol l
end Go.Abs
namespace Go.Abs
end Go.Abs
namespace Go.Abs
end Go.Abs
namespace Go.Abs
end Go.Abs
end
namespace Go.Abs
def Zv (op v:Int):Z5:=.mk op 0 0 [v] []
def WC (ds:List Zc) (num:Int) (k:Nat):LI:=((ZY ds num).map (ZO ds))[k]?.getD []
section
variable {ds:List Zc} {am:List JB} {m:Nat}
end
theorem LH {ds:List Zc} {num:Int} {k:Nat} {m:LI} (h:((ZY ds num).map (ZO ds))[k]? = some m):WC ds num k=m:=by rw [WC,h];rfl
theorem GU {ds:List Zc} (hd:Xs ds) (num:Int) (k:Nat):(WC ds num k).length<=3:=by
 rw [WC,J2]
 cases (ZY ds num)[k]? with
 | none=>simp
 | some c=>exact Vq hd c
theorem If {xs:List Z5} {k:Nat} {s:Z5} (h:xs[k]? = some s):Yu (xs.take (k+1))=Yu (xs.take k)+s.sz:=by
 induction xs generalizing k with
 | nil=>simp at h
 | cons t r ih=>
  cases k with
  | zero=>simp at h;subst h;simp [Yu]
  | succ k=>rw [AO,AO,Yu,Yu,ih (by simpa using h)];omega
theorem KZ (xs:List Z5) (k:Nat):Yu (xs.take k)<=Yu xs:=by
 induction xs generalizing k with
 | nil=>simp
 | cons t r ih=>
  cases k with
  | zero=>simp [Yu]
  | succ k=>have:=ih k;rw [AO,Yu,Yu];omega
theorem Zfu {n:ZG} {us:LI} {s:Z5} (g:0<=YZ n us s) (h:YO s.op=true):Ks n us s=us:=by rw [Ks,On g,h];rfl
theorem Zft {n:ZG} {us:LI} {s:Z5} (g:0<=YZ n us s) (h:¬YO s.op=true):(Ks n us s).length=us.length+1:=by
 rw [Ks,On g,QA.2 h];simp
theorem Zfv {n:ZG} {us:LI} {s:Z5} (g:0<=YZ n us s):(Ks n us s).length=if YO s.op=true then us.length else us.length+1:=by
 split
 ·rw [Zfu g (by assumption)]
 ·exact Zft g (by assumption)
theorem CT (ys:List Vf):(Z9 (Vi ys)).length=ys.length*3:=by rw [UL _ (Ou _)];simp
theorem Pm (ys:List Vn):(Z9 (Ul ys)).length=ys.length:=by rw [UL _ (Ot _)];simp
theorem Pl (ys:List Zc):(Z9 (Yv ys)).length=ys.length*3:=by rw [UL _ (QF _)];simp
theorem Z80 (ys:List Yg):(Z9 (Xy ys)).length=ys.length:=by rw [UL _ (CK _)];simp
theorem Z81 {ds:List Zc} {k:Nat} {d:Zc} (h:ds[k]? = some d):Z9 (Yv (ds.drop k))=KM d++Z9 (Yv (ds.drop (k+1))):=by rw [Yi h];rfl
theorem Z7z {ds:List Yg} {k:Nat} {d:Yg} (h:ds[k]? = some d):Z9 (Xy (ds.drop k))=D7 d++Z9 (Xy (ds.drop (k+1))):=by rw [Yi h];rfl
theorem Z0b {ys:List Vf} {ds:List Zc} {k:Nat} {d:Zc} (h:ds[k]? = some d):Z9 (Vi ys++Yv (ds.drop k))=Z9 (Vi ys)++(KM d++Z9 (Yv (ds.drop (k+1)))):=by
 rw [Tk,Z81 h]
theorem Zey {ys:List Vn} {ds:List Yg} {k:Nat} {d:Yg} (h:ds[k]? = some d):Z9 (Ul ys++Xy (ds.drop k))=Z9 (Ul ys)++(D7 d++Z9 (Xy (ds.drop (k+1)))):=by
 rw [Tk,Z7z h]
theorem Z0a {ys:List Vf} {ds:List Zc} {k:Nat} (h:ys.length=k) (hk:k<=ds.length):(Z9 (Vi ys++Yv (ds.drop k))).length=ds.length*3:=by
 rw [Tk,ZV,CT,Pl,Bz];omega
theorem Z09 {ys:List Vn} {ds:List Yg} {k:Nat} (h:ys.length=k) (hk:k<=ds.length):(Z9 (Ul ys++Xy (ds.drop k))).length=ds.length*1:=by
 rw [Tk,ZV,Pm,Z80,Bz];omega
theorem Zf0 {ys:List Vf} {ds:List Zc} {k:Nat} {f t:Int} {zs:List Vn} {u:Value}:Z9 (Vi ys)++([.i f,.i t,Fs zs u]++Z9 (Yv (ds.drop (k+1))))=Z9 (Vi (ys++[Vf.mk f t zs u])++Yv (ds.drop (k+1))):=by
 rw [Z6a,Tk,Tk,W0];rfl
theorem Zex {ys:List Vn} {ds:List Yg} {k:Nat} {xs:LI} {u:Value}:Z9 (Ul ys)++([ZC xs u]++Z9 (Xy (ds.drop (k+1))))=Z9 (Ul (ys++[Vn.mk xs u])++Xy (ds.drop (k+1))):=by
 rw [Z69,Tk,Tk,W0];rfl
theorem Zez {ys:List Vf} {ds:List Zc} {k:Nat} (h:ds.length<=k):Z9 (Vi ys++Yv (ds.drop k))=Z9 (Vi ys):=by rw [Xn h];simp [Yv]
theorem Zew {ys:List Vn} {ds:List Yg} {k:Nat} (h:ds.length<=k):Z9 (Ul ys++Xy (ds.drop k))=Z9 (Ul ys):=by rw [Xn h];simp [Xy]
theorem Zf1 {A B:List AV} {x y z x':AV} {o:Nat} (hA:A.length=o):(A++([x,y,z]++B)).take (o+2)++[x']++(A++([x,y,z]++B)).drop (o+2+1)=A++([x,y,x']++B):=by
 have h:=FG (A:=A++[x,y]) (xs:=[z]) (ys:=[x']) (B:=B) (o:=o+2) (by simp [hA]) rfl
 simpa using h
theorem Zf2 {A B:List AV} {x y z:AV} {o:Nat} (hA:A.length=o):((A++([x,y,z]++B)).drop (o+2)).take 1=[z]:=by
 have h:=HV (A:=A++[x,y]) (xs:=[z]) (B:=B) (o:=o+2) (by simp [hA])
 simpa using h
theorem Zf3 {A B:List AV} {x y z x':AV} {o:Nat} (hA:A.length=o):(A++([x,y,z]++B)).set (o+2) x'=A++([x,y,x']++B):=by
 subst hA
 rw [List.set_append_right _ _ om]
 simp
theorem Z30 {f t:Int} {zs:List Vn} {u:Value} {cs:List Yg} (h:zs.map Vn.er=cs):[Vf.mk f t zs u].map Vf.er=[Zc.mk f t cs]:=by
 rw [<-h];rfl
theorem Qd:∀(xs ys:List Z5),Yu (xs++ys)=Yu xs+Yu ys
 | [],ys=>by simp [Yu]
 | x::r,ys=>by rw [J1,Yu,Yu,Qd r ys];omega
theorem Gy (op v:Int):(Zv op v).sz=2:=by rw [Zv,Z5.sz];simp [YU]
theorem N7 (op:Int):∀l:LI,Yu (l.map (Zv op))=2*l.length
 | []=>by simp [Yu]
 | x::r=>by rw [T9,Yu,Gy,N7 op r,Yp];omega
section
variable {ds:List Zc} (hd:Xs ds)
include hd
end
def XH (n:Nat):LI:=(List.range n).map Int.ofNat
theorem Zd9 (n:Nat):XH (n+1)=XH n++[(n:Int)]:=by simp [XH,List.range_succ]
theorem E9 (n:Nat):(XH n).length=n:=by simp [XH]
theorem HF (n:Nat):∀f∈XH n,0<=f/\f<=n:=by
 intro f hf
 simp only [XH,Xz,List.mem_range] at hf
 obtain ⟨a,ha,rfl⟩:=hf
 show 0<=(a:Int)/\(a:Int)<=n
 omega
def CE (ds:List Zc) (num:Int) (k:Nat):Int:=gI (ZY ds num) k
section
variable {ds:List Zc} {cons first:LI}
end
def TM (first:LI):Prop:=∀f∈first,0<=f/\f<=1000000000
theorem TM.snoc {first:LI} (h:TM first):TM (first++[0]):=by
 intro f hf
 rcases Xf.1 hf with hf|hf
 ·exact h f hf
 ·rw [XE.1 hf];omega
theorem TM.x {first:LI} (h:TM first) {x m k:Nat} (hm:m<=1000000000) (hk:k<=1000000000):TM (first.set x (m:Int)++XH k):=by
 intro f hf
 rcases Xf.1 hf with hf|hf
 ·rcases JY hf with hf|rfl
  ·exact h f hf
  ·omega
 ·have:=HF k f hf;omega
section
variable {ds:List Zc} (hd:Xs ds)
include hd
end
def XM:List Z5->Nat
 | []=>0
 | s::r=>if s.op=14∨s.op=15 then XM r+1 else 0
def Wr (op:Int):List Z5->LI
 | []=>[]
 | s::r=>if s.op=op then gI s.args 0::Wr op r else Wr op r
def Uu:LI->Int->LI->LI->LI × LI
 | [],_,D,R=>(D,R)
 | f::r,q,D,R=>if f≠0/\q∈D then Uu r (q+1) (D.erase q) R else if f≠0 then Uu r (q+1) D (R++[q]) else Uu r (q+1) D R
def Jo (xs:List Z5) (x:Int) (fs:LI) (q:Int):LI × LI:=Uu fs q (Wr 14 (xs.take (XM xs))) ((Wr 15 (xs.take (XM xs))).erase x)
def K1 (xs:List Z5) (x:Int) (fs:LI) (q:Int):List Z5:=
 if x∈Wr 15 (xs.take (XM xs))/\fs.length≠0 then (Jo xs x fs q).1.map (Zv 14)++[Zv 16 x]++(Jo xs x fs q).2.map (Zv 15)++xs.drop (XM xs) else xs
def Kz (b:Z8) (x:Int) (fs:LI) (q:Int):Z8:=.mk (K1 b.steps x fs q) b.result
theorem I0:∀xs:List Z5,XM xs<=xs.length
 | []=>X5 _
 | s::r=>by have:=I0 r;rw [XM];split<;>simp<;>omega
theorem Z0n:∀{xs:List Z5} {s:Z5},s∈xs.take (XM xs)->s.op=14∨s.op=15
 | [],s,h=>by simp [XM] at h
 | t::r,s,h=>by
  rw [XM] at h
  split at h
  ·rename_i q
   rw [AO] at h
   rcases YL.1 h with rfl|h
   ·exact q
   ·exact Z0n h
  ·simp at h
theorem IQ:∀xs:List Z5,(Wr 14 xs).length+(Wr 15 xs).length<=xs.length
 | []=>by simp [Wr]
 | s::r=>by
  have:=IQ r
  rw [Wr,Wr]
  by_cases h:s.op=14
  ·rw [Zh h,Zb om];simp;omega
  ·rw [Zb h];split<;>simp<;>omega
theorem HL:∀(fs:LI) (q:Int) (D R:LI),(Uu fs q D R).1.length+(Uu fs q D R).2.length<=D.length+R.length+fs.length
 | [],q,D,R=>by simp [Uu]
 | f::r,q,D,R=>by
  rw [Uu,Yp]
  split
  ·have:=HL r (q+1) (D.erase q) R
   have h2:=List.length_erase_le (a:=q) (l:=D)
   omega
  ·split
   ·have:=HL r (q+1) D (R++[q])
    simp only [ZV,Yp,Yx] at this
    omega
   ·have:=HL r (q+1) D R
    omega
theorem Zdu {xs:List Z5} {x:Int} {fs:LI} {q:Int} (h:x∈Wr 15 (xs.take (XM xs))) (hf:fs.length<=3):(Jo xs x fs q).1.length+(Jo xs x fs q).2.length<=XM xs+2:=by
 have h1:=HL fs q (Wr 14 (xs.take (XM xs))) ((Wr 15 (xs.take (XM xs))).erase x)
 have h2:=IQ (xs.take (XM xs))
 have h3:=List.length_pos_of_mem h
 rw [List.length_erase_of_mem h] at h1
 rw [XW] at h2
 have h4:=I0 xs
 unfold Jo
 omega
theorem Zhm (xs:List Z5) (k:Nat):Yu xs=Yu (xs.take k)+Yu (xs.drop k):=by rw [<-Qd,TL]
theorem Z1x:∀xs:List Z5,(∀s∈xs,2<=s.sz)->2*xs.length<=Yu xs
 | [],_=>by simp
 | s::r,h=>by
  have h1:=Z1x r fun t ht=>h t (Xt _ ht)
  have h2:=h s (Xm ..)
  rw [Yu,Yp];omega
theorem Z3r {xs:List Z5} {x:Int} {fs:LI} {q:Int} (hf:fs.length<=3) (h:∀s∈xs,s.op=14∨s.op=15->2<=s.sz):Yu (K1 xs x fs q)<=Yu xs+6:=by
 rw [K1]
 split
 ·rename_i hc
  have h1:=Zdu (q:=q) hc.1 hf
  have h2:=Z1x (xs.take (XM xs)) fun s hs=>h s (QX hs) (Z0n hs)
  have h3:=Zhm xs (XM xs)
  have h4:=I0 xs
  rw [XW] at h2
  rw [Qd,Qd,Qd,N7,N7,Yu,Yu,Gy]
  omega
 ·omega
def Cn (s:Z5):Prop:=s=Zv s.op (gI s.args 0)
theorem Z3q {xs:List Z5} {m:Int} {fs:LI} {q:Int} (h:¬(m∈Wr 15 (xs.take (XM xs))/\fs.length≠0)):K1 xs m fs q=xs:=Zb h
end Go.Abs
section
namespace Go.Abs
mutual
def KW (ds:List Zc) (m:Nat):Z5->Z5
 | .mk op num into args kids=>.mk op num into args (US ds m op num args kids 0)
def US (ds:List Zc) (m:Nat) (op num:Int) (args:LI):List Z8->Nat->List Z8
 | [],_=>[]
 | b::r,k=>(if op=8 then Kz (WW ds (m+(WC ds num k).length) b) (gI args 0) (WC ds num k) m else WW ds m b)::US ds m op num args r (k+1)
def U2 (ds:List Zc) (m:Nat):List Z5->List Z5
 | []=>[]
 | s::r=>KW ds m s::U2 ds (if YO s.op=true then m else m+1) r
def WW (ds:List Zc) (m:Nat):Z8->Z8
 | .mk steps result=>.mk (U2 ds m steps) result
end
def I9 (ds:List Zc) (m:Nat) (op num:Int) (args:LI) (k:Nat) (b:Z8):Z8:=if op=8 then Kz (WW ds (m+(WC ds num k).length) b) (gI args 0) (WC ds num k) m else WW ds m b
theorem FP (ds:List Zc) (m:Nat) (s:Z5):KW ds m s=.mk s.op s.num s.into s.args (US ds m s.op s.num s.args s.kids 0):=by cases s;rw [KW];rfl
theorem I7 (ds:List Zc) (m:Nat) (b:Z8):WW ds m b=.mk (U2 ds m b.steps) b.result:=by cases b;rw [WW];rfl
section
variable {ds:List Zc} {m:Nat}
theorem Zg2 {xs acc r:List Z5} {k:Nat} {s:Z5} (h:xs[k]? = some s) (ha:acc++U2 ds m (xs.drop k)=r) :
  (acc++[.mk s.op s.num s.into s.args (US ds m s.op s.num s.args s.kids 0)])++U2 ds (if YO s.op=true then m else m+1) (xs.drop (k+1))=r:=by
 rw [Yi h,U2,FP] at ha
 rw [<-ha];simp
theorem Zg1 {xs acc r:List Z5} {k:Nat} (h:xs.length<=k) (ha:acc++U2 ds m (xs.drop k)=r):acc=r:=by
 rw [Xn h,U2,TJ] at ha;exact ha
theorem Z16 {op num:Int} {args:LI} {bs acc r:List Z8} {k:Nat} {b:Z8} (h:bs[k]? = some b) (ha:acc++US ds m op num args (bs.drop k) k=r) :
  (acc++[I9 ds m op num args k b])++US ds m op num args (bs.drop (k+1)) (k+1)=r:=by
 rw [Yi h,US] at ha
 rw [<-ha,I9];simp
theorem Zfx {op num:Int} {args:LI} {bs acc r:List Z8} {k j:Nat} (h:bs.length<=k) (ha:acc++US ds m op num args (bs.drop k) j=r):acc=r:=by
 rw [Xn h,US,TJ] at ha;exact ha
end
mutual
def wS (ds:List Zc):Z5->Prop
 | .mk op num into args kids=>(Xh op=!YO op)/\(YO op=true->num=0/\into=0/\kids=[]/\∃a,args=[a])/\(op=8->(∃a,args=[a]/\0<=a/\a<=900000000)/\kids.length=(ZY ds num).length)/\Jx ds kids
def Jx (ds:List Zc):List Z8->Prop
 | []=>True
 | b::r=>wB ds b/\Jx ds r
def QW (ds:List Zc):List Z5->Prop
 | []=>True
 | s::r=>wS ds s/\QW ds r
def wB (ds:List Zc):Z8->Prop
 | .mk steps _=>QW ds steps
end
section
variable {ds:List Zc}
theorem A6 (s:Z5):wS ds s↔(Xh s.op=!YO s.op)/\(YO s.op=true->s.num=0/\s.into=0/\s.kids=[]/\∃a,s.args=[a])/\(s.op=8->(∃a,s.args=[a]/\0<=a/\a<=900000000)/\s.kids.length=(ZY ds s.num).length)/\Jx ds s.kids:=by cases s;rw [wS];rfl
theorem Jw (b:Z8):wB ds b↔QW ds b.steps:=by cases b;rw [wB];rfl
theorem Bx:∀{xs:List Z5},QW ds xs↔∀s∈xs,wS ds s
 | []=>by simp [QW]
 | s::r=>by rw [QW,Bx];simp
theorem Is:∀{xs:List Z8},Jx ds xs↔∀s∈xs,wB ds s
 | []=>by simp [Jx]
 | s::r=>by rw [Jx,Is];simp
theorem Z2s {b:Z8} {k:Nat} {s:Z5} (h:wB ds b) (hs:b.steps[k]? = some s):wS ds s:=Bx.1 ((Jw b).1 h) s (Y4 hs)
theorem Nq {s:Z5} {k:Nat} {b:Z8} (h:wS ds s) (hb:s.kids[k]? = some b):wB ds b:=Is.1 ((A6 s).1 h).2.2.2 b (Y4 hb)
theorem It {s:Z5} (h:wS ds s) (hc:YO s.op=true):Cn s/\s.kids=[]/\∃a,s.args=[a]:=by
 obtain ⟨h1,h2,h3,a,h4⟩:=((A6 s).1 h).2.1 hc
 refine ⟨?_,h3,a,h4⟩
 cases s with
 | mk op num into args kids=>
  simp only [Z5.num,Z5.into,Z5.kids,Z5.args] at h1 h2 h3 h4
  subst h1 h2 h3 h4
  rfl
theorem Zj4 {op v:Int} (h:op=14∨op=15∨op=16):wS ds (Zv op v):=(A6 _).2 ⟨by show Xh op=!YO op;rcases h with rfl|rfl|rfl<;>rfl,fun _=>⟨rfl,rfl,rfl,v,rfl⟩,fun e=>absurd e (show op≠8 by omega),True.intro⟩
theorem Zj5 {s:Z5} (h:wS ds s):Xh s.op=!YO s.op:=((A6 s).1 h).1
theorem G6 {s:Z5} (h:wS ds s) (h8:s.op=8):(∃a,s.args=[a]/\0<=a/\a<=900000000)/\s.kids.length=(ZY ds s.num).length:=((A6 s).1 h).2.2.1 h8
theorem Iz {xs:List Z5} (h:QW ds xs):∀s∈xs,YO s.op=true->Cn s:=fun s hs hc=>(It (Bx.1 h s hs) hc).1
end
section
variable {n:ZG}
end
mutual
def Z5.pz:Z5->Nat
 | .mk _ _ _ args kids=>1+args.length+Ee kids
def Z8.pz:Z8->Nat
 | .mk steps _=>1+Ef steps
def Ef:List Z5->Nat
 | []=>0
 | s::r=>s.pz+Ef r
def Ee:List Z8->Nat
 | []=>0
 | b::r=>b.pz+8+Ee r
end
mutual
theorem Z5.pz_le:∀s:Z5,s.pz<=9*s.sz
 | .mk _ _ _ args kids=>by have:=Sz kids;rw [Z5.pz,Z5.sz];omega
theorem Z8.pz_le:∀b:Z8,b.pz+8<=9*b.sz
 | .mk steps _=>by have:=SA steps;rw [Z8.pz,Z8.sz];omega
theorem SA:∀xs:List Z5,Ef xs<=9*Yu xs
 | []=>QB _
 | s::r=>by have:=s.pz_le;have:=SA r;rw [Ef,Yu];omega
theorem Sz:∀xs:List Z8,Ee xs<=9*YU xs
 | []=>QB _
 | s::r=>by have:=s.pz_le;have:=Sz r;rw [Ee,YU];omega
end
section
variable {ds:List Zc}
theorem Z4u {op:Int} (h:op=14∨op=15):YO op=true:=by rw [YO];simp;omega
theorem Zg3 {xs:List Z5}:∀{m:Nat},QW ds xs->∀s∈U2 ds m xs,s.op=14∨s.op=15->2<=s.sz:=by
 induction xs with
 | nil=>intro m _ s hs;simp [U2] at hs
 | cons t r ih=>
  intro m h s hs ho
  rw [U2] at hs
  rcases YL.1 hs with rfl|hs
  ·rw [FP] at ho ⊢
   obtain ⟨_,_,a,ha⟩:=It h.1 (Z4u ho)
   rw [Z5.sz,ha];simp
  ·exact ih h.2 s hs ho
variable (hd:Xs ds)
include hd
mutual
theorem Zfz:∀(s:Z5) {m:Nat},wS ds s->(KW ds m s).sz<=s.pz
 | .mk op num into args kids,m,h=>by
  have:=Z17 kids (m:=m) (op:=op) (num:=num) (args:=args) (k:=0) h.2.2.2
  rw [KW,Z5.sz,Z5.pz];omega
theorem Z17:∀(bs:List Z8) {m:Nat} {op num:Int} {args:LI} {k:Nat},Jx ds bs->YU (US ds m op num args bs k)<=Ee bs
 | [],_,_,_,_,_,_=>X5 _
 | b::r,m,op,num,args,k,h=>by
  have h2:=Z17 r (m:=m) (op:=op) (num:=num) (args:=args) (k:=k+1) h.2
  rw [US,YU,Ee]
  split
  ·have h1:=I8 b (m:=m+(WC ds num k).length) h.1
   have h3:=Z3r (xs:=(WW ds (m+(WC ds num k).length) b).steps) (x:=gI args 0) (q:=(m:Int)) (GU hd num k) (by rw [I7];exact Zg3 ((Jw b).1 h.1))
   rw [Kz,Z8.sz]
   rw [Z8.sz_eq] at h1
   omega
  ·have h1:=I8 b (m:=m) h.1
   omega
theorem Z19:∀(xs:List Z5) {m:Nat},QW ds xs->Yu (U2 ds m xs)<=Ef xs
 | [],_,_=>X5 _
 | s::r,m,h=>by
  have h1:=Zfz s (m:=m) h.1
  have h2:=Z19 r (m:=if YO s.op=true then m else m+1) h.2
  rw [U2,Yu,Ef];omega
theorem I8:∀(b:Z8) {m:Nat},wB ds b->(WW ds m b).sz<=b.pz
 | .mk steps result,m,h=>by
  have:=Z19 steps (m:=m) h
  rw [WW,Z8.sz,Z8.pz];omega
end
end
section
variable {ds:List Zc} {m:Nat}
end
def Ce (ds:List Zc) (r:YE):YE:=⟨r.params,r.lent,r.result,WW ds r.params.length r.body⟩
def Di (n:ZG):ZG:=⟨n.decls,n.routines.map (Ce n.decls)⟩
end Go.Abs
namespace Go.Abs
theorem Zfe {xs:List Z5} {k:Nat} {s:Z5} {r:Nat} (h:xs[k]? = some s) (hs:s.op=14∨s.op=15) (ha:k+XM (xs.drop k)=r):k+1+XM (xs.drop (k+1))=r:=by
 rw [Yi h,XM,Zh hs] at ha;omega
theorem Zff {xs:List Z5} {k:Nat} {s:Z5} {r:Nat} (h:xs[k]? = some s) (hs:¬(s.op=14∨s.op=15)) (ha:k+XM (xs.drop k)=r):k=r:=by
 rw [Yi h,XM,Zb hs] at ha;omega
theorem Zfd {xs:List Z5} {k:Nat} {r:Nat} (h:xs.length<=k) (ha:k+XM (xs.drop k)=r):k=r:=by
 rw [Xn h,XM] at ha;omega
theorem Z41 {op:Int} {xs:List Z5} {acc r:LI} {k:Nat} {s:Z5} (h:xs[k]? = some s) (hs:s.op=op) (ha:acc++Wr op (xs.drop k)=r):(acc++[gI s.args 0])++Wr op (xs.drop (k+1))=r:=by
 rw [Yi h,Wr,Zh hs] at ha;rw [<-ha];simp
theorem Z40 {op:Int} {xs:List Z5} {acc r:LI} {k:Nat} {s:Z5} (h:xs[k]? = some s) (hs:¬s.op=op) (ha:acc++Wr op (xs.drop k)=r):acc++Wr op (xs.drop (k+1))=r:=by
 rw [Yi h,Wr,Zb hs] at ha;exact ha
theorem Z3z {op:Int} {xs:List Z5} {acc r:LI} {k:Nat} (h:xs.length<=k) (ha:acc++Wr op (xs.drop k)=r):acc=r:=by
 rw [Xn h,Wr,TJ] at ha;exact ha
theorem Z6r {xs acc r:LI} {y:Int} {k:Nat} {x:Int} {d:Bool} (h:xs[k]? = some x) (ha:acc++(if d=true then xs.drop k else (xs.drop k).erase y)=r) :
  (if x=y/\¬d=true then acc else acc++[x])++(if ((x==y&&!d)||d)=true then xs.drop (k+1) else (xs.drop (k+1)).erase y)=r:=by
 rw [Yi h] at ha
 rw [<-ha]
 by_cases hd:d=true
 ·simp [hd]
 ·by_cases hx:x=y
  ·simp [hd,hx]
  ·rw [Zb (fun z=>hx z.1),Zb hd,List.erase_cons_tail (by simpa using hx)]
   simp [hd,hx]
theorem Z6q {xs acc r:LI} {y:Int} {k:Nat} {d:Bool} (h:xs.length<=k) (ha:acc++(if d=true then xs.drop k else (xs.drop k).erase y)=r):acc=r:=by
 rw [Xn h] at ha;simpa using ha
section
variable {fs D R:LI} {q k:Nat} {f:Int} {r:LI × LI}
theorem Zdw (h:fs[k]? = some f) (h0:f≠0) (hm:((q+k:Nat):Int)∈D) (ha:Uu (fs.drop k) (q+k) D R=r):Uu (fs.drop (k+1)) (q+((k+1:Nat):Int)) (D.erase ((q+k:Nat):Int)) R=r:=by
 rw [Yi h,Uu,Zh ⟨h0,by rw [<-Int.natCast_add];exact hm⟩,<-Int.natCast_add] at ha
 rw [<-ha];congr 1
theorem Zdx (h:fs[k]? = some f) (h0:f≠0) (hm:¬((q+k:Nat):Int)∈D) (ha:Uu (fs.drop k) (q+k) D R=r):Uu (fs.drop (k+1)) (q+((k+1:Nat):Int)) D (R++[((q+k:Nat):Int)])=r:=by
 rw [Yi h,Uu,Zb (fun z=>hm (by rw [Int.natCast_add];exact z.2)),Zh h0,<-Int.natCast_add] at ha
 rw [<-ha];congr 1
theorem Zdy (h:fs[k]? = some f) (h0:¬f≠0) (ha:Uu (fs.drop k) (q+k) D R=r):Uu (fs.drop (k+1)) (q+((k+1:Nat):Int)) D R=r:=by
 rw [Yi h,Uu,Zb (fun z=>h0 z.1),Zb h0] at ha
 rw [<-ha];congr 1
theorem Zdv (h:fs.length<=k) (ha:Uu (fs.drop k) (q+k) D R=r):r=(D,R):=by
 rw [Xn h,Uu] at ha;exact ha.symm
end
theorem Z3s {xs:List Z5} {x:Int} {fs:LI} {q:Int} {D R:LI} (h1:x∈Wr 15 (xs.take (XM xs))) (h2:fs.length≠0) (hr:Jo xs x fs q=(D,R)):D.map (Zv 14)++[Zv 16 x]++R.map (Zv 15)++xs.drop (XM xs)=K1 xs x fs q:=by
 rw [K1,Zh ⟨h1,h2⟩,hr]
theorem Zg0 {ds:List Zc} {xs:List Z5}:∀{m:Nat},QW ds xs->∀s∈U2 ds m xs,YO s.op=true->∃a,s.args=[a]:=by
 induction xs with
 | nil=>intro m _ s hs;simp [U2] at hs
 | cons t r ih=>
  intro m h s hs ho
  rw [U2] at hs
  rcases YL.1 hs with rfl|hs
  ·rw [FP] at ho ⊢
   exact (It h.1 ho).2.2
  ·exact ih h.2 s hs ho
end Go.Abs
end
namespace Go.Abs
mutual
def Z2.sz:Z2->Nat
 | .mk _ _ kids=>1+XC kids
def XC:List Z2->Nat
 | []=>0
 | e::r=>e.sz+XC r
end
theorem Z2.sz_eq (e:Z2):e.sz=1+XC e.kids:=by cases e;rw [Z2.sz];rfl
theorem ER:∀xs ys:List Z2,XC (xs++ys)=XC xs+XC ys
 | [],ys=>by simp [XC]
 | x::r,ys=>by rw [J1,XC,XC,ER r];omega
theorem CP:∀{xs:List Z2} {k:Nat} {e:Z2},xs[k]? = some e->e.sz<=XC xs
 | [],k,e,h=>by simp at h
 | x::r,0,e,h=>by simp at h;subst h;rw [XC];omega
 | x::r,k+1,e,h=>by have:=CP (xs:=r) (k:=k) (by simpa using h);rw [XC];omega
theorem OW:∀{xs:List Z2},xs.length<=XC xs
 | []=>QB _
 | x::r=>by have:=OW (xs:=r);have:=x.sz_eq;rw [XC,Yp];omega
def B3:Zc:=⟨0,0,[⟨[]⟩,⟨[0,1]⟩]⟩
def B4:Zc:=⟨0,0,[⟨[]⟩,⟨[3,0,3]⟩]⟩
def Oi:List Zc:=[⟨0,0,[⟨[1,3]⟩]⟩,⟨1,0,[]⟩,⟨0,0,[⟨[1,1,0]⟩,⟨[0]⟩,⟨[3]⟩]⟩,⟨0,1,[]⟩]
def Bg:List (List Zc):=[[B3,⟨0,0,[]⟩,B4],[B3,⟨0,0,[]⟩,B4,⟨0,0,[⟨[1,3]⟩]⟩],[B3,⟨0,0,[]⟩,B4,⟨1,0,[]⟩],[B3,⟨0,0,[]⟩,B4,⟨0,0,[⟨[1,1,0]⟩,⟨[0]⟩,⟨[3]⟩]⟩],[B3,⟨0,0,[]⟩,B4,⟨0,1,[]⟩]]
def GD (ds:List Zc):Prop:=ds∈Bg
theorem GD.ok {ds:List Zc} (h:GD ds):Xs ds:=by
 have k:=(by decide:∀ds∈Bg,ds.length<=4/\(∀d∈ds,d.cons.length<=3)/\∀d∈ds,∀c∈d.cons,c.fields.length<=3) ds h
 exact ⟨k.1,k.2.1,k.2.2⟩
theorem GD.len {ds:List Zc} (h:GD ds):3<=ds.length/\ds.length<=4:=by
 exact (by decide:∀ds∈Bg,3<=ds.length/\ds.length<=4) ds h
def Jn (t:Int):Prop:=t=0∨t=1∨t=3
instance (t:Int):Decidable (Jn t):=inferInstanceAs (Decidable (_∨_∨_))
theorem GD.low {ds:List Zc} (h:GD ds):ZY ds 0=[]/\ZY ds 1=[0,1]/\ZY ds 2=[]/\ZY ds 3=[2,3]/\ZO ds 0=[]/\ZO ds 1=[0,1]/\ZO ds 2=[]/\ZO ds 3=[3,0,3]:=
 (by decide:∀ds∈Bg,ZY ds 0=[]/\ZY ds 1=[0,1]/\ZY ds 2=[]/\ZY ds 3=[2,3]/\ZO ds 0=[]/\ZO ds 1=[0,1]/\ZO ds 2=[]/\ZO ds 3=[3,0,3]) ds h
theorem GD.fields {ds:List Zc} (h:GD ds):∀c∈ZY ds 1++(ZY ds 3++ZY ds 4),∀t∈ZO ds c,Jn t:=
 (by decide:∀ds∈Bg,∀c∈ZY ds 1++(ZY ds 3++ZY ds 4),∀t∈ZO ds c,Jn t) ds h
theorem GD.cons_cases {ds:List Zc} (h:GD ds) {t:Int} {c:Int} (hc:c∈ZY ds t):(0<=c/\c<=9)/\(t=1∨t=3∨t=4)/\(ZO ds c).length<=3/\∀u∈ZO ds c,Jn u:=by
 have ht:1<=t/\t<=ds.length:=by
  by_cases q:1<=t/\t<=ds.length
  ·exact q
  ·rw [ZY,Zb q] at hc;cases hc
 have hl:=h.len
 have hlow:=h.low
 have key:∀c∈ZY ds 1++(ZY ds 3++ZY ds 4),0<=c/\c<=9:=
  (by decide:∀ds∈Bg,∀c∈ZY ds 1++(ZY ds 3++ZY ds 4),0<=c/\c<=9) ds h
 have h4:t=1∨t=2∨t=3∨t=4:=by omega
 have hf:=h.fields
 have hd:=Vq h.ok c
 rcases h4 with rfl|rfl|rfl|rfl
 ·exact ⟨key c (Xf.2 (.inl hc)),.inl rfl,hd,hf c (Xf.2 (.inl hc))⟩
 ·rw [hlow.2.2.1] at hc;cases hc
 ·exact ⟨key c (Xf.2 (.inr (Xf.2 (.inl hc)))),.inr (.inl rfl),hd,hf c (Xf.2 (.inr (Xf.2 (.inl hc))))⟩
 ·exact ⟨key c (Xf.2 (.inr (Xf.2 (.inr hc)))),.inr (.inr rfl),hd,hf c (Xf.2 (.inr (Xf.2 (.inr hc))))⟩
def Ag:List (LI × Int):=[([],0),([1],0),([1,1],1),([1],1),([1,0],1),([2,1],1),([1,1],0),([3],0),([0],1),([0,1],1),([3,0],3),([3],1),([1,3,0],0),([0],0),([0,0],0),([1,0],0)]
def Tw (f:Func):Prop:=(f.params,f.result)∈Ag
theorem Tw.bd {f:Func} (h:Tw f):f.params.length<=3/\(∀t∈f.params,0<=t/\t<=3)/\Jn f.result:=by
 have key:∀q∈Ag,q.1.length<=3/\(∀t∈q.1,0<=t/\t<=3)/\Jn q.2:=by decide
 exact key _ h
theorem Tw.clo {ds:List Zc} {f:Func} (hd:GD ds) (h:Tw f) (hp:0<Ai ds (gI f.params ((f.params.length:Int)-1)) f.result):∀t∈f.params.dropLast,Jn t:=by
 have key:∀q∈Ag,0<Ai ds (gI q.1 ((q.1.length:Int)-1)) q.2->∀t∈q.1.dropLast,Jn t:=
  (by decide +kernel:∀ds∈Bg,∀q∈Ag,0<Ai ds (gI q.1 ((q.1.length:Int)-1)) q.2->∀t∈q.1.dropLast,Jn t) ds hd
 exact key _ h hp
structure GP (p:Wa):Prop where
 decls:GD p.decls
 len:1<=p.funcs.length/\p.funcs.length<=4
 sigs:∀f∈p.funcs,Tw f
def Qb (ds:List Zc) (op num:Int) (m:Nat) (k:Nat):Nat:=
 if op=13 then m+k else if op=8 then (if k=0 then m else m+(ZO ds (gI (ZY ds num) ((k:Int)-1))).length) else m
mutual
def eW (ds:List Zc) (nf:Nat):Nat->Z2->Prop
 | m,.mk op num kids=>(0<=op/\op<=13)/\(op=12->kids=[]/\0<=num/\num<m)/\(op=13->kids.length=2)/\(op=7->kids.length=3)/\(op=8->kids.length=1+(ZY ds num).length)/\(op=9->0<=num/\num<nf)/\(-2000<=num/\num<=2000)/\kids.length<=4 /\
  K8 ds nf (Qb ds op num m) 0 kids
def K8 (ds:List Zc) (nf:Nat) (sc:Nat->Nat):Nat->List Z2->Prop
 | _,[]=>True
 | k,e::r=>eW ds nf (sc k) e/\K8 ds nf sc (k+1) r
end
theorem Z6i {ds:List Zc} {nf m:Nat} (e:Z2):eW ds nf m e↔(0<=e.op/\e.op<=13)/\(e.op=12->e.kids=[]/\0<=e.num/\e.num<m)/\(e.op=13->e.kids.length=2)/\(e.op=7->e.kids.length=3)/\(e.op=8->e.kids.length=1+(ZY ds e.num).length)/\(e.op=9->0<=e.num/\e.num<nf)/\(-2000<=e.num/\e.num<=2000)/\e.kids.length<=4 /\
  K8 ds nf (Qb ds e.op e.num m) 0 e.kids:=by cases e;rw [eW];rfl
theorem DK {ds:List Zc} {nf:Nat} {sc:Nat->Nat}:∀{xs:List Z2} {j k:Nat} {e:Z2},K8 ds nf sc j xs->xs[k]? = some e->eW ds nf (sc (j+k)) e
 | [],j,k,e,_,h=>by simp at h
 | x::r,j,0,e,hw,h=>by simp at h;subst h;exact hw.1
 | x::r,j,k+1,e,hw,h=>by
  have:=DK (xs:=r) (j:=j+1) (k:=k) hw.2 (by simpa using h)
  rw [show j+(k+1)=j+1+k by omega];exact this
theorem OB {ds:List Zc} {nf:Nat} {sc:Nat->Nat}:∀{xs ys:List Z2} {j:Nat},K8 ds nf sc j (xs++ys)↔K8 ds nf sc j xs/\K8 ds nf sc (j+xs.length) ys
 | [],ys,j=>by simp [K8]
 | x::r,ys,j=>by
  rw [J1,K8,K8,OB (xs:=r),and_assoc,Yp,show j+1+r.length=j+(r.length+1) by omega]
theorem Lv {ds:List Zc} {nf m:Nat} {sc:Nat->Nat} (hs:∀k,sc k=m):∀{xs:List Z2} {j:Nat},(∀e∈xs,eW ds nf m e)->K8 ds nf sc j xs
 | [],_,_=>True.intro
 | x::r,j,h=>⟨by rw [hs];exact h x (Xm ..),Lv hs fun e he=>h e (Xt _ he)⟩
theorem CO {ds:List Zc} {nf m:Nat} {op num:Int} {kids:List Z2} (ho:0<=op/\op<=11/\op≠7/\op≠8) (hc:op=9->0<=num/\num<nf) (hn:-2000<=num/\num<=2000) (hl:kids.length<=4) (hk:∀e∈kids,eW ds nf m e):eW ds nf m (.mk op num kids):=by
 rw [eW]
 refine ⟨by omega,fun h=>by omega,fun h=>by omega,fun h=>by omega,fun h=>by omega,hc,hn,hl,Lv (m:=m) (fun k=>?_) hk⟩
 rw [Qb,Zb om,Zb om]
theorem Z6j {ds:List Zc} {nf m:Nat} {z:Int} (hz:-2000<=z/\z<=2000):eW ds nf m (.mk 0 z []):=CO om (fun h=>by omega) hz (by simp) (fun e he=>by cases he)
theorem Z6k {ds:List Zc} {nf m:Nat} {z:Int} (hz:0<=z/\z<m) (hm:m<=2000):eW ds nf m (.mk 12 z []):=by
 rw [eW]
 exact ⟨by omega,fun _=>⟨rfl,hz⟩,fun h=>by omega,fun h=>by omega,fun h=>by omega,fun h=>by omega,by omega,by simp,True.intro⟩
theorem Oz {ds:List Zc} {nf m:Nat} {num:Int} {kids:List Z2} (hn:-2000<=num/\num<=2000) (hl:kids.length=3) (hk:∀e∈kids,eW ds nf m e):eW ds nf m (.mk 7 num kids):=by
 rw [eW]
 refine ⟨by omega,fun h=>by omega,fun h=>by omega,fun _=>hl,fun h=>by omega,fun h=>by omega,hn,by omega,Lv (m:=m) (fun k=>?_) hk⟩
 rw [Qb,Zb om,Zb om]
theorem OA {ds:List Zc} {nf m:Nat} {num:Int} {a b:Z2} (hn:-2000<=num/\num<=2000) (ha:eW ds nf m a) (hb:eW ds nf (m+1) b):eW ds nf m (.mk 13 num [a,b]):=by
 rw [eW]
 exact ⟨by omega,fun h=>by omega,fun _=>rfl,fun h=>by omega,fun h=>by omega,fun h=>by omega,hn,by simp,ha,hb,True.intro⟩
theorem Lu {ds:List Zc} {nf m:Nat} {num:Int} {a:Z2} {arms:List Z2} (hn:-2000<=num/\num<=2000) (h3:arms.length<=3) (hl:arms.length=(ZY ds num).length) (ha:eW ds nf m a) (hk:K8 ds nf (Qb ds 8 num m) 1 arms):eW ds nf m (.mk 8 num (a::arms)):=by
 rw [eW]
 refine ⟨by omega,fun h=>by omega,fun h=>by omega,fun h=>by omega,fun _=>by rw [Yp];omega,fun h=>by omega,hn,by rw [Yp];omega,?_,hk⟩
 rw [Qb,Zb om,Zh rfl,Zh rfl]
 exact ha
def bS (b:Nat):Nat:=max 4 (10*b-10)
def bC (b:Nat):Nat:=max 40 (100*b-100)
def Yr:List Z5->Nat
 | []=>0
 | s::r=>(if YO s.op=true then 0 else 1)+Yr r
theorem Td:∀xs ys:List Z5,Yr (xs++ys)=Yr xs+Yr ys
 | [],ys=>by simp [Yr]
 | x::r,ys=>by rw [J1,Yr,Yr,Td r];omega
theorem B5:∀xs:List Z5,Yr xs<=xs.length
 | []=>X5 _
 | x::r=>by have:=B5 r;rw [Yr,Yp];split<;>omega
def V3 (ds:List Zc) (op num:Int) (m:Nat) (k:Nat):Nat:=if op=8 then m+(ZO ds (gI (ZY ds num) k)).length else m
mutual
def fS (ds:List Zc) (nf:Nat):Nat->Z5->Prop
 | m,.mk op num into args kids=>((0<=op/\op<=11)∨(14<=op/\op<=17))/\(∀a∈args,0<=a/\a<m)/\(14<=op->num=0/\into=0/\kids=[]/\∃a,args=[a])/\(op=7->kids.length=2)/\(op=8->kids.length=(ZY ds num).length)/\(op=7∨op=8->∃a,args=[a]) /\
  (op=9->0<=num/\num<nf)/\(-2000<=num/\num<=2000)/\(0<=into/\into<=m)/\args.length<=4/\(op≠7/\op≠8->kids=[])/\Uc ds nf (V3 ds op num m) 0 kids
def Uc (ds:List Zc) (nf:Nat) (sc:Nat->Nat):Nat->List Z8->Prop
 | _,[]=>True
 | k,b::r=>fB ds nf (sc k) b/\Uc ds nf sc (k+1) r
def Wc (ds:List Zc) (nf:Nat):Nat->List Z5->Prop
 | _,[]=>True
 | m,s::r=>fS ds nf m s/\Wc ds nf (if YO s.op=true then m else m+1) r
def fB (ds:List Zc) (nf:Nat):Nat->Z8->Prop
 | m,.mk steps result=>Wc ds nf m steps/\0<=result/\result<(m+Yr steps:Nat)
end
section
variable {ds:List Zc} {nf:Nat}
structure FS (ds:List Zc) (nf m:Nat) (s:Z5):Prop where
 op:(0<=s.op/\s.op<=11)∨(14<=s.op/\s.op<=17)
 args:∀a∈s.args,0<=a/\a<m
 cnt:14<=s.op->s.num=0/\s.into=0/\s.kids=[]/\∃a,s.args=[a]
 k7:s.op=7->s.kids.length=2
 k8:s.op=8->s.kids.length=(ZY ds s.num).length
 one:s.op=7∨s.op=8->∃a,s.args=[a]
 call:s.op=9->0<=s.num/\s.num<nf
 num:-2000<=s.num/\s.num<=2000
 into:0<=s.into/\s.into<=m
 alen:s.args.length<=4
 kn:s.op≠7/\s.op≠8->s.kids=[]
 kids:Uc ds nf (V3 ds s.op s.num m) 0 s.kids
theorem Bc {m:Nat} (s:Z5):fS ds nf m s↔FS ds nf m s:=by
 cases s
 rw [fS]
 exact ⟨fun ⟨h1,h2,h3,h4,h5,h6,h7,h8,h9,h10,h11,h12⟩=>⟨h1,h2,h3,h4,h5,h6,h7,h8,h9,h10,h11,h12⟩,fun h=>⟨h.op,h.args,h.cnt,h.k7,h.k8,h.one,h.call,h.num,h.into,h.alen,h.kn,h.kids⟩⟩
theorem Jf {m:Nat} (b:Z8):fB ds nf m b↔Wc ds nf m b.steps/\0<=b.result/\b.result<(m+Yr b.steps:Nat):=by cases b;rw [fB];rfl
theorem BR {sc:Nat->Nat}:∀{xs:List Z8} {j k:Nat} {b:Z8},Uc ds nf sc j xs->xs[k]? = some b->fB ds nf (sc (j+k)) b
 | [],j,k,b,_,h=>by simp at h
 | x::r,j,0,b,hw,h=>by simp at h;subst h;exact hw.1
 | x::r,j,k+1,b,hw,h=>by
  have:=BR (xs:=r) (j:=j+1) (k:=k) hw.2 (by simpa using h)
  rw [show j+(k+1)=j+1+k by omega];exact this
theorem OY {sc:Nat->Nat}:∀{xs ys:List Z8} {j:Nat},Uc ds nf sc j (xs++ys)↔Uc ds nf sc j xs/\Uc ds nf sc (j+xs.length) ys
 | [],ys,j=>by simp [Uc]
 | x::r,ys,j=>by
  rw [J1,Uc,Uc,OY (xs:=r),and_assoc,Yp,show j+1+r.length=j+(r.length+1) by omega]
theorem P0 {sc:Nat->Nat} {xs:List Z8} {b:Z8} (h:Uc ds nf sc 0 xs) (hb:fB ds nf (sc xs.length) b):Uc ds nf sc 0 (xs++[b]):=
 OY.2 ⟨h,by rw [Wf];exact hb,True.intro⟩
theorem Ay:∀{xs ys:List Z5} {m:Nat},Wc ds nf m (xs++ys)↔Wc ds nf m xs/\Wc ds nf (m+Yr xs) ys
 | [],ys,m=>by simp [Wc,Yr]
 | x::r,ys,m=>by
  rw [J1,Wc,Wc,Ay (xs:=r),and_assoc,Yr]
  by_cases h:YO x.op=true
  ·rw [Zh h,Zh h,Wf]
  ·rw [Zb h,Zb h,Ac]
theorem GT {xs:List Z5} {s:Z5} {m:Nat} (h:Wc ds nf m xs) (hs:fS ds nf (m+Yr xs) s):Wc ds nf m (xs++[s]):=Ay.2 ⟨h,hs,True.intro⟩
theorem DN:∀{xs:List Z5} {k m:Nat} {s:Z5},Wc ds nf m xs->xs[k]? = some s->fS ds nf (m+Yr (xs.take k)) s
 | [],k,m,s,_,h=>by simp at h
 | x::r,0,m,s,hw,h=>by simp at h;subst h;exact hw.1
 | x::r,k+1,m,s,hw,h=>by
  have:=DN (xs:=r) (k:=k) hw.2 (by simpa using h)
  rw [AO,Yr]
  by_cases hc:YO x.op=true
  ·rw [Zh hc] at this ⊢;rw [Wf];exact this
  ·rw [Zb hc] at this ⊢;rw [<-Ac];exact this
theorem LE {op v:Int} {m:Nat} (ho:14<=op/\op<=17) (hv:0<=v/\v<m):fS ds nf m (Zv op v):=by
 rw [Zv,fS]
 exact ⟨.inr ho,fun a ha=>by rw [XE.1 ha];exact hv,fun _=>⟨rfl,rfl,rfl,v,rfl⟩,fun h=>by omega,fun h=>by omega,fun h=>by omega,fun h=>by omega,by omega,by omega,by simp,fun _=>rfl,True.intro⟩
theorem GS {op:Int} {m:Nat} (ho:14<=op/\op<=17):∀{vs:LI},(∀v∈vs,0<=v/\v<(m:Int))->Wc ds nf m (vs.map (Zv op))/\Yr (vs.map (Zv op))=0
 | [],_=>⟨True.intro,rfl⟩
 | v::r,h=>by
  obtain ⟨h1,h2⟩:=GS ho (vs:=r) fun x hx=>h x (Xt _ hx)
  have hc:YO op=true:=by simp [YO];omega
  have hc':YO (Zv op v).op=true:=hc
  rw [T9,Wc,Yr,Zh hc',Zh hc',Wf]
  exact ⟨⟨LE ho (h v (Xm ..)),h1⟩,h2⟩
mutual
theorem Zj7:∀(s:Z5) {m:Nat},fS ds nf m s->m+4*s.sz<=900000000->Xs ds->wS ds s
 | .mk op num into args kids,m,h,hb,hd=>by
  rw [fS] at h
  obtain ⟨h1,h2,h3,h4,h5,h6,h7,h8,h9,h10,h11,h12⟩:=h
  rw [Z5.sz] at hb
  rw [wS]
  refine ⟨?_,fun hc=>h3 (show 14<=op/\op<=17 by simpa [YO] using hc).1,fun h8'=>⟨?_,h5 h8'⟩,Z2t kids h12 (fun k=>?_) hd⟩
  ·rcases h1 with h1|h1
   ·have e1:YO op=false:=by simp [YO];omega
    have e2:Xh op=true:=by simp [Xh];omega
    rw [e1,e2];rfl
   ·have e1:YO op=true:=by simp [YO];omega
    have e2:Xh op=false:=by simp [Xh];omega
    rw [e1,e2];rfl
  ·obtain ⟨a,ha⟩:=h6 (.inr h8')
   have:=h2 a (by rw [ha];exact XE.2 rfl)
   exact ⟨a,ha,by omega⟩
  ·have hf:=Vq hd (gI (ZY ds num) k)
   show V3 ds op num m k+4*YU kids<=900000003
   rw [V3];split<;>omega
theorem Z2t:∀(bs:List Z8) {sc:Nat->Nat} {k:Nat},Uc ds nf sc k bs->(∀k,sc k+4*YU bs<=900000003)->Xs ds->Jx ds bs
 | [],_,_,_,_,_=>True.intro
 | b::r,sc,k,h,hb,hd=>by
  have hp:=b.sz_eq
  exact ⟨Np b h.1 (by have:=hb k;rw [YU] at this;omega) hd,Z2t r h.2 (fun j=>by have:=hb j;rw [YU] at this;omega) hd⟩
theorem Z2u:∀(xs:List Z5) {m:Nat},Wc ds nf m xs->m+4*Yu xs<=900000000->Xs ds->QW ds xs
 | [],_,_,_,_=>True.intro
 | s::r,m,h,hb,hd=>by
  rw [Yu] at hb
  have hp:=s.sz_pos
  refine ⟨Zj7 s h.1 om hd,Z2u r h.2 ?_ hd⟩
  split<;>omega
theorem Np:∀(b:Z8) {m:Nat},fB ds nf m b->m+4*b.sz<=900000004->Xs ds->wB ds b
 | .mk steps result,m,h,hb,hd=>by
  rw [Z8.sz] at hb
  rw [fB] at h
  rw [wB]
  exact Z2u steps h.1 om hd
end
mutual
theorem Zer:∀(s:Z5) {m:Nat},fS ds nf m s->s.rng
 | .mk op num into args kids,m,h=>by
  rw [fS] at h
  obtain ⟨h1,h2,h3,h4,h5,h6,h7,h8,h9,h10,h11,h12⟩:=h
  rw [Z5.rng]
  exact ⟨by omega,Z02 kids h12⟩
theorem Z02:∀(bs:List Z8) {sc:Nat->Nat} {k:Nat},Uc ds nf sc k bs->Am bs
 | [],_,_,_=>True.intro
 | b::r,sc,k,h=>⟨MO b h.1,Z02 r h.2⟩
theorem Z03:∀(xs:List Z5) {m:Nat},Wc ds nf m xs->AL xs
 | [],_,_=>True.intro
 | s::r,m,h=>⟨Zer s h.1,Z03 r h.2⟩
theorem MO:∀(b:Z8) {m:Nat},fB ds nf m b->b.rng
 | .mk steps result,m,h=>by rw [fB] at h;rw [Z8.rng];exact Z03 steps h.1
end
end
structure FN (n:ZG) (q:Nat):Prop where
 decls:GD n.decls
 len:1<=n.routines.length/\n.routines.length<=4
 sigs:∀r∈n.routines,(r.params,r.result)∈Ag
 lent:∀r∈n.routines,r.lent.length<=3/\∀i∈r.lent,0<=i/\i<r.params.length
 body:∀r∈n.routines,fB n.decls n.routines.length r.params.length r.body/\r.body.sz<=q
theorem FN.ok {n:ZG} {q:Nat} (h:FN n q):Xw n:=
 ⟨h.decls.ok,h.len.2,fun r hr=>(Tw.bd (f:=⟨r.params,r.result,default⟩) (h.sigs r hr)).1,fun r hr=>by have:=(h.lent r hr).1;omega⟩
def Pk (n k:Int):Prop:=0<=k/\(0<n->k<n)/\(n<=0->k=0)
theorem Pk.lt {n k:Int} (h:Pk n k) (hn:0<n):0<=k/\k<n:=⟨h.1,h.2.1 hn⟩
theorem Pk.zero {n:Int}:Pk n 0:=⟨Int.le_refl _,fun h=>h,fun _=>rfl⟩
theorem Pk.rem {n a:Int} (ha:0<=a) (hn:0<n):Pk n (a % n):=⟨Int.emod_nonneg _ om,fun _=>Int.emod_lt_of_pos _ hn,fun _=>by omega⟩
def AD (ds:List Zc):Prop:=ds.length<=8/\∀d∈ds,d.cons.length<=4/\∀c∈d.cons,c.fields.length<=4
theorem GD.ad {ds:List Zc} (h:GD ds):AD ds:=(by decide:∀ds∈Bg,ds.length<=8/\∀d∈ds,d.cons.length<=4/\∀c∈d.cons,c.fields.length<=4) ds h
theorem AD.set {ds:List Zc} (h:AD ds) (k:Nat) {d:Zc} (hd:d.cons.length<=4/\∀c∈d.cons,c.fields.length<=4):AD (ds.set k d):=
 ⟨by rw [VF];exact h.1,fun x hx=>(List.mem_or_eq_of_mem_set hx).elim (h.2 x) fun e=>by rw [e];exact hd⟩
theorem AD.app {ds es:List Zc} (h:AD ds) (hl:ds.length+es.length<=8) (hd:∀d∈es,d.cons.length<=4/\∀c∈d.cons,c.fields.length<=4):AD (ds++es):=
 ⟨by rw [ZV];exact hl,fun x hx=>(Xf.1 hx).elim (h.2 x) (hd x)⟩
theorem GD.three:GD [B3,⟨0,0,[]⟩,B4]:=List.Mem.head _
theorem GD.four:∀{k:Nat} {x:Zc},Oi[k]? = some x->GD ([B3,⟨0,0,[]⟩,B4]++[x])
 | 0,x,h=>by cases h;exact .tail _ (.head _)
 | 1,x,h=>by cases h;exact .tail _ (.tail _ (.head _))
 | 2,x,h=>by cases h;exact .tail _ (.tail _ (.tail _ (.head _)))
 | 3,x,h=>by cases h;exact .tail _ (.tail _ (.tail _ (.tail _ (.head _))))
 | k+4,x,h=>by simp [Oi] at h
theorem C5 {l:LI} {z a b:Int} (h:z∈l) (hl:l.all (fun x=>decide (a<=x/\x<=b))=true):a<=z/\z<=b:=by
 have:=A8.1 hl z h
 exact of_decide_eq_true this
def rk (t:Int):Nat:=if Jn t then 0 else 1
theorem MN (t:Int):rk t<=1:=by rw [rk];split<;>omega
theorem Z01 {t:Int} (h:Jn t):rk t=0:=Zh h
def SE (g:Wa) (q:Nat) (e:Z2):Prop:=(∀m,eW g.decls g.funcs.length m e)/\e.sz<=q
def GE (g:Wa) (m q:Nat) (e:Z2):Prop:=eW g.decls g.funcs.length m e/\e.sz<=q
theorem SE.ge {g:Wa} {q q' m:Nat} {e:Z2} (h:SE g q e) (hq:q<=q'):GE g m q' e:=⟨h.1 m,Vm h.2 hq⟩
theorem GE.le {g:Wa} {m q q':Nat} {e:Z2} (h:GE g m q e) (hq:q<=q'):GE g m q' e:=⟨h.1,Vm h.2 hq⟩
theorem GR {m:Nat}:∀{xs:List Z2},(∀e∈xs,e.sz<=m)->XC xs<=xs.length*m
 | [],_=>QB _
 | x::r,h=>by
  have h1:=h x (Xm ..)
  have h2:=GR (xs:=r) fun e he=>h e (Xt _ he)
  rw [XC,Yp,QY];omega
theorem XF {α:Type} {p:α->Prop} {xs:List α} {a:α} (h:∀x∈xs,p x) (ha:p a):∀x∈xs++[a],p x:=fun x hx=>(Xf.1 hx).elim (h x) fun q=>by rw [XE.1 q];exact ha
theorem SE.int {g:Wa} {z:Int} {q:Nat} (hz:-2000<=z/\z<=2000) (hq:1<=q):SE g q (.mk 0 z []):=⟨fun _=>Z6j hz,by simpa [Z2.sz,XC] using hq⟩
theorem SE.node {g:Wa} {op num:Int} {ys:List Z2} {q k:Nat} (ho:op=6∨op=10) (hn:0<=num/\num<=2000) (hy:∀e∈ys,SE g 1 e) (hl:ys.length<=k) (hk:k<=3) (hq:1+k<=q):SE g q (.mk op num ys):=by
 refine ⟨fun m=>CO om (fun h=>by omega) om om fun e he=>(hy e he).1 m,?_⟩
 have:=GR (xs:=ys) (m:=1) fun e he=>(hy e he).2
 rw [Z2.sz];omega
def BH (ds:List Zc) (t c:Int):Prop:=(0<=c/\c<=9)/\(ZO ds c).length<=3*rk t/\∀u∈ZO ds c,Jn u
instance (ds:List Zc) (t c:Int):Decidable (BH ds t c):=inferInstanceAs (Decidable (_/\_/\_))
theorem Z0u {ds:List Zc} (h:GD ds):∀t∈[(1:Int),2,3,4],∀c∈ZY ds t,(t∈ZO ds c->∀c0,(ZY ds t)[0]? = some c0->BH ds t c0)/\(¬t∈ZO ds c->BH ds t c):=by
 intro t ht c hc
 have k1:=(by decide:∀ds∈Bg,∀t∈[(1:Int),2,3,4],∀c∈ZY ds t,(t∈ZO ds c->BH ds t (gI (ZY ds t) 0))/\(¬t∈ZO ds c->BH ds t c)) ds h t ht c hc
 refine ⟨fun q c0 h0=>?_,k1.2⟩
 have:=k1.1 q
 rwa [Tl (i:=0) h0] at this
theorem Of {ds:List Zc} (h:GD ds) {t c:Int} (hc:c∈ZY ds t):t∈[(1:Int),2,3,4]:=by
 obtain ⟨_,h2,_⟩:=h.cons_cases hc
 rcases h2 with rfl|rfl|rfl<;>simp
theorem Zfs {ds:List Zc} (h:GD ds) {t c c0:Int} (hc:c∈ZY ds t) (ht:t∈ZO ds c) (h0:(ZY ds t)[0]? = some c0):BH ds t c0:=(Z0u h t (Of h hc) c hc).1 ht c0 h0
theorem Zfr {ds:List Zc} (h:GD ds) {t c:Int} (hc:c∈ZY ds t) (ht:¬t∈ZO ds c):BH ds t c:=(Z0u h t (Of h hc) c hc).2 ht
theorem Zeq {ds:List Zc} (h:GD ds) {t:Int} (h0:(ZY ds t).length=0) (ht:0<t):rk t=1:=by
 rw [rk,Zb]
 rintro (q|q|q)
 ·omega
 ·rw [q,h.low.2.1] at h0;cases h0
 ·rw [q,h.low.2.2.2.1] at h0;cases h0
def AQ (g:Wa) (t i:Int):Prop:=0<=i/\∃f,g.funcs[i.toNat]? = some f/\0<f.params.length/\Ai g.decls (gI f.params ((f.params.length:Int)-1)) f.result=t
theorem AQ.lt {g:Wa} {t i:Int} (h:AQ g t i):0<=i/\i<g.funcs.length:=by
 obtain ⟨h1,f,h2,_⟩:=h
 have:=(X9.1 h2).1
 omega
theorem AQ.mk {g:Wa} {t x2:Int} {k:Nat} {f:Func} (hf:g.funcs[k]? = some f) (hl:0<f.params.length) (hx:f.params[f.params.length-1]? = some x2) (ha:Ai g.decls x2 f.result=t):AQ g t (k:Int):=by
 refine ⟨by omega,f,by simpa using hf,hl,?_⟩
 rw [Tl (i:=(f.params.length:Int)-1) (by rw [show ((f.params.length:Int)-1).toNat=f.params.length-1 by omega];exact hx)]
 exact ha
theorem AQ.low {g:Wa} {t i u:Int} {f:Func} {j:Nat} (hg:GP g) (h:AQ g t i) (ht:0<t) (hf:g.funcs[i.toNat]? = some f) (hj:j+1<f.params.length) (hu:f.params[j]? = some u):rk u=0:=by
 obtain ⟨_,f',h2,_,h4⟩:=h
 have e:f'=f:=Dq (h2.symm.trans hf)
 subst e
 have h5:=(hg.sigs f' (Y4 hf)).clo hg.decls (by rw [h4];exact ht)
 refine Z01 (h5 u ?_)
 rw [List.dropLast_eq_take]
 exact Y4 (i:=j) (by rw [List.getElem?_take_of_lt om];exact hu)
end Go.Abs
section
namespace Go.Abs
theorem Ak (b:Nat):bS b=max 4 (10*b-10):=rfl
theorem Aj (b:Nat):bC b=max 40 (100*b-100):=rfl
theorem Fo {L q b:Nat} (hL:L<=3) (hb:3<=b) (hq:L*q<=b-1):1+L*bS q<=bS b:=by
 rw [Ak,Ak]
 have:L=0∨L=1∨L=2∨L=3:=by omega
 rcases this with rfl|rfl|rfl|rfl<;>omega
theorem Zcu {L q b:Nat} (hL:L<=3) (hb:3<=b) (hq:L*q<=b-2):5+L*bS q<=bS b:=by
 rw [Ak,Ak]
 have:L=0∨L=1∨L=2∨L=3:=by omega
 rcases this with rfl|rfl|rfl|rfl<;>omega
theorem Zcq {b:Nat} (hb:3<=b):1+(bS (b / 2)+bS (b / 2))<=bS b:=by rw [Ak,Ak];omega
theorem Z3u {b:Nat} (hb:3<=b):5+bS (b-2)<=bS b:=by rw [Ak,Ak];omega
theorem Bo {L q b:Nat} (hL:L<=3) (hb:3<=b) (hq:L*q<=b-1):10+L*bC q<=bC b:=by
 rw [Aj,Aj]
 have:L=0∨L=1∨L=2∨L=3:=by omega
 rcases this with rfl|rfl|rfl|rfl<;>omega
theorem Zct {L q b:Nat} (hL:L<=3) (hb:3<=b) (hq:L*q<=b-2):40+L*bC q<=bC b:=by
 rw [Aj,Aj]
 have:L=0∨L=1∨L=2∨L=3:=by omega
 rcases this with rfl|rfl|rfl|rfl<;>omega
theorem Zcp {b:Nat} (hb:3<=b):10+(bC (b / 2)+bC (b / 2))<=bC b:=by rw [Aj,Aj];omega
theorem Z3t {b:Nat} (hb:3<=b):40+bC (b-2)<=bC b:=by rw [Aj,Aj];omega
theorem NV (b:Nat):4<=bS b:=by rw [Ak];omega
theorem NU (b:Nat):40<=bC b:=by rw [Aj];omega
theorem Qj (L b:Nat):L*(b / L)<=b:=Nat.mul_div_le b L
theorem RY {k L C:Nat} (h:k<L):(k+1)*C=k*C+C/\(k+1)*C<=L*C:=⟨by rw [QY,Nat.one_mul],JA C h⟩
theorem El {ds:List Zc} {d x:Int} {m k:Nat} (h:(ZY ds d)[k]? = some x):Qb ds 8 d m (1+k)=m+(ZO ds x).length:=by
 rw [Qb,Zb om,Zh rfl,Zb om,Tl (i:=((1+k:Nat):Int)-1) (by rw [show (((1+k:Nat):Int)-1).toNat=k by omega];exact h)]
section
variable {g:Wa} {m:Nat}
theorem GE.var {z:Int} {q:Nat} (hz:0<=z/\z<m) (hm:m<=2000) (hq:1<=q):GE g m q (.mk 12 z []):=⟨Z6k hz hm,by simpa [Z2.sz,XC] using hq⟩
theorem GE.list {ys:List Z2} {L s:Nat} (h:∀e∈ys,GE g m s e) (hl:ys.length=L):XC ys<=L*s:=by rw [<-hl];exact GR fun e he=>(h e he).2
theorem GE.node {op num:Int} {ys:List Z2} {L s q:Nat} (ho:0<=op/\op<=11/\op≠7/\op≠8) (hc:op=9->0<=num/\num<g.funcs.length) (hn:-2000<=num/\num<=2000) (h:∀e∈ys,GE g m s e) (hl:ys.length=L) (hL:L<=3) (hq:1+L*s<=q):GE g m q (.mk op num ys):=by
 have:=GE.list h hl
 exact ⟨CO ho hc hn om fun e he=>(h e he).1,by rw [Z2.sz];omega⟩
theorem GE.if_ {num:Int} {ys:List Z2} {s q:Nat} (hn:-2000<=num/\num<=2000) (h:∀e∈ys,GE g m s e) (hl:ys.length=3) (hq:1+3*s<=q):GE g m q (.mk 7 num ys):=by
 have:=GE.list h hl
 exact ⟨Oz hn hl fun e he=>(h e he).1,by rw [Z2.sz];omega⟩
theorem GE.let_ {a b:Z2} {s q:Nat} (ha:GE g m s a) (hb:GE g (m+1) s b) (hq:1+(s+s)<=q):GE g m q (.mk 13 0 [a,b]):=by
 refine ⟨OA om ha.1 hb.1,?_⟩
 have h1:=ha.2
 have h2:=hb.2
 simp only [Z2.sz,XC];omega
theorem GE.two {op num:Int} {a b:Z2} {s1 s2 q:Nat} (ho:0<=op/\op<=11/\op≠7/\op≠8/\op≠9) (hn:-2000<=num/\num<=2000) (ha:GE g m s1 a) (hb:GE g m s2 b) (hq:1+(s1+s2)<=q):GE g m q (.mk op num [a,b]):=by
 refine ⟨CO om (fun h=>by omega) hn (by simp) fun e he=>?_,?_⟩
 ·rcases YL.1 he with rfl|he
  ·exact ha.1
  ·rw [XE.1 he];exact hb.1
 ·have h1:=ha.2
  have h2:=hb.2
  simp only [Z2.sz,XC];omega
theorem GE.match_ {d:Int} {e:Z2} {ys:List Z2} {L s q:Nat} (hd:-2000<=d/\d<=2000) (he:GE g m 4 e) (hw:K8 g.decls g.funcs.length (Qb g.decls 8 d m) 1 ys) (hs:∀e∈ys,e.sz<=s) (hl:ys.length=L) (hL:L=(ZY g.decls d).length) (h3:L<=3) (hq:5+L*s<=q):GE g m q (.mk 8 d (e::ys)):=by
 refine ⟨Lu hd om om he.1 hw,?_⟩
 have h1:=GR hs
 rw [hl] at h1
 have h2:=he.2
 rw [Z2.sz,XC];omega
end
def NL (s:Nat) (left w:Int):Prop:=((s:Int)<=left/\w=left-s)∨(left<s/\w=-1)
end Go.Abs
namespace Go.Abs
theorem Da {L b p pp M:Nat} (hL:L<=3) (hb:3<=b) (h:pp<=p+8) (hp:p+(bC b-1)<=M):pp+L*bC ((b-1) / L)<=M:=by
 have:=Bo hL hb (Qj L (b-1))
 omega
end Go.Abs
end
namespace Go.Abs
theorem Z6u (a b:Z2):XC [a,b]=a.sz+b.sz:=by simp only [XC];omega
theorem GQ (a b c:Z2):XC [a,b,c]=a.sz+b.sz+c.sz:=by simp only [XC];omega
theorem EJ:bS 3=20/\bS 4=30/\bS 12=110/\bS 16=150/\bS 18=170/\bC 3=200/\bC 4=300/\bC 16=1500:=by decide
theorem Gn {b:Nat} (h:b<=20):bS b<=190/\bC b<=1900/\(b<=2->bS b<=10):=by rw [Ak,Aj];omega
section
variable {g:Wa} {m:Nat}
theorem SE.ofs {op num:Int} {ys:List Z2} {q:Nat} (ho:0<=op/\op<=11/\op≠7/\op≠8/\op≠9) (hn:-2000<=num/\num<=2000) (hl:ys.length<=4) (hy:∀e∈ys,∃s,SE g s e) (hq:1+XC ys<=q):SE g q (.mk op num ys):=
 ⟨fun m=>CO om (fun h=>by omega) hn hl fun e he=>let ⟨_,h⟩:=hy e he;h.1 m,by rw [Z2.sz];exact hq⟩
theorem SE.nil {op num:Int} {q:Nat} (ho:0<=op/\op<=11/\op≠7/\op≠8/\op≠9) (hn:-2000<=num/\num<=2000) (hq:1<=q):SE g q (.mk op num []):=
 SE.ofs ho hn (by simp) (fun e he=>by cases he) (by simpa [XC] using hq)
theorem SE.two {op num:Int} {a b:Z2} {s1 s2 q:Nat} (ho:0<=op/\op<=11/\op≠7/\op≠8/\op≠9) (hn:-2000<=num/\num<=2000) (ha:SE g s1 a) (hb:SE g s2 b) (hq:1+(s1+s2)<=q):SE g q (.mk op num [a,b]):=by
 refine SE.ofs ho hn (by simp) (fun e he=>?_) ?_
 ·rcases YL.1 he with rfl|he
  ·exact ⟨_,ha⟩
  ·rw [XE.1 he];exact ⟨_,hb⟩
 ·have h1:=ha.2
  have h2:=hb.2
  rw [Z6u];omega
theorem SE.three {op num:Int} {a b c:Z2} {s1 s2 s3 q:Nat} (ho:0<=op/\op<=11/\op≠7/\op≠8/\op≠9) (hn:-2000<=num/\num<=2000) (ha:SE g s1 a) (hb:SE g s2 b) (hc:SE g s3 c) (hq:1+(s1+s2+s3)<=q):SE g q (.mk op num [a,b,c]):=by
 refine SE.ofs ho hn (by simp) (fun e he=>?_) ?_
 ·rcases YL.1 he with rfl|he
  ·exact ⟨_,ha⟩
  ·rcases YL.1 he with rfl|he
   ·exact ⟨_,hb⟩
   ·rw [XE.1 he];exact ⟨_,hc⟩
 ·have h1:=ha.2
  have h2:=hb.2
  have h3:=hc.2
  rw [GQ];omega
theorem GE.int {z:Int} {q:Nat} (hz:-2000<=z/\z<=2000) (hq:1<=q):GE g m q (.mk 0 z []):=(SE.int (g:=g) (q:=q) hz hq).ge (X5 _)
theorem GE.three {op num:Int} {a b c:Z2} {s1 s2 s3 q:Nat} (ho:0<=op/\op<=11/\op≠8/\op≠9) (hn:-2000<=num/\num<=2000) (ha:GE g m s1 a) (hb:GE g m s2 b) (hc:GE g m s3 c) (hq:1+(s1+s2+s3)<=q):GE g m q (.mk op num [a,b,c]):=by
 have hk:∀e∈[a,b,c],eW g.decls g.funcs.length m e:=fun e he=>by
  rcases YL.1 he with rfl|he
  ·exact ha.1
  ·rcases YL.1 he with rfl|he
   ·exact hb.1
   ·rw [XE.1 he];exact hc.1
 refine ⟨?_,?_⟩
 ·by_cases h7:op=7
  ·subst h7;exact Oz hn rfl hk
  ·exact CO om (fun h=>by omega) hn (by simp) hk
 ·have h1:=ha.2
  have h2:=hb.2
  have h3:=hc.2
  rw [Z2.sz,GQ];omega
theorem GE.one {op num:Int} {a:Z2} {s1 q:Nat} (ho:0<=op/\op<=11/\op≠7/\op≠8/\op≠9) (hn:-2000<=num/\num<=2000) (ha:GE g m s1 a) (hq:1+s1<=q):GE g m q (.mk op num [a]):=by
 refine ⟨CO om (fun h=>by omega) hn (by simp) fun e he=>?_,?_⟩
 ·rw [XE.1 he];exact ha.1
 ·have h1:=ha.2
  simp only [Z2.sz,XC];omega
theorem GE.letS {a b:Z2} {s1 s2 q:Nat} (ha:GE g m s1 a) (hb:GE g (m+1) s2 b) (hq:1+(s1+s2)<=q):GE g m q (.mk 13 0 [a,b]):=by
 refine ⟨OA om ha.1 hb.1,?_⟩
 have h1:=ha.2
 have h2:=hb.2
 simp only [Z2.sz,XC];omega
theorem GE.matchL (hg:GP g) {e a b:Z2} {s1 s2 s3 q:Nat} (he:GE g m s1 e) (ha:GE g m s2 a) (hb:GE g (m+2) s3 b) (hq:1+(s1+s2+s3)<=q):GE g m q (.mk 8 1 [e,a,b]):=by
 have hl:=hg.decls.low
 refine ⟨Lu om (by simp) (by rw [hl.2.1];rfl) he.1 ⟨?_,?_,True.intro⟩,?_⟩
 ·rw [El (k:=0) (x:=0) (by rw [hl.2.1];rfl),hl.2.2.2.2.1];exact ha.1
 ·rw [El (k:=1) (x:=1) (by rw [hl.2.1];rfl),hl.2.2.2.2.2.1];exact hb.1
 ·have h1:=he.2
  have h2:=ha.2
  have h3:=hb.2
  rw [Z2.sz,GQ];omega
theorem GE.matchT (hg:GP g) {e a b:Z2} {s1 s2 s3 q:Nat} (he:GE g m s1 e) (ha:GE g m s2 a) (hb:GE g (m+3) s3 b) (hq:1+(s1+s2+s3)<=q):GE g m q (.mk 8 3 [e,a,b]):=by
 have hl:=hg.decls.low
 refine ⟨Lu om (by simp) (by rw [hl.2.2.2.1];rfl) he.1 ⟨?_,?_,True.intro⟩,?_⟩
 ·rw [El (k:=0) (x:=2) (by rw [hl.2.2.2.1];rfl),hl.2.2.2.2.2.2.1];exact ha.1
 ·rw [El (k:=1) (x:=3) (by rw [hl.2.2.2.1];rfl),hl.2.2.2.2.2.2.2];exact hb.1
 ·have h1:=he.2
  have h2:=ha.2
  have h3:=hb.2
  rw [Z2.sz,GQ];omega
theorem IN {α:Type} {p:α->Prop} {a:α} (h:p a):∀x∈[a],p x:=fun x hx=>by rw [XE.1 hx];exact h
end
structure IA (g:Wa):Prop where
 gp:GP g
 body:∀f∈g.funcs,eW g.decls g.funcs.length f.params.length f.body/\f.body.sz<=30
structure GL (ds:List Zc) (k j:Nat) (rq:List Func):Prop where
 len:rq.length=4
 sigs:∀f∈rq,Tw f
 zero:∀f,rq[0]? = some f->f.params.length=0
 body:∀i f,j<=i->i<k->rq[i]? = some f->eW ds k f.params.length f.body/\f.body.sz<=30
theorem GL.gp {ds:List Zc} {k j:Nat} {rq:List Func} (h:GL ds k j rq) (hd:GD ds) (hk:1<=k/\k<=4):GP ⟨ds,rq.take k⟩:=
 ⟨hd,by show 1<=(rq.take k).length/\_;rw [XW,h.len];omega,fun f hf=>h.sigs f (QX hf)⟩
theorem GL.len_take {ds:List Zc} {k j:Nat} {rq:List Func} (h:GL ds k j rq) (hk:k<=4):(rq.take k).length=k:=by rw [XW,h.len];omega
theorem GL.set {ds:List Zc} {k j:Nat} {rq:List Func} {f:Func} {e:Z2} (h:GL ds k j rq) (hj:1<=j) (hf:rq[j-1]? = some f) (he:eW ds k f.params.length e/\e.sz<=30):GL ds k (j-1) (rq.set (j-1) ⟨f.params,f.result,e⟩):=by
 have hl:=(X9.1 hf).1
 refine ⟨by rw [VF];exact h.len,fun x hx=>?_,fun x hx=>?_,fun i x h1 h2 hx=>?_⟩
 ·rcases List.mem_or_eq_of_mem_set hx with hx|rfl
  ·exact h.sigs x hx
  ·exact h.sigs f (Y4 hf)
 ·rw [List.getElem?_set] at hx
  split at hx
  ·rename_i h0
   cases hx
   exact h.zero f (by rw [<-h0];exact hf)
  ·exact h.zero x hx
 ·rw [List.getElem?_set] at hx
  split at hx
  ·cases hx
   exact he
  ·exact h.body i x om h2 hx
theorem GL.done {ds:List Zc} {k:Nat} {rq:List Func} (h:GL ds k 0 rq) (hd:GD ds) (hk:1<=k/\k<=4):IA ⟨ds,rq.take k⟩:=by
 refine ⟨h.gp hd hk,fun f hf=>?_⟩
 show eW ds (rq.take k).length _ _/\_
 rw [h.len_take hk.2]
 obtain ⟨i,hi⟩:=List.getElem?_of_mem hf
 have hi2:i<(rq.take k).length:=(X9.1 hi).1
 rw [h.len_take hk.2] at hi2
 rw [List.getElem?_take_of_lt hi2] at hi
 exact h.body i f om hi2 hi
theorem N0 {l:List Func} {f:Func} {k:Nat} (h:l[k]? = some f) (hl:l.all (fun f=>decide ((f.params,f.result)∈Ag))=true):Tw f:=show (f.params,f.result)∈Ag from of_decide_eq_true (A8.1 hl f (Y4 h))
theorem GL.start {ds:List Zc} {k:Nat} {e:Z2} {a b c:Func} (ha:Tw a) (hb:Tw b) (hc:Tw c):GL ds k k [⟨[],0,e⟩,a,b,c]:=by
 refine ⟨rfl,fun f hf=>?_,fun f hf=>?_,fun i f h1 h2=>by omega⟩
 ·rcases YL.1 hf with rfl|hf
  ·exact List.Mem.head _
  ·rcases YL.1 hf with rfl|hf
   ·exact ha
   ·rcases YL.1 hf with rfl|hf
    ·exact hb
    ·rw [XE.1 hf];exact hc
 ·cases hf;rfl
theorem Zdf {l:LI} {k:Nat} {a b:Nat} (h:(k:Int)∈l) (hl:l.all (fun x=>decide ((a:Int)<=x/\x<=b))=true):a<=k/\k<=b:=by
 have:=of_decide_eq_true (A8.1 hl _ h)
 omega
mutual
def Kk (p:Int->Prop):Z5->Prop
 | .mk op _ _ _ kids=>p op/\Kj p kids
def Kj (p:Int->Prop):List Z8->Prop
 | []=>True
 | b::r=>Vw p b/\Kj p r
def Q7 (p:Int->Prop):List Z5->Prop
 | []=>True
 | s::r=>Kk p s/\Q7 p r
def Vw (p:Int->Prop):Z8->Prop
 | .mk steps _=>Q7 p steps
end
section
variable {p q:Int->Prop}
theorem Fv (s:Z5):Kk p s↔p s.op/\Kj p s.kids:=by cases s;rw [Kk];rfl
theorem HI (b:Z8):Vw p b↔Q7 p b.steps:=by cases b;rw [Vw];rfl
theorem Eb:∀{xs:List Z8},Kj p xs↔∀b∈xs,Vw p b
 | []=>by simp [Kj]
 | b::r=>by rw [Kj,Eb];simp
theorem Dd:∀{xs:List Z5},Q7 p xs↔∀b∈xs,Kk p b
 | []=>by simp [Q7]
 | b::r=>by rw [Q7,Dd];simp
theorem HJ {xs ys:List Z5}:Q7 p (xs++ys)↔Q7 p xs/\Q7 p ys:=by simp only [Dd,Xf];exact ⟨fun h=>⟨fun b hb=>h b (.inl hb),fun b hb=>h b (.inr hb)⟩,fun h b hb=>hb.elim (h.1 b) (h.2 b)⟩
theorem Sb {xs:List Z8} {b:Z8} (h:Kj p xs) (hb:Vw p b):Kj p (xs++[b]):=Eb.2 (XF (Eb.1 h) hb)
theorem HK {xs:List Z5} {b:Z5} (h:Q7 p xs) (hb:Kk p b):Q7 p (xs++[b]):=Dd.2 (XF (Dd.1 h) hb)
end
def WS (op:Int):Prop:=op<=11
def VH (op:Int):Prop:=op<=15
end Go.Abs
section
namespace Go.Abs
structure LW (ds:List Zc) (nf q:Nat) (e:Z2) (ys:List Z5) (v:Int):Prop where
 fs:Wc ds nf q ys
 v:0<=v/\v<(q+Yr ys:Nat)
 sz:Yu ys<=6*e.sz
 op:Q7 WS ys
theorem LW.dn {ds:List Zc} {nf q:Nat} {e:Z2} {ys:List Z5} {v:Int} (h:LW ds nf q e ys v):Yr ys<=6*e.sz/\ys.length<=6*e.sz:=by
 have h1:=B5 ys
 have h2:=Jt ys
 have h3:=h.sz
 omega
structure LB (ds:List Zc) (nf q:Nat) (e:Z2) (b:Z8):Prop where
 fb:fB ds nf q b
 sz:b.sz<=1+6*e.sz
 op:Vw WS b
section
variable {ds:List Zc} {nf q:Nat}
theorem Gq:∀xs ys:List Z8,YU (xs++ys)=YU xs+YU ys
 | [],ys=>by simp [YU]
 | x::r,ys=>by rw [J1,YU,YU,Gq r];omega
theorem LW.block {e:Z2} {ys:List Z5} {v:Int} (h:LW ds nf q e ys v):LB ds nf q e ⟨ys,v⟩:=
 ⟨by rw [fB];exact ⟨h.fs,h.v⟩,by rw [Z8.sz];have:=h.sz;omega,by rw [Vw];exact h.op⟩
theorem LW.var {e:Z2} {v:Int} (hv:0<=v/\v<q):LW ds nf q e [] v:=⟨True.intro,by simpa [Yr] using hv,by simp [Yu],True.intro⟩
theorem LW.let_ {e a b:Z2} {ys zs:List Z5} {v1 v2:Int} (ha:LW ds nf q a ys v1) (hb:LW ds nf (q+Yr ys) b zs v2) (he:a.sz+b.sz<e.sz):LW ds nf q e (ys++zs) v2:=by
 refine ⟨Ay.2 ⟨ha.fs,hb.fs⟩,by rw [Td,<-Ac];exact hb.v,?_,HJ.2 ⟨ha.op,hb.op⟩⟩
 have h1:=ha.sz
 have h2:=hb.sz
 rw [Qd];omega
theorem EN {ys:List Z5} {s:Z5} (h:YO s.op=false):Yr (ys++[s])=Yr ys+1:=by
 rw [Td]
 simp [Yr,h]
theorem LW.node {e:Z2} {ys:List Z5} {as1:LI} (ho:0<=e.op/\e.op<=11/\e.op≠7/\e.op≠8) (hc:e.op=9->0<=e.num/\e.num<nf) (hn:-2000<=e.num/\e.num<=2000) (hf:Wc ds nf q ys) (ha:∀a∈as1,0<=a/\a<(q+Yr ys:Nat)) (hl:as1.length<=4) (hs:Yu ys<=6*XC e.kids) (hop:Q7 WS ys) :
  LW ds nf q e (ys++[⟨e.op,e.num,0,as1,[]⟩]) ((q+Yr ys:Nat):Int):=by
 have hcb:YO e.op=false:=by simp [YO];omega
 refine ⟨GT hf ?_,?_,?_,HK hop (by rw [Kk];exact ⟨by show e.op<=11;omega,True.intro⟩)⟩
 ·rw [fS]
  exact ⟨.inl ⟨by omega,by omega⟩,ha,fun h=>by omega,fun h=>by omega,fun h=>by omega,fun h=>by omega,hc,hn,by omega,hl,fun _=>rfl,True.intro⟩
 ·rw [EN (show YO (Z5.mk e.op e.num 0 as1 []).op=false from hcb)];omega
 ·rw [Qd,e.sz_eq]
  simp only [Yu,Z5.sz,YU]
  omega
theorem LW.branch {e:Z2} {ys:List Z5} {v:Int} {bs:List Z8} {s0 sr:Nat} (ho:e.op=7∨e.op=8) (h7:e.op=7->bs.length=2) (h8:e.op=8->bs.length=(ZY ds e.num).length) (hn:-2000<=e.num/\e.num<=2000) (hf:Wc ds nf q ys) (hv:0<=v/\v<(q+Yr ys:Nat))
  (hb:Uc ds nf (V3 ds e.op e.num (q+Yr ys)) 0 bs) (hl:bs.length<=3) (h0:Yu ys<=6*s0) (h1:YU bs<=bs.length+6*sr) (hs:s0+sr<=XC e.kids) (hop:Q7 WS ys) (hob:Kj WS bs):LW ds nf q e (ys++[⟨e.op,e.num,0,[v],bs⟩]) ((q+Yr ys:Nat):Int):=by
 have hcb:YO e.op=false:=by simp [YO];omega
 refine ⟨GT hf ?_,?_,?_,HK hop (by rw [Kk];exact ⟨by show e.op<=11;omega,hob⟩)⟩
 ·rw [fS]
  exact ⟨.inl ⟨by omega,by omega⟩,fun a ha=>by rw [XE.1 ha];exact hv,fun h=>by omega,h7,h8,fun _=>⟨v,rfl⟩,fun h=>by omega,hn,by omega,by simp,fun h=>by omega,hb⟩
 ·rw [EN (show YO (Z5.mk e.op e.num 0 [v] bs).op=false from hcb)];omega
 ·rw [Qd,e.sz_eq]
  simp only [Yu,Z5.sz,Yp,Yx]
  omega
theorem Z0s {ds:List Zc} {op num:Int} {m k:Nat} (h:op=13):Qb ds op num m k=m+k:=Zh h
theorem Zfp {ds:List Zc} {op num:Int} {m:Nat} (h:op≠13):Qb ds op num m 0=m:=by simp [Qb,h]
theorem Z0t {ds:List Zc} {op num:Int} {m k:Nat} (h:op≠13/\op≠8):Qb ds op num m k=m:=by simp [Qb,h.1,h.2]
theorem Zfq {ds:List Zc} {op num x:Int} {m k j:Nat} (h:op=8) (hk:k=j+1) (hx:(ZY ds num)[j]? = some x):Qb ds op num m k=m+(ZO ds x).length:=by
 subst h;subst hk;rw [Nat.add_comm j 1];exact El hx
theorem MX {ds:List Zc} {op num x:Int} {m j:Nat} (h:op=8) (hx:(ZY ds num)[j]? = some x):V3 ds op num m j=m+(ZO ds x).length:=by
 rw [V3,Zh h,Tl (i:=(j:Int)) (by simpa using hx)]
theorem MY {ds:List Zc} {op num:Int} {m j:Nat} (h:op≠8):V3 ds op num m j=m:=Zb h
theorem BQ {xs:List Z2} {k:Nat} {e:Z2} (h:xs[k]? = some e):XC (xs.take (k+1))=XC (xs.take k)+e.sz:=by rw [V4 h,ER,XC,XC];rfl
theorem Bb {xs:List Z2} (k:Nat):XC (xs.take k)<=XC xs:=by
 have h:=Yo XC (TL k xs)
 rw [ER] at h;omega
theorem OX {xs:List Z2} {a b:Z2} (ha:xs[0]? = some a) (hb:xs[1]? = some b):a.sz+b.sz<=XC xs:=by
 have h1:XC (xs.take 1)=XC (xs.take 0)+a.sz:=BQ ha
 have h2:XC (xs.take 2)=XC (xs.take 1)+b.sz:=BQ hb
 have h3:=Bb (xs:=xs) 2
 omega
theorem G5 {us:LI} {v:Int} {d:Nat} (hu:∀a∈us,0<=a/\a<(q:Int)) (hv:0<=v/\v<(q+d:Nat)):∀a∈us++[v],0<=a/\a<((q+d:Nat):Int):=
 XF (fun a ha=>by have:=hu a ha;omega) hv
theorem Ip {us:LI} {d:Nat} (hu:∀a∈us,0<=a/\a<(q:Int)):∀a∈us,0<=a/\a<((q+d:Nat):Int):=fun a ha=>by have:=hu a ha;omega
theorem Zir {us ns:LI} {d mf:Nat} (hu:∀a∈us,0<=a/\a<(q:Int)) (hn:∀i∈ns,((q+d:Nat):Int)<=i/\i<((q+d:Nat):Int)+mf):∀a∈us++ns,0<=a/\a<((q+d+mf:Nat):Int):=fun a ha=>by
 rcases Xf.1 ha with h|h
 ·have:=hu a h;omega
 ·have:=hn a h;omega
theorem Gr:∀bs:List Z8,bs.length<=YU bs
 | []=>X5 _
 | b::r=>by have:=Gr r;have:=b.sz_pos;rw [YU,Yp];omega
end
end Go.Abs
namespace Go.Abs
structure RF (ds:List Zc) (nf q:Nat) (p:Int->Prop) (r:YE):Prop where
 sig:(r.params,r.result)∈Ag
 lent:r.lent.length<=3/\∀i∈r.lent,0<=i/\i<r.params.length
 body:fB ds nf r.params.length r.body/\r.body.sz<=q
 op:Vw p r.body
structure FO (n:ZG) (q:Nat) (p:Int->Prop):Prop where
 fn:FN n q
 op:∀r∈n.routines,Vw p r.body
theorem FO.rf {n:ZG} {q:Nat} {p:Int->Prop} (h:FO n q p) {r:YE} (hr:r∈n.routines):RF n.decls n.routines.length q p r:=⟨h.fn.sigs r hr,h.fn.lent r hr,h.fn.body r hr,h.op r hr⟩
theorem FO.all {n:ZG} {q:Nat} {p:Int->Prop} (hd:GD n.decls) (hl:1<=n.routines.length/\n.routines.length<=4) (h:∀r∈n.routines,RF n.decls n.routines.length q p r):FO n q p:=
 ⟨⟨hd,hl,fun r hr=>(h r hr).sig,fun r hr=>(h r hr).lent,fun r hr=>(h r hr).body⟩,fun r hr=>(h r hr).op⟩
structure RN (ds:List Zc) (nf:Nat) (r:YE):Prop where
 sig:(r.params,r.result)∈Ag
 lent:r.lent=[]
 body:fB ds nf r.params.length r.body/\r.body.sz<=181
 op:Vw WS r.body
theorem RN.all {n:ZG} {q:Nat} (hd:GD n.decls) (hl:1<=n.routines.length/\n.routines.length<=4) (h:∀r∈n.routines,RN n.decls n.routines.length r) (hq:181<=q):FO n q WS:=
 FO.all hd hl fun r hr=>⟨(h r hr).sig,by rw [(h r hr).lent];exact ⟨by simp,fun i hi=>by cases hi⟩,⟨(h r hr).body.1,Vm (h r hr).body.2 hq⟩,(h r hr).op⟩
end Go.Abs
namespace Go.Abs
theorem RN.of {ds:List Zc} {nf:Nat} {ps:LI} {rt:Int} {b:Z8} {e:Z2} (hs:(ps,rt)∈Ag) (h:LB ds nf ps.length e b) (he:e.sz<=30):RN ds nf ⟨ps,[],rt,Z8.mk b.steps b.result⟩:=by
 have e1:Z8.mk b.steps b.result=b:=by cases b;rfl
 rw [e1]
 exact ⟨hs,rfl,⟨h.fb,by have:=h.sz;show b.sz<=181;omega⟩,h.op⟩
end Go.Abs
end
namespace Go.Abs
theorem N8:∀{xs:List Z5} {s:Z5},s∈xs->s.sz<=Yu xs
 | [],s,h=>by cases h
 | x::r,s,h=>by
  rw [Yu]
  rcases YL.1 h with rfl|h
  ·omega
  ·have:=N8 h;omega
theorem IU:∀{xs:List Z8} {b:Z8},b∈xs->b.sz<=YU xs
 | [],b,h=>by cases h
 | x::r,b,h=>by
  rw [YU]
  rcases YL.1 h with rfl|h
  ·omega
  ·have:=IU h;omega
structure LC (n:ZG) (k:Nat) (xs:List LI):Prop where
 len:xs.length=k
 ok:∀(i:Nat) (l:LI),xs[i]? = some l->l.length<=3/\∀r,n.routines[i]? = some r->∀v∈l,0<=v/\v<(r.params.length:Int)
theorem LC.nil {n:ZG}:LC n 0 []:=⟨rfl,fun i l h=>by simp at h⟩
theorem LC.snoc {n:ZG} {k:Nat} {xs:List LI} {l:LI} (h:LC n k xs) (hl:l.length<=3) (hv:∀r,n.routines[k]? = some r->∀v∈l,0<=v/\v<(r.params.length:Int)):LC n (k+1) (xs++[l]):=by
 refine ⟨by rw [ZV,h.len];rfl,fun i l' hi=>?_⟩
 by_cases hk:i<xs.length
 ·rw [AN hk] at hi
  exact h.ok i l' hi
 ·rw [Cm om] at hi
  have h0:i-xs.length=0:=by
   cases e:i-xs.length with
   | zero=>rfl
   | succ q=>rw [e] at hi;simp at hi
  rw [h0] at hi
  cases hi
  have e:i=k:=by have:=h.len;omega
  subst e
  exact ⟨hl,hv⟩
def Uo:LI->Int->LI
 | [],y=>[y]
 | x::r,y=>if x>y then y::x::r else if x=y then x::r else x::Uo r y
def Qs (d:Bool) (xs:LI) (y:Int):LI:=if d=true then xs else Uo xs y
theorem Hn {xs:LI} {y:Int}:Qs true xs y=xs:=rfl
theorem Hm {xs:LI} {y:Int}:Qs false xs y=Uo xs y:=rfl
theorem Rh {xs acc r:LI} {y x:Int} {k:Nat} {d:Bool} (hx:xs[k]? = some x) (hd:d=true) (h:acc++Qs d (xs.drop k) y=r):(acc++[x])++Qs d (xs.drop (k+1)) y=r:=by
 subst hd
 rw [Hn,Yi hx] at h
 rw [Hn,<-h];simp
theorem Zbm {xs acc r:LI} {y x:Int} {k:Nat} {d:Bool} (hx:xs[k]? = some x) (hd:¬d=true) (hl:¬x>=y) (h:acc++Qs d (xs.drop k) y=r):(acc++[x])++Qs d (xs.drop (k+1)) y=r:=by
 have hd:=QA.2 hd
 subst hd
 rw [Hm,Yi hx,Uo,Zb om,Zb om] at h
 rw [Hm,<-h];simp
theorem Zbn {xs acc r:LI} {y x:Int} {k:Nat} {d:Bool} (hx:xs[k]? = some x) (hd:¬d=true) (hl:x>y) (h:acc++Qs d (xs.drop k) y=r):((acc++[y])++[x])++Qs true (xs.drop (k+1)) y=r:=by
 have hd:=QA.2 hd
 subst hd
 rw [Hm,Yi hx,Uo,Zh hl] at h
 rw [Hn,<-h];simp
theorem Zbo {xs acc r:LI} {y x:Int} {k:Nat} {d:Bool} (hx:xs[k]? = some x) (hd:¬d=true) (hl:x=y) (h:acc++Qs d (xs.drop k) y=r):(acc++[x])++Qs true (xs.drop (k+1)) y=r:=by
 have hd:=QA.2 hd
 subst hd
 rw [Hm,Yi hx,Uo,Zb om,Zh hl] at h
 rw [Hn,<-h];simp
theorem Zbl {xs acc acc2 r:LI} {y x:Int} {k:Nat} {d d2:Bool} (hx:xs[k]? = some x) (h:acc++Qs d (xs.drop k) y=r)
  (hc:(acc2=acc/\d2=d/\(d=true∨¬x>=y))∨(acc2=acc++[y]/\d2=true/\¬d=true/\x>y)∨(acc2=acc/\d2=true/\¬d=true/\x=y)):(acc2++[x])++Qs d2 (xs.drop (k+1)) y=r:=by
 rcases hc with ⟨rfl,rfl,h3⟩|⟨rfl,rfl,h3,h4⟩|⟨rfl,rfl,h3,h4⟩
 ·rcases h3 with h3|h3
  ·exact Rh hx h3 h
  ·by_cases q:d2=true
   ·exact Rh hx q h
   ·exact Zbm hx q h3 h
 ·exact Zbn hx h3 h4 h
 ·exact Zbo hx h3 h4 h
theorem Zbk {xs acc r:LI} {y:Int} {k:Nat} {d:Bool} (hk:xs.length<=k) (h:acc++Qs d (xs.drop k) y=r):(if d=true then acc else acc++[y])=r:=by
 rw [Xn hk] at h
 by_cases q:d=true
 ·rw [Qs,Zh q,TJ] at h;rw [Zh q];exact h
 ·rw [Qs,Zb q,Uo] at h;rw [Zb q];exact h
theorem DY:∀(xs:LI) (y:Int),(Uo xs y).length<=xs.length+1
 | [],y=>X5 _
 | x::r,y=>by
  have:=DY r y
  rw [Uo]
  split
  ·simp
  ·split
   ·simp
   ·simp only [Yp];omega
theorem Ff:∀{xs:LI} {y z:Int},z∈Uo xs y↔z∈xs∨z=y
 | [],y,z=>by simp [Uo]
 | x::r,y,z=>by
  rw [Uo]
  split
  ·simp only [YL];exact ⟨fun h=>h.elim .inr .inl,fun h=>h.elim .inr .inl⟩
  ·split
   ·rename_i h;subst h;simp only [YL];exact ⟨fun h=>.inl h,fun h=>h.elim id .inl⟩
   ·simp only [YL,Ff (xs:=r)];exact ⟨fun h=>by rcases h with h|h|h<;>simp [h],fun h=>by rcases h with (h|h)|h<;>simp [h]⟩
def Cq (xs:LI):Prop:=xs.Pairwise (·<·)
theorem Rf:∀{xs:LI} {y:Int},Cq xs->Cq (Uo xs y)
 | [],y,_=>by simp [Uo,Cq]
 | x::r,y,h=>by
  obtain ⟨h1,h2⟩:=WY.1 h
  rw [Uo]
  split
  ·rename_i q
   refine WY.2 ⟨fun z hz=>?_,h⟩
   rcases YL.1 hz with rfl|hz
   ·omega
   ·have:=h1 z hz;omega
  ·split
   ·exact h
   ·refine WY.2 ⟨fun z hz=>?_,Rf h2⟩
    rcases Ff.1 hz with hz|rfl
    ·exact h1 z hz
    ·omega
def Q8:LI->Int->LI
 | [],_=>[]
 | x::r,y=>if x=y then Q8 r y else x::Q8 r y
theorem Fx:∀(xs:LI) (y:Int),(Q8 xs y).length<=xs.length
 | [],y=>X5 _
 | x::r,y=>by
  have:=Fx r y
  rw [Q8]
  split
  ·rw [Yp];omega
  ·rw [Yp,Yp];omega
theorem Ed:∀{xs:LI} {y z:Int},z∈Q8 xs y->z∈xs
 | [],y,z,h=>by rw [Q8] at h;exact h
 | x::r,y,z,h=>by
  rw [Q8] at h
  split at h
  ·exact Xt _ (Ed h)
  ·rcases YL.1 h with rfl|h
   ·exact Xm ..
   ·exact Xt _ (Ed h)
theorem Ze0 {xs acc r:LI} {y x:Int} {k:Nat} (hx:xs[k]? = some x) (h:acc++Q8 (xs.drop k) y=r):(if x≠y then acc++[x] else acc)++Q8 (xs.drop (k+1)) y=r:=by
 rw [Yi hx,Q8] at h
 by_cases q:x=y
 ·rw [Zh q] at h;rw [Zb (fun z=>z q)];exact h
 ·rw [Zb q] at h;rw [Zh q,<-h];simp
theorem Zdz {xs acc r:LI} {y:Int} {k:Nat} (hk:xs.length<=k) (h:acc++Q8 (xs.drop k) y=r):acc=r:=by
 rw [Xn hk,Q8,TJ] at h;exact h
def UU (n:Int) (xs:LI) (a:Int):LI:=if 0<=a/\a<n then Uo xs a else xs
def QU (n:Int):LI->LI->LI
 | [],xs=>xs
 | a::r,xs=>QU n r (UU n xs a)
mutual
def A5 (n:Int):Z5->LI->LI
 | .mk op _ _ args kids,xs=>if YO op=true then xs else Ju n kids (QU n args xs)
def Ju (n:Int):List Z8->LI->LI
 | [],xs=>xs
 | b::r,xs=>Ju n r (T6 n b xs)
def T7 (n:Int):List Z5->LI->LI
 | [],xs=>xs
 | s::r,xs=>T7 n r (A5 n s xs)
def T6 (n:Int):Z8->LI->LI
 | .mk steps result,xs=>UU n (T7 n steps xs) result
end
section
variable {n:Int}
theorem Z2o (s:Z5) (xs:LI):A5 n s xs=if YO s.op=true then xs else Ju n s.kids (QU n s.args xs):=by cases s;rw [A5];rfl
theorem Z2m (b:Z8) (xs:LI):T6 n b xs=UU n (T7 n b.steps xs) b.result:=by cases b;rw [T6];rfl
theorem Io (xs:LI) (a:Int):(UU n xs a).length<=xs.length+1:=by
 rw [UU];split
 ·exact DY xs a
 ·omega
theorem Z2l:∀(as1 xs:LI),(QU n as1 xs).length<=xs.length+as1.length
 | [],xs=>X5 _
 | a::r,xs=>by
  have h1:=Z2l r (UU n xs a)
  have h2:=Io (n:=n) xs a
  rw [QU,Yp];omega
mutual
theorem Z2p:∀(s:Z5) (xs:LI),(A5 n s xs).length<=xs.length+s.sz
 | .mk op num into args kids,xs=>by
  have h1:=Z2n kids (QU n args xs)
  have h2:=Z2l (n:=n) args xs
  rw [A5,Z5.sz];split<;>omega
theorem Z2n:∀(bs:List Z8) (xs:LI),(Ju n bs xs).length<=xs.length+YU bs
 | [],xs=>X5 _
 | b::r,xs=>by
  have h1:=Z2n r (T6 n b xs)
  have h2:=In b xs
  rw [Ju,YU];omega
theorem Nl:∀(bs:List Z5) (xs:LI),(T7 n bs xs).length<=xs.length+Yu bs
 | [],xs=>X5 _
 | b::r,xs=>by
  have h1:=Nl r (A5 n b xs)
  have h2:=Z2p b xs
  rw [T7,Yu];omega
theorem In:∀(b:Z8) (xs:LI),(T6 n b xs).length<=xs.length+b.sz
 | .mk steps result,xs=>by
  have h1:=Nl steps xs
  have h2:=Io (n:=n) (T7 n steps xs) result
  rw [T6,Z8.sz];omega
end
theorem Zim {as1 ys r:LI} {k:Nat} {a:Int} (h:as1[k]? = some a) (ha:QU n (as1.drop k) ys=r):QU n (as1.drop (k+1)) (UU n ys a)=r:=by
 rw [Yi h,QU] at ha;exact ha
theorem Zio {bs:List Z8} {ys r:LI} {k:Nat} {b:Z8} (h:bs[k]? = some b) (ha:Ju n (bs.drop k) ys=r):Ju n (bs.drop (k+1)) (T6 n b ys)=r:=by
 rw [Yi h,Ju] at ha;exact ha
theorem Ziq {bs:List Z5} {ys r:LI} {k:Nat} {b:Z5} (h:bs[k]? = some b) (ha:T7 n (bs.drop k) ys=r):T7 n (bs.drop (k+1)) (A5 n b ys)=r:=by
 rw [Yi h,T7] at ha;exact ha
theorem Zil {as1 ys r:LI} {k:Nat} (h:as1.length<=k) (ha:QU n (as1.drop k) ys=r):ys=r:=by rw [Xn h,QU] at ha;exact ha
theorem Zin {bs:List Z8} {ys r:LI} {k:Nat} (h:bs.length<=k) (ha:Ju n (bs.drop k) ys=r):ys=r:=by rw [Xn h,Ju] at ha;exact ha
theorem Zip {bs:List Z5} {ys r:LI} {k:Nat} (h:bs.length<=k) (ha:T7 n (bs.drop k) ys=r):ys=r:=by rw [Xn h,T7] at ha;exact ha
end
theorem Nv {s:Z5} (h:Cn s):∃a,s.args=[a]:=⟨gI s.args 0,by have:=Yo Z5.args h;exact this⟩
section
variable {xs:LI} {v:Int} {lo hi:Nat}
end
section
variable {m:Int} {xs du dr:List Z5} {lf:LI} {d:Bool} {k:Nat} {s:Z5} {W:List Z5 × List Z5 × LI}
end
def YW:List Z5->Nat
 | []=>0
 | s::r=>if YO s.op=true then YW r+1 else 0
def Wb (op x:Int):List Z5->Int->Int
 | [],_=>-1
 | s::r,k=>if s.op=op/\gI s.args 0=x then k else Wb op x r (k+1)
def KD (many:Nat) (s:Z5):Prop:=(s.op=6/\s.into=0)/\s.args.length=many
instance (many:Nat) (s:Z5):Decidable (KD many s):=by unfold KD;infer_instance
def Wz (many:Nat):List Z5->Int->Int
 | [],_=>-1
 | s::r,k=>if KD many s then k else Wz many r (k+1)
def BU (xs:List Z5) (i:Int):Z5:=xs[i.toNat]?.getD (Zv 0 0)
def Qt (v:Int) (s:Z5):Z5:=.mk s.op s.num v s.args s.kids
def Vx (xs:List Z5) (x:Int):Int:=Wb 16 x (xs.take (YW xs)) 0
def WF (xs:List Z5) (many:Nat):Int:=Wz many (xs.drop (YW xs)) (YW xs)
def VN (xs:List Z5) (x:Int) (many:Nat):List Z5:=
 if Vx xs x<0∨WF xs many<0 then xs else (xs.set (Vx xs x).toNat (Zv 17 x)).set (WF xs many).toNat (Qt (1+x) (BU xs (WF xs many)))
def VS (b:Z8) (x:Int) (many:Nat):Z8:=.mk (VN b.steps x many) b.result
mutual
def Tq (ds:List Zc) (kept:LI):Z5->Z5
 | .mk op num into args kids=>.mk op num into args (VZ ds kept op num args kids 0)
def VZ (ds:List Zc) (kept:LI) (op num:Int) (args:LI):List Z8->Nat->List Z8
 | [],_=>[]
 | b::r,k=>(if op=8/\¬gI args 0∈kept then VS (Wv ds (if Vx b.steps (gI args 0)<0∨WF b.steps (WC ds num k).length<0 then kept else gI args 0::kept) b) (gI args 0) (WC ds num k).length else Wv ds kept b)::VZ ds kept op num args r (k+1)
def Ug (ds:List Zc) (kept:LI):List Z5->List Z5
 | []=>[]
 | s::r=>Tq ds kept s::Ug ds kept r
def Wv (ds:List Zc) (kept:LI):Z8->Z8
 | .mk steps result=>.mk (Ug ds kept steps) result
end
def Hs (ds:List Zc) (kept:LI) (num:Int) (args:LI) (k:Nat) (b:Z8):LI:=if Vx b.steps (gI args 0)<0∨WF b.steps (WC ds num k).length<0 then kept else gI args 0::kept
def Qa (ds:List Zc) (kept:LI) (op num:Int) (args:LI) (k:Nat) (b:Z8):Z8:=if op=8/\¬gI args 0∈kept then VS (Wv ds (Hs ds kept num args k b) b) (gI args 0) (WC ds num k).length else Wv ds kept b
theorem AJ (ds:List Zc) (kept:LI) (s:Z5):Tq ds kept s=.mk s.op s.num s.into s.args (VZ ds kept s.op s.num s.args s.kids 0):=by cases s;rw [Tq];rfl
theorem HY (ds:List Zc) (kept:LI) (b:Z8):Wv ds kept b=.mk (Ug ds kept b.steps) b.result:=by cases b;rw [Wv];rfl
theorem HZ (ds:List Zc) (kept:LI):∀xs:List Z5,Ug ds kept xs=xs.map (Tq ds kept)
 | []=>rfl
 | s::r=>by rw [Ug,HZ ds kept r];rfl
section
variable {ds:List Zc} {kept:LI}
theorem Zfc {xs acc r:List Z5} {k:Nat} {s:Z5} (h:xs[k]? = some s) (ha:acc++Ug ds kept (xs.drop k)=r) :
  (acc++[.mk s.op s.num s.into s.args (VZ ds kept s.op s.num s.args s.kids 0)])++Ug ds kept (xs.drop (k+1))=r:=by
 rw [Yi h,Ug,AJ] at ha
 rw [<-ha];simp
theorem Zfb {xs acc r:List Z5} {k:Nat} (h:xs.length<=k) (ha:acc++Ug ds kept (xs.drop k)=r):acc=r:=by
 rw [Xn h,Ug,TJ] at ha;exact ha
theorem Zf6 {op num:Int} {args:LI} {bs acc r:List Z8} {k:Nat} {b:Z8} (h:bs[k]? = some b) (ha:acc++VZ ds kept op num args (bs.drop k) k=r) :
  (acc++[Qa ds kept op num args k b])++VZ ds kept op num args (bs.drop (k+1)) (k+1)=r:=by
 rw [Yi h,VZ] at ha
 rw [<-ha,Qa,Hs];simp
theorem Zf5 {op num:Int} {args:LI} {bs acc r:List Z8} {k j:Nat} (h:bs.length<=k) (ha:acc++VZ ds kept op num args (bs.drop k) j=r):acc=r:=by
 rw [Xn h,VZ,TJ] at ha;exact ha
end
section
variable {ds:List Zc}
mutual
theorem Zf9:∀(s:Z5) {K K':LI},(∀z,z∈K↔z∈K')->Tq ds K s=Tq ds K' s
 | .mk op num into args kids,K,K',h=>by rw [Tq,Tq,Z0i kids h]
theorem Z0i:∀(bs:List Z8) {K K':LI} {op num:Int} {args:LI} {k:Nat},(∀z,z∈K↔z∈K')->VZ ds K op num args bs k=VZ ds K' op num args bs k
 | [],_,_,_,_,_,_,_=>by rw [VZ,VZ]
 | b::r,K,K',op,num,args,k,h=>by
  have h1:=Z0i r (op:=op) (num:=num) (args:=args) (k:=k+1) h
  have h2:=MR b h
  have h3:∀z,z∈(gI args 0::K)↔z∈(gI args 0::K'):=fun z=>by rw [YL,YL,h z]
  have h4:=MR b h3
  rw [VZ,VZ,h1,h2]
  congr 1
  by_cases hq:op=8/\¬gI args 0∈K
  ·have hq':op=8/\¬gI args 0∈K':=⟨hq.1,fun z=>hq.2 ((h _).2 z)⟩
   rw [Zh hq,Zh hq']
   congr 1
   split
   ·exact h2
   ·exact h4
  ·have hq':¬(op=8/\¬gI args 0∈K'):=fun z=>hq ⟨z.1,fun y=>z.2 ((h _).1 y)⟩
   rw [Zb hq,Zb hq']
theorem Z0k:∀(xs:List Z5) {K K':LI},(∀z,z∈K↔z∈K')->Ug ds K xs=Ug ds K' xs
 | [],_,_,_=>by rw [Ug,Ug]
 | s::r,K,K',h=>by rw [Ug,Ug,Zf9 s h,Z0k r h]
theorem MR:∀(b:Z8) {K K':LI},(∀z,z∈K↔z∈K')->Wv ds K b=Wv ds K' b
 | .mk steps result,K,K',h=>by rw [Wv,Wv,Z0k steps h]
end
end
theorem Fl:∀xs:List Z5,YW xs<=xs.length
 | []=>X5 _
 | s::r=>by have:=Fl r;rw [YW];split<;>simp<;>omega
section
variable {f:Z5->Z5} (hop:∀s,(f s).op=s.op) (hin:∀s,(f s).into=s.into) (har:∀s,(f s).args=s.args)
include hop
theorem Mm:∀xs:List Z5,YW (xs.map f)=YW xs
 | []=>rfl
 | s::r=>by rw [T9,YW,YW,hop,Mm r]
include har
theorem NQ {op x:Int}:∀(xs:List Z5) (k:Int),Wb op x (xs.map f) k=Wb op x xs k
 | [],_=>rfl
 | s::r,k=>by rw [T9,Wb,Wb,hop,har,NQ r]
theorem Zdt (xs:List Z5) (x:Int):Vx (xs.map f) x=Vx xs x:=by rw [Vx,Mm hop,<-List.map_take,NQ hop har,Vx]
include hin
theorem O9 {many:Nat}:∀(xs:List Z5) (k:Int),Wz many (xs.map f) k=Wz many xs k
 | [],_=>rfl
 | s::r,k=>by
  have e:KD many (f s)↔KD many s:=by rw [KD,KD,hop,hin,har]
  rw [T9,Wz,Wz,O9 r]
  by_cases h:KD many s
  ·rw [Zh h,Zh (e.2 h)]
  ·rw [Zb h,Zb (fun z=>h (e.1 z))]
theorem Z4x (xs:List Z5) (many:Nat):WF (xs.map f) many=WF xs many:=by rw [WF,Mm hop,<-List.map_drop,O9 hop hin har,WF]
end
theorem NP {op x:Int}:∀{xs:List Z5} {k:Int},¬Wb op x xs k<0->0<=k->k<=Wb op x xs k/\Wb op x xs k<k+xs.length/\∃s,xs[(Wb op x xs k-k).toNat]? = some s/\s.op=op/\gI s.args 0=x
 | [],k,h,_=>by simp [Wb] at h
 | s::r,k,h,hk=>by
  rw [Wb] at h ⊢
  split
  ·rename_i q
   refine ⟨Int.le_refl _,by rw [Yp];omega,s,?_,q⟩
   rw [Int.sub_self];rfl
  ·rename_i q
   rw [Zb q] at h
   obtain ⟨h1,h2,t,h3,h4⟩:=NP (xs:=r) (k:=k+1) h om
   refine ⟨by omega,by rw [Yp];omega,t,?_,h4⟩
   rw [show (Wb op x r (k+1)-k).toNat=(Wb op x r (k+1)-(k+1)).toNat+1 by omega,List.getElem?_cons_succ]
   exact h3
theorem O8 {many:Nat}:∀{xs:List Z5} {k:Int},¬Wz many xs k<0->0<=k->k<=Wz many xs k/\Wz many xs k<k+xs.length/\∃s,xs[(Wz many xs k-k).toNat]? = some s/\KD many s
 | [],k,h,_=>by simp [Wz] at h
 | s::r,k,h,hk=>by
  rw [Wz] at h ⊢
  split
  ·rename_i q
   refine ⟨Int.le_refl _,by rw [Yp];omega,s,?_,q⟩
   rw [Int.sub_self];rfl
  ·rename_i q
   rw [Zb q] at h
   obtain ⟨h1,h2,t,h3,h4⟩:=O8 (xs:=r) (k:=k+1) h om
   refine ⟨by omega,by rw [Yp];omega,t,?_,h4⟩
   rw [show (Wz many r (k+1)-k).toNat=(Wz many r (k+1)-(k+1)).toNat+1 by omega,List.getElem?_cons_succ]
   exact h3
theorem Ec {xs:List Z5} {x:Int} (h:¬Vx xs x<0):0<=Vx xs x/\Vx xs x<YW xs/\∃s,xs[(Vx xs x).toNat]? = some s/\s.op=16/\gI s.args 0=x:=by
 obtain ⟨h1,h2,s,h3,h4⟩:=NP h (Int.le_refl 0)
 have hl:=Fl xs
 rw [XW,VG hl] at h2
 have h2':Vx xs x<YW xs:=by unfold Vx;omega
 have h1':0<=Vx xs x:=h1
 refine ⟨h1',h2',s,?_,h4⟩
 rw [Int.sub_zero] at h3
 have h5:(Vx xs x).toNat<YW xs:=by omega
 rwa [show Wb 16 x (xs.take (YW xs)) 0=Vx xs x from rfl,List.getElem?_take_of_lt h5] at h3
theorem Ao {xs:List Z5} {many:Nat} (h:¬WF xs many<0):(YW xs:Int)<=WF xs many/\WF xs many<xs.length/\∃s,xs[(WF xs many).toNat]? = some s/\KD many s/\BU xs (WF xs many)=s:=by
 obtain ⟨h1,h2,s,h3,h4⟩:=O8 h om
 have hl:=Fl xs
 rw [Bz] at h2
 have h1':(YW xs:Int)<=WF xs many:=h1
 have h2':WF xs many<xs.length:=by unfold WF;omega
 rw [Iw,show Wz many (xs.drop (YW xs)) (YW xs)=WF xs many from rfl,show YW xs+(WF xs many-(YW xs:Int)).toNat=(WF xs many).toNat by omega] at h3
 exact ⟨h1',h2',s,h3,h4,by rw [BU,h3];rfl⟩
theorem Zel {f:Z5->Z5} (hop:∀s,(f s).op=s.op) (hin:∀s,(f s).into=s.into) (har:∀s,(f s).args=s.args) (hc:∀x,f (Zv 17 x)=Zv 17 x) (hi:∀v s,f (Qt v s)=Qt v (f s)) (xs:List Z5) (x:Int) (many:Nat) :
  VN (xs.map f) x many=(VN xs x many).map f:=by
 rw [VN,Zdt hop har,Z4x hop hin har,VN]
 split
 ·rfl
 ·rename_i hq
  obtain ⟨_,_,s,h3,_,h5⟩:=Ao (fun z=>hq (.inr z))
  have e:BU (xs.map f) (WF xs many)=f (BU xs (WF xs many)):=by rw [BU,J2,h3,h5];rfl
  rw [e,List.map_set,List.map_set,hc,hi]
theorem Z0g {ds:List Zc} {K:LI} {b:Z8} {x:Int} {many:Nat}:Wv ds K (VS b x many)=VS (Wv ds K b) x many:=by
 rw [VS,Wv,VS,HY,HZ,HZ]
 show Z8.mk _ _=Z8.mk (VN (b.steps.map (Tq ds K)) x many) b.result
 rw [Zel (f:=Tq ds K) (fun s=>by rw [AJ];rfl) (fun s=>by rw [AJ];rfl) (fun s=>by rw [AJ];rfl) (fun x=>by rw [AJ];rfl) (fun v s=>by rw [AJ,AJ];rfl)]
structure CB (c:LI) (q:Int):Prop where
 len:c.length=4
 bd:∀x∈c,0<=x/\x<=q
mutual
def Dc:Z5->Prop
 | .mk op _ _ _ kids=>op≠17/\C2 kids
def C2:List Z8->Prop
 | []=>True
 | b::r=>Ki b/\C2 r
def C3:List Z5->Prop
 | []=>True
 | s::r=>Dc s/\C3 r
def Ki:Z8->Prop
 | .mk steps _=>C3 steps
end
theorem E7 (s:Z5):Dc s↔s.op≠17/\C2 s.kids:=by cases s;rw [Dc];rfl
theorem Fp (b:Z8):Ki b↔C3 b.steps:=by cases b;rw [Ki];rfl
theorem Fq:∀{xs:List Z5},C3 xs↔∀s∈xs,Dc s
 | []=>by simp [C3]
 | s::r=>by rw [C3,Fq];simp
theorem HE:∀{xs:List Z8},C2 xs↔∀s∈xs,Ki s
 | []=>by simp [C2]
 | s::r=>by rw [C2,HE];simp
theorem N9:∀{xs:List Z5} {i:Nat} {s:Z5} (t:Z5),xs[i]? = some s->Yu (xs.set i t)+s.sz=Yu xs+t.sz
 | [],_,_,_,h=>by simp at h
 | x::r,0,s,t,h=>by simp at h;subst h;rw [List.set_cons_zero,Yu,Yu];omega
 | x::r,i+1,s,t,h=>by
  have:=N9 (xs:=r) (i:=i) t (by simpa using h)
  rw [List.set_cons_succ,Yu,Yu];omega
theorem Zbp (v:Int) (s:Z5):(Qt v s).sz=s.sz:=by cases s;rw [Qt,Z5.sz,Z5.sz];rfl
theorem Oc {xs:List Z5} {x:Int} {many:Nat} (h:¬(Vx xs x<0∨WF xs many<0)):(Vx xs x).toNat<(WF xs many).toNat:=by
 obtain ⟨h1,h2,_⟩:=Ec (fun z=>h (.inl z))
 obtain ⟨h3,h4,_⟩:=Ao (fun z=>h (.inr z))
 omega
theorem FE {xs:List Z5} {x:Int} {many:Nat} (h:¬(Vx xs x<0∨WF xs many<0)) {t:Z5} {s:Z5} (hs:xs[(WF xs many).toNat]? = some s):(xs.set (Vx xs x).toNat t)[(WF xs many).toNat]? = some s:=by
 have:=Oc h
 rw [List.getElem?_set_ne om];exact hs
theorem SX {xs:List Z5} {x:Int} {many:Nat} (h:∀s∈xs,YO s.op=true->2<=s.sz):Yu (VN xs x many)<=Yu xs:=by
 rw [VN]
 split
 ·exact X5 _
 ·rename_i hq
  obtain ⟨_,_,s,h3,h4,_⟩:=Ec (fun z=>hq (.inl z))
  obtain ⟨_,_,t,h5,_,h6⟩:=Ao (fun z=>hq (.inr z))
  have e1:=N9 (Zv 17 x) h3
  have e2:=N9 (Qt (1+x) (BU xs (WF xs many))) (FE hq (t:=Zv 17 x) h5)
  have h7:=h s (Y4 h3) (by rw [h4];rfl)
  rw [Gy] at e1
  rw [Zbp,h6] at e2
  rw [h6]
  omega
section
variable {ds:List Zc}
theorem Zj6 {v:Int} {s:Z5} (h:wS ds s) (h6:s.op=6):wS ds (Qt v s):=by
 obtain ⟨h1,h2,h3,h4⟩:=(A6 s).1 h
 exact (A6 _).2 ⟨h1,fun hc=>absurd hc (by show ¬YO s.op=true;rw [h6];decide),h3,h4⟩
theorem Zj3 {v:Int}:wS ds (Zv 17 v):=(A6 _).2 ⟨rfl,fun _=>⟨rfl,rfl,rfl,v,rfl⟩,fun e=>absurd e (show (17:Int)≠8 by decide),True.intro⟩
theorem Zj2 {xs:List Z5} {x:Int} {many:Nat} (h:QW ds xs):QW ds (VN xs x many):=by
 rw [VN]
 split
 ·exact h
 ·rename_i hq
  obtain ⟨_,_,t,h5,h7,h6⟩:=Ao (fun z=>hq (.inr z))
  rw [Bx]
  intro s hs
  rcases List.mem_or_eq_of_mem_set hs with hs|rfl
  ·rcases List.mem_or_eq_of_mem_set hs with hs|rfl
   ·exact Bx.1 h s hs
   ·exact Zj3
  ·rw [h6];exact Zj6 (Bx.1 h t (Y4 h5)) h7.1.1
theorem Zj1 {b:Z8} {x:Int} {many:Nat} (h:wB ds b):wB ds (VS b x many):=by rw [VS,Jw];exact Zj2 ((Jw b).1 h)
variable (hd:Xs ds)
mutual
theorem Zfa:∀(s:Z5) {K:LI},wS ds s->(Tq ds K s).sz<=s.sz
 | .mk op num into args kids,K,h=>by
  have:=Z0j kids (K:=K) (op:=op) (num:=num) (args:=args) (k:=0) h.2.2.2
  rw [Tq,Z5.sz,Z5.sz];omega
theorem Z0j:∀(bs:List Z8) {K:LI} {op num:Int} {args:LI} {k:Nat},Jx ds bs->YU (VZ ds K op num args bs k)<=YU bs
 | [],_,_,_,_,_,_=>X5 _
 | b::r,K,op,num,args,k,h=>by
  have h2:=Z0j r (K:=K) (op:=op) (num:=num) (args:=args) (k:=k+1) h.2
  have key:∀K2:LI,(VS (Wv ds K2 b) (gI args 0) (WC ds num k).length).sz<=b.sz:=fun K2=>by
   have h1:=MS b (K:=K2) h.1
   have h3:=SX (xs:=(Wv ds K2 b).steps) (x:=gI args 0) (many:=(WC ds num k).length) (by
    rw [HY,HZ]
    intro s hs hc
    obtain ⟨t,ht,rfl⟩:=Xz.1 hs
    rw [AJ] at hc ⊢
    obtain ⟨_,_,a,ha⟩:=It (Bx.1 ((Jw b).1 h.1) t ht) hc
    rw [Z5.sz,ha];simp)
   rw [VS,Z8.sz]
   rw [Z8.sz_eq] at h1
   omega
  rw [VZ,YU,YU]
  split
  ·have:=key (if Vx b.steps (gI args 0)<0∨WF b.steps (WC ds num k).length<0 then K else gI args 0::K)
   omega
  ·have:=MS b (K:=K) h.1
   omega
theorem Z0m:∀(xs:List Z5) {K:LI},QW ds xs->Yu (Ug ds K xs)<=Yu xs
 | [],_,_=>X5 _
 | s::r,K,h=>by
  have h1:=Zfa s (K:=K) h.1
  have h2:=Z0m r (K:=K) h.2
  rw [Ug,Yu,Yu];omega
theorem MS:∀(b:Z8) {K:LI},wB ds b->(Wv ds K b).sz<=b.sz
 | .mk steps result,K,h=>by
  have:=Z0m steps (K:=K) h
  rw [Wv,Z8.sz,Z8.sz];omega
end
end
theorem Mn:∀{xs:List Z5} {i:Nat} {s t:Z5},xs[i]? = some s->YO t.op=YO s.op->YW (xs.set i t)=YW xs
 | [],_,_,_,h,_=>by simp at h
 | x::r,0,s,t,h,e=>by simp at h;subst h;rw [List.set_cons_zero,YW,YW,e]
 | x::r,i+1,s,t,h,e=>by
  rw [List.set_cons_succ,YW,YW,Mn (xs:=r) (i:=i) (by simpa using h) e]
theorem Zce {xs:List Z5} {x:Int} {many:Nat}:YW (VN xs x many)=YW xs:=by
 rw [VN]
 split
 ·rfl
 ·rename_i hq
  obtain ⟨_,_,s,h3,h4,_⟩:=Ec (fun z=>hq (.inl z))
  obtain ⟨_,_,t,h5,_,h6⟩:=Ao (fun z=>hq (.inr z))
  rw [Mn (FE hq (t:=Zv 17 x) h5) (by rw [h6];rfl),Mn h3 (by rw [h4];rfl)]
theorem NS {op x:Int}:∀{xs:List Z5} {k:Int},(∀s∈xs,s.op≠op)->Wb op x xs k=-1
 | [],_,_=>rfl
 | s::r,k,h=>by
  rw [Wb,Zb (fun z=>h s (Xm ..) z.1)]
  exact NS fun t ht=>h t (Xt _ ht)
theorem NT {op x:Int}:∀{xs:List Z5} {k:Int},0<=k->(∃s∈xs,s.op=op/\gI s.args 0=x)->0<=Wb op x xs k
 | [],_,_,h=>by obtain ⟨s,hs,_⟩:=h;cases hs
 | s::r,k,hk,h=>by
  rw [Wb]
  split
  ·exact hk
  ·rename_i q
   obtain ⟨t,ht,h1⟩:=h
   rcases YL.1 ht with rfl|ht
   ·exact absurd h1 q
   ·exact NT om ⟨t,ht,h1⟩
theorem Z2g {xs:List Z5} {x:Int} {many:Nat} (hn:C3 xs):0<=Wb 17 x ((VN xs x many).take (YW (VN xs x many))) 0↔¬(Vx xs x<0∨WF xs many<0):=by
 rw [Zce]
 constructor
 ·intro h hq
  rw [VN,Zh hq,NS (fun s hs=>((E7 s).1 (Fq.1 hn s (QX hs))).1)] at h
  omega
 ·intro hq
  obtain ⟨h1,h2,s,h3,h4,_⟩:=Ec (fun z=>hq (.inl z))
  have hap:=Oc hq
  refine NT (Int.le_refl 0) ⟨Zv 17 x,?_,rfl,rfl⟩
  rw [VN,Zb hq]
  refine Y4 (i:=(Vx xs x).toNat) ?_
  rw [List.getElem?_take_of_lt om,List.getElem?_set_ne om,List.getElem?_set_self (X9.1 h3).1]
def C4 (b:Z8):Prop:=∀s∈b.steps,C2 s.kids
theorem Db {b:Z8} (h:Ki b):C4 b:=fun s hs=>((E7 s).1 (Fq.1 ((Fp b).1 h) s hs)).2
theorem Zd5 {b:Z8} {k j:Nat} {s:Z5} {c:Z8} (h:C4 b) (hs:b.steps[k]? = some s) (hc:s.kids[j]? = some c):Ki c:=HE.1 (h s (Y4 hs)) c (Y4 hc)
theorem S6 {b:Z8} {x:Int} {many:Nat} (h:Ki b):C4 (VS b x many):=by
 intro s hs
 have hs:s∈VN b.steps x many:=hs
 rw [VN] at hs
 split at hs
 ·exact Db h s hs
 ·rename_i hq
  obtain ⟨_,_,t,h5,_,h6⟩:=Ao (fun z=>hq (.inr z))
  rcases List.mem_or_eq_of_mem_set hs with hs|rfl
  ·rcases List.mem_or_eq_of_mem_set hs with hs|rfl
   ·exact Db h s hs
   ·exact True.intro
  ·rw [h6];exact Db h t (Y4 h5)
theorem Zek {ds:List Zc} {b:Z8} {x:Int} {many:Nat} (h:wB ds b):(VS b x many).sz<=b.sz:=by
 have:=SX (xs:=b.steps) (x:=x) (many:=many) fun s hs hc=>by
  have h7:=Iz ((Jw b).1 h) s hs hc
  rw [h7,Gy];omega
 rw [VS,Z8.sz,b.sz_eq];omega
def Cc (ds:List Zc) (r:YE):YE:=⟨r.params,r.lent,r.result,Wv ds [] r.body⟩
def Dh (n:ZG):ZG:=⟨n.decls,n.routines.map (Cc n.decls)⟩
end Go.Abs
section
namespace Go.Abs
theorem Zcc {xs:List Z5} {k:Nat} {s:Z5} {r:Nat} (h:xs[k]? = some s) (hs:YO s.op=true) (ha:k+YW (xs.drop k)=r):k+1+YW (xs.drop (k+1))=r:=by
 rw [Yi h,YW,Zh hs] at ha;omega
theorem Zcd {xs:List Z5} {k:Nat} {s:Z5} {r:Nat} (h:xs[k]? = some s) (hs:¬YO s.op=true) (ha:k+YW (xs.drop k)=r):k=r:=by
 rw [Yi h,YW,Zb hs] at ha;omega
theorem Zcb {xs:List Z5} {k:Nat} {r:Nat} (h:xs.length<=k) (ha:k+YW (xs.drop k)=r):k=r:=by
 rw [Xn h,YW] at ha;omega
theorem Z49 {op x:Int} {xs:List Z5} {k:Nat} {s:Z5} {r:Int} (h:xs[k]? = some s) (hs:s.op=op/\gI s.args 0=x) (ha:Wb op x (xs.drop k) k=r):(k:Int)=r:=by
 rw [Yi h,Wb,Zh hs] at ha;exact ha
theorem NR {op x:Int} {xs:List Z5} {k:Nat} {s:Z5} {r:Int} (h:xs[k]? = some s) (hs:¬(s.op=op/\gI s.args 0=x)) (ha:Wb op x (xs.drop k) k=r):Wb op x (xs.drop (k+1)) ((k+1:Nat):Int)=r:=by
 rw [Yi h,Wb,Zb hs] at ha;rw [<-ha];congr 1
theorem Z48 {op x:Int} {xs:List Z5} {k:Nat} {r:Int} (h:xs.length<=k) (ha:Wb op x (xs.drop k) k=r):-1=r:=by
 rw [Xn h,Wb] at ha;exact ha
theorem Z51 {many:Nat} {xs:List Z5} {k:Nat} {s:Z5} {r:Int} (h:xs[k]? = some s) (hs:KD many s) (ha:Wz many (xs.drop k) k=r):(k:Int)=r:=by
 rw [Yi h,Wz,Zh hs] at ha;exact ha
theorem Z50 {many:Nat} {xs:List Z5} {k:Nat} {s:Z5} {r:Int} (h:xs[k]? = some s) (hs:¬KD many s) (ha:Wz many (xs.drop k) k=r):Wz many (xs.drop (k+1)) ((k+1:Nat):Int)=r:=by
 rw [Yi h,Wz,Zb hs] at ha;rw [<-ha];congr 1
theorem Z4z {many:Nat} {xs:List Z5} {k:Nat} {r:Int} (h:xs.length<=k) (ha:Wz many (xs.drop k) k=r):-1=r:=by
 rw [Xn h,Wz] at ha;exact ha
theorem Zem {xs:List Z5} {x:Int} {many:Nat} (h:Vx xs x<0∨WF xs many<0):VN xs x many=xs:=Zh h
theorem Zen {xs:List Z5} {x:Int} {many:Nat} {s:Z5} (h:¬(Vx xs x<0∨WF xs many<0)) (hs:BU xs (WF xs many)=s):(xs.set (Vx xs x).toNat (Zv 17 x)).set (WF xs many).toNat (Qt (1+x) s)=VN xs x many:=by
 rw [VN,Zb h,hs]
theorem DQ (xs:List Z5):(Z9 (ZU xs)).length=xs.length*5:=by rw [UL _ (XG _)];simp
theorem LN (s:Z5) (r:List Z5):Z9 (ZU (s::r))=Wd s++Z9 (ZU r):=by rw [Ub,Ub];rfl
theorem Z8c {xs:List Z5} {k:Nat} {x:Z5} (h:xs[k]? = some x):Z9 (ZU (xs.take k))++Z9 [X4 x]=Z9 (ZU (xs.take (k+1))):=by
 rw [V4 h,VA,Tk,LN]
 have:Z9 (ZU [])=[]:=by rw [Ub];rfl
 rw [this];rfl
theorem Pq {xs:List Z5} {i:Nat} {s:Z5} (h:xs[i]? = some s):Z9 (ZU xs)=Z9 (ZU (xs.take i))++(Wd s++Z9 (ZU (xs.drop (i+1)))):=by
 have hi:=(X9.1 h).1
 have e:xs=xs.take i++(s::xs.drop (i+1)):=by rw [<-Yi h,TL]
 conv=>lhs;rw [e,VA,Tk,LN]
theorem Pp {xs:List Z5} {i:Nat} {s t:Z5} (h:xs[i]? = some s):(Z9 (ZU xs)).take (i*5)++Wd t++(Z9 (ZU xs)).drop (i*5+(Wd t).length)=Z9 (ZU (xs.set i t)):=by
 have hi:=(X9.1 h).1
 have hl:(Z9 (ZU (xs.take i))).length=i*5:=by rw [DQ,XW,VG om]
 rw [Pq h,FG (xs:=Wd s) (ys:=Wd t) hl rfl]
 have e:xs.set i t=xs.take i++(t::xs.drop (i+1)):=by rw [Ga,Zh hi]
 rw [e,VA,Tk,LN]
theorem Z8b {xs:List Z5} {i:Nat} {s:Z5} (h:xs[i]? = some s):((Z9 (ZU xs)).drop (i*5)).take (Wd s).length=Wd s:=by
 have hi:=(X9.1 h).1
 have hl:(Z9 (ZU (xs.take i))).length=i*5:=by rw [DQ,XW,VG om]
 rw [Pq h]
 exact HV hl
structure J5 (xs:LI) (v:Int) (k:Nat) (acc:LI) (d:Bool):Prop where
 len:acc.length<=k+(if d=true then 1 else 0)
 sub:∀z∈acc,z∈xs.take k∨z=v
 all:∀z∈xs.take k,z∈acc
 done:d=true->v∈acc
theorem J5.zero (xs:LI) (v:Int):J5 xs v 0 [] false:=⟨by simp,by simp,by simp,by simp⟩
theorem J5.step {xs:LI} {v:Int} {k:Nat} {acc:LI} {d:Bool} {x:Int} (h:J5 xs v k acc d) (hx:xs[k]? = some x) {acc2:LI} {d2:Bool}
  (hc:(acc2=acc++[x]/\d2=d)∨(acc2=(acc++[v])++[x]/\d2=true/\¬d=true)∨(acc2=acc++[x]/\d2=true/\x=v)):J5 xs v (k+1) acc2 d2:=by
 obtain ⟨h1,h2,h3,h4⟩:=h
 have ht:∀z,z∈xs.take (k+1)↔z∈xs.take k∨z=x:=fun z=>by rw [V4 hx];simp
 rcases hc with ⟨rfl,rfl⟩|⟨rfl,rfl,hd⟩|⟨rfl,rfl,rfl⟩
 ·refine ⟨by simp;omega,fun z hz=>?_,fun z hz=>?_,fun q=>List.mem_append_left _ (h4 q)⟩
  ·rw [ht]
   rcases Xf.1 hz with hz|hz
   ·rcases h2 z hz with q|q
    ·exact .inl (.inl q)
    ·exact .inr q
   ·exact .inl (.inr (XE.1 hz))
  ·rcases (ht z).1 hz with q|q
   ·exact List.mem_append_left _ (h3 z q)
   ·subst q;simp
 ·rw [Zb hd] at h1
  refine ⟨by simp;omega,fun z hz=>?_,fun z hz=>?_,fun _=>by simp⟩
  ·rw [ht]
   simp only [Xf,XE] at hz
   rcases hz with (hz|hz)|hz
   ·rcases h2 z hz with q|q
    ·exact .inl (.inl q)
    ·exact .inr q
   ·exact .inr hz
   ·exact .inl (.inr hz)
  ·rcases (ht z).1 hz with q|q
   ·exact List.mem_append_left _ (List.mem_append_left _ (h3 z q))
   ·subst q;simp
 ·refine ⟨by simp;split at h1<;>omega,fun z hz=>?_,fun z hz=>?_,fun _=>by simp⟩
  ·rw [ht]
   rcases Xf.1 hz with hz|hz
   ·rcases h2 z hz with q|q
    ·exact .inl (.inl q)
    ·exact .inr q
   ·exact .inl (.inr (XE.1 hz))
  ·rcases (ht z).1 hz with q|q
   ·exact List.mem_append_left _ (h3 z q)
   ·subst q;simp
theorem J5.fin {xs:LI} {v:Int} {k:Nat} {acc:LI} {d:Bool} (h:J5 xs v k acc d) (hk:k=xs.length) :
  (d=true->acc.length<=xs.length+1/\∀z,z∈acc↔z∈xs∨z=v)/\(¬d=true->(acc++[v]).length<=xs.length+1/\∀z,z∈acc++[v]↔z∈xs∨z=v):=by
 obtain ⟨h1,h2,h3,h4⟩:=h
 subst hk
 rw [UA] at h2 h3
 refine ⟨fun hd=>?_,fun hd=>?_⟩
 ·rw [Zh hd] at h1
  exact ⟨h1,fun z=>⟨h2 z,fun q=>q.elim (h3 z) fun e=>e▸h4 hd⟩⟩
 ·rw [Zb hd] at h1
  refine ⟨by simp;omega,fun z=>?_⟩
  rw [Xf,XE]
  exact ⟨fun q=>q.elim (h2 z) .inr,fun q=>q.elim (fun e=>.inl (h3 z e)) .inr⟩
end Go.Abs
namespace Go.Abs
theorem J5.go {xs:LI} {v:Int} {k:Nat} {acc:LI} {d:Bool} {x:Int} (h:J5 xs v k acc d) (hx:xs[k]? = some x) {acc2:LI} {d2:Bool}
  (hc:(acc2=acc/\d2=d)∨(acc2=acc++[v]/\d2=true/\¬d=true)∨(acc2=acc/\d2=true/\x=v)):J5 xs v (k+1) (acc2++[x]) d2:=by
 refine h.step hx ?_
 rcases hc with ⟨e1,e2⟩|⟨e1,e2,e3⟩|⟨e1,e2,e3⟩
 ·exact .inl ⟨by rw [e1],e2⟩
 ·exact .inr (.inl ⟨by rw [e1],e2,e3⟩)
 ·exact .inr (.inr ⟨by rw [e1],e2,e3⟩)
section
variable {ds:List Zc} {kept K2:LI} {op num x:Int} {args:LI} {j many:Nat} {kd:Z8}
theorem Zf7 (h8:op=8) (hx:gI args 0=x) (hk:¬x∈kept) (hm:(WC ds num j).length=many) (hq:¬(Vx kd.steps x<0∨WF kd.steps many<0)) (hK:∀z,z∈K2↔z∈kept∨z=x):Wv ds K2 (VS kd x many)=Qa ds kept op num args j kd:=by
 subst hx hm
 have e:∀z,z∈K2↔z∈gI args 0::kept:=fun z=>by rw [hK z,YL];exact Or.comm
 rw [Qa,Zh ⟨h8,hk⟩,Hs,Zb hq,Z0g,MR kd e]
theorem Zf8 (h8:op=8) (hx:gI args 0=x) (hk:¬x∈kept) (hm:(WC ds num j).length=many) (hq:Vx kd.steps x<0∨WF kd.steps many<0):Wv ds kept (VS kd x many)=Qa ds kept op num args j kd:=by
 subst hx hm
 rw [Qa,Zh ⟨h8,hk⟩,Hs,Zh hq,Z0g]
theorem Z0h (h:¬(op=8/\¬gI args 0∈kept)):Wv ds kept kd=Qa ds kept op num args j kd:=by rw [Qa,Zb h]
end
end Go.Abs
namespace Go.Abs
theorem Gt:∀{xs:List Z8} {k:Nat} {b:Z8},xs[k]? = some b->YU (xs.take k)+b.sz<=YU xs
 | [],_,_,h=>by simp at h
 | x::r,0,b,h=>by simp at h;subst h;simp [YU]
 | x::r,k+1,b,h=>by
  have:=Gt (xs:=r) (k:=k) (by simpa using h)
  rw [AO,YU,YU];omega
theorem IV {xs:List Z8} {k:Nat} (h:xs.length<=k):YU (xs.take k)=YU xs:=by rw [Wg h]
end Go.Abs
end
namespace Go.Abs
theorem Z1v {xs:List Z5} {k:Nat} {s:Z5} (h:xs[k]? = some s):Yu (xs.drop k)=s.sz+Yu (xs.drop (k+1)):=by rw [Yi h,Yu]
theorem Z1w (xs:List Z5) (k:Nat):Yu (xs.drop k)<=Yu xs:=by
 have h:=Yo Yu (TL k xs)
 rw [Qd] at h;omega
theorem Gs {xs:List Z8} {k:Nat} {b:Z8} (h:xs[k]? = some b):YU (xs.take (k+1))=YU (xs.take k)+b.sz:=by rw [V4 h,Gq,YU,YU];rfl
structure CL (ds:List Zc) (nf m:Nat) (xs:List Z5) (d z:Nat):Prop where
 fs:Wc ds nf m xs
 dn:Yr xs=d
 op:Q7 VH xs
 sz:Yu xs<=z
section
variable {ds:List Zc} {nf m d z:Nat} {xs:List Z5}
theorem CL.nil:CL ds nf m [] 0 0:=⟨True.intro,rfl,True.intro,X5 _⟩
theorem CL.len (h:CL ds nf m xs d z):xs.length<=z:=Vm (Jt xs) h.sz
theorem CL.le (h:CL ds nf m xs d z) {z2:Nat} (hz:z<=z2):CL ds nf m xs d z2:=⟨h.fs,h.dn,h.op,Vm h.sz hz⟩
theorem Z6z {op v:Int} (ho:op=14∨op=15) (hv:0<=v/\v<(m:Int)):fS ds nf m (Zv op v):=by
 rw [Zv,fS]
 exact ⟨.inr om,fun a ha=>by rw [XE.1 ha];exact hv,fun _=>⟨rfl,rfl,rfl,v,rfl⟩,fun h=>by omega,fun h=>by omega,fun h=>by omega,fun h=>by omega,by omega,by omega,by simp,fun _=>rfl,True.intro⟩
theorem Oh {op:Int} (ho:op=14∨op=15):YO op=true:=by simp [YO];omega
theorem CL.cnt (h:CL ds nf m xs d z) {op v:Int} (ho:op=14∨op=15) (hv:0<=v/\v<((m+d:Nat):Int)):CL ds nf m (xs++[Zv op v]) d (z+2):=by
 have hc:YO (Zv op v).op=true:=Oh ho
 refine ⟨GT h.fs (by rw [h.dn];exact Z6z ho hv),?_,HK h.op ?_,?_⟩
 ·rw [Td,h.dn,Yr,Zh hc];rfl
 ·rw [Fv];exact ⟨by show op<=15;omega,True.intro⟩
 ·have:=h.sz
  have e:(Zv op v).sz=2:=rfl
  rw [Qd,Yu,e,Yu];omega
theorem CL.cnts {op:Int} (ho:op=14∨op=15):∀{vs:LI} {xs:List Z5} {z:Nat},CL ds nf m xs d z->(∀v∈vs,0<=v/\v<((m+d:Nat):Int))->CL ds nf m (xs++vs.map (Zv op)) d (z+2*vs.length)
 | [],xs,z,h,_=>by simpa using h
 | v::r,xs,z,h,hv=>by
  have h1:=CL.cnts ho (vs:=r) (h.cnt ho (hv v (Xm ..))) fun x hx=>hv x (Xt _ hx)
  rw [T9,show xs++Zv op v::r.map (Zv op)=xs++[Zv op v]++r.map (Zv op) by simp]
  exact h1.le (by rw [Yp];omega)
theorem CL.one (h:CL ds nf m xs d z) {s:Z5} (hs:fS ds nf (m+d) s) (hc:YO s.op=false) (ho:Kk VH s):CL ds nf m (xs++[s]) (d+1) (z+s.sz):=by
 refine ⟨GT h.fs (by rw [h.dn];exact hs),by rw [EN hc,h.dn],HK h.op ho,?_⟩
 have:=h.sz
 rw [Qd,Yu,Yu];omega
theorem CL.app (h:CL ds nf m xs d z) {ys:List Z5} {d2 z2:Nat} (h2:CL ds nf (m+d) ys d2 z2):CL ds nf m (xs++ys) (d+d2) (z+z2):=by
 refine ⟨Ay.2 ⟨h.fs,by rw [h.dn];exact h2.fs⟩,by rw [Td,h.dn,h2.dn],HJ.2 ⟨h.op,h2.op⟩,?_⟩
 have:=h.sz
 have:=h2.sz
 rw [Qd];omega
end
structure KB (ds:List Zc) (nf m:Nat) (b:Z8) (z:Nat):Prop where
 fb:fB ds nf m b
 op:Vw VH b
 sz:b.sz<=z
section
variable {ds:List Zc} {nf m d z:Nat} {xs:List Z5}
theorem CL.block (h:CL ds nf m xs d z) {r:Int} (hr:0<=r/\r<((m+d:Nat):Int)):KB ds nf m ⟨xs,r⟩ (1+z):=by
 refine ⟨by rw [fB,h.dn];exact ⟨h.fs,hr⟩,by rw [Vw];exact h.op,?_⟩
 have:=h.sz
 rw [Z8.sz];omega
theorem KB.le {b:Z8} (h:KB ds nf m b z) {z2:Nat} (hz:z<=z2):KB ds nf m b z2:=⟨h.fb,h.op,Vm h.sz hz⟩
theorem KB.cl {b:Z8} (h:KB ds nf m b z):CL ds nf m b.steps (Yr b.steps) (z-1)/\0<=b.result/\b.result<((m+Yr b.steps:Nat):Int):=by
 obtain ⟨h1,h2⟩:=(Jf b).1 h.fb
 refine ⟨⟨h1,rfl,(HI b).1 h.op,?_⟩,h2⟩
 have:=h.sz
 have:=b.sz_eq
 omega
theorem KB.put {b:Z8} (h:KB ds nf m b z) {as1 bs:LI} (ha:∀v∈as1,0<=v/\v<(m:Int)) (hb:∀v∈bs,0<=v/\v<(m:Int)):KB ds nf m ⟨as1.map (Zv 14)++bs.map (Zv 15)++b.steps,b.result⟩ (z+2*as1.length+2*bs.length):=by
 obtain ⟨h1,h2⟩:=h.cl
 have q1:CL ds nf m ([]++as1.map (Zv 14)) 0 (0+2*as1.length):=CL.nil.cnts (.inl rfl) ha
 have q2:=(q1.cnts (op:=15) (.inr rfl) hb).app h1
 have:=h.sz
 have:=b.sz_eq
 rw [A9,Wf] at q2
 exact (q2.block h2).le om
end
structure KK (ds:List Zc) (nf:Nat) (sc:Nat->Nat) (ks:List Z8) (z:Nat):Prop where
 fb:Uc ds nf sc 0 ks
 op:Kj VH ks
 sz:YU ks<=z
section
variable {ds:List Zc} {nf m z:Nat} {sc:Nat->Nat}
theorem KK.nil:KK ds nf sc [] 0:=⟨True.intro,True.intro,X5 _⟩
theorem KK.snoc {ks:List Z8} {b:Z8} {j z2:Nat} (h:KK ds nf sc ks z) (hj:ks.length=j) (hb:KB ds nf (sc j) b z2):KK ds nf sc (ks++[b]) (z+z2):=by
 refine ⟨P0 h.fb (by rw [hj];exact hb.fb),Sb h.op hb.op,?_⟩
 have:=h.sz
 have:=hb.sz
 rw [Gq];simp only [YU];omega
theorem KK.le {ks:List Z8} (h:KK ds nf sc ks z) {z2:Nat} (hz:z<=z2):KK ds nf sc ks z2:=⟨h.fb,h.op,Vm h.sz hz⟩
theorem P2 {s:Z5} {ks:List Z8} {into:Int} (h:FS ds nf m s) (h11:s.op<=11) (hl:ks.length=s.kids.length) (hi:0<=into/\into<=m) (hk:KK ds nf (V3 ds s.op s.num m) ks z):fS ds nf m ⟨s.op,s.num,into,s.args,ks⟩/\Kk VH ⟨s.op,s.num,into,s.args,ks⟩/\(Z5.mk s.op s.num into s.args ks).sz<=5+z:=by
 refine ⟨?_,?_,?_⟩
 ·rw [fS]
  refine ⟨h.op,h.args,fun q=>by omega,fun q=>by rw [hl];exact h.k7 q,fun q=>by rw [hl];exact h.k8 q,h.one,h.call,h.num,hi,h.alen,fun q=>?_,hk.fb⟩
  have:=h.kn q
  rw [this] at hl
  exact List.eq_nil_of_length_eq_zero hl
 ·rw [Kk];exact ⟨by show s.op<=15;omega,hk.op⟩
 ·have:=h.alen
  have:=hk.sz
  rw [Z5.sz];omega
end
structure KT (ds:List Zc) (nf m:Nat) (st:Z5) (z:Nat):Prop where
 fs:fS ds nf m st
 cb:YO st.op=false
 op:Kk VH st
 sz:st.sz<=z
theorem KT.of {ds:List Zc} {nf m z:Nat} {s:Z5} {ks:List Z8} {into:Int} (h:FS ds nf m s) (h11:s.op<=11) (hl:ks.length=s.kids.length) (hi:0<=into/\into<=m) (hk:KK ds nf (V3 ds s.op s.num m) ks z):KT ds nf m ⟨s.op,s.num,into,s.args,ks⟩ (5+z):=by
 obtain ⟨h1,h2,h3⟩:=P2 h h11 hl hi hk
 exact ⟨h1,by show YO s.op=false;simp [YO];omega,h2,h3⟩
theorem CL.kt {ds:List Zc} {nf m d z z2:Nat} {xs:List Z5} {st:Z5} (h:CL ds nf m xs d z) (hs:KT ds nf (m+d) st z2):CL ds nf m (xs++[st]) (d+1) (z+z2):=(h.one hs.fs hs.cb hs.op).le (by have:=hs.sz;omega)
theorem FS.few {ds:List Zc} {nf m:Nat} {s:Z5} (h:FS ds nf m s) (hd:Xs ds):s.kids.length<=3:=by
 by_cases h7:s.op=7
 ·have:=h.k7 h7;omega
 ·by_cases h8:s.op=8
  ·have:=h.k8 h8
   have:=E8 hd s.num
   omega
  ·rw [h.kn ⟨h7,h8⟩];simp
theorem RF.lend {ds:List Zc} {nf q:Nat} {p:Int->Prop} {r:YE} {l:LI} (h:RF ds nf q p r) (h1:l.length<=3) (h2:∀v∈l,0<=v/\v<(r.params.length:Int)):RF ds nf q p ⟨r.params,l,r.result,r.body⟩:=⟨h.sig,⟨h1,h2⟩,h.body,h.op⟩
theorem RF.with {ds:List Zc} {nf q q2:Nat} {p p2:Int->Prop} {r:YE} {b:Z8} (h:RF ds nf q p r) (h1:fB ds nf r.params.length b) (h2:b.sz<=q2) (h3:Vw p2 b):RF ds nf q2 p2 ⟨r.params,r.lent,r.result,b⟩:=⟨h.sig,h.lent,⟨h1,h2⟩,h3⟩
theorem Z8.eta (b:Z8):Z8.mk b.steps b.result=b:=by cases b;rfl
theorem LC.at {n:ZG} {k:Nat} {xs:List LI} {i:Nat} {l:LI} {r:YE} (h:LC n k xs) (hl:xs[i]? = some l) (hr:n.routines[i]? = some r):l.length<=3/\∀v∈l,0<=v/\v<(r.params.length:Int):=⟨(h.ok i l hl).1,(h.ok i l hl).2 r hr⟩
theorem Lf:∀{xs:List Z5},(∀s∈xs,Kk WS s)->∀k,k<=xs.length->Yr (xs.take k)=k
 | _,_,0,_=>rfl
 | [],_,k+1,h=>absurd h (by simp)
 | x::r,h,k+1,hk=>by
  have h1:=((Fv x).1 (h x (Xm ..))).1
  have hc:YO x.op=false:=by have:x.op<=11:=h1;simp [YO];omega
  rw [AO,Yr,Zb (by rw [hc];simp),Lf (fun s hs=>h s (Xt _ hs)) k (by simpa using hk)]
  omega
theorem KB.put1 {ds:List Zc} {nf m z:Nat} {b:Z8} (h:KB ds nf m b z) {op:Int} (ho:op=14∨op=15) {as1:LI} (ha:∀v∈as1,0<=v/\v<(m:Int)):KB ds nf m ⟨as1.map (Zv op)++b.steps,b.result⟩ (z+2*as1.length):=by
 obtain ⟨h1,h2⟩:=h.cl
 have q1:CL ds nf m ([]++as1.map (Zv op)) 0 (0+2*as1.length):=CL.nil.cnts ho ha
 have q2:=q1.app h1
 have:=h.sz
 have:=b.sz_eq
 rw [A9,Wf] at q2
 exact (q2.block h2).le om
theorem FO.fin {n:ZG} {rs:List YE} {q q2:Nat} {p:Int->Prop} (h:FN n q2) (e:rs.length=n.routines.length) (hr:∀r∈rs,RF n.decls n.routines.length q p r):FO ⟨n.decls,rs⟩ q p/\rs.length=n.routines.length:=
 ⟨FO.all h.decls (by show 1<=rs.length/\rs.length<=4;rw [e];exact h.len) (by show ∀r∈rs,RF n.decls rs.length q p r;rw [e];exact hr),e⟩
theorem KT.le {ds:List Zc} {nf m z z2:Nat} {st:Z5} (h:KT ds nf m st z) (hz:z<=z2):KT ds nf m st z2:=⟨h.fs,h.cb,h.op,Vm h.sz hz⟩
theorem KB.len {ds:List Zc} {nf m z:Nat} {b:Z8} (h:KB ds nf m b z):b.steps.length<=z:=by
 have:=h.sz
 have:=b.sz_eq
 have:=Jt b.steps
 omega
def VQ:List Z5->Int->Nat
 | [],_=>0
 | s::r,v=>(if gI s.args 0=v then 1 else 0)+VQ r v
def VD (rn:List Z5):LI->Nat
 | []=>0
 | v::r=>VQ rn v+VD rn r
theorem L6:∀(xs ys:List Z5) (v:Int),VQ (xs++ys) v=VQ xs v+VQ ys v
 | [],ys,v=>by simp [VQ]
 | x::r,ys,v=>by rw [J1,VQ,VQ,L6 r];omega
theorem Z4v {xs:List Z5} {k:Nat} {s:Z5} (h:xs[k]? = some s) (v:Int):VQ (xs.take (k+1)) v=VQ (xs.take k) v+(if gI s.args 0=v then 1 else 0):=by
 rw [V4 h,L6,VQ,VQ];omega
theorem O6:∀(xs:List Z5) (v:Int),VQ xs v<=xs.length
 | [],v=>X5 _
 | x::r,v=>by have:=O6 r v;rw [VQ,Yp];split<;>omega
theorem Z4w (xs:List Z5) (k:Nat) (v:Int):VQ (xs.take k) v<=VQ xs v:=by
 have h:=Yo (VQ · v) (TL k xs)
 simp only [L6] at h;omega
theorem Nb (rn:List Z5):∀xs ys:LI,VD rn (xs++ys)=VD rn xs+VD rn ys
 | [],ys=>by simp [VD]
 | x::r,ys=>by rw [J1,VD,VD,Nb rn r];omega
theorem Zi1 {rn:List Z5} {xs:LI} {k:Nat} {v:Int} (h:xs[k]? = some v):VD rn (xs.take (k+1))=VD rn (xs.take k)+VQ rn v:=by
 rw [V4 h,Nb,VD,VD];rfl
theorem Z25 (s:Z5) (r:List Z5):∀vs:LI,Cq vs->VD (s::r) vs<=1+VD r vs/\(¬gI s.args 0∈vs->VD (s::r) vs=VD r vs)
 | [],_=>by simp [VD]
 | v::vs,h=>by
  obtain ⟨h1,h2⟩:=WY.1 h
  obtain ⟨q1,q2⟩:=Z25 s r vs h2
  rw [VD,VD,VQ]
  by_cases e:gI s.args 0=v
  ·have hn:¬gI s.args 0∈vs:=fun z=>by have:=h1 _ z;omega
   rw [Zh e,q2 hn]
   exact ⟨by omega,fun z=>absurd (YL.2 (.inl e)) z⟩
  ·rw [Zb e]
   exact ⟨by omega,fun z=>by rw [q2 fun y=>z (Xt _ y)];omega⟩
theorem Z26:∀(rn:List Z5) {vs:LI},Cq vs->VD rn vs<=rn.length
 | [],vs,_=>by
  have:∀xs:LI,VD [] xs=0:=fun xs=>by
   induction xs with
   | nil=>rfl
   | cons x r ih=>rw [VD,ih];rfl
  rw [this];exact QB _
 | s::r,vs,h=>by
  have h1:=(Z25 s r vs h).1
  have h2:=Z26 r h
  rw [Yp];omega
theorem Nc (rn:List Z5) (xs:LI) (k:Nat):VD rn (xs.take k)<=VD rn xs:=by
 have h:=Yo (VD rn) (TL k xs)
 rw [Nb] at h;omega
def Nz (m:Nat) (rn:List Z5):Prop:=∀s∈rn,∃a,s.args=[a]/\0<=a/\a<(m:Int)
theorem Om {xs:List Z5} {k:Nat} {s:Z5} (h:xs[k]? = some s):Yr (xs.take (k+1))=Yr (xs.take k)+(if YO s.op=true then 0 else 1):=by rw [V4 h,Td,Yr,Yr];rfl
theorem KT.eq {ds:List Zc} {nf m z:Nat} {s:Z5} {ks:List Z8} (h:FS ds nf m s) (h11:s.op<=11) (hl:ks.length=s.kids.length) (hk:KK ds nf (V3 ds s.op s.num m) ks z):KT ds nf m ⟨s.op,s.num,s.into,s.args,ks⟩ (1+s.args.length+z):=by
 obtain ⟨h1,h2,h3⟩:=P2 h h11 hl h.into hk
 refine ⟨h1,by show YO s.op=false;simp [YO];omega,h2,?_⟩
 have:=hk.sz
 rw [Z5.sz];omega
theorem FS.pair {ds:List Zc} {nf m:Nat} {s:Z5} (h:FS ds nf m s) (hp:s.op=14∨s.op=15):(∃a,s.args=[a]/\0<=a/\a<(m:Int))/\s.sz=2/\YO s.op=true:=by
 obtain ⟨h1,h2,h3,a,h4⟩:=h.cnt om
 have h5:=h.args a (by rw [h4];exact XE.2 rfl)
 refine ⟨⟨a,h4,h5⟩,?_,Oh hp⟩
 rw [s.sz_eq,h3,h4];rfl
theorem FS.not_pair {ds:List Zc} {nf m:Nat} {s:Z5} (h:FS ds nf m s) (hp:¬(s.op=14∨s.op=15)) (h15:VH s.op):s.op<=11/\YO s.op=false:=by
 have h1:s.op<=15:=h15
 have h2:=h.op
 exact ⟨by omega,by simp [YO];omega⟩
theorem CL.run {ds:List Zc} {nf m d z:Nat} {xs:List Z5} {D R:LI} {rn:List Z5} (h:CL ds nf m xs d z) (hr:Nz (m+d) rn) (hD:∀v∈D,∃s∈rn,s.args=[v]) (hR:∀v∈R,∃s∈rn,s.args=[v]):CL ds nf m (xs++(D.map (Zv 14)++R.map (Zv 15))) d (z+2*(D.length+R.length)):=by
 have key:∀(A:LI),(∀v∈A,∃s∈rn,s.args=[v])->∀v∈A,0<=v/\v<((m+d:Nat):Int):=fun A hA v hv=>by
  obtain ⟨s,hs,e⟩:=hA v hv
  obtain ⟨a,e2,e3⟩:=hr s hs
  rw [e] at e2
  cases e2
  exact e3
 have h2:=(h.cnts (op:=14) (.inl rfl) (key D hD)).cnts (op:=15) (.inr rfl) (key R hR)
 rw [<-W0]
 exact h2.le om
def WP (xs:List Z5) (i:Nat) (s:Z5):List Z5:=xs.take i++[s]++xs.drop i
theorem HR {xs:List Z5} (i:Nat) (s:Z5):Yu (WP xs i s)=Yu xs+s.sz:=by
 have h:=Yo Yu (TL i xs)
 rw [Qd] at h
 rw [WP,Qd,Qd,Yu,Yu];omega
theorem Sx {xs:List Z5} {i:Nat} {s:Z5} (h:i<=xs.length):(WP xs i s).length=xs.length+1:=by
 simp [WP,VG h];omega
def Bj (b:Z8) (i j:Nat) (v:Int):Z8:=⟨WP (WP b.steps j (Zv 15 v)) i (Zv 14 v),b.result⟩
def withR (n:ZG) (f:Nat) (rt:YE) (b:Z8):ZG:=⟨n.decls,n.routines.set f ⟨rt.params,rt.lent,rt.result,b⟩⟩
def Gi (n n2:ZG):Prop:=n2=n∨∃f rt i j v,n.routines[f]? = some rt/\i<=j/\j<=rt.body.steps.length/\0<=v/\v<((rt.params.length+Yr (rt.body.steps.take i):Nat):Int)/\n2=withR n f rt (Bj rt.body i j v)
theorem CL.put {ds:List Zc} {nf m:Nat} {xs:List Z5} {d z:Nat} (h:CL ds nf m xs d z) {i:Nat} {op v:Int} (ho:op=14∨op=15) (hv:0<=v/\v<((m+Yr (xs.take i):Nat):Int)):CL ds nf m (WP xs i (Zv op v)) d (z+2):=by
 have hs:=h.fs
 have hp:=h.op
 have e:=TL i xs
 rw [<-e] at hs hp
 rw [Ay] at hs
 rw [HJ] at hp
 have h1:CL ds nf m (xs.take i) (Yr (xs.take i)) (Yu (xs.take i)):=⟨hs.1,rfl,hp.1,X5 _⟩
 have h2:CL ds nf (m+Yr (xs.take i)) (xs.drop i) (Yr (xs.drop i)) (Yu (xs.drop i)):=⟨hs.2,rfl,hp.2,X5 _⟩
 have h3:=(h1.cnt ho hv).app h2
 have e1:=Yo Yu e
 have e2:=Yo Yr e
 rw [Qd] at e1
 rw [Td,h.dn] at e2
 have:=h.sz
 rw [e2] at h3
 exact h3.le om
theorem Sy {xs:List Z5} {i j:Nat} {s:Z5} (h:i<=j) (hj:j<=xs.length):(WP xs j s).take i=xs.take i:=by
 rw [WP,W0,List.take_append_of_le_length (by rw [XW];omega),List.take_take,VG h]
theorem Zai {ds:List Zc} {nf m z:Nat} {b:Z8} (h:KB ds nf m b z) {i j:Nat} {v:Int} (hij:i<=j) (hj:j<=b.steps.length) (hv:0<=v/\v<((m+Yr (b.steps.take i):Nat):Int)):KB ds nf m (Bj b i j v) (z+4):=by
 obtain ⟨h1,h2⟩:=h.cl
 have hm:Yr (b.steps.take i)<=Yr (b.steps.take j):=by
  have e:=Yo Yr (TL i (b.steps.take j))
  rw [Td,List.take_take,VG hij] at e;omega
 have h3:=(h1.put (i:=j) (op:=15) (v:=v) (.inr rfl) om).put (i:=i) (op:=14) (v:=v) (.inl rfl) (by rw [Sy hij hj];exact hv)
 have:=h.sz
 have:=b.sz_eq
 exact (h3.block h2).le om
theorem FO.held {n n2:ZG} {q:Nat} (h:FO n q VH) (hh:Gi n n2):FO n2 (q+4) VH:=by
 rcases hh with rfl|⟨f,rt,i,j,v,h1,h2,h3,h4,h5,rfl⟩
 ·exact ⟨⟨h.fn.decls,h.fn.len,h.fn.sigs,h.fn.lent,fun r hr=>⟨(h.fn.body r hr).1,by have:=(h.fn.body r hr).2;omega⟩⟩,h.op⟩
 ·have hr:=h.rf (Y4 h1)
  have hk:KB n.decls n.routines.length rt.params.length (Bj rt.body i j v) (q+4):=Zai ⟨hr.body.1,hr.op,hr.body.2⟩ h2 h3 ⟨h4,h5⟩
  refine FO.all h.fn.decls (by show 1<=(n.routines.set _ _).length/\(n.routines.set _ _).length<=4;rw [VF];exact h.fn.len) fun r hm=>?_
  show RF n.decls (n.routines.set _ _).length _ _ r
  rw [VF]
  rcases List.mem_or_eq_of_mem_set hm with hm|rfl
  ·have hq:=h.rf hm
   exact ⟨hq.sig,hq.lent,⟨hq.body.1,by have:=hq.body.2;omega⟩,hq.op⟩
  ·exact ⟨hr.sig,hr.lent,⟨hk.fb,hk.sz⟩,hk.op⟩
mutual
def Z5.rb:Z5->Prop
 | .mk _ _ _ _ kids=>Al kids
def Al:List Z8->Prop
 | []=>True
 | b::r=>Z8.rb b/\Al r
def KY:List Z5->Prop
 | []=>True
 | s::r=>Z5.rb s/\KY r
def Z8.rb:Z8->Prop
 | .mk steps result=>KY steps/\-1000000000<=result/\result<=1000000000
end
theorem Z5.rb_eq (s:Z5):s.rb=Al s.kids:=by cases s;rw [Z5.rb];rfl
theorem Z8.rb_eq (b:Z8):b.rb=(KY b.steps/\-1000000000<=b.result/\b.result<=1000000000):=by cases b;rw [Z8.rb];rfl
theorem Eo:∀{xs:List Z5},KY xs↔∀s∈xs,s.rb
 | []=>by simp [KY]
 | s::r=>by rw [KY,Eo];simp
section
variable {ds:List Zc} {nf:Nat}
mutual
theorem Ze5:∀(s:Z5) {m:Nat},fS ds nf m s->m+4*s.sz<=900000000->Xs ds->s.rb
 | .mk op num into args kids,m,h,hb,hd=>by
  rw [fS] at h
  obtain ⟨h1,h2,h3,h4,h5,h6,h7,h8,h9,h10,h11,h12⟩:=h
  rw [Z5.sz] at hb
  rw [Z5.rb]
  refine SD kids h12 (fun k=>?_) hd
  have hf:=Vq hd (gI (ZY ds num) k)
  show V3 ds op num m k+4*YU kids<=900000003
  rw [V3];split<;>omega
theorem SD:∀(bs:List Z8) {sc:Nat->Nat} {k:Nat},Uc ds nf sc k bs->(∀k,sc k+4*YU bs<=900000003)->Xs ds->Al bs
 | [],_,_,_,_,_=>True.intro
 | b::r,sc,k,h,hb,hd=>by
  have hp:=b.sz_eq
  exact ⟨SB b h.1 (by have:=hb k;rw [YU] at this;omega) hd,SD r h.2 (fun j=>by have:=hb j;rw [YU] at this;omega) hd⟩
theorem SF:∀(xs:List Z5) {m:Nat},Wc ds nf m xs->m+4*Yu xs<=900000000->Xs ds->KY xs
 | [],_,_,_,_=>True.intro
 | s::r,m,h,hb,hd=>by
  rw [Yu] at hb
  have hp:=s.sz_pos
  refine ⟨Ze5 s h.1 om hd,SF r h.2 ?_ hd⟩
  split<;>omega
theorem SB:∀(b:Z8) {m:Nat},fB ds nf m b->m+4*b.sz<=900000004->Xs ds->b.rb
 | .mk steps result,m,h,hb,hd=>by
  rw [Z8.sz] at hb
  rw [fB] at h
  rw [Z8.rb]
  have h1:=B5 steps
  have h2:steps.length<=Yu steps:=by
   clear h h1 hb
   induction steps with
   | nil=>simp
   | cons x r ih=>have:=x.sz_pos;rw [Yu,Yp];omega
  exact ⟨SF steps h.1 om hd,by omega,by omega⟩
end
theorem Eg {op v:Int}:(Zv op v).rb:=by rw [Z5.rb_eq];exact True.intro
theorem Ze6 {b:Z8} {x q:Int} {fs:LI} (h:b.rb):(Kz b x fs q).rb:=by
 rw [Z8.rb_eq,Eo] at h
 rw [Z8.rb_eq,Eo]
 refine ⟨fun s hs=>?_,h.2⟩
 have hs:s∈K1 b.steps x fs q:=hs
 rw [K1] at hs
 split at hs
 ·simp only [Xf,Xz,XE] at hs
  rcases hs with ((⟨a,_,rfl⟩|rfl)|⟨a,_,rfl⟩)|hs
  ·exact Eg
  ·exact Eg
  ·exact Eg
  ·exact h.1 s (List.mem_of_mem_drop hs)
 ·exact h.1 s hs
mutual
theorem Ze9:∀(s:Z5) {m:Nat},s.rb->(KW ds m s).rb
 | .mk op num into args kids,m,h=>by
  rw [Z5.rb] at h
  rw [KW,Z5.rb]
  exact SJ kids h
theorem SJ:∀(bs:List Z8) {m:Nat} {op num:Int} {args:LI} {k:Nat},Al bs->Al (US ds m op num args bs k)
 | [],_,_,_,_,_,_=>by rw [US];exact True.intro
 | b::r,m,op,num,args,k,h=>by
  rw [US,Al]
  refine ⟨?_,SJ r h.2⟩
  split
  ·exact Ze6 (ML b h.1)
  ·exact ML b h.1
theorem SK:∀(xs:List Z5) {m:Nat},KY xs->KY (U2 ds m xs)
 | [],_,_=>by rw [U2];exact True.intro
 | s::r,m,h=>by rw [U2,KY];exact ⟨Ze9 s h.1,SK r h.2⟩
theorem ML:∀(b:Z8) {m:Nat},b.rb->(WW ds m b).rb
 | .mk steps result,m,h=>by
  rw [Z8.rb] at h
  rw [WW,Z8.rb]
  exact ⟨SK steps h.1,h.2⟩
end
theorem Ze7 {b:Z8} {x:Int} {many:Nat} (h:b.rb):(VS b x many).rb:=by
 rw [Z8.rb_eq] at h
 rw [VS,Z8.rb_eq]
 refine ⟨?_,h.2⟩
 show KY (VN b.steps x many)
 rw [VN]
 split
 ·exact h.1
 ·rename_i hq
  obtain ⟨_,_,t,h5,h7,h6⟩:=Ao (fun z=>hq (.inr z))
  have h:=h.1
  rw [Eo] at h ⊢
  intro s hs
  rcases List.mem_or_eq_of_mem_set hs with hs|rfl
  ·rcases List.mem_or_eq_of_mem_set hs with hs|rfl
   ·exact h s hs
   ·exact Eg
  ·have:=h t (Y4 h5)
   rw [h6,Qt,Z5.rb_eq]
   rw [Z5.rb_eq] at this
   exact this
mutual
theorem Ze8:∀(s:Z5) {K:LI},s.rb->(Tq ds K s).rb
 | .mk op num into args kids,K,h=>by
  rw [Z5.rb] at h
  rw [Tq,Z5.rb]
  exact SG kids h
theorem SG:∀(bs:List Z8) {K:LI} {op num:Int} {args:LI} {k:Nat},Al bs->Al (VZ ds K op num args bs k)
 | [],_,_,_,_,_,_=>True.intro
 | b::r,K,op,num,args,k,h=>by
  rw [VZ,Al]
  refine ⟨?_,SG r h.2⟩
  split
  ·exact Ze7 (MK b h.1)
  ·exact MK b h.1
theorem SH:∀(xs:List Z5) {K:LI},KY xs->KY (Ug ds K xs)
 | [],_,_=>True.intro
 | s::r,K,h=>⟨Ze8 s h.1,SH r h.2⟩
theorem MK:∀(b:Z8) {K:LI},b.rb->(Wv ds K b).rb
 | .mk steps result,K,h=>by
  rw [Z8.rb] at h
  rw [Wv,Z8.rb]
  exact ⟨SH steps h.1,h.2⟩
end
end
structure Wl (ds:List Zc) (b:Z8):Prop where
 w:wB ds b
 nr:Ki b
 rng:b.rng
structure TY (ds:List Zc) (s:Z5):Prop where
 w:wS ds s
 nr:Dc s
 rng:s.rng
section
variable {ds:List Zc}
theorem Ep:∀{xs:List Z5},AL xs↔∀s∈xs,s.rng
 | []=>by simp [AL]
 | s::r=>by rw [AL,Ep];simp
theorem IT:∀{xs:List Z8},Am xs↔∀s∈xs,s.rng
 | []=>by simp [Am]
 | s::r=>by rw [Am,IT];simp
theorem Wl.iff {b:Z8}:Wl ds b↔∀s∈b.steps,TY ds s:=by
 constructor
 ·intro h s hs
  have h3:=h.rng
  rw [Z8.rng_eq] at h3
  exact ⟨Bx.1 ((Jw b).1 h.w) s hs,Fq.1 ((Fp b).1 h.nr) s hs,Ep.1 h3 s hs⟩
 ·intro h
  exact ⟨(Jw b).2 (Bx.2 fun s hs=>(h s hs).w),(Fp b).2 (Fq.2 fun s hs=>(h s hs).nr),by rw [Z8.rng_eq];exact Ep.2 fun s hs=>(h s hs).rng⟩
theorem TY.kid {s:Z5} {b:Z8} (h:TY ds s) (hb:b∈s.kids):Wl ds b:=by
 have h3:=h.rng
 rw [Z5.rng_eq] at h3
 exact ⟨Is.1 ((A6 s).1 h.w).2.2.2 b hb,HE.1 ((E7 s).1 h.nr).2 b hb,IT.1 h3.2 b hb⟩
theorem TY.kids {s:Z5} {ks:List Z8} (h:TY ds s) (hl:ks.length=s.kids.length) (hk:∀b∈ks,Wl ds b):TY ds ⟨s.op,s.num,s.into,s.args,ks⟩:=by
 obtain ⟨h1,h2,h3,h4⟩:=(A6 s).1 h.w
 have h5:=h.rng
 rw [Z5.rng_eq] at h5
 refine ⟨(A6 _).2 ⟨h1,fun hc=>?_,fun h8=>⟨(h3 h8).1,hl.trans (h3 h8).2⟩,Is.2 fun b hb=>(hk b hb).w⟩,(E7 _).2 ⟨((E7 s).1 h.nr).1,HE.2 fun b hb=>(hk b hb).nr⟩,by rw [Z5.rng_eq];exact ⟨h5.1,IT.2 fun b hb=>(hk b hb).rng⟩⟩
 obtain ⟨q1,q2,q3,q4⟩:=h2 hc
 exact ⟨q1,q2,List.eq_nil_of_length_eq_zero (show ks.length=0 by rw [hl,q3];rfl),q4⟩
theorem TY.cnt {op v:Int} (h:op=14∨op=15∨op=16):TY ds (Zv op v):=⟨Zj4 h,(E7 _).2 ⟨by show op≠17;omega,True.intro⟩,by rw [Z5.rng_eq];exact ⟨⟨by show (-9223372036854775808:Int)<=0;decide,by show (0:Int)<=_;decide⟩,True.intro⟩⟩
theorem Wl.open {b:Z8} {x q:Int} {fs:LI} (h:Wl ds b):Wl ds (Kz b x fs q):=by
 rw [Wl.iff] at h ⊢
 intro s hs
 have hs:s∈K1 b.steps x fs q:=hs
 rw [K1] at hs
 split at hs
 ·simp only [Xf,Xz,XE] at hs
  rcases hs with ((⟨a,_,rfl⟩|rfl)|⟨a,_,rfl⟩)|hs
  ·exact TY.cnt om
  ·exact TY.cnt om
  ·exact TY.cnt om
  ·exact h s (List.mem_of_mem_drop hs)
 ·exact h s hs
theorem Ia {m:Nat} {op num:Int} {args:LI}:∀{bs:List Z8} {k:Nat},(US ds m op num args bs k).length=bs.length
 | [],_=>rfl
 | b::r,k=>by rw [US,Yp,Yp,Ia (bs:=r)]
mutual
theorem TY.sp:∀(s:Z5) {m:Nat},TY ds s->TY ds (KW ds m s)
 | .mk op num into args kids,m,h=>by
  rw [KW]
  exact h.kids Ia (Wls.sp kids fun b hb=>h.kid hb)
theorem Wls.sp:∀(bs:List Z8) {m:Nat} {op num:Int} {args:LI} {k:Nat},(∀b∈bs,Wl ds b)->∀b∈US ds m op num args bs k,Wl ds b
 | [],_,_,_,_,_,_,b,hb=>by cases hb
 | c::r,m,op,num,args,k,h,b,hb=>by
  rw [US] at hb
  rcases YL.1 hb with rfl|hb
  ·split
   ·exact (Wl.sp c (h c (Xm ..))).open
   ·exact Wl.sp c (h c (Xm ..))
  ·exact Wls.sp r (fun x hx=>h x (Xt _ hx)) b hb
theorem WlSs.sp:∀(xs:List Z5) {m:Nat},(∀s∈xs,TY ds s)->∀s∈U2 ds m xs,TY ds s
 | [],_,_,s,hs=>by cases hs
 | c::r,m,h,s,hs=>by
  rw [U2] at hs
  rcases YL.1 hs with rfl|hs
  ·exact TY.sp c (h c (Xm ..))
  ·exact WlSs.sp r (fun x hx=>h x (Xt _ hx)) s hs
theorem Wl.sp:∀(b:Z8) {m:Nat},Wl ds b->Wl ds (WW ds m b)
 | .mk steps result,m,h=>by
  rw [WW,Wl.iff]
  exact WlSs.sp steps (Wl.iff.1 h)
end
theorem Zes {b:Z8} {x:Int} {many:Nat} (h:b.rng):(VS b x many).rng:=by
 rw [Z8.rng_eq] at h
 rw [VS,Z8.rng_eq]
 show AL (VN b.steps x many)
 rw [VN]
 split
 ·exact h
 ·rename_i hq
  obtain ⟨_,_,t,h5,h7,h6⟩:=Ao (fun z=>hq (.inr z))
  rw [Ep] at h ⊢
  intro s hs
  rcases List.mem_or_eq_of_mem_set hs with hs|rfl
  ·rcases List.mem_or_eq_of_mem_set hs with hs|rfl
   ·exact h s hs
   ·rw [Z5.rng_eq];exact ⟨⟨by show (-9223372036854775808:Int)<=0;decide,by show (0:Int)<=_;decide⟩,True.intro⟩
  ·have:=h t (Y4 h5)
   rw [h6,Qt,Z5.rng_eq]
   rw [Z5.rng_eq] at this
   exact this
mutual
theorem Zet:∀(s:Z5) {K:LI},s.rng->(Tq ds K s).rng
 | .mk op num into args kids,K,h=>by
  rw [Z5.rng] at h
  rw [Tq,Z5.rng]
  exact ⟨h.1,Z05 kids h.2⟩
theorem Z05:∀(bs:List Z8) {K:LI} {op num:Int} {args:LI} {k:Nat},Am bs->Am (VZ ds K op num args bs k)
 | [],_,_,_,_,_,_=>True.intro
 | b::r,K,op,num,args,k,h=>by
  rw [VZ,Am]
  refine ⟨?_,Z05 r h.2⟩
  split
  ·exact Zes (MP b h.1)
  ·exact MP b h.1
theorem Z06:∀(xs:List Z5) {K:LI},AL xs->AL (Ug ds K xs)
 | [],_,_=>True.intro
 | s::r,K,h=>⟨Zet s h.1,Z06 r h.2⟩
theorem MP:∀(b:Z8) {K:LI},b.rng->(Wv ds K b).rng
 | .mk steps result,K,h=>by
  rw [Z8.rng] at h
  rw [Wv,Z8.rng]
  exact Z06 steps h
end
end
mutual
theorem Zd4:∀s:Z5,Kk VH s->Dc s
 | .mk op num into args kids,h=>by
  rw [Kk] at h
  rw [Dc]
  exact ⟨by have:op<=15:=h.1;omega,S4 kids h.2⟩
theorem S4:∀bs:List Z8,Kj VH bs->C2 bs
 | [],_=>True.intro
 | b::r,h=>⟨S3 b h.1,S4 r h.2⟩
theorem S5:∀bs:List Z5,Q7 VH bs->C3 bs
 | [],_=>True.intro
 | b::r,h=>⟨Zd4 b h.1,S5 r h.2⟩
theorem S3:∀b:Z8,Vw VH b->Ki b
 | .mk steps result,h=>by
  rw [Vw] at h
  rw [Ki]
  exact S5 steps h
end
structure ZR (q:Nat) (r:YE):Prop where
 params:r.params.length<=3
 lent:r.lent.length<=10
 body:r.body.sz<=q
 rng:r.body.rng
 rb:r.body.rb
structure ZN (n:ZG) (q:Nat):Prop where
 decls:AD n.decls
 len:1<=n.routines.length/\n.routines.length<=4
 rt:∀r∈n.routines,ZR q r
theorem ZR.le {q q2:Nat} {r:YE} (h:ZR q r) (hq:q<=q2):ZR q2 r:=⟨h.params,h.lent,Vm h.body hq,h.rng,h.rb⟩
theorem ZN.le {n:ZG} {q q2:Nat} (h:ZN n q) (hq:q<=q2):ZN n q2:=⟨h.decls,h.len,fun r hr=>(h.rt r hr).le hq⟩
theorem ZN.sz {n:ZG} {q:Nat} (h:ZN n q) (hq:q<=10000000):Ad n:=
 ⟨⟨by have:=h.decls.1;omega,fun d hd=>by have:=(h.decls.2 d hd).1;omega,fun d hd c hc=>by have:=(h.decls.2 d hd).2 c hc;omega⟩,by have:=h.len;omega,fun r hr=>by have:=(h.rt r hr).params;omega,fun r hr=>by have:=(h.rt r hr).lent;omega,fun r hr=>by have:=(h.rt r hr).body;omega⟩
theorem FO.wl {n:ZG} {q:Nat} (h:FO n q VH) (hq:q<=100000000):∀r∈n.routines,Wl n.decls r.body:=fun r hr=>by
 have h1:=h.rf hr
 have h2:r.params.length<=3:=(Tw.bd (f:=⟨r.params,r.result,default⟩) h1.sig).1
 exact ⟨Np r.body h1.body.1 (by have:=h1.body.2;omega) h.fn.decls.ok,S3 r.body h1.op,MO r.body h1.body.1⟩
theorem FO.zn {n:ZG} {q:Nat} {p:Int->Prop} (h:FO n q p) (hq:q<=100000000:=by omega):ZN n q:=
 ⟨h.fn.decls.ad,h.fn.len,fun r hr=>⟨(Tw.bd (f:=⟨r.params,r.result,default⟩) (h.fn.sigs r hr)).1,by have:=(h.fn.lent r hr).1;omega,(h.fn.body r hr).2,MO r.body (h.fn.body r hr).1,SB r.body (h.fn.body r hr).1 (by have h2:r.params.length<=3:=(Tw.bd (f:=⟨r.params,r.result,default⟩) (h.fn.sigs r hr)).1;have:=(h.fn.body r hr).2;omega) h.fn.decls.ok⟩⟩
structure WN (n:ZG) (q:Nat):Prop where
 ok:Xw n
 zn:ZN n q
 wl:∀r∈n.routines,Wl n.decls r.body
theorem FO.wn {n:ZG} {q:Nat} (h:FO n q VH) (hq:q<=100000000):WN n q:=⟨h.fn.ok,h.zn hq,h.wl hq⟩
theorem WN.sp {n:ZG} {q:Nat} (h:WN n q):WN (Di n) (9*q):=by
 refine ⟨⟨h.ok.decls,by show (n.routines.map _).length<=4;rw [TK];exact h.ok.len,fun r hr=>?_,fun r hr=>?_⟩,⟨h.zn.decls,by show 1<=(n.routines.map _).length/\(n.routines.map _).length<=4;rw [TK];exact h.zn.len,fun r hr=>?_⟩,fun r hr=>?_⟩
 ·obtain ⟨s,hs,rfl⟩:=Xz.1 hr;exact h.ok.params s hs
 ·obtain ⟨s,hs,rfl⟩:=Xz.1 hr;exact h.ok.lent s hs
 ·obtain ⟨s,hs,rfl⟩:=Xz.1 hr
  have hz:=h.zn.rt s hs
  refine ⟨hz.params,hz.lent,?_,(Wl.sp s.body (h.wl s hs)).rng,ML s.body hz.rb⟩
  have h1:=I8 h.ok.decls s.body (m:=s.params.length) (h.wl s hs).w
  have h2:=s.body.pz_le
  have h3:=hz.body
  show (WW n.decls s.params.length s.body).sz<=9*q
  omega
 ·obtain ⟨s,hs,rfl⟩:=Xz.1 hr;exact Wl.sp s.body (h.wl s hs)
theorem WN.ru {n:ZG} {q:Nat} (h:WN n q):ZN (Dh n) q:=by
 refine ⟨h.zn.decls,by show 1<=(n.routines.map _).length/\(n.routines.map _).length<=4;rw [TK];exact h.zn.len,fun r hr=>?_⟩
 obtain ⟨s,hs,rfl⟩:=Xz.1 hr
 have hz:=h.zn.rt s hs
 refine ⟨hz.params,hz.lent,?_,MP s.body (h.wl s hs).rng,MK s.body hz.rb⟩
 have h1:=MS s.body (K:=[]) (h.wl s hs).w
 have h3:=hz.body
 show (Wv n.decls [] s.body).sz<=q
 omega
theorem HQ {xs:List Z5} {i:Nat} {s t:Z5} (h:t∈WP xs i s):t∈xs∨t=s:=by
 rw [WP] at h
 simp only [Xf,XE] at h
 rcases h with (h|h)|h
 ·exact .inl (QX h)
 ·exact .inr h
 ·exact .inl (List.mem_of_mem_drop h)
theorem Z04 {op v:Int}:(Zv op v).rng:=by rw [Z5.rng_eq];exact ⟨⟨by show (-9223372036854775808:Int)<=0;decide,by show (0:Int)<=_;decide⟩,True.intro⟩
theorem ZN.withR {n:ZG} {q q2:Nat} {f:Nat} {rt:YE} {b:Z8} (h:ZN n q) (hr:n.routines[f]? = some rt) (hq:q<=q2) (hb:b.sz<=q2) (hg:b.rng) (hbr:b.rb):ZN (withR n f rt b) q2:=by
 refine ⟨h.decls,by show 1<=(n.routines.set _ _).length/\(n.routines.set _ _).length<=4;rw [VF];exact h.len,fun r hm=>?_⟩
 rcases List.mem_or_eq_of_mem_set hm with hm|rfl
 ·exact (h.rt r hm).le hq
 ·have:=h.rt rt (Y4 hr)
  exact ⟨this.params,this.lent,hb,hg,hbr⟩
theorem ZN.held {n n2:ZG} {q:Nat} (h:ZN n q) (hh:Gi n n2):ZN n2 (q+4):=by
 rcases hh with rfl|⟨f,rt,i,j,v,h1,h2,h3,h4,h5,rfl⟩
 ·exact h.le om
 ·have hz:=h.rt rt (Y4 h1)
  refine h.withR h1 om ?_ ?_ (by have hb:=hz.rb;rw [Z8.rb_eq,Eo] at hb;rw [Bj,Z8.rb_eq,Eo];refine ⟨fun s hs=>?_,hb.2⟩;rcases HQ hs with hs|rfl<;>first|exact Eg|(rcases HQ hs with hs|rfl<;>first|exact Eg|exact hb.1 s hs))
  ·rw [Bj,Z8.sz,HR,HR]
   have e1:(Zv 14 v).sz=2:=rfl
   have e2:(Zv 15 v).sz=2:=rfl
   have:=hz.body
   have:=rt.body.sz_eq
   omega
  ·have hg:=hz.rng
   rw [Z8.rng_eq,Ep] at hg
   rw [Bj,Z8.rng_eq,Ep]
   intro s hs
   rcases HQ hs with hs|rfl
   ·rcases HQ hs with hs|rfl
    ·exact hg s hs
    ·exact Z04
   ·exact Z04
theorem FO.le {n:ZG} {q q2:Nat} {p:Int->Prop} (h:FO n q p) (hq:q<=q2):FO n q2 p:=⟨⟨h.fn.decls,h.fn.len,h.fn.sigs,h.fn.lent,fun r hr=>⟨(h.fn.body r hr).1,Vm (h.fn.body r hr).2 hq⟩⟩,h.op⟩
section
variable {ds:List Zc} {nf:Nat}
theorem Z70 {m:Nat} {s:Z5} (h:fS ds nf m s) (hc:YO s.op=true):s.num=0/\s.into=0/\s.kids=[]/\∃a,s.args=[a]/\0<=a/\a<m:=by
 have h1:=(Bc s).1 h
 have ho:14<=s.op/\s.op<=17:=of_decide_eq_true hc
 obtain ⟨a1,a2,a3,a,a4⟩:=h1.cnt ho.1
 exact ⟨a1,a2,a3,a,a4,h1.args a (by rw [a4];exact XE.2 rfl)⟩
theorem Z0r:∀{xs:List Z5} {m:Nat},Wc ds nf m xs->(∀s∈xs.take (XM xs),0<=gI s.args 0/\gI s.args 0<m)/\Wc ds nf m (xs.drop (XM xs))/\Yr (xs.drop (XM xs))=Yr xs
 | [],m,h=>⟨fun s hs=>by simp [XM] at hs,h,rfl⟩
 | s::r,m,h=>by
  rw [XM]
  by_cases hq:s.op=14∨s.op=15
  ·have hc:YO s.op=true:=by simp [YO];omega
   rw [Zh hq]
   rw [Wc,Zh hc] at h
   obtain ⟨h1,h2,h3⟩:=Z0r h.2
   obtain ⟨_,_,_,a,ha,hb⟩:=Z70 h.1 hc
   refine ⟨fun t ht=>?_,by rw [List.drop_succ_cons];exact h2,by rw [List.drop_succ_cons,Yr,Zh hc,Wf];exact h3⟩
   rw [AO] at ht
   rcases YL.1 ht with rfl|ht
   ·rw [ha];exact hb
   ·exact h1 t ht
  ·rw [Zb hq]
   exact ⟨fun t ht=>by simp at ht,h,rfl⟩
theorem Gm {op:Int} {P:Int->Prop}:∀{xs:List Z5},(∀s∈xs,P (gI s.args 0))->∀a∈Wr op xs,P a
 | [],_,a,h=>by simp [Wr] at h
 | s::r,hp,a,h=>by
  rw [Wr] at h
  split at h
  ·rcases YL.1 h with rfl|h
   ·exact hp s (Xm ..)
   ·exact Gm (fun t ht=>hp t (Xt _ ht)) a h
  ·exact Gm (fun t ht=>hp t (Xt _ ht)) a h
theorem HM {P:Int->Prop}:∀{fs:LI} {q:Int} {D R:LI},(∀a∈D,P a)->(∀a∈R,P a)->(∀a,q<=a->a<q+fs.length->P a)->(∀a∈(Uu fs q D R).1,P a)/\∀a∈(Uu fs q D R).2,P a
 | [],q,D,R,hD,hR,_=>⟨hD,hR⟩
 | f::r,q,D,R,hD,hR,hq=>by
  have hq':∀a,q+1<=a->a<q+1+r.length->P a:=fun a h1 h2=>hq a om (by simp only [Yp];omega)
  rw [Uu]
  split
  ·exact HM (fun a ha=>hD a (List.mem_of_mem_erase ha)) hR hq'
  ·split
   ·refine HM hD (fun a ha=>?_) hq'
    rcases Xf.1 ha with ha|ha
    ·exact hR a ha
    ·rw [XE.1 ha];exact hq q om (by simp only [Yp];omega)
   ·exact HM hD hR hq'
theorem Z73 {m q:Nat} {xs:List Z5} {x:Int} {fs:LI} (h:Wc ds nf m xs) (hx:0<=x/\x<m) (hq:q+fs.length<=m):Wc ds nf m (K1 xs x fs q)/\Yr (K1 xs x fs q)=Yr xs:=by
 rw [K1]
 split
 ·obtain ⟨h1,h2,h3⟩:=Z0r h
  have hp:(∀a∈(Jo xs x fs q).1,0<=a/\a<(m:Int))/\∀a∈(Jo xs x fs q).2,0<=a/\a<(m:Int):=by
   rw [Jo]
   refine HM (P:=fun a=>0<=a/\a<(m:Int)) (Gm (P:=fun a=>0<=a/\a<(m:Int)) h1) (fun a ha=>Gm (P:=fun a=>0<=a/\a<(m:Int)) h1 a (List.mem_of_mem_erase ha)) (fun a ha hb=>by omega)
  obtain ⟨a1,a2⟩:=GS (ds:=ds) (nf:=nf) (op:=14) om hp.1
  obtain ⟨b1,b2⟩:=GS (ds:=ds) (nf:=nf) (op:=16) (m:=m) (vs:=[x]) om (fun v hv=>by rw [XE.1 hv];exact hx)
  obtain ⟨c1,c2⟩:=GS (ds:=ds) (nf:=nf) (op:=15) om hp.2
  have b1:Wc ds nf m [Zv 16 x]:=b1
  have b2:Yr [Zv 16 x]=0:=b2
  refine ⟨?_,by rw [Td,Td,Td,a2,b2,c2,h3];omega⟩
  simp only [Ay,Td,a2,b2,c2,BC]
  exact ⟨⟨⟨a1,b1⟩,c1⟩,h2⟩
 ·exact ⟨h,rfl⟩
theorem Z6w {m q:Nat} {b:Z8} {x:Int} {fs:LI} (h:fB ds nf m b) (hx:0<=x/\x<m) (hq:q+fs.length<=m):fB ds nf m (Kz b x fs q):=by
 rw [Jf] at h
 obtain ⟨h1,h2⟩:=Z73 h.1 hx hq
 rw [Kz,Jf]
 refine ⟨h1,h.2.1,?_⟩
 show b.result<((m+Yr (K1 b.steps x fs q):Nat):Int)
 rw [h2];exact h.2.2
theorem Z18 {m:Nat}:∀{xs:List Z5} {m:Nat},Yr (U2 ds m xs)=Yr xs
 | [],_=>rfl
 | s::r,m=>by
  rw [U2,Yr,Yr,Z18 (m:=0) (xs:=r)]
  rw [show (KW ds m s).op=s.op from by rw [FP];rfl]
theorem Z7b {num:Int} {k:Nat} (h:k<(ZY ds num).length):(WC ds num k).length=(ZO ds (gI (ZY ds num) k)).length:=by
 obtain ⟨x,hx⟩:=Bf (xs:=ZY ds num) (j:=k) h
 rw [WC,J2,hx,Tl (i:=(k:Int)) (by simpa using hx)];rfl
mutual
theorem Z72:∀(s:Z5) {m:Nat},fS ds nf m s->fS ds nf m (KW ds m s)
 | .mk op num into args kids,m,h=>by
  rw [fS] at h
  obtain ⟨h1,h2,h3,h4,h5,h6,h7,h8,h9,h10,h11,h12⟩:=h
  rw [KW,fS]
  refine ⟨h1,h2,fun ho=>?_,fun ho=>by rw [Ia];exact h4 ho,fun ho=>by rw [Ia];exact h5 ho,h6,h7,h8,h9,h10,fun ho=>?_,?_⟩
  ·obtain ⟨a1,a2,a3,a4⟩:=h3 ho
   exact ⟨a1,a2,by rw [a3];rfl,a4⟩
  ·rw [h11 ho];rfl
  ·refine P1 kids h12 (fun ho=>?_) (fun ho=>?_)
   ·obtain ⟨a,ha⟩:=h6 (.inr ho)
    rw [ha];exact h2 a (by rw [ha];exact XE.2 rfl)
   ·rw [h5 ho];omega
theorem P1:∀(bs:List Z8) {m:Nat} {op num:Int} {args:LI} {k:Nat},Uc ds nf (V3 ds op num m) k bs->(op=8->0<=gI args 0/\gI args 0<m)->(op=8->k+bs.length<=(ZY ds num).length)->Uc ds nf (V3 ds op num m) k (US ds m op num args bs k)
 | [],_,_,_,_,_,_,_,_=>True.intro
 | b::r,m,op,num,args,k,h,hx,hl=>by
  rw [US]
  refine ⟨?_,P1 r h.2 hx fun ho=>by have:=hl ho;rw [Yp] at this;omega⟩
  by_cases ho:op=8
  ·have hk:=Z7b (ds:=ds) (num:=num) (k:=k) (by have:=hl ho;rw [Yp] at this;omega)
   have hsc:V3 ds op num m k=m+(WC ds num k).length:=by rw [V3,Zh ho,hk]
   rw [Zh ho]
   have h1:=h.1
   rw [hsc] at h1 ⊢
   have Z3:=hx ho
   exact Z6w (LD b h1) om (X5 _)
  ·have hsc:V3 ds op num m k=m:=by rw [V3,Zb ho]
   rw [Zb ho]
   have h1:=h.1
   rw [hsc] at h1 ⊢
   exact LD b h1
theorem P5:∀(xs:List Z5) {m:Nat},Wc ds nf m xs->Wc ds nf m (U2 ds m xs)
 | [],_,_=>True.intro
 | s::r,m,h=>by
  rw [U2,Wc,show (KW ds m s).op=s.op from by rw [FP];rfl]
  exact ⟨Z72 s h.1,P5 r h.2⟩
theorem LD:∀(b:Z8) {m:Nat},fB ds nf m b->fB ds nf m (WW ds m b)
 | .mk steps result,m,h=>by
  rw [fB] at h
  rw [WW,fB,Z18 (m:=0)]
  exact ⟨P5 steps h.1,h.2⟩
end
theorem Lg:∀{xs:List Z5} {i:Nat} {s t:Z5},xs[i]? = some s->YO t.op=YO s.op->Yr (xs.set i t)=Yr xs
 | [],i,s,t,h,_=>by simp at h
 | x::r,0,s,t,h,hc=>by simp at h;subst h;rw [List.set_cons_zero,Yr,Yr,hc]
 | x::r,i+1,s,t,h,hc=>by rw [List.set_cons_succ,Yr,Yr,Lg (xs:=r) (by simpa using h) hc]
theorem LF:∀{xs:List Z5} {i m:Nat} {s t:Z5},Wc ds nf m xs->xs[i]? = some s->YO t.op=YO s.op->fS ds nf (m+Yr (xs.take i)) t->Wc ds nf m (xs.set i t)
 | [],i,m,s,t,_,h,_,_=>by simp at h
 | x::r,0,m,s,t,h,hs,hc,ht=>by
  simp at hs;subst hs
  rw [List.set_cons_zero,Wc,hc]
  exact ⟨by simpa [Yr] using ht,h.2⟩
 | x::r,i+1,m,s,t,h,hs,hc,ht=>by
  rw [List.set_cons_succ,Wc]
  refine ⟨h.1,LF h.2 (by simpa using hs) hc ?_⟩
  rw [AO,Yr] at ht
  by_cases hx:YO x.op=true
  ·rw [Zh hx] at ht ⊢;rw [Wf] at ht;exact ht
  ·rw [Zb hx] at ht ⊢;rw [<-Ac] at ht;exact ht
theorem Z74 {m:Nat} {xs:List Z5} {x:Int} {many:Nat} (h:Wc ds nf m xs) (hx:0<=x/\x<m):Wc ds nf m (VN xs x many)/\Yr (VN xs x many)=Yr xs:=by
 rw [VN]
 split
 ·exact ⟨h,rfl⟩
 ·rename_i hq
  obtain ⟨_,_,t,h5,h7,h6⟩:=Ao (fun z=>hq (.inr z))
  obtain ⟨_,_,s,h8,h9,h10⟩:=Ec (fun z=>hq (.inl z))
  have Za:YO (Zv 17 x).op=YO s.op:=by rw [h9];rfl
  have k1:=LF (t:=Zv 17 x) h h8 Za (LE om om)
  have k2:=Lg (t:=Zv 17 x) h8 Za
  have k3:=FE hq (t:=Zv 17 x) h5
  have k4:=(Bc t).1 (DN k1 k3)
  have Zj:YO (Qt (1+x) t).op=YO t.op:=rfl
  rw [h6]
  have ho:t.op=6:=h7.1.1
  refine ⟨LF k1 k3 Zj ((Bc _).2 ⟨k4.op,k4.args,fun z=>?_,k4.k7,k4.k8,k4.one,k4.call,k4.num,?_,k4.alen,k4.kn,k4.kids⟩),by rw [Lg k3 Zj,k2]⟩
  ·have z:14<=t.op:=z;omega
  ·show 0<=1+x/\1+x<=((m+_:Nat):Int);omega
theorem Z6y {m:Nat} {b:Z8} {x:Int} {many:Nat} (h:fB ds nf m b) (hx:0<=x/\x<m):fB ds nf m (VS b x many):=by
 rw [Jf] at h
 obtain ⟨h1,h2⟩:=Z74 (many:=many) h.1 hx
 rw [VS,Jf]
 refine ⟨h1,h.2.1,?_⟩
 show b.result<((m+Yr (VN b.steps x many):Nat):Int)
 rw [h2];exact h.2.2
theorem LG {K:LI} {op num:Int} {args:LI}:∀{bs:List Z8} {k:Nat},(VZ ds K op num args bs k).length=bs.length
 | [],_=>rfl
 | b::r,k=>by rw [VZ,Yp,Yp,LG (bs:=r)]
theorem Z0l {K:LI}:∀{xs:List Z5},Yr (Ug ds K xs)=Yr xs
 | []=>rfl
 | s::r=>by rw [Ug,Yr,Yr,Z0l (xs:=r),show (Tq ds K s).op=s.op from by rw [AJ];rfl]
mutual
theorem Z71:∀(s:Z5) {m:Nat} {K:LI},fS ds nf m s->fS ds nf m (Tq ds K s)
 | .mk op num into args kids,m,K,h=>by
  rw [fS] at h
  obtain ⟨h1,h2,h3,h4,h5,h6,h7,h8,h9,h10,h11,h12⟩:=h
  rw [Tq,fS]
  refine ⟨h1,h2,fun ho=>?_,fun ho=>by rw [LG];exact h4 ho,fun ho=>by rw [LG];exact h5 ho,h6,h7,h8,h9,h10,fun ho=>?_,?_⟩
  ·obtain ⟨a1,a2,a3,a4⟩:=h3 ho
   exact ⟨a1,a2,by rw [a3];rfl,a4⟩
  ·rw [h11 ho];rfl
  ·refine OZ kids h12 (fun ho=>?_)
   obtain ⟨a,ha⟩:=h6 (.inr ho)
   rw [ha];exact h2 a (by rw [ha];exact XE.2 rfl)
theorem OZ:∀(bs:List Z8) {m:Nat} {K:LI} {op num:Int} {args:LI} {k:Nat},Uc ds nf (V3 ds op num m) k bs->(op=8->0<=gI args 0/\gI args 0<m)->Uc ds nf (V3 ds op num m) k (VZ ds K op num args bs k)
 | [],_,_,_,_,_,_,_,_=>True.intro
 | b::r,m,K,op,num,args,k,h,hx=>by
  rw [VZ]
  refine ⟨?_,OZ r h.2 hx⟩
  split
  ·rename_i ho
   have Z3:=hx ho.1
   refine Z6y (LA b h.1) ?_
   rw [V3];split<;>omega
  ·exact LA b h.1
theorem P4:∀(xs:List Z5) {m:Nat} {K:LI},Wc ds nf m xs->Wc ds nf m (Ug ds K xs)
 | [],_,_,_=>True.intro
 | s::r,m,K,h=>by
  rw [Ug,Wc,show (Tq ds K s).op=s.op from by rw [AJ];rfl]
  exact ⟨Z71 s h.1,P4 r h.2⟩
theorem LA:∀(b:Z8) {m:Nat} {K:LI},fB ds nf m b->fB ds nf m (Wv ds K b)
 | .mk steps result,m,K,h=>by
  rw [fB] at h
  rw [Wv,fB,Z0l]
  exact ⟨P4 steps h.1,h.2⟩
end
theorem P3 {m:Nat} {xs:List Z5} {i:Nat} {op v:Int} (h:Wc ds nf m xs) (ho:14<=op/\op<=17) (hv:0<=v/\v<((m+Yr (xs.take i):Nat):Int)):Wc ds nf m (WP xs i (Zv op v))/\Yr (WP xs i (Zv op v))=Yr xs:=by
 have e:=TL i xs
 have h0:Wc ds nf m (xs.take i++xs.drop i):=by rw [e];exact h
 rw [Ay] at h0
 have hc:YO (Zv op v).op=true:=decide_eq_true ho
 have hd:Yr [Zv op v]=0:=by rw [Yr,Zh hc];rfl
 have e2:=Yo Yr e
 rw [Td] at e2
 rw [WP]
 refine ⟨?_,by rw [Td,Td,hd];omega⟩
 rw [Ay,Ay,Td,hd]
 exact ⟨⟨h0.1,LE ho hv,True.intro⟩,h0.2⟩
theorem Z6x {m:Nat} {b:Z8} {i j:Nat} {v:Int} (h:fB ds nf m b) (hij:i<=j) (hj:j<=b.steps.length) (hv:0<=v/\v<((m+Yr (b.steps.take i):Nat):Int)):fB ds nf m (Bj b i j v):=by
 rw [Jf] at h
 have hm:Yr (b.steps.take i)<=Yr (b.steps.take j):=by
  have e:=Yo Yr (TL i (b.steps.take j))
  rw [Td,List.take_take,VG hij] at e;omega
 obtain ⟨h1,h2⟩:=P3 (op:=15) (i:=j) (v:=v) h.1 om om
 obtain ⟨h3,h4⟩:=P3 (op:=14) (i:=i) (v:=v) h1 om (by rw [Sy hij hj];exact hv)
 rw [Bj,Jf]
 refine ⟨h3,h.2.1,?_⟩
 show b.result<((m+Yr (WP (WP b.steps j (Zv 15 v)) i (Zv 14 v)):Nat):Int)
 rw [h4,h2];exact h.2.2
end
theorem FN.sp {n:ZG} {q q2:Nat} (h:FN n q) (hz:ZN (Di n) q2):FN (Di n) q2:=by
 refine ⟨h.decls,hz.len,fun r hr=>?_,fun r hr=>?_,fun r hr=>⟨?_,(hz.rt r hr).body⟩⟩
 ·obtain ⟨s,hs,rfl⟩:=Xz.1 hr;exact h.sigs s hs
 ·obtain ⟨s,hs,rfl⟩:=Xz.1 hr;exact h.lent s hs
 ·obtain ⟨s,hs,rfl⟩:=Xz.1 hr
  have e:(Di n).routines.length=n.routines.length:=TK ..
  rw [e]
  exact LD _ (h.body s hs).1
theorem FN.ru {n:ZG} {q q2:Nat} (h:FN n q) (hz:ZN (Dh n) q2):FN (Dh n) q2:=by
 refine ⟨h.decls,hz.len,fun r hr=>?_,fun r hr=>?_,fun r hr=>⟨?_,(hz.rt r hr).body⟩⟩
 ·obtain ⟨s,hs,rfl⟩:=Xz.1 hr;exact h.sigs s hs
 ·obtain ⟨s,hs,rfl⟩:=Xz.1 hr;exact h.lent s hs
 ·obtain ⟨s,hs,rfl⟩:=Xz.1 hr
  have e:(Dh n).routines.length=n.routines.length:=TK ..
  rw [e]
  exact LA _ (h.body s hs).1
theorem FN.le {n:ZG} {q q2:Nat} (h:FN n q) (hq:q<=q2):FN n q2:=⟨h.decls,h.len,h.sigs,h.lent,fun r hr=>⟨(h.body r hr).1,Vm (h.body r hr).2 hq⟩⟩
theorem FN.held {n n2:ZG} {q q2:Nat} (h:FN n q) (hh:Gi n n2) (hz:ZN n2 q2):FN n2 q2:=by
 rcases hh with rfl|⟨f,rt,i,j,v,h1,h2,h3,h4,h5,rfl⟩
 ·exact ⟨h.decls,h.len,h.sigs,h.lent,fun r hr=>⟨(h.body r hr).1,(hz.rt r hr).body⟩⟩
 ·have hm:=Y4 h1
  have hl:(withR n f rt (Bj rt.body i j v)).routines.length=n.routines.length:=VF ..
  refine ⟨h.decls,hz.len,fun r hr=>?_,fun r hr=>?_,fun r hr=>⟨?_,(hz.rt r hr).body⟩⟩
  ·rcases List.mem_or_eq_of_mem_set hr with hr|rfl
   ·exact h.sigs r hr
   ·exact h.sigs rt hm
  ·rcases List.mem_or_eq_of_mem_set hr with hr|rfl
   ·exact h.lent r hr
   ·exact h.lent rt hm
  ·rw [hl]
   rcases List.mem_or_eq_of_mem_set hr with hr|rfl
   ·exact (h.body r hr).1
   ·exact Z6x (h.body rt hm).1 h2 h3 ⟨h4,h5⟩
abbrev Mem:=Nat->Nat->Option Value
abbrev Cp:=Nat × Nat
def upd (m:Mem) (a:Cp) (z:Int):Mem:=fun g o=>if g=a.1/\o=a.2 then some (.int .i64 z) else m g o
def wr (m:Mem):List Cp->Int->Mem
 | [],_=>m
 | a::r,k=>wr (upd m a k) r (k+1)
def CZ (m:Mem):List Cp->Int->Prop
 | [],_=>True
 | a::r,k=>m a.1 a.2=some (.int .i64 k)/\CZ m r (k+1)
def Ro (m:Mem) (a:Cp):Prop:=∃z,m a.1 a.2=some (.int .i64 z)
structure Kp (m m':Mem):Prop where
 i:∀{a:Cp},Ro m a->Ro m' a
 h:∀{g o:Nat} {v:Value},m g o=some v->(∀z,v≠.int .i64 z)->m' g o=some v
section
variable {P:Program} {n:Nat} {ops:Array Oper} {B:Fr->List Res->Prop} {k:Nat} {F:Fr} {h h2:List Res}
end
section
variable {m m':Mem} {B:List Nat}
end
section
variable {m:Mem} {B:List Nat} {g:Nat}
end
section
variable {m:Mem} {B:List Nat}
end
def Zn (g lo hi:Nat) (X:List Nat) (a:Cp):Prop:=(a.1=g/\lo<=a.2/\a.2<hi)∨a.1∈X
structure Nd (g lo hi:Nat) (X:List Nat) (as1:List Cp):Prop where
 nd:(X.Nodup/\g∉X)->as1.Nodup
 zn:∀a∈as1,Zn g lo hi X a
section
variable {m:Mem} {B:List Nat}
end
section
variable {n:ZG} {ln:LI} {L:ZL}
end
structure CR (L:ZL) (cons first:LI):Prop where
 cl:cons.length=L.vars.length
 fl:first.length=L.vars.length
 eq:∀v:Int,0<=v->v<L.vars.length->0<=gI L.con v->gI cons v=gI L.con v/\gI first v=gI L.fst v

section
variable {N:Mem} {g o:Nat} {z:Int}
end


structure Instr where
 op:Int
 dst:Int
 num:Int
 into:Int
 args:LI
 jumps:LI
structure ZW where
 params:LI
 lent:LI
 result:Int
 regs:Int
 code:List Instr
structure Yy where
 decls:List Zc
 procs:List ZW
abbrev WB (x:Instr):List AV:=[.i x.op,.i x.dst,.i x.num,.i x.into,Z4 x.args,Z4 x.jumps]
abbrev UX (x:Instr):AV:=.agg (WB x)
def ZA (xs:List Instr):List AV:=xs.map UX
abbrev QP (xs:List Instr):AV:=.sl (ZA xs) none
abbrev Mz (xs:List Instr) (v:Value):AV:=.sl (ZA xs) (some v)
abbrev UE (x:ZW):List AV:=[Z4 x.params,Z4 x.lent,.i x.result,.i x.regs,QP x.code]
abbrev Cw (x:ZW):AV:=.agg (UE x)
def Wi (xs:List ZW):List AV:=xs.map Cw
abbrev Mx (xs:List ZW):AV:=.sl (Wi xs) none
abbrev Uf (xs:List ZW) (v:Value):AV:=.sl (Wi xs) (some v)
abbrev Ve (x:Yy):List AV:=[Y5 x.decls,Mx x.procs]
abbrev Vg (x:Yy):AV:=.agg (Ve x)
structure Z31 where
 op:Int
 dst:Int
 num:Int
 into:Int
 args:LI
 av:Value
 jumps:LI
 jv:Value
structure Z32 where
 params:LI
 pv:Value
 lent:LI
 lv:Value
 result:Int
 regs:Int
 code:List Z31
 cv:Value
structure Zjd where
 decls:List Vf
 dv:Value
 procs:List Z32
 pv:Value
theorem KF {xs:List Instr} {j:Nat} {x:Instr} (h:xs[j]? = some x):(ZA xs)[j]? = some (UX x):=by simp [ZA,h]
@[simp] theorem Q2 (xs:List Instr):(ZA xs).length=xs.length:=by simp [ZA]
theorem CM (xs ys:List Instr):ZA (xs++ys)=ZA xs++ZA ys:=by simp [ZA]
theorem Av (xs:List Instr):∀y∈ZA xs,y.leaves.length=6:=by intro y hy;simp only [ZA,Xz] at hy;obtain ⟨x,_,rfl⟩:=hy;rfl
theorem GJ (xs:List Instr):(Z9 (ZA xs)).all AV.one=true:=Jg fun y hy=>by simp only [ZA,Xz] at hy;obtain ⟨x,_,rfl⟩:=hy;rfl
theorem Z6b {xs:List Instr} (h:ZA xs=[]):xs=[]:=by cases xs with|nil=>rfl|cons x r=>simp [ZA] at h
theorem Un (xs:List Instr):(Z9 (ZA xs)).length=xs.length*6:=by rw [UL _ (Av _)];simp
theorem Z88 (xs:List Instr) (x:Instr):Z9 (ZA xs)++Z9 (ZA [x])=Z9 (ZA (xs++[x])):=by rw [CM,Tk]
theorem DP {xs:List Instr} {i:Nat} {s:Instr} (h:xs[i]? = some s):Z9 (ZA xs)=Z9 (ZA (xs.take i))++(WB s++Z9 (ZA (xs.drop (i+1)))):=by
 have hk:=(X9.1 h).1
 have hd:xs.drop i=s::xs.drop (i+1):=by
  rw [Nt hk]
  congr 1
  rw [Dp hk] at h
  exact Dq h
 have e:xs=xs.take i++(s::xs.drop (i+1)):=by rw [<-hd,TL]
 conv=>lhs;rw [e,CM,Tk]
 rfl
theorem DO {xs:List Instr} {i:Nat} {s:Instr} (h:xs[i]? = some s):((Z9 (ZA xs)).drop (i*6)).take (WB s).length=WB s:=by
 have hi:=(X9.1 h).1
 have hl:(Z9 (ZA (xs.take i))).length=i*6:=by rw [Un,XW,VG om]
 rw [DP h]
 exact HV hl
theorem H0 {xs:List Instr} {i:Nat} {s t:Instr} (h:xs[i]? = some s):(Z9 (ZA xs)).take (i*6)++WB t++(Z9 (ZA xs)).drop (i*6+(WB t).length)=Z9 (ZA (xs.set i t)):=by
 have hi:=(X9.1 h).1
 have hl:(Z9 (ZA (xs.take i))).length=i*6:=by rw [Un,XW,VG om]
 rw [DP h,FG (xs:=WB s) (ys:=WB t) hl rfl]
 have e:xs.set i t=xs.take i++(t::xs.drop (i+1)):=by rw [Ga,Zh hi]
 rw [e,CM,Tk]
 rfl
theorem Jc {xs:List ZW} {j:Nat} {x:ZW} (h:xs[j]? = some x):(Wi xs)[j]? = some (Cw x):=by simp [Wi,h]
@[simp] theorem K7 (xs:List ZW):(Wi xs).length=xs.length:=by simp [Wi]
theorem Z6e (xs ys:List ZW):Wi (xs++ys)=Wi xs++Wi ys:=by simp [Wi]
theorem Jd (xs:List ZW):∀y∈Wi xs,y.leaves.length=5:=by intro y hy;simp only [Wi,Xz] at hy;obtain ⟨x,_,rfl⟩:=hy;rfl
theorem Ov (xs:List ZW):(Z9 (Wi xs)).all AV.one=true:=Jg fun y hy=>by simp only [Wi,Xz] at hy;obtain ⟨x,_,rfl⟩:=hy;rfl
def XL (op dst num into:Int) (args:LI):Instr:=⟨op,dst,num,into,args,[]⟩
def Instr.goto (x:Instr) (v:Int):Instr:=⟨x.op,x.dst,v,x.into,x.args,x.jumps⟩
def Instr.fan (x:Instr) (js:LI):Instr:=⟨x.op,x.dst,x.num,x.into,x.args,js⟩
def VP (c:List Instr) (i:Nat):List Instr:=match c[i]? with
 | none=>c
 | some x=>c.set i (x.goto c.length)
def Qm (c:List Instr) (i:Nat) (js:LI):List Instr:=match c[i]? with
 | none=>c
 | some x=>c.set i (x.fan js)
def TZ (c:List Instr):List Nat->List Instr
 | []=>c
 | i::r=>TZ (VP c i) r
structure AU (E:Type) where
 res:E->Int->LI
 len:E->Nat
 nxt:E->E
 arm:E->Int->Int->Nat->E
def WI (m many:Nat) (x:Int):List Instr:=(List.range many).map fun i=>XL 19 ((m+i:Nat):Int) (i:Int) 0 [x]
def EH (r:List Z8) (c:List Instr):List Instr:=match r with|[]=>c|_::_=>c++[XL 22 0 0 0 []]
def NN (r:List Z8) (es:List Nat) (l:Nat):List Nat:=match r with|[]=>es|_::_=>es++[l+1]
section
variable {E:Type} (X:AU E) (ds:List Zc)
mutual
def Ud (e:E):Z5->List Instr->List Instr
 | .mk op num into args kids,c=>
  if op=7 then QG e args kids c
  else if op=8 then Um e num (gI args 0) c.length kids 0 (c++[XL 21 0 num 0 args]) [] []
  else if op=14∨op=15 then c++[XL op 0 0 0 args]
  else if op=16∨op=17 then c++[XL op 0 0 0 (args++X.res e (gI args 0))]
  else c++[XL op (X.len e) num into args]
def QG (e:E) (args:LI):List Z8->List Instr->List Instr
 | b::r,c=>Ka e (c.length) r (flB e b (c++[XL 20 0 0 0 args])++[XL 18 (X.len e) 0 0 [b.result]])
 | [],c=>c
def Ka (e:E) (ZT:Nat):List Z8->List Instr->List Instr
 | b::_,c=>VP (flB e b (VP (c++[XL 22 0 0 0 []]) ZT)++[XL 18 (X.len e) 0 0 [b.result]]) c.length
 | [],c=>c
def Um (e:E) (num x:Int) (ZT:Nat):List Z8->Nat->List Instr->LI->List Nat->List Instr
 | [],_,c,ts,es=>TZ (Qm c ZT ts) es
 | b::r,k,c,ts,es=>
  Um e num x ZT r (k+1) (EH r (flB (X.arm e x num k) b (c++WI (X.len e) (WC ds num k).length x)++[XL 18 (X.len e) 0 0 [b.result]])) (ts++[(c.length:Int)])
   (NN r es (flB (X.arm e x num k) b (c++WI (X.len e) (WC ds num k).length x)).length)
def UJ (e:E):List Z5->List Instr->List Instr
 | [],c=>c
 | s::r,c=>UJ (if YO s.op=true then e else X.nxt e) r (Ud e s c)
def flB (e:E):Z8->List Instr->List Instr
 | .mk steps _,c=>UJ e steps c
end
end
def XN (ds:List Zc):AU (LI × LI):=
 ⟨fun e x=>UN (ZO ds (gI e.1 x)) (gI e.2 x),fun e=>e.1.length,fun e=>(e.1++[0],e.2++[0]),
 fun e x num k=>(e.1.set x.toNat (CE ds num k)++XH (ZO ds (CE ds num k)).length,e.2.set x.toNat e.1.length++XH (ZO ds (CE ds num k)).length)⟩
section
variable {ds:List Zc}
end
theorem BJ (c:List Instr) (i:Nat):(VP c i).length=c.length:=by rw [VP];split<;>simp
theorem CQ (c:List Instr) (i:Nat) (js:LI):(Qm c i js).length=c.length:=by rw [Qm];split<;>simp
theorem NH:∀(es:List Nat) (c:List Instr),(TZ c es).length=c.length
 | [],_=>rfl
 | i::r,c=>by rw [TZ,NH r,BJ]
theorem Z0x {c t:List Instr} {i:Nat} {x:Instr} (h:c.length<=i):(c++t).set i x=c++t.set (i-c.length) x:=List.set_append_right _ _ h
theorem IM {c t:List Instr} {i:Nat} (h:c.length<=i):∃t',VP (c++t) i=c++t'/\t'.length=t.length:=by
 rw [VP]
 split
 ·exact ⟨t,rfl,rfl⟩
 ·exact ⟨_,Z0x h,by simp⟩
theorem Z78 {c t:List Instr} {i:Nat} {js:LI} (h:c.length<=i):∃t',Qm (c++t) i js=c++t'/\t'.length=t.length:=by
 rw [Qm]
 split
 ·exact ⟨t,rfl,rfl⟩
 ·exact ⟨_,Z0x h,by simp⟩
theorem NG {c:List Instr}:∀{es:List Nat} {t:List Instr},(∀i∈es,c.length<=i)->∃t',TZ (c++t) es=c++t'/\t'.length=t.length
 | [],t,_=>⟨t,rfl,rfl⟩
 | i::r,t,h=>by
  obtain ⟨t1,e1,l1⟩:=IM (t:=t) (h i (Xm ..))
  obtain ⟨t2,e2,l2⟩:=NG (es:=r) (t:=t1) fun j hj=>h j (Xt _ hj)
  exact ⟨t2,by rw [TZ,e1,e2],by rw [l2,l1]⟩
theorem Z42 (r:List Z8) (c:List Instr):∃t,EH r c=c++t:=by
 cases r with
 | nil=>exact ⟨[],by rw [TJ];rfl⟩
 | cons _ _=>exact ⟨_,rfl⟩
section
variable {E:Type} (X:AU E) (ds:List Zc)
mutual
theorem Z7w:∀(s:Z5) (e:E) (c:List Instr),∃t,Ud X ds e s c=c++t
 | .mk op num into args kids,e,c=>by
  rw [Ud]
  split
  ·exact Z7o kids e c
  split
  ·obtain ⟨t,h⟩:=Pc kids e 0 c [XL 21 0 num 0 args] [] [] (X5 _) (fun i hi=>by cases hi) (num:=num) (x:=gI args 0)
   exact ⟨t,h⟩
  split
  ·exact ⟨_,rfl⟩
  split
  ·exact ⟨_,rfl⟩
  ·exact ⟨_,rfl⟩
theorem Z7o:∀(bs:List Z8) (e:E) (c:List Instr) {args:LI},∃t,QG X ds e args bs c=c++t
 | [],e,c,_=>⟨[],by rw [QG,TJ]⟩
 | b::r,e,c,args=>by
  rw [QG]
  obtain ⟨t,h⟩:=EU b e (c++[XL 20 0 0 0 args])
  rw [h,W0,W0]
  exact Z7k r e c _ (X5 _)
theorem Z7k:∀(bs:List Z8) (e:E) (c t0:List Instr) {a:Nat},c.length<=a->∃t,Ka X ds e a bs (c++t0)=c++t
 | [],e,c,t0,_,_=>⟨t0,by rw [Ka]⟩
 | b::r,e,c,t0,a,ha=>by
  rw [Ka,W0]
  obtain ⟨t1,h1,_⟩:=IM (t:=t0++[XL 22 0 0 0 []]) ha
  rw [h1]
  obtain ⟨t2,h2⟩:=EU b e (c++t1)
  rw [h2,W0,W0]
  obtain ⟨t3,h3,_⟩:=IM (c:=c) (t:=t1++(t2++[XL 18 (X.len e) 0 0 [b.result]])) (i:=(c++t0).length) (by rw [ZV];exact Nat.le_add_right _ _)
  exact ⟨t3,h3⟩
theorem Pc:∀(bs:List Z8) (e:E) (k:Nat) (c t0:List Instr) (ts:LI) (es:List Nat) {num x:Int} {a:Nat},c.length<=a->(∀i∈es,c.length<=i)->∃t,Um X ds e num x a bs k (c++t0) ts es=c++t
 | [],e,k,c,t0,ts,es,num,x,a,ha,he=>by
  rw [Um]
  obtain ⟨t1,h1,_⟩:=Z78 (t:=t0) (js:=ts) ha
  obtain ⟨t2,h2,_⟩:=NG (t:=t1) he
  exact ⟨t2,by rw [h1,h2]⟩
 | b::r,e,k,c,t0,ts,es,num,x,a,ha,he=>by
  rw [Um]
  obtain ⟨t1,h1⟩:=EU b (X.arm e x num k) ((c++t0)++WI (X.len e) (WC ds num k).length x)
  rw [h1]
  obtain ⟨t2,h2⟩:=Z42 r ((((c++t0)++WI (X.len e) (WC ds num k).length x)++t1)++[XL 18 (X.len e) 0 0 [b.result]])
  rw [h2,W0,W0,W0,W0]
  refine Pc r e (k+1) c _ _ _ ha fun i hi=>?_
  cases r with
  | nil=>exact he i hi
  | cons _ _=>
   rcases Xf.1 hi with hi|hi
   ·exact he i hi
   ·rw [XE.1 hi]
    simp only [ZV]
    omega
theorem Ph:∀(xs:List Z5) (e:E) (c:List Instr),∃t,UJ X ds e xs c=c++t
 | [],e,c=>⟨[],by rw [UJ,TJ]⟩
 | s::r,e,c=>by
  obtain ⟨t1,h1⟩:=Z7w s e c
  obtain ⟨t2,h2⟩:=Ph r (if YO s.op=true then e else X.nxt e) (c++t1)
  exact ⟨t1++t2,by rw [UJ,h1,h2,W0]⟩
theorem EU:∀(b:Z8) (e:E) (c:List Instr),∃t,flB X ds e b c=c++t
 | .mk steps result,e,c=>by rw [flB];exact Ph steps e c
end
theorem Z7g {b:Z8} {e:E} {c:List Instr} {i:Nat} (h:i<c.length):(flB X ds e b c)[i]? = c[i]?:=by
 obtain ⟨t,ht⟩:=EU X ds b e c
 rw [ht,AN h]
variable {ds} (hd:Xs ds)
include hd
mutual
theorem Pe:∀(s:Z5) (e:E) (c:List Instr),(Ud X ds e s c).length<=c.length+16*s.sz
 | .mk op num into args kids,e,c=>by
  rw [Ud,Z5.sz]
  split
  ·have:=Z7n kids e c (args:=args);omega
  split
  ·have:=Pb kids e 0 (c++[XL 21 0 num 0 args]) [] [] (num:=num) (x:=gI args 0) (a:=c.length)
   simp only [ZV,Yp,Yx] at this
   omega
  split
  ·simp;omega
  split
  ·simp;omega
  ·simp;omega
theorem Z7n:∀(bs:List Z8) (e:E) (c:List Instr) {args:LI},(QG X ds e args bs c).length<=c.length+16*YU bs+3
 | [],e,c,_=>by rw [QG];omega
 | b::r,e,c,args=>by
  have h1:=BS b e (c++[XL 20 0 0 0 args])
  have h2:=Z7j r e (flB X ds e b (c++[XL 20 0 0 0 args])++[XL 18 (X.len e) 0 0 [b.result]]) (a:=c.length)
  rw [QG,YU]
  simp only [ZV,Yp,Yx] at h1 h2
  omega
theorem Z7j:∀(bs:List Z8) (e:E) (c:List Instr) {a:Nat},(Ka X ds e a bs c).length<=c.length+16*YU bs+1
 | [],e,c,_=>by rw [Ka];omega
 | b::r,e,c,a=>by
  have h1:=BS b e (VP (c++[XL 22 0 0 0 []]) a)
  rw [Ka,BJ,YU]
  rw [BJ] at h1
  simp only [ZV,Yp,Yx] at h1 ⊢
  omega
theorem Pb:∀(bs:List Z8) (e:E) (k:Nat) (c:List Instr) (ts:LI) (es:List Nat) {num x:Int} {a:Nat},(Um X ds e num x a bs k c ts es).length<=c.length+16*YU bs
 | [],e,k,c,ts,es,num,x,a=>by rw [Um,NH,CQ];simp [YU]
 | b::r,e,k,c,ts,es,num,x,a=>by
  have h1:=BS b (X.arm e x num k) (c++WI (X.len e) (WC ds num k).length x)
  have h2:=Pb r e (k+1) (EH r (flB X ds (X.arm e x num k) b (c++WI (X.len e) (WC ds num k).length x)++[XL 18 (X.len e) 0 0 [b.result]])) (ts++[(c.length:Int)])
   (NN r es (flB X ds (X.arm e x num k) b (c++WI (X.len e) (WC ds num k).length x)).length) (num:=num) (x:=x) (a:=a)
  have h3:∀c':List Instr,(EH r c').length<=c'.length+1:=fun c'=>by cases r with
   | nil=>exact Nat.le_succ _
   | cons _ _=>show (c'++[XL 22 0 0 0 []]).length<=_;simp
  have h4:=h3 (flB X ds (X.arm e x num k) b (c++WI (X.len e) (WC ds num k).length x)++[XL 18 (X.len e) 0 0 [b.result]])
  have h5:=GU hd num k
  have h6:(WI (X.len e) (WC ds num k).length x).length=(WC ds num k).length:=by simp [WI]
  rw [Um,YU]
  simp only [ZV,Yp,Yx,h6] at h1 h2 h4 ⊢
  omega
theorem Pg:∀(xs:List Z5) (e:E) (c:List Instr),(UJ X ds e xs c).length<=c.length+16*Yu xs
 | [],e,c=>by rw [UJ,Yu];omega
 | s::r,e,c=>by
  have h1:=Pe s e c
  have h2:=Pg r (if YO s.op=true then e else X.nxt e) (Ud X ds e s c)
  rw [UJ,Yu];omega
theorem BS:∀(b:Z8) (e:E) (c:List Instr),(flB X ds e b c).length+16<=c.length+16*b.sz
 | .mk steps result,e,c=>by
  have:=Pg steps e c
  rw [flB,Z8.sz];omega
end
end
def Km (m:Int) (x:Instr):Int:=x.args.foldl (fun m a=>max m (a+1)) (max m (x.dst+1))
def Uv (m:Int) (c:List Instr):Int:=c.foldl Km m
structure AW (x:Instr):Prop where
 dst:0<=x.dst/\x.dst<=1000000000
 len:x.args.length<=10000200
 args:∀a∈x.args,0<=a/\a<=1000000000
 js:x.jumps.length<=300000000
def Rg (c:List Instr):Prop:=∀x∈c,AW x
theorem RS:∀{l:LI} {m:Int},(∀a∈l,0<=a/\a<=1000000000)->0<=m/\m<=1000000001->m<=l.foldl (fun m a=>max m (a+1)) m/\l.foldl (fun m a=>max m (a+1)) m<=1000000001
 | [],m,_,h=>⟨Int.le_refl _,h.2⟩
 | a::r,m,ha,h=>by
  have h1:=ha a (Xm ..)
  have h2:=RS (l:=r) (m:=max m (a+1)) (fun b hb=>ha b (Xt _ hb)) om
  rw [List.foldl_cons]
  omega
theorem Zec {x:Instr} {m:Int} (hx:AW x) (h:0<=m/\m<=1000000001):m<=Km m x/\Km m x<=1000000001:=by
 have h1:=hx.dst
 have h2:=RS (m:=max m (x.dst+1)) hx.args om
 rw [Km];omega
theorem SQ:∀{c:List Instr} {m:Int},Rg c->0<=m/\m<=1000000001->m<=Uv m c/\Uv m c<=1000000001
 | [],m,_,h=>⟨Int.le_refl _,h.2⟩
 | x::r,m,hc,h=>by
  have h1:=Zec (hc x (Xm ..)) h
  have h2:=SQ (c:=r) (m:=Km m x) (fun y hy=>hc y (Xt _ hy)) om
  show m<=Uv (Km m x) r/\_
  exact ⟨by omega,h2.2⟩
theorem RT:∀(l:LI) (a m:Int),l.foldl (fun m a=>max m (a+1)) (max a m)=max a (l.foldl (fun m a=>max m (a+1)) m)
 | [],_,_=>rfl
 | x::r,a,m=>by rw [List.foldl_cons,List.foldl_cons,<-RT r];congr 1;omega
theorem Zed (x:Instr) (a m:Int):Km (max a m) x=max a (Km m x):=by
 rw [Km,Km,<-RT];congr 1;omega
theorem SR:∀(c:List Instr) (a m:Int),Uv (max a m) c=max a (Uv m c)
 | [],_,_=>rfl
 | x::r,a,m=>by
  show Uv (Km (max a m) x) r=max a (Uv (Km m x) r)
  rw [Zed,SR r]
theorem Zee (c:List Instr) {a:Int} (h:0<=a):Uv a c=max a (Uv 0 c):=by
 rw [<-SR];congr 1;omega
theorem Rg.nil:Rg []:=fun _ h=>by cases h
theorem Rg.app {c d:List Instr} (h1:Rg c) (h2:Rg d):Rg (c++d):=fun x hx=>(Xf.1 hx).elim (h1 x) (h2 x)
theorem Rg.one {x:Instr} (h:AW x):Rg [x]:=fun y hy=>by rw [XE.1 hy];exact h
theorem Rg.snoc {c:List Instr} {x:Instr} (h1:Rg c) (h2:AW x):Rg (c++[x]):=h1.app (.one h2)
theorem Rg.set {c:List Instr} {x y:Instr} {i:Nat} (hx:c[i]? = some x) (h:Rg c) (h1:y.dst=x.dst) (h2:y.args=x.args) (h3:y.jumps.length<=300000000):Rg (c.set i y):=fun z hz=>by
 have hr:=h x (Y4 hx)
 rcases List.mem_or_eq_of_mem_set hz with hz|rfl
 ·exact h z hz
 ·exact ⟨by rw [h1];exact hr.dst,by rw [h2];exact hr.len,by rw [h2];exact hr.args,h3⟩
theorem Rg.aim {c:List Instr} (h:Rg c) (i:Nat):Rg (VP c i):=by
 rw [VP]
 split
 ·exact h
 ·rename_i x hx;exact h.set hx rfl rfl (h x (Y4 hx)).js
theorem Rg.fan {c:List Instr} (h:Rg c) (i:Nat) {js:LI} (hj:js.length<=300000000):Rg (Qm c i js):=by
 rw [Qm]
 split
 ·exact h
 ·rename_i x hx;exact h.set hx rfl rfl hj
theorem Rg.aims:∀{es:List Nat} {c:List Instr},Rg c->Rg (TZ c es)
 | [],_,h=>h
 | i::r,c,h=>by rw [TZ];exact Rg.aims (h.aim i)
theorem AW.mk' {op dst num into:Int} {args:LI} (h1:0<=dst/\dst<=1000000000) (h2:args.length<=10000200) (h3:∀a∈args,0<=a/\a<=1000000000):AW (XL op dst num into args):=⟨h1,h2,h3,QB _⟩
mutual
def Ei:Z5->Prop
 | .mk _ _ _ args kids=>(args.length<=10000100/\∀a∈args,0<=a/\a<=900000000)/\Dg kids
def Dg:List Z8->Prop
 | []=>True
 | b::r=>Eh b/\Dg r
def FF:List Z5->Prop
 | []=>True
 | s::r=>Ei s/\FF r
def Eh:Z8->Prop
 | .mk steps result=>FF steps/\0<=result/\result<=900000000
end
theorem Zeo (s:Z5):Ei s↔(s.args.length<=10000100/\∀a∈s.args,0<=a/\a<=900000000)/\Dg s.kids:=by cases s;rw [Ei];rfl
theorem HT (b:Z8):Eh b↔FF b.steps/\0<=b.result/\b.result<=900000000:=by cases b;rw [Eh];rfl
section
variable {n:ZG}
end
structure Nw {E:Type} (X:AU E) (G:E->Nat->Prop):Prop where
 len:∀{e q},G e q->X.len e<=q
 res:∀{e q},G e q->∀x,(∀v∈X.res e x,0<=v/\v<=q+3)/\(X.res e x).length<=3
 nxt:∀{e q},G e q->G (X.nxt e) (q+1)
 up:∀{e q q'},G e q->q<=q'->G e q'
 arm:∀{e q},G e q->∀x num k,G (X.arm e x num k) (q+3)
theorem Z35 {m many:Nat} {x:Int} (hm:many<=3) (h:m<=900000000) (hx:0<=x/\x<=900000000):Rg (WI m many x):=fun y hy=>by
 rw [WI] at hy
 obtain ⟨i,hi,rfl⟩:=Xz.1 hy
 have:=List.mem_range.1 hi
 exact .mk' om (by simp) fun a ha=>by rw [XE.1 ha];omega
theorem IC {m:Nat} {r:Int} (h:m<=900000000) (hr:0<=r/\r<=900000000):AW (XL 18 m 0 0 [r]):=.mk' om (by simp) fun a ha=>by rw [XE.1 ha];omega
theorem Ny {op num:Int}:AW (XL op 0 num 0 []):=.mk' om (by simp) fun a ha=>by cases ha
theorem Gj {op dst num into:Int} {args:LI} (hd:0<=dst/\dst<=900000000) (h:args.length<=10000100/\∀a∈args,0<=a/\a<=900000000):AW (XL op dst num into args):=.mk' om om fun a ha=>by have:=h.2 a ha;omega
theorem Z34 {r:List Z8} {c:List Instr} (h:Rg c):Rg (EH r c):=by
 cases r with
 | nil=>exact h
 | cons _ _=>exact h.snoc Ny
section
variable {E:Type} {X:AU E} {ds:List Zc} {G:E->Nat->Prop} (hX:Nw X G) (hd:Xs ds)
include hX hd
mutual
theorem Z7x:∀(s:Z5) {e:E} {q:Nat} {c:List Instr},wS ds s->G e q->q+4*s.sz<=900000000->Ei s->Rg c->Rg (Ud X ds e s c)
 | .mk op num into args kids,e,q,c,hw,hg,hq,hs,hc=>by
  have hl:=hX.len hg
  obtain ⟨h1,h2⟩:=(Zeo _).1 hs
  have h1':args.length<=10000100/\∀a∈args,0<=a/\a<=900000000:=h1
  rw [Z5.sz] at hq
  rw [Ud]
  split
  ·exact Z7p kids hw.2.2.2 hg om h2 h1' hc
  split
  ·rename_i h8
   obtain ⟨a,ha,ha2⟩:=(hw.2.2.1 h8).1
   have hkl:=O1 kids
   exact Pd kids hw.2.2.2 hg om h2 (by rw [ha];exact ha2) (by rw [Yx];omega) (hc.snoc (Gj om h1'))
  split
  ·exact hc.snoc (Gj om h1')
  split
  ·have h3:=hX.res hg (gI args 0)
   refine hc.snoc (.mk' om (by rw [ZV];omega) fun a ha=>?_)
   rcases Xf.1 ha with ha|ha
   ·have:=h1'.2 a ha;omega
   ·have:=h3.1 a ha;omega
  ·exact hc.snoc (Gj om h1')
theorem Z7p:∀(bs:List Z8) {e:E} {q:Nat} {c:List Instr} {args:LI},Jx ds bs->G e q->q+4*YU bs<=900000000->Dg bs->args.length<=10000100/\(∀a∈args,0<=a/\a<=900000000)->Rg c->Rg (QG X ds e args bs c)
 | [],e,q,c,args,_,_,_,_,_,hc=>by rw [QG];exact hc
 | b::r,e,q,c,args,hw,hg,hq,hs,ha,hc=>by
  rw [YU] at hq
  have hl:=hX.len hg
  rw [QG]
  exact Z7l r hw.2 hg om hs.2 ((GX b hw.1 hg om hs.1 (hc.snoc (Gj om ha))).snoc (IC om ((HT b).1 hs.1).2))
theorem Z7l:∀(bs:List Z8) {e:E} {q:Nat} {c:List Instr} {a:Nat},Jx ds bs->G e q->q+4*YU bs<=900000000->Dg bs->Rg c->Rg (Ka X ds e a bs c)
 | [],e,q,c,a,_,_,_,_,hc=>by rw [Ka];exact hc
 | b::r,e,q,c,a,hw,hg,hq,hs,hc=>by
  rw [YU] at hq
  have hl:=hX.len hg
  rw [Ka]
  exact ((GX b hw.1 hg om hs.1 ((hc.snoc Ny).aim a)).snoc (IC om ((HT b).1 hs.1).2)).aim _
theorem Pd:∀(bs:List Z8) {e:E} {q:Nat} {k:Nat} {c:List Instr} {ts:LI} {es:List Nat} {num x:Int} {a:Nat},Jx ds bs->G e q->q+4*YU bs<=900000000->Dg bs->0<=x/\x<=900000000->ts.length+bs.length<=300000000->Rg c->Rg (Um X ds e num x a bs k c ts es)
 | [],e,q,k,c,ts,es,num,x,a,_,_,_,_,_,ht,hc=>by rw [Um];exact (hc.fan _ ht).aims
 | b::r,e,q,k,c,ts,es,num,x,a,hw,hg,hq,hs,hx,ht,hc=>by
  rw [Yp] at ht
  rw [YU] at hq
  have hl:=hX.len hg
  have hp:=b.sz_eq
  rw [Um]
  exact Pd r hw.2 hg om hs.2 hx (by rw [ZV,BA];omega) (Z34 ((GX b hw.1 (hX.arm hg x num k) om hs.1 (hc.app (Z35 (GU hd num k) om hx))).snoc (IC om ((HT b).1 hs.1).2)))
theorem Pi:∀(xs:List Z5) {e:E} {q:Nat} {c:List Instr},QW ds xs->G e q->q+4*Yu xs<=900000000->FF xs->Rg c->Rg (UJ X ds e xs c)
 | [],e,q,c,_,_,_,_,hc=>by rw [UJ];exact hc
 | s::r,e,q,c,hw,hg,hq,hs,hc=>by
  rw [Yu] at hq
  have hp:=s.sz_pos
  rw [UJ]
  refine Pi r (q:=q+1) hw.2 ?_ om hs.2 (Z7x s hw.1 hg om hs.1 hc)
  split
  ·exact hX.up hg om
  ·exact hX.nxt hg
theorem GX:∀(b:Z8) {e:E} {q:Nat} {c:List Instr},wB ds b->G e q->q+4*b.sz<=900000004->Eh b->Rg c->Rg (flB X ds e b c)
 | .mk steps result,e,q,c,hw,hg,hq,hs,hc=>by
  rw [Z8.sz] at hq
  rw [flB]
  exact Pi steps hw hg om hs.1 hc
end
end
theorem Zfy {ds:List Zc} (hd:Xs ds):Nw (XN ds) (fun e q=>e.1.length<=q/\∀v∈e.2,0<=v/\v<=q):=by
 refine ⟨fun h=>h.1,fun {e q} h x=>?_,fun {e q} h=>⟨by simp [XN];exact h.1,fun v hv=>?_⟩,fun h hq=>⟨by have:=h.1;omega,fun v hv=>by have:=h.2 v hv;omega⟩,fun {e q} h x num k=>⟨?_,fun v hv=>?_⟩⟩
 ·have h1:=Vq hd (gI e.1 x)
  have h2:0<=gI e.2 x/\gI e.2 x<=q:=if z:gI e.2 x=0 then om else h.2 _ (H1 z)
  exact ⟨fun v hv=>by have:=M2 hv;omega,Vm (Hb _ _) h1⟩
 ·rcases Xf.1 hv with hv|hv
  ·have:=h.2 v hv;omega
  ·rw [XE.1 hv];omega
 ·have h1:=Vq hd (CE ds num k)
  have h2:=h.1
  show (e.1.set _ _++XH _).length<=_
  rw [ZV,VF,E9];omega
 ·have h1:=Vq hd (CE ds num k)
  have h2:=h.1
  rcases Xf.1 hv with hv|hv
  ·rcases List.mem_or_eq_of_mem_set hv with hv|rfl
   ·have:=h.2 v hv;omega
   ·omega
  ·have:=HF _ v hv;omega
def GB (B:List Nat):Yk:=fun b _=>b∈B
section
variable {w:World} {G:Yk} {B:List Nat}
end
section
variable {w:World} {G:Yk} {B:List Nat}
def PU:Value->Hd
 | .slice a l c=>⟨a,l,c⟩
 | _=>⟨none,0,0⟩
abbrev av (y:Nx):AV:=.agg [.h (PU y.dv),.h (PU y.rv)]
end
def Z33 (B:List Nat) (m:Mem) (x:AV) (u:Value):Prop:=
 ∀w:World,(∀b∈B,∃cs e,w.heap[b]? = some (.cells cs e (0,0))/\∀o,cs[o]? = m b o)->RV w (GB B) x u
inductive EE (bs:List Res):List AV->List AV->Prop
 | nil:EE bs [] []
 | same {x as1 xs} (t:EE bs as1 xs):EE bs (x::as1) (x::xs)
 | gen {B m x a u as1 xs} (h:Res.own B m∈bs) (hr:Z33 B m x u) (ha:∀w G v,RV w G a v->v=u) (t:EE bs as1 xs):EE bs (a::as1) (x::xs)
section
variable {P:Program} {n:Nat} {ops:Array Oper} {B:Fr->List Res->Prop} {k:Nat} {F:Fr} {h:List Res}
end
section
variable {m m':Mem} {B:List Nat}
end
section
variable {w:World} {G:Yk} {B:List Nat}
end
def Zej (r:Int):Instr:=XL 23 0 0 0 [r]
def Ur (ds:List Zc) (rt:YE):List Instr:=flB (XN ds) ds (XH rt.params.length,XH rt.params.length) rt.body []++[Zej rt.body.result]
def S0:Yy:=⟨[],[]⟩
section
variable {ds:List Zc} {b:Bool}
end
section
variable {n:ZG} (hn:Xw n) (hz:Ad n) (hbt:∀r∈n.routines,0<=W6 n r.params r.body)
include hn hz hbt
end
section
variable {N:Mem} {g o:Nat} {z:Int}
end
structure Zje (im:Yy):Prop where
 decls:Z5x im.decls<=1000000000
 procs:im.procs.length<=4
 params:∀p∈im.procs,p.params.length<=1000000000
 lent:∀p∈im.procs,p.lent.length<=1000000000
 code:∀p∈im.procs,p.code.length<=2000
 args:∀p∈im.procs,∀x∈p.code,x.args.length<=10000200
 jumps:∀p∈im.procs,∀x∈p.code,x.jumps.length<=300000000
section
variable {n:ZG} (hz:Ad n) (hB:Z4b n=true)
include hz hB
end
end Go.Abs
section
namespace Go.Abs
def Zr (c:List Instr) (i:Nat):Prop:=∃x,c[i]? = some x/\x.dst=0/\x.into=0
section
variable {c t:List Instr} {i j:Nat}
theorem Zr.lt (h:Zr c i):i<c.length:=by obtain ⟨x,hx,_⟩:=h;exact (X9.1 hx).1
theorem Zr.new {x:Instr} (h1:x.dst=0) (h2:x.into=0):Zr (c++[x]) c.length:=⟨x,by simp,h1,h2⟩
theorem Zr.app (h:Zr c i):Zr (c++t) i:=by
 obtain ⟨x,hx,h1⟩:=h
 exact ⟨x,by rw [AN ((X9.1 hx).1)];exact hx,h1⟩
theorem Zr.flB {E:Type} {X:AU E} {ds:List Zc} {e:E} {b:Z8} (h:Zr c i):Zr (flB X ds e b c) i:=by
 obtain ⟨t,ht⟩:=EU X ds b e c
 rw [ht];exact h.app
theorem Zr.set {x y:Instr} (h:Zr c i) (hx:c[j]? = some x) (h1:y.dst=x.dst) (h2:y.into=x.into):Zr (c.set j y) i:=by
 obtain ⟨z,hz,h3,h4⟩:=h
 by_cases e:j=i
 ·subst e
  rw [hx] at hz
  cases hz
  exact ⟨y,by rw [List.getElem?_set_self (X9.1 hx).1],h1.trans h3,h2.trans h4⟩
 ·exact ⟨z,by rw [List.getElem?_set_ne e];exact hz,h3,h4⟩
theorem Zr.aim (h:Zr c i):Zr (VP c j) i:=by
 rw [VP]
 split
 ·exact h
 ·rename_i x hx;exact h.set hx rfl rfl
theorem Zr.fan {js:LI} (h:Zr c i):Zr (Qm c j js) i:=by
 rw [Qm]
 split
 ·exact h
 ·rename_i x hx;exact h.set hx rfl rfl
end
theorem EX {c t:List Instr} {i:Nat} {x:Instr} (h:c[i]? = some x):(c++t)[i]? = some x:=by rw [AN (X9.1 h).1];exact h
theorem PR {c:List Instr} {i:Nat} {x:Instr} {E:Type} {X:AU E} {ds:List Zc} {e:E} {b:Z8} (h:c[i]? = some x):(flB X ds e b c)[i]? = some x:=by
 rw [Z7g X ds (X9.1 h).1];exact h
theorem Z3h {c:List Instr} {i:Nat} {x:Instr} (h:c[i]? = some x):VP c i=c.set i (x.goto c.length):=by rw [VP,h]
theorem Z79 {c:List Instr} {i:Nat} {x:Instr} {js:LI} (h:c[i]? = some x):Qm c i js=c.set i (x.fan js):=by rw [Qm,h]
theorem Z3i {c:List Instr} {i:Nat} {x:Instr} (h:c[i]? = some x) (h1:x.dst=0) (h2:x.into=0):c.set i ⟨x.op,0,c.length,0,x.args,x.jumps⟩=VP c i:=by
 rw [Z3h h,Instr.goto,h1,h2]
theorem Z7a {c:List Instr} {i:Nat} {num:Int} {args js:LI} (h:c[i]? = some (XL 21 0 num 0 args)):c.set i ⟨21,0,num,0,args,js⟩=Qm c i js:=by
 rw [Z79 h];rfl
def QR (es:List Nat):LI:=es.map Int.ofNat
theorem HH (es:List Nat):(QR es).length=es.length:=by simp [QR]
theorem Zdd {es:List Nat} {k e:Nat} (h:es[k]? = some e):(QR es)[k]? = some (e:Int):=by simp [QR,h]
theorem Zde (es:List Nat) (e:Nat):QR es++[(e:Int)]=QR (es++[e]):=by simp [QR]
theorem RQ (m k:Nat) (x:Int):WI m (k+1) x=WI m k x++[XL 19 ((m+k:Nat):Int) (k:Int) 0 [x]]:=by simp [WI,List.range_succ]
theorem HB (m k:Nat) (x:Int):(WI m k x).length=k:=by simp [WI]
theorem Z3k {es:List Nat} {k e:Nat} {c d:List Instr} (h:es[k]? = some e) (ha:TZ c (es.drop k)=d):TZ (VP c e) (es.drop (k+1))=d:=by rw [Yi h,TZ] at ha;exact ha
theorem Z3j {es:List Nat} {k:Nat} {c d:List Instr} (h:es.length<=k) (ha:TZ c (es.drop k)=d):c=d:=by rw [Xn h,TZ] at ha;exact ha
section
variable {E:Type} {X:AU E} {ds:List Zc} {e:E}
theorem EV (s:Z5) (c:List Instr):Ud X ds e s c=(if s.op=7 then QG X ds e s.args s.kids c
  else if s.op=8 then Um X ds e s.num (gI s.args 0) c.length s.kids 0 (c++[XL 21 0 s.num 0 s.args]) [] []
  else if s.op=14∨s.op=15 then c++[XL s.op 0 0 0 s.args]
  else if s.op=16∨s.op=17 then c++[XL s.op 0 0 0 (s.args++X.res e (gI s.args 0))]
  else c++[XL s.op (X.len e) s.num s.into s.args]):=by cases s;rw [Ud];rfl
theorem Z7t {s:Z5} {c:List Instr} {k0 k1:Z8} (h:s.op=7) (hk:s.kids=[k0,k1]):Ud X ds e s c =
  VP (flB X ds e k1 (VP ((flB X ds e k0 (c++[XL 20 0 0 0 s.args])++[XL 18 (X.len e) 0 0 [k0.result]])++[XL 22 0 0 0 []]) c.length)++[XL 18 (X.len e) 0 0 [k1.result]]) (flB X ds e k0 (c++[XL 20 0 0 0 s.args])++[XL 18 (X.len e) 0 0 [k0.result]]).length:=by
 rw [EV,Zh h,hk,QG,Ka]
theorem Z7u {s:Z5} {c:List Instr} (h:s.op=8):Ud X ds e s c=Um X ds e s.num (gI s.args 0) c.length s.kids 0 (c++[XL 21 0 s.num 0 s.args]) [] []:=by
 rw [EV,Zb om,Zh h]
theorem Z7q {s:Z5} {c:List Instr} (h:s.op=14∨s.op=15):Ud X ds e s c=c++[XL s.op 0 0 0 s.args]:=by
 rw [EV,Zb om,Zb om,Zh h]
theorem Z7v {s:Z5} {c:List Instr} (h:s.op=16∨s.op=17):Ud X ds e s c=c++[XL s.op 0 0 0 (s.args++X.res e (gI s.args 0))]:=by
 rw [EV,Zb om,Zb om,Zb om,Zh h]
theorem Z7r {s:Z5} {c:List Instr} (h7:s.op≠7) (h8:s.op≠8) (h1:¬(s.op=14∨s.op=15)) (h2:¬(s.op=16∨s.op=17)):Ud X ds e s c=c++[XL s.op (X.len e) s.num s.into s.args]:=by
 rw [EV,Zb h7,Zb h8,Zb h1,Zb h2]
theorem Z7h (b:Z8) (c:List Instr):flB X ds e b c=UJ X ds e b.steps c:=by cases b;rw [flB];rfl
theorem Pj {xs:List Z5} {k:Nat} {s:Z5} {c d:List Instr} (h:xs[k]? = some s) (ha:UJ X ds e (xs.drop k) c=d):UJ X ds (if YO s.op=true then e else X.nxt e) (xs.drop (k+1)) (Ud X ds e s c)=d:=by
 rw [Yi h,UJ] at ha;exact ha
theorem Z7y {xs:List Z5} {k:Nat} {c d:List Instr} (h:xs.length<=k) (ha:UJ X ds e (xs.drop k) c=d):c=d:=by
 rw [Xn h,UJ] at ha;exact ha
theorem Z7d {bs:List Z8} {num x:Int} {a k j:Nat} {c d:List Instr} {ts:LI} {es:List Nat} (h:bs.length<=k) (ha:Um X ds e num x a (bs.drop k) j c ts es=d):TZ (Qm c a ts) es=d:=by
 rw [Xn h,Um] at ha;exact ha
theorem Z7e {bs:List Z8} {b:Z8} {num x:Int} {a k:Nat} {c d:List Instr} {ts:LI} {es:List Nat} (hb:bs[k]? = some b) (hl:k+1<bs.length) (ha:Um X ds e num x a (bs.drop k) k c ts es=d) :
  Um X ds e num x a (bs.drop (k+1)) (k+1) ((flB X ds (X.arm e x num k) b (c++WI (X.len e) (WC ds num k).length x)++[XL 18 (X.len e) 0 0 [b.result]])++[XL 22 0 0 0 []]) (ts++[(c.length:Int)])
   (es++[(flB X ds (X.arm e x num k) b (c++WI (X.len e) (WC ds num k).length x)++[XL 18 (X.len e) 0 0 [b.result]]).length])=d:=by
 rw [Yi hb,Um] at ha
 rw [ZV (bs:=[XL 18 (X.len e) 0 0 [b.result]])]
 obtain ⟨y,hy⟩:=Bf (xs:=bs) (j:=k+1) om
 have hd:=Yi hy
 rw [hd] at ha ⊢
 exact ha
theorem Z7f {bs:List Z8} {b:Z8} {num x:Int} {a k:Nat} {c d:List Instr} {ts:LI} {es:List Nat} (hb:bs[k]? = some b) (hl:bs.length=k+1) (ha:Um X ds e num x a (bs.drop k) k c ts es=d) :
  Um X ds e num x a (bs.drop (k+1)) (k+1) (flB X ds (X.arm e x num k) b (c++WI (X.len e) (WC ds num k).length x)++[XL 18 (X.len e) 0 0 [b.result]]) (ts++[(c.length:Int)]) es=d:=by
 rw [Yi hb,Um] at ha
 rw [Xn om] at ha ⊢
 exact ha
end
end Go.Abs
namespace Go.Abs
theorem O2:∀{bs:List Z8} {k:Nat} {b:Z8},bs[k]? = some b->YU (bs.take (k+1))=YU (bs.take k)+b.sz/\YU (bs.take k)+b.sz<=YU bs
 | [],_,_,h=>by simp at h
 | x::r,0,b,h=>by simp at h;subst h;simp [YU]
 | x::r,k+1,b,h=>by
  obtain ⟨h1,h2⟩:=O2 (bs:=r) (k:=k) (b:=b) (by simpa using h)
  simp only [AO,YU]
  omega
theorem Zeh {c:List Instr} {k:Nat} {x:Instr} {m q R:Int} (h:c[k]? = some x) (hq:q=Km m x) (ha:Uv m (c.drop k)=R):Uv q (c.drop (k+1))=R:=by
 subst hq;rw [Yi h] at ha;exact ha
theorem Zeg {c:List Instr} {k:Nat} {m R:Int} (h:c.length<=k) (ha:Uv m (c.drop k)=R):m=R:=by rw [Xn h] at ha;exact ha
theorem Zcw {l:LI} {j:Nat} {a m R:Int} (h:l[j]? = some a) (ha:(l.drop j).foldl (fun m a=>max m (a+1)) m=R):(l.drop (j+1)).foldl (fun m a=>max m (a+1)) (max m (a+1))=R:=by
 rw [Yi h] at ha;exact ha
theorem Zcv {l:LI} {j:Nat} {m R:Int} (h:l.length<=j) (ha:(l.drop j).foldl (fun m a=>max m (a+1)) m=R):m=R:=by rw [Xn h] at ha;exact ha
theorem Z2z (k:Nat) (h:k<=1000000000):TM (XH k):=fun f hf=>by have:=HF k f hf;omega
theorem Zef (c:List Instr) (p:Nat):Uv (p:Int) c=max (Uv 0 c) (p:Int):=by rw [Zee c om];omega
theorem WJ {p:Prop} (h:p:=by first|omega|(simp only [BJ,CQ,ZV,Yp,Yx,HB,HH,E9,VF];omega)):p:=h
end Go.Abs
end
namespace Go.Abs
structure NTu (n:ZG):Prop where
 result:∀r∈n.routines,r.result<=(n.decls.length:Int)
 decl:∀d∈n.decls,d.cons.length=0->d.to_<=(n.decls.length:Int)
 fields:∀c,∀f∈ZO n.decls c,f<=(n.decls.length:Int)
section
variable {n:ZG} (hu:NTu n)
include hu
end



structure ZS (n:ZG) (q l:Nat):Prop where
 decls:AD n.decls
 len:1<=n.routines.length/\n.routines.length<=4
 rt:∀r∈n.routines,r.params.length<=3/\r.lent.length<=l/\r.body.sz<=q/\r.body.rng
 rb:∀r∈n.routines,r.body.rb
section
variable {n n2:ZG} (hd:n2.decls=n.decls) (hr:∀vars op num args,Ko n2 vars op num args=Ko n vars op num args)
include hd hr
end
section
variable {n:ZG}
end
noncomputable instance decBlock:DecidableEq Z8:=fun a b=>Classical.propDecidable (a=b)
noncomputable instance decStep:DecidableEq Z5:=fun a b=>Classical.propDecidable (a=b)
noncomputable instance decDecls:DecidableEq Zc:=fun a b=>Classical.propDecidable (a=b)
noncomputable instance decNormal:DecidableEq ZG:=fun a b=>Classical.propDecidable (a=b)

section
variable {ds:List Zc}
end
def Zbz (am:List JB) (x:Int):Bool:=am.any fun o=>o.chg&&(o.mat==x)
def S1 (am:List JB) (a:JB) (b:Z8):Prop:=Zbz am a.mat=true∨(Vx b.steps a.mat<0∨WF b.steps a.fds.length<0)
instance (am:List JB) (a:JB) (b:Z8):Decidable (S1 am a b):=by unfold S1;infer_instance

section
variable {ds:List Zc}
end
section
variable {n:ZG}
end
section
variable {ds:List Zc}
end
structure CR2 (c d:LI):Prop where
 l1:c.length=4
 l2:d.length=4
 a:gI c 0=gI d 0
 b:gI c 1=gI d 1
 s:gI c 2+gI c 3=gI d 2+gI d 3
section
variable {ds:List Zc}
end
section
variable {ds:List Zc}
end

structure Zjb (n:ZG) (r:YE) (k:Nat) (L:ZL):Prop where
 ok:XJ n.decls L (1+4*r.body.sz)
 pre:∃ws,L.vars=r.params++ws
 len:L.vars.length<=r.params.length+r.body.sz
 ty:∀s,r.body.steps[k]? = some s->0<=YZ n L.vars s
end Go.Abs
section
namespace Go.Abs
section
variable {n n2:ZG} (hd:n2.decls=n.decls) (hr:∀vars op num args,Ko n2 vars op num args=Ko n vars op num args) (hl:∀op num,E5 n2 op num=E5 n op num)
include hd hr hl
omit hd hr in
omit hd hr in
omit hr in
end
end Go.Abs
namespace Go.Abs
end Go.Abs
end
namespace Go.Abs
section
variable {ds:List Zc}
end
section
variable {n:ZG}
end
structure SC (f g:Int->Nat) (same:Prop):Prop where
 a:f 14<=g 14
 c:g 16<=f 16
 d:f 17=g 17
 e:f 16=g 16->same
section
variable {ds:List Zc}
end
end Go.Abs
