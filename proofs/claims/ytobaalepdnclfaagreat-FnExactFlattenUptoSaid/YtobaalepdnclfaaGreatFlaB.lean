/-
  A part of the proof of FnExactFlattenUptoSaid (see the last file): no condition.
-/
import Derived.Test.YtobaalepdnclfaaGreatFlaA
import Derived.Test.YtobaalepdnclfaaGreatRows
import Derived.Deep.Slices
import Derived.ChangeArms
import Derived.Test.YtobaalepdnclfaaGreatProg
set_option linter.all false
set_option linter.unusedVariables false
set_option linter.unusedSimpArgs false
set_option linter.unusedSectionVars false
set_option maxRecDepth 10000
set_option maxHeartbeats 4000000
section
namespace Go.Abs
structure HCon where
 fields:List Int
 fv:Value
structure HDecl where
 frm:Int
 to_:Int
 cons:List HCon
 cv:Value
mutual
inductive HStep where
 | mk (op num into:Int) (args:List Int) (av:Value) (kids:List HBlock) (kv:Value)
inductive HBlock where
 | mk (steps:List HStep) (sv:Value) (result:Int)
end
namespace HStep
def op:HStep->Int|.mk a _ _ _ _ _ _=>a
def num:HStep->Int|.mk _ a _ _ _ _ _=>a
def into:HStep->Int|.mk _ _ a _ _ _ _=>a
def args:HStep->List Int|.mk _ _ _ a _ _ _=>a
def av:HStep->Value|.mk _ _ _ _ a _ _=>a
def kids:HStep->List HBlock|.mk _ _ _ _ _ a _=>a
def kv:HStep->Value|.mk _ _ _ _ _ _ a=>a
end HStep
namespace HBlock
def steps:HBlock->List HStep|.mk a _ _=>a
def sv:HBlock->Value|.mk _ a _=>a
def result:HBlock->Int|.mk _ _ a=>a
end HBlock
structure HRoutine where
 params:List Int
 pv:Value
 lent:List Int
 lv:Value
 result:Int
 body:HBlock
structure HNormal where
 decls:List HDecl
 dv:Value
 routines:List HRoutine
 rv:Value
abbrev KX (c:HCon):List AV:=[Zb c.fields c.fv]
abbrev Z6h (c:HCon):AV:=.agg (KX c)
def Xp (cs:List HCon):List AV:=cs.map Z6h
abbrev Q3 (xs:List HCon) (v:Value):AV:=.sl (Xp xs) (some v)
abbrev KY (d:HDecl):List AV:=[.i d.frm,.i d.to_,Q3 d.cons d.cv]
abbrev Z6i (d:HDecl):AV:=.agg (KY d)
def X2 (ds:List HDecl):List AV:=ds.map Z6i
abbrev Vk (xs:List HDecl) (v:Value):AV:=.sl (X2 xs) (some v)
mutual
def Z7u:HStep->AV
 | .mk op num into args av kids kv=>.agg [.i op,.i num,.i into,Zb args av,.sl (We kids) (some kv)]
def Z7q:HBlock->AV
 | .mk steps sv result=>.agg [.sl (Wf steps) (some sv),.i result]
def Wf:List HStep->List AV
 | []=>[]
 | s::ss=>Z7u s::Wf ss
def We:List HBlock->List AV
 | []=>[]
 | b::bs=>Z7q b::We bs
end
abbrev Ue (xs:List HStep) (v:Value):AV:=.sl (Wf xs) (some v)
abbrev QT (xs:List HBlock) (v:Value):AV:=.sl (We xs) (some v)
abbrev J0 (s:HStep):List AV:=[.i s.op,.i s.num,.i s.into,Zb s.args s.av,QT s.kids s.kv]
abbrev Z09 (s:HStep):AV:=.agg (J0 s)
abbrev Ku (b:HBlock):List AV:=[Ue b.steps b.sv,.i b.result]
abbrev JD (b:HBlock):AV:=.agg (Ku b)
abbrev KZ (r:HRoutine):List AV:=[Zb r.params r.pv,Zb r.lent r.lv,.i r.result,Ue r.body.steps r.body.sv,.i r.body.result]
abbrev Z6j (r:HRoutine):AV:=.agg (KZ r)
def V8 (rs:List HRoutine):List AV:=rs.map Z6j
abbrev J6 (xs:List HRoutine) (v:Value):AV:=.sl (V8 xs) (some v)
abbrev Zgo (n:HNormal):List AV:=[Vk n.decls n.dv,J6 n.routines n.rv]
abbrev UY (n:HNormal):AV:=.agg (Zgo n)
theorem Z4d (s:HStep):Z7u s=Z09 s:=by cases s;rw [Z7u];rfl
theorem Z4b (b:HBlock):Z7q b=JD b:=by cases b;rw [Z7q];rfl
theorem Z24:∀xs:List HStep,Wf xs=xs.map Z09
 | []=>by rw [Wf];rfl
 | s::ss=>by rw [Wf,Z24 ss,Z4d];rfl
theorem Z23:∀xs:List HBlock,We xs=xs.map JD
 | []=>by rw [We];rfl
 | b::bs=>by rw [We,Z23 bs,Z4b];rfl
@[simp] theorem Zp1 (xs:List HCon):(Xp xs).length=xs.length:=by simp [Xp]
theorem Zdr (xs ys:List HCon):Xp (xs++ys)=Xp xs++Xp ys:=by simp [Xp]
theorem Z7r (xs:List HCon):∀y∈Xp xs,y.leaves.length=1:=by intro y hy;simp only [Xp,YJ] at hy;obtain ⟨x,_,rfl⟩:=hy;rfl
@[simp] theorem Zdt (xs:List HDecl):(X2 xs).length=xs.length:=by simp [X2]
theorem Zds (xs ys:List HDecl):X2 (xs++ys)=X2 xs++X2 ys:=by simp [X2]
theorem Z7s (xs:List HDecl):∀y∈X2 xs,y.leaves.length=3:=by intro y hy;simp only [X2,YJ] at hy;obtain ⟨x,_,rfl⟩:=hy;rfl
@[simp] theorem Zdy (xs:List HStep):(Wf xs).length=xs.length:=by simp [Z24]
theorem Zp8 (xs ys:List HStep):Wf (xs++ys)=Wf xs++Wf ys:=by simp [Z24]
theorem Zdx (xs:List HStep):∀y∈Wf xs,y.leaves.length=5:=by intro y hy;simp only [Z24,YJ] at hy;obtain ⟨x,_,rfl⟩:=hy;rfl
@[simp] theorem Zp0 (xs:List HBlock):(We xs).length=xs.length:=by simp [Z23]
theorem Zoz (xs ys:List HBlock):We (xs++ys)=We xs++We ys:=by simp [Z23]
theorem Zdq (xs:List HBlock):∀y∈We xs,y.leaves.length=2:=by intro y hy;simp only [Z23,YJ] at hy;obtain ⟨x,_,rfl⟩:=hy;rfl
@[simp] theorem Zp7 (xs:List HRoutine):(V8 xs).length=xs.length:=by simp [V8]
theorem Zp6 (xs ys:List HRoutine):V8 (xs++ys)=V8 xs++V8 ys:=by simp [V8]
theorem Zdw (xs:List HRoutine):∀y∈V8 xs,y.leaves.length=5:=by intro y hy;simp only [V8,YJ] at hy;obtain ⟨x,_,rfl⟩:=hy;rfl
def XJ (c:HCon):List (Value × Nat):=[(c.fv,1)]
def YD (cs:List HCon):List (Value × Nat):=cs.flatMap XJ
def XK (d:HDecl):List (Value × Nat):=YD d.cons++[(d.cv,1)]
def Yn (ds:List HDecl):List (Value × Nat):=ds.flatMap XK
mutual
def Xk:HStep->List (Value × Nat)
 | .mk _ _ _ _ av kids kv=>(av,1)::(YB kids++[(kv,2)])
def YO:HBlock->List (Value × Nat)
 | .mk steps sv _=>YC steps++[(sv,5)]
def YC:List HStep->List (Value × Nat)
 | []=>[]
 | s::r=>Xk s++YC r
def YB:List HBlock->List (Value × Nat)
 | []=>[]
 | b::r=>YO b++YB r
end
def XL (r:HRoutine):List (Value × Nat):=(r.pv,1)::(r.lv,1)::YO r.body
def YP (rs:List HRoutine):List (Value × Nat):=rs.flatMap XL
def YT (n:HNormal):List (Value × Nat):=Yn n.decls++((n.dv,3)::(YP n.routines++[(n.rv,5)]))
theorem Z8n (b:HBlock):YO b=YC b.steps++[(b.sv,5)]:=by cases b;rw [YO];rfl
theorem WH:∀(xs:List HStep) (ys:List HStep),YC (xs++ys)=YC xs++YC ys
 | [],ys=>by simp [YC]
 | x::r,ys=>by rw [Z1l,YC,YC,WH r ys,Xs]
theorem WF:∀(xs:List HBlock) (ys:List HBlock),YB (xs++ys)=YB xs++YB ys
 | [],ys=>by simp [YB]
 | x::r,ys=>by rw [Z1l,YB,YB,WF r ys,Xs]
theorem WQ:YC []=[]:=by rw [YC]
theorem WM:YB []=[]:=by rw [YB]
theorem WN (xs ys:List HCon):YD (xs++ys)=YD xs++YD ys:=by simp [YD]
theorem WO (xs ys:List HDecl):Yn (xs++ys)=Yn xs++Yn ys:=by simp [Yn]
theorem WP (xs ys:List HRoutine):YP (xs++ys)=YP xs++YP ys:=by simp [YP]
def HCon.er (c:HCon):Con:=⟨c.fields⟩
def HDecl.er (d:HDecl):Decl:=⟨d.frm,d.to_,d.cons.map HCon.er⟩
mutual
def HStep.er:HStep->Step
 | .mk op num into args _ kids _=>.mk op num into args (QK kids)
def HBlock.er:HBlock->Block
 | .mk steps _ result=>.mk (Qs steps) result
def Qs:List HStep->List Step
 | []=>[]
 | s::r=>s.er::Qs r
def QK:List HBlock->List Block
 | []=>[]
 | b::r=>b.er::QK r
end
def HRoutine.er (r:HRoutine):Routine:=⟨r.params,r.lent,r.result,r.body.er⟩
def HNormal.er (n:HNormal):Normal:=⟨n.decls.map HDecl.er,n.routines.map HRoutine.er⟩
theorem Zeg:∀xs:List HStep,Qs xs=xs.map HStep.er
 | []=>by rw [Qs];rfl
 | x::r=>by rw [Qs,Zeg r];rfl
theorem Zeb:∀xs:List HBlock,QK xs=xs.map HBlock.er
 | []=>by rw [QK];rfl
 | x::r=>by rw [QK,Zeb r];rfl
inductive EsLe:List AV->List AV->Prop
 | nil:EsLe [] []
 | cons {x y:AV} {xs ys:List AV} (hl:x.leaves.length=y.leaves.length) (h:LsLe x.leaves y.leaves) (t:EsLe xs ys):EsLe (x::xs) (y::ys)
theorem EsLe.length:∀{xs ys:List AV},EsLe xs ys->xs.length=ys.length
 | _,_,.nil=>rfl
 | _,_,.cons _ _ t=>by simp [t.length]
theorem EsLe.els {w:World} {G:Zs} {k b:Nat}:∀{o:Nat} {xs ys:List AV},EsLe xs ys->REls w G k b o xs->REls w G k b o ys
 | _,_,_,.nil,_=>.nil
 | _,_,_,.cons hl h t,.cons hk hm r=>.cons (hl▸hk) (h.mem hm) (t.els r)
theorem Zg.els {es es':List AV} (hv:Option Value) (h:EsLe es es'):Zg (.sl es hv) (.sl es' none):=by
 intro w G v hr
 cases hr with
 | nil _=>cases h;exact .nil (by simp)
 | sl _ hc hm=>rw [h.length] at hc ⊢;exact .sl (by simp) hc (h.els hm)
theorem EsLe.map {α β:Type} {f:α->AV} {g:β->AV} {e:α->β} (h:∀x,(f x).leaves.length=(g (e x)).leaves.length/\LsLe (f x).leaves (g (e x)).leaves):∀xs:List α,EsLe (xs.map f) ((xs.map e).map g)
 | []=>.nil
 | x::r=>.cons (h x).1 (h x).2 (EsLe.map h r)
theorem Zu6 (c:HCon):LsLe (KX c) (UP c.er):=.cons (Zg.forget _ _) .nil
theorem Zpw (cs:List HCon):EsLe (Xp cs) (YH (cs.map HCon.er)):=EsLe.map (f:=Z6h) (g:=Wm) (e:=HCon.er) (fun c=>⟨rfl,Zu6 c⟩) cs
theorem Zu7 (d:HDecl):LsLe (KY d) (Ys d.er):=.cons (Zg.refl _) (.cons (Zg.refl _) (.cons (Zg.els _ (Zpw _)) .nil))
theorem Zej (ds:List HDecl):EsLe (X2 ds) (ZQ (ds.map HDecl.er)):=EsLe.map (f:=Z6i) (g:=Yw) (e:=HDecl.er) (fun c=>⟨rfl,Zu7 c⟩) ds
mutual
theorem Zud:∀s:HStep,LsLe (J0 s) (ZE s.er)
 | .mk op num into args av kids kv=>by
  rw [HStep.er]
  exact .cons (Zg.refl _) (.cons (Zg.refl _) (.cons (Zg.refl _) (.cons (Zg.forget _ _) (.cons (Zg.els _ (Zei kids)) .nil))))
theorem Zh5:∀b:HBlock,LsLe (Ku b) (YY b.er)
 | .mk steps sv result=>by
  rw [HBlock.er]
  exact .cons (Zg.els _ (Zek steps)) (.cons (Zg.refl _) .nil)
theorem Zek:∀xs:List HStep,EsLe (Wf xs) (Wg (Qs xs))
 | []=>by rw [Wf,Qs,Wg];exact .nil
 | s::r=>by
  rw [Wf,Qs,Wg,Z4d,Ze5]
  exact .cons rfl (Zud s) (Zek r)
theorem Zei:∀xs:List HBlock,EsLe (We xs) (Xw (QK xs))
 | []=>by rw [We,QK,Xw];exact .nil
 | s::r=>by
  rw [We,QK,Xw,Z4b,Zdp]
  exact .cons rfl (Zh5 s) (Zei r)
end
theorem Zuc (r:HRoutine):LsLe (KZ r) (WI r.er):=by
 have h:=Zh5 r.body
 cases h with
 | cons h1 t=>cases t with
  | cons h2 _=>exact .cons (Zg.forget _ _) (.cons (Zg.forget _ _) (.cons (Zg.refl _) (.cons h1 (.cons h2 .nil))))
theorem Zpz (rs:List HRoutine):EsLe (V8 rs) (WD (rs.map HRoutine.er)):=EsLe.map (f:=Z6j) (g:=Xc) (e:=HRoutine.er) (fun c=>⟨rfl,Zuc c⟩) rs
theorem Zua (n:HNormal):LsLe (Zgo n) (ZU n.er):=.cons (Zg.els _ (Zej _)) (.cons (Zg.els _ (Zpz _)) .nil)
theorem Z3w (n:HNormal):Zg (UY n) (ZJ n.er):=Zg.agg (Zua n)
theorem Zd.args_le {P:Program} {f:FuncId} {as1 xs:List AV} {h:List Res} {R:AV->List Res->Prop} (H:Zd P f xs h R) (hle:LsLe as1 xs):Zd P f as1 h R:=
 fun w G vs hvs hh=>H w G vs (hle.cs hvs) hh
abbrev rK (g:Hd) (k:Nat) (ls:List AV):Res:=.row g.v k ls
section
variable {P:Program} {n:Nat} {c:Code} {A:W8} {F:Fr} {h:List Res} {ops:Array Oper} {B:Fr->List Res->Prop} {k:Nat}
variable {T:List (Nat × List Nat)} {fuel:Nat} {done:List Nat}
theorem tB (is:List Nat) (hs:List Res) (L' L:List (Value × Nat)) (e:L'=L) (hp:XC is h=some hs:=by kernel_rfl) (hb:T3 hs=some L':=by kernel_rfl):VT h (.many L::YZ is h):=e▸Y0h is hp hb
theorem rr {v:Value} {q:Nat} {ls ls':List AV} {t t':List Res} (h:ls=ls') (e:t=t'):Res.row v q ls::t=.row v q ls'::t':=h▸e▸rfl
theorem Z2k (j m:Nat) (v:Hd) (kk:Nat) (ls:List AV) (hm:ls.length=m*kk) (hk:0<kk:=by omega) (hl:Kv P ops F k=some (.h v):=by kernel_rfl) (hj:h[j]? = some (rK v kk ls):=by kernel_rfl):Yz P (Zk ops k) F h [] (.i m):=
 Zzc j hl hj hm hk
theorem Uk (b l c' q sz:Nat) (j:Int) (hq:j=(q:Int)/\q<l:=by omega) (hi:KW P ops F k=some (.val (.slice (some ⟨b,0,none⟩) l c'),j,sz):=by kernel_rfl):Yz P (Zk ops k) F h [] (.val (.pointer (some ⟨b,q*sz,none⟩))):=by
 have:=Zb1 (P:=P) (F:=F) (h:=h) hi om om
 rw [hq.1,Te,XQ] at this
 exact this
theorem Z90 (j g len cap kk o:Nat) (ls zs:List AV) (t:TypeId) (y:AV) (hz:(ls.drop o).take zs.length=zs) (hl:Z9b ops F k=some (t,.val (.pointer (some ⟨g,o,none⟩))):=by kernel_rfl) (hj:h[j]? = some (.row (.slice (some ⟨g,0,none⟩) len cap) kk ls):=by kernel_rfl)
  (hy:Kw P t zs=some y:=by kernel_rfl):Yz P (Zk ops k) F h [g] y:=Zzd j hl hj hz hy
theorem KU (j g len cap kk o:Nat) (xs ls:List AV) (ls':List AV) (hlt:o+xs.length<=ls.length) (he:ls.take o++xs++ls.drop (o+xs.length)=ls') (H:SI P n ops B (k+1) F (.row (.slice (some ⟨g,0,none⟩) len cap) kk ls'::YZ [j] h)) (hk:Yj n ops F k=true:=by kernel_rfl)
  (hs:storeAt P ops F k=some (g,o,xs):=by kernel_rfl) (hp:XC [j] h=some [.row (.slice (some ⟨g,0,none⟩) len cap) kk ls]:=by kernel_rfl):SI P n ops B k F h:=
 Uc hk (Xg.perm (Va (Wp hp)) (Zhz hs hlt (by rw [he];exact H)))
theorem dKS (i j:Nat) (js bs:List Nat) (g len cap kk o:Nat) (xs ls:List AV) (ls':List AV) (hlt:o+xs.length<=ls.length) (he:ls.take o++xs++ls.drop (o+xs.length)=ls')
  (H:Y6 P n ops B (T.filter fun t=>!Wu ops i t.1) fuel (done++[i]) F (.row (.slice (some ⟨g,0,none⟩) len cap) kk ls'::YZ [j] h)) (hk:Yj n ops F i=true:=by kernel_rfl)
  (hs:storeAt P ops F i=some (g,o,xs):=by kernel_rfl) (hp:XC [j] h=some [.row (.slice (some ⟨g,0,none⟩) len cap) kk ls]:=by kernel_rfl) (ho:U2 ops i T=bs:=by kernel_rfl)
  (hj:js.map (fun q=>(XU (YZ [j] h))[q]?)=bs.map some:=by kernel_rfl):V5 P n ops B T fuel done F h i:=
 QI [j] js bs hk (Wp hp) ho hj (Zhz (h2:=[]) hs hlt (by rw [he];exact H))
theorem iKL (sz:Nat) (hK:∀g,SI P n ops B (k+1) (F.put (Zk ops k).dst (.val (.slice (some ⟨g,0,none⟩) 0 0))) (.row (.slice (some ⟨g,0,none⟩) 0 0) sz []::h)) (hk:Yj n ops F k=true:=by kernel_rfl)
  (ha:Tx P ops F k=some ([],0,sz):=by kernel_rfl):SI P n ops B k F h:=Uc hk (Zvj (V0 hk).2.1 ha hK)
theorem iKC (j g sz:Nat) (xs:List AV) (hx:Option Value) (hxs:∀y∈xs,y.leaves.length=sz) (hbound:xs.length<=4294967296) (hK:∀v:Hd,SI P n ops B (k+1) (F.put (Zk ops k).dst (.h v)) (rK v sz (Z9 xs)::YZ [j] h))
  (hk:Yj n ops F k=true:=by kernel_rfl) (ha:Us P ops F k=some (.val (.slice (some ⟨g,0,none⟩) 0 0),.sl xs hx,sz):=by kernel_rfl) (hp:XC [j] h=some [.row (.slice (some ⟨g,0,none⟩) 0 0) sz []]:=by kernel_rfl):SI P n ops B k F h:=
 Uc hk (Xg.perm (Va (Wp hp)) (Zvi (V0 hk).2.1 ha hxs hbound hK))
theorem iKM (l:Nat) (zs:List AV) (kk:Nat) (hK:∀g,SI P n ops B (k+1) (F.put (Zk ops k).dst (.val (.slice (some ⟨g,0,none⟩) l l))) (.row (.slice (some ⟨g,0,none⟩) l l) kk (List.replicate l zs).flatten::h)) (hl:l<=4294967296:=by omega)
  (hk:Yj n ops F k=true:=by kernel_rfl) (hm:Z9c P ops F k=some ((l:Int),(l:Int),zs):=by kernel_rfl) (hz:zs.length=kk:=by rfl) (hk0:0<kk:=by omega):SI P n ops B k F h:=by
 subst hz
 exact Uc hk (Zvk (V0 hk).2.1 hm hl hk0 hK)
theorem Z0x (j m:Nat) {v:Hd} {kk:Nat} {ls:List AV} (hm:ls.length=m*kk) (h0:0<m) (H:∀g c',v=⟨some ⟨g,0,none⟩,m,c'⟩->Y9 P n c A F h) (hk:0<kk:=by omega) (hj:h[j]? = some (rK v kk ls):=by kernel_rfl):Y9 P n c A F h:=
 Zlg j m hj hm hk h0 H
theorem JR (t j:Nat) {v:Hd} {kk:Nat} (es:List AV) (hes:∀y∈es,y.leaves.length=kk) (H:Y9 P n c A ((t,.sl es (some v.v))::F) (.tail v.v kk::YZ [j] h)) (hk:0<kk:=by omega) (hF':F.get t=.h v:=by kernel_rfl)
  (hp:XC [j] h=some [rK v kk (Z9 es)]:=by kernel_rfl):Y9 P n c A F h:=Zlf t j hF' hp hes hk H
theorem Zzz (j i p:Nat) (u v:Value) (kk kv:Nat) (es ls:List AV) (hes:∀y∈es,y.leaves.length=kk) (hl:ls[p]? = some (.val u)) (hk:0<kk:=by omega) (hp:XC [j,i] h=some [.row u kk (Z9 es),.row v kv ls]:=by kernel_rfl) :
  VT h (.row v kv (ls.set p (.sl es (some u)))::.tail u kk::YZ [j,i] h):=Y0j j i p hp hes hk hl
theorem Qu {A xs ys B:List AV} {o:Nat} (hA:A.length=o) (hl:xs.length=ys.length):(A++(xs++B)).take o++ys++(A++(xs++B)).drop (o+ys.length)=A++(ys++B):=by
 subst hA
 rw [Jt,<-hl,<-List.drop_drop,List.drop_left,List.drop_left,Xs]
theorem Z9z {A xs B:List AV} {o:Nat} (hA:A.length=o):((A++(xs++B)).drop o).take xs.length=xs:=by
 subst hA
 rw [List.drop_left,Jt]
theorem Vu (xs ys:List AV):Z9 (xs++ys)=Z9 xs++Z9 ys:=by simp [Z9]
theorem K4 (j:Nat) (v:Value) (q:Nat) (ls ls':List AV) (e:ls=ls') (hp:XC [j] h=some [.row v q ls]:=by kernel_rfl):VT h (.row v q ls'::YZ [j] h):=by
 subst e
 intro w G hh
 have hp':=Va (Wp hp)
 exact ⟨G,hh.perm hp',(Ext.refl w G h).perm (Tf _) hp'⟩
end
end Go.Abs
end
namespace Go.Abs
abbrev ZK:=Nat->Nat->Option Value
abbrev Xt:=Nat × Nat
def upd (m:ZK) (a:Xt) (z:Int):ZK:=fun g o=>if g=a.1/\o=a.2 then some (.int .i64 z) else m g o
def wr (m:ZK):List Xt->Int->ZK
 | [],_=>m
 | a::r,k=>wr (upd m a k) r (k+1)
def YQ (m:ZK):List Xt->Int->Prop
 | [],_=>True
 | a::r,k=>m a.1 a.2=some (.int .i64 k)/\YQ m r (k+1)
theorem Qf:∀(as1 bs:List Xt) (m:ZK) (k:Int),wr m (as1++bs) k=wr (wr m as1 k) bs (k+as1.length)
 | [],bs,m,k=>by simp [wr]
 | a::r,bs,m,k=>by
  rw [Z1l,wr,wr,Qf r bs,Y5]
  congr 1
  omega
theorem Kq:∀(as1 bs:List Xt) (m:ZK) (k:Int),YQ m (as1++bs) k↔YQ m as1 k/\YQ m bs (k+as1.length)
 | [],bs,m,k=>by simp [YQ]
 | a::r,bs,m,k=>by
  rw [Z1l,YQ,YQ,Kq r bs,Y5,and_assoc,show k+1+(r.length:Int)=k+((r.length+1:Nat):Int) by omega]
theorem Zl1:∀(as1:List Xt) (m:ZK) (k:Int) (b:Xt),b∉as1->wr m as1 k b.1 b.2=m b.1 b.2
 | [],m,k,b,_=>rfl
 | a::r,m,k,b,h=>by
  rw [wr,Zl1 r _ _ b fun q=>h (Yy _ q),upd,Z4]
  rintro ⟨h1,h2⟩
  exact h (by rw [show b=a from Prod.ext h1 h2];exact Yd ..)
theorem Z8r:∀(as1:List Xt) (m:ZK) (k:Int),as1.Nodup->YQ (wr m as1 k) as1 k
 | [],m,k,_=>trivial
 | a::r,m,k,h=>by
  have hn:=List.nodup_cons.1 h
  refine ⟨?_,Z8r r _ _ hn.2⟩
  rw [wr,Zl1 r _ _ a hn.1,upd,Z8 ⟨rfl,rfl⟩]
def Xq (m:ZK) (a:Xt):Prop:=∃z,m a.1 a.2=some (.int .i64 z)
structure Kp (m m':ZK):Prop where
 i:∀{a:Xt},Xq m a->Xq m' a
 h:∀{g o:Nat} {v:Value},m g o=some v->(∀z,v≠.int .i64 z)->m' g o=some v
theorem Kp.refl (m:ZK):Kp m m:=⟨id,fun h _=>h⟩
theorem Kp.upd {m m':ZK} (k:Kp m m') {b:Xt} (hb:Xq m b) (z:Int):Kp m (upd m' b z):=by
 refine ⟨fun {a} h=>?_,fun {g o v} h hv=>?_⟩
 ·by_cases e:a=b
  ·subst e;exact ⟨z,Z8 ⟨rfl,rfl⟩⟩
  ·obtain ⟨y,hy⟩:=k.i h
   exact ⟨y,(Z4 fun q=>e (Prod.ext q.1 q.2)).trans hy⟩
 ·show (if g=b.1/\o=b.2 then some (Value.int .i64 z) else m' g o)=some v
  rw [Z4]
  ·exact k.h h hv
  ·rintro ⟨rfl,rfl⟩
   obtain ⟨y,hy⟩:=hb
   rw [h] at hy
   exact hv y (U6 hy)
theorem Kp.wr:∀{as1:List Xt} {m m':ZK},Kp m m'->(∀a∈as1,Xq m a)->∀z:Int,Kp m (wr m' as1 z)
 | [],_,_,k,_,_=>k
 | a::_,_,_,k,h,z=>Kp.wr (k.upd (h a (Yd ..)) z) (fun b hb=>h b (Yy _ hb)) (z+1)
theorem Kp.trans {m m' m'':ZK} (a:Kp m m') (b:Kp m' m''):Kp m m'':=⟨fun h=>b.i (a.i h),fun h hv=>b.h (a.h h hv) hv⟩
def Xu (B:List Nat) (v:Value) (n:Nat):Prop:=(v=Zhf/\n=0)∨∃g cap,v=.slice (some ⟨g,0,none⟩) n cap/\g∈B
theorem Xu.ni {B:List Nat} {v:Value} {n:Nat} (h:Xu B v n):∀z,v≠.int .i64 z:=by
 intro z e
 rcases h with ⟨rfl,_⟩|⟨g,cap,rfl,_⟩<;>cases e
theorem Xu.blk {B:List Nat} {v:Value} {n i:Nat} (h:Xu B v n) (hi:i<n):Z2 v∈B/\∃cap,v=.slice (some ⟨Z2 v,0,none⟩) n cap:=by
 rcases h with ⟨rfl,rfl⟩|⟨g,cap,rfl,hg⟩
 ·omega
 ·exact ⟨hg,cap,rfl⟩
section
variable {P:Program} {n:Nat} {ops:Array Oper} {B:Fr->List Res->Prop} {k:Nat} {F:Fr} {h h2:List Res}
theorem Zza {S:List Nat} {v:Value} {m:Nat} (hh:Xu S v m) (hl:Kv P ops F k=some (.val v)):Yz P (Zk ops k) F h [] (.val (.int .i64 m)):=by
 unfold Kv at hl
 generalize hoo:Zk ops k=o at hl
 obtain ⟨dst,op,type,pos,after,guard⟩:=o
 cases op<;>simp only at hl<;>try (cases hl)
 rename_i c
 obtain ⟨callee,args,tys⟩:=c
 simp only at hl
 split at hl
 ·rename_i x t hargs htys
  split at hl
  ·rename_i el hu
   simp only [YF] at hl
   intro n w G a hF hh'
   have hv:=hF.ev x
   rw [hl] at hv
   have hv:=hv.val_inv
   obtain ⟨ad,cap,rfl⟩:∃ad cap,v=.slice ad m cap:=by
    rcases hh with ⟨rfl,rfl⟩|⟨g,cap,rfl,_⟩
    ·exact ⟨none,0,rfl⟩
    ·exact ⟨_,cap,rfl⟩
   have e1:args=#[x]:=by rw [<-WB (xs:=args),hargs]
   have e2:tys=#[t]:=by rw [<-WB (xs:=tys),htys]
   subst e1;subst e2
   exact ⟨_,.val,fun w' _ _=>by simp [execOp,resolve,invoke,builtin,hv,Builtin.len_,Wz hu,goInt]⟩
  ·cases hl
 ·cases hl
theorem Tz (S:List Nat) (v:Value) (m:Nat) (hh:Xu S v m) (hl:Kv P ops F k=some (.val v):=by kernel_rfl):Yz P (Zk ops k) F h [] (.i m):=Zza hh hl
theorem X5 (S:List Nat) (v:Value) (m q sz:Nat) (j:Int) (hh:Xu S v m) (hq:j=(q:Int)/\q<m:=by omega) (hi:KW P ops F k=some (.val v,j,sz):=by kernel_rfl) :
  Yz P (Zk ops k) F h [] (.val (.pointer (some ⟨Z2 v,q*sz,none⟩))):=by
 obtain ⟨_,cap,e⟩:=hh.blk hq.2
 rw [e] at hi
 have:=Zb1 (P:=P) (F:=F) (h:=h) hi om om
 rw [hq.1,Te,XQ] at this
 exact this
theorem Wj (j:Nat) (S:List Nat) (m:ZK) (g o:Nat) (y:Value) (hg:g∈S) (hm:m g o=some y) (hl:Z2o P ops F k=some (.val (.pointer (some ⟨g,o,none⟩))):=by kernel_rfl) (hj:h[j]? = some (.own S m):=by kernel_rfl) :
  Yz P (Zk ops k) F h [g] (.val y):=by
 unfold Z2o at hl
 generalize hoo:Zk ops k=q at hl
 obtain ⟨dst,op,type,pos,after,guard⟩:=q
 cases op<;>simp only at hl<;>try (cases hl)
 rename_i t x
 split at hl
 ·rename_i hagg
  simp only [YF] at hl
  intro n w G a hF hh
  have hv:=hF.ev x
  rw [hl] at hv
  have hv:=hv.val_inv
  obtain ⟨cs,e,h1,h2⟩:=hh.ok _ (ZV hj) g hg
  refine ⟨y,.val,fun w' _ hw=>?_⟩
  have hrow:=hw g (by simp)
  rw [h1] at hrow
  simp only [execOp,hv]
  refine Wr ?_
  simp only [Instr.loadAt,Instr.sureAddr,Sem.run_bind,Sem.run_pure,Result.andThen_ok,loadVar,Z18 hagg]
  have:=cell_of_row w' g o cs e (0,0) hrow
  rw [h2,hm] at this
  simp [load,Sem.run,this]
 ·cases hl
theorem Zvg {K:Fr->List Res->Prop} {S:List Nat} {m:ZK} {g o:Nat} {z:Int} (hs:storeAt P ops F k=some (g,o,[.i z])) (hg:g∈S) (hi:Xq m (g,o))
  (hK:K F (.own S (upd m (g,o) z)::h2)):Xg P n (Zk ops k) F (.own S m::h2) K:=by
 unfold storeAt at hs
 generalize hoo:Zk ops k=q at hs
 obtain ⟨dst,op,type,pos,after,guard⟩:=q
 cases op<;>simp only at hs<;>try (cases hs)
 rename_i t x y
 split at hs
 ·rename_i b' o' inf hx hi'
  split at hs
  ·rename_i hc
   simp only [YN] at hc
   simp only [YF,Prod.mk.injEq] at hs
   obtain ⟨rfl,rfl,hz⟩:=hs
   intro Q w G a hF hh
   have hvx:=hF.ev x
   rw [hx] at hvx
   have hvx:=hvx.val_inv
   have hvy:=hF.ev y
   have hcs:=hvy.cells hc.2.1
   rw [hz] at hcs hc
   have hone:=hcs.one_cells hc.2.2
   have hsz:inf.size=1:=Vf hc.1
   obtain ⟨c,hc1⟩:∃c,(a.eval y).cells.toList=[c]:=by
    have:=hcs.length
    cases hq:(a.eval y).cells.toList with
    | nil=>rw [hq] at this;simp at this
    | cons c r=>cases r with
     | nil=>exact ⟨c,rfl⟩
     | cons _ _=>rw [hq] at this;simp at this
   have hlen:(a.eval y).cells.size=1:=by rw [<-TJ,hc1];rfl
   rw [hc1] at hcs
   have hcz:c=.int .i64 z:=by
    cases hcs with
    | cons h _=>exact h.val_inv
   subst hcz
   have hmem:Res.own S m∈Res.own S m::h2:=Yd ..
   obtain ⟨cs,e,h1,hcell⟩:=hh.ok _ hmem b' hg
   obtain ⟨old,YQ⟩:=hi
   have hlt:o'<cs.size:=by
    have:=hcell o'
    have hq:cs[o']? = some (.int .i64 old):=this.trans YQ
    exact (Ve.1 hq).1
   have hst:=run_storeCells_at P b' o' e (a.eval y).cells.toList 0 cs w h1 (by simp [hlen];omega) hone
   simp only [Ju,TJ] at hst
   have hr:(execOp a.eval { dst:=none,op:=.store t x y,type:=type,pos:=pos,after:=after,guard:=guard }).run P w =
     .ok .skip (w.setRow b' (cs.toList.take o'++(a.eval y).cells.toList++cs.toList.drop (o'+(a.eval y).cells.size)).toArray):=by
    simp only [execOp,hvx]
    simp [Instr.storeAt,Instr.sureAddr,storeVar,UU hi',hlen,hsz,hst]
   unfold Oper.wp
   rw [hr]
   have hset:(cs.toList.take o'++(a.eval y).cells.toList++cs.toList.drop (o'+(a.eval y).cells.size))=cs.toList.set o' (.int .i64 z):=by
    rw [hc1,hlen]
    exact Za9 cs.toList o' _ (by simpa using hlt)
   rw [hset]
   have hA:Agree G w (w.setRow b' (cs.toList.set o' (.int .i64 z)).toArray) G:=⟨fun c j hg'=>by
    have hne:c≠b':=fun he=>hh.prot _ hmem c j (by rw [he];exact hg) hg'
    simp [World.cell?,XV w b' c _ hne],fun _ _ h=>h⟩
   have e1:Ext w G [.own S m] (w.setRow b' (cs.toList.set o' (.int .i64 z)).toArray) G [.own S (upd m (b',o') z)]:=by
    refine ⟨rfl,rfl,rfl,by simp [World.setRow],fun _ _ h=>h,?_,fun _ _ _ h=>.inl h,?_⟩
    ·intro c hc'
     by_cases hcb:c=b'
     ·subst hcb
      exact .inr ⟨cs,_,e,(0,0),h1,setRow_heap w c cs _ e (0,0) h1,by simp,fun j hj=>absurd ⟨_,Yd ..,hg⟩ hj⟩
     ·exact .inl (XV w b' c _ hcb)
    ·rintro c j _ ⟨r,hr,hf⟩
     rw [ZW.1 hr] at hf
     exact ⟨_,Yd ..,hf⟩
   have e2:HOk (w.setRow b' (cs.toList.set o' (.int .i64 z)).toArray) G [.own S (upd m (b',o') z)]:=by
    refine ⟨fun r hr=>?_,Qz _ _,fun r hr c j hf hg'=>?_,fun c j hg'=>?_⟩
    ·rw [ZW.1 hr]
     intro c hc'
     by_cases hcb:c=b'
     ·subst hcb
      refine ⟨_,e,setRow_heap w c cs _ e (0,0) h1,fun j=>?_⟩
      show (cs.toList.set o' (.int .i64 z)).toArray[j]? = if c=c/\j=o' then some (.int .i64 z) else m c j
      simp only [List.getElem?_toArray,List.getElem?_set]
      by_cases hj:o'=j
      ·subst hj;simp [hlt]
      ·rw [Z4 hj,Z4 (by intro q;exact hj q.2.symm)]
       simpa using hcell j
     ·obtain ⟨ds,e',k1,k2⟩:=hh.ok _ hmem c hc'
      refine ⟨ds,e',(XV w b' c _ hcb).trans k1,fun j=>(k2 j).trans ?_⟩
      show m c j=if c=b'/\j=o' then _ else m c j
      rw [Z4 fun q=>hcb q.1]
    ·rw [ZW.1 hr] at hf
     exact hh.prot _ hmem c j hf hg'
    ·have:=hh.lt c j hg'
     simpa [World.setRow] using this
   obtain ⟨j1,j2⟩:=HOk.frame (h:=[.own S m]) (k:=h2) hh e1 e2
   refine ⟨F,_,G,hK,?_,j1,j2⟩
   have:=hF.mono (j2.agree hh)
   simpa [Act.put] using this
  ·cases hs
 ·cases hs
theorem UM (j:Nat) (S:List Nat) (m:ZK) (g o:Nat) (z:Int) (hg:g∈S) (hi:Xq m (g,o)) (H:SI P n ops B (k+1) F (.own S (upd m (g,o) z)::YZ [j] h)) (hk:Yj n ops F k=true:=by kernel_rfl)
  (hs:storeAt P ops F k=some (g,o,[.i z]):=by kernel_rfl) (hp:XC [j] h=some [.own S m]:=by kernel_rfl):SI P n ops B k F h:=
 Uc hk (Xg.perm (Va (Wp hp)) (Zvg hs hg hi H))
theorem QX {S:List Nat} {m m':ZK} {t t':List Res} (h:m=m') (e:t=t'):Res.own S m::t=.own S m'::t':=h▸e▸rfl
end
def Y3 (ts:List (Value × Nat)):List Nat:=ts.filterMap (·.1.ownBlock)
theorem WW (a b:List (Value × Nat)):Y3 (a++b)=Y3 a++Y3 b:=by simp [Y3]
theorem Xu.own {B:List Nat} {v:Value} {n:Nat} (h:Xu B v n) (h0:0<n) (k:Nat):Z2 v∈Y3 [(v,k)]:=by
 rcases h with ⟨rfl,rfl⟩|⟨g,cap,rfl,hg⟩
 ·omega
 ·simp [Y3,Z2,Value.ownBlock]
def Z7 (g:Nat):Nat->Nat->List Xt
 | _,0=>[]
 | o,n+1=>(g,o)::Z7 g (o+1) n
def Z3r (c:HCon):List Xt:=Z7 (Z2 c.fv) 0 c.fields.length
def XB:List HCon->List Xt
 | []=>[]
 | c::r=>Z3r c++XB r
def JG (g o:Nat) (d:HDecl):List Xt:=(g,o)::(g,o+1)::XB d.cons
def Ym (g:Nat):Nat->List HDecl->List Xt
 | _,[]=>[]
 | o,d::r=>JG g o d++Ym g (o+3) r
mutual
def TP (g o:Nat):HStep->List Xt
 | .mk _ _ _ args av kids kv=>(g,o)::(g,o+1)::(g,o+2)::(Z7 (Z2 av) 0 args.length++Xh (Z2 kv) 0 kids)
def TO (g o:Nat):HBlock->List Xt
 | .mk steps sv _=>Yc (Z2 sv) 0 steps++[(g,o+1)]
def Yc (g:Nat):Nat->List HStep->List Xt
 | _,[]=>[]
 | o,s::r=>TP g o s++Yc g (o+5) r
def Xh (g:Nat):Nat->List HBlock->List Xt
 | _,[]=>[]
 | o,b::r=>TO g o b++Xh g (o+2) r
end
def Z0a (g o:Nat) (r:HRoutine):List Xt:=
 Z7 (Z2 r.pv) 0 r.params.length++(Z7 (Z2 r.lv) 0 r.lent.length++((g,o+2)::(Yc (Z2 r.body.sv) 0 r.body.steps++[(g,o+4)])))
def WK (g:Nat):Nat->List HRoutine->List Xt
 | _,[]=>[]
 | o,r::rs=>Z0a g o r++WK g (o+5) rs
def XY (y:HNormal):List Xt:=Ym (Z2 y.dv) 0 y.decls++WK (Z2 y.rv) 0 y.routines
def V1 (m:ZK) (g n:Nat):Prop:=∀i,i<n->Xq m (g,i)
def VQ (m:ZK) (B:List Nat) (g o:Nat) (v:Value) (n:Nat):Prop:=m g o=some v/\Xu B v n
def Zae (m:ZK) (B:List Nat) (g o:Nat) (c:HCon):Prop:=VQ m B g o c.fv c.fields.length/\V1 m (Z2 c.fv) c.fields.length
def Qv (m:ZK) (B:List Nat) (g:Nat):Nat->List HCon->Prop
 | _,[]=>True
 | o,c::r=>Zae m B g o c/\Qv m B g (o+1) r
def Zah (m:ZK) (B:List Nat) (g o:Nat) (d:HDecl):Prop:=Xq m (g,o)/\Xq m (g,o+1)/\VQ m B g (o+2) d.cv d.cons.length/\Qv m B (Z2 d.cv) 0 d.cons
def Qw (m:ZK) (B:List Nat) (g:Nat):Nat->List HDecl->Prop
 | _,[]=>True
 | o,d::r=>Zah m B g o d/\Qw m B g (o+3) r
mutual
def TF (m:ZK) (B:List Nat) (g o:Nat):HStep->Prop
 | .mk _ _ _ args av kids kv=>(Xq m (g,o)/\Xq m (g,o+1)/\Xq m (g,o+2))/\(VQ m B g (o+3) av args.length/\V1 m (Z2 av) args.length)/\(VQ m B g (o+4) kv kids.length/\VA m B (Z2 kv) 0 kids)
def TC (m:ZK) (B:List Nat) (g o:Nat):HBlock->Prop
 | .mk steps sv _=>(VQ m B g o sv steps.length/\V2 m B (Z2 sv) 0 steps)/\Xq m (g,o+1)
def V2 (m:ZK) (B:List Nat) (g:Nat):Nat->List HStep->Prop
 | _,[]=>True
 | o,s::r=>TF m B g o s/\V2 m B g (o+5) r
def VA (m:ZK) (B:List Nat) (g:Nat):Nat->List HBlock->Prop
 | _,[]=>True
 | o,b::r=>TC m B g o b/\VA m B g (o+2) r
end
def Zan (m:ZK) (B:List Nat) (g o:Nat) (r:HRoutine):Prop:=
 (VQ m B g o r.pv r.params.length/\V1 m (Z2 r.pv) r.params.length)/\(VQ m B g (o+1) r.lv r.lent.length/\V1 m (Z2 r.lv) r.lent.length)/\Xq m (g,o+2) /\
  (VQ m B g (o+3) r.body.sv r.body.steps.length/\V2 m B (Z2 r.body.sv) 0 r.body.steps)/\Xq m (g,o+4)
def Jh (m:ZK) (B:List Nat) (g:Nat):Nat->List HRoutine->Prop
 | _,[]=>True
 | o,r::rs=>Zan m B g o r/\Jh m B g (o+5) rs
def Jg (m:ZK) (B:List Nat) (y:HNormal):Prop:=(Xu B y.dv y.decls.length/\Qw m B (Z2 y.dv) 0 y.decls)/\(Xu B y.rv y.routines.length/\Jh m B (Z2 y.rv) 0 y.routines)
theorem Zcb (g o:Nat) (s:HStep):TP g o s=(g,o)::(g,o+1)::(g,o+2)::(Z7 (Z2 s.av) 0 s.args.length++Xh (Z2 s.kv) 0 s.kids):=by cases s;rw [TP];rfl
theorem Zbp (g o:Nat) (b:HBlock):TO g o b=Yc (Z2 b.sv) 0 b.steps++[(g,o+1)]:=by cases b;rw [TO];rfl
theorem Zxh (m:ZK) (B:List Nat) (g o:Nat) (s:HStep):TF m B g o s=((Xq m (g,o)/\Xq m (g,o+1)/\Xq m (g,o+2))/\(VQ m B g (o+3) s.av s.args.length/\V1 m (Z2 s.av) s.args.length)/\(VQ m B g (o+4) s.kv s.kids.length/\VA m B (Z2 s.kv) 0 s.kids)):=by cases s;rw [TF];rfl
theorem Zxe (m:ZK) (B:List Nat) (g o:Nat) (b:HBlock):TC m B g o b=((VQ m B g o b.sv b.steps.length/\V2 m B (Z2 b.sv) 0 b.steps)/\Xq m (g,o+1)):=by cases b;rw [TC];rfl
section
variable {m m':ZK} {B:List Nat}
theorem Jf (kq:Kp m m') {g n:Nat} (h:V1 m g n):V1 m' g n:=fun i hi=>kq.i (h i hi)
theorem TD (kq:Kp m m') {g o n:Nat} {v:Value} (h:VQ m B g o v n):VQ m' B g o v n:=⟨kq.h h.1 h.2.ni,h.2⟩
theorem Zag (kq:Kp m m') {g:Nat}:∀{o:Nat} {cs:List HCon},Qv m B g o cs->Qv m' B g o cs
 | _,[],_=>trivial
 | _,_::_,h=>⟨⟨TD kq h.1.1,Jf kq h.1.2⟩,Zag kq h.2⟩
theorem Zji (kq:Kp m m') {g:Nat}:∀{o:Nat} {ds:List HDecl},Qw m B g o ds->Qw m' B g o ds
 | _,[],_=>trivial
 | _,_::_,h=>⟨⟨kq.i h.1.1,kq.i h.1.2.1,TD kq h.1.2.2.1,Zag kq h.1.2.2.2⟩,Zji kq h.2⟩
mutual
theorem Zxi (kq:Kp m m') {g o:Nat}:∀{s:HStep},TF m B g o s->TF m' B g o s
 | .mk _ _ _ _ _ _ _,h=>by rw [TF] at h ⊢;exact ⟨⟨kq.i h.1.1,kq.i h.1.2.1,kq.i h.1.2.2⟩,⟨TD kq h.2.1.1,Jf kq h.2.1.2⟩,⟨TD kq h.2.2.1,Zad kq h.2.2.2⟩⟩
theorem Zxf (kq:Kp m m') {g o:Nat}:∀{s:HBlock},TC m B g o s->TC m' B g o s
 | .mk _ _ _,h=>by rw [TC] at h ⊢;exact ⟨⟨TD kq h.1.1,Z30 kq h.1.2⟩,kq.i h.2⟩
theorem Z30 (kq:Kp m m') {g:Nat}:∀{o:Nat} {xs:List HStep},V2 m B g o xs->V2 m' B g o xs
 | _,[],_=>by rw [V2];trivial
 | _,_::_,h=>by rw [V2] at h ⊢;exact ⟨Zxi kq h.1,Z30 kq h.2⟩
theorem Zad (kq:Kp m m') {g:Nat}:∀{o:Nat} {xs:List HBlock},VA m B g o xs->VA m' B g o xs
 | _,[],_=>by rw [VA];trivial
 | _,_::_,h=>by rw [VA] at h ⊢;exact ⟨Zxf kq h.1,Zad kq h.2⟩
end
theorem Zjl (kq:Kp m m') {g:Nat}:∀{o:Nat} {rs:List HRoutine},Jh m B g o rs->Jh m' B g o rs
 | _,[],_=>trivial
 | _,_::_,h=>⟨⟨⟨TD kq h.1.1.1,Jf kq h.1.1.2⟩,⟨TD kq h.1.2.1.1,Jf kq h.1.2.1.2⟩,kq.i h.1.2.2.1,⟨TD kq h.1.2.2.2.1.1,Z30 kq h.1.2.2.2.1.2⟩,kq.i h.1.2.2.2.2⟩,Zjl kq h.2⟩
end
section
variable {m:ZK} {B:List Nat} {g:Nat}
theorem Zaf:∀{o i:Nat} {cs:List HCon} {c:HCon},Qv m B g o cs->cs[i]? = some c->Zae m B g (o+i) c
 | _,_,[],_,_,h=>by simp at h
 | _,0,_::_,_,h,hc=>by simp at hc;subst hc;exact h.1
 | o,i+1,_::_,_,h,hc=>by rw [show o+(i+1)=o+1+i by omega];exact Zaf h.2 (by simpa using hc)
theorem Zai:∀{o i:Nat} {cs:List HDecl} {c:HDecl},Qw m B g o cs->cs[i]? = some c->Zah m B g (o+i*3) c
 | _,_,[],_,_,h=>by simp at h
 | _,0,_::_,_,h,hc=>by simp at hc;subst hc;simpa using h.1
 | o,i+1,_::_,_,h,hc=>by rw [show o+(i+1)*3=o+3+i*3 by omega];exact Zai h.2 (by simpa using hc)
theorem Zjm:∀{o i:Nat} {cs:List HStep} {c:HStep},V2 m B g o cs->cs[i]? = some c->TF m B g (o+i*5) c
 | _,_,[],_,_,h=>by simp at h
 | _,0,_::_,_,h,hc=>by rw [V2] at h;simp at hc;subst hc;simpa using h.1
 | o,i+1,_::_,_,h,hc=>by rw [V2] at h;rw [show o+(i+1)*5=o+5+i*5 by omega];exact Zjm h.2 (by simpa using hc)
theorem Zjh:∀{o i:Nat} {cs:List HBlock} {c:HBlock},VA m B g o cs->cs[i]? = some c->TC m B g (o+i*2) c
 | _,_,[],_,_,h=>by simp at h
 | _,0,_::_,_,h,hc=>by rw [VA] at h;simp at hc;subst hc;simpa using h.1
 | o,i+1,_::_,_,h,hc=>by rw [VA] at h;rw [show o+(i+1)*2=o+2+i*2 by omega];exact Zjh h.2 (by simpa using hc)
theorem Zjk:∀{o i:Nat} {cs:List HRoutine} {c:HRoutine},Jh m B g o cs->cs[i]? = some c->Zan m B g (o+i*5) c
 | _,_,[],_,_,h=>by simp at h
 | _,0,_::_,_,h,hc=>by simp at hc;subst hc;simpa using h.1
 | o,i+1,_::_,_,h,hc=>by rw [show o+(i+1)*5=o+5+i*5 by omega];exact Zjk h.2 (by simpa using hc)
end
section
variable {m:ZK} {B:List Nat}
theorem Zby {g:Nat}:∀{n o:Nat} {a:Xt},a∈Z7 g o n->a.1=g/\o<=a.2/\a.2<o+n
 | 0,_,_,h=>by simp [Z7] at h
 | n+1,o,a,h=>by
  rcases ZM.1 h with rfl|h
  ·exact ⟨rfl,Yp _,by show o<o+(n+1);omega⟩
  ·have:=Zby h;omega
theorem UZ {g n:Nat} (h:V1 m g n):∀a∈Z7 g 0 n,Xq m a:=by
 intro a ha
 obtain ⟨h1,h2,h3⟩:=Zby ha
 have:=h a.2 om
 rw [<-h1] at this
 exact this
theorem Z6n {g:Nat}:∀{o:Nat} {cs:List HCon},Qv m B g o cs->∀a∈XB cs,Xq m a
 | _,[],_,a,ha=>by cases ha
 | _,_::_,h,a,ha=>(ZG.1 ha).elim (UZ h.1.2 a) (Z6n h.2 a)
theorem Z3s {g:Nat}:∀{o:Nat} {ds:List HDecl},Qw m B g o ds->∀a∈Ym g o ds,Xq m a
 | _,[],_,a,ha=>by cases ha
 | _,_::_,h,a,ha=>by
  rcases ZG.1 ha with ha|ha
  ·rcases ZM.1 ha with rfl|ha
   ·exact h.1.1
   ·rcases ZM.1 ha with rfl|ha
    ·exact h.1.2.1
    ·exact Z6n h.1.2.2.2 a ha
  ·exact Z3s h.2 a ha
mutual
theorem Zlu {g o:Nat}:∀{s:HStep},TF m B g o s->∀a∈TP g o s,Xq m a
 | .mk _ _ _ _ _ _ _,h,a,ha=>by
  rw [TF] at h
  rw [TP] at ha
  rcases ZM.1 ha with rfl|ha
  ·exact h.1.1
  rcases ZM.1 ha with rfl|ha
  ·exact h.1.2.1
  rcases ZM.1 ha with rfl|ha
  ·exact h.1.2.2
  exact (ZG.1 ha).elim (UZ h.2.1.2 a) (Z6m h.2.2.2 a)
theorem Zlj {g o:Nat}:∀{s:HBlock},TC m B g o s->∀a∈TO g o s,Xq m a
 | .mk _ _ _,h,a,ha=>by
  rw [TC] at h
  rw [TO] at ha
  rcases ZG.1 ha with ha|ha
  ·exact Z3t h.1.2 a ha
  ·rw [ZW.1 ha];exact h.2
theorem Z3t {g:Nat}:∀{o:Nat} {xs:List HStep},V2 m B g o xs->∀a∈Yc g o xs,Xq m a
 | _,[],_,a,ha=>by rw [Yc] at ha;cases ha
 | _,_::_,h,a,ha=>by
  rw [V2] at h
  rw [Yc] at ha
  exact (ZG.1 ha).elim (Zlu h.1 a) (Z3t h.2 a)
theorem Z6m {g:Nat}:∀{o:Nat} {xs:List HBlock},VA m B g o xs->∀a∈Xh g o xs,Xq m a
 | _,[],_,a,ha=>by rw [Xh] at ha;cases ha
 | _,_::_,h,a,ha=>by
  rw [VA] at h
  rw [Xh] at ha
  exact (ZG.1 ha).elim (Zlj h.1 a) (Z6m h.2 a)
end
end
def Zn (g lo hi:Nat) (X:List Nat) (a:Xt):Prop:=(a.1=g/\lo<=a.2/\a.2<hi)∨a.1∈X
structure Nd (g lo hi:Nat) (X:List Nat) (as1:List Xt):Prop where
 nd:(X.Nodup/\g∉X)->as1.Nodup
 zn:∀a∈as1,Zn g lo hi X a
theorem Nd.nil (g lo:Nat):Nd g lo lo [] []:=⟨fun _=>.nil,fun a ha=>by cases ha⟩
theorem Nd.app {g l1 h1 l2 h2:Nat} {X Y:List Nat} {as1 bs:List Xt} (ha:Nd g l1 h1 X as1) (hb:Nd g l2 h2 Y bs) (hlt:h1<=l2) (hl:l1<=l2) (hh:h1<=h2):Nd g l1 h2 (X++Y) (as1++bs):=by
 refine ⟨fun ⟨hd,hg⟩=>?_,fun a hm=>?_⟩
 ·have hdd:=List.nodup_append.1 hd
  have hg1:g∉X:=fun q=>hg (ZG.2 (.inl q))
  have hg2:g∉Y:=fun q=>hg (ZG.2 (.inr q))
  refine List.nodup_append.2 ⟨ha.nd ⟨hdd.1,hg1⟩,hb.nd ⟨hdd.2.1,hg2⟩,fun a h1 b h2 e=>?_⟩
  subst e
  rcases ha.zn a h1 with q1|q1<;>rcases hb.zn a h2 with q2|q2
  ·omega
  ·exact hg2 (q1.1▸q2)
  ·exact hg1 (q2.1▸q1)
  ·exact hdd.2.2 _ q1 _ q2 rfl
 ·rcases ZG.1 hm with h|h
  ·rcases ha.zn a h with q|q
   ·exact .inl ⟨q.1,q.2.1,by omega⟩
   ·exact .inr (ZG.2 (.inl q))
  ·rcases hb.zn a h with q|q
   ·exact .inl ⟨q.1,by omega,q.2.2⟩
   ·exact .inr (ZG.2 (.inr q))
theorem Nd.one (g o:Nat):Nd g o (o+1) [] [(g,o)]:=⟨fun _=>by simp,fun a ha=>by rw [ZW.1 ha];exact .inl ⟨rfl,Yp _,Nat.lt_succ_self _⟩⟩
theorem Nd.sub {g lo c hi:Nat} {v:Value} {k:Nat} {X:List Nat} {as1:List Xt} {B:List Nat} {n:Nat} (h:Nd (Z2 v) lo hi X as1) (hd:Xu B v n) (he:n=0->as1=[]):Nd g c c (X++Y3 [(v,k)]) as1:=by
 rcases Nat.eq_zero_or_pos n with h0|h0
 ·rw [he h0];exact ⟨fun _=>.nil,fun a ha=>by cases ha⟩
 ·have hm:=hd.own h0 k
  have e:Y3 [(v,k)]=[Z2 v]:=by
   obtain ⟨_,cap,e⟩:=hd.blk h0
   rw [e];rfl
  refine ⟨fun ⟨hx,_⟩=>h.nd ?_,fun a ha=>.inr ?_⟩
  ·have hdd:=List.nodup_append.1 hx
   exact ⟨hdd.1,fun q=>hdd.2.2 _ q _ hm rfl⟩
  ·rcases h.zn a ha with q|q
   ·rw [q.1];exact ZG.2 (.inr hm)
   ·exact ZG.2 (.inl q)
theorem Nd.perm {g lo hi:Nat} {X Y:List Nat} {as1:List Xt} (h:Nd g lo hi X as1) (p:X.Perm Y):Nd g lo hi Y as1:=
 ⟨fun ⟨a,b⟩=>h.nd ⟨p.nodup_iff.2 a,fun q=>b (p.mem_iff.1 q)⟩,fun a ha=>(h.zn a ha).imp id (fun q=>p.mem_iff.1 q)⟩
theorem Zbz (g:Nat):∀(n o:Nat),Nd g o (o+n) [] (Z7 g o n)
 | 0,o=>Nd.nil g o
 | n+1,o=>by
  have h:=(Nd.one g o).app (Zbz g n (o+1)) (Yp _) om om
  rw [show o+1+n=o+(n+1) by omega] at h
  exact h
section
variable {m:ZK} {B:List Nat}
theorem Jn {g c n:Nat} {v:Value} (h:Xu B v n):Nd g c c (Y3 [(v,1)]) (Z7 (Z2 v) 0 n):=by
 have:=(Zbz (Z2 v) n 0).sub (g:=g) (c:=c) (k:=1) h (fun e=>by rw [e];rfl)
 simpa using this
theorem Zbv {g c:Nat}:∀{o:Nat} {cs:List HCon} {b:Nat},Qv m B b o cs->Nd g c c (Y3 (YD cs)) (XB cs)
 | _,[],_,_=>Nd.nil g c
 | _,x::r,_,h=>by
  have e:YD (x::r)=[(x.fv,1)]++YD r:=rfl
  rw [e,WW]
  exact (Jn h.1.1.2).app (Zbv h.2) (Yp _) (Yp _) (Yp _)
theorem Z6q {g:Nat}:∀{o:Nat} {ds:List HDecl},Qw m B g o ds->Nd g o (o+3*ds.length) (Y3 (Yn ds)) (Ym g o ds)
 | o,[],_=>Nd.nil g o
 | o,x::r,h=>by
  have e:Yn (x::r)=(YD x.cons++[(x.cv,3-2)])++Yn r:=rfl
  rw [e,WW,WW]
  have h1:Nd g (o+2) (o+2) (Y3 (YD x.cons)++Y3 [(x.cv,3-2)]) (XB x.cons):=by
   refine Nd.sub (lo:=0) (hi:=0) (v:=x.cv) (Zbv h.1.2.2.2) h.1.2.2.1.2 fun q=>?_
   rw [K6.1 q];rfl
  have h2:=(Nd.one g o).app ((Nd.one g (o+1)).app h1 om om om) om om om
  have h3:=h2.app (Z6q (o:=o+3) h.2) om om om
  rw [show o+3+3*r.length=o+3*(x::r).length by simp;omega] at h3
  exact h3
mutual
theorem Zlv {g:Nat} {o:Nat}:∀{s:HStep},TF m B g o s->Nd g o (o+5) (Y3 (Xk s)) (TP g o s)
 | .mk op num into args av kids kv,h=>by
  rw [TF] at h
  rw [Xk,TP]
  have e:(av,1)::(YB kids++[(kv,2)])=[(av,1)]++(YB kids++[(kv,2)]):=rfl
  rw [e,WW,WW]
  have h1:Nd g (o+5) (o+5) (Y3 (YB kids)++Y3 [(kv,2)]) (Xh (Z2 kv) 0 kids):=by
   refine Nd.sub (v:=kv) (Zbs h.2.2.2) h.2.2.1.2 fun q=>?_
   rw [K6.1 q,Xh]
  have h0:Nd g (o+3) (o+3) (Y3 [(av,1)]) (Z7 (Z2 av) 0 args.length):=Jn h.2.1.1.2
  exact (Nd.one g o).app ((Nd.one g (o+1)).app ((Nd.one g (o+2)).app (h0.app h1 om om om) om om om) om om om) om om om
theorem Zlk {g:Nat} {o:Nat}:∀{s:HBlock},TC m B g o s->Nd g o (o+2) (Y3 (YO s)) (TO g o s)
 | .mk steps sv result,h=>by
  rw [TC] at h
  rw [YO,TO,WW]
  have h1:Nd g o o (Y3 (YC steps)++Y3 [(sv,5)]) (Yc (Z2 sv) 0 steps):=by
   refine Nd.sub (v:=sv) (Z6v h.1.2) h.1.1.2 fun q=>?_
   rw [K6.1 q,Yc]
  have h2:=h1.app (Nd.one g (o+1)) om om om
  rw [Qg] at h2
  exact h2
theorem Z6v {g:Nat}:∀{o:Nat} {xs:List HStep},V2 m B g o xs->Nd g o (o+5*xs.length) (Y3 (YC xs)) (Yc g o xs)
 | o,[],_=>by rw [YC,Yc];exact Nd.nil g o
 | o,x::r,h=>by
  rw [V2] at h
  rw [YC,Yc,WW]
  have h3:=(Zlv h.1).app (Z6v (o:=o+5) h.2) om om om
  rw [show o+5+5*r.length=o+5*(x::r).length by simp;omega] at h3
  exact h3
theorem Zbs {g:Nat}:∀{o:Nat} {xs:List HBlock},VA m B g o xs->Nd g o (o+2*xs.length) (Y3 (YB xs)) (Xh g o xs)
 | o,[],_=>by rw [YB,Xh];exact Nd.nil g o
 | o,x::r,h=>by
  rw [VA] at h
  rw [YB,Xh,WW]
  have h3:=(Zlk h.1).app (Zbs (o:=o+2) h.2) om om om
  rw [show o+2+2*r.length=o+2*(x::r).length by simp;omega] at h3
  exact h3
end
theorem Zca {g:Nat}:∀{o:Nat} {rs:List HRoutine},Jh m B g o rs->Nd g o (o+5*rs.length) (Y3 (YP rs)) (WK g o rs)
 | o,[],_=>Nd.nil g o
 | o,x::r,h=>by
  have e:YP (x::r)=([(x.pv,1)]++([(x.lv,1)]++YO x.body))++YP r:=rfl
  rw [e,WW,WW,WW,Z8n,WW]
  have h1:Nd g (o+3) (o+3) (Y3 (YC x.body.steps)++Y3 [(x.body.sv,5)]) (Yc (Z2 x.body.sv) 0 x.body.steps):=by
   refine Nd.sub (v:=x.body.sv) (Z6v h.1.2.2.2.1.2) h.1.2.2.2.1.1.2 fun q=>?_
   rw [K6.1 q,Yc]
  have h2:=h1.app (Nd.one g (o+4)) om om om
  rw [Qg] at h2
  have h3:=(Nd.one g (o+2)).app h2 om om om
  have h4:Nd g (o+1) (o+1) (Y3 [(x.lv,1)]) (Z7 (Z2 x.lv) 0 x.lent.length):=Jn h.1.2.1.1.2
  have h5:Nd g o o (Y3 [(x.pv,1)]) (Z7 (Z2 x.pv) 0 x.params.length):=Jn h.1.1.1.2
  have h6:=(h5.app (h4.app h3 om om om) om om om).app (Zca (o:=o+5) h.2) om om om
  rw [show o+5+5*r.length=o+5*(x::r).length by simp;omega] at h6
  exact h6
theorem Zlq {y:HNormal} (h:Jg m B y) (hn:(Y3 (YT y)).Nodup):(XY y).Nodup:=by
 have e:YT y=(Yn y.decls++[(y.dv,3)])++(YP y.routines++[(y.rv,5)]):=by simp [YT]
 rw [e,WW,WW,WW] at hn
 obtain ⟨g,hg⟩:∃g,g∉(Y3 (Yn y.decls)++Y3 [(y.dv,3)])++(Y3 (YP y.routines)++Y3 [(y.rv,5)]):=by
  generalize (Y3 (Yn y.decls)++Y3 [(y.dv,3)])++(Y3 (YP y.routines)++Y3 [(y.rv,5)])=l
  refine ⟨l.sum+1,fun q=>?_⟩
  have:∀(l:List Nat) (x:Nat),x∈l->x<=l.sum:=by
   intro l
   induction l with
   | nil=>intro x hx;cases hx
   | cons a r ih=>
    intro x hx
    rw [KF]
    rcases ZM.1 hx with rfl|hx
    ·omega
    ·have:=ih x hx;omega
  have:=this l _ q
  omega
 have h1:Nd g 0 0 (Y3 (Yn y.decls)++Y3 [(y.dv,3)]) (Ym (Z2 y.dv) 0 y.decls):=by
  refine Nd.sub (v:=y.dv) (Z6q h.1.2) h.1.1 fun q=>?_
  rw [K6.1 q];rfl
 have h2:Nd g 0 0 (Y3 (YP y.routines)++Y3 [(y.rv,5)]) (WK (Z2 y.rv) 0 y.routines):=by
  refine Nd.sub (v:=y.rv) (Zca h.2.2) h.2.1 fun q=>?_
  rw [K6.1 q];rfl
 exact (h1.app h2 om om om).nd ⟨hn,hg⟩
end
theorem Zu {α:Type} {xs:List α} {k:Nat} {x:α} (h:xs[k]? = some x):xs.drop k=x::xs.drop (k+1):=by
 have hk:=(Yg.1 h).1
 rw [Z6c hk]
 congr 1
 rw [UX hk] at h
 exact U6 h
theorem Ye {α:Type} {xs:List α} {k:Nat} (h:xs.length<=k):xs.drop k=[]:=Tg h
theorem V3 {α:Type} {xs:List α} {k:Nat} {x:α} (h:xs[k]? = some x):xs.take (k+1)=xs.take k++[x]:=by
 rw [List.take_add_one,h];rfl
def ZA:List Decl->Nat
 | []=>0
 | d::ds=>d.cons.length+ZA ds
theorem Z1z (xs ys:List Decl):ZA (xs++ys)=ZA xs+ZA ys:=by
 induction xs with
 | nil=>simp [ZA]
 | cons d ds ih=>simp [ZA,ih];omega
structure DOk (ds:List Decl):Prop where
 len:ds.length<=4
 cons:∀d∈ds,d.cons.length<=3
 fields:∀d∈ds,∀c∈d.cons,c.fields.length<=3
theorem Znw {ds:List Decl} {m:Nat} (h:∀d∈ds,d.cons.length<=m):ZA ds<=ds.length*m:=by
 induction ds with
 | nil=>simp [ZA]
 | cons d ds ih=>
  have h1:=h d (by simp)
  have h2:=ih (fun x hx=>h x (by simp [hx]))
  simp only [ZA,Y5,Up];omega
theorem DOk.sum {ds:List Decl} (h:DOk ds):ZA ds<=12:=by
 have:=Znw h.cons
 have:=h.len
 have:ds.length*3<=4*3:=KG 3 h.len
 omega
theorem DOk.take {ds:List Decl} (h:DOk ds) (k:Nat):DOk (ds.take k):=
 ⟨by have:=h.len;simp;omega,fun d hd=>h.cons d (Z3j hd),fun d hd=>h.fields d (Z3j hd)⟩
theorem DOk.cons_at {ds:List Decl} (h:DOk ds) {k:Nat} {d:Decl} (hd:ds[k]? = some d):d.cons.length<=3:=h.cons d (ZV hd)
theorem DOk.fields_at {ds:List Decl} (h:DOk ds) {k j:Nat} {d:Decl} {c:Con} (hd:ds[k]? = some d) (hc:d.cons[j]? = some c):c.fields.length<=3:=
 h.fields d (ZV hd) c (ZV hc)
def VG (c:Int):List Decl->Nat->Nat->Int × List Int
 | [],_,_=>(-1,[])
 | d::ds,i,first=>
  if (first:Int)<=c/\c<=((first+d.cons.length:Nat):Int)-1 then ((i:Int)+1,(d.cons[(c-first).toNat]?.map (·.fields)).getD []) else VG c ds (i+1) (first+d.cons.length)
def Yr (ds:List Decl) (c:Int):Int:=(VG c ds 0 0).1
def Zc (ds:List Decl) (c:Int):List Int:=(VG c ds 0 0).2
theorem Z7g {c:Int}:∀{ds:List Decl} {i first:Nat},(VG c ds i first=(-1,[]) ∨
  ∃k d x,ds[k]? = some d/\(first+ZA (ds.take k):Int)<=c/\c<first+ZA (ds.take k)+d.cons.length/\d.cons[(c-(first+ZA (ds.take k))).toNat]? = some x/\VG c ds i first=((i:Int)+k+1,x.fields))
 | [],_,_=>.inl rfl
 | d::ds,i,first=>by
  rw [VG]
  split
  ·rename_i h
   have hlt:(c-first).toNat<d.cons.length:=by omega
   refine .inr ⟨0,d,d.cons[(c-first).toNat],rfl,by simp [ZA];omega,by simp [ZA];omega,?_,?_⟩
   ·simp [ZA]
   ·rw [UX hlt];simp
  ·rcases Z7g (c:=c) (ds:=ds) (i:=i+1) (first:=first+d.cons.length) with h|⟨k,e,x,h1,h2,h3,h4,h5⟩
   ·exact .inl h
   ·refine .inr ⟨k+1,e,x,by simpa using h1,by simp [ZA];omega,by simp [ZA];omega,?_,?_⟩
    ·rw [<-h4];congr 3;simp [ZA];omega
    ·rw [h5];congr 1;omega
theorem Z7h {ds:List Decl} {c:Int} (h:¬Yr ds c<1) :
  ∃k d x,ds[k]? = some d/\(ZA (ds.take k):Int)<=c/\d.cons[(c-ZA (ds.take k)).toNat]? = some x/\Yr ds c=(k:Int)+1/\Zc ds c=x.fields:=by
 rcases Z7g (c:=c) (ds:=ds) (i:=0) (first:=0) with h1|⟨k,d,x,h1,h2,_,h4,h5⟩
 ·simp [Yr,h1] at h
 ·exact ⟨k,d,x,h1,by simpa using h2,by simpa using h4,by simp [Yr,h5],by simp [Zc,h5]⟩
theorem Z43 {ds:List Decl} {c:Int} (h:Yr ds c<1):Zc ds c=[]/\Yr ds c=-1:=by
 rcases Z7g (c:=c) (ds:=ds) (i:=0) (first:=0) with h1|⟨k,d,x,h1,h2,_,h4,h5⟩
 ·simp [Zc,Yr,h1]
 ·simp [Yr,h5] at h;omega
def Xy (first:Int):Nat->List Int
 | 0=>[]
 | n+1=>first::Xy (first+1) n
theorem Zhl (first:Int) (n:Nat):Xy first (n+1)=Xy first n++[first+n]:=by
 induction n generalizing first with
 | zero=>simp [Xy]
 | succ n ih=>rw [Xy,ih (first+1),Xy];simp;omega
@[simp] theorem Zv2 (first:Int) (n:Nat):(Xy first n).length=n:=by
 induction n generalizing first with
 | zero=>rfl
 | succ n ih=>simp [Xy,ih]
def Zt (ds:List Decl) (t:Int):List Int:=
 if 1<=t/\t<=ds.length then Xy (ZA (ds.take (t-1).toNat)) (((ds[(t-1).toNat]?).map (·.cons.length)).getD 0) else []
def Tl (frm to_:Int):List Decl->Nat->Int
 | [],_=>-1
 | d::ds,i=>if d.cons.length=0/\d.frm=frm/\d.to_=to_ then (i:Int)+1 else Tl frm to_ ds (i+1)
def WV (ds:List Decl) (frm to_:Int):Int:=Tl frm to_ ds 0
def Yv (ds:List Decl) (t:Int):Bool:=decide (1<=t/\t<=ds.length)&&((ds[(t-1).toNat]?).map fun d=>decide (d.cons.length=0)).getD false
theorem Z4z {ds:List Decl} {t:Int} {x:Decl} (h:1<=t/\t<=ds.length) (hx:ds[(t-1).toNat]? = some x):((x.cons.length:Int)==0)=Yv ds t:=by
 rw [Yv,hx,YW];simp [h]
theorem Z8w {ds:List Decl} {t:Int} (h:¬(1<=t/\t<=ds.length)):false=Yv ds t:=by
 rw [Yv,YW];simp only [Bool.false_eq_true,YN,decide_eq_true_eq,h,false_and]
def YK (m:Nat) (xs:List Int):Bool:=xs.all fun t=>decide (0<=t/\t<=m)
structure Sg where
 params:List Int
 result:Int
abbrev aSg (f:Sg):AV:=.agg [.sl (Z6 f.params) none,.i f.result,.i 0,.i 0,.sl [] none]
def X3 (fs:List Sg):List AV:=fs.map aSg
theorem Z7z {xs:List Sg} {j:Nat} {x:Sg} (h:xs[j]? = some x):(X3 xs)[j]? = some (aSg x):=by simp [X3,h]
@[simp] theorem Ze4 (xs:List Sg):(X3 xs).length=xs.length:=by simp [X3]
theorem Ze3 (xs:List Sg):∀y∈X3 xs,y.leaves.length=5:=by intro y hy;simp only [X3,YJ] at hy;obtain ⟨x,_,rfl⟩:=hy;rfl
theorem Zpe (xs:List Sg):(Z9 (X3 xs)).all AV.one=true:=Qt fun y hy=>by simp only [X3,YJ] at hy;obtain ⟨x,_,rfl⟩:=hy;rfl
mutual
def Step.sz:Step->Nat
 | .mk _ _ _ args kids=>1+args.length+Yx kids
def Block.sz:Block->Nat
 | .mk steps _=>1+ZR steps
def ZR:List Step->Nat
 | []=>0
 | s::r=>s.sz+ZR r
def Yx:List Block->Nat
 | []=>0
 | b::r=>b.sz+Yx r
end
theorem Step.sz_pos (s:Step):1<=s.sz:=by cases s;rw [Step.sz];omega
theorem Block.sz_pos (b:Block):1<=b.sz:=by cases b;rw [Block.sz];omega
theorem Zk5 (l:List Step):l.length<=ZR l:=by
 induction l with
 | nil=>simp
 | cons s r ih=>have:=s.sz_pos;simp only [Y5,ZR];omega
theorem Z79 (l:List Block):l.length<=Yx l:=by
 induction l with
 | nil=>simp
 | cons s r ih=>have:=s.sz_pos;simp only [Y5,Yx];omega
theorem Z32 {l:List Step} {k:Nat} {s:Step} (h:l[k]? = some s):s.sz<=ZR l:=by
 induction l generalizing k with
 | nil=>simp at h
 | cons t r ih=>
  cases k with
  | zero=>simp at h;subst h;simp only [ZR];omega
  | succ k=>have:=ih (k:=k) (by simpa using h);simp only [ZR];omega
theorem Z0f {l:List Block} {k:Nat} {s:Block} (h:l[k]? = some s):s.sz<=Yx l:=by
 induction l generalizing k with
 | nil=>simp at h
 | cons t r ih=>
  cases k with
  | zero=>simp at h;subst h;simp only [Yx];omega
  | succ k=>have:=ih (k:=k) (by simpa using h);simp only [Yx];omega
theorem Step.sz_eq (s:Step):s.sz=1+s.args.length+Yx s.kids:=by cases s;rw [Step.sz];rfl
theorem Block.sz_eq (b:Block):b.sz=1+ZR b.steps:=by cases b;rw [Block.sz];rfl
theorem Zb4 {b:Block} {k:Nat} {s:Step} (h:b.steps[k]? = some s):s.sz<b.sz:=by have:=Z32 h;have:=b.sz_eq;omega
theorem UN {s:Step} {k:Nat} {b:Block} (h:s.kids[k]? = some b):b.sz<s.sz:=by have:=Z0f h;have:=s.sz_eq;omega
theorem TR (s:Step):s.args.length<s.sz:=by have:=s.sz_eq;omega
theorem UO (s:Step):s.kids.length<s.sz:=by have:=s.sz_eq;have:=Z79 s.kids;omega
theorem Z02 (b:Block):b.steps.length<b.sz:=by have:=b.sz_eq;have:=Zk5 b.steps;omega
structure DSz (ds:List Decl):Prop where
 len:ds.length<=4194304
 cons:∀d∈ds,d.cons.length<=4194304
 fields:∀d∈ds,∀c∈d.cons,c.fields.length<=4194304
theorem DSz.cons_at {ds:List Decl} (h:DSz ds) {k:Nat} {d:Decl} (hd:ds[k]? = some d):d.cons.length<=4194304:=h.cons d (ZV hd)
theorem DSz.fields_at {ds:List Decl} (h:DSz ds) {k j:Nat} {d:Decl} {c:Con} (hd:ds[k]? = some d) (hc:d.cons[j]? = some c):c.fields.length<=4194304:=
 h.fields d (ZV hd) c (ZV hc)
def Qo (m:Nat) (c:Con):Bool:=decide (c.fields.length<=3)&&YK m c.fields
def T5 (d:Decl):List Decl->Bool
 | []=>false
 | e::r=>if e.cons.length=0/\e.frm=d.frm/\e.to_=d.to_ then true else T5 d r
def U8 (m:Nat):List Con->Bool
 | []=>true
 | c::r=>if Qo m c=true then U8 m r else false
def Vi (ds:List Decl) (d:Decl) (i:Nat):Bool:=
 if 0<d.cons.length then (if d.cons.length<=3/\d.frm=0/\d.to_=0 then U8 ds.length d.cons else false)
 else if T5 d (ds.take i)=true then false else decide (0<=d.frm/\d.frm<=ds.length)&&decide (0<=d.to_/\d.to_<=ds.length)
def KQ (ds:List Decl) (i:Nat):Bool:=(ds[i]?.map fun d=>Vi ds d i).getD false
theorem Z22 {ds:List Decl} {i:Nat} {d:Decl} (h:ds[i]? = some d):KQ ds i=Vi ds d i:=by rw [KQ,h];rfl
def VH (ds:List Decl):List Decl->Nat->Bool
 | [],_=>true
 | _::r,i=>if KQ ds i=true then VH ds r (i+1) else false
def Xf (ds:List Decl):Bool:=decide (ds.length<=4)&&VH ds ds 0
theorem Zdi {m:Nat} {cs:List Con}:U8 m cs=true↔∀c∈cs,Qo m c=true:=by
 induction cs with
 | nil=>simp [U8]
 | cons c r ih=>
  rw [U8]
  split
  ·rename_i h;simp [ih,h]
  ·rename_i h;simp [h]
theorem Z7l {ds:List Decl}:∀{l:List Decl} {i:Nat},VH ds l i=true↔∀j<l.length,KQ ds (i+j)=true
 | [],i=>by simp [VH]
 | d::r,i=>by
  rw [VH]
  split
  ·rename_i h
   rw [Z7l (l:=r)]
   constructor
   ·intro hq j hj
    cases j with
    | zero=>exact h
    | succ j=>have:=hq j (by simpa using hj);rwa [show i+(j+1)=i+1+j by omega]
   ·intro hq j hj
    have:=hq (j+1) (by simpa using hj)
    rwa [show i+(j+1)=i+1+j by omega] at this
  ·rename_i h
   simp only [Bool.false_eq_true,false_iff]
   intro hq
   exact h (hq 0 (by simp))
theorem Y0q {ds:List Decl} (h:Xf ds=true):DOk ds:=by
 simp only [Xf,YN,decide_eq_true_eq] at h
 obtain ⟨h1,h2⟩:=h
 rw [Z7l] at h2
 have key:∀d∈ds,∃i,Vi ds d i=true:=fun d hd=>by
  obtain ⟨i,hi⟩:=List.mem_iff_getElem?.1 hd
  have:=h2 i (Yg.1 hi).1
  rw [XQ,Z22 hi] at this
  exact ⟨i,this⟩
 have hc:∀d∈ds,0<d.cons.length->d.cons.length<=3/\U8 ds.length d.cons=true:=fun d hd hp=>by
  obtain ⟨i,hi⟩:=key d hd
  rw [Vi,Z8 hp] at hi
  split at hi
  ·rename_i h;exact ⟨h.1,hi⟩
  ·cases hi
 refine ⟨h1,fun d hd=>?_,fun d hd c hc'=>?_⟩
 ·by_cases hp:0<d.cons.length
  ·exact (hc d hd hp).1
  ·omega
 ·have:=Zdi.1 (hc d hd (List.length_pos_of_mem hc')).2 c hc'
  simp only [Qo,YN,decide_eq_true_eq] at this
  exact this.1
theorem DOk.sz {ds:List Decl} (h:DOk ds):DSz ds:=
 ⟨by have:=h.len;omega,fun d hd=>by have:=h.cons d hd;omega,fun d hd c hc=>by have:=h.fields d hd c hc;omega⟩
def Q7 (m:Nat) (f:Sg):Bool:=decide (f.params.length<=3)&&(YK m f.params&&decide (0<=f.result/\f.result<=m))
def Q8 (m:Nat):List Sg->Bool
 | []=>true
 | f::r=>if Q7 m f=true then Q8 m r else false
def Z4i:List Sg->Bool
 | []=>false
 | f::_=>decide (f.params.length=0)&&decide (f.result=0)
theorem Zq4 {fs:List Sg} {x:Sg} (h:fs[0]? = some x):Z4i fs=(decide (x.params.length=0)&&decide (x.result=0)):=by
 cases fs with
 | nil=>simp at h
 | cons f r=>simp at h;subst h;rfl
def UW (ds:List Decl) (fs:List Sg):Bool:=
 Xf ds&&(decide (1<=fs.length/\fs.length<=4)&&(Q8 ds.length fs&&Z4i fs))
def UR (ps:List Int):List Int->Option Int->Bool
 | [],_=>true
 | v::r,prev=>if (0<=v/\v<=(ps.length:Int)-1)/\ps[v.toNat]?≠some 0/\(∀p,prev=some p->p<v) then UR ps r (some v) else false
theorem Z98 {ps r:List Int} {v:Int} {prev:Option Int} (h:(0<=v/\v<=(ps.length:Int)-1)/\ps[v.toNat]?≠some 0/\(∀p,prev=some p->p<v)):UR ps (v::r) prev=UR ps r (some v):=by
 rw [UR,Z8 h]
theorem Z5a {ps r:List Int} {v:Int} {prev:Option Int} (h:¬((0<=v/\v<=(ps.length:Int)-1)/\ps[v.toNat]?≠some 0/\(∀p,prev=some p->p<v))):UR ps (v::r) prev=false:=by
 rw [UR,Z4 h]
def TH (ps ls:List Int):Bool:=UR ps ls none
def Q1:List Routine->Bool
 | []=>true
 | r::rs=>if TH r.params r.lent=true then Q1 rs else false
def Wk (r:Routine):Sg:=⟨r.params,r.result⟩
def XF (n:Normal):Bool:=decide (n.routines.length<=4)&&(UW n.decls (n.routines.map Wk)&&Q1 n.routines)
end Go.Abs
section
namespace Go.Abs
def Yq {α:Type} (xs:List α) (i:Int):Option α:=if 0<=i/\i<=(xs.length:Int)-1 then xs[i.toNat]? else none
theorem Ut {α:Type} {xs:List α} {i:Int} {x:α} (h:0<=i/\i<=(xs.length:Int)-1) (hx:xs[i.toNat]? = some x):Yq xs i=some x:=by rw [Yq,Z8 h,hx]
theorem Tm {α:Type} {xs:List α} {i:Int} (h:¬(0<=i/\i<=(xs.length:Int)-1)):Yq xs i=none:=by rw [Yq,Z4 h]
theorem Tn {α:Type} {xs:List α} {i:Int} {x:α} (h:Yq xs i=some x):(0<=i/\i<=(xs.length:Int)-1)/\xs[i.toNat]? = some x:=by
 rw [Yq] at h
 split at h
 ·rename_i h1;exact ⟨h1,h⟩
 ·cases h
def VB (vars:List Int):List Int->List Int->Bool
 | [],[]=>true
 | a::as1,t::ts=>if Yq vars a=some t then VB vars as1 ts else false
 | _,_=>false
def YM (vars args types:List Int):Bool:=VB vars args types
theorem Zkr {vars:List Int}:∀{args types:List Int},args.length≠types.length->VB vars args types=false
 | [],[],h=>absurd rfl h
 | [],_::_,_=>rfl
 | _::_,[],_=>rfl
 | a::as1,t::ts,h=>by
  rw [VB]
  split
  ·exact Zkr (by simpa using h)
  ·rfl
theorem Y0p {vars args types:List Int} {k:Nat} {a t:Int} (ha:args[k]? = some a) (ht:types[k]? = some t) (h:Yq vars a=some t) :
  VB vars (args.drop k) (types.drop k)=VB vars (args.drop (k+1)) (types.drop (k+1)):=by
 rw [Zu ha,Zu ht,VB,Z8 h]
theorem Zkq {vars args types:List Int} {k:Nat} {a t:Int} (ha:args[k]? = some a) (ht:types[k]? = some t) (h:Yq vars a≠some t) :
  VB vars (args.drop k) (types.drop k)=false:=by
 rw [Zu ha,Zu ht,VB,Z4 h]
theorem Y0o {vars args types:List Int} {k:Nat} (ha:args.length<=k) (ht:types.length<=k):VB vars (args.drop k) (types.drop k)=true:=by
 rw [Ye ha,Ye ht];rfl
def XI (op:Int):Bool:=op==0||(op==6||(op==8||(op==9||op==10)))
def Yl (op:Int):Bool:=decide (0<=op/\op<=11)
def Y2 (op:Int):Bool:=decide (14<=op/\op<=17)
def Wl (vars:List Int) (op into:Int):Bool:=
 if into=0 then true else if op=6 then ((Yq vars (into-1)).map fun t=>decide (0<t)).getD false else false
def TT (ds:List Decl) (ps:List Int) (res:Int):Int:=WV ds (ps.getLast?.getD 0) res
def TA (ds:List Decl) (vars:List Int) (op:Int) (args:List Int) (r:Routine):Int:=
 if op=9 then (if YM vars args r.params=true then r.result else -1)
 else if r.params.length=0∨0<r.lent.length∨¬YM vars args (r.params.take (r.params.length-1))=true then -1
 else TT ds r.params r.result
def UE (n:Normal) (vars:List Int) (op num:Int) (args:List Int):Int:=
 match Yq n.routines num with
 | none=>-1
 | some r=>TA n.decls vars op args r
def Uw (ds:List Decl) (vars:List Int) (op:Int) (args:List Int):Int:=
 match args with
 | [a]=>match Yq vars a with
  | some t=>if t=0 then -1 else if (op≠14/\op≠15)/\Yv ds t=true then -1 else 0
  | none=>-1
 | _=>-1
def T1 (ds:List Decl) (vars:List Int) (args:List Int):Int:=
 match args with
 | [a,b]=>match Yq vars a with
  | some t=>if Yv ds t=true then
    (match ds[(t-1).toNat]? with
     | some d=>if YM vars [b] [d.frm]=true then d.to_ else -1
     | none=>-1) else -1
  | none=>-1
 | _=>-1
def Zy (ds:List Decl) (op num:Int):List (List Int):=if op=7 then [[],[]] else (Zt ds num).map (Zc ds)
mutual
def Zp (n:Normal) (vars:List Int):Step->Int
 | .mk op num into args kids=>
  if (num≠0/\¬XI op=true)∨¬Wl vars op into=true∨(0<kids.length/\op≠7/\op≠8) then -1
  else if op=0 then (if args.length=0/\(-999<=num/\num<=999) then 0 else -1)
  else if op=1∨op=2∨op=3∨op=4 then (if YM vars args [0,0]=true then 0 else -1)
  else if op=5 then (if YM vars args [0]=true then 0 else -1)
  else if op=6 then (if 0<Yr n.decls num/\YM vars args (Zc n.decls num)=true then Yr n.decls num else -1)
  else if op=7 then (if YM vars args [0]=true then (if (Zy n.decls op num).length=0∨kids.length≠(Zy n.decls op num).length then -1 else Xm n vars kids (Zy n.decls op num) true 0) else -1)
  else if op=8 then (if YM vars args [num]=true then (if (Zy n.decls op num).length=0∨kids.length≠(Zy n.decls op num).length then -1 else Xm n vars kids (Zy n.decls op num) true 0) else -1)
  else if op=9∨op=10 then UE n vars op num args
  else if op=11 then T1 n.decls vars args
  else if op=14∨op=15∨op=16∨op=17 then Uw n.decls vars op args
  else -1
def Xm (n:Normal) (vars:List Int):List Block->List (List Int)->Bool->Int->Int
 | [],_,_,t=>t
 | b::bs,more,first,t=>
  match more with
  | []=>-1
  | m::ms=>if ZF n (vars++m) b<0∨(first=false/\ZF n (vars++m) b≠t) then -1 else Xm n vars bs ms false (ZF n (vars++m) b)
def X7 (n:Normal):List Step->List Int->Option (List Int)
 | [],vars=>some vars
 | s::r,vars=>if Zp n vars s<0 then none else X7 n r (if Yl s.op=true then vars++[Zp n vars s] else vars)
def ZF (n:Normal) (vars:List Int):Block->Int
 | .mk steps result=>match X7 n steps vars with
  | none=>-1
  | some vs=>(Yq vs result).getD (-1)
end
def Vw (n:Normal) (vars:List Int) (op num:Int) (kids:List Block):Int:=
 if (Zy n.decls op num).length=0∨kids.length≠(Zy n.decls op num).length then -1 else Xm n vars kids (Zy n.decls op num) true 0
mutual
def J2:Step->Int->Int
 | .mk _ _ _ _ kids,left=>UB kids left
def X4:Block->Int->Int
 | .mk steps _,left=>Ul steps left
def Ul:List Step->Int->Int
 | [],left=>left
 | s::r,left=>if left<1 then -1 else if J2 s (left-1)<0 then -1 else Ul r (J2 s (left-1))
def UB:List Block->Int->Int
 | [],left=>left
 | b::r,left=>if X4 b left<0 then -1 else UB r (X4 b left)
end
def Vl (b:Block):Int:=if X4 b 600<0 then -1 else 600-X4 b 600
def T9 (n:Normal):List Routine->Bool
 | []=>true
 | r::rs=>if ¬Vl r.body<0/\ZF n r.params r.body=r.result then T9 n rs else false
def Vm (n:Normal):Bool:=XF n&&T9 n n.routines
theorem Z95:(∀(s:Step) (l:Int),0<=l->J2 s l<=l)/\(∀(b:Block) (l:Int),0<=l->X4 b l<=l):=by
 have key:∀m:Nat,(∀s:Step,s.sz<=m->∀l:Int,0<=l->J2 s l<=l)/\(∀b:Block,b.sz<=m->∀l:Int,0<=l->X4 b l<=l):=by
  intro m
  induction m with
  | zero=>exact ⟨fun s h=>by have:=s.sz_pos;omega,fun s h=>by have:=s.sz_pos;omega⟩
  | succ m ih=>
   refine ⟨fun s hs l hl=>?_,fun b hb l hl=>?_⟩
   ·cases s with
    | mk op num into args kids=>
     rw [J2]
     have hk:Yx kids<=m:=by rw [Step.sz] at hs;omega
     clear hs
     induction kids generalizing l with
     | nil=>rw [UB];exact Int.le_refl _
     | cons b r ihr=>
      rw [Yx] at hk
      have:=ih.2 b om l hl
      rw [UB]
      split
      ·omega
      ·have:=ihr (X4 b l) om om;omega
   ·cases b with
    | mk steps res=>
     rw [X4]
     have hk:ZR steps<=m:=by rw [Block.sz] at hb;omega
     clear hb
     induction steps generalizing l with
     | nil=>rw [Ul];exact Int.le_refl _
     | cons s r ihr=>
      rw [ZR] at hk
      rw [Ul]
      split
      ·omega
      ·have:=ih.1 s om (l-1) om
       split
       ·omega
       ·have:=ihr (J2 s (l-1)) om om;omega
 exact ⟨fun s l hl=>(key s.sz).1 s (Yp _) l hl,fun b l hl=>(key b.sz).2 b (Yp _) l hl⟩
end Go.Abs
namespace Go.Abs
theorem Zyx {l:List Step} {k:Nat} {s:Step} (h:l[k]? = some s):k+s.sz<=ZR l:=by
 induction l generalizing k with
 | nil=>simp at h
 | cons t r ih=>
  cases k with
  | zero=>simp at h;subst h;simp only [ZR];omega
  | succ k=>have:=ih (k:=k) (by simpa using h);have:=t.sz_pos;simp only [ZR];omega
theorem Z5y {b:Block} {k:Nat} {s:Step} (h:b.steps[k]? = some s):k+s.sz<b.sz:=by have:=Zyx h;have:=b.sz_eq;omega
structure NOk (n:Normal):Prop where
 decls:DOk n.decls
 len:n.routines.length<=4
 params:∀r∈n.routines,r.params.length<=3
 lent:∀r∈n.routines,r.lent.length<=4194304
theorem NOk.params_at {n:Normal} (h:NOk n) {k:Nat} {r:Routine} (hr:n.routines[k]? = some r):r.params.length<=3:=h.params r (ZV hr)
theorem NOk.lent_at {n:Normal} (h:NOk n) {k:Nat} {r:Routine} (hr:n.routines[k]? = some r):r.lent.length<=4194304:=h.lent r (ZV hr)
theorem Zmf {ds:List Decl} {num:Int} {k:Nat} {x:Int} (h:(Zt ds num)[k]? = some x):(Zy ds 8 num)[k]? = some (Zc ds x):=by
 rw [Zy,Z4 om,VC,h];rfl
end Go.Abs
namespace Go.Abs
theorem Z9j {ds:List Decl} (hd:DOk ds) (t:Int):(Zt ds t).length<=3:=by
 rw [Zt]
 split
 ·rename_i h
  obtain ⟨d,hd1⟩:=Zl (xs:=ds) (j:=(t-1).toNat) om
  rw [hd1,Zv2]
  exact hd.cons_at hd1
 ·simp
theorem VV {ds:List Decl} (hd:DOk ds) (c:Int):(Zc ds c).length<=3:=by
 by_cases h:Yr ds c<1
 ·rw [(Z43 h).1];simp
 ·obtain ⟨k,d,x,h1,_,h3,_,h5⟩:=Z7h h
  rw [h5];exact hd.fields_at h1 h3
theorem Z0d {ds:List Decl} (hd:DOk ds) {op num:Int} {k:Nat} {m:List Int} (h:(Zy ds op num)[k]? = some m):m.length<=3:=by
 have hm:=ZV h
 rw [Zy] at hm
 split at hm
 ·simp at hm;subst hm;simp
 ·obtain ⟨c,_,rfl⟩:=YJ.1 hm;exact VV hd c
theorem TQ {α:Type} {xs:List α} {x:α} (h:xs.length=1) (hx:xs[0]? = some x):xs=[x]:=by
 cases xs with
 | nil=>simp at h
 | cons a r=>
  cases r with
  | nil=>simp at hx;rw [hx]
  | cons b r=>simp at h
theorem Z0j {ds:List Decl} {us args:List Int} {op:Int} (h:args.length≠1):Uw ds us op args=-1:=by
 cases args with
 | nil=>rfl
 | cons a r=>
  cases r with
  | nil=>simp at h
  | cons b r=>rfl
theorem Z0k {ds:List Decl} {us args:List Int} {op a:Int} (h:args=[a]) (hi:¬(0<=a/\a<=(us.length:Int)-1)):Uw ds us op args=-1:=by
 subst h;rw [Uw];simp only [Tm hi]
theorem Z0i {ds:List Decl} {us args:List Int} {op a t:Int} (h:args=[a]) (hi:0<=a/\a<=(us.length:Int)-1) (ht:us[a.toNat]? = some t) :
  Uw ds us op args=if t=0 then -1 else if (op≠14/\op≠15)/\Yv ds t=true then -1 else 0:=by
 subst h;rw [Uw];simp only [Ut hi ht]
theorem Zwb {n:Normal} {us args:List Int} {op num:Int} {r:Routine} (hi:0<=num/\num<=(n.routines.length:Int)-1) (hr:n.routines[num.toNat]? = some r) :
  UE n us op num args=TA n.decls us op args r:=by
 rw [UE];simp only [Ut hi hr]
theorem Zwd {n:Normal} {us args:List Int} {op num:Int} (hi:¬(0<=num/\num<=(n.routines.length:Int)-1)):UE n us op num args=-1:=by
 rw [UE];simp only [Tm hi]
theorem Zfk {xs:List Int} {x:Int} (h:xs[xs.length-1]? = some x):xs.getLast?.getD 0=x:=by
 rw [List.getLast?_eq_getElem?,h];rfl
theorem Zgm {n:Normal} {us:List Int} {bs:List Block} {ms:List (List Int)} {b:Block} {m:List Int} {k:Nat} {t:Int} (hb:bs[k]? = some b) (hm:ms[k]? = some m)
  (h:¬(ZF n (us++m) b<0∨(k:Int)>0/\ZF n (us++m) b≠t)) :
  Xm n us (bs.drop k) (ms.drop k) (decide (k=0)) t=Xm n us (bs.drop (k+1)) (ms.drop (k+1)) (decide (k+1=0)) (ZF n (us++m) b):=by
 rw [Zu hb,Zu hm,Xm,Z4]
 ·simp
 ·rintro (q|⟨q1,q2⟩)
  ·exact h (.inl q)
  ·exact h (.inr ⟨by simp at q1;omega,q2⟩)
theorem Zgi {n:Normal} {us:List Int} {bs:List Block} {ms:List (List Int)} {b:Block} {m:List Int} {k:Nat} {t:Int} (hb:bs[k]? = some b) (hm:ms[k]? = some m)
  (h:ZF n (us++m) b<0∨(k:Int)>0/\ZF n (us++m) b≠t) :
  Xm n us (bs.drop k) (ms.drop k) (decide (k=0)) t=-1:=by
 rw [Zu hb,Zu hm,Xm,Z8]
 rcases h with q|⟨q1,q2⟩
 ·exact .inl q
 ·exact .inr ⟨by simp;omega,q2⟩
theorem Zgj {n:Normal} {us:List Int} {bs:List Block} {ms:List (List Int)} {k:Nat} {f:Bool} {t:Int} (hb:bs.length<=k):Xm n us (bs.drop k) (ms.drop k) f t=t:=by
 rw [Ye hb,Xm]
end Go.Abs
end
namespace Go.Abs
theorem Qd (n:Normal) (us:List Int) (s:Step):Zp n us s =
  if (s.num≠0/\¬XI s.op=true)∨¬Wl us s.op s.into=true∨(0<s.kids.length/\s.op≠7/\s.op≠8) then -1
  else if s.op=0 then (if s.args.length=0/\(-999<=s.num/\s.num<=999) then 0 else -1)
  else if s.op=1∨s.op=2∨s.op=3∨s.op=4 then (if YM us s.args [0,0]=true then 0 else -1)
  else if s.op=5 then (if YM us s.args [0]=true then 0 else -1)
  else if s.op=6 then (if 0<Yr n.decls s.num/\YM us s.args (Zc n.decls s.num)=true then Yr n.decls s.num else -1)
  else if s.op=7 then (if YM us s.args [0]=true then Vw n us s.op s.num s.kids else -1)
  else if s.op=8 then (if YM us s.args [s.num]=true then Vw n us s.op s.num s.kids else -1)
  else if s.op=9∨s.op=10 then UE n us s.op s.num s.args
  else if s.op=11 then T1 n.decls us s.args
  else if s.op=14∨s.op=15∨s.op=16∨s.op=17 then Uw n.decls us s.op s.args
  else -1:=by
 cases s with
 | mk op num into args kids=>rw [Zp];rfl
theorem Z3z (n:Normal) (us:List Int) (b:Block):ZF n us b=match X7 n b.steps us with
  | none=>-1
  | some vs=>(Yq vs b.result).getD (-1):=by
 cases b with
 | mk st r=>rw [ZF];rfl
theorem Zcq {α:Type} {xs:List α} {x:α} (h:xs.length=2) (hx:xs[0]? = some x):∃y,xs=[x,y]:=by
 match xs,h with
 | [a,b],_=>simp at hx;subst hx;exact ⟨b,rfl⟩
theorem Vo {ds:List Decl} {us args:List Int} (h:args.length≠2):T1 ds us args=-1:=by
 match args,h with
 | [],_=>rfl
 | [_],_=>rfl
 | [_,_],h=>simp at h
 | _::_::_::_,_=>rfl
theorem Vp {ds:List Decl} {us args:List Int} {a:Int} (hl:args.length=2) (h:args[0]? = some a) (hi:¬(0<=a/\a<=(us.length:Int)-1)):T1 ds us args=-1:=by
 obtain ⟨y,rfl⟩:=Zcq hl h;rw [T1];simp only [Tm hi]
theorem Vh {ds:List Decl} {us args:List Int} {a t:Int} (hl:args.length=2) (h:args[0]? = some a) (hi:0<=a/\a<=(us.length:Int)-1) (ht:us[a.toNat]? = some t) :
  T1 ds us args=if Yv ds t=true then
    (match ds[(t-1).toNat]? with
     | some d=>if YM us (args.drop 1) [d.frm]=true then d.to_ else -1
     | none=>-1) else -1:=by
 obtain ⟨y,rfl⟩:=Zcq hl h;rw [T1];simp only [Ut hi ht];rfl
theorem Zm8 {ds:List Decl} {us args:List Int} {a t:Int} {d:Decl} (hl:args.length=2) (h:args[0]? = some a) (hi:0<=a/\a<=(us.length:Int)-1) (ht:us[a.toNat]? = some t)
  (hA:Yv ds t=true) (hd:ds[(t-1).toNat]? = some d):T1 ds us args=if YM us (args.drop 1) [d.frm]=true then d.to_ else -1:=by
 rw [Vh hl h hi ht,Z8 hA];simp only [hd]
theorem Z8x {ds:List Decl} {t:Int} (h:Yv ds t=true):1<=t/\t<=ds.length:=by
 simp only [Yv,YN,decide_eq_true_eq] at h;exact h.1
theorem Zgs (b:Block) (l:Int):X4 b l=Ul b.steps l:=by cases b;rw [X4];rfl
theorem Z56 (s:Step) (l:Int):J2 s l=UB s.kids l:=by cases s;rw [J2];rfl
structure NSz (n:Normal):Prop where
 decls:DSz n.decls
 len:n.routines.length<=4194304
 params:∀r∈n.routines,r.params.length<=4194304
 lent:∀r∈n.routines,r.lent.length<=4194304
 body:∀r∈n.routines,r.body.sz<=10000000
theorem Zac {m:Nat} {fs:List Sg} (h:Q8 m fs=true):∀f∈fs,Q7 m f=true:=by
 induction fs with
 | nil=>simp
 | cons f r ih=>
  rw [Q8] at h
  split at h
  ·rename_i h1
   intro g hg
   rcases ZM.1 hg with rfl|hg
   ·exact h1
   ·exact ih h g hg
  ·cases h
theorem Z9i {n:Normal} (hz:NSz n) (h:XF n=true):NOk n:=by
 simp only [XF,UW,YN,decide_eq_true_eq] at h
 obtain ⟨h1,⟨h2,h3,h4,h5⟩,h6⟩:=h
 refine ⟨Y0q h2,h1,fun r hr=>?_,hz.lent⟩
 have:=Zac h4 (Wk r) (YJ.2 ⟨r,hr,rfl⟩)
 simp only [Q7,YN,decide_eq_true_eq] at this
 exact this.1
def gI (xs:List Int) (i:Int):Int:=xs[i.toNat]?.getD 0
theorem XR {xs:List Int} {i:Int} {x:Int} (h:xs[i.toNat]? = some x):gI xs i=x:=by rw [gI,h];rfl
structure Led where
 vars:List Int
 own:List Int
 par:List Int
 con:List Int
 fst:List Int
 tok:List Int
def Led.grow (L:Led) (t own par:Int):Led:=⟨L.vars++[t],L.own++[own],L.par++[par],L.con++[-1],L.fst++[-1],L.tok++[-1]⟩
def Vd (L:Led) (v:Int):Option Led:=if gI L.own v<1 then none else some { L with own:=L.own.set v.toNat (gI L.own v-1) }
def T0 (own par ln:List Int):Nat->Int->Bool
 | 0,_=>false
 | k+1,v=>if gI own v<1/\¬v∈ln then (if gI par v<0 then false else T0 own par ln k (gI par v)) else true
def YG (L:Led) (ln:List Int) (v:Int):Bool:=T0 L.own L.par ln (v.toNat+1) v
def VF:List Int->Int->List Int->List Int
 | own,_,[]=>own
 | own,p,f::r=>VF (if f≠0 then own.set p.toNat (gI own p+1) else own) (p+1) r
def UC (ds:List Decl) (L:Led) (op x:Int):Option Led:=
 if gI L.con x<0∨(op=17/\0<=gI L.tok x) then none
 else match Vd L x with
  | none=>none
  | some L1=>some { L1 with
    own:=VF L1.own (gI L.fst x) (Zc ds (gI L.con x))
    tok:=if op=17 then L.tok.set x.toNat (Zc ds (gI L.con x)).length else L.tok }
def VW (op:Int):Bool:=op==6||(op==9||(op==10||op==11))
def JW (n:Normal) (op num:Int):List Int:=if op=9 then ((n.routines[num.toNat]?).map (·.lent)).getD [] else []
def W4 (n:Normal) (op num:Int) (i:Nat):Bool:=decide ((i:Int)∈JW n op num)
def Uv (n:Normal) (vars:List Int) (op num a:Int) (i:Nat):Bool:=VW op&&(gI vars a != 0&&!W4 n op num i)
def Uz (n:Normal) (op num:Int):List Int->Nat->Led->Option Led
 | [],_,L=>some L
 | a::r,i,L=>if Uv n L.vars op num a i=true then (match Vd L a with
   | none=>none
   | some L1=>Uz n op num r (i+1) L1) else Uz n op num r (i+1) L
def TY (n:Normal) (op num:Int) (ln:List Int) (L:Led):List Int->Nat->Bool
 | [],_=>true
 | a::r,i=>if W4 n op num i=true/\¬YG L ln a=true then false else TY n op num ln L r (i+1)
def TZ (L:Led) (into:Int) (m:Nat):Option Led:=
 if 0<into then (if gI L.tok (into-1)≠m then none else some { L with tok:=L.tok.set (into-1).toNat (-1) }) else some L
def Vj (n:Normal) (ln:List Int) (L:Led) (op num into:Int) (args:List Int):Option Led:=
 match Uz n op num args 0 L with
 | none=>none
 | some L1=>if TY n op num ln L1 args 0=true then TZ L1 into args.length else none
def XD:List Int->List Int->Bool
 | o::os,t::ts=>if o≠0∨0<=t then false else XD os ts
 | _,_=>true
def Led.take (L:Led) (m:Nat):Led:=⟨L.vars.take m,L.own.take m,L.par.take m,L.con.take m,L.fst.take m,L.tok.take m⟩
def V7 (L:Led) (m:Nat):Option Led:=if XD (L.own.drop m) (L.tok.drop m)=true then some (L.take m) else none
def TW (L:Led) (par:Int):List Int->Led
 | []=>L
 | t::r=>TW (L.grow t 0 par) par r
def TS (ds:List Decl) (L:Led) (x c:Int):Led:=
 TW { L with con:=L.con.set x.toNat c,fst:=L.fst.set x.toNat L.vars.length } x (Zc ds c)
def Xr (ds:List Decl) (L:Led) (op num:Int) (args:List Int) (i:Nat):Led:=
 if op=8 then TS ds L (gI args 0) (gI (Zt ds num) i) else L
def U3 (lent:List Int):List Int->Nat->Led->Led
 | [],_,L=>L
 | t::r,i,L=>U3 lent r (i+1) (L.grow t (if t≠0/\¬(i:Int)∈lent then 1 else 0) (-1))
def XM (r:Routine):Led:=U3 r.lent r.params 0 ⟨[],[],[],[],[],[]⟩
def QJ (L:Led) (ln:List Int) (v:Int):Option Led:=if YG L ln v=true then some { L with own:=L.own.set v.toNat (gI L.own v+1) } else none
def UD (n:Normal) (ln:List Int) (L:Led) (op num into:Int) (args:List Int) (ch:Option Led):Option Led:=
 if op=14 then QJ L ln (gI args 0)
 else if op=15 then Vd L (gI args 0)
 else if op=16∨op=17 then UC n.decls L op (gI args 0)
 else if op=7∨op=8 then (if op=8/\¬YG L ln (gI args 0)=true then none else ch)
 else Vj n ln L op num into args
def Ts (L:Led) (op t:Int) (r:Option Led):Option Led:=
 match r with
 | none=>none
 | some L1=>if Yl op=true then some (L1.grow t (if t≠0 then 1 else 0) (-1)) else some L1
def Kx (L:Led) (first:Option Led) (rest:Led->Bool):Option Led:=
 match first with
 | none=>none
 | some one=>if rest one=true then some { L with own:=one.own,tok:=one.tok } else none
def Z19 (one:Led) (two:Option Led) (rest:Bool):Bool:=
 match two with
 | none=>false
 | some two=>if one.own=two.own/\one.tok=two.tok then rest else false
def Z1f (r:Option Led) (f:Led->Option Led):Option Led:=match r with|none=>none|some L=>f L
def WE (m:Nat) (res:Int) (L:Led):Option Led:=Z1f (if gI L.vars res≠0 then Vd L res else some L) fun L2=>V7 L2 m
mutual
def Vc (n:Normal) (ln:List Int) (L:Led):Step->Option Led
 | .mk op num into args kids=>Ts L op (Zp n L.vars (.mk op num into args kids)) (UD n ln L op num into args (Ud n ln L op num args kids))
def Ud (n:Normal) (ln:List Int) (L:Led) (op num:Int) (args:List Int):List Block->Option Led
 | []=>none
 | b::bs=>Kx L (Xv n ln (Xr n.decls L op num args 0) L.vars.length b) fun one=>UA n ln L op num args one bs 1
def UA (n:Normal) (ln:List Int) (L:Led) (op num:Int) (args:List Int) (one:Led):List Block->Nat->Bool
 | [],_=>true
 | b::bs,i=>Z19 one (Xv n ln (Xr n.decls L op num args i) L.vars.length b) (UA n ln L op num args one bs (i+1))
def Xz (n:Normal) (ln:List Int) (L:Led):List Step->Option Led
 | []=>some L
 | s::r=>Z1f (Vc n ln L s) fun L1=>Xz n ln L1 r
def Xv (n:Normal) (ln:List Int) (L:Led) (m:Nat):Block->Option Led
 | .mk steps result=>Z1f (Xz n ln L steps) (WE m result)
end
theorem Z5w (n:Normal) (ln:List Int) (L:Led) (s:Step):Vc n ln L s=Ts L s.op (Zp n L.vars s) (UD n ln L s.op s.num s.into s.args (Ud n ln L s.op s.num s.args s.kids)):=by
 cases s with
 | mk op num into args kids=>rw [Vc];rfl
theorem To (n:Normal) (ln:List Int) (L:Led) (m:Nat) (b:Block):Xv n ln L m b=Z1f (Xz n ln L b.steps) (WE m b.result):=by
 cases b with
 | mk st r=>rw [Xv];rfl
def VU (n:Normal) (r:Routine):Bool:=
 match Xv n r.lent (XM r) r.params.length r.body with
 | none=>false
 | some L=>(V7 L 0).isSome
def T2 (n:Normal):List Routine->Bool
 | []=>true
 | r::rs=>if VU n r=true then T2 n rs else false
def Ws (n:Normal):Bool:=Vm n&&T2 n n.routines
structure LLen (L:Led):Prop where
 own:L.own.length=L.vars.length
 par:L.par.length=L.vars.length
 con:L.con.length=L.vars.length
 fst:L.fst.length=L.vars.length
 tok:L.tok.length=L.vars.length
structure LOk (ds:List Decl) (L:Led) (q:Int):Prop where
 len:LLen L
 down:∀j:Int,0<=j->j<L.vars.length->gI L.par j<j
 arm:∀x:Int,0<=x->x<L.vars.length->0<=gI L.con x->0<=gI L.fst x/\gI L.fst x+(Zc ds (gI L.con x)).length<=L.vars.length
 nn:∀x∈L.own,0<=x
 bd:∀x∈L.own,x<=q
end Go.Abs
section
namespace Go.Abs
end Go.Abs
namespace Go.Abs
theorem Zu2 {n:Normal} {op num:Int} {r:Routine} (h:op=9) (hr:n.routines[num.toNat]? = some r):JW n op num=r.lent:=by
 rw [JW,Z8 h,hr];rfl
end Go.Abs
namespace Go.Abs
theorem Zlz {own par ln:List Int} {N:Int} (hd:∀j:Int,0<=j->j<N->gI par j<j):∀(k:Nat) (v:Int),0<=v->v<N->v.toNat+1<=k->T0 own par ln k v=T0 own par ln (v.toNat+1) v:=by
 intro k
 induction k using Nat.strongRecOn with
 | ind k ih=>
  intro v h0 hN hk
  cases k with
  | zero=>omega
  | succ k=>
   rw [T0,T0]
   split
   ·split
    ·rfl
    ·have hdv:=hd v h0 hN
     rw [ih k om (gI par v) om om om]
     rw [ih v.toNat om (gI par v) om om om]
   ·rfl
theorem Zcj {own par ln:List Int} {N j x1 x2:Int} {r:Bool} (h1:gI own j=x1) (h2:gI par j=x2) (hj:0<=j/\j<N) (hx:x1<1/\¬j∈ln) (h0:¬x2<0) (hd:∀i:Int,0<=i->i<N->gI par i<i)
  (h:T0 own par ln (j.toNat+1) j=r):T0 own par ln (x2.toNat+1) x2=r:=by
 rw [T0,h1,h2,Z8 hx,Z4 h0] at h
 have hdv:=hd j hj.1 hj.2
 rw [<-h,Zlz hd j.toNat x2 om om om]
theorem Zci {own par ln:List Int} {j x1 x2:Int} {r:Bool} (h1:gI own j=x1) (h2:gI par j=x2) (hx:x1<1/\¬j∈ln) (h0:x2<0) (h:T0 own par ln (j.toNat+1) j=r):false=r:=by
 rw [T0,h1,h2,Z8 hx,Z8 h0] at h;exact h
theorem Zck {own par ln:List Int} {j x1:Int} {r:Bool} (h1:gI own j=x1) (hx:¬(x1<1/\¬j∈ln)) (h:T0 own par ln (j.toNat+1) j=r):true=r:=by
 rw [T0,h1,Z4 hx] at h;exact h
end Go.Abs
namespace Go.Abs
theorem Tb {L L':Led} {v:Int} (h:Vd L v=some L'):1<=gI L.own v/\L'.vars=L.vars/\L'.par=L.par/\L'.con=L.con/\L'.fst=L.fst/\L'.tok=L.tok/\L'.own=L.own.set v.toNat (gI L.own v-1):=by
 rw [Vd] at h
 split at h
 ·cases h
 ·cases h;exact ⟨by omega,rfl,rfl,rfl,rfl,rfl,rfl⟩
theorem Z8k {xs:List Int} {v:Int} (h:gI xs v≠0):gI xs v∈xs:=by
 rw [gI] at h ⊢
 cases hx:xs[v.toNat]? with
 | none=>rw [hx] at h;exact absurd rfl h
 | some y=>exact ZV hx
theorem Ty {xs:List Int} {i:Nat} {a x:Int} (h:x∈xs.set i a):x∈xs∨x=a:=List.mem_or_eq_of_mem_set h
theorem LOk.take {ds:List Decl} {L L':Led} {q v:Int} (hk:LOk ds L q) (h:Vd L v=some L'):LOk ds L' q:=by
 obtain ⟨t1,t2,t3,t4,t5,t6,t7⟩:=Tb h
 obtain ⟨f1,f2,f3,f4,f5⟩:=hk.len
 have hm:=Z8k (xs:=L.own) (v:=v) om
 refine ⟨⟨by rw [t7,t2,VD];exact f1,by rw [t3,t2];exact f2,by rw [t4,t2];exact f3,by rw [t5,t2];exact f4,by rw [t6,t2];exact f5⟩,?_,?_,?_,?_⟩
 ·rw [t2,t3];exact hk.down
 ·rw [t2,t4,t5];exact hk.arm
 ·rw [t7];intro x hx
  rcases Ty hx with hx|rfl
  ·exact hk.nn x hx
  ·omega
 ·rw [t7];intro x hx
  rcases Ty hx with hx|rfl
  ·exact hk.bd x hx
  ·have:=hk.bd _ hm;omega
end Go.Abs
end
namespace Go.Abs
theorem Zb8 {us:List Int}:∀{args tys:List Int},VB us args tys=true->args.length=tys.length/\∀a∈args,0<=a/\a<us.length
 | [],[],_=>⟨rfl,by simp⟩
 | [],_::_,h=>by cases h
 | _::_,[],h=>by cases h
 | a::as1,t::ts,h=>by
  rw [VB] at h
  split at h
  ·rename_i h1
   obtain ⟨q1,q2⟩:=Zb8 h
   refine ⟨by simp [q1],fun x hx=>?_⟩
   rcases ZM.1 hx with rfl|hx
   ·have:=(Tn h1).1;omega
   ·exact q2 x hx
  ·cases h
theorem Zgh {n:Normal} {us:List Int}:∀{bs:List Block} {ms:List (List Int)} {f:Bool} {t:Int},0<=t->0<=Xm n us bs ms f t ->
  ∀(i:Nat) (b:Block) (m:List Int),bs[i]? = some b->ms[i]? = some m->0<=ZF n (us++m) b
 | [],_,_,_,_,_,i,b,m,hb,_=>by simp at hb
 | b::bs,[],_,_,_,h,_,_,_,_,hm=>by simp at hm
 | b::bs,m::ms,f,t,ht,h,i,c,l,hc,hl=>by
  rw [Xm] at h
  split at h
  ·omega
  ·rename_i hq
   have h0:0<=ZF n (us++m) b:=by
    rcases Int.lt_or_le (ZF n (us++m) b) 0 with q|q
    ·exact absurd (.inl q) hq
    ·exact q
   cases i with
   | zero=>simp at hc hl;subst hc hl;exact h0
   | succ i=>exact Zgh h0 h i c l (by simpa using hc) (by simpa using hl)
structure SFacts (n:Normal) (us:List Int) (s:Step):Prop where
 args:∀a∈s.args,0<=a/\a<us.length
 one:(s.op=7∨s.op=8∨(14<=s.op/\s.op<=17))->∃a,s.args=[a]
 num:s.op=9->0<=s.num/\s.num<n.routines.length
 into:s.into≠0->1<=s.into/\s.into<=us.length
 kids:(s.op=7∨s.op=8)->s.kids.length=(Zy n.decls s.op s.num).length/\(Zy n.decls s.op s.num).length≠0 /\
  ∀(i:Nat) (b:Block) (m:List Int),s.kids[i]? = some b->(Zy n.decls s.op s.num)[i]? = some m->0<=ZF n (us++m) b
theorem Zt8 {n:Normal} {us:List Int} {op num:Int} {kids:List Block} (h:0<=Vw n us op num kids) :
  kids.length=(Zy n.decls op num).length/\(Zy n.decls op num).length≠0/\∀(i:Nat) (b:Block) (m:List Int),kids[i]? = some b->(Zy n.decls op num)[i]? = some m->0<=ZF n (us++m) b:=by
 rw [Vw] at h
 split at h
 ·omega
 ·rename_i hq
  exact ⟨by omega,by omega,Zgh (Int.le_refl 0) h⟩
theorem Zh2 {xs:List Int} (h:xs.length=1):∃a,xs=[a]:=by
 match xs,h with
 | [a],_=>exact ⟨a,rfl⟩
theorem TG {n:Normal} {us:List Int} {s:Step} (h:0<=Zp n us s):SFacts n us s:=by
 rw [Qd] at h
 split at h
 ·omega
 rename_i h0
 have hinto:s.into≠0->1<=s.into/\s.into<=us.length:=by
  intro hi
  have hv:Wl us s.op s.into=true:=by
   cases q:Wl us s.op s.into with
   | true=>rfl
   | false=>exact absurd (.inr (.inl (by rw [q];simp))) h0
  rw [Wl,Z4 hi] at hv
  split at hv
  ·cases ha:Yq us (s.into-1) with
   | none=>rw [ha] at hv;cases hv
   | some t=>have:=(Tn ha).1;omega
  ·cases hv
 have mk:(∀a∈s.args,0<=a/\a<us.length)->((s.op=7∨s.op=8∨(14<=s.op/\s.op<=17))->∃a,s.args=[a])->(s.op=9->0<=s.num/\s.num<n.routines.length) ->
   ((s.op=7∨s.op=8)->0<=Vw n us s.op s.num s.kids)->SFacts n us s:=fun a b c d=>⟨a,b,c,hinto,fun q=>Zt8 (d q)⟩
 have ty:∀{tys},YM us s.args tys=true->s.args.length=tys.length/\∀a∈s.args,0<=a/\a<us.length:=fun q=>Zb8 q
 split at h
 ·rename_i h1
  split at h
  ·rename_i h2
   exact mk (by rw [List.eq_nil_of_length_eq_zero h2.1];simp) om om om
  ·omega
 split at h
 ·split at h
  ·rename_i h1 h2;exact mk (ty h2).2 om om om
  ·omega
 split at h
 ·split at h
  ·rename_i h1 h2;exact mk (ty h2).2 om om om
  ·omega
 split at h
 ·split at h
  ·rename_i h1 h2;exact mk (ty h2.2).2 om om om
  ·omega
 split at h
 ·split at h
  ·rename_i h1 h2;exact mk (ty h2).2 (fun _=>Zh2 (by simpa using (ty h2).1)) om (fun _=>h)
  ·omega
 split at h
 ·split at h
  ·rename_i h1 h2;exact mk (ty h2).2 (fun _=>Zh2 (by simpa using (ty h2).1)) om (fun _=>h)
  ·omega
 split at h
 ·rename_i hop
  rw [UE] at h
  cases hr:Yq n.routines s.num with
  | none=>rw [hr] at h;simp at h
  | some r=>
   rw [hr] at h
   simp only at h
   have hn:=(Tn hr).1
   rw [TA] at h
   split at h
   ·split at h
    ·rename_i h2;exact mk (ty h2).2 om om om
    ·omega
   ·split at h
    ·omega
    ·rename_i h2
     have h3:YM us s.args (r.params.take (r.params.length-1))=true:=by
      cases q:YM us s.args (r.params.take (r.params.length-1)) with
      | true=>rfl
      | false=>exact absurd (.inr (.inr (by rw [q];simp))) h2
     exact mk (ty h3).2 om om om
 split at h
 ·rename_i hop
  rcases he:s.args with _|⟨a,_|⟨b,_|⟨c,r⟩⟩⟩
  ·rw [he,show T1 n.decls us []=-1 from rfl] at h;omega
  ·rw [he,show T1 n.decls us [a]=-1 from rfl] at h;omega
  ·rw [he,T1] at h
   cases ha:Yq us a with
   | none=>rw [ha] at h;simp at h
   | some t=>
    rw [ha] at h
    simp only at h
    split at h
    ·cases hd:n.decls[(t-1).toNat]? with
     | none=>rw [hd] at h;simp at h
     | some d=>
      rw [hd] at h
      simp only at h
      split at h
      ·rename_i h3
       have h4:=(Zb8 h3).2 b (by simp)
       have h5:=(Tn ha).1
       refine mk (fun x hx=>?_) om om om
       rw [he] at hx
       rcases ZM.1 hx with rfl|hx
       ·omega
       ·rw [ZW.1 hx];exact h4
      ·omega
    ·omega
  ·rw [he,show T1 n.decls us (a::b::c::r)=-1 from rfl] at h;omega
 split at h
 ·rename_i hop
  rcases he:s.args with _|⟨a,_|⟨b,r⟩⟩
  ·rw [he,show Uw n.decls us s.op []=-1 from rfl] at h;omega
  ·rw [he,Uw] at h
   cases ha:Yq us a with
   | none=>rw [ha] at h;simp at h
   | some t=>
    have h5:=(Tn ha).1
    refine mk (fun x hx=>?_) (fun _=>⟨a,he⟩) om om
    rw [he] at hx
    rw [ZW.1 hx];omega
  ·rw [he,show Uw n.decls us s.op (a::b::r)=-1 from rfl] at h;omega
 ·omega
def Um (n:Normal) (us:List Int) (s:Step):List Int:=if Yl s.op=true then us++[Zp n us s] else us
theorem Z7n {L L':Led} {ln:List Int} {v:Int} (h:QJ L ln v=some L'):L'.vars=L.vars/\L'.par=L.par/\L'.con=L.con/\L'.fst=L.fst/\L'.tok=L.tok/\L'.own=L.own.set v.toNat (gI L.own v+1):=by
 rw [QJ] at h
 split at h
 ·cases h;exact ⟨rfl,rfl,rfl,rfl,rfl,rfl⟩
 ·cases h
theorem Z6x:∀(fs:List Int) (own:List Int) (p:Int),(VF own p fs).length=own.length
 | [],own,p=>rfl
 | f::r,own,p=>by rw [VF,Z6x r];split<;>simp
theorem Z8j {xs:List Int} {q v:Int} (h:∀x∈xs,x<=q) (hq:0<=q):gI xs v<=q:=by
 by_cases h0:gI xs v=0
 ·omega
 ·exact h _ (Z8k h0)
theorem Z8l {xs:List Int} {v:Int} (h:∀x∈xs,0<=x):0<=gI xs v:=by
 by_cases h0:gI xs v=0
 ·omega
 ·exact h _ (Z8k h0)
theorem Z6y:∀(fs:List Int) (own:List Int) (p:Int),(∀x∈own,0<=x)->∀x∈VF own p fs,0<=x
 | [],own,p,h=>h
 | f::r,own,p,h=>by
  rw [VF]
  refine Z6y r _ _ fun x hx=>?_
  split at hx
  ·rcases Ty hx with hx|rfl
   ·exact h x hx
   ·have:=Z8l (v:=p) h;omega
  ·exact h x hx
theorem Z6w:∀(fs:List Int) (own:List Int) (p q:Int),0<=q->(∀x∈own,x<=q)->∀x∈VF own p fs,x<=q+fs.length
 | [],own,p,q,hq,h=>by intro x hx;have:=h x hx;simp;omega
 | f::r,own,p,q,hq,h=>by
  intro x hx
  rw [VF] at hx
  have:=Z6w r _ _ (q+1) om (fun y hy=>by
   split at hy
   ·rcases Ty hy with hy|rfl
    ·have:=h y hy;omega
    ·have:=Z8j (v:=p) h hq;omega
   ·have:=h y hy;omega) x hx
  simp only [Y5];omega
theorem Z9m {ds:List Decl} {L L':Led} {op v:Int} (h:UC ds L op v=some L'):L'.vars=L.vars/\L'.par=L.par/\L'.con=L.con/\L'.fst=L.fst/\L'.tok.length=L.tok.length /\
  ∃L1,Vd L v=some L1/\L'.own=VF L1.own (gI L.fst v) (Zc ds (gI L.con v)):=by
 rw [UC] at h
 split at h
 ·cases h
 ·cases ht:Vd L v with
  | none=>rw [ht] at h;cases h
  | some L1=>
   rw [ht] at h
   simp only at h
   obtain ⟨t1,t2,t3,t4,t5,t6,t7⟩:=Tb ht
   cases h
   refine ⟨t2,t3,t4,t5,?_,L1,rfl,rfl⟩
   split
   ·rw [VD]
   ·rfl
theorem Z4r {n:Normal} {op num:Int} {ds:List Decl} {q:Int}:∀{as1:List Int} {i:Nat} {L L':Led},LOk ds L q->Uz n op num as1 i L=some L'->LOk ds L' q/\L'.vars=L.vars/\L'.par=L.par/\L'.con=L.con/\L'.fst=L.fst/\L'.tok=L.tok
 | [],i,L,L',hk,h=>by rw [Uz] at h;cases h;exact ⟨hk,rfl,rfl,rfl,rfl,rfl⟩
 | a::r,i,L,L',hk,h=>by
  rw [Uz] at h
  split at h
  ·cases ht:Vd L a with
   | none=>rw [ht] at h;cases h
   | some L1=>
    rw [ht] at h
    obtain ⟨t1,t2,t3,t4,t5,t6,t7⟩:=Tb ht
    obtain ⟨k1,k2,k3,k4,k5,k6⟩:=Z4r (hk.take ht) h
    exact ⟨k1,k2.trans t2,k3.trans t3,k4.trans t4,k5.trans t5,k6.trans t6⟩
  ·exact Z4r hk h
theorem LOk.le {ds:List Decl} {L:Led} {q q':Int} (h:LOk ds L q) (hq:q<=q'):LOk ds L q':=⟨h.len,h.down,h.arm,h.nn,fun x hx=>Int.le_trans (h.bd x hx) hq⟩
theorem LOk.turn {ds:List Decl} {L L':Led} {q q':Int} (hk:LOk ds L q) (h1:L'.vars=L.vars) (h2:L'.par=L.par) (h3:L'.con=L.con) (h4:L'.fst=L.fst) (h5:L'.tok.length=L.tok.length) (h6:L'.own.length=L.own.length)
  (h7:∀x∈L'.own,0<=x) (h8:∀x∈L'.own,x<=q'):LOk ds L' q':=by
 obtain ⟨f1,f2,f3,f4,f5⟩:=hk.len
 refine ⟨⟨by rw [h6,h1];exact f1,by rw [h2,h1];exact f2,by rw [h3,h1];exact f3,by rw [h4,h1];exact f4,by rw [h5,h1];exact f5⟩,?_,?_,h7,h8⟩
 ·rw [h1,h2];exact hk.down
 ·rw [h1,h3,h4];exact hk.arm
theorem Ub {xs ys:List Int} {j:Int} (h:j.toNat<xs.length):gI (xs++ys) j=gI xs j:=by
 rw [gI,gI,Jr h]
theorem Z4m {xs:List Int} {y:Int} {j:Int} (h:j.toNat=xs.length):gI (xs++[y]) j=y:=by
 rw [gI,h];simp
theorem LOk.grow {ds:List Decl} {L:Led} {q t o p:Int} (hk:LOk ds L q) (hp:p<L.vars.length) (ho:0<=o/\o<=q):LOk ds (L.grow t o p) q:=by
 obtain ⟨f1,f2,f3,f4,f5⟩:=hk.len
 refine ⟨⟨by simp [Led.grow,f1],by simp [Led.grow,f2],by simp [Led.grow,f3],by simp [Led.grow,f4],by simp [Led.grow,f5]⟩,?_,?_,?_,?_⟩
 ·intro j hj hl
  simp only [Led.grow,ZC,Z3h] at hl ⊢
  by_cases hlt:j<L.vars.length
  ·rw [Ub om];exact hk.down j hj hlt
  ·rw [Z4m om];omega
 ·intro x hx hl
  simp only [Led.grow,ZC,Z3h] at hl ⊢
  by_cases hlt:x<L.vars.length
  ·rw [Ub om,Ub om]
   intro hc
   have:=hk.arm x hx hlt hc
   exact ⟨this.1,by omega⟩
  ·rw [Z4m om];omega
 ·intro x hx
  simp only [Led.grow,ZG,ZW] at hx
  rcases hx with hx|rfl
  ·exact hk.nn x hx
  ·exact ho.1
 ·intro x hx
  simp only [Led.grow,ZG,ZW] at hx
  rcases hx with hx|rfl
  ·exact hk.bd x hx
  ·exact ho.2
theorem Z4o {xs:List Int} {k:Nat} {a:Int} {j:Int} (h:xs.length<=j.toNat/\j.toNat<xs.length+k):gI (xs++List.replicate k a) j=a:=by
 rw [gI,Z1m h.1,List.getElem?_replicate,Z8 om];rfl
theorem KT {xs:List Int} {x j c:Int} (h:j.toNat=x.toNat) (hl:x.toNat<xs.length):gI (xs.set x.toNat c) j=c:=by
 rw [gI,h,List.getElem?_set_self hl];rfl
theorem Kl {xs:List Int} {x j c:Int} (h:j.toNat≠x.toNat):gI (xs.set x.toNat c) j=gI xs j:=by
 rw [gI,gI,List.getElem?_set_ne (fun q=>h q.symm)]
theorem Z4p {p:Int}:∀(fs:List Int) (L:Led),TW L p fs=⟨L.vars++fs,L.own++List.replicate fs.length 0,L.par++List.replicate fs.length p,L.con++List.replicate fs.length (-1),
  L.fst++List.replicate fs.length (-1),L.tok++List.replicate fs.length (-1)⟩
 | [],L=>by simp [TW]
 | t::r,L=>by rw [TW,Z4p r];simp [Led.grow,Z3k]
theorem Zmb {ds:List Decl} {L:Led} {q x c:Int} (hk:LOk ds L q) (hq:0<=q) (hx:0<=x/\x<L.vars.length):LOk ds (TS ds L x c) q/\(TS ds L x c).vars=L.vars++Zc ds c:=by
 obtain ⟨f1,f2,f3,f4,f5⟩:=hk.len
 rw [TS,Z4p]
 refine ⟨⟨⟨by simp [f1],by simp [f2],by simp [f3],by simp [f4],by simp [f5]⟩,?_,?_,?_,?_⟩,rfl⟩
 ·intro j hj hl
  simp only [ZC] at hl ⊢
  by_cases hlt:j<L.vars.length
  ·rw [Ub om];exact hk.down j hj hlt
  ·rw [Z4o om];omega
 ·intro y hy hl
  simp only [ZC] at hl ⊢
  by_cases hlt:y<L.vars.length
  ·rw [Ub (by simp;omega),Ub (by simp;omega)]
   by_cases he:y.toNat=x.toNat
   ·rw [KT he om,KT he om]
    intro _
    exact ⟨by omega,by simp⟩
   ·rw [Kl he,Kl he]
    intro hc
    have:=hk.arm y hy hlt hc
    exact ⟨this.1,by omega⟩
  ·rw [Z4o (by simp;omega)];omega
 ·intro y hy
  simp only [ZG,List.mem_replicate] at hy
  rcases hy with hy|⟨_,rfl⟩
  ·exact hk.nn y hy
  ·exact Int.le_refl 0
 ·intro y hy
  simp only [ZG,List.mem_replicate] at hy
  rcases hy with hy|⟨_,rfl⟩
  ·exact hk.bd y hy
  ·exact hq
theorem JS {n:Normal} {L:Led} {q:Int} {s:Step} {i:Nat} {m:List Int} (hk:LOk n.decls L q) (hq:0<=q) (hf:SFacts n L.vars s) (hop:s.op=7∨s.op=8) (hm:(Zy n.decls s.op s.num)[i]? = some m) :
  LOk n.decls (Xr n.decls L s.op s.num s.args i) q/\(Xr n.decls L s.op s.num s.args i).vars=L.vars++m:=by
 rw [Xr]
 split
 ·rename_i h8
  obtain ⟨a,ha⟩:=hf.one om
  have hb:=hf.args a (by rw [ha];simp)
  have hg:gI s.args 0=a:=by rw [ha];rfl
  rw [Zy,Z4 om,VC] at hm
  cases hc:(Zt n.decls s.num)[i]? with
  | none=>rw [hc] at hm;cases hm
  | some c=>
   rw [hc] at hm
   cases hm
   have hgc:gI (Zt n.decls s.num) (i:Int)=c:=by rw [gI];simp [hc]
   rw [hg,hgc]
   exact Zmb hk hq hb
 ·rename_i h8
  rw [Zy,Z8 om] at hm
  have:m=[]:=by
   match i,hm with
   | 0,hm=>simpa using hm.symm
   | 1,hm=>simpa using hm.symm
   | i+2,hm=>simp at hm
  subst this
  exact ⟨hk,by simp⟩
theorem Zkh {n:Normal}:∀{l:List Step} {us vs:List Int},X7 n l us=some vs->us.length<=vs.length
 | [],us,vs,h=>by rw [X7] at h;cases h;exact Yp _
 | s::r,us,vs,h=>by
  rw [X7] at h
  split at h
  ·cases h
  ·have:=Zkh h
   split at this
   ·simp only [ZC,Z3h] at this;omega
   ·exact this
theorem Zfm {n:Normal} {ln:List Int} {L L':Led} {op num into q:Int} {args:List Int} {ds:List Decl} (hk:LOk ds L q) (h:Vj n ln L op num into args=some L'):LOk ds L' q/\L'.vars=L.vars:=by
 rw [Vj] at h
 cases ht:Uz n op num args 0 L with
 | none=>rw [ht] at h;cases h
 | some L1=>
  rw [ht] at h
  simp only at h
  obtain ⟨k1,k2,k3,k4,k5,k6⟩:=Z4r hk ht
  split at h
  ·rw [TZ] at h
   split at h
   ·split at h
    ·cases h
    ·cases h
     exact ⟨k1.turn rfl rfl rfl rfl (by simp) rfl k1.nn k1.bd,k2⟩
   ·cases h;exact ⟨k1,k2⟩
  ·cases h
theorem Zo4 {L L':Led} {m:Nat} (h:V7 L m=some L'):L'=L.take m/\XD (L.own.drop m) (L.tok.drop m)=true:=by
 rw [V7] at h
 split at h
 ·rename_i hz;cases h;exact ⟨rfl,hz⟩
 ·cases h
theorem Z1g {r:Option Led} {f:Led->Option Led} {L:Led} (h:Z1f r f=some L):∃L1,r=some L1/\f L1=some L:=by
 cases r with
 | none=>cases h
 | some L1=>exact ⟨L1,rfl,h⟩
theorem Z94 (n:Normal) (hn:NOk n) (ln:List Int):∀m:Nat,
  (∀(s:Step) (L L':Led) (q:Int),s.sz<=m->LOk n.decls L q->0<=q->0<=Zp n L.vars s->Vc n ln L s=some L'->LOk n.decls L' (q+4*s.sz)/\L'.vars=Um n L.vars s) /\
  (∀(b:Block) (L O:Led) (q:Int) (k:Nat),b.sz<=m->LOk n.decls L q->0<=q->0<=ZF n L.vars b->k<=L.vars.length->Xv n ln L k b=some O ->
   (O.own.length=k/\O.tok.length=k/\(∀x∈O.own,0<=x/\x<=q+4*b.sz))/\LLen O/\O.vars.length=k):=by
 intro m
 induction m with
 | zero=>exact ⟨fun s _ _ _ h=>by have:=s.sz_pos;omega,fun s _ _ _ _ h=>by have:=s.sz_pos;omega⟩
 | succ m ih=>
  have hs:∀(s:Step) (L L':Led) (q:Int),s.sz<=m+1->LOk n.decls L q->0<=q->0<=Zp n L.vars s->Vc n ln L s=some L'->LOk n.decls L' (q+4*s.sz)/\L'.vars=Um n L.vars s:=by
   intro s L L' q hsz hk hq hty h
   have hp:=s.sz_pos
   have hf:=TG hty
   obtain ⟨f1,f2,f3,f4,f5⟩:=hk.len
   rw [Z5w] at h
   unfold Ts at h
   cases hpk:UD n ln L s.op s.num s.into s.args (Ud n ln L s.op s.num s.args s.kids) with
   | none=>rw [hpk] at h;cases h
   | some L1=>
    rw [hpk] at h
    simp only at h
    have key:LOk n.decls L1 (q+4*s.sz)/\L1.vars=L.vars:=by
     rw [UD] at hpk
     split at hpk
     ·obtain ⟨d1,d2,d3,d4,d5,d6⟩:=Z7n hpk
      refine ⟨hk.turn d1 d2 d3 d4 (by rw [d5]) (by rw [d6,VD]) ?_ ?_,d1⟩
      ·rw [d6];intro x hx
       rcases Ty hx with hx|rfl
       ·exact hk.nn x hx
       ·have:=Z8l (v:=gI s.args 0) hk.nn;omega
      ·rw [d6];intro x hx
       rcases Ty hx with hx|rfl
       ·have:=hk.bd x hx;omega
       ·have:=Z8j (v:=gI s.args 0) hk.bd hq;omega
     split at hpk
     ·exact ⟨(hk.take hpk).le om,(Tb hpk).2.1⟩
     split at hpk
     ·rename_i hop
      obtain ⟨d1,d2,d3,d4,d5,Lt,ht,d6⟩:=Z9m hpk
      have hkt:=hk.take ht
      have h3:=VV hn.decls (gI L.con (gI s.args 0))
      refine ⟨hk.turn d1 d2 d3 d4 d5 ?_ ?_ ?_,d1⟩
      ·rw [d6,Z6x,(Tb ht).2.2.2.2.2.2,VD]
      ·rw [d6];exact Z6y _ _ _ hkt.nn
      ·rw [d6];intro x hx
       have:=Z6w _ _ _ q hq hkt.bd x hx;omega
     split at hpk
     ·rename_i hop
      split at hpk
      ·cases hpk
      ·cases hks:s.kids with
       | nil=>rw [hks,Ud] at hpk;cases hpk
       | cons b bs=>
        rw [hks,Ud] at hpk
        unfold Kx at hpk
        cases hb:Xv n ln (Xr n.decls L s.op s.num s.args 0) L.vars.length b with
        | none=>rw [hb] at hpk;cases hpk
        | some one=>
         rw [hb] at hpk
         simp only at hpk
         split at hpk
         ·cases hpk
          obtain ⟨q1,q2,q3⟩:=hf.kids hop
          have hks0:s.kids[0]? = some b:=by rw [hks];rfl
          obtain ⟨a0,ha0⟩:=Zl (xs:=Zy n.decls s.op s.num) (j:=0) om
          obtain ⟨k1,k2⟩:=JS hk hq hf hop ha0
          have hbz:=UN hks0
          obtain ⟨⟨r1,r2,r3⟩,_⟩:=ih.2 b _ one q L.vars.length om k1 hq (by rw [k2];exact q3 0 b a0 hks0 ha0) (by rw [k2];simp) hb
          refine ⟨hk.turn rfl rfl rfl rfl (by simp only;omega) (by simp only;omega) (fun x hx=>(r3 x hx).1) (fun x hx=>?_),rfl⟩
          have:=(r3 x hx).2;omega
         ·cases hpk
     ·obtain ⟨k1,k2⟩:=Zfm hk hpk
      exact ⟨k1.le om,k2⟩
    split at h
    ·rename_i hd
     cases h
     refine ⟨key.1.grow om ?_,by rw [Um,Z8 hd];simp [Led.grow,key.2]⟩
     split<;>omega
    ·rename_i hd
     cases h
     exact ⟨key.1,by rw [Um,Z4 hd];exact key.2⟩
  refine ⟨hs,?_⟩
  intro b L O q k hsz hk hq hty hkl h
  have hsteps:∀(l:List Step) (L L':Led) (q:Int) (vs:List Int),ZR l<=m->LOk n.decls L q->0<=q->X7 n l L.vars=some vs->Xz n ln L l=some L'->LOk n.decls L' (q+4*ZR l)/\L'.vars=vs:=by
   intro l
   induction l with
   | nil=>intro L L' q vs _ hk _ h1 h2;rw [X7] at h1;rw [Xz] at h2;cases h1;cases h2;exact ⟨by simpa [ZR] using hk,rfl⟩
   | cons s r ihr=>
    intro L L' q vs hz hk hq h1 h2
    rw [ZR] at hz
    rw [Xz] at h2
    obtain ⟨L1,e1,e2⟩:=Z1g h2
    rw [X7] at h1
    split at h1
    ·cases h1
    ·rename_i h0
     obtain ⟨k1,k2⟩:=hs s L L1 q om hk hq om e1
     obtain ⟨k3,k4⟩:=ihr L1 L' (q+4*s.sz) vs om k1 om (by rw [k2];exact h1) e2
     exact ⟨k3.le (by rw [ZR];omega),k4⟩
  have hbz:=b.sz_eq
  rw [To] at h
  obtain ⟨L1,e1,e2⟩:=Z1g h
  rw [Z3z] at hty
  cases hv:X7 n b.steps L.vars with
  | none=>rw [hv] at hty;simp at hty
  | some vs=>
   obtain ⟨k1,k2⟩:=hsteps b.steps L L1 q vs om hk hq hv e1
   have hlen:=Zkh hv
   rw [WE] at e2
   obtain ⟨L2,e3,e4⟩:=Z1g e2
   have k3:LOk n.decls L2 (q+4*ZR b.steps)/\L2.vars=L1.vars:=by
    split at e3
    ·exact ⟨k1.take e3,(Tb e3).2.1⟩
    ·cases e3;exact ⟨k1,rfl⟩
   obtain ⟨rfl,_⟩:=Zo4 e4
   obtain ⟨g1,g2,g3,g4,g5⟩:=k3.1.len
   have hl2:L2.vars.length=vs.length:=by rw [k3.2,k2]
   refine ⟨⟨by simp [Led.take];omega,by simp [Led.take];omega,fun x hx=>?_⟩,⟨by simp [Led.take];omega,by simp [Led.take];omega,by simp [Led.take];omega,by simp [Led.take];omega,by simp [Led.take];omega⟩,by simp [Led.take];omega⟩
   have hx':x∈L2.own:=Z3j hx
   have:=k3.1.nn x hx'
   have:=k3.1.bd x hx'
   omega
theorem Z5x {n:Normal} (hn:NOk n) {ln:List Int} {s:Step} {L L':Led} {q:Int} (hk:LOk n.decls L q) (hq:0<=q) (hty:0<=Zp n L.vars s) (h:Vc n ln L s=some L'):LOk n.decls L' (q+4*s.sz)/\L'.vars=Um n L.vars s:=
 (Z94 n hn ln s.sz).1 s L L' q (Yp _) hk hq hty h
theorem Zd3 {n:Normal} (hn:NOk n) {ln:List Int} {b:Block} {L O:Led} {q:Int} {k:Nat} (hk:LOk n.decls L q) (hq:0<=q) (hty:0<=ZF n L.vars b) (hkl:k<=L.vars.length) (h:Xv n ln L k b=some O) :
  O.own.length=k/\O.tok.length=k/\(∀x∈O.own,0<=x/\x<=q+4*b.sz):=
 ((Z94 n hn ln b.sz).2 b L O q k (Yp _) hk hq hty hkl h).1
theorem J8 {n:Normal} (hn:NOk n) {ln:List Int} {s:Step} {L L1:Led} {q:Int} (hk:LOk n.decls L q) (hq:0<=q) (hf:SFacts n L.vars s)
  (hpk:UD n ln L s.op s.num s.into s.args (Ud n ln L s.op s.num s.args s.kids)=some L1):LOk n.decls L1 (q+4*s.sz)/\L1.vars=L.vars:=by
 have hp:=s.sz_pos
 obtain ⟨f1,f2,f3,f4,f5⟩:=hk.len
 rw [UD] at hpk
 split at hpk
 ·obtain ⟨d1,d2,d3,d4,d5,d6⟩:=Z7n hpk
  refine ⟨hk.turn d1 d2 d3 d4 (by rw [d5]) (by rw [d6,VD]) ?_ ?_,d1⟩
  ·rw [d6];intro x hx
   rcases Ty hx with hx|rfl
   ·exact hk.nn x hx
   ·have:=Z8l (v:=gI s.args 0) hk.nn;omega
  ·rw [d6];intro x hx
   rcases Ty hx with hx|rfl
   ·have:=hk.bd x hx;omega
   ·have:=Z8j (v:=gI s.args 0) hk.bd hq;omega
 split at hpk
 ·exact ⟨(hk.take hpk).le om,(Tb hpk).2.1⟩
 split at hpk
 ·rename_i hop
  obtain ⟨d1,d2,d3,d4,d5,Lt,ht,d6⟩:=Z9m hpk
  have hkt:=hk.take ht
  have h3:=VV hn.decls (gI L.con (gI s.args 0))
  refine ⟨hk.turn d1 d2 d3 d4 d5 ?_ ?_ ?_,d1⟩
  ·rw [d6,Z6x,(Tb ht).2.2.2.2.2.2,VD]
  ·rw [d6];exact Z6y _ _ _ hkt.nn
  ·rw [d6];intro x hx
   have:=Z6w _ _ _ q hq hkt.bd x hx;omega
 split at hpk
 ·rename_i hop
  split at hpk
  ·cases hpk
  ·cases hks:s.kids with
   | nil=>rw [hks,Ud] at hpk;cases hpk
   | cons b bs=>
    rw [hks,Ud] at hpk
    unfold Kx at hpk
    cases hb:Xv n ln (Xr n.decls L s.op s.num s.args 0) L.vars.length b with
    | none=>rw [hb] at hpk;cases hpk
    | some one=>
     rw [hb] at hpk
     simp only at hpk
     split at hpk
     ·cases hpk
      obtain ⟨q1,q2,q3⟩:=hf.kids hop
      have hks0:s.kids[0]? = some b:=by rw [hks];rfl
      obtain ⟨a0,ha0⟩:=Zl (xs:=Zy n.decls s.op s.num) (j:=0) om
      obtain ⟨k1,k2⟩:=JS hk hq hf hop ha0
      have hbz:=UN hks0
      obtain ⟨r1,r2,r3⟩:=Zd3 hn k1 hq (by rw [k2];exact q3 0 b a0 hks0 ha0) (by rw [k2];simp) hb
      refine ⟨hk.turn rfl rfl rfl rfl (by simp only;omega) (by simp only;omega) (fun x hx=>(r3 x hx).1) (fun x hx=>?_),rfl⟩
      have:=(r3 x hx).2;omega
     ·cases hpk
 ·obtain ⟨k1,k2⟩:=Zfm hk hpk
  exact ⟨k1.le om,k2⟩
end Go.Abs
section
namespace Go.Abs
theorem Z71 {ds:List Decl} {op num:Int} {i:Nat} {m:List Int} (h8:op=8) (h:(Zy ds op num)[i]? = some m):∃c,(Zt ds num)[i]? = some c/\m=Zc ds c:=by
 rw [Zy,Z4 om,VC] at h
 cases hc:(Zt ds num)[i]? with
 | none=>rw [hc] at h;cases h
 | some c=>rw [hc] at h;cases h;exact ⟨c,rfl,rfl⟩
theorem Zt4 {ds:List Decl} {L:Led} {op num x c:Int} {args:List Int} {i:Nat} (h8:op=8) (hx:args[0]? = some x) (hc:(Zt ds num)[i]? = some c):Xr ds L op num args i=TS ds L x c:=by
 have h1:gI args 0=x:=by rw [gI];simp [hx]
 have h2:gI (Zt ds num) (i:Int)=c:=by rw [gI];simp [hc]
 rw [Xr,Z8 h8,h1,h2]
theorem Zt5 {ds:List Decl} {L:Led} {op num:Int} {args:List Int} {i:Nat} (h8:¬op=8):Xr ds L op num args i=L:=by rw [Xr,Z4 h8]
theorem Zt6 {n:Normal} {ln:List Int} {L:Led} {op num:Int} {args:List Int} {kids:List Block} {kb:Block} (h:kids[0]? = some kb) :
  Ud n ln L op num args kids=Kx L (Xv n ln (Xr n.decls L op num args 0) L.vars.length kb) fun one=>UA n ln L op num args one (kids.drop 1) 1:=by
 cases kids with
 | nil=>simp at h
 | cons b bs=>simp at h;subst h;rw [Ud];rfl
theorem Z2m {n:Normal} {ln:List Int} {L one:Led} {op num:Int} {args:List Int} {kids:List Block} {kb:Block} {k:Nat} (h:kids[k]? = some kb) :
  UA n ln L op num args one (kids.drop k) k=Z19 one (Xv n ln (Xr n.decls L op num args k) L.vars.length kb) (UA n ln L op num args one (kids.drop (k+1)) (k+1)):=by
 rw [Zu h,UA]
def Tq (n:Normal) (ln:List Int) (L:Led) (s:Step):Option Led:=
 if s.op=8/\¬YG L ln (gI s.args 0)=true then none else Ud n ln L s.op s.num s.args s.kids
theorem Znd {n:Normal} {ln:List Int} {L:Led} {s:Step} (h8:s.op=8) (ha:¬YG L ln (gI s.args 0)=true):Tq n ln L s=none:=by rw [Tq,Z8 ⟨h8,ha⟩]
theorem Zdb {n:Normal} {ln:List Int} {L:Led} {s:Step} {kb:Block} (h:¬(s.op=8/\¬YG L ln (gI s.args 0)=true)) (hk:s.kids[0]? = some kb) :
  Tq n ln L s=Kx L (Xv n ln (Xr n.decls L s.op s.num s.args 0) L.vars.length kb) fun one=>UA n ln L s.op s.num s.args one (s.kids.drop 1) 1:=by
 rw [Tq,Z4 h,Zt6 hk]
theorem QO {xs:List Int} {x:Int} (h:xs[0]? = some x):gI xs 0=x:=by rw [gI];simp [h]
end Go.Abs
namespace Go.Abs
theorem LLen.grow {L:Led} {t o p:Int} (h:LLen L):LLen (L.grow t o p):=by
 obtain ⟨f1,f2,f3,f4,f5⟩:=h
 exact ⟨by simp [Led.grow,f1],by simp [Led.grow,f2],by simp [Led.grow,f3],by simp [Led.grow,f4],by simp [Led.grow,f5]⟩
theorem LLen.arm {L:Led} {i j:Nat} {c d:Int} (h:LLen L):LLen ⟨L.vars,L.own,L.par,L.con.set i c,L.fst.set j d,L.tok⟩:=by
 obtain ⟨f1,f2,f3,f4,f5⟩:=h
 exact ⟨f1,f2,by simp [f3],by simp [f4],f5⟩
end Go.Abs
namespace Go.Abs
theorem Zgf {n:Normal} (hn:NOk n) {ln:List Int} {L O:Led} {q:Int} {s:Step} {i:Nat} {kb:Block} {m:List Int} (hk:LOk n.decls L q) (hq:0<=q) (hf:SFacts n L.vars s) (hop:s.op=7∨s.op=8)
  (_:s.kids[i]? = some kb) (harm:(Zy n.decls s.op s.num)[i]? = some m) (hbt:0<=ZF n (L.vars++m) kb) (h:Xv n ln (Xr n.decls L s.op s.num s.args i) L.vars.length kb=some O) :
  O.own.length=L.vars.length/\O.tok.length=L.vars.length:=by
 obtain ⟨k1,k2⟩:=JS hk hq hf hop harm
 obtain ⟨r1,r2,_⟩:=Zd3 hn k1 hq (by rw [k2];exact hbt) (by rw [k2];simp) h
 exact ⟨r1,r2⟩
theorem Zj2 {one two:Led} {r:Bool} (h:¬(¬one.own=two.own∨¬one.tok=two.tok)):Z19 one (some two) r=r:=Z8 ⟨XE.1 fun q=>h (.inl q),XE.1 fun q=>h (.inr q)⟩
theorem Zj0 {one two:Led} {r:Bool} (h:¬one.own=two.own∨¬one.tok=two.tok):Z19 one (some two) r=false:=Z4 fun q=>h.elim (fun z=>z q.1) fun z=>z q.2
theorem Zhc {L one:Led} {f:Led->Bool} (h:f one=true):Kx L (some one) f=some ⟨L.vars,one.own,L.par,L.con,L.fst,one.tok⟩:=Z8 h
theorem Z2q {L one:Led} {f:Led->Bool} (h:f one=false):Kx L (some one) f=none:=Z4 (by rw [h];simp)
end Go.Abs
namespace Go.Abs
section
variable {n:Normal} {ln:List Int} {L:Led} {s:Step}
abbrev US (n:Normal) (ln:List Int) (L:Led) (s:Step):Option Led:=UD n ln L s.op s.num s.into s.args (Ud n ln L s.op s.num s.args s.kids)
theorem Z9o {x:Int} (h:s.op=14) (hx:gI s.args 0=x):US n ln L s=QJ L ln x:=hx▸Z8 h
theorem Z9p {x:Int} (h:s.op=15) (hx:gI s.args 0=x):US n ln L s=Vd L x:=by rw [<-hx,US,UD,Z4 om,Z8 h]
theorem Z5g {x:Int} (h:s.op=16∨s.op=17) (hx:gI s.args 0=x):US n ln L s=UC n.decls L s.op x:=by rw [<-hx,US,UD,Z4 om,Z4 om,Z8 h]
theorem Z2v (h:s.op=7∨s.op=8):US n ln L s=Tq n ln L s:=by rw [US,UD,Z4 om,Z4 om,Z4 om,Z8 h,Tq]
theorem Zi6 (h1:¬s.op=14) (h2:¬s.op=15) (h3:¬(s.op=16∨s.op=17)) (h4:¬(s.op=7∨s.op=8)):US n ln L s=Vj n ln L s.op s.num s.into s.args:=by
 rw [US,UD,Z4 h1,Z4 h2,Z4 h3,Z4 h4]
theorem Zoq {v:Int} (h:¬YG L ln v=true):QJ L ln v=none:=Z4 h
theorem Zor {v x:Int} (h:¬¬YG L ln v=true) (hx:gI L.own v=x):QJ L ln v=some ⟨L.vars,L.own.set v.toNat (x+1),L.par,L.con,L.fst,L.tok⟩:=by rw [QJ,Z8 (XE.1 h),hx]
theorem WU (n:Normal) (ln:List Int) (L:Led) (s:Step):Vc n ln L s=Ts L s.op (Zp n L.vars s) (US n ln L s):=Z5w n ln L s
theorem VM {X:Led} {op t:Int} (h:Yl op=true/\t≠0):Ts L op t (some X)=some (X.grow t 1 (-1)):=by
 unfold Ts;simp only [h.1,↓reduceIte];rw [Z8 h.2]
theorem VN {X:Led} {op t:Int} (h:¬(Yl op=true/\t≠0)) (h2:Yl op=true):Ts L op t (some X)=some (X.grow 0 0 (-1)):=by
 have ht:t=0:=XE.1 fun q=>h ⟨h2,q⟩
 subst ht
 unfold Ts;simp only [h2,↓reduceIte];rfl
theorem VO {X:Led} {op t:Int} (h:¬Yl op=true):Ts L op t (some X)=some X:=by
 unfold Ts;simp only [Z4 h]
end
end Go.Abs
namespace Go.Abs
theorem QF {n:Normal} {us:List Int} {b:Block} (h:0<=ZF n us b):∃vs t,X7 n b.steps us=some vs/\Yq vs b.result=some t/\0<=t:=by
 rw [Z3z] at h
 cases hv:X7 n b.steps us with
 | none=>rw [hv] at h;simp at h
 | some vs=>
  rw [hv] at h
  simp only at h
  cases ha:Yq vs b.result with
  | none=>rw [ha] at h;simp at h
  | some t=>rw [ha] at h;exact ⟨vs,t,rfl,ha,h⟩
theorem KA {n:Normal} {us vs:List Int} {s:Step} {r:List Step} (h:X7 n (s::r) us=some vs):0<=Zp n us s/\X7 n r (Um n us s)=some vs:=by
 rw [X7] at h
 split at h
 ·cases h
 ·exact ⟨by omega,h⟩
theorem Jc (n:Normal) (us:List Int) (s:Step):us.length<=(Um n us s).length/\(Um n us s).length<=us.length+s.sz:=by
 have:=s.sz_pos
 rw [Um];split
 ·simp only [ZC,Z3h];omega
 ·omega
end Go.Abs
namespace Go.Abs
theorem Zph {X L:Led} {m:Nat} {r x:Int} (hg:gI L.vars r=x) (h:x≠0) (ht:Vd L r=some X):WE m r L=V7 X m:=by rw [WE,hg,Z8 h,ht];rfl
theorem Zpg {L:Led} {m:Nat} {r x:Int} (hg:gI L.vars r=x) (h:x≠0) (ht:Vd L r=none):WE m r L=none:=by rw [WE,hg,Z8 h,ht];rfl
theorem Z29 {L:Led} {m:Nat} {r x:Int} (hg:gI L.vars r=x) (h:¬x≠0):WE m r L=V7 L m:=by rw [WE,hg,Z4 h];rfl
end Go.Abs
namespace Go.Abs
theorem Zi4 {ds:List Decl} {lent:List Int}:∀{ps:List Int} {i:Nat} {L:Led},LOk ds L 1->LOk ds (U3 lent ps i L) 1/\(U3 lent ps i L).vars=L.vars++ps
 | [],i,L,hk=>⟨hk,by simp [U3]⟩
 | t::r,i,L,hk=>by
  rw [U3]
  obtain ⟨k1,k2⟩:=Zi4 (lent:=lent) (ps:=r) (i:=i+1) (hk.grow (t:=t) (o:=if t≠0/\¬(i:Int)∈lent then 1 else 0) (p:=-1) om (by split<;>omega))
  exact ⟨k1,by rw [k2];simp [Led.grow]⟩
theorem Z9g (ds:List Decl) (r:Routine):LOk ds (XM r) 1/\(XM r).vars=r.params:=by
 have h:LOk ds (⟨[],[],[],[],[],[]⟩:Led) 1:=⟨⟨rfl,rfl,rfl,rfl,rfl⟩,fun j h1 h2=>by simp at h2;omega,fun j h1 h2=>by simp at h2;omega,by simp,by simp⟩
 obtain ⟨k1,k2⟩:=Zi4 (lent:=r.lent) (ps:=r.params) (i:=0) h
 exact ⟨k1,by rw [XM,k2];rfl⟩
theorem Zo2 {L:Led} (h:V7 L 0=none):(V7 L 0).isSome=false:=by rw [h];rfl
theorem Zo3 {L L':Led} (h:V7 L 0=some L'):(V7 L 0).isSome=true:=by rw [h];rfl
theorem Zmz {n:Normal} (hn:NOk n) {ln:List Int} {b:Block} {L O:Led} {q:Int} {k:Nat} (hk:LOk n.decls L q) (hq:0<=q) (hty:0<=ZF n L.vars b) (hkl:k<=L.vars.length) (h:Xv n ln L k b=some O) :
  LLen O/\O.vars.length=k:=
 ((Z94 n hn ln b.sz).2 b L O q k (Yp _) hk hq hty hkl h).2
end Go.Abs
namespace Go.Abs
theorem Zio {n:Normal}:∀{l:List Routine},T9 n l=true->∀r∈l,¬Vl r.body<0/\ZF n r.params r.body=r.result
 | [],_,r,h=>by simp at h
 | a::l,h,r,hr=>by
  rw [T9] at h
  split at h
  ·rename_i h1
   rcases ZM.1 hr with rfl|hr
   ·exact h1
   ·exact Zio h r hr
  ·cases h
theorem Zbb {n:Normal} (hz:NSz n) (h:Vm n=true):NOk n/\∀r∈n.routines,0<=ZF n r.params r.body:=by
 simp only [Vm,YN] at h
 refine ⟨Z9i hz h.1,fun r hr=>?_⟩
 rw [(Zio h.2 r hr).2]
 have h1:=h.1
 simp only [XF,UW,YN] at h1
 have:=Zac h1.2.1.2.2.1 (Wk r) (YJ.2 ⟨r,hr,rfl⟩)
 simp only [Q7,YN,decide_eq_true_eq,Wk] at this
 exact (of_decide_eq_true this.2.2).1
end Go.Abs
end
section
namespace Go.Abs
theorem Z7x {xs:List Int} (h:Z6 xs=[]):xs=[]:=by cases xs with|nil=>rfl|cons x r=>cases h
theorem Zov {xs:List Con} (h:YH xs=[]):xs=[]:=by cases xs with|nil=>rfl|cons x r=>cases h
theorem Zox {xs:List Decl} (h:ZQ xs=[]):xs=[]:=by cases xs with|nil=>rfl|cons x r=>cases h
def QR (i:Int):List Int->Nat->Int
 | [],_=>-1
 | x::r,k=>if i=x then (k:Int) else QR i r (k+1)
def Z2j (xs:List Int) (i:Int):Int:=QR i xs 0
theorem Zg8 (i:Int):∀(xs:List Int) (k:Nat),(0<=QR i xs k↔i∈xs)/\-1<=QR i xs k
 | [],k=>by simp [QR]
 | x::r,k=>by
  rw [QR]
  obtain ⟨h1,h2⟩:=Zg8 i r (k+1)
  split
  ·rename_i h;subst h;simp<;>omega
  ·rename_i h;simp [h1,h,h2]
theorem Zsn (xs:List Int) (i:Int):decide (Z2j xs i>=0)=decide (i∈xs):=by
 rw [decide_eq_decide];exact (Zg8 i xs 0).1
end Go.Abs
namespace Go.Abs
theorem Zfh (xss:List (List Int)) (k:Nat):(xss.take k).flatten.length<=xss.flatten.length:=by
 conv=>rhs;rw [<-Z3m k xss,List.flatten_append,ZC]
 omega
end Go.Abs
namespace Go.Abs
theorem Z8g {xss:List (List Int)} {k:Nat} {x:List Int} (h:xss[k]? = some x):(xss.take (k+1)).flatten=(xss.take k).flatten++x:=by rw [V3 h,List.flatten_append];simp
theorem Zfg {xss:List (List Int)} {k:Nat} {x:List Int} (h:xss[k]? = some x):(xss.take k).flatten.length+x.length<=xss.flatten.length:=by
 have:=Zfh xss (k+1)
 rw [Z8g h,ZC] at this
 exact this
end Go.Abs
end
section
namespace Go.Abs
theorem Znq {c:Int} {ds:List Decl} {k:Nat} {d:Decl} {r:Int × List Int} (h:ds[k]? = some d) (hn:¬(c-ZA (ds.take k)>=0/\c-ZA (ds.take k)<d.cons.length))
  (hr:VG c (ds.drop k) k (ZA (ds.take k))=r):VG c (ds.drop (k+1)) (k+1) (ZA (ds.take (k+1)))=r:=by
 rw [Zu h,VG,Z4 om] at hr
 rw [V3 h,Z1z,<-hr];rfl
end Go.Abs
namespace Go.Abs
theorem Zns {c:Int} {ds:List Decl} {k:Nat} {d:Decl} {x:Con} (h:ds[k]? = some d) (hn:c-ZA (ds.take k)>=0/\c-ZA (ds.take k)<d.cons.length)
  (hx:d.cons[(c-ZA (ds.take k)).toNat]? = some x):VG c (ds.drop k) k (ZA (ds.take k))=((k:Int)+1,x.fields):=by
 rw [Zu h,VG,Z8 om,hx];rfl
def KH (c:Int) (z:Nat) (v:Int):Prop:=v=c-z∨(c<0/\c-z < -9223372036854775808/\v=c-z+18446744073709551616)
theorem Zmi {c:Int} {z l:Nat} {v:Int} (h:KH c z v) (hz:z<=100) (hl:l<=3) (hc:-9223372036854775808<=c/\c<=9223372036854775807):KH c (z+l) (Jp (v-l)):=by
 unfold KH at *;rw [Jp,IntKind.wrap_i64];omega
theorem Znr {c v:Int} {ds:List Decl} {k:Nat} {d:Decl} {r:Int × List Int} (h:ds[k]? = some d) (ha:KH c (ZA (ds.take k)) v) (hn:¬(v>=0/\v<d.cons.length))
  (hr:VG c (ds.drop k) k (ZA (ds.take k))=r):VG c (ds.drop (k+1)) (k+1) (ZA (ds.take (k+1)))=r:=Znq h (by unfold KH at ha;omega) hr
theorem Znt {c v:Int} {ds:List Decl} {k:Nat} {d:Decl} {x:Con} (h:ds[k]? = some d) (ha:KH c (ZA (ds.take k)) v) (hz:ZA (ds.take k)<=100) (hl:d.cons.length<=3) (hc:-9223372036854775808<=c)
  (hn:v>=0/\v<d.cons.length) (hx:d.cons[v.toNat]? = some x):VG c (ds.drop k) k (ZA (ds.take k))=((k:Int)+1,x.fields):=by
 have:v=c-(ZA (ds.take k):Int):=by unfold KH at ha;omega
 subst this
 exact Zns h hn hx
def Xe (ds:List Decl) (t:Int):Decl:=if Yv ds t=true then (ds[(t-1).toNat]?).getD ⟨0,0,[]⟩ else ⟨0,0,[]⟩
end Go.Abs
namespace Go.Abs
abbrev Zdm (ds:List Decl) (d:Decl):Prop:=
 (((¬(0<=d.frm/\d.frm<=ds.length))∨(¬(0<=d.to_/\d.to_<=ds.length)))∨((d.cons.length:Int)>3))∨(((d.cons.length:Int)>0)/\((d.frm≠0)∨(d.to_≠0)))
theorem Zoj {ds:List Decl} {d:Decl} {i:Nat} (h:Zdm ds d):Vi ds d i=false:=by
 rw [Vi]
 split
 ·rw [Z4];rintro ⟨h1,h2,h3⟩
  rcases h with ((h|h)|h)|h<;>omega
 ·split
  ·rfl
  ·rcases h with ((h|h)|h)|h
   ·rw [decide_eq_false h];rfl
   ·rw [decide_eq_false h,Bool.and_false]
   ·omega
   ·omega
theorem Zok {ds:List Decl} {d:Decl} {i:Nat} (hl:0<d.cons.length) (h:U8 ds.length d.cons=false):Vi ds d i=false:=by
 rw [Vi,Z8 hl];split
 ·exact h
 ·rfl
theorem Zol {ds:List Decl} {d:Decl} {i:Nat} (hl:d.cons.length=0) (h:T5 d (ds.take i)=true):Vi ds d i=false:=by
 rw [Vi,Z4 om,Z8 h]
theorem Zom {ds:List Decl} {d:Decl} {i:Nat} (h1:¬Zdm ds d) (h2:U8 ds.length d.cons=true) (h3:d.cons.length=0->T5 d (ds.take i)=false):Vi ds d i=true:=by
 rw [Vi]
 have ha:0<=d.frm/\d.frm<=ds.length:=XE.1 fun q=>h1 (.inl (.inl (.inl q)))
 have hb:0<=d.to_/\d.to_<=ds.length:=XE.1 fun q=>h1 (.inl (.inl (.inr q)))
 have hc:¬(d.cons.length:Int)>3:=fun q=>h1 (.inl (.inr q))
 split
 ·rename_i hl
  have hd:¬(d.frm≠0∨d.to_≠0):=fun q=>h1 (.inr ⟨by omega,q⟩)
  rw [Z8 ⟨by omega,by omega,by omega⟩];exact h2
 ·rw [Z4 (by rw [h3 om];simp),decide_eq_true ha,decide_eq_true hb];rfl
theorem Zbc {ds:List Decl} {k:Nat} {d:Decl} (h:ds[k]? = some d) (hA:Vi ds d k=false) (c:VH ds (ds.drop k) k=VH ds ds 0):false=Xf ds:=by
 rw [Xf,<-c,Zu h,VH,Z22 h,hA,Z4 (by simp),Bool.and_false]
theorem Y0s {ds:List Decl} {k:Nat} {d:Decl} {r:Bool} (h:ds[k]? = some d) (hA:Vi ds d k=true) (c:VH ds (ds.drop k) k=r):VH ds (ds.drop (k+1)) (k+1)=r:=by
 rw [Zu h,VH,Z22 h,hA,Z8 rfl] at c;exact c
theorem Y0r {ds:List Decl} {k:Nat} (hl:ds.length<=4) (hk:ds.length<=k) (c:VH ds (ds.drop k) k=VH ds ds 0):true=Xf ds:=by
 rw [Xf,<-c,Ye hk,decide_eq_true hl];rfl
theorem Znu {m:Nat} {c:Con} (h:((c.fields.length:Int)>3)∨(¬(YK m c.fields=true))):Qo m c=false:=by
 rw [Qo]
 rcases h with h|h
 ·rw [decide_eq_false om];rfl
 ·rw [KE.2 h,Bool.and_false]
theorem Znv {m:Nat} {c:Con} (h:¬(((c.fields.length:Int)>3)∨(¬(YK m c.fields=true)))):Qo m c=true:=by
 rw [Qo,XE.1 fun q=>h (.inr q),decide_eq_true (by have:¬(c.fields.length:Int)>3:=fun q=>h (.inl q);omega)];rfl
end Go.Abs
end
section
namespace Go.Abs
structure Sg3 where
 pms:List Int
 lnt:List Int
 res:Int
abbrev JU (f:Sg3):List AV:=[Z1 f.pms,Z1 f.lnt,.i f.res]
abbrev QE (f:Sg3):AV:=.agg (JU f)
def WL (fs:List Sg3):List AV:=fs.map QE
abbrev Wi (xs:List Sg3):AV:=.sl (WL xs) none
abbrev Kz (xs:List Sg3) (v:Value):AV:=.sl (WL xs) (some v)
theorem JL {xs:List Sg3} {j:Nat} {x:Sg3} (h:xs[j]? = some x):(WL xs)[j]? = some (QE x):=by simp [WL,h]
@[simp] theorem Z28 (xs:List Sg3):(WL xs).length=xs.length:=by simp [WL]
theorem Ze2 (xs:List Sg3):∀y∈WL xs,y.leaves.length=3:=by intro y hy;simp only [WL,YJ] at hy;obtain ⟨x,_,rfl⟩:=hy;rfl
theorem Zpd (xs:List Sg3):(Z9 (WL xs)).all AV.one=true:=Qt fun y hy=>by simp only [WL,YJ] at hy;obtain ⟨x,_,rfl⟩:=hy;rfl
def Yo (r:Routine):Sg3:=⟨r.params,r.lent,r.result⟩
def QZ (m:Nat) (f:Sg3):Bool:=Q7 m ⟨f.pms,f.res⟩&&TH f.pms f.lnt
def TB (m:Nat):List Sg3->Bool
 | []=>true
 | f::r=>if QZ m f=true then TB m r else false
def Z87:List Sg3->Bool
 | []=>false
 | f::_=>decide (f.pms.length=0)&&decide (f.res=0)
def TI (ds:List Decl) (fs:List Sg3):Bool:=Xf ds&&(decide (1<=fs.length/\fs.length<=4)&&(Z87 fs&&TB ds.length fs))
theorem Zes {fs:List Sg3} {x:Sg3} (h:fs[0]? = some x):Z87 fs=(decide (x.pms.length=0)&&decide (x.res=0)):=by
 cases fs with
 | nil=>simp at h
 | cons f r=>simp at h;subst h;rfl
theorem Zjg (m:Nat):∀rs:List Routine,TB m (rs.map Yo)=(Q8 m (rs.map Wk)&&Q1 rs)
 | []=>rfl
 | r::rs=>by
  simp only [XW,TB,Q8,Q1,QZ,Zjg m rs]
  simp only [Yo,Wk]
  by_cases h1:Q7 m { params:=r.params,result:=r.result }=true<;>by_cases h2:TH r.params r.lent=true<;>simp [h1,h2]
theorem Zhi (n:Normal):XF n=(decide (n.routines.length<=4)&&TI n.decls (n.routines.map Yo)):=by
 have hf:Z87 (n.routines.map Yo)=Z4i (n.routines.map Wk):=by
  cases n.routines with
  | nil=>rfl
  | cons r rs=>rfl
 rw [XF,TI,UW,Zjg,hf]
 simp only [TK]
 cases decide (n.routines.length<=4)<;>cases Xf n.decls<;>cases decide (1<=n.routines.length/\n.routines.length<=4)<;>cases Q8 n.decls.length (n.routines.map Wk) <;>
  cases Z4i (n.routines.map Wk)<;>cases Q1 n.routines<;>rfl
theorem Z5r {rs:List Routine} {j:Nat} {x:Sg3} (h:(rs.map Yo)[j]? = some x):∃r,rs[j]? = some r/\x=Yo r:=by
 rw [VC] at h
 cases hr:rs[j]? with
 | none=>rw [hr] at h;cases h
 | some r=>rw [hr] at h;cases h;exact ⟨r,rfl,rfl⟩
theorem Zgy {ps ls:List Int} {j:Nat} {v:Int} {r:Bool} (h:ls[j]? = some v) (hg:(0<=v/\v<=(ps.length:Int)-1)/\ps[v.toNat]?≠some 0/\(∀p,(if j=0 then none else ls[j-1]?)=some p->p<v))
  (hr:UR ps (ls.drop j) (if j=0 then none else ls[j-1]?)=r):UR ps (ls.drop (j+1)) (if j+1=0 then none else ls[j+1-1]?)=r:=by
 rw [Zu h,Z98 hg] at hr
 rw [Z4 om,show j+1-1=j from rfl,h];exact hr
theorem Z99 {ps ls:List Int} {j:Nat} {v:Int} {r:Bool} (h:ls[j]? = some v) (hg:¬((0<=v/\v<=(ps.length:Int)-1)/\ps[v.toNat]?≠some 0/\(∀p,(if j=0 then none else ls[j-1]?)=some p->p<v)))
  (hr:UR ps (ls.drop j) (if j=0 then none else ls[j-1]?)=r):r=false:=by
 rw [Zu h,Z5a hg] at hr;exact hr.symm
theorem Z5s {m:Nat} {fs:List Sg3} {k:Nat} {f:Sg3} {r:Bool} (h:fs[k]? = some f) (hb:QZ m f=false) (hr:TB m (fs.drop k)=r):r=false:=by
 rw [Zu h,TB,hb,Z4 (by simp)] at hr;exact hr.symm
theorem Zxc {m:Nat} {fs:List Sg3} {k:Nat} {f:Sg3} {r:Bool} (h:fs[k]? = some f) (hb:QZ m f=true) (hr:TB m (fs.drop k)=r):TB m (fs.drop (k+1))=r:=by
 rw [Zu h,TB,Z8 hb] at hr;exact hr
end Go.Abs
namespace Go.Abs
section
variable {ds:List Decl} {fs:List Sg3} {x:Sg3}
theorem Y0y (h:((¬(Xf ds=true))∨((fs.length:Int)<1))∨((fs.length:Int)>4)):false=TI ds fs:=by
 rw [TI]
 rcases h with (h|h)|h
 ·rw [KE.2 h];rfl
 ·rw [decide_eq_false (p:=1<=fs.length/\fs.length<=4) om];simp
 ·rw [decide_eq_false (p:=1<=fs.length/\fs.length<=4) om];simp
theorem Zks (hx:fs[0]? = some x) (h:((x.pms.length:Int)>0)∨x.res≠0):false=TI ds fs:=by
 rw [TI,Zes hx]
 rcases h with h|h
 ·rw [decide_eq_false (p:=x.pms.length=0) om];simp
 ·rw [decide_eq_false (p:=x.res=0) h];simp
theorem Z67 (h:TB ds.length fs=false):false=TI ds fs:=by rw [TI,h];simp
theorem Y0z (h:¬(((¬(Xf ds=true))∨((fs.length:Int)<1))∨((fs.length:Int)>4))) (hx:fs[0]? = some x) (h1:¬((x.pms.length:Int)>0)) (h2:¬x.res≠0) (h3:TB ds.length fs=true) :
  true=TI ds fs:=by
 have hv:Xf ds=true:=XE.1 fun q=>h (.inl (.inl q))
 have ha:¬(fs.length:Int)<1:=fun q=>h (.inl (.inr q))
 have hb:¬(fs.length:Int)>4:=fun q=>h (.inr q)
 rw [TI,Zes hx,hv,h3,decide_eq_true (p:=1<=fs.length/\fs.length<=4) om,decide_eq_true (p:=x.pms.length=0) om,decide_eq_true (p:=x.res=0) (XE.1 h2)];rfl
abbrev Zj9 (m:Nat) (x:Sg3):Prop:=(((x.pms.length:Int)>3)∨(¬(YK m x.pms=true)))∨(¬(0<=x.res/\x.res<=m))
theorem Zwz {m:Nat} (h:Zj9 m x):QZ m x=false:=by
 rw [QZ,Q7]
 rcases h with (h|h)|h
 ·rw [decide_eq_false (p:=x.pms.length<=3) om];simp
 ·rw [KE.2 h];simp
 ·rw [decide_eq_false h];simp
theorem Za4 {m:Nat} (h:TH x.pms x.lnt=false):QZ m x=false:=by rw [QZ,h,Bool.and_false]
theorem Zx0 {m:Nat} (h:¬Zj9 m x) (hl:TH x.pms x.lnt=true):QZ m x=true:=by
 have h1:¬(x.pms.length:Int)>3:=fun q=>h (.inl (.inl q))
 rw [QZ,Q7,hl,decide_eq_true (p:=x.pms.length<=3) om,XE.1 fun q=>h (.inl (.inr q)),decide_eq_true (XE.1 fun q=>h (.inr q))];rfl
end
end Go.Abs
namespace Go.Abs
abbrev Zh (n:Normal):AV:=Wi (n.routines.map Yo)
end Go.Abs
end
section
namespace Go.Abs
def X0 (us:List Int):List Int->Option (List Int)
 | []=>some []
 | a::r=>match Yq us a with
  | none=>none
  | some t=>match X0 us r with
   | none=>none
   | some ts=>some (t::ts)
theorem Zb9 {us:List Int}:∀{args ts:List Int},X0 us args=some ts->∀tys,YM us args tys=true↔ts=tys
 | [],ts,h,tys=>by
  rw [X0] at h;cases h
  cases tys with
  | nil=>simp [YM,VB]
  | cons t r=>simp [YM,VB]
 | a::r,ts,h,tys=>by
  rw [X0] at h
  cases ha:Yq us a with
  | none=>rw [ha] at h;cases h
  | some t=>
   rw [ha] at h
   cases hr:X0 us r with
   | none=>rw [hr] at h;cases h
   | some tr=>
    rw [hr] at h;cases h
    cases tys with
    | nil=>simp [YM,VB]
    | cons t2 r2=>
     rw [YM,VB,ha]
     have:=Zb9 hr r2
     rw [YM] at this
     by_cases he:t=t2
     ·subst he;simp [this]
     ·rw [Z4 (fun q=>he (U6 q))];simp [he]
theorem Zco {us:List Int}:∀{args ts:List Int},X0 us args=some ts->ts.length=args.length
 | [],ts,h=>by rw [X0] at h;cases h;rfl
 | a::r,ts,h=>by
  rw [X0] at h
  cases ha:Yq us a with
  | none=>rw [ha] at h;cases h
  | some t=>
   rw [ha] at h
   cases hr:X0 us r with
   | none=>rw [hr] at h;cases h
   | some tr=>rw [hr] at h;cases h;simp [Zco hr]
theorem Zcp {us:List Int} {b t:Int}:∀{xs ts:List Int},X0 us xs=some ts->Yq us b=some t->X0 us (xs++[b])=some (ts++[t])
 | [],ts,h,hb=>by rw [X0] at h;cases h;simp [X0,hb]
 | a::r,ts,h,hb=>by
  rw [X0] at h
  cases ha:Yq us a with
  | none=>rw [ha] at h;cases h
  | some u=>
   rw [ha] at h
   cases hr:X0 us r with
   | none=>rw [hr] at h;cases h
   | some tr=>
    rw [hr] at h;cases h
    rw [Z1l,X0,ha,Zcp hr hb];rfl
def Z1v (n:Normal) (num:Int):List Int->Option Int
 | [a,b]=>if Yv n.decls a=true/\b=(Xe n.decls a).frm/\num=0 then some (Xe n.decls a).to_ else none
 | _=>none
def Yt (n:Normal) (op num:Int) (ts:List Int):Option Int:=
 if op=0 then (if (-999<=num/\num<=999)/\ts.length=0 then some 0 else none)
 else if op=1∨op=2∨op=3∨op=4 then (if num=0/\ts=[0,0] then some 0 else none)
 else if op=5 then (if num=0/\ts=[0] then some 0 else none)
 else if op=11 then Z1v n num ts
 else if op=6 then (if 0<=Yr n.decls num/\ts=Zc n.decls num then some (Yr n.decls num) else none)
 else if op=9 then (match Yq n.routines num with
  | none=>none
  | some r=>if ts=r.params then some r.result else none)
 else if op=10 then (match Yq n.routines num with
  | none=>none
  | some r=>if r.params.length≠0/\0<=TT n.decls r.params r.result/\ts=r.params.take (r.params.length-1) then some (TT n.decls r.params r.result) else none)
 else none
theorem Z3u {n:Normal} {num:Int} {ts:List Int} (h:ts.length≠2):Z1v n num ts=none:=by
 match ts,h with
 | [],_=>rfl
 | [_],_=>rfl
 | [_,_],h=>simp at h
 | _::_::_::_,_=>rfl
structure NTy (n:Normal):Prop where
 result:∀r∈n.routines,0<=r.result
 params:∀r∈n.routines,∀p∈r.params,0<=p
 decl:∀d∈n.decls,d.cons.length=0->0<=d.frm/\0<=d.to_
 fields:∀c,∀f∈Zc n.decls c,0<=f
abbrev Zgb (us:List Int) (s:Step):Prop:=s.into≠0/\(((s.op≠6∨s.into<1)∨s.into>us.length)∨gI us (s.into-1)=0)
theorem Zsy {us:List Int} {op into:Int} (hnn:∀t∈us,0<=t) (h:¬(into≠0/\(((op≠6∨into<1)∨into>us.length)∨gI us (into-1)=0))):Wl us op into=true:=by
 rw [Wl]
 split
 ·rfl
 ·rename_i h0
  have h1:¬(((op≠6∨into<1)∨into>us.length)∨gI us (into-1)=0):=fun q=>h ⟨h0,q⟩
  have h2:op=6:=XE.1 fun q=>h1 (.inl (.inl (.inl q)))
  have h3:¬into<1:=fun q=>h1 (.inl (.inl (.inr q)))
  have h4:¬into>us.length:=fun q=>h1 (.inl (.inr q))
  have h5:¬gI us (into-1)=0:=fun q=>h1 (.inr q)
  obtain ⟨t,ht⟩:=Zl (xs:=us) (j:=(into-1).toNat) om
  rw [Z8 h2,Ut om ht]
  rw [XR ht] at h5
  have:=hnn t (ZV ht)
  simp;omega
theorem Zsx {us:List Int} {op into:Int} (h:into≠0/\(((op≠6∨into<1)∨into>us.length)∨gI us (into-1)=0)):Wl us op into=false:=by
 obtain ⟨h0,h⟩:=h
 rw [Wl,Z4 h0]
 split
 ·rename_i h6
  cases ha:Yq us (into-1) with
  | none=>rfl
  | some t=>
   obtain ⟨a1,a2⟩:=Tn ha
   rcases h with ((h|h)|h)|h
   ·exact absurd h6 h
   ·omega
   ·omega
   ·rw [XR a2] at h;subst h;rfl
 ·rfl
theorem Zzn {n:Normal} {us:List Int} {s:Step} (h:Zgb us s):Zp n us s=-1:=by
 rw [Qd,Z8 (.inr (.inl (by rw [Zsx h];simp)))]
end Go.Abs
namespace Go.Abs
theorem Zt0 {α:Type} {c:Prop} [Decidable c] {v:α}:(if c then some v else none).isSome=decide c:=by split<;>simp_all
theorem Zxd {n:Normal} (hty:NTy n) {op num:Int} {ts:List Int} {x:Int} (h:Yt n op num ts=some x):0<=x:=by
 unfold Yt at h
 split at h
 ·split at h<;>cases h;exact Int.le_refl 0
 split at h
 ·split at h<;>cases h;exact Int.le_refl 0
 split at h
 ·split at h<;>cases h;exact Int.le_refl 0
 split at h
 ·rcases ts with _|⟨a,_|⟨b,_|⟨c,r⟩⟩⟩
  ·cases h
  ·cases h
  ·rw [Z1v] at h
   split at h
   ·rename_i hq
    cases h
    rw [Xe,Z8 hq.1]
    have hA:=hq.1
    simp only [Yv,YN,decide_eq_true_eq] at hA
    cases hd:n.decls[(a-1).toNat]? with
    | none=>rw [hd] at hA;simp at hA
    | some d=>
     rw [hd] at hA
     exact (hty.decl d (ZV hd) (by simpa using hA.2)).2
   ·cases h
  ·cases h
 split at h
 ·split at h
  ·rename_i hq;cases h;exact hq.1
  ·cases h
 split at h
 ·cases ha:Yq n.routines num with
  | none=>rw [ha] at h;cases h
  | some r=>
   rw [ha] at h
   simp only at h
   split at h
   ·cases h;exact hty.result r (ZV (Tn ha).2)
   ·cases h
 split at h
 ·cases ha:Yq n.routines num with
  | none=>rw [ha] at h;cases h
  | some r=>
   rw [ha] at h
   simp only at h
   split at h
   ·rename_i hq;cases h;exact hq.2.1
   ·cases h
 ·cases h
def Qc (n:Normal) (us:List Int) (s:Step) (ts:List Int):Int:=
 if Y2 s.op=true then (match ts with
  | [t]=>if t≠0/\s.num=0/\s.kids.length=0/\¬((s.op=16∨s.op=17)/\Yv n.decls t=true) then 0 else -1
  | _=>-1)
 else if s.op=7 then (if ts=[0]/\s.num=0 then Vw n us s.op s.num s.kids else -1)
 else if s.op=8 then (if ts=[s.num] then Vw n us s.op s.num s.kids else -1)
 else if 0<s.kids.length∨(s.op=10/\0<(((Yq n.routines s.num).map (·.lent)).getD []).length) then -1
 else (Yt n s.op s.num ts).getD (-1)
theorem Zgd {p q:Prop} [Decidable p] [Decidable q] {a b:Int} (h:p↔q):ite p a b=ite q a b:=by
 by_cases hp:p
 ·rw [Z8 hp,Z8 (h.1 hp)]
 ·rw [Z4 hp,Z4 (fun z=>hp (h.2 z))]
theorem Jm {n:Normal} {us:List Int} {s:Step} {ts:List Int} (hnn:∀t∈us,0<=t) (hts:X0 us s.args=some ts) (hi:¬Zgb us s):Zp n us s=Qc n us s ts:=by
 have hv:=Zsy hnn hi
 have ht:=Zb9 hts
 have hl:=Zco hts
 have hfirst:((s.num≠0/\¬XI s.op=true)∨¬Wl us s.op s.into=true∨(0<s.kids.length/\s.op≠7/\s.op≠8))↔((s.num≠0/\¬XI s.op=true)∨(0<s.kids.length/\s.op≠7/\s.op≠8)):=by
  rw [hv];simp
 rw [Qd,Zgd hfirst]
 unfold Qc
 by_cases hc:Y2 s.op=true
 ·have hop:14<=s.op/\s.op<=17:=by simpa [Y2] using hc
  have hnum:XI s.op=false:=by simp [XI];omega
  rw [Z8 hc]
  by_cases hb:s.num≠0∨0<s.kids.length
  ·rw [Z8 (by rcases hb with hb|hb;exact .inl ⟨hb,by rw [hnum];simp⟩;exact .inr ⟨hb,by omega,by omega⟩)]
   split
   ·rw [Z4];rintro ⟨h1,h2,h3,h4⟩;omega
   ·rfl
  ·rw [Z4 (by rintro (⟨h1,_⟩|⟨h1,_⟩)<;>exact hb (by first|exact .inl h1|exact .inr h1)),Z4 om,Z4 om,Z4 om,Z4 om,Z4 om,Z4 om,Z4 om,Z4 om,Z8 om]
   have hb1:s.num=0:=XE.1 fun q=>hb (.inl q)
   have hb2:s.kids.length=0:=by have:¬0<s.kids.length:=fun q=>hb (.inr q);omega
   rcases he:s.args with _|⟨a,_|⟨b,r⟩⟩
   ·rw [he] at hts;rw [X0] at hts;cases hts;rfl
   ·rw [he] at hts
    rw [X0] at hts
    cases ha:Yq us a with
    | none=>rw [ha] at hts;cases hts
    | some t=>
     rw [ha,X0] at hts;cases hts
     rw [Uw,ha]
     simp only
     by_cases ht0:t=0
     ·rw [Z8 ht0,Z4 (fun q=>q.1 ht0)]
     ·rw [Z4 ht0]
      by_cases hA:Yv n.decls t=true
      ·by_cases h16:s.op=16∨s.op=17
       ·rw [Z8 ⟨by omega,hA⟩,Z4 (fun q=>q.2.2.2 ⟨h16,hA⟩)]
       ·rw [Z4 (by rintro ⟨q,_⟩;omega),Z8 ⟨ht0,hb1,hb2,fun q=>h16 q.1⟩]
      ·rw [Z4 (fun q=>hA q.2),Z8 ⟨ht0,hb1,hb2,fun q=>hA q.2⟩]
   ·rw [he] at hl
    rw [show Uw n.decls us s.op (a::b::r)=-1 from rfl]
    match ts,hl with
    | [t],hl=>simp at hl
    | [],hl=>simp at hl
    | _::_::_,_=>rfl
 have hop:¬(14<=s.op/\s.op<=17):=by simpa [Y2] using hc
 by_cases h7:s.op=7
 ·have hnum:XI s.op=false:=by simp [XI];omega
  conv=>rhs;rw [Z4 hc,Z8 h7]
  by_cases hb:s.num=0
  ·rw [Z4 (fun q=>q.elim (fun z=>z.1 hb) fun z=>z.2.1 h7),Z4 om,Z4 om,Z4 om,Z4 om,Z8 h7]
   by_cases hq:ts=[0]
   ·rw [Z8 ((ht _).2 hq),Z8 ⟨hq,hb⟩]
   ·rw [Z4 (fun q=>hq ((ht _).1 q)),Z4 (fun q=>hq q.1)]
  ·rw [Z8 (.inl ⟨hb,by rw [hnum];simp⟩),Z4 (fun q=>hb q.2)]
 by_cases h8:s.op=8
 ·have hnum:XI s.op=true:=by simp [XI,h8]
  conv=>rhs;rw [Z4 hc,Z4 h7,Z8 h8]
  rw [Z4 (fun q=>q.elim (fun z=>z.2 hnum) fun z=>z.2.2 h8),Z4 om,Z4 om,Z4 om,Z4 om,Z4 h7,Z8 h8]
  by_cases hq:ts=[s.num]
  ·rw [Z8 ((ht _).2 hq),Z8 hq]
  ·rw [Z4 (fun q=>hq ((ht _).1 q)),Z4 hq]
 conv=>rhs;rw [Z4 hc,Z4 h7,Z4 h8]
 by_cases hk:0<s.kids.length
 ·rw [Z8 (.inr ⟨hk,h7,h8⟩),Z8 (.inl hk)]
 by_cases hlent:s.op=10/\0<(((Yq n.routines s.num).map (·.lent)).getD []).length
 ·conv=>rhs;rw [Z8 (.inr hlent)]
  have hnum:XI s.op=true:=by simp [XI,hlent.1]
  have h10:=hlent.1
  rw [Z4 (fun q=>q.elim (fun z=>z.2 hnum) fun z=>hk z.1),Z4 om,Z4 om,Z4 om,Z4 om,Z4 h7,Z4 h8,Z8 (.inr h10),UE]
  cases ha:Yq n.routines s.num with
  | none=>rfl
  | some r=>
   have h2:=hlent.2
   rw [ha] at h2
   simp only [Z1s,Option.getD_some] at h2
   simp only
   rw [TA,Z4 om,Z8 (.inr (.inl h2))]
 conv=>rhs;rw [Z4 (fun q=>Or.elim q hk hlent)]
 have sf:∀{X:Option Int},Yt n s.op s.num ts=X->Zp n us s=X.getD (-1)->Zp n us s=(Yt n s.op s.num ts).getD (-1):=fun a b=>by rw [a];exact b
 have hL:=Qd n us s
 rw [Zgd hfirst] at hL
 rw [<-hL]
 by_cases hnb:s.num≠0/\¬XI s.op=true
 ·have hnn2:¬(s.op=0∨(s.op=6∨(s.op=8∨(s.op=9∨s.op=10)))):=fun q=>hnb.2 (by simpa [XI] using q)
  refine sf (X:=none) ?_ (by rw [hL,Z8 (.inl hnb)];rfl)
  unfold Yt
  rw [Z4 om]
  split
  ·rw [Z4 (fun q=>hnb.1 q.1)]
  split
  ·rw [Z4 (fun q=>hnb.1 q.1)]
  split
  ·by_cases hl2:ts.length=2
   ·match ts,hl2 with
    | [a,b],_=>exact Z4 fun q=>hnb.1 q.2.2
   ·exact Z3u hl2
  rw [Z4 om,Z4 om,Z4 om]
 rw [Z4 (fun q=>q.elim hnb fun z=>hk z.1)] at hL
 have hnumf:¬(s.op=0∨(s.op=6∨(s.op=8∨(s.op=9∨s.op=10))))->s.num=0:=fun q=>XE.1 fun z=>hnb ⟨z,fun y=>q (by simpa [XI] using y)⟩
 by_cases h0:s.op=0
 ·rw [Z8 h0] at hL
  by_cases hq:s.args.length=0/\(-999<=s.num/\s.num<=999)
  ·exact sf (by unfold Yt;rw [Z8 h0,Z8 ⟨hq.2,by omega⟩]) (by rw [hL,Z8 hq];rfl)
  ·exact sf (by unfold Yt;rw [Z8 h0,Z4 (fun q=>hq ⟨by omega,q.1⟩)]) (by rw [hL,Z4 hq];rfl)
 rw [Z4 h0] at hL
 by_cases h1:s.op=1∨s.op=2∨s.op=3∨s.op=4
 ·rw [Z8 h1] at hL
  by_cases hq:ts=[0,0]
  ·exact sf (by unfold Yt;rw [Z4 h0,Z8 h1,Z8 ⟨hnumf om,hq⟩]) (by rw [hL,Z8 ((ht _).2 hq)];rfl)
  ·exact sf (by unfold Yt;rw [Z4 h0,Z8 h1,Z4 (fun q=>hq q.2)]) (by rw [hL,Z4 (fun q=>hq ((ht _).1 q))];rfl)
 rw [Z4 h1] at hL
 by_cases h5:s.op=5
 ·rw [Z8 h5] at hL
  by_cases hq:ts=[0]
  ·exact sf (by unfold Yt;rw [Z4 h0,Z4 h1,Z8 h5,Z8 ⟨hnumf om,hq⟩]) (by rw [hL,Z8 ((ht _).2 hq)];rfl)
  ·exact sf (by unfold Yt;rw [Z4 h0,Z4 h1,Z8 h5,Z4 (fun q=>hq q.2)]) (by rw [hL,Z4 (fun q=>hq ((ht _).1 q))];rfl)
 rw [Z4 h5] at hL
 by_cases h6:s.op=6
 ·rw [Z8 h6] at hL
  have hct:0<Yr n.decls s.num↔0<=Yr n.decls s.num:=by
   rcases Int.lt_or_le (Yr n.decls s.num) 1 with q|q
   ·have:=(Z43 q).2;omega
   ·omega
  by_cases hq:0<=Yr n.decls s.num/\ts=Zc n.decls s.num
  ·exact sf (by unfold Yt;rw [Z4 h0,Z4 h1,Z4 h5,Z4 om,Z8 h6,Z8 hq]) (by rw [hL,Z8 ⟨hct.2 hq.1,(ht _).2 hq.2⟩];rfl)
  ·exact sf (by unfold Yt;rw [Z4 h0,Z4 h1,Z4 h5,Z4 om,Z8 h6,Z4 hq]) (by rw [hL,Z4 (fun q=>hq ⟨hct.1 q.1,(ht _).1 q.2⟩)];rfl)
 rw [Z4 h6,Z4 h7,Z4 h8] at hL
 by_cases h9:s.op=9
 ·rw [Z8 (.inl h9),UE] at hL
  cases ha:Yq n.routines s.num with
  | none=>exact sf (by unfold Yt;rw [Z4 h0,Z4 h1,Z4 h5,Z4 om,Z4 h6,Z8 h9,ha]) (by rw [hL,ha];rfl)
  | some r=>
   rw [ha] at hL
   simp only at hL
   rw [TA,Z8 h9] at hL
   have hF:∀{X:Option Int},(if ts=r.params then some r.result else none)=X->Yt n s.op s.num ts=X:=fun q=>by
    unfold Yt;rw [Z4 h0,Z4 h1,Z4 h5,Z4 om,Z4 h6,Z8 h9,ha];exact q
   by_cases hq:ts=r.params
   ·exact sf (hF (Z8 hq)) (by rw [hL,Z8 ((ht _).2 hq)];rfl)
   ·exact sf (hF (Z4 hq)) (by rw [hL,Z4 (fun q=>hq ((ht _).1 q))];rfl)
 by_cases h10:s.op=10
 ·rw [Z8 (.inr h10),UE] at hL
  cases ha:Yq n.routines s.num with
  | none=>exact sf (by unfold Yt;rw [Z4 h0,Z4 h1,Z4 h5,Z4 om,Z4 h6,Z4 h9,Z8 h10,ha]) (by rw [hL,ha];rfl)
  | some r=>
   rw [ha] at hL hlent
   simp only [Z1s,Option.getD_some] at hL hlent
   rw [TA,Z4 h9] at hL
   have hF:∀{X:Option Int},(if r.params.length≠0/\0<=TT n.decls r.params r.result/\ts=r.params.take (r.params.length-1) then some (TT n.decls r.params r.result) else none)=X->Yt n s.op s.num ts=X:=fun q=>by
    unfold Yt;rw [Z4 h0,Z4 h1,Z4 h5,Z4 om,Z4 h6,Z4 h9,Z8 h10,ha];exact q
   by_cases hp:r.params.length=0
   ·exact sf (hF (Z4 fun q=>q.1 hp)) (by rw [hL,Z8 (.inl hp)];rfl)
   by_cases hq:ts=r.params.take (r.params.length-1)
   ·rw [Z4 (fun z=>z.elim hp fun z=>z.elim (fun z=>hlent ⟨h10,z⟩) fun z=>z ((ht _).2 hq))] at hL
    by_cases har:0<=TT n.decls r.params r.result
    ·exact sf (hF (Z8 ⟨hp,har,hq⟩)) hL
    ·refine sf (hF (Z4 fun q=>har q.2.1)) ?_
     have key:∀(l:List Decl) (i:Nat) (f t:Int),¬0<=Tl f t l i->Tl f t l i=-1:=by
      intro l
      induction l with
      | nil=>intro i f t _;rfl
      | cons d r ih=>
       intro i f t hn
       rw [Tl] at hn ⊢
       split
       ·rename_i hh;rw [Z8 hh] at hn;omega
       ·rename_i hh;rw [Z4 hh] at hn;exact ih _ _ _ hn
     exact hL.trans (key _ _ _ _ har)
   ·exact sf (hF (Z4 fun q=>hq q.2.2)) (by rw [hL,Z8 (.inr (.inr fun q=>hq ((ht _).1 q)))];rfl)
 rw [Z4 om] at hL
 by_cases h11:s.op=11
 ·rw [Z8 h11] at hL
  have hn0:=hnumf om
  have hF:∀{X:Option Int},Z1v n s.num ts=X->Yt n s.op s.num ts=X:=fun q=>by
   unfold Yt;rw [Z4 h0,Z4 h1,Z4 h5,Z8 h11];exact q
  rcases he:s.args with _|⟨a,_|⟨b,_|⟨c,r⟩⟩⟩
  ·rw [he] at hts hL;rw [X0] at hts;cases hts;exact sf (hF rfl) hL
  ·rw [he] at hl hL
   exact sf (hF (Z3u (by simp at hl;omega))) hL
  ·rw [he] at hts hL
   rw [X0] at hts
   cases ha:Yq us a with
   | none=>rw [ha] at hts;cases hts
   | some t=>
    rw [ha,X0] at hts
    cases hb:Yq us b with
    | none=>rw [hb] at hts;cases hts
    | some t2=>
     rw [hb,X0] at hts;cases hts
     rw [T1,ha] at hL
     simp only at hL
     by_cases hA:Yv n.decls t=true
     ·rw [Z8 hA] at hL
      have hA2:=hA
      simp only [Yv,YN,decide_eq_true_eq] at hA2
      cases hd:n.decls[(t-1).toNat]? with
      | none=>rw [hd] at hA2;simp at hA2
      | some d=>
       rw [hd] at hL
       simp only at hL
       have hD:Xe n.decls t=d:=by rw [Xe,Z8 hA,hd];rfl
       have h2:=Zb9 (us:=us) (args:=[b]) (ts:=[t2]) (by rw [X0,hb,X0]) [d.frm]
       by_cases hq:t2=d.frm
       ·exact sf (hF (Z8 ⟨hA,by rw [hD];exact hq,hn0⟩)) (by rw [hL,Z8 (h2.2 (by rw [hq])),hD];rfl)
       ·exact sf (hF (Z4 fun q=>hq (by rw [hD] at q;exact q.2.1))) (by rw [hL,Z4 (fun q=>hq (by simpa using h2.1 q))];rfl)
     ·exact sf (hF (Z4 fun q=>hA q.1)) (by rw [hL,Z4 hA];rfl)
  ·rw [he] at hl hL
   exact sf (hF (Z3u (by simp at hl;omega))) hL
 rw [Z4 h11,Z4 om] at hL
 exact sf (X:=none) (by unfold Yt;rw [Z4 h0,Z4 h1,Z4 h5,Z4 h11,Z4 h6,Z4 h9,Z4 h10]) hL
end Go.Abs
namespace Go.Abs
theorem Zhk:∀(n:Nat) (f:Int) (k:Nat) (x:Int),(Xy f n)[k]? = some x->x=f+k/\k<n
 | 0,f,k,x,h=>by simp [Xy] at h
 | n+1,f,k,x,h=>by
  rw [Xy] at h
  cases k with
  | zero=>simp at h;subst h;exact ⟨by omega,by omega⟩
  | succ k=>have:=Zhk n (f+1) k x (by simpa using h);exact ⟨by omega,by omega⟩
theorem Zdh {ds:List Decl} (hd:DOk ds) {t:Int} {k:Nat} {x:Int} (h:(Zt ds t)[k]? = some x):0<=x/\x<=100:=by
 rw [Zt] at h
 split at h
 ·rename_i ht
  obtain ⟨d,hd1⟩:=Zl (xs:=ds) (j:=(t-1).toNat) om
  rw [hd1] at h
  have:=Zhk _ _ _ _ h
  have h3:=hd.cons_at hd1
  have h4:=(hd.take (t-1).toNat).sum
  simp only [Z1s,Option.getD_some] at this
  omega
 ·simp at h
end Go.Abs
namespace Go.Abs
section
variable {S:Option Int} {c:Prop} [Decidable c] {v:Int} {b:Bool}
theorem Jd (h:S=if c then some v else none) (hb:b=true↔c):b=S.isSome:=by rw [h,Zt0,YW,hb,decide_eq_true_iff]
theorem Je (h:S=if c then some v else none):∀x,S=some x->v=x:=by
 intro x hx;rw [h] at hx;split at hx
 ·exact U6 hx
 ·cases hx
theorem sfn (h:S=none):false=S.isSome:=by rw [h];rfl
theorem Z2z (h:S=none):∀x,S=some x->v=x:=by intro x hx;rw [h] at hx;cases hx
end
section
variable {n:Normal} {op num:Int} {ts:List Int}
theorem sf0 (h:op=0):Yt n op num ts=if (-999<=num/\num<=999)/\ts.length=0 then some 0 else none:=by unfold Yt;rw [Z8 h]
theorem sf1 (h:op=1∨op=2∨op=3∨op=4):Yt n op num ts=if num=0/\ts=[0,0] then some 0 else none:=by unfold Yt;rw [Z4 om,Z8 h]
theorem sf5 (h:op=5):Yt n op num ts=if num=0/\ts=[0] then some 0 else none:=by unfold Yt;rw [Z4 om,Z4 om,Z8 h]
theorem Zj8 (h:op=11):Yt n op num ts=Z1v n num ts:=by unfold Yt;rw [Z4 om,Z4 om,Z4 om,Z8 h]
theorem Zx9 (h:op=11) (hl:(ts.length:Int)≠2):Yt n op num ts=none:=(Zj8 h).trans (Z3u om)
theorem Zaa (h:op=11) {a b:Int} (hl:¬(ts.length:Int)≠2) (ha:ts[0]? = some a) (hb:ts[1]? = some b) :
  Yt n op num ts=if Yv n.decls a=true/\b=(Xe n.decls a).frm/\num=0 then some (Xe n.decls a).to_ else none:=by
 rw [Zj8 h]
 match ts,hl,ha,hb with
 | [x,y],_,ha,hb=>simp at ha hb;subst ha;subst hb;rfl
 | [],hl,_,_=>simp at hl
 | [_],hl,_,_=>simp at hl
 | _::_::_::_,hl,_,_=>simp at hl;omega
theorem Zx8 (h:op=11) {a:Int} (hl:¬(ts.length:Int)≠2) (ha:ts[0]? = some a) (hn:¬Yv n.decls a=true):Yt n op num ts=none:=by
 obtain ⟨b,hb⟩:=Zl (xs:=ts) (j:=1) om
 rw [Zaa h hl ha hb,Z4 fun q=>hn q.1]
theorem sf6 (h:op=6):Yt n op num ts=if 0<=Yr n.decls num/\ts=Zc n.decls num then some (Yr n.decls num) else none:=by
 unfold Yt;rw [Z4 om,Z4 om,Z4 om,Z4 om,Z8 h]
theorem Zxa (h:op=9∨op=10) (hr:num<0∨num>=(((n.routines.map Yo).length:Nat):Int)):Yt n op num ts=none:=by
 have ha:Yq n.routines num=none:=Tm (by simp at hr;omega)
 unfold Yt
 rw [Z4 om,Z4 om,Z4 om,Z4 om,Z4 om]
 rcases h with h|h
 ·rw [Z8 h,ha]
 ·rw [Z4 om,Z8 h,ha]
theorem sf9 (h:op=9) {x:Sg3} (hr:¬(num<0∨num>=(((n.routines.map Yo).length:Nat):Int))) (hx:(n.routines.map Yo)[num.toNat]? = some x) :
  Yt n op num ts=if ts=x.pms then some x.res else none:=by
 obtain ⟨r,h1,rfl⟩:=Z5r hx
 have ha:Yq n.routines num=some r:=Ut (by simp at hr;omega) h1
 unfold Yt
 rw [Z4 om,Z4 om,Z4 om,Z4 om,Z4 om,Z8 h,ha];rfl
theorem Zx7 (h:op=10) {x:Sg3} (hr:¬(num<0∨num>=(((n.routines.map Yo).length:Nat):Int))) (hx:(n.routines.map Yo)[num.toNat]? = some x) (hp:(x.pms.length:Int)-1<0) :
  Yt n op num ts=none:=by
 obtain ⟨r,h1,rfl⟩:=Z5r hx
 have ha:Yq n.routines num=some r:=Ut (by simp at hr;omega) h1
 have hp':r.params.length=0:=by simp only [Yo] at hp;omega
 unfold Yt
 rw [Z4 om,Z4 om,Z4 om,Z4 om,Z4 om,Z4 om,Z8 h,ha]
 exact Z4 fun q=>q.1 hp'
theorem Zx6 (h:op=10) {x:Sg3} {l:Int} (hr:¬(num<0∨num>=(((n.routines.map Yo).length:Nat):Int))) (hx:(n.routines.map Yo)[num.toNat]? = some x) (hp:¬(x.pms.length:Int)-1<0)
  (hl:x.pms[((x.pms.length:Int)-1).toNat]? = some l) :
  Yt n op num ts=if 0<=WV n.decls l x.res/\ts=x.pms.take ((x.pms.length:Int)-1).toNat then some (WV n.decls l x.res) else none:=by
 obtain ⟨r,h1,rfl⟩:=Z5r hx
 have ha:Yq n.routines num=some r:=Ut (by simp at hr;omega) h1
 simp only [Yo] at hp hl ⊢
 have hq:((r.params.length:Int)-1).toNat=r.params.length-1:=by omega
 have ht:r.params.take ((r.params.length:Int)-1).toNat=r.params.take (r.params.length-1):=Y1 (fun k=>r.params.take k) hq
 have hl':r.params[r.params.length-1]? = some l:=by rw [<-hl];exact Y1 (fun k=>r.params[k]?) hq.symm
 have hlast:TT n.decls r.params r.result=WV n.decls l r.result:=by rw [TT,Zfk hl']
 unfold Yt
 rw [Z4 om,Z4 om,Z4 om,Z4 om,Z4 om,Z4 om,Z8 h,ha]
 simp only [hlast]
 by_cases hc:0<=WV n.decls l r.result/\ts=r.params.take (r.params.length-1)
 ·rw [Z8 ⟨by omega,hc⟩]
  exact (Z8 ⟨hc.1,hc.2.trans ht.symm⟩).symm
 ·rw [Z4 fun q=>hc q.2]
  exact (Z4 (fun q=>hc ⟨q.1,q.2.trans ht⟩)).symm
theorem sfd (h0:¬op=0) (h1:¬(op=1∨op=2∨op=3∨op=4)) (h5:¬op=5) (h11:¬op=11) (h6:¬op=6) (h9:¬(op=9∨op=10)):Yt n op num ts=none:=by
 unfold Yt;rw [Z4 h0,Z4 h1,Z4 h5,Z4 h11,Z4 h6,Z4 om,Z4 om]
end
end Go.Abs
end
namespace Go.Abs
mutual
def Step.rng:Step->Prop
 | .mk _ num _ _ kids=>(-9223372036854775808<=num/\num<=9223372036854775807)/\QG kids
def Block.rng:Block->Prop
 | .mk steps _=>UF steps
def UF:List Step->Prop
 | []=>True
 | s::r=>s.rng/\UF r
def QG:List Block->Prop
 | []=>True
 | b::r=>b.rng/\QG r
end
theorem Step.rng_eq (s:Step):s.rng=((-9223372036854775808<=s.num/\s.num<=9223372036854775807)/\QG s.kids):=by cases s;rw [Step.rng];rfl
theorem Block.rng_eq (b:Block):b.rng=UF b.steps:=by cases b;rw [Block.rng];rfl
theorem Zb0:∀{xs:List Step} {k:Nat} {s:Step},UF xs->xs[k]? = some s->s.rng
 | [],k,s,_,h=>by simp at h
 | x::r,0,s,hr,h=>by rw [UF] at hr;simp at h;subst h;exact hr.1
 | x::r,k+1,s,hr,h=>by rw [UF] at hr;exact Zb0 (k:=k) hr.2 (by simpa using h)
theorem Z40:∀{xs:List Block} {k:Nat} {b:Block},QG xs->xs[k]? = some b->b.rng
 | [],k,s,_,h=>by simp at h
 | x::r,0,s,hr,h=>by rw [QG] at hr;simp at h;subst h;exact hr.1
 | x::r,k+1,s,hr,h=>by rw [QG] at hr;exact Z40 (k:=k) hr.2 (by simpa using h)
theorem Zba {us:List Int}:∀{args:List Int},X0 us args=none->∀tys,YM us args tys=false
 | [],h,tys=>by rw [X0] at h;cases h
 | a::r,h,tys=>by
  cases tys with
  | nil=>simp [YM,VB]
  | cons t ts=>
   rw [X0] at h
   rw [YM,VB]
   cases ha:Yq us a with
   | none=>simp
   | some u=>
    rw [ha] at h
    cases hr:X0 us r with
    | none=>
     have:=Zba hr ts
     rw [YM] at this
     by_cases he:u=t
     ·subst he;simpa using this
     ·rw [Z4 (fun q=>he (U6 q))]
    | some tr=>rw [hr] at h;cases h
theorem Zzm {n:Normal} {us:List Int} {s:Step} (h:X0 us s.args=none):Zp n us s=-1:=by
 have ht:=Zba h
 rw [Qd]
 split
 ·rfl
 split
 ·rw [Z4];rintro ⟨q,_⟩
  have:s.args=[]:=K6.1 q
  rw [this,X0] at h;cases h
 split
 ·rw [Z4 (by rw [ht];simp)]
 split
 ·rw [Z4 (by rw [ht];simp)]
 split
 ·rw [Z4 (by rw [ht];simp)]
 split
 ·rw [Z4 (by rw [ht];simp)]
 split
 ·rw [Z4 (by rw [ht];simp)]
 split
 ·rw [UE]
  cases Yq n.routines s.num with
  | none=>rfl
  | some r=>
   simp only
   rw [TA]
   split
   ·rw [Z4 (by rw [ht];simp)]
   ·rw [Z8 (.inr (.inr (by rw [ht];simp)))]
 split
 ·match hA:s.args with
  | []=>rfl
  | [_]=>rfl
  | [a,b]=>
   rw [T1]
   rw [hA,X0] at h
   cases ha:Yq us a with
   | none=>rfl
   | some t=>
    rw [ha] at h
    simp only at h ⊢
    split
    ·cases n.decls[(t-1).toNat]? with
     | none=>rfl
     | some d=>
      simp only
      rw [Z4]
      cases hb:X0 us [b] with
      | none=>rw [Zba hb];simp
      | some tr=>rw [hb] at h;cases h
    ·rfl
  | _::_::_::_=>rfl
 split
 ·match hA:s.args with
  | []=>rfl
  | [a]=>
   rw [Uw]
   rw [hA,X0] at h
   cases ha:Yq us a with
   | none=>rfl
   | some t=>rw [ha,X0] at h;cases h
  | _::_::_=>rfl
 ·rfl
theorem Zcn {us:List Int} {a:Int}:∀{xs:List Int} {k:Nat},xs[k]? = some a->Yq us a=none->X0 us xs=none
 | [],k,h,_=>by simp at h
 | x::r,0,h,ha=>by simp at h;subst h;rw [X0,ha]
 | x::r,k+1,h,ha=>by
  have:=Zcn (xs:=r) (k:=k) (by simpa using h) ha
  rw [X0]
  cases Yq us x with
  | none=>rfl
  | some t=>simp only [this]
theorem Zt9 {n:Normal} {us:List Int} {ks:List Block} {ms:List (List Int)} (h:0<ks.length) (t:Int) :
  Xm n us (ks.drop 0) (ms.drop 0) (decide (0=0)) t=Xm n us ks ms true 0:=by
 cases ks with
 | nil=>simp at h
 | cons b bs=>
  cases ms with
  | nil=>rw [VR,VR,Xm,Xm]
  | cons m r=>
   simp only [VR,decide_true]
   rw [Xm,Xm];simp
theorem Zd7 {b:Block}:∀{ks:List Block} {k:Nat},ks[k]? = some b->b.sz<=Yx ks
 | [],k,h=>by simp at h
 | x::r,0,h=>by simp at h;subst h;rw [Yx];omega
 | x::r,k+1,h=>by have:=Zd7 (ks:=r) (k:=k) (by simpa using h);rw [Yx];omega
theorem Z3d (us m:List Int):[us,m].flatten=us++m:=by simp
theorem Zfj {xs:List Int} {i:Int} (h:i.toNat<xs.length):xs[i.toNat]? = some (gI xs i):=by rw [gI,UX h];rfl
theorem Z4n {xs:List Int} (h:0<xs.length):xs[0]? = some (gI xs 0):=Zfj (i:=0) h
def W6 (n:Normal) (num:Int):Sg3:=((n.routines.map Yo)[num.toNat]?).getD ⟨[],[],0⟩
theorem Zja {n:Normal} {i:Int} (h:i.toNat<(n.routines.map Yo).length):(n.routines.map Yo)[i.toNat]? = some (W6 n i):=by rw [W6,UX h];rfl
theorem Z2r {us m:List Int} (h1:∀t∈us,0<=t) (h2:∀t∈m,0<=t):∀t∈us++m,0<=t:=fun t h=>(ZG.1 h).elim (h1 t) (h2 t)
theorem KM {us:List Int} {args ts:List Int} {k:Nat} (h:X0 us (args.take k)=some ts) (hk:args.length<=k):X0 us args=some ts:=by
 rw [W7 hk] at h;exact h
theorem Zm9 {us:List Int} {args ts:List Int} {k:Nat} {a t:Int} (h:X0 us (args.take k)=some ts) (ha:args[k]? = some a) (ht:Yq us a=some t):X0 us (args.take (k+1))=some (ts++[t]):=by
 rw [V3 ha];exact Zcp h ht
theorem Zhu {ts:List Int} (h:(ts.length:Int)=1):ts=[gI ts 0]:=by
 match ts,h with
 | [a],_=>rfl
section
variable {n:Normal} {us ts:List Int} {s:Step}
theorem Kt {p1 p2 p3 p4 p5:Prop}:(p1/\(p2∨(p3∨(p4∨p5))))↔(p1/\(((p2∨p3)∨p4)∨p5)):=by simp only [or_assoc]
def Z41 (n:Normal) (s:Step) (ts:List Int):Int:=match ts with
  | [t]=>if t≠0/\s.num=0/\s.kids.length=0/\¬((s.op=16∨s.op=17)/\Yv n.decls t=true) then 0 else -1
  | _=>-1
theorem Jl:Qc n us s ts =
 if Y2 s.op=true then Z41 n s ts
 else if s.op=7 then (if ts=[0]/\s.num=0 then Vw n us s.op s.num s.kids else -1)
 else if s.op=8 then (if ts=[s.num] then Vw n us s.op s.num s.kids else -1)
 else if 0<s.kids.length∨(s.op=10/\0<(((Yq n.routines s.num).map (·.lent)).getD []).length) then -1
 else (Yt n s.op s.num ts).getD (-1):=by unfold Qc Z41;rfl
theorem Zdd (h:(ts.length:Int)=1):Z41 n s ts=if gI ts 0≠0/\s.num=0/\s.kids.length=0/\¬((s.op=16∨s.op=17)/\Yv n.decls (gI ts 0)=true) then 0 else -1:=by
 match ts,h with
 | [a],_=>rfl
theorem Znk (h:(ts.length:Int)≠1):Z41 n s ts=-1:=by
 match ts,h with
 | [],_=>rfl
 | [a],h=>exact absurd rfl h
 | _::_::_,_=>rfl
theorem Zz2 (hS:Zp n us s=Qc n us s ts) (hc:Y2 s.op=true)
  (h:((((ts.length:Int)=1/\gI ts 0≠0)/\s.num=0)/\(s.kids.length:Int)=0)/\(s.op=16∨s.op=17)) :
  (!Yv n.decls (gI ts 0))=decide (0<=Zp n us s):=by
 obtain ⟨⟨⟨⟨h1,h2⟩,h3⟩,h4⟩,h5⟩:=h
 have h4':s.kids.length=0:=by omega
 rw [hS,Jl,Z8 hc,Zdd h1]
 cases hA:Yv n.decls (gI ts 0)
 ·rw [Z8 ⟨h2,h3,h4',by simp⟩];rfl
 ·rw [Z4 (fun q=>q.2.2.2 ⟨h5,rfl⟩)];rfl
theorem Zz3 (hS:Zp n us s=Qc n us s ts) (hc:Y2 s.op=true)
  (h:¬(((((ts.length:Int)=1/\gI ts 0≠0)/\s.num=0)/\(s.kids.length:Int)=0)/\(s.op=16∨s.op=17))) :
  ((((((ts.length:Int)==1)&&(gI ts 0 != 0))&&(s.num==0))&&((s.kids.length:Int)==0)))=decide (0<=Zp n us s):=by
 rw [hS,Jl,Z8 hc]
 by_cases h1:(ts.length:Int)=1
 ·rw [Zdd h1]
  by_cases h2:(gI ts 0≠0/\s.num=0)/\(s.kids.length:Int)=0
  ·obtain ⟨⟨h2,h3⟩,h4⟩:=h2
   have h4':s.kids.length=0:=by omega
   rw [Z8 ⟨h2,h3,h4',fun q=>h ⟨⟨⟨⟨h1,h2⟩,h3⟩,h4⟩,q.1⟩⟩,Ze.2 h1,Zw.2 h2,Ze.2 h3,Ze.2 h4];rfl
  ·rw [Z4 (fun q=>h2 ⟨⟨q.1,q.2.1⟩,by have:=q.2.2.1;omega⟩)]
   show _=false
   rw [KE];intro q
   obtain ⟨⟨⟨_,q1⟩,q2⟩,q3⟩:=(ZZ (ZZ (ZZ Ze Zw) Ze) Ze).1 q
   exact h2 ⟨⟨q1,q2⟩,q3⟩
 ·rw [Znk h1]
  show _=false
  rw [KE];intro q
  obtain ⟨⟨⟨q1,_⟩,_⟩,_⟩:=(ZZ (ZZ (ZZ Ze Zw) Ze) Ze).1 q
  exact h1 q1
theorem Zyy (hS:Zp n us s=Qc n us s ts) (hc:¬Y2 s.op=true) (h7:s.op=7)
  (h:(((ts.length:Int)≠1∨gI ts 0≠0)∨s.num≠0)∨(s.kids.length:Int)≠2):Zp n us s=-1:=by
 rw [hS,Jl,Z4 hc,Z8 h7]
 split
 ·rename_i q
  obtain ⟨q1,q2⟩:=q
  rw [q1] at h
  rw [Vw,Z8]
  right
  rw [Zy,Z8 h7]
  have:gI [0] 0=0:=rfl
  simp [this] at h
  show s.kids.length≠2
  omega
 ·rfl
theorem Zyz (hS:Zp n us s=Qc n us s ts) (hc:¬Y2 s.op=true) (h7:s.op=7)
  (h:¬((((ts.length:Int)≠1∨gI ts 0≠0)∨s.num≠0)∨(s.kids.length:Int)≠2)):Zp n us s=Xm n us s.kids (List.replicate 2 []) true 0:=by
 have h1:(ts.length:Int)=1:=XE.1 fun q=>h (.inl (.inl (.inl q)))
 have h2:gI ts 0=0:=XE.1 fun q=>h (.inl (.inl (.inr q)))
 have h3:s.num=0:=XE.1 fun q=>h (.inl (.inr q))
 have h4:(s.kids.length:Int)=2:=XE.1 fun q=>h (.inr q)
 rw [hS,Jl,Z4 hc,Z8 h7,Z8 ⟨by rw [Zhu h1,h2],h3⟩,Vw,Z4]
 ·rw [Zy,Z8 h7];rfl
 ·rw [Zy,Z8 h7];simp;omega
theorem Zz0 (hS:Zp n us s=Qc n us s ts) (hc:¬Y2 s.op=true) (h7:¬s.op=7) (h8:s.op=8)
  (h:(ts.length:Int)≠1∨(gI ts 0≠s.num∨(((((Zt n.decls s.num).map (Zc n.decls)).length:Nat):Int)=0∨(s.kids.length:Int)≠((((Zt n.decls s.num).map (Zc n.decls)).length:Nat):Int)))):Zp n us s=-1:=by
 rw [hS,Jl,Z4 hc,Z4 h7,Z8 h8]
 split
 ·rename_i q
  have hg:gI ts 0=s.num:=by rw [q];rfl
  have hl:(ts.length:Int)=1:=by rw [q];rfl
  rw [Vw,Z8]
  rw [Zy,Z4 h7]
  omega
 ·rfl
theorem Zz1 (hS:Zp n us s=Qc n us s ts) (hc:¬Y2 s.op=true) (h7:¬s.op=7) (h8:s.op=8)
  (h:¬((ts.length:Int)≠1∨(gI ts 0≠s.num∨(((((Zt n.decls s.num).map (Zc n.decls)).length:Nat):Int)=0∨(s.kids.length:Int)≠((((Zt n.decls s.num).map (Zc n.decls)).length:Nat):Int))))) :
  Zp n us s=Xm n us s.kids ((Zt n.decls s.num).map (Zc n.decls)) true 0:=by
 have h1:(ts.length:Int)=1:=XE.1 fun q=>h (.inl q)
 have h2:gI ts 0=s.num:=XE.1 fun q=>h (.inr (.inl q))
 rw [hS,Jl,Z4 hc,Z4 h7,Z8 h8,Z8 (by rw [Zhu h1,h2]),Vw,Z4]
 ·rw [Zy,Z4 h7]
 ·rw [Zy,Z4 h7];omega
theorem Zu5 {n:Normal} {num:Int}:(((Yq n.routines num).map (·.lent)).getD []).length=if 0<=num/\num<(((n.routines.map Yo).length:Nat):Int) then (W6 n num).lnt.length else 0:=by
 split
 ·rename_i h
  rw [TK] at h
  obtain ⟨r,hr⟩:=Zl (xs:=n.routines) (j:=num.toNat) om
  rw [Ut om hr,W6,VC,hr];rfl
 ·rename_i h
  rw [TK] at h
  rw [Tm om];rfl
theorem Zk9:(0<s.kids.length∨(s.op=10/\0<(((Yq n.routines s.num).map (·.lent)).getD []).length)) ↔
  ((s.kids.length:Int)>0∨(s.op=10/\(s.num>=0/\(s.num<(((n.routines.map Yo).length:Nat):Int)/\((((W6 n s.num).lnt).length:Nat):Int)>0)))):=by
 rw [Zu5]
 by_cases hq:0<=s.num/\s.num<(((n.routines.map Yo).length:Nat):Int)
 ·rw [Z8 hq];omega
 ·rw [Z4 hq];omega
theorem stB (hS:Zp n us s=Qc n us s ts) (hc:¬Y2 s.op=true) (h7:¬s.op=7) (h8:¬s.op=8)
  (h:((s.kids.length:Int)>0∨(s.op=10/\(s.num>=0/\(s.num<(((n.routines.map Yo).length:Nat):Int)/\((((W6 n s.num).lnt).length:Nat):Int)>0))))):Zp n us s=-1:=by
 rw [hS,Jl,Z4 hc,Z4 h7,Z4 h8,Z8 (Zk9.2 h)]
theorem stS (hS:Zp n us s=Qc n us s ts) (hc:¬Y2 s.op=true) (h7:¬s.op=7) (h8:¬s.op=8)
  (h:¬((s.kids.length:Int)>0∨(s.op=10/\(s.num>=0/\(s.num<(((n.routines.map Yo).length:Nat):Int)/\((((W6 n s.num).lnt).length:Nat):Int)>0))))):Zp n us s=(Yt n s.op s.num ts).getD (-1):=by
 rw [hS,Jl,Z4 hc,Z4 h7,Z4 h8,Z4 (fun q=>h (Zk9.1 q))]
theorem Zz4 (hty:NTy n) (h:Zp n us s=(Yt n s.op s.num ts).getD (-1)):(Yt n s.op s.num ts).isSome=decide (0<=Zp n us s):=by
 rw [h]
 cases hs:Yt n s.op s.num ts with
 | none=>rfl
 | some x=>have:=Zxd hty hs;simp [this]
theorem Zz5 {t:Int} (h:Zp n us s=(Yt n s.op s.num ts).getD (-1)) (hp:∀x,Yt n s.op s.num ts=some x->t=x):¬Y2 s.op=true->0<=Zp n us s->t=Zp n us s:=by
 intro _ h0
 rw [h] at h0 ⊢
 cases hs:Yt n s.op s.num ts with
 | none=>rw [hs] at h0;exact absurd h0 (by decide)
 | some x=>exact hp x hs
end
theorem Zzl {n:Normal} {us:List Int} {s:Step} (h:0<=Zp n us s):(0<=s.op/\s.op<=11)∨(14<=s.op/\s.op<=17):=by
 rw [Qd] at h
 by_cases hq:(0<=s.op/\s.op<=11)∨(14<=s.op/\s.op<=17)
 ·exact hq
 ·exfalso
  split at h
  ·omega
  rw [Z4 om,Z4 om,Z4 om,Z4 om,Z4 om,Z4 om,Z4 om,Z4 om,Z4 om] at h
  omega
theorem KR {n:Normal} {us:List Int} {s:Step} (h:0<=Zp n us s):Yl s.op=!Y2 s.op:=by
 have:=Zzl h
 rw [Yl,Y2,YW];simp;omega
theorem Zzq {n:Normal} {xs:List Step} {vs:List Int} {k:Nat} {s:Step} {t:Int} {r:Option (List Int)} (hs:xs[k]? = some s) (h:0<=Zp n vs s) (ht:¬Y2 s.op=true->0<=Zp n vs s->t=Zp n vs s)
  (hr:X7 n (xs.drop k) vs=r):X7 n (xs.drop (k+1)) (if Y2 s.op=true then vs else vs++[t])=r:=by
 rw [Zu hs,X7,Z4 om] at hr
 rw [<-hr,KR h]
 by_cases hc:Y2 s.op=true
 ·rw [Z8 hc,hc];rfl
 ·rw [Z4 hc,Z8 (by simpa using hc),ht hc h]
theorem Zzr {n:Normal} {xs:List Step} {vs:List Int} {k:Nat} {s:Step} {r:Option (List Int)} (hs:xs[k]? = some s) (h:¬0<=Zp n vs s) (hr:X7 n (xs.drop k) vs=r):r=none:=by
 rw [Zu hs,X7,Z8 om] at hr;exact hr.symm
theorem Zuw {c:Prop} [Decidable c] {vs:List Int} {t:Int} (h:∀x∈vs,0<=x) (ht:¬c->0<=t):∀x∈(if c then vs else vs++[t]),0<=x:=by
 split
 ·exact h
 ·rename_i hc
  exact Z2r h (fun x hx=>by rw [ZW.1 hx];exact ht hc)
theorem Zcl {m:Nat} {xs:List Int} (h:YK m xs=true):∀x∈xs,0<=x/\x<=m:=by
 rw [YK,Z1k] at h
 exact fun x hx=>of_decide_eq_true (h x hx)
theorem Zhj {n:Normal} (h:XF n=true):NTy n:=by
 simp only [XF,UW,YN,decide_eq_true_eq] at h
 obtain ⟨h1,⟨h2,h3,h4,h5⟩,h6⟩:=h
 have hs:∀r∈n.routines,YK n.decls.length r.params=true/\0<=r.result:=fun r hr=>by
  have:=Zac h4 (Wk r) (YJ.2 ⟨r,hr,rfl⟩)
  simp only [Q7,YN,decide_eq_true_eq] at this
  exact ⟨this.2.1,this.2.2.1⟩
 simp only [Xf,YN,decide_eq_true_eq] at h2
 obtain ⟨h2a,h2b⟩:=h2
 rw [Z7l] at h2b
 have key:∀(i:Nat) (d:Decl),n.decls[i]? = some d->Vi n.decls d i=true:=fun i d hi=>by
  have:=h2b i (Yg.1 hi).1
  rwa [XQ,Z22 hi] at this
 refine ⟨fun r hr=>(hs r hr).2,fun r hr p hp=>(Zcl (hs r hr).1 p hp).1,fun d hd h0=>?_,fun c f hf=>?_⟩
 ·obtain ⟨i,hi⟩:=List.mem_iff_getElem?.1 hd
  have:=key i d hi
  rw [Vi,Z4 om] at this
  split at this
  ·cases this
  ·simp only [YN,decide_eq_true_eq] at this;omega
 ·by_cases hc:Yr n.decls c<1
  ·rw [(Z43 hc).1] at hf;cases hf
  ·obtain ⟨k,d,x,q1,q2,q3,q4,q5⟩:=Z7h hc
   rw [q5] at hf
   have:=key k d q1
   have hp:0<d.cons.length:=by have:=(Yg.1 q3).1;omega
   rw [Vi,Z8 hp] at this
   split at this
   ·have:=Zdi.1 this x (ZV q3)
    simp only [Qo,YN] at this
    exact (Zcl this.2 f hf).1
   ·cases this
end Go.Abs
section
namespace Go.Abs
structure Arm where
 mat:Int
 fst:Int
 fds:List Int
 chg:Bool
abbrev Zgn (a:Arm):List AV:=[.i a.mat,.i a.fst,Z1 a.fds,.b a.chg]
abbrev Zbi (a:Arm):AV:=.agg (Zgn a)
def Xo (xs:List Arm):List AV:=xs.map Zbi
abbrev Zq (xs:List Arm):AV:=.sl (Xo xs) none
abbrev J5 (xs:List Arm) (v:Value):AV:=.sl (Xo xs) (some v)
theorem Zos {xs:List Arm} {j:Nat} {x:Arm} (h:xs[j]? = some x):(Xo xs)[j]? = some (Zbi x):=by simp [Xo,h]
@[simp] theorem Zot (xs:List Arm):(Xo xs).length=xs.length:=by simp [Xo]
theorem Zdo (xs ys:List Arm):Xo (xs++ys)=Xo xs++Xo ys:=by simp [Xo]
theorem Z0l (xs:List Arm):∀y∈Xo xs,y.leaves.length=4:=by intro y hy;simp only [Xo,YJ] at hy;obtain ⟨x,_,rfl⟩:=hy;rfl
theorem Z7o (xs:List Arm):(Z9 (Xo xs)).all AV.one=true:=Qt fun y hy=>by simp only [Xo,YJ] at hy;obtain ⟨x,_,rfl⟩:=hy;rfl
theorem Zou {xs:List Arm} (h:Xo xs=[]):xs=[]:=by cases xs with|nil=>rfl|cons x r=>cases h
abbrev XG:=Led
def Y7:List Int->Int->List Int
 | [],_=>[]
 | t::r,p=>if t≠0 then p::Y7 r (p+1) else Y7 r (p+1)
theorem Zfq {xs:List Int} {k:Nat} {t p:Int} {acc r:List Int} (h:xs[k]? = some t) (ha:acc++Y7 (xs.drop k) (p+k)=r) :
  (if t≠0 then acc++[p+k] else acc)++Y7 (xs.drop (k+1)) (p+((k+1:Nat):Int))=r:=by
 rw [Zu h,Y7] at ha
 rw [show p+((k+1:Nat):Int)=p+k+1 by omega]
 split
 ·rename_i q;rw [Z8 q] at ha;rw [Xs];exact ha
 ·rename_i q;rw [Z4 q] at ha;exact ha
theorem Zfp {xs:List Int} {k:Nat} {p:Int} {acc r:List Int} (h:xs.length<=k) (ha:acc++Y7 (xs.drop k) (p+k)=r):acc=r:=by
 rw [Ye h,Y7,Qg] at ha;exact ha
theorem Z8q:∀(xs:List Int) (p:Int) (own:List Int),VF own p xs=(Y7 xs p).foldl (fun o f=>o.set f.toNat (gI o f+1)) own
 | [],_,_=>rfl
 | t::r,p,own=>by
  rw [VF,Y7]
  split
  ·rw [List.foldl_cons];exact Z8q r _ _
  ·exact Z8q r _ _
theorem QP:∀{xs:List Int} {p f:Int},f∈Y7 xs p->p<=f/\f<p+xs.length
 | [],_,_,h=>by simp [Y7] at h
 | t::r,p,f,h=>by
  rw [Y7] at h
  split at h
  ·rcases ZM.1 h with rfl|h
   ·simp only [Y5];omega
   ·have:=QP h;simp only [Y5];omega
  ·have:=QP h;simp only [Y5];omega
theorem Z0t:∀(xs:List Int) (p:Int),(Y7 xs p).length<=xs.length
 | [],_=>by simp [Y7]
 | t::r,p=>by
  have:=Z0t r (p+1)
  rw [Y7];split<;>simp<;>omega
def Wo:List Arm->Int->Option Arm
 | [],_=>none
 | a::r,v=>match Wo r v with
  | some x=>some x
  | none=>if a.mat=v then some a else none
theorem Zhq {a:Arm}:∀{as1:List Arm} {v:Int},Wo (as1++[a]) v=if a.mat=v then some a else Wo as1 v
 | [],v=>rfl
 | x::r,v=>by
  rw [Z1l,Wo,Zhq]
  by_cases h:a.mat=v
  ·rw [Z8 h,Z8 h]
  ·rw [Z4 h,Z4 h];rfl
theorem Z2u {v:Int}:∀{as1:List Arm},(∀a∈as1,a.mat≠v)->Wo as1 v=none
 | [],_=>rfl
 | x::r,h=>by rw [Wo,Z2u (fun a ha=>h a (Yy _ ha))];exact Z4 (h x (Yd ..))
theorem Z5f {v:Int} {a:Arm}:∀{as1:List Arm},Wo as1 v=some a->a∈as1/\a.mat=v
 | [],h=>by cases h
 | x::r,h=>by
  rw [Wo] at h
  cases hr:Wo r v with
  | some y=>rw [hr] at h;cases h;have:=Z5f hr;exact ⟨Yy _ this.1,this.2⟩
  | none=>
   rw [hr] at h
   simp only at h
   split at h
   ·cases h;exact ⟨Yd ..,by assumption⟩
   ·cases h
structure ArmR (ds:List Decl) (L:Led) (as1:List Arm):Prop where
 rng:∀a∈as1,0<=a.mat/\a.mat<a.fst/\a.fst+a.fds.length<=L.vars.length
 par:∀a∈as1,∀v:Int,a.fst<=v->v<a.fst+a.fds.length->gI L.par v=a.mat
 non:∀v:Int,0<=v->v<L.vars.length->0<=gI L.par v->∃a∈as1,a.fst<=v/\v<a.fst+a.fds.length
 off:∀v:Int,0<=v->v<L.vars.length->match Wo as1 v with
  | none=>gI L.con v<0
  | some a=>0<=gI L.con v/\a.fst=gI L.fst v/\a.fds=Zc ds (gI L.con v)
theorem ArmR.same {ds:List Decl} {L M:Led} {as1:List Arm} (h:ArmR ds L as1) (h1:M.vars.length=L.vars.length) (h2:M.par=L.par) (h3:M.con=L.con) (h4:M.fst=L.fst):ArmR ds M as1:=by
 refine ⟨?_,?_,?_,?_⟩
 ·rw [h1];exact h.rng
 ·rw [h2];exact h.par
 ·rw [h1,h2];exact h.non
 ·rw [h1,h3,h4];exact h.off
theorem ArmR.grow {ds:List Decl} {L:Led} {as1:List Arm} {t o:Int} (h:ArmR ds L as1) (hl:LLen L):ArmR ds (L.grow t o (-1)) as1:=by
 obtain ⟨e1,e2,e3,e4,e5⟩:=hl
 have key:∀{xs:List Int} {y v:Int},xs.length=L.vars.length->0<=v->v<L.vars.length->gI (xs++[y]) v=gI xs v:=fun hx h0 h1=>Ub om
 have kend:∀{xs:List Int} {y v:Int},xs.length=L.vars.length->v=(L.vars.length:Int)->gI (xs++[y]) v=y:=fun hx h1=>Z4m om
 have hlen:(L.grow t o (-1)).vars.length=L.vars.length+1:=by simp [Led.grow]
 refine ⟨fun a ha=>?_,fun a ha v h1 h2=>?_,fun v h0 h1 h2=>?_,fun v h0 h1=>?_⟩
 ·have:=h.rng a ha;omega
 ·have:=h.rng a ha
  show gI (L.par++[-1]) v=a.mat
  rw [key e2 om om];exact h.par a ha v h1 h2
 ·have h2':0<=gI (L.par++[-1]) v:=h2
  by_cases hv:v<L.vars.length
  ·rw [key e2 h0 hv] at h2';exact h.non v h0 hv h2'
  ·rw [kend e2 om] at h2';omega
 ·show match Wo as1 v with
   | none=>gI (L.con++[-1]) v<0
   | some a=>0<=gI (L.con++[-1]) v/\a.fst=gI (L.fst++[-1]) v/\a.fds=Zc ds (gI (L.con++[-1]) v)
  by_cases hv:v<L.vars.length
  ·rw [key e3 h0 hv,key e4 h0 hv];exact h.off v h0 hv
  ·rw [Z2u (fun a ha=>by have:=h.rng a ha;omega)]
   show gI (L.con++[-1]) v<0
   rw [kend e3 om];omega
theorem ArmR.arm {ds:List Decl} {L:Led} {as1:List Arm} {x c:Int} (h:ArmR ds L as1) (hl:LLen L) (hx:0<=x/\x<L.vars.length) (hc:0<=c) :
  ArmR ds (TS ds L x c) (as1++[⟨x,(L.vars.length:Nat),Zc ds c,false⟩]):=by
 obtain ⟨e1,e2,e3,e4,e5⟩:=hl
 rw [TS,Z4p]
 have hnew:∀{xs:List Int} {y v:Int},xs.length=L.vars.length->(L.vars.length:Int)<=v->v<L.vars.length+(Zc ds c).length->gI (xs++List.replicate (Zc ds c).length y) v=y:=fun hx h0 h1=>Z4o om
 have YQ:∀{xs:List Int} {y v:Int},xs.length=L.vars.length->0<=v->v<L.vars.length->gI (xs++List.replicate (Zc ds c).length y) v=gI xs v:=fun hx h0 h1=>Ub om
 refine ⟨fun a ha=>?_,fun a ha v h1 h2=>?_,fun v h0 h1 h2=>?_,fun v h0 h1=>?_⟩
 ·simp only [ZC]
  rcases ZG.1 ha with ha|ha
  ·have:=h.rng a ha;omega
  ·rw [ZW.1 ha]
   show 0<=x/\x<(L.vars.length:Nat)/\(L.vars.length:Int)+((Zc ds c).length:Nat)<=_
   omega
 ·show gI (L.par++List.replicate _ x) v=a.mat
  rcases ZG.1 ha with ha|ha
  ·have:=h.rng a ha
   rw [YQ e2 om om];exact h.par a ha v h1 h2
  ·rw [ZW.1 ha] at h1 h2 ⊢
   exact hnew e2 h1 h2
 ·simp only [ZC] at h1
  have h2':0<=gI (L.par++List.replicate (Zc ds c).length x) v:=h2
  by_cases hv:v<L.vars.length
  ·rw [YQ e2 h0 hv] at h2'
   obtain ⟨a,ha,q⟩:=h.non v h0 hv h2'
   exact ⟨a,List.mem_append_left _ ha,q⟩
  ·exact ⟨_,List.mem_append_right _ (ZW.2 rfl),by show (L.vars.length:Int)<=v;omega,by show v<(L.vars.length:Int)+(Zc ds c).length;omega⟩
 ·simp only [ZC] at h1
  show match Wo (as1++[⟨x,(L.vars.length:Nat),Zc ds c,false⟩]) v with
   | none=>gI (L.con.set x.toNat c++List.replicate (Zc ds c).length (-1)) v<0
   | some a=>0<=gI (L.con.set x.toNat c++List.replicate (Zc ds c).length (-1)) v/\a.fst=gI (L.fst.set x.toNat L.vars.length++List.replicate (Zc ds c).length (-1)) v /\
     a.fds=Zc ds (gI (L.con.set x.toNat c++List.replicate (Zc ds c).length (-1)) v)
  rw [Zhq]
  by_cases hv:v<L.vars.length
  ·rw [YQ (by simp [e3]) h0 hv,YQ (by simp [e4]) h0 hv]
   by_cases he:x=v
   ·rw [Z8 he]
    show 0<=gI (L.con.set x.toNat c) v/\(L.vars.length:Int)=gI (L.fst.set x.toNat L.vars.length) v/\Zc ds c=Zc ds (gI (L.con.set x.toNat c) v)
    rw [KT om om,KT om om]
    exact ⟨hc,rfl,rfl⟩
   ·rw [Z4 he,Kl om,Kl om];exact h.off v h0 hv
  ·rw [hnew (by simp [e3]) om om]
   rw [Z4 (by show ¬x=v;omega),Z2u (fun a ha=>by have:=h.rng a ha;omega)]
   show (-1:Int)<0
   omega
theorem Zm1 {L:Led} {ln:List Int} {v:Int} {p:Int} (hv:0<=v/\v<L.vars.length) (hd:∀i:Int,0<=i->i<L.vars.length->gI L.par i<i) (h:¬(gI L.own v>0∨v∈ln)) (hp:gI L.par v=p) (h0:0<=p):YG L ln v=YG L ln p:=
 (Zcj (N:=L.vars.length) rfl hp hv ⟨by omega,fun q=>h (.inr q)⟩ om hd rfl).symm
theorem Zm0 {L:Led} {ln:List Int} {v:Int} (h:¬(gI L.own v>0∨v∈ln)) (hp:gI L.par v<0):YG L ln v=false:=
 (Zci rfl rfl ⟨by omega,fun q=>h (.inr q)⟩ hp rfl).symm
theorem Zm2 {L:Led} {ln:List Int} {v:Int} (h:gI L.own v>0∨v∈ln):YG L ln v=true:=
 (Zck rfl (fun q=>h.elim (fun z=>by omega) q.2) rfl).symm
end Go.Abs
namespace Go.Abs
def Yi (L:Led) (v:Int):Led:={ L with own:=L.own.set v.toNat (gI L.own v-1) }
theorem KC {L:Led} {v:Int}:Vd L v=if 1<=gI L.own v then some (Yi L v) else none:=by
 rw [Vd]
 by_cases h:gI L.own v<1
 ·rw [Z8 h,Z4 om]
 ·rw [Z4 h,Z8 om];rfl
end Go.Abs
namespace Go.Abs
def YI (L:Led) (r:Int):Led:=if gI L.vars r≠0 then Yi L r else L
theorem Ze8 {L:Led} {m:Nat} {r:Int} (ho:gI L.vars r≠0->1<=gI L.own r) (hz:XD ((YI L r).own.drop m) ((YI L r).tok.drop m)=true):WE m r L=some ((YI L r).take m):=by
 rw [WE]
 by_cases h:gI L.vars r≠0
 ·rw [Z8 h,KC,Z8 (ho h)]
  have e:YI L r=Yi L r:=Z8 h
  rw [e] at hz ⊢
  exact Z8 hz
 ·rw [Z4 h]
  have e:YI L r=L:=Z4 h
  rw [e] at hz ⊢
  exact Z8 hz
theorem Zpf {L:Led} {m:Nat} {r:Int} (h:gI L.vars r≠0) (ho:¬1<=gI L.own r):WE m r L=none:=by
 rw [WE,Z8 h,KC,Z4 ho];rfl
theorem Z4h {L:Led} {m:Nat} {r:Int} (hz:XD ((YI L r).own.drop m) ((YI L r).tok.drop m)=false):WE m r L=none:=by
 rw [WE]
 by_cases h:gI L.vars r≠0
 ·rw [Z8 h,KC]
  have e:YI L r=Yi L r:=Z8 h
  rw [e] at hz
  split
  ·exact Z4 (by rw [hz];simp)
  ·rfl
 ·rw [Z4 h]
  have e:YI L r=L:=Z4 h
  rw [e] at hz
  exact Z4 (by rw [hz];simp)
theorem Z68 {os ts:List Int} {k:Nat} {o t:Int} {r:Bool} (h1:os[k]? = some o) (h2:ts[k]? = some t) (h:o≠0∨0<=t) (hr:XD (os.drop k) (ts.drop k)=r):r=false:=by
 rw [Zu h1,Zu h2,XD,Z8 h] at hr;exact hr.symm
theorem Z69 {os ts:List Int} {k:Nat} {o t:Int} {r:Bool} (h1:os[k]? = some o) (h2:ts[k]? = some t) (h:¬(o≠0∨0<=t)) (hr:XD (os.drop k) (ts.drop k)=r):XD (os.drop (k+1)) (ts.drop (k+1))=r:=by
 rw [Zu h1,Zu h2,XD,Z4 h] at hr;exact hr
theorem Zl4 {os ts:List Int} {k:Nat} {r:Bool} (h1:os.length<=k) (hr:XD (os.drop k) (ts.drop k)=r):r=true:=by
 rw [Ye h1] at hr;rw [<-hr];simp [XD]
end Go.Abs
namespace Go.Abs
def Z0g (o:List Int) (fs:List Int):List Int:=fs.foldl (fun o f=>o.set f.toNat (gI o f+1)) o
theorem Zn0 {p:Int} {xs own:List Int}:Z0g own (Y7 xs p)=VF own p xs:=(Z8q xs p own).symm
theorem Zn1 {fs o r:List Int} {k:Nat} {f x:Int} (h:fs[k]? = some f) (hx:gI o f=x) (hr:Z0g o (fs.drop k)=r):Z0g (o.set f.toNat (x+1)) (fs.drop (k+1))=r:=by
 rw [Zu h,Z0g,List.foldl_cons,hx] at hr;exact hr
theorem Zd9 {fs o r:List Int} {k:Nat} (h:fs.length<=k) (hr:Z0g o (fs.drop k)=r):o=r:=by
 rw [Ye h] at hr;exact hr
def T4 (n:Normal) (ln:List Int) (L:Led) (op v:Int):Option Led:=if op=14 then QJ L ln v else if op=15 then Vd L v else UC n.decls L op v
section
variable {n:Normal} {ln:List Int} {L:Led} {op v:Int} {am:List Arm} {a:Arm}
theorem Znl (h:op=14) (ha:¬YG L ln v=true):T4 n ln L op v=none:=by rw [T4,Z8 h,QJ,Z4 ha]
theorem Znm (h:op=14) (ha:YG L ln v=true) {x:Int} (hx:gI L.own v=x):T4 n ln L op v=some { L with own:=L.own.set v.toNat (x+1) }:=by rw [T4,Z8 h,QJ,Z8 ha,hx]
theorem Zno (h:op=15) (ht:1<=gI L.own v):T4 n ln L op v=some (Yi L v):=by rw [T4,Z4 om,Z8 h,KC,Z8 ht]
theorem Znn (h:op=15) (ht:¬1<=gI L.own v):T4 n ln L op v=none:=by rw [T4,Z4 om,Z8 h,KC,Z4 ht]
theorem Zdf (h1:¬op=14) (h2:¬op=15):T4 n ln L op v=UC n.decls L op v:=by rw [T4,Z4 h1,Z4 h2]
theorem Zi2 {ds:List Decl} (har:ArmR ds L am) (hv:0<=v/\v<L.vars.length) (ho:Wo am v=none):UC ds L op v=none:=by
 have:=har.off v hv.1 hv.2
 rw [ho] at this
 rw [UC,Z8 (.inl this)]
theorem Zvn {ds:List Decl} (har:ArmR ds L am) (hv:0<=v/\v<L.vars.length) (ho:Wo am v=some a) {xt:Int} (hxt:gI L.tok v=xt):UC ds L op v=if ¬1<=gI L.own v∨(op=17/\xt>=0) then none else
  some { Yi L v with own:=VF (Yi L v).own a.fst a.fds,tok:=if op=17 then L.tok.set v.toNat a.fds.length else L.tok }:=by
 have:=har.off v hv.1 hv.2
 rw [ho] at this
 obtain ⟨h1,h2,h3⟩:=this
 have hcon:¬gI L.con v<0:=by omega
 rw [UC,KC,hxt,<-h2,<-h3]
 by_cases ht:1<=gI L.own v
 ·rw [Z8 ht]
  by_cases h17:op=17/\xt>=0
  ·have c1:gI L.con v<0∨(op=17/\0<=xt):=.inr h17
   have c2:¬1<=gI L.own v∨(op=17/\xt>=0):=.inr h17
   rw [Z8 c1,Z8 c2]
  ·have c1:¬(gI L.con v<0∨(op=17/\0<=xt)):=fun q=>q.elim hcon h17
   have c2:¬(¬1<=gI L.own v∨(op=17/\xt>=0)):=fun q=>q.elim (fun z=>z ht) h17
   rw [Z4 c1,Z4 c2]
 ·rw [Z4 ht]
  have c2:¬1<=gI L.own v∨(op=17/\xt>=0):=.inl ht
  rw [Z8 c2]
  split<;>rfl
end
end Go.Abs
namespace Go.Abs
theorem Zoi {ds:List Decl} {L:Led} {q v:Int} (hk:LOk ds L q) (h1:1<=gI L.own v) (hv:0<=v/\v<L.vars.length):∀y∈(Yi L v).own,0<=y/\y<=q:=by
 intro y hy
 rcases Ty hy with hy|rfl
 ·exact ⟨hk.nn y hy,hk.bd y hy⟩
 ·obtain ⟨x,hx⟩:=Zl (xs:=L.own) (j:=v.toNat) (by have:=hk.len.own;omega)
  have hg:=XR hx
  have:=hk.bd x (ZV hx)
  omega
end Go.Abs
end
section
namespace Go.Abs
def Xa (n:Normal) (us:List Int) (op num:Int):List Int->Nat->List Int
 | [],_=>[]
 | a::r,i=>if Uv n us op num a i=true then (i:Int)::Xa n us op num r (i+1) else Xa n us op num r (i+1)
section
variable {n:Normal} {us:List Int} {op num:Int}
theorem Zvs {args acc r:List Int} {k:Nat} {a:Int} (h:args[k]? = some a) (hc:Uv n us op num a k=true) (hr:acc++Xa n us op num (args.drop k) k=r) :
  (acc++[(k:Int)])++Xa n us op num (args.drop (k+1)) (k+1)=r:=by
 rw [Zu h,Xa,Z8 hc] at hr;rw [Xs];exact hr
theorem Zi9 {args acc r:List Int} {k:Nat} {a:Int} (h:args[k]? = some a) (hc:¬Uv n us op num a k=true) (hr:acc++Xa n us op num (args.drop k) k=r) :
  acc++Xa n us op num (args.drop (k+1)) (k+1)=r:=by
 rw [Zu h,Xa,Z4 hc] at hr;exact hr
theorem Zvr {args acc r:List Int} {k:Nat} (h:args.length<=k) (hr:acc++Xa n us op num (args.drop k) k=r):acc=r:=by
 rw [Ye h,Xa,Qg] at hr;exact hr
theorem Z9s (h:¬VW op=true):∀(args:List Int) (i:Nat),Xa n us op num args i=[]
 | [],_=>rfl
 | a::r,i=>by
  have hb:VW op=false:=by simpa using h
  rw [Xa,Z4 (by rw [Uv,hb];simp)];exact Z9s h r (i+1)
theorem Z9r:∀{args:List Int} {i:Nat} {p:Int},p∈Xa n us op num args i->(i:Int)<=p/\p<i+args.length
 | [],_,_,h=>by simp [Xa] at h
 | a::r,i,p,h=>by
  rw [Xa] at h
  simp only [Y5]
  split at h
  ·rcases ZM.1 h with rfl|h
   ·omega
   ·have:=Z9r h;omega
  ·have:=Z9r h;omega
theorem Zi8:∀(args:List Int) (i:Nat),(Xa n us op num args i).length<=args.length
 | [],_=>by simp [Xa]
 | a::r,i=>by
  have:=Zi8 r (i+1)
  rw [Xa];split<;>simp<;>omega
theorem Zgz (h:¬VW op=true) (i:Nat):¬W4 n op num i=true:=by
 have:op≠9:=fun q=>h (by rw [q];rfl)
 rw [W4,JW,Z4 this];simp
def KJ (n:Normal) (op num:Int) (args:List Int) (k:Nat) (ls:List Int):Prop:=∀x,x∈ls↔∃i,i<k/\args[i]? = some x/\W4 n op num i=true
theorem Zgx {args ls:List Int} {k:Nat} (h:KJ n op num args k ls) (hl:¬W4 n op num k=true):KJ n op num args (k+1) ls:=by
 intro x;rw [h x]
 constructor
 ·rintro ⟨i,q1,q2⟩;exact ⟨i,by omega,q2⟩
 ·rintro ⟨i,q1,q2,q3⟩
  rcases Jv i k with q|q
  ·exact ⟨i,q,q2,q3⟩
  ·have:i=k:=by omega
   subst this;exact absurd q3 hl
theorem Zty {args ls ls2:List Int} {k:Nat} {a:Int} (ha:args[k]? = some a) (h:KJ n op num args k ls) (hl:W4 n op num k=true) (h2:∀x,x∈ls2↔x∈ls∨x=a):KJ n op num args (k+1) ls2:=by
 intro x;rw [h2 x,h x]
 constructor
 ·rintro (⟨i,q1,q2⟩|rfl)
  ·exact ⟨i,by omega,q2⟩
  ·exact ⟨k,by omega,ha,hl⟩
 ·rintro ⟨i,q1,q2,q3⟩
  rcases Jv i k with q|q
  ·exact .inl ⟨i,q,q2,q3⟩
  ·have:i=k:=by omega
   subst this;rw [ha] at q2;exact .inr (U6 q2).symm
theorem Zu0 {args:List Int}:KJ n op num args 0 []:=by intro x;simp
theorem Ztz {args ls:List Int} {k:Nat} (h:KJ n op num args k ls) (hk:args.length<=k):∀x,x∈ls↔∃i,args[i]? = some x/\W4 n op num i=true:=by
 intro x;rw [h x]
 constructor
 ·rintro ⟨i,_,q⟩;exact ⟨i,q⟩
 ·rintro ⟨i,q⟩;exact ⟨i,by have:=(Yg.1 q.1).1;omega,q⟩
end
def Tc (args:List Int):List Int->Led->Option Led
 | [],L=>some L
 | k::r,L=>match Vd L (gI args k) with
  | none=>none
  | some L1=>Tc args r L1
theorem Z3c {n:Normal} {op num:Int} {all:List Int}:∀{args:List Int} {i:Nat} {L:Led},all.drop i=args->Uz n op num args i L=Tc all (Xa n L.vars op num args i) L
 | [],i,L,_=>rfl
 | a::r,i,L,h=>by
  have hr:all.drop (i+1)=r:=by rw [<-List.drop_drop,h];rfl
  have ha:gI all (i:Int)=a:=by
   have:(all.drop i)[0]? = some a:=by rw [h];rfl
   rw [Z1n] at this
   exact XR (by simpa using this)
  rw [Uz,Xa]
  split
  ·rw [Tc,ha]
   cases ht:Vd L a with
   | none=>rfl
   | some L1=>
    simp only
    rw [Z3c hr,(Tb ht).2.1]
  ·exact Z3c hr
theorem Y02 {args ps:List Int} {k:Nat} {L:Led} {p x:Int} {r:Option Led} (h:ps[k]? = some p) (hx:gI args p=x) (ht:1<=gI L.own x) (hr:Tc args (ps.drop k) L=r):Tc args (ps.drop (k+1)) (Yi L x)=r:=by
 rw [Zu h,Tc,hx,KC,Z8 ht] at hr;exact hr
theorem Y03 {args ps:List Int} {k:Nat} {L:Led} {p x:Int} {r:Option Led} (h:ps[k]? = some p) (hx:gI args p=x) (ht:¬1<=gI L.own x) (hr:Tc args (ps.drop k) L=r):r=none:=by
 rw [Zu h,Tc,hx,KC,Z4 ht] at hr;exact hr.symm
theorem Y01 {args ps:List Int} {k:Nat} {L:Led} {r:Option Led} (h:ps.length<=k) (hr:Tc args (ps.drop k) L=r):r=some L:=by
 rw [Ye h,Tc] at hr;exact hr.symm
theorem Z4q {n:Normal} {op num:Int} {ln:List Int} {L:Led} {all:List Int}:∀{args:List Int} {i:Nat},all.drop i=args ->
  (TY n op num ln L args i=true↔∀j x,i<=j->all[j]? = some x->W4 n op num j=true->YG L ln x=true)
 | [],i,h=>by
  simp only [TY,true_iff]
  intro j x hj hx _
  have:=(Yg.1 hx).1
  have hl:=Y1 List.length h
  simp at hl;omega
 | a::r,i,h=>by
  have hr:all.drop (i+1)=r:=by rw [<-List.drop_drop,h];rfl
  have ha:all[i]? = some a:=by
   have:(all.drop i)[0]? = some a:=by rw [h];rfl
   rw [Z1n] at this;simpa using this
  rw [TY]
  split
  ·rename_i q
   simp only [Bool.false_eq_true,false_iff]
   exact fun z=>q.2 (z i a (Yp _) ha q.1)
  ·rename_i q
   rw [Z4q hr]
   constructor
   ·intro z j x hj hx hl
    rcases Jv i j with hij|hij
    ·exact z j x hij hx hl
    ·have:j=i:=by omega
     subst this;rw [ha] at hx;cases hx
     exact XE.1 fun y=>q ⟨hl,y⟩
   ·exact fun z j x hj=>z j x om
theorem Zfn {n:Normal} {ln:List Int} {L L1:Led} {op num into:Int} {args ls:List Int} (h1:Tc args (Xa n L.vars op num args 0) L=some L1) (hl:∀x,x∈ls↔∃i,args[i]? = some x/\W4 n op num i=true) :
  ((∀x∈ls,YG L1 ln x=true)->Vj n ln L op num into args=TZ L1 into args.length)/\((∃x∈ls,¬YG L1 ln x=true)->Vj n ln L op num into args=none):=by
 rw [Vj,Z3c (all:=args) (args:=args) (i:=0) rfl,h1]
 simp only
 constructor
 ·intro h
  rw [Z8 ((Z4q (all:=args) (args:=args) (i:=0) rfl).2 fun j x _ hx hj=>h x ((hl x).2 ⟨j,hx,hj⟩))]
 ·rintro ⟨x,hx,hd⟩
  rw [Z4]
  intro z
  obtain ⟨j,q1,q2⟩:=(hl x).1 hx
  exact hd ((Z4q (all:=args) (args:=args) (i:=0) rfl).1 z j x (Tj _) q1 q2)
theorem Zqr {n:Normal} {ln:List Int} {L:Led} {op num into:Int} {args:List Int} (h1:Tc args (Xa n L.vars op num args 0) L=none):Vj n ln L op num into args=none:=by
 rw [Vj,Z3c (all:=args) (args:=args) (i:=0) rfl,h1]
end Go.Abs
namespace Go.Abs
theorem Zxb {n:Normal} (hn:NOk n) (num:Int):(W6 n num).lnt.length<=4194304:=by
 rw [W6,VC]
 cases h:n.routines[num.toNat]? with
 | none=>simp
 | some r=>exact hn.lent r (ZV h)
theorem Ztx {n:Normal} {op num:Int} {k:Nat}:W4 n op num k=true↔(op=9/\(k:Int)∈(W6 n num).lnt):=by
 rw [W4,JW,decide_eq_true_iff]
 by_cases h:op=9
 ·rw [Z8 h,W6,VC]
  cases n.routines[num.toNat]? with
  | none=>simp
  | some r=>simp [h,Yo]
 ·rw [Z4 h];simp [h]
end Go.Abs
namespace Go.Abs
theorem clS {xs:List Int} {p:List Int->Prop}:Z1t fun r h=>∃(vp vl:Value) (ls:List Int),r=.tup [Zb xs vp,Zb ls vl]/\h=[.tail vp 1,.tail vl 1]/\p ls:=by
 rintro _ _ ⟨vp,vl,ls,rfl,rfl,_⟩
 refine ⟨.tup fun y hy=>?_,by simp [Jy]⟩
 simp only [ZM,List.not_mem_nil,or_false] at hy
 rcases hy with rfl|rfl
 ·exact .own (k:=1) (Z66 _) (by simp)
 ·exact .own (k:=1) (Z66 _) (by simp)
end Go.Abs
end
section
namespace Go.Abs
section
variable {n:Normal} {ln:List Int}
theorem Zqs {L L':Led} {op num into q:Int} {args:List Int} {ds:List Decl} (hk:LOk ds L q) (h:Vj n ln L op num into args=some L'):L'.vars=L.vars/\L'.par=L.par/\L'.con=L.con/\L'.fst=L.fst:=by
 rw [Vj] at h
 cases ht:Uz n op num args 0 L with
 | none=>rw [ht] at h;cases h
 | some L1=>
  rw [ht] at h
  obtain ⟨_,h1,h2,h3,h4,_⟩:=Z4r hk ht
  simp only at h
  split at h
  ·rw [TZ] at h
   split at h
   ·split at h
    ·cases h
    ·cases h;exact ⟨h1,h2,h3,h4⟩
   ·cases h;exact ⟨h1,h2,h3,h4⟩
  ·cases h
theorem Zi7 {L L1:Led} {s:Step} {q:Int} {ds:List Decl} (hk:LOk ds L q) (h:UD n ln L s.op s.num s.into s.args (Ud n ln L s.op s.num s.args s.kids)=some L1):L1.vars=L.vars/\L1.par=L.par/\L1.con=L.con/\L1.fst=L.fst:=by
 rw [UD] at h
 split at h
 ·obtain ⟨h1,h2,h3,h4,_⟩:=Z7n h;exact ⟨h1,h2,h3,h4⟩
 split at h
 ·obtain ⟨_,h1,h2,h3,h4,_⟩:=Tb h;exact ⟨h1,h2,h3,h4⟩
 split at h
 ·obtain ⟨h1,h2,h3,h4,_⟩:=Z9m h;exact ⟨h1,h2,h3,h4⟩
 split at h
 ·split at h
  ·cases h
  ·cases hks:s.kids with
   | nil=>rw [hks,Ud] at h;cases h
   | cons b bs=>
    rw [hks,Ud] at h
    unfold Kx at h
    cases hb:Xv n ln (Xr n.decls L s.op s.num s.args 0) L.vars.length b with
    | none=>rw [hb] at h;cases h
    | some one=>
     rw [hb] at h
     simp only at h
     split at h
     ·cases h;exact ⟨rfl,rfl,rfl,rfl⟩
     ·cases h
 ·exact Zqs hk h
theorem Zb2 (hn:NOk n) {s:Step} {L L':Led} {q:Int} {am:List Arm} (hk:LOk n.decls L q) (hq:0<=q) (hty:0<=Zp n L.vars s) (h:Vc n ln L s=some L') (ha:ArmR n.decls L am):ArmR n.decls L' am:=by
 rw [Z5w] at h
 cases hp:UD n ln L s.op s.num s.into s.args (Ud n ln L s.op s.num s.args s.kids) with
 | none=>rw [hp] at h;cases h
 | some L1=>
  rw [hp] at h
  obtain ⟨h1,h2,h3,h4⟩:=Zi7 hk hp
  have hk1:=(J8 hn hk hq (TG hty) hp).1
  have ha1:ArmR n.decls L1 am:=ha.same (by rw [h1]) h2 h3 h4
  rw [Ts] at h
  split at h
  ·cases h;exact ha1.grow hk1.len
  ·cases h;exact ha1
theorem Z5z (hn:NOk n) {am:List Arm}:∀{xs:List Step} {L L':Led} {q:Int} {vs:List Int},LOk n.decls L q->0<=q->ArmR n.decls L am->X7 n xs L.vars=some vs->Xz n ln L xs=some L' ->
  LOk n.decls L' (q+4*ZR xs)/\L'.vars=vs/\ArmR n.decls L' am
 | [],L,L',q,vs,hk,hq,ha,ht,h=>by
  rw [Xz] at h;rw [X7] at ht;cases h;cases ht
  exact ⟨by simpa [ZR] using hk,rfl,ha⟩
 | s::r,L,L',q,vs,hk,hq,ha,ht,h=>by
  rw [Xz] at h
  cases hs:Vc n ln L s with
  | none=>rw [hs] at h;cases h
  | some L1=>
   rw [hs] at h
   obtain ⟨g1,g2⟩:=KA ht
   obtain ⟨k1,k2⟩:=Z5x hn hk hq g1 hs
   have:=Z5z hn (xs:=r) k1 (by have:=s.sz_pos;omega) (Zb2 hn hk hq g1 hs ha) (by rw [k2];exact g2) h
   refine ⟨?_,this.2⟩
   rw [show q+4*ZR (s::r)=q+4*s.sz+4*ZR r by rw [ZR];omega]
   exact this.1
end
end Go.Abs
namespace Go.Abs
def Jz (n:Normal):Prop:=∀r∈n.routines,∀i:Nat,(i:Int)∈r.lent->∃t,r.params[i]? = some t/\t≠0
theorem Zgw {ps:List Int}:∀{ls:List Int} {prev:Option Int},UR ps ls prev=true->∀v∈ls,(0<=v/\v<=(ps.length:Int)-1)/\ps[v.toNat]?≠some 0
 | [],_,_,v,h=>by cases h
 | x::r,prev,h,v,hv=>by
  rw [UR] at h
  split at h
  ·rename_i q
   rcases ZM.1 hv with rfl|hv
   ·exact ⟨q.1,q.2.1⟩
   ·exact Zgw h v hv
  ·cases h
theorem Zh0:∀{rs:List Routine},Q1 rs=true->∀r∈rs,TH r.params r.lent=true
 | [],_,r,h=>by cases h
 | x::rs,h,r,hr=>by
  rw [Q1] at h
  split at h
  ·rcases ZM.1 hr with rfl|hr
   ·assumption
   ·exact Zh0 h r hr
  ·cases h
theorem Zux {n:Normal} (h:XF n=true):Jz n:=by
 simp only [XF,UW,YN,decide_eq_true_eq] at h
 obtain ⟨_,_,h6⟩:=h
 intro r hr i hi
 obtain ⟨h1,h2⟩:=Zgw (Zh0 h6 r hr) i hi
 obtain ⟨t,ht⟩:=Zl (xs:=r.params) (j:=i) om
 refine ⟨t,ht,fun q=>h2 ?_⟩
 rw [Te,ht,q]
theorem Z65 {us:List Int}:∀{args tys:List Int} {i:Nat} {a t:Int},VB us args tys=true->args[i]? = some a->tys[i]? = some t->Yq us a=some t
 | [],_,i,a,t,_,h,_=>by simp at h
 | x::r,[],i,a,t,_,_,h=>by simp at h
 | x::r,y::ys,i,a,t,h,ha,ht=>by
  rw [VB] at h
  split at h
  ·rename_i hq
   cases i with
   | zero=>simp at ha ht;subst ha;subst ht;exact hq
   | succ i=>exact Z65 h (by simpa using ha) (by simpa using ht)
  ·cases h
theorem Zu1 {n:Normal} (hl:Jz n) {us:List Int} {s:Step} (h:0<=Zp n us s):∀(i:Nat) (a:Int),s.args[i]? = some a->W4 n s.op s.num i=true->gI us a≠0:=by
 intro i a ha hla
 rw [W4,JW,decide_eq_true_iff] at hla
 by_cases h9:s.op=9
 ·rw [Z8 h9] at hla
  have hn:=(TG h).num h9
  obtain ⟨r,hr⟩:=Zl (xs:=n.routines) (j:=s.num.toNat) om
  rw [hr] at hla
  obtain ⟨t,ht,h0⟩:=hl r (ZV hr) i hla
  rw [Qd] at h
  split at h
  ·omega
  rw [Z4 om,Z4 om,Z4 om,Z4 om,Z4 om,Z4 om,Z8 (.inl h9),UE,Ut om hr] at h
  simp only [TA] at h
  rw [Z8 h9] at h
  split at h
  ·rename_i hty
   rw [YM] at hty
   have hq:Yq us a=some t:=by
    first
    | exact Z65 hty ha ht
    | exact Z65 (Bool.and_eq_true_iff.1 hty).2 ha ht
    | exact Z65 (Bool.and_eq_true_iff.1 hty).1 ha ht
   rw [XR (Tn hq).2];exact h0
  ·omega
 ·rw [Z4 h9] at hla;cases hla
end Go.Abs
namespace Go.Abs
theorem Zx4 {n:Normal} {us:List Int} {s:Step} (h:∀t∈us,0<=t) (h0:0<=Zp n us s):∀t∈Um n us s,0<=t:=by
 rw [Um];split
 ·exact Z2r h fun t ht=>by rw [ZW.1 ht];exact h0
 ·exact h
end Go.Abs
namespace Go.Abs
theorem clT {c:Bool} {ok:Int->Prop}:Z1t fun r h=>∃t:Int,r=.tup [.i t,.b c]/\h=[]/\ok t:=by
 rintro _ _ ⟨t,rfl,rfl,_⟩
 refine ⟨.tup fun y hy=>?_,by simp⟩
 simp only [ZM,List.not_mem_nil,or_false] at hy
 rcases hy with rfl|rfl<;>exact .val
section
variable {n:Normal} {ln:List Int} {L:Led} {s:Step}
theorem Zq3 {op t:Int} {r:Option Led} (h:¬Yl op=true):Ts L op t r=r:=by
 cases r with
 | none=>rfl
 | some X=>exact Z4 h
theorem Zkf {x:Int} (hc:Y2 s.op=true) (hx:gI s.args 0=x):Vc n ln L s=T4 n ln L s.op x:=by
 have hop:14<=s.op/\s.op<=17:=by simpa [Y2] using hc
 have hd:¬Yl s.op=true:=by rw [Yl];simp;omega
 rw [WU,Zq3 hd,T4]
 by_cases h14:s.op=14
 ·rw [Z8 h14];exact Z9o h14 hx
 rw [Z4 h14]
 by_cases h15:s.op=15
 ·rw [Z8 h15];exact Z9p h15 hx
 rw [Z4 h15]
 exact Z5g om hx
theorem Zb3 {L1:Led} {t:Int} (hP:US n ln L s=some L1) (h0:0<=Zp n L.vars s) (hnc:¬Y2 s.op=true) (ht:t=Zp n L.vars s):Vc n ln L s=some (L1.grow t (min t 1) (-1)):=by
 have hd:Yl s.op=true:=by rw [KR h0];simpa using hnc
 rw [WU,hP]
 show (if Yl s.op=true then _ else _)=_
 rw [Z8 hd,ht,show (if Zp n L.vars s≠0 then (1:Int) else 0)=min (Zp n L.vars s) 1 by split<;>omega]
theorem Zkg (hP:US n ln L s=none):Vc n ln L s=none:=by rw [WU,hP];rfl
theorem Z9q (h1:¬Y2 s.op=true) (h2:¬(s.op=7∨s.op=8)):US n ln L s=Vj n ln L s.op s.num s.into s.args:=by
 have hop:¬(14<=s.op/\s.op<=17):=by simpa [Y2] using h1
 rw [US,UD,Z4 om,Z4 om,Z4 om,Z4 h2]
theorem Zvq (h1:¬Y2 s.op=true) (h2:¬(s.op=7∨s.op=8)) (h3:¬VW s.op=true) (h0:0<=Zp n L.vars s):US n ln L s=some L:=by
 rw [Z9q h1 h2,Vj,Z3c (all:=s.args) (args:=s.args) (i:=0) rfl,Z9s h3]
 show (if TY n s.op s.num ln L s.args 0=true then TZ L s.into s.args.length else none)=some L
 rw [Z8 ((Z4q (all:=s.args) (args:=s.args) (i:=0) rfl).2 fun j x _ _ hl=>absurd hl (Zgz h3 j)),TZ]
 have hi:¬0<s.into:=by
  intro hi
  rw [Qd] at h0
  split at h0
  ·omega
  ·rename_i hq
   have hv:Wl L.vars s.op s.into=true:=XE.1 fun z=>hq (.inr (.inl z))
   rw [Wl,Z4 om] at hv
   split at hv
   ·rename_i h6;exact h3 (by rw [h6];rfl)
   ·cases hv
 rw [Z4 hi]
end
end Go.Abs
namespace Go.Abs
def V6 (L:Led) (am:List Arm) (s:Step) (m:List Int):List Arm:=if s.op=8 then am++[⟨gI s.args 0,(L.vars.length:Nat),m,false⟩] else am
def Qb (n:Normal) (L:Led) (s:Step) (k:Nat):Led:=if s.op=8 then { L with con:=L.con.set (gI s.args 0).toNat (gI (Zt n.decls s.num) k),fst:=L.fst.set (gI s.args 0).toNat L.vars.length } else L
theorem Jk {n:Normal} {L:Led} {s:Step} {k:Nat}:(Qb n L s k).vars=L.vars:=by rw [Qb];split<;>rfl
theorem Z1d {n:Normal} {L:Led} {s:Step} {k:Nat}:(Qb n L s k).own=L.own:=by rw [Qb];split<;>rfl
theorem Z1e {n:Normal} {L:Led} {s:Step} {k:Nat}:(Qb n L s k).tok=L.tok:=by rw [Qb];split<;>rfl
theorem Zkd {n:Normal} {L:Led} {s:Step} {k:Nat} (h:LLen L):LLen (Qb n L s k):=by rw [Qb];split;exact h.arm;exact h
theorem Zkc {n:Normal} {L:Led} {s:Step} {k:Nat} {m:List Int} (hop:s.op=7∨s.op=8) (hm:(Zy n.decls s.op s.num)[k]? = some m):TW (Qb n L s k) (gI s.args 0) m=Xr n.decls L s.op s.num s.args k:=by
 rw [Qb,Xr]
 by_cases h8:s.op=8
 ·rw [Z8 h8,Z8 h8]
  obtain ⟨c,hc,rfl⟩:=Z71 h8 hm
  have hgc:gI (Zt n.decls s.num) (k:Int)=c:=by rw [gI];simp [hc]
  rw [TS,hgc]
 ·rw [Z4 h8,Z4 h8]
  rw [Zy,Z8 om] at hm
  have:m=[]:=by
   match k,hm with
   | 0,hm=>simpa using hm.symm
   | 1,hm=>simpa using hm.symm
   | k+2,hm=>simp at hm
  rw [this];rfl
theorem Z72 {n:Normal} {L:Led} {am:List Arm} {s:Step} {k:Nat} {m:List Int} (hn:NOk n) (ha:ArmR n.decls L am) (hl:LLen L) (hop:s.op=7∨s.op=8) (hx:0<=gI s.args 0/\gI s.args 0<L.vars.length) (hm:(Zy n.decls s.op s.num)[k]? = some m) :
  ArmR n.decls (Xr n.decls L s.op s.num s.args k) (V6 L am s m):=by
 rw [V6,Xr]
 by_cases h8:s.op=8
 ·rw [Z8 h8,Z8 h8]
  obtain ⟨c,hc,rfl⟩:=Z71 h8 hm
  have hgc:gI (Zt n.decls s.num) (k:Int)=c:=by rw [gI];simp [hc]
  rw [hgc]
  exact ha.arm hl hx (Zdh hn.decls hc).1
 ·rw [Z4 h8,Z4 h8];exact ha
end Go.Abs
namespace Go.Abs
theorem Z34 {n:Normal}:∀{xs:List Step} {us vs:List Int},X7 n xs us=some vs->us.length<=vs.length/\vs.length<=us.length+ZR xs
 | [],us,vs,h=>by rw [X7] at h;cases h;simp [ZR]
 | s::r,us,vs,h=>by
  obtain ⟨_,g2⟩:=KA h
  have:=Z34 g2
  have h2:=Jc n us s
  rw [ZR];omega
theorem Zcs {L:Led} {am:List Arm} {s:Step} {m:List Int}:(V6 L am s m).length<=am.length+1:=by rw [V6];split<;>simp
theorem Zct {n:Normal} (hty:NTy n) {op num:Int} {k:Nat} {m:List Int} (h:(Zy n.decls op num)[k]? = some m):∀f∈m,0<=f:=by
 by_cases h7:op=7
 ·rw [Zy,Z8 h7] at h
  have:m=[]:=by
   match k,h with
   | 0,h=>simpa using h.symm
   | 1,h=>simpa using h.symm
   | k+2,h=>simp at h
  rw [this];intro f hf;cases hf
 ·rw [Zy,Z4 h7,VC] at h
  cases hc:(Zt n.decls num)[k]? with
  | none=>rw [hc] at h;cases h
  | some c=>rw [hc] at h;cases h;exact hty.fields c
theorem Z4g {L:Led} {r:Int}:(YI L r).own.length=L.own.length/\(YI L r).tok.length=L.tok.length/\(YI L r).vars=L.vars:=by
 rw [YI];split
 ·exact ⟨VD,rfl,rfl⟩
 ·exact ⟨rfl,rfl,rfl⟩
end Go.Abs
namespace Go.Abs
theorem Z61 {L M:Led} {n:Normal} {ln:List Int} {xs:List Step} {f:Led->Option Led} (h:Xz n ln L xs=some M):Z1f (Xz n ln L xs) f=f M:=by rw [h];rfl
end Go.Abs
end
section
namespace Go.Abs
theorem Zl3:∀{os ts:List Int} {m:Nat},os.length=ts.length->(XD os ts=true↔XD (os.take m) (ts.take m)=true/\XD (os.drop m) (ts.drop m)=true)
 | [],[],m,_=>by simp [XD]
 | [],_::_,_,h=>by simp at h
 | _::_,[],_,h=>by simp at h
 | o::os,t::ts,0,h=>by simp [XD]
 | o::os,t::ts,m+1,h=>by
  simp only [Z3n,List.drop_succ_cons]
  rw [XD,XD]
  split
  ·simp
  ·exact Zl3 (by simpa using h)
theorem Zin {n:Normal} {r:Routine} {M:Led} (hP:Xz n r.lent (XM r) r.body.steps=some M) (hl:M.own.length=M.tok.length):VU n r=(WE 0 r.body.result M).isSome:=by
 rw [VU,To,hP]
 show (match WE r.params.length r.body.result M with|none=>false|some L=>(V7 L 0).isSome)=_
 rw [WE,WE]
 cases hT:(if gI M.vars r.body.result≠0 then Vd M r.body.result else some M) with
 | none=>rfl
 | some M2=>
  have h2:M2.own.length=M2.tok.length:=by
   split at hT
   ·have:=Tb hT;rw [this.2.2.2.2.2.1,this.2.2.2.2.2.2,VD];exact hl
   ·cases hT;exact hl
  show (match V7 M2 r.params.length with|none=>false|some L=>(V7 L 0).isSome)=(V7 M2 0).isSome
  have key:=Zl3 (m:=r.params.length) h2
  rw [V7,V7]
  by_cases h1:XD (M2.own.drop r.params.length) (M2.tok.drop r.params.length)=true
  ·rw [Z8 h1]
   show (V7 (M2.take r.params.length) 0).isSome=_
   rw [V7]
   by_cases h3:XD (M2.own.take r.params.length) (M2.tok.take r.params.length)=true
   ·rw [Z8 (show XD ((M2.take r.params.length).own.drop 0) ((M2.take r.params.length).tok.drop 0)=true from h3),Z8 (show XD (M2.own.drop 0) (M2.tok.drop 0)=true from key.2 ⟨h3,h1⟩)];rfl
   ·rw [Z4 (show ¬XD ((M2.take r.params.length).own.drop 0) ((M2.take r.params.length).tok.drop 0)=true from h3),Z4 (show ¬XD (M2.own.drop 0) (M2.tok.drop 0)=true from fun z=>h3 (key.1 z).1)]
  ·rw [Z4 h1,Z4 (show ¬XD (M2.own.drop 0) (M2.tok.drop 0)=true from fun z=>h1 (key.1 z).2)];rfl
theorem Zwc {n:Normal} {r:Routine} (hP:Xz n r.lent (XM r) r.body.steps=none):VU n r=false:=by rw [VU,To,hP];rfl
end Go.Abs
namespace Go.Abs
theorem Za8 {xs:List Int} {k:Nat} {a b:Int} (h:xs.length=k):(xs++[a]).set k b=xs++[b]:=by subst h;simp
end Go.Abs
namespace Go.Abs
theorem Zmc {ds:List Decl}:ArmR ds ⟨[],[],[],[],[],[]⟩ []:=⟨fun a ha=>(nomatch ha),fun a ha=>(nomatch ha),fun v h0 h1=>(by have h2:v<((0:Nat):Int):=h1;omega),fun v h0 h1=>(by have h2:v<((0:Nat):Int):=h1;omega)⟩
theorem Zi5 {ds:List Decl} {lent:List Int}:∀{ps:List Int} {i:Nat} {L:Led},LLen L->ArmR ds L []->ArmR ds (U3 lent ps i L) []
 | [],_,_,_,h=>h
 | t::r,i,L,hl,h=>by rw [U3];exact Zi5 hl.grow (h.grow hl)
theorem Z9f {ds:List Decl} (rt:Routine):ArmR ds (XM rt) []:=Zi5 ⟨rfl,rfl,rfl,rfl,rfl⟩ Zmc
end Go.Abs
end
section
namespace Go.Abs
def Zo (c:Nat) (left:Int):Int:=if left<c then -1 else left-c
theorem Z35 {a b:Nat} {left:Int} (h:0<=Zo a left):Zo b (Zo a left)=Zo (a+b) left:=by
 rw [Zo] at h ⊢
 unfold Zo at *
 split at h
 ·omega
 ·rename_i q;rw [Z4 q];split<;>split<;>omega
theorem Z39 {a b:Nat} {left:Int} (h:Zo a left<0):Zo (a+b) left=-1:=by
 unfold Zo at *
 split at h
 ·rw [Z8 om]
 ·omega
theorem Zzs {left:Int} (h:0<=left):Zo 0 left=left:=by unfold Zo;rw [Z4 om];omega
theorem KB {c:Nat} {left:Int} (h:0<=left):-1<=Zo c left/\Zo c left<=left:=by unfold Zo;split<;>omega
def Vr (c:Con):Nat:=c.fields.length
def U9:List Con->Nat
 | []=>0
 | c::r=>Vr c+U9 r
def WC (l:List Con):Nat:=l.length+U9 l
def Wn (d:Decl):Nat:=WC d.cons
def Uh:List Decl->Nat
 | []=>0
 | d::r=>Wn d+Uh r
def X1 (l:List Decl):Nat:=l.length+Uh l
end Go.Abs
namespace Go.Abs
theorem Z3a {a b c:Nat} {left lf:Int} {r:Int} (hs:c=a+b) (h:¬Zo a lf<0) (hr:Zo c lf=r):Zo b (Zo a lf)=r:=by
 rw [Z35 om,<-hs];exact hr
theorem Z36 {a b c:Nat} {lf r:Int} (hs:c=a+b) (h:Zo a lf<0) (hr:Zo c lf=r):-1=r:=by rw [hs,Z39 h] at hr;exact hr
theorem Z37 {c:Nat} {lf r:Int} (hc:c=0) (h0:0<=lf) (hr:Zo c lf=r):lf=r:=by rw [hc,Zzs h0] at hr;exact hr
theorem Z38 {n s:Nat} {left:Int} (h:¬left-(n:Int)<0):Zo s (left-(n:Int))=Zo (n+s) left:=by
 have:Zo n left=left-n:=by unfold Zo;rw [Z4 om]
 rw [<-this,Z35 (by rw [this];omega)]
theorem Z3b {n s:Nat} {left:Int} (h:left-(n:Int)<0):-1=Zo (n+s) left:=by unfold Zo;rw [Z8 om]
theorem Zdj {cs:List Con} {k:Nat} {c:Con} (h:cs[k]? = some c):U9 (cs.drop k)=Vr c+U9 (cs.drop (k+1)):=by rw [Zu h,U9]
theorem Zny {cs:List Con} {k:Nat} (h:cs.length<=k):U9 (cs.drop k)=0:=by rw [Ye h,U9]
theorem Z42 {cs:List Con} {k:Nat} {c:Con} (h:cs[k]? = some c):Vr c<=U9 cs:=by
 induction cs generalizing k with
 | nil=>simp at h
 | cons d r ih=>
  cases k with
  | zero=>simp at h;subst h;rw [U9];omega
  | succ k=>have:=ih (k:=k) (by simpa using h);rw [U9];omega
theorem Zdn {cs:List Decl} {k:Nat} {c:Decl} (h:cs[k]? = some c):Uh (cs.drop k)=Wn c+Uh (cs.drop (k+1)):=by rw [Zu h,Uh]
theorem Zon {cs:List Decl} {k:Nat} (h:cs.length<=k):Uh (cs.drop k)=0:=by rw [Ye h,Uh]
theorem Z47 {cs:List Decl} {k:Nat} {c:Decl} (h:cs[k]? = some c):Wn c<=Uh cs:=by
 induction cs generalizing k with
 | nil=>simp at h
 | cons d r ih=>
  cases k with
  | zero=>simp at h;subst h;rw [Uh];omega
  | succ k=>have:=ih (k:=k) (by simpa using h);rw [Uh];omega
end Go.Abs
namespace Go.Abs
mutual
def Step.cst:Step->Nat
 | .mk _ _ _ args kids=>args.length+(kids.length+Vq kids)
def Block.cst:Block->Nat
 | .mk steps _=>steps.length+Vz steps
def Vz:List Step->Nat
 | []=>0
 | s::r=>s.cst+Vz r
def Vq:List Block->Nat
 | []=>0
 | b::r=>b.cst+Vq r
end
theorem Step.cst_eq (s:Step):s.cst=s.args.length+(s.kids.length+Vq s.kids):=by cases s;rw [Step.cst];rfl
theorem Block.cst_eq (b:Block):b.cst=b.steps.length+Vz b.steps:=by cases b;rw [Block.cst];rfl
def Wt (l:List Block):Nat:=l.length+Vq l
def WT (l:List Step):Nat:=l.length+Vz l
theorem Zd0 {cs:List Block} {k:Nat} {c:Block} (h:cs[k]? = some c):Vq (cs.drop k)=c.cst+Vq (cs.drop (k+1)):=by rw [Zu h,Vq]
theorem Zmw {cs:List Block} {k:Nat} (h:cs.length<=k):Vq (cs.drop k)=0:=by rw [Ye h,Vq]
theorem Zj4 {cs:List Step} {k:Nat} {c:Step} (h:cs[k]? = some c):Vz (cs.drop k)=c.cst+Vz (cs.drop (k+1)):=by rw [Zu h,Vz]
theorem Zx5 {cs:List Step} {k:Nat} (h:cs.length<=k):Vz (cs.drop k)=0:=by rw [Ye h,Vz]
theorem Z77 {cs:List Block} {k:Nat} {c:Block} (h:cs[k]? = some c):c.cst<=Vq cs:=by
 induction cs generalizing k with
 | nil=>simp at h
 | cons d r ih=>
  cases k with
  | zero=>simp at h;subst h;rw [Vq];omega
  | succ k=>have:=ih (k:=k) (by simpa using h);rw [Vq];omega
theorem Za7 {cs:List Step} {k:Nat} {c:Step} (h:cs[k]? = some c):c.cst<=Vz cs:=by
 induction cs generalizing k with
 | nil=>simp at h
 | cons d r ih=>
  cases k with
  | zero=>simp at h;subst h;rw [Vz];omega
  | succ k=>have:=ih (k:=k) (by simpa using h);rw [Vz];omega
end Go.Abs
namespace Go.Abs
def Wy (r:Routine):Nat:=r.params.length+(r.lent.length+r.body.cst)
def Ta:List Routine->Nat
 | []=>0
 | r::rs=>Wy r+Ta rs
def Wq (l:List Routine):Nat:=l.length+Ta l
def W5 (n:Normal):Nat:=X1 n.decls+Wq n.routines
theorem Ziu {cs:List Routine} {k:Nat} {c:Routine} (h:cs[k]? = some c):Ta (cs.drop k)=Wy c+Ta (cs.drop (k+1)):=by rw [Zu h,Ta]
theorem Zwu {cs:List Routine} {k:Nat} (h:cs.length<=k):Ta (cs.drop k)=0:=by rw [Ye h,Ta]
theorem Z5l {cs:List Routine} {k:Nat} {c:Routine} (h:cs[k]? = some c):Wy c<=Ta cs:=by
 induction cs generalizing k with
 | nil=>simp at h
 | cons d r ih=>
  cases k with
  | zero=>simp at h;subst h;rw [Ta];omega
  | succ k=>have:=ih (k:=k) (by simpa using h);rw [Ta];omega
theorem Zb5 {a b:Nat} {left:Int} (h:¬Zo a left<0):Zo b (Zo a left)=Zo (a+b) left:=Z35 om
theorem Zkn {c:Nat} {left:Int} (h:Zo c left<0):-1=Zo c left:=by unfold Zo at *;split at h<;>first|rfl|omega
end Go.Abs
end
namespace Go.Abs
def Qn (op v:Int):Step:=.mk op 0 0 [v] []
def W9 (am:List Arm) (v:Int):Arm:=(Wo am v).getD ⟨0,0,[],false⟩
def XZ (ds:List Decl) (num:Int) (k:Nat):List Int:=((Zt ds num).map (Zc ds))[k]?.getD []
def JI (ds:List Decl) (am:List Arm) (m:Nat) (op num:Int) (args:List Int) (k:Nat):List Arm:=if op=8 then am++[⟨gI args 0,(m:Int),XZ ds num k,false⟩] else am
def JV (ds:List Decl) (m:Nat) (op num:Int) (k:Nat):Nat:=if op=8 then m+(XZ ds num k).length else m
mutual
def Z83 (ds:List Decl) (am:List Arm) (m:Nat):Step->List Step
 | .mk op num _ args kids=>if op=16∨op=17 then (Y7 (W9 am (gI args 0)).fds (W9 am (gI args 0)).fst).map (Qn 14)++[Qn 15 (gI args 0)] else [.mk op num 0 args (Uy ds am m op num args kids 0)]
def Uy (ds:List Decl) (am:List Arm) (m:Nat) (op num:Int) (args:List Int):List Block->Nat->List Block
 | [],_=>[]
 | b::r,k=>QL ds (JI ds am m op num args k) (JV ds m op num k) b::Uy ds am m op num args r (k+1)
def QM (ds:List Decl) (am:List Arm) (m:Nat):List Step->List Step
 | []=>[]
 | s::r=>Z83 ds am m s++QM ds am (if Y2 s.op=true then m else m+1) r
def QL (ds:List Decl) (am:List Arm) (m:Nat):Block->Block
 | .mk steps result=>.mk (QM ds am m steps) result
end
theorem Z84 (ds:List Decl) (am:List Arm) (m:Nat) (s:Step):Z83 ds am m s=if s.op=16∨s.op=17 then (Y7 (W9 am (gI s.args 0)).fds (W9 am (gI s.args 0)).fst).map (Qn 14)++[Qn 15 (gI s.args 0)] else
  [.mk s.op s.num 0 s.args (Uy ds am m s.op s.num s.args s.kids 0)]:=by cases s;rw [Z83];rfl
theorem Zel (ds:List Decl) (am:List Arm) (m:Nat) (b:Block):QL ds am m b=.mk (QM ds am m b.steps) b.result:=by cases b;rw [QL];rfl
section
variable {ds:List Decl} {am:List Arm} {m:Nat}
end
theorem Z85 {ds:List Decl} {num:Int} {k:Nat} {m:List Int} (h:((Zt ds num).map (Zc ds))[k]? = some m):XZ ds num k=m:=by rw [XZ,h];rfl
theorem Z2c {ds:List Decl} (hd:DOk ds) (num:Int) (k:Nat):(XZ ds num k).length<=3:=by
 rw [XZ,VC]
 cases (Zt ds num)[k]? with
 | none=>simp
 | some c=>exact VV hd c
def V4 (am:List Arm) (m:Nat):Prop:=∀a∈am,a.fds.length<=3/\0<=a.fst/\a.fst<=m
theorem V4.at {am:List Arm} {m:Nat} (h:V4 am m) {v:Int} {a:Arm} (ha:Wo am v=some a):a.fds.length<=3/\0<=a.fst/\a.fst<=m:=h a (Z5f ha).1
theorem V4.le {am:List Arm} {m k:Nat} (h:V4 am m) (hk:m<=k):V4 am k:=fun a ha=>by have:=h a ha;omega
theorem V4.x {ds:List Decl} (hd:DOk ds) {am:List Arm} {m k:Nat} (h:V4 am m) (op num:Int) (args:List Int):V4 (JI ds am m op num args k) (JV ds m op num k):=by
 rw [JI,JV]
 split
 ·intro a ha
  rcases ZG.1 ha with ha|ha
  ·have:=h a ha;omega
  ·rw [ZW.1 ha]
   have:=Z2c hd num k
   show (XZ ds num k).length<=3/\0<=(m:Int)/\(m:Int)<=((m+(XZ ds num k).length:Nat):Int)
   omega
 ·exact h
theorem Zk7 {xs:List Step} {k:Nat} {s:Step} (h:xs[k]? = some s):ZR (xs.take (k+1))=ZR (xs.take k)+s.sz:=by
 induction xs generalizing k with
 | nil=>simp at h
 | cons t r ih=>
  cases k with
  | zero=>simp at h;subst h;simp [ZR]
  | succ k=>rw [Z3n,Z3n,ZR,ZR,ih (by simpa using h)];omega
theorem Zk8 (xs:List Step) (k:Nat):ZR (xs.take k)<=ZR xs:=by
 induction xs generalizing k with
 | nil=>simp
 | cons t r ih=>
  cases k with
  | zero=>simp [ZR]
  | succ k=>have:=ih k;rw [Z3n,ZR,ZR];omega
theorem Za6 {n:Normal} {us:List Int} {s:Step} (g:0<=Zp n us s) (h:Y2 s.op=true):Um n us s=us:=by rw [Um,KR g,h];rfl
theorem Z5q {n:Normal} {us:List Int} {s:Step} (g:0<=Zp n us s) (h:¬Y2 s.op=true):(Um n us s).length=us.length+1:=by
 rw [Um,KR g,KE.2 h];simp
theorem Z91 {n:Normal} {us:List Int} {s:Step} (g:0<=Zp n us s) (h:0<s.kids.length):s.op=7∨s.op=8:=by
 rw [Qd] at g
 split at g
 ·omega
 ·rename_i q
  exact Z6b fun z=>q (.inr (.inr ⟨h,fun e=>z (.inl e),fun e=>z (.inr e)⟩))
theorem Zme {ds:List Decl} {op num:Int} {k:Nat} {m:List Int} (h7:op=7) (h:(Zy ds op num)[k]? = some m):m=[]:=by
 rw [Zy,Z8 h7] at h
 match k,h with
 | 0,h=>simpa using h.symm
 | 1,h=>simpa using h.symm
 | k+2,h=>simp at h
theorem V4.snoc {am:List Arm} {q:Nat} (h:V4 am q) {x:Int} {fs:List Int} (hl:fs.length<=3):V4 (am++[⟨x,(q:Int),fs,false⟩]) (q+fs.length):=by
 intro a ha
 rcases ZG.1 ha with ha|ha
 ·have:=h a ha;omega
 ·rw [ZW.1 ha]
  show fs.length<=3/\0<=(q:Int)/\(q:Int)<=((q+fs.length:Nat):Int)
  omega
theorem Kj (ys:List HDecl):(Z9 (X2 ys)).length=ys.length*3:=by rw [Vv _ (Z7s _)];simp
theorem Z8b (ys:List HCon):(Z9 (Xp ys)).length=ys.length:=by rw [Vv _ (Z7r _)];simp
theorem Zf7 (ys:List Decl):(Z9 (ZQ ys)).length=ys.length*3:=by rw [Vv _ (Z0n _)];simp
theorem Zqi (ys:List Con):(Z9 (YH ys)).length=ys.length:=by rw [Vv _ (Z4a _)];simp
theorem Zqj {ds:List Decl} {k:Nat} {d:Decl} (h:ds[k]? = some d):Z9 (ZQ (ds.drop k))=Ys d++Z9 (ZQ (ds.drop (k+1))):=by rw [Zu h];rfl
theorem Zqh {ds:List Con} {k:Nat} {d:Con} (h:ds[k]? = some d):Z9 (YH (ds.drop k))=UP d++Z9 (YH (ds.drop (k+1))):=by rw [Zu h];rfl
theorem Zir {ys:List HDecl} {ds:List Decl} {k:Nat} {d:Decl} (h:ds[k]? = some d):Z9 (X2 ys++ZQ (ds.drop k))=Z9 (X2 ys)++(Ys d++Z9 (ZQ (ds.drop (k+1)))):=by
 rw [Vu,Zqj h]
theorem Zwh {ys:List HCon} {ds:List Con} {k:Nat} {d:Con} (h:ds[k]? = some d):Z9 (Xp ys++YH (ds.drop k))=Z9 (Xp ys)++(UP d++Z9 (YH (ds.drop (k+1)))):=by
 rw [Vu,Zqh h]
theorem Ziq {ys:List HDecl} {ds:List Decl} {k:Nat} (h:ys.length=k) (hk:k<=ds.length):(Z9 (X2 ys++ZQ (ds.drop k))).length=ds.length*3:=by
 rw [Vu,ZC,Kj,Zf7,Z6e];omega
theorem Zip {ys:List HCon} {ds:List Con} {k:Nat} (h:ys.length=k) (hk:k<=ds.length):(Z9 (Xp ys++YH (ds.drop k))).length=ds.length*1:=by
 rw [Vu,ZC,Z8b,Zqi,Z6e];omega
theorem Zwj {ys:List HDecl} {ds:List Decl} {k:Nat} {f t:Int} {zs:List HCon} {u:Value}:Z9 (X2 ys)++([.i f,.i t,Q3 zs u]++Z9 (ZQ (ds.drop (k+1))))=Z9 (X2 (ys++[HDecl.mk f t zs u])++ZQ (ds.drop (k+1))):=by
 rw [Zds,Vu,Vu,Xs];rfl
theorem Zwg {ys:List HCon} {ds:List Con} {k:Nat} {xs:List Int} {u:Value}:Z9 (Xp ys)++([Zb xs u]++Z9 (YH (ds.drop (k+1))))=Z9 (Xp (ys++[HCon.mk xs u])++YH (ds.drop (k+1))):=by
 rw [Zdr,Vu,Vu,Xs];rfl
theorem Zwi {ys:List HDecl} {ds:List Decl} {k:Nat} (h:ds.length<=k):Z9 (X2 ys++ZQ (ds.drop k))=Z9 (X2 ys):=by rw [Ye h];simp [ZQ]
theorem Zwf {ys:List HCon} {ds:List Con} {k:Nat} (h:ds.length<=k):Z9 (Xp ys++YH (ds.drop k))=Z9 (Xp ys):=by rw [Ye h];simp [YH]
theorem Zwq {A B:List AV} {x y z x':AV} {o:Nat} (hA:A.length=o):(A++([x,y,z]++B)).take (o+2)++[x']++(A++([x,y,z]++B)).drop (o+2+1)=A++([x,y,x']++B):=by
 have h:=Qu (A:=A++[x,y]) (xs:=[z]) (ys:=[x']) (B:=B) (o:=o+2) (by simp [hA]) rfl
 simpa using h
theorem Zwr {A B:List AV} {x y z:AV} {o:Nat} (hA:A.length=o):((A++([x,y,z]++B)).drop (o+2)).take 1=[z]:=by
 have h:=Z9z (A:=A++[x,y]) (xs:=[z]) (B:=B) (o:=o+2) (by simp [hA])
 simpa using h
theorem Zws {A B:List AV} {x y z x':AV} {o:Nat} (hA:A.length=o):(A++([x,y,z]++B)).set (o+2) x'=A++([x,y,x']++B):=by
 subst hA
 rw [List.set_append_right _ _ om]
 simp
theorem Zl6 {f t:Int} {zs:List HCon} {u:Value} {cs:List Con} (h:zs.map HCon.er=cs):[HDecl.mk f t zs u].map HDecl.er=[Decl.mk f t cs]:=by
 rw [<-h];rfl
theorem HBlock.eta (y:HBlock):HBlock.mk y.steps y.sv y.result=y:=by cases y;rfl
section
variable {ds:List Decl} (hd:DOk ds)
include hd
end
def Zen (ds:List Decl) (r:Routine):Routine:=⟨r.params,r.lent,r.result,QL ds [] r.params.length r.body⟩
def Zem (n:Normal):Normal:=⟨n.decls,n.routines.map (Zen n.decls)⟩
theorem Zmh (m:Nat):V4 [] m:=fun a ha=>by cases ha
theorem KN {n:Normal} (hz:NSz n) (h:Ws n=true):NOk n/\XF n=true/\∀r∈n.routines,0<=ZF n r.params r.body:=by
 rw [Ws,YN] at h
 obtain ⟨h1,h2⟩:=Zbb hz h.1
 rw [Vm,YN] at h
 exact ⟨h1,h.1.1,h2⟩
def Y0 (n:Nat):List Int:=(List.range n).map Int.ofNat
theorem Zv3 (n:Nat):Y0 (n+1)=Y0 n++[(n:Int)]:=by simp [Y0,List.range_succ]
theorem QS (n:Nat):(Y0 n).length=n:=by simp [Y0]
theorem Zhm (n:Nat):∀f∈Y0 n,0<=f/\f<=n:=by
 intro f hf
 simp only [Y0,YJ,List.mem_range] at hf
 obtain ⟨a,ha,rfl⟩:=hf
 show 0<=(a:Int)/\(a:Int)<=n
 omega
def QH (ds:List Decl) (num:Int) (k:Nat):Int:=gI (Zt ds num) k
def Z20 (ds:List Decl) (cons:List Int) (op num:Int) (args:List Int) (k:Nat):List Int:=if op=8 then cons.set (gI args 0).toNat (QH ds num k)++Y0 (Zc ds (QH ds num k)).length else cons
def Z2e (ds:List Decl) (m:Nat) (first:List Int) (op num:Int) (args:List Int) (k:Nat):List Int:=if op=8 then first.set (gI args 0).toNat m++Y0 (Zc ds (QH ds num k)).length else first
def Z5u (ds:List Decl) (cons first:List Int) (s:Step):List Step:=
 if s.op=14∨s.op=15 then [s] else (Y7 (Zc ds (gI cons (gI s.args 0))) (gI first (gI s.args 0))).map (Qn 14)++[Qn 15 (gI s.args 0)]
mutual
def Zat (ds:List Decl) (cons first:List Int):Step->List Step
 | .mk op num into args kids=>if Y2 op=true then Z5u ds cons first (.mk op num into args kids) else [.mk op num 0 args (UV ds cons first op num args kids 0)]
def UV (ds:List Decl) (cons first:List Int) (op num:Int) (args:List Int):List Block->Nat->List Block
 | [],_=>[]
 | b::r,k=>K1 ds (Z20 ds cons op num args k) (Z2e ds cons.length first op num args k) b::UV ds cons first op num args r (k+1)
def K2 (ds:List Decl) (cons first:List Int):List Step->List Step
 | []=>[]
 | s::r=>Zat ds cons first s++K2 ds (if Y2 s.op=true then cons else cons++[0]) (if Y2 s.op=true then first else first++[0]) r
def K1 (ds:List Decl) (cons first:List Int):Block->Block
 | .mk steps result=>.mk (K2 ds cons first steps) result
end
theorem Zau (ds:List Decl) (cons first:List Int) (s:Step):Zat ds cons first s=if Y2 s.op=true then Z5u ds cons first s else [.mk s.op s.num 0 s.args (UV ds cons first s.op s.num s.args s.kids 0)]:=by cases s;rw [Zat];rfl
theorem Zjs (ds:List Decl) (cons first:List Int) (b:Block):K1 ds cons first b=.mk (K2 ds cons first b.steps) b.result:=by cases b;rw [K1];rfl
section
variable {ds:List Decl} {cons first:List Int}
end
def VE (first:List Int):Prop:=∀f∈first,0<=f/\f<=1000000000
theorem VE.at {first:List Int} (h:VE first) (v:Int):0<=gI first v/\gI first v<=1000000000:=by
 rw [gI]
 cases hq:first[v.toNat]? with
 | none=>simp
 | some x=>exact h x (ZV hq)
theorem VE.snoc {first:List Int} (h:VE first):VE (first++[0]):=by
 intro f hf
 rcases ZG.1 hf with hf|hf
 ·exact h f hf
 ·rw [ZW.1 hf];omega
theorem VE.x {first:List Int} (h:VE first) {x m k:Nat} (hm:m<=1000000000) (hk:k<=1000000000):VE (first.set x (m:Int)++Y0 k):=by
 intro f hf
 rcases ZG.1 hf with hf|hf
 ·rcases Ty hf with hf|rfl
  ·exact h f hf
  ·omega
 ·have:=Zhm k f hf;omega
def Zju (ds:List Decl) (r:Routine):Routine:=⟨r.params,r.lent,r.result,K1 ds (Y0 r.params.length) (Y0 r.params.length) r.body⟩
def Zjt (n:Normal):Normal:=⟨n.decls,n.routines.map (Zju n.decls)⟩
section
variable {ds:List Decl} (hd:DOk ds)
include hd
end
theorem Zj1 {one:Led} {two:Option Led} {r:Bool} (h:Z19 one two r=true):(∃O,two=some O)/\r=true:=by
 unfold Z19 at h
 split at h
 ·cases h
 ·rename_i O
  split at h
  ·exact ⟨⟨O,rfl⟩,h⟩
  ·cases h
section
variable {n:Normal} {ln:List Int} {L:Led}
theorem Zgg {op num:Int} {args:List Int} {one:Led}:∀{bs:List Block} {i:Nat},UA n ln L op num args one bs i=true->∀(j:Nat) (b:Block),bs[j]? = some b->∃O,Xv n ln (Xr n.decls L op num args (i+j)) L.vars.length b=some O
 | [],_,_,j,b,hb=>by simp at hb
 | x::r,i,h,0,b,hb=>by
  rw [UA] at h
  simp at hb
  subst hb
  exact (Zj1 h).1
 | x::r,i,h,j+1,b,hb=>by
  rw [UA] at h
  have:=Zgg (Zj1 h).2 j b (by simpa using hb)
  rw [show i+(j+1)=i+1+j by omega]
  exact this
theorem Zzo {s:Step} {L1:Led} (h:Vc n ln L s=some L1) (hop:s.op=7∨s.op=8):∀(j:Nat) (b:Block),s.kids[j]? = some b->∃M,Xz n ln (Xr n.decls L s.op s.num s.args j) b.steps=some M:=by
 intro j b hb
 have key:∃O,Xv n ln (Xr n.decls L s.op s.num s.args j) L.vars.length b=some O:=by
  rw [WU,Z2v hop] at h
  cases hc:Tq n ln L s with
  | none=>rw [hc] at h;cases h
  | some L2=>
   rw [Tq] at hc
   split at hc
   ·cases hc
   ·cases hk:s.kids with
    | nil=>rw [hk] at hb;simp at hb
    | cons x r=>
     rw [hk,Ud] at hc
     unfold Kx at hc
     cases h0:Xv n ln (Xr n.decls L s.op s.num s.args 0) L.vars.length x with
     | none=>rw [h0] at hc;cases hc
     | some one=>
      rw [h0] at hc
      simp only at hc
      split at hc
      ·rename_i hks
       rw [hk] at hb
       cases j with
       | zero=>simp at hb;subst hb;exact ⟨one,h0⟩
       | succ j=>
        have:=Zgg hks j b (by simpa using hb)
        rw [show j+1=1+j by omega]
        exact this
      ·cases hc
 obtain ⟨O,hO⟩:=key
 rw [To] at hO
 obtain ⟨M,hM,_⟩:=Z1g hO
 exact ⟨M,hM⟩
theorem Zzp {s:Step} {L1:Led} {q:Int} (hk:LOk n.decls L q) (h:Vc n ln L s=some L1):if Yl s.op=true then L1.con=L.con++[-1]/\L1.fst=L.fst++[-1] else L1.con=L.con/\L1.fst=L.fst:=by
 rw [Z5w] at h
 cases hp:UD n ln L s.op s.num s.into s.args (Ud n ln L s.op s.num s.args s.kids) with
 | none=>rw [hp] at h;cases h
 | some L2=>
  rw [hp] at h
  obtain ⟨h1,h2,h3,h4⟩:=Zi7 hk hp
  rw [Ts] at h
  split
  ·rename_i hd
   rw [Z8 hd] at h
   cases h
   exact ⟨by rw [<-h3];rfl,by rw [<-h4];rfl⟩
  ·rename_i hd
   rw [Z4 hd] at h
   cases h
   exact ⟨h3,h4⟩
end
theorem Zsz {n:Normal} {us:List Int} {s:Step} (g:0<=Zp n us s) (h:s.op≠6):s.into=0:=by
 rw [Qd] at g
 split at g
 ·omega
 ·rename_i q
  have hv:Wl us s.op s.into=true:=XE.1 fun z=>q (.inr (.inl z))
  rw [Wl] at hv
  split at hv
  ·assumption
  ·cases hv
theorem Zhh {n:Normal} {us:List Int} {s:Step} (g:0<=Zp n us s) (h:¬(s.op=7∨s.op=8)):s.kids=[]:=by
 cases hk:s.kids with
 | nil=>rfl
 | cons b r=>exact absurd (Z91 g (by rw [hk];simp)) h
structure CR (L:Led) (cons first:List Int):Prop where
 cl:cons.length=L.vars.length
 fl:first.length=L.vars.length
 eq:∀v:Int,0<=v->v<L.vars.length->0<=gI L.con v->gI cons v=gI L.con v/\gI first v=gI L.fst v
theorem CR.same {L L1:Led} {cons first:List Int} (h:CR L cons first) (h0:L1.vars.length=L.vars.length) (h1:L1.con=L.con) (h2:L1.fst=L.fst):CR L1 cons first:=
 ⟨h.cl.trans h0.symm,h.fl.trans h0.symm,by rw [h0,h1,h2];exact h.eq⟩
theorem CR.grow {L L1:Led} {cons first:List Int} {x y:Int} (h:CR L cons first) (hl:LLen L) (h0:L1.vars.length=L.vars.length+1) (h1:L1.con=L.con++[-1]) (h2:L1.fst=L.fst++[-1]):CR L1 (cons++[x]) (first++[y]):=by
 obtain ⟨e1,e2,e3,e4,e5⟩:=hl
 have hcl:=h.cl
 have hfl:=h.fl
 refine ⟨by simp;omega,by simp;omega,fun v hv1 hv2 hv3=>?_⟩
 rw [h1] at hv3 ⊢
 rw [h2]
 by_cases hlt:v<L.vars.length
 ·rw [Ub om] at hv3
  rw [Ub om,Ub om,Ub om,Ub om]
  exact h.eq v hv1 hlt hv3
 ·rw [Z4m om] at hv3
  omega
theorem CR.arm {ds:List Decl} {L:Led} {cons first:List Int} {x c:Int} (h:CR L cons first) (hl:LLen L) (hx:0<=x/\x<L.vars.length) :
  CR (TS ds L x c) (cons.set x.toNat c++Y0 (Zc ds c).length) (first.set x.toNat (cons.length:Nat)++Y0 (Zc ds c).length):=by
 obtain ⟨e1,e2,e3,e4,e5⟩:=hl
 have hcl:=h.cl
 have hfl:=h.fl
 rw [TS,Z4p]
 refine ⟨by simp [QS];omega,by simp [QS];omega,fun v hv1 hv2 hv3=>?_⟩
 have hv2:v<((L.vars++Zc ds c).length:Nat):=hv2
 rw [ZC] at hv2
 have hv3:0<=gI (L.con.set x.toNat c++List.replicate (Zc ds c).length (-1)) v:=hv3
 show gI (cons.set x.toNat c++_) v=gI (L.con.set x.toNat c++List.replicate (Zc ds c).length (-1)) v/\gI (first.set x.toNat (cons.length:Nat)++_) v=gI (L.fst.set x.toNat L.vars.length++List.replicate (Zc ds c).length (-1)) v
 by_cases hlt:v<L.vars.length
 ·rw [Ub (by rw [VD];omega)] at hv3
  rw [Ub (by rw [VD];omega),Ub (by rw [VD];omega),Ub (by rw [VD];omega),Ub (by rw [VD];omega)]
  by_cases he:v=x
  ·subst he
   rw [KT rfl om,KT rfl om,KT rfl om,KT rfl om,hcl]
   exact ⟨rfl,rfl⟩
  ·rw [Kl om] at hv3
   rw [Kl om,Kl om,Kl om,Kl om]
   exact h.eq v hv1 hlt hv3
 ·rw [Z4o (by rw [VD];omega)] at hv3
  omega
theorem Zvo {n:Normal} {ln:List Int} {L L1:Led} {am:List Arm} {s:Step} {x:Int} (hop:s.op=16∨s.op=17) (hx:gI s.args 0=x) (har:ArmR n.decls L am) (hv:0<=x/\x<L.vars.length) (h:Vc n ln L s=some L1) :
  ∃a,Wo am x=some a:=by
 cases ho:Wo am x with
 | some a=>exact ⟨a,rfl⟩
 | none=>
  rw [WU,Z5g hop hx,Zi2 har hv ho] at h
  cases h
theorem Zeq {ds:List Decl} {op num:Int} {k:Nat} {m:List Int} (h8:op=8) (h:(Zy ds op num)[k]? = some m):XZ ds num k=m:=by
 rw [Zy,Z4 om] at h
 exact Z85 h
theorem Z5v (n:Normal) (hn:NOk n) (ln:List Int):∀(k:Nat) (xs:List Step) (L L':Led) (q:Int) (am:List Arm) (cons first vs:List Int),ZR xs<k->LOk n.decls L q->0<=q->ArmR n.decls L am->CR L cons first ->
  X7 n xs L.vars=some vs->Xz n ln L xs=some L'->K2 n.decls cons first xs=QM n.decls am L.vars.length xs
 | 0,_,_,_,_,_,_,_,_,h,_,_,_,_,_,_=>by omega
 | k+1,[],_,_,_,_,_,_,_,_,_,_,_,_,_,_=>by rw [K2,QM]
 | k+1,s::r,L,L',q,am,cons,first,vs,hsz,hk,hq,har,hcr,hty,hst=>by
  obtain ⟨g1,g2⟩:=KA hty
  rw [Xz] at hst
  obtain ⟨L1,h1,h2⟩:=Z1g hst
  obtain ⟨j1,j2⟩:=Z5x hn hk hq g1 h1
  have har1:=Zb2 hn hk hq g1 h1 har
  have hss:=Zzp hk h1
  have hf:=TG g1
  have hlen:=hk.len
  have hsp:=s.sz_pos
  rw [ZR] at hsz
  have hdc:=KR g1
  rw [K2,QM]
  by_cases hc:Y2 s.op=true
  ·rw [hc] at hdc
   rw [hdc] at hss
   obtain ⟨s1,s2⟩:=hss
   have hv:L1.vars=L.vars:=by rw [j2,Za6 g1 hc]
   have ih:=Z5v n hn ln k r L1 L' (q+4*s.sz) am cons first vs om j1 om har1 (hcr.same (by rw [hv]) s1 s2) (by rw [j2];exact g2) h2
   rw [Z8 hc,Z8 hc,Z8 hc,ih,hv]
   congr 1
   have hop:14<=s.op/\s.op<=17:=by simpa [Y2] using hc
   rw [Zau,Z8 hc,Z84,Z5u]
   by_cases h14:s.op=14∨s.op=15
   ·rw [Z8 h14,Z4 om]
    have hki:=Zhh g1 om
    have hin:=Zsz g1 om
    rw [hki,Uy]
    cases s with
    | mk a b c d e=>
     have hki:e=[]:=hki
     have hin:c=0:=hin
     subst hki;subst hin
     rfl
   ·rw [Z4 h14,Z8 om]
    obtain ⟨a0,ha0⟩:=hf.one om
    have hb:=hf.args a0 (by rw [ha0];simp)
    have hg:gI s.args 0=a0:=by rw [ha0];rfl
    obtain ⟨a,ho⟩:=Zvo om hg har hb h1
    have hoff:=har.off a0 hb.1 hb.2
    rw [ho] at hoff
    obtain ⟨q1,q2,q3⟩:=hoff
    obtain ⟨c1,c2⟩:=hcr.eq a0 hb.1 hb.2 q1
    rw [hg,c1,c2,<-q2,<-q3,W9,ho]
    rfl
  ·have hdc:Yl s.op=true:=by rw [hdc,KE.2 hc];rfl
   rw [Z8 hdc] at hss
   obtain ⟨s1,s2⟩:=hss
   have hv:L1.vars.length=L.vars.length+1:=by rw [j2,Z5q g1 hc]
   have ih:=Z5v n hn ln k r L1 L' (q+4*s.sz) am (cons++[0]) (first++[0]) vs om j1 om har1 (hcr.grow hlen hv s1 s2) (by rw [j2];exact g2) h2
   rw [Z4 hc,Z4 hc,Z4 hc,ih,hv]
   congr 1
   have hop:¬(14<=s.op/\s.op<=17):=by simpa [Y2] using hc
   rw [Zau,Z4 hc,Z84,Z4 om]
   congr 2
   by_cases h78:s.op=7∨s.op=8
   ·obtain ⟨f1,f2,f3⟩:=hf.kids h78
    obtain ⟨a0,ha0⟩:=hf.one om
    have hb:=hf.args a0 (by rw [ha0];simp)
    have hg:gI s.args 0=a0:=by rw [ha0];rfl
    have key:∀(bs:List Block) (j:Nat),(∀(i:Nat) (b:Block),bs[i]? = some b->s.kids[j+i]? = some b)->UV n.decls cons first s.op s.num s.args bs j=Uy n.decls am L.vars.length s.op s.num s.args bs j:=by
     intro bs
     induction bs with
     | nil=>intro j _;rw [UV,Uy]
     | cons b bs ihb=>
      intro j hj
      have hbj:=hj 0 b rfl
      rw [Ju] at hbj
      rw [UV,Uy,ihb (j+1) fun i b' hb'=>by
       have:=hj (i+1) b' (by simpa using hb')
       rwa [show j+(i+1)=j+1+i by omega] at this]
      congr 1
      obtain ⟨mk,hmk⟩:=Zl (xs:=Zy n.decls s.op s.num) (j:=j) (by have:=(Yg.1 hbj).1;omega)
      obtain ⟨M,hM⟩:=Zzo h1 h78 j b hbj
      obtain ⟨k1,k2⟩:=JS hk hq hf h78 hmk
      have hka:=Z72 hn har hlen h78 (by rw [hg];exact hb) hmk
      have hbt:=f3 j b mk hbj hmk
      obtain ⟨ws,t0,hws,_,_⟩:=QF hbt
      have hbs:=UN hbj
      have hbe:=b.sz_eq
      rw [Zjs,Zel]
      have hcx:CR (Xr n.decls L s.op s.num s.args j) (Z20 n.decls cons s.op s.num s.args j) (Z2e n.decls cons.length first s.op s.num s.args j):=by
       rw [Xr,Z20,Z2e,hg]
       by_cases h8:s.op=8
       ·rw [Z8 h8,Z8 h8,Z8 h8]
        exact hcr.arm hlen hb
       ·rw [Z4 h8,Z4 h8,Z4 h8]
        exact hcr
      have hax:JI n.decls am L.vars.length s.op s.num s.args j=V6 L am s mk:=by
       rw [JI,V6]
       by_cases h8:s.op=8
       ·rw [Z8 h8,Z8 h8,Zeq h8 hmk]
       ·rw [Z4 h8,Z4 h8]
      have hlx:JV n.decls L.vars.length s.op s.num j=(Xr n.decls L s.op s.num s.args j).vars.length:=by
       rw [k2,ZC,JV]
       by_cases h8:s.op=8
       ·rw [Z8 h8,Zeq h8 hmk]
       ·rw [Z4 h8,Zme om hmk];rfl
      rw [hax,hlx,Z5v n hn ln k b.steps (Xr n.decls L s.op s.num s.args j) M q (V6 L am s mk) _ _ ws om k1 hq hka hcx (by rw [k2];exact hws) hM]
    exact key s.kids 0 fun i b hb=>by rwa [XQ]
   ·rw [Zhh g1 h78,UV,Uy]
theorem Zuv (r:Routine):∀v:Int,gI (XM r).con v<=0/\(0<=v->v<(XM r).vars.length->gI (XM r).con v<0):=by
 have key:∀(ps:List Int) (i:Nat) (L:Led),(∀x∈L.con,x=-1)->L.con.length=L.vars.length->(∀x∈(U3 r.lent ps i L).con,x=-1)/\(U3 r.lent ps i L).con.length=(U3 r.lent ps i L).vars.length:=by
  intro ps
  induction ps with
  | nil=>intro i L h1 h2;rw [U3];exact ⟨h1,h2⟩
  | cons t ps ih=>
   intro i L h1 h2
   rw [U3]
   refine ih _ _ (fun x hx=>?_) ?_
   ·have hx:x∈L.con++[-1]:=by
     first
     | exact hx
     | (split at hx<;>exact hx)
    rcases ZG.1 hx with hx|hx
    ·exact h1 x hx
    ·exact ZW.1 hx
   ·first
    | (show (L.con++[-1]).length=(L.vars++[t]).length;simp [h2])
    | (split<;>(show (L.con++[-1]).length=(L.vars++[t]).length;simp [h2]))
 obtain ⟨k1,k2⟩:=key r.params 0 ⟨[],[],[],[],[],[]⟩ (by simp) rfl
 intro v
 have hk1:∀x∈(XM r).con,x=-1:=k1
 have hk2:(XM r).con.length=(XM r).vars.length:=k2
 constructor
 ·rw [gI]
  cases hq:(XM r).con[v.toNat]? with
  | none=>simp
  | some x=>have:=hk1 x (ZV hq);simp;omega
 ·intro h0 hlt
  obtain ⟨x,hx⟩:=Zl (xs:=(XM r).con) (j:=v.toNat) om
  rw [XR hx]
  have:=hk1 x (ZV hx)
  omega
theorem Zwe {n:Normal} {r:Routine} (h:VU n r=true):∃M,Xz n r.lent (XM r) r.body.steps=some M:=by
 rw [VU] at h
 cases hb:Xv n r.lent (XM r) r.params.length r.body with
 | none=>rw [hb] at h;cases h
 | some O=>
  rw [To] at hb
  obtain ⟨M,hM,_⟩:=Z1g hb
  exact ⟨M,hM⟩
theorem Zcx {n:Normal}:∀{rs:List Routine},T2 n rs=true->∀r∈rs,VU n r=true
 | [],_,r,h=>by cases h
 | x::rs,h,r,hr=>by
  rw [T2] at h
  split at h
  ·rcases ZM.1 hr with rfl|hr
   ·assumption
   ·exact Zcx h r hr
  ·cases h
theorem Zxy {n:Normal} (hz:NSz n) (hB:Ws n=true):Zjt n=Zem n:=by
 obtain ⟨hn,hsg,hbt⟩:=KN hz hB
 rw [Ws,YN] at hB
 rw [Zjt,Zem]
 congr 1
 refine List.map_congr_left fun r hr=>?_
 obtain ⟨M,hM⟩:=Zwe (Zcx hB.2 r hr)
 obtain ⟨k1,k2⟩:=Z9g n.decls r
 obtain ⟨ws,t0,hws,_,_⟩:=QF (hbt r hr)
 rw [Zju,Zen,Zjs,Zel]
 have:=Z5v n hn r.lent (ZR r.body.steps+1) r.body.steps (XM r) M 1 [] (Y0 r.params.length) (Y0 r.params.length) ws om k1 om (Z9f r)
  ⟨by rw [QS,k2],by rw [QS,k2],fun v h0 h1 h2=>by have:=(Zuv r v).2 h0 h1;omega⟩ (by rw [k2];exact hws) hM
 rw [this,k2]
theorem Z13 {A:List AV} {zs:List AV} {a n k q:Nat} (hA:A.length=k*q) (hk:k<=n) (hz:zs.length=q):(A++(List.replicate (n-k) zs).flatten).length=n*q:=by
 have h1:n*q=k*q+(n-k)*q:=by rw [<-Up];congr 1;omega
 simp only [ZC,List.length_flatten,List.map_replicate,List.sum_replicate_nat,hA,hz]
 omega
theorem Z14 {A:List AV} {zs:List AV} {n k:Nat} (hk:k<n):A++(List.replicate (n-k) zs).flatten=A++(zs++(List.replicate (n-(k+1)) zs).flatten):=by
 rw [show n-k=(n-(k+1))+1 by omega,Z3k,List.flatten_cons]
theorem Z12 {A:List AV} {zs:List AV} {n k:Nat} (hk:n<=k):A++(List.replicate (n-k) zs).flatten=A:=by
 rw [show n-k=0 by omega];simp
theorem Zfd (ys:List Int):(Z9 (Z6 ys)).length=ys.length*1:=by rw [Vv _ (YS _)];simp
theorem Zfc (ys:List HStep):(Z9 (Wf ys)).length=ys.length*5:=by rw [Vv _ (Zdx _)];simp
theorem Zf8 (ys:List HBlock):(Z9 (We ys)).length=ys.length*2:=by rw [Vv _ (Zdq _)];simp
theorem Zfb (ys:List HRoutine):(Z9 (V8 ys)).length=ys.length*5:=by rw [Vv _ (Zdw _)];simp
theorem Zf9 (ys:List HCon):(Z9 (Xp ys)).length=ys.length*1:=by rw [Z8b];omega
theorem Zwp {xs:List Int} {k:Nat} {x:Int} {B:List AV} (h:xs[k]? = some x):Z9 (Z6 (xs.take k))++([AV.i x]++B)=Z9 (Z6 (xs.take (k+1)))++B:=by
 rw [V3 h,VK,Vu,Xs];rfl
theorem Zwl {ys:List HCon} {y:HCon} {B:List AV}:Z9 (Xp ys)++(KX y++B)=Z9 (Xp (ys++[y]))++B:=by rw [Zdr,Vu,Xs];rfl
theorem Zwm {ys:List HDecl} {y:HDecl} {B:List AV}:Z9 (X2 ys)++(KY y++B)=Z9 (X2 (ys++[y]))++B:=by rw [Zds,Vu,Xs];rfl
theorem Zwn {ys:List HRoutine} {y:HRoutine} {B:List AV}:Z9 (V8 ys)++(KZ y++B)=Z9 (V8 (ys++[y]))++B:=by rw [Zp6,Vu,Xs];rfl
theorem Zwo {ys:List HStep} {y:HStep} {B:List AV}:Z9 (Wf ys)++(J0 y++B)=Z9 (Wf (ys++[y]))++B:=by
 rw [Zp8,Vu,Xs,Z24 [y]];rfl
theorem Zwk {ys:List HBlock} {y:HBlock} {B:List AV}:Z9 (We ys)++(Ku y++B)=Z9 (We (ys++[y]))++B:=by
 rw [Zoz,Vu,Xs,Z23 [y]];rfl
theorem Z2p {α β:Type} {f:α->β} {ys:List α} {xs:List β} {k:Nat} {x:β} {y:α} (h:ys.map f=xs.take k) (hx:xs[k]? = some x) (hy:f y=x):(ys++[y]).map f=xs.take (k+1):=by
 rw [List.map_append,h,V3 hx,<-hy];rfl
theorem Zbx (g:Nat):∀(n k:Nat),k<n->Z7 g k (n-k)=(g,k)::Z7 g (k+1) (n-(k+1)):=by
 intro n k h
 rw [show n-k=(n-(k+1))+1 by omega,Z7]
theorem Qj (g:Nat):∀(n o:Nat),(Z7 g o n).length=n
 | 0,_=>rfl
 | n+1,o=>by rw [Z7,Y5,Qj g n]
theorem Zbu {cs:List HCon} {k:Nat} {c:HCon} (h:cs[k]? = some c):XB (cs.drop k)=Z3r c++XB (cs.drop (k+1)):=by rw [Zu h,XB]
theorem Zbw {g:Nat} {cs:List HDecl} {k:Nat} {c:HDecl} (h:cs[k]? = some c):Ym g (k*3) (cs.drop k)=JG g (k*3) c++Ym g ((k+1)*3) (cs.drop (k+1)):=by
 rw [Zu h,Ym,show k*3+3=(k+1)*3 by omega]
theorem Zlw {g:Nat} {cs:List HStep} {k:Nat} {c:HStep} (h:cs[k]? = some c):Yc g (k*5) (cs.drop k)=TP g (k*5) c++Yc g ((k+1)*5) (cs.drop (k+1)):=by
 rw [Zu h,Yc,show k*5+5=(k+1)*5 by omega]
theorem Zll {g:Nat} {cs:List HBlock} {k:Nat} {c:HBlock} (h:cs[k]? = some c):Xh g (k*2) (cs.drop k)=TO g (k*2) c++Xh g ((k+1)*2) (cs.drop (k+1)):=by
 rw [Zu h,Xh,show k*2+2=(k+1)*2 by omega]
theorem Zls {g:Nat} {cs:List HRoutine} {k:Nat} {c:HRoutine} (h:cs[k]? = some c):WK g (k*5) (cs.drop k)=Z0a g (k*5) c++WK g ((k+1)*5) (cs.drop (k+1)):=by
 rw [Zu h,WK,show k*5+5=(k+1)*5 by omega]
section
variable {N:ZK} {g o:Nat} {z:Int}
theorem Y16 {d:HDecl}:wr N (JG g o d) z=wr (upd (upd N (g,o) z) (g,o+1) (z+1)) (XB d.cons) (z+1+1):=by rw [JG,wr,wr]
theorem Y1c {s:HStep}:wr N (TP g o s) z=wr (wr (upd (upd (upd N (g,o) z) (g,o+1) (z+1)) (g,o+2) (z+1+1)) (Z7 (Z2 s.av) 0 s.args.length) (z+1+1+1)) (Xh (Z2 s.kv) 0 s.kids) (z+1+1+1+(Z7 (Z2 s.av) 0 s.args.length).length):=by
 rw [Zcb,wr,wr,wr,Qf]
theorem Y15 {b:HBlock}:wr N (TO g o b) z=upd (wr N (Yc (Z2 b.sv) 0 b.steps) z) (g,o+1) (z+(Yc (Z2 b.sv) 0 b.steps).length):=by
 rw [Zbp,Qf,wr,wr]
theorem Y1b {r:HRoutine}:wr N (Z0a g o r) z=upd (wr (upd (wr (wr N (Z7 (Z2 r.pv) 0 r.params.length) z) (Z7 (Z2 r.lv) 0 r.lent.length) (z+(Z7 (Z2 r.pv) 0 r.params.length).length)) (g,o+2) (z+(Z7 (Z2 r.pv) 0 r.params.length).length+(Z7 (Z2 r.lv) 0 r.lent.length).length))
  (Yc (Z2 r.body.sv) 0 r.body.steps) (z+(Z7 (Z2 r.pv) 0 r.params.length).length+(Z7 (Z2 r.lv) 0 r.lent.length).length+1)) (g,o+4) (z+(Z7 (Z2 r.pv) 0 r.params.length).length+(Z7 (Z2 r.lv) 0 r.lent.length).length+1+(Yc (Z2 r.body.sv) 0 r.body.steps).length):=by
 rw [Z0a,Qf,Qf,wr,Qf,wr,wr]
theorem Z57 {d:HDecl}:(JG g o d).length=(XB d.cons).length+2:=by simp [JG]
theorem Zgv {s:HStep}:(TP g o s).length=(Z7 (Z2 s.av) 0 s.args.length).length+(Xh (Z2 s.kv) 0 s.kids).length+3:=by rw [Zcb];simp
theorem Zgt {b:HBlock}:(TO g o b).length=(Yc (Z2 b.sv) 0 b.steps).length+1:=by rw [Zbp];simp
theorem Z97 {r:HRoutine}:(Z0a g o r).length=(Z7 (Z2 r.pv) 0 r.params.length).length+(Z7 (Z2 r.lv) 0 r.lent.length).length+(Yc (Z2 r.body.sv) 0 r.body.steps).length+2:=by rw [Z0a];simp;omega
theorem Zr0 {d:HDecl} (h:YQ N (JG g o d) z):N g o=some (.int .i64 z)/\N g (o+1)=some (.int .i64 (z+1))/\YQ N (XB d.cons) (z+1+1):=h
end
theorem Zqz {xs:List HStep} {k:Nat} {x:HStep} (h:xs[k]? = some x):SizeOf.sizeOf x.kids<SizeOf.sizeOf xs:=by
 have h1:=List.sizeOf_lt_of_mem (ZV h)
 cases x
 simp only [HStep.mk.sizeOf_spec,HStep.kids] at h1 ⊢
 omega
theorem Zr3 {xs:List HBlock} {k:Nat} {x:HBlock} (h:xs[k]? = some x):SizeOf.sizeOf x.steps<SizeOf.sizeOf xs:=by
 have h1:=List.sizeOf_lt_of_mem (ZV h)
 cases x
 simp only [HBlock.mk.sizeOf_spec,HBlock.steps] at h1 ⊢
 omega
theorem Z6p {g:Nat}:∀{o:Nat} {ds:List HDecl},ds.length<=(Ym g o ds).length
 | _,[]=>Yp _
 | o,d::r=>by
  have:=Z6p (g:=g) (o:=o+3) (ds:=r)
  have h2:=Z57 (g:=g) (o:=o) (d:=d)
  rw [Ym,ZC,Y5]
  omega
theorem Zcc {g:Nat}:∀{o:Nat} {xs:List HStep},xs.length<=(Yc g o xs).length
 | _,[]=>Tj _
 | o,d::r=>by
  have:=Zcc (g:=g) (o:=o+5) (xs:=r)
  have h2:=Zgv (g:=g) (o:=o) (s:=d)
  rw [Yc,ZC,Y5]
  omega
theorem Zbr {g:Nat}:∀{o:Nat} {xs:List HBlock},xs.length<=(Xh g o xs).length
 | _,[]=>Tj _
 | o,d::r=>by
  have:=Zbr (g:=g) (o:=o+2) (xs:=r)
  have h2:=Zgt (g:=g) (o:=o) (b:=d)
  rw [Xh,ZC,Y5]
  omega
theorem Zc9 {g:Nat}:∀{o:Nat} {xs:List HRoutine},xs.length<=(WK g o xs).length
 | _,[]=>Yp _
 | o,d::r=>by
  have:=Zc9 (g:=g) (o:=o+5) (xs:=r)
  have h2:=Z97 (g:=g) (o:=o) (r:=d)
  rw [WK,ZC,Y5]
  omega
theorem Z06 {N N':ZK} {W:ZK} {A B C:List Xt} {z z':Int} (h:wr N A z=W) (hd:A=B++C) (hw:wr N B z=N') (hz:z'=z+(B.length:Nat)):wr N' C z'=W:=by
 subst hd hw hz
 rw [<-h,Qf]
theorem Z4t {N:ZK} {C:List Xt} {z z':Int} (h:YQ N C z') (hz:z=z'):YQ N C z:=hz▸h
theorem Zgu {y:HNormal}:(XY y).length=(Ym (Z2 y.dv) 0 y.decls).length+(WK (Z2 y.rv) 0 y.routines).length:=by rw [XY,ZC]
theorem Y19 {M:ZK} {y:HNormal} {q:Int}:wr (wr M (Ym (Z2 y.dv) 0 y.decls) q) (WK (Z2 y.rv) 0 y.routines) (q+((Ym (Z2 y.dv) 0 y.decls).length:Nat))=wr M (XY y) q:=by rw [XY,Qf]
mutual
theorem Step.sz_cst:∀s:Step,s.sz=s.cst+1
 | .mk _ _ _ args kids=>by rw [Step.sz,Step.cst,Zd6 kids];omega
theorem Block.sz_cst:∀b:Block,b.sz=b.cst+1
 | .mk steps _=>by rw [Block.sz,Block.cst,Zk6 steps];omega
theorem Zk6:∀xs:List Step,ZR xs=xs.length+Vz xs
 | []=>by rw [ZR,Vz];rfl
 | s::r=>by rw [ZR,Vz,Zk6 r,s.sz_cst,Y5];omega
theorem Zd6:∀xs:List Block,Yx xs=xs.length+Vq xs
 | []=>by rw [Yx,Vq];rfl
 | s::r=>by rw [Yx,Vq,Zd6 r,s.sz_cst,Y5];omega
end
theorem Znz {cs:List Con} {c:Con} (h:c∈cs):Vr c<=U9 cs:=let ⟨_,hk⟩:=Z3f h;Z42 hk
theorem Z48 {cs:List Decl} {c:Decl} (h:c∈cs):Wn c<=Uh cs:=let ⟨_,hk⟩:=Z3f h;Z47 hk
theorem Za0 {cs:List Routine} {c:Routine} (h:c∈cs):Wy c<=Ta cs:=let ⟨_,hk⟩:=Z3f h;Z5l hk
theorem Zv0 {n:Normal} (h:W5 n<=4194304):NSz n:=by
 unfold W5 X1 Wq at h
 refine ⟨⟨by omega,fun d hd=>?_,fun d hd c hc=>?_⟩,by omega,fun r hr=>?_,fun r hr=>?_,fun r hr=>?_⟩
 ·have:=Z48 hd;unfold Wn WC at this;omega
 ·have:=Z48 hd;have h2:=Znz hc;unfold Wn WC at this;unfold Vr at h2;omega
 ·have:=Za0 hr;unfold Wy at this;omega
 ·have:=Za0 hr;unfold Wy at this;omega
 ·have:=Za0 hr;unfold Wy at this;have:=r.body.sz_cst;omega
theorem Zbt:∀cs:List HCon,(XB cs).length=U9 (cs.map HCon.er)
 | []=>rfl
 | c::r=>by
  rw [XB,ZC,Zbt r,XW,U9]
  show (Z7 (Z2 c.fv) 0 c.fields.length).length+_=c.fields.length+_
  rw [Qj]
theorem Z6o {g:Nat}:∀(o:Nat) (ds:List HDecl),(Ym g o ds).length<=3*X1 (ds.map HDecl.er)
 | _,[]=>Tj _
 | o,d::r=>by
  have h1:=Z6o (g:=g) (o+3) r
  have h2:=Z57 (g:=g) (o:=o) (d:=d)
  rw [Ym,ZC,h2,Zbt]
  unfold X1 at h1 ⊢
  rw [XW,Uh,Y5]
  have h3:Wn d.er=d.cons.length+U9 (d.cons.map HCon.er):=by unfold Wn WC HDecl.er;simp
  omega
mutual
theorem Zlt {g o:Nat}:∀s:HStep,(TP g o s).length<=3*s.er.sz
 | .mk op num into args av kids kv=>by
  have h1:=Zbq (g:=Z2 kv) (o:=0) kids
  rw [TP,HStep.er,Step.sz]
  simp only [Y5,ZC,Qj]
  omega
theorem Zli {g o:Nat}:∀s:HBlock,(TO g o s).length<=3*s.er.sz
 | .mk steps sv result=>by
  have h1:=Z6u (g:=Z2 sv) (o:=0) steps
  rw [TO,HBlock.er,Block.sz]
  simp only [Y5,ZC,Yk]
  omega
theorem Z6u {g o:Nat}:∀xs:List HStep,(Yc g o xs).length<=3*ZR (Qs xs)
 | []=>by rw [Yc];exact Tj _
 | s::r=>by
  have h1:=Zlt (g:=g) (o:=o) s
  have h2:=Z6u (g:=g) (o:=o+5) r
  rw [Yc,Qs,ZR,ZC]
  omega
theorem Zbq {g o:Nat}:∀xs:List HBlock,(Xh g o xs).length<=3*Yx (QK xs)
 | []=>by rw [Xh];exact Tj _
 | s::r=>by
  have h1:=Zli (g:=g) (o:=o) s
  have h2:=Zbq (g:=g) (o:=o+2) r
  rw [Xh,QK,Yx,ZC]
  omega
end
theorem Zc8 {g:Nat}:∀(o:Nat) (rs:List HRoutine),(WK g o rs).length<=3*Wq (rs.map HRoutine.er)
 | _,[]=>Tj _
 | o,r::rs=>by
  have h1:=Zc8 (g:=g) (o+5) rs
  have h2:=Z97 (g:=g) (o:=o) (r:=r)
  have h3:=Z6u (g:=Z2 r.body.sv) (o:=0) r.body.steps
  have h4:r.body.er.sz=1+ZR (Qs r.body.steps):=by cases hb:r.body;rw [HBlock.er,Block.sz];rfl
  rw [Block.sz_cst] at h4
  rw [WK,ZC,h2,Qj,Qj]
  unfold Wq at h1 ⊢
  rw [XW,Ta,Y5]
  have h5:Wy r.er=r.params.length+(r.lent.length+r.body.er.cst):=rfl
  omega
theorem Zlp (y:HNormal):(XY y).length<=3*W5 y.er:=by
 have h1:=Z6o (g:=Z2 y.dv) 0 y.decls
 have h2:=Zc8 (g:=Z2 y.rv) 0 y.routines
 rw [Zgu]
 have:W5 y.er=X1 (y.decls.map HDecl.er)+Wq (y.routines.map HRoutine.er):=rfl
 omega
theorem Zo0 {y:HNormal}:∀d∈y.decls,d.cons.length<=W5 y.er:=by
 intro d hd
 have h1:=Z48 (List.mem_map_of_mem (f:=HDecl.er) hd)
 have h2:Wn d.er=d.cons.length+U9 (d.cons.map HCon.er):=by unfold Wn WC HDecl.er;simp
 have:W5 y.er=y.decls.length+Uh (y.decls.map HDecl.er)+Wq (y.routines.map HRoutine.er):=by show X1 (y.decls.map HDecl.er)+Wq (y.routines.map HRoutine.er)=_;unfold X1;simp
 omega
end Go.Abs
section
namespace Go.Abs
open Go.Proofs Go.Proofs.YtobaalepdnclfaaGreat
section
variable {H:Type} {enc:TypeId × Value->H} {w:World}
def GA (w:World):Zs:=fun b _=>b<w.heap.size
abbrev Tr (enc:TypeId × Value->H) (w:World) (n:Nat) (t:TypeId) (cs:List Value) (x:DataW H × List MemPlace):Prop:=DataW.trod enc Tryz.prog w 0 (fun _=>true) true n t cs=some x
theorem Zh6 {w:World} {a:Addr} {v:Value} (h:w.cell? a=some v):a.block<w.heap.size/\a.spot=none:=by
 unfold World.cell? at h
 split at h
 ·rename_i c e fr hb
  split at h
  ·cases h
  ·rename_i hs
   exact ⟨(Ve.1 hb).1,by simpa using hs⟩
 ·cases h
theorem Zd8 {α:Type} {c:α->Nat}:∀{xs:List α} {ds:List (DataW H)},xs.length=ds.length->(∀(i:Nat) a d,xs[i]? = some a->ds[i]? = some d->c a+1<=Rows.uptoBulk d)->(xs.map fun a=>c a+1).sum<=Rows.uptoBulkAll ds
 | [],[],_,_=>Yp _
 | a::r,d::ds,hl,h=>by
  have h0:=h 0 a d rfl rfl
  have h1:=Zd8 (c:=c) (xs:=r) (ds:=ds) (by simpa using hl) fun i a d ha hd=>h (i+1) a d (by simpa using ha) (by simpa using hd)
  rw [XW,KF,Rows.uptoBulkAll]
  omega
theorem Zii {α:Type} {f:α->AV} {G:Zs} {k b:Nat} (hf:∀x,(f x).leaves.length=k):∀{xs:List α} {o:Nat},(∀(i:Nat) a,xs[i]? = some a->RMem w G b (o+i*k) (f a).leaves)->REls w G k b o (xs.map f)
 | [],_,_=>.nil
 | x::r,o,h=>by
  refine .cons (hf x) (by have:=h 0 x rfl;simpa using this) (Zii hf fun i a ha=>?_)
  have:=h (i+1) a (by simpa using ha)
  rw [show o+(i+1)*k=o+k+i*k by rw [Up];omega] at this
  exact this
theorem Z10 {α:Type} [Inhabited α] {t e k:Nat} (ht:Tryz.prog.underlying t=some (.slice e)) (hk:Tryz.prog.cellsOf e=k) (h0:0<k) (f:α->AV) (hf:∀x,(f x).leaves.length=k) (c:α->Nat) (Q:α->Prop) {n:Nat} {cs:List Value} {x:DataW H × List MemPlace}
  (h:Tr enc w n t cs x) (el:∀m cs y,m<n->Tr enc w m e cs y->∃a:α,RCs w (GA w) (f a).leaves cs/\c a+1<=Rows.uptoBulk y.1/\Q a) :
  ∃(v:Value) (xs:List α),cs=[v]/\RV w (GA w) (.sl (xs.map f) none) v/\(xs.map fun a=>c a+1).sum+1<=Rows.uptoBulk x.1/\∀a∈xs,Q a:=by
 rcases DataW.trod_slice ht h with ⟨rfl,rfl⟩|⟨a,len,cap,elems,rest,m,rfl,rfl,rfl,_,hlc,_,hlen,hel,_,_⟩
 ·exact ⟨_,[],rfl,.nil (by simp),by simp [Rows.uptoBulk],by simp⟩
 ·rw [hk] at hel
  have hone:∀i,i<len->∃z:α,∃cs' y,w.cells? 0 (a.add (i*k)) k=some cs'/\elems[i]? = some y/\RCs w (GA w) (f z).leaves cs'/\c z+1<=Rows.uptoBulk y.1/\Q z:=by
   intro i hi
   have h1:=hel i hi
   rw [UX om] at h1
   obtain ⟨cs',h2,h3⟩:=Option.bind_eq_some_iff.1 h1
   obtain ⟨z,hz1,hz2,hz3⟩:=el m cs' _ om h3
   exact ⟨z,cs',_,h2,UX om,hz1,hz2,hz3⟩
  obtain ⟨V,hV⟩:=Go.Deep.choose_lt hone
  refine ⟨_,(List.range len).map V,rfl,?_,?_,?_⟩
  ·cases hl0:len with
   | zero=>exact .nil (by simp)
   | succ q=>
    have hsp:a.spot=none:=by
     obtain ⟨cs',y,g1,_⟩:=hV 0 om
     obtain ⟨_,g2,g3⟩:=World.cells?_some g1
     have g4:=g3 0 h0
     rw [UX om] at g4
     have g5:=(Zh6 g4).2
     simpa [Addr.add] using g5
    obtain ⟨b,o,sp⟩:=a
    simp only at hsp
    subst hsp
    rw [<-hl0]
    have hll:(((List.range len).map V).map f).length=len:=by simp
    have:=RV.sl (w:=w) (G:=GA w) (es:=((List.range len).map V).map f) (hv:=none) (b:=b) (o:=o) (k:=k) (cap:=cap) (by simp) (by rw [hll];exact hlc) (Zii hf fun i z hz=>by
     have hi:i<len:=by have:=(Yg.1 hz).1;simpa using this
     have hz':V i=z:=by simpa [hi] using hz
     obtain ⟨cs',y,g1,_,g2,_⟩:=hV i hi
     rw [hz'] at g2
     obtain ⟨_,g3,g4⟩:=World.cells?_some g1
     refine RMem.of_cells g2 fun j u hj=>?_
     have hjl:j<k:=by have:=(Yg.1 hj).1;omega
     have g5:=(g4 j hjl).trans hj
     rw [Addr.add_lit,Addr.add_lit] at g5
     exact ⟨g5,(Zh6 g5).1⟩)
    rw [hll] at this
    exact this
  ·have:=Zd8 (c:=c) (xs:=(List.range len).map V) (ds:=elems.map (·.1)) (by simp [hlen]) fun i z d hz hd=>by
    have hi:i<len:=by have:=(Yg.1 hz).1;simpa using this
    have hz':V i=z:=by simpa [hi] using hz
    obtain ⟨cs',y,_,g1,_,g2,_⟩:=hV i hi
    rw [VC,g1] at hd
    simp only [Z1s,YF] at hd
    rw [<-hd,<-hz']
    exact g2
   simp only [Rows.uptoBulk]
   omega
  ·intro z hz
   obtain ⟨i,hi,rfl⟩:=YJ.1 hz
   obtain ⟨_,_,_,_,_,_,g⟩:=hV i (List.mem_range.1 hi)
   exact g
theorem J9 {n:Nat} {cs:List Value} {x:DataW H × List MemPlace} (h:Tr enc w n 3 cs x):∃z:Int,cs=[.int .i64 z]/\Rows.uptoBulk x.1=1/\-9223372036854775808<=z/\z<=9223372036854775807:=by
 obtain ⟨z,rfl,rfl,hw⟩:=DataW.trod_int Tryz.underlying3 h
 refine ⟨z,rfl,rfl,?_⟩
 simpa [Lit.wf,IntKind.min,IntKind.max,IntKind.signed,IntKind.bits] using hw
theorem Zkk:∀xs:List Int,(xs.map fun _=>0+1).sum=xs.length
 | []=>rfl
 | _::r=>by rw [XW,KF,Zkk r,Y5];omega
theorem Z5h {n:Nat} {cs:List Value} {x:DataW H × List MemPlace} (h:Tr enc w n 46 cs x):∃(v:Value) (xs:List Int),cs=[v]/\RV w (GA w) (Z1 xs) v/\xs.length+1<=Rows.uptoBulk x.1:=by
 obtain ⟨v,xs,h1,h2,h3,_⟩:=Z10 Tryz.underlying46 (k:=1) kr om (fun z:Int=>AV.i z) (fun _=>rfl) (fun _=>0) (fun _=>True) h fun m cs y _ hy=>by
  obtain ⟨z,rfl,hb,_⟩:=J9 hy
  exact ⟨z,.cons .val .nil,Nat.le_of_eq hb.symm,trivial⟩
 have hs:=Zkk xs
 exact ⟨v,xs,h1,h2,by omega⟩
theorem Zht {β:Type} {v:List β} (h:v.length=1):∃a,v=[a]:=by cases v with|nil=>simp at h|cons a r=>cases r with|nil=>exact ⟨a,rfl⟩|cons _ _=>simp at h
instance:Inhabited Con:=⟨⟨[]⟩⟩
instance:Inhabited Decl:=⟨⟨0,0,[]⟩⟩
instance:Inhabited Step:=⟨.mk 0 0 0 [] []⟩
instance:Inhabited Block:=⟨.mk [] 0⟩
instance:Inhabited Routine:=⟨⟨[],[],0,.mk [] 0⟩⟩
theorem Uj {n:Nat} {cs:List Value} {fs:Array Field} {xs:List (DataW H × List MemPlace)} (hf:∀(i:Nat) (f:Field),fs[i]? = some f->DataW.trod enc Tryz.prog w 0 (fun _=>true) true n f.type ((cs.drop f.offset).take (Tryz.prog.cellsOf f.type))=xs[i]?)
  (i:Nat) (f:Field) (hi:fs[i]? = some f) {y:DataW H × List MemPlace} (hy:xs[i]? = some y) (k:Nat) (hk:Tryz.prog.cellsOf f.type=k):Tr enc w n f.type ((cs.drop f.offset).take k) y:=by
 subst hk
 exact (hf i f hi).trans hy
theorem c49:Tryz.prog.cellsOf 46=1:=by kernel_rfl
theorem c3:Tryz.prog.cellsOf 3=1:=by kernel_rfl
theorem Zvu {n:Nat} {cs:List Value} {x:DataW H × List MemPlace} (h:Tr enc w n 157 cs x):∃a:Con,RCs w (GA w) (UP a) cs/\Vr a+1<=Rows.uptoBulk x.1:=by
 obtain ⟨ys,m,rfl,rfl,hl,hyl,hf⟩:=DataW.trod_struct Tryz.underlying157 h
 have hl:cs.length=1:=hl.trans kr
 obtain ⟨v,rfl⟩:=Zht hl
 obtain ⟨y0,rfl⟩:∃y0,ys=[y0]:=Zht hyl
 have h0:Tr enc w m 46 [v] y0:=Uj hf 0 _ rfl rfl 1 c49
 obtain ⟨v',xs,e,h2,h3⟩:=Z5h h0
 cases e
 refine ⟨⟨xs⟩,.cons h2 .nil,?_⟩
 simp only [Rows.uptoBulk,Rows.uptoBulkAll,XW,Th]
 show xs.length+1<=_
 omega
theorem c66:Tryz.prog.cellsOf 77=1:=by kernel_rfl
theorem c70:Tryz.prog.cellsOf 81=1:=by kernel_rfl
theorem Zn2:Tryz.prog.cellsOf 190=1:=by kernel_rfl
theorem c72:Tryz.prog.cellsOf 83=2:=by kernel_rfl
theorem c22:Tryz.prog.cellsOf 22=1:=by kernel_rfl
theorem c23:Tryz.prog.cellsOf 23=1:=by kernel_rfl
theorem Z5c {β:Type} {v:List β} (h:v.length=2):∃a b,v=[a,b]:=by
 match v,h with
 | [a,b],_=>exact ⟨a,b,rfl⟩
theorem Zh1 {β:Type} {v:List β} (h:v.length=3):∃a b c,v=[a,b,c]:=by
 match v,h with
 | [a,b,c],_=>exact ⟨a,b,c,rfl⟩
theorem Zu4 {β:Type} {v:List β} (h:v.length=4):∃a b c d,v=[a,b,c,d]:=by
 match v,h with
 | [a,b,c,d],_=>exact ⟨a,b,c,d,rfl⟩
theorem Z9a {β:Type} {v:List β} (h:v.length=5):∃a b c d e,v=[a,b,c,d,e]:=by
 match v,h with
 | [a,b,c,d,e],_=>exact ⟨a,b,c,d,e,rfl⟩
theorem sum_cons:∀cs:List Con,(cs.map fun a=>Vr a+1).sum=WC cs
 | []=>rfl
 | c::r=>by rw [XW,KF,sum_cons r];unfold WC;rw [U9,Y5];omega
theorem Zkj:∀cs:List Decl,(cs.map fun a=>Wn a+1).sum=X1 cs
 | []=>rfl
 | c::r=>by rw [XW,KF,Zkj r];unfold X1;rw [Uh,Y5];omega
theorem Zkm:∀cs:List Step,(cs.map fun a=>a.cst+1).sum=WT cs
 | []=>by unfold WT;rw [Vz];rfl
 | c::r=>by rw [XW,KF,Zkm r];unfold WT;rw [Vz,Y5];omega
theorem Zki:∀cs:List Block,(cs.map fun a=>a.cst+1).sum=Wt cs
 | []=>by unfold Wt;rw [Vq];rfl
 | c::r=>by rw [XW,KF,Zki r];unfold Wt;rw [Vq,Y5];omega
theorem Zkl:∀cs:List Routine,(cs.map fun a=>Wy a+1).sum=Wq cs
 | []=>rfl
 | c::r=>by rw [XW,KF,Zkl r];unfold Wq;rw [Ta,Y5];omega
theorem Zvv {n:Nat} {cs:List Value} {x:DataW H × List MemPlace} (h:Tr enc w n 77 cs x):∃(v:Value) (xs:List Con),cs=[v]/\RV w (GA w) (Y8 xs) v/\WC xs+1<=Rows.uptoBulk x.1:=by
 obtain ⟨v,xs,h1,h2,h3,_⟩:=Z10 Tryz.underlying77 (k:=1) kr om Wm (fun _=>rfl) Vr (fun _=>True) h fun m cs y _ hy=>by
  obtain ⟨a,h1,h2⟩:=Zvu hy
  exact ⟨a,h1,h2,trivial⟩
 rw [sum_cons] at h3
 exact ⟨v,xs,h1,h2,h3⟩
theorem Zvw {n:Nat} {cs:List Value} {x:DataW H × List MemPlace} (h:Tr enc w n 79 cs x):∃a:Decl,RCs w (GA w) (Ys a) cs/\Wn a+1<=Rows.uptoBulk x.1:=by
 obtain ⟨ys,m,rfl,rfl,hl,hyl,hf⟩:=DataW.trod_struct Tryz.underlying79 h
 have hl:cs.length=3:=hl.trans kr
 obtain ⟨v0,v1,v2,rfl⟩:=Zh1 hl
 obtain ⟨y0,y1,y2,rfl⟩:∃a b c,ys=[a,b,c]:=Zh1 hyl
 obtain ⟨z0,e0,b0,_⟩:=J9 (show Tr enc w m 3 [v0] y0 from Uj hf 0 _ rfl rfl 1 c3)
 obtain ⟨z1,e1,b1,_⟩:=J9 (show Tr enc w m 3 [v1] y1 from Uj hf 1 _ rfl rfl 1 c3)
 obtain ⟨u2,xs,e2,h2,b2⟩:=Zvv (show Tr enc w m 77 [v2] y2 from Uj hf 2 _ rfl rfl 1 c66)
 cases e0;cases e1;cases e2
 refine ⟨⟨z0,z1,xs⟩,.cons .val (.cons .val (.cons h2 .nil)),?_⟩
 simp only [Rows.uptoBulk,Rows.uptoBulkAll,XW,Th]
 show WC xs+1<=_
 omega
theorem Zvx {n:Nat} {cs:List Value} {x:DataW H × List MemPlace} (h:Tr enc w n 22 cs x):∃(v:Value) (xs:List Decl),cs=[v]/\RV w (GA w) (Z3 xs) v/\X1 xs+1<=Rows.uptoBulk x.1:=by
 obtain ⟨v,xs,h1,h2,h3,_⟩:=Z10 Tryz.underlying22 (k:=3) kr om Yw (fun _=>rfl) Wn (fun _=>True) h fun m cs y _ hy=>by
  obtain ⟨a,h1,h2⟩:=Zvw hy
  exact ⟨a,h1,h2,trivial⟩
 rw [Zkj] at h3
 exact ⟨v,xs,h1,h2,h3⟩
theorem Zk4:∀{xs:List Step},(∀a∈xs,a.rng)->UF xs
 | [],_=>by rw [UF];trivial
 | x::r,h=>by rw [UF];exact ⟨h x (Yd ..),Zk4 fun a ha=>h a (Yy _ ha)⟩
theorem Zd5:∀{xs:List Block},(∀a∈xs,a.rng)->QG xs
 | [],_=>by rw [QG];trivial
 | x::r,h=>by rw [QG];exact ⟨h x (Yd ..),Zd5 fun a ha=>h a (Yy _ ha)⟩
theorem Zvt:∀(n:Nat),(∀{cs:List Value} {x:DataW H × List MemPlace},Tr enc w n 192 cs x->∃a:Step,RCs w (GA w) (ZE a) cs/\a.cst+1<=Rows.uptoBulk x.1/\a.rng) /\
  (∀{cs:List Value} {x:DataW H × List MemPlace},Tr enc w n 83 cs x->∃a:Block,RCs w (GA w) (YY a) cs/\a.cst+1<=Rows.uptoBulk x.1/\a.rng):=by
 intro n
 induction n using Nat.strongRecOn with
 | ind n ih=>
  refine ⟨fun {cs x} h=>?_,fun {cs x} h=>?_⟩
  ·obtain ⟨ys,m,rfl,rfl,hl,hyl,hf⟩:=DataW.trod_struct Tryz.underlying192 h
   have hl:cs.length=5:=hl.trans kr
   obtain ⟨v0,v1,v2,v3,v4,rfl⟩:=Z9a hl
   obtain ⟨y0,y1,y2,y3,y4,rfl⟩:∃a b c d e,ys=[a,b,c,d,e]:=Z9a hyl
   obtain ⟨z0,e0,b0,_⟩:=J9 (show Tr enc w m 3 [v0] y0 from Uj hf 0 _ rfl rfl 1 c3)
   obtain ⟨z1,e1,b1,r1⟩:=J9 (show Tr enc w m 3 [v1] y1 from Uj hf 1 _ rfl rfl 1 c3)
   obtain ⟨z2,e2,b2,_⟩:=J9 (show Tr enc w m 3 [v2] y2 from Uj hf 2 _ rfl rfl 1 c3)
   obtain ⟨u3,xs,e3,h3,b3⟩:=Z5h (show Tr enc w m 46 [v3] y3 from Uj hf 3 _ rfl rfl 1 c49)
   obtain ⟨u4,bs,e4,h4,b4,q4⟩:=Z10 Tryz.underlying190 (k:=2) c72 om Zx (fun _=>rfl) Block.cst Block.rng (show Tr enc w m 190 [v4] y4 from Uj hf 4 _ rfl rfl 1 Zn2) fun m' cs y hm hy=>(ih m' om).2 hy
   cases e0;cases e1;cases e2;cases e3;cases e4
   rw [Zki] at b4
   refine ⟨.mk z0 z1 z2 xs bs,.cons .val (.cons .val (.cons .val (.cons h3 (.cons (by rw [<-Z49] at h4;exact h4) .nil)))),?_,?_⟩
   ·simp only [Rows.uptoBulk,Rows.uptoBulkAll,XW,Th]
    rw [Step.cst]
    unfold Wt at b4
    omega
   ·rw [Step.rng]
    exact ⟨r1,Zd5 q4⟩
  ·obtain ⟨ys,m,rfl,rfl,hl,hyl,hf⟩:=DataW.trod_struct Tryz.underlying83 h
   have hl:cs.length=2:=hl.trans c72
   obtain ⟨v0,v1,rfl⟩:=Z5c hl
   obtain ⟨y0,y1,rfl⟩:∃a b,ys=[a,b]:=Z5c hyl
   obtain ⟨u0,xs,e0,h0,b0,q0⟩:=Z10 Tryz.underlying81 (k:=5) kr om ZN (fun _=>rfl) Step.cst Step.rng (show Tr enc w m 81 [v0] y0 from Uj hf 0 _ rfl rfl 1 c70) fun m' cs y hm hy=>(ih m' om).1 hy
   obtain ⟨z1,e1,b1,_⟩:=J9 (show Tr enc w m 3 [v1] y1 from Uj hf 1 _ rfl rfl 1 c3)
   cases e0;cases e1
   rw [Zkm] at b0
   refine ⟨.mk xs z1,.cons (by rw [<-Z4f] at h0;exact h0) (.cons .val .nil),?_,?_⟩
   ·simp only [Rows.uptoBulk,Rows.uptoBulkAll,XW,Th]
    rw [Block.cst]
    unfold WT at b0
    omega
   ·rw [Block.rng]
    exact Zk4 q0
theorem Zvz {n:Nat} {cs:List Value} {x:DataW H × List MemPlace} (h:Tr enc w n 85 cs x):∃a:Routine,RCs w (GA w) (WI a) cs/\Wy a+1<=Rows.uptoBulk x.1/\a.body.rng:=by
 obtain ⟨ys,m,rfl,rfl,hl,hyl,hf⟩:=DataW.trod_struct Tryz.underlying85 h
 have hl:cs.length=5:=hl.trans kr
 obtain ⟨v0,v1,v2,v3,v4,rfl⟩:=Z9a hl
 obtain ⟨y0,y1,y2,y3,rfl⟩:∃a b c d,ys=[a,b,c,d]:=Zu4 hyl
 obtain ⟨u0,ps,e0,h0,b0⟩:=Z5h (show Tr enc w m 46 [v0] y0 from Uj hf 0 _ rfl rfl 1 c49)
 obtain ⟨u1,ls,e1,h1,b1⟩:=Z5h (show Tr enc w m 46 [v1] y1 from Uj hf 1 _ rfl rfl 1 c49)
 obtain ⟨z2,e2,b2,_⟩:=J9 (show Tr enc w m 3 [v2] y2 from Uj hf 2 _ rfl rfl 1 c3)
 obtain ⟨b,h3,b3,q3⟩:=(Zvt m).2 (show Tr enc w m 83 [v3,v4] y3 from Uj hf 3 _ rfl rfl 2 c72)
 cases e0;cases e1;cases e2
 refine ⟨⟨ps,ls,z2,b⟩,.cons h0 (.cons h1 (.cons .val h3)),?_,q3⟩
 simp only [Rows.uptoBulk,Rows.uptoBulkAll,XW,Th]
 show ps.length+(ls.length+b.cst)+1<=_
 omega
theorem Zvy {n:Nat} {cs:List Value} {x:DataW H × List MemPlace} (h:Tr enc w n 25 cs x):∃a:Normal,RCs w (GA w) (ZU a) cs/\W5 a<=Rows.uptoBulk x.1/\∀r∈a.routines,r.body.rng:=by
 obtain ⟨ys,m,rfl,rfl,hl,hyl,hf⟩:=DataW.trod_struct Tryz.underlying25 h
 have hl:cs.length=2:=hl.trans kr
 obtain ⟨v0,v1,rfl⟩:=Z5c hl
 obtain ⟨y0,y1,rfl⟩:∃a b,ys=[a,b]:=Z5c hyl
 obtain ⟨u0,ds,e0,h0,b0⟩:=Zvx (show Tr enc w m 22 [v0] y0 from Uj hf 0 _ rfl rfl 1 c22)
 obtain ⟨u1,rs,e1,h1,b1,q1⟩:=Z10 Tryz.underlying23 (k:=5) kr om Xc (fun _=>rfl) Wy (fun r=>r.body.rng) (show Tr enc w m 23 [v1] y1 from Uj hf 1 _ rfl rfl 1 c23) fun m' cs y hm hy=>Zvz hy
 cases e0;cases e1
 rw [Zkl] at b1
 refine ⟨⟨ds,rs⟩,.cons h0 (.cons h1 .nil),?_,q1⟩
 simp only [Rows.uptoBulk,Rows.uptoBulkAll,XW,Th]
 show X1 ds+Wq rs<=_
 omega
end
end Go.Abs
end
namespace Go.Abs
def GB (B:List Nat):Zs:=fun b _=>b∈B
def HB (B:List Nat) (v:Value):Prop:=∀g,v.ownBlock=some g->g∈B
def Yu (w:World) (B:List Nat) (ts:List (Value × Nat)):Prop:=∀p∈ts,Ka w p.1 p.2/\HB B p.1
theorem Yu.left {w:World} {B:List Nat} {a b:List (Value × Nat)} (h:Yu w B (a++b)):Yu w B a:=fun p hp=>h p (ZG.2 (.inl hp))
theorem Yu.right {w:World} {B:List Nat} {a b:List (Value × Nat)} (h:Yu w B (a++b)):Yu w B b:=fun p hp=>h p (ZG.2 (.inr hp))
theorem Yu.head {w:World} {B:List Nat} {v:Value} {k:Nat} {b:List (Value × Nat)} (h:Yu w B ((v,k)::b)):Ka w v k/\HB B v:=h _ (Yd ..)
theorem Yu.tail {w:World} {B:List Nat} {p:Value × Nat} {b:List (Value × Nat)} (h:Yu w B (p::b)):Yu w B b:=fun q hq=>h q (Yy _ hq)
section
variable {w:World} {G:Zs} {B:List Nat}
def K9 (w:World) (G:Zs) (B:List Nat) (x:AV):Prop:=∀u,RV w G x u->RV w (GB B) x u
def Vn (w:World) (G:Zs) (B:List Nat) (ls:List AV):Prop:=∀x∈ls,K9 w G B x
theorem Ks:Vn w G B []:=fun _ h=>by cases h
theorem W2 {x:AV} {l:List AV} (h:K9 w G B x) (t:Vn w G B l):Vn w G B (x::l):=fun y hy=>by
 rcases ZM.1 hy with rfl|hy
 ·exact h
 ·exact t y hy
theorem T8 (z:Int):K9 w G B (.i z):=fun _ h=>by cases h;exact .val
theorem Zim {b:Nat} (hb:b∈B):∀{o:Nat} {ls:List AV},Vn w G B ls->RMem w G b o ls->RMem w (GB B) b o ls
 | _,_,_,.nil=>.nil
 | _,_,hi,.cons hc _ h t=>.cons hc hb (hi _ (Yd ..) _ h) (Zim hb (fun x hx=>hi x (Yy _ hx)) t)
theorem Zih {b k:Nat} (hb:b∈B):∀{o:Nat} {es:List AV},(∀y∈es,Vn w G B y.leaves)->REls w G k b o es->REls w (GB B) k b o es
 | _,_,_,.nil=>.nil
 | _,_,hi,.cons hl h t=>.cons hl (Zim hb (hi _ (Yd ..)) h) (Zih hb (fun x hx=>hi x (Yy _ hx)) t)
theorem Kr {es:List AV} {v:Value} (hb:HB B v) (hi:∀y∈es,Vn w G B y.leaves):K9 w G B (.sl es (some v)):=by
 intro u h
 have e:=h.header
 subst e
 cases h with
 | nil hq=>exact .nil hq
 | sl hq hc hm=>exact .sl hq hc (Zih (hb _ (by rfl)) hi hm)
theorem KV {xs:List Int} {v:Value} (hb:HB B v):K9 w G B (Zb xs v):=Kr hb fun y hy=>by
 simp only [Z6,YJ] at hy
 obtain ⟨z,_,rfl⟩:=hy
 exact W2 (T8 z) Ks
theorem Zg3 {ls:List AV} (hi:Vn w G B ls):K9 w G B (.agg ls):=by
 intro u h
 cases h with
 | agg hc=>exact .agg (hc.clean (K9 w G B) (fun x v hp hx=>hp v hx) hi)
theorem Zsd {c:HCon} (h:Yu w B (XJ c)):Vn w G B (KX c):=W2 (KV h.head.2) Ks
theorem Zse {cs:List HCon} (h:Yu w B (YD cs)):∀y∈Xp cs,Vn w G B y.leaves:=by
 intro y hy
 simp only [Xp,YJ] at hy
 obtain ⟨c,hc,rfl⟩:=hy
 exact Zsd fun p hp=>h p (Z1o.2 ⟨c,hc,hp⟩)
theorem Zsf {d:HDecl} (h:Yu w B (XK d)):Vn w G B (KY d):=
 W2 (T8 _) (W2 (T8 _) (W2 (Kr (Yu.right h).head.2 (Zse (Yu.left h))) Ks))
theorem Zg6 {ds:List HDecl} (h:Yu w B (Yn ds)):∀y∈X2 ds,Vn w G B y.leaves:=by
 intro y hy
 simp only [X2,YJ] at hy
 obtain ⟨c,hc,rfl⟩:=hy
 exact Zsf fun p hp=>h p (Z1o.2 ⟨c,hc,hp⟩)
mutual
theorem Zsm:∀(s:HStep),Yu w B (Xk s)->Vn w G B (J0 s)
 | .mk op num into args av kids kv,h=>by
  rw [Xk] at h
  exact W2 (T8 _) (W2 (T8 _) (W2 (T8 _) (W2 (KV h.head.2) (W2 (Kr h.tail.right.head.2 (Zg5 kids h.tail.left)) Ks))))
theorem Zg4:∀(s:HBlock),Yu w B (YO s)->Vn w G B (Ku s)
 | .mk steps sv result,h=>by
  rw [YO] at h
  exact W2 (Kr h.right.head.2 (Zg7 steps h.left)) (W2 (T8 _) Ks)
theorem Zg7:∀(xs:List HStep),Yu w B (YC xs)->∀y∈Wf xs,Vn w G B y.leaves
 | [],_=>fun y hy=>by rw [Wf] at hy;cases hy
 | s::r,h=>fun y hy=>by
  rw [Wf] at hy
  rw [YC] at h
  rcases ZM.1 hy with rfl|hy
  ·rw [Z4d];exact Zsm s h.left
  ·exact Zg7 r h.right y hy
theorem Zg5:∀(xs:List HBlock),Yu w B (YB xs)->∀y∈We xs,Vn w G B y.leaves
 | [],_=>fun y hy=>by rw [We] at hy;cases hy
 | s::r,h=>fun y hy=>by
  rw [We] at hy
  rw [YB] at h
  rcases ZM.1 hy with rfl|hy
  ·rw [Z4b];exact Zg4 s h.left
  ·exact Zg5 r h.right y hy
end
theorem Zsk {r:HRoutine} (h:Yu w B (XL r)):Vn w G B (KZ r):=by
 have h2:Yu w B (YO r.body):=h.tail.tail
 have hb:=Zg4 (G:=G) r.body h2
 exact W2 (KV h.head.2) (W2 (KV h.tail.head.2) (W2 (T8 _) hb))
theorem Zsl {rs:List HRoutine} (h:Yu w B (YP rs)):∀y∈V8 rs,Vn w G B y.leaves:=by
 intro y hy
 simp only [V8,YJ] at hy
 obtain ⟨c,hc,rfl⟩:=hy
 exact Zsk fun p hp=>h p (Z1o.2 ⟨c,hc,hp⟩)
theorem Zsc {y:HNormal} (h:Yu w B (YT y)):K9 w G B (UY y):=
 Zg3 (W2 (Kr h.right.head.2 (Zg6 h.left)) (W2 (Kr h.right.tail.right.head.2 (Zsl h.right.tail.left)) Ks))
end
def XS (w:World):ZK:=fun b o=>w.cell? ⟨b,o,none⟩
section
variable {w:World} {G:Zs} {B:List Nat}
theorem UT {g o:Nat} {z:Int} {xs:List AV} (h:RMem w G g o (.i z::xs)):Xq (XS w) (g,o)/\RMem w G g (o+1) xs:=by
 cases h with
 | cons hc _ hx t=>exact ⟨⟨z,by have:=hx.val_inv;subst this;exact hc⟩,t⟩
theorem Z31 {es:List AV} {v u:Value} {k:Nat} (h:RV w G (.sl es (some v)) u) (ht:Ka w v k) (hb:HB B v):Xu B v es.length/\∃kk,REls w G kk (Z2 v) 0 es:=by
 have e:=h.header
 subst e
 rcases ht with rfl|⟨g,len,cap,cur,e,rfl,h1,h2,h3⟩
 ·cases h with
  | nil _=>exact ⟨.inl ⟨rfl,rfl⟩,0,.nil⟩
 ·cases h with
  | nil _=>exact ⟨.inr ⟨g,cap,rfl,hb g rfl⟩,0,.nil⟩
  | sl _ hc hm=>exact ⟨.inr ⟨g,cap,rfl,hb g rfl⟩,_,hm⟩
theorem Z11 {g o:Nat} {es:List AV} {v:Value} {k:Nat} {xs:List AV} (h:RMem w G g o (.sl es (some v)::xs)) (ht:Ka w v k) (hb:HB B v) :
  VQ (XS w) B g o v es.length/\(∃kk,REls w G kk (Z2 v) 0 es)/\RMem w G g (o+1) xs:=by
 cases h with
 | cons hc _ hx t=>
  have e:=hx.header
  subst e
  obtain ⟨a,b⟩:=Z31 hx ht hb
  exact ⟨⟨hc,a⟩,b,t⟩
theorem Zxo {g kk:Nat} {xs:List Int} (h:REls w G kk g 0 (Z6 xs)):V1 (XS w) g xs.length:=by
 intro i hi
 have hx:(Z6 xs)[i]? = some (.i xs[i]):=by simp [Z6,hi]
 have hk:kk=1:=(h.len _ (ZV hx)).symm
 subst hk
 have:=h.get i _ hx
 rw [XQ,VS] at this
 exact (UT this).1
theorem Ji {g o:Nat} {v:Value} {xs:List Int} {k:Nat} {ls:List AV} (h:RMem w G g o (Zb xs v::ls)) (ht:Ka w v k/\HB B v) :
  (VQ (XS w) B g o v xs.length/\V1 (XS w) (Z2 v) xs.length)/\RMem w G g (o+1) ls:=by
 obtain ⟨a,⟨kk,b⟩,c⟩:=Z11 h ht.1 ht.2
 rw [ZD] at a
 exact ⟨⟨a,Zxo b⟩,c⟩
theorem Zxk {g o:Nat} {c:HCon} (h:RMem w G g o (KX c)) (ha:Yu w B (XJ c)):Zae (XS w) B g o c:=(Ji h ha.head).1
theorem Zjo {g kk:Nat}:∀{o:Nat} {cs:List HCon},REls w G kk g o (Xp cs)->Yu w B (YD cs)->Qv (XS w) B g o cs
 | _,[],_,_=>trivial
 | _,c::r,.cons hl h t,ha=>by
  have ha:Yu w B (XJ c++YD r):=ha
  have hk:1=kk:=hl
  subst hk
  exact ⟨Zxk h ha.left,Zjo t ha.right⟩
theorem Zxl {g o:Nat} {d:HDecl} (h:RMem w G g o (KY d)) (ha:Yu w B (XK d)):Zah (XS w) B g o d:=by
 obtain ⟨h1,h⟩:=UT h
 obtain ⟨h2,h⟩:=UT h
 obtain ⟨h3,⟨_,h4⟩,_⟩:=Z11 h (Yu.right ha).head.1 (Yu.right ha).head.2
 rw [Zp1] at h3
 exact ⟨h1,h2,h3,Zjo h4 (Yu.left ha)⟩
theorem Zao {g kk:Nat}:∀{o:Nat} {cs:List HDecl},REls w G kk g o (X2 cs)->Yu w B (Yn cs)->Qw (XS w) B g o cs
 | _,[],_,_=>trivial
 | _,c::r,.cons hl h t,ha=>by
  have ha:Yu w B (XK c++Yn r):=ha
  have hk:3=kk:=hl
  subst hk
  exact ⟨Zxl h ha.left,Zao t ha.right⟩
mutual
theorem Zxs {g o:Nat}:∀{s:HStep},RMem w G g o (J0 s)->Yu w B (Xk s)->TF (XS w) B g o s
 | .mk _ _ _ _ _ _ _,h,ha=>by
  rw [Xk] at ha
  rw [TF]
  obtain ⟨h1,h⟩:=UT h
  obtain ⟨h2,h⟩:=UT h
  obtain ⟨h3,h⟩:=UT h
  obtain ⟨h4,h⟩:=Ji h ha.head
  obtain ⟨h5,⟨_,h6⟩,_⟩:=Z11 h ha.tail.right.head.1 ha.tail.right.head.2
  rw [Zp0] at h5
  exact ⟨⟨h1,h2,h3⟩,h4,h5,Zjn h6 ha.tail.left⟩
theorem Zxj {g o:Nat}:∀{s:HBlock},RMem w G g o (Ku s)->Yu w B (YO s)->TC (XS w) B g o s
 | .mk _ _ _,h,ha=>by
  rw [YO] at ha
  rw [TC]
  obtain ⟨h5,⟨_,h6⟩,h⟩:=Z11 h ha.right.head.1 ha.right.head.2
  rw [Zdy] at h5
  exact ⟨⟨h5,Zap h6 ha.left⟩,(UT h).1⟩
theorem Zap {g kk:Nat}:∀{o:Nat} {xs:List HStep},REls w G kk g o (Wf xs)->Yu w B (YC xs)->V2 (XS w) B g o xs
 | _,[],_,_=>by rw [V2];trivial
 | _,s::r,h,ha=>by
  rw [Wf] at h
  rw [YC] at ha
  rw [V2]
  cases h with
  | cons hl h t=>
   rw [Z4d] at hl h
   have hk:5=kk:=hl
   subst hk
   exact ⟨Zxs h ha.left,Zap t ha.right⟩
theorem Zjn {g kk:Nat}:∀{o:Nat} {xs:List HBlock},REls w G kk g o (We xs)->Yu w B (YB xs)->VA (XS w) B g o xs
 | _,[],_,_=>by rw [VA];trivial
 | _,s::r,h,ha=>by
  rw [We] at h
  rw [YB] at ha
  rw [VA]
  cases h with
  | cons hl h t=>
   rw [Z4b] at hl h
   have hk:2=kk:=hl
   subst hk
   exact ⟨Zxj h ha.left,Zjn t ha.right⟩
end
theorem Zxr {g o:Nat} {r:HRoutine} (h:RMem w G g o (KZ r)) (ha:Yu w B (XL r)):Zan (XS w) B g o r:=by
 have ha2:Yu w B (YO r.body):=ha.tail.tail
 rw [Z8n] at ha2
 obtain ⟨h1,h⟩:=Ji h ha.head
 obtain ⟨h2,h⟩:=Ji h ha.tail.head
 obtain ⟨h3,h⟩:=UT h
 obtain ⟨h5,⟨_,h6⟩,h⟩:=Z11 h ha2.right.head.1 ha2.right.head.2
 rw [Zdy] at h5
 exact ⟨h1,h2,h3,⟨h5,Zap h6 ha2.left⟩,(UT h).1⟩
theorem Zjr {g kk:Nat}:∀{o:Nat} {cs:List HRoutine},REls w G kk g o (V8 cs)->Yu w B (YP cs)->Jh (XS w) B g o cs
 | _,[],_,_=>trivial
 | _,c::r,.cons hl h t,ha=>by
  have ha:Yu w B (XL c++YP r):=ha
  have hk:5=kk:=hl
  subst hk
  exact ⟨Zxr h ha.left,Zjr t ha.right⟩
def nv (y:HNormal):Value:=.agg #[y.dv,y.rv]
def YU:Value->Hd
 | .slice a l c=>⟨a,l,c⟩
 | _=>⟨none,0,0⟩
abbrev av (y:HNormal):AV:=.agg [.h (YU y.dv),.h (YU y.rv)]
def HdY (y:HNormal):Prop:=(YU y.dv).v=y.dv/\(YU y.rv).v=y.rv
theorem Xu.of {B:List Nat} {v:Value} {n:Nat} (h:Xu B v n):(YU v).v=v:=by
 rcases h with ⟨rfl,_⟩|⟨g,cap,rfl,_⟩<;>rfl
theorem Z8p {m:ZK} {B:List Nat} {y:HNormal} (h:Jg m B y):HdY y:=⟨h.1.1.of,h.2.1.of⟩
theorem Z74 {y:HNormal} (h:HdY y):av y=.agg [.val y.dv,.val y.rv]:=by
 show AV.agg [.val (YU y.dv).v,.val (YU y.rv).v]=_
 rw [h.1,h.2]
theorem Ziz {y:HNormal} {u:Value} (h:RV w G (UY y) u):u=nv y:=by
 cases h with
 | agg hc=>cases hc with
  | cons h1 t=>cases t with
   | cons h2 t=>cases t;rw [h1.header,h2.header];rfl
theorem Zxp {y:HNormal} {u:Value} (h:RV w G (UY y) u) (ha:Yu w B (YT y)):Jg (XS w) B y:=by
 cases h with
 | agg hc=>cases hc with
  | cons h1 t=>cases t with
   | cons h2 t=>
    obtain ⟨a1,_,a2⟩:=Z31 h1 ha.right.head.1 ha.right.head.2
    obtain ⟨b1,_,b2⟩:=Z31 h2 ha.right.tail.right.head.1 ha.right.tail.right.head.2
    rw [Zdt] at a1
    rw [Zp7] at b1
    exact ⟨⟨a1,Zao a2 ha.left⟩,b1,Zjr b2 ha.right.tail.left⟩
end
def JA (B:List Nat) (m:ZK) (x:AV) (u:Value):Prop:=
 ∀w:World,(∀b∈B,∃cs e,w.heap[b]? = some (.cells cs e (0,0))/\∀o,cs[o]? = m b o)->RV w (GB B) x u
def Z08 (S:List Nat) (M:ZK) (y:HNormal):Prop:=JA S M (UY y) (nv y)/\HdY y
theorem Zd1 {ts:List (Value × Nat)} {p:Value × Nat} (h:p∈ts):HB (Y3 ts) p.1:=fun _ hg=>Z3i.2 ⟨p,h,hg⟩
theorem Zd2 {w:World} {ts:List (Value × Nat)} (h:∀p∈ts,Ka w p.1 p.2) (hp:ts.Pairwise (fun p q=>∀b o,Jo p.1 p.2 b o->Jo q.1 q.2 b o->False)):(Y3 ts).Nodup:=by
 refine List.pairwise_filterMap.2 (hp.imp_of_mem ?_)
 rintro ⟨v,k⟩ ⟨v',k'⟩ hm hm' hd b hb b' hb' rfl
 rcases h _ hm with e|⟨g,len,cap,cur,el,e,_⟩
 ·simp only at e;subst e;simp [Value.ownBlock] at hb
 rcases h _ hm' with e'|⟨g',len',cap',cur',el',e',_⟩
 ·simp only at e';subst e';simp [Value.ownBlock] at hb'
 simp only at e e'
 subst e;subst e'
 simp only [Value.ownBlock,YF] at hb hb'
 subst hb;subst hb'
 exact hd g' (len*k+len'*k') ⟨rfl,Nat.le_add_right _ _⟩ ⟨rfl,Nat.le_add_left _ _⟩
theorem thaw {w0 w:World} {G0 G':Zs} {y:HNormal} {u:Value} (hh0:HOk w0 G0 []) (hx:Ext w0 G0 [] w G' [.many (YT y)]) (hh:HOk w G' [.many (YT y)]) (hv:RV w G' (UY y) u) :
  HOk w G0 [.own (Y3 (YT y)) (XS w)]/\Ext w0 G0 [] w G0 [.own (Y3 (YT y)) (XS w)]/\Jg (XS w) (Y3 (YT y)) y/\(XY y).Nodup /\
   JA (Y3 (YT y)) (XS w) (UY y) (nv y):=by
 obtain ⟨t1,t2⟩:=hh.ok _ (ZW.2 rfl)
 have ha:Yu w (Y3 (YT y)) (YT y):=fun p hp=>⟨t1 p hp,Zd1 hp⟩
 have hcells:∀b∈Y3 (YT y),∃cs e,w.heap[b]? = some (.cells cs e (0,0))/\∀o,cs[o]? = XS w b o:=by
  intro b hb
  obtain ⟨p,hp,hpb⟩:=Z3i.1 hb
  rcases t1 p hp with e|⟨g,len,cap,cur,el,e,h1,_⟩
  ·rw [e] at hpb;simp [Value.ownBlock] at hpb
  ·rw [e] at hpb
   simp only [Value.ownBlock,YF] at hpb
   subst hpb
   exact ⟨cur,el,h1,fun o=>(cell_of_row w g o cur el (0,0) h1).symm⟩
 have hfresh:∀b∈Y3 (YT y),w0.heap.size<=b:=by
  intro b hb
  obtain ⟨p,hp,hpb⟩:=Z3i.1 hb
  rcases t1 p hp with e|⟨g,len,cap,cur,el,e,h1,_⟩
  ·rw [e] at hpb;simp [Value.ownBlock] at hpb
  ·have e':=e
   rw [e] at hpb
   simp only [Value.ownBlock,YF] at hpb
   subst hpb
   refine Nat.le_of_not_lt fun hlt=>?_
   obtain ⟨r,hr,_⟩:=hx.newfp g (len*p.2) hlt ⟨_,ZW.2 rfl,p,hp,by rw [e'];exact ⟨rfl,Yp _⟩⟩
   cases hr
 have hsk:=Zxp hv ha
 have hrv:=Zsc ha _ hv
 rw [Ziz hv] at hrv
 refine ⟨⟨fun r hr=>?_,Qz _ _,fun r hr b o hf hg=>?_,fun b o hg=>Z1r (hh0.lt b o hg) hx.size⟩,
  ⟨hx.os,hx.tape,hx.output,hx.size,fun _ _ h=>h,hx.same,fun _ _ _ h=>.inl h,fun b o hb hf=>?_⟩,hsk,Zlq hsk (Zd2 t1 t2),fun w' hw'=>?_⟩
 ·rw [ZW.1 hr]
  exact hcells
 ·rw [ZW.1 hr] at hf
  have h1:=hfresh b hf
  have h2:=hh0.lt b o hg
  omega
 ·obtain ⟨r,hr,hf⟩:=hf
  rw [ZW.1 hr] at hf
  have h1:=hfresh b hf
  omega
 ·refine hrv.mono ⟨fun b o hb=>?_,fun _ _ h=>h⟩
  obtain ⟨cs,e,h1,h2⟩:=hcells b hb
  obtain ⟨cs',e',h1',h2'⟩:=hw' b hb
  rw [cell_of_row w b o cs e (0,0) h1,cell_of_row w' b o cs' e' (0,0) h1',h2,h2']
theorem Zd.thaw {P:Program} {f:FuncId} {args:List AV} {Q:HNormal->Prop} (H:Zd P f args [] (fun r h=>∃y:HNormal,r=UY y/\h=[.many (YT y)]/\Q y)) :
  Zd P f args [] (fun r h=>∃(y:HNormal) (S:List Nat) (M:ZK),r=av y/\h=[.own S M]/\(Q y/\Jg M S y/\(XY y).Nodup/\Z08 S M y)):=by
 intro w G vs ha hh
 refine (H w G vs ha hh).mono ?_
 rintro e w' ⟨v,r,h',G',rfl,⟨y,rfl,rfl,hq⟩,hv,hh',hx⟩
 obtain ⟨a1,a2,a3,a4,a5⟩:=Go.Abs.thaw hh hx hh' hv
 rw [Ziz hv]
 exact ⟨_,_,_,_,rfl,⟨y,_,_,rfl,rfl,hq,a3,a4,a5,Z8p a3⟩,by rw [Z74 (Z8p a3)];exact .agg (.cons .val (.cons .val .nil)),a1,a2⟩
inductive ArgO (bs:List Res):List AV->List AV->Prop
 | nil:ArgO bs [] []
 | same {x as1 xs} (t:ArgO bs as1 xs):ArgO bs (x::as1) (x::xs)
 | gen {B m x a u as1 xs} (h:Res.own B m∈bs) (hr:JA B m x u) (ha:∀w G v,RV w G a v->v=u) (t:ArgO bs as1 xs):ArgO bs (a::as1) (x::xs)
theorem ArgO.lent {bs:List Res} {B:List Nat} {m:Nat->Nat->Option Value} {y:HNormal} {as1 xs:List AV} (h:Res.own B m∈bs) (hr:Z08 B m y) (t:ArgO bs as1 xs):ArgO bs (av y::as1) (UY y::xs):=
 .gen h hr.1 (fun w G v h=>by
  rw [Z74 hr.2] at h
  cases h with
  | agg hc=>cases hc with
   | cons h1 t=>cases t with
    | cons h2 t=>cases t;cases h1;cases h2;rfl) t
theorem ArgO.rcs {w:World} {G Gb:Zs} {bs:List Res} (hA:Agree G w w Gb) (hb:∀B m,Res.own B m∈bs->∀x u,JA B m x u->RV w Gb x u) :
  ∀{as1 xs:List AV} {vs:List Value},ArgO bs as1 xs->RCs w G as1 vs->RCs w Gb xs vs
 | _,_,_,.nil,.nil=>.nil
 | _,_,_,.same t,.cons h r=>.cons (h.mono hA) (t.rcs hA hb r)
 | _,_,_,.gen hm hr ha t,.cons (v:=v) h r=>by
  have e:=ha _ _ _ h
  subst e
  exact .cons (hb _ _ hm _ _ hr) (t.rcs hA hb r)
theorem Vg.cleanR {w:World} {G G2:Zs} {q:Res} (h0:Vg w G q) (hcq:Jy q):Vg w G2 q:=by
 cases q with
 | obj b ls=>obtain ⟨cs,el,k1,k2⟩:=h0;exact ⟨cs,el,k1,k2.vals hcq⟩
 | tail v k=>exact h0
 | ge s=>exact h0
 | vec v ls=>
  rcases h0 with ⟨rfl,h0⟩|⟨g,cap,cur,el,rfl,k1,k2,k3,k4⟩
  ·exact .inl ⟨rfl,h0⟩
  ·exact .inr ⟨g,cap,cur,el,rfl,k1,k2,k3,k4.vals hcq⟩
 | many ts=>exact h0
 | own B m=>exact h0
 | row v k ls=>
  rcases h0 with ⟨rfl,h0⟩|⟨g,len,cap,cur,el,rfl,k1,k2,k3,k4,k5⟩
  ·exact .inl ⟨rfl,h0⟩
  ·exact .inr ⟨g,len,cap,cur,el,rfl,k1,k2,k3,k4,k5.vals hcq⟩
theorem Zd.lendO {P:Program} {f:FuncId} {as1 xs:List AV} {h1:List Res} (bs:List Res) {R:AV->List Res->Prop} (H:Zd P f xs h1 R) (hargs:ArgO bs as1 xs)
  (hb:∀r∈bs,∃B m,r=.own B m) (hclean:∀r h',R r h'->Clean h' r/\∀q∈h',Jy q) :
  Zd P f as1 (h1++bs) (fun r h'=>∃h1',R r h1'/\h'=h1'++bs):=by
 intro w G vs hvs hh
 let Gb:Zs:=fun b o=>G b o∨X9 bs b o
 have hA:Agree G w w Gb:=⟨fun _ _ _=>rfl,fun _ _ h=>.inl h⟩
 have hbslt:∀b o,X9 bs b o->b<w.heap.size:=fun b o ⟨q,hq,hf⟩=>(hh.ok q (ZG.2 (.inr hq))).lt b o hf
 have hwhole:∀b o o',X9 bs b o->X9 bs b o':=fun b o o' ⟨q,hq,hf⟩=>⟨q,hq,by
  obtain ⟨B,m,rfl⟩:=hb q hq
  exact hf⟩
 have g3:HOk w Gb h1:=⟨fun r hr=>(hh.ok r (ZG.2 (.inl hr))).same hA,hh.left.apart,fun r hr b o hf hg=>by
   rcases hg with hg|hg
   ·exact hh.prot r (ZG.2 (.inl hr)) b o hf hg
   ·exact hh.cross ⟨r,hr,hf⟩ hg,fun b o hg=>by
   rcases hg with hg|hg
   ·exact hh.lt b o hg
   ·exact hbslt b o hg⟩
 have g4:∀B m,Res.own B m∈bs->∀x u,JA B m x u->RV w Gb x u:=fun B m hm x u hr=>
  (hr w (hh.ok _ (ZG.2 (.inr hm)))).mono ⟨fun _ _ _=>rfl,fun b o hb=>.inr ⟨_,hm,hb⟩⟩
 refine (H w Gb vs (hargs.rcs hA g4 hvs) g3).mono ?_
 rintro e w' ⟨v,r,h',G',rfl,hR,hv,hh',hx⟩
 obtain ⟨c1,c2⟩:=hclean r h' hR
 let G2:Zs:=fun b o=>G' b o/\¬(X9 bs b o)
 have hGkeep:∀b o,G b o->G2 b o:=fun b o hg=>⟨hx.sub b o (.inl hg),fun ⟨q,hq,hf⟩=>hh.prot q (ZG.2 (.inr hq)) b o hf hg⟩
 have hnew:∀v k g,Res.tail v k∈h'->v.ownBlock=some g->∀o,G' g o->G2 g o:=by
  intro v k g hm hg o hgo
  refine ⟨hgo,fun hf=>?_⟩
  have hlt:=hbslt _ _ hf
  rcases hh'.ok _ hm with rfl|⟨g',len,cap,cur,el,rfl,t1,t2,t3⟩
  ·simp [Value.ownBlock] at hg
  ·simp only [Value.ownBlock,YF] at hg
   subst hg
   have hfp:X9 h' g' (len*k):=⟨_,hm,rfl,Yp _⟩
   exact hh.cross (hx.newfp g' (len*k) hlt hfp) (hwhole _ _ _ hf)
 have e1:Ext w G h1 w' G2 h':=⟨hx.os,hx.tape,hx.output,hx.size,hGkeep,hx.same,fun b o hb' hg=>by
  rcases hx.newG b o hb' hg.1 with h|h
  ·rcases h with h|h
   ·exact .inl h
   ·exact absurd h hg.2
  ·exact .inr h,hx.newfp⟩
 have e2:HOk w' G2 h':=⟨fun q hq=>(hh'.ok q hq).cleanR (c2 q hq),hh'.apart,fun q hq b o hf hg=>hh'.prot q hq b o hf hg.1,fun b o hg=>hh'.lt b o hg.1⟩
 obtain ⟨f1,f2⟩:=hh.frame e1 e2
 exact ⟨v,r,h'++bs,G2,rfl,⟨h',hR,rfl⟩,RV.clean hnew c1 hv,f1,f2⟩
section
variable {P:Program} {n:Nat} {ops:Array Oper} {B:Fr->List Res->Prop} {k:Nat} {F:Fr} {h:List Res}
def Zd4 (P:Program) (ops:Array Oper) (F:Fr) (k:Nat):Option (Bool × Bool):=
 match (Zk ops k).op with
 | .binOp .neq t x y _=>match P.underlying t with
  | some .bool=>match F.ev x,F.ev y with
   | .val (.bool a),.val (.bool b)=>some (a,b)
   | _,_=>none
  | _=>none
 | _=>none
theorem Z8z (a b:Bool) (hb:Zd4 P ops F k=some (a,b):=by kernel_rfl):Yz P (Zk ops k) F h [] (.b (a != b)):=by
 unfold Zd4 at hb
 generalize hoo:Zk ops k=o at hb
 obtain ⟨dst,op,type,pos,after,guard⟩:=o
 cases op<;>simp only at hb<;>try (cases hb)
 rename_i bop t x y yt
 cases bop<;>simp only at hb<;>try (cases hb)
 split at hb
 ·rename_i ht
  split at hb
  ·rename_i a' b' h1 h2
   cases hb
   intro n w G ac hF hh
   have v1:=hF.ev x
   have v2:=hF.ev y
   rw [h1] at v1
   rw [h2] at v2
   have v1:=v1.val_inv
   have v2:=v2.val_inv
   refine ⟨_,.val,fun w' _ _=>?_⟩
   simp only [execOp,v1,v2]
   have he:(Op.equalIn (9999+1) t (.bool a) (.bool b)).run P w'=.ok (a==b) w':=by
    rw [Op.equalIn]
    simp [Sem.run_bind,Wz ht]
   refine Wr ?_
   simp only [eqGuard,binOp,Op.equal,Op.maxDepth]
   have he2:(Op.equalIn 10000 t (.bool a) (.bool b)).run P w'=.ok (a==b) w':=he
   simp [Sem.run_bind,he2,bne]
  ·cases hb
 ·cases hb
end
open Go.Proofs
theorem Zuz {xs:List Int} {k:Nat} {n x:Int} (h:n∉xs.take k) (hx:xs[k]? = some x) (hn:¬x=n):n∉xs.take (k+1):=by
 rw [List.take_add_one,hx]
 simp only [Option.toList_some,ZG,ZW]
 exact fun q=>q.elim h fun q=>hn q.symm
theorem Zus {xs:List Int} {k:Nat} {n x:Int} (hx:xs[k]? = some x) (hn:x=n):n∈xs:=hn▸ZV hx
theorem Un (n:Int) (low:Int) (high:Int) :Zd Tryz.prog 106 [.i n,.i low,.i high] [] (fun r h=>r=.b (decide (low<=n/\n<=high))/\h=[]):=by
 refine enter Tryz.func106 kr (n:=15) kr kr (ar (ir 1 [(0,.i n),(1,.i low),(2,.i high)] (ie (ar (YV 8 [(14,.b ((decide (low<=n))&&(decide (n<=high))))] [] ?_ (fun hj1=>?_))))))
 ·refine ir 1 [(6,.b ((decide (low<=n))&&(decide (n<=high))))] (ie ?_)
  exact Z5 (r2 [] [.b ((decide (low<=n))&&(decide (n<=high)))] ⟨rfl,rfl⟩ (lb (by rw [YW];simp)))
 refine ir 4 [(0,.i n),(2,.i high),(10,.b (decide (low<=n)))] (ib (b:=(decide (low<=n))) 10 (fun hb1=>?_) (fun hb1=>?_))
 ·have hp1:low<=n:=(dq).1 hb1
  refine ir 4 [(14,.b (decide (n<=high)))] ?_
  exact ZL (wk [] (fc (x:=.b (decide (n<=high))) (lb (by simp only [hb1];rfl)) fl)) hj1
 have hp2:¬(low<=n):=Zv dq hb1
 refine ir 4 [(14,.b false)] ?_
 exact ZL (wk [] (fc (x:=.b false) (lb (by simp only [hb1];rfl)) fl)) hj1
theorem Zaz (xs:List Int) (n:Int) (hlen:xs.length<=4294967296:=by exact ob):Zd Tryz.prog 107 [Z1 xs,.i n] [] (fun r h=>r=.b (decide (n∈xs))/\h=[]):=by
 refine enter Tryz.func107 kr (n:=18) kr kr (ar (ir 1 [(0,Z1 xs),(1,.i n)] (ie (aq (ar (Z0 1 (.n 5 (.i 0) .r) (ie (ab 0 (al (fun m F h=>∃(k:Nat),(k<=xs.length)/\(n∉xs.take k)/\F=[(0,Z1 xs),(1,.i n),(5,.i k)]/\h=[]/\m=xs.length-k) _ _ _ ⟨0,ob,ob,rfl,rfl,rfl⟩ (wk [] (fw (fc (x:=.i 0) li fl))) ?_)))))))))
 rintro m F h ⟨k,c0_0,c0_1,rfl,rfl,rfl⟩
 refine aq (ar (Z0 2 (.n 6 (.i k) (.n 7 (Z1 xs) .r)) (iw (ZD xs) (Z0 1 (.n 9 (.b (decide ((k:Int)<(xs.length:Int)))) .r) (ie (ac (decide ((k:Int)<(xs.length:Int))) dq (fun hc1=>?_) (fun hc1=>?_)))))))
 ·refine ak (aq (ab 1 (ar (Z0 2 (.n 12 (Z1 xs) (.n 13 (.i k) .r)) ?_))))
  obtain ⟨x1,hx1⟩:=Zl (xs:=xs) (j:=k) om
  refine Zf (Zj (es:=Z6 xs) (hv:=none) (j:=(k:Int)) (sz:=1) (y:=.i x1) kr om (ZH hx1) rfl) (Z0 3 (.n 17 (.b (x1==n)) .r) (ie (ac (x1==n) Ze (fun hc2=>?_) (fun hc2=>?_))))
  ·refine ar (ir 1 [(4,.b true)] (ie ?_))
   exact Z5 (r2 [] [.b true] ⟨rfl,rfl⟩ (lb (by rw [eq_comm,dq];exact Zus hx1 hc2)))
  refine ak (az (Z0 1 (.n 10 (.i k) .r) (ia (((k+1:Nat):Int)) (((k:Int))+(1)) (ir 1 [(0,Z1 xs),(1,.i n),(5,.i (k+1:Nat))] (ie ?_)))))
  exact ⟨_,_,_,ob,⟨k+1,ob,(Zuz c0_1 hx1 hc2),rfl,rfl,rfl⟩,(wk [] (fw (fc (x:=.i (k+1:Nat)) li fl)))⟩
 refine ax 0 (ar (ir 1 [(4,.b false)] (ie ?_)))
 have hke:k=xs.length:=by omega
 exact Z5 (r2 [] [.b false] ⟨rfl,rfl⟩ (lb (by rw [eq_comm,decide_eq_false_iff_not];rw [hke,Qh] at c0_1;exact c0_1)))
theorem K3 (xs:List Int) (hlen:xs.length<=4294967296:=by exact ob):Zd Tryz.prog 41 [Z1 xs] [] (fun r h=>∃(v:Value),r=Zb xs v/\h=[.tail v 1]):=by
 refine enter Tryz.func41 kr (n:=6) kr kr (ar (ir 1 [(0,Z1 xs)] (ie (ar (iL (Z6 []) 0 1 ?_)))))
 intro v1
 refine Z0 1 (.n 4 (Z1 xs) .r) (ip 0 (Z6 xs) (Z6 []) (Z6 xs) v1 none 1 (YS _) (YS _) (VL _) (by simp<;>omega) (by simp [Z6]) ?_)
 intro v2
 refine ir 1 [(2,Zb xs v2)] (ie ?_)
 exact Z5 (r1 [0] ⟨v2,rfl,rfl⟩)
theorem Zay (ds:List Decl) (n:Nat) (hd:DOk ds:=by exact ob) (hn:n<=ds.length:=by exact ob):Zd Tryz.prog 115 [Z3 ds,.i n] [] (fun r h=>r=.i ((ZA (ds.take n):Nat):Int)/\h=[]):=by
 refine enter Tryz.func115 kr (n:=21) kr kr (ar (ir 1 [(0,Z3 ds),(1,.i n)] (ie (ar (Z0 1 (.n 5 (.i 0) .r) (ie (aq (ar (Z0 1 (.n 6 (.i 0) .r) (ie (ab 0 (al (fun m F h=>∃(k:Nat),(k<=n)/\F=[(0,Z3 ds),(1,.i n),(5,.i ((ZA (ds.take k):Nat):Int)),(6,.i k)]/\h=[]/\m=n-k) _ _ _ ⟨0,ob,rfl,rfl,rfl⟩ (wk [] (fw (fc (x:=.i 0) li (fc (x:=.i 0) li fl)))) ?_))))))))))))
 rintro m F h ⟨k,c0_0,rfl,rfl,rfl⟩
 refine aq (ar (Z0 3 (.n 9 (.b (decide ((k:Int)<(n:Int)))) .r) (ie (ac (decide ((k:Int)<(n:Int))) dq (fun hc1=>?_) (fun hc1=>?_)))))
 ·refine ak (aq (ab 1 (az (Z0 3 (.n 12 (.i ((ZA (ds.take k):Nat):Int)) (.n 13 (Z3 ds) (.n 14 (.i k) .r))) ?_))))
  obtain ⟨x1,hx1⟩:=Zl (xs:=ds) (j:=k) om
  refine Zf (Zj (es:=ZQ ds) (hv:=none) (j:=(k:Int)) (sz:=3) (y:=Yw x1) kr om (Wd hx1) rfl) (Z0 2 (.n 17 (Y8 x1.cons) .r) (iw (Wc x1.cons) (ia ((((ZA (ds.take k))+x1.cons.length:Nat):Int)) ((((ZA (ds.take k):Nat):Int))+((x1.cons.length:Int))) (hb:=(by have h1:=hd.cons_at hx1;have h2:=(hd.take k).sum;omega)) (Z0 1 (.n 5 (.i (((ZA (ds.take k))+x1.cons.length:Nat):Int)) (.p (.p (.d (.p (.d (.d (.d (.d (.k (.k (.d .r)))))))))))) (ie (az (Z0 1 (.n 10 (.i k) .r) (ia (((k+1:Nat):Int)) (((k:Int))+(1)) (hb:=(by have:=hd.len;omega)) (Z0 1 (.n 6 (.i (k+1:Nat)) (.p (.d (.k (.k (.k .z)))))) (ie ?_))))))))))
  have hsn:ZA (ds.take (k+1))=ZA (ds.take k)+x1.cons.length:=by rw [V3 hx1,Z1z];simp [ZA]
  exact ⟨_,_,_,ob,⟨k+1,ob,rfl,rfl,rfl⟩,(wk [] (fw (fc (x:=.i (((ZA (ds.take k))+x1.cons.length:Nat):Int)) li (fc (x:=.i (k+1:Nat)) li fl))))⟩
 refine ax 0 (ar (ir 2 [(4,.i ((ZA (ds.take k):Nat):Int))] (ie ?_)))
 have hke:k=n:=by omega
 subst hke
 exact Z5 (r2 [] [.i ((ZA (ds.take k):Nat):Int)] ⟨rfl,rfl⟩ li)
theorem Zaw (ds:List Decl) (c:Int) (hd:DOk ds:=by exact ob):Zd Tryz.prog 114 [Z3 ds,.i c] [] (fun r h=>r=.i (Yr ds c)/\h=[]):=by
 refine enter Tryz.func114 kr (n:=30) kr kr (ar (ir 1 [(0,Z3 ds),(1,.i c)] (ie (aq (ar (Z0 1 (.n 5 (.i 0) .r) (ie (ab 0 (al (fun m F h=>∃(k:Nat),(k<=ds.length)/\((VG c (ds.drop k) k (ZA (ds.take k))).1=Yr ds c)/\F=[(0,Z3 ds),(1,.i c),(5,.i k)]/\h=[]/\m=ds.length-k) _ _ _ ⟨0,ob,(by rfl),rfl,rfl,rfl⟩ (wk [] (fw (fc (x:=.i 0) li fl))) ?_)))))))))
 rintro m F h ⟨k,c0_0,c0_1,rfl,rfl,rfl⟩
 refine aq (ar (Z0 2 (.n 7 (.i k) (.n 8 (Z3 ds) .r)) (iw (Wv ds) (Z0 1 (.n 10 (.b (decide ((k:Int)<(ds.length:Int)))) .r) (ie (ac (decide ((k:Int)<(ds.length:Int))) dq (fun hc1=>?_) (fun hc1=>?_)))))))
 ·refine ak (aq (ab 1 (ar (Z0 2 (.n 13 (Z3 ds) (.n 14 (.i k) .r)) (ic [] (Zay ds k) ?_)))))
  rintro _ _ ⟨rfl,rfl⟩
  refine Z0 1 (.n 6 (.i ((ZA (ds.take k):Nat):Int)) .r) (ie (ar (Z0 5 (.n 16 (.i c) (.n 17 (.i ((ZA (ds.take k):Nat):Int)) (.n 18 (.i ((ZA (ds.take k):Nat):Int)) (.n 19 (Z3 ds) (.n 20 (.i k) .r))))) ?_)))
  obtain ⟨x1,hx1⟩:=Zl (xs:=ds) (j:=k) om
  refine Zf (Zj (es:=ZQ ds) (hv:=none) (j:=(k:Int)) (sz:=3) (y:=Yw x1) kr om (Wd hx1) rfl) (Z0 2 (.n 23 (Y8 x1.cons) .r) (iw (Wc x1.cons) (ia ((((ZA (ds.take k))+x1.cons.length:Nat):Int)) ((((ZA (ds.take k):Nat):Int))+((x1.cons.length:Int))) (hb:=(by have h1:=hd.cons_at hx1;have h2:=(hd.take k).sum;omega)) (ia (((((ZA (ds.take k))+x1.cons.length:Nat):Int)-1)) (((((ZA (ds.take k))+x1.cons.length:Nat):Int))-(1)) (hb:=(by have h1:=hd.cons_at hx1;have h2:=(hd.take k).sum;omega)) (ic [] (Un c ((ZA (ds.take k):Nat):Int) ((((ZA (ds.take k))+x1.cons.length:Nat):Int)-1)) ?_)))))
  rintro _ _ ⟨rfl,rfl⟩
  refine ie (ac (decide (((ZA (ds.take k):Nat):Int)<=c/\c<=((((ZA (ds.take k))+x1.cons.length:Nat):Int)-1))) dq (fun hc2=>?_) (fun hc2=>?_))
  ·refine ar (ir 1 [(28,.i k)] (ia (((k+1:Nat):Int)) (((k:Int))+(1)) (hb:=(by have h2:=hd.len;omega)) (ir 1 [(4,.i (k+1:Nat))] (ie ?_))))
   exact Z5 (r2 [] [.i (k+1:Nat)] ⟨rfl,rfl⟩ (li (by rw [<-c0_1,Zu hx1,VG,Z8 hc2];rfl)))
  refine ak (az (Z0 1 (.n 11 (.i k) .r) (ia (((k+1:Nat):Int)) (((k:Int))+(1)) (hb:=(by have h2:=hd.len;omega)) (ir 1 [(0,Z3 ds),(1,.i c),(5,.i (k+1:Nat))] (ie ?_)))))
  have hdr:=Zu hx1
  exact ⟨_,_,_,ob,⟨k+1,ob,(by rw [hdr] at c0_1;rw [<-c0_1,VG,Z4 hc2,V3 hx1,Z1z];rfl),rfl,rfl,rfl⟩,(wk [] (fw (fc (x:=.i (k+1:Nat)) li fl)))⟩
 refine ax 0 (ar (ir 1 [(4,.i (-1))] (ie ?_)))
 exact Z5 (r2 [] [.i (-1)] ⟨rfl,rfl⟩ (li (by rw [<-c0_1,Ye om];rfl)))
theorem Z1b (ds:List Decl) (c:Int) (hd:DOk ds:=by exact ob):Zd Tryz.prog 77 [Z3 ds,.i c] [] (fun r h=>r=Z1 (Zc ds c)/\h=[]):=by
 refine enter Tryz.func77 kr (n:=27) kr kr (ar (ir 1 [(0,Z3 ds),(1,.i c)] (ie (ar (Z0 2 (.n 6 (Z3 ds) (.n 7 (.i c) .r)) (ic [] (Zaw ds c) ?_))))))
 rintro _ _ ⟨rfl,rfl⟩
 refine Z0 1 (.n 5 (.i (Yr ds c)) .r) (ie (aq (ar (Z0 2 (.n 10 (.b (decide ((Yr ds c)<1))) .r) (ie (ac (decide ((Yr ds c)<1)) dq (fun hc1=>?_) (fun hc1=>?_)))))))
 ·refine ar (iL (Z6 []) 0 1 ?_)
  intro v1
  refine ir 1 [(4,Zb [] v1)] (ie ?_)
  exact Z5 (r2 [] [Zb [] v1] ⟨rfl,rfl⟩ (Zg.sl _ (Y1 Z6 (by rw [(Z43 hc1).1]))))
 obtain ⟨k,d,x,hk1,hk2,hk3,hk4,hk5⟩:=Z7h hc1
 have hkl:=(Yg.1 hk1).1
 have hxl:=(Yg.1 hk3).1
 have hsm:=(hd.take k).sum
 have hdl:=hd.cons_at hk1
 have hdn:=hd.len
 refine ak (aD 16 (Zi (fuel:=14) 16 [0,1] (.n 12 (Z3 ds) (.n 13 (.i (Yr ds c)) .r)) (da 2 ((k:Int)) ((Yr ds c)-(1)) (hb:=(by have:=hd.len;omega)) ?_)))
 obtain ⟨x1,hx1⟩:=Zl (xs:=ds) (j:=k) om
 have hxe:x1=d:=by rw [hk1] at hx1;exact (U6 hx1).symm
 subst hxe
 refine dx 3 (Zj (es:=ZQ ds) (hv:=none) (j:=(k:Int)) (sz:=3) (y:=Yw x1) kr om (Wd hx1) rfl) (dt (fuel:=7) 12 [4,5,6,7,8] [(17,Y8 x1.cons),(18,.i c),(19,Z3 ds),(20,.i (Yr ds c))] (da 9 ((k:Int)) ((Yr ds c)-(1)) (hb:=(by have:=hd.len;omega)) (Zm 10 (dc 10 [] [] [] (Zay ds k) ?_))))
 rintro _ _ ⟨rfl,rfl⟩
 refine da 11 ((c-((ZA (ds.take k):Nat):Int))) ((c)-(((ZA (ds.take k):Nat):Int))) ?_
 obtain ⟨x2,hx2⟩:=Zl (xs:=x1.cons) (j:=(c-((ZA (ds.take k):Nat):Int)).toNat) om
 have hxe:x2=x:=by rw [show (c - ↑(ZA (ds.take k))).toNat=(c-ZA (ds.take k)).toNat from rfl,hk3] at hx2;exact (U6 hx2).symm
 subst hxe
 refine dx 12 (Zj (es:=YH x1.cons) (hv:=none) (j:=(c-((ZA (ds.take k):Nat):Int))) (sz:=1) (y:=Wm x2) kr om (Qq hx2) rfl) (dt (fuel:=0) 3 [13,14,15] [(4,Z1 x2.fields)] (de ?_))
 exact Z5 (r2 [] [Z1 x2.fields] ⟨rfl,rfl⟩ (Zg.sl _ (Y1 Z6 hk5.symm)))
theorem Zax (ds:List Decl) (t:Int) (hd:DOk ds:=by exact ob):Zd Tryz.prog 112 [Z3 ds,.i t] [] (fun r h=>∃(v:Value),r=Zb (Zt ds t) v/\h=[.tail v 1]):=by
 have hdn:=hd.len
 refine enter Tryz.func112 kr (n:=35) kr kr (ar (ir 1 [(0,Z3 ds),(1,.i t)] (ie (ar (iL (Z6 []) 0 1 ?_)))))
 intro v1
 refine Z0 1 (.n 5 (Zb [] v1) .r) (ie (aq (ar (Z0 2 (.n 8 (.i t) (.n 9 (Z3 ds) .r)) (iw (Wv ds) (ic [] (Un t 1 (ds.length:Int)) ?_))))))
 rintro _ _ ⟨rfl,rfl⟩
 refine Z0 1 (.n 12 (.b (!(decide (1<=t/\t<=(ds.length:Int))))) .r) (ie (ac (!(decide (1<=t/\t<=(ds.length:Int)))) (p:=¬(1<=t/\t<=(ds.length:Int))) (ZP dq) (fun hc1=>?_) (fun hc1=>?_)))
 ·refine ar (ir 2 [(4,Zb [] v1)] (ie ?_))
  exact Z5 (r2 [0] [Zb [] v1] ⟨v1,rfl,rfl⟩ (Zg.slh _ (Y1 Z6 (by simp [Zt];omega))))
 have hc1:1<=t/\t<=ds.length:=by simpa using hc1
 obtain ⟨d,hd1⟩:=Zl (xs:=ds) (j:=(t-1).toNat) om
 have hdc:=hd.cons_at hd1
 have hsm:=(hd.take (t-1).toNat).sum
 refine ak (aq (ar (Z0 1 (.n 6 (.i 0) .r) (ie (ab 0 (al (fun m F h=>∃(k:Nat) (v:Value),(k<=d.cons.length)/\F=[(0,Z3 ds),(1,.i t),(5,Zb (Xy (ZA (ds.take (t-1).toNat)) k) v),(6,.i k)]/\h=[.tail v 1]/\m=d.cons.length-k) _ _ _ ⟨0,v1,(by first|omega|rfl|(simp<;>omega)|grind [Zt,Xy]),rfl,rfl,rfl⟩ (wk [0] (fw (fc (x:=Zb [] v1) (Zg.slh _ (Y1 Z6 (by first|omega|rfl|(simp<;>omega)|grind [Zt,Xy]))) (fc (x:=.i 0) (li (by first|omega|rfl|(simp<;>omega)|grind [Zt,Xy])) fl)))) ?_))))))
 rintro m F h ⟨k,v,c0_0,rfl,rfl,rfl⟩
 refine aq (ar (Z0 3 (.n 14 (.i k) (.n 15 (Z3 ds) (.n 16 (.i t) .r))) (ia ((((t-1).toNat:Nat):Int)) ((t)-(1)) (Zf (Zj (es:=ZQ ds) (hv:=none) (j:=(((t-1).toNat:Nat):Int)) (sz:=3) (y:=Yw d) kr om (Wd hd1) rfl) (Z0 2 (.n 20 (Y8 d.cons) .r) (iw (Wc d.cons) (Z0 1 (.n 22 (.b (decide ((k:Int)<(d.cons.length:Int)))) .r) (ie (ac (decide ((k:Int)<(d.cons.length:Int))) dq (fun hc2=>?_) (fun hc2=>?_))))))))))
 ·refine ak (aq (ab 1 (az (Z0 3 (.n 25 (Zb (Xy (ZA (ds.take (t-1).toNat)) k) v) (.n 26 (Z3 ds) (.n 27 (.i t) .r))) (ia ((((t-1).toNat:Nat):Int)) ((t)-(1)) (ic [] (Zay ds ((t-1).toNat) (hd:=(by first|omega|rfl|(simp<;>omega)|grind [Zt,Xy])) (hn:=(by first|omega|rfl|(simp<;>omega)|grind [Zt,Xy]))) ?_))))))
  rintro _ _ ⟨rfl,rfl⟩
  refine Z0 1 (.n 30 (.i k) .r) (ia ((((ZA (ds.take ((t-1).toNat)))+k:Nat):Int)) ((((ZA (ds.take ((t-1).toNat)):Nat):Int))+((k:Int))) (iL (Z6 [(((ZA (ds.take ((t-1).toNat)))+k:Nat):Int)]) 1 1 ?_))
  intro v2
  refine Z0 0 (.n 32 (Z1 [(((ZA (ds.take ((t-1).toNat)))+k:Nat):Int)]) (.p .r)) (ip 1 (Z6 (Xy (ZA (ds.take (t-1).toNat)) k++[(((ZA (ds.take ((t-1).toNat)))+k:Nat):Int)])) (Z6 (Xy (ZA (ds.take (t-1).toNat)) k)) (Z6 [(((ZA (ds.take ((t-1).toNat)))+k:Nat):Int)]) v none 1 (YS _) (YS _) (VL _) (by simp<;>omega) (by simp [VK,Z6]) ?_)
  intro v3
  refine ir 1 [(0,Z3 ds),(1,.i t),(5,Zb (Xy (ZA (ds.take (t-1).toNat)) k++[(((ZA (ds.take ((t-1).toNat)))+k:Nat):Int)]) v3),(6,.i k)] (ie (az (Z0 1 (.n 23 (.i k) .r) (ia (((k+1:Nat):Int)) (((k:Int))+(1)) (Z0 1 (.n 6 (.i (k+1:Nat)) (.p (.d (.k (.k (.k .z)))))) (ie ?_))))))
  exact ⟨_,_,_,(by first|omega|rfl|(simp<;>omega)|grind [Zt,Xy]),⟨k+1,v3,(by first|omega|rfl|(simp<;>omega)|grind [Zt,Xy]),rfl,rfl,rfl⟩,(wk [0] (fw (fc (x:=Zb (Xy (ZA (ds.take (t-1).toNat)) k++[(((ZA (ds.take ((t-1).toNat)))+k:Nat):Int)]) v3) (Zg.slh _ (Y1 Z6 (Zhl _ _).symm)) (fc (x:=.i (k+1:Nat)) (li (by first|omega|rfl|(simp<;>omega)|grind [Zt,Xy])) fl))))⟩
 refine ax 0 (ar (ir 2 [(4,Zb (Xy (ZA (ds.take (t-1).toNat)) k) v)] (ie ?_)))
 exact Z5 (r2 [0] [Zb (Xy (ZA (ds.take (t-1).toNat)) k) v] ⟨v,rfl,rfl⟩ (Zg.slh _ (Y1 Z6 (by rw [Zt,Z8 hc1,hd1,show k=d.cons.length by omega];rfl))))
theorem Zy0 (ds:List Decl) (frm:Int) (to_:Int) (hl_ds:ds.length<=4294967296:=by exact ob):Zd Tryz.prog 159 [Z3 ds,.i frm,.i to_] [] (fun r h=>r=.i (WV ds frm to_)/\h=[]):=by
 refine enter Tryz.func159 kr (n:=41) kr kr (ar (ir 1 [(0,Z3 ds),(1,.i frm),(2,.i to_)] (ie (aq (ar (Z0 1 (.n 7 (.i 0) .r) (ie (ab 0 (al (fun m F h=>∃(k:Nat),(k<=ds.length)/\(Tl frm to_ (ds.drop k) k=WV ds frm to_)/\F=[(0,Z3 ds),(1,.i frm),(2,.i to_),(7,.i k)]/\h=[]/\m=ds.length-k) _ _ _ ⟨0,ob,ob,rfl,rfl,rfl⟩ (wk [] (fw (fr (fc (x:=.i 0) li fl)))) ?_)))))))))
 rintro m F h ⟨k,c0_0,c0_1,rfl,rfl,rfl⟩
 refine aq (ar (Z0 2 (.n 8 (.i k) (.n 9 (Z3 ds) .r)) (iw (Wv ds) (Z0 1 (.n 11 (.b (decide ((k:Int)<(ds.length:Int)))) .r) (ie (ac (decide ((k:Int)<(ds.length:Int))) dq (fun hc1=>?_) (fun hc1=>?_)))))))
 ·refine ak (aq (ab 1 (ar (Z0 2 (.n 14 (Z3 ds) (.n 15 (.i k) .r)) ?_))))
  obtain ⟨x1,hx1⟩:=Zl (xs:=ds) (j:=k) om
  refine Zf (Zj (es:=ZQ ds) (hv:=none) (j:=(k:Int)) (sz:=3) (y:=Yw x1) kr om (Wd hx1) rfl) (Z0 2 (.n 18 (Y8 x1.cons) .r) (iw (Wc x1.cons) (YV 16 [(0,Z3 ds),(1,.i frm),(2,.i to_),(7,.i k),(29,.b (((x1.cons.length:Int)==0)&&(x1.frm==frm)))] [] ?_ (fun hj1=>?_))))
  ·refine Xl [(0,Z3 ds),(1,.i frm),(2,.i to_),(7,.i k),(38,.b ((((x1.cons.length:Int)==0)&&(x1.frm==frm))&&(x1.to_==to_)))] [] ?_ ?_
   ·refine ir 1 [(0,Z3 ds),(1,.i frm),(2,.i to_),(7,.i k),(30,.b (((x1.cons.length:Int)==0)&&(x1.frm==frm)))] (ib (b:=(((x1.cons.length:Int)==0)&&(x1.frm==frm))) 30 (fun hb1=>?_) (fun hb1=>?_))
    ·have hp1:((x1.cons.length:Int)=0)/\(x1.frm=frm):=((ZZ Ze Ze)).1 hb1
     refine Z0 2 (.n 31 (Z3 ds) (.n 32 (.i k) (.w (.k .z)))) (Zf (Zj (es:=ZQ ds) (hv:=none) (j:=(k:Int)) (sz:=3) (y:=Yw x1) kr om (Wd hx1) rfl) (Z0 5 (.n 38 (.b (x1.to_==to_)) .r) (ie ?_)))
     exact wk [] (fq (fc (x:=.b (x1.to_==to_)) (lb (by simp only [hb1];rfl)) fl))
    have hp2:¬(((x1.cons.length:Int)=0)/\(x1.frm=frm)):=Zv (ZZ Ze Ze) hb1
    refine Z0 8 (.n 38 (.b false) (.d (.w .z))) (ie ?_)
    exact wk [] (fq (fc (x:=.b false) (lb (by simp only [hb1];rfl)) fl))
   refine ac ((((x1.cons.length:Int)==0)&&(x1.frm==frm))&&(x1.to_==to_)) (p:=(((x1.cons.length:Int)=0)/\(x1.frm=frm))/\(x1.to_=to_)) (ZZ (ZZ Ze Ze) Ze) (fun hc2=>?_) (fun hc2=>?_)
   ·refine ar (ir 1 [(39,.i k)] (ia (((k+1:Nat):Int)) (((k:Int))+(1)) (ir 1 [(6,.i (k+1:Nat))] (ie ?_))))
    rw [Zu hx1] at c0_1
    exact Z5 (r2 [] [.i (k+1:Nat)] ⟨rfl,rfl⟩ (li (by clear hx1;first|rfl|omega|grind [Tl])))
   refine ak (az (ir 1 [(0,Z3 ds),(1,.i frm),(2,.i to_),(12,.i k)] (ia (((k+1:Nat):Int)) (((k:Int))+(1)) (Z0 1 (.n 7 (.i (k+1:Nat)) .r) (ie ?_)))))
   have hdr:=Zu hx1
   exact ⟨_,_,_,ob,⟨k+1,ob,(by rw [hdr] at c0_1;clear hdr hx1;grind [Tl]),rfl,rfl,rfl⟩,(wk [] (fw (fr (fc (x:=.i (k+1:Nat)) li fl))))⟩
  refine ir 2 [(0,Z3 ds),(1,.i frm),(2,.i to_),(7,.i k),(21,.b ((x1.cons.length:Int)==0))] (ib (b:=((x1.cons.length:Int)==0)) 21 (fun hb2=>?_) (fun hb2=>?_))
  ·have hp3:(x1.cons.length:Int)=0:=(Ze).1 hb2
   refine Z0 2 (.n 22 (Z3 ds) (.n 23 (.i k) (.w (.k .z)))) (Zf (Zj (es:=ZQ ds) (hv:=none) (j:=(k:Int)) (sz:=3) (y:=Yw x1) kr om (Wd hx1) rfl) (Z0 5 (.n 29 (.b (x1.frm==frm)) .r) ?_))
   exact ZL (wk [] (fq (fc (x:=.b (x1.frm==frm)) (lb (by simp only [hb2];rfl)) fl))) hj1
  have hp4:¬((x1.cons.length:Int)=0):=Zv Ze hb2
  refine Z0 8 (.n 29 (.b false) (.d (.w .z))) ?_
  exact ZL (wk [] (fq (fc (x:=.b false) (lb (by simp only [hb2];rfl)) fl))) hj1
 refine ax 0 (ar (ir 1 [(6,.i (-1))] (ie ?_)))
 try rw [Ye (xs:=ds) (k:=k) om] at c0_1
 exact Z5 (r2 [] [.i (-1)] ⟨rfl,rfl⟩ (li (by first|rfl|omega|grind [Tl])))
theorem Zjx (ds:List Decl) (t:Int) (hd:DOk ds:=by exact ob):Zd Tryz.prog 139 [Z3 ds,.i t] [] (fun r h=>r=.b (Yv ds t)/\h=[]):=by
 have hdn:=hd.len
 refine enter Tryz.func139 kr (n:=19) kr kr (ar (ir 1 [(0,Z3 ds),(1,.i t)] (ie (ar (Z0 2 (.n 5 (.i t) (.n 6 (Z3 ds) .r)) (iw (Wv ds) (ic [] (Un t 1 (ds.length:Int)) ?_)))))))
 rintro _ _ ⟨rfl,rfl⟩
 refine Z0 1 (.n 9 (.b (decide (1<=t/\t<=(ds.length:Int)))) .r) (ib (b:=(decide (1<=t/\t<=(ds.length:Int)))) 9 (fun hb1=>?_) (fun hb1=>?_))
 ·have hp1:1<=t/\t<=(ds.length:Int):=(dq).1 hb1
  refine Z0 2 (.n 10 (Z3 ds) (.n 11 (.i t) (.k .z))) (ia ((t-1)) ((t)-(1)) ?_)
  obtain ⟨x1,hx1⟩:=Zl (xs:=ds) (j:=(t-1).toNat) om
  refine Zf (Zj (es:=ZQ ds) (hv:=none) (j:=(t-1)) (sz:=3) (y:=Yw x1) kr om (Wd hx1) rfl) (Z0 2 (.n 15 (Y8 x1.cons) .r) (iw (Wc x1.cons) (ir 3 [(4,.b ((x1.cons.length:Int)==0))] (ie ?_))))
  exact Z5 (r2 [] [.b ((x1.cons.length:Int)==0)] ⟨rfl,rfl⟩ (lb (by first|omega|rfl|(rw [Z4z hp1 hx1])|exact Z8w hp2)))
 have hp2:¬(1<=t/\t<=(ds.length:Int)):=Zv dq hb1
 refine ir 10 [(4,.b false)] (ie ?_)
 exact Z5 (r2 [] [.b false] ⟨rfl,rfl⟩ (lb (by first|omega|rfl|(rw [Z4z hp1 hx1])|exact Z8w hp2)))
theorem Z1c (xs:List Int) (ys:List Int) (hl:xs.length+ys.length<=4294967296:=by exact ob):Zd Tryz.prog 75 [Z1 xs,Z1 ys] [] (fun r h=>∃(v:Value),r=Zb (xs++ys) v/\h=[.tail v 1]):=by
 refine enter Tryz.func75 kr (n:=9) kr kr (ar (ir 1 [(0,Z1 xs),(1,Z1 ys)] (ie (ar (Z0 1 (.n 5 (Z1 xs) .r) (ic [] (K3 xs) ?_))))))
 rintro _ _ ⟨v1,rfl,rfl⟩
 refine Z0 1 (.n 7 (Z1 ys) .r) (ip 0 (Z6 (xs++ys)) (Z6 xs) (Z6 ys) v1 none 1 (YS _) (YS _) (VL _) (by simp<;>omega) (by simp [VK,Z6]) ?_)
 intro v2
 refine ir 1 [(4,Zb (xs++ys) v2)] (ie ?_)
 exact Z5 (r1 [0] ⟨v2,rfl,rfl⟩)
theorem Zjv (ds:List Decl) (xs:List Int) (hl_ds:ds.length<=4294967296:=by exact ob) (hl_xs:xs.length<=4294967296:=by exact ob):Zd Tryz.prog 133 [Z3 ds,Z1 xs] [] (fun r h=>r=.b (YK ds.length xs)/\h=[]):=by
 refine enter Tryz.func133 kr (n:=20) kr kr (ar (ir 1 [(0,Z3 ds),(1,Z1 xs)] (ie (aq (ar (Z0 1 (.n 5 (.i 0) .r) (ie (ab 0 (al (fun m F h=>∃(k:Nat),(k<=xs.length)/\(YK ds.length (xs.drop k)=YK ds.length xs)/\F=[(0,Z3 ds),(1,Z1 xs),(5,.i k)]/\h=[]/\m=xs.length-k) _ _ _ ⟨0,ob,ob,rfl,rfl,rfl⟩ (wk [] (fw (fc (x:=.i 0) li fl))) ?_)))))))))
 rintro m F h ⟨k,c0_0,c0_1,rfl,rfl,rfl⟩
 refine aq (ar (Z0 2 (.n 6 (.i k) (.n 7 (Z1 xs) .r)) (iw (ZD xs) (Z0 1 (.n 9 (.b (decide ((k:Int)<(xs.length:Int)))) .r) (ie (ac (decide ((k:Int)<(xs.length:Int))) dq (fun hc1=>?_) (fun hc1=>?_)))))))
 ·refine ak (aq (ab 1 (ar (Z0 2 (.n 12 (Z1 xs) (.n 13 (.i k) .r)) ?_))))
  obtain ⟨x1,hx1⟩:=Zl (xs:=xs) (j:=k) om
  refine Zf (Zj (es:=Z6 xs) (hv:=none) (j:=(k:Int)) (sz:=1) (y:=.i x1) kr om (ZH hx1) rfl) (Z0 2 (.n 15 (.i x1) (.n 16 (Z3 ds) .r)) (iw (Wv ds) (ic [] (Un x1 0 (ds.length:Int)) ?_)))
  rintro _ _ ⟨rfl,rfl⟩
  refine Z0 1 (.n 19 (.b (!(decide (0<=x1/\x1<=(ds.length:Int))))) .r) (ie (ac (!(decide (0<=x1/\x1<=(ds.length:Int)))) (p:=¬(0<=x1/\x1<=(ds.length:Int))) (ZP dq) (fun hc2=>?_) (fun hc2=>?_)))
  ·refine ar (ir 1 [(4,.b false)] (ie ?_))
   rw [Zu hx1] at c0_1
   exact Z5 (r2 [] [.b false] ⟨rfl,rfl⟩ (lb (by clear hx1;first|rfl|omega|grind [YK])))
  refine ak (az (Z0 1 (.n 10 (.i k) .r) (ia (((k+1:Nat):Int)) (((k:Int))+(1)) (ir 1 [(0,Z3 ds),(1,Z1 xs),(5,.i (k+1:Nat))] (ie ?_)))))
  have hdr:=Zu hx1
  exact ⟨_,_,_,ob,⟨k+1,ob,(by rw [hdr] at c0_1;clear hdr hx1;grind [YK]),rfl,rfl,rfl⟩,(wk [] (fw (fc (x:=.i (k+1:Nat)) li fl)))⟩
 refine ax 0 (ar (ir 1 [(4,.b true)] (ie ?_)))
 try rw [Ye (xs:=xs) (k:=k) om] at c0_1
 exact Z5 (r2 [] [.b true] ⟨rfl,rfl⟩ (lb (by first|rfl|omega|grind [YK])))
end Go.Abs
