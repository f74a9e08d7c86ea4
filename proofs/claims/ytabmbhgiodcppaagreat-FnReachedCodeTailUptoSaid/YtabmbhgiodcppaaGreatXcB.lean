/-
  A part of the proofs of several laws (see the last file): no condition.
-/
import Derived.Test.YtabmbhgiodcppaaGreatXcA
import Derived.Test.YtabmbhgiodcppaaGreatRows
import Derived.Deep.Slices
import Derived.ChangeArms
set_option linter.all false
set_option linter.unusedVariables false
set_option linter.unusedSimpArgs false
set_option linter.unusedSectionVars false
set_option maxRecDepth 10000
set_option maxHeartbeats 4000000
section
namespace Go.Abs
structure Vo where
 fields:LI
 fv:Value
structure Vh where
 frm:Int
 to_:Int
 cons:List Vo
 cv:Value
mutual
inductive Cs where
 | mk (op num into:Int) (args:LI) (av:Value) (kids:List BA) (kv:Value)
inductive BA where
 | mk (steps:List Cs) (sv:Value) (result:Int)
end
namespace Cs
end Cs
namespace BA
end BA
structure Gf where
 params:LI
 pv:Value
 lent:LI
 lv:Value
 result:Int
 body:BA
structure Nw where
 decls:List Vh
 dv:Value
 routines:List Gf
 rv:Value
abbrev Rn (c:Vo):List AV:=[ZI c.fields c.fv]
abbrev Nz (c:Vo):AV:=.agg (Rn c)
def Ui (cs:List Vo):List AV:=cs.map Nz
abbrev Fq (xs:List Vo) (v:Value):AV:=.sl (Ui xs) (some v)
abbrev Ro (d:Vh):List AV:=[.i d.frm,.i d.to_,Fq d.cons d.cv]
abbrev NA (d:Vh):AV:=.agg (Ro d)
def Vj (ds:List Vh):List AV:=ds.map NA
abbrev Zdl (xs:List Vh) (v:Value):AV:=.sl (Vj xs) (some v)
@[simp] theorem Zjw (xs:List Vo):(Ui xs).length=xs.length:=by simp [Ui]
theorem Z6a (xs ys:List Vo):Ui (xs++ys)=Ui xs++Ui ys:=by simp [Ui]
theorem Om (xs:List Vo):∀y∈Ui xs,y.leaves.length=1:=by intro y hy;simp only [Ui,XF] at hy;obtain ⟨x,_,rfl⟩:=hy;rfl
@[simp] theorem Zjx (xs:List Vh):(Vj xs).length=xs.length:=by simp [Vj]
theorem Z6b (xs ys:List Vh):Vj (xs++ys)=Vj xs++Vj ys:=by simp [Vj]
theorem On (xs:List Vh):∀y∈Vj xs,y.leaves.length=3:=by intro y hy;simp only [Vj,XF] at hy;obtain ⟨x,_,rfl⟩:=hy;rfl
def F5 (c:Vo):List (Value × Nat):=[(c.fv,1)]
def Qn (cs:List Vo):List (Value × Nat):=cs.flatMap F5
def F6 (d:Vh):List (Value × Nat):=Qn d.cons++[(d.cv,1)]
def QL (ds:List Vh):List (Value × Nat):=ds.flatMap F6
mutual
def F8:Cs->List (Value × Nat)
 | .mk _ _ _ _ av kids kv=>(av,1)::(Ke kids++[(kv,2)])
def DY:BA->List (Value × Nat)
 | .mk steps sv _=>Kf steps++[(sv,5)]
def Kf:List Cs->List (Value × Nat)
 | []=>[]
 | s::r=>F8 s++Kf r
def Ke:List BA->List (Value × Nat)
 | []=>[]
 | b::r=>DY b++Ke r
end
def F7 (r:Gf):List (Value × Nat):=(r.pv,1)::(r.lv,1)::DY r.body
def Ba (rs:List Gf):List (Value × Nat):=rs.flatMap F7
def H3 (n:Nw):List (Value × Nat):=QL n.decls++((n.dv,3)::(Ba n.routines++[(n.rv,5)]))
theorem F9:∀(xs:List Cs) (ys:List Cs),Kf (xs++ys)=Kf xs++Kf ys
 | [],ys=>by simp [Kf]
 | x::r,ys=>by rw [KZ,Kf,Kf,F9 r ys,Vf]
theorem F4:∀(xs:List BA) (ys:List BA),Ke (xs++ys)=Ke xs++Ke ys
 | [],ys=>by simp [Ke]
 | x::r,ys=>by rw [KZ,Ke,Ke,F4 r ys,Vf]
theorem H5:Kf []=[]:=by rw [Kf]
theorem H0:Ke []=[]:=by rw [Ke]
theorem H1 (xs ys:List Vo):Qn (xs++ys)=Qn xs++Qn ys:=by simp [Qn]
theorem H2 (xs ys:List Vh):QL (xs++ys)=QL xs++QL ys:=by simp [QL]
theorem H4 (xs ys:List Gf):Ba (xs++ys)=Ba xs++Ba ys:=by simp [Ba]
def Vo.er (c:Vo):Yh:=⟨c.fields⟩
def Vh.er (d:Vh):Zf:=⟨d.frm,d.to_,d.cons.map Vo.er⟩
inductive QC:List AV->List AV->Prop
 | nil:QC [] []
 | cons {x y:AV} {xs ys:List AV} (hl:x.leaves.length=y.leaves.length) (h:Wp x.leaves y.leaves) (t:QC xs ys):QC (x::xs) (y::ys)
theorem QC.length:∀{xs ys:List AV},QC xs ys->xs.length=ys.length
 | _,_,.nil=>rfl
 | _,_,.cons _ _ t=>by simp [t.length]
theorem QC.els {w:World} {G:Yk} {k b:Nat}:∀{o:Nat} {xs ys:List AV},QC xs ys->V8 w G k b o xs->V8 w G k b o ys
 | _,_,_,.nil,_=>.nil
 | _,_,_,.cons hl h t,.cons hk hm r=>.cons (hl▸hk) (h.mem hm) (t.els r)
theorem Zd.els {es es':List AV} (hv:Option Value) (h:QC es es'):Zd (.sl es hv) (.sl es' none):=by
 intro w G v hr
 cases hr with
 | nil _=>cases h;exact .nil (by simp)
 | sl _ hc hm=>rw [h.length] at hc ⊢;exact .sl (by simp) hc (h.els hm)
theorem QC.map {α β:Type} {f:α->AV} {g:β->AV} {e:α->β} (h:∀x,(f x).leaves.length=(g (e x)).leaves.length/\Wp (f x).leaves (g (e x)).leaves):∀xs:List α,QC (xs.map f) ((xs.map e).map g)
 | []=>.nil
 | x::r=>.cons (h x).1 (h x).2 (QC.map h r)
theorem Zcw (c:Vo):Wp (Rn c) (E3 c.er):=.cons (Zd.forget _ _) .nil
theorem Z6r (cs:List Vo):QC (Ui cs) (XA (cs.map Vo.er)):=QC.map (f:=Nz) (g:=Cv) (e:=Vo.er) (fun c=>⟨rfl,Zcw c⟩) cs
theorem Zcx (d:Vh):Wp (Ro d) (Ji d.er):=.cons (Zd.refl _) (.cons (Zd.refl _) (.cons (Zd.els _ (Z6r _)) .nil))
theorem Z6s (ds:List Vh):QC (Vj ds) (Yz (ds.map Vh.er)):=QC.map (f:=NA) (g:=Cw) (e:=Vh.er) (fun c=>⟨rfl,Zcx c⟩) ds
theorem KM {es:List AV} {k:Nat} (h:es.all (fun y=>Nat.beq y.leaves.length k)=true):∀y∈es,y.leaves.length=k:=fun y hy=>Te (AG.1 h y hy)
abbrev rK (g:Hd) (k:Nat) (ls:List AV):Res:=.row g.v k ls
section
variable {P:Program} {n:Nat} {c:Code} {A:WY} {F:Fr} {h:List Res} {ops:Array Oper} {B:Fr->List Res->Prop} {k:Nat}
variable {T:List (Nat × List Nat)} {fuel:Nat} {done:List Nat}
theorem tB (is:List Nat) (hs:List Res) (L' L:List (Value × Nat)) (e:L'=L) (hp:W2 is h=some hs:=by kernel_rfl) (hb:K5 hs=some L':=by kernel_rfl):WZ h (.many L::Xw is h):=e▸Zit is hp hb
theorem rr {v:Value} {q:Nat} {ls ls':List AV} {t t':List Res} (h:ls=ls') (e:t=t'):Res.row v q ls::t=.row v q ls'::t':=h▸e▸rfl
theorem Hl (j m:Nat) (v:Hd) (kk:Nat) (ls:List AV) (hm:ls.length=m*kk) (hk:0<kk:=by omega) (hl:E5 P ops F k=some (.h v):=by kernel_rfl) (hj:h[j]? = some (rK v kk ls):=by kernel_rfl):Wc P (ZQ ops k) F h [] (.i m):=
 Zi6 j hl hj hm hk
theorem XC (b l c' q sz:Nat) (j:Int) (hq:j=(q:Int)/\q<l:=by omega) (hi:BX P ops F k=some (.val (.slice (some ⟨b,0,none⟩) l c'),j,sz):=by kernel_rfl):Wc P (ZQ ops k) F h [] (.val (.pointer (some ⟨b,q*sz,none⟩))):=by
 have:=Z1z (P:=P) (F:=F) (h:=h) hi om om
 rw [hq.1,TM,Wh] at this
 exact this
theorem WC (j g len cap kk o:Nat) (ls zs:List AV) (t:TypeId) (y:AV) (hz:(ls.drop o).take zs.length=zs) (hl:Mm ops F k=some (t,.val (.pointer (some ⟨g,o,none⟩))):=by kernel_rfl) (hj:h[j]? = some (.row (.slice (some ⟨g,0,none⟩) len cap) kk ls):=by kernel_rfl)
  (hy:Bg P t zs=some y:=by kernel_rfl):Wc P (ZQ ops k) F h [g] y:=Zi7 j hl hj hz hy
theorem BW (j g len cap kk o:Nat) (xs ls:List AV) (ls':List AV) (hlt:o+xs.length<=ls.length) (he:ls.take o++xs++ls.drop (o+xs.length)=ls') (H:SI P n ops B (k+1) F (.row (.slice (some ⟨g,0,none⟩) len cap) kk ls'::Xw [j] h)) (hk:Xq n ops F k=true:=by kernel_rfl)
  (hs:storeAt P ops F k=some (g,o,xs):=by kernel_rfl) (hp:W2 [j] h=some [.row (.slice (some ⟨g,0,none⟩) len cap) kk ls]:=by kernel_rfl):SI P n ops B k F h:=
 Qp hk (WL.perm (Un (VO hp)) (S7 hs hlt (by rw [he];exact H)))
theorem QE (i j:Nat) (js bs:List Nat) (g len cap kk o:Nat) (xs ls:List AV) (ls':List AV) (hlt:o+xs.length<=ls.length) (he:ls.take o++xs++ls.drop (o+xs.length)=ls')
  (H:X6 P n ops B (T.filter fun t=>!VA ops i t.1) fuel (done++[i]) F (.row (.slice (some ⟨g,0,none⟩) len cap) kk ls'::Xw [j] h)) (hk:Xq n ops F i=true:=by kernel_rfl)
  (hs:storeAt P ops F i=some (g,o,xs):=by kernel_rfl) (hp:W2 [j] h=some [.row (.slice (some ⟨g,0,none⟩) len cap) kk ls]:=by kernel_rfl) (ho:UQ ops i T=bs:=by kernel_rfl)
  (hj:js.map (fun q=>(V7 (Xw [j] h))[q]?)=bs.map some:=by kernel_rfl):U7 P n ops B T fuel done F h i:=
 Al [j] js bs hk (VO hp) ho hj (S7 (h2:=[]) hs hlt (by rw [he];exact H))
theorem BV (sz:Nat) (hK:∀g,SI P n ops B (k+1) (F.put (ZQ ops k).dst (.val (.slice (some ⟨g,0,none⟩) 0 0))) (.row (.slice (some ⟨g,0,none⟩) 0 0) sz []::h)) (hk:Xq n ops F k=true:=by kernel_rfl)
  (ha:TH P ops F k=some ([],0,sz):=by kernel_rfl):SI P n ops B k F h:=Qp hk (Ze0 (UB hk).2.1 ha hK)
theorem Hc (j g sz:Nat) (xs:List AV) (hx:Option Value) (hxs:∀y∈xs,y.leaves.length=sz) (hbound:xs.length<=4294967296) (hK:∀v:Hd,SI P n ops B (k+1) (F.put (ZQ ops k).dst (.h v)) (rK v sz (Z8 xs)::Xw [j] h))
  (hk:Xq n ops F k=true:=by kernel_rfl) (ha:TZ P ops F k=some (.val (.slice (some ⟨g,0,none⟩) 0 0),.sl xs hx,sz):=by kernel_rfl) (hp:W2 [j] h=some [.row (.slice (some ⟨g,0,none⟩) 0 0) sz []]:=by kernel_rfl):SI P n ops B k F h:=
 Qp hk (WL.perm (Un (VO hp)) (Zdz (UB hk).2.1 ha hxs hbound hK))
theorem iKM (l:Nat) (zs:List AV) (kk:Nat) (hK:∀g,SI P n ops B (k+1) (F.put (ZQ ops k).dst (.val (.slice (some ⟨g,0,none⟩) l l))) (.row (.slice (some ⟨g,0,none⟩) l l) kk (List.replicate l zs).flatten::h)) (hl:l<=4294967296:=by omega)
  (hk:Xq n ops F k=true:=by kernel_rfl) (hm:Mp P ops F k=some ((l:Int),(l:Int),zs):=by kernel_rfl) (hz:zs.length=kk:=by rfl) (hk0:0<kk:=by omega):SI P n ops B k F h:=by
 subst hz
 exact Qp hk (Ze1 (UB hk).2.1 hm hl hk0 hK)
theorem Fj (j m:Nat) {v:Hd} {kk:Nat} {ls:List AV} (hm:ls.length=m*kk) (h0:0<m) (H:∀g c',v=⟨some ⟨g,0,none⟩,m,c'⟩->YC P n c A F h) (hk:0<kk:=by omega) (hj:h[j]? = some (rK v kk ls):=by kernel_rfl):YC P n c A F h:=
 Z3d j m hj hm hk h0 H
theorem Ri (t j:Nat) {v:Hd} {kk:Nat} (es:List AV) (hes:∀y∈es,y.leaves.length=kk) (H:YC P n c A ((t,.sl es (some v.v))::F) (.tail v.v kk::Xw [j] h)) (hk:0<kk:=by omega) (hF':F.get t=.h v:=by kernel_rfl)
  (hp:W2 [j] h=some [rK v kk (Z8 es)]:=by kernel_rfl):YC P n c A F h:=Z3c t j hF' hp hes hk H
theorem Zii (j i p:Nat) (u v:Value) (kk kv:Nat) (es ls:List AV) (hes:∀y∈es,y.leaves.length=kk) (hl:ls[p]? = some (.val u)) (hk:0<kk:=by omega) (hp:W2 [j,i] h=some [.row u kk (Z8 es),.row v kv ls]:=by kernel_rfl) :
  WZ h (.row v kv (ls.set p (.sl es (some u)))::.tail u kk::Xw [j,i] h):=Z2h j i p hp hes hk hl
theorem FG {A xs ys B:List AV} {o:Nat} (hA:A.length=o) (hl:xs.length=ys.length):(A++(xs++B)).take o++ys++(A++(xs++B)).drop (o+ys.length)=A++(ys++B):=by
 subst hA
 rw [A4,<-hl,<-List.drop_drop,List.drop_left,List.drop_left,Vf]
theorem HV {A xs B:List AV} {o:Nat} (hA:A.length=o):((A++(xs++B)).drop o).take xs.length=xs:=by
 subst hA
 rw [List.drop_left,A4]
theorem To (xs ys:List AV):Z8 (xs++ys)=Z8 xs++Z8 ys:=by simp [Z8]
theorem Ew (j:Nat) (v:Value) (q:Nat) (ls ls':List AV) (e:ls=ls') (hp:W2 [j] h=some [.row v q ls]:=by kernel_rfl):WZ h (.row v q ls'::Xw [j] h):=by
 subst e
 intro w G hh
 have hp':=Un (VO hp)
 exact ⟨G,hh.perm hp',(X3.refl w G h).perm (TN _) hp'⟩
end
end Go.Abs
end
section
namespace Go.Abs
theorem YJ.rgrow {w:World} {G:Yk} {h2:List Res} {g len len' cap k:Nat} {ls ls':List AV} (hh:YJ w G (.row (.slice (some ⟨g,0,none⟩) len cap) k ls::h2)) {cs cs':Array Value} {e:TypeId}
  (hb:w.heap[g]? = some (.cells cs e (0,0))) (XS:cs'.size=cs.size) (hle:len'<=cap) (hcap:cs.size=cap*k) (hl:ls'.length=len'*k) (hls:YS w G ls' (cs'.toList.take (len'*k))) :
  YJ (w.setRow g cs') G (.row (.slice (some ⟨g,0,none⟩) len' cap) k ls'::h2) /\
   X3 w G (.row (.slice (some ⟨g,0,none⟩) len cap) k ls::h2) (w.setRow g cs') G (.row (.slice (some ⟨g,0,none⟩) len' cap) k ls'::h2):=by
 have hmem:Res.row (.slice (some ⟨g,0,none⟩) len cap) k ls∈Res.row (.slice (some ⟨g,0,none⟩) len cap) k ls::h2:=Xo ..
 have hA:U6 G w (w.setRow g cs') G:=⟨fun c j hg=>by
  have hne:c≠g:=fun he=>hh.prot _ hmem c j he hg
  simp [World.cell?,VX w g c cs' hne],fun _ _ h=>h⟩
 have e1:X3 w G [.row (.slice (some ⟨g,0,none⟩) len cap) k ls] (w.setRow g cs') G [.row (.slice (some ⟨g,0,none⟩) len' cap) k ls']:=by
  refine ⟨rfl,rfl,rfl,by simp [World.setRow],fun _ _ h=>h,?_,fun _ _ _ h=>.inl h,?_⟩
  ·intro c hc
   by_cases hcb:c=g
   ·subst hcb
    exact .inr ⟨cs,cs',e,(0,0),hb,setRow_heap w c cs cs' e (0,0) hb,XS,fun j hj=>absurd ⟨_,Xo ..,rfl⟩ hj⟩
   ·exact .inl (VX w g c cs' hcb)
  ·rintro c j _ ⟨r,hr,hf⟩
   rw [Xx.1 hr] at hf
   exact ⟨_,Xo ..,hf⟩
 have e2:YJ (w.setRow g cs') G [.row (.slice (some ⟨g,0,none⟩) len' cap) k ls']:=by
  refine ⟨fun r hr=>?_,ED _ _,fun r hr c j hf hg=>?_,fun c j hg=>?_⟩
  ·rw [Xx.1 hr]
   exact .inr ⟨g,len',cap,cs',e,rfl,setRow_heap w g cs cs' e (0,0) hb,hle,XS.trans hcap,hl,hls.mono hA⟩
  ·rw [Xx.1 hr] at hf
   exact hh.prot _ hmem c j hf hg
  ·have:=hh.lt c j hg
   simpa [World.setRow] using this
 exact YJ.frame (h:=[.row (.slice (some ⟨g,0,none⟩) len cap) k ls]) (k:=h2) hh e1 e2
section
variable {P:Program} {n:Nat} {ops:Array Oper} {k:Nat} {F:Fr} {h2:List Res}
theorem S5 {K:Fr->List Res->Prop} {v:Hd} {sz m:Nat} {ls xs:List AV} {hx:Option Value} (hd:VS n (ZQ ops k)=true) (ha:TZ P ops F k=some (.val v.v,.sl xs hx,sz))
  (hxs:∀y∈xs,y.leaves.length=sz) (hone:(Z8 xs).all AV.one=true) (hm0:ls.length=m*sz) (hk0:0<sz) (hne:xs≠[]) (hbound:m+xs.length<=4294967296)
  (hK:∀v':Hd,K (F.put (ZQ ops k).dst (.val v'.v)) (.row v'.v sz (ls++Z8 xs)::h2)):WL P n (ZQ ops k) F (.row v.v sz ls::h2) K:=by
 unfold TZ at ha
 generalize hoo:ZQ ops k=o at ha hd hK
 obtain ⟨dst,op,type,pos,after,guard⟩:=o
 cases op<;>simp only at ha<;>try (cases ha)
 rename_i c
 obtain ⟨callee,args,tys⟩:=c
 simp only at ha
 split at ha
 case h_2=>cases ha
 rename_i s x t t' hargs htys
 split at ha
 case h_2=>cases ha
 rename_i e htt ht
 have:=Te htt
 subst this
 split at ha
 case h_2=>cases ha
 rename_i i hinfo
 split at ha
 case h_2=>cases ha
 rename_i z hz
 split at ha
 case h_2=>cases ha
 rename_i hb
 simp only [X9] at hb
 simp only [Wy,Prod.mk.injEq] at ha
 obtain ⟨h3,h4,hk1⟩:=ha
 have e1:args=#[s,x]:=by rw [<-TL (xs:=args),hargs]
 have e2:tys=#[t,t]:=by rw [<-TL (xs:=tys),htys]
 subst e1;subst e2
 have hzs:z.cells.size=sz:=by rw [Te hb.1,hk1]
 have hby:=Vg hb.2
 have hfl:=UM xs hxs
 intro Q w G a hF hh
 have v1:=hF.ev s
 have v2:=hF.ev x
 rw [h3] at v1
 rw [h4] at v2
 have v1:=v1.val_inv
 have v2:=v2.forget
 have finish:∀(v':Hd) w',(Builtin.append_ #[t,t] type #[v.v,a.eval x]).run P w=.ok v'.v w'->YJ w' G (.row v'.v sz (ls++Z8 xs)::h2)->X3 w G (.row v.v sz ls::h2) w' G (.row v'.v sz (ls++Z8 xs)::h2) ->
   ({ dst:=dst,op:=.call { callee:=.builtin .append,args:=#[s,x],argTypes:=#[t,t] },type:=type,pos:=pos,after:=after,guard:=guard }:Oper).wp P a w
    (fun a' w'=>∃F' h' G',K F' h'/\FR w' G' n F' a'/\YJ w' G' h'/\X3 w G (.row v.v sz ls::h2) w' G' h') Q:=by
  intro v' w' hr j1 j2
  have hrun:(execOp a.eval { dst:=dst,op:=.call { callee:=.builtin .append,args:=#[s,x],argTypes:=#[t,t] },type:=type,pos:=pos,after:=after,guard:=guard }).run P w=.ok (.value v'.v) w':=by
   simp only [execOp,resolve,invoke,builtin,Sem.run_bind,Sem.run_pure,Result.andThen_ok,G8,Tw,G7,v1,hr]
  unfold Oper.wp
  rw [hrun]
  exact ⟨_,_,G,hK v',(hF.mono (j2.agree hh)).put (TB hd) .val,j1,j2⟩
 have hrow0:=hh.ok (.row v.v sz ls) (Xo ..)
 have hsub2:∀r:Res,List.Sublist (r::h2) (r::.row v.v sz ls::h2):=fun r=>List.Sublist.cons_cons _ (Cp _ _)
 have grown:∀(olds news:List Value) (old:Nat),YS w G ls olds->YS w G (Z8 xs) news ->
   YJ (w.drew.alloc (.cells (olds.toArray++news.toArray++Builtin.zeroCells z.cells (grownCap w (m+xs.length) old e-(m+xs.length))) e)) G
    (.row (.slice (some ⟨w.heap.size,0,none⟩) (m+xs.length) (grownCap w (m+xs.length) old e)) sz (ls++Z8 xs)::h2) /\
   X3 w G (.row v.v sz ls::h2) (w.drew.alloc (.cells (olds.toArray++news.toArray++Builtin.zeroCells z.cells (grownCap w (m+xs.length) old e-(m+xs.length))) e)) G
    (.row (.slice (some ⟨w.heap.size,0,none⟩) (m+xs.length) (grownCap w (m+xs.length) old e)) sz (ls++Z8 xs)::h2):=by
  intro olds news old ho hn
  have Xn:=grownCap_ge w (m+xs.length) old e
  have hol:=ho.length
  have hnl:=hn.length
  have hlen:(ls++Z8 xs).length=(m+xs.length)*sz:=by rw [Yo,hm0,hfl,TV]
  obtain ⟨j1,j2⟩:=hh.drew.alloc_rrow (olds.toArray++news.toArray++Builtin.zeroCells z.cells (grownCap w (m+xs.length) old e-(m+xs.length))) e
   (ls:=ls++Z8 xs) (len:=m+xs.length) (cap:=grownCap w (m+xs.length) old e) (k:=sz) Xn
   (by
    have q2:(grownCap w (m+xs.length) old e-(m+xs.length))*sz=grownCap w (m+xs.length) old e*sz-(m+xs.length)*sz:=Nat.sub_mul ..
    have q3:(m+xs.length)*sz<=grownCap w (m+xs.length) old e*sz:=Jw _ Xn
    have q4:(m+xs.length)*sz=m*sz+xs.length*sz:=TV ..
    simp only [Array.size_append,G9,size_zeroCells,hzs,hol,hnl,hm0,hfl]
    omega) hlen
   (by
    have:(olds.toArray++news.toArray++Builtin.zeroCells z.cells (grownCap w (m+xs.length) old e-(m+xs.length))).toList.take ((m+xs.length)*sz)=olds++news:=by
     simp only [Ir]
     rw [<-hlen,Yo,<-hol,<-hnl,<-Yo]
     exact A4
    rw [this]
    exact (ho.append hn).mono (BE w G))
  exact ⟨j1.sub (hsub2 _),(X3.drew w G _).trans (j2.sub' (hsub2 _))⟩
 generalize hax:a.eval x=ax at v2 finish
 cases v2 with
 | nil _=>exact absurd rfl hne
 | sl hq hcc hm=>
  rename_i b o' k' c
  have hpos:0<xs.length:=J0.2 hne
  have hfm:=hm.flat_mem
  obtain ⟨news,hn,hnc⟩:=hfm.cells
  have hnl:news.length=xs.length*i.size:=by rw [hn.length,hfl,hk1]
  have hone':=hn.one_cells hone
  have hnews:∀j u,news[j]? = some u->w.cell? ((⟨b,o',none⟩:Addr).add j)=some u:=fun j u hj=>by rw [JA];exact (hnc j u hj).1
  have hbb:(m+xs.length)*i.bytes<=140737488355328:=by
   have:=Nat.mul_le_mul hbound hby
   omega
  rcases hrow0 with ⟨hv0,hl0⟩|⟨g,len,cap,cur,el,hv0,hrow,hlc,hcur,hll,hcells⟩
  ·subst hl0
   have hm1:m=0:=by
    have:m*sz=0:=by simpa using hm0.symm
    rcases Nat.mul_eq_zero.1 this with h|h
    ·exact h
    ·omega
   subst hm1
   rw [hv0] at finish hh ⊢
   have hr:=run_append_nil (P:=P) w t type e i z ht hinfo hz ⟨b,o',none⟩ xs.length c news hnl hnews hpos om (by simp only [Wh] at hbb;omega)
   obtain ⟨j1,j2⟩:=grown [] news 0 .nil hn
   simp only [Wh,Array.empty_append,Co] at j1 j2
   rw [hv0] at j2
   exact finish ⟨some ⟨w.heap.size,0,none⟩,xs.length,grownCap w xs.length 0 e⟩ _ hr (by simpa using j1) (by simpa using j2)
  ·have hlm:len=m:=Is hk0 (hll.symm.trans hm0)
   subst hlm
   rw [hv0] at finish hh ⊢
   have q5:len*sz<=cap*sz:=Jw _ hlc
   have h1:(cur.toList.take (len*sz)).length=len*sz:=by rw [W1,A0,hcur,VH q5]
   have hcl:cur.toList.length=cap*sz:=by rw [A0,hcur]
   by_cases hroom:len+xs.length<=cap
   ·have q1:(len+xs.length)*sz<=cap*sz:=Jw _ hroom
    have q2:(len+xs.length)*sz=len*sz+xs.length*sz:=TV ..
    have hfit:len*i.size+news.length<=cur.size:=by rw [hnl,hcur,hk1];omega
    have hr:=MQ (P:=P) w t type e el i ht hinfo g len cap cur hrow ⟨b,o',none⟩ xs.length c news hnl hnews hone' hroom hfit
    rw [hk1] at hr
    have hnl':news.length=xs.length*sz:=by rw [hnl,hk1]
    obtain ⟨j1,j2⟩:=hh.rgrow (ls':=ls++Z8 xs) (len':=len+xs.length) (cs':=(cur.toList.take (len*sz)++news++cur.toList.drop (len*sz+news.length)).toArray) hrow
     (by simp only [G9,Yo,h1,hnl',AH,hcl,hcur];omega) hroom hcur (by rw [Yo,hll,hfl,q2]) (by
      have:(cur.toList.take (len*sz)++news++cur.toList.drop (len*sz+news.length)).toArray.toList.take ((len+xs.length)*sz)=cur.toList.take (len*sz)++news:=by
       rw [Ga,q2,<-hnl']
       conv=>lhs;arg 1;rw [show len*sz+news.length=(cur.toList.take (len*sz)++news).length from by rw [Yo,h1]]
       exact A4
      rw [this]
      exact hcells.append hn)
    exact finish ⟨some ⟨g,0,none⟩,len+xs.length,cap⟩ _ hr j1 j2
   ·have hr:=run_append_grow (P:=P) w t type e i z ht hinfo hz ⟨g,0,none⟩ len cap (cur.toList.take (len*sz)) (by rw [hk1];exact h1) (fun j u hj=>by
     rw [JA,cell_of_row w g _ cur el (0,0) hrow]
     rw [Qf] at hj
     split at hj
     ·simpa using hj
     ·cases hj) ⟨b,o',none⟩ xs.length c news hnl hnews om om (growslice_fits om hbb)
    obtain ⟨j1,j2⟩:=grown (cur.toList.take (len*sz)) news cap hcells hn
    rw [hv0] at j2
    exact finish ⟨some ⟨w.heap.size,0,none⟩,len+xs.length,grownCap w (len+xs.length) cap e⟩ _ hr j1 j2
end
section
variable {P:Program} {n:Nat} {ops:Array Oper} {B:Fr->List Res->Prop} {k:Nat} {F:Fr} {h:List Res}
theorem Fa (j m:Nat) (v:Hd) (sz:Nat) (ls xs:List AV) (hx:Option Value) (hm0:ls.length=m*sz) (hxs:∀y∈xs,y.leaves.length=sz) (hone:(Z8 xs).all AV.one=true) (hne:xs≠[]) (hbound:m+xs.length<=4294967296)
  (hK:∀v':Hd,SI P n ops B (k+1) (F.put (ZQ ops k).dst (.h v')) (rK v' sz (ls++Z8 xs)::Xw [j] h)) (hk0:0<sz:=by omega)
  (hk:Xq n ops F k=true:=by kernel_rfl) (ha:TZ P ops F k=some (.h v,.sl xs hx,sz):=by kernel_rfl) (hp:W2 [j] h=some [rK v sz ls]:=by kernel_rfl):SI P n ops B k F h:=
 Qp hk (WL.perm (Un (VO hp)) (S5 (UB hk).2.1 ha hxs hone hm0 hk0 hne hbound hK))
end
end Go.Abs
namespace Go.Abs
section
variable {P:Program} {n:Nat} {ops:Array Oper} {B:Fr->List Res->Prop} {T:List (Nat × List Nat)} {fuel:Nat} {done:List Nat} {F:Fr} {h:List Res}
theorem L4 (i j m:Nat) (js bs:List Nat) (v:Hd) (sz:Nat) (ls xs:List AV) (hx:Option Value) (hm0:ls.length=m*sz) (hxs:∀y∈xs,y.leaves.length=sz) (hone:(Z8 xs).all AV.one=true) (hne:xs≠[]) (hbound:m+xs.length<=4294967296)
  (hK:∀v':Hd,X6 P n ops B (T.filter fun t=>!VA ops i t.1) fuel (done++[i]) (F.put (ZQ ops i).dst (.h v')) (rK v' sz (ls++Z8 xs)::Xw [j] h)) (hk0:0<sz:=by omega) (hk:Xq n ops F i=true:=by kernel_rfl)
  (ha:TZ P ops F i=some (.h v,.sl xs hx,sz):=by kernel_rfl) (hp:W2 [j] h=some [rK v sz ls]:=by kernel_rfl) (ho:UQ ops i T=bs:=by kernel_rfl)
  (hj:js.map (fun q=>(V7 (Xw [j] h))[q]?)=bs.map some:=by kernel_rfl):U7 P n ops B T fuel done F h i:=
 Al [j] js bs hk (VO hp) ho hj (S5 (h2:=[]) (UB hk).2.1 ha hxs hone hm0 hk0 hne hbound hK)
end
theorem WK.form {P:Program} {f:FuncId} {as1:List AV} {h0:List Res} {T:Hd->AV} {kk m:Nat} {ls:List AV} {hs:List Res} (H:WK P f as1 h0 (fun r h=>∃v:Hd,r=T v/\h=rK v kk ls::hs)) (hm:ls.length=m*kk) (hk:0<kk) (h1:0<m) :
  WK P f as1 h0 (fun r h=>∃(g c:Nat),r=T ⟨some ⟨g,0,none⟩,m,c⟩/\h=rK ⟨some ⟨g,0,none⟩,m,c⟩ kk ls::hs):=by
 intro w G vs hv hh
 refine (H w G vs hv hh).mono ?_
 rintro e w' ⟨u,r,h',G',he,⟨v,rfl,rfl⟩,hr,hh',hx⟩
 obtain ⟨g,c,rfl⟩:=HU (hh'.ok _ (Xo ..)) hm hk h1
 exact ⟨u,_,_,G',he,⟨g,c,rfl,rfl⟩,hr,hh',hx⟩
end Go.Abs
namespace Go.Abs
section
variable {h:List Res}
theorem Ziv (j i p:Nat) {u:Value} {kk b:Nat} {es ls:List AV} (hp:W2 [j,i] h=some [.row u kk (Z8 es),.obj b ls]) (hes:∀y∈es,y.leaves.length=kk) (hk:0<kk) (hl:ls[p]? = some (.val u)) :
  WZ h (.obj b (ls.set p (.sl es (some u)))::.tail u kk::Xw [j,i] h):=by
 intro w G hh
 have hp':=Un (VO hp)
 have hh':=hh.perm hp'
 obtain ⟨G',h1,h2',h3⟩:=Ek (h2:=.obj b ls::Xw [j,i] h) hh' hes hk
 have e:=h2'.perm hp'.symm (TN _)
 have h1:YJ w G' (.tail u kk::.obj b ls::Xw [j,i] h):=h1
 have perm:(Res.tail u kk::.obj b ls::Xw [j,i] h).Perm (.obj b ls::.tail u kk::Xw [j,i] h):=List.Perm.swap ..
 have h4:=h1.perm perm
 have e4:=e.perm (TN _) perm
 have hset:∀{w:World} {G:Yk},RV w G (.sl es (some u)) u->Qg w G (.obj b ls)->Qg w G (.obj b (ls.set p (.sl es (some u)))):=by
  intro w G hu hr
  obtain ⟨cs,el,k1,k5⟩:=hr
  refine ⟨cs,el,k1,?_⟩
  obtain ⟨c,c1,c2⟩:=k5.get p _ hl
  have:=c2.val_inv
  subst this
  have h6:=k5.set p hu
  rwa [show cs.toList.set p c=cs.toList from by
   apply List.ext_getElem?
   intro q
   rw [List.getElem?_set]
   split
   ·rename_i hq;subst hq;split
    ·exact c1.symm
    ·rename_i hq2;rw [QA om]
   ·rfl] at h6
 refine ⟨G',⟨fun r hr=>?_,?_,fun r hr=>?_,h4.lt⟩,⟨e4.os,e4.tape,e4.output,e4.size,e4.sub,e4.same,e4.newG,fun b' o hb ⟨r,hr,hf⟩=>e4.newfp b' o hb ?_⟩⟩
 ·rcases YI.1 hr with rfl|hr
  ·exact hset h3 (h4.ok _ (Xo ..))
  ·exact h4.ok r (XD _ hr)
 ·have:=WR.1 h4.apart
  exact WR.2 ⟨fun r hr b' o f1 f2=>this.1 r hr b' o f1 f2,this.2⟩
 ·rcases YI.1 hr with rfl|hr
  ·exact fun b' o f1 hg=>h4.prot (.obj b ls) (Xo ..) b' o f1 hg
  ·exact h4.prot r (XD _ hr)
 ·rcases YI.1 hr with rfl|hr
  ·exact ⟨.obj b ls,Xo ..,hf⟩
  ·exact ⟨r,XD _ hr,hf⟩
theorem Uv (j i p:Nat) (u:Value) (kk b:Nat) (es ls:List AV) (hes:∀y∈es,y.leaves.length=kk) (hl:ls[p]? = some (.val u)) (hk:0<kk:=by omega) (hp:W2 [j,i] h=some [.row u kk (Z8 es),.obj b ls]:=by kernel_rfl) :
  WZ h (.obj b (ls.set p (.sl es (some u)))::.tail u kk::Xw [j,i] h):=Ziv j i p hp hes hk hl
end
end Go.Abs
namespace Go.Abs
section
variable {P:Program} {n:Nat} {ops:Array Oper} {k:Nat} {F:Fr} {h:List Res}
theorem Zi8 (j:Nat) {g l c m kk:Nat} {ls:List AV} (hi:En P ops F k=some (.val (.slice (some ⟨g,0,none⟩) l c),(m:Int))) (hj:h[j]? = some (.row (.slice (some ⟨g,0,none⟩) l c) kk ls)) (hle:m<=l) :
  Wc P (ZQ ops k) F h [] (.val (.slice (some ⟨g,0,none⟩) m c)):=by
 unfold En at hi
 generalize hoo:ZQ ops k=o at hi
 obtain ⟨dst,op,type,pos,after,guard⟩:=o
 cases op<;>simp only at hi<;>try (cases hi)
 rename_i t x lo hi' mx
 cases lo with
 | some _=>simp at hi
 | none=>
  cases hi' with
  | none=>simp at hi
  | some y=>
   cases mx with
   | some _=>simp at hi
   | none=>
    simp only at hi
    split at hi
    ·rename_i e ht
     split at hi
     ·rename_i inf hinf
      split at hi
      ·rename_i ik m' hm
       simp only [Wy,Prod.mk.injEq] at hi
       obtain ⟨hx,rfl⟩:=hi
       intro n w G a hF hh
       have v1:=hF.ev x
       rw [hx] at v1
       have v1:=v1.val_inv
       have v2:=hF.ev y
       rw [hm] at v2
       have v2:=v2.val_inv
       have hcap:l<=c:=by
        rcases hh.ok _ (Y1 hj) with ⟨h0,_⟩|⟨g',l',c',cur,el,h0,_,hc,_⟩
        ·cases h0
        ·cases h0;exact hc
       refine ⟨_,.val,fun w' _ _=>?_⟩
       simp only [execOp,v1,v2,EF,Option.map_none]
       refine VW ?_
       simp only [Instr.sliceAt,Sem.run_bind,UD ht,Result.andThen_ok,Instr.slice]
       have hmm:(Instr.sliceBounds true l c none (some (.int ik (m:Int))) none).run P w'=.ok (0,m,c) w':=by
        have ZE:=fun q=>FJ (P:=P) (c:=q) (v:=.int ik (m:Int)) (y:=c) rfl om om w'
        simp [Instr.sliceBounds,ZE]
       rw [hmm]
       have hz:∀a:Addr,a.add 0=a:=fun a=>by simp [Addr.add]
       simp only [Result.andThen_ok,Kt hinf,Nat.zero_mul,hz]
       by_cases h0:c=0<;>simp [h0]
      ·cases hi
     ·cases hi
    ·cases hi
theorem Rh (j g l c m kk:Nat) (ls:List AV) (hle:m<=l:=by omega) (hi:En P ops F k=some (.val (.slice (some ⟨g,0,none⟩) l c),(m:Int)):=by kernel_rfl) (hj:h[j]? = some (.row (.slice (some ⟨g,0,none⟩) l c) kk ls):=by kernel_rfl) :
  Wc P (ZQ ops k) F h [] (.val (.slice (some ⟨g,0,none⟩) m c)):=Zi8 j hi hj hle
variable {B:Fr->List Res->Prop}
end
end Go.Abs
end
namespace Go.Abs
theorem Yj {α:Type} {xs:List α} {k:Nat} {x:α} (h:xs[k]? = some x):xs.drop k=x::xs.drop (k+1):=by
 have hk:=(X4.1 h).1
 rw [Ns hk]
 congr 1
 rw [Dq hk] at h
 exact AJ h
theorem Xp {α:Type} {xs:List α} {k:Nat} (h:xs.length<=k):xs.drop k=[]:=G6 h
theorem V1 {α:Type} {xs:List α} {k:Nat} {x:α} (h:xs[k]? = some x):xs.take (k+1)=xs.take k++[x]:=by
 rw [List.take_add_one,h];rfl
def YK:List Zf->Nat
 | []=>0
 | d::ds=>d.cons.length+YK ds
theorem Dz (xs ys:List Zf):YK (xs++ys)=YK xs+YK ys:=by
 induction xs with
 | nil=>simp [YK]
 | cons d ds ih=>simp [YK,ih];omega
structure Xt (ds:List Zf):Prop where
 len:ds.length<=4
 cons:∀d∈ds,d.cons.length<=3
 fields:∀d∈ds,∀c∈d.cons,c.fields.length<=3
theorem Z57 {ds:List Zf} {m:Nat} (h:∀d∈ds,d.cons.length<=m):YK ds<=ds.length*m:=by
 induction ds with
 | nil=>simp [YK]
 | cons d ds ih=>
  have h1:=h d (by simp)
  have h2:=ih (fun x hx=>h x (by simp [hx]))
  simp only [YK,Yq,TV];omega
theorem Xt.sum {ds:List Zf} (h:Xt ds):YK ds<=12:=by
 have:=Z57 h.cons
 have:=h.len
 have:ds.length*3<=4*3:=Jw 3 h.len
 omega
theorem Xt.take {ds:List Zf} (h:Xt ds) (k:Nat):Xt (ds.take k):=
 ⟨by have:=h.len;simp;omega,fun d hd=>h.cons d (K0 hd),fun d hd=>h.fields d (K0 hd)⟩
theorem Xt.cons_at {ds:List Zf} (h:Xt ds) {k:Nat} {d:Zf} (hd:ds[k]? = some d):d.cons.length<=3:=h.cons d (Y1 hd)
theorem Xt.fields_at {ds:List Zf} (h:Xt ds) {k j:Nat} {d:Zf} {c:Yh} (hd:ds[k]? = some d) (hc:d.cons[j]? = some c):c.fields.length<=3:=
 h.fields d (Y1 hd) c (Y1 hc)
def Uy (c:Int):List Zf->Nat->Nat->Int × LI
 | [],_,_=>(-1,[])
 | d::ds,i,first=>
  if (first:Int)<=c/\c<=((first+d.cons.length:Nat):Int)-1 then ((i:Int)+1,(d.cons[(c-first).toNat]?.map (·.fields)).getD []) else Uy c ds (i+1) (first+d.cons.length)
def Wn (ds:List Zf) (c:Int):Int:=(Uy c ds 0 0).1
def ZP (ds:List Zf) (c:Int):LI:=(Uy c ds 0 0).2
theorem Gw {c:Int}:∀{ds:List Zf} {i first:Nat},(Uy c ds i first=(-1,[]) ∨
  ∃k d x,ds[k]? = some d/\(first+YK (ds.take k):Int)<=c/\c<first+YK (ds.take k)+d.cons.length/\d.cons[(c-(first+YK (ds.take k))).toNat]? = some x/\Uy c ds i first=((i:Int)+k+1,x.fields))
 | [],_,_=>.inl rfl
 | d::ds,i,first=>by
  rw [Uy]
  split
  ·rename_i h
   have hlt:(c-first).toNat<d.cons.length:=by omega
   refine .inr ⟨0,d,d.cons[(c-first).toNat],rfl,by simp [YK];omega,by simp [YK];omega,?_,?_⟩
   ·simp [YK]
   ·rw [Dq hlt];simp
  ·rcases Gw (c:=c) (ds:=ds) (i:=i+1) (first:=first+d.cons.length) with h|⟨k,e,x,h1,h2,h3,h4,h5⟩
   ·exact .inl h
   ·refine .inr ⟨k+1,e,x,by simpa using h1,by simp [YK];omega,by simp [YK];omega,?_,?_⟩
    ·rw [<-h4];congr 3;simp [YK];omega
    ·rw [h5];congr 1;omega
theorem IX {ds:List Zf} {c:Int} (h:¬Wn ds c<1) :
  ∃k d x,ds[k]? = some d/\(YK (ds.take k):Int)<=c/\d.cons[(c-YK (ds.take k)).toNat]? = some x/\Wn ds c=(k:Int)+1/\ZP ds c=x.fields:=by
 rcases Gw (c:=c) (ds:=ds) (i:=0) (first:=0) with h1|⟨k,d,x,h1,h2,_,h4,h5⟩
 ·simp [Wn,h1] at h
 ·exact ⟨k,d,x,h1,by simpa using h2,by simpa using h4,by simp [Wn,h5],by simp [ZP,h5]⟩
theorem O7 {ds:List Zf} {c:Int} (h:Wn ds c<1):ZP ds c=[]/\Wn ds c=-1:=by
 rcases Gw (c:=c) (ds:=ds) (i:=0) (first:=0) with h1|⟨k,d,x,h1,h2,_,h4,h5⟩
 ·simp [ZP,Wn,h1]
 ·simp [Wn,h5] at h;omega
def U2 (first:Int):Nat->LI
 | 0=>[]
 | n+1=>first::U2 (first+1) n
theorem RW (first:Int) (n:Nat):U2 first (n+1)=U2 first n++[first+n]:=by
 induction n generalizing first with
 | zero=>simp [U2]
 | succ n ih=>rw [U2,ih (first+1),U2];simp;omega
@[simp] theorem Zdf (first:Int) (n:Nat):(U2 first n).length=n:=by
 induction n generalizing first with
 | zero=>rfl
 | succ n ih=>simp [U2,ih]
def ZX (ds:List Zf) (t:Int):LI:=
 if 1<=t/\t<=ds.length then U2 (YK (ds.take (t-1).toNat)) (((ds[(t-1).toNat]?).map (·.cons.length)).getD 0) else []
def Du (frm to_:Int):List Zf->Nat->Int
 | [],_=>-1
 | d::ds,i=>if d.cons.length=0/\d.frm=frm/\d.to_=to_ then (i:Int)+1 else Du frm to_ ds (i+1)
def Ab (ds:List Zf) (frm to_:Int):Int:=Du frm to_ ds 0
def VZ (ds:List Zf) (t:Int):Bool:=decide (1<=t/\t<=ds.length)&&((ds[(t-1).toNat]?).map fun d=>decide (d.cons.length=0)).getD false
theorem Rc {ds:List Zf} {t:Int} {x:Zf} (h:1<=t/\t<=ds.length) (hx:ds[(t-1).toNat]? = some x):((x.cons.length:Int)==0)=VZ ds t:=by
 rw [VZ,hx,Ye];simp [h]
theorem Rb {ds:List Zf} {t:Int} (h:¬(1<=t/\t<=ds.length)):false=VZ ds t:=by
 rw [VZ,Ye];simp only [Bool.false_eq_true,X9,decide_eq_true_eq,h,false_and]
def Wq (m:Nat) (xs:LI):Bool:=xs.all fun t=>decide (0<=t/\t<=m)
end Go.Abs
section
namespace Go.Abs
section
variable {h:List Res}
end
end Go.Abs
namespace Go.Abs
section
variable {P:Program} {ops:Array Oper} {k:Nat} {F:Fr} {h:List Res}
def Mq (ops:Array Oper) (F:Fr) (k:Nat):Option (Int × Int):=
 match (ZQ ops k).op with
 | .call c=>match c.callee,c.args.toList with
  | .builtin .max,[x,y]=>match F.ev x,F.ev y with
   | .val (.int .i64 a),.val (.int .i64 b)=>some (a,b)
   | _,_=>none
  | _,_=>none
 | _=>none
theorem Zi5 {a b:Int} (hl:Mq ops F k=some (a,b)):Wc P (ZQ ops k) F h [] (.i (max a b)):=by
 unfold Mq at hl
 generalize hoo:ZQ ops k=o at hl
 obtain ⟨dst,op,type,pos,after,guard⟩:=o
 cases op<;>simp only at hl<;>try (cases hl)
 rename_i c
 obtain ⟨callee,args,tys⟩:=c
 simp only at hl
 split at hl
 case h_2=>cases hl
 rename_i x y hargs
 split at hl
 case h_2=>cases hl
 rename_i u v hx hy
 cases hl
 have e1:args=#[x,y]:=by rw [<-TL (xs:=args),hargs]
 subst e1
 intro n w G a' hF hh
 have vx:=hF.ev x
 have vy:=hF.ev y
 rw [hx] at vx
 rw [hy] at vy
 have vx:=vx.val_inv
 have vy:=vy.val_inv
 refine ⟨_,.val,fun w' _ _=>?_⟩
 simp only [execOp,resolve,invoke,builtin,Sem.run_bind,Sem.run_pure,Result.andThen_ok,G8,Tw,G7,vx,vy]
 have e:(if b>a then b else a)=max a b:=by
  rw [Int.max_def]
  split<;>split<;>omega
 simp [Builtin.max_,Builtin.max2,Sem.run_pure,List.foldlM,e]
theorem Hm (a b:Int) (ha:Mq ops F k=some (a,b):=by kernel_rfl):Wc P (ZQ ops k) F h [] (.i (max a b)):=Zi5 ha
end
end Go.Abs
end
namespace Go.Abs
section
variable {P:Program} {n:Nat} {ops:Array Oper} {B:Fr->List Res->Prop} {k:Nat} {F:Fr} {h:List Res} {T:List (Nat × List Nat)} {fuel:Nat} {done:List Nat}
theorem S6 {K:Fr->List Res->Prop} {ls:List AV} {len sz:Nat} (hd:VS n (ZQ ops k)=true) (ha:TH P ops F k=some (ls,len,sz)) (hlen:ls.length=len*sz)
  (hK:∀g,K (F.put (ZQ ops k).dst (.val (.slice (some ⟨g,0,none⟩) len len))) (.row (.slice (some ⟨g,0,none⟩) len len) sz ls::h)):WL P n (ZQ ops k) F h K:=by
 unfold TH at ha
 generalize hoo:ZQ ops k=q at ha hd hK
 obtain ⟨dst,op,type,pos,after,guard⟩:=q
 cases op<;>simp only at ha<;>try (cases ha)
 rename_i t ln parts
 split at ha
 case h_2=>cases ha
 rename_i e ht
 split at ha
 case h_2=>cases ha
 rename_i i hi
 split at ha
 case h_2=>cases ha
 rename_i hc
 simp only [X9] at hc
 split at ha
 case h_2=>cases ha
 rename_i ls' hf
 simp only [Wy,Prod.mk.injEq] at ha
 obtain ⟨rfl,rfl,XS⟩:=ha
 intro Q w G a hF hh
 obtain ⟨cs,h1,h2⟩:=I1 hF parts ht hi rfl hc.1 hc.2 hf
 have hr:(execOp a.eval { dst:=dst,op:=.buildSlice t ln parts,type:=type,pos:=pos,after:=after,guard:=guard }).run P w =
   .ok (.value (.slice (some ⟨w.heap.size,0,none⟩) ln ln)) (w.alloc (.cells cs e)):=by
  simp only [execOp]
  exact VW h2
 unfold Oper.wp
 rw [hr]
 have hlc:=h1.length
 simp only [A0] at hlc
 obtain ⟨j1,j2⟩:=hh.alloc_rrow cs e (ls:=ls') (len:=ln) (cap:=ln) (k:=sz) (Xa _) (by rw [hlc];exact hlen) hlen (by rw [<-hlen,<-hlc];simpa [Wg] using h1)
 exact ⟨_,_,G,hK _,(hF.mono (j2.agree hh)).put (TB hd) .val,j1,j2⟩
theorem UP (es es':List AV) (he:es=es') (len sz:Nat) (hK:∀v,SI P n ops B (k+1) (F.put (ZQ ops k).dst (.sl es' (some v))) (.tail v sz::h)) (hk:Xq n ops F k=true:=by kernel_rfl)
  (ha:TH P ops F k=some (Z8 es,len,sz):=by kernel_rfl) (hlen:es.length=len:=by kernel_rfl) (hall:AR es sz=true:=by kernel_rfl):SI P n ops B k F h:=by
 subst he;exact iL es len sz hK hk ha hlen hall
theorem WE (i:Nat) (js bs:List Nat) (es es':List AV) (he:es=es') (len sz:Nat) (hK:∀v,X6 P n ops B (T.filter fun t=>!VA ops i t.1) fuel (done++[i]) (F.put (ZQ ops i).dst (.sl es' (some v))) (.tail v sz::h))
  (hk:Xq n ops F i=true:=by kernel_rfl) (ha:TH P ops F i=some (Z8 es,len,sz):=by kernel_rfl) (hlen:es.length=len:=by kernel_rfl) (hall:AR es sz=true:=by kernel_rfl)
  (ho:UQ ops i T=bs:=by kernel_rfl) (hj:js.map (fun j=>(V7 h)[j]?)=bs.map some:=by kernel_rfl):U7 P n ops B T fuel done F h i:=by
 subst he;exact dL i js bs es len sz hK hk ha hlen hall ho hj
theorem iKN (ls:List AV) (len sz:Nat) (hK:∀g,SI P n ops B (k+1) (F.put (ZQ ops k).dst (.val (.slice (some ⟨g,0,none⟩) len len))) (.row (.slice (some ⟨g,0,none⟩) len len) sz ls::h)) (hlen:ls.length=len*sz:=by rfl) (hk:Xq n ops F k=true:=by kernel_rfl)
  (ha:TH P ops F k=some (ls,len,sz):=by kernel_rfl):SI P n ops B k F h:=Qp hk (S6 (UB hk).2.1 ha hlen hK)
theorem dKN (i:Nat) (js bs:List Nat) (ls:List AV) (len sz:Nat) (hK:∀g,X6 P n ops B (T.filter fun t=>!VA ops i t.1) fuel (done++[i]) (F.put (ZQ ops i).dst (.val (.slice (some ⟨g,0,none⟩) len len))) (.row (.slice (some ⟨g,0,none⟩) len len) sz ls::h)) (hlen:ls.length=len*sz:=by rfl)
  (hk:Xq n ops F i=true:=by kernel_rfl) (ha:TH P ops F i=some (ls,len,sz):=by kernel_rfl) (ho:UQ ops i T=bs:=by kernel_rfl) (hj:js.map (fun j=>(V7 h)[j]?)=bs.map some:=by kernel_rfl):U7 P n ops B T fuel done F h i:=
 Al (h1:=[]) (h2:=h) [] js bs hk rfl ho hj (S6 (UB hk).2.1 ha hlen hK)
end
theorem WK.frz {P:Program} {f:FuncId} {as1:List AV} {h0:List Res} {E:Type} {kk:Nat} {es:E->List AV} {hs:E->List Res} {Q:E->Prop} (H:WK P f as1 h0 (fun r h=>∃(e:E) (v:Hd),r=.h v/\h=rK v kk (Z8 (es e))::hs e/\Q e)) (hes:∀e,∀y∈es e,y.leaves.length=kk) (hk:0<kk) :
  WK P f as1 h0 (fun r h=>∃(e:E) (v:Value),r=.sl (es e) (some v)/\h=.tail v kk::hs e/\Q e):=by
 intro w G vs hv hh
 refine (H w G vs hv hh).mono ?_
 rintro e w' ⟨u,r,h',G',he,⟨x,v,rfl,rfl,hq⟩,hr,hh',hx⟩
 obtain ⟨G2,h1,h2,h3⟩:=Ek hh' (hes x) hk
 have hrv:=hr.val_inv
 subst hrv
 exact ⟨_,_,_,G2,he,⟨x,v.v,rfl,rfl,hq⟩,h3,h1,hx.trans h2⟩
theorem LD {es:List AV} {sz k:Nat} {y:AV} (h:∀x∈es,x.leaves.length=sz) (hy:y.leaves.length=sz) (hk:k<es.length):(Z8 es).take (k*sz)++y.leaves++(Z8 es).drop (k*sz+y.leaves.length)=Z8 (es.set k y):=by
 obtain ⟨x,hx⟩:=Kd (xs:=es) (j:=k) hk
 have hxl:=h x (Y1 hx)
 have e1:es=es.take k++(x::es.drop (k+1)):=by rw [<-Yj hx,TO]
 have e2:es.set k y=es.take k++(y::es.drop (k+1)):=by rw [EE,Zb hk]
 have hl:(Z8 (es.take k)).length=k*sz:=by rw [UM (k:=sz) _ (fun z hz=>h z (K0 hz)),W1,VH om]
 have e3:Z8 es=Z8 (es.take k)++(x.leaves++Z8 (es.drop (k+1))):=by
  conv=>lhs;rw [e1,To]
  simp [Z8]
 rw [e2,To,e3,FG hl (by rw [hxl,hy])]
 simp [Z8]
theorem Z67 (ds:List Zf) (k:Nat) (d:Zf):Yz (ds.set k d)=(Yz ds).set k (Cw d):=by simp [Yz,List.map_set]
theorem CT (xs:List Zf):(Z8 (Yz xs)).length=xs.length*3:=by rw [UM (k:=3) _ (QF xs)];simp
theorem GT {ds:List Zf} {k:Nat} (d:Zf) (hk:k<ds.length):(Z8 (Yz ds)).take (k*3)++Ji d++(Z8 (Yz ds)).drop (k*3+3)=Z8 (Yz (ds.set k d)):=by
 rw [Z67];exact LD (y:=Cw d) (QF ds) rfl (by simpa using hk)
theorem Ly (xs ys:List Zf):Z8 (Yz xs)++Z8 (Yz ys)=Z8 (Yz (xs++ys)):=by rw [Z65,To]
section
variable {P:Program} {n:Nat} {ops:Array Oper} {B:Fr->List Res->Prop} {k:Nat} {F:Fr} {h:List Res}
theorem D5 (j m:Nat) {v:Hd} {kk:Nat} {ls:List AV} (hm:ls.length=m*kk) (h0:0<m) (H:∀g c',v=⟨some ⟨g,0,none⟩,m,c'⟩->SI P n ops B k F h) (hk:0<kk:=by omega) (hj:h[j]? = some (rK v kk ls):=by kernel_rfl):SI P n ops B k F h:=by
 intro Q w G a hF hh hq
 obtain ⟨g,c',e⟩:=HU (hh.ok _ (Y1 hj)) hm hk h0
 exact H g c' e Q w G a hF hh hq
theorem Z5f (j m:Nat) {v:Hd} {kk:Nat} {ls:List AV} {T fuel done} (hm:ls.length=m*kk) (h0:0<m) (H:∀g c',v=⟨some ⟨g,0,none⟩,m,c'⟩->X6 P n ops B T fuel done F h) (hk:0<kk:=by omega) (hj:h[j]? = some (rK v kk ls):=by kernel_rfl):X6 P n ops B T fuel done F h:=by
 intro Q w G a SL hF hh hQ hcl hcov hq
 obtain ⟨g,c',e⟩:=HU (hh.ok _ (Y1 hj)) hm hk h0
 exact H g c' e Q w G a SL hF hh hQ hcl hcov hq
end
section
variable {P:Program} {n:Nat} {ops:Array Oper} {B:Fr->List Res->Prop} {k:Nat} {F:Fr} {h:List Res}
def L0 (P:Program) (ops:Array Oper) (F:Fr) (k:Nat):Option (IntKind × Int):=
 match (ZQ ops k).op with
 | .convert s d x=>match P.underlying s,P.underlying d,F.ev x with
  | some (.int _),some (.int q),.val (.int _ z)=>some (q,z)
  | _,_,_=>none
 | _=>none
theorem kCv (q:IntKind) (z z':Int) (e:q.wrap z=z') (hc:L0 P ops F k=some (q,z):=by kernel_rfl):Wc P (ZQ ops k) F h [] (.val (.int q z')):=by
 unfold L0 at hc
 generalize hoo:ZQ ops k=o at hc
 obtain ⟨dst,op,type,pos,after,guard⟩:=o
 cases op<;>simp only at hc<;>try (cases hc)
 rename_i s d x
 split at hc
 ·rename_i q1 q2 q3 z2 h1 h2 h3
  cases hc
  intro n w G ac hF hh
  have v1:=hF.ev x
  rw [h3] at v1
  have v1:=v1.val_inv
  refine ⟨_,.val,fun w' _ _=>?_⟩
  simp only [execOp,v1]
  refine VW ?_
  simp [convert,UD h1,UD h2,Conv.intToInt,e]
 ·cases hc
theorem Nr {z:Int} (h:0<=z/\z<=9223372036854775807):IntKind.i64.wrap z=z:=IntWalk.i64_in _ om
theorem Mb (z:Int) (hz:0<=z/\z<=255) (hc:L0 P ops F k=some (.i64,z):=by kernel_rfl):Wc P (ZQ ops k) F h [] (.i z):=kCv .i64 z z (Nr om) hc
def BH (ops:Array Oper) (F:Fr) (k:Nat) (b:BinOp):Option (Int × Int):=
 match (ZQ ops k).op with
 | .binOp c _ x y _=>if c==b then match F.ev x,F.ev y with
  | .val (.int .i64 z),.val (.int .i64 u)=>some (z,u)
  | _,_=>none else none
 | _=>none
theorem Rj (a b:Int) (hb:0<b) (ha:0<=a/\a<=9223372036854775807) (hc:BH ops F k .quo=some (a,b):=by kernel_rfl):Wc P (ZQ ops k) F h [] (.i (a / b)):=by
 unfold BH at hc
 generalize hoo:ZQ ops k=o at hc
 obtain ⟨dst,op,type,pos,after,guard⟩:=o
 cases op<;>simp only at hc<;>try (cases hc)
 rename_i bop t x y yt
 cases bop<;>simp only [Zg,reduceCtorEq,if_false,if_true] at hc<;>try (cases hc)
 split at hc
 ·rename_i z yk h1 h2
  cases hc
  intro n' w G ac hF hh
  have v1:=hF.ev x
  have v2:=hF.ev y
  rw [h1] at v1
  rw [h2] at v2
  have v1:=v1.val_inv
  have v2:=v2.val_inv
  refine ⟨_,.val,fun w' _ _=>?_⟩
  simp only [execOp,v1,v2]
  refine VW ?_
  have e1:a.tdiv b=a / b:=Int.tdiv_eq_ediv_of_nonneg ha.1
  have e2:IntKind.i64.wrap (a / b)=a / b:=Nr ⟨Int.ediv_nonneg ha.1 om,Int.le_trans (Int.ediv_le_self b ha.1) ha.2⟩
  have e3:b≠0:=by omega
  simp [eqGuard,binOp,Op.intDiv,e1,e2,e3]
 ·cases hc
theorem Ma (a b:Int) (hb:0<b) (ha:0<=a) (hc:BH ops F k .rem=some (a,b):=by kernel_rfl):Wc P (ZQ ops k) F h [] (.i (a % b)):=by
 unfold BH at hc
 generalize hoo:ZQ ops k=o at hc
 obtain ⟨dst,op,type,pos,after,guard⟩:=o
 cases op<;>simp only at hc<;>try (cases hc)
 rename_i bop t x y yt
 cases bop<;>simp only [Zg,reduceCtorEq,if_false,if_true] at hc<;>try (cases hc)
 split at hc
 ·rename_i z yk h1 h2
  cases hc
  intro n' w G ac hF hh
  have v1:=hF.ev x
  have v2:=hF.ev y
  rw [h1] at v1
  rw [h2] at v2
  have v1:=v1.val_inv
  have v2:=v2.val_inv
  refine ⟨_,.val,fun w' _ _=>?_⟩
  simp only [execOp,v1,v2]
  refine VW ?_
  have e1:a.tmod b=a % b:=Int.tmod_eq_emod_of_nonneg ha
  have e3:b≠0:=by omega
  simp [eqGuard,binOp,Op.intDiv,e1,e3]
 ·cases hc
theorem E2 (a b:Nat) (hb:0<b) (ha:a<=9223372036854775807) (hc:BH ops F k .quo=some ((a:Int),(b:Int)):=by kernel_rfl):Wc P (ZQ ops k) F h [] (.i (a / b:Nat)):=by
 rw [Int.natCast_ediv];exact Rj a b om om hc
theorem Rk (a b:Nat) (hb:0<b) (_ha:a<=9223372036854775807) (hc:BH ops F k .rem=some ((a:Int),(b:Int)):=by kernel_rfl):Wc P (ZQ ops k) F h [] (.i (a % b:Nat)):=by
 rw [Int.natCast_emod];exact Ma a b om om hc
def EA (a b:Int):Int:=IntKind.i64.wrap ((BitVec.ofInt 64 a ^^^ BitVec.ofInt 64 b).toNat:Int)
theorem Z2v {a b:Int} (ha:0<=a/\a<4611686018427387904) (hb:0<=b/\b<4611686018427387904):0<=EA a b/\EA a b<4611686018427387904:=by
 obtain ⟨x,rfl⟩:=Int.eq_ofNat_of_zero_le ha.1
 obtain ⟨y,rfl⟩:=Int.eq_ofNat_of_zero_le hb.1
 have h1:(BitVec.ofInt 64 (x:Int) ^^^ BitVec.ofInt 64 (y:Int)).toNat=x ^^^ y:=by
  rw [BitVec.toNat_xor,BitVec.toNat_ofInt,BitVec.toNat_ofInt]
  have e1:((x:Int) % ((2 ^ 64:Nat):Int)).toNat=x:=by omega
  have e2:((y:Int) % ((2 ^ 64:Nat):Int)).toNat=y:=by omega
  rw [e1,e2]
 have h2:x ^^^ y<2 ^ 62:=Nat.xor_lt_two_pow om om
 rw [EA,h1,Nr om]
 omega
theorem Zc1 (a b:Int) (hc:BH ops F k .xor=some (a,b):=by kernel_rfl):Wc P (ZQ ops k) F h [] (.i (EA a b)):=by
 unfold BH at hc
 generalize hoo:ZQ ops k=o at hc
 obtain ⟨dst,op,type,pos,after,guard⟩:=o
 cases op<;>simp only at hc<;>try (cases hc)
 rename_i bop t x y yt
 cases bop<;>simp only [Zg,reduceCtorEq,if_false,if_true] at hc<;>try (cases hc)
 split at hc
 ·rename_i z yk h1 h2
  cases hc
  intro n' w G ac hF hh
  have v1:=hF.ev x
  have v2:=hF.ev y
  rw [h1] at v1
  rw [h2] at v2
  have v1:=v1.val_inv
  have v2:=v2.val_inv
  refine ⟨_,.val,fun w' _ _=>?_⟩
  simp only [execOp,v1,v2]
  refine VW ?_
  simp [eqGuard,binOp,Op.intBits,IntKind.bits]
  exact Yg (fun z:Nat=>IntKind.i64.wrap (z:Int)) (by rw [BitVec.toNat_xor,BitVec.toNat_ofInt,BitVec.toNat_ofInt];rfl)
 ·cases hc
end
end Go.Abs
section
namespace Go.Abs
inductive Z2 where
 | mk (op num:Int) (kids:List Z2)
namespace Z2
def op:Z2->Int|.mk a _ _=>a
def num:Z2->Int|.mk _ a _=>a
def kids:Z2->List Z2|.mk _ _ a=>a
end Z2
structure Func where
 params:LI
 result:Int
 body:Z2
structure Wb where
 decls:List Zf
 funcs:List Func
instance:Inhabited Z2:=⟨.mk 0 0 []⟩
mutual
def Lg:Z2->AV
 | .mk op num kids=>.agg [.i op,.i num,.sl (YB kids) none]
def YB:List Z2->List AV
 | []=>[]
 | e::r=>Lg e::YB r
end
abbrev Yb (e:Z2):AV:=.agg [.i e.op,.i e.num,.sl (YB e.kids) none]
abbrev X0 (e:Z2):List AV:=[.i e.op,.i e.num,.sl (YB e.kids) none]
abbrev XH (xs:List Z2):AV:=.sl (YB xs) none
abbrev QP (xs:List Z2) (v:Value):AV:=.sl (YB xs) (some v)
abbrev EI (f:Func):AV:=.agg [Z3 f.params,.i f.result,.i f.body.op,.i f.body.num,XH f.body.kids]
abbrev Hp (f:Func):List AV:=[Z3 f.params,.i f.result,.i f.body.op,.i f.body.num,XH f.body.kids]
def Xu (xs:List Func):List AV:=xs.map EI
abbrev HA (xs:List Func):AV:=.sl (Xu xs) none
abbrev AQ (p:Wb):AV:=.agg [Y6 p.decls,HA p.funcs]
abbrev Mc (p:Wb):List AV:=[Y6 p.decls,HA p.funcs]
abbrev Iy (z:Int):AV:=.val (.int .u8 z)
def Q0 (xs:LI):List AV:=xs.map Iy
abbrev Um (xs:LI):AV:=.sl (Q0 xs) none
theorem Z68 (e:Z2):Lg e=Yb e:=by cases e;rw [Lg];rfl
theorem XV:∀xs:List Z2,YB xs=xs.map Yb
 | []=>by rw [YB];rfl
 | s::ss=>by rw [YB,XV ss,Z68];rfl
theorem DG {xs:List Z2} {j:Nat} {x:Z2} (h:xs[j]? = some x):(YB xs)[j]? = some (Yb x):=by simp [XV,h]
theorem GF {xs:List Func} {j:Nat} {x:Func} (h:xs[j]? = some x):(Xu xs)[j]? = some (EI x):=by simp [Xu,h]
theorem Lc {xs:LI} {j:Nat} {x:Int} (h:xs[j]? = some x):(Q0 xs)[j]? = some (Iy x):=by simp [Q0,h]
@[simp] theorem Lh (xs:List Z2):(YB xs).length=xs.length:=by simp [XV]
@[simp] theorem DH (xs:List Func):(Xu xs).length=xs.length:=by simp [Xu]
@[simp] theorem BK (xs:LI):(Q0 xs).length=xs.length:=by simp [Q0]
theorem Am (xs ys:List Z2):YB (xs++ys)=YB xs++YB ys:=by simp [XV]
theorem Z69 (xs ys:List Func):Xu (xs++ys)=Xu xs++Xu ys:=by simp [Xu]
theorem Ld (xs:LI) (n:Nat):(Q0 xs).take n=Q0 (xs.take n):=by simp [Q0]
theorem Lb (xs:LI) (n:Nat):(Q0 xs).drop n=Q0 (xs.drop n):=by simp [Q0]
theorem Ti (xs:List Z2):∀y∈YB xs,y.leaves.length=3:=by intro y hy;simp only [XV,XF] at hy;obtain ⟨x,_,rfl⟩:=hy;rfl
theorem GG (xs:List Func):∀y∈Xu xs,y.leaves.length=5:=by intro y hy;simp only [Xu,XF] at hy;obtain ⟨x,_,rfl⟩:=hy;rfl
theorem Z63 (xs:LI):∀y∈Q0 xs,y.leaves.length=1:=by intro y hy;simp only [Q0,XF] at hy;obtain ⟨x,_,rfl⟩:=hy;rfl
theorem An (xs:List Z2):(Z8 (YB xs)).all AV.one=true:=Jb fun y hy=>by simp only [XV,XF] at hy;obtain ⟨x,_,rfl⟩:=hy;rfl
end Go.Abs
end
section
namespace Go.Abs
open Go.Proofs Go.Proofs.YtabmbhgiodcppaaGreat
section
variable {H:Type} {enc:TypeId × Value->H} {w:World}
def GA (w:World):Yk:=fun b _=>b<w.heap.size
abbrev Tr (enc:TypeId × Value->H) (w:World) (n:Nat) (t:TypeId) (cs:List Value) (x:DataW H × List MemPlace):Prop:=DataW.trod enc Tryz.prog w 0 (fun _=>true) true n t cs=some x
theorem RD {w:World} {a:Addr} {v:Value} (h:w.cell? a=some v):a.block<w.heap.size/\a.spot=none:=by
 unfold World.cell? at h
 split at h
 ·rename_i c e fr hb
  split at h
  ·cases h
  ·rename_i hs
   exact ⟨(UX.1 hb).1,by simpa using hs⟩
 ·cases h
theorem O0 {α:Type} {c:α->Nat}:∀{xs:List α} {ds:List (DataW H)},xs.length=ds.length->(∀(i:Nat) a d,xs[i]? = some a->ds[i]? = some d->c a+1<=Rows.uptoBulk d)->(xs.map fun a=>c a+1).sum<=Rows.uptoBulkAll ds
 | [],[],_,_=>Xa _
 | a::r,d::ds,hl,h=>by
  have h0:=h 0 a d rfl rfl
  have h1:=O0 (c:=c) (xs:=r) (ds:=ds) (by simpa using hl) fun i a d ha hd=>h (i+1) a d (by simpa using ha) (by simpa using hd)
  rw [Tw,List.sum_cons,Rows.uptoBulkAll]
  omega
theorem SX {α:Type} {f:α->AV} {G:Yk} {k b:Nat} (hf:∀x,(f x).leaves.length=k):∀{xs:List α} {o:Nat},(∀(i:Nat) a,xs[i]? = some a->Ww w G b (o+i*k) (f a).leaves)->V8 w G k b o (xs.map f)
 | [],_,_=>.nil
 | x::r,o,h=>by
  refine .cons (hf x) (by have:=h 0 x rfl;simpa using this) (SX hf fun i a ha=>?_)
  have:=h (i+1) a (by simpa using ha)
  rw [show o+(i+1)*k=o+k+i*k by rw [TV];omega] at this
  exact this
theorem Zes {α:Type} [Inhabited α] {t e k:Nat} (ht:Tryz.prog.underlying t=some (.slice e)) (hk:Tryz.prog.cellsOf e=k) (h0:0<k) (f:α->AV) (hf:∀x,(f x).leaves.length=k) (c:α->Nat) (Q:α->Prop) {n:Nat} {cs:List Value} {x:DataW H × List MemPlace}
  (h:Tr enc w n t cs x) (el:∀m cs y,m<n->Tr enc w m e cs y->∃a:α,YS w (GA w) (f a).leaves cs/\c a+1<=Rows.uptoBulk y.1/\Q a) :
  ∃(v:Value) (xs:List α),cs=[v]/\RV w (GA w) (.sl (xs.map f) none) v/\(xs.map fun a=>c a+1).sum+1<=Rows.uptoBulk x.1/\∀a∈xs,Q a:=by
 rcases DataW.trod_slice ht h with ⟨rfl,rfl⟩|⟨a,len,cap,elems,rest,m,rfl,rfl,rfl,_,hlc,_,hlen,hel,_,_⟩
 ·exact ⟨_,[],rfl,.nil (by simp),by simp [Rows.uptoBulk],by simp⟩
 ·rw [hk] at hel
  have hone:∀i,i<len->∃z:α,∃cs' y,w.cells? 0 (a.add (i*k)) k=some cs'/\elems[i]? = some y/\YS w (GA w) (f z).leaves cs'/\c z+1<=Rows.uptoBulk y.1/\Q z:=by
   intro i hi
   have h1:=hel i hi
   rw [Dq om] at h1
   obtain ⟨cs',h2,h3⟩:=Option.bind_eq_some_iff.1 h1
   obtain ⟨z,hz1,hz2,hz3⟩:=el m cs' _ om h3
   exact ⟨z,cs',_,h2,Dq om,hz1,hz2,hz3⟩
  obtain ⟨V,hV⟩:=Go.Deep.choose_lt hone
  refine ⟨_,(List.range len).map V,rfl,?_,?_,?_⟩
  ·cases hl0:len with
   | zero=>exact .nil (by simp)
   | succ q=>
    have hsp:a.spot=none:=by
     obtain ⟨cs',y,g1,_⟩:=hV 0 om
     obtain ⟨_,g2,g3⟩:=World.cells?_some g1
     have g4:=g3 0 h0
     rw [Dq om] at g4
     have g5:=(RD g4).2
     simpa [Addr.add] using g5
    obtain ⟨b,o,sp⟩:=a
    simp only at hsp
    subst hsp
    rw [<-hl0]
    have hll:(((List.range len).map V).map f).length=len:=by simp
    have:=RV.sl (w:=w) (G:=GA w) (es:=((List.range len).map V).map f) (hv:=none) (b:=b) (o:=o) (k:=k) (cap:=cap) (by simp) (by rw [hll];exact hlc) (SX hf fun i z hz=>by
     have hi:i<len:=by have:=(X4.1 hz).1;simpa using this
     have hz':V i=z:=by simpa [hi] using hz
     obtain ⟨cs',y,g1,_,g2,_⟩:=hV i hi
     rw [hz'] at g2
     obtain ⟨_,g3,g4⟩:=World.cells?_some g1
     refine Ww.of_cells g2 fun j u hj=>?_
     have hjl:j<k:=by have:=(X4.1 hj).1;omega
     have g5:=(g4 j hjl).trans hj
     rw [Addr.add_lit,Addr.add_lit] at g5
     exact ⟨g5,(RD g5).1⟩)
    rw [hll] at this
    exact this
  ·have:=O0 (c:=c) (xs:=(List.range len).map V) (ds:=elems.map (·.1)) (by simp [hlen]) fun i z d hz hd=>by
    have hi:i<len:=by have:=(X4.1 hz).1;simpa using this
    have hz':V i=z:=by simpa [hi] using hz
    obtain ⟨cs',y,_,g1,_,g2,_⟩:=hV i hi
    rw [Ky,g1] at hd
    simp only [EF,Wy] at hd
    rw [<-hd,<-hz']
    exact g2
   simp only [Rows.uptoBulk]
   omega
  ·intro z hz
   obtain ⟨i,hi,rfl⟩:=XF.1 hz
   obtain ⟨_,_,_,_,_,_,g⟩:=hV i (List.mem_range.1 hi)
   exact g
theorem Zer {n:Nat} {cs:List Value} {x:DataW H × List MemPlace} (h:Tr enc w n 5 cs x):∃z:Int,cs=[.int .u8 z]/\Rows.uptoBulk x.1=1/\0<=z/\z<=255:=by
 obtain ⟨z,rfl,rfl,hw⟩:=DataW.trod_int Tryz.underlying5 h
 refine ⟨z,rfl,rfl,?_⟩
 simpa [Lit.wf,IntKind.min,IntKind.max,IntKind.signed,IntKind.bits] using hw
theorem SP {n:Nat} {cs:List Value} {x:DataW H × List MemPlace} (h:Tr enc w n 22 cs x):∃(v:Value) (xs:LI),cs=[v]/\RV w (GA w) (Um xs) v/\∀z∈xs,0<=z/\z<=255:=by
 obtain ⟨v,xs,h1,h2,h3,h4⟩:=Zes Tryz.underlying22 (k:=1) kr om (fun z:Int=>Iy z) (fun _=>rfl) (fun _=>0) (fun z=>0<=z/\z<=255) h fun m cs y _ hy=>by
  obtain ⟨z,rfl,hb,hz⟩:=Zer hy
  exact ⟨z,.cons .val .nil,Nat.le_of_eq hb.symm,hz⟩
 exact ⟨v,xs,h1,h2,h4⟩
end
end Go.Abs
end
namespace Go.Abs
structure Sg where
 params:LI
 result:Int
abbrev NC (f:Sg):AV:=.agg [.sl (Z6 f.params) none,.i f.result,.i 0,.i 0,.sl [] none]
def WF (fs:List Sg):List AV:=fs.map NC
theorem Lk {xs:List Sg} {j:Nat} {x:Sg} (h:xs[j]? = some x):(WF xs)[j]? = some (NC x):=by simp [WF,h]
@[simp] theorem Ot (xs:List Sg):(WF xs).length=xs.length:=by simp [WF]
theorem GI (xs:List Sg):∀y∈WF xs,y.leaves.length=5:=by intro y hy;simp only [WF,XF] at hy;obtain ⟨x,_,rfl⟩:=hy;rfl
theorem Ou (xs:List Sg):(Z8 (WF xs)).all AV.one=true:=Jb fun y hy=>by simp only [WF,XF] at hy;obtain ⟨x,_,rfl⟩:=hy;rfl
mutual
def Z7.sz:Z7->Nat
 | .mk _ _ _ args kids=>1+args.length+YU kids
def Za.sz:Za->Nat
 | .mk steps _=>1+Yy steps
def Yy:List Z7->Nat
 | []=>0
 | s::r=>s.sz+Yy r
def YU:List Za->Nat
 | []=>0
 | b::r=>b.sz+YU r
end
theorem Z7.sz_pos (s:Z7):1<=s.sz:=by cases s;rw [Z7.sz];omega
theorem Za.sz_pos (b:Za):1<=b.sz:=by cases b;rw [Za.sz];omega
theorem Jr (l:List Z7):l.length<=Yy l:=by
 induction l with
 | nil=>simp
 | cons s r ih=>have:=s.sz_pos;simp only [Yq,Yy];omega
theorem NY (l:List Za):l.length<=YU l:=by
 induction l with
 | nil=>simp
 | cons s r ih=>have:=s.sz_pos;simp only [Yq,YU];omega
theorem Zi0 {l:List Z7} {k:Nat} {s:Z7} (h:l[k]? = some s):s.sz<=Yy l:=by
 induction l generalizing k with
 | nil=>simp at h
 | cons t r ih=>
  cases k with
  | zero=>simp at h;subst h;simp only [Yy];omega
  | succ k=>have:=ih (k:=k) (by simpa using h);simp only [Yy];omega
theorem NX {l:List Za} {k:Nat} {s:Za} (h:l[k]? = some s):s.sz<=YU l:=by
 induction l generalizing k with
 | nil=>simp at h
 | cons t r ih=>
  cases k with
  | zero=>simp at h;subst h;simp only [YU];omega
  | succ k=>have:=ih (k:=k) (by simpa using h);simp only [YU];omega
theorem Z7.sz_eq (s:Z7):s.sz=1+s.args.length+YU s.kids:=by cases s;rw [Z7.sz];rfl
theorem Za.sz_eq (b:Za):b.sz=1+Yy b.steps:=by cases b;rw [Za.sz];rfl
theorem Et {b:Za} {k:Nat} {s:Z7} (h:b.steps[k]? = some s):s.sz<b.sz:=by have:=Zi0 h;have:=b.sz_eq;omega
theorem Qs {s:Z7} {k:Nat} {b:Za} (h:s.kids[k]? = some b):b.sz<s.sz:=by have:=NX h;have:=s.sz_eq;omega
theorem JB (s:Z7):s.args.length<s.sz:=by have:=s.sz_eq;omega
theorem Ki (s:Z7):s.kids.length<s.sz:=by have:=s.sz_eq;have:=NY s.kids;omega
theorem UG (b:Za):b.steps.length<b.sz:=by have:=b.sz_eq;have:=Jr b.steps;omega
structure K1 (ds:List Zf):Prop where
 len:ds.length<=4194304
 cons:∀d∈ds,d.cons.length<=4194304
 fields:∀d∈ds,∀c∈d.cons,c.fields.length<=4194304
theorem K1.cons_at {ds:List Zf} (h:K1 ds) {k:Nat} {d:Zf} (hd:ds[k]? = some d):d.cons.length<=4194304:=h.cons d (Y1 hd)
theorem K1.fields_at {ds:List Zf} (h:K1 ds) {k j:Nat} {d:Zf} {c:Yh} (hd:ds[k]? = some d) (hc:d.cons[j]? = some c):c.fields.length<=4194304:=
 h.fields d (Y1 hd) c (Y1 hc)
def Ah (m:Nat) (c:Yh):Bool:=decide (c.fields.length<=3)&&Wq m c.fields
def K7 (d:Zf):List Zf->Bool
 | []=>false
 | e::r=>if e.cons.length=0/\e.frm=d.frm/\e.to_=d.to_ then true else K7 d r
def TR (m:Nat):List Yh->Bool
 | []=>true
 | c::r=>if Ah m c=true then TR m r else false
def TA (ds:List Zf) (d:Zf) (i:Nat):Bool:=
 if 0<d.cons.length then (if d.cons.length<=3/\d.frm=0/\d.to_=0 then TR ds.length d.cons else false)
 else if K7 d (ds.take i)=true then false else decide (0<=d.frm/\d.frm<=ds.length)&&decide (0<=d.to_/\d.to_<=ds.length)
def CI (ds:List Zf) (i:Nat):Bool:=(ds[i]?.map fun d=>TA ds d i).getD false
theorem Gz {ds:List Zf} {i:Nat} {d:Zf} (h:ds[i]? = some d):CI ds i=TA ds d i:=by rw [CI,h];rfl
def Tg (ds:List Zf):List Zf->Nat->Bool
 | [],_=>true
 | _::r,i=>if CI ds i=true then Tg ds r (i+1) else false
def V3 (ds:List Zf):Bool:=decide (ds.length<=4)&&Tg ds ds 0
theorem Z5a {m:Nat} {cs:List Yh}:TR m cs=true↔∀c∈cs,Ah m c=true:=by
 induction cs with
 | nil=>simp [TR]
 | cons c r ih=>
  rw [TR]
  split
  ·rename_i h;simp [ih,h]
  ·rename_i h;simp [h]
theorem Og {ds:List Zf}:∀{l:List Zf} {i:Nat},Tg ds l i=true↔∀j<l.length,CI ds (i+j)=true
 | [],i=>by simp [Tg]
 | d::r,i=>by
  rw [Tg]
  split
  ·rename_i h
   rw [Og (l:=r)]
   constructor
   ·intro hq j hj
    cases j with
    | zero=>exact h
    | succ j=>have:=hq j (by simpa using hj);rwa [show i+(j+1)=i+1+j by omega]
   ·intro hq j hj
    have:=hq (j+1) (by simpa using hj)
    rwa [show i+(j+1)=i+1+j by omega] at this
  ·rename_i h
   simp only [Bool.false_eq_true,false_iff]
   intro hq
   exact h (hq 0 (by simp))
theorem Nk {ds:List Zf} (h:V3 ds=true):Xt ds:=by
 simp only [V3,X9,decide_eq_true_eq] at h
 obtain ⟨h1,h2⟩:=h
 rw [Og] at h2
 have key:∀d∈ds,∃i,TA ds d i=true:=fun d hd=>by
  obtain ⟨i,hi⟩:=List.mem_iff_getElem?.1 hd
  have:=h2 i (X4.1 hi).1
  rw [Wh,Gz hi] at this
  exact ⟨i,this⟩
 have hc:∀d∈ds,0<d.cons.length->d.cons.length<=3/\TR ds.length d.cons=true:=fun d hd hp=>by
  obtain ⟨i,hi⟩:=key d hd
  rw [TA,Zb hp] at hi
  split at hi
  ·rename_i h;exact ⟨h.1,hi⟩
  ·cases hi
 refine ⟨h1,fun d hd=>?_,fun d hd c hc'=>?_⟩
 ·by_cases hp:0<d.cons.length
  ·exact (hc d hd hp).1
  ·omega
 ·have:=Z5a.1 (hc d hd (List.length_pos_of_mem hc')).2 c hc'
  simp only [Ah,X9,decide_eq_true_eq] at this
  exact this.1
def Jn (m:Nat) (f:Sg):Bool:=decide (f.params.length<=3)&&(Wq m f.params&&decide (0<=f.result/\f.result<=m))
def Jo (m:Nat):List Sg->Bool
 | []=>true
 | f::r=>if Jn m f=true then Jo m r else false
def GQ:List Sg->Bool
 | []=>false
 | f::_=>decide (f.params.length=0)&&decide (f.result=0)
theorem Z7b {fs:List Sg} {x:Sg} (h:fs[0]? = some x):GQ fs=(decide (x.params.length=0)&&decide (x.result=0)):=by
 cases fs with
 | nil=>simp at h
 | cons f r=>simp at h;subst h;rfl
def Td (ds:List Zf) (fs:List Sg):Bool:=
 V3 ds&&(decide (1<=fs.length/\fs.length<=4)&&(Jo ds.length fs&&GQ fs))
def KN (ps:LI):LI->Option Int->Bool
 | [],_=>true
 | v::r,prev=>if (0<=v/\v<=(ps.length:Int)-1)/\ps[v.toNat]?≠some 0/\(∀p,prev=some p->p<v) then KN ps r (some v) else false
theorem Mh {ps r:LI} {v:Int} {prev:Option Int} (h:(0<=v/\v<=(ps.length:Int)-1)/\ps[v.toNat]?≠some 0/\(∀p,prev=some p->p<v)):KN ps (v::r) prev=KN ps r (some v):=by
 rw [KN,Zb h]
theorem Hv {ps r:LI} {v:Int} {prev:Option Int} (h:¬((0<=v/\v<=(ps.length:Int)-1)/\ps[v.toNat]?≠some 0/\(∀p,prev=some p->p<v))):KN ps (v::r) prev=false:=by
 rw [KN,Z5 h]
def Uw (ps ls:LI):Bool:=KN ps ls none
def D9:List YD->Bool
 | []=>true
 | r::rs=>if Uw r.params r.lent=true then D9 rs else false
def Qa (r:YD):Sg:=⟨r.params,r.result⟩
def Ax (n:ZH):Bool:=decide (n.routines.length<=4)&&(Td n.decls (n.routines.map Qa)&&D9 n.routines)
end Go.Abs
section
namespace Go.Abs
def Wz {α:Type} (xs:List α) (i:Int):Option α:=if 0<=i/\i<=(xs.length:Int)-1 then xs[i.toNat]? else none
theorem BG {α:Type} {xs:List α} {i:Int} {x:α} (h:0<=i/\i<=(xs.length:Int)-1) (hx:xs[i.toNat]? = some x):Wz xs i=some x:=by rw [Wz,Zb h,hx]
theorem AS {α:Type} {xs:List α} {i:Int} (h:¬(0<=i/\i<=(xs.length:Int)-1)):Wz xs i=none:=by rw [Wz,Z5 h]
theorem Dv {α:Type} {xs:List α} {i:Int} {x:α} (h:Wz xs i=some x):(0<=i/\i<=(xs.length:Int)-1)/\xs[i.toNat]? = some x:=by
 rw [Wz] at h
 split at h
 ·rename_i h1;exact ⟨h1,h⟩
 ·cases h
def KY (vars:LI):LI->LI->Bool
 | [],[]=>true
 | a::as1,t::ts=>if Wz vars a=some t then KY vars as1 ts else false
 | _,_=>false
def V2 (vars args types:LI):Bool:=KY vars args types
theorem Z2j {vars:LI}:∀{args types:LI},args.length≠types.length->KY vars args types=false
 | [],[],h=>absurd rfl h
 | [],_::_,_=>rfl
 | _::_,[],_=>rfl
 | a::as1,t::ts,h=>by
  rw [KY]
  split
  ·exact Z2j (by simpa using h)
  ·rfl
theorem Ziz {vars args types:LI} {k:Nat} {a t:Int} (ha:args[k]? = some a) (ht:types[k]? = some t) (h:Wz vars a=some t) :
  KY vars (args.drop k) (types.drop k)=KY vars (args.drop (k+1)) (types.drop (k+1)):=by
 rw [Yj ha,Yj ht,KY,Zb h]
theorem Z2i {vars args types:LI} {k:Nat} {a t:Int} (ha:args[k]? = some a) (ht:types[k]? = some t) (h:Wz vars a≠some t) :
  KY vars (args.drop k) (types.drop k)=false:=by
 rw [Yj ha,Yj ht,KY,Z5 h]
theorem Ziy {vars args types:LI} {k:Nat} (ha:args.length<=k) (ht:types.length<=k):KY vars (args.drop k) (types.drop k)=true:=by
 rw [Xp ha,Xp ht];rfl
def Qm (op:Int):Bool:=op==0||(op==6||(op==8||(op==9||op==10)))
def Xj (op:Int):Bool:=decide (0<=op/\op<=11)
def YP (op:Int):Bool:=decide (14<=op/\op<=17)
def Qd (vars:LI) (op into:Int):Bool:=
 if into=0 then true else if op=6 then ((Wz vars (into-1)).map fun t=>decide (0<t)).getD false else false
def EK (ds:List Zf) (ps:LI) (res:Int):Int:=Ab ds (ps.getLast?.getD 0) res
def Cb (ds:List Zf) (vars:LI) (op:Int) (args:LI) (r:YD):Int:=
 if op=9 then (if V2 vars args r.params=true then r.result else -1)
 else if r.params.length=0∨0<r.lent.length∨¬V2 vars args (r.params.take (r.params.length-1))=true then -1
 else EK ds r.params r.result
def Kr (n:ZH) (vars:LI) (op num:Int) (args:LI):Int:=
 match Wz n.routines num with
 | none=>-1
 | some r=>Cb n.decls vars op args r
def J7 (ds:List Zf) (vars:LI) (op:Int) (args:LI):Int:=
 match args with
 | [a]=>match Wz vars a with
  | some t=>if t=0 then -1 else if (op≠14/\op≠15)/\VZ ds t=true then -1 else 0
  | none=>-1
 | _=>-1
def J5 (ds:List Zf) (vars:LI) (args:LI):Int:=
 match args with
 | [a,b]=>match Wz vars a with
  | some t=>if VZ ds t=true then
    (match ds[(t-1).toNat]? with
     | some d=>if V2 vars [b] [d.frm]=true then d.to_ else -1
     | none=>-1) else -1
  | none=>-1
 | _=>-1
def W5 (ds:List Zf) (op num:Int):List LI:=if op=7 then [[],[]] else (ZX ds num).map (ZP ds)
mutual
def X1 (n:ZH) (vars:LI):Z7->Int
 | .mk op num into args kids=>
  if (num≠0/\¬Qm op=true)∨¬Qd vars op into=true∨(0<kids.length/\op≠7/\op≠8) then -1
  else if op=0 then (if args.length=0/\(-999<=num/\num<=999) then 0 else -1)
  else if op=1∨op=2∨op=3∨op=4 then (if V2 vars args [0,0]=true then 0 else -1)
  else if op=5 then (if V2 vars args [0]=true then 0 else -1)
  else if op=6 then (if 0<Wn n.decls num/\V2 vars args (ZP n.decls num)=true then Wn n.decls num else -1)
  else if op=7 then (if V2 vars args [0]=true then (if (W5 n.decls op num).length=0∨kids.length≠(W5 n.decls op num).length then -1 else QN n vars kids (W5 n.decls op num) true 0) else -1)
  else if op=8 then (if V2 vars args [num]=true then (if (W5 n.decls op num).length=0∨kids.length≠(W5 n.decls op num).length then -1 else QN n vars kids (W5 n.decls op num) true 0) else -1)
  else if op=9∨op=10 then Kr n vars op num args
  else if op=11 then J5 n.decls vars args
  else if op=14∨op=15∨op=16∨op=17 then J7 n.decls vars op args
  else -1
def QN (n:ZH) (vars:LI):List Za->List LI->Bool->Int->Int
 | [],_,_,t=>t
 | b::bs,more,first,t=>
  match more with
  | []=>-1
  | m::ms=>if W7 n (vars++m) b<0∨(first=false/\W7 n (vars++m) b≠t) then -1 else QN n vars bs ms false (W7 n (vars++m) b)
def UF (n:ZH):List Z7->LI->Option LI
 | [],vars=>some vars
 | s::r,vars=>if X1 n vars s<0 then none else UF n r (if Xj s.op=true then vars++[X1 n vars s] else vars)
def W7 (n:ZH) (vars:LI):Za->Int
 | .mk steps result=>match UF n steps vars with
  | none=>-1
  | some vs=>(Wz vs result).getD (-1)
end
def JO (n:ZH) (vars:LI) (op num:Int) (kids:List Za):Int:=
 if (W5 n.decls op num).length=0∨kids.length≠(W5 n.decls op num).length then -1 else QN n vars kids (W5 n.decls op num) true 0
mutual
def BZ:Z7->Int->Int
 | .mk _ _ _ _ kids,left=>Av kids left
def Ts:Za->Int->Int
 | .mk steps _,left=>JQ steps left
def JQ:List Z7->Int->Int
 | [],left=>left
 | s::r,left=>if left<1 then -1 else if BZ s (left-1)<0 then -1 else JQ r (BZ s (left-1))
def Av:List Za->Int->Int
 | [],left=>left
 | b::r,left=>if Ts b left<0 then -1 else Av r (Ts b left)
end
def Bq (b:Za):Int:=if Ts b 600<0 then -1 else 600-Ts b 600
def Bm (n:ZH):List YD->Bool
 | []=>true
 | r::rs=>if ¬Bq r.body<0/\W7 n r.params r.body=r.result then Bm n rs else false
def Kx (n:ZH):Bool:=Ax n&&Bm n n.routines
theorem Ry:(∀(s:Z7) (l:Int),0<=l->BZ s l<=l)/\(∀(b:Za) (l:Int),0<=l->Ts b l<=l):=by
 have key:∀m:Nat,(∀s:Z7,s.sz<=m->∀l:Int,0<=l->BZ s l<=l)/\(∀b:Za,b.sz<=m->∀l:Int,0<=l->Ts b l<=l):=by
  intro m
  induction m with
  | zero=>exact ⟨fun s h=>by have:=s.sz_pos;omega,fun s h=>by have:=s.sz_pos;omega⟩
  | succ m ih=>
   refine ⟨fun s hs l hl=>?_,fun b hb l hl=>?_⟩
   ·cases s with
    | mk op num into args kids=>
     rw [BZ]
     have hk:YU kids<=m:=by rw [Z7.sz] at hs;omega
     clear hs
     induction kids generalizing l with
     | nil=>rw [Av];exact Int.le_refl _
     | cons b r ihr=>
      rw [YU] at hk
      have:=ih.2 b om l hl
      rw [Av]
      split
      ·omega
      ·have:=ihr (Ts b l) om om;omega
   ·cases b with
    | mk steps res=>
     rw [Ts]
     have hk:Yy steps<=m:=by rw [Za.sz] at hb;omega
     clear hb
     induction steps generalizing l with
     | nil=>rw [JQ];exact Int.le_refl _
     | cons s r ihr=>
      rw [Yy] at hk
      rw [JQ]
      split
      ·omega
      ·have:=ih.1 s om (l-1) om
       split
       ·omega
       ·have:=ihr (BZ s (l-1)) om om;omega
 exact ⟨fun s l hl=>(key s.sz).1 s (Xa _) l hl,fun b l hl=>(key b.sz).2 b (Xa _) l hl⟩
end Go.Abs
namespace Go.Abs
theorem Zi1 {l:List Z7} {k:Nat} {s:Z7} (h:l[k]? = some s):k+s.sz<=Yy l:=by
 induction l generalizing k with
 | nil=>simp at h
 | cons t r ih=>
  cases k with
  | zero=>simp at h;subst h;simp only [Yy];omega
  | succ k=>have:=ih (k:=k) (by simpa using h);have:=t.sz_pos;simp only [Yy];omega
theorem Dk {b:Za} {k:Nat} {s:Z7} (h:b.steps[k]? = some s):k+s.sz<b.sz:=by have:=Zi1 h;have:=b.sz_eq;omega
structure Xz (n:ZH):Prop where
 decls:Xt n.decls
 len:n.routines.length<=4
 params:∀r∈n.routines,r.params.length<=3
 lent:∀r∈n.routines,r.lent.length<=4194304
theorem Xz.params_at {n:ZH} (h:Xz n) {k:Nat} {r:YD} (hr:n.routines[k]? = some r):r.params.length<=3:=h.params r (Y1 hr)
theorem Xz.lent_at {n:ZH} (h:Xz n) {k:Nat} {r:YD} (hr:n.routines[k]? = some r):r.lent.length<=4194304:=h.lent r (Y1 hr)
theorem Z43 {ds:List Zf} {num:Int} {k:Nat} {x:Int} (h:(ZX ds num)[k]? = some x):(W5 ds 8 num)[k]? = some (ZP ds x):=by
 rw [W5,Z5 om,Ky,h];rfl
end Go.Abs
namespace Go.Abs
theorem E9 {ds:List Zf} (hd:Xt ds) (t:Int):(ZX ds t).length<=3:=by
 rw [ZX]
 split
 ·rename_i h
  obtain ⟨d,hd1⟩:=Kd (xs:=ds) (j:=(t-1).toNat) om
  rw [hd1,Zdf]
  exact hd.cons_at hd1
 ·simp
theorem Vr {ds:List Zf} (hd:Xt ds) (c:Int):(ZP ds c).length<=3:=by
 by_cases h:Wn ds c<1
 ·rw [(O7 h).1];simp
 ·obtain ⟨k,d,x,h1,_,h3,_,h5⟩:=IX h
  rw [h5];exact hd.fields_at h1 h3
theorem NM {ds:List Zf} (hd:Xt ds) {op num:Int} {k:Nat} {m:LI} (h:(W5 ds op num)[k]? = some m):m.length<=3:=by
 have hm:=Y1 h
 rw [W5] at hm
 split at hm
 ·simp at hm;subst hm;simp
 ·obtain ⟨c,_,rfl⟩:=XF.1 hm;exact Vr hd c
theorem J6 {α:Type} {xs:List α} {x:α} (h:xs.length=1) (hx:xs[0]? = some x):xs=[x]:=by
 cases xs with
 | nil=>simp at h
 | cons a r=>
  cases r with
  | nil=>simp at hx;rw [hx]
  | cons b r=>simp at h
theorem DB {ds:List Zf} {us args:LI} {op:Int} (h:args.length≠1):J7 ds us op args=-1:=by
 cases args with
 | nil=>rfl
 | cons a r=>
  cases r with
  | nil=>simp at h
  | cons b r=>rfl
theorem DC {ds:List Zf} {us args:LI} {op a:Int} (h:args=[a]) (hi:¬(0<=a/\a<=(us.length:Int)-1)):J7 ds us op args=-1:=by
 subst h;rw [J7];simp only [AS hi]
theorem DA {ds:List Zf} {us args:LI} {op a t:Int} (h:args=[a]) (hi:0<=a/\a<=(us.length:Int)-1) (ht:us[a.toNat]? = some t) :
  J7 ds us op args=if t=0 then -1 else if (op≠14/\op≠15)/\VZ ds t=true then -1 else 0:=by
 subst h;rw [J7];simp only [BG hi ht]
theorem Zfb {n:ZH} {us args:LI} {op num:Int} {r:YD} (hi:0<=num/\num<=(n.routines.length:Int)-1) (hr:n.routines[num.toNat]? = some r) :
  Kr n us op num args=Cb n.decls us op args r:=by
 rw [Kr];simp only [BG hi hr]
theorem Zfc {n:ZH} {us args:LI} {op num:Int} (hi:¬(0<=num/\num<=(n.routines.length:Int)-1)):Kr n us op num args=-1:=by
 rw [Kr];simp only [AS hi]
theorem Zae {xs:LI} {x:Int} (h:xs[xs.length-1]? = some x):xs.getLast?.getD 0=x:=by
 rw [List.getLast?_eq_getElem?,h];rfl
theorem Zca {n:ZH} {us:LI} {bs:List Za} {ms:List LI} {b:Za} {m:LI} {k:Nat} {t:Int} (hb:bs[k]? = some b) (hm:ms[k]? = some m)
  (h:¬(W7 n (us++m) b<0∨(k:Int)>0/\W7 n (us++m) b≠t)) :
  QN n us (bs.drop k) (ms.drop k) (decide (k=0)) t=QN n us (bs.drop (k+1)) (ms.drop (k+1)) (decide (k+1=0)) (W7 n (us++m) b):=by
 rw [Yj hb,Yj hm,QN,Z5]
 ·simp
 ·rintro (q|⟨q1,q2⟩)
  ·exact h (.inl q)
  ·exact h (.inr ⟨by simp at q1;omega,q2⟩)
theorem Zc8 {n:ZH} {us:LI} {bs:List Za} {ms:List LI} {b:Za} {m:LI} {k:Nat} {t:Int} (hb:bs[k]? = some b) (hm:ms[k]? = some m)
  (h:W7 n (us++m) b<0∨(k:Int)>0/\W7 n (us++m) b≠t) :
  QN n us (bs.drop k) (ms.drop k) (decide (k=0)) t=-1:=by
 rw [Yj hb,Yj hm,QN,Zb]
 rcases h with q|⟨q1,q2⟩
 ·exact .inl q
 ·exact .inr ⟨by simp;omega,q2⟩
theorem Zc9 {n:ZH} {us:LI} {bs:List Za} {ms:List LI} {k:Nat} {f:Bool} {t:Int} (hb:bs.length<=k):QN n us (bs.drop k) (ms.drop k) f t=t:=by
 rw [Xp hb,QN]
end Go.Abs
end
namespace Go.Abs
theorem N7 (n:ZH) (us:LI) (s:Z7):X1 n us s =
  if (s.num≠0/\¬Qm s.op=true)∨¬Qd us s.op s.into=true∨(0<s.kids.length/\s.op≠7/\s.op≠8) then -1
  else if s.op=0 then (if s.args.length=0/\(-999<=s.num/\s.num<=999) then 0 else -1)
  else if s.op=1∨s.op=2∨s.op=3∨s.op=4 then (if V2 us s.args [0,0]=true then 0 else -1)
  else if s.op=5 then (if V2 us s.args [0]=true then 0 else -1)
  else if s.op=6 then (if 0<Wn n.decls s.num/\V2 us s.args (ZP n.decls s.num)=true then Wn n.decls s.num else -1)
  else if s.op=7 then (if V2 us s.args [0]=true then JO n us s.op s.num s.kids else -1)
  else if s.op=8 then (if V2 us s.args [s.num]=true then JO n us s.op s.num s.kids else -1)
  else if s.op=9∨s.op=10 then Kr n us s.op s.num s.args
  else if s.op=11 then J5 n.decls us s.args
  else if s.op=14∨s.op=15∨s.op=16∨s.op=17 then J7 n.decls us s.op s.args
  else -1:=by
 cases s with
 | mk op num into args kids=>rw [X1];rfl
theorem IL (n:ZH) (us:LI) (b:Za):W7 n us b=match UF n b.steps us with
  | none=>-1
  | some vs=>(Wz vs b.result).getD (-1):=by
 cases b with
 | mk st r=>rw [W7];rfl
theorem NJ {α:Type} {xs:List α} {x:α} (h:xs.length=2) (hx:xs[0]? = some x):∃y,xs=[x,y]:=by
 match xs,h with
 | [a,b],_=>simp at hx;subst hx;exact ⟨b,rfl⟩
theorem T1 {ds:List Zf} {us args:LI} (h:args.length≠2):J5 ds us args=-1:=by
 match args,h with
 | [],_=>rfl
 | [_],_=>rfl
 | [_,_],h=>simp at h
 | _::_::_::_,_=>rfl
theorem T2 {ds:List Zf} {us args:LI} {a:Int} (hl:args.length=2) (h:args[0]? = some a) (hi:¬(0<=a/\a<=(us.length:Int)-1)):J5 ds us args=-1:=by
 obtain ⟨y,rfl⟩:=NJ hl h;rw [J5];simp only [AS hi]
theorem UH {ds:List Zf} {us args:LI} {a t:Int} (hl:args.length=2) (h:args[0]? = some a) (hi:0<=a/\a<=(us.length:Int)-1) (ht:us[a.toNat]? = some t) :
  J5 ds us args=if VZ ds t=true then
    (match ds[(t-1).toNat]? with
     | some d=>if V2 us (args.drop 1) [d.frm]=true then d.to_ else -1
     | none=>-1) else -1:=by
 obtain ⟨y,rfl⟩:=NJ hl h;rw [J5];simp only [BG hi ht];rfl
theorem Z3w {ds:List Zf} {us args:LI} {a t:Int} {d:Zf} (hl:args.length=2) (h:args[0]? = some a) (hi:0<=a/\a<=(us.length:Int)-1) (ht:us[a.toNat]? = some t)
  (hA:VZ ds t=true) (hd:ds[(t-1).toNat]? = some d):J5 ds us args=if V2 us (args.drop 1) [d.frm]=true then d.to_ else -1:=by
 rw [UH hl h hi ht,Zb hA];simp only [hd]
theorem M5 {ds:List Zf} {t:Int} (h:VZ ds t=true):1<=t/\t<=ds.length:=by
 simp only [VZ,X9,decide_eq_true_eq] at h;exact h.1
theorem Zcs (b:Za) (l:Int):Ts b l=JQ b.steps l:=by cases b;rw [Ts];rfl
theorem Rz (s:Z7) (l:Int):BZ s l=Av s.kids l:=by cases s;rw [BZ];rfl
structure A6 (n:ZH):Prop where
 decls:K1 n.decls
 len:n.routines.length<=4194304
 params:∀r∈n.routines,r.params.length<=4194304
 lent:∀r∈n.routines,r.lent.length<=4194304
 body:∀r∈n.routines,r.body.sz<=10000000
theorem MX {m:Nat} {fs:List Sg} (h:Jo m fs=true):∀f∈fs,Jn m f=true:=by
 induction fs with
 | nil=>simp
 | cons f r ih=>
  rw [Jo] at h
  split at h
  ·rename_i h1
   intro g hg
   rcases YI.1 hg with rfl|hg
   ·exact h1
   ·exact ih h g hg
  ·cases h
theorem RQ {n:ZH} (hz:A6 n) (h:Ax n=true):Xz n:=by
 simp only [Ax,Td,X9,decide_eq_true_eq] at h
 obtain ⟨h1,⟨h2,h3,h4,h5⟩,h6⟩:=h
 refine ⟨Nk h2,h1,fun r hr=>?_,hz.lent⟩
 have:=MX h4 (Qa r) (XF.2 ⟨r,hr,rfl⟩)
 simp only [Jn,X9,decide_eq_true_eq] at this
 exact this.1
def gI (xs:LI) (i:Int):Int:=xs[i.toNat]?.getD 0
theorem Tp {xs:LI} {i:Int} {x:Int} (h:xs[i.toNat]? = some x):gI xs i=x:=by rw [gI,h];rfl
structure ZO where
 vars:LI
 own:LI
 par:LI
 con:LI
 fst:LI
 tok:LI
def ZO.grow (L:ZO) (t own par:Int):ZO:=⟨L.vars++[t],L.own++[own],L.par++[par],L.con++[-1],L.fst++[-1],L.tok++[-1]⟩
def Qc (L:ZO) (v:Int):Option ZO:=if gI L.own v<1 then none else some { L with own:=L.own.set v.toNat (gI L.own v-1) }
def K3 (own par ln:LI):Nat->Int->Bool
 | 0,_=>false
 | k+1,v=>if gI own v<1/\¬v∈ln then (if gI par v<0 then false else K3 own par ln k (gI par v)) else true
def Tf (L:ZO) (ln:LI) (v:Int):Bool:=K3 L.own L.par ln (v.toNat+1) v
def QD:LI->Int->LI->LI
 | own,_,[]=>own
 | own,p,f::r=>QD (if f≠0 then own.set p.toNat (gI own p+1) else own) (p+1) r
def Ay (ds:List Zf) (L:ZO) (op x:Int):Option ZO:=
 if gI L.con x<0∨(op=17/\0<=gI L.tok x) then none
 else match Qc L x with
  | none=>none
  | some L1=>some { L1 with
    own:=QD L1.own (gI L.fst x) (ZP ds (gI L.con x))
    tok:=if op=17 then L.tok.set x.toNat (ZP ds (gI L.con x)).length else L.tok }
def Aj (op:Int):Bool:=op==6||(op==9||(op==10||op==11))
def E6 (n:ZH) (op num:Int):LI:=if op=9 then ((n.routines[num.toNat]?).map (·.lent)).getD [] else []
def T8 (n:ZH) (op num:Int) (i:Nat):Bool:=decide ((i:Int)∈E6 n op num)
def JC (n:ZH) (vars:LI) (op num a:Int) (i:Nat):Bool:=Aj op&&(gI vars a != 0&&!T8 n op num i)
def KH (n:ZH) (op num:Int):LI->Nat->ZO->Option ZO
 | [],_,L=>some L
 | a::r,i,L=>if JC n L.vars op num a i=true then (match Qc L a with
   | none=>none
   | some L1=>KH n op num r (i+1) L1) else KH n op num r (i+1) L
def BT (n:ZH) (op num:Int) (ln:LI) (L:ZO):LI->Nat->Bool
 | [],_=>true
 | a::r,i=>if T8 n op num i=true/\¬Tf L ln a=true then false else BT n op num ln L r (i+1)
def EY (L:ZO) (into:Int) (m:Nat):Option ZO:=
 if 0<into then (if gI L.tok (into-1)≠m then none else some { L with tok:=L.tok.set (into-1).toNat (-1) }) else some L
def JF (n:ZH) (ln:LI) (L:ZO) (op num into:Int) (args:LI):Option ZO:=
 match KH n op num args 0 L with
 | none=>none
 | some L1=>if BT n op num ln L1 args 0=true then EY L1 into args.length else none
def Ck:LI->LI->Bool
 | o::os,t::ts=>if o≠0∨0<=t then false else Ck os ts
 | _,_=>true
def ZO.take (L:ZO) (m:Nat):ZO:=⟨L.vars.take m,L.own.take m,L.par.take m,L.con.take m,L.fst.take m,L.tok.take m⟩
def JD (L:ZO) (m:Nat):Option ZO:=if Ck (L.own.drop m) (L.tok.drop m)=true then some (L.take m) else none
def CW (L:ZO) (par:Int):LI->ZO
 | []=>L
 | t::r=>CW (L.grow t 0 par) par r
def Cz (ds:List Zf) (L:ZO) (x c:Int):ZO:=
 CW { L with con:=L.con.set x.toNat c,fst:=L.fst.set x.toNat L.vars.length } x (ZP ds c)
def TT (ds:List Zf) (L:ZO) (op num:Int) (args:LI) (i:Nat):ZO:=
 if op=8 then Cz ds L (gI args 0) (gI (ZX ds num) i) else L
def Bi (lent:LI):LI->Nat->ZO->ZO
 | [],_,L=>L
 | t::r,i,L=>Bi lent r (i+1) (L.grow t (if t≠0/\¬(i:Int)∈lent then 1 else 0) (-1))
def KP (r:YD):ZO:=Bi r.lent r.params 0 ⟨[],[],[],[],[],[]⟩
def CJ (L:ZO) (ln:LI) (v:Int):Option ZO:=if Tf L ln v=true then some { L with own:=L.own.set v.toNat (gI L.own v+1) } else none
def JV (n:ZH) (ln:LI) (L:ZO) (op num into:Int) (args:LI) (ch:Option ZO):Option ZO:=
 if op=14 then CJ L ln (gI args 0)
 else if op=15 then Qc L (gI args 0)
 else if op=16∨op=17 then Ay n.decls L op (gI args 0)
 else if op=7∨op=8 then (if op=8/\¬Tf L ln (gI args 0)=true then none else ch)
 else JF n ln L op num into args
def Ar (L:ZO) (op t:Int) (r:Option ZO):Option ZO:=
 match r with
 | none=>none
 | some L1=>if Xj op=true then some (L1.grow t (if t≠0 then 1 else 0) (-1)) else some L1
def Da (L:ZO) (first:Option ZO) (rest:ZO->Bool):Option ZO:=
 match first with
 | none=>none
 | some one=>if rest one=true then some { L with own:=one.own,tok:=one.tok } else none
def I5 (one:ZO) (two:Option ZO) (rest:Bool):Bool:=
 match two with
 | none=>false
 | some two=>if one.own=two.own/\one.tok=two.tok then rest else false
def FZ (r:Option ZO) (f:ZO->Option ZO):Option ZO:=match r with|none=>none|some L=>f L
def Ap (m:Nat) (res:Int) (L:ZO):Option ZO:=FZ (if gI L.vars res≠0 then Qc L res else some L) fun L2=>JD L2 m
mutual
def QU (n:ZH) (ln:LI) (L:ZO):Z7->Option ZO
 | .mk op num into args kids=>Ar L op (X1 n L.vars (.mk op num into args kids)) (JV n ln L op num into args (Jh n ln L op num args kids))
def Jh (n:ZH) (ln:LI) (L:ZO) (op num:Int) (args:LI):List Za->Option ZO
 | []=>none
 | b::bs=>Da L (U8 n ln (TT n.decls L op num args 0) L.vars.length b) fun one=>JN n ln L op num args one bs 1
def JN (n:ZH) (ln:LI) (L:ZO) (op num:Int) (args:LI) (one:ZO):List Za->Nat->Bool
 | [],_=>true
 | b::bs,i=>I5 one (U8 n ln (TT n.decls L op num args i) L.vars.length b) (JN n ln L op num args one bs (i+1))
def JW (n:ZH) (ln:LI) (L:ZO):List Z7->Option ZO
 | []=>some L
 | s::r=>FZ (QU n ln L s) fun L1=>JW n ln L1 r
def U8 (n:ZH) (ln:LI) (L:ZO) (m:Nat):Za->Option ZO
 | .mk steps result=>FZ (JW n ln L steps) (Ap m result)
end
theorem Z20 (n:ZH) (ln:LI) (L:ZO) (s:Z7):QU n ln L s=Ar L s.op (X1 n L.vars s) (JV n ln L s.op s.num s.into s.args (Jh n ln L s.op s.num s.args s.kids)):=by
 cases s with
 | mk op num into args kids=>rw [QU];rfl
theorem IK (n:ZH) (ln:LI) (L:ZO) (m:Nat) (b:Za):U8 n ln L m b=FZ (JW n ln L b.steps) (Ap m b.result):=by
 cases b with
 | mk st r=>rw [U8];rfl
def Z48 (n:ZH) (r:YD):Bool:=
 match U8 n r.lent (KP r) r.params.length r.body with
 | none=>false
 | some L=>(JD L 0).isSome
def NU (n:ZH):List YD->Bool
 | []=>true
 | r::rs=>if Z48 n r=true then NU n rs else false
def Z49 (n:ZH):Bool:=Kx n&&NU n n.routines
structure Tx (L:ZO):Prop where
 own:L.own.length=L.vars.length
 par:L.par.length=L.vars.length
 con:L.con.length=L.vars.length
 fst:L.fst.length=L.vars.length
 tok:L.tok.length=L.vars.length
structure XN (ds:List Zf) (L:ZO) (q:Int):Prop where
 len:Tx L
 down:∀j:Int,0<=j->j<L.vars.length->gI L.par j<j
 arm:∀x:Int,0<=x->x<L.vars.length->0<=gI L.con x->0<=gI L.fst x/\gI L.fst x+(ZP ds (gI L.con x)).length<=L.vars.length
 nn:∀x∈L.own,0<=x
 bd:∀x∈L.own,x<=q
end Go.Abs
section
namespace Go.Abs
end Go.Abs
namespace Go.Abs
theorem Zct {n:ZH} {op num:Int} {r:YD} (h:op=9) (hr:n.routines[num.toNat]? = some r):E6 n op num=r.lent:=by
 rw [E6,Zb h,hr];rfl
end Go.Abs
namespace Go.Abs
theorem Z3j {own par ln:LI} {N:Int} (hd:∀j:Int,0<=j->j<N->gI par j<j):∀(k:Nat) (v:Int),0<=v->v<N->v.toNat+1<=k->K3 own par ln k v=K3 own par ln (v.toNat+1) v:=by
 intro k
 induction k using Nat.strongRecOn with
 | ind k ih=>
  intro v h0 hN hk
  cases k with
  | zero=>omega
  | succ k=>
   rw [K3,K3]
   split
   ·split
    ·rfl
    ·have hdv:=hd v h0 hN
     rw [ih k om (gI par v) om om om]
     rw [ih v.toNat om (gI par v) om om om]
   ·rfl
theorem Z3l {own par ln:LI} {N j x1 x2:Int} {r:Bool} (h1:gI own j=x1) (h2:gI par j=x2) (hj:0<=j/\j<N) (hx:x1<1/\¬j∈ln) (h0:¬x2<0) (hd:∀i:Int,0<=i->i<N->gI par i<i)
  (h:K3 own par ln (j.toNat+1) j=r):K3 own par ln (x2.toNat+1) x2=r:=by
 rw [K3,h1,h2,Zb hx,Z5 h0] at h
 have hdv:=hd j hj.1 hj.2
 rw [<-h,Z3j hd j.toNat x2 om om om]
theorem Z3k {own par ln:LI} {j x1 x2:Int} {r:Bool} (h1:gI own j=x1) (h2:gI par j=x2) (hx:x1<1/\¬j∈ln) (h0:x2<0) (h:K3 own par ln (j.toNat+1) j=r):false=r:=by
 rw [K3,h1,h2,Zb hx,Zb h0] at h;exact h
theorem Z3m {own par ln:LI} {j x1:Int} {r:Bool} (h1:gI own j=x1) (hx:¬(x1<1/\¬j∈ln)) (h:K3 own par ln (j.toNat+1) j=r):true=r:=by
 rw [K3,h1,Z5 hx] at h;exact h
end Go.Abs
namespace Go.Abs
theorem JX {L L':ZO} {v:Int} (h:Qc L v=some L'):1<=gI L.own v/\L'.vars=L.vars/\L'.par=L.par/\L'.con=L.con/\L'.fst=L.fst/\L'.tok=L.tok/\L'.own=L.own.set v.toNat (gI L.own v-1):=by
 rw [Qc] at h
 split at h
 ·cases h
 ·cases h;exact ⟨by omega,rfl,rfl,rfl,rfl,rfl,rfl⟩
theorem GW {xs:LI} {v:Int} (h:gI xs v≠0):gI xs v∈xs:=by
 rw [gI] at h ⊢
 cases hx:xs[v.toNat]? with
 | none=>rw [hx] at h;exact absurd rfl h
 | some y=>exact Y1 hx
theorem JS {xs:LI} {i:Nat} {a x:Int} (h:x∈xs.set i a):x∈xs∨x=a:=List.mem_or_eq_of_mem_set h
theorem XN.take {ds:List Zf} {L L':ZO} {q v:Int} (hk:XN ds L q) (h:Qc L v=some L'):XN ds L' q:=by
 obtain ⟨t1,t2,t3,t4,t5,t6,t7⟩:=JX h
 obtain ⟨f1,f2,f3,f4,f5⟩:=hk.len
 have hm:=GW (xs:=L.own) (v:=v) om
 refine ⟨⟨by rw [t7,t2,V4];exact f1,by rw [t3,t2];exact f2,by rw [t4,t2];exact f3,by rw [t5,t2];exact f4,by rw [t6,t2];exact f5⟩,?_,?_,?_,?_⟩
 ·rw [t2,t3];exact hk.down
 ·rw [t2,t4,t5];exact hk.arm
 ·rw [t7];intro x hx
  rcases JS hx with hx|rfl
  ·exact hk.nn x hx
  ·omega
 ·rw [t7];intro x hx
  rcases JS hx with hx|rfl
  ·exact hk.bd x hx
  ·have:=hk.bd _ hm;omega
end Go.Abs
end
namespace Go.Abs
theorem Nh {us:LI}:∀{args tys:LI},KY us args tys=true->args.length=tys.length/\∀a∈args,0<=a/\a<us.length
 | [],[],_=>⟨rfl,by simp⟩
 | [],_::_,h=>by cases h
 | _::_,[],h=>by cases h
 | a::as1,t::ts,h=>by
  rw [KY] at h
  split at h
  ·rename_i h1
   obtain ⟨q1,q2⟩:=Nh h
   refine ⟨by simp [q1],fun x hx=>?_⟩
   rcases YI.1 hx with rfl|hx
   ·have:=(Dv h1).1;omega
   ·exact q2 x hx
  ·cases h
theorem Rm {n:ZH} {us:LI}:∀{bs:List Za} {ms:List LI} {f:Bool} {t:Int},0<=t->0<=QN n us bs ms f t ->
  ∀(i:Nat) (b:Za) (m:LI),bs[i]? = some b->ms[i]? = some m->0<=W7 n (us++m) b
 | [],_,_,_,_,_,i,b,m,hb,_=>by simp at hb
 | b::bs,[],_,_,_,h,_,_,_,_,hm=>by simp at hm
 | b::bs,m::ms,f,t,ht,h,i,c,l,hc,hl=>by
  rw [QN] at h
  split at h
  ·omega
  ·rename_i hq
   have h0:0<=W7 n (us++m) b:=by
    rcases Int.lt_or_le (W7 n (us++m) b) 0 with q|q
    ·exact absurd (.inl q) hq
    ·exact q
   cases i with
   | zero=>simp at hc hl;subst hc hl;exact h0
   | succ i=>exact Rm h0 h i c l (by simpa using hc) (by simpa using hl)
structure Ct (n:ZH) (us:LI) (s:Z7):Prop where
 args:∀a∈s.args,0<=a/\a<us.length
 one:(s.op=7∨s.op=8∨(14<=s.op/\s.op<=17))->∃a,s.args=[a]
 num:s.op=9->0<=s.num/\s.num<n.routines.length
 into:s.into≠0->1<=s.into/\s.into<=us.length
 kids:(s.op=7∨s.op=8)->s.kids.length=(W5 n.decls s.op s.num).length/\(W5 n.decls s.op s.num).length≠0 /\
  ∀(i:Nat) (b:Za) (m:LI),s.kids[i]? = some b->(W5 n.decls s.op s.num)[i]? = some m->0<=W7 n (us++m) b
theorem Zc7 {n:ZH} {us:LI} {op num:Int} {kids:List Za} (h:0<=JO n us op num kids) :
  kids.length=(W5 n.decls op num).length/\(W5 n.decls op num).length≠0/\∀(i:Nat) (b:Za) (m:LI),kids[i]? = some b->(W5 n.decls op num)[i]? = some m->0<=W7 n (us++m) b:=by
 rw [JO] at h
 split at h
 ·omega
 ·rename_i hq
  exact ⟨by omega,by omega,Rm (Int.le_refl 0) h⟩
theorem RB {xs:LI} (h:xs.length=1):∃a,xs=[a]:=by
 match xs,h with
 | [a],_=>exact ⟨a,rfl⟩
theorem Z22 {n:ZH} {us:LI} {s:Z7} (h:0<=X1 n us s):Ct n us s:=by
 rw [N7] at h
 split at h
 ·omega
 rename_i h0
 have hinto:s.into≠0->1<=s.into/\s.into<=us.length:=by
  intro hi
  have hv:Qd us s.op s.into=true:=by
   cases q:Qd us s.op s.into with
   | true=>rfl
   | false=>exact absurd (.inr (.inl (by rw [q];simp))) h0
  rw [Qd,Z5 hi] at hv
  split at hv
  ·cases ha:Wz us (s.into-1) with
   | none=>rw [ha] at hv;cases hv
   | some t=>have:=(Dv ha).1;omega
  ·cases hv
 have mk:(∀a∈s.args,0<=a/\a<us.length)->((s.op=7∨s.op=8∨(14<=s.op/\s.op<=17))->∃a,s.args=[a])->(s.op=9->0<=s.num/\s.num<n.routines.length) ->
   ((s.op=7∨s.op=8)->0<=JO n us s.op s.num s.kids)->Ct n us s:=fun a b c d=>⟨a,b,c,hinto,fun q=>Zc7 (d q)⟩
 have ty:∀{tys},V2 us s.args tys=true->s.args.length=tys.length/\∀a∈s.args,0<=a/\a<us.length:=fun q=>Nh q
 split at h
 ·rename_i h1
  split at h
  ·rename_i h2
   exact mk (by rw [List.eq_nil_of_length_eq_zero h2.1];simp) om om om
  ·omega
 split at h
 ·split at h
  ·rename_i h1 h2;exact mk (ty h2).2 om om om
  ·omega
 split at h
 ·split at h
  ·rename_i h1 h2;exact mk (ty h2).2 om om om
  ·omega
 split at h
 ·split at h
  ·rename_i h1 h2;exact mk (ty h2.2).2 om om om
  ·omega
 split at h
 ·split at h
  ·rename_i h1 h2;exact mk (ty h2).2 (fun _=>RB (by simpa using (ty h2).1)) om (fun _=>h)
  ·omega
 split at h
 ·split at h
  ·rename_i h1 h2;exact mk (ty h2).2 (fun _=>RB (by simpa using (ty h2).1)) om (fun _=>h)
  ·omega
 split at h
 ·rename_i hop
  rw [Kr] at h
  cases hr:Wz n.routines s.num with
  | none=>rw [hr] at h;simp at h
  | some r=>
   rw [hr] at h
   simp only at h
   have hn:=(Dv hr).1
   rw [Cb] at h
   split at h
   ·split at h
    ·rename_i h2;exact mk (ty h2).2 om om om
    ·omega
   ·split at h
    ·omega
    ·rename_i h2
     have h3:V2 us s.args (r.params.take (r.params.length-1))=true:=by
      cases q:V2 us s.args (r.params.take (r.params.length-1)) with
      | true=>rfl
      | false=>exact absurd (.inr (.inr (by rw [q];simp))) h2
     exact mk (ty h3).2 om om om
 split at h
 ·rename_i hop
  rcases he:s.args with _|⟨a,_|⟨b,_|⟨c,r⟩⟩⟩
  ·rw [he,show J5 n.decls us []=-1 from rfl] at h;omega
  ·rw [he,show J5 n.decls us [a]=-1 from rfl] at h;omega
  ·rw [he,J5] at h
   cases ha:Wz us a with
   | none=>rw [ha] at h;simp at h
   | some t=>
    rw [ha] at h
    simp only at h
    split at h
    ·cases hd:n.decls[(t-1).toNat]? with
     | none=>rw [hd] at h;simp at h
     | some d=>
      rw [hd] at h
      simp only at h
      split at h
      ·rename_i h3
       have h4:=(Nh h3).2 b (by simp)
       have h5:=(Dv ha).1
       refine mk (fun x hx=>?_) om om om
       rw [he] at hx
       rcases YI.1 hx with rfl|hx
       ·omega
       ·rw [Xx.1 hx];exact h4
      ·omega
    ·omega
  ·rw [he,show J5 n.decls us (a::b::c::r)=-1 from rfl] at h;omega
 split at h
 ·rename_i hop
  rcases he:s.args with _|⟨a,_|⟨b,r⟩⟩
  ·rw [he,show J7 n.decls us s.op []=-1 from rfl] at h;omega
  ·rw [he,J7] at h
   cases ha:Wz us a with
   | none=>rw [ha] at h;simp at h
   | some t=>
    have h5:=(Dv ha).1
    refine mk (fun x hx=>?_) (fun _=>⟨a,he⟩) om om
    rw [he] at hx
    rw [Xx.1 hx];omega
  ·rw [he,show J7 n.decls us s.op (a::b::r)=-1 from rfl] at h;omega
 ·omega
def Ku (n:ZH) (us:LI) (s:Z7):LI:=if Xj s.op=true then us++[X1 n us s] else us
theorem Ok {L L':ZO} {ln:LI} {v:Int} (h:CJ L ln v=some L'):L'.vars=L.vars/\L'.par=L.par/\L'.con=L.con/\L'.fst=L.fst/\L'.tok=L.tok/\L'.own=L.own.set v.toNat (gI L.own v+1):=by
 rw [CJ] at h
 split at h
 ·cases h;exact ⟨rfl,rfl,rfl,rfl,rfl,rfl⟩
 ·cases h
theorem ID:∀(fs:LI) (own:LI) (p:Int),(QD own p fs).length=own.length
 | [],own,p=>rfl
 | f::r,own,p=>by rw [QD,ID r];split<;>simp
theorem LG {xs:LI} {q v:Int} (h:∀x∈xs,x<=q) (hq:0<=q):gI xs v<=q:=by
 by_cases h0:gI xs v=0
 ·omega
 ·exact h _ (GW h0)
theorem LH {xs:LI} {v:Int} (h:∀x∈xs,0<=x):0<=gI xs v:=by
 by_cases h0:gI xs v=0
 ·omega
 ·exact h _ (GW h0)
theorem IE:∀(fs:LI) (own:LI) (p:Int),(∀x∈own,0<=x)->∀x∈QD own p fs,0<=x
 | [],own,p,h=>h
 | f::r,own,p,h=>by
  rw [QD]
  refine IE r _ _ fun x hx=>?_
  split at hx
  ·rcases JS hx with hx|rfl
   ·exact h x hx
   ·have:=LH (v:=p) h;omega
  ·exact h x hx
theorem IC:∀(fs:LI) (own:LI) (p q:Int),0<=q->(∀x∈own,x<=q)->∀x∈QD own p fs,x<=q+fs.length
 | [],own,p,q,hq,h=>by intro x hx;have:=h x hx;simp;omega
 | f::r,own,p,q,hq,h=>by
  intro x hx
  rw [QD] at hx
  have:=IC r _ _ (q+1) om (fun y hy=>by
   split at hy
   ·rcases JS hy with hy|rfl
    ·have:=h y hy;omega
    ·have:=LG (v:=p) h hq;omega
   ·have:=h y hy;omega) x hx
  simp only [Yq];omega
theorem Sa {ds:List Zf} {L L':ZO} {op v:Int} (h:Ay ds L op v=some L'):L'.vars=L.vars/\L'.par=L.par/\L'.con=L.con/\L'.fst=L.fst/\L'.tok.length=L.tok.length /\
  ∃L1,Qc L v=some L1/\L'.own=QD L1.own (gI L.fst v) (ZP ds (gI L.con v)):=by
 rw [Ay] at h
 split at h
 ·cases h
 ·cases ht:Qc L v with
  | none=>rw [ht] at h;cases h
  | some L1=>
   rw [ht] at h
   simp only at h
   obtain ⟨t1,t2,t3,t4,t5,t6,t7⟩:=JX ht
   cases h
   refine ⟨t2,t3,t4,t5,?_,L1,rfl,rfl⟩
   split
   ·rw [V4]
   ·rfl
theorem LO {n:ZH} {op num:Int} {ds:List Zf} {q:Int}:∀{as1:LI} {i:Nat} {L L':ZO},XN ds L q->KH n op num as1 i L=some L'->XN ds L' q/\L'.vars=L.vars/\L'.par=L.par/\L'.con=L.con/\L'.fst=L.fst/\L'.tok=L.tok
 | [],i,L,L',hk,h=>by rw [KH] at h;cases h;exact ⟨hk,rfl,rfl,rfl,rfl,rfl⟩
 | a::r,i,L,L',hk,h=>by
  rw [KH] at h
  split at h
  ·cases ht:Qc L a with
   | none=>rw [ht] at h;cases h
   | some L1=>
    rw [ht] at h
    obtain ⟨t1,t2,t3,t4,t5,t6,t7⟩:=JX ht
    obtain ⟨k1,k2,k3,k4,k5,k6⟩:=LO (hk.take ht) h
    exact ⟨k1,k2.trans t2,k3.trans t3,k4.trans t4,k5.trans t5,k6.trans t6⟩
  ·exact LO hk h
theorem XN.le {ds:List Zf} {L:ZO} {q q':Int} (h:XN ds L q) (hq:q<=q'):XN ds L q':=⟨h.len,h.down,h.arm,h.nn,fun x hx=>Int.le_trans (h.bd x hx) hq⟩
theorem XN.turn {ds:List Zf} {L L':ZO} {q q':Int} (hk:XN ds L q) (h1:L'.vars=L.vars) (h2:L'.par=L.par) (h3:L'.con=L.con) (h4:L'.fst=L.fst) (h5:L'.tok.length=L.tok.length) (h6:L'.own.length=L.own.length)
  (h7:∀x∈L'.own,0<=x) (h8:∀x∈L'.own,x<=q'):XN ds L' q':=by
 obtain ⟨f1,f2,f3,f4,f5⟩:=hk.len
 refine ⟨⟨by rw [h6,h1];exact f1,by rw [h2,h1];exact f2,by rw [h3,h1];exact f3,by rw [h4,h1];exact f4,by rw [h5,h1];exact f5⟩,?_,?_,h7,h8⟩
 ·rw [h1,h2];exact hk.down
 ·rw [h1,h3,h4];exact hk.arm
theorem DU {xs ys:LI} {j:Int} (h:j.toNat<xs.length):gI (xs++ys) j=gI xs j:=by
 rw [gI,gI,A1 h]
theorem Pb {xs:LI} {y:Int} {j:Int} (h:j.toNat=xs.length):gI (xs++[y]) j=y:=by
 rw [gI,h];simp
theorem XN.grow {ds:List Zf} {L:ZO} {q t o p:Int} (hk:XN ds L q) (hp:p<L.vars.length) (ho:0<=o/\o<=q):XN ds (L.grow t o p) q:=by
 obtain ⟨f1,f2,f3,f4,f5⟩:=hk.len
 refine ⟨⟨by simp [ZO.grow,f1],by simp [ZO.grow,f2],by simp [ZO.grow,f3],by simp [ZO.grow,f4],by simp [ZO.grow,f5]⟩,?_,?_,?_,?_⟩
 ·intro j hj hl
  simp only [ZO.grow,Yo,Bw] at hl ⊢
  by_cases hlt:j<L.vars.length
  ·rw [DU om];exact hk.down j hj hlt
  ·rw [Pb om];omega
 ·intro x hx hl
  simp only [ZO.grow,Yo,Bw] at hl ⊢
  by_cases hlt:x<L.vars.length
  ·rw [DU om,DU om]
   intro hc
   have:=hk.arm x hx hlt hc
   exact ⟨this.1,by omega⟩
  ·rw [Pb om];omega
 ·intro x hx
  simp only [ZO.grow,Xg,Xx] at hx
  rcases hx with hx|rfl
  ·exact hk.nn x hx
  ·exact ho.1
 ·intro x hx
  simp only [ZO.grow,Xg,Xx] at hx
  rcases hx with hx|rfl
  ·exact hk.bd x hx
  ·exact ho.2
theorem Pc {xs:LI} {k:Nat} {a:Int} {j:Int} (h:xs.length<=j.toNat/\j.toNat<xs.length+k):gI (xs++List.replicate k a) j=a:=by
 rw [gI,Bv h.1,List.getElem?_replicate,Zb om];rfl
theorem Pd {xs:LI} {x j c:Int} (h:j.toNat=x.toNat) (hl:x.toNat<xs.length):gI (xs.set x.toNat c) j=c:=by
 rw [gI,h,List.getElem?_set_self hl];rfl
theorem Pe {xs:LI} {x j c:Int} (h:j.toNat≠x.toNat):gI (xs.set x.toNat c) j=gI xs j:=by
 rw [gI,gI,List.getElem?_set_ne (fun q=>h q.symm)]
theorem Pz {p:Int}:∀(fs:LI) (L:ZO),CW L p fs=⟨L.vars++fs,L.own++List.replicate fs.length 0,L.par++List.replicate fs.length p,L.con++List.replicate fs.length (-1),
  L.fst++List.replicate fs.length (-1),L.tok++List.replicate fs.length (-1)⟩
 | [],L=>by simp [CW]
 | t::r,L=>by rw [CW,Pz r];simp [ZO.grow,Dr]
theorem Z41 {ds:List Zf} {L:ZO} {q x c:Int} (hk:XN ds L q) (hq:0<=q) (hx:0<=x/\x<L.vars.length):XN ds (Cz ds L x c) q/\(Cz ds L x c).vars=L.vars++ZP ds c:=by
 obtain ⟨f1,f2,f3,f4,f5⟩:=hk.len
 rw [Cz,Pz]
 refine ⟨⟨⟨by simp [f1],by simp [f2],by simp [f3],by simp [f4],by simp [f5]⟩,?_,?_,?_,?_⟩,rfl⟩
 ·intro j hj hl
  simp only [Yo] at hl ⊢
  by_cases hlt:j<L.vars.length
  ·rw [DU om];exact hk.down j hj hlt
  ·rw [Pc om];omega
 ·intro y hy hl
  simp only [Yo] at hl ⊢
  by_cases hlt:y<L.vars.length
  ·rw [DU (by simp;omega),DU (by simp;omega)]
   by_cases he:y.toNat=x.toNat
   ·rw [Pd he om,Pd he om]
    intro _
    exact ⟨by omega,by simp⟩
   ·rw [Pe he,Pe he]
    intro hc
    have:=hk.arm y hy hlt hc
    exact ⟨this.1,by omega⟩
  ·rw [Pc (by simp;omega)];omega
 ·intro y hy
  simp only [Xg,List.mem_replicate] at hy
  rcases hy with hy|⟨_,rfl⟩
  ·exact hk.nn y hy
  ·exact Int.le_refl 0
 ·intro y hy
  simp only [Xg,List.mem_replicate] at hy
  rcases hy with hy|⟨_,rfl⟩
  ·exact hk.bd y hy
  ·exact hq
theorem Ho {n:ZH} {L:ZO} {q:Int} {s:Z7} {i:Nat} {m:LI} (hk:XN n.decls L q) (hq:0<=q) (hf:Ct n L.vars s) (hop:s.op=7∨s.op=8) (hm:(W5 n.decls s.op s.num)[i]? = some m) :
  XN n.decls (TT n.decls L s.op s.num s.args i) q/\(TT n.decls L s.op s.num s.args i).vars=L.vars++m:=by
 rw [TT]
 split
 ·rename_i h8
  obtain ⟨a,ha⟩:=hf.one om
  have hb:=hf.args a (by rw [ha];simp)
  have hg:gI s.args 0=a:=by rw [ha];rfl
  rw [W5,Z5 om,Ky] at hm
  cases hc:(ZX n.decls s.num)[i]? with
  | none=>rw [hc] at hm;cases hm
  | some c=>
   rw [hc] at hm
   cases hm
   have hgc:gI (ZX n.decls s.num) (i:Int)=c:=by rw [gI];simp [hc]
   rw [hg,hgc]
   exact Z41 hk hq hb
 ·rename_i h8
  rw [W5,Zb om] at hm
  have:m=[]:=by
   match i,hm with
   | 0,hm=>simpa using hm.symm
   | 1,hm=>simpa using hm.symm
   | i+2,hm=>simp at hm
  subst this
  exact ⟨hk,by simp⟩
theorem Z23 {n:ZH}:∀{l:List Z7} {us vs:LI},UF n l us=some vs->us.length<=vs.length
 | [],us,vs,h=>by rw [UF] at h;cases h;exact Xa _
 | s::r,us,vs,h=>by
  rw [UF] at h
  split at h
  ·cases h
  ·have:=Z23 h
   split at this
   ·simp only [Yo,Bw] at this;omega
   ·exact this
theorem PA {n:ZH} {ln:LI} {L L':ZO} {op num into q:Int} {args:LI} {ds:List Zf} (hk:XN ds L q) (h:JF n ln L op num into args=some L'):XN ds L' q/\L'.vars=L.vars:=by
 rw [JF] at h
 cases ht:KH n op num args 0 L with
 | none=>rw [ht] at h;cases h
 | some L1=>
  rw [ht] at h
  simp only at h
  obtain ⟨k1,k2,k3,k4,k5,k6⟩:=LO hk ht
  split at h
  ·rw [EY] at h
   split at h
   ·split at h
    ·cases h
    ·cases h
     exact ⟨k1.turn rfl rfl rfl rfl (by simp) rfl k1.nn k1.bd,k2⟩
   ·cases h;exact ⟨k1,k2⟩
  ·cases h
theorem Z5e {L L':ZO} {m:Nat} (h:JD L m=some L'):L'=L.take m/\Ck (L.own.drop m) (L.tok.drop m)=true:=by
 rw [JD] at h
 split at h
 ·rename_i hz;cases h;exact ⟨rfl,hz⟩
 ·cases h
theorem Ng {r:Option ZO} {f:ZO->Option ZO} {L:ZO} (h:FZ r f=some L):∃L1,r=some L1/\f L1=some L:=by
 cases r with
 | none=>cases h
 | some L1=>exact ⟨L1,rfl,h⟩
theorem Rx (n:ZH) (hn:Xz n) (ln:LI):∀m:Nat,
  (∀(s:Z7) (L L':ZO) (q:Int),s.sz<=m->XN n.decls L q->0<=q->0<=X1 n L.vars s->QU n ln L s=some L'->XN n.decls L' (q+4*s.sz)/\L'.vars=Ku n L.vars s) /\
  (∀(b:Za) (L O:ZO) (q:Int) (k:Nat),b.sz<=m->XN n.decls L q->0<=q->0<=W7 n L.vars b->k<=L.vars.length->U8 n ln L k b=some O ->
   (O.own.length=k/\O.tok.length=k/\(∀x∈O.own,0<=x/\x<=q+4*b.sz))/\Tx O/\O.vars.length=k):=by
 intro m
 induction m with
 | zero=>exact ⟨fun s _ _ _ h=>by have:=s.sz_pos;omega,fun s _ _ _ _ h=>by have:=s.sz_pos;omega⟩
 | succ m ih=>
  have hs:∀(s:Z7) (L L':ZO) (q:Int),s.sz<=m+1->XN n.decls L q->0<=q->0<=X1 n L.vars s->QU n ln L s=some L'->XN n.decls L' (q+4*s.sz)/\L'.vars=Ku n L.vars s:=by
   intro s L L' q XS hk hq hty h
   have hp:=s.sz_pos
   have hf:=Z22 hty
   obtain ⟨f1,f2,f3,f4,f5⟩:=hk.len
   rw [Z20] at h
   unfold Ar at h
   cases hpk:JV n ln L s.op s.num s.into s.args (Jh n ln L s.op s.num s.args s.kids) with
   | none=>rw [hpk] at h;cases h
   | some L1=>
    rw [hpk] at h
    simp only at h
    have key:XN n.decls L1 (q+4*s.sz)/\L1.vars=L.vars:=by
     rw [JV] at hpk
     split at hpk
     ·obtain ⟨d1,d2,d3,d4,d5,d6⟩:=Ok hpk
      refine ⟨hk.turn d1 d2 d3 d4 (by rw [d5]) (by rw [d6,V4]) ?_ ?_,d1⟩
      ·rw [d6];intro x hx
       rcases JS hx with hx|rfl
       ·exact hk.nn x hx
       ·have:=LH (v:=gI s.args 0) hk.nn;omega
      ·rw [d6];intro x hx
       rcases JS hx with hx|rfl
       ·have:=hk.bd x hx;omega
       ·have:=LG (v:=gI s.args 0) hk.bd hq;omega
     split at hpk
     ·exact ⟨(hk.take hpk).le om,(JX hpk).2.1⟩
     split at hpk
     ·rename_i hop
      obtain ⟨d1,d2,d3,d4,d5,Lt,ht,d6⟩:=Sa hpk
      have hkt:=hk.take ht
      have h3:=Vr hn.decls (gI L.con (gI s.args 0))
      refine ⟨hk.turn d1 d2 d3 d4 d5 ?_ ?_ ?_,d1⟩
      ·rw [d6,ID,(JX ht).2.2.2.2.2.2,V4]
      ·rw [d6];exact IE _ _ _ hkt.nn
      ·rw [d6];intro x hx
       have:=IC _ _ _ q hq hkt.bd x hx;omega
     split at hpk
     ·rename_i hop
      split at hpk
      ·cases hpk
      ·cases hks:s.kids with
       | nil=>rw [hks,Jh] at hpk;cases hpk
       | cons b bs=>
        rw [hks,Jh] at hpk
        unfold Da at hpk
        cases hb:U8 n ln (TT n.decls L s.op s.num s.args 0) L.vars.length b with
        | none=>rw [hb] at hpk;cases hpk
        | some one=>
         rw [hb] at hpk
         simp only at hpk
         split at hpk
         ·cases hpk
          obtain ⟨q1,q2,q3⟩:=hf.kids hop
          have hks0:s.kids[0]? = some b:=by rw [hks];rfl
          obtain ⟨a0,ha0⟩:=Kd (xs:=W5 n.decls s.op s.num) (j:=0) om
          obtain ⟨k1,k2⟩:=Ho hk hq hf hop ha0
          have hbz:=Qs hks0
          obtain ⟨⟨r1,r2,r3⟩,_⟩:=ih.2 b _ one q L.vars.length om k1 hq (by rw [k2];exact q3 0 b a0 hks0 ha0) (by rw [k2];simp) hb
          refine ⟨hk.turn rfl rfl rfl rfl (by simp only;omega) (by simp only;omega) (fun x hx=>(r3 x hx).1) (fun x hx=>?_),rfl⟩
          have:=(r3 x hx).2;omega
         ·cases hpk
     ·obtain ⟨k1,k2⟩:=PA hk hpk
      exact ⟨k1.le om,k2⟩
    split at h
    ·rename_i hd
     cases h
     refine ⟨key.1.grow om ?_,by rw [Ku,Zb hd];simp [ZO.grow,key.2]⟩
     split<;>omega
    ·rename_i hd
     cases h
     exact ⟨key.1,by rw [Ku,Z5 hd];exact key.2⟩
  refine ⟨hs,?_⟩
  intro b L O q k XS hk hq hty hkl h
  have hsteps:∀(l:List Z7) (L L':ZO) (q:Int) (vs:LI),Yy l<=m->XN n.decls L q->0<=q->UF n l L.vars=some vs->JW n ln L l=some L'->XN n.decls L' (q+4*Yy l)/\L'.vars=vs:=by
   intro l
   induction l with
   | nil=>intro L L' q vs _ hk _ h1 h2;rw [UF] at h1;rw [JW] at h2;cases h1;cases h2;exact ⟨by simpa [Yy] using hk,rfl⟩
   | cons s r ihr=>
    intro L L' q vs hz hk hq h1 h2
    rw [Yy] at hz
    rw [JW] at h2
    obtain ⟨L1,e1,e2⟩:=Ng h2
    rw [UF] at h1
    split at h1
    ·cases h1
    ·rename_i h0
     obtain ⟨k1,k2⟩:=hs s L L1 q om hk hq om e1
     obtain ⟨k3,k4⟩:=ihr L1 L' (q+4*s.sz) vs om k1 om (by rw [k2];exact h1) e2
     exact ⟨k3.le (by rw [Yy];omega),k4⟩
  have hbz:=b.sz_eq
  rw [IK] at h
  obtain ⟨L1,e1,e2⟩:=Ng h
  rw [IL] at hty
  cases hv:UF n b.steps L.vars with
  | none=>rw [hv] at hty;simp at hty
  | some vs=>
   obtain ⟨k1,k2⟩:=hsteps b.steps L L1 q vs om hk hq hv e1
   have hlen:=Z23 hv
   rw [Ap] at e2
   obtain ⟨L2,e3,e4⟩:=Ng e2
   have k3:XN n.decls L2 (q+4*Yy b.steps)/\L2.vars=L1.vars:=by
    split at e3
    ·exact ⟨k1.take e3,(JX e3).2.1⟩
    ·cases e3;exact ⟨k1,rfl⟩
   obtain ⟨rfl,_⟩:=Z5e e4
   obtain ⟨g1,g2,g3,g4,g5⟩:=k3.1.len
   have hl2:L2.vars.length=vs.length:=by rw [k3.2,k2]
   refine ⟨⟨by simp [ZO.take];omega,by simp [ZO.take];omega,fun x hx=>?_⟩,⟨by simp [ZO.take];omega,by simp [ZO.take];omega,by simp [ZO.take];omega,by simp [ZO.take];omega,by simp [ZO.take];omega⟩,by simp [ZO.take];omega⟩
   have hx':x∈L2.own:=K0 hx
   have:=k3.1.nn x hx'
   have:=k3.1.bd x hx'
   omega
theorem Z21 {n:ZH} (hn:Xz n) {ln:LI} {s:Z7} {L L':ZO} {q:Int} (hk:XN n.decls L q) (hq:0<=q) (hty:0<=X1 n L.vars s) (h:QU n ln L s=some L'):XN n.decls L' (q+4*s.sz)/\L'.vars=Ku n L.vars s:=
 (Rx n hn ln s.sz).1 s L L' q (Xa _) hk hq hty h
theorem NV {n:ZH} (hn:Xz n) {ln:LI} {b:Za} {L O:ZO} {q:Int} {k:Nat} (hk:XN n.decls L q) (hq:0<=q) (hty:0<=W7 n L.vars b) (hkl:k<=L.vars.length) (h:U8 n ln L k b=some O) :
  O.own.length=k/\O.tok.length=k/\(∀x∈O.own,0<=x/\x<=q+4*b.sz):=
 ((Rx n hn ln b.sz).2 b L O q k (Xa _) hk hq hty hkl h).1
theorem Fy {n:ZH} (hn:Xz n) {ln:LI} {s:Z7} {L L1:ZO} {q:Int} (hk:XN n.decls L q) (hq:0<=q) (hf:Ct n L.vars s)
  (hpk:JV n ln L s.op s.num s.into s.args (Jh n ln L s.op s.num s.args s.kids)=some L1):XN n.decls L1 (q+4*s.sz)/\L1.vars=L.vars:=by
 have hp:=s.sz_pos
 obtain ⟨f1,f2,f3,f4,f5⟩:=hk.len
 rw [JV] at hpk
 split at hpk
 ·obtain ⟨d1,d2,d3,d4,d5,d6⟩:=Ok hpk
  refine ⟨hk.turn d1 d2 d3 d4 (by rw [d5]) (by rw [d6,V4]) ?_ ?_,d1⟩
  ·rw [d6];intro x hx
   rcases JS hx with hx|rfl
   ·exact hk.nn x hx
   ·have:=LH (v:=gI s.args 0) hk.nn;omega
  ·rw [d6];intro x hx
   rcases JS hx with hx|rfl
   ·have:=hk.bd x hx;omega
   ·have:=LG (v:=gI s.args 0) hk.bd hq;omega
 split at hpk
 ·exact ⟨(hk.take hpk).le om,(JX hpk).2.1⟩
 split at hpk
 ·rename_i hop
  obtain ⟨d1,d2,d3,d4,d5,Lt,ht,d6⟩:=Sa hpk
  have hkt:=hk.take ht
  have h3:=Vr hn.decls (gI L.con (gI s.args 0))
  refine ⟨hk.turn d1 d2 d3 d4 d5 ?_ ?_ ?_,d1⟩
  ·rw [d6,ID,(JX ht).2.2.2.2.2.2,V4]
  ·rw [d6];exact IE _ _ _ hkt.nn
  ·rw [d6];intro x hx
   have:=IC _ _ _ q hq hkt.bd x hx;omega
 split at hpk
 ·rename_i hop
  split at hpk
  ·cases hpk
  ·cases hks:s.kids with
   | nil=>rw [hks,Jh] at hpk;cases hpk
   | cons b bs=>
    rw [hks,Jh] at hpk
    unfold Da at hpk
    cases hb:U8 n ln (TT n.decls L s.op s.num s.args 0) L.vars.length b with
    | none=>rw [hb] at hpk;cases hpk
    | some one=>
     rw [hb] at hpk
     simp only at hpk
     split at hpk
     ·cases hpk
      obtain ⟨q1,q2,q3⟩:=hf.kids hop
      have hks0:s.kids[0]? = some b:=by rw [hks];rfl
      obtain ⟨a0,ha0⟩:=Kd (xs:=W5 n.decls s.op s.num) (j:=0) om
      obtain ⟨k1,k2⟩:=Ho hk hq hf hop ha0
      have hbz:=Qs hks0
      obtain ⟨r1,r2,r3⟩:=NV hn k1 hq (by rw [k2];exact q3 0 b a0 hks0 ha0) (by rw [k2];simp) hb
      refine ⟨hk.turn rfl rfl rfl rfl (by simp only;omega) (by simp only;omega) (fun x hx=>(r3 x hx).1) (fun x hx=>?_),rfl⟩
      have:=(r3 x hx).2;omega
     ·cases hpk
 ·obtain ⟨k1,k2⟩:=PA hk hpk
  exact ⟨k1.le om,k2⟩
end Go.Abs
section
namespace Go.Abs
theorem Z42 {ds:List Zf} {op num:Int} {i:Nat} {m:LI} (h8:op=8) (h:(W5 ds op num)[i]? = some m):∃c,(ZX ds num)[i]? = some c/\m=ZP ds c:=by
 rw [W5,Z5 om,Ky] at h
 cases hc:(ZX ds num)[i]? with
 | none=>rw [hc] at h;cases h
 | some c=>rw [hc] at h;cases h;exact ⟨c,rfl,rfl⟩
theorem Zc3 {ds:List Zf} {L:ZO} {op num x c:Int} {args:LI} {i:Nat} (h8:op=8) (hx:args[0]? = some x) (hc:(ZX ds num)[i]? = some c):TT ds L op num args i=Cz ds L x c:=by
 have h1:gI args 0=x:=by rw [gI];simp [hx]
 have h2:gI (ZX ds num) (i:Int)=c:=by rw [gI];simp [hc]
 rw [TT,Zb h8,h1,h2]
theorem Zc4 {ds:List Zf} {L:ZO} {op num:Int} {args:LI} {i:Nat} (h8:¬op=8):TT ds L op num args i=L:=by rw [TT,Z5 h8]
theorem Zc5 {n:ZH} {ln:LI} {L:ZO} {op num:Int} {args:LI} {kids:List Za} {kb:Za} (h:kids[0]? = some kb) :
  Jh n ln L op num args kids=Da L (U8 n ln (TT n.decls L op num args 0) L.vars.length kb) fun one=>JN n ln L op num args one (kids.drop 1) 1:=by
 cases kids with
 | nil=>simp at h
 | cons b bs=>simp at h;subst h;rw [Jh];rfl
theorem Zc6 {n:ZH} {ln:LI} {L one:ZO} {op num:Int} {args:LI} {kids:List Za} {kb:Za} {k:Nat} (h:kids[k]? = some kb) :
  JN n ln L op num args one (kids.drop k) k=I5 one (U8 n ln (TT n.decls L op num args k) L.vars.length kb) (JN n ln L op num args one (kids.drop (k+1)) (k+1)):=by
 rw [Yj h,JN]
def CE (n:ZH) (ln:LI) (L:ZO) (s:Z7):Option ZO:=
 if s.op=8/\¬Tf L ln (gI s.args 0)=true then none else Jh n ln L s.op s.num s.args s.kids
theorem Z4o {n:ZH} {ln:LI} {L:ZO} {s:Z7} {kb:Za} (h:¬(s.op=8/\¬Tf L ln (gI s.args 0)=true)) (hk:s.kids[0]? = some kb) :
  CE n ln L s=Da L (U8 n ln (TT n.decls L s.op s.num s.args 0) L.vars.length kb) fun one=>JN n ln L s.op s.num s.args one (s.kids.drop 1) 1:=by
 rw [CE,Z5 h,Zc5 hk]
theorem QI {xs:LI} {x:Int} (h:xs[0]? = some x):gI xs 0=x:=by rw [gI];simp [h]
end Go.Abs
namespace Go.Abs
theorem Tx.grow {L:ZO} {t o p:Int} (h:Tx L):Tx (L.grow t o p):=by
 obtain ⟨f1,f2,f3,f4,f5⟩:=h
 exact ⟨by simp [ZO.grow,f1],by simp [ZO.grow,f2],by simp [ZO.grow,f3],by simp [ZO.grow,f4],by simp [ZO.grow,f5]⟩
theorem Tx.arm {L:ZO} {i j:Nat} {c d:Int} (h:Tx L):Tx ⟨L.vars,L.own,L.par,L.con.set i c,L.fst.set j d,L.tok⟩:=by
 obtain ⟨f1,f2,f3,f4,f5⟩:=h
 exact ⟨f1,f2,by simp [f3],by simp [f4],f5⟩
end Go.Abs
namespace Go.Abs
theorem Rl {n:ZH} (hn:Xz n) {ln:LI} {L O:ZO} {q:Int} {s:Z7} {i:Nat} {kb:Za} {m:LI} (hk:XN n.decls L q) (hq:0<=q) (hf:Ct n L.vars s) (hop:s.op=7∨s.op=8)
  (_:s.kids[i]? = some kb) (harm:(W5 n.decls s.op s.num)[i]? = some m) (hbt:0<=W7 n (L.vars++m) kb) (h:U8 n ln (TT n.decls L s.op s.num s.args i) L.vars.length kb=some O) :
  O.own.length=L.vars.length/\O.tok.length=L.vars.length:=by
 obtain ⟨k1,k2⟩:=Ho hk hq hf hop harm
 obtain ⟨r1,r2,_⟩:=NV hn k1 hq (by rw [k2];exact hbt) (by rw [k2];simp) h
 exact ⟨r1,r2⟩
theorem Zg5 {one two:ZO} {r:Bool} (h:¬(¬one.own=two.own∨¬one.tok=two.tok)):I5 one (some two) r=r:=Zb ⟨UY.1 fun q=>h (.inl q),UY.1 fun q=>h (.inr q)⟩
theorem Zg4 {one two:ZO} {r:Bool} (h:¬one.own=two.own∨¬one.tok=two.tok):I5 one (some two) r=false:=Z5 fun q=>h.elim (fun z=>z q.1) fun z=>z q.2
theorem Zd2 {L one:ZO} {f:ZO->Bool} (h:f one=true):Da L (some one) f=some ⟨L.vars,one.own,L.par,L.con,L.fst,one.tok⟩:=Zb h
theorem RI {L one:ZO} {f:ZO->Bool} (h:f one=false):Da L (some one) f=none:=Z5 (by rw [h];simp)
end Go.Abs
namespace Go.Abs
section
variable {n:ZH} {ln:LI} {L:ZO} {s:Z7}
abbrev Az (n:ZH) (ln:LI) (L:ZO) (s:Z7):Option ZO:=JV n ln L s.op s.num s.into s.args (Jh n ln L s.op s.num s.args s.kids)
theorem Sf {x:Int} (h:s.op=14) (hx:gI s.args 0=x):Az n ln L s=CJ L ln x:=hx▸Zb h
theorem Sh {x:Int} (h:s.op=15) (hx:gI s.args 0=x):Az n ln L s=Qc L x:=by rw [<-hx,Az,JV,Z5 om,Zb h]
theorem Si {x:Int} (h:s.op=16∨s.op=17) (hx:gI s.args 0=x):Az n ln L s=Ay n.decls L s.op x:=by rw [<-hx,Az,JV,Z5 om,Z5 om,Zb h]
theorem Sj (h:s.op=7∨s.op=8):Az n ln L s=CE n ln L s:=by rw [Az,JV,Z5 om,Z5 om,Z5 om,Zb h,CE]
theorem Sk (h1:¬s.op=14) (h2:¬s.op=15) (h3:¬(s.op=16∨s.op=17)) (h4:¬(s.op=7∨s.op=8)):Az n ln L s=JF n ln L s.op s.num s.into s.args:=by
 rw [Az,JV,Z5 h1,Z5 h2,Z5 h3,Z5 h4]
theorem Z60 {v:Int} (h:¬Tf L ln v=true):CJ L ln v=none:=Z5 h
theorem Z61 {v x:Int} (h:¬¬Tf L ln v=true) (hx:gI L.own v=x):CJ L ln v=some ⟨L.vars,L.own.set v.toNat (x+1),L.par,L.con,L.fst,L.tok⟩:=by rw [CJ,Zb (UY.1 h),hx]
theorem Tv (n:ZH) (ln:LI) (L:ZO) (s:Z7):QU n ln L s=Ar L s.op (X1 n L.vars s) (Az n ln L s):=Z20 n ln L s
theorem Tl {X:ZO} {op t:Int} (h:Xj op=true/\t≠0):Ar L op t (some X)=some (X.grow t 1 (-1)):=by
 unfold Ar;simp only [h.1,↓reduceIte];rw [Zb h.2]
theorem Tm {X:ZO} {op t:Int} (h:¬(Xj op=true/\t≠0)) (h2:Xj op=true):Ar L op t (some X)=some (X.grow 0 0 (-1)):=by
 have ht:t=0:=UY.1 fun q=>h ⟨h2,q⟩
 subst ht
 unfold Ar;simp only [h2,↓reduceIte];rfl
theorem Tn {X:ZO} {op t:Int} (h:¬Xj op=true):Ar L op t (some X)=some X:=by
 unfold Ar;simp only [Z5 h]
end
end Go.Abs
namespace Go.Abs
theorem NW {n:ZH} {us:LI} {b:Za} (h:0<=W7 n us b):∃vs t,UF n b.steps us=some vs/\Wz vs b.result=some t/\0<=t:=by
 rw [IL] at h
 cases hv:UF n b.steps us with
 | none=>rw [hv] at h;simp at h
 | some vs=>
  rw [hv] at h
  simp only at h
  cases ha:Wz vs b.result with
  | none=>rw [ha] at h;simp at h
  | some t=>rw [ha] at h;exact ⟨vs,t,rfl,ha,h⟩
theorem Z24 {n:ZH} {us vs:LI} {s:Z7} {r:List Z7} (h:UF n (s::r) us=some vs):0<=X1 n us s/\UF n r (Ku n us s)=some vs:=by
 rw [UF] at h
 split at h
 ·cases h
 ·exact ⟨by omega,h⟩
theorem Z0w (n:ZH) (us:LI) (s:Z7):us.length<=(Ku n us s).length/\(Ku n us s).length<=us.length+s.sz:=by
 have:=s.sz_pos
 rw [Ku];split
 ·simp only [Yo,Bw];omega
 ·omega
end Go.Abs
namespace Go.Abs
theorem Z6n {X L:ZO} {m:Nat} {r x:Int} (hg:gI L.vars r=x) (h:x≠0) (ht:Qc L r=some X):Ap m r L=JD X m:=by rw [Ap,hg,Zb h,ht];rfl
theorem Z6m {L:ZO} {m:Nat} {r x:Int} (hg:gI L.vars r=x) (h:x≠0) (ht:Qc L r=none):Ap m r L=none:=by rw [Ap,hg,Zb h,ht];rfl
theorem ER {L:ZO} {m:Nat} {r x:Int} (hg:gI L.vars r=x) (h:¬x≠0):Ap m r L=JD L m:=by rw [Ap,hg,Z5 h];rfl
end Go.Abs
namespace Go.Abs
theorem Se {ds:List Zf} {lent:LI}:∀{ps:LI} {i:Nat} {L:ZO},XN ds L 1->XN ds (Bi lent ps i L) 1/\(Bi lent ps i L).vars=L.vars++ps
 | [],i,L,hk=>⟨hk,by simp [Bi]⟩
 | t::r,i,L,hk=>by
  rw [Bi]
  obtain ⟨k1,k2⟩:=Se (lent:=lent) (ps:=r) (i:=i+1) (hk.grow (t:=t) (o:=if t≠0/\¬(i:Int)∈lent then 1 else 0) (p:=-1) om (by split<;>omega))
  exact ⟨k1,by rw [k2];simp [ZO.grow]⟩
theorem Zd7 (ds:List Zf) (r:YD):XN ds (KP r) 1/\(KP r).vars=r.params:=by
 have h:XN ds (⟨[],[],[],[],[],[]⟩:ZO) 1:=⟨⟨rfl,rfl,rfl,rfl,rfl⟩,fun j h1 h2=>by simp at h2;omega,fun j h1 h2=>by simp at h2;omega,by simp,by simp⟩
 obtain ⟨k1,k2⟩:=Se (lent:=r.lent) (ps:=r.params) (i:=0) h
 exact ⟨k1,by rw [KP,k2];rfl⟩
end Go.Abs
namespace Go.Abs
theorem Z09 {n:ZH}:∀{l:List YD},Bm n l=true->∀r∈l,¬Bq r.body<0/\W7 n r.params r.body=r.result
 | [],_,r,h=>by simp at h
 | a::l,h,r,hr=>by
  rw [Bm] at h
  split at h
  ·rename_i h1
   rcases YI.1 hr with rfl|hr
   ·exact h1
   ·exact Z09 h r hr
  ·cases h
theorem Zj7 {n:ZH} (hz:A6 n) (h:Kx n=true):Xz n/\∀r∈n.routines,0<=W7 n r.params r.body:=by
 simp only [Kx,X9] at h
 refine ⟨RQ hz h.1,fun r hr=>?_⟩
 rw [(Z09 h.2 r hr).2]
 have h1:=h.1
 simp only [Ax,Td,X9] at h1
 have:=MX h1.2.1.2.2.1 (Qa r) (XF.2 ⟨r,hr,rfl⟩)
 simp only [Jn,X9,decide_eq_true_eq,Qa] at this
 exact (of_decide_eq_true this.2.2).1
end Go.Abs
end
section
namespace Go.Abs
theorem Z6d {xs:LI} (h:Z6 xs=[]):xs=[]:=by cases xs with|nil=>rfl|cons x r=>cases h
theorem Z64 {xs:List Yh} (h:XA xs=[]):xs=[]:=by cases xs with|nil=>rfl|cons x r=>cases h
theorem Z66 {xs:List Zf} (h:Yz xs=[]):xs=[]:=by cases xs with|nil=>rfl|cons x r=>cases h
end Go.Abs
namespace Go.Abs
end Go.Abs
namespace Go.Abs
end Go.Abs
end
section
namespace Go.Abs
theorem Z51 {c:Int} {ds:List Zf} {k:Nat} {d:Zf} {r:Int × LI} (h:ds[k]? = some d) (hn:¬(c-YK (ds.take k)>=0/\c-YK (ds.take k)<d.cons.length))
  (hr:Uy c (ds.drop k) k (YK (ds.take k))=r):Uy c (ds.drop (k+1)) (k+1) (YK (ds.take (k+1)))=r:=by
 rw [Yj h,Uy,Z5 om] at hr
 rw [V1 h,Dz,<-hr];rfl
end Go.Abs
namespace Go.Abs
theorem Z53 {c:Int} {ds:List Zf} {k:Nat} {d:Zf} {x:Yh} (h:ds[k]? = some d) (hn:c-YK (ds.take k)>=0/\c-YK (ds.take k)<d.cons.length)
  (hx:d.cons[(c-YK (ds.take k)).toNat]? = some x):Uy c (ds.drop k) k (YK (ds.take k))=((k:Int)+1,x.fields):=by
 rw [Yj h,Uy,Zb om,hx];rfl
def By (c:Int) (z:Nat) (v:Int):Prop:=v=c-z∨(c<0/\c-z < -9223372036854775808/\v=c-z+18446744073709551616)
theorem Z45 {c:Int} {z l:Nat} {v:Int} (h:By c z v) (hz:z<=100) (hl:l<=3) (hc:-9223372036854775808<=c/\c<=9223372036854775807):By c (z+l) (Dp (v-l)):=by
 unfold By at *;rw [Dp,IntKind.wrap_i64];omega
theorem Z52 {c v:Int} {ds:List Zf} {k:Nat} {d:Zf} {r:Int × LI} (h:ds[k]? = some d) (ha:By c (YK (ds.take k)) v) (hn:¬(v>=0/\v<d.cons.length))
  (hr:Uy c (ds.drop k) k (YK (ds.take k))=r):Uy c (ds.drop (k+1)) (k+1) (YK (ds.take (k+1)))=r:=Z51 h (by unfold By at ha;omega) hr
theorem Z54 {c v:Int} {ds:List Zf} {k:Nat} {d:Zf} {x:Yh} (h:ds[k]? = some d) (ha:By c (YK (ds.take k)) v) (hz:YK (ds.take k)<=100) (hl:d.cons.length<=3) (hc:-9223372036854775808<=c)
  (hn:v>=0/\v<d.cons.length) (hx:d.cons[v.toNat]? = some x):Uy c (ds.drop k) k (YK (ds.take k))=((k:Int)+1,x.fields):=by
 have:v=c-(YK (ds.take k):Int):=by unfold By at ha;omega
 subst this
 exact Z53 h hn hx
end Go.Abs
namespace Go.Abs
abbrev Of (ds:List Zf) (d:Zf):Prop:=
 (((¬(0<=d.frm/\d.frm<=ds.length))∨(¬(0<=d.to_/\d.to_<=ds.length)))∨((d.cons.length:Int)>3))∨(((d.cons.length:Int)>0)/\((d.frm≠0)∨(d.to_≠0)))
theorem Z5u {ds:List Zf} {d:Zf} {i:Nat} (h:Of ds d):TA ds d i=false:=by
 rw [TA]
 split
 ·rw [Z5];rintro ⟨h1,h2,h3⟩
  rcases h with ((h|h)|h)|h<;>omega
 ·split
  ·rfl
  ·rcases h with ((h|h)|h)|h
   ·rw [decide_eq_false h];rfl
   ·rw [decide_eq_false h,Bool.and_false]
   ·omega
   ·omega
theorem Z5v {ds:List Zf} {d:Zf} {i:Nat} (hl:0<d.cons.length) (h:TR ds.length d.cons=false):TA ds d i=false:=by
 rw [TA,Zb hl];split
 ·exact h
 ·rfl
theorem Z5w {ds:List Zf} {d:Zf} {i:Nat} (hl:d.cons.length=0) (h:K7 d (ds.take i)=true):TA ds d i=false:=by
 rw [TA,Z5 om,Zb h]
theorem Z5x {ds:List Zf} {d:Zf} {i:Nat} (h1:¬Of ds d) (h2:TR ds.length d.cons=true) (h3:d.cons.length=0->K7 d (ds.take i)=false):TA ds d i=true:=by
 rw [TA]
 have ha:0<=d.frm/\d.frm<=ds.length:=UY.1 fun q=>h1 (.inl (.inl (.inl q)))
 have hb:0<=d.to_/\d.to_<=ds.length:=UY.1 fun q=>h1 (.inl (.inl (.inr q)))
 have hc:¬(d.cons.length:Int)>3:=fun q=>h1 (.inl (.inr q))
 split
 ·rename_i hl
  have hd:¬(d.frm≠0∨d.to_≠0):=fun q=>h1 (.inr ⟨by omega,q⟩)
  rw [Zb ⟨by omega,by omega,by omega⟩];exact h2
 ·rw [Z5 (by rw [h3 om];simp),decide_eq_true ha,decide_eq_true hb];rfl
theorem Nl {ds:List Zf} {k:Nat} {d:Zf} (h:ds[k]? = some d) (hA:TA ds d k=false) (c:Tg ds (ds.drop k) k=Tg ds ds 0):false=V3 ds:=by
 rw [V3,<-c,Yj h,Tg,Gz h,hA,Z5 (by simp),Bool.and_false]
theorem Zj9 {ds:List Zf} {k:Nat} {d:Zf} {r:Bool} (h:ds[k]? = some d) (hA:TA ds d k=true) (c:Tg ds (ds.drop k) k=r):Tg ds (ds.drop (k+1)) (k+1)=r:=by
 rw [Yj h,Tg,Gz h,hA,Zb rfl] at c;exact c
theorem Zj8 {ds:List Zf} {k:Nat} (hl:ds.length<=4) (hk:ds.length<=k) (c:Tg ds (ds.drop k) k=Tg ds ds 0):true=V3 ds:=by
 rw [V3,<-c,Xp hk,decide_eq_true hl];rfl
theorem Z55 {m:Nat} {c:Yh} (h:((c.fields.length:Int)>3)∨(¬(Wq m c.fields=true))):Ah m c=false:=by
 rw [Ah]
 rcases h with h|h
 ·rw [decide_eq_false om];rfl
 ·rw [Qz.2 h,Bool.and_false]
theorem Z56 {m:Nat} {c:Yh} (h:¬(((c.fields.length:Int)>3)∨(¬(Wq m c.fields=true)))):Ah m c=true:=by
 rw [Ah,UY.1 fun q=>h (.inr q),decide_eq_true (by have:¬(c.fields.length:Int)>3:=fun q=>h (.inl q);omega)];rfl
end Go.Abs
end
section
namespace Go.Abs
structure VJ where
 pms:LI
 lnt:LI
 res:Int
abbrev Rp (f:VJ):List AV:=[Z3 f.pms,Z3 f.lnt,.i f.res]
abbrev Gi (f:VJ):AV:=.agg (Rp f)
def Tk (fs:List VJ):List AV:=fs.map Gi
abbrev KO (xs:List VJ):AV:=.sl (Tk xs) none
abbrev HD (xs:List VJ) (v:Value):AV:=.sl (Tk xs) (some v)
theorem DL {xs:List VJ} {j:Nat} {x:VJ} (h:xs[j]? = some x):(Tk xs)[j]? = some (Gi x):=by simp [Tk,h]
@[simp] theorem EQ (xs:List VJ):(Tk xs).length=xs.length:=by simp [Tk]
theorem Oq (xs:List VJ):∀y∈Tk xs,y.leaves.length=3:=by intro y hy;simp only [Tk,XF] at hy;obtain ⟨x,_,rfl⟩:=hy;rfl
theorem Z6h (xs:List VJ):(Z8 (Tk xs)).all AV.one=true:=Jb fun y hy=>by simp only [Tk,XF] at hy;obtain ⟨x,_,rfl⟩:=hy;rfl
def AC (m:Nat) (f:VJ):Bool:=Jn m ⟨f.pms,f.res⟩&&Uw f.pms f.lnt
def KS (m:Nat):List VJ->Bool
 | []=>true
 | f::r=>if AC m f=true then KS m r else false
def Lx:List VJ->Bool
 | []=>false
 | f::_=>decide (f.pms.length=0)&&decide (f.res=0)
def Qe (ds:List Zf) (fs:List VJ):Bool:=V3 ds&&(decide (1<=fs.length/\fs.length<=4)&&(Lx fs&&KS ds.length fs))
theorem OO {fs:List VJ} {x:VJ} (h:fs[0]? = some x):Lx fs=(decide (x.pms.length=0)&&decide (x.res=0)):=by
 cases fs with
 | nil=>simp at h
 | cons f r=>simp at h;subst h;rfl
theorem RA {ps ls:LI} {j:Nat} {v:Int} {r:Bool} (h:ls[j]? = some v) (hg:(0<=v/\v<=(ps.length:Int)-1)/\ps[v.toNat]?≠some 0/\(∀p,(if j=0 then none else ls[j-1]?)=some p->p<v))
  (hr:KN ps (ls.drop j) (if j=0 then none else ls[j-1]?)=r):KN ps (ls.drop (j+1)) (if j+1=0 then none else ls[j+1-1]?)=r:=by
 rw [Yj h,Mh hg] at hr
 rw [Z5 om,show j+1-1=j from rfl,h];exact hr
theorem Mj {ps ls:LI} {j:Nat} {v:Int} {r:Bool} (h:ls[j]? = some v) (hg:¬((0<=v/\v<=(ps.length:Int)-1)/\ps[v.toNat]?≠some 0/\(∀p,(if j=0 then none else ls[j-1]?)=some p->p<v)))
  (hr:KN ps (ls.drop j) (if j=0 then none else ls[j-1]?)=r):r=false:=by
 rw [Yj h,Hv hg] at hr;exact hr.symm
theorem I6 {m:Nat} {fs:List VJ} {k:Nat} {f:VJ} {r:Bool} (h:fs[k]? = some f) (hb:AC m f=false) (hr:KS m (fs.drop k)=r):r=false:=by
 rw [Yj h,KS,hb,Z5 (by simp)] at hr;exact hr.symm
theorem Zgd {m:Nat} {fs:List VJ} {k:Nat} {f:VJ} {r:Bool} (h:fs[k]? = some f) (hb:AC m f=true) (hr:KS m (fs.drop k)=r):KS m (fs.drop (k+1))=r:=by
 rw [Yj h,KS,Zb hb] at hr;exact hr
end Go.Abs
namespace Go.Abs
section
variable {ds:List Zf} {fs:List VJ} {x:VJ}
theorem Zje (h:((¬(V3 ds=true))∨((fs.length:Int)<1))∨((fs.length:Int)>4)):false=Qe ds fs:=by
 rw [Qe]
 rcases h with (h|h)|h
 ·rw [Qz.2 h];rfl
 ·rw [decide_eq_false (p:=1<=fs.length/\fs.length<=4) om];simp
 ·rw [decide_eq_false (p:=1<=fs.length/\fs.length<=4) om];simp
theorem Z2q (hx:fs[0]? = some x) (h:((x.pms.length:Int)>0)∨x.res≠0):false=Qe ds fs:=by
 rw [Qe,OO hx]
 rcases h with h|h
 ·rw [decide_eq_false (p:=x.pms.length=0) om];simp
 ·rw [decide_eq_false (p:=x.res=0) h];simp
theorem In (h:KS ds.length fs=false):false=Qe ds fs:=by rw [Qe,h];simp
theorem Zjf (h:¬(((¬(V3 ds=true))∨((fs.length:Int)<1))∨((fs.length:Int)>4))) (hx:fs[0]? = some x) (h1:¬((x.pms.length:Int)>0)) (h2:¬x.res≠0) (h3:KS ds.length fs=true) :
  true=Qe ds fs:=by
 have hv:V3 ds=true:=UY.1 fun q=>h (.inl (.inl q))
 have ha:¬(fs.length:Int)<1:=fun q=>h (.inl (.inr q))
 have hb:¬(fs.length:Int)>4:=fun q=>h (.inr q)
 rw [Qe,OO hx,hv,h3,decide_eq_true (p:=1<=fs.length/\fs.length<=4) om,decide_eq_true (p:=x.pms.length=0) om,decide_eq_true (p:=x.res=0) (UY.1 h2)];rfl
abbrev Z11 (m:Nat) (x:VJ):Prop:=(((x.pms.length:Int)>3)∨(¬(Wq m x.pms=true)))∨(¬(0<=x.res/\x.res<=m))
theorem Zfz {m:Nat} (h:Z11 m x):AC m x=false:=by
 rw [AC,Jn]
 rcases h with (h|h)|h
 ·rw [decide_eq_false (p:=x.pms.length<=3) om];simp
 ·rw [Qz.2 h];simp
 ·rw [decide_eq_false h];simp
theorem MR {m:Nat} (h:Uw x.pms x.lnt=false):AC m x=false:=by rw [AC,h,Bool.and_false]
theorem Zg0 {m:Nat} (h:¬Z11 m x) (hl:Uw x.pms x.lnt=true):AC m x=true:=by
 have h1:¬(x.pms.length:Int)>3:=fun q=>h (.inl (.inl q))
 rw [AC,Jn,hl,decide_eq_true (p:=x.pms.length<=3) om,UY.1 fun q=>h (.inl (.inr q)),decide_eq_true (UY.1 fun q=>h (.inr q))];rfl
end
end Go.Abs
end
section
namespace Go.Abs
structure NTy (n:ZH):Prop where
 result:∀r∈n.routines,0<=r.result
 params:∀r∈n.routines,∀p∈r.params,0<=p
 decl:∀d∈n.decls,d.cons.length=0->0<=d.frm/\0<=d.to_
 fields:∀c,∀f∈ZP n.decls c,0<=f
end Go.Abs
namespace Go.Abs
end Go.Abs
namespace Go.Abs
end Go.Abs
namespace Go.Abs
section
variable {S:Option Int} {c:Prop} [Decidable c] {v:Int} {b:Bool}
end
section
variable {n:ZH} {op num:Int} {ts:LI}
end
end Go.Abs
end
namespace Go.Abs
mutual
def Z7.rng:Z7->Prop
 | .mk _ num _ _ kids=>(-9223372036854775808<=num/\num<=9223372036854775807)/\Af kids
def Za.rng:Za->Prop
 | .mk steps _=>AE steps
def AE:List Z7->Prop
 | []=>True
 | s::r=>s.rng/\AE r
def Af:List Za->Prop
 | []=>True
 | b::r=>b.rng/\Af r
end
theorem Z7.rng_eq (s:Z7):s.rng=((-9223372036854775808<=s.num/\s.num<=9223372036854775807)/\Af s.kids):=by cases s;rw [Z7.rng];rfl
theorem Za.rng_eq (b:Za):b.rng=AE b.steps:=by cases b;rw [Za.rng];rfl
section
variable {n:ZH} {us ts:LI} {s:Z7}
end
theorem Zig {n:ZH} {us:LI} {s:Z7} (h:0<=X1 n us s):(0<=s.op/\s.op<=11)∨(14<=s.op/\s.op<=17):=by
 rw [N7] at h
 by_cases hq:(0<=s.op/\s.op<=11)∨(14<=s.op/\s.op<=17)
 ·exact hq
 ·exfalso
  split at h
  ·omega
  rw [Z5 om,Z5 om,Z5 om,Z5 om,Z5 om,Z5 om,Z5 om,Z5 om,Z5 om] at h
  omega
theorem Oj {n:ZH} {us:LI} {s:Z7} (h:0<=X1 n us s):Xj s.op=!YP s.op:=by
 have:=Zig h
 rw [Xj,YP,Ye];simp;omega

end Go.Abs
section
namespace Go.Abs
structure Jy where
 mat:Int
 fst:Int
 fds:LI
 chg:Bool
def UO:LI->Int->LI
 | [],_=>[]
 | t::r,p=>if t≠0 then p::UO r (p+1) else UO r (p+1)
theorem Zah {xs:LI} {k:Nat} {t p:Int} {acc r:LI} (h:xs[k]? = some t) (ha:acc++UO (xs.drop k) (p+k)=r) :
  (if t≠0 then acc++[p+k] else acc)++UO (xs.drop (k+1)) (p+((k+1:Nat):Int))=r:=by
 rw [Yj h,UO] at ha
 rw [show p+((k+1:Nat):Int)=p+k+1 by omega]
 split
 ·rename_i q;rw [Zb q] at ha;rw [Vf];exact ha
 ·rename_i q;rw [Z5 q] at ha;exact ha
theorem Zag {xs:LI} {k:Nat} {p:Int} {acc r:LI} (h:xs.length<=k) (ha:acc++UO (xs.drop k) (p+k)=r):acc=r:=by
 rw [Xp h,UO,QZ] at ha;exact ha
theorem LR:∀{xs:LI} {p f:Int},f∈UO xs p->p<=f/\f<p+xs.length
 | [],_,_,h=>by simp [UO] at h
 | t::r,p,f,h=>by
  rw [UO] at h
  split at h
  ·rcases YI.1 h with rfl|h
   ·simp only [Yq];omega
   ·have:=LR h;simp only [Yq];omega
  ·have:=LR h;simp only [Yq];omega
theorem H6:∀(xs:LI) (p:Int),(UO xs p).length<=xs.length
 | [],_=>by simp [UO]
 | t::r,p=>by
  have:=H6 r (p+1)
  rw [UO];split<;>simp<;>omega
def RZ:List Jy->Int->Option Jy
 | [],_=>none
 | a::r,v=>match RZ r v with
  | some x=>some x
  | none=>if a.mat=v then some a else none
structure Zjr (ds:List Zf) (L:ZO) (as1:List Jy):Prop where
 rng:∀a∈as1,0<=a.mat/\a.mat<a.fst/\a.fst+a.fds.length<=L.vars.length
 par:∀a∈as1,∀v:Int,a.fst<=v->v<a.fst+a.fds.length->gI L.par v=a.mat
 non:∀v:Int,0<=v->v<L.vars.length->0<=gI L.par v->∃a∈as1,a.fst<=v/\v<a.fst+a.fds.length
 off:∀v:Int,0<=v->v<L.vars.length->match RZ as1 v with
  | none=>gI L.con v<0
  | some a=>0<=gI L.con v/\a.fst=gI L.fst v/\a.fds=ZP ds (gI L.con v)
end Go.Abs
namespace Go.Abs
end Go.Abs
namespace Go.Abs
end Go.Abs
namespace Go.Abs
section
variable {n:ZH} {ln:LI} {L:ZO} {op v:Int} {am:List Jy} {a:Jy}
end
end Go.Abs
namespace Go.Abs
end Go.Abs
end
section
namespace Go.Abs
section
variable {n:ZH} {us:LI} {op num:Int}
end
end Go.Abs
namespace Go.Abs
end Go.Abs
namespace Go.Abs
end Go.Abs
end
section
namespace Go.Abs
section
variable {n:ZH} {ln:LI}
end
end Go.Abs
namespace Go.Abs
end Go.Abs
namespace Go.Abs
end Go.Abs
namespace Go.Abs
section
variable {n:ZH} {ln:LI} {L:ZO} {s:Z7}
end
end Go.Abs
namespace Go.Abs
end Go.Abs
namespace Go.Abs
end Go.Abs
namespace Go.Abs
end Go.Abs
end
section
namespace Go.Abs
end Go.Abs
namespace Go.Abs
end Go.Abs
namespace Go.Abs
end Go.Abs
end
section
namespace Go.Abs
def Z4x (c:Yh):Nat:=c.fields.length
def O9:List Yh->Nat
 | []=>0
 | c::r=>Z4x c+O9 r
def Z59 (l:List Yh):Nat:=l.length+O9 l
def Z5t (d:Zf):Nat:=Z59 d.cons
def Oh:List Zf->Nat
 | []=>0
 | d::r=>Z5t d+Oh r
def Z5y (l:List Zf):Nat:=l.length+Oh l
end Go.Abs
namespace Go.Abs
end Go.Abs
namespace Go.Abs
end Go.Abs
namespace Go.Abs
end Go.Abs
end
namespace Go.Abs
def Zx (op v:Int):Z7:=.mk op 0 0 [v] []
def WA (ds:List Zf) (num:Int) (k:Nat):LI:=((ZX ds num).map (ZP ds))[k]?.getD []
section
variable {ds:List Zf} {am:List Jy} {m:Nat}
end
theorem Lv {ds:List Zf} {num:Int} {k:Nat} {m:LI} (h:((ZX ds num).map (ZP ds))[k]? = some m):WA ds num k=m:=by rw [WA,h];rfl
theorem GO {ds:List Zf} (hd:Xt ds) (num:Int) (k:Nat):(WA ds num k).length<=3:=by
 rw [WA,Ky]
 cases (ZX ds num)[k]? with
 | none=>simp
 | some c=>exact Vr hd c
theorem If {xs:List Z7} {k:Nat} {s:Z7} (h:xs[k]? = some s):Yy (xs.take (k+1))=Yy (xs.take k)+s.sz:=by
 induction xs generalizing k with
 | nil=>simp at h
 | cons t r ih=>
  cases k with
  | zero=>simp at h;subst h;simp [Yy]
  | succ k=>rw [AI,AI,Yy,Yy,ih (by simpa using h)];omega
theorem KX (xs:List Z7) (k:Nat):Yy (xs.take k)<=Yy xs:=by
 induction xs generalizing k with
 | nil=>simp
 | cons t r ih=>
  cases k with
  | zero=>simp [Yy]
  | succ k=>have:=ih k;rw [AI,Yy,Yy];omega
theorem Zgb {n:ZH} {us:LI} {s:Z7} (g:0<=X1 n us s) (h:YP s.op=true):Ku n us s=us:=by rw [Ku,Oj g,h];rfl
theorem Zga {n:ZH} {us:LI} {s:Z7} (g:0<=X1 n us s) (h:¬YP s.op=true):(Ku n us s).length=us.length+1:=by
 rw [Ku,Oj g,Qz.2 h];simp
theorem Zgc {n:ZH} {us:LI} {s:Z7} (g:0<=X1 n us s):(Ku n us s).length=if YP s.op=true then us.length else us.length+1:=by
 split
 ·rw [Zgb g (by assumption)]
 ·exact Zga g (by assumption)
theorem CU (ys:List Vh):(Z8 (Vj ys)).length=ys.length*3:=by rw [UM _ (On _)];simp
theorem P4 (ys:List Vo):(Z8 (Ui ys)).length=ys.length:=by rw [UM _ (Om _)];simp
theorem P3 (ys:List Zf):(Z8 (Yz ys)).length=ys.length*3:=by rw [UM _ (QF _)];simp
theorem Z7z (ys:List Yh):(Z8 (XA ys)).length=ys.length:=by rw [UM _ (CM _)];simp
theorem Z80 {ds:List Zf} {k:Nat} {d:Zf} (h:ds[k]? = some d):Z8 (Yz (ds.drop k))=Ji d++Z8 (Yz (ds.drop (k+1))):=by rw [Yj h];rfl
theorem Z7y {ds:List Yh} {k:Nat} {d:Yh} (h:ds[k]? = some d):Z8 (XA (ds.drop k))=E3 d++Z8 (XA (ds.drop (k+1))):=by rw [Yj h];rfl
theorem Z0c {ys:List Vh} {ds:List Zf} {k:Nat} {d:Zf} (h:ds[k]? = some d):Z8 (Vj ys++Yz (ds.drop k))=Z8 (Vj ys)++(Ji d++Z8 (Yz (ds.drop (k+1)))):=by
 rw [To,Z80 h]
theorem Zff {ys:List Vo} {ds:List Yh} {k:Nat} {d:Yh} (h:ds[k]? = some d):Z8 (Ui ys++XA (ds.drop k))=Z8 (Ui ys)++(E3 d++Z8 (XA (ds.drop (k+1)))):=by
 rw [To,Z7y h]
theorem Z0b {ys:List Vh} {ds:List Zf} {k:Nat} (h:ys.length=k) (hk:k<=ds.length):(Z8 (Vj ys++Yz (ds.drop k))).length=ds.length*3:=by
 rw [To,Yo,CU,P3,AH];omega
theorem Z0a {ys:List Vo} {ds:List Yh} {k:Nat} (h:ys.length=k) (hk:k<=ds.length):(Z8 (Ui ys++XA (ds.drop k))).length=ds.length*1:=by
 rw [To,Yo,P4,Z7z,AH];omega
theorem Zfh {ys:List Vh} {ds:List Zf} {k:Nat} {f t:Int} {zs:List Vo} {u:Value}:Z8 (Vj ys)++([.i f,.i t,Fq zs u]++Z8 (Yz (ds.drop (k+1))))=Z8 (Vj (ys++[Vh.mk f t zs u])++Yz (ds.drop (k+1))):=by
 rw [Z6b,To,To,Vf];rfl
theorem Zfe {ys:List Vo} {ds:List Yh} {k:Nat} {xs:LI} {u:Value}:Z8 (Ui ys)++([ZI xs u]++Z8 (XA (ds.drop (k+1))))=Z8 (Ui (ys++[Vo.mk xs u])++XA (ds.drop (k+1))):=by
 rw [Z6a,To,To,Vf];rfl
theorem Zfg {ys:List Vh} {ds:List Zf} {k:Nat} (h:ds.length<=k):Z8 (Vj ys++Yz (ds.drop k))=Z8 (Vj ys):=by rw [Xp h];simp [Yz]
theorem Zfd {ys:List Vo} {ds:List Yh} {k:Nat} (h:ds.length<=k):Z8 (Ui ys++XA (ds.drop k))=Z8 (Ui ys):=by rw [Xp h];simp [XA]
theorem Zfi {A B:List AV} {x y z x':AV} {o:Nat} (hA:A.length=o):(A++([x,y,z]++B)).take (o+2)++[x']++(A++([x,y,z]++B)).drop (o+2+1)=A++([x,y,x']++B):=by
 have h:=FG (A:=A++[x,y]) (xs:=[z]) (ys:=[x']) (B:=B) (o:=o+2) (by simp [hA]) rfl
 simpa using h
theorem Zfj {A B:List AV} {x y z:AV} {o:Nat} (hA:A.length=o):((A++([x,y,z]++B)).drop (o+2)).take 1=[z]:=by
 have h:=HV (A:=A++[x,y]) (xs:=[z]) (B:=B) (o:=o+2) (by simp [hA])
 simpa using h
theorem Zfk {A B:List AV} {x y z x':AV} {o:Nat} (hA:A.length=o):(A++([x,y,z]++B)).set (o+2) x'=A++([x,y,x']++B):=by
 subst hA
 rw [List.set_append_right _ _ om]
 simp
theorem Z2y {f t:Int} {zs:List Vo} {u:Value} {cs:List Yh} (h:zs.map Vo.er=cs):[Vh.mk f t zs u].map Vh.er=[Zf.mk f t cs]:=by
 rw [<-h];rfl
theorem Qb:∀(xs ys:List Z7),Yy (xs++ys)=Yy xs+Yy ys
 | [],ys=>by simp [Yy]
 | x::r,ys=>by rw [KZ,Yy,Yy,Qb r ys];omega
theorem Gv (op v:Int):(Zx op v).sz=2:=by rw [Zx,Z7.sz];simp [YU]
theorem N4 (op:Int):∀l:LI,Yy (l.map (Zx op))=2*l.length
 | []=>by simp [Yy]
 | x::r=>by rw [Tw,Yy,Gv,N4 op r,Yq];omega
section
variable {ds:List Zf} (hd:Xt ds)
include hd
end
def XL (n:Nat):LI:=(List.range n).map Int.ofNat
theorem Zdg (n:Nat):XL (n+1)=XL n++[(n:Int)]:=by simp [XL,List.range_succ]
theorem Ea (n:Nat):(XL n).length=n:=by simp [XL]
theorem HC (n:Nat):∀f∈XL n,0<=f/\f<=n:=by
 intro f hf
 simp only [XL,XF,List.mem_range] at hf
 obtain ⟨a,ha,rfl⟩:=hf
 show 0<=(a:Int)/\(a:Int)<=n
 omega
def CF (ds:List Zf) (num:Int) (k:Nat):Int:=gI (ZX ds num) k
section
variable {ds:List Zf} {cons first:LI}
end
def TQ (first:LI):Prop:=∀f∈first,0<=f/\f<=1000000000
theorem TQ.snoc {first:LI} (h:TQ first):TQ (first++[0]):=by
 intro f hf
 rcases Xg.1 hf with hf|hf
 ·exact h f hf
 ·rw [Xx.1 hf];omega
theorem TQ.x {first:LI} (h:TQ first) {x m k:Nat} (hm:m<=1000000000) (hk:k<=1000000000):TQ (first.set x (m:Int)++XL k):=by
 intro f hf
 rcases Xg.1 hf with hf|hf
 ·rcases JS hf with hf|rfl
  ·exact h f hf
  ·omega
 ·have:=HC k f hf;omega
section
variable {ds:List Zf} (hd:Xt ds)
include hd
end
def XQ:List Z7->Nat
 | []=>0
 | s::r=>if s.op=14∨s.op=15 then XQ r+1 else 0
def Wr (op:Int):List Z7->LI
 | []=>[]
 | s::r=>if s.op=op then gI s.args 0::Wr op r else Wr op r
def Ut:LI->Int->LI->LI->LI × LI
 | [],_,D,R=>(D,R)
 | f::r,q,D,R=>if f≠0/\q∈D then Ut r (q+1) (D.erase q) R else if f≠0 then Ut r (q+1) D (R++[q]) else Ut r (q+1) D R
def Jl (xs:List Z7) (x:Int) (fs:LI) (q:Int):LI × LI:=Ut fs q (Wr 14 (xs.take (XQ xs))) ((Wr 15 (xs.take (XQ xs))).erase x)
def K4 (xs:List Z7) (x:Int) (fs:LI) (q:Int):List Z7:=
 if x∈Wr 15 (xs.take (XQ xs))/\fs.length≠0 then (Jl xs x fs q).1.map (Zx 14)++[Zx 16 x]++(Jl xs x fs q).2.map (Zx 15)++xs.drop (XQ xs) else xs
def KA (b:Za) (x:Int) (fs:LI) (q:Int):Za:=.mk (K4 b.steps x fs q) b.result
theorem I0:∀xs:List Z7,XQ xs<=xs.length
 | []=>Xa _
 | s::r=>by have:=I0 r;rw [XQ];split<;>simp<;>omega
theorem Z0o:∀{xs:List Z7} {s:Z7},s∈xs.take (XQ xs)->s.op=14∨s.op=15
 | [],s,h=>by simp [XQ] at h
 | t::r,s,h=>by
  rw [XQ] at h
  split at h
  ·rename_i q
   rw [AI] at h
   rcases YI.1 h with rfl|h
   ·exact q
   ·exact Z0o h
  ·simp at h
theorem IJ:∀xs:List Z7,(Wr 14 xs).length+(Wr 15 xs).length<=xs.length
 | []=>by simp [Wr]
 | s::r=>by
  have:=IJ r
  rw [Wr,Wr]
  by_cases h:s.op=14
  ·rw [Zb h,Z5 om];simp;omega
  ·rw [Z5 h];split<;>simp<;>omega
theorem HI:∀(fs:LI) (q:Int) (D R:LI),(Ut fs q D R).1.length+(Ut fs q D R).2.length<=D.length+R.length+fs.length
 | [],q,D,R=>by simp [Ut]
 | f::r,q,D,R=>by
  rw [Ut,Yq]
  split
  ·have:=HI r (q+1) (D.erase q) R
   have h2:=List.length_erase_le (a:=q) (l:=D)
   omega
  ·split
   ·have:=HI r (q+1) D (R++[q])
    simp only [Yo,Yq,YY] at this
    omega
   ·have:=HI r (q+1) D R
    omega
theorem Ze5 {xs:List Z7} {x:Int} {fs:LI} {q:Int} (h:x∈Wr 15 (xs.take (XQ xs))) (hf:fs.length<=3):(Jl xs x fs q).1.length+(Jl xs x fs q).2.length<=XQ xs+2:=by
 have h1:=HI fs q (Wr 14 (xs.take (XQ xs))) ((Wr 15 (xs.take (XQ xs))).erase x)
 have h2:=IJ (xs.take (XQ xs))
 have h3:=List.length_pos_of_mem h
 rw [List.length_erase_of_mem h] at h1
 rw [W1] at h2
 have h4:=I0 xs
 unfold Jl
 omega
theorem Zi2 (xs:List Z7) (k:Nat):Yy xs=Yy (xs.take k)+Yy (xs.drop k):=by rw [<-Qb,TO]
theorem Z1x:∀xs:List Z7,(∀s∈xs,2<=s.sz)->2*xs.length<=Yy xs
 | [],_=>by simp
 | s::r,h=>by
  have h1:=Z1x r fun t ht=>h t (XD _ ht)
  have h2:=h s (Xo ..)
  rw [Yy,Yq];omega
theorem Z3p {xs:List Z7} {x:Int} {fs:LI} {q:Int} (hf:fs.length<=3) (h:∀s∈xs,s.op=14∨s.op=15->2<=s.sz):Yy (K4 xs x fs q)<=Yy xs+6:=by
 rw [K4]
 split
 ·rename_i hc
  have h1:=Ze5 (q:=q) hc.1 hf
  have h2:=Z1x (xs.take (XQ xs)) fun s hs=>h s (K0 hs) (Z0o hs)
  have h3:=Zi2 xs (XQ xs)
  have h4:=I0 xs
  rw [W1] at h2
  rw [Qb,Qb,Qb,N4,N4,Yy,Yy,Gv]
  omega
 ·omega
def Cn (s:Z7):Prop:=s=Zx s.op (gI s.args 0)
theorem Z3o {xs:List Z7} {m:Int} {fs:LI} {q:Int} (h:¬(m∈Wr 15 (xs.take (XQ xs))/\fs.length≠0)):K4 xs m fs q=xs:=Z5 h
end Go.Abs
section
namespace Go.Abs
mutual
def KU (ds:List Zf) (m:Nat):Z7->Z7
 | .mk op num into args kids=>.mk op num into args (UT ds m op num args kids 0)
def UT (ds:List Zf) (m:Nat) (op num:Int) (args:LI):List Za->Nat->List Za
 | [],_=>[]
 | b::r,k=>(if op=8 then KA (WW ds (m+(WA ds num k).length) b) (gI args 0) (WA ds num k) m else WW ds m b)::UT ds m op num args r (k+1)
def U4 (ds:List Zf) (m:Nat):List Z7->List Z7
 | []=>[]
 | s::r=>KU ds m s::U4 ds (if YP s.op=true then m else m+1) r
def WW (ds:List Zf) (m:Nat):Za->Za
 | .mk steps result=>.mk (U4 ds m steps) result
end
def I9 (ds:List Zf) (m:Nat) (op num:Int) (args:LI) (k:Nat) (b:Za):Za:=if op=8 then KA (WW ds (m+(WA ds num k).length) b) (gI args 0) (WA ds num k) m else WW ds m b
theorem FM (ds:List Zf) (m:Nat) (s:Z7):KU ds m s=.mk s.op s.num s.into s.args (UT ds m s.op s.num s.args s.kids 0):=by cases s;rw [KU];rfl
theorem I7 (ds:List Zf) (m:Nat) (b:Za):WW ds m b=.mk (U4 ds m b.steps) b.result:=by cases b;rw [WW];rfl
section
variable {ds:List Zf} {m:Nat}
theorem Zgk {xs acc r:List Z7} {k:Nat} {s:Z7} (h:xs[k]? = some s) (ha:acc++U4 ds m (xs.drop k)=r) :
  (acc++[.mk s.op s.num s.into s.args (UT ds m s.op s.num s.args s.kids 0)])++U4 ds (if YP s.op=true then m else m+1) (xs.drop (k+1))=r:=by
 rw [Yj h,U4,FM] at ha
 rw [<-ha];simp
theorem Zgj {xs acc r:List Z7} {k:Nat} (h:xs.length<=k) (ha:acc++U4 ds m (xs.drop k)=r):acc=r:=by
 rw [Xp h,U4,QZ] at ha;exact ha
theorem Z16 {op num:Int} {args:LI} {bs acc r:List Za} {k:Nat} {b:Za} (h:bs[k]? = some b) (ha:acc++UT ds m op num args (bs.drop k) k=r) :
  (acc++[I9 ds m op num args k b])++UT ds m op num args (bs.drop (k+1)) (k+1)=r:=by
 rw [Yj h,UT] at ha
 rw [<-ha,I9];simp
theorem Zgf {op num:Int} {args:LI} {bs acc r:List Za} {k j:Nat} (h:bs.length<=k) (ha:acc++UT ds m op num args (bs.drop k) j=r):acc=r:=by
 rw [Xp h,UT,QZ] at ha;exact ha
end
mutual
def wS (ds:List Zf):Z7->Prop
 | .mk op num into args kids=>(Xj op=!YP op)/\(YP op=true->num=0/\into=0/\kids=[]/\∃a,args=[a])/\(op=8->(∃a,args=[a]/\0<=a/\a<=900000000)/\kids.length=(ZX ds num).length)/\Jv ds kids
def Jv (ds:List Zf):List Za->Prop
 | []=>True
 | b::r=>wB ds b/\Jv ds r
def QY (ds:List Zf):List Z7->Prop
 | []=>True
 | s::r=>wS ds s/\QY ds r
def wB (ds:List Zf):Za->Prop
 | .mk steps _=>QY ds steps
end
section
variable {ds:List Zf}
theorem JZ (s:Z7):wS ds s↔(Xj s.op=!YP s.op)/\(YP s.op=true->s.num=0/\s.into=0/\s.kids=[]/\∃a,s.args=[a])/\(s.op=8->(∃a,s.args=[a]/\0<=a/\a<=900000000)/\s.kids.length=(ZX ds s.num).length)/\Jv ds s.kids:=by cases s;rw [wS];rfl
theorem Ju (b:Za):wB ds b↔QY ds b.steps:=by cases b;rw [wB];rfl
theorem Bt:∀{xs:List Z7},QY ds xs↔∀s∈xs,wS ds s
 | []=>by simp [QY]
 | s::r=>by rw [QY,Bt];simp
theorem Io:∀{xs:List Za},Jv ds xs↔∀s∈xs,wB ds s
 | []=>by simp [Jv]
 | s::r=>by rw [Jv,Io];simp
theorem Z2r {b:Za} {k:Nat} {s:Z7} (h:wB ds b) (hs:b.steps[k]? = some s):wS ds s:=Bt.1 ((Ju b).1 h) s (Y1 hs)
theorem Np {s:Z7} {k:Nat} {b:Za} (h:wS ds s) (hb:s.kids[k]? = some b):wB ds b:=Io.1 ((JZ s).1 h).2.2.2 b (Y1 hb)
theorem Ip {s:Z7} (h:wS ds s) (hc:YP s.op=true):Cn s/\s.kids=[]/\∃a,s.args=[a]:=by
 obtain ⟨h1,h2,h3,a,h4⟩:=((JZ s).1 h).2.1 hc
 refine ⟨?_,h3,a,h4⟩
 cases s with
 | mk op num into args kids=>
  simp only [Z7.num,Z7.into,Z7.kids,Z7.args] at h1 h2 h3 h4
  subst h1 h2 h3 h4
  rfl
theorem Zjj {op v:Int} (h:op=14∨op=15∨op=16):wS ds (Zx op v):=(JZ _).2 ⟨by show Xj op=!YP op;rcases h with rfl|rfl|rfl<;>rfl,fun _=>⟨rfl,rfl,rfl,v,rfl⟩,fun e=>absurd e (show op≠8 by omega),True.intro⟩
theorem Zjk {s:Z7} (h:wS ds s):Xj s.op=!YP s.op:=((JZ s).1 h).1
theorem G5 {s:Z7} (h:wS ds s) (h8:s.op=8):(∃a,s.args=[a]/\0<=a/\a<=900000000)/\s.kids.length=(ZX ds s.num).length:=((JZ s).1 h).2.2.1 h8
theorem Iu {xs:List Z7} (h:QY ds xs):∀s∈xs,YP s.op=true->Cn s:=fun s hs hc=>(Ip (Bt.1 h s hs) hc).1
end
section
variable {n:ZH}
end
mutual
def Z7.pz:Z7->Nat
 | .mk _ _ _ args kids=>1+args.length+Ef kids
def Za.pz:Za->Nat
 | .mk steps _=>1+Eg steps
def Eg:List Z7->Nat
 | []=>0
 | s::r=>s.pz+Eg r
def Ef:List Za->Nat
 | []=>0
 | b::r=>b.pz+8+Ef r
end
mutual
theorem Z7.pz_le:∀s:Z7,s.pz<=9*s.sz
 | .mk _ _ _ args kids=>by have:=Sp kids;rw [Z7.pz,Z7.sz];omega
theorem Za.pz_le:∀b:Za,b.pz+8<=9*b.sz
 | .mk steps _=>by have:=Sq steps;rw [Za.pz,Za.sz];omega
theorem Sq:∀xs:List Z7,Eg xs<=9*Yy xs
 | []=>QB _
 | s::r=>by have:=s.pz_le;have:=Sq r;rw [Eg,Yy];omega
theorem Sp:∀xs:List Za,Ef xs<=9*YU xs
 | []=>QB _
 | s::r=>by have:=s.pz_le;have:=Sp r;rw [Ef,YU];omega
end
section
variable {ds:List Zf}
theorem Z4t {op:Int} (h:op=14∨op=15):YP op=true:=by rw [YP];simp;omega
theorem Zgl {xs:List Z7}:∀{m:Nat},QY ds xs->∀s∈U4 ds m xs,s.op=14∨s.op=15->2<=s.sz:=by
 induction xs with
 | nil=>intro m _ s hs;simp [U4] at hs
 | cons t r ih=>
  intro m h s hs ho
  rw [U4] at hs
  rcases YI.1 hs with rfl|hs
  ·rw [FM] at ho ⊢
   obtain ⟨_,_,a,ha⟩:=Ip h.1 (Z4t ho)
   rw [Z7.sz,ha];simp
  ·exact ih h.2 s hs ho
variable (hd:Xt ds)
include hd
mutual
theorem Zgh:∀(s:Z7) {m:Nat},wS ds s->(KU ds m s).sz<=s.pz
 | .mk op num into args kids,m,h=>by
  have:=Z17 kids (m:=m) (op:=op) (num:=num) (args:=args) (k:=0) h.2.2.2
  rw [KU,Z7.sz,Z7.pz];omega
theorem Z17:∀(bs:List Za) {m:Nat} {op num:Int} {args:LI} {k:Nat},Jv ds bs->YU (UT ds m op num args bs k)<=Ef bs
 | [],_,_,_,_,_,_=>Xa _
 | b::r,m,op,num,args,k,h=>by
  have h2:=Z17 r (m:=m) (op:=op) (num:=num) (args:=args) (k:=k+1) h.2
  rw [UT,YU,Ef]
  split
  ·have h1:=I8 b (m:=m+(WA ds num k).length) h.1
   have h3:=Z3p (xs:=(WW ds (m+(WA ds num k).length) b).steps) (x:=gI args 0) (q:=(m:Int)) (GO hd num k) (by rw [I7];exact Zgl ((Ju b).1 h.1))
   rw [KA,Za.sz]
   rw [Za.sz_eq] at h1
   omega
  ·have h1:=I8 b (m:=m) h.1
   omega
theorem Z19:∀(xs:List Z7) {m:Nat},QY ds xs->Yy (U4 ds m xs)<=Eg xs
 | [],_,_=>Xa _
 | s::r,m,h=>by
  have h1:=Zgh s (m:=m) h.1
  have h2:=Z19 r (m:=if YP s.op=true then m else m+1) h.2
  rw [U4,Yy,Eg];omega
theorem I8:∀(b:Za) {m:Nat},wB ds b->(WW ds m b).sz<=b.pz
 | .mk steps result,m,h=>by
  have:=Z19 steps (m:=m) h
  rw [WW,Za.sz,Za.pz];omega
end
end
section
variable {ds:List Zf} {m:Nat}
end
def Ce (ds:List Zf) (r:YD):YD:=⟨r.params,r.lent,r.result,WW ds r.params.length r.body⟩
def Dj (n:ZH):ZH:=⟨n.decls,n.routines.map (Ce n.decls)⟩
end Go.Abs
namespace Go.Abs
theorem Zfv {xs:List Z7} {k:Nat} {s:Z7} {r:Nat} (h:xs[k]? = some s) (hs:s.op=14∨s.op=15) (ha:k+XQ (xs.drop k)=r):k+1+XQ (xs.drop (k+1))=r:=by
 rw [Yj h,XQ,Zb hs] at ha;omega
theorem Zfw {xs:List Z7} {k:Nat} {s:Z7} {r:Nat} (h:xs[k]? = some s) (hs:¬(s.op=14∨s.op=15)) (ha:k+XQ (xs.drop k)=r):k=r:=by
 rw [Yj h,XQ,Z5 hs] at ha;omega
theorem Zfu {xs:List Z7} {k:Nat} {r:Nat} (h:xs.length<=k) (ha:k+XQ (xs.drop k)=r):k=r:=by
 rw [Xp h,XQ] at ha;omega
theorem Z3z {op:Int} {xs:List Z7} {acc r:LI} {k:Nat} {s:Z7} (h:xs[k]? = some s) (hs:s.op=op) (ha:acc++Wr op (xs.drop k)=r):(acc++[gI s.args 0])++Wr op (xs.drop (k+1))=r:=by
 rw [Yj h,Wr,Zb hs] at ha;rw [<-ha];simp
theorem Z3y {op:Int} {xs:List Z7} {acc r:LI} {k:Nat} {s:Z7} (h:xs[k]? = some s) (hs:¬s.op=op) (ha:acc++Wr op (xs.drop k)=r):acc++Wr op (xs.drop (k+1))=r:=by
 rw [Yj h,Wr,Z5 hs] at ha;exact ha
theorem Z3x {op:Int} {xs:List Z7} {acc r:LI} {k:Nat} (h:xs.length<=k) (ha:acc++Wr op (xs.drop k)=r):acc=r:=by
 rw [Xp h,Wr,QZ] at ha;exact ha
theorem Z6q {xs acc r:LI} {y:Int} {k:Nat} {x:Int} {d:Bool} (h:xs[k]? = some x) (ha:acc++(if d=true then xs.drop k else (xs.drop k).erase y)=r) :
  (if x=y/\¬d=true then acc else acc++[x])++(if ((x==y&&!d)||d)=true then xs.drop (k+1) else (xs.drop (k+1)).erase y)=r:=by
 rw [Yj h] at ha
 rw [<-ha]
 by_cases hd:d=true
 ·simp [hd]
 ·by_cases hx:x=y
  ·simp [hd,hx]
  ·rw [Z5 (fun z=>hx z.1),Z5 hd,List.erase_cons_tail (by simpa using hx)]
   simp [hd,hx]
theorem Z6p {xs acc r:LI} {y:Int} {k:Nat} {d:Bool} (h:xs.length<=k) (ha:acc++(if d=true then xs.drop k else (xs.drop k).erase y)=r):acc=r:=by
 rw [Xp h] at ha;simpa using ha
section
variable {fs D R:LI} {q k:Nat} {f:Int} {r:LI × LI}
theorem Ze7 (h:fs[k]? = some f) (h0:f≠0) (hm:((q+k:Nat):Int)∈D) (ha:Ut (fs.drop k) (q+k) D R=r):Ut (fs.drop (k+1)) (q+((k+1:Nat):Int)) (D.erase ((q+k:Nat):Int)) R=r:=by
 rw [Yj h,Ut,Zb ⟨h0,by rw [<-Int.natCast_add];exact hm⟩,<-Int.natCast_add] at ha
 rw [<-ha];congr 1
theorem Ze8 (h:fs[k]? = some f) (h0:f≠0) (hm:¬((q+k:Nat):Int)∈D) (ha:Ut (fs.drop k) (q+k) D R=r):Ut (fs.drop (k+1)) (q+((k+1:Nat):Int)) D (R++[((q+k:Nat):Int)])=r:=by
 rw [Yj h,Ut,Z5 (fun z=>hm (by rw [Int.natCast_add];exact z.2)),Zb h0,<-Int.natCast_add] at ha
 rw [<-ha];congr 1
theorem Ze9 (h:fs[k]? = some f) (h0:¬f≠0) (ha:Ut (fs.drop k) (q+k) D R=r):Ut (fs.drop (k+1)) (q+((k+1:Nat):Int)) D R=r:=by
 rw [Yj h,Ut,Z5 (fun z=>h0 z.1),Z5 h0] at ha
 rw [<-ha];congr 1
theorem Ze6 (h:fs.length<=k) (ha:Ut (fs.drop k) (q+k) D R=r):r=(D,R):=by
 rw [Xp h,Ut] at ha;exact ha.symm
end
theorem Z3q {xs:List Z7} {x:Int} {fs:LI} {q:Int} {D R:LI} (h1:x∈Wr 15 (xs.take (XQ xs))) (h2:fs.length≠0) (hr:Jl xs x fs q=(D,R)):D.map (Zx 14)++[Zx 16 x]++R.map (Zx 15)++xs.drop (XQ xs)=K4 xs x fs q:=by
 rw [K4,Zb ⟨h1,h2⟩,hr]
theorem Zgi {ds:List Zf} {xs:List Z7}:∀{m:Nat},QY ds xs->∀s∈U4 ds m xs,YP s.op=true->∃a,s.args=[a]:=by
 induction xs with
 | nil=>intro m _ s hs;simp [U4] at hs
 | cons t r ih=>
  intro m h s hs ho
  rw [U4] at hs
  rcases YI.1 hs with rfl|hs
  ·rw [FM] at ho ⊢
   exact (Ip h.1 ho).2.2
  ·exact ih h.2 s hs ho
end Go.Abs
end
namespace Go.Abs
mutual
def Z2.sz:Z2->Nat
 | .mk _ _ kids=>1+XG kids
def XG:List Z2->Nat
 | []=>0
 | e::r=>e.sz+XG r
end
theorem Z2.sz_eq (e:Z2):e.sz=1+XG e.kids:=by cases e;rw [Z2.sz];rfl
theorem ES:∀xs ys:List Z2,XG (xs++ys)=XG xs+XG ys
 | [],ys=>by simp [XG]
 | x::r,ys=>by rw [KZ,XG,XG,ES r];omega
theorem CQ:∀{xs:List Z2} {k:Nat} {e:Z2},xs[k]? = some e->e.sz<=XG xs
 | [],k,e,h=>by simp at h
 | x::r,0,e,h=>by simp at h;subst h;rw [XG];omega
 | x::r,k+1,e,h=>by have:=CQ (xs:=r) (k:=k) (by simpa using h);rw [XG];omega
theorem OB:∀{xs:List Z2},xs.length<=XG xs
 | []=>QB _
 | x::r=>by have:=OB (xs:=r);have:=x.sz_eq;rw [XG,Yq];omega
def AW:Zf:=⟨0,0,[⟨[]⟩,⟨[0,1]⟩]⟩
def AX:Zf:=⟨0,0,[⟨[]⟩,⟨[3,0,3]⟩]⟩
def Od:List Zf:=[⟨0,0,[⟨[1,3]⟩]⟩,⟨1,0,[]⟩,⟨0,0,[⟨[1,1,0]⟩,⟨[0]⟩,⟨[3]⟩]⟩,⟨0,1,[]⟩]
def B8:List (List Zf):=[[AW,⟨0,0,[]⟩,AX],[AW,⟨0,0,[]⟩,AX,⟨0,0,[⟨[1,3]⟩]⟩],[AW,⟨0,0,[]⟩,AX,⟨1,0,[]⟩],[AW,⟨0,0,[]⟩,AX,⟨0,0,[⟨[1,1,0]⟩,⟨[0]⟩,⟨[3]⟩]⟩],[AW,⟨0,0,[]⟩,AX,⟨0,1,[]⟩]]
def GD (ds:List Zf):Prop:=ds∈B8
theorem GD.ok {ds:List Zf} (h:GD ds):Xt ds:=by
 have k:=(by decide:∀ds∈B8,ds.length<=4/\(∀d∈ds,d.cons.length<=3)/\∀d∈ds,∀c∈d.cons,c.fields.length<=3) ds h
 exact ⟨k.1,k.2.1,k.2.2⟩
theorem GD.len {ds:List Zf} (h:GD ds):3<=ds.length/\ds.length<=4:=by
 exact (by decide:∀ds∈B8,3<=ds.length/\ds.length<=4) ds h
def Jk (t:Int):Prop:=t=0∨t=1∨t=3
instance (t:Int):Decidable (Jk t):=inferInstanceAs (Decidable (_∨_∨_))
theorem GD.low {ds:List Zf} (h:GD ds):ZX ds 0=[]/\ZX ds 1=[0,1]/\ZX ds 2=[]/\ZX ds 3=[2,3]/\ZP ds 0=[]/\ZP ds 1=[0,1]/\ZP ds 2=[]/\ZP ds 3=[3,0,3]:=
 (by decide:∀ds∈B8,ZX ds 0=[]/\ZX ds 1=[0,1]/\ZX ds 2=[]/\ZX ds 3=[2,3]/\ZP ds 0=[]/\ZP ds 1=[0,1]/\ZP ds 2=[]/\ZP ds 3=[3,0,3]) ds h
theorem GD.fields {ds:List Zf} (h:GD ds):∀c∈ZX ds 1++(ZX ds 3++ZX ds 4),∀t∈ZP ds c,Jk t:=
 (by decide:∀ds∈B8,∀c∈ZX ds 1++(ZX ds 3++ZX ds 4),∀t∈ZP ds c,Jk t) ds h
theorem GD.cons_cases {ds:List Zf} (h:GD ds) {t:Int} {c:Int} (hc:c∈ZX ds t):(0<=c/\c<=9)/\(t=1∨t=3∨t=4)/\(ZP ds c).length<=3/\∀u∈ZP ds c,Jk u:=by
 have ht:1<=t/\t<=ds.length:=by
  by_cases q:1<=t/\t<=ds.length
  ·exact q
  ·rw [ZX,Z5 q] at hc;cases hc
 have hl:=h.len
 have hlow:=h.low
 have key:∀c∈ZX ds 1++(ZX ds 3++ZX ds 4),0<=c/\c<=9:=
  (by decide:∀ds∈B8,∀c∈ZX ds 1++(ZX ds 3++ZX ds 4),0<=c/\c<=9) ds h
 have h4:t=1∨t=2∨t=3∨t=4:=by omega
 have hf:=h.fields
 have hd:=Vr h.ok c
 rcases h4 with rfl|rfl|rfl|rfl
 ·exact ⟨key c (Xg.2 (.inl hc)),.inl rfl,hd,hf c (Xg.2 (.inl hc))⟩
 ·rw [hlow.2.2.1] at hc;cases hc
 ·exact ⟨key c (Xg.2 (.inr (Xg.2 (.inl hc)))),.inr (.inl rfl),hd,hf c (Xg.2 (.inr (Xg.2 (.inl hc))))⟩
 ·exact ⟨key c (Xg.2 (.inr (Xg.2 (.inr hc)))),.inr (.inr rfl),hd,hf c (Xg.2 (.inr (Xg.2 (.inr hc))))⟩
def A9:List (LI × Int):=[([],0),([1],0),([1,1],1),([1],1),([1,0],1),([2,1],1),([1,1],0),([3],0),([0],1),([0,1],1),([3,0],3),([3],1),([1,3,0],0),([0],0),([0,0],0),([1,0],0)]
def Ty (f:Func):Prop:=(f.params,f.result)∈A9
theorem Ty.bd {f:Func} (h:Ty f):f.params.length<=3/\(∀t∈f.params,0<=t/\t<=3)/\Jk f.result:=by
 have key:∀q∈A9,q.1.length<=3/\(∀t∈q.1,0<=t/\t<=3)/\Jk q.2:=by decide
 exact key _ h
theorem Ty.clo {ds:List Zf} {f:Func} (hd:GD ds) (h:Ty f) (hp:0<Ab ds (gI f.params ((f.params.length:Int)-1)) f.result):∀t∈f.params.dropLast,Jk t:=by
 have key:∀q∈A9,0<Ab ds (gI q.1 ((q.1.length:Int)-1)) q.2->∀t∈q.1.dropLast,Jk t:=
  (by decide +kernel:∀ds∈B8,∀q∈A9,0<Ab ds (gI q.1 ((q.1.length:Int)-1)) q.2->∀t∈q.1.dropLast,Jk t) ds hd
 exact key _ h hp
structure GP (p:Wb):Prop where
 decls:GD p.decls
 len:1<=p.funcs.length/\p.funcs.length<=4
 sigs:∀f∈p.funcs,Ty f
def Q9 (ds:List Zf) (op num:Int) (m:Nat) (k:Nat):Nat:=
 if op=13 then m+k else if op=8 then (if k=0 then m else m+(ZP ds (gI (ZX ds num) ((k:Int)-1))).length) else m
mutual
def eW (ds:List Zf) (nf:Nat):Nat->Z2->Prop
 | m,.mk op num kids=>(0<=op/\op<=13)/\(op=12->kids=[]/\0<=num/\num<m)/\(op=13->kids.length=2)/\(op=7->kids.length=3)/\(op=8->kids.length=1+(ZX ds num).length)/\(op=9->0<=num/\num<nf)/\(-2000<=num/\num<=2000)/\kids.length<=4 /\
  Ka ds nf (Q9 ds op num m) 0 kids
def Ka (ds:List Zf) (nf:Nat) (sc:Nat->Nat):Nat->List Z2->Prop
 | _,[]=>True
 | k,e::r=>eW ds nf (sc k) e/\Ka ds nf sc (k+1) r
end
theorem Z6j {ds:List Zf} {nf m:Nat} (e:Z2):eW ds nf m e↔(0<=e.op/\e.op<=13)/\(e.op=12->e.kids=[]/\0<=e.num/\e.num<m)/\(e.op=13->e.kids.length=2)/\(e.op=7->e.kids.length=3)/\(e.op=8->e.kids.length=1+(ZX ds e.num).length)/\(e.op=9->0<=e.num/\e.num<nf)/\(-2000<=e.num/\e.num<=2000)/\e.kids.length<=4 /\
  Ka ds nf (Q9 ds e.op e.num m) 0 e.kids:=by cases e;rw [eW];rfl
theorem DM {ds:List Zf} {nf:Nat} {sc:Nat->Nat}:∀{xs:List Z2} {j k:Nat} {e:Z2},Ka ds nf sc j xs->xs[k]? = some e->eW ds nf (sc (j+k)) e
 | [],j,k,e,_,h=>by simp at h
 | x::r,j,0,e,hw,h=>by simp at h;subst h;exact hw.1
 | x::r,j,k+1,e,hw,h=>by
  have:=DM (xs:=r) (j:=j+1) (k:=k) hw.2 (by simpa using h)
  rw [show j+(k+1)=j+1+k by omega];exact this
theorem Ox {ds:List Zf} {nf:Nat} {sc:Nat->Nat}:∀{xs ys:List Z2} {j:Nat},Ka ds nf sc j (xs++ys)↔Ka ds nf sc j xs/\Ka ds nf sc (j+xs.length) ys
 | [],ys,j=>by simp [Ka]
 | x::r,ys,j=>by
  rw [KZ,Ka,Ka,Ox (xs:=r),and_assoc,Yq,show j+1+r.length=j+(r.length+1) by omega]
theorem Ln {ds:List Zf} {nf m:Nat} {sc:Nat->Nat} (hs:∀k,sc k=m):∀{xs:List Z2} {j:Nat},(∀e∈xs,eW ds nf m e)->Ka ds nf sc j xs
 | [],_,_=>True.intro
 | x::r,j,h=>⟨by rw [hs];exact h x (Xo ..),Ln hs fun e he=>h e (XD _ he)⟩
theorem CP {ds:List Zf} {nf m:Nat} {op num:Int} {kids:List Z2} (ho:0<=op/\op<=11/\op≠7/\op≠8) (hc:op=9->0<=num/\num<nf) (hn:-2000<=num/\num<=2000) (hl:kids.length<=4) (hk:∀e∈kids,eW ds nf m e):eW ds nf m (.mk op num kids):=by
 rw [eW]
 refine ⟨by omega,fun h=>by omega,fun h=>by omega,fun h=>by omega,fun h=>by omega,hc,hn,hl,Ln (m:=m) (fun k=>?_) hk⟩
 rw [Q9,Z5 om,Z5 om]
theorem Z6k {ds:List Zf} {nf m:Nat} {z:Int} (hz:-2000<=z/\z<=2000):eW ds nf m (.mk 0 z []):=CP om (fun h=>by omega) hz (by simp) (fun e he=>by cases he)
theorem Z6l {ds:List Zf} {nf m:Nat} {z:Int} (hz:0<=z/\z<m) (hm:m<=2000):eW ds nf m (.mk 12 z []):=by
 rw [eW]
 exact ⟨by omega,fun _=>⟨rfl,hz⟩,fun h=>by omega,fun h=>by omega,fun h=>by omega,fun h=>by omega,by omega,by simp,True.intro⟩
theorem Ov {ds:List Zf} {nf m:Nat} {num:Int} {kids:List Z2} (hn:-2000<=num/\num<=2000) (hl:kids.length=3) (hk:∀e∈kids,eW ds nf m e):eW ds nf m (.mk 7 num kids):=by
 rw [eW]
 refine ⟨by omega,fun h=>by omega,fun h=>by omega,fun _=>hl,fun h=>by omega,fun h=>by omega,hn,by omega,Ln (m:=m) (fun k=>?_) hk⟩
 rw [Q9,Z5 om,Z5 om]
theorem Ow {ds:List Zf} {nf m:Nat} {num:Int} {a b:Z2} (hn:-2000<=num/\num<=2000) (ha:eW ds nf m a) (hb:eW ds nf (m+1) b):eW ds nf m (.mk 13 num [a,b]):=by
 rw [eW]
 exact ⟨by omega,fun h=>by omega,fun _=>rfl,fun h=>by omega,fun h=>by omega,fun h=>by omega,hn,by simp,ha,hb,True.intro⟩
theorem Lm {ds:List Zf} {nf m:Nat} {num:Int} {a:Z2} {arms:List Z2} (hn:-2000<=num/\num<=2000) (h3:arms.length<=3) (hl:arms.length=(ZX ds num).length) (ha:eW ds nf m a) (hk:Ka ds nf (Q9 ds 8 num m) 1 arms):eW ds nf m (.mk 8 num (a::arms)):=by
 rw [eW]
 refine ⟨by omega,fun h=>by omega,fun h=>by omega,fun h=>by omega,fun _=>by rw [Yq];omega,fun h=>by omega,hn,by rw [Yq];omega,?_,hk⟩
 rw [Q9,Z5 om,Zb rfl,Zb rfl]
 exact ha
def bS (b:Nat):Nat:=max 4 (10*b-10)
def bC (b:Nat):Nat:=max 40 (100*b-100)
def Yu:List Z7->Nat
 | []=>0
 | s::r=>(if YP s.op=true then 0 else 1)+Yu r
theorem Th:∀xs ys:List Z7,Yu (xs++ys)=Yu xs+Yu ys
 | [],ys=>by simp [Yu]
 | x::r,ys=>by rw [KZ,Yu,Yu,Th r];omega
theorem AY:∀xs:List Z7,Yu xs<=xs.length
 | []=>Xa _
 | x::r=>by have:=AY r;rw [Yu,Yq];split<;>omega
def V0 (ds:List Zf) (op num:Int) (m:Nat) (k:Nat):Nat:=if op=8 then m+(ZP ds (gI (ZX ds num) k)).length else m
mutual
def fS (ds:List Zf) (nf:Nat):Nat->Z7->Prop
 | m,.mk op num into args kids=>((0<=op/\op<=11)∨(14<=op/\op<=17))/\(∀a∈args,0<=a/\a<m)/\(14<=op->num=0/\into=0/\kids=[]/\∃a,args=[a])/\(op=7->kids.length=2)/\(op=8->kids.length=(ZX ds num).length)/\(op=7∨op=8->∃a,args=[a]) /\
  (op=9->0<=num/\num<nf)/\(-2000<=num/\num<=2000)/\(0<=into/\into<=m)/\args.length<=4/\(op≠7/\op≠8->kids=[])/\Uc ds nf (V0 ds op num m) 0 kids
def Uc (ds:List Zf) (nf:Nat) (sc:Nat->Nat):Nat->List Za->Prop
 | _,[]=>True
 | k,b::r=>fB ds nf (sc k) b/\Uc ds nf sc (k+1) r
def We (ds:List Zf) (nf:Nat):Nat->List Z7->Prop
 | _,[]=>True
 | m,s::r=>fS ds nf m s/\We ds nf (if YP s.op=true then m else m+1) r
def fB (ds:List Zf) (nf:Nat):Nat->Za->Prop
 | m,.mk steps result=>We ds nf m steps/\0<=result/\result<(m+Yu steps:Nat)
end
section
variable {ds:List Zf} {nf:Nat}
structure FS (ds:List Zf) (nf m:Nat) (s:Z7):Prop where
 op:(0<=s.op/\s.op<=11)∨(14<=s.op/\s.op<=17)
 args:∀a∈s.args,0<=a/\a<m
 cnt:14<=s.op->s.num=0/\s.into=0/\s.kids=[]/\∃a,s.args=[a]
 k7:s.op=7->s.kids.length=2
 k8:s.op=8->s.kids.length=(ZX ds s.num).length
 one:s.op=7∨s.op=8->∃a,s.args=[a]
 call:s.op=9->0<=s.num/\s.num<nf
 num:-2000<=s.num/\s.num<=2000
 into:0<=s.into/\s.into<=m
 alen:s.args.length<=4
 kn:s.op≠7/\s.op≠8->s.kids=[]
 kids:Uc ds nf (V0 ds s.op s.num m) 0 s.kids
theorem B5 {m:Nat} (s:Z7):fS ds nf m s↔FS ds nf m s:=by
 cases s
 rw [fS]
 exact ⟨fun ⟨h1,h2,h3,h4,h5,h6,h7,h8,h9,h10,h11,h12⟩=>⟨h1,h2,h3,h4,h5,h6,h7,h8,h9,h10,h11,h12⟩,fun h=>⟨h.op,h.args,h.cnt,h.k7,h.k8,h.one,h.call,h.num,h.into,h.alen,h.kn,h.kids⟩⟩
theorem Ja {m:Nat} (b:Za):fB ds nf m b↔We ds nf m b.steps/\0<=b.result/\b.result<(m+Yu b.steps:Nat):=by cases b;rw [fB];rfl
theorem BO {sc:Nat->Nat}:∀{xs:List Za} {j k:Nat} {b:Za},Uc ds nf sc j xs->xs[k]? = some b->fB ds nf (sc (j+k)) b
 | [],j,k,b,_,h=>by simp at h
 | x::r,j,0,b,hw,h=>by simp at h;subst h;exact hw.1
 | x::r,j,k+1,b,hw,h=>by
  have:=BO (xs:=r) (j:=j+1) (k:=k) hw.2 (by simpa using h)
  rw [show j+(k+1)=j+1+k by omega];exact this
theorem OD {sc:Nat->Nat}:∀{xs ys:List Za} {j:Nat},Uc ds nf sc j (xs++ys)↔Uc ds nf sc j xs/\Uc ds nf sc (j+xs.length) ys
 | [],ys,j=>by simp [Uc]
 | x::r,ys,j=>by
  rw [KZ,Uc,Uc,OD (xs:=r),and_assoc,Yq,show j+1+r.length=j+(r.length+1) by omega]
theorem OF {sc:Nat->Nat} {xs:List Za} {b:Za} (h:Uc ds nf sc 0 xs) (hb:fB ds nf (sc xs.length) b):Uc ds nf sc 0 (xs++[b]):=
 OD.2 ⟨h,by rw [Wh];exact hb,True.intro⟩
theorem Aq:∀{xs ys:List Z7} {m:Nat},We ds nf m (xs++ys)↔We ds nf m xs/\We ds nf (m+Yu xs) ys
 | [],ys,m=>by simp [We,Yu]
 | x::r,ys,m=>by
  rw [KZ,We,We,Aq (xs:=r),and_assoc,Yu]
  by_cases h:YP x.op=true
  ·rw [Zb h,Zb h,Wh]
  ·rw [Z5 h,Z5 h,A5]
theorem GN {xs:List Z7} {s:Z7} {m:Nat} (h:We ds nf m xs) (hs:fS ds nf (m+Yu xs) s):We ds nf m (xs++[s]):=Aq.2 ⟨h,hs,True.intro⟩
theorem DO:∀{xs:List Z7} {k m:Nat} {s:Z7},We ds nf m xs->xs[k]? = some s->fS ds nf (m+Yu (xs.take k)) s
 | [],k,m,s,_,h=>by simp at h
 | x::r,0,m,s,hw,h=>by simp at h;subst h;exact hw.1
 | x::r,k+1,m,s,hw,h=>by
  have:=DO (xs:=r) (k:=k) hw.2 (by simpa using h)
  rw [AI,Yu]
  by_cases hc:YP x.op=true
  ·rw [Zb hc] at this ⊢;rw [Wh];exact this
  ·rw [Z5 hc] at this ⊢;rw [<-A5];exact this
theorem Lr {op v:Int} {m:Nat} (ho:14<=op/\op<=17) (hv:0<=v/\v<m):fS ds nf m (Zx op v):=by
 rw [Zx,fS]
 exact ⟨.inr ho,fun a ha=>by rw [Xx.1 ha];exact hv,fun _=>⟨rfl,rfl,rfl,v,rfl⟩,fun h=>by omega,fun h=>by omega,fun h=>by omega,fun h=>by omega,by omega,by omega,by simp,fun _=>rfl,True.intro⟩
theorem GM {op:Int} {m:Nat} (ho:14<=op/\op<=17):∀{vs:LI},(∀v∈vs,0<=v/\v<(m:Int))->We ds nf m (vs.map (Zx op))/\Yu (vs.map (Zx op))=0
 | [],_=>⟨True.intro,rfl⟩
 | v::r,h=>by
  obtain ⟨h1,h2⟩:=GM ho (vs:=r) fun x hx=>h x (XD _ hx)
  have hc:YP op=true:=by simp [YP];omega
  have hc':YP (Zx op v).op=true:=hc
  rw [Tw,We,Yu,Zb hc',Zb hc',Wh]
  exact ⟨⟨Lr ho (h v (Xo ..)),h1⟩,h2⟩
mutual
theorem Zjm:∀(s:Z7) {m:Nat},fS ds nf m s->m+4*s.sz<=900000000->Xt ds->wS ds s
 | .mk op num into args kids,m,h,hb,hd=>by
  rw [fS] at h
  obtain ⟨h1,h2,h3,h4,h5,h6,h7,h8,h9,h10,h11,h12⟩:=h
  rw [Z7.sz] at hb
  rw [wS]
  refine ⟨?_,fun hc=>h3 (show 14<=op/\op<=17 by simpa [YP] using hc).1,fun h8'=>⟨?_,h5 h8'⟩,Z2s kids h12 (fun k=>?_) hd⟩
  ·rcases h1 with h1|h1
   ·have e1:YP op=false:=by simp [YP];omega
    have e2:Xj op=true:=by simp [Xj];omega
    rw [e1,e2];rfl
   ·have e1:YP op=true:=by simp [YP];omega
    have e2:Xj op=false:=by simp [Xj];omega
    rw [e1,e2];rfl
  ·obtain ⟨a,ha⟩:=h6 (.inr h8')
   have:=h2 a (by rw [ha];exact Xx.2 rfl)
   exact ⟨a,ha,by omega⟩
  ·have hf:=Vr hd (gI (ZX ds num) k)
   show V0 ds op num m k+4*YU kids<=900000003
   rw [V0];split<;>omega
theorem Z2s:∀(bs:List Za) {sc:Nat->Nat} {k:Nat},Uc ds nf sc k bs->(∀k,sc k+4*YU bs<=900000003)->Xt ds->Jv ds bs
 | [],_,_,_,_,_=>True.intro
 | b::r,sc,k,h,hb,hd=>by
  have hp:=b.sz_eq
  exact ⟨Nn b h.1 (by have:=hb k;rw [YU] at this;omega) hd,Z2s r h.2 (fun j=>by have:=hb j;rw [YU] at this;omega) hd⟩
theorem Z2t:∀(xs:List Z7) {m:Nat},We ds nf m xs->m+4*Yy xs<=900000000->Xt ds->QY ds xs
 | [],_,_,_,_=>True.intro
 | s::r,m,h,hb,hd=>by
  rw [Yy] at hb
  have hp:=s.sz_pos
  refine ⟨Zjm s h.1 om hd,Z2t r h.2 ?_ hd⟩
  split<;>omega
theorem Nn:∀(b:Za) {m:Nat},fB ds nf m b->m+4*b.sz<=900000004->Xt ds->wB ds b
 | .mk steps result,m,h,hb,hd=>by
  rw [Za.sz] at hb
  rw [fB] at h
  rw [wB]
  exact Z2t steps h.1 om hd
end
mutual
theorem Zf8:∀(s:Z7) {m:Nat},fS ds nf m s->s.rng
 | .mk op num into args kids,m,h=>by
  rw [fS] at h
  obtain ⟨h1,h2,h3,h4,h5,h6,h7,h8,h9,h10,h11,h12⟩:=h
  rw [Z7.rng]
  exact ⟨by omega,Z03 kids h12⟩
theorem Z03:∀(bs:List Za) {sc:Nat->Nat} {k:Nat},Uc ds nf sc k bs->Af bs
 | [],_,_,_=>True.intro
 | b::r,sc,k,h=>⟨MK b h.1,Z03 r h.2⟩
theorem Z04:∀(xs:List Z7) {m:Nat},We ds nf m xs->AE xs
 | [],_,_=>True.intro
 | s::r,m,h=>⟨Zf8 s h.1,Z04 r h.2⟩
theorem MK:∀(b:Za) {m:Nat},fB ds nf m b->b.rng
 | .mk steps result,m,h=>by rw [fB] at h;rw [Za.rng];exact Z04 steps h.1
end
end
structure FN (n:ZH) (q:Nat):Prop where
 decls:GD n.decls
 len:1<=n.routines.length/\n.routines.length<=4
 sigs:∀r∈n.routines,(r.params,r.result)∈A9
 lent:∀r∈n.routines,r.lent.length<=3/\∀i∈r.lent,0<=i/\i<r.params.length
 body:∀r∈n.routines,fB n.decls n.routines.length r.params.length r.body/\r.body.sz<=q
theorem FN.ok {n:ZH} {q:Nat} (h:FN n q):Xz n:=
 ⟨h.decls.ok,h.len.2,fun r hr=>(Ty.bd (f:=⟨r.params,r.result,default⟩) (h.sigs r hr)).1,fun r hr=>by have:=(h.lent r hr).1;omega⟩
def Pk (n k:Int):Prop:=0<=k/\(0<n->k<n)/\(n<=0->k=0)
theorem Pk.lt {n k:Int} (h:Pk n k) (hn:0<n):0<=k/\k<n:=⟨h.1,h.2.1 hn⟩
theorem Pk.zero {n:Int}:Pk n 0:=⟨Int.le_refl _,fun h=>h,fun _=>rfl⟩
theorem Pk.rem {n a:Int} (ha:0<=a) (hn:0<n):Pk n (a % n):=⟨Int.emod_nonneg _ om,fun _=>Int.emod_lt_of_pos _ hn,fun _=>by omega⟩
def AD (ds:List Zf):Prop:=ds.length<=8/\∀d∈ds,d.cons.length<=4/\∀c∈d.cons,c.fields.length<=4
theorem GD.ad {ds:List Zf} (h:GD ds):AD ds:=(by decide:∀ds∈B8,ds.length<=8/\∀d∈ds,d.cons.length<=4/\∀c∈d.cons,c.fields.length<=4) ds h
theorem AD.set {ds:List Zf} (h:AD ds) (k:Nat) {d:Zf} (hd:d.cons.length<=4/\∀c∈d.cons,c.fields.length<=4):AD (ds.set k d):=
 ⟨by rw [V4];exact h.1,fun x hx=>(List.mem_or_eq_of_mem_set hx).elim (h.2 x) fun e=>by rw [e];exact hd⟩
theorem AD.app {ds es:List Zf} (h:AD ds) (hl:ds.length+es.length<=8) (hd:∀d∈es,d.cons.length<=4/\∀c∈d.cons,c.fields.length<=4):AD (ds++es):=
 ⟨by rw [Yo];exact hl,fun x hx=>(Xg.1 hx).elim (h.2 x) (hd x)⟩
theorem GD.three:GD [AW,⟨0,0,[]⟩,AX]:=List.Mem.head _
theorem GD.four:∀{k:Nat} {x:Zf},Od[k]? = some x->GD ([AW,⟨0,0,[]⟩,AX]++[x])
 | 0,x,h=>by cases h;exact .tail _ (.head _)
 | 1,x,h=>by cases h;exact .tail _ (.tail _ (.head _))
 | 2,x,h=>by cases h;exact .tail _ (.tail _ (.tail _ (.head _)))
 | 3,x,h=>by cases h;exact .tail _ (.tail _ (.tail _ (.tail _ (.head _))))
 | k+4,x,h=>by simp [Od] at h
theorem C5 {l:LI} {z a b:Int} (h:z∈l) (hl:l.all (fun x=>decide (a<=x/\x<=b))=true):a<=z/\z<=b:=by
 have:=AG.1 hl z h
 exact of_decide_eq_true this
def rk (t:Int):Nat:=if Jk t then 0 else 1
theorem MJ (t:Int):rk t<=1:=by rw [rk];split<;>omega
theorem Z02 {t:Int} (h:Jk t):rk t=0:=Zb h
def SE (g:Wb) (q:Nat) (e:Z2):Prop:=(∀m,eW g.decls g.funcs.length m e)/\e.sz<=q
def GE (g:Wb) (m q:Nat) (e:Z2):Prop:=eW g.decls g.funcs.length m e/\e.sz<=q
theorem SE.ge {g:Wb} {q q' m:Nat} {e:Z2} (h:SE g q e) (hq:q<=q'):GE g m q' e:=⟨h.1 m,Vn h.2 hq⟩
theorem GE.le {g:Wb} {m q q':Nat} {e:Z2} (h:GE g m q e) (hq:q<=q'):GE g m q' e:=⟨h.1,Vn h.2 hq⟩
theorem GK {m:Nat}:∀{xs:List Z2},(∀e∈xs,e.sz<=m)->XG xs<=xs.length*m
 | [],_=>QB _
 | x::r,h=>by
  have h1:=h x (Xo ..)
  have h2:=GK (xs:=r) fun e he=>h e (XD _ he)
  rw [XG,Yq,TV];omega
theorem XI {α:Type} {p:α->Prop} {xs:List α} {a:α} (h:∀x∈xs,p x) (ha:p a):∀x∈xs++[a],p x:=fun x hx=>(Xg.1 hx).elim (h x) fun q=>by rw [Xx.1 q];exact ha
theorem SE.int {g:Wb} {z:Int} {q:Nat} (hz:-2000<=z/\z<=2000) (hq:1<=q):SE g q (.mk 0 z []):=⟨fun _=>Z6k hz,by simpa [Z2.sz,XG] using hq⟩
theorem SE.node {g:Wb} {op num:Int} {ys:List Z2} {q k:Nat} (ho:op=6∨op=10) (hn:0<=num/\num<=2000) (hy:∀e∈ys,SE g 1 e) (hl:ys.length<=k) (hk:k<=3) (hq:1+k<=q):SE g q (.mk op num ys):=by
 refine ⟨fun m=>CP om (fun h=>by omega) om om fun e he=>(hy e he).1 m,?_⟩
 have:=GK (xs:=ys) (m:=1) fun e he=>(hy e he).2
 rw [Z2.sz];omega
def BD (ds:List Zf) (t c:Int):Prop:=(0<=c/\c<=9)/\(ZP ds c).length<=3*rk t/\∀u∈ZP ds c,Jk u
instance (ds:List Zf) (t c:Int):Decidable (BD ds t c):=inferInstanceAs (Decidable (_/\_/\_))
theorem Z0v {ds:List Zf} (h:GD ds):∀t∈[(1:Int),2,3,4],∀c∈ZX ds t,(t∈ZP ds c->∀c0,(ZX ds t)[0]? = some c0->BD ds t c0)/\(¬t∈ZP ds c->BD ds t c):=by
 intro t ht c hc
 have k1:=(by decide:∀ds∈B8,∀t∈[(1:Int),2,3,4],∀c∈ZX ds t,(t∈ZP ds c->BD ds t (gI (ZX ds t) 0))/\(¬t∈ZP ds c->BD ds t c)) ds h t ht c hc
 refine ⟨fun q c0 h0=>?_,k1.2⟩
 have:=k1.1 q
 rwa [Tp (i:=0) h0] at this
theorem Oa {ds:List Zf} (h:GD ds) {t c:Int} (hc:c∈ZX ds t):t∈[(1:Int),2,3,4]:=by
 obtain ⟨_,h2,_⟩:=h.cons_cases hc
 rcases h2 with rfl|rfl|rfl<;>simp
theorem Zg9 {ds:List Zf} (h:GD ds) {t c c0:Int} (hc:c∈ZX ds t) (ht:t∈ZP ds c) (h0:(ZX ds t)[0]? = some c0):BD ds t c0:=(Z0v h t (Oa h hc) c hc).1 ht c0 h0
theorem Zg8 {ds:List Zf} (h:GD ds) {t c:Int} (hc:c∈ZX ds t) (ht:¬t∈ZP ds c):BD ds t c:=(Z0v h t (Oa h hc) c hc).2 ht
theorem Zf7 {ds:List Zf} (h:GD ds) {t:Int} (h0:(ZX ds t).length=0) (ht:0<t):rk t=1:=by
 rw [rk,Z5]
 rintro (q|q|q)
 ·omega
 ·rw [q,h.low.2.1] at h0;cases h0
 ·rw [q,h.low.2.2.2.1] at h0;cases h0
def AK (g:Wb) (t i:Int):Prop:=0<=i/\∃f,g.funcs[i.toNat]? = some f/\0<f.params.length/\Ab g.decls (gI f.params ((f.params.length:Int)-1)) f.result=t
theorem AK.lt {g:Wb} {t i:Int} (h:AK g t i):0<=i/\i<g.funcs.length:=by
 obtain ⟨h1,f,h2,_⟩:=h
 have:=(X4.1 h2).1
 omega
theorem AK.mk {g:Wb} {t x2:Int} {k:Nat} {f:Func} (hf:g.funcs[k]? = some f) (hl:0<f.params.length) (hx:f.params[f.params.length-1]? = some x2) (ha:Ab g.decls x2 f.result=t):AK g t (k:Int):=by
 refine ⟨by omega,f,by simpa using hf,hl,?_⟩
 rw [Tp (i:=(f.params.length:Int)-1) (by rw [show ((f.params.length:Int)-1).toNat=f.params.length-1 by omega];exact hx)]
 exact ha
theorem AK.low {g:Wb} {t i u:Int} {f:Func} {j:Nat} (hg:GP g) (h:AK g t i) (ht:0<t) (hf:g.funcs[i.toNat]? = some f) (hj:j+1<f.params.length) (hu:f.params[j]? = some u):rk u=0:=by
 obtain ⟨_,f',h2,_,h4⟩:=h
 have e:f'=f:=AJ (h2.symm.trans hf)
 subst e
 have h5:=(hg.sigs f' (Y1 hf)).clo hg.decls (by rw [h4];exact ht)
 refine Z02 (h5 u ?_)
 rw [List.dropLast_eq_take]
 exact Y1 (i:=j) (by rw [List.getElem?_take_of_lt om];exact hu)
end Go.Abs
section
namespace Go.Abs
theorem Ad (b:Nat):bS b=max 4 (10*b-10):=rfl
theorem Ac (b:Nat):bC b=max 40 (100*b-100):=rfl
theorem Fm {L q b:Nat} (hL:L<=3) (hb:3<=b) (hq:L*q<=b-1):1+L*bS q<=bS b:=by
 rw [Ad,Ad]
 have:L=0∨L=1∨L=2∨L=3:=by omega
 rcases this with rfl|rfl|rfl|rfl<;>omega
theorem Zcz {L q b:Nat} (hL:L<=3) (hb:3<=b) (hq:L*q<=b-2):5+L*bS q<=bS b:=by
 rw [Ad,Ad]
 have:L=0∨L=1∨L=2∨L=3:=by omega
 rcases this with rfl|rfl|rfl|rfl<;>omega
theorem Zcv {b:Nat} (hb:3<=b):1+(bS (b / 2)+bS (b / 2))<=bS b:=by rw [Ad,Ad];omega
theorem Z3s {b:Nat} (hb:3<=b):5+bS (b-2)<=bS b:=by rw [Ad,Ad];omega
theorem Bh {L q b:Nat} (hL:L<=3) (hb:3<=b) (hq:L*q<=b-1):10+L*bC q<=bC b:=by
 rw [Ac,Ac]
 have:L=0∨L=1∨L=2∨L=3:=by omega
 rcases this with rfl|rfl|rfl|rfl<;>omega
theorem Zcy {L q b:Nat} (hL:L<=3) (hb:3<=b) (hq:L*q<=b-2):40+L*bC q<=bC b:=by
 rw [Ac,Ac]
 have:L=0∨L=1∨L=2∨L=3:=by omega
 rcases this with rfl|rfl|rfl|rfl<;>omega
theorem Zcu {b:Nat} (hb:3<=b):10+(bC (b / 2)+bC (b / 2))<=bC b:=by rw [Ac,Ac];omega
theorem Z3r {b:Nat} (hb:3<=b):40+bC (b-2)<=bC b:=by rw [Ac,Ac];omega
theorem NT (b:Nat):4<=bS b:=by rw [Ad];omega
theorem NS (b:Nat):40<=bC b:=by rw [Ac];omega
theorem Qh (L b:Nat):L*(b / L)<=b:=Nat.mul_div_le b L
theorem RM {k L C:Nat} (h:k<L):(k+1)*C=k*C+C/\(k+1)*C<=L*C:=⟨by rw [TV,Nat.one_mul],Jw C h⟩
theorem Em {ds:List Zf} {d x:Int} {m k:Nat} (h:(ZX ds d)[k]? = some x):Q9 ds 8 d m (1+k)=m+(ZP ds x).length:=by
 rw [Q9,Z5 om,Zb rfl,Z5 om,Tp (i:=((1+k:Nat):Int)-1) (by rw [show (((1+k:Nat):Int)-1).toNat=k by omega];exact h)]
section
variable {g:Wb} {m:Nat}
theorem GE.var {z:Int} {q:Nat} (hz:0<=z/\z<m) (hm:m<=2000) (hq:1<=q):GE g m q (.mk 12 z []):=⟨Z6l hz hm,by simpa [Z2.sz,XG] using hq⟩
theorem GE.list {ys:List Z2} {L s:Nat} (h:∀e∈ys,GE g m s e) (hl:ys.length=L):XG ys<=L*s:=by rw [<-hl];exact GK fun e he=>(h e he).2
theorem GE.node {op num:Int} {ys:List Z2} {L s q:Nat} (ho:0<=op/\op<=11/\op≠7/\op≠8) (hc:op=9->0<=num/\num<g.funcs.length) (hn:-2000<=num/\num<=2000) (h:∀e∈ys,GE g m s e) (hl:ys.length=L) (hL:L<=3) (hq:1+L*s<=q):GE g m q (.mk op num ys):=by
 have:=GE.list h hl
 exact ⟨CP ho hc hn om fun e he=>(h e he).1,by rw [Z2.sz];omega⟩
theorem GE.if_ {num:Int} {ys:List Z2} {s q:Nat} (hn:-2000<=num/\num<=2000) (h:∀e∈ys,GE g m s e) (hl:ys.length=3) (hq:1+3*s<=q):GE g m q (.mk 7 num ys):=by
 have:=GE.list h hl
 exact ⟨Ov hn hl fun e he=>(h e he).1,by rw [Z2.sz];omega⟩
theorem GE.let_ {a b:Z2} {s q:Nat} (ha:GE g m s a) (hb:GE g (m+1) s b) (hq:1+(s+s)<=q):GE g m q (.mk 13 0 [a,b]):=by
 refine ⟨Ow om ha.1 hb.1,?_⟩
 have h1:=ha.2
 have h2:=hb.2
 simp only [Z2.sz,XG];omega
theorem GE.two {op num:Int} {a b:Z2} {s1 s2 q:Nat} (ho:0<=op/\op<=11/\op≠7/\op≠8/\op≠9) (hn:-2000<=num/\num<=2000) (ha:GE g m s1 a) (hb:GE g m s2 b) (hq:1+(s1+s2)<=q):GE g m q (.mk op num [a,b]):=by
 refine ⟨CP om (fun h=>by omega) hn (by simp) fun e he=>?_,?_⟩
 ·rcases YI.1 he with rfl|he
  ·exact ha.1
  ·rw [Xx.1 he];exact hb.1
 ·have h1:=ha.2
  have h2:=hb.2
  simp only [Z2.sz,XG];omega
theorem GE.match_ {d:Int} {e:Z2} {ys:List Z2} {L s q:Nat} (hd:-2000<=d/\d<=2000) (he:GE g m 4 e) (hw:Ka g.decls g.funcs.length (Q9 g.decls 8 d m) 1 ys) (hs:∀e∈ys,e.sz<=s) (hl:ys.length=L) (hL:L=(ZX g.decls d).length) (h3:L<=3) (hq:5+L*s<=q):GE g m q (.mk 8 d (e::ys)):=by
 refine ⟨Lm hd om om he.1 hw,?_⟩
 have h1:=GK hs
 rw [hl] at h1
 have h2:=he.2
 rw [Z2.sz,XG];omega
end
def NL (s:Nat) (left w:Int):Prop:=((s:Int)<=left/\w=left-s)∨(left<s/\w=-1)
end Go.Abs
namespace Go.Abs
theorem Db {L b p pp M:Nat} (hL:L<=3) (hb:3<=b) (h:pp<=p+8) (hp:p+(bC b-1)<=M):pp+L*bC ((b-1) / L)<=M:=by
 have:=Bh hL hb (Qh L (b-1))
 omega
end Go.Abs
end
namespace Go.Abs
theorem Z6t (a b:Z2):XG [a,b]=a.sz+b.sz:=by simp only [XG];omega
theorem GJ (a b c:Z2):XG [a,b,c]=a.sz+b.sz+c.sz:=by simp only [XG];omega
theorem EL:bS 3=20/\bS 4=30/\bS 12=110/\bS 16=150/\bS 18=170/\bC 3=200/\bC 4=300/\bC 16=1500:=by decide
theorem Gm {b:Nat} (h:b<=20):bS b<=190/\bC b<=1900/\(b<=2->bS b<=10):=by rw [Ad,Ac];omega
section
variable {g:Wb} {m:Nat}
theorem SE.ofs {op num:Int} {ys:List Z2} {q:Nat} (ho:0<=op/\op<=11/\op≠7/\op≠8/\op≠9) (hn:-2000<=num/\num<=2000) (hl:ys.length<=4) (hy:∀e∈ys,∃s,SE g s e) (hq:1+XG ys<=q):SE g q (.mk op num ys):=
 ⟨fun m=>CP om (fun h=>by omega) hn hl fun e he=>let ⟨_,h⟩:=hy e he;h.1 m,by rw [Z2.sz];exact hq⟩
theorem SE.nil {op num:Int} {q:Nat} (ho:0<=op/\op<=11/\op≠7/\op≠8/\op≠9) (hn:-2000<=num/\num<=2000) (hq:1<=q):SE g q (.mk op num []):=
 SE.ofs ho hn (by simp) (fun e he=>by cases he) (by simpa [XG] using hq)
theorem SE.two {op num:Int} {a b:Z2} {s1 s2 q:Nat} (ho:0<=op/\op<=11/\op≠7/\op≠8/\op≠9) (hn:-2000<=num/\num<=2000) (ha:SE g s1 a) (hb:SE g s2 b) (hq:1+(s1+s2)<=q):SE g q (.mk op num [a,b]):=by
 refine SE.ofs ho hn (by simp) (fun e he=>?_) ?_
 ·rcases YI.1 he with rfl|he
  ·exact ⟨_,ha⟩
  ·rw [Xx.1 he];exact ⟨_,hb⟩
 ·have h1:=ha.2
  have h2:=hb.2
  rw [Z6t];omega
theorem SE.three {op num:Int} {a b c:Z2} {s1 s2 s3 q:Nat} (ho:0<=op/\op<=11/\op≠7/\op≠8/\op≠9) (hn:-2000<=num/\num<=2000) (ha:SE g s1 a) (hb:SE g s2 b) (hc:SE g s3 c) (hq:1+(s1+s2+s3)<=q):SE g q (.mk op num [a,b,c]):=by
 refine SE.ofs ho hn (by simp) (fun e he=>?_) ?_
 ·rcases YI.1 he with rfl|he
  ·exact ⟨_,ha⟩
  ·rcases YI.1 he with rfl|he
   ·exact ⟨_,hb⟩
   ·rw [Xx.1 he];exact ⟨_,hc⟩
 ·have h1:=ha.2
  have h2:=hb.2
  have h3:=hc.2
  rw [GJ];omega
theorem GE.int {z:Int} {q:Nat} (hz:-2000<=z/\z<=2000) (hq:1<=q):GE g m q (.mk 0 z []):=(SE.int (g:=g) (q:=q) hz hq).ge (Xa _)
theorem GE.three {op num:Int} {a b c:Z2} {s1 s2 s3 q:Nat} (ho:0<=op/\op<=11/\op≠8/\op≠9) (hn:-2000<=num/\num<=2000) (ha:GE g m s1 a) (hb:GE g m s2 b) (hc:GE g m s3 c) (hq:1+(s1+s2+s3)<=q):GE g m q (.mk op num [a,b,c]):=by
 have hk:∀e∈[a,b,c],eW g.decls g.funcs.length m e:=fun e he=>by
  rcases YI.1 he with rfl|he
  ·exact ha.1
  ·rcases YI.1 he with rfl|he
   ·exact hb.1
   ·rw [Xx.1 he];exact hc.1
 refine ⟨?_,?_⟩
 ·by_cases h7:op=7
  ·subst h7;exact Ov hn rfl hk
  ·exact CP om (fun h=>by omega) hn (by simp) hk
 ·have h1:=ha.2
  have h2:=hb.2
  have h3:=hc.2
  rw [Z2.sz,GJ];omega
theorem GE.one {op num:Int} {a:Z2} {s1 q:Nat} (ho:0<=op/\op<=11/\op≠7/\op≠8/\op≠9) (hn:-2000<=num/\num<=2000) (ha:GE g m s1 a) (hq:1+s1<=q):GE g m q (.mk op num [a]):=by
 refine ⟨CP om (fun h=>by omega) hn (by simp) fun e he=>?_,?_⟩
 ·rw [Xx.1 he];exact ha.1
 ·have h1:=ha.2
  simp only [Z2.sz,XG];omega
theorem GE.letS {a b:Z2} {s1 s2 q:Nat} (ha:GE g m s1 a) (hb:GE g (m+1) s2 b) (hq:1+(s1+s2)<=q):GE g m q (.mk 13 0 [a,b]):=by
 refine ⟨Ow om ha.1 hb.1,?_⟩
 have h1:=ha.2
 have h2:=hb.2
 simp only [Z2.sz,XG];omega
theorem GE.matchL (hg:GP g) {e a b:Z2} {s1 s2 s3 q:Nat} (he:GE g m s1 e) (ha:GE g m s2 a) (hb:GE g (m+2) s3 b) (hq:1+(s1+s2+s3)<=q):GE g m q (.mk 8 1 [e,a,b]):=by
 have hl:=hg.decls.low
 refine ⟨Lm om (by simp) (by rw [hl.2.1];rfl) he.1 ⟨?_,?_,True.intro⟩,?_⟩
 ·rw [Em (k:=0) (x:=0) (by rw [hl.2.1];rfl),hl.2.2.2.2.1];exact ha.1
 ·rw [Em (k:=1) (x:=1) (by rw [hl.2.1];rfl),hl.2.2.2.2.2.1];exact hb.1
 ·have h1:=he.2
  have h2:=ha.2
  have h3:=hb.2
  rw [Z2.sz,GJ];omega
theorem GE.matchT (hg:GP g) {e a b:Z2} {s1 s2 s3 q:Nat} (he:GE g m s1 e) (ha:GE g m s2 a) (hb:GE g (m+3) s3 b) (hq:1+(s1+s2+s3)<=q):GE g m q (.mk 8 3 [e,a,b]):=by
 have hl:=hg.decls.low
 refine ⟨Lm om (by simp) (by rw [hl.2.2.2.1];rfl) he.1 ⟨?_,?_,True.intro⟩,?_⟩
 ·rw [Em (k:=0) (x:=2) (by rw [hl.2.2.2.1];rfl),hl.2.2.2.2.2.2.1];exact ha.1
 ·rw [Em (k:=1) (x:=3) (by rw [hl.2.2.2.1];rfl),hl.2.2.2.2.2.2.2];exact hb.1
 ·have h1:=he.2
  have h2:=ha.2
  have h3:=hb.2
  rw [Z2.sz,GJ];omega
theorem IH {α:Type} {p:α->Prop} {a:α} (h:p a):∀x∈[a],p x:=fun x hx=>by rw [Xx.1 hx];exact h
end
structure Iv (g:Wb):Prop where
 gp:GP g
 body:∀f∈g.funcs,eW g.decls g.funcs.length f.params.length f.body/\f.body.sz<=30
structure GL (ds:List Zf) (k j:Nat) (rq:List Func):Prop where
 len:rq.length=4
 sigs:∀f∈rq,Ty f
 zero:∀f,rq[0]? = some f->f.params.length=0
 body:∀i f,j<=i->i<k->rq[i]? = some f->eW ds k f.params.length f.body/\f.body.sz<=30
theorem GL.gp {ds:List Zf} {k j:Nat} {rq:List Func} (h:GL ds k j rq) (hd:GD ds) (hk:1<=k/\k<=4):GP ⟨ds,rq.take k⟩:=
 ⟨hd,by show 1<=(rq.take k).length/\_;rw [W1,h.len];omega,fun f hf=>h.sigs f (K0 hf)⟩
theorem GL.len_take {ds:List Zf} {k j:Nat} {rq:List Func} (h:GL ds k j rq) (hk:k<=4):(rq.take k).length=k:=by rw [W1,h.len];omega
theorem GL.set {ds:List Zf} {k j:Nat} {rq:List Func} {f:Func} {e:Z2} (h:GL ds k j rq) (hj:1<=j) (hf:rq[j-1]? = some f) (he:eW ds k f.params.length e/\e.sz<=30):GL ds k (j-1) (rq.set (j-1) ⟨f.params,f.result,e⟩):=by
 have hl:=(X4.1 hf).1
 refine ⟨by rw [V4];exact h.len,fun x hx=>?_,fun x hx=>?_,fun i x h1 h2 hx=>?_⟩
 ·rcases List.mem_or_eq_of_mem_set hx with hx|rfl
  ·exact h.sigs x hx
  ·exact h.sigs f (Y1 hf)
 ·rw [List.getElem?_set] at hx
  split at hx
  ·rename_i h0
   cases hx
   exact h.zero f (by rw [<-h0];exact hf)
  ·exact h.zero x hx
 ·rw [List.getElem?_set] at hx
  split at hx
  ·cases hx
   exact he
  ·exact h.body i x om h2 hx
theorem GL.done {ds:List Zf} {k:Nat} {rq:List Func} (h:GL ds k 0 rq) (hd:GD ds) (hk:1<=k/\k<=4):Iv ⟨ds,rq.take k⟩:=by
 refine ⟨h.gp hd hk,fun f hf=>?_⟩
 show eW ds (rq.take k).length _ _/\_
 rw [h.len_take hk.2]
 obtain ⟨i,hi⟩:=List.getElem?_of_mem hf
 have hi2:i<(rq.take k).length:=(X4.1 hi).1
 rw [h.len_take hk.2] at hi2
 rw [List.getElem?_take_of_lt hi2] at hi
 exact h.body i f om hi2 hi
theorem MW {l:List Func} {f:Func} {k:Nat} (h:l[k]? = some f) (hl:l.all (fun f=>decide ((f.params,f.result)∈A9))=true):Ty f:=show (f.params,f.result)∈A9 from of_decide_eq_true (AG.1 hl f (Y1 h))
theorem GL.start {ds:List Zf} {k:Nat} {e:Z2} {a b c:Func} (ha:Ty a) (hb:Ty b) (hc:Ty c):GL ds k k [⟨[],0,e⟩,a,b,c]:=by
 refine ⟨rfl,fun f hf=>?_,fun f hf=>?_,fun i f h1 h2=>by omega⟩
 ·rcases YI.1 hf with rfl|hf
  ·exact List.Mem.head _
  ·rcases YI.1 hf with rfl|hf
   ·exact ha
   ·rcases YI.1 hf with rfl|hf
    ·exact hb
    ·rw [Xx.1 hf];exact hc
 ·cases hf;rfl
theorem Zdp {l:LI} {k:Nat} {a b:Nat} (h:(k:Int)∈l) (hl:l.all (fun x=>decide ((a:Int)<=x/\x<=b))=true):a<=k/\k<=b:=by
 have:=of_decide_eq_true (AG.1 hl _ h)
 omega
mutual
def Km (p:Int->Prop):Z7->Prop
 | .mk op _ _ _ kids=>p op/\Kl p kids
def Kl (p:Int->Prop):List Za->Prop
 | []=>True
 | b::r=>Vx p b/\Kl p r
def Q6 (p:Int->Prop):List Z7->Prop
 | []=>True
 | s::r=>Km p s/\Q6 p r
def Vx (p:Int->Prop):Za->Prop
 | .mk steps _=>Q6 p steps
end
section
variable {p q:Int->Prop}
theorem Fu (s:Z7):Km p s↔p s.op/\Kl p s.kids:=by cases s;rw [Km];rfl
theorem HF (b:Za):Vx p b↔Q6 p b.steps:=by cases b;rw [Vx];rfl
theorem Ec:∀{xs:List Za},Kl p xs↔∀b∈xs,Vx p b
 | []=>by simp [Kl]
 | b::r=>by rw [Kl,Ec];simp
theorem De:∀{xs:List Z7},Q6 p xs↔∀b∈xs,Km p b
 | []=>by simp [Q6]
 | b::r=>by rw [Q6,De];simp
theorem HG {xs ys:List Z7}:Q6 p (xs++ys)↔Q6 p xs/\Q6 p ys:=by simp only [De,Xg];exact ⟨fun h=>⟨fun b hb=>h b (.inl hb),fun b hb=>h b (.inr hb)⟩,fun h b hb=>hb.elim (h.1 b) (h.2 b)⟩
theorem S1 {xs:List Za} {b:Za} (h:Kl p xs) (hb:Vx p b):Kl p (xs++[b]):=Ec.2 (XI (Ec.1 h) hb)
theorem HH {xs:List Z7} {b:Z7} (h:Q6 p xs) (hb:Km p b):Q6 p (xs++[b]):=De.2 (XI (De.1 h) hb)
end
def WS (op:Int):Prop:=op<=11
def VI (op:Int):Prop:=op<=15
end Go.Abs
section
namespace Go.Abs
structure LW (ds:List Zf) (nf q:Nat) (e:Z2) (ys:List Z7) (v:Int):Prop where
 fs:We ds nf q ys
 v:0<=v/\v<(q+Yu ys:Nat)
 sz:Yy ys<=6*e.sz
 op:Q6 WS ys
theorem LW.dn {ds:List Zf} {nf q:Nat} {e:Z2} {ys:List Z7} {v:Int} (h:LW ds nf q e ys v):Yu ys<=6*e.sz/\ys.length<=6*e.sz:=by
 have h1:=AY ys
 have h2:=Jr ys
 have h3:=h.sz
 omega
structure LB (ds:List Zf) (nf q:Nat) (e:Z2) (b:Za):Prop where
 fb:fB ds nf q b
 sz:b.sz<=1+6*e.sz
 op:Vx WS b
section
variable {ds:List Zf} {nf q:Nat}
theorem Gp:∀xs ys:List Za,YU (xs++ys)=YU xs+YU ys
 | [],ys=>by simp [YU]
 | x::r,ys=>by rw [KZ,YU,YU,Gp r];omega
theorem LW.block {e:Z2} {ys:List Z7} {v:Int} (h:LW ds nf q e ys v):LB ds nf q e ⟨ys,v⟩:=
 ⟨by rw [fB];exact ⟨h.fs,h.v⟩,by rw [Za.sz];have:=h.sz;omega,by rw [Vx];exact h.op⟩
theorem LW.var {e:Z2} {v:Int} (hv:0<=v/\v<q):LW ds nf q e [] v:=⟨True.intro,by simpa [Yu] using hv,by simp [Yy],True.intro⟩
theorem LW.let_ {e a b:Z2} {ys zs:List Z7} {v1 v2:Int} (ha:LW ds nf q a ys v1) (hb:LW ds nf (q+Yu ys) b zs v2) (he:a.sz+b.sz<e.sz):LW ds nf q e (ys++zs) v2:=by
 refine ⟨Aq.2 ⟨ha.fs,hb.fs⟩,by rw [Th,<-A5];exact hb.v,?_,HG.2 ⟨ha.op,hb.op⟩⟩
 have h1:=ha.sz
 have h2:=hb.sz
 rw [Qb];omega
theorem EO {ys:List Z7} {s:Z7} (h:YP s.op=false):Yu (ys++[s])=Yu ys+1:=by
 rw [Th]
 simp [Yu,h]
theorem LW.node {e:Z2} {ys:List Z7} {as1:LI} (ho:0<=e.op/\e.op<=11/\e.op≠7/\e.op≠8) (hc:e.op=9->0<=e.num/\e.num<nf) (hn:-2000<=e.num/\e.num<=2000) (hf:We ds nf q ys) (ha:∀a∈as1,0<=a/\a<(q+Yu ys:Nat)) (hl:as1.length<=4) (hs:Yy ys<=6*XG e.kids) (hop:Q6 WS ys) :
  LW ds nf q e (ys++[⟨e.op,e.num,0,as1,[]⟩]) ((q+Yu ys:Nat):Int):=by
 have hcb:YP e.op=false:=by simp [YP];omega
 refine ⟨GN hf ?_,?_,?_,HH hop (by rw [Km];exact ⟨by show e.op<=11;omega,True.intro⟩)⟩
 ·rw [fS]
  exact ⟨.inl ⟨by omega,by omega⟩,ha,fun h=>by omega,fun h=>by omega,fun h=>by omega,fun h=>by omega,hc,hn,by omega,hl,fun _=>rfl,True.intro⟩
 ·rw [EO (show YP (Z7.mk e.op e.num 0 as1 []).op=false from hcb)];omega
 ·rw [Qb,e.sz_eq]
  simp only [Yy,Z7.sz,YU]
  omega
theorem LW.branch {e:Z2} {ys:List Z7} {v:Int} {bs:List Za} {s0 sr:Nat} (ho:e.op=7∨e.op=8) (h7:e.op=7->bs.length=2) (h8:e.op=8->bs.length=(ZX ds e.num).length) (hn:-2000<=e.num/\e.num<=2000) (hf:We ds nf q ys) (hv:0<=v/\v<(q+Yu ys:Nat))
  (hb:Uc ds nf (V0 ds e.op e.num (q+Yu ys)) 0 bs) (hl:bs.length<=3) (h0:Yy ys<=6*s0) (h1:YU bs<=bs.length+6*sr) (hs:s0+sr<=XG e.kids) (hop:Q6 WS ys) (hob:Kl WS bs):LW ds nf q e (ys++[⟨e.op,e.num,0,[v],bs⟩]) ((q+Yu ys:Nat):Int):=by
 have hcb:YP e.op=false:=by simp [YP];omega
 refine ⟨GN hf ?_,?_,?_,HH hop (by rw [Km];exact ⟨by show e.op<=11;omega,hob⟩)⟩
 ·rw [fS]
  exact ⟨.inl ⟨by omega,by omega⟩,fun a ha=>by rw [Xx.1 ha];exact hv,fun h=>by omega,h7,h8,fun _=>⟨v,rfl⟩,fun h=>by omega,hn,by omega,by simp,fun h=>by omega,hb⟩
 ·rw [EO (show YP (Z7.mk e.op e.num 0 [v] bs).op=false from hcb)];omega
 ·rw [Qb,e.sz_eq]
  simp only [Yy,Z7.sz,Yq,YY]
  omega
theorem Z0t {ds:List Zf} {op num:Int} {m k:Nat} (h:op=13):Q9 ds op num m k=m+k:=Zb h
theorem Zg6 {ds:List Zf} {op num:Int} {m:Nat} (h:op≠13):Q9 ds op num m 0=m:=by simp [Q9,h]
theorem Z0u {ds:List Zf} {op num:Int} {m k:Nat} (h:op≠13/\op≠8):Q9 ds op num m k=m:=by simp [Q9,h.1,h.2]
theorem Zg7 {ds:List Zf} {op num x:Int} {m k j:Nat} (h:op=8) (hk:k=j+1) (hx:(ZX ds num)[j]? = some x):Q9 ds op num m k=m+(ZP ds x).length:=by
 subst h;subst hk;rw [Nat.add_comm j 1];exact Em hx
theorem MT {ds:List Zf} {op num x:Int} {m j:Nat} (h:op=8) (hx:(ZX ds num)[j]? = some x):V0 ds op num m j=m+(ZP ds x).length:=by
 rw [V0,Zb h,Tp (i:=(j:Int)) (by simpa using hx)]
theorem MU {ds:List Zf} {op num:Int} {m j:Nat} (h:op≠8):V0 ds op num m j=m:=Z5 h
theorem BN {xs:List Z2} {k:Nat} {e:Z2} (h:xs[k]? = some e):XG (xs.take (k+1))=XG (xs.take k)+e.sz:=by rw [V1 h,ES,XG,XG];rfl
theorem B4 {xs:List Z2} (k:Nat):XG (xs.take k)<=XG xs:=by
 have h:=Yg XG (TO k xs)
 rw [ES] at h;omega
theorem OC {xs:List Z2} {a b:Z2} (ha:xs[0]? = some a) (hb:xs[1]? = some b):a.sz+b.sz<=XG xs:=by
 have h1:XG (xs.take 1)=XG (xs.take 0)+a.sz:=BN ha
 have h2:XG (xs.take 2)=XG (xs.take 1)+b.sz:=BN hb
 have h3:=B4 (xs:=xs) 2
 omega
theorem G4 {us:LI} {v:Int} {d:Nat} (hu:∀a∈us,0<=a/\a<(q:Int)) (hv:0<=v/\v<(q+d:Nat)):∀a∈us++[v],0<=a/\a<((q+d:Nat):Int):=
 XI (fun a ha=>by have:=hu a ha;omega) hv
theorem Im {us:LI} {d:Nat} (hu:∀a∈us,0<=a/\a<(q:Int)):∀a∈us,0<=a/\a<((q+d:Nat):Int):=fun a ha=>by have:=hu a ha;omega
theorem Zj6 {us ns:LI} {d mf:Nat} (hu:∀a∈us,0<=a/\a<(q:Int)) (hn:∀i∈ns,((q+d:Nat):Int)<=i/\i<((q+d:Nat):Int)+mf):∀a∈us++ns,0<=a/\a<((q+d+mf:Nat):Int):=fun a ha=>by
 rcases Xg.1 ha with h|h
 ·have:=hu a h;omega
 ·have:=hn a h;omega
theorem Gq:∀bs:List Za,bs.length<=YU bs
 | []=>Xa _
 | b::r=>by have:=Gq r;have:=b.sz_pos;rw [YU,Yq];omega
end
end Go.Abs
namespace Go.Abs
structure RF (ds:List Zf) (nf q:Nat) (p:Int->Prop) (r:YD):Prop where
 sig:(r.params,r.result)∈A9
 lent:r.lent.length<=3/\∀i∈r.lent,0<=i/\i<r.params.length
 body:fB ds nf r.params.length r.body/\r.body.sz<=q
 op:Vx p r.body
structure FO (n:ZH) (q:Nat) (p:Int->Prop):Prop where
 fn:FN n q
 op:∀r∈n.routines,Vx p r.body
theorem FO.rf {n:ZH} {q:Nat} {p:Int->Prop} (h:FO n q p) {r:YD} (hr:r∈n.routines):RF n.decls n.routines.length q p r:=⟨h.fn.sigs r hr,h.fn.lent r hr,h.fn.body r hr,h.op r hr⟩
theorem FO.all {n:ZH} {q:Nat} {p:Int->Prop} (hd:GD n.decls) (hl:1<=n.routines.length/\n.routines.length<=4) (h:∀r∈n.routines,RF n.decls n.routines.length q p r):FO n q p:=
 ⟨⟨hd,hl,fun r hr=>(h r hr).sig,fun r hr=>(h r hr).lent,fun r hr=>(h r hr).body⟩,fun r hr=>(h r hr).op⟩
structure RN (ds:List Zf) (nf:Nat) (r:YD):Prop where
 sig:(r.params,r.result)∈A9
 lent:r.lent=[]
 body:fB ds nf r.params.length r.body/\r.body.sz<=181
 op:Vx WS r.body
theorem RN.all {n:ZH} {q:Nat} (hd:GD n.decls) (hl:1<=n.routines.length/\n.routines.length<=4) (h:∀r∈n.routines,RN n.decls n.routines.length r) (hq:181<=q):FO n q WS:=
 FO.all hd hl fun r hr=>⟨(h r hr).sig,by rw [(h r hr).lent];exact ⟨by simp,fun i hi=>by cases hi⟩,⟨(h r hr).body.1,Vn (h r hr).body.2 hq⟩,(h r hr).op⟩
end Go.Abs
namespace Go.Abs
theorem RN.of {ds:List Zf} {nf:Nat} {ps:LI} {rt:Int} {b:Za} {e:Z2} (hs:(ps,rt)∈A9) (h:LB ds nf ps.length e b) (he:e.sz<=30):RN ds nf ⟨ps,[],rt,Za.mk b.steps b.result⟩:=by
 have e1:Za.mk b.steps b.result=b:=by cases b;rfl
 rw [e1]
 exact ⟨hs,rfl,⟨h.fb,by have:=h.sz;show b.sz<=181;omega⟩,h.op⟩
end Go.Abs
end
namespace Go.Abs
theorem N5:∀{xs:List Z7} {s:Z7},s∈xs->s.sz<=Yy xs
 | [],s,h=>by cases h
 | x::r,s,h=>by
  rw [Yy]
  rcases YI.1 h with rfl|h
  ·omega
  ·have:=N5 h;omega
theorem IN:∀{xs:List Za} {b:Za},b∈xs->b.sz<=YU xs
 | [],b,h=>by cases h
 | x::r,b,h=>by
  rw [YU]
  rcases YI.1 h with rfl|h
  ·omega
  ·have:=IN h;omega
structure LC (n:ZH) (k:Nat) (xs:List LI):Prop where
 len:xs.length=k
 ok:∀(i:Nat) (l:LI),xs[i]? = some l->l.length<=3/\∀r,n.routines[i]? = some r->∀v∈l,0<=v/\v<(r.params.length:Int)
theorem LC.nil {n:ZH}:LC n 0 []:=⟨rfl,fun i l h=>by simp at h⟩
theorem LC.snoc {n:ZH} {k:Nat} {xs:List LI} {l:LI} (h:LC n k xs) (hl:l.length<=3) (hv:∀r,n.routines[k]? = some r->∀v∈l,0<=v/\v<(r.params.length:Int)):LC n (k+1) (xs++[l]):=by
 refine ⟨by rw [Yo,h.len];rfl,fun i l' hi=>?_⟩
 by_cases hk:i<xs.length
 ·rw [A1 hk] at hi
  exact h.ok i l' hi
 ·rw [Bv om] at hi
  have h0:i-xs.length=0:=by
   cases e:i-xs.length with
   | zero=>rfl
   | succ q=>rw [e] at hi;simp at hi
  rw [h0] at hi
  cases hi
  have e:i=k:=by have:=h.len;omega
  subst e
  exact ⟨hl,hv⟩
def WG:LI->Int->LI
 | [],y=>[y]
 | x::r,y=>if x>y then y::x::r else if x=y then x::r else x::WG r y
def Qq (d:Bool) (xs:LI) (y:Int):LI:=if d=true then xs else WG xs y
theorem Hh {xs:LI} {y:Int}:Qq true xs y=xs:=rfl
theorem Hg {xs:LI} {y:Int}:Qq false xs y=WG xs y:=rfl
theorem R6 {xs acc r:LI} {y x:Int} {k:Nat} {d:Bool} (hx:xs[k]? = some x) (hd:d=true) (h:acc++Qq d (xs.drop k) y=r):(acc++[x])++Qq d (xs.drop (k+1)) y=r:=by
 subst hd
 rw [Hh,Yj hx] at h
 rw [Hh,<-h];simp
theorem Zbr {xs acc r:LI} {y x:Int} {k:Nat} {d:Bool} (hx:xs[k]? = some x) (hd:¬d=true) (hl:¬x>=y) (h:acc++Qq d (xs.drop k) y=r):(acc++[x])++Qq d (xs.drop (k+1)) y=r:=by
 have hd:=Qz.2 hd
 subst hd
 rw [Hg,Yj hx,WG,Z5 om,Z5 om] at h
 rw [Hg,<-h];simp
theorem Zbs {xs acc r:LI} {y x:Int} {k:Nat} {d:Bool} (hx:xs[k]? = some x) (hd:¬d=true) (hl:x>y) (h:acc++Qq d (xs.drop k) y=r):((acc++[y])++[x])++Qq true (xs.drop (k+1)) y=r:=by
 have hd:=Qz.2 hd
 subst hd
 rw [Hg,Yj hx,WG,Zb hl] at h
 rw [Hh,<-h];simp
theorem Zbt {xs acc r:LI} {y x:Int} {k:Nat} {d:Bool} (hx:xs[k]? = some x) (hd:¬d=true) (hl:x=y) (h:acc++Qq d (xs.drop k) y=r):(acc++[x])++Qq true (xs.drop (k+1)) y=r:=by
 have hd:=Qz.2 hd
 subst hd
 rw [Hg,Yj hx,WG,Z5 om,Zb hl] at h
 rw [Hh,<-h];simp
theorem Zbq {xs acc acc2 r:LI} {y x:Int} {k:Nat} {d d2:Bool} (hx:xs[k]? = some x) (h:acc++Qq d (xs.drop k) y=r)
  (hc:(acc2=acc/\d2=d/\(d=true∨¬x>=y))∨(acc2=acc++[y]/\d2=true/\¬d=true/\x>y)∨(acc2=acc/\d2=true/\¬d=true/\x=y)):(acc2++[x])++Qq d2 (xs.drop (k+1)) y=r:=by
 rcases hc with ⟨rfl,rfl,h3⟩|⟨rfl,rfl,h3,h4⟩|⟨rfl,rfl,h3,h4⟩
 ·rcases h3 with h3|h3
  ·exact R6 hx h3 h
  ·by_cases q:d2=true
   ·exact R6 hx q h
   ·exact Zbr hx q h3 h
 ·exact Zbs hx h3 h4 h
 ·exact Zbt hx h3 h4 h
theorem Zbp {xs acc r:LI} {y:Int} {k:Nat} {d:Bool} (hk:xs.length<=k) (h:acc++Qq d (xs.drop k) y=r):(if d=true then acc else acc++[y])=r:=by
 rw [Xp hk] at h
 by_cases q:d=true
 ·rw [Qq,Zb q,QZ] at h;rw [Zb q];exact h
 ·rw [Qq,Z5 q,WG] at h;rw [Z5 q];exact h
theorem Be:∀(xs:LI) (y:Int),(WG xs y).length<=xs.length+1
 | [],y=>Xa _
 | x::r,y=>by
  have:=Be r y
  rw [WG]
  split
  ·simp
  ·split
   ·simp
   ·simp only [Yq];omega
theorem D7:∀{xs:LI} {y z:Int},z∈WG xs y↔z∈xs∨z=y
 | [],y,z=>by simp [WG]
 | x::r,y,z=>by
  rw [WG]
  split
  ·simp only [YI];exact ⟨fun h=>h.elim .inr .inl,fun h=>h.elim .inr .inl⟩
  ·split
   ·rename_i h;subst h;simp only [YI];exact ⟨fun h=>.inl h,fun h=>h.elim id .inl⟩
   ·simp only [YI,D7 (xs:=r)];exact ⟨fun h=>by rcases h with h|h|h<;>simp [h],fun h=>by rcases h with (h|h)|h<;>simp [h]⟩
def Cr (xs:LI):Prop:=xs.Pairwise (·<·)
theorem R4:∀{xs:LI} {y:Int},Cr xs->Cr (WG xs y)
 | [],y,_=>by simp [WG,Cr]
 | x::r,y,h=>by
  obtain ⟨h1,h2⟩:=WR.1 h
  rw [WG]
  split
  ·rename_i q
   refine WR.2 ⟨fun z hz=>?_,h⟩
   rcases YI.1 hz with rfl|hz
   ·omega
   ·have:=h1 z hz;omega
  ·split
   ·exact h
   ·refine WR.2 ⟨fun z hz=>?_,R4 h2⟩
    rcases D7.1 hz with hz|rfl
    ·exact h1 z hz
    ·omega
def Q7:LI->Int->LI
 | [],_=>[]
 | x::r,y=>if x=y then Q7 r y else x::Q7 r y
theorem Fv:∀(xs:LI) (y:Int),(Q7 xs y).length<=xs.length
 | [],y=>Xa _
 | x::r,y=>by
  have:=Fv r y
  rw [Q7]
  split
  ·rw [Yq];omega
  ·rw [Yq,Yq];omega
theorem Ee:∀{xs:LI} {y z:Int},z∈Q7 xs y->z∈xs
 | [],y,z,h=>by rw [Q7] at h;exact h
 | x::r,y,z,h=>by
  rw [Q7] at h
  split at h
  ·exact XD _ (Ee h)
  ·rcases YI.1 h with rfl|h
   ·exact Xo ..
   ·exact XD _ (Ee h)
theorem Zeb {xs acc r:LI} {y x:Int} {k:Nat} (hx:xs[k]? = some x) (h:acc++Q7 (xs.drop k) y=r):(if x≠y then acc++[x] else acc)++Q7 (xs.drop (k+1)) y=r:=by
 rw [Yj hx,Q7] at h
 by_cases q:x=y
 ·rw [Zb q] at h;rw [Z5 (fun z=>z q)];exact h
 ·rw [Z5 q] at h;rw [Zb q,<-h];simp
theorem Zea {xs acc r:LI} {y:Int} {k:Nat} (hk:xs.length<=k) (h:acc++Q7 (xs.drop k) y=r):acc=r:=by
 rw [Xp hk,Q7,QZ] at h;exact h
def UW (n:Int) (xs:LI) (a:Int):LI:=if 0<=a/\a<n then WG xs a else xs
def QW (n:Int):LI->LI->LI
 | [],xs=>xs
 | a::r,xs=>QW n r (UW n xs a)
mutual
def JY (n:Int):Z7->LI->LI
 | .mk op _ _ args kids,xs=>if YP op=true then xs else Js n kids (QW n args xs)
def Js (n:Int):List Za->LI->LI
 | [],xs=>xs
 | b::r,xs=>Js n r (Tb n b xs)
def Tc (n:Int):List Z7->LI->LI
 | [],xs=>xs
 | s::r,xs=>Tc n r (JY n s xs)
def Tb (n:Int):Za->LI->LI
 | .mk steps result,xs=>UW n (Tc n steps xs) result
end
section
variable {n:Int}
theorem Z2n (s:Z7) (xs:LI):JY n s xs=if YP s.op=true then xs else Js n s.kids (QW n s.args xs):=by cases s;rw [JY];rfl
theorem Z2l (b:Za) (xs:LI):Tb n b xs=UW n (Tc n b.steps xs) b.result:=by cases b;rw [Tb];rfl
theorem Il (xs:LI) (a:Int):(UW n xs a).length<=xs.length+1:=by
 rw [UW];split
 ·exact Be xs a
 ·omega
theorem Z2k:∀(as1 xs:LI),(QW n as1 xs).length<=xs.length+as1.length
 | [],xs=>Xa _
 | a::r,xs=>by
  have h1:=Z2k r (UW n xs a)
  have h2:=Il (n:=n) xs a
  rw [QW,Yq];omega
mutual
theorem Z2o:∀(s:Z7) (xs:LI),(JY n s xs).length<=xs.length+s.sz
 | .mk op num into args kids,xs=>by
  have h1:=Z2m kids (QW n args xs)
  have h2:=Z2k (n:=n) args xs
  rw [JY,Z7.sz];split<;>omega
theorem Z2m:∀(bs:List Za) (xs:LI),(Js n bs xs).length<=xs.length+YU bs
 | [],xs=>Xa _
 | b::r,xs=>by
  have h1:=Z2m r (Tb n b xs)
  have h2:=Ik b xs
  rw [Js,YU];omega
theorem Nj:∀(bs:List Z7) (xs:LI),(Tc n bs xs).length<=xs.length+Yy bs
 | [],xs=>Xa _
 | b::r,xs=>by
  have h1:=Nj r (JY n b xs)
  have h2:=Z2o b xs
  rw [Tc,Yy];omega
theorem Ik:∀(b:Za) (xs:LI),(Tb n b xs).length<=xs.length+b.sz
 | .mk steps result,xs=>by
  have h1:=Nj steps xs
  have h2:=Il (n:=n) (Tc n steps xs) result
  rw [Tb,Za.sz];omega
end
theorem Zj1 {as1 ys r:LI} {k:Nat} {a:Int} (h:as1[k]? = some a) (ha:QW n (as1.drop k) ys=r):QW n (as1.drop (k+1)) (UW n ys a)=r:=by
 rw [Yj h,QW] at ha;exact ha
theorem Zj3 {bs:List Za} {ys r:LI} {k:Nat} {b:Za} (h:bs[k]? = some b) (ha:Js n (bs.drop k) ys=r):Js n (bs.drop (k+1)) (Tb n b ys)=r:=by
 rw [Yj h,Js] at ha;exact ha
theorem Zj5 {bs:List Z7} {ys r:LI} {k:Nat} {b:Z7} (h:bs[k]? = some b) (ha:Tc n (bs.drop k) ys=r):Tc n (bs.drop (k+1)) (JY n b ys)=r:=by
 rw [Yj h,Tc] at ha;exact ha
theorem Zj0 {as1 ys r:LI} {k:Nat} (h:as1.length<=k) (ha:QW n (as1.drop k) ys=r):ys=r:=by rw [Xp h,QW] at ha;exact ha
theorem Zj2 {bs:List Za} {ys r:LI} {k:Nat} (h:bs.length<=k) (ha:Js n (bs.drop k) ys=r):ys=r:=by rw [Xp h,Js] at ha;exact ha
theorem Zj4 {bs:List Z7} {ys r:LI} {k:Nat} (h:bs.length<=k) (ha:Tc n (bs.drop k) ys=r):ys=r:=by rw [Xp h,Tc] at ha;exact ha
end
theorem Nu {s:Z7} (h:Cn s):∃a,s.args=[a]:=⟨gI s.args 0,by have:=Yg Z7.args h;exact this⟩
section
variable {xs:LI} {v:Int} {lo hi:Nat}
end
section
variable {m:Int} {xs du dr:List Z7} {lf:LI} {d:Bool} {k:Nat} {s:Z7} {W:List Z7 × List Z7 × LI}
end
def YV:List Z7->Nat
 | []=>0
 | s::r=>if YP s.op=true then YV r+1 else 0
def Wd (op x:Int):List Z7->Int->Int
 | [],_=>-1
 | s::r,k=>if s.op=op/\gI s.args 0=x then k else Wd op x r (k+1)
def KE (many:Nat) (s:Z7):Prop:=(s.op=6/\s.into=0)/\s.args.length=many
instance (many:Nat) (s:Z7):Decidable (KE many s):=by unfold KE;infer_instance
def Wx (many:Nat):List Z7->Int->Int
 | [],_=>-1
 | s::r,k=>if KE many s then k else Wx many r (k+1)
def BR (xs:List Z7) (i:Int):Z7:=xs[i.toNat]?.getD (Zx 0 0)
def Qr (v:Int) (s:Z7):Z7:=.mk s.op s.num v s.args s.kids
def Vy (xs:List Z7) (x:Int):Int:=Wd 16 x (xs.take (YV xs)) 0
def WD (xs:List Z7) (many:Nat):Int:=Wx many (xs.drop (YV xs)) (YV xs)
def VP (xs:List Z7) (x:Int) (many:Nat):List Z7:=
 if Vy xs x<0∨WD xs many<0 then xs else (xs.set (Vy xs x).toNat (Zx 17 x)).set (WD xs many).toNat (Qr (1+x) (BR xs (WD xs many)))
def VV (b:Za) (x:Int) (many:Nat):Za:=.mk (VP b.steps x many) b.result
mutual
def Tu (ds:List Zf) (kept:LI):Z7->Z7
 | .mk op num into args kids=>.mk op num into args (U3 ds kept op num args kids 0)
def U3 (ds:List Zf) (kept:LI) (op num:Int) (args:LI):List Za->Nat->List Za
 | [],_=>[]
 | b::r,k=>(if op=8/\¬gI args 0∈kept then VV (Wv ds (if Vy b.steps (gI args 0)<0∨WD b.steps (WA ds num k).length<0 then kept else gI args 0::kept) b) (gI args 0) (WA ds num k).length else Wv ds kept b)::U3 ds kept op num args r (k+1)
def Uf (ds:List Zf) (kept:LI):List Z7->List Z7
 | []=>[]
 | s::r=>Tu ds kept s::Uf ds kept r
def Wv (ds:List Zf) (kept:LI):Za->Za
 | .mk steps result=>.mk (Uf ds kept steps) result
end
def Hn (ds:List Zf) (kept:LI) (num:Int) (args:LI) (k:Nat) (b:Za):LI:=if Vy b.steps (gI args 0)<0∨WD b.steps (WA ds num k).length<0 then kept else gI args 0::kept
def Q8 (ds:List Zf) (kept:LI) (op num:Int) (args:LI) (k:Nat) (b:Za):Za:=if op=8/\¬gI args 0∈kept then VV (Wv ds (Hn ds kept num args k b) b) (gI args 0) (WA ds num k).length else Wv ds kept b
theorem AB (ds:List Zf) (kept:LI) (s:Z7):Tu ds kept s=.mk s.op s.num s.into s.args (U3 ds kept s.op s.num s.args s.kids 0):=by cases s;rw [Tu];rfl
theorem HY (ds:List Zf) (kept:LI) (b:Za):Wv ds kept b=.mk (Uf ds kept b.steps) b.result:=by cases b;rw [Wv];rfl
theorem HZ (ds:List Zf) (kept:LI):∀xs:List Z7,Uf ds kept xs=xs.map (Tu ds kept)
 | []=>rfl
 | s::r=>by rw [Uf,HZ ds kept r];rfl
section
variable {ds:List Zf} {kept:LI}
theorem Zft {xs acc r:List Z7} {k:Nat} {s:Z7} (h:xs[k]? = some s) (ha:acc++Uf ds kept (xs.drop k)=r) :
  (acc++[.mk s.op s.num s.into s.args (U3 ds kept s.op s.num s.args s.kids 0)])++Uf ds kept (xs.drop (k+1))=r:=by
 rw [Yj h,Uf,AB] at ha
 rw [<-ha];simp
theorem Zfs {xs acc r:List Z7} {k:Nat} (h:xs.length<=k) (ha:acc++Uf ds kept (xs.drop k)=r):acc=r:=by
 rw [Xp h,Uf,QZ] at ha;exact ha
theorem Zfn {op num:Int} {args:LI} {bs acc r:List Za} {k:Nat} {b:Za} (h:bs[k]? = some b) (ha:acc++U3 ds kept op num args (bs.drop k) k=r) :
  (acc++[Q8 ds kept op num args k b])++U3 ds kept op num args (bs.drop (k+1)) (k+1)=r:=by
 rw [Yj h,U3] at ha
 rw [<-ha,Q8,Hn];simp
theorem Zfm {op num:Int} {args:LI} {bs acc r:List Za} {k j:Nat} (h:bs.length<=k) (ha:acc++U3 ds kept op num args (bs.drop k) j=r):acc=r:=by
 rw [Xp h,U3,QZ] at ha;exact ha
end
section
variable {ds:List Zf}
mutual
theorem Zfq:∀(s:Z7) {K K':LI},(∀z,z∈K↔z∈K')->Tu ds K s=Tu ds K' s
 | .mk op num into args kids,K,K',h=>by rw [Tu,Tu,Z0j kids h]
theorem Z0j:∀(bs:List Za) {K K':LI} {op num:Int} {args:LI} {k:Nat},(∀z,z∈K↔z∈K')->U3 ds K op num args bs k=U3 ds K' op num args bs k
 | [],_,_,_,_,_,_,_=>by rw [U3,U3]
 | b::r,K,K',op,num,args,k,h=>by
  have h1:=Z0j r (op:=op) (num:=num) (args:=args) (k:=k+1) h
  have h2:=MN b h
  have h3:∀z,z∈(gI args 0::K)↔z∈(gI args 0::K'):=fun z=>by rw [YI,YI,h z]
  have h4:=MN b h3
  rw [U3,U3,h1,h2]
  congr 1
  by_cases hq:op=8/\¬gI args 0∈K
  ·have hq':op=8/\¬gI args 0∈K':=⟨hq.1,fun z=>hq.2 ((h _).2 z)⟩
   rw [Zb hq,Zb hq']
   congr 1
   split
   ·exact h2
   ·exact h4
  ·have hq':¬(op=8/\¬gI args 0∈K'):=fun z=>hq ⟨z.1,fun y=>z.2 ((h _).1 y)⟩
   rw [Z5 hq,Z5 hq']
theorem Z0l:∀(xs:List Z7) {K K':LI},(∀z,z∈K↔z∈K')->Uf ds K xs=Uf ds K' xs
 | [],_,_,_=>by rw [Uf,Uf]
 | s::r,K,K',h=>by rw [Uf,Uf,Zfq s h,Z0l r h]
theorem MN:∀(b:Za) {K K':LI},(∀z,z∈K↔z∈K')->Wv ds K b=Wv ds K' b
 | .mk steps result,K,K',h=>by rw [Wv,Wv,Z0l steps h]
end
end
theorem Fk:∀xs:List Z7,YV xs<=xs.length
 | []=>Xa _
 | s::r=>by have:=Fk r;rw [YV];split<;>simp<;>omega
section
variable {f:Z7->Z7} (hop:∀s,(f s).op=s.op) (hin:∀s,(f s).into=s.into) (har:∀s,(f s).args=s.args)
include hop
theorem Mf:∀xs:List Z7,YV (xs.map f)=YV xs
 | []=>rfl
 | s::r=>by rw [Tw,YV,YV,hop,Mf r]
include har
theorem NO {op x:Int}:∀(xs:List Z7) (k:Int),Wd op x (xs.map f) k=Wd op x xs k
 | [],_=>rfl
 | s::r,k=>by rw [Tw,Wd,Wd,hop,har,NO r]
theorem Ze4 (xs:List Z7) (x:Int):Vy (xs.map f) x=Vy xs x:=by rw [Vy,Mf hop,<-List.map_take,NO hop har,Vy]
include hin
theorem O6 {many:Nat}:∀(xs:List Z7) (k:Int),Wx many (xs.map f) k=Wx many xs k
 | [],_=>rfl
 | s::r,k=>by
  have e:KE many (f s)↔KE many s:=by rw [KE,KE,hop,hin,har]
  rw [Tw,Wx,Wx,O6 r]
  by_cases h:KE many s
  ·rw [Zb h,Zb (e.2 h)]
  ·rw [Z5 h,Z5 (fun z=>h (e.1 z))]
theorem Z4w (xs:List Z7) (many:Nat):WD (xs.map f) many=WD xs many:=by rw [WD,Mf hop,<-List.map_drop,O6 hop hin har,WD]
end
theorem NN {op x:Int}:∀{xs:List Z7} {k:Int},¬Wd op x xs k<0->0<=k->k<=Wd op x xs k/\Wd op x xs k<k+xs.length/\∃s,xs[(Wd op x xs k-k).toNat]? = some s/\s.op=op/\gI s.args 0=x
 | [],k,h,_=>by simp [Wd] at h
 | s::r,k,h,hk=>by
  rw [Wd] at h ⊢
  split
  ·rename_i q
   refine ⟨Int.le_refl _,by rw [Yq];omega,s,?_,q⟩
   rw [Int.sub_self];rfl
  ·rename_i q
   rw [Z5 q] at h
   obtain ⟨h1,h2,t,h3,h4⟩:=NN (xs:=r) (k:=k+1) h om
   refine ⟨by omega,by rw [Yq];omega,t,?_,h4⟩
   rw [show (Wd op x r (k+1)-k).toNat=(Wd op x r (k+1)-(k+1)).toNat+1 by omega,List.getElem?_cons_succ]
   exact h3
theorem O5 {many:Nat}:∀{xs:List Z7} {k:Int},¬Wx many xs k<0->0<=k->k<=Wx many xs k/\Wx many xs k<k+xs.length/\∃s,xs[(Wx many xs k-k).toNat]? = some s/\KE many s
 | [],k,h,_=>by simp [Wx] at h
 | s::r,k,h,hk=>by
  rw [Wx] at h ⊢
  split
  ·rename_i q
   refine ⟨Int.le_refl _,by rw [Yq];omega,s,?_,q⟩
   rw [Int.sub_self];rfl
  ·rename_i q
   rw [Z5 q] at h
   obtain ⟨h1,h2,t,h3,h4⟩:=O5 (xs:=r) (k:=k+1) h om
   refine ⟨by omega,by rw [Yq];omega,t,?_,h4⟩
   rw [show (Wx many r (k+1)-k).toNat=(Wx many r (k+1)-(k+1)).toNat+1 by omega,List.getElem?_cons_succ]
   exact h3
theorem Ed {xs:List Z7} {x:Int} (h:¬Vy xs x<0):0<=Vy xs x/\Vy xs x<YV xs/\∃s,xs[(Vy xs x).toNat]? = some s/\s.op=16/\gI s.args 0=x:=by
 obtain ⟨h1,h2,s,h3,h4⟩:=NN h (Int.le_refl 0)
 have hl:=Fk xs
 rw [W1,VH hl] at h2
 have h2':Vy xs x<YV xs:=by unfold Vy;omega
 have h1':0<=Vy xs x:=h1
 refine ⟨h1',h2',s,?_,h4⟩
 rw [Int.sub_zero] at h3
 have h5:(Vy xs x).toNat<YV xs:=by omega
 rwa [show Wd 16 x (xs.take (YV xs)) 0=Vy xs x from rfl,List.getElem?_take_of_lt h5] at h3
theorem Ai {xs:List Z7} {many:Nat} (h:¬WD xs many<0):(YV xs:Int)<=WD xs many/\WD xs many<xs.length/\∃s,xs[(WD xs many).toNat]? = some s/\KE many s/\BR xs (WD xs many)=s:=by
 obtain ⟨h1,h2,s,h3,h4⟩:=O5 h om
 have hl:=Fk xs
 rw [AH] at h2
 have h1':(YV xs:Int)<=WD xs many:=h1
 have h2':WD xs many<xs.length:=by unfold WD;omega
 rw [EC,show Wx many (xs.drop (YV xs)) (YV xs)=WD xs many from rfl,show YV xs+(WD xs many-(YV xs:Int)).toNat=(WD xs many).toNat by omega] at h3
 exact ⟨h1',h2',s,h3,h4,by rw [BR,h3];rfl⟩
theorem Zf2 {f:Z7->Z7} (hop:∀s,(f s).op=s.op) (hin:∀s,(f s).into=s.into) (har:∀s,(f s).args=s.args) (hc:∀x,f (Zx 17 x)=Zx 17 x) (hi:∀v s,f (Qr v s)=Qr v (f s)) (xs:List Z7) (x:Int) (many:Nat) :
  VP (xs.map f) x many=(VP xs x many).map f:=by
 rw [VP,Ze4 hop har,Z4w hop hin har,VP]
 split
 ·rfl
 ·rename_i hq
  obtain ⟨_,_,s,h3,_,h5⟩:=Ai (fun z=>hq (.inr z))
  have e:BR (xs.map f) (WD xs many)=f (BR xs (WD xs many)):=by rw [BR,Ky,h3,h5];rfl
  rw [e,List.map_set,List.map_set,hc,hi]
theorem Z0h {ds:List Zf} {K:LI} {b:Za} {x:Int} {many:Nat}:Wv ds K (VV b x many)=VV (Wv ds K b) x many:=by
 rw [VV,Wv,VV,HY,HZ,HZ]
 show Za.mk _ _=Za.mk (VP (b.steps.map (Tu ds K)) x many) b.result
 rw [Zf2 (f:=Tu ds K) (fun s=>by rw [AB];rfl) (fun s=>by rw [AB];rfl) (fun s=>by rw [AB];rfl) (fun x=>by rw [AB];rfl) (fun v s=>by rw [AB,AB];rfl)]
structure CB (c:LI) (q:Int):Prop where
 len:c.length=4
 bd:∀x∈c,0<=x/\x<=q
mutual
def Dd:Z7->Prop
 | .mk op _ _ _ kids=>op≠17/\C2 kids
def C2:List Za->Prop
 | []=>True
 | b::r=>Kk b/\C2 r
def C3:List Z7->Prop
 | []=>True
 | s::r=>Dd s/\C3 r
def Kk:Za->Prop
 | .mk steps _=>C3 steps
end
theorem E8 (s:Z7):Dd s↔s.op≠17/\C2 s.kids:=by cases s;rw [Dd];rfl
theorem Fo (b:Za):Kk b↔C3 b.steps:=by cases b;rw [Kk];rfl
theorem Fp:∀{xs:List Z7},C3 xs↔∀s∈xs,Dd s
 | []=>by simp [C3]
 | s::r=>by rw [C3,Fp];simp
theorem HB:∀{xs:List Za},C2 xs↔∀s∈xs,Kk s
 | []=>by simp [C2]
 | s::r=>by rw [C2,HB];simp
theorem N6:∀{xs:List Z7} {i:Nat} {s:Z7} (t:Z7),xs[i]? = some s->Yy (xs.set i t)+s.sz=Yy xs+t.sz
 | [],_,_,_,h=>by simp at h
 | x::r,0,s,t,h=>by simp at h;subst h;rw [List.set_cons_zero,Yy,Yy];omega
 | x::r,i+1,s,t,h=>by
  have:=N6 (xs:=r) (i:=i) t (by simpa using h)
  rw [List.set_cons_succ,Yy,Yy];omega
theorem Zbu (v:Int) (s:Z7):(Qr v s).sz=s.sz:=by cases s;rw [Qr,Z7.sz,Z7.sz];rfl
theorem O8 {xs:List Z7} {x:Int} {many:Nat} (h:¬(Vy xs x<0∨WD xs many<0)):(Vy xs x).toNat<(WD xs many).toNat:=by
 obtain ⟨h1,h2,_⟩:=Ed (fun z=>h (.inl z))
 obtain ⟨h3,h4,_⟩:=Ai (fun z=>h (.inr z))
 omega
theorem FE {xs:List Z7} {x:Int} {many:Nat} (h:¬(Vy xs x<0∨WD xs many<0)) {t:Z7} {s:Z7} (hs:xs[(WD xs many).toNat]? = some s):(xs.set (Vy xs x).toNat t)[(WD xs many).toNat]? = some s:=by
 have:=O8 h
 rw [List.getElem?_set_ne om];exact hs
theorem SY {xs:List Z7} {x:Int} {many:Nat} (h:∀s∈xs,YP s.op=true->2<=s.sz):Yy (VP xs x many)<=Yy xs:=by
 rw [VP]
 split
 ·exact Xa _
 ·rename_i hq
  obtain ⟨_,_,s,h3,h4,_⟩:=Ed (fun z=>hq (.inl z))
  obtain ⟨_,_,t,h5,_,h6⟩:=Ai (fun z=>hq (.inr z))
  have e1:=N6 (Zx 17 x) h3
  have e2:=N6 (Qr (1+x) (BR xs (WD xs many))) (FE hq (t:=Zx 17 x) h5)
  have h7:=h s (Y1 h3) (by rw [h4];rfl)
  rw [Gv] at e1
  rw [Zbu,h6] at e2
  rw [h6]
  omega
section
variable {ds:List Zf}
theorem Zjl {v:Int} {s:Z7} (h:wS ds s) (h6:s.op=6):wS ds (Qr v s):=by
 obtain ⟨h1,h2,h3,h4⟩:=(JZ s).1 h
 exact (JZ _).2 ⟨h1,fun hc=>absurd hc (by show ¬YP s.op=true;rw [h6];decide),h3,h4⟩
theorem Zji {v:Int}:wS ds (Zx 17 v):=(JZ _).2 ⟨rfl,fun _=>⟨rfl,rfl,rfl,v,rfl⟩,fun e=>absurd e (show (17:Int)≠8 by decide),True.intro⟩
theorem Zjh {xs:List Z7} {x:Int} {many:Nat} (h:QY ds xs):QY ds (VP xs x many):=by
 rw [VP]
 split
 ·exact h
 ·rename_i hq
  obtain ⟨_,_,t,h5,h7,h6⟩:=Ai (fun z=>hq (.inr z))
  rw [Bt]
  intro s hs
  rcases List.mem_or_eq_of_mem_set hs with hs|rfl
  ·rcases List.mem_or_eq_of_mem_set hs with hs|rfl
   ·exact Bt.1 h s hs
   ·exact Zji
  ·rw [h6];exact Zjl (Bt.1 h t (Y1 h5)) h7.1.1
theorem Zjg {b:Za} {x:Int} {many:Nat} (h:wB ds b):wB ds (VV b x many):=by rw [VV,Ju];exact Zjh ((Ju b).1 h)
variable (hd:Xt ds)
mutual
theorem Zfr:∀(s:Z7) {K:LI},wS ds s->(Tu ds K s).sz<=s.sz
 | .mk op num into args kids,K,h=>by
  have:=Z0k kids (K:=K) (op:=op) (num:=num) (args:=args) (k:=0) h.2.2.2
  rw [Tu,Z7.sz,Z7.sz];omega
theorem Z0k:∀(bs:List Za) {K:LI} {op num:Int} {args:LI} {k:Nat},Jv ds bs->YU (U3 ds K op num args bs k)<=YU bs
 | [],_,_,_,_,_,_=>Xa _
 | b::r,K,op,num,args,k,h=>by
  have h2:=Z0k r (K:=K) (op:=op) (num:=num) (args:=args) (k:=k+1) h.2
  have key:∀K2:LI,(VV (Wv ds K2 b) (gI args 0) (WA ds num k).length).sz<=b.sz:=fun K2=>by
   have h1:=MO b (K:=K2) h.1
   have h3:=SY (xs:=(Wv ds K2 b).steps) (x:=gI args 0) (many:=(WA ds num k).length) (by
    rw [HY,HZ]
    intro s hs hc
    obtain ⟨t,ht,rfl⟩:=XF.1 hs
    rw [AB] at hc ⊢
    obtain ⟨_,_,a,ha⟩:=Ip (Bt.1 ((Ju b).1 h.1) t ht) hc
    rw [Z7.sz,ha];simp)
   rw [VV,Za.sz]
   rw [Za.sz_eq] at h1
   omega
  rw [U3,YU,YU]
  split
  ·have:=key (if Vy b.steps (gI args 0)<0∨WD b.steps (WA ds num k).length<0 then K else gI args 0::K)
   omega
  ·have:=MO b (K:=K) h.1
   omega
theorem Z0n:∀(xs:List Z7) {K:LI},QY ds xs->Yy (Uf ds K xs)<=Yy xs
 | [],_,_=>Xa _
 | s::r,K,h=>by
  have h1:=Zfr s (K:=K) h.1
  have h2:=Z0n r (K:=K) h.2
  rw [Uf,Yy,Yy];omega
theorem MO:∀(b:Za) {K:LI},wB ds b->(Wv ds K b).sz<=b.sz
 | .mk steps result,K,h=>by
  have:=Z0n steps (K:=K) h
  rw [Wv,Za.sz,Za.sz];omega
end
end
theorem Mg:∀{xs:List Z7} {i:Nat} {s t:Z7},xs[i]? = some s->YP t.op=YP s.op->YV (xs.set i t)=YV xs
 | [],_,_,_,h,_=>by simp at h
 | x::r,0,s,t,h,e=>by simp at h;subst h;rw [List.set_cons_zero,YV,YV,e]
 | x::r,i+1,s,t,h,e=>by
  rw [List.set_cons_succ,YV,YV,Mg (xs:=r) (i:=i) (by simpa using h) e]
theorem Zcj {xs:List Z7} {x:Int} {many:Nat}:YV (VP xs x many)=YV xs:=by
 rw [VP]
 split
 ·rfl
 ·rename_i hq
  obtain ⟨_,_,s,h3,h4,_⟩:=Ed (fun z=>hq (.inl z))
  obtain ⟨_,_,t,h5,_,h6⟩:=Ai (fun z=>hq (.inr z))
  rw [Mg (FE hq (t:=Zx 17 x) h5) (by rw [h6];rfl),Mg h3 (by rw [h4];rfl)]
theorem NQ {op x:Int}:∀{xs:List Z7} {k:Int},(∀s∈xs,s.op≠op)->Wd op x xs k=-1
 | [],_,_=>rfl
 | s::r,k,h=>by
  rw [Wd,Z5 (fun z=>h s (Xo ..) z.1)]
  exact NQ fun t ht=>h t (XD _ ht)
theorem NR {op x:Int}:∀{xs:List Z7} {k:Int},0<=k->(∃s∈xs,s.op=op/\gI s.args 0=x)->0<=Wd op x xs k
 | [],_,_,h=>by obtain ⟨s,hs,_⟩:=h;cases hs
 | s::r,k,hk,h=>by
  rw [Wd]
  split
  ·exact hk
  ·rename_i q
   obtain ⟨t,ht,h1⟩:=h
   rcases YI.1 ht with rfl|ht
   ·exact absurd h1 q
   ·exact NR om ⟨t,ht,h1⟩
theorem Z2f {xs:List Z7} {x:Int} {many:Nat} (hn:C3 xs):0<=Wd 17 x ((VP xs x many).take (YV (VP xs x many))) 0↔¬(Vy xs x<0∨WD xs many<0):=by
 rw [Zcj]
 constructor
 ·intro h hq
  rw [VP,Zb hq,NQ (fun s hs=>((E8 s).1 (Fp.1 hn s (K0 hs))).1)] at h
  omega
 ·intro hq
  obtain ⟨h1,h2,s,h3,h4,_⟩:=Ed (fun z=>hq (.inl z))
  have hap:=O8 hq
  refine NR (Int.le_refl 0) ⟨Zx 17 x,?_,rfl,rfl⟩
  rw [VP,Z5 hq]
  refine Y1 (i:=(Vy xs x).toNat) ?_
  rw [List.getElem?_take_of_lt om,List.getElem?_set_ne om,List.getElem?_set_self (X4.1 h3).1]
def C4 (b:Za):Prop:=∀s∈b.steps,C2 s.kids
theorem Dc {b:Za} (h:Kk b):C4 b:=fun s hs=>((E8 s).1 (Fp.1 ((Fo b).1 h) s hs)).2
theorem Zdc {b:Za} {k j:Nat} {s:Z7} {c:Za} (h:C4 b) (hs:b.steps[k]? = some s) (hc:s.kids[j]? = some c):Kk c:=HB.1 (h s (Y1 hs)) c (Y1 hc)
theorem RU {b:Za} {x:Int} {many:Nat} (h:Kk b):C4 (VV b x many):=by
 intro s hs
 have hs:s∈VP b.steps x many:=hs
 rw [VP] at hs
 split at hs
 ·exact Dc h s hs
 ·rename_i hq
  obtain ⟨_,_,t,h5,_,h6⟩:=Ai (fun z=>hq (.inr z))
  rcases List.mem_or_eq_of_mem_set hs with hs|rfl
  ·rcases List.mem_or_eq_of_mem_set hs with hs|rfl
   ·exact Dc h s hs
   ·exact True.intro
  ·rw [h6];exact Dc h t (Y1 h5)
theorem Zf1 {ds:List Zf} {b:Za} {x:Int} {many:Nat} (h:wB ds b):(VV b x many).sz<=b.sz:=by
 have:=SY (xs:=b.steps) (x:=x) (many:=many) fun s hs hc=>by
  have h7:=Iu ((Ju b).1 h) s hs hc
  rw [h7,Gv];omega
 rw [VV,Za.sz,b.sz_eq];omega
def Cc (ds:List Zf) (r:YD):YD:=⟨r.params,r.lent,r.result,Wv ds [] r.body⟩
def Di (n:ZH):ZH:=⟨n.decls,n.routines.map (Cc n.decls)⟩
end Go.Abs
section
namespace Go.Abs
theorem Zch {xs:List Z7} {k:Nat} {s:Z7} {r:Nat} (h:xs[k]? = some s) (hs:YP s.op=true) (ha:k+YV (xs.drop k)=r):k+1+YV (xs.drop (k+1))=r:=by
 rw [Yj h,YV,Zb hs] at ha;omega
theorem Zci {xs:List Z7} {k:Nat} {s:Z7} {r:Nat} (h:xs[k]? = some s) (hs:¬YP s.op=true) (ha:k+YV (xs.drop k)=r):k=r:=by
 rw [Yj h,YV,Z5 hs] at ha;omega
theorem Zcg {xs:List Z7} {k:Nat} {r:Nat} (h:xs.length<=k) (ha:k+YV (xs.drop k)=r):k=r:=by
 rw [Xp h,YV] at ha;omega
theorem Z47 {op x:Int} {xs:List Z7} {k:Nat} {s:Z7} {r:Int} (h:xs[k]? = some s) (hs:s.op=op/\gI s.args 0=x) (ha:Wd op x (xs.drop k) k=r):(k:Int)=r:=by
 rw [Yj h,Wd,Zb hs] at ha;exact ha
theorem NP {op x:Int} {xs:List Z7} {k:Nat} {s:Z7} {r:Int} (h:xs[k]? = some s) (hs:¬(s.op=op/\gI s.args 0=x)) (ha:Wd op x (xs.drop k) k=r):Wd op x (xs.drop (k+1)) ((k+1:Nat):Int)=r:=by
 rw [Yj h,Wd,Z5 hs] at ha;rw [<-ha];congr 1
theorem Z46 {op x:Int} {xs:List Z7} {k:Nat} {r:Int} (h:xs.length<=k) (ha:Wd op x (xs.drop k) k=r):-1=r:=by
 rw [Xp h,Wd] at ha;exact ha
theorem Z50 {many:Nat} {xs:List Z7} {k:Nat} {s:Z7} {r:Int} (h:xs[k]? = some s) (hs:KE many s) (ha:Wx many (xs.drop k) k=r):(k:Int)=r:=by
 rw [Yj h,Wx,Zb hs] at ha;exact ha
theorem Z4z {many:Nat} {xs:List Z7} {k:Nat} {s:Z7} {r:Int} (h:xs[k]? = some s) (hs:¬KE many s) (ha:Wx many (xs.drop k) k=r):Wx many (xs.drop (k+1)) ((k+1:Nat):Int)=r:=by
 rw [Yj h,Wx,Z5 hs] at ha;rw [<-ha];congr 1
theorem Z4y {many:Nat} {xs:List Z7} {k:Nat} {r:Int} (h:xs.length<=k) (ha:Wx many (xs.drop k) k=r):-1=r:=by
 rw [Xp h,Wx] at ha;exact ha
theorem Zf3 {xs:List Z7} {x:Int} {many:Nat} (h:Vy xs x<0∨WD xs many<0):VP xs x many=xs:=Zb h
theorem Zf4 {xs:List Z7} {x:Int} {many:Nat} {s:Z7} (h:¬(Vy xs x<0∨WD xs many<0)) (hs:BR xs (WD xs many)=s):(xs.set (Vy xs x).toNat (Zx 17 x)).set (WD xs many).toNat (Qr (1+x) s)=VP xs x many:=by
 rw [VP,Z5 h,hs]
theorem DS (xs:List Z7):(Z8 (ZT xs)).length=xs.length*5:=by rw [UM _ (XK _)];simp
theorem LA (s:Z7) (r:List Z7):Z8 (ZT (s::r))=Wf s++Z8 (ZT r):=by rw [Ub,Ub];rfl
theorem Z8b {xs:List Z7} {k:Nat} {x:Z7} (h:xs[k]? = some x):Z8 (ZT (xs.take k))++Z8 [X5 x]=Z8 (ZT (xs.take (k+1))):=by
 rw [V1 h,VC,To,LA]
 have:Z8 (ZT [])=[]:=by rw [Ub];rfl
 rw [this];rfl
theorem P8 {xs:List Z7} {i:Nat} {s:Z7} (h:xs[i]? = some s):Z8 (ZT xs)=Z8 (ZT (xs.take i))++(Wf s++Z8 (ZT (xs.drop (i+1)))):=by
 have hi:=(X4.1 h).1
 have e:xs=xs.take i++(s::xs.drop (i+1)):=by rw [<-Yj h,TO]
 conv=>lhs;rw [e,VC,To,LA]
theorem P7 {xs:List Z7} {i:Nat} {s t:Z7} (h:xs[i]? = some s):(Z8 (ZT xs)).take (i*5)++Wf t++(Z8 (ZT xs)).drop (i*5+(Wf t).length)=Z8 (ZT (xs.set i t)):=by
 have hi:=(X4.1 h).1
 have hl:(Z8 (ZT (xs.take i))).length=i*5:=by rw [DS,W1,VH om]
 rw [P8 h,FG (xs:=Wf s) (ys:=Wf t) hl rfl]
 have e:xs.set i t=xs.take i++(t::xs.drop (i+1)):=by rw [EE,Zb hi]
 rw [e,VC,To,LA]
theorem Z8a {xs:List Z7} {i:Nat} {s:Z7} (h:xs[i]? = some s):((Z8 (ZT xs)).drop (i*5)).take (Wf s).length=Wf s:=by
 have hi:=(X4.1 h).1
 have hl:(Z8 (ZT (xs.take i))).length=i*5:=by rw [DS,W1,VH om]
 rw [P8 h]
 exact HV hl
structure J3 (xs:LI) (v:Int) (k:Nat) (acc:LI) (d:Bool):Prop where
 len:acc.length<=k+(if d=true then 1 else 0)
 sub:∀z∈acc,z∈xs.take k∨z=v
 all:∀z∈xs.take k,z∈acc
 done:d=true->v∈acc
theorem J3.zero (xs:LI) (v:Int):J3 xs v 0 [] false:=⟨by simp,by simp,by simp,by simp⟩
theorem J3.step {xs:LI} {v:Int} {k:Nat} {acc:LI} {d:Bool} {x:Int} (h:J3 xs v k acc d) (hx:xs[k]? = some x) {acc2:LI} {d2:Bool}
  (hc:(acc2=acc++[x]/\d2=d)∨(acc2=(acc++[v])++[x]/\d2=true/\¬d=true)∨(acc2=acc++[x]/\d2=true/\x=v)):J3 xs v (k+1) acc2 d2:=by
 obtain ⟨h1,h2,h3,h4⟩:=h
 have ht:∀z,z∈xs.take (k+1)↔z∈xs.take k∨z=x:=fun z=>by rw [V1 hx];simp
 rcases hc with ⟨rfl,rfl⟩|⟨rfl,rfl,hd⟩|⟨rfl,rfl,rfl⟩
 ·refine ⟨by simp;omega,fun z hz=>?_,fun z hz=>?_,fun q=>List.mem_append_left _ (h4 q)⟩
  ·rw [ht]
   rcases Xg.1 hz with hz|hz
   ·rcases h2 z hz with q|q
    ·exact .inl (.inl q)
    ·exact .inr q
   ·exact .inl (.inr (Xx.1 hz))
  ·rcases (ht z).1 hz with q|q
   ·exact List.mem_append_left _ (h3 z q)
   ·subst q;simp
 ·rw [Z5 hd] at h1
  refine ⟨by simp;omega,fun z hz=>?_,fun z hz=>?_,fun _=>by simp⟩
  ·rw [ht]
   simp only [Xg,Xx] at hz
   rcases hz with (hz|hz)|hz
   ·rcases h2 z hz with q|q
    ·exact .inl (.inl q)
    ·exact .inr q
   ·exact .inr hz
   ·exact .inl (.inr hz)
  ·rcases (ht z).1 hz with q|q
   ·exact List.mem_append_left _ (List.mem_append_left _ (h3 z q))
   ·subst q;simp
 ·refine ⟨by simp;split at h1<;>omega,fun z hz=>?_,fun z hz=>?_,fun _=>by simp⟩
  ·rw [ht]
   rcases Xg.1 hz with hz|hz
   ·rcases h2 z hz with q|q
    ·exact .inl (.inl q)
    ·exact .inr q
   ·exact .inl (.inr (Xx.1 hz))
  ·rcases (ht z).1 hz with q|q
   ·exact List.mem_append_left _ (h3 z q)
   ·subst q;simp
theorem J3.fin {xs:LI} {v:Int} {k:Nat} {acc:LI} {d:Bool} (h:J3 xs v k acc d) (hk:k=xs.length) :
  (d=true->acc.length<=xs.length+1/\∀z,z∈acc↔z∈xs∨z=v)/\(¬d=true->(acc++[v]).length<=xs.length+1/\∀z,z∈acc++[v]↔z∈xs∨z=v):=by
 obtain ⟨h1,h2,h3,h4⟩:=h
 subst hk
 rw [Ux] at h2 h3
 refine ⟨fun hd=>?_,fun hd=>?_⟩
 ·rw [Zb hd] at h1
  exact ⟨h1,fun z=>⟨h2 z,fun q=>q.elim (h3 z) fun e=>e▸h4 hd⟩⟩
 ·rw [Z5 hd] at h1
  refine ⟨by simp;omega,fun z=>?_⟩
  rw [Xg,Xx]
  exact ⟨fun q=>q.elim (h2 z) .inr,fun q=>q.elim (fun e=>.inl (h3 z e)) .inr⟩
end Go.Abs
namespace Go.Abs
theorem J3.go {xs:LI} {v:Int} {k:Nat} {acc:LI} {d:Bool} {x:Int} (h:J3 xs v k acc d) (hx:xs[k]? = some x) {acc2:LI} {d2:Bool}
  (hc:(acc2=acc/\d2=d)∨(acc2=acc++[v]/\d2=true/\¬d=true)∨(acc2=acc/\d2=true/\x=v)):J3 xs v (k+1) (acc2++[x]) d2:=by
 refine h.step hx ?_
 rcases hc with ⟨e1,e2⟩|⟨e1,e2,e3⟩|⟨e1,e2,e3⟩
 ·exact .inl ⟨by rw [e1],e2⟩
 ·exact .inr (.inl ⟨by rw [e1],e2,e3⟩)
 ·exact .inr (.inr ⟨by rw [e1],e2,e3⟩)
section
variable {ds:List Zf} {kept K2:LI} {op num x:Int} {args:LI} {j many:Nat} {kd:Za}
theorem Zfo (h8:op=8) (hx:gI args 0=x) (hk:¬x∈kept) (hm:(WA ds num j).length=many) (hq:¬(Vy kd.steps x<0∨WD kd.steps many<0)) (hK:∀z,z∈K2↔z∈kept∨z=x):Wv ds K2 (VV kd x many)=Q8 ds kept op num args j kd:=by
 subst hx hm
 have e:∀z,z∈K2↔z∈gI args 0::kept:=fun z=>by rw [hK z,YI];exact Or.comm
 rw [Q8,Zb ⟨h8,hk⟩,Hn,Z5 hq,Z0h,MN kd e]
theorem Zfp (h8:op=8) (hx:gI args 0=x) (hk:¬x∈kept) (hm:(WA ds num j).length=many) (hq:Vy kd.steps x<0∨WD kd.steps many<0):Wv ds kept (VV kd x many)=Q8 ds kept op num args j kd:=by
 subst hx hm
 rw [Q8,Zb ⟨h8,hk⟩,Hn,Zb hq,Z0h]
theorem Z0i (h:¬(op=8/\¬gI args 0∈kept)):Wv ds kept kd=Q8 ds kept op num args j kd:=by rw [Q8,Z5 h]
end
end Go.Abs
namespace Go.Abs
theorem Gs:∀{xs:List Za} {k:Nat} {b:Za},xs[k]? = some b->YU (xs.take k)+b.sz<=YU xs
 | [],_,_,h=>by simp at h
 | x::r,0,b,h=>by simp at h;subst h;simp [YU]
 | x::r,k+1,b,h=>by
  have:=Gs (xs:=r) (k:=k) (by simpa using h)
  rw [AI,YU,YU];omega
theorem IP {xs:List Za} {k:Nat} (h:xs.length<=k):YU (xs.take k)=YU xs:=by rw [Wg h]
end Go.Abs
end
namespace Go.Abs
theorem Z1v {xs:List Z7} {k:Nat} {s:Z7} (h:xs[k]? = some s):Yy (xs.drop k)=s.sz+Yy (xs.drop (k+1)):=by rw [Yj h,Yy]
theorem Z1w (xs:List Z7) (k:Nat):Yy (xs.drop k)<=Yy xs:=by
 have h:=Yg Yy (TO k xs)
 rw [Qb] at h;omega
theorem Gr {xs:List Za} {k:Nat} {b:Za} (h:xs[k]? = some b):YU (xs.take (k+1))=YU (xs.take k)+b.sz:=by rw [V1 h,Gp,YU,YU];rfl
structure CL (ds:List Zf) (nf m:Nat) (xs:List Z7) (d z:Nat):Prop where
 fs:We ds nf m xs
 dn:Yu xs=d
 op:Q6 VI xs
 sz:Yy xs<=z
section
variable {ds:List Zf} {nf m d z:Nat} {xs:List Z7}
theorem CL.nil:CL ds nf m [] 0 0:=⟨True.intro,rfl,True.intro,Xa _⟩
theorem CL.len (h:CL ds nf m xs d z):xs.length<=z:=Vn (Jr xs) h.sz
theorem CL.le (h:CL ds nf m xs d z) {z2:Nat} (hz:z<=z2):CL ds nf m xs d z2:=⟨h.fs,h.dn,h.op,Vn h.sz hz⟩
theorem Z6y {op v:Int} (ho:op=14∨op=15) (hv:0<=v/\v<(m:Int)):fS ds nf m (Zx op v):=by
 rw [Zx,fS]
 exact ⟨.inr om,fun a ha=>by rw [Xx.1 ha];exact hv,fun _=>⟨rfl,rfl,rfl,v,rfl⟩,fun h=>by omega,fun h=>by omega,fun h=>by omega,fun h=>by omega,by omega,by omega,by simp,fun _=>rfl,True.intro⟩
theorem Oc {op:Int} (ho:op=14∨op=15):YP op=true:=by simp [YP];omega
theorem CL.cnt (h:CL ds nf m xs d z) {op v:Int} (ho:op=14∨op=15) (hv:0<=v/\v<((m+d:Nat):Int)):CL ds nf m (xs++[Zx op v]) d (z+2):=by
 have hc:YP (Zx op v).op=true:=Oc ho
 refine ⟨GN h.fs (by rw [h.dn];exact Z6y ho hv),?_,HH h.op ?_,?_⟩
 ·rw [Th,h.dn,Yu,Zb hc];rfl
 ·rw [Fu];exact ⟨by show op<=15;omega,True.intro⟩
 ·have:=h.sz
  have e:(Zx op v).sz=2:=rfl
  rw [Qb,Yy,e,Yy];omega
theorem CL.cnts {op:Int} (ho:op=14∨op=15):∀{vs:LI} {xs:List Z7} {z:Nat},CL ds nf m xs d z->(∀v∈vs,0<=v/\v<((m+d:Nat):Int))->CL ds nf m (xs++vs.map (Zx op)) d (z+2*vs.length)
 | [],xs,z,h,_=>by simpa using h
 | v::r,xs,z,h,hv=>by
  have h1:=CL.cnts ho (vs:=r) (h.cnt ho (hv v (Xo ..))) fun x hx=>hv x (XD _ hx)
  rw [Tw,show xs++Zx op v::r.map (Zx op)=xs++[Zx op v]++r.map (Zx op) by simp]
  exact h1.le (by rw [Yq];omega)
theorem CL.one (h:CL ds nf m xs d z) {s:Z7} (hs:fS ds nf (m+d) s) (hc:YP s.op=false) (ho:Km VI s):CL ds nf m (xs++[s]) (d+1) (z+s.sz):=by
 refine ⟨GN h.fs (by rw [h.dn];exact hs),by rw [EO hc,h.dn],HH h.op ho,?_⟩
 have:=h.sz
 rw [Qb,Yy,Yy];omega
theorem CL.app (h:CL ds nf m xs d z) {ys:List Z7} {d2 z2:Nat} (h2:CL ds nf (m+d) ys d2 z2):CL ds nf m (xs++ys) (d+d2) (z+z2):=by
 refine ⟨Aq.2 ⟨h.fs,by rw [h.dn];exact h2.fs⟩,by rw [Th,h.dn,h2.dn],HG.2 ⟨h.op,h2.op⟩,?_⟩
 have:=h.sz
 have:=h2.sz
 rw [Qb];omega
end
structure KB (ds:List Zf) (nf m:Nat) (b:Za) (z:Nat):Prop where
 fb:fB ds nf m b
 op:Vx VI b
 sz:b.sz<=z
section
variable {ds:List Zf} {nf m d z:Nat} {xs:List Z7}
theorem CL.block (h:CL ds nf m xs d z) {r:Int} (hr:0<=r/\r<((m+d:Nat):Int)):KB ds nf m ⟨xs,r⟩ (1+z):=by
 refine ⟨by rw [fB,h.dn];exact ⟨h.fs,hr⟩,by rw [Vx];exact h.op,?_⟩
 have:=h.sz
 rw [Za.sz];omega
theorem KB.le {b:Za} (h:KB ds nf m b z) {z2:Nat} (hz:z<=z2):KB ds nf m b z2:=⟨h.fb,h.op,Vn h.sz hz⟩
theorem KB.cl {b:Za} (h:KB ds nf m b z):CL ds nf m b.steps (Yu b.steps) (z-1)/\0<=b.result/\b.result<((m+Yu b.steps:Nat):Int):=by
 obtain ⟨h1,h2⟩:=(Ja b).1 h.fb
 refine ⟨⟨h1,rfl,(HF b).1 h.op,?_⟩,h2⟩
 have:=h.sz
 have:=b.sz_eq
 omega
theorem KB.put {b:Za} (h:KB ds nf m b z) {as1 bs:LI} (ha:∀v∈as1,0<=v/\v<(m:Int)) (hb:∀v∈bs,0<=v/\v<(m:Int)):KB ds nf m ⟨as1.map (Zx 14)++bs.map (Zx 15)++b.steps,b.result⟩ (z+2*as1.length+2*bs.length):=by
 obtain ⟨h1,h2⟩:=h.cl
 have q1:CL ds nf m ([]++as1.map (Zx 14)) 0 (0+2*as1.length):=CL.nil.cnts (.inl rfl) ha
 have q2:=(q1.cnts (op:=15) (.inr rfl) hb).app h1
 have:=h.sz
 have:=b.sz_eq
 rw [Co,Wh] at q2
 exact (q2.block h2).le om
end
structure KK (ds:List Zf) (nf:Nat) (sc:Nat->Nat) (ks:List Za) (z:Nat):Prop where
 fb:Uc ds nf sc 0 ks
 op:Kl VI ks
 sz:YU ks<=z
section
variable {ds:List Zf} {nf m z:Nat} {sc:Nat->Nat}
theorem KK.nil:KK ds nf sc [] 0:=⟨True.intro,True.intro,Xa _⟩
theorem KK.snoc {ks:List Za} {b:Za} {j z2:Nat} (h:KK ds nf sc ks z) (hj:ks.length=j) (hb:KB ds nf (sc j) b z2):KK ds nf sc (ks++[b]) (z+z2):=by
 refine ⟨OF h.fb (by rw [hj];exact hb.fb),S1 h.op hb.op,?_⟩
 have:=h.sz
 have:=hb.sz
 rw [Gp];simp only [YU];omega
theorem KK.le {ks:List Za} (h:KK ds nf sc ks z) {z2:Nat} (hz:z<=z2):KK ds nf sc ks z2:=⟨h.fb,h.op,Vn h.sz hz⟩
theorem OH {s:Z7} {ks:List Za} {into:Int} (h:FS ds nf m s) (h11:s.op<=11) (hl:ks.length=s.kids.length) (hi:0<=into/\into<=m) (hk:KK ds nf (V0 ds s.op s.num m) ks z):fS ds nf m ⟨s.op,s.num,into,s.args,ks⟩/\Km VI ⟨s.op,s.num,into,s.args,ks⟩/\(Z7.mk s.op s.num into s.args ks).sz<=5+z:=by
 refine ⟨?_,?_,?_⟩
 ·rw [fS]
  refine ⟨h.op,h.args,fun q=>by omega,fun q=>by rw [hl];exact h.k7 q,fun q=>by rw [hl];exact h.k8 q,h.one,h.call,h.num,hi,h.alen,fun q=>?_,hk.fb⟩
  have:=h.kn q
  rw [this] at hl
  exact List.eq_nil_of_length_eq_zero hl
 ·rw [Km];exact ⟨by show s.op<=15;omega,hk.op⟩
 ·have:=h.alen
  have:=hk.sz
  rw [Z7.sz];omega
end
structure KT (ds:List Zf) (nf m:Nat) (st:Z7) (z:Nat):Prop where
 fs:fS ds nf m st
 cb:YP st.op=false
 op:Km VI st
 sz:st.sz<=z
theorem KT.of {ds:List Zf} {nf m z:Nat} {s:Z7} {ks:List Za} {into:Int} (h:FS ds nf m s) (h11:s.op<=11) (hl:ks.length=s.kids.length) (hi:0<=into/\into<=m) (hk:KK ds nf (V0 ds s.op s.num m) ks z):KT ds nf m ⟨s.op,s.num,into,s.args,ks⟩ (5+z):=by
 obtain ⟨h1,h2,h3⟩:=OH h h11 hl hi hk
 exact ⟨h1,by show YP s.op=false;simp [YP];omega,h2,h3⟩
theorem CL.kt {ds:List Zf} {nf m d z z2:Nat} {xs:List Z7} {st:Z7} (h:CL ds nf m xs d z) (hs:KT ds nf (m+d) st z2):CL ds nf m (xs++[st]) (d+1) (z+z2):=(h.one hs.fs hs.cb hs.op).le (by have:=hs.sz;omega)
theorem FS.few {ds:List Zf} {nf m:Nat} {s:Z7} (h:FS ds nf m s) (hd:Xt ds):s.kids.length<=3:=by
 by_cases h7:s.op=7
 ·have:=h.k7 h7;omega
 ·by_cases h8:s.op=8
  ·have:=h.k8 h8
   have:=E9 hd s.num
   omega
  ·rw [h.kn ⟨h7,h8⟩];simp
theorem RF.lend {ds:List Zf} {nf q:Nat} {p:Int->Prop} {r:YD} {l:LI} (h:RF ds nf q p r) (h1:l.length<=3) (h2:∀v∈l,0<=v/\v<(r.params.length:Int)):RF ds nf q p ⟨r.params,l,r.result,r.body⟩:=⟨h.sig,⟨h1,h2⟩,h.body,h.op⟩
theorem RF.with {ds:List Zf} {nf q q2:Nat} {p p2:Int->Prop} {r:YD} {b:Za} (h:RF ds nf q p r) (h1:fB ds nf r.params.length b) (h2:b.sz<=q2) (h3:Vx p2 b):RF ds nf q2 p2 ⟨r.params,r.lent,r.result,b⟩:=⟨h.sig,h.lent,⟨h1,h2⟩,h3⟩
theorem Za.eta (b:Za):Za.mk b.steps b.result=b:=by cases b;rfl
theorem LC.at {n:ZH} {k:Nat} {xs:List LI} {i:Nat} {l:LI} {r:YD} (h:LC n k xs) (hl:xs[i]? = some l) (hr:n.routines[i]? = some r):l.length<=3/\∀v∈l,0<=v/\v<(r.params.length:Int):=⟨(h.ok i l hl).1,(h.ok i l hl).2 r hr⟩
theorem L8:∀{xs:List Z7},(∀s∈xs,Km WS s)->∀k,k<=xs.length->Yu (xs.take k)=k
 | _,_,0,_=>rfl
 | [],_,k+1,h=>absurd h (by simp)
 | x::r,h,k+1,hk=>by
  have h1:=((Fu x).1 (h x (Xo ..))).1
  have hc:YP x.op=false:=by have:x.op<=11:=h1;simp [YP];omega
  rw [AI,Yu,Z5 (by rw [hc];simp),L8 (fun s hs=>h s (XD _ hs)) k (by simpa using hk)]
  omega
theorem KB.put1 {ds:List Zf} {nf m z:Nat} {b:Za} (h:KB ds nf m b z) {op:Int} (ho:op=14∨op=15) {as1:LI} (ha:∀v∈as1,0<=v/\v<(m:Int)):KB ds nf m ⟨as1.map (Zx op)++b.steps,b.result⟩ (z+2*as1.length):=by
 obtain ⟨h1,h2⟩:=h.cl
 have q1:CL ds nf m ([]++as1.map (Zx op)) 0 (0+2*as1.length):=CL.nil.cnts ho ha
 have q2:=q1.app h1
 have:=h.sz
 have:=b.sz_eq
 rw [Co,Wh] at q2
 exact (q2.block h2).le om
theorem FO.fin {n:ZH} {rs:List YD} {q q2:Nat} {p:Int->Prop} (h:FN n q2) (e:rs.length=n.routines.length) (hr:∀r∈rs,RF n.decls n.routines.length q p r):FO ⟨n.decls,rs⟩ q p/\rs.length=n.routines.length:=
 ⟨FO.all h.decls (by show 1<=rs.length/\rs.length<=4;rw [e];exact h.len) (by show ∀r∈rs,RF n.decls rs.length q p r;rw [e];exact hr),e⟩
theorem KT.le {ds:List Zf} {nf m z z2:Nat} {st:Z7} (h:KT ds nf m st z) (hz:z<=z2):KT ds nf m st z2:=⟨h.fs,h.cb,h.op,Vn h.sz hz⟩
theorem KB.len {ds:List Zf} {nf m z:Nat} {b:Za} (h:KB ds nf m b z):b.steps.length<=z:=by
 have:=h.sz
 have:=b.sz_eq
 have:=Jr b.steps
 omega
def VR:List Z7->Int->Nat
 | [],_=>0
 | s::r,v=>(if gI s.args 0=v then 1 else 0)+VR r v
def VE (rn:List Z7):LI->Nat
 | []=>0
 | v::r=>VR rn v+VE rn r
theorem IW:∀(xs ys:List Z7) (v:Int),VR (xs++ys) v=VR xs v+VR ys v
 | [],ys,v=>by simp [VR]
 | x::r,ys,v=>by rw [KZ,VR,VR,IW r];omega
theorem Z4u {xs:List Z7} {k:Nat} {s:Z7} (h:xs[k]? = some s) (v:Int):VR (xs.take (k+1)) v=VR (xs.take k) v+(if gI s.args 0=v then 1 else 0):=by
 rw [V1 h,IW,VR,VR];omega
theorem O3:∀(xs:List Z7) (v:Int),VR xs v<=xs.length
 | [],v=>Xa _
 | x::r,v=>by have:=O3 r v;rw [VR,Yq];split<;>omega
theorem Z4v (xs:List Z7) (k:Nat) (v:Int):VR (xs.take k) v<=VR xs v:=by
 have h:=Yg (VR · v) (TO k xs)
 simp only [IW] at h;omega
theorem N8 (rn:List Z7):∀xs ys:LI,VE rn (xs++ys)=VE rn xs+VE rn ys
 | [],ys=>by simp [VE]
 | x::r,ys=>by rw [KZ,VE,VE,N8 rn r];omega
theorem Zih {rn:List Z7} {xs:LI} {k:Nat} {v:Int} (h:xs[k]? = some v):VE rn (xs.take (k+1))=VE rn (xs.take k)+VR rn v:=by
 rw [V1 h,N8,VE,VE];rfl
theorem Z25 (s:Z7) (r:List Z7):∀vs:LI,Cr vs->VE (s::r) vs<=1+VE r vs/\(¬gI s.args 0∈vs->VE (s::r) vs=VE r vs)
 | [],_=>by simp [VE]
 | v::vs,h=>by
  obtain ⟨h1,h2⟩:=WR.1 h
  obtain ⟨q1,q2⟩:=Z25 s r vs h2
  rw [VE,VE,VR]
  by_cases e:gI s.args 0=v
  ·have hn:¬gI s.args 0∈vs:=fun z=>by have:=h1 _ z;omega
   rw [Zb e,q2 hn]
   exact ⟨by omega,fun z=>absurd (YI.2 (.inl e)) z⟩
  ·rw [Z5 e]
   exact ⟨by omega,fun z=>by rw [q2 fun y=>z (XD _ y)];omega⟩
theorem Z26:∀(rn:List Z7) {vs:LI},Cr vs->VE rn vs<=rn.length
 | [],vs,_=>by
  have:∀xs:LI,VE [] xs=0:=fun xs=>by
   induction xs with
   | nil=>rfl
   | cons x r ih=>rw [VE,ih];rfl
  rw [this];exact QB _
 | s::r,vs,h=>by
  have h1:=(Z25 s r vs h).1
  have h2:=Z26 r h
  rw [Yq];omega
theorem N9 (rn:List Z7) (xs:LI) (k:Nat):VE rn (xs.take k)<=VE rn xs:=by
 have h:=Yg (VE rn) (TO k xs)
 rw [N8] at h;omega
def Ny (m:Nat) (rn:List Z7):Prop:=∀s∈rn,∃a,s.args=[a]/\0<=a/\a<(m:Int)
theorem Oi {xs:List Z7} {k:Nat} {s:Z7} (h:xs[k]? = some s):Yu (xs.take (k+1))=Yu (xs.take k)+(if YP s.op=true then 0 else 1):=by rw [V1 h,Th,Yu,Yu];rfl
theorem KT.eq {ds:List Zf} {nf m z:Nat} {s:Z7} {ks:List Za} (h:FS ds nf m s) (h11:s.op<=11) (hl:ks.length=s.kids.length) (hk:KK ds nf (V0 ds s.op s.num m) ks z):KT ds nf m ⟨s.op,s.num,s.into,s.args,ks⟩ (1+s.args.length+z):=by
 obtain ⟨h1,h2,h3⟩:=OH h h11 hl h.into hk
 refine ⟨h1,by show YP s.op=false;simp [YP];omega,h2,?_⟩
 have:=hk.sz
 rw [Z7.sz];omega
theorem FS.pair {ds:List Zf} {nf m:Nat} {s:Z7} (h:FS ds nf m s) (hp:s.op=14∨s.op=15):(∃a,s.args=[a]/\0<=a/\a<(m:Int))/\s.sz=2/\YP s.op=true:=by
 obtain ⟨h1,h2,h3,a,h4⟩:=h.cnt om
 have h5:=h.args a (by rw [h4];exact Xx.2 rfl)
 refine ⟨⟨a,h4,h5⟩,?_,Oc hp⟩
 rw [s.sz_eq,h3,h4];rfl
theorem FS.not_pair {ds:List Zf} {nf m:Nat} {s:Z7} (h:FS ds nf m s) (hp:¬(s.op=14∨s.op=15)) (h15:VI s.op):s.op<=11/\YP s.op=false:=by
 have h1:s.op<=15:=h15
 have h2:=h.op
 exact ⟨by omega,by simp [YP];omega⟩
theorem CL.run {ds:List Zf} {nf m d z:Nat} {xs:List Z7} {D R:LI} {rn:List Z7} (h:CL ds nf m xs d z) (hr:Ny (m+d) rn) (hD:∀v∈D,∃s∈rn,s.args=[v]) (hR:∀v∈R,∃s∈rn,s.args=[v]):CL ds nf m (xs++(D.map (Zx 14)++R.map (Zx 15))) d (z+2*(D.length+R.length)):=by
 have key:∀(A:LI),(∀v∈A,∃s∈rn,s.args=[v])->∀v∈A,0<=v/\v<((m+d:Nat):Int):=fun A hA v hv=>by
  obtain ⟨s,hs,e⟩:=hA v hv
  obtain ⟨a,e2,e3⟩:=hr s hs
  rw [e] at e2
  cases e2
  exact e3
 have h2:=(h.cnts (op:=14) (.inl rfl) (key D hD)).cnts (op:=15) (.inr rfl) (key R hR)
 rw [<-Vf]
 exact h2.le om
def WP (xs:List Z7) (i:Nat) (s:Z7):List Z7:=xs.take i++[s]++xs.drop i
theorem HO {xs:List Z7} (i:Nat) (s:Z7):Yy (WP xs i s)=Yy xs+s.sz:=by
 have h:=Yg Yy (TO i xs)
 rw [Qb] at h
 rw [WP,Qb,Qb,Yy,Yy];omega
theorem Sn {xs:List Z7} {i:Nat} {s:Z7} (h:i<=xs.length):(WP xs i s).length=xs.length+1:=by
 simp [WP,VH h];omega
def Bb (b:Za) (i j:Nat) (v:Int):Za:=⟨WP (WP b.steps j (Zx 15 v)) i (Zx 14 v),b.result⟩
def withR (n:ZH) (f:Nat) (rt:YD) (b:Za):ZH:=⟨n.decls,n.routines.set f ⟨rt.params,rt.lent,rt.result,b⟩⟩
def Gg (n n2:ZH):Prop:=n2=n∨∃f rt i j v,n.routines[f]? = some rt/\i<=j/\j<=rt.body.steps.length/\0<=v/\v<((rt.params.length+Yu (rt.body.steps.take i):Nat):Int)/\n2=withR n f rt (Bb rt.body i j v)
theorem CL.put {ds:List Zf} {nf m:Nat} {xs:List Z7} {d z:Nat} (h:CL ds nf m xs d z) {i:Nat} {op v:Int} (ho:op=14∨op=15) (hv:0<=v/\v<((m+Yu (xs.take i):Nat):Int)):CL ds nf m (WP xs i (Zx op v)) d (z+2):=by
 have hs:=h.fs
 have hp:=h.op
 have e:=TO i xs
 rw [<-e] at hs hp
 rw [Aq] at hs
 rw [HG] at hp
 have h1:CL ds nf m (xs.take i) (Yu (xs.take i)) (Yy (xs.take i)):=⟨hs.1,rfl,hp.1,Xa _⟩
 have h2:CL ds nf (m+Yu (xs.take i)) (xs.drop i) (Yu (xs.drop i)) (Yy (xs.drop i)):=⟨hs.2,rfl,hp.2,Xa _⟩
 have h3:=(h1.cnt ho hv).app h2
 have e1:=Yg Yy e
 have e2:=Yg Yu e
 rw [Qb] at e1
 rw [Th,h.dn] at e2
 have:=h.sz
 rw [e2] at h3
 exact h3.le om
theorem So {xs:List Z7} {i j:Nat} {s:Z7} (h:i<=j) (hj:j<=xs.length):(WP xs j s).take i=xs.take i:=by
 rw [WP,Vf,List.take_append_of_le_length (by rw [W1];omega),List.take_take,VH h]
theorem Zai {ds:List Zf} {nf m z:Nat} {b:Za} (h:KB ds nf m b z) {i j:Nat} {v:Int} (hij:i<=j) (hj:j<=b.steps.length) (hv:0<=v/\v<((m+Yu (b.steps.take i):Nat):Int)):KB ds nf m (Bb b i j v) (z+4):=by
 obtain ⟨h1,h2⟩:=h.cl
 have hm:Yu (b.steps.take i)<=Yu (b.steps.take j):=by
  have e:=Yg Yu (TO i (b.steps.take j))
  rw [Th,List.take_take,VH hij] at e;omega
 have h3:=(h1.put (i:=j) (op:=15) (v:=v) (.inr rfl) om).put (i:=i) (op:=14) (v:=v) (.inl rfl) (by rw [So hij hj];exact hv)
 have:=h.sz
 have:=b.sz_eq
 exact (h3.block h2).le om
theorem FO.held {n n2:ZH} {q:Nat} (h:FO n q VI) (hh:Gg n n2):FO n2 (q+4) VI:=by
 rcases hh with rfl|⟨f,rt,i,j,v,h1,h2,h3,h4,h5,rfl⟩
 ·exact ⟨⟨h.fn.decls,h.fn.len,h.fn.sigs,h.fn.lent,fun r hr=>⟨(h.fn.body r hr).1,by have:=(h.fn.body r hr).2;omega⟩⟩,h.op⟩
 ·have hr:=h.rf (Y1 h1)
  have hk:KB n.decls n.routines.length rt.params.length (Bb rt.body i j v) (q+4):=Zai ⟨hr.body.1,hr.op,hr.body.2⟩ h2 h3 ⟨h4,h5⟩
  refine FO.all h.fn.decls (by show 1<=(n.routines.set _ _).length/\(n.routines.set _ _).length<=4;rw [V4];exact h.fn.len) fun r hm=>?_
  show RF n.decls (n.routines.set _ _).length _ _ r
  rw [V4]
  rcases List.mem_or_eq_of_mem_set hm with hm|rfl
  ·have hq:=h.rf hm
   exact ⟨hq.sig,hq.lent,⟨hq.body.1,by have:=hq.body.2;omega⟩,hq.op⟩
  ·exact ⟨hr.sig,hr.lent,⟨hk.fb,hk.sz⟩,hk.op⟩
mutual
def Z7.rb:Z7->Prop
 | .mk _ _ _ _ kids=>Ae kids
def Ae:List Za->Prop
 | []=>True
 | b::r=>Za.rb b/\Ae r
def KW:List Z7->Prop
 | []=>True
 | s::r=>Z7.rb s/\KW r
def Za.rb:Za->Prop
 | .mk steps result=>KW steps/\-1000000000<=result/\result<=1000000000
end
theorem Z7.rb_eq (s:Z7):s.rb=Ae s.kids:=by cases s;rw [Z7.rb];rfl
theorem Za.rb_eq (b:Za):b.rb=(KW b.steps/\-1000000000<=b.result/\b.result<=1000000000):=by cases b;rw [Za.rb];rfl
theorem Ep:∀{xs:List Z7},KW xs↔∀s∈xs,s.rb
 | []=>by simp [KW]
 | s::r=>by rw [KW,Ep];simp
section
variable {ds:List Zf} {nf:Nat}
mutual
theorem Zeg:∀(s:Z7) {m:Nat},fS ds nf m s->m+4*s.sz<=900000000->Xt ds->s.rb
 | .mk op num into args kids,m,h,hb,hd=>by
  rw [fS] at h
  obtain ⟨h1,h2,h3,h4,h5,h6,h7,h8,h9,h10,h11,h12⟩:=h
  rw [Z7.sz] at hb
  rw [Z7.rb]
  refine Ss kids h12 (fun k=>?_) hd
  have hf:=Vr hd (gI (ZX ds num) k)
  show V0 ds op num m k+4*YU kids<=900000003
  rw [V0];split<;>omega
theorem Ss:∀(bs:List Za) {sc:Nat->Nat} {k:Nat},Uc ds nf sc k bs->(∀k,sc k+4*YU bs<=900000003)->Xt ds->Ae bs
 | [],_,_,_,_,_=>True.intro
 | b::r,sc,k,h,hb,hd=>by
  have hp:=b.sz_eq
  exact ⟨Sr b h.1 (by have:=hb k;rw [YU] at this;omega) hd,Ss r h.2 (fun j=>by have:=hb j;rw [YU] at this;omega) hd⟩
theorem St:∀(xs:List Z7) {m:Nat},We ds nf m xs->m+4*Yy xs<=900000000->Xt ds->KW xs
 | [],_,_,_,_=>True.intro
 | s::r,m,h,hb,hd=>by
  rw [Yy] at hb
  have hp:=s.sz_pos
  refine ⟨Zeg s h.1 om hd,St r h.2 ?_ hd⟩
  split<;>omega
theorem Sr:∀(b:Za) {m:Nat},fB ds nf m b->m+4*b.sz<=900000004->Xt ds->b.rb
 | .mk steps result,m,h,hb,hd=>by
  rw [Za.sz] at hb
  rw [fB] at h
  rw [Za.rb]
  have h1:=AY steps
  have h2:steps.length<=Yy steps:=by
   clear h h1 hb
   induction steps with
   | nil=>simp
   | cons x r ih=>have:=x.sz_pos;rw [Yy,Yq];omega
  exact ⟨St steps h.1 om hd,by omega,by omega⟩
end
theorem Eh {op v:Int}:(Zx op v).rb:=by rw [Z7.rb_eq];exact True.intro
theorem Zeh {b:Za} {x q:Int} {fs:LI} (h:b.rb):(KA b x fs q).rb:=by
 rw [Za.rb_eq,Ep] at h
 rw [Za.rb_eq,Ep]
 refine ⟨fun s hs=>?_,h.2⟩
 have hs:s∈K4 b.steps x fs q:=hs
 rw [K4] at hs
 split at hs
 ·simp only [Xg,XF,Xx] at hs
  rcases hs with ((⟨a,_,rfl⟩|rfl)|⟨a,_,rfl⟩)|hs
  ·exact Eh
  ·exact Eh
  ·exact Eh
  ·exact h.1 s (List.mem_of_mem_drop hs)
 ·exact h.1 s hs
mutual
theorem Zek:∀(s:Z7) {m:Nat},s.rb->(KU ds m s).rb
 | .mk op num into args kids,m,h=>by
  rw [Z7.rb] at h
  rw [KU,Z7.rb]
  exact Sw kids h
theorem Sw:∀(bs:List Za) {m:Nat} {op num:Int} {args:LI} {k:Nat},Ae bs->Ae (UT ds m op num args bs k)
 | [],_,_,_,_,_,_=>by rw [UT];exact True.intro
 | b::r,m,op,num,args,k,h=>by
  rw [UT,Ae]
  refine ⟨?_,Sw r h.2⟩
  split
  ·exact Zeh (MF b h.1)
  ·exact MF b h.1
theorem Sx:∀(xs:List Z7) {m:Nat},KW xs->KW (U4 ds m xs)
 | [],_,_=>by rw [U4];exact True.intro
 | s::r,m,h=>by rw [U4,KW];exact ⟨Zek s h.1,Sx r h.2⟩
theorem MF:∀(b:Za) {m:Nat},b.rb->(WW ds m b).rb
 | .mk steps result,m,h=>by
  rw [Za.rb] at h
  rw [WW,Za.rb]
  exact ⟨Sx steps h.1,h.2⟩
end
theorem Zei {b:Za} {x:Int} {many:Nat} (h:b.rb):(VV b x many).rb:=by
 rw [Za.rb_eq] at h
 rw [VV,Za.rb_eq]
 refine ⟨?_,h.2⟩
 show KW (VP b.steps x many)
 rw [VP]
 split
 ·exact h.1
 ·rename_i hq
  obtain ⟨_,_,t,h5,h7,h6⟩:=Ai (fun z=>hq (.inr z))
  have h:=h.1
  rw [Ep] at h ⊢
  intro s hs
  rcases List.mem_or_eq_of_mem_set hs with hs|rfl
  ·rcases List.mem_or_eq_of_mem_set hs with hs|rfl
   ·exact h s hs
   ·exact Eh
  ·have:=h t (Y1 h5)
   rw [h6,Qr,Z7.rb_eq]
   rw [Z7.rb_eq] at this
   exact this
mutual
theorem Zej:∀(s:Z7) {K:LI},s.rb->(Tu ds K s).rb
 | .mk op num into args kids,K,h=>by
  rw [Z7.rb] at h
  rw [Tu,Z7.rb]
  exact Su kids h
theorem Su:∀(bs:List Za) {K:LI} {op num:Int} {args:LI} {k:Nat},Ae bs->Ae (U3 ds K op num args bs k)
 | [],_,_,_,_,_,_=>True.intro
 | b::r,K,op,num,args,k,h=>by
  rw [U3,Ae]
  refine ⟨?_,Su r h.2⟩
  split
  ·exact Zei (ME b h.1)
  ·exact ME b h.1
theorem Sv:∀(xs:List Z7) {K:LI},KW xs->KW (Uf ds K xs)
 | [],_,_=>True.intro
 | s::r,K,h=>⟨Zej s h.1,Sv r h.2⟩
theorem ME:∀(b:Za) {K:LI},b.rb->(Wv ds K b).rb
 | .mk steps result,K,h=>by
  rw [Za.rb] at h
  rw [Wv,Za.rb]
  exact ⟨Sv steps h.1,h.2⟩
end
end
structure Wl (ds:List Zf) (b:Za):Prop where
 w:wB ds b
 nr:Kk b
 rng:b.rng
structure TX (ds:List Zf) (s:Z7):Prop where
 w:wS ds s
 nr:Dd s
 rng:s.rng
section
variable {ds:List Zf}
theorem Er:∀{xs:List Z7},AE xs↔∀s∈xs,s.rng
 | []=>by simp [AE]
 | s::r=>by rw [AE,Er];simp
theorem IM:∀{xs:List Za},Af xs↔∀s∈xs,s.rng
 | []=>by simp [Af]
 | s::r=>by rw [Af,IM];simp
theorem Wl.iff {b:Za}:Wl ds b↔∀s∈b.steps,TX ds s:=by
 constructor
 ·intro h s hs
  have h3:=h.rng
  rw [Za.rng_eq] at h3
  exact ⟨Bt.1 ((Ju b).1 h.w) s hs,Fp.1 ((Fo b).1 h.nr) s hs,Er.1 h3 s hs⟩
 ·intro h
  exact ⟨(Ju b).2 (Bt.2 fun s hs=>(h s hs).w),(Fo b).2 (Fp.2 fun s hs=>(h s hs).nr),by rw [Za.rng_eq];exact Er.2 fun s hs=>(h s hs).rng⟩
theorem TX.kid {s:Z7} {b:Za} (h:TX ds s) (hb:b∈s.kids):Wl ds b:=by
 have h3:=h.rng
 rw [Z7.rng_eq] at h3
 exact ⟨Io.1 ((JZ s).1 h.w).2.2.2 b hb,HB.1 ((E8 s).1 h.nr).2 b hb,IM.1 h3.2 b hb⟩
theorem TX.kids {s:Z7} {ks:List Za} (h:TX ds s) (hl:ks.length=s.kids.length) (hk:∀b∈ks,Wl ds b):TX ds ⟨s.op,s.num,s.into,s.args,ks⟩:=by
 obtain ⟨h1,h2,h3,h4⟩:=(JZ s).1 h.w
 have h5:=h.rng
 rw [Z7.rng_eq] at h5
 refine ⟨(JZ _).2 ⟨h1,fun hc=>?_,fun h8=>⟨(h3 h8).1,hl.trans (h3 h8).2⟩,Io.2 fun b hb=>(hk b hb).w⟩,(E8 _).2 ⟨((E8 s).1 h.nr).1,HB.2 fun b hb=>(hk b hb).nr⟩,by rw [Z7.rng_eq];exact ⟨h5.1,IM.2 fun b hb=>(hk b hb).rng⟩⟩
 obtain ⟨q1,q2,q3,q4⟩:=h2 hc
 exact ⟨q1,q2,List.eq_nil_of_length_eq_zero (show ks.length=0 by rw [hl,q3];rfl),q4⟩
theorem TX.cnt {op v:Int} (h:op=14∨op=15∨op=16):TX ds (Zx op v):=⟨Zjj h,(E8 _).2 ⟨by show op≠17;omega,True.intro⟩,by rw [Z7.rng_eq];exact ⟨⟨by show (-9223372036854775808:Int)<=0;decide,by show (0:Int)<=_;decide⟩,True.intro⟩⟩
theorem Wl.open {b:Za} {x q:Int} {fs:LI} (h:Wl ds b):Wl ds (KA b x fs q):=by
 rw [Wl.iff] at h ⊢
 intro s hs
 have hs:s∈K4 b.steps x fs q:=hs
 rw [K4] at hs
 split at hs
 ·simp only [Xg,XF,Xx] at hs
  rcases hs with ((⟨a,_,rfl⟩|rfl)|⟨a,_,rfl⟩)|hs
  ·exact TX.cnt om
  ·exact TX.cnt om
  ·exact TX.cnt om
  ·exact h s (List.mem_of_mem_drop hs)
 ·exact h s hs
theorem Ia {m:Nat} {op num:Int} {args:LI}:∀{bs:List Za} {k:Nat},(UT ds m op num args bs k).length=bs.length
 | [],_=>rfl
 | b::r,k=>by rw [UT,Yq,Yq,Ia (bs:=r)]
mutual
theorem TX.sp:∀(s:Z7) {m:Nat},TX ds s->TX ds (KU ds m s)
 | .mk op num into args kids,m,h=>by
  rw [KU]
  exact h.kids Ia (Wls.sp kids fun b hb=>h.kid hb)
theorem Wls.sp:∀(bs:List Za) {m:Nat} {op num:Int} {args:LI} {k:Nat},(∀b∈bs,Wl ds b)->∀b∈UT ds m op num args bs k,Wl ds b
 | [],_,_,_,_,_,_,b,hb=>by cases hb
 | c::r,m,op,num,args,k,h,b,hb=>by
  rw [UT] at hb
  rcases YI.1 hb with rfl|hb
  ·split
   ·exact (Wl.sp c (h c (Xo ..))).open
   ·exact Wl.sp c (h c (Xo ..))
  ·exact Wls.sp r (fun x hx=>h x (XD _ hx)) b hb
theorem WlSs.sp:∀(xs:List Z7) {m:Nat},(∀s∈xs,TX ds s)->∀s∈U4 ds m xs,TX ds s
 | [],_,_,s,hs=>by cases hs
 | c::r,m,h,s,hs=>by
  rw [U4] at hs
  rcases YI.1 hs with rfl|hs
  ·exact TX.sp c (h c (Xo ..))
  ·exact WlSs.sp r (fun x hx=>h x (XD _ hx)) s hs
theorem Wl.sp:∀(b:Za) {m:Nat},Wl ds b->Wl ds (WW ds m b)
 | .mk steps result,m,h=>by
  rw [WW,Wl.iff]
  exact WlSs.sp steps (Wl.iff.1 h)
end
theorem Zf9 {b:Za} {x:Int} {many:Nat} (h:b.rng):(VV b x many).rng:=by
 rw [Za.rng_eq] at h
 rw [VV,Za.rng_eq]
 show AE (VP b.steps x many)
 rw [VP]
 split
 ·exact h
 ·rename_i hq
  obtain ⟨_,_,t,h5,h7,h6⟩:=Ai (fun z=>hq (.inr z))
  rw [Er] at h ⊢
  intro s hs
  rcases List.mem_or_eq_of_mem_set hs with hs|rfl
  ·rcases List.mem_or_eq_of_mem_set hs with hs|rfl
   ·exact h s hs
   ·rw [Z7.rng_eq];exact ⟨⟨by show (-9223372036854775808:Int)<=0;decide,by show (0:Int)<=_;decide⟩,True.intro⟩
  ·have:=h t (Y1 h5)
   rw [h6,Qr,Z7.rng_eq]
   rw [Z7.rng_eq] at this
   exact this
mutual
theorem Zfa:∀(s:Z7) {K:LI},s.rng->(Tu ds K s).rng
 | .mk op num into args kids,K,h=>by
  rw [Z7.rng] at h
  rw [Tu,Z7.rng]
  exact ⟨h.1,Z06 kids h.2⟩
theorem Z06:∀(bs:List Za) {K:LI} {op num:Int} {args:LI} {k:Nat},Af bs->Af (U3 ds K op num args bs k)
 | [],_,_,_,_,_,_=>True.intro
 | b::r,K,op,num,args,k,h=>by
  rw [U3,Af]
  refine ⟨?_,Z06 r h.2⟩
  split
  ·exact Zf9 (ML b h.1)
  ·exact ML b h.1
theorem Z07:∀(xs:List Z7) {K:LI},AE xs->AE (Uf ds K xs)
 | [],_,_=>True.intro
 | s::r,K,h=>⟨Zfa s h.1,Z07 r h.2⟩
theorem ML:∀(b:Za) {K:LI},b.rng->(Wv ds K b).rng
 | .mk steps result,K,h=>by
  rw [Za.rng] at h
  rw [Wv,Za.rng]
  exact Z07 steps h
end
end
mutual
theorem Zdb:∀s:Z7,Km VI s->Dd s
 | .mk op num into args kids,h=>by
  rw [Km] at h
  rw [Dd]
  exact ⟨by have:op<=15:=h.1;omega,RS kids h.2⟩
theorem RS:∀bs:List Za,Kl VI bs->C2 bs
 | [],_=>True.intro
 | b::r,h=>⟨RR b h.1,RS r h.2⟩
theorem RT:∀bs:List Z7,Q6 VI bs->C3 bs
 | [],_=>True.intro
 | b::r,h=>⟨Zdb b h.1,RT r h.2⟩
theorem RR:∀b:Za,Vx VI b->Kk b
 | .mk steps result,h=>by
  rw [Vx] at h
  rw [Kk]
  exact RT steps h
end
structure ZR (q:Nat) (r:YD):Prop where
 params:r.params.length<=3
 lent:r.lent.length<=10
 body:r.body.sz<=q
 rng:r.body.rng
 rb:r.body.rb
structure ZN (n:ZH) (q:Nat):Prop where
 decls:AD n.decls
 len:1<=n.routines.length/\n.routines.length<=4
 rt:∀r∈n.routines,ZR q r
theorem ZR.le {q q2:Nat} {r:YD} (h:ZR q r) (hq:q<=q2):ZR q2 r:=⟨h.params,h.lent,Vn h.body hq,h.rng,h.rb⟩
theorem ZN.le {n:ZH} {q q2:Nat} (h:ZN n q) (hq:q<=q2):ZN n q2:=⟨h.decls,h.len,fun r hr=>(h.rt r hr).le hq⟩
theorem ZN.sz {n:ZH} {q:Nat} (h:ZN n q) (hq:q<=10000000):A6 n:=
 ⟨⟨by have:=h.decls.1;omega,fun d hd=>by have:=(h.decls.2 d hd).1;omega,fun d hd c hc=>by have:=(h.decls.2 d hd).2 c hc;omega⟩,by have:=h.len;omega,fun r hr=>by have:=(h.rt r hr).params;omega,fun r hr=>by have:=(h.rt r hr).lent;omega,fun r hr=>by have:=(h.rt r hr).body;omega⟩
theorem FO.wl {n:ZH} {q:Nat} (h:FO n q VI) (hq:q<=100000000):∀r∈n.routines,Wl n.decls r.body:=fun r hr=>by
 have h1:=h.rf hr
 have h2:r.params.length<=3:=(Ty.bd (f:=⟨r.params,r.result,default⟩) h1.sig).1
 exact ⟨Nn r.body h1.body.1 (by have:=h1.body.2;omega) h.fn.decls.ok,RR r.body h1.op,MK r.body h1.body.1⟩
theorem FO.zn {n:ZH} {q:Nat} {p:Int->Prop} (h:FO n q p) (hq:q<=100000000:=by omega):ZN n q:=
 ⟨h.fn.decls.ad,h.fn.len,fun r hr=>⟨(Ty.bd (f:=⟨r.params,r.result,default⟩) (h.fn.sigs r hr)).1,by have:=(h.fn.lent r hr).1;omega,(h.fn.body r hr).2,MK r.body (h.fn.body r hr).1,Sr r.body (h.fn.body r hr).1 (by have h2:r.params.length<=3:=(Ty.bd (f:=⟨r.params,r.result,default⟩) (h.fn.sigs r hr)).1;have:=(h.fn.body r hr).2;omega) h.fn.decls.ok⟩⟩
structure WN (n:ZH) (q:Nat):Prop where
 ok:Xz n
 zn:ZN n q
 wl:∀r∈n.routines,Wl n.decls r.body
theorem FO.wn {n:ZH} {q:Nat} (h:FO n q VI) (hq:q<=100000000):WN n q:=⟨h.fn.ok,h.zn hq,h.wl hq⟩
theorem WN.sp {n:ZH} {q:Nat} (h:WN n q):WN (Dj n) (9*q):=by
 refine ⟨⟨h.ok.decls,by show (n.routines.map _).length<=4;rw [UZ];exact h.ok.len,fun r hr=>?_,fun r hr=>?_⟩,⟨h.zn.decls,by show 1<=(n.routines.map _).length/\(n.routines.map _).length<=4;rw [UZ];exact h.zn.len,fun r hr=>?_⟩,fun r hr=>?_⟩
 ·obtain ⟨s,hs,rfl⟩:=XF.1 hr;exact h.ok.params s hs
 ·obtain ⟨s,hs,rfl⟩:=XF.1 hr;exact h.ok.lent s hs
 ·obtain ⟨s,hs,rfl⟩:=XF.1 hr
  have hz:=h.zn.rt s hs
  refine ⟨hz.params,hz.lent,?_,(Wl.sp s.body (h.wl s hs)).rng,MF s.body hz.rb⟩
  have h1:=I8 h.ok.decls s.body (m:=s.params.length) (h.wl s hs).w
  have h2:=s.body.pz_le
  have h3:=hz.body
  show (WW n.decls s.params.length s.body).sz<=9*q
  omega
 ·obtain ⟨s,hs,rfl⟩:=XF.1 hr;exact Wl.sp s.body (h.wl s hs)
theorem WN.ru {n:ZH} {q:Nat} (h:WN n q):ZN (Di n) q:=by
 refine ⟨h.zn.decls,by show 1<=(n.routines.map _).length/\(n.routines.map _).length<=4;rw [UZ];exact h.zn.len,fun r hr=>?_⟩
 obtain ⟨s,hs,rfl⟩:=XF.1 hr
 have hz:=h.zn.rt s hs
 refine ⟨hz.params,hz.lent,?_,ML s.body (h.wl s hs).rng,ME s.body hz.rb⟩
 have h1:=MO s.body (K:=[]) (h.wl s hs).w
 have h3:=hz.body
 show (Wv n.decls [] s.body).sz<=q
 omega
theorem HN {xs:List Z7} {i:Nat} {s t:Z7} (h:t∈WP xs i s):t∈xs∨t=s:=by
 rw [WP] at h
 simp only [Xg,Xx] at h
 rcases h with (h|h)|h
 ·exact .inl (K0 h)
 ·exact .inr h
 ·exact .inl (List.mem_of_mem_drop h)
theorem Z05 {op v:Int}:(Zx op v).rng:=by rw [Z7.rng_eq];exact ⟨⟨by show (-9223372036854775808:Int)<=0;decide,by show (0:Int)<=_;decide⟩,True.intro⟩
theorem ZN.withR {n:ZH} {q q2:Nat} {f:Nat} {rt:YD} {b:Za} (h:ZN n q) (hr:n.routines[f]? = some rt) (hq:q<=q2) (hb:b.sz<=q2) (hg:b.rng) (hbr:b.rb):ZN (withR n f rt b) q2:=by
 refine ⟨h.decls,by show 1<=(n.routines.set _ _).length/\(n.routines.set _ _).length<=4;rw [V4];exact h.len,fun r hm=>?_⟩
 rcases List.mem_or_eq_of_mem_set hm with hm|rfl
 ·exact (h.rt r hm).le hq
 ·have:=h.rt rt (Y1 hr)
  exact ⟨this.params,this.lent,hb,hg,hbr⟩
theorem ZN.held {n n2:ZH} {q:Nat} (h:ZN n q) (hh:Gg n n2):ZN n2 (q+4):=by
 rcases hh with rfl|⟨f,rt,i,j,v,h1,h2,h3,h4,h5,rfl⟩
 ·exact h.le om
 ·have hz:=h.rt rt (Y1 h1)
  refine h.withR h1 om ?_ ?_ (by have hb:=hz.rb;rw [Za.rb_eq,Ep] at hb;rw [Bb,Za.rb_eq,Ep];refine ⟨fun s hs=>?_,hb.2⟩;rcases HN hs with hs|rfl<;>first|exact Eh|(rcases HN hs with hs|rfl<;>first|exact Eh|exact hb.1 s hs))
  ·rw [Bb,Za.sz,HO,HO]
   have e1:(Zx 14 v).sz=2:=rfl
   have e2:(Zx 15 v).sz=2:=rfl
   have:=hz.body
   have:=rt.body.sz_eq
   omega
  ·have hg:=hz.rng
   rw [Za.rng_eq,Er] at hg
   rw [Bb,Za.rng_eq,Er]
   intro s hs
   rcases HN hs with hs|rfl
   ·rcases HN hs with hs|rfl
    ·exact hg s hs
    ·exact Z05
   ·exact Z05
theorem FO.le {n:ZH} {q q2:Nat} {p:Int->Prop} (h:FO n q p) (hq:q<=q2):FO n q2 p:=⟨⟨h.fn.decls,h.fn.len,h.fn.sigs,h.fn.lent,fun r hr=>⟨(h.fn.body r hr).1,Vn (h.fn.body r hr).2 hq⟩⟩,h.op⟩
section
variable {ds:List Zf} {nf:Nat}
theorem Z6z {m:Nat} {s:Z7} (h:fS ds nf m s) (hc:YP s.op=true):s.num=0/\s.into=0/\s.kids=[]/\∃a,s.args=[a]/\0<=a/\a<m:=by
 have h1:=(B5 s).1 h
 have ho:14<=s.op/\s.op<=17:=of_decide_eq_true hc
 obtain ⟨a1,a2,a3,a,a4⟩:=h1.cnt ho.1
 exact ⟨a1,a2,a3,a,a4,h1.args a (by rw [a4];exact Xx.2 rfl)⟩
theorem Z0s:∀{xs:List Z7} {m:Nat},We ds nf m xs->(∀s∈xs.take (XQ xs),0<=gI s.args 0/\gI s.args 0<m)/\We ds nf m (xs.drop (XQ xs))/\Yu (xs.drop (XQ xs))=Yu xs
 | [],m,h=>⟨fun s hs=>by simp [XQ] at hs,h,rfl⟩
 | s::r,m,h=>by
  rw [XQ]
  by_cases hq:s.op=14∨s.op=15
  ·have hc:YP s.op=true:=by simp [YP];omega
   rw [Zb hq]
   rw [We,Zb hc] at h
   obtain ⟨h1,h2,h3⟩:=Z0s h.2
   obtain ⟨_,_,_,a,ha,hb⟩:=Z6z h.1 hc
   refine ⟨fun t ht=>?_,by rw [List.drop_succ_cons];exact h2,by rw [List.drop_succ_cons,Yu,Zb hc,Wh];exact h3⟩
   rw [AI] at ht
   rcases YI.1 ht with rfl|ht
   ·rw [ha];exact hb
   ·exact h1 t ht
  ·rw [Z5 hq]
   exact ⟨fun t ht=>by simp at ht,h,rfl⟩
theorem Gl {op:Int} {P:Int->Prop}:∀{xs:List Z7},(∀s∈xs,P (gI s.args 0))->∀a∈Wr op xs,P a
 | [],_,a,h=>by simp [Wr] at h
 | s::r,hp,a,h=>by
  rw [Wr] at h
  split at h
  ·rcases YI.1 h with rfl|h
   ·exact hp s (Xo ..)
   ·exact Gl (fun t ht=>hp t (XD _ ht)) a h
  ·exact Gl (fun t ht=>hp t (XD _ ht)) a h
theorem HJ {P:Int->Prop}:∀{fs:LI} {q:Int} {D R:LI},(∀a∈D,P a)->(∀a∈R,P a)->(∀a,q<=a->a<q+fs.length->P a)->(∀a∈(Ut fs q D R).1,P a)/\∀a∈(Ut fs q D R).2,P a
 | [],q,D,R,hD,hR,_=>⟨hD,hR⟩
 | f::r,q,D,R,hD,hR,hq=>by
  have hq':∀a,q+1<=a->a<q+1+r.length->P a:=fun a h1 h2=>hq a om (by simp only [Yq];omega)
  rw [Ut]
  split
  ·exact HJ (fun a ha=>hD a (List.mem_of_mem_erase ha)) hR hq'
  ·split
   ·refine HJ hD (fun a ha=>?_) hq'
    rcases Xg.1 ha with ha|ha
    ·exact hR a ha
    ·rw [Xx.1 ha];exact hq q om (by simp only [Yq];omega)
   ·exact HJ hD hR hq'
theorem Z72 {m q:Nat} {xs:List Z7} {x:Int} {fs:LI} (h:We ds nf m xs) (hx:0<=x/\x<m) (hq:q+fs.length<=m):We ds nf m (K4 xs x fs q)/\Yu (K4 xs x fs q)=Yu xs:=by
 rw [K4]
 split
 ·obtain ⟨h1,h2,h3⟩:=Z0s h
  have hp:(∀a∈(Jl xs x fs q).1,0<=a/\a<(m:Int))/\∀a∈(Jl xs x fs q).2,0<=a/\a<(m:Int):=by
   rw [Jl]
   refine HJ (P:=fun a=>0<=a/\a<(m:Int)) (Gl (P:=fun a=>0<=a/\a<(m:Int)) h1) (fun a ha=>Gl (P:=fun a=>0<=a/\a<(m:Int)) h1 a (List.mem_of_mem_erase ha)) (fun a ha hb=>by omega)
  obtain ⟨a1,a2⟩:=GM (ds:=ds) (nf:=nf) (op:=14) om hp.1
  obtain ⟨b1,b2⟩:=GM (ds:=ds) (nf:=nf) (op:=16) (m:=m) (vs:=[x]) om (fun v hv=>by rw [Xx.1 hv];exact hx)
  obtain ⟨c1,c2⟩:=GM (ds:=ds) (nf:=nf) (op:=15) om hp.2
  have b1:We ds nf m [Zx 16 x]:=b1
  have b2:Yu [Zx 16 x]=0:=b2
  refine ⟨?_,by rw [Th,Th,Th,a2,b2,c2,h3];omega⟩
  simp only [Aq,Th,a2,b2,c2,Bx]
  exact ⟨⟨⟨a1,b1⟩,c1⟩,h2⟩
 ·exact ⟨h,rfl⟩
theorem Z6v {m q:Nat} {b:Za} {x:Int} {fs:LI} (h:fB ds nf m b) (hx:0<=x/\x<m) (hq:q+fs.length<=m):fB ds nf m (KA b x fs q):=by
 rw [Ja] at h
 obtain ⟨h1,h2⟩:=Z72 h.1 hx hq
 rw [KA,Ja]
 refine ⟨h1,h.2.1,?_⟩
 show b.result<((m+Yu (K4 b.steps x fs q):Nat):Int)
 rw [h2];exact h.2.2
theorem Z18 {m:Nat}:∀{xs:List Z7} {m:Nat},Yu (U4 ds m xs)=Yu xs
 | [],_=>rfl
 | s::r,m=>by
  rw [U4,Yu,Yu,Z18 (m:=0) (xs:=r)]
  rw [show (KU ds m s).op=s.op from by rw [FM];rfl]
theorem Z7a {num:Int} {k:Nat} (h:k<(ZX ds num).length):(WA ds num k).length=(ZP ds (gI (ZX ds num) k)).length:=by
 obtain ⟨x,hx⟩:=Kd (xs:=ZX ds num) (j:=k) h
 rw [WA,Ky,hx,Tp (i:=(k:Int)) (by simpa using hx)];rfl
mutual
theorem Z71:∀(s:Z7) {m:Nat},fS ds nf m s->fS ds nf m (KU ds m s)
 | .mk op num into args kids,m,h=>by
  rw [fS] at h
  obtain ⟨h1,h2,h3,h4,h5,h6,h7,h8,h9,h10,h11,h12⟩:=h
  rw [KU,fS]
  refine ⟨h1,h2,fun ho=>?_,fun ho=>by rw [Ia];exact h4 ho,fun ho=>by rw [Ia];exact h5 ho,h6,h7,h8,h9,h10,fun ho=>?_,?_⟩
  ·obtain ⟨a1,a2,a3,a4⟩:=h3 ho
   exact ⟨a1,a2,by rw [a3];rfl,a4⟩
  ·rw [h11 ho];rfl
  ·refine OG kids h12 (fun ho=>?_) (fun ho=>?_)
   ·obtain ⟨a,ha⟩:=h6 (.inr ho)
    rw [ha];exact h2 a (by rw [ha];exact Xx.2 rfl)
   ·rw [h5 ho];omega
theorem OG:∀(bs:List Za) {m:Nat} {op num:Int} {args:LI} {k:Nat},Uc ds nf (V0 ds op num m) k bs->(op=8->0<=gI args 0/\gI args 0<m)->(op=8->k+bs.length<=(ZX ds num).length)->Uc ds nf (V0 ds op num m) k (UT ds m op num args bs k)
 | [],_,_,_,_,_,_,_,_=>True.intro
 | b::r,m,op,num,args,k,h,hx,hl=>by
  rw [UT]
  refine ⟨?_,OG r h.2 hx fun ho=>by have:=hl ho;rw [Yq] at this;omega⟩
  by_cases ho:op=8
  ·have hk:=Z7a (ds:=ds) (num:=num) (k:=k) (by have:=hl ho;rw [Yq] at this;omega)
   have hsc:V0 ds op num m k=m+(WA ds num k).length:=by rw [V0,Zb ho,hk]
   rw [Zb ho]
   have h1:=h.1
   rw [hsc] at h1 ⊢
   have Z4:=hx ho
   exact Z6v (Lq b h1) om (Xa _)
  ·have hsc:V0 ds op num m k=m:=by rw [V0,Z5 ho]
   rw [Z5 ho]
   have h1:=h.1
   rw [hsc] at h1 ⊢
   exact Lq b h1
theorem OK:∀(xs:List Z7) {m:Nat},We ds nf m xs->We ds nf m (U4 ds m xs)
 | [],_,_=>True.intro
 | s::r,m,h=>by
  rw [U4,We,show (KU ds m s).op=s.op from by rw [FM];rfl]
  exact ⟨Z71 s h.1,OK r h.2⟩
theorem Lq:∀(b:Za) {m:Nat},fB ds nf m b->fB ds nf m (WW ds m b)
 | .mk steps result,m,h=>by
  rw [fB] at h
  rw [WW,fB,Z18 (m:=0)]
  exact ⟨OK steps h.1,h.2⟩
end
theorem L9:∀{xs:List Z7} {i:Nat} {s t:Z7},xs[i]? = some s->YP t.op=YP s.op->Yu (xs.set i t)=Yu xs
 | [],i,s,t,h,_=>by simp at h
 | x::r,0,s,t,h,hc=>by simp at h;subst h;rw [List.set_cons_zero,Yu,Yu,hc]
 | x::r,i+1,s,t,h,hc=>by rw [List.set_cons_succ,Yu,Yu,L9 (xs:=r) (by simpa using h) hc]
theorem Ls:∀{xs:List Z7} {i m:Nat} {s t:Z7},We ds nf m xs->xs[i]? = some s->YP t.op=YP s.op->fS ds nf (m+Yu (xs.take i)) t->We ds nf m (xs.set i t)
 | [],i,m,s,t,_,h,_,_=>by simp at h
 | x::r,0,m,s,t,h,hs,hc,ht=>by
  simp at hs;subst hs
  rw [List.set_cons_zero,We,hc]
  exact ⟨by simpa [Yu] using ht,h.2⟩
 | x::r,i+1,m,s,t,h,hs,hc,ht=>by
  rw [List.set_cons_succ,We]
  refine ⟨h.1,Ls h.2 (by simpa using hs) hc ?_⟩
  rw [AI,Yu] at ht
  by_cases hx:YP x.op=true
  ·rw [Zb hx] at ht ⊢;rw [Wh] at ht;exact ht
  ·rw [Z5 hx] at ht ⊢;rw [<-A5] at ht;exact ht
theorem Z73 {m:Nat} {xs:List Z7} {x:Int} {many:Nat} (h:We ds nf m xs) (hx:0<=x/\x<m):We ds nf m (VP xs x many)/\Yu (VP xs x many)=Yu xs:=by
 rw [VP]
 split
 ·exact ⟨h,rfl⟩
 ·rename_i hq
  obtain ⟨_,_,t,h5,h7,h6⟩:=Ai (fun z=>hq (.inr z))
  obtain ⟨_,_,s,h8,h9,h10⟩:=Ed (fun z=>hq (.inl z))
  have Zc:YP (Zx 17 x).op=YP s.op:=by rw [h9];rfl
  have k1:=Ls (t:=Zx 17 x) h h8 Zc (Lr om om)
  have k2:=L9 (t:=Zx 17 x) h8 Zc
  have k3:=FE hq (t:=Zx 17 x) h5
  have k4:=(B5 t).1 (DO k1 k3)
  have Zi:YP (Qr (1+x) t).op=YP t.op:=rfl
  rw [h6]
  have ho:t.op=6:=h7.1.1
  refine ⟨Ls k1 k3 Zi ((B5 _).2 ⟨k4.op,k4.args,fun z=>?_,k4.k7,k4.k8,k4.one,k4.call,k4.num,?_,k4.alen,k4.kn,k4.kids⟩),by rw [L9 k3 Zi,k2]⟩
  ·have z:14<=t.op:=z;omega
  ·show 0<=1+x/\1+x<=((m+_:Nat):Int);omega
theorem Z6x {m:Nat} {b:Za} {x:Int} {many:Nat} (h:fB ds nf m b) (hx:0<=x/\x<m):fB ds nf m (VV b x many):=by
 rw [Ja] at h
 obtain ⟨h1,h2⟩:=Z73 (many:=many) h.1 hx
 rw [VV,Ja]
 refine ⟨h1,h.2.1,?_⟩
 show b.result<((m+Yu (VP b.steps x many):Nat):Int)
 rw [h2];exact h.2.2
theorem Lu {K:LI} {op num:Int} {args:LI}:∀{bs:List Za} {k:Nat},(U3 ds K op num args bs k).length=bs.length
 | [],_=>rfl
 | b::r,k=>by rw [U3,Yq,Yq,Lu (bs:=r)]
theorem Z0m {K:LI}:∀{xs:List Z7},Yu (Uf ds K xs)=Yu xs
 | []=>rfl
 | s::r=>by rw [Uf,Yu,Yu,Z0m (xs:=r),show (Tu ds K s).op=s.op from by rw [AB];rfl]
mutual
theorem Z70:∀(s:Z7) {m:Nat} {K:LI},fS ds nf m s->fS ds nf m (Tu ds K s)
 | .mk op num into args kids,m,K,h=>by
  rw [fS] at h
  obtain ⟨h1,h2,h3,h4,h5,h6,h7,h8,h9,h10,h11,h12⟩:=h
  rw [Tu,fS]
  refine ⟨h1,h2,fun ho=>?_,fun ho=>by rw [Lu];exact h4 ho,fun ho=>by rw [Lu];exact h5 ho,h6,h7,h8,h9,h10,fun ho=>?_,?_⟩
  ·obtain ⟨a1,a2,a3,a4⟩:=h3 ho
   exact ⟨a1,a2,by rw [a3];rfl,a4⟩
  ·rw [h11 ho];rfl
  ·refine OE kids h12 (fun ho=>?_)
   obtain ⟨a,ha⟩:=h6 (.inr ho)
   rw [ha];exact h2 a (by rw [ha];exact Xx.2 rfl)
theorem OE:∀(bs:List Za) {m:Nat} {K:LI} {op num:Int} {args:LI} {k:Nat},Uc ds nf (V0 ds op num m) k bs->(op=8->0<=gI args 0/\gI args 0<m)->Uc ds nf (V0 ds op num m) k (U3 ds K op num args bs k)
 | [],_,_,_,_,_,_,_,_=>True.intro
 | b::r,m,K,op,num,args,k,h,hx=>by
  rw [U3]
  refine ⟨?_,OE r h.2 hx⟩
  split
  ·rename_i ho
   have Z4:=hx ho.1
   refine Z6x (Lp b h.1) ?_
   rw [V0];split<;>omega
  ·exact Lp b h.1
theorem OJ:∀(xs:List Z7) {m:Nat} {K:LI},We ds nf m xs->We ds nf m (Uf ds K xs)
 | [],_,_,_=>True.intro
 | s::r,m,K,h=>by
  rw [Uf,We,show (Tu ds K s).op=s.op from by rw [AB];rfl]
  exact ⟨Z70 s h.1,OJ r h.2⟩
theorem Lp:∀(b:Za) {m:Nat} {K:LI},fB ds nf m b->fB ds nf m (Wv ds K b)
 | .mk steps result,m,K,h=>by
  rw [fB] at h
  rw [Wv,fB,Z0m]
  exact ⟨OJ steps h.1,h.2⟩
end
theorem OI {m:Nat} {xs:List Z7} {i:Nat} {op v:Int} (h:We ds nf m xs) (ho:14<=op/\op<=17) (hv:0<=v/\v<((m+Yu (xs.take i):Nat):Int)):We ds nf m (WP xs i (Zx op v))/\Yu (WP xs i (Zx op v))=Yu xs:=by
 have e:=TO i xs
 have h0:We ds nf m (xs.take i++xs.drop i):=by rw [e];exact h
 rw [Aq] at h0
 have hc:YP (Zx op v).op=true:=decide_eq_true ho
 have hd:Yu [Zx op v]=0:=by rw [Yu,Zb hc];rfl
 have e2:=Yg Yu e
 rw [Th] at e2
 rw [WP]
 refine ⟨?_,by rw [Th,Th,hd];omega⟩
 rw [Aq,Aq,Th,hd]
 exact ⟨⟨h0.1,Lr ho hv,True.intro⟩,h0.2⟩
theorem Z6w {m:Nat} {b:Za} {i j:Nat} {v:Int} (h:fB ds nf m b) (hij:i<=j) (hj:j<=b.steps.length) (hv:0<=v/\v<((m+Yu (b.steps.take i):Nat):Int)):fB ds nf m (Bb b i j v):=by
 rw [Ja] at h
 have hm:Yu (b.steps.take i)<=Yu (b.steps.take j):=by
  have e:=Yg Yu (TO i (b.steps.take j))
  rw [Th,List.take_take,VH hij] at e;omega
 obtain ⟨h1,h2⟩:=OI (op:=15) (i:=j) (v:=v) h.1 om om
 obtain ⟨h3,h4⟩:=OI (op:=14) (i:=i) (v:=v) h1 om (by rw [So hij hj];exact hv)
 rw [Bb,Ja]
 refine ⟨h3,h.2.1,?_⟩
 show b.result<((m+Yu (WP (WP b.steps j (Zx 15 v)) i (Zx 14 v)):Nat):Int)
 rw [h4,h2];exact h.2.2
end
theorem FN.sp {n:ZH} {q q2:Nat} (h:FN n q) (hz:ZN (Dj n) q2):FN (Dj n) q2:=by
 refine ⟨h.decls,hz.len,fun r hr=>?_,fun r hr=>?_,fun r hr=>⟨?_,(hz.rt r hr).body⟩⟩
 ·obtain ⟨s,hs,rfl⟩:=XF.1 hr;exact h.sigs s hs
 ·obtain ⟨s,hs,rfl⟩:=XF.1 hr;exact h.lent s hs
 ·obtain ⟨s,hs,rfl⟩:=XF.1 hr
  have e:(Dj n).routines.length=n.routines.length:=UZ ..
  rw [e]
  exact Lq _ (h.body s hs).1
theorem FN.ru {n:ZH} {q q2:Nat} (h:FN n q) (hz:ZN (Di n) q2):FN (Di n) q2:=by
 refine ⟨h.decls,hz.len,fun r hr=>?_,fun r hr=>?_,fun r hr=>⟨?_,(hz.rt r hr).body⟩⟩
 ·obtain ⟨s,hs,rfl⟩:=XF.1 hr;exact h.sigs s hs
 ·obtain ⟨s,hs,rfl⟩:=XF.1 hr;exact h.lent s hs
 ·obtain ⟨s,hs,rfl⟩:=XF.1 hr
  have e:(Di n).routines.length=n.routines.length:=UZ ..
  rw [e]
  exact Lp _ (h.body s hs).1
theorem FN.le {n:ZH} {q q2:Nat} (h:FN n q) (hq:q<=q2):FN n q2:=⟨h.decls,h.len,h.sigs,h.lent,fun r hr=>⟨(h.body r hr).1,Vn (h.body r hr).2 hq⟩⟩
theorem FN.held {n n2:ZH} {q q2:Nat} (h:FN n q) (hh:Gg n n2) (hz:ZN n2 q2):FN n2 q2:=by
 rcases hh with rfl|⟨f,rt,i,j,v,h1,h2,h3,h4,h5,rfl⟩
 ·exact ⟨h.decls,h.len,h.sigs,h.lent,fun r hr=>⟨(h.body r hr).1,(hz.rt r hr).body⟩⟩
 ·have hm:=Y1 h1
  have hl:(withR n f rt (Bb rt.body i j v)).routines.length=n.routines.length:=V4 ..
  refine ⟨h.decls,hz.len,fun r hr=>?_,fun r hr=>?_,fun r hr=>⟨?_,(hz.rt r hr).body⟩⟩
  ·rcases List.mem_or_eq_of_mem_set hr with hr|rfl
   ·exact h.sigs r hr
   ·exact h.sigs rt hm
  ·rcases List.mem_or_eq_of_mem_set hr with hr|rfl
   ·exact h.lent r hr
   ·exact h.lent rt hm
  ·rw [hl]
   rcases List.mem_or_eq_of_mem_set hr with hr|rfl
   ·exact (h.body r hr).1
   ·exact Z6w (h.body rt hm).1 h2 h3 ⟨h4,h5⟩
abbrev Mem:=Nat->Nat->Option Value
abbrev Cq:=Nat × Nat
def upd (m:Mem) (a:Cq) (z:Int):Mem:=fun g o=>if g=a.1/\o=a.2 then some (.int .i64 z) else m g o
def wr (m:Mem):List Cq->Int->Mem
 | [],_=>m
 | a::r,k=>wr (upd m a k) r (k+1)
def D0 (m:Mem):List Cq->Int->Prop
 | [],_=>True
 | a::r,k=>m a.1 a.2=some (.int .i64 k)/\D0 m r (k+1)
def Rd (m:Mem) (a:Cq):Prop:=∃z,m a.1 a.2=some (.int .i64 z)
structure Kp (m m':Mem):Prop where
 i:∀{a:Cq},Rd m a->Rd m' a
 h:∀{g o:Nat} {v:Value},m g o=some v->(∀z,v≠.int .i64 z)->m' g o=some v
section
variable {P:Program} {n:Nat} {ops:Array Oper} {B:Fr->List Res->Prop} {k:Nat} {F:Fr} {h h2:List Res}
end
section
variable {m m':Mem} {B:List Nat}
end
section
variable {m:Mem} {B:List Nat} {g:Nat}
end
section
variable {m:Mem} {B:List Nat}
end
def Zn (g lo hi:Nat) (X:List Nat) (a:Cq):Prop:=(a.1=g/\lo<=a.2/\a.2<hi)∨a.1∈X
structure Nd (g lo hi:Nat) (X:List Nat) (as1:List Cq):Prop where
 nd:(X.Nodup/\g∉X)->as1.Nodup
 zn:∀a∈as1,Zn g lo hi X a
section
variable {m:Mem} {B:List Nat}
end
section
variable {n:ZH} {ln:LI} {L:ZO}
end
structure CR (L:ZO) (cons first:LI):Prop where
 cl:cons.length=L.vars.length
 fl:first.length=L.vars.length
 eq:∀v:Int,0<=v->v<L.vars.length->0<=gI L.con v->gI cons v=gI L.con v/\gI first v=gI L.fst v

section
variable {N:Mem} {g o:Nat} {z:Int}
end


structure Instr where
 op:Int
 dst:Int
 num:Int
 into:Int
 args:LI
 jumps:LI
structure ZW where
 params:LI
 lent:LI
 result:Int
 regs:Int
 code:List Instr
structure YA where
 decls:List Zf
 procs:List ZW
abbrev Wt (x:Instr):List AV:=[.i x.op,.i x.dst,.i x.num,.i x.into,Z3 x.args,Z3 x.jumps]
abbrev T0 (x:Instr):AV:=.agg (Wt x)
def ZA (xs:List Instr):List AV:=xs.map T0
abbrev Qu (xs:List Instr):AV:=.sl (ZA xs) none
abbrev Mt (xs:List Instr) (v:Value):AV:=.sl (ZA xs) (some v)
abbrev T7 (x:ZW):List AV:=[Z3 x.params,Z3 x.lent,.i x.result,.i x.regs,Qu x.code]
abbrev Cx (x:ZW):AV:=.agg (T7 x)
def Wm (xs:List ZW):List AV:=xs.map Cx
abbrev Mr (xs:List ZW):AV:=.sl (Wm xs) none
abbrev Ue (xs:List ZW) (v:Value):AV:=.sl (Wm xs) (some v)
abbrev Vd (x:YA):List AV:=[Y6 x.decls,Mr x.procs]
abbrev Vp (x:YA):AV:=.agg (Vd x)
structure Z2z where
 op:Int
 dst:Int
 num:Int
 into:Int
 args:LI
 av:Value
 jumps:LI
 jv:Value
structure Z30 where
 params:LI
 pv:Value
 lent:LI
 lv:Value
 result:Int
 regs:Int
 code:List Z2z
 cv:Value
structure Zjs where
 decls:List Vh
 dv:Value
 procs:List Z30
 pv:Value
theorem K9 {xs:List Instr} {j:Nat} {x:Instr} (h:xs[j]? = some x):(ZA xs)[j]? = some (T0 x):=by simp [ZA,h]
@[simp] theorem Q1 (xs:List Instr):(ZA xs).length=xs.length:=by simp [ZA]
theorem CN (xs ys:List Instr):ZA (xs++ys)=ZA xs++ZA ys:=by simp [ZA]
theorem Ao (xs:List Instr):∀y∈ZA xs,y.leaves.length=6:=by intro y hy;simp only [ZA,XF] at hy;obtain ⟨x,_,rfl⟩:=hy;rfl
theorem GH (xs:List Instr):(Z8 (ZA xs)).all AV.one=true:=Jb fun y hy=>by simp only [ZA,XF] at hy;obtain ⟨x,_,rfl⟩:=hy;rfl
theorem Z6c {xs:List Instr} (h:ZA xs=[]):xs=[]:=by cases xs with|nil=>rfl|cons x r=>simp [ZA] at h
theorem Uk (xs:List Instr):(Z8 (ZA xs)).length=xs.length*6:=by rw [UM _ (Ao _)];simp
theorem Z87 (xs:List Instr) (x:Instr):Z8 (ZA xs)++Z8 (ZA [x])=Z8 (ZA (xs++[x])):=by rw [CN,To]
theorem DR {xs:List Instr} {i:Nat} {s:Instr} (h:xs[i]? = some s):Z8 (ZA xs)=Z8 (ZA (xs.take i))++(Wt s++Z8 (ZA (xs.drop (i+1)))):=by
 have hk:=(X4.1 h).1
 have hd:xs.drop i=s::xs.drop (i+1):=by
  rw [Ns hk]
  congr 1
  rw [Dq hk] at h
  exact AJ h
 have e:xs=xs.take i++(s::xs.drop (i+1)):=by rw [<-hd,TO]
 conv=>lhs;rw [e,CN,To]
 rfl
theorem DQ {xs:List Instr} {i:Nat} {s:Instr} (h:xs[i]? = some s):((Z8 (ZA xs)).drop (i*6)).take (Wt s).length=Wt s:=by
 have hi:=(X4.1 h).1
 have hl:(Z8 (ZA (xs.take i))).length=i*6:=by rw [Uk,W1,VH om]
 rw [DR h]
 exact HV hl
theorem GV {xs:List Instr} {i:Nat} {s t:Instr} (h:xs[i]? = some s):(Z8 (ZA xs)).take (i*6)++Wt t++(Z8 (ZA xs)).drop (i*6+(Wt t).length)=Z8 (ZA (xs.set i t)):=by
 have hi:=(X4.1 h).1
 have hl:(Z8 (ZA (xs.take i))).length=i*6:=by rw [Uk,W1,VH om]
 rw [DR h,FG (xs:=Wt s) (ys:=Wt t) hl rfl]
 have e:xs.set i t=xs.take i++(t::xs.drop (i+1)):=by rw [EE,Zb hi]
 rw [e,CN,To]
 rfl
theorem QG {xs:List ZW} {j:Nat} {x:ZW} (h:xs[j]? = some x):(Wm xs)[j]? = some (Cx x):=by simp [Wm,h]
@[simp] theorem KG (xs:List ZW):(Wm xs).length=xs.length:=by simp [Wm]
theorem Z6f (xs ys:List ZW):Wm (xs++ys)=Wm xs++Wm ys:=by simp [Wm]
theorem J9 (xs:List ZW):∀y∈Wm xs,y.leaves.length=5:=by intro y hy;simp only [Wm,XF] at hy;obtain ⟨x,_,rfl⟩:=hy;rfl
theorem Oo (xs:List ZW):(Z8 (Wm xs)).all AV.one=true:=Jb fun y hy=>by simp only [Wm,XF] at hy;obtain ⟨x,_,rfl⟩:=hy;rfl
def XP (op dst num into:Int) (args:LI):Instr:=⟨op,dst,num,into,args,[]⟩
def Instr.goto (x:Instr) (v:Int):Instr:=⟨x.op,x.dst,v,x.into,x.args,x.jumps⟩
def Instr.fan (x:Instr) (js:LI):Instr:=⟨x.op,x.dst,x.num,x.into,x.args,js⟩
def VQ (c:List Instr) (i:Nat):List Instr:=match c[i]? with
 | none=>c
 | some x=>c.set i (x.goto c.length)
def Qj (c:List Instr) (i:Nat) (js:LI):List Instr:=match c[i]? with
 | none=>c
 | some x=>c.set i (x.fan js)
def TY (c:List Instr):List Nat->List Instr
 | []=>c
 | i::r=>TY (VQ c i) r
structure AO (E:Type) where
 res:E->Int->LI
 len:E->Nat
 nxt:E->E
 arm:E->Int->Int->Nat->E
def WH (m many:Nat) (x:Int):List Instr:=(List.range many).map fun i=>XP 19 ((m+i:Nat):Int) (i:Int) 0 [x]
def EJ (r:List Za) (c:List Instr):List Instr:=match r with|[]=>c|_::_=>c++[XP 22 0 0 0 []]
def NK (r:List Za) (es:List Nat) (l:Nat):List Nat:=match r with|[]=>es|_::_=>es++[l+1]
section
variable {E:Type} (X:AO E) (ds:List Zf)
mutual
def Ud (e:E):Z7->List Instr->List Instr
 | .mk op num into args kids,c=>
  if op=7 then QH e args kids c
  else if op=8 then Uj e num (gI args 0) c.length kids 0 (c++[XP 21 0 num 0 args]) [] []
  else if op=14∨op=15 then c++[XP op 0 0 0 args]
  else if op=16∨op=17 then c++[XP op 0 0 0 (args++X.res e (gI args 0))]
  else c++[XP op (X.len e) num into args]
def QH (e:E) (args:LI):List Za->List Instr->List Instr
 | b::r,c=>Kb e (c.length) r (flB e b (c++[XP 20 0 0 0 args])++[XP 18 (X.len e) 0 0 [b.result]])
 | [],c=>c
def Kb (e:E) (ZV:Nat):List Za->List Instr->List Instr
 | b::_,c=>VQ (flB e b (VQ (c++[XP 22 0 0 0 []]) ZV)++[XP 18 (X.len e) 0 0 [b.result]]) c.length
 | [],c=>c
def Uj (e:E) (num x:Int) (ZV:Nat):List Za->Nat->List Instr->LI->List Nat->List Instr
 | [],_,c,ts,es=>TY (Qj c ZV ts) es
 | b::r,k,c,ts,es=>
  Uj e num x ZV r (k+1) (EJ r (flB (X.arm e x num k) b (c++WH (X.len e) (WA ds num k).length x)++[XP 18 (X.len e) 0 0 [b.result]])) (ts++[(c.length:Int)])
   (NK r es (flB (X.arm e x num k) b (c++WH (X.len e) (WA ds num k).length x)).length)
def UK (e:E):List Z7->List Instr->List Instr
 | [],c=>c
 | s::r,c=>UK (if YP s.op=true then e else X.nxt e) r (Ud e s c)
def flB (e:E):Za->List Instr->List Instr
 | .mk steps _,c=>UK e steps c
end
end
def XR (ds:List Zf):AO (LI × LI):=
 ⟨fun e x=>UO (ZP ds (gI e.1 x)) (gI e.2 x),fun e=>e.1.length,fun e=>(e.1++[0],e.2++[0]),
 fun e x num k=>(e.1.set x.toNat (CF ds num k)++XL (ZP ds (CF ds num k)).length,e.2.set x.toNat e.1.length++XL (ZP ds (CF ds num k)).length)⟩
section
variable {ds:List Zf}
end
theorem BF (c:List Instr) (i:Nat):(VQ c i).length=c.length:=by rw [VQ];split<;>simp
theorem CS (c:List Instr) (i:Nat) (js:LI):(Qj c i js).length=c.length:=by rw [Qj];split<;>simp
theorem NH:∀(es:List Nat) (c:List Instr),(TY c es).length=c.length
 | [],_=>rfl
 | i::r,c=>by rw [TY,NH r,BF]
theorem Z0y {c t:List Instr} {i:Nat} {x:Instr} (h:c.length<=i):(c++t).set i x=c++t.set (i-c.length) x:=List.set_append_right _ _ h
theorem IF {c t:List Instr} {i:Nat} (h:c.length<=i):∃t',VQ (c++t) i=c++t'/\t'.length=t.length:=by
 rw [VQ]
 split
 ·exact ⟨t,rfl,rfl⟩
 ·exact ⟨_,Z0y h,by simp⟩
theorem Z77 {c t:List Instr} {i:Nat} {js:LI} (h:c.length<=i):∃t',Qj (c++t) i js=c++t'/\t'.length=t.length:=by
 rw [Qj]
 split
 ·exact ⟨t,rfl,rfl⟩
 ·exact ⟨_,Z0y h,by simp⟩
theorem NG {c:List Instr}:∀{es:List Nat} {t:List Instr},(∀i∈es,c.length<=i)->∃t',TY (c++t) es=c++t'/\t'.length=t.length
 | [],t,_=>⟨t,rfl,rfl⟩
 | i::r,t,h=>by
  obtain ⟨t1,e1,l1⟩:=IF (t:=t) (h i (Xo ..))
  obtain ⟨t2,e2,l2⟩:=NG (es:=r) (t:=t1) fun j hj=>h j (XD _ hj)
  exact ⟨t2,by rw [TY,e1,e2],by rw [l2,l1]⟩
theorem Z40 (r:List Za) (c:List Instr):∃t,EJ r c=c++t:=by
 cases r with
 | nil=>exact ⟨[],by rw [QZ];rfl⟩
 | cons _ _=>exact ⟨_,rfl⟩
section
variable {E:Type} (X:AO E) (ds:List Zf)
mutual
theorem Z7v:∀(s:Z7) (e:E) (c:List Instr),∃t,Ud X ds e s c=c++t
 | .mk op num into args kids,e,c=>by
  rw [Ud]
  split
  ·exact Z7n kids e c
  split
  ·obtain ⟨t,h⟩:=OR kids e 0 c [XP 21 0 num 0 args] [] [] (Xa _) (fun i hi=>by cases hi) (num:=num) (x:=gI args 0)
   exact ⟨t,h⟩
  split
  ·exact ⟨_,rfl⟩
  split
  ·exact ⟨_,rfl⟩
  ·exact ⟨_,rfl⟩
theorem Z7n:∀(bs:List Za) (e:E) (c:List Instr) {args:LI},∃t,QH X ds e args bs c=c++t
 | [],e,c,_=>⟨[],by rw [QH,QZ]⟩
 | b::r,e,c,args=>by
  rw [QH]
  obtain ⟨t,h⟩:=EV b e (c++[XP 20 0 0 0 args])
  rw [h,Vf,Vf]
  exact Z7j r e c _ (Xa _)
theorem Z7j:∀(bs:List Za) (e:E) (c t0:List Instr) {a:Nat},c.length<=a->∃t,Kb X ds e a bs (c++t0)=c++t
 | [],e,c,t0,_,_=>⟨t0,by rw [Kb]⟩
 | b::r,e,c,t0,a,ha=>by
  rw [Kb,Vf]
  obtain ⟨t1,h1,_⟩:=IF (t:=t0++[XP 22 0 0 0 []]) ha
  rw [h1]
  obtain ⟨t2,h2⟩:=EV b e (c++t1)
  rw [h2,Vf,Vf]
  obtain ⟨t3,h3,_⟩:=IF (c:=c) (t:=t1++(t2++[XP 18 (X.len e) 0 0 [b.result]])) (i:=(c++t0).length) (by rw [Yo];exact Nat.le_add_right _ _)
  exact ⟨t3,h3⟩
theorem OR:∀(bs:List Za) (e:E) (k:Nat) (c t0:List Instr) (ts:LI) (es:List Nat) {num x:Int} {a:Nat},c.length<=a->(∀i∈es,c.length<=i)->∃t,Uj X ds e num x a bs k (c++t0) ts es=c++t
 | [],e,k,c,t0,ts,es,num,x,a,ha,he=>by
  rw [Uj]
  obtain ⟨t1,h1,_⟩:=Z77 (t:=t0) (js:=ts) ha
  obtain ⟨t2,h2,_⟩:=NG (t:=t1) he
  exact ⟨t2,by rw [h1,h2]⟩
 | b::r,e,k,c,t0,ts,es,num,x,a,ha,he=>by
  rw [Uj]
  obtain ⟨t1,h1⟩:=EV b (X.arm e x num k) ((c++t0)++WH (X.len e) (WA ds num k).length x)
  rw [h1]
  obtain ⟨t2,h2⟩:=Z40 r ((((c++t0)++WH (X.len e) (WA ds num k).length x)++t1)++[XP 18 (X.len e) 0 0 [b.result]])
  rw [h2,Vf,Vf,Vf,Vf]
  refine OR r e (k+1) c _ _ _ ha fun i hi=>?_
  cases r with
  | nil=>exact he i hi
  | cons _ _=>
   rcases Xg.1 hi with hi|hi
   ·exact he i hi
   ·rw [Xx.1 hi]
    simp only [Yo]
    omega
theorem OW:∀(xs:List Z7) (e:E) (c:List Instr),∃t,UK X ds e xs c=c++t
 | [],e,c=>⟨[],by rw [UK,QZ]⟩
 | s::r,e,c=>by
  obtain ⟨t1,h1⟩:=Z7v s e c
  obtain ⟨t2,h2⟩:=OW r (if YP s.op=true then e else X.nxt e) (c++t1)
  exact ⟨t1++t2,by rw [UK,h1,h2,Vf]⟩
theorem EV:∀(b:Za) (e:E) (c:List Instr),∃t,flB X ds e b c=c++t
 | .mk steps result,e,c=>by rw [flB];exact OW steps e c
end
theorem Z7f {b:Za} {e:E} {c:List Instr} {i:Nat} (h:i<c.length):(flB X ds e b c)[i]? = c[i]?:=by
 obtain ⟨t,ht⟩:=EV X ds b e c
 rw [ht,A1 h]
variable {ds} (hd:Xt ds)
include hd
mutual
theorem OT:∀(s:Z7) (e:E) (c:List Instr),(Ud X ds e s c).length<=c.length+16*s.sz
 | .mk op num into args kids,e,c=>by
  rw [Ud,Z7.sz]
  split
  ·have:=Z7m kids e c (args:=args);omega
  split
  ·have:=OQ kids e 0 (c++[XP 21 0 num 0 args]) [] [] (num:=num) (x:=gI args 0) (a:=c.length)
   simp only [Yo,Yq,YY] at this
   omega
  split
  ·simp;omega
  split
  ·simp;omega
  ·simp;omega
theorem Z7m:∀(bs:List Za) (e:E) (c:List Instr) {args:LI},(QH X ds e args bs c).length<=c.length+16*YU bs+3
 | [],e,c,_=>by rw [QH];omega
 | b::r,e,c,args=>by
  have h1:=BP b e (c++[XP 20 0 0 0 args])
  have h2:=Z7i r e (flB X ds e b (c++[XP 20 0 0 0 args])++[XP 18 (X.len e) 0 0 [b.result]]) (a:=c.length)
  rw [QH,YU]
  simp only [Yo,Yq,YY] at h1 h2
  omega
theorem Z7i:∀(bs:List Za) (e:E) (c:List Instr) {a:Nat},(Kb X ds e a bs c).length<=c.length+16*YU bs+1
 | [],e,c,_=>by rw [Kb];omega
 | b::r,e,c,a=>by
  have h1:=BP b e (VQ (c++[XP 22 0 0 0 []]) a)
  rw [Kb,BF,YU]
  rw [BF] at h1
  simp only [Yo,Yq,YY] at h1 ⊢
  omega
theorem OQ:∀(bs:List Za) (e:E) (k:Nat) (c:List Instr) (ts:LI) (es:List Nat) {num x:Int} {a:Nat},(Uj X ds e num x a bs k c ts es).length<=c.length+16*YU bs
 | [],e,k,c,ts,es,num,x,a=>by rw [Uj,NH,CS];simp [YU]
 | b::r,e,k,c,ts,es,num,x,a=>by
  have h1:=BP b (X.arm e x num k) (c++WH (X.len e) (WA ds num k).length x)
  have h2:=OQ r e (k+1) (EJ r (flB X ds (X.arm e x num k) b (c++WH (X.len e) (WA ds num k).length x)++[XP 18 (X.len e) 0 0 [b.result]])) (ts++[(c.length:Int)])
   (NK r es (flB X ds (X.arm e x num k) b (c++WH (X.len e) (WA ds num k).length x)).length) (num:=num) (x:=x) (a:=a)
  have h3:∀c':List Instr,(EJ r c').length<=c'.length+1:=fun c'=>by cases r with
   | nil=>exact Nat.le_succ _
   | cons _ _=>show (c'++[XP 22 0 0 0 []]).length<=_;simp
  have h4:=h3 (flB X ds (X.arm e x num k) b (c++WH (X.len e) (WA ds num k).length x)++[XP 18 (X.len e) 0 0 [b.result]])
  have h5:=GO hd num k
  have h6:(WH (X.len e) (WA ds num k).length x).length=(WA ds num k).length:=by simp [WH]
  rw [Uj,YU]
  simp only [Yo,Yq,YY,h6] at h1 h2 h4 ⊢
  omega
theorem OV:∀(xs:List Z7) (e:E) (c:List Instr),(UK X ds e xs c).length<=c.length+16*Yy xs
 | [],e,c=>by rw [UK,Yy];omega
 | s::r,e,c=>by
  have h1:=OT s e c
  have h2:=OV r (if YP s.op=true then e else X.nxt e) (Ud X ds e s c)
  rw [UK,Yy];omega
theorem BP:∀(b:Za) (e:E) (c:List Instr),(flB X ds e b c).length+16<=c.length+16*b.sz
 | .mk steps result,e,c=>by
  have:=OV steps e c
  rw [flB,Za.sz];omega
end
end
def Ko (m:Int) (x:Instr):Int:=x.args.foldl (fun m a=>max m (a+1)) (max m (x.dst+1))
def Uu (m:Int) (c:List Instr):Int:=c.foldl Ko m
structure AP (x:Instr):Prop where
 dst:0<=x.dst/\x.dst<=1000000000
 len:x.args.length<=10000200
 args:∀a∈x.args,0<=a/\a<=1000000000
 js:x.jumps.length<=300000000
def Rg (c:List Instr):Prop:=∀x∈c,AP x
theorem RG:∀{l:LI} {m:Int},(∀a∈l,0<=a/\a<=1000000000)->0<=m/\m<=1000000001->m<=l.foldl (fun m a=>max m (a+1)) m/\l.foldl (fun m a=>max m (a+1)) m<=1000000001
 | [],m,_,h=>⟨Int.le_refl _,h.2⟩
 | a::r,m,ha,h=>by
  have h1:=ha a (Xo ..)
  have h2:=RG (l:=r) (m:=max m (a+1)) (fun b hb=>ha b (XD _ hb)) om
  rw [List.foldl_cons]
  omega
theorem Zet {x:Instr} {m:Int} (hx:AP x) (h:0<=m/\m<=1000000001):m<=Ko m x/\Ko m x<=1000000001:=by
 have h1:=hx.dst
 have h2:=RG (m:=max m (x.dst+1)) hx.args om
 rw [Ko];omega
theorem SR:∀{c:List Instr} {m:Int},Rg c->0<=m/\m<=1000000001->m<=Uu m c/\Uu m c<=1000000001
 | [],m,_,h=>⟨Int.le_refl _,h.2⟩
 | x::r,m,hc,h=>by
  have h1:=Zet (hc x (Xo ..)) h
  have h2:=SR (c:=r) (m:=Ko m x) (fun y hy=>hc y (XD _ hy)) om
  show m<=Uu (Ko m x) r/\_
  exact ⟨by omega,h2.2⟩
theorem RH:∀(l:LI) (a m:Int),l.foldl (fun m a=>max m (a+1)) (max a m)=max a (l.foldl (fun m a=>max m (a+1)) m)
 | [],_,_=>rfl
 | x::r,a,m=>by rw [List.foldl_cons,List.foldl_cons,<-RH r];congr 1;omega
theorem Zeu (x:Instr) (a m:Int):Ko (max a m) x=max a (Ko m x):=by
 rw [Ko,Ko,<-RH];congr 1;omega
theorem SS:∀(c:List Instr) (a m:Int),Uu (max a m) c=max a (Uu m c)
 | [],_,_=>rfl
 | x::r,a,m=>by
  show Uu (Ko (max a m) x) r=max a (Uu (Ko m x) r)
  rw [Zeu,SS r]
theorem Zev (c:List Instr) {a:Int} (h:0<=a):Uu a c=max a (Uu 0 c):=by
 rw [<-SS];congr 1;omega
theorem Rg.nil:Rg []:=fun _ h=>by cases h
theorem Rg.app {c d:List Instr} (h1:Rg c) (h2:Rg d):Rg (c++d):=fun x hx=>(Xg.1 hx).elim (h1 x) (h2 x)
theorem Rg.one {x:Instr} (h:AP x):Rg [x]:=fun y hy=>by rw [Xx.1 hy];exact h
theorem Rg.snoc {c:List Instr} {x:Instr} (h1:Rg c) (h2:AP x):Rg (c++[x]):=h1.app (.one h2)
theorem Rg.set {c:List Instr} {x y:Instr} {i:Nat} (hx:c[i]? = some x) (h:Rg c) (h1:y.dst=x.dst) (h2:y.args=x.args) (h3:y.jumps.length<=300000000):Rg (c.set i y):=fun z hz=>by
 have hr:=h x (Y1 hx)
 rcases List.mem_or_eq_of_mem_set hz with hz|rfl
 ·exact h z hz
 ·exact ⟨by rw [h1];exact hr.dst,by rw [h2];exact hr.len,by rw [h2];exact hr.args,h3⟩
theorem Rg.aim {c:List Instr} (h:Rg c) (i:Nat):Rg (VQ c i):=by
 rw [VQ]
 split
 ·exact h
 ·rename_i x hx;exact h.set hx rfl rfl (h x (Y1 hx)).js
theorem Rg.fan {c:List Instr} (h:Rg c) (i:Nat) {js:LI} (hj:js.length<=300000000):Rg (Qj c i js):=by
 rw [Qj]
 split
 ·exact h
 ·rename_i x hx;exact h.set hx rfl rfl hj
theorem Rg.aims:∀{es:List Nat} {c:List Instr},Rg c->Rg (TY c es)
 | [],_,h=>h
 | i::r,c,h=>by rw [TY];exact Rg.aims (h.aim i)
theorem AP.mk' {op dst num into:Int} {args:LI} (h1:0<=dst/\dst<=1000000000) (h2:args.length<=10000200) (h3:∀a∈args,0<=a/\a<=1000000000):AP (XP op dst num into args):=⟨h1,h2,h3,QB _⟩
mutual
def Ej:Z7->Prop
 | .mk _ _ _ args kids=>(args.length<=10000100/\∀a∈args,0<=a/\a<=900000000)/\Dh kids
def Dh:List Za->Prop
 | []=>True
 | b::r=>Ei b/\Dh r
def FF:List Z7->Prop
 | []=>True
 | s::r=>Ej s/\FF r
def Ei:Za->Prop
 | .mk steps result=>FF steps/\0<=result/\result<=900000000
end
theorem Zf5 (s:Z7):Ej s↔(s.args.length<=10000100/\∀a∈s.args,0<=a/\a<=900000000)/\Dh s.kids:=by cases s;rw [Ej];rfl
theorem HT (b:Za):Ei b↔FF b.steps/\0<=b.result/\b.result<=900000000:=by cases b;rw [Ei];rfl
section
variable {n:ZH}
end
structure Nv {E:Type} (X:AO E) (G:E->Nat->Prop):Prop where
 len:∀{e q},G e q->X.len e<=q
 res:∀{e q},G e q->∀x,(∀v∈X.res e x,0<=v/\v<=q+3)/\(X.res e x).length<=3
 nxt:∀{e q},G e q->G (X.nxt e) (q+1)
 up:∀{e q q'},G e q->q<=q'->G e q'
 arm:∀{e q},G e q->∀x num k,G (X.arm e x num k) (q+3)
theorem Z33 {m many:Nat} {x:Int} (hm:many<=3) (h:m<=900000000) (hx:0<=x/\x<=900000000):Rg (WH m many x):=fun y hy=>by
 rw [WH] at hy
 obtain ⟨i,hi,rfl⟩:=XF.1 hy
 have:=List.mem_range.1 hi
 exact .mk' om (by simp) fun a ha=>by rw [Xx.1 ha];omega
theorem Iw {m:Nat} {r:Int} (h:m<=900000000) (hr:0<=r/\r<=900000000):AP (XP 18 m 0 0 [r]):=.mk' om (by simp) fun a ha=>by rw [Xx.1 ha];omega
theorem Nx {op num:Int}:AP (XP op 0 num 0 []):=.mk' om (by simp) fun a ha=>by cases ha
theorem Gh {op dst num into:Int} {args:LI} (hd:0<=dst/\dst<=900000000) (h:args.length<=10000100/\∀a∈args,0<=a/\a<=900000000):AP (XP op dst num into args):=.mk' om om fun a ha=>by have:=h.2 a ha;omega
theorem Z32 {r:List Za} {c:List Instr} (h:Rg c):Rg (EJ r c):=by
 cases r with
 | nil=>exact h
 | cons _ _=>exact h.snoc Nx
section
variable {E:Type} {X:AO E} {ds:List Zf} {G:E->Nat->Prop} (hX:Nv X G) (hd:Xt ds)
include hX hd
mutual
theorem Z7w:∀(s:Z7) {e:E} {q:Nat} {c:List Instr},wS ds s->G e q->q+4*s.sz<=900000000->Ej s->Rg c->Rg (Ud X ds e s c)
 | .mk op num into args kids,e,q,c,hw,hg,hq,hs,hc=>by
  have hl:=hX.len hg
  obtain ⟨h1,h2⟩:=(Zf5 _).1 hs
  have h1':args.length<=10000100/\∀a∈args,0<=a/\a<=900000000:=h1
  rw [Z7.sz] at hq
  rw [Ud]
  split
  ·exact Z7o kids hw.2.2.2 hg om h2 h1' hc
  split
  ·rename_i h8
   obtain ⟨a,ha,ha2⟩:=(hw.2.2.1 h8).1
   have hkl:=NY kids
   exact OS kids hw.2.2.2 hg om h2 (by rw [ha];exact ha2) (by rw [YY];omega) (hc.snoc (Gh om h1'))
  split
  ·exact hc.snoc (Gh om h1')
  split
  ·have h3:=hX.res hg (gI args 0)
   refine hc.snoc (.mk' om (by rw [Yo];omega) fun a ha=>?_)
   rcases Xg.1 ha with ha|ha
   ·have:=h1'.2 a ha;omega
   ·have:=h3.1 a ha;omega
  ·exact hc.snoc (Gh om h1')
theorem Z7o:∀(bs:List Za) {e:E} {q:Nat} {c:List Instr} {args:LI},Jv ds bs->G e q->q+4*YU bs<=900000000->Dh bs->args.length<=10000100/\(∀a∈args,0<=a/\a<=900000000)->Rg c->Rg (QH X ds e args bs c)
 | [],e,q,c,args,_,_,_,_,_,hc=>by rw [QH];exact hc
 | b::r,e,q,c,args,hw,hg,hq,hs,ha,hc=>by
  rw [YU] at hq
  have hl:=hX.len hg
  rw [QH]
  exact Z7k r hw.2 hg om hs.2 ((GS b hw.1 hg om hs.1 (hc.snoc (Gh om ha))).snoc (Iw om ((HT b).1 hs.1).2))
theorem Z7k:∀(bs:List Za) {e:E} {q:Nat} {c:List Instr} {a:Nat},Jv ds bs->G e q->q+4*YU bs<=900000000->Dh bs->Rg c->Rg (Kb X ds e a bs c)
 | [],e,q,c,a,_,_,_,_,hc=>by rw [Kb];exact hc
 | b::r,e,q,c,a,hw,hg,hq,hs,hc=>by
  rw [YU] at hq
  have hl:=hX.len hg
  rw [Kb]
  exact ((GS b hw.1 hg om hs.1 ((hc.snoc Nx).aim a)).snoc (Iw om ((HT b).1 hs.1).2)).aim _
theorem OS:∀(bs:List Za) {e:E} {q:Nat} {k:Nat} {c:List Instr} {ts:LI} {es:List Nat} {num x:Int} {a:Nat},Jv ds bs->G e q->q+4*YU bs<=900000000->Dh bs->0<=x/\x<=900000000->ts.length+bs.length<=300000000->Rg c->Rg (Uj X ds e num x a bs k c ts es)
 | [],e,q,k,c,ts,es,num,x,a,_,_,_,_,_,ht,hc=>by rw [Uj];exact (hc.fan _ ht).aims
 | b::r,e,q,k,c,ts,es,num,x,a,hw,hg,hq,hs,hx,ht,hc=>by
  rw [Yq] at ht
  rw [YU] at hq
  have hl:=hX.len hg
  have hp:=b.sz_eq
  rw [Uj]
  exact OS r hw.2 hg om hs.2 hx (by rw [Yo,Bw];omega) (Z32 ((GS b hw.1 (hX.arm hg x num k) om hs.1 (hc.app (Z33 (GO hd num k) om hx))).snoc (Iw om ((HT b).1 hs.1).2)))
theorem OX:∀(xs:List Z7) {e:E} {q:Nat} {c:List Instr},QY ds xs->G e q->q+4*Yy xs<=900000000->FF xs->Rg c->Rg (UK X ds e xs c)
 | [],e,q,c,_,_,_,_,hc=>by rw [UK];exact hc
 | s::r,e,q,c,hw,hg,hq,hs,hc=>by
  rw [Yy] at hq
  have hp:=s.sz_pos
  rw [UK]
  refine OX r (q:=q+1) hw.2 ?_ om hs.2 (Z7w s hw.1 hg om hs.1 hc)
  split
  ·exact hX.up hg om
  ·exact hX.nxt hg
theorem GS:∀(b:Za) {e:E} {q:Nat} {c:List Instr},wB ds b->G e q->q+4*b.sz<=900000004->Ei b->Rg c->Rg (flB X ds e b c)
 | .mk steps result,e,q,c,hw,hg,hq,hs,hc=>by
  rw [Za.sz] at hq
  rw [flB]
  exact OX steps hw hg om hs.1 hc
end
end
theorem Zgg {ds:List Zf} (hd:Xt ds):Nv (XR ds) (fun e q=>e.1.length<=q/\∀v∈e.2,0<=v/\v<=q):=by
 refine ⟨fun h=>h.1,fun {e q} h x=>?_,fun {e q} h=>⟨by simp [XR];exact h.1,fun v hv=>?_⟩,fun h hq=>⟨by have:=h.1;omega,fun v hv=>by have:=h.2 v hv;omega⟩,fun {e q} h x num k=>⟨?_,fun v hv=>?_⟩⟩
 ·have h1:=Vr hd (gI e.1 x)
  have h2:0<=gI e.2 x/\gI e.2 x<=q:=if z:gI e.2 x=0 then om else h.2 _ (GW z)
  exact ⟨fun v hv=>by have:=LR hv;omega,Vn (H6 _ _) h1⟩
 ·rcases Xg.1 hv with hv|hv
  ·have:=h.2 v hv;omega
  ·rw [Xx.1 hv];omega
 ·have h1:=Vr hd (CF ds num k)
  have h2:=h.1
  show (e.1.set _ _++XL _).length<=_
  rw [Yo,V4,Ea];omega
 ·have h1:=Vr hd (CF ds num k)
  have h2:=h.1
  rcases Xg.1 hv with hv|hv
  ·rcases List.mem_or_eq_of_mem_set hv with hv|rfl
   ·have:=h.2 v hv;omega
   ·omega
  ·have:=HC _ v hv;omega
def GB (B:List Nat):Yk:=fun b _=>b∈B
section
variable {w:World} {G:Yk} {B:List Nat}
end
section
variable {w:World} {G:Yk} {B:List Nat}
def PC:Value->Hd
 | .slice a l c=>⟨a,l,c⟩
 | _=>⟨none,0,0⟩
abbrev av (y:Nw):AV:=.agg [.h (PC y.dv),.h (PC y.rv)]
end
def Z31 (B:List Nat) (m:Mem) (x:AV) (u:Value):Prop:=
 ∀w:World,(∀b∈B,∃cs e,w.heap[b]? = some (.cells cs e (0,0))/\∀o,cs[o]? = m b o)->RV w (GB B) x u
inductive EG (bs:List Res):List AV->List AV->Prop
 | nil:EG bs [] []
 | same {x as1 xs} (t:EG bs as1 xs):EG bs (x::as1) (x::xs)
 | gen {B m x a u as1 xs} (h:Res.own B m∈bs) (hr:Z31 B m x u) (ha:∀w G v,RV w G a v->v=u) (t:EG bs as1 xs):EG bs (a::as1) (x::xs)
section
variable {P:Program} {n:Nat} {ops:Array Oper} {B:Fr->List Res->Prop} {k:Nat} {F:Fr} {h:List Res}
end
section
variable {m m':Mem} {B:List Nat}
end
section
variable {w:World} {G:Yk} {B:List Nat}
end
def Zf0 (r:Int):Instr:=XP 23 0 0 0 [r]
def Uq (ds:List Zf) (rt:YD):List Instr:=flB (XR ds) ds (XL rt.params.length,XL rt.params.length) rt.body []++[Zf0 rt.body.result]
def RO:YA:=⟨[],[]⟩
section
variable {ds:List Zf} {b:Bool}
end
section
variable {n:ZH} (hn:Xz n) (hz:A6 n) (hbt:∀r∈n.routines,0<=W7 n r.params r.body)
include hn hz hbt
end
section
variable {N:Mem} {g o:Nat} {z:Int}
end
structure Zjt (im:YA):Prop where
 decls:Z5y im.decls<=1000000000
 procs:im.procs.length<=4
 params:∀p∈im.procs,p.params.length<=1000000000
 lent:∀p∈im.procs,p.lent.length<=1000000000
 code:∀p∈im.procs,p.code.length<=2000
 args:∀p∈im.procs,∀x∈p.code,x.args.length<=10000200
 jumps:∀p∈im.procs,∀x∈p.code,x.jumps.length<=300000000
section
variable {n:ZH} (hz:A6 n) (hB:Z49 n=true)
include hz hB
end
end Go.Abs
section
namespace Go.Abs
def Zr (c:List Instr) (i:Nat):Prop:=∃x,c[i]? = some x/\x.dst=0/\x.into=0
section
variable {c t:List Instr} {i j:Nat}
theorem Zr.lt (h:Zr c i):i<c.length:=by obtain ⟨x,hx,_⟩:=h;exact (X4.1 hx).1
theorem Zr.new {x:Instr} (h1:x.dst=0) (h2:x.into=0):Zr (c++[x]) c.length:=⟨x,by simp,h1,h2⟩
theorem Zr.app (h:Zr c i):Zr (c++t) i:=by
 obtain ⟨x,hx,h1⟩:=h
 exact ⟨x,by rw [A1 ((X4.1 hx).1)];exact hx,h1⟩
theorem Zr.flB {E:Type} {X:AO E} {ds:List Zf} {e:E} {b:Za} (h:Zr c i):Zr (flB X ds e b c) i:=by
 obtain ⟨t,ht⟩:=EV X ds b e c
 rw [ht];exact h.app
theorem Zr.set {x y:Instr} (h:Zr c i) (hx:c[j]? = some x) (h1:y.dst=x.dst) (h2:y.into=x.into):Zr (c.set j y) i:=by
 obtain ⟨z,hz,h3,h4⟩:=h
 by_cases e:j=i
 ·subst e
  rw [hx] at hz
  cases hz
  exact ⟨y,by rw [List.getElem?_set_self (X4.1 hx).1],h1.trans h3,h2.trans h4⟩
 ·exact ⟨z,by rw [List.getElem?_set_ne e];exact hz,h3,h4⟩
theorem Zr.aim (h:Zr c i):Zr (VQ c j) i:=by
 rw [VQ]
 split
 ·exact h
 ·rename_i x hx;exact h.set hx rfl rfl
theorem Zr.fan {js:LI} (h:Zr c i):Zr (Qj c j js) i:=by
 rw [Qj]
 split
 ·exact h
 ·rename_i x hx;exact h.set hx rfl rfl
end
theorem EX {c t:List Instr} {i:Nat} {x:Instr} (h:c[i]? = some x):(c++t)[i]? = some x:=by rw [A1 (X4.1 h).1];exact h
theorem Py {c:List Instr} {i:Nat} {x:Instr} {E:Type} {X:AO E} {ds:List Zf} {e:E} {b:Za} (h:c[i]? = some x):(flB X ds e b c)[i]? = some x:=by
 rw [Z7f X ds (X4.1 h).1];exact h
theorem Z3f {c:List Instr} {i:Nat} {x:Instr} (h:c[i]? = some x):VQ c i=c.set i (x.goto c.length):=by rw [VQ,h]
theorem Z78 {c:List Instr} {i:Nat} {x:Instr} {js:LI} (h:c[i]? = some x):Qj c i js=c.set i (x.fan js):=by rw [Qj,h]
theorem Z3g {c:List Instr} {i:Nat} {x:Instr} (h:c[i]? = some x) (h1:x.dst=0) (h2:x.into=0):c.set i ⟨x.op,0,c.length,0,x.args,x.jumps⟩=VQ c i:=by
 rw [Z3f h,Instr.goto,h1,h2]
theorem Z79 {c:List Instr} {i:Nat} {num:Int} {args js:LI} (h:c[i]? = some (XP 21 0 num 0 args)):c.set i ⟨21,0,num,0,args,js⟩=Qj c i js:=by
 rw [Z78 h];rfl
def QQ (es:List Nat):LI:=es.map Int.ofNat
theorem HE (es:List Nat):(QQ es).length=es.length:=by simp [QQ]
theorem Zdn {es:List Nat} {k e:Nat} (h:es[k]? = some e):(QQ es)[k]? = some (e:Int):=by simp [QQ,h]
theorem Zdo (es:List Nat) (e:Nat):QQ es++[(e:Int)]=QQ (es++[e]):=by simp [QQ]
theorem RC (m k:Nat) (x:Int):WH m (k+1) x=WH m k x++[XP 19 ((m+k:Nat):Int) (k:Int) 0 [x]]:=by simp [WH,List.range_succ]
theorem Hx (m k:Nat) (x:Int):(WH m k x).length=k:=by simp [WH]
theorem Z3i {es:List Nat} {k e:Nat} {c d:List Instr} (h:es[k]? = some e) (ha:TY c (es.drop k)=d):TY (VQ c e) (es.drop (k+1))=d:=by rw [Yj h,TY] at ha;exact ha
theorem Z3h {es:List Nat} {k:Nat} {c d:List Instr} (h:es.length<=k) (ha:TY c (es.drop k)=d):c=d:=by rw [Xp h,TY] at ha;exact ha
section
variable {E:Type} {X:AO E} {ds:List Zf} {e:E}
theorem EW (s:Z7) (c:List Instr):Ud X ds e s c=(if s.op=7 then QH X ds e s.args s.kids c
  else if s.op=8 then Uj X ds e s.num (gI s.args 0) c.length s.kids 0 (c++[XP 21 0 s.num 0 s.args]) [] []
  else if s.op=14∨s.op=15 then c++[XP s.op 0 0 0 s.args]
  else if s.op=16∨s.op=17 then c++[XP s.op 0 0 0 (s.args++X.res e (gI s.args 0))]
  else c++[XP s.op (X.len e) s.num s.into s.args]):=by cases s;rw [Ud];rfl
theorem Z7s {s:Z7} {c:List Instr} {k0 k1:Za} (h:s.op=7) (hk:s.kids=[k0,k1]):Ud X ds e s c =
  VQ (flB X ds e k1 (VQ ((flB X ds e k0 (c++[XP 20 0 0 0 s.args])++[XP 18 (X.len e) 0 0 [k0.result]])++[XP 22 0 0 0 []]) c.length)++[XP 18 (X.len e) 0 0 [k1.result]]) (flB X ds e k0 (c++[XP 20 0 0 0 s.args])++[XP 18 (X.len e) 0 0 [k0.result]]).length:=by
 rw [EW,Zb h,hk,QH,Kb]
theorem Z7t {s:Z7} {c:List Instr} (h:s.op=8):Ud X ds e s c=Uj X ds e s.num (gI s.args 0) c.length s.kids 0 (c++[XP 21 0 s.num 0 s.args]) [] []:=by
 rw [EW,Z5 om,Zb h]
theorem Z7p {s:Z7} {c:List Instr} (h:s.op=14∨s.op=15):Ud X ds e s c=c++[XP s.op 0 0 0 s.args]:=by
 rw [EW,Z5 om,Z5 om,Zb h]
theorem Z7u {s:Z7} {c:List Instr} (h:s.op=16∨s.op=17):Ud X ds e s c=c++[XP s.op 0 0 0 (s.args++X.res e (gI s.args 0))]:=by
 rw [EW,Z5 om,Z5 om,Z5 om,Zb h]
theorem Z7q {s:Z7} {c:List Instr} (h7:s.op≠7) (h8:s.op≠8) (h1:¬(s.op=14∨s.op=15)) (h2:¬(s.op=16∨s.op=17)):Ud X ds e s c=c++[XP s.op (X.len e) s.num s.into s.args]:=by
 rw [EW,Z5 h7,Z5 h8,Z5 h1,Z5 h2]
theorem Z7g (b:Za) (c:List Instr):flB X ds e b c=UK X ds e b.steps c:=by cases b;rw [flB];rfl
theorem OY {xs:List Z7} {k:Nat} {s:Z7} {c d:List Instr} (h:xs[k]? = some s) (ha:UK X ds e (xs.drop k) c=d):UK X ds (if YP s.op=true then e else X.nxt e) (xs.drop (k+1)) (Ud X ds e s c)=d:=by
 rw [Yj h,UK] at ha;exact ha
theorem Z7x {xs:List Z7} {k:Nat} {c d:List Instr} (h:xs.length<=k) (ha:UK X ds e (xs.drop k) c=d):c=d:=by
 rw [Xp h,UK] at ha;exact ha
theorem Z7c {bs:List Za} {num x:Int} {a k j:Nat} {c d:List Instr} {ts:LI} {es:List Nat} (h:bs.length<=k) (ha:Uj X ds e num x a (bs.drop k) j c ts es=d):TY (Qj c a ts) es=d:=by
 rw [Xp h,Uj] at ha;exact ha
theorem Z7d {bs:List Za} {b:Za} {num x:Int} {a k:Nat} {c d:List Instr} {ts:LI} {es:List Nat} (hb:bs[k]? = some b) (hl:k+1<bs.length) (ha:Uj X ds e num x a (bs.drop k) k c ts es=d) :
  Uj X ds e num x a (bs.drop (k+1)) (k+1) ((flB X ds (X.arm e x num k) b (c++WH (X.len e) (WA ds num k).length x)++[XP 18 (X.len e) 0 0 [b.result]])++[XP 22 0 0 0 []]) (ts++[(c.length:Int)])
   (es++[(flB X ds (X.arm e x num k) b (c++WH (X.len e) (WA ds num k).length x)++[XP 18 (X.len e) 0 0 [b.result]]).length])=d:=by
 rw [Yj hb,Uj] at ha
 rw [Yo (bs:=[XP 18 (X.len e) 0 0 [b.result]])]
 obtain ⟨y,hy⟩:=Kd (xs:=bs) (j:=k+1) om
 have hd:=Yj hy
 rw [hd] at ha ⊢
 exact ha
theorem Z7e {bs:List Za} {b:Za} {num x:Int} {a k:Nat} {c d:List Instr} {ts:LI} {es:List Nat} (hb:bs[k]? = some b) (hl:bs.length=k+1) (ha:Uj X ds e num x a (bs.drop k) k c ts es=d) :
  Uj X ds e num x a (bs.drop (k+1)) (k+1) (flB X ds (X.arm e x num k) b (c++WH (X.len e) (WA ds num k).length x)++[XP 18 (X.len e) 0 0 [b.result]]) (ts++[(c.length:Int)]) es=d:=by
 rw [Yj hb,Uj] at ha
 rw [Xp om] at ha ⊢
 exact ha
end
end Go.Abs
namespace Go.Abs
theorem NZ:∀{bs:List Za} {k:Nat} {b:Za},bs[k]? = some b->YU (bs.take (k+1))=YU (bs.take k)+b.sz/\YU (bs.take k)+b.sz<=YU bs
 | [],_,_,h=>by simp at h
 | x::r,0,b,h=>by simp at h;subst h;simp [YU]
 | x::r,k+1,b,h=>by
  obtain ⟨h1,h2⟩:=NZ (bs:=r) (k:=k) (b:=b) (by simpa using h)
  simp only [AI,YU]
  omega
theorem Zey {c:List Instr} {k:Nat} {x:Instr} {m q R:Int} (h:c[k]? = some x) (hq:q=Ko m x) (ha:Uu m (c.drop k)=R):Uu q (c.drop (k+1))=R:=by
 subst hq;rw [Yj h] at ha;exact ha
theorem Zex {c:List Instr} {k:Nat} {m R:Int} (h:c.length<=k) (ha:Uu m (c.drop k)=R):m=R:=by rw [Xp h] at ha;exact ha
theorem Zd1 {l:LI} {j:Nat} {a m R:Int} (h:l[j]? = some a) (ha:(l.drop j).foldl (fun m a=>max m (a+1)) m=R):(l.drop (j+1)).foldl (fun m a=>max m (a+1)) (max m (a+1))=R:=by
 rw [Yj h] at ha;exact ha
theorem Zd0 {l:LI} {j:Nat} {m R:Int} (h:l.length<=j) (ha:(l.drop j).foldl (fun m a=>max m (a+1)) m=R):m=R:=by rw [Xp h] at ha;exact ha
theorem Z2x (k:Nat) (h:k<=1000000000):TQ (XL k):=fun f hf=>by have:=HC k f hf;omega
theorem Zew (c:List Instr) (p:Nat):Uu (p:Int) c=max (Uu 0 c) (p:Int):=by rw [Zev c om];omega
theorem WI {p:Prop} (h:p:=by first|omega|(simp only [BF,CS,Yo,Yq,YY,Hx,HE,Ea,V4];omega)):p:=h
end Go.Abs
end
namespace Go.Abs
structure NTu (n:ZH):Prop where
 result:∀r∈n.routines,r.result<=(n.decls.length:Int)
 decl:∀d∈n.decls,d.cons.length=0->d.to_<=(n.decls.length:Int)
 fields:∀c,∀f∈ZP n.decls c,f<=(n.decls.length:Int)
section
variable {n:ZH} (hu:NTu n)
include hu
end

theorem Z6o {xs ys:LI} (h:xs.length=ys.length) (ha:∀i,i<xs.length->xs[i]? = ys[i]?):xs=ys:=List.ext_getElem? fun i=>by
 by_cases hi:i<xs.length
 ·exact ha i hi
 ·rw [QA om,QA om]

structure ZS (n:ZH) (q l:Nat):Prop where
 decls:AD n.decls
 len:1<=n.routines.length/\n.routines.length<=4
 rt:∀r∈n.routines,r.params.length<=3/\r.lent.length<=l/\r.body.sz<=q/\r.body.rng
 rb:∀r∈n.routines,r.body.rb
section
variable {n n2:ZH} (hd:n2.decls=n.decls) (hr:∀vars op num args,Kr n2 vars op num args=Kr n vars op num args)
include hd hr
end
section
variable {n:ZH}
end
noncomputable instance decBlock:DecidableEq Za:=fun a b=>Classical.propDecidable (a=b)
noncomputable instance decStep:DecidableEq Z7:=fun a b=>Classical.propDecidable (a=b)
noncomputable instance decDecls:DecidableEq Zf:=fun a b=>Classical.propDecidable (a=b)
noncomputable instance decNormal:DecidableEq ZH:=fun a b=>Classical.propDecidable (a=b)

section
variable {ds:List Zf}
end
def Zc2 (am:List Jy) (x:Int):Bool:=am.any fun o=>o.chg&&(o.mat==x)
def RP (am:List Jy) (a:Jy) (b:Za):Prop:=Zc2 am a.mat=true∨(Vy b.steps a.mat<0∨WD b.steps a.fds.length<0)
instance (am:List Jy) (a:Jy) (b:Za):Decidable (RP am a b):=by unfold RP;infer_instance

section
variable {ds:List Zf}
end
section
variable {n:ZH}
end
section
variable {ds:List Zf}
end
structure CR2 (c d:LI):Prop where
 l1:c.length=4
 l2:d.length=4
 a:gI c 0=gI d 0
 b:gI c 1=gI d 1
 s:gI c 2+gI c 3=gI d 2+gI d 3
section
variable {ds:List Zf}
end
section
variable {ds:List Zf}
end

structure Zjq (n:ZH) (r:YD) (k:Nat) (L:ZO):Prop where
 ok:XN n.decls L (1+4*r.body.sz)
 pre:∃ws,L.vars=r.params++ws
 len:L.vars.length<=r.params.length+r.body.sz
 ty:∀s,r.body.steps[k]? = some s->0<=X1 n L.vars s
end Go.Abs
