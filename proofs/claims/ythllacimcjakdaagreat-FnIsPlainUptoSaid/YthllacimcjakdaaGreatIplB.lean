/-
  A part of the proof of FnIsPlainUptoSaid (see the last file): no condition.
-/
import Derived.Test.YthllacimcjakdaaGreatIplA
import Derived.Test.YthllacimcjakdaaGreatRows
import Derived.Deep.Slices
import Derived.ChangeArms
set_option linter.all false
set_option linter.unusedVariables false
set_option linter.unusedSimpArgs false
set_option linter.unusedSectionVars false
set_option maxRecDepth 10000
set_option maxHeartbeats 4000000
section
namespace Go.Abs
structure WO where
 fields:LI
 fv:Value
structure WP where
 frm:Int
 to_:Int
 cons:List WO
 cv:Value
mutual
inductive AJ where
 | mk (op num into:Int) (args:LI) (av:Value) (kids:List JS) (kv:Value)
inductive JS where
 | mk (steps:List AJ) (sv:Value) (result:Int)
end
namespace AJ
end AJ
namespace JS
end JS
structure DI where
 params:LI
 pv:Value
 lent:LI
 lv:Value
 result:Int
 body:JS
structure Iv where
 decls:List WP
 dv:Value
 routines:List DI
 rv:Value
abbrev MU (c:WO):List AV:=[ZU c.fields c.fv]
abbrev Ix (c:WO):AV:=.agg (MU c)
def VA (cs:List WO):List AV:=cs.map Ix
abbrev Da (xs:List WO) (v:Value):AV:=.sl (VA xs) (some v)
abbrev MV (d:WP):List AV:=[.i d.frm,.i d.to_,Da d.cons d.cv]
abbrev Iy (d:WP):AV:=.agg (MV d)
def WG (ds:List WP):List AV:=ds.map Iy
abbrev Z5y (xs:List WP) (v:Value):AV:=.sl (WG xs) (some v)
@[simp] theorem Zca (xs:List WO):(VA xs).length=xs.length:=by simp [VA]
theorem Sz (xs ys:List WO):VA (xs++ys)=VA xs++VA ys:=by simp [VA]
theorem Lm (xs:List WO):∀y∈VA xs,y.leaves.length=1:=by intro y hy;simp only [VA,XD] at hy;obtain ⟨x,_,rfl⟩:=hy;rfl
@[simp] theorem Zcb (xs:List WP):(WG xs).length=xs.length:=by simp [WG]
theorem SA (xs ys:List WP):WG (xs++ys)=WG xs++WG ys:=by simp [WG]
theorem Ln (xs:List WP):∀y∈WG xs,y.leaves.length=3:=by intro y hy;simp only [WG,XD] at hy;obtain ⟨x,_,rfl⟩:=hy;rfl
def CQ (c:WO):List (Value × Nat):=[(c.fv,1)]
def Ts (cs:List WO):List (Value × Nat):=cs.flatMap CQ
def CR (d:WP):List (Value × Nat):=Ts d.cons++[(d.cv,1)]
def TH (ds:List WP):List (Value × Nat):=ds.flatMap CR
mutual
def CT:AJ->List (Value × Nat)
 | .mk _ _ _ _ av kids kv=>(av,1)::(Q1 kids++[(kv,2)])
def BR:JS->List (Value × Nat)
 | .mk steps sv _=>Q2 steps++[(sv,5)]
def Q2:List AJ->List (Value × Nat)
 | []=>[]
 | s::r=>CT s++Q2 r
def Q1:List JS->List (Value × Nat)
 | []=>[]
 | b::r=>BR b++Q1 r
end
def CS (r:DI):List (Value × Nat):=(r.pv,1)::(r.lv,1)::BR r.body
def Jy (rs:List DI):List (Value × Nat):=rs.flatMap CS
def Ep (n:Iv):List (Value × Nat):=TH n.decls++((n.dv,3)::(Jy n.routines++[(n.rv,5)]))
theorem CU:∀(xs:List AJ) (ys:List AJ),Q2 (xs++ys)=Q2 xs++Q2 ys
 | [],ys=>by simp [Q2]
 | x::r,ys=>by rw [Qh,Q2,Q2,CU r ys,Ul]
theorem CP:∀(xs:List JS) (ys:List JS),Q1 (xs++ys)=Q1 xs++Q1 ys
 | [],ys=>by simp [Q1]
 | x::r,ys=>by rw [Qh,Q1,Q1,CP r ys,Ul]
theorem Es:Q2 []=[]:=by rw [Q2]
theorem Em:Q1 []=[]:=by rw [Q1]
theorem En (xs ys:List WO):Ts (xs++ys)=Ts xs++Ts ys:=by simp [Ts]
theorem Eo (xs ys:List WP):TH (xs++ys)=TH xs++TH ys:=by simp [TH]
theorem Er (xs ys:List DI):Jy (xs++ys)=Jy xs++Jy ys:=by simp [Jy]
def WO.er (c:WO):Y1:=⟨c.fields⟩
def WP.er (d:WP):Ze:=⟨d.frm,d.to_,d.cons.map WO.er⟩
inductive TC:List AV->List AV->Prop
 | nil:TC [] []
 | cons {x y:AV} {xs ys:List AV} (hl:x.leaves.length=y.leaves.length) (h:V3 x.leaves y.leaves) (t:TC xs ys):TC (x::xs) (y::ys)
theorem TC.length:∀{xs ys:List AV},TC xs ys->xs.length=ys.length
 | _,_,.nil=>rfl
 | _,_,.cons _ _ t=>by simp [t.length]
theorem TC.els {w:World} {G:Y4} {k b:Nat}:∀{o:Nat} {xs ys:List AV},TC xs ys->Wz w G k b o xs->Wz w G k b o ys
 | _,_,_,.nil,_=>.nil
 | _,_,_,.cons hl h t,.cons hk hm r=>.cons (hl▸hk) (h.mem hm) (t.els r)
theorem Zc.els {es es':List AV} (hv:Option Value) (h:TC es es'):Zc (.sl es hv) (.sl es' none):=by
 intro w G v hr
 cases hr with
 | nil _=>cases h;exact .nil (by simp)
 | sl _ hc hm=>rw [h.length] at hc ⊢;exact .sl (by simp) hc (h.els hm)
theorem TC.map {α β:Type} {f:α->AV} {g:β->AV} {e:α->β} (h:∀x,(f x).leaves.length=(g (e x)).leaves.length/\V3 (f x).leaves (g (e x)).leaves):∀xs:List α,TC (xs.map f) ((xs.map e).map g)
 | []=>.nil
 | x::r=>.cons (h x).1 (h x).2 (TC.map h r)
theorem Z5g (c:WO):V3 (MU c) (BX c.er):=.cons (Zc.forget _ _) .nil
theorem SU (cs:List WO):TC (VA cs) (Xn (cs.map WO.er)):=TC.map (f:=Ix) (g:=Bt) (e:=WO.er) (fun c=>⟨rfl,Z5g c⟩) cs
theorem Z5h (d:WP):V3 (MV d) (UN d.er):=.cons (Zc.refl _) (.cons (Zc.refl _) (.cons (Zc.els _ (SU _)) .nil))
theorem SV (ds:List WP):TC (WG ds) (Yo (ds.map WP.er)):=TC.map (f:=Iy) (g:=Jb) (e:=WP.er) (fun c=>⟨rfl,Z5h c⟩) ds
theorem Tb {es:List AV} {k:Nat} (h:es.all (fun y=>Nat.beq y.leaves.length k)=true):∀y∈es,y.leaves.length=k:=fun y hy=>VW (Ks.1 h y hy)
abbrev rK (g:Hd) (k:Nat) (ls:List AV):Res:=.row g.v k ls
section
variable {P:Program} {n:Nat} {c:Code} {A:Wp} {F:Fr} {h:List Res} {ops:Array Oper} {B:Fr->List Res->Prop} {k:Nat}
variable {T:List (Nat × List Nat)} {fuel:Nat} {done:List Nat}
theorem tB (is:List Nat) (hs:List Res) (L' L:List (Value × Nat)) (e:L'=L) (hp:XR is h=some hs:=by kernel_rfl) (hb:TW hs=some L':=by kernel_rfl):Un h (.many L::Xj is h):=e▸Zba is hp hb
theorem rr {v:Value} {q:Nat} {ls ls':List AV} {t t':List Res} (h:ls=ls') (e:t=t'):Res.row v q ls::t=.row v q ls'::t':=h▸e▸rfl
theorem MG (j m:Nat) (v:Hd) (kk:Nat) (ls:List AV) (hm:ls.length=m*kk) (hk:0<kk:=by omega) (hl:BY P ops F k=some (.h v):=by kernel_rfl) (hj:h[j]? = some (rK v kk ls):=by kernel_rfl):Xm P (ZA ops k) F h [] (.i m):=
 Zat j hl hj hm hk
theorem XH (b l c' q sz:Nat) (j:Int) (hq:j=(q:Int)/\q<l:=by omega) (hi:Ag P ops F k=some (.val (.slice (some ⟨b,0,none⟩) l c'),j,sz):=by kernel_rfl):Xm P (ZA ops k) F h [] (.val (.pointer (some ⟨b,q*sz,none⟩))):=by
 have:=P6 (P:=P) (F:=F) (h:=h) hi om om
 rw [hq.1,VP,WM] at this
 exact this
theorem WF (j g len cap kk o:Nat) (ls zs:List AV) (t:TypeId) (y:AV) (hz:(ls.drop o).take zs.length=zs) (hl:Ht ops F k=some (t,.val (.pointer (some ⟨g,o,none⟩))):=by kernel_rfl) (hj:h[j]? = some (.row (.slice (some ⟨g,0,none⟩) len cap) kk ls):=by kernel_rfl)
  (hy:JB P t zs=some y:=by kernel_rfl):Xm P (ZA ops k) F h [g] y:=Zau j hl hj hz hy
theorem BT (j g len cap kk o:Nat) (xs ls:List AV) (ls':List AV) (hlt:o+xs.length<=ls.length) (he:ls.take o++xs++ls.drop (o+xs.length)=ls') (H:SI P n ops B (k+1) F (.row (.slice (some ⟨g,0,none⟩) len cap) kk ls'::Xj [j] h)) (hk:YU n ops F k=true:=by kernel_rfl)
  (hs:storeAt P ops F k=some (g,o,xs):=by kernel_rfl) (hp:XR [j] h=some [.row (.slice (some ⟨g,0,none⟩) len cap) kk ls]:=by kernel_rfl):SI P n ops B k F h:=
 T8 hk (W5.perm (VM (V0 hp)) (Nv hs hlt (by rw [he];exact H)))
theorem A5 (i j:Nat) (js bs:List Nat) (g len cap kk o:Nat) (xs ls:List AV) (ls':List AV) (hlt:o+xs.length<=ls.length) (he:ls.take o++xs++ls.drop (o+xs.length)=ls')
  (H:YM P n ops B (T.filter fun t=>!Wv ops i t.1) fuel (done++[i]) F (.row (.slice (some ⟨g,0,none⟩) len cap) kk ls'::Xj [j] h)) (hk:YU n ops F i=true:=by kernel_rfl)
  (hs:storeAt P ops F i=some (g,o,xs):=by kernel_rfl) (hp:XR [j] h=some [.row (.slice (some ⟨g,0,none⟩) len cap) kk ls]:=by kernel_rfl) (ho:Vu ops i T=bs:=by kernel_rfl)
  (hj:js.map (fun q=>(Wa (Xj [j] h))[q]?)=bs.map some:=by kernel_rfl):WV P n ops B T fuel done F h i:=
 Qp [j] js bs hk (V0 hp) ho hj (Nv (h2:=[]) hs hlt (by rw [he];exact H))
theorem BS (sz:Nat) (hK:∀g,SI P n ops B (k+1) (F.put (ZA ops k).dst (.val (.slice (some ⟨g,0,none⟩) 0 0))) (.row (.slice (some ⟨g,0,none⟩) 0 0) sz []::h)) (hk:YU n ops F k=true:=by kernel_rfl)
  (ha:UO P ops F k=some ([],0,sz):=by kernel_rfl):SI P n ops B k F h:=T8 hk (Z6c (Vf hk).2.1 ha hK)
theorem H6 (j g sz:Nat) (xs:List AV) (hx:Option Value) (hxs:∀y∈xs,y.leaves.length=sz) (hbound:xs.length<=4294967296) (hK:∀v:Hd,SI P n ops B (k+1) (F.put (ZA ops k).dst (.h v)) (rK v sz (Zd xs)::Xj [j] h))
  (hk:YU n ops F k=true:=by kernel_rfl) (ha:VX P ops F k=some (.val (.slice (some ⟨g,0,none⟩) 0 0),.sl xs hx,sz):=by kernel_rfl) (hp:XR [j] h=some [.row (.slice (some ⟨g,0,none⟩) 0 0) sz []]:=by kernel_rfl):SI P n ops B k F h:=
 T8 hk (W5.perm (VM (V0 hp)) (Z6a (Vf hk).2.1 ha hxs hbound hK))
theorem MD (j m:Nat) {v:Hd} {kk:Nat} {ls:List AV} (hm:ls.length=m*kk) (h0:0<m) (H:∀g c',v=⟨some ⟨g,0,none⟩,m,c'⟩->YE P n c A F h) (hk:0<kk:=by omega) (hj:h[j]? = some (rK v kk ls):=by kernel_rfl):YE P n c A F h:=
 PN j m hj hm hk h0 H
theorem MF (t j:Nat) {v:Hd} {kk:Nat} (es:List AV) (hes:∀y∈es,y.leaves.length=kk) (H:YE P n c A ((t,.sl es (some v.v))::F) (.tail v.v kk::Xj [j] h)) (hk:0<kk:=by omega) (hF':F.get t=.h v:=by kernel_rfl)
  (hp:XR [j] h=some [rK v kk (Zd es)]:=by kernel_rfl):YE P n c A F h:=PM t j hF' hp hes hk H
theorem Zb9 (j i p:Nat) (u v:Value) (kk kv:Nat) (es ls:List AV) (hes:∀y∈es,y.leaves.length=kk) (hl:ls[p]? = some (.val u)) (hk:0<kk:=by omega) (hp:XR [j,i] h=some [.row u kk (Zd es),.row v kv ls]:=by kernel_rfl) :
  Un h (.row v kv (ls.set p (.sl es (some u)))::.tail u kk::Xj [j,i] h):=Pi j i p hp hes hk hl
theorem Dn {A xs ys B:List AV} {o:Nat} (hA:A.length=o) (hl:xs.length=ys.length):(A++(xs++B)).take o++ys++(A++(xs++B)).drop (o+ys.length)=A++(ys++B):=by
 subst hA
 rw [J6,<-hl,<-List.drop_drop,List.drop_left,List.drop_left,Ul]
theorem HN {A xs B:List AV} {o:Nat} (hA:A.length=o):((A++(xs++B)).drop o).take xs.length=xs:=by
 subst hA
 rw [List.drop_left,J6]
theorem VS (xs ys:List AV):Zd (xs++ys)=Zd xs++Zd ys:=by simp [Zd]
theorem Z0c:Zd []=[]:=rfl
theorem Cd (j:Nat) (v:Value) (q:Nat) (ls ls':List AV) (e:ls=ls') (hp:XR [j] h=some [.row v q ls]:=by kernel_rfl):Un h (.row v q ls'::Xj [j] h):=by
 subst e
 intro w G hh
 have hp':=VM (V0 hp)
 exact ⟨G,hh.perm hp',(YO.refl w G h).perm (TA _) hp'⟩
end
end Go.Abs
end
section
namespace Go.Abs
theorem Yq.rgrow {w:World} {G:Y4} {h2:List Res} {g len len' cap k:Nat} {ls ls':List AV} (hh:Yq w G (.row (.slice (some ⟨g,0,none⟩) len cap) k ls::h2)) {cs cs':Array Value} {e:TypeId}
  (hb:w.heap[g]? = some (.cells cs e (0,0))) (Xf:cs'.size=cs.size) (hle:len'<=cap) (hcap:cs.size=cap*k) (hl:ls'.length=len'*k) (hls:YF w G ls' (cs'.toList.take (len'*k))) :
  Yq (w.setRow g cs') G (.row (.slice (some ⟨g,0,none⟩) len' cap) k ls'::h2) /\
   YO w G (.row (.slice (some ⟨g,0,none⟩) len cap) k ls::h2) (w.setRow g cs') G (.row (.slice (some ⟨g,0,none⟩) len' cap) k ls'::h2):=by
 have hmem:Res.row (.slice (some ⟨g,0,none⟩) len cap) k ls∈Res.row (.slice (some ⟨g,0,none⟩) len cap) k ls::h2:=X4 ..
 have hA:Vk G w (w.setRow g cs') G:=⟨fun c j hg=>by
  have hne:c≠g:=fun he=>hh.prot _ hmem c j he hg
  simp [World.cell?,Vb w g c cs' hne],fun _ _ h=>h⟩
 have e1:YO w G [.row (.slice (some ⟨g,0,none⟩) len cap) k ls] (w.setRow g cs') G [.row (.slice (some ⟨g,0,none⟩) len' cap) k ls']:=by
  refine ⟨rfl,rfl,rfl,by simp [World.setRow],fun _ _ h=>h,?_,fun _ _ _ h=>.inl h,?_⟩
  ·intro c hc
   by_cases hcb:c=g
   ·subst hcb
    exact .inr ⟨cs,cs',e,(0,0),hb,setRow_heap w c cs cs' e (0,0) hb,Xf,fun j hj=>absurd ⟨_,X4 ..,rfl⟩ hj⟩
   ·exact .inl (Vb w g c cs' hcb)
  ·rintro c j _ ⟨r,hr,hf⟩
   rw [XU.1 hr] at hf
   exact ⟨_,X4 ..,hf⟩
 have e2:Yq (w.setRow g cs') G [.row (.slice (some ⟨g,0,none⟩) len' cap) k ls']:=by
  refine ⟨fun r hr=>?_,Ch _ _,fun r hr c j hf hg=>?_,fun c j hg=>?_⟩
  ·rw [XU.1 hr]
   exact .inr ⟨g,len',cap,cs',e,rfl,setRow_heap w g cs cs' e (0,0) hb,hle,Xf.trans hcap,hl,hls.mono hA⟩
  ·rw [XU.1 hr] at hf
   exact hh.prot _ hmem c j hf hg
  ·have:=hh.lt c j hg
   simpa [World.setRow] using this
 exact Yq.frame (h:=[.row (.slice (some ⟨g,0,none⟩) len cap) k ls]) (k:=h2) hh e1 e2
section
variable {P:Program} {n:Nat} {ops:Array Oper} {k:Nat} {F:Fr} {h2:List Res}
theorem Nt {K:Fr->List Res->Prop} {v:Hd} {sz m:Nat} {ls xs:List AV} {hx:Option Value} (hd:WW n (ZA ops k)=true) (ha:VX P ops F k=some (.val v.v,.sl xs hx,sz))
  (hxs:∀y∈xs,y.leaves.length=sz) (hone:(Zd xs).all AV.one=true) (hm0:ls.length=m*sz) (hk0:0<sz) (hne:xs≠[]) (hbound:m+xs.length<=4294967296)
  (hK:∀v':Hd,K (F.put (ZA ops k).dst (.val v'.v)) (.row v'.v sz (ls++Zd xs)::h2)):W5 P n (ZA ops k) F (.row v.v sz ls::h2) K:=by
 unfold VX at ha
 generalize hoo:ZA ops k=o at ha hd hK
 obtain ⟨dst,op,type,pos,after,guard⟩:=o
 cases op<;>simp only at ha<;>try (cases ha)
 rename_i c
 obtain ⟨callee,args,tys⟩:=c
 simp only at ha
 split at ha
 case h_2=>cases ha
 rename_i s x t t' hargs htys
 split at ha
 case h_2=>cases ha
 rename_i e htt ht
 have:=VW htt
 subst this
 split at ha
 case h_2=>cases ha
 rename_i i hinfo
 split at ha
 case h_2=>cases ha
 rename_i z hz
 split at ha
 case h_2=>cases ha
 rename_i hb
 simp only [Xx] at hb
 simp only [XV,Prod.mk.injEq] at ha
 obtain ⟨h3,h4,hk1⟩:=ha
 have e1:args=#[s,x]:=by rw [<-VG (xs:=args),hargs]
 have e2:tys=#[t,t]:=by rw [<-VG (xs:=tys),htys]
 subst e1;subst e2
 have hzs:z.cells.size=sz:=by rw [VW hb.1,hk1]
 have hby:=Wy hb.2
 have hfl:=U1 xs hxs
 intro Q w G a hF hh
 have v1:=hF.ev s
 have v2:=hF.ev x
 rw [h3] at v1
 rw [h4] at v2
 have v1:=v1.val_inv
 have v2:=v2.forget
 have finish:∀(v':Hd) w',(Builtin.append_ #[t,t] type #[v.v,a.eval x]).run P w=.ok v'.v w'->Yq w' G (.row v'.v sz (ls++Zd xs)::h2)->YO w G (.row v.v sz ls::h2) w' G (.row v'.v sz (ls++Zd xs)::h2) ->
   ({ dst:=dst,op:=.call { callee:=.builtin .append,args:=#[s,x],argTypes:=#[t,t] },type:=type,pos:=pos,after:=after,guard:=guard }:Oper).wp P a w
    (fun a' w'=>∃F' h' G',K F' h'/\FR w' G' n F' a'/\Yq w' G' h'/\YO w G (.row v.v sz ls::h2) w' G' h') Q:=by
  intro v' w' hr j1 j2
  have hrun:(execOp a.eval { dst:=dst,op:=.call { callee:=.builtin .append,args:=#[s,x],argTypes:=#[t,t] },type:=type,pos:=pos,after:=after,guard:=guard }).run P w=.ok (.value v'.v) w':=by
   simp only [execOp,resolve,invoke,builtin,Sem.run_bind,Sem.run_pure,Result.andThen_ok,Bn,VQ,AE,v1,hr]
  unfold Oper.wp
  rw [hrun]
  exact ⟨_,_,G,hK v',(hF.mono (j2.agree hh)).put (Ub hd) .val,j1,j2⟩
 have hrow0:=hh.ok (.row v.v sz ls) (X4 ..)
 have hsub2:∀r:Res,List.Sublist (r::h2) (r::.row v.v sz ls::h2):=fun r=>List.Sublist.cons_cons _ (AF _ _)
 have grown:∀(olds news:List Value) (old:Nat),YF w G ls olds->YF w G (Zd xs) news ->
   Yq (w.drew.alloc (.cells (olds.toArray++news.toArray++Builtin.zeroCells z.cells (grownCap w (m+xs.length) old e-(m+xs.length))) e)) G
    (.row (.slice (some ⟨w.heap.size,0,none⟩) (m+xs.length) (grownCap w (m+xs.length) old e)) sz (ls++Zd xs)::h2) /\
   YO w G (.row v.v sz ls::h2) (w.drew.alloc (.cells (olds.toArray++news.toArray++Builtin.zeroCells z.cells (grownCap w (m+xs.length) old e-(m+xs.length))) e)) G
    (.row (.slice (some ⟨w.heap.size,0,none⟩) (m+xs.length) (grownCap w (m+xs.length) old e)) sz (ls++Zd xs)::h2):=by
  intro olds news old ho hn
  have YV:=grownCap_ge w (m+xs.length) old e
  have hol:=ho.length
  have hnl:=hn.length
  have hlen:(ls++Zd xs).length=(m+xs.length)*sz:=by rw [Ym,hm0,hfl,TB]
  obtain ⟨j1,j2⟩:=hh.drew.alloc_rrow (olds.toArray++news.toArray++Builtin.zeroCells z.cells (grownCap w (m+xs.length) old e-(m+xs.length))) e
   (ls:=ls++Zd xs) (len:=m+xs.length) (cap:=grownCap w (m+xs.length) old e) (k:=sz) YV
   (by
    have q2:(grownCap w (m+xs.length) old e-(m+xs.length))*sz=grownCap w (m+xs.length) old e*sz-(m+xs.length)*sz:=Nat.sub_mul ..
    have q3:(m+xs.length)*sz<=grownCap w (m+xs.length) old e*sz:=TS _ YV
    have q4:(m+xs.length)*sz=m*sz+xs.length*sz:=TB ..
    simp only [Array.size_append,Ci,size_zeroCells,hzs,hol,hnl,hm0,hfl]
    omega) hlen
   (by
    have:(olds.toArray++news.toArray++Builtin.zeroCells z.cells (grownCap w (m+xs.length) old e-(m+xs.length))).toList.take ((m+xs.length)*sz)=olds++news:=by
     simp only [Cf]
     rw [<-hlen,Ym,<-hol,<-hnl,<-Ym]
     exact J6
    rw [this]
    exact (ho.append hn).mono (JW w G))
  exact ⟨j1.sub (hsub2 _),(YO.drew w G _).trans (j2.sub' (hsub2 _))⟩
 generalize hax:a.eval x=ax at v2 finish
 cases v2 with
 | nil _=>exact absurd rfl hne
 | sl hq hcc hm=>
  rename_i b o' k' c
  have hpos:0<xs.length:=FF.2 hne
  have hfm:=hm.flat_mem
  obtain ⟨news,hn,hnc⟩:=hfm.cells
  have hnl:news.length=xs.length*i.size:=by rw [hn.length,hfl,hk1]
  have hone':=hn.one_cells hone
  have hnews:∀j u,news[j]? = some u->w.cell? ((⟨b,o',none⟩:Addr).add j)=some u:=fun j u hj=>by rw [QF];exact (hnc j u hj).1
  have hbb:(m+xs.length)*i.bytes<=140737488355328:=by
   have:=Nat.mul_le_mul hbound hby
   omega
  rcases hrow0 with ⟨hv0,hl0⟩|⟨g,len,cap,cur,el,hv0,hrow,hlc,hcur,hll,hcells⟩
  ·subst hl0
   have hm1:m=0:=by
    have:m*sz=0:=by simpa using hm0.symm
    rcases Nat.mul_eq_zero.1 this with h|h
    ·exact h
    ·omega
   subst hm1
   rw [hv0] at finish hh ⊢
   have hr:=run_append_nil (P:=P) w t type e i z ht hinfo hz ⟨b,o',none⟩ xs.length c news hnl hnews hpos om (by simp only [WM] at hbb;omega)
   obtain ⟨j1,j2⟩:=grown [] news 0 .nil hn
   simp only [WM,Array.empty_append,Bo] at j1 j2
   rw [hv0] at j2
   exact finish ⟨some ⟨w.heap.size,0,none⟩,xs.length,grownCap w xs.length 0 e⟩ _ hr (by simpa using j1) (by simpa using j2)
  ·have hlm:len=m:=FH hk0 (hll.symm.trans hm0)
   subst hlm
   rw [hv0] at finish hh ⊢
   have q5:len*sz<=cap*sz:=TS _ hlc
   have h1:(cur.toList.take (len*sz)).length=len*sz:=by rw [Wn,QA,hcur,Vj q5]
   have hcl:cur.toList.length=cap*sz:=by rw [QA,hcur]
   by_cases hroom:len+xs.length<=cap
   ·have q1:(len+xs.length)*sz<=cap*sz:=TS _ hroom
    have q2:(len+xs.length)*sz=len*sz+xs.length*sz:=TB ..
    have hfit:len*i.size+news.length<=cur.size:=by rw [hnl,hcur,hk1];omega
    have hr:=Fb (P:=P) w t type e el i ht hinfo g len cap cur hrow ⟨b,o',none⟩ xs.length c news hnl hnews hone' hroom hfit
    rw [hk1] at hr
    have hnl':news.length=xs.length*sz:=by rw [hnl,hk1]
    obtain ⟨j1,j2⟩:=hh.rgrow (ls':=ls++Zd xs) (len':=len+xs.length) (cs':=(cur.toList.take (len*sz)++news++cur.toList.drop (len*sz+news.length)).toArray) hrow
     (by simp only [Ci,Ym,h1,hnl',J5,hcl,hcur];omega) hroom hcur (by rw [Ym,hll,hfl,q2]) (by
      have:(cur.toList.take (len*sz)++news++cur.toList.drop (len*sz+news.length)).toArray.toList.take ((len+xs.length)*sz)=cur.toList.take (len*sz)++news:=by
       rw [Cj,q2,<-hnl']
       conv=>lhs;arg 1;rw [show len*sz+news.length=(cur.toList.take (len*sz)++news).length from by rw [Ym,h1]]
       exact J6
      rw [this]
      exact hcells.append hn)
    exact finish ⟨some ⟨g,0,none⟩,len+xs.length,cap⟩ _ hr j1 j2
   ·have hr:=run_append_grow (P:=P) w t type e i z ht hinfo hz ⟨g,0,none⟩ len cap (cur.toList.take (len*sz)) (by rw [hk1];exact h1) (fun j u hj=>by
     rw [QF,cell_of_row w g _ cur el (0,0) hrow]
     rw [Qi] at hj
     split at hj
     ·simpa using hj
     ·cases hj) ⟨b,o',none⟩ xs.length c news hnl hnews om om (growslice_fits om hbb)
    obtain ⟨j1,j2⟩:=grown (cur.toList.take (len*sz)) news cap hcells hn
    rw [hv0] at j2
    exact finish ⟨some ⟨w.heap.size,0,none⟩,len+xs.length,grownCap w (len+xs.length) cap e⟩ _ hr j1 j2
end
section
variable {P:Program} {n:Nat} {ops:Array Oper} {B:Fr->List Res->Prop} {k:Nat} {F:Fr} {h:List Res}
theorem Ey (j m:Nat) (v:Hd) (sz:Nat) (ls xs:List AV) (hx:Option Value) (hm0:ls.length=m*sz) (hxs:∀y∈xs,y.leaves.length=sz) (hone:(Zd xs).all AV.one=true) (hne:xs≠[]) (hbound:m+xs.length<=4294967296)
  (hK:∀v':Hd,SI P n ops B (k+1) (F.put (ZA ops k).dst (.h v')) (rK v' sz (ls++Zd xs)::Xj [j] h)) (hk0:0<sz:=by omega)
  (hk:YU n ops F k=true:=by kernel_rfl) (ha:VX P ops F k=some (.h v,.sl xs hx,sz):=by kernel_rfl) (hp:XR [j] h=some [rK v sz ls]:=by kernel_rfl):SI P n ops B k F h:=
 T8 hk (W5.perm (VM (V0 hp)) (Nt (Vf hk).2.1 ha hxs hone hm0 hk0 hne hbound hK))
end
end Go.Abs
namespace Go.Abs
section
variable {P:Program} {n:Nat} {ops:Array Oper} {B:Fr->List Res->Prop} {T:List (Nat × List Nat)} {fuel:Nat} {done:List Nat} {F:Fr} {h:List Res}
theorem Ge (i j m:Nat) (js bs:List Nat) (v:Hd) (sz:Nat) (ls xs:List AV) (hx:Option Value) (hm0:ls.length=m*sz) (hxs:∀y∈xs,y.leaves.length=sz) (hone:(Zd xs).all AV.one=true) (hne:xs≠[]) (hbound:m+xs.length<=4294967296)
  (hK:∀v':Hd,YM P n ops B (T.filter fun t=>!Wv ops i t.1) fuel (done++[i]) (F.put (ZA ops i).dst (.h v')) (rK v' sz (ls++Zd xs)::Xj [j] h)) (hk0:0<sz:=by omega) (hk:YU n ops F i=true:=by kernel_rfl)
  (ha:VX P ops F i=some (.h v,.sl xs hx,sz):=by kernel_rfl) (hp:XR [j] h=some [rK v sz ls]:=by kernel_rfl) (ho:Vu ops i T=bs:=by kernel_rfl)
  (hj:js.map (fun q=>(Wa (Xj [j] h))[q]?)=bs.map some:=by kernel_rfl):WV P n ops B T fuel done F h i:=
 Qp [j] js bs hk (V0 hp) ho hj (Nt (h2:=[]) (Vf hk).2.1 ha hxs hone hm0 hk0 hne hbound hK)
end
theorem Wb.form {P:Program} {f:FuncId} {as1:List AV} {h0:List Res} {T:Hd->AV} {kk m:Nat} {ls:List AV} {hs:List Res} (H:Wb P f as1 h0 (fun r h=>∃v:Hd,r=T v/\h=rK v kk ls::hs)) (hm:ls.length=m*kk) (hk:0<kk) (h1:0<m) :
  Wb P f as1 h0 (fun r h=>∃(g c:Nat),r=T ⟨some ⟨g,0,none⟩,m,c⟩/\h=rK ⟨some ⟨g,0,none⟩,m,c⟩ kk ls::hs):=by
 intro w G vs hv hh
 refine (H w G vs hv hh).mono ?_
 rintro e w' ⟨u,r,h',G',he,⟨v,rfl,rfl⟩,hr,hh',hx⟩
 obtain ⟨g,c,rfl⟩:=HM (hh'.ok _ (X4 ..)) hm hk h1
 exact ⟨u,_,_,G',he,⟨g,c,rfl,rfl⟩,hr,hh',hx⟩
end Go.Abs
namespace Go.Abs
section
variable {h:List Res}
theorem Zbc (j i p:Nat) {u:Value} {kk b:Nat} {es ls:List AV} (hp:XR [j,i] h=some [.row u kk (Zd es),.obj b ls]) (hes:∀y∈es,y.leaves.length=kk) (hk:0<kk) (hl:ls[p]? = some (.val u)) :
  Un h (.obj b (ls.set p (.sl es (some u)))::.tail u kk::Xj [j,i] h):=by
 intro w G hh
 have hp':=VM (V0 hp)
 have hh':=hh.perm hp'
 obtain ⟨G',h1,h2',h3⟩:=C7 (h2:=.obj b ls::Xj [j,i] h) hh' hes hk
 have e:=h2'.perm hp'.symm (TA _)
 have h1:Yq w G' (.tail u kk::.obj b ls::Xj [j,i] h):=h1
 have perm:(Res.tail u kk::.obj b ls::Xj [j,i] h).Perm (.obj b ls::.tail u kk::Xj [j,i] h):=List.Perm.swap ..
 have h4:=h1.perm perm
 have e4:=e.perm (TA _) perm
 have hset:∀{w:World} {G:Y4},RV w G (.sl es (some u)) u->Tk w G (.obj b ls)->Tk w G (.obj b (ls.set p (.sl es (some u)))):=by
  intro w G hu hr
  obtain ⟨cs,el,k1,k5⟩:=hr
  refine ⟨cs,el,k1,?_⟩
  obtain ⟨c,c1,c2⟩:=k5.get p _ hl
  have:=c2.val_inv
  subst this
  have h6:=k5.set p hu
  rwa [show cs.toList.set p c=cs.toList from by
   apply List.ext_getElem?
   intro q
   rw [List.getElem?_set]
   split
   ·rename_i hq;subst hq;split
    ·exact c1.symm
    ·rename_i hq2;rw [Cg om]
   ·rfl] at h6
 refine ⟨G',⟨fun r hr=>?_,?_,fun r hr=>?_,h4.lt⟩,⟨e4.os,e4.tape,e4.output,e4.size,e4.sub,e4.same,e4.newG,fun b' o hb ⟨r,hr,hf⟩=>e4.newfp b' o hb ?_⟩⟩
 ·rcases YD.1 hr with rfl|hr
  ·exact hset h3 (h4.ok _ (X4 ..))
  ·exact h4.ok r (Xp _ hr)
 ·have:=Wo.1 h4.apart
  exact Wo.2 ⟨fun r hr b' o f1 f2=>this.1 r hr b' o f1 f2,this.2⟩
 ·rcases YD.1 hr with rfl|hr
  ·exact fun b' o f1 hg=>h4.prot (.obj b ls) (X4 ..) b' o f1 hg
  ·exact h4.prot r (Xp _ hr)
 ·rcases YD.1 hr with rfl|hr
  ·exact ⟨.obj b ls,X4 ..,hf⟩
  ·exact ⟨r,Xp _ hr,hf⟩
theorem UD (j i p:Nat) (u:Value) (kk b:Nat) (es ls:List AV) (hes:∀y∈es,y.leaves.length=kk) (hl:ls[p]? = some (.val u)) (hk:0<kk:=by omega) (hp:XR [j,i] h=some [.row u kk (Zd es),.obj b ls]:=by kernel_rfl) :
  Un h (.obj b (ls.set p (.sl es (some u)))::.tail u kk::Xj [j,i] h):=Zbc j i p hp hes hk hl
end
end Go.Abs
namespace Go.Abs
section
variable {P:Program} {n:Nat} {ops:Array Oper} {k:Nat} {F:Fr} {h:List Res}
theorem Zav (j:Nat) {g l c m kk:Nat} {ls:List AV} (hi:Cb P ops F k=some (.val (.slice (some ⟨g,0,none⟩) l c),(m:Int))) (hj:h[j]? = some (.row (.slice (some ⟨g,0,none⟩) l c) kk ls)) (hle:m<=l) :
  Xm P (ZA ops k) F h [] (.val (.slice (some ⟨g,0,none⟩) m c)):=by
 unfold Cb at hi
 generalize hoo:ZA ops k=o at hi
 obtain ⟨dst,op,type,pos,after,guard⟩:=o
 cases op<;>simp only at hi<;>try (cases hi)
 rename_i t x lo hi' mx
 cases lo with
 | some _=>simp at hi
 | none=>
  cases hi' with
  | none=>simp at hi
  | some y=>
   cases mx with
   | some _=>simp at hi
   | none=>
    simp only at hi
    split at hi
    ·rename_i e ht
     split at hi
     ·rename_i inf hinf
      split at hi
      ·rename_i ik m' hm
       simp only [XV,Prod.mk.injEq] at hi
       obtain ⟨hx,rfl⟩:=hi
       intro n w G a hF hh
       have v1:=hF.ev x
       rw [hx] at v1
       have v1:=v1.val_inv
       have v2:=hF.ev y
       rw [hm] at v2
       have v2:=v2.val_inv
       have hcap:l<=c:=by
        rcases hh.ok _ (ZY hj) with ⟨h0,_⟩|⟨g',l',c',cur,el,h0,_,hc,_⟩
        ·cases h0
        ·cases h0;exact hc
       refine ⟨_,.val,fun w' _ _=>?_⟩
       simp only [execOp,v1,v2,AG,Option.map_none]
       refine WT ?_
       simp only [Instr.sliceAt,Sem.run_bind,Vi ht,Result.andThen_ok,Instr.slice]
       have hmm:(Instr.sliceBounds true l c none (some (.int ik (m:Int))) none).run P w'=.ok (0,m,c) w':=by
        have ZF:=fun q=>C9 (P:=P) (c:=q) (v:=.int ik (m:Int)) (y:=c) rfl om om w'
        simp [Instr.sliceBounds,ZF]
       rw [hmm]
       have hz:∀a:Addr,a.add 0=a:=fun a=>by simp [Addr.add]
       simp only [Result.andThen_ok,TL hinf,Nat.zero_mul,hz]
       by_cases h0:c=0<;>simp [h0]
      ·cases hi
     ·cases hi
    ·cases hi
theorem Hc (j g l c m kk:Nat) (ls:List AV) (hle:m<=l:=by omega) (hi:Cb P ops F k=some (.val (.slice (some ⟨g,0,none⟩) l c),(m:Int)):=by kernel_rfl) (hj:h[j]? = some (.row (.slice (some ⟨g,0,none⟩) l c) kk ls):=by kernel_rfl) :
  Xm P (ZA ops k) F h [] (.val (.slice (some ⟨g,0,none⟩) m c)):=Zav j hi hj hle
variable {B:Fr->List Res->Prop}
end
end Go.Abs
end
namespace Go.Abs
theorem Y3 {α:Type} {xs:List α} {k:Nat} {x:α} (h:xs[k]? = some x):xs.drop k=x::xs.drop (k+1):=by
 have hk:=(XC.1 h).1
 rw [PA hk]
 congr 1
 rw [AC hk] at h
 exact JP h
theorem YY {α:Type} {xs:List α} {k:Nat} (h:xs.length<=k):xs.drop k=[]:=FD h
theorem Wu {α:Type} {xs:List α} {k:Nat} {x:α} (h:xs[k]? = some x):xs.take (k+1)=xs.take k++[x]:=by
 rw [List.take_add_one,h];rfl
def Yy:List Ze->Nat
 | []=>0
 | d::ds=>d.cons.length+Yy ds
theorem Ct (xs ys:List Ze):Yy (xs++ys)=Yy xs+Yy ys:=by
 induction xs with
 | nil=>simp [Yy]
 | cons d ds ih=>simp [Yy,ih];omega
structure W4 (ds:List Ze):Prop where
 len:ds.length<=4
 cons:∀d∈ds,d.cons.length<=3
 fields:∀d∈ds,∀c∈d.cons,c.fields.length<=3
theorem RO {ds:List Ze} {m:Nat} (h:∀d∈ds,d.cons.length<=m):Yy ds<=ds.length*m:=by
 induction ds with
 | nil=>simp [Yy]
 | cons d ds ih=>
  have h1:=h d (by simp)
  have h2:=ih (fun x hx=>h x (by simp [hx]))
  simp only [Yy,YL,TB];omega
theorem W4.sum {ds:List Ze} (h:W4 ds):Yy ds<=12:=by
 have:=RO h.cons
 have:=h.len
 have:ds.length*3<=4*3:=TS 3 h.len
 omega
theorem W4.take {ds:List Ze} (h:W4 ds) (k:Nat):W4 (ds.take k):=
 ⟨by have:=h.len;simp;omega,fun d hd=>h.cons d (TR hd),fun d hd=>h.fields d (TR hd)⟩
theorem W4.cons_at {ds:List Ze} (h:W4 ds) {k:Nat} {d:Ze} (hd:ds[k]? = some d):d.cons.length<=3:=h.cons d (ZY hd)
theorem W4.fields_at {ds:List Ze} (h:W4 ds) {k j:Nat} {d:Ze} {c:Y1} (hd:ds[k]? = some d) (hc:d.cons[j]? = some c):c.fields.length<=3:=
 h.fields d (ZY hd) c (ZY hc)
def Up (c:Int):List Ze->Nat->Nat->Int × LI
 | [],_,_=>(-1,[])
 | d::ds,i,first=>
  if (first:Int)<=c/\c<=((first+d.cons.length:Nat):Int)-1 then ((i:Int)+1,(d.cons[(c-first).toNat]?.map (·.fields)).getD []) else Up c ds (i+1) (first+d.cons.length)
def XL (ds:List Ze) (c:Int):Int:=(Up c ds 0 0).1
def ZQ (ds:List Ze) (c:Int):LI:=(Up c ds 0 0).2
theorem Ga {c:Int}:∀{ds:List Ze} {i first:Nat},(Up c ds i first=(-1,[]) ∨
  ∃k d x,ds[k]? = some d/\(first+Yy (ds.take k):Int)<=c/\c<first+Yy (ds.take k)+d.cons.length/\d.cons[(c-(first+Yy (ds.take k))).toNat]? = some x/\Up c ds i first=((i:Int)+k+1,x.fields))
 | [],_,_=>.inl rfl
 | d::ds,i,first=>by
  rw [Up]
  split
  ·rename_i h
   have hlt:(c-first).toNat<d.cons.length:=by omega
   refine .inr ⟨0,d,d.cons[(c-first).toNat],rfl,by simp [Yy];omega,by simp [Yy];omega,?_,?_⟩
   ·simp [Yy]
   ·rw [AC hlt];simp
  ·rcases Ga (c:=c) (ds:=ds) (i:=i+1) (first:=first+d.cons.length) with h|⟨k,e,x,h1,h2,h3,h4,h5⟩
   ·exact .inl h
   ·refine .inr ⟨k+1,e,x,by simpa using h1,by simp [Yy];omega,by simp [Yy];omega,?_,?_⟩
    ·rw [<-h4];congr 3;simp [Yy];omega
    ·rw [h5];congr 1;omega
theorem Gc {ds:List Ze} {c:Int} (h:¬XL ds c<1) :
  ∃k d x,ds[k]? = some d/\(Yy (ds.take k):Int)<=c/\d.cons[(c-Yy (ds.take k)).toNat]? = some x/\XL ds c=(k:Int)+1/\ZQ ds c=x.fields:=by
 rcases Ga (c:=c) (ds:=ds) (i:=0) (first:=0) with h1|⟨k,d,x,h1,h2,_,h4,h5⟩
 ·simp [XL,h1] at h
 ·exact ⟨k,d,x,h1,by simpa using h2,by simpa using h4,by simp [XL,h5],by simp [ZQ,h5]⟩
theorem DW {ds:List Ze} {c:Int} (h:XL ds c<1):ZQ ds c=[]/\XL ds c=-1:=by
 rcases Ga (c:=c) (ds:=ds) (i:=0) (first:=0) with h1|⟨k,d,x,h1,h2,_,h4,h5⟩
 ·simp [ZQ,XL,h1]
 ·simp [XL,h5] at h;omega
def WY (first:Int):Nat->LI
 | 0=>[]
 | n+1=>first::WY (first+1) n
theorem Nh (first:Int) (n:Nat):WY first (n+1)=WY first n++[first+n]:=by
 induction n generalizing first with
 | zero=>simp [WY]
 | succ n ih=>rw [WY,ih (first+1),WY];simp;omega
@[simp] theorem Z5x (first:Int) (n:Nat):(WY first n).length=n:=by
 induction n generalizing first with
 | zero=>rfl
 | succ n ih=>simp [WY,ih]
def ZT (ds:List Ze) (t:Int):LI:=
 if 1<=t/\t<=ds.length then WY (Yy (ds.take (t-1).toNat)) (((ds[(t-1).toNat]?).map (·.cons.length)).getD 0) else []
def Ql (frm to_:Int):List Ze->Nat->Int
 | [],_=>-1
 | d::ds,i=>if d.cons.length=0/\d.frm=frm/\d.to_=to_ then (i:Int)+1 else Ql frm to_ ds (i+1)
def VH (ds:List Ze) (frm to_:Int):Int:=Ql frm to_ ds 0
def XA (ds:List Ze) (t:Int):Bool:=decide (1<=t/\t<=ds.length)&&((ds[(t-1).toNat]?).map fun d=>decide (d.cons.length=0)).getD false
theorem EE {ds:List Ze} {t:Int} {x:Ze} (h:1<=t/\t<=ds.length) (hx:ds[(t-1).toNat]? = some x):((x.cons.length:Int)==0)=XA ds t:=by
 rw [XA,hx,X8];simp [h]
theorem H7 {ds:List Ze} {t:Int} (h:¬(1<=t/\t<=ds.length)):false=XA ds t:=by
 rw [XA,X8];simp only [Bool.false_eq_true,Xx,decide_eq_true_eq,h,false_and]
def XP (m:Nat) (xs:LI):Bool:=xs.all fun t=>decide (0<=t/\t<=m)
end Go.Abs
section
namespace Go.Abs
section
variable {h:List Res}
end
end Go.Abs
namespace Go.Abs
section
variable {P:Program} {ops:Array Oper} {k:Nat} {F:Fr} {h:List Res}
end
end Go.Abs
end
namespace Go.Abs
section
variable {P:Program} {n:Nat} {ops:Array Oper} {B:Fr->List Res->Prop} {k:Nat} {F:Fr} {h:List Res} {T:List (Nat × List Nat)} {fuel:Nat} {done:List Nat}
theorem Nu {K:Fr->List Res->Prop} {ls:List AV} {len sz:Nat} (hd:WW n (ZA ops k)=true) (ha:UO P ops F k=some (ls,len,sz)) (hlen:ls.length=len*sz)
  (hK:∀g,K (F.put (ZA ops k).dst (.val (.slice (some ⟨g,0,none⟩) len len))) (.row (.slice (some ⟨g,0,none⟩) len len) sz ls::h)):W5 P n (ZA ops k) F h K:=by
 unfold UO at ha
 generalize hoo:ZA ops k=q at ha hd hK
 obtain ⟨dst,op,type,pos,after,guard⟩:=q
 cases op<;>simp only at ha<;>try (cases ha)
 rename_i t ln parts
 split at ha
 case h_2=>cases ha
 rename_i e ht
 split at ha
 case h_2=>cases ha
 rename_i i hi
 split at ha
 case h_2=>cases ha
 rename_i hc
 simp only [Xx] at hc
 split at ha
 case h_2=>cases ha
 rename_i ls' hf
 simp only [XV,Prod.mk.injEq] at ha
 obtain ⟨rfl,rfl,Xf⟩:=ha
 intro Q w G a hF hh
 obtain ⟨cs,h1,h2⟩:=Fc hF parts ht hi rfl hc.1 hc.2 hf
 have hr:(execOp a.eval { dst:=dst,op:=.buildSlice t ln parts,type:=type,pos:=pos,after:=after,guard:=guard }).run P w =
   .ok (.value (.slice (some ⟨w.heap.size,0,none⟩) ln ln)) (w.alloc (.cells cs e)):=by
  simp only [execOp]
  exact WT h2
 unfold Oper.wp
 rw [hr]
 have hlc:=h1.length
 simp only [QA] at hlc
 obtain ⟨j1,j2⟩:=hh.alloc_rrow cs e (ls:=ls') (len:=ln) (cap:=ln) (k:=sz) (YT _) (by rw [hlc];exact hlen) hlen (by rw [<-hlen,<-hlc];simpa [WK] using h1)
 exact ⟨_,_,G,hK _,(hF.mono (j2.agree hh)).put (Ub hd) .val,j1,j2⟩
theorem U2 (es es':List AV) (he:es=es') (len sz:Nat) (hK:∀v,SI P n ops B (k+1) (F.put (ZA ops k).dst (.sl es' (some v))) (.tail v sz::h)) (hk:YU n ops F k=true:=by kernel_rfl)
  (ha:UO P ops F k=some (Zd es,len,sz):=by kernel_rfl) (hlen:es.length=len:=by kernel_rfl) (hall:Jd es sz=true:=by kernel_rfl):SI P n ops B k F h:=by
 subst he;exact iL es len sz hK hk ha hlen hall
theorem W9 (i:Nat) (js bs:List Nat) (es es':List AV) (he:es=es') (len sz:Nat) (hK:∀v,YM P n ops B (T.filter fun t=>!Wv ops i t.1) fuel (done++[i]) (F.put (ZA ops i).dst (.sl es' (some v))) (.tail v sz::h))
  (hk:YU n ops F i=true:=by kernel_rfl) (ha:UO P ops F i=some (Zd es,len,sz):=by kernel_rfl) (hlen:es.length=len:=by kernel_rfl) (hall:Jd es sz=true:=by kernel_rfl)
  (ho:Vu ops i T=bs:=by kernel_rfl) (hj:js.map (fun j=>(Wa h)[j]?)=bs.map some:=by kernel_rfl):WV P n ops B T fuel done F h i:=by
 subst he;exact dL i js bs es len sz hK hk ha hlen hall ho hj
theorem iKN (ls:List AV) (len sz:Nat) (hK:∀g,SI P n ops B (k+1) (F.put (ZA ops k).dst (.val (.slice (some ⟨g,0,none⟩) len len))) (.row (.slice (some ⟨g,0,none⟩) len len) sz ls::h)) (hlen:ls.length=len*sz:=by rfl) (hk:YU n ops F k=true:=by kernel_rfl)
  (ha:UO P ops F k=some (ls,len,sz):=by kernel_rfl):SI P n ops B k F h:=T8 hk (Nu (Vf hk).2.1 ha hlen hK)
theorem RZ (i:Nat) (js bs:List Nat) (ls:List AV) (len sz:Nat) (hK:∀g,YM P n ops B (T.filter fun t=>!Wv ops i t.1) fuel (done++[i]) (F.put (ZA ops i).dst (.val (.slice (some ⟨g,0,none⟩) len len))) (.row (.slice (some ⟨g,0,none⟩) len len) sz ls::h)) (hlen:ls.length=len*sz:=by rfl)
  (hk:YU n ops F i=true:=by kernel_rfl) (ha:UO P ops F i=some (ls,len,sz):=by kernel_rfl) (ho:Vu ops i T=bs:=by kernel_rfl) (hj:js.map (fun j=>(Wa h)[j]?)=bs.map some:=by kernel_rfl):WV P n ops B T fuel done F h i:=
 Qp (h1:=[]) (h2:=h) [] js bs hk rfl ho hj (Nu (Vf hk).2.1 ha hlen hK)
end
theorem Wb.frz {P:Program} {f:FuncId} {as1:List AV} {h0:List Res} {E:Type} {kk:Nat} {es:E->List AV} {hs:E->List Res} {Q:E->Prop} (H:Wb P f as1 h0 (fun r h=>∃(e:E) (v:Hd),r=.h v/\h=rK v kk (Zd (es e))::hs e/\Q e)) (hes:∀e,∀y∈es e,y.leaves.length=kk) (hk:0<kk) :
  Wb P f as1 h0 (fun r h=>∃(e:E) (v:Value),r=.sl (es e) (some v)/\h=.tail v kk::hs e/\Q e):=by
 intro w G vs hv hh
 refine (H w G vs hv hh).mono ?_
 rintro e w' ⟨u,r,h',G',he,⟨x,v,rfl,rfl,hq⟩,hr,hh',hx⟩
 obtain ⟨G2,h1,h2,h3⟩:=C7 hh' (hes x) hk
 have hrv:=hr.val_inv
 subst hrv
 exact ⟨_,_,_,G2,he,⟨x,v.v,rfl,rfl,hq⟩,h3,h1,hx.trans h2⟩
theorem Eg {es:List AV} {sz k:Nat} {y:AV} (h:∀x∈es,x.leaves.length=sz) (hy:y.leaves.length=sz) (hk:k<es.length):(Zd es).take (k*sz)++y.leaves++(Zd es).drop (k*sz+y.leaves.length)=Zd (es.set k y):=by
 obtain ⟨x,hx⟩:=Js (xs:=es) (j:=k) hk
 have hxl:=h x (ZY hx)
 have e1:es=es.take k++(x::es.drop (k+1)):=by rw [<-Y3 hx,UE]
 have e2:es.set k y=es.take k++(y::es.drop (k+1)):=by rw [DE,Zm hk]
 have hl:(Zd (es.take k)).length=k*sz:=by rw [U1 (k:=sz) _ (fun z hz=>h z (TR hz)),Wn,Vj om]
 have e3:Zd es=Zd (es.take k)++(x.leaves++Zd (es.drop (k+1))):=by
  conv=>lhs;rw [e1,VS]
  simp [Zd]
 rw [e2,VS,e3,Dn hl (by rw [hxl,hy])]
 simp [Zd]
theorem Sw (ds:List Ze) (k:Nat) (d:Ze):Yo (ds.set k d)=(Yo ds).set k (Jb d):=by simp [Yo,List.map_set]
theorem AY (xs:List Ze):(Zd (Yo xs)).length=xs.length*3:=by rw [U1 (k:=3) _ (Qq xs)];simp
theorem Ec {ds:List Ze} {k:Nat} (d:Ze) (hk:k<ds.length):(Zd (Yo ds)).take (k*3)++UN d++(Zd (Yo ds)).drop (k*3+3)=Zd (Yo (ds.set k d)):=by
 rw [Sw];exact Eg (y:=Jb d) (Qq ds) rfl (by simpa using hk)
theorem GH (xs ys:List Ze):Zd (Yo xs)++Zd (Yo ys)=Zd (Yo (xs++ys)):=by rw [Su,VS]
section
variable {P:Program} {n:Nat} {ops:Array Oper} {B:Fr->List Res->Prop} {k:Nat} {F:Fr} {h:List Res}
theorem Ex (j m:Nat) {v:Hd} {kk:Nat} {ls:List AV} (hm:ls.length=m*kk) (h0:0<m) (H:∀g c',v=⟨some ⟨g,0,none⟩,m,c'⟩->SI P n ops B k F h) (hk:0<kk:=by omega) (hj:h[j]? = some (rK v kk ls):=by kernel_rfl):SI P n ops B k F h:=by
 intro Q w G a hF hh hq
 obtain ⟨g,c',e⟩:=HM (hh.ok _ (ZY hj)) hm hk h0
 exact H g c' e Q w G a hF hh hq
end
section
variable {P:Program} {n:Nat} {ops:Array Oper} {B:Fr->List Res->Prop} {k:Nat} {F:Fr} {h:List Res}
def Gd (P:Program) (ops:Array Oper) (F:Fr) (k:Nat):Option (IntKind × Int):=
 match (ZA ops k).op with
 | .convert s d x=>match P.underlying s,P.underlying d,F.ev x with
  | some (.int _),some (.int q),.val (.int _ z)=>some (q,z)
  | _,_,_=>none
 | _=>none
theorem kCv (q:IntKind) (z z':Int) (e:q.wrap z=z') (hc:Gd P ops F k=some (q,z):=by kernel_rfl):Xm P (ZA ops k) F h [] (.val (.int q z')):=by
 unfold Gd at hc
 generalize hoo:ZA ops k=o at hc
 obtain ⟨dst,op,type,pos,after,guard⟩:=o
 cases op<;>simp only at hc<;>try (cases hc)
 rename_i s d x
 split at hc
 ·rename_i q1 q2 q3 z2 h1 h2 h3
  cases hc
  intro n w G ac hF hh
  have v1:=hF.ev x
  rw [h3] at v1
  have v1:=v1.val_inv
  refine ⟨_,.val,fun w' _ _=>?_⟩
  simp only [execOp,v1]
  refine WT ?_
  simp [convert,Vi h1,Vi h2,Conv.intToInt,e]
 ·cases hc
theorem Ip {z:Int} (h:0<=z/\z<=9223372036854775807):IntKind.i64.wrap z=z:=IntWalk.i64_in _ om
theorem BW (z:Int) (hz:0<=z/\z<=255) (hc:Gd P ops F k=some (.i64,z):=by kernel_rfl):Xm P (ZA ops k) F h [] (.i z):=kCv .i64 z z (Ip om) hc
def A0 (ops:Array Oper) (F:Fr) (k:Nat) (b:BinOp):Option (Int × Int):=
 match (ZA ops k).op with
 | .binOp c _ x y _=>if c==b then match F.ev x,F.ev y with
  | .val (.int .i64 z),.val (.int .i64 u)=>some (z,u)
  | _,_=>none else none
 | _=>none
theorem He (a b:Int) (hb:0<b) (ha:0<=a/\a<=9223372036854775807) (hc:A0 ops F k .quo=some (a,b):=by kernel_rfl):Xm P (ZA ops k) F h [] (.i (a / b)):=by
 unfold A0 at hc
 generalize hoo:ZA ops k=o at hc
 obtain ⟨dst,op,type,pos,after,guard⟩:=o
 cases op<;>simp only at hc<;>try (cases hc)
 rename_i bop t x y yt
 cases bop<;>simp only [Zr,reduceCtorEq,if_false,if_true] at hc<;>try (cases hc)
 split at hc
 ·rename_i z yk h1 h2
  cases hc
  intro n' w G ac hF hh
  have v1:=hF.ev x
  have v2:=hF.ev y
  rw [h1] at v1
  rw [h2] at v2
  have v1:=v1.val_inv
  have v2:=v2.val_inv
  refine ⟨_,.val,fun w' _ _=>?_⟩
  simp only [execOp,v1,v2]
  refine WT ?_
  have e1:a.tdiv b=a / b:=Int.tdiv_eq_ediv_of_nonneg ha.1
  have e2:IntKind.i64.wrap (a / b)=a / b:=Ip ⟨Int.ediv_nonneg ha.1 om,Int.le_trans (Int.ediv_le_self b ha.1) ha.2⟩
  have e3:b≠0:=by omega
  simp [eqGuard,binOp,Op.intDiv,e1,e2,e3]
 ·cases hc
theorem D0 (a b:Int) (hb:0<b) (ha:0<=a) (hc:A0 ops F k .rem=some (a,b):=by kernel_rfl):Xm P (ZA ops k) F h [] (.i (a % b)):=by
 unfold A0 at hc
 generalize hoo:ZA ops k=o at hc
 obtain ⟨dst,op,type,pos,after,guard⟩:=o
 cases op<;>simp only at hc<;>try (cases hc)
 rename_i bop t x y yt
 cases bop<;>simp only [Zr,reduceCtorEq,if_false,if_true] at hc<;>try (cases hc)
 split at hc
 ·rename_i z yk h1 h2
  cases hc
  intro n' w G ac hF hh
  have v1:=hF.ev x
  have v2:=hF.ev y
  rw [h1] at v1
  rw [h2] at v2
  have v1:=v1.val_inv
  have v2:=v2.val_inv
  refine ⟨_,.val,fun w' _ _=>?_⟩
  simp only [execOp,v1,v2]
  refine WT ?_
  have e1:a.tmod b=a % b:=Int.tmod_eq_emod_of_nonneg ha
  have e3:b≠0:=by omega
  simp [eqGuard,binOp,Op.intDiv,e1,e3]
 ·cases hc
theorem B8 (a b:Nat) (hb:0<b) (ha:a<=9223372036854775807) (hc:A0 ops F k .quo=some ((a:Int),(b:Int)):=by kernel_rfl):Xm P (ZA ops k) F h [] (.i (a / b:Nat)):=by
 rw [Int.natCast_ediv];exact He a b om om hc
theorem EF (a b:Nat) (hb:0<b) (_ha:a<=9223372036854775807) (hc:A0 ops F k .rem=some ((a:Int),(b:Int)):=by kernel_rfl):Xm P (ZA ops k) F h [] (.i (a % b:Nat)):=by
 rw [Int.natCast_emod];exact D0 a b om om hc
def JK (a b:Int):Int:=IntKind.i64.wrap ((BitVec.ofInt 64 a ^^^ BitVec.ofInt 64 b).toNat:Int)
theorem FB {a b:Int} (ha:0<=a/\a<4611686018427387904) (hb:0<=b/\b<4611686018427387904):0<=JK a b/\JK a b<4611686018427387904:=by
 obtain ⟨x,rfl⟩:=Int.eq_ofNat_of_zero_le ha.1
 obtain ⟨y,rfl⟩:=Int.eq_ofNat_of_zero_le hb.1
 have h1:(BitVec.ofInt 64 (x:Int) ^^^ BitVec.ofInt 64 (y:Int)).toNat=x ^^^ y:=by
  rw [BitVec.toNat_xor,BitVec.toNat_ofInt,BitVec.toNat_ofInt]
  have e1:((x:Int) % ((2 ^ 64:Nat):Int)).toNat=x:=by omega
  have e2:((y:Int) % ((2 ^ 64:Nat):Int)).toNat=y:=by omega
  rw [e1,e2]
 have h2:x ^^^ y<2 ^ 62:=Nat.xor_lt_two_pow om om
 rw [JK,h1,Ip om]
 omega
theorem MH (a b:Int) (hc:A0 ops F k .xor=some (a,b):=by kernel_rfl):Xm P (ZA ops k) F h [] (.i (JK a b)):=by
 unfold A0 at hc
 generalize hoo:ZA ops k=o at hc
 obtain ⟨dst,op,type,pos,after,guard⟩:=o
 cases op<;>simp only at hc<;>try (cases hc)
 rename_i bop t x y yt
 cases bop<;>simp only [Zr,reduceCtorEq,if_false,if_true] at hc<;>try (cases hc)
 split at hc
 ·rename_i z yk h1 h2
  cases hc
  intro n' w G ac hF hh
  have v1:=hF.ev x
  have v2:=hF.ev y
  rw [h1] at v1
  rw [h2] at v2
  have v1:=v1.val_inv
  have v2:=v2.val_inv
  refine ⟨_,.val,fun w' _ _=>?_⟩
  simp only [execOp,v1,v2]
  refine WT ?_
  simp [eqGuard,binOp,Op.intBits,IntKind.bits]
  exact Yc (fun z:Nat=>IntKind.i64.wrap (z:Int)) (by rw [BitVec.toNat_xor,BitVec.toNat_ofInt,BitVec.toNat_ofInt];rfl)
 ·cases hc
end
end Go.Abs
section
namespace Go.Abs
inductive Z1 where
 | mk (op num:Int) (kids:List Z1)
namespace Z1
def op:Z1->Int|.mk a _ _=>a
def num:Z1->Int|.mk _ a _=>a
def kids:Z1->List Z1|.mk _ _ a=>a
end Z1
structure Func where
 params:LI
 result:Int
 body:Z1
structure XJ where
 decls:List Ze
 funcs:List Func
instance:Inhabited Z1:=⟨.mk 0 0 []⟩
mutual
def Gt:Z1->AV
 | .mk op num kids=>.agg [.i op,.i num,.sl (Yh kids) none]
def Yh:List Z1->List AV
 | []=>[]
 | e::r=>Gt e::Yh r
end
abbrev ZV (e:Z1):AV:=.agg [.i e.op,.i e.num,.sl (Yh e.kids) none]
abbrev YK (e:Z1):List AV:=[.i e.op,.i e.num,.sl (Yh e.kids) none]
abbrev Xd (xs:List Z1):AV:=.sl (Yh xs) none
abbrev TJ (xs:List Z1) (v:Value):AV:=.sl (Yh xs) (some v)
abbrev Cm (f:Func):AV:=.agg [Z6 f.params,.i f.result,.i f.body.op,.i f.body.num,Xd f.body.kids]
abbrev EJ (f:Func):List AV:=[Z6 f.params,.i f.result,.i f.body.op,.i f.body.num,Xd f.body.kids]
def X3 (xs:List Func):List AV:=xs.map Cm
abbrev ES (xs:List Func):AV:=.sl (X3 xs) none
abbrev Jc (p:XJ):AV:=.agg [Ya p.decls,ES p.funcs]
abbrev Hl (p:XJ):List AV:=[Ya p.decls,ES p.funcs]
abbrev FP (z:Int):AV:=.val (.int .u8 z)
def T4 (xs:LI):List AV:=xs.map FP
abbrev VF (xs:LI):AV:=.sl (T4 xs) none
theorem Sx (e:Z1):Gt e=ZV e:=by cases e;rw [Gt];rfl
theorem Xr:∀xs:List Z1,Yh xs=xs.map ZV
 | []=>by rw [Yh];rfl
 | s::ss=>by rw [Yh,Xr ss,Sx];rfl
theorem BE {xs:List Z1} {j:Nat} {x:Z1} (h:xs[j]? = some x):(Yh xs)[j]? = some (ZV x):=by simp [Xr,h]
theorem E2 {xs:List Func} {j:Nat} {x:Func} (h:xs[j]? = some x):(X3 xs)[j]? = some (Cm x):=by simp [X3,h]
theorem BB {xs:LI} {j:Nat} {x:Int} (h:xs[j]? = some x):(T4 xs)[j]? = some (FP x):=by simp [T4,h]
@[simp] theorem Gu (xs:List Z1):(Yh xs).length=xs.length:=by simp [Xr]
@[simp] theorem BF (xs:List Func):(X3 xs).length=xs.length:=by simp [X3]
@[simp] theorem QJ (xs:LI):(T4 xs).length=xs.length:=by simp [T4]
theorem KH (xs ys:List Z1):Yh (xs++ys)=Yh xs++Yh ys:=by simp [Xr]
theorem Sy (xs ys:List Func):X3 (xs++ys)=X3 xs++X3 ys:=by simp [X3]
theorem Gq (xs:LI) (n:Nat):(T4 xs).take n=T4 (xs.take n):=by simp [T4]
theorem Gp (xs:LI) (n:Nat):(T4 xs).drop n=T4 (xs.drop n):=by simp [T4]
theorem Ur (xs:List Z1):∀y∈Yh xs,y.leaves.length=3:=by intro y hy;simp only [Xr,XD] at hy;obtain ⟨x,_,rfl⟩:=hy;rfl
theorem E3 (xs:List Func):∀y∈X3 xs,y.leaves.length=5:=by intro y hy;simp only [X3,XD] at hy;obtain ⟨x,_,rfl⟩:=hy;rfl
theorem Sr (xs:LI):∀y∈T4 xs,y.leaves.length=1:=by intro y hy;simp only [T4,XD] at hy;obtain ⟨x,_,rfl⟩:=hy;rfl
theorem KI (xs:List Z1):(Zd (Yh xs)).all AV.one=true:=KN fun y hy=>by simp only [Xr,XD] at hy;obtain ⟨x,_,rfl⟩:=hy;rfl
end Go.Abs
end
section
namespace Go.Abs
open Go.Proofs Go.Proofs.YthllacimcjakdaaGreat
section
variable {H:Type} {enc:TypeId × Value->H} {w:World}
def GA (w:World):Y4:=fun b _=>b<w.heap.size
abbrev Tr (enc:TypeId × Value->H) (w:World) (n:Nat) (t:TypeId) (cs:List Value) (x:DataW H × List MemPlace):Prop:=DataW.trod enc Tryz.prog w 0 (fun _=>true) true n t cs=some x
theorem N4 {w:World} {a:Addr} {v:Value} (h:w.cell? a=some v):a.block<w.heap.size/\a.spot=none:=by
 unfold World.cell? at h
 split at h
 ·rename_i c e fr hb
  split at h
  ·cases h
  ·rename_i hs
   exact ⟨(U8.1 hb).1,by simpa using hs⟩
 ·cases h
theorem L0 {α:Type} {c:α->Nat}:∀{xs:List α} {ds:List (DataW H)},xs.length=ds.length->(∀(i:Nat) a d,xs[i]? = some a->ds[i]? = some d->c a+1<=Rows.uptoBulk d)->(xs.map fun a=>c a+1).sum<=Rows.uptoBulkAll ds
 | [],[],_,_=>YT _
 | a::r,d::ds,hl,h=>by
  have h0:=h 0 a d rfl rfl
  have h1:=L0 (c:=c) (xs:=r) (ds:=ds) (by simpa using hl) fun i a d ha hd=>h (i+1) a d (by simpa using ha) (by simpa using hd)
  rw [VQ,List.sum_cons,Rows.uptoBulkAll]
  omega
theorem O4 {α:Type} {f:α->AV} {G:Y4} {k b:Nat} (hf:∀x,(f x).leaves.length=k):∀{xs:List α} {o:Nat},(∀(i:Nat) a,xs[i]? = some a->W1 w G b (o+i*k) (f a).leaves)->Wz w G k b o (xs.map f)
 | [],_,_=>.nil
 | x::r,o,h=>by
  refine .cons (hf x) (by have:=h 0 x rfl;simpa using this) (O4 hf fun i a ha=>?_)
  have:=h (i+1) a (by simpa using ha)
  rw [show o+(i+1)*k=o+k+i*k by rw [TB];omega] at this
  exact this
theorem Z7h {α:Type} [Inhabited α] {t e k:Nat} (ht:Tryz.prog.underlying t=some (.slice e)) (hk:Tryz.prog.cellsOf e=k) (h0:0<k) (f:α->AV) (hf:∀x,(f x).leaves.length=k) (c:α->Nat) (Q:α->Prop) {n:Nat} {cs:List Value} {x:DataW H × List MemPlace}
  (h:Tr enc w n t cs x) (el:∀m cs y,m<n->Tr enc w m e cs y->∃a:α,YF w (GA w) (f a).leaves cs/\c a+1<=Rows.uptoBulk y.1/\Q a) :
  ∃(v:Value) (xs:List α),cs=[v]/\RV w (GA w) (.sl (xs.map f) none) v/\(xs.map fun a=>c a+1).sum+1<=Rows.uptoBulk x.1/\∀a∈xs,Q a:=by
 rcases DataW.trod_slice ht h with ⟨rfl,rfl⟩|⟨a,len,cap,elems,rest,m,rfl,rfl,rfl,_,hlc,_,hlen,hel,_,_⟩
 ·exact ⟨_,[],rfl,.nil (by simp),by simp [Rows.uptoBulk],by simp⟩
 ·rw [hk] at hel
  have hone:∀i,i<len->∃z:α,∃cs' y,w.cells? 0 (a.add (i*k)) k=some cs'/\elems[i]? = some y/\YF w (GA w) (f z).leaves cs'/\c z+1<=Rows.uptoBulk y.1/\Q z:=by
   intro i hi
   have h1:=hel i hi
   rw [AC om] at h1
   obtain ⟨cs',h2,h3⟩:=Option.bind_eq_some_iff.1 h1
   obtain ⟨z,hz1,hz2,hz3⟩:=el m cs' _ om h3
   exact ⟨z,cs',_,h2,AC om,hz1,hz2,hz3⟩
  obtain ⟨V,hV⟩:=Go.Deep.choose_lt hone
  refine ⟨_,(List.range len).map V,rfl,?_,?_,?_⟩
  ·cases hl0:len with
   | zero=>exact .nil (by simp)
   | succ q=>
    have hsp:a.spot=none:=by
     obtain ⟨cs',y,g1,_⟩:=hV 0 om
     obtain ⟨_,g2,g3⟩:=World.cells?_some g1
     have g4:=g3 0 h0
     rw [AC om] at g4
     have g5:=(N4 g4).2
     simpa [Addr.add] using g5
    obtain ⟨b,o,sp⟩:=a
    simp only at hsp
    subst hsp
    rw [<-hl0]
    have hll:(((List.range len).map V).map f).length=len:=by simp
    have:=RV.sl (w:=w) (G:=GA w) (es:=((List.range len).map V).map f) (hv:=none) (b:=b) (o:=o) (k:=k) (cap:=cap) (by simp) (by rw [hll];exact hlc) (O4 hf fun i z hz=>by
     have hi:i<len:=by have:=(XC.1 hz).1;simpa using this
     have hz':V i=z:=by simpa [hi] using hz
     obtain ⟨cs',y,g1,_,g2,_⟩:=hV i hi
     rw [hz'] at g2
     obtain ⟨_,g3,g4⟩:=World.cells?_some g1
     refine W1.of_cells g2 fun j u hj=>?_
     have hjl:j<k:=by have:=(XC.1 hj).1;omega
     have g5:=(g4 j hjl).trans hj
     rw [Addr.add_lit,Addr.add_lit] at g5
     exact ⟨g5,(N4 g5).1⟩)
    rw [hll] at this
    exact this
  ·have:=L0 (c:=c) (xs:=(List.range len).map V) (ds:=elems.map (·.1)) (by simp [hlen]) fun i z d hz hd=>by
    have hi:i<len:=by have:=(XC.1 hz).1;simpa using this
    have hz':V i=z:=by simpa [hi] using hz
    obtain ⟨cs',y,_,g1,_,g2,_⟩:=hV i hi
    rw [Kt,g1] at hd
    simp only [AG,XV] at hd
    rw [<-hd,<-hz']
    exact g2
   simp only [Rows.uptoBulk]
   omega
  ·intro z hz
   obtain ⟨i,hi,rfl⟩:=XD.1 hz
   obtain ⟨_,_,_,_,_,_,g⟩:=hV i (List.mem_range.1 hi)
   exact g
theorem Z7f {n:Nat} {cs:List Value} {x:DataW H × List MemPlace} (h:Tr enc w n 5 cs x):∃z:Int,cs=[.int .u8 z]/\Rows.uptoBulk x.1=1/\0<=z/\z<=255:=by
 obtain ⟨z,rfl,rfl,hw⟩:=DataW.trod_int Tryz.underlying5 h
 refine ⟨z,rfl,rfl,?_⟩
 simpa [Lit.wf,IntKind.min,IntKind.max,IntKind.signed,IntKind.bits] using hw
theorem Z7g {n:Nat} {cs:List Value} {x:DataW H × List MemPlace} (h:Tr enc w n 22 cs x):∃(v:Value) (xs:LI),cs=[v]/\RV w (GA w) (VF xs) v/\∀z∈xs,0<=z/\z<=255:=by
 obtain ⟨v,xs,h1,h2,h3,h4⟩:=Z7h Tryz.underlying22 (k:=1) kr om (fun z:Int=>FP z) (fun _=>rfl) (fun _=>0) (fun z=>0<=z/\z<=255) h fun m cs y _ hy=>by
  obtain ⟨z,rfl,hb,hz⟩:=Z7f hy
  exact ⟨z,.cons .val .nil,Nat.le_of_eq hb.symm,hz⟩
 exact ⟨v,xs,h1,h2,h4⟩
end
end Go.Abs
end
namespace Go.Abs
structure Sg where
 params:LI
 result:Int
abbrev Iz (f:Sg):AV:=.agg [.sl (Z7 f.params) none,.i f.result,.i 0,.i 0,.sl [] none]
def VL (fs:List Sg):List AV:=fs.map Iz
theorem Gw {xs:List Sg} {j:Nat} {x:Sg} (h:xs[j]? = some x):(VL xs)[j]? = some (Iz x):=by simp [VL,h]
@[simp] theorem Lq (xs:List Sg):(VL xs).length=xs.length:=by simp [VL]
theorem Lp (xs:List Sg):∀y∈VL xs,y.leaves.length=5:=by intro y hy;simp only [VL,XD] at hy;obtain ⟨x,_,rfl⟩:=hy;rfl
theorem SH (xs:List Sg):(Zd (VL xs)).all AV.one=true:=KN fun y hy=>by simp only [VL,XD] at hy;obtain ⟨x,_,rfl⟩:=hy;rfl
mutual
def Z4.sz:Z4->Nat
 | .mk _ _ _ args kids=>1+args.length+YQ kids
def Z5.sz:Z5->Nat
 | .mk steps _=>1+Yk steps
def Yk:List Z4->Nat
 | []=>0
 | s::r=>s.sz+Yk r
def YQ:List Z5->Nat
 | []=>0
 | b::r=>b.sz+YQ r
end
theorem Z4.sz_pos (s:Z4):1<=s.sz:=by cases s;rw [Z4.sz];omega
theorem Z5.sz_pos (b:Z5):1<=b.sz:=by cases b;rw [Z5.sz];omega
theorem Kk (l:List Z4):l.length<=Yk l:=by
 induction l with
 | nil=>simp
 | cons s r ih=>have:=s.sz_pos;simp only [YL,Yk];omega
theorem IX (l:List Z5):l.length<=YQ l:=by
 induction l with
 | nil=>simp
 | cons s r ih=>have:=s.sz_pos;simp only [YL,YQ];omega
theorem Zaf {l:List Z4} {k:Nat} {s:Z4} (h:l[k]? = some s):s.sz<=Yk l:=by
 induction l generalizing k with
 | nil=>simp at h
 | cons t r ih=>
  cases k with
  | zero=>simp at h;subst h;simp only [Yk];omega
  | succ k=>have:=ih (k:=k) (by simpa using h);simp only [Yk];omega
theorem Ri {l:List Z5} {k:Nat} {s:Z5} (h:l[k]? = some s):s.sz<=YQ l:=by
 induction l generalizing k with
 | nil=>simp at h
 | cons t r ih=>
  cases k with
  | zero=>simp at h;subst h;simp only [YQ];omega
  | succ k=>have:=ih (k:=k) (by simpa using h);simp only [YQ];omega
theorem Z4.sz_eq (s:Z4):s.sz=1+s.args.length+YQ s.kids:=by cases s;rw [Z4.sz];rfl
theorem Z5.sz_eq (b:Z5):b.sz=1+Yk b.steps:=by cases b;rw [Z5.sz];rfl
theorem TO {b:Z5} {k:Nat} {s:Z4} (h:b.steps[k]? = some s):s.sz<b.sz:=by have:=Zaf h;have:=b.sz_eq;omega
theorem U3 {s:Z4} {k:Nat} {b:Z5} (h:s.kids[k]? = some b):b.sz<s.sz:=by have:=Ri h;have:=s.sz_eq;omega
theorem Tl (s:Z4):s.args.length<s.sz:=by have:=s.sz_eq;omega
theorem U4 (s:Z4):s.kids.length<s.sz:=by have:=s.sz_eq;have:=IX s.kids;omega
theorem WU (b:Z5):b.steps.length<b.sz:=by have:=b.sz_eq;have:=Kk b.steps;omega
structure Qj (ds:List Ze):Prop where
 len:ds.length<=4194304
 cons:∀d∈ds,d.cons.length<=4194304
 fields:∀d∈ds,∀c∈d.cons,c.fields.length<=4194304
theorem Qj.cons_at {ds:List Ze} (h:Qj ds) {k:Nat} {d:Ze} (hd:ds[k]? = some d):d.cons.length<=4194304:=h.cons d (ZY hd)
theorem Qj.fields_at {ds:List Ze} (h:Qj ds) {k j:Nat} {d:Ze} {c:Y1} (hd:ds[k]? = some d) (hc:d.cons[j]? = some c):c.fields.length<=4194304:=
 h.fields d (ZY hd) c (ZY hc)
def K8 (m:Nat) (c:Y1):Bool:=decide (c.fields.length<=3)&&XP m c.fields
def TX (d:Ze):List Ze->Bool
 | []=>false
 | e::r=>if e.cons.length=0/\e.frm=d.frm/\e.to_=d.to_ then true else TX d r
def UU (m:Nat):List Y1->Bool
 | []=>true
 | c::r=>if K8 m c=true then UU m r else false
def VZ (ds:List Ze) (d:Ze) (i:Nat):Bool:=
 if 0<d.cons.length then (if d.cons.length<=3/\d.frm=0/\d.to_=0 then UU ds.length d.cons else false)
 else if TX d (ds.take i)=true then false else decide (0<=d.frm/\d.frm<=ds.length)&&decide (0<=d.to_/\d.to_<=ds.length)
def AS (ds:List Ze) (i:Nat):Bool:=(ds[i]?.map fun d=>VZ ds d i).getD false
theorem Cu {ds:List Ze} {i:Nat} {d:Ze} (h:ds[i]? = some d):AS ds i=VZ ds d i:=by rw [AS,h];rfl
def Uq (ds:List Ze):List Ze->Nat->Bool
 | [],_=>true
 | _::r,i=>if AS ds i=true then Uq ds r (i+1) else false
def Wm (ds:List Ze):Bool:=decide (ds.length<=4)&&Uq ds ds 0
theorem Ld {m:Nat} {cs:List Y1}:UU m cs=true↔∀c∈cs,K8 m c=true:=by
 induction cs with
 | nil=>simp [UU]
 | cons c r ih=>
  rw [UU]
  split
  ·rename_i h;simp [ih,h]
  ·rename_i h;simp [h]
theorem Gi {ds:List Ze}:∀{l:List Ze} {i:Nat},Uq ds l i=true↔∀j<l.length,AS ds (i+j)=true
 | [],i=>by simp [Uq]
 | d::r,i=>by
  rw [Uq]
  split
  ·rename_i h
   rw [Gi (l:=r)]
   constructor
   ·intro hq j hj
    cases j with
    | zero=>exact h
    | succ j=>have:=hq j (by simpa using hj);rwa [show i+(j+1)=i+1+j by omega]
   ·intro hq j hj
    have:=hq (j+1) (by simpa using hj)
    rwa [show i+(j+1)=i+1+j by omega] at this
  ·rename_i h
   simp only [Bool.false_eq_true,false_iff]
   intro hq
   exact h (hq 0 (by simp))
theorem Zbo {ds:List Ze} (h:Wm ds=true):W4 ds:=by
 simp only [Wm,Xx,decide_eq_true_eq] at h
 obtain ⟨h1,h2⟩:=h
 rw [Gi] at h2
 have key:∀d∈ds,∃i,VZ ds d i=true:=fun d hd=>by
  obtain ⟨i,hi⟩:=List.mem_iff_getElem?.1 hd
  have:=h2 i (XC.1 hi).1
  rw [WM,Cu hi] at this
  exact ⟨i,this⟩
 have hc:∀d∈ds,0<d.cons.length->d.cons.length<=3/\UU ds.length d.cons=true:=fun d hd hp=>by
  obtain ⟨i,hi⟩:=key d hd
  rw [VZ,Zm hp] at hi
  split at hi
  ·rename_i h;exact ⟨h.1,hi⟩
  ·cases hi
 refine ⟨h1,fun d hd=>?_,fun d hd c hc'=>?_⟩
 ·by_cases hp:0<d.cons.length
  ·exact (hc d hd hp).1
  ·omega
 ·have:=Ld.1 (hc d hd (List.length_pos_of_mem hc')).2 c hc'
  simp only [K8,Xx,decide_eq_true_eq] at this
  exact this.1
def QW (m:Nat) (f:Sg):Bool:=decide (f.params.length<=3)&&(XP m f.params&&decide (0<=f.result/\f.result<=m))
def QX (m:Nat):List Sg->Bool
 | []=>true
 | f::r=>if QW m f=true then QX m r else false
def Eb:List Sg->Bool
 | []=>false
 | f::_=>decide (f.params.length=0)&&decide (f.result=0)
theorem Z00 {fs:List Sg} {x:Sg} (h:fs[0]? = some x):Eb fs=(decide (x.params.length=0)&&decide (x.result=0)):=by
 cases fs with
 | nil=>simp at h
 | cons f r=>simp at h;subst h;rfl
def Qz (ds:List Ze) (fs:List Sg):Bool:=
 Wm ds&&(decide (1<=fs.length/\fs.length<=4)&&(QX ds.length fs&&Eb fs))
def Qt (ps:LI):LI->Option Int->Bool
 | [],_=>true
 | v::r,prev=>if (0<=v/\v<=(ps.length:Int)-1)/\ps[v.toNat]?≠some 0/\(∀p,prev=some p->p<v) then Qt ps r (some v) else false
theorem Hq {ps r:LI} {v:Int} {prev:Option Int} (h:(0<=v/\v<=(ps.length:Int)-1)/\ps[v.toNat]?≠some 0/\(∀p,prev=some p->p<v)):Qt ps (v::r) prev=Qt ps r (some v):=by
 rw [Qt,Zm h]
theorem EO {ps r:LI} {v:Int} {prev:Option Int} (h:¬((0<=v/\v<=(ps.length:Int)-1)/\ps[v.toNat]?≠some 0/\(∀p,prev=some p->p<v))):Qt ps (v::r) prev=false:=by
 rw [Qt,Za h]
def Kq (ps ls:LI):Bool:=Qt ps ls none
def KS:List ZZ->Bool
 | []=>true
 | r::rs=>if Kq r.params r.lent=true then KS rs else false
def VV (r:ZZ):Sg:=⟨r.params,r.result⟩
def Ux (n:Zt):Bool:=decide (n.routines.length<=4)&&(Qz n.decls (n.routines.map VV)&&KS n.routines)
end Go.Abs
section
namespace Go.Abs
def Xi {α:Type} (xs:List α) (i:Int):Option α:=if 0<=i/\i<=(xs.length:Int)-1 then xs[i.toNat]? else none
theorem TE {α:Type} {xs:List α} {i:Int} {x:α} (h:0<=i/\i<=(xs.length:Int)-1) (hx:xs[i.toNat]? = some x):Xi xs i=some x:=by rw [Xi,Zm h,hx]
theorem Qm {α:Type} {xs:List α} {i:Int} (h:¬(0<=i/\i<=(xs.length:Int)-1)):Xi xs i=none:=by rw [Xi,Za h]
theorem JZ {α:Type} {xs:List α} {i:Int} {x:α} (h:Xi xs i=some x):(0<=i/\i<=(xs.length:Int)-1)/\xs[i.toNat]? = some x:=by
 rw [Xi] at h
 split at h
 ·rename_i h1;exact ⟨h1,h⟩
 ·cases h
def UQ (vars:LI):LI->LI->Bool
 | [],[]=>true
 | a::as1,t::ts=>if Xi vars a=some t then UQ vars as1 ts else false
 | _,_=>false
def XO (vars args types:LI):Bool:=UQ vars args types
theorem Pl {vars:LI}:∀{args types:LI},args.length≠types.length->UQ vars args types=false
 | [],[],h=>absurd rfl h
 | [],_::_,_=>rfl
 | _::_,[],_=>rfl
 | a::as1,t::ts,h=>by
  rw [UQ]
  split
  ·exact Pl (by simpa using h)
  ·rfl
theorem Zbg {vars args types:LI} {k:Nat} {a t:Int} (ha:args[k]? = some a) (ht:types[k]? = some t) (h:Xi vars a=some t) :
  UQ vars (args.drop k) (types.drop k)=UQ vars (args.drop (k+1)) (types.drop (k+1)):=by
 rw [Y3 ha,Y3 ht,UQ,Zm h]
theorem Pj {vars args types:LI} {k:Nat} {a t:Int} (ha:args[k]? = some a) (ht:types[k]? = some t) (h:Xi vars a≠some t) :
  UQ vars (args.drop k) (types.drop k)=false:=by
 rw [Y3 ha,Y3 ht,UQ,Za h]
theorem Zbf {vars args types:LI} {k:Nat} (ha:args.length<=k) (ht:types.length<=k):UQ vars (args.drop k) (types.drop k)=true:=by
 rw [YY ha,YY ht];rfl
def V5 (op:Int):Bool:=op==0||(op==6||(op==8||(op==9||op==10)))
def XF (op:Int):Bool:=decide (0<=op/\op<=11)
def Yd (op:Int):Bool:=decide (14<=op/\op<=17)
def U7 (vars:LI) (op into:Int):Bool:=
 if into=0 then true else if op=6 then ((Xi vars (into-1)).map fun t=>decide (0<t)).getD false else false
def QH (ds:List Ze) (ps:LI) (res:Int):Int:=VH ds (ps.getLast?.getD 0) res
def QU (ds:List Ze) (vars:LI) (op:Int) (args:LI) (r:ZZ):Int:=
 if op=9 then (if XO vars args r.params=true then r.result else -1)
 else if r.params.length=0∨0<r.lent.length∨¬XO vars args (r.params.take (r.params.length-1))=true then -1
 else QH ds r.params r.result
def Tx (n:Zt) (vars:LI) (op num:Int) (args:LI):Int:=
 match Xi n.routines num with
 | none=>-1
 | some r=>QU n.decls vars op args r
def TF (ds:List Ze) (vars:LI) (op:Int) (args:LI):Int:=
 match args with
 | [a]=>match Xi vars a with
  | some t=>if t=0 then -1 else if (op≠14/\op≠15)/\XA ds t=true then -1 else 0
  | none=>-1
 | _=>-1
def TV (ds:List Ze) (vars:LI) (args:LI):Int:=
 match args with
 | [a,b]=>match Xi vars a with
  | some t=>if XA ds t=true then
    (match ds[(t-1).toNat]? with
     | some d=>if XO vars [b] [d.frm]=true then d.to_ else -1
     | none=>-1) else -1
  | none=>-1
 | _=>-1
def Xq (ds:List Ze) (op num:Int):List LI:=if op=7 then [[],[]] else (ZT ds num).map (ZQ ds)
mutual
def Yb (n:Zt) (vars:LI):Z4->Int
 | .mk op num into args kids=>
  if (num≠0/\¬V5 op=true)∨¬U7 vars op into=true∨(0<kids.length/\op≠7/\op≠8) then -1
  else if op=0 then (if args.length=0/\(-999<=num/\num<=999) then 0 else -1)
  else if op=1∨op=2∨op=3∨op=4 then (if XO vars args [0,0]=true then 0 else -1)
  else if op=5 then (if XO vars args [0]=true then 0 else -1)
  else if op=6 then (if 0<XL n.decls num/\XO vars args (ZQ n.decls num)=true then XL n.decls num else -1)
  else if op=7 then (if XO vars args [0]=true then (if (Xq n.decls op num).length=0∨kids.length≠(Xq n.decls op num).length then -1 else Ws n vars kids (Xq n.decls op num) true 0) else -1)
  else if op=8 then (if XO vars args [num]=true then (if (Xq n.decls op num).length=0∨kids.length≠(Xq n.decls op num).length then -1 else Ws n vars kids (Xq n.decls op num) true 0) else -1)
  else if op=9∨op=10 then Tx n vars op num args
  else if op=11 then TV n.decls vars args
  else if op=14∨op=15∨op=16∨op=17 then TF n.decls vars op args
  else -1
def Ws (n:Zt) (vars:LI):List Z5->List LI->Bool->Int->Int
 | [],_,_,t=>t
 | b::bs,more,first,t=>
  match more with
  | []=>-1
  | m::ms=>if X2 n (vars++m) b<0∨(first=false/\X2 n (vars++m) b≠t) then -1 else Ws n vars bs ms false (X2 n (vars++m) b)
def V1 (n:Zt):List Z4->LI->Option LI
 | [],vars=>some vars
 | s::r,vars=>if Yb n vars s<0 then none else V1 n r (if XF s.op=true then vars++[Yb n vars s] else vars)
def X2 (n:Zt) (vars:LI):Z5->Int
 | .mk steps result=>match V1 n steps vars with
  | none=>-1
  | some vs=>(Xi vs result).getD (-1)
end
def UM (n:Zt) (vars:LI) (op num:Int) (kids:List Z5):Int:=
 if (Xq n.decls op num).length=0∨kids.length≠(Xq n.decls op num).length then -1 else Ws n vars kids (Xq n.decls op num) true 0
mutual
def Ah:Z4->Int->Int
 | .mk _ _ _ _ kids,left=>Tw kids left
def We:Z5->Int->Int
 | .mk steps _,left=>Ta steps left
def Ta:List Z4->Int->Int
 | [],left=>left
 | s::r,left=>if left<1 then -1 else if Ah s (left-1)<0 then -1 else Ta r (Ah s (left-1))
def Tw:List Z5->Int->Int
 | [],left=>left
 | b::r,left=>if We b left<0 then -1 else Tw r (We b left)
end
def T0 (b:Z5):Int:=if We b 600<0 then -1 else 600-We b 600
def Qb (n:Zt):List ZZ->Bool
 | []=>true
 | r::rs=>if ¬T0 r.body<0/\X2 n r.params r.body=r.result then Qb n rs else false
def Wg (n:Zt):Bool:=Ux n&&Qb n n.routines
theorem Hp:(∀(s:Z4) (l:Int),0<=l->Ah s l<=l)/\(∀(b:Z5) (l:Int),0<=l->We b l<=l):=by
 have key:∀m:Nat,(∀s:Z4,s.sz<=m->∀l:Int,0<=l->Ah s l<=l)/\(∀b:Z5,b.sz<=m->∀l:Int,0<=l->We b l<=l):=by
  intro m
  induction m with
  | zero=>exact ⟨fun s h=>by have:=s.sz_pos;omega,fun s h=>by have:=s.sz_pos;omega⟩
  | succ m ih=>
   refine ⟨fun s hs l hl=>?_,fun b hb l hl=>?_⟩
   ·cases s with
    | mk op num into args kids=>
     rw [Ah]
     have hk:YQ kids<=m:=by rw [Z4.sz] at hs;omega
     clear hs
     induction kids generalizing l with
     | nil=>rw [Tw];exact Int.le_refl _
     | cons b r ihr=>
      rw [YQ] at hk
      have:=ih.2 b om l hl
      rw [Tw]
      split
      ·omega
      ·have:=ihr (We b l) om om;omega
   ·cases b with
    | mk steps res=>
     rw [We]
     have hk:Yk steps<=m:=by rw [Z5.sz] at hb;omega
     clear hb
     induction steps generalizing l with
     | nil=>rw [Ta];exact Int.le_refl _
     | cons s r ihr=>
      rw [Yk] at hk
      rw [Ta]
      split
      ·omega
      ·have:=ih.1 s om (l-1) om
       split
       ·omega
       ·have:=ihr (Ah s (l-1)) om om;omega
 exact ⟨fun s l hl=>(key s.sz).1 s (YT _) l hl,fun b l hl=>(key b.sz).2 b (YT _) l hl⟩
end Go.Abs
namespace Go.Abs
theorem Zag {l:List Z4} {k:Nat} {s:Z4} (h:l[k]? = some s):k+s.sz<=Yk l:=by
 induction l generalizing k with
 | nil=>simp at h
 | cons t r ih=>
  cases k with
  | zero=>simp at h;subst h;simp only [Yk];omega
  | succ k=>have:=ih (k:=k) (by simpa using h);have:=t.sz_pos;simp only [Yk];omega
theorem Bi {b:Z5} {k:Nat} {s:Z4} (h:b.steps[k]? = some s):k+s.sz<b.sz:=by have:=Zag h;have:=b.sz_eq;omega
structure YZ (n:Zt):Prop where
 decls:W4 n.decls
 len:n.routines.length<=4
 params:∀r∈n.routines,r.params.length<=3
 lent:∀r∈n.routines,r.lent.length<=4194304
theorem YZ.params_at {n:Zt} (h:YZ n) {k:Nat} {r:ZZ} (hr:n.routines[k]? = some r):r.params.length<=3:=h.params r (ZY hr)
theorem YZ.lent_at {n:Zt} (h:YZ n) {k:Nat} {r:ZZ} (hr:n.routines[k]? = some r):r.lent.length<=4194304:=h.lent r (ZY hr)
theorem Rc {ds:List Ze} {num:Int} {k:Nat} {x:Int} (h:(ZT ds num)[k]? = some x):(Xq ds 8 num)[k]? = some (ZQ ds x):=by
 rw [Xq,Za om,Kt,h];rfl
end Go.Abs
namespace Go.Abs
theorem Hx {ds:List Ze} (hd:W4 ds) (t:Int):(ZT ds t).length<=3:=by
 rw [ZT]
 split
 ·rename_i h
  obtain ⟨d,hd1⟩:=Js (xs:=ds) (j:=(t-1).toNat) om
  rw [hd1,Z5x]
  exact hd.cons_at hd1
 ·simp
theorem VI {ds:List Ze} (hd:W4 ds) (c:Int):(ZQ ds c).length<=3:=by
 by_cases h:XL ds c<1
 ·rw [(DW h).1];simp
 ·obtain ⟨k,d,x,h1,_,h3,_,h5⟩:=Gc h
  rw [h5];exact hd.fields_at h1 h3
theorem IJ {ds:List Ze} (hd:W4 ds) {op num:Int} {k:Nat} {m:LI} (h:(Xq ds op num)[k]? = some m):m.length<=3:=by
 have hm:=ZY h
 rw [Xq] at hm
 split at hm
 ·simp at hm;subst hm;simp
 ·obtain ⟨c,_,rfl⟩:=XD.1 hm;exact VI hd c
theorem QG {α:Type} {xs:List α} {x:α} (h:xs.length=1) (hx:xs[0]? = some x):xs=[x]:=by
 cases xs with
 | nil=>simp at h
 | cons a r=>
  cases r with
  | nil=>simp at hx;rw [hx]
  | cons b r=>simp at h
theorem By {ds:List Ze} {us args:LI} {op:Int} (h:args.length≠1):TF ds us op args=-1:=by
 cases args with
 | nil=>rfl
 | cons a r=>
  cases r with
  | nil=>simp at h
  | cons b r=>rfl
theorem Bz {ds:List Ze} {us args:LI} {op a:Int} (h:args=[a]) (hi:¬(0<=a/\a<=(us.length:Int)-1)):TF ds us op args=-1:=by
 subst h;rw [TF];simp only [Qm hi]
theorem Bx {ds:List Ze} {us args:LI} {op a t:Int} (h:args=[a]) (hi:0<=a/\a<=(us.length:Int)-1) (ht:us[a.toNat]? = some t) :
  TF ds us op args=if t=0 then -1 else if (op≠14/\op≠15)/\XA ds t=true then -1 else 0:=by
 subst h;rw [TF];simp only [TE hi ht]
theorem Z7t {n:Zt} {us args:LI} {op num:Int} {r:ZZ} (hi:0<=num/\num<=(n.routines.length:Int)-1) (hr:n.routines[num.toNat]? = some r) :
  Tx n us op num args=QU n.decls us op args r:=by
 rw [Tx];simp only [TE hi hr]
theorem Z7u {n:Zt} {us args:LI} {op num:Int} (hi:¬(0<=num/\num<=(n.routines.length:Int)-1)):Tx n us op num args=-1:=by
 rw [Tx];simp only [Qm hi]
theorem Mj {xs:LI} {x:Int} (h:xs[xs.length-1]? = some x):xs.getLast?.getD 0=x:=by
 rw [List.getLast?_eq_getElem?,h];rfl
theorem MS {n:Zt} {us:LI} {bs:List Z5} {ms:List LI} {b:Z5} {m:LI} {k:Nat} {t:Int} (hb:bs[k]? = some b) (hm:ms[k]? = some m)
  (h:¬(X2 n (us++m) b<0∨(k:Int)>0/\X2 n (us++m) b≠t)) :
  Ws n us (bs.drop k) (ms.drop k) (decide (k=0)) t=Ws n us (bs.drop (k+1)) (ms.drop (k+1)) (decide (k+1=0)) (X2 n (us++m) b):=by
 rw [Y3 hb,Y3 hm,Ws,Za]
 ·simp
 ·rintro (q|⟨q1,q2⟩)
  ·exact h (.inl q)
  ·exact h (.inr ⟨by simp at q1;omega,q2⟩)
theorem MQ {n:Zt} {us:LI} {bs:List Z5} {ms:List LI} {b:Z5} {m:LI} {k:Nat} {t:Int} (hb:bs[k]? = some b) (hm:ms[k]? = some m)
  (h:X2 n (us++m) b<0∨(k:Int)>0/\X2 n (us++m) b≠t) :
  Ws n us (bs.drop k) (ms.drop k) (decide (k=0)) t=-1:=by
 rw [Y3 hb,Y3 hm,Ws,Zm]
 rcases h with q|⟨q1,q2⟩
 ·exact .inl q
 ·exact .inr ⟨by simp;omega,q2⟩
theorem MR {n:Zt} {us:LI} {bs:List Z5} {ms:List LI} {k:Nat} {f:Bool} {t:Int} (hb:bs.length<=k):Ws n us (bs.drop k) (ms.drop k) f t=t:=by
 rw [YY hb,Ws]
end Go.Abs
end
namespace Go.Abs
theorem Bh (n:Zt) (us:LI) (s:Z4):Yb n us s =
  if (s.num≠0/\¬V5 s.op=true)∨¬U7 us s.op s.into=true∨(0<s.kids.length/\s.op≠7/\s.op≠8) then -1
  else if s.op=0 then (if s.args.length=0/\(-999<=s.num/\s.num<=999) then 0 else -1)
  else if s.op=1∨s.op=2∨s.op=3∨s.op=4 then (if XO us s.args [0,0]=true then 0 else -1)
  else if s.op=5 then (if XO us s.args [0]=true then 0 else -1)
  else if s.op=6 then (if 0<XL n.decls s.num/\XO us s.args (ZQ n.decls s.num)=true then XL n.decls s.num else -1)
  else if s.op=7 then (if XO us s.args [0]=true then UM n us s.op s.num s.kids else -1)
  else if s.op=8 then (if XO us s.args [s.num]=true then UM n us s.op s.num s.kids else -1)
  else if s.op=9∨s.op=10 then Tx n us s.op s.num s.args
  else if s.op=11 then TV n.decls us s.args
  else if s.op=14∨s.op=15∨s.op=16∨s.op=17 then TF n.decls us s.op s.args
  else -1:=by
 cases s with
 | mk op num into args kids=>rw [Yb];rfl
theorem DN (n:Zt) (us:LI) (b:Z5):X2 n us b=match V1 n b.steps us with
  | none=>-1
  | some vs=>(Xi vs b.result).getD (-1):=by
 cases b with
 | mk st r=>rw [X2];rfl
theorem II {α:Type} {xs:List α} {x:α} (h:xs.length=2) (hx:xs[0]? = some x):∃y,xs=[x,y]:=by
 match xs,h with
 | [a,b],_=>simp at hx;subst hx;exact ⟨b,rfl⟩
theorem U9 {ds:List Ze} {us args:LI} (h:args.length≠2):TV ds us args=-1:=by
 match args,h with
 | [],_=>rfl
 | [_],_=>rfl
 | [_,_],h=>simp at h
 | _::_::_::_,_=>rfl
theorem Ua {ds:List Ze} {us args:LI} {a:Int} (hl:args.length=2) (h:args[0]? = some a) (hi:¬(0<=a/\a<=(us.length:Int)-1)):TV ds us args=-1:=by
 obtain ⟨y,rfl⟩:=II hl h;rw [TV];simp only [Qm hi]
theorem VY {ds:List Ze} {us args:LI} {a t:Int} (hl:args.length=2) (h:args[0]? = some a) (hi:0<=a/\a<=(us.length:Int)-1) (ht:us[a.toNat]? = some t) :
  TV ds us args=if XA ds t=true then
    (match ds[(t-1).toNat]? with
     | some d=>if XO us (args.drop 1) [d.frm]=true then d.to_ else -1
     | none=>-1) else -1:=by
 obtain ⟨y,rfl⟩:=II hl h;rw [TV];simp only [TE hi ht];rfl
theorem R5 {ds:List Ze} {us args:LI} {a t:Int} {d:Ze} (hl:args.length=2) (h:args[0]? = some a) (hi:0<=a/\a<=(us.length:Int)-1) (ht:us[a.toNat]? = some t)
  (hA:XA ds t=true) (hd:ds[(t-1).toNat]? = some d):TV ds us args=if XO us (args.drop 1) [d.frm]=true then d.to_ else -1:=by
 rw [VY hl h hi ht,Zm hA];simp only [hd]
theorem H8 {ds:List Ze} {t:Int} (h:XA ds t=true):1<=t/\t<=ds.length:=by
 simp only [XA,Xx,decide_eq_true_eq] at h;exact h.1
theorem N1 (b:Z5) (l:Int):We b l=Ta b.steps l:=by cases b;rw [We];rfl
theorem EN (s:Z4) (l:Int):Ah s l=Tw s.kids l:=by cases s;rw [Ah];rfl
structure Um (n:Zt):Prop where
 decls:Qj n.decls
 len:n.routines.length<=4194304
 params:∀r∈n.routines,r.params.length<=4194304
 lent:∀r∈n.routines,r.lent.length<=4194304
 body:∀r∈n.routines,r.body.sz<=10000000
theorem HY {m:Nat} {fs:List Sg} (h:QX m fs=true):∀f∈fs,QW m f=true:=by
 induction fs with
 | nil=>simp
 | cons f r ih=>
  rw [QX] at h
  split at h
  ·rename_i h1
   intro g hg
   rcases YD.1 hg with rfl|hg
   ·exact h1
   ·exact ih h g hg
  ·cases h
theorem Hw {n:Zt} (hz:Um n) (h:Ux n=true):YZ n:=by
 simp only [Ux,Qz,Xx,decide_eq_true_eq] at h
 obtain ⟨h1,⟨h2,h3,h4,h5⟩,h6⟩:=h
 refine ⟨Zbo h2,h1,fun r hr=>?_,hz.lent⟩
 have:=HY h4 (VV r) (XD.2 ⟨r,hr,rfl⟩)
 simp only [QW,Xx,decide_eq_true_eq] at this
 exact this.1
def gI (xs:LI) (i:Int):Int:=xs[i.toNat]?.getD 0
theorem UW {xs:LI} {i:Int} {x:Int} (h:xs[i.toNat]? = some x):gI xs i=x:=by rw [gI,h];rfl
structure ZI where
 vars:LI
 own:LI
 par:LI
 con:LI
 fst:LI
 tok:LI
def ZI.grow (L:ZI) (t own par:Int):ZI:=⟨L.vars++[t],L.own++[own],L.par++[par],L.con++[-1],L.fst++[-1],L.tok++[-1]⟩
def Tj (L:ZI) (v:Int):Option ZI:=if gI L.own v<1 then none else some { L with own:=L.own.set v.toNat (gI L.own v-1) }
def TU (own par ln:LI):Nat->Int->Bool
 | 0,_=>false
 | k+1,v=>if gI own v<1/\¬v∈ln then (if gI par v<0 then false else TU own par ln k (gI par v)) else true
def Uo (L:ZI) (ln:LI) (v:Int):Bool:=TU L.own L.par ln (v.toNat+1) v
def TD:LI->Int->LI->LI
 | own,_,[]=>own
 | own,p,f::r=>TD (if f≠0 then own.set p.toNat (gI own p+1) else own) (p+1) r
def KW (ds:List Ze) (L:ZI) (op x:Int):Option ZI:=
 if gI L.con x<0∨(op=17/\0<=gI L.tok x) then none
 else match Tj L x with
  | none=>none
  | some L1=>some { L1 with
    own:=TD L1.own (gI L.fst x) (ZQ ds (gI L.con x))
    tok:=if op=17 then L.tok.set x.toNat (ZQ ds (gI L.con x)).length else L.tok }
def KD (op:Int):Bool:=op==6||(op==9||(op==10||op==11))
def EP (n:Zt) (op num:Int):LI:=if op=9 then ((n.routines[num.toNat]?).map (·.lent)).getD [] else []
def Ue (n:Zt) (op num:Int) (i:Nat):Bool:=decide ((i:Int)∈EP n op num)
def K9 (n:Zt) (vars:LI) (op num a:Int) (i:Nat):Bool:=KD op&&(gI vars a != 0&&!Ue n op num i)
def Qr (n:Zt) (op num:Int):LI->Nat->ZI->Option ZI
 | [],_,L=>some L
 | a::r,i,L=>if K9 n L.vars op num a i=true then (match Tj L a with
   | none=>none
   | some L1=>Qr n op num r (i+1) L1) else Qr n op num r (i+1) L
def Ac (n:Zt) (op num:Int) (ln:LI) (L:ZI):LI->Nat->Bool
 | [],_=>true
 | a::r,i=>if Ue n op num i=true/\¬Uo L ln a=true then false else Ac n op num ln L r (i+1)
def CK (L:ZI) (into:Int) (m:Nat):Option ZI:=
 if 0<into then (if gI L.tok (into-1)≠m then none else some { L with tok:=L.tok.set (into-1).toNat (-1) }) else some L
def Kc (n:Zt) (ln:LI) (L:ZI) (op num into:Int) (args:LI):Option ZI:=
 match Qr n op num args 0 L with
 | none=>none
 | some L1=>if Ac n op num ln L1 args 0=true then CK L1 into args.length else none
def AB:LI->LI->Bool
 | o::os,t::ts=>if o≠0∨0<=t then false else AB os ts
 | _,_=>true
def ZI.take (L:ZI) (m:Nat):ZI:=⟨L.vars.take m,L.own.take m,L.par.take m,L.con.take m,L.fst.take m,L.tok.take m⟩
def KE (L:ZI) (m:Nat):Option ZI:=if AB (L.own.drop m) (L.tok.drop m)=true then some (L.take m) else none
def B1 (L:ZI) (par:Int):LI->ZI
 | []=>L
 | t::r=>B1 (L.grow t 0 par) par r
def AO (ds:List Ze) (L:ZI) (x c:Int):ZI:=
 B1 { L with con:=L.con.set x.toNat c,fst:=L.fst.set x.toNat L.vars.length } x (ZQ ds c)
def UZ (ds:List Ze) (L:ZI) (op num:Int) (args:LI) (i:Nat):ZI:=
 if op=8 then AO ds L (gI args 0) (gI (ZT ds num) i) else L
def JE (lent:LI):LI->Nat->ZI->ZI
 | [],_,L=>L
 | t::r,i,L=>JE lent r (i+1) (L.grow t (if t≠0/\¬(i:Int)∈lent then 1 else 0) (-1))
def QT (r:ZZ):ZI:=JE r.lent r.params 0 ⟨[],[],[],[],[],[]⟩
def AU (L:ZI) (ln:LI) (v:Int):Option ZI:=if Uo L ln v=true then some { L with own:=L.own.set v.toNat (gI L.own v+1) } else none
def Kh (n:Zt) (ln:LI) (L:ZI) (op num into:Int) (args:LI) (ch:Option ZI):Option ZI:=
 if op=14 then AU L ln (gI args 0)
 else if op=15 then Tj L (gI args 0)
 else if op=16∨op=17 then KW n.decls L op (gI args 0)
 else if op=7∨op=8 then (if op=8/\¬Uo L ln (gI args 0)=true then none else ch)
 else Kc n ln L op num into args
def KM (L:ZI) (op t:Int) (r:Option ZI):Option ZI:=
 match r with
 | none=>none
 | some L1=>if XF op=true then some (L1.grow t (if t≠0 then 1 else 0) (-1)) else some L1
def B9 (L:ZI) (first:Option ZI) (rest:ZI->Bool):Option ZI:=
 match first with
 | none=>none
 | some one=>if rest one=true then some { L with own:=one.own,tok:=one.tok } else none
def Fg (one:ZI) (two:Option ZI) (rest:Bool):Bool:=
 match two with
 | none=>false
 | some two=>if one.own=two.own/\one.tok=two.tok then rest else false
def Dw (r:Option ZI) (f:ZI->Option ZI):Option ZI:=match r with|none=>none|some L=>f L
def KL (m:Nat) (res:Int) (L:ZI):Option ZI:=Dw (if gI L.vars res≠0 then Tj L res else some L) fun L2=>KE L2 m
mutual
def TN (n:Zt) (ln:LI) (L:ZI):Z4->Option ZI
 | .mk op num into args kids=>KM L op (Yb n L.vars (.mk op num into args kids)) (Kh n ln L op num into args (QP n ln L op num args kids))
def QP (n:Zt) (ln:LI) (L:ZI) (op num:Int) (args:LI):List Z5->Option ZI
 | []=>none
 | b::bs=>B9 L (Vy n ln (UZ n.decls L op num args 0) L.vars.length b) fun one=>Kg n ln L op num args one bs 1
def Kg (n:Zt) (ln:LI) (L:ZI) (op num:Int) (args:LI) (one:ZI):List Z5->Nat->Bool
 | [],_=>true
 | b::bs,i=>Fg one (Vy n ln (UZ n.decls L op num args i) L.vars.length b) (Kg n ln L op num args one bs (i+1))
def Km (n:Zt) (ln:LI) (L:ZI):List Z4->Option ZI
 | []=>some L
 | s::r=>Dw (TN n ln L s) fun L1=>Km n ln L1 r
def Vy (n:Zt) (ln:LI) (L:ZI) (m:Nat):Z5->Option ZI
 | .mk steps result=>Dw (Km n ln L steps) (KL m result)
end
theorem P7 (n:Zt) (ln:LI) (L:ZI) (s:Z4):TN n ln L s=KM L s.op (Yb n L.vars s) (Kh n ln L s.op s.num s.into s.args (QP n ln L s.op s.num s.args s.kids)):=by
 cases s with
 | mk op num into args kids=>rw [TN];rfl
theorem G3 (n:Zt) (ln:LI) (L:ZI) (m:Nat) (b:Z5):Vy n ln L m b=Dw (Km n ln L b.steps) (KL m b.result):=by
 cases b with
 | mk st r=>rw [Vy];rfl
structure UF (L:ZI):Prop where
 own:L.own.length=L.vars.length
 par:L.par.length=L.vars.length
 con:L.con.length=L.vars.length
 fst:L.fst.length=L.vars.length
 tok:L.tok.length=L.vars.length
structure Xl (ds:List Ze) (L:ZI) (q:Int):Prop where
 len:UF L
 down:∀j:Int,0<=j->j<L.vars.length->gI L.par j<j
 arm:∀x:Int,0<=x->x<L.vars.length->0<=gI L.con x->0<=gI L.fst x/\gI L.fst x+(ZQ ds (gI L.con x)).length<=L.vars.length
 nn:∀x∈L.own,0<=x
 bd:∀x∈L.own,x<=q
end Go.Abs
section
namespace Go.Abs
end Go.Abs
namespace Go.Abs
theorem Z5b {n:Zt} {op num:Int} {r:ZZ} (h:op=9) (hr:n.routines[num.toNat]? = some r):EP n op num=r.lent:=by
 rw [EP,Zm h,hr];rfl
end Go.Abs
namespace Go.Abs
theorem PP {own par ln:LI} {N:Int} (hd:∀j:Int,0<=j->j<N->gI par j<j):∀(k:Nat) (v:Int),0<=v->v<N->v.toNat+1<=k->TU own par ln k v=TU own par ln (v.toNat+1) v:=by
 intro k
 induction k using Nat.strongRecOn with
 | ind k ih=>
  intro v h0 hN hk
  cases k with
  | zero=>omega
  | succ k=>
   rw [TU,TU]
   split
   ·split
    ·rfl
    ·have hdv:=hd v h0 hN
     rw [ih k om (gI par v) om om om]
     rw [ih v.toNat om (gI par v) om om om]
   ·rfl
theorem PR {own par ln:LI} {N j x1 x2:Int} {r:Bool} (h1:gI own j=x1) (h2:gI par j=x2) (hj:0<=j/\j<N) (hx:x1<1/\¬j∈ln) (h0:¬x2<0) (hd:∀i:Int,0<=i->i<N->gI par i<i)
  (h:TU own par ln (j.toNat+1) j=r):TU own par ln (x2.toNat+1) x2=r:=by
 rw [TU,h1,h2,Zm hx,Za h0] at h
 have hdv:=hd j hj.1 hj.2
 rw [<-h,PP hd j.toNat x2 om om om]
theorem PQ {own par ln:LI} {j x1 x2:Int} {r:Bool} (h1:gI own j=x1) (h2:gI par j=x2) (hx:x1<1/\¬j∈ln) (h0:x2<0) (h:TU own par ln (j.toNat+1) j=r):false=r:=by
 rw [TU,h1,h2,Zm hx,Zm h0] at h;exact h
theorem PS {own par ln:LI} {j x1:Int} {r:Bool} (h1:gI own j=x1) (hx:¬(x1<1/\¬j∈ln)) (h:TU own par ln (j.toNat+1) j=r):true=r:=by
 rw [TU,h1,Za hx] at h;exact h
end Go.Abs
namespace Go.Abs
theorem Kn {L L':ZI} {v:Int} (h:Tj L v=some L'):1<=gI L.own v/\L'.vars=L.vars/\L'.par=L.par/\L'.con=L.con/\L'.fst=L.fst/\L'.tok=L.tok/\L'.own=L.own.set v.toNat (gI L.own v-1):=by
 rw [Tj] at h
 split at h
 ·cases h
 ·cases h;exact ⟨by omega,rfl,rfl,rfl,rfl,rfl,rfl⟩
theorem GQ {xs:LI} {v:Int} (h:gI xs v≠0):gI xs v∈xs:=by
 rw [gI] at h ⊢
 cases hx:xs[v.toNat]? with
 | none=>rw [hx] at h;exact absurd rfl h
 | some y=>exact ZY hx
theorem KU {xs:LI} {i:Nat} {a x:Int} (h:x∈xs.set i a):x∈xs∨x=a:=List.mem_or_eq_of_mem_set h
theorem Xl.take {ds:List Ze} {L L':ZI} {q v:Int} (hk:Xl ds L q) (h:Tj L v=some L'):Xl ds L' q:=by
 obtain ⟨t1,t2,t3,t4,t5,t6,t7⟩:=Kn h
 obtain ⟨f1,f2,f3,f4,f5⟩:=hk.len
 have hm:=GQ (xs:=L.own) (v:=v) om
 refine ⟨⟨by rw [t7,t2,T1];exact f1,by rw [t3,t2];exact f2,by rw [t4,t2];exact f3,by rw [t5,t2];exact f4,by rw [t6,t2];exact f5⟩,?_,?_,?_,?_⟩
 ·rw [t2,t3];exact hk.down
 ·rw [t2,t4,t5];exact hk.arm
 ·rw [t7];intro x hx
  rcases KU hx with hx|rfl
  ·exact hk.nn x hx
  ·omega
 ·rw [t7];intro x hx
  rcases KU hx with hx|rfl
  ·exact hk.bd x hx
  ·have:=hk.bd _ hm;omega
end Go.Abs
end
namespace Go.Abs
theorem Ih {us:LI}:∀{args tys:LI},UQ us args tys=true->args.length=tys.length/\∀a∈args,0<=a/\a<us.length
 | [],[],_=>⟨rfl,by simp⟩
 | [],_::_,h=>by cases h
 | _::_,[],h=>by cases h
 | a::as1,t::ts,h=>by
  rw [UQ] at h
  split at h
  ·rename_i h1
   obtain ⟨q1,q2⟩:=Ih h
   refine ⟨by simp [q1],fun x hx=>?_⟩
   rcases YD.1 hx with rfl|hx
   ·have:=(JZ h1).1;omega
   ·exact q2 x hx
  ·cases h
theorem MP {n:Zt} {us:LI}:∀{bs:List Z5} {ms:List LI} {f:Bool} {t:Int},0<=t->0<=Ws n us bs ms f t ->
  ∀(i:Nat) (b:Z5) (m:LI),bs[i]? = some b->ms[i]? = some m->0<=X2 n (us++m) b
 | [],_,_,_,_,_,i,b,m,hb,_=>by simp at hb
 | b::bs,[],_,_,_,h,_,_,_,_,hm=>by simp at hm
 | b::bs,m::ms,f,t,ht,h,i,c,l,hc,hl=>by
  rw [Ws] at h
  split at h
  ·omega
  ·rename_i hq
   have h0:0<=X2 n (us++m) b:=by
    rcases Int.lt_or_le (X2 n (us++m) b) 0 with q|q
    ·exact absurd (.inl q) hq
    ·exact q
   cases i with
   | zero=>simp at hc hl;subst hc hl;exact h0
   | succ i=>exact MP h0 h i c l (by simpa using hc) (by simpa using hl)
structure AK (n:Zt) (us:LI) (s:Z4):Prop where
 args:∀a∈s.args,0<=a/\a<us.length
 one:(s.op=7∨s.op=8∨(14<=s.op/\s.op<=17))->∃a,s.args=[a]
 num:s.op=9->0<=s.num/\s.num<n.routines.length
 into:s.into≠0->1<=s.into/\s.into<=us.length
 kids:(s.op=7∨s.op=8)->s.kids.length=(Xq n.decls s.op s.num).length/\(Xq n.decls s.op s.num).length≠0 /\
  ∀(i:Nat) (b:Z5) (m:LI),s.kids[i]? = some b->(Xq n.decls s.op s.num)[i]? = some m->0<=X2 n (us++m) b
theorem Z4q {n:Zt} {us:LI} {op num:Int} {kids:List Z5} (h:0<=UM n us op num kids) :
  kids.length=(Xq n.decls op num).length/\(Xq n.decls op num).length≠0/\∀(i:Nat) (b:Z5) (m:LI),kids[i]? = some b->(Xq n.decls op num)[i]? = some m->0<=X2 n (us++m) b:=by
 rw [UM] at h
 split at h
 ·omega
 ·rename_i hq
  exact ⟨by omega,by omega,MP (Int.le_refl 0) h⟩
theorem N3 {xs:LI} (h:xs.length=1):∃a,xs=[a]:=by
 match xs,h with
 | [a],_=>exact ⟨a,rfl⟩
theorem P9 {n:Zt} {us:LI} {s:Z4} (h:0<=Yb n us s):AK n us s:=by
 rw [Bh] at h
 split at h
 ·omega
 rename_i h0
 have hinto:s.into≠0->1<=s.into/\s.into<=us.length:=by
  intro hi
  have hv:U7 us s.op s.into=true:=by
   cases q:U7 us s.op s.into with
   | true=>rfl
   | false=>exact absurd (.inr (.inl (by rw [q];simp))) h0
  rw [U7,Za hi] at hv
  split at hv
  ·cases ha:Xi us (s.into-1) with
   | none=>rw [ha] at hv;cases hv
   | some t=>have:=(JZ ha).1;omega
  ·cases hv
 have mk:(∀a∈s.args,0<=a/\a<us.length)->((s.op=7∨s.op=8∨(14<=s.op/\s.op<=17))->∃a,s.args=[a])->(s.op=9->0<=s.num/\s.num<n.routines.length) ->
   ((s.op=7∨s.op=8)->0<=UM n us s.op s.num s.kids)->AK n us s:=fun a b c d=>⟨a,b,c,hinto,fun q=>Z4q (d q)⟩
 have ty:∀{tys},XO us s.args tys=true->s.args.length=tys.length/\∀a∈s.args,0<=a/\a<us.length:=fun q=>Ih q
 split at h
 ·rename_i h1
  split at h
  ·rename_i h2
   exact mk (by rw [List.eq_nil_of_length_eq_zero h2.1];simp) om om om
  ·omega
 split at h
 ·split at h
  ·rename_i h1 h2;exact mk (ty h2).2 om om om
  ·omega
 split at h
 ·split at h
  ·rename_i h1 h2;exact mk (ty h2).2 om om om
  ·omega
 split at h
 ·split at h
  ·rename_i h1 h2;exact mk (ty h2.2).2 om om om
  ·omega
 split at h
 ·split at h
  ·rename_i h1 h2;exact mk (ty h2).2 (fun _=>N3 (by simpa using (ty h2).1)) om (fun _=>h)
  ·omega
 split at h
 ·split at h
  ·rename_i h1 h2;exact mk (ty h2).2 (fun _=>N3 (by simpa using (ty h2).1)) om (fun _=>h)
  ·omega
 split at h
 ·rename_i hop
  rw [Tx] at h
  cases hr:Xi n.routines s.num with
  | none=>rw [hr] at h;simp at h
  | some r=>
   rw [hr] at h
   simp only at h
   have hn:=(JZ hr).1
   rw [QU] at h
   split at h
   ·split at h
    ·rename_i h2;exact mk (ty h2).2 om om om
    ·omega
   ·split at h
    ·omega
    ·rename_i h2
     have h3:XO us s.args (r.params.take (r.params.length-1))=true:=by
      cases q:XO us s.args (r.params.take (r.params.length-1)) with
      | true=>rfl
      | false=>exact absurd (.inr (.inr (by rw [q];simp))) h2
     exact mk (ty h3).2 om om om
 split at h
 ·rename_i hop
  rcases he:s.args with _|⟨a,_|⟨b,_|⟨c,r⟩⟩⟩
  ·rw [he,show TV n.decls us []=-1 from rfl] at h;omega
  ·rw [he,show TV n.decls us [a]=-1 from rfl] at h;omega
  ·rw [he,TV] at h
   cases ha:Xi us a with
   | none=>rw [ha] at h;simp at h
   | some t=>
    rw [ha] at h
    simp only at h
    split at h
    ·cases hd:n.decls[(t-1).toNat]? with
     | none=>rw [hd] at h;simp at h
     | some d=>
      rw [hd] at h
      simp only at h
      split at h
      ·rename_i h3
       have h4:=(Ih h3).2 b (by simp)
       have h5:=(JZ ha).1
       refine mk (fun x hx=>?_) om om om
       rw [he] at hx
       rcases YD.1 hx with rfl|hx
       ·omega
       ·rw [XU.1 hx];exact h4
      ·omega
    ·omega
  ·rw [he,show TV n.decls us (a::b::c::r)=-1 from rfl] at h;omega
 split at h
 ·rename_i hop
  rcases he:s.args with _|⟨a,_|⟨b,r⟩⟩
  ·rw [he,show TF n.decls us s.op []=-1 from rfl] at h;omega
  ·rw [he,TF] at h
   cases ha:Xi us a with
   | none=>rw [ha] at h;simp at h
   | some t=>
    have h5:=(JZ ha).1
    refine mk (fun x hx=>?_) (fun _=>⟨a,he⟩) om om
    rw [he] at hx
    rw [XU.1 hx];omega
  ·rw [he,show TF n.decls us s.op (a::b::r)=-1 from rfl] at h;omega
 ·omega
def Qd (n:Zt) (us:LI) (s:Z4):LI:=if XF s.op=true then us++[Yb n us s] else us
theorem Ll {L L':ZI} {ln:LI} {v:Int} (h:AU L ln v=some L'):L'.vars=L.vars/\L'.par=L.par/\L'.con=L.con/\L'.fst=L.fst/\L'.tok=L.tok/\L'.own=L.own.set v.toNat (gI L.own v+1):=by
 rw [AU] at h
 split at h
 ·cases h;exact ⟨rfl,rfl,rfl,rfl,rfl,rfl⟩
 ·cases h
theorem FW:∀(fs:LI) (own:LI) (p:Int),(TD own p fs).length=own.length
 | [],own,p=>rfl
 | f::r,own,p=>by rw [TD,FW r];split<;>simp
theorem GO {xs:LI} {q v:Int} (h:∀x∈xs,x<=q) (hq:0<=q):gI xs v<=q:=by
 by_cases h0:gI xs v=0
 ·omega
 ·exact h _ (GQ h0)
theorem GR {xs:LI} {v:Int} (h:∀x∈xs,0<=x):0<=gI xs v:=by
 by_cases h0:gI xs v=0
 ·omega
 ·exact h _ (GQ h0)
theorem FX:∀(fs:LI) (own:LI) (p:Int),(∀x∈own,0<=x)->∀x∈TD own p fs,0<=x
 | [],own,p,h=>h
 | f::r,own,p,h=>by
  rw [TD]
  refine FX r _ _ fun x hx=>?_
  split at hx
  ·rcases KU hx with hx|rfl
   ·exact h x hx
   ·have:=GR (v:=p) h;omega
  ·exact h x hx
theorem FV:∀(fs:LI) (own:LI) (p q:Int),0<=q->(∀x∈own,x<=q)->∀x∈TD own p fs,x<=q+fs.length
 | [],own,p,q,hq,h=>by intro x hx;have:=h x hx;simp;omega
 | f::r,own,p,q,hq,h=>by
  intro x hx
  rw [TD] at hx
  have:=FV r _ _ (q+1) om (fun y hy=>by
   split at hy
   ·rcases KU hy with hy|rfl
    ·have:=h y hy;omega
    ·have:=GO (v:=p) h hq;omega
   ·have:=h y hy;omega) x hx
  simp only [YL];omega
theorem Nz {ds:List Ze} {L L':ZI} {op v:Int} (h:KW ds L op v=some L'):L'.vars=L.vars/\L'.par=L.par/\L'.con=L.con/\L'.fst=L.fst/\L'.tok.length=L.tok.length /\
  ∃L1,Tj L v=some L1/\L'.own=TD L1.own (gI L.fst v) (ZQ ds (gI L.con v)):=by
 rw [KW] at h
 split at h
 ·cases h
 ·cases ht:Tj L v with
  | none=>rw [ht] at h;cases h
  | some L1=>
   rw [ht] at h
   simp only at h
   obtain ⟨t1,t2,t3,t4,t5,t6,t7⟩:=Kn ht
   cases h
   refine ⟨t2,t3,t4,t5,?_,L1,rfl,rfl⟩
   split
   ·rw [T1]
   ·rfl
theorem GZ {n:Zt} {op num:Int} {ds:List Ze} {q:Int}:∀{as1:LI} {i:Nat} {L L':ZI},Xl ds L q->Qr n op num as1 i L=some L'->Xl ds L' q/\L'.vars=L.vars/\L'.par=L.par/\L'.con=L.con/\L'.fst=L.fst/\L'.tok=L.tok
 | [],i,L,L',hk,h=>by rw [Qr] at h;cases h;exact ⟨hk,rfl,rfl,rfl,rfl,rfl⟩
 | a::r,i,L,L',hk,h=>by
  rw [Qr] at h
  split at h
  ·cases ht:Tj L a with
   | none=>rw [ht] at h;cases h
   | some L1=>
    rw [ht] at h
    obtain ⟨t1,t2,t3,t4,t5,t6,t7⟩:=Kn ht
    obtain ⟨k1,k2,k3,k4,k5,k6⟩:=GZ (hk.take ht) h
    exact ⟨k1,k2.trans t2,k3.trans t3,k4.trans t4,k5.trans t5,k6.trans t6⟩
  ·exact GZ hk h
theorem Xl.le {ds:List Ze} {L:ZI} {q q':Int} (h:Xl ds L q) (hq:q<=q'):Xl ds L q':=⟨h.len,h.down,h.arm,h.nn,fun x hx=>Int.le_trans (h.bd x hx) hq⟩
theorem Xl.turn {ds:List Ze} {L L':ZI} {q q':Int} (hk:Xl ds L q) (h1:L'.vars=L.vars) (h2:L'.par=L.par) (h3:L'.con=L.con) (h4:L'.fst=L.fst) (h5:L'.tok.length=L.tok.length) (h6:L'.own.length=L.own.length)
  (h7:∀x∈L'.own,0<=x) (h8:∀x∈L'.own,x<=q'):Xl ds L' q':=by
 obtain ⟨f1,f2,f3,f4,f5⟩:=hk.len
 refine ⟨⟨by rw [h6,h1];exact f1,by rw [h2,h1];exact f2,by rw [h3,h1];exact f3,by rw [h4,h1];exact f4,by rw [h5,h1];exact f5⟩,?_,?_,h7,h8⟩
 ·rw [h1,h2];exact hk.down
 ·rw [h1,h3,h4];exact hk.arm
theorem BL {xs ys:LI} {j:Int} (h:j.toNat<xs.length):gI (xs++ys) j=gI xs j:=by
 rw [gI,gI,DC h]
theorem LV {xs:LI} {y:Int} {j:Int} (h:j.toNat=xs.length):gI (xs++[y]) j=y:=by
 rw [gI,h];simp
theorem Xl.grow {ds:List Ze} {L:ZI} {q t o p:Int} (hk:Xl ds L q) (hp:p<L.vars.length) (ho:0<=o/\o<=q):Xl ds (L.grow t o p) q:=by
 obtain ⟨f1,f2,f3,f4,f5⟩:=hk.len
 refine ⟨⟨by simp [ZI.grow,f1],by simp [ZI.grow,f2],by simp [ZI.grow,f3],by simp [ZI.grow,f4],by simp [ZI.grow,f5]⟩,?_,?_,?_,?_⟩
 ·intro j hj hl
  simp only [ZI.grow,Ym,FG] at hl ⊢
  by_cases hlt:j<L.vars.length
  ·rw [BL om];exact hk.down j hj hlt
  ·rw [LV om];omega
 ·intro x hx hl
  simp only [ZI.grow,Ym,FG] at hl ⊢
  by_cases hlt:x<L.vars.length
  ·rw [BL om,BL om]
   intro hc
   have:=hk.arm x hx hlt hc
   exact ⟨this.1,by omega⟩
  ·rw [LV om];omega
 ·intro x hx
  simp only [ZI.grow,X1,XU] at hx
  rcases hx with hx|rfl
  ·exact hk.nn x hx
  ·exact ho.1
 ·intro x hx
  simp only [ZI.grow,X1,XU] at hx
  rcases hx with hx|rfl
  ·exact hk.bd x hx
  ·exact ho.2
theorem LY {xs:LI} {k:Nat} {a:Int} {j:Int} (h:xs.length<=j.toNat/\j.toNat<xs.length+k):gI (xs++List.replicate k a) j=a:=by
 rw [gI,DD h.1,List.getElem?_replicate,Zm om];rfl
theorem LZ {xs:LI} {x j c:Int} (h:j.toNat=x.toNat) (hl:x.toNat<xs.length):gI (xs.set x.toNat c) j=c:=by
 rw [gI,h,List.getElem?_set_self hl];rfl
theorem M0 {xs:LI} {x j c:Int} (h:j.toNat≠x.toNat):gI (xs.set x.toNat c) j=gI xs j:=by
 rw [gI,gI,List.getElem?_set_ne (fun q=>h q.symm)]
theorem Mk {p:Int}:∀(fs:LI) (L:ZI),B1 L p fs=⟨L.vars++fs,L.own++List.replicate fs.length 0,L.par++List.replicate fs.length p,L.con++List.replicate fs.length (-1),
  L.fst++List.replicate fs.length (-1),L.tok++List.replicate fs.length (-1)⟩
 | [],L=>by simp [B1]
 | t::r,L=>by rw [B1,Mk r];simp [ZI.grow,Is]
theorem Ra {ds:List Ze} {L:ZI} {q x c:Int} (hk:Xl ds L q) (hq:0<=q) (hx:0<=x/\x<L.vars.length):Xl ds (AO ds L x c) q/\(AO ds L x c).vars=L.vars++ZQ ds c:=by
 obtain ⟨f1,f2,f3,f4,f5⟩:=hk.len
 rw [AO,Mk]
 refine ⟨⟨⟨by simp [f1],by simp [f2],by simp [f3],by simp [f4],by simp [f5]⟩,?_,?_,?_,?_⟩,rfl⟩
 ·intro j hj hl
  simp only [Ym] at hl ⊢
  by_cases hlt:j<L.vars.length
  ·rw [BL om];exact hk.down j hj hlt
  ·rw [LY om];omega
 ·intro y hy hl
  simp only [Ym] at hl ⊢
  by_cases hlt:y<L.vars.length
  ·rw [BL (by simp;omega),BL (by simp;omega)]
   by_cases he:y.toNat=x.toNat
   ·rw [LZ he om,LZ he om]
    intro _
    exact ⟨by omega,by simp⟩
   ·rw [M0 he,M0 he]
    intro hc
    have:=hk.arm y hy hlt hc
    exact ⟨this.1,by omega⟩
  ·rw [LY (by simp;omega)];omega
 ·intro y hy
  simp only [X1,List.mem_replicate] at hy
  rcases hy with hy|⟨_,rfl⟩
  ·exact hk.nn y hy
  ·exact Int.le_refl 0
 ·intro y hy
  simp only [X1,List.mem_replicate] at hy
  rcases hy with hy|⟨_,rfl⟩
  ·exact hk.bd y hy
  ·exact hq
theorem EH {n:Zt} {L:ZI} {q:Int} {s:Z4} {i:Nat} {m:LI} (hk:Xl n.decls L q) (hq:0<=q) (hf:AK n L.vars s) (hop:s.op=7∨s.op=8) (hm:(Xq n.decls s.op s.num)[i]? = some m) :
  Xl n.decls (UZ n.decls L s.op s.num s.args i) q/\(UZ n.decls L s.op s.num s.args i).vars=L.vars++m:=by
 rw [UZ]
 split
 ·rename_i h8
  obtain ⟨a,ha⟩:=hf.one om
  have hb:=hf.args a (by rw [ha];simp)
  have hg:gI s.args 0=a:=by rw [ha];rfl
  rw [Xq,Za om,Kt] at hm
  cases hc:(ZT n.decls s.num)[i]? with
  | none=>rw [hc] at hm;cases hm
  | some c=>
   rw [hc] at hm
   cases hm
   have hgc:gI (ZT n.decls s.num) (i:Int)=c:=by rw [gI];simp [hc]
   rw [hg,hgc]
   exact Ra hk hq hb
 ·rename_i h8
  rw [Xq,Zm om] at hm
  have:m=[]:=by
   match i,hm with
   | 0,hm=>simpa using hm.symm
   | 1,hm=>simpa using hm.symm
   | i+2,hm=>simp at hm
  subst this
  exact ⟨hk,by simp⟩
theorem Pa {n:Zt}:∀{l:List Z4} {us vs:LI},V1 n l us=some vs->us.length<=vs.length
 | [],us,vs,h=>by rw [V1] at h;cases h;exact YT _
 | s::r,us,vs,h=>by
  rw [V1] at h
  split at h
  ·cases h
  ·have:=Pa h
   split at this
   ·simp only [Ym,FG] at this;omega
   ·exact this
theorem Ml {n:Zt} {ln:LI} {L L':ZI} {op num into q:Int} {args:LI} {ds:List Ze} (hk:Xl ds L q) (h:Kc n ln L op num into args=some L'):Xl ds L' q/\L'.vars=L.vars:=by
 rw [Kc] at h
 cases ht:Qr n op num args 0 L with
 | none=>rw [ht] at h;cases h
 | some L1=>
  rw [ht] at h
  simp only at h
  obtain ⟨k1,k2,k3,k4,k5,k6⟩:=GZ hk ht
  split at h
  ·rw [CK] at h
   split at h
   ·split at h
    ·cases h
    ·cases h
     exact ⟨k1.turn rfl rfl rfl rfl (by simp) rfl k1.nn k1.bd,k2⟩
   ·cases h;exact ⟨k1,k2⟩
  ·cases h
theorem RY {L L':ZI} {m:Nat} (h:KE L m=some L'):L'=L.take m/\AB (L.own.drop m) (L.tok.drop m)=true:=by
 rw [KE] at h
 split at h
 ·rename_i hz;cases h;exact ⟨rfl,hz⟩
 ·cases h
theorem If {r:Option ZI} {f:ZI->Option ZI} {L:ZI} (h:Dw r f=some L):∃L1,r=some L1/\f L1=some L:=by
 cases r with
 | none=>cases h
 | some L1=>exact ⟨L1,rfl,h⟩
theorem N0 (n:Zt) (hn:YZ n) (ln:LI):∀m:Nat,
  (∀(s:Z4) (L L':ZI) (q:Int),s.sz<=m->Xl n.decls L q->0<=q->0<=Yb n L.vars s->TN n ln L s=some L'->Xl n.decls L' (q+4*s.sz)/\L'.vars=Qd n L.vars s) /\
  (∀(b:Z5) (L O:ZI) (q:Int) (k:Nat),b.sz<=m->Xl n.decls L q->0<=q->0<=X2 n L.vars b->k<=L.vars.length->Vy n ln L k b=some O ->
   (O.own.length=k/\O.tok.length=k/\(∀x∈O.own,0<=x/\x<=q+4*b.sz))/\UF O/\O.vars.length=k):=by
 intro m
 induction m with
 | zero=>exact ⟨fun s _ _ _ h=>by have:=s.sz_pos;omega,fun s _ _ _ _ h=>by have:=s.sz_pos;omega⟩
 | succ m ih=>
  have hs:∀(s:Z4) (L L':ZI) (q:Int),s.sz<=m+1->Xl n.decls L q->0<=q->0<=Yb n L.vars s->TN n ln L s=some L'->Xl n.decls L' (q+4*s.sz)/\L'.vars=Qd n L.vars s:=by
   intro s L L' q Xf hk hq hty h
   have hp:=s.sz_pos
   have hf:=P9 hty
   obtain ⟨f1,f2,f3,f4,f5⟩:=hk.len
   rw [P7] at h
   unfold KM at h
   cases hpk:Kh n ln L s.op s.num s.into s.args (QP n ln L s.op s.num s.args s.kids) with
   | none=>rw [hpk] at h;cases h
   | some L1=>
    rw [hpk] at h
    simp only at h
    have key:Xl n.decls L1 (q+4*s.sz)/\L1.vars=L.vars:=by
     rw [Kh] at hpk
     split at hpk
     ·obtain ⟨d1,d2,d3,d4,d5,d6⟩:=Ll hpk
      refine ⟨hk.turn d1 d2 d3 d4 (by rw [d5]) (by rw [d6,T1]) ?_ ?_,d1⟩
      ·rw [d6];intro x hx
       rcases KU hx with hx|rfl
       ·exact hk.nn x hx
       ·have:=GR (v:=gI s.args 0) hk.nn;omega
      ·rw [d6];intro x hx
       rcases KU hx with hx|rfl
       ·have:=hk.bd x hx;omega
       ·have:=GO (v:=gI s.args 0) hk.bd hq;omega
     split at hpk
     ·exact ⟨(hk.take hpk).le om,(Kn hpk).2.1⟩
     split at hpk
     ·rename_i hop
      obtain ⟨d1,d2,d3,d4,d5,Lt,ht,d6⟩:=Nz hpk
      have hkt:=hk.take ht
      have h3:=VI hn.decls (gI L.con (gI s.args 0))
      refine ⟨hk.turn d1 d2 d3 d4 d5 ?_ ?_ ?_,d1⟩
      ·rw [d6,FW,(Kn ht).2.2.2.2.2.2,T1]
      ·rw [d6];exact FX _ _ _ hkt.nn
      ·rw [d6];intro x hx
       have:=FV _ _ _ q hq hkt.bd x hx;omega
     split at hpk
     ·rename_i hop
      split at hpk
      ·cases hpk
      ·cases hks:s.kids with
       | nil=>rw [hks,QP] at hpk;cases hpk
       | cons b bs=>
        rw [hks,QP] at hpk
        unfold B9 at hpk
        cases hb:Vy n ln (UZ n.decls L s.op s.num s.args 0) L.vars.length b with
        | none=>rw [hb] at hpk;cases hpk
        | some one=>
         rw [hb] at hpk
         simp only at hpk
         split at hpk
         ·cases hpk
          obtain ⟨q1,q2,q3⟩:=hf.kids hop
          have hks0:s.kids[0]? = some b:=by rw [hks];rfl
          obtain ⟨a0,ha0⟩:=Js (xs:=Xq n.decls s.op s.num) (j:=0) om
          obtain ⟨k1,k2⟩:=EH hk hq hf hop ha0
          have hbz:=U3 hks0
          obtain ⟨⟨r1,r2,r3⟩,_⟩:=ih.2 b _ one q L.vars.length om k1 hq (by rw [k2];exact q3 0 b a0 hks0 ha0) (by rw [k2];simp) hb
          refine ⟨hk.turn rfl rfl rfl rfl (by simp only;omega) (by simp only;omega) (fun x hx=>(r3 x hx).1) (fun x hx=>?_),rfl⟩
          have:=(r3 x hx).2;omega
         ·cases hpk
     ·obtain ⟨k1,k2⟩:=Ml hk hpk
      exact ⟨k1.le om,k2⟩
    split at h
    ·rename_i hd
     cases h
     refine ⟨key.1.grow om ?_,by rw [Qd,Zm hd];simp [ZI.grow,key.2]⟩
     split<;>omega
    ·rename_i hd
     cases h
     exact ⟨key.1,by rw [Qd,Za hd];exact key.2⟩
  refine ⟨hs,?_⟩
  intro b L O q k Xf hk hq hty hkl h
  have hsteps:∀(l:List Z4) (L L':ZI) (q:Int) (vs:LI),Yk l<=m->Xl n.decls L q->0<=q->V1 n l L.vars=some vs->Km n ln L l=some L'->Xl n.decls L' (q+4*Yk l)/\L'.vars=vs:=by
   intro l
   induction l with
   | nil=>intro L L' q vs _ hk _ h1 h2;rw [V1] at h1;rw [Km] at h2;cases h1;cases h2;exact ⟨by simpa [Yk] using hk,rfl⟩
   | cons s r ihr=>
    intro L L' q vs hz hk hq h1 h2
    rw [Yk] at hz
    rw [Km] at h2
    obtain ⟨L1,e1,e2⟩:=If h2
    rw [V1] at h1
    split at h1
    ·cases h1
    ·rename_i h0
     obtain ⟨k1,k2⟩:=hs s L L1 q om hk hq om e1
     obtain ⟨k3,k4⟩:=ihr L1 L' (q+4*s.sz) vs om k1 om (by rw [k2];exact h1) e2
     exact ⟨k3.le (by rw [Yk];omega),k4⟩
  have hbz:=b.sz_eq
  rw [G3] at h
  obtain ⟨L1,e1,e2⟩:=If h
  rw [DN] at hty
  cases hv:V1 n b.steps L.vars with
  | none=>rw [hv] at hty;simp at hty
  | some vs=>
   obtain ⟨k1,k2⟩:=hsteps b.steps L L1 q vs om hk hq hv e1
   have hlen:=Pa hv
   rw [KL] at e2
   obtain ⟨L2,e3,e4⟩:=If e2
   have k3:Xl n.decls L2 (q+4*Yk b.steps)/\L2.vars=L1.vars:=by
    split at e3
    ·exact ⟨k1.take e3,(Kn e3).2.1⟩
    ·cases e3;exact ⟨k1,rfl⟩
   obtain ⟨rfl,_⟩:=RY e4
   obtain ⟨g1,g2,g3,g4,g5⟩:=k3.1.len
   have hl2:L2.vars.length=vs.length:=by rw [k3.2,k2]
   refine ⟨⟨by simp [ZI.take];omega,by simp [ZI.take];omega,fun x hx=>?_⟩,⟨by simp [ZI.take];omega,by simp [ZI.take];omega,by simp [ZI.take];omega,by simp [ZI.take];omega,by simp [ZI.take];omega⟩,by simp [ZI.take];omega⟩
   have hx':x∈L2.own:=TR hx
   have:=k3.1.nn x hx'
   have:=k3.1.bd x hx'
   omega
theorem P8 {n:Zt} (hn:YZ n) {ln:LI} {s:Z4} {L L':ZI} {q:Int} (hk:Xl n.decls L q) (hq:0<=q) (hty:0<=Yb n L.vars s) (h:TN n ln L s=some L'):Xl n.decls L' (q+4*s.sz)/\L'.vars=Qd n L.vars s:=
 (N0 n hn ln s.sz).1 s L L' q (YT _) hk hq hty h
theorem IS {n:Zt} (hn:YZ n) {ln:LI} {b:Z5} {L O:ZI} {q:Int} {k:Nat} (hk:Xl n.decls L q) (hq:0<=q) (hty:0<=X2 n L.vars b) (hkl:k<=L.vars.length) (h:Vy n ln L k b=some O) :
  O.own.length=k/\O.tok.length=k/\(∀x∈O.own,0<=x/\x<=q+4*b.sz):=
 ((N0 n hn ln b.sz).2 b L O q k (YT _) hk hq hty hkl h).1
theorem Dh {n:Zt} (hn:YZ n) {ln:LI} {s:Z4} {L L1:ZI} {q:Int} (hk:Xl n.decls L q) (hq:0<=q) (hf:AK n L.vars s)
  (hpk:Kh n ln L s.op s.num s.into s.args (QP n ln L s.op s.num s.args s.kids)=some L1):Xl n.decls L1 (q+4*s.sz)/\L1.vars=L.vars:=by
 have hp:=s.sz_pos
 obtain ⟨f1,f2,f3,f4,f5⟩:=hk.len
 rw [Kh] at hpk
 split at hpk
 ·obtain ⟨d1,d2,d3,d4,d5,d6⟩:=Ll hpk
  refine ⟨hk.turn d1 d2 d3 d4 (by rw [d5]) (by rw [d6,T1]) ?_ ?_,d1⟩
  ·rw [d6];intro x hx
   rcases KU hx with hx|rfl
   ·exact hk.nn x hx
   ·have:=GR (v:=gI s.args 0) hk.nn;omega
  ·rw [d6];intro x hx
   rcases KU hx with hx|rfl
   ·have:=hk.bd x hx;omega
   ·have:=GO (v:=gI s.args 0) hk.bd hq;omega
 split at hpk
 ·exact ⟨(hk.take hpk).le om,(Kn hpk).2.1⟩
 split at hpk
 ·rename_i hop
  obtain ⟨d1,d2,d3,d4,d5,Lt,ht,d6⟩:=Nz hpk
  have hkt:=hk.take ht
  have h3:=VI hn.decls (gI L.con (gI s.args 0))
  refine ⟨hk.turn d1 d2 d3 d4 d5 ?_ ?_ ?_,d1⟩
  ·rw [d6,FW,(Kn ht).2.2.2.2.2.2,T1]
  ·rw [d6];exact FX _ _ _ hkt.nn
  ·rw [d6];intro x hx
   have:=FV _ _ _ q hq hkt.bd x hx;omega
 split at hpk
 ·rename_i hop
  split at hpk
  ·cases hpk
  ·cases hks:s.kids with
   | nil=>rw [hks,QP] at hpk;cases hpk
   | cons b bs=>
    rw [hks,QP] at hpk
    unfold B9 at hpk
    cases hb:Vy n ln (UZ n.decls L s.op s.num s.args 0) L.vars.length b with
    | none=>rw [hb] at hpk;cases hpk
    | some one=>
     rw [hb] at hpk
     simp only at hpk
     split at hpk
     ·cases hpk
      obtain ⟨q1,q2,q3⟩:=hf.kids hop
      have hks0:s.kids[0]? = some b:=by rw [hks];rfl
      obtain ⟨a0,ha0⟩:=Js (xs:=Xq n.decls s.op s.num) (j:=0) om
      obtain ⟨k1,k2⟩:=EH hk hq hf hop ha0
      have hbz:=U3 hks0
      obtain ⟨r1,r2,r3⟩:=IS hn k1 hq (by rw [k2];exact q3 0 b a0 hks0 ha0) (by rw [k2];simp) hb
      refine ⟨hk.turn rfl rfl rfl rfl (by simp only;omega) (by simp only;omega) (fun x hx=>(r3 x hx).1) (fun x hx=>?_),rfl⟩
      have:=(r3 x hx).2;omega
     ·cases hpk
 ·obtain ⟨k1,k2⟩:=Ml hk hpk
  exact ⟨k1.le om,k2⟩
end Go.Abs
section
namespace Go.Abs
theorem Rb {ds:List Ze} {op num:Int} {i:Nat} {m:LI} (h8:op=8) (h:(Xq ds op num)[i]? = some m):∃c,(ZT ds num)[i]? = some c/\m=ZQ ds c:=by
 rw [Xq,Za om,Kt] at h
 cases hc:(ZT ds num)[i]? with
 | none=>rw [hc] at h;cases h
 | some c=>rw [hc] at h;cases h;exact ⟨c,rfl,rfl⟩
theorem Z4j {ds:List Ze} {L:ZI} {op num x c:Int} {args:LI} {i:Nat} (h8:op=8) (hx:args[0]? = some x) (hc:(ZT ds num)[i]? = some c):UZ ds L op num args i=AO ds L x c:=by
 have h1:gI args 0=x:=by rw [gI];simp [hx]
 have h2:gI (ZT ds num) (i:Int)=c:=by rw [gI];simp [hc]
 rw [UZ,Zm h8,h1,h2]
theorem Z4k {ds:List Ze} {L:ZI} {op num:Int} {args:LI} {i:Nat} (h8:¬op=8):UZ ds L op num args i=L:=by rw [UZ,Za h8]
theorem Z4o {n:Zt} {ln:LI} {L:ZI} {op num:Int} {args:LI} {kids:List Z5} {kb:Z5} (h:kids[0]? = some kb) :
  QP n ln L op num args kids=B9 L (Vy n ln (UZ n.decls L op num args 0) L.vars.length kb) fun one=>Kg n ln L op num args one (kids.drop 1) 1:=by
 cases kids with
 | nil=>simp at h
 | cons b bs=>simp at h;subst h;rw [QP];rfl
theorem Z4p {n:Zt} {ln:LI} {L one:ZI} {op num:Int} {args:LI} {kids:List Z5} {kb:Z5} {k:Nat} (h:kids[k]? = some kb) :
  Kg n ln L op num args one (kids.drop k) k=Fg one (Vy n ln (UZ n.decls L op num args k) L.vars.length kb) (Kg n ln L op num args one (kids.drop (k+1)) (k+1)):=by
 rw [Y3 h,Kg]
def AR (n:Zt) (ln:LI) (L:ZI) (s:Z4):Option ZI:=
 if s.op=8/\¬Uo L ln (gI s.args 0)=true then none else QP n ln L s.op s.num s.args s.kids
theorem Rt {n:Zt} {ln:LI} {L:ZI} {s:Z4} {kb:Z5} (h:¬(s.op=8/\¬Uo L ln (gI s.args 0)=true)) (hk:s.kids[0]? = some kb) :
  AR n ln L s=B9 L (Vy n ln (UZ n.decls L s.op s.num s.args 0) L.vars.length kb) fun one=>Kg n ln L s.op s.num s.args one (s.kids.drop 1) 1:=by
 rw [AR,Za h,Z4o hk]
theorem Jq {xs:LI} {x:Int} (h:xs[0]? = some x):gI xs 0=x:=by rw [gI];simp [h]
end Go.Abs
namespace Go.Abs
theorem UF.grow {L:ZI} {t o p:Int} (h:UF L):UF (L.grow t o p):=by
 obtain ⟨f1,f2,f3,f4,f5⟩:=h
 exact ⟨by simp [ZI.grow,f1],by simp [ZI.grow,f2],by simp [ZI.grow,f3],by simp [ZI.grow,f4],by simp [ZI.grow,f5]⟩
theorem UF.arm {L:ZI} {i j:Nat} {c d:Int} (h:UF L):UF ⟨L.vars,L.own,L.par,L.con.set i c,L.fst.set j d,L.tok⟩:=by
 obtain ⟨f1,f2,f3,f4,f5⟩:=h
 exact ⟨f1,f2,by simp [f3],by simp [f4],f5⟩
end Go.Abs
namespace Go.Abs
theorem MO {n:Zt} (hn:YZ n) {ln:LI} {L O:ZI} {q:Int} {s:Z4} {i:Nat} {kb:Z5} {m:LI} (hk:Xl n.decls L q) (hq:0<=q) (hf:AK n L.vars s) (hop:s.op=7∨s.op=8)
  (_:s.kids[i]? = some kb) (harm:(Xq n.decls s.op s.num)[i]? = some m) (hbt:0<=X2 n (L.vars++m) kb) (h:Vy n ln (UZ n.decls L s.op s.num s.args i) L.vars.length kb=some O) :
  O.own.length=L.vars.length/\O.tok.length=L.vars.length:=by
 obtain ⟨k1,k2⟩:=EH hk hq hf hop harm
 obtain ⟨r1,r2,_⟩:=IS hn k1 hq (by rw [k2];exact hbt) (by rw [k2];simp) h
 exact ⟨r1,r2⟩
theorem Z8q {one two:ZI} {r:Bool} (h:¬(¬one.own=two.own∨¬one.tok=two.tok)):Fg one (some two) r=r:=Zm ⟨XT.1 fun q=>h (.inl q),XT.1 fun q=>h (.inr q)⟩
theorem Z8p {one two:ZI} {r:Bool} (h:¬one.own=two.own∨¬one.tok=two.tok):Fg one (some two) r=false:=Za fun q=>h.elim (fun z=>z q.1) fun z=>z q.2
theorem Z5m {L one:ZI} {f:ZI->Bool} (h:f one=true):B9 L (some one) f=some ⟨L.vars,one.own,L.par,L.con,L.fst,one.tok⟩:=Zm h
theorem N5 {L one:ZI} {f:ZI->Bool} (h:f one=false):B9 L (some one) f=none:=Za (by rw [h];simp)
end Go.Abs
namespace Go.Abs
section
variable {n:Zt} {ln:LI} {L:ZI} {s:Z4}
abbrev KX (n:Zt) (ln:LI) (L:ZI) (s:Z4):Option ZI:=Kh n ln L s.op s.num s.into s.args (QP n ln L s.op s.num s.args s.kids)
theorem NC {x:Int} (h:s.op=14) (hx:gI s.args 0=x):KX n ln L s=AU L ln x:=hx▸Zm h
theorem ND {x:Int} (h:s.op=15) (hx:gI s.args 0=x):KX n ln L s=Tj L x:=by rw [<-hx,KX,Kh,Za om,Zm h]
theorem NE {x:Int} (h:s.op=16∨s.op=17) (hx:gI s.args 0=x):KX n ln L s=KW n.decls L s.op x:=by rw [<-hx,KX,Kh,Za om,Za om,Zm h]
theorem NF (h:s.op=7∨s.op=8):KX n ln L s=AR n ln L s:=by rw [KX,Kh,Za om,Za om,Za om,Zm h,AR]
theorem NG (h1:¬s.op=14) (h2:¬s.op=15) (h3:¬(s.op=16∨s.op=17)) (h4:¬(s.op=7∨s.op=8)):KX n ln L s=Kc n ln L s.op s.num s.into s.args:=by
 rw [KX,Kh,Za h1,Za h2,Za h3,Za h4]
theorem Sn {v:Int} (h:¬Uo L ln v=true):AU L ln v=none:=Za h
theorem So {v x:Int} (h:¬¬Uo L ln v=true) (hx:gI L.own v=x):AU L ln v=some ⟨L.vars,L.own.set v.toNat (x+1),L.par,L.con,L.fst,L.tok⟩:=by rw [AU,Zm (XT.1 h),hx]
theorem UC (n:Zt) (ln:LI) (L:ZI) (s:Z4):TN n ln L s=KM L s.op (Yb n L.vars s) (KX n ln L s):=P7 n ln L s
theorem Us {X:ZI} {op t:Int} (h:XF op=true/\t≠0):KM L op t (some X)=some (X.grow t 1 (-1)):=by
 unfold KM;simp only [h.1,↓reduceIte];rw [Zm h.2]
theorem Ut {X:ZI} {op t:Int} (h:¬(XF op=true/\t≠0)) (h2:XF op=true):KM L op t (some X)=some (X.grow 0 0 (-1)):=by
 have ht:t=0:=XT.1 fun q=>h ⟨h2,q⟩
 subst ht
 unfold KM;simp only [h2,↓reduceIte];rfl
theorem Uu {X:ZI} {op t:Int} (h:¬XF op=true):KM L op t (some X)=some X:=by
 unfold KM;simp only [Za h]
end
end Go.Abs
namespace Go.Abs
theorem IT {n:Zt} {us:LI} {b:Z5} (h:0<=X2 n us b):∃vs t,V1 n b.steps us=some vs/\Xi vs b.result=some t/\0<=t:=by
 rw [DN] at h
 cases hv:V1 n b.steps us with
 | none=>rw [hv] at h;simp at h
 | some vs=>
  rw [hv] at h
  simp only at h
  cases ha:Xi vs b.result with
  | none=>rw [ha] at h;simp at h
  | some t=>rw [ha] at h;exact ⟨vs,t,rfl,ha,h⟩
theorem Pb {n:Zt} {us vs:LI} {s:Z4} {r:List Z4} (h:V1 n (s::r) us=some vs):0<=Yb n us s/\V1 n r (Qd n us s)=some vs:=by
 rw [V1] at h
 split at h
 ·cases h
 ·exact ⟨by omega,h⟩
theorem Ow (n:Zt) (us:LI) (s:Z4):us.length<=(Qd n us s).length/\(Qd n us s).length<=us.length+s.sz:=by
 have:=s.sz_pos
 rw [Qd];split
 ·simp only [Ym,FG];omega
 ·omega
end Go.Abs
namespace Go.Abs
theorem SP {X L:ZI} {m:Nat} {r x:Int} (hg:gI L.vars r=x) (h:x≠0) (ht:Tj L r=some X):KL m r L=KE X m:=by rw [KL,hg,Zm h,ht];rfl
theorem SO {L:ZI} {m:Nat} {r x:Int} (hg:gI L.vars r=x) (h:x≠0) (ht:Tj L r=none):KL m r L=none:=by rw [KL,hg,Zm h,ht];rfl
theorem Cy {L:ZI} {m:Nat} {r x:Int} (hg:gI L.vars r=x) (h:¬x≠0):KL m r L=KE L m:=by rw [KL,hg,Za h];rfl
end Go.Abs
namespace Go.Abs
theorem NB {ds:List Ze} {lent:LI}:∀{ps:LI} {i:Nat} {L:ZI},Xl ds L 1->Xl ds (JE lent ps i L) 1/\(JE lent ps i L).vars=L.vars++ps
 | [],i,L,hk=>⟨hk,by simp [JE]⟩
 | t::r,i,L,hk=>by
  rw [JE]
  obtain ⟨k1,k2⟩:=NB (lent:=lent) (ps:=r) (i:=i+1) (hk.grow (t:=t) (o:=if t≠0/\¬(i:Int)∈lent then 1 else 0) (p:=-1) om (by split<;>omega))
  exact ⟨k1,by rw [k2];simp [ZI.grow]⟩
theorem Z5p (ds:List Ze) (r:ZZ):Xl ds (QT r) 1/\(QT r).vars=r.params:=by
 have h:Xl ds (⟨[],[],[],[],[],[]⟩:ZI) 1:=⟨⟨rfl,rfl,rfl,rfl,rfl⟩,fun j h1 h2=>by simp at h2;omega,fun j h1 h2=>by simp at h2;omega,by simp,by simp⟩
 obtain ⟨k1,k2⟩:=NB (lent:=r.lent) (ps:=r.params) (i:=0) h
 exact ⟨k1,by rw [QT,k2];rfl⟩
end Go.Abs
namespace Go.Abs
theorem Ob {n:Zt}:∀{l:List ZZ},Qb n l=true->∀r∈l,¬T0 r.body<0/\X2 n r.params r.body=r.result
 | [],_,r,h=>by simp at h
 | a::l,h,r,hr=>by
  rw [Qb] at h
  split at h
  ·rename_i h1
   rcases YD.1 hr with rfl|hr
   ·exact h1
   ·exact Ob h r hr
  ·cases h
theorem Pr {n:Zt} (hz:Um n) (h:Wg n=true):YZ n/\∀r∈n.routines,0<=X2 n r.params r.body:=by
 simp only [Wg,Xx] at h
 refine ⟨Hw hz h.1,fun r hr=>?_⟩
 rw [(Ob h.2 r hr).2]
 have h1:=h.1
 simp only [Ux,Qz,Xx] at h1
 have:=HY h1.2.1.2.2.1 (VV r) (XD.2 ⟨r,hr,rfl⟩)
 simp only [QW,Xx,decide_eq_true_eq,VV] at this
 exact (of_decide_eq_true this.2.2).1
end Go.Abs
end
section
namespace Go.Abs
theorem SB {xs:LI} (h:Z7 xs=[]):xs=[]:=by cases xs with|nil=>rfl|cons x r=>cases h
theorem Ss {xs:List Y1} (h:Xn xs=[]):xs=[]:=by cases xs with|nil=>rfl|cons x r=>cases h
theorem Sv {xs:List Ze} (h:Yo xs=[]):xs=[]:=by cases xs with|nil=>rfl|cons x r=>cases h
end Go.Abs
namespace Go.Abs
theorem LS (xss:List LI) (k:Nat):(xss.take k).flatten.length<=xss.flatten.length:=by
 conv=>rhs;rw [<-UE k xss,List.flatten_append,Ym]
 omega
end Go.Abs
namespace Go.Abs
theorem GM {xss:List LI} {k:Nat} {x:LI} (h:xss[k]? = some x):(xss.take (k+1)).flatten=(xss.take k).flatten++x:=by rw [Wu h,List.flatten_append];simp
theorem LR {xss:List LI} {k:Nat} {x:LI} (h:xss[k]? = some x):(xss.take k).flatten.length+x.length<=xss.flatten.length:=by
 have:=LS xss (k+1)
 rw [GM h,Ym] at this
 exact this
end Go.Abs
end
section
namespace Go.Abs
theorem RH {c:Int} {ds:List Ze} {k:Nat} {d:Ze} {r:Int × LI} (h:ds[k]? = some d) (hn:¬(c-Yy (ds.take k)>=0/\c-Yy (ds.take k)<d.cons.length))
  (hr:Up c (ds.drop k) k (Yy (ds.take k))=r):Up c (ds.drop (k+1)) (k+1) (Yy (ds.take (k+1)))=r:=by
 rw [Y3 h,Up,Za om] at hr
 rw [Wu h,Ct,<-hr];rfl
end Go.Abs
namespace Go.Abs
theorem RJ {c:Int} {ds:List Ze} {k:Nat} {d:Ze} {x:Y1} (h:ds[k]? = some d) (hn:c-Yy (ds.take k)>=0/\c-Yy (ds.take k)<d.cons.length)
  (hx:d.cons[(c-Yy (ds.take k)).toNat]? = some x):Up c (ds.drop k) k (Yy (ds.take k))=((k:Int)+1,x.fields):=by
 rw [Y3 h,Up,Zm om,hx];rfl
def JQ (c:Int) (z:Nat) (v:Int):Prop:=v=c-z∨(c<0/\c-z < -9223372036854775808/\v=c-z+18446744073709551616)
theorem Re {c:Int} {z l:Nat} {v:Int} (h:JQ c z v) (hz:z<=100) (hl:l<=3) (hc:-9223372036854775808<=c/\c<=9223372036854775807):JQ c (z+l) (Bm (v-l)):=by
 unfold JQ at *;rw [Bm,IntKind.wrap_i64];omega
theorem RI {c v:Int} {ds:List Ze} {k:Nat} {d:Ze} {r:Int × LI} (h:ds[k]? = some d) (ha:JQ c (Yy (ds.take k)) v) (hn:¬(v>=0/\v<d.cons.length))
  (hr:Up c (ds.drop k) k (Yy (ds.take k))=r):Up c (ds.drop (k+1)) (k+1) (Yy (ds.take (k+1)))=r:=RH h (by unfold JQ at ha;omega) hr
theorem RK {c v:Int} {ds:List Ze} {k:Nat} {d:Ze} {x:Y1} (h:ds[k]? = some d) (ha:JQ c (Yy (ds.take k)) v) (hz:Yy (ds.take k)<=100) (hl:d.cons.length<=3) (hc:-9223372036854775808<=c)
  (hn:v>=0/\v<d.cons.length) (hx:d.cons[v.toNat]? = some x):Up c (ds.drop k) k (Yy (ds.take k))=((k:Int)+1,x.fields):=by
 have:v=c-(Yy (ds.take k):Int):=by unfold JQ at ha;omega
 subst this
 exact RJ h hn hx
def V7 (ds:List Ze) (t:Int):Ze:=if XA ds t=true then (ds[(t-1).toNat]?).getD ⟨0,0,[]⟩ else ⟨0,0,[]⟩
end Go.Abs
namespace Go.Abs
abbrev Lj (ds:List Ze) (d:Ze):Prop:=
 (((¬(0<=d.frm/\d.frm<=ds.length))∨(¬(0<=d.to_/\d.to_<=ds.length)))∨((d.cons.length:Int)>3))∨(((d.cons.length:Int)>0)/\((d.frm≠0)∨(d.to_≠0)))
theorem Sh {ds:List Ze} {d:Ze} {i:Nat} (h:Lj ds d):VZ ds d i=false:=by
 rw [VZ]
 split
 ·rw [Za];rintro ⟨h1,h2,h3⟩
  rcases h with ((h|h)|h)|h<;>omega
 ·split
  ·rfl
  ·rcases h with ((h|h)|h)|h
   ·rw [decide_eq_false h];rfl
   ·rw [decide_eq_false h,Bool.and_false]
   ·omega
   ·omega
theorem Si {ds:List Ze} {d:Ze} {i:Nat} (hl:0<d.cons.length) (h:UU ds.length d.cons=false):VZ ds d i=false:=by
 rw [VZ,Zm hl];split
 ·exact h
 ·rfl
theorem Sj {ds:List Ze} {d:Ze} {i:Nat} (hl:d.cons.length=0) (h:TX d (ds.take i)=true):VZ ds d i=false:=by
 rw [VZ,Za om,Zm h]
theorem Sk {ds:List Ze} {d:Ze} {i:Nat} (h1:¬Lj ds d) (h2:UU ds.length d.cons=true) (h3:d.cons.length=0->TX d (ds.take i)=false):VZ ds d i=true:=by
 rw [VZ]
 have ha:0<=d.frm/\d.frm<=ds.length:=XT.1 fun q=>h1 (.inl (.inl (.inl q)))
 have hb:0<=d.to_/\d.to_<=ds.length:=XT.1 fun q=>h1 (.inl (.inl (.inr q)))
 have hc:¬(d.cons.length:Int)>3:=fun q=>h1 (.inl (.inr q))
 split
 ·rename_i hl
  have hd:¬(d.frm≠0∨d.to_≠0):=fun q=>h1 (.inr ⟨by omega,q⟩)
  rw [Zm ⟨by omega,by omega,by omega⟩];exact h2
 ·rw [Za (by rw [h3 om];simp),decide_eq_true ha,decide_eq_true hb];rfl
theorem Il {ds:List Ze} {k:Nat} {d:Ze} (h:ds[k]? = some d) (hA:VZ ds d k=false) (c:Uq ds (ds.drop k) k=Uq ds ds 0):false=Wm ds:=by
 rw [Wm,<-c,Y3 h,Uq,Cu h,hA,Za (by simp),Bool.and_false]
theorem Zbq {ds:List Ze} {k:Nat} {d:Ze} {r:Bool} (h:ds[k]? = some d) (hA:VZ ds d k=true) (c:Uq ds (ds.drop k) k=r):Uq ds (ds.drop (k+1)) (k+1)=r:=by
 rw [Y3 h,Uq,Cu h,hA,Zm rfl] at c;exact c
theorem Zbp {ds:List Ze} {k:Nat} (hl:ds.length<=4) (hk:ds.length<=k) (c:Uq ds (ds.drop k) k=Uq ds ds 0):true=Wm ds:=by
 rw [Wm,<-c,YY hk,decide_eq_true hl];rfl
theorem RL {m:Nat} {c:Y1} (h:((c.fields.length:Int)>3)∨(¬(XP m c.fields=true))):K8 m c=false:=by
 rw [K8]
 rcases h with h|h
 ·rw [decide_eq_false om];rfl
 ·rw [UR.2 h,Bool.and_false]
theorem RM {m:Nat} {c:Y1} (h:¬(((c.fields.length:Int)>3)∨(¬(XP m c.fields=true)))):K8 m c=true:=by
 rw [K8,XT.1 fun q=>h (.inr q),decide_eq_true (by have:¬(c.fields.length:Int)>3:=fun q=>h (.inl q);omega)];rfl
end Go.Abs
end
section
namespace Go.Abs
structure WA where
 pms:LI
 lnt:LI
 res:Int
abbrev MW (f:WA):List AV:=[Z6 f.pms,Z6 f.lnt,.i f.res]
abbrev FQ (f:WA):AV:=.agg (MW f)
def UH (fs:List WA):List AV:=fs.map FQ
abbrev C0 (xs:List WA):AV:=.sl (UH xs) none
abbrev EV (xs:List WA) (v:Value):AV:=.sl (UH xs) (some v)
theorem BG {xs:List WA} {j:Nat} {x:WA} (h:xs[j]? = some x):(UH xs)[j]? = some (FQ x):=by simp [UH,h]
@[simp] theorem Cx (xs:List WA):(UH xs).length=xs.length:=by simp [UH]
theorem Lo (xs:List WA):∀y∈UH xs,y.leaves.length=3:=by intro y hy;simp only [UH,XD] at hy;obtain ⟨x,_,rfl⟩:=hy;rfl
theorem SG (xs:List WA):(Zd (UH xs)).all AV.one=true:=KN fun y hy=>by simp only [UH,XD] at hy;obtain ⟨x,_,rfl⟩:=hy;rfl
def XB (r:ZZ):WA:=⟨r.params,r.lent,r.result⟩
def KZ (m:Nat) (f:WA):Bool:=QW m ⟨f.pms,f.res⟩&&Kq f.pms f.lnt
def Qv (m:Nat):List WA->Bool
 | []=>true
 | f::r=>if KZ m f=true then Qv m r else false
def GG:List WA->Bool
 | []=>false
 | f::_=>decide (f.pms.length=0)&&decide (f.res=0)
def K1 (ds:List Ze) (fs:List WA):Bool:=Wm ds&&(decide (1<=fs.length/\fs.length<=4)&&(GG fs&&Qv ds.length fs))
theorem LJ {fs:List WA} {x:WA} (h:fs[0]? = some x):GG fs=(decide (x.pms.length=0)&&decide (x.res=0)):=by
 cases fs with
 | nil=>simp at h
 | cons f r=>simp at h;subst h;rfl
theorem OD (m:Nat):∀rs:List ZZ,Qv m (rs.map XB)=(QX m (rs.map VV)&&KS rs)
 | []=>rfl
 | r::rs=>by
  simp only [VQ,Qv,QX,KS,KZ,OD m rs]
  simp only [XB,VV]
  by_cases h1:QW m { params:=r.params,result:=r.result }=true<;>by_cases h2:Kq r.params r.lent=true<;>simp [h1,h2]
theorem N9 (n:Zt):Ux n=(decide (n.routines.length<=4)&&K1 n.decls (n.routines.map XB)):=by
 have hf:GG (n.routines.map XB)=Eb (n.routines.map VV):=by
  cases n.routines with
  | nil=>rfl
  | cons r rs=>rfl
 rw [Ux,K1,Qz,OD,hf]
 simp only [JN]
 cases decide (n.routines.length<=4)<;>cases Wm n.decls<;>cases decide (1<=n.routines.length/\n.routines.length<=4)<;>cases QX n.decls.length (n.routines.map VV) <;>
  cases Eb (n.routines.map VV)<;>cases KS n.routines<;>rfl
theorem Fh {rs:List ZZ} {j:Nat} {x:WA} (h:(rs.map XB)[j]? = some x):∃r,rs[j]? = some r/\x=XB r:=by
 rw [Kt] at h
 cases hr:rs[j]? with
 | none=>rw [hr] at h;cases h
 | some r=>rw [hr] at h;cases h;exact ⟨r,rfl,rfl⟩
theorem N2 {ps ls:LI} {j:Nat} {v:Int} {r:Bool} (h:ls[j]? = some v) (hg:(0<=v/\v<=(ps.length:Int)-1)/\ps[v.toNat]?≠some 0/\(∀p,(if j=0 then none else ls[j-1]?)=some p->p<v))
  (hr:Qt ps (ls.drop j) (if j=0 then none else ls[j-1]?)=r):Qt ps (ls.drop (j+1)) (if j+1=0 then none else ls[j+1-1]?)=r:=by
 rw [Y3 h,Hq hg] at hr
 rw [Za om,show j+1-1=j from rfl,h];exact hr
theorem Hr {ps ls:LI} {j:Nat} {v:Int} {r:Bool} (h:ls[j]? = some v) (hg:¬((0<=v/\v<=(ps.length:Int)-1)/\ps[v.toNat]?≠some 0/\(∀p,(if j=0 then none else ls[j-1]?)=some p->p<v)))
  (hr:Qt ps (ls.drop j) (if j=0 then none else ls[j-1]?)=r):r=false:=by
 rw [Y3 h,EO hg] at hr;exact hr.symm
theorem Fi {m:Nat} {fs:List WA} {k:Nat} {f:WA} {r:Bool} (h:fs[k]? = some f) (hb:KZ m f=false) (hr:Qv m (fs.drop k)=r):r=false:=by
 rw [Y3 h,Qv,hb,Za (by simp)] at hr;exact hr.symm
theorem Z94 {m:Nat} {fs:List WA} {k:Nat} {f:WA} {r:Bool} (h:fs[k]? = some f) (hb:KZ m f=true) (hr:Qv m (fs.drop k)=r):Qv m (fs.drop (k+1))=r:=by
 rw [Y3 h,Qv,Zm hb] at hr;exact hr
end Go.Abs
namespace Go.Abs
section
variable {ds:List Ze} {fs:List WA} {x:WA}
theorem Zbv (h:((¬(Wm ds=true))∨((fs.length:Int)<1))∨((fs.length:Int)>4)):false=K1 ds fs:=by
 rw [K1]
 rcases h with (h|h)|h
 ·rw [UR.2 h];rfl
 ·rw [decide_eq_false (p:=1<=fs.length/\fs.length<=4) om];simp
 ·rw [decide_eq_false (p:=1<=fs.length/\fs.length<=4) om];simp
theorem Pt (hx:fs[0]? = some x) (h:((x.pms.length:Int)>0)∨x.res≠0):false=K1 ds fs:=by
 rw [K1,LJ hx]
 rcases h with h|h
 ·rw [decide_eq_false (p:=x.pms.length=0) om];simp
 ·rw [decide_eq_false (p:=x.res=0) h];simp
theorem Fy (h:Qv ds.length fs=false):false=K1 ds fs:=by rw [K1,h];simp
theorem Zbw (h:¬(((¬(Wm ds=true))∨((fs.length:Int)<1))∨((fs.length:Int)>4))) (hx:fs[0]? = some x) (h1:¬((x.pms.length:Int)>0)) (h2:¬x.res≠0) (h3:Qv ds.length fs=true) :
  true=K1 ds fs:=by
 have hv:Wm ds=true:=XT.1 fun q=>h (.inl (.inl q))
 have ha:¬(fs.length:Int)<1:=fun q=>h (.inl (.inr q))
 have hb:¬(fs.length:Int)>4:=fun q=>h (.inr q)
 rw [K1,LJ hx,hv,h3,decide_eq_true (p:=1<=fs.length/\fs.length<=4) om,decide_eq_true (p:=x.pms.length=0) om,decide_eq_true (p:=x.res=0) (XT.1 h2)];rfl
abbrev OC (m:Nat) (x:WA):Prop:=(((x.pms.length:Int)>3)∨(¬(XP m x.pms=true)))∨(¬(0<=x.res/\x.res<=m))
theorem Z8k {m:Nat} (h:OC m x):KZ m x=false:=by
 rw [KZ,QW]
 rcases h with (h|h)|h
 ·rw [decide_eq_false (p:=x.pms.length<=3) om];simp
 ·rw [UR.2 h];simp
 ·rw [decide_eq_false h];simp
theorem HR {m:Nat} (h:Kq x.pms x.lnt=false):KZ m x=false:=by rw [KZ,h,Bool.and_false]
theorem Z8l {m:Nat} (h:¬OC m x) (hl:Kq x.pms x.lnt=true):KZ m x=true:=by
 have h1:¬(x.pms.length:Int)>3:=fun q=>h (.inl (.inl q))
 rw [KZ,QW,hl,decide_eq_true (p:=x.pms.length<=3) om,XT.1 fun q=>h (.inl (.inr q)),decide_eq_true (XT.1 fun q=>h (.inr q))];rfl
end
end Go.Abs
namespace Go.Abs
abbrev Th (n:Zt):AV:=C0 (n.routines.map XB)
end Go.Abs
end
section
namespace Go.Abs
def XQ (us:LI):LI->Option LI
 | []=>some []
 | a::r=>match Xi us a with
  | none=>none
  | some t=>match XQ us r with
   | none=>none
   | some ts=>some (t::ts)
theorem Ii {us:LI}:∀{args ts:LI},XQ us args=some ts->∀tys,XO us args tys=true↔ts=tys
 | [],ts,h,tys=>by
  rw [XQ] at h;cases h
  cases tys with
  | nil=>simp [XO,UQ]
  | cons t r=>simp [XO,UQ]
 | a::r,ts,h,tys=>by
  rw [XQ] at h
  cases ha:Xi us a with
  | none=>rw [ha] at h;cases h
  | some t=>
   rw [ha] at h
   cases hr:XQ us r with
   | none=>rw [hr] at h;cases h
   | some tr=>
    rw [hr] at h;cases h
    cases tys with
    | nil=>simp [XO,UQ]
    | cons t2 r2=>
     rw [XO,UQ,ha]
     have:=Ii hr r2
     rw [XO] at this
     by_cases he:t=t2
     ·subst he;simp [this]
     ·rw [Za (fun q=>he (JP q))];simp [he]
theorem IG {us:LI}:∀{args ts:LI},XQ us args=some ts->ts.length=args.length
 | [],ts,h=>by rw [XQ] at h;cases h;rfl
 | a::r,ts,h=>by
  rw [XQ] at h
  cases ha:Xi us a with
  | none=>rw [ha] at h;cases h
  | some t=>
   rw [ha] at h
   cases hr:XQ us r with
   | none=>rw [hr] at h;cases h
   | some tr=>rw [hr] at h;cases h;simp [IG hr]
theorem IH {us:LI} {b t:Int}:∀{xs ts:LI},XQ us xs=some ts->Xi us b=some t->XQ us (xs++[b])=some (ts++[t])
 | [],ts,h,hb=>by rw [XQ] at h;cases h;simp [XQ,hb]
 | a::r,ts,h,hb=>by
  rw [XQ] at h
  cases ha:Xi us a with
  | none=>rw [ha] at h;cases h
  | some u=>
   rw [ha] at h
   cases hr:XQ us r with
   | none=>rw [hr] at h;cases h
   | some tr=>
    rw [hr] at h;cases h
    rw [Qh,XQ,ha,IH hr hb];rfl
def Co (n:Zt) (num:Int):LI->Option Int
 | [a,b]=>if XA n.decls a=true/\b=(V7 n.decls a).frm/\num=0 then some (V7 n.decls a).to_ else none
 | _=>none
def Xk (n:Zt) (op num:Int) (ts:LI):Option Int:=
 if op=0 then (if (-999<=num/\num<=999)/\ts.length=0 then some 0 else none)
 else if op=1∨op=2∨op=3∨op=4 then (if num=0/\ts=[0,0] then some 0 else none)
 else if op=5 then (if num=0/\ts=[0] then some 0 else none)
 else if op=11 then Co n num ts
 else if op=6 then (if 0<=XL n.decls num/\ts=ZQ n.decls num then some (XL n.decls num) else none)
 else if op=9 then (match Xi n.routines num with
  | none=>none
  | some r=>if ts=r.params then some r.result else none)
 else if op=10 then (match Xi n.routines num with
  | none=>none
  | some r=>if r.params.length≠0/\0<=QH n.decls r.params r.result/\ts=r.params.take (r.params.length-1) then some (QH n.decls r.params r.result) else none)
 else none
theorem DK {n:Zt} {num:Int} {ts:LI} (h:ts.length≠2):Co n num ts=none:=by
 match ts,h with
 | [],_=>rfl
 | [_],_=>rfl
 | [_,_],h=>simp at h
 | _::_::_::_,_=>rfl
structure Bs (n:Zt):Prop where
 result:∀r∈n.routines,0<=r.result
 params:∀r∈n.routines,∀p∈r.params,0<=p
 decl:∀d∈n.decls,d.cons.length=0->0<=d.frm/\0<=d.to_
 fields:∀c,∀f∈ZQ n.decls c,0<=f
abbrev Mz (us:LI) (s:Z4):Prop:=s.into≠0/\(((s.op≠6∨s.into<1)∨s.into>us.length)∨gI us (s.into-1)=0)
theorem Z48 {us:LI} {op into:Int} (hnn:∀t∈us,0<=t) (h:¬(into≠0/\(((op≠6∨into<1)∨into>us.length)∨gI us (into-1)=0))):U7 us op into=true:=by
 rw [U7]
 split
 ·rfl
 ·rename_i h0
  have h1:¬(((op≠6∨into<1)∨into>us.length)∨gI us (into-1)=0):=fun q=>h ⟨h0,q⟩
  have h2:op=6:=XT.1 fun q=>h1 (.inl (.inl (.inl q)))
  have h3:¬into<1:=fun q=>h1 (.inl (.inl (.inr q)))
  have h4:¬into>us.length:=fun q=>h1 (.inl (.inr q))
  have h5:¬gI us (into-1)=0:=fun q=>h1 (.inr q)
  obtain ⟨t,ht⟩:=Js (xs:=us) (j:=(into-1).toNat) om
  rw [Zm h2,TE om ht]
  rw [UW ht] at h5
  have:=hnn t (ZY ht)
  simp;omega
theorem Z47 {us:LI} {op into:Int} (h:into≠0/\(((op≠6∨into<1)∨into>us.length)∨gI us (into-1)=0)):U7 us op into=false:=by
 obtain ⟨h0,h⟩:=h
 rw [U7,Za h0]
 split
 ·rename_i h6
  cases ha:Xi us (into-1) with
  | none=>rfl
  | some t=>
   obtain ⟨a1,a2⟩:=JZ ha
   rcases h with ((h|h)|h)|h
   ·exact absurd h6 h
   ·omega
   ·omega
   ·rw [UW a2] at h;subst h;rfl
 ·rfl
theorem Zb5 {n:Zt} {us:LI} {s:Z4} (h:Mz us s):Yb n us s=-1:=by
 rw [Bh,Zm (.inr (.inl (by rw [Z47 h];simp)))]
end Go.Abs
namespace Go.Abs
theorem Z4c {α:Type} {c:Prop} [Decidable c] {v:α}:(if c then some v else none).isSome=decide c:=by split<;>simp_all
theorem Z95 {n:Zt} (hty:Bs n) {op num:Int} {ts:LI} {x:Int} (h:Xk n op num ts=some x):0<=x:=by
 unfold Xk at h
 split at h
 ·split at h<;>cases h;exact Int.le_refl 0
 split at h
 ·split at h<;>cases h;exact Int.le_refl 0
 split at h
 ·split at h<;>cases h;exact Int.le_refl 0
 split at h
 ·rcases ts with _|⟨a,_|⟨b,_|⟨c,r⟩⟩⟩
  ·cases h
  ·cases h
  ·rw [Co] at h
   split at h
   ·rename_i hq
    cases h
    rw [V7,Zm hq.1]
    have hA:=hq.1
    simp only [XA,Xx,decide_eq_true_eq] at hA
    cases hd:n.decls[(a-1).toNat]? with
    | none=>rw [hd] at hA;simp at hA
    | some d=>
     rw [hd] at hA
     exact (hty.decl d (ZY hd) (by simpa using hA.2)).2
   ·cases h
  ·cases h
 split at h
 ·split at h
  ·rename_i hq;cases h;exact hq.1
  ·cases h
 split at h
 ·cases ha:Xi n.routines num with
  | none=>rw [ha] at h;cases h
  | some r=>
   rw [ha] at h
   simp only at h
   split at h
   ·cases h;exact hty.result r (ZY (JZ ha).2)
   ·cases h
 split at h
 ·cases ha:Xi n.routines num with
  | none=>rw [ha] at h;cases h
  | some r=>
   rw [ha] at h
   simp only at h
   split at h
   ·rename_i hq;cases h;exact hq.2.1
   ·cases h
 ·cases h
def QZ (n:Zt) (us:LI) (s:Z4) (ts:LI):Int:=
 if Yd s.op=true then (match ts with
  | [t]=>if t≠0/\s.num=0/\s.kids.length=0/\¬((s.op=16∨s.op=17)/\XA n.decls t=true) then 0 else -1
  | _=>-1)
 else if s.op=7 then (if ts=[0]/\s.num=0 then UM n us s.op s.num s.kids else -1)
 else if s.op=8 then (if ts=[s.num] then UM n us s.op s.num s.kids else -1)
 else if 0<s.kids.length∨(s.op=10/\0<(((Xi n.routines s.num).map (·.lent)).getD []).length) then -1
 else (Xk n s.op s.num ts).getD (-1)
theorem MB {p q:Prop} [Decidable p] [Decidable q] {a b:Int} (h:p↔q):ite p a b=ite q a b:=by
 by_cases hp:p
 ·rw [Zm hp,Zm (h.1 hp)]
 ·rw [Za hp,Za (fun z=>hp (h.2 z))]
theorem Az {n:Zt} {us:LI} {s:Z4} {ts:LI} (hnn:∀t∈us,0<=t) (hts:XQ us s.args=some ts) (hi:¬Mz us s):Yb n us s=QZ n us s ts:=by
 have hv:=Z48 hnn hi
 have ht:=Ii hts
 have hl:=IG hts
 have hfirst:((s.num≠0/\¬V5 s.op=true)∨¬U7 us s.op s.into=true∨(0<s.kids.length/\s.op≠7/\s.op≠8))↔((s.num≠0/\¬V5 s.op=true)∨(0<s.kids.length/\s.op≠7/\s.op≠8)):=by
  rw [hv];simp
 rw [Bh,MB hfirst]
 unfold QZ
 by_cases hc:Yd s.op=true
 ·have hop:14<=s.op/\s.op<=17:=by simpa [Yd] using hc
  have hnum:V5 s.op=false:=by simp [V5];omega
  rw [Zm hc]
  by_cases hb:s.num≠0∨0<s.kids.length
  ·rw [Zm (by rcases hb with hb|hb;exact .inl ⟨hb,by rw [hnum];simp⟩;exact .inr ⟨hb,by omega,by omega⟩)]
   split
   ·rw [Za];rintro ⟨h1,h2,h3,h4⟩;omega
   ·rfl
  ·rw [Za (by rintro (⟨h1,_⟩|⟨h1,_⟩)<;>exact hb (by first|exact .inl h1|exact .inr h1)),Za om,Za om,Za om,Za om,Za om,Za om,Za om,Za om,Zm om]
   have Zf:s.num=0:=XT.1 fun q=>hb (.inl q)
   have ZF:s.kids.length=0:=by have:¬0<s.kids.length:=fun q=>hb (.inr q);omega
   rcases he:s.args with _|⟨a,_|⟨b,r⟩⟩
   ·rw [he] at hts;rw [XQ] at hts;cases hts;rfl
   ·rw [he] at hts
    rw [XQ] at hts
    cases ha:Xi us a with
    | none=>rw [ha] at hts;cases hts
    | some t=>
     rw [ha,XQ] at hts;cases hts
     rw [TF,ha]
     simp only
     by_cases ht0:t=0
     ·rw [Zm ht0,Za (fun q=>q.1 ht0)]
     ·rw [Za ht0]
      by_cases hA:XA n.decls t=true
      ·by_cases h16:s.op=16∨s.op=17
       ·rw [Zm ⟨by omega,hA⟩,Za (fun q=>q.2.2.2 ⟨h16,hA⟩)]
       ·rw [Za (by rintro ⟨q,_⟩;omega),Zm ⟨ht0,Zf,ZF,fun q=>h16 q.1⟩]
      ·rw [Za (fun q=>hA q.2),Zm ⟨ht0,Zf,ZF,fun q=>hA q.2⟩]
   ·rw [he] at hl
    rw [show TF n.decls us s.op (a::b::r)=-1 from rfl]
    match ts,hl with
    | [t],hl=>simp at hl
    | [],hl=>simp at hl
    | _::_::_,_=>rfl
 have hop:¬(14<=s.op/\s.op<=17):=by simpa [Yd] using hc
 by_cases h7:s.op=7
 ·have hnum:V5 s.op=false:=by simp [V5];omega
  conv=>rhs;rw [Za hc,Zm h7]
  by_cases hb:s.num=0
  ·rw [Za (fun q=>q.elim (fun z=>z.1 hb) fun z=>z.2.1 h7),Za om,Za om,Za om,Za om,Zm h7]
   by_cases hq:ts=[0]
   ·rw [Zm ((ht _).2 hq),Zm ⟨hq,hb⟩]
   ·rw [Za (fun q=>hq ((ht _).1 q)),Za (fun q=>hq q.1)]
  ·rw [Zm (.inl ⟨hb,by rw [hnum];simp⟩),Za (fun q=>hb q.2)]
 by_cases h8:s.op=8
 ·have hnum:V5 s.op=true:=by simp [V5,h8]
  conv=>rhs;rw [Za hc,Za h7,Zm h8]
  rw [Za (fun q=>q.elim (fun z=>z.2 hnum) fun z=>z.2.2 h8),Za om,Za om,Za om,Za om,Za h7,Zm h8]
  by_cases hq:ts=[s.num]
  ·rw [Zm ((ht _).2 hq),Zm hq]
  ·rw [Za (fun q=>hq ((ht _).1 q)),Za hq]
 conv=>rhs;rw [Za hc,Za h7,Za h8]
 by_cases hk:0<s.kids.length
 ·rw [Zm (.inr ⟨hk,h7,h8⟩),Zm (.inl hk)]
 by_cases hlent:s.op=10/\0<(((Xi n.routines s.num).map (·.lent)).getD []).length
 ·conv=>rhs;rw [Zm (.inr hlent)]
  have hnum:V5 s.op=true:=by simp [V5,hlent.1]
  have h10:=hlent.1
  rw [Za (fun q=>q.elim (fun z=>z.2 hnum) fun z=>hk z.1),Za om,Za om,Za om,Za om,Za h7,Za h8,Zm (.inr h10),Tx]
  cases ha:Xi n.routines s.num with
  | none=>rfl
  | some r=>
   have h2:=hlent.2
   rw [ha] at h2
   simp only [AG,Option.getD_some] at h2
   simp only
   rw [QU,Za om,Zm (.inr (.inl h2))]
 conv=>rhs;rw [Za (fun q=>Or.elim q hk hlent)]
 have sf:∀{X:Option Int},Xk n s.op s.num ts=X->Yb n us s=X.getD (-1)->Yb n us s=(Xk n s.op s.num ts).getD (-1):=fun a b=>by rw [a];exact b
 have hL:=Bh n us s
 rw [MB hfirst] at hL
 rw [<-hL]
 by_cases hnb:s.num≠0/\¬V5 s.op=true
 ·have hnn2:¬(s.op=0∨(s.op=6∨(s.op=8∨(s.op=9∨s.op=10)))):=fun q=>hnb.2 (by simpa [V5] using q)
  refine sf (X:=none) ?_ (by rw [hL,Zm (.inl hnb)];rfl)
  unfold Xk
  rw [Za om]
  split
  ·rw [Za (fun q=>hnb.1 q.1)]
  split
  ·rw [Za (fun q=>hnb.1 q.1)]
  split
  ·by_cases hl2:ts.length=2
   ·match ts,hl2 with
    | [a,b],_=>exact Za fun q=>hnb.1 q.2.2
   ·exact DK hl2
  rw [Za om,Za om,Za om]
 rw [Za (fun q=>q.elim hnb fun z=>hk z.1)] at hL
 have hnumf:¬(s.op=0∨(s.op=6∨(s.op=8∨(s.op=9∨s.op=10))))->s.num=0:=fun q=>XT.1 fun z=>hnb ⟨z,fun y=>q (by simpa [V5] using y)⟩
 by_cases h0:s.op=0
 ·rw [Zm h0] at hL
  by_cases hq:s.args.length=0/\(-999<=s.num/\s.num<=999)
  ·exact sf (by unfold Xk;rw [Zm h0,Zm ⟨hq.2,by omega⟩]) (by rw [hL,Zm hq];rfl)
  ·exact sf (by unfold Xk;rw [Zm h0,Za (fun q=>hq ⟨by omega,q.1⟩)]) (by rw [hL,Za hq];rfl)
 rw [Za h0] at hL
 by_cases h1:s.op=1∨s.op=2∨s.op=3∨s.op=4
 ·rw [Zm h1] at hL
  by_cases hq:ts=[0,0]
  ·exact sf (by unfold Xk;rw [Za h0,Zm h1,Zm ⟨hnumf om,hq⟩]) (by rw [hL,Zm ((ht _).2 hq)];rfl)
  ·exact sf (by unfold Xk;rw [Za h0,Zm h1,Za (fun q=>hq q.2)]) (by rw [hL,Za (fun q=>hq ((ht _).1 q))];rfl)
 rw [Za h1] at hL
 by_cases h5:s.op=5
 ·rw [Zm h5] at hL
  by_cases hq:ts=[0]
  ·exact sf (by unfold Xk;rw [Za h0,Za h1,Zm h5,Zm ⟨hnumf om,hq⟩]) (by rw [hL,Zm ((ht _).2 hq)];rfl)
  ·exact sf (by unfold Xk;rw [Za h0,Za h1,Zm h5,Za (fun q=>hq q.2)]) (by rw [hL,Za (fun q=>hq ((ht _).1 q))];rfl)
 rw [Za h5] at hL
 by_cases h6:s.op=6
 ·rw [Zm h6] at hL
  have hct:0<XL n.decls s.num↔0<=XL n.decls s.num:=by
   rcases Int.lt_or_le (XL n.decls s.num) 1 with q|q
   ·have:=(DW q).2;omega
   ·omega
  by_cases hq:0<=XL n.decls s.num/\ts=ZQ n.decls s.num
  ·exact sf (by unfold Xk;rw [Za h0,Za h1,Za h5,Za om,Zm h6,Zm hq]) (by rw [hL,Zm ⟨hct.2 hq.1,(ht _).2 hq.2⟩];rfl)
  ·exact sf (by unfold Xk;rw [Za h0,Za h1,Za h5,Za om,Zm h6,Za hq]) (by rw [hL,Za (fun q=>hq ⟨hct.1 q.1,(ht _).1 q.2⟩)];rfl)
 rw [Za h6,Za h7,Za h8] at hL
 by_cases h9:s.op=9
 ·rw [Zm (.inl h9),Tx] at hL
  cases ha:Xi n.routines s.num with
  | none=>exact sf (by unfold Xk;rw [Za h0,Za h1,Za h5,Za om,Za h6,Zm h9,ha]) (by rw [hL,ha];rfl)
  | some r=>
   rw [ha] at hL
   simp only at hL
   rw [QU,Zm h9] at hL
   have hF:∀{X:Option Int},(if ts=r.params then some r.result else none)=X->Xk n s.op s.num ts=X:=fun q=>by
    unfold Xk;rw [Za h0,Za h1,Za h5,Za om,Za h6,Zm h9,ha];exact q
   by_cases hq:ts=r.params
   ·exact sf (hF (Zm hq)) (by rw [hL,Zm ((ht _).2 hq)];rfl)
   ·exact sf (hF (Za hq)) (by rw [hL,Za (fun q=>hq ((ht _).1 q))];rfl)
 by_cases h10:s.op=10
 ·rw [Zm (.inr h10),Tx] at hL
  cases ha:Xi n.routines s.num with
  | none=>exact sf (by unfold Xk;rw [Za h0,Za h1,Za h5,Za om,Za h6,Za h9,Zm h10,ha]) (by rw [hL,ha];rfl)
  | some r=>
   rw [ha] at hL hlent
   simp only [AG,Option.getD_some] at hL hlent
   rw [QU,Za h9] at hL
   have hF:∀{X:Option Int},(if r.params.length≠0/\0<=QH n.decls r.params r.result/\ts=r.params.take (r.params.length-1) then some (QH n.decls r.params r.result) else none)=X->Xk n s.op s.num ts=X:=fun q=>by
    unfold Xk;rw [Za h0,Za h1,Za h5,Za om,Za h6,Za h9,Zm h10,ha];exact q
   by_cases hp:r.params.length=0
   ·exact sf (hF (Za fun q=>q.1 hp)) (by rw [hL,Zm (.inl hp)];rfl)
   by_cases hq:ts=r.params.take (r.params.length-1)
   ·rw [Za (fun z=>z.elim hp fun z=>z.elim (fun z=>hlent ⟨h10,z⟩) fun z=>z ((ht _).2 hq))] at hL
    by_cases har:0<=QH n.decls r.params r.result
    ·exact sf (hF (Zm ⟨hp,har,hq⟩)) hL
    ·refine sf (hF (Za fun q=>har q.2.1)) ?_
     have key:∀(l:List Ze) (i:Nat) (f t:Int),¬0<=Ql f t l i->Ql f t l i=-1:=by
      intro l
      induction l with
      | nil=>intro i f t _;rfl
      | cons d r ih=>
       intro i f t hn
       rw [Ql] at hn ⊢
       split
       ·rename_i hh;rw [Zm hh] at hn;omega
       ·rename_i hh;rw [Za hh] at hn;exact ih _ _ _ hn
     exact hL.trans (key _ _ _ _ har)
   ·exact sf (hF (Za fun q=>hq q.2.2)) (by rw [hL,Zm (.inr (.inr fun q=>hq ((ht _).1 q)))];rfl)
 rw [Za om] at hL
 by_cases h11:s.op=11
 ·rw [Zm h11] at hL
  have hn0:=hnumf om
  have hF:∀{X:Option Int},Co n s.num ts=X->Xk n s.op s.num ts=X:=fun q=>by
   unfold Xk;rw [Za h0,Za h1,Za h5,Zm h11];exact q
  rcases he:s.args with _|⟨a,_|⟨b,_|⟨c,r⟩⟩⟩
  ·rw [he] at hts hL;rw [XQ] at hts;cases hts;exact sf (hF rfl) hL
  ·rw [he] at hl hL
   exact sf (hF (DK (by simp at hl;omega))) hL
  ·rw [he] at hts hL
   rw [XQ] at hts
   cases ha:Xi us a with
   | none=>rw [ha] at hts;cases hts
   | some t=>
    rw [ha,XQ] at hts
    cases hb:Xi us b with
    | none=>rw [hb] at hts;cases hts
    | some t2=>
     rw [hb,XQ] at hts;cases hts
     rw [TV,ha] at hL
     simp only at hL
     by_cases hA:XA n.decls t=true
     ·rw [Zm hA] at hL
      have hA2:=hA
      simp only [XA,Xx,decide_eq_true_eq] at hA2
      cases hd:n.decls[(t-1).toNat]? with
      | none=>rw [hd] at hA2;simp at hA2
      | some d=>
       rw [hd] at hL
       simp only at hL
       have hD:V7 n.decls t=d:=by rw [V7,Zm hA,hd];rfl
       have h2:=Ii (us:=us) (args:=[b]) (ts:=[t2]) (by rw [XQ,hb,XQ]) [d.frm]
       by_cases hq:t2=d.frm
       ·exact sf (hF (Zm ⟨hA,by rw [hD];exact hq,hn0⟩)) (by rw [hL,Zm (h2.2 (by rw [hq])),hD];rfl)
       ·exact sf (hF (Za fun q=>hq (by rw [hD] at q;exact q.2.1))) (by rw [hL,Za (fun q=>hq (by simpa using h2.1 q))];rfl)
     ·exact sf (hF (Za fun q=>hA q.1)) (by rw [hL,Za hA];rfl)
  ·rw [he] at hl hL
   exact sf (hF (DK (by simp at hl;omega))) hL
 rw [Za h11,Za om] at hL
 exact sf (X:=none) (by unfold Xk;rw [Za h0,Za h1,Za h5,Za h11,Za h6,Za h9,Za h10]) hL
end Go.Abs
namespace Go.Abs
theorem Ng:∀(n:Nat) (f:Int) (k:Nat) (x:Int),(WY f n)[k]? = some x->x=f+k/\k<n
 | 0,f,k,x,h=>by simp [WY] at h
 | n+1,f,k,x,h=>by
  rw [WY] at h
  cases k with
  | zero=>simp at h;subst h;exact ⟨by omega,by omega⟩
  | succ k=>have:=Ng n (f+1) k x (by simpa using h);exact ⟨by omega,by omega⟩
theorem RP {ds:List Ze} (hd:W4 ds) {t:Int} {k:Nat} {x:Int} (h:(ZT ds t)[k]? = some x):0<=x/\x<=100:=by
 rw [ZT] at h
 split at h
 ·rename_i ht
  obtain ⟨d,hd1⟩:=Js (xs:=ds) (j:=(t-1).toNat) om
  rw [hd1] at h
  have:=Ng _ _ _ _ h
  have h3:=hd.cons_at hd1
  have h4:=(hd.take (t-1).toNat).sum
  simp only [AG,Option.getD_some] at this
  omega
 ·simp at h
end Go.Abs
namespace Go.Abs
section
variable {S:Option Int} {c:Prop} [Decidable c] {v:Int} {b:Bool}
theorem As (h:S=if c then some v else none) (hb:b=true↔c):b=S.isSome:=by rw [h,Z4c,X8,hb,decide_eq_true_iff]
theorem At (h:S=if c then some v else none):∀x,S=some x->v=x:=by
 intro x hx;rw [h] at hx;split at hx
 ·exact JP hx
 ·cases hx
theorem Dq (h:S=none):false=S.isSome:=by rw [h];rfl
theorem Dr (h:S=none):∀x,S=some x->v=x:=by intro x hx;rw [h] at hx;cases hx
end
section
variable {n:Zt} {op num:Int} {ts:LI}
theorem sf0 (h:op=0):Xk n op num ts=if (-999<=num/\num<=999)/\ts.length=0 then some 0 else none:=by unfold Xk;rw [Zm h]
theorem sf1 (h:op=1∨op=2∨op=3∨op=4):Xk n op num ts=if num=0/\ts=[0,0] then some 0 else none:=by unfold Xk;rw [Za om,Zm h]
theorem sf5 (h:op=5):Xk n op num ts=if num=0/\ts=[0] then some 0 else none:=by unfold Xk;rw [Za om,Za om,Zm h]
theorem OB (h:op=11):Xk n op num ts=Co n num ts:=by unfold Xk;rw [Za om,Za om,Za om,Zm h]
theorem Z91 (h:op=11) (hl:(ts.length:Int)≠2):Xk n op num ts=none:=(OB h).trans (DK om)
theorem HV (h:op=11) {a b:Int} (hl:¬(ts.length:Int)≠2) (ha:ts[0]? = some a) (hb:ts[1]? = some b) :
  Xk n op num ts=if XA n.decls a=true/\b=(V7 n.decls a).frm/\num=0 then some (V7 n.decls a).to_ else none:=by
 rw [OB h]
 match ts,hl,ha,hb with
 | [x,y],_,ha,hb=>simp at ha hb;subst ha;subst hb;rfl
 | [],hl,_,_=>simp at hl
 | [_],hl,_,_=>simp at hl
 | _::_::_::_,hl,_,_=>simp at hl;omega
theorem Z90 (h:op=11) {a:Int} (hl:¬(ts.length:Int)≠2) (ha:ts[0]? = some a) (hn:¬XA n.decls a=true):Xk n op num ts=none:=by
 obtain ⟨b,hb⟩:=Js (xs:=ts) (j:=1) om
 rw [HV h hl ha hb,Za fun q=>hn q.1]
theorem sf6 (h:op=6):Xk n op num ts=if 0<=XL n.decls num/\ts=ZQ n.decls num then some (XL n.decls num) else none:=by
 unfold Xk;rw [Za om,Za om,Za om,Za om,Zm h]
theorem Z92 (h:op=9∨op=10) (hr:num<0∨num>=(((n.routines.map XB).length:Nat):Int)):Xk n op num ts=none:=by
 have ha:Xi n.routines num=none:=Qm (by simp at hr;omega)
 unfold Xk
 rw [Za om,Za om,Za om,Za om,Za om]
 rcases h with h|h
 ·rw [Zm h,ha]
 ·rw [Za om,Zm h,ha]
theorem sf9 (h:op=9) {x:WA} (hr:¬(num<0∨num>=(((n.routines.map XB).length:Nat):Int))) (hx:(n.routines.map XB)[num.toNat]? = some x) :
  Xk n op num ts=if ts=x.pms then some x.res else none:=by
 obtain ⟨r,h1,rfl⟩:=Fh hx
 have ha:Xi n.routines num=some r:=TE (by simp at hr;omega) h1
 unfold Xk
 rw [Za om,Za om,Za om,Za om,Za om,Zm h,ha];rfl
theorem Z8z (h:op=10) {x:WA} (hr:¬(num<0∨num>=(((n.routines.map XB).length:Nat):Int))) (hx:(n.routines.map XB)[num.toNat]? = some x) (hp:(x.pms.length:Int)-1<0) :
  Xk n op num ts=none:=by
 obtain ⟨r,h1,rfl⟩:=Fh hx
 have ha:Xi n.routines num=some r:=TE (by simp at hr;omega) h1
 have hp':r.params.length=0:=by simp only [XB] at hp;omega
 unfold Xk
 rw [Za om,Za om,Za om,Za om,Za om,Za om,Zm h,ha]
 exact Za fun q=>q.1 hp'
theorem Z8y (h:op=10) {x:WA} {l:Int} (hr:¬(num<0∨num>=(((n.routines.map XB).length:Nat):Int))) (hx:(n.routines.map XB)[num.toNat]? = some x) (hp:¬(x.pms.length:Int)-1<0)
  (hl:x.pms[((x.pms.length:Int)-1).toNat]? = some l) :
  Xk n op num ts=if 0<=VH n.decls l x.res/\ts=x.pms.take ((x.pms.length:Int)-1).toNat then some (VH n.decls l x.res) else none:=by
 obtain ⟨r,h1,rfl⟩:=Fh hx
 have ha:Xi n.routines num=some r:=TE (by simp at hr;omega) h1
 simp only [XB] at hp hl ⊢
 have hq:((r.params.length:Int)-1).toNat=r.params.length-1:=by omega
 have ht:r.params.take ((r.params.length:Int)-1).toNat=r.params.take (r.params.length-1):=Yc (fun k=>r.params.take k) hq
 have hl':r.params[r.params.length-1]? = some l:=by rw [<-hl];exact Yc (fun k=>r.params[k]?) hq.symm
 have hlast:QH n.decls r.params r.result=VH n.decls l r.result:=by rw [QH,Mj hl']
 unfold Xk
 rw [Za om,Za om,Za om,Za om,Za om,Za om,Zm h,ha]
 simp only [hlast]
 by_cases hc:0<=VH n.decls l r.result/\ts=r.params.take (r.params.length-1)
 ·rw [Zm ⟨by omega,hc⟩]
  exact (Zm ⟨hc.1,hc.2.trans ht.symm⟩).symm
 ·rw [Za fun q=>hc q.2]
  exact (Za (fun q=>hc ⟨q.1,q.2.trans ht⟩)).symm
theorem sfd (h0:¬op=0) (h1:¬(op=1∨op=2∨op=3∨op=4)) (h5:¬op=5) (h11:¬op=11) (h6:¬op=6) (h9:¬(op=9∨op=10)):Xk n op num ts=none:=by
 unfold Xk;rw [Za h0,Za h1,Za h5,Za h11,Za h6,Za om,Za om]
end
end Go.Abs
end
namespace Go.Abs
mutual
def Z4.rng:Z4->Prop
 | .mk _ num _ _ kids=>(-9223372036854775808<=num/\num<=9223372036854775807)/\UT kids
def Z5.rng:Z5->Prop
 | .mk steps _=>Ti steps
def Ti:List Z4->Prop
 | []=>True
 | s::r=>s.rng/\Ti r
def UT:List Z5->Prop
 | []=>True
 | b::r=>b.rng/\UT r
end
theorem Z4.rng_eq (s:Z4):s.rng=((-9223372036854775808<=s.num/\s.num<=9223372036854775807)/\UT s.kids):=by cases s;rw [Z4.rng];rfl
theorem Z5.rng_eq (b:Z5):b.rng=Ti b.steps:=by cases b;rw [Z5.rng];rfl
theorem OZ:∀{xs:List Z4} {k:Nat} {s:Z4},Ti xs->xs[k]? = some s->s.rng
 | [],k,s,_,h=>by simp at h
 | x::r,0,s,hr,h=>by rw [Ti] at hr;simp at h;subst h;exact hr.1
 | x::r,k+1,s,hr,h=>by rw [Ti] at hr;exact OZ (k:=k) hr.2 (by simpa using h)
theorem IW:∀{xs:List Z5} {k:Nat} {b:Z5},UT xs->xs[k]? = some b->b.rng
 | [],k,s,_,h=>by simp at h
 | x::r,0,s,hr,h=>by rw [UT] at hr;simp at h;subst h;exact hr.1
 | x::r,k+1,s,hr,h=>by rw [UT] at hr;exact IW (k:=k) hr.2 (by simpa using h)
theorem Ij {us:LI}:∀{args:LI},XQ us args=none->∀tys,XO us args tys=false
 | [],h,tys=>by rw [XQ] at h;cases h
 | a::r,h,tys=>by
  cases tys with
  | nil=>simp [XO,UQ]
  | cons t ts=>
   rw [XQ] at h
   rw [XO,UQ]
   cases ha:Xi us a with
   | none=>simp
   | some u=>
    rw [ha] at h
    cases hr:XQ us r with
    | none=>
     have:=Ij hr ts
     rw [XO] at this
     by_cases he:u=t
     ·subst he;simpa using this
     ·rw [Za (fun q=>he (JP q))]
    | some tr=>rw [hr] at h;cases h
theorem Zb4 {n:Zt} {us:LI} {s:Z4} (h:XQ us s.args=none):Yb n us s=-1:=by
 have ht:=Ij h
 rw [Bh]
 split
 ·rfl
 split
 ·rw [Za];rintro ⟨q,_⟩
  have:s.args=[]:=List.length_eq_zero_iff.1 q
  rw [this,XQ] at h;cases h
 split
 ·rw [Za (by rw [ht];simp)]
 split
 ·rw [Za (by rw [ht];simp)]
 split
 ·rw [Za (by rw [ht];simp)]
 split
 ·rw [Za (by rw [ht];simp)]
 split
 ·rw [Za (by rw [ht];simp)]
 split
 ·rw [Tx]
  cases Xi n.routines s.num with
  | none=>rfl
  | some r=>
   simp only
   rw [QU]
   split
   ·rw [Za (by rw [ht];simp)]
   ·rw [Zm (.inr (.inr (by rw [ht];simp)))]
 split
 ·match hA:s.args with
  | []=>rfl
  | [_]=>rfl
  | [a,b]=>
   rw [TV]
   rw [hA,XQ] at h
   cases ha:Xi us a with
   | none=>rfl
   | some t=>
    rw [ha] at h
    simp only at h ⊢
    split
    ·cases n.decls[(t-1).toNat]? with
     | none=>rfl
     | some d=>
      simp only
      rw [Za]
      cases hb:XQ us [b] with
      | none=>rw [Ij hb];simp
      | some tr=>rw [hb] at h;cases h
    ·rfl
  | _::_::_::_=>rfl
 split
 ·match hA:s.args with
  | []=>rfl
  | [a]=>
   rw [TF]
   rw [hA,XQ] at h
   cases ha:Xi us a with
   | none=>rfl
   | some t=>rw [ha,XQ] at h;cases h
  | _::_::_=>rfl
 ·rfl
theorem IF {us:LI} {a:Int}:∀{xs:LI} {k:Nat},xs[k]? = some a->Xi us a=none->XQ us xs=none
 | [],k,h,_=>by simp at h
 | x::r,0,h,ha=>by simp at h;subst h;rw [XQ,ha]
 | x::r,k+1,h,ha=>by
  have:=IF (xs:=r) (k:=k) (by simpa using h) ha
  rw [XQ]
  cases Xi us x with
  | none=>rfl
  | some t=>simp only [this]
theorem Z4r {n:Zt} {us:LI} {ks:List Z5} {ms:List LI} (h:0<ks.length) (t:Int) :
  Ws n us (ks.drop 0) (ms.drop 0) (decide (0=0)) t=Ws n us ks ms true 0:=by
 cases ks with
 | nil=>simp at h
 | cons b bs=>
  cases ms with
  | nil=>rw [JL,JL,Ws,Ws]
  | cons m r=>
   simp only [JL,decide_true]
   rw [Ws,Ws];simp
theorem IY {b:Z5}:∀{ks:List Z5} {k:Nat},ks[k]? = some b->b.sz<=YQ ks
 | [],k,h=>by simp at h
 | x::r,0,h=>by simp at h;subst h;rw [YQ];omega
 | x::r,k+1,h=>by have:=IY (ks:=r) (k:=k) (by simpa using h);rw [YQ];omega
theorem Dx (us m:LI):[us,m].flatten=us++m:=by simp
theorem LX {xs:LI} {i:Int} (h:i.toNat<xs.length):xs[i.toNat]? = some (gI xs i):=by rw [gI,AC h];rfl
theorem Eh {xs:LI} (h:0<xs.length):xs[0]? = some (gI xs 0):=LX (i:=0) h
def Qe (n:Zt) (num:Int):WA:=((n.routines.map XB)[num.toNat]?).getD ⟨[],[],0⟩
theorem Z93 {n:Zt} {i:Int} (h:i.toNat<(n.routines.map XB).length):(n.routines.map XB)[i.toNat]? = some (Qe n i):=by rw [Qe,AC h];rfl
theorem N8 {us m:LI} (h1:∀t∈us,0<=t) (h2:∀t∈m,0<=t):∀t∈us++m,0<=t:=fun t h=>(X1.1 h).elim (h1 t) (h2 t)
theorem JY {us:LI} {args ts:LI} {k:Nat} (h:XQ us (args.take k)=some ts) (hk:args.length<=k):XQ us args=some ts:=by
 rw [WK hk] at h;exact h
theorem R6 {us:LI} {args ts:LI} {k:Nat} {a t:Int} (h:XQ us (args.take k)=some ts) (ha:args[k]? = some a) (ht:Xi us a=some t):XQ us (args.take (k+1))=some (ts++[t]):=by
 rw [Wu ha];exact IH h ht
theorem Nk {ts:LI} (h:(ts.length:Int)=1):ts=[gI ts 0]:=by
 match ts,h with
 | [a],_=>rfl
section
variable {n:Zt} {us ts:LI} {s:Z4}
theorem Jz {p1 p2 p3 p4 p5:Prop}:(p1/\(p2∨(p3∨(p4∨p5))))↔(p1/\(((p2∨p3)∨p4)∨p5)):=by simp only [or_assoc]
def DU (n:Zt) (s:Z4) (ts:LI):Int:=match ts with
  | [t]=>if t≠0/\s.num=0/\s.kids.length=0/\¬((s.op=16∨s.op=17)/\XA n.decls t=true) then 0 else -1
  | _=>-1
theorem Ay:QZ n us s ts =
 if Yd s.op=true then DU n s ts
 else if s.op=7 then (if ts=[0]/\s.num=0 then UM n us s.op s.num s.kids else -1)
 else if s.op=8 then (if ts=[s.num] then UM n us s.op s.num s.kids else -1)
 else if 0<s.kids.length∨(s.op=10/\0<(((Xi n.routines s.num).map (·.lent)).getD []).length) then -1
 else (Xk n s.op s.num ts).getD (-1):=by unfold QZ DU;rfl
theorem L9 (h:(ts.length:Int)=1):DU n s ts=if gI ts 0≠0/\s.num=0/\s.kids.length=0/\¬((s.op=16∨s.op=17)/\XA n.decls (gI ts 0)=true) then 0 else -1:=by
 match ts,h with
 | [a],_=>rfl
theorem RB (h:(ts.length:Int)≠1):DU n s ts=-1:=by
 match ts,h with
 | [],_=>rfl
 | [a],h=>exact absurd rfl h
 | _::_::_,_=>rfl
theorem Zam (hS:Yb n us s=QZ n us s ts) (hc:Yd s.op=true)
  (h:((((ts.length:Int)=1/\gI ts 0≠0)/\s.num=0)/\(s.kids.length:Int)=0)/\(s.op=16∨s.op=17)) :
  (!XA n.decls (gI ts 0))=decide (0<=Yb n us s):=by
 obtain ⟨⟨⟨⟨h1,h2⟩,h3⟩,h4⟩,h5⟩:=h
 have h4':s.kids.length=0:=by omega
 rw [hS,Ay,Zm hc,L9 h1]
 cases hA:XA n.decls (gI ts 0)
 ·rw [Zm ⟨h2,h3,h4',by simp⟩];rfl
 ·rw [Za (fun q=>q.2.2.2 ⟨h5,rfl⟩)];rfl
theorem Zan (hS:Yb n us s=QZ n us s ts) (hc:Yd s.op=true)
  (h:¬(((((ts.length:Int)=1/\gI ts 0≠0)/\s.num=0)/\(s.kids.length:Int)=0)/\(s.op=16∨s.op=17))) :
  ((((((ts.length:Int)==1)&&(gI ts 0 != 0))&&(s.num==0))&&((s.kids.length:Int)==0)))=decide (0<=Yb n us s):=by
 rw [hS,Ay,Zm hc]
 by_cases h1:(ts.length:Int)=1
 ·rw [L9 h1]
  by_cases h2:(gI ts 0≠0/\s.num=0)/\(s.kids.length:Int)=0
  ·obtain ⟨⟨h2,h3⟩,h4⟩:=h2
   have h4':s.kids.length=0:=by omega
   rw [Zm ⟨h2,h3,h4',fun q=>h ⟨⟨⟨⟨h1,h2⟩,h3⟩,h4⟩,q.1⟩⟩,Zr.2 h1,Ye.2 h2,Zr.2 h3,Zr.2 h4];rfl
  ·rw [Za (fun q=>h2 ⟨⟨q.1,q.2.1⟩,by have:=q.2.2.1;omega⟩)]
   show _=false
   rw [UR];intro q
   obtain ⟨⟨⟨_,q1⟩,q2⟩,q3⟩:=(YA (YA (YA Zr Ye) Zr) Zr).1 q
   exact h2 ⟨⟨q1,q2⟩,q3⟩
 ·rw [RB h1]
  show _=false
  rw [UR];intro q
  obtain ⟨⟨⟨q1,_⟩,_⟩,_⟩:=(YA (YA (YA Zr Ye) Zr) Zr).1 q
  exact h1 q1
theorem Zai (hS:Yb n us s=QZ n us s ts) (hc:¬Yd s.op=true) (h7:s.op=7)
  (h:(((ts.length:Int)≠1∨gI ts 0≠0)∨s.num≠0)∨(s.kids.length:Int)≠2):Yb n us s=-1:=by
 rw [hS,Ay,Za hc,Zm h7]
 split
 ·rename_i q
  obtain ⟨q1,q2⟩:=q
  rw [q1] at h
  rw [UM,Zm]
  right
  rw [Xq,Zm h7]
  have:gI [0] 0=0:=rfl
  simp [this] at h
  show s.kids.length≠2
  omega
 ·rfl
theorem Zaj (hS:Yb n us s=QZ n us s ts) (hc:¬Yd s.op=true) (h7:s.op=7)
  (h:¬((((ts.length:Int)≠1∨gI ts 0≠0)∨s.num≠0)∨(s.kids.length:Int)≠2)):Yb n us s=Ws n us s.kids (List.replicate 2 []) true 0:=by
 have h1:(ts.length:Int)=1:=XT.1 fun q=>h (.inl (.inl (.inl q)))
 have h2:gI ts 0=0:=XT.1 fun q=>h (.inl (.inl (.inr q)))
 have h3:s.num=0:=XT.1 fun q=>h (.inl (.inr q))
 have h4:(s.kids.length:Int)=2:=XT.1 fun q=>h (.inr q)
 rw [hS,Ay,Za hc,Zm h7,Zm ⟨by rw [Nk h1,h2],h3⟩,UM,Za]
 ·rw [Xq,Zm h7];rfl
 ·rw [Xq,Zm h7];simp;omega
theorem Zak (hS:Yb n us s=QZ n us s ts) (hc:¬Yd s.op=true) (h7:¬s.op=7) (h8:s.op=8)
  (h:(ts.length:Int)≠1∨(gI ts 0≠s.num∨(((((ZT n.decls s.num).map (ZQ n.decls)).length:Nat):Int)=0∨(s.kids.length:Int)≠((((ZT n.decls s.num).map (ZQ n.decls)).length:Nat):Int)))):Yb n us s=-1:=by
 rw [hS,Ay,Za hc,Za h7,Zm h8]
 split
 ·rename_i q
  have hg:gI ts 0=s.num:=by rw [q];rfl
  have hl:(ts.length:Int)=1:=by rw [q];rfl
  rw [UM,Zm]
  rw [Xq,Za h7]
  omega
 ·rfl
theorem Zal (hS:Yb n us s=QZ n us s ts) (hc:¬Yd s.op=true) (h7:¬s.op=7) (h8:s.op=8)
  (h:¬((ts.length:Int)≠1∨(gI ts 0≠s.num∨(((((ZT n.decls s.num).map (ZQ n.decls)).length:Nat):Int)=0∨(s.kids.length:Int)≠((((ZT n.decls s.num).map (ZQ n.decls)).length:Nat):Int))))) :
  Yb n us s=Ws n us s.kids ((ZT n.decls s.num).map (ZQ n.decls)) true 0:=by
 have h1:(ts.length:Int)=1:=XT.1 fun q=>h (.inl q)
 have h2:gI ts 0=s.num:=XT.1 fun q=>h (.inr (.inl q))
 rw [hS,Ay,Za hc,Za h7,Zm h8,Zm (by rw [Nk h1,h2]),UM,Za]
 ·rw [Xq,Za h7]
 ·rw [Xq,Za h7];omega
theorem Z5f {n:Zt} {num:Int}:(((Xi n.routines num).map (·.lent)).getD []).length=if 0<=num/\num<(((n.routines.map XB).length:Nat):Int) then (Qe n num).lnt.length else 0:=by
 split
 ·rename_i h
  rw [JN] at h
  obtain ⟨r,hr⟩:=Js (xs:=n.routines) (j:=num.toNat) om
  rw [TE om hr,Qe,Kt,hr];rfl
 ·rename_i h
  rw [JN] at h
  rw [Qm om];rfl
theorem P3:(0<s.kids.length∨(s.op=10/\0<(((Xi n.routines s.num).map (·.lent)).getD []).length)) ↔
  ((s.kids.length:Int)>0∨(s.op=10/\(s.num>=0/\(s.num<(((n.routines.map XB).length:Nat):Int)/\((((Qe n s.num).lnt).length:Nat):Int)>0)))):=by
 rw [Z5f]
 by_cases hq:0<=s.num/\s.num<(((n.routines.map XB).length:Nat):Int)
 ·rw [Zm hq];omega
 ·rw [Za hq];omega
theorem stB (hS:Yb n us s=QZ n us s ts) (hc:¬Yd s.op=true) (h7:¬s.op=7) (h8:¬s.op=8)
  (h:((s.kids.length:Int)>0∨(s.op=10/\(s.num>=0/\(s.num<(((n.routines.map XB).length:Nat):Int)/\((((Qe n s.num).lnt).length:Nat):Int)>0))))):Yb n us s=-1:=by
 rw [hS,Ay,Za hc,Za h7,Za h8,Zm (P3.2 h)]
theorem stS (hS:Yb n us s=QZ n us s ts) (hc:¬Yd s.op=true) (h7:¬s.op=7) (h8:¬s.op=8)
  (h:¬((s.kids.length:Int)>0∨(s.op=10/\(s.num>=0/\(s.num<(((n.routines.map XB).length:Nat):Int)/\((((Qe n s.num).lnt).length:Nat):Int)>0))))):Yb n us s=(Xk n s.op s.num ts).getD (-1):=by
 rw [hS,Ay,Za hc,Za h7,Za h8,Za (fun q=>h (P3.1 q))]
theorem Zao (hty:Bs n) (h:Yb n us s=(Xk n s.op s.num ts).getD (-1)):(Xk n s.op s.num ts).isSome=decide (0<=Yb n us s):=by
 rw [h]
 cases hs:Xk n s.op s.num ts with
 | none=>rfl
 | some x=>have:=Z95 hty hs;simp [this]
theorem Zap {t:Int} (h:Yb n us s=(Xk n s.op s.num ts).getD (-1)) (hp:∀x,Xk n s.op s.num ts=some x->t=x):¬Yd s.op=true->0<=Yb n us s->t=Yb n us s:=by
 intro _ h0
 rw [h] at h0 ⊢
 cases hs:Xk n s.op s.num ts with
 | none=>rw [hs] at h0;exact absurd h0 (by decide)
 | some x=>exact hp x hs
end
theorem Zb3 {n:Zt} {us:LI} {s:Z4} (h:0<=Yb n us s):(0<=s.op/\s.op<=11)∨(14<=s.op/\s.op<=17):=by
 rw [Bh] at h
 by_cases hq:(0<=s.op/\s.op<=11)∨(14<=s.op/\s.op<=17)
 ·exact hq
 ·exfalso
  split at h
  ·omega
  rw [Za om,Za om,Za om,Za om,Za om,Za om,Za om,Za om,Za om] at h
  omega
theorem Gk {n:Zt} {us:LI} {s:Z4} (h:0<=Yb n us s):XF s.op=!Yd s.op:=by
 have:=Zb3 h
 rw [XF,Yd,X8];simp;omega
theorem Zb6 {n:Zt} {xs:List Z4} {vs:LI} {k:Nat} {s:Z4} {t:Int} {r:Option LI} (hs:xs[k]? = some s) (h:0<=Yb n vs s) (ht:¬Yd s.op=true->0<=Yb n vs s->t=Yb n vs s)
  (hr:V1 n (xs.drop k) vs=r):V1 n (xs.drop (k+1)) (if Yd s.op=true then vs else vs++[t])=r:=by
 rw [Y3 hs,V1,Za om] at hr
 rw [<-hr,Gk h]
 by_cases hc:Yd s.op=true
 ·rw [Zm hc,hc];rfl
 ·rw [Za hc,Zm (by simpa using hc),ht hc h]
theorem Zb7 {n:Zt} {xs:List Z4} {vs:LI} {k:Nat} {s:Z4} {r:Option LI} (hs:xs[k]? = some s) (h:¬0<=Yb n vs s) (hr:V1 n (xs.drop k) vs=r):r=none:=by
 rw [Y3 hs,V1,Zm om] at hr;exact hr.symm
theorem Z5r {c:Prop} [Decidable c] {vs:LI} {t:Int} (h:∀x∈vs,0<=x) (ht:¬c->0<=t):∀x∈(if c then vs else vs++[t]),0<=x:=by
 split
 ·exact h
 ·rename_i hc
  exact N8 h (fun x hx=>by rw [XU.1 hx];exact ht hc)
theorem ID {m:Nat} {xs:LI} (h:XP m xs=true):∀x∈xs,0<=x/\x<=m:=by
 rw [XP,Ks] at h
 exact fun x hx=>of_decide_eq_true (h x hx)
theorem Z5s {n:Zt} (h:Ux n=true):Bs n:=by
 simp only [Ux,Qz,Xx,decide_eq_true_eq] at h
 obtain ⟨h1,⟨h2,h3,h4,h5⟩,h6⟩:=h
 have hs:∀r∈n.routines,XP n.decls.length r.params=true/\0<=r.result:=fun r hr=>by
  have:=HY h4 (VV r) (XD.2 ⟨r,hr,rfl⟩)
  simp only [QW,Xx,decide_eq_true_eq] at this
  exact ⟨this.2.1,this.2.2.1⟩
 simp only [Wm,Xx,decide_eq_true_eq] at h2
 obtain ⟨h2a,h2b⟩:=h2
 rw [Gi] at h2b
 have key:∀(i:Nat) (d:Ze),n.decls[i]? = some d->VZ n.decls d i=true:=fun i d hi=>by
  have:=h2b i (XC.1 hi).1
  rwa [WM,Cu hi] at this
 refine ⟨fun r hr=>(hs r hr).2,fun r hr p hp=>(ID (hs r hr).1 p hp).1,fun d hd h0=>?_,fun c f hf=>?_⟩
 ·obtain ⟨i,hi⟩:=List.mem_iff_getElem?.1 hd
  have:=key i d hi
  rw [VZ,Za om] at this
  split at this
  ·cases this
  ·simp only [Xx,decide_eq_true_eq] at this;omega
 ·by_cases hc:XL n.decls c<1
  ·rw [(DW hc).1] at hf;cases hf
  ·obtain ⟨k,d,x,q1,q2,q3,q4,q5⟩:=Gc hc
   rw [q5] at hf
   have:=key k d q1
   have hp:0<d.cons.length:=by have:=(XC.1 q3).1;omega
   rw [VZ,Zm hp] at this
   split at this
   ·have:=Ld.1 this x (ZY q3)
    simp only [K8,Xx] at this
    exact (ID this.2 f hf).1
   ·cases this
structure PC (n:Zt):Prop where
 result:∀r∈n.routines,r.result<=(n.decls.length:Int)
 decl:∀d∈n.decls,d.cons.length=0->d.to_<=(n.decls.length:Int)
 fields:∀c,∀f∈ZQ n.decls c,f<=(n.decls.length:Int)
section
variable {n:Zt} (hu:PC n)
include hu
end
end Go.Abs
section
namespace Go.Abs
structure Br where
 mat:Int
 fst:Int
 fds:LI
 chg:Bool
def Nj:List Br->Int->Option Br
 | [],_=>none
 | a::r,v=>match Nj r v with
  | some x=>some x
  | none=>if a.mat=v then some a else none
structure Zc7 (ds:List Ze) (L:ZI) (as1:List Br):Prop where
 rng:∀a∈as1,0<=a.mat/\a.mat<a.fst/\a.fst+a.fds.length<=L.vars.length
 par:∀a∈as1,∀v:Int,a.fst<=v->v<a.fst+a.fds.length->gI L.par v=a.mat
 non:∀v:Int,0<=v->v<L.vars.length->0<=gI L.par v->∃a∈as1,a.fst<=v/\v<a.fst+a.fds.length
 off:∀v:Int,0<=v->v<L.vars.length->match Nj as1 v with
  | none=>gI L.con v<0
  | some a=>0<=gI L.con v/\a.fst=gI L.fst v/\a.fds=ZQ ds (gI L.con v)
end Go.Abs
namespace Go.Abs
end Go.Abs
namespace Go.Abs
end Go.Abs
namespace Go.Abs
section
variable {n:Zt} {ln:LI} {L:ZI} {op v:Int} {am:List Br} {a:Br}
end
end Go.Abs
namespace Go.Abs
end Go.Abs
end
section
namespace Go.Abs
section
variable {n:Zt} {us:LI} {op num:Int}
end
end Go.Abs
namespace Go.Abs
end Go.Abs
namespace Go.Abs
end Go.Abs
end
section
namespace Go.Abs
section
variable {n:Zt} {ln:LI}
end
end Go.Abs
namespace Go.Abs
end Go.Abs
namespace Go.Abs
end Go.Abs
namespace Go.Abs
section
variable {n:Zt} {ln:LI} {L:ZI} {s:Z4}
end
end Go.Abs
namespace Go.Abs
end Go.Abs
namespace Go.Abs
end Go.Abs
namespace Go.Abs
end Go.Abs
end
namespace Go.Abs

end Go.Abs
section
namespace Go.Abs
end Go.Abs
namespace Go.Abs
end Go.Abs
namespace Go.Abs
end Go.Abs
end
section
namespace Go.Abs
end Go.Abs
namespace Go.Abs
end Go.Abs
namespace Go.Abs
end Go.Abs
namespace Go.Abs
end Go.Abs
end
namespace Go.Abs
def Zv (op v:Int):Z4:=.mk op 0 0 [v] []
def Ud (ds:List Ze) (num:Int) (k:Nat):LI:=((ZT ds num).map (ZQ ds))[k]?.getD []
section
variable {ds:List Ze} {am:List Br} {m:Nat}
end
theorem LG {ds:List Ze} {num:Int} {k:Nat} {m:LI} (h:((ZT ds num).map (ZQ ds))[k]? = some m):Ud ds num k=m:=by rw [Ud,h];rfl
theorem SZ {ds:List Ze} (hd:W4 ds) (num:Int) (k:Nat):(Ud ds num k).length<=3:=by
 rw [Ud,Kt]
 cases (ZT ds num)[k]? with
 | none=>simp
 | some c=>exact VI hd c
theorem I9 {xs:List Z4} {k:Nat} {s:Z4} (h:xs[k]? = some s):Yk (xs.take (k+1))=Yk (xs.take k)+s.sz:=by
 induction xs generalizing k with
 | nil=>simp at h
 | cons t r ih=>
  cases k with
  | zero=>simp at h;subst h;simp [Yk]
  | succ k=>rw [Bp,Bp,Yk,Yk,ih (by simpa using h)];omega
theorem Qy (xs:List Z4) (k:Nat):Yk (xs.take k)<=Yk xs:=by
 induction xs generalizing k with
 | nil=>simp
 | cons t r ih=>
  cases k with
  | zero=>simp [Yk]
  | succ k=>have:=ih k;rw [Bp,Yk,Yk];omega
theorem Z8w {n:Zt} {us:LI} {s:Z4} (g:0<=Yb n us s) (h:Yd s.op=true):Qd n us s=us:=by rw [Qd,Gk g,h];rfl
theorem Z8v {n:Zt} {us:LI} {s:Z4} (g:0<=Yb n us s) (h:¬Yd s.op=true):(Qd n us s).length=us.length+1:=by
 rw [Qd,Gk g,UR.2 h];simp
theorem Z8x {n:Zt} {us:LI} {s:Z4} (g:0<=Yb n us s):(Qd n us s).length=if Yd s.op=true then us.length else us.length+1:=by
 split
 ·rw [Z8w g (by assumption)]
 ·exact Z8v g (by assumption)
theorem AZ (ys:List WP):(Zd (WG ys)).length=ys.length*3:=by rw [U1 _ (Ln _)];simp
theorem LL (ys:List WO):(Zd (VA ys)).length=ys.length:=by rw [U1 _ (Lm _)];simp
theorem LK (ys:List Ze):(Zd (Yo ys)).length=ys.length*3:=by rw [U1 _ (Qq _)];simp
theorem Z05 (ys:List Y1):(Zd (Xn ys)).length=ys.length:=by rw [U1 _ (Cw _)];simp
theorem Z06 {ds:List Ze} {k:Nat} {d:Ze} (h:ds[k]? = some d):Zd (Yo (ds.drop k))=UN d++Zd (Yo (ds.drop (k+1))):=by rw [Y3 h];rfl
theorem Z04 {ds:List Y1} {k:Nat} {d:Y1} (h:ds[k]? = some d):Zd (Xn (ds.drop k))=BX d++Zd (Xn (ds.drop (k+1))):=by rw [Y3 h];rfl
theorem Oe {ys:List WP} {ds:List Ze} {k:Nat} {d:Ze} (h:ds[k]? = some d):Zd (WG ys++Yo (ds.drop k))=Zd (WG ys)++(UN d++Zd (Yo (ds.drop (k+1)))):=by
 rw [VS,Z06 h]
theorem Z7x {ys:List WO} {ds:List Y1} {k:Nat} {d:Y1} (h:ds[k]? = some d):Zd (VA ys++Xn (ds.drop k))=Zd (VA ys)++(BX d++Zd (Xn (ds.drop (k+1)))):=by
 rw [VS,Z04 h]
theorem Od {ys:List WP} {ds:List Ze} {k:Nat} (h:ys.length=k) (hk:k<=ds.length):(Zd (WG ys++Yo (ds.drop k))).length=ds.length*3:=by
 rw [VS,Ym,AZ,LK,J5];omega
theorem Oc {ys:List WO} {ds:List Y1} {k:Nat} (h:ys.length=k) (hk:k<=ds.length):(Zd (VA ys++Xn (ds.drop k))).length=ds.length*1:=by
 rw [VS,Ym,LL,Z05,J5];omega
theorem Z7z {ys:List WP} {ds:List Ze} {k:Nat} {f t:Int} {zs:List WO} {u:Value}:Zd (WG ys)++([.i f,.i t,Da zs u]++Zd (Yo (ds.drop (k+1))))=Zd (WG (ys++[WP.mk f t zs u])++Yo (ds.drop (k+1))):=by
 rw [SA,VS,VS,Ul];rfl
theorem Z7w {ys:List WO} {ds:List Y1} {k:Nat} {xs:LI} {u:Value}:Zd (VA ys)++([ZU xs u]++Zd (Xn (ds.drop (k+1))))=Zd (VA (ys++[WO.mk xs u])++Xn (ds.drop (k+1))):=by
 rw [Sz,VS,VS,Ul];rfl
theorem Z7y {ys:List WP} {ds:List Ze} {k:Nat} (h:ds.length<=k):Zd (WG ys++Yo (ds.drop k))=Zd (WG ys):=by rw [YY h];simp [Yo]
theorem Z7v {ys:List WO} {ds:List Y1} {k:Nat} (h:ds.length<=k):Zd (VA ys++Xn (ds.drop k))=Zd (VA ys):=by rw [YY h];simp [Xn]
theorem Z80 {A B:List AV} {x y z x':AV} {o:Nat} (hA:A.length=o):(A++([x,y,z]++B)).take (o+2)++[x']++(A++([x,y,z]++B)).drop (o+2+1)=A++([x,y,x']++B):=by
 have h:=Dn (A:=A++[x,y]) (xs:=[z]) (ys:=[x']) (B:=B) (o:=o+2) (by simp [hA]) rfl
 simpa using h
theorem Z81 {A B:List AV} {x y z:AV} {o:Nat} (hA:A.length=o):((A++([x,y,z]++B)).drop (o+2)).take 1=[z]:=by
 have h:=HN (A:=A++[x,y]) (xs:=[z]) (B:=B) (o:=o+2) (by simp [hA])
 simpa using h
theorem Z82 {A B:List AV} {x y z x':AV} {o:Nat} (hA:A.length=o):(A++([x,y,z]++B)).set (o+2) x'=A++([x,y,x']++B):=by
 subst hA
 rw [List.set_append_right _ _ om]
 simp
theorem PB {f t:Int} {zs:List WO} {u:Value} {cs:List Y1} (h:zs.map WO.er=cs):[WP.mk f t zs u].map WP.er=[Ze.mk f t cs]:=by
 rw [<-h];rfl
theorem UP:∀(xs ys:List Z4),Yk (xs++ys)=Yk xs+Yk ys
 | [],ys=>by simp [Yk]
 | x::r,ys=>by rw [Qh,Yk,Yk,UP r ys];omega
theorem DV (op v:Int):(Zv op v).sz=2:=by rw [Zv,Z4.sz];simp [YQ]
theorem I7 (op:Int):∀l:LI,Yk (l.map (Zv op))=2*l.length
 | []=>by simp [Yk]
 | x::r=>by rw [VQ,Yk,DV,I7 op r,YL];omega
section
variable {ds:List Ze} (hd:W4 ds)
include hd
end
section
variable {ds:List Ze} {cons first:LI}
end
section
variable {ds:List Ze} (hd:W4 ds)
include hd
end
def Xw:List Z4->Nat
 | []=>0
 | s::r=>if s.op=14∨s.op=15 then Xw r+1 else 0
def W8 (op:Int):List Z4->LI
 | []=>[]
 | s::r=>if s.op=op then gI s.args 0::W8 op r else W8 op r
def Ug:LI->Int->LI->LI->LI × LI
 | [],_,D,R=>(D,R)
 | f::r,q,D,R=>if f≠0/\q∈D then Ug r (q+1) (D.erase q) R else if f≠0 then Ug r (q+1) D (R++[q]) else Ug r (q+1) D R
def JD (xs:List Z4) (x:Int) (fs:LI) (q:Int):LI × LI:=Ug fs q (W8 14 (xs.take (Xw xs))) ((W8 15 (xs.take (Xw xs))).erase x)
def JX (xs:List Z4) (x:Int) (fs:LI) (q:Int):List Z4:=
 if x∈W8 15 (xs.take (Xw xs))/\fs.length≠0 then (JD xs x fs q).1.map (Zv 14)++[Zv 16 x]++(JD xs x fs q).2.map (Zv 15)++xs.drop (Xw xs) else xs
def Kx (b:Z5) (x:Int) (fs:LI) (q:Int):Z5:=.mk (JX b.steps x fs q) b.result
theorem Fa:∀xs:List Z4,Xw xs<=xs.length
 | []=>YT _
 | s::r=>by have:=Fa r;rw [Xw];split<;>simp<;>omega
theorem Ol:∀{xs:List Z4} {s:Z4},s∈xs.take (Xw xs)->s.op=14∨s.op=15
 | [],s,h=>by simp [Xw] at h
 | t::r,s,h=>by
  rw [Xw] at h
  split at h
  ·rename_i q
   rw [Bp] at h
   rcases YD.1 h with rfl|h
   ·exact q
   ·exact Ol h
  ·simp at h
theorem G0:∀xs:List Z4,(W8 14 xs).length+(W8 15 xs).length<=xs.length
 | []=>by simp [W8]
 | s::r=>by
  have:=G0 r
  rw [W8,W8]
  by_cases h:s.op=14
  ·rw [Zm h,Za om];simp;omega
  ·rw [Za h];split<;>simp<;>omega
theorem EZ:∀(fs:LI) (q:Int) (D R:LI),(Ug fs q D R).1.length+(Ug fs q D R).2.length<=D.length+R.length+fs.length
 | [],q,D,R=>by simp [Ug]
 | f::r,q,D,R=>by
  rw [Ug,YL]
  split
  ·have:=EZ r (q+1) (D.erase q) R
   have h2:=List.length_erase_le (a:=q) (l:=D)
   omega
  ·split
   ·have:=EZ r (q+1) D (R++[q])
    simp only [Ym,YL,Xb] at this
    omega
   ·have:=EZ r (q+1) D R
    omega
theorem Z6f {xs:List Z4} {x:Int} {fs:LI} {q:Int} (h:x∈W8 15 (xs.take (Xw xs))) (hf:fs.length<=3):(JD xs x fs q).1.length+(JD xs x fs q).2.length<=Xw xs+2:=by
 have h1:=EZ fs q (W8 14 (xs.take (Xw xs))) ((W8 15 (xs.take (Xw xs))).erase x)
 have h2:=G0 (xs.take (Xw xs))
 have h3:=List.length_pos_of_mem h
 rw [List.length_erase_of_mem h] at h1
 rw [Wn] at h2
 have h4:=Fa xs
 unfold JD
 omega
theorem Zah (xs:List Z4) (k:Nat):Yk xs=Yk (xs.take k)+Yk (xs.drop k):=by rw [<-UP,UE]
theorem P2:∀xs:List Z4,(∀s∈xs,2<=s.sz)->2*xs.length<=Yk xs
 | [],_=>by simp
 | s::r,h=>by
  have h1:=P2 r fun t ht=>h t (Xp _ ht)
  have h2:=h s (X4 ..)
  rw [Yk,YL];omega
theorem PW {xs:List Z4} {x:Int} {fs:LI} {q:Int} (hf:fs.length<=3) (h:∀s∈xs,s.op=14∨s.op=15->2<=s.sz):Yk (JX xs x fs q)<=Yk xs+6:=by
 rw [JX]
 split
 ·rename_i hc
  have h1:=Z6f (q:=q) hc.1 hf
  have h2:=P2 (xs.take (Xw xs)) fun s hs=>h s (TR hs) (Ol hs)
  have h3:=Zah xs (Xw xs)
  have h4:=Fa xs
  rw [Wn] at h2
  rw [UP,UP,UP,I7,I7,Yk,Yk,DV]
  omega
 ·omega
def Cn (s:Z4):Prop:=s=Zv s.op (gI s.args 0)
theorem PV {xs:List Z4} {m:Int} {fs:LI} {q:Int} (h:¬(m∈W8 15 (xs.take (Xw xs))/\fs.length≠0)):JX xs m fs q=xs:=Za h
end Go.Abs
section
namespace Go.Abs
mutual
def Bf (ds:List Ze) (m:Nat):Z4->Z4
 | .mk op num into args kids=>.mk op num into args (Tg ds m op num args kids 0)
def Tg (ds:List Ze) (m:Nat) (op num:Int) (args:LI):List Z5->Nat->List Z5
 | [],_=>[]
 | b::r,k=>(if op=8 then Kx (WJ ds (m+(Ud ds num k).length) b) (gI args 0) (Ud ds num k) m else WJ ds m b)::Tg ds m op num args r (k+1)
def UA (ds:List Ze) (m:Nat):List Z4->List Z4
 | []=>[]
 | s::r=>Bf ds m s::UA ds (if Yd s.op=true then m else m+1) r
def WJ (ds:List Ze) (m:Nat):Z5->Z5
 | .mk steps result=>.mk (UA ds m steps) result
end
def Fl (ds:List Ze) (m:Nat) (op num:Int) (args:LI) (k:Nat) (b:Z5):Z5:=if op=8 then Kx (WJ ds (m+(Ud ds num k).length) b) (gI args 0) (Ud ds num k) m else WJ ds m b
theorem I1 (ds:List Ze) (m:Nat) (s:Z4):Bf ds m s=.mk s.op s.num s.into s.args (Tg ds m s.op s.num s.args s.kids 0):=by cases s;rw [Bf];rfl
theorem Fj (ds:List Ze) (m:Nat) (b:Z5):WJ ds m b=.mk (UA ds m b.steps) b.result:=by cases b;rw [WJ];rfl
section
variable {ds:List Ze} {m:Nat}
theorem Z9c {xs acc r:List Z4} {k:Nat} {s:Z4} (h:xs[k]? = some s) (ha:acc++UA ds m (xs.drop k)=r) :
  (acc++[.mk s.op s.num s.into s.args (Tg ds m s.op s.num s.args s.kids 0)])++UA ds (if Yd s.op=true then m else m+1) (xs.drop (k+1))=r:=by
 rw [Y3 h,UA,I1] at ha
 rw [<-ha];simp
theorem Z9b {xs acc r:List Z4} {k:Nat} (h:xs.length<=k) (ha:acc++UA ds m (xs.drop k)=r):acc=r:=by
 rw [YY h,UA,J4] at ha;exact ha
theorem OE {op num:Int} {args:LI} {bs acc r:List Z5} {k:Nat} {b:Z5} (h:bs[k]? = some b) (ha:acc++Tg ds m op num args (bs.drop k) k=r) :
  (acc++[Fl ds m op num args k b])++Tg ds m op num args (bs.drop (k+1)) (k+1)=r:=by
 rw [Y3 h,Tg] at ha
 rw [<-ha,Fl];simp
theorem Z98 {op num:Int} {args:LI} {bs acc r:List Z5} {k j:Nat} (h:bs.length<=k) (ha:acc++Tg ds m op num args (bs.drop k) j=r):acc=r:=by
 rw [YY h,Tg,J4] at ha;exact ha
end
mutual
def wS (ds:List Ze):Z4->Prop
 | .mk op num into args kids=>(XF op=!Yd op)/\(Yd op=true->num=0/\into=0/\kids=[]/\∃a,args=[a])/\(op=8->(∃a,args=[a]/\0<=a/\a<=900000000)/\kids.length=(ZT ds num).length)/\JI ds kids
def JI (ds:List Ze):List Z5->Prop
 | []=>True
 | b::r=>wB ds b/\JI ds r
def Qg (ds:List Ze):List Z4->Prop
 | []=>True
 | s::r=>wS ds s/\Qg ds r
def wB (ds:List Ze):Z5->Prop
 | .mk steps _=>Qg ds steps
end
section
variable {ds:List Ze}
theorem Kr (s:Z4):wS ds s↔(XF s.op=!Yd s.op)/\(Yd s.op=true->s.num=0/\s.into=0/\s.kids=[]/\∃a,s.args=[a])/\(s.op=8->(∃a,s.args=[a]/\0<=a/\a<=900000000)/\s.kids.length=(ZT ds s.num).length)/\JI ds s.kids:=by cases s;rw [wS];rfl
theorem K4 (b:Z5):wB ds b↔Qg ds b.steps:=by cases b;rw [wB];rfl
theorem JJ:∀{xs:List Z4},Qg ds xs↔∀s∈xs,wS ds s
 | []=>by simp [Qg]
 | s::r=>by rw [Qg,JJ];simp
theorem Fz:∀{xs:List Z5},JI ds xs↔∀s∈xs,wB ds s
 | []=>by simp [JI]
 | s::r=>by rw [JI,Fz];simp
theorem Pu {b:Z5} {k:Nat} {s:Z4} (h:wB ds b) (hs:b.steps[k]? = some s):wS ds s:=JJ.1 ((K4 b).1 h) s (ZY hs)
theorem In {s:Z4} {k:Nat} {b:Z5} (h:wS ds s) (hb:s.kids[k]? = some b):wB ds b:=Fz.1 ((Kr s).1 h).2.2.2 b (ZY hb)
theorem FA {s:Z4} (h:wS ds s) (hc:Yd s.op=true):Cn s/\s.kids=[]/\∃a,s.args=[a]:=by
 obtain ⟨h1,h2,h3,a,h4⟩:=((Kr s).1 h).2.1 hc
 refine ⟨?_,h3,a,h4⟩
 cases s with
 | mk op num into args kids=>
  simp only [Z4.num,Z4.into,Z4.kids,Z4.args] at h1 h2 h3 h4
  subst h1 h2 h3 h4
  rfl
theorem Zc0 {op v:Int} (h:op=14∨op=15∨op=16):wS ds (Zv op v):=(Kr _).2 ⟨by show XF op=!Yd op;rcases h with rfl|rfl|rfl<;>rfl,fun _=>⟨rfl,rfl,rfl,v,rfl⟩,fun e=>absurd e (show op≠8 by omega),True.intro⟩
theorem Zc1 {s:Z4} (h:wS ds s):XF s.op=!Yd s.op:=((Kr s).1 h).1
theorem DB {s:Z4} (h:wS ds s) (h8:s.op=8):(∃a,s.args=[a]/\0<=a/\a<=900000000)/\s.kids.length=(ZT ds s.num).length:=((Kr s).1 h).2.2.1 h8
theorem FJ {xs:List Z4} (h:Qg ds xs):∀s∈xs,Yd s.op=true->Cn s:=fun s hs hc=>(FA (JJ.1 h s hs) hc).1
end
section
variable {n:Zt}
end
mutual
def Z4.pz:Z4->Nat
 | .mk _ _ _ args kids=>1+args.length+C5 kids
def Z5.pz:Z5->Nat
 | .mk steps _=>1+C6 steps
def C6:List Z4->Nat
 | []=>0
 | s::r=>s.pz+C6 r
def C5:List Z5->Nat
 | []=>0
 | b::r=>b.pz+8+C5 r
end
mutual
theorem Z4.pz_le:∀s:Z4,s.pz<=9*s.sz
 | .mk _ _ _ args kids=>by have:=O0 kids;rw [Z4.pz,Z4.sz];omega
theorem Z5.pz_le:∀b:Z5,b.pz+8<=9*b.sz
 | .mk steps _=>by have:=O1 steps;rw [Z5.pz,Z5.sz];omega
theorem O1:∀xs:List Z4,C6 xs<=9*Yk xs
 | []=>K6 _
 | s::r=>by have:=s.pz_le;have:=O1 r;rw [C6,Yk];omega
theorem O0:∀xs:List Z5,C5 xs<=9*YQ xs
 | []=>K6 _
 | s::r=>by have:=s.pz_le;have:=O0 r;rw [C5,YQ];omega
end
section
variable {ds:List Ze}
theorem Ry {op:Int} (h:op=14∨op=15):Yd op=true:=by rw [Yd];simp;omega
theorem Z9d {xs:List Z4}:∀{m:Nat},Qg ds xs->∀s∈UA ds m xs,s.op=14∨s.op=15->2<=s.sz:=by
 induction xs with
 | nil=>intro m _ s hs;simp [UA] at hs
 | cons t r ih=>
  intro m h s hs ho
  rw [UA] at hs
  rcases YD.1 hs with rfl|hs
  ·rw [I1] at ho ⊢
   obtain ⟨_,_,a,ha⟩:=FA h.1 (Ry ho)
   rw [Z4.sz,ha];simp
  ·exact ih h.2 s hs ho
variable (hd:W4 ds)
include hd
mutual
theorem Z99:∀(s:Z4) {m:Nat},wS ds s->(Bf ds m s).sz<=s.pz
 | .mk op num into args kids,m,h=>by
  have:=OG kids (m:=m) (op:=op) (num:=num) (args:=args) (k:=0) h.2.2.2
  rw [Bf,Z4.sz,Z4.pz];omega
theorem OG:∀(bs:List Z5) {m:Nat} {op num:Int} {args:LI} {k:Nat},JI ds bs->YQ (Tg ds m op num args bs k)<=C5 bs
 | [],_,_,_,_,_,_=>YT _
 | b::r,m,op,num,args,k,h=>by
  have h2:=OG r (m:=m) (op:=op) (num:=num) (args:=args) (k:=k+1) h.2
  rw [Tg,YQ,C5]
  split
  ·have h1:=Fk b (m:=m+(Ud ds num k).length) h.1
   have h3:=PW (xs:=(WJ ds (m+(Ud ds num k).length) b).steps) (x:=gI args 0) (q:=(m:Int)) (SZ hd num k) (by rw [Fj];exact Z9d ((K4 b).1 h.1))
   rw [Kx,Z5.sz]
   rw [Z5.sz_eq] at h1
   omega
  ·have h1:=Fk b (m:=m) h.1
   omega
theorem OH:∀(xs:List Z4) {m:Nat},Qg ds xs->Yk (UA ds m xs)<=C6 xs
 | [],_,_=>YT _
 | s::r,m,h=>by
  have h1:=Z99 s (m:=m) h.1
  have h2:=OH r (m:=if Yd s.op=true then m else m+1) h.2
  rw [UA,Yk,C6];omega
theorem Fk:∀(b:Z5) {m:Nat},wB ds b->(WJ ds m b).sz<=b.pz
 | .mk steps result,m,h=>by
  have:=OH steps (m:=m) h
  rw [WJ,Z5.sz,Z5.pz];omega
end
end
section
variable {ds:List Ze} {m:Nat}
end
def Au (ds:List Ze) (r:ZZ):ZZ:=⟨r.params,r.lent,r.result,WJ ds r.params.length r.body⟩
def Fm (n:Zt):Zt:=⟨n.decls,n.routines.map (Au n.decls)⟩
end Go.Abs
namespace Go.Abs
theorem Z8f {xs:List Z4} {k:Nat} {s:Z4} {r:Nat} (h:xs[k]? = some s) (hs:s.op=14∨s.op=15) (ha:k+Xw (xs.drop k)=r):k+1+Xw (xs.drop (k+1))=r:=by
 rw [Y3 h,Xw,Zm hs] at ha;omega
theorem Z8g {xs:List Z4} {k:Nat} {s:Z4} {r:Nat} (h:xs[k]? = some s) (hs:¬(s.op=14∨s.op=15)) (ha:k+Xw (xs.drop k)=r):k=r:=by
 rw [Y3 h,Xw,Za hs] at ha;omega
theorem Z8e {xs:List Z4} {k:Nat} {r:Nat} (h:xs.length<=k) (ha:k+Xw (xs.drop k)=r):k=r:=by
 rw [YY h,Xw] at ha;omega
theorem R9 {op:Int} {xs:List Z4} {acc r:LI} {k:Nat} {s:Z4} (h:xs[k]? = some s) (hs:s.op=op) (ha:acc++W8 op (xs.drop k)=r):(acc++[gI s.args 0])++W8 op (xs.drop (k+1))=r:=by
 rw [Y3 h,W8,Zm hs] at ha;rw [<-ha];simp
theorem R8 {op:Int} {xs:List Z4} {acc r:LI} {k:Nat} {s:Z4} (h:xs[k]? = some s) (hs:¬s.op=op) (ha:acc++W8 op (xs.drop k)=r):acc++W8 op (xs.drop (k+1))=r:=by
 rw [Y3 h,W8,Za hs] at ha;exact ha
theorem R7 {op:Int} {xs:List Z4} {acc r:LI} {k:Nat} (h:xs.length<=k) (ha:acc++W8 op (xs.drop k)=r):acc=r:=by
 rw [YY h,W8,J4] at ha;exact ha
theorem SS {xs acc r:LI} {y:Int} {k:Nat} {x:Int} {d:Bool} (h:xs[k]? = some x) (ha:acc++(if d=true then xs.drop k else (xs.drop k).erase y)=r) :
  (if x=y/\¬d=true then acc else acc++[x])++(if ((x==y&&!d)||d)=true then xs.drop (k+1) else (xs.drop (k+1)).erase y)=r:=by
 rw [Y3 h] at ha
 rw [<-ha]
 by_cases hd:d=true
 ·simp [hd]
 ·by_cases hx:x=y
  ·simp [hd,hx]
  ·rw [Za (fun z=>hx z.1),Za hd,List.erase_cons_tail (by simpa using hx)]
   simp [hd,hx]
theorem SR {xs acc r:LI} {y:Int} {k:Nat} {d:Bool} (h:xs.length<=k) (ha:acc++(if d=true then xs.drop k else (xs.drop k).erase y)=r):acc=r:=by
 rw [YY h] at ha;simpa using ha
section
variable {fs D R:LI} {q k:Nat} {f:Int} {r:LI × LI}
theorem Z6h (h:fs[k]? = some f) (h0:f≠0) (hm:((q+k:Nat):Int)∈D) (ha:Ug (fs.drop k) (q+k) D R=r):Ug (fs.drop (k+1)) (q+((k+1:Nat):Int)) (D.erase ((q+k:Nat):Int)) R=r:=by
 rw [Y3 h,Ug,Zm ⟨h0,by rw [<-Int.natCast_add];exact hm⟩,<-Int.natCast_add] at ha
 rw [<-ha];congr 1
theorem Z6i (h:fs[k]? = some f) (h0:f≠0) (hm:¬((q+k:Nat):Int)∈D) (ha:Ug (fs.drop k) (q+k) D R=r):Ug (fs.drop (k+1)) (q+((k+1:Nat):Int)) D (R++[((q+k:Nat):Int)])=r:=by
 rw [Y3 h,Ug,Za (fun z=>hm (by rw [Int.natCast_add];exact z.2)),Zm h0,<-Int.natCast_add] at ha
 rw [<-ha];congr 1
theorem Z6j (h:fs[k]? = some f) (h0:¬f≠0) (ha:Ug (fs.drop k) (q+k) D R=r):Ug (fs.drop (k+1)) (q+((k+1:Nat):Int)) D R=r:=by
 rw [Y3 h,Ug,Za (fun z=>h0 z.1),Za h0] at ha
 rw [<-ha];congr 1
theorem Z6g (h:fs.length<=k) (ha:Ug (fs.drop k) (q+k) D R=r):r=(D,R):=by
 rw [YY h,Ug] at ha;exact ha.symm
end
theorem PX {xs:List Z4} {x:Int} {fs:LI} {q:Int} {D R:LI} (h1:x∈W8 15 (xs.take (Xw xs))) (h2:fs.length≠0) (hr:JD xs x fs q=(D,R)):D.map (Zv 14)++[Zv 16 x]++R.map (Zv 15)++xs.drop (Xw xs)=JX xs x fs q:=by
 rw [JX,Zm ⟨h1,h2⟩,hr]
theorem Z9a {ds:List Ze} {xs:List Z4}:∀{m:Nat},Qg ds xs->∀s∈UA ds m xs,Yd s.op=true->∃a,s.args=[a]:=by
 induction xs with
 | nil=>intro m _ s hs;simp [UA] at hs
 | cons t r ih=>
  intro m h s hs ho
  rw [UA] at hs
  rcases YD.1 hs with rfl|hs
  ·rw [I1] at ho ⊢
   exact (FA h.1 ho).2.2
  ·exact ih h.2 s hs ho
end Go.Abs
end
namespace Go.Abs
theorem Iu {s:Z4} (h:Cn s):∃a,s.args=[a]:=⟨gI s.args 0,by have:=Yc Z4.args h;exact this⟩
section
variable {xs:LI} {v:Int} {lo hi:Nat}
end
section
variable {m:Int} {xs du dr:List Z4} {lf:LI} {d:Bool} {k:Nat} {s:Z4} {W:List Z4 × List Z4 × LI}
end
def YI:List Z4->Nat
 | []=>0
 | s::r=>if Yd s.op=true then YI r+1 else 0
def XK (op x:Int):List Z4->Int->Int
 | [],_=>-1
 | s::r,k=>if s.op=op/\gI s.args 0=x then k else XK op x r (k+1)
def Qo (many:Nat) (s:Z4):Prop:=(s.op=6/\s.into=0)/\s.args.length=many
instance (many:Nat) (s:Z4):Decidable (Qo many s):=by unfold Qo;infer_instance
def W3 (many:Nat):List Z4->Int->Int
 | [],_=>-1
 | s::r,k=>if Qo many s then k else W3 many r (k+1)
def Ab (xs:List Z4) (i:Int):Z4:=xs[i.toNat]?.getD (Zv 0 0)
def Q4 (v:Int) (s:Z4):Z4:=.mk s.op s.num v s.args s.kids
def WZ (xs:List Z4) (x:Int):Int:=XK 16 x (xs.take (YI xs)) 0
def Wc (xs:List Z4) (many:Nat):Int:=W3 many (xs.drop (YI xs)) (YI xs)
def VU (xs:List Z4) (x:Int) (many:Nat):List Z4:=
 if WZ xs x<0∨Wc xs many<0 then xs else (xs.set (WZ xs x).toNat (Zv 17 x)).set (Wc xs many).toNat (Q4 (1+x) (Ab xs (Wc xs many)))
def VN (b:Z5) (x:Int) (many:Nat):Z5:=.mk (VU b.steps x many) b.result
mutual
def Qc (ds:List Ze) (kept:LI):Z4->Z4
 | .mk op num into args kids=>.mk op num into args (Uh ds kept op num args kids 0)
def Uh (ds:List Ze) (kept:LI) (op num:Int) (args:LI):List Z5->Nat->List Z5
 | [],_=>[]
 | b::r,k=>(if op=8/\¬gI args 0∈kept then VN (Wf ds (if WZ b.steps (gI args 0)<0∨Wc b.steps (Ud ds num k).length<0 then kept else gI args 0::kept) b) (gI args 0) (Ud ds num k).length else Wf ds kept b)::Uh ds kept op num args r (k+1)
def Ui (ds:List Ze) (kept:LI):List Z4->List Z4
 | []=>[]
 | s::r=>Qc ds kept s::Ui ds kept r
def Wf (ds:List Ze) (kept:LI):Z5->Z5
 | .mk steps result=>.mk (Ui ds kept steps) result
end
def EG (ds:List Ze) (kept:LI) (num:Int) (args:LI) (k:Nat) (b:Z5):LI:=if WZ b.steps (gI args 0)<0∨Wc b.steps (Ud ds num k).length<0 then kept else gI args 0::kept
def Te (ds:List Ze) (kept:LI) (op num:Int) (args:LI) (k:Nat) (b:Z5):Z5:=if op=8/\¬gI args 0∈kept then VN (Wf ds (EG ds kept num args k b) b) (gI args 0) (Ud ds num k).length else Wf ds kept b
theorem Ar (ds:List Ze) (kept:LI) (s:Z4):Qc ds kept s=.mk s.op s.num s.into s.args (Uh ds kept s.op s.num s.args s.kids 0):=by cases s;rw [Qc];rfl
theorem F7 (ds:List Ze) (kept:LI) (b:Z5):Wf ds kept b=.mk (Ui ds kept b.steps) b.result:=by cases b;rw [Wf];rfl
theorem F9 (ds:List Ze) (kept:LI):∀xs:List Z4,Ui ds kept xs=xs.map (Qc ds kept)
 | []=>rfl
 | s::r=>by rw [Ui,F9 ds kept r];rfl
section
variable {ds:List Ze} {kept:LI}
theorem Z8d {xs acc r:List Z4} {k:Nat} {s:Z4} (h:xs[k]? = some s) (ha:acc++Ui ds kept (xs.drop k)=r) :
  (acc++[.mk s.op s.num s.into s.args (Uh ds kept s.op s.num s.args s.kids 0)])++Ui ds kept (xs.drop (k+1))=r:=by
 rw [Y3 h,Ui,Ar] at ha
 rw [<-ha];simp
theorem Z8c {xs acc r:List Z4} {k:Nat} (h:xs.length<=k) (ha:acc++Ui ds kept (xs.drop k)=r):acc=r:=by
 rw [YY h,Ui,J4] at ha;exact ha
theorem Z87 {op num:Int} {args:LI} {bs acc r:List Z5} {k:Nat} {b:Z5} (h:bs[k]? = some b) (ha:acc++Uh ds kept op num args (bs.drop k) k=r) :
  (acc++[Te ds kept op num args k b])++Uh ds kept op num args (bs.drop (k+1)) (k+1)=r:=by
 rw [Y3 h,Uh] at ha
 rw [<-ha,Te,EG];simp
theorem Z86 {op num:Int} {args:LI} {bs acc r:List Z5} {k j:Nat} (h:bs.length<=k) (ha:acc++Uh ds kept op num args (bs.drop k) j=r):acc=r:=by
 rw [YY h,Uh,J4] at ha;exact ha
end
section
variable {ds:List Ze}
mutual
theorem Z8a:∀(s:Z4) {K K':LI},(∀z,z∈K↔z∈K')->Qc ds K s=Qc ds K' s
 | .mk op num into args kids,K,K',h=>by rw [Qc,Qc,Oh kids h]
theorem Oh:∀(bs:List Z5) {K K':LI} {op num:Int} {args:LI} {k:Nat},(∀z,z∈K↔z∈K')->Uh ds K op num args bs k=Uh ds K' op num args bs k
 | [],_,_,_,_,_,_,_=>by rw [Uh,Uh]
 | b::r,K,K',op,num,args,k,h=>by
  have h1:=Oh r (op:=op) (num:=num) (args:=args) (k:=k+1) h
  have h2:=HO b h
  have h3:∀z,z∈(gI args 0::K)↔z∈(gI args 0::K'):=fun z=>by rw [YD,YD,h z]
  have h4:=HO b h3
  rw [Uh,Uh,h1,h2]
  congr 1
  by_cases hq:op=8/\¬gI args 0∈K
  ·have hq':op=8/\¬gI args 0∈K':=⟨hq.1,fun z=>hq.2 ((h _).2 z)⟩
   rw [Zm hq,Zm hq']
   congr 1
   split
   ·exact h2
   ·exact h4
  ·have hq':¬(op=8/\¬gI args 0∈K'):=fun z=>hq ⟨z.1,fun y=>z.2 ((h _).1 y)⟩
   rw [Za hq,Za hq']
theorem Oj:∀(xs:List Z4) {K K':LI},(∀z,z∈K↔z∈K')->Ui ds K xs=Ui ds K' xs
 | [],_,_,_=>by rw [Ui,Ui]
 | s::r,K,K',h=>by rw [Ui,Ui,Z8a s h,Oj r h]
theorem HO:∀(b:Z5) {K K':LI},(∀z,z∈K↔z∈K')->Wf ds K b=Wf ds K' b
 | .mk steps result,K,K',h=>by rw [Wf,Wf,Oj steps h]
end
end
theorem D4:∀xs:List Z4,YI xs<=xs.length
 | []=>YT _
 | s::r=>by have:=D4 r;rw [YI];split<;>simp<;>omega
section
variable {f:Z4->Z4} (hop:∀s,(f s).op=s.op) (hin:∀s,(f s).into=s.into) (har:∀s,(f s).args=s.args)
include hop
theorem Hm:∀xs:List Z4,YI (xs.map f)=YI xs
 | []=>rfl
 | s::r=>by rw [VQ,YI,YI,hop,Hm r]
include har
theorem IL {op x:Int}:∀(xs:List Z4) (k:Int),XK op x (xs.map f) k=XK op x xs k
 | [],_=>rfl
 | s::r,k=>by rw [VQ,XK,XK,hop,har,IL r]
theorem Z6e (xs:List Z4) (x:Int):WZ (xs.map f) x=WZ xs x:=by rw [WZ,Hm hop,<-List.map_take,IL hop har,WZ]
include hin
theorem Lb {many:Nat}:∀(xs:List Z4) (k:Int),W3 many (xs.map f) k=W3 many xs k
 | [],_=>rfl
 | s::r,k=>by
  have e:Qo many (f s)↔Qo many s:=by rw [Qo,Qo,hop,hin,har]
  rw [VQ,W3,W3,Lb r]
  by_cases h:Qo many s
  ·rw [Zm h,Zm (e.2 h)]
  ·rw [Za h,Za (fun z=>h (e.1 z))]
theorem RC (xs:List Z4) (many:Nat):Wc (xs.map f) many=Wc xs many:=by rw [Wc,Hm hop,<-List.map_drop,Lb hop hin har,Wc]
end
theorem IK {op x:Int}:∀{xs:List Z4} {k:Int},¬XK op x xs k<0->0<=k->k<=XK op x xs k/\XK op x xs k<k+xs.length/\∃s,xs[(XK op x xs k-k).toNat]? = some s/\s.op=op/\gI s.args 0=x
 | [],k,h,_=>by simp [XK] at h
 | s::r,k,h,hk=>by
  rw [XK] at h ⊢
  split
  ·rename_i q
   refine ⟨Int.le_refl _,by rw [YL];omega,s,?_,q⟩
   rw [Int.sub_self];rfl
  ·rename_i q
   rw [Za q] at h
   obtain ⟨h1,h2,t,h3,h4⟩:=IK (xs:=r) (k:=k+1) h om
   refine ⟨by omega,by rw [YL];omega,t,?_,h4⟩
   rw [show (XK op x r (k+1)-k).toNat=(XK op x r (k+1)-(k+1)).toNat+1 by omega,List.getElem?_cons_succ]
   exact h3
theorem La {many:Nat}:∀{xs:List Z4} {k:Int},¬W3 many xs k<0->0<=k->k<=W3 many xs k/\W3 many xs k<k+xs.length/\∃s,xs[(W3 many xs k-k).toNat]? = some s/\Qo many s
 | [],k,h,_=>by simp [W3] at h
 | s::r,k,h,hk=>by
  rw [W3] at h ⊢
  split
  ·rename_i q
   refine ⟨Int.le_refl _,by rw [YL];omega,s,?_,q⟩
   rw [Int.sub_self];rfl
  ·rename_i q
   rw [Za q] at h
   obtain ⟨h1,h2,t,h3,h4⟩:=La (xs:=r) (k:=k+1) h om
   refine ⟨by omega,by rw [YL];omega,t,?_,h4⟩
   rw [show (W3 many r (k+1)-k).toNat=(W3 many r (k+1)-(k+1)).toNat+1 by omega,List.getElem?_cons_succ]
   exact h3
theorem De {xs:List Z4} {x:Int} (h:¬WZ xs x<0):0<=WZ xs x/\WZ xs x<YI xs/\∃s,xs[(WZ xs x).toNat]? = some s/\s.op=16/\gI s.args 0=x:=by
 obtain ⟨h1,h2,s,h3,h4⟩:=IK h (Int.le_refl 0)
 have hl:=D4 xs
 rw [Wn,Vj hl] at h2
 have h2':WZ xs x<YI xs:=by unfold WZ;omega
 have h1':0<=WZ xs x:=h1
 refine ⟨h1',h2',s,?_,h4⟩
 rw [Int.sub_zero] at h3
 have h5:(WZ xs x).toNat<YI xs:=by omega
 rwa [show XK 16 x (xs.take (YI xs)) 0=WZ xs x from rfl,List.getElem?_take_of_lt h5] at h3
theorem A3 {xs:List Z4} {many:Nat} (h:¬Wc xs many<0):(YI xs:Int)<=Wc xs many/\Wc xs many<xs.length/\∃s,xs[(Wc xs many).toNat]? = some s/\Qo many s/\Ab xs (Wc xs many)=s:=by
 obtain ⟨h1,h2,s,h3,h4⟩:=La h om
 have hl:=D4 xs
 rw [J5] at h2
 have h1':(YI xs:Int)<=Wc xs many:=h1
 have h2':Wc xs many<xs.length:=by unfold Wc;omega
 rw [Ir,show W3 many (xs.drop (YI xs)) (YI xs)=Wc xs many from rfl,show YI xs+(Wc xs many-(YI xs:Int)).toNat=(Wc xs many).toNat by omega] at h3
 exact ⟨h1',h2',s,h3,h4,by rw [Ab,h3];rfl⟩
theorem Z7k {f:Z4->Z4} (hop:∀s,(f s).op=s.op) (hin:∀s,(f s).into=s.into) (har:∀s,(f s).args=s.args) (hc:∀x,f (Zv 17 x)=Zv 17 x) (hi:∀v s,f (Q4 v s)=Q4 v (f s)) (xs:List Z4) (x:Int) (many:Nat) :
  VU (xs.map f) x many=(VU xs x many).map f:=by
 rw [VU,Z6e hop har,RC hop hin har,VU]
 split
 ·rfl
 ·rename_i hq
  obtain ⟨_,_,s,h3,_,h5⟩:=A3 (fun z=>hq (.inr z))
  have e:Ab (xs.map f) (Wc xs many)=f (Ab xs (Wc xs many)):=by rw [Ab,Kt,h3,h5];rfl
  rw [e,List.map_set,List.map_set,hc,hi]
theorem Of {ds:List Ze} {K:LI} {b:Z5} {x:Int} {many:Nat}:Wf ds K (VN b x many)=VN (Wf ds K b) x many:=by
 rw [VN,Wf,VN,F7,F9,F9]
 show Z5.mk _ _=Z5.mk (VU (b.steps.map (Qc ds K)) x many) b.result
 rw [Z7k (f:=Qc ds K) (fun s=>by rw [Ar];rfl) (fun s=>by rw [Ar];rfl) (fun s=>by rw [Ar];rfl) (fun x=>by rw [Ar];rfl) (fun v s=>by rw [Ar,Ar];rfl)]
structure CB (c:LI) (q:Int):Prop where
 len:c.length=4
 bd:∀x∈c,0<=x/\x<=q
mutual
def Bc:Z4->Prop
 | .mk op _ _ _ kids=>op≠17/\Aj kids
def Aj:List Z5->Prop
 | []=>True
 | b::r=>Q7 b/\Aj r
def Ak:List Z4->Prop
 | []=>True
 | s::r=>Bc s/\Ak r
def Q7:Z5->Prop
 | .mk steps _=>Ak steps
end
theorem C1 (s:Z4):Bc s↔s.op≠17/\Aj s.kids:=by cases s;rw [Bc];rfl
theorem D8 (b:Z5):Q7 b↔Ak b.steps:=by cases b;rw [Q7];rfl
theorem D9:∀{xs:List Z4},Ak xs↔∀s∈xs,Bc s
 | []=>by simp [Ak]
 | s::r=>by rw [Ak,D9];simp
theorem ET:∀{xs:List Z5},Aj xs↔∀s∈xs,Q7 s
 | []=>by simp [Aj]
 | s::r=>by rw [Aj,ET];simp
theorem Fq:∀{xs:List Z4} {i:Nat} {s:Z4} (t:Z4),xs[i]? = some s->Yk (xs.set i t)+s.sz=Yk xs+t.sz
 | [],_,_,_,h=>by simp at h
 | x::r,0,s,t,h=>by simp at h;subst h;rw [List.set_cons_zero,Yk,Yk];omega
 | x::r,i+1,s,t,h=>by
  have:=Fq (xs:=r) (i:=i) t (by simpa using h)
  rw [List.set_cons_succ,Yk,Yk];omega
theorem Z46 (v:Int) (s:Z4):(Q4 v s).sz=s.sz:=by cases s;rw [Q4,Z4.sz,Z4.sz];rfl
theorem Lc {xs:List Z4} {x:Int} {many:Nat} (h:¬(WZ xs x<0∨Wc xs many<0)):(WZ xs x).toNat<(Wc xs many).toNat:=by
 obtain ⟨h1,h2,_⟩:=De (fun z=>h (.inl z))
 obtain ⟨h3,h4,_⟩:=A3 (fun z=>h (.inr z))
 omega
theorem F6 {xs:List Z4} {x:Int} {many:Nat} (h:¬(WZ xs x<0∨Wc xs many<0)) {t:Z4} {s:Z4} (hs:xs[(Wc xs many).toNat]? = some s):(xs.set (WZ xs x).toNat t)[(Wc xs many).toNat]? = some s:=by
 have:=Lc h
 rw [List.getElem?_set_ne om];exact hs
theorem O5 {xs:List Z4} {x:Int} {many:Nat} (h:∀s∈xs,Yd s.op=true->2<=s.sz):Yk (VU xs x many)<=Yk xs:=by
 rw [VU]
 split
 ·exact YT _
 ·rename_i hq
  obtain ⟨_,_,s,h3,h4,_⟩:=De (fun z=>hq (.inl z))
  obtain ⟨_,_,t,h5,_,h6⟩:=A3 (fun z=>hq (.inr z))
  have e1:=Fq (Zv 17 x) h3
  have e2:=Fq (Q4 (1+x) (Ab xs (Wc xs many))) (F6 hq (t:=Zv 17 x) h5)
  have h7:=h s (ZY h3) (by rw [h4];rfl)
  rw [DV] at e1
  rw [Z46,h6] at e2
  rw [h6]
  omega
section
variable {ds:List Ze}
theorem Zc2 {v:Int} {s:Z4} (h:wS ds s) (h6:s.op=6):wS ds (Q4 v s):=by
 obtain ⟨h1,h2,h3,h4⟩:=(Kr s).1 h
 exact (Kr _).2 ⟨h1,fun hc=>absurd hc (by show ¬Yd s.op=true;rw [h6];decide),h3,h4⟩
theorem Zbz {v:Int}:wS ds (Zv 17 v):=(Kr _).2 ⟨rfl,fun _=>⟨rfl,rfl,rfl,v,rfl⟩,fun e=>absurd e (show (17:Int)≠8 by decide),True.intro⟩
theorem Zby {xs:List Z4} {x:Int} {many:Nat} (h:Qg ds xs):Qg ds (VU xs x many):=by
 rw [VU]
 split
 ·exact h
 ·rename_i hq
  obtain ⟨_,_,t,h5,h7,h6⟩:=A3 (fun z=>hq (.inr z))
  rw [JJ]
  intro s hs
  rcases List.mem_or_eq_of_mem_set hs with hs|rfl
  ·rcases List.mem_or_eq_of_mem_set hs with hs|rfl
   ·exact JJ.1 h s hs
   ·exact Zbz
  ·rw [h6];exact Zc2 (JJ.1 h t (ZY h5)) h7.1.1
theorem Zbx {b:Z5} {x:Int} {many:Nat} (h:wB ds b):wB ds (VN b x many):=by rw [VN,K4];exact Zby ((K4 b).1 h)
variable (hd:W4 ds)
mutual
theorem Z8b:∀(s:Z4) {K:LI},wS ds s->(Qc ds K s).sz<=s.sz
 | .mk op num into args kids,K,h=>by
  have:=Oi kids (K:=K) (op:=op) (num:=num) (args:=args) (k:=0) h.2.2.2
  rw [Qc,Z4.sz,Z4.sz];omega
theorem Oi:∀(bs:List Z5) {K:LI} {op num:Int} {args:LI} {k:Nat},JI ds bs->YQ (Uh ds K op num args bs k)<=YQ bs
 | [],_,_,_,_,_,_=>YT _
 | b::r,K,op,num,args,k,h=>by
  have h2:=Oi r (K:=K) (op:=op) (num:=num) (args:=args) (k:=k+1) h.2
  have key:∀K2:LI,(VN (Wf ds K2 b) (gI args 0) (Ud ds num k).length).sz<=b.sz:=fun K2=>by
   have h1:=HP b (K:=K2) h.1
   have h3:=O5 (xs:=(Wf ds K2 b).steps) (x:=gI args 0) (many:=(Ud ds num k).length) (by
    rw [F7,F9]
    intro s hs hc
    obtain ⟨t,ht,rfl⟩:=XD.1 hs
    rw [Ar] at hc ⊢
    obtain ⟨_,_,a,ha⟩:=FA (JJ.1 ((K4 b).1 h.1) t ht) hc
    rw [Z4.sz,ha];simp)
   rw [VN,Z5.sz]
   rw [Z5.sz_eq] at h1
   omega
  rw [Uh,YQ,YQ]
  split
  ·have:=key (if WZ b.steps (gI args 0)<0∨Wc b.steps (Ud ds num k).length<0 then K else gI args 0::K)
   omega
  ·have:=HP b (K:=K) h.1
   omega
theorem Ok:∀(xs:List Z4) {K:LI},Qg ds xs->Yk (Ui ds K xs)<=Yk xs
 | [],_,_=>YT _
 | s::r,K,h=>by
  have h1:=Z8b s (K:=K) h.1
  have h2:=Ok r (K:=K) h.2
  rw [Ui,Yk,Yk];omega
theorem HP:∀(b:Z5) {K:LI},wB ds b->(Wf ds K b).sz<=b.sz
 | .mk steps result,K,h=>by
  have:=Ok steps (K:=K) h
  rw [Wf,Z5.sz,Z5.sz];omega
end
end
theorem Hn:∀{xs:List Z4} {i:Nat} {s t:Z4},xs[i]? = some s->Yd t.op=Yd s.op->YI (xs.set i t)=YI xs
 | [],_,_,_,h,_=>by simp at h
 | x::r,0,s,t,h,e=>by simp at h;subst h;rw [List.set_cons_zero,YI,YI,e]
 | x::r,i+1,s,t,h,e=>by
  rw [List.set_cons_succ,YI,YI,Hn (xs:=r) (i:=i) (by simpa using h) e]
theorem Z52 {xs:List Z4} {x:Int} {many:Nat}:YI (VU xs x many)=YI xs:=by
 rw [VU]
 split
 ·rfl
 ·rename_i hq
  obtain ⟨_,_,s,h3,h4,_⟩:=De (fun z=>hq (.inl z))
  obtain ⟨_,_,t,h5,_,h6⟩:=A3 (fun z=>hq (.inr z))
  rw [Hn (F6 hq (t:=Zv 17 x) h5) (by rw [h6];rfl),Hn h3 (by rw [h4];rfl)]
theorem IN {op x:Int}:∀{xs:List Z4} {k:Int},(∀s∈xs,s.op≠op)->XK op x xs k=-1
 | [],_,_=>rfl
 | s::r,k,h=>by
  rw [XK,Za (fun z=>h s (X4 ..) z.1)]
  exact IN fun t ht=>h t (Xp _ ht)
theorem IP {op x:Int}:∀{xs:List Z4} {k:Int},0<=k->(∃s∈xs,s.op=op/\gI s.args 0=x)->0<=XK op x xs k
 | [],_,_,h=>by obtain ⟨s,hs,_⟩:=h;cases hs
 | s::r,k,hk,h=>by
  rw [XK]
  split
  ·exact hk
  ·rename_i q
   obtain ⟨t,ht,h1⟩:=h
   rcases YD.1 ht with rfl|ht
   ·exact absurd h1 q
   ·exact IP om ⟨t,ht,h1⟩
theorem Pg {xs:List Z4} {x:Int} {many:Nat} (hn:Ak xs):0<=XK 17 x ((VU xs x many).take (YI (VU xs x many))) 0↔¬(WZ xs x<0∨Wc xs many<0):=by
 rw [Z52]
 constructor
 ·intro h hq
  rw [VU,Zm hq,IN (fun s hs=>((C1 s).1 (D9.1 hn s (TR hs))).1)] at h
  omega
 ·intro hq
  obtain ⟨h1,h2,s,h3,h4,_⟩:=De (fun z=>hq (.inl z))
  have hap:=Lc hq
  refine IP (Int.le_refl 0) ⟨Zv 17 x,?_,rfl,rfl⟩
  rw [VU,Za hq]
  refine ZY (i:=(WZ xs x).toNat) ?_
  rw [List.getElem?_take_of_lt om,List.getElem?_set_ne om,List.getElem?_set_self (XC.1 h3).1]
def Al (b:Z5):Prop:=∀s∈b.steps,Aj s.kids
theorem Bb {b:Z5} (h:Q7 b):Al b:=fun s hs=>((C1 s).1 (D9.1 ((D8 b).1 h) s hs)).2
theorem Z5w {b:Z5} {k j:Nat} {s:Z4} {c:Z5} (h:Al b) (hs:b.steps[k]? = some s) (hc:s.kids[j]? = some c):Q7 c:=ET.1 (h s (ZY hs)) c (ZY hc)
theorem Nf {b:Z5} {x:Int} {many:Nat} (h:Q7 b):Al (VN b x many):=by
 intro s hs
 have hs:s∈VU b.steps x many:=hs
 rw [VU] at hs
 split at hs
 ·exact Bb h s hs
 ·rename_i hq
  obtain ⟨_,_,t,h5,_,h6⟩:=A3 (fun z=>hq (.inr z))
  rcases List.mem_or_eq_of_mem_set hs with hs|rfl
  ·rcases List.mem_or_eq_of_mem_set hs with hs|rfl
   ·exact Bb h s hs
   ·exact True.intro
  ·rw [h6];exact Bb h t (ZY h5)
theorem Z7j {ds:List Ze} {b:Z5} {x:Int} {many:Nat} (h:wB ds b):(VN b x many).sz<=b.sz:=by
 have:=O5 (xs:=b.steps) (x:=x) (many:=many) fun s hs hc=>by
  have h7:=FJ ((K4 b).1 h) s hs hc
  rw [h7,DV];omega
 rw [VN,Z5.sz,b.sz_eq];omega
def Aq (ds:List Ze) (r:ZZ):ZZ:=⟨r.params,r.lent,r.result,Wf ds [] r.body⟩
def F8 (n:Zt):Zt:=⟨n.decls,n.routines.map (Aq n.decls)⟩
mutual
def Ap:Z4->Bool
 | .mk op _ into _ kids=>(!Yd op&&into==0)&&Vg kids
def WH:Z5->Bool
 | .mk steps _=>Vv steps
def Vv:List Z4->Bool
 | []=>true
 | s::r=>Ap s&&Vv r
def Vg:List Z5->Bool
 | []=>true
 | b::r=>WH b&&Vg r
end
theorem F3 (b:Z5):WH b=Vv b.steps:=by cases b;rw [WH];rfl
theorem HA (s:Z4):Ap s=((!Yd s.op&&s.into==0)&&Vg s.kids):=by cases s;rw [Ap];rfl
def Uy:List ZZ->Bool
 | []=>true
 | r::rs=>WH r.body&&Uy rs
def VD (n:Zt):Bool:=Wg n&&Uy n.routines
theorem Z6q {xs:List Z4} {k:Nat} {s:Z4} {v w:Bool} (h:xs[k]? = some s) (ha:(v&&Vv (xs.drop k))=w):((v&&Ap s)&&Vv (xs.drop (k+1)))=w:=by
 rw [Y3 h,Vv] at ha;rw [Bool.and_assoc];exact ha
theorem Z6p {xs:List Z4} {k:Nat} {v w:Bool} (h:xs.length<=k) (ha:(v&&Vv (xs.drop k))=w):v=w:=by
 rw [YY h,Vv,Bool.and_true] at ha;exact ha
theorem Z6t {xs:List Z5} {k:Nat} {s:Z5} {v w:Bool} (h:xs[k]? = some s) (ha:(v&&Vg (xs.drop k))=w):((v&&WH s)&&Vg (xs.drop (k+1)))=w:=by
 rw [Y3 h,Vg] at ha;rw [Bool.and_assoc];exact ha
theorem Z6s {xs:List Z5} {k:Nat} {v w:Bool} (h:xs.length<=k) (ha:(v&&Vg (xs.drop k))=w):v=w:=by
 rw [YY h,Vg,Bool.and_true] at ha;exact ha
theorem NN {xs:List ZZ} {k:Nat} {s:ZZ} (h:xs[k]? = some s):Uy (xs.drop k)=(WH s.body&&Uy (xs.drop (k+1))):=by rw [Y3 h,Uy]
theorem NO {xs:List ZZ} {k:Nat} {s:ZZ} {w:Bool} (h:xs[k]? = some s) (hs:WH s.body=true) (ha:Uy (xs.drop k)=w):Uy (xs.drop (k+1))=w:=by
 rw [NN h,hs,Bool.true_and] at ha;exact ha
theorem NM {xs:List ZZ} {k:Nat} {w:Bool} (h:xs.length<=k) (ha:Uy (xs.drop k)=w):true=w:=by
 rw [YY h,Uy] at ha;exact ha
theorem NK {xs:List ZZ} {k:Nat} {s:ZZ} {w:Bool} (h:xs[k]? = some s) (hs:¬WH s.body=true) (ha:Uy (xs.drop k)=w):false=w:=by
 rw [NN h,UR.2 hs,Bool.false_and] at ha;exact ha
theorem HC {xs:List Z4} {k:Nat} {s:Z4} (h:xs[k]? = some s):Vv (xs.drop k)=(((!Yd s.op&&s.into==0)&&Vg s.kids)&&Vv (xs.drop (k+1))):=by rw [Y3 h,Vv,HA]
theorem Z6x {xs:List Z4} {k:Nat} {s:Z4} {w:Bool} (h:xs[k]? = some s) (hs:Yd s.op=true∨s.into≠0) (ha:Vv (xs.drop k)=w):false=w:=by
 rw [HC h] at ha
 rw [<-ha]
 rcases hs with hs|hs
 ·rw [hs];rfl
 ·rw [show (s.into==0)=false by simpa using hs];simp
theorem Z6y {xs:List Z4} {k:Nat} {s:Z4} {w:Bool} (h:xs[k]? = some s) (hs:Vg s.kids=false) (ha:Vv (xs.drop k)=w):false=w:=by
 rw [HC h,hs] at ha;simpa using ha
theorem Z70 {xs:List Z4} {k:Nat} {s:Z4} {w:Bool} (h:xs[k]? = some s) (h1:¬(Yd s.op=true∨s.into≠0)) (h2:Vg s.kids=true) (ha:Vv (xs.drop k)=w):Vv (xs.drop (k+1))=w:=by
 rw [HC h,h2,UR.2 (fun z=>h1 (.inl z)),show (s.into==0)=true by simpa using fun z=>h1 (.inr z)] at ha
 simpa using ha
theorem Z6z {xs:List Z4} {k:Nat} {w:Bool} (h:xs.length<=k) (ha:Vv (xs.drop k)=w):true=w:=by
 rw [YY h,Vv] at ha;exact ha
theorem Z6u {xs:List Z5} {k:Nat} {s:Z5} {w:Bool} (h:xs[k]? = some s) (hs:¬WH s=true) (ha:Vg (xs.drop k)=w):w=false:=by
 rw [Y3 h,Vg,UR.2 hs] at ha;exact ha.symm
theorem Z6w {xs:List Z5} {k:Nat} {s:Z5} {w:Bool} (h:xs[k]? = some s) (hs:WH s=true) (ha:Vg (xs.drop k)=w):Vg (xs.drop (k+1))=w:=by
 rw [Y3 h,Vg,hs,Bool.true_and] at ha;exact ha
theorem Z6v {xs:List Z5} {k:Nat} {w:Bool} (h:xs.length<=k) (ha:Vg (xs.drop k)=w):w=true:=by
 rw [YY h,Vg] at ha;exact ha.symm
theorem SQ {xs ys:LI} (h:xs.length=ys.length) (ha:∀i,i<xs.length->xs[i]? = ys[i]?):xs=ys:=List.ext_getElem? fun i=>by
 by_cases hi:i<xs.length
 ·exact ha i hi
 ·rw [Cg om,Cg om]

mutual
def Z1.sz:Z1->Nat
 | .mk _ _ kids=>1+Xc kids
def Xc:List Z1->Nat
 | []=>0
 | e::r=>e.sz+Xc r
end
theorem Z1.sz_eq (e:Z1):e.sz=1+Xc e.kids:=by cases e;rw [Z1.sz];rfl
theorem CA:∀xs ys:List Z1,Xc (xs++ys)=Xc xs+Xc ys
 | [],ys=>by simp [Xc]
 | x::r,ys=>by rw [Qh,Xc,Xc,CA r];omega
theorem AX:∀{xs:List Z1} {k:Nat} {e:Z1},xs[k]? = some e->e.sz<=Xc xs
 | [],k,e,h=>by simp at h
 | x::r,0,e,h=>by simp at h;subst h;rw [Xc];omega
 | x::r,k+1,e,h=>by have:=AX (xs:=r) (k:=k) (by simpa using h);rw [Xc];omega
theorem Ly:∀{xs:List Z1},xs.length<=Xc xs
 | []=>K6 _
 | x::r=>by have:=Ly (xs:=r);have:=x.sz_eq;rw [Xc,YL];omega
def Jg:Ze:=⟨0,0,[⟨[]⟩,⟨[0,1]⟩]⟩
def Jh:Ze:=⟨0,0,[⟨[]⟩,⟨[3,0,3]⟩]⟩
def Lh:List Ze:=[⟨0,0,[⟨[1,3]⟩]⟩,⟨1,0,[]⟩,⟨0,0,[⟨[1,1,0]⟩,⟨[0]⟩,⟨[3]⟩]⟩,⟨0,1,[]⟩]
def Jt:List (List Ze):=[[Jg,⟨0,0,[]⟩,Jh],[Jg,⟨0,0,[]⟩,Jh,⟨0,0,[⟨[1,3]⟩]⟩],[Jg,⟨0,0,[]⟩,Jh,⟨1,0,[]⟩],[Jg,⟨0,0,[]⟩,Jh,⟨0,0,[⟨[1,1,0]⟩,⟨[0]⟩,⟨[3]⟩]⟩],[Jg,⟨0,0,[]⟩,Jh,⟨0,1,[]⟩]]
def GD (ds:List Ze):Prop:=ds∈Jt
theorem GD.ok {ds:List Ze} (h:GD ds):W4 ds:=by
 have k:=(by decide:∀ds∈Jt,ds.length<=4/\(∀d∈ds,d.cons.length<=3)/\∀d∈ds,∀c∈d.cons,c.fields.length<=3) ds h
 exact ⟨k.1,k.2.1,k.2.2⟩
theorem GD.len {ds:List Ze} (h:GD ds):3<=ds.length/\ds.length<=4:=by
 exact (by decide:∀ds∈Jt,3<=ds.length/\ds.length<=4) ds h
def QR (t:Int):Prop:=t=0∨t=1∨t=3
instance (t:Int):Decidable (QR t):=inferInstanceAs (Decidable (_∨_∨_))
theorem GD.low {ds:List Ze} (h:GD ds):ZT ds 0=[]/\ZT ds 1=[0,1]/\ZT ds 2=[]/\ZT ds 3=[2,3]/\ZQ ds 0=[]/\ZQ ds 1=[0,1]/\ZQ ds 2=[]/\ZQ ds 3=[3,0,3]:=
 (by decide:∀ds∈Jt,ZT ds 0=[]/\ZT ds 1=[0,1]/\ZT ds 2=[]/\ZT ds 3=[2,3]/\ZQ ds 0=[]/\ZQ ds 1=[0,1]/\ZQ ds 2=[]/\ZQ ds 3=[3,0,3]) ds h
theorem GD.fields {ds:List Ze} (h:GD ds):∀c∈ZT ds 1++(ZT ds 3++ZT ds 4),∀t∈ZQ ds c,QR t:=
 (by decide:∀ds∈Jt,∀c∈ZT ds 1++(ZT ds 3++ZT ds 4),∀t∈ZQ ds c,QR t) ds h
theorem GD.cons_cases {ds:List Ze} (h:GD ds) {t:Int} {c:Int} (hc:c∈ZT ds t):(0<=c/\c<=9)/\(t=1∨t=3∨t=4)/\(ZQ ds c).length<=3/\∀u∈ZQ ds c,QR u:=by
 have ht:1<=t/\t<=ds.length:=by
  by_cases q:1<=t/\t<=ds.length
  ·exact q
  ·rw [ZT,Za q] at hc;cases hc
 have hl:=h.len
 have hlow:=h.low
 have key:∀c∈ZT ds 1++(ZT ds 3++ZT ds 4),0<=c/\c<=9:=
  (by decide:∀ds∈Jt,∀c∈ZT ds 1++(ZT ds 3++ZT ds 4),0<=c/\c<=9) ds h
 have h4:t=1∨t=2∨t=3∨t=4:=by omega
 have hf:=h.fields
 have hd:=VI h.ok c
 rcases h4 with rfl|rfl|rfl|rfl
 ·exact ⟨key c (X1.2 (.inl hc)),.inl rfl,hd,hf c (X1.2 (.inl hc))⟩
 ·rw [hlow.2.2.1] at hc;cases hc
 ·exact ⟨key c (X1.2 (.inr (X1.2 (.inl hc)))),.inr (.inl rfl),hd,hf c (X1.2 (.inr (X1.2 (.inl hc))))⟩
 ·exact ⟨key c (X1.2 (.inr (X1.2 (.inr hc)))),.inr (.inr rfl),hd,hf c (X1.2 (.inr (X1.2 (.inr hc))))⟩
def Kw:List (LI × Int):=[([],0),([1],0),([1,1],1),([1],1),([1,0],1),([2,1],1),([1,1],0),([3],0),([0],1),([0,1],1),([3,0],3),([3],1),([1,3,0],0),([0],0),([0,0],0),([1,0],0)]
def US (f:Func):Prop:=(f.params,f.result)∈Kw
theorem US.bd {f:Func} (h:US f):f.params.length<=3/\(∀t∈f.params,0<=t/\t<=3)/\QR f.result:=by
 have key:∀q∈Kw,q.1.length<=3/\(∀t∈q.1,0<=t/\t<=3)/\QR q.2:=by decide
 exact key _ h
theorem US.clo {ds:List Ze} {f:Func} (hd:GD ds) (h:US f) (hp:0<VH ds (gI f.params ((f.params.length:Int)-1)) f.result):∀t∈f.params.dropLast,QR t:=by
 have key:∀q∈Kw,0<VH ds (gI q.1 ((q.1.length:Int)-1)) q.2->∀t∈q.1.dropLast,QR t:=
  (by decide +kernel:∀ds∈Jt,∀q∈Kw,0<VH ds (gI q.1 ((q.1.length:Int)-1)) q.2->∀t∈q.1.dropLast,QR t) ds hd
 exact key _ h hp
structure GP (p:XJ):Prop where
 decls:GD p.decls
 len:1<=p.funcs.length/\p.funcs.length<=4
 sigs:∀f∈p.funcs,US f
def Tf (ds:List Ze) (op num:Int) (m:Nat) (k:Nat):Nat:=
 if op=13 then m+k else if op=8 then (if k=0 then m else m+(ZQ ds (gI (ZT ds num) ((k:Int)-1))).length) else m
mutual
def eW (ds:List Ze) (nf:Nat):Nat->Z1->Prop
 | m,.mk op num kids=>(0<=op/\op<=13)/\(op=12->kids=[]/\0<=num/\num<m)/\(op=13->kids.length=2)/\(op=7->kids.length=3)/\(op=8->kids.length=1+(ZT ds num).length)/\(op=9->0<=num/\num<nf)/\(-2000<=num/\num<=2000)/\kids.length<=4 /\
  TY ds nf (Tf ds op num m) 0 kids
def TY (ds:List Ze) (nf:Nat) (sc:Nat->Nat):Nat->List Z1->Prop
 | _,[]=>True
 | k,e::r=>eW ds nf (sc k) e/\TY ds nf sc (k+1) r
end
theorem SK {ds:List Ze} {nf m:Nat} (e:Z1):eW ds nf m e↔(0<=e.op/\e.op<=13)/\(e.op=12->e.kids=[]/\0<=e.num/\e.num<m)/\(e.op=13->e.kids.length=2)/\(e.op=7->e.kids.length=3)/\(e.op=8->e.kids.length=1+(ZT ds e.num).length)/\(e.op=9->0<=e.num/\e.num<nf)/\(-2000<=e.num/\e.num<=2000)/\e.kids.length<=4 /\
  TY ds nf (Tf ds e.op e.num m) 0 e.kids:=by cases e;rw [eW];rfl
theorem BH {ds:List Ze} {nf:Nat} {sc:Nat->Nat}:∀{xs:List Z1} {j k:Nat} {e:Z1},TY ds nf sc j xs->xs[k]? = some e->eW ds nf (sc (j+k)) e
 | [],j,k,e,_,h=>by simp at h
 | x::r,j,0,e,hw,h=>by simp at h;subst h;exact hw.1
 | x::r,j,k+1,e,hw,h=>by
  have:=BH (xs:=r) (j:=j+1) (k:=k) hw.2 (by simpa using h)
  rw [show j+(k+1)=j+1+k by omega];exact this
theorem Lu {ds:List Ze} {nf:Nat} {sc:Nat->Nat}:∀{xs ys:List Z1} {j:Nat},TY ds nf sc j (xs++ys)↔TY ds nf sc j xs/\TY ds nf sc (j+xs.length) ys
 | [],ys,j=>by simp [TY]
 | x::r,ys,j=>by
  rw [Qh,TY,TY,Lu (xs:=r),and_assoc,YL,show j+1+r.length=j+(r.length+1) by omega]
theorem Gz {ds:List Ze} {nf m:Nat} {sc:Nat->Nat} (hs:∀k,sc k=m):∀{xs:List Z1} {j:Nat},(∀e∈xs,eW ds nf m e)->TY ds nf sc j xs
 | [],_,_=>True.intro
 | x::r,j,h=>⟨by rw [hs];exact h x (X4 ..),Gz hs fun e he=>h e (Xp _ he)⟩
theorem AW {ds:List Ze} {nf m:Nat} {op num:Int} {kids:List Z1} (ho:0<=op/\op<=11/\op≠7/\op≠8) (hc:op=9->0<=num/\num<nf) (hn:-2000<=num/\num<=2000) (hl:kids.length<=4) (hk:∀e∈kids,eW ds nf m e):eW ds nf m (.mk op num kids):=by
 rw [eW]
 refine ⟨by omega,fun h=>by omega,fun h=>by omega,fun h=>by omega,fun h=>by omega,hc,hn,hl,Gz (m:=m) (fun k=>?_) hk⟩
 rw [Tf,Za om,Za om]
theorem SM {ds:List Ze} {nf m:Nat} {z:Int} (hz:-2000<=z/\z<=2000):eW ds nf m (.mk 0 z []):=AW om (fun h=>by omega) hz (by simp) (fun e he=>by cases he)
theorem SN {ds:List Ze} {nf m:Nat} {z:Int} (hz:0<=z/\z<m) (hm:m<=2000):eW ds nf m (.mk 12 z []):=by
 rw [eW]
 exact ⟨by omega,fun _=>⟨rfl,hz⟩,fun h=>by omega,fun h=>by omega,fun h=>by omega,fun h=>by omega,by omega,by simp,True.intro⟩
theorem Lr {ds:List Ze} {nf m:Nat} {num:Int} {kids:List Z1} (hn:-2000<=num/\num<=2000) (hl:kids.length=3) (hk:∀e∈kids,eW ds nf m e):eW ds nf m (.mk 7 num kids):=by
 rw [eW]
 refine ⟨by omega,fun h=>by omega,fun h=>by omega,fun _=>hl,fun h=>by omega,fun h=>by omega,hn,by omega,Gz (m:=m) (fun k=>?_) hk⟩
 rw [Tf,Za om,Za om]
theorem Ls {ds:List Ze} {nf m:Nat} {num:Int} {a b:Z1} (hn:-2000<=num/\num<=2000) (ha:eW ds nf m a) (hb:eW ds nf (m+1) b):eW ds nf m (.mk 13 num [a,b]):=by
 rw [eW]
 exact ⟨by omega,fun h=>by omega,fun _=>rfl,fun h=>by omega,fun h=>by omega,fun h=>by omega,hn,by simp,ha,hb,True.intro⟩
theorem Gy {ds:List Ze} {nf m:Nat} {num:Int} {a:Z1} {arms:List Z1} (hn:-2000<=num/\num<=2000) (h3:arms.length<=3) (hl:arms.length=(ZT ds num).length) (ha:eW ds nf m a) (hk:TY ds nf (Tf ds 8 num m) 1 arms):eW ds nf m (.mk 8 num (a::arms)):=by
 rw [eW]
 refine ⟨by omega,fun h=>by omega,fun h=>by omega,fun h=>by omega,fun _=>by rw [YL];omega,fun h=>by omega,hn,by rw [YL];omega,?_,hk⟩
 rw [Tf,Za om,Zm rfl,Zm rfl]
 exact ha
def bS (b:Nat):Nat:=max 4 (10*b-10)
def bC (b:Nat):Nat:=max 40 (100*b-100)
def YN:List Z4->Nat
 | []=>0
 | s::r=>(if Yd s.op=true then 0 else 1)+YN r
theorem Kb:∀xs ys:List Z4,YN (xs++ys)=YN xs+YN ys
 | [],ys=>by simp [YN]
 | x::r,ys=>by rw [Qh,YN,YN,Kb r];omega
theorem AT:∀xs:List Z4,YN xs<=xs.length
 | []=>YT _
 | x::r=>by have:=AT r;rw [YN,YL];split<;>omega
def Uz (ds:List Ze) (op num:Int) (m:Nat) (k:Nat):Nat:=if op=8 then m+(ZQ ds (gI (ZT ds num) k)).length else m
mutual
def fS (ds:List Ze) (nf:Nat):Nat->Z4->Prop
 | m,.mk op num into args kids=>((0<=op/\op<=11)∨(14<=op/\op<=17))/\(∀a∈args,0<=a/\a<m)/\(14<=op->num=0/\into=0/\kids=[]/\∃a,args=[a])/\(op=7->kids.length=2)/\(op=8->kids.length=(ZT ds num).length)/\(op=7∨op=8->∃a,args=[a]) /\
  (op=9->0<=num/\num<nf)/\(-2000<=num/\num<=2000)/\(0<=into/\into<=m)/\args.length<=4/\(op≠7/\op≠8->kids=[])/\T5 ds nf (Uz ds op num m) 0 kids
def T5 (ds:List Ze) (nf:Nat) (sc:Nat->Nat):Nat->List Z5->Prop
 | _,[]=>True
 | k,b::r=>fB ds nf (sc k) b/\T5 ds nf sc (k+1) r
def UI (ds:List Ze) (nf:Nat):Nat->List Z4->Prop
 | _,[]=>True
 | m,s::r=>fS ds nf m s/\UI ds nf (if Yd s.op=true then m else m+1) r
def fB (ds:List Ze) (nf:Nat):Nat->Z5->Prop
 | m,.mk steps result=>UI ds nf m steps/\0<=result/\result<(m+YN steps:Nat)
end
section
variable {ds:List Ze} {nf:Nat}
structure FS (ds:List Ze) (nf m:Nat) (s:Z4):Prop where
 op:(0<=s.op/\s.op<=11)∨(14<=s.op/\s.op<=17)
 args:∀a∈s.args,0<=a/\a<m
 cnt:14<=s.op->s.num=0/\s.into=0/\s.kids=[]/\∃a,s.args=[a]
 k7:s.op=7->s.kids.length=2
 k8:s.op=8->s.kids.length=(ZT ds s.num).length
 one:s.op=7∨s.op=8->∃a,s.args=[a]
 call:s.op=9->0<=s.num/\s.num<nf
 num:-2000<=s.num/\s.num<=2000
 into:0<=s.into/\s.into<=m
 alen:s.args.length<=4
 kn:s.op≠7/\s.op≠8->s.kids=[]
 kids:T5 ds nf (Uz ds s.op s.num m) 0 s.kids
theorem E9 {m:Nat} (s:Z4):fS ds nf m s↔FS ds nf m s:=by
 cases s
 rw [fS]
 exact ⟨fun ⟨h1,h2,h3,h4,h5,h6,h7,h8,h9,h10,h11,h12⟩=>⟨h1,h2,h3,h4,h5,h6,h7,h8,h9,h10,h11,h12⟩,fun h=>⟨h.op,h.args,h.cnt,h.k7,h.k8,h.one,h.call,h.num,h.into,h.alen,h.kn,h.kids⟩⟩
theorem CD {m:Nat} (b:Z5):fB ds nf m b↔UI ds nf m b.steps/\0<=b.result/\b.result<(m+YN b.steps:Nat):=by cases b;rw [fB];rfl
theorem CE {sc:Nat->Nat}:∀{xs:List Z5} {j k:Nat} {b:Z5},T5 ds nf sc j xs->xs[k]? = some b->fB ds nf (sc (j+k)) b
 | [],j,k,b,_,h=>by simp at h
 | x::r,j,0,b,hw,h=>by simp at h;subst h;exact hw.1
 | x::r,j,k+1,b,hw,h=>by
  have:=CE (xs:=r) (j:=j+1) (k:=k) hw.2 (by simpa using h)
  rw [show j+(k+1)=j+1+k by omega];exact this
theorem LA {sc:Nat->Nat}:∀{xs ys:List Z5} {j:Nat},T5 ds nf sc j (xs++ys)↔T5 ds nf sc j xs/\T5 ds nf sc (j+xs.length) ys
 | [],ys,j=>by simp [T5]
 | x::r,ys,j=>by
  rw [Qh,T5,T5,LA (xs:=r),and_assoc,YL,show j+1+r.length=j+(r.length+1) by omega]
theorem LD {sc:Nat->Nat} {xs:List Z5} {b:Z5} (h:T5 ds nf sc 0 xs) (hb:fB ds nf (sc xs.length) b):T5 ds nf sc 0 (xs++[b]):=
 LA.2 ⟨h,by rw [WM];exact hb,True.intro⟩
theorem BJ:∀{xs ys:List Z4} {m:Nat},UI ds nf m (xs++ys)↔UI ds nf m xs/\UI ds nf (m+YN xs) ys
 | [],ys,m=>by simp [UI,YN]
 | x::r,ys,m=>by
  rw [Qh,UI,UI,BJ (xs:=r),and_assoc,YN]
  by_cases h:Yd x.op=true
  ·rw [Zm h,Zm h,WM]
  ·rw [Za h,Za h,JO]
theorem Ea {xs:List Z4} {s:Z4} {m:Nat} (h:UI ds nf m xs) (hs:fS ds nf (m+YN xs) s):UI ds nf m (xs++[s]):=BJ.2 ⟨h,hs,True.intro⟩
theorem CF:∀{xs:List Z4} {k m:Nat} {s:Z4},UI ds nf m xs->xs[k]? = some s->fS ds nf (m+YN (xs.take k)) s
 | [],k,m,s,_,h=>by simp at h
 | x::r,0,m,s,hw,h=>by simp at h;subst h;exact hw.1
 | x::r,k+1,m,s,hw,h=>by
  have:=CF (xs:=r) (k:=k) hw.2 (by simpa using h)
  rw [Bp,YN]
  by_cases hc:Yd x.op=true
  ·rw [Zm hc] at this ⊢;rw [WM];exact this
  ·rw [Za hc] at this ⊢;rw [<-JO];exact this
mutual
theorem Zc3:∀(s:Z4) {m:Nat},fS ds nf m s->m+4*s.sz<=900000000->W4 ds->wS ds s
 | .mk op num into args kids,m,h,hb,hd=>by
  rw [fS] at h
  obtain ⟨h1,h2,h3,h4,h5,h6,h7,h8,h9,h10,h11,h12⟩:=h
  rw [Z4.sz] at hb
  rw [wS]
  refine ⟨?_,fun hc=>h3 (show 14<=op/\op<=17 by simpa [Yd] using hc).1,fun h8'=>⟨?_,h5 h8'⟩,Pw kids h12 (fun k=>?_) hd⟩
  ·rcases h1 with h1|h1
   ·have e1:Yd op=false:=by simp [Yd];omega
    have e2:XF op=true:=by simp [XF];omega
    rw [e1,e2];rfl
   ·have e1:Yd op=true:=by simp [Yd];omega
    have e2:XF op=false:=by simp [XF];omega
    rw [e1,e2];rfl
  ·obtain ⟨a,ha⟩:=h6 (.inr h8')
   have:=h2 a (by rw [ha];exact XU.2 rfl)
   exact ⟨a,ha,by omega⟩
  ·have hf:=VI hd (gI (ZT ds num) k)
   show Uz ds op num m k+4*YQ kids<=900000003
   rw [Uz];split<;>omega
theorem Pw:∀(bs:List Z5) {sc:Nat->Nat} {k:Nat},T5 ds nf sc k bs->(∀k,sc k+4*YQ bs<=900000003)->W4 ds->JI ds bs
 | [],_,_,_,_,_=>True.intro
 | b::r,sc,k,h,hb,hd=>by
  have hp:=b.sz_eq
  exact ⟨Pv b h.1 (by have:=hb k;rw [YQ] at this;omega) hd,Pw r h.2 (fun j=>by have:=hb j;rw [YQ] at this;omega) hd⟩
theorem Px:∀(xs:List Z4) {m:Nat},UI ds nf m xs->m+4*Yk xs<=900000000->W4 ds->Qg ds xs
 | [],_,_,_,_=>True.intro
 | s::r,m,h,hb,hd=>by
  rw [Yk] at hb
  have hp:=s.sz_pos
  refine ⟨Zc3 s h.1 om hd,Px r h.2 ?_ hd⟩
  split<;>omega
theorem Pv:∀(b:Z5) {m:Nat},fB ds nf m b->m+4*b.sz<=900000004->W4 ds->wB ds b
 | .mk steps result,m,h,hb,hd=>by
  rw [Z5.sz] at hb
  rw [fB] at h
  rw [wB]
  exact Px steps h.1 om hd
end
mutual
theorem Z7o:∀(s:Z4) {m:Nat},fS ds nf m s->s.rng
 | .mk op num into args kids,m,h=>by
  rw [fS] at h
  obtain ⟨h1,h2,h3,h4,h5,h6,h7,h8,h9,h10,h11,h12⟩:=h
  rw [Z4.rng]
  exact ⟨by omega,O7 kids h12⟩
theorem O7:∀(bs:List Z5) {sc:Nat->Nat} {k:Nat},T5 ds nf sc k bs->UT bs
 | [],_,_,_=>True.intro
 | b::r,sc,k,h=>⟨HJ b h.1,O7 r h.2⟩
theorem O8:∀(xs:List Z4) {m:Nat},UI ds nf m xs->Ti xs
 | [],_,_=>True.intro
 | s::r,m,h=>⟨Z7o s h.1,O8 r h.2⟩
theorem HJ:∀(b:Z5) {m:Nat},fB ds nf m b->b.rng
 | .mk steps result,m,h=>by rw [fB] at h;rw [Z5.rng];exact O8 steps h.1
end
end
structure FN (n:Zt) (q:Nat):Prop where
 decls:GD n.decls
 len:1<=n.routines.length/\n.routines.length<=4
 sigs:∀r∈n.routines,(r.params,r.result)∈Kw
 lent:∀r∈n.routines,r.lent.length<=3/\∀i∈r.lent,0<=i/\i<r.params.length
 body:∀r∈n.routines,fB n.decls n.routines.length r.params.length r.body/\r.body.sz<=q
theorem FN.ok {n:Zt} {q:Nat} (h:FN n q):YZ n:=
 ⟨h.decls.ok,h.len.2,fun r hr=>(US.bd (f:=⟨r.params,r.result,default⟩) (h.sigs r hr)).1,fun r hr=>by have:=(h.lent r hr).1;omega⟩
def Pk (n k:Int):Prop:=0<=k/\(0<n->k<n)/\(n<=0->k=0)
theorem Pk.lt {n k:Int} (h:Pk n k) (hn:0<n):0<=k/\k<n:=⟨h.1,h.2.1 hn⟩
theorem Pk.zero {n:Int}:Pk n 0:=⟨Int.le_refl _,fun h=>h,fun _=>rfl⟩
theorem Pk.rem {n a:Int} (ha:0<=a) (hn:0<n):Pk n (a % n):=⟨Int.emod_nonneg _ om,fun _=>Int.emod_lt_of_pos _ hn,fun _=>by omega⟩
def AD (ds:List Ze):Prop:=ds.length<=8/\∀d∈ds,d.cons.length<=4/\∀c∈d.cons,c.fields.length<=4
theorem GD.ad {ds:List Ze} (h:GD ds):AD ds:=(by decide:∀ds∈Jt,ds.length<=8/\∀d∈ds,d.cons.length<=4/\∀c∈d.cons,c.fields.length<=4) ds h
theorem AD.set {ds:List Ze} (h:AD ds) (k:Nat) {d:Ze} (hd:d.cons.length<=4/\∀c∈d.cons,c.fields.length<=4):AD (ds.set k d):=
 ⟨by rw [T1];exact h.1,fun x hx=>(List.mem_or_eq_of_mem_set hx).elim (h.2 x) fun e=>by rw [e];exact hd⟩
theorem AD.app {ds es:List Ze} (h:AD ds) (hl:ds.length+es.length<=8) (hd:∀d∈es,d.cons.length<=4/\∀c∈d.cons,c.fields.length<=4):AD (ds++es):=
 ⟨by rw [Ym];exact hl,fun x hx=>(X1.1 hx).elim (h.2 x) (hd x)⟩
theorem GD.three:GD [Jg,⟨0,0,[]⟩,Jh]:=List.Mem.head _
theorem GD.four:∀{k:Nat} {x:Ze},Lh[k]? = some x->GD ([Jg,⟨0,0,[]⟩,Jh]++[x])
 | 0,x,h=>by cases h;exact .tail _ (.head _)
 | 1,x,h=>by cases h;exact .tail _ (.tail _ (.head _))
 | 2,x,h=>by cases h;exact .tail _ (.tail _ (.tail _ (.head _)))
 | 3,x,h=>by cases h;exact .tail _ (.tail _ (.tail _ (.tail _ (.head _))))
 | k+4,x,h=>by simp [Lh] at h
theorem Am {l:LI} {z a b:Int} (h:z∈l) (hl:l.all (fun x=>decide (a<=x/\x<=b))=true):a<=z/\z<=b:=by
 have:=Ks.1 hl z h
 exact of_decide_eq_true this
def rk (t:Int):Nat:=if QR t then 0 else 1
theorem HI (t:Int):rk t<=1:=by rw [rk];split<;>omega
theorem O6 {t:Int} (h:QR t):rk t=0:=Zm h
def SE (g:XJ) (q:Nat) (e:Z1):Prop:=(∀m,eW g.decls g.funcs.length m e)/\e.sz<=q
def GE (g:XJ) (m q:Nat) (e:Z1):Prop:=eW g.decls g.funcs.length m e/\e.sz<=q
theorem SE.ge {g:XJ} {q q' m:Nat} {e:Z1} (h:SE g q e) (hq:q<=q'):GE g m q' e:=⟨h.1 m,WL h.2 hq⟩
theorem GE.le {g:XJ} {m q q':Nat} {e:Z1} (h:GE g m q e) (hq:q<=q'):GE g m q' e:=⟨h.1,WL h.2 hq⟩
theorem E8 {m:Nat}:∀{xs:List Z1},(∀e∈xs,e.sz<=m)->Xc xs<=xs.length*m
 | [],_=>K6 _
 | x::r,h=>by
  have h1:=h x (X4 ..)
  have h2:=E8 (xs:=r) fun e he=>h e (Xp _ he)
  rw [Xc,YL,TB];omega
theorem Xe {α:Type} {p:α->Prop} {xs:List α} {a:α} (h:∀x∈xs,p x) (ha:p a):∀x∈xs++[a],p x:=fun x hx=>(X1.1 hx).elim (h x) fun q=>by rw [XU.1 q];exact ha
theorem SE.int {g:XJ} {z:Int} {q:Nat} (hz:-2000<=z/\z<=2000) (hq:1<=q):SE g q (.mk 0 z []):=⟨fun _=>SM hz,by simpa [Z1.sz,Xc] using hq⟩
theorem SE.node {g:XJ} {op num:Int} {ys:List Z1} {q k:Nat} (ho:op=6∨op=10) (hn:0<=num/\num<=2000) (hy:∀e∈ys,SE g 1 e) (hl:ys.length<=k) (hk:k<=3) (hq:1+k<=q):SE g q (.mk op num ys):=by
 refine ⟨fun m=>AW om (fun h=>by omega) om om fun e he=>(hy e he).1 m,?_⟩
 have:=E8 (xs:=ys) (m:=1) fun e he=>(hy e he).2
 rw [Z1.sz];omega
def JU (ds:List Ze) (t c:Int):Prop:=(0<=c/\c<=9)/\(ZQ ds c).length<=3*rk t/\∀u∈ZQ ds c,QR u
instance (ds:List Ze) (t c:Int):Decidable (JU ds t c):=inferInstanceAs (Decidable (_/\_/\_))
theorem Ov {ds:List Ze} (h:GD ds):∀t∈[(1:Int),2,3,4],∀c∈ZT ds t,(t∈ZQ ds c->∀c0,(ZT ds t)[0]? = some c0->JU ds t c0)/\(¬t∈ZQ ds c->JU ds t c):=by
 intro t ht c hc
 have k1:=(by decide:∀ds∈Jt,∀t∈[(1:Int),2,3,4],∀c∈ZT ds t,(t∈ZQ ds c->JU ds t (gI (ZT ds t) 0))/\(¬t∈ZQ ds c->JU ds t c)) ds h t ht c hc
 refine ⟨fun q c0 h0=>?_,k1.2⟩
 have:=k1.1 q
 rwa [UW (i:=0) h0] at this
theorem Le {ds:List Ze} (h:GD ds) {t c:Int} (hc:c∈ZT ds t):t∈[(1:Int),2,3,4]:=by
 obtain ⟨_,h2,_⟩:=h.cons_cases hc
 rcases h2 with rfl|rfl|rfl<;>simp
theorem Z8u {ds:List Ze} (h:GD ds) {t c c0:Int} (hc:c∈ZT ds t) (ht:t∈ZQ ds c) (h0:(ZT ds t)[0]? = some c0):JU ds t c0:=(Ov h t (Le h hc) c hc).1 ht c0 h0
theorem Z8t {ds:List Ze} (h:GD ds) {t c:Int} (hc:c∈ZT ds t) (ht:¬t∈ZQ ds c):JU ds t c:=(Ov h t (Le h hc) c hc).2 ht
theorem Z7n {ds:List Ze} (h:GD ds) {t:Int} (h0:(ZT ds t).length=0) (ht:0<t):rk t=1:=by
 rw [rk,Za]
 rintro (q|q|q)
 ·omega
 ·rw [q,h.low.2.1] at h0;cases h0
 ·rw [q,h.low.2.2.2.1] at h0;cases h0
def J7 (g:XJ) (t i:Int):Prop:=0<=i/\∃f,g.funcs[i.toNat]? = some f/\0<f.params.length/\VH g.decls (gI f.params ((f.params.length:Int)-1)) f.result=t
theorem J7.lt {g:XJ} {t i:Int} (h:J7 g t i):0<=i/\i<g.funcs.length:=by
 obtain ⟨h1,f,h2,_⟩:=h
 have:=(XC.1 h2).1
 omega
theorem J7.mk {g:XJ} {t x2:Int} {k:Nat} {f:Func} (hf:g.funcs[k]? = some f) (hl:0<f.params.length) (hx:f.params[f.params.length-1]? = some x2) (ha:VH g.decls x2 f.result=t):J7 g t (k:Int):=by
 refine ⟨by omega,f,by simpa using hf,hl,?_⟩
 rw [UW (i:=(f.params.length:Int)-1) (by rw [show ((f.params.length:Int)-1).toNat=f.params.length-1 by omega];exact hx)]
 exact ha
theorem J7.low {g:XJ} {t i u:Int} {f:Func} {j:Nat} (hg:GP g) (h:J7 g t i) (ht:0<t) (hf:g.funcs[i.toNat]? = some f) (hj:j+1<f.params.length) (hu:f.params[j]? = some u):rk u=0:=by
 obtain ⟨_,f',h2,_,h4⟩:=h
 have e:f'=f:=JP (h2.symm.trans hf)
 subst e
 have h5:=(hg.sigs f' (ZY hf)).clo hg.decls (by rw [h4];exact ht)
 refine O6 (h5 u ?_)
 rw [List.dropLast_eq_take]
 exact ZY (i:=j) (by rw [List.getElem?_take_of_lt om];exact hu)
end Go.Abs
section
namespace Go.Abs
theorem KA (b:Nat):bS b=max 4 (10*b-10):=rfl
theorem Kz (b:Nat):bC b=max 40 (100*b-100):=rfl
theorem D7 {L q b:Nat} (hL:L<=3) (hb:3<=b) (hq:L*q<=b-1):1+L*bS q<=bS b:=by
 rw [KA,KA]
 have:L=0∨L=1∨L=2∨L=3:=by omega
 rcases this with rfl|rfl|rfl|rfl<;>omega
theorem Z5l {L q b:Nat} (hL:L<=3) (hb:3<=b) (hq:L*q<=b-2):5+L*bS q<=bS b:=by
 rw [KA,KA]
 have:L=0∨L=1∨L=2∨L=3:=by omega
 rcases this with rfl|rfl|rfl|rfl<;>omega
theorem Z5d {b:Nat} (hb:3<=b):1+(bS (b / 2)+bS (b / 2))<=bS b:=by rw [KA,KA];omega
theorem PZ {b:Nat} (hb:3<=b):5+bS (b-2)<=bS b:=by rw [KA,KA];omega
theorem JC {L q b:Nat} (hL:L<=3) (hb:3<=b) (hq:L*q<=b-1):10+L*bC q<=bC b:=by
 rw [Kz,Kz]
 have:L=0∨L=1∨L=2∨L=3:=by omega
 rcases this with rfl|rfl|rfl|rfl<;>omega
theorem Z5k {L q b:Nat} (hL:L<=3) (hb:3<=b) (hq:L*q<=b-2):40+L*bC q<=bC b:=by
 rw [Kz,Kz]
 have:L=0∨L=1∨L=2∨L=3:=by omega
 rcases this with rfl|rfl|rfl|rfl<;>omega
theorem Z5c {b:Nat} (hb:3<=b):10+(bC (b / 2)+bC (b / 2))<=bC b:=by rw [Kz,Kz];omega
theorem PY {b:Nat} (hb:3<=b):40+bC (b-2)<=bC b:=by rw [Kz,Kz];omega
theorem IR (b:Nat):4<=bS b:=by rw [KA];omega
theorem IQ (b:Nat):40<=bC b:=by rw [Kz];omega
theorem Tn (L b:Nat):L*(b / L)<=b:=Nat.mul_div_le b L
theorem N7 {k L C:Nat} (h:k<L):(k+1)*C=k*C+C/\(k+1)*C<=L*C:=⟨by rw [TB,Nat.one_mul],TS C h⟩
theorem Ca {ds:List Ze} {d x:Int} {m k:Nat} (h:(ZT ds d)[k]? = some x):Tf ds 8 d m (1+k)=m+(ZQ ds x).length:=by
 rw [Tf,Za om,Zm rfl,Za om,UW (i:=((1+k:Nat):Int)-1) (by rw [show (((1+k:Nat):Int)-1).toNat=k by omega];exact h)]
section
variable {g:XJ} {m:Nat}
theorem GE.var {z:Int} {q:Nat} (hz:0<=z/\z<m) (hm:m<=2000) (hq:1<=q):GE g m q (.mk 12 z []):=⟨SN hz hm,by simpa [Z1.sz,Xc] using hq⟩
theorem GE.list {ys:List Z1} {L s:Nat} (h:∀e∈ys,GE g m s e) (hl:ys.length=L):Xc ys<=L*s:=by rw [<-hl];exact E8 fun e he=>(h e he).2
theorem GE.node {op num:Int} {ys:List Z1} {L s q:Nat} (ho:0<=op/\op<=11/\op≠7/\op≠8) (hc:op=9->0<=num/\num<g.funcs.length) (hn:-2000<=num/\num<=2000) (h:∀e∈ys,GE g m s e) (hl:ys.length=L) (hL:L<=3) (hq:1+L*s<=q):GE g m q (.mk op num ys):=by
 have:=GE.list h hl
 exact ⟨AW ho hc hn om fun e he=>(h e he).1,by rw [Z1.sz];omega⟩
theorem GE.if_ {num:Int} {ys:List Z1} {s q:Nat} (hn:-2000<=num/\num<=2000) (h:∀e∈ys,GE g m s e) (hl:ys.length=3) (hq:1+3*s<=q):GE g m q (.mk 7 num ys):=by
 have:=GE.list h hl
 exact ⟨Lr hn hl fun e he=>(h e he).1,by rw [Z1.sz];omega⟩
theorem GE.let_ {a b:Z1} {s q:Nat} (ha:GE g m s a) (hb:GE g (m+1) s b) (hq:1+(s+s)<=q):GE g m q (.mk 13 0 [a,b]):=by
 refine ⟨Ls om ha.1 hb.1,?_⟩
 have h1:=ha.2
 have h2:=hb.2
 simp only [Z1.sz,Xc];omega
theorem GE.two {op num:Int} {a b:Z1} {s1 s2 q:Nat} (ho:0<=op/\op<=11/\op≠7/\op≠8/\op≠9) (hn:-2000<=num/\num<=2000) (ha:GE g m s1 a) (hb:GE g m s2 b) (hq:1+(s1+s2)<=q):GE g m q (.mk op num [a,b]):=by
 refine ⟨AW om (fun h=>by omega) hn (by simp) fun e he=>?_,?_⟩
 ·rcases YD.1 he with rfl|he
  ·exact ha.1
  ·rw [XU.1 he];exact hb.1
 ·have h1:=ha.2
  have h2:=hb.2
  simp only [Z1.sz,Xc];omega
theorem GE.match_ {d:Int} {e:Z1} {ys:List Z1} {L s q:Nat} (hd:-2000<=d/\d<=2000) (he:GE g m 4 e) (hw:TY g.decls g.funcs.length (Tf g.decls 8 d m) 1 ys) (hs:∀e∈ys,e.sz<=s) (hl:ys.length=L) (hL:L=(ZT g.decls d).length) (h3:L<=3) (hq:5+L*s<=q):GE g m q (.mk 8 d (e::ys)):=by
 refine ⟨Gy hd om om he.1 hw,?_⟩
 have h1:=E8 hs
 rw [hl] at h1
 have h2:=he.2
 rw [Z1.sz,Xc];omega
end
def NL (s:Nat) (left w:Int):Prop:=((s:Int)<=left/\w=left-s)∨(left<s/\w=-1)
end Go.Abs
namespace Go.Abs
theorem Ba {L b p pp M:Nat} (hL:L<=3) (hb:3<=b) (h:pp<=p+8) (hp:p+(bC b-1)<=M):pp+L*bC ((b-1) / L)<=M:=by
 have:=JC hL hb (Tn L (b-1))
 omega
end Go.Abs
end
namespace Go.Abs
theorem SW (a b:Z1):Xc [a,b]=a.sz+b.sz:=by simp only [Xc];omega
theorem E7 (a b c:Z1):Xc [a,b,c]=a.sz+b.sz+c.sz:=by simp only [Xc];omega
theorem Cp:bS 3=20/\bS 4=30/\bS 12=110/\bS 16=150/\bS 18=170/\bC 3=200/\bC 4=300/\bC 16=1500:=by decide
theorem DL {b:Nat} (h:b<=20):bS b<=190/\bC b<=1900/\(b<=2->bS b<=10):=by rw [KA,Kz];omega
section
variable {g:XJ} {m:Nat}
theorem SE.ofs {op num:Int} {ys:List Z1} {q:Nat} (ho:0<=op/\op<=11/\op≠7/\op≠8/\op≠9) (hn:-2000<=num/\num<=2000) (hl:ys.length<=4) (hy:∀e∈ys,∃s,SE g s e) (hq:1+Xc ys<=q):SE g q (.mk op num ys):=
 ⟨fun m=>AW om (fun h=>by omega) hn hl fun e he=>let ⟨_,h⟩:=hy e he;h.1 m,by rw [Z1.sz];exact hq⟩
theorem SE.nil {op num:Int} {q:Nat} (ho:0<=op/\op<=11/\op≠7/\op≠8/\op≠9) (hn:-2000<=num/\num<=2000) (hq:1<=q):SE g q (.mk op num []):=
 SE.ofs ho hn (by simp) (fun e he=>by cases he) (by simpa [Xc] using hq)
theorem SE.two {op num:Int} {a b:Z1} {s1 s2 q:Nat} (ho:0<=op/\op<=11/\op≠7/\op≠8/\op≠9) (hn:-2000<=num/\num<=2000) (ha:SE g s1 a) (hb:SE g s2 b) (hq:1+(s1+s2)<=q):SE g q (.mk op num [a,b]):=by
 refine SE.ofs ho hn (by simp) (fun e he=>?_) ?_
 ·rcases YD.1 he with rfl|he
  ·exact ⟨_,ha⟩
  ·rw [XU.1 he];exact ⟨_,hb⟩
 ·have h1:=ha.2
  have h2:=hb.2
  rw [SW];omega
theorem SE.three {op num:Int} {a b c:Z1} {s1 s2 s3 q:Nat} (ho:0<=op/\op<=11/\op≠7/\op≠8/\op≠9) (hn:-2000<=num/\num<=2000) (ha:SE g s1 a) (hb:SE g s2 b) (hc:SE g s3 c) (hq:1+(s1+s2+s3)<=q):SE g q (.mk op num [a,b,c]):=by
 refine SE.ofs ho hn (by simp) (fun e he=>?_) ?_
 ·rcases YD.1 he with rfl|he
  ·exact ⟨_,ha⟩
  ·rcases YD.1 he with rfl|he
   ·exact ⟨_,hb⟩
   ·rw [XU.1 he];exact ⟨_,hc⟩
 ·have h1:=ha.2
  have h2:=hb.2
  have h3:=hc.2
  rw [E7];omega
theorem GE.int {z:Int} {q:Nat} (hz:-2000<=z/\z<=2000) (hq:1<=q):GE g m q (.mk 0 z []):=(SE.int (g:=g) (q:=q) hz hq).ge (YT _)
theorem GE.three {op num:Int} {a b c:Z1} {s1 s2 s3 q:Nat} (ho:0<=op/\op<=11/\op≠8/\op≠9) (hn:-2000<=num/\num<=2000) (ha:GE g m s1 a) (hb:GE g m s2 b) (hc:GE g m s3 c) (hq:1+(s1+s2+s3)<=q):GE g m q (.mk op num [a,b,c]):=by
 have hk:∀e∈[a,b,c],eW g.decls g.funcs.length m e:=fun e he=>by
  rcases YD.1 he with rfl|he
  ·exact ha.1
  ·rcases YD.1 he with rfl|he
   ·exact hb.1
   ·rw [XU.1 he];exact hc.1
 refine ⟨?_,?_⟩
 ·by_cases h7:op=7
  ·subst h7;exact Lr hn rfl hk
  ·exact AW om (fun h=>by omega) hn (by simp) hk
 ·have h1:=ha.2
  have h2:=hb.2
  have h3:=hc.2
  rw [Z1.sz,E7];omega
theorem GE.one {op num:Int} {a:Z1} {s1 q:Nat} (ho:0<=op/\op<=11/\op≠7/\op≠8/\op≠9) (hn:-2000<=num/\num<=2000) (ha:GE g m s1 a) (hq:1+s1<=q):GE g m q (.mk op num [a]):=by
 refine ⟨AW om (fun h=>by omega) hn (by simp) fun e he=>?_,?_⟩
 ·rw [XU.1 he];exact ha.1
 ·have h1:=ha.2
  simp only [Z1.sz,Xc];omega
theorem GE.letS {a b:Z1} {s1 s2 q:Nat} (ha:GE g m s1 a) (hb:GE g (m+1) s2 b) (hq:1+(s1+s2)<=q):GE g m q (.mk 13 0 [a,b]):=by
 refine ⟨Ls om ha.1 hb.1,?_⟩
 have h1:=ha.2
 have h2:=hb.2
 simp only [Z1.sz,Xc];omega
theorem GE.matchL (hg:GP g) {e a b:Z1} {s1 s2 s3 q:Nat} (he:GE g m s1 e) (ha:GE g m s2 a) (hb:GE g (m+2) s3 b) (hq:1+(s1+s2+s3)<=q):GE g m q (.mk 8 1 [e,a,b]):=by
 have hl:=hg.decls.low
 refine ⟨Gy om (by simp) (by rw [hl.2.1];rfl) he.1 ⟨?_,?_,True.intro⟩,?_⟩
 ·rw [Ca (k:=0) (x:=0) (by rw [hl.2.1];rfl),hl.2.2.2.2.1];exact ha.1
 ·rw [Ca (k:=1) (x:=1) (by rw [hl.2.1];rfl),hl.2.2.2.2.2.1];exact hb.1
 ·have h1:=he.2
  have h2:=ha.2
  have h3:=hb.2
  rw [Z1.sz,E7];omega
theorem GE.matchT (hg:GP g) {e a b:Z1} {s1 s2 s3 q:Nat} (he:GE g m s1 e) (ha:GE g m s2 a) (hb:GE g (m+3) s3 b) (hq:1+(s1+s2+s3)<=q):GE g m q (.mk 8 3 [e,a,b]):=by
 have hl:=hg.decls.low
 refine ⟨Gy om (by simp) (by rw [hl.2.2.2.1];rfl) he.1 ⟨?_,?_,True.intro⟩,?_⟩
 ·rw [Ca (k:=0) (x:=2) (by rw [hl.2.2.2.1];rfl),hl.2.2.2.2.2.2.1];exact ha.1
 ·rw [Ca (k:=1) (x:=3) (by rw [hl.2.2.2.1];rfl),hl.2.2.2.2.2.2.2];exact hb.1
 ·have h1:=he.2
  have h2:=ha.2
  have h3:=hb.2
  rw [Z1.sz,E7];omega
theorem FY {α:Type} {p:α->Prop} {a:α} (h:p a):∀x∈[a],p x:=fun x hx=>by rw [XU.1 hx];exact h
end
structure FK (g:XJ):Prop where
 gp:GP g
 body:∀f∈g.funcs,eW g.decls g.funcs.length f.params.length f.body/\f.body.sz<=30
structure GL (ds:List Ze) (k j:Nat) (rq:List Func):Prop where
 len:rq.length=4
 sigs:∀f∈rq,US f
 zero:∀f,rq[0]? = some f->f.params.length=0
 body:∀i f,j<=i->i<k->rq[i]? = some f->eW ds k f.params.length f.body/\f.body.sz<=30
theorem GL.gp {ds:List Ze} {k j:Nat} {rq:List Func} (h:GL ds k j rq) (hd:GD ds) (hk:1<=k/\k<=4):GP ⟨ds,rq.take k⟩:=
 ⟨hd,by show 1<=(rq.take k).length/\_;rw [Wn,h.len];omega,fun f hf=>h.sigs f (TR hf)⟩
theorem GL.len_take {ds:List Ze} {k j:Nat} {rq:List Func} (h:GL ds k j rq) (hk:k<=4):(rq.take k).length=k:=by rw [Wn,h.len];omega
theorem GL.set {ds:List Ze} {k j:Nat} {rq:List Func} {f:Func} {e:Z1} (h:GL ds k j rq) (hj:1<=j) (hf:rq[j-1]? = some f) (he:eW ds k f.params.length e/\e.sz<=30):GL ds k (j-1) (rq.set (j-1) ⟨f.params,f.result,e⟩):=by
 have hl:=(XC.1 hf).1
 refine ⟨by rw [T1];exact h.len,fun x hx=>?_,fun x hx=>?_,fun i x h1 h2 hx=>?_⟩
 ·rcases List.mem_or_eq_of_mem_set hx with hx|rfl
  ·exact h.sigs x hx
  ·exact h.sigs f (ZY hf)
 ·rw [List.getElem?_set] at hx
  split at hx
  ·rename_i h0
   cases hx
   exact h.zero f (by rw [<-h0];exact hf)
  ·exact h.zero x hx
 ·rw [List.getElem?_set] at hx
  split at hx
  ·cases hx
   exact he
  ·exact h.body i x om h2 hx
theorem GL.done {ds:List Ze} {k:Nat} {rq:List Func} (h:GL ds k 0 rq) (hd:GD ds) (hk:1<=k/\k<=4):FK ⟨ds,rq.take k⟩:=by
 refine ⟨h.gp hd hk,fun f hf=>?_⟩
 show eW ds (rq.take k).length _ _/\_
 rw [h.len_take hk.2]
 obtain ⟨i,hi⟩:=List.getElem?_of_mem hf
 have hi2:i<(rq.take k).length:=(XC.1 hi).1
 rw [h.len_take hk.2] at hi2
 rw [List.getElem?_take_of_lt hi2] at hi
 exact h.body i f om hi2 hi
theorem HX {l:List Func} {f:Func} {k:Nat} (h:l[k]? = some f) (hl:l.all (fun f=>decide ((f.params,f.result)∈Kw))=true):US f:=show (f.params,f.result)∈Kw from of_decide_eq_true (Ks.1 hl f (ZY h))
theorem GL.start {ds:List Ze} {k:Nat} {e:Z1} {a b c:Func} (ha:US a) (hb:US b) (hc:US c):GL ds k k [⟨[],0,e⟩,a,b,c]:=by
 refine ⟨rfl,fun f hf=>?_,fun f hf=>?_,fun i f h1 h2=>by omega⟩
 ·rcases YD.1 hf with rfl|hf
  ·exact List.Mem.head _
  ·rcases YD.1 hf with rfl|hf
   ·exact ha
   ·rcases YD.1 hf with rfl|hf
    ·exact hb
    ·rw [XU.1 hf];exact hc
 ·cases hf;rfl
theorem Z60 {l:LI} {k:Nat} {a b:Nat} (h:(k:Int)∈l) (hl:l.all (fun x=>decide ((a:Int)<=x/\x<=b))=true):a<=k/\k<=b:=by
 have:=of_decide_eq_true (Ks.1 hl _ h)
 omega
mutual
def Q9 (p:Int->Prop):Z4->Prop
 | .mk op _ _ _ kids=>p op/\Q8 p kids
def Q8 (p:Int->Prop):List Z5->Prop
 | []=>True
 | b::r=>WS p b/\Q8 p r
def Tc (p:Int->Prop):List Z4->Prop
 | []=>True
 | s::r=>Q9 p s/\Tc p r
def WS (p:Int->Prop):Z5->Prop
 | .mk steps _=>Tc p steps
end
section
variable {p q:Int->Prop}
theorem Dd (s:Z4):Q9 p s↔p s.op/\Q8 p s.kids:=by cases s;rw [Q9];rfl
theorem EW (b:Z5):WS p b↔Tc p b.steps:=by cases b;rw [WS];rfl
theorem C3:∀{xs:List Z5},Q8 p xs↔∀b∈xs,WS p b
 | []=>by simp [Q8]
 | b::r=>by rw [Q8,C3];simp
theorem Bd:∀{xs:List Z4},Tc p xs↔∀b∈xs,Q9 p b
 | []=>by simp [Tc]
 | b::r=>by rw [Tc,Bd];simp
theorem EX {xs ys:List Z4}:Tc p (xs++ys)↔Tc p xs/\Tc p ys:=by simp only [Bd,X1];exact ⟨fun h=>⟨fun b hb=>h b (.inl hb),fun b hb=>h b (.inr hb)⟩,fun h b hb=>hb.elim (h.1 b) (h.2 b)⟩
theorem Nn {xs:List Z5} {b:Z5} (h:Q8 p xs) (hb:WS p b):Q8 p (xs++[b]):=C3.2 (Xe (C3.1 h) hb)
theorem EY {xs:List Z4} {b:Z4} (h:Tc p xs) (hb:Q9 p b):Tc p (xs++[b]):=Bd.2 (Xe (Bd.1 h) hb)
end
def Wh (op:Int):Prop:=op<=11
def V4 (op:Int):Prop:=op<=15
end Go.Abs
section
namespace Go.Abs
structure LW (ds:List Ze) (nf q:Nat) (e:Z1) (ys:List Z4) (v:Int):Prop where
 fs:UI ds nf q ys
 v:0<=v/\v<(q+YN ys:Nat)
 sz:Yk ys<=6*e.sz
 op:Tc Wh ys
theorem LW.dn {ds:List Ze} {nf q:Nat} {e:Z1} {ys:List Z4} {v:Int} (h:LW ds nf q e ys v):YN ys<=6*e.sz/\ys.length<=6*e.sz:=by
 have h1:=AT ys
 have h2:=Kk ys
 have h3:=h.sz
 omega
structure LB (ds:List Ze) (nf q:Nat) (e:Z1) (b:Z5):Prop where
 fb:fB ds nf q b
 sz:b.sz<=1+6*e.sz
 op:WS Wh b
section
variable {ds:List Ze} {nf q:Nat}
theorem Cq:∀xs ys:List Z5,YQ (xs++ys)=YQ xs+YQ ys
 | [],ys=>by simp [YQ]
 | x::r,ys=>by rw [Qh,YQ,YQ,Cq r];omega
theorem LW.block {e:Z1} {ys:List Z4} {v:Int} (h:LW ds nf q e ys v):LB ds nf q e ⟨ys,v⟩:=
 ⟨by rw [fB];exact ⟨h.fs,h.v⟩,by rw [Z5.sz];have:=h.sz;omega,by rw [WS];exact h.op⟩
theorem LW.var {e:Z1} {v:Int} (hv:0<=v/\v<q):LW ds nf q e [] v:=⟨True.intro,by simpa [YN] using hv,by simp [Yk],True.intro⟩
theorem LW.let_ {e a b:Z1} {ys zs:List Z4} {v1 v2:Int} (ha:LW ds nf q a ys v1) (hb:LW ds nf (q+YN ys) b zs v2) (he:a.sz+b.sz<e.sz):LW ds nf q e (ys++zs) v2:=by
 refine ⟨BJ.2 ⟨ha.fs,hb.fs⟩,by rw [Kb,<-JO];exact hb.v,?_,EX.2 ⟨ha.op,hb.op⟩⟩
 have h1:=ha.sz
 have h2:=hb.sz
 rw [UP];omega
theorem Cv {ys:List Z4} {s:Z4} (h:Yd s.op=false):YN (ys++[s])=YN ys+1:=by
 rw [Kb]
 simp [YN,h]
theorem LW.node {e:Z1} {ys:List Z4} {as1:LI} (ho:0<=e.op/\e.op<=11/\e.op≠7/\e.op≠8) (hc:e.op=9->0<=e.num/\e.num<nf) (hn:-2000<=e.num/\e.num<=2000) (hf:UI ds nf q ys) (ha:∀a∈as1,0<=a/\a<(q+YN ys:Nat)) (hl:as1.length<=4) (hs:Yk ys<=6*Xc e.kids) (hop:Tc Wh ys) :
  LW ds nf q e (ys++[⟨e.op,e.num,0,as1,[]⟩]) ((q+YN ys:Nat):Int):=by
 have hcb:Yd e.op=false:=by simp [Yd];omega
 refine ⟨Ea hf ?_,?_,?_,EY hop (by rw [Q9];exact ⟨by show e.op<=11;omega,True.intro⟩)⟩
 ·rw [fS]
  exact ⟨.inl ⟨by omega,by omega⟩,ha,fun h=>by omega,fun h=>by omega,fun h=>by omega,fun h=>by omega,hc,hn,by omega,hl,fun _=>rfl,True.intro⟩
 ·rw [Cv (show Yd (Z4.mk e.op e.num 0 as1 []).op=false from hcb)];omega
 ·rw [UP,e.sz_eq]
  simp only [Yk,Z4.sz,YQ]
  omega
theorem LW.branch {e:Z1} {ys:List Z4} {v:Int} {bs:List Z5} {s0 sr:Nat} (ho:e.op=7∨e.op=8) (h7:e.op=7->bs.length=2) (h8:e.op=8->bs.length=(ZT ds e.num).length) (hn:-2000<=e.num/\e.num<=2000) (hf:UI ds nf q ys) (hv:0<=v/\v<(q+YN ys:Nat))
  (hb:T5 ds nf (Uz ds e.op e.num (q+YN ys)) 0 bs) (hl:bs.length<=3) (h0:Yk ys<=6*s0) (h1:YQ bs<=bs.length+6*sr) (hs:s0+sr<=Xc e.kids) (hop:Tc Wh ys) (hob:Q8 Wh bs):LW ds nf q e (ys++[⟨e.op,e.num,0,[v],bs⟩]) ((q+YN ys:Nat):Int):=by
 have hcb:Yd e.op=false:=by simp [Yd];omega
 refine ⟨Ea hf ?_,?_,?_,EY hop (by rw [Q9];exact ⟨by show e.op<=11;omega,hob⟩)⟩
 ·rw [fS]
  exact ⟨.inl ⟨by omega,by omega⟩,fun a ha=>by rw [XU.1 ha];exact hv,fun h=>by omega,h7,h8,fun _=>⟨v,rfl⟩,fun h=>by omega,hn,by omega,by simp,fun h=>by omega,hb⟩
 ·rw [Cv (show Yd (Z4.mk e.op e.num 0 [v] bs).op=false from hcb)];omega
 ·rw [UP,e.sz_eq]
  simp only [Yk,Z4.sz,YL,Xb]
  omega
theorem Ot {ds:List Ze} {op num:Int} {m k:Nat} (h:op=13):Tf ds op num m k=m+k:=Zm h
theorem Z8r {ds:List Ze} {op num:Int} {m:Nat} (h:op≠13):Tf ds op num m 0=m:=by simp [Tf,h]
theorem Ou {ds:List Ze} {op num:Int} {m k:Nat} (h:op≠13/\op≠8):Tf ds op num m k=m:=by simp [Tf,h.1,h.2]
theorem Z8s {ds:List Ze} {op num x:Int} {m k j:Nat} (h:op=8) (hk:k=j+1) (hx:(ZT ds num)[j]? = some x):Tf ds op num m k=m+(ZQ ds x).length:=by
 subst h;subst hk;rw [Nat.add_comm j 1];exact Ca hx
theorem HT {ds:List Ze} {op num x:Int} {m j:Nat} (h:op=8) (hx:(ZT ds num)[j]? = some x):Uz ds op num m j=m+(ZQ ds x).length:=by
 rw [Uz,Zm h,UW (i:=(j:Int)) (by simpa using hx)]
theorem HU {ds:List Ze} {op num:Int} {m j:Nat} (h:op≠8):Uz ds op num m j=m:=Za h
theorem A9 {xs:List Z1} {k:Nat} {e:Z1} (h:xs[k]? = some e):Xc (xs.take (k+1))=Xc (xs.take k)+e.sz:=by rw [Wu h,CA,Xc,Xc];rfl
theorem Jo {xs:List Z1} (k:Nat):Xc (xs.take k)<=Xc xs:=by
 have h:=Yc Xc (UE k xs)
 rw [CA] at h;omega
theorem Lz {xs:List Z1} {a b:Z1} (ha:xs[0]? = some a) (hb:xs[1]? = some b):a.sz+b.sz<=Xc xs:=by
 have h1:Xc (xs.take 1)=Xc (xs.take 0)+a.sz:=A9 ha
 have h2:Xc (xs.take 2)=Xc (xs.take 1)+b.sz:=A9 hb
 have h3:=Jo (xs:=xs) 2
 omega
theorem DA {us:LI} {v:Int} {d:Nat} (hu:∀a∈us,0<=a/\a<(q:Int)) (hv:0<=v/\v<(q+d:Nat)):∀a∈us++[v],0<=a/\a<((q+d:Nat):Int):=
 Xe (fun a ha=>by have:=hu a ha;omega) hv
theorem Fx {us:LI} {d:Nat} (hu:∀a∈us,0<=a/\a<(q:Int)):∀a∈us,0<=a/\a<((q+d:Nat):Int):=fun a ha=>by have:=hu a ha;omega
theorem Zbn {us ns:LI} {d mf:Nat} (hu:∀a∈us,0<=a/\a<(q:Int)) (hn:∀i∈ns,((q+d:Nat):Int)<=i/\i<((q+d:Nat):Int)+mf):∀a∈us++ns,0<=a/\a<((q+d+mf:Nat):Int):=fun a ha=>by
 rcases X1.1 ha with h|h
 ·have:=hu a h;omega
 ·have:=hn a h;omega
theorem DO:∀bs:List Z5,bs.length<=YQ bs
 | []=>YT _
 | b::r=>by have:=DO r;have:=b.sz_pos;rw [YQ,YL];omega
end
end Go.Abs
namespace Go.Abs
structure RF (ds:List Ze) (nf q:Nat) (p:Int->Prop) (r:ZZ):Prop where
 sig:(r.params,r.result)∈Kw
 lent:r.lent.length<=3/\∀i∈r.lent,0<=i/\i<r.params.length
 body:fB ds nf r.params.length r.body/\r.body.sz<=q
 op:WS p r.body
structure FO (n:Zt) (q:Nat) (p:Int->Prop):Prop where
 fn:FN n q
 op:∀r∈n.routines,WS p r.body
theorem FO.rf {n:Zt} {q:Nat} {p:Int->Prop} (h:FO n q p) {r:ZZ} (hr:r∈n.routines):RF n.decls n.routines.length q p r:=⟨h.fn.sigs r hr,h.fn.lent r hr,h.fn.body r hr,h.op r hr⟩
theorem FO.all {n:Zt} {q:Nat} {p:Int->Prop} (hd:GD n.decls) (hl:1<=n.routines.length/\n.routines.length<=4) (h:∀r∈n.routines,RF n.decls n.routines.length q p r):FO n q p:=
 ⟨⟨hd,hl,fun r hr=>(h r hr).sig,fun r hr=>(h r hr).lent,fun r hr=>(h r hr).body⟩,fun r hr=>(h r hr).op⟩
structure RN (ds:List Ze) (nf:Nat) (r:ZZ):Prop where
 sig:(r.params,r.result)∈Kw
 lent:r.lent=[]
 body:fB ds nf r.params.length r.body/\r.body.sz<=181
 op:WS Wh r.body
theorem RN.all {n:Zt} {q:Nat} (hd:GD n.decls) (hl:1<=n.routines.length/\n.routines.length<=4) (h:∀r∈n.routines,RN n.decls n.routines.length r) (hq:181<=q):FO n q Wh:=
 FO.all hd hl fun r hr=>⟨(h r hr).sig,by rw [(h r hr).lent];exact ⟨by simp,fun i hi=>by cases hi⟩,⟨(h r hr).body.1,WL (h r hr).body.2 hq⟩,(h r hr).op⟩
end Go.Abs
namespace Go.Abs
theorem RN.of {ds:List Ze} {nf:Nat} {ps:LI} {rt:Int} {b:Z5} {e:Z1} (hs:(ps,rt)∈Kw) (h:LB ds nf ps.length e b) (he:e.sz<=30):RN ds nf ⟨ps,[],rt,Z5.mk b.steps b.result⟩:=by
 have e1:Z5.mk b.steps b.result=b:=by cases b;rfl
 rw [e1]
 exact ⟨hs,rfl,⟨h.fb,by have:=h.sz;show b.sz<=181;omega⟩,h.op⟩
end Go.Abs
end
namespace Go.Abs
theorem I8:∀{xs:List Z4} {s:Z4},s∈xs->s.sz<=Yk xs
 | [],s,h=>by cases h
 | x::r,s,h=>by
  rw [Yk]
  rcases YD.1 h with rfl|h
  ·omega
  ·have:=I8 h;omega
theorem G4:∀{xs:List Z5} {b:Z5},b∈xs->b.sz<=YQ xs
 | [],b,h=>by cases h
 | x::r,b,h=>by
  rw [YQ]
  rcases YD.1 h with rfl|h
  ·omega
  ·have:=G4 h;omega
structure LC (n:Zt) (k:Nat) (xs:List LI):Prop where
 len:xs.length=k
 ok:∀(i:Nat) (l:LI),xs[i]? = some l->l.length<=3/\∀r,n.routines[i]? = some r->∀v∈l,0<=v/\v<(r.params.length:Int)
theorem LC.nil {n:Zt}:LC n 0 []:=⟨rfl,fun i l h=>by simp at h⟩
theorem LC.snoc {n:Zt} {k:Nat} {xs:List LI} {l:LI} (h:LC n k xs) (hl:l.length<=3) (hv:∀r,n.routines[k]? = some r->∀v∈l,0<=v/\v<(r.params.length:Int)):LC n (k+1) (xs++[l]):=by
 refine ⟨by rw [Ym,h.len];rfl,fun i l' hi=>?_⟩
 by_cases hk:i<xs.length
 ·rw [DC hk] at hi
  exact h.ok i l' hi
 ·rw [DD om] at hi
  have h0:i-xs.length=0:=by
   cases e:i-xs.length with
   | zero=>rfl
   | succ q=>rw [e] at hi;simp at hi
  rw [h0] at hi
  cases hi
  have e:i=k:=by have:=h.len;omega
  subst e
  exact ⟨hl,hv⟩
def VC:LI->Int->LI
 | [],y=>[y]
 | x::r,y=>if x>y then y::x::r else if x=y then x::r else x::VC r y
def Tu (d:Bool) (xs:LI) (y:Int):LI:=if d=true then xs else VC xs y
theorem ED {xs:LI} {y:Int}:Tu true xs y=xs:=rfl
theorem EC {xs:LI} {y:Int}:Tu false xs y=VC xs y:=rfl
theorem My {xs acc r:LI} {y x:Int} {k:Nat} {d:Bool} (hx:xs[k]? = some x) (hd:d=true) (h:acc++Tu d (xs.drop k) y=r):(acc++[x])++Tu d (xs.drop (k+1)) y=r:=by
 subst hd
 rw [ED,Y3 hx] at h
 rw [ED,<-h];simp
theorem Z43 {xs acc r:LI} {y x:Int} {k:Nat} {d:Bool} (hx:xs[k]? = some x) (hd:¬d=true) (hl:¬x>=y) (h:acc++Tu d (xs.drop k) y=r):(acc++[x])++Tu d (xs.drop (k+1)) y=r:=by
 have hd:=UR.2 hd
 subst hd
 rw [EC,Y3 hx,VC,Za om,Za om] at h
 rw [EC,<-h];simp
theorem Z44 {xs acc r:LI} {y x:Int} {k:Nat} {d:Bool} (hx:xs[k]? = some x) (hd:¬d=true) (hl:x>y) (h:acc++Tu d (xs.drop k) y=r):((acc++[y])++[x])++Tu true (xs.drop (k+1)) y=r:=by
 have hd:=UR.2 hd
 subst hd
 rw [EC,Y3 hx,VC,Zm hl] at h
 rw [ED,<-h];simp
theorem Z45 {xs acc r:LI} {y x:Int} {k:Nat} {d:Bool} (hx:xs[k]? = some x) (hd:¬d=true) (hl:x=y) (h:acc++Tu d (xs.drop k) y=r):(acc++[x])++Tu true (xs.drop (k+1)) y=r:=by
 have hd:=UR.2 hd
 subst hd
 rw [EC,Y3 hx,VC,Za om,Zm hl] at h
 rw [ED,<-h];simp
theorem Z42 {xs acc acc2 r:LI} {y x:Int} {k:Nat} {d d2:Bool} (hx:xs[k]? = some x) (h:acc++Tu d (xs.drop k) y=r)
  (hc:(acc2=acc/\d2=d/\(d=true∨¬x>=y))∨(acc2=acc++[y]/\d2=true/\¬d=true/\x>y)∨(acc2=acc/\d2=true/\¬d=true/\x=y)):(acc2++[x])++Tu d2 (xs.drop (k+1)) y=r:=by
 rcases hc with ⟨rfl,rfl,h3⟩|⟨rfl,rfl,h3,h4⟩|⟨rfl,rfl,h3,h4⟩
 ·rcases h3 with h3|h3
  ·exact My hx h3 h
  ·by_cases q:d2=true
   ·exact My hx q h
   ·exact Z43 hx q h3 h
 ·exact Z44 hx h3 h4 h
 ·exact Z45 hx h3 h4 h
theorem Z41 {xs acc r:LI} {y:Int} {k:Nat} {d:Bool} (hk:xs.length<=k) (h:acc++Tu d (xs.drop k) y=r):(if d=true then acc else acc++[y])=r:=by
 rw [YY hk] at h
 by_cases q:d=true
 ·rw [Tu,Zm q,J4] at h;rw [Zm q];exact h
 ·rw [Tu,Za q,VC] at h;rw [Za q];exact h
theorem BU:∀(xs:LI) (y:Int),(VC xs y).length<=xs.length+1
 | [],y=>YT _
 | x::r,y=>by
  have:=BU r y
  rw [VC]
  split
  ·simp
  ·split
   ·simp
   ·simp only [YL];omega
theorem CX:∀{xs:LI} {y z:Int},z∈VC xs y↔z∈xs∨z=y
 | [],y,z=>by simp [VC]
 | x::r,y,z=>by
  rw [VC]
  split
  ·simp only [YD];exact ⟨fun h=>h.elim .inr .inl,fun h=>h.elim .inr .inl⟩
  ·split
   ·rename_i h;subst h;simp only [YD];exact ⟨fun h=>.inl h,fun h=>h.elim id .inl⟩
   ·simp only [YD,CX (xs:=r)];exact ⟨fun h=>by rcases h with h|h|h<;>simp [h],fun h=>by rcases h with (h|h)|h<;>simp [h]⟩
def AI (xs:LI):Prop:=xs.Pairwise (·<·)
theorem Mx:∀{xs:LI} {y:Int},AI xs->AI (VC xs y)
 | [],y,_=>by simp [VC,AI]
 | x::r,y,h=>by
  obtain ⟨h1,h2⟩:=Wo.1 h
  rw [VC]
  split
  ·rename_i q
   refine Wo.2 ⟨fun z hz=>?_,h⟩
   rcases YD.1 hz with rfl|hz
   ·omega
   ·have:=h1 z hz;omega
  ·split
   ·exact h
   ·refine Wo.2 ⟨fun z hz=>?_,Mx h2⟩
    rcases CX.1 hz with hz|rfl
    ·exact h1 z hz
    ·omega
def Td:LI->Int->LI
 | [],_=>[]
 | x::r,y=>if x=y then Td r y else x::Td r y
theorem Df:∀(xs:LI) (y:Int),(Td xs y).length<=xs.length
 | [],y=>YT _
 | x::r,y=>by
  have:=Df r y
  rw [Td]
  split
  ·rw [YL];omega
  ·rw [YL,YL];omega
theorem C4:∀{xs:LI} {y z:Int},z∈Td xs y->z∈xs
 | [],y,z,h=>by rw [Td] at h;exact h
 | x::r,y,z,h=>by
  rw [Td] at h
  split at h
  ·exact Xp _ (C4 h)
  ·rcases YD.1 h with rfl|h
   ·exact X4 ..
   ·exact Xp _ (C4 h)
theorem Z6l {xs acc r:LI} {y x:Int} {k:Nat} (hx:xs[k]? = some x) (h:acc++Td (xs.drop k) y=r):(if x≠y then acc++[x] else acc)++Td (xs.drop (k+1)) y=r:=by
 rw [Y3 hx,Td] at h
 by_cases q:x=y
 ·rw [Zm q] at h;rw [Za (fun z=>z q)];exact h
 ·rw [Za q] at h;rw [Zm q,<-h];simp
theorem Z6k {xs acc r:LI} {y:Int} {k:Nat} (hk:xs.length<=k) (h:acc++Td (xs.drop k) y=r):acc=r:=by
 rw [YY hk,Td,J4] at h;exact h
def U6 (n:Int) (xs:LI) (a:Int):LI:=if 0<=a/\a<n then VC xs a else xs
def TP (n:Int):LI->LI->LI
 | [],xs=>xs
 | a::r,xs=>TP n r (U6 n xs a)
mutual
def Ko (n:Int):Z4->LI->LI
 | .mk op _ _ args kids,xs=>if Yd op=true then xs else K0 n kids (TP n args xs)
def K0 (n:Int):List Z5->LI->LI
 | [],xs=>xs
 | b::r,xs=>K0 n r (Uj n b xs)
def Uk (n:Int):List Z4->LI->LI
 | [],xs=>xs
 | s::r,xs=>Uk n r (Ko n s xs)
def Uj (n:Int):Z5->LI->LI
 | .mk steps result,xs=>U6 n (Uk n steps xs) result
end
section
variable {n:Int}
theorem Pp (s:Z4) (xs:LI):Ko n s xs=if Yd s.op=true then xs else K0 n s.kids (TP n s.args xs):=by cases s;rw [Ko];rfl
theorem Pn (b:Z5) (xs:LI):Uj n b xs=U6 n (Uk n b.steps xs) b.result:=by cases b;rw [Uj];rfl
theorem Fw (xs:LI) (a:Int):(U6 n xs a).length<=xs.length+1:=by
 rw [U6];split
 ·exact BU xs a
 ·omega
theorem Pm:∀(as1 xs:LI),(TP n as1 xs).length<=xs.length+as1.length
 | [],xs=>YT _
 | a::r,xs=>by
  have h1:=Pm r (U6 n xs a)
  have h2:=Fw (n:=n) xs a
  rw [TP,YL];omega
mutual
theorem Pq:∀(s:Z4) (xs:LI),(Ko n s xs).length<=xs.length+s.sz
 | .mk op num into args kids,xs=>by
  have h1:=Po kids (TP n args xs)
  have h2:=Pm (n:=n) args xs
  rw [Ko,Z4.sz];split<;>omega
theorem Po:∀(bs:List Z5) (xs:LI),(K0 n bs xs).length<=xs.length+YQ bs
 | [],xs=>YT _
 | b::r,xs=>by
  have h1:=Po r (Uj n b xs)
  have h2:=Fv b xs
  rw [K0,YQ];omega
theorem Ik:∀(bs:List Z4) (xs:LI),(Uk n bs xs).length<=xs.length+Yk bs
 | [],xs=>YT _
 | b::r,xs=>by
  have h1:=Ik r (Ko n b xs)
  have h2:=Pq b xs
  rw [Uk,Yk];omega
theorem Fv:∀(b:Z5) (xs:LI),(Uj n b xs).length<=xs.length+b.sz
 | .mk steps result,xs=>by
  have h1:=Ik steps xs
  have h2:=Fw (n:=n) (Uk n steps xs) result
  rw [Uj,Z5.sz];omega
end
theorem Zbi {as1 ys r:LI} {k:Nat} {a:Int} (h:as1[k]? = some a) (ha:TP n (as1.drop k) ys=r):TP n (as1.drop (k+1)) (U6 n ys a)=r:=by
 rw [Y3 h,TP] at ha;exact ha
theorem Zbk {bs:List Z5} {ys r:LI} {k:Nat} {b:Z5} (h:bs[k]? = some b) (ha:K0 n (bs.drop k) ys=r):K0 n (bs.drop (k+1)) (Uj n b ys)=r:=by
 rw [Y3 h,K0] at ha;exact ha
theorem Zbm {bs:List Z4} {ys r:LI} {k:Nat} {b:Z4} (h:bs[k]? = some b) (ha:Uk n (bs.drop k) ys=r):Uk n (bs.drop (k+1)) (Ko n b ys)=r:=by
 rw [Y3 h,Uk] at ha;exact ha
theorem Zbh {as1 ys r:LI} {k:Nat} (h:as1.length<=k) (ha:TP n (as1.drop k) ys=r):ys=r:=by rw [YY h,TP] at ha;exact ha
theorem Zbj {bs:List Z5} {ys r:LI} {k:Nat} (h:bs.length<=k) (ha:K0 n (bs.drop k) ys=r):ys=r:=by rw [YY h,K0] at ha;exact ha
theorem Zbl {bs:List Z4} {ys r:LI} {k:Nat} (h:bs.length<=k) (ha:Uk n (bs.drop k) ys=r):ys=r:=by rw [YY h,Uk] at ha;exact ha
end
end Go.Abs
section
namespace Go.Abs
theorem Z50 {xs:List Z4} {k:Nat} {s:Z4} {r:Nat} (h:xs[k]? = some s) (hs:Yd s.op=true) (ha:k+YI (xs.drop k)=r):k+1+YI (xs.drop (k+1))=r:=by
 rw [Y3 h,YI,Zm hs] at ha;omega
theorem Z51 {xs:List Z4} {k:Nat} {s:Z4} {r:Nat} (h:xs[k]? = some s) (hs:¬Yd s.op=true) (ha:k+YI (xs.drop k)=r):k=r:=by
 rw [Y3 h,YI,Za hs] at ha;omega
theorem Z4z {xs:List Z4} {k:Nat} {r:Nat} (h:xs.length<=k) (ha:k+YI (xs.drop k)=r):k=r:=by
 rw [YY h,YI] at ha;omega
theorem Rg {op x:Int} {xs:List Z4} {k:Nat} {s:Z4} {r:Int} (h:xs[k]? = some s) (hs:s.op=op/\gI s.args 0=x) (ha:XK op x (xs.drop k) k=r):(k:Int)=r:=by
 rw [Y3 h,XK,Zm hs] at ha;exact ha
theorem IM {op x:Int} {xs:List Z4} {k:Nat} {s:Z4} {r:Int} (h:xs[k]? = some s) (hs:¬(s.op=op/\gI s.args 0=x)) (ha:XK op x (xs.drop k) k=r):XK op x (xs.drop (k+1)) ((k+1:Nat):Int)=r:=by
 rw [Y3 h,XK,Za hs] at ha;rw [<-ha];congr 1
theorem Rf {op x:Int} {xs:List Z4} {k:Nat} {r:Int} (h:xs.length<=k) (ha:XK op x (xs.drop k) k=r):-1=r:=by
 rw [YY h,XK] at ha;exact ha
theorem RG {many:Nat} {xs:List Z4} {k:Nat} {s:Z4} {r:Int} (h:xs[k]? = some s) (hs:Qo many s) (ha:W3 many (xs.drop k) k=r):(k:Int)=r:=by
 rw [Y3 h,W3,Zm hs] at ha;exact ha
theorem RE {many:Nat} {xs:List Z4} {k:Nat} {s:Z4} {r:Int} (h:xs[k]? = some s) (hs:¬Qo many s) (ha:W3 many (xs.drop k) k=r):W3 many (xs.drop (k+1)) ((k+1:Nat):Int)=r:=by
 rw [Y3 h,W3,Za hs] at ha;rw [<-ha];congr 1
theorem RD {many:Nat} {xs:List Z4} {k:Nat} {r:Int} (h:xs.length<=k) (ha:W3 many (xs.drop k) k=r):-1=r:=by
 rw [YY h,W3] at ha;exact ha
theorem Z7l {xs:List Z4} {x:Int} {many:Nat} (h:WZ xs x<0∨Wc xs many<0):VU xs x many=xs:=Zm h
theorem Z7m {xs:List Z4} {x:Int} {many:Nat} {s:Z4} (h:¬(WZ xs x<0∨Wc xs many<0)) (hs:Ab xs (Wc xs many)=s):(xs.set (WZ xs x).toNat (Zv 17 x)).set (Wc xs many).toNat (Q4 (1+x) s)=VU xs x many:=by
 rw [VU,Za h,hs]
theorem TZ (xs:List Z4):(Zd (Zu xs)).length=xs.length*5:=by rw [U1 _ (YW _)];simp
theorem Ee (s:Z4) (r:List Z4):Zd (Zu (s::r))=X7 s++Zd (Zu r):=by rw [WX,WX];rfl
theorem LO {xs:List Z4} {k:Nat} {x:Z4} (h:xs[k]? = some x):Zd (Zu (xs.take k))++Zd [Yr x]=Zd (Zu (xs.take (k+1))):=by
 rw [Wu h,Wj,VS,Ee]
 have:Zd (Zu [])=[]:=by rw [WX];rfl
 rw [this];rfl
theorem LP {xs:List Z4} {i:Nat} {s:Z4} (h:xs[i]? = some s):Zd (Zu xs)=Zd (Zu (xs.take i))++(X7 s++Zd (Zu (xs.drop (i+1)))):=by
 have hi:=(XC.1 h).1
 have e:xs=xs.take i++(s::xs.drop (i+1)):=by rw [<-Y3 h,UE]
 conv=>lhs;rw [e,Wj,VS,Ee]
theorem Ef {xs:List Z4} {i:Nat} {s t:Z4} (h:xs[i]? = some s):(Zd (Zu xs)).take (i*5)++X7 t++(Zd (Zu xs)).drop (i*5+(X7 t).length)=Zd (Zu (xs.set i t)):=by
 have hi:=(XC.1 h).1
 have hl:(Zd (Zu (xs.take i))).length=i*5:=by rw [TZ,Wn,Vj om]
 rw [LP h,Dn (xs:=X7 s) (ys:=X7 t) hl rfl]
 have e:xs.set i t=xs.take i++(t::xs.drop (i+1)):=by rw [DE,Zm hi]
 rw [e,Wj,VS,Ee]
theorem GK {xs:List Z4} {i:Nat} {s:Z4} (h:xs[i]? = some s):((Zd (Zu xs)).drop (i*5)).take (X7 s).length=X7 s:=by
 have hi:=(XC.1 h).1
 have hl:(Zd (Zu (xs.take i))).length=i*5:=by rw [TZ,Wn,Vj om]
 rw [LP h]
 exact HN hl
structure QD (xs:LI) (v:Int) (k:Nat) (acc:LI) (d:Bool):Prop where
 len:acc.length<=k+(if d=true then 1 else 0)
 sub:∀z∈acc,z∈xs.take k∨z=v
 all:∀z∈xs.take k,z∈acc
 done:d=true->v∈acc
theorem QD.zero (xs:LI) (v:Int):QD xs v 0 [] false:=⟨by simp,by simp,by simp,by simp⟩
theorem QD.step {xs:LI} {v:Int} {k:Nat} {acc:LI} {d:Bool} {x:Int} (h:QD xs v k acc d) (hx:xs[k]? = some x) {acc2:LI} {d2:Bool}
  (hc:(acc2=acc++[x]/\d2=d)∨(acc2=(acc++[v])++[x]/\d2=true/\¬d=true)∨(acc2=acc++[x]/\d2=true/\x=v)):QD xs v (k+1) acc2 d2:=by
 obtain ⟨h1,h2,h3,h4⟩:=h
 have ht:∀z,z∈xs.take (k+1)↔z∈xs.take k∨z=x:=fun z=>by rw [Wu hx];simp
 rcases hc with ⟨rfl,rfl⟩|⟨rfl,rfl,hd⟩|⟨rfl,rfl,rfl⟩
 ·refine ⟨by simp;omega,fun z hz=>?_,fun z hz=>?_,fun q=>List.mem_append_left _ (h4 q)⟩
  ·rw [ht]
   rcases X1.1 hz with hz|hz
   ·rcases h2 z hz with q|q
    ·exact .inl (.inl q)
    ·exact .inr q
   ·exact .inl (.inr (XU.1 hz))
  ·rcases (ht z).1 hz with q|q
   ·exact List.mem_append_left _ (h3 z q)
   ·subst q;simp
 ·rw [Za hd] at h1
  refine ⟨by simp;omega,fun z hz=>?_,fun z hz=>?_,fun _=>by simp⟩
  ·rw [ht]
   simp only [X1,XU] at hz
   rcases hz with (hz|hz)|hz
   ·rcases h2 z hz with q|q
    ·exact .inl (.inl q)
    ·exact .inr q
   ·exact .inr hz
   ·exact .inl (.inr hz)
  ·rcases (ht z).1 hz with q|q
   ·exact List.mem_append_left _ (List.mem_append_left _ (h3 z q))
   ·subst q;simp
 ·refine ⟨by simp;split at h1<;>omega,fun z hz=>?_,fun z hz=>?_,fun _=>by simp⟩
  ·rw [ht]
   rcases X1.1 hz with hz|hz
   ·rcases h2 z hz with q|q
    ·exact .inl (.inl q)
    ·exact .inr q
   ·exact .inl (.inr (XU.1 hz))
  ·rcases (ht z).1 hz with q|q
   ·exact List.mem_append_left _ (h3 z q)
   ·subst q;simp
theorem QD.fin {xs:LI} {v:Int} {k:Nat} {acc:LI} {d:Bool} (h:QD xs v k acc d) (hk:k=xs.length) :
  (d=true->acc.length<=xs.length+1/\∀z,z∈acc↔z∈xs∨z=v)/\(¬d=true->(acc++[v]).length<=xs.length+1/\∀z,z∈acc++[v]↔z∈xs∨z=v):=by
 obtain ⟨h1,h2,h3,h4⟩:=h
 subst hk
 rw [Vc] at h2 h3
 refine ⟨fun hd=>?_,fun hd=>?_⟩
 ·rw [Zm hd] at h1
  exact ⟨h1,fun z=>⟨h2 z,fun q=>q.elim (h3 z) fun e=>e▸h4 hd⟩⟩
 ·rw [Za hd] at h1
  refine ⟨by simp;omega,fun z=>?_⟩
  rw [X1,XU]
  exact ⟨fun q=>q.elim (h2 z) .inr,fun q=>q.elim (fun e=>.inl (h3 z e)) .inr⟩
end Go.Abs
namespace Go.Abs
theorem QD.go {xs:LI} {v:Int} {k:Nat} {acc:LI} {d:Bool} {x:Int} (h:QD xs v k acc d) (hx:xs[k]? = some x) {acc2:LI} {d2:Bool}
  (hc:(acc2=acc/\d2=d)∨(acc2=acc++[v]/\d2=true/\¬d=true)∨(acc2=acc/\d2=true/\x=v)):QD xs v (k+1) (acc2++[x]) d2:=by
 refine h.step hx ?_
 rcases hc with ⟨e1,e2⟩|⟨e1,e2,e3⟩|⟨e1,e2,e3⟩
 ·exact .inl ⟨by rw [e1],e2⟩
 ·exact .inr (.inl ⟨by rw [e1],e2,e3⟩)
 ·exact .inr (.inr ⟨by rw [e1],e2,e3⟩)
section
variable {ds:List Ze} {kept K2:LI} {op num x:Int} {args:LI} {j many:Nat} {kd:Z5}
theorem Z88 (h8:op=8) (hx:gI args 0=x) (hk:¬x∈kept) (hm:(Ud ds num j).length=many) (hq:¬(WZ kd.steps x<0∨Wc kd.steps many<0)) (hK:∀z,z∈K2↔z∈kept∨z=x):Wf ds K2 (VN kd x many)=Te ds kept op num args j kd:=by
 subst hx hm
 have e:∀z,z∈K2↔z∈gI args 0::kept:=fun z=>by rw [hK z,YD];exact Or.comm
 rw [Te,Zm ⟨h8,hk⟩,EG,Za hq,Of,HO kd e]
theorem Z89 (h8:op=8) (hx:gI args 0=x) (hk:¬x∈kept) (hm:(Ud ds num j).length=many) (hq:WZ kd.steps x<0∨Wc kd.steps many<0):Wf ds kept (VN kd x many)=Te ds kept op num args j kd:=by
 subst hx hm
 rw [Te,Zm ⟨h8,hk⟩,EG,Zm hq,Of]
theorem Og (h:¬(op=8/\¬gI args 0∈kept)):Wf ds kept kd=Te ds kept op num args j kd:=by rw [Te,Za h]
end
end Go.Abs
namespace Go.Abs
theorem DQ:∀{xs:List Z5} {k:Nat} {b:Z5},xs[k]? = some b->YQ (xs.take k)+b.sz<=YQ xs
 | [],_,_,h=>by simp at h
 | x::r,0,b,h=>by simp at h;subst h;simp [YQ]
 | x::r,k+1,b,h=>by
  have:=DQ (xs:=r) (k:=k) (by simpa using h)
  rw [Bp,YQ,YQ];omega
theorem G5 {xs:List Z5} {k:Nat} (h:xs.length<=k):YQ (xs.take k)=YQ xs:=by rw [WK h]
end Go.Abs
end
namespace Go.Abs
theorem P0 {xs:List Z4} {k:Nat} {s:Z4} (h:xs[k]? = some s):Yk (xs.drop k)=s.sz+Yk (xs.drop (k+1)):=by rw [Y3 h,Yk]
theorem P1 (xs:List Z4) (k:Nat):Yk (xs.drop k)<=Yk xs:=by
 have h:=Yc Yk (UE k xs)
 rw [UP] at h;omega
theorem DP {xs:List Z5} {k:Nat} {b:Z5} (h:xs[k]? = some b):YQ (xs.take (k+1))=YQ (xs.take k)+b.sz:=by rw [Wu h,Cq,YQ,YQ];rfl
structure CL (ds:List Ze) (nf m:Nat) (xs:List Z4) (d z:Nat):Prop where
 fs:UI ds nf m xs
 dn:YN xs=d
 op:Tc V4 xs
 sz:Yk xs<=z
section
variable {ds:List Ze} {nf m d z:Nat} {xs:List Z4}
theorem CL.nil:CL ds nf m [] 0 0:=⟨True.intro,rfl,True.intro,YT _⟩
theorem CL.len (h:CL ds nf m xs d z):xs.length<=z:=WL (Kk xs) h.sz
theorem CL.le (h:CL ds nf m xs d z) {z2:Nat} (hz:z<=z2):CL ds nf m xs d z2:=⟨h.fs,h.dn,h.op,WL h.sz hz⟩
theorem SY {op v:Int} (ho:op=14∨op=15) (hv:0<=v/\v<(m:Int)):fS ds nf m (Zv op v):=by
 rw [Zv,fS]
 exact ⟨.inr om,fun a ha=>by rw [XU.1 ha];exact hv,fun _=>⟨rfl,rfl,rfl,v,rfl⟩,fun h=>by omega,fun h=>by omega,fun h=>by omega,fun h=>by omega,by omega,by omega,by simp,fun _=>rfl,True.intro⟩
theorem Lf {op:Int} (ho:op=14∨op=15):Yd op=true:=by simp [Yd];omega
theorem CL.cnt (h:CL ds nf m xs d z) {op v:Int} (ho:op=14∨op=15) (hv:0<=v/\v<((m+d:Nat):Int)):CL ds nf m (xs++[Zv op v]) d (z+2):=by
 have hc:Yd (Zv op v).op=true:=Lf ho
 refine ⟨Ea h.fs (by rw [h.dn];exact SY ho hv),?_,EY h.op ?_,?_⟩
 ·rw [Kb,h.dn,YN,Zm hc];rfl
 ·rw [Dd];exact ⟨by show op<=15;omega,True.intro⟩
 ·have:=h.sz
  have e:(Zv op v).sz=2:=rfl
  rw [UP,Yk,e,Yk];omega
theorem CL.cnts {op:Int} (ho:op=14∨op=15):∀{vs:LI} {xs:List Z4} {z:Nat},CL ds nf m xs d z->(∀v∈vs,0<=v/\v<((m+d:Nat):Int))->CL ds nf m (xs++vs.map (Zv op)) d (z+2*vs.length)
 | [],xs,z,h,_=>by simpa using h
 | v::r,xs,z,h,hv=>by
  have h1:=CL.cnts ho (vs:=r) (h.cnt ho (hv v (X4 ..))) fun x hx=>hv x (Xp _ hx)
  rw [VQ,show xs++Zv op v::r.map (Zv op)=xs++[Zv op v]++r.map (Zv op) by simp]
  exact h1.le (by rw [YL];omega)
theorem CL.one (h:CL ds nf m xs d z) {s:Z4} (hs:fS ds nf (m+d) s) (hc:Yd s.op=false) (ho:Q9 V4 s):CL ds nf m (xs++[s]) (d+1) (z+s.sz):=by
 refine ⟨Ea h.fs (by rw [h.dn];exact hs),by rw [Cv hc,h.dn],EY h.op ho,?_⟩
 have:=h.sz
 rw [UP,Yk,Yk];omega
theorem CL.app (h:CL ds nf m xs d z) {ys:List Z4} {d2 z2:Nat} (h2:CL ds nf (m+d) ys d2 z2):CL ds nf m (xs++ys) (d+d2) (z+z2):=by
 refine ⟨BJ.2 ⟨h.fs,by rw [h.dn];exact h2.fs⟩,by rw [Kb,h.dn,h2.dn],EX.2 ⟨h.op,h2.op⟩,?_⟩
 have:=h.sz
 have:=h2.sz
 rw [UP];omega
end
structure KB (ds:List Ze) (nf m:Nat) (b:Z5) (z:Nat):Prop where
 fb:fB ds nf m b
 op:WS V4 b
 sz:b.sz<=z
section
variable {ds:List Ze} {nf m d z:Nat} {xs:List Z4}
theorem CL.block (h:CL ds nf m xs d z) {r:Int} (hr:0<=r/\r<((m+d:Nat):Int)):KB ds nf m ⟨xs,r⟩ (1+z):=by
 refine ⟨by rw [fB,h.dn];exact ⟨h.fs,hr⟩,by rw [WS];exact h.op,?_⟩
 have:=h.sz
 rw [Z5.sz];omega
theorem KB.le {b:Z5} (h:KB ds nf m b z) {z2:Nat} (hz:z<=z2):KB ds nf m b z2:=⟨h.fb,h.op,WL h.sz hz⟩
theorem KB.cl {b:Z5} (h:KB ds nf m b z):CL ds nf m b.steps (YN b.steps) (z-1)/\0<=b.result/\b.result<((m+YN b.steps:Nat):Int):=by
 obtain ⟨h1,h2⟩:=(CD b).1 h.fb
 refine ⟨⟨h1,rfl,(EW b).1 h.op,?_⟩,h2⟩
 have:=h.sz
 have:=b.sz_eq
 omega
theorem KB.put {b:Z5} (h:KB ds nf m b z) {as1 bs:LI} (ha:∀v∈as1,0<=v/\v<(m:Int)) (hb:∀v∈bs,0<=v/\v<(m:Int)):KB ds nf m ⟨as1.map (Zv 14)++bs.map (Zv 15)++b.steps,b.result⟩ (z+2*as1.length+2*bs.length):=by
 obtain ⟨h1,h2⟩:=h.cl
 have q1:CL ds nf m ([]++as1.map (Zv 14)) 0 (0+2*as1.length):=CL.nil.cnts (.inl rfl) ha
 have q2:=(q1.cnts (op:=15) (.inr rfl) hb).app h1
 have:=h.sz
 have:=b.sz_eq
 rw [Bo,WM] at q2
 exact (q2.block h2).le om
end
structure KK (ds:List Ze) (nf:Nat) (sc:Nat->Nat) (ks:List Z5) (z:Nat):Prop where
 fb:T5 ds nf sc 0 ks
 op:Q8 V4 ks
 sz:YQ ks<=z
section
variable {ds:List Ze} {nf m z:Nat} {sc:Nat->Nat}
theorem KK.nil:KK ds nf sc [] 0:=⟨True.intro,True.intro,YT _⟩
theorem KK.snoc {ks:List Z5} {b:Z5} {j z2:Nat} (h:KK ds nf sc ks z) (hj:ks.length=j) (hb:KB ds nf (sc j) b z2):KK ds nf sc (ks++[b]) (z+z2):=by
 refine ⟨LD h.fb (by rw [hj];exact hb.fb),Nn h.op hb.op,?_⟩
 have:=h.sz
 have:=hb.sz
 rw [Cq];simp only [YQ];omega
theorem KK.le {ks:List Z5} (h:KK ds nf sc ks z) {z2:Nat} (hz:z<=z2):KK ds nf sc ks z2:=⟨h.fb,h.op,WL h.sz hz⟩
theorem LE {s:Z4} {ks:List Z5} {into:Int} (h:FS ds nf m s) (h11:s.op<=11) (hl:ks.length=s.kids.length) (hi:0<=into/\into<=m) (hk:KK ds nf (Uz ds s.op s.num m) ks z):fS ds nf m ⟨s.op,s.num,into,s.args,ks⟩/\Q9 V4 ⟨s.op,s.num,into,s.args,ks⟩/\(Z4.mk s.op s.num into s.args ks).sz<=5+z:=by
 refine ⟨?_,?_,?_⟩
 ·rw [fS]
  refine ⟨h.op,h.args,fun q=>by omega,fun q=>by rw [hl];exact h.k7 q,fun q=>by rw [hl];exact h.k8 q,h.one,h.call,h.num,hi,h.alen,fun q=>?_,hk.fb⟩
  have:=h.kn q
  rw [this] at hl
  exact List.eq_nil_of_length_eq_zero hl
 ·rw [Q9];exact ⟨by show s.op<=15;omega,hk.op⟩
 ·have:=h.alen
  have:=hk.sz
  rw [Z4.sz];omega
end
structure KT (ds:List Ze) (nf m:Nat) (st:Z4) (z:Nat):Prop where
 fs:fS ds nf m st
 cb:Yd st.op=false
 op:Q9 V4 st
 sz:st.sz<=z
theorem KT.of {ds:List Ze} {nf m z:Nat} {s:Z4} {ks:List Z5} {into:Int} (h:FS ds nf m s) (h11:s.op<=11) (hl:ks.length=s.kids.length) (hi:0<=into/\into<=m) (hk:KK ds nf (Uz ds s.op s.num m) ks z):KT ds nf m ⟨s.op,s.num,into,s.args,ks⟩ (5+z):=by
 obtain ⟨h1,h2,h3⟩:=LE h h11 hl hi hk
 exact ⟨h1,by show Yd s.op=false;simp [Yd];omega,h2,h3⟩
theorem CL.kt {ds:List Ze} {nf m d z z2:Nat} {xs:List Z4} {st:Z4} (h:CL ds nf m xs d z) (hs:KT ds nf (m+d) st z2):CL ds nf m (xs++[st]) (d+1) (z+z2):=(h.one hs.fs hs.cb hs.op).le (by have:=hs.sz;omega)
theorem FS.few {ds:List Ze} {nf m:Nat} {s:Z4} (h:FS ds nf m s) (hd:W4 ds):s.kids.length<=3:=by
 by_cases h7:s.op=7
 ·have:=h.k7 h7;omega
 ·by_cases h8:s.op=8
  ·have:=h.k8 h8
   have:=Hx hd s.num
   omega
  ·rw [h.kn ⟨h7,h8⟩];simp
theorem RF.lend {ds:List Ze} {nf q:Nat} {p:Int->Prop} {r:ZZ} {l:LI} (h:RF ds nf q p r) (h1:l.length<=3) (h2:∀v∈l,0<=v/\v<(r.params.length:Int)):RF ds nf q p ⟨r.params,l,r.result,r.body⟩:=⟨h.sig,⟨h1,h2⟩,h.body,h.op⟩
theorem RF.with {ds:List Ze} {nf q q2:Nat} {p p2:Int->Prop} {r:ZZ} {b:Z5} (h:RF ds nf q p r) (h1:fB ds nf r.params.length b) (h2:b.sz<=q2) (h3:WS p2 b):RF ds nf q2 p2 ⟨r.params,r.lent,r.result,b⟩:=⟨h.sig,h.lent,⟨h1,h2⟩,h3⟩
theorem Z5.eta (b:Z5):Z5.mk b.steps b.result=b:=by cases b;rfl
theorem LC.at {n:Zt} {k:Nat} {xs:List LI} {i:Nat} {l:LI} {r:ZZ} (h:LC n k xs) (hl:xs[i]? = some l) (hr:n.routines[i]? = some r):l.length<=3/\∀v∈l,0<=v/\v<(r.params.length:Int):=⟨(h.ok i l hl).1,(h.ok i l hl).2 r hr⟩
theorem Gj:∀{xs:List Z4},(∀s∈xs,Q9 Wh s)->∀k,k<=xs.length->YN (xs.take k)=k
 | _,_,0,_=>rfl
 | [],_,k+1,h=>absurd h (by simp)
 | x::r,h,k+1,hk=>by
  have h1:=((Dd x).1 (h x (X4 ..))).1
  have hc:Yd x.op=false:=by have:x.op<=11:=h1;simp [Yd];omega
  rw [Bp,YN,Za (by rw [hc];simp),Gj (fun s hs=>h s (Xp _ hs)) k (by simpa using hk)]
  omega
theorem KB.put1 {ds:List Ze} {nf m z:Nat} {b:Z5} (h:KB ds nf m b z) {op:Int} (ho:op=14∨op=15) {as1:LI} (ha:∀v∈as1,0<=v/\v<(m:Int)):KB ds nf m ⟨as1.map (Zv op)++b.steps,b.result⟩ (z+2*as1.length):=by
 obtain ⟨h1,h2⟩:=h.cl
 have q1:CL ds nf m ([]++as1.map (Zv op)) 0 (0+2*as1.length):=CL.nil.cnts ho ha
 have q2:=q1.app h1
 have:=h.sz
 have:=b.sz_eq
 rw [Bo,WM] at q2
 exact (q2.block h2).le om
theorem FO.fin {n:Zt} {rs:List ZZ} {q q2:Nat} {p:Int->Prop} (h:FN n q2) (e:rs.length=n.routines.length) (hr:∀r∈rs,RF n.decls n.routines.length q p r):FO ⟨n.decls,rs⟩ q p/\rs.length=n.routines.length:=
 ⟨FO.all h.decls (by show 1<=rs.length/\rs.length<=4;rw [e];exact h.len) (by show ∀r∈rs,RF n.decls rs.length q p r;rw [e];exact hr),e⟩
theorem KT.le {ds:List Ze} {nf m z z2:Nat} {st:Z4} (h:KT ds nf m st z) (hz:z<=z2):KT ds nf m st z2:=⟨h.fs,h.cb,h.op,WL h.sz hz⟩
theorem KB.len {ds:List Ze} {nf m z:Nat} {b:Z5} (h:KB ds nf m b z):b.steps.length<=z:=by
 have:=h.sz
 have:=b.sz_eq
 have:=Kk b.steps
 omega
def V8:List Z4->Int->Nat
 | [],_=>0
 | s::r,v=>(if gI s.args 0=v then 1 else 0)+V8 r v
def V2 (rn:List Z4):LI->Nat
 | []=>0
 | v::r=>V8 rn v+V2 rn r
theorem G9:∀(xs ys:List Z4) (v:Int),V8 (xs++ys) v=V8 xs v+V8 ys v
 | [],ys,v=>by simp [V8]
 | x::r,ys,v=>by rw [Qh,V8,V8,G9 r];omega
theorem Rz {xs:List Z4} {k:Nat} {s:Z4} (h:xs[k]? = some s) (v:Int):V8 (xs.take (k+1)) v=V8 (xs.take k) v+(if gI s.args 0=v then 1 else 0):=by
 rw [Wu h,G9,V8,V8];omega
theorem L8:∀(xs:List Z4) (v:Int),V8 xs v<=xs.length
 | [],v=>YT _
 | x::r,v=>by have:=L8 r v;rw [V8,YL];split<;>omega
theorem RA (xs:List Z4) (k:Nat) (v:Int):V8 (xs.take k) v<=V8 xs v:=by
 have h:=Yc (V8 · v) (UE k xs)
 simp only [G9] at h;omega
theorem Ia (rn:List Z4):∀xs ys:LI,V2 rn (xs++ys)=V2 rn xs+V2 rn ys
 | [],ys=>by simp [V2]
 | x::r,ys=>by rw [Qh,V2,V2,Ia rn r];omega
theorem Zb8 {rn:List Z4} {xs:LI} {k:Nat} {v:Int} (h:xs[k]? = some v):V2 rn (xs.take (k+1))=V2 rn (xs.take k)+V8 rn v:=by
 rw [Wu h,Ia,V2,V2];rfl
theorem Pc (s:Z4) (r:List Z4):∀vs:LI,AI vs->V2 (s::r) vs<=1+V2 r vs/\(¬gI s.args 0∈vs->V2 (s::r) vs=V2 r vs)
 | [],_=>by simp [V2]
 | v::vs,h=>by
  obtain ⟨h1,h2⟩:=Wo.1 h
  obtain ⟨q1,q2⟩:=Pc s r vs h2
  rw [V2,V2,V8]
  by_cases e:gI s.args 0=v
  ·have hn:¬gI s.args 0∈vs:=fun z=>by have:=h1 _ z;omega
   rw [Zm e,q2 hn]
   exact ⟨by omega,fun z=>absurd (YD.2 (.inl e)) z⟩
  ·rw [Za e]
   exact ⟨by omega,fun z=>by rw [q2 fun y=>z (Xp _ y)];omega⟩
theorem Pd:∀(rn:List Z4) {vs:LI},AI vs->V2 rn vs<=rn.length
 | [],vs,_=>by
  have:∀xs:LI,V2 [] xs=0:=fun xs=>by
   induction xs with
   | nil=>rfl
   | cons x r ih=>rw [V2,ih];rfl
  rw [this];exact K6 _
 | s::r,vs,h=>by
  have h1:=(Pc s r vs h).1
  have h2:=Pd r h
  rw [YL];omega
theorem Ib (rn:List Z4) (xs:LI) (k:Nat):V2 rn (xs.take k)<=V2 rn xs:=by
 have h:=Yc (V2 rn) (UE k xs)
 rw [Ia] at h;omega
def Iw (m:Nat) (rn:List Z4):Prop:=∀s∈rn,∃a,s.args=[a]/\0<=a/\a<(m:Int)
theorem Lk {xs:List Z4} {k:Nat} {s:Z4} (h:xs[k]? = some s):YN (xs.take (k+1))=YN (xs.take k)+(if Yd s.op=true then 0 else 1):=by rw [Wu h,Kb,YN,YN];rfl
theorem KT.eq {ds:List Ze} {nf m z:Nat} {s:Z4} {ks:List Z5} (h:FS ds nf m s) (h11:s.op<=11) (hl:ks.length=s.kids.length) (hk:KK ds nf (Uz ds s.op s.num m) ks z):KT ds nf m ⟨s.op,s.num,s.into,s.args,ks⟩ (1+s.args.length+z):=by
 obtain ⟨h1,h2,h3⟩:=LE h h11 hl h.into hk
 refine ⟨h1,by show Yd s.op=false;simp [Yd];omega,h2,?_⟩
 have:=hk.sz
 rw [Z4.sz];omega
theorem FS.pair {ds:List Ze} {nf m:Nat} {s:Z4} (h:FS ds nf m s) (hp:s.op=14∨s.op=15):(∃a,s.args=[a]/\0<=a/\a<(m:Int))/\s.sz=2/\Yd s.op=true:=by
 obtain ⟨h1,h2,h3,a,h4⟩:=h.cnt om
 have h5:=h.args a (by rw [h4];exact XU.2 rfl)
 refine ⟨⟨a,h4,h5⟩,?_,Lf hp⟩
 rw [s.sz_eq,h3,h4];rfl
theorem FS.not_pair {ds:List Ze} {nf m:Nat} {s:Z4} (h:FS ds nf m s) (hp:¬(s.op=14∨s.op=15)) (h15:V4 s.op):s.op<=11/\Yd s.op=false:=by
 have h1:s.op<=15:=h15
 have h2:=h.op
 exact ⟨by omega,by simp [Yd];omega⟩
theorem CL.run {ds:List Ze} {nf m d z:Nat} {xs:List Z4} {D R:LI} {rn:List Z4} (h:CL ds nf m xs d z) (hr:Iw (m+d) rn) (hD:∀v∈D,∃s∈rn,s.args=[v]) (hR:∀v∈R,∃s∈rn,s.args=[v]):CL ds nf m (xs++(D.map (Zv 14)++R.map (Zv 15))) d (z+2*(D.length+R.length)):=by
 have key:∀(A:LI),(∀v∈A,∃s∈rn,s.args=[v])->∀v∈A,0<=v/\v<((m+d:Nat):Int):=fun A hA v hv=>by
  obtain ⟨s,hs,e⟩:=hA v hv
  obtain ⟨a,e2,e3⟩:=hr s hs
  rw [e] at e2
  cases e2
  exact e3
 have h2:=(h.cnts (op:=14) (.inl rfl) (key D hD)).cnts (op:=15) (.inr rfl) (key R hR)
 rw [<-Ul]
 exact h2.le om
def W7 (xs:List Z4) (i:Nat) (s:Z4):List Z4:=xs.take i++[s]++xs.drop i
theorem Dk {xs:List Z4} (i:Nat) (s:Z4):Yk (W7 xs i s)=Yk xs+s.sz:=by
 have h:=Yc Yk (UE i xs)
 rw [UP] at h
 rw [W7,UP,UP,Yk,Yk];omega
theorem NZ {xs:List Z4} {i:Nat} {s:Z4} (h:i<=xs.length):(W7 xs i s).length=xs.length+1:=by
 simp [W7,Vj h];omega
def CV (b:Z5) (i j:Nat) (v:Int):Z5:=⟨W7 (W7 b.steps j (Zv 15 v)) i (Zv 14 v),b.result⟩
def withR (n:Zt) (f:Nat) (rt:ZZ) (b:Z5):Zt:=⟨n.decls,n.routines.set f ⟨rt.params,rt.lent,rt.result,b⟩⟩
def FL (n n2:Zt):Prop:=n2=n∨∃f rt i j v,n.routines[f]? = some rt/\i<=j/\j<=rt.body.steps.length/\0<=v/\v<((rt.params.length+YN (rt.body.steps.take i):Nat):Int)/\n2=withR n f rt (CV rt.body i j v)
theorem CL.put {ds:List Ze} {nf m:Nat} {xs:List Z4} {d z:Nat} (h:CL ds nf m xs d z) {i:Nat} {op v:Int} (ho:op=14∨op=15) (hv:0<=v/\v<((m+YN (xs.take i):Nat):Int)):CL ds nf m (W7 xs i (Zv op v)) d (z+2):=by
 have hs:=h.fs
 have hp:=h.op
 have e:=UE i xs
 rw [<-e] at hs hp
 rw [BJ] at hs
 rw [EX] at hp
 have h1:CL ds nf m (xs.take i) (YN (xs.take i)) (Yk (xs.take i)):=⟨hs.1,rfl,hp.1,YT _⟩
 have h2:CL ds nf (m+YN (xs.take i)) (xs.drop i) (YN (xs.drop i)) (Yk (xs.drop i)):=⟨hs.2,rfl,hp.2,YT _⟩
 have h3:=(h1.cnt ho hv).app h2
 have e1:=Yc Yk e
 have e2:=Yc YN e
 rw [UP] at e1
 rw [Kb,h.dn] at e2
 have:=h.sz
 rw [e2] at h3
 exact h3.le om
theorem Z7e {xs:List Z4} {i j:Nat} {s:Z4} (h:i<=j) (hj:j<=xs.length):(W7 xs j s).take i=xs.take i:=by
 rw [W7,Ul,List.take_append_of_le_length (by rw [Wn];omega),List.take_take,Vj h]
theorem Z2i {ds:List Ze} {nf m z:Nat} {b:Z5} (h:KB ds nf m b z) {i j:Nat} {v:Int} (hij:i<=j) (hj:j<=b.steps.length) (hv:0<=v/\v<((m+YN (b.steps.take i):Nat):Int)):KB ds nf m (CV b i j v) (z+4):=by
 obtain ⟨h1,h2⟩:=h.cl
 have hm:YN (b.steps.take i)<=YN (b.steps.take j):=by
  have e:=Yc YN (UE i (b.steps.take j))
  rw [Kb,List.take_take,Vj hij] at e;omega
 have h3:=(h1.put (i:=j) (op:=15) (v:=v) (.inr rfl) om).put (i:=i) (op:=14) (v:=v) (.inl rfl) (by rw [Z7e hij hj];exact hv)
 have:=h.sz
 have:=b.sz_eq
 exact (h3.block h2).le om
theorem FO.held {n n2:Zt} {q:Nat} (h:FO n q V4) (hh:FL n n2):FO n2 (q+4) V4:=by
 rcases hh with rfl|⟨f,rt,i,j,v,h1,h2,h3,h4,h5,rfl⟩
 ·exact ⟨⟨h.fn.decls,h.fn.len,h.fn.sigs,h.fn.lent,fun r hr=>⟨(h.fn.body r hr).1,by have:=(h.fn.body r hr).2;omega⟩⟩,h.op⟩
 ·have hr:=h.rf (ZY h1)
  have hk:KB n.decls n.routines.length rt.params.length (CV rt.body i j v) (q+4):=Z2i ⟨hr.body.1,hr.op,hr.body.2⟩ h2 h3 ⟨h4,h5⟩
  refine FO.all h.fn.decls (by show 1<=(n.routines.set _ _).length/\(n.routines.set _ _).length<=4;rw [T1];exact h.fn.len) fun r hm=>?_
  show RF n.decls (n.routines.set _ _).length _ _ r
  rw [T1]
  rcases List.mem_or_eq_of_mem_set hm with hm|rfl
  ·have hq:=h.rf hm
   exact ⟨hq.sig,hq.lent,⟨hq.body.1,by have:=hq.body.2;omega⟩,hq.op⟩
  ·exact ⟨hr.sig,hr.lent,⟨hk.fb,hk.sz⟩,hk.op⟩
structure Wl (ds:List Ze) (b:Z5):Prop where
 w:wB ds b
 nr:Q7 b
 rng:b.rng
structure T3 (ds:List Ze) (s:Z4):Prop where
 w:wS ds s
 nr:Bc s
 rng:s.rng
section
variable {ds:List Ze}
theorem TM:∀{xs:List Z4},Ti xs↔∀s∈xs,s.rng
 | []=>by simp [Ti]
 | s::r=>by rw [Ti,TM];simp
theorem A1:∀{xs:List Z5},UT xs↔∀s∈xs,s.rng
 | []=>by simp [UT]
 | s::r=>by rw [UT,A1];simp
theorem Wl.iff {b:Z5}:Wl ds b↔∀s∈b.steps,T3 ds s:=by
 constructor
 ·intro h s hs
  have h3:=h.rng
  rw [Z5.rng_eq] at h3
  exact ⟨JJ.1 ((K4 b).1 h.w) s hs,D9.1 ((D8 b).1 h.nr) s hs,TM.1 h3 s hs⟩
 ·intro h
  exact ⟨(K4 b).2 (JJ.2 fun s hs=>(h s hs).w),(D8 b).2 (D9.2 fun s hs=>(h s hs).nr),by rw [Z5.rng_eq];exact TM.2 fun s hs=>(h s hs).rng⟩
theorem T3.kid {s:Z4} {b:Z5} (h:T3 ds s) (hb:b∈s.kids):Wl ds b:=by
 have h3:=h.rng
 rw [Z4.rng_eq] at h3
 exact ⟨Fz.1 ((Kr s).1 h.w).2.2.2 b hb,ET.1 ((C1 s).1 h.nr).2 b hb,A1.1 h3.2 b hb⟩
theorem T3.kids {s:Z4} {ks:List Z5} (h:T3 ds s) (hl:ks.length=s.kids.length) (hk:∀b∈ks,Wl ds b):T3 ds ⟨s.op,s.num,s.into,s.args,ks⟩:=by
 obtain ⟨h1,h2,h3,h4⟩:=(Kr s).1 h.w
 have h5:=h.rng
 rw [Z4.rng_eq] at h5
 refine ⟨(Kr _).2 ⟨h1,fun hc=>?_,fun h8=>⟨(h3 h8).1,hl.trans (h3 h8).2⟩,Fz.2 fun b hb=>(hk b hb).w⟩,(C1 _).2 ⟨((C1 s).1 h.nr).1,ET.2 fun b hb=>(hk b hb).nr⟩,by rw [Z4.rng_eq];exact ⟨h5.1,A1.2 fun b hb=>(hk b hb).rng⟩⟩
 obtain ⟨q1,q2,q3,q4⟩:=h2 hc
 exact ⟨q1,q2,List.eq_nil_of_length_eq_zero (show ks.length=0 by rw [hl,q3];rfl),q4⟩
theorem T3.cnt {op v:Int} (h:op=14∨op=15∨op=16):T3 ds (Zv op v):=⟨Zc0 h,(C1 _).2 ⟨by show op≠17;omega,True.intro⟩,by rw [Z4.rng_eq];exact ⟨⟨by show (-9223372036854775808:Int)<=0;decide,by show (0:Int)<=_;decide⟩,True.intro⟩⟩
theorem Wl.open {b:Z5} {x q:Int} {fs:LI} (h:Wl ds b):Wl ds (Kx b x fs q):=by
 rw [Wl.iff] at h ⊢
 intro s hs
 have hs:s∈JX b.steps x fs q:=hs
 rw [JX] at hs
 split at hs
 ·simp only [X1,XD,XU] at hs
  rcases hs with ((⟨a,_,rfl⟩|rfl)|⟨a,_,rfl⟩)|hs
  ·exact T3.cnt om
  ·exact T3.cnt om
  ·exact T3.cnt om
  ·exact h s (List.mem_of_mem_drop hs)
 ·exact h s hs
theorem OF {m:Nat} {op num:Int} {args:LI}:∀{bs:List Z5} {k:Nat},(Tg ds m op num args bs k).length=bs.length
 | [],_=>rfl
 | b::r,k=>by rw [Tg,YL,YL,OF (bs:=r)]
mutual
theorem T3.sp:∀(s:Z4) {m:Nat},T3 ds s->T3 ds (Bf ds m s)
 | .mk op num into args kids,m,h=>by
  rw [Bf]
  exact h.kids OF (Wls.sp kids fun b hb=>h.kid hb)
theorem Wls.sp:∀(bs:List Z5) {m:Nat} {op num:Int} {args:LI} {k:Nat},(∀b∈bs,Wl ds b)->∀b∈Tg ds m op num args bs k,Wl ds b
 | [],_,_,_,_,_,_,b,hb=>by cases hb
 | c::r,m,op,num,args,k,h,b,hb=>by
  rw [Tg] at hb
  rcases YD.1 hb with rfl|hb
  ·split
   ·exact (Wl.sp c (h c (X4 ..))).open
   ·exact Wl.sp c (h c (X4 ..))
  ·exact Wls.sp r (fun x hx=>h x (Xp _ hx)) b hb
theorem WlSs.sp:∀(xs:List Z4) {m:Nat},(∀s∈xs,T3 ds s)->∀s∈UA ds m xs,T3 ds s
 | [],_,_,s,hs=>by cases hs
 | c::r,m,h,s,hs=>by
  rw [UA] at hs
  rcases YD.1 hs with rfl|hs
  ·exact T3.sp c (h c (X4 ..))
  ·exact WlSs.sp r (fun x hx=>h x (Xp _ hx)) s hs
theorem Wl.sp:∀(b:Z5) {m:Nat},Wl ds b->Wl ds (WJ ds m b)
 | .mk steps result,m,h=>by
  rw [WJ,Wl.iff]
  exact WlSs.sp steps (Wl.iff.1 h)
end
theorem Z7q {b:Z5} {x:Int} {many:Nat} (h:b.rng):(VN b x many).rng:=by
 rw [Z5.rng_eq] at h
 rw [VN,Z5.rng_eq]
 show Ti (VU b.steps x many)
 rw [VU]
 split
 ·exact h
 ·rename_i hq
  obtain ⟨_,_,t,h5,h7,h6⟩:=A3 (fun z=>hq (.inr z))
  rw [TM] at h ⊢
  intro s hs
  rcases List.mem_or_eq_of_mem_set hs with hs|rfl
  ·rcases List.mem_or_eq_of_mem_set hs with hs|rfl
   ·exact h s hs
   ·rw [Z4.rng_eq];exact ⟨⟨by show (-9223372036854775808:Int)<=0;decide,by show (0:Int)<=_;decide⟩,True.intro⟩
  ·have:=h t (ZY h5)
   rw [h6,Q4,Z4.rng_eq]
   rw [Z4.rng_eq] at this
   exact this
mutual
theorem Z7r:∀(s:Z4) {K:LI},s.rng->(Qc ds K s).rng
 | .mk op num into args kids,K,h=>by
  rw [Z4.rng] at h
  rw [Qc,Z4.rng]
  exact ⟨h.1,O9 kids h.2⟩
theorem O9:∀(bs:List Z5) {K:LI} {op num:Int} {args:LI} {k:Nat},UT bs->UT (Uh ds K op num args bs k)
 | [],_,_,_,_,_,_=>True.intro
 | b::r,K,op,num,args,k,h=>by
  rw [Uh,UT]
  refine ⟨?_,O9 r h.2⟩
  split
  ·exact Z7q (HL b h.1)
  ·exact HL b h.1
theorem Oa:∀(xs:List Z4) {K:LI},Ti xs->Ti (Ui ds K xs)
 | [],_,_=>True.intro
 | s::r,K,h=>⟨Z7r s h.1,Oa r h.2⟩
theorem HL:∀(b:Z5) {K:LI},b.rng->(Wf ds K b).rng
 | .mk steps result,K,h=>by
  rw [Z5.rng] at h
  rw [Wf,Z5.rng]
  exact Oa steps h
end
end
mutual
theorem Z5v:∀s:Z4,Q9 V4 s->Bc s
 | .mk op num into args kids,h=>by
  rw [Q9] at h
  rw [Bc]
  exact ⟨by have:op<=15:=h.1;omega,Nb kids h.2⟩
theorem Nb:∀bs:List Z5,Q8 V4 bs->Aj bs
 | [],_=>True.intro
 | b::r,h=>⟨Na b h.1,Nb r h.2⟩
theorem Nc:∀bs:List Z4,Tc V4 bs->Ak bs
 | [],_=>True.intro
 | b::r,h=>⟨Z5v b h.1,Nc r h.2⟩
theorem Na:∀b:Z5,WS V4 b->Q7 b
 | .mk steps result,h=>by
  rw [WS] at h
  rw [Q7]
  exact Nc steps h
end
structure ZR (q:Nat) (r:ZZ):Prop where
 params:r.params.length<=3
 lent:r.lent.length<=10
 body:r.body.sz<=q
 rng:r.body.rng
structure ZN (n:Zt) (q:Nat):Prop where
 decls:AD n.decls
 len:1<=n.routines.length/\n.routines.length<=4
 rt:∀r∈n.routines,ZR q r
theorem ZR.le {q q2:Nat} {r:ZZ} (h:ZR q r) (hq:q<=q2):ZR q2 r:=⟨h.params,h.lent,WL h.body hq,h.rng⟩
theorem ZN.le {n:Zt} {q q2:Nat} (h:ZN n q) (hq:q<=q2):ZN n q2:=⟨h.decls,h.len,fun r hr=>(h.rt r hr).le hq⟩
theorem ZN.sz {n:Zt} {q:Nat} (h:ZN n q) (hq:q<=10000000):Um n:=
 ⟨⟨by have:=h.decls.1;omega,fun d hd=>by have:=(h.decls.2 d hd).1;omega,fun d hd c hc=>by have:=(h.decls.2 d hd).2 c hc;omega⟩,by have:=h.len;omega,fun r hr=>by have:=(h.rt r hr).params;omega,fun r hr=>by have:=(h.rt r hr).lent;omega,fun r hr=>by have:=(h.rt r hr).body;omega⟩
theorem FO.wl {n:Zt} {q:Nat} (h:FO n q V4) (hq:q<=100000000):∀r∈n.routines,Wl n.decls r.body:=fun r hr=>by
 have h1:=h.rf hr
 have h2:r.params.length<=3:=(US.bd (f:=⟨r.params,r.result,default⟩) h1.sig).1
 exact ⟨Pv r.body h1.body.1 (by have:=h1.body.2;omega) h.fn.decls.ok,Na r.body h1.op,HJ r.body h1.body.1⟩
theorem FO.zn {n:Zt} {q:Nat} {p:Int->Prop} (h:FO n q p):ZN n q:=
 ⟨h.fn.decls.ad,h.fn.len,fun r hr=>⟨(US.bd (f:=⟨r.params,r.result,default⟩) (h.fn.sigs r hr)).1,by have:=(h.fn.lent r hr).1;omega,(h.fn.body r hr).2,HJ r.body (h.fn.body r hr).1⟩⟩
structure WN (n:Zt) (q:Nat):Prop where
 ok:YZ n
 zn:ZN n q
 wl:∀r∈n.routines,Wl n.decls r.body
theorem FO.wn {n:Zt} {q:Nat} (h:FO n q V4) (hq:q<=100000000):WN n q:=⟨h.fn.ok,h.zn,h.wl hq⟩
theorem WN.sp {n:Zt} {q:Nat} (h:WN n q):WN (Fm n) (9*q):=by
 refine ⟨⟨h.ok.decls,by show (n.routines.map _).length<=4;rw [JN];exact h.ok.len,fun r hr=>?_,fun r hr=>?_⟩,⟨h.zn.decls,by show 1<=(n.routines.map _).length/\(n.routines.map _).length<=4;rw [JN];exact h.zn.len,fun r hr=>?_⟩,fun r hr=>?_⟩
 ·obtain ⟨s,hs,rfl⟩:=XD.1 hr;exact h.ok.params s hs
 ·obtain ⟨s,hs,rfl⟩:=XD.1 hr;exact h.ok.lent s hs
 ·obtain ⟨s,hs,rfl⟩:=XD.1 hr
  have hz:=h.zn.rt s hs
  refine ⟨hz.params,hz.lent,?_,(Wl.sp s.body (h.wl s hs)).rng⟩
  have h1:=Fk h.ok.decls s.body (m:=s.params.length) (h.wl s hs).w
  have h2:=s.body.pz_le
  have h3:=hz.body
  show (WJ n.decls s.params.length s.body).sz<=9*q
  omega
 ·obtain ⟨s,hs,rfl⟩:=XD.1 hr;exact Wl.sp s.body (h.wl s hs)
theorem WN.ru {n:Zt} {q:Nat} (h:WN n q):ZN (F8 n) q:=by
 refine ⟨h.zn.decls,by show 1<=(n.routines.map _).length/\(n.routines.map _).length<=4;rw [JN];exact h.zn.len,fun r hr=>?_⟩
 obtain ⟨s,hs,rfl⟩:=XD.1 hr
 have hz:=h.zn.rt s hs
 refine ⟨hz.params,hz.lent,?_,HL s.body (h.wl s hs).rng⟩
 have h1:=HP s.body (K:=[]) (h.wl s hs).w
 have h3:=hz.body
 show (Wf n.decls [] s.body).sz<=q
 omega
theorem HF {xs:List Z4} {i:Nat} {s t:Z4} (h:t∈W7 xs i s):t∈xs∨t=s:=by
 rw [W7] at h
 simp only [X1,XU] at h
 rcases h with (h|h)|h
 ·exact .inl (TR h)
 ·exact .inr h
 ·exact .inl (List.mem_of_mem_drop h)
theorem HK {op v:Int}:(Zv op v).rng:=by rw [Z4.rng_eq];exact ⟨⟨by show (-9223372036854775808:Int)<=0;decide,by show (0:Int)<=_;decide⟩,True.intro⟩
theorem ZN.withR {n:Zt} {q q2:Nat} {f:Nat} {rt:ZZ} {b:Z5} (h:ZN n q) (hr:n.routines[f]? = some rt) (hq:q<=q2) (hb:b.sz<=q2) (hg:b.rng):ZN (withR n f rt b) q2:=by
 refine ⟨h.decls,by show 1<=(n.routines.set _ _).length/\(n.routines.set _ _).length<=4;rw [T1];exact h.len,fun r hm=>?_⟩
 rcases List.mem_or_eq_of_mem_set hm with hm|rfl
 ·exact (h.rt r hm).le hq
 ·have:=h.rt rt (ZY hr)
  exact ⟨this.params,this.lent,hb,hg⟩
theorem ZN.held {n n2:Zt} {q:Nat} (h:ZN n q) (hh:FL n n2):ZN n2 (q+4):=by
 rcases hh with rfl|⟨f,rt,i,j,v,h1,h2,h3,h4,h5,rfl⟩
 ·exact h.le om
 ·have hz:=h.rt rt (ZY h1)
  refine h.withR h1 om ?_ ?_
  ·rw [CV,Z5.sz,Dk,Dk]
   have e1:(Zv 14 v).sz=2:=rfl
   have e2:(Zv 15 v).sz=2:=rfl
   have:=hz.body
   have:=rt.body.sz_eq
   omega
  ·have hg:=hz.rng
   rw [Z5.rng_eq,TM] at hg
   rw [CV,Z5.rng_eq,TM]
   intro s hs
   rcases HF hs with hs|rfl
   ·rcases HF hs with hs|rfl
    ·exact hg s hs
    ·exact HK
   ·exact HK
theorem FO.le {n:Zt} {q q2:Nat} {p:Int->Prop} (h:FO n q p) (hq:q<=q2):FO n q2 p:=⟨⟨h.fn.decls,h.fn.len,h.fn.sigs,h.fn.lent,fun r hr=>⟨(h.fn.body r hr).1,WL (h.fn.body r hr).2 hq⟩⟩,h.op⟩
def Vx (s y:Z4):Prop:=y.sz<=s.sz+1/\y.rng
theorem Vx.refl {s:Z4} (hg:s.rng):Vx s s:=⟨Nat.le_succ _,hg⟩
theorem Vx.of {s:Z4} {op num into:Int} {args:LI} {kids:List Z5} (hg:s.rng) (hn:num=s.num∨num∈([0,1,2,3,-1,1000]:LI)) (ha:args.length<=s.args.length+1) (hk:kids=s.kids∨kids=s.kids.drop 1):Vx s ⟨op,num,into,args,kids⟩:=by
 rw [Z4.rng_eq] at hg
 have hs:=s.sz_eq
 have hb:YQ kids<=YQ s.kids:=by
  rcases hk with rfl|rfl
  ·exact YT _
  ·have h:=Yc YQ (UE 1 s.kids)
   rw [Cq] at h;omega
 refine ⟨by rw [Z4.sz];omega,?_⟩
 rw [Z4.rng]
 refine ⟨?_,A1.2 fun b hbk=>A1.1 hg.2 b ?_⟩
 ·rcases hn with rfl|hn
  ·exact hg.1
  ·have:=(by decide:∀z∈([0,1,2,3,-1,1000]:LI),-9223372036854775808<=z/\z<=9223372036854775807) num hn
   exact this
 ·rcases hk with rfl|rfl
  ·exact hbk
  ·exact List.mem_of_mem_drop hbk
def Xg (b y:Z5):Prop:=y.sz<=b.sz+2/\y.rng
theorem Xg.result {b:Z5} (hg:b.rng) (z:Int):Xg b ⟨b.steps,z⟩:=⟨by rw [Z5.sz,b.sz_eq];omega,by rw [Z5.rng_eq] at hg;rw [Z5.rng];exact hg⟩
theorem Xg.put {b:Z5} (hg:b.rng) {i:Nat} {op v:Int}:Xg b ⟨W7 b.steps i (Zv op v),b.result⟩:=by
 rw [Z5.rng_eq,TM] at hg
 refine ⟨?_,?_⟩
 ·rw [Z5.sz,Dk,b.sz_eq]
  have e:(Zv op v).sz=2:=rfl
  omega
 ·rw [Z5.rng,TM]
  intro s hs
  rcases HF hs with hs|rfl
  ·exact hg s hs
  ·exact HK
theorem Xg.del {b:Z5} (hg:b.rng) {k:Nat}:Xg b ⟨b.steps.take k++b.steps.drop (k+1),b.result⟩:=by
 rw [Z5.rng_eq,TM] at hg
 have h1:=Qy b.steps k
 have h2:=Yc Yk (UE k b.steps)
 have h3:=Yc Yk (UE 1 (b.steps.drop k))
 rw [UP] at h2 h3
 rw [List.drop_drop] at h3
 refine ⟨by rw [Z5.sz,UP,b.sz_eq];omega,?_⟩
 rw [Z5.rng,TM]
 intro s hs
 rcases X1.1 hs with hs|hs
 ·exact hg s (TR hs)
 ·exact hg s (List.mem_of_mem_drop hs)
theorem Xg.set {b:Z5} (hg:b.rng) {k:Nat} {s t:Z4} (hs:b.steps[k]? = some s) (ht:t.sz<=s.sz+2/\t.rng):Xg b ⟨b.steps.set k t,b.result⟩:=by
 rw [Z5.rng_eq,TM] at hg
 have h1:=Fq t hs
 refine ⟨by rw [Z5.sz,b.sz_eq];omega,?_⟩
 rw [Z5.rng,TM]
 intro x hx
 rcases List.mem_or_eq_of_mem_set hx with hx|rfl
 ·exact hg x hx
 ·exact ht.2
theorem IZ:∀{xs:List Z5} {i:Nat} {s:Z5} (t:Z5),xs[i]? = some s->YQ (xs.set i t)+s.sz=YQ xs+t.sz
 | [],_,_,_,h=>by simp at h
 | x::r,0,s,t,h=>by simp at h;subst h;rw [List.set_cons_zero,YQ,YQ];omega
 | x::r,i+1,s,t,h=>by
  have:=IZ (xs:=r) (i:=i) t (by simpa using h)
  rw [List.set_cons_succ,YQ,YQ];omega
theorem Xg.kid {b:Z5} (hg:b.rng) {k j:Nat} {s:Z4} {c y:Z5} (hs:b.steps[k]? = some s) (hc:s.kids[j]? = some c) (hy:Xg c y):Xg b ⟨b.steps.set k ⟨s.op,s.num,s.into,s.args,s.kids.set j y⟩,b.result⟩:=by
 refine Xg.set hg hs ?_
 have hg2:=hg
 rw [Z5.rng_eq,TM] at hg2
 have h1:=hg2 s (ZY hs)
 rw [Z4.rng_eq] at h1
 have h2:=IZ y hc
 have h3:=hy.1
 refine ⟨by rw [Z4.sz,s.sz_eq];omega,?_⟩
 rw [Z4.rng]
 refine ⟨h1.1,A1.2 fun x hx=>?_⟩
 rcases List.mem_or_eq_of_mem_set hx with hx|rfl
 ·exact A1.1 h1.2 x hx
 ·exact hy.2
theorem Z7p {b:Z5} (hg:b.rng) {k j:Nat} {s:Z4} {c:Z5} (hs:b.steps[k]? = some s) (hc:s.kids[j]? = some c):c.rng:=by
 rw [Z5.rng_eq,TM] at hg
 have h1:=hg s (ZY hs)
 rw [Z4.rng_eq] at h1
 exact A1.1 h1.2 c (ZY hc)
theorem Z7s {b:Z5} (hg:b.rng) {k:Nat} {s:Z4} (hs:b.steps[k]? = some s):s.rng:=by
 rw [Z5.rng_eq,TM] at hg
 exact hg s (ZY hs)
structure ZS (n:Zt) (q l:Nat):Prop where
 decls:AD n.decls
 len:1<=n.routines.length/\n.routines.length<=4
 rt:∀r∈n.routines,r.params.length<=3/\r.lent.length<=l/\r.body.sz<=q/\r.body.rng
theorem ZN.zs {n:Zt} {q:Nat} (h:ZN n q):ZS n q 10:=⟨h.decls,h.len,fun r hr=>⟨(h.rt r hr).params,(h.rt r hr).lent,(h.rt r hr).body,(h.rt r hr).rng⟩⟩
theorem ZS.le {n:Zt} {q q2 l l2:Nat} (h:ZS n q l) (hq:q<=q2) (hl:l<=l2):ZS n q2 l2:=⟨h.decls,h.len,fun r hr=>by obtain ⟨a,b,c,d⟩:=h.rt r hr;exact ⟨a,by omega,by omega,d⟩⟩
theorem ZS.sz {n:Zt} {q l:Nat} (h:ZS n q l) (hq:q<=10000000) (hl:l<=1000):Um n:=
 ⟨⟨by have:=h.decls.1;omega,fun d hd=>by have:=(h.decls.2 d hd).1;omega,fun d hd c hc=>by have:=(h.decls.2 d hd).2 c hc;omega⟩,by have:=h.len;omega,fun r hr=>by have:=(h.rt r hr).1;omega,fun r hr=>by have:=(h.rt r hr).2.1;omega,fun r hr=>by have:=(h.rt r hr).2.2.1;omega⟩
theorem ZS.set {n:Zt} {q l q2 l2:Nat} {f:Nat} {rt:ZZ} {ls:LI} {b:Z5} (h:ZS n q l) (hr:n.routines[f]? = some rt) (hq:q<=q2) (hl:l<=l2) (hls:ls.length<=l2) (hb:b.sz<=q2) (hg:b.rng):ZS ⟨n.decls,n.routines.set f ⟨rt.params,ls,rt.result,b⟩⟩ q2 l2:=by
 refine ⟨h.decls,by show 1<=(n.routines.set _ _).length/\(n.routines.set _ _).length<=4;rw [T1];exact h.len,fun r hm=>?_⟩
 rcases List.mem_or_eq_of_mem_set hm with hm|rfl
 ·exact (h.le hq hl).rt r hm
 ·have:=h.rt rt (ZY hr)
  exact ⟨this.1,hls,hb,hg⟩
theorem ZS.ds {n:Zt} {q l:Nat} {ds:List Ze} (h:ZS n q l) (hd:AD ds):ZS ⟨ds,n.routines⟩ q l:=⟨hd,h.len,h.rt⟩
section
variable {n n2:Zt} (hd:n2.decls=n.decls) (hr:∀vars op num args,Tx n2 vars op num args=Tx n vars op num args)
include hd hr
end
mutual
def Kj:Z4->Z4
 | .mk op num _ args kids=>.mk op num 0 args (WI kids)
def XI:Z5->Z5
 | .mk steps result=>.mk (Vh steps) result
def Vh:List Z4->List Z4
 | []=>[]
 | s::r=>if Yd s.op=true then Vh r else Kj s::Vh r
def WI:List Z5->List Z5
 | []=>[]
 | b::r=>XI b::WI r
end
theorem NP (b:Z5):XI b=.mk (Vh b.steps) b.result:=by cases b;rw [XI];rfl
theorem Z75 (s:Z4):Kj s=.mk s.op s.num 0 s.args (WI s.kids):=by cases s;rw [Kj];rfl
theorem Z74 (b:Z5):(XI b).steps=Vh b.steps:=by rw [NP];rfl
theorem Z73 (b:Z5):(XI b).result=b.result:=by rw [NP];rfl
def Ki (r:ZZ):ZZ:=⟨r.params,r.lent,r.result,XI r.body⟩
def Ao (n:Zt):Zt:=⟨n.decls,n.routines.map Ki⟩
theorem Z7b {xs zs w:List Z4} {k:Nat} {s:Z4} (h:xs[k]? = some s) (hc:Yd s.op=true) (ha:zs++Vh (xs.drop k)=w):zs++Vh (xs.drop (k+1))=w:=by
 rw [Y3 h,Vh,Zm hc] at ha;exact ha
theorem Z79 {xs zs w:List Z4} {k:Nat} {s:Z4} (h:xs[k]? = some s) (hc:¬Yd s.op=true) (ha:zs++Vh (xs.drop k)=w):(zs++[Z4.mk s.op s.num 0 s.args (WI s.kids)])++Vh (xs.drop (k+1))=w:=by
 rw [Y3 h,Vh,Za hc,Z75] at ha;rw [Ul];exact ha
theorem Z78 {xs zs w:List Z4} {k:Nat} (h:xs.length<=k) (ha:zs++Vh (xs.drop k)=w):zs=w:=by
 rw [YY h,Vh,J4] at ha;exact ha
theorem Z7d {xs zs w:List Z5} {k:Nat} {s:Z5} (h:xs[k]? = some s) (ha:zs++WI (xs.drop k)=w):(zs++[XI s])++WI (xs.drop (k+1))=w:=by
 rw [Y3 h,WI] at ha;rw [Ul];exact ha
theorem Z7c {xs zs w:List Z5} {k:Nat} (h:xs.length<=k) (ha:zs++WI (xs.drop k)=w):zs=w:=by
 rw [YY h,WI,J4] at ha;exact ha
mutual
theorem Z6r:∀(s:Z4),¬Yd s.op=true->Ap (Kj s)=true
 | .mk op num into args kids,h=>by
  have h:¬Yd op=true:=h
  rw [Kj,Ap,NJ kids,UR.2 h];rfl
theorem NI:∀(b:Z5),WH (XI b)=true
 | .mk steps _=>by rw [XI,WH];exact HB steps
theorem HB:∀(xs:List Z4),Vv (Vh xs)=true
 | []=>by rw [Vh,Vv]
 | s::r=>by
  rw [Vh]
  split
  ·exact HB r
  ·rename_i h
   rw [Vv,Z6r s h,HB r];rfl
theorem NJ:∀(xs:List Z5),Vg (WI xs)=true
 | []=>by rw [WI,Vg]
 | b::r=>by rw [WI,Vg,NI b,NJ r];rfl
end
mutual
theorem Z7a:∀(s:Z4),Ap s=true->Kj s=s
 | .mk op num into args kids,h=>by
  rw [Ap,Xx,Xx,Zr] at h
  rw [Kj,NW kids h.2,h.1.2]
theorem NV:∀(b:Z5),WH b=true->XI b=b
 | .mk steps _,h=>by rw [WH] at h;rw [XI,NY steps h]
theorem NY:∀(xs:List Z4),Vv xs=true->Vh xs=xs
 | [],_=>by rw [Vh]
 | s::r,h=>by
  rw [Vv,Xx] at h
  have h1:=h.1
  rw [HA,Xx,Xx] at h1
  rw [Vh,Za (by simpa using h1.1.1),Z7a s h.1,NY r h.2]
theorem NW:∀(xs:List Z5),Vg xs=true->WI xs=xs
 | [],_=>by rw [WI]
 | b::r,h=>by rw [Vg,Xx] at h;rw [WI,NV b h.1,NW r h.2]
end
theorem NH:∀(rs:List ZZ),Uy (rs.map Ki)=true
 | []=>by rw [AE,Uy]
 | r::rs=>by rw [VQ,Uy,NH rs];show (WH (XI r.body)&&true)=true;rw [NI];rfl
theorem NX:∀(rs:List ZZ),Uy rs=true->rs.map Ki=rs
 | [],_=>rfl
 | r::rs,h=>by rw [Uy,Xx] at h;rw [VQ,NX rs h.2,Ki,NV _ h.1]
theorem Z6o {n:Zt}:Ao n=n↔Uy n.routines=true:=by
 constructor
 ·intro h
  have e:n.routines.map Ki=n.routines:=Yc Zt.routines h
  rw [<-e];exact NH _
 ·intro h
  rw [Ao,NX _ h]
section
variable {n:Zt}
end
def KY (n:Zt):Zt:=if Wg n=true then Ao n else ⟨[],[]⟩
theorem Dj {n:Zt} (h:Wg n=true):KY n=Ao n:=Zm h
theorem F4 {n:Zt} (h:¬Wg n=true):KY n=⟨[],[]⟩:=Za h
theorem Z49 {n:Zt} (h:Wg n=true):VD n=true↔Ao n=n:=by rw [Z6o,VD,h,Bool.true_and]
noncomputable instance decBlock:DecidableEq Z5:=fun a b=>Classical.propDecidable (a=b)
noncomputable instance decStep:DecidableEq Z4:=fun a b=>Classical.propDecidable (a=b)
noncomputable instance decDecls:DecidableEq Ze:=fun a b=>Classical.propDecidable (a=b)
noncomputable instance decNormal:DecidableEq Zt:=fun a b=>Classical.propDecidable (a=b)
theorem Cz {α:Type} {xs ys:List α} (h:xs.length=ys.length) (ha:∀i,i<xs.length->xs[i]? = ys[i]?):xs=ys:=List.ext_getElem? fun i=>by
 by_cases hi:i<xs.length
 ·exact ha i hi
 ·rw [Cg om,Cg om]
theorem Dz {α:Type} {xs ys:List α} {k:Nat} {x y:α} (h:∀i,i<k->xs[i]? = ys[i]?) (hx:xs[k]? = some x) (hy:ys[k]? = some y) (e:x=y):∀i,i<k+1->xs[i]? = ys[i]?:=fun i hi=>
 (Nat.lt_succ_iff_lt_or_eq.1 hi).elim (h i) fun z=>by rw [z,hx,hy,e]
theorem Dy {α:Type} {xs ys:List α}:∀i,i<0->xs[i]? = ys[i]?:=fun i h=>absurd h om
theorem Bv {α:Type} {xs ys:List α} {k:Nat} {x y:α} (hx:xs[k]? = some x) (hy:ys[k]? = some y) (e:x≠y):xs≠ys:=fun z=>by rw [z,hy] at hx;cases hx;exact e rfl
theorem Z4.ext4 {s t:Z4} (h1:s.op=t.op) (h2:s.num=t.num) (h3:s.into=t.into) (h4:s.args=t.args) (h5:s.kids=t.kids):s=t:=by cases s;cases t;simp only [Z4.op,Z4.num,Z4.into,Z4.args,Z4.kids] at h1 h2 h3 h4 h5;subst h1 h2 h3 h4 h5;rfl
theorem Z5.ext2 {s t:Z5} (h1:s.steps=t.steps) (h2:s.result=t.result):s=t:=by cases s;cases t;simp only [Z5.steps,Z5.result] at h1 h2;subst h1 h2;rfl
theorem Y1.ext1 {s t:Y1} (h1:s.fields=t.fields):s=t:=by cases s;cases t;simp at h1;rw [h1]
theorem Ze.ext3 {s t:Ze} (h1:s.frm=t.frm) (h2:s.to_=t.to_) (h3:s.cons=t.cons):s=t:=by cases s;cases t;simp at h1 h2 h3;rw [h1,h2,h3]
theorem ZZ.ext4 {s t:ZZ} (h1:s.params=t.params) (h2:s.lent=t.lent) (h3:s.result=t.result) (h4:s.body=t.body):s=t:=by cases s;cases t;simp at h1 h2 h3 h4;rw [h1,h2,h3,h4]
theorem Zt.ext2 {s t:Zt} (h1:s.decls=t.decls) (h2:s.routines=t.routines):s=t:=by cases s;cases t;simp at h1 h2;rw [h1,h2]
mutual
theorem Z77:∀(s:Z4),(Kj s).sz<=s.sz
 | .mk op num into args kids=>by rw [Kj,Z4.sz,Z4.sz];have:=NT kids;omega
theorem NR:∀(b:Z5),(XI b).sz<=b.sz
 | .mk steps _=>by rw [XI,Z5.sz,Z5.sz];have:=NU steps;omega
theorem NU:∀(xs:List Z4),Yk (Vh xs)<=Yk xs
 | []=>by rw [Vh];exact YT _
 | s::r=>by
  rw [Vh]
  have h1:=NU r
  have h2:=Z77 s
  split
  ·rw [Yk];omega
  ·rw [Yk,Yk];omega
theorem NT:∀(xs:List Z5),YQ (WI xs)<=YQ xs
 | []=>by rw [WI];exact YT _
 | b::r=>by
  have h1:=NT r
  have h2:=NR b
  rw [WI,YQ,YQ];omega
end
mutual
theorem Z76:∀(s:Z4),s.rng->(Kj s).rng
 | .mk op num into args kids,h=>by rw [Z4.rng] at h;rw [Kj,Z4.rng];exact ⟨h.1,NS kids h.2⟩
theorem NQ:∀(b:Z5),b.rng->(XI b).rng
 | .mk steps _,h=>by rw [Z5.rng] at h;rw [XI,Z5.rng];exact HE steps h
theorem HE:∀(xs:List Z4),Ti xs->Ti (Vh xs)
 | [],h=>by rw [Vh];exact h
 | s::r,h=>by
  rw [Ti] at h
  rw [Vh]
  split
  ·exact HE r h.2
  ·rw [Ti];exact ⟨Z76 s h.1,HE r h.2⟩
theorem NS:∀(xs:List Z5),UT xs->UT (WI xs)
 | [],h=>by rw [WI];exact h
 | b::r,h=>by rw [UT] at h;rw [WI,UT];exact ⟨NQ b h.1,NS r h.2⟩
end
theorem Z72 {n:Zt} (h:Um n):Um (KY n):=by
 by_cases hv:Wg n=true
 ·rw [Dj hv]
  refine ⟨h.decls,by show (n.routines.map Ki).length<=_;rw [JN];exact h.len,?_,?_,?_⟩
  ·intro r hr;obtain ⟨q,hq,rfl⟩:=XD.1 (show r∈n.routines.map Ki from hr);exact h.params q hq
  ·intro r hr;obtain ⟨q,hq,rfl⟩:=XD.1 (show r∈n.routines.map Ki from hr);exact h.lent q hq
  ·intro r hr;obtain ⟨q,hq,rfl⟩:=XD.1 (show r∈n.routines.map Ki from hr);exact WL (NR q.body) (h.body q hq)
 ·rw [F4 hv]
  exact ⟨⟨by simp,fun d hd=>(by cases hd),fun d hd=>(by cases hd)⟩,by simp,fun r hr=>(by cases hr),fun r hr=>(by cases hr),fun r hr=>(by cases hr)⟩
theorem Z71 {n:Zt} (h:∀r∈n.routines,r.body.rng):∀r∈(KY n).routines,r.body.rng:=by
 by_cases hv:Wg n=true
 ·rw [Dj hv]
  intro r hr;obtain ⟨q,hq,rfl⟩:=XD.1 (show r∈n.routines.map Ki from hr);exact NQ q.body (h q hq)
 ·rw [F4 hv]
  intro r hr;cases hr
theorem Z4a {n:Zt} (h:Wg n=true):VD n=decide (KY n=n):=by
 rw [Dj h,X8,Z49 h,decide_eq_true_iff]
theorem Z4b {n:Zt} (h:¬Wg n=true):VD n=false:=by rw [VD,UR.2 h];rfl
end Go.Abs
