/-
  A part of the proofs of several laws (see the last file): no condition.
-/
import Derived.Test.YtabmbhgiodcppaaGreatXbA
import Derived.Test.YtabmbhgiodcppaaGreatRows
import Derived.Deep.Slices
import Derived.ChangeArms
set_option linter.all false
set_option linter.unusedVariables false
set_option linter.unusedSimpArgs false
set_option linter.unusedSectionVars false
set_option maxRecDepth 10000
set_option maxHeartbeats 4000000
section
namespace Go.Abs
structure Vq where
 fields:LI
 fv:Value
structure Vj where
 frm:Int
 to_:Int
 cons:List Vq
 cv:Value
mutual
inductive Ci where
 | mk (op num into:Int) (args:LI) (av:Value) (kids:List Br) (kv:Value)
inductive Br where
 | mk (steps:List Ci) (sv:Value) (result:Int)
end
namespace Ci
end Ci
namespace Br
end Br
structure FZ where
 params:LI
 pv:Value
 lent:LI
 lv:Value
 result:Int
 body:Br
structure Nf where
 decls:List Vj
 dv:Value
 routines:List FZ
 rv:Value
abbrev PY (c:Vq):List AV:=[ZL c.fields c.fv]
abbrev Nj (c:Vq):AV:=.agg (PY c)
def Uj (cs:List Vq):List AV:=cs.map Nj
abbrev Fc (xs:List Vq) (v:Value):AV:=.sl (Uj xs) (some v)
abbrev R0 (d:Vj):List AV:=[.i d.frm,.i d.to_,Fc d.cons d.cv]
abbrev Nk (d:Vj):AV:=.agg (R0 d)
def Vm (ds:List Vj):List AV:=ds.map Nk
abbrev Zc9 (xs:List Vj) (v:Value):AV:=.sl (Vm xs) (some v)
@[simp] theorem Zii (xs:List Vq):(Uj xs).length=xs.length:=by simp [Uj]
theorem Z5g (xs ys:List Vq):Uj (xs++ys)=Uj xs++Uj ys:=by simp [Uj]
theorem O8 (xs:List Vq):∀y∈Uj xs,y.leaves.length=1:=by intro y hy;simp only [Uj,XA] at hy;obtain ⟨x,_,rfl⟩:=hy;rfl
@[simp] theorem Zij (xs:List Vj):(Vm xs).length=xs.length:=by simp [Vm]
theorem Z5h (xs ys:List Vj):Vm (xs++ys)=Vm xs++Vm ys:=by simp [Vm]
theorem O9 (xs:List Vj):∀y∈Vm xs,y.leaves.length=3:=by intro y hy;simp only [Vm,XA] at hy;obtain ⟨x,_,rfl⟩:=hy;rfl
def EP (c:Vq):List (Value × Nat):=[(c.fv,1)]
def Qk (cs:List Vq):List (Value × Nat):=cs.flatMap EP
def EQ (d:Vj):List (Value × Nat):=Qk d.cons++[(d.cv,1)]
def QE (ds:List Vj):List (Value × Nat):=ds.flatMap EQ
mutual
def ES:Ci->List (Value × Nat)
 | .mk _ _ _ _ av kids kv=>(av,1)::(K4 kids++[(kv,2)])
def DL:Br->List (Value × Nat)
 | .mk steps sv _=>K5 steps++[(sv,5)]
def K5:List Ci->List (Value × Nat)
 | []=>[]
 | s::r=>ES s++K5 r
def K4:List Br->List (Value × Nat)
 | []=>[]
 | b::r=>DL b++K4 r
end
def ER (r:FZ):List (Value × Nat):=(r.pv,1)::(r.lv,1)::DL r.body
def B4 (rs:List FZ):List (Value × Nat):=rs.flatMap ER
def GQ (n:Nf):List (Value × Nat):=QE n.decls++((n.dv,3)::(B4 n.routines++[(n.rv,5)]))
theorem ET:∀(xs:List Ci) (ys:List Ci),K5 (xs++ys)=K5 xs++K5 ys
 | [],ys=>by simp [K5]
 | x::r,ys=>by rw [KQ,K5,K5,ET r ys,Vi]
theorem EO:∀(xs:List Br) (ys:List Br),K4 (xs++ys)=K4 xs++K4 ys
 | [],ys=>by simp [K4]
 | x::r,ys=>by rw [KQ,K4,K4,EO r ys,Vi]
theorem GS:K5 []=[]:=by rw [K5]
theorem GM:K4 []=[]:=by rw [K4]
theorem GN (xs ys:List Vq):Qk (xs++ys)=Qk xs++Qk ys:=by simp [Qk]
theorem GO (xs ys:List Vj):QE (xs++ys)=QE xs++QE ys:=by simp [QE]
theorem GR (xs ys:List FZ):B4 (xs++ys)=B4 xs++B4 ys:=by simp [B4]
def Vq.er (c:Vq):Yh:=⟨c.fields⟩
def Vj.er (d:Vj):Zd:=⟨d.frm,d.to_,d.cons.map Vq.er⟩
inductive Qw:List AV->List AV->Prop
 | nil:Qw [] []
 | cons {x y:AV} {xs ys:List AV} (hl:x.leaves.length=y.leaves.length) (h:Wm x.leaves y.leaves) (t:Qw xs ys):Qw (x::xs) (y::ys)
theorem Qw.length:∀{xs ys:List AV},Qw xs ys->xs.length=ys.length
 | _,_,.nil=>rfl
 | _,_,.cons _ _ t=>by simp [t.length]
theorem Qw.els {w:World} {G:Yn} {k b:Nat}:∀{o:Nat} {xs ys:List AV},Qw xs ys->Va w G k b o xs->Va w G k b o ys
 | _,_,_,.nil,_=>.nil
 | _,_,_,.cons hl h t,.cons hk hm r=>.cons (hl▸hk) (h.mem hm) (t.els r)
theorem Ze.els {es es':List AV} (hv:Option Value) (h:Qw es es'):Ze (.sl es hv) (.sl es' none):=by
 intro w G v hr
 cases hr with
 | nil _=>cases h;exact .nil (by simp)
 | sl _ hc hm=>rw [h.length] at hc ⊢;exact .sl (by simp) hc (h.els hm)
theorem Qw.map {α β:Type} {f:α->AV} {g:β->AV} {e:α->β} (h:∀x,(f x).leaves.length=(g (e x)).leaves.length/\Wm (f x).leaves (g (e x)).leaves):∀xs:List α,Qw (xs.map f) ((xs.map e).map g)
 | []=>.nil
 | x::r=>.cons (h x).1 (h x).2 (Qw.map h r)
theorem Zbp (c:Vq):Wm (PY c) (DR c.er):=.cons (Ze.forget _ _) .nil
theorem Z5x (cs:List Vq):Qw (Uj cs) (Xy (cs.map Vq.er)):=Qw.map (f:=Nj) (g:=Cl) (e:=Vq.er) (fun c=>⟨rfl,Zbp c⟩) cs
theorem Zbq (d:Vj):Wm (R0 d) (J8 d.er):=.cons (Ze.refl _) (.cons (Ze.refl _) (.cons (Ze.els _ (Z5x _)) .nil))
theorem Z5y (ds:List Vj):Qw (Vm ds) (Yy (ds.map Vj.er)):=Qw.map (f:=Nk) (g:=Cm) (e:=Vj.er) (fun c=>⟨rfl,Zbq c⟩) ds
theorem KC {es:List AV} {k:Nat} (h:es.all (fun y=>Nat.beq y.leaves.length k)=true):∀y∈es,y.leaves.length=k:=fun y hy=>Tq (Ay.1 h y hy)
abbrev rK (g:Hd) (k:Nat) (ls:List AV):Res:=.row g.v k ls
section
variable {P:Program} {n:Nat} {c:Code} {A:WX} {F:Fr} {h:List Res} {ops:Array Oper} {B:Fr->List Res->Prop} {k:Nat}
variable {T:List (Nat × List Nat)} {fuel:Nat} {done:List Nat}
theorem tB (is:List Nat) (hs:List Res) (L' L:List (Value × Nat)) (e:L'=L) (hp:XY is h=some hs:=by kernel_rfl) (hb:QV hs=some L':=by kernel_rfl):WY h (.many L::Xw is h):=e▸Zhf is hp hb
theorem rr {v:Value} {q:Nat} {ls ls':List AV} {t t':List Res} (h:ls=ls') (e:t=t'):Res.row v q ls::t=.row v q ls'::t':=h▸e▸rfl
theorem H6 (j m:Nat) (v:Hd) (kk:Nat) (ls:List AV) (hm:ls.length=m*kk) (hk:0<kk:=by omega) (hl:DT P ops F k=some (.h v):=by kernel_rfl) (hj:h[j]? = some (rK v kk ls):=by kernel_rfl):W1 P (ZU ops k) F h [] (.i m):=
 Zgp j hl hj hm hk
theorem XJ (b l c' q sz:Nat) (j:Int) (hq:j=(q:Int)/\q<l:=by omega) (hi:BL P ops F k=some (.val (.slice (some ⟨b,0,none⟩) l c'),j,sz):=by kernel_rfl):W1 P (ZU ops k) F h [] (.val (.pointer (some ⟨b,q*sz,none⟩))):=by
 have:=Z11 (P:=P) (F:=F) (h:=h) hi om om
 rw [hq.1,TF,Wg] at this
 exact this
theorem WM (j g len cap kk o:Nat) (ls zs:List AV) (t:TypeId) (y:AV) (hz:(ls.drop o).take zs.length=zs) (hl:M7 ops F k=some (t,.val (.pointer (some ⟨g,o,none⟩))):=by kernel_rfl) (hj:h[j]? = some (.row (.slice (some ⟨g,0,none⟩) len cap) kk ls):=by kernel_rfl)
  (hy:B9 P t zs=some y:=by kernel_rfl):W1 P (ZU ops k) F h [g] y:=Zgq j hl hj hz hy
theorem DM (j g len cap kk o:Nat) (xs ls:List AV) (ls':List AV) (hlt:o+xs.length<=ls.length) (he:ls.take o++xs++ls.drop (o+xs.length)=ls') (H:SI P n ops B (k+1) F (.row (.slice (some ⟨g,0,none⟩) len cap) kk ls'::Xw [j] h)) (hk:Xp n ops F k=true:=by kernel_rfl)
  (hs:storeAt P ops F k=some (g,o,xs):=by kernel_rfl) (hp:XY [j] h=some [.row (.slice (some ⟨g,0,none⟩) len cap) kk ls]:=by kernel_rfl):SI P n ops B k F h:=
 QF hk (WP.perm (Uo (VN hp)) (RC hs hlt (by rw [he];exact H)))
theorem Qy (i j:Nat) (js bs:List Nat) (g len cap kk o:Nat) (xs ls:List AV) (ls':List AV) (hlt:o+xs.length<=ls.length) (he:ls.take o++xs++ls.drop (o+xs.length)=ls')
  (H:X7 P n ops B (T.filter fun t=>!VA ops i t.1) fuel (done++[i]) F (.row (.slice (some ⟨g,0,none⟩) len cap) kk ls'::Xw [j] h)) (hk:Xp n ops F i=true:=by kernel_rfl)
  (hs:storeAt P ops F i=some (g,o,xs):=by kernel_rfl) (hp:XY [j] h=some [.row (.slice (some ⟨g,0,none⟩) len cap) kk ls]:=by kernel_rfl) (ho:UR ops i T=bs:=by kernel_rfl)
  (hj:js.map (fun q=>(V7 (Xw [j] h))[q]?)=bs.map some:=by kernel_rfl):U8 P n ops B T fuel done F h i:=
 Ad [j] js bs hk (VN hp) ho hj (RC (h2:=[]) hs hlt (by rw [he];exact H))
theorem BK (sz:Nat) (hK:∀g,SI P n ops B (k+1) (F.put (ZU ops k).dst (.val (.slice (some ⟨g,0,none⟩) 0 0))) (.row (.slice (some ⟨g,0,none⟩) 0 0) sz []::h)) (hk:Xp n ops F k=true:=by kernel_rfl)
  (ha:TA P ops F k=some ([],0,sz):=by kernel_rfl):SI P n ops B k F h:=QF hk (Zco (US hk).2.1 ha hK)
theorem GZ (j g sz:Nat) (xs:List AV) (hx:Option Value) (hxs:∀y∈xs,y.leaves.length=sz) (hbound:xs.length<=4294967296) (hK:∀v:Hd,SI P n ops B (k+1) (F.put (ZU ops k).dst (.h v)) (rK v sz (Z9 xs)::Xw [j] h))
  (hk:Xp n ops F k=true:=by kernel_rfl) (ha:TU P ops F k=some (.val (.slice (some ⟨g,0,none⟩) 0 0),.sl xs hx,sz):=by kernel_rfl) (hp:XY [j] h=some [.row (.slice (some ⟨g,0,none⟩) 0 0) sz []]:=by kernel_rfl):SI P n ops B k F h:=
 QF hk (WP.perm (Uo (VN hp)) (Zcn (US hk).2.1 ha hxs hbound hK))
theorem F4 (j m:Nat) {v:Hd} {kk:Nat} {ls:List AV} (hm:ls.length=m*kk) (h0:0<m) (H:∀g c',v=⟨some ⟨g,0,none⟩,m,c'⟩->YC P n c A F h) (hk:0<kk:=by omega) (hj:h[j]? = some (rK v kk ls):=by kernel_rfl):YC P n c A F h:=
 Z2k j m hj hm hk h0 H
theorem PT (t j:Nat) {v:Hd} {kk:Nat} (es:List AV) (hes:∀y∈es,y.leaves.length=kk) (H:YC P n c A ((t,.sl es (some v.v))::F) (.tail v.v kk::Xw [j] h)) (hk:0<kk:=by omega) (hF':F.get t=.h v:=by kernel_rfl)
  (hp:XY [j] h=some [rK v kk (Z9 es)]:=by kernel_rfl):YC P n c A F h:=Z2j t j hF' hp hes hk H
theorem Zh1 (j i p:Nat) (u v:Value) (kk kv:Nat) (es ls:List AV) (hes:∀y∈es,y.leaves.length=kk) (hl:ls[p]? = some (.val u)) (hk:0<kk:=by omega) (hp:XY [j,i] h=some [.row u kk (Z9 es),.row v kv ls]:=by kernel_rfl) :
  WY h (.row v kv (ls.set p (.sl es (some u)))::.tail u kk::Xw [j,i] h):=Z1n j i p hp hes hk hl
theorem Fs {A xs ys B:List AV} {o:Nat} (hA:A.length=o) (hl:xs.length=ys.length):(A++(xs++B)).take o++ys++(A++(xs++B)).drop (o+ys.length)=A++(ys++B):=by
 subst hA
 rw [JT,<-hl,<-List.drop_drop,List.drop_left,List.drop_left,Vi]
theorem HF {A xs B:List AV} {o:Nat} (hA:A.length=o):((A++(xs++B)).drop o).take xs.length=xs:=by
 subst hA
 rw [List.drop_left,JT]
theorem Th (xs ys:List AV):Z9 (xs++ys)=Z9 xs++Z9 ys:=by simp [Z9]
theorem Ek (j:Nat) (v:Value) (q:Nat) (ls ls':List AV) (e:ls=ls') (hp:XY [j] h=some [.row v q ls]:=by kernel_rfl):WY h (.row v q ls'::Xw [j] h):=by
 subst e
 intro w G hh
 have hp':=Uo (VN hp)
 exact ⟨G,hh.perm hp',(X4.refl w G h).perm (TH _) hp'⟩
end
end Go.Abs
end
section
namespace Go.Abs
theorem YJ.rgrow {w:World} {G:Yn} {h2:List Res} {g len len' cap k:Nat} {ls ls':List AV} (hh:YJ w G (.row (.slice (some ⟨g,0,none⟩) len cap) k ls::h2)) {cs cs':Array Value} {e:TypeId}
  (hb:w.heap[g]? = some (.cells cs e (0,0))) (XQ:cs'.size=cs.size) (hle:len'<=cap) (hcap:cs.size=cap*k) (hl:ls'.length=len'*k) (hls:YW w G ls' (cs'.toList.take (len'*k))) :
  YJ (w.setRow g cs') G (.row (.slice (some ⟨g,0,none⟩) len' cap) k ls'::h2) /\
   X4 w G (.row (.slice (some ⟨g,0,none⟩) len cap) k ls::h2) (w.setRow g cs') G (.row (.slice (some ⟨g,0,none⟩) len' cap) k ls'::h2):=by
 have hmem:Res.row (.slice (some ⟨g,0,none⟩) len cap) k ls∈Res.row (.slice (some ⟨g,0,none⟩) len cap) k ls::h2:=Xo ..
 have hA:U7 G w (w.setRow g cs') G:=⟨fun c j hg=>by
  have hne:c≠g:=fun he=>hh.prot _ hmem c j he hg
  simp [World.cell?,VU w g c cs' hne],fun _ _ h=>h⟩
 have e1:X4 w G [.row (.slice (some ⟨g,0,none⟩) len cap) k ls] (w.setRow g cs') G [.row (.slice (some ⟨g,0,none⟩) len' cap) k ls']:=by
  refine ⟨rfl,rfl,rfl,by simp [World.setRow],fun _ _ h=>h,?_,fun _ _ _ h=>.inl h,?_⟩
  ·intro c hc
   by_cases hcb:c=g
   ·subst hcb
    exact .inr ⟨cs,cs',e,(0,0),hb,setRow_heap w c cs cs' e (0,0) hb,XQ,fun j hj=>absurd ⟨_,Xo ..,rfl⟩ hj⟩
   ·exact .inl (VU w g c cs' hcb)
  ·rintro c j _ ⟨r,hr,hf⟩
   rw [XF.1 hr] at hf
   exact ⟨_,Xo ..,hf⟩
 have e2:YJ (w.setRow g cs') G [.row (.slice (some ⟨g,0,none⟩) len' cap) k ls']:=by
  refine ⟨fun r hr=>?_,Ep _ _,fun r hr c j hf hg=>?_,fun c j hg=>?_⟩
  ·rw [XF.1 hr]
   exact .inr ⟨g,len',cap,cs',e,rfl,setRow_heap w g cs cs' e (0,0) hb,hle,XQ.trans hcap,hl,hls.mono hA⟩
  ·rw [XF.1 hr] at hf
   exact hh.prot _ hmem c j hf hg
  ·have:=hh.lt c j hg
   simpa [World.setRow] using this
 exact YJ.frame (h:=[.row (.slice (some ⟨g,0,none⟩) len cap) k ls]) (k:=h2) hh e1 e2
section
variable {P:Program} {n:Nat} {ops:Array Oper} {k:Nat} {F:Fr} {h2:List Res}
theorem RA {K:Fr->List Res->Prop} {v:Hd} {sz m:Nat} {ls xs:List AV} {hx:Option Value} (hd:VY n (ZU ops k)=true) (ha:TU P ops F k=some (.val v.v,.sl xs hx,sz))
  (hxs:∀y∈xs,y.leaves.length=sz) (hone:(Z9 xs).all AV.one=true) (hm0:ls.length=m*sz) (hk0:0<sz) (hne:xs≠[]) (hbound:m+xs.length<=4294967296)
  (hK:∀v':Hd,K (F.put (ZU ops k).dst (.val v'.v)) (.row v'.v sz (ls++Z9 xs)::h2)):WP P n (ZU ops k) F (.row v.v sz ls::h2) K:=by
 unfold TU at ha
 generalize hoo:ZU ops k=o at ha hd hK
 obtain ⟨dst,op,type,pos,after,guard⟩:=o
 cases op<;>simp only at ha<;>try (cases ha)
 rename_i c
 obtain ⟨callee,args,tys⟩:=c
 simp only at ha
 split at ha
 case h_2=>cases ha
 rename_i s x t t' hargs htys
 split at ha
 case h_2=>cases ha
 rename_i e htt ht
 have:=Tq htt
 subst this
 split at ha
 case h_2=>cases ha
 rename_i i hinfo
 split at ha
 case h_2=>cases ha
 rename_i z hz
 split at ha
 case h_2=>cases ha
 rename_i hb
 simp only [Xj] at hb
 simp only [WB,Prod.mk.injEq] at ha
 obtain ⟨h3,h4,hk1⟩:=ha
 have e1:args=#[s,x]:=by rw [<-TE (xs:=args),hargs]
 have e2:tys=#[t,t]:=by rw [<-TE (xs:=tys),htys]
 subst e1;subst e2
 have hzs:z.cells.size=sz:=by rw [Tq hb.1,hk1]
 have hby:=Vp hb.2
 have hfl:=UN xs hxs
 intro Q w G a hF hh
 have v1:=hF.ev s
 have v2:=hF.ev x
 rw [h3] at v1
 rw [h4] at v2
 have v1:=v1.val_inv
 have v2:=v2.forget
 have finish:∀(v':Hd) w',(Builtin.append_ #[t,t] type #[v.v,a.eval x]).run P w=.ok v'.v w'->YJ w' G (.row v'.v sz (ls++Z9 xs)::h2)->X4 w G (.row v.v sz ls::h2) w' G (.row v'.v sz (ls++Z9 xs)::h2) ->
   ({ dst:=dst,op:=.call { callee:=.builtin .append,args:=#[s,x],argTypes:=#[t,t] },type:=type,pos:=pos,after:=after,guard:=guard }:Oper).wp P a w
    (fun a' w'=>∃F' h' G',K F' h'/\FR w' G' n F' a'/\YJ w' G' h'/\X4 w G (.row v.v sz ls::h2) w' G' h') Q:=by
  intro v' w' hr j1 j2
  have hrun:(execOp a.eval { dst:=dst,op:=.call { callee:=.builtin .append,args:=#[s,x],argTypes:=#[t,t] },type:=type,pos:=pos,after:=after,guard:=guard }).run P w=.ok (.value v'.v) w':=by
   simp only [execOp,resolve,invoke,builtin,Sem.run_bind,Sem.run_pure,Result.andThen_ok,FQ,T7,FP,v1,hr]
  unfold Oper.wp
  rw [hrun]
  exact ⟨_,_,G,hK v',(hF.mono (j2.agree hh)).put (TL hd) .val,j1,j2⟩
 have hrow0:=hh.ok (.row v.v sz ls) (Xo ..)
 have hsub2:∀r:Res,List.Sublist (r::h2) (r::.row v.v sz ls::h2):=fun r=>List.Sublist.cons_cons _ (Ce _ _)
 have grown:∀(olds news:List Value) (old:Nat),YW w G ls olds->YW w G (Z9 xs) news ->
   YJ (w.drew.alloc (.cells (olds.toArray++news.toArray++Builtin.zeroCells z.cells (grownCap w (m+xs.length) old e-(m+xs.length))) e)) G
    (.row (.slice (some ⟨w.heap.size,0,none⟩) (m+xs.length) (grownCap w (m+xs.length) old e)) sz (ls++Z9 xs)::h2) /\
   X4 w G (.row v.v sz ls::h2) (w.drew.alloc (.cells (olds.toArray++news.toArray++Builtin.zeroCells z.cells (grownCap w (m+xs.length) old e-(m+xs.length))) e)) G
    (.row (.slice (some ⟨w.heap.size,0,none⟩) (m+xs.length) (grownCap w (m+xs.length) old e)) sz (ls++Z9 xs)::h2):=by
  intro olds news old ho hn
  have Xm:=grownCap_ge w (m+xs.length) old e
  have hol:=ho.length
  have hnl:=hn.length
  have hlen:(ls++Z9 xs).length=(m+xs.length)*sz:=by rw [Yr,hm0,hfl,QS]
  obtain ⟨j1,j2⟩:=hh.drew.alloc_rrow (olds.toArray++news.toArray++Builtin.zeroCells z.cells (grownCap w (m+xs.length) old e-(m+xs.length))) e
   (ls:=ls++Z9 xs) (len:=m+xs.length) (cap:=grownCap w (m+xs.length) old e) (k:=sz) Xm
   (by
    have q2:(grownCap w (m+xs.length) old e-(m+xs.length))*sz=grownCap w (m+xs.length) old e*sz-(m+xs.length)*sz:=Nat.sub_mul ..
    have q3:(m+xs.length)*sz<=grownCap w (m+xs.length) old e*sz:=Jn _ Xm
    have q4:(m+xs.length)*sz=m*sz+xs.length*sz:=QS ..
    simp only [Array.size_append,FU,size_zeroCells,hzs,hol,hnl,hm0,hfl]
    omega) hlen
   (by
    have:(olds.toArray++news.toArray++Builtin.zeroCells z.cells (grownCap w (m+xs.length) old e-(m+xs.length))).toList.take ((m+xs.length)*sz)=olds++news:=by
     simp only [Ie]
     rw [<-hlen,Yr,<-hol,<-hnl,<-Yr]
     exact JT
    rw [this]
    exact (ho.append hn).mono (Bu w G))
  exact ⟨j1.sub (hsub2 _),(X4.drew w G _).trans (j2.sub' (hsub2 _))⟩
 generalize hax:a.eval x=ax at v2 finish
 cases v2 with
 | nil _=>exact absurd rfl hne
 | sl hq hcc hm=>
  rename_i b o' k' c
  have hpos:0<xs.length:=Jm.2 hne
  have hfm:=hm.flat_mem
  obtain ⟨news,hn,hnc⟩:=hfm.cells
  have hnl:news.length=xs.length*i.size:=by rw [hn.length,hfl,hk1]
  have hone':=hn.one_cells hone
  have hnews:∀j u,news[j]? = some u->w.cell? ((⟨b,o',none⟩:Addr).add j)=some u:=fun j u hj=>by rw [Jq];exact (hnc j u hj).1
  have hbb:(m+xs.length)*i.bytes<=140737488355328:=by
   have:=Nat.mul_le_mul hbound hby
   omega
  rcases hrow0 with ⟨hv0,hl0⟩|⟨g,len,cap,cur,el,hv0,hrow,hlc,hcur,hll,hcells⟩
  ·subst hl0
   have hm1:m=0:=by
    have:m*sz=0:=by simpa using hm0.symm
    rcases Nat.mul_eq_zero.1 this with h|h
    ·exact h
    ·omega
   subst hm1
   rw [hv0] at finish hh ⊢
   have hr:=run_append_nil (P:=P) w t type e i z ht hinfo hz ⟨b,o',none⟩ xs.length c news hnl hnews hpos om (by simp only [Wg] at hbb;omega)
   obtain ⟨j1,j2⟩:=grown [] news 0 .nil hn
   simp only [Wg,Array.empty_append,Cd] at j1 j2
   rw [hv0] at j2
   exact finish ⟨some ⟨w.heap.size,0,none⟩,xs.length,grownCap w xs.length 0 e⟩ _ hr (by simpa using j1) (by simpa using j2)
  ·have hlm:len=m:=Ig hk0 (hll.symm.trans hm0)
   subst hlm
   rw [hv0] at finish hh ⊢
   have q5:len*sz<=cap*sz:=Jn _ hlc
   have h1:(cur.toList.take (len*sz)).length=len*sz:=by rw [XW,JR,hcur,VH q5]
   have hcl:cur.toList.length=cap*sz:=by rw [JR,hcur]
   by_cases hroom:len+xs.length<=cap
   ·have q1:(len+xs.length)*sz<=cap*sz:=Jn _ hroom
    have q2:(len+xs.length)*sz=len*sz+xs.length*sz:=QS ..
    have hfit:len*i.size+news.length<=cur.size:=by rw [hnl,hcur,hk1];omega
    have hr:=MA (P:=P) w t type e el i ht hinfo g len cap cur hrow ⟨b,o',none⟩ xs.length c news hnl hnews hone' hroom hfit
    rw [hk1] at hr
    have hnl':news.length=xs.length*sz:=by rw [hnl,hk1]
    obtain ⟨j1,j2⟩:=hh.rgrow (ls':=ls++Z9 xs) (len':=len+xs.length) (cs':=(cur.toList.take (len*sz)++news++cur.toList.drop (len*sz+news.length)).toArray) hrow
     (by simp only [FU,Yr,h1,hnl',Bm,hcl,hcur];omega) hroom hcur (by rw [Yr,hll,hfl,q2]) (by
      have:(cur.toList.take (len*sz)++news++cur.toList.drop (len*sz+news.length)).toArray.toList.take ((len+xs.length)*sz)=cur.toList.take (len*sz)++news:=by
       rw [FV,q2,<-hnl']
       conv=>lhs;arg 1;rw [show len*sz+news.length=(cur.toList.take (len*sz)++news).length from by rw [Yr,h1]]
       exact JT
      rw [this]
      exact hcells.append hn)
    exact finish ⟨some ⟨g,0,none⟩,len+xs.length,cap⟩ _ hr j1 j2
   ·have hr:=run_append_grow (P:=P) w t type e i z ht hinfo hz ⟨g,0,none⟩ len cap (cur.toList.take (len*sz)) (by rw [hk1];exact h1) (fun j u hj=>by
     rw [Jq,cell_of_row w g _ cur el (0,0) hrow]
     rw [Q8] at hj
     split at hj
     ·simpa using hj
     ·cases hj) ⟨b,o',none⟩ xs.length c news hnl hnews om om (growslice_fits om hbb)
    obtain ⟨j1,j2⟩:=grown (cur.toList.take (len*sz)) news cap hcells hn
    rw [hv0] at j2
    exact finish ⟨some ⟨w.heap.size,0,none⟩,len+xs.length,grownCap w (len+xs.length) cap e⟩ _ hr j1 j2
end
section
variable {P:Program} {n:Nat} {ops:Array Oper} {B:Fr->List Res->Prop} {k:Nat} {F:Fr} {h:List Res}
theorem EU (j m:Nat) (v:Hd) (sz:Nat) (ls xs:List AV) (hx:Option Value) (hm0:ls.length=m*sz) (hxs:∀y∈xs,y.leaves.length=sz) (hone:(Z9 xs).all AV.one=true) (hne:xs≠[]) (hbound:m+xs.length<=4294967296)
  (hK:∀v':Hd,SI P n ops B (k+1) (F.put (ZU ops k).dst (.h v')) (rK v' sz (ls++Z9 xs)::Xw [j] h)) (hk0:0<sz:=by omega)
  (hk:Xp n ops F k=true:=by kernel_rfl) (ha:TU P ops F k=some (.h v,.sl xs hx,sz):=by kernel_rfl) (hp:XY [j] h=some [rK v sz ls]:=by kernel_rfl):SI P n ops B k F h:=
 QF hk (WP.perm (Uo (VN hp)) (RA (US hk).2.1 ha hxs hone hm0 hk0 hne hbound hK))
end
end Go.Abs
namespace Go.Abs
section
variable {P:Program} {n:Nat} {ops:Array Oper} {B:Fr->List Res->Prop} {T:List (Nat × List Nat)} {fuel:Nat} {done:List Nat} {F:Fr} {h:List Res}
theorem IP (i j m:Nat) (js bs:List Nat) (v:Hd) (sz:Nat) (ls xs:List AV) (hx:Option Value) (hm0:ls.length=m*sz) (hxs:∀y∈xs,y.leaves.length=sz) (hone:(Z9 xs).all AV.one=true) (hne:xs≠[]) (hbound:m+xs.length<=4294967296)
  (hK:∀v':Hd,X7 P n ops B (T.filter fun t=>!VA ops i t.1) fuel (done++[i]) (F.put (ZU ops i).dst (.h v')) (rK v' sz (ls++Z9 xs)::Xw [j] h)) (hk0:0<sz:=by omega) (hk:Xp n ops F i=true:=by kernel_rfl)
  (ha:TU P ops F i=some (.h v,.sl xs hx,sz):=by kernel_rfl) (hp:XY [j] h=some [rK v sz ls]:=by kernel_rfl) (ho:UR ops i T=bs:=by kernel_rfl)
  (hj:js.map (fun q=>(V7 (Xw [j] h))[q]?)=bs.map some:=by kernel_rfl):U8 P n ops B T fuel done F h i:=
 Ad [j] js bs hk (VN hp) ho hj (RA (h2:=[]) (US hk).2.1 ha hxs hone hm0 hk0 hne hbound hK)
end
theorem WI.form {P:Program} {f:FuncId} {as1:List AV} {h0:List Res} {T:Hd->AV} {kk m:Nat} {ls:List AV} {hs:List Res} (H:WI P f as1 h0 (fun r h=>∃v:Hd,r=T v/\h=rK v kk ls::hs)) (hm:ls.length=m*kk) (hk:0<kk) (h1:0<m) :
  WI P f as1 h0 (fun r h=>∃(g c:Nat),r=T ⟨some ⟨g,0,none⟩,m,c⟩/\h=rK ⟨some ⟨g,0,none⟩,m,c⟩ kk ls::hs):=by
 intro w G vs hv hh
 refine (H w G vs hv hh).mono ?_
 rintro e w' ⟨u,r,h',G',he,⟨v,rfl,rfl⟩,hr,hh',hx⟩
 obtain ⟨g,c,rfl⟩:=HE (hh'.ok _ (Xo ..)) hm hk h1
 exact ⟨u,_,_,G',he,⟨g,c,rfl,rfl⟩,hr,hh',hx⟩
end Go.Abs
namespace Go.Abs
section
variable {h:List Res}
theorem Zhh (j i p:Nat) {u:Value} {kk b:Nat} {es ls:List AV} (hp:XY [j,i] h=some [.row u kk (Z9 es),.obj b ls]) (hes:∀y∈es,y.leaves.length=kk) (hk:0<kk) (hl:ls[p]? = some (.val u)) :
  WY h (.obj b (ls.set p (.sl es (some u)))::.tail u kk::Xw [j,i] h):=by
 intro w G hh
 have hp':=Uo (VN hp)
 have hh':=hh.perm hp'
 obtain ⟨G',h1,h2',h3⟩:=E9 (h2:=.obj b ls::Xw [j,i] h) hh' hes hk
 have e:=h2'.perm hp'.symm (TH _)
 have h1:YJ w G' (.tail u kk::.obj b ls::Xw [j,i] h):=h1
 have perm:(Res.tail u kk::.obj b ls::Xw [j,i] h).Perm (.obj b ls::.tail u kk::Xw [j,i] h):=List.Perm.swap ..
 have h4:=h1.perm perm
 have e4:=e.perm (TH _) perm
 have hset:∀{w:World} {G:Yn},RV w G (.sl es (some u)) u->Qa w G (.obj b ls)->Qa w G (.obj b (ls.set p (.sl es (some u)))):=by
  intro w G hu hr
  obtain ⟨cs,el,k1,k5⟩:=hr
  refine ⟨cs,el,k1,?_⟩
  obtain ⟨c,c1,c2⟩:=k5.get p _ hl
  have:=c2.val_inv
  subst this
  have h6:=k5.set p hu
  rwa [show cs.toList.set p c=cs.toList from by
   apply List.ext_getElem?
   intro q
   rw [List.getElem?_set]
   split
   ·rename_i hq;subst hq;split
    ·exact c1.symm
    ·rename_i hq2;rw [Qv om]
   ·rfl] at h6
 refine ⟨G',⟨fun r hr=>?_,?_,fun r hr=>?_,h4.lt⟩,⟨e4.os,e4.tape,e4.output,e4.size,e4.sub,e4.same,e4.newG,fun b' o hb ⟨r,hr,hf⟩=>e4.newfp b' o hb ?_⟩⟩
 ·rcases YM.1 hr with rfl|hr
  ·exact hset h3 (h4.ok _ (Xo ..))
  ·exact h4.ok r (Xz _ hr)
 ·have:=WW.1 h4.apart
  exact WW.2 ⟨fun r hr b' o f1 f2=>this.1 r hr b' o f1 f2,this.2⟩
 ·rcases YM.1 hr with rfl|hr
  ·exact fun b' o f1 hg=>h4.prot (.obj b ls) (Xo ..) b' o f1 hg
  ·exact h4.prot r (Xz _ hr)
 ·rcases YM.1 hr with rfl|hr
  ·exact ⟨.obj b ls,Xo ..,hf⟩
  ·exact ⟨r,Xz _ hr,hf⟩
theorem Uy (j i p:Nat) (u:Value) (kk b:Nat) (es ls:List AV) (hes:∀y∈es,y.leaves.length=kk) (hl:ls[p]? = some (.val u)) (hk:0<kk:=by omega) (hp:XY [j,i] h=some [.row u kk (Z9 es),.obj b ls]:=by kernel_rfl) :
  WY h (.obj b (ls.set p (.sl es (some u)))::.tail u kk::Xw [j,i] h):=Zhh j i p hp hes hk hl
end
end Go.Abs
namespace Go.Abs
section
variable {P:Program} {n:Nat} {ops:Array Oper} {k:Nat} {F:Fr} {h:List Res}
theorem Zgr (j:Nat) {g l c m kk:Nat} {ls:List AV} (hi:Ec P ops F k=some (.val (.slice (some ⟨g,0,none⟩) l c),(m:Int))) (hj:h[j]? = some (.row (.slice (some ⟨g,0,none⟩) l c) kk ls)) (hle:m<=l) :
  W1 P (ZU ops k) F h [] (.val (.slice (some ⟨g,0,none⟩) m c)):=by
 unfold Ec at hi
 generalize hoo:ZU ops k=o at hi
 obtain ⟨dst,op,type,pos,after,guard⟩:=o
 cases op<;>simp only at hi<;>try (cases hi)
 rename_i t x lo hi' mx
 cases lo with
 | some _=>simp at hi
 | none=>
  cases hi' with
  | none=>simp at hi
  | some y=>
   cases mx with
   | some _=>simp at hi
   | none=>
    simp only at hi
    split at hi
    ·rename_i e ht
     split at hi
     ·rename_i inf hinf
      split at hi
      ·rename_i ik m' hm
       simp only [WB,Prod.mk.injEq] at hi
       obtain ⟨hx,rfl⟩:=hi
       intro n w G a hF hh
       have v1:=hF.ev x
       rw [hx] at v1
       have v1:=v1.val_inv
       have v2:=hF.ev y
       rw [hm] at v2
       have v2:=v2.val_inv
       have hcap:l<=c:=by
        rcases hh.ok _ (Y7 hj) with ⟨h0,_⟩|⟨g',l',c',cur,el,h0,_,hc,_⟩
        ·cases h0
        ·cases h0;exact hc
       refine ⟨_,.val,fun w' _ _=>?_⟩
       simp only [execOp,v1,v2,Er,Option.map_none]
       refine VP ?_
       simp only [Instr.sliceAt,Sem.run_bind,Uq ht,Result.andThen_ok,Instr.slice]
       have hmm:(Instr.sliceBounds true l c none (some (.int ik (m:Int))) none).run P w'=.ok (0,m,c) w':=by
        have ZD:=fun q=>Fv (P:=P) (c:=q) (v:=.int ik (m:Int)) (y:=c) rfl om om w'
        simp [Instr.sliceBounds,ZD]
       rw [hmm]
       have hz:∀a:Addr,a.add 0=a:=fun a=>by simp [Addr.add]
       simp only [Result.andThen_ok,Kk hinf,Nat.zero_mul,hz]
       by_cases h0:c=0<;>simp [h0]
      ·cases hi
     ·cases hi
    ·cases hi
theorem PS (j g l c m kk:Nat) (ls:List AV) (hle:m<=l:=by omega) (hi:Ec P ops F k=some (.val (.slice (some ⟨g,0,none⟩) l c),(m:Int)):=by kernel_rfl) (hj:h[j]? = some (.row (.slice (some ⟨g,0,none⟩) l c) kk ls):=by kernel_rfl) :
  W1 P (ZU ops k) F h [] (.val (.slice (some ⟨g,0,none⟩) m c)):=Zgr j hi hj hle
variable {B:Fr->List Res->Prop}
end
end Go.Abs
end
namespace Go.Abs
theorem Yl {α:Type} {xs:List α} {k:Nat} {x:α} (h:xs[k]? = some x):xs.drop k=x::xs.drop (k+1):=by
 have hk:=(Xc.1 h).1
 rw [N9 hk]
 congr 1
 rw [De hk] at h
 exact Cf h
theorem Xr {α:Type} {xs:List α} {k:Nat} (h:xs.length<=k):xs.drop k=[]:=FM h
theorem V2 {α:Type} {xs:List α} {k:Nat} {x:α} (h:xs[k]? = some x):xs.take (k+1)=xs.take k++[x]:=by
 rw [List.take_add_one,h];rfl
def YK:List Zd->Nat
 | []=>0
 | d::ds=>d.cons.length+YK ds
theorem Dn (xs ys:List Zd):YK (xs++ys)=YK xs+YK ys:=by
 induction xs with
 | nil=>simp [YK]
 | cons d ds ih=>simp [YK,ih];omega
structure Xq (ds:List Zd):Prop where
 len:ds.length<=4
 cons:∀d∈ds,d.cons.length<=3
 fields:∀d∈ds,∀c∈d.cons,c.fields.length<=3
theorem Z4d {ds:List Zd} {m:Nat} (h:∀d∈ds,d.cons.length<=m):YK ds<=ds.length*m:=by
 induction ds with
 | nil=>simp [YK]
 | cons d ds ih=>
  have h1:=h d (by simp)
  have h2:=ih (fun x hx=>h x (by simp [hx]))
  simp only [YK,YA,QS];omega
theorem Xq.sum {ds:List Zd} (h:Xq ds):YK ds<=12:=by
 have:=Z4d h.cons
 have:=h.len
 have:ds.length*3<=4*3:=Jn 3 h.len
 omega
theorem Xq.take {ds:List Zd} (h:Xq ds) (k:Nat):Xq (ds.take k):=
 ⟨by have:=h.len;simp;omega,fun d hd=>h.cons d (QR hd),fun d hd=>h.fields d (QR hd)⟩
theorem Xq.cons_at {ds:List Zd} (h:Xq ds) {k:Nat} {d:Zd} (hd:ds[k]? = some d):d.cons.length<=3:=h.cons d (Y7 hd)
theorem Xq.fields_at {ds:List Zd} (h:Xq ds) {k j:Nat} {d:Zd} {c:Yh} (hd:ds[k]? = some d) (hc:d.cons[j]? = some c):c.fields.length<=3:=
 h.fields d (Y7 hd) c (Y7 hc)
def UB (c:Int):List Zd->Nat->Nat->Int × LI
 | [],_,_=>(-1,[])
 | d::ds,i,first=>
  if (first:Int)<=c/\c<=((first+d.cons.length:Nat):Int)-1 then ((i:Int)+1,(d.cons[(c-first).toNat]?.map (·.fields)).getD []) else UB c ds (i+1) (first+d.cons.length)
def Wj (ds:List Zd) (c:Int):Int:=(UB c ds 0 0).1
def ZP (ds:List Zd) (c:Int):LI:=(UB c ds 0 0).2
theorem Gh {c:Int}:∀{ds:List Zd} {i first:Nat},(UB c ds i first=(-1,[]) ∨
  ∃k d x,ds[k]? = some d/\(first+YK (ds.take k):Int)<=c/\c<first+YK (ds.take k)+d.cons.length/\d.cons[(c-(first+YK (ds.take k))).toNat]? = some x/\UB c ds i first=((i:Int)+k+1,x.fields))
 | [],_,_=>.inl rfl
 | d::ds,i,first=>by
  rw [UB]
  split
  ·rename_i h
   have hlt:(c-first).toNat<d.cons.length:=by omega
   refine .inr ⟨0,d,d.cons[(c-first).toNat],rfl,by simp [YK];omega,by simp [YK];omega,?_,?_⟩
   ·simp [YK]
   ·rw [De hlt];simp
  ·rcases Gh (c:=c) (ds:=ds) (i:=i+1) (first:=first+d.cons.length) with h|⟨k,e,x,h1,h2,h3,h4,h5⟩
   ·exact .inl h
   ·refine .inr ⟨k+1,e,x,by simpa using h1,by simp [YK];omega,by simp [YK];omega,?_,?_⟩
    ·rw [<-h4];congr 3;simp [YK];omega
    ·rw [h5];congr 1;omega
theorem IL {ds:List Zd} {c:Int} (h:¬Wj ds c<1) :
  ∃k d x,ds[k]? = some d/\(YK (ds.take k):Int)<=c/\d.cons[(c-YK (ds.take k)).toNat]? = some x/\Wj ds c=(k:Int)+1/\ZP ds c=x.fields:=by
 rcases Gh (c:=c) (ds:=ds) (i:=0) (first:=0) with h1|⟨k,d,x,h1,h2,_,h4,h5⟩
 ·simp [Wj,h1] at h
 ·exact ⟨k,d,x,h1,by simpa using h2,by simpa using h4,by simp [Wj,h5],by simp [ZP,h5]⟩
theorem NT {ds:List Zd} {c:Int} (h:Wj ds c<1):ZP ds c=[]/\Wj ds c=-1:=by
 rcases Gh (c:=c) (ds:=ds) (i:=0) (first:=0) with h1|⟨k,d,x,h1,h2,_,h4,h5⟩
 ·simp [ZP,Wj,h1]
 ·simp [Wj,h5] at h;omega
def U2 (first:Int):Nat->LI
 | 0=>[]
 | n+1=>first::U2 (first+1) n
theorem Rs (first:Int) (n:Nat):U2 first (n+1)=U2 first n++[first+n]:=by
 induction n generalizing first with
 | zero=>simp [U2]
 | succ n ih=>rw [U2,ih (first+1),U2];simp;omega
@[simp] theorem Zc6 (first:Int) (n:Nat):(U2 first n).length=n:=by
 induction n generalizing first with
 | zero=>rfl
 | succ n ih=>simp [U2,ih]
def Y0 (ds:List Zd) (t:Int):LI:=
 if 1<=t/\t<=ds.length then U2 (YK (ds.take (t-1).toNat)) (((ds[(t-1).toNat]?).map (·.cons.length)).getD 0) else []
def Dh (frm to_:Int):List Zd->Nat->Int
 | [],_=>-1
 | d::ds,i=>if d.cons.length=0/\d.frm=frm/\d.to_=to_ then (i:Int)+1 else Dh frm to_ ds (i+1)
def A1 (ds:List Zd) (frm to_:Int):Int:=Dh frm to_ ds 0
def VZ (ds:List Zd) (t:Int):Bool:=decide (1<=t/\t<=ds.length)&&((ds[(t-1).toNat]?).map fun d=>decide (d.cons.length=0)).getD false
theorem PN {ds:List Zd} {t:Int} {x:Zd} (h:1<=t/\t<=ds.length) (hx:ds[(t-1).toNat]? = some x):((x.cons.length:Int)==0)=VZ ds t:=by
 rw [VZ,hx,Yc];simp [h]
theorem PM {ds:List Zd} {t:Int} (h:¬(1<=t/\t<=ds.length)):false=VZ ds t:=by
 rw [VZ,Yc];simp only [Bool.false_eq_true,Xj,decide_eq_true_eq,h,false_and]
def Wn (m:Nat) (xs:LI):Bool:=xs.all fun t=>decide (0<=t/\t<=m)
end Go.Abs
section
namespace Go.Abs
section
variable {h:List Res}
end
end Go.Abs
namespace Go.Abs
section
variable {P:Program} {ops:Array Oper} {k:Nat} {F:Fr} {h:List Res}
def Ma (ops:Array Oper) (F:Fr) (k:Nat):Option (Int × Int):=
 match (ZU ops k).op with
 | .call c=>match c.callee,c.args.toList with
  | .builtin .max,[x,y]=>match F.ev x,F.ev y with
   | .val (.int .i64 a),.val (.int .i64 b)=>some (a,b)
   | _,_=>none
  | _,_=>none
 | _=>none
theorem Zgo {a b:Int} (hl:Ma ops F k=some (a,b)):W1 P (ZU ops k) F h [] (.i (max a b)):=by
 unfold Ma at hl
 generalize hoo:ZU ops k=o at hl
 obtain ⟨dst,op,type,pos,after,guard⟩:=o
 cases op<;>simp only at hl<;>try (cases hl)
 rename_i c
 obtain ⟨callee,args,tys⟩:=c
 simp only at hl
 split at hl
 case h_2=>cases hl
 rename_i x y hargs
 split at hl
 case h_2=>cases hl
 rename_i u v hx hy
 cases hl
 have e1:args=#[x,y]:=by rw [<-TE (xs:=args),hargs]
 subst e1
 intro n w G a' hF hh
 have vx:=hF.ev x
 have vy:=hF.ev y
 rw [hx] at vx
 rw [hy] at vy
 have vx:=vx.val_inv
 have vy:=vy.val_inv
 refine ⟨_,.val,fun w' _ _=>?_⟩
 simp only [execOp,resolve,invoke,builtin,Sem.run_bind,Sem.run_pure,Result.andThen_ok,FQ,T7,FP,vx,vy]
 have e:(if b>a then b else a)=max a b:=by
  rw [Int.max_def]
  split<;>split<;>omega
 simp [Builtin.max_,Builtin.max2,Sem.run_pure,List.foldlM,e]
theorem H7 (a b:Int) (ha:Ma ops F k=some (a,b):=by kernel_rfl):W1 P (ZU ops k) F h [] (.i (max a b)):=Zgo ha
end
end Go.Abs
end
namespace Go.Abs
section
variable {P:Program} {n:Nat} {ops:Array Oper} {B:Fr->List Res->Prop} {k:Nat} {F:Fr} {h:List Res} {T:List (Nat × List Nat)} {fuel:Nat} {done:List Nat}
theorem RB {K:Fr->List Res->Prop} {ls:List AV} {len sz:Nat} (hd:VY n (ZU ops k)=true) (ha:TA P ops F k=some (ls,len,sz)) (hlen:ls.length=len*sz)
  (hK:∀g,K (F.put (ZU ops k).dst (.val (.slice (some ⟨g,0,none⟩) len len))) (.row (.slice (some ⟨g,0,none⟩) len len) sz ls::h)):WP P n (ZU ops k) F h K:=by
 unfold TA at ha
 generalize hoo:ZU ops k=q at ha hd hK
 obtain ⟨dst,op,type,pos,after,guard⟩:=q
 cases op<;>simp only at ha<;>try (cases ha)
 rename_i t ln parts
 split at ha
 case h_2=>cases ha
 rename_i e ht
 split at ha
 case h_2=>cases ha
 rename_i i hi
 split at ha
 case h_2=>cases ha
 rename_i hc
 simp only [Xj] at hc
 split at ha
 case h_2=>cases ha
 rename_i ls' hf
 simp only [WB,Prod.mk.injEq] at ha
 obtain ⟨rfl,rfl,XQ⟩:=ha
 intro Q w G a hF hh
 obtain ⟨cs,h1,h2⟩:=HL hF parts ht hi rfl hc.1 hc.2 hf
 have hr:(execOp a.eval { dst:=dst,op:=.buildSlice t ln parts,type:=type,pos:=pos,after:=after,guard:=guard }).run P w =
   .ok (.value (.slice (some ⟨w.heap.size,0,none⟩) ln ln)) (w.alloc (.cells cs e)):=by
  simp only [execOp]
  exact VP h2
 unfold Oper.wp
 rw [hr]
 have hlc:=h1.length
 simp only [JR] at hlc
 obtain ⟨j1,j2⟩:=hh.alloc_rrow cs e (ls:=ls') (len:=ln) (cap:=ln) (k:=sz) (X9 _) (by rw [hlc];exact hlen) hlen (by rw [<-hlen,<-hlc];simpa [Wh] using h1)
 exact ⟨_,_,G,hK _,(hF.mono (j2.agree hh)).put (TL hd) .val,j1,j2⟩
theorem UQ (es es':List AV) (he:es=es') (len sz:Nat) (hK:∀v,SI P n ops B (k+1) (F.put (ZU ops k).dst (.sl es' (some v))) (.tail v sz::h)) (hk:Xp n ops F k=true:=by kernel_rfl)
  (ha:TA P ops F k=some (Z9 es,len,sz):=by kernel_rfl) (hlen:es.length=len:=by kernel_rfl) (hall:AK es sz=true:=by kernel_rfl):SI P n ops B k F h:=by
 subst he;exact iL es len sz hK hk ha hlen hall
theorem WD (i:Nat) (js bs:List Nat) (es es':List AV) (he:es=es') (len sz:Nat) (hK:∀v,X7 P n ops B (T.filter fun t=>!VA ops i t.1) fuel (done++[i]) (F.put (ZU ops i).dst (.sl es' (some v))) (.tail v sz::h))
  (hk:Xp n ops F i=true:=by kernel_rfl) (ha:TA P ops F i=some (Z9 es,len,sz):=by kernel_rfl) (hlen:es.length=len:=by kernel_rfl) (hall:AK es sz=true:=by kernel_rfl)
  (ho:UR ops i T=bs:=by kernel_rfl) (hj:js.map (fun j=>(V7 h)[j]?)=bs.map some:=by kernel_rfl):U8 P n ops B T fuel done F h i:=by
 subst he;exact dL i js bs es len sz hK hk ha hlen hall ho hj
theorem iKN (ls:List AV) (len sz:Nat) (hK:∀g,SI P n ops B (k+1) (F.put (ZU ops k).dst (.val (.slice (some ⟨g,0,none⟩) len len))) (.row (.slice (some ⟨g,0,none⟩) len len) sz ls::h)) (hlen:ls.length=len*sz:=by rfl) (hk:Xp n ops F k=true:=by kernel_rfl)
  (ha:TA P ops F k=some (ls,len,sz):=by kernel_rfl):SI P n ops B k F h:=QF hk (RB (US hk).2.1 ha hlen hK)
theorem dKN (i:Nat) (js bs:List Nat) (ls:List AV) (len sz:Nat) (hK:∀g,X7 P n ops B (T.filter fun t=>!VA ops i t.1) fuel (done++[i]) (F.put (ZU ops i).dst (.val (.slice (some ⟨g,0,none⟩) len len))) (.row (.slice (some ⟨g,0,none⟩) len len) sz ls::h)) (hlen:ls.length=len*sz:=by rfl)
  (hk:Xp n ops F i=true:=by kernel_rfl) (ha:TA P ops F i=some (ls,len,sz):=by kernel_rfl) (ho:UR ops i T=bs:=by kernel_rfl) (hj:js.map (fun j=>(V7 h)[j]?)=bs.map some:=by kernel_rfl):U8 P n ops B T fuel done F h i:=
 Ad (h1:=[]) (h2:=h) [] js bs hk rfl ho hj (RB (US hk).2.1 ha hlen hK)
end
theorem WI.frz {P:Program} {f:FuncId} {as1:List AV} {h0:List Res} {E:Type} {kk:Nat} {es:E->List AV} {hs:E->List Res} {Q:E->Prop} (H:WI P f as1 h0 (fun r h=>∃(e:E) (v:Hd),r=.h v/\h=rK v kk (Z9 (es e))::hs e/\Q e)) (hes:∀e,∀y∈es e,y.leaves.length=kk) (hk:0<kk) :
  WI P f as1 h0 (fun r h=>∃(e:E) (v:Value),r=.sl (es e) (some v)/\h=.tail v kk::hs e/\Q e):=by
 intro w G vs hv hh
 refine (H w G vs hv hh).mono ?_
 rintro e w' ⟨u,r,h',G',he,⟨x,v,rfl,rfl,hq⟩,hr,hh',hx⟩
 obtain ⟨G2,h1,h2,h3⟩:=E9 hh' (hes x) hk
 have hrv:=hr.val_inv
 subst hrv
 exact ⟨_,_,_,G2,he,⟨x,v.v,rfl,rfl,hq⟩,h3,h1,hx.trans h2⟩
theorem Lp {es:List AV} {sz k:Nat} {y:AV} (h:∀x∈es,x.leaves.length=sz) (hy:y.leaves.length=sz) (hk:k<es.length):(Z9 es).take (k*sz)++y.leaves++(Z9 es).drop (k*sz+y.leaves.length)=Z9 (es.set k y):=by
 obtain ⟨x,hx⟩:=B0 (xs:=es) (j:=k) hk
 have hxl:=h x (Y7 hx)
 have e1:es=es.take k++(x::es.drop (k+1)):=by rw [<-Yl hx,TI]
 have e2:es.set k y=es.take k++(y::es.drop (k+1)):=by rw [FT,Zk hk]
 have hl:(Z9 (es.take k)).length=k*sz:=by rw [UN (k:=sz) _ (fun z hz=>h z (QR hz)),XW,VH om]
 have e3:Z9 es=Z9 (es.take k)++(x.leaves++Z9 (es.drop (k+1))):=by
  conv=>lhs;rw [e1,Th]
  simp [Z9]
 rw [e2,Th,e3,Fs hl (by rw [hxl,hy])]
 simp [Z9]
theorem Z5d (ds:List Zd) (k:Nat) (d:Zd):Yy (ds.set k d)=(Yy ds).set k (Cm d):=by simp [Yy,List.map_set]
theorem CH (xs:List Zd):(Z9 (Yy xs)).length=xs.length*3:=by rw [UN (k:=3) _ (Qz xs)];simp
theorem GC {ds:List Zd} {k:Nat} (d:Zd) (hk:k<ds.length):(Z9 (Yy ds)).take (k*3)++J8 d++(Z9 (Yy ds)).drop (k*3+3)=Z9 (Yy (ds.set k d)):=by
 rw [Z5d];exact Lp (y:=Cm d) (Qz ds) rfl (by simpa using hk)
theorem Lm (xs ys:List Zd):Z9 (Yy xs)++Z9 (Yy ys)=Z9 (Yy (xs++ys)):=by rw [Z5b,Th]
section
variable {P:Program} {n:Nat} {ops:Array Oper} {B:Fr->List Res->Prop} {k:Nat} {F:Fr} {h:List Res}
theorem CT (j m:Nat) {v:Hd} {kk:Nat} {ls:List AV} (hm:ls.length=m*kk) (h0:0<m) (H:∀g c',v=⟨some ⟨g,0,none⟩,m,c'⟩->SI P n ops B k F h) (hk:0<kk:=by omega) (hj:h[j]? = some (rK v kk ls):=by kernel_rfl):SI P n ops B k F h:=by
 intro Q w G a hF hh hq
 obtain ⟨g,c',e⟩:=HE (hh.ok _ (Y7 hj)) hm hk h0
 exact H g c' e Q w G a hF hh hq
theorem Z4l (j m:Nat) {v:Hd} {kk:Nat} {ls:List AV} {T fuel done} (hm:ls.length=m*kk) (h0:0<m) (H:∀g c',v=⟨some ⟨g,0,none⟩,m,c'⟩->X7 P n ops B T fuel done F h) (hk:0<kk:=by omega) (hj:h[j]? = some (rK v kk ls):=by kernel_rfl):X7 P n ops B T fuel done F h:=by
 intro Q w G a SL hF hh hQ hcl hcov hq
 obtain ⟨g,c',e⟩:=HE (hh.ok _ (Y7 hj)) hm hk h0
 exact H g c' e Q w G a SL hF hh hQ hcl hcov hq
end
section
variable {P:Program} {n:Nat} {ops:Array Oper} {B:Fr->List Res->Prop} {k:Nat} {F:Fr} {h:List Res}
def IN (P:Program) (ops:Array Oper) (F:Fr) (k:Nat):Option (IntKind × Int):=
 match (ZU ops k).op with
 | .convert s d x=>match P.underlying s,P.underlying d,F.ev x with
  | some (.int _),some (.int q),.val (.int _ z)=>some (q,z)
  | _,_,_=>none
 | _=>none
theorem kCv (q:IntKind) (z z':Int) (e:q.wrap z=z') (hc:IN P ops F k=some (q,z):=by kernel_rfl):W1 P (ZU ops k) F h [] (.val (.int q z')):=by
 unfold IN at hc
 generalize hoo:ZU ops k=o at hc
 obtain ⟨dst,op,type,pos,after,guard⟩:=o
 cases op<;>simp only at hc<;>try (cases hc)
 rename_i s d x
 split at hc
 ·rename_i q1 q2 q3 z2 h1 h2 h3
  cases hc
  intro n w G ac hF hh
  have v1:=hF.ev x
  rw [h3] at v1
  have v1:=v1.val_inv
  refine ⟨_,.val,fun w' _ _=>?_⟩
  simp only [execOp,v1]
  refine VP ?_
  simp [convert,Uq h1,Uq h2,Conv.intToInt,e]
 ·cases hc
theorem N8 {z:Int} (h:0<=z/\z<=9223372036854775807):IntKind.i64.wrap z=z:=IntWalk.i64_in _ om
theorem LV (z:Int) (hz:0<=z/\z<=255) (hc:IN P ops F k=some (.i64,z):=by kernel_rfl):W1 P (ZU ops k) F h [] (.i z):=kCv .i64 z z (N8 om) hc
def Bx (ops:Array Oper) (F:Fr) (k:Nat) (b:BinOp):Option (Int × Int):=
 match (ZU ops k).op with
 | .binOp c _ x y _=>if c==b then match F.ev x,F.ev y with
  | .val (.int .i64 z),.val (.int .i64 u)=>some (z,u)
  | _,_=>none else none
 | _=>none
theorem PU (a b:Int) (hb:0<b) (ha:0<=a/\a<=9223372036854775807) (hc:Bx ops F k .quo=some (a,b):=by kernel_rfl):W1 P (ZU ops k) F h [] (.i (a / b)):=by
 unfold Bx at hc
 generalize hoo:ZU ops k=o at hc
 obtain ⟨dst,op,type,pos,after,guard⟩:=o
 cases op<;>simp only at hc<;>try (cases hc)
 rename_i bop t x y yt
 cases bop<;>simp only [Zf,reduceCtorEq,if_false,if_true] at hc<;>try (cases hc)
 split at hc
 ·rename_i z yk h1 h2
  cases hc
  intro n' w G ac hF hh
  have v1:=hF.ev x
  have v2:=hF.ev y
  rw [h1] at v1
  rw [h2] at v2
  have v1:=v1.val_inv
  have v2:=v2.val_inv
  refine ⟨_,.val,fun w' _ _=>?_⟩
  simp only [execOp,v1,v2]
  refine VP ?_
  have e1:a.tdiv b=a / b:=Int.tdiv_eq_ediv_of_nonneg ha.1
  have e2:IntKind.i64.wrap (a / b)=a / b:=N8 ⟨Int.ediv_nonneg ha.1 om,Int.le_trans (Int.ediv_le_self b ha.1) ha.2⟩
  have e3:b≠0:=by omega
  simp [eqGuard,binOp,Op.intDiv,e1,e2,e3]
 ·cases hc
theorem LU (a b:Int) (hb:0<b) (ha:0<=a) (hc:Bx ops F k .rem=some (a,b):=by kernel_rfl):W1 P (ZU ops k) F h [] (.i (a % b)):=by
 unfold Bx at hc
 generalize hoo:ZU ops k=o at hc
 obtain ⟨dst,op,type,pos,after,guard⟩:=o
 cases op<;>simp only at hc<;>try (cases hc)
 rename_i bop t x y yt
 cases bop<;>simp only [Zf,reduceCtorEq,if_false,if_true] at hc<;>try (cases hc)
 split at hc
 ·rename_i z yk h1 h2
  cases hc
  intro n' w G ac hF hh
  have v1:=hF.ev x
  have v2:=hF.ev y
  rw [h1] at v1
  rw [h2] at v2
  have v1:=v1.val_inv
  have v2:=v2.val_inv
  refine ⟨_,.val,fun w' _ _=>?_⟩
  simp only [execOp,v1,v2]
  refine VP ?_
  have e1:a.tmod b=a % b:=Int.tmod_eq_emod_of_nonneg ha
  have e3:b≠0:=by omega
  simp [eqGuard,binOp,Op.intDiv,e1,e3]
 ·cases hc
theorem DQ (a b:Nat) (hb:0<b) (ha:a<=9223372036854775807) (hc:Bx ops F k .quo=some ((a:Int),(b:Int)):=by kernel_rfl):W1 P (ZU ops k) F h [] (.i (a / b:Nat)):=by
 rw [Int.natCast_ediv];exact PU a b om om hc
theorem PV (a b:Nat) (hb:0<b) (_ha:a<=9223372036854775807) (hc:Bx ops F k .rem=some ((a:Int),(b:Int)):=by kernel_rfl):W1 P (ZU ops k) F h [] (.i (a % b:Nat)):=by
 rw [Int.natCast_emod];exact LU a b om om hc
def En (a b:Int):Int:=IntKind.i64.wrap ((BitVec.ofInt 64 a ^^^ BitVec.ofInt 64 b).toNat:Int)
theorem Z21 {a b:Int} (ha:0<=a/\a<4611686018427387904) (hb:0<=b/\b<4611686018427387904):0<=En a b/\En a b<4611686018427387904:=by
 obtain ⟨x,rfl⟩:=Int.eq_ofNat_of_zero_le ha.1
 obtain ⟨y,rfl⟩:=Int.eq_ofNat_of_zero_le hb.1
 have h1:(BitVec.ofInt 64 (x:Int) ^^^ BitVec.ofInt 64 (y:Int)).toNat=x ^^^ y:=by
  rw [BitVec.toNat_xor,BitVec.toNat_ofInt,BitVec.toNat_ofInt]
  have e1:((x:Int) % ((2 ^ 64:Nat):Int)).toNat=x:=by omega
  have e2:((y:Int) % ((2 ^ 64:Nat):Int)).toNat=y:=by omega
  rw [e1,e2]
 have h2:x ^^^ y<2 ^ 62:=Nat.xor_lt_two_pow om om
 rw [En,h1,N8 om]
 omega
theorem Zau (a b:Int) (hc:Bx ops F k .xor=some (a,b):=by kernel_rfl):W1 P (ZU ops k) F h [] (.i (En a b)):=by
 unfold Bx at hc
 generalize hoo:ZU ops k=o at hc
 obtain ⟨dst,op,type,pos,after,guard⟩:=o
 cases op<;>simp only at hc<;>try (cases hc)
 rename_i bop t x y yt
 cases bop<;>simp only [Zf,reduceCtorEq,if_false,if_true] at hc<;>try (cases hc)
 split at hc
 ·rename_i z yk h1 h2
  cases hc
  intro n' w G ac hF hh
  have v1:=hF.ev x
  have v2:=hF.ev y
  rw [h1] at v1
  rw [h2] at v2
  have v1:=v1.val_inv
  have v2:=v2.val_inv
  refine ⟨_,.val,fun w' _ _=>?_⟩
  simp only [execOp,v1,v2]
  refine VP ?_
  simp [eqGuard,binOp,Op.intBits,IntKind.bits]
  exact Yq (fun z:Nat=>IntKind.i64.wrap (z:Int)) (by rw [BitVec.toNat_xor,BitVec.toNat_ofInt,BitVec.toNat_ofInt];rfl)
 ·cases hc
end
end Go.Abs
section
namespace Go.Abs
inductive Z1 where
 | mk (op num:Int) (kids:List Z1)
namespace Z1
def op:Z1->Int|.mk a _ _=>a
def num:Z1->Int|.mk _ a _=>a
def kids:Z1->List Z1|.mk _ _ a=>a
end Z1
structure Func where
 params:LI
 result:Int
 body:Z1
structure W8 where
 decls:List Zd
 funcs:List Func
instance:Inhabited Z1:=⟨.mk 0 0 []⟩
mutual
def L5:Z1->AV
 | .mk op num kids=>.agg [.i op,.i num,.sl (YB kids) none]
def YB:List Z1->List AV
 | []=>[]
 | e::r=>L5 e::YB r
end
abbrev Ya (e:Z1):AV:=.agg [.i e.op,.i e.num,.sl (YB e.kids) none]
abbrev YZ (e:Z1):List AV:=[.i e.op,.i e.num,.sl (YB e.kids) none]
abbrev XE (xs:List Z1):AV:=.sl (YB xs) none
abbrev QJ (xs:List Z1) (v:Value):AV:=.sl (YB xs) (some v)
abbrev Eu (f:Func):AV:=.agg [Z4 f.params,.i f.result,.i f.body.op,.i f.body.num,XE f.body.kids]
abbrev Ha (f:Func):List AV:=[Z4 f.params,.i f.result,.i f.body.op,.i f.body.num,XE f.body.kids]
def Xv (xs:List Func):List AV:=xs.map Eu
abbrev Hn (xs:List Func):AV:=.sl (Xv xs) none
abbrev AJ (p:W8):AV:=.agg [Y5 p.decls,Hn p.funcs]
abbrev LX (p:W8):List AV:=[Y5 p.decls,Hn p.funcs]
abbrev Im (z:Int):AV:=.val (.int .u8 z)
def TV (xs:LI):List AV:=xs.map Im
abbrev Un (xs:LI):AV:=.sl (TV xs) none
theorem Z5e (e:Z1):L5 e=Ya e:=by cases e;rw [L5];rfl
theorem XS:∀xs:List Z1,YB xs=xs.map Ya
 | []=>by rw [YB];rfl
 | s::ss=>by rw [YB,XS ss,Z5e];rfl
theorem Du {xs:List Z1} {j:Nat} {x:Z1} (h:xs[j]? = some x):(YB xs)[j]? = some (Ya x):=by simp [XS,h]
theorem Gm {xs:List Func} {j:Nat} {x:Func} (h:xs[j]? = some x):(Xv xs)[j]? = some (Eu x):=by simp [Xv,h]
theorem IX {xs:LI} {j:Nat} {x:Int} (h:xs[j]? = some x):(TV xs)[j]? = some (Im x):=by simp [TV,h]
@[simp] theorem L6 (xs:List Z1):(YB xs).length=xs.length:=by simp [XS]
@[simp] theorem Dv (xs:List Func):(Xv xs).length=xs.length:=by simp [Xv]
@[simp] theorem BA (xs:LI):(TV xs).length=xs.length:=by simp [TV]
theorem Af (xs ys:List Z1):YB (xs++ys)=YB xs++YB ys:=by simp [XS]
theorem Z5f (xs ys:List Func):Xv (xs++ys)=Xv xs++Xv ys:=by simp [Xv]
theorem IY (xs:LI) (n:Nat):(TV xs).take n=TV (xs.take n):=by simp [TV]
theorem IW (xs:LI) (n:Nat):(TV xs).drop n=TV (xs.drop n):=by simp [TV]
theorem Tb (xs:List Z1):∀y∈YB xs,y.leaves.length=3:=by intro y hy;simp only [XS,XA] at hy;obtain ⟨x,_,rfl⟩:=hy;rfl
theorem Gn (xs:List Func):∀y∈Xv xs,y.leaves.length=5:=by intro y hy;simp only [Xv,XA] at hy;obtain ⟨x,_,rfl⟩:=hy;rfl
theorem Z59 (xs:LI):∀y∈TV xs,y.leaves.length=1:=by intro y hy;simp only [TV,XA] at hy;obtain ⟨x,_,rfl⟩:=hy;rfl
theorem Ag (xs:List Z1):(Z9 (YB xs)).all AV.one=true:=J2 fun y hy=>by simp only [XS,XA] at hy;obtain ⟨x,_,rfl⟩:=hy;rfl
end Go.Abs
end
section
namespace Go.Abs
open Go.Proofs Go.Proofs.YtabmbhgiodcppaaGreat
section
variable {H:Type} {enc:TypeId × Value->H} {w:World}
def GA (w:World):Yn:=fun b _=>b<w.heap.size
abbrev Tr (enc:TypeId × Value->H) (w:World) (n:Nat) (t:TypeId) (cs:List Value) (x:DataW H × List MemPlace):Prop:=DataW.trod enc Tryz.prog w 0 (fun _=>true) true n t cs=some x
theorem Rf {w:World} {a:Addr} {v:Value} (h:w.cell? a=some v):a.block<w.heap.size/\a.spot=none:=by
 unfold World.cell? at h
 split at h
 ·rename_i c e fr hb
  split at h
  ·cases h
  ·rename_i hs
   exact ⟨(UX.1 hb).1,by simpa using hs⟩
 ·cases h
theorem NM {α:Type} {c:α->Nat}:∀{xs:List α} {ds:List (DataW H)},xs.length=ds.length->(∀(i:Nat) a d,xs[i]? = some a->ds[i]? = some d->c a+1<=Rows.uptoBulk d)->(xs.map fun a=>c a+1).sum<=Rows.uptoBulkAll ds
 | [],[],_,_=>X9 _
 | a::r,d::ds,hl,h=>by
  have h0:=h 0 a d rfl rfl
  have h1:=NM (c:=c) (xs:=r) (ds:=ds) (by simpa using hl) fun i a d ha hd=>h (i+1) a d (by simpa using ha) (by simpa using hd)
  rw [T7,List.sum_cons,Rows.uptoBulkAll]
  omega
theorem Si {α:Type} {f:α->AV} {G:Yn} {k b:Nat} (hf:∀x,(f x).leaves.length=k):∀{xs:List α} {o:Nat},(∀(i:Nat) a,xs[i]? = some a->Wu w G b (o+i*k) (f a).leaves)->Va w G k b o (xs.map f)
 | [],_,_=>.nil
 | x::r,o,h=>by
  refine .cons (hf x) (by have:=h 0 x rfl;simpa using this) (Si hf fun i a ha=>?_)
  have:=h (i+1) a (by simpa using ha)
  rw [show o+(i+1)*k=o+k+i*k by rw [QS];omega] at this
  exact this
theorem Zdd {α:Type} [Inhabited α] {t e k:Nat} (ht:Tryz.prog.underlying t=some (.slice e)) (hk:Tryz.prog.cellsOf e=k) (h0:0<k) (f:α->AV) (hf:∀x,(f x).leaves.length=k) (c:α->Nat) (Q:α->Prop) {n:Nat} {cs:List Value} {x:DataW H × List MemPlace}
  (h:Tr enc w n t cs x) (el:∀m cs y,m<n->Tr enc w m e cs y->∃a:α,YW w (GA w) (f a).leaves cs/\c a+1<=Rows.uptoBulk y.1/\Q a) :
  ∃(v:Value) (xs:List α),cs=[v]/\RV w (GA w) (.sl (xs.map f) none) v/\(xs.map fun a=>c a+1).sum+1<=Rows.uptoBulk x.1/\∀a∈xs,Q a:=by
 rcases DataW.trod_slice ht h with ⟨rfl,rfl⟩|⟨a,len,cap,elems,rest,m,rfl,rfl,rfl,_,hlc,_,hlen,hel,_,_⟩
 ·exact ⟨_,[],rfl,.nil (by simp),by simp [Rows.uptoBulk],by simp⟩
 ·rw [hk] at hel
  have hone:∀i,i<len->∃z:α,∃cs' y,w.cells? 0 (a.add (i*k)) k=some cs'/\elems[i]? = some y/\YW w (GA w) (f z).leaves cs'/\c z+1<=Rows.uptoBulk y.1/\Q z:=by
   intro i hi
   have h1:=hel i hi
   rw [De om] at h1
   obtain ⟨cs',h2,h3⟩:=Option.bind_eq_some_iff.1 h1
   obtain ⟨z,hz1,hz2,hz3⟩:=el m cs' _ om h3
   exact ⟨z,cs',_,h2,De om,hz1,hz2,hz3⟩
  obtain ⟨V,hV⟩:=Go.Deep.choose_lt hone
  refine ⟨_,(List.range len).map V,rfl,?_,?_,?_⟩
  ·cases hl0:len with
   | zero=>exact .nil (by simp)
   | succ q=>
    have hsp:a.spot=none:=by
     obtain ⟨cs',y,g1,_⟩:=hV 0 om
     obtain ⟨_,g2,g3⟩:=World.cells?_some g1
     have g4:=g3 0 h0
     rw [De om] at g4
     have g5:=(Rf g4).2
     simpa [Addr.add] using g5
    obtain ⟨b,o,sp⟩:=a
    simp only at hsp
    subst hsp
    rw [<-hl0]
    have hll:(((List.range len).map V).map f).length=len:=by simp
    have:=RV.sl (w:=w) (G:=GA w) (es:=((List.range len).map V).map f) (hv:=none) (b:=b) (o:=o) (k:=k) (cap:=cap) (by simp) (by rw [hll];exact hlc) (Si hf fun i z hz=>by
     have hi:i<len:=by have:=(Xc.1 hz).1;simpa using this
     have hz':V i=z:=by simpa [hi] using hz
     obtain ⟨cs',y,g1,_,g2,_⟩:=hV i hi
     rw [hz'] at g2
     obtain ⟨_,g3,g4⟩:=World.cells?_some g1
     refine Wu.of_cells g2 fun j u hj=>?_
     have hjl:j<k:=by have:=(Xc.1 hj).1;omega
     have g5:=(g4 j hjl).trans hj
     rw [Addr.add_lit,Addr.add_lit] at g5
     exact ⟨g5,(Rf g5).1⟩)
    rw [hll] at this
    exact this
  ·have:=NM (c:=c) (xs:=(List.range len).map V) (ds:=elems.map (·.1)) (by simp [hlen]) fun i z d hz hd=>by
    have hi:i<len:=by have:=(Xc.1 hz).1;simpa using this
    have hz':V i=z:=by simpa [hi] using hz
    obtain ⟨cs',y,_,g1,_,g2,_⟩:=hV i hi
    rw [Kq,g1] at hd
    simp only [Er,WB] at hd
    rw [<-hd,<-hz']
    exact g2
   simp only [Rows.uptoBulk]
   omega
  ·intro z hz
   obtain ⟨i,hi,rfl⟩:=XA.1 hz
   obtain ⟨_,_,_,_,_,_,g⟩:=hV i (List.mem_range.1 hi)
   exact g
theorem Zdc {n:Nat} {cs:List Value} {x:DataW H × List MemPlace} (h:Tr enc w n 5 cs x):∃z:Int,cs=[.int .u8 z]/\Rows.uptoBulk x.1=1/\0<=z/\z<=255:=by
 obtain ⟨z,rfl,rfl,hw⟩:=DataW.trod_int Tryz.underlying5 h
 refine ⟨z,rfl,rfl,?_⟩
 simpa [Lit.wf,IntKind.min,IntKind.max,IntKind.signed,IntKind.bits] using hw
theorem Sa {n:Nat} {cs:List Value} {x:DataW H × List MemPlace} (h:Tr enc w n 22 cs x):∃(v:Value) (xs:LI),cs=[v]/\RV w (GA w) (Un xs) v/\∀z∈xs,0<=z/\z<=255:=by
 obtain ⟨v,xs,h1,h2,h3,h4⟩:=Zdd Tryz.underlying22 (k:=1) kr om (fun z:Int=>Im z) (fun _=>rfl) (fun _=>0) (fun z=>0<=z/\z<=255) h fun m cs y _ hy=>by
  obtain ⟨z,rfl,hb,hz⟩:=Zdc hy
  exact ⟨z,.cons .val .nil,Nat.le_of_eq hb.symm,hz⟩
 exact ⟨v,xs,h1,h2,h4⟩
end
end Go.Abs
end
namespace Go.Abs
structure Sg where
 params:LI
 result:Int
abbrev Nl (f:Sg):AV:=.agg [.sl (Z6 f.params) none,.i f.result,.i 0,.i 0,.sl [] none]
def WF (fs:List Sg):List AV:=fs.map Nl
theorem L9 {xs:List Sg} {j:Nat} {x:Sg} (h:xs[j]? = some x):(WF xs)[j]? = some (Nl x):=by simp [WF,h]
@[simp] theorem Oc (xs:List Sg):(WF xs).length=xs.length:=by simp [WF]
theorem Gq (xs:List Sg):∀y∈WF xs,y.leaves.length=5:=by intro y hy;simp only [WF,XA] at hy;obtain ⟨x,_,rfl⟩:=hy;rfl
theorem Od (xs:List Sg):(Z9 (WF xs)).all AV.one=true:=J2 fun y hy=>by simp only [WF,XA] at hy;obtain ⟨x,_,rfl⟩:=hy;rfl
mutual
def Z5.sz:Z5->Nat
 | .mk _ _ _ args kids=>1+args.length+YV kids
def Z8.sz:Z8->Nat
 | .mk steps _=>1+Yw steps
def Yw:List Z5->Nat
 | []=>0
 | s::r=>s.sz+Yw r
def YV:List Z8->Nat
 | []=>0
 | b::r=>b.sz+YV r
end
theorem Z5.sz_pos (s:Z5):1<=s.sz:=by cases s;rw [Z5.sz];omega
theorem Z8.sz_pos (b:Z8):1<=b.sz:=by cases b;rw [Z8.sz];omega
theorem Jh (l:List Z5):l.length<=Yw l:=by
 induction l with
 | nil=>simp
 | cons s r ih=>have:=s.sz_pos;simp only [YA,Yw];omega
theorem NJ (l:List Z8):l.length<=YV l:=by
 induction l with
 | nil=>simp
 | cons s r ih=>have:=s.sz_pos;simp only [YA,YV];omega
theorem Zgj {l:List Z5} {k:Nat} {s:Z5} (h:l[k]? = some s):s.sz<=Yw l:=by
 induction l generalizing k with
 | nil=>simp at h
 | cons t r ih=>
  cases k with
  | zero=>simp at h;subst h;simp only [Yw];omega
  | succ k=>have:=ih (k:=k) (by simpa using h);simp only [Yw];omega
theorem NI {l:List Z8} {k:Nat} {s:Z8} (h:l[k]? = some s):s.sz<=YV l:=by
 induction l generalizing k with
 | nil=>simp at h
 | cons t r ih=>
  cases k with
  | zero=>simp at h;subst h;simp only [YV];omega
  | succ k=>have:=ih (k:=k) (by simpa using h);simp only [YV];omega
theorem Z5.sz_eq (s:Z5):s.sz=1+s.args.length+YV s.kids:=by cases s;rw [Z5.sz];rfl
theorem Z8.sz_eq (b:Z8):b.sz=1+Yw b.steps:=by cases b;rw [Z8.sz];rfl
theorem Eh {b:Z8} {k:Nat} {s:Z5} (h:b.steps[k]? = some s):s.sz<b.sz:=by have:=Zgj h;have:=b.sz_eq;omega
theorem Qo {s:Z5} {k:Nat} {b:Z8} (h:s.kids[k]? = some b):b.sz<s.sz:=by have:=NI h;have:=s.sz_eq;omega
theorem Jr (s:Z5):s.args.length<s.sz:=by have:=s.sz_eq;omega
theorem K9 (s:Z5):s.kids.length<s.sz:=by have:=s.sz_eq;have:=NJ s.kids;omega
theorem UH (b:Z8):b.steps.length<b.sz:=by have:=b.sz_eq;have:=Jh b.steps;omega
structure TR (ds:List Zd):Prop where
 len:ds.length<=4194304
 cons:∀d∈ds,d.cons.length<=4194304
 fields:∀d∈ds,∀c∈d.cons,c.fields.length<=4194304
theorem TR.cons_at {ds:List Zd} (h:TR ds) {k:Nat} {d:Zd} (hd:ds[k]? = some d):d.cons.length<=4194304:=h.cons d (Y7 hd)
theorem TR.fields_at {ds:List Zd} (h:TR ds) {k j:Nat} {d:Zd} {c:Yh} (hd:ds[k]? = some d) (hc:d.cons[j]? = some c):c.fields.length<=4194304:=
 h.fields d (Y7 hd) c (Y7 hc)
def A8 (m:Nat) (c:Yh):Bool:=decide (c.fields.length<=3)&&Wn m c.fields
def QX (d:Zd):List Zd->Bool
 | []=>false
 | e::r=>if e.cons.length=0/\e.frm=d.frm/\e.to_=d.to_ then true else QX d r
def TK (m:Nat):List Yh->Bool
 | []=>true
 | c::r=>if A8 m c=true then TK m r else false
def Tv (ds:List Zd) (d:Zd) (i:Nat):Bool:=
 if 0<d.cons.length then (if d.cons.length<=3/\d.frm=0/\d.to_=0 then TK ds.length d.cons else false)
 else if QX d (ds.take i)=true then false else decide (0<=d.frm/\d.frm<=ds.length)&&decide (0<=d.to_/\d.to_<=ds.length)
def Cx (ds:List Zd) (i:Nat):Bool:=(ds[i]?.map fun d=>Tv ds d i).getD false
theorem Gk {ds:List Zd} {i:Nat} {d:Zd} (h:ds[i]? = some d):Cx ds i=Tv ds d i:=by rw [Cx,h];rfl
def T9 (ds:List Zd):List Zd->Nat->Bool
 | [],_=>true
 | _::r,i=>if Cx ds i=true then T9 ds r (i+1) else false
def V4 (ds:List Zd):Bool:=decide (ds.length<=4)&&T9 ds ds 0
theorem Z4g {m:Nat} {cs:List Yh}:TK m cs=true↔∀c∈cs,A8 m c=true:=by
 induction cs with
 | nil=>simp [TK]
 | cons c r ih=>
  rw [TK]
  split
  ·rename_i h;simp [ih,h]
  ·rename_i h;simp [h]
theorem O2 {ds:List Zd}:∀{l:List Zd} {i:Nat},T9 ds l i=true↔∀j<l.length,Cx ds (i+j)=true
 | [],i=>by simp [T9]
 | d::r,i=>by
  rw [T9]
  split
  ·rename_i h
   rw [O2 (l:=r)]
   constructor
   ·intro hq j hj
    cases j with
    | zero=>exact h
    | succ j=>have:=hq j (by simpa using hj);rwa [show i+(j+1)=i+1+j by omega]
   ·intro hq j hj
    have:=hq (j+1) (by simpa using hj)
    rwa [show i+(j+1)=i+1+j by omega] at this
  ·rename_i h
   simp only [Bool.false_eq_true,false_iff]
   intro hq
   exact h (hq 0 (by simp))
theorem N2 {ds:List Zd} (h:V4 ds=true):Xq ds:=by
 simp only [V4,Xj,decide_eq_true_eq] at h
 obtain ⟨h1,h2⟩:=h
 rw [O2] at h2
 have key:∀d∈ds,∃i,Tv ds d i=true:=fun d hd=>by
  obtain ⟨i,hi⟩:=List.mem_iff_getElem?.1 hd
  have:=h2 i (Xc.1 hi).1
  rw [Wg,Gk hi] at this
  exact ⟨i,this⟩
 have hc:∀d∈ds,0<d.cons.length->d.cons.length<=3/\TK ds.length d.cons=true:=fun d hd hp=>by
  obtain ⟨i,hi⟩:=key d hd
  rw [Tv,Zk hp] at hi
  split at hi
  ·rename_i h;exact ⟨h.1,hi⟩
  ·cases hi
 refine ⟨h1,fun d hd=>?_,fun d hd c hc'=>?_⟩
 ·by_cases hp:0<d.cons.length
  ·exact (hc d hd hp).1
  ·omega
 ·have:=Z4g.1 (hc d hd (List.length_pos_of_mem hc')).2 c hc'
  simp only [A8,Xj,decide_eq_true_eq] at this
  exact this.1
theorem Xq.sz {ds:List Zd} (h:Xq ds):TR ds:=
 ⟨by have:=h.len;omega,fun d hd=>by have:=h.cons d hd;omega,fun d hd c hc=>by have:=h.fields d hd c hc;omega⟩
def Jd (m:Nat) (f:Sg):Bool:=decide (f.params.length<=3)&&(Wn m f.params&&decide (0<=f.result/\f.result<=m))
def Je (m:Nat):List Sg->Bool
 | []=>true
 | f::r=>if Jd m f=true then Je m r else false
def Gx:List Sg->Bool
 | []=>false
 | f::_=>decide (f.params.length=0)&&decide (f.result=0)
theorem Z6h {fs:List Sg} {x:Sg} (h:fs[0]? = some x):Gx fs=(decide (x.params.length=0)&&decide (x.result=0)):=by
 cases fs with
 | nil=>simp at h
 | cons f r=>simp at h;subst h;rfl
def T5 (ds:List Zd) (fs:List Sg):Bool:=
 V4 ds&&(decide (1<=fs.length/\fs.length<=4)&&(Je ds.length fs&&Gx fs))
def KD (ps:LI):LI->Option Int->Bool
 | [],_=>true
 | v::r,prev=>if (0<=v/\v<=(ps.length:Int)-1)/\ps[v.toNat]?≠some 0/\(∀p,prev=some p->p<v) then KD ps r (some v) else false
theorem M2 {ps r:LI} {v:Int} {prev:Option Int} (h:(0<=v/\v<=(ps.length:Int)-1)/\ps[v.toNat]?≠some 0/\(∀p,prev=some p->p<v)):KD ps (v::r) prev=KD ps r (some v):=by
 rw [KD,Zk h]
theorem Hh {ps r:LI} {v:Int} {prev:Option Int} (h:¬((0<=v/\v<=(ps.length:Int)-1)/\ps[v.toNat]?≠some 0/\(∀p,prev=some p->p<v))):KD ps (v::r) prev=false:=by
 rw [KD,Zb h]
def Uz (ps ls:LI):Bool:=KD ps ls none
def CW:List YF->Bool
 | []=>true
 | r::rs=>if Uz r.params r.lent=true then CW rs else false
def Q3 (r:YF):Sg:=⟨r.params,r.result⟩
def Ap (n:ZF):Bool:=decide (n.routines.length<=4)&&(T5 n.decls (n.routines.map Q3)&&CW n.routines)
end Go.Abs
section
namespace Go.Abs
def Wx {α:Type} (xs:List α) (i:Int):Option α:=if 0<=i/\i<=(xs.length:Int)-1 then xs[i.toNat]? else none
theorem Bw {α:Type} {xs:List α} {i:Int} {x:α} (h:0<=i/\i<=(xs.length:Int)-1) (hx:xs[i.toNat]? = some x):Wx xs i=some x:=by rw [Wx,Zk h,hx]
theorem AL {α:Type} {xs:List α} {i:Int} (h:¬(0<=i/\i<=(xs.length:Int)-1)):Wx xs i=none:=by rw [Wx,Zb h]
theorem Di {α:Type} {xs:List α} {i:Int} {x:α} (h:Wx xs i=some x):(0<=i/\i<=(xs.length:Int)-1)/\xs[i.toNat]? = some x:=by
 rw [Wx] at h
 split at h
 ·rename_i h1;exact ⟨h1,h⟩
 ·cases h
def KO (vars:LI):LI->LI->Bool
 | [],[]=>true
 | a::as1,t::ts=>if Wx vars a=some t then KO vars as1 ts else false
 | _,_=>false
def V3 (vars args types:LI):Bool:=KO vars args types
theorem Z1p {vars:LI}:∀{args types:LI},args.length≠types.length->KO vars args types=false
 | [],[],h=>absurd rfl h
 | [],_::_,_=>rfl
 | _::_,[],_=>rfl
 | a::as1,t::ts,h=>by
  rw [KO]
  split
  ·exact Z1p (by simpa using h)
  ·rfl
theorem Zhl {vars args types:LI} {k:Nat} {a t:Int} (ha:args[k]? = some a) (ht:types[k]? = some t) (h:Wx vars a=some t) :
  KO vars (args.drop k) (types.drop k)=KO vars (args.drop (k+1)) (types.drop (k+1)):=by
 rw [Yl ha,Yl ht,KO,Zk h]
theorem Z1o {vars args types:LI} {k:Nat} {a t:Int} (ha:args[k]? = some a) (ht:types[k]? = some t) (h:Wx vars a≠some t) :
  KO vars (args.drop k) (types.drop k)=false:=by
 rw [Yl ha,Yl ht,KO,Zb h]
theorem Zhk {vars args types:LI} {k:Nat} (ha:args.length<=k) (ht:types.length<=k):KO vars (args.drop k) (types.drop k)=true:=by
 rw [Xr ha,Xr ht];rfl
def Qj (op:Int):Bool:=op==0||(op==6||(op==8||(op==9||op==10)))
def Xh (op:Int):Bool:=decide (0<=op/\op<=11)
def YO (op:Int):Bool:=decide (14<=op/\op<=17)
def Q6 (vars:LI) (op into:Int):Bool:=
 if into=0 then true else if op=6 then ((Wx vars (into-1)).map fun t=>decide (0<t)).getD false else false
def Ew (ds:List Zd) (ps:LI) (res:Int):Int:=A1 ds (ps.getLast?.getD 0) res
def BY (ds:List Zd) (vars:LI) (op:Int) (args:LI) (r:YF):Int:=
 if op=9 then (if V3 vars args r.params=true then r.result else -1)
 else if r.params.length=0∨0<r.lent.length∨¬V3 vars args (r.params.take (r.params.length-1))=true then -1
 else Ew ds r.params r.result
def Kh (n:ZF) (vars:LI) (op num:Int) (args:LI):Int:=
 match Wx n.routines num with
 | none=>-1
 | some r=>BY n.decls vars op args r
def KY (ds:List Zd) (vars:LI) (op:Int) (args:LI):Int:=
 match args with
 | [a]=>match Wx vars a with
  | some t=>if t=0 then -1 else if (op≠14/\op≠15)/\VZ ds t=true then -1 else 0
  | none=>-1
 | _=>-1
def KW (ds:List Zd) (vars:LI) (args:LI):Int:=
 match args with
 | [a,b]=>match Wx vars a with
  | some t=>if VZ ds t=true then
    (match ds[(t-1).toNat]? with
     | some d=>if V3 vars [b] [d.frm]=true then d.to_ else -1
     | none=>-1) else -1
  | none=>-1
 | _=>-1
def W2 (ds:List Zd) (op num:Int):List LI:=if op=7 then [[],[]] else (Y0 ds num).map (ZP ds)
mutual
def X0 (n:ZF) (vars:LI):Z5->Int
 | .mk op num into args kids=>
  if (num≠0/\¬Qj op=true)∨¬Q6 vars op into=true∨(0<kids.length/\op≠7/\op≠8) then -1
  else if op=0 then (if args.length=0/\(-999<=num/\num<=999) then 0 else -1)
  else if op=1∨op=2∨op=3∨op=4 then (if V3 vars args [0,0]=true then 0 else -1)
  else if op=5 then (if V3 vars args [0]=true then 0 else -1)
  else if op=6 then (if 0<Wj n.decls num/\V3 vars args (ZP n.decls num)=true then Wj n.decls num else -1)
  else if op=7 then (if V3 vars args [0]=true then (if (W2 n.decls op num).length=0∨kids.length≠(W2 n.decls op num).length then -1 else QG n vars kids (W2 n.decls op num) true 0) else -1)
  else if op=8 then (if V3 vars args [num]=true then (if (W2 n.decls op num).length=0∨kids.length≠(W2 n.decls op num).length then -1 else QG n vars kids (W2 n.decls op num) true 0) else -1)
  else if op=9∨op=10 then Kh n vars op num args
  else if op=11 then KW n.decls vars args
  else if op=14∨op=15∨op=16∨op=17 then KY n.decls vars op args
  else -1
def QG (n:ZF) (vars:LI):List Z8->List LI->Bool->Int->Int
 | [],_,_,t=>t
 | b::bs,more,first,t=>
  match more with
  | []=>-1
  | m::ms=>if W3 n (vars++m) b<0∨(first=false/\W3 n (vars++m) b≠t) then -1 else QG n vars bs ms false (W3 n (vars++m) b)
def UG (n:ZF):List Z5->LI->Option LI
 | [],vars=>some vars
 | s::r,vars=>if X0 n vars s<0 then none else UG n r (if Xh s.op=true then vars++[X0 n vars s] else vars)
def W3 (n:ZF) (vars:LI):Z8->Int
 | .mk steps result=>match UG n steps vars with
  | none=>-1
  | some vs=>(Wx vs result).getD (-1)
end
def JF (n:ZF) (vars:LI) (op num:Int) (kids:List Z8):Int:=
 if (W2 n.decls op num).length=0∨kids.length≠(W2 n.decls op num).length then -1 else QG n vars kids (W2 n.decls op num) true 0
mutual
def BN:Z5->Int->Int
 | .mk _ _ _ _ kids,left=>An kids left
def Tl:Z8->Int->Int
 | .mk steps _,left=>JH steps left
def JH:List Z5->Int->Int
 | [],left=>left
 | s::r,left=>if left<1 then -1 else if BN s (left-1)<0 then -1 else JH r (BN s (left-1))
def An:List Z8->Int->Int
 | [],left=>left
 | b::r,left=>if Tl b left<0 then -1 else An r (Tl b left)
end
def Bi (b:Z8):Int:=if Tl b 600<0 then -1 else 600-Tl b 600
def Be (n:ZF):List YF->Bool
 | []=>true
 | r::rs=>if ¬Bi r.body<0/\W3 n r.params r.body=r.result then Be n rs else false
def Ko (n:ZF):Bool:=Ap n&&Be n n.routines
theorem Ra:(∀(s:Z5) (l:Int),0<=l->BN s l<=l)/\(∀(b:Z8) (l:Int),0<=l->Tl b l<=l):=by
 have key:∀m:Nat,(∀s:Z5,s.sz<=m->∀l:Int,0<=l->BN s l<=l)/\(∀b:Z8,b.sz<=m->∀l:Int,0<=l->Tl b l<=l):=by
  intro m
  induction m with
  | zero=>exact ⟨fun s h=>by have:=s.sz_pos;omega,fun s h=>by have:=s.sz_pos;omega⟩
  | succ m ih=>
   refine ⟨fun s hs l hl=>?_,fun b hb l hl=>?_⟩
   ·cases s with
    | mk op num into args kids=>
     rw [BN]
     have hk:YV kids<=m:=by rw [Z5.sz] at hs;omega
     clear hs
     induction kids generalizing l with
     | nil=>rw [An];exact Int.le_refl _
     | cons b r ihr=>
      rw [YV] at hk
      have:=ih.2 b om l hl
      rw [An]
      split
      ·omega
      ·have:=ihr (Tl b l) om om;omega
   ·cases b with
    | mk steps res=>
     rw [Tl]
     have hk:Yw steps<=m:=by rw [Z8.sz] at hb;omega
     clear hb
     induction steps generalizing l with
     | nil=>rw [JH];exact Int.le_refl _
     | cons s r ihr=>
      rw [Yw] at hk
      rw [JH]
      split
      ·omega
      ·have:=ih.1 s om (l-1) om
       split
       ·omega
       ·have:=ihr (BN s (l-1)) om om;omega
 exact ⟨fun s l hl=>(key s.sz).1 s (X9 _) l hl,fun b l hl=>(key b.sz).2 b (X9 _) l hl⟩
end Go.Abs
namespace Go.Abs
theorem Zgk {l:List Z5} {k:Nat} {s:Z5} (h:l[k]? = some s):k+s.sz<=Yw l:=by
 induction l generalizing k with
 | nil=>simp at h
 | cons t r ih=>
  cases k with
  | zero=>simp at h;subst h;simp only [Yw];omega
  | succ k=>have:=ih (k:=k) (by simpa using h);have:=t.sz_pos;simp only [Yw];omega
theorem D8 {b:Z8} {k:Nat} {s:Z5} (h:b.steps[k]? = some s):k+s.sz<b.sz:=by have:=Zgk h;have:=b.sz_eq;omega
structure Xx (n:ZF):Prop where
 decls:Xq n.decls
 len:n.routines.length<=4
 params:∀r∈n.routines,r.params.length<=3
 lent:∀r∈n.routines,r.lent.length<=4194304
theorem Xx.params_at {n:ZF} (h:Xx n) {k:Nat} {r:YF} (hr:n.routines[k]? = some r):r.params.length<=3:=h.params r (Y7 hr)
theorem Xx.lent_at {n:ZF} (h:Xx n) {k:Nat} {r:YF} (hr:n.routines[k]? = some r):r.lent.length<=4194304:=h.lent r (Y7 hr)
theorem Z3a {ds:List Zd} {num:Int} {k:Nat} {x:Int} (h:(Y0 ds num)[k]? = some x):(W2 ds 8 num)[k]? = some (ZP ds x):=by
 rw [W2,Zb om,Kq,h];rfl
end Go.Abs
namespace Go.Abs
theorem DX {ds:List Zd} (hd:Xq ds) (t:Int):(Y0 ds t).length<=3:=by
 rw [Y0]
 split
 ·rename_i h
  obtain ⟨d,hd1⟩:=B0 (xs:=ds) (j:=(t-1).toNat) om
  rw [hd1,Zc6]
  exact hd.cons_at hd1
 ·simp
theorem Vs {ds:List Zd} (hd:Xq ds) (c:Int):(ZP ds c).length<=3:=by
 by_cases h:Wj ds c<1
 ·rw [(NT h).1];simp
 ·obtain ⟨k,d,x,h1,_,h3,_,h5⟩:=IL h
  rw [h5];exact hd.fields_at h1 h3
theorem Nv {ds:List Zd} (hd:Xq ds) {op num:Int} {k:Nat} {m:LI} (h:(W2 ds op num)[k]? = some m):m.length<=3:=by
 have hm:=Y7 h
 rw [W2] at hm
 split at hm
 ·simp at hm;subst hm;simp
 ·obtain ⟨c,_,rfl⟩:=XA.1 hm;exact Vs hd c
theorem KX {α:Type} {xs:List α} {x:α} (h:xs.length=1) (hx:xs[0]? = some x):xs=[x]:=by
 cases xs with
 | nil=>simp at h
 | cons a r=>
  cases r with
  | nil=>simp at hx;rw [hx]
  | cons b r=>simp at h
theorem Dp {ds:List Zd} {us args:LI} {op:Int} (h:args.length≠1):KY ds us op args=-1:=by
 cases args with
 | nil=>rfl
 | cons a r=>
  cases r with
  | nil=>simp at h
  | cons b r=>rfl
theorem Dq {ds:List Zd} {us args:LI} {op a:Int} (h:args=[a]) (hi:¬(0<=a/\a<=(us.length:Int)-1)):KY ds us op args=-1:=by
 subst h;rw [KY];simp only [AL hi]
theorem Do {ds:List Zd} {us args:LI} {op a t:Int} (h:args=[a]) (hi:0<=a/\a<=(us.length:Int)-1) (ht:us[a.toNat]? = some t) :
  KY ds us op args=if t=0 then -1 else if (op≠14/\op≠15)/\VZ ds t=true then -1 else 0:=by
 subst h;rw [KY];simp only [Bw hi ht]
theorem Zdw {n:ZF} {us args:LI} {op num:Int} {r:YF} (hi:0<=num/\num<=(n.routines.length:Int)-1) (hr:n.routines[num.toNat]? = some r) :
  Kh n us op num args=BY n.decls us op args r:=by
 rw [Kh];simp only [Bw hi hr]
theorem Zdx {n:ZF} {us args:LI} {op num:Int} (hi:¬(0<=num/\num<=(n.routines.length:Int)-1)):Kh n us op num args=-1:=by
 rw [Kh];simp only [AL hi]
theorem Z9h {xs:LI} {x:Int} (h:xs[xs.length-1]? = some x):xs.getLast?.getD 0=x:=by
 rw [List.getLast?_eq_getElem?,h];rfl
theorem Zb3 {n:ZF} {us:LI} {bs:List Z8} {ms:List LI} {b:Z8} {m:LI} {k:Nat} {t:Int} (hb:bs[k]? = some b) (hm:ms[k]? = some m)
  (h:¬(W3 n (us++m) b<0∨(k:Int)>0/\W3 n (us++m) b≠t)) :
  QG n us (bs.drop k) (ms.drop k) (decide (k=0)) t=QG n us (bs.drop (k+1)) (ms.drop (k+1)) (decide (k+1=0)) (W3 n (us++m) b):=by
 rw [Yl hb,Yl hm,QG,Zb]
 ·simp
 ·rintro (q|⟨q1,q2⟩)
  ·exact h (.inl q)
  ·exact h (.inr ⟨by simp at q1;omega,q2⟩)
theorem Zb1 {n:ZF} {us:LI} {bs:List Z8} {ms:List LI} {b:Z8} {m:LI} {k:Nat} {t:Int} (hb:bs[k]? = some b) (hm:ms[k]? = some m)
  (h:W3 n (us++m) b<0∨(k:Int)>0/\W3 n (us++m) b≠t) :
  QG n us (bs.drop k) (ms.drop k) (decide (k=0)) t=-1:=by
 rw [Yl hb,Yl hm,QG,Zk]
 rcases h with q|⟨q1,q2⟩
 ·exact .inl q
 ·exact .inr ⟨by simp;omega,q2⟩
theorem Zb2 {n:ZF} {us:LI} {bs:List Z8} {ms:List LI} {k:Nat} {f:Bool} {t:Int} (hb:bs.length<=k):QG n us (bs.drop k) (ms.drop k) f t=t:=by
 rw [Xr hb,QG]
end Go.Abs
end
namespace Go.Abs
theorem MS (n:ZF) (us:LI) (s:Z5):X0 n us s =
  if (s.num≠0/\¬Qj s.op=true)∨¬Q6 us s.op s.into=true∨(0<s.kids.length/\s.op≠7/\s.op≠8) then -1
  else if s.op=0 then (if s.args.length=0/\(-999<=s.num/\s.num<=999) then 0 else -1)
  else if s.op=1∨s.op=2∨s.op=3∨s.op=4 then (if V3 us s.args [0,0]=true then 0 else -1)
  else if s.op=5 then (if V3 us s.args [0]=true then 0 else -1)
  else if s.op=6 then (if 0<Wj n.decls s.num/\V3 us s.args (ZP n.decls s.num)=true then Wj n.decls s.num else -1)
  else if s.op=7 then (if V3 us s.args [0]=true then JF n us s.op s.num s.kids else -1)
  else if s.op=8 then (if V3 us s.args [s.num]=true then JF n us s.op s.num s.kids else -1)
  else if s.op=9∨s.op=10 then Kh n us s.op s.num s.args
  else if s.op=11 then KW n.decls us s.args
  else if s.op=14∨s.op=15∨s.op=16∨s.op=17 then KY n.decls us s.op s.args
  else -1:=by
 cases s with
 | mk op num into args kids=>rw [X0];rfl
theorem Iy (n:ZF) (us:LI) (b:Z8):W3 n us b=match UG n b.steps us with
  | none=>-1
  | some vs=>(Wx vs b.result).getD (-1):=by
 cases b with
 | mk st r=>rw [W3];rfl
theorem Nt {α:Type} {xs:List α} {x:α} (h:xs.length=2) (hx:xs[0]? = some x):∃y,xs=[x,y]:=by
 match xs,h with
 | [a,b],_=>simp at hx;subst hx;exact ⟨b,rfl⟩
theorem UY {ds:List Zd} {us args:LI} (h:args.length≠2):KW ds us args=-1:=by
 match args,h with
 | [],_=>rfl
 | [_],_=>rfl
 | [_,_],h=>simp at h
 | _::_::_::_,_=>rfl
theorem UZ {ds:List Zd} {us args:LI} {a:Int} (hl:args.length=2) (h:args[0]? = some a) (hi:¬(0<=a/\a<=(us.length:Int)-1)):KW ds us args=-1:=by
 obtain ⟨y,rfl⟩:=Nt hl h;rw [KW];simp only [AL hi]
theorem UJ {ds:List Zd} {us args:LI} {a t:Int} (hl:args.length=2) (h:args[0]? = some a) (hi:0<=a/\a<=(us.length:Int)-1) (ht:us[a.toNat]? = some t) :
  KW ds us args=if VZ ds t=true then
    (match ds[(t-1).toNat]? with
     | some d=>if V3 us (args.drop 1) [d.frm]=true then d.to_ else -1
     | none=>-1) else -1:=by
 obtain ⟨y,rfl⟩:=Nt hl h;rw [KW];simp only [Bw hi ht];rfl
theorem Z33 {ds:List Zd} {us args:LI} {a t:Int} {d:Zd} (hl:args.length=2) (h:args[0]? = some a) (hi:0<=a/\a<=(us.length:Int)-1) (ht:us[a.toNat]? = some t)
  (hA:VZ ds t=true) (hd:ds[(t-1).toNat]? = some d):KW ds us args=if V3 us (args.drop 1) [d.frm]=true then d.to_ else -1:=by
 rw [UJ hl h hi ht,Zk hA];simp only [hd]
theorem LP {ds:List Zd} {t:Int} (h:VZ ds t=true):1<=t/\t<=ds.length:=by
 simp only [VZ,Xj,decide_eq_true_eq] at h;exact h.1
theorem Zbl (b:Z8) (l:Int):Tl b l=JH b.steps l:=by cases b;rw [Tl];rfl
theorem Rb (s:Z5) (l:Int):BN s l=An s.kids l:=by cases s;rw [BN];rfl
structure JW (n:ZF):Prop where
 decls:TR n.decls
 len:n.routines.length<=4194304
 params:∀r∈n.routines,r.params.length<=4194304
 lent:∀r∈n.routines,r.lent.length<=4194304
 body:∀r∈n.routines,r.body.sz<=10000000
theorem MH {m:Nat} {fs:List Sg} (h:Je m fs=true):∀f∈fs,Jd m f=true:=by
 induction fs with
 | nil=>simp
 | cons f r ih=>
  rw [Je] at h
  split at h
  ·rename_i h1
   intro g hg
   rcases YM.1 hg with rfl|hg
   ·exact h1
   ·exact ih h g hg
  ·cases h
theorem Rn {n:ZF} (hz:JW n) (h:Ap n=true):Xx n:=by
 simp only [Ap,T5,Xj,decide_eq_true_eq] at h
 obtain ⟨h1,⟨h2,h3,h4,h5⟩,h6⟩:=h
 refine ⟨N2 h2,h1,fun r hr=>?_,hz.lent⟩
 have:=MH h4 (Q3 r) (XA.2 ⟨r,hr,rfl⟩)
 simp only [Jd,Xj,decide_eq_true_eq] at this
 exact this.1
def gI (xs:LI) (i:Int):Int:=xs[i.toNat]?.getD 0
theorem Ti {xs:LI} {i:Int} {x:Int} (h:xs[i.toNat]? = some x):gI xs i=x:=by rw [gI,h];rfl
structure ZM where
 vars:LI
 own:LI
 par:LI
 con:LI
 fst:LI
 tok:LI
def ZM.grow (L:ZM) (t own par:Int):ZM:=⟨L.vars++[t],L.own++[own],L.par++[par],L.con++[-1],L.fst++[-1],L.tok++[-1]⟩
def Q5 (L:ZM) (v:Int):Option ZM:=if gI L.own v<1 then none else some { L with own:=L.own.set v.toNat (gI L.own v-1) }
def QT (own par ln:LI):Nat->Int->Bool
 | 0,_=>false
 | k+1,v=>if gI own v<1/\¬v∈ln then (if gI par v<0 then false else QT own par ln k (gI par v)) else true
def T8 (L:ZM) (ln:LI) (v:Int):Bool:=QT L.own L.par ln (v.toNat+1) v
def Qx:LI->Int->LI->LI
 | own,_,[]=>own
 | own,p,f::r=>Qx (if f≠0 then own.set p.toNat (gI own p+1) else own) (p+1) r
def Aq (ds:List Zd) (L:ZM) (op x:Int):Option ZM:=
 if gI L.con x<0∨(op=17/\0<=gI L.tok x) then none
 else match Q5 L x with
  | none=>none
  | some L1=>some { L1 with
    own:=Qx L1.own (gI L.fst x) (ZP ds (gI L.con x))
    tok:=if op=17 then L.tok.set x.toNat (ZP ds (gI L.con x)).length else L.tok }
def Aa (op:Int):Bool:=op==6||(op==9||(op==10||op==11))
def DU (n:ZF) (op num:Int):LI:=if op=9 then ((n.routines[num.toNat]?).map (·.lent)).getD [] else []
def T2 (n:ZF) (op num:Int) (i:Nat):Bool:=decide ((i:Int)∈DU n op num)
def Js (n:ZF) (vars:LI) (op num a:Int) (i:Nat):Bool:=Aa op&&(gI vars a != 0&&!T2 n op num i)
def Kx (n:ZF) (op num:Int):LI->Nat->ZM->Option ZM
 | [],_,L=>some L
 | a::r,i,L=>if Js n L.vars op num a i=true then (match Q5 L a with
   | none=>none
   | some L1=>Kx n op num r (i+1) L1) else Kx n op num r (i+1) L
def BI (n:ZF) (op num:Int) (ln:LI) (L:ZM):LI->Nat->Bool
 | [],_=>true
 | a::r,i=>if T2 n op num i=true/\¬T8 L ln a=true then false else BI n op num ln L r (i+1)
def EL (L:ZM) (into:Int) (m:Nat):Option ZM:=
 if 0<into then (if gI L.tok (into-1)≠m then none else some { L with tok:=L.tok.set (into-1).toNat (-1) }) else some L
def Jw (n:ZF) (ln:LI) (L:ZM) (op num into:Int) (args:LI):Option ZM:=
 match Kx n op num args 0 L with
 | none=>none
 | some L1=>if BI n op num ln L1 args 0=true then EL L1 into args.length else none
def C8:LI->LI->Bool
 | o::os,t::ts=>if o≠0∨0<=t then false else C8 os ts
 | _,_=>true
def ZM.take (L:ZM) (m:Nat):ZM:=⟨L.vars.take m,L.own.take m,L.par.take m,L.con.take m,L.fst.take m,L.tok.take m⟩
def Jt (L:ZM) (m:Nat):Option ZM:=if C8 (L.own.drop m) (L.tok.drop m)=true then some (L.take m) else none
def CK (L:ZM) (par:Int):LI->ZM
 | []=>L
 | t::r=>CK (L.grow t 0 par) par r
def Cq (ds:List Zd) (L:ZM) (x c:Int):ZM:=
 CK { L with con:=L.con.set x.toNat c,fst:=L.fst.set x.toNat L.vars.length } x (ZP ds c)
def TN (ds:List Zd) (L:ZM) (op num:Int) (args:LI) (i:Nat):ZM:=
 if op=8 then Cq ds L (gI args 0) (gI (Y0 ds num) i) else L
def Bc (lent:LI):LI->Nat->ZM->ZM
 | [],_,L=>L
 | t::r,i,L=>Bc lent r (i+1) (L.grow t (if t≠0/\¬(i:Int)∈lent then 1 else 0) (-1))
def KF (r:YF):ZM:=Bc r.lent r.params 0 ⟨[],[],[],[],[],[]⟩
def Cy (L:ZM) (ln:LI) (v:Int):Option ZM:=if T8 L ln v=true then some { L with own:=L.own.set v.toNat (gI L.own v+1) } else none
def JM (n:ZF) (ln:LI) (L:ZM) (op num into:Int) (args:LI) (ch:Option ZM):Option ZM:=
 if op=14 then Cy L ln (gI args 0)
 else if op=15 then Q5 L (gI args 0)
 else if op=16∨op=17 then Aq n.decls L op (gI args 0)
 else if op=7∨op=8 then (if op=8/\¬T8 L ln (gI args 0)=true then none else ch)
 else Jw n ln L op num into args
def Ak (L:ZM) (op t:Int) (r:Option ZM):Option ZM:=
 match r with
 | none=>none
 | some L1=>if Xh op=true then some (L1.grow t (if t≠0 then 1 else 0) (-1)) else some L1
def CX (L:ZM) (first:Option ZM) (rest:ZM->Bool):Option ZM:=
 match first with
 | none=>none
 | some one=>if rest one=true then some { L with own:=one.own,tok:=one.tok } else none
def HP (one:ZM) (two:Option ZM) (rest:Bool):Bool:=
 match two with
 | none=>false
 | some two=>if one.own=two.own/\one.tok=two.tok then rest else false
def FH (r:Option ZM) (f:ZM->Option ZM):Option ZM:=match r with|none=>none|some L=>f L
def Ai (m:Nat) (res:Int) (L:ZM):Option ZM:=FH (if gI L.vars res≠0 then Q5 L res else some L) fun L2=>Jt L2 m
mutual
def QN (n:ZF) (ln:LI) (L:ZM):Z5->Option ZM
 | .mk op num into args kids=>Ak L op (X0 n L.vars (.mk op num into args kids)) (JM n ln L op num into args (J7 n ln L op num args kids))
def J7 (n:ZF) (ln:LI) (L:ZM) (op num:Int) (args:LI):List Z8->Option ZM
 | []=>none
 | b::bs=>CX L (U9 n ln (TN n.decls L op num args 0) L.vars.length b) fun one=>JE n ln L op num args one bs 1
def JE (n:ZF) (ln:LI) (L:ZM) (op num:Int) (args:LI) (one:ZM):List Z8->Nat->Bool
 | [],_=>true
 | b::bs,i=>HP one (U9 n ln (TN n.decls L op num args i) L.vars.length b) (JE n ln L op num args one bs (i+1))
def JN (n:ZF) (ln:LI) (L:ZM):List Z5->Option ZM
 | []=>some L
 | s::r=>FH (QN n ln L s) fun L1=>JN n ln L1 r
def U9 (n:ZF) (ln:LI) (L:ZM) (m:Nat):Z8->Option ZM
 | .mk steps result=>FH (JN n ln L steps) (Ai m result)
end
theorem Z12 (n:ZF) (ln:LI) (L:ZM) (s:Z5):QN n ln L s=Ak L s.op (X0 n L.vars s) (JM n ln L s.op s.num s.into s.args (J7 n ln L s.op s.num s.args s.kids)):=by
 cases s with
 | mk op num into args kids=>rw [QN];rfl
theorem Ix (n:ZF) (ln:LI) (L:ZM) (m:Nat) (b:Z8):U9 n ln L m b=FH (JN n ln L b.steps) (Ai m b.result):=by
 cases b with
 | mk st r=>rw [U9];rfl
def Z3f (n:ZF) (r:YF):Bool:=
 match U9 n r.lent (KF r) r.params.length r.body with
 | none=>false
 | some L=>(Jt L 0).isSome
def ND (n:ZF):List YF->Bool
 | []=>true
 | r::rs=>if Z3f n r=true then ND n rs else false
def Z3g (n:ZF):Bool:=Ko n&&ND n n.routines
structure Ts (L:ZM):Prop where
 own:L.own.length=L.vars.length
 par:L.par.length=L.vars.length
 con:L.con.length=L.vars.length
 fst:L.fst.length=L.vars.length
 tok:L.tok.length=L.vars.length
structure XK (ds:List Zd) (L:ZM) (q:Int):Prop where
 len:Ts L
 down:∀j:Int,0<=j->j<L.vars.length->gI L.par j<j
 arm:∀x:Int,0<=x->x<L.vars.length->0<=gI L.con x->0<=gI L.fst x/\gI L.fst x+(ZP ds (gI L.con x)).length<=L.vars.length
 nn:∀x∈L.own,0<=x
 bd:∀x∈L.own,x<=q
end Go.Abs
section
namespace Go.Abs
end Go.Abs
namespace Go.Abs
theorem Zbm {n:ZF} {op num:Int} {r:YF} (h:op=9) (hr:n.routines[num.toNat]? = some r):DU n op num=r.lent:=by
 rw [DU,Zk h,hr];rfl
end Go.Abs
namespace Go.Abs
theorem Z2q {own par ln:LI} {N:Int} (hd:∀j:Int,0<=j->j<N->gI par j<j):∀(k:Nat) (v:Int),0<=v->v<N->v.toNat+1<=k->QT own par ln k v=QT own par ln (v.toNat+1) v:=by
 intro k
 induction k using Nat.strongRecOn with
 | ind k ih=>
  intro v h0 hN hk
  cases k with
  | zero=>omega
  | succ k=>
   rw [QT,QT]
   split
   ·split
    ·rfl
    ·have hdv:=hd v h0 hN
     rw [ih k om (gI par v) om om om]
     rw [ih v.toNat om (gI par v) om om om]
   ·rfl
theorem Z2s {own par ln:LI} {N j x1 x2:Int} {r:Bool} (h1:gI own j=x1) (h2:gI par j=x2) (hj:0<=j/\j<N) (hx:x1<1/\¬j∈ln) (h0:¬x2<0) (hd:∀i:Int,0<=i->i<N->gI par i<i)
  (h:QT own par ln (j.toNat+1) j=r):QT own par ln (x2.toNat+1) x2=r:=by
 rw [QT,h1,h2,Zk hx,Zb h0] at h
 have hdv:=hd j hj.1 hj.2
 rw [<-h,Z2q hd j.toNat x2 om om om]
theorem Z2r {own par ln:LI} {j x1 x2:Int} {r:Bool} (h1:gI own j=x1) (h2:gI par j=x2) (hx:x1<1/\¬j∈ln) (h0:x2<0) (h:QT own par ln (j.toNat+1) j=r):false=r:=by
 rw [QT,h1,h2,Zk hx,Zk h0] at h;exact h
theorem Z2t {own par ln:LI} {j x1:Int} {r:Bool} (h1:gI own j=x1) (hx:¬(x1<1/\¬j∈ln)) (h:QT own par ln (j.toNat+1) j=r):true=r:=by
 rw [QT,h1,Zb hx] at h;exact h
end Go.Abs
namespace Go.Abs
theorem JO {L L':ZM} {v:Int} (h:Q5 L v=some L'):1<=gI L.own v/\L'.vars=L.vars/\L'.par=L.par/\L'.con=L.con/\L'.fst=L.fst/\L'.tok=L.tok/\L'.own=L.own.set v.toNat (gI L.own v-1):=by
 rw [Q5] at h
 split at h
 ·cases h
 ·cases h;exact ⟨by omega,rfl,rfl,rfl,rfl,rfl,rfl⟩
theorem GH {xs:LI} {v:Int} (h:gI xs v≠0):gI xs v∈xs:=by
 rw [gI] at h ⊢
 cases hx:xs[v.toNat]? with
 | none=>rw [hx] at h;exact absurd rfl h
 | some y=>exact Y7 hx
theorem JJ {xs:LI} {i:Nat} {a x:Int} (h:x∈xs.set i a):x∈xs∨x=a:=List.mem_or_eq_of_mem_set h
theorem XK.take {ds:List Zd} {L L':ZM} {q v:Int} (hk:XK ds L q) (h:Q5 L v=some L'):XK ds L' q:=by
 obtain ⟨t1,t2,t3,t4,t5,t6,t7⟩:=JO h
 obtain ⟨f1,f2,f3,f4,f5⟩:=hk.len
 have hm:=GH (xs:=L.own) (v:=v) om
 refine ⟨⟨by rw [t7,t2,VG];exact f1,by rw [t3,t2];exact f2,by rw [t4,t2];exact f3,by rw [t5,t2];exact f4,by rw [t6,t2];exact f5⟩,?_,?_,?_,?_⟩
 ·rw [t2,t3];exact hk.down
 ·rw [t2,t4,t5];exact hk.arm
 ·rw [t7];intro x hx
  rcases JJ hx with hx|rfl
  ·exact hk.nn x hx
  ·omega
 ·rw [t7];intro x hx
  rcases JJ hx with hx|rfl
  ·exact hk.bd x hx
  ·have:=hk.bd _ hm;omega
end Go.Abs
end
namespace Go.Abs
theorem MZ {us:LI}:∀{args tys:LI},KO us args tys=true->args.length=tys.length/\∀a∈args,0<=a/\a<us.length
 | [],[],_=>⟨rfl,by simp⟩
 | [],_::_,h=>by cases h
 | _::_,[],h=>by cases h
 | a::as1,t::ts,h=>by
  rw [KO] at h
  split at h
  ·rename_i h1
   obtain ⟨q1,q2⟩:=MZ h
   refine ⟨by simp [q1],fun x hx=>?_⟩
   rcases YM.1 hx with rfl|hx
   ·have:=(Di h1).1;omega
   ·exact q2 x hx
  ·cases h
theorem PX {n:ZF} {us:LI}:∀{bs:List Z8} {ms:List LI} {f:Bool} {t:Int},0<=t->0<=QG n us bs ms f t ->
  ∀(i:Nat) (b:Z8) (m:LI),bs[i]? = some b->ms[i]? = some m->0<=W3 n (us++m) b
 | [],_,_,_,_,_,i,b,m,hb,_=>by simp at hb
 | b::bs,[],_,_,_,h,_,_,_,_,hm=>by simp at hm
 | b::bs,m::ms,f,t,ht,h,i,c,l,hc,hl=>by
  rw [QG] at h
  split at h
  ·omega
  ·rename_i hq
   have h0:0<=W3 n (us++m) b:=by
    rcases Int.lt_or_le (W3 n (us++m) b) 0 with q|q
    ·exact absurd (.inl q) hq
    ·exact q
   cases i with
   | zero=>simp at hc hl;subst hc hl;exact h0
   | succ i=>exact PX h0 h i c l (by simpa using hc) (by simpa using hl)
structure Cj (n:ZF) (us:LI) (s:Z5):Prop where
 args:∀a∈s.args,0<=a/\a<us.length
 one:(s.op=7∨s.op=8∨(14<=s.op/\s.op<=17))->∃a,s.args=[a]
 num:s.op=9->0<=s.num/\s.num<n.routines.length
 into:s.into≠0->1<=s.into/\s.into<=us.length
 kids:(s.op=7∨s.op=8)->s.kids.length=(W2 n.decls s.op s.num).length/\(W2 n.decls s.op s.num).length≠0 /\
  ∀(i:Nat) (b:Z8) (m:LI),s.kids[i]? = some b->(W2 n.decls s.op s.num)[i]? = some m->0<=W3 n (us++m) b
theorem Zb0 {n:ZF} {us:LI} {op num:Int} {kids:List Z8} (h:0<=JF n us op num kids) :
  kids.length=(W2 n.decls op num).length/\(W2 n.decls op num).length≠0/\∀(i:Nat) (b:Z8) (m:LI),kids[i]? = some b->(W2 n.decls op num)[i]? = some m->0<=W3 n (us++m) b:=by
 rw [JF] at h
 split at h
 ·omega
 ·rename_i hq
  exact ⟨by omega,by omega,PX (Int.le_refl 0) h⟩
theorem Rd {xs:LI} (h:xs.length=1):∃a,xs=[a]:=by
 match xs,h with
 | [a],_=>exact ⟨a,rfl⟩
theorem Z14 {n:ZF} {us:LI} {s:Z5} (h:0<=X0 n us s):Cj n us s:=by
 rw [MS] at h
 split at h
 ·omega
 rename_i h0
 have hinto:s.into≠0->1<=s.into/\s.into<=us.length:=by
  intro hi
  have hv:Q6 us s.op s.into=true:=by
   cases q:Q6 us s.op s.into with
   | true=>rfl
   | false=>exact absurd (.inr (.inl (by rw [q];simp))) h0
  rw [Q6,Zb hi] at hv
  split at hv
  ·cases ha:Wx us (s.into-1) with
   | none=>rw [ha] at hv;cases hv
   | some t=>have:=(Di ha).1;omega
  ·cases hv
 have mk:(∀a∈s.args,0<=a/\a<us.length)->((s.op=7∨s.op=8∨(14<=s.op/\s.op<=17))->∃a,s.args=[a])->(s.op=9->0<=s.num/\s.num<n.routines.length) ->
   ((s.op=7∨s.op=8)->0<=JF n us s.op s.num s.kids)->Cj n us s:=fun a b c d=>⟨a,b,c,hinto,fun q=>Zb0 (d q)⟩
 have ty:∀{tys},V3 us s.args tys=true->s.args.length=tys.length/\∀a∈s.args,0<=a/\a<us.length:=fun q=>MZ q
 split at h
 ·rename_i h1
  split at h
  ·rename_i h2
   exact mk (by rw [List.eq_nil_of_length_eq_zero h2.1];simp) om om om
  ·omega
 split at h
 ·split at h
  ·rename_i h1 h2;exact mk (ty h2).2 om om om
  ·omega
 split at h
 ·split at h
  ·rename_i h1 h2;exact mk (ty h2).2 om om om
  ·omega
 split at h
 ·split at h
  ·rename_i h1 h2;exact mk (ty h2.2).2 om om om
  ·omega
 split at h
 ·split at h
  ·rename_i h1 h2;exact mk (ty h2).2 (fun _=>Rd (by simpa using (ty h2).1)) om (fun _=>h)
  ·omega
 split at h
 ·split at h
  ·rename_i h1 h2;exact mk (ty h2).2 (fun _=>Rd (by simpa using (ty h2).1)) om (fun _=>h)
  ·omega
 split at h
 ·rename_i hop
  rw [Kh] at h
  cases hr:Wx n.routines s.num with
  | none=>rw [hr] at h;simp at h
  | some r=>
   rw [hr] at h
   simp only at h
   have hn:=(Di hr).1
   rw [BY] at h
   split at h
   ·split at h
    ·rename_i h2;exact mk (ty h2).2 om om om
    ·omega
   ·split at h
    ·omega
    ·rename_i h2
     have h3:V3 us s.args (r.params.take (r.params.length-1))=true:=by
      cases q:V3 us s.args (r.params.take (r.params.length-1)) with
      | true=>rfl
      | false=>exact absurd (.inr (.inr (by rw [q];simp))) h2
     exact mk (ty h3).2 om om om
 split at h
 ·rename_i hop
  rcases he:s.args with _|⟨a,_|⟨b,_|⟨c,r⟩⟩⟩
  ·rw [he,show KW n.decls us []=-1 from rfl] at h;omega
  ·rw [he,show KW n.decls us [a]=-1 from rfl] at h;omega
  ·rw [he,KW] at h
   cases ha:Wx us a with
   | none=>rw [ha] at h;simp at h
   | some t=>
    rw [ha] at h
    simp only at h
    split at h
    ·cases hd:n.decls[(t-1).toNat]? with
     | none=>rw [hd] at h;simp at h
     | some d=>
      rw [hd] at h
      simp only at h
      split at h
      ·rename_i h3
       have h4:=(MZ h3).2 b (by simp)
       have h5:=(Di ha).1
       refine mk (fun x hx=>?_) om om om
       rw [he] at hx
       rcases YM.1 hx with rfl|hx
       ·omega
       ·rw [XF.1 hx];exact h4
      ·omega
    ·omega
  ·rw [he,show KW n.decls us (a::b::c::r)=-1 from rfl] at h;omega
 split at h
 ·rename_i hop
  rcases he:s.args with _|⟨a,_|⟨b,r⟩⟩
  ·rw [he,show KY n.decls us s.op []=-1 from rfl] at h;omega
  ·rw [he,KY] at h
   cases ha:Wx us a with
   | none=>rw [ha] at h;simp at h
   | some t=>
    have h5:=(Di ha).1
    refine mk (fun x hx=>?_) (fun _=>⟨a,he⟩) om om
    rw [he] at hx
    rw [XF.1 hx];omega
  ·rw [he,show KY n.decls us s.op (a::b::r)=-1 from rfl] at h;omega
 ·omega
def Kl (n:ZF) (us:LI) (s:Z5):LI:=if Xh s.op=true then us++[X0 n us s] else us
theorem O6 {L L':ZM} {ln:LI} {v:Int} (h:Cy L ln v=some L'):L'.vars=L.vars/\L'.par=L.par/\L'.con=L.con/\L'.fst=L.fst/\L'.tok=L.tok/\L'.own=L.own.set v.toNat (gI L.own v+1):=by
 rw [Cy] at h
 split at h
 ·cases h;exact ⟨rfl,rfl,rfl,rfl,rfl,rfl⟩
 ·cases h
theorem Ir:∀(fs:LI) (own:LI) (p:Int),(Qx own p fs).length=own.length
 | [],own,p=>rfl
 | f::r,own,p=>by rw [Qx,Ir r];split<;>simp
theorem Ls {xs:LI} {q v:Int} (h:∀x∈xs,x<=q) (hq:0<=q):gI xs v<=q:=by
 by_cases h0:gI xs v=0
 ·omega
 ·exact h _ (GH h0)
theorem Lu {xs:LI} {v:Int} (h:∀x∈xs,0<=x):0<=gI xs v:=by
 by_cases h0:gI xs v=0
 ·omega
 ·exact h _ (GH h0)
theorem Is:∀(fs:LI) (own:LI) (p:Int),(∀x∈own,0<=x)->∀x∈Qx own p fs,0<=x
 | [],own,p,h=>h
 | f::r,own,p,h=>by
  rw [Qx]
  refine Is r _ _ fun x hx=>?_
  split at hx
  ·rcases JJ hx with hx|rfl
   ·exact h x hx
   ·have:=Lu (v:=p) h;omega
  ·exact h x hx
theorem Iq:∀(fs:LI) (own:LI) (p q:Int),0<=q->(∀x∈own,x<=q)->∀x∈Qx own p fs,x<=q+fs.length
 | [],own,p,q,hq,h=>by intro x hx;have:=h x hx;simp;omega
 | f::r,own,p,q,hq,h=>by
  intro x hx
  rw [Qx] at hx
  have:=Iq r _ _ (q+1) om (fun y hy=>by
   split at hy
   ·rcases JJ hy with hy|rfl
    ·have:=h y hy;omega
    ·have:=Ls (v:=p) h hq;omega
   ·have:=h y hy;omega) x hx
  simp only [YA];omega
theorem RG {ds:List Zd} {L L':ZM} {op v:Int} (h:Aq ds L op v=some L'):L'.vars=L.vars/\L'.par=L.par/\L'.con=L.con/\L'.fst=L.fst/\L'.tok.length=L.tok.length /\
  ∃L1,Q5 L v=some L1/\L'.own=Qx L1.own (gI L.fst v) (ZP ds (gI L.con v)):=by
 rw [Aq] at h
 split at h
 ·cases h
 ·cases ht:Q5 L v with
  | none=>rw [ht] at h;cases h
  | some L1=>
   rw [ht] at h
   simp only at h
   obtain ⟨t1,t2,t3,t4,t5,t6,t7⟩:=JO ht
   cases h
   refine ⟨t2,t3,t4,t5,?_,L1,rfl,rfl⟩
   split
   ·rw [VG]
   ·rfl
theorem LA {n:ZF} {op num:Int} {ds:List Zd} {q:Int}:∀{as1:LI} {i:Nat} {L L':ZM},XK ds L q->Kx n op num as1 i L=some L'->XK ds L' q/\L'.vars=L.vars/\L'.par=L.par/\L'.con=L.con/\L'.fst=L.fst/\L'.tok=L.tok
 | [],i,L,L',hk,h=>by rw [Kx] at h;cases h;exact ⟨hk,rfl,rfl,rfl,rfl,rfl⟩
 | a::r,i,L,L',hk,h=>by
  rw [Kx] at h
  split at h
  ·cases ht:Q5 L a with
   | none=>rw [ht] at h;cases h
   | some L1=>
    rw [ht] at h
    obtain ⟨t1,t2,t3,t4,t5,t6,t7⟩:=JO ht
    obtain ⟨k1,k2,k3,k4,k5,k6⟩:=LA (hk.take ht) h
    exact ⟨k1,k2.trans t2,k3.trans t3,k4.trans t4,k5.trans t5,k6.trans t6⟩
  ·exact LA hk h
theorem XK.le {ds:List Zd} {L:ZM} {q q':Int} (h:XK ds L q) (hq:q<=q'):XK ds L q':=⟨h.len,h.down,h.arm,h.nn,fun x hx=>Int.le_trans (h.bd x hx) hq⟩
theorem XK.turn {ds:List Zd} {L L':ZM} {q q':Int} (hk:XK ds L q) (h1:L'.vars=L.vars) (h2:L'.par=L.par) (h3:L'.con=L.con) (h4:L'.fst=L.fst) (h5:L'.tok.length=L.tok.length) (h6:L'.own.length=L.own.length)
  (h7:∀x∈L'.own,0<=x) (h8:∀x∈L'.own,x<=q'):XK ds L' q':=by
 obtain ⟨f1,f2,f3,f4,f5⟩:=hk.len
 refine ⟨⟨by rw [h6,h1];exact f1,by rw [h2,h1];exact f2,by rw [h3,h1];exact f3,by rw [h4,h1];exact f4,by rw [h5,h1];exact f5⟩,?_,?_,h7,h8⟩
 ·rw [h1,h2];exact hk.down
 ·rw [h1,h3,h4];exact hk.arm
theorem DH {xs ys:LI} {j:Int} (h:j.toNat<xs.length):gI (xs++ys) j=gI xs j:=by
 rw [gI,gI,Az h]
theorem OT {xs:LI} {y:Int} {j:Int} (h:j.toNat=xs.length):gI (xs++[y]) j=y:=by
 rw [gI,h];simp
theorem XK.grow {ds:List Zd} {L:ZM} {q t o p:Int} (hk:XK ds L q) (hp:p<L.vars.length) (ho:0<=o/\o<=q):XK ds (L.grow t o p) q:=by
 obtain ⟨f1,f2,f3,f4,f5⟩:=hk.len
 refine ⟨⟨by simp [ZM.grow,f1],by simp [ZM.grow,f2],by simp [ZM.grow,f3],by simp [ZM.grow,f4],by simp [ZM.grow,f5]⟩,?_,?_,?_,?_⟩
 ·intro j hj hl
  simp only [ZM.grow,Yr,Bn] at hl ⊢
  by_cases hlt:j<L.vars.length
  ·rw [DH om];exact hk.down j hj hlt
  ·rw [OT om];omega
 ·intro x hx hl
  simp only [ZM.grow,Yr,Bn] at hl ⊢
  by_cases hlt:x<L.vars.length
  ·rw [DH om,DH om]
   intro hc
   have:=hk.arm x hx hlt hc
   exact ⟨this.1,by omega⟩
  ·rw [OT om];omega
 ·intro x hx
  simp only [ZM.grow,Xf,XF] at hx
  rcases hx with hx|rfl
  ·exact hk.nn x hx
  ·exact ho.1
 ·intro x hx
  simp only [ZM.grow,Xf,XF] at hx
  rcases hx with hx|rfl
  ·exact hk.bd x hx
  ·exact ho.2
theorem OU {xs:LI} {k:Nat} {a:Int} {j:Int} (h:xs.length<=j.toNat/\j.toNat<xs.length+k):gI (xs++List.replicate k a) j=a:=by
 rw [gI,Cc h.1,List.getElem?_replicate,Zk om];rfl
theorem OV {xs:LI} {x j c:Int} (h:j.toNat=x.toNat) (hl:x.toNat<xs.length):gI (xs.set x.toNat c) j=c:=by
 rw [gI,h,List.getElem?_set_self hl];rfl
theorem OW {xs:LI} {x j c:Int} (h:j.toNat≠x.toNat):gI (xs.set x.toNat c) j=gI xs j:=by
 rw [gI,gI,List.getElem?_set_ne (fun q=>h q.symm)]
theorem Pi {p:Int}:∀(fs:LI) (L:ZM),CK L p fs=⟨L.vars++fs,L.own++List.replicate fs.length 0,L.par++List.replicate fs.length p,L.con++List.replicate fs.length (-1),
  L.fst++List.replicate fs.length (-1),L.tok++List.replicate fs.length (-1)⟩
 | [],L=>by simp [CK]
 | t::r,L=>by rw [CK,Pi r];simp [ZM.grow,Z23]
theorem Z38 {ds:List Zd} {L:ZM} {q x c:Int} (hk:XK ds L q) (hq:0<=q) (hx:0<=x/\x<L.vars.length):XK ds (Cq ds L x c) q/\(Cq ds L x c).vars=L.vars++ZP ds c:=by
 obtain ⟨f1,f2,f3,f4,f5⟩:=hk.len
 rw [Cq,Pi]
 refine ⟨⟨⟨by simp [f1],by simp [f2],by simp [f3],by simp [f4],by simp [f5]⟩,?_,?_,?_,?_⟩,rfl⟩
 ·intro j hj hl
  simp only [Yr] at hl ⊢
  by_cases hlt:j<L.vars.length
  ·rw [DH om];exact hk.down j hj hlt
  ·rw [OU om];omega
 ·intro y hy hl
  simp only [Yr] at hl ⊢
  by_cases hlt:y<L.vars.length
  ·rw [DH (by simp;omega),DH (by simp;omega)]
   by_cases he:y.toNat=x.toNat
   ·rw [OV he om,OV he om]
    intro _
    exact ⟨by omega,by simp⟩
   ·rw [OW he,OW he]
    intro hc
    have:=hk.arm y hy hlt hc
    exact ⟨this.1,by omega⟩
  ·rw [OU (by simp;omega)];omega
 ·intro y hy
  simp only [Xf,List.mem_replicate] at hy
  rcases hy with hy|⟨_,rfl⟩
  ·exact hk.nn y hy
  ·exact Int.le_refl 0
 ·intro y hy
  simp only [Xf,List.mem_replicate] at hy
  rcases hy with hy|⟨_,rfl⟩
  ·exact hk.bd y hy
  ·exact hq
theorem H9 {n:ZF} {L:ZM} {q:Int} {s:Z5} {i:Nat} {m:LI} (hk:XK n.decls L q) (hq:0<=q) (hf:Cj n L.vars s) (hop:s.op=7∨s.op=8) (hm:(W2 n.decls s.op s.num)[i]? = some m) :
  XK n.decls (TN n.decls L s.op s.num s.args i) q/\(TN n.decls L s.op s.num s.args i).vars=L.vars++m:=by
 rw [TN]
 split
 ·rename_i h8
  obtain ⟨a,ha⟩:=hf.one om
  have hb:=hf.args a (by rw [ha];simp)
  have hg:gI s.args 0=a:=by rw [ha];rfl
  rw [W2,Zb om,Kq] at hm
  cases hc:(Y0 n.decls s.num)[i]? with
  | none=>rw [hc] at hm;cases hm
  | some c=>
   rw [hc] at hm
   cases hm
   have hgc:gI (Y0 n.decls s.num) (i:Int)=c:=by rw [gI];simp [hc]
   rw [hg,hgc]
   exact Z38 hk hq hb
 ·rename_i h8
  rw [W2,Zk om] at hm
  have:m=[]:=by
   match i,hm with
   | 0,hm=>simpa using hm.symm
   | 1,hm=>simpa using hm.symm
   | i+2,hm=>simp at hm
  subst this
  exact ⟨hk,by simp⟩
theorem Z15 {n:ZF}:∀{l:List Z5} {us vs:LI},UG n l us=some vs->us.length<=vs.length
 | [],us,vs,h=>by rw [UG] at h;cases h;exact X9 _
 | s::r,us,vs,h=>by
  rw [UG] at h
  split at h
  ·cases h
  ·have:=Z15 h
   split at this
   ·simp only [Yr,Bn] at this;omega
   ·exact this
theorem Pj {n:ZF} {ln:LI} {L L':ZM} {op num into q:Int} {args:LI} {ds:List Zd} (hk:XK ds L q) (h:Jw n ln L op num into args=some L'):XK ds L' q/\L'.vars=L.vars:=by
 rw [Jw] at h
 cases ht:Kx n op num args 0 L with
 | none=>rw [ht] at h;cases h
 | some L1=>
  rw [ht] at h
  simp only at h
  obtain ⟨k1,k2,k3,k4,k5,k6⟩:=LA hk ht
  split at h
  ·rw [EL] at h
   split at h
   ·split at h
    ·cases h
    ·cases h
     exact ⟨k1.turn rfl rfl rfl rfl (by simp) rfl k1.nn k1.bd,k2⟩
   ·cases h;exact ⟨k1,k2⟩
  ·cases h
theorem Z4k {L L':ZM} {m:Nat} (h:Jt L m=some L'):L'=L.take m/\C8 (L.own.drop m) (L.tok.drop m)=true:=by
 rw [Jt] at h
 split at h
 ·rename_i hz;cases h;exact ⟨rfl,hz⟩
 ·cases h
theorem MY {r:Option ZM} {f:ZM->Option ZM} {L:ZM} (h:FH r f=some L):∃L1,r=some L1/\f L1=some L:=by
 cases r with
 | none=>cases h
 | some L1=>exact ⟨L1,rfl,h⟩
theorem R9 (n:ZF) (hn:Xx n) (ln:LI):∀m:Nat,
  (∀(s:Z5) (L L':ZM) (q:Int),s.sz<=m->XK n.decls L q->0<=q->0<=X0 n L.vars s->QN n ln L s=some L'->XK n.decls L' (q+4*s.sz)/\L'.vars=Kl n L.vars s) /\
  (∀(b:Z8) (L O:ZM) (q:Int) (k:Nat),b.sz<=m->XK n.decls L q->0<=q->0<=W3 n L.vars b->k<=L.vars.length->U9 n ln L k b=some O ->
   (O.own.length=k/\O.tok.length=k/\(∀x∈O.own,0<=x/\x<=q+4*b.sz))/\Ts O/\O.vars.length=k):=by
 intro m
 induction m with
 | zero=>exact ⟨fun s _ _ _ h=>by have:=s.sz_pos;omega,fun s _ _ _ _ h=>by have:=s.sz_pos;omega⟩
 | succ m ih=>
  have hs:∀(s:Z5) (L L':ZM) (q:Int),s.sz<=m+1->XK n.decls L q->0<=q->0<=X0 n L.vars s->QN n ln L s=some L'->XK n.decls L' (q+4*s.sz)/\L'.vars=Kl n L.vars s:=by
   intro s L L' q XQ hk hq hty h
   have hp:=s.sz_pos
   have hf:=Z14 hty
   obtain ⟨f1,f2,f3,f4,f5⟩:=hk.len
   rw [Z12] at h
   unfold Ak at h
   cases hpk:JM n ln L s.op s.num s.into s.args (J7 n ln L s.op s.num s.args s.kids) with
   | none=>rw [hpk] at h;cases h
   | some L1=>
    rw [hpk] at h
    simp only at h
    have key:XK n.decls L1 (q+4*s.sz)/\L1.vars=L.vars:=by
     rw [JM] at hpk
     split at hpk
     ·obtain ⟨d1,d2,d3,d4,d5,d6⟩:=O6 hpk
      refine ⟨hk.turn d1 d2 d3 d4 (by rw [d5]) (by rw [d6,VG]) ?_ ?_,d1⟩
      ·rw [d6];intro x hx
       rcases JJ hx with hx|rfl
       ·exact hk.nn x hx
       ·have:=Lu (v:=gI s.args 0) hk.nn;omega
      ·rw [d6];intro x hx
       rcases JJ hx with hx|rfl
       ·have:=hk.bd x hx;omega
       ·have:=Ls (v:=gI s.args 0) hk.bd hq;omega
     split at hpk
     ·exact ⟨(hk.take hpk).le om,(JO hpk).2.1⟩
     split at hpk
     ·rename_i hop
      obtain ⟨d1,d2,d3,d4,d5,Lt,ht,d6⟩:=RG hpk
      have hkt:=hk.take ht
      have h3:=Vs hn.decls (gI L.con (gI s.args 0))
      refine ⟨hk.turn d1 d2 d3 d4 d5 ?_ ?_ ?_,d1⟩
      ·rw [d6,Ir,(JO ht).2.2.2.2.2.2,VG]
      ·rw [d6];exact Is _ _ _ hkt.nn
      ·rw [d6];intro x hx
       have:=Iq _ _ _ q hq hkt.bd x hx;omega
     split at hpk
     ·rename_i hop
      split at hpk
      ·cases hpk
      ·cases hks:s.kids with
       | nil=>rw [hks,J7] at hpk;cases hpk
       | cons b bs=>
        rw [hks,J7] at hpk
        unfold CX at hpk
        cases hb:U9 n ln (TN n.decls L s.op s.num s.args 0) L.vars.length b with
        | none=>rw [hb] at hpk;cases hpk
        | some one=>
         rw [hb] at hpk
         simp only at hpk
         split at hpk
         ·cases hpk
          obtain ⟨q1,q2,q3⟩:=hf.kids hop
          have hks0:s.kids[0]? = some b:=by rw [hks];rfl
          obtain ⟨a0,ha0⟩:=B0 (xs:=W2 n.decls s.op s.num) (j:=0) om
          obtain ⟨k1,k2⟩:=H9 hk hq hf hop ha0
          have hbz:=Qo hks0
          obtain ⟨⟨r1,r2,r3⟩,_⟩:=ih.2 b _ one q L.vars.length om k1 hq (by rw [k2];exact q3 0 b a0 hks0 ha0) (by rw [k2];simp) hb
          refine ⟨hk.turn rfl rfl rfl rfl (by simp only;omega) (by simp only;omega) (fun x hx=>(r3 x hx).1) (fun x hx=>?_),rfl⟩
          have:=(r3 x hx).2;omega
         ·cases hpk
     ·obtain ⟨k1,k2⟩:=Pj hk hpk
      exact ⟨k1.le om,k2⟩
    split at h
    ·rename_i hd
     cases h
     refine ⟨key.1.grow om ?_,by rw [Kl,Zk hd];simp [ZM.grow,key.2]⟩
     split<;>omega
    ·rename_i hd
     cases h
     exact ⟨key.1,by rw [Kl,Zb hd];exact key.2⟩
  refine ⟨hs,?_⟩
  intro b L O q k XQ hk hq hty hkl h
  have hsteps:∀(l:List Z5) (L L':ZM) (q:Int) (vs:LI),Yw l<=m->XK n.decls L q->0<=q->UG n l L.vars=some vs->JN n ln L l=some L'->XK n.decls L' (q+4*Yw l)/\L'.vars=vs:=by
   intro l
   induction l with
   | nil=>intro L L' q vs _ hk _ h1 h2;rw [UG] at h1;rw [JN] at h2;cases h1;cases h2;exact ⟨by simpa [Yw] using hk,rfl⟩
   | cons s r ihr=>
    intro L L' q vs hz hk hq h1 h2
    rw [Yw] at hz
    rw [JN] at h2
    obtain ⟨L1,e1,e2⟩:=MY h2
    rw [UG] at h1
    split at h1
    ·cases h1
    ·rename_i h0
     obtain ⟨k1,k2⟩:=hs s L L1 q om hk hq om e1
     obtain ⟨k3,k4⟩:=ihr L1 L' (q+4*s.sz) vs om k1 om (by rw [k2];exact h1) e2
     exact ⟨k3.le (by rw [Yw];omega),k4⟩
  have hbz:=b.sz_eq
  rw [Ix] at h
  obtain ⟨L1,e1,e2⟩:=MY h
  rw [Iy] at hty
  cases hv:UG n b.steps L.vars with
  | none=>rw [hv] at hty;simp at hty
  | some vs=>
   obtain ⟨k1,k2⟩:=hsteps b.steps L L1 q vs om hk hq hv e1
   have hlen:=Z15 hv
   rw [Ai] at e2
   obtain ⟨L2,e3,e4⟩:=MY e2
   have k3:XK n.decls L2 (q+4*Yw b.steps)/\L2.vars=L1.vars:=by
    split at e3
    ·exact ⟨k1.take e3,(JO e3).2.1⟩
    ·cases e3;exact ⟨k1,rfl⟩
   obtain ⟨rfl,_⟩:=Z4k e4
   obtain ⟨g1,g2,g3,g4,g5⟩:=k3.1.len
   have hl2:L2.vars.length=vs.length:=by rw [k3.2,k2]
   refine ⟨⟨by simp [ZM.take];omega,by simp [ZM.take];omega,fun x hx=>?_⟩,⟨by simp [ZM.take];omega,by simp [ZM.take];omega,by simp [ZM.take];omega,by simp [ZM.take];omega,by simp [ZM.take];omega⟩,by simp [ZM.take];omega⟩
   have hx':x∈L2.own:=QR hx
   have:=k3.1.nn x hx'
   have:=k3.1.bd x hx'
   omega
theorem Z13 {n:ZF} (hn:Xx n) {ln:LI} {s:Z5} {L L':ZM} {q:Int} (hk:XK n.decls L q) (hq:0<=q) (hty:0<=X0 n L.vars s) (h:QN n ln L s=some L'):XK n.decls L' (q+4*s.sz)/\L'.vars=Kl n L.vars s:=
 (R9 n hn ln s.sz).1 s L L' q (X9 _) hk hq hty h
theorem NE {n:ZF} (hn:Xx n) {ln:LI} {b:Z8} {L O:ZM} {q:Int} {k:Nat} (hk:XK n.decls L q) (hq:0<=q) (hty:0<=W3 n L.vars b) (hkl:k<=L.vars.length) (h:U9 n ln L k b=some O) :
  O.own.length=k/\O.tok.length=k/\(∀x∈O.own,0<=x/\x<=q+4*b.sz):=
 ((R9 n hn ln b.sz).2 b L O q k (X9 _) hk hq hty hkl h).1
theorem Fj {n:ZF} (hn:Xx n) {ln:LI} {s:Z5} {L L1:ZM} {q:Int} (hk:XK n.decls L q) (hq:0<=q) (hf:Cj n L.vars s)
  (hpk:JM n ln L s.op s.num s.into s.args (J7 n ln L s.op s.num s.args s.kids)=some L1):XK n.decls L1 (q+4*s.sz)/\L1.vars=L.vars:=by
 have hp:=s.sz_pos
 obtain ⟨f1,f2,f3,f4,f5⟩:=hk.len
 rw [JM] at hpk
 split at hpk
 ·obtain ⟨d1,d2,d3,d4,d5,d6⟩:=O6 hpk
  refine ⟨hk.turn d1 d2 d3 d4 (by rw [d5]) (by rw [d6,VG]) ?_ ?_,d1⟩
  ·rw [d6];intro x hx
   rcases JJ hx with hx|rfl
   ·exact hk.nn x hx
   ·have:=Lu (v:=gI s.args 0) hk.nn;omega
  ·rw [d6];intro x hx
   rcases JJ hx with hx|rfl
   ·have:=hk.bd x hx;omega
   ·have:=Ls (v:=gI s.args 0) hk.bd hq;omega
 split at hpk
 ·exact ⟨(hk.take hpk).le om,(JO hpk).2.1⟩
 split at hpk
 ·rename_i hop
  obtain ⟨d1,d2,d3,d4,d5,Lt,ht,d6⟩:=RG hpk
  have hkt:=hk.take ht
  have h3:=Vs hn.decls (gI L.con (gI s.args 0))
  refine ⟨hk.turn d1 d2 d3 d4 d5 ?_ ?_ ?_,d1⟩
  ·rw [d6,Ir,(JO ht).2.2.2.2.2.2,VG]
  ·rw [d6];exact Is _ _ _ hkt.nn
  ·rw [d6];intro x hx
   have:=Iq _ _ _ q hq hkt.bd x hx;omega
 split at hpk
 ·rename_i hop
  split at hpk
  ·cases hpk
  ·cases hks:s.kids with
   | nil=>rw [hks,J7] at hpk;cases hpk
   | cons b bs=>
    rw [hks,J7] at hpk
    unfold CX at hpk
    cases hb:U9 n ln (TN n.decls L s.op s.num s.args 0) L.vars.length b with
    | none=>rw [hb] at hpk;cases hpk
    | some one=>
     rw [hb] at hpk
     simp only at hpk
     split at hpk
     ·cases hpk
      obtain ⟨q1,q2,q3⟩:=hf.kids hop
      have hks0:s.kids[0]? = some b:=by rw [hks];rfl
      obtain ⟨a0,ha0⟩:=B0 (xs:=W2 n.decls s.op s.num) (j:=0) om
      obtain ⟨k1,k2⟩:=H9 hk hq hf hop ha0
      have hbz:=Qo hks0
      obtain ⟨r1,r2,r3⟩:=NE hn k1 hq (by rw [k2];exact q3 0 b a0 hks0 ha0) (by rw [k2];simp) hb
      refine ⟨hk.turn rfl rfl rfl rfl (by simp only;omega) (by simp only;omega) (fun x hx=>(r3 x hx).1) (fun x hx=>?_),rfl⟩
      have:=(r3 x hx).2;omega
     ·cases hpk
 ·obtain ⟨k1,k2⟩:=Pj hk hpk
  exact ⟨k1.le om,k2⟩
end Go.Abs
section
namespace Go.Abs
theorem Z39 {ds:List Zd} {op num:Int} {i:Nat} {m:LI} (h8:op=8) (h:(W2 ds op num)[i]? = some m):∃c,(Y0 ds num)[i]? = some c/\m=ZP ds c:=by
 rw [W2,Zb om,Kq] at h
 cases hc:(Y0 ds num)[i]? with
 | none=>rw [hc] at h;cases h
 | some c=>rw [hc] at h;cases h;exact ⟨c,rfl,rfl⟩
theorem Zaw {ds:List Zd} {L:ZM} {op num x c:Int} {args:LI} {i:Nat} (h8:op=8) (hx:args[0]? = some x) (hc:(Y0 ds num)[i]? = some c):TN ds L op num args i=Cq ds L x c:=by
 have h1:gI args 0=x:=by rw [gI];simp [hx]
 have h2:gI (Y0 ds num) (i:Int)=c:=by rw [gI];simp [hc]
 rw [TN,Zk h8,h1,h2]
theorem Zax {ds:List Zd} {L:ZM} {op num:Int} {args:LI} {i:Nat} (h8:¬op=8):TN ds L op num args i=L:=by rw [TN,Zb h8]
theorem Zay {n:ZF} {ln:LI} {L:ZM} {op num:Int} {args:LI} {kids:List Z8} {kb:Z8} (h:kids[0]? = some kb) :
  J7 n ln L op num args kids=CX L (U9 n ln (TN n.decls L op num args 0) L.vars.length kb) fun one=>JE n ln L op num args one (kids.drop 1) 1:=by
 cases kids with
 | nil=>simp at h
 | cons b bs=>simp at h;subst h;rw [J7];rfl
theorem Zaz {n:ZF} {ln:LI} {L one:ZM} {op num:Int} {args:LI} {kids:List Z8} {kb:Z8} {k:Nat} (h:kids[k]? = some kb) :
  JE n ln L op num args one (kids.drop k) k=HP one (U9 n ln (TN n.decls L op num args k) L.vars.length kb) (JE n ln L op num args one (kids.drop (k+1)) (k+1)):=by
 rw [Yl h,JE]
def Cu (n:ZF) (ln:LI) (L:ZM) (s:Z5):Option ZM:=
 if s.op=8/\¬T8 L ln (gI s.args 0)=true then none else J7 n ln L s.op s.num s.args s.kids
theorem Z3u {n:ZF} {ln:LI} {L:ZM} {s:Z5} {kb:Z8} (h:¬(s.op=8/\¬T8 L ln (gI s.args 0)=true)) (hk:s.kids[0]? = some kb) :
  Cu n ln L s=CX L (U9 n ln (TN n.decls L s.op s.num s.args 0) L.vars.length kb) fun one=>JE n ln L s.op s.num s.args one (s.kids.drop 1) 1:=by
 rw [Cu,Zb h,Zay hk]
theorem QB {xs:LI} {x:Int} (h:xs[0]? = some x):gI xs 0=x:=by rw [gI];simp [h]
end Go.Abs
namespace Go.Abs
theorem Ts.grow {L:ZM} {t o p:Int} (h:Ts L):Ts (L.grow t o p):=by
 obtain ⟨f1,f2,f3,f4,f5⟩:=h
 exact ⟨by simp [ZM.grow,f1],by simp [ZM.grow,f2],by simp [ZM.grow,f3],by simp [ZM.grow,f4],by simp [ZM.grow,f5]⟩
theorem Ts.arm {L:ZM} {i j:Nat} {c d:Int} (h:Ts L):Ts ⟨L.vars,L.own,L.par,L.con.set i c,L.fst.set j d,L.tok⟩:=by
 obtain ⟨f1,f2,f3,f4,f5⟩:=h
 exact ⟨f1,f2,by simp [f3],by simp [f4],f5⟩
end Go.Abs
namespace Go.Abs
theorem PW {n:ZF} (hn:Xx n) {ln:LI} {L O:ZM} {q:Int} {s:Z5} {i:Nat} {kb:Z8} {m:LI} (hk:XK n.decls L q) (hq:0<=q) (hf:Cj n L.vars s) (hop:s.op=7∨s.op=8)
  (_:s.kids[i]? = some kb) (harm:(W2 n.decls s.op s.num)[i]? = some m) (hbt:0<=W3 n (L.vars++m) kb) (h:U9 n ln (TN n.decls L s.op s.num s.args i) L.vars.length kb=some O) :
  O.own.length=L.vars.length/\O.tok.length=L.vars.length:=by
 obtain ⟨k1,k2⟩:=H9 hk hq hf hop harm
 obtain ⟨r1,r2,_⟩:=NE hn k1 hq (by rw [k2];exact hbt) (by rw [k2];simp) h
 exact ⟨r1,r2⟩
theorem Zer {one two:ZM} {r:Bool} (h:¬(¬one.own=two.own∨¬one.tok=two.tok)):HP one (some two) r=r:=Zk ⟨VX.1 fun q=>h (.inl q),VX.1 fun q=>h (.inr q)⟩
theorem Zeq {one two:ZM} {r:Bool} (h:¬one.own=two.own∨¬one.tok=two.tok):HP one (some two) r=false:=Zb fun q=>h.elim (fun z=>z q.1) fun z=>z q.2
theorem Zbv {L one:ZM} {f:ZM->Bool} (h:f one=true):CX L (some one) f=some ⟨L.vars,one.own,L.par,L.con,L.fst,one.tok⟩:=Zk h
theorem Rj {L one:ZM} {f:ZM->Bool} (h:f one=false):CX L (some one) f=none:=Zb (by rw [h];simp)
end Go.Abs
namespace Go.Abs
section
variable {n:ZF} {ln:LI} {L:ZM} {s:Z5}
abbrev Ar (n:ZF) (ln:LI) (L:ZM) (s:Z5):Option ZM:=JM n ln L s.op s.num s.into s.args (J7 n ln L s.op s.num s.args s.kids)
theorem RQ {x:Int} (h:s.op=14) (hx:gI s.args 0=x):Ar n ln L s=Cy L ln x:=hx▸Zk h
theorem RR {x:Int} (h:s.op=15) (hx:gI s.args 0=x):Ar n ln L s=Q5 L x:=by rw [<-hx,Ar,JM,Zb om,Zk h]
theorem RS {x:Int} (h:s.op=16∨s.op=17) (hx:gI s.args 0=x):Ar n ln L s=Aq n.decls L s.op x:=by rw [<-hx,Ar,JM,Zb om,Zb om,Zk h]
theorem RT (h:s.op=7∨s.op=8):Ar n ln L s=Cu n ln L s:=by rw [Ar,JM,Zb om,Zb om,Zb om,Zk h,Cu]
theorem RU (h1:¬s.op=14) (h2:¬s.op=15) (h3:¬(s.op=16∨s.op=17)) (h4:¬(s.op=7∨s.op=8)):Ar n ln L s=Jw n ln L s.op s.num s.into s.args:=by
 rw [Ar,JM,Zb h1,Zb h2,Zb h3,Zb h4]
theorem Z56 {v:Int} (h:¬T8 L ln v=true):Cy L ln v=none:=Zb h
theorem Z57 {v x:Int} (h:¬¬T8 L ln v=true) (hx:gI L.own v=x):Cy L ln v=some ⟨L.vars,L.own.set v.toNat (x+1),L.par,L.con,L.fst,L.tok⟩:=by rw [Cy,Zk (VX.1 h),hx]
theorem To (n:ZF) (ln:LI) (L:ZM) (s:Z5):QN n ln L s=Ak L s.op (X0 n L.vars s) (Ar n ln L s):=Z12 n ln L s
theorem Te {X:ZM} {op t:Int} (h:Xh op=true/\t≠0):Ak L op t (some X)=some (X.grow t 1 (-1)):=by
 unfold Ak;simp only [h.1,↓reduceIte];rw [Zk h.2]
theorem Tf {X:ZM} {op t:Int} (h:¬(Xh op=true/\t≠0)) (h2:Xh op=true):Ak L op t (some X)=some (X.grow 0 0 (-1)):=by
 have ht:t=0:=VX.1 fun q=>h ⟨h2,q⟩
 subst ht
 unfold Ak;simp only [h2,↓reduceIte];rfl
theorem Tg {X:ZM} {op t:Int} (h:¬Xh op=true):Ak L op t (some X)=some X:=by
 unfold Ak;simp only [Zb h]
end
end Go.Abs
namespace Go.Abs
theorem NF {n:ZF} {us:LI} {b:Z8} (h:0<=W3 n us b):∃vs t,UG n b.steps us=some vs/\Wx vs b.result=some t/\0<=t:=by
 rw [Iy] at h
 cases hv:UG n b.steps us with
 | none=>rw [hv] at h;simp at h
 | some vs=>
  rw [hv] at h
  simp only at h
  cases ha:Wx vs b.result with
  | none=>rw [ha] at h;simp at h
  | some t=>rw [ha] at h;exact ⟨vs,t,rfl,ha,h⟩
theorem Z16 {n:ZF} {us vs:LI} {s:Z5} {r:List Z5} (h:UG n (s::r) us=some vs):0<=X0 n us s/\UG n r (Kl n us s)=some vs:=by
 rw [UG] at h
 split at h
 ·cases h
 ·exact ⟨by omega,h⟩
theorem SW (n:ZF) (us:LI) (s:Z5):us.length<=(Kl n us s).length/\(Kl n us s).length<=us.length+s.sz:=by
 have:=s.sz_pos
 rw [Kl];split
 ·simp only [Yr,Bn];omega
 ·omega
end Go.Abs
namespace Go.Abs
theorem Z5t {X L:ZM} {m:Nat} {r x:Int} (hg:gI L.vars r=x) (h:x≠0) (ht:Q5 L r=some X):Ai m r L=Jt X m:=by rw [Ai,hg,Zk h,ht];rfl
theorem Z5s {L:ZM} {m:Nat} {r x:Int} (hg:gI L.vars r=x) (h:x≠0) (ht:Q5 L r=none):Ai m r L=none:=by rw [Ai,hg,Zk h,ht];rfl
theorem ED {L:ZM} {m:Nat} {r x:Int} (hg:gI L.vars r=x) (h:¬x≠0):Ai m r L=Jt L m:=by rw [Ai,hg,Zb h];rfl
end Go.Abs
namespace Go.Abs
theorem RP {ds:List Zd} {lent:LI}:∀{ps:LI} {i:Nat} {L:ZM},XK ds L 1->XK ds (Bc lent ps i L) 1/\(Bc lent ps i L).vars=L.vars++ps
 | [],i,L,hk=>⟨hk,by simp [Bc]⟩
 | t::r,i,L,hk=>by
  rw [Bc]
  obtain ⟨k1,k2⟩:=RP (lent:=lent) (ps:=r) (i:=i+1) (hk.grow (t:=t) (o:=if t≠0/\¬(i:Int)∈lent then 1 else 0) (p:=-1) om (by split<;>omega))
  exact ⟨k1,by rw [k2];simp [ZM.grow]⟩
theorem Zby (ds:List Zd) (r:YF):XK ds (KF r) 1/\(KF r).vars=r.params:=by
 have h:XK ds (⟨[],[],[],[],[],[]⟩:ZM) 1:=⟨⟨rfl,rfl,rfl,rfl,rfl⟩,fun j h1 h2=>by simp at h2;omega,fun j h1 h2=>by simp at h2;omega,by simp,by simp⟩
 obtain ⟨k1,k2⟩:=RP (lent:=r.lent) (ps:=r.params) (i:=0) h
 exact ⟨k1,by rw [KF,k2];rfl⟩
end Go.Abs
namespace Go.Abs
theorem Su {n:ZF}:∀{l:List YF},Be n l=true->∀r∈l,¬Bi r.body<0/\W3 n r.params r.body=r.result
 | [],_,r,h=>by simp at h
 | a::l,h,r,hr=>by
  rw [Be] at h
  split at h
  ·rename_i h1
   rcases YM.1 hr with rfl|hr
   ·exact h1
   ·exact Su h r hr
  ·cases h
theorem Zht {n:ZF} (hz:JW n) (h:Ko n=true):Xx n/\∀r∈n.routines,0<=W3 n r.params r.body:=by
 simp only [Ko,Xj] at h
 refine ⟨Rn hz h.1,fun r hr=>?_⟩
 rw [(Su h.2 r hr).2]
 have h1:=h.1
 simp only [Ap,T5,Xj] at h1
 have:=MH h1.2.1.2.2.1 (Q3 r) (XA.2 ⟨r,hr,rfl⟩)
 simp only [Jd,Xj,decide_eq_true_eq,Q3] at this
 exact (of_decide_eq_true this.2.2).1
end Go.Abs
end
section
namespace Go.Abs
theorem Z5j {xs:LI} (h:Z6 xs=[]):xs=[]:=by cases xs with|nil=>rfl|cons x r=>cases h
theorem Z5a {xs:List Yh} (h:Xy xs=[]):xs=[]:=by cases xs with|nil=>rfl|cons x r=>cases h
theorem Z5c {xs:List Zd} (h:Yy xs=[]):xs=[]:=by cases xs with|nil=>rfl|cons x r=>cases h
end Go.Abs
namespace Go.Abs
end Go.Abs
namespace Go.Abs
end Go.Abs
end
section
namespace Go.Abs
theorem Z47 {c:Int} {ds:List Zd} {k:Nat} {d:Zd} {r:Int × LI} (h:ds[k]? = some d) (hn:¬(c-YK (ds.take k)>=0/\c-YK (ds.take k)<d.cons.length))
  (hr:UB c (ds.drop k) k (YK (ds.take k))=r):UB c (ds.drop (k+1)) (k+1) (YK (ds.take (k+1)))=r:=by
 rw [Yl h,UB,Zb om] at hr
 rw [V2 h,Dn,<-hr];rfl
end Go.Abs
namespace Go.Abs
theorem Z49 {c:Int} {ds:List Zd} {k:Nat} {d:Zd} {x:Yh} (h:ds[k]? = some d) (hn:c-YK (ds.take k)>=0/\c-YK (ds.take k)<d.cons.length)
  (hx:d.cons[(c-YK (ds.take k)).toNat]? = some x):UB c (ds.drop k) k (YK (ds.take k))=((k:Int)+1,x.fields):=by
 rw [Yl h,UB,Zk om,hx];rfl
def Bp (c:Int) (z:Nat) (v:Int):Prop:=v=c-z∨(c<0/\c-z < -9223372036854775808/\v=c-z+18446744073709551616)
theorem Z3c {c:Int} {z l:Nat} {v:Int} (h:Bp c z v) (hz:z<=100) (hl:l<=3) (hc:-9223372036854775808<=c/\c<=9223372036854775807):Bp c (z+l) (Dd (v-l)):=by
 unfold Bp at *;rw [Dd,IntKind.wrap_i64];omega
theorem Z48 {c v:Int} {ds:List Zd} {k:Nat} {d:Zd} {r:Int × LI} (h:ds[k]? = some d) (ha:Bp c (YK (ds.take k)) v) (hn:¬(v>=0/\v<d.cons.length))
  (hr:UB c (ds.drop k) k (YK (ds.take k))=r):UB c (ds.drop (k+1)) (k+1) (YK (ds.take (k+1)))=r:=Z47 h (by unfold Bp at ha;omega) hr
theorem Z4a {c v:Int} {ds:List Zd} {k:Nat} {d:Zd} {x:Yh} (h:ds[k]? = some d) (ha:Bp c (YK (ds.take k)) v) (hz:YK (ds.take k)<=100) (hl:d.cons.length<=3) (hc:-9223372036854775808<=c)
  (hn:v>=0/\v<d.cons.length) (hx:d.cons[v.toNat]? = some x):UB c (ds.drop k) k (YK (ds.take k))=((k:Int)+1,x.fields):=by
 have:v=c-(YK (ds.take k):Int):=by unfold Bp at ha;omega
 subst this
 exact Z49 h hn hx
end Go.Abs
namespace Go.Abs
abbrev O1 (ds:List Zd) (d:Zd):Prop:=
 (((¬(0<=d.frm/\d.frm<=ds.length))∨(¬(0<=d.to_/\d.to_<=ds.length)))∨((d.cons.length:Int)>3))∨(((d.cons.length:Int)>0)/\((d.frm≠0)∨(d.to_≠0)))
theorem Z50 {ds:List Zd} {d:Zd} {i:Nat} (h:O1 ds d):Tv ds d i=false:=by
 rw [Tv]
 split
 ·rw [Zb];rintro ⟨h1,h2,h3⟩
  rcases h with ((h|h)|h)|h<;>omega
 ·split
  ·rfl
  ·rcases h with ((h|h)|h)|h
   ·rw [decide_eq_false h];rfl
   ·rw [decide_eq_false h,Bool.and_false]
   ·omega
   ·omega
theorem Z51 {ds:List Zd} {d:Zd} {i:Nat} (hl:0<d.cons.length) (h:TK ds.length d.cons=false):Tv ds d i=false:=by
 rw [Tv,Zk hl];split
 ·exact h
 ·rfl
theorem Z52 {ds:List Zd} {d:Zd} {i:Nat} (hl:d.cons.length=0) (h:QX d (ds.take i)=true):Tv ds d i=false:=by
 rw [Tv,Zb om,Zk h]
theorem Z53 {ds:List Zd} {d:Zd} {i:Nat} (h1:¬O1 ds d) (h2:TK ds.length d.cons=true) (h3:d.cons.length=0->QX d (ds.take i)=false):Tv ds d i=true:=by
 rw [Tv]
 have ha:0<=d.frm/\d.frm<=ds.length:=VX.1 fun q=>h1 (.inl (.inl (.inl q)))
 have hb:0<=d.to_/\d.to_<=ds.length:=VX.1 fun q=>h1 (.inl (.inl (.inr q)))
 have hc:¬(d.cons.length:Int)>3:=fun q=>h1 (.inl (.inr q))
 split
 ·rename_i hl
  have hd:¬(d.frm≠0∨d.to_≠0):=fun q=>h1 (.inr ⟨by omega,q⟩)
  rw [Zk ⟨by omega,by omega,by omega⟩];exact h2
 ·rw [Zb (by rw [h3 om];simp),decide_eq_true ha,decide_eq_true hb];rfl
theorem N3 {ds:List Zd} {k:Nat} {d:Zd} (h:ds[k]? = some d) (hA:Tv ds d k=false) (c:T9 ds (ds.drop k) k=T9 ds ds 0):false=V4 ds:=by
 rw [V4,<-c,Yl h,T9,Gk h,hA,Zb (by simp),Bool.and_false]
theorem Zhv {ds:List Zd} {k:Nat} {d:Zd} {r:Bool} (h:ds[k]? = some d) (hA:Tv ds d k=true) (c:T9 ds (ds.drop k) k=r):T9 ds (ds.drop (k+1)) (k+1)=r:=by
 rw [Yl h,T9,Gk h,hA,Zk rfl] at c;exact c
theorem Zhu {ds:List Zd} {k:Nat} (hl:ds.length<=4) (hk:ds.length<=k) (c:T9 ds (ds.drop k) k=T9 ds ds 0):true=V4 ds:=by
 rw [V4,<-c,Xr hk,decide_eq_true hl];rfl
theorem Z4b {m:Nat} {c:Yh} (h:((c.fields.length:Int)>3)∨(¬(Wn m c.fields=true))):A8 m c=false:=by
 rw [A8]
 rcases h with h|h
 ·rw [decide_eq_false om];rfl
 ·rw [Qu.2 h,Bool.and_false]
theorem Z4c {m:Nat} {c:Yh} (h:¬(((c.fields.length:Int)>3)∨(¬(Wn m c.fields=true)))):A8 m c=true:=by
 rw [A8,VX.1 fun q=>h (.inr q),decide_eq_true (by have:¬(c.fields.length:Int)>3:=fun q=>h (.inl q);omega)];rfl
end Go.Abs
end
section
namespace Go.Abs
structure VJ where
 pms:LI
 lnt:LI
 res:Int
abbrev R3 (f:VJ):List AV:=[Z4 f.pms,Z4 f.lnt,.i f.res]
abbrev G4 (f:VJ):AV:=.agg (R3 f)
def Td (fs:List VJ):List AV:=fs.map G4
abbrev KE (xs:List VJ):AV:=.sl (Td xs) none
abbrev Hq (xs:List VJ) (v:Value):AV:=.sl (Td xs) (some v)
theorem Dz {xs:List VJ} {j:Nat} {x:VJ} (h:xs[j]? = some x):(Td xs)[j]? = some (G4 x):=by simp [Td,h]
@[simp] theorem EC (xs:List VJ):(Td xs).length=xs.length:=by simp [Td]
theorem Ob (xs:List VJ):∀y∈Td xs,y.leaves.length=3:=by intro y hy;simp only [Td,XA] at hy;obtain ⟨x,_,rfl⟩:=hy;rfl
theorem Z5n (xs:List VJ):(Z9 (Td xs)).all AV.one=true:=J2 fun y hy=>by simp only [Td,XA] at hy;obtain ⟨x,_,rfl⟩:=hy;rfl
def At (m:Nat) (f:VJ):Bool:=Jd m ⟨f.pms,f.res⟩&&Uz f.pms f.lnt
def KI (m:Nat):List VJ->Bool
 | []=>true
 | f::r=>if At m f=true then KI m r else false
def Ll:List VJ->Bool
 | []=>false
 | f::_=>decide (f.pms.length=0)&&decide (f.res=0)
def Q7 (ds:List Zd) (fs:List VJ):Bool:=V4 ds&&(decide (1<=fs.length/\fs.length<=4)&&(Ll fs&&KI ds.length fs))
theorem OA {fs:List VJ} {x:VJ} (h:fs[0]? = some x):Ll fs=(decide (x.pms.length=0)&&decide (x.res=0)):=by
 cases fs with
 | nil=>simp at h
 | cons f r=>simp at h;subst h;rfl
theorem Rc {ps ls:LI} {j:Nat} {v:Int} {r:Bool} (h:ls[j]? = some v) (hg:(0<=v/\v<=(ps.length:Int)-1)/\ps[v.toNat]?≠some 0/\(∀p,(if j=0 then none else ls[j-1]?)=some p->p<v))
  (hr:KD ps (ls.drop j) (if j=0 then none else ls[j-1]?)=r):KD ps (ls.drop (j+1)) (if j+1=0 then none else ls[j+1-1]?)=r:=by
 rw [Yl h,M2 hg] at hr
 rw [Zb om,show j+1-1=j from rfl,h];exact hr
theorem M4 {ps ls:LI} {j:Nat} {v:Int} {r:Bool} (h:ls[j]? = some v) (hg:¬((0<=v/\v<=(ps.length:Int)-1)/\ps[v.toNat]?≠some 0/\(∀p,(if j=0 then none else ls[j-1]?)=some p->p<v)))
  (hr:KD ps (ls.drop j) (if j=0 then none else ls[j-1]?)=r):r=false:=by
 rw [Yl h,Hh hg] at hr;exact hr.symm
theorem HQ {m:Nat} {fs:List VJ} {k:Nat} {f:VJ} {r:Bool} (h:fs[k]? = some f) (hb:At m f=false) (hr:KI m (fs.drop k)=r):r=false:=by
 rw [Yl h,KI,hb,Zb (by simp)] at hr;exact hr.symm
theorem Zez {m:Nat} {fs:List VJ} {k:Nat} {f:VJ} {r:Bool} (h:fs[k]? = some f) (hb:At m f=true) (hr:KI m (fs.drop k)=r):KI m (fs.drop (k+1))=r:=by
 rw [Yl h,KI,Zk hb] at hr;exact hr
end Go.Abs
namespace Go.Abs
section
variable {ds:List Zd} {fs:List VJ} {x:VJ}
theorem Zi0 (h:((¬(V4 ds=true))∨((fs.length:Int)<1))∨((fs.length:Int)>4)):false=Q7 ds fs:=by
 rw [Q7]
 rcases h with (h|h)|h
 ·rw [Qu.2 h];rfl
 ·rw [decide_eq_false (p:=1<=fs.length/\fs.length<=4) om];simp
 ·rw [decide_eq_false (p:=1<=fs.length/\fs.length<=4) om];simp
theorem Z1w (hx:fs[0]? = some x) (h:((x.pms.length:Int)>0)∨x.res≠0):false=Q7 ds fs:=by
 rw [Q7,OA hx]
 rcases h with h|h
 ·rw [decide_eq_false (p:=x.pms.length=0) om];simp
 ·rw [decide_eq_false (p:=x.res=0) h];simp
theorem I9 (h:KI ds.length fs=false):false=Q7 ds fs:=by rw [Q7,h];simp
theorem Zi1 (h:¬(((¬(V4 ds=true))∨((fs.length:Int)<1))∨((fs.length:Int)>4))) (hx:fs[0]? = some x) (h1:¬((x.pms.length:Int)>0)) (h2:¬x.res≠0) (h3:KI ds.length fs=true) :
  true=Q7 ds fs:=by
 have hv:V4 ds=true:=VX.1 fun q=>h (.inl (.inl q))
 have ha:¬(fs.length:Int)<1:=fun q=>h (.inl (.inr q))
 have hb:¬(fs.length:Int)>4:=fun q=>h (.inr q)
 rw [Q7,OA hx,hv,h3,decide_eq_true (p:=1<=fs.length/\fs.length<=4) om,decide_eq_true (p:=x.pms.length=0) om,decide_eq_true (p:=x.res=0) (VX.1 h2)];rfl
abbrev Z01 (m:Nat) (x:VJ):Prop:=(((x.pms.length:Int)>3)∨(¬(Wn m x.pms=true)))∨(¬(0<=x.res/\x.res<=m))
theorem Zel {m:Nat} (h:Z01 m x):At m x=false:=by
 rw [At,Jd]
 rcases h with (h|h)|h
 ·rw [decide_eq_false (p:=x.pms.length<=3) om];simp
 ·rw [Qu.2 h];simp
 ·rw [decide_eq_false h];simp
theorem MB {m:Nat} (h:Uz x.pms x.lnt=false):At m x=false:=by rw [At,h,Bool.and_false]
theorem Zem {m:Nat} (h:¬Z01 m x) (hl:Uz x.pms x.lnt=true):At m x=true:=by
 have h1:¬(x.pms.length:Int)>3:=fun q=>h (.inl (.inl q))
 rw [At,Jd,hl,decide_eq_true (p:=x.pms.length<=3) om,VX.1 fun q=>h (.inl (.inr q)),decide_eq_true (VX.1 fun q=>h (.inr q))];rfl
end
end Go.Abs
end
section
namespace Go.Abs
structure NTy (n:ZF):Prop where
 result:∀r∈n.routines,0<=r.result
 params:∀r∈n.routines,∀p∈r.params,0<=p
 decl:∀d∈n.decls,d.cons.length=0->0<=d.frm/\0<=d.to_
 fields:∀c,∀f∈ZP n.decls c,0<=f
end Go.Abs
namespace Go.Abs
end Go.Abs
namespace Go.Abs
end Go.Abs
namespace Go.Abs
section
variable {S:Option Int} {c:Prop} [Decidable c] {v:Int} {b:Bool}
end
section
variable {n:ZF} {op num:Int} {ts:LI}
end
end Go.Abs
end
namespace Go.Abs
mutual
def Z5.rng:Z5->Prop
 | .mk _ num _ _ kids=>(-9223372036854775808<=num/\num<=9223372036854775807)/\A6 kids
def Z8.rng:Z8->Prop
 | .mk steps _=>Au steps
def Au:List Z5->Prop
 | []=>True
 | s::r=>s.rng/\Au r
def A6:List Z8->Prop
 | []=>True
 | b::r=>b.rng/\A6 r
end
theorem Z5.rng_eq (s:Z5):s.rng=((-9223372036854775808<=s.num/\s.num<=9223372036854775807)/\A6 s.kids):=by cases s;rw [Z5.rng];rfl
theorem Z8.rng_eq (b:Z8):b.rng=Au b.steps:=by cases b;rw [Z8.rng];rfl
section
variable {n:ZF} {us ts:LI} {s:Z5}
end
theorem Zgz {n:ZF} {us:LI} {s:Z5} (h:0<=X0 n us s):(0<=s.op/\s.op<=11)∨(14<=s.op/\s.op<=17):=by
 rw [MS] at h
 by_cases hq:(0<=s.op/\s.op<=11)∨(14<=s.op/\s.op<=17)
 ·exact hq
 ·exfalso
  split at h
  ·omega
  rw [Zb om,Zb om,Zb om,Zb om,Zb om,Zb om,Zb om,Zb om,Zb om] at h
  omega
theorem O5 {n:ZF} {us:LI} {s:Z5} (h:0<=X0 n us s):Xh s.op=!YO s.op:=by
 have:=Zgz h
 rw [Xh,YO,Yc];simp;omega

end Go.Abs
section
namespace Go.Abs
structure Jo where
 mat:Int
 fst:Int
 fds:LI
 chg:Bool
def UP:LI->Int->LI
 | [],_=>[]
 | t::r,p=>if t≠0 then p::UP r (p+1) else UP r (p+1)
theorem Z9k {xs:LI} {k:Nat} {t p:Int} {acc r:LI} (h:xs[k]? = some t) (ha:acc++UP (xs.drop k) (p+k)=r) :
  (if t≠0 then acc++[p+k] else acc)++UP (xs.drop (k+1)) (p+((k+1:Nat):Int))=r:=by
 rw [Yl h,UP] at ha
 rw [show p+((k+1:Nat):Int)=p+k+1 by omega]
 split
 ·rename_i q;rw [Zk q] at ha;rw [Vi];exact ha
 ·rename_i q;rw [Zb q] at ha;exact ha
theorem Z9j {xs:LI} {k:Nat} {p:Int} {acc r:LI} (h:xs.length<=k) (ha:acc++UP (xs.drop k) (p+k)=r):acc=r:=by
 rw [Xr h,UP,KP] at ha;exact ha
theorem LF:∀{xs:LI} {p f:Int},f∈UP xs p->p<=f/\f<p+xs.length
 | [],_,_,h=>by simp [UP] at h
 | t::r,p,f,h=>by
  rw [UP] at h
  split at h
  ·rcases YM.1 h with rfl|h
   ·simp only [YA];omega
   ·have:=LF h;simp only [YA];omega
  ·have:=LF h;simp only [YA];omega
theorem GT:∀(xs:LI) (p:Int),(UP xs p).length<=xs.length
 | [],_=>by simp [UP]
 | t::r,p=>by
  have:=GT r (p+1)
  rw [UP];split<;>simp<;>omega
def Ru:List Jo->Int->Option Jo
 | [],_=>none
 | a::r,v=>match Ru r v with
  | some x=>some x
  | none=>if a.mat=v then some a else none
structure Zid (ds:List Zd) (L:ZM) (as1:List Jo):Prop where
 rng:∀a∈as1,0<=a.mat/\a.mat<a.fst/\a.fst+a.fds.length<=L.vars.length
 par:∀a∈as1,∀v:Int,a.fst<=v->v<a.fst+a.fds.length->gI L.par v=a.mat
 non:∀v:Int,0<=v->v<L.vars.length->0<=gI L.par v->∃a∈as1,a.fst<=v/\v<a.fst+a.fds.length
 off:∀v:Int,0<=v->v<L.vars.length->match Ru as1 v with
  | none=>gI L.con v<0
  | some a=>0<=gI L.con v/\a.fst=gI L.fst v/\a.fds=ZP ds (gI L.con v)
end Go.Abs
namespace Go.Abs
end Go.Abs
namespace Go.Abs
end Go.Abs
namespace Go.Abs
section
variable {n:ZF} {ln:LI} {L:ZM} {op v:Int} {am:List Jo} {a:Jo}
end
end Go.Abs
namespace Go.Abs
end Go.Abs
end
section
namespace Go.Abs
section
variable {n:ZF} {us:LI} {op num:Int}
end
end Go.Abs
namespace Go.Abs
end Go.Abs
namespace Go.Abs
end Go.Abs
end
section
namespace Go.Abs
section
variable {n:ZF} {ln:LI}
end
end Go.Abs
namespace Go.Abs
end Go.Abs
namespace Go.Abs
end Go.Abs
namespace Go.Abs
section
variable {n:ZF} {ln:LI} {L:ZM} {s:Z5}
end
end Go.Abs
namespace Go.Abs
end Go.Abs
namespace Go.Abs
end Go.Abs
namespace Go.Abs
end Go.Abs
end
section
namespace Go.Abs
end Go.Abs
namespace Go.Abs
end Go.Abs
namespace Go.Abs
end Go.Abs
end
section
namespace Go.Abs
def Z43 (c:Yh):Nat:=c.fields.length
def NV:List Yh->Nat
 | []=>0
 | c::r=>Z43 c+NV r
def Z4f (l:List Yh):Nat:=l.length+NV l
def Z4z (d:Zd):Nat:=Z4f d.cons
def O3:List Zd->Nat
 | []=>0
 | d::r=>Z4z d+O3 r
def Z54 (l:List Zd):Nat:=l.length+O3 l
end Go.Abs
namespace Go.Abs
end Go.Abs
namespace Go.Abs
end Go.Abs
namespace Go.Abs
end Go.Abs
end
namespace Go.Abs
def Zx (op v:Int):Z5:=.mk op 0 0 [v] []
def Wy (ds:List Zd) (num:Int) (k:Nat):LI:=((Y0 ds num).map (ZP ds))[k]?.getD []
section
variable {ds:List Zd} {am:List Jo} {m:Nat}
end
theorem Lj {ds:List Zd} {num:Int} {k:Nat} {m:LI} (h:((Y0 ds num).map (ZP ds))[k]? = some m):Wy ds num k=m:=by rw [Wy,h];rfl
theorem Gw {ds:List Zd} (hd:Xq ds) (num:Int) (k:Nat):(Wy ds num k).length<=3:=by
 rw [Wy,Kq]
 cases (Y0 ds num)[k]? with
 | none=>simp
 | some c=>exact Vs hd c
theorem HX {xs:List Z5} {k:Nat} {s:Z5} (h:xs[k]? = some s):Yw (xs.take (k+1))=Yw (xs.take k)+s.sz:=by
 induction xs generalizing k with
 | nil=>simp at h
 | cons t r ih=>
  cases k with
  | zero=>simp at h;subst h;simp [Yw]
  | succ k=>rw [AA,AA,Yw,Yw,ih (by simpa using h)];omega
theorem KN (xs:List Z5) (k:Nat):Yw (xs.take k)<=Yw xs:=by
 induction xs generalizing k with
 | nil=>simp
 | cons t r ih=>
  cases k with
  | zero=>simp [Yw]
  | succ k=>have:=ih k;rw [AA,Yw,Yw];omega
theorem Zex {n:ZF} {us:LI} {s:Z5} (g:0<=X0 n us s) (h:YO s.op=true):Kl n us s=us:=by rw [Kl,O5 g,h];rfl
theorem Zew {n:ZF} {us:LI} {s:Z5} (g:0<=X0 n us s) (h:¬YO s.op=true):(Kl n us s).length=us.length+1:=by
 rw [Kl,O5 g,Qu.2 h];simp
theorem Zey {n:ZF} {us:LI} {s:Z5} (g:0<=X0 n us s):(Kl n us s).length=if YO s.op=true then us.length else us.length+1:=by
 split
 ·rw [Zex g (by assumption)]
 ·exact Zew g (by assumption)
theorem CI (ys:List Vj):(Z9 (Vm ys)).length=ys.length*3:=by rw [UN _ (O9 _)];simp
theorem OM (ys:List Vq):(Z9 (Uj ys)).length=ys.length:=by rw [UN _ (O8 _)];simp
theorem OL (ys:List Zd):(Z9 (Yy ys)).length=ys.length*3:=by rw [UN _ (Qz _)];simp
theorem Z75 (ys:List Yh):(Z9 (Xy ys)).length=ys.length:=by rw [UN _ (CA _)];simp
theorem Z76 {ds:List Zd} {k:Nat} {d:Zd} (h:ds[k]? = some d):Z9 (Yy (ds.drop k))=J8 d++Z9 (Yy (ds.drop (k+1))):=by rw [Yl h];rfl
theorem Z74 {ds:List Yh} {k:Nat} {d:Yh} (h:ds[k]? = some d):Z9 (Xy (ds.drop k))=DR d++Z9 (Xy (ds.drop (k+1))):=by rw [Yl h];rfl
theorem Sx {ys:List Vj} {ds:List Zd} {k:Nat} {d:Zd} (h:ds[k]? = some d):Z9 (Vm ys++Yy (ds.drop k))=Z9 (Vm ys)++(J8 d++Z9 (Yy (ds.drop (k+1)))):=by
 rw [Th,Z76 h]
theorem Ze0 {ys:List Vq} {ds:List Yh} {k:Nat} {d:Yh} (h:ds[k]? = some d):Z9 (Uj ys++Xy (ds.drop k))=Z9 (Uj ys)++(DR d++Z9 (Xy (ds.drop (k+1)))):=by
 rw [Th,Z74 h]
theorem Sw {ys:List Vj} {ds:List Zd} {k:Nat} (h:ys.length=k) (hk:k<=ds.length):(Z9 (Vm ys++Yy (ds.drop k))).length=ds.length*3:=by
 rw [Th,Yr,CI,OL,Bm];omega
theorem Sv {ys:List Vq} {ds:List Yh} {k:Nat} (h:ys.length=k) (hk:k<=ds.length):(Z9 (Uj ys++Xy (ds.drop k))).length=ds.length*1:=by
 rw [Th,Yr,OM,Z75,Bm];omega
theorem Ze2 {ys:List Vj} {ds:List Zd} {k:Nat} {f t:Int} {zs:List Vq} {u:Value}:Z9 (Vm ys)++([.i f,.i t,Fc zs u]++Z9 (Yy (ds.drop (k+1))))=Z9 (Vm (ys++[Vj.mk f t zs u])++Yy (ds.drop (k+1))):=by
 rw [Z5h,Th,Th,Vi];rfl
theorem Zdz {ys:List Vq} {ds:List Yh} {k:Nat} {xs:LI} {u:Value}:Z9 (Uj ys)++([ZL xs u]++Z9 (Xy (ds.drop (k+1))))=Z9 (Uj (ys++[Vq.mk xs u])++Xy (ds.drop (k+1))):=by
 rw [Z5g,Th,Th,Vi];rfl
theorem Ze1 {ys:List Vj} {ds:List Zd} {k:Nat} (h:ds.length<=k):Z9 (Vm ys++Yy (ds.drop k))=Z9 (Vm ys):=by rw [Xr h];simp [Yy]
theorem Zdy {ys:List Vq} {ds:List Yh} {k:Nat} (h:ds.length<=k):Z9 (Uj ys++Xy (ds.drop k))=Z9 (Uj ys):=by rw [Xr h];simp [Xy]
theorem Ze3 {A B:List AV} {x y z x':AV} {o:Nat} (hA:A.length=o):(A++([x,y,z]++B)).take (o+2)++[x']++(A++([x,y,z]++B)).drop (o+2+1)=A++([x,y,x']++B):=by
 have h:=Fs (A:=A++[x,y]) (xs:=[z]) (ys:=[x']) (B:=B) (o:=o+2) (by simp [hA]) rfl
 simpa using h
theorem Ze4 {A B:List AV} {x y z:AV} {o:Nat} (hA:A.length=o):((A++([x,y,z]++B)).drop (o+2)).take 1=[z]:=by
 have h:=HF (A:=A++[x,y]) (xs:=[z]) (B:=B) (o:=o+2) (by simp [hA])
 simpa using h
theorem Ze5 {A B:List AV} {x y z x':AV} {o:Nat} (hA:A.length=o):(A++([x,y,z]++B)).set (o+2) x'=A++([x,y,x']++B):=by
 subst hA
 rw [List.set_append_right _ _ om]
 simp
theorem Z25 {f t:Int} {zs:List Vq} {u:Value} {cs:List Yh} (h:zs.map Vq.er=cs):[Vj.mk f t zs u].map Vj.er=[Zd.mk f t cs]:=by
 rw [<-h];rfl
theorem Q4:∀(xs ys:List Z5),Yw (xs++ys)=Yw xs+Yw ys
 | [],ys=>by simp [Yw]
 | x::r,ys=>by rw [KQ,Yw,Yw,Q4 r ys];omega
theorem Gg (op v:Int):(Zx op v).sz=2:=by rw [Zx,Z5.sz];simp [YV]
theorem MP (op:Int):∀l:LI,Yw (l.map (Zx op))=2*l.length
 | []=>by simp [Yw]
 | x::r=>by rw [T7,Yw,Gg,MP op r,YA];omega
section
variable {ds:List Zd} (hd:Xq ds)
include hd
end
def XI (n:Nat):LI:=(List.range n).map Int.ofNat
theorem Zc7 (n:Nat):XI (n+1)=XI n++[(n:Int)]:=by simp [XI,List.range_succ]
theorem DY (n:Nat):(XI n).length=n:=by simp [XI]
theorem Hp (n:Nat):∀f∈XI n,0<=f/\f<=n:=by
 intro f hf
 simp only [XI,XA,List.mem_range] at hf
 obtain ⟨a,ha,rfl⟩:=hf
 show 0<=(a:Int)/\(a:Int)<=n
 omega
def Cv (ds:List Zd) (num:Int) (k:Nat):Int:=gI (Y0 ds num) k
section
variable {ds:List Zd} {cons first:LI}
end
def TJ (first:LI):Prop:=∀f∈first,0<=f/\f<=1000000000
theorem TJ.snoc {first:LI} (h:TJ first):TJ (first++[0]):=by
 intro f hf
 rcases Xf.1 hf with hf|hf
 ·exact h f hf
 ·rw [XF.1 hf];omega
theorem TJ.x {first:LI} (h:TJ first) {x m k:Nat} (hm:m<=1000000000) (hk:k<=1000000000):TJ (first.set x (m:Int)++XI k):=by
 intro f hf
 rcases Xf.1 hf with hf|hf
 ·rcases JJ hf with hf|rfl
  ·exact h f hf
  ·omega
 ·have:=Hp k f hf;omega
section
variable {ds:List Zd} (hd:Xq ds)
include hd
end
def XN:List Z5->Nat
 | []=>0
 | s::r=>if s.op=14∨s.op=15 then XN r+1 else 0
def Wo (op:Int):List Z5->LI
 | []=>[]
 | s::r=>if s.op=op then gI s.args 0::Wo op r else Wo op r
def Uw:LI->Int->LI->LI->LI × LI
 | [],_,D,R=>(D,R)
 | f::r,q,D,R=>if f≠0/\q∈D then Uw r (q+1) (D.erase q) R else if f≠0 then Uw r (q+1) D (R++[q]) else Uw r (q+1) D R
def Jb (xs:List Z5) (x:Int) (fs:LI) (q:Int):LI × LI:=Uw fs q (Wo 14 (xs.take (XN xs))) ((Wo 15 (xs.take (XN xs))).erase x)
def QU (xs:List Z5) (x:Int) (fs:LI) (q:Int):List Z5:=
 if x∈Wo 15 (xs.take (XN xs))/\fs.length≠0 then (Jb xs x fs q).1.map (Zx 14)++[Zx 16 x]++(Jb xs x fs q).2.map (Zx 15)++xs.drop (XN xs) else xs
def Ks (b:Z8) (x:Int) (fs:LI) (q:Int):Z8:=.mk (QU b.steps x fs q) b.result
theorem HK:∀xs:List Z5,XN xs<=xs.length
 | []=>X9 _
 | s::r=>by have:=HK r;rw [XN];split<;>simp<;>omega
theorem SN:∀{xs:List Z5} {s:Z5},s∈xs.take (XN xs)->s.op=14∨s.op=15
 | [],s,h=>by simp [XN] at h
 | t::r,s,h=>by
  rw [XN] at h
  split at h
  ·rename_i q
   rw [AA] at h
   rcases YM.1 h with rfl|h
   ·exact q
   ·exact SN h
  ·simp at h
theorem Iw:∀xs:List Z5,(Wo 14 xs).length+(Wo 15 xs).length<=xs.length
 | []=>by simp [Wo]
 | s::r=>by
  have:=Iw r
  rw [Wo,Wo]
  by_cases h:s.op=14
  ·rw [Zk h,Zb om];simp;omega
  ·rw [Zb h];split<;>simp<;>omega
theorem Hv:∀(fs:LI) (q:Int) (D R:LI),(Uw fs q D R).1.length+(Uw fs q D R).2.length<=D.length+R.length+fs.length
 | [],q,D,R=>by simp [Uw]
 | f::r,q,D,R=>by
  rw [Uw,YA]
  split
  ·have:=Hv r (q+1) (D.erase q) R
   have h2:=List.length_erase_le (a:=q) (l:=D)
   omega
  ·split
   ·have:=Hv r (q+1) D (R++[q])
    simp only [Yr,YA,X6] at this
    omega
   ·have:=Hv r (q+1) D R
    omega
theorem Zcs {xs:List Z5} {x:Int} {fs:LI} {q:Int} (h:x∈Wo 15 (xs.take (XN xs))) (hf:fs.length<=3):(Jb xs x fs q).1.length+(Jb xs x fs q).2.length<=XN xs+2:=by
 have h1:=Hv fs q (Wo 14 (xs.take (XN xs))) ((Wo 15 (xs.take (XN xs))).erase x)
 have h2:=Iw (xs.take (XN xs))
 have h3:=List.length_pos_of_mem h
 rw [List.length_erase_of_mem h] at h1
 rw [XW] at h2
 have h4:=HK xs
 unfold Jb
 omega
theorem Zgl (xs:List Z5) (k:Nat):Yw xs=Yw (xs.take k)+Yw (xs.drop k):=by rw [<-Q4,TI]
theorem Z0z:∀xs:List Z5,(∀s∈xs,2<=s.sz)->2*xs.length<=Yw xs
 | [],_=>by simp
 | s::r,h=>by
  have h1:=Z0z r fun t ht=>h t (Xz _ ht)
  have h2:=h s (Xo ..)
  rw [Yw,YA];omega
theorem Z2w {xs:List Z5} {x:Int} {fs:LI} {q:Int} (hf:fs.length<=3) (h:∀s∈xs,s.op=14∨s.op=15->2<=s.sz):Yw (QU xs x fs q)<=Yw xs+6:=by
 rw [QU]
 split
 ·rename_i hc
  have h1:=Zcs (q:=q) hc.1 hf
  have h2:=Z0z (xs.take (XN xs)) fun s hs=>h s (QR hs) (SN hs)
  have h3:=Zgl xs (XN xs)
  have h4:=HK xs
  rw [XW] at h2
  rw [Q4,Q4,Q4,MP,MP,Yw,Yw,Gg]
  omega
 ·omega
def Cn (s:Z5):Prop:=s=Zx s.op (gI s.args 0)
theorem Z2v {xs:List Z5} {m:Int} {fs:LI} {q:Int} (h:¬(m∈Wo 15 (xs.take (XN xs))/\fs.length≠0)):QU xs m fs q=xs:=Zb h
end Go.Abs
section
namespace Go.Abs
mutual
def KJ (ds:List Zd) (m:Nat):Z5->Z5
 | .mk op num into args kids=>.mk op num into args (UU ds m op num args kids 0)
def UU (ds:List Zd) (m:Nat) (op num:Int) (args:LI):List Z8->Nat->List Z8
 | [],_=>[]
 | b::r,k=>(if op=8 then Ks (WU ds (m+(Wy ds num k).length) b) (gI args 0) (Wy ds num k) m else WU ds m b)::UU ds m op num args r (k+1)
def U5 (ds:List Zd) (m:Nat):List Z5->List Z5
 | []=>[]
 | s::r=>KJ ds m s::U5 ds (if YO s.op=true then m else m+1) r
def WU (ds:List Zd) (m:Nat):Z8->Z8
 | .mk steps result=>.mk (U5 ds m steps) result
end
def HT (ds:List Zd) (m:Nat) (op num:Int) (args:LI) (k:Nat) (b:Z8):Z8:=if op=8 then Ks (WU ds (m+(Wy ds num k).length) b) (gI args 0) (Wy ds num k) m else WU ds m b
theorem Fz (ds:List Zd) (m:Nat) (s:Z5):KJ ds m s=.mk s.op s.num s.into s.args (UU ds m s.op s.num s.args s.kids 0):=by cases s;rw [KJ];rfl
theorem HR (ds:List Zd) (m:Nat) (b:Z8):WU ds m b=.mk (U5 ds m b.steps) b.result:=by cases b;rw [WU];rfl
section
variable {ds:List Zd} {m:Nat}
theorem Zf5 {xs acc r:List Z5} {k:Nat} {s:Z5} (h:xs[k]? = some s) (ha:acc++U5 ds m (xs.drop k)=r) :
  (acc++[.mk s.op s.num s.into s.args (UU ds m s.op s.num s.args s.kids 0)])++U5 ds (if YO s.op=true then m else m+1) (xs.drop (k+1))=r:=by
 rw [Yl h,U5,Fz] at ha
 rw [<-ha];simp
theorem Zf4 {xs acc r:List Z5} {k:Nat} (h:xs.length<=k) (ha:acc++U5 ds m (xs.drop k)=r):acc=r:=by
 rw [Xr h,U5,KP] at ha;exact ha
theorem Z06 {op num:Int} {args:LI} {bs acc r:List Z8} {k:Nat} {b:Z8} (h:bs[k]? = some b) (ha:acc++UU ds m op num args (bs.drop k) k=r) :
  (acc++[HT ds m op num args k b])++UU ds m op num args (bs.drop (k+1)) (k+1)=r:=by
 rw [Yl h,UU] at ha
 rw [<-ha,HT];simp
theorem Zf0 {op num:Int} {args:LI} {bs acc r:List Z8} {k j:Nat} (h:bs.length<=k) (ha:acc++UU ds m op num args (bs.drop k) j=r):acc=r:=by
 rw [Xr h,UU,KP] at ha;exact ha
end
mutual
def wS (ds:List Zd):Z5->Prop
 | .mk op num into args kids=>(Xh op=!YO op)/\(YO op=true->num=0/\into=0/\kids=[]/\∃a,args=[a])/\(op=8->(∃a,args=[a]/\0<=a/\a<=900000000)/\kids.length=(Y0 ds num).length)/\Jl ds kids
def Jl (ds:List Zd):List Z8->Prop
 | []=>True
 | b::r=>wB ds b/\Jl ds r
def QQ (ds:List Zd):List Z5->Prop
 | []=>True
 | s::r=>wS ds s/\QQ ds r
def wB (ds:List Zd):Z8->Prop
 | .mk steps _=>QQ ds steps
end
section
variable {ds:List Zd}
theorem JQ (s:Z5):wS ds s↔(Xh s.op=!YO s.op)/\(YO s.op=true->s.num=0/\s.into=0/\s.kids=[]/\∃a,s.args=[a])/\(s.op=8->(∃a,s.args=[a]/\0<=a/\a<=900000000)/\s.kids.length=(Y0 ds s.num).length)/\Jl ds s.kids:=by cases s;rw [wS];rfl
theorem Jk (b:Z8):wB ds b↔QQ ds b.steps:=by cases b;rw [wB];rfl
theorem Bl:∀{xs:List Z5},QQ ds xs↔∀s∈xs,wS ds s
 | []=>by simp [QQ]
 | s::r=>by rw [QQ,Bl];simp
theorem Ia:∀{xs:List Z8},Jl ds xs↔∀s∈xs,wB ds s
 | []=>by simp [Jl]
 | s::r=>by rw [Jl,Ia];simp
theorem Z1x {b:Z8} {k:Nat} {s:Z5} (h:wB ds b) (hs:b.steps[k]? = some s):wS ds s:=Bl.1 ((Jk b).1 h) s (Y7 hs)
theorem N6 {s:Z5} {k:Nat} {b:Z8} (h:wS ds s) (hb:s.kids[k]? = some b):wB ds b:=Ia.1 ((JQ s).1 h).2.2.2 b (Y7 hb)
theorem Ib {s:Z5} (h:wS ds s) (hc:YO s.op=true):Cn s/\s.kids=[]/\∃a,s.args=[a]:=by
 obtain ⟨h1,h2,h3,a,h4⟩:=((JQ s).1 h).2.1 hc
 refine ⟨?_,h3,a,h4⟩
 cases s with
 | mk op num into args kids=>
  simp only [Z5.num,Z5.into,Z5.kids,Z5.args] at h1 h2 h3 h4
  subst h1 h2 h3 h4
  rfl
theorem Zi5 {op v:Int} (h:op=14∨op=15∨op=16):wS ds (Zx op v):=(JQ _).2 ⟨by show Xh op=!YO op;rcases h with rfl|rfl|rfl<;>rfl,fun _=>⟨rfl,rfl,rfl,v,rfl⟩,fun e=>absurd e (show op≠8 by omega),True.intro⟩
theorem Zi6 {s:Z5} (h:wS ds s):Xh s.op=!YO s.op:=((JQ s).1 h).1
theorem FL {s:Z5} (h:wS ds s) (h8:s.op=8):(∃a,s.args=[a]/\0<=a/\a<=900000000)/\s.kids.length=(Y0 ds s.num).length:=((JQ s).1 h).2.2.1 h8
theorem Ii {xs:List Z5} (h:QQ ds xs):∀s∈xs,YO s.op=true->Cn s:=fun s hs hc=>(Ib (Bl.1 h s hs) hc).1
end
section
variable {n:ZF}
end
mutual
def Z5.pz:Z5->Nat
 | .mk _ _ _ args kids=>1+args.length+E4 kids
def Z8.pz:Z8->Nat
 | .mk steps _=>1+E5 steps
def E5:List Z5->Nat
 | []=>0
 | s::r=>s.pz+E5 r
def E4:List Z8->Nat
 | []=>0
 | b::r=>b.pz+8+E4 r
end
mutual
theorem Z5.pz_le:∀s:Z5,s.pz<=9*s.sz
 | .mk _ _ _ args kids=>by have:=S0 kids;rw [Z5.pz,Z5.sz];omega
theorem Z8.pz_le:∀b:Z8,b.pz+8<=9*b.sz
 | .mk steps _=>by have:=S1 steps;rw [Z8.pz,Z8.sz];omega
theorem S1:∀xs:List Z5,E5 xs<=9*Yw xs
 | []=>Q9 _
 | s::r=>by have:=s.pz_le;have:=S1 r;rw [E5,Yw];omega
theorem S0:∀xs:List Z8,E4 xs<=9*YV xs
 | []=>Q9 _
 | s::r=>by have:=s.pz_le;have:=S0 r;rw [E4,YV];omega
end
section
variable {ds:List Zd}
theorem Z3z {op:Int} (h:op=14∨op=15):YO op=true:=by rw [YO];simp;omega
theorem Zf6 {xs:List Z5}:∀{m:Nat},QQ ds xs->∀s∈U5 ds m xs,s.op=14∨s.op=15->2<=s.sz:=by
 induction xs with
 | nil=>intro m _ s hs;simp [U5] at hs
 | cons t r ih=>
  intro m h s hs ho
  rw [U5] at hs
  rcases YM.1 hs with rfl|hs
  ·rw [Fz] at ho ⊢
   obtain ⟨_,_,a,ha⟩:=Ib h.1 (Z3z ho)
   rw [Z5.sz,ha];simp
  ·exact ih h.2 s hs ho
variable (hd:Xq ds)
include hd
mutual
theorem Zf2:∀(s:Z5) {m:Nat},wS ds s->(KJ ds m s).sz<=s.pz
 | .mk op num into args kids,m,h=>by
  have:=Z07 kids (m:=m) (op:=op) (num:=num) (args:=args) (k:=0) h.2.2.2
  rw [KJ,Z5.sz,Z5.pz];omega
theorem Z07:∀(bs:List Z8) {m:Nat} {op num:Int} {args:LI} {k:Nat},Jl ds bs->YV (UU ds m op num args bs k)<=E4 bs
 | [],_,_,_,_,_,_=>X9 _
 | b::r,m,op,num,args,k,h=>by
  have h2:=Z07 r (m:=m) (op:=op) (num:=num) (args:=args) (k:=k+1) h.2
  rw [UU,YV,E4]
  split
  ·have h1:=HS b (m:=m+(Wy ds num k).length) h.1
   have h3:=Z2w (xs:=(WU ds (m+(Wy ds num k).length) b).steps) (x:=gI args 0) (q:=(m:Int)) (Gw hd num k) (by rw [HR];exact Zf6 ((Jk b).1 h.1))
   rw [Ks,Z8.sz]
   rw [Z8.sz_eq] at h1
   omega
  ·have h1:=HS b (m:=m) h.1
   omega
theorem Z09:∀(xs:List Z5) {m:Nat},QQ ds xs->Yw (U5 ds m xs)<=E5 xs
 | [],_,_=>X9 _
 | s::r,m,h=>by
  have h1:=Zf2 s (m:=m) h.1
  have h2:=Z09 r (m:=if YO s.op=true then m else m+1) h.2
  rw [U5,Yw,E5];omega
theorem HS:∀(b:Z8) {m:Nat},wB ds b->(WU ds m b).sz<=b.pz
 | .mk steps result,m,h=>by
  have:=Z09 steps (m:=m) h
  rw [WU,Z8.sz,Z8.pz];omega
end
end
section
variable {ds:List Zd} {m:Nat}
end
def C1 (ds:List Zd) (r:YF):YF:=⟨r.params,r.lent,r.result,WU ds r.params.length r.body⟩
def D7 (n:ZF):ZF:=⟨n.decls,n.routines.map (C1 n.decls)⟩
end Go.Abs
namespace Go.Abs
theorem Zeh {xs:List Z5} {k:Nat} {s:Z5} {r:Nat} (h:xs[k]? = some s) (hs:s.op=14∨s.op=15) (ha:k+XN (xs.drop k)=r):k+1+XN (xs.drop (k+1))=r:=by
 rw [Yl h,XN,Zk hs] at ha;omega
theorem Zei {xs:List Z5} {k:Nat} {s:Z5} {r:Nat} (h:xs[k]? = some s) (hs:¬(s.op=14∨s.op=15)) (ha:k+XN (xs.drop k)=r):k=r:=by
 rw [Yl h,XN,Zb hs] at ha;omega
theorem Zeg {xs:List Z5} {k:Nat} {r:Nat} (h:xs.length<=k) (ha:k+XN (xs.drop k)=r):k=r:=by
 rw [Xr h,XN] at ha;omega
theorem Z36 {op:Int} {xs:List Z5} {acc r:LI} {k:Nat} {s:Z5} (h:xs[k]? = some s) (hs:s.op=op) (ha:acc++Wo op (xs.drop k)=r):(acc++[gI s.args 0])++Wo op (xs.drop (k+1))=r:=by
 rw [Yl h,Wo,Zk hs] at ha;rw [<-ha];simp
theorem Z35 {op:Int} {xs:List Z5} {acc r:LI} {k:Nat} {s:Z5} (h:xs[k]? = some s) (hs:¬s.op=op) (ha:acc++Wo op (xs.drop k)=r):acc++Wo op (xs.drop (k+1))=r:=by
 rw [Yl h,Wo,Zb hs] at ha;exact ha
theorem Z34 {op:Int} {xs:List Z5} {acc r:LI} {k:Nat} (h:xs.length<=k) (ha:acc++Wo op (xs.drop k)=r):acc=r:=by
 rw [Xr h,Wo,KP] at ha;exact ha
theorem Z5w {xs acc r:LI} {y:Int} {k:Nat} {x:Int} {d:Bool} (h:xs[k]? = some x) (ha:acc++(if d=true then xs.drop k else (xs.drop k).erase y)=r) :
  (if x=y/\¬d=true then acc else acc++[x])++(if ((x==y&&!d)||d)=true then xs.drop (k+1) else (xs.drop (k+1)).erase y)=r:=by
 rw [Yl h] at ha
 rw [<-ha]
 by_cases hd:d=true
 ·simp [hd]
 ·by_cases hx:x=y
  ·simp [hd,hx]
  ·rw [Zb (fun z=>hx z.1),Zb hd,List.erase_cons_tail (by simpa using hx)]
   simp [hd,hx]
theorem Z5v {xs acc r:LI} {y:Int} {k:Nat} {d:Bool} (h:xs.length<=k) (ha:acc++(if d=true then xs.drop k else (xs.drop k).erase y)=r):acc=r:=by
 rw [Xr h] at ha;simpa using ha
section
variable {fs D R:LI} {q k:Nat} {f:Int} {r:LI × LI}
theorem Zcu (h:fs[k]? = some f) (h0:f≠0) (hm:((q+k:Nat):Int)∈D) (ha:Uw (fs.drop k) (q+k) D R=r):Uw (fs.drop (k+1)) (q+((k+1:Nat):Int)) (D.erase ((q+k:Nat):Int)) R=r:=by
 rw [Yl h,Uw,Zk ⟨h0,by rw [<-Int.natCast_add];exact hm⟩,<-Int.natCast_add] at ha
 rw [<-ha];congr 1
theorem Zcv (h:fs[k]? = some f) (h0:f≠0) (hm:¬((q+k:Nat):Int)∈D) (ha:Uw (fs.drop k) (q+k) D R=r):Uw (fs.drop (k+1)) (q+((k+1:Nat):Int)) D (R++[((q+k:Nat):Int)])=r:=by
 rw [Yl h,Uw,Zb (fun z=>hm (by rw [Int.natCast_add];exact z.2)),Zk h0,<-Int.natCast_add] at ha
 rw [<-ha];congr 1
theorem Zcw (h:fs[k]? = some f) (h0:¬f≠0) (ha:Uw (fs.drop k) (q+k) D R=r):Uw (fs.drop (k+1)) (q+((k+1:Nat):Int)) D R=r:=by
 rw [Yl h,Uw,Zb (fun z=>h0 z.1),Zb h0] at ha
 rw [<-ha];congr 1
theorem Zct (h:fs.length<=k) (ha:Uw (fs.drop k) (q+k) D R=r):r=(D,R):=by
 rw [Xr h,Uw] at ha;exact ha.symm
end
theorem Z2x {xs:List Z5} {x:Int} {fs:LI} {q:Int} {D R:LI} (h1:x∈Wo 15 (xs.take (XN xs))) (h2:fs.length≠0) (hr:Jb xs x fs q=(D,R)):D.map (Zx 14)++[Zx 16 x]++R.map (Zx 15)++xs.drop (XN xs)=QU xs x fs q:=by
 rw [QU,Zk ⟨h1,h2⟩,hr]
theorem Zf3 {ds:List Zd} {xs:List Z5}:∀{m:Nat},QQ ds xs->∀s∈U5 ds m xs,YO s.op=true->∃a,s.args=[a]:=by
 induction xs with
 | nil=>intro m _ s hs;simp [U5] at hs
 | cons t r ih=>
  intro m h s hs ho
  rw [U5] at hs
  rcases YM.1 hs with rfl|hs
  ·rw [Fz] at ho ⊢
   exact (Ib h.1 ho).2.2
  ·exact ih h.2 s hs ho
end Go.Abs
end
namespace Go.Abs
mutual
def Z1.sz:Z1->Nat
 | .mk _ _ kids=>1+XD kids
def XD:List Z1->Nat
 | []=>0
 | e::r=>e.sz+XD r
end
theorem Z1.sz_eq (e:Z1):e.sz=1+XD e.kids:=by cases e;rw [Z1.sz];rfl
theorem EE:∀xs ys:List Z1,XD (xs++ys)=XD xs+XD ys
 | [],ys=>by simp [XD]
 | x::r,ys=>by rw [KQ,XD,XD,EE r];omega
theorem CF:∀{xs:List Z1} {k:Nat} {e:Z1},xs[k]? = some e->e.sz<=XD xs
 | [],k,e,h=>by simp at h
 | x::r,0,e,h=>by simp at h;subst h;rw [XD];omega
 | x::r,k+1,e,h=>by have:=CF (xs:=r) (k:=k) (by simpa using h);rw [XD];omega
theorem Ok:∀{xs:List Z1},xs.length<=XD xs
 | []=>Q9 _
 | x::r=>by have:=Ok (xs:=r);have:=x.sz_eq;rw [XD,YA];omega
def AO:Zd:=⟨0,0,[⟨[]⟩,⟨[0,1]⟩]⟩
def AP:Zd:=⟨0,0,[⟨[]⟩,⟨[3,0,3]⟩]⟩
def NZ:List Zd:=[⟨0,0,[⟨[1,3]⟩]⟩,⟨1,0,[]⟩,⟨0,0,[⟨[1,1,0]⟩,⟨[0]⟩,⟨[3]⟩]⟩,⟨0,1,[]⟩]
def B1:List (List Zd):=[[AO,⟨0,0,[]⟩,AP],[AO,⟨0,0,[]⟩,AP,⟨0,0,[⟨[1,3]⟩]⟩],[AO,⟨0,0,[]⟩,AP,⟨1,0,[]⟩],[AO,⟨0,0,[]⟩,AP,⟨0,0,[⟨[1,1,0]⟩,⟨[0]⟩,⟨[3]⟩]⟩],[AO,⟨0,0,[]⟩,AP,⟨0,1,[]⟩]]
def GD (ds:List Zd):Prop:=ds∈B1
theorem GD.ok {ds:List Zd} (h:GD ds):Xq ds:=by
 have k:=(by decide:∀ds∈B1,ds.length<=4/\(∀d∈ds,d.cons.length<=3)/\∀d∈ds,∀c∈d.cons,c.fields.length<=3) ds h
 exact ⟨k.1,k.2.1,k.2.2⟩
theorem GD.len {ds:List Zd} (h:GD ds):3<=ds.length/\ds.length<=4:=by
 exact (by decide:∀ds∈B1,3<=ds.length/\ds.length<=4) ds h
def Ja (t:Int):Prop:=t=0∨t=1∨t=3
instance (t:Int):Decidable (Ja t):=inferInstanceAs (Decidable (_∨_∨_))
theorem GD.low {ds:List Zd} (h:GD ds):Y0 ds 0=[]/\Y0 ds 1=[0,1]/\Y0 ds 2=[]/\Y0 ds 3=[2,3]/\ZP ds 0=[]/\ZP ds 1=[0,1]/\ZP ds 2=[]/\ZP ds 3=[3,0,3]:=
 (by decide:∀ds∈B1,Y0 ds 0=[]/\Y0 ds 1=[0,1]/\Y0 ds 2=[]/\Y0 ds 3=[2,3]/\ZP ds 0=[]/\ZP ds 1=[0,1]/\ZP ds 2=[]/\ZP ds 3=[3,0,3]) ds h
theorem GD.fields {ds:List Zd} (h:GD ds):∀c∈Y0 ds 1++(Y0 ds 3++Y0 ds 4),∀t∈ZP ds c,Ja t:=
 (by decide:∀ds∈B1,∀c∈Y0 ds 1++(Y0 ds 3++Y0 ds 4),∀t∈ZP ds c,Ja t) ds h
theorem GD.cons_cases {ds:List Zd} (h:GD ds) {t:Int} {c:Int} (hc:c∈Y0 ds t):(0<=c/\c<=9)/\(t=1∨t=3∨t=4)/\(ZP ds c).length<=3/\∀u∈ZP ds c,Ja u:=by
 have ht:1<=t/\t<=ds.length:=by
  by_cases q:1<=t/\t<=ds.length
  ·exact q
  ·rw [Y0,Zb q] at hc;cases hc
 have hl:=h.len
 have hlow:=h.low
 have key:∀c∈Y0 ds 1++(Y0 ds 3++Y0 ds 4),0<=c/\c<=9:=
  (by decide:∀ds∈B1,∀c∈Y0 ds 1++(Y0 ds 3++Y0 ds 4),0<=c/\c<=9) ds h
 have h4:t=1∨t=2∨t=3∨t=4:=by omega
 have hf:=h.fields
 have hd:=Vs h.ok c
 rcases h4 with rfl|rfl|rfl|rfl
 ·exact ⟨key c (Xf.2 (.inl hc)),.inl rfl,hd,hf c (Xf.2 (.inl hc))⟩
 ·rw [hlow.2.2.1] at hc;cases hc
 ·exact ⟨key c (Xf.2 (.inr (Xf.2 (.inl hc)))),.inr (.inl rfl),hd,hf c (Xf.2 (.inr (Xf.2 (.inl hc))))⟩
 ·exact ⟨key c (Xf.2 (.inr (Xf.2 (.inr hc)))),.inr (.inr rfl),hd,hf c (Xf.2 (.inr (Xf.2 (.inr hc))))⟩
def JZ:List (LI × Int):=[([],0),([1],0),([1,1],1),([1],1),([1,0],1),([2,1],1),([1,1],0),([3],0),([0],1),([0,1],1),([3,0],3),([3],1),([1,3,0],0),([0],0),([0,0],0),([1,0],0)]
def Tt (f:Func):Prop:=(f.params,f.result)∈JZ
theorem Tt.bd {f:Func} (h:Tt f):f.params.length<=3/\(∀t∈f.params,0<=t/\t<=3)/\Ja f.result:=by
 have key:∀q∈JZ,q.1.length<=3/\(∀t∈q.1,0<=t/\t<=3)/\Ja q.2:=by decide
 exact key _ h
theorem Tt.clo {ds:List Zd} {f:Func} (hd:GD ds) (h:Tt f) (hp:0<A1 ds (gI f.params ((f.params.length:Int)-1)) f.result):∀t∈f.params.dropLast,Ja t:=by
 have key:∀q∈JZ,0<A1 ds (gI q.1 ((q.1.length:Int)-1)) q.2->∀t∈q.1.dropLast,Ja t:=
  (by decide +kernel:∀ds∈B1,∀q∈JZ,0<A1 ds (gI q.1 ((q.1.length:Int)-1)) q.2->∀t∈q.1.dropLast,Ja t) ds hd
 exact key _ h hp
structure GP (p:W8):Prop where
 decls:GD p.decls
 len:1<=p.funcs.length/\p.funcs.length<=4
 sigs:∀f∈p.funcs,Tt f
def Q2 (ds:List Zd) (op num:Int) (m:Nat) (k:Nat):Nat:=
 if op=13 then m+k else if op=8 then (if k=0 then m else m+(ZP ds (gI (Y0 ds num) ((k:Int)-1))).length) else m
mutual
def eW (ds:List Zd) (nf:Nat):Nat->Z1->Prop
 | m,.mk op num kids=>(0<=op/\op<=13)/\(op=12->kids=[]/\0<=num/\num<m)/\(op=13->kids.length=2)/\(op=7->kids.length=3)/\(op=8->kids.length=1+(Y0 ds num).length)/\(op=9->0<=num/\num<nf)/\(-2000<=num/\num<=2000)/\kids.length<=4 /\
  K0 ds nf (Q2 ds op num m) 0 kids
def K0 (ds:List Zd) (nf:Nat) (sc:Nat->Nat):Nat->List Z1->Prop
 | _,[]=>True
 | k,e::r=>eW ds nf (sc k) e/\K0 ds nf sc (k+1) r
end
theorem Z5p {ds:List Zd} {nf m:Nat} (e:Z1):eW ds nf m e↔(0<=e.op/\e.op<=13)/\(e.op=12->e.kids=[]/\0<=e.num/\e.num<m)/\(e.op=13->e.kids.length=2)/\(e.op=7->e.kids.length=3)/\(e.op=8->e.kids.length=1+(Y0 ds e.num).length)/\(e.op=9->0<=e.num/\e.num<nf)/\(-2000<=e.num/\e.num<=2000)/\e.kids.length<=4 /\
  K0 ds nf (Q2 ds e.op e.num m) 0 e.kids:=by cases e;rw [eW];rfl
theorem DA {ds:List Zd} {nf:Nat} {sc:Nat->Nat}:∀{xs:List Z1} {j k:Nat} {e:Z1},K0 ds nf sc j xs->xs[k]? = some e->eW ds nf (sc (j+k)) e
 | [],j,k,e,_,h=>by simp at h
 | x::r,j,0,e,hw,h=>by simp at h;subst h;exact hw.1
 | x::r,j,k+1,e,hw,h=>by
  have:=DA (xs:=r) (j:=j+1) (k:=k) hw.2 (by simpa using h)
  rw [show j+(k+1)=j+1+k by omega];exact this
theorem Og {ds:List Zd} {nf:Nat} {sc:Nat->Nat}:∀{xs ys:List Z1} {j:Nat},K0 ds nf sc j (xs++ys)↔K0 ds nf sc j xs/\K0 ds nf sc (j+xs.length) ys
 | [],ys,j=>by simp [K0]
 | x::r,ys,j=>by
  rw [KQ,K0,K0,Og (xs:=r),and_assoc,YA,show j+1+r.length=j+(r.length+1) by omega]
theorem Lc {ds:List Zd} {nf m:Nat} {sc:Nat->Nat} (hs:∀k,sc k=m):∀{xs:List Z1} {j:Nat},(∀e∈xs,eW ds nf m e)->K0 ds nf sc j xs
 | [],_,_=>True.intro
 | x::r,j,h=>⟨by rw [hs];exact h x (Xo ..),Lc hs fun e he=>h e (Xz _ he)⟩
theorem CE {ds:List Zd} {nf m:Nat} {op num:Int} {kids:List Z1} (ho:0<=op/\op<=11/\op≠7/\op≠8) (hc:op=9->0<=num/\num<nf) (hn:-2000<=num/\num<=2000) (hl:kids.length<=4) (hk:∀e∈kids,eW ds nf m e):eW ds nf m (.mk op num kids):=by
 rw [eW]
 refine ⟨by omega,fun h=>by omega,fun h=>by omega,fun h=>by omega,fun h=>by omega,hc,hn,hl,Lc (m:=m) (fun k=>?_) hk⟩
 rw [Q2,Zb om,Zb om]
theorem Z5q {ds:List Zd} {nf m:Nat} {z:Int} (hz:-2000<=z/\z<=2000):eW ds nf m (.mk 0 z []):=CE om (fun h=>by omega) hz (by simp) (fun e he=>by cases he)
theorem Z5r {ds:List Zd} {nf m:Nat} {z:Int} (hz:0<=z/\z<m) (hm:m<=2000):eW ds nf m (.mk 12 z []):=by
 rw [eW]
 exact ⟨by omega,fun _=>⟨rfl,hz⟩,fun h=>by omega,fun h=>by omega,fun h=>by omega,fun h=>by omega,by omega,by simp,True.intro⟩
theorem Oe {ds:List Zd} {nf m:Nat} {num:Int} {kids:List Z1} (hn:-2000<=num/\num<=2000) (hl:kids.length=3) (hk:∀e∈kids,eW ds nf m e):eW ds nf m (.mk 7 num kids):=by
 rw [eW]
 refine ⟨by omega,fun h=>by omega,fun h=>by omega,fun _=>hl,fun h=>by omega,fun h=>by omega,hn,by omega,Lc (m:=m) (fun k=>?_) hk⟩
 rw [Q2,Zb om,Zb om]
theorem Of {ds:List Zd} {nf m:Nat} {num:Int} {a b:Z1} (hn:-2000<=num/\num<=2000) (ha:eW ds nf m a) (hb:eW ds nf (m+1) b):eW ds nf m (.mk 13 num [a,b]):=by
 rw [eW]
 exact ⟨by omega,fun h=>by omega,fun _=>rfl,fun h=>by omega,fun h=>by omega,fun h=>by omega,hn,by simp,ha,hb,True.intro⟩
theorem Lb {ds:List Zd} {nf m:Nat} {num:Int} {a:Z1} {arms:List Z1} (hn:-2000<=num/\num<=2000) (h3:arms.length<=3) (hl:arms.length=(Y0 ds num).length) (ha:eW ds nf m a) (hk:K0 ds nf (Q2 ds 8 num m) 1 arms):eW ds nf m (.mk 8 num (a::arms)):=by
 rw [eW]
 refine ⟨by omega,fun h=>by omega,fun h=>by omega,fun h=>by omega,fun _=>by rw [YA];omega,fun h=>by omega,hn,by rw [YA];omega,?_,hk⟩
 rw [Q2,Zb om,Zk rfl,Zk rfl]
 exact ha
def bS (b:Nat):Nat:=max 4 (10*b-10)
def bC (b:Nat):Nat:=max 40 (100*b-100)
def Yu:List Z5->Nat
 | []=>0
 | s::r=>(if YO s.op=true then 0 else 1)+Yu r
theorem Ta:∀xs ys:List Z5,Yu (xs++ys)=Yu xs+Yu ys
 | [],ys=>by simp [Yu]
 | x::r,ys=>by rw [KQ,Yu,Yu,Ta r];omega
theorem AQ:∀xs:List Z5,Yu xs<=xs.length
 | []=>X9 _
 | x::r=>by have:=AQ r;rw [Yu,YA];split<;>omega
def V1 (ds:List Zd) (op num:Int) (m:Nat) (k:Nat):Nat:=if op=8 then m+(ZP ds (gI (Y0 ds num) k)).length else m
mutual
def fS (ds:List Zd) (nf:Nat):Nat->Z5->Prop
 | m,.mk op num into args kids=>((0<=op/\op<=11)∨(14<=op/\op<=17))/\(∀a∈args,0<=a/\a<m)/\(14<=op->num=0/\into=0/\kids=[]/\∃a,args=[a])/\(op=7->kids.length=2)/\(op=8->kids.length=(Y0 ds num).length)/\(op=7∨op=8->∃a,args=[a]) /\
  (op=9->0<=num/\num<nf)/\(-2000<=num/\num<=2000)/\(0<=into/\into<=m)/\args.length<=4/\(op≠7/\op≠8->kids=[])/\Ud ds nf (V1 ds op num m) 0 kids
def Ud (ds:List Zd) (nf:Nat) (sc:Nat->Nat):Nat->List Z8->Prop
 | _,[]=>True
 | k,b::r=>fB ds nf (sc k) b/\Ud ds nf sc (k+1) r
def Wb (ds:List Zd) (nf:Nat):Nat->List Z5->Prop
 | _,[]=>True
 | m,s::r=>fS ds nf m s/\Wb ds nf (if YO s.op=true then m else m+1) r
def fB (ds:List Zd) (nf:Nat):Nat->Z8->Prop
 | m,.mk steps result=>Wb ds nf m steps/\0<=result/\result<(m+Yu steps:Nat)
end
section
variable {ds:List Zd} {nf:Nat}
structure FS (ds:List Zd) (nf m:Nat) (s:Z5):Prop where
 op:(0<=s.op/\s.op<=11)∨(14<=s.op/\s.op<=17)
 args:∀a∈s.args,0<=a/\a<m
 cnt:14<=s.op->s.num=0/\s.into=0/\s.kids=[]/\∃a,s.args=[a]
 k7:s.op=7->s.kids.length=2
 k8:s.op=8->s.kids.length=(Y0 ds s.num).length
 one:s.op=7∨s.op=8->∃a,s.args=[a]
 call:s.op=9->0<=s.num/\s.num<nf
 num:-2000<=s.num/\s.num<=2000
 into:0<=s.into/\s.into<=m
 alen:s.args.length<=4
 kn:s.op≠7/\s.op≠8->s.kids=[]
 kids:Ud ds nf (V1 ds s.op s.num m) 0 s.kids
theorem AX {m:Nat} (s:Z5):fS ds nf m s↔FS ds nf m s:=by
 cases s
 rw [fS]
 exact ⟨fun ⟨h1,h2,h3,h4,h5,h6,h7,h8,h9,h10,h11,h12⟩=>⟨h1,h2,h3,h4,h5,h6,h7,h8,h9,h10,h11,h12⟩,fun h=>⟨h.op,h.args,h.cnt,h.k7,h.k8,h.one,h.call,h.num,h.into,h.alen,h.kn,h.kids⟩⟩
theorem J1 {m:Nat} (b:Z8):fB ds nf m b↔Wb ds nf m b.steps/\0<=b.result/\b.result<(m+Yu b.steps:Nat):=by cases b;rw [fB];rfl
theorem BE {sc:Nat->Nat}:∀{xs:List Z8} {j k:Nat} {b:Z8},Ud ds nf sc j xs->xs[k]? = some b->fB ds nf (sc (j+k)) b
 | [],j,k,b,_,h=>by simp at h
 | x::r,j,0,b,hw,h=>by simp at h;subst h;exact hw.1
 | x::r,j,k+1,b,hw,h=>by
  have:=BE (xs:=r) (j:=j+1) (k:=k) hw.2 (by simpa using h)
  rw [show j+(k+1)=j+1+k by omega];exact this
theorem Om {sc:Nat->Nat}:∀{xs ys:List Z8} {j:Nat},Ud ds nf sc j (xs++ys)↔Ud ds nf sc j xs/\Ud ds nf sc (j+xs.length) ys
 | [],ys,j=>by simp [Ud]
 | x::r,ys,j=>by
  rw [KQ,Ud,Ud,Om (xs:=r),and_assoc,YA,show j+1+r.length=j+(r.length+1) by omega]
theorem Oo {sc:Nat->Nat} {xs:List Z8} {b:Z8} (h:Ud ds nf sc 0 xs) (hb:fB ds nf (sc xs.length) b):Ud ds nf sc 0 (xs++[b]):=
 Om.2 ⟨h,by rw [Wg];exact hb,True.intro⟩
theorem Aj:∀{xs ys:List Z5} {m:Nat},Wb ds nf m (xs++ys)↔Wb ds nf m xs/\Wb ds nf (m+Yu xs) ys
 | [],ys,m=>by simp [Wb,Yu]
 | x::r,ys,m=>by
  rw [KQ,Wb,Wb,Aj (xs:=r),and_assoc,Yu]
  by_cases h:YO x.op=true
  ·rw [Zk h,Zk h,Wg]
  ·rw [Zb h,Zb h,JU]
theorem Gv {xs:List Z5} {s:Z5} {m:Nat} (h:Wb ds nf m xs) (hs:fS ds nf (m+Yu xs) s):Wb ds nf m (xs++[s]):=Aj.2 ⟨h,hs,True.intro⟩
theorem DC:∀{xs:List Z5} {k m:Nat} {s:Z5},Wb ds nf m xs->xs[k]? = some s->fS ds nf (m+Yu (xs.take k)) s
 | [],k,m,s,_,h=>by simp at h
 | x::r,0,m,s,hw,h=>by simp at h;subst h;exact hw.1
 | x::r,k+1,m,s,hw,h=>by
  have:=DC (xs:=r) (k:=k) hw.2 (by simpa using h)
  rw [AA,Yu]
  by_cases hc:YO x.op=true
  ·rw [Zk hc] at this ⊢;rw [Wg];exact this
  ·rw [Zb hc] at this ⊢;rw [<-JU];exact this
theorem Lg {op v:Int} {m:Nat} (ho:14<=op/\op<=17) (hv:0<=v/\v<m):fS ds nf m (Zx op v):=by
 rw [Zx,fS]
 exact ⟨.inr ho,fun a ha=>by rw [XF.1 ha];exact hv,fun _=>⟨rfl,rfl,rfl,v,rfl⟩,fun h=>by omega,fun h=>by omega,fun h=>by omega,fun h=>by omega,by omega,by omega,by simp,fun _=>rfl,True.intro⟩
theorem Gu {op:Int} {m:Nat} (ho:14<=op/\op<=17):∀{vs:LI},(∀v∈vs,0<=v/\v<(m:Int))->Wb ds nf m (vs.map (Zx op))/\Yu (vs.map (Zx op))=0
 | [],_=>⟨True.intro,rfl⟩
 | v::r,h=>by
  obtain ⟨h1,h2⟩:=Gu ho (vs:=r) fun x hx=>h x (Xz _ hx)
  have hc:YO op=true:=by simp [YO];omega
  have hc':YO (Zx op v).op=true:=hc
  rw [T7,Wb,Yu,Zk hc',Zk hc',Wg]
  exact ⟨⟨Lg ho (h v (Xo ..)),h1⟩,h2⟩
mutual
theorem Zi8:∀(s:Z5) {m:Nat},fS ds nf m s->m+4*s.sz<=900000000->Xq ds->wS ds s
 | .mk op num into args kids,m,h,hb,hd=>by
  rw [fS] at h
  obtain ⟨h1,h2,h3,h4,h5,h6,h7,h8,h9,h10,h11,h12⟩:=h
  rw [Z5.sz] at hb
  rw [wS]
  refine ⟨?_,fun hc=>h3 (show 14<=op/\op<=17 by simpa [YO] using hc).1,fun h8'=>⟨?_,h5 h8'⟩,Z1y kids h12 (fun k=>?_) hd⟩
  ·rcases h1 with h1|h1
   ·have e1:YO op=false:=by simp [YO];omega
    have e2:Xh op=true:=by simp [Xh];omega
    rw [e1,e2];rfl
   ·have e1:YO op=true:=by simp [YO];omega
    have e2:Xh op=false:=by simp [Xh];omega
    rw [e1,e2];rfl
  ·obtain ⟨a,ha⟩:=h6 (.inr h8')
   have:=h2 a (by rw [ha];exact XF.2 rfl)
   exact ⟨a,ha,by omega⟩
  ·have hf:=Vs hd (gI (Y0 ds num) k)
   show V1 ds op num m k+4*YV kids<=900000003
   rw [V1];split<;>omega
theorem Z1y:∀(bs:List Z8) {sc:Nat->Nat} {k:Nat},Ud ds nf sc k bs->(∀k,sc k+4*YV bs<=900000003)->Xq ds->Jl ds bs
 | [],_,_,_,_,_=>True.intro
 | b::r,sc,k,h,hb,hd=>by
  have hp:=b.sz_eq
  exact ⟨N5 b h.1 (by have:=hb k;rw [YV] at this;omega) hd,Z1y r h.2 (fun j=>by have:=hb j;rw [YV] at this;omega) hd⟩
theorem Z1z:∀(xs:List Z5) {m:Nat},Wb ds nf m xs->m+4*Yw xs<=900000000->Xq ds->QQ ds xs
 | [],_,_,_,_=>True.intro
 | s::r,m,h,hb,hd=>by
  rw [Yw] at hb
  have hp:=s.sz_pos
  refine ⟨Zi8 s h.1 om hd,Z1z r h.2 ?_ hd⟩
  split<;>omega
theorem N5:∀(b:Z8) {m:Nat},fB ds nf m b->m+4*b.sz<=900000004->Xq ds->wB ds b
 | .mk steps result,m,h,hb,hd=>by
  rw [Z8.sz] at hb
  rw [fB] at h
  rw [wB]
  exact Z1z steps h.1 om hd
end
mutual
theorem Zdt:∀(s:Z5) {m:Nat},fS ds nf m s->s.rng
 | .mk op num into args kids,m,h=>by
  rw [fS] at h
  obtain ⟨h1,h2,h3,h4,h5,h6,h7,h8,h9,h10,h11,h12⟩:=h
  rw [Z5.rng]
  exact ⟨by omega,So kids h12⟩
theorem So:∀(bs:List Z8) {sc:Nat->Nat} {k:Nat},Ud ds nf sc k bs->A6 bs
 | [],_,_,_=>True.intro
 | b::r,sc,k,h=>⟨Mt b h.1,So r h.2⟩
theorem Sp:∀(xs:List Z5) {m:Nat},Wb ds nf m xs->Au xs
 | [],_,_=>True.intro
 | s::r,m,h=>⟨Zdt s h.1,Sp r h.2⟩
theorem Mt:∀(b:Z8) {m:Nat},fB ds nf m b->b.rng
 | .mk steps result,m,h=>by rw [fB] at h;rw [Z8.rng];exact Sp steps h.1
end
end
structure FN (n:ZF) (q:Nat):Prop where
 decls:GD n.decls
 len:1<=n.routines.length/\n.routines.length<=4
 sigs:∀r∈n.routines,(r.params,r.result)∈JZ
 lent:∀r∈n.routines,r.lent.length<=3/\∀i∈r.lent,0<=i/\i<r.params.length
 body:∀r∈n.routines,fB n.decls n.routines.length r.params.length r.body/\r.body.sz<=q
theorem FN.ok {n:ZF} {q:Nat} (h:FN n q):Xx n:=
 ⟨h.decls.ok,h.len.2,fun r hr=>(Tt.bd (f:=⟨r.params,r.result,default⟩) (h.sigs r hr)).1,fun r hr=>by have:=(h.lent r hr).1;omega⟩
def Pk (n k:Int):Prop:=0<=k/\(0<n->k<n)/\(n<=0->k=0)
theorem Pk.lt {n k:Int} (h:Pk n k) (hn:0<n):0<=k/\k<n:=⟨h.1,h.2.1 hn⟩
theorem Pk.zero {n:Int}:Pk n 0:=⟨Int.le_refl _,fun h=>h,fun _=>rfl⟩
theorem Pk.rem {n a:Int} (ha:0<=a) (hn:0<n):Pk n (a % n):=⟨Int.emod_nonneg _ om,fun _=>Int.emod_lt_of_pos _ hn,fun _=>by omega⟩
def AD (ds:List Zd):Prop:=ds.length<=8/\∀d∈ds,d.cons.length<=4/\∀c∈d.cons,c.fields.length<=4
theorem GD.ad {ds:List Zd} (h:GD ds):AD ds:=(by decide:∀ds∈B1,ds.length<=8/\∀d∈ds,d.cons.length<=4/\∀c∈d.cons,c.fields.length<=4) ds h
theorem AD.set {ds:List Zd} (h:AD ds) (k:Nat) {d:Zd} (hd:d.cons.length<=4/\∀c∈d.cons,c.fields.length<=4):AD (ds.set k d):=
 ⟨by rw [VG];exact h.1,fun x hx=>(List.mem_or_eq_of_mem_set hx).elim (h.2 x) fun e=>by rw [e];exact hd⟩
theorem AD.app {ds es:List Zd} (h:AD ds) (hl:ds.length+es.length<=8) (hd:∀d∈es,d.cons.length<=4/\∀c∈d.cons,c.fields.length<=4):AD (ds++es):=
 ⟨by rw [Yr];exact hl,fun x hx=>(Xf.1 hx).elim (h.2 x) (hd x)⟩
theorem GD.three:GD [AO,⟨0,0,[]⟩,AP]:=List.Mem.head _
theorem GD.four:∀{k:Nat} {x:Zd},NZ[k]? = some x->GD ([AO,⟨0,0,[]⟩,AP]++[x])
 | 0,x,h=>by cases h;exact .tail _ (.head _)
 | 1,x,h=>by cases h;exact .tail _ (.tail _ (.head _))
 | 2,x,h=>by cases h;exact .tail _ (.tail _ (.tail _ (.head _)))
 | 3,x,h=>by cases h;exact .tail _ (.tail _ (.tail _ (.tail _ (.head _))))
 | k+4,x,h=>by simp [NZ] at h
theorem BS {l:LI} {z a b:Int} (h:z∈l) (hl:l.all (fun x=>decide (a<=x/\x<=b))=true):a<=z/\z<=b:=by
 have:=Ay.1 hl z h
 exact of_decide_eq_true this
def rk (t:Int):Nat:=if Ja t then 0 else 1
theorem Ms (t:Int):rk t<=1:=by rw [rk];split<;>omega
theorem Sn {t:Int} (h:Ja t):rk t=0:=Zk h
def SE (g:W8) (q:Nat) (e:Z1):Prop:=(∀m,eW g.decls g.funcs.length m e)/\e.sz<=q
def GE (g:W8) (m q:Nat) (e:Z1):Prop:=eW g.decls g.funcs.length m e/\e.sz<=q
theorem SE.ge {g:W8} {q q' m:Nat} {e:Z1} (h:SE g q e) (hq:q<=q'):GE g m q' e:=⟨h.1 m,V9 h.2 hq⟩
theorem GE.le {g:W8} {m q q':Nat} {e:Z1} (h:GE g m q e) (hq:q<=q'):GE g m q' e:=⟨h.1,V9 h.2 hq⟩
theorem Gt {m:Nat}:∀{xs:List Z1},(∀e∈xs,e.sz<=m)->XD xs<=xs.length*m
 | [],_=>Q9 _
 | x::r,h=>by
  have h1:=h x (Xo ..)
  have h2:=Gt (xs:=r) fun e he=>h e (Xz _ he)
  rw [XD,YA,QS];omega
theorem XG {α:Type} {p:α->Prop} {xs:List α} {a:α} (h:∀x∈xs,p x) (ha:p a):∀x∈xs++[a],p x:=fun x hx=>(Xf.1 hx).elim (h x) fun q=>by rw [XF.1 q];exact ha
theorem SE.int {g:W8} {z:Int} {q:Nat} (hz:-2000<=z/\z<=2000) (hq:1<=q):SE g q (.mk 0 z []):=⟨fun _=>Z5q hz,by simpa [Z1.sz,XD] using hq⟩
theorem SE.node {g:W8} {op num:Int} {ys:List Z1} {q k:Nat} (ho:op=6∨op=10) (hn:0<=num/\num<=2000) (hy:∀e∈ys,SE g 1 e) (hl:ys.length<=k) (hk:k<=3) (hq:1+k<=q):SE g q (.mk op num ys):=by
 refine ⟨fun m=>CE om (fun h=>by omega) om om fun e he=>(hy e he).1 m,?_⟩
 have:=Gt (xs:=ys) (m:=1) fun e he=>(hy e he).2
 rw [Z1.sz];omega
def Bt (ds:List Zd) (t c:Int):Prop:=(0<=c/\c<=9)/\(ZP ds c).length<=3*rk t/\∀u∈ZP ds c,Ja u
instance (ds:List Zd) (t c:Int):Decidable (Bt ds t c):=inferInstanceAs (Decidable (_/\_/\_))
theorem SV {ds:List Zd} (h:GD ds):∀t∈[(1:Int),2,3,4],∀c∈Y0 ds t,(t∈ZP ds c->∀c0,(Y0 ds t)[0]? = some c0->Bt ds t c0)/\(¬t∈ZP ds c->Bt ds t c):=by
 intro t ht c hc
 have k1:=(by decide:∀ds∈B1,∀t∈[(1:Int),2,3,4],∀c∈Y0 ds t,(t∈ZP ds c->Bt ds t (gI (Y0 ds t) 0))/\(¬t∈ZP ds c->Bt ds t c)) ds h t ht c hc
 refine ⟨fun q c0 h0=>?_,k1.2⟩
 have:=k1.1 q
 rwa [Ti (i:=0) h0] at this
theorem NW {ds:List Zd} (h:GD ds) {t c:Int} (hc:c∈Y0 ds t):t∈[(1:Int),2,3,4]:=by
 obtain ⟨_,h2,_⟩:=h.cons_cases hc
 rcases h2 with rfl|rfl|rfl<;>simp
theorem Zev {ds:List Zd} (h:GD ds) {t c c0:Int} (hc:c∈Y0 ds t) (ht:t∈ZP ds c) (h0:(Y0 ds t)[0]? = some c0):Bt ds t c0:=(SV h t (NW h hc) c hc).1 ht c0 h0
theorem Zeu {ds:List Zd} (h:GD ds) {t c:Int} (hc:c∈Y0 ds t) (ht:¬t∈ZP ds c):Bt ds t c:=(SV h t (NW h hc) c hc).2 ht
theorem Zds {ds:List Zd} (h:GD ds) {t:Int} (h0:(Y0 ds t).length=0) (ht:0<t):rk t=1:=by
 rw [rk,Zb]
 rintro (q|q|q)
 ·omega
 ·rw [q,h.low.2.1] at h0;cases h0
 ·rw [q,h.low.2.2.2.1] at h0;cases h0
def AC (g:W8) (t i:Int):Prop:=0<=i/\∃f,g.funcs[i.toNat]? = some f/\0<f.params.length/\A1 g.decls (gI f.params ((f.params.length:Int)-1)) f.result=t
theorem AC.lt {g:W8} {t i:Int} (h:AC g t i):0<=i/\i<g.funcs.length:=by
 obtain ⟨h1,f,h2,_⟩:=h
 have:=(Xc.1 h2).1
 omega
theorem AC.mk {g:W8} {t x2:Int} {k:Nat} {f:Func} (hf:g.funcs[k]? = some f) (hl:0<f.params.length) (hx:f.params[f.params.length-1]? = some x2) (ha:A1 g.decls x2 f.result=t):AC g t (k:Int):=by
 refine ⟨by omega,f,by simpa using hf,hl,?_⟩
 rw [Ti (i:=(f.params.length:Int)-1) (by rw [show ((f.params.length:Int)-1).toNat=f.params.length-1 by omega];exact hx)]
 exact ha
theorem AC.low {g:W8} {t i u:Int} {f:Func} {j:Nat} (hg:GP g) (h:AC g t i) (ht:0<t) (hf:g.funcs[i.toNat]? = some f) (hj:j+1<f.params.length) (hu:f.params[j]? = some u):rk u=0:=by
 obtain ⟨_,f',h2,_,h4⟩:=h
 have e:f'=f:=Cf (h2.symm.trans hf)
 subst e
 have h5:=(hg.sigs f' (Y7 hf)).clo hg.decls (by rw [h4];exact ht)
 refine Sn (h5 u ?_)
 rw [List.dropLast_eq_take]
 exact Y7 (i:=j) (by rw [List.getElem?_take_of_lt om];exact hu)
end Go.Abs
section
namespace Go.Abs
theorem A4 (b:Nat):bS b=max 4 (10*b-10):=rfl
theorem A3 (b:Nat):bC b=max 40 (100*b-100):=rfl
theorem F9 {L q b:Nat} (hL:L<=3) (hb:3<=b) (hq:L*q<=b-1):1+L*bS q<=bS b:=by
 rw [A4,A4]
 have:L=0∨L=1∨L=2∨L=3:=by omega
 rcases this with rfl|rfl|rfl|rfl<;>omega
theorem Zbs {L q b:Nat} (hL:L<=3) (hb:3<=b) (hq:L*q<=b-2):5+L*bS q<=bS b:=by
 rw [A4,A4]
 have:L=0∨L=1∨L=2∨L=3:=by omega
 rcases this with rfl|rfl|rfl|rfl<;>omega
theorem Zbo {b:Nat} (hb:3<=b):1+(bS (b / 2)+bS (b / 2))<=bS b:=by rw [A4,A4];omega
theorem Z2z {b:Nat} (hb:3<=b):5+bS (b-2)<=bS b:=by rw [A4,A4];omega
theorem Ba {L q b:Nat} (hL:L<=3) (hb:3<=b) (hq:L*q<=b-1):10+L*bC q<=bC b:=by
 rw [A3,A3]
 have:L=0∨L=1∨L=2∨L=3:=by omega
 rcases this with rfl|rfl|rfl|rfl<;>omega
theorem Zbr {L q b:Nat} (hL:L<=3) (hb:3<=b) (hq:L*q<=b-2):40+L*bC q<=bC b:=by
 rw [A3,A3]
 have:L=0∨L=1∨L=2∨L=3:=by omega
 rcases this with rfl|rfl|rfl|rfl<;>omega
theorem Zbn {b:Nat} (hb:3<=b):10+(bC (b / 2)+bC (b / 2))<=bC b:=by rw [A3,A3];omega
theorem Z2y {b:Nat} (hb:3<=b):40+bC (b-2)<=bC b:=by rw [A3,A3];omega
theorem NC (b:Nat):4<=bS b:=by rw [A4];omega
theorem NB (b:Nat):40<=bC b:=by rw [A3];omega
theorem Qb (L b:Nat):L*(b / L)<=b:=Nat.mul_div_le b L
theorem Rl {k L C:Nat} (h:k<L):(k+1)*C=k*C+C/\(k+1)*C<=L*C:=⟨by rw [QS,Nat.one_mul],Jn C h⟩
theorem Eb {ds:List Zd} {d x:Int} {m k:Nat} (h:(Y0 ds d)[k]? = some x):Q2 ds 8 d m (1+k)=m+(ZP ds x).length:=by
 rw [Q2,Zb om,Zk rfl,Zb om,Ti (i:=((1+k:Nat):Int)-1) (by rw [show (((1+k:Nat):Int)-1).toNat=k by omega];exact h)]
section
variable {g:W8} {m:Nat}
theorem GE.var {z:Int} {q:Nat} (hz:0<=z/\z<m) (hm:m<=2000) (hq:1<=q):GE g m q (.mk 12 z []):=⟨Z5r hz hm,by simpa [Z1.sz,XD] using hq⟩
theorem GE.list {ys:List Z1} {L s:Nat} (h:∀e∈ys,GE g m s e) (hl:ys.length=L):XD ys<=L*s:=by rw [<-hl];exact Gt fun e he=>(h e he).2
theorem GE.node {op num:Int} {ys:List Z1} {L s q:Nat} (ho:0<=op/\op<=11/\op≠7/\op≠8) (hc:op=9->0<=num/\num<g.funcs.length) (hn:-2000<=num/\num<=2000) (h:∀e∈ys,GE g m s e) (hl:ys.length=L) (hL:L<=3) (hq:1+L*s<=q):GE g m q (.mk op num ys):=by
 have:=GE.list h hl
 exact ⟨CE ho hc hn om fun e he=>(h e he).1,by rw [Z1.sz];omega⟩
theorem GE.if_ {num:Int} {ys:List Z1} {s q:Nat} (hn:-2000<=num/\num<=2000) (h:∀e∈ys,GE g m s e) (hl:ys.length=3) (hq:1+3*s<=q):GE g m q (.mk 7 num ys):=by
 have:=GE.list h hl
 exact ⟨Oe hn hl fun e he=>(h e he).1,by rw [Z1.sz];omega⟩
theorem GE.let_ {a b:Z1} {s q:Nat} (ha:GE g m s a) (hb:GE g (m+1) s b) (hq:1+(s+s)<=q):GE g m q (.mk 13 0 [a,b]):=by
 refine ⟨Of om ha.1 hb.1,?_⟩
 have h1:=ha.2
 have h2:=hb.2
 simp only [Z1.sz,XD];omega
theorem GE.two {op num:Int} {a b:Z1} {s1 s2 q:Nat} (ho:0<=op/\op<=11/\op≠7/\op≠8/\op≠9) (hn:-2000<=num/\num<=2000) (ha:GE g m s1 a) (hb:GE g m s2 b) (hq:1+(s1+s2)<=q):GE g m q (.mk op num [a,b]):=by
 refine ⟨CE om (fun h=>by omega) hn (by simp) fun e he=>?_,?_⟩
 ·rcases YM.1 he with rfl|he
  ·exact ha.1
  ·rw [XF.1 he];exact hb.1
 ·have h1:=ha.2
  have h2:=hb.2
  simp only [Z1.sz,XD];omega
theorem GE.match_ {d:Int} {e:Z1} {ys:List Z1} {L s q:Nat} (hd:-2000<=d/\d<=2000) (he:GE g m 4 e) (hw:K0 g.decls g.funcs.length (Q2 g.decls 8 d m) 1 ys) (hs:∀e∈ys,e.sz<=s) (hl:ys.length=L) (hL:L=(Y0 g.decls d).length) (h3:L<=3) (hq:5+L*s<=q):GE g m q (.mk 8 d (e::ys)):=by
 refine ⟨Lb hd om om he.1 hw,?_⟩
 have h1:=Gt hs
 rw [hl] at h1
 have h2:=he.2
 rw [Z1.sz,XD];omega
end
def NL (s:Nat) (left w:Int):Prop:=((s:Int)<=left/\w=left-s)∨(left<s/\w=-1)
end Go.Abs
namespace Go.Abs
theorem CY {L b p pp M:Nat} (hL:L<=3) (hb:3<=b) (h:pp<=p+8) (hp:p+(bC b-1)<=M):pp+L*bC ((b-1) / L)<=M:=by
 have:=Ba hL hb (Qb L (b-1))
 omega
end Go.Abs
end
namespace Go.Abs
theorem Z5z (a b:Z1):XD [a,b]=a.sz+b.sz:=by simp only [XD];omega
theorem Gs (a b c:Z1):XD [a,b,c]=a.sz+b.sz+c.sz:=by simp only [XD];omega
theorem Ex:bS 3=20/\bS 4=30/\bS 12=110/\bS 16=150/\bS 18=170/\bC 3=200/\bC 4=300/\bC 16=1500:=by decide
theorem G7 {b:Nat} (h:b<=20):bS b<=190/\bC b<=1900/\(b<=2->bS b<=10):=by rw [A4,A3];omega
section
variable {g:W8} {m:Nat}
theorem SE.ofs {op num:Int} {ys:List Z1} {q:Nat} (ho:0<=op/\op<=11/\op≠7/\op≠8/\op≠9) (hn:-2000<=num/\num<=2000) (hl:ys.length<=4) (hy:∀e∈ys,∃s,SE g s e) (hq:1+XD ys<=q):SE g q (.mk op num ys):=
 ⟨fun m=>CE om (fun h=>by omega) hn hl fun e he=>let ⟨_,h⟩:=hy e he;h.1 m,by rw [Z1.sz];exact hq⟩
theorem SE.nil {op num:Int} {q:Nat} (ho:0<=op/\op<=11/\op≠7/\op≠8/\op≠9) (hn:-2000<=num/\num<=2000) (hq:1<=q):SE g q (.mk op num []):=
 SE.ofs ho hn (by simp) (fun e he=>by cases he) (by simpa [XD] using hq)
theorem SE.two {op num:Int} {a b:Z1} {s1 s2 q:Nat} (ho:0<=op/\op<=11/\op≠7/\op≠8/\op≠9) (hn:-2000<=num/\num<=2000) (ha:SE g s1 a) (hb:SE g s2 b) (hq:1+(s1+s2)<=q):SE g q (.mk op num [a,b]):=by
 refine SE.ofs ho hn (by simp) (fun e he=>?_) ?_
 ·rcases YM.1 he with rfl|he
  ·exact ⟨_,ha⟩
  ·rw [XF.1 he];exact ⟨_,hb⟩
 ·have h1:=ha.2
  have h2:=hb.2
  rw [Z5z];omega
theorem SE.three {op num:Int} {a b c:Z1} {s1 s2 s3 q:Nat} (ho:0<=op/\op<=11/\op≠7/\op≠8/\op≠9) (hn:-2000<=num/\num<=2000) (ha:SE g s1 a) (hb:SE g s2 b) (hc:SE g s3 c) (hq:1+(s1+s2+s3)<=q):SE g q (.mk op num [a,b,c]):=by
 refine SE.ofs ho hn (by simp) (fun e he=>?_) ?_
 ·rcases YM.1 he with rfl|he
  ·exact ⟨_,ha⟩
  ·rcases YM.1 he with rfl|he
   ·exact ⟨_,hb⟩
   ·rw [XF.1 he];exact ⟨_,hc⟩
 ·have h1:=ha.2
  have h2:=hb.2
  have h3:=hc.2
  rw [Gs];omega
theorem GE.int {z:Int} {q:Nat} (hz:-2000<=z/\z<=2000) (hq:1<=q):GE g m q (.mk 0 z []):=(SE.int (g:=g) (q:=q) hz hq).ge (X9 _)
theorem GE.three {op num:Int} {a b c:Z1} {s1 s2 s3 q:Nat} (ho:0<=op/\op<=11/\op≠8/\op≠9) (hn:-2000<=num/\num<=2000) (ha:GE g m s1 a) (hb:GE g m s2 b) (hc:GE g m s3 c) (hq:1+(s1+s2+s3)<=q):GE g m q (.mk op num [a,b,c]):=by
 have hk:∀e∈[a,b,c],eW g.decls g.funcs.length m e:=fun e he=>by
  rcases YM.1 he with rfl|he
  ·exact ha.1
  ·rcases YM.1 he with rfl|he
   ·exact hb.1
   ·rw [XF.1 he];exact hc.1
 refine ⟨?_,?_⟩
 ·by_cases h7:op=7
  ·subst h7;exact Oe hn rfl hk
  ·exact CE om (fun h=>by omega) hn (by simp) hk
 ·have h1:=ha.2
  have h2:=hb.2
  have h3:=hc.2
  rw [Z1.sz,Gs];omega
theorem GE.one {op num:Int} {a:Z1} {s1 q:Nat} (ho:0<=op/\op<=11/\op≠7/\op≠8/\op≠9) (hn:-2000<=num/\num<=2000) (ha:GE g m s1 a) (hq:1+s1<=q):GE g m q (.mk op num [a]):=by
 refine ⟨CE om (fun h=>by omega) hn (by simp) fun e he=>?_,?_⟩
 ·rw [XF.1 he];exact ha.1
 ·have h1:=ha.2
  simp only [Z1.sz,XD];omega
theorem GE.letS {a b:Z1} {s1 s2 q:Nat} (ha:GE g m s1 a) (hb:GE g (m+1) s2 b) (hq:1+(s1+s2)<=q):GE g m q (.mk 13 0 [a,b]):=by
 refine ⟨Of om ha.1 hb.1,?_⟩
 have h1:=ha.2
 have h2:=hb.2
 simp only [Z1.sz,XD];omega
theorem GE.matchL (hg:GP g) {e a b:Z1} {s1 s2 s3 q:Nat} (he:GE g m s1 e) (ha:GE g m s2 a) (hb:GE g (m+2) s3 b) (hq:1+(s1+s2+s3)<=q):GE g m q (.mk 8 1 [e,a,b]):=by
 have hl:=hg.decls.low
 refine ⟨Lb om (by simp) (by rw [hl.2.1];rfl) he.1 ⟨?_,?_,True.intro⟩,?_⟩
 ·rw [Eb (k:=0) (x:=0) (by rw [hl.2.1];rfl),hl.2.2.2.2.1];exact ha.1
 ·rw [Eb (k:=1) (x:=1) (by rw [hl.2.1];rfl),hl.2.2.2.2.2.1];exact hb.1
 ·have h1:=he.2
  have h2:=ha.2
  have h3:=hb.2
  rw [Z1.sz,Gs];omega
theorem GE.matchT (hg:GP g) {e a b:Z1} {s1 s2 s3 q:Nat} (he:GE g m s1 e) (ha:GE g m s2 a) (hb:GE g (m+3) s3 b) (hq:1+(s1+s2+s3)<=q):GE g m q (.mk 8 3 [e,a,b]):=by
 have hl:=hg.decls.low
 refine ⟨Lb om (by simp) (by rw [hl.2.2.2.1];rfl) he.1 ⟨?_,?_,True.intro⟩,?_⟩
 ·rw [Eb (k:=0) (x:=2) (by rw [hl.2.2.2.1];rfl),hl.2.2.2.2.2.2.1];exact ha.1
 ·rw [Eb (k:=1) (x:=3) (by rw [hl.2.2.2.1];rfl),hl.2.2.2.2.2.2.2];exact hb.1
 ·have h1:=he.2
  have h2:=ha.2
  have h3:=hb.2
  rw [Z1.sz,Gs];omega
theorem Iu {α:Type} {p:α->Prop} {a:α} (h:p a):∀x∈[a],p x:=fun x hx=>by rw [XF.1 hx];exact h
end
structure Ij (g:W8):Prop where
 gp:GP g
 body:∀f∈g.funcs,eW g.decls g.funcs.length f.params.length f.body/\f.body.sz<=30
structure GL (ds:List Zd) (k j:Nat) (rq:List Func):Prop where
 len:rq.length=4
 sigs:∀f∈rq,Tt f
 zero:∀f,rq[0]? = some f->f.params.length=0
 body:∀i f,j<=i->i<k->rq[i]? = some f->eW ds k f.params.length f.body/\f.body.sz<=30
theorem GL.gp {ds:List Zd} {k j:Nat} {rq:List Func} (h:GL ds k j rq) (hd:GD ds) (hk:1<=k/\k<=4):GP ⟨ds,rq.take k⟩:=
 ⟨hd,by show 1<=(rq.take k).length/\_;rw [XW,h.len];omega,fun f hf=>h.sigs f (QR hf)⟩
theorem GL.len_take {ds:List Zd} {k j:Nat} {rq:List Func} (h:GL ds k j rq) (hk:k<=4):(rq.take k).length=k:=by rw [XW,h.len];omega
theorem GL.set {ds:List Zd} {k j:Nat} {rq:List Func} {f:Func} {e:Z1} (h:GL ds k j rq) (hj:1<=j) (hf:rq[j-1]? = some f) (he:eW ds k f.params.length e/\e.sz<=30):GL ds k (j-1) (rq.set (j-1) ⟨f.params,f.result,e⟩):=by
 have hl:=(Xc.1 hf).1
 refine ⟨by rw [VG];exact h.len,fun x hx=>?_,fun x hx=>?_,fun i x h1 h2 hx=>?_⟩
 ·rcases List.mem_or_eq_of_mem_set hx with hx|rfl
  ·exact h.sigs x hx
  ·exact h.sigs f (Y7 hf)
 ·rw [List.getElem?_set] at hx
  split at hx
  ·rename_i h0
   cases hx
   exact h.zero f (by rw [<-h0];exact hf)
  ·exact h.zero x hx
 ·rw [List.getElem?_set] at hx
  split at hx
  ·cases hx
   exact he
  ·exact h.body i x om h2 hx
theorem GL.done {ds:List Zd} {k:Nat} {rq:List Func} (h:GL ds k 0 rq) (hd:GD ds) (hk:1<=k/\k<=4):Ij ⟨ds,rq.take k⟩:=by
 refine ⟨h.gp hd hk,fun f hf=>?_⟩
 show eW ds (rq.take k).length _ _/\_
 rw [h.len_take hk.2]
 obtain ⟨i,hi⟩:=List.getElem?_of_mem hf
 have hi2:i<(rq.take k).length:=(Xc.1 hi).1
 rw [h.len_take hk.2] at hi2
 rw [List.getElem?_take_of_lt hi2] at hi
 exact h.body i f om hi2 hi
theorem MG {l:List Func} {f:Func} {k:Nat} (h:l[k]? = some f) (hl:l.all (fun f=>decide ((f.params,f.result)∈JZ))=true):Tt f:=show (f.params,f.result)∈JZ from of_decide_eq_true (Ay.1 hl f (Y7 h))
theorem GL.start {ds:List Zd} {k:Nat} {e:Z1} {a b c:Func} (ha:Tt a) (hb:Tt b) (hc:Tt c):GL ds k k [⟨[],0,e⟩,a,b,c]:=by
 refine ⟨rfl,fun f hf=>?_,fun f hf=>?_,fun i f h1 h2=>by omega⟩
 ·rcases YM.1 hf with rfl|hf
  ·exact List.Mem.head _
  ·rcases YM.1 hf with rfl|hf
   ·exact ha
   ·rcases YM.1 hf with rfl|hf
    ·exact hb
    ·rw [XF.1 hf];exact hc
 ·cases hf;rfl
theorem Zcd {l:LI} {k:Nat} {a b:Nat} (h:(k:Int)∈l) (hl:l.all (fun x=>decide ((a:Int)<=x/\x<=b))=true):a<=k/\k<=b:=by
 have:=of_decide_eq_true (Ay.1 hl _ h)
 omega
mutual
def Kd (p:Int->Prop):Z5->Prop
 | .mk op _ _ _ kids=>p op/\Kc p kids
def Kc (p:Int->Prop):List Z8->Prop
 | []=>True
 | b::r=>Vy p b/\Kc p r
def TZ (p:Int->Prop):List Z5->Prop
 | []=>True
 | s::r=>Kd p s/\TZ p r
def Vy (p:Int->Prop):Z8->Prop
 | .mk steps _=>TZ p steps
end
section
variable {p q:Int->Prop}
theorem Ff (s:Z5):Kd p s↔p s.op/\Kc p s.kids:=by cases s;rw [Kd];rfl
theorem Hs (b:Z8):Vy p b↔TZ p b.steps:=by cases b;rw [Vy];rfl
theorem E0:∀{xs:List Z8},Kc p xs↔∀b∈xs,Vy p b
 | []=>by simp [Kc]
 | b::r=>by rw [Kc,E0];simp
theorem D3:∀{xs:List Z5},TZ p xs↔∀b∈xs,Kd p b
 | []=>by simp [TZ]
 | b::r=>by rw [TZ,D3];simp
theorem Ht {xs ys:List Z5}:TZ p (xs++ys)↔TZ p xs/\TZ p ys:=by simp only [D3,Xf];exact ⟨fun h=>⟨fun b hb=>h b (.inl hb),fun b hb=>h b (.inr hb)⟩,fun h b hb=>hb.elim (h.1 b) (h.2 b)⟩
theorem Rw {xs:List Z8} {b:Z8} (h:Kc p xs) (hb:Vy p b):Kc p (xs++[b]):=E0.2 (XG (E0.1 h) hb)
theorem Hu {xs:List Z5} {b:Z5} (h:TZ p xs) (hb:Kd p b):TZ p (xs++[b]):=D3.2 (XG (D3.1 h) hb)
end
def WQ (op:Int):Prop:=op<=11
def VI (op:Int):Prop:=op<=15
end Go.Abs
section
namespace Go.Abs
structure LW (ds:List Zd) (nf q:Nat) (e:Z1) (ys:List Z5) (v:Int):Prop where
 fs:Wb ds nf q ys
 v:0<=v/\v<(q+Yu ys:Nat)
 sz:Yw ys<=6*e.sz
 op:TZ WQ ys
theorem LW.dn {ds:List Zd} {nf q:Nat} {e:Z1} {ys:List Z5} {v:Int} (h:LW ds nf q e ys v):Yu ys<=6*e.sz/\ys.length<=6*e.sz:=by
 have h1:=AQ ys
 have h2:=Jh ys
 have h3:=h.sz
 omega
structure LB (ds:List Zd) (nf q:Nat) (e:Z1) (b:Z8):Prop where
 fb:fB ds nf q b
 sz:b.sz<=1+6*e.sz
 op:Vy WQ b
section
variable {ds:List Zd} {nf q:Nat}
theorem G9:∀xs ys:List Z8,YV (xs++ys)=YV xs+YV ys
 | [],ys=>by simp [YV]
 | x::r,ys=>by rw [KQ,YV,YV,G9 r];omega
theorem LW.block {e:Z1} {ys:List Z5} {v:Int} (h:LW ds nf q e ys v):LB ds nf q e ⟨ys,v⟩:=
 ⟨by rw [fB];exact ⟨h.fs,h.v⟩,by rw [Z8.sz];have:=h.sz;omega,by rw [Vy];exact h.op⟩
theorem LW.var {e:Z1} {v:Int} (hv:0<=v/\v<q):LW ds nf q e [] v:=⟨True.intro,by simpa [Yu] using hv,by simp [Yw],True.intro⟩
theorem LW.let_ {e a b:Z1} {ys zs:List Z5} {v1 v2:Int} (ha:LW ds nf q a ys v1) (hb:LW ds nf (q+Yu ys) b zs v2) (he:a.sz+b.sz<e.sz):LW ds nf q e (ys++zs) v2:=by
 refine ⟨Aj.2 ⟨ha.fs,hb.fs⟩,by rw [Ta,<-JU];exact hb.v,?_,Ht.2 ⟨ha.op,hb.op⟩⟩
 have h1:=ha.sz
 have h2:=hb.sz
 rw [Q4];omega
theorem EA {ys:List Z5} {s:Z5} (h:YO s.op=false):Yu (ys++[s])=Yu ys+1:=by
 rw [Ta]
 simp [Yu,h]
theorem LW.node {e:Z1} {ys:List Z5} {as1:LI} (ho:0<=e.op/\e.op<=11/\e.op≠7/\e.op≠8) (hc:e.op=9->0<=e.num/\e.num<nf) (hn:-2000<=e.num/\e.num<=2000) (hf:Wb ds nf q ys) (ha:∀a∈as1,0<=a/\a<(q+Yu ys:Nat)) (hl:as1.length<=4) (hs:Yw ys<=6*XD e.kids) (hop:TZ WQ ys) :
  LW ds nf q e (ys++[⟨e.op,e.num,0,as1,[]⟩]) ((q+Yu ys:Nat):Int):=by
 have hcb:YO e.op=false:=by simp [YO];omega
 refine ⟨Gv hf ?_,?_,?_,Hu hop (by rw [Kd];exact ⟨by show e.op<=11;omega,True.intro⟩)⟩
 ·rw [fS]
  exact ⟨.inl ⟨by omega,by omega⟩,ha,fun h=>by omega,fun h=>by omega,fun h=>by omega,fun h=>by omega,hc,hn,by omega,hl,fun _=>rfl,True.intro⟩
 ·rw [EA (show YO (Z5.mk e.op e.num 0 as1 []).op=false from hcb)];omega
 ·rw [Q4,e.sz_eq]
  simp only [Yw,Z5.sz,YV]
  omega
theorem LW.branch {e:Z1} {ys:List Z5} {v:Int} {bs:List Z8} {s0 sr:Nat} (ho:e.op=7∨e.op=8) (h7:e.op=7->bs.length=2) (h8:e.op=8->bs.length=(Y0 ds e.num).length) (hn:-2000<=e.num/\e.num<=2000) (hf:Wb ds nf q ys) (hv:0<=v/\v<(q+Yu ys:Nat))
  (hb:Ud ds nf (V1 ds e.op e.num (q+Yu ys)) 0 bs) (hl:bs.length<=3) (h0:Yw ys<=6*s0) (h1:YV bs<=bs.length+6*sr) (hs:s0+sr<=XD e.kids) (hop:TZ WQ ys) (hob:Kc WQ bs):LW ds nf q e (ys++[⟨e.op,e.num,0,[v],bs⟩]) ((q+Yu ys:Nat):Int):=by
 have hcb:YO e.op=false:=by simp [YO];omega
 refine ⟨Gv hf ?_,?_,?_,Hu hop (by rw [Kd];exact ⟨by show e.op<=11;omega,hob⟩)⟩
 ·rw [fS]
  exact ⟨.inl ⟨by omega,by omega⟩,fun a ha=>by rw [XF.1 ha];exact hv,fun h=>by omega,h7,h8,fun _=>⟨v,rfl⟩,fun h=>by omega,hn,by omega,by simp,fun h=>by omega,hb⟩
 ·rw [EA (show YO (Z5.mk e.op e.num 0 [v] bs).op=false from hcb)];omega
 ·rw [Q4,e.sz_eq]
  simp only [Yw,Z5.sz,YA,X6]
  omega
theorem SS {ds:List Zd} {op num:Int} {m k:Nat} (h:op=13):Q2 ds op num m k=m+k:=Zk h
theorem Zes {ds:List Zd} {op num:Int} {m:Nat} (h:op≠13):Q2 ds op num m 0=m:=by simp [Q2,h]
theorem SU {ds:List Zd} {op num:Int} {m k:Nat} (h:op≠13/\op≠8):Q2 ds op num m k=m:=by simp [Q2,h.1,h.2]
theorem Zet {ds:List Zd} {op num x:Int} {m k j:Nat} (h:op=8) (hk:k=j+1) (hx:(Y0 ds num)[j]? = some x):Q2 ds op num m k=m+(ZP ds x).length:=by
 subst h;subst hk;rw [Nat.add_comm j 1];exact Eb hx
theorem MD {ds:List Zd} {op num x:Int} {m j:Nat} (h:op=8) (hx:(Y0 ds num)[j]? = some x):V1 ds op num m j=m+(ZP ds x).length:=by
 rw [V1,Zk h,Ti (i:=(j:Int)) (by simpa using hx)]
theorem ME {ds:List Zd} {op num:Int} {m j:Nat} (h:op≠8):V1 ds op num m j=m:=Zb h
theorem BD {xs:List Z1} {k:Nat} {e:Z1} (h:xs[k]? = some e):XD (xs.take (k+1))=XD (xs.take k)+e.sz:=by rw [V2 h,EE,XD,XD];rfl
theorem AW {xs:List Z1} (k:Nat):XD (xs.take k)<=XD xs:=by
 have h:=Yq XD (TI k xs)
 rw [EE] at h;omega
theorem Ol {xs:List Z1} {a b:Z1} (ha:xs[0]? = some a) (hb:xs[1]? = some b):a.sz+b.sz<=XD xs:=by
 have h1:XD (xs.take 1)=XD (xs.take 0)+a.sz:=BD ha
 have h2:XD (xs.take 2)=XD (xs.take 1)+b.sz:=BD hb
 have h3:=AW (xs:=xs) 2
 omega
theorem FK {us:LI} {v:Int} {d:Nat} (hu:∀a∈us,0<=a/\a<(q:Int)) (hv:0<=v/\v<(q+d:Nat)):∀a∈us++[v],0<=a/\a<((q+d:Nat):Int):=
 XG (fun a ha=>by have:=hu a ha;omega) hv
theorem I8 {us:LI} {d:Nat} (hu:∀a∈us,0<=a/\a<(q:Int)):∀a∈us,0<=a/\a<((q+d:Nat):Int):=fun a ha=>by have:=hu a ha;omega
theorem Zhs {us ns:LI} {d mf:Nat} (hu:∀a∈us,0<=a/\a<(q:Int)) (hn:∀i∈ns,((q+d:Nat):Int)<=i/\i<((q+d:Nat):Int)+mf):∀a∈us++ns,0<=a/\a<((q+d+mf:Nat):Int):=fun a ha=>by
 rcases Xf.1 ha with h|h
 ·have:=hu a h;omega
 ·have:=hn a h;omega
theorem Ga:∀bs:List Z8,bs.length<=YV bs
 | []=>X9 _
 | b::r=>by have:=Ga r;have:=b.sz_pos;rw [YV,YA];omega
end
end Go.Abs
namespace Go.Abs
structure RF (ds:List Zd) (nf q:Nat) (p:Int->Prop) (r:YF):Prop where
 sig:(r.params,r.result)∈JZ
 lent:r.lent.length<=3/\∀i∈r.lent,0<=i/\i<r.params.length
 body:fB ds nf r.params.length r.body/\r.body.sz<=q
 op:Vy p r.body
structure FO (n:ZF) (q:Nat) (p:Int->Prop):Prop where
 fn:FN n q
 op:∀r∈n.routines,Vy p r.body
theorem FO.rf {n:ZF} {q:Nat} {p:Int->Prop} (h:FO n q p) {r:YF} (hr:r∈n.routines):RF n.decls n.routines.length q p r:=⟨h.fn.sigs r hr,h.fn.lent r hr,h.fn.body r hr,h.op r hr⟩
theorem FO.all {n:ZF} {q:Nat} {p:Int->Prop} (hd:GD n.decls) (hl:1<=n.routines.length/\n.routines.length<=4) (h:∀r∈n.routines,RF n.decls n.routines.length q p r):FO n q p:=
 ⟨⟨hd,hl,fun r hr=>(h r hr).sig,fun r hr=>(h r hr).lent,fun r hr=>(h r hr).body⟩,fun r hr=>(h r hr).op⟩
structure RN (ds:List Zd) (nf:Nat) (r:YF):Prop where
 sig:(r.params,r.result)∈JZ
 lent:r.lent=[]
 body:fB ds nf r.params.length r.body/\r.body.sz<=181
 op:Vy WQ r.body
theorem RN.all {n:ZF} {q:Nat} (hd:GD n.decls) (hl:1<=n.routines.length/\n.routines.length<=4) (h:∀r∈n.routines,RN n.decls n.routines.length r) (hq:181<=q):FO n q WQ:=
 FO.all hd hl fun r hr=>⟨(h r hr).sig,by rw [(h r hr).lent];exact ⟨by simp,fun i hi=>by cases hi⟩,⟨(h r hr).body.1,V9 (h r hr).body.2 hq⟩,(h r hr).op⟩
end Go.Abs
namespace Go.Abs
theorem RN.of {ds:List Zd} {nf:Nat} {ps:LI} {rt:Int} {b:Z8} {e:Z1} (hs:(ps,rt)∈JZ) (h:LB ds nf ps.length e b) (he:e.sz<=30):RN ds nf ⟨ps,[],rt,Z8.mk b.steps b.result⟩:=by
 have e1:Z8.mk b.steps b.result=b:=by cases b;rfl
 rw [e1]
 exact ⟨hs,rfl,⟨h.fb,by have:=h.sz;show b.sz<=181;omega⟩,h.op⟩
end Go.Abs
end
namespace Go.Abs
theorem MQ:∀{xs:List Z5} {s:Z5},s∈xs->s.sz<=Yw xs
 | [],s,h=>by cases h
 | x::r,s,h=>by
  rw [Yw]
  rcases YM.1 h with rfl|h
  ·omega
  ·have:=MQ h;omega
theorem IA:∀{xs:List Z8} {b:Z8},b∈xs->b.sz<=YV xs
 | [],b,h=>by cases h
 | x::r,b,h=>by
  rw [YV]
  rcases YM.1 h with rfl|h
  ·omega
  ·have:=IA h;omega
structure LC (n:ZF) (k:Nat) (xs:List LI):Prop where
 len:xs.length=k
 ok:∀(i:Nat) (l:LI),xs[i]? = some l->l.length<=3/\∀r,n.routines[i]? = some r->∀v∈l,0<=v/\v<(r.params.length:Int)
theorem LC.nil {n:ZF}:LC n 0 []:=⟨rfl,fun i l h=>by simp at h⟩
theorem LC.snoc {n:ZF} {k:Nat} {xs:List LI} {l:LI} (h:LC n k xs) (hl:l.length<=3) (hv:∀r,n.routines[k]? = some r->∀v∈l,0<=v/\v<(r.params.length:Int)):LC n (k+1) (xs++[l]):=by
 refine ⟨by rw [Yr,h.len];rfl,fun i l' hi=>?_⟩
 by_cases hk:i<xs.length
 ·rw [Az hk] at hi
  exact h.ok i l' hi
 ·rw [Cc om] at hi
  have h0:i-xs.length=0:=by
   cases e:i-xs.length with
   | zero=>rfl
   | succ q=>rw [e] at hi;simp at hi
  rw [h0] at hi
  cases hi
  have e:i=k:=by have:=h.len;omega
  subst e
  exact ⟨hl,hv⟩
def Um:LI->Int->LI
 | [],y=>[y]
 | x::r,y=>if x>y then y::x::r else if x=y then x::r else x::Um r y
def Qm (d:Bool) (xs:LI) (y:Int):LI:=if d=true then xs else Um xs y
theorem H4 {xs:LI} {y:Int}:Qm true xs y=xs:=rfl
theorem H3 {xs:LI} {y:Int}:Qm false xs y=Um xs y:=rfl
theorem PH {xs acc r:LI} {y x:Int} {k:Nat} {d:Bool} (hx:xs[k]? = some x) (hd:d=true) (h:acc++Qm d (xs.drop k) y=r):(acc++[x])++Qm d (xs.drop (k+1)) y=r:=by
 subst hd
 rw [H4,Yl hx] at h
 rw [H4,<-h];simp
theorem Zal {xs acc r:LI} {y x:Int} {k:Nat} {d:Bool} (hx:xs[k]? = some x) (hd:¬d=true) (hl:¬x>=y) (h:acc++Qm d (xs.drop k) y=r):(acc++[x])++Qm d (xs.drop (k+1)) y=r:=by
 have hd:=Qu.2 hd
 subst hd
 rw [H3,Yl hx,Um,Zb om,Zb om] at h
 rw [H3,<-h];simp
theorem Zam {xs acc r:LI} {y x:Int} {k:Nat} {d:Bool} (hx:xs[k]? = some x) (hd:¬d=true) (hl:x>y) (h:acc++Qm d (xs.drop k) y=r):((acc++[y])++[x])++Qm true (xs.drop (k+1)) y=r:=by
 have hd:=Qu.2 hd
 subst hd
 rw [H3,Yl hx,Um,Zk hl] at h
 rw [H4,<-h];simp
theorem Zan {xs acc r:LI} {y x:Int} {k:Nat} {d:Bool} (hx:xs[k]? = some x) (hd:¬d=true) (hl:x=y) (h:acc++Qm d (xs.drop k) y=r):(acc++[x])++Qm true (xs.drop (k+1)) y=r:=by
 have hd:=Qu.2 hd
 subst hd
 rw [H3,Yl hx,Um,Zb om,Zk hl] at h
 rw [H4,<-h];simp
theorem Zak {xs acc acc2 r:LI} {y x:Int} {k:Nat} {d d2:Bool} (hx:xs[k]? = some x) (h:acc++Qm d (xs.drop k) y=r)
  (hc:(acc2=acc/\d2=d/\(d=true∨¬x>=y))∨(acc2=acc++[y]/\d2=true/\¬d=true/\x>y)∨(acc2=acc/\d2=true/\¬d=true/\x=y)):(acc2++[x])++Qm d2 (xs.drop (k+1)) y=r:=by
 rcases hc with ⟨rfl,rfl,h3⟩|⟨rfl,rfl,h3,h4⟩|⟨rfl,rfl,h3,h4⟩
 ·rcases h3 with h3|h3
  ·exact PH hx h3 h
  ·by_cases q:d2=true
   ·exact PH hx q h
   ·exact Zal hx q h3 h
 ·exact Zam hx h3 h4 h
 ·exact Zan hx h3 h4 h
theorem Zaj {xs acc r:LI} {y:Int} {k:Nat} {d:Bool} (hk:xs.length<=k) (h:acc++Qm d (xs.drop k) y=r):(if d=true then acc else acc++[y])=r:=by
 rw [Xr hk] at h
 by_cases q:d=true
 ·rw [Qm,Zk q,KP] at h;rw [Zk q];exact h
 ·rw [Qm,Zb q,Um] at h;rw [Zb q];exact h
theorem DN:∀(xs:LI) (y:Int),(Um xs y).length<=xs.length+1
 | [],y=>X9 _
 | x::r,y=>by
  have:=DN r y
  rw [Um]
  split
  ·simp
  ·split
   ·simp
   ·simp only [YA];omega
theorem EX:∀{xs:LI} {y z:Int},z∈Um xs y↔z∈xs∨z=y
 | [],y,z=>by simp [Um]
 | x::r,y,z=>by
  rw [Um]
  split
  ·simp only [YM];exact ⟨fun h=>h.elim .inr .inl,fun h=>h.elim .inr .inl⟩
  ·split
   ·rename_i h;subst h;simp only [YM];exact ⟨fun h=>.inl h,fun h=>h.elim id .inl⟩
   ·simp only [YM,EX (xs:=r)];exact ⟨fun h=>by rcases h with h|h|h<;>simp [h],fun h=>by rcases h with (h|h)|h<;>simp [h]⟩
def Ch (xs:LI):Prop:=xs.Pairwise (·<·)
theorem PF:∀{xs:LI} {y:Int},Ch xs->Ch (Um xs y)
 | [],y,_=>by simp [Um,Ch]
 | x::r,y,h=>by
  obtain ⟨h1,h2⟩:=WW.1 h
  rw [Um]
  split
  ·rename_i q
   refine WW.2 ⟨fun z hz=>?_,h⟩
   rcases YM.1 hz with rfl|hz
   ·omega
   ·have:=h1 z hz;omega
  ·split
   ·exact h
   ·refine WW.2 ⟨fun z hz=>?_,PF h2⟩
    rcases EX.1 hz with hz|rfl
    ·exact h1 z hz
    ·omega
def Q0:LI->Int->LI
 | [],_=>[]
 | x::r,y=>if x=y then Q0 r y else x::Q0 r y
theorem Fg:∀(xs:LI) (y:Int),(Q0 xs y).length<=xs.length
 | [],y=>X9 _
 | x::r,y=>by
  have:=Fg r y
  rw [Q0]
  split
  ·rw [YA];omega
  ·rw [YA,YA];omega
theorem E2:∀{xs:LI} {y z:Int},z∈Q0 xs y->z∈xs
 | [],y,z,h=>by rw [Q0] at h;exact h
 | x::r,y,z,h=>by
  rw [Q0] at h
  split at h
  ·exact Xz _ (E2 h)
  ·rcases YM.1 h with rfl|h
   ·exact Xo ..
   ·exact Xz _ (E2 h)
theorem Zd2 {xs acc r:LI} {y x:Int} {k:Nat} (hx:xs[k]? = some x) (h:acc++Q0 (xs.drop k) y=r):(if x≠y then acc++[x] else acc)++Q0 (xs.drop (k+1)) y=r:=by
 rw [Yl hx,Q0] at h
 by_cases q:x=y
 ·rw [Zk q] at h;rw [Zb (fun z=>z q)];exact h
 ·rw [Zb q] at h;rw [Zk q,<-h];simp
theorem Zd1 {xs acc r:LI} {y:Int} {k:Nat} (hk:xs.length<=k) (h:acc++Q0 (xs.drop k) y=r):acc=r:=by
 rw [Xr hk,Q0,KP] at h;exact h
def UW (n:Int) (xs:LI) (a:Int):LI:=if 0<=a/\a<n then Um xs a else xs
def QO (n:Int):LI->LI->LI
 | [],xs=>xs
 | a::r,xs=>QO n r (UW n xs a)
mutual
def JP (n:Int):Z5->LI->LI
 | .mk op _ _ args kids,xs=>if YO op=true then xs else Ji n kids (QO n args xs)
def Ji (n:Int):List Z8->LI->LI
 | [],xs=>xs
 | b::r,xs=>Ji n r (T3 n b xs)
def T4 (n:Int):List Z5->LI->LI
 | [],xs=>xs
 | s::r,xs=>T4 n r (JP n s xs)
def T3 (n:Int):Z8->LI->LI
 | .mk steps result,xs=>UW n (T4 n steps xs) result
end
section
variable {n:Int}
theorem Z1t (s:Z5) (xs:LI):JP n s xs=if YO s.op=true then xs else Ji n s.kids (QO n s.args xs):=by cases s;rw [JP];rfl
theorem Z1r (b:Z8) (xs:LI):T3 n b xs=UW n (T4 n b.steps xs) b.result:=by cases b;rw [T3];rfl
theorem I7 (xs:LI) (a:Int):(UW n xs a).length<=xs.length+1:=by
 rw [UW];split
 ·exact DN xs a
 ·omega
theorem Z1q:∀(as1 xs:LI),(QO n as1 xs).length<=xs.length+as1.length
 | [],xs=>X9 _
 | a::r,xs=>by
  have h1:=Z1q r (UW n xs a)
  have h2:=I7 (n:=n) xs a
  rw [QO,YA];omega
mutual
theorem Z1u:∀(s:Z5) (xs:LI),(JP n s xs).length<=xs.length+s.sz
 | .mk op num into args kids,xs=>by
  have h1:=Z1s kids (QO n args xs)
  have h2:=Z1q (n:=n) args xs
  rw [JP,Z5.sz];split<;>omega
theorem Z1s:∀(bs:List Z8) (xs:LI),(Ji n bs xs).length<=xs.length+YV bs
 | [],xs=>X9 _
 | b::r,xs=>by
  have h1:=Z1s r (T3 n b xs)
  have h2:=I6 b xs
  rw [Ji,YV];omega
theorem N1:∀(bs:List Z5) (xs:LI),(T4 n bs xs).length<=xs.length+Yw bs
 | [],xs=>X9 _
 | b::r,xs=>by
  have h1:=N1 r (JP n b xs)
  have h2:=Z1u b xs
  rw [T4,Yw];omega
theorem I6:∀(b:Z8) (xs:LI),(T3 n b xs).length<=xs.length+b.sz
 | .mk steps result,xs=>by
  have h1:=N1 steps xs
  have h2:=I7 (n:=n) (T4 n steps xs) result
  rw [T3,Z8.sz];omega
end
theorem Zhn {as1 ys r:LI} {k:Nat} {a:Int} (h:as1[k]? = some a) (ha:QO n (as1.drop k) ys=r):QO n (as1.drop (k+1)) (UW n ys a)=r:=by
 rw [Yl h,QO] at ha;exact ha
theorem Zhp {bs:List Z8} {ys r:LI} {k:Nat} {b:Z8} (h:bs[k]? = some b) (ha:Ji n (bs.drop k) ys=r):Ji n (bs.drop (k+1)) (T3 n b ys)=r:=by
 rw [Yl h,Ji] at ha;exact ha
theorem Zhr {bs:List Z5} {ys r:LI} {k:Nat} {b:Z5} (h:bs[k]? = some b) (ha:T4 n (bs.drop k) ys=r):T4 n (bs.drop (k+1)) (JP n b ys)=r:=by
 rw [Yl h,T4] at ha;exact ha
theorem Zhm {as1 ys r:LI} {k:Nat} (h:as1.length<=k) (ha:QO n (as1.drop k) ys=r):ys=r:=by rw [Xr h,QO] at ha;exact ha
theorem Zho {bs:List Z8} {ys r:LI} {k:Nat} (h:bs.length<=k) (ha:Ji n (bs.drop k) ys=r):ys=r:=by rw [Xr h,Ji] at ha;exact ha
theorem Zhq {bs:List Z5} {ys r:LI} {k:Nat} (h:bs.length<=k) (ha:T4 n (bs.drop k) ys=r):ys=r:=by rw [Xr h,T4] at ha;exact ha
end
theorem Nb {s:Z5} (h:Cn s):∃a,s.args=[a]:=⟨gI s.args 0,by have:=Yq Z5.args h;exact this⟩
section
variable {xs:LI} {v:Int} {lo hi:Nat}
end
section
variable {m:Int} {xs du dr:List Z5} {lf:LI} {d:Bool} {k:Nat} {s:Z5} {W:List Z5 × List Z5 × LI}
end
def YY:List Z5->Nat
 | []=>0
 | s::r=>if YO s.op=true then YY r+1 else 0
def W9 (op x:Int):List Z5->Int->Int
 | [],_=>-1
 | s::r,k=>if s.op=op/\gI s.args 0=x then k else W9 op x r (k+1)
def Kv (many:Nat) (s:Z5):Prop:=(s.op=6/\s.into=0)/\s.args.length=many
instance (many:Nat) (s:Z5):Decidable (Kv many s):=by unfold Kv;infer_instance
def Wv (many:Nat):List Z5->Int->Int
 | [],_=>-1
 | s::r,k=>if Kv many s then k else Wv many r (k+1)
def BH (xs:List Z5) (i:Int):Z5:=xs[i.toNat]?.getD (Zx 0 0)
def Qn (v:Int) (s:Z5):Z5:=.mk s.op s.num v s.args s.kids
def Vz (xs:List Z5) (x:Int):Int:=W9 16 x (xs.take (YY xs)) 0
def WC (xs:List Z5) (many:Nat):Int:=Wv many (xs.drop (YY xs)) (YY xs)
def VO (xs:List Z5) (x:Int) (many:Nat):List Z5:=
 if Vz xs x<0∨WC xs many<0 then xs else (xs.set (Vz xs x).toNat (Zx 17 x)).set (WC xs many).toNat (Qn (1+x) (BH xs (WC xs many)))
def VT (b:Z8) (x:Int) (many:Nat):Z8:=.mk (VO b.steps x many) b.result
mutual
def Tn (ds:List Zd) (kept:LI):Z5->Z5
 | .mk op num into args kids=>.mk op num into args (U4 ds kept op num args kids 0)
def U4 (ds:List Zd) (kept:LI) (op num:Int) (args:LI):List Z8->Nat->List Z8
 | [],_=>[]
 | b::r,k=>(if op=8/\¬gI args 0∈kept then VT (Wt ds (if Vz b.steps (gI args 0)<0∨WC b.steps (Wy ds num k).length<0 then kept else gI args 0::kept) b) (gI args 0) (Wy ds num k).length else Wt ds kept b)::U4 ds kept op num args r (k+1)
def Ug (ds:List Zd) (kept:LI):List Z5->List Z5
 | []=>[]
 | s::r=>Tn ds kept s::Ug ds kept r
def Wt (ds:List Zd) (kept:LI):Z8->Z8
 | .mk steps result=>.mk (Ug ds kept steps) result
end
def H8 (ds:List Zd) (kept:LI) (num:Int) (args:LI) (k:Nat) (b:Z8):LI:=if Vz b.steps (gI args 0)<0∨WC b.steps (Wy ds num k).length<0 then kept else gI args 0::kept
def Q1 (ds:List Zd) (kept:LI) (op num:Int) (args:LI) (k:Nat) (b:Z8):Z8:=if op=8/\¬gI args 0∈kept then VT (Wt ds (H8 ds kept num args k b) b) (gI args 0) (Wy ds num k).length else Wt ds kept b
theorem As (ds:List Zd) (kept:LI) (s:Z5):Tn ds kept s=.mk s.op s.num s.into s.args (U4 ds kept s.op s.num s.args s.kids 0):=by cases s;rw [Tn];rfl
theorem HI (ds:List Zd) (kept:LI) (b:Z8):Wt ds kept b=.mk (Ug ds kept b.steps) b.result:=by cases b;rw [Wt];rfl
theorem HJ (ds:List Zd) (kept:LI):∀xs:List Z5,Ug ds kept xs=xs.map (Tn ds kept)
 | []=>rfl
 | s::r=>by rw [Ug,HJ ds kept r];rfl
section
variable {ds:List Zd} {kept:LI}
theorem Zef {xs acc r:List Z5} {k:Nat} {s:Z5} (h:xs[k]? = some s) (ha:acc++Ug ds kept (xs.drop k)=r) :
  (acc++[.mk s.op s.num s.into s.args (U4 ds kept s.op s.num s.args s.kids 0)])++Ug ds kept (xs.drop (k+1))=r:=by
 rw [Yl h,Ug,As] at ha
 rw [<-ha];simp
theorem Zee {xs acc r:List Z5} {k:Nat} (h:xs.length<=k) (ha:acc++Ug ds kept (xs.drop k)=r):acc=r:=by
 rw [Xr h,Ug,KP] at ha;exact ha
theorem Ze9 {op num:Int} {args:LI} {bs acc r:List Z8} {k:Nat} {b:Z8} (h:bs[k]? = some b) (ha:acc++U4 ds kept op num args (bs.drop k) k=r) :
  (acc++[Q1 ds kept op num args k b])++U4 ds kept op num args (bs.drop (k+1)) (k+1)=r:=by
 rw [Yl h,U4] at ha
 rw [<-ha,Q1,H8];simp
theorem Ze8 {op num:Int} {args:LI} {bs acc r:List Z8} {k j:Nat} (h:bs.length<=k) (ha:acc++U4 ds kept op num args (bs.drop k) j=r):acc=r:=by
 rw [Xr h,U4,KP] at ha;exact ha
end
section
variable {ds:List Zd}
mutual
theorem Zec:∀(s:Z5) {K K':LI},(∀z,z∈K↔z∈K')->Tn ds K s=Tn ds K' s
 | .mk op num into args kids,K,K',h=>by rw [Tn,Tn,SG kids h]
theorem SG:∀(bs:List Z8) {K K':LI} {op num:Int} {args:LI} {k:Nat},(∀z,z∈K↔z∈K')->U4 ds K op num args bs k=U4 ds K' op num args bs k
 | [],_,_,_,_,_,_,_=>by rw [U4,U4]
 | b::r,K,K',op,num,args,k,h=>by
  have h1:=SG r (op:=op) (num:=num) (args:=args) (k:=k+1) h
  have h2:=Mx b h
  have h3:∀z,z∈(gI args 0::K)↔z∈(gI args 0::K'):=fun z=>by rw [YM,YM,h z]
  have h4:=Mx b h3
  rw [U4,U4,h1,h2]
  congr 1
  by_cases hq:op=8/\¬gI args 0∈K
  ·have hq':op=8/\¬gI args 0∈K':=⟨hq.1,fun z=>hq.2 ((h _).2 z)⟩
   rw [Zk hq,Zk hq']
   congr 1
   split
   ·exact h2
   ·exact h4
  ·have hq':¬(op=8/\¬gI args 0∈K'):=fun z=>hq ⟨z.1,fun y=>z.2 ((h _).1 y)⟩
   rw [Zb hq,Zb hq']
theorem SJ:∀(xs:List Z5) {K K':LI},(∀z,z∈K↔z∈K')->Ug ds K xs=Ug ds K' xs
 | [],_,_,_=>by rw [Ug,Ug]
 | s::r,K,K',h=>by rw [Ug,Ug,Zec s h,SJ r h]
theorem Mx:∀(b:Z8) {K K':LI},(∀z,z∈K↔z∈K')->Wt ds K b=Wt ds K' b
 | .mk steps result,K,K',h=>by rw [Wt,Wt,SJ steps h]
end
end
theorem F7:∀xs:List Z5,YY xs<=xs.length
 | []=>X9 _
 | s::r=>by have:=F7 r;rw [YY];split<;>simp<;>omega
section
variable {f:Z5->Z5} (hop:∀s,(f s).op=s.op) (hin:∀s,(f s).into=s.into) (har:∀s,(f s).args=s.args)
include hop
theorem M0:∀xs:List Z5,YY (xs.map f)=YY xs
 | []=>rfl
 | s::r=>by rw [T7,YY,YY,hop,M0 r]
include har
theorem Nx {op x:Int}:∀(xs:List Z5) (k:Int),W9 op x (xs.map f) k=W9 op x xs k
 | [],_=>rfl
 | s::r,k=>by rw [T7,W9,W9,hop,har,Nx r]
theorem Zcr (xs:List Z5) (x:Int):Vz (xs.map f) x=Vz xs x:=by rw [Vz,M0 hop,<-List.map_take,Nx hop har,Vz]
include hin
theorem NS {many:Nat}:∀(xs:List Z5) (k:Int),Wv many (xs.map f) k=Wv many xs k
 | [],_=>rfl
 | s::r,k=>by
  have e:Kv many (f s)↔Kv many s:=by rw [Kv,Kv,hop,hin,har]
  rw [T7,Wv,Wv,NS r]
  by_cases h:Kv many s
  ·rw [Zk h,Zk (e.2 h)]
  ·rw [Zb h,Zb (fun z=>h (e.1 z))]
theorem Z42 (xs:List Z5) (many:Nat):WC (xs.map f) many=WC xs many:=by rw [WC,M0 hop,<-List.map_drop,NS hop hin har,WC]
end
theorem Nw {op x:Int}:∀{xs:List Z5} {k:Int},¬W9 op x xs k<0->0<=k->k<=W9 op x xs k/\W9 op x xs k<k+xs.length/\∃s,xs[(W9 op x xs k-k).toNat]? = some s/\s.op=op/\gI s.args 0=x
 | [],k,h,_=>by simp [W9] at h
 | s::r,k,h,hk=>by
  rw [W9] at h ⊢
  split
  ·rename_i q
   refine ⟨Int.le_refl _,by rw [YA];omega,s,?_,q⟩
   rw [Int.sub_self];rfl
  ·rename_i q
   rw [Zb q] at h
   obtain ⟨h1,h2,t,h3,h4⟩:=Nw (xs:=r) (k:=k+1) h om
   refine ⟨by omega,by rw [YA];omega,t,?_,h4⟩
   rw [show (W9 op x r (k+1)-k).toNat=(W9 op x r (k+1)-(k+1)).toNat+1 by omega,List.getElem?_cons_succ]
   exact h3
theorem NR {many:Nat}:∀{xs:List Z5} {k:Int},¬Wv many xs k<0->0<=k->k<=Wv many xs k/\Wv many xs k<k+xs.length/\∃s,xs[(Wv many xs k-k).toNat]? = some s/\Kv many s
 | [],k,h,_=>by simp [Wv] at h
 | s::r,k,h,hk=>by
  rw [Wv] at h ⊢
  split
  ·rename_i q
   refine ⟨Int.le_refl _,by rw [YA];omega,s,?_,q⟩
   rw [Int.sub_self];rfl
  ·rename_i q
   rw [Zb q] at h
   obtain ⟨h1,h2,t,h3,h4⟩:=NR (xs:=r) (k:=k+1) h om
   refine ⟨by omega,by rw [YA];omega,t,?_,h4⟩
   rw [show (Wv many r (k+1)-k).toNat=(Wv many r (k+1)-(k+1)).toNat+1 by omega,List.getElem?_cons_succ]
   exact h3
theorem E1 {xs:List Z5} {x:Int} (h:¬Vz xs x<0):0<=Vz xs x/\Vz xs x<YY xs/\∃s,xs[(Vz xs x).toNat]? = some s/\s.op=16/\gI s.args 0=x:=by
 obtain ⟨h1,h2,s,h3,h4⟩:=Nw h (Int.le_refl 0)
 have hl:=F7 xs
 rw [XW,VH hl] at h2
 have h2':Vz xs x<YY xs:=by unfold Vz;omega
 have h1':0<=Vz xs x:=h1
 refine ⟨h1',h2',s,?_,h4⟩
 rw [Int.sub_zero] at h3
 have h5:(Vz xs x).toNat<YY xs:=by omega
 rwa [show W9 16 x (xs.take (YY xs)) 0=Vz xs x from rfl,List.getElem?_take_of_lt h5] at h3
theorem A9 {xs:List Z5} {many:Nat} (h:¬WC xs many<0):(YY xs:Int)<=WC xs many/\WC xs many<xs.length/\∃s,xs[(WC xs many).toNat]? = some s/\Kv many s/\BH xs (WC xs many)=s:=by
 obtain ⟨h1,h2,s,h3,h4⟩:=NR h om
 have hl:=F7 xs
 rw [Bm] at h2
 have h1':(YY xs:Int)<=WC xs many:=h1
 have h2':WC xs many<xs.length:=by unfold WC;omega
 rw [If,show Wv many (xs.drop (YY xs)) (YY xs)=WC xs many from rfl,show YY xs+(WC xs many-(YY xs:Int)).toNat=(WC xs many).toNat by omega] at h3
 exact ⟨h1',h2',s,h3,h4,by rw [BH,h3];rfl⟩
theorem Zdn {f:Z5->Z5} (hop:∀s,(f s).op=s.op) (hin:∀s,(f s).into=s.into) (har:∀s,(f s).args=s.args) (hc:∀x,f (Zx 17 x)=Zx 17 x) (hi:∀v s,f (Qn v s)=Qn v (f s)) (xs:List Z5) (x:Int) (many:Nat) :
  VO (xs.map f) x many=(VO xs x many).map f:=by
 rw [VO,Zcr hop har,Z42 hop hin har,VO]
 split
 ·rfl
 ·rename_i hq
  obtain ⟨_,_,s,h3,_,h5⟩:=A9 (fun z=>hq (.inr z))
  have e:BH (xs.map f) (WC xs many)=f (BH xs (WC xs many)):=by rw [BH,Kq,h3,h5];rfl
  rw [e,List.map_set,List.map_set,hc,hi]
theorem SD {ds:List Zd} {K:LI} {b:Z8} {x:Int} {many:Nat}:Wt ds K (VT b x many)=VT (Wt ds K b) x many:=by
 rw [VT,Wt,VT,HI,HJ,HJ]
 show Z8.mk _ _=Z8.mk (VO (b.steps.map (Tn ds K)) x many) b.result
 rw [Zdn (f:=Tn ds K) (fun s=>by rw [As];rfl) (fun s=>by rw [As];rfl) (fun s=>by rw [As];rfl) (fun x=>by rw [As];rfl) (fun v s=>by rw [As,As];rfl)]
structure CB (c:LI) (q:Int):Prop where
 len:c.length=4
 bd:∀x∈c,0<=x/\x<=q
mutual
def D0:Z5->Prop
 | .mk op _ _ _ kids=>op≠17/\BP kids
def BP:List Z8->Prop
 | []=>True
 | b::r=>Kb b/\BP r
def BQ:List Z5->Prop
 | []=>True
 | s::r=>D0 s/\BQ r
def Kb:Z8->Prop
 | .mk steps _=>BQ steps
end
theorem DW (s:Z5):D0 s↔s.op≠17/\BP s.kids:=by cases s;rw [D0];rfl
theorem Fa (b:Z8):Kb b↔BQ b.steps:=by cases b;rw [Kb];rfl
theorem Fb:∀{xs:List Z5},BQ xs↔∀s∈xs,D0 s
 | []=>by simp [BQ]
 | s::r=>by rw [BQ,Fb];simp
theorem Ho:∀{xs:List Z8},BP xs↔∀s∈xs,Kb s
 | []=>by simp [BP]
 | s::r=>by rw [BP,Ho];simp
theorem MR:∀{xs:List Z5} {i:Nat} {s:Z5} (t:Z5),xs[i]? = some s->Yw (xs.set i t)+s.sz=Yw xs+t.sz
 | [],_,_,_,h=>by simp at h
 | x::r,0,s,t,h=>by simp at h;subst h;rw [List.set_cons_zero,Yw,Yw];omega
 | x::r,i+1,s,t,h=>by
  have:=MR (xs:=r) (i:=i) t (by simpa using h)
  rw [List.set_cons_succ,Yw,Yw];omega
theorem Zao (v:Int) (s:Z5):(Qn v s).sz=s.sz:=by cases s;rw [Qn,Z5.sz,Z5.sz];rfl
theorem NU {xs:List Z5} {x:Int} {many:Nat} (h:¬(Vz xs x<0∨WC xs many<0)):(Vz xs x).toNat<(WC xs many).toNat:=by
 obtain ⟨h1,h2,_⟩:=E1 (fun z=>h (.inl z))
 obtain ⟨h3,h4,_⟩:=A9 (fun z=>h (.inr z))
 omega
theorem Fp {xs:List Z5} {x:Int} {many:Nat} (h:¬(Vz xs x<0∨WC xs many<0)) {t:Z5} {s:Z5} (hs:xs[(WC xs many).toNat]? = some s):(xs.set (Vz xs x).toNat t)[(WC xs many).toNat]? = some s:=by
 have:=NU h
 rw [List.getElem?_set_ne om];exact hs
theorem Sj {xs:List Z5} {x:Int} {many:Nat} (h:∀s∈xs,YO s.op=true->2<=s.sz):Yw (VO xs x many)<=Yw xs:=by
 rw [VO]
 split
 ·exact X9 _
 ·rename_i hq
  obtain ⟨_,_,s,h3,h4,_⟩:=E1 (fun z=>hq (.inl z))
  obtain ⟨_,_,t,h5,_,h6⟩:=A9 (fun z=>hq (.inr z))
  have e1:=MR (Zx 17 x) h3
  have e2:=MR (Qn (1+x) (BH xs (WC xs many))) (Fp hq (t:=Zx 17 x) h5)
  have h7:=h s (Y7 h3) (by rw [h4];rfl)
  rw [Gg] at e1
  rw [Zao,h6] at e2
  rw [h6]
  omega
section
variable {ds:List Zd}
theorem Zi7 {v:Int} {s:Z5} (h:wS ds s) (h6:s.op=6):wS ds (Qn v s):=by
 obtain ⟨h1,h2,h3,h4⟩:=(JQ s).1 h
 exact (JQ _).2 ⟨h1,fun hc=>absurd hc (by show ¬YO s.op=true;rw [h6];decide),h3,h4⟩
theorem Zi4 {v:Int}:wS ds (Zx 17 v):=(JQ _).2 ⟨rfl,fun _=>⟨rfl,rfl,rfl,v,rfl⟩,fun e=>absurd e (show (17:Int)≠8 by decide),True.intro⟩
theorem Zi3 {xs:List Z5} {x:Int} {many:Nat} (h:QQ ds xs):QQ ds (VO xs x many):=by
 rw [VO]
 split
 ·exact h
 ·rename_i hq
  obtain ⟨_,_,t,h5,h7,h6⟩:=A9 (fun z=>hq (.inr z))
  rw [Bl]
  intro s hs
  rcases List.mem_or_eq_of_mem_set hs with hs|rfl
  ·rcases List.mem_or_eq_of_mem_set hs with hs|rfl
   ·exact Bl.1 h s hs
   ·exact Zi4
  ·rw [h6];exact Zi7 (Bl.1 h t (Y7 h5)) h7.1.1
theorem Zi2 {b:Z8} {x:Int} {many:Nat} (h:wB ds b):wB ds (VT b x many):=by rw [VT,Jk];exact Zi3 ((Jk b).1 h)
variable (hd:Xq ds)
mutual
theorem Zed:∀(s:Z5) {K:LI},wS ds s->(Tn ds K s).sz<=s.sz
 | .mk op num into args kids,K,h=>by
  have:=SH kids (K:=K) (op:=op) (num:=num) (args:=args) (k:=0) h.2.2.2
  rw [Tn,Z5.sz,Z5.sz];omega
theorem SH:∀(bs:List Z8) {K:LI} {op num:Int} {args:LI} {k:Nat},Jl ds bs->YV (U4 ds K op num args bs k)<=YV bs
 | [],_,_,_,_,_,_=>X9 _
 | b::r,K,op,num,args,k,h=>by
  have h2:=SH r (K:=K) (op:=op) (num:=num) (args:=args) (k:=k+1) h.2
  have key:∀K2:LI,(VT (Wt ds K2 b) (gI args 0) (Wy ds num k).length).sz<=b.sz:=fun K2=>by
   have h1:=My b (K:=K2) h.1
   have h3:=Sj (xs:=(Wt ds K2 b).steps) (x:=gI args 0) (many:=(Wy ds num k).length) (by
    rw [HI,HJ]
    intro s hs hc
    obtain ⟨t,ht,rfl⟩:=XA.1 hs
    rw [As] at hc ⊢
    obtain ⟨_,_,a,ha⟩:=Ib (Bl.1 ((Jk b).1 h.1) t ht) hc
    rw [Z5.sz,ha];simp)
   rw [VT,Z8.sz]
   rw [Z8.sz_eq] at h1
   omega
  rw [U4,YV,YV]
  split
  ·have:=key (if Vz b.steps (gI args 0)<0∨WC b.steps (Wy ds num k).length<0 then K else gI args 0::K)
   omega
  ·have:=My b (K:=K) h.1
   omega
theorem SM:∀(xs:List Z5) {K:LI},QQ ds xs->Yw (Ug ds K xs)<=Yw xs
 | [],_,_=>X9 _
 | s::r,K,h=>by
  have h1:=Zed s (K:=K) h.1
  have h2:=SM r (K:=K) h.2
  rw [Ug,Yw,Yw];omega
theorem My:∀(b:Z8) {K:LI},wB ds b->(Wt ds K b).sz<=b.sz
 | .mk steps result,K,h=>by
  have:=SM steps (K:=K) h
  rw [Wt,Z8.sz,Z8.sz];omega
end
end
theorem M1:∀{xs:List Z5} {i:Nat} {s t:Z5},xs[i]? = some s->YO t.op=YO s.op->YY (xs.set i t)=YY xs
 | [],_,_,_,h,_=>by simp at h
 | x::r,0,s,t,h,e=>by simp at h;subst h;rw [List.set_cons_zero,YY,YY,e]
 | x::r,i+1,s,t,h,e=>by
  rw [List.set_cons_succ,YY,YY,M1 (xs:=r) (i:=i) (by simpa using h) e]
theorem Zbc {xs:List Z5} {x:Int} {many:Nat}:YY (VO xs x many)=YY xs:=by
 rw [VO]
 split
 ·rfl
 ·rename_i hq
  obtain ⟨_,_,s,h3,h4,_⟩:=E1 (fun z=>hq (.inl z))
  obtain ⟨_,_,t,h5,_,h6⟩:=A9 (fun z=>hq (.inr z))
  rw [M1 (Fp hq (t:=Zx 17 x) h5) (by rw [h6];rfl),M1 h3 (by rw [h4];rfl)]
theorem Nz {op x:Int}:∀{xs:List Z5} {k:Int},(∀s∈xs,s.op≠op)->W9 op x xs k=-1
 | [],_,_=>rfl
 | s::r,k,h=>by
  rw [W9,Zb (fun z=>h s (Xo ..) z.1)]
  exact Nz fun t ht=>h t (Xz _ ht)
theorem NA {op x:Int}:∀{xs:List Z5} {k:Int},0<=k->(∃s∈xs,s.op=op/\gI s.args 0=x)->0<=W9 op x xs k
 | [],_,_,h=>by obtain ⟨s,hs,_⟩:=h;cases hs
 | s::r,k,hk,h=>by
  rw [W9]
  split
  ·exact hk
  ·rename_i q
   obtain ⟨t,ht,h1⟩:=h
   rcases YM.1 ht with rfl|ht
   ·exact absurd h1 q
   ·exact NA om ⟨t,ht,h1⟩
theorem Z1l {xs:List Z5} {x:Int} {many:Nat} (hn:BQ xs):0<=W9 17 x ((VO xs x many).take (YY (VO xs x many))) 0↔¬(Vz xs x<0∨WC xs many<0):=by
 rw [Zbc]
 constructor
 ·intro h hq
  rw [VO,Zk hq,Nz (fun s hs=>((DW s).1 (Fb.1 hn s (QR hs))).1)] at h
  omega
 ·intro hq
  obtain ⟨h1,h2,s,h3,h4,_⟩:=E1 (fun z=>hq (.inl z))
  have hap:=NU hq
  refine NA (Int.le_refl 0) ⟨Zx 17 x,?_,rfl,rfl⟩
  rw [VO,Zb hq]
  refine Y7 (i:=(Vz xs x).toNat) ?_
  rw [List.getElem?_take_of_lt om,List.getElem?_set_ne om,List.getElem?_set_self (Xc.1 h3).1]
def BR (b:Z8):Prop:=∀s∈b.steps,BP s.kids
theorem CZ {b:Z8} (h:Kb b):BR b:=fun s hs=>((DW s).1 (Fb.1 ((Fa b).1 h) s hs)).2
theorem Zc4 {b:Z8} {k j:Nat} {s:Z5} {c:Z8} (h:BR b) (hs:b.steps[k]? = some s) (hc:s.kids[j]? = some c):Kb c:=Ho.1 (h s (Y7 hs)) c (Y7 hc)
theorem Rr {b:Z8} {x:Int} {many:Nat} (h:Kb b):BR (VT b x many):=by
 intro s hs
 have hs:s∈VO b.steps x many:=hs
 rw [VO] at hs
 split at hs
 ·exact CZ h s hs
 ·rename_i hq
  obtain ⟨_,_,t,h5,_,h6⟩:=A9 (fun z=>hq (.inr z))
  rcases List.mem_or_eq_of_mem_set hs with hs|rfl
  ·rcases List.mem_or_eq_of_mem_set hs with hs|rfl
   ·exact CZ h s hs
   ·exact True.intro
  ·rw [h6];exact CZ h t (Y7 h5)
theorem Zdm {ds:List Zd} {b:Z8} {x:Int} {many:Nat} (h:wB ds b):(VT b x many).sz<=b.sz:=by
 have:=Sj (xs:=b.steps) (x:=x) (many:=many) fun s hs hc=>by
  have h7:=Ii ((Jk b).1 h) s hs hc
  rw [h7,Gg];omega
 rw [VT,Z8.sz,b.sz_eq];omega
def BZ (ds:List Zd) (r:YF):YF:=⟨r.params,r.lent,r.result,Wt ds [] r.body⟩
def D6 (n:ZF):ZF:=⟨n.decls,n.routines.map (BZ n.decls)⟩
end Go.Abs
section
namespace Go.Abs
theorem Zba {xs:List Z5} {k:Nat} {s:Z5} {r:Nat} (h:xs[k]? = some s) (hs:YO s.op=true) (ha:k+YY (xs.drop k)=r):k+1+YY (xs.drop (k+1))=r:=by
 rw [Yl h,YY,Zk hs] at ha;omega
theorem Zbb {xs:List Z5} {k:Nat} {s:Z5} {r:Nat} (h:xs[k]? = some s) (hs:¬YO s.op=true) (ha:k+YY (xs.drop k)=r):k=r:=by
 rw [Yl h,YY,Zb hs] at ha;omega
theorem Zb9 {xs:List Z5} {k:Nat} {r:Nat} (h:xs.length<=k) (ha:k+YY (xs.drop k)=r):k=r:=by
 rw [Xr h,YY] at ha;omega
theorem Z3e {op x:Int} {xs:List Z5} {k:Nat} {s:Z5} {r:Int} (h:xs[k]? = some s) (hs:s.op=op/\gI s.args 0=x) (ha:W9 op x (xs.drop k) k=r):(k:Int)=r:=by
 rw [Yl h,W9,Zk hs] at ha;exact ha
theorem Ny {op x:Int} {xs:List Z5} {k:Nat} {s:Z5} {r:Int} (h:xs[k]? = some s) (hs:¬(s.op=op/\gI s.args 0=x)) (ha:W9 op x (xs.drop k) k=r):W9 op x (xs.drop (k+1)) ((k+1:Nat):Int)=r:=by
 rw [Yl h,W9,Zb hs] at ha;rw [<-ha];congr 1
theorem Z3d {op x:Int} {xs:List Z5} {k:Nat} {r:Int} (h:xs.length<=k) (ha:W9 op x (xs.drop k) k=r):-1=r:=by
 rw [Xr h,W9] at ha;exact ha
theorem Z46 {many:Nat} {xs:List Z5} {k:Nat} {s:Z5} {r:Int} (h:xs[k]? = some s) (hs:Kv many s) (ha:Wv many (xs.drop k) k=r):(k:Int)=r:=by
 rw [Yl h,Wv,Zk hs] at ha;exact ha
theorem Z45 {many:Nat} {xs:List Z5} {k:Nat} {s:Z5} {r:Int} (h:xs[k]? = some s) (hs:¬Kv many s) (ha:Wv many (xs.drop k) k=r):Wv many (xs.drop (k+1)) ((k+1:Nat):Int)=r:=by
 rw [Yl h,Wv,Zb hs] at ha;rw [<-ha];congr 1
theorem Z44 {many:Nat} {xs:List Z5} {k:Nat} {r:Int} (h:xs.length<=k) (ha:Wv many (xs.drop k) k=r):-1=r:=by
 rw [Xr h,Wv] at ha;exact ha
theorem Zdo {xs:List Z5} {x:Int} {many:Nat} (h:Vz xs x<0∨WC xs many<0):VO xs x many=xs:=Zk h
theorem Zdp {xs:List Z5} {x:Int} {many:Nat} {s:Z5} (h:¬(Vz xs x<0∨WC xs many<0)) (hs:BH xs (WC xs many)=s):(xs.set (Vz xs x).toNat (Zx 17 x)).set (WC xs many).toNat (Qn (1+x) s)=VO xs x many:=by
 rw [VO,Zb h,hs]
theorem DF (xs:List Z5):(Z9 (ZV xs)).length=xs.length*5:=by rw [UN _ (XH _)];simp
theorem Lo (s:Z5) (r:List Z5):Z9 (ZV (s::r))=Wd s++Z9 (ZV r):=by rw [Uc,Uc];rfl
theorem Z7h {xs:List Z5} {k:Nat} {x:Z5} (h:xs[k]? = some x):Z9 (ZV (xs.take k))++Z9 [X5 x]=Z9 (ZV (xs.take (k+1))):=by
 rw [V2 h,VB,Th,Lo]
 have:Z9 (ZV [])=[]:=by rw [Uc];rfl
 rw [this];rfl
theorem OQ {xs:List Z5} {i:Nat} {s:Z5} (h:xs[i]? = some s):Z9 (ZV xs)=Z9 (ZV (xs.take i))++(Wd s++Z9 (ZV (xs.drop (i+1)))):=by
 have hi:=(Xc.1 h).1
 have e:xs=xs.take i++(s::xs.drop (i+1)):=by rw [<-Yl h,TI]
 conv=>lhs;rw [e,VB,Th,Lo]
theorem OP {xs:List Z5} {i:Nat} {s t:Z5} (h:xs[i]? = some s):(Z9 (ZV xs)).take (i*5)++Wd t++(Z9 (ZV xs)).drop (i*5+(Wd t).length)=Z9 (ZV (xs.set i t)):=by
 have hi:=(Xc.1 h).1
 have hl:(Z9 (ZV (xs.take i))).length=i*5:=by rw [DF,XW,VH om]
 rw [OQ h,Fs (xs:=Wd s) (ys:=Wd t) hl rfl]
 have e:xs.set i t=xs.take i++(t::xs.drop (i+1)):=by rw [FT,Zk hi]
 rw [e,VB,Th,Lo]
theorem Z7g {xs:List Z5} {i:Nat} {s:Z5} (h:xs[i]? = some s):((Z9 (ZV xs)).drop (i*5)).take (Wd s).length=Wd s:=by
 have hi:=(Xc.1 h).1
 have hl:(Z9 (ZV (xs.take i))).length=i*5:=by rw [DF,XW,VH om]
 rw [OQ h]
 exact HF hl
structure KU (xs:LI) (v:Int) (k:Nat) (acc:LI) (d:Bool):Prop where
 len:acc.length<=k+(if d=true then 1 else 0)
 sub:∀z∈acc,z∈xs.take k∨z=v
 all:∀z∈xs.take k,z∈acc
 done:d=true->v∈acc
theorem KU.zero (xs:LI) (v:Int):KU xs v 0 [] false:=⟨by simp,by simp,by simp,by simp⟩
theorem KU.step {xs:LI} {v:Int} {k:Nat} {acc:LI} {d:Bool} {x:Int} (h:KU xs v k acc d) (hx:xs[k]? = some x) {acc2:LI} {d2:Bool}
  (hc:(acc2=acc++[x]/\d2=d)∨(acc2=(acc++[v])++[x]/\d2=true/\¬d=true)∨(acc2=acc++[x]/\d2=true/\x=v)):KU xs v (k+1) acc2 d2:=by
 obtain ⟨h1,h2,h3,h4⟩:=h
 have ht:∀z,z∈xs.take (k+1)↔z∈xs.take k∨z=x:=fun z=>by rw [V2 hx];simp
 rcases hc with ⟨rfl,rfl⟩|⟨rfl,rfl,hd⟩|⟨rfl,rfl,rfl⟩
 ·refine ⟨by simp;omega,fun z hz=>?_,fun z hz=>?_,fun q=>List.mem_append_left _ (h4 q)⟩
  ·rw [ht]
   rcases Xf.1 hz with hz|hz
   ·rcases h2 z hz with q|q
    ·exact .inl (.inl q)
    ·exact .inr q
   ·exact .inl (.inr (XF.1 hz))
  ·rcases (ht z).1 hz with q|q
   ·exact List.mem_append_left _ (h3 z q)
   ·subst q;simp
 ·rw [Zb hd] at h1
  refine ⟨by simp;omega,fun z hz=>?_,fun z hz=>?_,fun _=>by simp⟩
  ·rw [ht]
   simp only [Xf,XF] at hz
   rcases hz with (hz|hz)|hz
   ·rcases h2 z hz with q|q
    ·exact .inl (.inl q)
    ·exact .inr q
   ·exact .inr hz
   ·exact .inl (.inr hz)
  ·rcases (ht z).1 hz with q|q
   ·exact List.mem_append_left _ (List.mem_append_left _ (h3 z q))
   ·subst q;simp
 ·refine ⟨by simp;split at h1<;>omega,fun z hz=>?_,fun z hz=>?_,fun _=>by simp⟩
  ·rw [ht]
   rcases Xf.1 hz with hz|hz
   ·rcases h2 z hz with q|q
    ·exact .inl (.inl q)
    ·exact .inr q
   ·exact .inl (.inr (XF.1 hz))
  ·rcases (ht z).1 hz with q|q
   ·exact List.mem_append_left _ (h3 z q)
   ·subst q;simp
theorem KU.fin {xs:LI} {v:Int} {k:Nat} {acc:LI} {d:Bool} (h:KU xs v k acc d) (hk:k=xs.length) :
  (d=true->acc.length<=xs.length+1/\∀z,z∈acc↔z∈xs∨z=v)/\(¬d=true->(acc++[v]).length<=xs.length+1/\∀z,z∈acc++[v]↔z∈xs∨z=v):=by
 obtain ⟨h1,h2,h3,h4⟩:=h
 subst hk
 rw [UA] at h2 h3
 refine ⟨fun hd=>?_,fun hd=>?_⟩
 ·rw [Zk hd] at h1
  exact ⟨h1,fun z=>⟨h2 z,fun q=>q.elim (h3 z) fun e=>e▸h4 hd⟩⟩
 ·rw [Zb hd] at h1
  refine ⟨by simp;omega,fun z=>?_⟩
  rw [Xf,XF]
  exact ⟨fun q=>q.elim (h2 z) .inr,fun q=>q.elim (fun e=>.inl (h3 z e)) .inr⟩
end Go.Abs
namespace Go.Abs
theorem KU.go {xs:LI} {v:Int} {k:Nat} {acc:LI} {d:Bool} {x:Int} (h:KU xs v k acc d) (hx:xs[k]? = some x) {acc2:LI} {d2:Bool}
  (hc:(acc2=acc/\d2=d)∨(acc2=acc++[v]/\d2=true/\¬d=true)∨(acc2=acc/\d2=true/\x=v)):KU xs v (k+1) (acc2++[x]) d2:=by
 refine h.step hx ?_
 rcases hc with ⟨e1,e2⟩|⟨e1,e2,e3⟩|⟨e1,e2,e3⟩
 ·exact .inl ⟨by rw [e1],e2⟩
 ·exact .inr (.inl ⟨by rw [e1],e2,e3⟩)
 ·exact .inr (.inr ⟨by rw [e1],e2,e3⟩)
section
variable {ds:List Zd} {kept K2:LI} {op num x:Int} {args:LI} {j many:Nat} {kd:Z8}
theorem Zea (h8:op=8) (hx:gI args 0=x) (hk:¬x∈kept) (hm:(Wy ds num j).length=many) (hq:¬(Vz kd.steps x<0∨WC kd.steps many<0)) (hK:∀z,z∈K2↔z∈kept∨z=x):Wt ds K2 (VT kd x many)=Q1 ds kept op num args j kd:=by
 subst hx hm
 have e:∀z,z∈K2↔z∈gI args 0::kept:=fun z=>by rw [hK z,YM];exact Or.comm
 rw [Q1,Zk ⟨h8,hk⟩,H8,Zb hq,SD,Mx kd e]
theorem Zeb (h8:op=8) (hx:gI args 0=x) (hk:¬x∈kept) (hm:(Wy ds num j).length=many) (hq:Vz kd.steps x<0∨WC kd.steps many<0):Wt ds kept (VT kd x many)=Q1 ds kept op num args j kd:=by
 subst hx hm
 rw [Q1,Zk ⟨h8,hk⟩,H8,Zk hq,SD]
theorem SF (h:¬(op=8/\¬gI args 0∈kept)):Wt ds kept kd=Q1 ds kept op num args j kd:=by rw [Q1,Zb h]
end
end Go.Abs
namespace Go.Abs
theorem Gd:∀{xs:List Z8} {k:Nat} {b:Z8},xs[k]? = some b->YV (xs.take k)+b.sz<=YV xs
 | [],_,_,h=>by simp at h
 | x::r,0,b,h=>by simp at h;subst h;simp [YV]
 | x::r,k+1,b,h=>by
  have:=Gd (xs:=r) (k:=k) (by simpa using h)
  rw [AA,YV,YV];omega
theorem IC {xs:List Z8} {k:Nat} (h:xs.length<=k):YV (xs.take k)=YV xs:=by rw [Wh h]
end Go.Abs
end
namespace Go.Abs
theorem Z0x {xs:List Z5} {k:Nat} {s:Z5} (h:xs[k]? = some s):Yw (xs.drop k)=s.sz+Yw (xs.drop (k+1)):=by rw [Yl h,Yw]
theorem Z0y (xs:List Z5) (k:Nat):Yw (xs.drop k)<=Yw xs:=by
 have h:=Yq Yw (TI k xs)
 rw [Q4] at h;omega
theorem Gc {xs:List Z8} {k:Nat} {b:Z8} (h:xs[k]? = some b):YV (xs.take (k+1))=YV (xs.take k)+b.sz:=by rw [V2 h,G9,YV,YV];rfl
structure CL (ds:List Zd) (nf m:Nat) (xs:List Z5) (d z:Nat):Prop where
 fs:Wb ds nf m xs
 dn:Yu xs=d
 op:TZ VI xs
 sz:Yw xs<=z
section
variable {ds:List Zd} {nf m d z:Nat} {xs:List Z5}
theorem CL.nil:CL ds nf m [] 0 0:=⟨True.intro,rfl,True.intro,X9 _⟩
theorem CL.len (h:CL ds nf m xs d z):xs.length<=z:=V9 (Jh xs) h.sz
theorem CL.le (h:CL ds nf m xs d z) {z2:Nat} (hz:z<=z2):CL ds nf m xs d z2:=⟨h.fs,h.dn,h.op,V9 h.sz hz⟩
theorem Z64 {op v:Int} (ho:op=14∨op=15) (hv:0<=v/\v<(m:Int)):fS ds nf m (Zx op v):=by
 rw [Zx,fS]
 exact ⟨.inr om,fun a ha=>by rw [XF.1 ha];exact hv,fun _=>⟨rfl,rfl,rfl,v,rfl⟩,fun h=>by omega,fun h=>by omega,fun h=>by omega,fun h=>by omega,by omega,by omega,by simp,fun _=>rfl,True.intro⟩
theorem NY {op:Int} (ho:op=14∨op=15):YO op=true:=by simp [YO];omega
theorem CL.cnt (h:CL ds nf m xs d z) {op v:Int} (ho:op=14∨op=15) (hv:0<=v/\v<((m+d:Nat):Int)):CL ds nf m (xs++[Zx op v]) d (z+2):=by
 have hc:YO (Zx op v).op=true:=NY ho
 refine ⟨Gv h.fs (by rw [h.dn];exact Z64 ho hv),?_,Hu h.op ?_,?_⟩
 ·rw [Ta,h.dn,Yu,Zk hc];rfl
 ·rw [Ff];exact ⟨by show op<=15;omega,True.intro⟩
 ·have:=h.sz
  have e:(Zx op v).sz=2:=rfl
  rw [Q4,Yw,e,Yw];omega
theorem CL.cnts {op:Int} (ho:op=14∨op=15):∀{vs:LI} {xs:List Z5} {z:Nat},CL ds nf m xs d z->(∀v∈vs,0<=v/\v<((m+d:Nat):Int))->CL ds nf m (xs++vs.map (Zx op)) d (z+2*vs.length)
 | [],xs,z,h,_=>by simpa using h
 | v::r,xs,z,h,hv=>by
  have h1:=CL.cnts ho (vs:=r) (h.cnt ho (hv v (Xo ..))) fun x hx=>hv x (Xz _ hx)
  rw [T7,show xs++Zx op v::r.map (Zx op)=xs++[Zx op v]++r.map (Zx op) by simp]
  exact h1.le (by rw [YA];omega)
theorem CL.one (h:CL ds nf m xs d z) {s:Z5} (hs:fS ds nf (m+d) s) (hc:YO s.op=false) (ho:Kd VI s):CL ds nf m (xs++[s]) (d+1) (z+s.sz):=by
 refine ⟨Gv h.fs (by rw [h.dn];exact hs),by rw [EA hc,h.dn],Hu h.op ho,?_⟩
 have:=h.sz
 rw [Q4,Yw,Yw];omega
theorem CL.app (h:CL ds nf m xs d z) {ys:List Z5} {d2 z2:Nat} (h2:CL ds nf (m+d) ys d2 z2):CL ds nf m (xs++ys) (d+d2) (z+z2):=by
 refine ⟨Aj.2 ⟨h.fs,by rw [h.dn];exact h2.fs⟩,by rw [Ta,h.dn,h2.dn],Ht.2 ⟨h.op,h2.op⟩,?_⟩
 have:=h.sz
 have:=h2.sz
 rw [Q4];omega
end
structure KB (ds:List Zd) (nf m:Nat) (b:Z8) (z:Nat):Prop where
 fb:fB ds nf m b
 op:Vy VI b
 sz:b.sz<=z
section
variable {ds:List Zd} {nf m d z:Nat} {xs:List Z5}
theorem CL.block (h:CL ds nf m xs d z) {r:Int} (hr:0<=r/\r<((m+d:Nat):Int)):KB ds nf m ⟨xs,r⟩ (1+z):=by
 refine ⟨by rw [fB,h.dn];exact ⟨h.fs,hr⟩,by rw [Vy];exact h.op,?_⟩
 have:=h.sz
 rw [Z8.sz];omega
theorem KB.le {b:Z8} (h:KB ds nf m b z) {z2:Nat} (hz:z<=z2):KB ds nf m b z2:=⟨h.fb,h.op,V9 h.sz hz⟩
theorem KB.cl {b:Z8} (h:KB ds nf m b z):CL ds nf m b.steps (Yu b.steps) (z-1)/\0<=b.result/\b.result<((m+Yu b.steps:Nat):Int):=by
 obtain ⟨h1,h2⟩:=(J1 b).1 h.fb
 refine ⟨⟨h1,rfl,(Hs b).1 h.op,?_⟩,h2⟩
 have:=h.sz
 have:=b.sz_eq
 omega
theorem KB.put {b:Z8} (h:KB ds nf m b z) {as1 bs:LI} (ha:∀v∈as1,0<=v/\v<(m:Int)) (hb:∀v∈bs,0<=v/\v<(m:Int)):KB ds nf m ⟨as1.map (Zx 14)++bs.map (Zx 15)++b.steps,b.result⟩ (z+2*as1.length+2*bs.length):=by
 obtain ⟨h1,h2⟩:=h.cl
 have q1:CL ds nf m ([]++as1.map (Zx 14)) 0 (0+2*as1.length):=CL.nil.cnts (.inl rfl) ha
 have q2:=(q1.cnts (op:=15) (.inr rfl) hb).app h1
 have:=h.sz
 have:=b.sz_eq
 rw [Cd,Wg] at q2
 exact (q2.block h2).le om
end
structure KK (ds:List Zd) (nf:Nat) (sc:Nat->Nat) (ks:List Z8) (z:Nat):Prop where
 fb:Ud ds nf sc 0 ks
 op:Kc VI ks
 sz:YV ks<=z
section
variable {ds:List Zd} {nf m z:Nat} {sc:Nat->Nat}
theorem KK.nil:KK ds nf sc [] 0:=⟨True.intro,True.intro,X9 _⟩
theorem KK.snoc {ks:List Z8} {b:Z8} {j z2:Nat} (h:KK ds nf sc ks z) (hj:ks.length=j) (hb:KB ds nf (sc j) b z2):KK ds nf sc (ks++[b]) (z+z2):=by
 refine ⟨Oo h.fb (by rw [hj];exact hb.fb),Rw h.op hb.op,?_⟩
 have:=h.sz
 have:=hb.sz
 rw [G9];simp only [YV];omega
theorem KK.le {ks:List Z8} (h:KK ds nf sc ks z) {z2:Nat} (hz:z<=z2):KK ds nf sc ks z2:=⟨h.fb,h.op,V9 h.sz hz⟩
theorem Ot {s:Z5} {ks:List Z8} {into:Int} (h:FS ds nf m s) (h11:s.op<=11) (hl:ks.length=s.kids.length) (hi:0<=into/\into<=m) (hk:KK ds nf (V1 ds s.op s.num m) ks z):fS ds nf m ⟨s.op,s.num,into,s.args,ks⟩/\Kd VI ⟨s.op,s.num,into,s.args,ks⟩/\(Z5.mk s.op s.num into s.args ks).sz<=5+z:=by
 refine ⟨?_,?_,?_⟩
 ·rw [fS]
  refine ⟨h.op,h.args,fun q=>by omega,fun q=>by rw [hl];exact h.k7 q,fun q=>by rw [hl];exact h.k8 q,h.one,h.call,h.num,hi,h.alen,fun q=>?_,hk.fb⟩
  have:=h.kn q
  rw [this] at hl
  exact List.eq_nil_of_length_eq_zero hl
 ·rw [Kd];exact ⟨by show s.op<=15;omega,hk.op⟩
 ·have:=h.alen
  have:=hk.sz
  rw [Z5.sz];omega
end
structure KT (ds:List Zd) (nf m:Nat) (st:Z5) (z:Nat):Prop where
 fs:fS ds nf m st
 cb:YO st.op=false
 op:Kd VI st
 sz:st.sz<=z
theorem KT.of {ds:List Zd} {nf m z:Nat} {s:Z5} {ks:List Z8} {into:Int} (h:FS ds nf m s) (h11:s.op<=11) (hl:ks.length=s.kids.length) (hi:0<=into/\into<=m) (hk:KK ds nf (V1 ds s.op s.num m) ks z):KT ds nf m ⟨s.op,s.num,into,s.args,ks⟩ (5+z):=by
 obtain ⟨h1,h2,h3⟩:=Ot h h11 hl hi hk
 exact ⟨h1,by show YO s.op=false;simp [YO];omega,h2,h3⟩
theorem CL.kt {ds:List Zd} {nf m d z z2:Nat} {xs:List Z5} {st:Z5} (h:CL ds nf m xs d z) (hs:KT ds nf (m+d) st z2):CL ds nf m (xs++[st]) (d+1) (z+z2):=(h.one hs.fs hs.cb hs.op).le (by have:=hs.sz;omega)
theorem FS.few {ds:List Zd} {nf m:Nat} {s:Z5} (h:FS ds nf m s) (hd:Xq ds):s.kids.length<=3:=by
 by_cases h7:s.op=7
 ·have:=h.k7 h7;omega
 ·by_cases h8:s.op=8
  ·have:=h.k8 h8
   have:=DX hd s.num
   omega
  ·rw [h.kn ⟨h7,h8⟩];simp
theorem RF.lend {ds:List Zd} {nf q:Nat} {p:Int->Prop} {r:YF} {l:LI} (h:RF ds nf q p r) (h1:l.length<=3) (h2:∀v∈l,0<=v/\v<(r.params.length:Int)):RF ds nf q p ⟨r.params,l,r.result,r.body⟩:=⟨h.sig,⟨h1,h2⟩,h.body,h.op⟩
theorem RF.with {ds:List Zd} {nf q q2:Nat} {p p2:Int->Prop} {r:YF} {b:Z8} (h:RF ds nf q p r) (h1:fB ds nf r.params.length b) (h2:b.sz<=q2) (h3:Vy p2 b):RF ds nf q2 p2 ⟨r.params,r.lent,r.result,b⟩:=⟨h.sig,h.lent,⟨h1,h2⟩,h3⟩
theorem Z8.eta (b:Z8):Z8.mk b.steps b.result=b:=by cases b;rfl
theorem LC.at {n:ZF} {k:Nat} {xs:List LI} {i:Nat} {l:LI} {r:YF} (h:LC n k xs) (hl:xs[i]? = some l) (hr:n.routines[i]? = some r):l.length<=3/\∀v∈l,0<=v/\v<(r.params.length:Int):=⟨(h.ok i l hl).1,(h.ok i l hl).2 r hr⟩
theorem IT:∀{xs:List Z5},(∀s∈xs,Kd WQ s)->∀k,k<=xs.length->Yu (xs.take k)=k
 | _,_,0,_=>rfl
 | [],_,k+1,h=>absurd h (by simp)
 | x::r,h,k+1,hk=>by
  have h1:=((Ff x).1 (h x (Xo ..))).1
  have hc:YO x.op=false:=by have:x.op<=11:=h1;simp [YO];omega
  rw [AA,Yu,Zb (by rw [hc];simp),IT (fun s hs=>h s (Xz _ hs)) k (by simpa using hk)]
  omega
theorem KB.put1 {ds:List Zd} {nf m z:Nat} {b:Z8} (h:KB ds nf m b z) {op:Int} (ho:op=14∨op=15) {as1:LI} (ha:∀v∈as1,0<=v/\v<(m:Int)):KB ds nf m ⟨as1.map (Zx op)++b.steps,b.result⟩ (z+2*as1.length):=by
 obtain ⟨h1,h2⟩:=h.cl
 have q1:CL ds nf m ([]++as1.map (Zx op)) 0 (0+2*as1.length):=CL.nil.cnts ho ha
 have q2:=q1.app h1
 have:=h.sz
 have:=b.sz_eq
 rw [Cd,Wg] at q2
 exact (q2.block h2).le om
theorem FO.fin {n:ZF} {rs:List YF} {q q2:Nat} {p:Int->Prop} (h:FN n q2) (e:rs.length=n.routines.length) (hr:∀r∈rs,RF n.decls n.routines.length q p r):FO ⟨n.decls,rs⟩ q p/\rs.length=n.routines.length:=
 ⟨FO.all h.decls (by show 1<=rs.length/\rs.length<=4;rw [e];exact h.len) (by show ∀r∈rs,RF n.decls rs.length q p r;rw [e];exact hr),e⟩
theorem KT.le {ds:List Zd} {nf m z z2:Nat} {st:Z5} (h:KT ds nf m st z) (hz:z<=z2):KT ds nf m st z2:=⟨h.fs,h.cb,h.op,V9 h.sz hz⟩
theorem KB.len {ds:List Zd} {nf m z:Nat} {b:Z8} (h:KB ds nf m b z):b.steps.length<=z:=by
 have:=h.sz
 have:=b.sz_eq
 have:=Jh b.steps
 omega
def VR:List Z5->Int->Nat
 | [],_=>0
 | s::r,v=>(if gI s.args 0=v then 1 else 0)+VR r v
def VE (rn:List Z5):LI->Nat
 | []=>0
 | v::r=>VR rn v+VE rn r
theorem IK:∀(xs ys:List Z5) (v:Int),VR (xs++ys) v=VR xs v+VR ys v
 | [],ys,v=>by simp [VR]
 | x::r,ys,v=>by rw [KQ,VR,VR,IK r];omega
theorem Z40 {xs:List Z5} {k:Nat} {s:Z5} (h:xs[k]? = some s) (v:Int):VR (xs.take (k+1)) v=VR (xs.take k) v+(if gI s.args 0=v then 1 else 0):=by
 rw [V2 h,IK,VR,VR];omega
theorem NP:∀(xs:List Z5) (v:Int),VR xs v<=xs.length
 | [],v=>X9 _
 | x::r,v=>by have:=NP r v;rw [VR,YA];split<;>omega
theorem Z41 (xs:List Z5) (k:Nat) (v:Int):VR (xs.take k) v<=VR xs v:=by
 have h:=Yq (VR · v) (TI k xs)
 simp only [IK] at h;omega
theorem MT (rn:List Z5):∀xs ys:LI,VE rn (xs++ys)=VE rn xs+VE rn ys
 | [],ys=>by simp [VE]
 | x::r,ys=>by rw [KQ,VE,VE,MT rn r];omega
theorem Zh0 {rn:List Z5} {xs:LI} {k:Nat} {v:Int} (h:xs[k]? = some v):VE rn (xs.take (k+1))=VE rn (xs.take k)+VR rn v:=by
 rw [V2 h,MT,VE,VE];rfl
theorem Z17 (s:Z5) (r:List Z5):∀vs:LI,Ch vs->VE (s::r) vs<=1+VE r vs/\(¬gI s.args 0∈vs->VE (s::r) vs=VE r vs)
 | [],_=>by simp [VE]
 | v::vs,h=>by
  obtain ⟨h1,h2⟩:=WW.1 h
  obtain ⟨q1,q2⟩:=Z17 s r vs h2
  rw [VE,VE,VR]
  by_cases e:gI s.args 0=v
  ·have hn:¬gI s.args 0∈vs:=fun z=>by have:=h1 _ z;omega
   rw [Zk e,q2 hn]
   exact ⟨by omega,fun z=>absurd (YM.2 (.inl e)) z⟩
  ·rw [Zb e]
   exact ⟨by omega,fun z=>by rw [q2 fun y=>z (Xz _ y)];omega⟩
theorem Z18:∀(rn:List Z5) {vs:LI},Ch vs->VE rn vs<=rn.length
 | [],vs,_=>by
  have:∀xs:LI,VE [] xs=0:=fun xs=>by
   induction xs with
   | nil=>rfl
   | cons x r ih=>rw [VE,ih];rfl
  rw [this];exact Q9 _
 | s::r,vs,h=>by
  have h1:=(Z17 s r vs h).1
  have h2:=Z18 r h
  rw [YA];omega
theorem MU (rn:List Z5) (xs:LI) (k:Nat):VE rn (xs.take k)<=VE rn xs:=by
 have h:=Yq (VE rn) (TI k xs)
 rw [MT] at h;omega
def Ni (m:Nat) (rn:List Z5):Prop:=∀s∈rn,∃a,s.args=[a]/\0<=a/\a<(m:Int)
theorem O4 {xs:List Z5} {k:Nat} {s:Z5} (h:xs[k]? = some s):Yu (xs.take (k+1))=Yu (xs.take k)+(if YO s.op=true then 0 else 1):=by rw [V2 h,Ta,Yu,Yu];rfl
theorem KT.eq {ds:List Zd} {nf m z:Nat} {s:Z5} {ks:List Z8} (h:FS ds nf m s) (h11:s.op<=11) (hl:ks.length=s.kids.length) (hk:KK ds nf (V1 ds s.op s.num m) ks z):KT ds nf m ⟨s.op,s.num,s.into,s.args,ks⟩ (1+s.args.length+z):=by
 obtain ⟨h1,h2,h3⟩:=Ot h h11 hl h.into hk
 refine ⟨h1,by show YO s.op=false;simp [YO];omega,h2,?_⟩
 have:=hk.sz
 rw [Z5.sz];omega
theorem FS.pair {ds:List Zd} {nf m:Nat} {s:Z5} (h:FS ds nf m s) (hp:s.op=14∨s.op=15):(∃a,s.args=[a]/\0<=a/\a<(m:Int))/\s.sz=2/\YO s.op=true:=by
 obtain ⟨h1,h2,h3,a,h4⟩:=h.cnt om
 have h5:=h.args a (by rw [h4];exact XF.2 rfl)
 refine ⟨⟨a,h4,h5⟩,?_,NY hp⟩
 rw [s.sz_eq,h3,h4];rfl
theorem FS.not_pair {ds:List Zd} {nf m:Nat} {s:Z5} (h:FS ds nf m s) (hp:¬(s.op=14∨s.op=15)) (h15:VI s.op):s.op<=11/\YO s.op=false:=by
 have h1:s.op<=15:=h15
 have h2:=h.op
 exact ⟨by omega,by simp [YO];omega⟩
theorem CL.run {ds:List Zd} {nf m d z:Nat} {xs:List Z5} {D R:LI} {rn:List Z5} (h:CL ds nf m xs d z) (hr:Ni (m+d) rn) (hD:∀v∈D,∃s∈rn,s.args=[v]) (hR:∀v∈R,∃s∈rn,s.args=[v]):CL ds nf m (xs++(D.map (Zx 14)++R.map (Zx 15))) d (z+2*(D.length+R.length)):=by
 have key:∀(A:LI),(∀v∈A,∃s∈rn,s.args=[v])->∀v∈A,0<=v/\v<((m+d:Nat):Int):=fun A hA v hv=>by
  obtain ⟨s,hs,e⟩:=hA v hv
  obtain ⟨a,e2,e3⟩:=hr s hs
  rw [e] at e2
  cases e2
  exact e3
 have h2:=(h.cnts (op:=14) (.inl rfl) (key D hD)).cnts (op:=15) (.inr rfl) (key R hR)
 rw [<-Vi]
 exact h2.le om
def WO (xs:List Z5) (i:Nat) (s:Z5):List Z5:=xs.take i++[s]++xs.drop i
theorem HB {xs:List Z5} (i:Nat) (s:Z5):Yw (WO xs i s)=Yw xs+s.sz:=by
 have h:=Yq Yw (TI i xs)
 rw [Q4] at h
 rw [WO,Q4,Q4,Yw,Yw];omega
theorem RY {xs:List Z5} {i:Nat} {s:Z5} (h:i<=xs.length):(WO xs i s).length=xs.length+1:=by
 simp [WO,VH h];omega
def B5 (b:Z8) (i j:Nat) (v:Int):Z8:=⟨WO (WO b.steps j (Zx 15 v)) i (Zx 14 v),b.result⟩
def withR (n:ZF) (f:Nat) (rt:YF) (b:Z8):ZF:=⟨n.decls,n.routines.set f ⟨rt.params,rt.lent,rt.result,b⟩⟩
def G0 (n n2:ZF):Prop:=n2=n∨∃f rt i j v,n.routines[f]? = some rt/\i<=j/\j<=rt.body.steps.length/\0<=v/\v<((rt.params.length+Yu (rt.body.steps.take i):Nat):Int)/\n2=withR n f rt (B5 rt.body i j v)
theorem CL.put {ds:List Zd} {nf m:Nat} {xs:List Z5} {d z:Nat} (h:CL ds nf m xs d z) {i:Nat} {op v:Int} (ho:op=14∨op=15) (hv:0<=v/\v<((m+Yu (xs.take i):Nat):Int)):CL ds nf m (WO xs i (Zx op v)) d (z+2):=by
 have hs:=h.fs
 have hp:=h.op
 have e:=TI i xs
 rw [<-e] at hs hp
 rw [Aj] at hs
 rw [Ht] at hp
 have h1:CL ds nf m (xs.take i) (Yu (xs.take i)) (Yw (xs.take i)):=⟨hs.1,rfl,hp.1,X9 _⟩
 have h2:CL ds nf (m+Yu (xs.take i)) (xs.drop i) (Yu (xs.drop i)) (Yw (xs.drop i)):=⟨hs.2,rfl,hp.2,X9 _⟩
 have h3:=(h1.cnt ho hv).app h2
 have e1:=Yq Yw e
 have e2:=Yq Yu e
 rw [Q4] at e1
 rw [Ta,h.dn] at e2
 have:=h.sz
 rw [e2] at h3
 exact h3.le om
theorem RZ {xs:List Z5} {i j:Nat} {s:Z5} (h:i<=j) (hj:j<=xs.length):(WO xs j s).take i=xs.take i:=by
 rw [WO,Vi,List.take_append_of_le_length (by rw [XW];omega),List.take_take,VH h]
theorem Z9l {ds:List Zd} {nf m z:Nat} {b:Z8} (h:KB ds nf m b z) {i j:Nat} {v:Int} (hij:i<=j) (hj:j<=b.steps.length) (hv:0<=v/\v<((m+Yu (b.steps.take i):Nat):Int)):KB ds nf m (B5 b i j v) (z+4):=by
 obtain ⟨h1,h2⟩:=h.cl
 have hm:Yu (b.steps.take i)<=Yu (b.steps.take j):=by
  have e:=Yq Yu (TI i (b.steps.take j))
  rw [Ta,List.take_take,VH hij] at e;omega
 have h3:=(h1.put (i:=j) (op:=15) (v:=v) (.inr rfl) om).put (i:=i) (op:=14) (v:=v) (.inl rfl) (by rw [RZ hij hj];exact hv)
 have:=h.sz
 have:=b.sz_eq
 exact (h3.block h2).le om
theorem FO.held {n n2:ZF} {q:Nat} (h:FO n q VI) (hh:G0 n n2):FO n2 (q+4) VI:=by
 rcases hh with rfl|⟨f,rt,i,j,v,h1,h2,h3,h4,h5,rfl⟩
 ·exact ⟨⟨h.fn.decls,h.fn.len,h.fn.sigs,h.fn.lent,fun r hr=>⟨(h.fn.body r hr).1,by have:=(h.fn.body r hr).2;omega⟩⟩,h.op⟩
 ·have hr:=h.rf (Y7 h1)
  have hk:KB n.decls n.routines.length rt.params.length (B5 rt.body i j v) (q+4):=Z9l ⟨hr.body.1,hr.op,hr.body.2⟩ h2 h3 ⟨h4,h5⟩
  refine FO.all h.fn.decls (by show 1<=(n.routines.set _ _).length/\(n.routines.set _ _).length<=4;rw [VG];exact h.fn.len) fun r hm=>?_
  show RF n.decls (n.routines.set _ _).length _ _ r
  rw [VG]
  rcases List.mem_or_eq_of_mem_set hm with hm|rfl
  ·have hq:=h.rf hm
   exact ⟨hq.sig,hq.lent,⟨hq.body.1,by have:=hq.body.2;omega⟩,hq.op⟩
  ·exact ⟨hr.sig,hr.lent,⟨hk.fb,hk.sz⟩,hk.op⟩
mutual
def Z5.rb:Z5->Prop
 | .mk _ _ _ _ kids=>A5 kids
def A5:List Z8->Prop
 | []=>True
 | b::r=>Z8.rb b/\A5 r
def KM:List Z5->Prop
 | []=>True
 | s::r=>Z5.rb s/\KM r
def Z8.rb:Z8->Prop
 | .mk steps result=>KM steps/\-1000000000<=result/\result<=1000000000
end
theorem Z5.rb_eq (s:Z5):s.rb=A5 s.kids:=by cases s;rw [Z5.rb];rfl
theorem Z8.rb_eq (b:Z8):b.rb=(KM b.steps/\-1000000000<=b.result/\b.result<=1000000000):=by cases b;rw [Z8.rb];rfl
theorem Ee:∀{xs:List Z5},KM xs↔∀s∈xs,s.rb
 | []=>by simp [KM]
 | s::r=>by rw [KM,Ee];simp
section
variable {ds:List Zd} {nf:Nat}
mutual
theorem Zd7:∀(s:Z5) {m:Nat},fS ds nf m s->m+4*s.sz<=900000000->Xq ds->s.rb
 | .mk op num into args kids,m,h,hb,hd=>by
  rw [fS] at h
  obtain ⟨h1,h2,h3,h4,h5,h6,h7,h8,h9,h10,h11,h12⟩:=h
  rw [Z5.sz] at hb
  rw [Z5.rb]
  refine S3 kids h12 (fun k=>?_) hd
  have hf:=Vs hd (gI (Y0 ds num) k)
  show V1 ds op num m k+4*YV kids<=900000003
  rw [V1];split<;>omega
theorem S3:∀(bs:List Z8) {sc:Nat->Nat} {k:Nat},Ud ds nf sc k bs->(∀k,sc k+4*YV bs<=900000003)->Xq ds->A5 bs
 | [],_,_,_,_,_=>True.intro
 | b::r,sc,k,h,hb,hd=>by
  have hp:=b.sz_eq
  exact ⟨S2 b h.1 (by have:=hb k;rw [YV] at this;omega) hd,S3 r h.2 (fun j=>by have:=hb j;rw [YV] at this;omega) hd⟩
theorem S4:∀(xs:List Z5) {m:Nat},Wb ds nf m xs->m+4*Yw xs<=900000000->Xq ds->KM xs
 | [],_,_,_,_=>True.intro
 | s::r,m,h,hb,hd=>by
  rw [Yw] at hb
  have hp:=s.sz_pos
  refine ⟨Zd7 s h.1 om hd,S4 r h.2 ?_ hd⟩
  split<;>omega
theorem S2:∀(b:Z8) {m:Nat},fB ds nf m b->m+4*b.sz<=900000004->Xq ds->b.rb
 | .mk steps result,m,h,hb,hd=>by
  rw [Z8.sz] at hb
  rw [fB] at h
  rw [Z8.rb]
  have h1:=AQ steps
  have h2:steps.length<=Yw steps:=by
   clear h h1 hb
   induction steps with
   | nil=>simp
   | cons x r ih=>have:=x.sz_pos;rw [Yw,YA];omega
  exact ⟨S4 steps h.1 om hd,by omega,by omega⟩
end
theorem E6 {op v:Int}:(Zx op v).rb:=by rw [Z5.rb_eq];exact True.intro
theorem Zd8 {b:Z8} {x q:Int} {fs:LI} (h:b.rb):(Ks b x fs q).rb:=by
 rw [Z8.rb_eq,Ee] at h
 rw [Z8.rb_eq,Ee]
 refine ⟨fun s hs=>?_,h.2⟩
 have hs:s∈QU b.steps x fs q:=hs
 rw [QU] at hs
 split at hs
 ·simp only [Xf,XA,XF] at hs
  rcases hs with ((⟨a,_,rfl⟩|rfl)|⟨a,_,rfl⟩)|hs
  ·exact E6
  ·exact E6
  ·exact E6
  ·exact h.1 s (List.mem_of_mem_drop hs)
 ·exact h.1 s hs
mutual
theorem Zdb:∀(s:Z5) {m:Nat},s.rb->(KJ ds m s).rb
 | .mk op num into args kids,m,h=>by
  rw [Z5.rb] at h
  rw [KJ,Z5.rb]
  exact S7 kids h
theorem S7:∀(bs:List Z8) {m:Nat} {op num:Int} {args:LI} {k:Nat},A5 bs->A5 (UU ds m op num args bs k)
 | [],_,_,_,_,_,_=>by rw [UU];exact True.intro
 | b::r,m,op,num,args,k,h=>by
  rw [UU,A5]
  refine ⟨?_,S7 r h.2⟩
  split
  ·exact Zd8 (Mq b h.1)
  ·exact Mq b h.1
theorem S8:∀(xs:List Z5) {m:Nat},KM xs->KM (U5 ds m xs)
 | [],_,_=>by rw [U5];exact True.intro
 | s::r,m,h=>by rw [U5,KM];exact ⟨Zdb s h.1,S8 r h.2⟩
theorem Mq:∀(b:Z8) {m:Nat},b.rb->(WU ds m b).rb
 | .mk steps result,m,h=>by
  rw [Z8.rb] at h
  rw [WU,Z8.rb]
  exact ⟨S8 steps h.1,h.2⟩
end
theorem Zd9 {b:Z8} {x:Int} {many:Nat} (h:b.rb):(VT b x many).rb:=by
 rw [Z8.rb_eq] at h
 rw [VT,Z8.rb_eq]
 refine ⟨?_,h.2⟩
 show KM (VO b.steps x many)
 rw [VO]
 split
 ·exact h.1
 ·rename_i hq
  obtain ⟨_,_,t,h5,h7,h6⟩:=A9 (fun z=>hq (.inr z))
  have h:=h.1
  rw [Ee] at h ⊢
  intro s hs
  rcases List.mem_or_eq_of_mem_set hs with hs|rfl
  ·rcases List.mem_or_eq_of_mem_set hs with hs|rfl
   ·exact h s hs
   ·exact E6
  ·have:=h t (Y7 h5)
   rw [h6,Qn,Z5.rb_eq]
   rw [Z5.rb_eq] at this
   exact this
mutual
theorem Zda:∀(s:Z5) {K:LI},s.rb->(Tn ds K s).rb
 | .mk op num into args kids,K,h=>by
  rw [Z5.rb] at h
  rw [Tn,Z5.rb]
  exact S5 kids h
theorem S5:∀(bs:List Z8) {K:LI} {op num:Int} {args:LI} {k:Nat},A5 bs->A5 (U4 ds K op num args bs k)
 | [],_,_,_,_,_,_=>True.intro
 | b::r,K,op,num,args,k,h=>by
  rw [U4,A5]
  refine ⟨?_,S5 r h.2⟩
  split
  ·exact Zd9 (Mp b h.1)
  ·exact Mp b h.1
theorem S6:∀(xs:List Z5) {K:LI},KM xs->KM (Ug ds K xs)
 | [],_,_=>True.intro
 | s::r,K,h=>⟨Zda s h.1,S6 r h.2⟩
theorem Mp:∀(b:Z8) {K:LI},b.rb->(Wt ds K b).rb
 | .mk steps result,K,h=>by
  rw [Z8.rb] at h
  rw [Wt,Z8.rb]
  exact ⟨S6 steps h.1,h.2⟩
end
end
structure Wl (ds:List Zd) (b:Z8):Prop where
 w:wB ds b
 nr:Kb b
 rng:b.rng
structure TS (ds:List Zd) (s:Z5):Prop where
 w:wS ds s
 nr:D0 s
 rng:s.rng
section
variable {ds:List Zd}
theorem Ef:∀{xs:List Z5},Au xs↔∀s∈xs,s.rng
 | []=>by simp [Au]
 | s::r=>by rw [Au,Ef];simp
theorem Iz:∀{xs:List Z8},A6 xs↔∀s∈xs,s.rng
 | []=>by simp [A6]
 | s::r=>by rw [A6,Iz];simp
theorem Wl.iff {b:Z8}:Wl ds b↔∀s∈b.steps,TS ds s:=by
 constructor
 ·intro h s hs
  have h3:=h.rng
  rw [Z8.rng_eq] at h3
  exact ⟨Bl.1 ((Jk b).1 h.w) s hs,Fb.1 ((Fa b).1 h.nr) s hs,Ef.1 h3 s hs⟩
 ·intro h
  exact ⟨(Jk b).2 (Bl.2 fun s hs=>(h s hs).w),(Fa b).2 (Fb.2 fun s hs=>(h s hs).nr),by rw [Z8.rng_eq];exact Ef.2 fun s hs=>(h s hs).rng⟩
theorem TS.kid {s:Z5} {b:Z8} (h:TS ds s) (hb:b∈s.kids):Wl ds b:=by
 have h3:=h.rng
 rw [Z5.rng_eq] at h3
 exact ⟨Ia.1 ((JQ s).1 h.w).2.2.2 b hb,Ho.1 ((DW s).1 h.nr).2 b hb,Iz.1 h3.2 b hb⟩
theorem TS.kids {s:Z5} {ks:List Z8} (h:TS ds s) (hl:ks.length=s.kids.length) (hk:∀b∈ks,Wl ds b):TS ds ⟨s.op,s.num,s.into,s.args,ks⟩:=by
 obtain ⟨h1,h2,h3,h4⟩:=(JQ s).1 h.w
 have h5:=h.rng
 rw [Z5.rng_eq] at h5
 refine ⟨(JQ _).2 ⟨h1,fun hc=>?_,fun h8=>⟨(h3 h8).1,hl.trans (h3 h8).2⟩,Ia.2 fun b hb=>(hk b hb).w⟩,(DW _).2 ⟨((DW s).1 h.nr).1,Ho.2 fun b hb=>(hk b hb).nr⟩,by rw [Z5.rng_eq];exact ⟨h5.1,Iz.2 fun b hb=>(hk b hb).rng⟩⟩
 obtain ⟨q1,q2,q3,q4⟩:=h2 hc
 exact ⟨q1,q2,List.eq_nil_of_length_eq_zero (show ks.length=0 by rw [hl,q3];rfl),q4⟩
theorem TS.cnt {op v:Int} (h:op=14∨op=15∨op=16):TS ds (Zx op v):=⟨Zi5 h,(DW _).2 ⟨by show op≠17;omega,True.intro⟩,by rw [Z5.rng_eq];exact ⟨⟨by show (-9223372036854775808:Int)<=0;decide,by show (0:Int)<=_;decide⟩,True.intro⟩⟩
theorem Wl.open {b:Z8} {x q:Int} {fs:LI} (h:Wl ds b):Wl ds (Ks b x fs q):=by
 rw [Wl.iff] at h ⊢
 intro s hs
 have hs:s∈QU b.steps x fs q:=hs
 rw [QU] at hs
 split at hs
 ·simp only [Xf,XA,XF] at hs
  rcases hs with ((⟨a,_,rfl⟩|rfl)|⟨a,_,rfl⟩)|hs
  ·exact TS.cnt om
  ·exact TS.cnt om
  ·exact TS.cnt om
  ·exact h s (List.mem_of_mem_drop hs)
 ·exact h s hs
theorem HU {m:Nat} {op num:Int} {args:LI}:∀{bs:List Z8} {k:Nat},(UU ds m op num args bs k).length=bs.length
 | [],_=>rfl
 | b::r,k=>by rw [UU,YA,YA,HU (bs:=r)]
mutual
theorem TS.sp:∀(s:Z5) {m:Nat},TS ds s->TS ds (KJ ds m s)
 | .mk op num into args kids,m,h=>by
  rw [KJ]
  exact h.kids HU (Wls.sp kids fun b hb=>h.kid hb)
theorem Wls.sp:∀(bs:List Z8) {m:Nat} {op num:Int} {args:LI} {k:Nat},(∀b∈bs,Wl ds b)->∀b∈UU ds m op num args bs k,Wl ds b
 | [],_,_,_,_,_,_,b,hb=>by cases hb
 | c::r,m,op,num,args,k,h,b,hb=>by
  rw [UU] at hb
  rcases YM.1 hb with rfl|hb
  ·split
   ·exact (Wl.sp c (h c (Xo ..))).open
   ·exact Wl.sp c (h c (Xo ..))
  ·exact Wls.sp r (fun x hx=>h x (Xz _ hx)) b hb
theorem WlSs.sp:∀(xs:List Z5) {m:Nat},(∀s∈xs,TS ds s)->∀s∈U5 ds m xs,TS ds s
 | [],_,_,s,hs=>by cases hs
 | c::r,m,h,s,hs=>by
  rw [U5] at hs
  rcases YM.1 hs with rfl|hs
  ·exact TS.sp c (h c (Xo ..))
  ·exact WlSs.sp r (fun x hx=>h x (Xz _ hx)) s hs
theorem Wl.sp:∀(b:Z8) {m:Nat},Wl ds b->Wl ds (WU ds m b)
 | .mk steps result,m,h=>by
  rw [WU,Wl.iff]
  exact WlSs.sp steps (Wl.iff.1 h)
end
theorem Zdu {b:Z8} {x:Int} {many:Nat} (h:b.rng):(VT b x many).rng:=by
 rw [Z8.rng_eq] at h
 rw [VT,Z8.rng_eq]
 show Au (VO b.steps x many)
 rw [VO]
 split
 ·exact h
 ·rename_i hq
  obtain ⟨_,_,t,h5,h7,h6⟩:=A9 (fun z=>hq (.inr z))
  rw [Ef] at h ⊢
  intro s hs
  rcases List.mem_or_eq_of_mem_set hs with hs|rfl
  ·rcases List.mem_or_eq_of_mem_set hs with hs|rfl
   ·exact h s hs
   ·rw [Z5.rng_eq];exact ⟨⟨by show (-9223372036854775808:Int)<=0;decide,by show (0:Int)<=_;decide⟩,True.intro⟩
  ·have:=h t (Y7 h5)
   rw [h6,Qn,Z5.rng_eq]
   rw [Z5.rng_eq] at this
   exact this
mutual
theorem Zdv:∀(s:Z5) {K:LI},s.rng->(Tn ds K s).rng
 | .mk op num into args kids,K,h=>by
  rw [Z5.rng] at h
  rw [Tn,Z5.rng]
  exact ⟨h.1,Sr kids h.2⟩
theorem Sr:∀(bs:List Z8) {K:LI} {op num:Int} {args:LI} {k:Nat},A6 bs->A6 (U4 ds K op num args bs k)
 | [],_,_,_,_,_,_=>True.intro
 | b::r,K,op,num,args,k,h=>by
  rw [U4,A6]
  refine ⟨?_,Sr r h.2⟩
  split
  ·exact Zdu (Mu b h.1)
  ·exact Mu b h.1
theorem Ss:∀(xs:List Z5) {K:LI},Au xs->Au (Ug ds K xs)
 | [],_,_=>True.intro
 | s::r,K,h=>⟨Zdv s h.1,Ss r h.2⟩
theorem Mu:∀(b:Z8) {K:LI},b.rng->(Wt ds K b).rng
 | .mk steps result,K,h=>by
  rw [Z8.rng] at h
  rw [Wt,Z8.rng]
  exact Ss steps h
end
end
mutual
theorem Zc3:∀s:Z5,Kd VI s->D0 s
 | .mk op num into args kids,h=>by
  rw [Kd] at h
  rw [D0]
  exact ⟨by have:op<=15:=h.1;omega,Rp kids h.2⟩
theorem Rp:∀bs:List Z8,Kc VI bs->BP bs
 | [],_=>True.intro
 | b::r,h=>⟨Ro b h.1,Rp r h.2⟩
theorem Rq:∀bs:List Z5,TZ VI bs->BQ bs
 | [],_=>True.intro
 | b::r,h=>⟨Zc3 b h.1,Rq r h.2⟩
theorem Ro:∀b:Z8,Vy VI b->Kb b
 | .mk steps result,h=>by
  rw [Vy] at h
  rw [Kb]
  exact Rq steps h
end
structure ZR (q:Nat) (r:YF):Prop where
 params:r.params.length<=3
 lent:r.lent.length<=10
 body:r.body.sz<=q
 rng:r.body.rng
 rb:r.body.rb
structure ZN (n:ZF) (q:Nat):Prop where
 decls:AD n.decls
 len:1<=n.routines.length/\n.routines.length<=4
 rt:∀r∈n.routines,ZR q r
theorem ZR.le {q q2:Nat} {r:YF} (h:ZR q r) (hq:q<=q2):ZR q2 r:=⟨h.params,h.lent,V9 h.body hq,h.rng,h.rb⟩
theorem ZN.le {n:ZF} {q q2:Nat} (h:ZN n q) (hq:q<=q2):ZN n q2:=⟨h.decls,h.len,fun r hr=>(h.rt r hr).le hq⟩
theorem ZN.sz {n:ZF} {q:Nat} (h:ZN n q) (hq:q<=10000000):JW n:=
 ⟨⟨by have:=h.decls.1;omega,fun d hd=>by have:=(h.decls.2 d hd).1;omega,fun d hd c hc=>by have:=(h.decls.2 d hd).2 c hc;omega⟩,by have:=h.len;omega,fun r hr=>by have:=(h.rt r hr).params;omega,fun r hr=>by have:=(h.rt r hr).lent;omega,fun r hr=>by have:=(h.rt r hr).body;omega⟩
theorem FO.wl {n:ZF} {q:Nat} (h:FO n q VI) (hq:q<=100000000):∀r∈n.routines,Wl n.decls r.body:=fun r hr=>by
 have h1:=h.rf hr
 have h2:r.params.length<=3:=(Tt.bd (f:=⟨r.params,r.result,default⟩) h1.sig).1
 exact ⟨N5 r.body h1.body.1 (by have:=h1.body.2;omega) h.fn.decls.ok,Ro r.body h1.op,Mt r.body h1.body.1⟩
theorem FO.zn {n:ZF} {q:Nat} {p:Int->Prop} (h:FO n q p) (hq:q<=100000000:=by omega):ZN n q:=
 ⟨h.fn.decls.ad,h.fn.len,fun r hr=>⟨(Tt.bd (f:=⟨r.params,r.result,default⟩) (h.fn.sigs r hr)).1,by have:=(h.fn.lent r hr).1;omega,(h.fn.body r hr).2,Mt r.body (h.fn.body r hr).1,S2 r.body (h.fn.body r hr).1 (by have h2:r.params.length<=3:=(Tt.bd (f:=⟨r.params,r.result,default⟩) (h.fn.sigs r hr)).1;have:=(h.fn.body r hr).2;omega) h.fn.decls.ok⟩⟩
structure WN (n:ZF) (q:Nat):Prop where
 ok:Xx n
 zn:ZN n q
 wl:∀r∈n.routines,Wl n.decls r.body
theorem FO.wn {n:ZF} {q:Nat} (h:FO n q VI) (hq:q<=100000000):WN n q:=⟨h.fn.ok,h.zn hq,h.wl hq⟩
theorem WN.sp {n:ZF} {q:Nat} (h:WN n q):WN (D7 n) (9*q):=by
 refine ⟨⟨h.ok.decls,by show (n.routines.map _).length<=4;rw [T6];exact h.ok.len,fun r hr=>?_,fun r hr=>?_⟩,⟨h.zn.decls,by show 1<=(n.routines.map _).length/\(n.routines.map _).length<=4;rw [T6];exact h.zn.len,fun r hr=>?_⟩,fun r hr=>?_⟩
 ·obtain ⟨s,hs,rfl⟩:=XA.1 hr;exact h.ok.params s hs
 ·obtain ⟨s,hs,rfl⟩:=XA.1 hr;exact h.ok.lent s hs
 ·obtain ⟨s,hs,rfl⟩:=XA.1 hr
  have hz:=h.zn.rt s hs
  refine ⟨hz.params,hz.lent,?_,(Wl.sp s.body (h.wl s hs)).rng,Mq s.body hz.rb⟩
  have h1:=HS h.ok.decls s.body (m:=s.params.length) (h.wl s hs).w
  have h2:=s.body.pz_le
  have h3:=hz.body
  show (WU n.decls s.params.length s.body).sz<=9*q
  omega
 ·obtain ⟨s,hs,rfl⟩:=XA.1 hr;exact Wl.sp s.body (h.wl s hs)
theorem WN.ru {n:ZF} {q:Nat} (h:WN n q):ZN (D6 n) q:=by
 refine ⟨h.zn.decls,by show 1<=(n.routines.map _).length/\(n.routines.map _).length<=4;rw [T6];exact h.zn.len,fun r hr=>?_⟩
 obtain ⟨s,hs,rfl⟩:=XA.1 hr
 have hz:=h.zn.rt s hs
 refine ⟨hz.params,hz.lent,?_,Mu s.body (h.wl s hs).rng,Mp s.body hz.rb⟩
 have h1:=My s.body (K:=[]) (h.wl s hs).w
 have h3:=hz.body
 show (Wt n.decls [] s.body).sz<=q
 omega
theorem HA {xs:List Z5} {i:Nat} {s t:Z5} (h:t∈WO xs i s):t∈xs∨t=s:=by
 rw [WO] at h
 simp only [Xf,XF] at h
 rcases h with (h|h)|h
 ·exact .inl (QR h)
 ·exact .inr h
 ·exact .inl (List.mem_of_mem_drop h)
theorem Sq {op v:Int}:(Zx op v).rng:=by rw [Z5.rng_eq];exact ⟨⟨by show (-9223372036854775808:Int)<=0;decide,by show (0:Int)<=_;decide⟩,True.intro⟩
theorem ZN.withR {n:ZF} {q q2:Nat} {f:Nat} {rt:YF} {b:Z8} (h:ZN n q) (hr:n.routines[f]? = some rt) (hq:q<=q2) (hb:b.sz<=q2) (hg:b.rng) (hbr:b.rb):ZN (withR n f rt b) q2:=by
 refine ⟨h.decls,by show 1<=(n.routines.set _ _).length/\(n.routines.set _ _).length<=4;rw [VG];exact h.len,fun r hm=>?_⟩
 rcases List.mem_or_eq_of_mem_set hm with hm|rfl
 ·exact (h.rt r hm).le hq
 ·have:=h.rt rt (Y7 hr)
  exact ⟨this.params,this.lent,hb,hg,hbr⟩
theorem ZN.held {n n2:ZF} {q:Nat} (h:ZN n q) (hh:G0 n n2):ZN n2 (q+4):=by
 rcases hh with rfl|⟨f,rt,i,j,v,h1,h2,h3,h4,h5,rfl⟩
 ·exact h.le om
 ·have hz:=h.rt rt (Y7 h1)
  refine h.withR h1 om ?_ ?_ (by have hb:=hz.rb;rw [Z8.rb_eq,Ee] at hb;rw [B5,Z8.rb_eq,Ee];refine ⟨fun s hs=>?_,hb.2⟩;rcases HA hs with hs|rfl<;>first|exact E6|(rcases HA hs with hs|rfl<;>first|exact E6|exact hb.1 s hs))
  ·rw [B5,Z8.sz,HB,HB]
   have e1:(Zx 14 v).sz=2:=rfl
   have e2:(Zx 15 v).sz=2:=rfl
   have:=hz.body
   have:=rt.body.sz_eq
   omega
  ·have hg:=hz.rng
   rw [Z8.rng_eq,Ef] at hg
   rw [B5,Z8.rng_eq,Ef]
   intro s hs
   rcases HA hs with hs|rfl
   ·rcases HA hs with hs|rfl
    ·exact hg s hs
    ·exact Sq
   ·exact Sq
theorem FO.le {n:ZF} {q q2:Nat} {p:Int->Prop} (h:FO n q p) (hq:q<=q2):FO n q2 p:=⟨⟨h.fn.decls,h.fn.len,h.fn.sigs,h.fn.lent,fun r hr=>⟨(h.fn.body r hr).1,V9 (h.fn.body r hr).2 hq⟩⟩,h.op⟩
section
variable {ds:List Zd} {nf:Nat}
theorem Z65 {m:Nat} {s:Z5} (h:fS ds nf m s) (hc:YO s.op=true):s.num=0/\s.into=0/\s.kids=[]/\∃a,s.args=[a]/\0<=a/\a<m:=by
 have h1:=(AX s).1 h
 have ho:14<=s.op/\s.op<=17:=of_decide_eq_true hc
 obtain ⟨a1,a2,a3,a,a4⟩:=h1.cnt ho.1
 exact ⟨a1,a2,a3,a,a4,h1.args a (by rw [a4];exact XF.2 rfl)⟩
theorem SR:∀{xs:List Z5} {m:Nat},Wb ds nf m xs->(∀s∈xs.take (XN xs),0<=gI s.args 0/\gI s.args 0<m)/\Wb ds nf m (xs.drop (XN xs))/\Yu (xs.drop (XN xs))=Yu xs
 | [],m,h=>⟨fun s hs=>by simp [XN] at hs,h,rfl⟩
 | s::r,m,h=>by
  rw [XN]
  by_cases hq:s.op=14∨s.op=15
  ·have hc:YO s.op=true:=by simp [YO];omega
   rw [Zk hq]
   rw [Wb,Zk hc] at h
   obtain ⟨h1,h2,h3⟩:=SR h.2
   obtain ⟨_,_,_,a,ha,hb⟩:=Z65 h.1 hc
   refine ⟨fun t ht=>?_,by rw [List.drop_succ_cons];exact h2,by rw [List.drop_succ_cons,Yu,Zk hc,Wg];exact h3⟩
   rw [AA] at ht
   rcases YM.1 ht with rfl|ht
   ·rw [ha];exact hb
   ·exact h1 t ht
  ·rw [Zb hq]
   exact ⟨fun t ht=>by simp at ht,h,rfl⟩
theorem G6 {op:Int} {P:Int->Prop}:∀{xs:List Z5},(∀s∈xs,P (gI s.args 0))->∀a∈Wo op xs,P a
 | [],_,a,h=>by simp [Wo] at h
 | s::r,hp,a,h=>by
  rw [Wo] at h
  split at h
  ·rcases YM.1 h with rfl|h
   ·exact hp s (Xo ..)
   ·exact G6 (fun t ht=>hp t (Xz _ ht)) a h
  ·exact G6 (fun t ht=>hp t (Xz _ ht)) a h
theorem Hw {P:Int->Prop}:∀{fs:LI} {q:Int} {D R:LI},(∀a∈D,P a)->(∀a∈R,P a)->(∀a,q<=a->a<q+fs.length->P a)->(∀a∈(Uw fs q D R).1,P a)/\∀a∈(Uw fs q D R).2,P a
 | [],q,D,R,hD,hR,_=>⟨hD,hR⟩
 | f::r,q,D,R,hD,hR,hq=>by
  have hq':∀a,q+1<=a->a<q+1+r.length->P a:=fun a h1 h2=>hq a om (by simp only [YA];omega)
  rw [Uw]
  split
  ·exact Hw (fun a ha=>hD a (List.mem_of_mem_erase ha)) hR hq'
  ·split
   ·refine Hw hD (fun a ha=>?_) hq'
    rcases Xf.1 ha with ha|ha
    ·exact hR a ha
    ·rw [XF.1 ha];exact hq q om (by simp only [YA];omega)
   ·exact Hw hD hR hq'
theorem Z68 {m q:Nat} {xs:List Z5} {x:Int} {fs:LI} (h:Wb ds nf m xs) (hx:0<=x/\x<m) (hq:q+fs.length<=m):Wb ds nf m (QU xs x fs q)/\Yu (QU xs x fs q)=Yu xs:=by
 rw [QU]
 split
 ·obtain ⟨h1,h2,h3⟩:=SR h
  have hp:(∀a∈(Jb xs x fs q).1,0<=a/\a<(m:Int))/\∀a∈(Jb xs x fs q).2,0<=a/\a<(m:Int):=by
   rw [Jb]
   refine Hw (P:=fun a=>0<=a/\a<(m:Int)) (G6 (P:=fun a=>0<=a/\a<(m:Int)) h1) (fun a ha=>G6 (P:=fun a=>0<=a/\a<(m:Int)) h1 a (List.mem_of_mem_erase ha)) (fun a ha hb=>by omega)
  obtain ⟨a1,a2⟩:=Gu (ds:=ds) (nf:=nf) (op:=14) om hp.1
  obtain ⟨b1,b2⟩:=Gu (ds:=ds) (nf:=nf) (op:=16) (m:=m) (vs:=[x]) om (fun v hv=>by rw [XF.1 hv];exact hx)
  obtain ⟨c1,c2⟩:=Gu (ds:=ds) (nf:=nf) (op:=15) om hp.2
  have b1:Wb ds nf m [Zx 16 x]:=b1
  have b2:Yu [Zx 16 x]=0:=b2
  refine ⟨?_,by rw [Ta,Ta,Ta,a2,b2,c2,h3];omega⟩
  simp only [Aj,Ta,a2,b2,c2,Bo]
  exact ⟨⟨⟨a1,b1⟩,c1⟩,h2⟩
 ·exact ⟨h,rfl⟩
theorem Z61 {m q:Nat} {b:Z8} {x:Int} {fs:LI} (h:fB ds nf m b) (hx:0<=x/\x<m) (hq:q+fs.length<=m):fB ds nf m (Ks b x fs q):=by
 rw [J1] at h
 obtain ⟨h1,h2⟩:=Z68 h.1 hx hq
 rw [Ks,J1]
 refine ⟨h1,h.2.1,?_⟩
 show b.result<((m+Yu (QU b.steps x fs q):Nat):Int)
 rw [h2];exact h.2.2
theorem Z08 {m:Nat}:∀{xs:List Z5} {m:Nat},Yu (U5 ds m xs)=Yu xs
 | [],_=>rfl
 | s::r,m=>by
  rw [U5,Yu,Yu,Z08 (m:=0) (xs:=r)]
  rw [show (KJ ds m s).op=s.op from by rw [Fz];rfl]
theorem Z6g {num:Int} {k:Nat} (h:k<(Y0 ds num).length):(Wy ds num k).length=(ZP ds (gI (Y0 ds num) k)).length:=by
 obtain ⟨x,hx⟩:=B0 (xs:=Y0 ds num) (j:=k) h
 rw [Wy,Kq,hx,Ti (i:=(k:Int)) (by simpa using hx)];rfl
mutual
theorem Z67:∀(s:Z5) {m:Nat},fS ds nf m s->fS ds nf m (KJ ds m s)
 | .mk op num into args kids,m,h=>by
  rw [fS] at h
  obtain ⟨h1,h2,h3,h4,h5,h6,h7,h8,h9,h10,h11,h12⟩:=h
  rw [KJ,fS]
  refine ⟨h1,h2,fun ho=>?_,fun ho=>by rw [HU];exact h4 ho,fun ho=>by rw [HU];exact h5 ho,h6,h7,h8,h9,h10,fun ho=>?_,?_⟩
  ·obtain ⟨a1,a2,a3,a4⟩:=h3 ho
   exact ⟨a1,a2,by rw [a3];rfl,a4⟩
  ·rw [h11 ho];rfl
  ·refine Oq kids h12 (fun ho=>?_) (fun ho=>?_)
   ·obtain ⟨a,ha⟩:=h6 (.inr ho)
    rw [ha];exact h2 a (by rw [ha];exact XF.2 rfl)
   ·rw [h5 ho];omega
theorem Oq:∀(bs:List Z8) {m:Nat} {op num:Int} {args:LI} {k:Nat},Ud ds nf (V1 ds op num m) k bs->(op=8->0<=gI args 0/\gI args 0<m)->(op=8->k+bs.length<=(Y0 ds num).length)->Ud ds nf (V1 ds op num m) k (UU ds m op num args bs k)
 | [],_,_,_,_,_,_,_,_=>True.intro
 | b::r,m,op,num,args,k,h,hx,hl=>by
  rw [UU]
  refine ⟨?_,Oq r h.2 hx fun ho=>by have:=hl ho;rw [YA] at this;omega⟩
  by_cases ho:op=8
  ·have hk:=Z6g (ds:=ds) (num:=num) (k:=k) (by have:=hl ho;rw [YA] at this;omega)
   have hsc:V1 ds op num m k=m+(Wy ds num k).length:=by rw [V1,Zk ho,hk]
   rw [Zk ho]
   have h1:=h.1
   rw [hsc] at h1 ⊢
   have Z3:=hx ho
   exact Z61 (Lf b h1) om (X9 _)
  ·have hsc:V1 ds op num m k=m:=by rw [V1,Zb ho]
   rw [Zb ho]
   have h1:=h.1
   rw [hsc] at h1 ⊢
   exact Lf b h1
theorem Ow:∀(xs:List Z5) {m:Nat},Wb ds nf m xs->Wb ds nf m (U5 ds m xs)
 | [],_,_=>True.intro
 | s::r,m,h=>by
  rw [U5,Wb,show (KJ ds m s).op=s.op from by rw [Fz];rfl]
  exact ⟨Z67 s h.1,Ow r h.2⟩
theorem Lf:∀(b:Z8) {m:Nat},fB ds nf m b->fB ds nf m (WU ds m b)
 | .mk steps result,m,h=>by
  rw [fB] at h
  rw [WU,fB,Z08 (m:=0)]
  exact ⟨Ow steps h.1,h.2⟩
end
theorem IU:∀{xs:List Z5} {i:Nat} {s t:Z5},xs[i]? = some s->YO t.op=YO s.op->Yu (xs.set i t)=Yu xs
 | [],i,s,t,h,_=>by simp at h
 | x::r,0,s,t,h,hc=>by simp at h;subst h;rw [List.set_cons_zero,Yu,Yu,hc]
 | x::r,i+1,s,t,h,hc=>by rw [List.set_cons_succ,Yu,Yu,IU (xs:=r) (by simpa using h) hc]
theorem Lh:∀{xs:List Z5} {i m:Nat} {s t:Z5},Wb ds nf m xs->xs[i]? = some s->YO t.op=YO s.op->fS ds nf (m+Yu (xs.take i)) t->Wb ds nf m (xs.set i t)
 | [],i,m,s,t,_,h,_,_=>by simp at h
 | x::r,0,m,s,t,h,hs,hc,ht=>by
  simp at hs;subst hs
  rw [List.set_cons_zero,Wb,hc]
  exact ⟨by simpa [Yu] using ht,h.2⟩
 | x::r,i+1,m,s,t,h,hs,hc,ht=>by
  rw [List.set_cons_succ,Wb]
  refine ⟨h.1,Lh h.2 (by simpa using hs) hc ?_⟩
  rw [AA,Yu] at ht
  by_cases hx:YO x.op=true
  ·rw [Zk hx] at ht ⊢;rw [Wg] at ht;exact ht
  ·rw [Zb hx] at ht ⊢;rw [<-JU] at ht;exact ht
theorem Z69 {m:Nat} {xs:List Z5} {x:Int} {many:Nat} (h:Wb ds nf m xs) (hx:0<=x/\x<m):Wb ds nf m (VO xs x many)/\Yu (VO xs x many)=Yu xs:=by
 rw [VO]
 split
 ·exact ⟨h,rfl⟩
 ·rename_i hq
  obtain ⟨_,_,t,h5,h7,h6⟩:=A9 (fun z=>hq (.inr z))
  obtain ⟨_,_,s,h8,h9,h10⟩:=E1 (fun z=>hq (.inl z))
  have Za:YO (Zx 17 x).op=YO s.op:=by rw [h9];rfl
  have k1:=Lh (t:=Zx 17 x) h h8 Za (Lg om om)
  have k2:=IU (t:=Zx 17 x) h8 Za
  have k3:=Fp hq (t:=Zx 17 x) h5
  have k4:=(AX t).1 (DC k1 k3)
  have Zj:YO (Qn (1+x) t).op=YO t.op:=rfl
  rw [h6]
  have ho:t.op=6:=h7.1.1
  refine ⟨Lh k1 k3 Zj ((AX _).2 ⟨k4.op,k4.args,fun z=>?_,k4.k7,k4.k8,k4.one,k4.call,k4.num,?_,k4.alen,k4.kn,k4.kids⟩),by rw [IU k3 Zj,k2]⟩
  ·have z:14<=t.op:=z;omega
  ·show 0<=1+x/\1+x<=((m+_:Nat):Int);omega
theorem Z63 {m:Nat} {b:Z8} {x:Int} {many:Nat} (h:fB ds nf m b) (hx:0<=x/\x<m):fB ds nf m (VT b x many):=by
 rw [J1] at h
 obtain ⟨h1,h2⟩:=Z69 (many:=many) h.1 hx
 rw [VT,J1]
 refine ⟨h1,h.2.1,?_⟩
 show b.result<((m+Yu (VO b.steps x many):Nat):Int)
 rw [h2];exact h.2.2
theorem Li {K:LI} {op num:Int} {args:LI}:∀{bs:List Z8} {k:Nat},(U4 ds K op num args bs k).length=bs.length
 | [],_=>rfl
 | b::r,k=>by rw [U4,YA,YA,Li (bs:=r)]
theorem SK {K:LI}:∀{xs:List Z5},Yu (Ug ds K xs)=Yu xs
 | []=>rfl
 | s::r=>by rw [Ug,Yu,Yu,SK (xs:=r),show (Tn ds K s).op=s.op from by rw [As];rfl]
mutual
theorem Z66:∀(s:Z5) {m:Nat} {K:LI},fS ds nf m s->fS ds nf m (Tn ds K s)
 | .mk op num into args kids,m,K,h=>by
  rw [fS] at h
  obtain ⟨h1,h2,h3,h4,h5,h6,h7,h8,h9,h10,h11,h12⟩:=h
  rw [Tn,fS]
  refine ⟨h1,h2,fun ho=>?_,fun ho=>by rw [Li];exact h4 ho,fun ho=>by rw [Li];exact h5 ho,h6,h7,h8,h9,h10,fun ho=>?_,?_⟩
  ·obtain ⟨a1,a2,a3,a4⟩:=h3 ho
   exact ⟨a1,a2,by rw [a3];rfl,a4⟩
  ·rw [h11 ho];rfl
  ·refine On kids h12 (fun ho=>?_)
   obtain ⟨a,ha⟩:=h6 (.inr ho)
   rw [ha];exact h2 a (by rw [ha];exact XF.2 rfl)
theorem On:∀(bs:List Z8) {m:Nat} {K:LI} {op num:Int} {args:LI} {k:Nat},Ud ds nf (V1 ds op num m) k bs->(op=8->0<=gI args 0/\gI args 0<m)->Ud ds nf (V1 ds op num m) k (U4 ds K op num args bs k)
 | [],_,_,_,_,_,_,_,_=>True.intro
 | b::r,m,K,op,num,args,k,h,hx=>by
  rw [U4]
  refine ⟨?_,On r h.2 hx⟩
  split
  ·rename_i ho
   have Z3:=hx ho.1
   refine Z63 (Le b h.1) ?_
   rw [V1];split<;>omega
  ·exact Le b h.1
theorem Ov:∀(xs:List Z5) {m:Nat} {K:LI},Wb ds nf m xs->Wb ds nf m (Ug ds K xs)
 | [],_,_,_=>True.intro
 | s::r,m,K,h=>by
  rw [Ug,Wb,show (Tn ds K s).op=s.op from by rw [As];rfl]
  exact ⟨Z66 s h.1,Ov r h.2⟩
theorem Le:∀(b:Z8) {m:Nat} {K:LI},fB ds nf m b->fB ds nf m (Wt ds K b)
 | .mk steps result,m,K,h=>by
  rw [fB] at h
  rw [Wt,fB,SK]
  exact ⟨Ov steps h.1,h.2⟩
end
theorem Ou {m:Nat} {xs:List Z5} {i:Nat} {op v:Int} (h:Wb ds nf m xs) (ho:14<=op/\op<=17) (hv:0<=v/\v<((m+Yu (xs.take i):Nat):Int)):Wb ds nf m (WO xs i (Zx op v))/\Yu (WO xs i (Zx op v))=Yu xs:=by
 have e:=TI i xs
 have h0:Wb ds nf m (xs.take i++xs.drop i):=by rw [e];exact h
 rw [Aj] at h0
 have hc:YO (Zx op v).op=true:=decide_eq_true ho
 have hd:Yu [Zx op v]=0:=by rw [Yu,Zk hc];rfl
 have e2:=Yq Yu e
 rw [Ta] at e2
 rw [WO]
 refine ⟨?_,by rw [Ta,Ta,hd];omega⟩
 rw [Aj,Aj,Ta,hd]
 exact ⟨⟨h0.1,Lg ho hv,True.intro⟩,h0.2⟩
theorem Z62 {m:Nat} {b:Z8} {i j:Nat} {v:Int} (h:fB ds nf m b) (hij:i<=j) (hj:j<=b.steps.length) (hv:0<=v/\v<((m+Yu (b.steps.take i):Nat):Int)):fB ds nf m (B5 b i j v):=by
 rw [J1] at h
 have hm:Yu (b.steps.take i)<=Yu (b.steps.take j):=by
  have e:=Yq Yu (TI i (b.steps.take j))
  rw [Ta,List.take_take,VH hij] at e;omega
 obtain ⟨h1,h2⟩:=Ou (op:=15) (i:=j) (v:=v) h.1 om om
 obtain ⟨h3,h4⟩:=Ou (op:=14) (i:=i) (v:=v) h1 om (by rw [RZ hij hj];exact hv)
 rw [B5,J1]
 refine ⟨h3,h.2.1,?_⟩
 show b.result<((m+Yu (WO (WO b.steps j (Zx 15 v)) i (Zx 14 v)):Nat):Int)
 rw [h4,h2];exact h.2.2
end
theorem FN.sp {n:ZF} {q q2:Nat} (h:FN n q) (hz:ZN (D7 n) q2):FN (D7 n) q2:=by
 refine ⟨h.decls,hz.len,fun r hr=>?_,fun r hr=>?_,fun r hr=>⟨?_,(hz.rt r hr).body⟩⟩
 ·obtain ⟨s,hs,rfl⟩:=XA.1 hr;exact h.sigs s hs
 ·obtain ⟨s,hs,rfl⟩:=XA.1 hr;exact h.lent s hs
 ·obtain ⟨s,hs,rfl⟩:=XA.1 hr
  have e:(D7 n).routines.length=n.routines.length:=T6 ..
  rw [e]
  exact Lf _ (h.body s hs).1
theorem FN.ru {n:ZF} {q q2:Nat} (h:FN n q) (hz:ZN (D6 n) q2):FN (D6 n) q2:=by
 refine ⟨h.decls,hz.len,fun r hr=>?_,fun r hr=>?_,fun r hr=>⟨?_,(hz.rt r hr).body⟩⟩
 ·obtain ⟨s,hs,rfl⟩:=XA.1 hr;exact h.sigs s hs
 ·obtain ⟨s,hs,rfl⟩:=XA.1 hr;exact h.lent s hs
 ·obtain ⟨s,hs,rfl⟩:=XA.1 hr
  have e:(D6 n).routines.length=n.routines.length:=T6 ..
  rw [e]
  exact Le _ (h.body s hs).1
theorem FN.le {n:ZF} {q q2:Nat} (h:FN n q) (hq:q<=q2):FN n q2:=⟨h.decls,h.len,h.sigs,h.lent,fun r hr=>⟨(h.body r hr).1,V9 (h.body r hr).2 hq⟩⟩
theorem FN.held {n n2:ZF} {q q2:Nat} (h:FN n q) (hh:G0 n n2) (hz:ZN n2 q2):FN n2 q2:=by
 rcases hh with rfl|⟨f,rt,i,j,v,h1,h2,h3,h4,h5,rfl⟩
 ·exact ⟨h.decls,h.len,h.sigs,h.lent,fun r hr=>⟨(h.body r hr).1,(hz.rt r hr).body⟩⟩
 ·have hm:=Y7 h1
  have hl:(withR n f rt (B5 rt.body i j v)).routines.length=n.routines.length:=VG ..
  refine ⟨h.decls,hz.len,fun r hr=>?_,fun r hr=>?_,fun r hr=>⟨?_,(hz.rt r hr).body⟩⟩
  ·rcases List.mem_or_eq_of_mem_set hr with hr|rfl
   ·exact h.sigs r hr
   ·exact h.sigs rt hm
  ·rcases List.mem_or_eq_of_mem_set hr with hr|rfl
   ·exact h.lent r hr
   ·exact h.lent rt hm
  ·rw [hl]
   rcases List.mem_or_eq_of_mem_set hr with hr|rfl
   ·exact (h.body r hr).1
   ·exact Z62 (h.body rt hm).1 h2 h3 ⟨h4,h5⟩
abbrev Mem:=Nat->Nat->Option Value
abbrev Cg:=Nat × Nat
def upd (m:Mem) (a:Cg) (z:Int):Mem:=fun g o=>if g=a.1/\o=a.2 then some (.int .i64 z) else m g o
def wr (m:Mem):List Cg->Int->Mem
 | [],_=>m
 | a::r,k=>wr (upd m a k) r (k+1)
def CP (m:Mem):List Cg->Int->Prop
 | [],_=>True
 | a::r,k=>m a.1 a.2=some (.int .i64 k)/\CP m r (k+1)
def PO (m:Mem) (a:Cg):Prop:=∃z,m a.1 a.2=some (.int .i64 z)
structure Kp (m m':Mem):Prop where
 i:∀{a:Cg},PO m a->PO m' a
 h:∀{g o:Nat} {v:Value},m g o=some v->(∀z,v≠.int .i64 z)->m' g o=some v
section
variable {P:Program} {n:Nat} {ops:Array Oper} {B:Fr->List Res->Prop} {k:Nat} {F:Fr} {h h2:List Res}
end
section
variable {m m':Mem} {B:List Nat}
end
section
variable {m:Mem} {B:List Nat} {g:Nat}
end
section
variable {m:Mem} {B:List Nat}
end
def Zn (g lo hi:Nat) (X:List Nat) (a:Cg):Prop:=(a.1=g/\lo<=a.2/\a.2<hi)∨a.1∈X
structure Nd (g lo hi:Nat) (X:List Nat) (as1:List Cg):Prop where
 nd:(X.Nodup/\g∉X)->as1.Nodup
 zn:∀a∈as1,Zn g lo hi X a
section
variable {m:Mem} {B:List Nat}
end
section
variable {n:ZF} {ln:LI} {L:ZM}
end
structure CR (L:ZM) (cons first:LI):Prop where
 cl:cons.length=L.vars.length
 fl:first.length=L.vars.length
 eq:∀v:Int,0<=v->v<L.vars.length->0<=gI L.con v->gI cons v=gI L.con v/\gI first v=gI L.fst v

section
variable {N:Mem} {g o:Nat} {z:Int}
end


structure Instr where
 op:Int
 dst:Int
 num:Int
 into:Int
 args:LI
 jumps:LI
structure ZX where
 params:LI
 lent:LI
 result:Int
 regs:Int
 code:List Instr
structure Yv where
 decls:List Zd
 procs:List ZX
abbrev Ww (x:Instr):List AV:=[.i x.op,.i x.dst,.i x.num,.i x.into,Z4 x.args,Z4 x.jumps]
abbrev UI (x:Instr):AV:=.agg (Ww x)
def ZC (xs:List Instr):List AV:=xs.map UI
abbrev QI (xs:List Instr):AV:=.sl (ZC xs) none
abbrev Me (xs:List Instr) (v:Value):AV:=.sl (ZC xs) (some v)
abbrev UE (x:ZX):List AV:=[Z4 x.params,Z4 x.lent,.i x.result,.i x.regs,QI x.code]
abbrev Co (x:ZX):AV:=.agg (UE x)
def We (xs:List ZX):List AV:=xs.map Co
abbrev Mb (xs:List ZX):AV:=.sl (We xs) none
abbrev Uf (xs:List ZX) (v:Value):AV:=.sl (We xs) (some v)
abbrev WA (x:Yv):List AV:=[Y5 x.decls,Mb x.procs]
abbrev V5 (x:Yv):AV:=.agg (WA x)
structure Z26 where
 op:Int
 dst:Int
 num:Int
 into:Int
 args:LI
 av:Value
 jumps:LI
 jv:Value
structure Z27 where
 params:LI
 pv:Value
 lent:LI
 lv:Value
 result:Int
 regs:Int
 code:List Z26
 cv:Value
structure Zie where
 decls:List Vj
 dv:Value
 procs:List Z27
 pv:Value
theorem QZ {xs:List Instr} {j:Nat} {x:Instr} (h:xs[j]? = some x):(ZC xs)[j]? = some (UI x):=by simp [ZC,h]
@[simp] theorem Tw (xs:List Instr):(ZC xs).length=xs.length:=by simp [ZC]
theorem CC (xs ys:List Instr):ZC (xs++ys)=ZC xs++ZC ys:=by simp [ZC]
theorem Ah (xs:List Instr):∀y∈ZC xs,y.leaves.length=6:=by intro y hy;simp only [ZC,XA] at hy;obtain ⟨x,_,rfl⟩:=hy;rfl
theorem Gp (xs:List Instr):(Z9 (ZC xs)).all AV.one=true:=J2 fun y hy=>by simp only [ZC,XA] at hy;obtain ⟨x,_,rfl⟩:=hy;rfl
theorem Z5i {xs:List Instr} (h:ZC xs=[]):xs=[]:=by cases xs with|nil=>rfl|cons x r=>simp [ZC] at h
theorem Ul (xs:List Instr):(Z9 (ZC xs)).length=xs.length*6:=by rw [UN _ (Ah _)];simp
theorem Z7d (xs:List Instr) (x:Instr):Z9 (ZC xs)++Z9 (ZC [x])=Z9 (ZC (xs++[x])):=by rw [CC,Th]
theorem DE {xs:List Instr} {i:Nat} {s:Instr} (h:xs[i]? = some s):Z9 (ZC xs)=Z9 (ZC (xs.take i))++(Ww s++Z9 (ZC (xs.drop (i+1)))):=by
 have hk:=(Xc.1 h).1
 have hd:xs.drop i=s::xs.drop (i+1):=by
  rw [N9 hk]
  congr 1
  rw [De hk] at h
  exact Cf h
 have e:xs=xs.take i++(s::xs.drop (i+1)):=by rw [<-hd,TI]
 conv=>lhs;rw [e,CC,Th]
 rfl
theorem DD {xs:List Instr} {i:Nat} {s:Instr} (h:xs[i]? = some s):((Z9 (ZC xs)).drop (i*6)).take (Ww s).length=Ww s:=by
 have hi:=(Xc.1 h).1
 have hl:(Z9 (ZC (xs.take i))).length=i*6:=by rw [Ul,XW,VH om]
 rw [DE h]
 exact HF hl
theorem GG {xs:List Instr} {i:Nat} {s t:Instr} (h:xs[i]? = some s):(Z9 (ZC xs)).take (i*6)++Ww t++(Z9 (ZC xs)).drop (i*6+(Ww t).length)=Z9 (ZC (xs.set i t)):=by
 have hi:=(Xc.1 h).1
 have hl:(Z9 (ZC (xs.take i))).length=i*6:=by rw [Ul,XW,VH om]
 rw [DE h,Fs (xs:=Ww s) (ys:=Ww t) hl rfl]
 have e:xs.set i t=xs.take i++(t::xs.drop (i+1)):=by rw [FT,Zk hi]
 rw [e,CC,Th]
 rfl
theorem Qc {xs:List ZX} {j:Nat} {x:ZX} (h:xs[j]? = some x):(We xs)[j]? = some (Co x):=by simp [We,h]
@[simp] theorem Qd (xs:List ZX):(We xs).length=xs.length:=by simp [We]
theorem Z5l (xs ys:List ZX):We (xs++ys)=We xs++We ys:=by simp [We]
theorem J0 (xs:List ZX):∀y∈We xs,y.leaves.length=5:=by intro y hy;simp only [We,XA] at hy;obtain ⟨x,_,rfl⟩:=hy;rfl
theorem Oa (xs:List ZX):(Z9 (We xs)).all AV.one=true:=J2 fun y hy=>by simp only [We,XA] at hy;obtain ⟨x,_,rfl⟩:=hy;rfl
def XM (op dst num into:Int) (args:LI):Instr:=⟨op,dst,num,into,args,[]⟩
def Instr.goto (x:Instr) (v:Int):Instr:=⟨x.op,x.dst,v,x.into,x.args,x.jumps⟩
def Instr.fan (x:Instr) (js:LI):Instr:=⟨x.op,x.dst,x.num,x.into,x.args,js⟩
def VQ (c:List Instr) (i:Nat):List Instr:=match c[i]? with
 | none=>c
 | some x=>c.set i (x.goto c.length)
def Qf (c:List Instr) (i:Nat) (js:LI):List Instr:=match c[i]? with
 | none=>c
 | some x=>c.set i (x.fan js)
def TT (c:List Instr):List Nat->List Instr
 | []=>c
 | i::r=>TT (VQ c i) r
structure AH (E:Type) where
 res:E->Int->LI
 len:E->Nat
 nxt:E->E
 arm:E->Int->Int->Nat->E
def WG (m many:Nat) (x:Int):List Instr:=(List.range many).map fun i=>XM 19 ((m+i:Nat):Int) (i:Int) 0 [x]
def Ev (r:List Z8) (c:List Instr):List Instr:=match r with|[]=>c|_::_=>c++[XM 22 0 0 0 []]
def Nu (r:List Z8) (es:List Nat) (l:Nat):List Nat:=match r with|[]=>es|_::_=>es++[l+1]
section
variable {E:Type} (X:AH E) (ds:List Zd)
mutual
def Ue (e:E):Z5->List Instr->List Instr
 | .mk op num into args kids,c=>
  if op=7 then QA e args kids c
  else if op=8 then Uk e num (gI args 0) c.length kids 0 (c++[XM 21 0 num 0 args]) [] []
  else if op=14∨op=15 then c++[XM op 0 0 0 args]
  else if op=16∨op=17 then c++[XM op 0 0 0 (args++X.res e (gI args 0))]
  else c++[XM op (X.len e) num into args]
def QA (e:E) (args:LI):List Z8->List Instr->List Instr
 | b::r,c=>K1 e (c.length) r (flB e b (c++[XM 20 0 0 0 args])++[XM 18 (X.len e) 0 0 [b.result]])
 | [],c=>c
def K1 (e:E) (ZQ:Nat):List Z8->List Instr->List Instr
 | b::_,c=>VQ (flB e b (VQ (c++[XM 22 0 0 0 []]) ZQ)++[XM 18 (X.len e) 0 0 [b.result]]) c.length
 | [],c=>c
def Uk (e:E) (num x:Int) (ZQ:Nat):List Z8->Nat->List Instr->LI->List Nat->List Instr
 | [],_,c,ts,es=>TT (Qf c ZQ ts) es
 | b::r,k,c,ts,es=>
  Uk e num x ZQ r (k+1) (Ev r (flB (X.arm e x num k) b (c++WG (X.len e) (Wy ds num k).length x)++[XM 18 (X.len e) 0 0 [b.result]])) (ts++[(c.length:Int)])
   (Nu r es (flB (X.arm e x num k) b (c++WG (X.len e) (Wy ds num k).length x)).length)
def UL (e:E):List Z5->List Instr->List Instr
 | [],c=>c
 | s::r,c=>UL (if YO s.op=true then e else X.nxt e) r (Ue e s c)
def flB (e:E):Z8->List Instr->List Instr
 | .mk steps _,c=>UL e steps c
end
end
def XO (ds:List Zd):AH (LI × LI):=
 ⟨fun e x=>UP (ZP ds (gI e.1 x)) (gI e.2 x),fun e=>e.1.length,fun e=>(e.1++[0],e.2++[0]),
 fun e x num k=>(e.1.set x.toNat (Cv ds num k)++XI (ZP ds (Cv ds num k)).length,e.2.set x.toNat e.1.length++XI (ZP ds (Cv ds num k)).length)⟩
section
variable {ds:List Zd}
end
theorem Bv (c:List Instr) (i:Nat):(VQ c i).length=c.length:=by rw [VQ];split<;>simp
theorem CG (c:List Instr) (i:Nat) (js:LI):(Qf c i js).length=c.length:=by rw [Qf];split<;>simp
theorem Nr:∀(es:List Nat) (c:List Instr),(TT c es).length=c.length
 | [],_=>rfl
 | i::r,c=>by rw [TT,Nr r,Bv]
theorem SY {c t:List Instr} {i:Nat} {x:Instr} (h:c.length<=i):(c++t).set i x=c++t.set (i-c.length) x:=List.set_append_right _ _ h
theorem It {c t:List Instr} {i:Nat} (h:c.length<=i):∃t',VQ (c++t) i=c++t'/\t'.length=t.length:=by
 rw [VQ]
 split
 ·exact ⟨t,rfl,rfl⟩
 ·exact ⟨_,SY h,by simp⟩
theorem Z6d {c t:List Instr} {i:Nat} {js:LI} (h:c.length<=i):∃t',Qf (c++t) i js=c++t'/\t'.length=t.length:=by
 rw [Qf]
 split
 ·exact ⟨t,rfl,rfl⟩
 ·exact ⟨_,SY h,by simp⟩
theorem Nq {c:List Instr}:∀{es:List Nat} {t:List Instr},(∀i∈es,c.length<=i)->∃t',TT (c++t) es=c++t'/\t'.length=t.length
 | [],t,_=>⟨t,rfl,rfl⟩
 | i::r,t,h=>by
  obtain ⟨t1,e1,l1⟩:=It (t:=t) (h i (Xo ..))
  obtain ⟨t2,e2,l2⟩:=Nq (es:=r) (t:=t1) fun j hj=>h j (Xz _ hj)
  exact ⟨t2,by rw [TT,e1,e2],by rw [l2,l1]⟩
theorem Z37 (r:List Z8) (c:List Instr):∃t,Ev r c=c++t:=by
 cases r with
 | nil=>exact ⟨[],by rw [KP];rfl⟩
 | cons _ _=>exact ⟨_,rfl⟩
section
variable {E:Type} (X:AH E) (ds:List Zd)
mutual
theorem Z71:∀(s:Z5) (e:E) (c:List Instr),∃t,Ue X ds e s c=c++t
 | .mk op num into args kids,e,c=>by
  rw [Ue]
  split
  ·exact Z6t kids e c
  split
  ·obtain ⟨t,h⟩:=OD kids e 0 c [XM 21 0 num 0 args] [] [] (X9 _) (fun i hi=>by cases hi) (num:=num) (x:=gI args 0)
   exact ⟨t,h⟩
  split
  ·exact ⟨_,rfl⟩
  split
  ·exact ⟨_,rfl⟩
  ·exact ⟨_,rfl⟩
theorem Z6t:∀(bs:List Z8) (e:E) (c:List Instr) {args:LI},∃t,QA X ds e args bs c=c++t
 | [],e,c,_=>⟨[],by rw [QA,KP]⟩
 | b::r,e,c,args=>by
  rw [QA]
  obtain ⟨t,h⟩:=EH b e (c++[XM 20 0 0 0 args])
  rw [h,Vi,Vi]
  exact Z6p r e c _ (X9 _)
theorem Z6p:∀(bs:List Z8) (e:E) (c t0:List Instr) {a:Nat},c.length<=a->∃t,K1 X ds e a bs (c++t0)=c++t
 | [],e,c,t0,_,_=>⟨t0,by rw [K1]⟩
 | b::r,e,c,t0,a,ha=>by
  rw [K1,Vi]
  obtain ⟨t1,h1,_⟩:=It (t:=t0++[XM 22 0 0 0 []]) ha
  rw [h1]
  obtain ⟨t2,h2⟩:=EH b e (c++t1)
  rw [h2,Vi,Vi]
  obtain ⟨t3,h3,_⟩:=It (c:=c) (t:=t1++(t2++[XM 18 (X.len e) 0 0 [b.result]])) (i:=(c++t0).length) (by rw [Yr];exact Nat.le_add_right _ _)
  exact ⟨t3,h3⟩
theorem OD:∀(bs:List Z8) (e:E) (k:Nat) (c t0:List Instr) (ts:LI) (es:List Nat) {num x:Int} {a:Nat},c.length<=a->(∀i∈es,c.length<=i)->∃t,Uk X ds e num x a bs k (c++t0) ts es=c++t
 | [],e,k,c,t0,ts,es,num,x,a,ha,he=>by
  rw [Uk]
  obtain ⟨t1,h1,_⟩:=Z6d (t:=t0) (js:=ts) ha
  obtain ⟨t2,h2,_⟩:=Nq (t:=t1) he
  exact ⟨t2,by rw [h1,h2]⟩
 | b::r,e,k,c,t0,ts,es,num,x,a,ha,he=>by
  rw [Uk]
  obtain ⟨t1,h1⟩:=EH b (X.arm e x num k) ((c++t0)++WG (X.len e) (Wy ds num k).length x)
  rw [h1]
  obtain ⟨t2,h2⟩:=Z37 r ((((c++t0)++WG (X.len e) (Wy ds num k).length x)++t1)++[XM 18 (X.len e) 0 0 [b.result]])
  rw [h2,Vi,Vi,Vi,Vi]
  refine OD r e (k+1) c _ _ _ ha fun i hi=>?_
  cases r with
  | nil=>exact he i hi
  | cons _ _=>
   rcases Xf.1 hi with hi|hi
   ·exact he i hi
   ·rw [XF.1 hi]
    simp only [Yr]
    omega
theorem OI:∀(xs:List Z5) (e:E) (c:List Instr),∃t,UL X ds e xs c=c++t
 | [],e,c=>⟨[],by rw [UL,KP]⟩
 | s::r,e,c=>by
  obtain ⟨t1,h1⟩:=Z71 s e c
  obtain ⟨t2,h2⟩:=OI r (if YO s.op=true then e else X.nxt e) (c++t1)
  exact ⟨t1++t2,by rw [UL,h1,h2,Vi]⟩
theorem EH:∀(b:Z8) (e:E) (c:List Instr),∃t,flB X ds e b c=c++t
 | .mk steps result,e,c=>by rw [flB];exact OI steps e c
end
theorem Z6l {b:Z8} {e:E} {c:List Instr} {i:Nat} (h:i<c.length):(flB X ds e b c)[i]? = c[i]?:=by
 obtain ⟨t,ht⟩:=EH X ds b e c
 rw [ht,Az h]
variable {ds} (hd:Xq ds)
include hd
mutual
theorem OF:∀(s:Z5) (e:E) (c:List Instr),(Ue X ds e s c).length<=c.length+16*s.sz
 | .mk op num into args kids,e,c=>by
  rw [Ue,Z5.sz]
  split
  ·have:=Z6s kids e c (args:=args);omega
  split
  ·have:=OC kids e 0 (c++[XM 21 0 num 0 args]) [] [] (num:=num) (x:=gI args 0) (a:=c.length)
   simp only [Yr,YA,X6] at this
   omega
  split
  ·simp;omega
  split
  ·simp;omega
  ·simp;omega
theorem Z6s:∀(bs:List Z8) (e:E) (c:List Instr) {args:LI},(QA X ds e args bs c).length<=c.length+16*YV bs+3
 | [],e,c,_=>by rw [QA];omega
 | b::r,e,c,args=>by
  have h1:=BF b e (c++[XM 20 0 0 0 args])
  have h2:=Z6o r e (flB X ds e b (c++[XM 20 0 0 0 args])++[XM 18 (X.len e) 0 0 [b.result]]) (a:=c.length)
  rw [QA,YV]
  simp only [Yr,YA,X6] at h1 h2
  omega
theorem Z6o:∀(bs:List Z8) (e:E) (c:List Instr) {a:Nat},(K1 X ds e a bs c).length<=c.length+16*YV bs+1
 | [],e,c,_=>by rw [K1];omega
 | b::r,e,c,a=>by
  have h1:=BF b e (VQ (c++[XM 22 0 0 0 []]) a)
  rw [K1,Bv,YV]
  rw [Bv] at h1
  simp only [Yr,YA,X6] at h1 ⊢
  omega
theorem OC:∀(bs:List Z8) (e:E) (k:Nat) (c:List Instr) (ts:LI) (es:List Nat) {num x:Int} {a:Nat},(Uk X ds e num x a bs k c ts es).length<=c.length+16*YV bs
 | [],e,k,c,ts,es,num,x,a=>by rw [Uk,Nr,CG];simp [YV]
 | b::r,e,k,c,ts,es,num,x,a=>by
  have h1:=BF b (X.arm e x num k) (c++WG (X.len e) (Wy ds num k).length x)
  have h2:=OC r e (k+1) (Ev r (flB X ds (X.arm e x num k) b (c++WG (X.len e) (Wy ds num k).length x)++[XM 18 (X.len e) 0 0 [b.result]])) (ts++[(c.length:Int)])
   (Nu r es (flB X ds (X.arm e x num k) b (c++WG (X.len e) (Wy ds num k).length x)).length) (num:=num) (x:=x) (a:=a)
  have h3:∀c':List Instr,(Ev r c').length<=c'.length+1:=fun c'=>by cases r with
   | nil=>exact Nat.le_succ _
   | cons _ _=>show (c'++[XM 22 0 0 0 []]).length<=_;simp
  have h4:=h3 (flB X ds (X.arm e x num k) b (c++WG (X.len e) (Wy ds num k).length x)++[XM 18 (X.len e) 0 0 [b.result]])
  have h5:=Gw hd num k
  have h6:(WG (X.len e) (Wy ds num k).length x).length=(Wy ds num k).length:=by simp [WG]
  rw [Uk,YV]
  simp only [Yr,YA,X6,h6] at h1 h2 h4 ⊢
  omega
theorem OH:∀(xs:List Z5) (e:E) (c:List Instr),(UL X ds e xs c).length<=c.length+16*Yw xs
 | [],e,c=>by rw [UL,Yw];omega
 | s::r,e,c=>by
  have h1:=OF s e c
  have h2:=OH r (if YO s.op=true then e else X.nxt e) (Ue X ds e s c)
  rw [UL,Yw];omega
theorem BF:∀(b:Z8) (e:E) (c:List Instr),(flB X ds e b c).length+16<=c.length+16*b.sz
 | .mk steps result,e,c=>by
  have:=OH steps e c
  rw [flB,Z8.sz];omega
end
end
def Kf (m:Int) (x:Instr):Int:=x.args.foldl (fun m a=>max m (a+1)) (max m (x.dst+1))
def Ux (m:Int) (c:List Instr):Int:=c.foldl Kf m
structure AI (x:Instr):Prop where
 dst:0<=x.dst/\x.dst<=1000000000
 len:x.args.length<=10000200
 args:∀a∈x.args,0<=a/\a<=1000000000
 js:x.jumps.length<=300000000
def Rg (c:List Instr):Prop:=∀x∈c,AI x
theorem Rh:∀{l:LI} {m:Int},(∀a∈l,0<=a/\a<=1000000000)->0<=m/\m<=1000000001->m<=l.foldl (fun m a=>max m (a+1)) m/\l.foldl (fun m a=>max m (a+1)) m<=1000000001
 | [],m,_,h=>⟨Int.le_refl _,h.2⟩
 | a::r,m,ha,h=>by
  have h1:=ha a (Xo ..)
  have h2:=Rh (l:=r) (m:=max m (a+1)) (fun b hb=>ha b (Xz _ hb)) om
  rw [List.foldl_cons]
  omega
theorem Zde {x:Instr} {m:Int} (hx:AI x) (h:0<=m/\m<=1000000001):m<=Kf m x/\Kf m x<=1000000001:=by
 have h1:=hx.dst
 have h2:=Rh (m:=max m (x.dst+1)) hx.args om
 rw [Kf];omega
theorem Sc:∀{c:List Instr} {m:Int},Rg c->0<=m/\m<=1000000001->m<=Ux m c/\Ux m c<=1000000001
 | [],m,_,h=>⟨Int.le_refl _,h.2⟩
 | x::r,m,hc,h=>by
  have h1:=Zde (hc x (Xo ..)) h
  have h2:=Sc (c:=r) (m:=Kf m x) (fun y hy=>hc y (Xz _ hy)) om
  show m<=Ux (Kf m x) r/\_
  exact ⟨by omega,h2.2⟩
theorem Ri:∀(l:LI) (a m:Int),l.foldl (fun m a=>max m (a+1)) (max a m)=max a (l.foldl (fun m a=>max m (a+1)) m)
 | [],_,_=>rfl
 | x::r,a,m=>by rw [List.foldl_cons,List.foldl_cons,<-Ri r];congr 1;omega
theorem Zdf (x:Instr) (a m:Int):Kf (max a m) x=max a (Kf m x):=by
 rw [Kf,Kf,<-Ri];congr 1;omega
theorem Sd:∀(c:List Instr) (a m:Int),Ux (max a m) c=max a (Ux m c)
 | [],_,_=>rfl
 | x::r,a,m=>by
  show Ux (Kf (max a m) x) r=max a (Ux (Kf m x) r)
  rw [Zdf,Sd r]
theorem Zdg (c:List Instr) {a:Int} (h:0<=a):Ux a c=max a (Ux 0 c):=by
 rw [<-Sd];congr 1;omega
theorem Rg.nil:Rg []:=fun _ h=>by cases h
theorem Rg.app {c d:List Instr} (h1:Rg c) (h2:Rg d):Rg (c++d):=fun x hx=>(Xf.1 hx).elim (h1 x) (h2 x)
theorem Rg.one {x:Instr} (h:AI x):Rg [x]:=fun y hy=>by rw [XF.1 hy];exact h
theorem Rg.snoc {c:List Instr} {x:Instr} (h1:Rg c) (h2:AI x):Rg (c++[x]):=h1.app (.one h2)
theorem Rg.set {c:List Instr} {x y:Instr} {i:Nat} (hx:c[i]? = some x) (h:Rg c) (h1:y.dst=x.dst) (h2:y.args=x.args) (h3:y.jumps.length<=300000000):Rg (c.set i y):=fun z hz=>by
 have hr:=h x (Y7 hx)
 rcases List.mem_or_eq_of_mem_set hz with hz|rfl
 ·exact h z hz
 ·exact ⟨by rw [h1];exact hr.dst,by rw [h2];exact hr.len,by rw [h2];exact hr.args,h3⟩
theorem Rg.aim {c:List Instr} (h:Rg c) (i:Nat):Rg (VQ c i):=by
 rw [VQ]
 split
 ·exact h
 ·rename_i x hx;exact h.set hx rfl rfl (h x (Y7 hx)).js
theorem Rg.fan {c:List Instr} (h:Rg c) (i:Nat) {js:LI} (hj:js.length<=300000000):Rg (Qf c i js):=by
 rw [Qf]
 split
 ·exact h
 ·rename_i x hx;exact h.set hx rfl rfl hj
theorem Rg.aims:∀{es:List Nat} {c:List Instr},Rg c->Rg (TT c es)
 | [],_,h=>h
 | i::r,c,h=>by rw [TT];exact Rg.aims (h.aim i)
theorem AI.mk' {op dst num into:Int} {args:LI} (h1:0<=dst/\dst<=1000000000) (h2:args.length<=10000200) (h3:∀a∈args,0<=a/\a<=1000000000):AI (XM op dst num into args):=⟨h1,h2,h3,Q9 _⟩
mutual
def E8:Z5->Prop
 | .mk _ _ _ args kids=>(args.length<=10000100/\∀a∈args,0<=a/\a<=900000000)/\D5 kids
def D5:List Z8->Prop
 | []=>True
 | b::r=>E7 b/\D5 r
def Fq:List Z5->Prop
 | []=>True
 | s::r=>E8 s/\Fq r
def E7:Z8->Prop
 | .mk steps result=>Fq steps/\0<=result/\result<=900000000
end
theorem Zdq (s:Z5):E8 s↔(s.args.length<=10000100/\∀a∈s.args,0<=a/\a<=900000000)/\D5 s.kids:=by cases s;rw [E8];rfl
theorem HD (b:Z8):E7 b↔Fq b.steps/\0<=b.result/\b.result<=900000000:=by cases b;rw [E7];rfl
section
variable {n:ZF}
end
structure Nc {E:Type} (X:AH E) (G:E->Nat->Prop):Prop where
 len:∀{e q},G e q->X.len e<=q
 res:∀{e q},G e q->∀x,(∀v∈X.res e x,0<=v/\v<=q+3)/\(X.res e x).length<=3
 nxt:∀{e q},G e q->G (X.nxt e) (q+1)
 up:∀{e q q'},G e q->q<=q'->G e q'
 arm:∀{e q},G e q->∀x num k,G (X.arm e x num k) (q+3)
theorem Z2a {m many:Nat} {x:Int} (hm:many<=3) (h:m<=900000000) (hx:0<=x/\x<=900000000):Rg (WG m many x):=fun y hy=>by
 rw [WG] at hy
 obtain ⟨i,hi,rfl⟩:=XA.1 hy
 have:=List.mem_range.1 hi
 exact .mk' om (by simp) fun a ha=>by rw [XF.1 ha];omega
theorem Ik {m:Nat} {r:Int} (h:m<=900000000) (hr:0<=r/\r<=900000000):AI (XM 18 m 0 0 [r]):=.mk' om (by simp) fun a ha=>by rw [XF.1 ha];omega
theorem Nh {op num:Int}:AI (XM op 0 num 0 []):=.mk' om (by simp) fun a ha=>by cases ha
theorem G3 {op dst num into:Int} {args:LI} (hd:0<=dst/\dst<=900000000) (h:args.length<=10000100/\∀a∈args,0<=a/\a<=900000000):AI (XM op dst num into args):=.mk' om om fun a ha=>by have:=h.2 a ha;omega
theorem Z29 {r:List Z8} {c:List Instr} (h:Rg c):Rg (Ev r c):=by
 cases r with
 | nil=>exact h
 | cons _ _=>exact h.snoc Nh
section
variable {E:Type} {X:AH E} {ds:List Zd} {G:E->Nat->Prop} (hX:Nc X G) (hd:Xq ds)
include hX hd
mutual
theorem Z72:∀(s:Z5) {e:E} {q:Nat} {c:List Instr},wS ds s->G e q->q+4*s.sz<=900000000->E8 s->Rg c->Rg (Ue X ds e s c)
 | .mk op num into args kids,e,q,c,hw,hg,hq,hs,hc=>by
  have hl:=hX.len hg
  obtain ⟨h1,h2⟩:=(Zdq _).1 hs
  have h1':args.length<=10000100/\∀a∈args,0<=a/\a<=900000000:=h1
  rw [Z5.sz] at hq
  rw [Ue]
  split
  ·exact Z6u kids hw.2.2.2 hg om h2 h1' hc
  split
  ·rename_i h8
   obtain ⟨a,ha,ha2⟩:=(hw.2.2.1 h8).1
   have hkl:=NJ kids
   exact OE kids hw.2.2.2 hg om h2 (by rw [ha];exact ha2) (by rw [X6];omega) (hc.snoc (G3 om h1'))
  split
  ·exact hc.snoc (G3 om h1')
  split
  ·have h3:=hX.res hg (gI args 0)
   refine hc.snoc (.mk' om (by rw [Yr];omega) fun a ha=>?_)
   rcases Xf.1 ha with ha|ha
   ·have:=h1'.2 a ha;omega
   ·have:=h3.1 a ha;omega
  ·exact hc.snoc (G3 om h1')
theorem Z6u:∀(bs:List Z8) {e:E} {q:Nat} {c:List Instr} {args:LI},Jl ds bs->G e q->q+4*YV bs<=900000000->D5 bs->args.length<=10000100/\(∀a∈args,0<=a/\a<=900000000)->Rg c->Rg (QA X ds e args bs c)
 | [],e,q,c,args,_,_,_,_,_,hc=>by rw [QA];exact hc
 | b::r,e,q,c,args,hw,hg,hq,hs,ha,hc=>by
  rw [YV] at hq
  have hl:=hX.len hg
  rw [QA]
  exact Z6q r hw.2 hg om hs.2 ((Gz b hw.1 hg om hs.1 (hc.snoc (G3 om ha))).snoc (Ik om ((HD b).1 hs.1).2))
theorem Z6q:∀(bs:List Z8) {e:E} {q:Nat} {c:List Instr} {a:Nat},Jl ds bs->G e q->q+4*YV bs<=900000000->D5 bs->Rg c->Rg (K1 X ds e a bs c)
 | [],e,q,c,a,_,_,_,_,hc=>by rw [K1];exact hc
 | b::r,e,q,c,a,hw,hg,hq,hs,hc=>by
  rw [YV] at hq
  have hl:=hX.len hg
  rw [K1]
  exact ((Gz b hw.1 hg om hs.1 ((hc.snoc Nh).aim a)).snoc (Ik om ((HD b).1 hs.1).2)).aim _
theorem OE:∀(bs:List Z8) {e:E} {q:Nat} {k:Nat} {c:List Instr} {ts:LI} {es:List Nat} {num x:Int} {a:Nat},Jl ds bs->G e q->q+4*YV bs<=900000000->D5 bs->0<=x/\x<=900000000->ts.length+bs.length<=300000000->Rg c->Rg (Uk X ds e num x a bs k c ts es)
 | [],e,q,k,c,ts,es,num,x,a,_,_,_,_,_,ht,hc=>by rw [Uk];exact (hc.fan _ ht).aims
 | b::r,e,q,k,c,ts,es,num,x,a,hw,hg,hq,hs,hx,ht,hc=>by
  rw [YA] at ht
  rw [YV] at hq
  have hl:=hX.len hg
  have hp:=b.sz_eq
  rw [Uk]
  exact OE r hw.2 hg om hs.2 hx (by rw [Yr,Bn];omega) (Z29 ((Gz b hw.1 (hX.arm hg x num k) om hs.1 (hc.app (Z2a (Gw hd num k) om hx))).snoc (Ik om ((HD b).1 hs.1).2)))
theorem OJ:∀(xs:List Z5) {e:E} {q:Nat} {c:List Instr},QQ ds xs->G e q->q+4*Yw xs<=900000000->Fq xs->Rg c->Rg (UL X ds e xs c)
 | [],e,q,c,_,_,_,_,hc=>by rw [UL];exact hc
 | s::r,e,q,c,hw,hg,hq,hs,hc=>by
  rw [Yw] at hq
  have hp:=s.sz_pos
  rw [UL]
  refine OJ r (q:=q+1) hw.2 ?_ om hs.2 (Z72 s hw.1 hg om hs.1 hc)
  split
  ·exact hX.up hg om
  ·exact hX.nxt hg
theorem Gz:∀(b:Z8) {e:E} {q:Nat} {c:List Instr},wB ds b->G e q->q+4*b.sz<=900000004->E7 b->Rg c->Rg (flB X ds e b c)
 | .mk steps result,e,q,c,hw,hg,hq,hs,hc=>by
  rw [Z8.sz] at hq
  rw [flB]
  exact OJ steps hw hg om hs.1 hc
end
end
theorem Zf1 {ds:List Zd} (hd:Xq ds):Nc (XO ds) (fun e q=>e.1.length<=q/\∀v∈e.2,0<=v/\v<=q):=by
 refine ⟨fun h=>h.1,fun {e q} h x=>?_,fun {e q} h=>⟨by simp [XO];exact h.1,fun v hv=>?_⟩,fun h hq=>⟨by have:=h.1;omega,fun v hv=>by have:=h.2 v hv;omega⟩,fun {e q} h x num k=>⟨?_,fun v hv=>?_⟩⟩
 ·have h1:=Vs hd (gI e.1 x)
  have h2:0<=gI e.2 x/\gI e.2 x<=q:=if z:gI e.2 x=0 then om else h.2 _ (GH z)
  exact ⟨fun v hv=>by have:=LF hv;omega,V9 (GT _ _) h1⟩
 ·rcases Xf.1 hv with hv|hv
  ·have:=h.2 v hv;omega
  ·rw [XF.1 hv];omega
 ·have h1:=Vs hd (Cv ds num k)
  have h2:=h.1
  show (e.1.set _ _++XI _).length<=_
  rw [Yr,VG,DY];omega
 ·have h1:=Vs hd (Cv ds num k)
  have h2:=h.1
  rcases Xf.1 hv with hv|hv
  ·rcases List.mem_or_eq_of_mem_set hv with hv|rfl
   ·have:=h.2 v hv;omega
   ·omega
  ·have:=Hp _ v hv;omega
def GB (B:List Nat):Yn:=fun b _=>b∈B
section
variable {w:World} {G:Yn} {B:List Nat}
end
section
variable {w:World} {G:Yn} {B:List Nat}
def Pl:Value->Hd
 | .slice a l c=>⟨a,l,c⟩
 | _=>⟨none,0,0⟩
abbrev av (y:Nf):AV:=.agg [.h (Pl y.dv),.h (Pl y.rv)]
end
def Z28 (B:List Nat) (m:Mem) (x:AV) (u:Value):Prop:=
 ∀w:World,(∀b∈B,∃cs e,w.heap[b]? = some (.cells cs e (0,0))/\∀o,cs[o]? = m b o)->RV w (GB B) x u
inductive Es (bs:List Res):List AV->List AV->Prop
 | nil:Es bs [] []
 | same {x as1 xs} (t:Es bs as1 xs):Es bs (x::as1) (x::xs)
 | gen {B m x a u as1 xs} (h:Res.own B m∈bs) (hr:Z28 B m x u) (ha:∀w G v,RV w G a v->v=u) (t:Es bs as1 xs):Es bs (a::as1) (x::xs)
section
variable {P:Program} {n:Nat} {ops:Array Oper} {B:Fr->List Res->Prop} {k:Nat} {F:Fr} {h:List Res}
def NG (P:Program) (ops:Array Oper) (F:Fr) (k:Nat):Option (Bool × Bool):=
 match (ZU ops k).op with
 | .binOp .neq t x y _=>match P.underlying t with
  | some .bool=>match F.ev x,F.ev y with
   | .val (.bool a),.val (.bool b)=>some (a,b)
   | _,_=>none
  | _=>none
 | _=>none
theorem PR (a b:Bool) (hb:NG P ops F k=some (a,b):=by kernel_rfl):W1 P (ZU ops k) F h [] (.b (a != b)):=by
 unfold NG at hb
 generalize hoo:ZU ops k=o at hb
 obtain ⟨dst,op,type,pos,after,guard⟩:=o
 cases op<;>simp only at hb<;>try (cases hb)
 rename_i bop t x y yt
 cases bop<;>simp only at hb<;>try (cases hb)
 split at hb
 ·rename_i ht
  split at hb
  ·rename_i a' b' h1 h2
   cases hb
   intro n w G ac hF hh
   have v1:=hF.ev x
   have v2:=hF.ev y
   rw [h1] at v1
   rw [h2] at v2
   have v1:=v1.val_inv
   have v2:=v2.val_inv
   refine ⟨_,.val,fun w' _ _=>?_⟩
   simp only [execOp,v1,v2]
   have he:(Op.equalIn (9999+1) t (.bool a) (.bool b)).run P w'=.ok (a==b) w':=by
    rw [Op.equalIn]
    simp [Sem.run_bind,Uq ht]
   refine VP ?_
   simp only [eqGuard,binOp,Op.equal,Op.maxDepth]
   have he2:(Op.equalIn 10000 t (.bool a) (.bool b)).run P w'=.ok (a==b) w':=he
   simp [Sem.run_bind,he2,bne]
  ·cases hb
 ·cases hb
end
section
variable {m m':Mem} {B:List Nat}
end
section
variable {w:World} {G:Yn} {B:List Nat}
end
def Zdl (r:Int):Instr:=XM 23 0 0 0 [r]
def Us (ds:List Zd) (rt:YF):List Instr:=flB (XO ds) ds (XI rt.params.length,XI rt.params.length) rt.body []++[Zdl rt.body.result]
def Md:Yv:=⟨[],[]⟩
section
variable {ds:List Zd} {b:Bool}
end
section
variable {n:ZF} (hn:Xx n) (hz:JW n) (hbt:∀r∈n.routines,0<=W3 n r.params r.body)
include hn hz hbt
end
section
variable {N:Mem} {g o:Nat} {z:Int}
end
structure Zif (im:Yv):Prop where
 decls:Z54 im.decls<=1000000000
 procs:im.procs.length<=4
 params:∀p∈im.procs,p.params.length<=1000000000
 lent:∀p∈im.procs,p.lent.length<=1000000000
 code:∀p∈im.procs,p.code.length<=2000
 args:∀p∈im.procs,∀x∈p.code,x.args.length<=10000200
 jumps:∀p∈im.procs,∀x∈p.code,x.jumps.length<=300000000
section
variable {n:ZF} (hz:JW n) (hB:Z3g n=true)
include hz hB
end
end Go.Abs
section
namespace Go.Abs
def Zr (c:List Instr) (i:Nat):Prop:=∃x,c[i]? = some x/\x.dst=0/\x.into=0
section
variable {c t:List Instr} {i j:Nat}
theorem Zr.lt (h:Zr c i):i<c.length:=by obtain ⟨x,hx,_⟩:=h;exact (Xc.1 hx).1
theorem Zr.new {x:Instr} (h1:x.dst=0) (h2:x.into=0):Zr (c++[x]) c.length:=⟨x,by simp,h1,h2⟩
theorem Zr.app (h:Zr c i):Zr (c++t) i:=by
 obtain ⟨x,hx,h1⟩:=h
 exact ⟨x,by rw [Az ((Xc.1 hx).1)];exact hx,h1⟩
theorem Zr.flB {E:Type} {X:AH E} {ds:List Zd} {e:E} {b:Z8} (h:Zr c i):Zr (flB X ds e b c) i:=by
 obtain ⟨t,ht⟩:=EH X ds b e c
 rw [ht];exact h.app
theorem Zr.set {x y:Instr} (h:Zr c i) (hx:c[j]? = some x) (h1:y.dst=x.dst) (h2:y.into=x.into):Zr (c.set j y) i:=by
 obtain ⟨z,hz,h3,h4⟩:=h
 by_cases e:j=i
 ·subst e
  rw [hx] at hz
  cases hz
  exact ⟨y,by rw [List.getElem?_set_self (Xc.1 hx).1],h1.trans h3,h2.trans h4⟩
 ·exact ⟨z,by rw [List.getElem?_set_ne e];exact hz,h3,h4⟩
theorem Zr.aim (h:Zr c i):Zr (VQ c j) i:=by
 rw [VQ]
 split
 ·exact h
 ·rename_i x hx;exact h.set hx rfl rfl
theorem Zr.fan {js:LI} (h:Zr c i):Zr (Qf c j js) i:=by
 rw [Qf]
 split
 ·exact h
 ·rename_i x hx;exact h.set hx rfl rfl
end
theorem EK {c t:List Instr} {i:Nat} {x:Instr} (h:c[i]? = some x):(c++t)[i]? = some x:=by rw [Az (Xc.1 h).1];exact h
theorem Ph {c:List Instr} {i:Nat} {x:Instr} {E:Type} {X:AH E} {ds:List Zd} {e:E} {b:Z8} (h:c[i]? = some x):(flB X ds e b c)[i]? = some x:=by
 rw [Z6l X ds (Xc.1 h).1];exact h
theorem Z2m {c:List Instr} {i:Nat} {x:Instr} (h:c[i]? = some x):VQ c i=c.set i (x.goto c.length):=by rw [VQ,h]
theorem Z6e {c:List Instr} {i:Nat} {x:Instr} {js:LI} (h:c[i]? = some x):Qf c i js=c.set i (x.fan js):=by rw [Qf,h]
theorem Z2n {c:List Instr} {i:Nat} {x:Instr} (h:c[i]? = some x) (h1:x.dst=0) (h2:x.into=0):c.set i ⟨x.op,0,c.length,0,x.args,x.jumps⟩=VQ c i:=by
 rw [Z2m h,Instr.goto,h1,h2]
theorem Z6f {c:List Instr} {i:Nat} {num:Int} {args js:LI} (h:c[i]? = some (XM 21 0 num 0 args)):c.set i ⟨21,0,num,0,args,js⟩=Qf c i js:=by
 rw [Z6e h];rfl
def QK (es:List Nat):LI:=es.map Int.ofNat
theorem Hr (es:List Nat):(QK es).length=es.length:=by simp [QK]
theorem Zcb {es:List Nat} {k e:Nat} (h:es[k]? = some e):(QK es)[k]? = some (e:Int):=by simp [QK,h]
theorem Zcc (es:List Nat) (e:Nat):QK es++[(e:Int)]=QK (es++[e]):=by simp [QK]
theorem Re (m k:Nat) (x:Int):WG m (k+1) x=WG m k x++[XM 19 ((m+k:Nat):Int) (k:Int) 0 [x]]:=by simp [WG,List.range_succ]
theorem Hl (m k:Nat) (x:Int):(WG m k x).length=k:=by simp [WG]
theorem Z2p {es:List Nat} {k e:Nat} {c d:List Instr} (h:es[k]? = some e) (ha:TT c (es.drop k)=d):TT (VQ c e) (es.drop (k+1))=d:=by rw [Yl h,TT] at ha;exact ha
theorem Z2o {es:List Nat} {k:Nat} {c d:List Instr} (h:es.length<=k) (ha:TT c (es.drop k)=d):c=d:=by rw [Xr h,TT] at ha;exact ha
section
variable {E:Type} {X:AH E} {ds:List Zd} {e:E}
theorem EI (s:Z5) (c:List Instr):Ue X ds e s c=(if s.op=7 then QA X ds e s.args s.kids c
  else if s.op=8 then Uk X ds e s.num (gI s.args 0) c.length s.kids 0 (c++[XM 21 0 s.num 0 s.args]) [] []
  else if s.op=14∨s.op=15 then c++[XM s.op 0 0 0 s.args]
  else if s.op=16∨s.op=17 then c++[XM s.op 0 0 0 (s.args++X.res e (gI s.args 0))]
  else c++[XM s.op (X.len e) s.num s.into s.args]):=by cases s;rw [Ue];rfl
theorem Z6y {s:Z5} {c:List Instr} {k0 k1:Z8} (h:s.op=7) (hk:s.kids=[k0,k1]):Ue X ds e s c =
  VQ (flB X ds e k1 (VQ ((flB X ds e k0 (c++[XM 20 0 0 0 s.args])++[XM 18 (X.len e) 0 0 [k0.result]])++[XM 22 0 0 0 []]) c.length)++[XM 18 (X.len e) 0 0 [k1.result]]) (flB X ds e k0 (c++[XM 20 0 0 0 s.args])++[XM 18 (X.len e) 0 0 [k0.result]]).length:=by
 rw [EI,Zk h,hk,QA,K1]
theorem Z6z {s:Z5} {c:List Instr} (h:s.op=8):Ue X ds e s c=Uk X ds e s.num (gI s.args 0) c.length s.kids 0 (c++[XM 21 0 s.num 0 s.args]) [] []:=by
 rw [EI,Zb om,Zk h]
theorem Z6v {s:Z5} {c:List Instr} (h:s.op=14∨s.op=15):Ue X ds e s c=c++[XM s.op 0 0 0 s.args]:=by
 rw [EI,Zb om,Zb om,Zk h]
theorem Z70 {s:Z5} {c:List Instr} (h:s.op=16∨s.op=17):Ue X ds e s c=c++[XM s.op 0 0 0 (s.args++X.res e (gI s.args 0))]:=by
 rw [EI,Zb om,Zb om,Zb om,Zk h]
theorem Z6w {s:Z5} {c:List Instr} (h7:s.op≠7) (h8:s.op≠8) (h1:¬(s.op=14∨s.op=15)) (h2:¬(s.op=16∨s.op=17)):Ue X ds e s c=c++[XM s.op (X.len e) s.num s.into s.args]:=by
 rw [EI,Zb h7,Zb h8,Zb h1,Zb h2]
theorem Z6m (b:Z8) (c:List Instr):flB X ds e b c=UL X ds e b.steps c:=by cases b;rw [flB];rfl
theorem OK {xs:List Z5} {k:Nat} {s:Z5} {c d:List Instr} (h:xs[k]? = some s) (ha:UL X ds e (xs.drop k) c=d):UL X ds (if YO s.op=true then e else X.nxt e) (xs.drop (k+1)) (Ue X ds e s c)=d:=by
 rw [Yl h,UL] at ha;exact ha
theorem Z73 {xs:List Z5} {k:Nat} {c d:List Instr} (h:xs.length<=k) (ha:UL X ds e (xs.drop k) c=d):c=d:=by
 rw [Xr h,UL] at ha;exact ha
theorem Z6i {bs:List Z8} {num x:Int} {a k j:Nat} {c d:List Instr} {ts:LI} {es:List Nat} (h:bs.length<=k) (ha:Uk X ds e num x a (bs.drop k) j c ts es=d):TT (Qf c a ts) es=d:=by
 rw [Xr h,Uk] at ha;exact ha
theorem Z6j {bs:List Z8} {b:Z8} {num x:Int} {a k:Nat} {c d:List Instr} {ts:LI} {es:List Nat} (hb:bs[k]? = some b) (hl:k+1<bs.length) (ha:Uk X ds e num x a (bs.drop k) k c ts es=d) :
  Uk X ds e num x a (bs.drop (k+1)) (k+1) ((flB X ds (X.arm e x num k) b (c++WG (X.len e) (Wy ds num k).length x)++[XM 18 (X.len e) 0 0 [b.result]])++[XM 22 0 0 0 []]) (ts++[(c.length:Int)])
   (es++[(flB X ds (X.arm e x num k) b (c++WG (X.len e) (Wy ds num k).length x)++[XM 18 (X.len e) 0 0 [b.result]]).length])=d:=by
 rw [Yl hb,Uk] at ha
 rw [Yr (bs:=[XM 18 (X.len e) 0 0 [b.result]])]
 obtain ⟨y,hy⟩:=B0 (xs:=bs) (j:=k+1) om
 have hd:=Yl hy
 rw [hd] at ha ⊢
 exact ha
theorem Z6k {bs:List Z8} {b:Z8} {num x:Int} {a k:Nat} {c d:List Instr} {ts:LI} {es:List Nat} (hb:bs[k]? = some b) (hl:bs.length=k+1) (ha:Uk X ds e num x a (bs.drop k) k c ts es=d) :
  Uk X ds e num x a (bs.drop (k+1)) (k+1) (flB X ds (X.arm e x num k) b (c++WG (X.len e) (Wy ds num k).length x)++[XM 18 (X.len e) 0 0 [b.result]]) (ts++[(c.length:Int)]) es=d:=by
 rw [Yl hb,Uk] at ha
 rw [Xr om] at ha ⊢
 exact ha
end
end Go.Abs
namespace Go.Abs
theorem NK:∀{bs:List Z8} {k:Nat} {b:Z8},bs[k]? = some b->YV (bs.take (k+1))=YV (bs.take k)+b.sz/\YV (bs.take k)+b.sz<=YV bs
 | [],_,_,h=>by simp at h
 | x::r,0,b,h=>by simp at h;subst h;simp [YV]
 | x::r,k+1,b,h=>by
  obtain ⟨h1,h2⟩:=NK (bs:=r) (k:=k) (b:=b) (by simpa using h)
  simp only [AA,YV]
  omega
theorem Zdj {c:List Instr} {k:Nat} {x:Instr} {m q R:Int} (h:c[k]? = some x) (hq:q=Kf m x) (ha:Ux m (c.drop k)=R):Ux q (c.drop (k+1))=R:=by
 subst hq;rw [Yl h] at ha;exact ha
theorem Zdi {c:List Instr} {k:Nat} {m R:Int} (h:c.length<=k) (ha:Ux m (c.drop k)=R):m=R:=by rw [Xr h] at ha;exact ha
theorem Zbu {l:LI} {j:Nat} {a m R:Int} (h:l[j]? = some a) (ha:(l.drop j).foldl (fun m a=>max m (a+1)) m=R):(l.drop (j+1)).foldl (fun m a=>max m (a+1)) (max m (a+1))=R:=by
 rw [Yl h] at ha;exact ha
theorem Zbt {l:LI} {j:Nat} {m R:Int} (h:l.length<=j) (ha:(l.drop j).foldl (fun m a=>max m (a+1)) m=R):m=R:=by rw [Xr h] at ha;exact ha
theorem Z24 (k:Nat) (h:k<=1000000000):TJ (XI k):=fun f hf=>by have:=Hp k f hf;omega
theorem Zdh (c:List Instr) (p:Nat):Ux (p:Int) c=max (Ux 0 c) (p:Int):=by rw [Zdg c om];omega
theorem WH {p:Prop} (h:p:=by first|omega|(simp only [Bv,CG,Yr,YA,X6,Hl,Hr,DY,VG];omega)):p:=h
end Go.Abs
end
namespace Go.Abs
structure NTu (n:ZF):Prop where
 result:∀r∈n.routines,r.result<=(n.decls.length:Int)
 decl:∀d∈n.decls,d.cons.length=0->d.to_<=(n.decls.length:Int)
 fields:∀c,∀f∈ZP n.decls c,f<=(n.decls.length:Int)
section
variable {n:ZF} (hu:NTu n)
include hu
end

theorem Z5u {xs ys:LI} (h:xs.length=ys.length) (ha:∀i,i<xs.length->xs[i]? = ys[i]?):xs=ys:=List.ext_getElem? fun i=>by
 by_cases hi:i<xs.length
 ·exact ha i hi
 ·rw [Qv om,Qv om]

structure ZS (n:ZF) (q l:Nat):Prop where
 decls:AD n.decls
 len:1<=n.routines.length/\n.routines.length<=4
 rt:∀r∈n.routines,r.params.length<=3/\r.lent.length<=l/\r.body.sz<=q/\r.body.rng
 rb:∀r∈n.routines,r.body.rb
section
variable {n n2:ZF} (hd:n2.decls=n.decls) (hr:∀vars op num args,Kh n2 vars op num args=Kh n vars op num args)
include hd hr
end
section
variable {n:ZF}
end
end Go.Abs
