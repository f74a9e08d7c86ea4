/-
  A part of the proof of FnPlainOfStepsUptoSaid (see the last file): no condition.
-/
import Derived.Test.YthllacimcjakdaaGreatPosA
import Derived.Test.YthllacimcjakdaaGreatRows
import Derived.Deep.Slices
import Derived.ChangeArms
set_option linter.all false
set_option linter.unusedVariables false
set_option linter.unusedSimpArgs false
set_option linter.unusedSectionVars false
set_option maxRecDepth 10000
set_option maxHeartbeats 4000000
section
namespace Go.Abs
structure WT where
 fields:LI
 fv:Value
structure WU where
 frm:Int
 to_:Int
 cons:List WT
 cv:Value
mutual
inductive B0 where
 | mk (op num into:Int) (args:LI) (av:Value) (kids:List Aa) (kv:Value)
inductive Aa where
 | mk (steps:List B0) (sv:Value) (result:Int)
end
namespace B0
end B0
namespace Aa
end Aa
structure DX where
 params:LI
 pv:Value
 lent:LI
 lv:Value
 result:Int
 body:Aa
structure IM where
 decls:List WU
 dv:Value
 routines:List DX
 rv:Value
abbrev Ni (c:WT):List AV:=[ZT c.fields c.fv]
abbrev IP (c:WT):AV:=.agg (Ni c)
def VG (cs:List WT):List AV:=cs.map IP
abbrev Dm (xs:List WT) (v:Value):AV:=.sl (VG xs) (some v)
abbrev Nj (d:WU):List AV:=[.i d.frm,.i d.to_,Dm d.cons d.cv]
abbrev IQ (d:WU):AV:=.agg (Nj d)
def WM (ds:List WU):List AV:=ds.map IQ
abbrev Z7j (xs:List WU) (v:Value):AV:=.sl (WM xs) (some v)
@[simp] theorem Zdh (xs:List WT):(VG xs).length=xs.length:=by simp [VG]
theorem Z0y (xs ys:List WT):VG (xs++ys)=VG xs++VG ys:=by simp [VG]
theorem LN (xs:List WT):∀y∈VG xs,y.leaves.length=1:=by intro y hy;simp only [VG,Xy] at hy;obtain ⟨x,_,rfl⟩:=hy;rfl
@[simp] theorem Zdi (xs:List WU):(WM xs).length=xs.length:=by simp [WM]
theorem Z0z (xs ys:List WU):WM (xs++ys)=WM xs++WM ys:=by simp [WM]
theorem LO (xs:List WU):∀y∈WM xs,y.leaves.length=3:=by intro y hy;simp only [WM,Xy] at hy;obtain ⟨x,_,rfl⟩:=hy;rfl
def D5 (c:WT):List (Value × Nat):=[(c.fv,1)]
def TE (cs:List WT):List (Value × Nat):=cs.flatMap D5
def D6 (d:WU):List (Value × Nat):=TE d.cons++[(d.cv,1)]
def TR (ds:List WU):List (Value × Nat):=ds.flatMap D6
mutual
def D8:B0->List (Value × Nat)
 | .mk _ _ _ _ av kids kv=>(av,1)::(Qb kids++[(kv,2)])
def C3:Aa->List (Value × Nat)
 | .mk steps sv _=>Qc steps++[(sv,5)]
def Qc:List B0->List (Value × Nat)
 | []=>[]
 | s::r=>D8 s++Qc r
def Qb:List Aa->List (Value × Nat)
 | []=>[]
 | b::r=>C3 b++Qb r
end
def D7 (r:DX):List (Value × Nat):=(r.pv,1)::(r.lv,1)::C3 r.body
def JN (rs:List DX):List (Value × Nat):=rs.flatMap D7
def EI (n:IM):List (Value × Nat):=TR n.decls++((n.dv,3)::(JN n.routines++[(n.rv,5)]))
theorem D9:∀(xs:List B0) (ys:List B0),Qc (xs++ys)=Qc xs++Qc ys
 | [],ys=>by simp [Qc]
 | x::r,ys=>by rw [Tx,Qc,Qc,D9 r ys,Ut]
theorem D4:∀(xs:List Aa) (ys:List Aa),Qb (xs++ys)=Qb xs++Qb ys
 | [],ys=>by simp [Qb]
 | x::r,ys=>by rw [Tx,Qb,Qb,D4 r ys,Ut]
theorem EK:Qc []=[]:=by rw [Qc]
theorem EF:Qb []=[]:=by rw [Qb]
theorem EG (xs ys:List WT):TE (xs++ys)=TE xs++TE ys:=by simp [TE]
theorem EH (xs ys:List WU):TR (xs++ys)=TR xs++TR ys:=by simp [TR]
theorem EJ (xs ys:List DX):JN (xs++ys)=JN xs++JN ys:=by simp [JN]
def WT.er (c:WT):Y1:=⟨c.fields⟩
def WU.er (d:WU):Zd:=⟨d.frm,d.to_,d.cons.map WT.er⟩
inductive TM:List AV->List AV->Prop
 | nil:TM [] []
 | cons {x y:AV} {xs ys:List AV} (hl:x.leaves.length=y.leaves.length) (h:Vb x.leaves y.leaves) (t:TM xs ys):TM (x::xs) (y::ys)
theorem TM.length:∀{xs ys:List AV},TM xs ys->xs.length=ys.length
 | _,_,.nil=>rfl
 | _,_,.cons _ _ t=>by simp [t.length]
theorem TM.els {w:World} {G:Y6} {k b:Nat}:∀{o:Nat} {xs ys:List AV},TM xs ys->WF w G k b o xs->WF w G k b o ys
 | _,_,_,.nil,_=>.nil
 | _,_,_,.cons hl h t,.cons hk hm r=>.cons (hl▸hk) (h.mem hm) (t.els r)
theorem Zc.els {es es':List AV} (hv:Option Value) (h:TM es es'):Zc (.sl es hv) (.sl es' none):=by
 intro w G v hr
 cases hr with
 | nil _=>cases h;exact .nil (by simp)
 | sl _ hc hm=>rw [h.length] at hc ⊢;exact .sl (by simp) hc (h.els hm)
theorem TM.map {α β:Type} {f:α->AV} {g:β->AV} {e:α->β} (h:∀x,(f x).leaves.length=(g (e x)).leaves.length/\Vb (f x).leaves (g (e x)).leaves):∀xs:List α,TM (xs.map f) ((xs.map e).map g)
 | []=>.nil
 | x::r=>.cons (h x).1 (h x).2 (TM.map h r)
theorem Z70 (c:WT):Vb (Ni c) (C9 c.er):=.cons (Zc.forget _ _) .nil
theorem Z1f (cs:List WT):TM (VG cs) (Xs (cs.map WT.er)):=TM.map (f:=IP) (g:=BF) (e:=WT.er) (fun c=>⟨rfl,Z70 c⟩) cs
theorem Z71 (d:WU):Vb (Nj d) (UW d.er):=.cons (Zc.refl _) (.cons (Zc.refl _) (.cons (Zc.els _ (Z1f _)) .nil))
theorem Z1g (ds:List WU):TM (WM ds) (Yo (ds.map WU.er)):=TM.map (f:=IQ) (g:=Js) (e:=WU.er) (fun c=>⟨rfl,Z71 c⟩) ds
theorem UX {es:List AV} {k:Nat} (h:es.all (fun y=>Nat.beq y.leaves.length k)=true):∀y∈es,y.leaves.length=k:=fun y hy=>U2 (KJ.1 h y hy)
abbrev rK (g:Hd) (k:Nat) (ls:List AV):Res:=.row g.v k ls
section
variable {P:Program} {n:Nat} {c:Code} {A:Ww} {F:Fr} {h:List Res} {ops:Array Oper} {B:Fr->List Res->Prop} {k:Nat}
variable {T:List (Nat × List Nat)} {fuel:Nat} {done:List Nat}
theorem tB (is:List Nat) (hs:List Res) (L' L:List (Value × Nat)) (e:L'=L) (hp:XW is h=some hs:=by kernel_rfl) (hb:Q6 hs=some L':=by kernel_rfl):Uu h (.many L::Xo is h):=e▸Zci is hp hb
theorem rr {v:Value} {q:Nat} {ls ls':List AV} {t t':List Res} (h:ls=ls') (e:t=t'):Res.row v q ls::t=.row v q ls'::t':=h▸e▸rfl
theorem N2 (j m:Nat) (v:Hd) (kk:Nat) (ls:List AV) (hm:ls.length=m*kk) (hk:0<kk:=by omega) (hl:Cb P ops F k=some (.h v):=by kernel_rfl) (hj:h[j]? = some (rK v kk ls):=by kernel_rfl):Xr P (Zz ops k) F h [] (.i m):=
 Zby j hl hj hm hk
theorem XJ (b l c' q sz:Nat) (j:Int) (hq:j=(q:Int)/\q<l:=by omega) (hi:Aw P ops F k=some (.val (.slice (some ⟨b,0,none⟩) l c'),j,sz):=by kernel_rfl):Xr P (Zz ops k) F h [] (.val (.pointer (some ⟨b,q*sz,none⟩))):=by
 have:=PF (P:=P) (F:=F) (h:=h) hi om om
 rw [hq.1,VW,WS] at this
 exact this
theorem WL (j g len cap kk o:Nat) (ls zs:List AV) (t:TypeId) (y:AV) (hz:(ls.drop o).take zs.length=zs) (hl:HN ops F k=some (t,.val (.pointer (some ⟨g,o,none⟩))):=by kernel_rfl) (hj:h[j]? = some (.row (.slice (some ⟨g,0,none⟩) len cap) kk ls):=by kernel_rfl)
  (hy:JR P t zs=some y:=by kernel_rfl):Xr P (Zz ops k) F h [g] y:=Zbz j hl hj hz hy
theorem C5 (j g len cap kk o:Nat) (xs ls:List AV) (ls':List AV) (hlt:o+xs.length<=ls.length) (he:ls.take o++xs++ls.drop (o+xs.length)=ls') (H:SI P n ops B (k+1) F (.row (.slice (some ⟨g,0,none⟩) len cap) kk ls'::Xo [j] h)) (hk:YS n ops F k=true:=by kernel_rfl)
  (hs:storeAt P ops F k=some (g,o,xs):=by kernel_rfl) (hp:XW [j] h=some [.row (.slice (some ⟨g,0,none⟩) len cap) kk ls]:=by kernel_rfl):SI P n ops B k F h:=
 T9 hk (W8.perm (VU (V8 hp)) (O3 hs hlt (by rw [he];exact H)))
theorem Am (i j:Nat) (js bs:List Nat) (g len cap kk o:Nat) (xs ls:List AV) (ls':List AV) (hlt:o+xs.length<=ls.length) (he:ls.take o++xs++ls.drop (o+xs.length)=ls')
  (H:YM P n ops B (T.filter fun t=>!WB ops i t.1) fuel (done++[i]) F (.row (.slice (some ⟨g,0,none⟩) len cap) kk ls'::Xo [j] h)) (hk:YS n ops F i=true:=by kernel_rfl)
  (hs:storeAt P ops F i=some (g,o,xs):=by kernel_rfl) (hp:XW [j] h=some [.row (.slice (some ⟨g,0,none⟩) len cap) kk ls]:=by kernel_rfl) (ho:VB ops i T=bs:=by kernel_rfl)
  (hj:js.map (fun q=>(Wj (Xo [j] h))[q]?)=bs.map some:=by kernel_rfl):V4 P n ops B T fuel done F h i:=
 QB [j] js bs hk (V8 hp) ho hj (O3 (h2:=[]) hs hlt (by rw [he];exact H))
theorem C4 (sz:Nat) (hK:∀g,SI P n ops B (k+1) (F.put (Zz ops k).dst (.val (.slice (some ⟨g,0,none⟩) 0 0))) (.row (.slice (some ⟨g,0,none⟩) 0 0) sz []::h)) (hk:YS n ops F k=true:=by kernel_rfl)
  (ha:UY P ops F k=some ([],0,sz):=by kernel_rfl):SI P n ops B k F h:=T9 hk (Z7x (Vi hk).2.1 ha hK)
theorem Hs (j g sz:Nat) (xs:List AV) (hx:Option Value) (hxs:∀y∈xs,y.leaves.length=sz) (hbound:xs.length<=4294967296) (hK:∀v:Hd,SI P n ops B (k+1) (F.put (Zz ops k).dst (.h v)) (rK v sz (Ze xs)::Xo [j] h))
  (hk:YS n ops F k=true:=by kernel_rfl) (ha:U3 P ops F k=some (.val (.slice (some ⟨g,0,none⟩) 0 0),.sl xs hx,sz):=by kernel_rfl) (hp:XW [j] h=some [.row (.slice (some ⟨g,0,none⟩) 0 0) sz []]:=by kernel_rfl):SI P n ops B k F h:=
 T9 hk (W8.perm (VU (V8 hp)) (Z7v (Vi hk).2.1 ha hxs hbound hK))
theorem MZ (j m:Nat) {v:Hd} {kk:Nat} {ls:List AV} (hm:ls.length=m*kk) (h0:0<m) (H:∀g c',v=⟨some ⟨g,0,none⟩,m,c'⟩->YF P n c A F h) (hk:0<kk:=by omega) (hj:h[j]? = some (rK v kk ls):=by kernel_rfl):YF P n c A F h:=
 Rw j m hj hm hk h0 H
theorem N1 (t j:Nat) {v:Hd} {kk:Nat} (es:List AV) (hes:∀y∈es,y.leaves.length=kk) (H:YF P n c A ((t,.sl es (some v.v))::F) (.tail v.v kk::Xo [j] h)) (hk:0<kk:=by omega) (hF':F.get t=.h v:=by kernel_rfl)
  (hp:XW [j] h=some [rK v kk (Ze es)]:=by kernel_rfl):YF P n c A F h:=Rv t j hF' hp hes hk H
theorem Zcf (j i p:Nat) (u v:Value) (kk kv:Nat) (es ls:List AV) (hes:∀y∈es,y.leaves.length=kk) (hl:ls[p]? = some (.val u)) (hk:0<kk:=by omega) (hp:XW [j,i] h=some [.row u kk (Ze es),.row v kv ls]:=by kernel_rfl) :
  Uu h (.row v kv (ls.set p (.sl es (some u)))::.tail u kk::Xo [j,i] h):=PX j i p hp hes hk hl
theorem Dz {A xs ys B:List AV} {o:Nat} (hA:A.length=o) (hl:xs.length=ys.length):(A++(xs++B)).take o++ys++(A++(xs++B)).drop (o+ys.length)=A++(ys++B):=by
 subst hA
 rw [Jn,<-hl,<-List.drop_drop,List.drop_left,List.drop_left,Ut]
theorem I4 {A xs B:List AV} {o:Nat} (hA:A.length=o):((A++(xs++B)).drop o).take xs.length=xs:=by
 subst hA
 rw [List.drop_left,Jn]
theorem VZ (xs ys:List AV):Ze (xs++ys)=Ze xs++Ze ys:=by simp [Ze]
theorem Z1x:Ze []=[]:=rfl
theorem Cq (j:Nat) (v:Value) (q:Nat) (ls ls':List AV) (e:ls=ls') (hp:XW [j] h=some [.row v q ls]:=by kernel_rfl):Uu h (.row v q ls'::Xo [j] h):=by
 subst e
 intro w G hh
 have hp':=VU (V8 hp)
 exact ⟨G,hh.perm hp',(YP.refl w G h).perm (TJ _) hp'⟩
end
end Go.Abs
end
section
namespace Go.Abs
theorem Yq.rgrow {w:World} {G:Y6} {h2:List Res} {g len len' cap k:Nat} {ls ls':List AV} (hh:Yq w G (.row (.slice (some ⟨g,0,none⟩) len cap) k ls::h2)) {cs cs':Array Value} {e:TypeId}
  (hb:w.heap[g]? = some (.cells cs e (0,0))) (Xk:cs'.size=cs.size) (hle:len'<=cap) (hcap:cs.size=cap*k) (hl:ls'.length=len'*k) (hls:YI w G ls' (cs'.toList.take (len'*k))) :
  Yq (w.setRow g cs') G (.row (.slice (some ⟨g,0,none⟩) len' cap) k ls'::h2) /\
   YP w G (.row (.slice (some ⟨g,0,none⟩) len cap) k ls::h2) (w.setRow g cs') G (.row (.slice (some ⟨g,0,none⟩) len' cap) k ls'::h2):=by
 have hmem:Res.row (.slice (some ⟨g,0,none⟩) len cap) k ls∈Res.row (.slice (some ⟨g,0,none⟩) len cap) k ls::h2:=X1 ..
 have hA:Vr G w (w.setRow g cs') G:=⟨fun c j hg=>by
  have hne:c≠g:=fun he=>hh.prot _ hmem c j he hg
  simp [World.cell?,Vj w g c cs' hne],fun _ _ h=>h⟩
 have e1:YP w G [.row (.slice (some ⟨g,0,none⟩) len cap) k ls] (w.setRow g cs') G [.row (.slice (some ⟨g,0,none⟩) len' cap) k ls']:=by
  refine ⟨rfl,rfl,rfl,by simp [World.setRow],fun _ _ h=>h,?_,fun _ _ _ h=>.inl h,?_⟩
  ·intro c hc
   by_cases hcb:c=g
   ·subst hcb
    exact .inr ⟨cs,cs',e,(0,0),hb,setRow_heap w c cs cs' e (0,0) hb,Xk,fun j hj=>absurd ⟨_,X1 ..,rfl⟩ hj⟩
   ·exact .inl (Vj w g c cs' hcb)
  ·rintro c j _ ⟨r,hr,hf⟩
   rw [XT.1 hr] at hf
   exact ⟨_,X1 ..,hf⟩
 have e2:Yq (w.setRow g cs') G [.row (.slice (some ⟨g,0,none⟩) len' cap) k ls']:=by
  refine ⟨fun r hr=>?_,Cu _ _,fun r hr c j hf hg=>?_,fun c j hg=>?_⟩
  ·rw [XT.1 hr]
   exact .inr ⟨g,len',cap,cs',e,rfl,setRow_heap w g cs cs' e (0,0) hb,hle,Xk.trans hcap,hl,hls.mono hA⟩
  ·rw [XT.1 hr] at hf
   exact hh.prot _ hmem c j hf hg
  ·have:=hh.lt c j hg
   simpa [World.setRow] using this
 exact Yq.frame (h:=[.row (.slice (some ⟨g,0,none⟩) len cap) k ls]) (k:=h2) hh e1 e2
section
variable {P:Program} {n:Nat} {ops:Array Oper} {k:Nat} {F:Fr} {h2:List Res}
theorem O1 {K:Fr->List Res->Prop} {v:Hd} {sz m:Nat} {ls xs:List AV} {hx:Option Value} (hd:WV n (Zz ops k)=true) (ha:U3 P ops F k=some (.val v.v,.sl xs hx,sz))
  (hxs:∀y∈xs,y.leaves.length=sz) (hone:(Ze xs).all AV.one=true) (hm0:ls.length=m*sz) (hk0:0<sz) (hne:xs≠[]) (hbound:m+xs.length<=4294967296)
  (hK:∀v':Hd,K (F.put (Zz ops k).dst (.val v'.v)) (.row v'.v sz (ls++Ze xs)::h2)):W8 P n (Zz ops k) F (.row v.v sz ls::h2) K:=by
 unfold U3 at ha
 generalize hoo:Zz ops k=o at ha hd hK
 obtain ⟨dst,op,type,pos,after,guard⟩:=o
 cases op<;>simp only at ha<;>try (cases ha)
 rename_i c
 obtain ⟨callee,args,tys⟩:=c
 simp only at ha
 split at ha
 case h_2=>cases ha
 rename_i s x t t' hargs htys
 split at ha
 case h_2=>cases ha
 rename_i e htt ht
 have:=U2 htt
 subst this
 split at ha
 case h_2=>cases ha
 rename_i i hinfo
 split at ha
 case h_2=>cases ha
 rename_i z hz
 split at ha
 case h_2=>cases ha
 rename_i hb
 simp only [XI] at hb
 simp only [XY,Prod.mk.injEq] at ha
 obtain ⟨h3,h4,hk1⟩:=ha
 have e1:args=#[s,x]:=by rw [<-VN (xs:=args),hargs]
 have e2:tys=#[t,t]:=by rw [<-VN (xs:=tys),htys]
 subst e1;subst e2
 have hzs:z.cells.size=sz:=by rw [U2 hb.1,hk1]
 have hby:=WE hb.2
 have hfl:=Ua xs hxs
 intro Q w G a hF hh
 have v1:=hF.ev s
 have v2:=hF.ev x
 rw [h3] at v1
 rw [h4] at v2
 have v1:=v1.val_inv
 have v2:=v2.forget
 have finish:∀(v':Hd) w',(Builtin.append_ #[t,t] type #[v.v,a.eval x]).run P w=.ok v'.v w'->Yq w' G (.row v'.v sz (ls++Ze xs)::h2)->YP w G (.row v.v sz ls::h2) w' G (.row v'.v sz (ls++Ze xs)::h2) ->
   ({ dst:=dst,op:=.call { callee:=.builtin .append,args:=#[s,x],argTypes:=#[t,t] },type:=type,pos:=pos,after:=after,guard:=guard }:Oper).wp P a w
    (fun a' w'=>∃F' h' G',K F' h'/\FR w' G' n F' a'/\Yq w' G' h'/\YP w G (.row v.v sz ls::h2) w' G' h') Q:=by
  intro v' w' hr j1 j2
  have hrun:(execOp a.eval { dst:=dst,op:=.call { callee:=.builtin .append,args:=#[s,x],argTypes:=#[t,t] },type:=type,pos:=pos,after:=after,guard:=guard }).run P w=.ok (.value v'.v) w':=by
   simp only [execOp,resolve,invoke,builtin,Sem.run_bind,Sem.run_pure,Result.andThen_ok,BA,VX,AW,v1,hr]
  unfold Oper.wp
  rw [hrun]
  exact ⟨_,_,G,hK v',(hF.mono (j2.agree hh)).put (U7 hd) .val,j1,j2⟩
 have hrow0:=hh.ok (.row v.v sz ls) (X1 ..)
 have hsub2:∀r:Res,List.Sublist (r::h2) (r::.row v.v sz ls::h2):=fun r=>List.Sublist.cons_cons _ (Jm _ _)
 have grown:∀(olds news:List Value) (old:Nat),YI w G ls olds->YI w G (Ze xs) news ->
   Yq (w.drew.alloc (.cells (olds.toArray++news.toArray++Builtin.zeroCells z.cells (grownCap w (m+xs.length) old e-(m+xs.length))) e)) G
    (.row (.slice (some ⟨w.heap.size,0,none⟩) (m+xs.length) (grownCap w (m+xs.length) old e)) sz (ls++Ze xs)::h2) /\
   YP w G (.row v.v sz ls::h2) (w.drew.alloc (.cells (olds.toArray++news.toArray++Builtin.zeroCells z.cells (grownCap w (m+xs.length) old e-(m+xs.length))) e)) G
    (.row (.slice (some ⟨w.heap.size,0,none⟩) (m+xs.length) (grownCap w (m+xs.length) old e)) sz (ls++Ze xs)::h2):=by
  intro olds news old ho hn
  have YY:=grownCap_ge w (m+xs.length) old e
  have hol:=ho.length
  have hnl:=hn.length
  have hlen:(ls++Ze xs).length=(m+xs.length)*sz:=by rw [Ym,hm0,hfl,TL]
  obtain ⟨j1,j2⟩:=hh.drew.alloc_rrow (olds.toArray++news.toArray++Builtin.zeroCells z.cells (grownCap w (m+xs.length) old e-(m+xs.length))) e
   (ls:=ls++Ze xs) (len:=m+xs.length) (cap:=grownCap w (m+xs.length) old e) (k:=sz) YY
   (by
    have q2:(grownCap w (m+xs.length) old e-(m+xs.length))*sz=grownCap w (m+xs.length) old e*sz-(m+xs.length)*sz:=Nat.sub_mul ..
    have q3:(m+xs.length)*sz<=grownCap w (m+xs.length) old e*sz:=Q2 _ YY
    have q4:(m+xs.length)*sz=m*sz+xs.length*sz:=TL ..
    simp only [Array.size_append,Cv,size_zeroCells,hzs,hol,hnl,hm0,hfl]
    omega) hlen
   (by
    have:(olds.toArray++news.toArray++Builtin.zeroCells z.cells (grownCap w (m+xs.length) old e-(m+xs.length))).toList.take ((m+xs.length)*sz)=olds++news:=by
     simp only [Cs]
     rw [<-hlen,Ym,<-hol,<-hnl,<-Ym]
     exact Jn
    rw [this]
    exact (ho.append hn).mono (Ae w G))
  exact ⟨j1.sub (hsub2 _),(YP.drew w G _).trans (j2.sub' (hsub2 _))⟩
 generalize hax:a.eval x=ax at v2 finish
 cases v2 with
 | nil _=>exact absurd rfl hne
 | sl hq hcc hm=>
  rename_i b o' k' c
  have hpos:0<xs.length:=DS.2 hne
  have hfm:=hm.flat_mem
  obtain ⟨news,hn,hnc⟩:=hfm.cells
  have hnl:news.length=xs.length*i.size:=by rw [hn.length,hfl,hk1]
  have hone':=hn.one_cells hone
  have hnews:∀j u,news[j]? = some u->w.cell? ((⟨b,o',none⟩:Addr).add j)=some u:=fun j u hj=>by rw [QT];exact (hnc j u hj).1
  have hbb:(m+xs.length)*i.bytes<=140737488355328:=by
   have:=Nat.mul_le_mul hbound hby
   omega
  rcases hrow0 with ⟨hv0,hl0⟩|⟨g,len,cap,cur,el,hv0,hrow,hlc,hcur,hll,hcells⟩
  ·subst hl0
   have hm1:m=0:=by
    have:m*sz=0:=by simpa using hm0.symm
    rcases Nat.mul_eq_zero.1 this with h|h
    ·exact h
    ·omega
   subst hm1
   rw [hv0] at finish hh ⊢
   have hr:=run_append_nil (P:=P) w t type e i z ht hinfo hz ⟨b,o',none⟩ xs.length c news hnl hnews hpos om (by simp only [WS] at hbb;omega)
   obtain ⟨j1,j2⟩:=grown [] news 0 .nil hn
   simp only [WS,Array.empty_append,Jl] at j1 j2
   rw [hv0] at j2
   exact finish ⟨some ⟨w.heap.size,0,none⟩,xs.length,grownCap w xs.length 0 e⟩ _ hr (by simpa using j1) (by simpa using j2)
  ·have hlm:len=m:=G6 hk0 (hll.symm.trans hm0)
   subst hlm
   rw [hv0] at finish hh ⊢
   have q5:len*sz<=cap*sz:=Q2 _ hlc
   have h1:(cur.toList.take (len*sz)).length=len*sz:=by rw [Wm,QM,hcur,Va q5]
   have hcl:cur.toList.length=cap*sz:=by rw [QM,hcur]
   by_cases hroom:len+xs.length<=cap
   ·have q1:(len+xs.length)*sz<=cap*sz:=Q2 _ hroom
    have q2:(len+xs.length)*sz=len*sz+xs.length*sz:=TL ..
    have hfit:len*i.size+news.length<=cur.size:=by rw [hnl,hcur,hk1];omega
    have hr:=Fu (P:=P) w t type e el i ht hinfo g len cap cur hrow ⟨b,o',none⟩ xs.length c news hnl hnews hone' hroom hfit
    rw [hk1] at hr
    have hnl':news.length=xs.length*sz:=by rw [hnl,hk1]
    obtain ⟨j1,j2⟩:=hh.rgrow (ls':=ls++Ze xs) (len':=len+xs.length) (cs':=(cur.toList.take (len*sz)++news++cur.toList.drop (len*sz+news.length)).toArray) hrow
     (by simp only [Cv,Ym,h1,hnl',Jk,hcl,hcur];omega) hroom hcur (by rw [Ym,hll,hfl,q2]) (by
      have:(cur.toList.take (len*sz)++news++cur.toList.drop (len*sz+news.length)).toArray.toList.take ((len+xs.length)*sz)=cur.toList.take (len*sz)++news:=by
       rw [Cw,q2,<-hnl']
       conv=>lhs;arg 1;rw [show len*sz+news.length=(cur.toList.take (len*sz)++news).length from by rw [Ym,h1]]
       exact Jn
      rw [this]
      exact hcells.append hn)
    exact finish ⟨some ⟨g,0,none⟩,len+xs.length,cap⟩ _ hr j1 j2
   ·have hr:=run_append_grow (P:=P) w t type e i z ht hinfo hz ⟨g,0,none⟩ len cap (cur.toList.take (len*sz)) (by rw [hk1];exact h1) (fun j u hj=>by
     rw [QT,cell_of_row w g _ cur el (0,0) hrow]
     rw [Qt] at hj
     split at hj
     ·simpa using hj
     ·cases hj) ⟨b,o',none⟩ xs.length c news hnl hnews om om (growslice_fits om hbb)
    obtain ⟨j1,j2⟩:=grown (cur.toList.take (len*sz)) news cap hcells hn
    rw [hv0] at j2
    exact finish ⟨some ⟨w.heap.size,0,none⟩,len+xs.length,grownCap w (len+xs.length) cap e⟩ _ hr j1 j2
end
section
variable {P:Program} {n:Nat} {ops:Array Oper} {B:Fr->List Res->Prop} {k:Nat} {F:Fr} {h:List Res}
theorem EQ (j m:Nat) (v:Hd) (sz:Nat) (ls xs:List AV) (hx:Option Value) (hm0:ls.length=m*sz) (hxs:∀y∈xs,y.leaves.length=sz) (hone:(Ze xs).all AV.one=true) (hne:xs≠[]) (hbound:m+xs.length<=4294967296)
  (hK:∀v':Hd,SI P n ops B (k+1) (F.put (Zz ops k).dst (.h v')) (rK v' sz (ls++Ze xs)::Xo [j] h)) (hk0:0<sz:=by omega)
  (hk:YS n ops F k=true:=by kernel_rfl) (ha:U3 P ops F k=some (.h v,.sl xs hx,sz):=by kernel_rfl) (hp:XW [j] h=some [rK v sz ls]:=by kernel_rfl):SI P n ops B k F h:=
 T9 hk (W8.perm (VU (V8 hp)) (O1 (Vi hk).2.1 ha hxs hone hm0 hk0 hne hbound hK))
end
end Go.Abs
namespace Go.Abs
section
variable {P:Program} {n:Nat} {ops:Array Oper} {B:Fr->List Res->Prop} {T:List (Nat × List Nat)} {fuel:Nat} {done:List Nat} {F:Fr} {h:List Res}
theorem Gz (i j m:Nat) (js bs:List Nat) (v:Hd) (sz:Nat) (ls xs:List AV) (hx:Option Value) (hm0:ls.length=m*sz) (hxs:∀y∈xs,y.leaves.length=sz) (hone:(Ze xs).all AV.one=true) (hne:xs≠[]) (hbound:m+xs.length<=4294967296)
  (hK:∀v':Hd,YM P n ops B (T.filter fun t=>!WB ops i t.1) fuel (done++[i]) (F.put (Zz ops i).dst (.h v')) (rK v' sz (ls++Ze xs)::Xo [j] h)) (hk0:0<sz:=by omega) (hk:YS n ops F i=true:=by kernel_rfl)
  (ha:U3 P ops F i=some (.h v,.sl xs hx,sz):=by kernel_rfl) (hp:XW [j] h=some [rK v sz ls]:=by kernel_rfl) (ho:VB ops i T=bs:=by kernel_rfl)
  (hj:js.map (fun q=>(Wj (Xo [j] h))[q]?)=bs.map some:=by kernel_rfl):V4 P n ops B T fuel done F h i:=
 QB [j] js bs hk (V8 hp) ho hj (O1 (h2:=[]) (Vi hk).2.1 ha hxs hone hm0 hk0 hne hbound hK)
end
theorem W2.form {P:Program} {f:FuncId} {as1:List AV} {h0:List Res} {T:Hd->AV} {kk m:Nat} {ls:List AV} {hs:List Res} (H:W2 P f as1 h0 (fun r h=>∃v:Hd,r=T v/\h=rK v kk ls::hs)) (hm:ls.length=m*kk) (hk:0<kk) (h1:0<m) :
  W2 P f as1 h0 (fun r h=>∃(g c:Nat),r=T ⟨some ⟨g,0,none⟩,m,c⟩/\h=rK ⟨some ⟨g,0,none⟩,m,c⟩ kk ls::hs):=by
 intro w G vs hv hh
 refine (H w G vs hv hh).mono ?_
 rintro e w' ⟨u,r,h',G',he,⟨v,rfl,rfl⟩,hr,hh',hx⟩
 obtain ⟨g,c,rfl⟩:=I3 (hh'.ok _ (X1 ..)) hm hk h1
 exact ⟨u,_,_,G',he,⟨g,c,rfl,rfl⟩,hr,hh',hx⟩
end Go.Abs
namespace Go.Abs
section
variable {h:List Res}
theorem Zck (j i p:Nat) {u:Value} {kk b:Nat} {es ls:List AV} (hp:XW [j,i] h=some [.row u kk (Ze es),.obj b ls]) (hes:∀y∈es,y.leaves.length=kk) (hk:0<kk) (hl:ls[p]? = some (.val u)) :
  Uu h (.obj b (ls.set p (.sl es (some u)))::.tail u kk::Xo [j,i] h):=by
 intro w G hh
 have hp':=VU (V8 hp)
 have hh':=hh.perm hp'
 obtain ⟨G',h1,h2',h3⟩:=Ck (h2:=.obj b ls::Xo [j,i] h) hh' hes hk
 have e:=h2'.perm hp'.symm (TJ _)
 have h1:Yq w G' (.tail u kk::.obj b ls::Xo [j,i] h):=h1
 have perm:(Res.tail u kk::.obj b ls::Xo [j,i] h).Perm (.obj b ls::.tail u kk::Xo [j,i] h):=List.Perm.swap ..
 have h4:=h1.perm perm
 have e4:=e.perm (TJ _) perm
 have hset:∀{w:World} {G:Y6},RV w G (.sl es (some u)) u->Ty w G (.obj b ls)->Ty w G (.obj b (ls.set p (.sl es (some u)))):=by
  intro w G hu hr
  obtain ⟨cs,el,k1,k5⟩:=hr
  refine ⟨cs,el,k1,?_⟩
  obtain ⟨c,c1,c2⟩:=k5.get p _ hl
  have:=c2.val_inv
  subst this
  have h6:=k5.set p hu
  rwa [show cs.toList.set p c=cs.toList from by
   apply List.ext_getElem?
   intro q
   rw [List.getElem?_set]
   split
   ·rename_i hq;subst hq;split
    ·exact c1.symm
    ·rename_i hq2;rw [Ct om]
   ·rfl] at h6
 refine ⟨G',⟨fun r hr=>?_,?_,fun r hr=>?_,h4.lt⟩,⟨e4.os,e4.tape,e4.output,e4.size,e4.sub,e4.same,e4.newG,fun b' o hb ⟨r,hr,hf⟩=>e4.newfp b' o hb ?_⟩⟩
 ·rcases YB.1 hr with rfl|hr
  ·exact hset h3 (h4.ok _ (X1 ..))
  ·exact h4.ok r (Xl _ hr)
 ·have:=Wv.1 h4.apart
  exact Wv.2 ⟨fun r hr b' o f1 f2=>this.1 r hr b' o f1 f2,this.2⟩
 ·rcases YB.1 hr with rfl|hr
  ·exact fun b' o f1 hg=>h4.prot (.obj b ls) (X1 ..) b' o f1 hg
  ·exact h4.prot r (Xl _ hr)
 ·rcases YB.1 hr with rfl|hr
  ·exact ⟨.obj b ls,X1 ..,hf⟩
  ·exact ⟨r,Xl _ hr,hf⟩
theorem UJ (j i p:Nat) (u:Value) (kk b:Nat) (es ls:List AV) (hes:∀y∈es,y.leaves.length=kk) (hl:ls[p]? = some (.val u)) (hk:0<kk:=by omega) (hp:XW [j,i] h=some [.row u kk (Ze es),.obj b ls]:=by kernel_rfl) :
  Uu h (.obj b (ls.set p (.sl es (some u)))::.tail u kk::Xo [j,i] h):=Zck j i p hp hes hk hl
end
end Go.Abs
namespace Go.Abs
section
variable {P:Program} {n:Nat} {ops:Array Oper} {k:Nat} {F:Fr} {h:List Res}
theorem Zc0 (j:Nat) {g l c m kk:Nat} {ls:List AV} (hi:Cp P ops F k=some (.val (.slice (some ⟨g,0,none⟩) l c),(m:Int))) (hj:h[j]? = some (.row (.slice (some ⟨g,0,none⟩) l c) kk ls)) (hle:m<=l) :
  Xr P (Zz ops k) F h [] (.val (.slice (some ⟨g,0,none⟩) m c)):=by
 unfold Cp at hi
 generalize hoo:Zz ops k=o at hi
 obtain ⟨dst,op,type,pos,after,guard⟩:=o
 cases op<;>simp only at hi<;>try (cases hi)
 rename_i t x lo hi' mx
 cases lo with
 | some _=>simp at hi
 | none=>
  cases hi' with
  | none=>simp at hi
  | some y=>
   cases mx with
   | some _=>simp at hi
   | none=>
    simp only at hi
    split at hi
    ·rename_i e ht
     split at hi
     ·rename_i inf hinf
      split at hi
      ·rename_i ik m' hm
       simp only [XY,Prod.mk.injEq] at hi
       obtain ⟨hx,rfl⟩:=hi
       intro n w G a hF hh
       have v1:=hF.ev x
       rw [hx] at v1
       have v1:=v1.val_inv
       have v2:=hF.ev y
       rw [hm] at v2
       have v2:=v2.val_inv
       have hcap:l<=c:=by
        rcases hh.ok _ (Y0 hj) with ⟨h0,_⟩|⟨g',l',c',cur,el,h0,_,hc,_⟩
        ·cases h0
        ·cases h0;exact hc
       refine ⟨_,.val,fun w' _ _=>?_⟩
       simp only [execOp,v1,v2,AX,Option.map_none]
       refine V1 ?_
       simp only [Instr.sliceAt,Sem.run_bind,Vp ht,Result.andThen_ok,Instr.slice]
       have hmm:(Instr.sliceBounds true l c none (some (.int ik (m:Int))) none).run P w'=.ok (0,m,c) w':=by
        have ZH:=fun q=>Cm (P:=P) (c:=q) (v:=.int ik (m:Int)) (y:=c) rfl om om w'
        simp [Instr.sliceBounds,ZH]
       rw [hmm]
       have hz:∀a:Addr,a.add 0=a:=fun a=>by simp [Addr.add]
       simp only [Result.andThen_ok,TW hinf,Nat.zero_mul,hz]
       by_cases h0:c=0<;>simp [h0]
      ·cases hi
     ·cases hi
    ·cases hi
theorem Hz (j g l c m kk:Nat) (ls:List AV) (hle:m<=l:=by omega) (hi:Cp P ops F k=some (.val (.slice (some ⟨g,0,none⟩) l c),(m:Int)):=by kernel_rfl) (hj:h[j]? = some (.row (.slice (some ⟨g,0,none⟩) l c) kk ls):=by kernel_rfl) :
  Xr P (Zz ops k) F h [] (.val (.slice (some ⟨g,0,none⟩) m c)):=Zc0 j hi hj hle
variable {B:Fr->List Res->Prop}
theorem iVM (l:Nat) (hK:∀v:Hd,SI P n ops B (k+1) (F.put (Zz ops k).dst (.h v)) (rV v (List.replicate l 0)::h)) (hl:l<=4294967296:=by omega) (hk:YS n ops F k=true:=by kernel_rfl)
  (hm:Az P ops F k=some ((l:Int),(l:Int),.i 0):=by kernel_rfl):SI P n ops B k F h:=
 Z4p (Z7 (List.replicate l 0)) hk hm (YR _) hl (by simp [Z7]) fun v'=>FA fun g hg=>by subst hg;exact hK g
end
end Go.Abs
end
namespace Go.Abs
theorem Y3 {α:Type} {xs:List α} {k:Nat} {x:α} (h:xs[k]? = some x):xs.drop k=x::xs.drop (k+1):=by
 have hk:=(XA.1 h).1
 rw [Rj hk]
 congr 1
 rw [A5 hk] at h
 exact A7 h
theorem X5 {α:Type} {xs:List α} {k:Nat} (h:xs.length<=k):xs.drop k=[]:=G3 h
theorem We {α:Type} {xs:List α} {k:Nat} {x:α} (h:xs[k]? = some x):xs.take (k+1)=xs.take k++[x]:=by
 rw [List.take_add_one,h];rfl
def Yy:List Zd->Nat
 | []=>0
 | d::ds=>d.cons.length+Yy ds
theorem CH (xs ys:List Zd):Yy (xs++ys)=Yy xs+Yy ys:=by
 induction xs with
 | nil=>simp [Yy]
 | cons d ds ih=>simp [Yy,ih];omega
structure XZ (ds:List Zd):Prop where
 len:ds.length<=4
 cons:∀d∈ds,d.cons.length<=3
 fields:∀d∈ds,∀c∈d.cons,c.fields.length<=3
theorem SO {ds:List Zd} {m:Nat} (h:∀d∈ds,d.cons.length<=m):Yy ds<=ds.length*m:=by
 induction ds with
 | nil=>simp [Yy]
 | cons d ds ih=>
  have h1:=h d (by simp)
  have h2:=ih (fun x hx=>h x (by simp [hx]))
  simp only [Yy,YH,TL];omega
theorem XZ.sum {ds:List Zd} (h:XZ ds):Yy ds<=12:=by
 have:=SO h.cons
 have:=h.len
 have:ds.length*3<=4*3:=Q2 3 h.len
 omega
theorem XZ.take {ds:List Zd} (h:XZ ds) (k:Nat):XZ (ds.take k):=
 ⟨by have:=h.len;simp;omega,fun d hd=>h.cons d (TK hd),fun d hd=>h.fields d (TK hd)⟩
theorem XZ.cons_at {ds:List Zd} (h:XZ ds) {k:Nat} {d:Zd} (hd:ds[k]? = some d):d.cons.length<=3:=h.cons d (Y0 hd)
theorem XZ.fields_at {ds:List Zd} (h:XZ ds) {k j:Nat} {d:Zd} {c:Y1} (hd:ds[k]? = some d) (hc:d.cons[j]? = some c):c.fields.length<=3:=
 h.fields d (Y0 hd) c (Y0 hc)
def Ux (c:Int):List Zd->Nat->Nat->Int × LI
 | [],_,_=>(-1,[])
 | d::ds,i,first=>
  if (first:Int)<=c/\c<=((first+d.cons.length:Nat):Int)-1 then ((i:Int)+1,(d.cons[(c-first).toNat]?.map (·.fields)).getD []) else Ux c ds (i+1) (first+d.cons.length)
def XP (ds:List Zd) (c:Int):Int:=(Ux c ds 0 0).1
def ZP (ds:List Zd) (c:Int):LI:=(Ux c ds 0 0).2
theorem Gw {c:Int}:∀{ds:List Zd} {i first:Nat},(Ux c ds i first=(-1,[]) ∨
  ∃k d x,ds[k]? = some d/\(first+Yy (ds.take k):Int)<=c/\c<first+Yy (ds.take k)+d.cons.length/\d.cons[(c-(first+Yy (ds.take k))).toNat]? = some x/\Ux c ds i first=((i:Int)+k+1,x.fields))
 | [],_,_=>.inl rfl
 | d::ds,i,first=>by
  rw [Ux]
  split
  ·rename_i h
   have hlt:(c-first).toNat<d.cons.length:=by omega
   refine .inr ⟨0,d,d.cons[(c-first).toNat],rfl,by simp [Yy];omega,by simp [Yy];omega,?_,?_⟩
   ·simp [Yy]
   ·rw [A5 hlt];simp
  ·rcases Gw (c:=c) (ds:=ds) (i:=i+1) (first:=first+d.cons.length) with h|⟨k,e,x,h1,h2,h3,h4,h5⟩
   ·exact .inl h
   ·refine .inr ⟨k+1,e,x,by simpa using h1,by simp [Yy];omega,by simp [Yy];omega,?_,?_⟩
    ·rw [<-h4];congr 3;simp [Yy];omega
    ·rw [h5];congr 1;omega
theorem Gx {ds:List Zd} {c:Int} (h:¬XP ds c<1) :
  ∃k d x,ds[k]? = some d/\(Yy (ds.take k):Int)<=c/\d.cons[(c-Yy (ds.take k)).toNat]? = some x/\XP ds c=(k:Int)+1/\ZP ds c=x.fields:=by
 rcases Gw (c:=c) (ds:=ds) (i:=0) (first:=0) with h1|⟨k,d,x,h1,h2,_,h4,h5⟩
 ·simp [XP,h1] at h
 ·exact ⟨k,d,x,h1,by simpa using h2,by simpa using h4,by simp [XP,h5],by simp [ZP,h5]⟩
theorem Ed {ds:List Zd} {c:Int} (h:XP ds c<1):ZP ds c=[]/\XP ds c=-1:=by
 rcases Gw (c:=c) (ds:=ds) (i:=0) (first:=0) with h1|⟨k,d,x,h1,h2,_,h4,h5⟩
 ·simp [ZP,XP,h1]
 ·simp [XP,h5] at h;omega
def V6 (first:Int):Nat->LI
 | 0=>[]
 | n+1=>first::V6 (first+1) n
theorem NQ (first:Int) (n:Nat):V6 first (n+1)=V6 first n++[first+n]:=by
 induction n generalizing first with
 | zero=>simp [V6]
 | succ n ih=>rw [V6,ih (first+1),V6];simp;omega
@[simp] theorem Z7i (first:Int) (n:Nat):(V6 first n).length=n:=by
 induction n generalizing first with
 | zero=>rfl
 | succ n ih=>simp [V6,ih]
def ZQ (ds:List Zd) (t:Int):LI:=
 if 1<=t/\t<=ds.length then V6 (Yy (ds.take (t-1).toNat)) (((ds[(t-1).toNat]?).map (·.cons.length)).getD 0) else []
def Qx (frm to_:Int):List Zd->Nat->Int
 | [],_=>-1
 | d::ds,i=>if d.cons.length=0/\d.frm=frm/\d.to_=to_ then (i:Int)+1 else Qx frm to_ ds (i+1)
def VO (ds:List Zd) (frm to_:Int):Int:=Qx frm to_ ds 0
def XE (ds:List Zd) (t:Int):Bool:=decide (1<=t/\t<=ds.length)&&((ds[(t-1).toNat]?).map fun d=>decide (d.cons.length=0)).getD false
theorem EW {ds:List Zd} {t:Int} {x:Zd} (h:1<=t/\t<=ds.length) (hx:ds[(t-1).toNat]? = some x):((x.cons.length:Int)==0)=XE ds t:=by
 rw [XE,hx,Xf];simp [h]
theorem Hu {ds:List Zd} {t:Int} (h:¬(1<=t/\t<=ds.length)):false=XE ds t:=by
 rw [XE,Xf];simp only [Bool.false_eq_true,XI,decide_eq_true_eq,h,false_and]
def XU (m:Nat) (xs:LI):Bool:=xs.all fun t=>decide (0<=t/\t<=m)
end Go.Abs
section
namespace Go.Abs
section
variable {h:List Res}
end
end Go.Abs
namespace Go.Abs
section
variable {P:Program} {ops:Array Oper} {k:Nat} {F:Fr} {h:List Res}
end
end Go.Abs
end
namespace Go.Abs
section
variable {P:Program} {n:Nat} {ops:Array Oper} {B:Fr->List Res->Prop} {k:Nat} {F:Fr} {h:List Res} {T:List (Nat × List Nat)} {fuel:Nat} {done:List Nat}
theorem O2 {K:Fr->List Res->Prop} {ls:List AV} {len sz:Nat} (hd:WV n (Zz ops k)=true) (ha:UY P ops F k=some (ls,len,sz)) (hlen:ls.length=len*sz)
  (hK:∀g,K (F.put (Zz ops k).dst (.val (.slice (some ⟨g,0,none⟩) len len))) (.row (.slice (some ⟨g,0,none⟩) len len) sz ls::h)):W8 P n (Zz ops k) F h K:=by
 unfold UY at ha
 generalize hoo:Zz ops k=q at ha hd hK
 obtain ⟨dst,op,type,pos,after,guard⟩:=q
 cases op<;>simp only at ha<;>try (cases ha)
 rename_i t ln parts
 split at ha
 case h_2=>cases ha
 rename_i e ht
 split at ha
 case h_2=>cases ha
 rename_i i hi
 split at ha
 case h_2=>cases ha
 rename_i hc
 simp only [XI] at hc
 split at ha
 case h_2=>cases ha
 rename_i ls' hf
 simp only [XY,Prod.mk.injEq] at ha
 obtain ⟨rfl,rfl,Xk⟩:=ha
 intro Q w G a hF hh
 obtain ⟨cs,h1,h2⟩:=Fv hF parts ht hi rfl hc.1 hc.2 hf
 have hr:(execOp a.eval { dst:=dst,op:=.buildSlice t ln parts,type:=type,pos:=pos,after:=after,guard:=guard }).run P w =
   .ok (.value (.slice (some ⟨w.heap.size,0,none⟩) ln ln)) (w.alloc (.cells cs e)):=by
  simp only [execOp]
  exact V1 h2
 unfold Oper.wp
 rw [hr]
 have hlc:=h1.length
 simp only [QM] at hlc
 obtain ⟨j1,j2⟩:=hh.alloc_rrow cs e (ls:=ls') (len:=ln) (cap:=ln) (k:=sz) (YR _) (by rw [hlc];exact hlen) hlen (by rw [<-hlen,<-hlc];simpa [WA] using h1)
 exact ⟨_,_,G,hK _,(hF.mono (j2.agree hh)).put (U7 hd) .val,j1,j2⟩
theorem Ub (es es':List AV) (he:es=es') (len sz:Nat) (hK:∀v,SI P n ops B (k+1) (F.put (Zz ops k).dst (.sl es' (some v))) (.tail v sz::h)) (hk:YS n ops F k=true:=by kernel_rfl)
  (ha:UY P ops F k=some (Ze es,len,sz):=by kernel_rfl) (hlen:es.length=len:=by kernel_rfl) (hall:Ju es sz=true:=by kernel_rfl):SI P n ops B k F h:=by
 subst he;exact iL es len sz hK hk ha hlen hall
theorem Wh (i:Nat) (js bs:List Nat) (es es':List AV) (he:es=es') (len sz:Nat) (hK:∀v,YM P n ops B (T.filter fun t=>!WB ops i t.1) fuel (done++[i]) (F.put (Zz ops i).dst (.sl es' (some v))) (.tail v sz::h))
  (hk:YS n ops F i=true:=by kernel_rfl) (ha:UY P ops F i=some (Ze es,len,sz):=by kernel_rfl) (hlen:es.length=len:=by kernel_rfl) (hall:Ju es sz=true:=by kernel_rfl)
  (ho:VB ops i T=bs:=by kernel_rfl) (hj:js.map (fun j=>(Wj h)[j]?)=bs.map some:=by kernel_rfl):V4 P n ops B T fuel done F h i:=by
 subst he;exact dL i js bs es len sz hK hk ha hlen hall ho hj
theorem iKN (ls:List AV) (len sz:Nat) (hK:∀g,SI P n ops B (k+1) (F.put (Zz ops k).dst (.val (.slice (some ⟨g,0,none⟩) len len))) (.row (.slice (some ⟨g,0,none⟩) len len) sz ls::h)) (hlen:ls.length=len*sz:=by rfl) (hk:YS n ops F k=true:=by kernel_rfl)
  (ha:UY P ops F k=some (ls,len,sz):=by kernel_rfl):SI P n ops B k F h:=T9 hk (O2 (Vi hk).2.1 ha hlen hK)
theorem dKN (i:Nat) (js bs:List Nat) (ls:List AV) (len sz:Nat) (hK:∀g,YM P n ops B (T.filter fun t=>!WB ops i t.1) fuel (done++[i]) (F.put (Zz ops i).dst (.val (.slice (some ⟨g,0,none⟩) len len))) (.row (.slice (some ⟨g,0,none⟩) len len) sz ls::h)) (hlen:ls.length=len*sz:=by rfl)
  (hk:YS n ops F i=true:=by kernel_rfl) (ha:UY P ops F i=some (ls,len,sz):=by kernel_rfl) (ho:VB ops i T=bs:=by kernel_rfl) (hj:js.map (fun j=>(Wj h)[j]?)=bs.map some:=by kernel_rfl):V4 P n ops B T fuel done F h i:=
 QB (h1:=[]) (h2:=h) [] js bs hk rfl ho hj (O2 (Vi hk).2.1 ha hlen hK)
end
theorem W2.frz {P:Program} {f:FuncId} {as1:List AV} {h0:List Res} {E:Type} {kk:Nat} {es:E->List AV} {hs:E->List Res} {Q:E->Prop} (H:W2 P f as1 h0 (fun r h=>∃(e:E) (v:Hd),r=.h v/\h=rK v kk (Ze (es e))::hs e/\Q e)) (hes:∀e,∀y∈es e,y.leaves.length=kk) (hk:0<kk) :
  W2 P f as1 h0 (fun r h=>∃(e:E) (v:Value),r=.sl (es e) (some v)/\h=.tail v kk::hs e/\Q e):=by
 intro w G vs hv hh
 refine (H w G vs hv hh).mono ?_
 rintro e w' ⟨u,r,h',G',he,⟨x,v,rfl,rfl,hq⟩,hr,hh',hx⟩
 obtain ⟨G2,h1,h2,h3⟩:=Ck hh' (hes x) hk
 have hrv:=hr.val_inv
 subst hrv
 exact ⟨_,_,_,G2,he,⟨x,v.v,rfl,rfl,hq⟩,h3,h1,hx.trans h2⟩
theorem Ez {es:List AV} {sz k:Nat} {y:AV} (h:∀x∈es,x.leaves.length=sz) (hy:y.leaves.length=sz) (hk:k<es.length):(Ze es).take (k*sz)++y.leaves++(Ze es).drop (k*sz+y.leaves.length)=Ze (es.set k y):=by
 obtain ⟨x,hx⟩:=J7 (xs:=es) (j:=k) hk
 have hxl:=h x (Y0 hx)
 have e1:es=es.take k++(x::es.drop (k+1)):=by rw [<-Y3 hx,UK]
 have e2:es.set k y=es.take k++(y::es.drop (k+1)):=by rw [DT,Zk hk]
 have hl:(Ze (es.take k)).length=k*sz:=by rw [Ua (k:=sz) _ (fun z hz=>h z (TK hz)),Wm,Va om]
 have e3:Ze es=Ze (es.take k)++(x.leaves++Ze (es.drop (k+1))):=by
  conv=>lhs;rw [e1,VZ]
  simp [Ze]
 rw [e2,VZ,e3,Dz hl (by rw [hxl,hy])]
 simp [Ze]
theorem Z0v (ds:List Zd) (k:Nat) (d:Zd):Yo (ds.set k d)=(Yo ds).set k (Js d):=by simp [Yo,List.map_set]
theorem Bf (xs:List Zd):(Ze (Yo xs)).length=xs.length*3:=by rw [Ua (k:=3) _ (QC xs)];simp
theorem Ev {ds:List Zd} {k:Nat} (d:Zd) (hk:k<ds.length):(Ze (Yo ds)).take (k*3)++UW d++(Ze (Yo ds)).drop (k*3+3)=Ze (Yo (ds.set k d)):=by
 rw [Z0v];exact Ez (y:=Js d) (QC ds) rfl (by simpa using hk)
theorem H2 (xs ys:List Zd):Ze (Yo xs)++Ze (Yo ys)=Ze (Yo (xs++ys)):=by rw [Z0t,VZ]
section
variable {P:Program} {n:Nat} {ops:Array Oper} {B:Fr->List Res->Prop} {k:Nat} {F:Fr} {h:List Res}
theorem EP (j m:Nat) {v:Hd} {kk:Nat} {ls:List AV} (hm:ls.length=m*kk) (h0:0<m) (H:∀g c',v=⟨some ⟨g,0,none⟩,m,c'⟩->SI P n ops B k F h) (hk:0<kk:=by omega) (hj:h[j]? = some (rK v kk ls):=by kernel_rfl):SI P n ops B k F h:=by
 intro Q w G a hF hh hq
 obtain ⟨g,c',e⟩:=I3 (hh.ok _ (Y0 hj)) hm hk h0
 exact H g c' e Q w G a hF hh hq
end
section
variable {P:Program} {n:Nat} {ops:Array Oper} {B:Fr->List Res->Prop} {k:Nat} {F:Fr} {h:List Res}
def Gy (P:Program) (ops:Array Oper) (F:Fr) (k:Nat):Option (IntKind × Int):=
 match (Zz ops k).op with
 | .convert s d x=>match P.underlying s,P.underlying d,F.ev x with
  | some (.int _),some (.int q),.val (.int _ z)=>some (q,z)
  | _,_,_=>none
 | _=>none
theorem kCv (q:IntKind) (z z':Int) (e:q.wrap z=z') (hc:Gy P ops F k=some (q,z):=by kernel_rfl):Xr P (Zz ops k) F h [] (.val (.int q z')):=by
 unfold Gy at hc
 generalize hoo:Zz ops k=o at hc
 obtain ⟨dst,op,type,pos,after,guard⟩:=o
 cases op<;>simp only at hc<;>try (cases hc)
 rename_i s d x
 split at hc
 ·rename_i q1 q2 q3 z2 h1 h2 h3
  cases hc
  intro n w G ac hF hh
  have v1:=hF.ev x
  rw [h3] at v1
  have v1:=v1.val_inv
  refine ⟨_,.val,fun w' _ _=>?_⟩
  simp only [execOp,v1]
  refine V1 ?_
  simp [convert,Vp h1,Vp h2,Conv.intToInt,e]
 ·cases hc
theorem IH {z:Int} (h:0<=z/\z<=9223372036854775807):IntKind.i64.wrap z=z:=IntWalk.i64_in _ om
theorem C8 (z:Int) (hz:0<=z/\z<=255) (hc:Gy P ops F k=some (.i64,z):=by kernel_rfl):Xr P (Zz ops k) F h [] (.i z):=kCv .i64 z z (IH om) hc
def Ai (ops:Array Oper) (F:Fr) (k:Nat) (b:BinOp):Option (Int × Int):=
 match (Zz ops k).op with
 | .binOp c _ x y _=>if c==b then match F.ev x,F.ev y with
  | .val (.int .i64 z),.val (.int .i64 u)=>some (z,u)
  | _,_=>none else none
 | _=>none
theorem HA (a b:Int) (hb:0<b) (ha:0<=a/\a<=9223372036854775807) (hc:Ai ops F k .quo=some (a,b):=by kernel_rfl):Xr P (Zz ops k) F h [] (.i (a / b)):=by
 unfold Ai at hc
 generalize hoo:Zz ops k=o at hc
 obtain ⟨dst,op,type,pos,after,guard⟩:=o
 cases op<;>simp only at hc<;>try (cases hc)
 rename_i bop t x y yt
 cases bop<;>simp only [Zt,reduceCtorEq,if_false,if_true] at hc<;>try (cases hc)
 split at hc
 ·rename_i z yk h1 h2
  cases hc
  intro n' w G ac hF hh
  have v1:=hF.ev x
  have v2:=hF.ev y
  rw [h1] at v1
  rw [h2] at v2
  have v1:=v1.val_inv
  have v2:=v2.val_inv
  refine ⟨_,.val,fun w' _ _=>?_⟩
  simp only [execOp,v1,v2]
  refine V1 ?_
  have e1:a.tdiv b=a / b:=Int.tdiv_eq_ediv_of_nonneg ha.1
  have e2:IntKind.i64.wrap (a / b)=a / b:=IH ⟨Int.ediv_nonneg ha.1 om,Int.le_trans (Int.ediv_le_self b ha.1) ha.2⟩
  have e3:b≠0:=by omega
  simp [eqGuard,binOp,Op.intDiv,e1,e2,e3]
 ·cases hc
theorem Df (a b:Int) (hb:0<b) (ha:0<=a) (hc:Ai ops F k .rem=some (a,b):=by kernel_rfl):Xr P (Zz ops k) F h [] (.i (a % b)):=by
 unfold Ai at hc
 generalize hoo:Zz ops k=o at hc
 obtain ⟨dst,op,type,pos,after,guard⟩:=o
 cases op<;>simp only at hc<;>try (cases hc)
 rename_i bop t x y yt
 cases bop<;>simp only [Zt,reduceCtorEq,if_false,if_true] at hc<;>try (cases hc)
 split at hc
 ·rename_i z yk h1 h2
  cases hc
  intro n' w G ac hF hh
  have v1:=hF.ev x
  have v2:=hF.ev y
  rw [h1] at v1
  rw [h2] at v2
  have v1:=v1.val_inv
  have v2:=v2.val_inv
  refine ⟨_,.val,fun w' _ _=>?_⟩
  simp only [execOp,v1,v2]
  refine V1 ?_
  have e1:a.tmod b=a % b:=Int.tmod_eq_emod_of_nonneg ha
  have e3:b≠0:=by omega
  simp [eqGuard,binOp,Op.intDiv,e1,e3]
 ·cases hc
theorem Bo (a b:Nat) (hb:0<b) (ha:a<=9223372036854775807) (hc:Ai ops F k .quo=some ((a:Int),(b:Int)):=by kernel_rfl):Xr P (Zz ops k) F h [] (.i (a / b:Nat)):=by
 rw [Int.natCast_ediv];exact HA a b om om hc
theorem EX (a b:Nat) (hb:0<b) (_ha:a<=9223372036854775807) (hc:Ai ops F k .rem=some ((a:Int),(b:Int)):=by kernel_rfl):Xr P (Zz ops k) F h [] (.i (a % b:Nat)):=by
 rw [Int.natCast_emod];exact Df a b om om hc
def A1 (a b:Int):Int:=IntKind.i64.wrap ((BitVec.ofInt 64 a ^^^ BitVec.ofInt 64 b).toNat:Int)
theorem FZ {a b:Int} (ha:0<=a/\a<4611686018427387904) (hb:0<=b/\b<4611686018427387904):0<=A1 a b/\A1 a b<4611686018427387904:=by
 obtain ⟨x,rfl⟩:=Int.eq_ofNat_of_zero_le ha.1
 obtain ⟨y,rfl⟩:=Int.eq_ofNat_of_zero_le hb.1
 have h1:(BitVec.ofInt 64 (x:Int) ^^^ BitVec.ofInt 64 (y:Int)).toNat=x ^^^ y:=by
  rw [BitVec.toNat_xor,BitVec.toNat_ofInt,BitVec.toNat_ofInt]
  have e1:((x:Int) % ((2 ^ 64:Nat):Int)).toNat=x:=by omega
  have e2:((y:Int) % ((2 ^ 64:Nat):Int)).toNat=y:=by omega
  rw [e1,e2]
 have h2:x ^^^ y<2 ^ 62:=Nat.xor_lt_two_pow om om
 rw [A1,h1,IH om]
 omega
theorem N3 (a b:Int) (hc:Ai ops F k .xor=some (a,b):=by kernel_rfl):Xr P (Zz ops k) F h [] (.i (A1 a b)):=by
 unfold Ai at hc
 generalize hoo:Zz ops k=o at hc
 obtain ⟨dst,op,type,pos,after,guard⟩:=o
 cases op<;>simp only at hc<;>try (cases hc)
 rename_i bop t x y yt
 cases bop<;>simp only [Zt,reduceCtorEq,if_false,if_true] at hc<;>try (cases hc)
 split at hc
 ·rename_i z yk h1 h2
  cases hc
  intro n' w G ac hF hh
  have v1:=hF.ev x
  have v2:=hF.ev y
  rw [h1] at v1
  rw [h2] at v2
  have v1:=v1.val_inv
  have v2:=v2.val_inv
  refine ⟨_,.val,fun w' _ _=>?_⟩
  simp only [execOp,v1,v2]
  refine V1 ?_
  simp [eqGuard,binOp,Op.intBits,IntKind.bits]
  exact Yc (fun z:Nat=>IntKind.i64.wrap (z:Int)) (by rw [BitVec.toNat_xor,BitVec.toNat_ofInt,BitVec.toNat_ofInt];rfl)
 ·cases hc
end
end Go.Abs
section
namespace Go.Abs
inductive Z1 where
 | mk (op num:Int) (kids:List Z1)
namespace Z1
def op:Z1->Int|.mk a _ _=>a
def num:Z1->Int|.mk _ a _=>a
def kids:Z1->List Z1|.mk _ _ a=>a
end Z1
structure Func where
 params:LI
 result:Int
 body:Z1
structure XM where
 decls:List Zd
 funcs:List Func
instance:Inhabited Z1:=⟨.mk 0 0 []⟩
mutual
def GS:Z1->AV
 | .mk op num kids=>.agg [.i op,.i num,.sl (Yj kids) none]
def Yj:List Z1->List AV
 | []=>[]
 | e::r=>GS e::Yj r
end
abbrev ZW (e:Z1):AV:=.agg [.i e.op,.i e.num,.sl (Yj e.kids) none]
abbrev YL (e:Z1):List AV:=[.i e.op,.i e.num,.sl (Yj e.kids) none]
abbrev Xi (xs:List Z1):AV:=.sl (Yj xs) none
abbrev TU (xs:List Z1) (v:Value):AV:=.sl (Yj xs) (some v)
abbrev Cz (f:Func):AV:=.agg [Z6 f.params,.i f.result,.i f.body.op,.i f.body.num,Xi f.body.kids]
abbrev F4 (f:Func):List AV:=[Z6 f.params,.i f.result,.i f.body.op,.i f.body.num,Xi f.body.kids]
def X6 (xs:List Func):List AV:=xs.map Cz
abbrev Fd (xs:List Func):AV:=.sl (X6 xs) none
abbrev Jt (p:XM):AV:=.agg [Ya p.decls,Fd p.funcs]
abbrev HF (p:XM):List AV:=[Ya p.decls,Fd p.funcs]
abbrev Gd (z:Int):AV:=.val (.int .u8 z)
def Tf (xs:LI):List AV:=xs.map Gd
abbrev VK (xs:LI):AV:=.sl (Tf xs) none
theorem Z0w (e:Z1):GS e=ZW e:=by cases e;rw [GS];rfl
theorem Xu:∀xs:List Z1,Yj xs=xs.map ZW
 | []=>by rw [Yj];rfl
 | s::ss=>by rw [Yj,Xu ss,Z0w];rfl
theorem BQ {xs:List Z1} {j:Nat} {x:Z1} (h:xs[j]? = some x):(Yj xs)[j]? = some (ZW x):=by simp [Xu,h]
theorem Ek {xs:List Func} {j:Nat} {x:Func} (h:xs[j]? = some x):(X6 xs)[j]? = some (Cz x):=by simp [X6,h]
theorem BN {xs:LI} {j:Nat} {x:Int} (h:xs[j]? = some x):(Tf xs)[j]? = some (Gd x):=by simp [Tf,h]
@[simp] theorem GT (xs:List Z1):(Yj xs).length=xs.length:=by simp [Xu]
@[simp] theorem BR (xs:List Func):(X6 xs).length=xs.length:=by simp [X6]
@[simp] theorem QX (xs:LI):(Tf xs).length=xs.length:=by simp [Tf]
theorem KY (xs ys:List Z1):Yj (xs++ys)=Yj xs++Yj ys:=by simp [Xu]
theorem Z0x (xs ys:List Func):X6 (xs++ys)=X6 xs++X6 ys:=by simp [X6]
theorem GO (xs:LI) (n:Nat):(Tf xs).take n=Tf (xs.take n):=by simp [Tf]
theorem GN (xs:LI) (n:Nat):(Tf xs).drop n=Tf (xs.drop n):=by simp [Tf]
theorem Uz (xs:List Z1):∀y∈Yj xs,y.leaves.length=3:=by intro y hy;simp only [Xu,Xy] at hy;obtain ⟨x,_,rfl⟩:=hy;rfl
theorem El (xs:List Func):∀y∈X6 xs,y.leaves.length=5:=by intro y hy;simp only [X6,Xy] at hy;obtain ⟨x,_,rfl⟩:=hy;rfl
theorem Z0q (xs:LI):∀y∈Tf xs,y.leaves.length=1:=by intro y hy;simp only [Tf,Xy] at hy;obtain ⟨x,_,rfl⟩:=hy;rfl
theorem KZ (xs:List Z1):(Ze (Yj xs)).all AV.one=true:=J4 fun y hy=>by simp only [Xu,Xy] at hy;obtain ⟨x,_,rfl⟩:=hy;rfl
end Go.Abs
end
section
namespace Go.Abs
open Go.Proofs Go.Proofs.YthllacimcjakdaaGreat
section
variable {H:Type} {enc:TypeId × Value->H} {w:World}
def GA (w:World):Y6:=fun b _=>b<w.heap.size
abbrev Tr (enc:TypeId × Value->H) (w:World) (n:Nat) (t:TypeId) (cs:List Value) (x:DataW H × List MemPlace):Prop:=DataW.trod enc Tryz.prog w 0 (fun _=>true) true n t cs=some x
theorem NA {w:World} {a:Addr} {v:Value} (h:w.cell? a=some v):a.block<w.heap.size/\a.spot=none:=by
 unfold World.cell? at h
 split at h
 ·rename_i c e fr hb
  split at h
  ·cases h
  ·rename_i hs
   exact ⟨(Uh.1 hb).1,by simpa using hs⟩
 ·cases h
theorem Lk {α:Type} {c:α->Nat}:∀{xs:List α} {ds:List (DataW H)},xs.length=ds.length->(∀(i:Nat) a d,xs[i]? = some a->ds[i]? = some d->c a+1<=Rows.uptoBulk d)->(xs.map fun a=>c a+1).sum<=Rows.uptoBulkAll ds
 | [],[],_,_=>YR _
 | a::r,d::ds,hl,h=>by
  have h0:=h 0 a d rfl rfl
  have h1:=Lk (c:=c) (xs:=r) (ds:=ds) (by simpa using hl) fun i a d ha hd=>h (i+1) a d (by simpa using ha) (by simpa using hd)
  rw [VX,List.sum_cons,Rows.uptoBulkAll]
  omega
theorem OE {α:Type} {f:α->AV} {G:Y6} {k b:Nat} (hf:∀x,(f x).leaves.length=k):∀{xs:List α} {o:Nat},(∀(i:Nat) a,xs[i]? = some a->W9 w G b (o+i*k) (f a).leaves)->WF w G k b o (xs.map f)
 | [],_,_=>.nil
 | x::r,o,h=>by
  refine .cons (hf x) (by have:=h 0 x rfl;simpa using this) (OE hf fun i a ha=>?_)
  have:=h (i+1) a (by simpa using ha)
  rw [show o+(i+1)*k=o+k+i*k by rw [TL];omega] at this
  exact this
theorem Z8m {α:Type} [Inhabited α] {t e k:Nat} (ht:Tryz.prog.underlying t=some (.slice e)) (hk:Tryz.prog.cellsOf e=k) (h0:0<k) (f:α->AV) (hf:∀x,(f x).leaves.length=k) (c:α->Nat) (Q:α->Prop) {n:Nat} {cs:List Value} {x:DataW H × List MemPlace}
  (h:Tr enc w n t cs x) (el:∀m cs y,m<n->Tr enc w m e cs y->∃a:α,YI w (GA w) (f a).leaves cs/\c a+1<=Rows.uptoBulk y.1/\Q a) :
  ∃(v:Value) (xs:List α),cs=[v]/\RV w (GA w) (.sl (xs.map f) none) v/\(xs.map fun a=>c a+1).sum+1<=Rows.uptoBulk x.1/\∀a∈xs,Q a:=by
 rcases DataW.trod_slice ht h with ⟨rfl,rfl⟩|⟨a,len,cap,elems,rest,m,rfl,rfl,rfl,_,hlc,_,hlen,hel,_,_⟩
 ·exact ⟨_,[],rfl,.nil (by simp),by simp [Rows.uptoBulk],by simp⟩
 ·rw [hk] at hel
  have hone:∀i,i<len->∃z:α,∃cs' y,w.cells? 0 (a.add (i*k)) k=some cs'/\elems[i]? = some y/\YI w (GA w) (f z).leaves cs'/\c z+1<=Rows.uptoBulk y.1/\Q z:=by
   intro i hi
   have h1:=hel i hi
   rw [A5 om] at h1
   obtain ⟨cs',h2,h3⟩:=Option.bind_eq_some_iff.1 h1
   obtain ⟨z,hz1,hz2,hz3⟩:=el m cs' _ om h3
   exact ⟨z,cs',_,h2,A5 om,hz1,hz2,hz3⟩
  obtain ⟨V,hV⟩:=Go.Deep.choose_lt hone
  refine ⟨_,(List.range len).map V,rfl,?_,?_,?_⟩
  ·cases hl0:len with
   | zero=>exact .nil (by simp)
   | succ q=>
    have hsp:a.spot=none:=by
     obtain ⟨cs',y,g1,_⟩:=hV 0 om
     obtain ⟨_,g2,g3⟩:=World.cells?_some g1
     have g4:=g3 0 h0
     rw [A5 om] at g4
     have g5:=(NA g4).2
     simpa [Addr.add] using g5
    obtain ⟨b,o,sp⟩:=a
    simp only at hsp
    subst hsp
    rw [<-hl0]
    have hll:(((List.range len).map V).map f).length=len:=by simp
    have:=RV.sl (w:=w) (G:=GA w) (es:=((List.range len).map V).map f) (hv:=none) (b:=b) (o:=o) (k:=k) (cap:=cap) (by simp) (by rw [hll];exact hlc) (OE hf fun i z hz=>by
     have hi:i<len:=by have:=(XA.1 hz).1;simpa using this
     have hz':V i=z:=by simpa [hi] using hz
     obtain ⟨cs',y,g1,_,g2,_⟩:=hV i hi
     rw [hz'] at g2
     obtain ⟨_,g3,g4⟩:=World.cells?_some g1
     refine W9.of_cells g2 fun j u hj=>?_
     have hjl:j<k:=by have:=(XA.1 hj).1;omega
     have g5:=(g4 j hjl).trans hj
     rw [Addr.add_lit,Addr.add_lit] at g5
     exact ⟨g5,(NA g5).1⟩)
    rw [hll] at this
    exact this
  ·have:=Lk (c:=c) (xs:=(List.range len).map V) (ds:=elems.map (·.1)) (by simp [hlen]) fun i z d hz hd=>by
    have hi:i<len:=by have:=(XA.1 hz).1;simpa using this
    have hz':V i=z:=by simpa [hi] using hz
    obtain ⟨cs',y,_,g1,_,g2,_⟩:=hV i hi
    rw [Ki,g1] at hd
    simp only [AX,XY] at hd
    rw [<-hd,<-hz']
    exact g2
   simp only [Rows.uptoBulk]
   omega
  ·intro z hz
   obtain ⟨i,hi,rfl⟩:=Xy.1 hz
   obtain ⟨_,_,_,_,_,_,g⟩:=hV i (List.mem_range.1 hi)
   exact g
theorem Z8k {n:Nat} {cs:List Value} {x:DataW H × List MemPlace} (h:Tr enc w n 5 cs x):∃z:Int,cs=[.int .u8 z]/\Rows.uptoBulk x.1=1/\0<=z/\z<=255:=by
 obtain ⟨z,rfl,rfl,hw⟩:=DataW.trod_int Tryz.underlying5 h
 refine ⟨z,rfl,rfl,?_⟩
 simpa [Lit.wf,IntKind.min,IntKind.max,IntKind.signed,IntKind.bits] using hw
theorem Z8l {n:Nat} {cs:List Value} {x:DataW H × List MemPlace} (h:Tr enc w n 22 cs x):∃(v:Value) (xs:LI),cs=[v]/\RV w (GA w) (VK xs) v/\∀z∈xs,0<=z/\z<=255:=by
 obtain ⟨v,xs,h1,h2,h3,h4⟩:=Z8m Tryz.underlying22 (k:=1) kr om (fun z:Int=>Gd z) (fun _=>rfl) (fun _=>0) (fun z=>0<=z/\z<=255) h fun m cs y _ hy=>by
  obtain ⟨z,rfl,hb,hz⟩:=Z8k hy
  exact ⟨z,.cons .val .nil,Nat.le_of_eq hb.symm,hz⟩
 exact ⟨v,xs,h1,h2,h4⟩
end
end Go.Abs
end
namespace Go.Abs
structure Sg where
 params:LI
 result:Int
abbrev IR (f:Sg):AV:=.agg [.sl (Z7 f.params) none,.i f.result,.i 0,.i 0,.sl [] none]
def VS (fs:List Sg):List AV:=fs.map IR
theorem GV {xs:List Sg} {j:Nat} {x:Sg} (h:xs[j]? = some x):(VS xs)[j]? = some (IR x):=by simp [VS,h]
@[simp] theorem LR (xs:List Sg):(VS xs).length=xs.length:=by simp [VS]
theorem LQ (xs:List Sg):∀y∈VS xs,y.leaves.length=5:=by intro y hy;simp only [VS,Xy] at hy;obtain ⟨x,_,rfl⟩:=hy;rfl
theorem Z15 (xs:List Sg):(Ze (VS xs)).all AV.one=true:=J4 fun y hy=>by simp only [VS,Xy] at hy;obtain ⟨x,_,rfl⟩:=hy;rfl
mutual
def Z3.sz:Z3->Nat
 | .mk _ _ _ args kids=>1+args.length+YG kids
def Z5.sz:Z5->Nat
 | .mk steps _=>1+Yd steps
def Yd:List Z3->Nat
 | []=>0
 | s::r=>s.sz+Yd r
def YG:List Z5->Nat
 | []=>0
 | b::r=>b.sz+YG r
end
theorem Z3.sz_pos (s:Z3):1<=s.sz:=by cases s;rw [Z3.sz];omega
theorem Z5.sz_pos (b:Z5):1<=b.sz:=by cases b;rw [Z5.sz];omega
theorem KC (l:List Z3):l.length<=Yd l:=by
 induction l with
 | nil=>simp
 | cons s r ih=>have:=s.sz_pos;simp only [YH,Yd];omega
theorem Lh (l:List Z5):l.length<=YG l:=by
 induction l with
 | nil=>simp
 | cons s r ih=>have:=s.sz_pos;simp only [YH,YG];omega
theorem Zbk {l:List Z3} {k:Nat} {s:Z3} (h:l[k]? = some s):s.sz<=Yd l:=by
 induction l generalizing k with
 | nil=>simp at h
 | cons t r ih=>
  cases k with
  | zero=>simp at h;subst h;simp only [Yd];omega
  | succ k=>have:=ih (k:=k) (by simpa using h);simp only [Yd];omega
theorem Lg {l:List Z5} {k:Nat} {s:Z5} (h:l[k]? = some s):s.sz<=YG l:=by
 induction l generalizing k with
 | nil=>simp at h
 | cons t r ih=>
  cases k with
  | zero=>simp at h;subst h;simp only [YG];omega
  | succ k=>have:=ih (k:=k) (by simpa using h);simp only [YG];omega
theorem Z3.sz_eq (s:Z3):s.sz=1+s.args.length+YG s.kids:=by cases s;rw [Z3.sz];rfl
theorem Z5.sz_eq (b:Z5):b.sz=1+Yd b.steps:=by cases b;rw [Z5.sz];rfl
theorem Qq {b:Z5} {k:Nat} {s:Z3} (h:b.steps[k]? = some s):s.sz<b.sz:=by have:=Zbk h;have:=b.sz_eq;omega
theorem Uc {s:Z3} {k:Nat} {b:Z5} (h:s.kids[k]? = some b):b.sz<s.sz:=by have:=Lg h;have:=s.sz_eq;omega
theorem Te (s:Z3):s.args.length<s.sz:=by have:=s.sz_eq;omega
theorem Ud (s:Z3):s.kids.length<s.sz:=by have:=s.sz_eq;have:=Lh s.kids;omega
theorem V3 (b:Z5):b.steps.length<b.sz:=by have:=b.sz_eq;have:=KC b.steps;omega
structure Qv (ds:List Zd):Prop where
 len:ds.length<=4194304
 cons:∀d∈ds,d.cons.length<=4194304
 fields:∀d∈ds,∀c∈d.cons,c.fields.length<=4194304
theorem Qv.cons_at {ds:List Zd} (h:Qv ds) {k:Nat} {d:Zd} (hd:ds[k]? = some d):d.cons.length<=4194304:=h.cons d (Y0 hd)
theorem Qv.fields_at {ds:List Zd} (h:Qv ds) {k j:Nat} {d:Zd} {c:Y1} (hd:ds[k]? = some d) (hc:d.cons[j]? = some c):c.fields.length<=4194304:=
 h.fields d (Y0 hd) c (Y0 hc)
def Kl (m:Nat) (c:Y1):Bool:=decide (c.fields.length<=3)&&XU m c.fields
def Q7 (d:Zd):List Zd->Bool
 | []=>false
 | e::r=>if e.cons.length=0/\e.frm=d.frm/\e.to_=d.to_ then true else Q7 d r
def T6 (m:Nat):List Y1->Bool
 | []=>true
 | c::r=>if Kl m c=true then T6 m r else false
def U6 (ds:List Zd) (d:Zd) (i:Nat):Bool:=
 if 0<d.cons.length then (if d.cons.length<=3/\d.frm=0/\d.to_=0 then T6 ds.length d.cons else false)
 else if Q7 d (ds.take i)=true then false else decide (0<=d.frm/\d.frm<=ds.length)&&decide (0<=d.to_/\d.to_<=ds.length)
def Ba (ds:List Zd) (i:Nat):Bool:=(ds[i]?.map fun d=>U6 ds d i).getD false
theorem CI {ds:List Zd} {i:Nat} {d:Zd} (h:ds[i]? = some d):Ba ds i=U6 ds d i:=by rw [Ba,h];rfl
def Uy (ds:List Zd):List Zd->Nat->Bool
 | [],_=>true
 | _::r,i=>if Ba ds i=true then Uy ds r (i+1) else false
def Wu (ds:List Zd):Bool:=decide (ds.length<=4)&&Uy ds ds 0
theorem LD {m:Nat} {cs:List Y1}:T6 m cs=true↔∀c∈cs,Kl m c=true:=by
 induction cs with
 | nil=>simp [T6]
 | cons c r ih=>
  rw [T6]
  split
  ·rename_i h;simp [ih,h]
  ·rename_i h;simp [h]
theorem GH {ds:List Zd}:∀{l:List Zd} {i:Nat},Uy ds l i=true↔∀j<l.length,Ba ds (i+j)=true
 | [],i=>by simp [Uy]
 | d::r,i=>by
  rw [Uy]
  split
  ·rename_i h
   rw [GH (l:=r)]
   constructor
   ·intro hq j hj
    cases j with
    | zero=>exact h
    | succ j=>have:=hq j (by simpa using hj);rwa [show i+(j+1)=i+1+j by omega]
   ·intro hq j hj
    have:=hq (j+1) (by simpa using hj)
    rwa [show i+(j+1)=i+1+j by omega] at this
  ·rename_i h
   simp only [Bool.false_eq_true,false_iff]
   intro hq
   exact h (hq 0 (by simp))
theorem Zcw {ds:List Zd} (h:Wu ds=true):XZ ds:=by
 simp only [Wu,XI,decide_eq_true_eq] at h
 obtain ⟨h1,h2⟩:=h
 rw [GH] at h2
 have key:∀d∈ds,∃i,U6 ds d i=true:=fun d hd=>by
  obtain ⟨i,hi⟩:=List.mem_iff_getElem?.1 hd
  have:=h2 i (XA.1 hi).1
  rw [WS,CI hi] at this
  exact ⟨i,this⟩
 have hc:∀d∈ds,0<d.cons.length->d.cons.length<=3/\T6 ds.length d.cons=true:=fun d hd hp=>by
  obtain ⟨i,hi⟩:=key d hd
  rw [U6,Zk hp] at hi
  split at hi
  ·rename_i h;exact ⟨h.1,hi⟩
  ·cases hi
 refine ⟨h1,fun d hd=>?_,fun d hd c hc'=>?_⟩
 ·by_cases hp:0<d.cons.length
  ·exact (hc d hd hp).1
  ·omega
 ·have:=LD.1 (hc d hd (List.length_pos_of_mem hc')).2 c hc'
  simp only [Kl,XI,decide_eq_true_eq] at this
  exact this.1
def QH (m:Nat) (f:Sg):Bool:=decide (f.params.length<=3)&&(XU m f.params&&decide (0<=f.result/\f.result<=m))
def Kb (m:Nat):List Sg->Bool
 | []=>true
 | f::r=>if QH m f=true then Kb m r else false
def Eu:List Sg->Bool
 | []=>false
 | f::_=>decide (f.params.length=0)&&decide (f.result=0)
theorem Z1l {fs:List Sg} {x:Sg} (h:fs[0]? = some x):Eu fs=(decide (x.params.length=0)&&decide (x.result=0)):=by
 cases fs with
 | nil=>simp at h
 | cons f r=>simp at h;subst h;rfl
def Qr (ds:List Zd) (fs:List Sg):Bool:=
 Wu ds&&(decide (1<=fs.length/\fs.length<=4)&&(Kb ds.length fs&&Eu fs))
def QF (ps:LI):LI->Option Int->Bool
 | [],_=>true
 | v::r,prev=>if (0<=v/\v<=(ps.length:Int)-1)/\ps[v.toNat]?≠some 0/\(∀p,prev=some p->p<v) then QF ps r (some v) else false
theorem HK {ps r:LI} {v:Int} {prev:Option Int} (h:(0<=v/\v<=(ps.length:Int)-1)/\ps[v.toNat]?≠some 0/\(∀p,prev=some p->p<v)):QF ps (v::r) prev=QF ps r (some v):=by
 rw [QF,Zk h]
theorem F9 {ps r:LI} {v:Int} {prev:Option Int} (h:¬((0<=v/\v<=(ps.length:Int)-1)/\ps[v.toNat]?≠some 0/\(∀p,prev=some p->p<v))):QF ps (v::r) prev=false:=by
 rw [QF,Z9 h]
def KH (ps ls:LI):Bool:=QF ps ls none
def Qg:List ZX->Bool
 | []=>true
 | r::rs=>if KH r.params r.lent=true then Qg rs else false
def Vq (r:ZX):Sg:=⟨r.params,r.result⟩
def VT (n:Zq):Bool:=decide (n.routines.length<=4)&&(Qr n.decls (n.routines.map Vq)&&Qg n.routines)
end Go.Abs
section
namespace Go.Abs
def Xc {α:Type} (xs:List α) (i:Int):Option α:=if 0<=i/\i<=(xs.length:Int)-1 then xs[i.toNat]? else none
theorem TO {α:Type} {xs:List α} {i:Int} {x:α} (h:0<=i/\i<=(xs.length:Int)-1) (hx:xs[i.toNat]? = some x):Xc xs i=some x:=by rw [Xc,Zk h,hx]
theorem Qy {α:Type} {xs:List α} {i:Int} (h:¬(0<=i/\i<=(xs.length:Int)-1)):Xc xs i=none:=by rw [Xc,Z9 h]
theorem Ah {α:Type} {xs:List α} {i:Int} {x:α} (h:Xc xs i=some x):(0<=i/\i<=(xs.length:Int)-1)/\xs[i.toNat]? = some x:=by
 rw [Xc] at h
 split at h
 ·rename_i h1;exact ⟨h1,h⟩
 ·cases h
def T2 (vars:LI):LI->LI->Bool
 | [],[]=>true
 | a::as1,t::ts=>if Xc vars a=some t then T2 vars as1 ts else false
 | _,_=>false
def XL (vars args types:LI):Bool:=T2 vars args types
theorem PZ {vars:LI}:∀{args types:LI},args.length≠types.length->T2 vars args types=false
 | [],[],h=>absurd rfl h
 | [],_::_,_=>rfl
 | _::_,[],_=>rfl
 | a::as1,t::ts,h=>by
  rw [T2]
  split
  ·exact PZ (by simpa using h)
  ·rfl
theorem Zco {vars args types:LI} {k:Nat} {a t:Int} (ha:args[k]? = some a) (ht:types[k]? = some t) (h:Xc vars a=some t) :
  T2 vars (args.drop k) (types.drop k)=T2 vars (args.drop (k+1)) (types.drop (k+1)):=by
 rw [Y3 ha,Y3 ht,T2,Zk h]
theorem PY {vars args types:LI} {k:Nat} {a t:Int} (ha:args[k]? = some a) (ht:types[k]? = some t) (h:Xc vars a≠some t) :
  T2 vars (args.drop k) (types.drop k)=false:=by
 rw [Y3 ha,Y3 ht,T2,Z9 h]
theorem Zcn {vars args types:LI} {k:Nat} (ha:args.length<=k) (ht:types.length<=k):T2 vars (args.drop k) (types.drop k)=true:=by
 rw [X5 ha,X5 ht];rfl
def V5 (op:Int):Bool:=op==0||(op==6||(op==8||(op==9||op==10)))
def Xt (op:Int):Bool:=decide (0<=op/\op<=11)
def Y8 (op:Int):Bool:=decide (14<=op/\op<=17)
def VM (vars:LI) (op into:Int):Bool:=
 if into=0 then true else if op=6 then ((Xc vars (into-1)).map fun t=>decide (0<t)).getD false else false
def QV (ds:List Zd) (ps:LI) (res:Int):Int:=VO ds (ps.getLast?.getD 0) res
def K9 (ds:List Zd) (vars:LI) (op:Int) (args:LI) (r:ZX):Int:=
 if op=9 then (if XL vars args r.params=true then r.result else -1)
 else if r.params.length=0∨0<r.lent.length∨¬XL vars args (r.params.take (r.params.length-1))=true then -1
 else QV ds r.params r.result
def T0 (n:Zq) (vars:LI) (op num:Int) (args:LI):Int:=
 match Xc n.routines num with
 | none=>-1
 | some r=>K9 n.decls vars op args r
def TP (ds:List Zd) (vars:LI) (op:Int) (args:LI):Int:=
 match args with
 | [a]=>match Xc vars a with
  | some t=>if t=0 then -1 else if (op≠14/\op≠15)/\XE ds t=true then -1 else 0
  | none=>-1
 | _=>-1
def Q5 (ds:List Zd) (vars:LI) (args:LI):Int:=
 match args with
 | [a,b]=>match Xc vars a with
  | some t=>if XE ds t=true then
    (match ds[(t-1).toNat]? with
     | some d=>if XL vars [b] [d.frm]=true then d.to_ else -1
     | none=>-1) else -1
  | none=>-1
 | _=>-1
def X7 (ds:List Zd) (op num:Int):List LI:=if op=7 then [[],[]] else (ZQ ds num).map (ZP ds)
mutual
def Y5 (n:Zq) (vars:LI):Z3->Int
 | .mk op num into args kids=>
  if (num≠0/\¬V5 op=true)∨¬VM vars op into=true∨(0<kids.length/\op≠7/\op≠8) then -1
  else if op=0 then (if args.length=0/\(-999<=num/\num<=999) then 0 else -1)
  else if op=1∨op=2∨op=3∨op=4 then (if XL vars args [0,0]=true then 0 else -1)
  else if op=5 then (if XL vars args [0]=true then 0 else -1)
  else if op=6 then (if 0<XP n.decls num/\XL vars args (ZP n.decls num)=true then XP n.decls num else -1)
  else if op=7 then (if XL vars args [0]=true then (if (X7 n.decls op num).length=0∨kids.length≠(X7 n.decls op num).length then -1 else XS n vars kids (X7 n.decls op num) true 0) else -1)
  else if op=8 then (if XL vars args [num]=true then (if (X7 n.decls op num).length=0∨kids.length≠(X7 n.decls op num).length then -1 else XS n vars kids (X7 n.decls op num) true 0) else -1)
  else if op=9∨op=10 then T0 n vars op num args
  else if op=11 then Q5 n.decls vars args
  else if op=14∨op=15∨op=16∨op=17 then TP n.decls vars op args
  else -1
def XS (n:Zq) (vars:LI):List Z5->List LI->Bool->Int->Int
 | [],_,_,t=>t
 | b::bs,more,first,t=>
  match more with
  | []=>-1
  | m::ms=>if YT n (vars++m) b<0∨(first=false/\YT n (vars++m) b≠t) then -1 else XS n vars bs ms false (YT n (vars++m) b)
def Wk (n:Zq):List Z3->LI->Option LI
 | [],vars=>some vars
 | s::r,vars=>if Y5 n vars s<0 then none else Wk n r (if Xt s.op=true then vars++[Y5 n vars s] else vars)
def YT (n:Zq) (vars:LI):Z5->Int
 | .mk steps result=>match Wk n steps vars with
  | none=>-1
  | some vs=>(Xc vs result).getD (-1)
end
def UV (n:Zq) (vars:LI) (op num:Int) (kids:List Z5):Int:=
 if (X7 n.decls op num).length=0∨kids.length≠(X7 n.decls op num).length then -1 else XS n vars kids (X7 n.decls op num) true 0
mutual
def Um:Z3->Int->Int
 | .mk _ _ _ _ kids,left=>WZ kids left
def XF:Z5->Int->Int
 | .mk steps _,left=>WO steps left
def WO:List Z3->Int->Int
 | [],left=>left
 | s::r,left=>if left<1 then -1 else if Um s (left-1)<0 then -1 else WO r (Um s (left-1))
def WZ:List Z5->Int->Int
 | [],left=>left
 | b::r,left=>if XF b left<0 then -1 else WZ r (XF b left)
end
def Wr (b:Z5):Int:=if XF b 600<0 then -1 else 600-XF b 600
def Tn (n:Zq):List ZX->Bool
 | []=>true
 | r::rs=>if ¬Wr r.body<0/\YT n r.params r.body=r.result then Tn n rs else false
def YW (n:Zq):Bool:=VT n&&Tn n n.routines
theorem Ca:(∀(s:Z3) (l:Int),0<=l->Um s l<=l)/\(∀(b:Z5) (l:Int),0<=l->XF b l<=l):=by
 have key:∀m:Nat,(∀s:Z3,s.sz<=m->∀l:Int,0<=l->Um s l<=l)/\(∀b:Z5,b.sz<=m->∀l:Int,0<=l->XF b l<=l):=by
  intro m
  induction m with
  | zero=>exact ⟨fun s h=>by have:=s.sz_pos;omega,fun s h=>by have:=s.sz_pos;omega⟩
  | succ m ih=>
   refine ⟨fun s hs l hl=>?_,fun b hb l hl=>?_⟩
   ·cases s with
    | mk op num into args kids=>
     rw [Um]
     have hk:YG kids<=m:=by rw [Z3.sz] at hs;omega
     clear hs
     induction kids generalizing l with
     | nil=>rw [WZ];exact Int.le_refl _
     | cons b r ihr=>
      rw [YG] at hk
      have:=ih.2 b om l hl
      rw [WZ]
      split
      ·omega
      ·have:=ihr (XF b l) om om;omega
   ·cases b with
    | mk steps res=>
     rw [XF]
     have hk:Yd steps<=m:=by rw [Z5.sz] at hb;omega
     clear hb
     induction steps generalizing l with
     | nil=>rw [WO];exact Int.le_refl _
     | cons s r ihr=>
      rw [Yd] at hk
      rw [WO]
      split
      ·omega
      ·have:=ih.1 s om (l-1) om
       split
       ·omega
       ·have:=ihr (Um s (l-1)) om om;omega
 exact ⟨fun s l hl=>(key s.sz).1 s (YR _) l hl,fun b l hl=>(key b.sz).2 b (YR _) l hl⟩
end Go.Abs
namespace Go.Abs
theorem Zbl {l:List Z3} {k:Nat} {s:Z3} (h:l[k]? = some s):k+s.sz<=Yd l:=by
 induction l generalizing k with
 | nil=>simp at h
 | cons t r ih=>
  cases k with
  | zero=>simp at h;subst h;simp only [Yd];omega
  | succ k=>have:=ih (k:=k) (by simpa using h);have:=t.sz_pos;simp only [Yd];omega
theorem AQ {b:Z5} {k:Nat} {s:Z3} (h:b.steps[k]? = some s):k+s.sz<b.sz:=by have:=Zbl h;have:=b.sz_eq;omega
structure X2 (n:Zq):Prop where
 decls:XZ n.decls
 len:n.routines.length<=4
 params:∀r∈n.routines,r.params.length<=3
 lent:∀r∈n.routines,r.lent.length<=4194304
theorem X2.params_at {n:Zq} (h:X2 n) {k:Nat} {r:ZX} (hr:n.routines[k]? = some r):r.params.length<=3:=h.params r (Y0 hr)
theorem X2.lent_at {n:Zq} (h:X2 n) {k:Nat} {r:ZX} (hr:n.routines[k]? = some r):r.lent.length<=4194304:=h.lent r (Y0 hr)
theorem RW {ds:List Zd} {num:Int} {k:Nat} {x:Int} (h:(ZQ ds num)[k]? = some x):(X7 ds 8 num)[k]? = some (ZP ds x):=by
 rw [X7,Z9 om,Ki,h];rfl
end Go.Abs
namespace Go.Abs
theorem HR {ds:List Zd} (hd:XZ ds) (t:Int):(ZQ ds t).length<=3:=by
 rw [ZQ]
 split
 ·rename_i h
  obtain ⟨d,hd1⟩:=J7 (xs:=ds) (j:=(t-1).toNat) om
  rw [hd1,Z7i]
  exact hd.cons_at hd1
 ·simp
theorem VP {ds:List Zd} (hd:XZ ds) (c:Int):(ZP ds c).length<=3:=by
 by_cases h:XP ds c<1
 ·rw [(Ed h).1];simp
 ·obtain ⟨k,d,x,h1,_,h3,_,h5⟩:=Gx h
  rw [h5];exact hd.fields_at h1 h3
theorem Gn {ds:List Zd} (hd:XZ ds) {op num:Int} {k:Nat} {m:LI} (h:(X7 ds op num)[k]? = some m):m.length<=3:=by
 have hm:=Y0 h
 rw [X7] at hm
 split at hm
 ·simp at hm;subst hm;simp
 ·obtain ⟨c,_,rfl⟩:=Xy.1 hm;exact VP hd c
theorem QU {α:Type} {xs:List α} {x:α} (h:xs.length=1) (hx:xs[0]? = some x):xs=[x]:=by
 cases xs with
 | nil=>simp at h
 | cons a r=>
  cases r with
  | nil=>simp at hx;rw [hx]
  | cons b r=>simp at h
theorem BK {ds:List Zd} {us args:LI} {op:Int} (h:args.length≠1):TP ds us op args=-1:=by
 cases args with
 | nil=>rfl
 | cons a r=>
  cases r with
  | nil=>simp at h
  | cons b r=>rfl
theorem BL {ds:List Zd} {us args:LI} {op a:Int} (h:args=[a]) (hi:¬(0<=a/\a<=(us.length:Int)-1)):TP ds us op args=-1:=by
 subst h;rw [TP];simp only [Qy hi]
theorem BJ {ds:List Zd} {us args:LI} {op a t:Int} (h:args=[a]) (hi:0<=a/\a<=(us.length:Int)-1) (ht:us[a.toNat]? = some t) :
  TP ds us op args=if t=0 then -1 else if (op≠14/\op≠15)/\XE ds t=true then -1 else 0:=by
 subst h;rw [TP];simp only [TO hi ht]
theorem Z8y {n:Zq} {us args:LI} {op num:Int} {r:ZX} (hi:0<=num/\num<=(n.routines.length:Int)-1) (hr:n.routines[num.toNat]? = some r) :
  T0 n us op num args=K9 n.decls us op args r:=by
 rw [T0];simp only [TO hi hr]
theorem Z8z {n:Zq} {us args:LI} {op num:Int} (hi:¬(0<=num/\num<=(n.routines.length:Int)-1)):T0 n us op num args=-1:=by
 rw [T0];simp only [Qy hi]
theorem MF {xs:LI} {x:Int} (h:xs[xs.length-1]? = some x):xs.getLast?.getD 0=x:=by
 rw [List.getLast?_eq_getElem?,h];rfl
theorem Ng {n:Zq} {us:LI} {bs:List Z5} {ms:List LI} {b:Z5} {m:LI} {k:Nat} {t:Int} (hb:bs[k]? = some b) (hm:ms[k]? = some m)
  (h:¬(YT n (us++m) b<0∨(k:Int)>0/\YT n (us++m) b≠t)) :
  XS n us (bs.drop k) (ms.drop k) (decide (k=0)) t=XS n us (bs.drop (k+1)) (ms.drop (k+1)) (decide (k+1=0)) (YT n (us++m) b):=by
 rw [Y3 hb,Y3 hm,XS,Z9]
 ·simp
 ·rintro (q|⟨q1,q2⟩)
  ·exact h (.inl q)
  ·exact h (.inr ⟨by simp at q1;omega,q2⟩)
theorem Nc {n:Zq} {us:LI} {bs:List Z5} {ms:List LI} {b:Z5} {m:LI} {k:Nat} {t:Int} (hb:bs[k]? = some b) (hm:ms[k]? = some m)
  (h:YT n (us++m) b<0∨(k:Int)>0/\YT n (us++m) b≠t) :
  XS n us (bs.drop k) (ms.drop k) (decide (k=0)) t=-1:=by
 rw [Y3 hb,Y3 hm,XS,Zk]
 rcases h with q|⟨q1,q2⟩
 ·exact .inl q
 ·exact .inr ⟨by simp;omega,q2⟩
theorem Nf {n:Zq} {us:LI} {bs:List Z5} {ms:List LI} {k:Nat} {f:Bool} {t:Int} (hb:bs.length<=k):XS n us (bs.drop k) (ms.drop k) f t=t:=by
 rw [X5 hb,XS]
end Go.Abs
end
namespace Go.Abs
theorem JY (n:Zq) (us:LI) (s:Z3):Y5 n us s =
  if (s.num≠0/\¬V5 s.op=true)∨¬VM us s.op s.into=true∨(0<s.kids.length/\s.op≠7/\s.op≠8) then -1
  else if s.op=0 then (if s.args.length=0/\(-999<=s.num/\s.num<=999) then 0 else -1)
  else if s.op=1∨s.op=2∨s.op=3∨s.op=4 then (if XL us s.args [0,0]=true then 0 else -1)
  else if s.op=5 then (if XL us s.args [0]=true then 0 else -1)
  else if s.op=6 then (if 0<XP n.decls s.num/\XL us s.args (ZP n.decls s.num)=true then XP n.decls s.num else -1)
  else if s.op=7 then (if XL us s.args [0]=true then UV n us s.op s.num s.kids else -1)
  else if s.op=8 then (if XL us s.args [s.num]=true then UV n us s.op s.num s.kids else -1)
  else if s.op=9∨s.op=10 then T0 n us s.op s.num s.args
  else if s.op=11 then Q5 n.decls us s.args
  else if s.op=14∨s.op=15∨s.op=16∨s.op=17 then TP n.decls us s.op s.args
  else -1:=by
 cases s with
 | mk op num into args kids=>rw [Y5];rfl
theorem E2 (n:Zq) (us:LI) (b:Z5):YT n us b=match Wk n b.steps us with
  | none=>-1
  | some vs=>(Xc vs b.result).getD (-1):=by
 cases b with
 | mk st r=>rw [YT];rfl
theorem L0 {α:Type} {xs:List α} {x:α} (h:xs.length=2) (hx:xs[0]? = some x):∃y,xs=[x,y]:=by
 match xs,h with
 | [a,b],_=>simp at hx;subst hx;exact ⟨b,rfl⟩
theorem Ui {ds:List Zd} {us args:LI} (h:args.length≠2):Q5 ds us args=-1:=by
 match args,h with
 | [],_=>rfl
 | [_],_=>rfl
 | [_,_],h=>simp at h
 | _::_::_::_,_=>rfl
theorem Uj {ds:List Zd} {us args:LI} {a:Int} (hl:args.length=2) (h:args[0]? = some a) (hi:¬(0<=a/\a<=(us.length:Int)-1)):Q5 ds us args=-1:=by
 obtain ⟨y,rfl⟩:=L0 hl h;rw [Q5];simp only [Qy hi]
theorem U4 {ds:List Zd} {us args:LI} {a t:Int} (hl:args.length=2) (h:args[0]? = some a) (hi:0<=a/\a<=(us.length:Int)-1) (ht:us[a.toNat]? = some t) :
  Q5 ds us args=if XE ds t=true then
    (match ds[(t-1).toNat]? with
     | some d=>if XL us (args.drop 1) [d.frm]=true then d.to_ else -1
     | none=>-1) else -1:=by
 obtain ⟨y,rfl⟩:=L0 hl h;rw [Q5];simp only [TO hi ht];rfl
theorem RO {ds:List Zd} {us args:LI} {a t:Int} {d:Zd} (hl:args.length=2) (h:args[0]? = some a) (hi:0<=a/\a<=(us.length:Int)-1) (ht:us[a.toNat]? = some t)
  (hA:XE ds t=true) (hd:ds[(t-1).toNat]? = some d):Q5 ds us args=if XL us (args.drop 1) [d.frm]=true then d.to_ else -1:=by
 rw [U4 hl h hi ht,Zk hA];simp only [hd]
theorem Hv {ds:List Zd} {t:Int} (h:XE ds t=true):1<=t/\t<=ds.length:=by
 simp only [XE,XI,decide_eq_true_eq] at h;exact h.1
theorem Ns (b:Z5) (l:Int):XF b l=WO b.steps l:=by cases b;rw [XF];rfl
theorem F8 (s:Z3) (l:Int):Um s l=WZ s.kids l:=by cases s;rw [Um];rfl
structure VC (n:Zq):Prop where
 decls:Qv n.decls
 len:n.routines.length<=4194304
 params:∀r∈n.routines,r.params.length<=4194304
 lent:∀r∈n.routines,r.lent.length<=4194304
 body:∀r∈n.routines,r.body.sz<=10000000
theorem FD {m:Nat} {fs:List Sg} (h:Kb m fs=true):∀f∈fs,QH m f=true:=by
 induction fs with
 | nil=>simp
 | cons f r ih=>
  rw [Kb] at h
  split at h
  ·rename_i h1
   intro g hg
   rcases YB.1 hg with rfl|hg
   ·exact h1
   ·exact ih h g hg
  ·cases h
theorem HQ {n:Zq} (hz:VC n) (h:VT n=true):X2 n:=by
 simp only [VT,Qr,XI,decide_eq_true_eq] at h
 obtain ⟨h1,⟨h2,h3,h4,h5⟩,h6⟩:=h
 refine ⟨Zcw h2,h1,fun r hr=>?_,hz.lent⟩
 have:=FD h4 (Vq r) (Xy.2 ⟨r,hr,rfl⟩)
 simp only [QH,XI,decide_eq_true_eq] at this
 exact this.1
def gI (xs:LI) (i:Int):Int:=xs[i.toNat]?.getD 0
theorem UR {xs:LI} {i:Int} {x:Int} (h:xs[i.toNat]? = some x):gI xs i=x:=by rw [gI,h];rfl
structure ZJ where
 vars:LI
 own:LI
 par:LI
 con:LI
 fst:LI
 tok:LI
def ZJ.grow (L:ZJ) (t own par:Int):ZJ:=⟨L.vars++[t],L.own++[own],L.par++[par],L.con++[-1],L.fst++[-1],L.tok++[-1]⟩
def Tu (L:ZJ) (v:Int):Option ZJ:=if gI L.own v<1 then none else some { L with own:=L.own.set v.toNat (gI L.own v-1) }
def Q4 (own par ln:LI):Nat->Int->Bool
 | 0,_=>false
 | k+1,v=>if gI own v<1/\¬v∈ln then (if gI par v<0 then false else Q4 own par ln k (gI par v)) else true
def Uv (L:ZJ) (ln:LI) (v:Int):Bool:=Q4 L.own L.par ln (v.toNat+1) v
def TN:LI->Int->LI->LI
 | own,_,[]=>own
 | own,p,f::r=>TN (if f≠0 then own.set p.toNat (gI own p+1) else own) (p+1) r
def Jc (ds:List Zd) (L:ZJ) (op x:Int):Option ZJ:=
 if gI L.con x<0∨(op=17/\0<=gI L.tok x) then none
 else match Tu L x with
  | none=>none
  | some L1=>some { L1 with
    own:=TN L1.own (gI L.fst x) (ZP ds (gI L.con x))
    tok:=if op=17 then L.tok.set x.toNat (ZP ds (gI L.con x)).length else L.tok }
def KU (op:Int):Bool:=op==6||(op==9||(op==10||op==11))
def Fa (n:Zq) (op num:Int):LI:=if op=9 then ((n.routines[num.toNat]?).map (·.lent)).getD [] else []
def Un (n:Zq) (op num:Int) (i:Nat):Bool:=decide ((i:Int)∈Fa n op num)
def Km (n:Zq) (vars:LI) (op num a:Int) (i:Nat):Bool:=KU op&&(gI vars a != 0&&!Un n op num i)
def QD (n:Zq) (op num:Int):LI->Nat->ZJ->Option ZJ
 | [],_,L=>some L
 | a::r,i,L=>if Km n L.vars op num a i=true then (match Tu L a with
   | none=>none
   | some L1=>QD n op num r (i+1) L1) else QD n op num r (i+1) L
def As (n:Zq) (op num:Int) (ln:LI) (L:ZJ):LI->Nat->Bool
 | [],_=>true
 | a::r,i=>if Un n op num i=true/\¬Uv L ln a=true then false else As n op num ln L r (i+1)
def CY (L:ZJ) (into:Int) (m:Nat):Option ZJ:=
 if 0<into then (if gI L.tok (into-1)≠m then none else some { L with tok:=L.tok.set (into-1).toNat (-1) }) else some L
def Kr (n:Zq) (ln:LI) (L:ZJ) (op num into:Int) (args:LI):Option ZJ:=
 match QD n op num args 0 L with
 | none=>none
 | some L1=>if As n op num ln L1 args 0=true then CY L1 into args.length else none
def AT:LI->LI->Bool
 | o::os,t::ts=>if o≠0∨0<=t then false else AT os ts
 | _,_=>true
def ZJ.take (L:ZJ) (m:Nat):ZJ:=⟨L.vars.take m,L.own.take m,L.par.take m,L.con.take m,L.fst.take m,L.tok.take m⟩
def KW (L:ZJ) (m:Nat):Option ZJ:=if AT (L.own.drop m) (L.tok.drop m)=true then some (L.take m) else none
def Bi (L:ZJ) (par:Int):LI->ZJ
 | []=>L
 | t::r=>Bi (L.grow t 0 par) par r
def B6 (ds:List Zd) (L:ZJ) (x c:Int):ZJ:=
 Bi { L with con:=L.con.set x.toNat c,fst:=L.fst.set x.toNat L.vars.length } x (ZP ds c)
def Ta (ds:List Zd) (L:ZJ) (op num:Int) (args:LI) (i:Nat):ZJ:=
 if op=8 then B6 ds L (gI args 0) (gI (ZQ ds num) i) else L
def JV (lent:LI):LI->Nat->ZJ->ZJ
 | [],_,L=>L
 | t::r,i,L=>JV lent r (i+1) (L.grow t (if t≠0/\¬(i:Int)∈lent then 1 else 0) (-1))
def K8 (r:ZX):ZJ:=JV r.lent r.params 0 ⟨[],[],[],[],[],[]⟩
def Bc (L:ZJ) (ln:LI) (v:Int):Option ZJ:=if Uv L ln v=true then some { L with own:=L.own.set v.toNat (gI L.own v+1) } else none
def KA (n:Zq) (ln:LI) (L:ZJ) (op num into:Int) (args:LI) (ch:Option ZJ):Option ZJ:=
 if op=14 then Bc L ln (gI args 0)
 else if op=15 then Tu L (gI args 0)
 else if op=16∨op=17 then Jc n.decls L op (gI args 0)
 else if op=7∨op=8 then (if op=8/\¬Uv L ln (gI args 0)=true then none else ch)
 else Kr n ln L op num into args
def J3 (L:ZJ) (op t:Int) (r:Option ZJ):Option ZJ:=
 match r with
 | none=>none
 | some L1=>if Xt op=true then some (L1.grow t (if t≠0 then 1 else 0) (-1)) else some L1
def Bp (L:ZJ) (first:Option ZJ) (rest:ZJ->Bool):Option ZJ:=
 match first with
 | none=>none
 | some one=>if rest one=true then some { L with own:=one.own,tok:=one.tok } else none
def Fz (one:ZJ) (two:Option ZJ) (rest:Bool):Bool:=
 match two with
 | none=>false
 | some two=>if one.own=two.own/\one.tok=two.tok then rest else false
def DI (r:Option ZJ) (f:ZJ->Option ZJ):Option ZJ:=match r with|none=>none|some L=>f L
def J2 (m:Nat) (res:Int) (L:ZJ):Option ZJ:=DI (if gI L.vars res≠0 then Tu L res else some L) fun L2=>KW L2 m
mutual
def TZ (n:Zq) (ln:LI) (L:ZJ):Z3->Option ZJ
 | .mk op num into args kids=>J3 L op (Y5 n L.vars (.mk op num into args kids)) (KA n ln L op num into args (K4 n ln L op num args kids))
def K4 (n:Zq) (ln:LI) (L:ZJ) (op num:Int) (args:LI):List Z5->Option ZJ
 | []=>none
 | b::bs=>Bp L (VE n ln (Ta n.decls L op num args 0) L.vars.length b) fun one=>Kv n ln L op num args one bs 1
def Kv (n:Zq) (ln:LI) (L:ZJ) (op num:Int) (args:LI) (one:ZJ):List Z5->Nat->Bool
 | [],_=>true
 | b::bs,i=>Fz one (VE n ln (Ta n.decls L op num args i) L.vars.length b) (Kv n ln L op num args one bs (i+1))
def KE (n:Zq) (ln:LI) (L:ZJ):List Z3->Option ZJ
 | []=>some L
 | s::r=>DI (TZ n ln L s) fun L1=>KE n ln L1 r
def VE (n:Zq) (ln:LI) (L:ZJ) (m:Nat):Z5->Option ZJ
 | .mk steps result=>DI (KE n ln L steps) (J2 m result)
end
theorem PG (n:Zq) (ln:LI) (L:ZJ) (s:Z3):TZ n ln L s=J3 L s.op (Y5 n L.vars s) (KA n ln L s.op s.num s.into s.args (K4 n ln L s.op s.num s.args s.kids)):=by
 cases s with
 | mk op num into args kids=>rw [TZ];rfl
theorem Gp (n:Zq) (ln:LI) (L:ZJ) (m:Nat) (b:Z5):VE n ln L m b=DI (KE n ln L b.steps) (J2 m b.result):=by
 cases b with
 | mk st r=>rw [VE];rfl
structure UL (L:ZJ):Prop where
 own:L.own.length=L.vars.length
 par:L.par.length=L.vars.length
 con:L.con.length=L.vars.length
 fst:L.fst.length=L.vars.length
 tok:L.tok.length=L.vars.length
structure Xq (ds:List Zd) (L:ZJ) (q:Int):Prop where
 len:UL L
 down:∀j:Int,0<=j->j<L.vars.length->gI L.par j<j
 arm:∀x:Int,0<=x->x<L.vars.length->0<=gI L.con x->0<=gI L.fst x/\gI L.fst x+(ZP ds (gI L.con x)).length<=L.vars.length
 nn:∀x∈L.own,0<=x
 bd:∀x∈L.own,x<=q
end Go.Abs
section
namespace Go.Abs
end Go.Abs
namespace Go.Abs
theorem Z6v {n:Zq} {op num:Int} {r:ZX} (h:op=9) (hr:n.routines[num.toNat]? = some r):Fa n op num=r.lent:=by
 rw [Fa,Zk h,hr];rfl
end Go.Abs
namespace Go.Abs
theorem Ry {own par ln:LI} {N:Int} (hd:∀j:Int,0<=j->j<N->gI par j<j):∀(k:Nat) (v:Int),0<=v->v<N->v.toNat+1<=k->Q4 own par ln k v=Q4 own par ln (v.toNat+1) v:=by
 intro k
 induction k using Nat.strongRecOn with
 | ind k ih=>
  intro v h0 hN hk
  cases k with
  | zero=>omega
  | succ k=>
   rw [Q4,Q4]
   split
   ·split
    ·rfl
    ·have hdv:=hd v h0 hN
     rw [ih k om (gI par v) om om om]
     rw [ih v.toNat om (gI par v) om om om]
   ·rfl
theorem RA {own par ln:LI} {N j x1 x2:Int} {r:Bool} (h1:gI own j=x1) (h2:gI par j=x2) (hj:0<=j/\j<N) (hx:x1<1/\¬j∈ln) (h0:¬x2<0) (hd:∀i:Int,0<=i->i<N->gI par i<i)
  (h:Q4 own par ln (j.toNat+1) j=r):Q4 own par ln (x2.toNat+1) x2=r:=by
 rw [Q4,h1,h2,Zk hx,Z9 h0] at h
 have hdv:=hd j hj.1 hj.2
 rw [<-h,Ry hd j.toNat x2 om om om]
theorem Rz {own par ln:LI} {j x1 x2:Int} {r:Bool} (h1:gI own j=x1) (h2:gI par j=x2) (hx:x1<1/\¬j∈ln) (h0:x2<0) (h:Q4 own par ln (j.toNat+1) j=r):false=r:=by
 rw [Q4,h1,h2,Zk hx,Zk h0] at h;exact h
theorem RB {own par ln:LI} {j x1:Int} {r:Bool} (h1:gI own j=x1) (hx:¬(x1<1/\¬j∈ln)) (h:Q4 own par ln (j.toNat+1) j=r):true=r:=by
 rw [Q4,h1,Z9 hx] at h;exact h
end Go.Abs
namespace Go.Abs
theorem KF {L L':ZJ} {v:Int} (h:Tu L v=some L'):1<=gI L.own v/\L'.vars=L.vars/\L'.par=L.par/\L'.con=L.con/\L'.fst=L.fst/\L'.tok=L.tok/\L'.own=L.own.set v.toNat (gI L.own v-1):=by
 rw [Tu] at h
 split at h
 ·cases h
 ·cases h;exact ⟨by omega,rfl,rfl,rfl,rfl,rfl,rfl⟩
theorem H9 {xs:LI} {v:Int} (h:gI xs v≠0):gI xs v∈xs:=by
 rw [gI] at h ⊢
 cases hx:xs[v.toNat]? with
 | none=>rw [hx] at h;exact absurd rfl h
 | some y=>exact Y0 hx
theorem Kw {xs:LI} {i:Nat} {a x:Int} (h:x∈xs.set i a):x∈xs∨x=a:=List.mem_or_eq_of_mem_set h
theorem Xq.take {ds:List Zd} {L L':ZJ} {q v:Int} (hk:Xq ds L q) (h:Tu L v=some L'):Xq ds L' q:=by
 obtain ⟨t1,t2,t3,t4,t5,t6,t7⟩:=KF h
 obtain ⟨f1,f2,f3,f4,f5⟩:=hk.len
 have hm:=H9 (xs:=L.own) (v:=v) om
 refine ⟨⟨by rw [t7,t2,T3];exact f1,by rw [t3,t2];exact f2,by rw [t4,t2];exact f3,by rw [t5,t2];exact f4,by rw [t6,t2];exact f5⟩,?_,?_,?_,?_⟩
 ·rw [t2,t3];exact hk.down
 ·rw [t2,t4,t5];exact hk.arm
 ·rw [t7];intro x hx
  rcases Kw hx with hx|rfl
  ·exact hk.nn x hx
  ·omega
 ·rw [t7];intro x hx
  rcases Kw hx with hx|rfl
  ·exact hk.bd x hx
  ·have:=hk.bd _ hm;omega
end Go.Abs
end
namespace Go.Abs
theorem Iy {us:LI}:∀{args tys:LI},T2 us args tys=true->args.length=tys.length/\∀a∈args,0<=a/\a<us.length
 | [],[],_=>⟨rfl,by simp⟩
 | [],_::_,h=>by cases h
 | _::_,[],h=>by cases h
 | a::as1,t::ts,h=>by
  rw [T2] at h
  split at h
  ·rename_i h1
   obtain ⟨q1,q2⟩:=Iy h
   refine ⟨by simp [q1],fun x hx=>?_⟩
   rcases YB.1 hx with rfl|hx
   ·have:=(Ah h1).1;omega
   ·exact q2 x hx
  ·cases h
theorem Nb {n:Zq} {us:LI}:∀{bs:List Z5} {ms:List LI} {f:Bool} {t:Int},0<=t->0<=XS n us bs ms f t ->
  ∀(i:Nat) (b:Z5) (m:LI),bs[i]? = some b->ms[i]? = some m->0<=YT n (us++m) b
 | [],_,_,_,_,_,i,b,m,hb,_=>by simp at hb
 | b::bs,[],_,_,_,h,_,_,_,_,hm=>by simp at hm
 | b::bs,m::ms,f,t,ht,h,i,c,l,hc,hl=>by
  rw [XS] at h
  split at h
  ·omega
  ·rename_i hq
   have h0:0<=YT n (us++m) b:=by
    rcases Int.lt_or_le (YT n (us++m) b) 0 with q|q
    ·exact absurd (.inl q) hq
    ·exact q
   cases i with
   | zero=>simp at hc hl;subst hc hl;exact h0
   | succ i=>exact Nb h0 h i c l (by simpa using hc) (by simpa using hl)
structure B1 (n:Zq) (us:LI) (s:Z3):Prop where
 args:∀a∈s.args,0<=a/\a<us.length
 one:(s.op=7∨s.op=8∨(14<=s.op/\s.op<=17))->∃a,s.args=[a]
 num:s.op=9->0<=s.num/\s.num<n.routines.length
 into:s.into≠0->1<=s.into/\s.into<=us.length
 kids:(s.op=7∨s.op=8)->s.kids.length=(X7 n.decls s.op s.num).length/\(X7 n.decls s.op s.num).length≠0 /\
  ∀(i:Nat) (b:Z5) (m:LI),s.kids[i]? = some b->(X7 n.decls s.op s.num)[i]? = some m->0<=YT n (us++m) b
theorem Z67 {n:Zq} {us:LI} {op num:Int} {kids:List Z5} (h:0<=UV n us op num kids) :
  kids.length=(X7 n.decls op num).length/\(X7 n.decls op num).length≠0/\∀(i:Nat) (b:Z5) (m:LI),kids[i]? = some b->(X7 n.decls op num)[i]? = some m->0<=YT n (us++m) b:=by
 rw [UV] at h
 split at h
 ·omega
 ·rename_i hq
  exact ⟨by omega,by omega,Nb (Int.le_refl 0) h⟩
theorem Nz {xs:LI} (h:xs.length=1):∃a,xs=[a]:=by
 match xs,h with
 | [a],_=>exact ⟨a,rfl⟩
theorem Ip {n:Zq} {us:LI} {s:Z3} (h:0<=Y5 n us s):B1 n us s:=by
 rw [JY] at h
 split at h
 ·omega
 rename_i h0
 have hinto:s.into≠0->1<=s.into/\s.into<=us.length:=by
  intro hi
  have hv:VM us s.op s.into=true:=by
   cases q:VM us s.op s.into with
   | true=>rfl
   | false=>exact absurd (.inr (.inl (by rw [q];simp))) h0
  rw [VM,Z9 hi] at hv
  split at hv
  ·cases ha:Xc us (s.into-1) with
   | none=>rw [ha] at hv;cases hv
   | some t=>have:=(Ah ha).1;omega
  ·cases hv
 have mk:(∀a∈s.args,0<=a/\a<us.length)->((s.op=7∨s.op=8∨(14<=s.op/\s.op<=17))->∃a,s.args=[a])->(s.op=9->0<=s.num/\s.num<n.routines.length) ->
   ((s.op=7∨s.op=8)->0<=UV n us s.op s.num s.kids)->B1 n us s:=fun a b c d=>⟨a,b,c,hinto,fun q=>Z67 (d q)⟩
 have ty:∀{tys},XL us s.args tys=true->s.args.length=tys.length/\∀a∈s.args,0<=a/\a<us.length:=fun q=>Iy q
 split at h
 ·rename_i h1
  split at h
  ·rename_i h2
   exact mk (by rw [List.eq_nil_of_length_eq_zero h2.1];simp) om om om
  ·omega
 split at h
 ·split at h
  ·rename_i h1 h2;exact mk (ty h2).2 om om om
  ·omega
 split at h
 ·split at h
  ·rename_i h1 h2;exact mk (ty h2).2 om om om
  ·omega
 split at h
 ·split at h
  ·rename_i h1 h2;exact mk (ty h2.2).2 om om om
  ·omega
 split at h
 ·split at h
  ·rename_i h1 h2;exact mk (ty h2).2 (fun _=>Nz (by simpa using (ty h2).1)) om (fun _=>h)
  ·omega
 split at h
 ·split at h
  ·rename_i h1 h2;exact mk (ty h2).2 (fun _=>Nz (by simpa using (ty h2).1)) om (fun _=>h)
  ·omega
 split at h
 ·rename_i hop
  rw [T0] at h
  cases hr:Xc n.routines s.num with
  | none=>rw [hr] at h;simp at h
  | some r=>
   rw [hr] at h
   simp only at h
   have hn:=(Ah hr).1
   rw [K9] at h
   split at h
   ·split at h
    ·rename_i h2;exact mk (ty h2).2 om om om
    ·omega
   ·split at h
    ·omega
    ·rename_i h2
     have h3:XL us s.args (r.params.take (r.params.length-1))=true:=by
      cases q:XL us s.args (r.params.take (r.params.length-1)) with
      | true=>rfl
      | false=>exact absurd (.inr (.inr (by rw [q];simp))) h2
     exact mk (ty h3).2 om om om
 split at h
 ·rename_i hop
  rcases he:s.args with _|⟨a,_|⟨b,_|⟨c,r⟩⟩⟩
  ·rw [he,show Q5 n.decls us []=-1 from rfl] at h;omega
  ·rw [he,show Q5 n.decls us [a]=-1 from rfl] at h;omega
  ·rw [he,Q5] at h
   cases ha:Xc us a with
   | none=>rw [ha] at h;simp at h
   | some t=>
    rw [ha] at h
    simp only at h
    split at h
    ·cases hd:n.decls[(t-1).toNat]? with
     | none=>rw [hd] at h;simp at h
     | some d=>
      rw [hd] at h
      simp only at h
      split at h
      ·rename_i h3
       have h4:=(Iy h3).2 b (by simp)
       have h5:=(Ah ha).1
       refine mk (fun x hx=>?_) om om om
       rw [he] at hx
       rcases YB.1 hx with rfl|hx
       ·omega
       ·rw [XT.1 hx];exact h4
      ·omega
    ·omega
  ·rw [he,show Q5 n.decls us (a::b::c::r)=-1 from rfl] at h;omega
 split at h
 ·rename_i hop
  rcases he:s.args with _|⟨a,_|⟨b,r⟩⟩
  ·rw [he,show TP n.decls us s.op []=-1 from rfl] at h;omega
  ·rw [he,TP] at h
   cases ha:Xc us a with
   | none=>rw [ha] at h;simp at h
   | some t=>
    have h5:=(Ah ha).1
    refine mk (fun x hx=>?_) (fun _=>⟨a,he⟩) om om
    rw [he] at hx
    rw [XT.1 hx];omega
  ·rw [he,show TP n.decls us s.op (a::b::r)=-1 from rfl] at h;omega
 ·omega
def Qm (n:Zq) (us:LI) (s:Z3):LI:=if Xt s.op=true then us++[Y5 n us s] else us
theorem LM {L L':ZJ} {ln:LI} {v:Int} (h:Bc L ln v=some L'):L'.vars=L.vars/\L'.par=L.par/\L'.con=L.con/\L'.fst=L.fst/\L'.tok=L.tok/\L'.own=L.own.set v.toNat (gI L.own v+1):=by
 rw [Bc] at h
 split at h
 ·cases h;exact ⟨rfl,rfl,rfl,rfl,rfl,rfl⟩
 ·cases h
theorem Gi:∀(fs:LI) (own:LI) (p:Int),(TN own p fs).length=own.length
 | [],own,p=>rfl
 | f::r,own,p=>by rw [TN,Gi r];split<;>simp
theorem H8 {xs:LI} {q v:Int} (h:∀x∈xs,x<=q) (hq:0<=q):gI xs v<=q:=by
 by_cases h0:gI xs v=0
 ·omega
 ·exact h _ (H9 h0)
theorem Ha {xs:LI} {v:Int} (h:∀x∈xs,0<=x):0<=gI xs v:=by
 by_cases h0:gI xs v=0
 ·omega
 ·exact h _ (H9 h0)
theorem Gj:∀(fs:LI) (own:LI) (p:Int),(∀x∈own,0<=x)->∀x∈TN own p fs,0<=x
 | [],own,p,h=>h
 | f::r,own,p,h=>by
  rw [TN]
  refine Gj r _ _ fun x hx=>?_
  split at hx
  ·rcases Kw hx with hx|rfl
   ·exact h x hx
   ·have:=Ha (v:=p) h;omega
  ·exact h x hx
theorem Gh:∀(fs:LI) (own:LI) (p q:Int),0<=q->(∀x∈own,x<=q)->∀x∈TN own p fs,x<=q+fs.length
 | [],own,p,q,hq,h=>by intro x hx;have:=h x hx;simp;omega
 | f::r,own,p,q,hq,h=>by
  intro x hx
  rw [TN] at hx
  have:=Gh r _ _ (q+1) om (fun y hy=>by
   split at hy
   ·rcases Kw hy with hy|rfl
    ·have:=h y hy;omega
    ·have:=H8 (v:=p) h hq;omega
   ·have:=h y hy;omega) x hx
  simp only [YH];omega
theorem O7 {ds:List Zd} {L L':ZJ} {op v:Int} (h:Jc ds L op v=some L'):L'.vars=L.vars/\L'.par=L.par/\L'.con=L.con/\L'.fst=L.fst/\L'.tok.length=L.tok.length /\
  ∃L1,Tu L v=some L1/\L'.own=TN L1.own (gI L.fst v) (ZP ds (gI L.con v)):=by
 rw [Jc] at h
 split at h
 ·cases h
 ·cases ht:Tu L v with
  | none=>rw [ht] at h;cases h
  | some L1=>
   rw [ht] at h
   simp only at h
   obtain ⟨t1,t2,t3,t4,t5,t6,t7⟩:=KF ht
   cases h
   refine ⟨t2,t3,t4,t5,?_,L1,rfl,rfl⟩
   split
   ·rw [T3]
   ·rfl
theorem Hl {n:Zq} {op num:Int} {ds:List Zd} {q:Int}:∀{as1:LI} {i:Nat} {L L':ZJ},Xq ds L q->QD n op num as1 i L=some L'->Xq ds L' q/\L'.vars=L.vars/\L'.par=L.par/\L'.con=L.con/\L'.fst=L.fst/\L'.tok=L.tok
 | [],i,L,L',hk,h=>by rw [QD] at h;cases h;exact ⟨hk,rfl,rfl,rfl,rfl,rfl⟩
 | a::r,i,L,L',hk,h=>by
  rw [QD] at h
  split at h
  ·cases ht:Tu L a with
   | none=>rw [ht] at h;cases h
   | some L1=>
    rw [ht] at h
    obtain ⟨t1,t2,t3,t4,t5,t6,t7⟩:=KF ht
    obtain ⟨k1,k2,k3,k4,k5,k6⟩:=Hl (hk.take ht) h
    exact ⟨k1,k2.trans t2,k3.trans t3,k4.trans t4,k5.trans t5,k6.trans t6⟩
  ·exact Hl hk h
theorem Xq.le {ds:List Zd} {L:ZJ} {q q':Int} (h:Xq ds L q) (hq:q<=q'):Xq ds L q':=⟨h.len,h.down,h.arm,h.nn,fun x hx=>Int.le_trans (h.bd x hx) hq⟩
theorem Xq.turn {ds:List Zd} {L L':ZJ} {q q':Int} (hk:Xq ds L q) (h1:L'.vars=L.vars) (h2:L'.par=L.par) (h3:L'.con=L.con) (h4:L'.fst=L.fst) (h5:L'.tok.length=L.tok.length) (h6:L'.own.length=L.own.length)
  (h7:∀x∈L'.own,0<=x) (h8:∀x∈L'.own,x<=q'):Xq ds L' q':=by
 obtain ⟨f1,f2,f3,f4,f5⟩:=hk.len
 refine ⟨⟨by rw [h6,h1];exact f1,by rw [h2,h1];exact f2,by rw [h3,h1];exact f3,by rw [h4,h1];exact f4,by rw [h5,h1];exact f5⟩,?_,?_,h7,h8⟩
 ·rw [h1,h2];exact hk.down
 ·rw [h1,h3,h4];exact hk.arm
theorem BX {xs ys:LI} {j:Int} (h:j.toNat<xs.length):gI (xs++ys) j=gI xs j:=by
 rw [gI,gI,DQ h]
theorem Mj {xs:LI} {y:Int} {j:Int} (h:j.toNat=xs.length):gI (xs++[y]) j=y:=by
 rw [gI,h];simp
theorem Xq.grow {ds:List Zd} {L:ZJ} {q t o p:Int} (hk:Xq ds L q) (hp:p<L.vars.length) (ho:0<=o/\o<=q):Xq ds (L.grow t o p) q:=by
 obtain ⟨f1,f2,f3,f4,f5⟩:=hk.len
 refine ⟨⟨by simp [ZJ.grow,f1],by simp [ZJ.grow,f2],by simp [ZJ.grow,f3],by simp [ZJ.grow,f4],by simp [ZJ.grow,f5]⟩,?_,?_,?_,?_⟩
 ·intro j hj hl
  simp only [ZJ.grow,Ym,G5] at hl ⊢
  by_cases hlt:j<L.vars.length
  ·rw [BX om];exact hk.down j hj hlt
  ·rw [Mj om];omega
 ·intro x hx hl
  simp only [ZJ.grow,Ym,G5] at hl ⊢
  by_cases hlt:x<L.vars.length
  ·rw [BX om,BX om]
   intro hc
   have:=hk.arm x hx hlt hc
   exact ⟨this.1,by omega⟩
  ·rw [Mj om];omega
 ·intro x hx
  simp only [ZJ.grow,X4,XT] at hx
  rcases hx with hx|rfl
  ·exact hk.nn x hx
  ·exact ho.1
 ·intro x hx
  simp only [ZJ.grow,X4,XT] at hx
  rcases hx with hx|rfl
  ·exact hk.bd x hx
  ·exact ho.2
theorem Ml {xs:LI} {k:Nat} {a:Int} {j:Int} (h:xs.length<=j.toNat/\j.toNat<xs.length+k):gI (xs++List.replicate k a) j=a:=by
 rw [gI,DR h.1,List.getElem?_replicate,Zk om];rfl
theorem Hb {xs:LI} {x j c:Int} (h:j.toNat=x.toNat) (hl:x.toNat<xs.length):gI (xs.set x.toNat c) j=c:=by
 rw [gI,h,List.getElem?_set_self hl];rfl
theorem Hc {xs:LI} {x j c:Int} (h:j.toNat≠x.toNat):gI (xs.set x.toNat c) j=gI xs j:=by
 rw [gI,gI,List.getElem?_set_ne (fun q=>h q.symm)]
theorem MG {p:Int}:∀(fs:LI) (L:ZJ),Bi L p fs=⟨L.vars++fs,L.own++List.replicate fs.length 0,L.par++List.replicate fs.length p,L.con++List.replicate fs.length (-1),
  L.fst++List.replicate fs.length (-1),L.tok++List.replicate fs.length (-1)⟩
 | [],L=>by simp [Bi]
 | t::r,L=>by rw [Bi,MG r];simp [ZJ.grow,IJ]
theorem RT {ds:List Zd} {L:ZJ} {q x c:Int} (hk:Xq ds L q) (hq:0<=q) (hx:0<=x/\x<L.vars.length):Xq ds (B6 ds L x c) q/\(B6 ds L x c).vars=L.vars++ZP ds c:=by
 obtain ⟨f1,f2,f3,f4,f5⟩:=hk.len
 rw [B6,MG]
 refine ⟨⟨⟨by simp [f1],by simp [f2],by simp [f3],by simp [f4],by simp [f5]⟩,?_,?_,?_,?_⟩,rfl⟩
 ·intro j hj hl
  simp only [Ym] at hl ⊢
  by_cases hlt:j<L.vars.length
  ·rw [BX om];exact hk.down j hj hlt
  ·rw [Ml om];omega
 ·intro y hy hl
  simp only [Ym] at hl ⊢
  by_cases hlt:y<L.vars.length
  ·rw [BX (by simp;omega),BX (by simp;omega)]
   by_cases he:y.toNat=x.toNat
   ·rw [Hb he om,Hb he om]
    intro _
    exact ⟨by omega,by simp⟩
   ·rw [Hc he,Hc he]
    intro hc
    have:=hk.arm y hy hlt hc
    exact ⟨this.1,by omega⟩
  ·rw [Ml (by simp;omega)];omega
 ·intro y hy
  simp only [X4,List.mem_replicate] at hy
  rcases hy with hy|⟨_,rfl⟩
  ·exact hk.nn y hy
  ·exact Int.le_refl 0
 ·intro y hy
  simp only [X4,List.mem_replicate] at hy
  rcases hy with hy|⟨_,rfl⟩
  ·exact hk.bd y hy
  ·exact hq
theorem EZ {n:Zq} {L:ZJ} {q:Int} {s:Z3} {i:Nat} {m:LI} (hk:Xq n.decls L q) (hq:0<=q) (hf:B1 n L.vars s) (hop:s.op=7∨s.op=8) (hm:(X7 n.decls s.op s.num)[i]? = some m) :
  Xq n.decls (Ta n.decls L s.op s.num s.args i) q/\(Ta n.decls L s.op s.num s.args i).vars=L.vars++m:=by
 rw [Ta]
 split
 ·rename_i h8
  obtain ⟨a,ha⟩:=hf.one om
  have hb:=hf.args a (by rw [ha];simp)
  have hg:gI s.args 0=a:=by rw [ha];rfl
  rw [X7,Z9 om,Ki] at hm
  cases hc:(ZQ n.decls s.num)[i]? with
  | none=>rw [hc] at hm;cases hm
  | some c=>
   rw [hc] at hm
   cases hm
   have hgc:gI (ZQ n.decls s.num) (i:Int)=c:=by rw [gI];simp [hc]
   rw [hg,hgc]
   exact RT hk hq hb
 ·rename_i h8
  rw [X7,Zk om] at hm
  have:m=[]:=by
   match i,hm with
   | 0,hm=>simpa using hm.symm
   | 1,hm=>simpa using hm.symm
   | i+2,hm=>simp at hm
  subst this
  exact ⟨hk,by simp⟩
theorem PJ {n:Zq}:∀{l:List Z3} {us vs:LI},Wk n l us=some vs->us.length<=vs.length
 | [],us,vs,h=>by rw [Wk] at h;cases h;exact YR _
 | s::r,us,vs,h=>by
  rw [Wk] at h
  split at h
  ·cases h
  ·have:=PJ h
   split at this
   ·simp only [Ym,G5] at this;omega
   ·exact this
theorem MH {n:Zq} {ln:LI} {L L':ZJ} {op num into q:Int} {args:LI} {ds:List Zd} (hk:Xq ds L q) (h:Kr n ln L op num into args=some L'):Xq ds L' q/\L'.vars=L.vars:=by
 rw [Kr] at h
 cases ht:QD n op num args 0 L with
 | none=>rw [ht] at h;cases h
 | some L1=>
  rw [ht] at h
  simp only at h
  obtain ⟨k1,k2,k3,k4,k5,k6⟩:=Hl hk ht
  split at h
  ·rw [CY] at h
   split at h
   ·split at h
    ·cases h
    ·cases h
     exact ⟨k1.turn rfl rfl rfl rfl (by simp) rfl k1.nn k1.bd,k2⟩
   ·cases h;exact ⟨k1,k2⟩
  ·cases h
theorem Z00 {L L':ZJ} {m:Nat} (h:KW L m=some L'):L'=L.take m/\AT (L.own.drop m) (L.tok.drop m)=true:=by
 rw [KW] at h
 split at h
 ·rename_i hz;cases h;exact ⟨rfl,hz⟩
 ·cases h
theorem Iv {r:Option ZJ} {f:ZJ->Option ZJ} {L:ZJ} (h:DI r f=some L):∃L1,r=some L1/\f L1=some L:=by
 cases r with
 | none=>cases h
 | some L1=>exact ⟨L1,rfl,h⟩
theorem Nr (n:Zq) (hn:X2 n) (ln:LI):∀m:Nat,
  (∀(s:Z3) (L L':ZJ) (q:Int),s.sz<=m->Xq n.decls L q->0<=q->0<=Y5 n L.vars s->TZ n ln L s=some L'->Xq n.decls L' (q+4*s.sz)/\L'.vars=Qm n L.vars s) /\
  (∀(b:Z5) (L O:ZJ) (q:Int) (k:Nat),b.sz<=m->Xq n.decls L q->0<=q->0<=YT n L.vars b->k<=L.vars.length->VE n ln L k b=some O ->
   (O.own.length=k/\O.tok.length=k/\(∀x∈O.own,0<=x/\x<=q+4*b.sz))/\UL O/\O.vars.length=k):=by
 intro m
 induction m with
 | zero=>exact ⟨fun s _ _ _ h=>by have:=s.sz_pos;omega,fun s _ _ _ _ h=>by have:=s.sz_pos;omega⟩
 | succ m ih=>
  have hs:∀(s:Z3) (L L':ZJ) (q:Int),s.sz<=m+1->Xq n.decls L q->0<=q->0<=Y5 n L.vars s->TZ n ln L s=some L'->Xq n.decls L' (q+4*s.sz)/\L'.vars=Qm n L.vars s:=by
   intro s L L' q Xk hk hq hty h
   have hp:=s.sz_pos
   have hf:=Ip hty
   obtain ⟨f1,f2,f3,f4,f5⟩:=hk.len
   rw [PG] at h
   unfold J3 at h
   cases hpk:KA n ln L s.op s.num s.into s.args (K4 n ln L s.op s.num s.args s.kids) with
   | none=>rw [hpk] at h;cases h
   | some L1=>
    rw [hpk] at h
    simp only at h
    have key:Xq n.decls L1 (q+4*s.sz)/\L1.vars=L.vars:=by
     rw [KA] at hpk
     split at hpk
     ·obtain ⟨d1,d2,d3,d4,d5,d6⟩:=LM hpk
      refine ⟨hk.turn d1 d2 d3 d4 (by rw [d5]) (by rw [d6,T3]) ?_ ?_,d1⟩
      ·rw [d6];intro x hx
       rcases Kw hx with hx|rfl
       ·exact hk.nn x hx
       ·have:=Ha (v:=gI s.args 0) hk.nn;omega
      ·rw [d6];intro x hx
       rcases Kw hx with hx|rfl
       ·have:=hk.bd x hx;omega
       ·have:=H8 (v:=gI s.args 0) hk.bd hq;omega
     split at hpk
     ·exact ⟨(hk.take hpk).le om,(KF hpk).2.1⟩
     split at hpk
     ·rename_i hop
      obtain ⟨d1,d2,d3,d4,d5,Lt,ht,d6⟩:=O7 hpk
      have hkt:=hk.take ht
      have h3:=VP hn.decls (gI L.con (gI s.args 0))
      refine ⟨hk.turn d1 d2 d3 d4 d5 ?_ ?_ ?_,d1⟩
      ·rw [d6,Gi,(KF ht).2.2.2.2.2.2,T3]
      ·rw [d6];exact Gj _ _ _ hkt.nn
      ·rw [d6];intro x hx
       have:=Gh _ _ _ q hq hkt.bd x hx;omega
     split at hpk
     ·rename_i hop
      split at hpk
      ·cases hpk
      ·cases hks:s.kids with
       | nil=>rw [hks,K4] at hpk;cases hpk
       | cons b bs=>
        rw [hks,K4] at hpk
        unfold Bp at hpk
        cases hb:VE n ln (Ta n.decls L s.op s.num s.args 0) L.vars.length b with
        | none=>rw [hb] at hpk;cases hpk
        | some one=>
         rw [hb] at hpk
         simp only at hpk
         split at hpk
         ·cases hpk
          obtain ⟨q1,q2,q3⟩:=hf.kids hop
          have hks0:s.kids[0]? = some b:=by rw [hks];rfl
          obtain ⟨a0,ha0⟩:=J7 (xs:=X7 n.decls s.op s.num) (j:=0) om
          obtain ⟨k1,k2⟩:=EZ hk hq hf hop ha0
          have hbz:=Uc hks0
          obtain ⟨⟨r1,r2,r3⟩,_⟩:=ih.2 b _ one q L.vars.length om k1 hq (by rw [k2];exact q3 0 b a0 hks0 ha0) (by rw [k2];simp) hb
          refine ⟨hk.turn rfl rfl rfl rfl (by simp only;omega) (by simp only;omega) (fun x hx=>(r3 x hx).1) (fun x hx=>?_),rfl⟩
          have:=(r3 x hx).2;omega
         ·cases hpk
     ·obtain ⟨k1,k2⟩:=MH hk hpk
      exact ⟨k1.le om,k2⟩
    split at h
    ·rename_i hd
     cases h
     refine ⟨key.1.grow om ?_,by rw [Qm,Zk hd];simp [ZJ.grow,key.2]⟩
     split<;>omega
    ·rename_i hd
     cases h
     exact ⟨key.1,by rw [Qm,Z9 hd];exact key.2⟩
  refine ⟨hs,?_⟩
  intro b L O q k Xk hk hq hty hkl h
  have hsteps:∀(l:List Z3) (L L':ZJ) (q:Int) (vs:LI),Yd l<=m->Xq n.decls L q->0<=q->Wk n l L.vars=some vs->KE n ln L l=some L'->Xq n.decls L' (q+4*Yd l)/\L'.vars=vs:=by
   intro l
   induction l with
   | nil=>intro L L' q vs _ hk _ h1 h2;rw [Wk] at h1;rw [KE] at h2;cases h1;cases h2;exact ⟨by simpa [Yd] using hk,rfl⟩
   | cons s r ihr=>
    intro L L' q vs hz hk hq h1 h2
    rw [Yd] at hz
    rw [KE] at h2
    obtain ⟨L1,e1,e2⟩:=Iv h2
    rw [Wk] at h1
    split at h1
    ·cases h1
    ·rename_i h0
     obtain ⟨k1,k2⟩:=hs s L L1 q om hk hq om e1
     obtain ⟨k3,k4⟩:=ihr L1 L' (q+4*s.sz) vs om k1 om (by rw [k2];exact h1) e2
     exact ⟨k3.le (by rw [Yd];omega),k4⟩
  have hbz:=b.sz_eq
  rw [Gp] at h
  obtain ⟨L1,e1,e2⟩:=Iv h
  rw [E2] at hty
  cases hv:Wk n b.steps L.vars with
  | none=>rw [hv] at hty;simp at hty
  | some vs=>
   obtain ⟨k1,k2⟩:=hsteps b.steps L L1 q vs om hk hq hv e1
   have hlen:=PJ hv
   rw [J2] at e2
   obtain ⟨L2,e3,e4⟩:=Iv e2
   have k3:Xq n.decls L2 (q+4*Yd b.steps)/\L2.vars=L1.vars:=by
    split at e3
    ·exact ⟨k1.take e3,(KF e3).2.1⟩
    ·cases e3;exact ⟨k1,rfl⟩
   obtain ⟨rfl,_⟩:=Z00 e4
   obtain ⟨g1,g2,g3,g4,g5⟩:=k3.1.len
   have hl2:L2.vars.length=vs.length:=by rw [k3.2,k2]
   refine ⟨⟨by simp [ZJ.take];omega,by simp [ZJ.take];omega,fun x hx=>?_⟩,⟨by simp [ZJ.take];omega,by simp [ZJ.take];omega,by simp [ZJ.take];omega,by simp [ZJ.take];omega,by simp [ZJ.take];omega⟩,by simp [ZJ.take];omega⟩
   have hx':x∈L2.own:=TK hx
   have:=k3.1.nn x hx'
   have:=k3.1.bd x hx'
   omega
theorem PH {n:Zq} (hn:X2 n) {ln:LI} {s:Z3} {L L':ZJ} {q:Int} (hk:Xq n.decls L q) (hq:0<=q) (hty:0<=Y5 n L.vars s) (h:TZ n ln L s=some L'):Xq n.decls L' (q+4*s.sz)/\L'.vars=Qm n L.vars s:=
 (Nr n hn ln s.sz).1 s L L' q (YR _) hk hq hty h
theorem Lb {n:Zq} (hn:X2 n) {ln:LI} {b:Z5} {L O:ZJ} {q:Int} {k:Nat} (hk:Xq n.decls L q) (hq:0<=q) (hty:0<=YT n L.vars b) (hkl:k<=L.vars.length) (h:VE n ln L k b=some O) :
  O.own.length=k/\O.tok.length=k/\(∀x∈O.own,0<=x/\x<=q+4*b.sz):=
 ((Nr n hn ln b.sz).2 b L O q k (YR _) hk hq hty hkl h).1
theorem Dt {n:Zq} (hn:X2 n) {ln:LI} {s:Z3} {L L1:ZJ} {q:Int} (hk:Xq n.decls L q) (hq:0<=q) (hf:B1 n L.vars s)
  (hpk:KA n ln L s.op s.num s.into s.args (K4 n ln L s.op s.num s.args s.kids)=some L1):Xq n.decls L1 (q+4*s.sz)/\L1.vars=L.vars:=by
 have hp:=s.sz_pos
 obtain ⟨f1,f2,f3,f4,f5⟩:=hk.len
 rw [KA] at hpk
 split at hpk
 ·obtain ⟨d1,d2,d3,d4,d5,d6⟩:=LM hpk
  refine ⟨hk.turn d1 d2 d3 d4 (by rw [d5]) (by rw [d6,T3]) ?_ ?_,d1⟩
  ·rw [d6];intro x hx
   rcases Kw hx with hx|rfl
   ·exact hk.nn x hx
   ·have:=Ha (v:=gI s.args 0) hk.nn;omega
  ·rw [d6];intro x hx
   rcases Kw hx with hx|rfl
   ·have:=hk.bd x hx;omega
   ·have:=H8 (v:=gI s.args 0) hk.bd hq;omega
 split at hpk
 ·exact ⟨(hk.take hpk).le om,(KF hpk).2.1⟩
 split at hpk
 ·rename_i hop
  obtain ⟨d1,d2,d3,d4,d5,Lt,ht,d6⟩:=O7 hpk
  have hkt:=hk.take ht
  have h3:=VP hn.decls (gI L.con (gI s.args 0))
  refine ⟨hk.turn d1 d2 d3 d4 d5 ?_ ?_ ?_,d1⟩
  ·rw [d6,Gi,(KF ht).2.2.2.2.2.2,T3]
  ·rw [d6];exact Gj _ _ _ hkt.nn
  ·rw [d6];intro x hx
   have:=Gh _ _ _ q hq hkt.bd x hx;omega
 split at hpk
 ·rename_i hop
  split at hpk
  ·cases hpk
  ·cases hks:s.kids with
   | nil=>rw [hks,K4] at hpk;cases hpk
   | cons b bs=>
    rw [hks,K4] at hpk
    unfold Bp at hpk
    cases hb:VE n ln (Ta n.decls L s.op s.num s.args 0) L.vars.length b with
    | none=>rw [hb] at hpk;cases hpk
    | some one=>
     rw [hb] at hpk
     simp only at hpk
     split at hpk
     ·cases hpk
      obtain ⟨q1,q2,q3⟩:=hf.kids hop
      have hks0:s.kids[0]? = some b:=by rw [hks];rfl
      obtain ⟨a0,ha0⟩:=J7 (xs:=X7 n.decls s.op s.num) (j:=0) om
      obtain ⟨k1,k2⟩:=EZ hk hq hf hop ha0
      have hbz:=Uc hks0
      obtain ⟨r1,r2,r3⟩:=Lb hn k1 hq (by rw [k2];exact q3 0 b a0 hks0 ha0) (by rw [k2];simp) hb
      refine ⟨hk.turn rfl rfl rfl rfl (by simp only;omega) (by simp only;omega) (fun x hx=>(r3 x hx).1) (fun x hx=>?_),rfl⟩
      have:=(r3 x hx).2;omega
     ·cases hpk
 ·obtain ⟨k1,k2⟩:=MH hk hpk
  exact ⟨k1.le om,k2⟩
end Go.Abs
section
namespace Go.Abs
theorem RU {ds:List Zd} {op num:Int} {i:Nat} {m:LI} (h8:op=8) (h:(X7 ds op num)[i]? = some m):∃c,(ZQ ds num)[i]? = some c/\m=ZP ds c:=by
 rw [X7,Z9 om,Ki] at h
 cases hc:(ZQ ds num)[i]? with
 | none=>rw [hc] at h;cases h
 | some c=>rw [hc] at h;cases h;exact ⟨c,rfl,rfl⟩
theorem Z60 {ds:List Zd} {L:ZJ} {op num x c:Int} {args:LI} {i:Nat} (h8:op=8) (hx:args[0]? = some x) (hc:(ZQ ds num)[i]? = some c):Ta ds L op num args i=B6 ds L x c:=by
 have h1:gI args 0=x:=by rw [gI];simp [hx]
 have h2:gI (ZQ ds num) (i:Int)=c:=by rw [gI];simp [hc]
 rw [Ta,Zk h8,h1,h2]
theorem Z61 {ds:List Zd} {L:ZJ} {op num:Int} {args:LI} {i:Nat} (h8:¬op=8):Ta ds L op num args i=L:=by rw [Ta,Z9 h8]
theorem Z65 {n:Zq} {ln:LI} {L:ZJ} {op num:Int} {args:LI} {kids:List Z5} {kb:Z5} (h:kids[0]? = some kb) :
  K4 n ln L op num args kids=Bp L (VE n ln (Ta n.decls L op num args 0) L.vars.length kb) fun one=>Kv n ln L op num args one (kids.drop 1) 1:=by
 cases kids with
 | nil=>simp at h
 | cons b bs=>simp at h;subst h;rw [K4];rfl
theorem Z66 {n:Zq} {ln:LI} {L one:ZJ} {op num:Int} {args:LI} {kids:List Z5} {kb:Z5} {k:Nat} (h:kids[k]? = some kb) :
  Kv n ln L op num args one (kids.drop k) k=Fz one (VE n ln (Ta n.decls L op num args k) L.vars.length kb) (Kv n ln L op num args one (kids.drop (k+1)) (k+1)):=by
 rw [Y3 h,Kv]
def B9 (n:Zq) (ln:LI) (L:ZJ) (s:Z3):Option ZJ:=
 if s.op=8/\¬Uv L ln (gI s.args 0)=true then none else K4 n ln L s.op s.num s.args s.kids
theorem Se {n:Zq} {ln:LI} {L:ZJ} {s:Z3} {kb:Z5} (h:¬(s.op=8/\¬Uv L ln (gI s.args 0)=true)) (hk:s.kids[0]? = some kb) :
  B9 n ln L s=Bp L (VE n ln (Ta n.decls L s.op s.num s.args 0) L.vars.length kb) fun one=>Kv n ln L s.op s.num s.args one (s.kids.drop 1) 1:=by
 rw [B9,Z9 h,Z65 hk]
theorem JG {xs:LI} {x:Int} (h:xs[0]? = some x):gI xs 0=x:=by rw [gI];simp [h]
end Go.Abs
namespace Go.Abs
theorem UL.grow {L:ZJ} {t o p:Int} (h:UL L):UL (L.grow t o p):=by
 obtain ⟨f1,f2,f3,f4,f5⟩:=h
 exact ⟨by simp [ZJ.grow,f1],by simp [ZJ.grow,f2],by simp [ZJ.grow,f3],by simp [ZJ.grow,f4],by simp [ZJ.grow,f5]⟩
theorem UL.arm {L:ZJ} {i j:Nat} {c d:Int} (h:UL L):UL ⟨L.vars,L.own,L.par,L.con.set i c,L.fst.set j d,L.tok⟩:=by
 obtain ⟨f1,f2,f3,f4,f5⟩:=h
 exact ⟨f1,f2,by simp [f3],by simp [f4],f5⟩
end Go.Abs
namespace Go.Abs
theorem Na {n:Zq} (hn:X2 n) {ln:LI} {L O:ZJ} {q:Int} {s:Z3} {i:Nat} {kb:Z5} {m:LI} (hk:Xq n.decls L q) (hq:0<=q) (hf:B1 n L.vars s) (hop:s.op=7∨s.op=8)
  (_:s.kids[i]? = some kb) (harm:(X7 n.decls s.op s.num)[i]? = some m) (hbt:0<=YT n (L.vars++m) kb) (h:VE n ln (Ta n.decls L s.op s.num s.args i) L.vars.length kb=some O) :
  O.own.length=L.vars.length/\O.tok.length=L.vars.length:=by
 obtain ⟨k1,k2⟩:=EZ hk hq hf hop harm
 obtain ⟨r1,r2,_⟩:=Lb hn k1 hq (by rw [k2];exact hbt) (by rw [k2];simp) h
 exact ⟨r1,r2⟩
theorem Z9u {one two:ZJ} {r:Bool} (h:¬(¬one.own=two.own∨¬one.tok=two.tok)):Fz one (some two) r=r:=Zk ⟨W7.1 fun q=>h (.inl q),W7.1 fun q=>h (.inr q)⟩
theorem Z9t {one two:ZJ} {r:Bool} (h:¬one.own=two.own∨¬one.tok=two.tok):Fz one (some two) r=false:=Z9 fun q=>h.elim (fun z=>z q.1) fun z=>z q.2
theorem Z75 {L one:ZJ} {f:ZJ->Bool} (h:f one=true):Bp L (some one) f=some ⟨L.vars,one.own,L.par,L.con,L.fst,one.tok⟩:=Zk h
theorem NC {L one:ZJ} {f:ZJ->Bool} (h:f one=false):Bp L (some one) f=none:=Z9 (by rw [h];simp)
end Go.Abs
namespace Go.Abs
section
variable {n:Zq} {ln:LI} {L:ZJ} {s:Z3}
abbrev Jd (n:Zq) (ln:LI) (L:ZJ) (s:Z3):Option ZJ:=KA n ln L s.op s.num s.into s.args (K4 n ln L s.op s.num s.args s.kids)
theorem Oa {x:Int} (h:s.op=14) (hx:gI s.args 0=x):Jd n ln L s=Bc L ln x:=hx▸Zk h
theorem Ob {x:Int} (h:s.op=15) (hx:gI s.args 0=x):Jd n ln L s=Tu L x:=by rw [<-hx,Jd,KA,Z9 om,Zk h]
theorem Oc {x:Int} (h:s.op=16∨s.op=17) (hx:gI s.args 0=x):Jd n ln L s=Jc n.decls L s.op x:=by rw [<-hx,Jd,KA,Z9 om,Z9 om,Zk h]
theorem Od (h:s.op=7∨s.op=8):Jd n ln L s=B9 n ln L s:=by rw [Jd,KA,Z9 om,Z9 om,Z9 om,Zk h,B9]
theorem Oe (h1:¬s.op=14) (h2:¬s.op=15) (h3:¬(s.op=16∨s.op=17)) (h4:¬(s.op=7∨s.op=8)):Jd n ln L s=Kr n ln L s.op s.num s.into s.args:=by
 rw [Jd,KA,Z9 h1,Z9 h2,Z9 h3,Z9 h4]
theorem Z0m {v:Int} (h:¬Uv L ln v=true):Bc L ln v=none:=Z9 h
theorem Z0n {v x:Int} (h:¬¬Uv L ln v=true) (hx:gI L.own v=x):Bc L ln v=some ⟨L.vars,L.own.set v.toNat (x+1),L.par,L.con,L.fst,L.tok⟩:=by rw [Bc,Zk (W7.1 h),hx]
theorem UI (n:Zq) (ln:LI) (L:ZJ) (s:Z3):TZ n ln L s=J3 L s.op (Y5 n L.vars s) (Jd n ln L s):=PG n ln L s
theorem UA {X:ZJ} {op t:Int} (h:Xt op=true/\t≠0):J3 L op t (some X)=some (X.grow t 1 (-1)):=by
 unfold J3;simp only [h.1,↓reduceIte];rw [Zk h.2]
theorem UB {X:ZJ} {op t:Int} (h:¬(Xt op=true/\t≠0)) (h2:Xt op=true):J3 L op t (some X)=some (X.grow 0 0 (-1)):=by
 have ht:t=0:=W7.1 fun q=>h ⟨h2,q⟩
 subst ht
 unfold J3;simp only [h2,↓reduceIte];rfl
theorem UC {X:ZJ} {op t:Int} (h:¬Xt op=true):J3 L op t (some X)=some X:=by
 unfold J3;simp only [Z9 h]
end
end Go.Abs
namespace Go.Abs
theorem Gq {n:Zq} {us:LI} {b:Z5} (h:0<=YT n us b):∃vs t,Wk n b.steps us=some vs/\Xc vs b.result=some t/\0<=t:=by
 rw [E2] at h
 cases hv:Wk n b.steps us with
 | none=>rw [hv] at h;simp at h
 | some vs=>
  rw [hv] at h
  simp only at h
  cases ha:Xc vs b.result with
  | none=>rw [ha] at h;simp at h
  | some t=>rw [ha] at h;exact ⟨vs,t,rfl,ha,h⟩
theorem Iq {n:Zq} {us vs:LI} {s:Z3} {r:List Z3} (h:Wk n (s::r) us=some vs):0<=Y5 n us s/\Wk n r (Qm n us s)=some vs:=by
 rw [Wk] at h
 split at h
 ·cases h
 ·exact ⟨by omega,h⟩
theorem Ic (n:Zq) (us:LI) (s:Z3):us.length<=(Qm n us s).length/\(Qm n us s).length<=us.length+s.sz:=by
 have:=s.sz_pos
 rw [Qm];split
 ·simp only [Ym,G5];omega
 ·omega
end Go.Abs
namespace Go.Abs
theorem Z1b {X L:ZJ} {m:Nat} {r x:Int} (hg:gI L.vars r=x) (h:x≠0) (ht:Tu L r=some X):J2 m r L=KW X m:=by rw [J2,hg,Zk h,ht];rfl
theorem Z1a {L:ZJ} {m:Nat} {r x:Int} (hg:gI L.vars r=x) (h:x≠0) (ht:Tu L r=none):J2 m r L=none:=by rw [J2,hg,Zk h,ht];rfl
theorem CN {L:ZJ} {m:Nat} {r x:Int} (hg:gI L.vars r=x) (h:¬x≠0):J2 m r L=KW L m:=by rw [J2,hg,Z9 h];rfl
end Go.Abs
namespace Go.Abs
theorem O9 {ds:List Zd} {lent:LI}:∀{ps:LI} {i:Nat} {L:ZJ},Xq ds L 1->Xq ds (JV lent ps i L) 1/\(JV lent ps i L).vars=L.vars++ps
 | [],i,L,hk=>⟨hk,by simp [JV]⟩
 | t::r,i,L,hk=>by
  rw [JV]
  obtain ⟨k1,k2⟩:=O9 (lent:=lent) (ps:=r) (i:=i+1) (hk.grow (t:=t) (o:=if t≠0/\¬(i:Int)∈lent then 1 else 0) (p:=-1) om (by split<;>omega))
  exact ⟨k1,by rw [k2];simp [ZJ.grow]⟩
theorem Z79 (ds:List Zd) (r:ZX):Xq ds (K8 r) 1/\(K8 r).vars=r.params:=by
 have h:Xq ds (⟨[],[],[],[],[],[]⟩:ZJ) 1:=⟨⟨rfl,rfl,rfl,rfl,rfl⟩,fun j h1 h2=>by simp at h2;omega,fun j h1 h2=>by simp at h2;omega,by simp,by simp⟩
 obtain ⟨k1,k2⟩:=O9 (lent:=r.lent) (ps:=r.params) (i:=0) h
 exact ⟨k1,by rw [K8,k2];rfl⟩
end Go.Abs
namespace Go.Abs
theorem Dy {n:Zq}:∀{l:List ZX},Tn n l=true->∀r∈l,¬Wr r.body<0/\YT n r.params r.body=r.result
 | [],_,r,h=>by simp at h
 | a::l,h,r,hr=>by
  rw [Tn] at h
  split at h
  ·rename_i h1
   rcases YB.1 hr with rfl|hr
   ·exact h1
   ·exact Dy h r hr
  ·cases h
theorem DN {n:Zq} (hz:VC n) (h:YW n=true):X2 n/\∀r∈n.routines,0<=YT n r.params r.body:=by
 simp only [YW,XI] at h
 refine ⟨HQ hz h.1,fun r hr=>?_⟩
 rw [(Dy h.2 r hr).2]
 have h1:=h.1
 simp only [VT,Qr,XI] at h1
 have:=FD h1.2.1.2.2.1 (Vq r) (Xy.2 ⟨r,hr,rfl⟩)
 simp only [QH,XI,decide_eq_true_eq,Vq] at this
 exact (of_decide_eq_true this.2.2).1
end Go.Abs
end
section
namespace Go.Abs
theorem Z10 {xs:LI} (h:Z7 xs=[]):xs=[]:=by cases xs with|nil=>rfl|cons x r=>cases h
theorem Z0r {xs:List Y1} (h:Xs xs=[]):xs=[]:=by cases xs with|nil=>rfl|cons x r=>cases h
theorem Z0u {xs:List Zd} (h:Yo xs=[]):xs=[]:=by cases xs with|nil=>rfl|cons x r=>cases h
end Go.Abs
namespace Go.Abs
theorem Mg (xss:List LI) (k:Nat):(xss.take k).flatten.length<=xss.flatten.length:=by
 conv=>rhs;rw [<-UK k xss,List.flatten_append,Ym]
 omega
end Go.Abs
namespace Go.Abs
theorem H6 {xss:List LI} {k:Nat} {x:LI} (h:xss[k]? = some x):(xss.take (k+1)).flatten=(xss.take k).flatten++x:=by rw [We h,List.flatten_append];simp
theorem Mf {xss:List LI} {k:Nat} {x:LI} (h:xss[k]? = some x):(xss.take k).flatten.length+x.length<=xss.flatten.length:=by
 have:=Mg xss (k+1)
 rw [H6 h,Ym] at this
 exact this
end Go.Abs
end
section
namespace Go.Abs
theorem SG {c:Int} {ds:List Zd} {k:Nat} {d:Zd} {r:Int × LI} (h:ds[k]? = some d) (hn:¬(c-Yy (ds.take k)>=0/\c-Yy (ds.take k)<d.cons.length))
  (hr:Ux c (ds.drop k) k (Yy (ds.take k))=r):Ux c (ds.drop (k+1)) (k+1) (Yy (ds.take (k+1)))=r:=by
 rw [Y3 h,Ux,Z9 om] at hr
 rw [We h,CH,<-hr];rfl
end Go.Abs
namespace Go.Abs
theorem SJ {c:Int} {ds:List Zd} {k:Nat} {d:Zd} {x:Y1} (h:ds[k]? = some d) (hn:c-Yy (ds.take k)>=0/\c-Yy (ds.take k)<d.cons.length)
  (hx:d.cons[(c-Yy (ds.take k)).toNat]? = some x):Ux c (ds.drop k) k (Yy (ds.take k))=((k:Int)+1,x.fields):=by
 rw [Y3 h,Ux,Zk om,hx];rfl
def A8 (c:Int) (z:Nat) (v:Int):Prop:=v=c-z∨(c<0/\c-z < -9223372036854775808/\v=c-z+18446744073709551616)
theorem RY {c:Int} {z l:Nat} {v:Int} (h:A8 c z v) (hz:z<=100) (hl:l<=3) (hc:-9223372036854775808<=c/\c<=9223372036854775807):A8 c (z+l) (Bz (v-l)):=by
 unfold A8 at *;rw [Bz,IntKind.wrap_i64];omega
theorem SH {c v:Int} {ds:List Zd} {k:Nat} {d:Zd} {r:Int × LI} (h:ds[k]? = some d) (ha:A8 c (Yy (ds.take k)) v) (hn:¬(v>=0/\v<d.cons.length))
  (hr:Ux c (ds.drop k) k (Yy (ds.take k))=r):Ux c (ds.drop (k+1)) (k+1) (Yy (ds.take (k+1)))=r:=SG h (by unfold A8 at ha;omega) hr
theorem SK {c v:Int} {ds:List Zd} {k:Nat} {d:Zd} {x:Y1} (h:ds[k]? = some d) (ha:A8 c (Yy (ds.take k)) v) (hz:Yy (ds.take k)<=100) (hl:d.cons.length<=3) (hc:-9223372036854775808<=c)
  (hn:v>=0/\v<d.cons.length) (hx:d.cons[v.toNat]? = some x):Ux c (ds.drop k) k (Yy (ds.take k))=((k:Int)+1,x.fields):=by
 have:v=c-(Yy (ds.take k):Int):=by unfold A8 at ha;omega
 subst this
 exact SJ h hn hx
def Ve (ds:List Zd) (t:Int):Zd:=if XE ds t=true then (ds[(t-1).toNat]?).getD ⟨0,0,[]⟩ else ⟨0,0,[]⟩
end Go.Abs
namespace Go.Abs
abbrev LK (ds:List Zd) (d:Zd):Prop:=
 (((¬(0<=d.frm/\d.frm<=ds.length))∨(¬(0<=d.to_/\d.to_<=ds.length)))∨((d.cons.length:Int)>3))∨(((d.cons.length:Int)>0)/\((d.frm≠0)∨(d.to_≠0)))
theorem Z0f {ds:List Zd} {d:Zd} {i:Nat} (h:LK ds d):U6 ds d i=false:=by
 rw [U6]
 split
 ·rw [Z9];rintro ⟨h1,h2,h3⟩
  rcases h with ((h|h)|h)|h<;>omega
 ·split
  ·rfl
  ·rcases h with ((h|h)|h)|h
   ·rw [decide_eq_false h];rfl
   ·rw [decide_eq_false h,Bool.and_false]
   ·omega
   ·omega
theorem Z0g {ds:List Zd} {d:Zd} {i:Nat} (hl:0<d.cons.length) (h:T6 ds.length d.cons=false):U6 ds d i=false:=by
 rw [U6,Zk hl];split
 ·exact h
 ·rfl
theorem Z0h {ds:List Zd} {d:Zd} {i:Nat} (hl:d.cons.length=0) (h:Q7 d (ds.take i)=true):U6 ds d i=false:=by
 rw [U6,Z9 om,Zk h]
theorem Z0i {ds:List Zd} {d:Zd} {i:Nat} (h1:¬LK ds d) (h2:T6 ds.length d.cons=true) (h3:d.cons.length=0->Q7 d (ds.take i)=false):U6 ds d i=true:=by
 rw [U6]
 have ha:0<=d.frm/\d.frm<=ds.length:=W7.1 fun q=>h1 (.inl (.inl (.inl q)))
 have hb:0<=d.to_/\d.to_<=ds.length:=W7.1 fun q=>h1 (.inl (.inl (.inr q)))
 have hc:¬(d.cons.length:Int)>3:=fun q=>h1 (.inl (.inr q))
 split
 ·rename_i hl
  have hd:¬(d.frm≠0∨d.to_≠0):=fun q=>h1 (.inr ⟨by omega,q⟩)
  rw [Zk ⟨by omega,by omega,by omega⟩];exact h2
 ·rw [Z9 (by rw [h3 om];simp),decide_eq_true ha,decide_eq_true hb];rfl
theorem IC {ds:List Zd} {k:Nat} {d:Zd} (h:ds[k]? = some d) (hA:U6 ds d k=false) (c:Uy ds (ds.drop k) k=Uy ds ds 0):false=Wu ds:=by
 rw [Wu,<-c,Y3 h,Uy,CI h,hA,Z9 (by simp),Bool.and_false]
theorem Zcy {ds:List Zd} {k:Nat} {d:Zd} {r:Bool} (h:ds[k]? = some d) (hA:U6 ds d k=true) (c:Uy ds (ds.drop k) k=r):Uy ds (ds.drop (k+1)) (k+1)=r:=by
 rw [Y3 h,Uy,CI h,hA,Zk rfl] at c;exact c
theorem Zcx {ds:List Zd} {k:Nat} (hl:ds.length<=4) (hk:ds.length<=k) (c:Uy ds (ds.drop k) k=Uy ds ds 0):true=Wu ds:=by
 rw [Wu,<-c,X5 hk,decide_eq_true hl];rfl
theorem SM {m:Nat} {c:Y1} (h:((c.fields.length:Int)>3)∨(¬(XU m c.fields=true))):Kl m c=false:=by
 rw [Kl]
 rcases h with h|h
 ·rw [decide_eq_false om];rfl
 ·rw [Qs.2 h,Bool.and_false]
theorem SN {m:Nat} {c:Y1} (h:¬(((c.fields.length:Int)>3)∨(¬(XU m c.fields=true)))):Kl m c=true:=by
 rw [Kl,W7.1 fun q=>h (.inr q),decide_eq_true (by have:¬(c.fields.length:Int)>3:=fun q=>h (.inl q);omega)];rfl
end Go.Abs
end
section
namespace Go.Abs
structure WG where
 pms:LI
 lnt:LI
 res:Int
abbrev Nk (f:WG):List AV:=[Z6 f.pms,Z6 f.lnt,.i f.res]
abbrev Ge (f:WG):AV:=.agg (Nk f)
def UP (fs:List WG):List AV:=fs.map Ge
abbrev Cd (xs:List WG):AV:=.sl (UP xs) none
abbrev Fg (xs:List WG) (v:Value):AV:=.sl (UP xs) (some v)
theorem BS {xs:List WG} {j:Nat} {x:WG} (h:xs[j]? = some x):(UP xs)[j]? = some (Ge x):=by simp [UP,h]
@[simp] theorem CM (xs:List WG):(UP xs).length=xs.length:=by simp [UP]
theorem LP (xs:List WG):∀y∈UP xs,y.leaves.length=3:=by intro y hy;simp only [UP,Xy] at hy;obtain ⟨x,_,rfl⟩:=hy;rfl
theorem Z14 (xs:List WG):(Ze (UP xs)).all AV.one=true:=J4 fun y hy=>by simp only [UP,Xy] at hy;obtain ⟨x,_,rfl⟩:=hy;rfl
def XG (r:ZX):WG:=⟨r.params,r.lent,r.result⟩
def Je (m:Nat) (f:WG):Bool:=QH m ⟨f.pms,f.res⟩&&KH f.pms f.lnt
def QI (m:Nat):List WG->Bool
 | []=>true
 | f::r=>if Je m f=true then QI m r else false
def H1:List WG->Bool
 | []=>false
 | f::_=>decide (f.pms.length=0)&&decide (f.res=0)
def Ke (ds:List Zd) (fs:List WG):Bool:=Wu ds&&(decide (1<=fs.length/\fs.length<=4)&&(H1 fs&&QI ds.length fs))
theorem M7 {fs:List WG} {x:WG} (h:fs[0]? = some x):H1 fs=(decide (x.pms.length=0)&&decide (x.res=0)):=by
 cases fs with
 | nil=>simp at h
 | cons f r=>simp at h;subst h;rfl
theorem Pa (m:Nat):∀rs:List ZX,QI m (rs.map XG)=(Kb m (rs.map Vq)&&Qg rs)
 | []=>rfl
 | r::rs=>by
  simp only [VX,QI,Kb,Qg,Je,Pa m rs]
  simp only [XG,Vq]
  by_cases h1:QH m { params:=r.params,result:=r.result }=true<;>by_cases h2:KH r.params r.lent=true<;>simp [h1,h2]
theorem NJ (n:Zq):VT n=(decide (n.routines.length<=4)&&Ke n.decls (n.routines.map XG)):=by
 have hf:H1 (n.routines.map XG)=Eu (n.routines.map Vq):=by
  cases n.routines with
  | nil=>rfl
  | cons r rs=>rfl
 rw [VT,Ke,Qr,Pa,hf]
 simp only [QN]
 cases decide (n.routines.length<=4)<;>cases Wu n.decls<;>cases decide (1<=n.routines.length/\n.routines.length<=4)<;>cases Kb n.decls.length (n.routines.map Vq) <;>
  cases Eu (n.routines.map Vq)<;>cases Qg n.routines<;>rfl
theorem FB {rs:List ZX} {j:Nat} {x:WG} (h:(rs.map XG)[j]? = some x):∃r,rs[j]? = some r/\x=XG r:=by
 rw [Ki] at h
 cases hr:rs[j]? with
 | none=>rw [hr] at h;cases h
 | some r=>rw [hr] at h;cases h;exact ⟨r,rfl,rfl⟩
theorem Ny {ps ls:LI} {j:Nat} {v:Int} {r:Bool} (h:ls[j]? = some v) (hg:(0<=v/\v<=(ps.length:Int)-1)/\ps[v.toNat]?≠some 0/\(∀p,(if j=0 then none else ls[j-1]?)=some p->p<v))
  (hr:QF ps (ls.drop j) (if j=0 then none else ls[j-1]?)=r):QF ps (ls.drop (j+1)) (if j+1=0 then none else ls[j+1-1]?)=r:=by
 rw [Y3 h,HK hg] at hr
 rw [Z9 om,show j+1-1=j from rfl,h];exact hr
theorem HL {ps ls:LI} {j:Nat} {v:Int} {r:Bool} (h:ls[j]? = some v) (hg:¬((0<=v/\v<=(ps.length:Int)-1)/\ps[v.toNat]?≠some 0/\(∀p,(if j=0 then none else ls[j-1]?)=some p->p<v)))
  (hr:QF ps (ls.drop j) (if j=0 then none else ls[j-1]?)=r):r=false:=by
 rw [Y3 h,F9 hg] at hr;exact hr.symm
theorem FC {m:Nat} {fs:List WG} {k:Nat} {f:WG} {r:Bool} (h:fs[k]? = some f) (hb:Je m f=false) (hr:QI m (fs.drop k)=r):r=false:=by
 rw [Y3 h,QI,hb,Z9 (by simp)] at hr;exact hr.symm
theorem Za8 {m:Nat} {fs:List WG} {k:Nat} {f:WG} {r:Bool} (h:fs[k]? = some f) (hb:Je m f=true) (hr:QI m (fs.drop k)=r):QI m (fs.drop (k+1))=r:=by
 rw [Y3 h,QI,Zk hb] at hr;exact hr
end Go.Abs
namespace Go.Abs
section
variable {ds:List Zd} {fs:List WG} {x:WG}
theorem Zd2 (h:((¬(Wu ds=true))∨((fs.length:Int)<1))∨((fs.length:Int)>4)):false=Ke ds fs:=by
 rw [Ke]
 rcases h with (h|h)|h
 ·rw [Qs.2 h];rfl
 ·rw [decide_eq_false (p:=1<=fs.length/\fs.length<=4) om];simp
 ·rw [decide_eq_false (p:=1<=fs.length/\fs.length<=4) om];simp
theorem R9 (hx:fs[0]? = some x) (h:((x.pms.length:Int)>0)∨x.res≠0):false=Ke ds fs:=by
 rw [Ke,M7 hx]
 rcases h with h|h
 ·rw [decide_eq_false (p:=x.pms.length=0) om];simp
 ·rw [decide_eq_false (p:=x.res=0) h];simp
theorem FW (h:QI ds.length fs=false):false=Ke ds fs:=by rw [Ke,h];simp
theorem Zd3 (h:¬(((¬(Wu ds=true))∨((fs.length:Int)<1))∨((fs.length:Int)>4))) (hx:fs[0]? = some x) (h1:¬((x.pms.length:Int)>0)) (h2:¬x.res≠0) (h3:QI ds.length fs=true) :
  true=Ke ds fs:=by
 have hv:Wu ds=true:=W7.1 fun q=>h (.inl (.inl q))
 have ha:¬(fs.length:Int)<1:=fun q=>h (.inl (.inr q))
 have hb:¬(fs.length:Int)>4:=fun q=>h (.inr q)
 rw [Ke,M7 hx,hv,h3,decide_eq_true (p:=1<=fs.length/\fs.length<=4) om,decide_eq_true (p:=x.pms.length=0) om,decide_eq_true (p:=x.res=0) (W7.1 h2)];rfl
abbrev P9 (m:Nat) (x:WG):Prop:=(((x.pms.length:Int)>3)∨(¬(XU m x.pms=true)))∨(¬(0<=x.res/\x.res<=m))
theorem Z9o {m:Nat} (h:P9 m x):Je m x=false:=by
 rw [Je,QH]
 rcases h with (h|h)|h
 ·rw [decide_eq_false (p:=x.pms.length<=3) om];simp
 ·rw [Qs.2 h];simp
 ·rw [decide_eq_false h];simp
theorem I8 {m:Nat} (h:KH x.pms x.lnt=false):Je m x=false:=by rw [Je,h,Bool.and_false]
theorem Z9p {m:Nat} (h:¬P9 m x) (hl:KH x.pms x.lnt=true):Je m x=true:=by
 have h1:¬(x.pms.length:Int)>3:=fun q=>h (.inl (.inl q))
 rw [Je,QH,hl,decide_eq_true (p:=x.pms.length<=3) om,W7.1 fun q=>h (.inl (.inr q)),decide_eq_true (W7.1 fun q=>h (.inr q))];rfl
end
end Go.Abs
namespace Go.Abs
abbrev Ts (n:Zq):AV:=Cd (n.routines.map XG)
end Go.Abs
end
section
namespace Go.Abs
def XV (us:LI):LI->Option LI
 | []=>some []
 | a::r=>match Xc us a with
  | none=>none
  | some t=>match XV us r with
   | none=>none
   | some ts=>some (t::ts)
theorem Iz {us:LI}:∀{args ts:LI},XV us args=some ts->∀tys,XL us args tys=true↔ts=tys
 | [],ts,h,tys=>by
  rw [XV] at h;cases h
  cases tys with
  | nil=>simp [XL,T2]
  | cons t r=>simp [XL,T2]
 | a::r,ts,h,tys=>by
  rw [XV] at h
  cases ha:Xc us a with
  | none=>rw [ha] at h;cases h
  | some t=>
   rw [ha] at h
   cases hr:XV us r with
   | none=>rw [hr] at h;cases h
   | some tr=>
    rw [hr] at h;cases h
    cases tys with
    | nil=>simp [XL,T2]
    | cons t2 r2=>
     rw [XL,T2,ha]
     have:=Iz hr r2
     rw [XL] at this
     by_cases he:t=t2
     ·subst he;simp [this]
     ·rw [Z9 (fun q=>he (A7 q))];simp [he]
theorem IY {us:LI}:∀{args ts:LI},XV us args=some ts->ts.length=args.length
 | [],ts,h=>by rw [XV] at h;cases h;rfl
 | a::r,ts,h=>by
  rw [XV] at h
  cases ha:Xc us a with
  | none=>rw [ha] at h;cases h
  | some t=>
   rw [ha] at h
   cases hr:XV us r with
   | none=>rw [hr] at h;cases h
   | some tr=>rw [hr] at h;cases h;simp [IY hr]
theorem IZ {us:LI} {b t:Int}:∀{xs ts:LI},XV us xs=some ts->Xc us b=some t->XV us (xs++[b])=some (ts++[t])
 | [],ts,h,hb=>by rw [XV] at h;cases h;simp [XV,hb]
 | a::r,ts,h,hb=>by
  rw [XV] at h
  cases ha:Xc us a with
  | none=>rw [ha] at h;cases h
  | some u=>
   rw [ha] at h
   cases hr:XV us r with
   | none=>rw [hr] at h;cases h
   | some tr=>
    rw [hr] at h;cases h
    rw [Tx,XV,ha,IZ hr hb];rfl
def CA (n:Zq) (num:Int):LI->Option Int
 | [a,b]=>if XE n.decls a=true/\b=(Ve n.decls a).frm/\num=0 then some (Ve n.decls a).to_ else none
 | _=>none
def Xp (n:Zq) (op num:Int) (ts:LI):Option Int:=
 if op=0 then (if (-999<=num/\num<=999)/\ts.length=0 then some 0 else none)
 else if op=1∨op=2∨op=3∨op=4 then (if num=0/\ts=[0,0] then some 0 else none)
 else if op=5 then (if num=0/\ts=[0] then some 0 else none)
 else if op=11 then CA n num ts
 else if op=6 then (if 0<=XP n.decls num/\ts=ZP n.decls num then some (XP n.decls num) else none)
 else if op=9 then (match Xc n.routines num with
  | none=>none
  | some r=>if ts=r.params then some r.result else none)
 else if op=10 then (match Xc n.routines num with
  | none=>none
  | some r=>if r.params.length≠0/\0<=QV n.decls r.params r.result/\ts=r.params.take (r.params.length-1) then some (QV n.decls r.params r.result) else none)
 else none
theorem DZ {n:Zq} {num:Int} {ts:LI} (h:ts.length≠2):CA n num ts=none:=by
 match ts,h with
 | [],_=>rfl
 | [_],_=>rfl
 | [_,_],h=>simp at h
 | _::_::_::_,_=>rfl
structure BE (n:Zq):Prop where
 result:∀r∈n.routines,0<=r.result
 params:∀r∈n.routines,∀p∈r.params,0<=p
 decl:∀d∈n.decls,d.cons.length=0->0<=d.frm/\0<=d.to_
 fields:∀c,∀f∈ZP n.decls c,0<=f
abbrev MW (us:LI) (s:Z3):Prop:=s.into≠0/\(((s.op≠6∨s.into<1)∨s.into>us.length)∨gI us (s.into-1)=0)
theorem Z5r {us:LI} {op into:Int} (hnn:∀t∈us,0<=t) (h:¬(into≠0/\(((op≠6∨into<1)∨into>us.length)∨gI us (into-1)=0))):VM us op into=true:=by
 rw [VM]
 split
 ·rfl
 ·rename_i h0
  have h1:¬(((op≠6∨into<1)∨into>us.length)∨gI us (into-1)=0):=fun q=>h ⟨h0,q⟩
  have h2:op=6:=W7.1 fun q=>h1 (.inl (.inl (.inl q)))
  have h3:¬into<1:=fun q=>h1 (.inl (.inl (.inr q)))
  have h4:¬into>us.length:=fun q=>h1 (.inl (.inr q))
  have h5:¬gI us (into-1)=0:=fun q=>h1 (.inr q)
  obtain ⟨t,ht⟩:=J7 (xs:=us) (j:=(into-1).toNat) om
  rw [Zk h2,TO om ht]
  rw [UR ht] at h5
  have:=hnn t (Y0 ht)
  simp;omega
theorem Z5q {us:LI} {op into:Int} (h:into≠0/\(((op≠6∨into<1)∨into>us.length)∨gI us (into-1)=0)):VM us op into=false:=by
 obtain ⟨h0,h⟩:=h
 rw [VM,Z9 h0]
 split
 ·rename_i h6
  cases ha:Xc us (into-1) with
  | none=>rfl
  | some t=>
   obtain ⟨a1,a2⟩:=Ah ha
   rcases h with ((h|h)|h)|h
   ·exact absurd h6 h
   ·omega
   ·omega
   ·rw [UR a2] at h;subst h;rfl
 ·rfl
theorem Zca {n:Zq} {us:LI} {s:Z3} (h:MW us s):Y5 n us s=-1:=by
 rw [JY,Zk (.inr (.inl (by rw [Z5q h];simp)))]
end Go.Abs
namespace Go.Abs
theorem Z5s {α:Type} {c:Prop} [Decidable c] {v:α}:(if c then some v else none).isSome=decide c:=by split<;>simp_all
theorem Za9 {n:Zq} (hty:BE n) {op num:Int} {ts:LI} {x:Int} (h:Xp n op num ts=some x):0<=x:=by
 unfold Xp at h
 split at h
 ·split at h<;>cases h;exact Int.le_refl 0
 split at h
 ·split at h<;>cases h;exact Int.le_refl 0
 split at h
 ·split at h<;>cases h;exact Int.le_refl 0
 split at h
 ·rcases ts with _|⟨a,_|⟨b,_|⟨c,r⟩⟩⟩
  ·cases h
  ·cases h
  ·rw [CA] at h
   split at h
   ·rename_i hq
    cases h
    rw [Ve,Zk hq.1]
    have hA:=hq.1
    simp only [XE,XI,decide_eq_true_eq] at hA
    cases hd:n.decls[(a-1).toNat]? with
    | none=>rw [hd] at hA;simp at hA
    | some d=>
     rw [hd] at hA
     exact (hty.decl d (Y0 hd) (by simpa using hA.2)).2
   ·cases h
  ·cases h
 split at h
 ·split at h
  ·rename_i hq;cases h;exact hq.1
  ·cases h
 split at h
 ·cases ha:Xc n.routines num with
  | none=>rw [ha] at h;cases h
  | some r=>
   rw [ha] at h
   simp only at h
   split at h
   ·cases h;exact hty.result r (Y0 (Ah ha).2)
   ·cases h
 split at h
 ·cases ha:Xc n.routines num with
  | none=>rw [ha] at h;cases h
  | some r=>
   rw [ha] at h
   simp only at h
   split at h
   ·rename_i hq;cases h;exact hq.2.1
   ·cases h
 ·cases h
def Kc (n:Zq) (us:LI) (s:Z3) (ts:LI):Int:=
 if Y8 s.op=true then (match ts with
  | [t]=>if t≠0/\s.num=0/\s.kids.length=0/\¬((s.op=16∨s.op=17)/\XE n.decls t=true) then 0 else -1
  | _=>-1)
 else if s.op=7 then (if ts=[0]/\s.num=0 then UV n us s.op s.num s.kids else -1)
 else if s.op=8 then (if ts=[s.num] then UV n us s.op s.num s.kids else -1)
 else if 0<s.kids.length∨(s.op=10/\0<(((Xc n.routines s.num).map (·.lent)).getD []).length) then -1
 else (Xp n s.op s.num ts).getD (-1)
theorem MY {p q:Prop} [Decidable p] [Decidable q] {a b:Int} (h:p↔q):ite p a b=ite q a b:=by
 by_cases hp:p
 ·rw [Zk hp,Zk (h.1 hp)]
 ·rw [Z9 hp,Z9 (fun z=>hp (h.2 z))]
theorem AP {n:Zq} {us:LI} {s:Z3} {ts:LI} (hnn:∀t∈us,0<=t) (hts:XV us s.args=some ts) (hi:¬MW us s):Y5 n us s=Kc n us s ts:=by
 have hv:=Z5r hnn hi
 have ht:=Iz hts
 have hl:=IY hts
 have hfirst:((s.num≠0/\¬V5 s.op=true)∨¬VM us s.op s.into=true∨(0<s.kids.length/\s.op≠7/\s.op≠8))↔((s.num≠0/\¬V5 s.op=true)∨(0<s.kids.length/\s.op≠7/\s.op≠8)):=by
  rw [hv];simp
 rw [JY,MY hfirst]
 unfold Kc
 by_cases hc:Y8 s.op=true
 ·have hop:14<=s.op/\s.op<=17:=by simpa [Y8] using hc
  have hnum:V5 s.op=false:=by simp [V5];omega
  rw [Zk hc]
  by_cases hb:s.num≠0∨0<s.kids.length
  ·rw [Zk (by rcases hb with hb|hb;exact .inl ⟨hb,by rw [hnum];simp⟩;exact .inr ⟨hb,by omega,by omega⟩)]
   split
   ·rw [Z9];rintro ⟨h1,h2,h3,h4⟩;omega
   ·rfl
  ·rw [Z9 (by rintro (⟨h1,_⟩|⟨h1,_⟩)<;>exact hb (by first|exact .inl h1|exact .inr h1)),Z9 om,Z9 om,Z9 om,Z9 om,Z9 om,Z9 om,Z9 om,Z9 om,Zk om]
   have Zf:s.num=0:=W7.1 fun q=>hb (.inl q)
   have ZH:s.kids.length=0:=by have:¬0<s.kids.length:=fun q=>hb (.inr q);omega
   rcases he:s.args with _|⟨a,_|⟨b,r⟩⟩
   ·rw [he] at hts;rw [XV] at hts;cases hts;rfl
   ·rw [he] at hts
    rw [XV] at hts
    cases ha:Xc us a with
    | none=>rw [ha] at hts;cases hts
    | some t=>
     rw [ha,XV] at hts;cases hts
     rw [TP,ha]
     simp only
     by_cases ht0:t=0
     ·rw [Zk ht0,Z9 (fun q=>q.1 ht0)]
     ·rw [Z9 ht0]
      by_cases hA:XE n.decls t=true
      ·by_cases h16:s.op=16∨s.op=17
       ·rw [Zk ⟨by omega,hA⟩,Z9 (fun q=>q.2.2.2 ⟨h16,hA⟩)]
       ·rw [Z9 (by rintro ⟨q,_⟩;omega),Zk ⟨ht0,Zf,ZH,fun q=>h16 q.1⟩]
      ·rw [Z9 (fun q=>hA q.2),Zk ⟨ht0,Zf,ZH,fun q=>hA q.2⟩]
   ·rw [he] at hl
    rw [show TP n.decls us s.op (a::b::r)=-1 from rfl]
    match ts,hl with
    | [t],hl=>simp at hl
    | [],hl=>simp at hl
    | _::_::_,_=>rfl
 have hop:¬(14<=s.op/\s.op<=17):=by simpa [Y8] using hc
 by_cases h7:s.op=7
 ·have hnum:V5 s.op=false:=by simp [V5];omega
  conv=>rhs;rw [Z9 hc,Zk h7]
  by_cases hb:s.num=0
  ·rw [Z9 (fun q=>q.elim (fun z=>z.1 hb) fun z=>z.2.1 h7),Z9 om,Z9 om,Z9 om,Z9 om,Zk h7]
   by_cases hq:ts=[0]
   ·rw [Zk ((ht _).2 hq),Zk ⟨hq,hb⟩]
   ·rw [Z9 (fun q=>hq ((ht _).1 q)),Z9 (fun q=>hq q.1)]
  ·rw [Zk (.inl ⟨hb,by rw [hnum];simp⟩),Z9 (fun q=>hb q.2)]
 by_cases h8:s.op=8
 ·have hnum:V5 s.op=true:=by simp [V5,h8]
  conv=>rhs;rw [Z9 hc,Z9 h7,Zk h8]
  rw [Z9 (fun q=>q.elim (fun z=>z.2 hnum) fun z=>z.2.2 h8),Z9 om,Z9 om,Z9 om,Z9 om,Z9 h7,Zk h8]
  by_cases hq:ts=[s.num]
  ·rw [Zk ((ht _).2 hq),Zk hq]
  ·rw [Z9 (fun q=>hq ((ht _).1 q)),Z9 hq]
 conv=>rhs;rw [Z9 hc,Z9 h7,Z9 h8]
 by_cases hk:0<s.kids.length
 ·rw [Zk (.inr ⟨hk,h7,h8⟩),Zk (.inl hk)]
 by_cases hlent:s.op=10/\0<(((Xc n.routines s.num).map (·.lent)).getD []).length
 ·conv=>rhs;rw [Zk (.inr hlent)]
  have hnum:V5 s.op=true:=by simp [V5,hlent.1]
  have h10:=hlent.1
  rw [Z9 (fun q=>q.elim (fun z=>z.2 hnum) fun z=>hk z.1),Z9 om,Z9 om,Z9 om,Z9 om,Z9 h7,Z9 h8,Zk (.inr h10),T0]
  cases ha:Xc n.routines s.num with
  | none=>rfl
  | some r=>
   have h2:=hlent.2
   rw [ha] at h2
   simp only [AX,Option.getD_some] at h2
   simp only
   rw [K9,Z9 om,Zk (.inr (.inl h2))]
 conv=>rhs;rw [Z9 (fun q=>Or.elim q hk hlent)]
 have sf:∀{X:Option Int},Xp n s.op s.num ts=X->Y5 n us s=X.getD (-1)->Y5 n us s=(Xp n s.op s.num ts).getD (-1):=fun a b=>by rw [a];exact b
 have hL:=JY n us s
 rw [MY hfirst] at hL
 rw [<-hL]
 by_cases hnb:s.num≠0/\¬V5 s.op=true
 ·have hnn2:¬(s.op=0∨(s.op=6∨(s.op=8∨(s.op=9∨s.op=10)))):=fun q=>hnb.2 (by simpa [V5] using q)
  refine sf (X:=none) ?_ (by rw [hL,Zk (.inl hnb)];rfl)
  unfold Xp
  rw [Z9 om]
  split
  ·rw [Z9 (fun q=>hnb.1 q.1)]
  split
  ·rw [Z9 (fun q=>hnb.1 q.1)]
  split
  ·by_cases hl2:ts.length=2
   ·match ts,hl2 with
    | [a,b],_=>exact Z9 fun q=>hnb.1 q.2.2
   ·exact DZ hl2
  rw [Z9 om,Z9 om,Z9 om]
 rw [Z9 (fun q=>q.elim hnb fun z=>hk z.1)] at hL
 have hnumf:¬(s.op=0∨(s.op=6∨(s.op=8∨(s.op=9∨s.op=10))))->s.num=0:=fun q=>W7.1 fun z=>hnb ⟨z,fun y=>q (by simpa [V5] using y)⟩
 by_cases h0:s.op=0
 ·rw [Zk h0] at hL
  by_cases hq:s.args.length=0/\(-999<=s.num/\s.num<=999)
  ·exact sf (by unfold Xp;rw [Zk h0,Zk ⟨hq.2,by omega⟩]) (by rw [hL,Zk hq];rfl)
  ·exact sf (by unfold Xp;rw [Zk h0,Z9 (fun q=>hq ⟨by omega,q.1⟩)]) (by rw [hL,Z9 hq];rfl)
 rw [Z9 h0] at hL
 by_cases h1:s.op=1∨s.op=2∨s.op=3∨s.op=4
 ·rw [Zk h1] at hL
  by_cases hq:ts=[0,0]
  ·exact sf (by unfold Xp;rw [Z9 h0,Zk h1,Zk ⟨hnumf om,hq⟩]) (by rw [hL,Zk ((ht _).2 hq)];rfl)
  ·exact sf (by unfold Xp;rw [Z9 h0,Zk h1,Z9 (fun q=>hq q.2)]) (by rw [hL,Z9 (fun q=>hq ((ht _).1 q))];rfl)
 rw [Z9 h1] at hL
 by_cases h5:s.op=5
 ·rw [Zk h5] at hL
  by_cases hq:ts=[0]
  ·exact sf (by unfold Xp;rw [Z9 h0,Z9 h1,Zk h5,Zk ⟨hnumf om,hq⟩]) (by rw [hL,Zk ((ht _).2 hq)];rfl)
  ·exact sf (by unfold Xp;rw [Z9 h0,Z9 h1,Zk h5,Z9 (fun q=>hq q.2)]) (by rw [hL,Z9 (fun q=>hq ((ht _).1 q))];rfl)
 rw [Z9 h5] at hL
 by_cases h6:s.op=6
 ·rw [Zk h6] at hL
  have hct:0<XP n.decls s.num↔0<=XP n.decls s.num:=by
   rcases Int.lt_or_le (XP n.decls s.num) 1 with q|q
   ·have:=(Ed q).2;omega
   ·omega
  by_cases hq:0<=XP n.decls s.num/\ts=ZP n.decls s.num
  ·exact sf (by unfold Xp;rw [Z9 h0,Z9 h1,Z9 h5,Z9 om,Zk h6,Zk hq]) (by rw [hL,Zk ⟨hct.2 hq.1,(ht _).2 hq.2⟩];rfl)
  ·exact sf (by unfold Xp;rw [Z9 h0,Z9 h1,Z9 h5,Z9 om,Zk h6,Z9 hq]) (by rw [hL,Z9 (fun q=>hq ⟨hct.1 q.1,(ht _).1 q.2⟩)];rfl)
 rw [Z9 h6,Z9 h7,Z9 h8] at hL
 by_cases h9:s.op=9
 ·rw [Zk (.inl h9),T0] at hL
  cases ha:Xc n.routines s.num with
  | none=>exact sf (by unfold Xp;rw [Z9 h0,Z9 h1,Z9 h5,Z9 om,Z9 h6,Zk h9,ha]) (by rw [hL,ha];rfl)
  | some r=>
   rw [ha] at hL
   simp only at hL
   rw [K9,Zk h9] at hL
   have hF:∀{X:Option Int},(if ts=r.params then some r.result else none)=X->Xp n s.op s.num ts=X:=fun q=>by
    unfold Xp;rw [Z9 h0,Z9 h1,Z9 h5,Z9 om,Z9 h6,Zk h9,ha];exact q
   by_cases hq:ts=r.params
   ·exact sf (hF (Zk hq)) (by rw [hL,Zk ((ht _).2 hq)];rfl)
   ·exact sf (hF (Z9 hq)) (by rw [hL,Z9 (fun q=>hq ((ht _).1 q))];rfl)
 by_cases h10:s.op=10
 ·rw [Zk (.inr h10),T0] at hL
  cases ha:Xc n.routines s.num with
  | none=>exact sf (by unfold Xp;rw [Z9 h0,Z9 h1,Z9 h5,Z9 om,Z9 h6,Z9 h9,Zk h10,ha]) (by rw [hL,ha];rfl)
  | some r=>
   rw [ha] at hL hlent
   simp only [AX,Option.getD_some] at hL hlent
   rw [K9,Z9 h9] at hL
   have hF:∀{X:Option Int},(if r.params.length≠0/\0<=QV n.decls r.params r.result/\ts=r.params.take (r.params.length-1) then some (QV n.decls r.params r.result) else none)=X->Xp n s.op s.num ts=X:=fun q=>by
    unfold Xp;rw [Z9 h0,Z9 h1,Z9 h5,Z9 om,Z9 h6,Z9 h9,Zk h10,ha];exact q
   by_cases hp:r.params.length=0
   ·exact sf (hF (Z9 fun q=>q.1 hp)) (by rw [hL,Zk (.inl hp)];rfl)
   by_cases hq:ts=r.params.take (r.params.length-1)
   ·rw [Z9 (fun z=>z.elim hp fun z=>z.elim (fun z=>hlent ⟨h10,z⟩) fun z=>z ((ht _).2 hq))] at hL
    by_cases har:0<=QV n.decls r.params r.result
    ·exact sf (hF (Zk ⟨hp,har,hq⟩)) hL
    ·refine sf (hF (Z9 fun q=>har q.2.1)) ?_
     have key:∀(l:List Zd) (i:Nat) (f t:Int),¬0<=Qx f t l i->Qx f t l i=-1:=by
      intro l
      induction l with
      | nil=>intro i f t _;rfl
      | cons d r ih=>
       intro i f t hn
       rw [Qx] at hn ⊢
       split
       ·rename_i hh;rw [Zk hh] at hn;omega
       ·rename_i hh;rw [Z9 hh] at hn;exact ih _ _ _ hn
     exact hL.trans (key _ _ _ _ har)
   ·exact sf (hF (Z9 fun q=>hq q.2.2)) (by rw [hL,Zk (.inr (.inr fun q=>hq ((ht _).1 q)))];rfl)
 rw [Z9 om] at hL
 by_cases h11:s.op=11
 ·rw [Zk h11] at hL
  have hn0:=hnumf om
  have hF:∀{X:Option Int},CA n s.num ts=X->Xp n s.op s.num ts=X:=fun q=>by
   unfold Xp;rw [Z9 h0,Z9 h1,Z9 h5,Zk h11];exact q
  rcases he:s.args with _|⟨a,_|⟨b,_|⟨c,r⟩⟩⟩
  ·rw [he] at hts hL;rw [XV] at hts;cases hts;exact sf (hF rfl) hL
  ·rw [he] at hl hL
   exact sf (hF (DZ (by simp at hl;omega))) hL
  ·rw [he] at hts hL
   rw [XV] at hts
   cases ha:Xc us a with
   | none=>rw [ha] at hts;cases hts
   | some t=>
    rw [ha,XV] at hts
    cases hb:Xc us b with
    | none=>rw [hb] at hts;cases hts
    | some t2=>
     rw [hb,XV] at hts;cases hts
     rw [Q5,ha] at hL
     simp only at hL
     by_cases hA:XE n.decls t=true
     ·rw [Zk hA] at hL
      have hA2:=hA
      simp only [XE,XI,decide_eq_true_eq] at hA2
      cases hd:n.decls[(t-1).toNat]? with
      | none=>rw [hd] at hA2;simp at hA2
      | some d=>
       rw [hd] at hL
       simp only at hL
       have hD:Ve n.decls t=d:=by rw [Ve,Zk hA,hd];rfl
       have h2:=Iz (us:=us) (args:=[b]) (ts:=[t2]) (by rw [XV,hb,XV]) [d.frm]
       by_cases hq:t2=d.frm
       ·exact sf (hF (Zk ⟨hA,by rw [hD];exact hq,hn0⟩)) (by rw [hL,Zk (h2.2 (by rw [hq])),hD];rfl)
       ·exact sf (hF (Z9 fun q=>hq (by rw [hD] at q;exact q.2.1))) (by rw [hL,Z9 (fun q=>hq (by simpa using h2.1 q))];rfl)
     ·exact sf (hF (Z9 fun q=>hA q.1)) (by rw [hL,Z9 hA];rfl)
  ·rw [he] at hl hL
   exact sf (hF (DZ (by simp at hl;omega))) hL
 rw [Z9 h11,Z9 om] at hL
 exact sf (X:=none) (by unfold Xp;rw [Z9 h0,Z9 h1,Z9 h5,Z9 h11,Z9 h6,Z9 h9,Z9 h10]) hL
end Go.Abs
namespace Go.Abs
theorem NP:∀(n:Nat) (f:Int) (k:Nat) (x:Int),(V6 f n)[k]? = some x->x=f+k/\k<n
 | 0,f,k,x,h=>by simp [V6] at h
 | n+1,f,k,x,h=>by
  rw [V6] at h
  cases k with
  | zero=>simp at h;subst h;exact ⟨by omega,by omega⟩
  | succ k=>have:=NP n (f+1) k x (by simpa using h);exact ⟨by omega,by omega⟩
theorem SP {ds:List Zd} (hd:XZ ds) {t:Int} {k:Nat} {x:Int} (h:(ZQ ds t)[k]? = some x):0<=x/\x<=100:=by
 rw [ZQ] at h
 split at h
 ·rename_i ht
  obtain ⟨d,hd1⟩:=J7 (xs:=ds) (j:=(t-1).toNat) om
  rw [hd1] at h
  have:=NP _ _ _ _ h
  have h3:=hd.cons_at hd1
  have h4:=(hd.take (t-1).toNat).sum
  simp only [AX,Option.getD_some] at this
  omega
 ·simp at h
end Go.Abs
namespace Go.Abs
section
variable {S:Option Int} {c:Prop} [Decidable c] {v:Int} {b:Bool}
theorem AH (h:S=if c then some v else none) (hb:b=true↔c):b=S.isSome:=by rw [h,Z5s,Xf,hb,decide_eq_true_iff]
theorem AI (h:S=if c then some v else none):∀x,S=some x->v=x:=by
 intro x hx;rw [h] at hx;split at hx
 ·exact A7 hx
 ·cases hx
theorem DC (h:S=none):false=S.isSome:=by rw [h];rfl
theorem DD (h:S=none):∀x,S=some x->v=x:=by intro x hx;rw [h] at hx;cases hx
end
section
variable {n:Zq} {op num:Int} {ts:LI}
theorem sf0 (h:op=0):Xp n op num ts=if (-999<=num/\num<=999)/\ts.length=0 then some 0 else none:=by unfold Xp;rw [Zk h]
theorem sf1 (h:op=1∨op=2∨op=3∨op=4):Xp n op num ts=if num=0/\ts=[0,0] then some 0 else none:=by unfold Xp;rw [Z9 om,Zk h]
theorem sf5 (h:op=5):Xp n op num ts=if num=0/\ts=[0] then some 0 else none:=by unfold Xp;rw [Z9 om,Z9 om,Zk h]
theorem P8 (h:op=11):Xp n op num ts=CA n num ts:=by unfold Xp;rw [Z9 om,Z9 om,Z9 om,Zk h]
theorem Za5 (h:op=11) (hl:(ts.length:Int)≠2):Xp n op num ts=none:=(P8 h).trans (DZ om)
theorem Ie (h:op=11) {a b:Int} (hl:¬(ts.length:Int)≠2) (ha:ts[0]? = some a) (hb:ts[1]? = some b) :
  Xp n op num ts=if XE n.decls a=true/\b=(Ve n.decls a).frm/\num=0 then some (Ve n.decls a).to_ else none:=by
 rw [P8 h]
 match ts,hl,ha,hb with
 | [x,y],_,ha,hb=>simp at ha hb;subst ha;subst hb;rfl
 | [],hl,_,_=>simp at hl
 | [_],hl,_,_=>simp at hl
 | _::_::_::_,hl,_,_=>simp at hl;omega
theorem Za4 (h:op=11) {a:Int} (hl:¬(ts.length:Int)≠2) (ha:ts[0]? = some a) (hn:¬XE n.decls a=true):Xp n op num ts=none:=by
 obtain ⟨b,hb⟩:=J7 (xs:=ts) (j:=1) om
 rw [Ie h hl ha hb,Z9 fun q=>hn q.1]
theorem sf6 (h:op=6):Xp n op num ts=if 0<=XP n.decls num/\ts=ZP n.decls num then some (XP n.decls num) else none:=by
 unfold Xp;rw [Z9 om,Z9 om,Z9 om,Z9 om,Zk h]
theorem Za6 (h:op=9∨op=10) (hr:num<0∨num>=(((n.routines.map XG).length:Nat):Int)):Xp n op num ts=none:=by
 have ha:Xc n.routines num=none:=Qy (by simp at hr;omega)
 unfold Xp
 rw [Z9 om,Z9 om,Z9 om,Z9 om,Z9 om]
 rcases h with h|h
 ·rw [Zk h,ha]
 ·rw [Z9 om,Zk h,ha]
theorem sf9 (h:op=9) {x:WG} (hr:¬(num<0∨num>=(((n.routines.map XG).length:Nat):Int))) (hx:(n.routines.map XG)[num.toNat]? = some x) :
  Xp n op num ts=if ts=x.pms then some x.res else none:=by
 obtain ⟨r,h1,rfl⟩:=FB hx
 have ha:Xc n.routines num=some r:=TO (by simp at hr;omega) h1
 unfold Xp
 rw [Z9 om,Z9 om,Z9 om,Z9 om,Z9 om,Zk h,ha];rfl
theorem Za3 (h:op=10) {x:WG} (hr:¬(num<0∨num>=(((n.routines.map XG).length:Nat):Int))) (hx:(n.routines.map XG)[num.toNat]? = some x) (hp:(x.pms.length:Int)-1<0) :
  Xp n op num ts=none:=by
 obtain ⟨r,h1,rfl⟩:=FB hx
 have ha:Xc n.routines num=some r:=TO (by simp at hr;omega) h1
 have hp':r.params.length=0:=by simp only [XG] at hp;omega
 unfold Xp
 rw [Z9 om,Z9 om,Z9 om,Z9 om,Z9 om,Z9 om,Zk h,ha]
 exact Z9 fun q=>q.1 hp'
theorem Za2 (h:op=10) {x:WG} {l:Int} (hr:¬(num<0∨num>=(((n.routines.map XG).length:Nat):Int))) (hx:(n.routines.map XG)[num.toNat]? = some x) (hp:¬(x.pms.length:Int)-1<0)
  (hl:x.pms[((x.pms.length:Int)-1).toNat]? = some l) :
  Xp n op num ts=if 0<=VO n.decls l x.res/\ts=x.pms.take ((x.pms.length:Int)-1).toNat then some (VO n.decls l x.res) else none:=by
 obtain ⟨r,h1,rfl⟩:=FB hx
 have ha:Xc n.routines num=some r:=TO (by simp at hr;omega) h1
 simp only [XG] at hp hl ⊢
 have hq:((r.params.length:Int)-1).toNat=r.params.length-1:=by omega
 have ht:r.params.take ((r.params.length:Int)-1).toNat=r.params.take (r.params.length-1):=Yc (fun k=>r.params.take k) hq
 have hl':r.params[r.params.length-1]? = some l:=by rw [<-hl];exact Yc (fun k=>r.params[k]?) hq.symm
 have hlast:QV n.decls r.params r.result=VO n.decls l r.result:=by rw [QV,MF hl']
 unfold Xp
 rw [Z9 om,Z9 om,Z9 om,Z9 om,Z9 om,Z9 om,Zk h,ha]
 simp only [hlast]
 by_cases hc:0<=VO n.decls l r.result/\ts=r.params.take (r.params.length-1)
 ·rw [Zk ⟨by omega,hc⟩]
  exact (Zk ⟨hc.1,hc.2.trans ht.symm⟩).symm
 ·rw [Z9 fun q=>hc q.2]
  exact (Z9 (fun q=>hc ⟨q.1,q.2.trans ht⟩)).symm
theorem sfd (h0:¬op=0) (h1:¬(op=1∨op=2∨op=3∨op=4)) (h5:¬op=5) (h11:¬op=11) (h6:¬op=6) (h9:¬(op=9∨op=10)):Xp n op num ts=none:=by
 unfold Xp;rw [Z9 h0,Z9 h1,Z9 h5,Z9 h11,Z9 h6,Z9 om,Z9 om]
end
end Go.Abs
end
namespace Go.Abs
mutual
def Z3.rng:Z3->Prop
 | .mk _ num _ _ kids=>(-9223372036854775808<=num/\num<=9223372036854775807)/\T5 kids
def Z5.rng:Z5->Prop
 | .mk steps _=>Tt steps
def Tt:List Z3->Prop
 | []=>True
 | s::r=>s.rng/\Tt r
def T5:List Z5->Prop
 | []=>True
 | b::r=>b.rng/\T5 r
end
theorem Z3.rng_eq (s:Z3):s.rng=((-9223372036854775808<=s.num/\s.num<=9223372036854775807)/\T5 s.kids):=by cases s;rw [Z3.rng];rfl
theorem Z5.rng_eq (b:Z5):b.rng=Tt b.steps:=by cases b;rw [Z5.rng];rfl
theorem Py:∀{xs:List Z3} {k:Nat} {s:Z3},Tt xs->xs[k]? = some s->s.rng
 | [],k,s,_,h=>by simp at h
 | x::r,0,s,hr,h=>by rw [Tt] at hr;simp at h;subst h;exact hr.1
 | x::r,k+1,s,hr,h=>by rw [Tt] at hr;exact Py (k:=k) hr.2 (by simpa using h)
theorem Le:∀{xs:List Z5} {k:Nat} {b:Z5},T5 xs->xs[k]? = some b->b.rng
 | [],k,s,_,h=>by simp at h
 | x::r,0,s,hr,h=>by rw [T5] at hr;simp at h;subst h;exact hr.1
 | x::r,k+1,s,hr,h=>by rw [T5] at hr;exact Le (k:=k) hr.2 (by simpa using h)
theorem IA {us:LI}:∀{args:LI},XV us args=none->∀tys,XL us args tys=false
 | [],h,tys=>by rw [XV] at h;cases h
 | a::r,h,tys=>by
  cases tys with
  | nil=>simp [XL,T2]
  | cons t ts=>
   rw [XV] at h
   rw [XL,T2]
   cases ha:Xc us a with
   | none=>simp
   | some u=>
    rw [ha] at h
    cases hr:XV us r with
    | none=>
     have:=IA hr ts
     rw [XL] at this
     by_cases he:u=t
     ·subst he;simpa using this
     ·rw [Z9 (fun q=>he (A7 q))]
    | some tr=>rw [hr] at h;cases h
theorem Zc9 {n:Zq} {us:LI} {s:Z3} (h:XV us s.args=none):Y5 n us s=-1:=by
 have ht:=IA h
 rw [JY]
 split
 ·rfl
 split
 ·rw [Z9];rintro ⟨q,_⟩
  have:s.args=[]:=List.length_eq_zero_iff.1 q
  rw [this,XV] at h;cases h
 split
 ·rw [Z9 (by rw [ht];simp)]
 split
 ·rw [Z9 (by rw [ht];simp)]
 split
 ·rw [Z9 (by rw [ht];simp)]
 split
 ·rw [Z9 (by rw [ht];simp)]
 split
 ·rw [Z9 (by rw [ht];simp)]
 split
 ·rw [T0]
  cases Xc n.routines s.num with
  | none=>rfl
  | some r=>
   simp only
   rw [K9]
   split
   ·rw [Z9 (by rw [ht];simp)]
   ·rw [Zk (.inr (.inr (by rw [ht];simp)))]
 split
 ·match hA:s.args with
  | []=>rfl
  | [_]=>rfl
  | [a,b]=>
   rw [Q5]
   rw [hA,XV] at h
   cases ha:Xc us a with
   | none=>rfl
   | some t=>
    rw [ha] at h
    simp only at h ⊢
    split
    ·cases n.decls[(t-1).toNat]? with
     | none=>rfl
     | some d=>
      simp only
      rw [Z9]
      cases hb:XV us [b] with
      | none=>rw [IA hb];simp
      | some tr=>rw [hb] at h;cases h
    ·rfl
  | _::_::_::_=>rfl
 split
 ·match hA:s.args with
  | []=>rfl
  | [a]=>
   rw [TP]
   rw [hA,XV] at h
   cases ha:Xc us a with
   | none=>rfl
   | some t=>rw [ha,XV] at h;cases h
  | _::_::_=>rfl
 ·rfl
theorem IX {us:LI} {a:Int}:∀{xs:LI} {k:Nat},xs[k]? = some a->Xc us a=none->XV us xs=none
 | [],k,h,_=>by simp at h
 | x::r,0,h,ha=>by simp at h;subst h;rw [XV,ha]
 | x::r,k+1,h,ha=>by
  have:=IX (xs:=r) (k:=k) (by simpa using h) ha
  rw [XV]
  cases Xc us x with
  | none=>rfl
  | some t=>simp only [this]
theorem Z68 {n:Zq} {us:LI} {ks:List Z5} {ms:List LI} (h:0<ks.length) (t:Int) :
  XS n us (ks.drop 0) (ms.drop 0) (decide (0=0)) t=XS n us ks ms true 0:=by
 cases ks with
 | nil=>simp at h
 | cons b bs=>
  cases ms with
  | nil=>rw [A3,A3,XS,XS]
  | cons m r=>
   simp only [A3,decide_true]
   rw [XS,XS];simp
theorem Li {b:Z5}:∀{ks:List Z5} {k:Nat},ks[k]? = some b->b.sz<=YG ks
 | [],k,h=>by simp at h
 | x::r,0,h=>by simp at h;subst h;rw [YG];omega
 | x::r,k+1,h=>by have:=Li (ks:=r) (k:=k) (by simpa using h);rw [YG];omega
theorem DJ (us m:LI):[us,m].flatten=us++m:=by simp
theorem Mk {xs:LI} {i:Int} (h:i.toNat<xs.length):xs[i.toNat]? = some (gI xs i):=by rw [gI,A5 h];rfl
theorem EA {xs:LI} (h:0<xs.length):xs[0]? = some (gI xs 0):=Mk (i:=0) h
def Qn (n:Zq) (num:Int):WG:=((n.routines.map XG)[num.toNat]?).getD ⟨[],[],0⟩
theorem Za7 {n:Zq} {i:Int} (h:i.toNat<(n.routines.map XG).length):(n.routines.map XG)[i.toNat]? = some (Qn n i):=by rw [Qn,A5 h];rfl
theorem NI {us m:LI} (h1:∀t∈us,0<=t) (h2:∀t∈m,0<=t):∀t∈us++m,0<=t:=fun t h=>(X4.1 h).elim (h1 t) (h2 t)
theorem Ag {us:LI} {args ts:LI} {k:Nat} (h:XV us (args.take k)=some ts) (hk:args.length<=k):XV us args=some ts:=by
 rw [WA hk] at h;exact h
theorem RP {us:LI} {args ts:LI} {k:Nat} {a t:Int} (h:XV us (args.take k)=some ts) (ha:args[k]? = some a) (ht:Xc us a=some t):XV us (args.take (k+1))=some (ts++[t]):=by
 rw [We ha];exact IZ h ht
theorem NT {ts:LI} (h:(ts.length:Int)=1):ts=[gI ts 0]:=by
 match ts,h with
 | [a],_=>rfl
section
variable {n:Zq} {us ts:LI} {s:Z3}
theorem JO {p1 p2 p3 p4 p5:Prop}:(p1/\(p2∨(p3∨(p4∨p5))))↔(p1/\(((p2∨p3)∨p4)∨p5)):=by simp only [or_assoc]
def Ea (n:Zq) (s:Z3) (ts:LI):Int:=match ts with
  | [t]=>if t≠0/\s.num=0/\s.kids.length=0/\¬((s.op=16∨s.op=17)/\XE n.decls t=true) then 0 else -1
  | _=>-1
theorem AO:Kc n us s ts =
 if Y8 s.op=true then Ea n s ts
 else if s.op=7 then (if ts=[0]/\s.num=0 then UV n us s.op s.num s.kids else -1)
 else if s.op=8 then (if ts=[s.num] then UV n us s.op s.num s.kids else -1)
 else if 0<s.kids.length∨(s.op=10/\0<(((Xc n.routines s.num).map (·.lent)).getD []).length) then -1
 else (Xp n s.op s.num ts).getD (-1):=by unfold Kc Ea;rfl
theorem Lx (h:(ts.length:Int)=1):Ea n s ts=if gI ts 0≠0/\s.num=0/\s.kids.length=0/\¬((s.op=16∨s.op=17)/\XE n.decls (gI ts 0)=true) then 0 else -1:=by
 match ts,h with
 | [a],_=>rfl
theorem SA (h:(ts.length:Int)≠1):Ea n s ts=-1:=by
 match ts,h with
 | [],_=>rfl
 | [a],h=>exact absurd rfl h
 | _::_::_,_=>rfl
theorem Zbr (hS:Y5 n us s=Kc n us s ts) (hc:Y8 s.op=true)
  (h:((((ts.length:Int)=1/\gI ts 0≠0)/\s.num=0)/\(s.kids.length:Int)=0)/\(s.op=16∨s.op=17)) :
  (!XE n.decls (gI ts 0))=decide (0<=Y5 n us s):=by
 obtain ⟨⟨⟨⟨h1,h2⟩,h3⟩,h4⟩,h5⟩:=h
 have h4':s.kids.length=0:=by omega
 rw [hS,AO,Zk hc,Lx h1]
 cases hA:XE n.decls (gI ts 0)
 ·rw [Zk ⟨h2,h3,h4',by simp⟩];rfl
 ·rw [Z9 (fun q=>q.2.2.2 ⟨h5,rfl⟩)];rfl
theorem Zbs (hS:Y5 n us s=Kc n us s ts) (hc:Y8 s.op=true)
  (h:¬(((((ts.length:Int)=1/\gI ts 0≠0)/\s.num=0)/\(s.kids.length:Int)=0)/\(s.op=16∨s.op=17))) :
  ((((((ts.length:Int)==1)&&(gI ts 0 != 0))&&(s.num==0))&&((s.kids.length:Int)==0)))=decide (0<=Y5 n us s):=by
 rw [hS,AO,Zk hc]
 by_cases h1:(ts.length:Int)=1
 ·rw [Lx h1]
  by_cases h2:(gI ts 0≠0/\s.num=0)/\(s.kids.length:Int)=0
  ·obtain ⟨⟨h2,h3⟩,h4⟩:=h2
   have h4':s.kids.length=0:=by omega
   rw [Zk ⟨h2,h3,h4',fun q=>h ⟨⟨⟨⟨h1,h2⟩,h3⟩,h4⟩,q.1⟩⟩,Zt.2 h1,Yg.2 h2,Zt.2 h3,Zt.2 h4];rfl
  ·rw [Z9 (fun q=>h2 ⟨⟨q.1,q.2.1⟩,by have:=q.2.2.1;omega⟩)]
   show _=false
   rw [Qs];intro q
   obtain ⟨⟨⟨_,q1⟩,q2⟩,q3⟩:=(YC (YC (YC Zt Yg) Zt) Zt).1 q
   exact h2 ⟨⟨q1,q2⟩,q3⟩
 ·rw [SA h1]
  show _=false
  rw [Qs];intro q
  obtain ⟨⟨⟨q1,_⟩,_⟩,_⟩:=(YC (YC (YC Zt Yg) Zt) Zt).1 q
  exact h1 q1
theorem Zbn (hS:Y5 n us s=Kc n us s ts) (hc:¬Y8 s.op=true) (h7:s.op=7)
  (h:(((ts.length:Int)≠1∨gI ts 0≠0)∨s.num≠0)∨(s.kids.length:Int)≠2):Y5 n us s=-1:=by
 rw [hS,AO,Z9 hc,Zk h7]
 split
 ·rename_i q
  obtain ⟨q1,q2⟩:=q
  rw [q1] at h
  rw [UV,Zk]
  right
  rw [X7,Zk h7]
  have:gI [0] 0=0:=rfl
  simp [this] at h
  show s.kids.length≠2
  omega
 ·rfl
theorem Zbo (hS:Y5 n us s=Kc n us s ts) (hc:¬Y8 s.op=true) (h7:s.op=7)
  (h:¬((((ts.length:Int)≠1∨gI ts 0≠0)∨s.num≠0)∨(s.kids.length:Int)≠2)):Y5 n us s=XS n us s.kids (List.replicate 2 []) true 0:=by
 have h1:(ts.length:Int)=1:=W7.1 fun q=>h (.inl (.inl (.inl q)))
 have h2:gI ts 0=0:=W7.1 fun q=>h (.inl (.inl (.inr q)))
 have h3:s.num=0:=W7.1 fun q=>h (.inl (.inr q))
 have h4:(s.kids.length:Int)=2:=W7.1 fun q=>h (.inr q)
 rw [hS,AO,Z9 hc,Zk h7,Zk ⟨by rw [NT h1,h2],h3⟩,UV,Z9]
 ·rw [X7,Zk h7];rfl
 ·rw [X7,Zk h7];simp;omega
theorem Zbp (hS:Y5 n us s=Kc n us s ts) (hc:¬Y8 s.op=true) (h7:¬s.op=7) (h8:s.op=8)
  (h:(ts.length:Int)≠1∨(gI ts 0≠s.num∨(((((ZQ n.decls s.num).map (ZP n.decls)).length:Nat):Int)=0∨(s.kids.length:Int)≠((((ZQ n.decls s.num).map (ZP n.decls)).length:Nat):Int)))):Y5 n us s=-1:=by
 rw [hS,AO,Z9 hc,Z9 h7,Zk h8]
 split
 ·rename_i q
  have hg:gI ts 0=s.num:=by rw [q];rfl
  have hl:(ts.length:Int)=1:=by rw [q];rfl
  rw [UV,Zk]
  rw [X7,Z9 h7]
  omega
 ·rfl
theorem Zbq (hS:Y5 n us s=Kc n us s ts) (hc:¬Y8 s.op=true) (h7:¬s.op=7) (h8:s.op=8)
  (h:¬((ts.length:Int)≠1∨(gI ts 0≠s.num∨(((((ZQ n.decls s.num).map (ZP n.decls)).length:Nat):Int)=0∨(s.kids.length:Int)≠((((ZQ n.decls s.num).map (ZP n.decls)).length:Nat):Int))))) :
  Y5 n us s=XS n us s.kids ((ZQ n.decls s.num).map (ZP n.decls)) true 0:=by
 have h1:(ts.length:Int)=1:=W7.1 fun q=>h (.inl q)
 have h2:gI ts 0=s.num:=W7.1 fun q=>h (.inr (.inl q))
 rw [hS,AO,Z9 hc,Z9 h7,Zk h8,Zk (by rw [NT h1,h2]),UV,Z9]
 ·rw [X7,Z9 h7]
 ·rw [X7,Z9 h7];omega
theorem Z6z {n:Zq} {num:Int}:(((Xc n.routines num).map (·.lent)).getD []).length=if 0<=num/\num<(((n.routines.map XG).length:Nat):Int) then (Qn n num).lnt.length else 0:=by
 split
 ·rename_i h
  rw [QN] at h
  obtain ⟨r,hr⟩:=J7 (xs:=n.routines) (j:=num.toNat) om
  rw [TO om hr,Qn,Ki,hr];rfl
 ·rename_i h
  rw [QN] at h
  rw [Qy om];rfl
theorem PC:(0<s.kids.length∨(s.op=10/\0<(((Xc n.routines s.num).map (·.lent)).getD []).length)) ↔
  ((s.kids.length:Int)>0∨(s.op=10/\(s.num>=0/\(s.num<(((n.routines.map XG).length:Nat):Int)/\((((Qn n s.num).lnt).length:Nat):Int)>0)))):=by
 rw [Z6z]
 by_cases hq:0<=s.num/\s.num<(((n.routines.map XG).length:Nat):Int)
 ·rw [Zk hq];omega
 ·rw [Z9 hq];omega
theorem stB (hS:Y5 n us s=Kc n us s ts) (hc:¬Y8 s.op=true) (h7:¬s.op=7) (h8:¬s.op=8)
  (h:((s.kids.length:Int)>0∨(s.op=10/\(s.num>=0/\(s.num<(((n.routines.map XG).length:Nat):Int)/\((((Qn n s.num).lnt).length:Nat):Int)>0))))):Y5 n us s=-1:=by
 rw [hS,AO,Z9 hc,Z9 h7,Z9 h8,Zk (PC.2 h)]
theorem stS (hS:Y5 n us s=Kc n us s ts) (hc:¬Y8 s.op=true) (h7:¬s.op=7) (h8:¬s.op=8)
  (h:¬((s.kids.length:Int)>0∨(s.op=10/\(s.num>=0/\(s.num<(((n.routines.map XG).length:Nat):Int)/\((((Qn n s.num).lnt).length:Nat):Int)>0))))):Y5 n us s=(Xp n s.op s.num ts).getD (-1):=by
 rw [hS,AO,Z9 hc,Z9 h7,Z9 h8,Z9 (fun q=>h (PC.1 q))]
theorem Zbt (hty:BE n) (h:Y5 n us s=(Xp n s.op s.num ts).getD (-1)):(Xp n s.op s.num ts).isSome=decide (0<=Y5 n us s):=by
 rw [h]
 cases hs:Xp n s.op s.num ts with
 | none=>rfl
 | some x=>have:=Za9 hty hs;simp [this]
theorem Zbu {t:Int} (h:Y5 n us s=(Xp n s.op s.num ts).getD (-1)) (hp:∀x,Xp n s.op s.num ts=some x->t=x):¬Y8 s.op=true->0<=Y5 n us s->t=Y5 n us s:=by
 intro _ h0
 rw [h] at h0 ⊢
 cases hs:Xp n s.op s.num ts with
 | none=>rw [hs] at h0;exact absurd h0 (by decide)
 | some x=>exact hp x hs
end
theorem Zc8 {n:Zq} {us:LI} {s:Z3} (h:0<=Y5 n us s):(0<=s.op/\s.op<=11)∨(14<=s.op/\s.op<=17):=by
 rw [JY] at h
 by_cases hq:(0<=s.op/\s.op<=11)∨(14<=s.op/\s.op<=17)
 ·exact hq
 ·exfalso
  split at h
  ·omega
  rw [Z9 om,Z9 om,Z9 om,Z9 om,Z9 om,Z9 om,Z9 om,Z9 om,Z9 om] at h
  omega
theorem Eh {n:Zq} {us:LI} {s:Z3} (h:0<=Y5 n us s):Xt s.op=!Y8 s.op:=by
 have:=Zc8 h
 rw [Xt,Y8,Xf];simp;omega
theorem Zcb {n:Zq} {xs:List Z3} {vs:LI} {k:Nat} {s:Z3} {t:Int} {r:Option LI} (hs:xs[k]? = some s) (h:0<=Y5 n vs s) (ht:¬Y8 s.op=true->0<=Y5 n vs s->t=Y5 n vs s)
  (hr:Wk n (xs.drop k) vs=r):Wk n (xs.drop (k+1)) (if Y8 s.op=true then vs else vs++[t])=r:=by
 rw [Y3 hs,Wk,Z9 om] at hr
 rw [<-hr,Eh h]
 by_cases hc:Y8 s.op=true
 ·rw [Zk hc,hc];rfl
 ·rw [Z9 hc,Zk (by simpa using hc),ht hc h]
theorem Zcd {n:Zq} {xs:List Z3} {vs:LI} {k:Nat} {s:Z3} {r:Option LI} (hs:xs[k]? = some s) (h:¬0<=Y5 n vs s) (hr:Wk n (xs.drop k) vs=r):r=none:=by
 rw [Y3 hs,Wk,Zk om] at hr;exact hr.symm
theorem Z7b {c:Prop} [Decidable c] {vs:LI} {t:Int} (h:∀x∈vs,0<=x) (ht:¬c->0<=t):∀x∈(if c then vs else vs++[t]),0<=x:=by
 split
 ·exact h
 ·rename_i hc
  exact NI h (fun x hx=>by rw [XT.1 hx];exact ht hc)
theorem IV {m:Nat} {xs:LI} (h:XU m xs=true):∀x∈xs,0<=x/\x<=m:=by
 rw [XU,KJ] at h
 exact fun x hx=>of_decide_eq_true (h x hx)
theorem Z7c {n:Zq} (h:VT n=true):BE n:=by
 simp only [VT,Qr,XI,decide_eq_true_eq] at h
 obtain ⟨h1,⟨h2,h3,h4,h5⟩,h6⟩:=h
 have hs:∀r∈n.routines,XU n.decls.length r.params=true/\0<=r.result:=fun r hr=>by
  have:=FD h4 (Vq r) (Xy.2 ⟨r,hr,rfl⟩)
  simp only [QH,XI,decide_eq_true_eq] at this
  exact ⟨this.2.1,this.2.2.1⟩
 simp only [Wu,XI,decide_eq_true_eq] at h2
 obtain ⟨h2a,h2b⟩:=h2
 rw [GH] at h2b
 have key:∀(i:Nat) (d:Zd),n.decls[i]? = some d->U6 n.decls d i=true:=fun i d hi=>by
  have:=h2b i (XA.1 hi).1
  rwa [WS,CI hi] at this
 refine ⟨fun r hr=>(hs r hr).2,fun r hr p hp=>(IV (hs r hr).1 p hp).1,fun d hd h0=>?_,fun c f hf=>?_⟩
 ·obtain ⟨i,hi⟩:=List.mem_iff_getElem?.1 hd
  have:=key i d hi
  rw [U6,Z9 om] at this
  split at this
  ·cases this
  ·simp only [XI,decide_eq_true_eq] at this;omega
 ·by_cases hc:XP n.decls c<1
  ·rw [(Ed hc).1] at hf;cases hf
  ·obtain ⟨k,d,x,q1,q2,q3,q4,q5⟩:=Gx hc
   rw [q5] at hf
   have:=key k d q1
   have hp:0<d.cons.length:=by have:=(XA.1 q3).1;omega
   rw [U6,Zk hp] at this
   split at this
   ·have:=LD.1 this x (Y0 q3)
    simp only [Kl,XI] at this
    exact (IV this.2 f hf).1
   ·cases this
structure Rl (n:Zq):Prop where
 result:∀r∈n.routines,r.result<=(n.decls.length:Int)
 decl:∀d∈n.decls,d.cons.length=0->d.to_<=(n.decls.length:Int)
 fields:∀c,∀f∈ZP n.decls c,f<=(n.decls.length:Int)
section
variable {n:Zq} (hu:Rl n)
include hu
end
end Go.Abs
section
namespace Go.Abs
structure BD where
 mat:Int
 fst:Int
 fds:LI
 chg:Bool
def NS:List BD->Int->Option BD
 | [],_=>none
 | a::r,v=>match NS r v with
  | some x=>some x
  | none=>if a.mat=v then some a else none
structure Zde (ds:List Zd) (L:ZJ) (as1:List BD):Prop where
 rng:∀a∈as1,0<=a.mat/\a.mat<a.fst/\a.fst+a.fds.length<=L.vars.length
 par:∀a∈as1,∀v:Int,a.fst<=v->v<a.fst+a.fds.length->gI L.par v=a.mat
 non:∀v:Int,0<=v->v<L.vars.length->0<=gI L.par v->∃a∈as1,a.fst<=v/\v<a.fst+a.fds.length
 off:∀v:Int,0<=v->v<L.vars.length->match NS as1 v with
  | none=>gI L.con v<0
  | some a=>0<=gI L.con v/\a.fst=gI L.fst v/\a.fds=ZP ds (gI L.con v)
end Go.Abs
namespace Go.Abs
end Go.Abs
namespace Go.Abs
end Go.Abs
namespace Go.Abs
section
variable {n:Zq} {ln:LI} {L:ZJ} {op v:Int} {am:List BD} {a:BD}
end
end Go.Abs
namespace Go.Abs
end Go.Abs
end
section
namespace Go.Abs
section
variable {n:Zq} {us:LI} {op num:Int}
end
end Go.Abs
namespace Go.Abs
end Go.Abs
namespace Go.Abs
end Go.Abs
end
section
namespace Go.Abs
section
variable {n:Zq} {ln:LI}
end
end Go.Abs
namespace Go.Abs
end Go.Abs
namespace Go.Abs
end Go.Abs
namespace Go.Abs
section
variable {n:Zq} {ln:LI} {L:ZJ} {s:Z3}
end
end Go.Abs
namespace Go.Abs
end Go.Abs
namespace Go.Abs
end Go.Abs
namespace Go.Abs
end Go.Abs
end
namespace Go.Abs

end Go.Abs
section
namespace Go.Abs
end Go.Abs
namespace Go.Abs
end Go.Abs
namespace Go.Abs
end Go.Abs
end
section
namespace Go.Abs
end Go.Abs
namespace Go.Abs
end Go.Abs
namespace Go.Abs
end Go.Abs
namespace Go.Abs
end Go.Abs
end
namespace Go.Abs
def Zw (op v:Int):Z3:=.mk op 0 0 [v] []
def Ul (ds:List Zd) (num:Int) (k:Nat):LI:=((ZQ ds num).map (ZP ds))[k]?.getD []
section
variable {ds:List Zd} {am:List BD} {m:Nat}
end
theorem M5 {ds:List Zd} {num:Int} {k:Nat} {m:LI} (h:((ZQ ds num).map (ZP ds))[k]? = some m):Ul ds num k=m:=by rw [Ul,h];rfl
theorem Z1k {ds:List Zd} (hd:XZ ds) (num:Int) (k:Nat):(Ul ds num k).length<=3:=by
 rw [Ul,Ki]
 cases (ZQ ds num)[k]? with
 | none=>simp
 | some c=>exact VP hd c
theorem FM {xs:List Z3} {k:Nat} {s:Z3} (h:xs[k]? = some s):Yd (xs.take (k+1))=Yd (xs.take k)+s.sz:=by
 induction xs generalizing k with
 | nil=>simp at h
 | cons t r ih=>
  cases k with
  | zero=>simp at h;subst h;simp [Yd]
  | succ k=>rw [BB,BB,Yd,Yd,ih (by simpa using h)];omega
theorem Qp (xs:List Z3) (k:Nat):Yd (xs.take k)<=Yd xs:=by
 induction xs generalizing k with
 | nil=>simp
 | cons t r ih=>
  cases k with
  | zero=>simp [Yd]
  | succ k=>have:=ih k;rw [BB,Yd,Yd];omega
theorem Za0 {n:Zq} {us:LI} {s:Z3} (g:0<=Y5 n us s) (h:Y8 s.op=true):Qm n us s=us:=by rw [Qm,Eh g,h];rfl
theorem Z9z {n:Zq} {us:LI} {s:Z3} (g:0<=Y5 n us s) (h:¬Y8 s.op=true):(Qm n us s).length=us.length+1:=by
 rw [Qm,Eh g,Qs.2 h];simp
theorem Za1 {n:Zq} {us:LI} {s:Z3} (g:0<=Y5 n us s):(Qm n us s).length=if Y8 s.op=true then us.length else us.length+1:=by
 split
 ·rw [Za0 g (by assumption)]
 ·exact Z9z g (by assumption)
theorem Z69 {n:Zq} {us:LI} {s:Z3} (g:0<=Y5 n us s) (h:0<s.kids.length):s.op=7∨s.op=8:=by
 rw [JY] at g
 split at g
 ·omega
 ·rename_i q
  exact AU fun z=>q (.inr (.inr ⟨h,fun e=>z (.inl e),fun e=>z (.inr e)⟩))
theorem Bg (ys:List WU):(Ze (WM ys)).length=ys.length*3:=by rw [Ua _ (LO _)];simp
theorem M9 (ys:List WT):(Ze (VG ys)).length=ys.length:=by rw [Ua _ (LN _)];simp
theorem M8 (ys:List Zd):(Ze (Yo ys)).length=ys.length*3:=by rw [Ua _ (QC _)];simp
theorem Z1q (ys:List Y1):(Ze (Xs ys)).length=ys.length:=by rw [Ua _ (CK _)];simp
theorem Z1r {ds:List Zd} {k:Nat} {d:Zd} (h:ds[k]? = some d):Ze (Yo (ds.drop k))=UW d++Ze (Yo (ds.drop (k+1))):=by rw [Y3 h];rfl
theorem Z1p {ds:List Y1} {k:Nat} {d:Y1} (h:ds[k]? = some d):Ze (Xs (ds.drop k))=C9 d++Ze (Xs (ds.drop (k+1))):=by rw [Y3 h];rfl
theorem OO {ys:List WU} {ds:List Zd} {k:Nat} {d:Zd} (h:ds[k]? = some d):Ze (WM ys++Yo (ds.drop k))=Ze (WM ys)++(UW d++Ze (Yo (ds.drop (k+1)))):=by
 rw [VZ,Z1r h]
theorem Z92 {ys:List WT} {ds:List Y1} {k:Nat} {d:Y1} (h:ds[k]? = some d):Ze (VG ys++Xs (ds.drop k))=Ze (VG ys)++(C9 d++Ze (Xs (ds.drop (k+1)))):=by
 rw [VZ,Z1p h]
theorem ON {ys:List WU} {ds:List Zd} {k:Nat} (h:ys.length=k) (hk:k<=ds.length):(Ze (WM ys++Yo (ds.drop k))).length=ds.length*3:=by
 rw [VZ,Ym,Bg,M8,Jk];omega
theorem OM {ys:List WT} {ds:List Y1} {k:Nat} (h:ys.length=k) (hk:k<=ds.length):(Ze (VG ys++Xs (ds.drop k))).length=ds.length*1:=by
 rw [VZ,Ym,M9,Z1q,Jk];omega
theorem Z94 {ys:List WU} {ds:List Zd} {k:Nat} {f t:Int} {zs:List WT} {u:Value}:Ze (WM ys)++([.i f,.i t,Dm zs u]++Ze (Yo (ds.drop (k+1))))=Ze (WM (ys++[WU.mk f t zs u])++Yo (ds.drop (k+1))):=by
 rw [Z0z,VZ,VZ,Ut];rfl
theorem Z91 {ys:List WT} {ds:List Y1} {k:Nat} {xs:LI} {u:Value}:Ze (VG ys)++([ZT xs u]++Ze (Xs (ds.drop (k+1))))=Ze (VG (ys++[WT.mk xs u])++Xs (ds.drop (k+1))):=by
 rw [Z0y,VZ,VZ,Ut];rfl
theorem Z93 {ys:List WU} {ds:List Zd} {k:Nat} (h:ds.length<=k):Ze (WM ys++Yo (ds.drop k))=Ze (WM ys):=by rw [X5 h];simp [Yo]
theorem Z90 {ys:List WT} {ds:List Y1} {k:Nat} (h:ds.length<=k):Ze (VG ys++Xs (ds.drop k))=Ze (VG ys):=by rw [X5 h];simp [Xs]
theorem Z95 {A B:List AV} {x y z x':AV} {o:Nat} (hA:A.length=o):(A++([x,y,z]++B)).take (o+2)++[x']++(A++([x,y,z]++B)).drop (o+2+1)=A++([x,y,x']++B):=by
 have h:=Dz (A:=A++[x,y]) (xs:=[z]) (ys:=[x']) (B:=B) (o:=o+2) (by simp [hA]) rfl
 simpa using h
theorem Z96 {A B:List AV} {x y z:AV} {o:Nat} (hA:A.length=o):((A++([x,y,z]++B)).drop (o+2)).take 1=[z]:=by
 have h:=I4 (A:=A++[x,y]) (xs:=[z]) (B:=B) (o:=o+2) (by simp [hA])
 simpa using h
theorem Z97 {A B:List AV} {x y z x':AV} {o:Nat} (hA:A.length=o):(A++([x,y,z]++B)).set (o+2) x'=A++([x,y,x']++B):=by
 subst hA
 rw [List.set_append_right _ _ om]
 simp
theorem Rk {f t:Int} {zs:List WT} {u:Value} {cs:List Y1} (h:zs.map WT.er=cs):[WU.mk f t zs u].map WU.er=[Zd.mk f t cs]:=by
 rw [<-h];rfl
theorem T1:∀(xs ys:List Z3),Yd (xs++ys)=Yd xs+Yd ys
 | [],ys=>by simp [Yd]
 | x::r,ys=>by rw [Tx,Yd,Yd,T1 r ys];omega
theorem Ec (op v:Int):(Zw op v).sz=2:=by rw [Zw,Z3.sz];simp [YG]
theorem In (op:Int):∀l:LI,Yd (l.map (Zw op))=2*l.length
 | []=>by simp [Yd]
 | x::r=>by rw [VX,Yd,Ec,In op r,YH];omega
section
variable {ds:List Zd} (hd:XZ ds)
include hd
end
section
variable {ds:List Zd} {cons first:LI}
end
section
variable {ds:List Zd} (hd:XZ ds)
include hd
end
def Xz:List Z3->Nat
 | []=>0
 | s::r=>if s.op=14∨s.op=15 then Xz r+1 else 0
def Wg (op:Int):List Z3->LI
 | []=>[]
 | s::r=>if s.op=op then gI s.args 0::Wg op r else Wg op r
def Uo:LI->Int->LI->LI->LI × LI
 | [],_,D,R=>(D,R)
 | f::r,q,D,R=>if f≠0/\q∈D then Uo r (q+1) (D.erase q) R else if f≠0 then Uo r (q+1) D (R++[q]) else Uo r (q+1) D R
def JU (xs:List Z3) (x:Int) (fs:LI) (q:Int):LI × LI:=Uo fs q (Wg 14 (xs.take (Xz xs))) ((Wg 15 (xs.take (Xz xs))).erase x)
def Af (xs:List Z3) (x:Int) (fs:LI) (q:Int):List Z3:=
 if x∈Wg 15 (xs.take (Xz xs))/\fs.length≠0 then (JU xs x fs q).1.map (Zw 14)++[Zw 16 x]++(JU xs x fs q).2.map (Zw 15)++xs.drop (Xz xs) else xs
def KO (b:Z5) (x:Int) (fs:LI) (q:Int):Z5:=.mk (Af b.steps x fs q) b.result
theorem Ft:∀xs:List Z3,Xz xs<=xs.length
 | []=>YR _
 | s::r=>by have:=Ft r;rw [Xz];split<;>simp<;>omega
theorem OV:∀{xs:List Z3} {s:Z3},s∈xs.take (Xz xs)->s.op=14∨s.op=15
 | [],s,h=>by simp [Xz] at h
 | t::r,s,h=>by
  rw [Xz] at h
  split at h
  ·rename_i q
   rw [BB] at h
   rcases YB.1 h with rfl|h
   ·exact q
   ·exact OV h
  ·simp at h
theorem Gm:∀xs:List Z3,(Wg 14 xs).length+(Wg 15 xs).length<=xs.length
 | []=>by simp [Wg]
 | s::r=>by
  have:=Gm r
  rw [Wg,Wg]
  by_cases h:s.op=14
  ·rw [Zk h,Z9 om];simp;omega
  ·rw [Z9 h];split<;>simp<;>omega
theorem Fk:∀(fs:LI) (q:Int) (D R:LI),(Uo fs q D R).1.length+(Uo fs q D R).2.length<=D.length+R.length+fs.length
 | [],q,D,R=>by simp [Uo]
 | f::r,q,D,R=>by
  rw [Uo,YH]
  split
  ·have:=Fk r (q+1) (D.erase q) R
   have h2:=List.length_erase_le (a:=q) (l:=D)
   omega
  ·split
   ·have:=Fk r (q+1) D (R++[q])
    simp only [Ym,YH,Xg] at this
    omega
   ·have:=Fk r (q+1) D R
    omega
theorem Z81 {xs:List Z3} {x:Int} {fs:LI} {q:Int} (h:x∈Wg 15 (xs.take (Xz xs))) (hf:fs.length<=3):(JU xs x fs q).1.length+(JU xs x fs q).2.length<=Xz xs+2:=by
 have h1:=Fk fs q (Wg 14 (xs.take (Xz xs))) ((Wg 15 (xs.take (Xz xs))).erase x)
 have h2:=Gm (xs.take (Xz xs))
 have h3:=List.length_pos_of_mem h
 rw [List.length_erase_of_mem h] at h1
 rw [Wm] at h2
 have h4:=Ft xs
 unfold JU
 omega
theorem Zbm (xs:List Z3) (k:Nat):Yd xs=Yd (xs.take k)+Yd (xs.drop k):=by rw [<-T1,UK]
theorem PB:∀xs:List Z3,(∀s∈xs,2<=s.sz)->2*xs.length<=Yd xs
 | [],_=>by simp
 | s::r,h=>by
  have h1:=PB r fun t ht=>h t (Xl _ ht)
  have h2:=h s (X1 ..)
  rw [Yd,YH];omega
theorem RG {xs:List Z3} {x:Int} {fs:LI} {q:Int} (hf:fs.length<=3) (h:∀s∈xs,s.op=14∨s.op=15->2<=s.sz):Yd (Af xs x fs q)<=Yd xs+6:=by
 rw [Af]
 split
 ·rename_i hc
  have h1:=Z81 (q:=q) hc.1 hf
  have h2:=PB (xs.take (Xz xs)) fun s hs=>h s (TK hs) (OV hs)
  have h3:=Zbm xs (Xz xs)
  have h4:=Ft xs
  rw [Wm] at h2
  rw [T1,T1,T1,In,In,Yd,Yd,Ec]
  omega
 ·omega
def Cn (s:Z3):Prop:=s=Zw s.op (gI s.args 0)
theorem RE {xs:List Z3} {m:Int} {fs:LI} {q:Int} (h:¬(m∈Wg 15 (xs.take (Xz xs))/\fs.length≠0)):Af xs m fs q=xs:=Z9 h
end Go.Abs
section
namespace Go.Abs
mutual
def Bv (ds:List Zd) (m:Nat):Z3->Z3
 | .mk op num into args kids=>.mk op num into args (Tq ds m op num args kids 0)
def Tq (ds:List Zd) (m:Nat) (op num:Int) (args:LI):List Z5->Nat->List Z5
 | [],_=>[]
 | b::r,k=>(if op=8 then KO (WQ ds (m+(Ul ds num k).length) b) (gI args 0) (Ul ds num k) m else WQ ds m b)::Tq ds m op num args r (k+1)
def UG (ds:List Zd) (m:Nat):List Z3->List Z3
 | []=>[]
 | s::r=>Bv ds m s::UG ds (if Y8 s.op=true then m else m+1) r
def WQ (ds:List Zd) (m:Nat):Z5->Z5
 | .mk steps result=>.mk (UG ds m steps) result
end
def FH (ds:List Zd) (m:Nat) (op num:Int) (args:LI) (k:Nat) (b:Z5):Z5:=if op=8 then KO (WQ ds (m+(Ul ds num k).length) b) (gI args 0) (Ul ds num k) m else WQ ds m b
theorem Ii (ds:List Zd) (m:Nat) (s:Z3):Bv ds m s=.mk s.op s.num s.into s.args (Tq ds m s.op s.num s.args s.kids 0):=by cases s;rw [Bv];rfl
theorem FF (ds:List Zd) (m:Nat) (b:Z5):WQ ds m b=.mk (UG ds m b.steps) b.result:=by cases b;rw [WQ];rfl
section
variable {ds:List Zd} {m:Nat}
theorem Zag {xs acc r:List Z3} {k:Nat} {s:Z3} (h:xs[k]? = some s) (ha:acc++UG ds m (xs.drop k)=r) :
  (acc++[.mk s.op s.num s.into s.args (Tq ds m s.op s.num s.args s.kids 0)])++UG ds (if Y8 s.op=true then m else m+1) (xs.drop (k+1))=r:=by
 rw [Y3 h,UG,Ii] at ha
 rw [<-ha];simp
theorem Zaf {xs acc r:List Z3} {k:Nat} (h:xs.length<=k) (ha:acc++UG ds m (xs.drop k)=r):acc=r:=by
 rw [X5 h,UG,Jj] at ha;exact ha
theorem Pc {op num:Int} {args:LI} {bs acc r:List Z5} {k:Nat} {b:Z5} (h:bs[k]? = some b) (ha:acc++Tq ds m op num args (bs.drop k) k=r) :
  (acc++[FH ds m op num args k b])++Tq ds m op num args (bs.drop (k+1)) (k+1)=r:=by
 rw [Y3 h,Tq] at ha
 rw [<-ha,FH];simp
theorem Zac {op num:Int} {args:LI} {bs acc r:List Z5} {k j:Nat} (h:bs.length<=k) (ha:acc++Tq ds m op num args (bs.drop k) j=r):acc=r:=by
 rw [X5 h,Tq,Jj] at ha;exact ha
end
mutual
def wS (ds:List Zd):Z3->Prop
 | .mk op num into args kids=>(Xt op=!Y8 op)/\(Y8 op=true->num=0/\into=0/\kids=[]/\∃a,args=[a])/\(op=8->(∃a,args=[a]/\0<=a/\a<=900000000)/\kids.length=(ZQ ds num).length)/\Kh ds kids
def Kh (ds:List Zd):List Z5->Prop
 | []=>True
 | b::r=>wB ds b/\Kh ds r
def Tw (ds:List Zd):List Z3->Prop
 | []=>True
 | s::r=>wS ds s/\Tw ds r
def wB (ds:List Zd):Z5->Prop
 | .mk steps _=>Tw ds steps
end
section
variable {ds:List Zd}
theorem KI (s:Z3):wS ds s↔(Xt s.op=!Y8 s.op)/\(Y8 s.op=true->s.num=0/\s.into=0/\s.kids=[]/\∃a,s.args=[a])/\(s.op=8->(∃a,s.args=[a]/\0<=a/\a<=900000000)/\s.kids.length=(ZQ ds s.num).length)/\Kh ds s.kids:=by cases s;rw [wS];rfl
theorem Kg (b:Z5):wB ds b↔Tw ds b.steps:=by cases b;rw [wB];rfl
theorem A0:∀{xs:List Z3},Tw ds xs↔∀s∈xs,wS ds s
 | []=>by simp [Tw]
 | s::r=>by rw [Tw,A0];simp
theorem FX:∀{xs:List Z5},Kh ds xs↔∀s∈xs,wB ds s
 | []=>by simp [Kh]
 | s::r=>by rw [Kh,FX];simp
theorem IE {b:Z5} {k:Nat} {s:Z3} (h:wB ds b) (hs:b.steps[k]? = some s):wS ds s:=A0.1 ((Kg b).1 h) s (Y0 hs)
theorem FY {s:Z3} {k:Nat} {b:Z5} (h:wS ds s) (hb:s.kids[k]? = some b):wB ds b:=FX.1 ((KI s).1 h).2.2.2 b (Y0 hb)
theorem DO {s:Z3} (h:wS ds s) (hc:Y8 s.op=true):Cn s/\s.kids=[]/\∃a,s.args=[a]:=by
 obtain ⟨h1,h2,h3,a,h4⟩:=((KI s).1 h).2.1 hc
 refine ⟨?_,h3,a,h4⟩
 cases s with
 | mk op num into args kids=>
  simp only [Z3.num,Z3.into,Z3.kids,Z3.args] at h1 h2 h3 h4
  subst h1 h2 h3 h4
  rfl
theorem Zd7 {op v:Int} (h:op=14∨op=15∨op=16):wS ds (Zw op v):=(KI _).2 ⟨by show Xt op=!Y8 op;rcases h with rfl|rfl|rfl<;>rfl,fun _=>⟨rfl,rfl,rfl,v,rfl⟩,fun e=>absurd e (show op≠8 by omega),True.intro⟩
theorem IF {s:Z3} (h:wS ds s):Xt s.op=!Y8 s.op:=((KI s).1 h).1
theorem DP {s:Z3} (h:wS ds s) (h8:s.op=8):(∃a,s.args=[a]/\0<=a/\a<=900000000)/\s.kids.length=(ZQ ds s.num).length:=((KI s).1 h).2.2.1 h8
theorem G8 {xs:List Z3} (h:Tw ds xs):∀s∈xs,Y8 s.op=true->Cn s:=fun s hs hc=>(DO (A0.1 h s hs) hc).1
end
section
variable {n:Zq}
theorem Z7h {us:LI} {s:Z3} (g:0<=Y5 n us s) (h:Y8 s.op=true):s.num=0/\s.into=0/\s.kids=[]:=by
 have ho:14<=s.op/\s.op<=17:=by simpa [Y8] using h
 rw [JY] at g
 split at g
 ·omega
 ·rename_i q
  refine ⟨AU fun z=>q (.inl ⟨z,?_⟩),AU fun z=>q (.inr (.inl ?_)),AU fun z=>q (.inr (.inr ⟨DS.2 z,by omega,by omega⟩))⟩
  ·rw [V5];simp;omega
  ·rw [VM,Z9 z,Z9 om];simp
mutual
theorem Zd9:∀(s:Z3) {us:LI},us.length+4*s.sz<=900000000->XZ n.decls->0<=Y5 n us s->wS n.decls s
 | .mk op num into args kids,us,hu,hd,g=>by
  have hf:=Ip g
  rw [wS]
  refine ⟨Eh g,fun hc=>?_,fun h8=>?_,?_⟩
  ·obtain ⟨h1,h2,h3⟩:=Z7h g hc
   have ho:14<=op/\op<=17:=by simpa [Y8] using hc
   exact ⟨h1,h2,h3,hf.one (.inr (.inr ho))⟩
  ·obtain ⟨k1,k2,k3⟩:=hf.kids (.inr h8)
   obtain ⟨a,ha⟩:=hf.one (.inr (.inl h8))
   have hb:=hf.args a (by rw [ha];exact XT.2 rfl)
   refine ⟨⟨a,ha,hb.1,by omega⟩,?_⟩
   have e:X7 n.decls op num=(ZQ n.decls num).map (ZP n.decls):=by rw [X7,Z9 om]
   have k1':kids.length=(X7 n.decls op num).length:=k1
   rw [k1',e,QN]
  ·refine Rd kids hd fun i b hb=>?_
   have hl:0<kids.length:=by have:=(XA.1 hb).1;omega
   obtain ⟨k1,k2,k3⟩:=hf.kids (Z69 g hl)
   have k1':kids.length=(X7 n.decls op num).length:=k1
   have hi:=(XA.1 hb).1
   obtain ⟨mk,hmk⟩:=J7 (xs:=X7 n.decls op num) (j:=i) om
   have hk3:=Gn hd hmk
   have ZB:=Lg hb
   rw [Z3.sz] at hu
   exact ⟨us++mk,by rw [Ym];omega,k3 i b mk hb hmk⟩
theorem Rd:∀(bs:List Z5),XZ n.decls->(∀(i:Nat) (b:Z5),bs[i]? = some b->∃us:LI,us.length+4*b.sz<=900000000/\0<=YT n us b)->Kh n.decls bs
 | [],_,_=>True.intro
 | b::r,hd,h=>by
  obtain ⟨us,hq,hu⟩:=h 0 b rfl
  exact ⟨Rb b hq hd hu,Rd r hd fun i x hx=>h (i+1) x (by simpa using hx)⟩
theorem Rf:∀(xs:List Z3) {us vs:LI},us.length+4*Yd xs<=900000000->XZ n.decls->Wk n xs us=some vs->Tw n.decls xs
 | [],_,_,_,_,_=>True.intro
 | s::r,us,vs,hu,hd,h=>by
  obtain ⟨g1,g2⟩:=Iq h
  rw [Yd] at hu
  have h1:=s.sz_pos
  have h2:=Ic n us s
  exact ⟨Zd9 s om hd g1,Rf r om hd g2⟩
theorem Rb:∀(b:Z5) {us:LI},us.length+4*b.sz<=900000000->XZ n.decls->0<=YT n us b->wB n.decls b
 | .mk steps result,us,hu,hd,h=>by
  obtain ⟨fvs,t0,hvs,_,_⟩:=Gq h
  rw [Z5.sz] at hu
  rw [wB];exact Rf steps om hd hvs
end
end
mutual
def Z3.pz:Z3->Nat
 | .mk _ _ _ args kids=>1+args.length+Ci kids
def Z5.pz:Z5->Nat
 | .mk steps _=>1+Cj steps
def Cj:List Z3->Nat
 | []=>0
 | s::r=>s.pz+Cj r
def Ci:List Z5->Nat
 | []=>0
 | b::r=>b.pz+8+Ci r
end
mutual
theorem Z3.pz_le:∀s:Z3,s.pz<=9*s.sz
 | .mk _ _ _ args kids=>by have:=OA kids;rw [Z3.pz,Z3.sz];omega
theorem Z5.pz_le:∀b:Z5,b.pz+8<=9*b.sz
 | .mk steps _=>by have:=OB steps;rw [Z5.pz,Z5.sz];omega
theorem OB:∀xs:List Z3,Cj xs<=9*Yd xs
 | []=>Qu _
 | s::r=>by have:=s.pz_le;have:=OB r;rw [Cj,Yd];omega
theorem OA:∀xs:List Z5,Ci xs<=9*YG xs
 | []=>Qu _
 | s::r=>by have:=s.pz_le;have:=OA r;rw [Ci,YG];omega
end
section
variable {ds:List Zd}
theorem Sx {op:Int} (h:op=14∨op=15):Y8 op=true:=by rw [Y8];simp;omega
theorem Zah {xs:List Z3}:∀{m:Nat},Tw ds xs->∀s∈UG ds m xs,s.op=14∨s.op=15->2<=s.sz:=by
 induction xs with
 | nil=>intro m _ s hs;simp [UG] at hs
 | cons t r ih=>
  intro m h s hs ho
  rw [UG] at hs
  rcases YB.1 hs with rfl|hs
  ·rw [Ii] at ho ⊢
   obtain ⟨_,_,a,ha⟩:=DO h.1 (Sx ho)
   rw [Z3.sz,ha];simp
  ·exact ih h.2 s hs ho
variable (hd:XZ ds)
include hd
mutual
theorem Zad:∀(s:Z3) {m:Nat},wS ds s->(Bv ds m s).sz<=s.pz
 | .mk op num into args kids,m,h=>by
  have:=Pe kids (m:=m) (op:=op) (num:=num) (args:=args) (k:=0) h.2.2.2
  rw [Bv,Z3.sz,Z3.pz];omega
theorem Pe:∀(bs:List Z5) {m:Nat} {op num:Int} {args:LI} {k:Nat},Kh ds bs->YG (Tq ds m op num args bs k)<=Ci bs
 | [],_,_,_,_,_,_=>YR _
 | b::r,m,op,num,args,k,h=>by
  have h2:=Pe r (m:=m) (op:=op) (num:=num) (args:=args) (k:=k+1) h.2
  rw [Tq,YG,Ci]
  split
  ·have h1:=FG b (m:=m+(Ul ds num k).length) h.1
   have h3:=RG (xs:=(WQ ds (m+(Ul ds num k).length) b).steps) (x:=gI args 0) (q:=(m:Int)) (Z1k hd num k) (by rw [FF];exact Zah ((Kg b).1 h.1))
   rw [KO,Z5.sz]
   rw [Z5.sz_eq] at h1
   omega
  ·have h1:=FG b (m:=m) h.1
   omega
theorem Pf:∀(xs:List Z3) {m:Nat},Tw ds xs->Yd (UG ds m xs)<=Cj xs
 | [],_,_=>YR _
 | s::r,m,h=>by
  have h1:=Zad s (m:=m) h.1
  have h2:=Pf r (m:=if Y8 s.op=true then m else m+1) h.2
  rw [UG,Yd,Cj];omega
theorem FG:∀(b:Z5) {m:Nat},wB ds b->(WQ ds m b).sz<=b.pz
 | .mk steps result,m,h=>by
  have:=Pf steps (m:=m) h
  rw [WQ,Z5.sz,Z5.pz];omega
end
end
section
variable {ds:List Zd} {m:Nat}
end
def AJ (ds:List Zd) (r:ZX):ZX:=⟨r.params,r.lent,r.result,WQ ds r.params.length r.body⟩
def FI (n:Zq):Zq:=⟨n.decls,n.routines.map (AJ n.decls)⟩
theorem Ra {n:Zq} (hn:X2 n) (hz:VC n) (hbt:∀r∈n.routines,0<=YT n r.params r.body):∀r∈n.routines,wB n.decls r.body:=fun r hr=>Rb r.body (by have:=hz.body r hr;have:=hn.params r hr;omega) hn.decls (hbt r hr)
end Go.Abs
namespace Go.Abs
theorem Z9k {xs:List Z3} {k:Nat} {s:Z3} {r:Nat} (h:xs[k]? = some s) (hs:s.op=14∨s.op=15) (ha:k+Xz (xs.drop k)=r):k+1+Xz (xs.drop (k+1))=r:=by
 rw [Y3 h,Xz,Zk hs] at ha;omega
theorem Z9l {xs:List Z3} {k:Nat} {s:Z3} {r:Nat} (h:xs[k]? = some s) (hs:¬(s.op=14∨s.op=15)) (ha:k+Xz (xs.drop k)=r):k=r:=by
 rw [Y3 h,Xz,Z9 hs] at ha;omega
theorem Z9j {xs:List Z3} {k:Nat} {r:Nat} (h:xs.length<=k) (ha:k+Xz (xs.drop k)=r):k=r:=by
 rw [X5 h,Xz] at ha;omega
theorem RS {op:Int} {xs:List Z3} {acc r:LI} {k:Nat} {s:Z3} (h:xs[k]? = some s) (hs:s.op=op) (ha:acc++Wg op (xs.drop k)=r):(acc++[gI s.args 0])++Wg op (xs.drop (k+1))=r:=by
 rw [Y3 h,Wg,Zk hs] at ha;rw [<-ha];simp
theorem RR {op:Int} {xs:List Z3} {acc r:LI} {k:Nat} {s:Z3} (h:xs[k]? = some s) (hs:¬s.op=op) (ha:acc++Wg op (xs.drop k)=r):acc++Wg op (xs.drop (k+1))=r:=by
 rw [Y3 h,Wg,Z9 hs] at ha;exact ha
theorem RQ {op:Int} {xs:List Z3} {acc r:LI} {k:Nat} (h:xs.length<=k) (ha:acc++Wg op (xs.drop k)=r):acc=r:=by
 rw [X5 h,Wg,Jj] at ha;exact ha
theorem Z1e {xs acc r:LI} {y:Int} {k:Nat} {x:Int} {d:Bool} (h:xs[k]? = some x) (ha:acc++(if d=true then xs.drop k else (xs.drop k).erase y)=r) :
  (if x=y/\¬d=true then acc else acc++[x])++(if ((x==y&&!d)||d)=true then xs.drop (k+1) else (xs.drop (k+1)).erase y)=r:=by
 rw [Y3 h] at ha
 rw [<-ha]
 by_cases hd:d=true
 ·simp [hd]
 ·by_cases hx:x=y
  ·simp [hd,hx]
  ·rw [Z9 (fun z=>hx z.1),Z9 hd,List.erase_cons_tail (by simpa using hx)]
   simp [hd,hx]
theorem Z1d {xs acc r:LI} {y:Int} {k:Nat} {d:Bool} (h:xs.length<=k) (ha:acc++(if d=true then xs.drop k else (xs.drop k).erase y)=r):acc=r:=by
 rw [X5 h] at ha;simpa using ha
section
variable {fs D R:LI} {q k:Nat} {f:Int} {r:LI × LI}
theorem Z83 (h:fs[k]? = some f) (h0:f≠0) (hm:((q+k:Nat):Int)∈D) (ha:Uo (fs.drop k) (q+k) D R=r):Uo (fs.drop (k+1)) (q+((k+1:Nat):Int)) (D.erase ((q+k:Nat):Int)) R=r:=by
 rw [Y3 h,Uo,Zk ⟨h0,by rw [<-Int.natCast_add];exact hm⟩,<-Int.natCast_add] at ha
 rw [<-ha];congr 1
theorem Z84 (h:fs[k]? = some f) (h0:f≠0) (hm:¬((q+k:Nat):Int)∈D) (ha:Uo (fs.drop k) (q+k) D R=r):Uo (fs.drop (k+1)) (q+((k+1:Nat):Int)) D (R++[((q+k:Nat):Int)])=r:=by
 rw [Y3 h,Uo,Z9 (fun z=>hm (by rw [Int.natCast_add];exact z.2)),Zk h0,<-Int.natCast_add] at ha
 rw [<-ha];congr 1
theorem Z85 (h:fs[k]? = some f) (h0:¬f≠0) (ha:Uo (fs.drop k) (q+k) D R=r):Uo (fs.drop (k+1)) (q+((k+1:Nat):Int)) D R=r:=by
 rw [Y3 h,Uo,Z9 (fun z=>h0 z.1),Z9 h0] at ha
 rw [<-ha];congr 1
theorem Z82 (h:fs.length<=k) (ha:Uo (fs.drop k) (q+k) D R=r):r=(D,R):=by
 rw [X5 h,Uo] at ha;exact ha.symm
end
theorem RH {xs:List Z3} {x:Int} {fs:LI} {q:Int} {D R:LI} (h1:x∈Wg 15 (xs.take (Xz xs))) (h2:fs.length≠0) (hr:JU xs x fs q=(D,R)):D.map (Zw 14)++[Zw 16 x]++R.map (Zw 15)++xs.drop (Xz xs)=Af xs x fs q:=by
 rw [Af,Zk ⟨h1,h2⟩,hr]
theorem Zae {ds:List Zd} {xs:List Z3}:∀{m:Nat},Tw ds xs->∀s∈UG ds m xs,Y8 s.op=true->∃a,s.args=[a]:=by
 induction xs with
 | nil=>intro m _ s hs;simp [UG] at hs
 | cons t r ih=>
  intro m h s hs ho
  rw [UG] at hs
  rcases YB.1 hs with rfl|hs
  ·rw [Ii] at ho ⊢
   exact (DO h.1 ho).2.2
  ·exact ih h.2 s hs ho
end Go.Abs
end
namespace Go.Abs
theorem IL {s:Z3} (h:Cn s):∃a,s.args=[a]:=⟨gI s.args 0,by have:=Yc Z3.args h;exact this⟩
section
variable {xs:LI} {v:Int} {lo hi:Nat}
end
section
variable {m:Int} {xs du dr:List Z3} {lf:LI} {d:Bool} {k:Nat} {s:Z3} {W:List Z3 × List Z3 × LI}
end
def YK:List Z3->Nat
 | []=>0
 | s::r=>if Y8 s.op=true then YK r+1 else 0
def XN (op x:Int):List Z3->Int->Int
 | [],_=>-1
 | s::r,k=>if s.op=op/\gI s.args 0=x then k else XN op x r (k+1)
def QA (many:Nat) (s:Z3):Prop:=(s.op=6/\s.into=0)/\s.args.length=many
instance (many:Nat) (s:Z3):Decidable (QA many s):=by unfold QA;infer_instance
def Wb (many:Nat):List Z3->Int->Int
 | [],_=>-1
 | s::r,k=>if QA many s then k else Wb many r (k+1)
def Ar (xs:List Z3) (i:Int):Z3:=xs[i.toNat]?.getD (Zw 0 0)
def Qe (v:Int) (s:Z3):Z3:=.mk s.op s.num v s.args s.kids
def V7 (xs:List Z3) (x:Int):Int:=XN 16 x (xs.take (YK xs)) 0
def Wn (xs:List Z3) (many:Nat):Int:=Wb many (xs.drop (YK xs)) (YK xs)
def U1 (xs:List Z3) (x:Int) (many:Nat):List Z3:=
 if V7 xs x<0∨Wn xs many<0 then xs else (xs.set (V7 xs x).toNat (Zw 17 x)).set (Wn xs many).toNat (Qe (1+x) (Ar xs (Wn xs many)))
def VV (b:Z5) (x:Int) (many:Nat):Z5:=.mk (U1 b.steps x many) b.result
mutual
def Ql (ds:List Zd) (kept:LI):Z3->Z3
 | .mk op num into args kids=>.mk op num into args (Up ds kept op num args kids 0)
def Up (ds:List Zd) (kept:LI) (op num:Int) (args:LI):List Z5->Nat->List Z5
 | [],_=>[]
 | b::r,k=>(if op=8/\¬gI args 0∈kept then VV (Wq ds (if V7 b.steps (gI args 0)<0∨Wn b.steps (Ul ds num k).length<0 then kept else gI args 0::kept) b) (gI args 0) (Ul ds num k).length else Wq ds kept b)::Up ds kept op num args r (k+1)
def Uq (ds:List Zd) (kept:LI):List Z3->List Z3
 | []=>[]
 | s::r=>Ql ds kept s::Uq ds kept r
def Wq (ds:List Zd) (kept:LI):Z5->Z5
 | .mk steps result=>.mk (Uq ds kept steps) result
end
def EY (ds:List Zd) (kept:LI) (num:Int) (args:LI) (k:Nat) (b:Z5):LI:=if V7 b.steps (gI args 0)<0∨Wn b.steps (Ul ds num k).length<0 then kept else gI args 0::kept
def To (ds:List Zd) (kept:LI) (op num:Int) (args:LI) (k:Nat) (b:Z5):Z5:=if op=8/\¬gI args 0∈kept then VV (Wq ds (EY ds kept num args k b) b) (gI args 0) (Ul ds num k).length else Wq ds kept b
theorem AG (ds:List Zd) (kept:LI) (s:Z3):Ql ds kept s=.mk s.op s.num s.into s.args (Up ds kept s.op s.num s.args s.kids 0):=by cases s;rw [Ql];rfl
theorem Fp (ds:List Zd) (kept:LI) (b:Z5):Wq ds kept b=.mk (Uq ds kept b.steps) b.result:=by cases b;rw [Wq];rfl
theorem Fs (ds:List Zd) (kept:LI):∀xs:List Z3,Uq ds kept xs=xs.map (Ql ds kept)
 | []=>rfl
 | s::r=>by rw [Uq,Fs ds kept r];rfl
section
variable {ds:List Zd} {kept:LI}
theorem Z9i {xs acc r:List Z3} {k:Nat} {s:Z3} (h:xs[k]? = some s) (ha:acc++Uq ds kept (xs.drop k)=r) :
  (acc++[.mk s.op s.num s.into s.args (Up ds kept s.op s.num s.args s.kids 0)])++Uq ds kept (xs.drop (k+1))=r:=by
 rw [Y3 h,Uq,AG] at ha
 rw [<-ha];simp
theorem Z9h {xs acc r:List Z3} {k:Nat} (h:xs.length<=k) (ha:acc++Uq ds kept (xs.drop k)=r):acc=r:=by
 rw [X5 h,Uq,Jj] at ha;exact ha
theorem Z9c {op num:Int} {args:LI} {bs acc r:List Z5} {k:Nat} {b:Z5} (h:bs[k]? = some b) (ha:acc++Up ds kept op num args (bs.drop k) k=r) :
  (acc++[To ds kept op num args k b])++Up ds kept op num args (bs.drop (k+1)) (k+1)=r:=by
 rw [Y3 h,Up] at ha
 rw [<-ha,To,EY];simp
theorem Z9b {op num:Int} {args:LI} {bs acc r:List Z5} {k j:Nat} (h:bs.length<=k) (ha:acc++Up ds kept op num args (bs.drop k) j=r):acc=r:=by
 rw [X5 h,Up,Jj] at ha;exact ha
end
section
variable {ds:List Zd}
mutual
theorem Z9f:∀(s:Z3) {K K':LI},(∀z,z∈K↔z∈K')->Ql ds K s=Ql ds K' s
 | .mk op num into args kids,K,K',h=>by rw [Ql,Ql,OR kids h]
theorem OR:∀(bs:List Z5) {K K':LI} {op num:Int} {args:LI} {k:Nat},(∀z,z∈K↔z∈K')->Up ds K op num args bs k=Up ds K' op num args bs k
 | [],_,_,_,_,_,_,_=>by rw [Up,Up]
 | b::r,K,K',op,num,args,k,h=>by
  have h1:=OR r (op:=op) (num:=num) (args:=args) (k:=k+1) h
  have h2:=I5 b h
  have h3:∀z,z∈(gI args 0::K)↔z∈(gI args 0::K'):=fun z=>by rw [YB,YB,h z]
  have h4:=I5 b h3
  rw [Up,Up,h1,h2]
  congr 1
  by_cases hq:op=8/\¬gI args 0∈K
  ·have hq':op=8/\¬gI args 0∈K':=⟨hq.1,fun z=>hq.2 ((h _).2 z)⟩
   rw [Zk hq,Zk hq']
   congr 1
   split
   ·exact h2
   ·exact h4
  ·have hq':¬(op=8/\¬gI args 0∈K'):=fun z=>hq ⟨z.1,fun y=>z.2 ((h _).1 y)⟩
   rw [Z9 hq,Z9 hq']
theorem OT:∀(xs:List Z3) {K K':LI},(∀z,z∈K↔z∈K')->Uq ds K xs=Uq ds K' xs
 | [],_,_,_=>by rw [Uq,Uq]
 | s::r,K,K',h=>by rw [Uq,Uq,Z9f s h,OT r h]
theorem I5:∀(b:Z5) {K K':LI},(∀z,z∈K↔z∈K')->Wq ds K b=Wq ds K' b
 | .mk steps result,K,K',h=>by rw [Wq,Wq,OT steps h]
end
end
theorem Dh:∀xs:List Z3,YK xs<=xs.length
 | []=>YR _
 | s::r=>by have:=Dh r;rw [YK];split<;>simp<;>omega
section
variable {f:Z3->Z3} (hop:∀s,(f s).op=s.op) (hin:∀s,(f s).into=s.into) (har:∀s,(f s).args=s.args)
include hop
theorem HG:∀xs:List Z3,YK (xs.map f)=YK xs
 | []=>rfl
 | s::r=>by rw [VX,YK,YK,hop,HG r]
include har
theorem L5 {op x:Int}:∀(xs:List Z3) (k:Int),XN op x (xs.map f) k=XN op x xs k
 | [],_=>rfl
 | s::r,k=>by rw [VX,XN,XN,hop,har,L5 r]
theorem Z80 (xs:List Z3) (x:Int):V7 (xs.map f) x=V7 xs x:=by rw [V7,HG hop,<-List.map_take,L5 hop har,V7]
include hin
theorem Lz {many:Nat}:∀(xs:List Z3) (k:Int),Wb many (xs.map f) k=Wb many xs k
 | [],_=>rfl
 | s::r,k=>by
  have e:QA many (f s)↔QA many s:=by rw [QA,QA,hop,hin,har]
  rw [VX,Wb,Wb,Lz r]
  by_cases h:QA many s
  ·rw [Zk h,Zk (e.2 h)]
  ·rw [Z9 h,Z9 (fun z=>h (e.1 z))]
theorem SB (xs:List Z3) (many:Nat):Wn (xs.map f) many=Wn xs many:=by rw [Wn,HG hop,<-List.map_drop,Lz hop hin har,Wn]
end
theorem L4 {op x:Int}:∀{xs:List Z3} {k:Int},¬XN op x xs k<0->0<=k->k<=XN op x xs k/\XN op x xs k<k+xs.length/\∃s,xs[(XN op x xs k-k).toNat]? = some s/\s.op=op/\gI s.args 0=x
 | [],k,h,_=>by simp [XN] at h
 | s::r,k,h,hk=>by
  rw [XN] at h ⊢
  split
  ·rename_i q
   refine ⟨Int.le_refl _,by rw [YH];omega,s,?_,q⟩
   rw [Int.sub_self];rfl
  ·rename_i q
   rw [Z9 q] at h
   obtain ⟨h1,h2,t,h3,h4⟩:=L4 (xs:=r) (k:=k+1) h om
   refine ⟨by omega,by rw [YH];omega,t,?_,h4⟩
   rw [show (XN op x r (k+1)-k).toNat=(XN op x r (k+1)-(k+1)).toNat+1 by omega,List.getElem?_cons_succ]
   exact h3
theorem Ly {many:Nat}:∀{xs:List Z3} {k:Int},¬Wb many xs k<0->0<=k->k<=Wb many xs k/\Wb many xs k<k+xs.length/\∃s,xs[(Wb many xs k-k).toNat]? = some s/\QA many s
 | [],k,h,_=>by simp [Wb] at h
 | s::r,k,h,hk=>by
  rw [Wb] at h ⊢
  split
  ·rename_i q
   refine ⟨Int.le_refl _,by rw [YH];omega,s,?_,q⟩
   rw [Int.sub_self];rfl
  ·rename_i q
   rw [Z9 q] at h
   obtain ⟨h1,h2,t,h3,h4⟩:=Ly (xs:=r) (k:=k+1) h om
   refine ⟨by omega,by rw [YH];omega,t,?_,h4⟩
   rw [show (Wb many r (k+1)-k).toNat=(Wb many r (k+1)-(k+1)).toNat+1 by omega,List.getElem?_cons_succ]
   exact h3
theorem Dq {xs:List Z3} {x:Int} (h:¬V7 xs x<0):0<=V7 xs x/\V7 xs x<YK xs/\∃s,xs[(V7 xs x).toNat]? = some s/\s.op=16/\gI s.args 0=x:=by
 obtain ⟨h1,h2,s,h3,h4⟩:=L4 h (Int.le_refl 0)
 have hl:=Dh xs
 rw [Wm,Va hl] at h2
 have h2':V7 xs x<YK xs:=by unfold V7;omega
 have h1':0<=V7 xs x:=h1
 refine ⟨h1',h2',s,?_,h4⟩
 rw [Int.sub_zero] at h3
 have h5:(V7 xs x).toNat<YK xs:=by omega
 rwa [show XN 16 x (xs.take (YK xs)) 0=V7 xs x from rfl,List.getElem?_take_of_lt h5] at h3
theorem Ak {xs:List Z3} {many:Nat} (h:¬Wn xs many<0):(YK xs:Int)<=Wn xs many/\Wn xs many<xs.length/\∃s,xs[(Wn xs many).toNat]? = some s/\QA many s/\Ar xs (Wn xs many)=s:=by
 obtain ⟨h1,h2,s,h3,h4⟩:=Ly h om
 have hl:=Dh xs
 rw [Jk] at h2
 have h1':(YK xs:Int)<=Wn xs many:=h1
 have h2':Wn xs many<xs.length:=by unfold Wn;omega
 rw [II,show Wb many (xs.drop (YK xs)) (YK xs)=Wn xs many from rfl,show YK xs+(Wn xs many-(YK xs:Int)).toNat=(Wn xs many).toNat by omega] at h3
 exact ⟨h1',h2',s,h3,h4,by rw [Ar,h3];rfl⟩
theorem Z8p {f:Z3->Z3} (hop:∀s,(f s).op=s.op) (hin:∀s,(f s).into=s.into) (har:∀s,(f s).args=s.args) (hc:∀x,f (Zw 17 x)=Zw 17 x) (hi:∀v s,f (Qe v s)=Qe v (f s)) (xs:List Z3) (x:Int) (many:Nat) :
  U1 (xs.map f) x many=(U1 xs x many).map f:=by
 rw [U1,Z80 hop har,SB hop hin har,U1]
 split
 ·rfl
 ·rename_i hq
  obtain ⟨_,_,s,h3,_,h5⟩:=Ak (fun z=>hq (.inr z))
  have e:Ar (xs.map f) (Wn xs many)=f (Ar xs (Wn xs many)):=by rw [Ar,Ki,h3,h5];rfl
  rw [e,List.map_set,List.map_set,hc,hi]
theorem OP {ds:List Zd} {K:LI} {b:Z5} {x:Int} {many:Nat}:Wq ds K (VV b x many)=VV (Wq ds K b) x many:=by
 rw [VV,Wq,VV,Fp,Fs,Fs]
 show Z5.mk _ _=Z5.mk (U1 (b.steps.map (Ql ds K)) x many) b.result
 rw [Z8p (f:=Ql ds K) (fun s=>by rw [AG];rfl) (fun s=>by rw [AG];rfl) (fun s=>by rw [AG];rfl) (fun x=>by rw [AG];rfl) (fun v s=>by rw [AG,AG];rfl)]
def U5 (op:Int) (c:LI):LI:=if Y8 op=true then c.set (op-14).toNat (gI c (op-14)+1) else c
mutual
def Kk:Z3->LI->LI
 | .mk op _ _ _ kids,c=>VY kids (U5 op c)
def VY:List Z5->LI->LI
 | [],c=>c
 | b::r,c=>VY r (Uw b c)
def Uk:List Z3->LI->LI
 | [],c=>c
 | s::r,c=>Uk r (Kk s c)
def Uw:Z5->LI->LI
 | .mk steps _,c=>Uk steps c
end
theorem Sv (s:Z3) (c:LI):Kk s c=VY s.kids (U5 s.op c):=by cases s;rw [Kk];rfl
theorem Sq (b:Z5) (c:LI):Uw b c=Uk b.steps c:=by cases b;rw [Uw];rfl
theorem Sw {xs:List Z3} {k:Nat} {s:Z3} {c r:LI} (h:xs[k]? = some s) (ha:Uk (xs.drop k) c=r):Uk (xs.drop (k+1)) (VY s.kids (U5 s.op c))=r:=by
 rw [Y3 h,Uk,Sv] at ha;exact ha
theorem Su {xs:List Z3} {k:Nat} {c r:LI} (h:xs.length<=k) (ha:Uk (xs.drop k) c=r):c=r:=by
 rw [X5 h,Uk] at ha;exact ha
theorem Sr {xs:List Z5} {k:Nat} {s:Z5} {c r:LI} (h:xs[k]? = some s) (ha:VY (xs.drop k) c=r):VY (xs.drop (k+1)) (Uw s c)=r:=by
 rw [Y3 h,VY] at ha;exact ha
theorem Sp {xs:List Z5} {k:Nat} {c r:LI} (h:xs.length<=k) (ha:VY (xs.drop k) c=r):c=r:=by
 rw [X5 h,VY] at ha;exact ha
structure CB (c:LI) (q:Int):Prop where
 len:c.length=4
 bd:∀x∈c,0<=x/\x<=q
theorem CB.le {c:LI} {q p:Int} (h:CB c q) (hq:q<=p):CB c p:=⟨h.len,fun x hx=>by have:=h.bd x hx;omega⟩
theorem CB.at {c:LI} {q:Int} (h:CB c q) {i:Int} (hi:i.toNat<4):0<=gI c i/\gI c i<=q:=h.bd _ (by rw [gI,A5 (by rw [h.len];exact hi)];exact List.getElem_mem _)
theorem CB.one {c:LI} {q:Int} (h:CB c q) (_:0<=q) (op:Int):CB (U5 op c) (q+1):=by
 rw [U5]
 split
 ·rename_i ho
  have ho':14<=op/\op<=17:=by simpa [Y8] using ho
  refine ⟨by rw [T3];exact h.len,fun x hx=>?_⟩
  rcases Kw hx with hx|rfl
  ·have:=h.bd x hx;omega
  ·have:=h.at (i:=op-14) om;omega
 ·exact h.le om
mutual
theorem CB.s:∀(s:Z3) {c:LI} {q:Int},CB c q->0<=q->CB (Kk s c) (q+s.sz)
 | .mk op num into args kids,c,q,h,hq=>by
  have:=CB.bs kids (h.one hq op) om
  rw [Kk,Z3.sz];exact this.le om
theorem CB.bs:∀(bs:List Z5) {c:LI} {q:Int},CB c q->0<=q->CB (VY bs c) (q+YG bs)
 | [],c,q,h,hq=>by rw [VY,YG];exact h.le om
 | b::r,c,q,h,hq=>by
  have:=CB.bs r (CB.b b h hq) om
  rw [VY,YG];exact this.le om
theorem CB.ss:∀(xs:List Z3) {c:LI} {q:Int},CB c q->0<=q->CB (Uk xs c) (q+Yd xs)
 | [],c,q,h,hq=>by rw [Uk,Yd];exact h.le om
 | s::r,c,q,h,hq=>by
  have:=CB.ss r (CB.s s h hq) om
  rw [Uk,Yd];exact this.le om
theorem CB.b:∀(b:Z5) {c:LI} {q:Int},CB c q->0<=q->CB (Uw b c) (q+b.sz)
 | .mk steps result,c,q,h,hq=>by
  have:=CB.ss steps h hq
  rw [Uw,Z5.sz];exact this.le om
end
mutual
def JT:Z3->Prop
 | .mk op _ _ _ kids=>op≠17/\Ky kids
def Ky:List Z5->Prop
 | []=>True
 | b::r=>Tk b/\Ky r
def Kz:List Z3->Prop
 | []=>True
 | s::r=>JT s/\Kz r
def Tk:Z5->Prop
 | .mk steps _=>Kz steps
end
theorem Ce (s:Z3):JT s↔s.op≠17/\Ky s.kids:=by cases s;rw [JT];rfl
theorem Dk (b:Z5):Tk b↔Kz b.steps:=by cases b;rw [Tk];rfl
theorem Dl:∀{xs:List Z3},Kz xs↔∀s∈xs,JT s
 | []=>by simp [Kz]
 | s::r=>by rw [Kz,Dl];simp
theorem Fe:∀{xs:List Z5},Ky xs↔∀s∈xs,Tk s
 | []=>by simp [Ky]
 | s::r=>by rw [Ky,Fe];simp
theorem Sk (op:Int) (c:LI):(U5 op c).length=c.length:=by rw [U5];split<;>simp
theorem Sn {op:Int} {c:LI} (hl:c.length=4):gI c 3<=gI (U5 op c) 3/\(gI (U5 op c) 3=gI c 3->op≠17):=by
 rw [U5]
 split
 ·rename_i ho
  have ho':14<=op/\op<=17:=by simpa [Y8] using ho
  by_cases h:op=17
  ·subst h
   rw [Hb (x:=17-14) (j:=3) om om]
   show gI c 3<=gI c 3+1/\_
   refine ⟨by omega,fun e=>?_⟩
   have:gI c 3+1=gI c 3:=e
   omega
  ·rw [Hc om];exact ⟨Int.le_refl _,fun _=>h⟩
 ·rename_i ho
  exact ⟨Int.le_refl _,fun _ h=>ho (by rw [h];rfl)⟩
mutual
theorem Lu:∀(s:Z3) {c:LI},c.length=4->(Kk s c).length=4/\gI c 3<=gI (Kk s c) 3/\(gI (Kk s c) 3=gI c 3->JT s)
 | .mk op num into args kids,c,hl=>by
  have h1:=Sn (op:=op) hl
  obtain ⟨h2,h3,h4⟩:=Lq kids (c:=U5 op c) (by rw [Sk];exact hl)
  rw [Kk,JT]
  exact ⟨h2,by omega,fun e=>⟨h1.2 om,h4 om⟩⟩
theorem Lq:∀(bs:List Z5) {c:LI},c.length=4->(VY bs c).length=4/\gI c 3<=gI (VY bs c) 3/\(gI (VY bs c) 3=gI c 3->Ky bs)
 | [],c,hl=>by rw [VY,Ky];exact ⟨hl,Int.le_refl _,fun _=>True.intro⟩
 | b::r,c,hl=>by
  obtain ⟨h2,h3,h4⟩:=E9 b hl
  obtain ⟨h5,h6,h7⟩:=Lq r h2
  rw [VY,Ky]
  exact ⟨h5,by omega,fun e=>⟨h4 om,h7 om⟩⟩
theorem Lv:∀(xs:List Z3) {c:LI},c.length=4->(Uk xs c).length=4/\gI c 3<=gI (Uk xs c) 3/\(gI (Uk xs c) 3=gI c 3->Kz xs)
 | [],c,hl=>by rw [Uk,Kz];exact ⟨hl,Int.le_refl _,fun _=>True.intro⟩
 | b::r,c,hl=>by
  obtain ⟨h2,h3,h4⟩:=Lu b hl
  obtain ⟨h5,h6,h7⟩:=Lv r h2
  rw [Uk,Kz]
  exact ⟨h5,by omega,fun e=>⟨h4 om,h7 om⟩⟩
theorem E9:∀(b:Z5) {c:LI},c.length=4->(Uw b c).length=4/\gI c 3<=gI (Uw b c) 3/\(gI (Uw b c) 3=gI c 3->Tk b)
 | .mk steps result,c,hl=>by rw [Uw,Tk];exact Lv steps hl
end
def UN:List ZX->LI->LI
 | [],c=>c
 | r::rs,c=>UN rs (Uw r.body c)
theorem St {xs:List ZX} {k:Nat} {s:ZX} {c r:LI} (h:xs[k]? = some s) (ha:UN (xs.drop k) c=r):UN (xs.drop (k+1)) (Uw s.body c)=r:=by
 rw [Y3 h,UN] at ha;exact ha
theorem Ss {xs:List ZX} {k:Nat} {c r:LI} (h:xs.length<=k) (ha:UN (xs.drop k) c=r):c=r:=by
 rw [X5 h,UN] at ha;exact ha
theorem Ls:∀(rs:List ZX) {c:LI},c.length=4->(UN rs c).length=4/\gI c 3<=gI (UN rs c) 3/\(gI (UN rs c) 3=gI c 3->∀r∈rs,Tk r.body)
 | [],c,hl=>by rw [UN];exact ⟨hl,Int.le_refl _,fun _ r hr=>by cases hr⟩
 | r::rs,c,hl=>by
  obtain ⟨h2,h3,h4⟩:=E9 r.body hl
  obtain ⟨h5,h6,h7⟩:=Ls rs h2
  rw [UN]
  refine ⟨h5,by omega,fun e q hq=>?_⟩
  rcases YB.1 hq with rfl|hq
  ·exact h4 om
  ·exact h7 om q hq
def Eb (n:Zq):LI:=UN n.routines [0,0,0,0]
theorem FL:∀{xs:List Z3} {i:Nat} {s:Z3} (t:Z3),xs[i]? = some s->Yd (xs.set i t)+s.sz=Yd xs+t.sz
 | [],_,_,_,h=>by simp at h
 | x::r,0,s,t,h=>by simp at h;subst h;rw [List.set_cons_zero,Yd,Yd];omega
 | x::r,i+1,s,t,h=>by
  have:=FL (xs:=r) (i:=i) t (by simpa using h)
  rw [List.set_cons_succ,Yd,Yd];omega
theorem Z5p (v:Int) (s:Z3):(Qe v s).sz=s.sz:=by cases s;rw [Qe,Z3.sz,Z3.sz];rfl
theorem LA {xs:List Z3} {x:Int} {many:Nat} (h:¬(V7 xs x<0∨Wn xs many<0)):(V7 xs x).toNat<(Wn xs many).toNat:=by
 obtain ⟨h1,h2,_⟩:=Dq (fun z=>h (.inl z))
 obtain ⟨h3,h4,_⟩:=Ak (fun z=>h (.inr z))
 omega
theorem Fo {xs:List Z3} {x:Int} {many:Nat} (h:¬(V7 xs x<0∨Wn xs many<0)) {t:Z3} {s:Z3} (hs:xs[(Wn xs many).toNat]? = some s):(xs.set (V7 xs x).toNat t)[(Wn xs many).toNat]? = some s:=by
 have:=LA h
 rw [List.getElem?_set_ne om];exact hs
theorem OF {xs:List Z3} {x:Int} {many:Nat} (h:∀s∈xs,Y8 s.op=true->2<=s.sz):Yd (U1 xs x many)<=Yd xs:=by
 rw [U1]
 split
 ·exact YR _
 ·rename_i hq
  obtain ⟨_,_,s,h3,h4,_⟩:=Dq (fun z=>hq (.inl z))
  obtain ⟨_,_,t,h5,_,h6⟩:=Ak (fun z=>hq (.inr z))
  have e1:=FL (Zw 17 x) h3
  have e2:=FL (Qe (1+x) (Ar xs (Wn xs many))) (Fo hq (t:=Zw 17 x) h5)
  have h7:=h s (Y0 h3) (by rw [h4];rfl)
  rw [Ec] at e1
  rw [Z5p,h6] at e2
  rw [h6]
  omega
section
variable {ds:List Zd}
theorem Zd8 {v:Int} {s:Z3} (h:wS ds s) (h6:s.op=6):wS ds (Qe v s):=by
 obtain ⟨h1,h2,h3,h4⟩:=(KI s).1 h
 exact (KI _).2 ⟨h1,fun hc=>absurd hc (by show ¬Y8 s.op=true;rw [h6];decide),h3,h4⟩
theorem Zd6 {v:Int}:wS ds (Zw 17 v):=(KI _).2 ⟨rfl,fun _=>⟨rfl,rfl,rfl,v,rfl⟩,fun e=>absurd e (show (17:Int)≠8 by decide),True.intro⟩
theorem Zd5 {xs:List Z3} {x:Int} {many:Nat} (h:Tw ds xs):Tw ds (U1 xs x many):=by
 rw [U1]
 split
 ·exact h
 ·rename_i hq
  obtain ⟨_,_,t,h5,h7,h6⟩:=Ak (fun z=>hq (.inr z))
  rw [A0]
  intro s hs
  rcases List.mem_or_eq_of_mem_set hs with hs|rfl
  ·rcases List.mem_or_eq_of_mem_set hs with hs|rfl
   ·exact A0.1 h s hs
   ·exact Zd6
  ·rw [h6];exact Zd8 (A0.1 h t (Y0 h5)) h7.1.1
theorem Zd4 {b:Z5} {x:Int} {many:Nat} (h:wB ds b):wB ds (VV b x many):=by rw [VV,Kg];exact Zd5 ((Kg b).1 h)
variable (hd:XZ ds)
mutual
theorem Z9g:∀(s:Z3) {K:LI},wS ds s->(Ql ds K s).sz<=s.sz
 | .mk op num into args kids,K,h=>by
  have:=OS kids (K:=K) (op:=op) (num:=num) (args:=args) (k:=0) h.2.2.2
  rw [Ql,Z3.sz,Z3.sz];omega
theorem OS:∀(bs:List Z5) {K:LI} {op num:Int} {args:LI} {k:Nat},Kh ds bs->YG (Up ds K op num args bs k)<=YG bs
 | [],_,_,_,_,_,_=>YR _
 | b::r,K,op,num,args,k,h=>by
  have h2:=OS r (K:=K) (op:=op) (num:=num) (args:=args) (k:=k+1) h.2
  have key:∀K2:LI,(VV (Wq ds K2 b) (gI args 0) (Ul ds num k).length).sz<=b.sz:=fun K2=>by
   have h1:=I6 b (K:=K2) h.1
   have h3:=OF (xs:=(Wq ds K2 b).steps) (x:=gI args 0) (many:=(Ul ds num k).length) (by
    rw [Fp,Fs]
    intro s hs hc
    obtain ⟨t,ht,rfl⟩:=Xy.1 hs
    rw [AG] at hc ⊢
    obtain ⟨_,_,a,ha⟩:=DO (A0.1 ((Kg b).1 h.1) t ht) hc
    rw [Z3.sz,ha];simp)
   rw [VV,Z5.sz]
   rw [Z5.sz_eq] at h1
   omega
  rw [Up,YG,YG]
  split
  ·have:=key (if V7 b.steps (gI args 0)<0∨Wn b.steps (Ul ds num k).length<0 then K else gI args 0::K)
   omega
  ·have:=I6 b (K:=K) h.1
   omega
theorem OU:∀(xs:List Z3) {K:LI},Tw ds xs->Yd (Uq ds K xs)<=Yd xs
 | [],_,_=>YR _
 | s::r,K,h=>by
  have h1:=Z9g s (K:=K) h.1
  have h2:=OU r (K:=K) h.2
  rw [Uq,Yd,Yd];omega
theorem I6:∀(b:Z5) {K:LI},wB ds b->(Wq ds K b).sz<=b.sz
 | .mk steps result,K,h=>by
  have:=OU steps (K:=K) h
  rw [Wq,Z5.sz,Z5.sz];omega
end
end
theorem HH:∀{xs:List Z3} {i:Nat} {s t:Z3},xs[i]? = some s->Y8 t.op=Y8 s.op->YK (xs.set i t)=YK xs
 | [],_,_,_,h,_=>by simp at h
 | x::r,0,s,t,h,e=>by simp at h;subst h;rw [List.set_cons_zero,YK,YK,e]
 | x::r,i+1,s,t,h,e=>by
  rw [List.set_cons_succ,YK,YK,HH (xs:=r) (i:=i) (by simpa using h) e]
theorem Z6k {xs:List Z3} {x:Int} {many:Nat}:YK (U1 xs x many)=YK xs:=by
 rw [U1]
 split
 ·rfl
 ·rename_i hq
  obtain ⟨_,_,s,h3,h4,_⟩:=Dq (fun z=>hq (.inl z))
  obtain ⟨_,_,t,h5,_,h6⟩:=Ak (fun z=>hq (.inr z))
  rw [HH (Fo hq (t:=Zw 17 x) h5) (by rw [h6];rfl),HH h3 (by rw [h4];rfl)]
theorem L7 {op x:Int}:∀{xs:List Z3} {k:Int},(∀s∈xs,s.op≠op)->XN op x xs k=-1
 | [],_,_=>rfl
 | s::r,k,h=>by
  rw [XN,Z9 (fun z=>h s (X1 ..) z.1)]
  exact L7 fun t ht=>h t (Xl _ ht)
theorem L8 {op x:Int}:∀{xs:List Z3} {k:Int},0<=k->(∃s∈xs,s.op=op/\gI s.args 0=x)->0<=XN op x xs k
 | [],_,_,h=>by obtain ⟨s,hs,_⟩:=h;cases hs
 | s::r,k,hk,h=>by
  rw [XN]
  split
  ·exact hk
  ·rename_i q
   obtain ⟨t,ht,h1⟩:=h
   rcases YB.1 ht with rfl|ht
   ·exact absurd h1 q
   ·exact L8 om ⟨t,ht,h1⟩
theorem PP {xs:List Z3} {x:Int} {many:Nat} (hn:Kz xs):0<=XN 17 x ((U1 xs x many).take (YK (U1 xs x many))) 0↔¬(V7 xs x<0∨Wn xs many<0):=by
 rw [Z6k]
 constructor
 ·intro h hq
  rw [U1,Zk hq,L7 (fun s hs=>((Ce s).1 (Dl.1 hn s (TK hs))).1)] at h
  omega
 ·intro hq
  obtain ⟨h1,h2,s,h3,h4,_⟩:=Dq (fun z=>hq (.inl z))
  have hap:=LA hq
  refine L8 (Int.le_refl 0) ⟨Zw 17 x,?_,rfl,rfl⟩
  rw [U1,Z9 hq]
  refine Y0 (i:=(V7 xs x).toNat) ?_
  rw [List.getElem?_take_of_lt om,List.getElem?_set_ne om,List.getElem?_set_self (XA.1 h3).1]
def AA (b:Z5):Prop:=∀s∈b.steps,Ky s.kids
theorem Br {b:Z5} (h:Tk b):AA b:=fun s hs=>((Ce s).1 (Dl.1 ((Dk b).1 h) s hs)).2
theorem Z7g {b:Z5} {k j:Nat} {s:Z3} {c:Z5} (h:AA b) (hs:b.steps[k]? = some s) (hc:s.kids[j]? = some c):Tk c:=Fe.1 (h s (Y0 hs)) c (Y0 hc)
theorem NO {b:Z5} {x:Int} {many:Nat} (h:Tk b):AA (VV b x many):=by
 intro s hs
 have hs:s∈U1 b.steps x many:=hs
 rw [U1] at hs
 split at hs
 ·exact Br h s hs
 ·rename_i hq
  obtain ⟨_,_,t,h5,_,h6⟩:=Ak (fun z=>hq (.inr z))
  rcases List.mem_or_eq_of_mem_set hs with hs|rfl
  ·rcases List.mem_or_eq_of_mem_set hs with hs|rfl
   ·exact Br h s hs
   ·exact True.intro
  ·rw [h6];exact Br h t (Y0 h5)
theorem Z8o {ds:List Zd} {b:Z5} {x:Int} {many:Nat} (h:wB ds b):(VV b x many).sz<=b.sz:=by
 have:=OF (xs:=b.steps) (x:=x) (many:=many) fun s hs hc=>by
  have h7:=G8 ((Kg b).1 h) s hs hc
  rw [h7,Ec];omega
 rw [VV,Z5.sz,b.sz_eq];omega
def AF (ds:List Zd) (r:ZX):ZX:=⟨r.params,r.lent,r.result,Wq ds [] r.body⟩
def Fq (n:Zq):Zq:=⟨n.decls,n.routines.map (AF n.decls)⟩
theorem Z1c {xs ys:LI} (h:xs.length=ys.length) (ha:∀i,i<xs.length->xs[i]? = ys[i]?):xs=ys:=List.ext_getElem? fun i=>by
 by_cases hi:i<xs.length
 ·exact ha i hi
 ·rw [Ct om,Ct om]
theorem Z0j {n:Zq} {us:LI} {s:Z3} (h:¬Y5 n us s<0):Xt s.op=!Y8 s.op:=by
 obtain ⟨op,num,into,args,kids⟩:=s
 rw [Y5] at h
 show Xt op=!Y8 op
 by_cases h0:(0<=op/\op<=11)∨(14<=op/\op<=17)
 ·rcases h0 with h0|h0
  ·have e1:Xt op=true:=by simp [Xt];omega
   have e2:Y8 op=false:=by simp [Y8];omega
   rw [e1,e2];rfl
  ·have e1:Xt op=false:=by simp [Xt];omega
   have e2:Y8 op=true:=by simp [Y8];omega
   rw [e1,e2];rfl
 ·exfalso
  apply h
  repeat' split
  all_goals first|omega|decide
mutual
def Z1.sz:Z1->Nat
 | .mk _ _ kids=>1+Xh kids
def Xh:List Z1->Nat
 | []=>0
 | e::r=>e.sz+Xh r
end
theorem Z1.sz_eq (e:Z1):e.sz=1+Xh e.kids:=by cases e;rw [Z1.sz];rfl
theorem CP:∀xs ys:List Z1,Xh (xs++ys)=Xh xs+Xh ys
 | [],ys=>by simp [Xh]
 | x::r,ys=>by rw [Tx,Xh,Xh,CP r];omega
theorem Be:∀{xs:List Z1} {k:Nat} {e:Z1},xs[k]? = some e->e.sz<=Xh xs
 | [],k,e,h=>by simp at h
 | x::r,0,e,h=>by simp at h;subst h;rw [Xh];omega
 | x::r,k+1,e,h=>by have:=Be (xs:=r) (k:=k) (by simpa using h);rw [Xh];omega
theorem LZ:∀{xs:List Z1},xs.length<=Xh xs
 | []=>Qu _
 | x::r=>by have:=LZ (xs:=r);have:=x.sz_eq;rw [Xh,YH];omega
def Jw:Zd:=⟨0,0,[⟨[]⟩,⟨[0,1]⟩]⟩
def Jx:Zd:=⟨0,0,[⟨[]⟩,⟨[3,0,3]⟩]⟩
def LH:List Zd:=[⟨0,0,[⟨[1,3]⟩]⟩,⟨1,0,[]⟩,⟨0,0,[⟨[1,1,0]⟩,⟨[0]⟩,⟨[3]⟩]⟩,⟨0,1,[]⟩]
def JI:List (List Zd):=[[Jw,⟨0,0,[]⟩,Jx],[Jw,⟨0,0,[]⟩,Jx,⟨0,0,[⟨[1,3]⟩]⟩],[Jw,⟨0,0,[]⟩,Jx,⟨1,0,[]⟩],[Jw,⟨0,0,[]⟩,Jx,⟨0,0,[⟨[1,1,0]⟩,⟨[0]⟩,⟨[3]⟩]⟩],[Jw,⟨0,0,[]⟩,Jx,⟨0,1,[]⟩]]
def GD (ds:List Zd):Prop:=ds∈JI
theorem GD.ok {ds:List Zd} (h:GD ds):XZ ds:=by
 have k:=(by decide:∀ds∈JI,ds.length<=4/\(∀d∈ds,d.cons.length<=3)/\∀d∈ds,∀c∈d.cons,c.fields.length<=3) ds h
 exact ⟨k.1,k.2.1,k.2.2⟩
theorem GD.len {ds:List Zd} (h:GD ds):3<=ds.length/\ds.length<=4:=by
 exact (by decide:∀ds∈JI,3<=ds.length/\ds.length<=4) ds h
def K6 (t:Int):Prop:=t=0∨t=1∨t=3
instance (t:Int):Decidable (K6 t):=inferInstanceAs (Decidable (_∨_∨_))
theorem GD.low {ds:List Zd} (h:GD ds):ZQ ds 0=[]/\ZQ ds 1=[0,1]/\ZQ ds 2=[]/\ZQ ds 3=[2,3]/\ZP ds 0=[]/\ZP ds 1=[0,1]/\ZP ds 2=[]/\ZP ds 3=[3,0,3]:=
 (by decide:∀ds∈JI,ZQ ds 0=[]/\ZQ ds 1=[0,1]/\ZQ ds 2=[]/\ZQ ds 3=[2,3]/\ZP ds 0=[]/\ZP ds 1=[0,1]/\ZP ds 2=[]/\ZP ds 3=[3,0,3]) ds h
theorem GD.fields {ds:List Zd} (h:GD ds):∀c∈ZQ ds 1++(ZQ ds 3++ZQ ds 4),∀t∈ZP ds c,K6 t:=
 (by decide:∀ds∈JI,∀c∈ZQ ds 1++(ZQ ds 3++ZQ ds 4),∀t∈ZP ds c,K6 t) ds h
theorem GD.cons_cases {ds:List Zd} (h:GD ds) {t:Int} {c:Int} (hc:c∈ZQ ds t):(0<=c/\c<=9)/\(t=1∨t=3∨t=4)/\(ZP ds c).length<=3/\∀u∈ZP ds c,K6 u:=by
 have ht:1<=t/\t<=ds.length:=by
  by_cases q:1<=t/\t<=ds.length
  ·exact q
  ·rw [ZQ,Z9 q] at hc;cases hc
 have hl:=h.len
 have hlow:=h.low
 have key:∀c∈ZQ ds 1++(ZQ ds 3++ZQ ds 4),0<=c/\c<=9:=
  (by decide:∀ds∈JI,∀c∈ZQ ds 1++(ZQ ds 3++ZQ ds 4),0<=c/\c<=9) ds h
 have h4:t=1∨t=2∨t=3∨t=4:=by omega
 have hf:=h.fields
 have hd:=VP h.ok c
 rcases h4 with rfl|rfl|rfl|rfl
 ·exact ⟨key c (X4.2 (.inl hc)),.inl rfl,hd,hf c (X4.2 (.inl hc))⟩
 ·rw [hlow.2.2.1] at hc;cases hc
 ·exact ⟨key c (X4.2 (.inr (X4.2 (.inl hc)))),.inr (.inl rfl),hd,hf c (X4.2 (.inr (X4.2 (.inl hc))))⟩
 ·exact ⟨key c (X4.2 (.inr (X4.2 (.inr hc)))),.inr (.inr rfl),hd,hf c (X4.2 (.inr (X4.2 (.inr hc))))⟩
def KN:List (LI × Int):=[([],0),([1],0),([1,1],1),([1],1),([1,0],1),([2,1],1),([1,1],0),([3],0),([0],1),([0,1],1),([3,0],3),([3],1),([1,3,0],0),([0],0),([0,0],0),([1,0],0)]
def T4 (f:Func):Prop:=(f.params,f.result)∈KN
theorem T4.bd {f:Func} (h:T4 f):f.params.length<=3/\(∀t∈f.params,0<=t/\t<=3)/\K6 f.result:=by
 have key:∀q∈KN,q.1.length<=3/\(∀t∈q.1,0<=t/\t<=3)/\K6 q.2:=by decide
 exact key _ h
theorem T4.clo {ds:List Zd} {f:Func} (hd:GD ds) (h:T4 f) (hp:0<VO ds (gI f.params ((f.params.length:Int)-1)) f.result):∀t∈f.params.dropLast,K6 t:=by
 have key:∀q∈KN,0<VO ds (gI q.1 ((q.1.length:Int)-1)) q.2->∀t∈q.1.dropLast,K6 t:=
  (by decide +kernel:∀ds∈JI,∀q∈KN,0<VO ds (gI q.1 ((q.1.length:Int)-1)) q.2->∀t∈q.1.dropLast,K6 t) ds hd
 exact key _ h hp
structure GP (p:XM):Prop where
 decls:GD p.decls
 len:1<=p.funcs.length/\p.funcs.length<=4
 sigs:∀f∈p.funcs,T4 f
def Tp (ds:List Zd) (op num:Int) (m:Nat) (k:Nat):Nat:=
 if op=13 then m+k else if op=8 then (if k=0 then m else m+(ZP ds (gI (ZQ ds num) ((k:Int)-1))).length) else m
mutual
def eW (ds:List Zd) (nf:Nat):Nat->Z1->Prop
 | m,.mk op num kids=>(0<=op/\op<=13)/\(op=12->kids=[]/\0<=num/\num<m)/\(op=13->kids.length=2)/\(op=7->kids.length=3)/\(op=8->kids.length=1+(ZQ ds num).length)/\(op=9->0<=num/\num<nf)/\(-2000<=num/\num<=2000)/\kids.length<=4 /\
  Q8 ds nf (Tp ds op num m) 0 kids
def Q8 (ds:List Zd) (nf:Nat) (sc:Nat->Nat):Nat->List Z1->Prop
 | _,[]=>True
 | k,e::r=>eW ds nf (sc k) e/\Q8 ds nf sc (k+1) r
end
theorem Z17 {ds:List Zd} {nf m:Nat} (e:Z1):eW ds nf m e↔(0<=e.op/\e.op<=13)/\(e.op=12->e.kids=[]/\0<=e.num/\e.num<m)/\(e.op=13->e.kids.length=2)/\(e.op=7->e.kids.length=3)/\(e.op=8->e.kids.length=1+(ZQ ds e.num).length)/\(e.op=9->0<=e.num/\e.num<nf)/\(-2000<=e.num/\e.num<=2000)/\e.kids.length<=4 /\
  Q8 ds nf (Tp ds e.op e.num m) 0 e.kids:=by cases e;rw [eW];rfl
theorem BT {ds:List Zd} {nf:Nat} {sc:Nat->Nat}:∀{xs:List Z1} {j k:Nat} {e:Z1},Q8 ds nf sc j xs->xs[k]? = some e->eW ds nf (sc (j+k)) e
 | [],j,k,e,_,h=>by simp at h
 | x::r,j,0,e,hw,h=>by simp at h;subst h;exact hw.1
 | x::r,j,k+1,e,hw,h=>by
  have:=BT (xs:=r) (j:=j+1) (k:=k) hw.2 (by simpa using h)
  rw [show j+(k+1)=j+1+k by omega];exact this
theorem LU {ds:List Zd} {nf:Nat} {sc:Nat->Nat}:∀{xs ys:List Z1} {j:Nat},Q8 ds nf sc j (xs++ys)↔Q8 ds nf sc j xs/\Q8 ds nf sc (j+xs.length) ys
 | [],ys,j=>by simp [Q8]
 | x::r,ys,j=>by
  rw [Tx,Q8,Q8,LU (xs:=r),and_assoc,YH,show j+1+r.length=j+(r.length+1) by omega]
theorem GY {ds:List Zd} {nf m:Nat} {sc:Nat->Nat} (hs:∀k,sc k=m):∀{xs:List Z1} {j:Nat},(∀e∈xs,eW ds nf m e)->Q8 ds nf sc j xs
 | [],_,_=>True.intro
 | x::r,j,h=>⟨by rw [hs];exact h x (X1 ..),GY hs fun e he=>h e (Xl _ he)⟩
theorem Bd {ds:List Zd} {nf m:Nat} {op num:Int} {kids:List Z1} (ho:0<=op/\op<=11/\op≠7/\op≠8) (hc:op=9->0<=num/\num<nf) (hn:-2000<=num/\num<=2000) (hl:kids.length<=4) (hk:∀e∈kids,eW ds nf m e):eW ds nf m (.mk op num kids):=by
 rw [eW]
 refine ⟨by omega,fun h=>by omega,fun h=>by omega,fun h=>by omega,fun h=>by omega,hc,hn,hl,GY (m:=m) (fun k=>?_) hk⟩
 rw [Tp,Z9 om,Z9 om]
theorem Z18 {ds:List Zd} {nf m:Nat} {z:Int} (hz:-2000<=z/\z<=2000):eW ds nf m (.mk 0 z []):=Bd om (fun h=>by omega) hz (by simp) (fun e he=>by cases he)
theorem Z19 {ds:List Zd} {nf m:Nat} {z:Int} (hz:0<=z/\z<m) (hm:m<=2000):eW ds nf m (.mk 12 z []):=by
 rw [eW]
 exact ⟨by omega,fun _=>⟨rfl,hz⟩,fun h=>by omega,fun h=>by omega,fun h=>by omega,fun h=>by omega,by omega,by simp,True.intro⟩
theorem LS {ds:List Zd} {nf m:Nat} {num:Int} {kids:List Z1} (hn:-2000<=num/\num<=2000) (hl:kids.length=3) (hk:∀e∈kids,eW ds nf m e):eW ds nf m (.mk 7 num kids):=by
 rw [eW]
 refine ⟨by omega,fun h=>by omega,fun h=>by omega,fun _=>hl,fun h=>by omega,fun h=>by omega,hn,by omega,GY (m:=m) (fun k=>?_) hk⟩
 rw [Tp,Z9 om,Z9 om]
theorem LT {ds:List Zd} {nf m:Nat} {num:Int} {a b:Z1} (hn:-2000<=num/\num<=2000) (ha:eW ds nf m a) (hb:eW ds nf (m+1) b):eW ds nf m (.mk 13 num [a,b]):=by
 rw [eW]
 exact ⟨by omega,fun h=>by omega,fun _=>rfl,fun h=>by omega,fun h=>by omega,fun h=>by omega,hn,by simp,ha,hb,True.intro⟩
theorem GX {ds:List Zd} {nf m:Nat} {num:Int} {a:Z1} {arms:List Z1} (hn:-2000<=num/\num<=2000) (h3:arms.length<=3) (hl:arms.length=(ZQ ds num).length) (ha:eW ds nf m a) (hk:Q8 ds nf (Tp ds 8 num m) 1 arms):eW ds nf m (.mk 8 num (a::arms)):=by
 rw [eW]
 refine ⟨by omega,fun h=>by omega,fun h=>by omega,fun h=>by omega,fun _=>by rw [YH];omega,fun h=>by omega,hn,by rw [YH];omega,?_,hk⟩
 rw [Tp,Z9 om,Zk rfl,Zk rfl]
 exact ha
def bS (b:Nat):Nat:=max 4 (10*b-10)
def bC (b:Nat):Nat:=max 40 (100*b-100)
def YN:List Z3->Nat
 | []=>0
 | s::r=>(if Y8 s.op=true then 0 else 1)+YN r
theorem Ko:∀xs ys:List Z3,YN (xs++ys)=YN xs+YN ys
 | [],ys=>by simp [YN]
 | x::r,ys=>by rw [Tx,YN,YN,Ko r];omega
theorem Bb:∀xs:List Z3,YN xs<=xs.length
 | []=>YR _
 | x::r=>by have:=Bb r;rw [YN,YH];split<;>omega
def UF (ds:List Zd) (op num:Int) (m:Nat) (k:Nat):Nat:=if op=8 then m+(ZP ds (gI (ZQ ds num) k)).length else m
mutual
def fS (ds:List Zd) (nf:Nat):Nat->Z3->Prop
 | m,.mk op num into args kids=>((0<=op/\op<=11)∨(14<=op/\op<=17))/\(∀a∈args,0<=a/\a<m)/\(14<=op->num=0/\into=0/\kids=[]/\∃a,args=[a])/\(op=7->kids.length=2)/\(op=8->kids.length=(ZQ ds num).length)/\(op=7∨op=8->∃a,args=[a]) /\
  (op=9->0<=num/\num<nf)/\(-2000<=num/\num<=2000)/\(0<=into/\into<=m)/\args.length<=4/\(op≠7/\op≠8->kids=[])/\Tg ds nf (UF ds op num m) 0 kids
def Tg (ds:List Zd) (nf:Nat) (sc:Nat->Nat):Nat->List Z5->Prop
 | _,[]=>True
 | k,b::r=>fB ds nf (sc k) b/\Tg ds nf sc (k+1) r
def UQ (ds:List Zd) (nf:Nat):Nat->List Z3->Prop
 | _,[]=>True
 | m,s::r=>fS ds nf m s/\UQ ds nf (if Y8 s.op=true then m else m+1) r
def fB (ds:List Zd) (nf:Nat):Nat->Z5->Prop
 | m,.mk steps result=>UQ ds nf m steps/\0<=result/\result<(m+YN steps:Nat)
end
section
variable {ds:List Zd} {nf:Nat}
structure FS (ds:List Zd) (nf m:Nat) (s:Z3):Prop where
 op:(0<=s.op/\s.op<=11)∨(14<=s.op/\s.op<=17)
 args:∀a∈s.args,0<=a/\a<m
 cnt:14<=s.op->s.num=0/\s.into=0/\s.kids=[]/\∃a,s.args=[a]
 k7:s.op=7->s.kids.length=2
 k8:s.op=8->s.kids.length=(ZQ ds s.num).length
 one:s.op=7∨s.op=8->∃a,s.args=[a]
 call:s.op=9->0<=s.num/\s.num<nf
 num:-2000<=s.num/\s.num<=2000
 into:0<=s.into/\s.into<=m
 alen:s.args.length<=4
 kn:s.op≠7/\s.op≠8->s.kids=[]
 kids:Tg ds nf (UF ds s.op s.num m) 0 s.kids
theorem Es {m:Nat} (s:Z3):fS ds nf m s↔FS ds nf m s:=by
 cases s
 rw [fS]
 exact ⟨fun ⟨h1,h2,h3,h4,h5,h6,h7,h8,h9,h10,h11,h12⟩=>⟨h1,h2,h3,h4,h5,h6,h7,h8,h9,h10,h11,h12⟩,fun h=>⟨h.op,h.args,h.cnt,h.k7,h.k8,h.one,h.call,h.num,h.into,h.alen,h.kn,h.kids⟩⟩
theorem CR {m:Nat} (b:Z5):fB ds nf m b↔UQ ds nf m b.steps/\0<=b.result/\b.result<(m+YN b.steps:Nat):=by cases b;rw [fB];rfl
theorem CS {sc:Nat->Nat}:∀{xs:List Z5} {j k:Nat} {b:Z5},Tg ds nf sc j xs->xs[k]? = some b->fB ds nf (sc (j+k)) b
 | [],j,k,b,_,h=>by simp at h
 | x::r,j,0,b,hw,h=>by simp at h;subst h;exact hw.1
 | x::r,j,k+1,b,hw,h=>by
  have:=CS (xs:=r) (j:=j+1) (k:=k) hw.2 (by simpa using h)
  rw [show j+(k+1)=j+1+k by omega];exact this
theorem M1 {sc:Nat->Nat}:∀{xs ys:List Z5} {j:Nat},Tg ds nf sc j (xs++ys)↔Tg ds nf sc j xs/\Tg ds nf sc (j+xs.length) ys
 | [],ys,j=>by simp [Tg]
 | x::r,ys,j=>by
  rw [Tx,Tg,Tg,M1 (xs:=r),and_assoc,YH,show j+1+r.length=j+(r.length+1) by omega]
theorem M2 {sc:Nat->Nat} {xs:List Z5} {b:Z5} (h:Tg ds nf sc 0 xs) (hb:fB ds nf (sc xs.length) b):Tg ds nf sc 0 (xs++[b]):=
 M1.2 ⟨h,by rw [WS];exact hb,True.intro⟩
theorem BV:∀{xs ys:List Z3} {m:Nat},UQ ds nf m (xs++ys)↔UQ ds nf m xs/\UQ ds nf (m+YN xs) ys
 | [],ys,m=>by simp [UQ,YN]
 | x::r,ys,m=>by
  rw [Tx,UQ,UQ,BV (xs:=r),and_assoc,YN]
  by_cases h:Y8 x.op=true
  ·rw [Zk h,Zk h,WS]
  ·rw [Z9 h,Z9 h,A6]
theorem Et {xs:List Z3} {s:Z3} {m:Nat} (h:UQ ds nf m xs) (hs:fS ds nf (m+YN xs) s):UQ ds nf m (xs++[s]):=BV.2 ⟨h,hs,True.intro⟩
theorem CT:∀{xs:List Z3} {k m:Nat} {s:Z3},UQ ds nf m xs->xs[k]? = some s->fS ds nf (m+YN (xs.take k)) s
 | [],k,m,s,_,h=>by simp at h
 | x::r,0,m,s,hw,h=>by simp at h;subst h;exact hw.1
 | x::r,k+1,m,s,hw,h=>by
  have:=CT (xs:=r) (k:=k) hw.2 (by simpa using h)
  rw [BB,YN]
  by_cases hc:Y8 x.op=true
  ·rw [Zk hc] at this ⊢;rw [WS];exact this
  ·rw [Z9 hc] at this ⊢;rw [<-A6];exact this
mutual
theorem Zda:∀(s:Z3) {m:Nat},fS ds nf m s->m+4*s.sz<=900000000->XZ ds->wS ds s
 | .mk op num into args kids,m,h,hb,hd=>by
  rw [fS] at h
  obtain ⟨h1,h2,h3,h4,h5,h6,h7,h8,h9,h10,h11,h12⟩:=h
  rw [Z3.sz] at hb
  rw [wS]
  refine ⟨?_,fun hc=>h3 (show 14<=op/\op<=17 by simpa [Y8] using hc).1,fun h8'=>⟨?_,h5 h8'⟩,Re kids h12 (fun k=>?_) hd⟩
  ·rcases h1 with h1|h1
   ·have e1:Y8 op=false:=by simp [Y8];omega
    have e2:Xt op=true:=by simp [Xt];omega
    rw [e1,e2];rfl
   ·have e1:Y8 op=true:=by simp [Y8];omega
    have e2:Xt op=false:=by simp [Xt];omega
    rw [e1,e2];rfl
  ·obtain ⟨a,ha⟩:=h6 (.inr h8')
   have:=h2 a (by rw [ha];exact XT.2 rfl)
   exact ⟨a,ha,by omega⟩
  ·have hf:=VP hd (gI (ZQ ds num) k)
   show UF ds op num m k+4*YG kids<=900000003
   rw [UF];split<;>omega
theorem Re:∀(bs:List Z5) {sc:Nat->Nat} {k:Nat},Tg ds nf sc k bs->(∀k,sc k+4*YG bs<=900000003)->XZ ds->Kh ds bs
 | [],_,_,_,_,_=>True.intro
 | b::r,sc,k,h,hb,hd=>by
  have hp:=b.sz_eq
  exact ⟨Rc b h.1 (by have:=hb k;rw [YG] at this;omega) hd,Re r h.2 (fun j=>by have:=hb j;rw [YG] at this;omega) hd⟩
theorem Rg:∀(xs:List Z3) {m:Nat},UQ ds nf m xs->m+4*Yd xs<=900000000->XZ ds->Tw ds xs
 | [],_,_,_,_=>True.intro
 | s::r,m,h,hb,hd=>by
  rw [Yd] at hb
  have hp:=s.sz_pos
  refine ⟨Zda s h.1 om hd,Rg r h.2 ?_ hd⟩
  split<;>omega
theorem Rc:∀(b:Z5) {m:Nat},fB ds nf m b->m+4*b.sz<=900000004->XZ ds->wB ds b
 | .mk steps result,m,h,hb,hd=>by
  rw [Z5.sz] at hb
  rw [fB] at h
  rw [wB]
  exact Rg steps h.1 om hd
end
mutual
theorem Z8t:∀(s:Z3) {m:Nat},fS ds nf m s->s.rng
 | .mk op num into args kids,m,h=>by
  rw [fS] at h
  obtain ⟨h1,h2,h3,h4,h5,h6,h7,h8,h9,h10,h11,h12⟩:=h
  rw [Z3.rng]
  exact ⟨by omega,OH kids h12⟩
theorem OH:∀(bs:List Z5) {sc:Nat->Nat} {k:Nat},Tg ds nf sc k bs->T5 bs
 | [],_,_,_=>True.intro
 | b::r,sc,k,h=>⟨I0 b h.1,OH r h.2⟩
theorem OI:∀(xs:List Z3) {m:Nat},UQ ds nf m xs->Tt xs
 | [],_,_=>True.intro
 | s::r,m,h=>⟨Z8t s h.1,OI r h.2⟩
theorem I0:∀(b:Z5) {m:Nat},fB ds nf m b->b.rng
 | .mk steps result,m,h=>by rw [fB] at h;rw [Z5.rng];exact OI steps h.1
end
end
structure FN (n:Zq) (q:Nat):Prop where
 decls:GD n.decls
 len:1<=n.routines.length/\n.routines.length<=4
 sigs:∀r∈n.routines,(r.params,r.result)∈KN
 lent:∀r∈n.routines,r.lent.length<=3/\∀i∈r.lent,0<=i/\i<r.params.length
 body:∀r∈n.routines,fB n.decls n.routines.length r.params.length r.body/\r.body.sz<=q
theorem FN.ok {n:Zq} {q:Nat} (h:FN n q):X2 n:=
 ⟨h.decls.ok,h.len.2,fun r hr=>(T4.bd (f:=⟨r.params,r.result,default⟩) (h.sigs r hr)).1,fun r hr=>by have:=(h.lent r hr).1;omega⟩
def Pk (n k:Int):Prop:=0<=k/\(0<n->k<n)/\(n<=0->k=0)
theorem Pk.lt {n k:Int} (h:Pk n k) (hn:0<n):0<=k/\k<n:=⟨h.1,h.2.1 hn⟩
theorem Pk.zero {n:Int}:Pk n 0:=⟨Int.le_refl _,fun h=>h,fun _=>rfl⟩
theorem Pk.rem {n a:Int} (ha:0<=a) (hn:0<n):Pk n (a % n):=⟨Int.emod_nonneg _ om,fun _=>Int.emod_lt_of_pos _ hn,fun _=>by omega⟩
def AD (ds:List Zd):Prop:=ds.length<=8/\∀d∈ds,d.cons.length<=4/\∀c∈d.cons,c.fields.length<=4
theorem GD.ad {ds:List Zd} (h:GD ds):AD ds:=(by decide:∀ds∈JI,ds.length<=8/\∀d∈ds,d.cons.length<=4/\∀c∈d.cons,c.fields.length<=4) ds h
theorem AD.set {ds:List Zd} (h:AD ds) (k:Nat) {d:Zd} (hd:d.cons.length<=4/\∀c∈d.cons,c.fields.length<=4):AD (ds.set k d):=
 ⟨by rw [T3];exact h.1,fun x hx=>(List.mem_or_eq_of_mem_set hx).elim (h.2 x) fun e=>by rw [e];exact hd⟩
theorem AD.app {ds es:List Zd} (h:AD ds) (hl:ds.length+es.length<=8) (hd:∀d∈es,d.cons.length<=4/\∀c∈d.cons,c.fields.length<=4):AD (ds++es):=
 ⟨by rw [Ym];exact hl,fun x hx=>(X4.1 hx).elim (h.2 x) (hd x)⟩
theorem GD.three:GD [Jw,⟨0,0,[]⟩,Jx]:=List.Mem.head _
theorem GD.four:∀{k:Nat} {x:Zd},LH[k]? = some x->GD ([Jw,⟨0,0,[]⟩,Jx]++[x])
 | 0,x,h=>by cases h;exact .tail _ (.head _)
 | 1,x,h=>by cases h;exact .tail _ (.tail _ (.head _))
 | 2,x,h=>by cases h;exact .tail _ (.tail _ (.tail _ (.head _)))
 | 3,x,h=>by cases h;exact .tail _ (.tail _ (.tail _ (.tail _ (.head _))))
 | k+4,x,h=>by simp [LH] at h
theorem AB {l:LI} {z a b:Int} (h:z∈l) (hl:l.all (fun x=>decide (a<=x/\x<=b))=true):a<=z/\z<=b:=by
 have:=KJ.1 hl z h
 exact of_decide_eq_true this
def rk (t:Int):Nat:=if K6 t then 0 else 1
theorem HZ (t:Int):rk t<=1:=by rw [rk];split<;>omega
theorem OG {t:Int} (h:K6 t):rk t=0:=Zk h
def SE (g:XM) (q:Nat) (e:Z1):Prop:=(∀m,eW g.decls g.funcs.length m e)/\e.sz<=q
def GE (g:XM) (m q:Nat) (e:Z1):Prop:=eW g.decls g.funcs.length m e/\e.sz<=q
theorem SE.ge {g:XM} {q q' m:Nat} {e:Z1} (h:SE g q e) (hq:q<=q'):GE g m q' e:=⟨h.1 m,WR h.2 hq⟩
theorem GE.le {g:XM} {m q q':Nat} {e:Z1} (h:GE g m q e) (hq:q<=q'):GE g m q' e:=⟨h.1,WR h.2 hq⟩
theorem Er {m:Nat}:∀{xs:List Z1},(∀e∈xs,e.sz<=m)->Xh xs<=xs.length*m
 | [],_=>Qu _
 | x::r,h=>by
  have h1:=h x (X1 ..)
  have h2:=Er (xs:=r) fun e he=>h e (Xl _ he)
  rw [Xh,YH,TL];omega
theorem Xj {α:Type} {p:α->Prop} {xs:List α} {a:α} (h:∀x∈xs,p x) (ha:p a):∀x∈xs++[a],p x:=fun x hx=>(X4.1 hx).elim (h x) fun q=>by rw [XT.1 q];exact ha
theorem SE.int {g:XM} {z:Int} {q:Nat} (hz:-2000<=z/\z<=2000) (hq:1<=q):SE g q (.mk 0 z []):=⟨fun _=>Z18 hz,by simpa [Z1.sz,Xh] using hq⟩
theorem SE.node {g:XM} {op num:Int} {ys:List Z1} {q k:Nat} (ho:op=6∨op=10) (hn:0<=num/\num<=2000) (hy:∀e∈ys,SE g 1 e) (hl:ys.length<=k) (hk:k<=3) (hq:1+k<=q):SE g q (.mk op num ys):=by
 refine ⟨fun m=>Bd om (fun h=>by omega) om om fun e he=>(hy e he).1 m,?_⟩
 have:=Er (xs:=ys) (m:=1) fun e he=>(hy e he).2
 rw [Z1.sz];omega
def Ac (ds:List Zd) (t c:Int):Prop:=(0<=c/\c<=9)/\(ZP ds c).length<=3*rk t/\∀u∈ZP ds c,K6 u
instance (ds:List Zd) (t c:Int):Decidable (Ac ds t c):=inferInstanceAs (Decidable (_/\_/\_))
theorem P3 {ds:List Zd} (h:GD ds):∀t∈[(1:Int),2,3,4],∀c∈ZQ ds t,(t∈ZP ds c->∀c0,(ZQ ds t)[0]? = some c0->Ac ds t c0)/\(¬t∈ZP ds c->Ac ds t c):=by
 intro t ht c hc
 have k1:=(by decide:∀ds∈JI,∀t∈[(1:Int),2,3,4],∀c∈ZQ ds t,(t∈ZP ds c->Ac ds t (gI (ZQ ds t) 0))/\(¬t∈ZP ds c->Ac ds t c)) ds h t ht c hc
 refine ⟨fun q c0 h0=>?_,k1.2⟩
 have:=k1.1 q
 rwa [UR (i:=0) h0] at this
theorem LE {ds:List Zd} (h:GD ds) {t c:Int} (hc:c∈ZQ ds t):t∈[(1:Int),2,3,4]:=by
 obtain ⟨_,h2,_⟩:=h.cons_cases hc
 rcases h2 with rfl|rfl|rfl<;>simp
theorem Z9y {ds:List Zd} (h:GD ds) {t c c0:Int} (hc:c∈ZQ ds t) (ht:t∈ZP ds c) (h0:(ZQ ds t)[0]? = some c0):Ac ds t c0:=(P3 h t (LE h hc) c hc).1 ht c0 h0
theorem Z9x {ds:List Zd} (h:GD ds) {t c:Int} (hc:c∈ZQ ds t) (ht:¬t∈ZP ds c):Ac ds t c:=(P3 h t (LE h hc) c hc).2 ht
theorem Z8s {ds:List Zd} (h:GD ds) {t:Int} (h0:(ZQ ds t).length=0) (ht:0<t):rk t=1:=by
 rw [rk,Z9]
 rintro (q|q|q)
 ·omega
 ·rw [q,h.low.2.1] at h0;cases h0
 ·rw [q,h.low.2.2.2.1] at h0;cases h0
def Jo (g:XM) (t i:Int):Prop:=0<=i/\∃f,g.funcs[i.toNat]? = some f/\0<f.params.length/\VO g.decls (gI f.params ((f.params.length:Int)-1)) f.result=t
theorem Jo.lt {g:XM} {t i:Int} (h:Jo g t i):0<=i/\i<g.funcs.length:=by
 obtain ⟨h1,f,h2,_⟩:=h
 have:=(XA.1 h2).1
 omega
theorem Jo.mk {g:XM} {t x2:Int} {k:Nat} {f:Func} (hf:g.funcs[k]? = some f) (hl:0<f.params.length) (hx:f.params[f.params.length-1]? = some x2) (ha:VO g.decls x2 f.result=t):Jo g t (k:Int):=by
 refine ⟨by omega,f,by simpa using hf,hl,?_⟩
 rw [UR (i:=(f.params.length:Int)-1) (by rw [show ((f.params.length:Int)-1).toNat=f.params.length-1 by omega];exact hx)]
 exact ha
theorem Jo.low {g:XM} {t i u:Int} {f:Func} {j:Nat} (hg:GP g) (h:Jo g t i) (ht:0<t) (hf:g.funcs[i.toNat]? = some f) (hj:j+1<f.params.length) (hu:f.params[j]? = some u):rk u=0:=by
 obtain ⟨_,f',h2,_,h4⟩:=h
 have e:f'=f:=A7 (h2.symm.trans hf)
 subst e
 have h5:=(hg.sigs f' (Y0 hf)).clo hg.decls (by rw [h4];exact ht)
 refine OG (h5 u ?_)
 rw [List.dropLast_eq_take]
 exact Y0 (i:=j) (by rw [List.getElem?_take_of_lt om];exact hu)
end Go.Abs
section
namespace Go.Abs
theorem KR (b:Nat):bS b=max 4 (10*b-10):=rfl
theorem KQ (b:Nat):bC b=max 40 (100*b-100):=rfl
theorem Dj {L q b:Nat} (hL:L<=3) (hb:3<=b) (hq:L*q<=b-1):1+L*bS q<=bS b:=by
 rw [KR,KR]
 have:L=0∨L=1∨L=2∨L=3:=by omega
 rcases this with rfl|rfl|rfl|rfl<;>omega
theorem Z74 {L q b:Nat} (hL:L<=3) (hb:3<=b) (hq:L*q<=b-2):5+L*bS q<=bS b:=by
 rw [KR,KR]
 have:L=0∨L=1∨L=2∨L=3:=by omega
 rcases this with rfl|rfl|rfl|rfl<;>omega
theorem Z6x {b:Nat} (hb:3<=b):1+(bS (b / 2)+bS (b / 2))<=bS b:=by rw [KR,KR];omega
theorem RJ {b:Nat} (hb:3<=b):5+bS (b-2)<=bS b:=by rw [KR,KR];omega
theorem JS {L q b:Nat} (hL:L<=3) (hb:3<=b) (hq:L*q<=b-1):10+L*bC q<=bC b:=by
 rw [KQ,KQ]
 have:L=0∨L=1∨L=2∨L=3:=by omega
 rcases this with rfl|rfl|rfl|rfl<;>omega
theorem Z73 {L q b:Nat} (hL:L<=3) (hb:3<=b) (hq:L*q<=b-2):40+L*bC q<=bC b:=by
 rw [KQ,KQ]
 have:L=0∨L=1∨L=2∨L=3:=by omega
 rcases this with rfl|rfl|rfl|rfl<;>omega
theorem Z6w {b:Nat} (hb:3<=b):10+(bC (b / 2)+bC (b / 2))<=bC b:=by rw [KQ,KQ];omega
theorem RI {b:Nat} (hb:3<=b):40+bC (b-2)<=bC b:=by rw [KQ,KQ];omega
theorem La (b:Nat):4<=bS b:=by rw [KR];omega
theorem L9 (b:Nat):40<=bC b:=by rw [KQ];omega
theorem TA (L b:Nat):L*(b / L)<=b:=Nat.mul_div_le b L
theorem NE {k L C:Nat} (h:k<L):(k+1)*C=k*C+C/\(k+1)*C<=L*C:=⟨by rw [TL,Nat.one_mul],Q2 C h⟩
theorem Co {ds:List Zd} {d x:Int} {m k:Nat} (h:(ZQ ds d)[k]? = some x):Tp ds 8 d m (1+k)=m+(ZP ds x).length:=by
 rw [Tp,Z9 om,Zk rfl,Z9 om,UR (i:=((1+k:Nat):Int)-1) (by rw [show (((1+k:Nat):Int)-1).toNat=k by omega];exact h)]
section
variable {g:XM} {m:Nat}
theorem GE.var {z:Int} {q:Nat} (hz:0<=z/\z<m) (hm:m<=2000) (hq:1<=q):GE g m q (.mk 12 z []):=⟨Z19 hz hm,by simpa [Z1.sz,Xh] using hq⟩
theorem GE.list {ys:List Z1} {L s:Nat} (h:∀e∈ys,GE g m s e) (hl:ys.length=L):Xh ys<=L*s:=by rw [<-hl];exact Er fun e he=>(h e he).2
theorem GE.node {op num:Int} {ys:List Z1} {L s q:Nat} (ho:0<=op/\op<=11/\op≠7/\op≠8) (hc:op=9->0<=num/\num<g.funcs.length) (hn:-2000<=num/\num<=2000) (h:∀e∈ys,GE g m s e) (hl:ys.length=L) (hL:L<=3) (hq:1+L*s<=q):GE g m q (.mk op num ys):=by
 have:=GE.list h hl
 exact ⟨Bd ho hc hn om fun e he=>(h e he).1,by rw [Z1.sz];omega⟩
theorem GE.if_ {num:Int} {ys:List Z1} {s q:Nat} (hn:-2000<=num/\num<=2000) (h:∀e∈ys,GE g m s e) (hl:ys.length=3) (hq:1+3*s<=q):GE g m q (.mk 7 num ys):=by
 have:=GE.list h hl
 exact ⟨LS hn hl fun e he=>(h e he).1,by rw [Z1.sz];omega⟩
theorem GE.let_ {a b:Z1} {s q:Nat} (ha:GE g m s a) (hb:GE g (m+1) s b) (hq:1+(s+s)<=q):GE g m q (.mk 13 0 [a,b]):=by
 refine ⟨LT om ha.1 hb.1,?_⟩
 have h1:=ha.2
 have h2:=hb.2
 simp only [Z1.sz,Xh];omega
theorem GE.two {op num:Int} {a b:Z1} {s1 s2 q:Nat} (ho:0<=op/\op<=11/\op≠7/\op≠8/\op≠9) (hn:-2000<=num/\num<=2000) (ha:GE g m s1 a) (hb:GE g m s2 b) (hq:1+(s1+s2)<=q):GE g m q (.mk op num [a,b]):=by
 refine ⟨Bd om (fun h=>by omega) hn (by simp) fun e he=>?_,?_⟩
 ·rcases YB.1 he with rfl|he
  ·exact ha.1
  ·rw [XT.1 he];exact hb.1
 ·have h1:=ha.2
  have h2:=hb.2
  simp only [Z1.sz,Xh];omega
theorem GE.match_ {d:Int} {e:Z1} {ys:List Z1} {L s q:Nat} (hd:-2000<=d/\d<=2000) (he:GE g m 4 e) (hw:Q8 g.decls g.funcs.length (Tp g.decls 8 d m) 1 ys) (hs:∀e∈ys,e.sz<=s) (hl:ys.length=L) (hL:L=(ZQ g.decls d).length) (h3:L<=3) (hq:5+L*s<=q):GE g m q (.mk 8 d (e::ys)):=by
 refine ⟨GX hd om om he.1 hw,?_⟩
 have h1:=Er hs
 rw [hl] at h1
 have h2:=he.2
 rw [Z1.sz,Xh];omega
end
def NL (s:Nat) (left w:Int):Prop:=((s:Int)<=left/\w=left-s)∨(left<s/\w=-1)
end Go.Abs
namespace Go.Abs
theorem Bq {L b p pp M:Nat} (hL:L<=3) (hb:3<=b) (h:pp<=p+8) (hp:p+(bC b-1)<=M):pp+L*bC ((b-1) / L)<=M:=by
 have:=JS hL hb (TA L (b-1))
 omega
end Go.Abs
end
namespace Go.Abs
theorem Z1h (a b:Z1):Xh [a,b]=a.sz+b.sz:=by simp only [Xh];omega
theorem Ep (a b c:Z1):Xh [a,b,c]=a.sz+b.sz+c.sz:=by simp only [Xh];omega
theorem CC:bS 3=20/\bS 4=30/\bS 12=110/\bS 16=150/\bS 18=170/\bC 3=200/\bC 4=300/\bC 16=1500:=by decide
theorem E0 {b:Nat} (h:b<=20):bS b<=190/\bC b<=1900/\(b<=2->bS b<=10):=by rw [KR,KQ];omega
section
variable {g:XM} {m:Nat}
theorem SE.ofs {op num:Int} {ys:List Z1} {q:Nat} (ho:0<=op/\op<=11/\op≠7/\op≠8/\op≠9) (hn:-2000<=num/\num<=2000) (hl:ys.length<=4) (hy:∀e∈ys,∃s,SE g s e) (hq:1+Xh ys<=q):SE g q (.mk op num ys):=
 ⟨fun m=>Bd om (fun h=>by omega) hn hl fun e he=>let ⟨_,h⟩:=hy e he;h.1 m,by rw [Z1.sz];exact hq⟩
theorem SE.nil {op num:Int} {q:Nat} (ho:0<=op/\op<=11/\op≠7/\op≠8/\op≠9) (hn:-2000<=num/\num<=2000) (hq:1<=q):SE g q (.mk op num []):=
 SE.ofs ho hn (by simp) (fun e he=>by cases he) (by simpa [Xh] using hq)
theorem SE.two {op num:Int} {a b:Z1} {s1 s2 q:Nat} (ho:0<=op/\op<=11/\op≠7/\op≠8/\op≠9) (hn:-2000<=num/\num<=2000) (ha:SE g s1 a) (hb:SE g s2 b) (hq:1+(s1+s2)<=q):SE g q (.mk op num [a,b]):=by
 refine SE.ofs ho hn (by simp) (fun e he=>?_) ?_
 ·rcases YB.1 he with rfl|he
  ·exact ⟨_,ha⟩
  ·rw [XT.1 he];exact ⟨_,hb⟩
 ·have h1:=ha.2
  have h2:=hb.2
  rw [Z1h];omega
theorem SE.three {op num:Int} {a b c:Z1} {s1 s2 s3 q:Nat} (ho:0<=op/\op<=11/\op≠7/\op≠8/\op≠9) (hn:-2000<=num/\num<=2000) (ha:SE g s1 a) (hb:SE g s2 b) (hc:SE g s3 c) (hq:1+(s1+s2+s3)<=q):SE g q (.mk op num [a,b,c]):=by
 refine SE.ofs ho hn (by simp) (fun e he=>?_) ?_
 ·rcases YB.1 he with rfl|he
  ·exact ⟨_,ha⟩
  ·rcases YB.1 he with rfl|he
   ·exact ⟨_,hb⟩
   ·rw [XT.1 he];exact ⟨_,hc⟩
 ·have h1:=ha.2
  have h2:=hb.2
  have h3:=hc.2
  rw [Ep];omega
theorem GE.int {z:Int} {q:Nat} (hz:-2000<=z/\z<=2000) (hq:1<=q):GE g m q (.mk 0 z []):=(SE.int (g:=g) (q:=q) hz hq).ge (YR _)
theorem GE.three {op num:Int} {a b c:Z1} {s1 s2 s3 q:Nat} (ho:0<=op/\op<=11/\op≠8/\op≠9) (hn:-2000<=num/\num<=2000) (ha:GE g m s1 a) (hb:GE g m s2 b) (hc:GE g m s3 c) (hq:1+(s1+s2+s3)<=q):GE g m q (.mk op num [a,b,c]):=by
 have hk:∀e∈[a,b,c],eW g.decls g.funcs.length m e:=fun e he=>by
  rcases YB.1 he with rfl|he
  ·exact ha.1
  ·rcases YB.1 he with rfl|he
   ·exact hb.1
   ·rw [XT.1 he];exact hc.1
 refine ⟨?_,?_⟩
 ·by_cases h7:op=7
  ·subst h7;exact LS hn rfl hk
  ·exact Bd om (fun h=>by omega) hn (by simp) hk
 ·have h1:=ha.2
  have h2:=hb.2
  have h3:=hc.2
  rw [Z1.sz,Ep];omega
theorem GE.one {op num:Int} {a:Z1} {s1 q:Nat} (ho:0<=op/\op<=11/\op≠7/\op≠8/\op≠9) (hn:-2000<=num/\num<=2000) (ha:GE g m s1 a) (hq:1+s1<=q):GE g m q (.mk op num [a]):=by
 refine ⟨Bd om (fun h=>by omega) hn (by simp) fun e he=>?_,?_⟩
 ·rw [XT.1 he];exact ha.1
 ·have h1:=ha.2
  simp only [Z1.sz,Xh];omega
theorem GE.letS {a b:Z1} {s1 s2 q:Nat} (ha:GE g m s1 a) (hb:GE g (m+1) s2 b) (hq:1+(s1+s2)<=q):GE g m q (.mk 13 0 [a,b]):=by
 refine ⟨LT om ha.1 hb.1,?_⟩
 have h1:=ha.2
 have h2:=hb.2
 simp only [Z1.sz,Xh];omega
theorem GE.matchL (hg:GP g) {e a b:Z1} {s1 s2 s3 q:Nat} (he:GE g m s1 e) (ha:GE g m s2 a) (hb:GE g (m+2) s3 b) (hq:1+(s1+s2+s3)<=q):GE g m q (.mk 8 1 [e,a,b]):=by
 have hl:=hg.decls.low
 refine ⟨GX om (by simp) (by rw [hl.2.1];rfl) he.1 ⟨?_,?_,True.intro⟩,?_⟩
 ·rw [Co (k:=0) (x:=0) (by rw [hl.2.1];rfl),hl.2.2.2.2.1];exact ha.1
 ·rw [Co (k:=1) (x:=1) (by rw [hl.2.1];rfl),hl.2.2.2.2.2.1];exact hb.1
 ·have h1:=he.2
  have h2:=ha.2
  have h3:=hb.2
  rw [Z1.sz,Ep];omega
theorem GE.matchT (hg:GP g) {e a b:Z1} {s1 s2 s3 q:Nat} (he:GE g m s1 e) (ha:GE g m s2 a) (hb:GE g (m+3) s3 b) (hq:1+(s1+s2+s3)<=q):GE g m q (.mk 8 3 [e,a,b]):=by
 have hl:=hg.decls.low
 refine ⟨GX om (by simp) (by rw [hl.2.2.2.1];rfl) he.1 ⟨?_,?_,True.intro⟩,?_⟩
 ·rw [Co (k:=0) (x:=2) (by rw [hl.2.2.2.1];rfl),hl.2.2.2.2.2.2.1];exact ha.1
 ·rw [Co (k:=1) (x:=3) (by rw [hl.2.2.2.1];rfl),hl.2.2.2.2.2.2.2];exact hb.1
 ·have h1:=he.2
  have h2:=ha.2
  have h3:=hb.2
  rw [Z1.sz,Ep];omega
theorem Gk {α:Type} {p:α->Prop} {a:α} (h:p a):∀x∈[a],p x:=fun x hx=>by rw [XT.1 hx];exact h
end
structure G9 (g:XM):Prop where
 gp:GP g
 body:∀f∈g.funcs,eW g.decls g.funcs.length f.params.length f.body/\f.body.sz<=30
structure GL (ds:List Zd) (k j:Nat) (rq:List Func):Prop where
 len:rq.length=4
 sigs:∀f∈rq,T4 f
 zero:∀f,rq[0]? = some f->f.params.length=0
 body:∀i f,j<=i->i<k->rq[i]? = some f->eW ds k f.params.length f.body/\f.body.sz<=30
theorem GL.gp {ds:List Zd} {k j:Nat} {rq:List Func} (h:GL ds k j rq) (hd:GD ds) (hk:1<=k/\k<=4):GP ⟨ds,rq.take k⟩:=
 ⟨hd,by show 1<=(rq.take k).length/\_;rw [Wm,h.len];omega,fun f hf=>h.sigs f (TK hf)⟩
theorem GL.len_take {ds:List Zd} {k j:Nat} {rq:List Func} (h:GL ds k j rq) (hk:k<=4):(rq.take k).length=k:=by rw [Wm,h.len];omega
theorem GL.set {ds:List Zd} {k j:Nat} {rq:List Func} {f:Func} {e:Z1} (h:GL ds k j rq) (hj:1<=j) (hf:rq[j-1]? = some f) (he:eW ds k f.params.length e/\e.sz<=30):GL ds k (j-1) (rq.set (j-1) ⟨f.params,f.result,e⟩):=by
 have hl:=(XA.1 hf).1
 refine ⟨by rw [T3];exact h.len,fun x hx=>?_,fun x hx=>?_,fun i x h1 h2 hx=>?_⟩
 ·rcases List.mem_or_eq_of_mem_set hx with hx|rfl
  ·exact h.sigs x hx
  ·exact h.sigs f (Y0 hf)
 ·rw [List.getElem?_set] at hx
  split at hx
  ·rename_i h0
   cases hx
   exact h.zero f (by rw [<-h0];exact hf)
  ·exact h.zero x hx
 ·rw [List.getElem?_set] at hx
  split at hx
  ·cases hx
   exact he
  ·exact h.body i x om h2 hx
theorem GL.done {ds:List Zd} {k:Nat} {rq:List Func} (h:GL ds k 0 rq) (hd:GD ds) (hk:1<=k/\k<=4):G9 ⟨ds,rq.take k⟩:=by
 refine ⟨h.gp hd hk,fun f hf=>?_⟩
 show eW ds (rq.take k).length _ _/\_
 rw [h.len_take hk.2]
 obtain ⟨i,hi⟩:=List.getElem?_of_mem hf
 have hi2:i<(rq.take k).length:=(XA.1 hi).1
 rw [h.len_take hk.2] at hi2
 rw [List.getElem?_take_of_lt hi2] at hi
 exact h.body i f om hi2 hi
theorem If {l:List Func} {f:Func} {k:Nat} (h:l[k]? = some f) (hl:l.all (fun f=>decide ((f.params,f.result)∈KN))=true):T4 f:=show (f.params,f.result)∈KN from of_decide_eq_true (KJ.1 hl f (Y0 h))
theorem GL.start {ds:List Zd} {k:Nat} {e:Z1} {a b c:Func} (ha:T4 a) (hb:T4 b) (hc:T4 c):GL ds k k [⟨[],0,e⟩,a,b,c]:=by
 refine ⟨rfl,fun f hf=>?_,fun f hf=>?_,fun i f h1 h2=>by omega⟩
 ·rcases YB.1 hf with rfl|hf
  ·exact List.Mem.head _
  ·rcases YB.1 hf with rfl|hf
   ·exact ha
   ·rcases YB.1 hf with rfl|hf
    ·exact hb
    ·rw [XT.1 hf];exact hc
 ·cases hf;rfl
theorem Z7l {l:LI} {k:Nat} {a b:Nat} (h:(k:Int)∈l) (hl:l.all (fun x=>decide ((a:Int)<=x/\x<=b))=true):a<=k/\k<=b:=by
 have:=of_decide_eq_true (KJ.1 hl _ h)
 omega
mutual
def Qi (p:Int->Prop):Z3->Prop
 | .mk op _ _ _ kids=>p op/\Qh p kids
def Qh (p:Int->Prop):List Z5->Prop
 | []=>True
 | b::r=>V0 p b/\Qh p r
def Tl (p:Int->Prop):List Z3->Prop
 | []=>True
 | s::r=>Qi p s/\Tl p r
def V0 (p:Int->Prop):Z5->Prop
 | .mk steps _=>Tl p steps
end
section
variable {p q:Int->Prop}
theorem Dp (s:Z3):Qi p s↔p s.op/\Qh p s.kids:=by cases s;rw [Qi];rfl
theorem Fh (b:Z5):V0 p b↔Tl p b.steps:=by cases b;rw [V0];rfl
theorem Cg:∀{xs:List Z5},Qh p xs↔∀b∈xs,V0 p b
 | []=>by simp [Qh]
 | b::r=>by rw [Qh,Cg];simp
theorem Bs:∀{xs:List Z3},Tl p xs↔∀b∈xs,Qi p b
 | []=>by simp [Tl]
 | b::r=>by rw [Tl,Bs];simp
theorem Fi {xs ys:List Z3}:Tl p (xs++ys)↔Tl p xs/\Tl p ys:=by simp only [Bs,X4];exact ⟨fun h=>⟨fun b hb=>h b (.inl hb),fun b hb=>h b (.inr hb)⟩,fun h b hb=>hb.elim (h.1 b) (h.2 b)⟩
theorem NW {xs:List Z5} {b:Z5} (h:Qh p xs) (hb:V0 p b):Qh p (xs++[b]):=Cg.2 (Xj (Cg.1 h) hb)
theorem Fj {xs:List Z3} {b:Z3} (h:Tl p xs) (hb:Qi p b):Tl p (xs++[b]):=Bs.2 (Xj (Bs.1 h) hb)
end
def Ws (op:Int):Prop:=op<=11
def Vc (op:Int):Prop:=op<=15
end Go.Abs
section
namespace Go.Abs
structure LW (ds:List Zd) (nf q:Nat) (e:Z1) (ys:List Z3) (v:Int):Prop where
 fs:UQ ds nf q ys
 v:0<=v/\v<(q+YN ys:Nat)
 sz:Yd ys<=6*e.sz
 op:Tl Ws ys
theorem LW.dn {ds:List Zd} {nf q:Nat} {e:Z1} {ys:List Z3} {v:Int} (h:LW ds nf q e ys v):YN ys<=6*e.sz/\ys.length<=6*e.sz:=by
 have h1:=Bb ys
 have h2:=KC ys
 have h3:=h.sz
 omega
structure LB (ds:List Zd) (nf q:Nat) (e:Z1) (b:Z5):Prop where
 fb:fB ds nf q b
 sz:b.sz<=1+6*e.sz
 op:V0 Ws b
section
variable {ds:List Zd} {nf q:Nat}
theorem CD:∀xs ys:List Z5,YG (xs++ys)=YG xs+YG ys
 | [],ys=>by simp [YG]
 | x::r,ys=>by rw [Tx,YG,YG,CD r];omega
theorem LW.block {e:Z1} {ys:List Z3} {v:Int} (h:LW ds nf q e ys v):LB ds nf q e ⟨ys,v⟩:=
 ⟨by rw [fB];exact ⟨h.fs,h.v⟩,by rw [Z5.sz];have:=h.sz;omega,by rw [V0];exact h.op⟩
theorem LW.var {e:Z1} {v:Int} (hv:0<=v/\v<q):LW ds nf q e [] v:=⟨True.intro,by simpa [YN] using hv,by simp [Yd],True.intro⟩
theorem LW.let_ {e a b:Z1} {ys zs:List Z3} {v1 v2:Int} (ha:LW ds nf q a ys v1) (hb:LW ds nf (q+YN ys) b zs v2) (he:a.sz+b.sz<e.sz):LW ds nf q e (ys++zs) v2:=by
 refine ⟨BV.2 ⟨ha.fs,hb.fs⟩,by rw [Ko,<-A6];exact hb.v,?_,Fi.2 ⟨ha.op,hb.op⟩⟩
 have h1:=ha.sz
 have h2:=hb.sz
 rw [T1];omega
theorem CJ {ys:List Z3} {s:Z3} (h:Y8 s.op=false):YN (ys++[s])=YN ys+1:=by
 rw [Ko]
 simp [YN,h]
theorem LW.node {e:Z1} {ys:List Z3} {as1:LI} (ho:0<=e.op/\e.op<=11/\e.op≠7/\e.op≠8) (hc:e.op=9->0<=e.num/\e.num<nf) (hn:-2000<=e.num/\e.num<=2000) (hf:UQ ds nf q ys) (ha:∀a∈as1,0<=a/\a<(q+YN ys:Nat)) (hl:as1.length<=4) (hs:Yd ys<=6*Xh e.kids) (hop:Tl Ws ys) :
  LW ds nf q e (ys++[⟨e.op,e.num,0,as1,[]⟩]) ((q+YN ys:Nat):Int):=by
 have hcb:Y8 e.op=false:=by simp [Y8];omega
 refine ⟨Et hf ?_,?_,?_,Fj hop (by rw [Qi];exact ⟨by show e.op<=11;omega,True.intro⟩)⟩
 ·rw [fS]
  exact ⟨.inl ⟨by omega,by omega⟩,ha,fun h=>by omega,fun h=>by omega,fun h=>by omega,fun h=>by omega,hc,hn,by omega,hl,fun _=>rfl,True.intro⟩
 ·rw [CJ (show Y8 (Z3.mk e.op e.num 0 as1 []).op=false from hcb)];omega
 ·rw [T1,e.sz_eq]
  simp only [Yd,Z3.sz,YG]
  omega
theorem LW.branch {e:Z1} {ys:List Z3} {v:Int} {bs:List Z5} {s0 sr:Nat} (ho:e.op=7∨e.op=8) (h7:e.op=7->bs.length=2) (h8:e.op=8->bs.length=(ZQ ds e.num).length) (hn:-2000<=e.num/\e.num<=2000) (hf:UQ ds nf q ys) (hv:0<=v/\v<(q+YN ys:Nat))
  (hb:Tg ds nf (UF ds e.op e.num (q+YN ys)) 0 bs) (hl:bs.length<=3) (h0:Yd ys<=6*s0) (h1:YG bs<=bs.length+6*sr) (hs:s0+sr<=Xh e.kids) (hop:Tl Ws ys) (hob:Qh Ws bs):LW ds nf q e (ys++[⟨e.op,e.num,0,[v],bs⟩]) ((q+YN ys:Nat):Int):=by
 have hcb:Y8 e.op=false:=by simp [Y8];omega
 refine ⟨Et hf ?_,?_,?_,Fj hop (by rw [Qi];exact ⟨by show e.op<=11;omega,hob⟩)⟩
 ·rw [fS]
  exact ⟨.inl ⟨by omega,by omega⟩,fun a ha=>by rw [XT.1 ha];exact hv,fun h=>by omega,h7,h8,fun _=>⟨v,rfl⟩,fun h=>by omega,hn,by omega,by simp,fun h=>by omega,hb⟩
 ·rw [CJ (show Y8 (Z3.mk e.op e.num 0 [v] bs).op=false from hcb)];omega
 ·rw [T1,e.sz_eq]
  simp only [Yd,Z3.sz,YH,Xg]
  omega
theorem P1 {ds:List Zd} {op num:Int} {m k:Nat} (h:op=13):Tp ds op num m k=m+k:=Zk h
theorem Z9v {ds:List Zd} {op num:Int} {m:Nat} (h:op≠13):Tp ds op num m 0=m:=by simp [Tp,h]
theorem P2 {ds:List Zd} {op num:Int} {m k:Nat} (h:op≠13/\op≠8):Tp ds op num m k=m:=by simp [Tp,h.1,h.2]
theorem Z9w {ds:List Zd} {op num x:Int} {m k j:Nat} (h:op=8) (hk:k=j+1) (hx:(ZQ ds num)[j]? = some x):Tp ds op num m k=m+(ZP ds x).length:=by
 subst h;subst hk;rw [Nat.add_comm j 1];exact Co hx
theorem Ia {ds:List Zd} {op num x:Int} {m j:Nat} (h:op=8) (hx:(ZQ ds num)[j]? = some x):UF ds op num m j=m+(ZP ds x).length:=by
 rw [UF,Zk h,UR (i:=(j:Int)) (by simpa using hx)]
theorem Ib {ds:List Zd} {op num:Int} {m j:Nat} (h:op≠8):UF ds op num m j=m:=Z9 h
theorem Ap {xs:List Z1} {k:Nat} {e:Z1} (h:xs[k]? = some e):Xh (xs.take (k+1))=Xh (xs.take k)+e.sz:=by rw [We h,CP,Xh,Xh];rfl
theorem JE {xs:List Z1} (k:Nat):Xh (xs.take k)<=Xh xs:=by
 have h:=Yc Xh (UK k xs)
 rw [CP] at h;omega
theorem M0 {xs:List Z1} {a b:Z1} (ha:xs[0]? = some a) (hb:xs[1]? = some b):a.sz+b.sz<=Xh xs:=by
 have h1:Xh (xs.take 1)=Xh (xs.take 0)+a.sz:=Ap ha
 have h2:Xh (xs.take 2)=Xh (xs.take 1)+b.sz:=Ap hb
 have h3:=JE (xs:=xs) 2
 omega
theorem DM {us:LI} {v:Int} {d:Nat} (hu:∀a∈us,0<=a/\a<(q:Int)) (hv:0<=v/\v<(q+d:Nat)):∀a∈us++[v],0<=a/\a<((q+d:Nat):Int):=
 Xj (fun a ha=>by have:=hu a ha;omega) hv
theorem FV {us:LI} {d:Nat} (hu:∀a∈us,0<=a/\a<(q:Int)):∀a∈us,0<=a/\a<((q+d:Nat):Int):=fun a ha=>by have:=hu a ha;omega
theorem Zcv {us ns:LI} {d mf:Nat} (hu:∀a∈us,0<=a/\a<(q:Int)) (hn:∀i∈ns,((q+d:Nat):Int)<=i/\i<((q+d:Nat):Int)+mf):∀a∈us++ns,0<=a/\a<((q+d+mf:Nat):Int):=fun a ha=>by
 rcases X4.1 ha with h|h
 ·have:=hu a h;omega
 ·have:=hn a h;omega
theorem E3:∀bs:List Z5,bs.length<=YG bs
 | []=>YR _
 | b::r=>by have:=E3 r;have:=b.sz_pos;rw [YG,YH];omega
end
end Go.Abs
namespace Go.Abs
structure RF (ds:List Zd) (nf q:Nat) (p:Int->Prop) (r:ZX):Prop where
 sig:(r.params,r.result)∈KN
 lent:r.lent.length<=3/\∀i∈r.lent,0<=i/\i<r.params.length
 body:fB ds nf r.params.length r.body/\r.body.sz<=q
 op:V0 p r.body
structure FO (n:Zq) (q:Nat) (p:Int->Prop):Prop where
 fn:FN n q
 op:∀r∈n.routines,V0 p r.body
theorem FO.rf {n:Zq} {q:Nat} {p:Int->Prop} (h:FO n q p) {r:ZX} (hr:r∈n.routines):RF n.decls n.routines.length q p r:=⟨h.fn.sigs r hr,h.fn.lent r hr,h.fn.body r hr,h.op r hr⟩
theorem FO.all {n:Zq} {q:Nat} {p:Int->Prop} (hd:GD n.decls) (hl:1<=n.routines.length/\n.routines.length<=4) (h:∀r∈n.routines,RF n.decls n.routines.length q p r):FO n q p:=
 ⟨⟨hd,hl,fun r hr=>(h r hr).sig,fun r hr=>(h r hr).lent,fun r hr=>(h r hr).body⟩,fun r hr=>(h r hr).op⟩
structure RN (ds:List Zd) (nf:Nat) (r:ZX):Prop where
 sig:(r.params,r.result)∈KN
 lent:r.lent=[]
 body:fB ds nf r.params.length r.body/\r.body.sz<=181
 op:V0 Ws r.body
theorem RN.all {n:Zq} {q:Nat} (hd:GD n.decls) (hl:1<=n.routines.length/\n.routines.length<=4) (h:∀r∈n.routines,RN n.decls n.routines.length r) (hq:181<=q):FO n q Ws:=
 FO.all hd hl fun r hr=>⟨(h r hr).sig,by rw [(h r hr).lent];exact ⟨by simp,fun i hi=>by cases hi⟩,⟨(h r hr).body.1,WR (h r hr).body.2 hq⟩,(h r hr).op⟩
end Go.Abs
namespace Go.Abs
theorem RN.of {ds:List Zd} {nf:Nat} {ps:LI} {rt:Int} {b:Z5} {e:Z1} (hs:(ps,rt)∈KN) (h:LB ds nf ps.length e b) (he:e.sz<=30):RN ds nf ⟨ps,[],rt,Z5.mk b.steps b.result⟩:=by
 have e1:Z5.mk b.steps b.result=b:=by cases b;rfl
 rw [e1]
 exact ⟨hs,rfl,⟨h.fb,by have:=h.sz;show b.sz<=181;omega⟩,h.op⟩
end Go.Abs
end
namespace Go.Abs
theorem Io:∀{xs:List Z3} {s:Z3},s∈xs->s.sz<=Yd xs
 | [],s,h=>by cases h
 | x::r,s,h=>by
  rw [Yd]
  rcases YB.1 h with rfl|h
  ·omega
  ·have:=Io h;omega
theorem Gr:∀{xs:List Z5} {b:Z5},b∈xs->b.sz<=YG xs
 | [],b,h=>by cases h
 | x::r,b,h=>by
  rw [YG]
  rcases YB.1 h with rfl|h
  ·omega
  ·have:=Gr h;omega
structure LC (n:Zq) (k:Nat) (xs:List LI):Prop where
 len:xs.length=k
 ok:∀(i:Nat) (l:LI),xs[i]? = some l->l.length<=3/\∀r,n.routines[i]? = some r->∀v∈l,0<=v/\v<(r.params.length:Int)
theorem LC.nil {n:Zq}:LC n 0 []:=⟨rfl,fun i l h=>by simp at h⟩
theorem LC.snoc {n:Zq} {k:Nat} {xs:List LI} {l:LI} (h:LC n k xs) (hl:l.length<=3) (hv:∀r,n.routines[k]? = some r->∀v∈l,0<=v/\v<(r.params.length:Int)):LC n (k+1) (xs++[l]):=by
 refine ⟨by rw [Ym,h.len];rfl,fun i l' hi=>?_⟩
 by_cases hk:i<xs.length
 ·rw [DQ hk] at hi
  exact h.ok i l' hi
 ·rw [DR om] at hi
  have h0:i-xs.length=0:=by
   cases e:i-xs.length with
   | zero=>rfl
   | succ q=>rw [e] at hi;simp at hi
  rw [h0] at hi
  cases hi
  have e:i=k:=by have:=h.len;omega
  subst e
  exact ⟨hl,hv⟩
def VJ:LI->Int->LI
 | [],y=>[y]
 | x::r,y=>if x>y then y::x::r else if x=y then x::r else x::VJ r y
def TG (d:Bool) (xs:LI) (y:Int):LI:=if d=true then xs else VJ xs y
theorem EV {xs:LI} {y:Int}:TG true xs y=xs:=rfl
theorem EU {xs:LI} {y:Int}:TG false xs y=VJ xs y:=rfl
theorem MV {xs acc r:LI} {y x:Int} {k:Nat} {d:Bool} (hx:xs[k]? = some x) (hd:d=true) (h:acc++TG d (xs.drop k) y=r):(acc++[x])++TG d (xs.drop (k+1)) y=r:=by
 subst hd
 rw [EV,Y3 hx] at h
 rw [EV,<-h];simp
theorem Z5m {xs acc r:LI} {y x:Int} {k:Nat} {d:Bool} (hx:xs[k]? = some x) (hd:¬d=true) (hl:¬x>=y) (h:acc++TG d (xs.drop k) y=r):(acc++[x])++TG d (xs.drop (k+1)) y=r:=by
 have hd:=Qs.2 hd
 subst hd
 rw [EU,Y3 hx,VJ,Z9 om,Z9 om] at h
 rw [EU,<-h];simp
theorem Z5n {xs acc r:LI} {y x:Int} {k:Nat} {d:Bool} (hx:xs[k]? = some x) (hd:¬d=true) (hl:x>y) (h:acc++TG d (xs.drop k) y=r):((acc++[y])++[x])++TG true (xs.drop (k+1)) y=r:=by
 have hd:=Qs.2 hd
 subst hd
 rw [EU,Y3 hx,VJ,Zk hl] at h
 rw [EV,<-h];simp
theorem Z5o {xs acc r:LI} {y x:Int} {k:Nat} {d:Bool} (hx:xs[k]? = some x) (hd:¬d=true) (hl:x=y) (h:acc++TG d (xs.drop k) y=r):(acc++[x])++TG true (xs.drop (k+1)) y=r:=by
 have hd:=Qs.2 hd
 subst hd
 rw [EU,Y3 hx,VJ,Z9 om,Zk hl] at h
 rw [EV,<-h];simp
theorem Z5l {xs acc acc2 r:LI} {y x:Int} {k:Nat} {d d2:Bool} (hx:xs[k]? = some x) (h:acc++TG d (xs.drop k) y=r)
  (hc:(acc2=acc/\d2=d/\(d=true∨¬x>=y))∨(acc2=acc++[y]/\d2=true/\¬d=true/\x>y)∨(acc2=acc/\d2=true/\¬d=true/\x=y)):(acc2++[x])++TG d2 (xs.drop (k+1)) y=r:=by
 rcases hc with ⟨rfl,rfl,h3⟩|⟨rfl,rfl,h3,h4⟩|⟨rfl,rfl,h3,h4⟩
 ·rcases h3 with h3|h3
  ·exact MV hx h3 h
  ·by_cases q:d2=true
   ·exact MV hx q h
   ·exact Z5m hx q h3 h
 ·exact Z5n hx h3 h4 h
 ·exact Z5o hx h3 h4 h
theorem Z5k {xs acc r:LI} {y:Int} {k:Nat} {d:Bool} (hk:xs.length<=k) (h:acc++TG d (xs.drop k) y=r):(if d=true then acc else acc++[y])=r:=by
 rw [X5 hk] at h
 by_cases q:d=true
 ·rw [TG,Zk q,Jj] at h;rw [Zk q];exact h
 ·rw [TG,Z9 q,VJ] at h;rw [Z9 q];exact h
theorem C6:∀(xs:LI) (y:Int),(VJ xs y).length<=xs.length+1
 | [],y=>YR _
 | x::r,y=>by
  have:=C6 r y
  rw [VJ]
  split
  ·simp
  ·split
   ·simp
   ·simp only [YH];omega
theorem Dc:∀{xs:LI} {y z:Int},z∈VJ xs y↔z∈xs∨z=y
 | [],y,z=>by simp [VJ]
 | x::r,y,z=>by
  rw [VJ]
  split
  ·simp only [YB];exact ⟨fun h=>h.elim .inr .inl,fun h=>h.elim .inr .inl⟩
  ·split
   ·rename_i h;subst h;simp only [YB];exact ⟨fun h=>.inl h,fun h=>h.elim id .inl⟩
   ·simp only [YB,Dc (xs:=r)];exact ⟨fun h=>by rcases h with h|h|h<;>simp [h],fun h=>by rcases h with (h|h)|h<;>simp [h]⟩
def AZ (xs:LI):Prop:=xs.Pairwise (·<·)
theorem MU:∀{xs:LI} {y:Int},AZ xs->AZ (VJ xs y)
 | [],y,_=>by simp [VJ,AZ]
 | x::r,y,h=>by
  obtain ⟨h1,h2⟩:=Wv.1 h
  rw [VJ]
  split
  ·rename_i q
   refine Wv.2 ⟨fun z hz=>?_,h⟩
   rcases YB.1 hz with rfl|hz
   ·omega
   ·have:=h1 z hz;omega
  ·split
   ·exact h
   ·refine Wv.2 ⟨fun z hz=>?_,MU h2⟩
    rcases Dc.1 hz with hz|rfl
    ·exact h1 z hz
    ·omega
def Tm:LI->Int->LI
 | [],_=>[]
 | x::r,y=>if x=y then Tm r y else x::Tm r y
theorem Dr:∀(xs:LI) (y:Int),(Tm xs y).length<=xs.length
 | [],y=>YR _
 | x::r,y=>by
  have:=Dr r y
  rw [Tm]
  split
  ·rw [YH];omega
  ·rw [YH,YH];omega
theorem Ch:∀{xs:LI} {y z:Int},z∈Tm xs y->z∈xs
 | [],y,z,h=>by rw [Tm] at h;exact h
 | x::r,y,z,h=>by
  rw [Tm] at h
  split at h
  ·exact Xl _ (Ch h)
  ·rcases YB.1 h with rfl|h
   ·exact X1 ..
   ·exact Xl _ (Ch h)
theorem Z87 {xs acc r:LI} {y x:Int} {k:Nat} (hx:xs[k]? = some x) (h:acc++Tm (xs.drop k) y=r):(if x≠y then acc++[x] else acc)++Tm (xs.drop (k+1)) y=r:=by
 rw [Y3 hx,Tm] at h
 by_cases q:x=y
 ·rw [Zk q] at h;rw [Z9 (fun z=>z q)];exact h
 ·rw [Z9 q] at h;rw [Zk q,<-h];simp
theorem Z86 {xs acc r:LI} {y:Int} {k:Nat} (hk:xs.length<=k) (h:acc++Tm (xs.drop k) y=r):acc=r:=by
 rw [X5 hk,Tm,Jj] at h;exact h
def Ug (n:Int) (xs:LI) (a:Int):LI:=if 0<=a/\a<n then VJ xs a else xs
def Q0 (n:Int):LI->LI->LI
 | [],xs=>xs
 | a::r,xs=>Q0 n r (Ug n xs a)
mutual
def KG (n:Int):Z3->LI->LI
 | .mk op _ _ args kids,xs=>if Y8 op=true then xs else Kd n kids (Q0 n args xs)
def Kd (n:Int):List Z5->LI->LI
 | [],xs=>xs
 | b::r,xs=>Kd n r (Ur n b xs)
def Us (n:Int):List Z3->LI->LI
 | [],xs=>xs
 | s::r,xs=>Us n r (KG n s xs)
def Ur (n:Int):Z5->LI->LI
 | .mk steps result,xs=>Ug n (Us n steps xs) result
end
section
variable {n:Int}
theorem R5 (s:Z3) (xs:LI):KG n s xs=if Y8 s.op=true then xs else Kd n s.kids (Q0 n s.args xs):=by cases s;rw [KG];rfl
theorem R3 (b:Z5) (xs:LI):Ur n b xs=Ug n (Us n b.steps xs) b.result:=by cases b;rw [Ur];rfl
theorem FU (xs:LI) (a:Int):(Ug n xs a).length<=xs.length+1:=by
 rw [Ug];split
 ·exact C6 xs a
 ·omega
theorem R0:∀(as1 xs:LI),(Q0 n as1 xs).length<=xs.length+as1.length
 | [],xs=>YR _
 | a::r,xs=>by
  have h1:=R0 r (Ug n xs a)
  have h2:=FU (n:=n) xs a
  rw [Q0,YH];omega
mutual
theorem R6:∀(s:Z3) (xs:LI),(KG n s xs).length<=xs.length+s.sz
 | .mk op num into args kids,xs=>by
  have h1:=R4 kids (Q0 n args xs)
  have h2:=R0 (n:=n) args xs
  rw [KG,Z3.sz];split<;>omega
theorem R4:∀(bs:List Z5) (xs:LI),(Kd n bs xs).length<=xs.length+YG bs
 | [],xs=>YR _
 | b::r,xs=>by
  have h1:=R4 r (Ur n b xs)
  have h2:=FT b xs
  rw [Kd,YG];omega
theorem IB:∀(bs:List Z3) (xs:LI),(Us n bs xs).length<=xs.length+Yd bs
 | [],xs=>YR _
 | b::r,xs=>by
  have h1:=IB r (KG n b xs)
  have h2:=R6 b xs
  rw [Us,Yd];omega
theorem FT:∀(b:Z5) (xs:LI),(Ur n b xs).length<=xs.length+b.sz
 | .mk steps result,xs=>by
  have h1:=IB steps xs
  have h2:=FU (n:=n) (Us n steps xs) result
  rw [Ur,Z5.sz];omega
end
theorem Zcq {as1 ys r:LI} {k:Nat} {a:Int} (h:as1[k]? = some a) (ha:Q0 n (as1.drop k) ys=r):Q0 n (as1.drop (k+1)) (Ug n ys a)=r:=by
 rw [Y3 h,Q0] at ha;exact ha
theorem Zcs {bs:List Z5} {ys r:LI} {k:Nat} {b:Z5} (h:bs[k]? = some b) (ha:Kd n (bs.drop k) ys=r):Kd n (bs.drop (k+1)) (Ur n b ys)=r:=by
 rw [Y3 h,Kd] at ha;exact ha
theorem Zcu {bs:List Z3} {ys r:LI} {k:Nat} {b:Z3} (h:bs[k]? = some b) (ha:Us n (bs.drop k) ys=r):Us n (bs.drop (k+1)) (KG n b ys)=r:=by
 rw [Y3 h,Us] at ha;exact ha
theorem Zcp {as1 ys r:LI} {k:Nat} (h:as1.length<=k) (ha:Q0 n (as1.drop k) ys=r):ys=r:=by rw [X5 h,Q0] at ha;exact ha
theorem Zcr {bs:List Z5} {ys r:LI} {k:Nat} (h:bs.length<=k) (ha:Kd n (bs.drop k) ys=r):ys=r:=by rw [X5 h,Kd] at ha;exact ha
theorem Zct {bs:List Z3} {ys r:LI} {k:Nat} (h:bs.length<=k) (ha:Us n (bs.drop k) ys=r):ys=r:=by rw [X5 h,Us] at ha;exact ha
end
end Go.Abs
section
namespace Go.Abs
theorem Z6i {xs:List Z3} {k:Nat} {s:Z3} {r:Nat} (h:xs[k]? = some s) (hs:Y8 s.op=true) (ha:k+YK (xs.drop k)=r):k+1+YK (xs.drop (k+1))=r:=by
 rw [Y3 h,YK,Zk hs] at ha;omega
theorem Z6j {xs:List Z3} {k:Nat} {s:Z3} {r:Nat} (h:xs[k]? = some s) (hs:¬Y8 s.op=true) (ha:k+YK (xs.drop k)=r):k=r:=by
 rw [Y3 h,YK,Z9 hs] at ha;omega
theorem Z6h {xs:List Z3} {k:Nat} {r:Nat} (h:xs.length<=k) (ha:k+YK (xs.drop k)=r):k=r:=by
 rw [X5 h,YK] at ha;omega
theorem S0 {op x:Int} {xs:List Z3} {k:Nat} {s:Z3} {r:Int} (h:xs[k]? = some s) (hs:s.op=op/\gI s.args 0=x) (ha:XN op x (xs.drop k) k=r):(k:Int)=r:=by
 rw [Y3 h,XN,Zk hs] at ha;exact ha
theorem L6 {op x:Int} {xs:List Z3} {k:Nat} {s:Z3} {r:Int} (h:xs[k]? = some s) (hs:¬(s.op=op/\gI s.args 0=x)) (ha:XN op x (xs.drop k) k=r):XN op x (xs.drop (k+1)) ((k+1:Nat):Int)=r:=by
 rw [Y3 h,XN,Z9 hs] at ha;rw [<-ha];congr 1
theorem RZ {op x:Int} {xs:List Z3} {k:Nat} {r:Int} (h:xs.length<=k) (ha:XN op x (xs.drop k) k=r):-1=r:=by
 rw [X5 h,XN] at ha;exact ha
theorem SF {many:Nat} {xs:List Z3} {k:Nat} {s:Z3} {r:Int} (h:xs[k]? = some s) (hs:QA many s) (ha:Wb many (xs.drop k) k=r):(k:Int)=r:=by
 rw [Y3 h,Wb,Zk hs] at ha;exact ha
theorem SD {many:Nat} {xs:List Z3} {k:Nat} {s:Z3} {r:Int} (h:xs[k]? = some s) (hs:¬QA many s) (ha:Wb many (xs.drop k) k=r):Wb many (xs.drop (k+1)) ((k+1:Nat):Int)=r:=by
 rw [Y3 h,Wb,Z9 hs] at ha;rw [<-ha];congr 1
theorem SC {many:Nat} {xs:List Z3} {k:Nat} {r:Int} (h:xs.length<=k) (ha:Wb many (xs.drop k) k=r):-1=r:=by
 rw [X5 h,Wb] at ha;exact ha
theorem Z8q {xs:List Z3} {x:Int} {many:Nat} (h:V7 xs x<0∨Wn xs many<0):U1 xs x many=xs:=Zk h
theorem Z8r {xs:List Z3} {x:Int} {many:Nat} {s:Z3} (h:¬(V7 xs x<0∨Wn xs many<0)) (hs:Ar xs (Wn xs many)=s):(xs.set (V7 xs x).toNat (Zw 17 x)).set (Wn xs many).toNat (Qe (1+x) s)=U1 xs x many:=by
 rw [U1,Z9 h,hs]
theorem Q9 (xs:List Z3):(Ze (Zv xs)).length=xs.length*5:=by rw [Ua _ (YZ _)];simp
theorem Ex (s:Z3) (r:List Z3):Ze (Zv (s::r))=Xa s++Ze (Zv r):=by rw [WX,WX];rfl
theorem Mc {xs:List Z3} {k:Nat} {x:Z3} (h:xs[k]? = some x):Ze (Zv (xs.take k))++Ze [Ys x]=Ze (Zv (xs.take (k+1))):=by
 rw [We h,Wp,VZ,Ex]
 have:Ze (Zv [])=[]:=by rw [WX];rfl
 rw [this];rfl
theorem Md {xs:List Z3} {i:Nat} {s:Z3} (h:xs[i]? = some s):Ze (Zv xs)=Ze (Zv (xs.take i))++(Xa s++Ze (Zv (xs.drop (i+1)))):=by
 have hi:=(XA.1 h).1
 have e:xs=xs.take i++(s::xs.drop (i+1)):=by rw [<-Y3 h,UK]
 conv=>lhs;rw [e,Wp,VZ,Ex]
theorem Ey {xs:List Z3} {i:Nat} {s t:Z3} (h:xs[i]? = some s):(Ze (Zv xs)).take (i*5)++Xa t++(Ze (Zv xs)).drop (i*5+(Xa t).length)=Ze (Zv (xs.set i t)):=by
 have hi:=(XA.1 h).1
 have hl:(Ze (Zv (xs.take i))).length=i*5:=by rw [Q9,Wm,Va om]
 rw [Md h,Dz (xs:=Xa s) (ys:=Xa t) hl rfl]
 have e:xs.set i t=xs.take i++(t::xs.drop (i+1)):=by rw [DT,Zk hi]
 rw [e,Wp,VZ,Ex]
theorem H5 {xs:List Z3} {i:Nat} {s:Z3} (h:xs[i]? = some s):((Ze (Zv xs)).drop (i*5)).take (Xa s).length=Xa s:=by
 have hi:=(XA.1 h).1
 have hl:(Ze (Zv (xs.take i))).length=i*5:=by rw [Q9,Wm,Va om]
 rw [Md h]
 exact I4 hl
structure QQ (xs:LI) (v:Int) (k:Nat) (acc:LI) (d:Bool):Prop where
 len:acc.length<=k+(if d=true then 1 else 0)
 sub:∀z∈acc,z∈xs.take k∨z=v
 all:∀z∈xs.take k,z∈acc
 done:d=true->v∈acc
theorem QQ.zero (xs:LI) (v:Int):QQ xs v 0 [] false:=⟨by simp,by simp,by simp,by simp⟩
theorem QQ.step {xs:LI} {v:Int} {k:Nat} {acc:LI} {d:Bool} {x:Int} (h:QQ xs v k acc d) (hx:xs[k]? = some x) {acc2:LI} {d2:Bool}
  (hc:(acc2=acc++[x]/\d2=d)∨(acc2=(acc++[v])++[x]/\d2=true/\¬d=true)∨(acc2=acc++[x]/\d2=true/\x=v)):QQ xs v (k+1) acc2 d2:=by
 obtain ⟨h1,h2,h3,h4⟩:=h
 have ht:∀z,z∈xs.take (k+1)↔z∈xs.take k∨z=x:=fun z=>by rw [We hx];simp
 rcases hc with ⟨rfl,rfl⟩|⟨rfl,rfl,hd⟩|⟨rfl,rfl,rfl⟩
 ·refine ⟨by simp;omega,fun z hz=>?_,fun z hz=>?_,fun q=>List.mem_append_left _ (h4 q)⟩
  ·rw [ht]
   rcases X4.1 hz with hz|hz
   ·rcases h2 z hz with q|q
    ·exact .inl (.inl q)
    ·exact .inr q
   ·exact .inl (.inr (XT.1 hz))
  ·rcases (ht z).1 hz with q|q
   ·exact List.mem_append_left _ (h3 z q)
   ·subst q;simp
 ·rw [Z9 hd] at h1
  refine ⟨by simp;omega,fun z hz=>?_,fun z hz=>?_,fun _=>by simp⟩
  ·rw [ht]
   simp only [X4,XT] at hz
   rcases hz with (hz|hz)|hz
   ·rcases h2 z hz with q|q
    ·exact .inl (.inl q)
    ·exact .inr q
   ·exact .inr hz
   ·exact .inl (.inr hz)
  ·rcases (ht z).1 hz with q|q
   ·exact List.mem_append_left _ (List.mem_append_left _ (h3 z q))
   ·subst q;simp
 ·refine ⟨by simp;split at h1<;>omega,fun z hz=>?_,fun z hz=>?_,fun _=>by simp⟩
  ·rw [ht]
   rcases X4.1 hz with hz|hz
   ·rcases h2 z hz with q|q
    ·exact .inl (.inl q)
    ·exact .inr q
   ·exact .inl (.inr (XT.1 hz))
  ·rcases (ht z).1 hz with q|q
   ·exact List.mem_append_left _ (h3 z q)
   ·subst q;simp
theorem QQ.fin {xs:LI} {v:Int} {k:Nat} {acc:LI} {d:Bool} (h:QQ xs v k acc d) (hk:k=xs.length) :
  (d=true->acc.length<=xs.length+1/\∀z,z∈acc↔z∈xs∨z=v)/\(¬d=true->(acc++[v]).length<=xs.length+1/\∀z,z∈acc++[v]↔z∈xs∨z=v):=by
 obtain ⟨h1,h2,h3,h4⟩:=h
 subst hk
 rw [Vl] at h2 h3
 refine ⟨fun hd=>?_,fun hd=>?_⟩
 ·rw [Zk hd] at h1
  exact ⟨h1,fun z=>⟨h2 z,fun q=>q.elim (h3 z) fun e=>e▸h4 hd⟩⟩
 ·rw [Z9 hd] at h1
  refine ⟨by simp;omega,fun z=>?_⟩
  rw [X4,XT]
  exact ⟨fun q=>q.elim (h2 z) .inr,fun q=>q.elim (fun e=>.inl (h3 z e)) .inr⟩
end Go.Abs
namespace Go.Abs
theorem QQ.go {xs:LI} {v:Int} {k:Nat} {acc:LI} {d:Bool} {x:Int} (h:QQ xs v k acc d) (hx:xs[k]? = some x) {acc2:LI} {d2:Bool}
  (hc:(acc2=acc/\d2=d)∨(acc2=acc++[v]/\d2=true/\¬d=true)∨(acc2=acc/\d2=true/\x=v)):QQ xs v (k+1) (acc2++[x]) d2:=by
 refine h.step hx ?_
 rcases hc with ⟨e1,e2⟩|⟨e1,e2,e3⟩|⟨e1,e2,e3⟩
 ·exact .inl ⟨by rw [e1],e2⟩
 ·exact .inr (.inl ⟨by rw [e1],e2,e3⟩)
 ·exact .inr (.inr ⟨by rw [e1],e2,e3⟩)
section
variable {ds:List Zd} {kept K2:LI} {op num x:Int} {args:LI} {j many:Nat} {kd:Z5}
theorem Z9d (h8:op=8) (hx:gI args 0=x) (hk:¬x∈kept) (hm:(Ul ds num j).length=many) (hq:¬(V7 kd.steps x<0∨Wn kd.steps many<0)) (hK:∀z,z∈K2↔z∈kept∨z=x):Wq ds K2 (VV kd x many)=To ds kept op num args j kd:=by
 subst hx hm
 have e:∀z,z∈K2↔z∈gI args 0::kept:=fun z=>by rw [hK z,YB];exact Or.comm
 rw [To,Zk ⟨h8,hk⟩,EY,Z9 hq,OP,I5 kd e]
theorem Z9e (h8:op=8) (hx:gI args 0=x) (hk:¬x∈kept) (hm:(Ul ds num j).length=many) (hq:V7 kd.steps x<0∨Wn kd.steps many<0):Wq ds kept (VV kd x many)=To ds kept op num args j kd:=by
 subst hx hm
 rw [To,Zk ⟨h8,hk⟩,EY,Zk hq,OP]
theorem OQ (h:¬(op=8/\¬gI args 0∈kept)):Wq ds kept kd=To ds kept op num args j kd:=by rw [To,Z9 h]
end
theorem So {op:Int} {c:LI} (h:Y8 op=true):U5 op c=c.set (op-14).toNat (gI c (op-14)+1):=Zk h
theorem Sm {op:Int} {c:LI} (h:¬Y8 op=true):U5 op c=c:=Z9 h
theorem SY {op:Int} (h:Y8 op=true):14<=op/\op<=17:=by simpa [Y8] using h
end Go.Abs
namespace Go.Abs
theorem Lf:∀(xs:List Z5) (b:Z5),YG (xs++[b])=YG xs+b.sz
 | [],b=>by rw [Jl,YG,YG,YG];omega
 | x::r,b=>by rw [Tx,YG,YG,Lf r b];omega
theorem CE:∀{xs:List Z5} {k:Nat} {b:Z5},xs[k]? = some b->YG (xs.take k)+b.sz<=YG xs
 | [],_,_,h=>by simp at h
 | x::r,0,b,h=>by simp at h;subst h;simp [YG]
 | x::r,k+1,b,h=>by
  have:=CE (xs:=r) (k:=k) (by simpa using h)
  rw [BB,YG,YG];omega
theorem E5 {xs:List Z5} {k:Nat} (h:xs.length<=k):YG (xs.take k)=YG xs:=by rw [WA h]
end Go.Abs
end
namespace Go.Abs
theorem Pz {xs:List Z3} {k:Nat} {s:Z3} (h:xs[k]? = some s):Yd (xs.drop k)=s.sz+Yd (xs.drop (k+1)):=by rw [Y3 h,Yd]
theorem PA (xs:List Z3) (k:Nat):Yd (xs.drop k)<=Yd xs:=by
 have h:=Yc Yd (UK k xs)
 rw [T1] at h;omega
theorem E4 {xs:List Z5} {k:Nat} {b:Z5} (h:xs[k]? = some b):YG (xs.take (k+1))=YG (xs.take k)+b.sz:=by rw [We h,CD,YG,YG];rfl
structure CL (ds:List Zd) (nf m:Nat) (xs:List Z3) (d z:Nat):Prop where
 fs:UQ ds nf m xs
 dn:YN xs=d
 op:Tl Vc xs
 sz:Yd xs<=z
section
variable {ds:List Zd} {nf m d z:Nat} {xs:List Z3}
theorem CL.nil:CL ds nf m [] 0 0:=⟨True.intro,rfl,True.intro,YR _⟩
theorem CL.len (h:CL ds nf m xs d z):xs.length<=z:=WR (KC xs) h.sz
theorem CL.le (h:CL ds nf m xs d z) {z2:Nat} (hz:z<=z2):CL ds nf m xs d z2:=⟨h.fs,h.dn,h.op,WR h.sz hz⟩
theorem Z1j {op v:Int} (ho:op=14∨op=15) (hv:0<=v/\v<(m:Int)):fS ds nf m (Zw op v):=by
 rw [Zw,fS]
 exact ⟨.inr om,fun a ha=>by rw [XT.1 ha];exact hv,fun _=>⟨rfl,rfl,rfl,v,rfl⟩,fun h=>by omega,fun h=>by omega,fun h=>by omega,fun h=>by omega,by omega,by omega,by simp,fun _=>rfl,True.intro⟩
theorem LF {op:Int} (ho:op=14∨op=15):Y8 op=true:=by simp [Y8];omega
theorem CL.cnt (h:CL ds nf m xs d z) {op v:Int} (ho:op=14∨op=15) (hv:0<=v/\v<((m+d:Nat):Int)):CL ds nf m (xs++[Zw op v]) d (z+2):=by
 have hc:Y8 (Zw op v).op=true:=LF ho
 refine ⟨Et h.fs (by rw [h.dn];exact Z1j ho hv),?_,Fj h.op ?_,?_⟩
 ·rw [Ko,h.dn,YN,Zk hc];rfl
 ·rw [Dp];exact ⟨by show op<=15;omega,True.intro⟩
 ·have:=h.sz
  have e:(Zw op v).sz=2:=rfl
  rw [T1,Yd,e,Yd];omega
theorem CL.cnts {op:Int} (ho:op=14∨op=15):∀{vs:LI} {xs:List Z3} {z:Nat},CL ds nf m xs d z->(∀v∈vs,0<=v/\v<((m+d:Nat):Int))->CL ds nf m (xs++vs.map (Zw op)) d (z+2*vs.length)
 | [],xs,z,h,_=>by simpa using h
 | v::r,xs,z,h,hv=>by
  have h1:=CL.cnts ho (vs:=r) (h.cnt ho (hv v (X1 ..))) fun x hx=>hv x (Xl _ hx)
  rw [VX,show xs++Zw op v::r.map (Zw op)=xs++[Zw op v]++r.map (Zw op) by simp]
  exact h1.le (by rw [YH];omega)
theorem CL.one (h:CL ds nf m xs d z) {s:Z3} (hs:fS ds nf (m+d) s) (hc:Y8 s.op=false) (ho:Qi Vc s):CL ds nf m (xs++[s]) (d+1) (z+s.sz):=by
 refine ⟨Et h.fs (by rw [h.dn];exact hs),by rw [CJ hc,h.dn],Fj h.op ho,?_⟩
 have:=h.sz
 rw [T1,Yd,Yd];omega
theorem CL.app (h:CL ds nf m xs d z) {ys:List Z3} {d2 z2:Nat} (h2:CL ds nf (m+d) ys d2 z2):CL ds nf m (xs++ys) (d+d2) (z+z2):=by
 refine ⟨BV.2 ⟨h.fs,by rw [h.dn];exact h2.fs⟩,by rw [Ko,h.dn,h2.dn],Fi.2 ⟨h.op,h2.op⟩,?_⟩
 have:=h.sz
 have:=h2.sz
 rw [T1];omega
end
structure KB (ds:List Zd) (nf m:Nat) (b:Z5) (z:Nat):Prop where
 fb:fB ds nf m b
 op:V0 Vc b
 sz:b.sz<=z
section
variable {ds:List Zd} {nf m d z:Nat} {xs:List Z3}
theorem CL.block (h:CL ds nf m xs d z) {r:Int} (hr:0<=r/\r<((m+d:Nat):Int)):KB ds nf m ⟨xs,r⟩ (1+z):=by
 refine ⟨by rw [fB,h.dn];exact ⟨h.fs,hr⟩,by rw [V0];exact h.op,?_⟩
 have:=h.sz
 rw [Z5.sz];omega
theorem KB.le {b:Z5} (h:KB ds nf m b z) {z2:Nat} (hz:z<=z2):KB ds nf m b z2:=⟨h.fb,h.op,WR h.sz hz⟩
theorem KB.cl {b:Z5} (h:KB ds nf m b z):CL ds nf m b.steps (YN b.steps) (z-1)/\0<=b.result/\b.result<((m+YN b.steps:Nat):Int):=by
 obtain ⟨h1,h2⟩:=(CR b).1 h.fb
 refine ⟨⟨h1,rfl,(Fh b).1 h.op,?_⟩,h2⟩
 have:=h.sz
 have:=b.sz_eq
 omega
theorem KB.put {b:Z5} (h:KB ds nf m b z) {as1 bs:LI} (ha:∀v∈as1,0<=v/\v<(m:Int)) (hb:∀v∈bs,0<=v/\v<(m:Int)):KB ds nf m ⟨as1.map (Zw 14)++bs.map (Zw 15)++b.steps,b.result⟩ (z+2*as1.length+2*bs.length):=by
 obtain ⟨h1,h2⟩:=h.cl
 have q1:CL ds nf m ([]++as1.map (Zw 14)) 0 (0+2*as1.length):=CL.nil.cnts (.inl rfl) ha
 have q2:=(q1.cnts (op:=15) (.inr rfl) hb).app h1
 have:=h.sz
 have:=b.sz_eq
 rw [Jl,WS] at q2
 exact (q2.block h2).le om
end
structure KK (ds:List Zd) (nf:Nat) (sc:Nat->Nat) (ks:List Z5) (z:Nat):Prop where
 fb:Tg ds nf sc 0 ks
 op:Qh Vc ks
 sz:YG ks<=z
section
variable {ds:List Zd} {nf m z:Nat} {sc:Nat->Nat}
theorem KK.nil:KK ds nf sc [] 0:=⟨True.intro,True.intro,YR _⟩
theorem KK.snoc {ks:List Z5} {b:Z5} {j z2:Nat} (h:KK ds nf sc ks z) (hj:ks.length=j) (hb:KB ds nf (sc j) b z2):KK ds nf sc (ks++[b]) (z+z2):=by
 refine ⟨M2 h.fb (by rw [hj];exact hb.fb),NW h.op hb.op,?_⟩
 have:=h.sz
 have:=hb.sz
 rw [CD];simp only [YG];omega
theorem KK.le {ks:List Z5} (h:KK ds nf sc ks z) {z2:Nat} (hz:z<=z2):KK ds nf sc ks z2:=⟨h.fb,h.op,WR h.sz hz⟩
theorem M3 {s:Z3} {ks:List Z5} {into:Int} (h:FS ds nf m s) (h11:s.op<=11) (hl:ks.length=s.kids.length) (hi:0<=into/\into<=m) (hk:KK ds nf (UF ds s.op s.num m) ks z):fS ds nf m ⟨s.op,s.num,into,s.args,ks⟩/\Qi Vc ⟨s.op,s.num,into,s.args,ks⟩/\(Z3.mk s.op s.num into s.args ks).sz<=5+z:=by
 refine ⟨?_,?_,?_⟩
 ·rw [fS]
  refine ⟨h.op,h.args,fun q=>by omega,fun q=>by rw [hl];exact h.k7 q,fun q=>by rw [hl];exact h.k8 q,h.one,h.call,h.num,hi,h.alen,fun q=>?_,hk.fb⟩
  have:=h.kn q
  rw [this] at hl
  exact List.eq_nil_of_length_eq_zero hl
 ·rw [Qi];exact ⟨by show s.op<=15;omega,hk.op⟩
 ·have:=h.alen
  have:=hk.sz
  rw [Z3.sz];omega
end
structure KT (ds:List Zd) (nf m:Nat) (st:Z3) (z:Nat):Prop where
 fs:fS ds nf m st
 cb:Y8 st.op=false
 op:Qi Vc st
 sz:st.sz<=z
theorem KT.of {ds:List Zd} {nf m z:Nat} {s:Z3} {ks:List Z5} {into:Int} (h:FS ds nf m s) (h11:s.op<=11) (hl:ks.length=s.kids.length) (hi:0<=into/\into<=m) (hk:KK ds nf (UF ds s.op s.num m) ks z):KT ds nf m ⟨s.op,s.num,into,s.args,ks⟩ (5+z):=by
 obtain ⟨h1,h2,h3⟩:=M3 h h11 hl hi hk
 exact ⟨h1,by show Y8 s.op=false;simp [Y8];omega,h2,h3⟩
theorem CL.kt {ds:List Zd} {nf m d z z2:Nat} {xs:List Z3} {st:Z3} (h:CL ds nf m xs d z) (hs:KT ds nf (m+d) st z2):CL ds nf m (xs++[st]) (d+1) (z+z2):=(h.one hs.fs hs.cb hs.op).le (by have:=hs.sz;omega)
theorem FS.few {ds:List Zd} {nf m:Nat} {s:Z3} (h:FS ds nf m s) (hd:XZ ds):s.kids.length<=3:=by
 by_cases h7:s.op=7
 ·have:=h.k7 h7;omega
 ·by_cases h8:s.op=8
  ·have:=h.k8 h8
   have:=HR hd s.num
   omega
  ·rw [h.kn ⟨h7,h8⟩];simp
theorem RF.lend {ds:List Zd} {nf q:Nat} {p:Int->Prop} {r:ZX} {l:LI} (h:RF ds nf q p r) (h1:l.length<=3) (h2:∀v∈l,0<=v/\v<(r.params.length:Int)):RF ds nf q p ⟨r.params,l,r.result,r.body⟩:=⟨h.sig,⟨h1,h2⟩,h.body,h.op⟩
theorem RF.with {ds:List Zd} {nf q q2:Nat} {p p2:Int->Prop} {r:ZX} {b:Z5} (h:RF ds nf q p r) (h1:fB ds nf r.params.length b) (h2:b.sz<=q2) (h3:V0 p2 b):RF ds nf q2 p2 ⟨r.params,r.lent,r.result,b⟩:=⟨h.sig,h.lent,⟨h1,h2⟩,h3⟩
theorem Z5.eta (b:Z5):Z5.mk b.steps b.result=b:=by cases b;rfl
theorem LC.at {n:Zq} {k:Nat} {xs:List LI} {i:Nat} {l:LI} {r:ZX} (h:LC n k xs) (hl:xs[i]? = some l) (hr:n.routines[i]? = some r):l.length<=3/\∀v∈l,0<=v/\v<(r.params.length:Int):=⟨(h.ok i l hl).1,(h.ok i l hl).2 r hr⟩
theorem GI:∀{xs:List Z3},(∀s∈xs,Qi Ws s)->∀k,k<=xs.length->YN (xs.take k)=k
 | _,_,0,_=>rfl
 | [],_,k+1,h=>absurd h (by simp)
 | x::r,h,k+1,hk=>by
  have h1:=((Dp x).1 (h x (X1 ..))).1
  have hc:Y8 x.op=false:=by have:x.op<=11:=h1;simp [Y8];omega
  rw [BB,YN,Z9 (by rw [hc];simp),GI (fun s hs=>h s (Xl _ hs)) k (by simpa using hk)]
  omega
theorem KB.put1 {ds:List Zd} {nf m z:Nat} {b:Z5} (h:KB ds nf m b z) {op:Int} (ho:op=14∨op=15) {as1:LI} (ha:∀v∈as1,0<=v/\v<(m:Int)):KB ds nf m ⟨as1.map (Zw op)++b.steps,b.result⟩ (z+2*as1.length):=by
 obtain ⟨h1,h2⟩:=h.cl
 have q1:CL ds nf m ([]++as1.map (Zw op)) 0 (0+2*as1.length):=CL.nil.cnts ho ha
 have q2:=q1.app h1
 have:=h.sz
 have:=b.sz_eq
 rw [Jl,WS] at q2
 exact (q2.block h2).le om
theorem FO.fin {n:Zq} {rs:List ZX} {q q2:Nat} {p:Int->Prop} (h:FN n q2) (e:rs.length=n.routines.length) (hr:∀r∈rs,RF n.decls n.routines.length q p r):FO ⟨n.decls,rs⟩ q p/\rs.length=n.routines.length:=
 ⟨FO.all h.decls (by show 1<=rs.length/\rs.length<=4;rw [e];exact h.len) (by show ∀r∈rs,RF n.decls rs.length q p r;rw [e];exact hr),e⟩
theorem KT.le {ds:List Zd} {nf m z z2:Nat} {st:Z3} (h:KT ds nf m st z) (hz:z<=z2):KT ds nf m st z2:=⟨h.fs,h.cb,h.op,WR h.sz hz⟩
theorem KB.len {ds:List Zd} {nf m z:Nat} {b:Z5} (h:KB ds nf m b z):b.steps.length<=z:=by
 have:=h.sz
 have:=b.sz_eq
 have:=KC b.steps
 omega
def Vf:List Z3->Int->Nat
 | [],_=>0
 | s::r,v=>(if gI s.args 0=v then 1 else 0)+Vf r v
def V9 (rn:List Z3):LI->Nat
 | []=>0
 | v::r=>Vf rn v+V9 rn r
theorem Gv:∀(xs ys:List Z3) (v:Int),Vf (xs++ys) v=Vf xs v+Vf ys v
 | [],ys,v=>by simp [Vf]
 | x::r,ys,v=>by rw [Tx,Vf,Vf,Gv r];omega
theorem Sy {xs:List Z3} {k:Nat} {s:Z3} (h:xs[k]? = some s) (v:Int):Vf (xs.take (k+1)) v=Vf (xs.take k) v+(if gI s.args 0=v then 1 else 0):=by
 rw [We h,Gv,Vf,Vf];omega
theorem Lw:∀(xs:List Z3) (v:Int),Vf xs v<=xs.length
 | [],v=>YR _
 | x::r,v=>by have:=Lw r v;rw [Vf,YH];split<;>omega
theorem Sz (xs:List Z3) (k:Nat) (v:Int):Vf (xs.take k) v<=Vf xs v:=by
 have h:=Yc (Vf · v) (UK k xs)
 simp only [Gv] at h;omega
theorem Ir (rn:List Z3):∀xs ys:LI,V9 rn (xs++ys)=V9 rn xs+V9 rn ys
 | [],ys=>by simp [V9]
 | x::r,ys=>by rw [Tx,V9,V9,Ir rn r];omega
theorem Zce {rn:List Z3} {xs:LI} {k:Nat} {v:Int} (h:xs[k]? = some v):V9 rn (xs.take (k+1))=V9 rn (xs.take k)+Vf rn v:=by
 rw [We h,Ir,V9,V9];rfl
theorem PL (s:Z3) (r:List Z3):∀vs:LI,AZ vs->V9 (s::r) vs<=1+V9 r vs/\(¬gI s.args 0∈vs->V9 (s::r) vs=V9 r vs)
 | [],_=>by simp [V9]
 | v::vs,h=>by
  obtain ⟨h1,h2⟩:=Wv.1 h
  obtain ⟨q1,q2⟩:=PL s r vs h2
  rw [V9,V9,Vf]
  by_cases e:gI s.args 0=v
  ·have hn:¬gI s.args 0∈vs:=fun z=>by have:=h1 _ z;omega
   rw [Zk e,q2 hn]
   exact ⟨by omega,fun z=>absurd (YB.2 (.inl e)) z⟩
  ·rw [Z9 e]
   exact ⟨by omega,fun z=>by rw [q2 fun y=>z (Xl _ y)];omega⟩
theorem PM:∀(rn:List Z3) {vs:LI},AZ vs->V9 rn vs<=rn.length
 | [],vs,_=>by
  have:∀xs:LI,V9 [] xs=0:=fun xs=>by
   induction xs with
   | nil=>rfl
   | cons x r ih=>rw [V9,ih];rfl
  rw [this];exact Qu _
 | s::r,vs,h=>by
  have h1:=(PL s r vs h).1
  have h2:=PM r h
  rw [YH];omega
theorem Is (rn:List Z3) (xs:LI) (k:Nat):V9 rn (xs.take k)<=V9 rn xs:=by
 have h:=Yc (V9 rn) (UK k xs)
 rw [Ir] at h;omega
def IN (m:Nat) (rn:List Z3):Prop:=∀s∈rn,∃a,s.args=[a]/\0<=a/\a<(m:Int)
theorem LL {xs:List Z3} {k:Nat} {s:Z3} (h:xs[k]? = some s):YN (xs.take (k+1))=YN (xs.take k)+(if Y8 s.op=true then 0 else 1):=by rw [We h,Ko,YN,YN];rfl
theorem KT.eq {ds:List Zd} {nf m z:Nat} {s:Z3} {ks:List Z5} (h:FS ds nf m s) (h11:s.op<=11) (hl:ks.length=s.kids.length) (hk:KK ds nf (UF ds s.op s.num m) ks z):KT ds nf m ⟨s.op,s.num,s.into,s.args,ks⟩ (1+s.args.length+z):=by
 obtain ⟨h1,h2,h3⟩:=M3 h h11 hl h.into hk
 refine ⟨h1,by show Y8 s.op=false;simp [Y8];omega,h2,?_⟩
 have:=hk.sz
 rw [Z3.sz];omega
theorem FS.pair {ds:List Zd} {nf m:Nat} {s:Z3} (h:FS ds nf m s) (hp:s.op=14∨s.op=15):(∃a,s.args=[a]/\0<=a/\a<(m:Int))/\s.sz=2/\Y8 s.op=true:=by
 obtain ⟨h1,h2,h3,a,h4⟩:=h.cnt om
 have h5:=h.args a (by rw [h4];exact XT.2 rfl)
 refine ⟨⟨a,h4,h5⟩,?_,LF hp⟩
 rw [s.sz_eq,h3,h4];rfl
theorem FS.not_pair {ds:List Zd} {nf m:Nat} {s:Z3} (h:FS ds nf m s) (hp:¬(s.op=14∨s.op=15)) (h15:Vc s.op):s.op<=11/\Y8 s.op=false:=by
 have h1:s.op<=15:=h15
 have h2:=h.op
 exact ⟨by omega,by simp [Y8];omega⟩
theorem CL.run {ds:List Zd} {nf m d z:Nat} {xs:List Z3} {D R:LI} {rn:List Z3} (h:CL ds nf m xs d z) (hr:IN (m+d) rn) (hD:∀v∈D,∃s∈rn,s.args=[v]) (hR:∀v∈R,∃s∈rn,s.args=[v]):CL ds nf m (xs++(D.map (Zw 14)++R.map (Zw 15))) d (z+2*(D.length+R.length)):=by
 have key:∀(A:LI),(∀v∈A,∃s∈rn,s.args=[v])->∀v∈A,0<=v/\v<((m+d:Nat):Int):=fun A hA v hv=>by
  obtain ⟨s,hs,e⟩:=hA v hv
  obtain ⟨a,e2,e3⟩:=hr s hs
  rw [e] at e2
  cases e2
  exact e3
 have h2:=(h.cnts (op:=14) (.inl rfl) (key D hD)).cnts (op:=15) (.inr rfl) (key R hR)
 rw [<-Ut]
 exact h2.le om
def Wd (xs:List Z3) (i:Nat) (s:Z3):List Z3:=xs.take i++[s]++xs.drop i
theorem Dv {xs:List Z3} (i:Nat) (s:Z3):Yd (Wd xs i s)=Yd xs+s.sz:=by
 have h:=Yc Yd (UK i xs)
 rw [T1] at h
 rw [Wd,T1,T1,Yd,Yd];omega
theorem Oz {xs:List Z3} {i:Nat} {s:Z3} (h:i<=xs.length):(Wd xs i s).length=xs.length+1:=by
 simp [Wd,Va h];omega
def Da (b:Z5) (i j:Nat) (v:Int):Z5:=⟨Wd (Wd b.steps j (Zw 15 v)) i (Zw 14 v),b.result⟩
def withR (n:Zq) (f:Nat) (rt:ZX) (b:Z5):Zq:=⟨n.decls,n.routines.set f ⟨rt.params,rt.lent,rt.result,b⟩⟩
def Ga (n n2:Zq):Prop:=n2=n∨∃f rt i j v,n.routines[f]? = some rt/\i<=j/\j<=rt.body.steps.length/\0<=v/\v<((rt.params.length+YN (rt.body.steps.take i):Nat):Int)/\n2=withR n f rt (Da rt.body i j v)
theorem CL.put {ds:List Zd} {nf m:Nat} {xs:List Z3} {d z:Nat} (h:CL ds nf m xs d z) {i:Nat} {op v:Int} (ho:op=14∨op=15) (hv:0<=v/\v<((m+YN (xs.take i):Nat):Int)):CL ds nf m (Wd xs i (Zw op v)) d (z+2):=by
 have hs:=h.fs
 have hp:=h.op
 have e:=UK i xs
 rw [<-e] at hs hp
 rw [BV] at hs
 rw [Fi] at hp
 have h1:CL ds nf m (xs.take i) (YN (xs.take i)) (Yd (xs.take i)):=⟨hs.1,rfl,hp.1,YR _⟩
 have h2:CL ds nf (m+YN (xs.take i)) (xs.drop i) (YN (xs.drop i)) (Yd (xs.drop i)):=⟨hs.2,rfl,hp.2,YR _⟩
 have h3:=(h1.cnt ho hv).app h2
 have e1:=Yc Yd e
 have e2:=Yc YN e
 rw [T1] at e1
 rw [Ko,h.dn] at e2
 have:=h.sz
 rw [e2] at h3
 exact h3.le om
theorem Z8j {xs:List Z3} {i j:Nat} {s:Z3} (h:i<=j) (hj:j<=xs.length):(Wd xs j s).take i=xs.take i:=by
 rw [Wd,Ut,List.take_append_of_le_length (by rw [Wm];omega),List.take_take,Va h]
theorem Z43 {ds:List Zd} {nf m z:Nat} {b:Z5} (h:KB ds nf m b z) {i j:Nat} {v:Int} (hij:i<=j) (hj:j<=b.steps.length) (hv:0<=v/\v<((m+YN (b.steps.take i):Nat):Int)):KB ds nf m (Da b i j v) (z+4):=by
 obtain ⟨h1,h2⟩:=h.cl
 have hm:YN (b.steps.take i)<=YN (b.steps.take j):=by
  have e:=Yc YN (UK i (b.steps.take j))
  rw [Ko,List.take_take,Va hij] at e;omega
 have h3:=(h1.put (i:=j) (op:=15) (v:=v) (.inr rfl) om).put (i:=i) (op:=14) (v:=v) (.inl rfl) (by rw [Z8j hij hj];exact hv)
 have:=h.sz
 have:=b.sz_eq
 exact (h3.block h2).le om
theorem FO.held {n n2:Zq} {q:Nat} (h:FO n q Vc) (hh:Ga n n2):FO n2 (q+4) Vc:=by
 rcases hh with rfl|⟨f,rt,i,j,v,h1,h2,h3,h4,h5,rfl⟩
 ·exact ⟨⟨h.fn.decls,h.fn.len,h.fn.sigs,h.fn.lent,fun r hr=>⟨(h.fn.body r hr).1,by have:=(h.fn.body r hr).2;omega⟩⟩,h.op⟩
 ·have hr:=h.rf (Y0 h1)
  have hk:KB n.decls n.routines.length rt.params.length (Da rt.body i j v) (q+4):=Z43 ⟨hr.body.1,hr.op,hr.body.2⟩ h2 h3 ⟨h4,h5⟩
  refine FO.all h.fn.decls (by show 1<=(n.routines.set _ _).length/\(n.routines.set _ _).length<=4;rw [T3];exact h.fn.len) fun r hm=>?_
  show RF n.decls (n.routines.set _ _).length _ _ r
  rw [T3]
  rcases List.mem_or_eq_of_mem_set hm with hm|rfl
  ·have hq:=h.rf hm
   exact ⟨hq.sig,hq.lent,⟨hq.body.1,by have:=hq.body.2;omega⟩,hq.op⟩
  ·exact ⟨hr.sig,hr.lent,⟨hk.fb,hk.sz⟩,hk.op⟩
structure Wl (ds:List Zd) (b:Z5):Prop where
 w:wB ds b
 nr:Tk b
 rng:b.rng
structure Td (ds:List Zd) (s:Z3):Prop where
 w:wS ds s
 nr:JT s
 rng:s.rng
section
variable {ds:List Zd}
theorem TY:∀{xs:List Z3},Tt xs↔∀s∈xs,s.rng
 | []=>by simp [Tt]
 | s::r=>by rw [Tt,TY];simp
theorem Aj:∀{xs:List Z5},T5 xs↔∀s∈xs,s.rng
 | []=>by simp [T5]
 | s::r=>by rw [T5,Aj];simp
theorem Wl.iff {b:Z5}:Wl ds b↔∀s∈b.steps,Td ds s:=by
 constructor
 ·intro h s hs
  have h3:=h.rng
  rw [Z5.rng_eq] at h3
  exact ⟨A0.1 ((Kg b).1 h.w) s hs,Dl.1 ((Dk b).1 h.nr) s hs,TY.1 h3 s hs⟩
 ·intro h
  exact ⟨(Kg b).2 (A0.2 fun s hs=>(h s hs).w),(Dk b).2 (Dl.2 fun s hs=>(h s hs).nr),by rw [Z5.rng_eq];exact TY.2 fun s hs=>(h s hs).rng⟩
theorem Td.kid {s:Z3} {b:Z5} (h:Td ds s) (hb:b∈s.kids):Wl ds b:=by
 have h3:=h.rng
 rw [Z3.rng_eq] at h3
 exact ⟨FX.1 ((KI s).1 h.w).2.2.2 b hb,Fe.1 ((Ce s).1 h.nr).2 b hb,Aj.1 h3.2 b hb⟩
theorem Td.kids {s:Z3} {ks:List Z5} (h:Td ds s) (hl:ks.length=s.kids.length) (hk:∀b∈ks,Wl ds b):Td ds ⟨s.op,s.num,s.into,s.args,ks⟩:=by
 obtain ⟨h1,h2,h3,h4⟩:=(KI s).1 h.w
 have h5:=h.rng
 rw [Z3.rng_eq] at h5
 refine ⟨(KI _).2 ⟨h1,fun hc=>?_,fun h8=>⟨(h3 h8).1,hl.trans (h3 h8).2⟩,FX.2 fun b hb=>(hk b hb).w⟩,(Ce _).2 ⟨((Ce s).1 h.nr).1,Fe.2 fun b hb=>(hk b hb).nr⟩,by rw [Z3.rng_eq];exact ⟨h5.1,Aj.2 fun b hb=>(hk b hb).rng⟩⟩
 obtain ⟨q1,q2,q3,q4⟩:=h2 hc
 exact ⟨q1,q2,List.eq_nil_of_length_eq_zero (show ks.length=0 by rw [hl,q3];rfl),q4⟩
theorem Td.cnt {op v:Int} (h:op=14∨op=15∨op=16):Td ds (Zw op v):=⟨Zd7 h,(Ce _).2 ⟨by show op≠17;omega,True.intro⟩,by rw [Z3.rng_eq];exact ⟨⟨by show (-9223372036854775808:Int)<=0;decide,by show (0:Int)<=_;decide⟩,True.intro⟩⟩
theorem Wl.open {b:Z5} {x q:Int} {fs:LI} (h:Wl ds b):Wl ds (KO b x fs q):=by
 rw [Wl.iff] at h ⊢
 intro s hs
 have hs:s∈Af b.steps x fs q:=hs
 rw [Af] at hs
 split at hs
 ·simp only [X4,Xy,XT] at hs
  rcases hs with ((⟨a,_,rfl⟩|rfl)|⟨a,_,rfl⟩)|hs
  ·exact Td.cnt om
  ·exact Td.cnt om
  ·exact Td.cnt om
  ·exact h s (List.mem_of_mem_drop hs)
 ·exact h s hs
theorem Pd {m:Nat} {op num:Int} {args:LI}:∀{bs:List Z5} {k:Nat},(Tq ds m op num args bs k).length=bs.length
 | [],_=>rfl
 | b::r,k=>by rw [Tq,YH,YH,Pd (bs:=r)]
mutual
theorem Td.sp:∀(s:Z3) {m:Nat},Td ds s->Td ds (Bv ds m s)
 | .mk op num into args kids,m,h=>by
  rw [Bv]
  exact h.kids Pd (Wls.sp kids fun b hb=>h.kid hb)
theorem Wls.sp:∀(bs:List Z5) {m:Nat} {op num:Int} {args:LI} {k:Nat},(∀b∈bs,Wl ds b)->∀b∈Tq ds m op num args bs k,Wl ds b
 | [],_,_,_,_,_,_,b,hb=>by cases hb
 | c::r,m,op,num,args,k,h,b,hb=>by
  rw [Tq] at hb
  rcases YB.1 hb with rfl|hb
  ·split
   ·exact (Wl.sp c (h c (X1 ..))).open
   ·exact Wl.sp c (h c (X1 ..))
  ·exact Wls.sp r (fun x hx=>h x (Xl _ hx)) b hb
theorem WlSs.sp:∀(xs:List Z3) {m:Nat},(∀s∈xs,Td ds s)->∀s∈UG ds m xs,Td ds s
 | [],_,_,s,hs=>by cases hs
 | c::r,m,h,s,hs=>by
  rw [UG] at hs
  rcases YB.1 hs with rfl|hs
  ·exact Td.sp c (h c (X1 ..))
  ·exact WlSs.sp r (fun x hx=>h x (Xl _ hx)) s hs
theorem Wl.sp:∀(b:Z5) {m:Nat},Wl ds b->Wl ds (WQ ds m b)
 | .mk steps result,m,h=>by
  rw [WQ,Wl.iff]
  exact WlSs.sp steps (Wl.iff.1 h)
end
theorem Z8v {b:Z5} {x:Int} {many:Nat} (h:b.rng):(VV b x many).rng:=by
 rw [Z5.rng_eq] at h
 rw [VV,Z5.rng_eq]
 show Tt (U1 b.steps x many)
 rw [U1]
 split
 ·exact h
 ·rename_i hq
  obtain ⟨_,_,t,h5,h7,h6⟩:=Ak (fun z=>hq (.inr z))
  rw [TY] at h ⊢
  intro s hs
  rcases List.mem_or_eq_of_mem_set hs with hs|rfl
  ·rcases List.mem_or_eq_of_mem_set hs with hs|rfl
   ·exact h s hs
   ·rw [Z3.rng_eq];exact ⟨⟨by show (-9223372036854775808:Int)<=0;decide,by show (0:Int)<=_;decide⟩,True.intro⟩
  ·have:=h t (Y0 h5)
   rw [h6,Qe,Z3.rng_eq]
   rw [Z3.rng_eq] at this
   exact this
mutual
theorem Z8w:∀(s:Z3) {K:LI},s.rng->(Ql ds K s).rng
 | .mk op num into args kids,K,h=>by
  rw [Z3.rng] at h
  rw [Ql,Z3.rng]
  exact ⟨h.1,OJ kids h.2⟩
theorem OJ:∀(bs:List Z5) {K:LI} {op num:Int} {args:LI} {k:Nat},T5 bs->T5 (Up ds K op num args bs k)
 | [],_,_,_,_,_,_=>True.intro
 | b::r,K,op,num,args,k,h=>by
  rw [Up,T5]
  refine ⟨?_,OJ r h.2⟩
  split
  ·exact Z8v (I2 b h.1)
  ·exact I2 b h.1
theorem OK:∀(xs:List Z3) {K:LI},Tt xs->Tt (Uq ds K xs)
 | [],_,_=>True.intro
 | s::r,K,h=>⟨Z8w s h.1,OK r h.2⟩
theorem I2:∀(b:Z5) {K:LI},b.rng->(Wq ds K b).rng
 | .mk steps result,K,h=>by
  rw [Z5.rng] at h
  rw [Wq,Z5.rng]
  exact OK steps h
end
end
mutual
theorem Z7f:∀s:Z3,Qi Vc s->JT s
 | .mk op num into args kids,h=>by
  rw [Qi] at h
  rw [JT]
  exact ⟨by have:op<=15:=h.1;omega,NM kids h.2⟩
theorem NM:∀bs:List Z5,Qh Vc bs->Ky bs
 | [],_=>True.intro
 | b::r,h=>⟨NK b h.1,NM r h.2⟩
theorem NN:∀bs:List Z3,Tl Vc bs->Kz bs
 | [],_=>True.intro
 | b::r,h=>⟨Z7f b h.1,NN r h.2⟩
theorem NK:∀b:Z5,V0 Vc b->Tk b
 | .mk steps result,h=>by
  rw [V0] at h
  rw [Tk]
  exact NN steps h
end
structure ZR (q:Nat) (r:ZX):Prop where
 params:r.params.length<=3
 lent:r.lent.length<=10
 body:r.body.sz<=q
 rng:r.body.rng
structure ZN (n:Zq) (q:Nat):Prop where
 decls:AD n.decls
 len:1<=n.routines.length/\n.routines.length<=4
 rt:∀r∈n.routines,ZR q r
theorem ZR.le {q q2:Nat} {r:ZX} (h:ZR q r) (hq:q<=q2):ZR q2 r:=⟨h.params,h.lent,WR h.body hq,h.rng⟩
theorem ZN.le {n:Zq} {q q2:Nat} (h:ZN n q) (hq:q<=q2):ZN n q2:=⟨h.decls,h.len,fun r hr=>(h.rt r hr).le hq⟩
theorem ZN.sz {n:Zq} {q:Nat} (h:ZN n q) (hq:q<=10000000):VC n:=
 ⟨⟨by have:=h.decls.1;omega,fun d hd=>by have:=(h.decls.2 d hd).1;omega,fun d hd c hc=>by have:=(h.decls.2 d hd).2 c hc;omega⟩,by have:=h.len;omega,fun r hr=>by have:=(h.rt r hr).params;omega,fun r hr=>by have:=(h.rt r hr).lent;omega,fun r hr=>by have:=(h.rt r hr).body;omega⟩
theorem FO.wl {n:Zq} {q:Nat} (h:FO n q Vc) (hq:q<=100000000):∀r∈n.routines,Wl n.decls r.body:=fun r hr=>by
 have h1:=h.rf hr
 have h2:r.params.length<=3:=(T4.bd (f:=⟨r.params,r.result,default⟩) h1.sig).1
 exact ⟨Rc r.body h1.body.1 (by have:=h1.body.2;omega) h.fn.decls.ok,NK r.body h1.op,I0 r.body h1.body.1⟩
theorem FO.zn {n:Zq} {q:Nat} {p:Int->Prop} (h:FO n q p):ZN n q:=
 ⟨h.fn.decls.ad,h.fn.len,fun r hr=>⟨(T4.bd (f:=⟨r.params,r.result,default⟩) (h.fn.sigs r hr)).1,by have:=(h.fn.lent r hr).1;omega,(h.fn.body r hr).2,I0 r.body (h.fn.body r hr).1⟩⟩
structure WN (n:Zq) (q:Nat):Prop where
 ok:X2 n
 zn:ZN n q
 wl:∀r∈n.routines,Wl n.decls r.body
theorem FO.wn {n:Zq} {q:Nat} (h:FO n q Vc) (hq:q<=100000000):WN n q:=⟨h.fn.ok,h.zn,h.wl hq⟩
theorem WN.sp {n:Zq} {q:Nat} (h:WN n q):WN (FI n) (9*q):=by
 refine ⟨⟨h.ok.decls,by show (n.routines.map _).length<=4;rw [QN];exact h.ok.len,fun r hr=>?_,fun r hr=>?_⟩,⟨h.zn.decls,by show 1<=(n.routines.map _).length/\(n.routines.map _).length<=4;rw [QN];exact h.zn.len,fun r hr=>?_⟩,fun r hr=>?_⟩
 ·obtain ⟨s,hs,rfl⟩:=Xy.1 hr;exact h.ok.params s hs
 ·obtain ⟨s,hs,rfl⟩:=Xy.1 hr;exact h.ok.lent s hs
 ·obtain ⟨s,hs,rfl⟩:=Xy.1 hr
  have hz:=h.zn.rt s hs
  refine ⟨hz.params,hz.lent,?_,(Wl.sp s.body (h.wl s hs)).rng⟩
  have h1:=FG h.ok.decls s.body (m:=s.params.length) (h.wl s hs).w
  have h2:=s.body.pz_le
  have h3:=hz.body
  show (WQ n.decls s.params.length s.body).sz<=9*q
  omega
 ·obtain ⟨s,hs,rfl⟩:=Xy.1 hr;exact Wl.sp s.body (h.wl s hs)
theorem WN.ru {n:Zq} {q:Nat} (h:WN n q):ZN (Fq n) q:=by
 refine ⟨h.zn.decls,by show 1<=(n.routines.map _).length/\(n.routines.map _).length<=4;rw [QN];exact h.zn.len,fun r hr=>?_⟩
 obtain ⟨s,hs,rfl⟩:=Xy.1 hr
 have hz:=h.zn.rt s hs
 refine ⟨hz.params,hz.lent,?_,I2 s.body (h.wl s hs).rng⟩
 have h1:=I6 s.body (K:=[]) (h.wl s hs).w
 have h3:=hz.body
 show (Wq n.decls [] s.body).sz<=q
 omega
theorem HX {xs:List Z3} {i:Nat} {s t:Z3} (h:t∈Wd xs i s):t∈xs∨t=s:=by
 rw [Wd] at h
 simp only [X4,XT] at h
 rcases h with (h|h)|h
 ·exact .inl (TK h)
 ·exact .inr h
 ·exact .inl (List.mem_of_mem_drop h)
theorem I1 {op v:Int}:(Zw op v).rng:=by rw [Z3.rng_eq];exact ⟨⟨by show (-9223372036854775808:Int)<=0;decide,by show (0:Int)<=_;decide⟩,True.intro⟩
theorem ZN.withR {n:Zq} {q q2:Nat} {f:Nat} {rt:ZX} {b:Z5} (h:ZN n q) (hr:n.routines[f]? = some rt) (hq:q<=q2) (hb:b.sz<=q2) (hg:b.rng):ZN (withR n f rt b) q2:=by
 refine ⟨h.decls,by show 1<=(n.routines.set _ _).length/\(n.routines.set _ _).length<=4;rw [T3];exact h.len,fun r hm=>?_⟩
 rcases List.mem_or_eq_of_mem_set hm with hm|rfl
 ·exact (h.rt r hm).le hq
 ·have:=h.rt rt (Y0 hr)
  exact ⟨this.params,this.lent,hb,hg⟩
theorem ZN.held {n n2:Zq} {q:Nat} (h:ZN n q) (hh:Ga n n2):ZN n2 (q+4):=by
 rcases hh with rfl|⟨f,rt,i,j,v,h1,h2,h3,h4,h5,rfl⟩
 ·exact h.le om
 ·have hz:=h.rt rt (Y0 h1)
  refine h.withR h1 om ?_ ?_
  ·rw [Da,Z5.sz,Dv,Dv]
   have e1:(Zw 14 v).sz=2:=rfl
   have e2:(Zw 15 v).sz=2:=rfl
   have:=hz.body
   have:=rt.body.sz_eq
   omega
  ·have hg:=hz.rng
   rw [Z5.rng_eq,TY] at hg
   rw [Da,Z5.rng_eq,TY]
   intro s hs
   rcases HX hs with hs|rfl
   ·rcases HX hs with hs|rfl
    ·exact hg s hs
    ·exact I1
   ·exact I1
theorem FO.le {n:Zq} {q q2:Nat} {p:Int->Prop} (h:FO n q p) (hq:q<=q2):FO n q2 p:=⟨⟨h.fn.decls,h.fn.len,h.fn.sigs,h.fn.lent,fun r hr=>⟨(h.fn.body r hr).1,WR (h.fn.body r hr).2 hq⟩⟩,h.op⟩
def VD (s y:Z3):Prop:=y.sz<=s.sz+1/\y.rng
theorem VD.refl {s:Z3} (hg:s.rng):VD s s:=⟨Nat.le_succ _,hg⟩
theorem VD.of {s:Z3} {op num into:Int} {args:LI} {kids:List Z5} (hg:s.rng) (hn:num=s.num∨num∈([0,1,2,3,-1,1000]:LI)) (ha:args.length<=s.args.length+1) (hk:kids=s.kids∨kids=s.kids.drop 1):VD s ⟨op,num,into,args,kids⟩:=by
 rw [Z3.rng_eq] at hg
 have hs:=s.sz_eq
 have hb:YG kids<=YG s.kids:=by
  rcases hk with rfl|rfl
  ·exact YR _
  ·have h:=Yc YG (UK 1 s.kids)
   rw [CD] at h;omega
 refine ⟨by rw [Z3.sz];omega,?_⟩
 rw [Z3.rng]
 refine ⟨?_,Aj.2 fun b hbk=>Aj.1 hg.2 b ?_⟩
 ·rcases hn with rfl|hn
  ·exact hg.1
  ·have:=(by decide:∀z∈([0,1,2,3,-1,1000]:LI),-9223372036854775808<=z/\z<=9223372036854775807) num hn
   exact this
 ·rcases hk with rfl|rfl
  ·exact hbk
  ·exact List.mem_of_mem_drop hbk
def Xm (b y:Z5):Prop:=y.sz<=b.sz+2/\y.rng
theorem Xm.result {b:Z5} (hg:b.rng) (z:Int):Xm b ⟨b.steps,z⟩:=⟨by rw [Z5.sz,b.sz_eq];omega,by rw [Z5.rng_eq] at hg;rw [Z5.rng];exact hg⟩
theorem Xm.put {b:Z5} (hg:b.rng) {i:Nat} {op v:Int}:Xm b ⟨Wd b.steps i (Zw op v),b.result⟩:=by
 rw [Z5.rng_eq,TY] at hg
 refine ⟨?_,?_⟩
 ·rw [Z5.sz,Dv,b.sz_eq]
  have e:(Zw op v).sz=2:=rfl
  omega
 ·rw [Z5.rng,TY]
  intro s hs
  rcases HX hs with hs|rfl
  ·exact hg s hs
  ·exact I1
theorem Xm.del {b:Z5} (hg:b.rng) {k:Nat}:Xm b ⟨b.steps.take k++b.steps.drop (k+1),b.result⟩:=by
 rw [Z5.rng_eq,TY] at hg
 have h1:=Qp b.steps k
 have h2:=Yc Yd (UK k b.steps)
 have h3:=Yc Yd (UK 1 (b.steps.drop k))
 rw [T1] at h2 h3
 rw [List.drop_drop] at h3
 refine ⟨by rw [Z5.sz,T1,b.sz_eq];omega,?_⟩
 rw [Z5.rng,TY]
 intro s hs
 rcases X4.1 hs with hs|hs
 ·exact hg s (TK hs)
 ·exact hg s (List.mem_of_mem_drop hs)
theorem Xm.set {b:Z5} (hg:b.rng) {k:Nat} {s t:Z3} (hs:b.steps[k]? = some s) (ht:t.sz<=s.sz+2/\t.rng):Xm b ⟨b.steps.set k t,b.result⟩:=by
 rw [Z5.rng_eq,TY] at hg
 have h1:=FL t hs
 refine ⟨by rw [Z5.sz,b.sz_eq];omega,?_⟩
 rw [Z5.rng,TY]
 intro x hx
 rcases List.mem_or_eq_of_mem_set hx with hx|rfl
 ·exact hg x hx
 ·exact ht.2
theorem Lj:∀{xs:List Z5} {i:Nat} {s:Z5} (t:Z5),xs[i]? = some s->YG (xs.set i t)+s.sz=YG xs+t.sz
 | [],_,_,_,h=>by simp at h
 | x::r,0,s,t,h=>by simp at h;subst h;rw [List.set_cons_zero,YG,YG];omega
 | x::r,i+1,s,t,h=>by
  have:=Lj (xs:=r) (i:=i) t (by simpa using h)
  rw [List.set_cons_succ,YG,YG];omega
theorem Xm.kid {b:Z5} (hg:b.rng) {k j:Nat} {s:Z3} {c y:Z5} (hs:b.steps[k]? = some s) (hc:s.kids[j]? = some c) (hy:Xm c y):Xm b ⟨b.steps.set k ⟨s.op,s.num,s.into,s.args,s.kids.set j y⟩,b.result⟩:=by
 refine Xm.set hg hs ?_
 have hg2:=hg
 rw [Z5.rng_eq,TY] at hg2
 have h1:=hg2 s (Y0 hs)
 rw [Z3.rng_eq] at h1
 have h2:=Lj y hc
 have h3:=hy.1
 refine ⟨by rw [Z3.sz,s.sz_eq];omega,?_⟩
 rw [Z3.rng]
 refine ⟨h1.1,Aj.2 fun x hx=>?_⟩
 rcases List.mem_or_eq_of_mem_set hx with hx|rfl
 ·exact Aj.1 h1.2 x hx
 ·exact hy.2
theorem Z8u {b:Z5} (hg:b.rng) {k j:Nat} {s:Z3} {c:Z5} (hs:b.steps[k]? = some s) (hc:s.kids[j]? = some c):c.rng:=by
 rw [Z5.rng_eq,TY] at hg
 have h1:=hg s (Y0 hs)
 rw [Z3.rng_eq] at h1
 exact Aj.1 h1.2 c (Y0 hc)
theorem Z8x {b:Z5} (hg:b.rng) {k:Nat} {s:Z3} (hs:b.steps[k]? = some s):s.rng:=by
 rw [Z5.rng_eq,TY] at hg
 exact hg s (Y0 hs)
structure ZS (n:Zq) (q l:Nat):Prop where
 decls:AD n.decls
 len:1<=n.routines.length/\n.routines.length<=4
 rt:∀r∈n.routines,r.params.length<=3/\r.lent.length<=l/\r.body.sz<=q/\r.body.rng
theorem ZN.zs {n:Zq} {q:Nat} (h:ZN n q):ZS n q 10:=⟨h.decls,h.len,fun r hr=>⟨(h.rt r hr).params,(h.rt r hr).lent,(h.rt r hr).body,(h.rt r hr).rng⟩⟩
theorem ZS.le {n:Zq} {q q2 l l2:Nat} (h:ZS n q l) (hq:q<=q2) (hl:l<=l2):ZS n q2 l2:=⟨h.decls,h.len,fun r hr=>by obtain ⟨a,b,c,d⟩:=h.rt r hr;exact ⟨a,by omega,by omega,d⟩⟩
theorem ZS.sz {n:Zq} {q l:Nat} (h:ZS n q l) (hq:q<=10000000) (hl:l<=1000):VC n:=
 ⟨⟨by have:=h.decls.1;omega,fun d hd=>by have:=(h.decls.2 d hd).1;omega,fun d hd c hc=>by have:=(h.decls.2 d hd).2 c hc;omega⟩,by have:=h.len;omega,fun r hr=>by have:=(h.rt r hr).1;omega,fun r hr=>by have:=(h.rt r hr).2.1;omega,fun r hr=>by have:=(h.rt r hr).2.2.1;omega⟩
theorem ZS.set {n:Zq} {q l q2 l2:Nat} {f:Nat} {rt:ZX} {ls:LI} {b:Z5} (h:ZS n q l) (hr:n.routines[f]? = some rt) (hq:q<=q2) (hl:l<=l2) (hls:ls.length<=l2) (hb:b.sz<=q2) (hg:b.rng):ZS ⟨n.decls,n.routines.set f ⟨rt.params,ls,rt.result,b⟩⟩ q2 l2:=by
 refine ⟨h.decls,by show 1<=(n.routines.set _ _).length/\(n.routines.set _ _).length<=4;rw [T3];exact h.len,fun r hm=>?_⟩
 rcases List.mem_or_eq_of_mem_set hm with hm|rfl
 ·exact (h.le hq hl).rt r hm
 ·have:=h.rt rt (Y0 hr)
  exact ⟨this.1,hls,hb,hg⟩
theorem ZS.ds {n:Zq} {q l:Nat} {ds:List Zd} (h:ZS n q l) (hd:AD ds):ZS ⟨ds,n.routines⟩ q l:=⟨hd,h.len,h.rt⟩
section
variable {n n2:Zq} (hd:n2.decls=n.decls) (hr:∀vars op num args,T0 n2 vars op num args=T0 n vars op num args)
include hd hr
end
theorem OL {n:Zq}:∀{l:List ZX},(∀r∈l,¬Wr r.body<0/\YT n r.params r.body=r.result)->Tn n l=true
 | [],_=>by rw [Tn]
 | r::rs,h=>by rw [Tn,Zk (h r (X1 ..))];exact OL fun q hq=>h q (Xl _ hq)
theorem Sl {op:Int} {c:LI}:(U5 op c).length=c.length:=by unfold U5;split<;>simp
def cF (n:Zq):LI:=if YW n=true then Eb n else []
theorem Lo {n:Zq} (h:YW n=true):(cF n).length=4:=by rw [cF,Zk h];exact (Ls n.routines rfl).1
theorem S3 {n:Zq}:(cF n).length<=4:=by
 by_cases h:YW n=true
 ·rw [Lo h];exact YR _
 ·rw [cF,Z9 h];exact Qu _
theorem Lr:∀{rs:List ZX} {c:LI} {q:Int},CB c q->0<=q->(∀r∈rs,r.body.sz<=10000000)->CB (UN rs c) (q+10000000*rs.length)
 | [],c,q,h,hq,_=>by rw [UN];exact h.le (by simp)
 | r::rs,c,q,h,hq,hz=>by
  have h0:=hz r (X1 ..)
  have h1:=(CB.b r.body h hq).le (p:=q+10000000) om
  have h2:=Lr h1 om fun p hp=>hz p (Xl _ hp)
  rw [UN]
  refine h2.le ?_
  rw [YH];omega
theorem S2 {n:Zq} (hz:VC n) (hl:n.routines.length<=4):∀x∈cF n,0<=x/\x<=40000000:=by
 intro x hx
 rw [cF] at hx
 split at hx
 ·have h:=Lr (rs:=n.routines) (c:=[0,0,0,0]) (q:=0) ⟨rfl,fun y hy=>by simp at hy;omega⟩ om fun r hr=>hz.body r hr
  have:=h.bd x hx
  omega
 ·cases hx
end Go.Abs
