/-
  A part of the proof of FnPlainOfUptoSaid (see the last file): no condition.
-/
import Derived.Test.YthllacimcjakdaaGreatPofA
import Derived.Test.YthllacimcjakdaaGreatRows
import Derived.Deep.Slices
import Derived.ChangeArms
set_option linter.all false
set_option linter.unusedVariables false
set_option linter.unusedSimpArgs false
set_option linter.unusedSectionVars false
set_option maxRecDepth 10000
set_option maxHeartbeats 4000000
section
namespace Go.Abs
structure WQ where
 fields:LI
 fv:Value
structure WR where
 frm:Int
 to_:Int
 cons:List WQ
 cv:Value
mutual
inductive AN where
 | mk (op num into:Int) (args:LI) (av:Value) (kids:List JX) (kv:Value)
inductive JX where
 | mk (steps:List AN) (sv:Value) (result:Int)
end
namespace AN
end AN
namespace JX
end JX
structure DM where
 params:LI
 pv:Value
 lent:LI
 lv:Value
 result:Int
 body:JX
structure IE where
 decls:List WR
 dv:Value
 routines:List DM
 rv:Value
abbrev N3 (c:WQ):List AV:=[ZT c.fields c.fv]
abbrev IG (c:WQ):AV:=.agg (N3 c)
def VA (cs:List WQ):List AV:=cs.map IG
abbrev De (xs:List WQ) (v:Value):AV:=.sl (VA xs) (some v)
abbrev N4 (d:WR):List AV:=[.i d.frm,.i d.to_,De d.cons d.cv]
abbrev IH (d:WR):AV:=.agg (N4 d)
def WL (ds:List WR):List AV:=ds.map IH
abbrev Z6e (xs:List WR) (v:Value):AV:=.sl (WL xs) (some v)
@[simp] theorem Zco (xs:List WQ):(VA xs).length=xs.length:=by simp [VA]
theorem SU (xs ys:List WQ):VA (xs++ys)=VA xs++VA ys:=by simp [VA]
theorem Lv (xs:List WQ):∀y∈VA xs,y.leaves.length=1:=by intro y hy;simp only [VA,XC] at hy;obtain ⟨x,_,rfl⟩:=hy;rfl
@[simp] theorem Zcp (xs:List WR):(WL xs).length=xs.length:=by simp [WL]
theorem SV (xs ys:List WR):WL (xs++ys)=WL xs++WL ys:=by simp [WL]
theorem Lw (xs:List WR):∀y∈WL xs,y.leaves.length=3:=by intro y hy;simp only [WL,XC] at hy;obtain ⟨x,_,rfl⟩:=hy;rfl
def CT (c:WQ):List (Value × Nat):=[(c.fv,1)]
def Tu (cs:List WQ):List (Value × Nat):=cs.flatMap CT
def CU (d:WR):List (Value × Nat):=Tu d.cons++[(d.cv,1)]
def TJ (ds:List WR):List (Value × Nat):=ds.flatMap CU
mutual
def CW:AN->List (Value × Nat)
 | .mk _ _ _ _ av kids kv=>(av,1)::(Q8 kids++[(kv,2)])
def BU:JX->List (Value × Nat)
 | .mk steps sv _=>Q9 steps++[(sv,5)]
def Q9:List AN->List (Value × Nat)
 | []=>[]
 | s::r=>CW s++Q9 r
def Q8:List JX->List (Value × Nat)
 | []=>[]
 | b::r=>BU b++Q8 r
end
def CV (r:DM):List (Value × Nat):=(r.pv,1)::(r.lv,1)::BU r.body
def JE (rs:List DM):List (Value × Nat):=rs.flatMap CV
def Ev (n:IE):List (Value × Nat):=TJ n.decls++((n.dv,3)::(JE n.routines++[(n.rv,5)]))
theorem CX:∀(xs:List AN) (ys:List AN),Q9 (xs++ys)=Q9 xs++Q9 ys
 | [],ys=>by simp [Q9]
 | x::r,ys=>by rw [Qn,Q9,Q9,CX r ys,Up]
theorem CS:∀(xs:List JX) (ys:List JX),Q8 (xs++ys)=Q8 xs++Q8 ys
 | [],ys=>by simp [Q8]
 | x::r,ys=>by rw [Qn,Q8,Q8,CS r ys,Up]
theorem Ex:Q9 []=[]:=by rw [Q9]
theorem Es:Q8 []=[]:=by rw [Q8]
theorem Et (xs ys:List WQ):Tu (xs++ys)=Tu xs++Tu ys:=by simp [Tu]
theorem Eu (xs ys:List WR):TJ (xs++ys)=TJ xs++TJ ys:=by simp [TJ]
theorem Ew (xs ys:List DM):JE (xs++ys)=JE xs++JE ys:=by simp [JE]
def WQ.er (c:WQ):Y1:=⟨c.fields⟩
def WR.er (d:WR):Zd:=⟨d.frm,d.to_,d.cons.map WQ.er⟩
inductive TE:List AV->List AV->Prop
 | nil:TE [] []
 | cons {x y:AV} {xs ys:List AV} (hl:x.leaves.length=y.leaves.length) (h:V5 x.leaves y.leaves) (t:TE xs ys):TE (x::xs) (y::ys)
theorem TE.length:∀{xs ys:List AV},TE xs ys->xs.length=ys.length
 | _,_,.nil=>rfl
 | _,_,.cons _ _ t=>by simp [t.length]
theorem TE.els {w:World} {G:Y5} {k b:Nat}:∀{o:Nat} {xs ys:List AV},TE xs ys->WD w G k b o xs->WD w G k b o ys
 | _,_,_,.nil,_=>.nil
 | _,_,_,.cons hl h t,.cons hk hm r=>.cons (hl▸hk) (h.mem hm) (t.els r)
theorem Zc.els {es es':List AV} (hv:Option Value) (h:TE es es'):Zc (.sl es hv) (.sl es' none):=by
 intro w G v hr
 cases hr with
 | nil _=>cases h;exact .nil (by simp)
 | sl _ hc hm=>rw [h.length] at hc ⊢;exact .sl (by simp) hc (h.els hm)
theorem TE.map {α β:Type} {f:α->AV} {g:β->AV} {e:α->β} (h:∀x,(f x).leaves.length=(g (e x)).leaves.length/\V5 (f x).leaves (g (e x)).leaves):∀xs:List α,TE (xs.map f) ((xs.map e).map g)
 | []=>.nil
 | x::r=>.cons (h x).1 (h x).2 (TE.map h r)
theorem Z5v (c:WQ):V5 (N3 c) (C0 c.er):=.cons (Zc.forget _ _) .nil
theorem Z0b (cs:List WQ):TE (VA cs) (Xt (cs.map WQ.er)):=TE.map (f:=IG) (g:=Bw) (e:=WQ.er) (fun c=>⟨rfl,Z5v c⟩) cs
theorem Z5w (d:WR):V5 (N4 d) (UP d.er):=.cons (Zc.refl _) (.cons (Zc.refl _) (.cons (Zc.els _ (Z0b _)) .nil))
theorem Z0c (ds:List WR):TE (WL ds) (Yp (ds.map WR.er)):=TE.map (f:=IH) (g:=Ji) (e:=WR.er) (fun c=>⟨rfl,Z5w c⟩) ds
theorem UQ {es:List AV} {k:Nat} (h:es.all (fun y=>Nat.beq y.leaves.length k)=true):∀y∈es,y.leaves.length=k:=fun y hy=>VY (Kz.1 h y hy)
abbrev rK (g:Hd) (k:Nat) (ls:List AV):Res:=.row g.v k ls
section
variable {P:Program} {n:Nat} {c:Code} {A:Wu} {F:Fr} {h:List Res} {ops:Array Oper} {B:Fr->List Res->Prop} {k:Nat}
variable {T:List (Nat × List Nat)} {fuel:Nat} {done:List Nat}
theorem tB (is:List Nat) (hs:List Res) (L' L:List (Value × Nat)) (e:L'=L) (hp:XW is h=some hs:=by kernel_rfl) (hb:Q3 hs=some L':=by kernel_rfl):Uq h (.many L::Xp is h):=e▸Zbn is hp hb
theorem rr {v:Value} {q:Nat} {ls ls':List AV} {t t':List Res} (h:ls=ls') (e:t=t'):Res.row v q ls::t=.row v q ls'::t':=h▸e▸rfl
theorem MP (j m:Nat) (v:Hd) (kk:Nat) (ls:List AV) (hm:ls.length=m*kk) (hk:0<kk:=by omega) (hl:C1 P ops F k=some (.h v):=by kernel_rfl) (hj:h[j]? = some (rK v kk ls):=by kernel_rfl):Xs P (ZA ops k) F h [] (.i m):=
 Zb6 j hl hj hm hk
theorem XJ (b l c' q sz:Nat) (j:Int) (hq:j=(q:Int)/\q<l:=by omega) (hi:Ak P ops F k=some (.val (.slice (some ⟨b,0,none⟩) l c'),j,sz):=by kernel_rfl):Xs P (ZA ops k) F h [] (.val (.pointer (some ⟨b,q*sz,none⟩))):=by
 have:=Pp (P:=P) (F:=F) (h:=h) hi om om
 rw [hq.1,VU,WP] at this
 exact this
theorem WJ (j g len cap kk o:Nat) (ls zs:List AV) (t:TypeId) (y:AV) (hz:(ls.drop o).take zs.length=zs) (hl:Hy ops F k=some (t,.val (.pointer (some ⟨g,o,none⟩))):=by kernel_rfl) (hj:h[j]? = some (.row (.slice (some ⟨g,0,none⟩) len cap) kk ls):=by kernel_rfl)
  (hy:JH P t zs=some y:=by kernel_rfl):Xs P (ZA ops k) F h [g] y:=Zb7 j hl hj hz hy
theorem BW (j g len cap kk o:Nat) (xs ls:List AV) (ls':List AV) (hlt:o+xs.length<=ls.length) (he:ls.take o++xs++ls.drop (o+xs.length)=ls') (H:SI P n ops B (k+1) F (.row (.slice (some ⟨g,0,none⟩) len cap) kk ls'::Xp [j] h)) (hk:YV n ops F k=true:=by kernel_rfl)
  (hs:storeAt P ops F k=some (g,o,xs):=by kernel_rfl) (hp:XW [j] h=some [.row (.slice (some ⟨g,0,none⟩) len cap) kk ls]:=by kernel_rfl):SI P n ops B k F h:=
 Tb hk (Wb.perm (VS (V3 hp)) (NG hs hlt (by rw [he];exact H)))
theorem Aa (i j:Nat) (js bs:List Nat) (g len cap kk o:Nat) (xs ls:List AV) (ls':List AV) (hlt:o+xs.length<=ls.length) (he:ls.take o++xs++ls.drop (o+xs.length)=ls')
  (H:YL P n ops B (T.filter fun t=>!Wz ops i t.1) fuel (done++[i]) F (.row (.slice (some ⟨g,0,none⟩) len cap) kk ls'::Xp [j] h)) (hk:YV n ops F i=true:=by kernel_rfl)
  (hs:storeAt P ops F i=some (g,o,xs):=by kernel_rfl) (hp:XW [j] h=some [.row (.slice (some ⟨g,0,none⟩) len cap) kk ls]:=by kernel_rfl) (ho:Vv ops i T=bs:=by kernel_rfl)
  (hj:js.map (fun q=>(Wf (Xp [j] h))[q]?)=bs.map some:=by kernel_rfl):WY P n ops B T fuel done F h i:=
 Qv [j] js bs hk (V3 hp) ho hj (NG (h2:=[]) hs hlt (by rw [he];exact H))
theorem BV (sz:Nat) (hK:∀g,SI P n ops B (k+1) (F.put (ZA ops k).dst (.val (.slice (some ⟨g,0,none⟩) 0 0))) (.row (.slice (some ⟨g,0,none⟩) 0 0) sz []::h)) (hk:YV n ops F k=true:=by kernel_rfl)
  (ha:UR P ops F k=some ([],0,sz):=by kernel_rfl):SI P n ops B k F h:=Tb hk (Z6s (Vg hk).2.1 ha hK)
theorem Ha (j g sz:Nat) (xs:List AV) (hx:Option Value) (hxs:∀y∈xs,y.leaves.length=sz) (hbound:xs.length<=4294967296) (hK:∀v:Hd,SI P n ops B (k+1) (F.put (ZA ops k).dst (.h v)) (rK v sz (Ze xs)::Xp [j] h))
  (hk:YV n ops F k=true:=by kernel_rfl) (ha:VZ P ops F k=some (.val (.slice (some ⟨g,0,none⟩) 0 0),.sl xs hx,sz):=by kernel_rfl) (hp:XW [j] h=some [.row (.slice (some ⟨g,0,none⟩) 0 0) sz []]:=by kernel_rfl):SI P n ops B k F h:=
 Tb hk (Wb.perm (VS (V3 hp)) (Z6q (Vg hk).2.1 ha hxs hbound hK))
theorem MM (j m:Nat) {v:Hd} {kk:Nat} {ls:List AV} (hm:ls.length=m*kk) (h0:0<m) (H:∀g c',v=⟨some ⟨g,0,none⟩,m,c'⟩->YF P n c A F h) (hk:0<kk:=by omega) (hj:h[j]? = some (rK v kk ls):=by kernel_rfl):YF P n c A F h:=
 R6 j m hj hm hk h0 H
theorem MO (t j:Nat) {v:Hd} {kk:Nat} (es:List AV) (hes:∀y∈es,y.leaves.length=kk) (H:YF P n c A ((t,.sl es (some v.v))::F) (.tail v.v kk::Xp [j] h)) (hk:0<kk:=by omega) (hF':F.get t=.h v:=by kernel_rfl)
  (hp:XW [j] h=some [rK v kk (Ze es)]:=by kernel_rfl):YF P n c A F h:=R5 t j hF' hp hes hk H
theorem Zbm (j i p:Nat) (u v:Value) (kk kv:Nat) (es ls:List AV) (hes:∀y∈es,y.leaves.length=kk) (hl:ls[p]? = some (.val u)) (hk:0<kk:=by omega) (hp:XW [j,i] h=some [.row u kk (Ze es),.row v kv ls]:=by kernel_rfl) :
  Uq h (.row v kv (ls.set p (.sl es (some u)))::.tail u kk::Xp [j,i] h):=Pz j i p hp hes hk hl
theorem Dq {A xs ys B:List AV} {o:Nat} (hA:A.length=o) (hl:xs.length=ys.length):(A++(xs++B)).take o++ys++(A++(xs++B)).drop (o+ys.length)=A++(ys++B):=by
 subst hA
 rw [Jd,<-hl,<-List.drop_drop,List.drop_left,List.drop_left,Up]
theorem HT {A xs B:List AV} {o:Nat} (hA:A.length=o):((A++(xs++B)).drop o).take xs.length=xs:=by
 subst hA
 rw [List.drop_left,Jd]
theorem VV (xs ys:List AV):Ze (xs++ys)=Ze xs++Ze ys:=by simp [Ze]
theorem Z0t:Ze []=[]:=rfl
theorem Cg (j:Nat) (v:Value) (q:Nat) (ls ls':List AV) (e:ls=ls') (hp:XW [j] h=some [.row v q ls]:=by kernel_rfl):Uq h (.row v q ls'::Xp [j] h):=by
 subst e
 intro w G hh
 have hp':=VS (V3 hp)
 exact ⟨G,hh.perm hp',(YO.refl w G h).perm (TC _) hp'⟩
end
end Go.Abs
end
section
namespace Go.Abs
theorem Yq.rgrow {w:World} {G:Y5} {h2:List Res} {g len len' cap k:Nat} {ls ls':List AV} (hh:Yq w G (.row (.slice (some ⟨g,0,none⟩) len cap) k ls::h2)) {cs cs':Array Value} {e:TypeId}
  (hb:w.heap[g]? = some (.cells cs e (0,0))) (Xk:cs'.size=cs.size) (hle:len'<=cap) (hcap:cs.size=cap*k) (hl:ls'.length=len'*k) (hls:YG w G ls' (cs'.toList.take (len'*k))) :
  Yq (w.setRow g cs') G (.row (.slice (some ⟨g,0,none⟩) len' cap) k ls'::h2) /\
   YO w G (.row (.slice (some ⟨g,0,none⟩) len cap) k ls::h2) (w.setRow g cs') G (.row (.slice (some ⟨g,0,none⟩) len' cap) k ls'::h2):=by
 have hmem:Res.row (.slice (some ⟨g,0,none⟩) len cap) k ls∈Res.row (.slice (some ⟨g,0,none⟩) len cap) k ls::h2:=X4 ..
 have hA:Vk G w (w.setRow g cs') G:=⟨fun c j hg=>by
  have hne:c≠g:=fun he=>hh.prot _ hmem c j he hg
  simp [World.cell?,Vc w g c cs' hne],fun _ _ h=>h⟩
 have e1:YO w G [.row (.slice (some ⟨g,0,none⟩) len cap) k ls] (w.setRow g cs') G [.row (.slice (some ⟨g,0,none⟩) len' cap) k ls']:=by
  refine ⟨rfl,rfl,rfl,by simp [World.setRow],fun _ _ h=>h,?_,fun _ _ _ h=>.inl h,?_⟩
  ·intro c hc
   by_cases hcb:c=g
   ·subst hcb
    exact .inr ⟨cs,cs',e,(0,0),hb,setRow_heap w c cs cs' e (0,0) hb,Xk,fun j hj=>absurd ⟨_,X4 ..,rfl⟩ hj⟩
   ·exact .inl (Vc w g c cs' hcb)
  ·rintro c j _ ⟨r,hr,hf⟩
   rw [XT.1 hr] at hf
   exact ⟨_,X4 ..,hf⟩
 have e2:Yq (w.setRow g cs') G [.row (.slice (some ⟨g,0,none⟩) len' cap) k ls']:=by
  refine ⟨fun r hr=>?_,Ck _ _,fun r hr c j hf hg=>?_,fun c j hg=>?_⟩
  ·rw [XT.1 hr]
   exact .inr ⟨g,len',cap,cs',e,rfl,setRow_heap w g cs cs' e (0,0) hb,hle,Xk.trans hcap,hl,hls.mono hA⟩
  ·rw [XT.1 hr] at hf
   exact hh.prot _ hmem c j hf hg
  ·have:=hh.lt c j hg
   simpa [World.setRow] using this
 exact Yq.frame (h:=[.row (.slice (some ⟨g,0,none⟩) len cap) k ls]) (k:=h2) hh e1 e2
section
variable {P:Program} {n:Nat} {ops:Array Oper} {k:Nat} {F:Fr} {h2:List Res}
theorem NE {K:Fr->List Res->Prop} {v:Hd} {sz m:Nat} {ls xs:List AV} {hx:Option Value} (hd:WZ n (ZA ops k)=true) (ha:VZ P ops F k=some (.val v.v,.sl xs hx,sz))
  (hxs:∀y∈xs,y.leaves.length=sz) (hone:(Ze xs).all AV.one=true) (hm0:ls.length=m*sz) (hk0:0<sz) (hne:xs≠[]) (hbound:m+xs.length<=4294967296)
  (hK:∀v':Hd,K (F.put (ZA ops k).dst (.val v'.v)) (.row v'.v sz (ls++Ze xs)::h2)):Wb P n (ZA ops k) F (.row v.v sz ls::h2) K:=by
 unfold VZ at ha
 generalize hoo:ZA ops k=o at ha hd hK
 obtain ⟨dst,op,type,pos,after,guard⟩:=o
 cases op<;>simp only at ha<;>try (cases ha)
 rename_i c
 obtain ⟨callee,args,tys⟩:=c
 simp only at ha
 split at ha
 case h_2=>cases ha
 rename_i s x t t' hargs htys
 split at ha
 case h_2=>cases ha
 rename_i e htt ht
 have:=VY htt
 subst this
 split at ha
 case h_2=>cases ha
 rename_i i hinfo
 split at ha
 case h_2=>cases ha
 rename_i z hz
 split at ha
 case h_2=>cases ha
 rename_i hb
 simp only [Xy] at hb
 simp only [W0,Prod.mk.injEq] at ha
 obtain ⟨h3,h4,hk1⟩:=ha
 have e1:args=#[s,x]:=by rw [<-VK (xs:=args),hargs]
 have e2:tys=#[t,t]:=by rw [<-VK (xs:=tys),htys]
 subst e1;subst e2
 have hzs:z.cells.size=sz:=by rw [VY hb.1,hk1]
 have hby:=WC hb.2
 have hfl:=U4 xs hxs
 intro Q w G a hF hh
 have v1:=hF.ev s
 have v2:=hF.ev x
 rw [h3] at v1
 rw [h4] at v2
 have v1:=v1.val_inv
 have v2:=v2.forget
 have finish:∀(v':Hd) w',(Builtin.append_ #[t,t] type #[v.v,a.eval x]).run P w=.ok v'.v w'->Yq w' G (.row v'.v sz (ls++Ze xs)::h2)->YO w G (.row v.v sz ls::h2) w' G (.row v'.v sz (ls++Ze xs)::h2) ->
   ({ dst:=dst,op:=.call { callee:=.builtin .append,args:=#[s,x],argTypes:=#[t,t] },type:=type,pos:=pos,after:=after,guard:=guard }:Oper).wp P a w
    (fun a' w'=>∃F' h' G',K F' h'/\FR w' G' n F' a'/\Yq w' G' h'/\YO w G (.row v.v sz ls::h2) w' G' h') Q:=by
  intro v' w' hr j1 j2
  have hrun:(execOp a.eval { dst:=dst,op:=.call { callee:=.builtin .append,args:=#[s,x],argTypes:=#[t,t] },type:=type,pos:=pos,after:=after,guard:=guard }).run P w=.ok (.value v'.v) w':=by
   simp only [execOp,resolve,invoke,builtin,Sem.run_bind,Sem.run_pure,Result.andThen_ok,Bq,VL,AI,v1,hr]
  unfold Oper.wp
  rw [hrun]
  exact ⟨_,_,G,hK v',(hF.mono (j2.agree hh)).put (Ug hd) .val,j1,j2⟩
 have hrow0:=hh.ok (.row v.v sz ls) (X4 ..)
 have hsub2:∀r:Res,List.Sublist (r::h2) (r::.row v.v sz ls::h2):=fun r=>List.Sublist.cons_cons _ (AJ _ _)
 have grown:∀(olds news:List Value) (old:Nat),YG w G ls olds->YG w G (Ze xs) news ->
   Yq (w.drew.alloc (.cells (olds.toArray++news.toArray++Builtin.zeroCells z.cells (grownCap w (m+xs.length) old e-(m+xs.length))) e)) G
    (.row (.slice (some ⟨w.heap.size,0,none⟩) (m+xs.length) (grownCap w (m+xs.length) old e)) sz (ls++Ze xs)::h2) /\
   YO w G (.row v.v sz ls::h2) (w.drew.alloc (.cells (olds.toArray++news.toArray++Builtin.zeroCells z.cells (grownCap w (m+xs.length) old e-(m+xs.length))) e)) G
    (.row (.slice (some ⟨w.heap.size,0,none⟩) (m+xs.length) (grownCap w (m+xs.length) old e)) sz (ls++Ze xs)::h2):=by
  intro olds news old ho hn
  have YY:=grownCap_ge w (m+xs.length) old e
  have hol:=ho.length
  have hnl:=hn.length
  have hlen:(ls++Ze xs).length=(m+xs.length)*sz:=by rw [Yn,hm0,hfl,TD]
  obtain ⟨j1,j2⟩:=hh.drew.alloc_rrow (olds.toArray++news.toArray++Builtin.zeroCells z.cells (grownCap w (m+xs.length) old e-(m+xs.length))) e
   (ls:=ls++Ze xs) (len:=m+xs.length) (cap:=grownCap w (m+xs.length) old e) (k:=sz) YY
   (by
    have q2:(grownCap w (m+xs.length) old e-(m+xs.length))*sz=grownCap w (m+xs.length) old e*sz-(m+xs.length)*sz:=Nat.sub_mul ..
    have q3:(m+xs.length)*sz<=grownCap w (m+xs.length) old e*sz:=TZ _ YY
    have q4:(m+xs.length)*sz=m*sz+xs.length*sz:=TD ..
    simp only [Array.size_append,Cl,size_zeroCells,hzs,hol,hnl,hm0,hfl]
    omega) hlen
   (by
    have:(olds.toArray++news.toArray++Builtin.zeroCells z.cells (grownCap w (m+xs.length) old e-(m+xs.length))).toList.take ((m+xs.length)*sz)=olds++news:=by
     simp only [Ci]
     rw [<-hlen,Yn,<-hol,<-hnl,<-Yn]
     exact Jd
    rw [this]
    exact (ho.append hn).mono (A1 w G))
  exact ⟨j1.sub (hsub2 _),(YO.drew w G _).trans (j2.sub' (hsub2 _))⟩
 generalize hax:a.eval x=ax at v2 finish
 cases v2 with
 | nil _=>exact absurd rfl hne
 | sl hq hcc hm=>
  rename_i b o' k' c
  have hpos:0<xs.length:=DH.2 hne
  have hfm:=hm.flat_mem
  obtain ⟨news,hn,hnc⟩:=hfm.cells
  have hnl:news.length=xs.length*i.size:=by rw [hn.length,hfl,hk1]
  have hone':=hn.one_cells hone
  have hnews:∀j u,news[j]? = some u->w.cell? ((⟨b,o',none⟩:Addr).add j)=some u:=fun j u hj=>by rw [QM];exact (hnc j u hj).1
  have hbb:(m+xs.length)*i.bytes<=140737488355328:=by
   have:=Nat.mul_le_mul hbound hby
   omega
  rcases hrow0 with ⟨hv0,hl0⟩|⟨g,len,cap,cur,el,hv0,hrow,hlc,hcur,hll,hcells⟩
  ·subst hl0
   have hm1:m=0:=by
    have:m*sz=0:=by simpa using hm0.symm
    rcases Nat.mul_eq_zero.1 this with h|h
    ·exact h
    ·omega
   subst hm1
   rw [hv0] at finish hh ⊢
   have hr:=run_append_nil (P:=P) w t type e i z ht hinfo hz ⟨b,o',none⟩ xs.length c news hnl hnews hpos om (by simp only [WP] at hbb;omega)
   obtain ⟨j1,j2⟩:=grown [] news 0 .nil hn
   simp only [WP,Array.empty_append,Br] at j1 j2
   rw [hv0] at j2
   exact finish ⟨some ⟨w.heap.size,0,none⟩,xs.length,grownCap w xs.length 0 e⟩ _ hr (by simpa using j1) (by simpa using j2)
  ·have hlm:len=m:=FM hk0 (hll.symm.trans hm0)
   subst hlm
   rw [hv0] at finish hh ⊢
   have q5:len*sz<=cap*sz:=TZ _ hlc
   have h1:(cur.toList.take (len*sz)).length=len*sz:=by rw [Ws,QH,hcur,Vj q5]
   have hcl:cur.toList.length=cap*sz:=by rw [QH,hcur]
   by_cases hroom:len+xs.length<=cap
   ·have q1:(len+xs.length)*sz<=cap*sz:=TZ _ hroom
    have q2:(len+xs.length)*sz=len*sz+xs.length*sz:=TD ..
    have hfit:len*i.size+news.length<=cur.size:=by rw [hnl,hcur,hk1];omega
    have hr:=Fg (P:=P) w t type e el i ht hinfo g len cap cur hrow ⟨b,o',none⟩ xs.length c news hnl hnews hone' hroom hfit
    rw [hk1] at hr
    have hnl':news.length=xs.length*sz:=by rw [hnl,hk1]
    obtain ⟨j1,j2⟩:=hh.rgrow (ls':=ls++Ze xs) (len':=len+xs.length) (cs':=(cur.toList.take (len*sz)++news++cur.toList.drop (len*sz+news.length)).toArray) hrow
     (by simp only [Cl,Yn,h1,hnl',Jc,hcl,hcur];omega) hroom hcur (by rw [Yn,hll,hfl,q2]) (by
      have:(cur.toList.take (len*sz)++news++cur.toList.drop (len*sz+news.length)).toArray.toList.take ((len+xs.length)*sz)=cur.toList.take (len*sz)++news:=by
       rw [Cm,q2,<-hnl']
       conv=>lhs;arg 1;rw [show len*sz+news.length=(cur.toList.take (len*sz)++news).length from by rw [Yn,h1]]
       exact Jd
      rw [this]
      exact hcells.append hn)
    exact finish ⟨some ⟨g,0,none⟩,len+xs.length,cap⟩ _ hr j1 j2
   ·have hr:=run_append_grow (P:=P) w t type e i z ht hinfo hz ⟨g,0,none⟩ len cap (cur.toList.take (len*sz)) (by rw [hk1];exact h1) (fun j u hj=>by
     rw [QM,cell_of_row w g _ cur el (0,0) hrow]
     rw [Qo] at hj
     split at hj
     ·simpa using hj
     ·cases hj) ⟨b,o',none⟩ xs.length c news hnl hnews om om (growslice_fits om hbb)
    obtain ⟨j1,j2⟩:=grown (cur.toList.take (len*sz)) news cap hcells hn
    rw [hv0] at j2
    exact finish ⟨some ⟨w.heap.size,0,none⟩,len+xs.length,grownCap w (len+xs.length) cap e⟩ _ hr j1 j2
end
section
variable {P:Program} {n:Nat} {ops:Array Oper} {B:Fr->List Res->Prop} {k:Nat} {F:Fr} {h:List Res}
theorem ED (j m:Nat) (v:Hd) (sz:Nat) (ls xs:List AV) (hx:Option Value) (hm0:ls.length=m*sz) (hxs:∀y∈xs,y.leaves.length=sz) (hone:(Ze xs).all AV.one=true) (hne:xs≠[]) (hbound:m+xs.length<=4294967296)
  (hK:∀v':Hd,SI P n ops B (k+1) (F.put (ZA ops k).dst (.h v')) (rK v' sz (ls++Ze xs)::Xp [j] h)) (hk0:0<sz:=by omega)
  (hk:YV n ops F k=true:=by kernel_rfl) (ha:VZ P ops F k=some (.h v,.sl xs hx,sz):=by kernel_rfl) (hp:XW [j] h=some [rK v sz ls]:=by kernel_rfl):SI P n ops B k F h:=
 Tb hk (Wb.perm (VS (V3 hp)) (NE (Vg hk).2.1 ha hxs hone hm0 hk0 hne hbound hK))
end
end Go.Abs
namespace Go.Abs
section
variable {P:Program} {n:Nat} {ops:Array Oper} {B:Fr->List Res->Prop} {T:List (Nat × List Nat)} {fuel:Nat} {done:List Nat} {F:Fr} {h:List Res}
theorem Gl (i j m:Nat) (js bs:List Nat) (v:Hd) (sz:Nat) (ls xs:List AV) (hx:Option Value) (hm0:ls.length=m*sz) (hxs:∀y∈xs,y.leaves.length=sz) (hone:(Ze xs).all AV.one=true) (hne:xs≠[]) (hbound:m+xs.length<=4294967296)
  (hK:∀v':Hd,YL P n ops B (T.filter fun t=>!Wz ops i t.1) fuel (done++[i]) (F.put (ZA ops i).dst (.h v')) (rK v' sz (ls++Ze xs)::Xp [j] h)) (hk0:0<sz:=by omega) (hk:YV n ops F i=true:=by kernel_rfl)
  (ha:VZ P ops F i=some (.h v,.sl xs hx,sz):=by kernel_rfl) (hp:XW [j] h=some [rK v sz ls]:=by kernel_rfl) (ho:Vv ops i T=bs:=by kernel_rfl)
  (hj:js.map (fun q=>(Wf (Xp [j] h))[q]?)=bs.map some:=by kernel_rfl):WY P n ops B T fuel done F h i:=
 Qv [j] js bs hk (V3 hp) ho hj (NE (h2:=[]) (Vg hk).2.1 ha hxs hone hm0 hk0 hne hbound hK)
end
theorem Wh.form {P:Program} {f:FuncId} {as1:List AV} {h0:List Res} {T:Hd->AV} {kk m:Nat} {ls:List AV} {hs:List Res} (H:Wh P f as1 h0 (fun r h=>∃v:Hd,r=T v/\h=rK v kk ls::hs)) (hm:ls.length=m*kk) (hk:0<kk) (h1:0<m) :
  Wh P f as1 h0 (fun r h=>∃(g c:Nat),r=T ⟨some ⟨g,0,none⟩,m,c⟩/\h=rK ⟨some ⟨g,0,none⟩,m,c⟩ kk ls::hs):=by
 intro w G vs hv hh
 refine (H w G vs hv hh).mono ?_
 rintro e w' ⟨u,r,h',G',he,⟨v,rfl,rfl⟩,hr,hh',hx⟩
 obtain ⟨g,c,rfl⟩:=HS (hh'.ok _ (X4 ..)) hm hk h1
 exact ⟨u,_,_,G',he,⟨g,c,rfl,rfl⟩,hr,hh',hx⟩
end Go.Abs
namespace Go.Abs
section
variable {h:List Res}
theorem Zbp (j i p:Nat) {u:Value} {kk b:Nat} {es ls:List AV} (hp:XW [j,i] h=some [.row u kk (Ze es),.obj b ls]) (hes:∀y∈es,y.leaves.length=kk) (hk:0<kk) (hl:ls[p]? = some (.val u)) :
  Uq h (.obj b (ls.set p (.sl es (some u)))::.tail u kk::Xp [j,i] h):=by
 intro w G hh
 have hp':=VS (V3 hp)
 have hh':=hh.perm hp'
 obtain ⟨G',h1,h2',h3⟩:=Cb (h2:=.obj b ls::Xp [j,i] h) hh' hes hk
 have e:=h2'.perm hp'.symm (TC _)
 have h1:Yq w G' (.tail u kk::.obj b ls::Xp [j,i] h):=h1
 have perm:(Res.tail u kk::.obj b ls::Xp [j,i] h).Perm (.obj b ls::.tail u kk::Xp [j,i] h):=List.Perm.swap ..
 have h4:=h1.perm perm
 have e4:=e.perm (TC _) perm
 have hset:∀{w:World} {G:Y5},RV w G (.sl es (some u)) u->Tn w G (.obj b ls)->Tn w G (.obj b (ls.set p (.sl es (some u)))):=by
  intro w G hu hr
  obtain ⟨cs,el,k1,k5⟩:=hr
  refine ⟨cs,el,k1,?_⟩
  obtain ⟨c,c1,c2⟩:=k5.get p _ hl
  have:=c2.val_inv
  subst this
  have h6:=k5.set p hu
  rwa [show cs.toList.set p c=cs.toList from by
   apply List.ext_getElem?
   intro q
   rw [List.getElem?_set]
   split
   ·rename_i hq;subst hq;split
    ·exact c1.symm
    ·rename_i hq2;rw [Cj om]
   ·rfl] at h6
 refine ⟨G',⟨fun r hr=>?_,?_,fun r hr=>?_,h4.lt⟩,⟨e4.os,e4.tape,e4.output,e4.size,e4.sub,e4.same,e4.newG,fun b' o hb ⟨r,hr,hf⟩=>e4.newfp b' o hb ?_⟩⟩
 ·rcases YE.1 hr with rfl|hr
  ·exact hset h3 (h4.ok _ (X4 ..))
  ·exact h4.ok r (Xu _ hr)
 ·have:=Wt.1 h4.apart
  exact Wt.2 ⟨fun r hr b' o f1 f2=>this.1 r hr b' o f1 f2,this.2⟩
 ·rcases YE.1 hr with rfl|hr
  ·exact fun b' o f1 hg=>h4.prot (.obj b ls) (X4 ..) b' o f1 hg
  ·exact h4.prot r (Xu _ hr)
 ·rcases YE.1 hr with rfl|hr
  ·exact ⟨.obj b ls,X4 ..,hf⟩
  ·exact ⟨r,Xu _ hr,hf⟩
theorem UE (j i p:Nat) (u:Value) (kk b:Nat) (es ls:List AV) (hes:∀y∈es,y.leaves.length=kk) (hl:ls[p]? = some (.val u)) (hk:0<kk:=by omega) (hp:XW [j,i] h=some [.row u kk (Ze es),.obj b ls]:=by kernel_rfl) :
  Uq h (.obj b (ls.set p (.sl es (some u)))::.tail u kk::Xp [j,i] h):=Zbp j i p hp hes hk hl
end
end Go.Abs
namespace Go.Abs
section
variable {P:Program} {n:Nat} {ops:Array Oper} {k:Nat} {F:Fr} {h:List Res}
theorem Zb8 (j:Nat) {g l c m kk:Nat} {ls:List AV} (hi:Cf P ops F k=some (.val (.slice (some ⟨g,0,none⟩) l c),(m:Int))) (hj:h[j]? = some (.row (.slice (some ⟨g,0,none⟩) l c) kk ls)) (hle:m<=l) :
  Xs P (ZA ops k) F h [] (.val (.slice (some ⟨g,0,none⟩) m c)):=by
 unfold Cf at hi
 generalize hoo:ZA ops k=o at hi
 obtain ⟨dst,op,type,pos,after,guard⟩:=o
 cases op<;>simp only at hi<;>try (cases hi)
 rename_i t x lo hi' mx
 cases lo with
 | some _=>simp at hi
 | none=>
  cases hi' with
  | none=>simp at hi
  | some y=>
   cases mx with
   | some _=>simp at hi
   | none=>
    simp only at hi
    split at hi
    ·rename_i e ht
     split at hi
     ·rename_i inf hinf
      split at hi
      ·rename_i ik m' hm
       simp only [W0,Prod.mk.injEq] at hi
       obtain ⟨hx,rfl⟩:=hi
       intro n w G a hF hh
       have v1:=hF.ev x
       rw [hx] at v1
       have v1:=v1.val_inv
       have v2:=hF.ev y
       rw [hm] at v2
       have v2:=v2.val_inv
       have hcap:l<=c:=by
        rcases hh.ok _ (ZZ hj) with ⟨h0,_⟩|⟨g',l',c',cur,el,h0,_,hc,_⟩
        ·cases h0
        ·cases h0;exact hc
       refine ⟨_,.val,fun w' _ _=>?_⟩
       simp only [execOp,v1,v2,AK,Option.map_none]
       refine WW ?_
       simp only [Instr.sliceAt,Sem.run_bind,Vh ht,Result.andThen_ok,Instr.slice]
       have hmm:(Instr.sliceBounds true l c none (some (.int ik (m:Int))) none).run P w'=.ok (0,m,c) w':=by
        have ZF:=fun q=>Cd (P:=P) (c:=q) (v:=.int ik (m:Int)) (y:=c) rfl om om w'
        simp [Instr.sliceBounds,ZF]
       rw [hmm]
       have hz:∀a:Addr,a.add 0=a:=fun a=>by simp [Addr.add]
       simp only [Result.andThen_ok,TR hinf,Nat.zero_mul,hz]
       by_cases h0:c=0<;>simp [h0]
      ·cases hi
     ·cases hi
    ·cases hi
theorem Hh (j g l c m kk:Nat) (ls:List AV) (hle:m<=l:=by omega) (hi:Cf P ops F k=some (.val (.slice (some ⟨g,0,none⟩) l c),(m:Int)):=by kernel_rfl) (hj:h[j]? = some (.row (.slice (some ⟨g,0,none⟩) l c) kk ls):=by kernel_rfl) :
  Xs P (ZA ops k) F h [] (.val (.slice (some ⟨g,0,none⟩) m c)):=Zb8 j hi hj hle
variable {B:Fr->List Res->Prop}
end
end Go.Abs
end
namespace Go.Abs
theorem Y3 {α:Type} {xs:List α} {k:Nat} {x:α} (h:xs[k]? = some x):xs.drop k=x::xs.drop (k+1):=by
 have hk:=(XB.1 h).1
 rw [PR hk]
 congr 1
 rw [AH hk] at h
 exact JU h
theorem X5 {α:Type} {xs:List α} {k:Nat} (h:xs.length<=k):xs.drop k=[]:=FJ h
theorem Wq {α:Type} {xs:List α} {k:Nat} {x:α} (h:xs[k]? = some x):xs.take (k+1)=xs.take k++[x]:=by
 rw [List.take_add_one,h];rfl
def Yy:List Zd->Nat
 | []=>0
 | d::ds=>d.cons.length+Yy ds
theorem Cw (xs ys:List Zd):Yy (xs++ys)=Yy xs+Yy ys:=by
 induction xs with
 | nil=>simp [Yy]
 | cons d ds ih=>simp [Yy,ih];omega
structure W1 (ds:List Zd):Prop where
 len:ds.length<=4
 cons:∀d∈ds,d.cons.length<=3
 fields:∀d∈ds,∀c∈d.cons,c.fields.length<=3
theorem S5 {ds:List Zd} {m:Nat} (h:∀d∈ds,d.cons.length<=m):Yy ds<=ds.length*m:=by
 induction ds with
 | nil=>simp [Yy]
 | cons d ds ih=>
  have h1:=h d (by simp)
  have h2:=ih (fun x hx=>h x (by simp [hx]))
  simp only [Yy,YK,TD];omega
theorem W1.sum {ds:List Zd} (h:W1 ds):Yy ds<=12:=by
 have:=S5 h.cons
 have:=h.len
 have:ds.length*3<=4*3:=TZ 3 h.len
 omega
theorem W1.take {ds:List Zd} (h:W1 ds) (k:Nat):W1 (ds.take k):=
 ⟨by have:=h.len;simp;omega,fun d hd=>h.cons d (TY hd),fun d hd=>h.fields d (TY hd)⟩
theorem W1.cons_at {ds:List Zd} (h:W1 ds) {k:Nat} {d:Zd} (hd:ds[k]? = some d):d.cons.length<=3:=h.cons d (ZZ hd)
theorem W1.fields_at {ds:List Zd} (h:W1 ds) {k j:Nat} {d:Zd} {c:Y1} (hd:ds[k]? = some d) (hc:d.cons[j]? = some c):c.fields.length<=3:=
 h.fields d (ZZ hd) c (ZZ hc)
def Us (c:Int):List Zd->Nat->Nat->Int × LI
 | [],_,_=>(-1,[])
 | d::ds,i,first=>
  if (first:Int)<=c/\c<=((first+d.cons.length:Nat):Int)-1 then ((i:Int)+1,(d.cons[(c-first).toNat]?.map (·.fields)).getD []) else Us c ds (i+1) (first+d.cons.length)
def XP (ds:List Zd) (c:Int):Int:=(Us c ds 0 0).1
def ZP (ds:List Zd) (c:Int):LI:=(Us c ds 0 0).2
theorem Gi {c:Int}:∀{ds:List Zd} {i first:Nat},(Us c ds i first=(-1,[]) ∨
  ∃k d x,ds[k]? = some d/\(first+Yy (ds.take k):Int)<=c/\c<first+Yy (ds.take k)+d.cons.length/\d.cons[(c-(first+Yy (ds.take k))).toNat]? = some x/\Us c ds i first=((i:Int)+k+1,x.fields))
 | [],_,_=>.inl rfl
 | d::ds,i,first=>by
  rw [Us]
  split
  ·rename_i h
   have hlt:(c-first).toNat<d.cons.length:=by omega
   refine .inr ⟨0,d,d.cons[(c-first).toNat],rfl,by simp [Yy];omega,by simp [Yy];omega,?_,?_⟩
   ·simp [Yy]
   ·rw [AH hlt];simp
  ·rcases Gi (c:=c) (ds:=ds) (i:=i+1) (first:=first+d.cons.length) with h|⟨k,e,x,h1,h2,h3,h4,h5⟩
   ·exact .inl h
   ·refine .inr ⟨k+1,e,x,by simpa using h1,by simp [Yy];omega,by simp [Yy];omega,?_,?_⟩
    ·rw [<-h4];congr 3;simp [Yy];omega
    ·rw [h5];congr 1;omega
theorem Gj {ds:List Zd} {c:Int} (h:¬XP ds c<1) :
  ∃k d x,ds[k]? = some d/\(Yy (ds.take k):Int)<=c/\d.cons[(c-Yy (ds.take k)).toNat]? = some x/\XP ds c=(k:Int)+1/\ZP ds c=x.fields:=by
 rcases Gi (c:=c) (ds:=ds) (i:=0) (first:=0) with h1|⟨k,d,x,h1,h2,_,h4,h5⟩
 ·simp [XP,h1] at h
 ·exact ⟨k,d,x,h1,by simpa using h2,by simpa using h4,by simp [XP,h5],by simp [ZP,h5]⟩
theorem E0 {ds:List Zd} {c:Int} (h:XP ds c<1):ZP ds c=[]/\XP ds c=-1:=by
 rcases Gi (c:=c) (ds:=ds) (i:=0) (first:=0) with h1|⟨k,d,x,h1,h2,_,h4,h5⟩
 ·simp [ZP,XP,h1]
 ·simp [XP,h5] at h;omega
def V1 (first:Int):Nat->LI
 | 0=>[]
 | n+1=>first::V1 (first+1) n
theorem Nt (first:Int) (n:Nat):V1 first (n+1)=V1 first n++[first+n]:=by
 induction n generalizing first with
 | zero=>simp [V1]
 | succ n ih=>rw [V1,ih (first+1),V1];simp;omega
@[simp] theorem Z6d (first:Int) (n:Nat):(V1 first n).length=n:=by
 induction n generalizing first with
 | zero=>rfl
 | succ n ih=>simp [V1,ih]
def ZQ (ds:List Zd) (t:Int):LI:=
 if 1<=t/\t<=ds.length then V1 (Yy (ds.take (t-1).toNat)) (((ds[(t-1).toNat]?).map (·.cons.length)).getD 0) else []
def Qr (frm to_:Int):List Zd->Nat->Int
 | [],_=>-1
 | d::ds,i=>if d.cons.length=0/\d.frm=frm/\d.to_=to_ then (i:Int)+1 else Qr frm to_ ds (i+1)
def VM (ds:List Zd) (frm to_:Int):Int:=Qr frm to_ ds 0
def XG (ds:List Zd) (t:Int):Bool:=decide (1<=t/\t<=ds.length)&&((ds[(t-1).toNat]?).map fun d=>decide (d.cons.length=0)).getD false
theorem EJ {ds:List Zd} {t:Int} {x:Zd} (h:1<=t/\t<=ds.length) (hx:ds[(t-1).toNat]? = some x):((x.cons.length:Int)==0)=XG ds t:=by
 rw [XG,hx,Xf];simp [h]
theorem Hb {ds:List Zd} {t:Int} (h:¬(1<=t/\t<=ds.length)):false=XG ds t:=by
 rw [XG,Xf];simp only [Bool.false_eq_true,Xy,decide_eq_true_eq,h,false_and]
def XU (m:Nat) (xs:LI):Bool:=xs.all fun t=>decide (0<=t/\t<=m)
end Go.Abs
section
namespace Go.Abs
section
variable {h:List Res}
end
end Go.Abs
namespace Go.Abs
section
variable {P:Program} {ops:Array Oper} {k:Nat} {F:Fr} {h:List Res}
end
end Go.Abs
end
namespace Go.Abs
section
variable {P:Program} {n:Nat} {ops:Array Oper} {B:Fr->List Res->Prop} {k:Nat} {F:Fr} {h:List Res} {T:List (Nat × List Nat)} {fuel:Nat} {done:List Nat}
theorem NF {K:Fr->List Res->Prop} {ls:List AV} {len sz:Nat} (hd:WZ n (ZA ops k)=true) (ha:UR P ops F k=some (ls,len,sz)) (hlen:ls.length=len*sz)
  (hK:∀g,K (F.put (ZA ops k).dst (.val (.slice (some ⟨g,0,none⟩) len len))) (.row (.slice (some ⟨g,0,none⟩) len len) sz ls::h)):Wb P n (ZA ops k) F h K:=by
 unfold UR at ha
 generalize hoo:ZA ops k=q at ha hd hK
 obtain ⟨dst,op,type,pos,after,guard⟩:=q
 cases op<;>simp only at ha<;>try (cases ha)
 rename_i t ln parts
 split at ha
 case h_2=>cases ha
 rename_i e ht
 split at ha
 case h_2=>cases ha
 rename_i i hi
 split at ha
 case h_2=>cases ha
 rename_i hc
 simp only [Xy] at hc
 split at ha
 case h_2=>cases ha
 rename_i ls' hf
 simp only [W0,Prod.mk.injEq] at ha
 obtain ⟨rfl,rfl,Xk⟩:=ha
 intro Q w G a hF hh
 obtain ⟨cs,h1,h2⟩:=Fh hF parts ht hi rfl hc.1 hc.2 hf
 have hr:(execOp a.eval { dst:=dst,op:=.buildSlice t ln parts,type:=type,pos:=pos,after:=after,guard:=guard }).run P w =
   .ok (.value (.slice (some ⟨w.heap.size,0,none⟩) ln ln)) (w.alloc (.cells cs e)):=by
  simp only [execOp]
  exact WW h2
 unfold Oper.wp
 rw [hr]
 have hlc:=h1.length
 simp only [QH] at hlc
 obtain ⟨j1,j2⟩:=hh.alloc_rrow cs e (ls:=ls') (len:=ln) (cap:=ln) (k:=sz) (YU _) (by rw [hlc];exact hlen) hlen (by rw [<-hlen,<-hlc];simpa [WK] using h1)
 exact ⟨_,_,G,hK _,(hF.mono (j2.agree hh)).put (Ug hd) .val,j1,j2⟩
theorem U5 (es es':List AV) (he:es=es') (len sz:Nat) (hK:∀v,SI P n ops B (k+1) (F.put (ZA ops k).dst (.sl es' (some v))) (.tail v sz::h)) (hk:YV n ops F k=true:=by kernel_rfl)
  (ha:UR P ops F k=some (Ze es,len,sz):=by kernel_rfl) (hlen:es.length=len:=by kernel_rfl) (hall:Jk es sz=true:=by kernel_rfl):SI P n ops B k F h:=by
 subst he;exact iL es len sz hK hk ha hlen hall
theorem We (i:Nat) (js bs:List Nat) (es es':List AV) (he:es=es') (len sz:Nat) (hK:∀v,YL P n ops B (T.filter fun t=>!Wz ops i t.1) fuel (done++[i]) (F.put (ZA ops i).dst (.sl es' (some v))) (.tail v sz::h))
  (hk:YV n ops F i=true:=by kernel_rfl) (ha:UR P ops F i=some (Ze es,len,sz):=by kernel_rfl) (hlen:es.length=len:=by kernel_rfl) (hall:Jk es sz=true:=by kernel_rfl)
  (ho:Vv ops i T=bs:=by kernel_rfl) (hj:js.map (fun j=>(Wf h)[j]?)=bs.map some:=by kernel_rfl):WY P n ops B T fuel done F h i:=by
 subst he;exact dL i js bs es len sz hK hk ha hlen hall ho hj
theorem iKN (ls:List AV) (len sz:Nat) (hK:∀g,SI P n ops B (k+1) (F.put (ZA ops k).dst (.val (.slice (some ⟨g,0,none⟩) len len))) (.row (.slice (some ⟨g,0,none⟩) len len) sz ls::h)) (hlen:ls.length=len*sz:=by rfl) (hk:YV n ops F k=true:=by kernel_rfl)
  (ha:UR P ops F k=some (ls,len,sz):=by kernel_rfl):SI P n ops B k F h:=Tb hk (NF (Vg hk).2.1 ha hlen hK)
theorem Sf (i:Nat) (js bs:List Nat) (ls:List AV) (len sz:Nat) (hK:∀g,YL P n ops B (T.filter fun t=>!Wz ops i t.1) fuel (done++[i]) (F.put (ZA ops i).dst (.val (.slice (some ⟨g,0,none⟩) len len))) (.row (.slice (some ⟨g,0,none⟩) len len) sz ls::h)) (hlen:ls.length=len*sz:=by rfl)
  (hk:YV n ops F i=true:=by kernel_rfl) (ha:UR P ops F i=some (ls,len,sz):=by kernel_rfl) (ho:Vv ops i T=bs:=by kernel_rfl) (hj:js.map (fun j=>(Wf h)[j]?)=bs.map some:=by kernel_rfl):WY P n ops B T fuel done F h i:=
 Qv (h1:=[]) (h2:=h) [] js bs hk rfl ho hj (NF (Vg hk).2.1 ha hlen hK)
end
theorem Wh.frz {P:Program} {f:FuncId} {as1:List AV} {h0:List Res} {E:Type} {kk:Nat} {es:E->List AV} {hs:E->List Res} {Q:E->Prop} (H:Wh P f as1 h0 (fun r h=>∃(e:E) (v:Hd),r=.h v/\h=rK v kk (Ze (es e))::hs e/\Q e)) (hes:∀e,∀y∈es e,y.leaves.length=kk) (hk:0<kk) :
  Wh P f as1 h0 (fun r h=>∃(e:E) (v:Value),r=.sl (es e) (some v)/\h=.tail v kk::hs e/\Q e):=by
 intro w G vs hv hh
 refine (H w G vs hv hh).mono ?_
 rintro e w' ⟨u,r,h',G',he,⟨x,v,rfl,rfl,hq⟩,hr,hh',hx⟩
 obtain ⟨G2,h1,h2,h3⟩:=Cb hh' (hes x) hk
 have hrv:=hr.val_inv
 subst hrv
 exact ⟨_,_,_,G2,he,⟨x,v.v,rfl,rfl,hq⟩,h3,h1,hx.trans h2⟩
theorem El {es:List AV} {sz k:Nat} {y:AV} (h:∀x∈es,x.leaves.length=sz) (hy:y.leaves.length=sz) (hk:k<es.length):(Ze es).take (k*sz)++y.leaves++(Ze es).drop (k*sz+y.leaves.length)=Ze (es.set k y):=by
 obtain ⟨x,hx⟩:=KX (xs:=es) (j:=k) hk
 have hxl:=h x (ZZ hx)
 have e1:es=es.take k++(x::es.drop (k+1)):=by rw [<-Y3 hx,UF]
 have e2:es.set k y=es.take k++(y::es.drop (k+1)):=by rw [DI,Zk hk]
 have hl:(Ze (es.take k)).length=k*sz:=by rw [U4 (k:=sz) _ (fun z hz=>h z (TY hz)),Ws,Vj om]
 have e3:Ze es=Ze (es.take k)++(x.leaves++Ze (es.drop (k+1))):=by
  conv=>lhs;rw [e1,VV]
  simp [Ze]
 rw [e2,VV,e3,Dq hl (by rw [hxl,hy])]
 simp [Ze]
theorem SQ (ds:List Zd) (k:Nat) (d:Zd):Yp (ds.set k d)=(Yp ds).set k (Ji d):=by simp [Yp,List.map_set]
theorem B3 (xs:List Zd):(Ze (Yp xs)).length=xs.length*3:=by rw [U4 (k:=3) _ (Qw xs)];simp
theorem Eh {ds:List Zd} {k:Nat} (d:Zd) (hk:k<ds.length):(Ze (Yp ds)).take (k*3)++UP d++(Ze (Yp ds)).drop (k*3+3)=Ze (Yp (ds.set k d)):=by
 rw [SQ];exact El (y:=Ji d) (Qw ds) rfl (by simpa using hk)
theorem GO (xs ys:List Zd):Ze (Yp xs)++Ze (Yp ys)=Ze (Yp (xs++ys)):=by rw [SO,VV]
section
variable {P:Program} {n:Nat} {ops:Array Oper} {B:Fr->List Res->Prop} {k:Nat} {F:Fr} {h:List Res}
theorem EC (j m:Nat) {v:Hd} {kk:Nat} {ls:List AV} (hm:ls.length=m*kk) (h0:0<m) (H:∀g c',v=⟨some ⟨g,0,none⟩,m,c'⟩->SI P n ops B k F h) (hk:0<kk:=by omega) (hj:h[j]? = some (rK v kk ls):=by kernel_rfl):SI P n ops B k F h:=by
 intro Q w G a hF hh hq
 obtain ⟨g,c',e⟩:=HS (hh.ok _ (ZZ hj)) hm hk h0
 exact H g c' e Q w G a hF hh hq
end
section
variable {P:Program} {n:Nat} {ops:Array Oper} {B:Fr->List Res->Prop} {k:Nat} {F:Fr} {h:List Res}
def Gk (P:Program) (ops:Array Oper) (F:Fr) (k:Nat):Option (IntKind × Int):=
 match (ZA ops k).op with
 | .convert s d x=>match P.underlying s,P.underlying d,F.ev x with
  | some (.int _),some (.int q),.val (.int _ z)=>some (q,z)
  | _,_,_=>none
 | _=>none
theorem kCv (q:IntKind) (z z':Int) (e:q.wrap z=z') (hc:Gk P ops F k=some (q,z):=by kernel_rfl):Xs P (ZA ops k) F h [] (.val (.int q z')):=by
 unfold Gk at hc
 generalize hoo:ZA ops k=o at hc
 obtain ⟨dst,op,type,pos,after,guard⟩:=o
 cases op<;>simp only at hc<;>try (cases hc)
 rename_i s d x
 split at hc
 ·rename_i q1 q2 q3 z2 h1 h2 h3
  cases hc
  intro n w G ac hF hh
  have v1:=hF.ev x
  rw [h3] at v1
  have v1:=v1.val_inv
  refine ⟨_,.val,fun w' _ _=>?_⟩
  simp only [execOp,v1]
  refine WW ?_
  simp [convert,Vh h1,Vh h2,Conv.intToInt,e]
 ·cases hc
theorem Iz {z:Int} (h:0<=z/\z<=9223372036854775807):IntKind.i64.wrap z=z:=IntWalk.i64_in _ om
theorem BZ (z:Int) (hz:0<=z/\z<=255) (hc:Gk P ops F k=some (.i64,z):=by kernel_rfl):Xs P (ZA ops k) F h [] (.i z):=kCv .i64 z z (Iz om) hc
def A6 (ops:Array Oper) (F:Fr) (k:Nat) (b:BinOp):Option (Int × Int):=
 match (ZA ops k).op with
 | .binOp c _ x y _=>if c==b then match F.ev x,F.ev y with
  | .val (.int .i64 z),.val (.int .i64 u)=>some (z,u)
  | _,_=>none else none
 | _=>none
theorem Hk (a b:Int) (hb:0<b) (ha:0<=a/\a<=9223372036854775807) (hc:A6 ops F k .quo=some (a,b):=by kernel_rfl):Xs P (ZA ops k) F h [] (.i (a / b)):=by
 unfold A6 at hc
 generalize hoo:ZA ops k=o at hc
 obtain ⟨dst,op,type,pos,after,guard⟩:=o
 cases op<;>simp only at hc<;>try (cases hc)
 rename_i bop t x y yt
 cases bop<;>simp only [Zs,reduceCtorEq,if_false,if_true] at hc<;>try (cases hc)
 split at hc
 ·rename_i z yk h1 h2
  cases hc
  intro n' w G ac hF hh
  have v1:=hF.ev x
  have v2:=hF.ev y
  rw [h1] at v1
  rw [h2] at v2
  have v1:=v1.val_inv
  have v2:=v2.val_inv
  refine ⟨_,.val,fun w' _ _=>?_⟩
  simp only [execOp,v1,v2]
  refine WW ?_
  have e1:a.tdiv b=a / b:=Int.tdiv_eq_ediv_of_nonneg ha.1
  have e2:IntKind.i64.wrap (a / b)=a / b:=Iz ⟨Int.ediv_nonneg ha.1 om,Int.le_trans (Int.ediv_le_self b ha.1) ha.2⟩
  have e3:b≠0:=by omega
  simp [eqGuard,binOp,Op.intDiv,e1,e2,e3]
 ·cases hc
theorem D5 (a b:Int) (hb:0<b) (ha:0<=a) (hc:A6 ops F k .rem=some (a,b):=by kernel_rfl):Xs P (ZA ops k) F h [] (.i (a % b)):=by
 unfold A6 at hc
 generalize hoo:ZA ops k=o at hc
 obtain ⟨dst,op,type,pos,after,guard⟩:=o
 cases op<;>simp only at hc<;>try (cases hc)
 rename_i bop t x y yt
 cases bop<;>simp only [Zs,reduceCtorEq,if_false,if_true] at hc<;>try (cases hc)
 split at hc
 ·rename_i z yk h1 h2
  cases hc
  intro n' w G ac hF hh
  have v1:=hF.ev x
  have v2:=hF.ev y
  rw [h1] at v1
  rw [h2] at v2
  have v1:=v1.val_inv
  have v2:=v2.val_inv
  refine ⟨_,.val,fun w' _ _=>?_⟩
  simp only [execOp,v1,v2]
  refine WW ?_
  have e1:a.tmod b=a % b:=Int.tmod_eq_emod_of_nonneg ha
  have e3:b≠0:=by omega
  simp [eqGuard,binOp,Op.intDiv,e1,e3]
 ·cases hc
theorem Bc (a b:Nat) (hb:0<b) (ha:a<=9223372036854775807) (hc:A6 ops F k .quo=some ((a:Int),(b:Int)):=by kernel_rfl):Xs P (ZA ops k) F h [] (.i (a / b:Nat)):=by
 rw [Int.natCast_ediv];exact Hk a b om om hc
theorem EK (a b:Nat) (hb:0<b) (_ha:a<=9223372036854775807) (hc:A6 ops F k .rem=some ((a:Int),(b:Int)):=by kernel_rfl):Xs P (ZA ops k) F h [] (.i (a % b:Nat)):=by
 rw [Int.natCast_emod];exact D5 a b om om hc
def JQ (a b:Int):Int:=IntKind.i64.wrap ((BitVec.ofInt 64 a ^^^ BitVec.ofInt 64 b).toNat:Int)
theorem FH {a b:Int} (ha:0<=a/\a<4611686018427387904) (hb:0<=b/\b<4611686018427387904):0<=JQ a b/\JQ a b<4611686018427387904:=by
 obtain ⟨x,rfl⟩:=Int.eq_ofNat_of_zero_le ha.1
 obtain ⟨y,rfl⟩:=Int.eq_ofNat_of_zero_le hb.1
 have h1:(BitVec.ofInt 64 (x:Int) ^^^ BitVec.ofInt 64 (y:Int)).toNat=x ^^^ y:=by
  rw [BitVec.toNat_xor,BitVec.toNat_ofInt,BitVec.toNat_ofInt]
  have e1:((x:Int) % ((2 ^ 64:Nat):Int)).toNat=x:=by omega
  have e2:((y:Int) % ((2 ^ 64:Nat):Int)).toNat=y:=by omega
  rw [e1,e2]
 have h2:x ^^^ y<2 ^ 62:=Nat.xor_lt_two_pow om om
 rw [JQ,h1,Iz om]
 omega
theorem MQ (a b:Int) (hc:A6 ops F k .xor=some (a,b):=by kernel_rfl):Xs P (ZA ops k) F h [] (.i (JQ a b)):=by
 unfold A6 at hc
 generalize hoo:ZA ops k=o at hc
 obtain ⟨dst,op,type,pos,after,guard⟩:=o
 cases op<;>simp only at hc<;>try (cases hc)
 rename_i bop t x y yt
 cases bop<;>simp only [Zs,reduceCtorEq,if_false,if_true] at hc<;>try (cases hc)
 split at hc
 ·rename_i z yk h1 h2
  cases hc
  intro n' w G ac hF hh
  have v1:=hF.ev x
  have v2:=hF.ev y
  rw [h1] at v1
  rw [h2] at v2
  have v1:=v1.val_inv
  have v2:=v2.val_inv
  refine ⟨_,.val,fun w' _ _=>?_⟩
  simp only [execOp,v1,v2]
  refine WW ?_
  simp [eqGuard,binOp,Op.intBits,IntKind.bits]
  exact Ya (fun z:Nat=>IntKind.i64.wrap (z:Int)) (by rw [BitVec.toNat_xor,BitVec.toNat_ofInt,BitVec.toNat_ofInt];rfl)
 ·cases hc
end
end Go.Abs
section
namespace Go.Abs
inductive Z1 where
 | mk (op num:Int) (kids:List Z1)
namespace Z1
def op:Z1->Int|.mk a _ _=>a
def num:Z1->Int|.mk _ a _=>a
def kids:Z1->List Z1|.mk _ _ a=>a
end Z1
structure Func where
 params:LI
 result:Int
 body:Z1
structure XM where
 decls:List Zd
 funcs:List Func
instance:Inhabited Z1:=⟨.mk 0 0 []⟩
mutual
def Gz:Z1->AV
 | .mk op num kids=>.agg [.i op,.i num,.sl (Yk kids) none]
def Yk:List Z1->List AV
 | []=>[]
 | e::r=>Gz e::Yk r
end
abbrev ZV (e:Z1):AV:=.agg [.i e.op,.i e.num,.sl (Yk e.kids) none]
abbrev YJ (e:Z1):List AV:=[.i e.op,.i e.num,.sl (Yk e.kids) none]
abbrev Xi (xs:List Z1):AV:=.sl (Yk xs) none
abbrev TN (xs:List Z1) (v:Value):AV:=.sl (Yk xs) (some v)
abbrev Cq (f:Func):AV:=.agg [Z6 f.params,.i f.result,.i f.body.op,.i f.body.num,Xi f.body.kids]
abbrev EO (f:Func):List AV:=[Z6 f.params,.i f.result,.i f.body.op,.i f.body.num,Xi f.body.kids]
def X6 (xs:List Func):List AV:=xs.map Cq
abbrev EX (xs:List Func):AV:=.sl (X6 xs) none
abbrev Jj (p:XM):AV:=.agg [Y8 p.decls,EX p.funcs]
abbrev Hp (p:XM):List AV:=[Y8 p.decls,EX p.funcs]
abbrev FW (z:Int):AV:=.val (.int .u8 z)
def T7 (xs:LI):List AV:=xs.map FW
abbrev VG (xs:LI):AV:=.sl (T7 xs) none
theorem SR (e:Z1):Gz e=ZV e:=by cases e;rw [Gz];rfl
theorem Xw:∀xs:List Z1,Yk xs=xs.map ZV
 | []=>by rw [Yk];rfl
 | s::ss=>by rw [Yk,Xw ss,SR];rfl
theorem BH {xs:List Z1} {j:Nat} {x:Z1} (h:xs[j]? = some x):(Yk xs)[j]? = some (ZV x):=by simp [Xw,h]
theorem E7 {xs:List Func} {j:Nat} {x:Func} (h:xs[j]? = some x):(X6 xs)[j]? = some (Cq x):=by simp [X6,h]
theorem BE {xs:LI} {j:Nat} {x:Int} (h:xs[j]? = some x):(T7 xs)[j]? = some (FW x):=by simp [T7,h]
@[simp] theorem GC (xs:List Z1):(Yk xs).length=xs.length:=by simp [Xw]
@[simp] theorem BI (xs:List Func):(X6 xs).length=xs.length:=by simp [X6]
@[simp] theorem QQ (xs:LI):(T7 xs).length=xs.length:=by simp [T7]
theorem KN (xs ys:List Z1):Yk (xs++ys)=Yk xs++Yk ys:=by simp [Xw]
theorem SS (xs ys:List Func):X6 (xs++ys)=X6 xs++X6 ys:=by simp [X6]
theorem Gw (xs:LI) (n:Nat):(T7 xs).take n=T7 (xs.take n):=by simp [T7]
theorem Gv (xs:LI) (n:Nat):(T7 xs).drop n=T7 (xs.drop n):=by simp [T7]
theorem Uu (xs:List Z1):∀y∈Yk xs,y.leaves.length=3:=by intro y hy;simp only [Xw,XC] at hy;obtain ⟨x,_,rfl⟩:=hy;rfl
theorem E8 (xs:List Func):∀y∈X6 xs,y.leaves.length=5:=by intro y hy;simp only [X6,XC] at hy;obtain ⟨x,_,rfl⟩:=hy;rfl
theorem SK (xs:LI):∀y∈T7 xs,y.leaves.length=1:=by intro y hy;simp only [T7,XC] at hy;obtain ⟨x,_,rfl⟩:=hy;rfl
theorem KO (xs:List Z1):(Ze (Yk xs)).all AV.one=true:=KU fun y hy=>by simp only [Xw,XC] at hy;obtain ⟨x,_,rfl⟩:=hy;rfl
end Go.Abs
end
section
namespace Go.Abs
open Go.Proofs Go.Proofs.YthllacimcjakdaaGreat
section
variable {H:Type} {enc:TypeId × Value->H} {w:World}
def GA (w:World):Y5:=fun b _=>b<w.heap.size
abbrev Tr (enc:TypeId × Value->H) (w:World) (n:Nat) (t:TypeId) (cs:List Value) (x:DataW H × List MemPlace):Prop:=DataW.trod enc Tryz.prog w 0 (fun _=>true) true n t cs=some x
theorem Nh {w:World} {a:Addr} {v:Value} (h:w.cell? a=some v):a.block<w.heap.size/\a.spot=none:=by
 unfold World.cell? at h
 split at h
 ·rename_i c e fr hb
  split at h
  ·cases h
  ·rename_i hs
   exact ⟨(Uc.1 hb).1,by simpa using hs⟩
 ·cases h
theorem Lb {α:Type} {c:α->Nat}:∀{xs:List α} {ds:List (DataW H)},xs.length=ds.length->(∀(i:Nat) a d,xs[i]? = some a->ds[i]? = some d->c a+1<=Rows.uptoBulk d)->(xs.map fun a=>c a+1).sum<=Rows.uptoBulkAll ds
 | [],[],_,_=>YU _
 | a::r,d::ds,hl,h=>by
  have h0:=h 0 a d rfl rfl
  have h1:=Lb (c:=c) (xs:=r) (ds:=ds) (by simpa using hl) fun i a d ha hd=>h (i+1) a d (by simpa using ha) (by simpa using hd)
  rw [VL,List.sum_cons,Rows.uptoBulkAll]
  omega
theorem On {α:Type} {f:α->AV} {G:Y5} {k b:Nat} (hf:∀x,(f x).leaves.length=k):∀{xs:List α} {o:Nat},(∀(i:Nat) a,xs[i]? = some a->W8 w G b (o+i*k) (f a).leaves)->WD w G k b o (xs.map f)
 | [],_,_=>.nil
 | x::r,o,h=>by
  refine .cons (hf x) (by have:=h 0 x rfl;simpa using this) (On hf fun i a ha=>?_)
  have:=h (i+1) a (by simpa using ha)
  rw [show o+(i+1)*k=o+k+i*k by rw [TD];omega] at this
  exact this
theorem Z7t {α:Type} [Inhabited α] {t e k:Nat} (ht:Tryz.prog.underlying t=some (.slice e)) (hk:Tryz.prog.cellsOf e=k) (h0:0<k) (f:α->AV) (hf:∀x,(f x).leaves.length=k) (c:α->Nat) (Q:α->Prop) {n:Nat} {cs:List Value} {x:DataW H × List MemPlace}
  (h:Tr enc w n t cs x) (el:∀m cs y,m<n->Tr enc w m e cs y->∃a:α,YG w (GA w) (f a).leaves cs/\c a+1<=Rows.uptoBulk y.1/\Q a) :
  ∃(v:Value) (xs:List α),cs=[v]/\RV w (GA w) (.sl (xs.map f) none) v/\(xs.map fun a=>c a+1).sum+1<=Rows.uptoBulk x.1/\∀a∈xs,Q a:=by
 rcases DataW.trod_slice ht h with ⟨rfl,rfl⟩|⟨a,len,cap,elems,rest,m,rfl,rfl,rfl,_,hlc,_,hlen,hel,_,_⟩
 ·exact ⟨_,[],rfl,.nil (by simp),by simp [Rows.uptoBulk],by simp⟩
 ·rw [hk] at hel
  have hone:∀i,i<len->∃z:α,∃cs' y,w.cells? 0 (a.add (i*k)) k=some cs'/\elems[i]? = some y/\YG w (GA w) (f z).leaves cs'/\c z+1<=Rows.uptoBulk y.1/\Q z:=by
   intro i hi
   have h1:=hel i hi
   rw [AH om] at h1
   obtain ⟨cs',h2,h3⟩:=Option.bind_eq_some_iff.1 h1
   obtain ⟨z,hz1,hz2,hz3⟩:=el m cs' _ om h3
   exact ⟨z,cs',_,h2,AH om,hz1,hz2,hz3⟩
  obtain ⟨V,hV⟩:=Go.Deep.choose_lt hone
  refine ⟨_,(List.range len).map V,rfl,?_,?_,?_⟩
  ·cases hl0:len with
   | zero=>exact .nil (by simp)
   | succ q=>
    have hsp:a.spot=none:=by
     obtain ⟨cs',y,g1,_⟩:=hV 0 om
     obtain ⟨_,g2,g3⟩:=World.cells?_some g1
     have g4:=g3 0 h0
     rw [AH om] at g4
     have g5:=(Nh g4).2
     simpa [Addr.add] using g5
    obtain ⟨b,o,sp⟩:=a
    simp only at hsp
    subst hsp
    rw [<-hl0]
    have hll:(((List.range len).map V).map f).length=len:=by simp
    have:=RV.sl (w:=w) (G:=GA w) (es:=((List.range len).map V).map f) (hv:=none) (b:=b) (o:=o) (k:=k) (cap:=cap) (by simp) (by rw [hll];exact hlc) (On hf fun i z hz=>by
     have hi:i<len:=by have:=(XB.1 hz).1;simpa using this
     have hz':V i=z:=by simpa [hi] using hz
     obtain ⟨cs',y,g1,_,g2,_⟩:=hV i hi
     rw [hz'] at g2
     obtain ⟨_,g3,g4⟩:=World.cells?_some g1
     refine W8.of_cells g2 fun j u hj=>?_
     have hjl:j<k:=by have:=(XB.1 hj).1;omega
     have g5:=(g4 j hjl).trans hj
     rw [Addr.add_lit,Addr.add_lit] at g5
     exact ⟨g5,(Nh g5).1⟩)
    rw [hll] at this
    exact this
  ·have:=Lb (c:=c) (xs:=(List.range len).map V) (ds:=elems.map (·.1)) (by simp [hlen]) fun i z d hz hd=>by
    have hi:i<len:=by have:=(XB.1 hz).1;simpa using this
    have hz':V i=z:=by simpa [hi] using hz
    obtain ⟨cs',y,_,g1,_,g2,_⟩:=hV i hi
    rw [Kb,g1] at hd
    simp only [AK,W0] at hd
    rw [<-hd,<-hz']
    exact g2
   simp only [Rows.uptoBulk]
   omega
  ·intro z hz
   obtain ⟨i,hi,rfl⟩:=XC.1 hz
   obtain ⟨_,_,_,_,_,_,g⟩:=hV i (List.mem_range.1 hi)
   exact g
theorem Z7r {n:Nat} {cs:List Value} {x:DataW H × List MemPlace} (h:Tr enc w n 5 cs x):∃z:Int,cs=[.int .u8 z]/\Rows.uptoBulk x.1=1/\0<=z/\z<=255:=by
 obtain ⟨z,rfl,rfl,hw⟩:=DataW.trod_int Tryz.underlying5 h
 refine ⟨z,rfl,rfl,?_⟩
 simpa [Lit.wf,IntKind.min,IntKind.max,IntKind.signed,IntKind.bits] using hw
theorem Z7s {n:Nat} {cs:List Value} {x:DataW H × List MemPlace} (h:Tr enc w n 22 cs x):∃(v:Value) (xs:LI),cs=[v]/\RV w (GA w) (VG xs) v/\∀z∈xs,0<=z/\z<=255:=by
 obtain ⟨v,xs,h1,h2,h3,h4⟩:=Z7t Tryz.underlying22 (k:=1) kr om (fun z:Int=>FW z) (fun _=>rfl) (fun _=>0) (fun z=>0<=z/\z<=255) h fun m cs y _ hy=>by
  obtain ⟨z,rfl,hb,hz⟩:=Z7r hy
  exact ⟨z,.cons .val .nil,Nat.le_of_eq hb.symm,hz⟩
 exact ⟨v,xs,h1,h2,h4⟩
end
end Go.Abs
end
namespace Go.Abs
structure Sg where
 params:LI
 result:Int
abbrev II (f:Sg):AV:=.agg [.sl (Z7 f.params) none,.i f.result,.i 0,.i 0,.sl [] none]
def VQ (fs:List Sg):List AV:=fs.map II
theorem GG {xs:List Sg} {j:Nat} {x:Sg} (h:xs[j]? = some x):(VQ xs)[j]? = some (II x):=by simp [VQ,h]
@[simp] theorem Lz (xs:List Sg):(VQ xs).length=xs.length:=by simp [VQ]
theorem Ly (xs:List Sg):∀y∈VQ xs,y.leaves.length=5:=by intro y hy;simp only [VQ,XC] at hy;obtain ⟨x,_,rfl⟩:=hy;rfl
theorem Z01 (xs:List Sg):(Ze (VQ xs)).all AV.one=true:=KU fun y hy=>by simp only [VQ,XC] at hy;obtain ⟨x,_,rfl⟩:=hy;rfl
mutual
def Z4.sz:Z4->Nat
 | .mk _ _ _ args kids=>1+args.length+YQ kids
def Z5.sz:Z5->Nat
 | .mk steps _=>1+Yj steps
def Yj:List Z4->Nat
 | []=>0
 | s::r=>s.sz+Yj r
def YQ:List Z5->Nat
 | []=>0
 | b::r=>b.sz+YQ r
end
theorem Z4.sz_pos (s:Z4):1<=s.sz:=by cases s;rw [Z4.sz];omega
theorem Z5.sz_pos (b:Z5):1<=b.sz:=by cases b;rw [Z5.sz];omega
theorem Ks (l:List Z4):l.length<=Yj l:=by
 induction l with
 | nil=>simp
 | cons s r ih=>have:=s.sz_pos;simp only [YK,Yj];omega
theorem L8 (l:List Z5):l.length<=YQ l:=by
 induction l with
 | nil=>simp
 | cons s r ih=>have:=s.sz_pos;simp only [YK,YQ];omega
theorem Zas {l:List Z4} {k:Nat} {s:Z4} (h:l[k]? = some s):s.sz<=Yj l:=by
 induction l generalizing k with
 | nil=>simp at h
 | cons t r ih=>
  cases k with
  | zero=>simp at h;subst h;simp only [Yj];omega
  | succ k=>have:=ih (k:=k) (by simpa using h);simp only [Yj];omega
theorem L7 {l:List Z5} {k:Nat} {s:Z5} (h:l[k]? = some s):s.sz<=YQ l:=by
 induction l generalizing k with
 | nil=>simp at h
 | cons t r ih=>
  cases k with
  | zero=>simp at h;subst h;simp only [YQ];omega
  | succ k=>have:=ih (k:=k) (by simpa using h);simp only [YQ];omega
theorem Z4.sz_eq (s:Z4):s.sz=1+s.args.length+YQ s.kids:=by cases s;rw [Z4.sz];rfl
theorem Z5.sz_eq (b:Z5):b.sz=1+Yj b.steps:=by cases b;rw [Z5.sz];rfl
theorem TU {b:Z5} {k:Nat} {s:Z4} (h:b.steps[k]? = some s):s.sz<b.sz:=by have:=Zas h;have:=b.sz_eq;omega
theorem U6 {s:Z4} {k:Nat} {b:Z5} (h:s.kids[k]? = some b):b.sz<s.sz:=by have:=L7 h;have:=s.sz_eq;omega
theorem T6 (s:Z4):s.args.length<s.sz:=by have:=s.sz_eq;omega
theorem U7 (s:Z4):s.kids.length<s.sz:=by have:=s.sz_eq;have:=L8 s.kids;omega
theorem WX (b:Z5):b.steps.length<b.sz:=by have:=b.sz_eq;have:=Ks b.steps;omega
structure Qp (ds:List Zd):Prop where
 len:ds.length<=4194304
 cons:∀d∈ds,d.cons.length<=4194304
 fields:∀d∈ds,∀c∈d.cons,c.fields.length<=4194304
theorem Qp.cons_at {ds:List Zd} (h:Qp ds) {k:Nat} {d:Zd} (hd:ds[k]? = some d):d.cons.length<=4194304:=h.cons d (ZZ hd)
theorem Qp.fields_at {ds:List Zd} (h:Qp ds) {k j:Nat} {d:Zd} {c:Y1} (hd:ds[k]? = some d) (hc:d.cons[j]? = some c):c.fields.length<=4194304:=
 h.fields d (ZZ hd) c (ZZ hc)
def Kg (m:Nat) (c:Y1):Bool:=decide (c.fields.length<=3)&&XU m c.fields
def Q4 (d:Zd):List Zd->Bool
 | []=>false
 | e::r=>if e.cons.length=0/\e.frm=d.frm/\e.to_=d.to_ then true else Q4 d r
def UX (m:Nat):List Y1->Bool
 | []=>true
 | c::r=>if Kg m c=true then UX m r else false
def U1 (ds:List Zd) (d:Zd) (i:Nat):Bool:=
 if 0<d.cons.length then (if d.cons.length<=3/\d.frm=0/\d.to_=0 then UX ds.length d.cons else false)
 else if Q4 d (ds.take i)=true then false else decide (0<=d.frm/\d.frm<=ds.length)&&decide (0<=d.to_/\d.to_<=ds.length)
def AX (ds:List Zd) (i:Nat):Bool:=(ds[i]?.map fun d=>U1 ds d i).getD false
theorem Cx {ds:List Zd} {i:Nat} {d:Zd} (h:ds[i]? = some d):AX ds i=U1 ds d i:=by rw [AX,h];rfl
def Ut (ds:List Zd):List Zd->Nat->Bool
 | [],_=>true
 | _::r,i=>if AX ds i=true then Ut ds r (i+1) else false
def Wr (ds:List Zd):Bool:=decide (ds.length<=4)&&Ut ds ds 0
theorem Ll {m:Nat} {cs:List Y1}:UX m cs=true↔∀c∈cs,Kg m c=true:=by
 induction cs with
 | nil=>simp [UX]
 | cons c r ih=>
  rw [UX]
  split
  ·rename_i h;simp [ih,h]
  ·rename_i h;simp [h]
theorem Gq {ds:List Zd}:∀{l:List Zd} {i:Nat},Ut ds l i=true↔∀j<l.length,AX ds (i+j)=true
 | [],i=>by simp [Ut]
 | d::r,i=>by
  rw [Ut]
  split
  ·rename_i h
   rw [Gq (l:=r)]
   constructor
   ·intro hq j hj
    cases j with
    | zero=>exact h
    | succ j=>have:=hq j (by simpa using hj);rwa [show i+(j+1)=i+1+j by omega]
   ·intro hq j hj
    have:=hq (j+1) (by simpa using hj)
    rwa [show i+(j+1)=i+1+j by omega] at this
  ·rename_i h
   simp only [Bool.false_eq_true,false_iff]
   intro hq
   exact h (hq 0 (by simp))
theorem Zc1 {ds:List Zd} (h:Wr ds=true):W1 ds:=by
 simp only [Wr,Xy,decide_eq_true_eq] at h
 obtain ⟨h1,h2⟩:=h
 rw [Gq] at h2
 have key:∀d∈ds,∃i,U1 ds d i=true:=fun d hd=>by
  obtain ⟨i,hi⟩:=List.mem_iff_getElem?.1 hd
  have:=h2 i (XB.1 hi).1
  rw [WP,Cx hi] at this
  exact ⟨i,this⟩
 have hc:∀d∈ds,0<d.cons.length->d.cons.length<=3/\UX ds.length d.cons=true:=fun d hd hp=>by
  obtain ⟨i,hi⟩:=key d hd
  rw [U1,Zk hp] at hi
  split at hi
  ·rename_i h;exact ⟨h.1,hi⟩
  ·cases hi
 refine ⟨h1,fun d hd=>?_,fun d hd c hc'=>?_⟩
 ·by_cases hp:0<d.cons.length
  ·exact (hc d hd hp).1
  ·omega
 ·have:=Ll.1 (hc d hd (List.length_pos_of_mem hc')).2 c hc'
  simp only [Kg,Xy,decide_eq_true_eq] at this
  exact this.1
def QB (m:Nat) (f:Sg):Bool:=decide (f.params.length<=3)&&(XU m f.params&&decide (0<=f.result/\f.result<=m))
def K5 (m:Nat):List Sg->Bool
 | []=>true
 | f::r=>if QB m f=true then K5 m r else false
def Eg:List Sg->Bool
 | []=>false
 | f::_=>decide (f.params.length=0)&&decide (f.result=0)
theorem Z0h {fs:List Sg} {x:Sg} (h:fs[0]? = some x):Eg fs=(decide (x.params.length=0)&&decide (x.result=0)):=by
 cases fs with
 | nil=>simp at h
 | cons f r=>simp at h;subst h;rfl
def Qm (ds:List Zd) (fs:List Sg):Bool:=
 Wr ds&&(decide (1<=fs.length/\fs.length<=4)&&(K5 ds.length fs&&Eg fs))
def Qz (ps:LI):LI->Option Int->Bool
 | [],_=>true
 | v::r,prev=>if (0<=v/\v<=(ps.length:Int)-1)/\ps[v.toNat]?≠some 0/\(∀p,prev=some p->p<v) then Qz ps r (some v) else false
theorem Hv {ps r:LI} {v:Int} {prev:Option Int} (h:(0<=v/\v<=(ps.length:Int)-1)/\ps[v.toNat]?≠some 0/\(∀p,prev=some p->p<v)):Qz ps (v::r) prev=Qz ps r (some v):=by
 rw [Qz,Zk h]
theorem ET {ps r:LI} {v:Int} {prev:Option Int} (h:¬((0<=v/\v<=(ps.length:Int)-1)/\ps[v.toNat]?≠some 0/\(∀p,prev=some p->p<v))):Qz ps (v::r) prev=false:=by
 rw [Qz,Za h]
def Kx (ps ls:LI):Bool:=Qz ps ls none
def Qd:List ZX->Bool
 | []=>true
 | r::rs=>if Kx r.params r.lent=true then Qd rs else false
def Vi (r:ZX):Sg:=⟨r.params,r.result⟩
def VR (n:Zr):Bool:=decide (n.routines.length<=4)&&(Qm n.decls (n.routines.map Vi)&&Qd n.routines)
end Go.Abs
section
namespace Go.Abs
def Xc {α:Type} (xs:List α) (i:Int):Option α:=if 0<=i/\i<=(xs.length:Int)-1 then xs[i.toNat]? else none
theorem TG {α:Type} {xs:List α} {i:Int} {x:α} (h:0<=i/\i<=(xs.length:Int)-1) (hx:xs[i.toNat]? = some x):Xc xs i=some x:=by rw [Xc,Zk h,hx]
theorem Qs {α:Type} {xs:List α} {i:Int} (h:¬(0<=i/\i<=(xs.length:Int)-1)):Xc xs i=none:=by rw [Xc,Za h]
theorem A5 {α:Type} {xs:List α} {i:Int} {x:α} (h:Xc xs i=some x):(0<=i/\i<=(xs.length:Int)-1)/\xs[i.toNat]? = some x:=by
 rw [Xc] at h
 split at h
 ·rename_i h1;exact ⟨h1,h⟩
 ·cases h
def UU (vars:LI):LI->LI->Bool
 | [],[]=>true
 | a::as1,t::ts=>if Xc vars a=some t then UU vars as1 ts else false
 | _,_=>false
def XL (vars args types:LI):Bool:=UU vars args types
theorem PB {vars:LI}:∀{args types:LI},args.length≠types.length->UU vars args types=false
 | [],[],h=>absurd rfl h
 | [],_::_,_=>rfl
 | _::_,[],_=>rfl
 | a::as1,t::ts,h=>by
  rw [UU]
  split
  ·exact PB (by simpa using h)
  ·rfl
theorem Zbt {vars args types:LI} {k:Nat} {a t:Int} (ha:args[k]? = some a) (ht:types[k]? = some t) (h:Xc vars a=some t) :
  UU vars (args.drop k) (types.drop k)=UU vars (args.drop (k+1)) (types.drop (k+1)):=by
 rw [Y3 ha,Y3 ht,UU,Zk h]
theorem PA {vars args types:LI} {k:Nat} {a t:Int} (ha:args[k]? = some a) (ht:types[k]? = some t) (h:Xc vars a≠some t) :
  UU vars (args.drop k) (types.drop k)=false:=by
 rw [Y3 ha,Y3 ht,UU,Za h]
theorem Zbs {vars args types:LI} {k:Nat} (ha:args.length<=k) (ht:types.length<=k):UU vars (args.drop k) (types.drop k)=true:=by
 rw [X5 ha,X5 ht];rfl
def V0 (op:Int):Bool:=op==0||(op==6||(op==8||(op==9||op==10)))
def Xv (op:Int):Bool:=decide (0<=op/\op<=11)
def Yb (op:Int):Bool:=decide (14<=op/\op<=17)
def VJ (vars:LI) (op into:Int):Bool:=
 if into=0 then true else if op=6 then ((Xc vars (into-1)).map fun t=>decide (0<t)).getD false else false
def QO (ds:List Zd) (ps:LI) (res:Int):Int:=VM ds (ps.getLast?.getD 0) res
def K3 (ds:List Zd) (vars:LI) (op:Int) (args:LI) (r:ZX):Int:=
 if op=9 then (if XL vars args r.params=true then r.result else -1)
 else if r.params.length=0∨0<r.lent.length∨¬XL vars args (r.params.take (r.params.length-1))=true then -1
 else QO ds r.params r.result
def US (n:Zr) (vars:LI) (op num:Int) (args:LI):Int:=
 match Xc n.routines num with
 | none=>-1
 | some r=>K3 n.decls vars op args r
def TH (ds:List Zd) (vars:LI) (op:Int) (args:LI):Int:=
 match args with
 | [a]=>match Xc vars a with
  | some t=>if t=0 then -1 else if (op≠14/\op≠15)/\XG ds t=true then -1 else 0
  | none=>-1
 | _=>-1
def Q2 (ds:List Zd) (vars:LI) (args:LI):Int:=
 match args with
 | [a,b]=>match Xc vars a with
  | some t=>if XG ds t=true then
    (match ds[(t-1).toNat]? with
     | some d=>if XL vars [b] [d.frm]=true then d.to_ else -1
     | none=>-1) else -1
  | none=>-1
 | _=>-1
def X7 (ds:List Zd) (op num:Int):List LI:=if op=7 then [[],[]] else (ZQ ds num).map (ZP ds)
mutual
def Y4 (n:Zr) (vars:LI):Z4->Int
 | .mk op num into args kids=>
  if (num≠0/\¬V0 op=true)∨¬VJ vars op into=true∨(0<kids.length/\op≠7/\op≠8) then -1
  else if op=0 then (if args.length=0/\(-999<=num/\num<=999) then 0 else -1)
  else if op=1∨op=2∨op=3∨op=4 then (if XL vars args [0,0]=true then 0 else -1)
  else if op=5 then (if XL vars args [0]=true then 0 else -1)
  else if op=6 then (if 0<XP n.decls num/\XL vars args (ZP n.decls num)=true then XP n.decls num else -1)
  else if op=7 then (if XL vars args [0]=true then (if (X7 n.decls op num).length=0∨kids.length≠(X7 n.decls op num).length then -1 else XS n vars kids (X7 n.decls op num) true 0) else -1)
  else if op=8 then (if XL vars args [num]=true then (if (X7 n.decls op num).length=0∨kids.length≠(X7 n.decls op num).length then -1 else XS n vars kids (X7 n.decls op num) true 0) else -1)
  else if op=9∨op=10 then US n vars op num args
  else if op=11 then Q2 n.decls vars args
  else if op=14∨op=15∨op=16∨op=17 then TH n.decls vars op args
  else -1
def XS (n:Zr) (vars:LI):List Z5->List LI->Bool->Int->Int
 | [],_,_,t=>t
 | b::bs,more,first,t=>
  match more with
  | []=>-1
  | m::ms=>if YT n (vars++m) b<0∨(first=false/\YT n (vars++m) b≠t) then -1 else XS n vars bs ms false (YT n (vars++m) b)
def Wg (n:Zr):List Z4->LI->Option LI
 | [],vars=>some vars
 | s::r,vars=>if Y4 n vars s<0 then none else Wg n r (if Xv s.op=true then vars++[Y4 n vars s] else vars)
def YT (n:Zr) (vars:LI):Z5->Int
 | .mk steps result=>match Wg n steps vars with
  | none=>-1
  | some vs=>(Xc vs result).getD (-1)
end
def UO (n:Zr) (vars:LI) (op num:Int) (kids:List Z5):Int:=
 if (X7 n.decls op num).length=0∨kids.length≠(X7 n.decls op num).length then -1 else XS n vars kids (X7 n.decls op num) true 0
mutual
def TL:Z4->Int->Int
 | .mk _ _ _ _ kids,left=>VF kids left
def XY:Z5->Int->Int
 | .mk steps _,left=>Vu steps left
def Vu:List Z4->Int->Int
 | [],left=>left
 | s::r,left=>if left<1 then -1 else if TL s (left-1)<0 then -1 else Vu r (TL s (left-1))
def VF:List Z5->Int->Int
 | [],left=>left
 | b::r,left=>if XY b left<0 then -1 else VF r (XY b left)
end
def Um (b:Z5):Int:=if XY b 600<0 then -1 else 600-XY b 600
def Tg (n:Zr):List ZX->Bool
 | []=>true
 | r::rs=>if ¬Um r.body<0/\YT n r.params r.body=r.result then Tg n rs else false
def YS (n:Zr):Bool:=VR n&&Tg n n.routines
theorem D9:(∀(s:Z4) (l:Int),0<=l->TL s l<=l)/\(∀(b:Z5) (l:Int),0<=l->XY b l<=l):=by
 have key:∀m:Nat,(∀s:Z4,s.sz<=m->∀l:Int,0<=l->TL s l<=l)/\(∀b:Z5,b.sz<=m->∀l:Int,0<=l->XY b l<=l):=by
  intro m
  induction m with
  | zero=>exact ⟨fun s h=>by have:=s.sz_pos;omega,fun s h=>by have:=s.sz_pos;omega⟩
  | succ m ih=>
   refine ⟨fun s hs l hl=>?_,fun b hb l hl=>?_⟩
   ·cases s with
    | mk op num into args kids=>
     rw [TL]
     have hk:YQ kids<=m:=by rw [Z4.sz] at hs;omega
     clear hs
     induction kids generalizing l with
     | nil=>rw [VF];exact Int.le_refl _
     | cons b r ihr=>
      rw [YQ] at hk
      have:=ih.2 b om l hl
      rw [VF]
      split
      ·omega
      ·have:=ihr (XY b l) om om;omega
   ·cases b with
    | mk steps res=>
     rw [XY]
     have hk:Yj steps<=m:=by rw [Z5.sz] at hb;omega
     clear hb
     induction steps generalizing l with
     | nil=>rw [Vu];exact Int.le_refl _
     | cons s r ihr=>
      rw [Yj] at hk
      rw [Vu]
      split
      ·omega
      ·have:=ih.1 s om (l-1) om
       split
       ·omega
       ·have:=ihr (TL s (l-1)) om om;omega
 exact ⟨fun s l hl=>(key s.sz).1 s (YU _) l hl,fun b l hl=>(key b.sz).2 b (YU _) l hl⟩
end Go.Abs
namespace Go.Abs
theorem Zat {l:List Z4} {k:Nat} {s:Z4} (h:l[k]? = some s):k+s.sz<=Yj l:=by
 induction l generalizing k with
 | nil=>simp at h
 | cons t r ih=>
  cases k with
  | zero=>simp at h;subst h;simp only [Yj];omega
  | succ k=>have:=ih (k:=k) (by simpa using h);have:=t.sz_pos;simp only [Yj];omega
theorem Bl {b:Z5} {k:Nat} {s:Z4} (h:b.steps[k]? = some s):k+s.sz<b.sz:=by have:=Zat h;have:=b.sz_eq;omega
structure X1 (n:Zr):Prop where
 decls:W1 n.decls
 len:n.routines.length<=4
 params:∀r∈n.routines,r.params.length<=3
 lent:∀r∈n.routines,r.lent.length<=4194304
theorem X1.params_at {n:Zr} (h:X1 n) {k:Nat} {r:ZX} (hr:n.routines[k]? = some r):r.params.length<=3:=h.params r (ZZ hr)
theorem X1.lent_at {n:Zr} (h:X1 n) {k:Nat} {r:ZX} (hr:n.routines[k]? = some r):r.lent.length<=4194304:=h.lent r (ZZ hr)
theorem Rt {ds:List Zd} {num:Int} {k:Nat} {x:Int} (h:(ZQ ds num)[k]? = some x):(X7 ds 8 num)[k]? = some (ZP ds x):=by
 rw [X7,Za om,Kb,h];rfl
end Go.Abs
namespace Go.Abs
theorem HC {ds:List Zd} (hd:W1 ds) (t:Int):(ZQ ds t).length<=3:=by
 rw [ZQ]
 split
 ·rename_i h
  obtain ⟨d,hd1⟩:=KX (xs:=ds) (j:=(t-1).toNat) om
  rw [hd1,Z6d]
  exact hd.cons_at hd1
 ·simp
theorem VN {ds:List Zd} (hd:W1 ds) (c:Int):(ZP ds c).length<=3:=by
 by_cases h:XP ds c<1
 ·rw [(E0 h).1];simp
 ·obtain ⟨k,d,x,h1,_,h3,_,h5⟩:=Gj h
  rw [h5];exact hd.fields_at h1 h3
theorem G8 {ds:List Zd} (hd:W1 ds) {op num:Int} {k:Nat} {m:LI} (h:(X7 ds op num)[k]? = some m):m.length<=3:=by
 have hm:=ZZ h
 rw [X7] at hm
 split at hm
 ·simp at hm;subst hm;simp
 ·obtain ⟨c,_,rfl⟩:=XC.1 hm;exact VN hd c
theorem QN {α:Type} {xs:List α} {x:α} (h:xs.length=1) (hx:xs[0]? = some x):xs=[x]:=by
 cases xs with
 | nil=>simp at h
 | cons a r=>
  cases r with
  | nil=>simp at hx;rw [hx]
  | cons b r=>simp at h
theorem BB {ds:List Zd} {us args:LI} {op:Int} (h:args.length≠1):TH ds us op args=-1:=by
 cases args with
 | nil=>rfl
 | cons a r=>
  cases r with
  | nil=>simp at h
  | cons b r=>rfl
theorem BC {ds:List Zd} {us args:LI} {op a:Int} (h:args=[a]) (hi:¬(0<=a/\a<=(us.length:Int)-1)):TH ds us op args=-1:=by
 subst h;rw [TH];simp only [Qs hi]
theorem BA {ds:List Zd} {us args:LI} {op a t:Int} (h:args=[a]) (hi:0<=a/\a<=(us.length:Int)-1) (ht:us[a.toNat]? = some t) :
  TH ds us op args=if t=0 then -1 else if (op≠14/\op≠15)/\XG ds t=true then -1 else 0:=by
 subst h;rw [TH];simp only [TG hi ht]
theorem Z85 {n:Zr} {us args:LI} {op num:Int} {r:ZX} (hi:0<=num/\num<=(n.routines.length:Int)-1) (hr:n.routines[num.toNat]? = some r) :
  US n us op num args=K3 n.decls us op args r:=by
 rw [US];simp only [TG hi hr]
theorem Z86 {n:Zr} {us args:LI} {op num:Int} (hi:¬(0<=num/\num<=(n.routines.length:Int)-1)):US n us op num args=-1:=by
 rw [US];simp only [Qs hi]
theorem Ms {xs:LI} {x:Int} (h:xs[xs.length-1]? = some x):xs.getLast?.getD 0=x:=by
 rw [List.getLast?_eq_getElem?,h];rfl
theorem N1 {n:Zr} {us:LI} {bs:List Z5} {ms:List LI} {b:Z5} {m:LI} {k:Nat} {t:Int} (hb:bs[k]? = some b) (hm:ms[k]? = some m)
  (h:¬(YT n (us++m) b<0∨(k:Int)>0/\YT n (us++m) b≠t)) :
  XS n us (bs.drop k) (ms.drop k) (decide (k=0)) t=XS n us (bs.drop (k+1)) (ms.drop (k+1)) (decide (k+1=0)) (YT n (us++m) b):=by
 rw [Y3 hb,Y3 hm,XS,Za]
 ·simp
 ·rintro (q|⟨q1,q2⟩)
  ·exact h (.inl q)
  ·exact h (.inr ⟨by simp at q1;omega,q2⟩)
theorem MZ {n:Zr} {us:LI} {bs:List Z5} {ms:List LI} {b:Z5} {m:LI} {k:Nat} {t:Int} (hb:bs[k]? = some b) (hm:ms[k]? = some m)
  (h:YT n (us++m) b<0∨(k:Int)>0/\YT n (us++m) b≠t) :
  XS n us (bs.drop k) (ms.drop k) (decide (k=0)) t=-1:=by
 rw [Y3 hb,Y3 hm,XS,Zk]
 rcases h with q|⟨q1,q2⟩
 ·exact .inl q
 ·exact .inr ⟨by simp;omega,q2⟩
theorem N0 {n:Zr} {us:LI} {bs:List Z5} {ms:List LI} {k:Nat} {f:Bool} {t:Int} (hb:bs.length<=k):XS n us (bs.drop k) (ms.drop k) f t=t:=by
 rw [X5 hb,XS]
end Go.Abs
end
namespace Go.Abs
theorem JN (n:Zr) (us:LI) (s:Z4):Y4 n us s =
  if (s.num≠0/\¬V0 s.op=true)∨¬VJ us s.op s.into=true∨(0<s.kids.length/\s.op≠7/\s.op≠8) then -1
  else if s.op=0 then (if s.args.length=0/\(-999<=s.num/\s.num<=999) then 0 else -1)
  else if s.op=1∨s.op=2∨s.op=3∨s.op=4 then (if XL us s.args [0,0]=true then 0 else -1)
  else if s.op=5 then (if XL us s.args [0]=true then 0 else -1)
  else if s.op=6 then (if 0<XP n.decls s.num/\XL us s.args (ZP n.decls s.num)=true then XP n.decls s.num else -1)
  else if s.op=7 then (if XL us s.args [0]=true then UO n us s.op s.num s.kids else -1)
  else if s.op=8 then (if XL us s.args [s.num]=true then UO n us s.op s.num s.kids else -1)
  else if s.op=9∨s.op=10 then US n us s.op s.num s.args
  else if s.op=11 then Q2 n.decls us s.args
  else if s.op=14∨s.op=15∨s.op=16∨s.op=17 then TH n.decls us s.op s.args
  else -1:=by
 cases s with
 | mk op num into args kids=>rw [Y4];rfl
theorem DR (n:Zr) (us:LI) (b:Z5):YT n us b=match Wg n b.steps us with
  | none=>-1
  | some vs=>(Xc vs b.result).getD (-1):=by
 cases b with
 | mk st r=>rw [YT];rfl
theorem IS {α:Type} {xs:List α} {x:α} (h:xs.length=2) (hx:xs[0]? = some x):∃y,xs=[x,y]:=by
 match xs,h with
 | [a,b],_=>simp at hx;subst hx;exact ⟨b,rfl⟩
theorem Ue {ds:List Zd} {us args:LI} (h:args.length≠2):Q2 ds us args=-1:=by
 match args,h with
 | [],_=>rfl
 | [_],_=>rfl
 | [_,_],h=>simp at h
 | _::_::_::_,_=>rfl
theorem Uf {ds:List Zd} {us args:LI} {a:Int} (hl:args.length=2) (h:args[0]? = some a) (hi:¬(0<=a/\a<=(us.length:Int)-1)):Q2 ds us args=-1:=by
 obtain ⟨y,rfl⟩:=IS hl h;rw [Q2];simp only [Qs hi]
theorem U0 {ds:List Zd} {us args:LI} {a t:Int} (hl:args.length=2) (h:args[0]? = some a) (hi:0<=a/\a<=(us.length:Int)-1) (ht:us[a.toNat]? = some t) :
  Q2 ds us args=if XG ds t=true then
    (match ds[(t-1).toNat]? with
     | some d=>if XL us (args.drop 1) [d.frm]=true then d.to_ else -1
     | none=>-1) else -1:=by
 obtain ⟨y,rfl⟩:=IS hl h;rw [Q2];simp only [TG hi ht];rfl
theorem Rm {ds:List Zd} {us args:LI} {a t:Int} {d:Zd} (hl:args.length=2) (h:args[0]? = some a) (hi:0<=a/\a<=(us.length:Int)-1) (ht:us[a.toNat]? = some t)
  (hA:XG ds t=true) (hd:ds[(t-1).toNat]? = some d):Q2 ds us args=if XL us (args.drop 1) [d.frm]=true then d.to_ else -1:=by
 rw [U0 hl h hi ht,Zk hA];simp only [hd]
theorem Hc {ds:List Zd} {t:Int} (h:XG ds t=true):1<=t/\t<=ds.length:=by
 simp only [XG,Xy,decide_eq_true_eq] at h;exact h.1
theorem Na (b:Z5) (l:Int):XY b l=Vu b.steps l:=by cases b;rw [XY];rfl
theorem ES (s:Z4) (l:Int):TL s l=VF s.kids l:=by cases s;rw [TL];rfl
structure Ud (n:Zr):Prop where
 decls:Qp n.decls
 len:n.routines.length<=4194304
 params:∀r∈n.routines,r.params.length<=4194304
 lent:∀r∈n.routines,r.lent.length<=4194304
 body:∀r∈n.routines,r.body.sz<=10000000
theorem Fp {m:Nat} {fs:List Sg} (h:K5 m fs=true):∀f∈fs,QB m f=true:=by
 induction fs with
 | nil=>simp
 | cons f r ih=>
  rw [K5] at h
  split at h
  ·rename_i h1
   intro g hg
   rcases YE.1 hg with rfl|hg
   ·exact h1
   ·exact ih h g hg
  ·cases h
theorem HB {n:Zr} (hz:Ud n) (h:VR n=true):X1 n:=by
 simp only [VR,Qm,Xy,decide_eq_true_eq] at h
 obtain ⟨h1,⟨h2,h3,h4,h5⟩,h6⟩:=h
 refine ⟨Zc1 h2,h1,fun r hr=>?_,hz.lent⟩
 have:=Fp h4 (Vi r) (XC.2 ⟨r,hr,rfl⟩)
 simp only [QB,Xy,decide_eq_true_eq] at this
 exact this.1
def gI (xs:LI) (i:Int):Int:=xs[i.toNat]?.getD 0
theorem UY {xs:LI} {i:Int} {x:Int} (h:xs[i.toNat]? = some x):gI xs i=x:=by rw [gI,h];rfl
structure ZJ where
 vars:LI
 own:LI
 par:LI
 con:LI
 fst:LI
 tok:LI
def ZJ.grow (L:ZJ) (t own par:Int):ZJ:=⟨L.vars++[t],L.own++[own],L.par++[par],L.con++[-1],L.fst++[-1],L.tok++[-1]⟩
def Tm (L:ZJ) (v:Int):Option ZJ:=if gI L.own v<1 then none else some { L with own:=L.own.set v.toNat (gI L.own v-1) }
def Q1 (own par ln:LI):Nat->Int->Bool
 | 0,_=>false
 | k+1,v=>if gI own v<1/\¬v∈ln then (if gI par v<0 then false else Q1 own par ln k (gI par v)) else true
def Ur (L:ZJ) (ln:LI) (v:Int):Bool:=Q1 L.own L.par ln (v.toNat+1) v
def TF:LI->Int->LI->LI
 | own,_,[]=>own
 | own,p,f::r=>TF (if f≠0 then own.set p.toNat (gI own p+1) else own) (p+1) r
def J2 (ds:List Zd) (L:ZJ) (op x:Int):Option ZJ:=
 if gI L.con x<0∨(op=17/\0<=gI L.tok x) then none
 else match Tm L x with
  | none=>none
  | some L1=>some { L1 with
    own:=TF L1.own (gI L.fst x) (ZP ds (gI L.con x))
    tok:=if op=17 then L.tok.set x.toNat (ZP ds (gI L.con x)).length else L.tok }
def KJ (op:Int):Bool:=op==6||(op==9||(op==10||op==11))
def EU (n:Zr) (op num:Int):LI:=if op=9 then ((n.routines[num.toNat]?).map (·.lent)).getD [] else []
def Ui (n:Zr) (op num:Int) (i:Nat):Bool:=decide ((i:Int)∈EU n op num)
def Kh (n:Zr) (vars:LI) (op num a:Int) (i:Nat):Bool:=KJ op&&(gI vars a != 0&&!Ui n op num i)
def Qx (n:Zr) (op num:Int):LI->Nat->ZJ->Option ZJ
 | [],_,L=>some L
 | a::r,i,L=>if Kh n L.vars op num a i=true then (match Tm L a with
   | none=>none
   | some L1=>Qx n op num r (i+1) L1) else Qx n op num r (i+1) L
def Ag (n:Zr) (op num:Int) (ln:LI) (L:ZJ):LI->Nat->Bool
 | [],_=>true
 | a::r,i=>if Ui n op num i=true/\¬Ur L ln a=true then false else Ag n op num ln L r (i+1)
def CO (L:ZJ) (into:Int) (m:Nat):Option ZJ:=
 if 0<into then (if gI L.tok (into-1)≠m then none else some { L with tok:=L.tok.set (into-1).toNat (-1) }) else some L
def Kl (n:Zr) (ln:LI) (L:ZJ) (op num into:Int) (args:LI):Option ZJ:=
 match Qx n op num args 0 L with
 | none=>none
 | some L1=>if Ag n op num ln L1 args 0=true then CO L1 into args.length else none
def AF:LI->LI->Bool
 | o::os,t::ts=>if o≠0∨0<=t then false else AF os ts
 | _,_=>true
def ZJ.take (L:ZJ) (m:Nat):ZJ:=⟨L.vars.take m,L.own.take m,L.par.take m,L.con.take m,L.fst.take m,L.tok.take m⟩
def KL (L:ZJ) (m:Nat):Option ZJ:=if AF (L.own.drop m) (L.tok.drop m)=true then some (L.take m) else none
def B6 (L:ZJ) (par:Int):LI->ZJ
 | []=>L
 | t::r=>B6 (L.grow t 0 par) par r
def AS (ds:List Zd) (L:ZJ) (x c:Int):ZJ:=
 B6 { L with con:=L.con.set x.toNat c,fst:=L.fst.set x.toNat L.vars.length } x (ZP ds c)
def T1 (ds:List Zd) (L:ZJ) (op num:Int) (args:LI) (i:Nat):ZJ:=
 if op=8 then AS ds L (gI args 0) (gI (ZQ ds num) i) else L
def JK (lent:LI):LI->Nat->ZJ->ZJ
 | [],_,L=>L
 | t::r,i,L=>JK lent r (i+1) (L.grow t (if t≠0/\¬(i:Int)∈lent then 1 else 0) (-1))
def K1 (r:ZX):ZJ:=JK r.lent r.params 0 ⟨[],[],[],[],[],[]⟩
def AZ (L:ZJ) (ln:LI) (v:Int):Option ZJ:=if Ur L ln v=true then some { L with own:=L.own.set v.toNat (gI L.own v+1) } else none
def Kr (n:Zr) (ln:LI) (L:ZJ) (op num into:Int) (args:LI) (ch:Option ZJ):Option ZJ:=
 if op=14 then AZ L ln (gI args 0)
 else if op=15 then Tm L (gI args 0)
 else if op=16∨op=17 then J2 n.decls L op (gI args 0)
 else if op=7∨op=8 then (if op=8/\¬Ur L ln (gI args 0)=true then none else ch)
 else Kl n ln L op num into args
def KS (L:ZJ) (op t:Int) (r:Option ZJ):Option ZJ:=
 match r with
 | none=>none
 | some L1=>if Xv op=true then some (L1.grow t (if t≠0 then 1 else 0) (-1)) else some L1
def Bd (L:ZJ) (first:Option ZJ) (rest:ZJ->Bool):Option ZJ:=
 match first with
 | none=>none
 | some one=>if rest one=true then some { L with own:=one.own,tok:=one.tok } else none
def Fl (one:ZJ) (two:Option ZJ) (rest:Bool):Bool:=
 match two with
 | none=>false
 | some two=>if one.own=two.own/\one.tok=two.tok then rest else false
def Dz (r:Option ZJ) (f:ZJ->Option ZJ):Option ZJ:=match r with|none=>none|some L=>f L
def KR (m:Nat) (res:Int) (L:ZJ):Option ZJ:=Dz (if gI L.vars res≠0 then Tm L res else some L) fun L2=>KL L2 m
mutual
def TT (n:Zr) (ln:LI) (L:ZJ):Z4->Option ZJ
 | .mk op num into args kids=>KS L op (Y4 n L.vars (.mk op num into args kids)) (Kr n ln L op num into args (QX n ln L op num args kids))
def QX (n:Zr) (ln:LI) (L:ZJ) (op num:Int) (args:LI):List Z5->Option ZJ
 | []=>none
 | b::bs=>Bd L (Vy n ln (T1 n.decls L op num args 0) L.vars.length b) fun one=>Kq n ln L op num args one bs 1
def Kq (n:Zr) (ln:LI) (L:ZJ) (op num:Int) (args:LI) (one:ZJ):List Z5->Nat->Bool
 | [],_=>true
 | b::bs,i=>Fl one (Vy n ln (T1 n.decls L op num args i) L.vars.length b) (Kq n ln L op num args one bs (i+1))
def Ku (n:Zr) (ln:LI) (L:ZJ):List Z4->Option ZJ
 | []=>some L
 | s::r=>Dz (TT n ln L s) fun L1=>Ku n ln L1 r
def Vy (n:Zr) (ln:LI) (L:ZJ) (m:Nat):Z5->Option ZJ
 | .mk steps result=>Dz (Ku n ln L steps) (KR m result)
end
theorem Pq (n:Zr) (ln:LI) (L:ZJ) (s:Z4):TT n ln L s=KS L s.op (Y4 n L.vars s) (Kr n ln L s.op s.num s.into s.args (QX n ln L s.op s.num s.args s.kids)):=by
 cases s with
 | mk op num into args kids=>rw [TT];rfl
theorem G9 (n:Zr) (ln:LI) (L:ZJ) (m:Nat) (b:Z5):Vy n ln L m b=Dz (Ku n ln L b.steps) (KR m b.result):=by
 cases b with
 | mk st r=>rw [Vy];rfl
structure UG (L:ZJ):Prop where
 own:L.own.length=L.vars.length
 par:L.par.length=L.vars.length
 con:L.con.length=L.vars.length
 fst:L.fst.length=L.vars.length
 tok:L.tok.length=L.vars.length
structure Xr (ds:List Zd) (L:ZJ) (q:Int):Prop where
 len:UG L
 down:∀j:Int,0<=j->j<L.vars.length->gI L.par j<j
 arm:∀x:Int,0<=x->x<L.vars.length->0<=gI L.con x->0<=gI L.fst x/\gI L.fst x+(ZP ds (gI L.con x)).length<=L.vars.length
 nn:∀x∈L.own,0<=x
 bd:∀x∈L.own,x<=q
end Go.Abs
section
namespace Go.Abs
end Go.Abs
namespace Go.Abs
theorem Z5q {n:Zr} {op num:Int} {r:ZX} (h:op=9) (hr:n.routines[num.toNat]? = some r):EU n op num=r.lent:=by
 rw [EU,Zk h,hr];rfl
end Go.Abs
namespace Go.Abs
theorem R8 {own par ln:LI} {N:Int} (hd:∀j:Int,0<=j->j<N->gI par j<j):∀(k:Nat) (v:Int),0<=v->v<N->v.toNat+1<=k->Q1 own par ln k v=Q1 own par ln (v.toNat+1) v:=by
 intro k
 induction k using Nat.strongRecOn with
 | ind k ih=>
  intro v h0 hN hk
  cases k with
  | zero=>omega
  | succ k=>
   rw [Q1,Q1]
   split
   ·split
    ·rfl
    ·have hdv:=hd v h0 hN
     rw [ih k om (gI par v) om om om]
     rw [ih v.toNat om (gI par v) om om om]
   ·rfl
theorem Ra {own par ln:LI} {N j x1 x2:Int} {r:Bool} (h1:gI own j=x1) (h2:gI par j=x2) (hj:0<=j/\j<N) (hx:x1<1/\¬j∈ln) (h0:¬x2<0) (hd:∀i:Int,0<=i->i<N->gI par i<i)
  (h:Q1 own par ln (j.toNat+1) j=r):Q1 own par ln (x2.toNat+1) x2=r:=by
 rw [Q1,h1,h2,Zk hx,Za h0] at h
 have hdv:=hd j hj.1 hj.2
 rw [<-h,R8 hd j.toNat x2 om om om]
theorem R9 {own par ln:LI} {j x1 x2:Int} {r:Bool} (h1:gI own j=x1) (h2:gI par j=x2) (hx:x1<1/\¬j∈ln) (h0:x2<0) (h:Q1 own par ln (j.toNat+1) j=r):false=r:=by
 rw [Q1,h1,h2,Zk hx,Zk h0] at h;exact h
theorem Rb {own par ln:LI} {j x1:Int} {r:Bool} (h1:gI own j=x1) (hx:¬(x1<1/\¬j∈ln)) (h:Q1 own par ln (j.toNat+1) j=r):true=r:=by
 rw [Q1,h1,Za hx] at h;exact h
end Go.Abs
namespace Go.Abs
theorem Kv {L L':ZJ} {v:Int} (h:Tm L v=some L'):1<=gI L.own v/\L'.vars=L.vars/\L'.par=L.par/\L'.con=L.con/\L'.fst=L.fst/\L'.tok=L.tok/\L'.own=L.own.set v.toNat (gI L.own v-1):=by
 rw [Tm] at h
 split at h
 ·cases h
 ·cases h;exact ⟨by omega,rfl,rfl,rfl,rfl,rfl,rfl⟩
theorem GW {xs:LI} {v:Int} (h:gI xs v≠0):gI xs v∈xs:=by
 rw [gI] at h ⊢
 cases hx:xs[v.toNat]? with
 | none=>rw [hx] at h;exact absurd rfl h
 | some y=>exact ZZ hx
theorem J0 {xs:LI} {i:Nat} {a x:Int} (h:x∈xs.set i a):x∈xs∨x=a:=List.mem_or_eq_of_mem_set h
theorem Xr.take {ds:List Zd} {L L':ZJ} {q v:Int} (hk:Xr ds L q) (h:Tm L v=some L'):Xr ds L' q:=by
 obtain ⟨t1,t2,t3,t4,t5,t6,t7⟩:=Kv h
 obtain ⟨f1,f2,f3,f4,f5⟩:=hk.len
 have hm:=GW (xs:=L.own) (v:=v) om
 refine ⟨⟨by rw [t7,t2,T3];exact f1,by rw [t3,t2];exact f2,by rw [t4,t2];exact f3,by rw [t5,t2];exact f4,by rw [t6,t2];exact f5⟩,?_,?_,?_,?_⟩
 ·rw [t2,t3];exact hk.down
 ·rw [t2,t4,t5];exact hk.arm
 ·rw [t7];intro x hx
  rcases J0 hx with hx|rfl
  ·exact hk.nn x hx
  ·omega
 ·rw [t7];intro x hx
  rcases J0 hx with hx|rfl
  ·exact hk.bd x hx
  ·have:=hk.bd _ hm;omega
end Go.Abs
end
namespace Go.Abs
theorem Ip {us:LI}:∀{args tys:LI},UU us args tys=true->args.length=tys.length/\∀a∈args,0<=a/\a<us.length
 | [],[],_=>⟨rfl,by simp⟩
 | [],_::_,h=>by cases h
 | _::_,[],h=>by cases h
 | a::as1,t::ts,h=>by
  rw [UU] at h
  split at h
  ·rename_i h1
   obtain ⟨q1,q2⟩:=Ip h
   refine ⟨by simp [q1],fun x hx=>?_⟩
   rcases YE.1 hx with rfl|hx
   ·have:=(A5 h1).1;omega
   ·exact q2 x hx
  ·cases h
theorem MY {n:Zr} {us:LI}:∀{bs:List Z5} {ms:List LI} {f:Bool} {t:Int},0<=t->0<=XS n us bs ms f t ->
  ∀(i:Nat) (b:Z5) (m:LI),bs[i]? = some b->ms[i]? = some m->0<=YT n (us++m) b
 | [],_,_,_,_,_,i,b,m,hb,_=>by simp at hb
 | b::bs,[],_,_,_,h,_,_,_,_,hm=>by simp at hm
 | b::bs,m::ms,f,t,ht,h,i,c,l,hc,hl=>by
  rw [XS] at h
  split at h
  ·omega
  ·rename_i hq
   have h0:0<=YT n (us++m) b:=by
    rcases Int.lt_or_le (YT n (us++m) b) 0 with q|q
    ·exact absurd (.inl q) hq
    ·exact q
   cases i with
   | zero=>simp at hc hl;subst hc hl;exact h0
   | succ i=>exact MY h0 h i c l (by simpa using hc) (by simpa using hl)
structure AO (n:Zr) (us:LI) (s:Z4):Prop where
 args:∀a∈s.args,0<=a/\a<us.length
 one:(s.op=7∨s.op=8∨(14<=s.op/\s.op<=17))->∃a,s.args=[a]
 num:s.op=9->0<=s.num/\s.num<n.routines.length
 into:s.into≠0->1<=s.into/\s.into<=us.length
 kids:(s.op=7∨s.op=8)->s.kids.length=(X7 n.decls s.op s.num).length/\(X7 n.decls s.op s.num).length≠0 /\
  ∀(i:Nat) (b:Z5) (m:LI),s.kids[i]? = some b->(X7 n.decls s.op s.num)[i]? = some m->0<=YT n (us++m) b
theorem Z54 {n:Zr} {us:LI} {op num:Int} {kids:List Z5} (h:0<=UO n us op num kids) :
  kids.length=(X7 n.decls op num).length/\(X7 n.decls op num).length≠0/\∀(i:Nat) (b:Z5) (m:LI),kids[i]? = some b->(X7 n.decls op num)[i]? = some m->0<=YT n (us++m) b:=by
 rw [UO] at h
 split at h
 ·omega
 ·rename_i hq
  exact ⟨by omega,by omega,MY (Int.le_refl 0) h⟩
theorem Ng {xs:LI} (h:xs.length=1):∃a,xs=[a]:=by
 match xs,h with
 | [a],_=>exact ⟨a,rfl⟩
theorem Ig {n:Zr} {us:LI} {s:Z4} (h:0<=Y4 n us s):AO n us s:=by
 rw [JN] at h
 split at h
 ·omega
 rename_i h0
 have hinto:s.into≠0->1<=s.into/\s.into<=us.length:=by
  intro hi
  have hv:VJ us s.op s.into=true:=by
   cases q:VJ us s.op s.into with
   | true=>rfl
   | false=>exact absurd (.inr (.inl (by rw [q];simp))) h0
  rw [VJ,Za hi] at hv
  split at hv
  ·cases ha:Xc us (s.into-1) with
   | none=>rw [ha] at hv;cases hv
   | some t=>have:=(A5 ha).1;omega
  ·cases hv
 have mk:(∀a∈s.args,0<=a/\a<us.length)->((s.op=7∨s.op=8∨(14<=s.op/\s.op<=17))->∃a,s.args=[a])->(s.op=9->0<=s.num/\s.num<n.routines.length) ->
   ((s.op=7∨s.op=8)->0<=UO n us s.op s.num s.kids)->AO n us s:=fun a b c d=>⟨a,b,c,hinto,fun q=>Z54 (d q)⟩
 have ty:∀{tys},XL us s.args tys=true->s.args.length=tys.length/\∀a∈s.args,0<=a/\a<us.length:=fun q=>Ip q
 split at h
 ·rename_i h1
  split at h
  ·rename_i h2
   exact mk (by rw [List.eq_nil_of_length_eq_zero h2.1];simp) om om om
  ·omega
 split at h
 ·split at h
  ·rename_i h1 h2;exact mk (ty h2).2 om om om
  ·omega
 split at h
 ·split at h
  ·rename_i h1 h2;exact mk (ty h2).2 om om om
  ·omega
 split at h
 ·split at h
  ·rename_i h1 h2;exact mk (ty h2.2).2 om om om
  ·omega
 split at h
 ·split at h
  ·rename_i h1 h2;exact mk (ty h2).2 (fun _=>Ng (by simpa using (ty h2).1)) om (fun _=>h)
  ·omega
 split at h
 ·split at h
  ·rename_i h1 h2;exact mk (ty h2).2 (fun _=>Ng (by simpa using (ty h2).1)) om (fun _=>h)
  ·omega
 split at h
 ·rename_i hop
  rw [US] at h
  cases hr:Xc n.routines s.num with
  | none=>rw [hr] at h;simp at h
  | some r=>
   rw [hr] at h
   simp only at h
   have hn:=(A5 hr).1
   rw [K3] at h
   split at h
   ·split at h
    ·rename_i h2;exact mk (ty h2).2 om om om
    ·omega
   ·split at h
    ·omega
    ·rename_i h2
     have h3:XL us s.args (r.params.take (r.params.length-1))=true:=by
      cases q:XL us s.args (r.params.take (r.params.length-1)) with
      | true=>rfl
      | false=>exact absurd (.inr (.inr (by rw [q];simp))) h2
     exact mk (ty h3).2 om om om
 split at h
 ·rename_i hop
  rcases he:s.args with _|⟨a,_|⟨b,_|⟨c,r⟩⟩⟩
  ·rw [he,show Q2 n.decls us []=-1 from rfl] at h;omega
  ·rw [he,show Q2 n.decls us [a]=-1 from rfl] at h;omega
  ·rw [he,Q2] at h
   cases ha:Xc us a with
   | none=>rw [ha] at h;simp at h
   | some t=>
    rw [ha] at h
    simp only at h
    split at h
    ·cases hd:n.decls[(t-1).toNat]? with
     | none=>rw [hd] at h;simp at h
     | some d=>
      rw [hd] at h
      simp only at h
      split at h
      ·rename_i h3
       have h4:=(Ip h3).2 b (by simp)
       have h5:=(A5 ha).1
       refine mk (fun x hx=>?_) om om om
       rw [he] at hx
       rcases YE.1 hx with rfl|hx
       ·omega
       ·rw [XT.1 hx];exact h4
      ·omega
    ·omega
  ·rw [he,show Q2 n.decls us (a::b::c::r)=-1 from rfl] at h;omega
 split at h
 ·rename_i hop
  rcases he:s.args with _|⟨a,_|⟨b,r⟩⟩
  ·rw [he,show TH n.decls us s.op []=-1 from rfl] at h;omega
  ·rw [he,TH] at h
   cases ha:Xc us a with
   | none=>rw [ha] at h;simp at h
   | some t=>
    have h5:=(A5 ha).1
    refine mk (fun x hx=>?_) (fun _=>⟨a,he⟩) om om
    rw [he] at hx
    rw [XT.1 hx];omega
  ·rw [he,show TH n.decls us s.op (a::b::r)=-1 from rfl] at h;omega
 ·omega
def Qj (n:Zr) (us:LI) (s:Z4):LI:=if Xv s.op=true then us++[Y4 n us s] else us
theorem Lu {L L':ZJ} {ln:LI} {v:Int} (h:AZ L ln v=some L'):L'.vars=L.vars/\L'.par=L.par/\L'.con=L.con/\L'.fst=L.fst/\L'.tok=L.tok/\L'.own=L.own.set v.toNat (gI L.own v+1):=by
 rw [AZ] at h
 split at h
 ·cases h;exact ⟨rfl,rfl,rfl,rfl,rfl,rfl⟩
 ·cases h
theorem G3:∀(fs:LI) (own:LI) (p:Int),(TF own p fs).length=own.length
 | [],own,p=>rfl
 | f::r,own,p=>by rw [TF,G3 r];split<;>simp
theorem GV {xs:LI} {q v:Int} (h:∀x∈xs,x<=q) (hq:0<=q):gI xs v<=q:=by
 by_cases h0:gI xs v=0
 ·omega
 ·exact h _ (GW h0)
theorem GX {xs:LI} {v:Int} (h:∀x∈xs,0<=x):0<=gI xs v:=by
 by_cases h0:gI xs v=0
 ·omega
 ·exact h _ (GW h0)
theorem G4:∀(fs:LI) (own:LI) (p:Int),(∀x∈own,0<=x)->∀x∈TF own p fs,0<=x
 | [],own,p,h=>h
 | f::r,own,p,h=>by
  rw [TF]
  refine G4 r _ _ fun x hx=>?_
  split at hx
  ·rcases J0 hx with hx|rfl
   ·exact h x hx
   ·have:=GX (v:=p) h;omega
  ·exact h x hx
theorem G0:∀(fs:LI) (own:LI) (p q:Int),0<=q->(∀x∈own,x<=q)->∀x∈TF own p fs,x<=q+fs.length
 | [],own,p,q,hq,h=>by intro x hx;have:=h x hx;simp;omega
 | f::r,own,p,q,hq,h=>by
  intro x hx
  rw [TF] at hx
  have:=G0 r _ _ (q+1) om (fun y hy=>by
   split at hy
   ·rcases J0 hy with hy|rfl
    ·have:=h y hy;omega
    ·have:=GV (v:=p) h hq;omega
   ·have:=h y hy;omega) x hx
  simp only [YK];omega
theorem NK {ds:List Zd} {L L':ZJ} {op v:Int} (h:J2 ds L op v=some L'):L'.vars=L.vars/\L'.par=L.par/\L'.con=L.con/\L'.fst=L.fst/\L'.tok.length=L.tok.length /\
  ∃L1,Tm L v=some L1/\L'.own=TF L1.own (gI L.fst v) (ZP ds (gI L.con v)):=by
 rw [J2] at h
 split at h
 ·cases h
 ·cases ht:Tm L v with
  | none=>rw [ht] at h;cases h
  | some L1=>
   rw [ht] at h
   simp only at h
   obtain ⟨t1,t2,t3,t4,t5,t6,t7⟩:=Kv ht
   cases h
   refine ⟨t2,t3,t4,t5,?_,L1,rfl,rfl⟩
   split
   ·rw [T3]
   ·rfl
theorem H3 {n:Zr} {op num:Int} {ds:List Zd} {q:Int}:∀{as1:LI} {i:Nat} {L L':ZJ},Xr ds L q->Qx n op num as1 i L=some L'->Xr ds L' q/\L'.vars=L.vars/\L'.par=L.par/\L'.con=L.con/\L'.fst=L.fst/\L'.tok=L.tok
 | [],i,L,L',hk,h=>by rw [Qx] at h;cases h;exact ⟨hk,rfl,rfl,rfl,rfl,rfl⟩
 | a::r,i,L,L',hk,h=>by
  rw [Qx] at h
  split at h
  ·cases ht:Tm L a with
   | none=>rw [ht] at h;cases h
   | some L1=>
    rw [ht] at h
    obtain ⟨t1,t2,t3,t4,t5,t6,t7⟩:=Kv ht
    obtain ⟨k1,k2,k3,k4,k5,k6⟩:=H3 (hk.take ht) h
    exact ⟨k1,k2.trans t2,k3.trans t3,k4.trans t4,k5.trans t5,k6.trans t6⟩
  ·exact H3 hk h
theorem Xr.le {ds:List Zd} {L:ZJ} {q q':Int} (h:Xr ds L q) (hq:q<=q'):Xr ds L q':=⟨h.len,h.down,h.arm,h.nn,fun x hx=>Int.le_trans (h.bd x hx) hq⟩
theorem Xr.turn {ds:List Zd} {L L':ZJ} {q q':Int} (hk:Xr ds L q) (h1:L'.vars=L.vars) (h2:L'.par=L.par) (h3:L'.con=L.con) (h4:L'.fst=L.fst) (h5:L'.tok.length=L.tok.length) (h6:L'.own.length=L.own.length)
  (h7:∀x∈L'.own,0<=x) (h8:∀x∈L'.own,x<=q'):Xr ds L' q':=by
 obtain ⟨f1,f2,f3,f4,f5⟩:=hk.len
 refine ⟨⟨by rw [h6,h1];exact f1,by rw [h2,h1];exact f2,by rw [h3,h1];exact f3,by rw [h4,h1];exact f4,by rw [h5,h1];exact f5⟩,?_,?_,h7,h8⟩
 ·rw [h1,h2];exact hk.down
 ·rw [h1,h3,h4];exact hk.arm
theorem BO {xs ys:LI} {j:Int} (h:j.toNat<xs.length):gI (xs++ys) j=gI xs j:=by
 rw [gI,gI,DF h]
theorem M4 {xs:LI} {y:Int} {j:Int} (h:j.toNat=xs.length):gI (xs++[y]) j=y:=by
 rw [gI,h];simp
theorem Xr.grow {ds:List Zd} {L:ZJ} {q t o p:Int} (hk:Xr ds L q) (hp:p<L.vars.length) (ho:0<=o/\o<=q):Xr ds (L.grow t o p) q:=by
 obtain ⟨f1,f2,f3,f4,f5⟩:=hk.len
 refine ⟨⟨by simp [ZJ.grow,f1],by simp [ZJ.grow,f2],by simp [ZJ.grow,f3],by simp [ZJ.grow,f4],by simp [ZJ.grow,f5]⟩,?_,?_,?_,?_⟩
 ·intro j hj hl
  simp only [ZJ.grow,Yn,FL] at hl ⊢
  by_cases hlt:j<L.vars.length
  ·rw [BO om];exact hk.down j hj hlt
  ·rw [M4 om];omega
 ·intro x hx hl
  simp only [ZJ.grow,Yn,FL] at hl ⊢
  by_cases hlt:x<L.vars.length
  ·rw [BO om,BO om]
   intro hc
   have:=hk.arm x hx hlt hc
   exact ⟨this.1,by omega⟩
  ·rw [M4 om];omega
 ·intro x hx
  simp only [ZJ.grow,X3,XT] at hx
  rcases hx with hx|rfl
  ·exact hk.nn x hx
  ·exact ho.1
 ·intro x hx
  simp only [ZJ.grow,X3,XT] at hx
  rcases hx with hx|rfl
  ·exact hk.bd x hx
  ·exact ho.2
theorem M6 {xs:LI} {k:Nat} {a:Int} {j:Int} (h:xs.length<=j.toNat/\j.toNat<xs.length+k):gI (xs++List.replicate k a) j=a:=by
 rw [gI,DG h.1,List.getElem?_replicate,Zk om];rfl
theorem M7 {xs:LI} {x j c:Int} (h:j.toNat=x.toNat) (hl:x.toNat<xs.length):gI (xs.set x.toNat c) j=c:=by
 rw [gI,h,List.getElem?_set_self hl];rfl
theorem M8 {xs:LI} {x j c:Int} (h:j.toNat≠x.toNat):gI (xs.set x.toNat c) j=gI xs j:=by
 rw [gI,gI,List.getElem?_set_ne (fun q=>h q.symm)]
theorem Mt {p:Int}:∀(fs:LI) (L:ZJ),B6 L p fs=⟨L.vars++fs,L.own++List.replicate fs.length 0,L.par++List.replicate fs.length p,L.con++List.replicate fs.length (-1),
  L.fst++List.replicate fs.length (-1),L.tok++List.replicate fs.length (-1)⟩
 | [],L=>by simp [B6]
 | t::r,L=>by rw [B6,Mt r];simp [ZJ.grow,IB]
theorem Rr {ds:List Zd} {L:ZJ} {q x c:Int} (hk:Xr ds L q) (hq:0<=q) (hx:0<=x/\x<L.vars.length):Xr ds (AS ds L x c) q/\(AS ds L x c).vars=L.vars++ZP ds c:=by
 obtain ⟨f1,f2,f3,f4,f5⟩:=hk.len
 rw [AS,Mt]
 refine ⟨⟨⟨by simp [f1],by simp [f2],by simp [f3],by simp [f4],by simp [f5]⟩,?_,?_,?_,?_⟩,rfl⟩
 ·intro j hj hl
  simp only [Yn] at hl ⊢
  by_cases hlt:j<L.vars.length
  ·rw [BO om];exact hk.down j hj hlt
  ·rw [M6 om];omega
 ·intro y hy hl
  simp only [Yn] at hl ⊢
  by_cases hlt:y<L.vars.length
  ·rw [BO (by simp;omega),BO (by simp;omega)]
   by_cases he:y.toNat=x.toNat
   ·rw [M7 he om,M7 he om]
    intro _
    exact ⟨by omega,by simp⟩
   ·rw [M8 he,M8 he]
    intro hc
    have:=hk.arm y hy hlt hc
    exact ⟨this.1,by omega⟩
  ·rw [M6 (by simp;omega)];omega
 ·intro y hy
  simp only [X3,List.mem_replicate] at hy
  rcases hy with hy|⟨_,rfl⟩
  ·exact hk.nn y hy
  ·exact Int.le_refl 0
 ·intro y hy
  simp only [X3,List.mem_replicate] at hy
  rcases hy with hy|⟨_,rfl⟩
  ·exact hk.bd y hy
  ·exact hq
theorem EM {n:Zr} {L:ZJ} {q:Int} {s:Z4} {i:Nat} {m:LI} (hk:Xr n.decls L q) (hq:0<=q) (hf:AO n L.vars s) (hop:s.op=7∨s.op=8) (hm:(X7 n.decls s.op s.num)[i]? = some m) :
  Xr n.decls (T1 n.decls L s.op s.num s.args i) q/\(T1 n.decls L s.op s.num s.args i).vars=L.vars++m:=by
 rw [T1]
 split
 ·rename_i h8
  obtain ⟨a,ha⟩:=hf.one om
  have hb:=hf.args a (by rw [ha];simp)
  have hg:gI s.args 0=a:=by rw [ha];rfl
  rw [X7,Za om,Kb] at hm
  cases hc:(ZQ n.decls s.num)[i]? with
  | none=>rw [hc] at hm;cases hm
  | some c=>
   rw [hc] at hm
   cases hm
   have hgc:gI (ZQ n.decls s.num) (i:Int)=c:=by rw [gI];simp [hc]
   rw [hg,hgc]
   exact Rr hk hq hb
 ·rename_i h8
  rw [X7,Zk om] at hm
  have:m=[]:=by
   match i,hm with
   | 0,hm=>simpa using hm.symm
   | 1,hm=>simpa using hm.symm
   | i+2,hm=>simp at hm
  subst this
  exact ⟨hk,by simp⟩
theorem Ps {n:Zr}:∀{l:List Z4} {us vs:LI},Wg n l us=some vs->us.length<=vs.length
 | [],us,vs,h=>by rw [Wg] at h;cases h;exact YU _
 | s::r,us,vs,h=>by
  rw [Wg] at h
  split at h
  ·cases h
  ·have:=Ps h
   split at this
   ·simp only [Yn,FL] at this;omega
   ·exact this
theorem Mu {n:Zr} {ln:LI} {L L':ZJ} {op num into q:Int} {args:LI} {ds:List Zd} (hk:Xr ds L q) (h:Kl n ln L op num into args=some L'):Xr ds L' q/\L'.vars=L.vars:=by
 rw [Kl] at h
 cases ht:Qx n op num args 0 L with
 | none=>rw [ht] at h;cases h
 | some L1=>
  rw [ht] at h
  simp only at h
  obtain ⟨k1,k2,k3,k4,k5,k6⟩:=H3 hk ht
  split at h
  ·rw [CO] at h
   split at h
   ·split at h
    ·cases h
    ·cases h
     exact ⟨k1.turn rfl rfl rfl rfl (by simp) rfl k1.nn k1.bd,k2⟩
   ·cases h;exact ⟨k1,k2⟩
  ·cases h
theorem Se {L L':ZJ} {m:Nat} (h:KL L m=some L'):L'=L.take m/\AF (L.own.drop m) (L.tok.drop m)=true:=by
 rw [KL] at h
 split at h
 ·rename_i hz;cases h;exact ⟨rfl,hz⟩
 ·cases h
theorem Im {r:Option ZJ} {f:ZJ->Option ZJ} {L:ZJ} (h:Dz r f=some L):∃L1,r=some L1/\f L1=some L:=by
 cases r with
 | none=>cases h
 | some L1=>exact ⟨L1,rfl,h⟩
theorem N9 (n:Zr) (hn:X1 n) (ln:LI):∀m:Nat,
  (∀(s:Z4) (L L':ZJ) (q:Int),s.sz<=m->Xr n.decls L q->0<=q->0<=Y4 n L.vars s->TT n ln L s=some L'->Xr n.decls L' (q+4*s.sz)/\L'.vars=Qj n L.vars s) /\
  (∀(b:Z5) (L O:ZJ) (q:Int) (k:Nat),b.sz<=m->Xr n.decls L q->0<=q->0<=YT n L.vars b->k<=L.vars.length->Vy n ln L k b=some O ->
   (O.own.length=k/\O.tok.length=k/\(∀x∈O.own,0<=x/\x<=q+4*b.sz))/\UG O/\O.vars.length=k):=by
 intro m
 induction m with
 | zero=>exact ⟨fun s _ _ _ h=>by have:=s.sz_pos;omega,fun s _ _ _ _ h=>by have:=s.sz_pos;omega⟩
 | succ m ih=>
  have hs:∀(s:Z4) (L L':ZJ) (q:Int),s.sz<=m+1->Xr n.decls L q->0<=q->0<=Y4 n L.vars s->TT n ln L s=some L'->Xr n.decls L' (q+4*s.sz)/\L'.vars=Qj n L.vars s:=by
   intro s L L' q Xk hk hq hty h
   have hp:=s.sz_pos
   have hf:=Ig hty
   obtain ⟨f1,f2,f3,f4,f5⟩:=hk.len
   rw [Pq] at h
   unfold KS at h
   cases hpk:Kr n ln L s.op s.num s.into s.args (QX n ln L s.op s.num s.args s.kids) with
   | none=>rw [hpk] at h;cases h
   | some L1=>
    rw [hpk] at h
    simp only at h
    have key:Xr n.decls L1 (q+4*s.sz)/\L1.vars=L.vars:=by
     rw [Kr] at hpk
     split at hpk
     ·obtain ⟨d1,d2,d3,d4,d5,d6⟩:=Lu hpk
      refine ⟨hk.turn d1 d2 d3 d4 (by rw [d5]) (by rw [d6,T3]) ?_ ?_,d1⟩
      ·rw [d6];intro x hx
       rcases J0 hx with hx|rfl
       ·exact hk.nn x hx
       ·have:=GX (v:=gI s.args 0) hk.nn;omega
      ·rw [d6];intro x hx
       rcases J0 hx with hx|rfl
       ·have:=hk.bd x hx;omega
       ·have:=GV (v:=gI s.args 0) hk.bd hq;omega
     split at hpk
     ·exact ⟨(hk.take hpk).le om,(Kv hpk).2.1⟩
     split at hpk
     ·rename_i hop
      obtain ⟨d1,d2,d3,d4,d5,Lt,ht,d6⟩:=NK hpk
      have hkt:=hk.take ht
      have h3:=VN hn.decls (gI L.con (gI s.args 0))
      refine ⟨hk.turn d1 d2 d3 d4 d5 ?_ ?_ ?_,d1⟩
      ·rw [d6,G3,(Kv ht).2.2.2.2.2.2,T3]
      ·rw [d6];exact G4 _ _ _ hkt.nn
      ·rw [d6];intro x hx
       have:=G0 _ _ _ q hq hkt.bd x hx;omega
     split at hpk
     ·rename_i hop
      split at hpk
      ·cases hpk
      ·cases hks:s.kids with
       | nil=>rw [hks,QX] at hpk;cases hpk
       | cons b bs=>
        rw [hks,QX] at hpk
        unfold Bd at hpk
        cases hb:Vy n ln (T1 n.decls L s.op s.num s.args 0) L.vars.length b with
        | none=>rw [hb] at hpk;cases hpk
        | some one=>
         rw [hb] at hpk
         simp only at hpk
         split at hpk
         ·cases hpk
          obtain ⟨q1,q2,q3⟩:=hf.kids hop
          have hks0:s.kids[0]? = some b:=by rw [hks];rfl
          obtain ⟨a0,ha0⟩:=KX (xs:=X7 n.decls s.op s.num) (j:=0) om
          obtain ⟨k1,k2⟩:=EM hk hq hf hop ha0
          have hbz:=U6 hks0
          obtain ⟨⟨r1,r2,r3⟩,_⟩:=ih.2 b _ one q L.vars.length om k1 hq (by rw [k2];exact q3 0 b a0 hks0 ha0) (by rw [k2];simp) hb
          refine ⟨hk.turn rfl rfl rfl rfl (by simp only;omega) (by simp only;omega) (fun x hx=>(r3 x hx).1) (fun x hx=>?_),rfl⟩
          have:=(r3 x hx).2;omega
         ·cases hpk
     ·obtain ⟨k1,k2⟩:=Mu hk hpk
      exact ⟨k1.le om,k2⟩
    split at h
    ·rename_i hd
     cases h
     refine ⟨key.1.grow om ?_,by rw [Qj,Zk hd];simp [ZJ.grow,key.2]⟩
     split<;>omega
    ·rename_i hd
     cases h
     exact ⟨key.1,by rw [Qj,Za hd];exact key.2⟩
  refine ⟨hs,?_⟩
  intro b L O q k Xk hk hq hty hkl h
  have hsteps:∀(l:List Z4) (L L':ZJ) (q:Int) (vs:LI),Yj l<=m->Xr n.decls L q->0<=q->Wg n l L.vars=some vs->Ku n ln L l=some L'->Xr n.decls L' (q+4*Yj l)/\L'.vars=vs:=by
   intro l
   induction l with
   | nil=>intro L L' q vs _ hk _ h1 h2;rw [Wg] at h1;rw [Ku] at h2;cases h1;cases h2;exact ⟨by simpa [Yj] using hk,rfl⟩
   | cons s r ihr=>
    intro L L' q vs hz hk hq h1 h2
    rw [Yj] at hz
    rw [Ku] at h2
    obtain ⟨L1,e1,e2⟩:=Im h2
    rw [Wg] at h1
    split at h1
    ·cases h1
    ·rename_i h0
     obtain ⟨k1,k2⟩:=hs s L L1 q om hk hq om e1
     obtain ⟨k3,k4⟩:=ihr L1 L' (q+4*s.sz) vs om k1 om (by rw [k2];exact h1) e2
     exact ⟨k3.le (by rw [Yj];omega),k4⟩
  have hbz:=b.sz_eq
  rw [G9] at h
  obtain ⟨L1,e1,e2⟩:=Im h
  rw [DR] at hty
  cases hv:Wg n b.steps L.vars with
  | none=>rw [hv] at hty;simp at hty
  | some vs=>
   obtain ⟨k1,k2⟩:=hsteps b.steps L L1 q vs om hk hq hv e1
   have hlen:=Ps hv
   rw [KR] at e2
   obtain ⟨L2,e3,e4⟩:=Im e2
   have k3:Xr n.decls L2 (q+4*Yj b.steps)/\L2.vars=L1.vars:=by
    split at e3
    ·exact ⟨k1.take e3,(Kv e3).2.1⟩
    ·cases e3;exact ⟨k1,rfl⟩
   obtain ⟨rfl,_⟩:=Se e4
   obtain ⟨g1,g2,g3,g4,g5⟩:=k3.1.len
   have hl2:L2.vars.length=vs.length:=by rw [k3.2,k2]
   refine ⟨⟨by simp [ZJ.take];omega,by simp [ZJ.take];omega,fun x hx=>?_⟩,⟨by simp [ZJ.take];omega,by simp [ZJ.take];omega,by simp [ZJ.take];omega,by simp [ZJ.take];omega,by simp [ZJ.take];omega⟩,by simp [ZJ.take];omega⟩
   have hx':x∈L2.own:=TY hx
   have:=k3.1.nn x hx'
   have:=k3.1.bd x hx'
   omega
theorem Pr {n:Zr} (hn:X1 n) {ln:LI} {s:Z4} {L L':ZJ} {q:Int} (hk:Xr n.decls L q) (hq:0<=q) (hty:0<=Y4 n L.vars s) (h:TT n ln L s=some L'):Xr n.decls L' (q+4*s.sz)/\L'.vars=Qj n L.vars s:=
 (N9 n hn ln s.sz).1 s L L' q (YU _) hk hq hty h
theorem L0 {n:Zr} (hn:X1 n) {ln:LI} {b:Z5} {L O:ZJ} {q:Int} {k:Nat} (hk:Xr n.decls L q) (hq:0<=q) (hty:0<=YT n L.vars b) (hkl:k<=L.vars.length) (h:Vy n ln L k b=some O) :
  O.own.length=k/\O.tok.length=k/\(∀x∈O.own,0<=x/\x<=q+4*b.sz):=
 ((N9 n hn ln b.sz).2 b L O q k (YU _) hk hq hty hkl h).1
theorem Dl {n:Zr} (hn:X1 n) {ln:LI} {s:Z4} {L L1:ZJ} {q:Int} (hk:Xr n.decls L q) (hq:0<=q) (hf:AO n L.vars s)
  (hpk:Kr n ln L s.op s.num s.into s.args (QX n ln L s.op s.num s.args s.kids)=some L1):Xr n.decls L1 (q+4*s.sz)/\L1.vars=L.vars:=by
 have hp:=s.sz_pos
 obtain ⟨f1,f2,f3,f4,f5⟩:=hk.len
 rw [Kr] at hpk
 split at hpk
 ·obtain ⟨d1,d2,d3,d4,d5,d6⟩:=Lu hpk
  refine ⟨hk.turn d1 d2 d3 d4 (by rw [d5]) (by rw [d6,T3]) ?_ ?_,d1⟩
  ·rw [d6];intro x hx
   rcases J0 hx with hx|rfl
   ·exact hk.nn x hx
   ·have:=GX (v:=gI s.args 0) hk.nn;omega
  ·rw [d6];intro x hx
   rcases J0 hx with hx|rfl
   ·have:=hk.bd x hx;omega
   ·have:=GV (v:=gI s.args 0) hk.bd hq;omega
 split at hpk
 ·exact ⟨(hk.take hpk).le om,(Kv hpk).2.1⟩
 split at hpk
 ·rename_i hop
  obtain ⟨d1,d2,d3,d4,d5,Lt,ht,d6⟩:=NK hpk
  have hkt:=hk.take ht
  have h3:=VN hn.decls (gI L.con (gI s.args 0))
  refine ⟨hk.turn d1 d2 d3 d4 d5 ?_ ?_ ?_,d1⟩
  ·rw [d6,G3,(Kv ht).2.2.2.2.2.2,T3]
  ·rw [d6];exact G4 _ _ _ hkt.nn
  ·rw [d6];intro x hx
   have:=G0 _ _ _ q hq hkt.bd x hx;omega
 split at hpk
 ·rename_i hop
  split at hpk
  ·cases hpk
  ·cases hks:s.kids with
   | nil=>rw [hks,QX] at hpk;cases hpk
   | cons b bs=>
    rw [hks,QX] at hpk
    unfold Bd at hpk
    cases hb:Vy n ln (T1 n.decls L s.op s.num s.args 0) L.vars.length b with
    | none=>rw [hb] at hpk;cases hpk
    | some one=>
     rw [hb] at hpk
     simp only at hpk
     split at hpk
     ·cases hpk
      obtain ⟨q1,q2,q3⟩:=hf.kids hop
      have hks0:s.kids[0]? = some b:=by rw [hks];rfl
      obtain ⟨a0,ha0⟩:=KX (xs:=X7 n.decls s.op s.num) (j:=0) om
      obtain ⟨k1,k2⟩:=EM hk hq hf hop ha0
      have hbz:=U6 hks0
      obtain ⟨r1,r2,r3⟩:=L0 hn k1 hq (by rw [k2];exact q3 0 b a0 hks0 ha0) (by rw [k2];simp) hb
      refine ⟨hk.turn rfl rfl rfl rfl (by simp only;omega) (by simp only;omega) (fun x hx=>(r3 x hx).1) (fun x hx=>?_),rfl⟩
      have:=(r3 x hx).2;omega
     ·cases hpk
 ·obtain ⟨k1,k2⟩:=Mu hk hpk
  exact ⟨k1.le om,k2⟩
end Go.Abs
section
namespace Go.Abs
theorem Rs {ds:List Zd} {op num:Int} {i:Nat} {m:LI} (h8:op=8) (h:(X7 ds op num)[i]? = some m):∃c,(ZQ ds num)[i]? = some c/\m=ZP ds c:=by
 rw [X7,Za om,Kb] at h
 cases hc:(ZQ ds num)[i]? with
 | none=>rw [hc] at h;cases h
 | some c=>rw [hc] at h;cases h;exact ⟨c,rfl,rfl⟩
theorem Z4x {ds:List Zd} {L:ZJ} {op num x c:Int} {args:LI} {i:Nat} (h8:op=8) (hx:args[0]? = some x) (hc:(ZQ ds num)[i]? = some c):T1 ds L op num args i=AS ds L x c:=by
 have h1:gI args 0=x:=by rw [gI];simp [hx]
 have h2:gI (ZQ ds num) (i:Int)=c:=by rw [gI];simp [hc]
 rw [T1,Zk h8,h1,h2]
theorem Z4y {ds:List Zd} {L:ZJ} {op num:Int} {args:LI} {i:Nat} (h8:¬op=8):T1 ds L op num args i=L:=by rw [T1,Za h8]
theorem Z52 {n:Zr} {ln:LI} {L:ZJ} {op num:Int} {args:LI} {kids:List Z5} {kb:Z5} (h:kids[0]? = some kb) :
  QX n ln L op num args kids=Bd L (Vy n ln (T1 n.decls L op num args 0) L.vars.length kb) fun one=>Kq n ln L op num args one (kids.drop 1) 1:=by
 cases kids with
 | nil=>simp at h
 | cons b bs=>simp at h;subst h;rw [QX];rfl
theorem Z53 {n:Zr} {ln:LI} {L one:ZJ} {op num:Int} {args:LI} {kids:List Z5} {kb:Z5} {k:Nat} (h:kids[k]? = some kb) :
  Kq n ln L op num args one (kids.drop k) k=Fl one (Vy n ln (T1 n.decls L op num args k) L.vars.length kb) (Kq n ln L op num args one (kids.drop (k+1)) (k+1)):=by
 rw [Y3 h,Kq]
def AW (n:Zr) (ln:LI) (L:ZJ) (s:Z4):Option ZJ:=
 if s.op=8/\¬Ur L ln (gI s.args 0)=true then none else QX n ln L s.op s.num s.args s.kids
theorem RK {n:Zr} {ln:LI} {L:ZJ} {s:Z4} {kb:Z5} (h:¬(s.op=8/\¬Ur L ln (gI s.args 0)=true)) (hk:s.kids[0]? = some kb) :
  AW n ln L s=Bd L (Vy n ln (T1 n.decls L s.op s.num s.args 0) L.vars.length kb) fun one=>Kq n ln L s.op s.num s.args one (s.kids.drop 1) 1:=by
 rw [AW,Za h,Z52 hk]
theorem Jx {xs:LI} {x:Int} (h:xs[0]? = some x):gI xs 0=x:=by rw [gI];simp [h]
end Go.Abs
namespace Go.Abs
theorem UG.grow {L:ZJ} {t o p:Int} (h:UG L):UG (L.grow t o p):=by
 obtain ⟨f1,f2,f3,f4,f5⟩:=h
 exact ⟨by simp [ZJ.grow,f1],by simp [ZJ.grow,f2],by simp [ZJ.grow,f3],by simp [ZJ.grow,f4],by simp [ZJ.grow,f5]⟩
theorem UG.arm {L:ZJ} {i j:Nat} {c d:Int} (h:UG L):UG ⟨L.vars,L.own,L.par,L.con.set i c,L.fst.set j d,L.tok⟩:=by
 obtain ⟨f1,f2,f3,f4,f5⟩:=h
 exact ⟨f1,f2,by simp [f3],by simp [f4],f5⟩
end Go.Abs
namespace Go.Abs
theorem MX {n:Zr} (hn:X1 n) {ln:LI} {L O:ZJ} {q:Int} {s:Z4} {i:Nat} {kb:Z5} {m:LI} (hk:Xr n.decls L q) (hq:0<=q) (hf:AO n L.vars s) (hop:s.op=7∨s.op=8)
  (_:s.kids[i]? = some kb) (harm:(X7 n.decls s.op s.num)[i]? = some m) (hbt:0<=YT n (L.vars++m) kb) (h:Vy n ln (T1 n.decls L s.op s.num s.args i) L.vars.length kb=some O) :
  O.own.length=L.vars.length/\O.tok.length=L.vars.length:=by
 obtain ⟨k1,k2⟩:=EM hk hq hf hop harm
 obtain ⟨r1,r2,_⟩:=L0 hn k1 hq (by rw [k2];exact hbt) (by rw [k2];simp) h
 exact ⟨r1,r2⟩
theorem Z92 {one two:ZJ} {r:Bool} (h:¬(¬one.own=two.own∨¬one.tok=two.tok)):Fl one (some two) r=r:=Zk ⟨W3.1 fun q=>h (.inl q),W3.1 fun q=>h (.inr q)⟩
theorem Z91 {one two:ZJ} {r:Bool} (h:¬one.own=two.own∨¬one.tok=two.tok):Fl one (some two) r=false:=Za fun q=>h.elim (fun z=>z q.1) fun z=>z q.2
theorem Z61 {L one:ZJ} {f:ZJ->Bool} (h:f one=true):Bd L (some one) f=some ⟨L.vars,one.own,L.par,L.con,L.fst,one.tok⟩:=Zk h
theorem Ni {L one:ZJ} {f:ZJ->Bool} (h:f one=false):Bd L (some one) f=none:=Za (by rw [h];simp)
end Go.Abs
namespace Go.Abs
section
variable {n:Zr} {ln:LI} {L:ZJ} {s:Z4}
abbrev J3 (n:Zr) (ln:LI) (L:ZJ) (s:Z4):Option ZJ:=Kr n ln L s.op s.num s.into s.args (QX n ln L s.op s.num s.args s.kids)
theorem NO {x:Int} (h:s.op=14) (hx:gI s.args 0=x):J3 n ln L s=AZ L ln x:=hx▸Zk h
theorem NP {x:Int} (h:s.op=15) (hx:gI s.args 0=x):J3 n ln L s=Tm L x:=by rw [<-hx,J3,Kr,Za om,Zk h]
theorem NQ {x:Int} (h:s.op=16∨s.op=17) (hx:gI s.args 0=x):J3 n ln L s=J2 n.decls L s.op x:=by rw [<-hx,J3,Kr,Za om,Za om,Zk h]
theorem NR (h:s.op=7∨s.op=8):J3 n ln L s=AW n ln L s:=by rw [J3,Kr,Za om,Za om,Za om,Zk h,AW]
theorem NS (h1:¬s.op=14) (h2:¬s.op=15) (h3:¬(s.op=16∨s.op=17)) (h4:¬(s.op=7∨s.op=8)):J3 n ln L s=Kl n ln L s.op s.num s.into s.args:=by
 rw [J3,Kr,Za h1,Za h2,Za h3,Za h4]
theorem SF {v:Int} (h:¬Ur L ln v=true):AZ L ln v=none:=Za h
theorem SG {v x:Int} (h:¬¬Ur L ln v=true) (hx:gI L.own v=x):AZ L ln v=some ⟨L.vars,L.own.set v.toNat (x+1),L.par,L.con,L.fst,L.tok⟩:=by rw [AZ,Zk (W3.1 h),hx]
theorem UD (n:Zr) (ln:LI) (L:ZJ) (s:Z4):TT n ln L s=KS L s.op (Y4 n L.vars s) (J3 n ln L s):=Pq n ln L s
theorem Uv {X:ZJ} {op t:Int} (h:Xv op=true/\t≠0):KS L op t (some X)=some (X.grow t 1 (-1)):=by
 unfold KS;simp only [h.1,↓reduceIte];rw [Zk h.2]
theorem Uw {X:ZJ} {op t:Int} (h:¬(Xv op=true/\t≠0)) (h2:Xv op=true):KS L op t (some X)=some (X.grow 0 0 (-1)):=by
 have ht:t=0:=W3.1 fun q=>h ⟨h2,q⟩
 subst ht
 unfold KS;simp only [h2,↓reduceIte];rfl
theorem Ux {X:ZJ} {op t:Int} (h:¬Xv op=true):KS L op t (some X)=some X:=by
 unfold KS;simp only [Za h]
end
end Go.Abs
namespace Go.Abs
theorem Ga {n:Zr} {us:LI} {b:Z5} (h:0<=YT n us b):∃vs t,Wg n b.steps us=some vs/\Xc vs b.result=some t/\0<=t:=by
 rw [DR] at h
 cases hv:Wg n b.steps us with
 | none=>rw [hv] at h;simp at h
 | some vs=>
  rw [hv] at h
  simp only at h
  cases ha:Xc vs b.result with
  | none=>rw [ha] at h;simp at h
  | some t=>rw [ha] at h;exact ⟨vs,t,rfl,ha,h⟩
theorem Ih {n:Zr} {us vs:LI} {s:Z4} {r:List Z4} (h:Wg n (s::r) us=some vs):0<=Y4 n us s/\Wg n r (Qj n us s)=some vs:=by
 rw [Wg] at h
 split at h
 ·cases h
 ·exact ⟨by omega,h⟩
theorem I1 (n:Zr) (us:LI) (s:Z4):us.length<=(Qj n us s).length/\(Qj n us s).length<=us.length+s.sz:=by
 have:=s.sz_pos
 rw [Qj];split
 ·simp only [Yn,FL];omega
 ·omega
end Go.Abs
namespace Go.Abs
theorem Z07 {X L:ZJ} {m:Nat} {r x:Int} (hg:gI L.vars r=x) (h:x≠0) (ht:Tm L r=some X):KR m r L=KL X m:=by rw [KR,hg,Zk h,ht];rfl
theorem Z06 {L:ZJ} {m:Nat} {r x:Int} (hg:gI L.vars r=x) (h:x≠0) (ht:Tm L r=none):KR m r L=none:=by rw [KR,hg,Zk h,ht];rfl
theorem CC {L:ZJ} {m:Nat} {r x:Int} (hg:gI L.vars r=x) (h:¬x≠0):KR m r L=KL L m:=by rw [KR,hg,Za h];rfl
end Go.Abs
namespace Go.Abs
theorem NN {ds:List Zd} {lent:LI}:∀{ps:LI} {i:Nat} {L:ZJ},Xr ds L 1->Xr ds (JK lent ps i L) 1/\(JK lent ps i L).vars=L.vars++ps
 | [],i,L,hk=>⟨hk,by simp [JK]⟩
 | t::r,i,L,hk=>by
  rw [JK]
  obtain ⟨k1,k2⟩:=NN (lent:=lent) (ps:=r) (i:=i+1) (hk.grow (t:=t) (o:=if t≠0/\¬(i:Int)∈lent then 1 else 0) (p:=-1) om (by split<;>omega))
  exact ⟨k1,by rw [k2];simp [ZJ.grow]⟩
theorem Z64 (ds:List Zd) (r:ZX):Xr ds (K1 r) 1/\(K1 r).vars=r.params:=by
 have h:Xr ds (⟨[],[],[],[],[],[]⟩:ZJ) 1:=⟨⟨rfl,rfl,rfl,rfl,rfl⟩,fun j h1 h2=>by simp at h2;omega,fun j h1 h2=>by simp at h2;omega,by simp,by simp⟩
 obtain ⟨k1,k2⟩:=NN (lent:=r.lent) (ps:=r.params) (i:=0) h
 exact ⟨k1,by rw [K1,k2];rfl⟩
end Go.Abs
namespace Go.Abs
theorem HR {n:Zr}:∀{l:List ZX},Tg n l=true->∀r∈l,¬Um r.body<0/\YT n r.params r.body=r.result
 | [],_,r,h=>by simp at h
 | a::l,h,r,hr=>by
  rw [Tg] at h
  split at h
  ·rename_i h1
   rcases YE.1 hr with rfl|hr
   ·exact h1
   ·exact HR h r hr
  ·cases h
theorem It {n:Zr} (hz:Ud n) (h:YS n=true):X1 n/\∀r∈n.routines,0<=YT n r.params r.body:=by
 simp only [YS,Xy] at h
 refine ⟨HB hz h.1,fun r hr=>?_⟩
 rw [(HR h.2 r hr).2]
 have h1:=h.1
 simp only [VR,Qm,Xy] at h1
 have:=Fp h1.2.1.2.2.1 (Vi r) (XC.2 ⟨r,hr,rfl⟩)
 simp only [QB,Xy,decide_eq_true_eq,Vi] at this
 exact (of_decide_eq_true this.2.2).1
end Go.Abs
end
section
namespace Go.Abs
theorem SW {xs:LI} (h:Z7 xs=[]):xs=[]:=by cases xs with|nil=>rfl|cons x r=>cases h
theorem SM {xs:List Y1} (h:Xt xs=[]):xs=[]:=by cases xs with|nil=>rfl|cons x r=>cases h
theorem SP {xs:List Zd} (h:Yp xs=[]):xs=[]:=by cases xs with|nil=>rfl|cons x r=>cases h
end Go.Abs
namespace Go.Abs
theorem M1 (xss:List LI) (k:Nat):(xss.take k).flatten.length<=xss.flatten.length:=by
 conv=>rhs;rw [<-UF k xss,List.flatten_append,Yn]
 omega
end Go.Abs
namespace Go.Abs
theorem GT {xss:List LI} {k:Nat} {x:LI} (h:xss[k]? = some x):(xss.take (k+1)).flatten=(xss.take k).flatten++x:=by rw [Wq h,List.flatten_append];simp
theorem M0 {xss:List LI} {k:Nat} {x:LI} (h:xss[k]? = some x):(xss.take k).flatten.length+x.length<=xss.flatten.length:=by
 have:=M1 xss (k+1)
 rw [GT h,Yn] at this
 exact this
end Go.Abs
end
section
namespace Go.Abs
theorem RZ {c:Int} {ds:List Zd} {k:Nat} {d:Zd} {r:Int × LI} (h:ds[k]? = some d) (hn:¬(c-Yy (ds.take k)>=0/\c-Yy (ds.take k)<d.cons.length))
  (hr:Us c (ds.drop k) k (Yy (ds.take k))=r):Us c (ds.drop (k+1)) (k+1) (Yy (ds.take (k+1)))=r:=by
 rw [Y3 h,Us,Za om] at hr
 rw [Wq h,Cw,<-hr];rfl
end Go.Abs
namespace Go.Abs
theorem S1 {c:Int} {ds:List Zd} {k:Nat} {d:Zd} {x:Y1} (h:ds[k]? = some d) (hn:c-Yy (ds.take k)>=0/\c-Yy (ds.take k)<d.cons.length)
  (hx:d.cons[(c-Yy (ds.take k)).toNat]? = some x):Us c (ds.drop k) k (Yy (ds.take k))=((k:Int)+1,x.fields):=by
 rw [Y3 h,Us,Zk om,hx];rfl
def JV (c:Int) (z:Nat) (v:Int):Prop:=v=c-z∨(c<0/\c-z < -9223372036854775808/\v=c-z+18446744073709551616)
theorem Rv {c:Int} {z l:Nat} {v:Int} (h:JV c z v) (hz:z<=100) (hl:l<=3) (hc:-9223372036854775808<=c/\c<=9223372036854775807):JV c (z+l) (Bp (v-l)):=by
 unfold JV at *;rw [Bp,IntKind.wrap_i64];omega
theorem S0 {c v:Int} {ds:List Zd} {k:Nat} {d:Zd} {r:Int × LI} (h:ds[k]? = some d) (ha:JV c (Yy (ds.take k)) v) (hn:¬(v>=0/\v<d.cons.length))
  (hr:Us c (ds.drop k) k (Yy (ds.take k))=r):Us c (ds.drop (k+1)) (k+1) (Yy (ds.take (k+1)))=r:=RZ h (by unfold JV at ha;omega) hr
theorem S2 {c v:Int} {ds:List Zd} {k:Nat} {d:Zd} {x:Y1} (h:ds[k]? = some d) (ha:JV c (Yy (ds.take k)) v) (hz:Yy (ds.take k)<=100) (hl:d.cons.length<=3) (hc:-9223372036854775808<=c)
  (hn:v>=0/\v<d.cons.length) (hx:d.cons[v.toNat]? = some x):Us c (ds.drop k) k (Yy (ds.take k))=((k:Int)+1,x.fields):=by
 have:v=c-(Yy (ds.take k):Int):=by unfold JV at ha;omega
 subst this
 exact S1 h hn hx
def V8 (ds:List Zd) (t:Int):Zd:=if XG ds t=true then (ds[(t-1).toNat]?).getD ⟨0,0,[]⟩ else ⟨0,0,[]⟩
end Go.Abs
namespace Go.Abs
abbrev Lr (ds:List Zd) (d:Zd):Prop:=
 (((¬(0<=d.frm/\d.frm<=ds.length))∨(¬(0<=d.to_/\d.to_<=ds.length)))∨((d.cons.length:Int)>3))∨(((d.cons.length:Int)>0)/\((d.frm≠0)∨(d.to_≠0)))
theorem Sx {ds:List Zd} {d:Zd} {i:Nat} (h:Lr ds d):U1 ds d i=false:=by
 rw [U1]
 split
 ·rw [Za];rintro ⟨h1,h2,h3⟩
  rcases h with ((h|h)|h)|h<;>omega
 ·split
  ·rfl
  ·rcases h with ((h|h)|h)|h
   ·rw [decide_eq_false h];rfl
   ·rw [decide_eq_false h,Bool.and_false]
   ·omega
   ·omega
theorem Sy {ds:List Zd} {d:Zd} {i:Nat} (hl:0<d.cons.length) (h:UX ds.length d.cons=false):U1 ds d i=false:=by
 rw [U1,Zk hl];split
 ·exact h
 ·rfl
theorem Sz {ds:List Zd} {d:Zd} {i:Nat} (hl:d.cons.length=0) (h:Q4 d (ds.take i)=true):U1 ds d i=false:=by
 rw [U1,Za om,Zk h]
theorem SA {ds:List Zd} {d:Zd} {i:Nat} (h1:¬Lr ds d) (h2:UX ds.length d.cons=true) (h3:d.cons.length=0->Q4 d (ds.take i)=false):U1 ds d i=true:=by
 rw [U1]
 have ha:0<=d.frm/\d.frm<=ds.length:=W3.1 fun q=>h1 (.inl (.inl (.inl q)))
 have hb:0<=d.to_/\d.to_<=ds.length:=W3.1 fun q=>h1 (.inl (.inl (.inr q)))
 have hc:¬(d.cons.length:Int)>3:=fun q=>h1 (.inl (.inr q))
 split
 ·rename_i hl
  have hd:¬(d.frm≠0∨d.to_≠0):=fun q=>h1 (.inr ⟨by omega,q⟩)
  rw [Zk ⟨by omega,by omega,by omega⟩];exact h2
 ·rw [Za (by rw [h3 om];simp),decide_eq_true ha,decide_eq_true hb];rfl
theorem Iu {ds:List Zd} {k:Nat} {d:Zd} (h:ds[k]? = some d) (hA:U1 ds d k=false) (c:Ut ds (ds.drop k) k=Ut ds ds 0):false=Wr ds:=by
 rw [Wr,<-c,Y3 h,Ut,Cx h,hA,Za (by simp),Bool.and_false]
theorem Zc3 {ds:List Zd} {k:Nat} {d:Zd} {r:Bool} (h:ds[k]? = some d) (hA:U1 ds d k=true) (c:Ut ds (ds.drop k) k=r):Ut ds (ds.drop (k+1)) (k+1)=r:=by
 rw [Y3 h,Ut,Cx h,hA,Zk rfl] at c;exact c
theorem Zc2 {ds:List Zd} {k:Nat} (hl:ds.length<=4) (hk:ds.length<=k) (c:Ut ds (ds.drop k) k=Ut ds ds 0):true=Wr ds:=by
 rw [Wr,<-c,X5 hk,decide_eq_true hl];rfl
theorem S3 {m:Nat} {c:Y1} (h:((c.fields.length:Int)>3)∨(¬(XU m c.fields=true))):Kg m c=false:=by
 rw [Kg]
 rcases h with h|h
 ·rw [decide_eq_false om];rfl
 ·rw [TB.2 h,Bool.and_false]
theorem S4 {m:Nat} {c:Y1} (h:¬(((c.fields.length:Int)>3)∨(¬(XU m c.fields=true)))):Kg m c=true:=by
 rw [Kg,W3.1 fun q=>h (.inr q),decide_eq_true (by have:¬(c.fields.length:Int)>3:=fun q=>h (.inl q);omega)];rfl
end Go.Abs
end
section
namespace Go.Abs
structure WE where
 pms:LI
 lnt:LI
 res:Int
abbrev N5 (f:WE):List AV:=[Z6 f.pms,Z6 f.lnt,.i f.res]
abbrev FX (f:WE):AV:=.agg (N5 f)
def UJ (fs:List WE):List AV:=fs.map FX
abbrev C3 (xs:List WE):AV:=.sl (UJ xs) none
abbrev F3 (xs:List WE) (v:Value):AV:=.sl (UJ xs) (some v)
theorem BJ {xs:List WE} {j:Nat} {x:WE} (h:xs[j]? = some x):(UJ xs)[j]? = some (FX x):=by simp [UJ,h]
@[simp] theorem CA (xs:List WE):(UJ xs).length=xs.length:=by simp [UJ]
theorem Lx (xs:List WE):∀y∈UJ xs,y.leaves.length=3:=by intro y hy;simp only [UJ,XC] at hy;obtain ⟨x,_,rfl⟩:=hy;rfl
theorem Z00 (xs:List WE):(Ze (UJ xs)).all AV.one=true:=KU fun y hy=>by simp only [UJ,XC] at hy;obtain ⟨x,_,rfl⟩:=hy;rfl
def XH (r:ZX):WE:=⟨r.params,r.lent,r.result⟩
def J5 (m:Nat) (f:WE):Bool:=QB m ⟨f.pms,f.res⟩&&Kx f.pms f.lnt
def QC (m:Nat):List WE->Bool
 | []=>true
 | f::r=>if J5 m f=true then QC m r else false
def GN:List WE->Bool
 | []=>false
 | f::_=>decide (f.pms.length=0)&&decide (f.res=0)
def K8 (ds:List Zd) (fs:List WE):Bool:=Wr ds&&(decide (1<=fs.length/\fs.length<=4)&&(GN fs&&QC ds.length fs))
theorem LR {fs:List WE} {x:WE} (h:fs[0]? = some x):GN fs=(decide (x.pms.length=0)&&decide (x.res=0)):=by
 cases fs with
 | nil=>simp at h
 | cons f r=>simp at h;subst h;rfl
theorem OV (m:Nat):∀rs:List ZX,QC m (rs.map XH)=(K5 m (rs.map Vi)&&Qd rs)
 | []=>rfl
 | r::rs=>by
  simp only [VL,QC,K5,Qd,J5,OV m rs]
  simp only [XH,Vi]
  by_cases h1:QB m { params:=r.params,result:=r.result }=true<;>by_cases h2:Kx r.params r.lent=true<;>simp [h1,h2]
theorem Nm (n:Zr):VR n=(decide (n.routines.length<=4)&&K8 n.decls (n.routines.map XH)):=by
 have hf:GN (n.routines.map XH)=Eg (n.routines.map Vi):=by
  cases n.routines with
  | nil=>rfl
  | cons r rs=>rfl
 rw [VR,K8,Qm,OV,hf]
 simp only [Kc]
 cases decide (n.routines.length<=4)<;>cases Wr n.decls<;>cases decide (1<=n.routines.length/\n.routines.length<=4)<;>cases K5 n.decls.length (n.routines.map Vi) <;>
  cases Eg (n.routines.map Vi)<;>cases Qd n.routines<;>rfl
theorem Fm {rs:List ZX} {j:Nat} {x:WE} (h:(rs.map XH)[j]? = some x):∃r,rs[j]? = some r/\x=XH r:=by
 rw [Kb] at h
 cases hr:rs[j]? with
 | none=>rw [hr] at h;cases h
 | some r=>rw [hr] at h;cases h;exact ⟨r,rfl,rfl⟩
theorem Nf {ps ls:LI} {j:Nat} {v:Int} {r:Bool} (h:ls[j]? = some v) (hg:(0<=v/\v<=(ps.length:Int)-1)/\ps[v.toNat]?≠some 0/\(∀p,(if j=0 then none else ls[j-1]?)=some p->p<v))
  (hr:Qz ps (ls.drop j) (if j=0 then none else ls[j-1]?)=r):Qz ps (ls.drop (j+1)) (if j+1=0 then none else ls[j+1-1]?)=r:=by
 rw [Y3 h,Hv hg] at hr
 rw [Za om,show j+1-1=j from rfl,h];exact hr
theorem Hw {ps ls:LI} {j:Nat} {v:Int} {r:Bool} (h:ls[j]? = some v) (hg:¬((0<=v/\v<=(ps.length:Int)-1)/\ps[v.toNat]?≠some 0/\(∀p,(if j=0 then none else ls[j-1]?)=some p->p<v)))
  (hr:Qz ps (ls.drop j) (if j=0 then none else ls[j-1]?)=r):r=false:=by
 rw [Y3 h,ET hg] at hr;exact hr.symm
theorem Fo {m:Nat} {fs:List WE} {k:Nat} {f:WE} {r:Bool} (h:fs[k]? = some f) (hb:J5 m f=false) (hr:QC m (fs.drop k)=r):r=false:=by
 rw [Y3 h,QC,hb,Za (by simp)] at hr;exact hr.symm
theorem Z9g {m:Nat} {fs:List WE} {k:Nat} {f:WE} {r:Bool} (h:fs[k]? = some f) (hb:J5 m f=true) (hr:QC m (fs.drop k)=r):QC m (fs.drop (k+1))=r:=by
 rw [Y3 h,QC,Zk hb] at hr;exact hr
end Go.Abs
namespace Go.Abs
section
variable {ds:List Zd} {fs:List WE} {x:WE}
theorem Zc8 (h:((¬(Wr ds=true))∨((fs.length:Int)<1))∨((fs.length:Int)>4)):false=K8 ds fs:=by
 rw [K8]
 rcases h with (h|h)|h
 ·rw [TB.2 h];rfl
 ·rw [decide_eq_false (p:=1<=fs.length/\fs.length<=4) om];simp
 ·rw [decide_eq_false (p:=1<=fs.length/\fs.length<=4) om];simp
theorem PI (hx:fs[0]? = some x) (h:((x.pms.length:Int)>0)∨x.res≠0):false=K8 ds fs:=by
 rw [K8,LR hx]
 rcases h with h|h
 ·rw [decide_eq_false (p:=x.pms.length=0) om];simp
 ·rw [decide_eq_false (p:=x.res=0) h];simp
theorem FD (h:QC ds.length fs=false):false=K8 ds fs:=by rw [K8,h];simp
theorem Zc9 (h:¬(((¬(Wr ds=true))∨((fs.length:Int)<1))∨((fs.length:Int)>4))) (hx:fs[0]? = some x) (h1:¬((x.pms.length:Int)>0)) (h2:¬x.res≠0) (h3:QC ds.length fs=true) :
  true=K8 ds fs:=by
 have hv:Wr ds=true:=W3.1 fun q=>h (.inl (.inl q))
 have ha:¬(fs.length:Int)<1:=fun q=>h (.inl (.inr q))
 have hb:¬(fs.length:Int)>4:=fun q=>h (.inr q)
 rw [K8,LR hx,hv,h3,decide_eq_true (p:=1<=fs.length/\fs.length<=4) om,decide_eq_true (p:=x.pms.length=0) om,decide_eq_true (p:=x.res=0) (W3.1 h2)];rfl
abbrev OU (m:Nat) (x:WE):Prop:=(((x.pms.length:Int)>3)∨(¬(XU m x.pms=true)))∨(¬(0<=x.res/\x.res<=m))
theorem Z8w {m:Nat} (h:OU m x):J5 m x=false:=by
 rw [J5,QB]
 rcases h with (h|h)|h
 ·rw [decide_eq_false (p:=x.pms.length<=3) om];simp
 ·rw [TB.2 h];simp
 ·rw [decide_eq_false h];simp
theorem HX {m:Nat} (h:Kx x.pms x.lnt=false):J5 m x=false:=by rw [J5,h,Bool.and_false]
theorem Z8x {m:Nat} (h:¬OU m x) (hl:Kx x.pms x.lnt=true):J5 m x=true:=by
 have h1:¬(x.pms.length:Int)>3:=fun q=>h (.inl (.inl q))
 rw [J5,QB,hl,decide_eq_true (p:=x.pms.length<=3) om,W3.1 fun q=>h (.inl (.inr q)),decide_eq_true (W3.1 fun q=>h (.inr q))];rfl
end
end Go.Abs
namespace Go.Abs
abbrev Tk (n:Zr):AV:=C3 (n.routines.map XH)
end Go.Abs
end
section
namespace Go.Abs
def XV (us:LI):LI->Option LI
 | []=>some []
 | a::r=>match Xc us a with
  | none=>none
  | some t=>match XV us r with
   | none=>none
   | some ts=>some (t::ts)
theorem Iq {us:LI}:∀{args ts:LI},XV us args=some ts->∀tys,XL us args tys=true↔ts=tys
 | [],ts,h,tys=>by
  rw [XV] at h;cases h
  cases tys with
  | nil=>simp [XL,UU]
  | cons t r=>simp [XL,UU]
 | a::r,ts,h,tys=>by
  rw [XV] at h
  cases ha:Xc us a with
  | none=>rw [ha] at h;cases h
  | some t=>
   rw [ha] at h
   cases hr:XV us r with
   | none=>rw [hr] at h;cases h
   | some tr=>
    rw [hr] at h;cases h
    cases tys with
    | nil=>simp [XL,UU]
    | cons t2 r2=>
     rw [XL,UU,ha]
     have:=Iq hr r2
     rw [XL] at this
     by_cases he:t=t2
     ·subst he;simp [this]
     ·rw [Za (fun q=>he (JU q))];simp [he]
theorem IQ {us:LI}:∀{args ts:LI},XV us args=some ts->ts.length=args.length
 | [],ts,h=>by rw [XV] at h;cases h;rfl
 | a::r,ts,h=>by
  rw [XV] at h
  cases ha:Xc us a with
  | none=>rw [ha] at h;cases h
  | some t=>
   rw [ha] at h
   cases hr:XV us r with
   | none=>rw [hr] at h;cases h
   | some tr=>rw [hr] at h;cases h;simp [IQ hr]
theorem IR {us:LI} {b t:Int}:∀{xs ts:LI},XV us xs=some ts->Xc us b=some t->XV us (xs++[b])=some (ts++[t])
 | [],ts,h,hb=>by rw [XV] at h;cases h;simp [XV,hb]
 | a::r,ts,h,hb=>by
  rw [XV] at h
  cases ha:Xc us a with
  | none=>rw [ha] at h;cases h
  | some u=>
   rw [ha] at h
   cases hr:XV us r with
   | none=>rw [hr] at h;cases h
   | some tr=>
    rw [hr] at h;cases h
    rw [Qn,XV,ha,IR hr hb];rfl
def Cr (n:Zr) (num:Int):LI->Option Int
 | [a,b]=>if XG n.decls a=true/\b=(V8 n.decls a).frm/\num=0 then some (V8 n.decls a).to_ else none
 | _=>none
def Xq (n:Zr) (op num:Int) (ts:LI):Option Int:=
 if op=0 then (if (-999<=num/\num<=999)/\ts.length=0 then some 0 else none)
 else if op=1∨op=2∨op=3∨op=4 then (if num=0/\ts=[0,0] then some 0 else none)
 else if op=5 then (if num=0/\ts=[0] then some 0 else none)
 else if op=11 then Cr n num ts
 else if op=6 then (if 0<=XP n.decls num/\ts=ZP n.decls num then some (XP n.decls num) else none)
 else if op=9 then (match Xc n.routines num with
  | none=>none
  | some r=>if ts=r.params then some r.result else none)
 else if op=10 then (match Xc n.routines num with
  | none=>none
  | some r=>if r.params.length≠0/\0<=QO n.decls r.params r.result/\ts=r.params.take (r.params.length-1) then some (QO n.decls r.params r.result) else none)
 else none
theorem DO {n:Zr} {num:Int} {ts:LI} (h:ts.length≠2):Cr n num ts=none:=by
 match ts,h with
 | [],_=>rfl
 | [_],_=>rfl
 | [_,_],h=>simp at h
 | _::_::_::_,_=>rfl
structure Bv (n:Zr):Prop where
 result:∀r∈n.routines,0<=r.result
 params:∀r∈n.routines,∀p∈r.params,0<=p
 decl:∀d∈n.decls,d.cons.length=0->0<=d.frm/\0<=d.to_
 fields:∀c,∀f∈ZP n.decls c,0<=f
abbrev MJ (us:LI) (s:Z4):Prop:=s.into≠0/\(((s.op≠6∨s.into<1)∨s.into>us.length)∨gI us (s.into-1)=0)
theorem Z4o {us:LI} {op into:Int} (hnn:∀t∈us,0<=t) (h:¬(into≠0/\(((op≠6∨into<1)∨into>us.length)∨gI us (into-1)=0))):VJ us op into=true:=by
 rw [VJ]
 split
 ·rfl
 ·rename_i h0
  have h1:¬(((op≠6∨into<1)∨into>us.length)∨gI us (into-1)=0):=fun q=>h ⟨h0,q⟩
  have h2:op=6:=W3.1 fun q=>h1 (.inl (.inl (.inl q)))
  have h3:¬into<1:=fun q=>h1 (.inl (.inl (.inr q)))
  have h4:¬into>us.length:=fun q=>h1 (.inl (.inr q))
  have h5:¬gI us (into-1)=0:=fun q=>h1 (.inr q)
  obtain ⟨t,ht⟩:=KX (xs:=us) (j:=(into-1).toNat) om
  rw [Zk h2,TG om ht]
  rw [UY ht] at h5
  have:=hnn t (ZZ ht)
  simp;omega
theorem Z4n {us:LI} {op into:Int} (h:into≠0/\(((op≠6∨into<1)∨into>us.length)∨gI us (into-1)=0)):VJ us op into=false:=by
 obtain ⟨h0,h⟩:=h
 rw [VJ,Za h0]
 split
 ·rename_i h6
  cases ha:Xc us (into-1) with
  | none=>rfl
  | some t=>
   obtain ⟨a1,a2⟩:=A5 ha
   rcases h with ((h|h)|h)|h
   ·exact absurd h6 h
   ·omega
   ·omega
   ·rw [UY a2] at h;subst h;rfl
 ·rfl
theorem Zbi {n:Zr} {us:LI} {s:Z4} (h:MJ us s):Y4 n us s=-1:=by
 rw [JN,Zk (.inr (.inl (by rw [Z4n h];simp)))]
end Go.Abs
namespace Go.Abs
theorem Z4p {α:Type} {c:Prop} [Decidable c] {v:α}:(if c then some v else none).isSome=decide c:=by split<;>simp_all
theorem Z9h {n:Zr} (hty:Bv n) {op num:Int} {ts:LI} {x:Int} (h:Xq n op num ts=some x):0<=x:=by
 unfold Xq at h
 split at h
 ·split at h<;>cases h;exact Int.le_refl 0
 split at h
 ·split at h<;>cases h;exact Int.le_refl 0
 split at h
 ·split at h<;>cases h;exact Int.le_refl 0
 split at h
 ·rcases ts with _|⟨a,_|⟨b,_|⟨c,r⟩⟩⟩
  ·cases h
  ·cases h
  ·rw [Cr] at h
   split at h
   ·rename_i hq
    cases h
    rw [V8,Zk hq.1]
    have hA:=hq.1
    simp only [XG,Xy,decide_eq_true_eq] at hA
    cases hd:n.decls[(a-1).toNat]? with
    | none=>rw [hd] at hA;simp at hA
    | some d=>
     rw [hd] at hA
     exact (hty.decl d (ZZ hd) (by simpa using hA.2)).2
   ·cases h
  ·cases h
 split at h
 ·split at h
  ·rename_i hq;cases h;exact hq.1
  ·cases h
 split at h
 ·cases ha:Xc n.routines num with
  | none=>rw [ha] at h;cases h
  | some r=>
   rw [ha] at h
   simp only at h
   split at h
   ·cases h;exact hty.result r (ZZ (A5 ha).2)
   ·cases h
 split at h
 ·cases ha:Xc n.routines num with
  | none=>rw [ha] at h;cases h
  | some r=>
   rw [ha] at h
   simp only at h
   split at h
   ·rename_i hq;cases h;exact hq.2.1
   ·cases h
 ·cases h
def K6 (n:Zr) (us:LI) (s:Z4) (ts:LI):Int:=
 if Yb s.op=true then (match ts with
  | [t]=>if t≠0/\s.num=0/\s.kids.length=0/\¬((s.op=16∨s.op=17)/\XG n.decls t=true) then 0 else -1
  | _=>-1)
 else if s.op=7 then (if ts=[0]/\s.num=0 then UO n us s.op s.num s.kids else -1)
 else if s.op=8 then (if ts=[s.num] then UO n us s.op s.num s.kids else -1)
 else if 0<s.kids.length∨(s.op=10/\0<(((Xc n.routines s.num).map (·.lent)).getD []).length) then -1
 else (Xq n s.op s.num ts).getD (-1)
theorem ML {p q:Prop} [Decidable p] [Decidable q] {a b:Int} (h:p↔q):ite p a b=ite q a b:=by
 by_cases hp:p
 ·rw [Zk hp,Zk (h.1 hp)]
 ·rw [Za hp,Za (fun z=>hp (h.2 z))]
theorem AC {n:Zr} {us:LI} {s:Z4} {ts:LI} (hnn:∀t∈us,0<=t) (hts:XV us s.args=some ts) (hi:¬MJ us s):Y4 n us s=K6 n us s ts:=by
 have hv:=Z4o hnn hi
 have ht:=Iq hts
 have hl:=IQ hts
 have hfirst:((s.num≠0/\¬V0 s.op=true)∨¬VJ us s.op s.into=true∨(0<s.kids.length/\s.op≠7/\s.op≠8))↔((s.num≠0/\¬V0 s.op=true)∨(0<s.kids.length/\s.op≠7/\s.op≠8)):=by
  rw [hv];simp
 rw [JN,ML hfirst]
 unfold K6
 by_cases hc:Yb s.op=true
 ·have hop:14<=s.op/\s.op<=17:=by simpa [Yb] using hc
  have hnum:V0 s.op=false:=by simp [V0];omega
  rw [Zk hc]
  by_cases hb:s.num≠0∨0<s.kids.length
  ·rw [Zk (by rcases hb with hb|hb;exact .inl ⟨hb,by rw [hnum];simp⟩;exact .inr ⟨hb,by omega,by omega⟩)]
   split
   ·rw [Za];rintro ⟨h1,h2,h3,h4⟩;omega
   ·rfl
  ·rw [Za (by rintro (⟨h1,_⟩|⟨h1,_⟩)<;>exact hb (by first|exact .inl h1|exact .inr h1)),Za om,Za om,Za om,Za om,Za om,Za om,Za om,Za om,Zk om]
   have Zf:s.num=0:=W3.1 fun q=>hb (.inl q)
   have ZF:s.kids.length=0:=by have:¬0<s.kids.length:=fun q=>hb (.inr q);omega
   rcases he:s.args with _|⟨a,_|⟨b,r⟩⟩
   ·rw [he] at hts;rw [XV] at hts;cases hts;rfl
   ·rw [he] at hts
    rw [XV] at hts
    cases ha:Xc us a with
    | none=>rw [ha] at hts;cases hts
    | some t=>
     rw [ha,XV] at hts;cases hts
     rw [TH,ha]
     simp only
     by_cases ht0:t=0
     ·rw [Zk ht0,Za (fun q=>q.1 ht0)]
     ·rw [Za ht0]
      by_cases hA:XG n.decls t=true
      ·by_cases h16:s.op=16∨s.op=17
       ·rw [Zk ⟨by omega,hA⟩,Za (fun q=>q.2.2.2 ⟨h16,hA⟩)]
       ·rw [Za (by rintro ⟨q,_⟩;omega),Zk ⟨ht0,Zf,ZF,fun q=>h16 q.1⟩]
      ·rw [Za (fun q=>hA q.2),Zk ⟨ht0,Zf,ZF,fun q=>hA q.2⟩]
   ·rw [he] at hl
    rw [show TH n.decls us s.op (a::b::r)=-1 from rfl]
    match ts,hl with
    | [t],hl=>simp at hl
    | [],hl=>simp at hl
    | _::_::_,_=>rfl
 have hop:¬(14<=s.op/\s.op<=17):=by simpa [Yb] using hc
 by_cases h7:s.op=7
 ·have hnum:V0 s.op=false:=by simp [V0];omega
  conv=>rhs;rw [Za hc,Zk h7]
  by_cases hb:s.num=0
  ·rw [Za (fun q=>q.elim (fun z=>z.1 hb) fun z=>z.2.1 h7),Za om,Za om,Za om,Za om,Zk h7]
   by_cases hq:ts=[0]
   ·rw [Zk ((ht _).2 hq),Zk ⟨hq,hb⟩]
   ·rw [Za (fun q=>hq ((ht _).1 q)),Za (fun q=>hq q.1)]
  ·rw [Zk (.inl ⟨hb,by rw [hnum];simp⟩),Za (fun q=>hb q.2)]
 by_cases h8:s.op=8
 ·have hnum:V0 s.op=true:=by simp [V0,h8]
  conv=>rhs;rw [Za hc,Za h7,Zk h8]
  rw [Za (fun q=>q.elim (fun z=>z.2 hnum) fun z=>z.2.2 h8),Za om,Za om,Za om,Za om,Za h7,Zk h8]
  by_cases hq:ts=[s.num]
  ·rw [Zk ((ht _).2 hq),Zk hq]
  ·rw [Za (fun q=>hq ((ht _).1 q)),Za hq]
 conv=>rhs;rw [Za hc,Za h7,Za h8]
 by_cases hk:0<s.kids.length
 ·rw [Zk (.inr ⟨hk,h7,h8⟩),Zk (.inl hk)]
 by_cases hlent:s.op=10/\0<(((Xc n.routines s.num).map (·.lent)).getD []).length
 ·conv=>rhs;rw [Zk (.inr hlent)]
  have hnum:V0 s.op=true:=by simp [V0,hlent.1]
  have h10:=hlent.1
  rw [Za (fun q=>q.elim (fun z=>z.2 hnum) fun z=>hk z.1),Za om,Za om,Za om,Za om,Za h7,Za h8,Zk (.inr h10),US]
  cases ha:Xc n.routines s.num with
  | none=>rfl
  | some r=>
   have h2:=hlent.2
   rw [ha] at h2
   simp only [AK,Option.getD_some] at h2
   simp only
   rw [K3,Za om,Zk (.inr (.inl h2))]
 conv=>rhs;rw [Za (fun q=>Or.elim q hk hlent)]
 have sf:∀{X:Option Int},Xq n s.op s.num ts=X->Y4 n us s=X.getD (-1)->Y4 n us s=(Xq n s.op s.num ts).getD (-1):=fun a b=>by rw [a];exact b
 have hL:=JN n us s
 rw [ML hfirst] at hL
 rw [<-hL]
 by_cases hnb:s.num≠0/\¬V0 s.op=true
 ·have hnn2:¬(s.op=0∨(s.op=6∨(s.op=8∨(s.op=9∨s.op=10)))):=fun q=>hnb.2 (by simpa [V0] using q)
  refine sf (X:=none) ?_ (by rw [hL,Zk (.inl hnb)];rfl)
  unfold Xq
  rw [Za om]
  split
  ·rw [Za (fun q=>hnb.1 q.1)]
  split
  ·rw [Za (fun q=>hnb.1 q.1)]
  split
  ·by_cases hl2:ts.length=2
   ·match ts,hl2 with
    | [a,b],_=>exact Za fun q=>hnb.1 q.2.2
   ·exact DO hl2
  rw [Za om,Za om,Za om]
 rw [Za (fun q=>q.elim hnb fun z=>hk z.1)] at hL
 have hnumf:¬(s.op=0∨(s.op=6∨(s.op=8∨(s.op=9∨s.op=10))))->s.num=0:=fun q=>W3.1 fun z=>hnb ⟨z,fun y=>q (by simpa [V0] using y)⟩
 by_cases h0:s.op=0
 ·rw [Zk h0] at hL
  by_cases hq:s.args.length=0/\(-999<=s.num/\s.num<=999)
  ·exact sf (by unfold Xq;rw [Zk h0,Zk ⟨hq.2,by omega⟩]) (by rw [hL,Zk hq];rfl)
  ·exact sf (by unfold Xq;rw [Zk h0,Za (fun q=>hq ⟨by omega,q.1⟩)]) (by rw [hL,Za hq];rfl)
 rw [Za h0] at hL
 by_cases h1:s.op=1∨s.op=2∨s.op=3∨s.op=4
 ·rw [Zk h1] at hL
  by_cases hq:ts=[0,0]
  ·exact sf (by unfold Xq;rw [Za h0,Zk h1,Zk ⟨hnumf om,hq⟩]) (by rw [hL,Zk ((ht _).2 hq)];rfl)
  ·exact sf (by unfold Xq;rw [Za h0,Zk h1,Za (fun q=>hq q.2)]) (by rw [hL,Za (fun q=>hq ((ht _).1 q))];rfl)
 rw [Za h1] at hL
 by_cases h5:s.op=5
 ·rw [Zk h5] at hL
  by_cases hq:ts=[0]
  ·exact sf (by unfold Xq;rw [Za h0,Za h1,Zk h5,Zk ⟨hnumf om,hq⟩]) (by rw [hL,Zk ((ht _).2 hq)];rfl)
  ·exact sf (by unfold Xq;rw [Za h0,Za h1,Zk h5,Za (fun q=>hq q.2)]) (by rw [hL,Za (fun q=>hq ((ht _).1 q))];rfl)
 rw [Za h5] at hL
 by_cases h6:s.op=6
 ·rw [Zk h6] at hL
  have hct:0<XP n.decls s.num↔0<=XP n.decls s.num:=by
   rcases Int.lt_or_le (XP n.decls s.num) 1 with q|q
   ·have:=(E0 q).2;omega
   ·omega
  by_cases hq:0<=XP n.decls s.num/\ts=ZP n.decls s.num
  ·exact sf (by unfold Xq;rw [Za h0,Za h1,Za h5,Za om,Zk h6,Zk hq]) (by rw [hL,Zk ⟨hct.2 hq.1,(ht _).2 hq.2⟩];rfl)
  ·exact sf (by unfold Xq;rw [Za h0,Za h1,Za h5,Za om,Zk h6,Za hq]) (by rw [hL,Za (fun q=>hq ⟨hct.1 q.1,(ht _).1 q.2⟩)];rfl)
 rw [Za h6,Za h7,Za h8] at hL
 by_cases h9:s.op=9
 ·rw [Zk (.inl h9),US] at hL
  cases ha:Xc n.routines s.num with
  | none=>exact sf (by unfold Xq;rw [Za h0,Za h1,Za h5,Za om,Za h6,Zk h9,ha]) (by rw [hL,ha];rfl)
  | some r=>
   rw [ha] at hL
   simp only at hL
   rw [K3,Zk h9] at hL
   have hF:∀{X:Option Int},(if ts=r.params then some r.result else none)=X->Xq n s.op s.num ts=X:=fun q=>by
    unfold Xq;rw [Za h0,Za h1,Za h5,Za om,Za h6,Zk h9,ha];exact q
   by_cases hq:ts=r.params
   ·exact sf (hF (Zk hq)) (by rw [hL,Zk ((ht _).2 hq)];rfl)
   ·exact sf (hF (Za hq)) (by rw [hL,Za (fun q=>hq ((ht _).1 q))];rfl)
 by_cases h10:s.op=10
 ·rw [Zk (.inr h10),US] at hL
  cases ha:Xc n.routines s.num with
  | none=>exact sf (by unfold Xq;rw [Za h0,Za h1,Za h5,Za om,Za h6,Za h9,Zk h10,ha]) (by rw [hL,ha];rfl)
  | some r=>
   rw [ha] at hL hlent
   simp only [AK,Option.getD_some] at hL hlent
   rw [K3,Za h9] at hL
   have hF:∀{X:Option Int},(if r.params.length≠0/\0<=QO n.decls r.params r.result/\ts=r.params.take (r.params.length-1) then some (QO n.decls r.params r.result) else none)=X->Xq n s.op s.num ts=X:=fun q=>by
    unfold Xq;rw [Za h0,Za h1,Za h5,Za om,Za h6,Za h9,Zk h10,ha];exact q
   by_cases hp:r.params.length=0
   ·exact sf (hF (Za fun q=>q.1 hp)) (by rw [hL,Zk (.inl hp)];rfl)
   by_cases hq:ts=r.params.take (r.params.length-1)
   ·rw [Za (fun z=>z.elim hp fun z=>z.elim (fun z=>hlent ⟨h10,z⟩) fun z=>z ((ht _).2 hq))] at hL
    by_cases har:0<=QO n.decls r.params r.result
    ·exact sf (hF (Zk ⟨hp,har,hq⟩)) hL
    ·refine sf (hF (Za fun q=>har q.2.1)) ?_
     have key:∀(l:List Zd) (i:Nat) (f t:Int),¬0<=Qr f t l i->Qr f t l i=-1:=by
      intro l
      induction l with
      | nil=>intro i f t _;rfl
      | cons d r ih=>
       intro i f t hn
       rw [Qr] at hn ⊢
       split
       ·rename_i hh;rw [Zk hh] at hn;omega
       ·rename_i hh;rw [Za hh] at hn;exact ih _ _ _ hn
     exact hL.trans (key _ _ _ _ har)
   ·exact sf (hF (Za fun q=>hq q.2.2)) (by rw [hL,Zk (.inr (.inr fun q=>hq ((ht _).1 q)))];rfl)
 rw [Za om] at hL
 by_cases h11:s.op=11
 ·rw [Zk h11] at hL
  have hn0:=hnumf om
  have hF:∀{X:Option Int},Cr n s.num ts=X->Xq n s.op s.num ts=X:=fun q=>by
   unfold Xq;rw [Za h0,Za h1,Za h5,Zk h11];exact q
  rcases he:s.args with _|⟨a,_|⟨b,_|⟨c,r⟩⟩⟩
  ·rw [he] at hts hL;rw [XV] at hts;cases hts;exact sf (hF rfl) hL
  ·rw [he] at hl hL
   exact sf (hF (DO (by simp at hl;omega))) hL
  ·rw [he] at hts hL
   rw [XV] at hts
   cases ha:Xc us a with
   | none=>rw [ha] at hts;cases hts
   | some t=>
    rw [ha,XV] at hts
    cases hb:Xc us b with
    | none=>rw [hb] at hts;cases hts
    | some t2=>
     rw [hb,XV] at hts;cases hts
     rw [Q2,ha] at hL
     simp only at hL
     by_cases hA:XG n.decls t=true
     ·rw [Zk hA] at hL
      have hA2:=hA
      simp only [XG,Xy,decide_eq_true_eq] at hA2
      cases hd:n.decls[(t-1).toNat]? with
      | none=>rw [hd] at hA2;simp at hA2
      | some d=>
       rw [hd] at hL
       simp only at hL
       have hD:V8 n.decls t=d:=by rw [V8,Zk hA,hd];rfl
       have h2:=Iq (us:=us) (args:=[b]) (ts:=[t2]) (by rw [XV,hb,XV]) [d.frm]
       by_cases hq:t2=d.frm
       ·exact sf (hF (Zk ⟨hA,by rw [hD];exact hq,hn0⟩)) (by rw [hL,Zk (h2.2 (by rw [hq])),hD];rfl)
       ·exact sf (hF (Za fun q=>hq (by rw [hD] at q;exact q.2.1))) (by rw [hL,Za (fun q=>hq (by simpa using h2.1 q))];rfl)
     ·exact sf (hF (Za fun q=>hA q.1)) (by rw [hL,Za hA];rfl)
  ·rw [he] at hl hL
   exact sf (hF (DO (by simp at hl;omega))) hL
 rw [Za h11,Za om] at hL
 exact sf (X:=none) (by unfold Xq;rw [Za h0,Za h1,Za h5,Za h11,Za h6,Za h9,Za h10]) hL
end Go.Abs
namespace Go.Abs
theorem Ns:∀(n:Nat) (f:Int) (k:Nat) (x:Int),(V1 f n)[k]? = some x->x=f+k/\k<n
 | 0,f,k,x,h=>by simp [V1] at h
 | n+1,f,k,x,h=>by
  rw [V1] at h
  cases k with
  | zero=>simp at h;subst h;exact ⟨by omega,by omega⟩
  | succ k=>have:=Ns n (f+1) k x (by simpa using h);exact ⟨by omega,by omega⟩
theorem S6 {ds:List Zd} (hd:W1 ds) {t:Int} {k:Nat} {x:Int} (h:(ZQ ds t)[k]? = some x):0<=x/\x<=100:=by
 rw [ZQ] at h
 split at h
 ·rename_i ht
  obtain ⟨d,hd1⟩:=KX (xs:=ds) (j:=(t-1).toNat) om
  rw [hd1] at h
  have:=Ns _ _ _ _ h
  have h3:=hd.cons_at hd1
  have h4:=(hd.take (t-1).toNat).sum
  simp only [AK,Option.getD_some] at this
  omega
 ·simp at h
end Go.Abs
namespace Go.Abs
section
variable {S:Option Int} {c:Prop} [Decidable c] {v:Int} {b:Bool}
theorem Au (h:S=if c then some v else none) (hb:b=true↔c):b=S.isSome:=by rw [h,Z4p,Xf,hb,decide_eq_true_iff]
theorem Av (h:S=if c then some v else none):∀x,S=some x->v=x:=by
 intro x hx;rw [h] at hx;split at hx
 ·exact JU hx
 ·cases hx
theorem Dt (h:S=none):false=S.isSome:=by rw [h];rfl
theorem Du (h:S=none):∀x,S=some x->v=x:=by intro x hx;rw [h] at hx;cases hx
end
section
variable {n:Zr} {op num:Int} {ts:LI}
theorem sf0 (h:op=0):Xq n op num ts=if (-999<=num/\num<=999)/\ts.length=0 then some 0 else none:=by unfold Xq;rw [Zk h]
theorem sf1 (h:op=1∨op=2∨op=3∨op=4):Xq n op num ts=if num=0/\ts=[0,0] then some 0 else none:=by unfold Xq;rw [Za om,Zk h]
theorem sf5 (h:op=5):Xq n op num ts=if num=0/\ts=[0] then some 0 else none:=by unfold Xq;rw [Za om,Za om,Zk h]
theorem OT (h:op=11):Xq n op num ts=Cr n num ts:=by unfold Xq;rw [Za om,Za om,Za om,Zk h]
theorem Z9d (h:op=11) (hl:(ts.length:Int)≠2):Xq n op num ts=none:=(OT h).trans (DO om)
theorem I2 (h:op=11) {a b:Int} (hl:¬(ts.length:Int)≠2) (ha:ts[0]? = some a) (hb:ts[1]? = some b) :
  Xq n op num ts=if XG n.decls a=true/\b=(V8 n.decls a).frm/\num=0 then some (V8 n.decls a).to_ else none:=by
 rw [OT h]
 match ts,hl,ha,hb with
 | [x,y],_,ha,hb=>simp at ha hb;subst ha;subst hb;rfl
 | [],hl,_,_=>simp at hl
 | [_],hl,_,_=>simp at hl
 | _::_::_::_,hl,_,_=>simp at hl;omega
theorem Z9c (h:op=11) {a:Int} (hl:¬(ts.length:Int)≠2) (ha:ts[0]? = some a) (hn:¬XG n.decls a=true):Xq n op num ts=none:=by
 obtain ⟨b,hb⟩:=KX (xs:=ts) (j:=1) om
 rw [I2 h hl ha hb,Za fun q=>hn q.1]
theorem sf6 (h:op=6):Xq n op num ts=if 0<=XP n.decls num/\ts=ZP n.decls num then some (XP n.decls num) else none:=by
 unfold Xq;rw [Za om,Za om,Za om,Za om,Zk h]
theorem Z9e (h:op=9∨op=10) (hr:num<0∨num>=(((n.routines.map XH).length:Nat):Int)):Xq n op num ts=none:=by
 have ha:Xc n.routines num=none:=Qs (by simp at hr;omega)
 unfold Xq
 rw [Za om,Za om,Za om,Za om,Za om]
 rcases h with h|h
 ·rw [Zk h,ha]
 ·rw [Za om,Zk h,ha]
theorem sf9 (h:op=9) {x:WE} (hr:¬(num<0∨num>=(((n.routines.map XH).length:Nat):Int))) (hx:(n.routines.map XH)[num.toNat]? = some x) :
  Xq n op num ts=if ts=x.pms then some x.res else none:=by
 obtain ⟨r,h1,rfl⟩:=Fm hx
 have ha:Xc n.routines num=some r:=TG (by simp at hr;omega) h1
 unfold Xq
 rw [Za om,Za om,Za om,Za om,Za om,Zk h,ha];rfl
theorem Z9b (h:op=10) {x:WE} (hr:¬(num<0∨num>=(((n.routines.map XH).length:Nat):Int))) (hx:(n.routines.map XH)[num.toNat]? = some x) (hp:(x.pms.length:Int)-1<0) :
  Xq n op num ts=none:=by
 obtain ⟨r,h1,rfl⟩:=Fm hx
 have ha:Xc n.routines num=some r:=TG (by simp at hr;omega) h1
 have hp':r.params.length=0:=by simp only [XH] at hp;omega
 unfold Xq
 rw [Za om,Za om,Za om,Za om,Za om,Za om,Zk h,ha]
 exact Za fun q=>q.1 hp'
theorem Z9a (h:op=10) {x:WE} {l:Int} (hr:¬(num<0∨num>=(((n.routines.map XH).length:Nat):Int))) (hx:(n.routines.map XH)[num.toNat]? = some x) (hp:¬(x.pms.length:Int)-1<0)
  (hl:x.pms[((x.pms.length:Int)-1).toNat]? = some l) :
  Xq n op num ts=if 0<=VM n.decls l x.res/\ts=x.pms.take ((x.pms.length:Int)-1).toNat then some (VM n.decls l x.res) else none:=by
 obtain ⟨r,h1,rfl⟩:=Fm hx
 have ha:Xc n.routines num=some r:=TG (by simp at hr;omega) h1
 simp only [XH] at hp hl ⊢
 have hq:((r.params.length:Int)-1).toNat=r.params.length-1:=by omega
 have ht:r.params.take ((r.params.length:Int)-1).toNat=r.params.take (r.params.length-1):=Ya (fun k=>r.params.take k) hq
 have hl':r.params[r.params.length-1]? = some l:=by rw [<-hl];exact Ya (fun k=>r.params[k]?) hq.symm
 have hlast:QO n.decls r.params r.result=VM n.decls l r.result:=by rw [QO,Ms hl']
 unfold Xq
 rw [Za om,Za om,Za om,Za om,Za om,Za om,Zk h,ha]
 simp only [hlast]
 by_cases hc:0<=VM n.decls l r.result/\ts=r.params.take (r.params.length-1)
 ·rw [Zk ⟨by omega,hc⟩]
  exact (Zk ⟨hc.1,hc.2.trans ht.symm⟩).symm
 ·rw [Za fun q=>hc q.2]
  exact (Za (fun q=>hc ⟨q.1,q.2.trans ht⟩)).symm
theorem sfd (h0:¬op=0) (h1:¬(op=1∨op=2∨op=3∨op=4)) (h5:¬op=5) (h11:¬op=11) (h6:¬op=6) (h9:¬(op=9∨op=10)):Xq n op num ts=none:=by
 unfold Xq;rw [Za h0,Za h1,Za h5,Za h11,Za h6,Za om,Za om]
end
end Go.Abs
end
namespace Go.Abs
mutual
def Z4.rng:Z4->Prop
 | .mk _ num _ _ kids=>(-9223372036854775808<=num/\num<=9223372036854775807)/\UW kids
def Z5.rng:Z5->Prop
 | .mk steps _=>Tl steps
def Tl:List Z4->Prop
 | []=>True
 | s::r=>s.rng/\Tl r
def UW:List Z5->Prop
 | []=>True
 | b::r=>b.rng/\UW r
end
theorem Z4.rng_eq (s:Z4):s.rng=((-9223372036854775808<=s.num/\s.num<=9223372036854775807)/\UW s.kids):=by cases s;rw [Z4.rng];rfl
theorem Z5.rng_eq (b:Z5):b.rng=Tl b.steps:=by cases b;rw [Z5.rng];rfl
theorem Ph:∀{xs:List Z4} {k:Nat} {s:Z4},Tl xs->xs[k]? = some s->s.rng
 | [],k,s,_,h=>by simp at h
 | x::r,0,s,hr,h=>by rw [Tl] at hr;simp at h;subst h;exact hr.1
 | x::r,k+1,s,hr,h=>by rw [Tl] at hr;exact Ph (k:=k) hr.2 (by simpa using h)
theorem L6:∀{xs:List Z5} {k:Nat} {b:Z5},UW xs->xs[k]? = some b->b.rng
 | [],k,s,_,h=>by simp at h
 | x::r,0,s,hr,h=>by rw [UW] at hr;simp at h;subst h;exact hr.1
 | x::r,k+1,s,hr,h=>by rw [UW] at hr;exact L6 (k:=k) hr.2 (by simpa using h)
theorem Ir {us:LI}:∀{args:LI},XV us args=none->∀tys,XL us args tys=false
 | [],h,tys=>by rw [XV] at h;cases h
 | a::r,h,tys=>by
  cases tys with
  | nil=>simp [XL,UU]
  | cons t ts=>
   rw [XV] at h
   rw [XL,UU]
   cases ha:Xc us a with
   | none=>simp
   | some u=>
    rw [ha] at h
    cases hr:XV us r with
    | none=>
     have:=Ir hr ts
     rw [XL] at this
     by_cases he:u=t
     ·subst he;simpa using this
     ·rw [Za (fun q=>he (JU q))]
    | some tr=>rw [hr] at h;cases h
theorem Zbh {n:Zr} {us:LI} {s:Z4} (h:XV us s.args=none):Y4 n us s=-1:=by
 have ht:=Ir h
 rw [JN]
 split
 ·rfl
 split
 ·rw [Za];rintro ⟨q,_⟩
  have:s.args=[]:=List.length_eq_zero_iff.1 q
  rw [this,XV] at h;cases h
 split
 ·rw [Za (by rw [ht];simp)]
 split
 ·rw [Za (by rw [ht];simp)]
 split
 ·rw [Za (by rw [ht];simp)]
 split
 ·rw [Za (by rw [ht];simp)]
 split
 ·rw [Za (by rw [ht];simp)]
 split
 ·rw [US]
  cases Xc n.routines s.num with
  | none=>rfl
  | some r=>
   simp only
   rw [K3]
   split
   ·rw [Za (by rw [ht];simp)]
   ·rw [Zk (.inr (.inr (by rw [ht];simp)))]
 split
 ·match hA:s.args with
  | []=>rfl
  | [_]=>rfl
  | [a,b]=>
   rw [Q2]
   rw [hA,XV] at h
   cases ha:Xc us a with
   | none=>rfl
   | some t=>
    rw [ha] at h
    simp only at h ⊢
    split
    ·cases n.decls[(t-1).toNat]? with
     | none=>rfl
     | some d=>
      simp only
      rw [Za]
      cases hb:XV us [b] with
      | none=>rw [Ir hb];simp
      | some tr=>rw [hb] at h;cases h
    ·rfl
  | _::_::_::_=>rfl
 split
 ·match hA:s.args with
  | []=>rfl
  | [a]=>
   rw [TH]
   rw [hA,XV] at h
   cases ha:Xc us a with
   | none=>rfl
   | some t=>rw [ha,XV] at h;cases h
  | _::_::_=>rfl
 ·rfl
theorem IP {us:LI} {a:Int}:∀{xs:LI} {k:Nat},xs[k]? = some a->Xc us a=none->XV us xs=none
 | [],k,h,_=>by simp at h
 | x::r,0,h,ha=>by simp at h;subst h;rw [XV,ha]
 | x::r,k+1,h,ha=>by
  have:=IP (xs:=r) (k:=k) (by simpa using h) ha
  rw [XV]
  cases Xc us x with
  | none=>rfl
  | some t=>simp only [this]
theorem Z55 {n:Zr} {us:LI} {ks:List Z5} {ms:List LI} (h:0<ks.length) (t:Int) :
  XS n us (ks.drop 0) (ms.drop 0) (decide (0=0)) t=XS n us ks ms true 0:=by
 cases ks with
 | nil=>simp at h
 | cons b bs=>
  cases ms with
  | nil=>rw [JR,JR,XS,XS]
  | cons m r=>
   simp only [JR,decide_true]
   rw [XS,XS];simp
theorem L9 {b:Z5}:∀{ks:List Z5} {k:Nat},ks[k]? = some b->b.sz<=YQ ks
 | [],k,h=>by simp at h
 | x::r,0,h=>by simp at h;subst h;rw [YQ];omega
 | x::r,k+1,h=>by have:=L9 (ks:=r) (k:=k) (by simpa using h);rw [YQ];omega
theorem DA (us m:LI):[us,m].flatten=us++m:=by simp
theorem M5 {xs:LI} {i:Int} (h:i.toNat<xs.length):xs[i.toNat]? = some (gI xs i):=by rw [gI,AH h];rfl
theorem Em {xs:LI} (h:0<xs.length):xs[0]? = some (gI xs 0):=M5 (i:=0) h
def Qk (n:Zr) (num:Int):WE:=((n.routines.map XH)[num.toNat]?).getD ⟨[],[],0⟩
theorem Z9f {n:Zr} {i:Int} (h:i.toNat<(n.routines.map XH).length):(n.routines.map XH)[i.toNat]? = some (Qk n i):=by rw [Qk,AH h];rfl
theorem Nl {us m:LI} (h1:∀t∈us,0<=t) (h2:∀t∈m,0<=t):∀t∈us++m,0<=t:=fun t h=>(X3.1 h).elim (h1 t) (h2 t)
theorem A4 {us:LI} {args ts:LI} {k:Nat} (h:XV us (args.take k)=some ts) (hk:args.length<=k):XV us args=some ts:=by
 rw [WK hk] at h;exact h
theorem Rn {us:LI} {args ts:LI} {k:Nat} {a t:Int} (h:XV us (args.take k)=some ts) (ha:args[k]? = some a) (ht:Xc us a=some t):XV us (args.take (k+1))=some (ts++[t]):=by
 rw [Wq ha];exact IR h ht
theorem Nw {ts:LI} (h:(ts.length:Int)=1):ts=[gI ts 0]:=by
 match ts,h with
 | [a],_=>rfl
section
variable {n:Zr} {us ts:LI} {s:Z4}
theorem JF {p1 p2 p3 p4 p5:Prop}:(p1/\(p2∨(p3∨(p4∨p5))))↔(p1/\(((p2∨p3)∨p4)∨p5)):=by simp only [or_assoc]
def DY (n:Zr) (s:Z4) (ts:LI):Int:=match ts with
  | [t]=>if t≠0/\s.num=0/\s.kids.length=0/\¬((s.op=16∨s.op=17)/\XG n.decls t=true) then 0 else -1
  | _=>-1
theorem AB:K6 n us s ts =
 if Yb s.op=true then DY n s ts
 else if s.op=7 then (if ts=[0]/\s.num=0 then UO n us s.op s.num s.kids else -1)
 else if s.op=8 then (if ts=[s.num] then UO n us s.op s.num s.kids else -1)
 else if 0<s.kids.length∨(s.op=10/\0<(((Xc n.routines s.num).map (·.lent)).getD []).length) then -1
 else (Xq n s.op s.num ts).getD (-1):=by unfold K6 DY;rfl
theorem Lh (h:(ts.length:Int)=1):DY n s ts=if gI ts 0≠0/\s.num=0/\s.kids.length=0/\¬((s.op=16∨s.op=17)/\XG n.decls (gI ts 0)=true) then 0 else -1:=by
 match ts,h with
 | [a],_=>rfl
theorem RT (h:(ts.length:Int)≠1):DY n s ts=-1:=by
 match ts,h with
 | [],_=>rfl
 | [a],h=>exact absurd rfl h
 | _::_::_,_=>rfl
theorem Zaz (hS:Y4 n us s=K6 n us s ts) (hc:Yb s.op=true)
  (h:((((ts.length:Int)=1/\gI ts 0≠0)/\s.num=0)/\(s.kids.length:Int)=0)/\(s.op=16∨s.op=17)) :
  (!XG n.decls (gI ts 0))=decide (0<=Y4 n us s):=by
 obtain ⟨⟨⟨⟨h1,h2⟩,h3⟩,h4⟩,h5⟩:=h
 have h4':s.kids.length=0:=by omega
 rw [hS,AB,Zk hc,Lh h1]
 cases hA:XG n.decls (gI ts 0)
 ·rw [Zk ⟨h2,h3,h4',by simp⟩];rfl
 ·rw [Za (fun q=>q.2.2.2 ⟨h5,rfl⟩)];rfl
theorem Zb0 (hS:Y4 n us s=K6 n us s ts) (hc:Yb s.op=true)
  (h:¬(((((ts.length:Int)=1/\gI ts 0≠0)/\s.num=0)/\(s.kids.length:Int)=0)/\(s.op=16∨s.op=17))) :
  ((((((ts.length:Int)==1)&&(gI ts 0 != 0))&&(s.num==0))&&((s.kids.length:Int)==0)))=decide (0<=Y4 n us s):=by
 rw [hS,AB,Zk hc]
 by_cases h1:(ts.length:Int)=1
 ·rw [Lh h1]
  by_cases h2:(gI ts 0≠0/\s.num=0)/\(s.kids.length:Int)=0
  ·obtain ⟨⟨h2,h3⟩,h4⟩:=h2
   have h4':s.kids.length=0:=by omega
   rw [Zk ⟨h2,h3,h4',fun q=>h ⟨⟨⟨⟨h1,h2⟩,h3⟩,h4⟩,q.1⟩⟩,Zs.2 h1,Yf.2 h2,Zs.2 h3,Zs.2 h4];rfl
  ·rw [Za (fun q=>h2 ⟨⟨q.1,q.2.1⟩,by have:=q.2.2.1;omega⟩)]
   show _=false
   rw [TB];intro q
   obtain ⟨⟨⟨_,q1⟩,q2⟩,q3⟩:=(YB (YB (YB Zs Yf) Zs) Zs).1 q
   exact h2 ⟨⟨q1,q2⟩,q3⟩
 ·rw [RT h1]
  show _=false
  rw [TB];intro q
  obtain ⟨⟨⟨q1,_⟩,_⟩,_⟩:=(YB (YB (YB Zs Yf) Zs) Zs).1 q
  exact h1 q1
theorem Zav (hS:Y4 n us s=K6 n us s ts) (hc:¬Yb s.op=true) (h7:s.op=7)
  (h:(((ts.length:Int)≠1∨gI ts 0≠0)∨s.num≠0)∨(s.kids.length:Int)≠2):Y4 n us s=-1:=by
 rw [hS,AB,Za hc,Zk h7]
 split
 ·rename_i q
  obtain ⟨q1,q2⟩:=q
  rw [q1] at h
  rw [UO,Zk]
  right
  rw [X7,Zk h7]
  have:gI [0] 0=0:=rfl
  simp [this] at h
  show s.kids.length≠2
  omega
 ·rfl
theorem Zaw (hS:Y4 n us s=K6 n us s ts) (hc:¬Yb s.op=true) (h7:s.op=7)
  (h:¬((((ts.length:Int)≠1∨gI ts 0≠0)∨s.num≠0)∨(s.kids.length:Int)≠2)):Y4 n us s=XS n us s.kids (List.replicate 2 []) true 0:=by
 have h1:(ts.length:Int)=1:=W3.1 fun q=>h (.inl (.inl (.inl q)))
 have h2:gI ts 0=0:=W3.1 fun q=>h (.inl (.inl (.inr q)))
 have h3:s.num=0:=W3.1 fun q=>h (.inl (.inr q))
 have h4:(s.kids.length:Int)=2:=W3.1 fun q=>h (.inr q)
 rw [hS,AB,Za hc,Zk h7,Zk ⟨by rw [Nw h1,h2],h3⟩,UO,Za]
 ·rw [X7,Zk h7];rfl
 ·rw [X7,Zk h7];simp;omega
theorem Zax (hS:Y4 n us s=K6 n us s ts) (hc:¬Yb s.op=true) (h7:¬s.op=7) (h8:s.op=8)
  (h:(ts.length:Int)≠1∨(gI ts 0≠s.num∨(((((ZQ n.decls s.num).map (ZP n.decls)).length:Nat):Int)=0∨(s.kids.length:Int)≠((((ZQ n.decls s.num).map (ZP n.decls)).length:Nat):Int)))):Y4 n us s=-1:=by
 rw [hS,AB,Za hc,Za h7,Zk h8]
 split
 ·rename_i q
  have hg:gI ts 0=s.num:=by rw [q];rfl
  have hl:(ts.length:Int)=1:=by rw [q];rfl
  rw [UO,Zk]
  rw [X7,Za h7]
  omega
 ·rfl
theorem Zay (hS:Y4 n us s=K6 n us s ts) (hc:¬Yb s.op=true) (h7:¬s.op=7) (h8:s.op=8)
  (h:¬((ts.length:Int)≠1∨(gI ts 0≠s.num∨(((((ZQ n.decls s.num).map (ZP n.decls)).length:Nat):Int)=0∨(s.kids.length:Int)≠((((ZQ n.decls s.num).map (ZP n.decls)).length:Nat):Int))))) :
  Y4 n us s=XS n us s.kids ((ZQ n.decls s.num).map (ZP n.decls)) true 0:=by
 have h1:(ts.length:Int)=1:=W3.1 fun q=>h (.inl q)
 have h2:gI ts 0=s.num:=W3.1 fun q=>h (.inr (.inl q))
 rw [hS,AB,Za hc,Za h7,Zk h8,Zk (by rw [Nw h1,h2]),UO,Za]
 ·rw [X7,Za h7]
 ·rw [X7,Za h7];omega
theorem Z5u {n:Zr} {num:Int}:(((Xc n.routines num).map (·.lent)).getD []).length=if 0<=num/\num<(((n.routines.map XH).length:Nat):Int) then (Qk n num).lnt.length else 0:=by
 split
 ·rename_i h
  rw [Kc] at h
  obtain ⟨r,hr⟩:=KX (xs:=n.routines) (j:=num.toNat) om
  rw [TG om hr,Qk,Kb,hr];rfl
 ·rename_i h
  rw [Kc] at h
  rw [Qs om];rfl
theorem Pm:(0<s.kids.length∨(s.op=10/\0<(((Xc n.routines s.num).map (·.lent)).getD []).length)) ↔
  ((s.kids.length:Int)>0∨(s.op=10/\(s.num>=0/\(s.num<(((n.routines.map XH).length:Nat):Int)/\((((Qk n s.num).lnt).length:Nat):Int)>0)))):=by
 rw [Z5u]
 by_cases hq:0<=s.num/\s.num<(((n.routines.map XH).length:Nat):Int)
 ·rw [Zk hq];omega
 ·rw [Za hq];omega
theorem stB (hS:Y4 n us s=K6 n us s ts) (hc:¬Yb s.op=true) (h7:¬s.op=7) (h8:¬s.op=8)
  (h:((s.kids.length:Int)>0∨(s.op=10/\(s.num>=0/\(s.num<(((n.routines.map XH).length:Nat):Int)/\((((Qk n s.num).lnt).length:Nat):Int)>0))))):Y4 n us s=-1:=by
 rw [hS,AB,Za hc,Za h7,Za h8,Zk (Pm.2 h)]
theorem stS (hS:Y4 n us s=K6 n us s ts) (hc:¬Yb s.op=true) (h7:¬s.op=7) (h8:¬s.op=8)
  (h:¬((s.kids.length:Int)>0∨(s.op=10/\(s.num>=0/\(s.num<(((n.routines.map XH).length:Nat):Int)/\((((Qk n s.num).lnt).length:Nat):Int)>0))))):Y4 n us s=(Xq n s.op s.num ts).getD (-1):=by
 rw [hS,AB,Za hc,Za h7,Za h8,Za (fun q=>h (Pm.1 q))]
theorem Zb1 (hty:Bv n) (h:Y4 n us s=(Xq n s.op s.num ts).getD (-1)):(Xq n s.op s.num ts).isSome=decide (0<=Y4 n us s):=by
 rw [h]
 cases hs:Xq n s.op s.num ts with
 | none=>rfl
 | some x=>have:=Z9h hty hs;simp [this]
theorem Zb2 {t:Int} (h:Y4 n us s=(Xq n s.op s.num ts).getD (-1)) (hp:∀x,Xq n s.op s.num ts=some x->t=x):¬Yb s.op=true->0<=Y4 n us s->t=Y4 n us s:=by
 intro _ h0
 rw [h] at h0 ⊢
 cases hs:Xq n s.op s.num ts with
 | none=>rw [hs] at h0;exact absurd h0 (by decide)
 | some x=>exact hp x hs
end
theorem Zbg {n:Zr} {us:LI} {s:Z4} (h:0<=Y4 n us s):(0<=s.op/\s.op<=11)∨(14<=s.op/\s.op<=17):=by
 rw [JN] at h
 by_cases hq:(0<=s.op/\s.op<=11)∨(14<=s.op/\s.op<=17)
 ·exact hq
 ·exfalso
  split at h
  ·omega
  rw [Za om,Za om,Za om,Za om,Za om,Za om,Za om,Za om,Za om] at h
  omega
theorem E4 {n:Zr} {us:LI} {s:Z4} (h:0<=Y4 n us s):Xv s.op=!Yb s.op:=by
 have:=Zbg h
 rw [Xv,Yb,Xf];simp;omega
theorem Zbj {n:Zr} {xs:List Z4} {vs:LI} {k:Nat} {s:Z4} {t:Int} {r:Option LI} (hs:xs[k]? = some s) (h:0<=Y4 n vs s) (ht:¬Yb s.op=true->0<=Y4 n vs s->t=Y4 n vs s)
  (hr:Wg n (xs.drop k) vs=r):Wg n (xs.drop (k+1)) (if Yb s.op=true then vs else vs++[t])=r:=by
 rw [Y3 hs,Wg,Za om] at hr
 rw [<-hr,E4 h]
 by_cases hc:Yb s.op=true
 ·rw [Zk hc,hc];rfl
 ·rw [Za hc,Zk (by simpa using hc),ht hc h]
theorem Zbk {n:Zr} {xs:List Z4} {vs:LI} {k:Nat} {s:Z4} {r:Option LI} (hs:xs[k]? = some s) (h:¬0<=Y4 n vs s) (hr:Wg n (xs.drop k) vs=r):r=none:=by
 rw [Y3 hs,Wg,Zk om] at hr;exact hr.symm
theorem Z66 {c:Prop} [Decidable c] {vs:LI} {t:Int} (h:∀x∈vs,0<=x) (ht:¬c->0<=t):∀x∈(if c then vs else vs++[t]),0<=x:=by
 split
 ·exact h
 ·rename_i hc
  exact Nl h (fun x hx=>by rw [XT.1 hx];exact ht hc)
theorem IM {m:Nat} {xs:LI} (h:XU m xs=true):∀x∈xs,0<=x/\x<=m:=by
 rw [XU,Kz] at h
 exact fun x hx=>of_decide_eq_true (h x hx)
theorem Z67 {n:Zr} (h:VR n=true):Bv n:=by
 simp only [VR,Qm,Xy,decide_eq_true_eq] at h
 obtain ⟨h1,⟨h2,h3,h4,h5⟩,h6⟩:=h
 have hs:∀r∈n.routines,XU n.decls.length r.params=true/\0<=r.result:=fun r hr=>by
  have:=Fp h4 (Vi r) (XC.2 ⟨r,hr,rfl⟩)
  simp only [QB,Xy,decide_eq_true_eq] at this
  exact ⟨this.2.1,this.2.2.1⟩
 simp only [Wr,Xy,decide_eq_true_eq] at h2
 obtain ⟨h2a,h2b⟩:=h2
 rw [Gq] at h2b
 have key:∀(i:Nat) (d:Zd),n.decls[i]? = some d->U1 n.decls d i=true:=fun i d hi=>by
  have:=h2b i (XB.1 hi).1
  rwa [WP,Cx hi] at this
 refine ⟨fun r hr=>(hs r hr).2,fun r hr p hp=>(IM (hs r hr).1 p hp).1,fun d hd h0=>?_,fun c f hf=>?_⟩
 ·obtain ⟨i,hi⟩:=List.mem_iff_getElem?.1 hd
  have:=key i d hi
  rw [U1,Za om] at this
  split at this
  ·cases this
  ·simp only [Xy,decide_eq_true_eq] at this;omega
 ·by_cases hc:XP n.decls c<1
  ·rw [(E0 hc).1] at hf;cases hf
  ·obtain ⟨k,d,x,q1,q2,q3,q4,q5⟩:=Gj hc
   rw [q5] at hf
   have:=key k d q1
   have hp:0<d.cons.length:=by have:=(XB.1 q3).1;omega
   rw [U1,Zk hp] at this
   split at this
   ·have:=Ll.1 this x (ZZ q3)
    simp only [Kg,Xy] at this
    exact (IM this.2 f hf).1
   ·cases this
structure PT (n:Zr):Prop where
 result:∀r∈n.routines,r.result<=(n.decls.length:Int)
 decl:∀d∈n.decls,d.cons.length=0->d.to_<=(n.decls.length:Int)
 fields:∀c,∀f∈ZP n.decls c,f<=(n.decls.length:Int)
section
variable {n:Zr} (hu:PT n)
include hu
end
end Go.Abs
section
namespace Go.Abs
structure Bu where
 mat:Int
 fst:Int
 fds:LI
 chg:Bool
def Nv:List Bu->Int->Option Bu
 | [],_=>none
 | a::r,v=>match Nv r v with
  | some x=>some x
  | none=>if a.mat=v then some a else none
structure Zcl (ds:List Zd) (L:ZJ) (as1:List Bu):Prop where
 rng:∀a∈as1,0<=a.mat/\a.mat<a.fst/\a.fst+a.fds.length<=L.vars.length
 par:∀a∈as1,∀v:Int,a.fst<=v->v<a.fst+a.fds.length->gI L.par v=a.mat
 non:∀v:Int,0<=v->v<L.vars.length->0<=gI L.par v->∃a∈as1,a.fst<=v/\v<a.fst+a.fds.length
 off:∀v:Int,0<=v->v<L.vars.length->match Nv as1 v with
  | none=>gI L.con v<0
  | some a=>0<=gI L.con v/\a.fst=gI L.fst v/\a.fds=ZP ds (gI L.con v)
end Go.Abs
namespace Go.Abs
end Go.Abs
namespace Go.Abs
end Go.Abs
namespace Go.Abs
section
variable {n:Zr} {ln:LI} {L:ZJ} {op v:Int} {am:List Bu} {a:Bu}
end
end Go.Abs
namespace Go.Abs
end Go.Abs
end
section
namespace Go.Abs
section
variable {n:Zr} {us:LI} {op num:Int}
end
end Go.Abs
namespace Go.Abs
end Go.Abs
namespace Go.Abs
end Go.Abs
end
section
namespace Go.Abs
section
variable {n:Zr} {ln:LI}
end
end Go.Abs
namespace Go.Abs
end Go.Abs
namespace Go.Abs
end Go.Abs
namespace Go.Abs
section
variable {n:Zr} {ln:LI} {L:ZJ} {s:Z4}
end
end Go.Abs
namespace Go.Abs
end Go.Abs
namespace Go.Abs
end Go.Abs
namespace Go.Abs
end Go.Abs
end
namespace Go.Abs

end Go.Abs
section
namespace Go.Abs
end Go.Abs
namespace Go.Abs
end Go.Abs
namespace Go.Abs
end Go.Abs
end
section
namespace Go.Abs
end Go.Abs
namespace Go.Abs
end Go.Abs
namespace Go.Abs
end Go.Abs
namespace Go.Abs
end Go.Abs
end
namespace Go.Abs
def Zw (op v:Int):Z4:=.mk op 0 0 [v] []
def Uh (ds:List Zd) (num:Int) (k:Nat):LI:=((ZQ ds num).map (ZP ds))[k]?.getD []
section
variable {ds:List Zd} {am:List Bu} {m:Nat}
end
theorem LP {ds:List Zd} {num:Int} {k:Nat} {m:LI} (h:((ZQ ds num).map (ZP ds))[k]? = some m):Uh ds num k=m:=by rw [Uh,h];rfl
theorem Z0g {ds:List Zd} (hd:W1 ds) (num:Int) (k:Nat):(Uh ds num k).length<=3:=by
 rw [Uh,Kb]
 cases (ZQ ds num)[k]? with
 | none=>simp
 | some c=>exact VN hd c
theorem If {xs:List Z4} {k:Nat} {s:Z4} (h:xs[k]? = some s):Yj (xs.take (k+1))=Yj (xs.take k)+s.sz:=by
 induction xs generalizing k with
 | nil=>simp at h
 | cons t r ih=>
  cases k with
  | zero=>simp at h;subst h;simp [Yj]
  | succ k=>rw [Bs,Bs,Yj,Yj,ih (by simpa using h)];omega
theorem QG (xs:List Z4) (k:Nat):Yj (xs.take k)<=Yj xs:=by
 induction xs generalizing k with
 | nil=>simp
 | cons t r ih=>
  cases k with
  | zero=>simp [Yj]
  | succ k=>have:=ih k;rw [Bs,Yj,Yj];omega
theorem Z98 {n:Zr} {us:LI} {s:Z4} (g:0<=Y4 n us s) (h:Yb s.op=true):Qj n us s=us:=by rw [Qj,E4 g,h];rfl
theorem Z97 {n:Zr} {us:LI} {s:Z4} (g:0<=Y4 n us s) (h:¬Yb s.op=true):(Qj n us s).length=us.length+1:=by
 rw [Qj,E4 g,TB.2 h];simp
theorem Z99 {n:Zr} {us:LI} {s:Z4} (g:0<=Y4 n us s):(Qj n us s).length=if Yb s.op=true then us.length else us.length+1:=by
 split
 ·rw [Z98 g (by assumption)]
 ·exact Z97 g (by assumption)
theorem Z56 {n:Zr} {us:LI} {s:Z4} (g:0<=Y4 n us s) (h:0<s.kids.length):s.op=7∨s.op=8:=by
 rw [JN] at g
 split at g
 ·omega
 ·rename_i q
  exact AG fun z=>q (.inr (.inr ⟨h,fun e=>z (.inl e),fun e=>z (.inr e)⟩))
theorem B4 (ys:List WR):(Ze (WL ys)).length=ys.length*3:=by rw [U4 _ (Lw _)];simp
theorem LT (ys:List WQ):(Ze (VA ys)).length=ys.length:=by rw [U4 _ (Lv _)];simp
theorem LS (ys:List Zd):(Ze (Yp ys)).length=ys.length*3:=by rw [U4 _ (Qw _)];simp
theorem Z0m (ys:List Y1):(Ze (Xt ys)).length=ys.length:=by rw [U4 _ (Cz _)];simp
theorem Z0n {ds:List Zd} {k:Nat} {d:Zd} (h:ds[k]? = some d):Ze (Yp (ds.drop k))=UP d++Ze (Yp (ds.drop (k+1))):=by rw [Y3 h];rfl
theorem Z0l {ds:List Y1} {k:Nat} {d:Y1} (h:ds[k]? = some d):Ze (Xt (ds.drop k))=C0 d++Ze (Xt (ds.drop (k+1))):=by rw [Y3 h];rfl
theorem OA {ys:List WR} {ds:List Zd} {k:Nat} {d:Zd} (h:ds[k]? = some d):Ze (WL ys++Yp (ds.drop k))=Ze (WL ys)++(UP d++Ze (Yp (ds.drop (k+1)))):=by
 rw [VV,Z0n h]
theorem Z89 {ys:List WQ} {ds:List Y1} {k:Nat} {d:Y1} (h:ds[k]? = some d):Ze (VA ys++Xt (ds.drop k))=Ze (VA ys)++(C0 d++Ze (Xt (ds.drop (k+1)))):=by
 rw [VV,Z0l h]
theorem Oz {ys:List WR} {ds:List Zd} {k:Nat} (h:ys.length=k) (hk:k<=ds.length):(Ze (WL ys++Yp (ds.drop k))).length=ds.length*3:=by
 rw [VV,Yn,B4,LS,Jc];omega
theorem Oy {ys:List WQ} {ds:List Y1} {k:Nat} (h:ys.length=k) (hk:k<=ds.length):(Ze (VA ys++Xt (ds.drop k))).length=ds.length*1:=by
 rw [VV,Yn,LT,Z0m,Jc];omega
theorem Z8b {ys:List WR} {ds:List Zd} {k:Nat} {f t:Int} {zs:List WQ} {u:Value}:Ze (WL ys)++([.i f,.i t,De zs u]++Ze (Yp (ds.drop (k+1))))=Ze (WL (ys++[WR.mk f t zs u])++Yp (ds.drop (k+1))):=by
 rw [SV,VV,VV,Up];rfl
theorem Z88 {ys:List WQ} {ds:List Y1} {k:Nat} {xs:LI} {u:Value}:Ze (VA ys)++([ZT xs u]++Ze (Xt (ds.drop (k+1))))=Ze (VA (ys++[WQ.mk xs u])++Xt (ds.drop (k+1))):=by
 rw [SU,VV,VV,Up];rfl
theorem Z8a {ys:List WR} {ds:List Zd} {k:Nat} (h:ds.length<=k):Ze (WL ys++Yp (ds.drop k))=Ze (WL ys):=by rw [X5 h];simp [Yp]
theorem Z87 {ys:List WQ} {ds:List Y1} {k:Nat} (h:ds.length<=k):Ze (VA ys++Xt (ds.drop k))=Ze (VA ys):=by rw [X5 h];simp [Xt]
theorem Z8c {A B:List AV} {x y z x':AV} {o:Nat} (hA:A.length=o):(A++([x,y,z]++B)).take (o+2)++[x']++(A++([x,y,z]++B)).drop (o+2+1)=A++([x,y,x']++B):=by
 have h:=Dq (A:=A++[x,y]) (xs:=[z]) (ys:=[x']) (B:=B) (o:=o+2) (by simp [hA]) rfl
 simpa using h
theorem Z8d {A B:List AV} {x y z:AV} {o:Nat} (hA:A.length=o):((A++([x,y,z]++B)).drop (o+2)).take 1=[z]:=by
 have h:=HT (A:=A++[x,y]) (xs:=[z]) (B:=B) (o:=o+2) (by simp [hA])
 simpa using h
theorem Z8e {A B:List AV} {x y z x':AV} {o:Nat} (hA:A.length=o):(A++([x,y,z]++B)).set (o+2) x'=A++([x,y,x']++B):=by
 subst hA
 rw [List.set_append_right _ _ om]
 simp
theorem PS {f t:Int} {zs:List WQ} {u:Value} {cs:List Y1} (h:zs.map WQ.er=cs):[WR.mk f t zs u].map WR.er=[Zd.mk f t cs]:=by
 rw [<-h];rfl
theorem UT:∀(xs ys:List Z4),Yj (xs++ys)=Yj xs+Yj ys
 | [],ys=>by simp [Yj]
 | x::r,ys=>by rw [Qn,Yj,Yj,UT r ys];omega
theorem DZ (op v:Int):(Zw op v).sz=2:=by rw [Zw,Z4.sz];simp [YQ]
theorem Ic (op:Int):∀l:LI,Yj (l.map (Zw op))=2*l.length
 | []=>by simp [Yj]
 | x::r=>by rw [VL,Yj,DZ,Ic op r,YK];omega
section
variable {ds:List Zd} (hd:W1 ds)
include hd
end
section
variable {ds:List Zd} {cons first:LI}
end
section
variable {ds:List Zd} (hd:W1 ds)
include hd
end
def XA:List Z4->Nat
 | []=>0
 | s::r=>if s.op=14∨s.op=15 then XA r+1 else 0
def Wd (op:Int):List Z4->LI
 | []=>[]
 | s::r=>if s.op=op then gI s.args 0::Wd op r else Wd op r
def Uj:LI->Int->LI->LI->LI × LI
 | [],_,D,R=>(D,R)
 | f::r,q,D,R=>if f≠0/\q∈D then Uj r (q+1) (D.erase q) R else if f≠0 then Uj r (q+1) D (R++[q]) else Uj r (q+1) D R
def JJ (xs:List Z4) (x:Int) (fs:LI) (q:Int):LI × LI:=Uj fs q (Wd 14 (xs.take (XA xs))) ((Wd 15 (xs.take (XA xs))).erase x)
def A3 (xs:List Z4) (x:Int) (fs:LI) (q:Int):List Z4:=
 if x∈Wd 15 (xs.take (XA xs))/\fs.length≠0 then (JJ xs x fs q).1.map (Zw 14)++[Zw 16 x]++(JJ xs x fs q).2.map (Zw 15)++xs.drop (XA xs) else xs
def KE (b:Z5) (x:Int) (fs:LI) (q:Int):Z5:=.mk (A3 b.steps x fs q) b.result
theorem Ff:∀xs:List Z4,XA xs<=xs.length
 | []=>YU _
 | s::r=>by have:=Ff r;rw [XA];split<;>simp<;>omega
theorem OH:∀{xs:List Z4} {s:Z4},s∈xs.take (XA xs)->s.op=14∨s.op=15
 | [],s,h=>by simp [XA] at h
 | t::r,s,h=>by
  rw [XA] at h
  split at h
  ·rename_i q
   rw [Bs] at h
   rcases YE.1 h with rfl|h
   ·exact q
   ·exact OH h
  ·simp at h
theorem G7:∀xs:List Z4,(Wd 14 xs).length+(Wd 15 xs).length<=xs.length
 | []=>by simp [Wd]
 | s::r=>by
  have:=G7 r
  rw [Wd,Wd]
  by_cases h:s.op=14
  ·rw [Zk h,Za om];simp;omega
  ·rw [Za h];split<;>simp<;>omega
theorem F7:∀(fs:LI) (q:Int) (D R:LI),(Uj fs q D R).1.length+(Uj fs q D R).2.length<=D.length+R.length+fs.length
 | [],q,D,R=>by simp [Uj]
 | f::r,q,D,R=>by
  rw [Uj,YK]
  split
  ·have:=F7 r (q+1) (D.erase q) R
   have h2:=List.length_erase_le (a:=q) (l:=D)
   omega
  ·split
   ·have:=F7 r (q+1) D (R++[q])
    simp only [Yn,YK,Xg] at this
    omega
   ·have:=F7 r (q+1) D R
    omega
theorem Z6v {xs:List Z4} {x:Int} {fs:LI} {q:Int} (h:x∈Wd 15 (xs.take (XA xs))) (hf:fs.length<=3):(JJ xs x fs q).1.length+(JJ xs x fs q).2.length<=XA xs+2:=by
 have h1:=F7 fs q (Wd 14 (xs.take (XA xs))) ((Wd 15 (xs.take (XA xs))).erase x)
 have h2:=G7 (xs.take (XA xs))
 have h3:=List.length_pos_of_mem h
 rw [List.length_erase_of_mem h] at h1
 rw [Ws] at h2
 have h4:=Ff xs
 unfold JJ
 omega
theorem Zau (xs:List Z4) (k:Nat):Yj xs=Yj (xs.take k)+Yj (xs.drop k):=by rw [<-UT,UF]
theorem Pl:∀xs:List Z4,(∀s∈xs,2<=s.sz)->2*xs.length<=Yj xs
 | [],_=>by simp
 | s::r,h=>by
  have h1:=Pl r fun t ht=>h t (Xu _ ht)
  have h2:=h s (X4 ..)
  rw [Yj,YK];omega
theorem Rf {xs:List Z4} {x:Int} {fs:LI} {q:Int} (hf:fs.length<=3) (h:∀s∈xs,s.op=14∨s.op=15->2<=s.sz):Yj (A3 xs x fs q)<=Yj xs+6:=by
 rw [A3]
 split
 ·rename_i hc
  have h1:=Z6v (q:=q) hc.1 hf
  have h2:=Pl (xs.take (XA xs)) fun s hs=>h s (TY hs) (OH hs)
  have h3:=Zau xs (XA xs)
  have h4:=Ff xs
  rw [Ws] at h2
  rw [UT,UT,UT,Ic,Ic,Yj,Yj,DZ]
  omega
 ·omega
def Cn (s:Z4):Prop:=s=Zw s.op (gI s.args 0)
theorem Re {xs:List Z4} {m:Int} {fs:LI} {q:Int} (h:¬(m∈Wd 15 (xs.take (XA xs))/\fs.length≠0)):A3 xs m fs q=xs:=Za h
end Go.Abs
section
namespace Go.Abs
mutual
def Bj (ds:List Zd) (m:Nat):Z4->Z4
 | .mk op num into args kids=>.mk op num into args (Tj ds m op num args kids 0)
def Tj (ds:List Zd) (m:Nat) (op num:Int) (args:LI):List Z5->Nat->List Z5
 | [],_=>[]
 | b::r,k=>(if op=8 then KE (WM ds (m+(Uh ds num k).length) b) (gI args 0) (Uh ds num k) m else WM ds m b)::Tj ds m op num args r (k+1)
def UB (ds:List Zd) (m:Nat):List Z4->List Z4
 | []=>[]
 | s::r=>Bj ds m s::UB ds (if Yb s.op=true then m else m+1) r
def WM (ds:List Zd) (m:Nat):Z5->Z5
 | .mk steps result=>.mk (UB ds m steps) result
end
def Ft (ds:List Zd) (m:Nat) (op num:Int) (args:LI) (k:Nat) (b:Z5):Z5:=if op=8 then KE (WM ds (m+(Uh ds num k).length) b) (gI args 0) (Uh ds num k) m else WM ds m b
theorem I7 (ds:List Zd) (m:Nat) (s:Z4):Bj ds m s=.mk s.op s.num s.into s.args (Tj ds m s.op s.num s.args s.kids 0):=by cases s;rw [Bj];rfl
theorem Fq (ds:List Zd) (m:Nat) (b:Z5):WM ds m b=.mk (UB ds m b.steps) b.result:=by cases b;rw [WM];rfl
section
variable {ds:List Zd} {m:Nat}
theorem Z9o {xs acc r:List Z4} {k:Nat} {s:Z4} (h:xs[k]? = some s) (ha:acc++UB ds m (xs.drop k)=r) :
  (acc++[.mk s.op s.num s.into s.args (Tj ds m s.op s.num s.args s.kids 0)])++UB ds (if Yb s.op=true then m else m+1) (xs.drop (k+1))=r:=by
 rw [Y3 h,UB,I7] at ha
 rw [<-ha];simp
theorem Z9n {xs acc r:List Z4} {k:Nat} (h:xs.length<=k) (ha:acc++UB ds m (xs.drop k)=r):acc=r:=by
 rw [X5 h,UB,Jb] at ha;exact ha
theorem OW {op num:Int} {args:LI} {bs acc r:List Z5} {k:Nat} {b:Z5} (h:bs[k]? = some b) (ha:acc++Tj ds m op num args (bs.drop k) k=r) :
  (acc++[Ft ds m op num args k b])++Tj ds m op num args (bs.drop (k+1)) (k+1)=r:=by
 rw [Y3 h,Tj] at ha
 rw [<-ha,Ft];simp
theorem Z9k {op num:Int} {args:LI} {bs acc r:List Z5} {k j:Nat} (h:bs.length<=k) (ha:acc++Tj ds m op num args (bs.drop k) j=r):acc=r:=by
 rw [X5 h,Tj,Jb] at ha;exact ha
end
mutual
def wS (ds:List Zd):Z4->Prop
 | .mk op num into args kids=>(Xv op=!Yb op)/\(Yb op=true->num=0/\into=0/\kids=[]/\∃a,args=[a])/\(op=8->(∃a,args=[a]/\0<=a/\a<=900000000)/\kids.length=(ZQ ds num).length)/\Ja ds kids
def Ja (ds:List Zd):List Z5->Prop
 | []=>True
 | b::r=>wB ds b/\Ja ds r
def TX (ds:List Zd):List Z4->Prop
 | []=>True
 | s::r=>wS ds s/\TX ds r
def wB (ds:List Zd):Z5->Prop
 | .mk steps _=>TX ds steps
end
section
variable {ds:List Zd}
theorem Ky (s:Z4):wS ds s↔(Xv s.op=!Yb s.op)/\(Yb s.op=true->s.num=0/\s.into=0/\s.kids=[]/\∃a,s.args=[a])/\(s.op=8->(∃a,s.args=[a]/\0<=a/\a<=900000000)/\s.kids.length=(ZQ ds s.num).length)/\Ja ds s.kids:=by cases s;rw [wS];rfl
theorem Ka (b:Z5):wB ds b↔TX ds b.steps:=by cases b;rw [wB];rfl
theorem JP:∀{xs:List Z4},TX ds xs↔∀s∈xs,wS ds s
 | []=>by simp [TX]
 | s::r=>by rw [TX,JP];simp
theorem FE:∀{xs:List Z5},Ja ds xs↔∀s∈xs,wB ds s
 | []=>by simp [Ja]
 | s::r=>by rw [Ja,FE];simp
theorem Iw {b:Z5} {k:Nat} {s:Z4} (h:wB ds b) (hs:b.steps[k]? = some s):wS ds s:=JP.1 ((Ka b).1 h) s (ZZ hs)
theorem FG {s:Z4} {k:Nat} {b:Z5} (h:wS ds s) (hb:s.kids[k]? = some b):wB ds b:=FE.1 ((Ky s).1 h).2.2.2 b (ZZ hb)
theorem FF {s:Z4} (h:wS ds s) (hc:Yb s.op=true):Cn s/\s.kids=[]/\∃a,s.args=[a]:=by
 obtain ⟨h1,h2,h3,a,h4⟩:=((Ky s).1 h).2.1 hc
 refine ⟨?_,h3,a,h4⟩
 cases s with
 | mk op num into args kids=>
  simp only [Z4.num,Z4.into,Z4.kids,Z4.args] at h1 h2 h3 h4
  subst h1 h2 h3 h4
  rfl
theorem Zce {op v:Int} (h:op=14∨op=15∨op=16):wS ds (Zw op v):=(Ky _).2 ⟨by show Xv op=!Yb op;rcases h with rfl|rfl|rfl<;>rfl,fun _=>⟨rfl,rfl,rfl,v,rfl⟩,fun e=>absurd e (show op≠8 by omega),True.intro⟩
theorem Ix {s:Z4} (h:wS ds s):Xv s.op=!Yb s.op:=((Ky s).1 h).1
theorem DE {s:Z4} (h:wS ds s) (h8:s.op=8):(∃a,s.args=[a]/\0<=a/\a<=900000000)/\s.kids.length=(ZQ ds s.num).length:=((Ky s).1 h).2.2.1 h8
theorem FQ {xs:List Z4} (h:TX ds xs):∀s∈xs,Yb s.op=true->Cn s:=fun s hs hc=>(FF (JP.1 h s hs) hc).1
end
section
variable {n:Zr}
theorem Z6c {us:LI} {s:Z4} (g:0<=Y4 n us s) (h:Yb s.op=true):s.num=0/\s.into=0/\s.kids=[]:=by
 have ho:14<=s.op/\s.op<=17:=by simpa [Yb] using h
 rw [JN] at g
 split at g
 ·omega
 ·rename_i q
  refine ⟨AG fun z=>q (.inl ⟨z,?_⟩),AG fun z=>q (.inr (.inl ?_)),AG fun z=>q (.inr (.inr ⟨DH.2 z,by omega,by omega⟩))⟩
  ·rw [V0];simp;omega
  ·rw [VJ,Za z,Za om];simp
mutual
theorem Zcg:∀(s:Z4) {us:LI},us.length+4*s.sz<=900000000->W1 n.decls->0<=Y4 n us s->wS n.decls s
 | .mk op num into args kids,us,hu,hd,g=>by
  have hf:=Ig g
  rw [wS]
  refine ⟨E4 g,fun hc=>?_,fun h8=>?_,?_⟩
  ·obtain ⟨h1,h2,h3⟩:=Z6c g hc
   have ho:14<=op/\op<=17:=by simpa [Yb] using hc
   exact ⟨h1,h2,h3,hf.one (.inr (.inr ho))⟩
  ·obtain ⟨k1,k2,k3⟩:=hf.kids (.inr h8)
   obtain ⟨a,ha⟩:=hf.one (.inr (.inl h8))
   have hb:=hf.args a (by rw [ha];exact XT.2 rfl)
   refine ⟨⟨a,ha,hb.1,by omega⟩,?_⟩
   have e:X7 n.decls op num=(ZQ n.decls num).map (ZP n.decls):=by rw [X7,Za om]
   have k1':kids.length=(X7 n.decls op num).length:=k1
   rw [k1',e,Kc]
  ·refine PL kids hd fun i b hb=>?_
   have hl:0<kids.length:=by have:=(XB.1 hb).1;omega
   obtain ⟨k1,k2,k3⟩:=hf.kids (Z56 g hl)
   have k1':kids.length=(X7 n.decls op num).length:=k1
   have hi:=(XB.1 hb).1
   obtain ⟨mk,hmk⟩:=KX (xs:=X7 n.decls op num) (j:=i) om
   have hk3:=G8 hd hmk
   have ZB:=L7 hb
   rw [Z4.sz] at hu
   exact ⟨us++mk,by rw [Yn];omega,k3 i b mk hb hmk⟩
theorem PL:∀(bs:List Z5),W1 n.decls->(∀(i:Nat) (b:Z5),bs[i]? = some b->∃us:LI,us.length+4*b.sz<=900000000/\0<=YT n us b)->Ja n.decls bs
 | [],_,_=>True.intro
 | b::r,hd,h=>by
  obtain ⟨us,hq,hu⟩:=h 0 b rfl
  exact ⟨PJ b hq hd hu,PL r hd fun i x hx=>h (i+1) x (by simpa using hx)⟩
theorem PN:∀(xs:List Z4) {us vs:LI},us.length+4*Yj xs<=900000000->W1 n.decls->Wg n xs us=some vs->TX n.decls xs
 | [],_,_,_,_,_=>True.intro
 | s::r,us,vs,hu,hd,h=>by
  obtain ⟨g1,g2⟩:=Ih h
  rw [Yj] at hu
  have h1:=s.sz_pos
  have h2:=I1 n us s
  exact ⟨Zcg s om hd g1,PN r om hd g2⟩
theorem PJ:∀(b:Z5) {us:LI},us.length+4*b.sz<=900000000->W1 n.decls->0<=YT n us b->wB n.decls b
 | .mk steps result,us,hu,hd,h=>by
  obtain ⟨fvs,t0,hvs,_,_⟩:=Ga h
  rw [Z5.sz] at hu
  rw [wB];exact PN steps om hd hvs
end
end
mutual
def Z4.pz:Z4->Nat
 | .mk _ _ _ args kids=>1+args.length+C9 kids
def Z5.pz:Z5->Nat
 | .mk steps _=>1+Ca steps
def Ca:List Z4->Nat
 | []=>0
 | s::r=>s.pz+Ca r
def C9:List Z5->Nat
 | []=>0
 | b::r=>b.pz+8+C9 r
end
mutual
theorem Z4.pz_le:∀s:Z4,s.pz<=9*s.sz
 | .mk _ _ _ args kids=>by have:=Oj kids;rw [Z4.pz,Z4.sz];omega
theorem Z5.pz_le:∀b:Z5,b.pz+8<=9*b.sz
 | .mk steps _=>by have:=Ok steps;rw [Z5.pz,Z5.sz];omega
theorem Ok:∀xs:List Z4,Ca xs<=9*Yj xs
 | []=>Ke _
 | s::r=>by have:=s.pz_le;have:=Ok r;rw [Ca,Yj];omega
theorem Oj:∀xs:List Z5,C9 xs<=9*YQ xs
 | []=>Ke _
 | s::r=>by have:=s.pz_le;have:=Oj r;rw [C9,YQ];omega
end
section
variable {ds:List Zd}
theorem RQ {op:Int} (h:op=14∨op=15):Yb op=true:=by rw [Yb];simp;omega
theorem Z9p {xs:List Z4}:∀{m:Nat},TX ds xs->∀s∈UB ds m xs,s.op=14∨s.op=15->2<=s.sz:=by
 induction xs with
 | nil=>intro m _ s hs;simp [UB] at hs
 | cons t r ih=>
  intro m h s hs ho
  rw [UB] at hs
  rcases YE.1 hs with rfl|hs
  ·rw [I7] at ho ⊢
   obtain ⟨_,_,a,ha⟩:=FF h.1 (RQ ho)
   rw [Z4.sz,ha];simp
  ·exact ih h.2 s hs ho
variable (hd:W1 ds)
include hd
mutual
theorem Z9l:∀(s:Z4) {m:Nat},wS ds s->(Bj ds m s).sz<=s.pz
 | .mk op num into args kids,m,h=>by
  have:=OY kids (m:=m) (op:=op) (num:=num) (args:=args) (k:=0) h.2.2.2
  rw [Bj,Z4.sz,Z4.pz];omega
theorem OY:∀(bs:List Z5) {m:Nat} {op num:Int} {args:LI} {k:Nat},Ja ds bs->YQ (Tj ds m op num args bs k)<=C9 bs
 | [],_,_,_,_,_,_=>YU _
 | b::r,m,op,num,args,k,h=>by
  have h2:=OY r (m:=m) (op:=op) (num:=num) (args:=args) (k:=k+1) h.2
  rw [Tj,YQ,C9]
  split
  ·have h1:=Fs b (m:=m+(Uh ds num k).length) h.1
   have h3:=Rf (xs:=(WM ds (m+(Uh ds num k).length) b).steps) (x:=gI args 0) (q:=(m:Int)) (Z0g hd num k) (by rw [Fq];exact Z9p ((Ka b).1 h.1))
   rw [KE,Z5.sz]
   rw [Z5.sz_eq] at h1
   omega
  ·have h1:=Fs b (m:=m) h.1
   omega
theorem OZ:∀(xs:List Z4) {m:Nat},TX ds xs->Yj (UB ds m xs)<=Ca xs
 | [],_,_=>YU _
 | s::r,m,h=>by
  have h1:=Z9l s (m:=m) h.1
  have h2:=OZ r (m:=if Yb s.op=true then m else m+1) h.2
  rw [UB,Yj,Ca];omega
theorem Fs:∀(b:Z5) {m:Nat},wB ds b->(WM ds m b).sz<=b.pz
 | .mk steps result,m,h=>by
  have:=OZ steps (m:=m) h
  rw [WM,Z5.sz,Z5.pz];omega
end
end
section
variable {ds:List Zd} {m:Nat}
end
def Aw (ds:List Zd) (r:ZX):ZX:=⟨r.params,r.lent,r.result,WM ds r.params.length r.body⟩
def Fu (n:Zr):Zr:=⟨n.decls,n.routines.map (Aw n.decls)⟩
theorem Zca {n:Zr} (hn:X1 n) (hz:Ud n) (hbt:∀r∈n.routines,0<=YT n r.params r.body):∀r∈n.routines,wB n.decls r.body:=fun r hr=>PJ r.body (by have:=hz.body r hr;have:=hn.params r hr;omega) hn.decls (hbt r hr)
end Go.Abs
namespace Go.Abs
theorem Z8r {xs:List Z4} {k:Nat} {s:Z4} {r:Nat} (h:xs[k]? = some s) (hs:s.op=14∨s.op=15) (ha:k+XA (xs.drop k)=r):k+1+XA (xs.drop (k+1))=r:=by
 rw [Y3 h,XA,Zk hs] at ha;omega
theorem Z8s {xs:List Z4} {k:Nat} {s:Z4} {r:Nat} (h:xs[k]? = some s) (hs:¬(s.op=14∨s.op=15)) (ha:k+XA (xs.drop k)=r):k=r:=by
 rw [Y3 h,XA,Za hs] at ha;omega
theorem Z8q {xs:List Z4} {k:Nat} {r:Nat} (h:xs.length<=k) (ha:k+XA (xs.drop k)=r):k=r:=by
 rw [X5 h,XA] at ha;omega
theorem Rq {op:Int} {xs:List Z4} {acc r:LI} {k:Nat} {s:Z4} (h:xs[k]? = some s) (hs:s.op=op) (ha:acc++Wd op (xs.drop k)=r):(acc++[gI s.args 0])++Wd op (xs.drop (k+1))=r:=by
 rw [Y3 h,Wd,Zk hs] at ha;rw [<-ha];simp
theorem Rp {op:Int} {xs:List Z4} {acc r:LI} {k:Nat} {s:Z4} (h:xs[k]? = some s) (hs:¬s.op=op) (ha:acc++Wd op (xs.drop k)=r):acc++Wd op (xs.drop (k+1))=r:=by
 rw [Y3 h,Wd,Za hs] at ha;exact ha
theorem Ro {op:Int} {xs:List Z4} {acc r:LI} {k:Nat} (h:xs.length<=k) (ha:acc++Wd op (xs.drop k)=r):acc=r:=by
 rw [X5 h,Wd,Jb] at ha;exact ha
theorem Z0a {xs acc r:LI} {y:Int} {k:Nat} {x:Int} {d:Bool} (h:xs[k]? = some x) (ha:acc++(if d=true then xs.drop k else (xs.drop k).erase y)=r) :
  (if x=y/\¬d=true then acc else acc++[x])++(if ((x==y&&!d)||d)=true then xs.drop (k+1) else (xs.drop (k+1)).erase y)=r:=by
 rw [Y3 h] at ha
 rw [<-ha]
 by_cases hd:d=true
 ·simp [hd]
 ·by_cases hx:x=y
  ·simp [hd,hx]
  ·rw [Za (fun z=>hx z.1),Za hd,List.erase_cons_tail (by simpa using hx)]
   simp [hd,hx]
theorem Z09 {xs acc r:LI} {y:Int} {k:Nat} {d:Bool} (h:xs.length<=k) (ha:acc++(if d=true then xs.drop k else (xs.drop k).erase y)=r):acc=r:=by
 rw [X5 h] at ha;simpa using ha
section
variable {fs D R:LI} {q k:Nat} {f:Int} {r:LI × LI}
theorem Z6x (h:fs[k]? = some f) (h0:f≠0) (hm:((q+k:Nat):Int)∈D) (ha:Uj (fs.drop k) (q+k) D R=r):Uj (fs.drop (k+1)) (q+((k+1:Nat):Int)) (D.erase ((q+k:Nat):Int)) R=r:=by
 rw [Y3 h,Uj,Zk ⟨h0,by rw [<-Int.natCast_add];exact hm⟩,<-Int.natCast_add] at ha
 rw [<-ha];congr 1
theorem Z6y (h:fs[k]? = some f) (h0:f≠0) (hm:¬((q+k:Nat):Int)∈D) (ha:Uj (fs.drop k) (q+k) D R=r):Uj (fs.drop (k+1)) (q+((k+1:Nat):Int)) D (R++[((q+k:Nat):Int)])=r:=by
 rw [Y3 h,Uj,Za (fun z=>hm (by rw [Int.natCast_add];exact z.2)),Zk h0,<-Int.natCast_add] at ha
 rw [<-ha];congr 1
theorem Z6z (h:fs[k]? = some f) (h0:¬f≠0) (ha:Uj (fs.drop k) (q+k) D R=r):Uj (fs.drop (k+1)) (q+((k+1:Nat):Int)) D R=r:=by
 rw [Y3 h,Uj,Za (fun z=>h0 z.1),Za h0] at ha
 rw [<-ha];congr 1
theorem Z6w (h:fs.length<=k) (ha:Uj (fs.drop k) (q+k) D R=r):r=(D,R):=by
 rw [X5 h,Uj] at ha;exact ha.symm
end
theorem Rg {xs:List Z4} {x:Int} {fs:LI} {q:Int} {D R:LI} (h1:x∈Wd 15 (xs.take (XA xs))) (h2:fs.length≠0) (hr:JJ xs x fs q=(D,R)):D.map (Zw 14)++[Zw 16 x]++R.map (Zw 15)++xs.drop (XA xs)=A3 xs x fs q:=by
 rw [A3,Zk ⟨h1,h2⟩,hr]
theorem Z9m {ds:List Zd} {xs:List Z4}:∀{m:Nat},TX ds xs->∀s∈UB ds m xs,Yb s.op=true->∃a,s.args=[a]:=by
 induction xs with
 | nil=>intro m _ s hs;simp [UB] at hs
 | cons t r ih=>
  intro m h s hs ho
  rw [UB] at hs
  rcases YE.1 hs with rfl|hs
  ·rw [I7] at ho ⊢
   exact (FF h.1 ho).2.2
  ·exact ih h.2 s hs ho
end Go.Abs
end
namespace Go.Abs
theorem ID {s:Z4} (h:Cn s):∃a,s.args=[a]:=⟨gI s.args 0,by have:=Ya Z4.args h;exact this⟩
section
variable {xs:LI} {v:Int} {lo hi:Nat}
end
section
variable {m:Int} {xs du dr:List Z4} {lf:LI} {d:Bool} {k:Nat} {s:Z4} {W:List Z4 × List Z4 × LI}
end
def YI:List Z4->Nat
 | []=>0
 | s::r=>if Yb s.op=true then YI r+1 else 0
def XN (op x:Int):List Z4->Int->Int
 | [],_=>-1
 | s::r,k=>if s.op=op/\gI s.args 0=x then k else XN op x r (k+1)
def Qu (many:Nat) (s:Z4):Prop:=(s.op=6/\s.into=0)/\s.args.length=many
instance (many:Nat) (s:Z4):Decidable (Qu many s):=by unfold Qu;infer_instance
def Wa (many:Nat):List Z4->Int->Int
 | [],_=>-1
 | s::r,k=>if Qu many s then k else Wa many r (k+1)
def Af (xs:List Z4) (i:Int):Z4:=xs[i.toNat]?.getD (Zw 0 0)
def Qb (v:Int) (s:Z4):Z4:=.mk s.op s.num v s.args s.kids
def V2 (xs:List Z4) (x:Int):Int:=XN 16 x (xs.take (YI xs)) 0
def Wi (xs:List Z4) (many:Nat):Int:=Wa many (xs.drop (YI xs)) (YI xs)
def VX (xs:List Z4) (x:Int) (many:Nat):List Z4:=
 if V2 xs x<0∨Wi xs many<0 then xs else (xs.set (V2 xs x).toNat (Zw 17 x)).set (Wi xs many).toNat (Qb (1+x) (Af xs (Wi xs many)))
def VT (b:Z5) (x:Int) (many:Nat):Z5:=.mk (VX b.steps x many) b.result
mutual
def Qi (ds:List Zd) (kept:LI):Z4->Z4
 | .mk op num into args kids=>.mk op num into args (Uk ds kept op num args kids 0)
def Uk (ds:List Zd) (kept:LI) (op num:Int) (args:LI):List Z5->Nat->List Z5
 | [],_=>[]
 | b::r,k=>(if op=8/\¬gI args 0∈kept then VT (Wn ds (if V2 b.steps (gI args 0)<0∨Wi b.steps (Uh ds num k).length<0 then kept else gI args 0::kept) b) (gI args 0) (Uh ds num k).length else Wn ds kept b)::Uk ds kept op num args r (k+1)
def Ul (ds:List Zd) (kept:LI):List Z4->List Z4
 | []=>[]
 | s::r=>Qi ds kept s::Ul ds kept r
def Wn (ds:List Zd) (kept:LI):Z5->Z5
 | .mk steps result=>.mk (Ul ds kept steps) result
end
def EL (ds:List Zd) (kept:LI) (num:Int) (args:LI) (k:Nat) (b:Z5):LI:=if V2 b.steps (gI args 0)<0∨Wi b.steps (Uh ds num k).length<0 then kept else gI args 0::kept
def Th (ds:List Zd) (kept:LI) (op num:Int) (args:LI) (k:Nat) (b:Z5):Z5:=if op=8/\¬gI args 0∈kept then VT (Wn ds (EL ds kept num args k b) b) (gI args 0) (Uh ds num k).length else Wn ds kept b
theorem At (ds:List Zd) (kept:LI) (s:Z4):Qi ds kept s=.mk s.op s.num s.into s.args (Uk ds kept s.op s.num s.args s.kids 0):=by cases s;rw [Qi];rfl
theorem Fc (ds:List Zd) (kept:LI) (b:Z5):Wn ds kept b=.mk (Ul ds kept b.steps) b.result:=by cases b;rw [Wn];rfl
theorem Fe (ds:List Zd) (kept:LI):∀xs:List Z4,Ul ds kept xs=xs.map (Qi ds kept)
 | []=>rfl
 | s::r=>by rw [Ul,Fe ds kept r];rfl
section
variable {ds:List Zd} {kept:LI}
theorem Z8p {xs acc r:List Z4} {k:Nat} {s:Z4} (h:xs[k]? = some s) (ha:acc++Ul ds kept (xs.drop k)=r) :
  (acc++[.mk s.op s.num s.into s.args (Uk ds kept s.op s.num s.args s.kids 0)])++Ul ds kept (xs.drop (k+1))=r:=by
 rw [Y3 h,Ul,At] at ha
 rw [<-ha];simp
theorem Z8o {xs acc r:List Z4} {k:Nat} (h:xs.length<=k) (ha:acc++Ul ds kept (xs.drop k)=r):acc=r:=by
 rw [X5 h,Ul,Jb] at ha;exact ha
theorem Z8j {op num:Int} {args:LI} {bs acc r:List Z5} {k:Nat} {b:Z5} (h:bs[k]? = some b) (ha:acc++Uk ds kept op num args (bs.drop k) k=r) :
  (acc++[Th ds kept op num args k b])++Uk ds kept op num args (bs.drop (k+1)) (k+1)=r:=by
 rw [Y3 h,Uk] at ha
 rw [<-ha,Th,EL];simp
theorem Z8i {op num:Int} {args:LI} {bs acc r:List Z5} {k j:Nat} (h:bs.length<=k) (ha:acc++Uk ds kept op num args (bs.drop k) j=r):acc=r:=by
 rw [X5 h,Uk,Jb] at ha;exact ha
end
section
variable {ds:List Zd}
mutual
theorem Z8m:∀(s:Z4) {K K':LI},(∀z,z∈K↔z∈K')->Qi ds K s=Qi ds K' s
 | .mk op num into args kids,K,K',h=>by rw [Qi,Qi,OD kids h]
theorem OD:∀(bs:List Z5) {K K':LI} {op num:Int} {args:LI} {k:Nat},(∀z,z∈K↔z∈K')->Uk ds K op num args bs k=Uk ds K' op num args bs k
 | [],_,_,_,_,_,_,_=>by rw [Uk,Uk]
 | b::r,K,K',op,num,args,k,h=>by
  have h1:=OD r (op:=op) (num:=num) (args:=args) (k:=k+1) h
  have h2:=HU b h
  have h3:∀z,z∈(gI args 0::K)↔z∈(gI args 0::K'):=fun z=>by rw [YE,YE,h z]
  have h4:=HU b h3
  rw [Uk,Uk,h1,h2]
  congr 1
  by_cases hq:op=8/\¬gI args 0∈K
  ·have hq':op=8/\¬gI args 0∈K':=⟨hq.1,fun z=>hq.2 ((h _).2 z)⟩
   rw [Zk hq,Zk hq']
   congr 1
   split
   ·exact h2
   ·exact h4
  ·have hq':¬(op=8/\¬gI args 0∈K'):=fun z=>hq ⟨z.1,fun y=>z.2 ((h _).1 y)⟩
   rw [Za hq,Za hq']
theorem OF:∀(xs:List Z4) {K K':LI},(∀z,z∈K↔z∈K')->Ul ds K xs=Ul ds K' xs
 | [],_,_,_=>by rw [Ul,Ul]
 | s::r,K,K',h=>by rw [Ul,Ul,Z8m s h,OF r h]
theorem HU:∀(b:Z5) {K K':LI},(∀z,z∈K↔z∈K')->Wn ds K b=Wn ds K' b
 | .mk steps result,K,K',h=>by rw [Wn,Wn,OF steps h]
end
end
theorem D7:∀xs:List Z4,YI xs<=xs.length
 | []=>YU _
 | s::r=>by have:=D7 r;rw [YI];split<;>simp<;>omega
section
variable {f:Z4->Z4} (hop:∀s,(f s).op=s.op) (hin:∀s,(f s).into=s.into) (har:∀s,(f s).args=s.args)
include hop
theorem Hr:∀xs:List Z4,YI (xs.map f)=YI xs
 | []=>rfl
 | s::r=>by rw [VL,YI,YI,hop,Hr r]
include har
theorem IU {op x:Int}:∀(xs:List Z4) (k:Int),XN op x (xs.map f) k=XN op x xs k
 | [],_=>rfl
 | s::r,k=>by rw [VL,XN,XN,hop,har,IU r]
theorem Z6u (xs:List Z4) (x:Int):V2 (xs.map f) x=V2 xs x:=by rw [V2,Hr hop,<-List.map_take,IU hop har,V2]
include hin
theorem Lj {many:Nat}:∀(xs:List Z4) (k:Int),Wa many (xs.map f) k=Wa many xs k
 | [],_=>rfl
 | s::r,k=>by
  have e:Qu many (f s)↔Qu many s:=by rw [Qu,Qu,hop,hin,har]
  rw [VL,Wa,Wa,Lj r]
  by_cases h:Qu many s
  ·rw [Zk h,Zk (e.2 h)]
  ·rw [Za h,Za (fun z=>h (e.1 z))]
theorem RU (xs:List Z4) (many:Nat):Wi (xs.map f) many=Wi xs many:=by rw [Wi,Hr hop,<-List.map_drop,Lj hop hin har,Wi]
end
theorem IT {op x:Int}:∀{xs:List Z4} {k:Int},¬XN op x xs k<0->0<=k->k<=XN op x xs k/\XN op x xs k<k+xs.length/\∃s,xs[(XN op x xs k-k).toNat]? = some s/\s.op=op/\gI s.args 0=x
 | [],k,h,_=>by simp [XN] at h
 | s::r,k,h,hk=>by
  rw [XN] at h ⊢
  split
  ·rename_i q
   refine ⟨Int.le_refl _,by rw [YK];omega,s,?_,q⟩
   rw [Int.sub_self];rfl
  ·rename_i q
   rw [Za q] at h
   obtain ⟨h1,h2,t,h3,h4⟩:=IT (xs:=r) (k:=k+1) h om
   refine ⟨by omega,by rw [YK];omega,t,?_,h4⟩
   rw [show (XN op x r (k+1)-k).toNat=(XN op x r (k+1)-(k+1)).toNat+1 by omega,List.getElem?_cons_succ]
   exact h3
theorem Li {many:Nat}:∀{xs:List Z4} {k:Int},¬Wa many xs k<0->0<=k->k<=Wa many xs k/\Wa many xs k<k+xs.length/\∃s,xs[(Wa many xs k-k).toNat]? = some s/\Qu many s
 | [],k,h,_=>by simp [Wa] at h
 | s::r,k,h,hk=>by
  rw [Wa] at h ⊢
  split
  ·rename_i q
   refine ⟨Int.le_refl _,by rw [YK];omega,s,?_,q⟩
   rw [Int.sub_self];rfl
  ·rename_i q
   rw [Za q] at h
   obtain ⟨h1,h2,t,h3,h4⟩:=Li (xs:=r) (k:=k+1) h om
   refine ⟨by omega,by rw [YK];omega,t,?_,h4⟩
   rw [show (Wa many r (k+1)-k).toNat=(Wa many r (k+1)-(k+1)).toNat+1 by omega,List.getElem?_cons_succ]
   exact h3
theorem Di {xs:List Z4} {x:Int} (h:¬V2 xs x<0):0<=V2 xs x/\V2 xs x<YI xs/\∃s,xs[(V2 xs x).toNat]? = some s/\s.op=16/\gI s.args 0=x:=by
 obtain ⟨h1,h2,s,h3,h4⟩:=IT h (Int.le_refl 0)
 have hl:=D7 xs
 rw [Ws,Vj hl] at h2
 have h2':V2 xs x<YI xs:=by unfold V2;omega
 have h1':0<=V2 xs x:=h1
 refine ⟨h1',h2',s,?_,h4⟩
 rw [Int.sub_zero] at h3
 have h5:(V2 xs x).toNat<YI xs:=by omega
 rwa [show XN 16 x (xs.take (YI xs)) 0=V2 xs x from rfl,List.getElem?_take_of_lt h5] at h3
theorem A8 {xs:List Z4} {many:Nat} (h:¬Wi xs many<0):(YI xs:Int)<=Wi xs many/\Wi xs many<xs.length/\∃s,xs[(Wi xs many).toNat]? = some s/\Qu many s/\Af xs (Wi xs many)=s:=by
 obtain ⟨h1,h2,s,h3,h4⟩:=Li h om
 have hl:=D7 xs
 rw [Jc] at h2
 have h1':(YI xs:Int)<=Wi xs many:=h1
 have h2':Wi xs many<xs.length:=by unfold Wi;omega
 rw [IA,show Wa many (xs.drop (YI xs)) (YI xs)=Wi xs many from rfl,show YI xs+(Wi xs many-(YI xs:Int)).toNat=(Wi xs many).toNat by omega] at h3
 exact ⟨h1',h2',s,h3,h4,by rw [Af,h3];rfl⟩
theorem Z7w {f:Z4->Z4} (hop:∀s,(f s).op=s.op) (hin:∀s,(f s).into=s.into) (har:∀s,(f s).args=s.args) (hc:∀x,f (Zw 17 x)=Zw 17 x) (hi:∀v s,f (Qb v s)=Qb v (f s)) (xs:List Z4) (x:Int) (many:Nat) :
  VX (xs.map f) x many=(VX xs x many).map f:=by
 rw [VX,Z6u hop har,RU hop hin har,VX]
 split
 ·rfl
 ·rename_i hq
  obtain ⟨_,_,s,h3,_,h5⟩:=A8 (fun z=>hq (.inr z))
  have e:Af (xs.map f) (Wi xs many)=f (Af xs (Wi xs many)):=by rw [Af,Kb,h3,h5];rfl
  rw [e,List.map_set,List.map_set,hc,hi]
theorem OB {ds:List Zd} {K:LI} {b:Z5} {x:Int} {many:Nat}:Wn ds K (VT b x many)=VT (Wn ds K b) x many:=by
 rw [VT,Wn,VT,Fc,Fe,Fe]
 show Z5.mk _ _=Z5.mk (VX (b.steps.map (Qi ds K)) x many) b.result
 rw [Z7w (f:=Qi ds K) (fun s=>by rw [At];rfl) (fun s=>by rw [At];rfl) (fun s=>by rw [At];rfl) (fun x=>by rw [At];rfl) (fun v s=>by rw [At,At];rfl)]
structure CB (c:LI) (q:Int):Prop where
 len:c.length=4
 bd:∀x∈c,0<=x/\x<=q
mutual
def Bg:Z4->Prop
 | .mk op _ _ _ kids=>op≠17/\Am kids
def Am:List Z5->Prop
 | []=>True
 | b::r=>Qe b/\Am r
def An:List Z4->Prop
 | []=>True
 | s::r=>Bg s/\An r
def Qe:Z5->Prop
 | .mk steps _=>An steps
end
theorem C4 (s:Z4):Bg s↔s.op≠17/\Am s.kids:=by cases s;rw [Bg];rfl
theorem Dc (b:Z5):Qe b↔An b.steps:=by cases b;rw [Qe];rfl
theorem Dd:∀{xs:List Z4},An xs↔∀s∈xs,Bg s
 | []=>by simp [An]
 | s::r=>by rw [An,Dd];simp
theorem EY:∀{xs:List Z5},Am xs↔∀s∈xs,Qe s
 | []=>by simp [Am]
 | s::r=>by rw [Am,EY];simp
theorem Fx:∀{xs:List Z4} {i:Nat} {s:Z4} (t:Z4),xs[i]? = some s->Yj (xs.set i t)+s.sz=Yj xs+t.sz
 | [],_,_,_,h=>by simp at h
 | x::r,0,s,t,h=>by simp at h;subst h;rw [List.set_cons_zero,Yj,Yj];omega
 | x::r,i+1,s,t,h=>by
  have:=Fx (xs:=r) (i:=i) t (by simpa using h)
  rw [List.set_cons_succ,Yj,Yj];omega
theorem Z4m (v:Int) (s:Z4):(Qb v s).sz=s.sz:=by cases s;rw [Qb,Z4.sz,Z4.sz];rfl
theorem Lk {xs:List Z4} {x:Int} {many:Nat} (h:¬(V2 xs x<0∨Wi xs many<0)):(V2 xs x).toNat<(Wi xs many).toNat:=by
 obtain ⟨h1,h2,_⟩:=Di (fun z=>h (.inl z))
 obtain ⟨h3,h4,_⟩:=A8 (fun z=>h (.inr z))
 omega
theorem Fb {xs:List Z4} {x:Int} {many:Nat} (h:¬(V2 xs x<0∨Wi xs many<0)) {t:Z4} {s:Z4} (hs:xs[(Wi xs many).toNat]? = some s):(xs.set (V2 xs x).toNat t)[(Wi xs many).toNat]? = some s:=by
 have:=Lk h
 rw [List.getElem?_set_ne om];exact hs
theorem Oo {xs:List Z4} {x:Int} {many:Nat} (h:∀s∈xs,Yb s.op=true->2<=s.sz):Yj (VX xs x many)<=Yj xs:=by
 rw [VX]
 split
 ·exact YU _
 ·rename_i hq
  obtain ⟨_,_,s,h3,h4,_⟩:=Di (fun z=>hq (.inl z))
  obtain ⟨_,_,t,h5,_,h6⟩:=A8 (fun z=>hq (.inr z))
  have e1:=Fx (Zw 17 x) h3
  have e2:=Fx (Qb (1+x) (Af xs (Wi xs many))) (Fb hq (t:=Zw 17 x) h5)
  have h7:=h s (ZZ h3) (by rw [h4];rfl)
  rw [DZ] at e1
  rw [Z4m,h6] at e2
  rw [h6]
  omega
section
variable {ds:List Zd}
theorem Zcf {v:Int} {s:Z4} (h:wS ds s) (h6:s.op=6):wS ds (Qb v s):=by
 obtain ⟨h1,h2,h3,h4⟩:=(Ky s).1 h
 exact (Ky _).2 ⟨h1,fun hc=>absurd hc (by show ¬Yb s.op=true;rw [h6];decide),h3,h4⟩
theorem Zcd {v:Int}:wS ds (Zw 17 v):=(Ky _).2 ⟨rfl,fun _=>⟨rfl,rfl,rfl,v,rfl⟩,fun e=>absurd e (show (17:Int)≠8 by decide),True.intro⟩
theorem Zcc {xs:List Z4} {x:Int} {many:Nat} (h:TX ds xs):TX ds (VX xs x many):=by
 rw [VX]
 split
 ·exact h
 ·rename_i hq
  obtain ⟨_,_,t,h5,h7,h6⟩:=A8 (fun z=>hq (.inr z))
  rw [JP]
  intro s hs
  rcases List.mem_or_eq_of_mem_set hs with hs|rfl
  ·rcases List.mem_or_eq_of_mem_set hs with hs|rfl
   ·exact JP.1 h s hs
   ·exact Zcd
  ·rw [h6];exact Zcf (JP.1 h t (ZZ h5)) h7.1.1
theorem Zcb {b:Z5} {x:Int} {many:Nat} (h:wB ds b):wB ds (VT b x many):=by rw [VT,Ka];exact Zcc ((Ka b).1 h)
variable (hd:W1 ds)
mutual
theorem Z8n:∀(s:Z4) {K:LI},wS ds s->(Qi ds K s).sz<=s.sz
 | .mk op num into args kids,K,h=>by
  have:=OE kids (K:=K) (op:=op) (num:=num) (args:=args) (k:=0) h.2.2.2
  rw [Qi,Z4.sz,Z4.sz];omega
theorem OE:∀(bs:List Z5) {K:LI} {op num:Int} {args:LI} {k:Nat},Ja ds bs->YQ (Uk ds K op num args bs k)<=YQ bs
 | [],_,_,_,_,_,_=>YU _
 | b::r,K,op,num,args,k,h=>by
  have h2:=OE r (K:=K) (op:=op) (num:=num) (args:=args) (k:=k+1) h.2
  have key:∀K2:LI,(VT (Wn ds K2 b) (gI args 0) (Uh ds num k).length).sz<=b.sz:=fun K2=>by
   have h1:=HV b (K:=K2) h.1
   have h3:=Oo (xs:=(Wn ds K2 b).steps) (x:=gI args 0) (many:=(Uh ds num k).length) (by
    rw [Fc,Fe]
    intro s hs hc
    obtain ⟨t,ht,rfl⟩:=XC.1 hs
    rw [At] at hc ⊢
    obtain ⟨_,_,a,ha⟩:=FF (JP.1 ((Ka b).1 h.1) t ht) hc
    rw [Z4.sz,ha];simp)
   rw [VT,Z5.sz]
   rw [Z5.sz_eq] at h1
   omega
  rw [Uk,YQ,YQ]
  split
  ·have:=key (if V2 b.steps (gI args 0)<0∨Wi b.steps (Uh ds num k).length<0 then K else gI args 0::K)
   omega
  ·have:=HV b (K:=K) h.1
   omega
theorem OG:∀(xs:List Z4) {K:LI},TX ds xs->Yj (Ul ds K xs)<=Yj xs
 | [],_,_=>YU _
 | s::r,K,h=>by
  have h1:=Z8n s (K:=K) h.1
  have h2:=OG r (K:=K) h.2
  rw [Ul,Yj,Yj];omega
theorem HV:∀(b:Z5) {K:LI},wB ds b->(Wn ds K b).sz<=b.sz
 | .mk steps result,K,h=>by
  have:=OG steps (K:=K) h
  rw [Wn,Z5.sz,Z5.sz];omega
end
end
theorem Hs:∀{xs:List Z4} {i:Nat} {s t:Z4},xs[i]? = some s->Yb t.op=Yb s.op->YI (xs.set i t)=YI xs
 | [],_,_,_,h,_=>by simp at h
 | x::r,0,s,t,h,e=>by simp at h;subst h;rw [List.set_cons_zero,YI,YI,e]
 | x::r,i+1,s,t,h,e=>by
  rw [List.set_cons_succ,YI,YI,Hs (xs:=r) (i:=i) (by simpa using h) e]
theorem Z5g {xs:List Z4} {x:Int} {many:Nat}:YI (VX xs x many)=YI xs:=by
 rw [VX]
 split
 ·rfl
 ·rename_i hq
  obtain ⟨_,_,s,h3,h4,_⟩:=Di (fun z=>hq (.inl z))
  obtain ⟨_,_,t,h5,_,h6⟩:=A8 (fun z=>hq (.inr z))
  rw [Hs (Fb hq (t:=Zw 17 x) h5) (by rw [h6];rfl),Hs h3 (by rw [h4];rfl)]
theorem IW {op x:Int}:∀{xs:List Z4} {k:Int},(∀s∈xs,s.op≠op)->XN op x xs k=-1
 | [],_,_=>rfl
 | s::r,k,h=>by
  rw [XN,Za (fun z=>h s (X4 ..) z.1)]
  exact IW fun t ht=>h t (Xu _ ht)
theorem IX {op x:Int}:∀{xs:List Z4} {k:Int},0<=k->(∃s∈xs,s.op=op/\gI s.args 0=x)->0<=XN op x xs k
 | [],_,_,h=>by obtain ⟨s,hs,_⟩:=h;cases hs
 | s::r,k,hk,h=>by
  rw [XN]
  split
  ·exact hk
  ·rename_i q
   obtain ⟨t,ht,h1⟩:=h
   rcases YE.1 ht with rfl|ht
   ·exact absurd h1 q
   ·exact IX om ⟨t,ht,h1⟩
theorem Px {xs:List Z4} {x:Int} {many:Nat} (hn:An xs):0<=XN 17 x ((VX xs x many).take (YI (VX xs x many))) 0↔¬(V2 xs x<0∨Wi xs many<0):=by
 rw [Z5g]
 constructor
 ·intro h hq
  rw [VX,Zk hq,IW (fun s hs=>((C4 s).1 (Dd.1 hn s (TY hs))).1)] at h
  omega
 ·intro hq
  obtain ⟨h1,h2,s,h3,h4,_⟩:=Di (fun z=>hq (.inl z))
  have hap:=Lk hq
  refine IX (Int.le_refl 0) ⟨Zw 17 x,?_,rfl,rfl⟩
  rw [VX,Za hq]
  refine ZZ (i:=(V2 xs x).toNat) ?_
  rw [List.getElem?_take_of_lt om,List.getElem?_set_ne om,List.getElem?_set_self (XB.1 h3).1]
def Ao (b:Z5):Prop:=∀s∈b.steps,Am s.kids
theorem Bf {b:Z5} (h:Qe b):Ao b:=fun s hs=>((C4 s).1 (Dd.1 ((Dc b).1 h) s hs)).2
theorem Z6b {b:Z5} {k j:Nat} {s:Z4} {c:Z5} (h:Ao b) (hs:b.steps[k]? = some s) (hc:s.kids[j]? = some c):Qe c:=EY.1 (h s (ZZ hs)) c (ZZ hc)
theorem Nr {b:Z5} {x:Int} {many:Nat} (h:Qe b):Ao (VT b x many):=by
 intro s hs
 have hs:s∈VX b.steps x many:=hs
 rw [VX] at hs
 split at hs
 ·exact Bf h s hs
 ·rename_i hq
  obtain ⟨_,_,t,h5,_,h6⟩:=A8 (fun z=>hq (.inr z))
  rcases List.mem_or_eq_of_mem_set hs with hs|rfl
  ·rcases List.mem_or_eq_of_mem_set hs with hs|rfl
   ·exact Bf h s hs
   ·exact True.intro
  ·rw [h6];exact Bf h t (ZZ h5)
theorem Z7v {ds:List Zd} {b:Z5} {x:Int} {many:Nat} (h:wB ds b):(VT b x many).sz<=b.sz:=by
 have:=Oo (xs:=b.steps) (x:=x) (many:=many) fun s hs hc=>by
  have h7:=FQ ((Ka b).1 h) s hs hc
  rw [h7,DZ];omega
 rw [VT,Z5.sz,b.sz_eq];omega
def As (ds:List Zd) (r:ZX):ZX:=⟨r.params,r.lent,r.result,Wn ds [] r.body⟩
def Fd (n:Zr):Zr:=⟨n.decls,n.routines.map (As n.decls)⟩
mutual
def Ar:Z4->Bool
 | .mk op _ into _ kids=>(!Yb op&&into==0)&&TO kids
def U9:Z5->Bool
 | .mk steps _=>TP steps
def TP:List Z4->Bool
 | []=>true
 | s::r=>Ar s&&TP r
def TO:List Z5->Bool
 | []=>true
 | b::r=>U9 b&&TO r
end
theorem Z74 (b:Z5):U9 b=TP b.steps:=by cases b;rw [U9];rfl
theorem NT (s:Z4):Ar s=((!Yb s.op&&s.into==0)&&TO s.kids):=by cases s;rw [Ar];rfl
def T2:List ZX->Bool
 | []=>true
 | r::rs=>U9 r.body&&T2 rs
def QV (n:Zr):Bool:=YS n&&T2 n.routines
theorem Z7a {xs:List Z4} {k:Nat} {s:Z4} {v w:Bool} (h:xs[k]? = some s) (ha:(v&&TP (xs.drop k))=w):((v&&Ar s)&&TP (xs.drop (k+1)))=w:=by
 rw [Y3 h,TP] at ha;rw [Bool.and_assoc];exact ha
theorem Z79 {xs:List Z4} {k:Nat} {v w:Bool} (h:xs.length<=k) (ha:(v&&TP (xs.drop k))=w):v=w:=by
 rw [X5 h,TP,Bool.and_true] at ha;exact ha
theorem Z7e {xs:List Z5} {k:Nat} {s:Z5} {v w:Bool} (h:xs[k]? = some s) (ha:(v&&TO (xs.drop k))=w):((v&&U9 s)&&TO (xs.drop (k+1)))=w:=by
 rw [Y3 h,TO] at ha;rw [Bool.and_assoc];exact ha
theorem Z7d {xs:List Z5} {k:Nat} {v w:Bool} (h:xs.length<=k) (ha:(v&&TO (xs.drop k))=w):v=w:=by
 rw [X5 h,TO,Bool.and_true] at ha;exact ha
theorem NW {xs:List ZX} {k:Nat} {s:ZX} (h:xs[k]? = some s):T2 (xs.drop k)=(U9 s.body&&T2 (xs.drop (k+1))):=by rw [Y3 h,T2]
theorem Z7h {xs:List ZX} {k:Nat} {s:ZX} {w:Bool} (h:xs[k]? = some s) (hs:U9 s.body=true) (ha:T2 (xs.drop k)=w):T2 (xs.drop (k+1))=w:=by
 rw [NW h,hs,Bool.true_and] at ha;exact ha
theorem Z7g {xs:List ZX} {k:Nat} {w:Bool} (h:xs.length<=k) (ha:T2 (xs.drop k)=w):true=w:=by
 rw [X5 h,T2] at ha;exact ha
theorem Z7f {xs:List ZX} {k:Nat} {s:ZX} {w:Bool} (h:xs[k]? = some s) (hs:¬U9 s.body=true) (ha:T2 (xs.drop k)=w):false=w:=by
 rw [NW h,TB.2 hs,Bool.false_and] at ha;exact ha
theorem Z08 {xs ys:LI} (h:xs.length=ys.length) (ha:∀i,i<xs.length->xs[i]? = ys[i]?):xs=ys:=List.ext_getElem? fun i=>by
 by_cases hi:i<xs.length
 ·exact ha i hi
 ·rw [Cj om,Cj om]
theorem SB {n:Zr} {us:LI} {s:Z4} (h:¬Y4 n us s<0):Xv s.op=!Yb s.op:=by
 obtain ⟨op,num,into,args,kids⟩:=s
 rw [Y4] at h
 show Xv op=!Yb op
 by_cases h0:(0<=op/\op<=11)∨(14<=op/\op<=17)
 ·rcases h0 with h0|h0
  ·have e1:Xv op=true:=by simp [Xv];omega
   have e2:Yb op=false:=by simp [Yb];omega
   rw [e1,e2];rfl
  ·have e1:Xv op=false:=by simp [Xv];omega
   have e2:Yb op=true:=by simp [Yb];omega
   rw [e1,e2];rfl
 ·exfalso
  apply h
  repeat' split
  all_goals first|omega|decide
mutual
def Z1.sz:Z1->Nat
 | .mk _ _ kids=>1+Xh kids
def Xh:List Z1->Nat
 | []=>0
 | e::r=>e.sz+Xh r
end
theorem Z1.sz_eq (e:Z1):e.sz=1+Xh e.kids:=by cases e;rw [Z1.sz];rfl
theorem CE:∀xs ys:List Z1,Xh (xs++ys)=Xh xs+Xh ys
 | [],ys=>by simp [Xh]
 | x::r,ys=>by rw [Qn,Xh,Xh,CE r];omega
theorem B1:∀{xs:List Z1} {k:Nat} {e:Z1},xs[k]? = some e->e.sz<=Xh xs
 | [],k,e,h=>by simp at h
 | x::r,0,e,h=>by simp at h;subst h;rw [Xh];omega
 | x::r,k+1,e,h=>by have:=B1 (xs:=r) (k:=k) (by simpa using h);rw [Xh];omega
theorem LJ:∀{xs:List Z1},xs.length<=Xh xs
 | []=>Ke _
 | x::r=>by have:=LJ (xs:=r);have:=x.sz_eq;rw [Xh,YK];omega
def Jn:Zd:=⟨0,0,[⟨[]⟩,⟨[0,1]⟩]⟩
def Jo:Zd:=⟨0,0,[⟨[]⟩,⟨[3,0,3]⟩]⟩
def Lp:List Zd:=[⟨0,0,[⟨[1,3]⟩]⟩,⟨1,0,[]⟩,⟨0,0,[⟨[1,1,0]⟩,⟨[0]⟩,⟨[3]⟩]⟩,⟨0,1,[]⟩]
def Jz:List (List Zd):=[[Jn,⟨0,0,[]⟩,Jo],[Jn,⟨0,0,[]⟩,Jo,⟨0,0,[⟨[1,3]⟩]⟩],[Jn,⟨0,0,[]⟩,Jo,⟨1,0,[]⟩],[Jn,⟨0,0,[]⟩,Jo,⟨0,0,[⟨[1,1,0]⟩,⟨[0]⟩,⟨[3]⟩]⟩],[Jn,⟨0,0,[]⟩,Jo,⟨0,1,[]⟩]]
def GD (ds:List Zd):Prop:=ds∈Jz
theorem GD.ok {ds:List Zd} (h:GD ds):W1 ds:=by
 have k:=(by decide:∀ds∈Jz,ds.length<=4/\(∀d∈ds,d.cons.length<=3)/\∀d∈ds,∀c∈d.cons,c.fields.length<=3) ds h
 exact ⟨k.1,k.2.1,k.2.2⟩
theorem GD.len {ds:List Zd} (h:GD ds):3<=ds.length/\ds.length<=4:=by
 exact (by decide:∀ds∈Jz,3<=ds.length/\ds.length<=4) ds h
def QZ (t:Int):Prop:=t=0∨t=1∨t=3
instance (t:Int):Decidable (QZ t):=inferInstanceAs (Decidable (_∨_∨_))
theorem GD.low {ds:List Zd} (h:GD ds):ZQ ds 0=[]/\ZQ ds 1=[0,1]/\ZQ ds 2=[]/\ZQ ds 3=[2,3]/\ZP ds 0=[]/\ZP ds 1=[0,1]/\ZP ds 2=[]/\ZP ds 3=[3,0,3]:=
 (by decide:∀ds∈Jz,ZQ ds 0=[]/\ZQ ds 1=[0,1]/\ZQ ds 2=[]/\ZQ ds 3=[2,3]/\ZP ds 0=[]/\ZP ds 1=[0,1]/\ZP ds 2=[]/\ZP ds 3=[3,0,3]) ds h
theorem GD.fields {ds:List Zd} (h:GD ds):∀c∈ZQ ds 1++(ZQ ds 3++ZQ ds 4),∀t∈ZP ds c,QZ t:=
 (by decide:∀ds∈Jz,∀c∈ZQ ds 1++(ZQ ds 3++ZQ ds 4),∀t∈ZP ds c,QZ t) ds h
theorem GD.cons_cases {ds:List Zd} (h:GD ds) {t:Int} {c:Int} (hc:c∈ZQ ds t):(0<=c/\c<=9)/\(t=1∨t=3∨t=4)/\(ZP ds c).length<=3/\∀u∈ZP ds c,QZ u:=by
 have ht:1<=t/\t<=ds.length:=by
  by_cases q:1<=t/\t<=ds.length
  ·exact q
  ·rw [ZQ,Za q] at hc;cases hc
 have hl:=h.len
 have hlow:=h.low
 have key:∀c∈ZQ ds 1++(ZQ ds 3++ZQ ds 4),0<=c/\c<=9:=
  (by decide:∀ds∈Jz,∀c∈ZQ ds 1++(ZQ ds 3++ZQ ds 4),0<=c/\c<=9) ds h
 have h4:t=1∨t=2∨t=3∨t=4:=by omega
 have hf:=h.fields
 have hd:=VN h.ok c
 rcases h4 with rfl|rfl|rfl|rfl
 ·exact ⟨key c (X3.2 (.inl hc)),.inl rfl,hd,hf c (X3.2 (.inl hc))⟩
 ·rw [hlow.2.2.1] at hc;cases hc
 ·exact ⟨key c (X3.2 (.inr (X3.2 (.inl hc)))),.inr (.inl rfl),hd,hf c (X3.2 (.inr (X3.2 (.inl hc))))⟩
 ·exact ⟨key c (X3.2 (.inr (X3.2 (.inr hc)))),.inr (.inr rfl),hd,hf c (X3.2 (.inr (X3.2 (.inr hc))))⟩
def KD:List (LI × Int):=[([],0),([1],0),([1,1],1),([1],1),([1,0],1),([2,1],1),([1,1],0),([3],0),([0],1),([0,1],1),([3,0],3),([3],1),([1,3,0],0),([0],0),([0,0],0),([1,0],0)]
def UV (f:Func):Prop:=(f.params,f.result)∈KD
theorem UV.bd {f:Func} (h:UV f):f.params.length<=3/\(∀t∈f.params,0<=t/\t<=3)/\QZ f.result:=by
 have key:∀q∈KD,q.1.length<=3/\(∀t∈q.1,0<=t/\t<=3)/\QZ q.2:=by decide
 exact key _ h
theorem UV.clo {ds:List Zd} {f:Func} (hd:GD ds) (h:UV f) (hp:0<VM ds (gI f.params ((f.params.length:Int)-1)) f.result):∀t∈f.params.dropLast,QZ t:=by
 have key:∀q∈KD,0<VM ds (gI q.1 ((q.1.length:Int)-1)) q.2->∀t∈q.1.dropLast,QZ t:=
  (by decide +kernel:∀ds∈Jz,∀q∈KD,0<VM ds (gI q.1 ((q.1.length:Int)-1)) q.2->∀t∈q.1.dropLast,QZ t) ds hd
 exact key _ h hp
structure GP (p:XM):Prop where
 decls:GD p.decls
 len:1<=p.funcs.length/\p.funcs.length<=4
 sigs:∀f∈p.funcs,UV f
def Ti (ds:List Zd) (op num:Int) (m:Nat) (k:Nat):Nat:=
 if op=13 then m+k else if op=8 then (if k=0 then m else m+(ZP ds (gI (ZQ ds num) ((k:Int)-1))).length) else m
mutual
def eW (ds:List Zd) (nf:Nat):Nat->Z1->Prop
 | m,.mk op num kids=>(0<=op/\op<=13)/\(op=12->kids=[]/\0<=num/\num<m)/\(op=13->kids.length=2)/\(op=7->kids.length=3)/\(op=8->kids.length=1+(ZQ ds num).length)/\(op=9->0<=num/\num<nf)/\(-2000<=num/\num<=2000)/\kids.length<=4 /\
  Q5 ds nf (Ti ds op num m) 0 kids
def Q5 (ds:List Zd) (nf:Nat) (sc:Nat->Nat):Nat->List Z1->Prop
 | _,[]=>True
 | k,e::r=>eW ds nf (sc k) e/\Q5 ds nf sc (k+1) r
end
theorem Z03 {ds:List Zd} {nf m:Nat} (e:Z1):eW ds nf m e↔(0<=e.op/\e.op<=13)/\(e.op=12->e.kids=[]/\0<=e.num/\e.num<m)/\(e.op=13->e.kids.length=2)/\(e.op=7->e.kids.length=3)/\(e.op=8->e.kids.length=1+(ZQ ds e.num).length)/\(e.op=9->0<=e.num/\e.num<nf)/\(-2000<=e.num/\e.num<=2000)/\e.kids.length<=4 /\
  Q5 ds nf (Ti ds e.op e.num m) 0 e.kids:=by cases e;rw [eW];rfl
theorem BK {ds:List Zd} {nf:Nat} {sc:Nat->Nat}:∀{xs:List Z1} {j k:Nat} {e:Z1},Q5 ds nf sc j xs->xs[k]? = some e->eW ds nf (sc (j+k)) e
 | [],j,k,e,_,h=>by simp at h
 | x::r,j,0,e,hw,h=>by simp at h;subst h;exact hw.1
 | x::r,j,k+1,e,hw,h=>by
  have:=BK (xs:=r) (j:=j+1) (k:=k) hw.2 (by simpa using h)
  rw [show j+(k+1)=j+1+k by omega];exact this
theorem LE {ds:List Zd} {nf:Nat} {sc:Nat->Nat}:∀{xs ys:List Z1} {j:Nat},Q5 ds nf sc j (xs++ys)↔Q5 ds nf sc j xs/\Q5 ds nf sc (j+xs.length) ys
 | [],ys,j=>by simp [Q5]
 | x::r,ys,j=>by
  rw [Qn,Q5,Q5,LE (xs:=r),and_assoc,YK,show j+1+r.length=j+(r.length+1) by omega]
theorem GJ {ds:List Zd} {nf m:Nat} {sc:Nat->Nat} (hs:∀k,sc k=m):∀{xs:List Z1} {j:Nat},(∀e∈xs,eW ds nf m e)->Q5 ds nf sc j xs
 | [],_,_=>True.intro
 | x::r,j,h=>⟨by rw [hs];exact h x (X4 ..),GJ hs fun e he=>h e (Xu _ he)⟩
theorem B0 {ds:List Zd} {nf m:Nat} {op num:Int} {kids:List Z1} (ho:0<=op/\op<=11/\op≠7/\op≠8) (hc:op=9->0<=num/\num<nf) (hn:-2000<=num/\num<=2000) (hl:kids.length<=4) (hk:∀e∈kids,eW ds nf m e):eW ds nf m (.mk op num kids):=by
 rw [eW]
 refine ⟨by omega,fun h=>by omega,fun h=>by omega,fun h=>by omega,fun h=>by omega,hc,hn,hl,GJ (m:=m) (fun k=>?_) hk⟩
 rw [Ti,Za om,Za om]
theorem Z04 {ds:List Zd} {nf m:Nat} {z:Int} (hz:-2000<=z/\z<=2000):eW ds nf m (.mk 0 z []):=B0 om (fun h=>by omega) hz (by simp) (fun e he=>by cases he)
theorem Z05 {ds:List Zd} {nf m:Nat} {z:Int} (hz:0<=z/\z<m) (hm:m<=2000):eW ds nf m (.mk 12 z []):=by
 rw [eW]
 exact ⟨by omega,fun _=>⟨rfl,hz⟩,fun h=>by omega,fun h=>by omega,fun h=>by omega,fun h=>by omega,by omega,by simp,True.intro⟩
theorem LA {ds:List Zd} {nf m:Nat} {num:Int} {kids:List Z1} (hn:-2000<=num/\num<=2000) (hl:kids.length=3) (hk:∀e∈kids,eW ds nf m e):eW ds nf m (.mk 7 num kids):=by
 rw [eW]
 refine ⟨by omega,fun h=>by omega,fun h=>by omega,fun _=>hl,fun h=>by omega,fun h=>by omega,hn,by omega,GJ (m:=m) (fun k=>?_) hk⟩
 rw [Ti,Za om,Za om]
theorem LD {ds:List Zd} {nf m:Nat} {num:Int} {a b:Z1} (hn:-2000<=num/\num<=2000) (ha:eW ds nf m a) (hb:eW ds nf (m+1) b):eW ds nf m (.mk 13 num [a,b]):=by
 rw [eW]
 exact ⟨by omega,fun h=>by omega,fun _=>rfl,fun h=>by omega,fun h=>by omega,fun h=>by omega,hn,by simp,ha,hb,True.intro⟩
theorem GI {ds:List Zd} {nf m:Nat} {num:Int} {a:Z1} {arms:List Z1} (hn:-2000<=num/\num<=2000) (h3:arms.length<=3) (hl:arms.length=(ZQ ds num).length) (ha:eW ds nf m a) (hk:Q5 ds nf (Ti ds 8 num m) 1 arms):eW ds nf m (.mk 8 num (a::arms)):=by
 rw [eW]
 refine ⟨by omega,fun h=>by omega,fun h=>by omega,fun h=>by omega,fun _=>by rw [YK];omega,fun h=>by omega,hn,by rw [YK];omega,?_,hk⟩
 rw [Ti,Za om,Zk rfl,Zk rfl]
 exact ha
def bS (b:Nat):Nat:=max 4 (10*b-10)
def bC (b:Nat):Nat:=max 40 (100*b-100)
def YM:List Z4->Nat
 | []=>0
 | s::r=>(if Yb s.op=true then 0 else 1)+YM r
theorem Kj:∀xs ys:List Z4,YM (xs++ys)=YM xs+YM ys
 | [],ys=>by simp [YM]
 | x::r,ys=>by rw [Qn,YM,YM,Kj r];omega
theorem AY:∀xs:List Z4,YM xs<=xs.length
 | []=>YU _
 | x::r=>by have:=AY r;rw [YM,YK];split<;>omega
def UA (ds:List Zd) (op num:Int) (m:Nat) (k:Nat):Nat:=if op=8 then m+(ZP ds (gI (ZQ ds num) k)).length else m
mutual
def fS (ds:List Zd) (nf:Nat):Nat->Z4->Prop
 | m,.mk op num into args kids=>((0<=op/\op<=11)∨(14<=op/\op<=17))/\(∀a∈args,0<=a/\a<m)/\(14<=op->num=0/\into=0/\kids=[]/\∃a,args=[a])/\(op=7->kids.length=2)/\(op=8->kids.length=(ZQ ds num).length)/\(op=7∨op=8->∃a,args=[a]) /\
  (op=9->0<=num/\num<nf)/\(-2000<=num/\num<=2000)/\(0<=into/\into<=m)/\args.length<=4/\(op≠7/\op≠8->kids=[])/\T8 ds nf (UA ds op num m) 0 kids
def T8 (ds:List Zd) (nf:Nat) (sc:Nat->Nat):Nat->List Z5->Prop
 | _,[]=>True
 | k,b::r=>fB ds nf (sc k) b/\T8 ds nf sc (k+1) r
def UK (ds:List Zd) (nf:Nat):Nat->List Z4->Prop
 | _,[]=>True
 | m,s::r=>fS ds nf m s/\UK ds nf (if Yb s.op=true then m else m+1) r
def fB (ds:List Zd) (nf:Nat):Nat->Z5->Prop
 | m,.mk steps result=>UK ds nf m steps/\0<=result/\result<(m+YM steps:Nat)
end
section
variable {ds:List Zd} {nf:Nat}
structure FS (ds:List Zd) (nf m:Nat) (s:Z4):Prop where
 op:(0<=s.op/\s.op<=11)∨(14<=s.op/\s.op<=17)
 args:∀a∈s.args,0<=a/\a<m
 cnt:14<=s.op->s.num=0/\s.into=0/\s.kids=[]/\∃a,s.args=[a]
 k7:s.op=7->s.kids.length=2
 k8:s.op=8->s.kids.length=(ZQ ds s.num).length
 one:s.op=7∨s.op=8->∃a,s.args=[a]
 call:s.op=9->0<=s.num/\s.num<nf
 num:-2000<=s.num/\s.num<=2000
 into:0<=s.into/\s.into<=m
 alen:s.args.length<=4
 kn:s.op≠7/\s.op≠8->s.kids=[]
 kids:T8 ds nf (UA ds s.op s.num m) 0 s.kids
theorem Ee {m:Nat} (s:Z4):fS ds nf m s↔FS ds nf m s:=by
 cases s
 rw [fS]
 exact ⟨fun ⟨h1,h2,h3,h4,h5,h6,h7,h8,h9,h10,h11,h12⟩=>⟨h1,h2,h3,h4,h5,h6,h7,h8,h9,h10,h11,h12⟩,fun h=>⟨h.op,h.args,h.cnt,h.k7,h.k8,h.one,h.call,h.num,h.into,h.alen,h.kn,h.kids⟩⟩
theorem CG {m:Nat} (b:Z5):fB ds nf m b↔UK ds nf m b.steps/\0<=b.result/\b.result<(m+YM b.steps:Nat):=by cases b;rw [fB];rfl
theorem CH {sc:Nat->Nat}:∀{xs:List Z5} {j k:Nat} {b:Z5},T8 ds nf sc j xs->xs[k]? = some b->fB ds nf (sc (j+k)) b
 | [],j,k,b,_,h=>by simp at h
 | x::r,j,0,b,hw,h=>by simp at h;subst h;exact hw.1
 | x::r,j,k+1,b,hw,h=>by
  have:=CH (xs:=r) (j:=j+1) (k:=k) hw.2 (by simpa using h)
  rw [show j+(k+1)=j+1+k by omega];exact this
theorem LL {sc:Nat->Nat}:∀{xs ys:List Z5} {j:Nat},T8 ds nf sc j (xs++ys)↔T8 ds nf sc j xs/\T8 ds nf sc (j+xs.length) ys
 | [],ys,j=>by simp [T8]
 | x::r,ys,j=>by
  rw [Qn,T8,T8,LL (xs:=r),and_assoc,YK,show j+1+r.length=j+(r.length+1) by omega]
theorem LM {sc:Nat->Nat} {xs:List Z5} {b:Z5} (h:T8 ds nf sc 0 xs) (hb:fB ds nf (sc xs.length) b):T8 ds nf sc 0 (xs++[b]):=
 LL.2 ⟨h,by rw [WP];exact hb,True.intro⟩
theorem BM:∀{xs ys:List Z4} {m:Nat},UK ds nf m (xs++ys)↔UK ds nf m xs/\UK ds nf (m+YM xs) ys
 | [],ys,m=>by simp [UK,YM]
 | x::r,ys,m=>by
  rw [Qn,UK,UK,BM (xs:=r),and_assoc,YM]
  by_cases h:Yb x.op=true
  ·rw [Zk h,Zk h,WP]
  ·rw [Za h,Za h,JT]
theorem Ef {xs:List Z4} {s:Z4} {m:Nat} (h:UK ds nf m xs) (hs:fS ds nf (m+YM xs) s):UK ds nf m (xs++[s]):=BM.2 ⟨h,hs,True.intro⟩
theorem CI:∀{xs:List Z4} {k m:Nat} {s:Z4},UK ds nf m xs->xs[k]? = some s->fS ds nf (m+YM (xs.take k)) s
 | [],k,m,s,_,h=>by simp at h
 | x::r,0,m,s,hw,h=>by simp at h;subst h;exact hw.1
 | x::r,k+1,m,s,hw,h=>by
  have:=CI (xs:=r) (k:=k) hw.2 (by simpa using h)
  rw [Bs,YM]
  by_cases hc:Yb x.op=true
  ·rw [Zk hc] at this ⊢;rw [WP];exact this
  ·rw [Za hc] at this ⊢;rw [<-JT];exact this
mutual
theorem Zch:∀(s:Z4) {m:Nat},fS ds nf m s->m+4*s.sz<=900000000->W1 ds->wS ds s
 | .mk op num into args kids,m,h,hb,hd=>by
  rw [fS] at h
  obtain ⟨h1,h2,h3,h4,h5,h6,h7,h8,h9,h10,h11,h12⟩:=h
  rw [Z4.sz] at hb
  rw [wS]
  refine ⟨?_,fun hc=>h3 (show 14<=op/\op<=17 by simpa [Yb] using hc).1,fun h8'=>⟨?_,h5 h8'⟩,PM kids h12 (fun k=>?_) hd⟩
  ·rcases h1 with h1|h1
   ·have e1:Yb op=false:=by simp [Yb];omega
    have e2:Xv op=true:=by simp [Xv];omega
    rw [e1,e2];rfl
   ·have e1:Yb op=true:=by simp [Yb];omega
    have e2:Xv op=false:=by simp [Xv];omega
    rw [e1,e2];rfl
  ·obtain ⟨a,ha⟩:=h6 (.inr h8')
   have:=h2 a (by rw [ha];exact XT.2 rfl)
   exact ⟨a,ha,by omega⟩
  ·have hf:=VN hd (gI (ZQ ds num) k)
   show UA ds op num m k+4*YQ kids<=900000003
   rw [UA];split<;>omega
theorem PM:∀(bs:List Z5) {sc:Nat->Nat} {k:Nat},T8 ds nf sc k bs->(∀k,sc k+4*YQ bs<=900000003)->W1 ds->Ja ds bs
 | [],_,_,_,_,_=>True.intro
 | b::r,sc,k,h,hb,hd=>by
  have hp:=b.sz_eq
  exact ⟨PK b h.1 (by have:=hb k;rw [YQ] at this;omega) hd,PM r h.2 (fun j=>by have:=hb j;rw [YQ] at this;omega) hd⟩
theorem PO:∀(xs:List Z4) {m:Nat},UK ds nf m xs->m+4*Yj xs<=900000000->W1 ds->TX ds xs
 | [],_,_,_,_=>True.intro
 | s::r,m,h,hb,hd=>by
  rw [Yj] at hb
  have hp:=s.sz_pos
  refine ⟨Zch s h.1 om hd,PO r h.2 ?_ hd⟩
  split<;>omega
theorem PK:∀(b:Z5) {m:Nat},fB ds nf m b->m+4*b.sz<=900000004->W1 ds->wB ds b
 | .mk steps result,m,h,hb,hd=>by
  rw [Z5.sz] at hb
  rw [fB] at h
  rw [wB]
  exact PO steps h.1 om hd
end
mutual
theorem Z80:∀(s:Z4) {m:Nat},fS ds nf m s->s.rng
 | .mk op num into args kids,m,h=>by
  rw [fS] at h
  obtain ⟨h1,h2,h3,h4,h5,h6,h7,h8,h9,h10,h11,h12⟩:=h
  rw [Z4.rng]
  exact ⟨by omega,Ot kids h12⟩
theorem Ot:∀(bs:List Z5) {sc:Nat->Nat} {k:Nat},T8 ds nf sc k bs->UW bs
 | [],_,_,_=>True.intro
 | b::r,sc,k,h=>⟨HO b h.1,Ot r h.2⟩
theorem Ou:∀(xs:List Z4) {m:Nat},UK ds nf m xs->Tl xs
 | [],_,_=>True.intro
 | s::r,m,h=>⟨Z80 s h.1,Ou r h.2⟩
theorem HO:∀(b:Z5) {m:Nat},fB ds nf m b->b.rng
 | .mk steps result,m,h=>by rw [fB] at h;rw [Z5.rng];exact Ou steps h.1
end
end
structure FN (n:Zr) (q:Nat):Prop where
 decls:GD n.decls
 len:1<=n.routines.length/\n.routines.length<=4
 sigs:∀r∈n.routines,(r.params,r.result)∈KD
 lent:∀r∈n.routines,r.lent.length<=3/\∀i∈r.lent,0<=i/\i<r.params.length
 body:∀r∈n.routines,fB n.decls n.routines.length r.params.length r.body/\r.body.sz<=q
theorem FN.ok {n:Zr} {q:Nat} (h:FN n q):X1 n:=
 ⟨h.decls.ok,h.len.2,fun r hr=>(UV.bd (f:=⟨r.params,r.result,default⟩) (h.sigs r hr)).1,fun r hr=>by have:=(h.lent r hr).1;omega⟩
def Pk (n k:Int):Prop:=0<=k/\(0<n->k<n)/\(n<=0->k=0)
theorem Pk.lt {n k:Int} (h:Pk n k) (hn:0<n):0<=k/\k<n:=⟨h.1,h.2.1 hn⟩
theorem Pk.zero {n:Int}:Pk n 0:=⟨Int.le_refl _,fun h=>h,fun _=>rfl⟩
theorem Pk.rem {n a:Int} (ha:0<=a) (hn:0<n):Pk n (a % n):=⟨Int.emod_nonneg _ om,fun _=>Int.emod_lt_of_pos _ hn,fun _=>by omega⟩
def AD (ds:List Zd):Prop:=ds.length<=8/\∀d∈ds,d.cons.length<=4/\∀c∈d.cons,c.fields.length<=4
theorem GD.ad {ds:List Zd} (h:GD ds):AD ds:=(by decide:∀ds∈Jz,ds.length<=8/\∀d∈ds,d.cons.length<=4/\∀c∈d.cons,c.fields.length<=4) ds h
theorem AD.set {ds:List Zd} (h:AD ds) (k:Nat) {d:Zd} (hd:d.cons.length<=4/\∀c∈d.cons,c.fields.length<=4):AD (ds.set k d):=
 ⟨by rw [T3];exact h.1,fun x hx=>(List.mem_or_eq_of_mem_set hx).elim (h.2 x) fun e=>by rw [e];exact hd⟩
theorem AD.app {ds es:List Zd} (h:AD ds) (hl:ds.length+es.length<=8) (hd:∀d∈es,d.cons.length<=4/\∀c∈d.cons,c.fields.length<=4):AD (ds++es):=
 ⟨by rw [Yn];exact hl,fun x hx=>(X3.1 hx).elim (h.2 x) (hd x)⟩
theorem GD.three:GD [Jn,⟨0,0,[]⟩,Jo]:=List.Mem.head _
theorem GD.four:∀{k:Nat} {x:Zd},Lp[k]? = some x->GD ([Jn,⟨0,0,[]⟩,Jo]++[x])
 | 0,x,h=>by cases h;exact .tail _ (.head _)
 | 1,x,h=>by cases h;exact .tail _ (.tail _ (.head _))
 | 2,x,h=>by cases h;exact .tail _ (.tail _ (.tail _ (.head _)))
 | 3,x,h=>by cases h;exact .tail _ (.tail _ (.tail _ (.tail _ (.head _))))
 | k+4,x,h=>by simp [Lp] at h
theorem Ap {l:LI} {z a b:Int} (h:z∈l) (hl:l.all (fun x=>decide (a<=x/\x<=b))=true):a<=z/\z<=b:=by
 have:=Kz.1 hl z h
 exact of_decide_eq_true this
def rk (t:Int):Nat:=if QZ t then 0 else 1
theorem HN (t:Int):rk t<=1:=by rw [rk];split<;>omega
theorem Oq {t:Int} (h:QZ t):rk t=0:=Zk h
def SE (g:XM) (q:Nat) (e:Z1):Prop:=(∀m,eW g.decls g.funcs.length m e)/\e.sz<=q
def GE (g:XM) (m q:Nat) (e:Z1):Prop:=eW g.decls g.funcs.length m e/\e.sz<=q
theorem SE.ge {g:XM} {q q' m:Nat} {e:Z1} (h:SE g q e) (hq:q<=q'):GE g m q' e:=⟨h.1 m,WO h.2 hq⟩
theorem GE.le {g:XM} {m q q':Nat} {e:Z1} (h:GE g m q e) (hq:q<=q'):GE g m q' e:=⟨h.1,WO h.2 hq⟩
theorem Ed {m:Nat}:∀{xs:List Z1},(∀e∈xs,e.sz<=m)->Xh xs<=xs.length*m
 | [],_=>Ke _
 | x::r,h=>by
  have h1:=h x (X4 ..)
  have h2:=Ed (xs:=r) fun e he=>h e (Xu _ he)
  rw [Xh,YK,TD];omega
theorem Xj {α:Type} {p:α->Prop} {xs:List α} {a:α} (h:∀x∈xs,p x) (ha:p a):∀x∈xs++[a],p x:=fun x hx=>(X3.1 hx).elim (h x) fun q=>by rw [XT.1 q];exact ha
theorem SE.int {g:XM} {z:Int} {q:Nat} (hz:-2000<=z/\z<=2000) (hq:1<=q):SE g q (.mk 0 z []):=⟨fun _=>Z04 hz,by simpa [Z1.sz,Xh] using hq⟩
theorem SE.node {g:XM} {op num:Int} {ys:List Z1} {q k:Nat} (ho:op=6∨op=10) (hn:0<=num/\num<=2000) (hy:∀e∈ys,SE g 1 e) (hl:ys.length<=k) (hk:k<=3) (hq:1+k<=q):SE g q (.mk op num ys):=by
 refine ⟨fun m=>B0 om (fun h=>by omega) om om fun e he=>(hy e he).1 m,?_⟩
 have:=Ed (xs:=ys) (m:=1) fun e he=>(hy e he).2
 rw [Z1.sz];omega
def JZ (ds:List Zd) (t c:Int):Prop:=(0<=c/\c<=9)/\(ZP ds c).length<=3*rk t/\∀u∈ZP ds c,QZ u
instance (ds:List Zd) (t c:Int):Decidable (JZ ds t c):=inferInstanceAs (Decidable (_/\_/\_))
theorem OO {ds:List Zd} (h:GD ds):∀t∈[(1:Int),2,3,4],∀c∈ZQ ds t,(t∈ZP ds c->∀c0,(ZQ ds t)[0]? = some c0->JZ ds t c0)/\(¬t∈ZP ds c->JZ ds t c):=by
 intro t ht c hc
 have k1:=(by decide:∀ds∈Jz,∀t∈[(1:Int),2,3,4],∀c∈ZQ ds t,(t∈ZP ds c->JZ ds t (gI (ZQ ds t) 0))/\(¬t∈ZP ds c->JZ ds t c)) ds h t ht c hc
 refine ⟨fun q c0 h0=>?_,k1.2⟩
 have:=k1.1 q
 rwa [UY (i:=0) h0] at this
theorem Lm {ds:List Zd} (h:GD ds) {t c:Int} (hc:c∈ZQ ds t):t∈[(1:Int),2,3,4]:=by
 obtain ⟨_,h2,_⟩:=h.cons_cases hc
 rcases h2 with rfl|rfl|rfl<;>simp
theorem Z96 {ds:List Zd} (h:GD ds) {t c c0:Int} (hc:c∈ZQ ds t) (ht:t∈ZP ds c) (h0:(ZQ ds t)[0]? = some c0):JZ ds t c0:=(OO h t (Lm h hc) c hc).1 ht c0 h0
theorem Z95 {ds:List Zd} (h:GD ds) {t c:Int} (hc:c∈ZQ ds t) (ht:¬t∈ZP ds c):JZ ds t c:=(OO h t (Lm h hc) c hc).2 ht
theorem Z7z {ds:List Zd} (h:GD ds) {t:Int} (h0:(ZQ ds t).length=0) (ht:0<t):rk t=1:=by
 rw [rk,Za]
 rintro (q|q|q)
 ·omega
 ·rw [q,h.low.2.1] at h0;cases h0
 ·rw [q,h.low.2.2.2.1] at h0;cases h0
def Je (g:XM) (t i:Int):Prop:=0<=i/\∃f,g.funcs[i.toNat]? = some f/\0<f.params.length/\VM g.decls (gI f.params ((f.params.length:Int)-1)) f.result=t
theorem Je.lt {g:XM} {t i:Int} (h:Je g t i):0<=i/\i<g.funcs.length:=by
 obtain ⟨h1,f,h2,_⟩:=h
 have:=(XB.1 h2).1
 omega
theorem Je.mk {g:XM} {t x2:Int} {k:Nat} {f:Func} (hf:g.funcs[k]? = some f) (hl:0<f.params.length) (hx:f.params[f.params.length-1]? = some x2) (ha:VM g.decls x2 f.result=t):Je g t (k:Int):=by
 refine ⟨by omega,f,by simpa using hf,hl,?_⟩
 rw [UY (i:=(f.params.length:Int)-1) (by rw [show ((f.params.length:Int)-1).toNat=f.params.length-1 by omega];exact hx)]
 exact ha
theorem Je.low {g:XM} {t i u:Int} {f:Func} {j:Nat} (hg:GP g) (h:Je g t i) (ht:0<t) (hf:g.funcs[i.toNat]? = some f) (hj:j+1<f.params.length) (hu:f.params[j]? = some u):rk u=0:=by
 obtain ⟨_,f',h2,_,h4⟩:=h
 have e:f'=f:=JU (h2.symm.trans hf)
 subst e
 have h5:=(hg.sigs f' (ZZ hf)).clo hg.decls (by rw [h4];exact ht)
 refine Oq (h5 u ?_)
 rw [List.dropLast_eq_take]
 exact ZZ (i:=j) (by rw [List.getElem?_take_of_lt om];exact hu)
end Go.Abs
section
namespace Go.Abs
theorem KH (b:Nat):bS b=max 4 (10*b-10):=rfl
theorem KG (b:Nat):bC b=max 40 (100*b-100):=rfl
theorem Db {L q b:Nat} (hL:L<=3) (hb:3<=b) (hq:L*q<=b-1):1+L*bS q<=bS b:=by
 rw [KH,KH]
 have:L=0∨L=1∨L=2∨L=3:=by omega
 rcases this with rfl|rfl|rfl|rfl<;>omega
theorem Z60 {L q b:Nat} (hL:L<=3) (hb:3<=b) (hq:L*q<=b-2):5+L*bS q<=bS b:=by
 rw [KH,KH]
 have:L=0∨L=1∨L=2∨L=3:=by omega
 rcases this with rfl|rfl|rfl|rfl<;>omega
theorem Z5s {b:Nat} (hb:3<=b):1+(bS (b / 2)+bS (b / 2))<=bS b:=by rw [KH,KH];omega
theorem Ri {b:Nat} (hb:3<=b):5+bS (b-2)<=bS b:=by rw [KH,KH];omega
theorem JI {L q b:Nat} (hL:L<=3) (hb:3<=b) (hq:L*q<=b-1):10+L*bC q<=bC b:=by
 rw [KG,KG]
 have:L=0∨L=1∨L=2∨L=3:=by omega
 rcases this with rfl|rfl|rfl|rfl<;>omega
theorem Z5z {L q b:Nat} (hL:L<=3) (hb:3<=b) (hq:L*q<=b-2):40+L*bC q<=bC b:=by
 rw [KG,KG]
 have:L=0∨L=1∨L=2∨L=3:=by omega
 rcases this with rfl|rfl|rfl|rfl<;>omega
theorem Z5r {b:Nat} (hb:3<=b):10+(bC (b / 2)+bC (b / 2))<=bC b:=by rw [KG,KG];omega
theorem Rh {b:Nat} (hb:3<=b):40+bC (b-2)<=bC b:=by rw [KG,KG];omega
theorem IZ (b:Nat):4<=bS b:=by rw [KH];omega
theorem IY (b:Nat):40<=bC b:=by rw [KG];omega
theorem Tp (L b:Nat):L*(b / L)<=b:=Nat.mul_div_le b L
theorem Nk {k L C:Nat} (h:k<L):(k+1)*C=k*C+C/\(k+1)*C<=L*C:=⟨by rw [TD,Nat.one_mul],TZ C h⟩
theorem Ce {ds:List Zd} {d x:Int} {m k:Nat} (h:(ZQ ds d)[k]? = some x):Ti ds 8 d m (1+k)=m+(ZP ds x).length:=by
 rw [Ti,Za om,Zk rfl,Za om,UY (i:=((1+k:Nat):Int)-1) (by rw [show (((1+k:Nat):Int)-1).toNat=k by omega];exact h)]
section
variable {g:XM} {m:Nat}
theorem GE.var {z:Int} {q:Nat} (hz:0<=z/\z<m) (hm:m<=2000) (hq:1<=q):GE g m q (.mk 12 z []):=⟨Z05 hz hm,by simpa [Z1.sz,Xh] using hq⟩
theorem GE.list {ys:List Z1} {L s:Nat} (h:∀e∈ys,GE g m s e) (hl:ys.length=L):Xh ys<=L*s:=by rw [<-hl];exact Ed fun e he=>(h e he).2
theorem GE.node {op num:Int} {ys:List Z1} {L s q:Nat} (ho:0<=op/\op<=11/\op≠7/\op≠8) (hc:op=9->0<=num/\num<g.funcs.length) (hn:-2000<=num/\num<=2000) (h:∀e∈ys,GE g m s e) (hl:ys.length=L) (hL:L<=3) (hq:1+L*s<=q):GE g m q (.mk op num ys):=by
 have:=GE.list h hl
 exact ⟨B0 ho hc hn om fun e he=>(h e he).1,by rw [Z1.sz];omega⟩
theorem GE.if_ {num:Int} {ys:List Z1} {s q:Nat} (hn:-2000<=num/\num<=2000) (h:∀e∈ys,GE g m s e) (hl:ys.length=3) (hq:1+3*s<=q):GE g m q (.mk 7 num ys):=by
 have:=GE.list h hl
 exact ⟨LA hn hl fun e he=>(h e he).1,by rw [Z1.sz];omega⟩
theorem GE.let_ {a b:Z1} {s q:Nat} (ha:GE g m s a) (hb:GE g (m+1) s b) (hq:1+(s+s)<=q):GE g m q (.mk 13 0 [a,b]):=by
 refine ⟨LD om ha.1 hb.1,?_⟩
 have h1:=ha.2
 have h2:=hb.2
 simp only [Z1.sz,Xh];omega
theorem GE.two {op num:Int} {a b:Z1} {s1 s2 q:Nat} (ho:0<=op/\op<=11/\op≠7/\op≠8/\op≠9) (hn:-2000<=num/\num<=2000) (ha:GE g m s1 a) (hb:GE g m s2 b) (hq:1+(s1+s2)<=q):GE g m q (.mk op num [a,b]):=by
 refine ⟨B0 om (fun h=>by omega) hn (by simp) fun e he=>?_,?_⟩
 ·rcases YE.1 he with rfl|he
  ·exact ha.1
  ·rw [XT.1 he];exact hb.1
 ·have h1:=ha.2
  have h2:=hb.2
  simp only [Z1.sz,Xh];omega
theorem GE.match_ {d:Int} {e:Z1} {ys:List Z1} {L s q:Nat} (hd:-2000<=d/\d<=2000) (he:GE g m 4 e) (hw:Q5 g.decls g.funcs.length (Ti g.decls 8 d m) 1 ys) (hs:∀e∈ys,e.sz<=s) (hl:ys.length=L) (hL:L=(ZQ g.decls d).length) (h3:L<=3) (hq:5+L*s<=q):GE g m q (.mk 8 d (e::ys)):=by
 refine ⟨GI hd om om he.1 hw,?_⟩
 have h1:=Ed hs
 rw [hl] at h1
 have h2:=he.2
 rw [Z1.sz,Xh];omega
end
def NL (s:Nat) (left w:Int):Prop:=((s:Int)<=left/\w=left-s)∨(left<s/\w=-1)
end Go.Abs
namespace Go.Abs
theorem Be {L b p pp M:Nat} (hL:L<=3) (hb:3<=b) (h:pp<=p+8) (hp:p+(bC b-1)<=M):pp+L*bC ((b-1) / L)<=M:=by
 have:=JI hL hb (Tp L (b-1))
 omega
end Go.Abs
end
namespace Go.Abs
theorem Z0d (a b:Z1):Xh [a,b]=a.sz+b.sz:=by simp only [Xh];omega
theorem Ec (a b c:Z1):Xh [a,b,c]=a.sz+b.sz+c.sz:=by simp only [Xh];omega
theorem Cs:bS 3=20/\bS 4=30/\bS 12=110/\bS 16=150/\bS 18=170/\bC 3=200/\bC 4=300/\bC 16=1500:=by decide
theorem DP {b:Nat} (h:b<=20):bS b<=190/\bC b<=1900/\(b<=2->bS b<=10):=by rw [KH,KG];omega
section
variable {g:XM} {m:Nat}
theorem SE.ofs {op num:Int} {ys:List Z1} {q:Nat} (ho:0<=op/\op<=11/\op≠7/\op≠8/\op≠9) (hn:-2000<=num/\num<=2000) (hl:ys.length<=4) (hy:∀e∈ys,∃s,SE g s e) (hq:1+Xh ys<=q):SE g q (.mk op num ys):=
 ⟨fun m=>B0 om (fun h=>by omega) hn hl fun e he=>let ⟨_,h⟩:=hy e he;h.1 m,by rw [Z1.sz];exact hq⟩
theorem SE.nil {op num:Int} {q:Nat} (ho:0<=op/\op<=11/\op≠7/\op≠8/\op≠9) (hn:-2000<=num/\num<=2000) (hq:1<=q):SE g q (.mk op num []):=
 SE.ofs ho hn (by simp) (fun e he=>by cases he) (by simpa [Xh] using hq)
theorem SE.two {op num:Int} {a b:Z1} {s1 s2 q:Nat} (ho:0<=op/\op<=11/\op≠7/\op≠8/\op≠9) (hn:-2000<=num/\num<=2000) (ha:SE g s1 a) (hb:SE g s2 b) (hq:1+(s1+s2)<=q):SE g q (.mk op num [a,b]):=by
 refine SE.ofs ho hn (by simp) (fun e he=>?_) ?_
 ·rcases YE.1 he with rfl|he
  ·exact ⟨_,ha⟩
  ·rw [XT.1 he];exact ⟨_,hb⟩
 ·have h1:=ha.2
  have h2:=hb.2
  rw [Z0d];omega
theorem SE.three {op num:Int} {a b c:Z1} {s1 s2 s3 q:Nat} (ho:0<=op/\op<=11/\op≠7/\op≠8/\op≠9) (hn:-2000<=num/\num<=2000) (ha:SE g s1 a) (hb:SE g s2 b) (hc:SE g s3 c) (hq:1+(s1+s2+s3)<=q):SE g q (.mk op num [a,b,c]):=by
 refine SE.ofs ho hn (by simp) (fun e he=>?_) ?_
 ·rcases YE.1 he with rfl|he
  ·exact ⟨_,ha⟩
  ·rcases YE.1 he with rfl|he
   ·exact ⟨_,hb⟩
   ·rw [XT.1 he];exact ⟨_,hc⟩
 ·have h1:=ha.2
  have h2:=hb.2
  have h3:=hc.2
  rw [Ec];omega
theorem GE.int {z:Int} {q:Nat} (hz:-2000<=z/\z<=2000) (hq:1<=q):GE g m q (.mk 0 z []):=(SE.int (g:=g) (q:=q) hz hq).ge (YU _)
theorem GE.three {op num:Int} {a b c:Z1} {s1 s2 s3 q:Nat} (ho:0<=op/\op<=11/\op≠8/\op≠9) (hn:-2000<=num/\num<=2000) (ha:GE g m s1 a) (hb:GE g m s2 b) (hc:GE g m s3 c) (hq:1+(s1+s2+s3)<=q):GE g m q (.mk op num [a,b,c]):=by
 have hk:∀e∈[a,b,c],eW g.decls g.funcs.length m e:=fun e he=>by
  rcases YE.1 he with rfl|he
  ·exact ha.1
  ·rcases YE.1 he with rfl|he
   ·exact hb.1
   ·rw [XT.1 he];exact hc.1
 refine ⟨?_,?_⟩
 ·by_cases h7:op=7
  ·subst h7;exact LA hn rfl hk
  ·exact B0 om (fun h=>by omega) hn (by simp) hk
 ·have h1:=ha.2
  have h2:=hb.2
  have h3:=hc.2
  rw [Z1.sz,Ec];omega
theorem GE.one {op num:Int} {a:Z1} {s1 q:Nat} (ho:0<=op/\op<=11/\op≠7/\op≠8/\op≠9) (hn:-2000<=num/\num<=2000) (ha:GE g m s1 a) (hq:1+s1<=q):GE g m q (.mk op num [a]):=by
 refine ⟨B0 om (fun h=>by omega) hn (by simp) fun e he=>?_,?_⟩
 ·rw [XT.1 he];exact ha.1
 ·have h1:=ha.2
  simp only [Z1.sz,Xh];omega
theorem GE.letS {a b:Z1} {s1 s2 q:Nat} (ha:GE g m s1 a) (hb:GE g (m+1) s2 b) (hq:1+(s1+s2)<=q):GE g m q (.mk 13 0 [a,b]):=by
 refine ⟨LD om ha.1 hb.1,?_⟩
 have h1:=ha.2
 have h2:=hb.2
 simp only [Z1.sz,Xh];omega
theorem GE.matchL (hg:GP g) {e a b:Z1} {s1 s2 s3 q:Nat} (he:GE g m s1 e) (ha:GE g m s2 a) (hb:GE g (m+2) s3 b) (hq:1+(s1+s2+s3)<=q):GE g m q (.mk 8 1 [e,a,b]):=by
 have hl:=hg.decls.low
 refine ⟨GI om (by simp) (by rw [hl.2.1];rfl) he.1 ⟨?_,?_,True.intro⟩,?_⟩
 ·rw [Ce (k:=0) (x:=0) (by rw [hl.2.1];rfl),hl.2.2.2.2.1];exact ha.1
 ·rw [Ce (k:=1) (x:=1) (by rw [hl.2.1];rfl),hl.2.2.2.2.2.1];exact hb.1
 ·have h1:=he.2
  have h2:=ha.2
  have h3:=hb.2
  rw [Z1.sz,Ec];omega
theorem GE.matchT (hg:GP g) {e a b:Z1} {s1 s2 s3 q:Nat} (he:GE g m s1 e) (ha:GE g m s2 a) (hb:GE g (m+3) s3 b) (hq:1+(s1+s2+s3)<=q):GE g m q (.mk 8 3 [e,a,b]):=by
 have hl:=hg.decls.low
 refine ⟨GI om (by simp) (by rw [hl.2.2.2.1];rfl) he.1 ⟨?_,?_,True.intro⟩,?_⟩
 ·rw [Ce (k:=0) (x:=2) (by rw [hl.2.2.2.1];rfl),hl.2.2.2.2.2.2.1];exact ha.1
 ·rw [Ce (k:=1) (x:=3) (by rw [hl.2.2.2.1];rfl),hl.2.2.2.2.2.2.2];exact hb.1
 ·have h1:=he.2
  have h2:=ha.2
  have h3:=hb.2
  rw [Z1.sz,Ec];omega
theorem G5 {α:Type} {p:α->Prop} {a:α} (h:p a):∀x∈[a],p x:=fun x hx=>by rw [XT.1 hx];exact h
end
structure FT (g:XM):Prop where
 gp:GP g
 body:∀f∈g.funcs,eW g.decls g.funcs.length f.params.length f.body/\f.body.sz<=30
structure GL (ds:List Zd) (k j:Nat) (rq:List Func):Prop where
 len:rq.length=4
 sigs:∀f∈rq,UV f
 zero:∀f,rq[0]? = some f->f.params.length=0
 body:∀i f,j<=i->i<k->rq[i]? = some f->eW ds k f.params.length f.body/\f.body.sz<=30
theorem GL.gp {ds:List Zd} {k j:Nat} {rq:List Func} (h:GL ds k j rq) (hd:GD ds) (hk:1<=k/\k<=4):GP ⟨ds,rq.take k⟩:=
 ⟨hd,by show 1<=(rq.take k).length/\_;rw [Ws,h.len];omega,fun f hf=>h.sigs f (TY hf)⟩
theorem GL.len_take {ds:List Zd} {k j:Nat} {rq:List Func} (h:GL ds k j rq) (hk:k<=4):(rq.take k).length=k:=by rw [Ws,h.len];omega
theorem GL.set {ds:List Zd} {k j:Nat} {rq:List Func} {f:Func} {e:Z1} (h:GL ds k j rq) (hj:1<=j) (hf:rq[j-1]? = some f) (he:eW ds k f.params.length e/\e.sz<=30):GL ds k (j-1) (rq.set (j-1) ⟨f.params,f.result,e⟩):=by
 have hl:=(XB.1 hf).1
 refine ⟨by rw [T3];exact h.len,fun x hx=>?_,fun x hx=>?_,fun i x h1 h2 hx=>?_⟩
 ·rcases List.mem_or_eq_of_mem_set hx with hx|rfl
  ·exact h.sigs x hx
  ·exact h.sigs f (ZZ hf)
 ·rw [List.getElem?_set] at hx
  split at hx
  ·rename_i h0
   cases hx
   exact h.zero f (by rw [<-h0];exact hf)
  ·exact h.zero x hx
 ·rw [List.getElem?_set] at hx
  split at hx
  ·cases hx
   exact he
  ·exact h.body i x om h2 hx
theorem GL.done {ds:List Zd} {k:Nat} {rq:List Func} (h:GL ds k 0 rq) (hd:GD ds) (hk:1<=k/\k<=4):FT ⟨ds,rq.take k⟩:=by
 refine ⟨h.gp hd hk,fun f hf=>?_⟩
 show eW ds (rq.take k).length _ _/\_
 rw [h.len_take hk.2]
 obtain ⟨i,hi⟩:=List.getElem?_of_mem hf
 have hi2:i<(rq.take k).length:=(XB.1 hi).1
 rw [h.len_take hk.2] at hi2
 rw [List.getElem?_take_of_lt hi2] at hi
 exact h.body i f om hi2 hi
theorem I4 {l:List Func} {f:Func} {k:Nat} (h:l[k]? = some f) (hl:l.all (fun f=>decide ((f.params,f.result)∈KD))=true):UV f:=show (f.params,f.result)∈KD from of_decide_eq_true (Kz.1 hl f (ZZ h))
theorem GL.start {ds:List Zd} {k:Nat} {e:Z1} {a b c:Func} (ha:UV a) (hb:UV b) (hc:UV c):GL ds k k [⟨[],0,e⟩,a,b,c]:=by
 refine ⟨rfl,fun f hf=>?_,fun f hf=>?_,fun i f h1 h2=>by omega⟩
 ·rcases YE.1 hf with rfl|hf
  ·exact List.Mem.head _
  ·rcases YE.1 hf with rfl|hf
   ·exact ha
   ·rcases YE.1 hf with rfl|hf
    ·exact hb
    ·rw [XT.1 hf];exact hc
 ·cases hf;rfl
theorem Z6g {l:LI} {k:Nat} {a b:Nat} (h:(k:Int)∈l) (hl:l.all (fun x=>decide ((a:Int)<=x/\x<=b))=true):a<=k/\k<=b:=by
 have:=of_decide_eq_true (Kz.1 hl _ h)
 omega
mutual
def Qg (p:Int->Prop):Z4->Prop
 | .mk op _ _ _ kids=>p op/\Qf p kids
def Qf (p:Int->Prop):List Z5->Prop
 | []=>True
 | b::r=>WV p b/\Qf p r
def Td (p:Int->Prop):List Z4->Prop
 | []=>True
 | s::r=>Qg p s/\Td p r
def WV (p:Int->Prop):Z5->Prop
 | .mk steps _=>Td p steps
end
section
variable {p q:Int->Prop}
theorem Dh (s:Z4):Qg p s↔p s.op/\Qf p s.kids:=by cases s;rw [Qg];rfl
theorem F4 (b:Z5):WV p b↔Td p b.steps:=by cases b;rw [WV];rfl
theorem C6:∀{xs:List Z5},Qf p xs↔∀b∈xs,WV p b
 | []=>by simp [Qf]
 | b::r=>by rw [Qf,C6];simp
theorem Bh:∀{xs:List Z4},Td p xs↔∀b∈xs,Qg p b
 | []=>by simp [Td]
 | b::r=>by rw [Td,Bh];simp
theorem F5 {xs ys:List Z4}:Td p (xs++ys)↔Td p xs/\Td p ys:=by simp only [Bh,X3];exact ⟨fun h=>⟨fun b hb=>h b (.inl hb),fun b hb=>h b (.inr hb)⟩,fun h b hb=>hb.elim (h.1 b) (h.2 b)⟩
theorem Nz {xs:List Z5} {b:Z5} (h:Qf p xs) (hb:WV p b):Qf p (xs++[b]):=C6.2 (Xj (C6.1 h) hb)
theorem F6 {xs:List Z4} {b:Z4} (h:Td p xs) (hb:Qg p b):Td p (xs++[b]):=Bh.2 (Xj (Bh.1 h) hb)
end
def Wo (op:Int):Prop:=op<=11
def V6 (op:Int):Prop:=op<=15
end Go.Abs
section
namespace Go.Abs
structure LW (ds:List Zd) (nf q:Nat) (e:Z1) (ys:List Z4) (v:Int):Prop where
 fs:UK ds nf q ys
 v:0<=v/\v<(q+YM ys:Nat)
 sz:Yj ys<=6*e.sz
 op:Td Wo ys
theorem LW.dn {ds:List Zd} {nf q:Nat} {e:Z1} {ys:List Z4} {v:Int} (h:LW ds nf q e ys v):YM ys<=6*e.sz/\ys.length<=6*e.sz:=by
 have h1:=AY ys
 have h2:=Ks ys
 have h3:=h.sz
 omega
structure LB (ds:List Zd) (nf q:Nat) (e:Z1) (b:Z5):Prop where
 fb:fB ds nf q b
 sz:b.sz<=1+6*e.sz
 op:WV Wo b
section
variable {ds:List Zd} {nf q:Nat}
theorem Ct:∀xs ys:List Z5,YQ (xs++ys)=YQ xs+YQ ys
 | [],ys=>by simp [YQ]
 | x::r,ys=>by rw [Qn,YQ,YQ,Ct r];omega
theorem LW.block {e:Z1} {ys:List Z4} {v:Int} (h:LW ds nf q e ys v):LB ds nf q e ⟨ys,v⟩:=
 ⟨by rw [fB];exact ⟨h.fs,h.v⟩,by rw [Z5.sz];have:=h.sz;omega,by rw [WV];exact h.op⟩
theorem LW.var {e:Z1} {v:Int} (hv:0<=v/\v<q):LW ds nf q e [] v:=⟨True.intro,by simpa [YM] using hv,by simp [Yj],True.intro⟩
theorem LW.let_ {e a b:Z1} {ys zs:List Z4} {v1 v2:Int} (ha:LW ds nf q a ys v1) (hb:LW ds nf (q+YM ys) b zs v2) (he:a.sz+b.sz<e.sz):LW ds nf q e (ys++zs) v2:=by
 refine ⟨BM.2 ⟨ha.fs,hb.fs⟩,by rw [Kj,<-JT];exact hb.v,?_,F5.2 ⟨ha.op,hb.op⟩⟩
 have h1:=ha.sz
 have h2:=hb.sz
 rw [UT];omega
theorem Cy {ys:List Z4} {s:Z4} (h:Yb s.op=false):YM (ys++[s])=YM ys+1:=by
 rw [Kj]
 simp [YM,h]
theorem LW.node {e:Z1} {ys:List Z4} {as1:LI} (ho:0<=e.op/\e.op<=11/\e.op≠7/\e.op≠8) (hc:e.op=9->0<=e.num/\e.num<nf) (hn:-2000<=e.num/\e.num<=2000) (hf:UK ds nf q ys) (ha:∀a∈as1,0<=a/\a<(q+YM ys:Nat)) (hl:as1.length<=4) (hs:Yj ys<=6*Xh e.kids) (hop:Td Wo ys) :
  LW ds nf q e (ys++[⟨e.op,e.num,0,as1,[]⟩]) ((q+YM ys:Nat):Int):=by
 have hcb:Yb e.op=false:=by simp [Yb];omega
 refine ⟨Ef hf ?_,?_,?_,F6 hop (by rw [Qg];exact ⟨by show e.op<=11;omega,True.intro⟩)⟩
 ·rw [fS]
  exact ⟨.inl ⟨by omega,by omega⟩,ha,fun h=>by omega,fun h=>by omega,fun h=>by omega,fun h=>by omega,hc,hn,by omega,hl,fun _=>rfl,True.intro⟩
 ·rw [Cy (show Yb (Z4.mk e.op e.num 0 as1 []).op=false from hcb)];omega
 ·rw [UT,e.sz_eq]
  simp only [Yj,Z4.sz,YQ]
  omega
theorem LW.branch {e:Z1} {ys:List Z4} {v:Int} {bs:List Z5} {s0 sr:Nat} (ho:e.op=7∨e.op=8) (h7:e.op=7->bs.length=2) (h8:e.op=8->bs.length=(ZQ ds e.num).length) (hn:-2000<=e.num/\e.num<=2000) (hf:UK ds nf q ys) (hv:0<=v/\v<(q+YM ys:Nat))
  (hb:T8 ds nf (UA ds e.op e.num (q+YM ys)) 0 bs) (hl:bs.length<=3) (h0:Yj ys<=6*s0) (h1:YQ bs<=bs.length+6*sr) (hs:s0+sr<=Xh e.kids) (hop:Td Wo ys) (hob:Qf Wo bs):LW ds nf q e (ys++[⟨e.op,e.num,0,[v],bs⟩]) ((q+YM ys:Nat):Int):=by
 have hcb:Yb e.op=false:=by simp [Yb];omega
 refine ⟨Ef hf ?_,?_,?_,F6 hop (by rw [Qg];exact ⟨by show e.op<=11;omega,hob⟩)⟩
 ·rw [fS]
  exact ⟨.inl ⟨by omega,by omega⟩,fun a ha=>by rw [XT.1 ha];exact hv,fun h=>by omega,h7,h8,fun _=>⟨v,rfl⟩,fun h=>by omega,hn,by omega,by simp,fun h=>by omega,hb⟩
 ·rw [Cy (show Yb (Z4.mk e.op e.num 0 [v] bs).op=false from hcb)];omega
 ·rw [UT,e.sz_eq]
  simp only [Yj,Z4.sz,YK,Xg]
  omega
theorem OM {ds:List Zd} {op num:Int} {m k:Nat} (h:op=13):Ti ds op num m k=m+k:=Zk h
theorem Z93 {ds:List Zd} {op num:Int} {m:Nat} (h:op≠13):Ti ds op num m 0=m:=by simp [Ti,h]
theorem ON {ds:List Zd} {op num:Int} {m k:Nat} (h:op≠13/\op≠8):Ti ds op num m k=m:=by simp [Ti,h.1,h.2]
theorem Z94 {ds:List Zd} {op num x:Int} {m k j:Nat} (h:op=8) (hk:k=j+1) (hx:(ZQ ds num)[j]? = some x):Ti ds op num m k=m+(ZP ds x).length:=by
 subst h;subst hk;rw [Nat.add_comm j 1];exact Ce hx
theorem HZ {ds:List Zd} {op num x:Int} {m j:Nat} (h:op=8) (hx:(ZQ ds num)[j]? = some x):UA ds op num m j=m+(ZP ds x).length:=by
 rw [UA,Zk h,UY (i:=(j:Int)) (by simpa using hx)]
theorem I0 {ds:List Zd} {op num:Int} {m j:Nat} (h:op≠8):UA ds op num m j=m:=Za h
theorem Ad {xs:List Z1} {k:Nat} {e:Z1} (h:xs[k]? = some e):Xh (xs.take (k+1))=Xh (xs.take k)+e.sz:=by rw [Wq h,CE,Xh,Xh];rfl
theorem Jv {xs:List Z1} (k:Nat):Xh (xs.take k)<=Xh xs:=by
 have h:=Ya Xh (UF k xs)
 rw [CE] at h;omega
theorem LK {xs:List Z1} {a b:Z1} (ha:xs[0]? = some a) (hb:xs[1]? = some b):a.sz+b.sz<=Xh xs:=by
 have h1:Xh (xs.take 1)=Xh (xs.take 0)+a.sz:=Ad ha
 have h2:Xh (xs.take 2)=Xh (xs.take 1)+b.sz:=Ad hb
 have h3:=Jv (xs:=xs) 2
 omega
theorem DD {us:LI} {v:Int} {d:Nat} (hu:∀a∈us,0<=a/\a<(q:Int)) (hv:0<=v/\v<(q+d:Nat)):∀a∈us++[v],0<=a/\a<((q+d:Nat):Int):=
 Xj (fun a ha=>by have:=hu a ha;omega) hv
theorem FC {us:LI} {d:Nat} (hu:∀a∈us,0<=a/\a<(q:Int)):∀a∈us,0<=a/\a<((q+d:Nat):Int):=fun a ha=>by have:=hu a ha;omega
theorem Zc0 {us ns:LI} {d mf:Nat} (hu:∀a∈us,0<=a/\a<(q:Int)) (hn:∀i∈ns,((q+d:Nat):Int)<=i/\i<((q+d:Nat):Int)+mf):∀a∈us++ns,0<=a/\a<((q+d+mf:Nat):Int):=fun a ha=>by
 rcases X3.1 ha with h|h
 ·have:=hu a h;omega
 ·have:=hn a h;omega
theorem DS:∀bs:List Z5,bs.length<=YQ bs
 | []=>YU _
 | b::r=>by have:=DS r;have:=b.sz_pos;rw [YQ,YK];omega
end
end Go.Abs
namespace Go.Abs
structure RF (ds:List Zd) (nf q:Nat) (p:Int->Prop) (r:ZX):Prop where
 sig:(r.params,r.result)∈KD
 lent:r.lent.length<=3/\∀i∈r.lent,0<=i/\i<r.params.length
 body:fB ds nf r.params.length r.body/\r.body.sz<=q
 op:WV p r.body
structure FO (n:Zr) (q:Nat) (p:Int->Prop):Prop where
 fn:FN n q
 op:∀r∈n.routines,WV p r.body
theorem FO.rf {n:Zr} {q:Nat} {p:Int->Prop} (h:FO n q p) {r:ZX} (hr:r∈n.routines):RF n.decls n.routines.length q p r:=⟨h.fn.sigs r hr,h.fn.lent r hr,h.fn.body r hr,h.op r hr⟩
theorem FO.all {n:Zr} {q:Nat} {p:Int->Prop} (hd:GD n.decls) (hl:1<=n.routines.length/\n.routines.length<=4) (h:∀r∈n.routines,RF n.decls n.routines.length q p r):FO n q p:=
 ⟨⟨hd,hl,fun r hr=>(h r hr).sig,fun r hr=>(h r hr).lent,fun r hr=>(h r hr).body⟩,fun r hr=>(h r hr).op⟩
structure RN (ds:List Zd) (nf:Nat) (r:ZX):Prop where
 sig:(r.params,r.result)∈KD
 lent:r.lent=[]
 body:fB ds nf r.params.length r.body/\r.body.sz<=181
 op:WV Wo r.body
theorem RN.all {n:Zr} {q:Nat} (hd:GD n.decls) (hl:1<=n.routines.length/\n.routines.length<=4) (h:∀r∈n.routines,RN n.decls n.routines.length r) (hq:181<=q):FO n q Wo:=
 FO.all hd hl fun r hr=>⟨(h r hr).sig,by rw [(h r hr).lent];exact ⟨by simp,fun i hi=>by cases hi⟩,⟨(h r hr).body.1,WO (h r hr).body.2 hq⟩,(h r hr).op⟩
end Go.Abs
namespace Go.Abs
theorem RN.of {ds:List Zd} {nf:Nat} {ps:LI} {rt:Int} {b:Z5} {e:Z1} (hs:(ps,rt)∈KD) (h:LB ds nf ps.length e b) (he:e.sz<=30):RN ds nf ⟨ps,[],rt,Z5.mk b.steps b.result⟩:=by
 have e1:Z5.mk b.steps b.result=b:=by cases b;rfl
 rw [e1]
 exact ⟨hs,rfl,⟨h.fb,by have:=h.sz;show b.sz<=181;omega⟩,h.op⟩
end Go.Abs
end
namespace Go.Abs
theorem Ie:∀{xs:List Z4} {s:Z4},s∈xs->s.sz<=Yj xs
 | [],s,h=>by cases h
 | x::r,s,h=>by
  rw [Yj]
  rcases YE.1 h with rfl|h
  ·omega
  ·have:=Ie h;omega
theorem Gc:∀{xs:List Z5} {b:Z5},b∈xs->b.sz<=YQ xs
 | [],b,h=>by cases h
 | x::r,b,h=>by
  rw [YQ]
  rcases YE.1 h with rfl|h
  ·omega
  ·have:=Gc h;omega
structure LC (n:Zr) (k:Nat) (xs:List LI):Prop where
 len:xs.length=k
 ok:∀(i:Nat) (l:LI),xs[i]? = some l->l.length<=3/\∀r,n.routines[i]? = some r->∀v∈l,0<=v/\v<(r.params.length:Int)
theorem LC.nil {n:Zr}:LC n 0 []:=⟨rfl,fun i l h=>by simp at h⟩
theorem LC.snoc {n:Zr} {k:Nat} {xs:List LI} {l:LI} (h:LC n k xs) (hl:l.length<=3) (hv:∀r,n.routines[k]? = some r->∀v∈l,0<=v/\v<(r.params.length:Int)):LC n (k+1) (xs++[l]):=by
 refine ⟨by rw [Yn,h.len];rfl,fun i l' hi=>?_⟩
 by_cases hk:i<xs.length
 ·rw [DF hk] at hi
  exact h.ok i l' hi
 ·rw [DG om] at hi
  have h0:i-xs.length=0:=by
   cases e:i-xs.length with
   | zero=>rfl
   | succ q=>rw [e] at hi;simp at hi
  rw [h0] at hi
  cases hi
  have e:i=k:=by have:=h.len;omega
  subst e
  exact ⟨hl,hv⟩
def VD:LI->Int->LI
 | [],y=>[y]
 | x::r,y=>if x>y then y::x::r else if x=y then x::r else x::VD r y
def Tw (d:Bool) (xs:LI) (y:Int):LI:=if d=true then xs else VD xs y
theorem EI {xs:LI} {y:Int}:Tw true xs y=xs:=rfl
theorem EH {xs:LI} {y:Int}:Tw false xs y=VD xs y:=rfl
theorem MI {xs acc r:LI} {y x:Int} {k:Nat} {d:Bool} (hx:xs[k]? = some x) (hd:d=true) (h:acc++Tw d (xs.drop k) y=r):(acc++[x])++Tw d (xs.drop (k+1)) y=r:=by
 subst hd
 rw [EI,Y3 hx] at h
 rw [EI,<-h];simp
theorem Z4j {xs acc r:LI} {y x:Int} {k:Nat} {d:Bool} (hx:xs[k]? = some x) (hd:¬d=true) (hl:¬x>=y) (h:acc++Tw d (xs.drop k) y=r):(acc++[x])++Tw d (xs.drop (k+1)) y=r:=by
 have hd:=TB.2 hd
 subst hd
 rw [EH,Y3 hx,VD,Za om,Za om] at h
 rw [EH,<-h];simp
theorem Z4k {xs acc r:LI} {y x:Int} {k:Nat} {d:Bool} (hx:xs[k]? = some x) (hd:¬d=true) (hl:x>y) (h:acc++Tw d (xs.drop k) y=r):((acc++[y])++[x])++Tw true (xs.drop (k+1)) y=r:=by
 have hd:=TB.2 hd
 subst hd
 rw [EH,Y3 hx,VD,Zk hl] at h
 rw [EI,<-h];simp
theorem Z4l {xs acc r:LI} {y x:Int} {k:Nat} {d:Bool} (hx:xs[k]? = some x) (hd:¬d=true) (hl:x=y) (h:acc++Tw d (xs.drop k) y=r):(acc++[x])++Tw true (xs.drop (k+1)) y=r:=by
 have hd:=TB.2 hd
 subst hd
 rw [EH,Y3 hx,VD,Za om,Zk hl] at h
 rw [EI,<-h];simp
theorem Z4i {xs acc acc2 r:LI} {y x:Int} {k:Nat} {d d2:Bool} (hx:xs[k]? = some x) (h:acc++Tw d (xs.drop k) y=r)
  (hc:(acc2=acc/\d2=d/\(d=true∨¬x>=y))∨(acc2=acc++[y]/\d2=true/\¬d=true/\x>y)∨(acc2=acc/\d2=true/\¬d=true/\x=y)):(acc2++[x])++Tw d2 (xs.drop (k+1)) y=r:=by
 rcases hc with ⟨rfl,rfl,h3⟩|⟨rfl,rfl,h3,h4⟩|⟨rfl,rfl,h3,h4⟩
 ·rcases h3 with h3|h3
  ·exact MI hx h3 h
  ·by_cases q:d2=true
   ·exact MI hx q h
   ·exact Z4j hx q h3 h
 ·exact Z4k hx h3 h4 h
 ·exact Z4l hx h3 h4 h
theorem Z4h {xs acc r:LI} {y:Int} {k:Nat} {d:Bool} (hk:xs.length<=k) (h:acc++Tw d (xs.drop k) y=r):(if d=true then acc else acc++[y])=r:=by
 rw [X5 hk] at h
 by_cases q:d=true
 ·rw [Tw,Zk q,Jb] at h;rw [Zk q];exact h
 ·rw [Tw,Za q,VD] at h;rw [Za q];exact h
theorem BX:∀(xs:LI) (y:Int),(VD xs y).length<=xs.length+1
 | [],y=>YU _
 | x::r,y=>by
  have:=BX r y
  rw [VD]
  split
  ·simp
  ·split
   ·simp
   ·simp only [YK];omega
theorem D0:∀{xs:LI} {y z:Int},z∈VD xs y↔z∈xs∨z=y
 | [],y,z=>by simp [VD]
 | x::r,y,z=>by
  rw [VD]
  split
  ·simp only [YE];exact ⟨fun h=>h.elim .inr .inl,fun h=>h.elim .inr .inl⟩
  ·split
   ·rename_i h;subst h;simp only [YE];exact ⟨fun h=>.inl h,fun h=>h.elim id .inl⟩
   ·simp only [YE,D0 (xs:=r)];exact ⟨fun h=>by rcases h with h|h|h<;>simp [h],fun h=>by rcases h with (h|h)|h<;>simp [h]⟩
def AM (xs:LI):Prop:=xs.Pairwise (·<·)
theorem MH:∀{xs:LI} {y:Int},AM xs->AM (VD xs y)
 | [],y,_=>by simp [VD,AM]
 | x::r,y,h=>by
  obtain ⟨h1,h2⟩:=Wt.1 h
  rw [VD]
  split
  ·rename_i q
   refine Wt.2 ⟨fun z hz=>?_,h⟩
   rcases YE.1 hz with rfl|hz
   ·omega
   ·have:=h1 z hz;omega
  ·split
   ·exact h
   ·refine Wt.2 ⟨fun z hz=>?_,MH h2⟩
    rcases D0.1 hz with hz|rfl
    ·exact h1 z hz
    ·omega
def Te:LI->Int->LI
 | [],_=>[]
 | x::r,y=>if x=y then Te r y else x::Te r y
theorem Dj:∀(xs:LI) (y:Int),(Te xs y).length<=xs.length
 | [],y=>YU _
 | x::r,y=>by
  have:=Dj r y
  rw [Te]
  split
  ·rw [YK];omega
  ·rw [YK,YK];omega
theorem C7:∀{xs:LI} {y z:Int},z∈Te xs y->z∈xs
 | [],y,z,h=>by rw [Te] at h;exact h
 | x::r,y,z,h=>by
  rw [Te] at h
  split at h
  ·exact Xu _ (C7 h)
  ·rcases YE.1 h with rfl|h
   ·exact X4 ..
   ·exact Xu _ (C7 h)
theorem Z71 {xs acc r:LI} {y x:Int} {k:Nat} (hx:xs[k]? = some x) (h:acc++Te (xs.drop k) y=r):(if x≠y then acc++[x] else acc)++Te (xs.drop (k+1)) y=r:=by
 rw [Y3 hx,Te] at h
 by_cases q:x=y
 ·rw [Zk q] at h;rw [Za (fun z=>z q)];exact h
 ·rw [Za q] at h;rw [Zk q,<-h];simp
theorem Z70 {xs acc r:LI} {y:Int} {k:Nat} (hk:xs.length<=k) (h:acc++Te (xs.drop k) y=r):acc=r:=by
 rw [X5 hk,Te,Jb] at h;exact h
def Ub (n:Int) (xs:LI) (a:Int):LI:=if 0<=a/\a<n then VD xs a else xs
def TV (n:Int):LI->LI->LI
 | [],xs=>xs
 | a::r,xs=>TV n r (Ub n xs a)
mutual
def Kw (n:Int):Z4->LI->LI
 | .mk op _ _ args kids,xs=>if Yb op=true then xs else K7 n kids (TV n args xs)
def K7 (n:Int):List Z5->LI->LI
 | [],xs=>xs
 | b::r,xs=>K7 n r (Un n b xs)
def Uo (n:Int):List Z4->LI->LI
 | [],xs=>xs
 | s::r,xs=>Uo n r (Kw n s xs)
def Un (n:Int):Z5->LI->LI
 | .mk steps result,xs=>Ub n (Uo n steps xs) result
end
section
variable {n:Int}
theorem PF (s:Z4) (xs:LI):Kw n s xs=if Yb s.op=true then xs else K7 n s.kids (TV n s.args xs):=by cases s;rw [Kw];rfl
theorem PD (b:Z5) (xs:LI):Un n b xs=Ub n (Uo n b.steps xs) b.result:=by cases b;rw [Un];rfl
theorem FB (xs:LI) (a:Int):(Ub n xs a).length<=xs.length+1:=by
 rw [Ub];split
 ·exact BX xs a
 ·omega
theorem PC:∀(as1 xs:LI),(TV n as1 xs).length<=xs.length+as1.length
 | [],xs=>YU _
 | a::r,xs=>by
  have h1:=PC r (Ub n xs a)
  have h2:=FB (n:=n) xs a
  rw [TV,YK];omega
mutual
theorem PG:∀(s:Z4) (xs:LI),(Kw n s xs).length<=xs.length+s.sz
 | .mk op num into args kids,xs=>by
  have h1:=PE kids (TV n args xs)
  have h2:=PC (n:=n) args xs
  rw [Kw,Z4.sz];split<;>omega
theorem PE:∀(bs:List Z5) (xs:LI),(K7 n bs xs).length<=xs.length+YQ bs
 | [],xs=>YU _
 | b::r,xs=>by
  have h1:=PE r (Un n b xs)
  have h2:=FA b xs
  rw [K7,YQ];omega
theorem Is:∀(bs:List Z4) (xs:LI),(Uo n bs xs).length<=xs.length+Yj bs
 | [],xs=>YU _
 | b::r,xs=>by
  have h1:=Is r (Kw n b xs)
  have h2:=PG b xs
  rw [Uo,Yj];omega
theorem FA:∀(b:Z5) (xs:LI),(Un n b xs).length<=xs.length+b.sz
 | .mk steps result,xs=>by
  have h1:=Is steps xs
  have h2:=FB (n:=n) (Uo n steps xs) result
  rw [Un,Z5.sz];omega
end
theorem Zbv {as1 ys r:LI} {k:Nat} {a:Int} (h:as1[k]? = some a) (ha:TV n (as1.drop k) ys=r):TV n (as1.drop (k+1)) (Ub n ys a)=r:=by
 rw [Y3 h,TV] at ha;exact ha
theorem Zbx {bs:List Z5} {ys r:LI} {k:Nat} {b:Z5} (h:bs[k]? = some b) (ha:K7 n (bs.drop k) ys=r):K7 n (bs.drop (k+1)) (Un n b ys)=r:=by
 rw [Y3 h,K7] at ha;exact ha
theorem Zbz {bs:List Z4} {ys r:LI} {k:Nat} {b:Z4} (h:bs[k]? = some b) (ha:Uo n (bs.drop k) ys=r):Uo n (bs.drop (k+1)) (Kw n b ys)=r:=by
 rw [Y3 h,Uo] at ha;exact ha
theorem Zbu {as1 ys r:LI} {k:Nat} (h:as1.length<=k) (ha:TV n (as1.drop k) ys=r):ys=r:=by rw [X5 h,TV] at ha;exact ha
theorem Zbw {bs:List Z5} {ys r:LI} {k:Nat} (h:bs.length<=k) (ha:K7 n (bs.drop k) ys=r):ys=r:=by rw [X5 h,K7] at ha;exact ha
theorem Zby {bs:List Z4} {ys r:LI} {k:Nat} (h:bs.length<=k) (ha:Uo n (bs.drop k) ys=r):ys=r:=by rw [X5 h,Uo] at ha;exact ha
end
end Go.Abs
section
namespace Go.Abs
theorem Z5e {xs:List Z4} {k:Nat} {s:Z4} {r:Nat} (h:xs[k]? = some s) (hs:Yb s.op=true) (ha:k+YI (xs.drop k)=r):k+1+YI (xs.drop (k+1))=r:=by
 rw [Y3 h,YI,Zk hs] at ha;omega
theorem Z5f {xs:List Z4} {k:Nat} {s:Z4} {r:Nat} (h:xs[k]? = some s) (hs:¬Yb s.op=true) (ha:k+YI (xs.drop k)=r):k=r:=by
 rw [Y3 h,YI,Za hs] at ha;omega
theorem Z5d {xs:List Z4} {k:Nat} {r:Nat} (h:xs.length<=k) (ha:k+YI (xs.drop k)=r):k=r:=by
 rw [X5 h,YI] at ha;omega
theorem Rx {op x:Int} {xs:List Z4} {k:Nat} {s:Z4} {r:Int} (h:xs[k]? = some s) (hs:s.op=op/\gI s.args 0=x) (ha:XN op x (xs.drop k) k=r):(k:Int)=r:=by
 rw [Y3 h,XN,Zk hs] at ha;exact ha
theorem IV {op x:Int} {xs:List Z4} {k:Nat} {s:Z4} {r:Int} (h:xs[k]? = some s) (hs:¬(s.op=op/\gI s.args 0=x)) (ha:XN op x (xs.drop k) k=r):XN op x (xs.drop (k+1)) ((k+1:Nat):Int)=r:=by
 rw [Y3 h,XN,Za hs] at ha;rw [<-ha];congr 1
theorem Rw {op x:Int} {xs:List Z4} {k:Nat} {r:Int} (h:xs.length<=k) (ha:XN op x (xs.drop k) k=r):-1=r:=by
 rw [X5 h,XN] at ha;exact ha
theorem RY {many:Nat} {xs:List Z4} {k:Nat} {s:Z4} {r:Int} (h:xs[k]? = some s) (hs:Qu many s) (ha:Wa many (xs.drop k) k=r):(k:Int)=r:=by
 rw [Y3 h,Wa,Zk hs] at ha;exact ha
theorem RX {many:Nat} {xs:List Z4} {k:Nat} {s:Z4} {r:Int} (h:xs[k]? = some s) (hs:¬Qu many s) (ha:Wa many (xs.drop k) k=r):Wa many (xs.drop (k+1)) ((k+1:Nat):Int)=r:=by
 rw [Y3 h,Wa,Za hs] at ha;rw [<-ha];congr 1
theorem RW {many:Nat} {xs:List Z4} {k:Nat} {r:Int} (h:xs.length<=k) (ha:Wa many (xs.drop k) k=r):-1=r:=by
 rw [X5 h,Wa] at ha;exact ha
theorem Z7x {xs:List Z4} {x:Int} {many:Nat} (h:V2 xs x<0∨Wi xs many<0):VX xs x many=xs:=Zk h
theorem Z7y {xs:List Z4} {x:Int} {many:Nat} {s:Z4} (h:¬(V2 xs x<0∨Wi xs many<0)) (hs:Af xs (Wi xs many)=s):(xs.set (V2 xs x).toNat (Zw 17 x)).set (Wi xs many).toNat (Qb (1+x) s)=VX xs x many:=by
 rw [VX,Za h,hs]
theorem Q6 (xs:List Z4):(Ze (Zu xs)).length=xs.length*5:=by rw [U4 _ (X0 _)];simp
theorem Ej (s:Z4) (r:List Z4):Ze (Zu (s::r))=Xa s++Ze (Zu r):=by rw [WT,WT];rfl
theorem LX {xs:List Z4} {k:Nat} {x:Z4} (h:xs[k]? = some x):Ze (Zu (xs.take k))++Ze [Ys x]=Ze (Zu (xs.take (k+1))):=by
 rw [Wq h,Wm,VV,Ej]
 have:Ze (Zu [])=[]:=by rw [WT];rfl
 rw [this];rfl
theorem LY {xs:List Z4} {i:Nat} {s:Z4} (h:xs[i]? = some s):Ze (Zu xs)=Ze (Zu (xs.take i))++(Xa s++Ze (Zu (xs.drop (i+1)))):=by
 have hi:=(XB.1 h).1
 have e:xs=xs.take i++(s::xs.drop (i+1)):=by rw [<-Y3 h,UF]
 conv=>lhs;rw [e,Wm,VV,Ej]
theorem Ek {xs:List Z4} {i:Nat} {s t:Z4} (h:xs[i]? = some s):(Ze (Zu xs)).take (i*5)++Xa t++(Ze (Zu xs)).drop (i*5+(Xa t).length)=Ze (Zu (xs.set i t)):=by
 have hi:=(XB.1 h).1
 have hl:(Ze (Zu (xs.take i))).length=i*5:=by rw [Q6,Ws,Vj om]
 rw [LY h,Dq (xs:=Xa s) (ys:=Xa t) hl rfl]
 have e:xs.set i t=xs.take i++(t::xs.drop (i+1)):=by rw [DI,Zk hi]
 rw [e,Wm,VV,Ej]
theorem GS {xs:List Z4} {i:Nat} {s:Z4} (h:xs[i]? = some s):((Ze (Zu xs)).drop (i*5)).take (Xa s).length=Xa s:=by
 have hi:=(XB.1 h).1
 have hl:(Ze (Zu (xs.take i))).length=i*5:=by rw [Q6,Ws,Vj om]
 rw [LY h]
 exact HT hl
structure QK (xs:LI) (v:Int) (k:Nat) (acc:LI) (d:Bool):Prop where
 len:acc.length<=k+(if d=true then 1 else 0)
 sub:∀z∈acc,z∈xs.take k∨z=v
 all:∀z∈xs.take k,z∈acc
 done:d=true->v∈acc
theorem QK.zero (xs:LI) (v:Int):QK xs v 0 [] false:=⟨by simp,by simp,by simp,by simp⟩
theorem QK.step {xs:LI} {v:Int} {k:Nat} {acc:LI} {d:Bool} {x:Int} (h:QK xs v k acc d) (hx:xs[k]? = some x) {acc2:LI} {d2:Bool}
  (hc:(acc2=acc++[x]/\d2=d)∨(acc2=(acc++[v])++[x]/\d2=true/\¬d=true)∨(acc2=acc++[x]/\d2=true/\x=v)):QK xs v (k+1) acc2 d2:=by
 obtain ⟨h1,h2,h3,h4⟩:=h
 have ht:∀z,z∈xs.take (k+1)↔z∈xs.take k∨z=x:=fun z=>by rw [Wq hx];simp
 rcases hc with ⟨rfl,rfl⟩|⟨rfl,rfl,hd⟩|⟨rfl,rfl,rfl⟩
 ·refine ⟨by simp;omega,fun z hz=>?_,fun z hz=>?_,fun q=>List.mem_append_left _ (h4 q)⟩
  ·rw [ht]
   rcases X3.1 hz with hz|hz
   ·rcases h2 z hz with q|q
    ·exact .inl (.inl q)
    ·exact .inr q
   ·exact .inl (.inr (XT.1 hz))
  ·rcases (ht z).1 hz with q|q
   ·exact List.mem_append_left _ (h3 z q)
   ·subst q;simp
 ·rw [Za hd] at h1
  refine ⟨by simp;omega,fun z hz=>?_,fun z hz=>?_,fun _=>by simp⟩
  ·rw [ht]
   simp only [X3,XT] at hz
   rcases hz with (hz|hz)|hz
   ·rcases h2 z hz with q|q
    ·exact .inl (.inl q)
    ·exact .inr q
   ·exact .inr hz
   ·exact .inl (.inr hz)
  ·rcases (ht z).1 hz with q|q
   ·exact List.mem_append_left _ (List.mem_append_left _ (h3 z q))
   ·subst q;simp
 ·refine ⟨by simp;split at h1<;>omega,fun z hz=>?_,fun z hz=>?_,fun _=>by simp⟩
  ·rw [ht]
   rcases X3.1 hz with hz|hz
   ·rcases h2 z hz with q|q
    ·exact .inl (.inl q)
    ·exact .inr q
   ·exact .inl (.inr (XT.1 hz))
  ·rcases (ht z).1 hz with q|q
   ·exact List.mem_append_left _ (h3 z q)
   ·subst q;simp
theorem QK.fin {xs:LI} {v:Int} {k:Nat} {acc:LI} {d:Bool} (h:QK xs v k acc d) (hk:k=xs.length) :
  (d=true->acc.length<=xs.length+1/\∀z,z∈acc↔z∈xs∨z=v)/\(¬d=true->(acc++[v]).length<=xs.length+1/\∀z,z∈acc++[v]↔z∈xs∨z=v):=by
 obtain ⟨h1,h2,h3,h4⟩:=h
 subst hk
 rw [Vd] at h2 h3
 refine ⟨fun hd=>?_,fun hd=>?_⟩
 ·rw [Zk hd] at h1
  exact ⟨h1,fun z=>⟨h2 z,fun q=>q.elim (h3 z) fun e=>e▸h4 hd⟩⟩
 ·rw [Za hd] at h1
  refine ⟨by simp;omega,fun z=>?_⟩
  rw [X3,XT]
  exact ⟨fun q=>q.elim (h2 z) .inr,fun q=>q.elim (fun e=>.inl (h3 z e)) .inr⟩
end Go.Abs
namespace Go.Abs
theorem QK.go {xs:LI} {v:Int} {k:Nat} {acc:LI} {d:Bool} {x:Int} (h:QK xs v k acc d) (hx:xs[k]? = some x) {acc2:LI} {d2:Bool}
  (hc:(acc2=acc/\d2=d)∨(acc2=acc++[v]/\d2=true/\¬d=true)∨(acc2=acc/\d2=true/\x=v)):QK xs v (k+1) (acc2++[x]) d2:=by
 refine h.step hx ?_
 rcases hc with ⟨e1,e2⟩|⟨e1,e2,e3⟩|⟨e1,e2,e3⟩
 ·exact .inl ⟨by rw [e1],e2⟩
 ·exact .inr (.inl ⟨by rw [e1],e2,e3⟩)
 ·exact .inr (.inr ⟨by rw [e1],e2,e3⟩)
section
variable {ds:List Zd} {kept K2:LI} {op num x:Int} {args:LI} {j many:Nat} {kd:Z5}
theorem Z8k (h8:op=8) (hx:gI args 0=x) (hk:¬x∈kept) (hm:(Uh ds num j).length=many) (hq:¬(V2 kd.steps x<0∨Wi kd.steps many<0)) (hK:∀z,z∈K2↔z∈kept∨z=x):Wn ds K2 (VT kd x many)=Th ds kept op num args j kd:=by
 subst hx hm
 have e:∀z,z∈K2↔z∈gI args 0::kept:=fun z=>by rw [hK z,YE];exact Or.comm
 rw [Th,Zk ⟨h8,hk⟩,EL,Za hq,OB,HU kd e]
theorem Z8l (h8:op=8) (hx:gI args 0=x) (hk:¬x∈kept) (hm:(Uh ds num j).length=many) (hq:V2 kd.steps x<0∨Wi kd.steps many<0):Wn ds kept (VT kd x many)=Th ds kept op num args j kd:=by
 subst hx hm
 rw [Th,Zk ⟨h8,hk⟩,EL,Zk hq,OB]
theorem OC (h:¬(op=8/\¬gI args 0∈kept)):Wn ds kept kd=Th ds kept op num args j kd:=by rw [Th,Za h]
end
end Go.Abs
namespace Go.Abs
theorem DU:∀{xs:List Z5} {k:Nat} {b:Z5},xs[k]? = some b->YQ (xs.take k)+b.sz<=YQ xs
 | [],_,_,h=>by simp at h
 | x::r,0,b,h=>by simp at h;subst h;simp [YQ]
 | x::r,k+1,b,h=>by
  have:=DU (xs:=r) (k:=k) (by simpa using h)
  rw [Bs,YQ,YQ];omega
theorem Gd {xs:List Z5} {k:Nat} (h:xs.length<=k):YQ (xs.take k)=YQ xs:=by rw [WK h]
end Go.Abs
end
namespace Go.Abs
theorem Pi {xs:List Z4} {k:Nat} {s:Z4} (h:xs[k]? = some s):Yj (xs.drop k)=s.sz+Yj (xs.drop (k+1)):=by rw [Y3 h,Yj]
theorem Pj (xs:List Z4) (k:Nat):Yj (xs.drop k)<=Yj xs:=by
 have h:=Ya Yj (UF k xs)
 rw [UT] at h;omega
theorem DT {xs:List Z5} {k:Nat} {b:Z5} (h:xs[k]? = some b):YQ (xs.take (k+1))=YQ (xs.take k)+b.sz:=by rw [Wq h,Ct,YQ,YQ];rfl
structure CL (ds:List Zd) (nf m:Nat) (xs:List Z4) (d z:Nat):Prop where
 fs:UK ds nf m xs
 dn:YM xs=d
 op:Td V6 xs
 sz:Yj xs<=z
section
variable {ds:List Zd} {nf m d z:Nat} {xs:List Z4}
theorem CL.nil:CL ds nf m [] 0 0:=⟨True.intro,rfl,True.intro,YU _⟩
theorem CL.len (h:CL ds nf m xs d z):xs.length<=z:=WO (Ks xs) h.sz
theorem CL.le (h:CL ds nf m xs d z) {z2:Nat} (hz:z<=z2):CL ds nf m xs d z2:=⟨h.fs,h.dn,h.op,WO h.sz hz⟩
theorem Z0f {op v:Int} (ho:op=14∨op=15) (hv:0<=v/\v<(m:Int)):fS ds nf m (Zw op v):=by
 rw [Zw,fS]
 exact ⟨.inr om,fun a ha=>by rw [XT.1 ha];exact hv,fun _=>⟨rfl,rfl,rfl,v,rfl⟩,fun h=>by omega,fun h=>by omega,fun h=>by omega,fun h=>by omega,by omega,by omega,by simp,fun _=>rfl,True.intro⟩
theorem Ln {op:Int} (ho:op=14∨op=15):Yb op=true:=by simp [Yb];omega
theorem CL.cnt (h:CL ds nf m xs d z) {op v:Int} (ho:op=14∨op=15) (hv:0<=v/\v<((m+d:Nat):Int)):CL ds nf m (xs++[Zw op v]) d (z+2):=by
 have hc:Yb (Zw op v).op=true:=Ln ho
 refine ⟨Ef h.fs (by rw [h.dn];exact Z0f ho hv),?_,F6 h.op ?_,?_⟩
 ·rw [Kj,h.dn,YM,Zk hc];rfl
 ·rw [Dh];exact ⟨by show op<=15;omega,True.intro⟩
 ·have:=h.sz
  have e:(Zw op v).sz=2:=rfl
  rw [UT,Yj,e,Yj];omega
theorem CL.cnts {op:Int} (ho:op=14∨op=15):∀{vs:LI} {xs:List Z4} {z:Nat},CL ds nf m xs d z->(∀v∈vs,0<=v/\v<((m+d:Nat):Int))->CL ds nf m (xs++vs.map (Zw op)) d (z+2*vs.length)
 | [],xs,z,h,_=>by simpa using h
 | v::r,xs,z,h,hv=>by
  have h1:=CL.cnts ho (vs:=r) (h.cnt ho (hv v (X4 ..))) fun x hx=>hv x (Xu _ hx)
  rw [VL,show xs++Zw op v::r.map (Zw op)=xs++[Zw op v]++r.map (Zw op) by simp]
  exact h1.le (by rw [YK];omega)
theorem CL.one (h:CL ds nf m xs d z) {s:Z4} (hs:fS ds nf (m+d) s) (hc:Yb s.op=false) (ho:Qg V6 s):CL ds nf m (xs++[s]) (d+1) (z+s.sz):=by
 refine ⟨Ef h.fs (by rw [h.dn];exact hs),by rw [Cy hc,h.dn],F6 h.op ho,?_⟩
 have:=h.sz
 rw [UT,Yj,Yj];omega
theorem CL.app (h:CL ds nf m xs d z) {ys:List Z4} {d2 z2:Nat} (h2:CL ds nf (m+d) ys d2 z2):CL ds nf m (xs++ys) (d+d2) (z+z2):=by
 refine ⟨BM.2 ⟨h.fs,by rw [h.dn];exact h2.fs⟩,by rw [Kj,h.dn,h2.dn],F5.2 ⟨h.op,h2.op⟩,?_⟩
 have:=h.sz
 have:=h2.sz
 rw [UT];omega
end
structure KB (ds:List Zd) (nf m:Nat) (b:Z5) (z:Nat):Prop where
 fb:fB ds nf m b
 op:WV V6 b
 sz:b.sz<=z
section
variable {ds:List Zd} {nf m d z:Nat} {xs:List Z4}
theorem CL.block (h:CL ds nf m xs d z) {r:Int} (hr:0<=r/\r<((m+d:Nat):Int)):KB ds nf m ⟨xs,r⟩ (1+z):=by
 refine ⟨by rw [fB,h.dn];exact ⟨h.fs,hr⟩,by rw [WV];exact h.op,?_⟩
 have:=h.sz
 rw [Z5.sz];omega
theorem KB.le {b:Z5} (h:KB ds nf m b z) {z2:Nat} (hz:z<=z2):KB ds nf m b z2:=⟨h.fb,h.op,WO h.sz hz⟩
theorem KB.cl {b:Z5} (h:KB ds nf m b z):CL ds nf m b.steps (YM b.steps) (z-1)/\0<=b.result/\b.result<((m+YM b.steps:Nat):Int):=by
 obtain ⟨h1,h2⟩:=(CG b).1 h.fb
 refine ⟨⟨h1,rfl,(F4 b).1 h.op,?_⟩,h2⟩
 have:=h.sz
 have:=b.sz_eq
 omega
theorem KB.put {b:Z5} (h:KB ds nf m b z) {as1 bs:LI} (ha:∀v∈as1,0<=v/\v<(m:Int)) (hb:∀v∈bs,0<=v/\v<(m:Int)):KB ds nf m ⟨as1.map (Zw 14)++bs.map (Zw 15)++b.steps,b.result⟩ (z+2*as1.length+2*bs.length):=by
 obtain ⟨h1,h2⟩:=h.cl
 have q1:CL ds nf m ([]++as1.map (Zw 14)) 0 (0+2*as1.length):=CL.nil.cnts (.inl rfl) ha
 have q2:=(q1.cnts (op:=15) (.inr rfl) hb).app h1
 have:=h.sz
 have:=b.sz_eq
 rw [Br,WP] at q2
 exact (q2.block h2).le om
end
structure KK (ds:List Zd) (nf:Nat) (sc:Nat->Nat) (ks:List Z5) (z:Nat):Prop where
 fb:T8 ds nf sc 0 ks
 op:Qf V6 ks
 sz:YQ ks<=z
section
variable {ds:List Zd} {nf m z:Nat} {sc:Nat->Nat}
theorem KK.nil:KK ds nf sc [] 0:=⟨True.intro,True.intro,YU _⟩
theorem KK.snoc {ks:List Z5} {b:Z5} {j z2:Nat} (h:KK ds nf sc ks z) (hj:ks.length=j) (hb:KB ds nf (sc j) b z2):KK ds nf sc (ks++[b]) (z+z2):=by
 refine ⟨LM h.fb (by rw [hj];exact hb.fb),Nz h.op hb.op,?_⟩
 have:=h.sz
 have:=hb.sz
 rw [Ct];simp only [YQ];omega
theorem KK.le {ks:List Z5} (h:KK ds nf sc ks z) {z2:Nat} (hz:z<=z2):KK ds nf sc ks z2:=⟨h.fb,h.op,WO h.sz hz⟩
theorem LN {s:Z4} {ks:List Z5} {into:Int} (h:FS ds nf m s) (h11:s.op<=11) (hl:ks.length=s.kids.length) (hi:0<=into/\into<=m) (hk:KK ds nf (UA ds s.op s.num m) ks z):fS ds nf m ⟨s.op,s.num,into,s.args,ks⟩/\Qg V6 ⟨s.op,s.num,into,s.args,ks⟩/\(Z4.mk s.op s.num into s.args ks).sz<=5+z:=by
 refine ⟨?_,?_,?_⟩
 ·rw [fS]
  refine ⟨h.op,h.args,fun q=>by omega,fun q=>by rw [hl];exact h.k7 q,fun q=>by rw [hl];exact h.k8 q,h.one,h.call,h.num,hi,h.alen,fun q=>?_,hk.fb⟩
  have:=h.kn q
  rw [this] at hl
  exact List.eq_nil_of_length_eq_zero hl
 ·rw [Qg];exact ⟨by show s.op<=15;omega,hk.op⟩
 ·have:=h.alen
  have:=hk.sz
  rw [Z4.sz];omega
end
structure KT (ds:List Zd) (nf m:Nat) (st:Z4) (z:Nat):Prop where
 fs:fS ds nf m st
 cb:Yb st.op=false
 op:Qg V6 st
 sz:st.sz<=z
theorem KT.of {ds:List Zd} {nf m z:Nat} {s:Z4} {ks:List Z5} {into:Int} (h:FS ds nf m s) (h11:s.op<=11) (hl:ks.length=s.kids.length) (hi:0<=into/\into<=m) (hk:KK ds nf (UA ds s.op s.num m) ks z):KT ds nf m ⟨s.op,s.num,into,s.args,ks⟩ (5+z):=by
 obtain ⟨h1,h2,h3⟩:=LN h h11 hl hi hk
 exact ⟨h1,by show Yb s.op=false;simp [Yb];omega,h2,h3⟩
theorem CL.kt {ds:List Zd} {nf m d z z2:Nat} {xs:List Z4} {st:Z4} (h:CL ds nf m xs d z) (hs:KT ds nf (m+d) st z2):CL ds nf m (xs++[st]) (d+1) (z+z2):=(h.one hs.fs hs.cb hs.op).le (by have:=hs.sz;omega)
theorem FS.few {ds:List Zd} {nf m:Nat} {s:Z4} (h:FS ds nf m s) (hd:W1 ds):s.kids.length<=3:=by
 by_cases h7:s.op=7
 ·have:=h.k7 h7;omega
 ·by_cases h8:s.op=8
  ·have:=h.k8 h8
   have:=HC hd s.num
   omega
  ·rw [h.kn ⟨h7,h8⟩];simp
theorem RF.lend {ds:List Zd} {nf q:Nat} {p:Int->Prop} {r:ZX} {l:LI} (h:RF ds nf q p r) (h1:l.length<=3) (h2:∀v∈l,0<=v/\v<(r.params.length:Int)):RF ds nf q p ⟨r.params,l,r.result,r.body⟩:=⟨h.sig,⟨h1,h2⟩,h.body,h.op⟩
theorem RF.with {ds:List Zd} {nf q q2:Nat} {p p2:Int->Prop} {r:ZX} {b:Z5} (h:RF ds nf q p r) (h1:fB ds nf r.params.length b) (h2:b.sz<=q2) (h3:WV p2 b):RF ds nf q2 p2 ⟨r.params,r.lent,r.result,b⟩:=⟨h.sig,h.lent,⟨h1,h2⟩,h3⟩
theorem Z5.eta (b:Z5):Z5.mk b.steps b.result=b:=by cases b;rfl
theorem LC.at {n:Zr} {k:Nat} {xs:List LI} {i:Nat} {l:LI} {r:ZX} (h:LC n k xs) (hl:xs[i]? = some l) (hr:n.routines[i]? = some r):l.length<=3/\∀v∈l,0<=v/\v<(r.params.length:Int):=⟨(h.ok i l hl).1,(h.ok i l hl).2 r hr⟩
theorem Gr:∀{xs:List Z4},(∀s∈xs,Qg Wo s)->∀k,k<=xs.length->YM (xs.take k)=k
 | _,_,0,_=>rfl
 | [],_,k+1,h=>absurd h (by simp)
 | x::r,h,k+1,hk=>by
  have h1:=((Dh x).1 (h x (X4 ..))).1
  have hc:Yb x.op=false:=by have:x.op<=11:=h1;simp [Yb];omega
  rw [Bs,YM,Za (by rw [hc];simp),Gr (fun s hs=>h s (Xu _ hs)) k (by simpa using hk)]
  omega
theorem KB.put1 {ds:List Zd} {nf m z:Nat} {b:Z5} (h:KB ds nf m b z) {op:Int} (ho:op=14∨op=15) {as1:LI} (ha:∀v∈as1,0<=v/\v<(m:Int)):KB ds nf m ⟨as1.map (Zw op)++b.steps,b.result⟩ (z+2*as1.length):=by
 obtain ⟨h1,h2⟩:=h.cl
 have q1:CL ds nf m ([]++as1.map (Zw op)) 0 (0+2*as1.length):=CL.nil.cnts ho ha
 have q2:=q1.app h1
 have:=h.sz
 have:=b.sz_eq
 rw [Br,WP] at q2
 exact (q2.block h2).le om
theorem FO.fin {n:Zr} {rs:List ZX} {q q2:Nat} {p:Int->Prop} (h:FN n q2) (e:rs.length=n.routines.length) (hr:∀r∈rs,RF n.decls n.routines.length q p r):FO ⟨n.decls,rs⟩ q p/\rs.length=n.routines.length:=
 ⟨FO.all h.decls (by show 1<=rs.length/\rs.length<=4;rw [e];exact h.len) (by show ∀r∈rs,RF n.decls rs.length q p r;rw [e];exact hr),e⟩
theorem KT.le {ds:List Zd} {nf m z z2:Nat} {st:Z4} (h:KT ds nf m st z) (hz:z<=z2):KT ds nf m st z2:=⟨h.fs,h.cb,h.op,WO h.sz hz⟩
theorem KB.len {ds:List Zd} {nf m z:Nat} {b:Z5} (h:KB ds nf m b z):b.steps.length<=z:=by
 have:=h.sz
 have:=b.sz_eq
 have:=Ks b.steps
 omega
def V9:List Z4->Int->Nat
 | [],_=>0
 | s::r,v=>(if gI s.args 0=v then 1 else 0)+V9 r v
def V4 (rn:List Z4):LI->Nat
 | []=>0
 | v::r=>V9 rn v+V4 rn r
theorem Gh:∀(xs ys:List Z4) (v:Int),V9 (xs++ys) v=V9 xs v+V9 ys v
 | [],ys,v=>by simp [V9]
 | x::r,ys,v=>by rw [Qn,V9,V9,Gh r];omega
theorem RR {xs:List Z4} {k:Nat} {s:Z4} (h:xs[k]? = some s) (v:Int):V9 (xs.take (k+1)) v=V9 (xs.take k) v+(if gI s.args 0=v then 1 else 0):=by
 rw [Wq h,Gh,V9,V9];omega
theorem Lg:∀(xs:List Z4) (v:Int),V9 xs v<=xs.length
 | [],v=>YU _
 | x::r,v=>by have:=Lg r v;rw [V9,YK];split<;>omega
theorem RS (xs:List Z4) (k:Nat) (v:Int):V9 (xs.take k) v<=V9 xs v:=by
 have h:=Ya (V9 · v) (UF k xs)
 simp only [Gh] at h;omega
theorem Ii (rn:List Z4):∀xs ys:LI,V4 rn (xs++ys)=V4 rn xs+V4 rn ys
 | [],ys=>by simp [V4]
 | x::r,ys=>by rw [Qn,V4,V4,Ii rn r];omega
theorem Zbl {rn:List Z4} {xs:LI} {k:Nat} {v:Int} (h:xs[k]? = some v):V4 rn (xs.take (k+1))=V4 rn (xs.take k)+V9 rn v:=by
 rw [Wq h,Ii,V4,V4];rfl
theorem Pt (s:Z4) (r:List Z4):∀vs:LI,AM vs->V4 (s::r) vs<=1+V4 r vs/\(¬gI s.args 0∈vs->V4 (s::r) vs=V4 r vs)
 | [],_=>by simp [V4]
 | v::vs,h=>by
  obtain ⟨h1,h2⟩:=Wt.1 h
  obtain ⟨q1,q2⟩:=Pt s r vs h2
  rw [V4,V4,V9]
  by_cases e:gI s.args 0=v
  ·have hn:¬gI s.args 0∈vs:=fun z=>by have:=h1 _ z;omega
   rw [Zk e,q2 hn]
   exact ⟨by omega,fun z=>absurd (YE.2 (.inl e)) z⟩
  ·rw [Za e]
   exact ⟨by omega,fun z=>by rw [q2 fun y=>z (Xu _ y)];omega⟩
theorem Pu:∀(rn:List Z4) {vs:LI},AM vs->V4 rn vs<=rn.length
 | [],vs,_=>by
  have:∀xs:LI,V4 [] xs=0:=fun xs=>by
   induction xs with
   | nil=>rfl
   | cons x r ih=>rw [V4,ih];rfl
  rw [this];exact Ke _
 | s::r,vs,h=>by
  have h1:=(Pt s r vs h).1
  have h2:=Pu r h
  rw [YK];omega
theorem Ij (rn:List Z4) (xs:LI) (k:Nat):V4 rn (xs.take k)<=V4 rn xs:=by
 have h:=Ya (V4 rn) (UF k xs)
 rw [Ii] at h;omega
def IF (m:Nat) (rn:List Z4):Prop:=∀s∈rn,∃a,s.args=[a]/\0<=a/\a<(m:Int)
theorem Ls {xs:List Z4} {k:Nat} {s:Z4} (h:xs[k]? = some s):YM (xs.take (k+1))=YM (xs.take k)+(if Yb s.op=true then 0 else 1):=by rw [Wq h,Kj,YM,YM];rfl
theorem KT.eq {ds:List Zd} {nf m z:Nat} {s:Z4} {ks:List Z5} (h:FS ds nf m s) (h11:s.op<=11) (hl:ks.length=s.kids.length) (hk:KK ds nf (UA ds s.op s.num m) ks z):KT ds nf m ⟨s.op,s.num,s.into,s.args,ks⟩ (1+s.args.length+z):=by
 obtain ⟨h1,h2,h3⟩:=LN h h11 hl h.into hk
 refine ⟨h1,by show Yb s.op=false;simp [Yb];omega,h2,?_⟩
 have:=hk.sz
 rw [Z4.sz];omega
theorem FS.pair {ds:List Zd} {nf m:Nat} {s:Z4} (h:FS ds nf m s) (hp:s.op=14∨s.op=15):(∃a,s.args=[a]/\0<=a/\a<(m:Int))/\s.sz=2/\Yb s.op=true:=by
 obtain ⟨h1,h2,h3,a,h4⟩:=h.cnt om
 have h5:=h.args a (by rw [h4];exact XT.2 rfl)
 refine ⟨⟨a,h4,h5⟩,?_,Ln hp⟩
 rw [s.sz_eq,h3,h4];rfl
theorem FS.not_pair {ds:List Zd} {nf m:Nat} {s:Z4} (h:FS ds nf m s) (hp:¬(s.op=14∨s.op=15)) (h15:V6 s.op):s.op<=11/\Yb s.op=false:=by
 have h1:s.op<=15:=h15
 have h2:=h.op
 exact ⟨by omega,by simp [Yb];omega⟩
theorem CL.run {ds:List Zd} {nf m d z:Nat} {xs:List Z4} {D R:LI} {rn:List Z4} (h:CL ds nf m xs d z) (hr:IF (m+d) rn) (hD:∀v∈D,∃s∈rn,s.args=[v]) (hR:∀v∈R,∃s∈rn,s.args=[v]):CL ds nf m (xs++(D.map (Zw 14)++R.map (Zw 15))) d (z+2*(D.length+R.length)):=by
 have key:∀(A:LI),(∀v∈A,∃s∈rn,s.args=[v])->∀v∈A,0<=v/\v<((m+d:Nat):Int):=fun A hA v hv=>by
  obtain ⟨s,hs,e⟩:=hA v hv
  obtain ⟨a,e2,e3⟩:=hr s hs
  rw [e] at e2
  cases e2
  exact e3
 have h2:=(h.cnts (op:=14) (.inl rfl) (key D hD)).cnts (op:=15) (.inr rfl) (key R hR)
 rw [<-Up]
 exact h2.le om
def Wc (xs:List Z4) (i:Nat) (s:Z4):List Z4:=xs.take i++[s]++xs.drop i
theorem Dn {xs:List Z4} (i:Nat) (s:Z4):Yj (Wc xs i s)=Yj xs+s.sz:=by
 have h:=Ya Yj (UF i xs)
 rw [UT] at h
 rw [Wc,UT,UT,Yj,Yj];omega
theorem Oi {xs:List Z4} {i:Nat} {s:Z4} (h:i<=xs.length):(Wc xs i s).length=xs.length+1:=by
 simp [Wc,Vj h];omega
def CY (b:Z5) (i j:Nat) (v:Int):Z5:=⟨Wc (Wc b.steps j (Zw 15 v)) i (Zw 14 v),b.result⟩
def withR (n:Zr) (f:Nat) (rt:ZX) (b:Z5):Zr:=⟨n.decls,n.routines.set f ⟨rt.params,rt.lent,rt.result,b⟩⟩
def FU (n n2:Zr):Prop:=n2=n∨∃f rt i j v,n.routines[f]? = some rt/\i<=j/\j<=rt.body.steps.length/\0<=v/\v<((rt.params.length+YM (rt.body.steps.take i):Nat):Int)/\n2=withR n f rt (CY rt.body i j v)
theorem CL.put {ds:List Zd} {nf m:Nat} {xs:List Z4} {d z:Nat} (h:CL ds nf m xs d z) {i:Nat} {op v:Int} (ho:op=14∨op=15) (hv:0<=v/\v<((m+YM (xs.take i):Nat):Int)):CL ds nf m (Wc xs i (Zw op v)) d (z+2):=by
 have hs:=h.fs
 have hp:=h.op
 have e:=UF i xs
 rw [<-e] at hs hp
 rw [BM] at hs
 rw [F5] at hp
 have h1:CL ds nf m (xs.take i) (YM (xs.take i)) (Yj (xs.take i)):=⟨hs.1,rfl,hp.1,YU _⟩
 have h2:CL ds nf (m+YM (xs.take i)) (xs.drop i) (YM (xs.drop i)) (Yj (xs.drop i)):=⟨hs.2,rfl,hp.2,YU _⟩
 have h3:=(h1.cnt ho hv).app h2
 have e1:=Ya Yj e
 have e2:=Ya YM e
 rw [UT] at e1
 rw [Kj,h.dn] at e2
 have:=h.sz
 rw [e2] at h3
 exact h3.le om
theorem Z7q {xs:List Z4} {i j:Nat} {s:Z4} (h:i<=j) (hj:j<=xs.length):(Wc xs j s).take i=xs.take i:=by
 rw [Wc,Up,List.take_append_of_le_length (by rw [Ws];omega),List.take_take,Vj h]
theorem Z2z {ds:List Zd} {nf m z:Nat} {b:Z5} (h:KB ds nf m b z) {i j:Nat} {v:Int} (hij:i<=j) (hj:j<=b.steps.length) (hv:0<=v/\v<((m+YM (b.steps.take i):Nat):Int)):KB ds nf m (CY b i j v) (z+4):=by
 obtain ⟨h1,h2⟩:=h.cl
 have hm:YM (b.steps.take i)<=YM (b.steps.take j):=by
  have e:=Ya YM (UF i (b.steps.take j))
  rw [Kj,List.take_take,Vj hij] at e;omega
 have h3:=(h1.put (i:=j) (op:=15) (v:=v) (.inr rfl) om).put (i:=i) (op:=14) (v:=v) (.inl rfl) (by rw [Z7q hij hj];exact hv)
 have:=h.sz
 have:=b.sz_eq
 exact (h3.block h2).le om
theorem FO.held {n n2:Zr} {q:Nat} (h:FO n q V6) (hh:FU n n2):FO n2 (q+4) V6:=by
 rcases hh with rfl|⟨f,rt,i,j,v,h1,h2,h3,h4,h5,rfl⟩
 ·exact ⟨⟨h.fn.decls,h.fn.len,h.fn.sigs,h.fn.lent,fun r hr=>⟨(h.fn.body r hr).1,by have:=(h.fn.body r hr).2;omega⟩⟩,h.op⟩
 ·have hr:=h.rf (ZZ h1)
  have hk:KB n.decls n.routines.length rt.params.length (CY rt.body i j v) (q+4):=Z2z ⟨hr.body.1,hr.op,hr.body.2⟩ h2 h3 ⟨h4,h5⟩
  refine FO.all h.fn.decls (by show 1<=(n.routines.set _ _).length/\(n.routines.set _ _).length<=4;rw [T3];exact h.fn.len) fun r hm=>?_
  show RF n.decls (n.routines.set _ _).length _ _ r
  rw [T3]
  rcases List.mem_or_eq_of_mem_set hm with hm|rfl
  ·have hq:=h.rf hm
   exact ⟨hq.sig,hq.lent,⟨hq.body.1,by have:=hq.body.2;omega⟩,hq.op⟩
  ·exact ⟨hr.sig,hr.lent,⟨hk.fb,hk.sz⟩,hk.op⟩
structure Wl (ds:List Zd) (b:Z5):Prop where
 w:wB ds b
 nr:Qe b
 rng:b.rng
structure T5 (ds:List Zd) (s:Z4):Prop where
 w:wS ds s
 nr:Bg s
 rng:s.rng
section
variable {ds:List Zd}
theorem TS:∀{xs:List Z4},Tl xs↔∀s∈xs,s.rng
 | []=>by simp [Tl]
 | s::r=>by rw [Tl,TS];simp
theorem A7:∀{xs:List Z5},UW xs↔∀s∈xs,s.rng
 | []=>by simp [UW]
 | s::r=>by rw [UW,A7];simp
theorem Wl.iff {b:Z5}:Wl ds b↔∀s∈b.steps,T5 ds s:=by
 constructor
 ·intro h s hs
  have h3:=h.rng
  rw [Z5.rng_eq] at h3
  exact ⟨JP.1 ((Ka b).1 h.w) s hs,Dd.1 ((Dc b).1 h.nr) s hs,TS.1 h3 s hs⟩
 ·intro h
  exact ⟨(Ka b).2 (JP.2 fun s hs=>(h s hs).w),(Dc b).2 (Dd.2 fun s hs=>(h s hs).nr),by rw [Z5.rng_eq];exact TS.2 fun s hs=>(h s hs).rng⟩
theorem T5.kid {s:Z4} {b:Z5} (h:T5 ds s) (hb:b∈s.kids):Wl ds b:=by
 have h3:=h.rng
 rw [Z4.rng_eq] at h3
 exact ⟨FE.1 ((Ky s).1 h.w).2.2.2 b hb,EY.1 ((C4 s).1 h.nr).2 b hb,A7.1 h3.2 b hb⟩
theorem T5.kids {s:Z4} {ks:List Z5} (h:T5 ds s) (hl:ks.length=s.kids.length) (hk:∀b∈ks,Wl ds b):T5 ds ⟨s.op,s.num,s.into,s.args,ks⟩:=by
 obtain ⟨h1,h2,h3,h4⟩:=(Ky s).1 h.w
 have h5:=h.rng
 rw [Z4.rng_eq] at h5
 refine ⟨(Ky _).2 ⟨h1,fun hc=>?_,fun h8=>⟨(h3 h8).1,hl.trans (h3 h8).2⟩,FE.2 fun b hb=>(hk b hb).w⟩,(C4 _).2 ⟨((C4 s).1 h.nr).1,EY.2 fun b hb=>(hk b hb).nr⟩,by rw [Z4.rng_eq];exact ⟨h5.1,A7.2 fun b hb=>(hk b hb).rng⟩⟩
 obtain ⟨q1,q2,q3,q4⟩:=h2 hc
 exact ⟨q1,q2,List.eq_nil_of_length_eq_zero (show ks.length=0 by rw [hl,q3];rfl),q4⟩
theorem T5.cnt {op v:Int} (h:op=14∨op=15∨op=16):T5 ds (Zw op v):=⟨Zce h,(C4 _).2 ⟨by show op≠17;omega,True.intro⟩,by rw [Z4.rng_eq];exact ⟨⟨by show (-9223372036854775808:Int)<=0;decide,by show (0:Int)<=_;decide⟩,True.intro⟩⟩
theorem Wl.open {b:Z5} {x q:Int} {fs:LI} (h:Wl ds b):Wl ds (KE b x fs q):=by
 rw [Wl.iff] at h ⊢
 intro s hs
 have hs:s∈A3 b.steps x fs q:=hs
 rw [A3] at hs
 split at hs
 ·simp only [X3,XC,XT] at hs
  rcases hs with ((⟨a,_,rfl⟩|rfl)|⟨a,_,rfl⟩)|hs
  ·exact T5.cnt om
  ·exact T5.cnt om
  ·exact T5.cnt om
  ·exact h s (List.mem_of_mem_drop hs)
 ·exact h s hs
theorem OX {m:Nat} {op num:Int} {args:LI}:∀{bs:List Z5} {k:Nat},(Tj ds m op num args bs k).length=bs.length
 | [],_=>rfl
 | b::r,k=>by rw [Tj,YK,YK,OX (bs:=r)]
mutual
theorem T5.sp:∀(s:Z4) {m:Nat},T5 ds s->T5 ds (Bj ds m s)
 | .mk op num into args kids,m,h=>by
  rw [Bj]
  exact h.kids OX (Wls.sp kids fun b hb=>h.kid hb)
theorem Wls.sp:∀(bs:List Z5) {m:Nat} {op num:Int} {args:LI} {k:Nat},(∀b∈bs,Wl ds b)->∀b∈Tj ds m op num args bs k,Wl ds b
 | [],_,_,_,_,_,_,b,hb=>by cases hb
 | c::r,m,op,num,args,k,h,b,hb=>by
  rw [Tj] at hb
  rcases YE.1 hb with rfl|hb
  ·split
   ·exact (Wl.sp c (h c (X4 ..))).open
   ·exact Wl.sp c (h c (X4 ..))
  ·exact Wls.sp r (fun x hx=>h x (Xu _ hx)) b hb
theorem WlSs.sp:∀(xs:List Z4) {m:Nat},(∀s∈xs,T5 ds s)->∀s∈UB ds m xs,T5 ds s
 | [],_,_,s,hs=>by cases hs
 | c::r,m,h,s,hs=>by
  rw [UB] at hs
  rcases YE.1 hs with rfl|hs
  ·exact T5.sp c (h c (X4 ..))
  ·exact WlSs.sp r (fun x hx=>h x (Xu _ hx)) s hs
theorem Wl.sp:∀(b:Z5) {m:Nat},Wl ds b->Wl ds (WM ds m b)
 | .mk steps result,m,h=>by
  rw [WM,Wl.iff]
  exact WlSs.sp steps (Wl.iff.1 h)
end
theorem Z82 {b:Z5} {x:Int} {many:Nat} (h:b.rng):(VT b x many).rng:=by
 rw [Z5.rng_eq] at h
 rw [VT,Z5.rng_eq]
 show Tl (VX b.steps x many)
 rw [VX]
 split
 ·exact h
 ·rename_i hq
  obtain ⟨_,_,t,h5,h7,h6⟩:=A8 (fun z=>hq (.inr z))
  rw [TS] at h ⊢
  intro s hs
  rcases List.mem_or_eq_of_mem_set hs with hs|rfl
  ·rcases List.mem_or_eq_of_mem_set hs with hs|rfl
   ·exact h s hs
   ·rw [Z4.rng_eq];exact ⟨⟨by show (-9223372036854775808:Int)<=0;decide,by show (0:Int)<=_;decide⟩,True.intro⟩
  ·have:=h t (ZZ h5)
   rw [h6,Qb,Z4.rng_eq]
   rw [Z4.rng_eq] at this
   exact this
mutual
theorem Z83:∀(s:Z4) {K:LI},s.rng->(Qi ds K s).rng
 | .mk op num into args kids,K,h=>by
  rw [Z4.rng] at h
  rw [Qi,Z4.rng]
  exact ⟨h.1,Ov kids h.2⟩
theorem Ov:∀(bs:List Z5) {K:LI} {op num:Int} {args:LI} {k:Nat},UW bs->UW (Uk ds K op num args bs k)
 | [],_,_,_,_,_,_=>True.intro
 | b::r,K,op,num,args,k,h=>by
  rw [Uk,UW]
  refine ⟨?_,Ov r h.2⟩
  split
  ·exact Z82 (HQ b h.1)
  ·exact HQ b h.1
theorem Ow:∀(xs:List Z4) {K:LI},Tl xs->Tl (Ul ds K xs)
 | [],_,_=>True.intro
 | s::r,K,h=>⟨Z83 s h.1,Ow r h.2⟩
theorem HQ:∀(b:Z5) {K:LI},b.rng->(Wn ds K b).rng
 | .mk steps result,K,h=>by
  rw [Z5.rng] at h
  rw [Wn,Z5.rng]
  exact Ow steps h
end
end
mutual
theorem Z6a:∀s:Z4,Qg V6 s->Bg s
 | .mk op num into args kids,h=>by
  rw [Qg] at h
  rw [Bg]
  exact ⟨by have:op<=15:=h.1;omega,Np kids h.2⟩
theorem Np:∀bs:List Z5,Qf V6 bs->Am bs
 | [],_=>True.intro
 | b::r,h=>⟨Nn b h.1,Np r h.2⟩
theorem Nq:∀bs:List Z4,Td V6 bs->An bs
 | [],_=>True.intro
 | b::r,h=>⟨Z6a b h.1,Nq r h.2⟩
theorem Nn:∀b:Z5,WV V6 b->Qe b
 | .mk steps result,h=>by
  rw [WV] at h
  rw [Qe]
  exact Nq steps h
end
structure ZR (q:Nat) (r:ZX):Prop where
 params:r.params.length<=3
 lent:r.lent.length<=10
 body:r.body.sz<=q
 rng:r.body.rng
structure ZN (n:Zr) (q:Nat):Prop where
 decls:AD n.decls
 len:1<=n.routines.length/\n.routines.length<=4
 rt:∀r∈n.routines,ZR q r
theorem ZR.le {q q2:Nat} {r:ZX} (h:ZR q r) (hq:q<=q2):ZR q2 r:=⟨h.params,h.lent,WO h.body hq,h.rng⟩
theorem ZN.le {n:Zr} {q q2:Nat} (h:ZN n q) (hq:q<=q2):ZN n q2:=⟨h.decls,h.len,fun r hr=>(h.rt r hr).le hq⟩
theorem ZN.sz {n:Zr} {q:Nat} (h:ZN n q) (hq:q<=10000000):Ud n:=
 ⟨⟨by have:=h.decls.1;omega,fun d hd=>by have:=(h.decls.2 d hd).1;omega,fun d hd c hc=>by have:=(h.decls.2 d hd).2 c hc;omega⟩,by have:=h.len;omega,fun r hr=>by have:=(h.rt r hr).params;omega,fun r hr=>by have:=(h.rt r hr).lent;omega,fun r hr=>by have:=(h.rt r hr).body;omega⟩
theorem FO.wl {n:Zr} {q:Nat} (h:FO n q V6) (hq:q<=100000000):∀r∈n.routines,Wl n.decls r.body:=fun r hr=>by
 have h1:=h.rf hr
 have h2:r.params.length<=3:=(UV.bd (f:=⟨r.params,r.result,default⟩) h1.sig).1
 exact ⟨PK r.body h1.body.1 (by have:=h1.body.2;omega) h.fn.decls.ok,Nn r.body h1.op,HO r.body h1.body.1⟩
theorem FO.zn {n:Zr} {q:Nat} {p:Int->Prop} (h:FO n q p):ZN n q:=
 ⟨h.fn.decls.ad,h.fn.len,fun r hr=>⟨(UV.bd (f:=⟨r.params,r.result,default⟩) (h.fn.sigs r hr)).1,by have:=(h.fn.lent r hr).1;omega,(h.fn.body r hr).2,HO r.body (h.fn.body r hr).1⟩⟩
structure WN (n:Zr) (q:Nat):Prop where
 ok:X1 n
 zn:ZN n q
 wl:∀r∈n.routines,Wl n.decls r.body
theorem FO.wn {n:Zr} {q:Nat} (h:FO n q V6) (hq:q<=100000000):WN n q:=⟨h.fn.ok,h.zn,h.wl hq⟩
theorem WN.sp {n:Zr} {q:Nat} (h:WN n q):WN (Fu n) (9*q):=by
 refine ⟨⟨h.ok.decls,by show (n.routines.map _).length<=4;rw [Kc];exact h.ok.len,fun r hr=>?_,fun r hr=>?_⟩,⟨h.zn.decls,by show 1<=(n.routines.map _).length/\(n.routines.map _).length<=4;rw [Kc];exact h.zn.len,fun r hr=>?_⟩,fun r hr=>?_⟩
 ·obtain ⟨s,hs,rfl⟩:=XC.1 hr;exact h.ok.params s hs
 ·obtain ⟨s,hs,rfl⟩:=XC.1 hr;exact h.ok.lent s hs
 ·obtain ⟨s,hs,rfl⟩:=XC.1 hr
  have hz:=h.zn.rt s hs
  refine ⟨hz.params,hz.lent,?_,(Wl.sp s.body (h.wl s hs)).rng⟩
  have h1:=Fs h.ok.decls s.body (m:=s.params.length) (h.wl s hs).w
  have h2:=s.body.pz_le
  have h3:=hz.body
  show (WM n.decls s.params.length s.body).sz<=9*q
  omega
 ·obtain ⟨s,hs,rfl⟩:=XC.1 hr;exact Wl.sp s.body (h.wl s hs)
theorem WN.ru {n:Zr} {q:Nat} (h:WN n q):ZN (Fd n) q:=by
 refine ⟨h.zn.decls,by show 1<=(n.routines.map _).length/\(n.routines.map _).length<=4;rw [Kc];exact h.zn.len,fun r hr=>?_⟩
 obtain ⟨s,hs,rfl⟩:=XC.1 hr
 have hz:=h.zn.rt s hs
 refine ⟨hz.params,hz.lent,?_,HQ s.body (h.wl s hs).rng⟩
 have h1:=HV s.body (K:=[]) (h.wl s hs).w
 have h3:=hz.body
 show (Wn n.decls [] s.body).sz<=q
 omega
theorem HK {xs:List Z4} {i:Nat} {s t:Z4} (h:t∈Wc xs i s):t∈xs∨t=s:=by
 rw [Wc] at h
 simp only [X3,XT] at h
 rcases h with (h|h)|h
 ·exact .inl (TY h)
 ·exact .inr h
 ·exact .inl (List.mem_of_mem_drop h)
theorem HP {op v:Int}:(Zw op v).rng:=by rw [Z4.rng_eq];exact ⟨⟨by show (-9223372036854775808:Int)<=0;decide,by show (0:Int)<=_;decide⟩,True.intro⟩
theorem ZN.withR {n:Zr} {q q2:Nat} {f:Nat} {rt:ZX} {b:Z5} (h:ZN n q) (hr:n.routines[f]? = some rt) (hq:q<=q2) (hb:b.sz<=q2) (hg:b.rng):ZN (withR n f rt b) q2:=by
 refine ⟨h.decls,by show 1<=(n.routines.set _ _).length/\(n.routines.set _ _).length<=4;rw [T3];exact h.len,fun r hm=>?_⟩
 rcases List.mem_or_eq_of_mem_set hm with hm|rfl
 ·exact (h.rt r hm).le hq
 ·have:=h.rt rt (ZZ hr)
  exact ⟨this.params,this.lent,hb,hg⟩
theorem ZN.held {n n2:Zr} {q:Nat} (h:ZN n q) (hh:FU n n2):ZN n2 (q+4):=by
 rcases hh with rfl|⟨f,rt,i,j,v,h1,h2,h3,h4,h5,rfl⟩
 ·exact h.le om
 ·have hz:=h.rt rt (ZZ h1)
  refine h.withR h1 om ?_ ?_
  ·rw [CY,Z5.sz,Dn,Dn]
   have e1:(Zw 14 v).sz=2:=rfl
   have e2:(Zw 15 v).sz=2:=rfl
   have:=hz.body
   have:=rt.body.sz_eq
   omega
  ·have hg:=hz.rng
   rw [Z5.rng_eq,TS] at hg
   rw [CY,Z5.rng_eq,TS]
   intro s hs
   rcases HK hs with hs|rfl
   ·rcases HK hs with hs|rfl
    ·exact hg s hs
    ·exact HP
   ·exact HP
theorem FO.le {n:Zr} {q q2:Nat} {p:Int->Prop} (h:FO n q p) (hq:q<=q2):FO n q2 p:=⟨⟨h.fn.decls,h.fn.len,h.fn.sigs,h.fn.lent,fun r hr=>⟨(h.fn.body r hr).1,WO (h.fn.body r hr).2 hq⟩⟩,h.op⟩
def Vx (s y:Z4):Prop:=y.sz<=s.sz+1/\y.rng
theorem Vx.refl {s:Z4} (hg:s.rng):Vx s s:=⟨Nat.le_succ _,hg⟩
theorem Vx.of {s:Z4} {op num into:Int} {args:LI} {kids:List Z5} (hg:s.rng) (hn:num=s.num∨num∈([0,1,2,3,-1,1000]:LI)) (ha:args.length<=s.args.length+1) (hk:kids=s.kids∨kids=s.kids.drop 1):Vx s ⟨op,num,into,args,kids⟩:=by
 rw [Z4.rng_eq] at hg
 have hs:=s.sz_eq
 have hb:YQ kids<=YQ s.kids:=by
  rcases hk with rfl|rfl
  ·exact YU _
  ·have h:=Ya YQ (UF 1 s.kids)
   rw [Ct] at h;omega
 refine ⟨by rw [Z4.sz];omega,?_⟩
 rw [Z4.rng]
 refine ⟨?_,A7.2 fun b hbk=>A7.1 hg.2 b ?_⟩
 ·rcases hn with rfl|hn
  ·exact hg.1
  ·have:=(by decide:∀z∈([0,1,2,3,-1,1000]:LI),-9223372036854775808<=z/\z<=9223372036854775807) num hn
   exact this
 ·rcases hk with rfl|rfl
  ·exact hbk
  ·exact List.mem_of_mem_drop hbk
def Xl (b y:Z5):Prop:=y.sz<=b.sz+2/\y.rng
theorem Xl.result {b:Z5} (hg:b.rng) (z:Int):Xl b ⟨b.steps,z⟩:=⟨by rw [Z5.sz,b.sz_eq];omega,by rw [Z5.rng_eq] at hg;rw [Z5.rng];exact hg⟩
theorem Xl.put {b:Z5} (hg:b.rng) {i:Nat} {op v:Int}:Xl b ⟨Wc b.steps i (Zw op v),b.result⟩:=by
 rw [Z5.rng_eq,TS] at hg
 refine ⟨?_,?_⟩
 ·rw [Z5.sz,Dn,b.sz_eq]
  have e:(Zw op v).sz=2:=rfl
  omega
 ·rw [Z5.rng,TS]
  intro s hs
  rcases HK hs with hs|rfl
  ·exact hg s hs
  ·exact HP
theorem Xl.del {b:Z5} (hg:b.rng) {k:Nat}:Xl b ⟨b.steps.take k++b.steps.drop (k+1),b.result⟩:=by
 rw [Z5.rng_eq,TS] at hg
 have h1:=QG b.steps k
 have h2:=Ya Yj (UF k b.steps)
 have h3:=Ya Yj (UF 1 (b.steps.drop k))
 rw [UT] at h2 h3
 rw [List.drop_drop] at h3
 refine ⟨by rw [Z5.sz,UT,b.sz_eq];omega,?_⟩
 rw [Z5.rng,TS]
 intro s hs
 rcases X3.1 hs with hs|hs
 ·exact hg s (TY hs)
 ·exact hg s (List.mem_of_mem_drop hs)
theorem Xl.set {b:Z5} (hg:b.rng) {k:Nat} {s t:Z4} (hs:b.steps[k]? = some s) (ht:t.sz<=s.sz+2/\t.rng):Xl b ⟨b.steps.set k t,b.result⟩:=by
 rw [Z5.rng_eq,TS] at hg
 have h1:=Fx t hs
 refine ⟨by rw [Z5.sz,b.sz_eq];omega,?_⟩
 rw [Z5.rng,TS]
 intro x hx
 rcases List.mem_or_eq_of_mem_set hx with hx|rfl
 ·exact hg x hx
 ·exact ht.2
theorem La:∀{xs:List Z5} {i:Nat} {s:Z5} (t:Z5),xs[i]? = some s->YQ (xs.set i t)+s.sz=YQ xs+t.sz
 | [],_,_,_,h=>by simp at h
 | x::r,0,s,t,h=>by simp at h;subst h;rw [List.set_cons_zero,YQ,YQ];omega
 | x::r,i+1,s,t,h=>by
  have:=La (xs:=r) (i:=i) t (by simpa using h)
  rw [List.set_cons_succ,YQ,YQ];omega
theorem Xl.kid {b:Z5} (hg:b.rng) {k j:Nat} {s:Z4} {c y:Z5} (hs:b.steps[k]? = some s) (hc:s.kids[j]? = some c) (hy:Xl c y):Xl b ⟨b.steps.set k ⟨s.op,s.num,s.into,s.args,s.kids.set j y⟩,b.result⟩:=by
 refine Xl.set hg hs ?_
 have hg2:=hg
 rw [Z5.rng_eq,TS] at hg2
 have h1:=hg2 s (ZZ hs)
 rw [Z4.rng_eq] at h1
 have h2:=La y hc
 have h3:=hy.1
 refine ⟨by rw [Z4.sz,s.sz_eq];omega,?_⟩
 rw [Z4.rng]
 refine ⟨h1.1,A7.2 fun x hx=>?_⟩
 rcases List.mem_or_eq_of_mem_set hx with hx|rfl
 ·exact A7.1 h1.2 x hx
 ·exact hy.2
theorem Z81 {b:Z5} (hg:b.rng) {k j:Nat} {s:Z4} {c:Z5} (hs:b.steps[k]? = some s) (hc:s.kids[j]? = some c):c.rng:=by
 rw [Z5.rng_eq,TS] at hg
 have h1:=hg s (ZZ hs)
 rw [Z4.rng_eq] at h1
 exact A7.1 h1.2 c (ZZ hc)
theorem Z84 {b:Z5} (hg:b.rng) {k:Nat} {s:Z4} (hs:b.steps[k]? = some s):s.rng:=by
 rw [Z5.rng_eq,TS] at hg
 exact hg s (ZZ hs)
structure ZS (n:Zr) (q l:Nat):Prop where
 decls:AD n.decls
 len:1<=n.routines.length/\n.routines.length<=4
 rt:∀r∈n.routines,r.params.length<=3/\r.lent.length<=l/\r.body.sz<=q/\r.body.rng
theorem ZN.zs {n:Zr} {q:Nat} (h:ZN n q):ZS n q 10:=⟨h.decls,h.len,fun r hr=>⟨(h.rt r hr).params,(h.rt r hr).lent,(h.rt r hr).body,(h.rt r hr).rng⟩⟩
theorem ZS.le {n:Zr} {q q2 l l2:Nat} (h:ZS n q l) (hq:q<=q2) (hl:l<=l2):ZS n q2 l2:=⟨h.decls,h.len,fun r hr=>by obtain ⟨a,b,c,d⟩:=h.rt r hr;exact ⟨a,by omega,by omega,d⟩⟩
theorem ZS.sz {n:Zr} {q l:Nat} (h:ZS n q l) (hq:q<=10000000) (hl:l<=1000):Ud n:=
 ⟨⟨by have:=h.decls.1;omega,fun d hd=>by have:=(h.decls.2 d hd).1;omega,fun d hd c hc=>by have:=(h.decls.2 d hd).2 c hc;omega⟩,by have:=h.len;omega,fun r hr=>by have:=(h.rt r hr).1;omega,fun r hr=>by have:=(h.rt r hr).2.1;omega,fun r hr=>by have:=(h.rt r hr).2.2.1;omega⟩
theorem ZS.set {n:Zr} {q l q2 l2:Nat} {f:Nat} {rt:ZX} {ls:LI} {b:Z5} (h:ZS n q l) (hr:n.routines[f]? = some rt) (hq:q<=q2) (hl:l<=l2) (hls:ls.length<=l2) (hb:b.sz<=q2) (hg:b.rng):ZS ⟨n.decls,n.routines.set f ⟨rt.params,ls,rt.result,b⟩⟩ q2 l2:=by
 refine ⟨h.decls,by show 1<=(n.routines.set _ _).length/\(n.routines.set _ _).length<=4;rw [T3];exact h.len,fun r hm=>?_⟩
 rcases List.mem_or_eq_of_mem_set hm with hm|rfl
 ·exact (h.le hq hl).rt r hm
 ·have:=h.rt rt (ZZ hr)
  exact ⟨this.1,hls,hb,hg⟩
theorem ZS.ds {n:Zr} {q l:Nat} {ds:List Zd} (h:ZS n q l) (hd:AD ds):ZS ⟨ds,n.routines⟩ q l:=⟨hd,h.len,h.rt⟩
section
variable {n n2:Zr} (hd:n2.decls=n.decls) (hr:∀vars op num args,US n2 vars op num args=US n vars op num args)
include hd hr
end
theorem Ox {n:Zr}:∀{l:List ZX},(∀r∈l,¬Um r.body<0/\YT n r.params r.body=r.result)->Tg n l=true
 | [],_=>by rw [Tg]
 | r::rs,h=>by rw [Tg,Zk (h r (X4 ..))];exact Ox fun q hq=>h q (Xu _ hq)
mutual
def Ty:Z4->Z4
 | .mk op num _ args kids=>.mk op num 0 args (XZ kids)
def YZ:Z5->Z5
 | .mk steps result=>.mk (Wy steps) result
def Wy:List Z4->List Z4
 | []=>[]
 | s::r=>if Yb s.op=true then Wy r else Ty s::Wy r
def XZ:List Z5->List Z5
 | []=>[]
 | b::r=>YZ b::XZ r
end
theorem NX (b:Z5):YZ b=.mk (Wy b.steps) b.result:=by cases b;rw [YZ];rfl
theorem O5 (s:Z4):Ty s=.mk s.op s.num 0 s.args (XZ s.kids):=by cases s;rw [Ty];rfl
theorem O0 (b:Z5):(YZ b).steps=Wy b.steps:=by rw [NX];rfl
theorem NY (b:Z5):(YZ b).result=b.result:=by rw [NX];rfl
theorem O2:∀(bs:List Z5),(XZ bs).length=bs.length
 | []=>by rw [XZ]
 | b::r=>by rw [XZ,YK,YK,O2 r]
def Tf (r:ZX):ZX:=⟨r.params,r.lent,r.result,YZ r.body⟩
def VH (n:Zr):Zr:=⟨n.decls,n.routines.map Tf⟩
theorem Of {xs zs w:List Z4} {k:Nat} {s:Z4} (h:xs[k]? = some s) (hc:Yb s.op=true) (ha:zs++Wy (xs.drop k)=w):zs++Wy (xs.drop (k+1))=w:=by
 rw [Y3 h,Wy,Zk hc] at ha;exact ha
theorem Oa {xs zs w:List Z4} {k:Nat} {s:Z4} (h:xs[k]? = some s) (hc:¬Yb s.op=true) (ha:zs++Wy (xs.drop k)=w):(zs++[Z4.mk s.op s.num 0 s.args (XZ s.kids)])++Wy (xs.drop (k+1))=w:=by
 rw [Y3 h,Wy,Za hc,O5] at ha;rw [Up];exact ha
theorem O9 {xs zs w:List Z4} {k:Nat} (h:xs.length<=k) (ha:zs++Wy (xs.drop k)=w):zs=w:=by
 rw [X5 h,Wy,Jb] at ha;exact ha
theorem Oh {xs zs w:List Z5} {k:Nat} {s:Z5} (h:xs[k]? = some s) (ha:zs++XZ (xs.drop k)=w):(zs++[YZ s])++XZ (xs.drop (k+1))=w:=by
 rw [Y3 h,XZ] at ha;rw [Up];exact ha
theorem Og {xs zs w:List Z5} {k:Nat} (h:xs.length<=k) (ha:zs++XZ (xs.drop k)=w):zs=w:=by
 rw [X5 h,XZ,Jb] at ha;exact ha
mutual
theorem Z7c:∀(s:Z4),¬Yb s.op=true->Ar (Ty s)=true
 | .mk op num into args kids,h=>by
  have h:¬Yb op=true:=h
  rw [Ty,Ar,NV kids,TB.2 h];rfl
theorem NU:∀(b:Z5),U9 (YZ b)=true
 | .mk steps _=>by rw [YZ,U9];exact HG steps
theorem HG:∀(xs:List Z4),TP (Wy xs)=true
 | []=>by rw [Wy,TP]
 | s::r=>by
  rw [Wy]
  split
  ·exact HG r
  ·rename_i h
   rw [TP,Z7c s h,HG r];rfl
theorem NV:∀(xs:List Z5),TO (XZ xs)=true
 | []=>by rw [XZ,TO]
 | b::r=>by rw [XZ,TO,NU b,NV r];rfl
end
mutual
theorem Z7p:∀(s:Z4),Ar s=true->Ty s=s
 | .mk op num into args kids,h=>by
  rw [Ar,Xy,Xy,Zs] at h
  rw [Ty,Oc kids h.2,h.1.2]
theorem Ob:∀(b:Z5),U9 b=true->YZ b=b
 | .mk steps _,h=>by rw [U9] at h;rw [YZ,Oe steps h]
theorem Oe:∀(xs:List Z4),TP xs=true->Wy xs=xs
 | [],_=>by rw [Wy]
 | s::r,h=>by
  rw [TP,Xy] at h
  have h1:=h.1
  rw [NT,Xy,Xy] at h1
  rw [Wy,Za (by simpa using h1.1.1),Z7p s h.1,Oe r h.2]
theorem Oc:∀(xs:List Z5),TO xs=true->XZ xs=xs
 | [],_=>by rw [XZ]
 | b::r,h=>by rw [TO,Xy] at h;rw [XZ,Ob b h.1,Oc r h.2]
end
theorem F8:∀(rs:List ZX),T2 (rs.map Tf)=true
 | []=>by rw [AI,T2]
 | r::rs=>by rw [VL,T2,F8 rs];show (U9 (YZ r.body)&&true)=true;rw [NU];rfl
theorem Od:∀(rs:List ZX),T2 rs=true->rs.map Tf=rs
 | [],_=>rfl
 | r::rs,h=>by rw [T2,Xy] at h;rw [VL,Od rs h.2,Tf,Ob _ h.1]
theorem Z76 {n:Zr}:VH n=n↔T2 n.routines=true:=by
 constructor
 ·intro h
  have e:n.routines.map Tf=n.routines:=Ya Zr.routines h
  rw [<-e];exact F8 _
 ·intro h
  rw [VH,Od _ h]
theorem Z75 (n:Zr):VH (VH n)=VH n:=Z76.2 (F8 _)
mutual
theorem Z5p:∀(s:Z4) {l l':Int},0<=l->l<=l'->0<=TL s l->TL s l<=TL (Ty s) l'
 | .mk op num into args kids,l,l',h0,hl,h=>by rw [TL] at h ⊢;rw [Ty,TL];exact Nc kids h0 hl h
theorem Nb:∀(b:Z5) {l l':Int},0<=l->l<=l'->0<=XY b l->XY b l<=XY (YZ b) l'
 | .mk steps _,l,l',h0,hl,h=>by rw [XY] at h ⊢;rw [YZ,XY];exact Hu steps h0 hl h
theorem Hu:∀(xs:List Z4) {l l':Int},0<=l->l<=l'->0<=Vu xs l->Vu xs l<=Vu (Wy xs) l'
 | [],l,l',h0,hl,h=>by rw [Vu,Wy,Vu];exact hl
 | s::r,l,l',h0,hl,h=>by
  have e:Vu (s::r) l=(if l<1 then -1 else if TL s (l-1)<0 then -1 else Vu r (TL s (l-1))):=by rw [Vu]
  rw [e] at h ⊢
  split at h
  ·omega
  ·rename_i h1
   split at h
   ·omega
   ·rename_i h2
    rw [Za h1,Za h2,Wy]
    have h3:=D9.1 s (l-1) om
    split
    ·exact Hu r om om h
    ·have h4:=Z5p s (l:=l-1) (l':=l'-1) om om om
     rw [Vu,Za om,Za om]
     exact Hu r om h4 h
theorem Nc:∀(xs:List Z5) {l l':Int},0<=l->l<=l'->0<=VF xs l->VF xs l<=VF (XZ xs) l'
 | [],l,l',h0,hl,h=>by rw [VF,XZ,VF];exact hl
 | b::r,l,l',h0,hl,h=>by
  have e:VF (b::r) l=(if XY b l<0 then -1 else VF r (XY b l)):=by rw [VF]
  rw [e] at h ⊢
  split at h
  ·omega
  ·rename_i h2
   rw [Za h2,XZ]
   have h4:=Nb b h0 hl om
   rw [VF,Za om]
   exact Nc r om h4 h
end
theorem Z78 {n:Zr}:∀vars op num args,US (VH n) vars op num args=US n vars op num args:=by
 intro vars op num args
 unfold US VH
 dsimp only
 have e:Xc (n.routines.map Tf) num=(Xc n.routines num).map Tf:=by
  unfold Xc
  rw [Kc]
  split
  ·rw [Kb]
  ·rfl
 rw [e]
 cases Xc n.routines num with
 | none=>rfl
 | some r=>rfl
section
variable {n:Zr}
mutual
theorem Z7o:∀(s:Z4) {us:LI},¬Yb s.op=true->0<=Y4 n us s->Y4 (VH n) us (Ty s)=Y4 n us s
 | .mk op num into args kids,us,hc,h=>by
  have hd:(VH n).decls=n.decls:=rfl
  have hrt:=Z78 (n:=n) us op num args
  have hl:=O2 kids
  have hv:VJ us op 0=true:=by simp [VJ]
  have hk:=fun (ms:List LI) (f:Bool) (t:Int) (hh:0<=XS n us kids ms f t)=>O8 kids (us:=us) (ms:=ms) (f:=f) (t:=t) hh
  rw [Y4] at h ⊢
  rw [Ty,Y4,hd,hrt,hl]
  split at h
  ·omega
  ·rename_i h1
   rw [Za h1,Za (fun z=>h1 (by rcases z with z|z|z;exact .inl z;exact absurd hv z;exact .inr (.inr z)))]
   by_cases g0:op=0
   ·simp only [Zk g0]
   simp only [Za g0] at h ⊢
   by_cases g1:op=1∨op=2∨op=3∨op=4
   ·simp only [Zk g1]
   simp only [Za g1] at h ⊢
   by_cases g5:op=5
   ·simp only [Zk g5]
   simp only [Za g5] at h ⊢
   by_cases g6:op=6
   ·simp only [Zk g6]
   simp only [Za g6] at h ⊢
   by_cases g7:op=7
   ·simp only [Zk g7] at h ⊢
    by_cases q1:XL us args [0]=true
    ·simp only [Zk q1] at h ⊢
     by_cases q2:(X7 n.decls op num).length=0∨kids.length≠(X7 n.decls op num).length
     ·simp only [Zk q2]
     ·simp only [Za q2] at h ⊢
      exact hk _ _ _ h
    ·simp only [Za q1]
   simp only [Za g7] at h ⊢
   by_cases g8:op=8
   ·simp only [Zk g8] at h ⊢
    by_cases q1:XL us args [num]=true
    ·simp only [Zk q1] at h ⊢
     by_cases q2:(X7 n.decls op num).length=0∨kids.length≠(X7 n.decls op num).length
     ·simp only [Zk q2]
     ·simp only [Za q2] at h ⊢
      exact hk _ _ _ h
    ·simp only [Za q1]
   simp only [Za g8] at h ⊢
theorem O8:∀(bs:List Z5) {us:LI} {ms:List LI} {f:Bool} {t:Int},0<=XS n us bs ms f t->XS (VH n) us (XZ bs) ms f t=XS n us bs ms f t
 | [],us,ms,f,t,h=>by rw [XZ,XS,XS]
 | b::r,us,[],f,t,h=>by rw [XZ,XS,XS]
 | b::r,us,m::ms,f,t,h=>by
  rw [XS] at h ⊢
  split at h
  ·omega
  ·rename_i h1
   have hb:=O7 b (us:=us++m) om
   rw [Za h1,XZ,XS,hb,Za h1]
   exact O8 r h
theorem HJ:∀(xs:List Z4) {us vs:LI},Wg n xs us=some vs->Wg (VH n) (Wy xs) us=some vs
 | [],us,vs,h=>by rw [Wg] at h;rw [Wy,Wg];exact h
 | s::r,us,vs,h=>by
  rw [Wg] at h
  split at h
  ·cases h
  ·rename_i h1
   have hd:=SB h1
   rw [Wy]
   by_cases hc:Yb s.op=true
   ·rw [Zk hc]
    rw [hd,hc] at h
    exact HJ r h
   ·rw [Za hc,Wg,Z7o s hc om,Za h1,show (Ty s).op=s.op by rw [O5];rfl]
    exact HJ r h
theorem O7:∀(b:Z5) {us:LI},0<=YT n us b->YT (VH n) us (YZ b)=YT n us b
 | .mk steps result,us,h=>by
  rw [YT] at h ⊢
  cases hs:Wg n steps us with
  | none=>rw [hs] at h;exact absurd h (show ¬(0:Int)<=-1 by decide)
  | some vs=>rw [YZ,YT,HJ steps hs]
end
end
theorem Z77 (n:Zr):VR (VH n)=VR n:=by
 have e1:(n.routines.map Tf).map Vi=n.routines.map Vi:=by rw [List.map_map];rfl
 have e2:∀rs:List ZX,Qd (rs.map Tf)=Qd rs:=by
  intro rs
  induction rs with
  | nil=>rfl
  | cons r rs ih=>rw [VL,Qd,Qd,ih];rfl
 unfold VR VH
 dsimp only
 rw [e1,e2,Kc]
theorem HF {n:Zr} (hV:YS n=true):YS (VH n)=true:=by
 have hV0:=hV
 simp only [YS,Xy] at hV
 have hall:=HR hV.2
 rw [YS,Z77,hV.1,Bool.true_and]
 refine Ox fun p hp=>?_
 obtain ⟨r,hr,rfl⟩:=XC.1 (show p∈n.routines.map Tf from hp)
 obtain ⟨h1,h2⟩:=hall r hr
 have h0:0<=r.result:=by
  have h4:=hV.1
  simp only [VR,Qm,Xy] at h4
  have h3:=Fp h4.2.1.2.2.1 (Vi r) (XC.2 ⟨r,hr,rfl⟩)
  simp only [QB,Xy,decide_eq_true_eq,Vi] at h3
  exact (of_decide_eq_true h3.2.2).1
 constructor
 ·show ¬Um (YZ r.body)<0
  rw [Um] at h1 ⊢
  split at h1
  ·exact absurd (show (-1:Int)<0 by decide) h1
  ·rename_i h9
   have h5:=Nb r.body (l:=600) (l':=600) om om om
   have h6:=D9.2 (YZ r.body) 600 om
   rw [Za om]
   omega
 ·show YT (VH n) r.params (YZ r.body)=r.result
  rw [O7 r.body om,h2]
def Xe (n:Zr):Zr:=if YS n=true then VH n else ⟨[],[]⟩
theorem J4 {n:Zr} (h:YS n=true):Xe n=VH n:=Zk h
theorem C8 {n:Zr} (h:¬YS n=true):Xe n=⟨[],[]⟩:=Za h
theorem Z7b {n:Zr} (h:YS n=true):QV (VH n)=true:=by rw [QV,HF h];exact F8 _
noncomputable instance decBlock:DecidableEq Z5:=fun a b=>Classical.propDecidable (a=b)
noncomputable instance decStep:DecidableEq Z4:=fun a b=>Classical.propDecidable (a=b)
noncomputable instance decDecls:DecidableEq Zd:=fun a b=>Classical.propDecidable (a=b)
noncomputable instance decNormal:DecidableEq Zr:=fun a b=>Classical.propDecidable (a=b)
theorem CD {α:Type} {xs ys:List α} (h:xs.length=ys.length) (ha:∀i,i<xs.length->xs[i]? = ys[i]?):xs=ys:=List.ext_getElem? fun i=>by
 by_cases hi:i<xs.length
 ·exact ha i hi
 ·rw [Cj om,Cj om]
theorem DC {α:Type} {xs ys:List α} {k:Nat} {x y:α} (h:∀i,i<k->xs[i]? = ys[i]?) (hx:xs[k]? = some x) (hy:ys[k]? = some y) (e:x=y):∀i,i<k+1->xs[i]? = ys[i]?:=fun i hi=>
 (Nat.lt_succ_iff_lt_or_eq.1 hi).elim (h i) fun z=>by rw [z,hx,hy,e]
theorem DB {α:Type} {xs ys:List α}:∀i,i<0->xs[i]? = ys[i]?:=fun i h=>absurd h om
theorem By {α:Type} {xs ys:List α} {k:Nat} {x y:α} (hx:xs[k]? = some x) (hy:ys[k]? = some y) (e:x≠y):xs≠ys:=fun z=>by rw [z,hy] at hx;cases hx;exact e rfl
theorem Z4.ext4 {s t:Z4} (h1:s.op=t.op) (h2:s.num=t.num) (h3:s.into=t.into) (h4:s.args=t.args) (h5:s.kids=t.kids):s=t:=by cases s;cases t;simp only [Z4.op,Z4.num,Z4.into,Z4.args,Z4.kids] at h1 h2 h3 h4 h5;subst h1 h2 h3 h4 h5;rfl
theorem Z5.ext2 {s t:Z5} (h1:s.steps=t.steps) (h2:s.result=t.result):s=t:=by cases s;cases t;simp only [Z5.steps,Z5.result] at h1 h2;subst h1 h2;rfl
theorem Y1.ext1 {s t:Y1} (h1:s.fields=t.fields):s=t:=by cases s;cases t;simp at h1;rw [h1]
theorem Zd.ext3 {s t:Zd} (h1:s.frm=t.frm) (h2:s.to_=t.to_) (h3:s.cons=t.cons):s=t:=by cases s;cases t;simp at h1 h2 h3;rw [h1,h2,h3]
theorem ZX.ext4 {s t:ZX} (h1:s.params=t.params) (h2:s.lent=t.lent) (h3:s.result=t.result) (h4:s.body=t.body):s=t:=by cases s;cases t;simp at h1 h2 h3 h4;rw [h1,h2,h3,h4]
theorem Zr.ext2 {s t:Zr} (h1:s.decls=t.decls) (h2:s.routines=t.routines):s=t:=by cases s;cases t;simp at h1 h2;rw [h1,h2]
end Go.Abs
