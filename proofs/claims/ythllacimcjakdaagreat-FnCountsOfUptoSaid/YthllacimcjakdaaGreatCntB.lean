/-
  A part of the proof of FnCountsOfUptoSaid (see the last file): no condition.
-/
import Derived.Test.YthllacimcjakdaaGreatCntA
import Derived.Test.YthllacimcjakdaaGreatRows
import Derived.Deep.Slices
import Derived.ChangeArms
set_option linter.all false
set_option linter.unusedVariables false
set_option linter.unusedSimpArgs false
set_option linter.unusedSectionVars false
set_option maxRecDepth 10000
set_option maxHeartbeats 4000000
section
namespace Go.Abs
structure OW where
 fields:LI
 fv:Value
structure OX where
 frm:Int
 to_:Int
 cons:List OW
 cv:Value
mutual
inductive F7 where
 | mk (op num into:Int) (args:LI) (av:Value) (kids:List Dc) (kv:Value)
inductive Dc where
 | mk (steps:List F7) (sv:Value) (result:Int)
end
namespace F7
end F7
namespace Dc
end Dc
structure OZ where
 params:LI
 pv:Value
 lent:LI
 lv:Value
 result:Int
 body:Dc
structure OY where
 decls:List OX
 dv:Value
 routines:List OZ
 rv:Value
inductive F5:List AV->List AV->Prop
 | nil:F5 [] []
 | cons {x y:AV} {xs ys:List AV} (hl:x.leaves.length=y.leaves.length) (h:Vo x.leaves y.leaves) (t:F5 xs ys):F5 (x::xs) (y::ys)
theorem TC {es:List AV} {k:Nat} (h:es.all (fun y=>Nat.beq y.leaves.length k)=true):∀y∈es,y.leaves.length=k:=fun y hy=>VX (Kn.1 h y hy)
abbrev rK (g:Hd) (k:Nat) (ls:List AV):Res:=.row g.v k ls
section
variable {P:Program} {n:Nat} {c:Code} {A:WS} {F:Fr} {h:List Res} {ops:Array Oper} {B:Fr->List Res->Prop} {k:Nat}
variable {T:List (Nat × List Nat)} {fuel:Nat} {done:List Nat}
theorem rr {v:Value} {q:Nat} {ls ls':List AV} {t t':List Res} (h:ls=ls') (e:t=t'):Res.row v q ls::t=.row v q ls'::t':=h▸e▸rfl
theorem Z32 (j m:Nat) (v:Hd) (kk:Nat) (ls:List AV) (hm:ls.length=m*kk) (hk:0<kk:=by omega) (hl:BD P ops F k=some (.h v):=by kernel_rfl) (hj:h[j]? = some (rK v kk ls):=by kernel_rfl):Xp P (Zx ops k) F h [] (.i m):=
 Z8c j hl hj hm hk
theorem XR (b l c' q sz:Nat) (j:Int) (hq:j=(q:Int)/\q<l:=by omega) (hi:A6 P ops F k=some (.val (.slice (some ⟨b,0,none⟩) l c'),j,sz):=by kernel_rfl):Xp P (Zx ops k) F h [] (.val (.pointer (some ⟨b,q*sz,none⟩))):=by
 have:=On (P:=P) (F:=F) (h:=h) hi om om
 rw [hq.1,V1,WG] at this
 exact this
theorem WM (j g len cap kk o:Nat) (ls zs:List AV) (t:TypeId) (y:AV) (hz:(ls.drop o).take zs.length=zs) (hl:GU ops F k=some (t,.val (.pointer (some ⟨g,o,none⟩))):=by kernel_rfl) (hj:h[j]? = some (.row (.slice (some ⟨g,0,none⟩) len cap) kk ls):=by kernel_rfl)
  (hy:Jl P t zs=some y:=by kernel_rfl):Xp P (Zx ops k) F h [g] y:=Z8d j hl hj hz hy
theorem Cs (j g len cap kk o:Nat) (xs ls:List AV) (ls':List AV) (hlt:o+xs.length<=ls.length) (he:ls.take o++xs++ls.drop (o+xs.length)=ls') (H:SI P n ops B (k+1) F (.row (.slice (some ⟨g,0,none⟩) len cap) kk ls'::Xn [j] h)) (hk:YS n ops F k=true:=by kernel_rfl)
  (hs:storeAt P ops F k=some (g,o,xs):=by kernel_rfl) (hp:XY [j] h=some [.row (.slice (some ⟨g,0,none⟩) len cap) kk ls]:=by kernel_rfl):SI P n ops B k F h:=
 UG hk (W4.perm (VM (WY hp)) (N4 hs hlt (by rw [he];exact H)))
theorem JU (i j:Nat) (js bs:List Nat) (g len cap kk o:Nat) (xs ls:List AV) (ls':List AV) (hlt:o+xs.length<=ls.length) (he:ls.take o++xs++ls.drop (o+xs.length)=ls')
  (H:YQ P n ops B (T.filter fun t=>!Wt ops i t.1) fuel (done++[i]) F (.row (.slice (some ⟨g,0,none⟩) len cap) kk ls'::Xn [j] h)) (hk:YS n ops F i=true:=by kernel_rfl)
  (hs:storeAt P ops F i=some (g,o,xs):=by kernel_rfl) (hp:XY [j] h=some [.row (.slice (some ⟨g,0,none⟩) len cap) kk ls]:=by kernel_rfl) (ho:Vs ops i T=bs:=by kernel_rfl)
  (hj:js.map (fun q=>(Wc (Xn [j] h))[q]?)=bs.map some:=by kernel_rfl):WR P n ops B T fuel done F h i:=
 Qk [j] js bs hk (WY hp) ho hj (N4 (h2:=[]) hs hlt (by rw [he];exact H))
theorem Cr (sz:Nat) (hK:∀g,SI P n ops B (k+1) (F.put (Zx ops k).dst (.val (.slice (some ⟨g,0,none⟩) 0 0))) (.row (.slice (some ⟨g,0,none⟩) 0 0) sz []::h)) (hk:YS n ops F k=true:=by kernel_rfl)
  (ha:UK P ops F k=some ([],0,sz):=by kernel_rfl):SI P n ops B k F h:=UG hk (Z4q (V7 hk).2.1 ha hK)
theorem M1 (j g sz:Nat) (xs:List AV) (hx:Option Value) (hxs:∀y∈xs,y.leaves.length=sz) (hbound:xs.length<=4294967296) (hK:∀v:Hd,SI P n ops B (k+1) (F.put (Zx ops k).dst (.h v)) (rK v sz (Zi xs)::Xn [j] h))
  (hk:YS n ops F k=true:=by kernel_rfl) (ha:VY P ops F k=some (.val (.slice (some ⟨g,0,none⟩) 0 0),.sl xs hx,sz):=by kernel_rfl) (hp:XY [j] h=some [.row (.slice (some ⟨g,0,none⟩) 0 0) sz []]:=by kernel_rfl):SI P n ops B k F h:=
 UG hk (W4.perm (VM (WY hp)) (Z4o (V7 hk).2.1 ha hxs hbound hK))
theorem Z31 (t j:Nat) {v:Hd} {kk:Nat} (es:List AV) (hes:∀y∈es,y.leaves.length=kk) (H:YV P n c A ((t,.sl es (some v.v))::F) (.tail v.v kk::Xn [j] h)) (hk:0<kk:=by omega) (hF':F.get t=.h v:=by kernel_rfl)
  (hp:XY [j] h=some [rK v kk (Zi es)]:=by kernel_rfl):YV P n c A F h:=P8 t j hF' hp hes hk H
theorem H7 {A xs ys B:List AV} {o:Nat} (hA:A.length=o) (hl:xs.length=ys.length):(A++(xs++B)).take o++ys++(A++(xs++B)).drop (o+ys.length)=A++(ys++B):=by
 subst hA
 rw [KU,<-hl,<-List.drop_drop,List.drop_left,List.drop_left,Tq]
theorem Z5k {A xs B:List AV} {o:Nat} (hA:A.length=o):((A++(xs++B)).drop o).take xs.length=xs:=by
 subst hA
 rw [List.drop_left,KU]
theorem Tz (xs ys:List AV):Zi (xs++ys)=Zi xs++Zi ys:=by simp [Zi]
theorem Sv:Zi []=[]:=rfl
theorem Hy (j:Nat) (v:Value) (q:Nat) (ls ls':List AV) (e:ls=ls') (hp:XY [j] h=some [.row v q ls]:=by kernel_rfl):UY h (.row v q ls'::Xn [j] h):=by
 subst e
 intro w G hh
 have hp':=VM (WY hp)
 exact ⟨G,hh.perm hp',(YN.refl w G h).perm (Tp _) hp'⟩
end
end Go.Abs
end
section
namespace Go.Abs
theorem Yo.rgrow {w:World} {G:Y3} {h2:List Res} {g len len' cap k:Nat} {ls ls':List AV} (hh:Yo w G (.row (.slice (some ⟨g,0,none⟩) len cap) k ls::h2)) {cs cs':Array Value} {e:TypeId}
  (hb:w.heap[g]? = some (.cells cs e (0,0))) (Xi:cs'.size=cs.size) (hle:len'<=cap) (hcap:cs.size=cap*k) (hl:ls'.length=len'*k) (hls:YH w G ls' (cs'.toList.take (len'*k))) :
  Yo (w.setRow g cs') G (.row (.slice (some ⟨g,0,none⟩) len' cap) k ls'::h2) /\
   YN w G (.row (.slice (some ⟨g,0,none⟩) len cap) k ls::h2) (w.setRow g cs') G (.row (.slice (some ⟨g,0,none⟩) len' cap) k ls'::h2):=by
 have hmem:Res.row (.slice (some ⟨g,0,none⟩) len cap) k ls∈Res.row (.slice (some ⟨g,0,none⟩) len cap) k ls::h2:=X4 ..
 have hA:Vn G w (w.setRow g cs') G:=⟨fun c j hg=>by
  have hne:c≠g:=fun he=>hh.prot _ hmem c j he hg
  simp [World.cell?,Vf w g c cs' hne],fun _ _ h=>h⟩
 have e1:YN w G [.row (.slice (some ⟨g,0,none⟩) len cap) k ls] (w.setRow g cs') G [.row (.slice (some ⟨g,0,none⟩) len' cap) k ls']:=by
  refine ⟨rfl,rfl,rfl,by simp [World.setRow],fun _ _ h=>h,?_,fun _ _ _ h=>.inl h,?_⟩
  ·intro c hc
   by_cases hcb:c=g
   ·subst hcb
    exact .inr ⟨cs,cs',e,(0,0),hb,setRow_heap w c cs cs' e (0,0) hb,Xi,fun j hj=>absurd ⟨_,X4 ..,rfl⟩ hj⟩
   ·exact .inl (Vf w g c cs' hcb)
  ·rintro c j _ ⟨r,hr,hf⟩
   rw [XT.1 hr] at hf
   exact ⟨_,X4 ..,hf⟩
 have e2:Yo (w.setRow g cs') G [.row (.slice (some ⟨g,0,none⟩) len' cap) k ls']:=by
  refine ⟨fun r hr=>?_,BT _ _,fun r hr c j hf hg=>?_,fun c j hg=>?_⟩
  ·rw [XT.1 hr]
   exact .inr ⟨g,len',cap,cs',e,rfl,setRow_heap w g cs cs' e (0,0) hb,hle,Xi.trans hcap,hl,hls.mono hA⟩
  ·rw [XT.1 hr] at hf
   exact hh.prot _ hmem c j hf hg
  ·have:=hh.lt c j hg
   simpa [World.setRow] using this
 exact Yo.frame (h:=[.row (.slice (some ⟨g,0,none⟩) len cap) k ls]) (k:=h2) hh e1 e2
section
variable {P:Program} {n:Nat} {ops:Array Oper} {k:Nat} {F:Fr} {h2:List Res}
theorem N2 {K:Fr->List Res->Prop} {v:Hd} {sz m:Nat} {ls xs:List AV} {hx:Option Value} (hd:WK n (Zx ops k)=true) (ha:VY P ops F k=some (.val v.v,.sl xs hx,sz))
  (hxs:∀y∈xs,y.leaves.length=sz) (hone:(Zi xs).all AV.one=true) (hm0:ls.length=m*sz) (hk0:0<sz) (hne:xs≠[]) (hbound:m+xs.length<=4294967296)
  (hK:∀v':Hd,K (F.put (Zx ops k).dst (.val v'.v)) (.row v'.v sz (ls++Zi xs)::h2)):W4 P n (Zx ops k) F (.row v.v sz ls::h2) K:=by
 unfold VY at ha
 generalize hoo:Zx ops k=o at ha hd hK
 obtain ⟨dst,op,type,pos,after,guard⟩:=o
 cases op<;>simp only at ha<;>try (cases ha)
 rename_i c
 obtain ⟨callee,args,tys⟩:=c
 simp only at ha
 split at ha
 case h_2=>cases ha
 rename_i s x t t' hargs htys
 split at ha
 case h_2=>cases ha
 rename_i e htt ht
 have:=VX htt
 subst this
 split at ha
 case h_2=>cases ha
 rename_i i hinfo
 split at ha
 case h_2=>cases ha
 rename_i z hz
 split at ha
 case h_2=>cases ha
 rename_i hb
 simp only [XN] at hb
 simp only [XU,Prod.mk.injEq] at ha
 obtain ⟨h3,h4,hk1⟩:=ha
 have e1:args=#[s,x]:=by rw [<-VD (xs:=args),hargs]
 have e2:tys=#[t,t]:=by rw [<-VD (xs:=tys),htys]
 subst e1;subst e2
 have hzs:z.cells.size=sz:=by rw [VX hb.1,hk1]
 have hby:=Ww hb.2
 have hfl:=UR xs hxs
 intro Q w G a hF hh
 have v1:=hF.ev s
 have v2:=hF.ev x
 rw [h3] at v1
 rw [h4] at v2
 have v1:=v1.val_inv
 have v2:=v2.forget
 have finish:∀(v':Hd) w',(Builtin.append_ #[t,t] type #[v.v,a.eval x]).run P w=.ok v'.v w'->Yo w' G (.row v'.v sz (ls++Zi xs)::h2)->YN w G (.row v.v sz ls::h2) w' G (.row v'.v sz (ls++Zi xs)::h2) ->
   ({ dst:=dst,op:=.call { callee:=.builtin .append,args:=#[s,x],argTypes:=#[t,t] },type:=type,pos:=pos,after:=after,guard:=guard }:Oper).wp P a w
    (fun a' w'=>∃F' h' G',K F' h'/\FR w' G' n F' a'/\Yo w' G' h'/\YN w G (.row v.v sz ls::h2) w' G' h') Q:=by
  intro v' w' hr j1 j2
  have hrun:(execOp a.eval { dst:=dst,op:=.call { callee:=.builtin .append,args:=#[s,x],argTypes:=#[t,t] },type:=type,pos:=pos,after:=after,guard:=guard }).run P w=.ok (.value v'.v) w':=by
   simp only [execOp,resolve,invoke,builtin,Sem.run_bind,Sem.run_pure,Result.andThen_ok,B4,U9,B3,v1,hr]
  unfold Oper.wp
  rw [hrun]
  exact ⟨_,_,G,hK v',(hF.mono (j2.agree hh)).put (U1 hd) .val,j1,j2⟩
 have hrow0:=hh.ok (.row v.v sz ls) (X4 ..)
 have hsub2:∀r:Res,List.Sublist (r::h2) (r::.row v.v sz ls::h2):=fun r=>List.Sublist.cons_cons _ (KS _ _)
 have grown:∀(olds news:List Value) (old:Nat),YH w G ls olds->YH w G (Zi xs) news ->
   Yo (w.drew.alloc (.cells (olds.toArray++news.toArray++Builtin.zeroCells z.cells (grownCap w (m+xs.length) old e-(m+xs.length))) e)) G
    (.row (.slice (some ⟨w.heap.size,0,none⟩) (m+xs.length) (grownCap w (m+xs.length) old e)) sz (ls++Zi xs)::h2) /\
   YN w G (.row v.v sz ls::h2) (w.drew.alloc (.cells (olds.toArray++news.toArray++Builtin.zeroCells z.cells (grownCap w (m+xs.length) old e-(m+xs.length))) e)) G
    (.row (.slice (some ⟨w.heap.size,0,none⟩) (m+xs.length) (grownCap w (m+xs.length) old e)) sz (ls++Zi xs)::h2):=by
  intro olds news old ho hn
  have YY:=grownCap_ge w (m+xs.length) old e
  have hol:=ho.length
  have hnl:=hn.length
  have hlen:(ls++Zi xs).length=(m+xs.length)*sz:=by rw [Ym,hm0,hfl,Ts]
  obtain ⟨j1,j2⟩:=hh.drew.alloc_rrow (olds.toArray++news.toArray++Builtin.zeroCells z.cells (grownCap w (m+xs.length) old e-(m+xs.length))) e
   (ls:=ls++Zi xs) (len:=m+xs.length) (cap:=grownCap w (m+xs.length) old e) (k:=sz) YY
   (by
    have q2:(grownCap w (m+xs.length) old e-(m+xs.length))*sz=grownCap w (m+xs.length) old e*sz-(m+xs.length)*sz:=Nat.sub_mul ..
    have q3:(m+xs.length)*sz<=grownCap w (m+xs.length) old e*sz:=TM _ YY
    have q4:(m+xs.length)*sz=m*sz+xs.length*sz:=Ts ..
    simp only [Array.size_append,BU,size_zeroCells,hzs,hol,hnl,hm0,hfl]
    omega) hlen
   (by
    have:(olds.toArray++news.toArray++Builtin.zeroCells z.cells (grownCap w (m+xs.length) old e-(m+xs.length))).toList.take ((m+xs.length)*sz)=olds++news:=by
     simp only [BS]
     rw [<-hlen,Ym,<-hol,<-hnl,<-Ym]
     exact KU
    rw [this]
    exact (ho.append hn).mono (JL w G))
  exact ⟨j1.sub (hsub2 _),(YN.drew w G _).trans (j2.sub' (hsub2 _))⟩
 generalize hax:a.eval x=ax at v2 finish
 cases v2 with
 | nil _=>exact absurd rfl hne
 | sl hq hcc hm=>
  rename_i b o' k' c
  have hpos:0<xs.length:=EY.2 hne
  have hfm:=hm.flat_mem
  obtain ⟨news,hn,hnc⟩:=hfm.cells
  have hnl:news.length=xs.length*i.size:=by rw [hn.length,hfl,hk1]
  have hone':=hn.one_cells hone
  have hnews:∀j u,news[j]? = some u->w.cell? ((⟨b,o',none⟩:Addr).add j)=some u:=fun j u hj=>by rw [QA];exact (hnc j u hj).1
  have hbb:(m+xs.length)*i.bytes<=140737488355328:=by
   have:=Nat.mul_le_mul hbound hby
   omega
  rcases hrow0 with ⟨hv0,hl0⟩|⟨g,len,cap,cur,el,hv0,hrow,hlc,hcur,hll,hcells⟩
  ·subst hl0
   have hm1:m=0:=by
    have:m*sz=0:=by simpa using hm0.symm
    rcases Nat.mul_eq_zero.1 this with h|h
    ·exact h
    ·omega
   subst hm1
   rw [hv0] at finish hh ⊢
   have hr:=run_append_nil (P:=P) w t type e i z ht hinfo hz ⟨b,o',none⟩ xs.length c news hnl hnews hpos om (by simp only [WG] at hbb;omega)
   obtain ⟨j1,j2⟩:=grown [] news 0 .nil hn
   simp only [WG,Array.empty_append,Ko] at j1 j2
   rw [hv0] at j2
   exact finish ⟨some ⟨w.heap.size,0,none⟩,xs.length,grownCap w xs.length 0 e⟩ _ hr (by simpa using j1) (by simpa using j2)
  ·have hlm:len=m:=F3 hk0 (hll.symm.trans hm0)
   subst hlm
   rw [hv0] at finish hh ⊢
   have q5:len*sz<=cap*sz:=TM _ hlc
   have h1:(cur.toList.take (len*sz)).length=len*sz:=by rw [Wp,Qu,hcur,Vh q5]
   have hcl:cur.toList.length=cap*sz:=by rw [Qu,hcur]
   by_cases hroom:len+xs.length<=cap
   ·have q1:(len+xs.length)*sz<=cap*sz:=TM _ hroom
    have q2:(len+xs.length)*sz=len*sz+xs.length*sz:=Ts ..
    have hfit:len*i.size+news.length<=cur.size:=by rw [hnl,hcur,hk1];omega
    have hr:=Eu (P:=P) w t type e el i ht hinfo g len cap cur hrow ⟨b,o',none⟩ xs.length c news hnl hnews hone' hroom hfit
    rw [hk1] at hr
    have hnl':news.length=xs.length*sz:=by rw [hnl,hk1]
    obtain ⟨j1,j2⟩:=hh.rgrow (ls':=ls++Zi xs) (len':=len+xs.length) (cs':=(cur.toList.take (len*sz)++news++cur.toList.drop (len*sz+news.length)).toArray) hrow
     (by simp only [BU,Ym,h1,hnl',Ao,hcl,hcur];omega) hroom hcur (by rw [Ym,hll,hfl,q2]) (by
      have:(cur.toList.take (len*sz)++news++cur.toList.drop (len*sz+news.length)).toArray.toList.take ((len+xs.length)*sz)=cur.toList.take (len*sz)++news:=by
       rw [BV,q2,<-hnl']
       conv=>lhs;arg 1;rw [show len*sz+news.length=(cur.toList.take (len*sz)++news).length from by rw [Ym,h1]]
       exact KU
      rw [this]
      exact hcells.append hn)
    exact finish ⟨some ⟨g,0,none⟩,len+xs.length,cap⟩ _ hr j1 j2
   ·have hr:=run_append_grow (P:=P) w t type e i z ht hinfo hz ⟨g,0,none⟩ len cap (cur.toList.take (len*sz)) (by rw [hk1];exact h1) (fun j u hj=>by
     rw [QA,cell_of_row w g _ cur el (0,0) hrow]
     rw [Q9] at hj
     split at hj
     ·simpa using hj
     ·cases hj) ⟨b,o',none⟩ xs.length c news hnl hnews om om (growslice_fits om hbb)
    obtain ⟨j1,j2⟩:=grown (cur.toList.take (len*sz)) news cap hcells hn
    rw [hv0] at j2
    exact finish ⟨some ⟨w.heap.size,0,none⟩,len+xs.length,grownCap w (len+xs.length) cap e⟩ _ hr j1 j2
end
section
variable {P:Program} {n:Nat} {ops:Array Oper} {B:Fr->List Res->Prop} {k:Nat} {F:Fr} {h:List Res}
theorem DU (j m:Nat) (v:Hd) (sz:Nat) (ls xs:List AV) (hx:Option Value) (hm0:ls.length=m*sz) (hxs:∀y∈xs,y.leaves.length=sz) (hone:(Zi xs).all AV.one=true) (hne:xs≠[]) (hbound:m+xs.length<=4294967296)
  (hK:∀v':Hd,SI P n ops B (k+1) (F.put (Zx ops k).dst (.h v')) (rK v' sz (ls++Zi xs)::Xn [j] h)) (hk0:0<sz:=by omega)
  (hk:YS n ops F k=true:=by kernel_rfl) (ha:VY P ops F k=some (.h v,.sl xs hx,sz):=by kernel_rfl) (hp:XY [j] h=some [rK v sz ls]:=by kernel_rfl):SI P n ops B k F h:=
 UG hk (W4.perm (VM (WY hp)) (N2 (V7 hk).2.1 ha hxs hone hm0 hk0 hne hbound hK))
end
end Go.Abs
namespace Go.Abs
section
variable {P:Program} {n:Nat} {ops:Array Oper} {B:Fr->List Res->Prop} {T:List (Nat × List Nat)} {fuel:Nat} {done:List Nat} {F:Fr} {h:List Res}
theorem Fx (i j m:Nat) (js bs:List Nat) (v:Hd) (sz:Nat) (ls xs:List AV) (hx:Option Value) (hm0:ls.length=m*sz) (hxs:∀y∈xs,y.leaves.length=sz) (hone:(Zi xs).all AV.one=true) (hne:xs≠[]) (hbound:m+xs.length<=4294967296)
  (hK:∀v':Hd,YQ P n ops B (T.filter fun t=>!Wt ops i t.1) fuel (done++[i]) (F.put (Zx ops i).dst (.h v')) (rK v' sz (ls++Zi xs)::Xn [j] h)) (hk0:0<sz:=by omega) (hk:YS n ops F i=true:=by kernel_rfl)
  (ha:VY P ops F i=some (.h v,.sl xs hx,sz):=by kernel_rfl) (hp:XY [j] h=some [rK v sz ls]:=by kernel_rfl) (ho:Vs ops i T=bs:=by kernel_rfl)
  (hj:js.map (fun q=>(Wc (Xn [j] h))[q]?)=bs.map some:=by kernel_rfl):WR P n ops B T fuel done F h i:=
 Qk [j] js bs hk (WY hp) ho hj (N2 (h2:=[]) (V7 hk).2.1 ha hxs hone hm0 hk0 hne hbound hK)
end
theorem XW.form {P:Program} {f:FuncId} {as1:List AV} {h0:List Res} {T:Hd->AV} {kk m:Nat} {ls:List AV} {hs:List Res} (H:XW P f as1 h0 (fun r h=>∃v:Hd,r=T v/\h=rK v kk ls::hs)) (hm:ls.length=m*kk) (hk:0<kk) (h1:0<m) :
  XW P f as1 h0 (fun r h=>∃(g c:Nat),r=T ⟨some ⟨g,0,none⟩,m,c⟩/\h=rK ⟨some ⟨g,0,none⟩,m,c⟩ kk ls::hs):=by
 intro w G vs hv hh
 refine (H w G vs hv hh).mono ?_
 rintro e w' ⟨u,r,h',G',he,⟨v,rfl,rfl⟩,hr,hh',hx⟩
 obtain ⟨g,c,rfl⟩:=Nw (hh'.ok _ (X4 ..)) hm hk h1
 exact ⟨u,_,_,G',he,⟨g,c,rfl,rfl⟩,hr,hh',hx⟩
end Go.Abs
namespace Go.Abs
section
variable {h:List Res}
theorem Z8t (j i p:Nat) {u:Value} {kk b:Nat} {es ls:List AV} (hp:XY [j,i] h=some [.row u kk (Zi es),.obj b ls]) (hes:∀y∈es,y.leaves.length=kk) (hk:0<kk) (hl:ls[p]? = some (.val u)) :
  UY h (.obj b (ls.set p (.sl es (some u)))::.tail u kk::Xn [j,i] h):=by
 intro w G hh
 have hp':=VM (WY hp)
 have hh':=hh.perm hp'
 obtain ⟨G',h1,h2',h3⟩:=BL (h2:=.obj b ls::Xn [j,i] h) hh' hes hk
 have e:=h2'.perm hp'.symm (Tp _)
 have h1:Yo w G' (.tail u kk::.obj b ls::Xn [j,i] h):=h1
 have perm:(Res.tail u kk::.obj b ls::Xn [j,i] h).Perm (.obj b ls::.tail u kk::Xn [j,i] h):=List.Perm.swap ..
 have h4:=h1.perm perm
 have e4:=e.perm (Tp _) perm
 have hset:∀{w:World} {G:Y3},RV w G (.sl es (some u)) u->TN w G (.obj b ls)->TN w G (.obj b (ls.set p (.sl es (some u)))):=by
  intro w G hu hr
  obtain ⟨cs,el,k1,k5⟩:=hr
  refine ⟨cs,el,k1,?_⟩
  obtain ⟨c,c1,c2⟩:=k5.get p _ hl
  have:=c2.val_inv
  subst this
  have h6:=k5.set p hu
  rwa [show cs.toList.set p c=cs.toList from by
   apply List.ext_getElem?
   intro q
   rw [List.getElem?_set]
   split
   ·rename_i hq;subst hq;split
    ·exact c1.symm
    ·rename_i hq2;rw [EX om]
   ·rfl] at h6
 refine ⟨G',⟨fun r hr=>?_,?_,fun r hr=>?_,h4.lt⟩,⟨e4.os,e4.tape,e4.output,e4.size,e4.sub,e4.same,e4.newG,fun b' o hb ⟨r,hr,hf⟩=>e4.newfp b' o hb ?_⟩⟩
 ·rcases YJ.1 hr with rfl|hr
  ·exact hset h3 (h4.ok _ (X4 ..))
  ·exact h4.ok r (Xo _ hr)
 ·have:=WE.1 h4.apart
  exact WE.2 ⟨fun r hr b' o f1 f2=>this.1 r hr b' o f1 f2,this.2⟩
 ·rcases YJ.1 hr with rfl|hr
  ·exact fun b' o f1 hg=>h4.prot (.obj b ls) (X4 ..) b' o f1 hg
  ·exact h4.prot r (Xo _ hr)
 ·rcases YJ.1 hr with rfl|hr
  ·exact ⟨.obj b ls,X4 ..,hf⟩
  ·exact ⟨r,Xo _ hr,hf⟩
theorem Uy (j i p:Nat) (u:Value) (kk b:Nat) (es ls:List AV) (hes:∀y∈es,y.leaves.length=kk) (hl:ls[p]? = some (.val u)) (hk:0<kk:=by omega) (hp:XY [j,i] h=some [.row u kk (Zi es),.obj b ls]:=by kernel_rfl) :
  UY h (.obj b (ls.set p (.sl es (some u)))::.tail u kk::Xn [j,i] h):=Z8t j i p hp hes hk hl
end
end Go.Abs
namespace Go.Abs
section
variable {P:Program} {n:Nat} {ops:Array Oper} {k:Nat} {F:Fr} {h:List Res}
theorem Z8e (j:Nat) {g l c m kk:Nat} {ls:List AV} (hi:BP P ops F k=some (.val (.slice (some ⟨g,0,none⟩) l c),(m:Int))) (hj:h[j]? = some (.row (.slice (some ⟨g,0,none⟩) l c) kk ls)) (hle:m<=l) :
  Xp P (Zx ops k) F h [] (.val (.slice (some ⟨g,0,none⟩) m c)):=by
 unfold BP at hi
 generalize hoo:Zx ops k=o at hi
 obtain ⟨dst,op,type,pos,after,guard⟩:=o
 cases op<;>simp only at hi<;>try (cases hi)
 rename_i t x lo hi' mx
 cases lo with
 | some _=>simp at hi
 | none=>
  cases hi' with
  | none=>simp at hi
  | some y=>
   cases mx with
   | some _=>simp at hi
   | none=>
    simp only at hi
    split at hi
    ·rename_i e ht
     split at hi
     ·rename_i inf hinf
      split at hi
      ·rename_i ik m' hm
       simp only [XU,Prod.mk.injEq] at hi
       obtain ⟨hx,rfl⟩:=hi
       intro n w G a hF hh
       have v1:=hF.ev x
       rw [hx] at v1
       have v1:=v1.val_inv
       have v2:=hF.ev y
       rw [hm] at v2
       have v2:=v2.val_inv
       have hcap:l<=c:=by
        rcases hh.ok _ (ZZ hj) with ⟨h0,_⟩|⟨g',l',c',cur,el,h0,_,hc,_⟩
        ·cases h0
        ·cases h0;exact hc
       refine ⟨_,.val,fun w' _ _=>?_⟩
       simp only [execOp,v1,v2,Aq,Option.map_none]
       refine V8 ?_
       simp only [Instr.sliceAt,Sem.run_bind,VB ht,Result.andThen_ok,Instr.slice]
       have hmm:(Instr.sliceBounds true l c none (some (.int ik (m:Int))) none).run P w'=.ok (0,m,c) w':=by
        have ZL:=fun q=>BN (P:=P) (c:=q) (v:=.int ik (m:Int)) (y:=c) rfl om om w'
        simp [Instr.sliceBounds,ZL]
       rw [hmm]
       have hz:∀a:Addr,a.add 0=a:=fun a=>by simp [Addr.add]
       simp only [Result.andThen_ok,TF hinf,Nat.zero_mul,hz]
       by_cases h0:c=0<;>simp [h0]
      ·cases hi
     ·cases hi
    ·cases hi
theorem GC (j g l c m kk:Nat) (ls:List AV) (hle:m<=l:=by omega) (hi:BP P ops F k=some (.val (.slice (some ⟨g,0,none⟩) l c),(m:Int)):=by kernel_rfl) (hj:h[j]? = some (.row (.slice (some ⟨g,0,none⟩) l c) kk ls):=by kernel_rfl) :
  Xp P (Zx ops k) F h [] (.val (.slice (some ⟨g,0,none⟩) m c)):=Z8e j hi hj hle
variable {B:Fr->List Res->Prop}
theorem iVM (l:Nat) (hK:∀v:Hd,SI P n ops B (k+1) (F.put (Zx ops k).dst (.h v)) (rV v (List.replicate l 0)::h)) (hl:l<=4294967296:=by omega) (hk:YS n ops F k=true:=by kernel_rfl)
  (hm:A8 P ops F k=some ((l:Int),(l:Int),.i 0):=by kernel_rfl):SI P n ops B k F h:=
 Z21 (Z7 (List.replicate l 0)) hk hm (YX _) hl (by simp [Z7]) fun v'=>EA fun g hg=>by subst hg;exact hK g
end
end Go.Abs
end
namespace Go.Abs
theorem Y4 {α:Type} {xs:List α} {k:Nat} {x:α} (h:xs[k]? = some x):xs.drop k=x::xs.drop (k+1):=by
 have hk:=(Xr.1 h).1
 rw [OV hk]
 congr 1
 rw [JA hk] at h
 exact JD h
theorem X8 {α:Type} {xs:List α} {k:Nat} (h:xs.length<=k):xs.drop k=[]:=EU h
theorem Wv {α:Type} {xs:List α} {k:Nat} {x:α} (h:xs[k]? = some x):xs.take (k+1)=xs.take k++[x]:=by
 rw [List.take_add_one,h];rfl
def Yw:List Ze->Nat
 | []=>0
 | d::ds=>d.cons.length+Yw ds
theorem C6 (xs ys:List Ze):Yw (xs++ys)=Yw xs+Yw ys:=by
 induction xs with
 | nil=>simp [Yw]
 | cons d ds ih=>simp [Yw,ih];omega
structure Wd (ds:List Ze):Prop where
 len:ds.length<=4
 cons:∀d∈ds,d.cons.length<=3
 fields:∀d∈ds,∀c∈d.cons,c.fields.length<=3
theorem Re {ds:List Ze} {m:Nat} (h:∀d∈ds,d.cons.length<=m):Yw ds<=ds.length*m:=by
 induction ds with
 | nil=>simp [Yw]
 | cons d ds ih=>
  have h1:=h d (by simp)
  have h2:=ih (fun x hx=>h x (by simp [hx]))
  simp only [Yw,YK,Ts];omega
theorem Wd.sum {ds:List Ze} (h:Wd ds):Yw ds<=12:=by
 have:=Re h.cons
 have:=h.len
 have:ds.length*3<=4*3:=TM 3 h.len
 omega
theorem Wd.take {ds:List Ze} (h:Wd ds) (k:Nat):Wd (ds.take k):=
 ⟨by have:=h.len;simp;omega,fun d hd=>h.cons d (TL hd),fun d hd=>h.fields d (TL hd)⟩
theorem Wd.cons_at {ds:List Ze} (h:Wd ds) {k:Nat} {d:Ze} (hd:ds[k]? = some d):d.cons.length<=3:=h.cons d (ZZ hd)
theorem Wd.fields_at {ds:List Ze} (h:Wd ds) {k j:Nat} {d:Ze} {c:Y9} (hd:ds[k]? = some d) (hc:d.cons[j]? = some c):c.fields.length<=3:=
 h.fields d (ZZ hd) c (ZZ hc)
def Ul (c:Int):List Ze->Nat->Nat->Int × LI
 | [],_,_=>(-1,[])
 | d::ds,i,first=>
  if (first:Int)<=c/\c<=((first+d.cons.length:Nat):Int)-1 then ((i:Int)+1,(d.cons[(c-first).toNat]?.map (·.fields)).getD []) else Ul c ds (i+1) (first+d.cons.length)
def XJ (ds:List Ze) (c:Int):Int:=(Ul c ds 0 0).1
def ZU (ds:List Ze) (c:Int):LI:=(Ul c ds 0 0).2
theorem Fu {c:Int}:∀{ds:List Ze} {i first:Nat},(Ul c ds i first=(-1,[]) ∨
  ∃k d x,ds[k]? = some d/\(first+Yw (ds.take k):Int)<=c/\c<first+Yw (ds.take k)+d.cons.length/\d.cons[(c-(first+Yw (ds.take k))).toNat]? = some x/\Ul c ds i first=((i:Int)+k+1,x.fields))
 | [],_,_=>.inl rfl
 | d::ds,i,first=>by
  rw [Ul]
  split
  ·rename_i h
   have hlt:(c-first).toNat<d.cons.length:=by omega
   refine .inr ⟨0,d,d.cons[(c-first).toNat],rfl,by simp [Yw];omega,by simp [Yw];omega,?_,?_⟩
   ·simp [Yw]
   ·rw [JA hlt];simp
  ·rcases Fu (c:=c) (ds:=ds) (i:=i+1) (first:=first+d.cons.length) with h|⟨k,e,x,h1,h2,h3,h4,h5⟩
   ·exact .inl h
   ·refine .inr ⟨k+1,e,x,by simpa using h1,by simp [Yw];omega,by simp [Yw];omega,?_,?_⟩
    ·rw [<-h4];congr 3;simp [Yw];omega
    ·rw [h5];congr 1;omega
theorem Fv {ds:List Ze} {c:Int} (h:¬XJ ds c<1) :
  ∃k d x,ds[k]? = some d/\(Yw (ds.take k):Int)<=c/\d.cons[(c-Yw (ds.take k)).toNat]? = some x/\XJ ds c=(k:Int)+1/\ZU ds c=x.fields:=by
 rcases Fu (c:=c) (ds:=ds) (i:=0) (first:=0) with h1|⟨k,d,x,h1,h2,_,h4,h5⟩
 ·simp [XJ,h1] at h
 ·exact ⟨k,d,x,h1,by simpa using h2,by simpa using h4,by simp [XJ,h5],by simp [ZU,h5]⟩
theorem Dt {ds:List Ze} {c:Int} (h:XJ ds c<1):ZU ds c=[]/\XJ ds c=-1:=by
 rcases Fu (c:=c) (ds:=ds) (i:=0) (first:=0) with h1|⟨k,d,x,h1,h2,_,h4,h5⟩
 ·simp [ZU,XJ,h1]
 ·simp [XJ,h5] at h;omega
def WW (first:Int):Nat->LI
 | 0=>[]
 | n+1=>first::WW (first+1) n
theorem MR (first:Int) (n:Nat):WW first (n+1)=WW first n++[first+n]:=by
 induction n generalizing first with
 | zero=>simp [WW]
 | succ n ih=>rw [WW,ih (first+1),WW];simp;omega
@[simp] theorem Z4c (first:Int) (n:Nat):(WW first n).length=n:=by
 induction n generalizing first with
 | zero=>rfl
 | succ n ih=>simp [WW,ih]
def ZQ (ds:List Ze) (t:Int):LI:=
 if 1<=t/\t<=ds.length then WW (Yw (ds.take (t-1).toNat)) (((ds[(t-1).toNat]?).map (·.cons.length)).getD 0) else []
def Qf (frm to_:Int):List Ze->Nat->Int
 | [],_=>-1
 | d::ds,i=>if d.cons.length=0/\d.frm=frm/\d.to_=to_ then (i:Int)+1 else Qf frm to_ ds (i+1)
def VF (ds:List Ze) (frm to_:Int):Int:=Qf frm to_ ds 0
def Xu (ds:List Ze) (t:Int):Bool:=decide (1<=t/\t<=ds.length)&&((ds[(t-1).toNat]?).map fun d=>decide (d.cons.length=0)).getD false
theorem DZ {ds:List Ze} {t:Int} {x:Ze} (h:1<=t/\t<=ds.length) (hx:ds[(t-1).toNat]? = some x):((x.cons.length:Int)==0)=Xu ds t:=by
 rw [Xu,hx,X7];simp [h]
theorem Gv {ds:List Ze} {t:Int} (h:¬(1<=t/\t<=ds.length)):false=Xu ds t:=by
 rw [Xu,X7];simp only [Bool.false_eq_true,XN,decide_eq_true_eq,h,false_and]
def XO (m:Nat) (xs:LI):Bool:=xs.all fun t=>decide (0<=t/\t<=m)
end Go.Abs
section
namespace Go.Abs
section
variable {h:List Res}
end
end Go.Abs
namespace Go.Abs
section
variable {P:Program} {ops:Array Oper} {k:Nat} {F:Fr} {h:List Res}
end
end Go.Abs
end
namespace Go.Abs
section
variable {P:Program} {n:Nat} {ops:Array Oper} {B:Fr->List Res->Prop} {k:Nat} {F:Fr} {h:List Res} {T:List (Nat × List Nat)} {fuel:Nat} {done:List Nat}
theorem N3 {K:Fr->List Res->Prop} {ls:List AV} {len sz:Nat} (hd:WK n (Zx ops k)=true) (ha:UK P ops F k=some (ls,len,sz)) (hlen:ls.length=len*sz)
  (hK:∀g,K (F.put (Zx ops k).dst (.val (.slice (some ⟨g,0,none⟩) len len))) (.row (.slice (some ⟨g,0,none⟩) len len) sz ls::h)):W4 P n (Zx ops k) F h K:=by
 unfold UK at ha
 generalize hoo:Zx ops k=q at ha hd hK
 obtain ⟨dst,op,type,pos,after,guard⟩:=q
 cases op<;>simp only at ha<;>try (cases ha)
 rename_i t ln parts
 split at ha
 case h_2=>cases ha
 rename_i e ht
 split at ha
 case h_2=>cases ha
 rename_i i hi
 split at ha
 case h_2=>cases ha
 rename_i hc
 simp only [XN] at hc
 split at ha
 case h_2=>cases ha
 rename_i ls' hf
 simp only [XU,Prod.mk.injEq] at ha
 obtain ⟨rfl,rfl,Xi⟩:=ha
 intro Q w G a hF hh
 obtain ⟨cs,h1,h2⟩:=Ev hF parts ht hi rfl hc.1 hc.2 hf
 have hr:(execOp a.eval { dst:=dst,op:=.buildSlice t ln parts,type:=type,pos:=pos,after:=after,guard:=guard }).run P w =
   .ok (.value (.slice (some ⟨w.heap.size,0,none⟩) ln ln)) (w.alloc (.cells cs e)):=by
  simp only [execOp]
  exact V8 h2
 unfold Oper.wp
 rw [hr]
 have hlc:=h1.length
 simp only [Qu] at hlc
 obtain ⟨j1,j2⟩:=hh.alloc_rrow cs e (ls:=ls') (len:=ln) (cap:=ln) (k:=sz) (YX _) (by rw [hlc];exact hlen) hlen (by rw [<-hlen,<-hlc];simpa [Va] using h1)
 exact ⟨_,_,G,hK _,(hF.mono (j2.agree hh)).put (U1 hd) .val,j1,j2⟩
theorem U5 (es es':List AV) (he:es=es') (len sz:Nat) (hK:∀v,SI P n ops B (k+1) (F.put (Zx ops k).dst (.sl es' (some v))) (.tail v sz::h)) (hk:YS n ops F k=true:=by kernel_rfl)
  (ha:UK P ops F k=some (Zi es,len,sz):=by kernel_rfl) (hlen:es.length=len:=by kernel_rfl) (hall:J0 es sz=true:=by kernel_rfl):SI P n ops B k F h:=by
 subst he;exact iL es len sz hK hk ha hlen hall
theorem W2 (i:Nat) (js bs:List Nat) (es es':List AV) (he:es=es') (len sz:Nat) (hK:∀v,YQ P n ops B (T.filter fun t=>!Wt ops i t.1) fuel (done++[i]) (F.put (Zx ops i).dst (.sl es' (some v))) (.tail v sz::h))
  (hk:YS n ops F i=true:=by kernel_rfl) (ha:UK P ops F i=some (Zi es,len,sz):=by kernel_rfl) (hlen:es.length=len:=by kernel_rfl) (hall:J0 es sz=true:=by kernel_rfl)
  (ho:Vs ops i T=bs:=by kernel_rfl) (hj:js.map (fun j=>(Wc h)[j]?)=bs.map some:=by kernel_rfl):WR P n ops B T fuel done F h i:=by
 subst he;exact dL i js bs es len sz hK hk ha hlen hall ho hj
theorem iKN (ls:List AV) (len sz:Nat) (hK:∀g,SI P n ops B (k+1) (F.put (Zx ops k).dst (.val (.slice (some ⟨g,0,none⟩) len len))) (.row (.slice (some ⟨g,0,none⟩) len len) sz ls::h)) (hlen:ls.length=len*sz:=by rfl) (hk:YS n ops F k=true:=by kernel_rfl)
  (ha:UK P ops F k=some (ls,len,sz):=by kernel_rfl):SI P n ops B k F h:=UG hk (N3 (V7 hk).2.1 ha hlen hK)
theorem Rp (i:Nat) (js bs:List Nat) (ls:List AV) (len sz:Nat) (hK:∀g,YQ P n ops B (T.filter fun t=>!Wt ops i t.1) fuel (done++[i]) (F.put (Zx ops i).dst (.val (.slice (some ⟨g,0,none⟩) len len))) (.row (.slice (some ⟨g,0,none⟩) len len) sz ls::h)) (hlen:ls.length=len*sz:=by rfl)
  (hk:YS n ops F i=true:=by kernel_rfl) (ha:UK P ops F i=some (ls,len,sz):=by kernel_rfl) (ho:Vs ops i T=bs:=by kernel_rfl) (hj:js.map (fun j=>(Wc h)[j]?)=bs.map some:=by kernel_rfl):WR P n ops B T fuel done F h i:=
 Qk (h1:=[]) (h2:=h) [] js bs hk rfl ho hj (N3 (V7 hk).2.1 ha hlen hK)
end
theorem XW.frz {P:Program} {f:FuncId} {as1:List AV} {h0:List Res} {E:Type} {kk:Nat} {es:E->List AV} {hs:E->List Res} {Q:E->Prop} (H:XW P f as1 h0 (fun r h=>∃(e:E) (v:Hd),r=.h v/\h=rK v kk (Zi (es e))::hs e/\Q e)) (hes:∀e,∀y∈es e,y.leaves.length=kk) (hk:0<kk) :
  XW P f as1 h0 (fun r h=>∃(e:E) (v:Value),r=.sl (es e) (some v)/\h=.tail v kk::hs e/\Q e):=by
 intro w G vs hv hh
 refine (H w G vs hv hh).mono ?_
 rintro e w' ⟨u,r,h',G',he,⟨x,v,rfl,rfl,hq⟩,hr,hh',hx⟩
 obtain ⟨G2,h1,h2,h3⟩:=BL hh' (hes x) hk
 have hrv:=hr.val_inv
 subst hrv
 exact ⟨_,_,_,G2,he,⟨x,v.v,rfl,rfl,hq⟩,h3,h1,hx.trans h2⟩
theorem DK {es:List AV} {sz k:Nat} {y:AV} (h:∀x∈es,x.leaves.length=sz) (hy:y.leaves.length=sz) (hk:k<es.length):(Zi es).take (k*sz)++y.leaves++(Zi es).drop (k*sz+y.leaves.length)=Zi (es.set k y):=by
 obtain ⟨x,hx⟩:=Jc (xs:=es) (j:=k) hk
 have hxl:=h x (ZZ hx)
 have e1:es=es.take k++(x::es.drop (k+1)):=by rw [<-Y4 hx,Uz]
 have e2:es.set k y=es.take k++(y::es.drop (k+1)):=by rw [D8,Zg hk]
 have hl:(Zi (es.take k)).length=k*sz:=by rw [UR (k:=sz) _ (fun z hz=>h z (TL hz)),Wp,Vh om]
 have e3:Zi es=Zi (es.take k)++(x.leaves++Zi (es.drop (k+1))):=by
  conv=>lhs;rw [e1,Tz]
  simp [Zi]
 rw [e2,Tz,e3,H7 hl (by rw [hxl,hy])]
 simp [Zi]
theorem S0 (ds:List Ze) (k:Nat) (d:Ze):YR (ds.set k d)=(YR ds).set k (Au d):=by simp [YR,List.map_set]
theorem AH (xs:List Ze):(Zi (YR xs)).length=xs.length*3:=by rw [UR (k:=3) _ (K5 xs)];simp
theorem DH {ds:List Ze} {k:Nat} (d:Ze) (hk:k<ds.length):(Zi (YR ds)).take (k*3)++Wm d++(Zi (YR ds)).drop (k*3+3)=Zi (YR (ds.set k d)):=by
 rw [S0];exact DK (y:=Au d) (K5 ds) rfl (by simpa using hk)
theorem G3 (xs ys:List Ze):Zi (YR xs)++Zi (YR ys)=Zi (YR (xs++ys)):=by rw [RZ,Tz]
section
variable {P:Program} {n:Nat} {ops:Array Oper} {B:Fr->List Res->Prop} {k:Nat} {F:Fr} {h:List Res}
theorem Cq (j m:Nat) {v:Hd} {kk:Nat} {ls:List AV} (hm:ls.length=m*kk) (h0:0<m) (H:∀g c',v=⟨some ⟨g,0,none⟩,m,c'⟩->SI P n ops B k F h) (hk:0<kk:=by omega) (hj:h[j]? = some (rK v kk ls):=by kernel_rfl):SI P n ops B k F h:=by
 intro Q w G a hF hh hq
 obtain ⟨g,c',e⟩:=Nw (hh.ok _ (ZZ hj)) hm hk h0
 exact H g c' e Q w G a hF hh hq
end
section
variable {P:Program} {n:Nat} {ops:Array Oper} {B:Fr->List Res->Prop} {k:Nat} {F:Fr} {h:List Res}
def Fw (P:Program) (ops:Array Oper) (F:Fr) (k:Nat):Option (IntKind × Int):=
 match (Zx ops k).op with
 | .convert s d x=>match P.underlying s,P.underlying d,F.ev x with
  | some (.int _),some (.int q),.val (.int _ z)=>some (q,z)
  | _,_,_=>none
 | _=>none
theorem kCv (q:IntKind) (z z':Int) (e:q.wrap z=z') (hc:Fw P ops F k=some (q,z):=by kernel_rfl):Xp P (Zx ops k) F h [] (.val (.int q z')):=by
 unfold Fw at hc
 generalize hoo:Zx ops k=o at hc
 obtain ⟨dst,op,type,pos,after,guard⟩:=o
 cases op<;>simp only at hc<;>try (cases hc)
 rename_i s d x
 split at hc
 ·rename_i q1 q2 q3 z2 h1 h2 h3
  cases hc
  intro n w G ac hF hh
  have v1:=hF.ev x
  rw [h3] at v1
  have v1:=v1.val_inv
  refine ⟨_,.val,fun w' _ _=>?_⟩
  simp only [execOp,v1]
  refine V8 ?_
  simp [convert,VB h1,VB h2,Conv.intToInt,e]
 ·cases hc
theorem HN {z:Int} (h:0<=z/\z<=9223372036854775807):IntKind.i64.wrap z=z:=IntWalk.i64_in _ om
theorem BA (z:Int) (hz:0<=z/\z<=255) (hc:Fw P ops F k=some (.i64,z):=by kernel_rfl):Xp P (Zx ops k) F h [] (.i z):=kCv .i64 z z (HN om) hc
def JP (ops:Array Oper) (F:Fr) (k:Nat) (b:BinOp):Option (Int × Int):=
 match (Zx ops k).op with
 | .binOp c _ x y _=>if c==b then match F.ev x,F.ev y with
  | .val (.int .i64 z),.val (.int .i64 u)=>some (z,u)
  | _,_=>none else none
 | _=>none
theorem GF (a b:Int) (hb:0<b) (ha:0<=a/\a<=9223372036854775807) (hc:JP ops F k .quo=some (a,b):=by kernel_rfl):Xp P (Zx ops k) F h [] (.i (a / b)):=by
 unfold JP at hc
 generalize hoo:Zx ops k=o at hc
 obtain ⟨dst,op,type,pos,after,guard⟩:=o
 cases op<;>simp only at hc<;>try (cases hc)
 rename_i bop t x y yt
 cases bop<;>simp only [Zp,reduceCtorEq,if_false,if_true] at hc<;>try (cases hc)
 split at hc
 ·rename_i z yk h1 h2
  cases hc
  intro n' w G ac hF hh
  have v1:=hF.ev x
  have v2:=hF.ev y
  rw [h1] at v1
  rw [h2] at v2
  have v1:=v1.val_inv
  have v2:=v2.val_inv
  refine ⟨_,.val,fun w' _ _=>?_⟩
  simp only [execOp,v1,v2]
  refine V8 ?_
  have e1:a.tdiv b=a / b:=Int.tdiv_eq_ediv_of_nonneg ha.1
  have e2:IntKind.i64.wrap (a / b)=a / b:=HN ⟨Int.ediv_nonneg ha.1 om,Int.le_trans (Int.ediv_le_self b ha.1) ha.2⟩
  have e3:b≠0:=by omega
  simp [eqGuard,binOp,Op.intDiv,e1,e2,e3]
 ·cases hc
theorem Cx (a b:Int) (hb:0<b) (ha:0<=a) (hc:JP ops F k .rem=some (a,b):=by kernel_rfl):Xp P (Zx ops k) F h [] (.i (a % b)):=by
 unfold JP at hc
 generalize hoo:Zx ops k=o at hc
 obtain ⟨dst,op,type,pos,after,guard⟩:=o
 cases op<;>simp only at hc<;>try (cases hc)
 rename_i bop t x y yt
 cases bop<;>simp only [Zp,reduceCtorEq,if_false,if_true] at hc<;>try (cases hc)
 split at hc
 ·rename_i z yk h1 h2
  cases hc
  intro n' w G ac hF hh
  have v1:=hF.ev x
  have v2:=hF.ev y
  rw [h1] at v1
  rw [h2] at v2
  have v1:=v1.val_inv
  have v2:=v2.val_inv
  refine ⟨_,.val,fun w' _ _=>?_⟩
  simp only [execOp,v1,v2]
  refine V8 ?_
  have e1:a.tmod b=a % b:=Int.tmod_eq_emod_of_nonneg ha
  have e3:b≠0:=by omega
  simp [eqGuard,binOp,Op.intDiv,e1,e3]
 ·cases hc
theorem AP (a b:Nat) (hb:0<b) (ha:a<=9223372036854775807) (hc:JP ops F k .quo=some ((a:Int),(b:Int)):=by kernel_rfl):Xp P (Zx ops k) F h [] (.i (a / b:Nat)):=by
 rw [Int.natCast_ediv];exact GF a b om om hc
theorem E0 (a b:Nat) (hb:0<b) (_ha:a<=9223372036854775807) (hc:JP ops F k .rem=some ((a:Int),(b:Int)):=by kernel_rfl):Xp P (Zx ops k) F h [] (.i (a % b:Nat)):=by
 rw [Int.natCast_emod];exact Cx a b om om hc
def Jy (a b:Int):Int:=IntKind.i64.wrap ((BitVec.ofInt 64 a ^^^ BitVec.ofInt 64 b).toNat:Int)
theorem ER {a b:Int} (ha:0<=a/\a<4611686018427387904) (hb:0<=b/\b<4611686018427387904):0<=Jy a b/\Jy a b<4611686018427387904:=by
 obtain ⟨x,rfl⟩:=Int.eq_ofNat_of_zero_le ha.1
 obtain ⟨y,rfl⟩:=Int.eq_ofNat_of_zero_le hb.1
 have h1:(BitVec.ofInt 64 (x:Int) ^^^ BitVec.ofInt 64 (y:Int)).toNat=x ^^^ y:=by
  rw [BitVec.toNat_xor,BitVec.toNat_ofInt,BitVec.toNat_ofInt]
  have e1:((x:Int) % ((2 ^ 64:Nat):Int)).toNat=x:=by omega
  have e2:((y:Int) % ((2 ^ 64:Nat):Int)).toNat=y:=by omega
  rw [e1,e2]
 have h2:x ^^^ y<2 ^ 62:=Nat.xor_lt_two_pow om om
 rw [Jy,h1,HN om]
 omega
theorem Me (a b:Int) (hc:JP ops F k .xor=some (a,b):=by kernel_rfl):Xp P (Zx ops k) F h [] (.i (Jy a b)):=by
 unfold JP at hc
 generalize hoo:Zx ops k=o at hc
 obtain ⟨dst,op,type,pos,after,guard⟩:=o
 cases op<;>simp only at hc<;>try (cases hc)
 rename_i bop t x y yt
 cases bop<;>simp only [Zp,reduceCtorEq,if_false,if_true] at hc<;>try (cases hc)
 split at hc
 ·rename_i z yk h1 h2
  cases hc
  intro n' w G ac hF hh
  have v1:=hF.ev x
  have v2:=hF.ev y
  rw [h1] at v1
  rw [h2] at v2
  have v1:=v1.val_inv
  have v2:=v2.val_inv
  refine ⟨_,.val,fun w' _ _=>?_⟩
  simp only [execOp,v1,v2]
  refine V8 ?_
  simp [eqGuard,binOp,Op.intBits,IntKind.bits]
  exact Yj (fun z:Nat=>IntKind.i64.wrap (z:Int)) (by rw [BitVec.toNat_xor,BitVec.toNat_ofInt,BitVec.toNat_ofInt];rfl)
 ·cases hc
end
end Go.Abs
section
namespace Go.Abs
inductive Z1 where
 | mk (op num:Int) (kids:List Z1)
namespace Z1
def op:Z1->Int|.mk a _ _=>a
def num:Z1->Int|.mk _ a _=>a
def kids:Z1->List Z1|.mk _ _ a=>a
end Z1
structure Func where
 params:LI
 result:Int
 body:Z1
structure XF where
 decls:List Ze
 funcs:List Func
instance:Inhabited Z1:=⟨.mk 0 0 []⟩
mutual
def FP:Z1->AV
 | .mk op num kids=>.agg [.i op,.i num,.sl (Yh kids) none]
def Yh:List Z1->List AV
 | []=>[]
 | e::r=>FP e::Yh r
end
abbrev ZV (e:Z1):AV:=.agg [.i e.op,.i e.num,.sl (Yh e.kids) none]
abbrev Yn (e:Z1):List AV:=[.i e.op,.i e.num,.sl (Yh e.kids) none]
abbrev Xb (xs:List Z1):AV:=.sl (Yh xs) none
abbrev To (xs:List Z1) (v:Value):AV:=.sl (Yh xs) (some v)
abbrev C0 (f:Func):AV:=.agg [Z2 f.params,.i f.result,.i f.body.op,.i f.body.num,Xb f.body.kids]
abbrev Cy (f:Func):List AV:=[Z2 f.params,.i f.result,.i f.body.op,.i f.body.num,Xb f.body.kids]
def X2 (xs:List Func):List AV:=xs.map C0
abbrev Ed (xs:List Func):AV:=.sl (X2 xs) none
abbrev KZ (p:XF):AV:=.agg [Zy p.decls,Ed p.funcs]
abbrev Jk (p:XF):List AV:=[Zy p.decls,Ed p.funcs]
abbrev Fa (z:Int):AV:=.val (.int .u8 z)
def T1 (xs:LI):List AV:=xs.map Fa
abbrev W0 (xs:LI):AV:=.sl (T1 xs) none
theorem S1 (e:Z1):FP e=ZV e:=by cases e;rw [FP];rfl
theorem Xq:∀xs:List Z1,Yh xs=xs.map ZV
 | []=>by rw [Yh];rfl
 | s::ss=>by rw [Yh,Xq ss,S1];rfl
theorem Bk {xs:List Z1} {j:Nat} {x:Z1} (h:xs[j]? = some x):(Yh xs)[j]? = some (ZV x):=by simp [Xq,h]
theorem Dx {xs:List Func} {j:Nat} {x:Func} (h:xs[j]? = some x):(X2 xs)[j]? = some (C0 x):=by simp [X2,h]
theorem Bg {xs:LI} {j:Nat} {x:Int} (h:xs[j]? = some x):(T1 xs)[j]? = some (Fa x):=by simp [T1,h]
@[simp] theorem FQ (xs:List Z1):(Yh xs).length=xs.length:=by simp [Xq]
@[simp] theorem Bl (xs:List Func):(X2 xs).length=xs.length:=by simp [X2]
@[simp] theorem QF (xs:LI):(T1 xs).length=xs.length:=by simp [T1]
theorem KA (xs ys:List Z1):Yh (xs++ys)=Yh xs++Yh ys:=by simp [Xq]
theorem S2 (xs ys:List Func):X2 (xs++ys)=X2 xs++X2 ys:=by simp [X2]
theorem FJ (xs:LI) (n:Nat):(T1 xs).take n=T1 (xs.take n):=by simp [T1]
theorem FI (xs:LI) (n:Nat):(T1 xs).drop n=T1 (xs.drop n):=by simp [T1]
theorem Uo (xs:List Z1):∀y∈Yh xs,y.leaves.length=3:=by intro y hy;simp only [Xq,XS] at hy;obtain ⟨x,_,rfl⟩:=hy;rfl
theorem Dy (xs:List Func):∀y∈X2 xs,y.leaves.length=5:=by intro y hy;simp only [X2,XS] at hy;obtain ⟨x,_,rfl⟩:=hy;rfl
theorem RX (xs:LI):∀y∈T1 xs,y.leaves.length=1:=by intro y hy;simp only [T1,XS] at hy;obtain ⟨x,_,rfl⟩:=hy;rfl
theorem KC (xs:List Z1):(Zi (Yh xs)).all AV.one=true:=KG fun y hy=>by simp only [Xq,XS] at hy;obtain ⟨x,_,rfl⟩:=hy;rfl
end Go.Abs
end
section
namespace Go.Abs
open Go.Proofs Go.Proofs.YthllacimcjakdaaGreat
section
variable {H:Type} {enc:TypeId × Value->H} {w:World}
def GA (w:World):Y3:=fun b _=>b<w.heap.size
abbrev Tr (enc:TypeId × Value->H) (w:World) (n:Nat) (t:TypeId) (cs:List Value) (x:DataW H × List MemPlace):Prop:=DataW.trod enc Tryz.prog w 0 (fun _=>true) true n t cs=some x
theorem MF {w:World} {a:Addr} {v:Value} (h:w.cell? a=some v):a.block<w.heap.size/\a.spot=none:=by
 unfold World.cell? at h
 split at h
 ·rename_i c e fr hb
  split at h
  ·cases h
  ·rename_i hs
   exact ⟨(U8.1 hb).1,by simpa using hs⟩
 ·cases h
theorem Ij {α:Type} {c:α->Nat}:∀{xs:List α} {ds:List (DataW H)},xs.length=ds.length->(∀(i:Nat) a d,xs[i]? = some a->ds[i]? = some d->c a+1<=Rows.uptoBulk d)->(xs.map fun a=>c a+1).sum<=Rows.uptoBulkAll ds
 | [],[],_,_=>YX _
 | a::r,d::ds,hl,h=>by
  have h0:=h 0 a d rfl rfl
  have h1:=Ij (c:=c) (xs:=r) (ds:=ds) (by simpa using hl) fun i a d ha hd=>h (i+1) a d (by simpa using ha) (by simpa using hd)
  rw [U9,List.sum_cons,Rows.uptoBulkAll]
  omega
theorem Nn {α:Type} {f:α->AV} {G:Y3} {k b:Nat} (hf:∀x,(f x).leaves.length=k):∀{xs:List α} {o:Nat},(∀(i:Nat) a,xs[i]? = some a->W5 w G b (o+i*k) (f a).leaves)->WH w G k b o (xs.map f)
 | [],_,_=>.nil
 | x::r,o,h=>by
  refine .cons (hf x) (by have:=h 0 x rfl;simpa using this) (Nn hf fun i a ha=>?_)
  have:=h (i+1) a (by simpa using ha)
  rw [show o+(i+1)*k=o+k+i*k by rw [Ts];omega] at this
  exact this
theorem Z56 {α:Type} [Inhabited α] {t e k:Nat} (ht:Tryz.prog.underlying t=some (.slice e)) (hk:Tryz.prog.cellsOf e=k) (h0:0<k) (f:α->AV) (hf:∀x,(f x).leaves.length=k) (c:α->Nat) (Q:α->Prop) {n:Nat} {cs:List Value} {x:DataW H × List MemPlace}
  (h:Tr enc w n t cs x) (el:∀m cs y,m<n->Tr enc w m e cs y->∃a:α,YH w (GA w) (f a).leaves cs/\c a+1<=Rows.uptoBulk y.1/\Q a) :
  ∃(v:Value) (xs:List α),cs=[v]/\RV w (GA w) (.sl (xs.map f) none) v/\(xs.map fun a=>c a+1).sum+1<=Rows.uptoBulk x.1/\∀a∈xs,Q a:=by
 rcases DataW.trod_slice ht h with ⟨rfl,rfl⟩|⟨a,len,cap,elems,rest,m,rfl,rfl,rfl,_,hlc,_,hlen,hel,_,_⟩
 ·exact ⟨_,[],rfl,.nil (by simp),by simp [Rows.uptoBulk],by simp⟩
 ·rw [hk] at hel
  have hone:∀i,i<len->∃z:α,∃cs' y,w.cells? 0 (a.add (i*k)) k=some cs'/\elems[i]? = some y/\YH w (GA w) (f z).leaves cs'/\c z+1<=Rows.uptoBulk y.1/\Q z:=by
   intro i hi
   have h1:=hel i hi
   rw [JA om] at h1
   obtain ⟨cs',h2,h3⟩:=Option.bind_eq_some_iff.1 h1
   obtain ⟨z,hz1,hz2,hz3⟩:=el m cs' _ om h3
   exact ⟨z,cs',_,h2,JA om,hz1,hz2,hz3⟩
  obtain ⟨V,hV⟩:=Go.Deep.choose_lt hone
  refine ⟨_,(List.range len).map V,rfl,?_,?_,?_⟩
  ·cases hl0:len with
   | zero=>exact .nil (by simp)
   | succ q=>
    have hsp:a.spot=none:=by
     obtain ⟨cs',y,g1,_⟩:=hV 0 om
     obtain ⟨_,g2,g3⟩:=World.cells?_some g1
     have g4:=g3 0 h0
     rw [JA om] at g4
     have g5:=(MF g4).2
     simpa [Addr.add] using g5
    obtain ⟨b,o,sp⟩:=a
    simp only at hsp
    subst hsp
    rw [<-hl0]
    have hll:(((List.range len).map V).map f).length=len:=by simp
    have:=RV.sl (w:=w) (G:=GA w) (es:=((List.range len).map V).map f) (hv:=none) (b:=b) (o:=o) (k:=k) (cap:=cap) (by simp) (by rw [hll];exact hlc) (Nn hf fun i z hz=>by
     have hi:i<len:=by have:=(Xr.1 hz).1;simpa using this
     have hz':V i=z:=by simpa [hi] using hz
     obtain ⟨cs',y,g1,_,g2,_⟩:=hV i hi
     rw [hz'] at g2
     obtain ⟨_,g3,g4⟩:=World.cells?_some g1
     refine W5.of_cells g2 fun j u hj=>?_
     have hjl:j<k:=by have:=(Xr.1 hj).1;omega
     have g5:=(g4 j hjl).trans hj
     rw [Addr.add_lit,Addr.add_lit] at g5
     exact ⟨g5,(MF g5).1⟩)
    rw [hll] at this
    exact this
  ·have:=Ij (c:=c) (xs:=(List.range len).map V) (ds:=elems.map (·.1)) (by simp [hlen]) fun i z d hz hd=>by
    have hi:i<len:=by have:=(Xr.1 hz).1;simpa using this
    have hz':V i=z:=by simpa [hi] using hz
    obtain ⟨cs',y,_,g1,_,g2,_⟩:=hV i hi
    rw [Qw,g1] at hd
    simp only [Aq,XU] at hd
    rw [<-hd,<-hz']
    exact g2
   simp only [Rows.uptoBulk]
   omega
  ·intro z hz
   obtain ⟨i,hi,rfl⟩:=XS.1 hz
   obtain ⟨_,_,_,_,_,_,g⟩:=hV i (List.mem_range.1 hi)
   exact g
theorem Z54 {n:Nat} {cs:List Value} {x:DataW H × List MemPlace} (h:Tr enc w n 5 cs x):∃z:Int,cs=[.int .u8 z]/\Rows.uptoBulk x.1=1/\0<=z/\z<=255:=by
 obtain ⟨z,rfl,rfl,hw⟩:=DataW.trod_int Tryz.underlying5 h
 refine ⟨z,rfl,rfl,?_⟩
 simpa [Lit.wf,IntKind.min,IntKind.max,IntKind.signed,IntKind.bits] using hw
theorem Z55 {n:Nat} {cs:List Value} {x:DataW H × List MemPlace} (h:Tr enc w n 22 cs x):∃(v:Value) (xs:LI),cs=[v]/\RV w (GA w) (W0 xs) v/\∀z∈xs,0<=z/\z<=255:=by
 obtain ⟨v,xs,h1,h2,h3,h4⟩:=Z56 Tryz.underlying22 (k:=1) kr om (fun z:Int=>Fa z) (fun _=>rfl) (fun _=>0) (fun z=>0<=z/\z<=255) h fun m cs y _ hy=>by
  obtain ⟨z,rfl,hb,hz⟩:=Z54 hy
  exact ⟨z,.cons .val .nil,Nat.le_of_eq hb.symm,hz⟩
 exact ⟨v,xs,h1,h2,h4⟩
end
end Go.Abs
end
namespace Go.Abs
structure Sg where
 params:LI
 result:Int
abbrev HT (f:Sg):AV:=.agg [.sl (Z7 f.params) none,.i f.result,.i 0,.i 0,.sl [] none]
def V3 (fs:List Sg):List AV:=fs.map HT
theorem FU {xs:List Sg} {j:Nat} {x:Sg} (h:xs[j]? = some x):(V3 xs)[j]? = some (HT x):=by simp [V3,h]
@[simp] theorem IY (xs:List Sg):(V3 xs).length=xs.length:=by simp [V3]
theorem IX (xs:List Sg):∀y∈V3 xs,y.leaves.length=5:=by intro y hy;simp only [V3,XS] at hy;obtain ⟨x,_,rfl⟩:=hy;rfl
theorem S8 (xs:List Sg):(Zi (V3 xs)).all AV.one=true:=KG fun y hy=>by simp only [V3,XS] at hy;obtain ⟨x,_,rfl⟩:=hy;rfl
mutual
def Z4.sz:Z4->Nat
 | .mk _ _ _ args kids=>1+args.length+YE kids
def Z6.sz:Z6->Nat
 | .mk steps _=>1+Y8 steps
def Y8:List Z4->Nat
 | []=>0
 | s::r=>s.sz+Y8 r
def YE:List Z6->Nat
 | []=>0
 | b::r=>b.sz+YE r
end
theorem Z4.sz_pos (s:Z4):1<=s.sz:=by cases s;rw [Z4.sz];omega
theorem Z6.sz_pos (b:Z6):1<=b.sz:=by cases b;rw [Z6.sz];omega
theorem Kg (l:List Z4):l.length<=Y8 l:=by
 induction l with
 | nil=>simp
 | cons s r ih=>have:=s.sz_pos;simp only [YK,Y8];omega
theorem Ig (l:List Z6):l.length<=YE l:=by
 induction l with
 | nil=>simp
 | cons s r ih=>have:=s.sz_pos;simp only [YK,YE];omega
theorem Z7y {l:List Z4} {k:Nat} {s:Z4} (h:l[k]? = some s):s.sz<=Y8 l:=by
 induction l generalizing k with
 | nil=>simp at h
 | cons t r ih=>
  cases k with
  | zero=>simp at h;subst h;simp only [Y8];omega
  | succ k=>have:=ih (k:=k) (by simpa using h);simp only [Y8];omega
theorem PC {l:List Z6} {k:Nat} {s:Z6} (h:l[k]? = some s):s.sz<=YE l:=by
 induction l generalizing k with
 | nil=>simp at h
 | cons t r ih=>
  cases k with
  | zero=>simp at h;subst h;simp only [YE];omega
  | succ k=>have:=ih (k:=k) (by simpa using h);simp only [YE];omega
theorem Z4.sz_eq (s:Z4):s.sz=1+s.args.length+YE s.kids:=by cases s;rw [Z4.sz];rfl
theorem Z6.sz_eq (b:Z6):b.sz=1+Y8 b.steps:=by cases b;rw [Z6.sz];rfl
theorem KP {b:Z6} {k:Nat} {s:Z4} (h:b.steps[k]? = some s):s.sz<b.sz:=by have:=Z7y h;have:=b.sz_eq;omega
theorem UH {s:Z4} {k:Nat} {b:Z6} (h:s.kids[k]? = some b):b.sz<s.sz:=by have:=PC h;have:=s.sz_eq;omega
theorem Qe (s:Z4):s.args.length<s.sz:=by have:=s.sz_eq;omega
theorem UJ (s:Z4):s.kids.length<s.sz:=by have:=s.sz_eq;have:=Ig s.kids;omega
theorem Vg (b:Z6):b.steps.length<b.sz:=by have:=b.sz_eq;have:=Kg b.steps;omega
structure KY (ds:List Ze):Prop where
 len:ds.length<=4194304
 cons:∀d∈ds,d.cons.length<=4194304
 fields:∀d∈ds,∀c∈d.cons,c.fields.length<=4194304
theorem KY.cons_at {ds:List Ze} (h:KY ds) {k:Nat} {d:Ze} (hd:ds[k]? = some d):d.cons.length<=4194304:=h.cons d (ZZ hd)
def K1 (m:Nat) (c:Y9):Bool:=decide (c.fields.length<=3)&&XO m c.fields
def TR (d:Ze):List Ze->Bool
 | []=>false
 | e::r=>if e.cons.length=0/\e.frm=d.frm/\e.to_=d.to_ then true else TR d r
def UQ (m:Nat):List Y9->Bool
 | []=>true
 | c::r=>if K1 m c=true then UQ m r else false
def U0 (ds:List Ze) (d:Ze) (i:Nat):Bool:=
 if 0<d.cons.length then (if d.cons.length<=3/\d.frm=0/\d.to_=0 then UQ ds.length d.cons else false)
 else if TR d (ds.take i)=true then false else decide (0<=d.frm/\d.frm<=ds.length)&&decide (0<=d.to_/\d.to_<=ds.length)
def AA (ds:List Ze) (i:Nat):Bool:=(ds[i]?.map fun d=>U0 ds d i).getD false
theorem C7 {ds:List Ze} {i:Nat} {d:Ze} (h:ds[i]? = some d):AA ds i=U0 ds d i:=by rw [AA,h];rfl
def Um (ds:List Ze):List Ze->Nat->Bool
 | [],_=>true
 | _::r,i=>if AA ds i=true then Um ds r (i+1) else false
def Wo (ds:List Ze):Bool:=decide (ds.length<=4)&&Um ds ds 0
theorem IK {m:Nat} {cs:List Y9}:UQ m cs=true↔∀c∈cs,K1 m c=true:=by
 induction cs with
 | nil=>simp [UQ]
 | cons c r ih=>
  rw [UQ]
  split
  ·rename_i h;simp [ih,h]
  ·rename_i h;simp [h]
theorem FC {ds:List Ze}:∀{l:List Ze} {i:Nat},Um ds l i=true↔∀j<l.length,AA ds (i+j)=true
 | [],i=>by simp [Um]
 | d::r,i=>by
  rw [Um]
  split
  ·rename_i h
   rw [FC (l:=r)]
   constructor
   ·intro hq j hj
    cases j with
    | zero=>exact h
    | succ j=>have:=hq j (by simpa using hj);rwa [show i+(j+1)=i+1+j by omega]
   ·intro hq j hj
    have:=hq (j+1) (by simpa using hj)
    rwa [show i+(j+1)=i+1+j by omega] at this
  ·rename_i h
   simp only [Bool.false_eq_true,false_iff]
   intro hq
   exact h (hq 0 (by simp))
theorem Z97 {ds:List Ze} (h:Wo ds=true):Wd ds:=by
 simp only [Wo,XN,decide_eq_true_eq] at h
 obtain ⟨h1,h2⟩:=h
 rw [FC] at h2
 have key:∀d∈ds,∃i,U0 ds d i=true:=fun d hd=>by
  obtain ⟨i,hi⟩:=List.mem_iff_getElem?.1 hd
  have:=h2 i (Xr.1 hi).1
  rw [WG,C7 hi] at this
  exact ⟨i,this⟩
 have hc:∀d∈ds,0<d.cons.length->d.cons.length<=3/\UQ ds.length d.cons=true:=fun d hd hp=>by
  obtain ⟨i,hi⟩:=key d hd
  rw [U0,Zg hp] at hi
  split at hi
  ·rename_i h;exact ⟨h.1,hi⟩
  ·cases hi
 refine ⟨h1,fun d hd=>?_,fun d hd c hc'=>?_⟩
 ·by_cases hp:0<d.cons.length
  ·exact (hc d hd hp).1
  ·omega
 ·have:=IK.1 (hc d hd (List.length_pos_of_mem hc')).2 c hc'
  simp only [K1,XN,decide_eq_true_eq] at this
  exact this.1
def QS (m:Nat) (f:Sg):Bool:=decide (f.params.length<=3)&&(XO m f.params&&decide (0<=f.result/\f.result<=m))
def QT (m:Nat):List Sg->Bool
 | []=>true
 | f::r=>if QS m f=true then QT m r else false
def DG:List Sg->Bool
 | []=>false
 | f::_=>decide (f.params.length=0)&&decide (f.result=0)
theorem Sn {fs:List Sg} {x:Sg} (h:fs[0]? = some x):DG fs=(decide (x.params.length=0)&&decide (x.result=0)):=by
 cases fs with
 | nil=>simp at h
 | cons f r=>simp at h;subst h;rfl
def Qt (ds:List Ze) (fs:List Sg):Bool:=
 Wo ds&&(decide (1<=fs.length/\fs.length<=4)&&(QT ds.length fs&&DG fs))
def Qn (ps:LI):LI->Option Int->Bool
 | [],_=>true
 | v::r,prev=>if (0<=v/\v<=(ps.length:Int)-1)/\ps[v.toNat]?≠some 0/\(∀p,prev=some p->p<v) then Qn ps r (some v) else false
theorem GQ {ps r:LI} {v:Int} {prev:Option Int} (h:(0<=v/\v<=(ps.length:Int)-1)/\ps[v.toNat]?≠some 0/\(∀p,prev=some p->p<v)):Qn ps (v::r) prev=Qn ps r (some v):=by
 rw [Qn,Zg h]
theorem E9 {ps r:LI} {v:Int} {prev:Option Int} (h:¬((0<=v/\v<=(ps.length:Int)-1)/\ps[v.toNat]?≠some 0/\(∀p,prev=some p->p<v))):Qn ps (v::r) prev=false:=by
 rw [Qn,Z9 h]
def Kk (ps ls:LI):Bool:=Qn ps ls none
def Tn:List ZY->Bool
 | []=>true
 | r::rs=>if Kk r.params r.lent=true then Tn rs else false
def VC (r:ZY):Sg:=⟨r.params,r.result⟩
def VU (n:Zt):Bool:=decide (n.routines.length<=4)&&(Qt n.decls (n.routines.map VC)&&Tn n.routines)
end Go.Abs
section
namespace Go.Abs
def YZ {α:Type} (xs:List α) (i:Int):Option α:=if 0<=i/\i<=(xs.length:Int)-1 then xs[i.toNat]? else none
theorem Tv {α:Type} {xs:List α} {i:Int} {x:α} (h:0<=i/\i<=(xs.length:Int)-1) (hx:xs[i.toNat]? = some x):YZ xs i=some x:=by rw [YZ,Zg h,hx]
theorem Qg {α:Type} {xs:List α} {i:Int} (h:¬(0<=i/\i<=(xs.length:Int)-1)):YZ xs i=none:=by rw [YZ,Z9 h]
theorem JO {α:Type} {xs:List α} {i:Int} {x:α} (h:YZ xs i=some x):(0<=i/\i<=(xs.length:Int)-1)/\xs[i.toNat]? = some x:=by
 rw [YZ] at h
 split at h
 ·rename_i h1;exact ⟨h1,h⟩
 ·cases h
def UO (vars:LI):LI->LI->Bool
 | [],[]=>true
 | a::as1,t::ts=>if YZ vars a=some t then UO vars as1 ts else false
 | _,_=>false
def XM (vars args types:LI):Bool:=UO vars args types
theorem OF {vars:LI}:∀{args types:LI},args.length≠types.length->UO vars args types=false
 | [],[],h=>absurd rfl h
 | [],_::_,_=>rfl
 | _::_,[],_=>rfl
 | a::as1,t::ts,h=>by
  rw [UO]
  split
  ·exact OF (by simpa using h)
  ·rfl
theorem Z8z {vars args types:LI} {k:Nat} {a t:Int} (ha:args[k]? = some a) (ht:types[k]? = some t) (h:YZ vars a=some t) :
  UO vars (args.drop k) (types.drop k)=UO vars (args.drop (k+1)) (types.drop (k+1)):=by
 rw [Y4 ha,Y4 ht,UO,Zg h]
theorem OE {vars args types:LI} {k:Nat} {a t:Int} (ha:args[k]? = some a) (ht:types[k]? = some t) (h:YZ vars a≠some t) :
  UO vars (args.drop k) (types.drop k)=false:=by
 rw [Y4 ha,Y4 ht,UO,Z9 h]
theorem Z8y {vars args types:LI} {k:Nat} (ha:args.length<=k) (ht:types.length<=k):UO vars (args.drop k) (types.drop k)=true:=by
 rw [X8 ha,X8 ht];rfl
def V5 (op:Int):Bool:=op==0||(op==6||(op==8||(op==9||op==10)))
def Xz (op:Int):Bool:=decide (0<=op/\op<=11)
def Yl (op:Int):Bool:=decide (14<=op/\op<=17)
def VW (vars:LI) (op into:Int):Bool:=
 if into=0 then true else if op=6 then ((YZ vars (into-1)).map fun t=>decide (0<t)).getD false else false
def QC (ds:List Ze) (ps:LI) (res:Int):Int:=VF ds (ps.getLast?.getD 0) res
def QQ (ds:List Ze) (vars:LI) (op:Int) (args:LI) (r:ZY):Int:=
 if op=9 then (if XM vars args r.params=true then r.result else -1)
 else if r.params.length=0∨0<r.lent.length∨¬XM vars args (r.params.take (r.params.length-1))=true then -1
 else QC ds r.params r.result
def UM (n:Zt) (vars:LI) (op num:Int) (args:LI):Int:=
 match YZ n.routines num with
 | none=>-1
 | some r=>QQ n.decls vars op args r
def Tf (ds:List Ze) (vars:LI) (op:Int) (args:LI):Int:=
 match args with
 | [a]=>match YZ vars a with
  | some t=>if t=0 then -1 else if (op≠14/\op≠15)/\Xu ds t=true then -1 else 0
  | none=>-1
 | _=>-1
def TP (ds:List Ze) (vars:LI) (args:LI):Int:=
 match args with
 | [a,b]=>match YZ vars a with
  | some t=>if Xu ds t=true then
    (match ds[(t-1).toNat]? with
     | some d=>if XM vars [b] [d.frm]=true then d.to_ else -1
     | none=>-1) else -1
  | none=>-1
 | _=>-1
def Xg (ds:List Ze) (op num:Int):List LI:=if op=7 then [[],[]] else (ZQ ds num).map (ZU ds)
mutual
def Y0 (n:Zt) (vars:LI):Z4->Int
 | .mk op num into args kids=>
  if (num≠0/\¬V5 op=true)∨¬VW vars op into=true∨(0<kids.length/\op≠7/\op≠8) then -1
  else if op=0 then (if args.length=0/\(-999<=num/\num<=999) then 0 else -1)
  else if op=1∨op=2∨op=3∨op=4 then (if XM vars args [0,0]=true then 0 else -1)
  else if op=5 then (if XM vars args [0]=true then 0 else -1)
  else if op=6 then (if 0<XJ n.decls num/\XM vars args (ZU n.decls num)=true then XJ n.decls num else -1)
  else if op=7 then (if XM vars args [0]=true then (if (Xg n.decls op num).length=0∨kids.length≠(Xg n.decls op num).length then -1 else XV n vars kids (Xg n.decls op num) true 0) else -1)
  else if op=8 then (if XM vars args [num]=true then (if (Xg n.decls op num).length=0∨kids.length≠(Xg n.decls op num).length then -1 else XV n vars kids (Xg n.decls op num) true 0) else -1)
  else if op=9∨op=10 then UM n vars op num args
  else if op=11 then TP n.decls vars args
  else if op=14∨op=15∨op=16∨op=17 then Tf n.decls vars op args
  else -1
def XV (n:Zt) (vars:LI):List Z6->List LI->Bool->Int->Int
 | [],_,_,t=>t
 | b::bs,more,first,t=>
  match more with
  | []=>-1
  | m::ms=>if YU n (vars++m) b<0∨(first=false/\YU n (vars++m) b≠t) then -1 else XV n vars bs ms false (YU n (vars++m) b)
def Wb (n:Zt):List Z4->LI->Option LI
 | [],vars=>some vars
 | s::r,vars=>if Y0 n vars s<0 then none else Wb n r (if Xz s.op=true then vars++[Y0 n vars s] else vars)
def YU (n:Zt) (vars:LI):Z6->Int
 | .mk steps result=>match Wb n steps vars with
  | none=>-1
  | some vs=>(YZ vs result).getD (-1)
end
def UI (n:Zt) (vars:LI) (op num:Int) (kids:List Z6):Int:=
 if (Xg n.decls op num).length=0∨kids.length≠(Xg n.decls op num).length then -1 else XV n vars kids (Xg n.decls op num) true 0
mutual
def UV:Z4->Int->Int
 | .mk _ _ _ _ kids,left=>VA kids left
def XE:Z6->Int->Int
 | .mk steps _,left=>WO steps left
def WO:List Z4->Int->Int
 | [],left=>left
 | s::r,left=>if left<1 then -1 else if UV s (left-1)<0 then -1 else WO r (UV s (left-1))
def VA:List Z6->Int->Int
 | [],left=>left
 | b::r,left=>if XE b left<0 then -1 else VA r (XE b left)
end
def V9 (b:Z6):Int:=if XE b 600<0 then -1 else 600-XE b 600
def T9 (n:Zt):List ZY->Bool
 | []=>true
 | r::rs=>if ¬V9 r.body<0/\YU n r.params r.body=r.result then T9 n rs else false
def Wi (n:Zt):Bool:=VU n&&T9 n n.routines
theorem BC:(∀(s:Z4) (l:Int),0<=l->UV s l<=l)/\(∀(b:Z6) (l:Int),0<=l->XE b l<=l):=by
 have key:∀m:Nat,(∀s:Z4,s.sz<=m->∀l:Int,0<=l->UV s l<=l)/\(∀b:Z6,b.sz<=m->∀l:Int,0<=l->XE b l<=l):=by
  intro m
  induction m with
  | zero=>exact ⟨fun s h=>by have:=s.sz_pos;omega,fun s h=>by have:=s.sz_pos;omega⟩
  | succ m ih=>
   refine ⟨fun s hs l hl=>?_,fun b hb l hl=>?_⟩
   ·cases s with
    | mk op num into args kids=>
     rw [UV]
     have hk:YE kids<=m:=by rw [Z4.sz] at hs;omega
     clear hs
     induction kids generalizing l with
     | nil=>rw [VA];exact Int.le_refl _
     | cons b r ihr=>
      rw [YE] at hk
      have:=ih.2 b om l hl
      rw [VA]
      split
      ·omega
      ·have:=ihr (XE b l) om om;omega
   ·cases b with
    | mk steps res=>
     rw [XE]
     have hk:Y8 steps<=m:=by rw [Z6.sz] at hb;omega
     clear hb
     induction steps generalizing l with
     | nil=>rw [WO];exact Int.le_refl _
     | cons s r ihr=>
      rw [Y8] at hk
      rw [WO]
      split
      ·omega
      ·have:=ih.1 s om (l-1) om
       split
       ·omega
       ·have:=ihr (UV s (l-1)) om om;omega
 exact ⟨fun s l hl=>(key s.sz).1 s (YX _) l hl,fun b l hl=>(key b.sz).2 b (YX _) l hl⟩
end Go.Abs
namespace Go.Abs
theorem Z7z {l:List Z4} {k:Nat} {s:Z4} (h:l[k]? = some s):k+s.sz<=Y8 l:=by
 induction l generalizing k with
 | nil=>simp at h
 | cons t r ih=>
  cases k with
  | zero=>simp at h;subst h;simp only [Y8];omega
  | succ k=>have:=ih (k:=k) (by simpa using h);have:=t.sz_pos;simp only [Y8];omega
theorem Jt {b:Z6} {k:Nat} {s:Z4} (h:b.steps[k]? = some s):k+s.sz<b.sz:=by have:=Z7z h;have:=b.sz_eq;omega
structure X0 (n:Zt):Prop where
 decls:Wd n.decls
 len:n.routines.length<=4
 params:∀r∈n.routines,r.params.length<=3
 lent:∀r∈n.routines,r.lent.length<=4194304
theorem X0.params_at {n:Zt} (h:X0 n) {k:Nat} {r:ZY} (hr:n.routines[k]? = some r):r.params.length<=3:=h.params r (ZZ hr)
theorem X0.lent_at {n:Zt} (h:X0 n) {k:Nat} {r:ZY} (hr:n.routines[k]? = some r):r.lent.length<=4194304:=h.lent r (ZZ hr)
theorem Pw {ds:List Ze} {num:Int} {k:Nat} {x:Int} (h:(ZQ ds num)[k]? = some x):(Xg ds 8 num)[k]? = some (ZU ds x):=by
 rw [Xg,Z9 om,Qw,h];rfl
end Go.Abs
namespace Go.Abs
theorem GX {ds:List Ze} (hd:Wd ds) (t:Int):(ZQ ds t).length<=3:=by
 rw [ZQ]
 split
 ·rename_i h
  obtain ⟨d,hd1⟩:=Jc (xs:=ds) (j:=(t-1).toNat) om
  rw [hd1,Z4c]
  exact hd.cons_at hd1
 ·simp
theorem VG {ds:List Ze} (hd:Wd ds) (c:Int):(ZU ds c).length<=3:=by
 by_cases h:XJ ds c<1
 ·rw [(Dt h).1];simp
 ·obtain ⟨k,d,x,h1,_,h3,_,h5⟩:=Fv h
  rw [h5];exact hd.fields_at h1 h3
theorem I3 {ds:List Ze} (hd:Wd ds) {op num:Int} {k:Nat} {m:LI} (h:(Xg ds op num)[k]? = some m):m.length<=3:=by
 have hm:=ZZ h
 rw [Xg] at hm
 split at hm
 ·simp at hm;subst hm;simp
 ·obtain ⟨c,_,rfl⟩:=XS.1 hm;exact VG hd c
theorem QB {α:Type} {xs:List α} {x:α} (h:xs.length=1) (hx:xs[0]? = some x):xs=[x]:=by
 cases xs with
 | nil=>simp at h
 | cons a r=>
  cases r with
  | nil=>simp at hx;rw [hx]
  | cons b r=>simp at h
theorem Bd {ds:List Ze} {us args:LI} {op:Int} (h:args.length≠1):Tf ds us op args=-1:=by
 cases args with
 | nil=>rfl
 | cons a r=>
  cases r with
  | nil=>simp at h
  | cons b r=>rfl
theorem Be {ds:List Ze} {us args:LI} {op a:Int} (h:args=[a]) (hi:¬(0<=a/\a<=(us.length:Int)-1)):Tf ds us op args=-1:=by
 subst h;rw [Tf];simp only [Qg hi]
theorem Bc {ds:List Ze} {us args:LI} {op a t:Int} (h:args=[a]) (hi:0<=a/\a<=(us.length:Int)-1) (ht:us[a.toNat]? = some t) :
  Tf ds us op args=if t=0 then -1 else if (op≠14/\op≠15)/\Xu ds t=true then -1 else 0:=by
 subst h;rw [Tf];simp only [Tv hi ht]
theorem Z5i {n:Zt} {us args:LI} {op num:Int} {r:ZY} (hi:0<=num/\num<=(n.routines.length:Int)-1) (hr:n.routines[num.toNat]? = some r) :
  UM n us op num args=QQ n.decls us op args r:=by
 rw [UM];simp only [Tv hi hr]
theorem Z5j {n:Zt} {us args:LI} {op num:Int} (hi:¬(0<=num/\num<=(n.routines.length:Int)-1)):UM n us op num args=-1:=by
 rw [UM];simp only [Qg hi]
theorem LR {xs:LI} {x:Int} (h:xs[xs.length-1]? = some x):xs.getLast?.getD 0=x:=by
 rw [List.getLast?_eq_getElem?,h];rfl
theorem Mq {n:Zt} {us:LI} {bs:List Z6} {ms:List LI} {b:Z6} {m:LI} {k:Nat} {t:Int} (hb:bs[k]? = some b) (hm:ms[k]? = some m)
  (h:¬(YU n (us++m) b<0∨(k:Int)>0/\YU n (us++m) b≠t)) :
  XV n us (bs.drop k) (ms.drop k) (decide (k=0)) t=XV n us (bs.drop (k+1)) (ms.drop (k+1)) (decide (k+1=0)) (YU n (us++m) b):=by
 rw [Y4 hb,Y4 hm,XV,Z9]
 ·simp
 ·rintro (q|⟨q1,q2⟩)
  ·exact h (.inl q)
  ·exact h (.inr ⟨by simp at q1;omega,q2⟩)
theorem Mo {n:Zt} {us:LI} {bs:List Z6} {ms:List LI} {b:Z6} {m:LI} {k:Nat} {t:Int} (hb:bs[k]? = some b) (hm:ms[k]? = some m)
  (h:YU n (us++m) b<0∨(k:Int)>0/\YU n (us++m) b≠t) :
  XV n us (bs.drop k) (ms.drop k) (decide (k=0)) t=-1:=by
 rw [Y4 hb,Y4 hm,XV,Zg]
 rcases h with q|⟨q1,q2⟩
 ·exact .inl q
 ·exact .inr ⟨by simp;omega,q2⟩
theorem Mp {n:Zt} {us:LI} {bs:List Z6} {ms:List LI} {k:Nat} {f:Bool} {t:Int} (hb:bs.length<=k):XV n us (bs.drop k) (ms.drop k) f t=t:=by
 rw [X8 hb,XV]
end Go.Abs
end
namespace Go.Abs
theorem AY (n:Zt) (us:LI) (s:Z4):Y0 n us s =
  if (s.num≠0/\¬V5 s.op=true)∨¬VW us s.op s.into=true∨(0<s.kids.length/\s.op≠7/\s.op≠8) then -1
  else if s.op=0 then (if s.args.length=0/\(-999<=s.num/\s.num<=999) then 0 else -1)
  else if s.op=1∨s.op=2∨s.op=3∨s.op=4 then (if XM us s.args [0,0]=true then 0 else -1)
  else if s.op=5 then (if XM us s.args [0]=true then 0 else -1)
  else if s.op=6 then (if 0<XJ n.decls s.num/\XM us s.args (ZU n.decls s.num)=true then XJ n.decls s.num else -1)
  else if s.op=7 then (if XM us s.args [0]=true then UI n us s.op s.num s.kids else -1)
  else if s.op=8 then (if XM us s.args [s.num]=true then UI n us s.op s.num s.kids else -1)
  else if s.op=9∨s.op=10 then UM n us s.op s.num s.args
  else if s.op=11 then TP n.decls us s.args
  else if s.op=14∨s.op=15∨s.op=16∨s.op=17 then Tf n.decls us s.op s.args
  else -1:=by
 cases s with
 | mk op num into args kids=>rw [Y0];rfl
theorem Dj (n:Zt) (us:LI) (b:Z6):YU n us b=match Wb n b.steps us with
  | none=>-1
  | some vs=>(YZ vs b.result).getD (-1):=by
 cases b with
 | mk st r=>rw [YU];rfl
theorem I2 {α:Type} {xs:List α} {x:α} (h:xs.length=2) (hx:xs[0]? = some x):∃y,xs=[x,y]:=by
 match xs,h with
 | [a,b],_=>simp at hx;subst hx;exact ⟨b,rfl⟩
theorem Ua {ds:List Ze} {us args:LI} (h:args.length≠2):TP ds us args=-1:=by
 match args,h with
 | [],_=>rfl
 | [_],_=>rfl
 | [_,_],h=>simp at h
 | _::_::_::_,_=>rfl
theorem Ub {ds:List Ze} {us args:LI} {a:Int} (hl:args.length=2) (h:args[0]? = some a) (hi:¬(0<=a/\a<=(us.length:Int)-1)):TP ds us args=-1:=by
 obtain ⟨y,rfl⟩:=I2 hl h;rw [TP];simp only [Qg hi]
theorem VZ {ds:List Ze} {us args:LI} {a t:Int} (hl:args.length=2) (h:args[0]? = some a) (hi:0<=a/\a<=(us.length:Int)-1) (ht:us[a.toNat]? = some t) :
  TP ds us args=if Xu ds t=true then
    (match ds[(t-1).toNat]? with
     | some d=>if XM us (args.drop 1) [d.frm]=true then d.to_ else -1
     | none=>-1) else -1:=by
 obtain ⟨y,rfl⟩:=I2 hl h;rw [TP];simp only [Tv hi ht];rfl
theorem Pp {ds:List Ze} {us args:LI} {a t:Int} {d:Ze} (hl:args.length=2) (h:args[0]? = some a) (hi:0<=a/\a<=(us.length:Int)-1) (ht:us[a.toNat]? = some t)
  (hA:Xu ds t=true) (hd:ds[(t-1).toNat]? = some d):TP ds us args=if XM us (args.drop 1) [d.frm]=true then d.to_ else -1:=by
 rw [VZ hl h hi ht,Zg hA];simp only [hd]
theorem Gw {ds:List Ze} {t:Int} (h:Xu ds t=true):1<=t/\t<=ds.length:=by
 simp only [Xu,XN,decide_eq_true_eq] at h;exact h.1
theorem Mx (b:Z6) (l:Int):XE b l=WO b.steps l:=by cases b;rw [XE];rfl
theorem E8 (s:Z4) (l:Int):UV s l=VA s.kids l:=by cases s;rw [UV];rfl
structure UX (n:Zt):Prop where
 decls:KY n.decls
 len:n.routines.length<=4194304
 params:∀r∈n.routines,r.params.length<=4194304
 lent:∀r∈n.routines,r.lent.length<=4194304
 body:∀r∈n.routines,r.body.sz<=10000000
theorem Hk {m:Nat} {fs:List Sg} (h:QT m fs=true):∀f∈fs,QS m f=true:=by
 induction fs with
 | nil=>simp
 | cons f r ih=>
  rw [QT] at h
  split at h
  ·rename_i h1
   intro g hg
   rcases YJ.1 hg with rfl|hg
   ·exact h1
   ·exact ih h g hg
  ·cases h
theorem GW {n:Zt} (hz:UX n) (h:VU n=true):X0 n:=by
 simp only [VU,Qt,XN,decide_eq_true_eq] at h
 obtain ⟨h1,⟨h2,h3,h4,h5⟩,h6⟩:=h
 refine ⟨Z97 h2,h1,fun r hr=>?_,hz.lent⟩
 have:=Hk h4 (VC r) (XS.2 ⟨r,hr,rfl⟩)
 simp only [QS,XN,decide_eq_true_eq] at this
 exact this.1
def gI (xs:LI) (i:Int):Int:=xs[i.toNat]?.getD 0
theorem VJ {xs:LI} {i:Int} {x:Int} (h:xs[i.toNat]? = some x):gI xs i=x:=by rw [gI,h];rfl
structure ZC where
 vars:LI
 own:LI
 par:LI
 con:LI
 fst:LI
 tok:LI
def ZC.grow (L:ZC) (t own par:Int):ZC:=⟨L.vars++[t],L.own++[own],L.par++[par],L.con++[-1],L.fst++[-1],L.tok++[-1]⟩
def Td (L:ZC) (v:Int):Option ZC:=if gI L.own v<1 then none else some { L with own:=L.own.set v.toNat (gI L.own v-1) }
def TO (own par ln:LI):Nat->Int->Bool
 | 0,_=>false
 | k+1,v=>if gI own v<1/\¬v∈ln then (if gI par v<0 then false else TO own par ln k (gI par v)) else true
def Uk (L:ZC) (ln:LI) (v:Int):Bool:=TO L.own L.par ln (v.toNat+1) v
def Tu:LI->Int->LI->LI
 | own,_,[]=>own
 | own,p,f::r=>Tu (if f≠0 then own.set p.toNat (gI own p+1) else own) (p+1) r
def KJ (ds:List Ze) (L:ZC) (op x:Int):Option ZC:=
 if gI L.con x<0∨(op=17/\0<=gI L.tok x) then none
 else match Td L x with
  | none=>none
  | some L1=>some { L1 with
    own:=Tu L1.own (gI L.fst x) (ZU ds (gI L.con x))
    tok:=if op=17 then L.tok.set x.toNat (ZU ds (gI L.con x)).length else L.tok }
def Kx (op:Int):Bool:=op==6||(op==9||(op==10||op==11))
def Ea (n:Zt) (op num:Int):LI:=if op=9 then ((n.routines[num.toNat]?).map (·.lent)).getD [] else []
def Uf (n:Zt) (op num:Int) (i:Nat):Bool:=decide ((i:Int)∈Ea n op num)
def K3 (n:Zt) (vars:LI) (op num a:Int) (i:Nat):Bool:=Kx op&&(gI vars a != 0&&!Uf n op num i)
def Ql (n:Zt) (op num:Int):LI->Nat->ZC->Option ZC
 | [],_,L=>some L
 | a::r,i,L=>if K3 n L.vars op num a i=true then (match Td L a with
   | none=>none
   | some L1=>Ql n op num r (i+1) L1) else Ql n op num r (i+1) L
def A1 (n:Zt) (op num:Int) (ln:LI) (L:ZC):LI->Nat->Bool
 | [],_=>true
 | a::r,i=>if Uf n op num i=true/\¬Uk L ln a=true then false else A1 n op num ln L r (i+1)
def Ck (L:ZC) (into:Int) (m:Nat):Option ZC:=
 if 0<into then (if gI L.tok (into-1)≠m then none else some { L with tok:=L.tok.set (into-1).toNat (-1) }) else some L
def K6 (n:Zt) (ln:LI) (L:ZC) (op num into:Int) (args:LI):Option ZC:=
 match Ql n op num args 0 L with
 | none=>none
 | some L1=>if A1 n op num ln L1 args 0=true then Ck L1 into args.length else none
def Am:LI->LI->Bool
 | o::os,t::ts=>if o≠0∨0<=t then false else Am os ts
 | _,_=>true
def ZC.take (L:ZC) (m:Nat):ZC:=⟨L.vars.take m,L.own.take m,L.par.take m,L.con.take m,L.fst.take m,L.tok.take m⟩
def Ky (L:ZC) (m:Nat):Option ZC:=if Am (L.own.drop m) (L.tok.drop m)=true then some (L.take m) else none
def AK (L:ZC) (par:Int):LI->ZC
 | []=>L
 | t::r=>AK (L.grow t 0 par) par r
def Ax (ds:List Ze) (L:ZC) (x c:Int):ZC:=
 AK { L with con:=L.con.set x.toNat c,fst:=L.fst.set x.toNat L.vars.length } x (ZU ds c)
def UU (ds:List Ze) (L:ZC) (op num:Int) (args:LI) (i:Nat):ZC:=
 if op=8 then Ax ds L (gI args 0) (gI (ZQ ds num) i) else L
def Jp (lent:LI):LI->Nat->ZC->ZC
 | [],_,L=>L
 | t::r,i,L=>Jp lent r (i+1) (L.grow t (if t≠0/\¬(i:Int)∈lent then 1 else 0) (-1))
def QO (r:ZY):ZC:=Jp r.lent r.params 0 ⟨[],[],[],[],[],[]⟩
def AC (L:ZC) (ln:LI) (v:Int):Option ZC:=if Uk L ln v=true then some { L with own:=L.own.set v.toNat (gI L.own v+1) } else none
def Kf (n:Zt) (ln:LI) (L:ZC) (op num into:Int) (args:LI) (ch:Option ZC):Option ZC:=
 if op=14 then AC L ln (gI args 0)
 else if op=15 then Td L (gI args 0)
 else if op=16∨op=17 then KJ n.decls L op (gI args 0)
 else if op=7∨op=8 then (if op=8/\¬Uk L ln (gI args 0)=true then none else ch)
 else K6 n ln L op num into args
def KF (L:ZC) (op t:Int) (r:Option ZC):Option ZC:=
 match r with
 | none=>none
 | some L1=>if Xz op=true then some (L1.grow t (if t≠0 then 1 else 0) (-1)) else some L1
def AQ (L:ZC) (first:Option ZC) (rest:ZC->Bool):Option ZC:=
 match first with
 | none=>none
 | some one=>if rest one=true then some { L with own:=one.own,tok:=one.tok } else none
def Ez (one:ZC) (two:Option ZC) (rest:Bool):Bool:=
 match two with
 | none=>false
 | some two=>if one.own=two.own/\one.tok=two.tok then rest else false
def D3 (r:Option ZC) (f:ZC->Option ZC):Option ZC:=match r with|none=>none|some L=>f L
def KE (m:Nat) (res:Int) (L:ZC):Option ZC:=D3 (if gI L.vars res≠0 then Td L res else some L) fun L2=>Ky L2 m
mutual
def TI (n:Zt) (ln:LI) (L:ZC):Z4->Option ZC
 | .mk op num into args kids=>KF L op (Y0 n L.vars (.mk op num into args kids)) (Kf n ln L op num into args (QL n ln L op num args kids))
def QL (n:Zt) (ln:LI) (L:ZC) (op num:Int) (args:LI):List Z6->Option ZC
 | []=>none
 | b::bs=>AQ L (Vu n ln (UU n.decls L op num args 0) L.vars.length b) fun one=>Kb n ln L op num args one bs 1
def Kb (n:Zt) (ln:LI) (L:ZC) (op num:Int) (args:LI) (one:ZC):List Z6->Nat->Bool
 | [],_=>true
 | b::bs,i=>Ez one (Vu n ln (UU n.decls L op num args i) L.vars.length b) (Kb n ln L op num args one bs (i+1))
def Kh (n:Zt) (ln:LI) (L:ZC):List Z4->Option ZC
 | []=>some L
 | s::r=>D3 (TI n ln L s) fun L1=>Kh n ln L1 r
def Vu (n:Zt) (ln:LI) (L:ZC) (m:Nat):Z6->Option ZC
 | .mk steps result=>D3 (Kh n ln L steps) (KE m result)
end
theorem Oo (n:Zt) (ln:LI) (L:ZC) (s:Z4):TI n ln L s=KF L s.op (Y0 n L.vars s) (Kf n ln L s.op s.num s.into s.args (QL n ln L s.op s.num s.args s.kids)):=by
 cases s with
 | mk op num into args kids=>rw [TI];rfl
theorem Fk (n:Zt) (ln:LI) (L:ZC) (m:Nat) (b:Z6):Vu n ln L m b=D3 (Kh n ln L b.steps) (KE m b.result):=by
 cases b with
 | mk st r=>rw [Vu];rfl
structure UB (L:ZC):Prop where
 own:L.own.length=L.vars.length
 par:L.par.length=L.vars.length
 con:L.con.length=L.vars.length
 fst:L.fst.length=L.vars.length
 tok:L.tok.length=L.vars.length
structure Xl (ds:List Ze) (L:ZC) (q:Int):Prop where
 len:UB L
 down:∀j:Int,0<=j->j<L.vars.length->gI L.par j<j
 arm:∀x:Int,0<=x->x<L.vars.length->0<=gI L.con x->0<=gI L.fst x/\gI L.fst x+(ZU ds (gI L.con x)).length<=L.vars.length
 nn:∀x∈L.own,0<=x
 bd:∀x∈L.own,x<=q
end Go.Abs
section
namespace Go.Abs
end Go.Abs
namespace Go.Abs
theorem Z3s {n:Zt} {op num:Int} {r:ZY} (h:op=9) (hr:n.routines[num.toNat]? = some r):Ea n op num=r.lent:=by
 rw [Ea,Zg h,hr];rfl
end Go.Abs
namespace Go.Abs
theorem Pa {own par ln:LI} {N:Int} (hd:∀j:Int,0<=j->j<N->gI par j<j):∀(k:Nat) (v:Int),0<=v->v<N->v.toNat+1<=k->TO own par ln k v=TO own par ln (v.toNat+1) v:=by
 intro k
 induction k using Nat.strongRecOn with
 | ind k ih=>
  intro v h0 hN hk
  cases k with
  | zero=>omega
  | succ k=>
   rw [TO,TO]
   split
   ·split
    ·rfl
    ·have hdv:=hd v h0 hN
     rw [ih k om (gI par v) om om om]
     rw [ih v.toNat om (gI par v) om om om]
   ·rfl
theorem Pc {own par ln:LI} {N j x1 x2:Int} {r:Bool} (h1:gI own j=x1) (h2:gI par j=x2) (hj:0<=j/\j<N) (hx:x1<1/\¬j∈ln) (h0:¬x2<0) (hd:∀i:Int,0<=i->i<N->gI par i<i)
  (h:TO own par ln (j.toNat+1) j=r):TO own par ln (x2.toNat+1) x2=r:=by
 rw [TO,h1,h2,Zg hx,Z9 h0] at h
 have hdv:=hd j hj.1 hj.2
 rw [<-h,Pa hd j.toNat x2 om om om]
theorem Pb {own par ln:LI} {j x1 x2:Int} {r:Bool} (h1:gI own j=x1) (h2:gI par j=x2) (hx:x1<1/\¬j∈ln) (h0:x2<0) (h:TO own par ln (j.toNat+1) j=r):false=r:=by
 rw [TO,h1,h2,Zg hx,Zg h0] at h;exact h
theorem Pd {own par ln:LI} {j x1:Int} {r:Bool} (h1:gI own j=x1) (hx:¬(x1<1/\¬j∈ln)) (h:TO own par ln (j.toNat+1) j=r):true=r:=by
 rw [TO,h1,Z9 hx] at h;exact h
end Go.Abs
namespace Go.Abs
theorem Ki {L L':ZC} {v:Int} (h:Td L v=some L'):1<=gI L.own v/\L'.vars=L.vars/\L'.par=L.par/\L'.con=L.con/\L'.fst=L.fst/\L'.tok=L.tok/\L'.own=L.own.set v.toNat (gI L.own v-1):=by
 rw [Td] at h
 split at h
 ·cases h
 ·cases h;exact ⟨by omega,rfl,rfl,rfl,rfl,rfl,rfl⟩
theorem Ga {xs:LI} {v:Int} (h:gI xs v≠0):gI xs v∈xs:=by
 rw [gI] at h ⊢
 cases hx:xs[v.toNat]? with
 | none=>rw [hx] at h;exact absurd rfl h
 | some y=>exact ZZ hx
theorem Kc {xs:LI} {i:Nat} {a x:Int} (h:x∈xs.set i a):x∈xs∨x=a:=List.mem_or_eq_of_mem_set h
theorem Xl.take {ds:List Ze} {L L':ZC} {q v:Int} (hk:Xl ds L q) (h:Td L v=some L'):Xl ds L' q:=by
 obtain ⟨t1,t2,t3,t4,t5,t6,t7⟩:=Ki h
 obtain ⟨f1,f2,f3,f4,f5⟩:=hk.len
 have hm:=Ga (xs:=L.own) (v:=v) om
 refine ⟨⟨by rw [t7,t2,VP];exact f1,by rw [t3,t2];exact f2,by rw [t4,t2];exact f3,by rw [t5,t2];exact f4,by rw [t6,t2];exact f5⟩,?_,?_,?_,?_⟩
 ·rw [t2,t3];exact hk.down
 ·rw [t2,t4,t5];exact hk.arm
 ·rw [t7];intro x hx
  rcases Kc hx with hx|rfl
  ·exact hk.nn x hx
  ·omega
 ·rw [t7];intro x hx
  rcases Kc hx with hx|rfl
  ·exact hk.bd x hx
  ·have:=hk.bd _ hm;omega
end Go.Abs
end
namespace Go.Abs
theorem HE {us:LI}:∀{args tys:LI},UO us args tys=true->args.length=tys.length/\∀a∈args,0<=a/\a<us.length
 | [],[],_=>⟨rfl,by simp⟩
 | [],_::_,h=>by cases h
 | _::_,[],h=>by cases h
 | a::as1,t::ts,h=>by
  rw [UO] at h
  split at h
  ·rename_i h1
   obtain ⟨q1,q2⟩:=HE h
   refine ⟨by simp [q1],fun x hx=>?_⟩
   rcases YJ.1 hx with rfl|hx
   ·have:=(JO h1).1;omega
   ·exact q2 x hx
  ·cases h
theorem Mm {n:Zt} {us:LI}:∀{bs:List Z6} {ms:List LI} {f:Bool} {t:Int},0<=t->0<=XV n us bs ms f t ->
  ∀(i:Nat) (b:Z6) (m:LI),bs[i]? = some b->ms[i]? = some m->0<=YU n (us++m) b
 | [],_,_,_,_,_,i,b,m,hb,_=>by simp at hb
 | b::bs,[],_,_,_,h,_,_,_,_,hm=>by simp at hm
 | b::bs,m::ms,f,t,ht,h,i,c,l,hc,hl=>by
  rw [XV] at h
  split at h
  ·omega
  ·rename_i hq
   have h0:0<=YU n (us++m) b:=by
    rcases Int.lt_or_le (YU n (us++m) b) 0 with q|q
    ·exact absurd (.inl q) hq
    ·exact q
   cases i with
   | zero=>simp at hc hl;subst hc hl;exact h0
   | succ i=>exact Mm h0 h i c l (by simpa using hc) (by simpa using hl)
structure At (n:Zt) (us:LI) (s:Z4):Prop where
 args:∀a∈s.args,0<=a/\a<us.length
 one:(s.op=7∨s.op=8∨(14<=s.op/\s.op<=17))->∃a,s.args=[a]
 num:s.op=9->0<=s.num/\s.num<n.routines.length
 into:s.into≠0->1<=s.into/\s.into<=us.length
 kids:(s.op=7∨s.op=8)->s.kids.length=(Xg n.decls s.op s.num).length/\(Xg n.decls s.op s.num).length≠0 /\
  ∀(i:Nat) (b:Z6) (m:LI),s.kids[i]? = some b->(Xg n.decls s.op s.num)[i]? = some m->0<=YU n (us++m) b
theorem Z3a {n:Zt} {us:LI} {op num:Int} {kids:List Z6} (h:0<=UI n us op num kids) :
  kids.length=(Xg n.decls op num).length/\(Xg n.decls op num).length≠0/\∀(i:Nat) (b:Z6) (m:LI),kids[i]? = some b->(Xg n.decls op num)[i]? = some m->0<=YU n (us++m) b:=by
 rw [UI] at h
 split at h
 ·omega
 ·rename_i hq
  exact ⟨by omega,by omega,Mm (Int.le_refl 0) h⟩
theorem MD {xs:LI} (h:xs.length=1):∃a,xs=[a]:=by
 match xs,h with
 | [a],_=>exact ⟨a,rfl⟩
theorem Ou {n:Zt} {us:LI} {s:Z4} (h:0<=Y0 n us s):At n us s:=by
 rw [AY] at h
 split at h
 ·omega
 rename_i h0
 have hinto:s.into≠0->1<=s.into/\s.into<=us.length:=by
  intro hi
  have hv:VW us s.op s.into=true:=by
   cases q:VW us s.op s.into with
   | true=>rfl
   | false=>exact absurd (.inr (.inl (by rw [q];simp))) h0
  rw [VW,Z9 hi] at hv
  split at hv
  ·cases ha:YZ us (s.into-1) with
   | none=>rw [ha] at hv;cases hv
   | some t=>have:=(JO ha).1;omega
  ·cases hv
 have mk:(∀a∈s.args,0<=a/\a<us.length)->((s.op=7∨s.op=8∨(14<=s.op/\s.op<=17))->∃a,s.args=[a])->(s.op=9->0<=s.num/\s.num<n.routines.length) ->
   ((s.op=7∨s.op=8)->0<=UI n us s.op s.num s.kids)->At n us s:=fun a b c d=>⟨a,b,c,hinto,fun q=>Z3a (d q)⟩
 have ty:∀{tys},XM us s.args tys=true->s.args.length=tys.length/\∀a∈s.args,0<=a/\a<us.length:=fun q=>HE q
 split at h
 ·rename_i h1
  split at h
  ·rename_i h2
   exact mk (by rw [List.eq_nil_of_length_eq_zero h2.1];simp) om om om
  ·omega
 split at h
 ·split at h
  ·rename_i h1 h2;exact mk (ty h2).2 om om om
  ·omega
 split at h
 ·split at h
  ·rename_i h1 h2;exact mk (ty h2).2 om om om
  ·omega
 split at h
 ·split at h
  ·rename_i h1 h2;exact mk (ty h2.2).2 om om om
  ·omega
 split at h
 ·split at h
  ·rename_i h1 h2;exact mk (ty h2).2 (fun _=>MD (by simpa using (ty h2).1)) om (fun _=>h)
  ·omega
 split at h
 ·split at h
  ·rename_i h1 h2;exact mk (ty h2).2 (fun _=>MD (by simpa using (ty h2).1)) om (fun _=>h)
  ·omega
 split at h
 ·rename_i hop
  rw [UM] at h
  cases hr:YZ n.routines s.num with
  | none=>rw [hr] at h;simp at h
  | some r=>
   rw [hr] at h
   simp only at h
   have hn:=(JO hr).1
   rw [QQ] at h
   split at h
   ·split at h
    ·rename_i h2;exact mk (ty h2).2 om om om
    ·omega
   ·split at h
    ·omega
    ·rename_i h2
     have h3:XM us s.args (r.params.take (r.params.length-1))=true:=by
      cases q:XM us s.args (r.params.take (r.params.length-1)) with
      | true=>rfl
      | false=>exact absurd (.inr (.inr (by rw [q];simp))) h2
     exact mk (ty h3).2 om om om
 split at h
 ·rename_i hop
  rcases he:s.args with _|⟨a,_|⟨b,_|⟨c,r⟩⟩⟩
  ·rw [he,show TP n.decls us []=-1 from rfl] at h;omega
  ·rw [he,show TP n.decls us [a]=-1 from rfl] at h;omega
  ·rw [he,TP] at h
   cases ha:YZ us a with
   | none=>rw [ha] at h;simp at h
   | some t=>
    rw [ha] at h
    simp only at h
    split at h
    ·cases hd:n.decls[(t-1).toNat]? with
     | none=>rw [hd] at h;simp at h
     | some d=>
      rw [hd] at h
      simp only at h
      split at h
      ·rename_i h3
       have h4:=(HE h3).2 b (by simp)
       have h5:=(JO ha).1
       refine mk (fun x hx=>?_) om om om
       rw [he] at hx
       rcases YJ.1 hx with rfl|hx
       ·omega
       ·rw [XT.1 hx];exact h4
      ·omega
    ·omega
  ·rw [he,show TP n.decls us (a::b::c::r)=-1 from rfl] at h;omega
 split at h
 ·rename_i hop
  rcases he:s.args with _|⟨a,_|⟨b,r⟩⟩
  ·rw [he,show Tf n.decls us s.op []=-1 from rfl] at h;omega
  ·rw [he,Tf] at h
   cases ha:YZ us a with
   | none=>rw [ha] at h;simp at h
   | some t=>
    have h5:=(JO ha).1
    refine mk (fun x hx=>?_) (fun _=>⟨a,he⟩) om om
    rw [he] at hx
    rw [XT.1 hx];omega
  ·rw [he,show Tf n.decls us s.op (a::b::r)=-1 from rfl] at h;omega
 ·omega
def Q4 (n:Zt) (us:LI) (s:Z4):LI:=if Xz s.op=true then us++[Y0 n us s] else us
theorem IV {L L':ZC} {ln:LI} {v:Int} (h:AC L ln v=some L'):L'.vars=L.vars/\L'.par=L.par/\L'.con=L.con/\L'.fst=L.fst/\L'.tok=L.tok/\L'.own=L.own.set v.toNat (gI L.own v+1):=by
 rw [AC] at h
 split at h
 ·cases h;exact ⟨rfl,rfl,rfl,rfl,rfl,rfl⟩
 ·cases h
theorem Ff:∀(fs:LI) (own:LI) (p:Int),(Tu own p fs).length=own.length
 | [],own,p=>rfl
 | f::r,own,p=>by rw [Tu,Ff r];split<;>simp
theorem G9 {xs:LI} {q v:Int} (h:∀x∈xs,x<=q) (hq:0<=q):gI xs v<=q:=by
 by_cases h0:gI xs v=0
 ·omega
 ·exact h _ (Ga h0)
theorem Gc {xs:LI} {v:Int} (h:∀x∈xs,0<=x):0<=gI xs v:=by
 by_cases h0:gI xs v=0
 ·omega
 ·exact h _ (Ga h0)
theorem Fg:∀(fs:LI) (own:LI) (p:Int),(∀x∈own,0<=x)->∀x∈Tu own p fs,0<=x
 | [],own,p,h=>h
 | f::r,own,p,h=>by
  rw [Tu]
  refine Fg r _ _ fun x hx=>?_
  split at hx
  ·rcases Kc hx with hx|rfl
   ·exact h x hx
   ·have:=Gc (v:=p) h;omega
  ·exact h x hx
theorem Fe:∀(fs:LI) (own:LI) (p q:Int),0<=q->(∀x∈own,x<=q)->∀x∈Tu own p fs,x<=q+fs.length
 | [],own,p,q,hq,h=>by intro x hx;have:=h x hx;simp;omega
 | f::r,own,p,q,hq,h=>by
  intro x hx
  rw [Tu] at hx
  have:=Fe r _ _ (q+1) om (fun y hy=>by
   split at hy
   ·rcases Kc hy with hy|rfl
    ·have:=h y hy;omega
    ·have:=G9 (v:=p) h hq;omega
   ·have:=h y hy;omega) x hx
  simp only [YK];omega
theorem N8 {ds:List Ze} {L L':ZC} {op v:Int} (h:KJ ds L op v=some L'):L'.vars=L.vars/\L'.par=L.par/\L'.con=L.con/\L'.fst=L.fst/\L'.tok.length=L.tok.length /\
  ∃L1,Td L v=some L1/\L'.own=Tu L1.own (gI L.fst v) (ZU ds (gI L.con v)):=by
 rw [KJ] at h
 split at h
 ·cases h
 ·cases ht:Td L v with
  | none=>rw [ht] at h;cases h
  | some L1=>
   rw [ht] at h
   simp only at h
   obtain ⟨t1,t2,t3,t4,t5,t6,t7⟩:=Ki ht
   cases h
   refine ⟨t2,t3,t4,t5,?_,L1,rfl,rfl⟩
   split
   ·rw [VP]
   ·rfl
theorem Gk {n:Zt} {op num:Int} {ds:List Ze} {q:Int}:∀{as1:LI} {i:Nat} {L L':ZC},Xl ds L q->Ql n op num as1 i L=some L'->Xl ds L' q/\L'.vars=L.vars/\L'.par=L.par/\L'.con=L.con/\L'.fst=L.fst/\L'.tok=L.tok
 | [],i,L,L',hk,h=>by rw [Ql] at h;cases h;exact ⟨hk,rfl,rfl,rfl,rfl,rfl⟩
 | a::r,i,L,L',hk,h=>by
  rw [Ql] at h
  split at h
  ·cases ht:Td L a with
   | none=>rw [ht] at h;cases h
   | some L1=>
    rw [ht] at h
    obtain ⟨t1,t2,t3,t4,t5,t6,t7⟩:=Ki ht
    obtain ⟨k1,k2,k3,k4,k5,k6⟩:=Gk (hk.take ht) h
    exact ⟨k1,k2.trans t2,k3.trans t3,k4.trans t4,k5.trans t5,k6.trans t6⟩
  ·exact Gk hk h
theorem Xl.le {ds:List Ze} {L:ZC} {q q':Int} (h:Xl ds L q) (hq:q<=q'):Xl ds L q':=⟨h.len,h.down,h.arm,h.nn,fun x hx=>Int.le_trans (h.bd x hx) hq⟩
theorem Xl.turn {ds:List Ze} {L L':ZC} {q q':Int} (hk:Xl ds L q) (h1:L'.vars=L.vars) (h2:L'.par=L.par) (h3:L'.con=L.con) (h4:L'.fst=L.fst) (h5:L'.tok.length=L.tok.length) (h6:L'.own.length=L.own.length)
  (h7:∀x∈L'.own,0<=x) (h8:∀x∈L'.own,x<=q'):Xl ds L' q':=by
 obtain ⟨f1,f2,f3,f4,f5⟩:=hk.len
 refine ⟨⟨by rw [h6,h1];exact f1,by rw [h2,h1];exact f2,by rw [h3,h1];exact f3,by rw [h4,h1];exact f4,by rw [h5,h1];exact f5⟩,?_,?_,h7,h8⟩
 ·rw [h1,h2];exact hk.down
 ·rw [h1,h3,h4];exact hk.arm
theorem Bs {xs ys:LI} {j:Int} (h:j.toNat<xs.length):gI (xs++ys) j=gI xs j:=by
 rw [gI,gI,D7 h]
theorem Lr {xs:LI} {y:Int} {j:Int} (h:j.toNat=xs.length):gI (xs++[y]) j=y:=by
 rw [gI,h];simp
theorem Xl.grow {ds:List Ze} {L:ZC} {q t o p:Int} (hk:Xl ds L q) (hp:p<L.vars.length) (ho:0<=o/\o<=q):Xl ds (L.grow t o p) q:=by
 obtain ⟨f1,f2,f3,f4,f5⟩:=hk.len
 refine ⟨⟨by simp [ZC.grow,f1],by simp [ZC.grow,f2],by simp [ZC.grow,f3],by simp [ZC.grow,f4],by simp [ZC.grow,f5]⟩,?_,?_,?_,?_⟩
 ·intro j hj hl
  simp only [ZC.grow,Ym,EZ] at hl ⊢
  by_cases hlt:j<L.vars.length
  ·rw [Bs om];exact hk.down j hj hlt
  ·rw [Lr om];omega
 ·intro x hx hl
  simp only [ZC.grow,Ym,EZ] at hl ⊢
  by_cases hlt:x<L.vars.length
  ·rw [Bs om,Bs om]
   intro hc
   have:=hk.arm x hx hlt hc
   exact ⟨this.1,by omega⟩
  ·rw [Lr om];omega
 ·intro x hx
  simp only [ZC.grow,Xe,XT] at hx
  rcases hx with hx|rfl
  ·exact hk.nn x hx
  ·exact ho.1
 ·intro x hx
  simp only [ZC.grow,Xe,XT] at hx
  rcases hx with hx|rfl
  ·exact hk.bd x hx
  ·exact ho.2
theorem Lu {xs:LI} {k:Nat} {a:Int} {j:Int} (h:xs.length<=j.toNat/\j.toNat<xs.length+k):gI (xs++List.replicate k a) j=a:=by
 rw [gI,EW h.1,List.getElem?_replicate,Zg om];rfl
theorem Gd {xs:LI} {x j c:Int} (h:j.toNat=x.toNat) (hl:x.toNat<xs.length):gI (xs.set x.toNat c) j=c:=by
 rw [gI,h,List.getElem?_set_self hl];rfl
theorem Ge {xs:LI} {x j c:Int} (h:j.toNat≠x.toNat):gI (xs.set x.toNat c) j=gI xs j:=by
 rw [gI,gI,List.getElem?_set_ne (fun q=>h q.symm)]
theorem LS {p:Int}:∀(fs:LI) (L:ZC),AK L p fs=⟨L.vars++fs,L.own++List.replicate fs.length 0,L.par++List.replicate fs.length p,L.con++List.replicate fs.length (-1),
  L.fst++List.replicate fs.length (-1),L.tok++List.replicate fs.length (-1)⟩
 | [],L=>by simp [AK]
 | t::r,L=>by rw [AK,LS r];simp [ZC.grow,HP]
theorem Pu {ds:List Ze} {L:ZC} {q x c:Int} (hk:Xl ds L q) (hq:0<=q) (hx:0<=x/\x<L.vars.length):Xl ds (Ax ds L x c) q/\(Ax ds L x c).vars=L.vars++ZU ds c:=by
 obtain ⟨f1,f2,f3,f4,f5⟩:=hk.len
 rw [Ax,LS]
 refine ⟨⟨⟨by simp [f1],by simp [f2],by simp [f3],by simp [f4],by simp [f5]⟩,?_,?_,?_,?_⟩,rfl⟩
 ·intro j hj hl
  simp only [Ym] at hl ⊢
  by_cases hlt:j<L.vars.length
  ·rw [Bs om];exact hk.down j hj hlt
  ·rw [Lu om];omega
 ·intro y hy hl
  simp only [Ym] at hl ⊢
  by_cases hlt:y<L.vars.length
  ·rw [Bs (by simp;omega),Bs (by simp;omega)]
   by_cases he:y.toNat=x.toNat
   ·rw [Gd he om,Gd he om]
    intro _
    exact ⟨by omega,by simp⟩
   ·rw [Ge he,Ge he]
    intro hc
    have:=hk.arm y hy hlt hc
    exact ⟨this.1,by omega⟩
  ·rw [Lu (by simp;omega)];omega
 ·intro y hy
  simp only [Xe,List.mem_replicate] at hy
  rcases hy with hy|⟨_,rfl⟩
  ·exact hk.nn y hy
  ·exact Int.le_refl 0
 ·intro y hy
  simp only [Xe,List.mem_replicate] at hy
  rcases hy with hy|⟨_,rfl⟩
  ·exact hk.bd y hy
  ·exact hq
theorem E2 {n:Zt} {L:ZC} {q:Int} {s:Z4} {i:Nat} {m:LI} (hk:Xl n.decls L q) (hq:0<=q) (hf:At n L.vars s) (hop:s.op=7∨s.op=8) (hm:(Xg n.decls s.op s.num)[i]? = some m) :
  Xl n.decls (UU n.decls L s.op s.num s.args i) q/\(UU n.decls L s.op s.num s.args i).vars=L.vars++m:=by
 rw [UU]
 split
 ·rename_i h8
  obtain ⟨a,ha⟩:=hf.one om
  have hb:=hf.args a (by rw [ha];simp)
  have hg:gI s.args 0=a:=by rw [ha];rfl
  rw [Xg,Z9 om,Qw] at hm
  cases hc:(ZQ n.decls s.num)[i]? with
  | none=>rw [hc] at hm;cases hm
  | some c=>
   rw [hc] at hm
   cases hm
   have hgc:gI (ZQ n.decls s.num) (i:Int)=c:=by rw [gI];simp [hc]
   rw [hg,hgc]
   exact Pu hk hq hb
 ·rename_i h8
  rw [Xg,Zg om] at hm
  have:m=[]:=by
   match i,hm with
   | 0,hm=>simpa using hm.symm
   | 1,hm=>simpa using hm.symm
   | i+2,hm=>simp at hm
  subst this
  exact ⟨hk,by simp⟩
theorem Ov {n:Zt}:∀{l:List Z4} {us vs:LI},Wb n l us=some vs->us.length<=vs.length
 | [],us,vs,h=>by rw [Wb] at h;cases h;exact YX _
 | s::r,us,vs,h=>by
  rw [Wb] at h
  split at h
  ·cases h
  ·have:=Ov h
   split at this
   ·simp only [Ym,EZ] at this;omega
   ·exact this
theorem LT {n:Zt} {ln:LI} {L L':ZC} {op num into q:Int} {args:LI} {ds:List Ze} (hk:Xl ds L q) (h:K6 n ln L op num into args=some L'):Xl ds L' q/\L'.vars=L.vars:=by
 rw [K6] at h
 cases ht:Ql n op num args 0 L with
 | none=>rw [ht] at h;cases h
 | some L1=>
  rw [ht] at h
  simp only at h
  obtain ⟨k1,k2,k3,k4,k5,k6⟩:=Gk hk ht
  split at h
  ·rw [Ck] at h
   split at h
   ·split at h
    ·cases h
    ·cases h
     exact ⟨k1.turn rfl rfl rfl rfl (by simp) rfl k1.nn k1.bd,k2⟩
   ·cases h;exact ⟨k1,k2⟩
  ·cases h
theorem Ro {L L':ZC} {m:Nat} (h:Ky L m=some L'):L'=L.take m/\Am (L.own.drop m) (L.tok.drop m)=true:=by
 rw [Ky] at h
 split at h
 ·rename_i hz;cases h;exact ⟨rfl,hz⟩
 ·cases h
theorem HC {r:Option ZC} {f:ZC->Option ZC} {L:ZC} (h:D3 r f=some L):∃L1,r=some L1/\f L1=some L:=by
 cases r with
 | none=>cases h
 | some L1=>exact ⟨L1,rfl,h⟩
theorem Mw (n:Zt) (hn:X0 n) (ln:LI):∀m:Nat,
  (∀(s:Z4) (L L':ZC) (q:Int),s.sz<=m->Xl n.decls L q->0<=q->0<=Y0 n L.vars s->TI n ln L s=some L'->Xl n.decls L' (q+4*s.sz)/\L'.vars=Q4 n L.vars s) /\
  (∀(b:Z6) (L O:ZC) (q:Int) (k:Nat),b.sz<=m->Xl n.decls L q->0<=q->0<=YU n L.vars b->k<=L.vars.length->Vu n ln L k b=some O ->
   (O.own.length=k/\O.tok.length=k/\(∀x∈O.own,0<=x/\x<=q+4*b.sz))/\UB O/\O.vars.length=k):=by
 intro m
 induction m with
 | zero=>exact ⟨fun s _ _ _ h=>by have:=s.sz_pos;omega,fun s _ _ _ _ h=>by have:=s.sz_pos;omega⟩
 | succ m ih=>
  have hs:∀(s:Z4) (L L':ZC) (q:Int),s.sz<=m+1->Xl n.decls L q->0<=q->0<=Y0 n L.vars s->TI n ln L s=some L'->Xl n.decls L' (q+4*s.sz)/\L'.vars=Q4 n L.vars s:=by
   intro s L L' q Xi hk hq hty h
   have hp:=s.sz_pos
   have hf:=Ou hty
   obtain ⟨f1,f2,f3,f4,f5⟩:=hk.len
   rw [Oo] at h
   unfold KF at h
   cases hpk:Kf n ln L s.op s.num s.into s.args (QL n ln L s.op s.num s.args s.kids) with
   | none=>rw [hpk] at h;cases h
   | some L1=>
    rw [hpk] at h
    simp only at h
    have key:Xl n.decls L1 (q+4*s.sz)/\L1.vars=L.vars:=by
     rw [Kf] at hpk
     split at hpk
     ·obtain ⟨d1,d2,d3,d4,d5,d6⟩:=IV hpk
      refine ⟨hk.turn d1 d2 d3 d4 (by rw [d5]) (by rw [d6,VP]) ?_ ?_,d1⟩
      ·rw [d6];intro x hx
       rcases Kc hx with hx|rfl
       ·exact hk.nn x hx
       ·have:=Gc (v:=gI s.args 0) hk.nn;omega
      ·rw [d6];intro x hx
       rcases Kc hx with hx|rfl
       ·have:=hk.bd x hx;omega
       ·have:=G9 (v:=gI s.args 0) hk.bd hq;omega
     split at hpk
     ·exact ⟨(hk.take hpk).le om,(Ki hpk).2.1⟩
     split at hpk
     ·rename_i hop
      obtain ⟨d1,d2,d3,d4,d5,Lt,ht,d6⟩:=N8 hpk
      have hkt:=hk.take ht
      have h3:=VG hn.decls (gI L.con (gI s.args 0))
      refine ⟨hk.turn d1 d2 d3 d4 d5 ?_ ?_ ?_,d1⟩
      ·rw [d6,Ff,(Ki ht).2.2.2.2.2.2,VP]
      ·rw [d6];exact Fg _ _ _ hkt.nn
      ·rw [d6];intro x hx
       have:=Fe _ _ _ q hq hkt.bd x hx;omega
     split at hpk
     ·rename_i hop
      split at hpk
      ·cases hpk
      ·cases hks:s.kids with
       | nil=>rw [hks,QL] at hpk;cases hpk
       | cons b bs=>
        rw [hks,QL] at hpk
        unfold AQ at hpk
        cases hb:Vu n ln (UU n.decls L s.op s.num s.args 0) L.vars.length b with
        | none=>rw [hb] at hpk;cases hpk
        | some one=>
         rw [hb] at hpk
         simp only at hpk
         split at hpk
         ·cases hpk
          obtain ⟨q1,q2,q3⟩:=hf.kids hop
          have hks0:s.kids[0]? = some b:=by rw [hks];rfl
          obtain ⟨a0,ha0⟩:=Jc (xs:=Xg n.decls s.op s.num) (j:=0) om
          obtain ⟨k1,k2⟩:=E2 hk hq hf hop ha0
          have hbz:=UH hks0
          obtain ⟨⟨r1,r2,r3⟩,_⟩:=ih.2 b _ one q L.vars.length om k1 hq (by rw [k2];exact q3 0 b a0 hks0 ha0) (by rw [k2];simp) hb
          refine ⟨hk.turn rfl rfl rfl rfl (by simp only;omega) (by simp only;omega) (fun x hx=>(r3 x hx).1) (fun x hx=>?_),rfl⟩
          have:=(r3 x hx).2;omega
         ·cases hpk
     ·obtain ⟨k1,k2⟩:=LT hk hpk
      exact ⟨k1.le om,k2⟩
    split at h
    ·rename_i hd
     cases h
     refine ⟨key.1.grow om ?_,by rw [Q4,Zg hd];simp [ZC.grow,key.2]⟩
     split<;>omega
    ·rename_i hd
     cases h
     exact ⟨key.1,by rw [Q4,Z9 hd];exact key.2⟩
  refine ⟨hs,?_⟩
  intro b L O q k Xi hk hq hty hkl h
  have hsteps:∀(l:List Z4) (L L':ZC) (q:Int) (vs:LI),Y8 l<=m->Xl n.decls L q->0<=q->Wb n l L.vars=some vs->Kh n ln L l=some L'->Xl n.decls L' (q+4*Y8 l)/\L'.vars=vs:=by
   intro l
   induction l with
   | nil=>intro L L' q vs _ hk _ h1 h2;rw [Wb] at h1;rw [Kh] at h2;cases h1;cases h2;exact ⟨by simpa [Y8] using hk,rfl⟩
   | cons s r ihr=>
    intro L L' q vs hz hk hq h1 h2
    rw [Y8] at hz
    rw [Kh] at h2
    obtain ⟨L1,e1,e2⟩:=HC h2
    rw [Wb] at h1
    split at h1
    ·cases h1
    ·rename_i h0
     obtain ⟨k1,k2⟩:=hs s L L1 q om hk hq om e1
     obtain ⟨k3,k4⟩:=ihr L1 L' (q+4*s.sz) vs om k1 om (by rw [k2];exact h1) e2
     exact ⟨k3.le (by rw [Y8];omega),k4⟩
  have hbz:=b.sz_eq
  rw [Fk] at h
  obtain ⟨L1,e1,e2⟩:=HC h
  rw [Dj] at hty
  cases hv:Wb n b.steps L.vars with
  | none=>rw [hv] at hty;simp at hty
  | some vs=>
   obtain ⟨k1,k2⟩:=hsteps b.steps L L1 q vs om hk hq hv e1
   have hlen:=Ov hv
   rw [KE] at e2
   obtain ⟨L2,e3,e4⟩:=HC e2
   have k3:Xl n.decls L2 (q+4*Y8 b.steps)/\L2.vars=L1.vars:=by
    split at e3
    ·exact ⟨k1.take e3,(Ki e3).2.1⟩
    ·cases e3;exact ⟨k1,rfl⟩
   obtain ⟨rfl,_⟩:=Ro e4
   obtain ⟨g1,g2,g3,g4,g5⟩:=k3.1.len
   have hl2:L2.vars.length=vs.length:=by rw [k3.2,k2]
   refine ⟨⟨by simp [ZC.take];omega,by simp [ZC.take];omega,fun x hx=>?_⟩,⟨by simp [ZC.take];omega,by simp [ZC.take];omega,by simp [ZC.take];omega,by simp [ZC.take];omega,by simp [ZC.take];omega⟩,by simp [ZC.take];omega⟩
   have hx':x∈L2.own:=TL hx
   have:=k3.1.nn x hx'
   have:=k3.1.bd x hx'
   omega
theorem Oq {n:Zt} (hn:X0 n) {ln:LI} {s:Z4} {L L':ZC} {q:Int} (hk:Xl n.decls L q) (hq:0<=q) (hty:0<=Y0 n L.vars s) (h:TI n ln L s=some L'):Xl n.decls L' (q+4*s.sz)/\L'.vars=Q4 n L.vars s:=
 (Mw n hn ln s.sz).1 s L L' q (YX _) hk hq hty h
theorem Ib {n:Zt} (hn:X0 n) {ln:LI} {b:Z6} {L O:ZC} {q:Int} {k:Nat} (hk:Xl n.decls L q) (hq:0<=q) (hty:0<=YU n L.vars b) (hkl:k<=L.vars.length) (h:Vu n ln L k b=some O) :
  O.own.length=k/\O.tok.length=k/\(∀x∈O.own,0<=x/\x<=q+4*b.sz):=
 ((Mw n hn ln b.sz).2 b L O q k (YX _) hk hq hty hkl h).1
theorem CO {n:Zt} (hn:X0 n) {ln:LI} {s:Z4} {L L1:ZC} {q:Int} (hk:Xl n.decls L q) (hq:0<=q) (hf:At n L.vars s)
  (hpk:Kf n ln L s.op s.num s.into s.args (QL n ln L s.op s.num s.args s.kids)=some L1):Xl n.decls L1 (q+4*s.sz)/\L1.vars=L.vars:=by
 have hp:=s.sz_pos
 obtain ⟨f1,f2,f3,f4,f5⟩:=hk.len
 rw [Kf] at hpk
 split at hpk
 ·obtain ⟨d1,d2,d3,d4,d5,d6⟩:=IV hpk
  refine ⟨hk.turn d1 d2 d3 d4 (by rw [d5]) (by rw [d6,VP]) ?_ ?_,d1⟩
  ·rw [d6];intro x hx
   rcases Kc hx with hx|rfl
   ·exact hk.nn x hx
   ·have:=Gc (v:=gI s.args 0) hk.nn;omega
  ·rw [d6];intro x hx
   rcases Kc hx with hx|rfl
   ·have:=hk.bd x hx;omega
   ·have:=G9 (v:=gI s.args 0) hk.bd hq;omega
 split at hpk
 ·exact ⟨(hk.take hpk).le om,(Ki hpk).2.1⟩
 split at hpk
 ·rename_i hop
  obtain ⟨d1,d2,d3,d4,d5,Lt,ht,d6⟩:=N8 hpk
  have hkt:=hk.take ht
  have h3:=VG hn.decls (gI L.con (gI s.args 0))
  refine ⟨hk.turn d1 d2 d3 d4 d5 ?_ ?_ ?_,d1⟩
  ·rw [d6,Ff,(Ki ht).2.2.2.2.2.2,VP]
  ·rw [d6];exact Fg _ _ _ hkt.nn
  ·rw [d6];intro x hx
   have:=Fe _ _ _ q hq hkt.bd x hx;omega
 split at hpk
 ·rename_i hop
  split at hpk
  ·cases hpk
  ·cases hks:s.kids with
   | nil=>rw [hks,QL] at hpk;cases hpk
   | cons b bs=>
    rw [hks,QL] at hpk
    unfold AQ at hpk
    cases hb:Vu n ln (UU n.decls L s.op s.num s.args 0) L.vars.length b with
    | none=>rw [hb] at hpk;cases hpk
    | some one=>
     rw [hb] at hpk
     simp only at hpk
     split at hpk
     ·cases hpk
      obtain ⟨q1,q2,q3⟩:=hf.kids hop
      have hks0:s.kids[0]? = some b:=by rw [hks];rfl
      obtain ⟨a0,ha0⟩:=Jc (xs:=Xg n.decls s.op s.num) (j:=0) om
      obtain ⟨k1,k2⟩:=E2 hk hq hf hop ha0
      have hbz:=UH hks0
      obtain ⟨r1,r2,r3⟩:=Ib hn k1 hq (by rw [k2];exact q3 0 b a0 hks0 ha0) (by rw [k2];simp) hb
      refine ⟨hk.turn rfl rfl rfl rfl (by simp only;omega) (by simp only;omega) (fun x hx=>(r3 x hx).1) (fun x hx=>?_),rfl⟩
      have:=(r3 x hx).2;omega
     ·cases hpk
 ·obtain ⟨k1,k2⟩:=LT hk hpk
  exact ⟨k1.le om,k2⟩
end Go.Abs
section
namespace Go.Abs
theorem Pv {ds:List Ze} {op num:Int} {i:Nat} {m:LI} (h8:op=8) (h:(Xg ds op num)[i]? = some m):∃c,(ZQ ds num)[i]? = some c/\m=ZU ds c:=by
 rw [Xg,Z9 om,Qw] at h
 cases hc:(ZQ ds num)[i]? with
 | none=>rw [hc] at h;cases h
 | some c=>rw [hc] at h;cases h;exact ⟨c,rfl,rfl⟩
theorem Z33 {ds:List Ze} {L:ZC} {op num x c:Int} {args:LI} {i:Nat} (h8:op=8) (hx:args[0]? = some x) (hc:(ZQ ds num)[i]? = some c):UU ds L op num args i=Ax ds L x c:=by
 have h1:gI args 0=x:=by rw [gI];simp [hx]
 have h2:gI (ZQ ds num) (i:Int)=c:=by rw [gI];simp [hc]
 rw [UU,Zg h8,h1,h2]
theorem Z34 {ds:List Ze} {L:ZC} {op num:Int} {args:LI} {i:Nat} (h8:¬op=8):UU ds L op num args i=L:=by rw [UU,Z9 h8]
theorem Z38 {n:Zt} {ln:LI} {L:ZC} {op num:Int} {args:LI} {kids:List Z6} {kb:Z6} (h:kids[0]? = some kb) :
  QL n ln L op num args kids=AQ L (Vu n ln (UU n.decls L op num args 0) L.vars.length kb) fun one=>Kb n ln L op num args one (kids.drop 1) 1:=by
 cases kids with
 | nil=>simp at h
 | cons b bs=>simp at h;subst h;rw [QL];rfl
theorem Z39 {n:Zt} {ln:LI} {L one:ZC} {op num:Int} {args:LI} {kids:List Z6} {kb:Z6} {k:Nat} (h:kids[k]? = some kb) :
  Kb n ln L op num args one (kids.drop k) k=Ez one (Vu n ln (UU n.decls L op num args k) L.vars.length kb) (Kb n ln L op num args one (kids.drop (k+1)) (k+1)):=by
 rw [Y4 h,Kb]
def Az (n:Zt) (ln:LI) (L:ZC) (s:Z4):Option ZC:=
 if s.op=8/\¬Uk L ln (gI s.args 0)=true then none else QL n ln L s.op s.num s.args s.kids
theorem PN {n:Zt} {ln:LI} {L:ZC} {s:Z4} {kb:Z6} (h:¬(s.op=8/\¬Uk L ln (gI s.args 0)=true)) (hk:s.kids[0]? = some kb) :
  Az n ln L s=AQ L (Vu n ln (UU n.decls L s.op s.num s.args 0) L.vars.length kb) fun one=>Kb n ln L s.op s.num s.args one (s.kids.drop 1) 1:=by
 rw [Az,Z9 h,Z38 hk]
theorem Ja {xs:LI} {x:Int} (h:xs[0]? = some x):gI xs 0=x:=by rw [gI];simp [h]
end Go.Abs
namespace Go.Abs
theorem UB.grow {L:ZC} {t o p:Int} (h:UB L):UB (L.grow t o p):=by
 obtain ⟨f1,f2,f3,f4,f5⟩:=h
 exact ⟨by simp [ZC.grow,f1],by simp [ZC.grow,f2],by simp [ZC.grow,f3],by simp [ZC.grow,f4],by simp [ZC.grow,f5]⟩
theorem UB.arm {L:ZC} {i j:Nat} {c d:Int} (h:UB L):UB ⟨L.vars,L.own,L.par,L.con.set i c,L.fst.set j d,L.tok⟩:=by
 obtain ⟨f1,f2,f3,f4,f5⟩:=h
 exact ⟨f1,f2,by simp [f3],by simp [f4],f5⟩
end Go.Abs
namespace Go.Abs
theorem Ml {n:Zt} (hn:X0 n) {ln:LI} {L O:ZC} {q:Int} {s:Z4} {i:Nat} {kb:Z6} {m:LI} (hk:Xl n.decls L q) (hq:0<=q) (hf:At n L.vars s) (hop:s.op=7∨s.op=8)
  (_:s.kids[i]? = some kb) (harm:(Xg n.decls s.op s.num)[i]? = some m) (hbt:0<=YU n (L.vars++m) kb) (h:Vu n ln (UU n.decls L s.op s.num s.args i) L.vars.length kb=some O) :
  O.own.length=L.vars.length/\O.tok.length=L.vars.length:=by
 obtain ⟨k1,k2⟩:=E2 hk hq hf hop harm
 obtain ⟨r1,r2,_⟩:=Ib hn k1 hq (by rw [k2];exact hbt) (by rw [k2];simp) h
 exact ⟨r1,r2⟩
theorem Z67 {one two:ZC} {r:Bool} (h:¬(¬one.own=two.own∨¬one.tok=two.tok)):Ez one (some two) r=r:=Zg ⟨VE.1 fun q=>h (.inl q),VE.1 fun q=>h (.inr q)⟩
theorem Z66 {one two:ZC} {r:Bool} (h:¬one.own=two.own∨¬one.tok=two.tok):Ez one (some two) r=false:=Z9 fun q=>h.elim (fun z=>z q.1) fun z=>z q.2
theorem Z42 {L one:ZC} {f:ZC->Bool} (h:f one=true):AQ L (some one) f=some ⟨L.vars,one.own,L.par,L.con,L.fst,one.tok⟩:=Zg h
theorem MH {L one:ZC} {f:ZC->Bool} (h:f one=false):AQ L (some one) f=none:=Z9 (by rw [h];simp)
end Go.Abs
namespace Go.Abs
section
variable {n:Zt} {ln:LI} {L:ZC} {s:Z4}
abbrev KL (n:Zt) (ln:LI) (L:ZC) (s:Z4):Option ZC:=Kf n ln L s.op s.num s.into s.args (QL n ln L s.op s.num s.args s.kids)
theorem Nb {x:Int} (h:s.op=14) (hx:gI s.args 0=x):KL n ln L s=AC L ln x:=hx▸Zg h
theorem Nc {x:Int} (h:s.op=15) (hx:gI s.args 0=x):KL n ln L s=Td L x:=by rw [<-hx,KL,Kf,Z9 om,Zg h]
theorem Nf {x:Int} (h:s.op=16∨s.op=17) (hx:gI s.args 0=x):KL n ln L s=KJ n.decls L s.op x:=by rw [<-hx,KL,Kf,Z9 om,Z9 om,Zg h]
theorem Ng (h:s.op=7∨s.op=8):KL n ln L s=Az n ln L s:=by rw [KL,Kf,Z9 om,Z9 om,Z9 om,Zg h,Az]
theorem Nh (h1:¬s.op=14) (h2:¬s.op=15) (h3:¬(s.op=16∨s.op=17)) (h4:¬(s.op=7∨s.op=8)):KL n ln L s=K6 n ln L s.op s.num s.into s.args:=by
 rw [KL,Kf,Z9 h1,Z9 h2,Z9 h3,Z9 h4]
theorem RQ {v:Int} (h:¬Uk L ln v=true):AC L ln v=none:=Z9 h
theorem RS {v x:Int} (h:¬¬Uk L ln v=true) (hx:gI L.own v=x):AC L ln v=some ⟨L.vars,L.own.set v.toNat (x+1),L.par,L.con,L.fst,L.tok⟩:=by rw [AC,Zg (VE.1 h),hx]
theorem Ux (n:Zt) (ln:LI) (L:ZC) (s:Z4):TI n ln L s=KF L s.op (Y0 n L.vars s) (KL n ln L s):=Oo n ln L s
theorem Up {X:ZC} {op t:Int} (h:Xz op=true/\t≠0):KF L op t (some X)=some (X.grow t 1 (-1)):=by
 unfold KF;simp only [h.1,↓reduceIte];rw [Zg h.2]
theorem Uq {X:ZC} {op t:Int} (h:¬(Xz op=true/\t≠0)) (h2:Xz op=true):KF L op t (some X)=some (X.grow 0 0 (-1)):=by
 have ht:t=0:=VE.1 fun q=>h ⟨h2,q⟩
 subst ht
 unfold KF;simp only [h2,↓reduceIte];rfl
theorem Ur {X:ZC} {op t:Int} (h:¬Xz op=true):KF L op t (some X)=some X:=by
 unfold KF;simp only [Z9 h]
end
end Go.Abs
namespace Go.Abs
theorem Ie {n:Zt} {us:LI} {b:Z6} (h:0<=YU n us b):∃vs t,Wb n b.steps us=some vs/\YZ vs b.result=some t/\0<=t:=by
 rw [Dj] at h
 cases hv:Wb n b.steps us with
 | none=>rw [hv] at h;simp at h
 | some vs=>
  rw [hv] at h
  simp only at h
  cases ha:YZ vs b.result with
  | none=>rw [ha] at h;simp at h
  | some t=>rw [ha] at h;exact ⟨vs,t,rfl,ha,h⟩
theorem Ox {n:Zt} {us vs:LI} {s:Z4} {r:List Z4} (h:Wb n (s::r) us=some vs):0<=Y0 n us s/\Wb n r (Q4 n us s)=some vs:=by
 rw [Wb] at h
 split at h
 ·cases h
 ·exact ⟨by omega,h⟩
theorem NN (n:Zt) (us:LI) (s:Z4):us.length<=(Q4 n us s).length/\(Q4 n us s).length<=us.length+s.sz:=by
 have:=s.sz_pos
 rw [Q4];split
 ·simp only [Ym,EZ];omega
 ·omega
end Go.Abs
namespace Go.Abs
theorem Se {X L:ZC} {m:Nat} {r x:Int} (hg:gI L.vars r=x) (h:x≠0) (ht:Td L r=some X):KE m r L=Ky X m:=by rw [KE,hg,Zg h,ht];rfl
theorem Sd {L:ZC} {m:Nat} {r x:Int} (hg:gI L.vars r=x) (h:x≠0) (ht:Td L r=none):KE m r L=none:=by rw [KE,hg,Zg h,ht];rfl
theorem Ca {L:ZC} {m:Nat} {r x:Int} (hg:gI L.vars r=x) (h:¬x≠0):KE m r L=Ky L m:=by rw [KE,hg,Z9 h];rfl
end Go.Abs
namespace Go.Abs
theorem Na {ds:List Ze} {lent:LI}:∀{ps:LI} {i:Nat} {L:ZC},Xl ds L 1->Xl ds (Jp lent ps i L) 1/\(Jp lent ps i L).vars=L.vars++ps
 | [],i,L,hk=>⟨hk,by simp [Jp]⟩
 | t::r,i,L,hk=>by
  rw [Jp]
  obtain ⟨k1,k2⟩:=Na (lent:=lent) (ps:=r) (i:=i+1) (hk.grow (t:=t) (o:=if t≠0/\¬(i:Int)∈lent then 1 else 0) (p:=-1) om (by split<;>omega))
  exact ⟨k1,by rw [k2];simp [ZC.grow]⟩
theorem Z45 (ds:List Ze) (r:ZY):Xl ds (QO r) 1/\(QO r).vars=r.params:=by
 have h:Xl ds (⟨[],[],[],[],[],[]⟩:ZC) 1:=⟨⟨rfl,rfl,rfl,rfl,rfl⟩,fun j h1 h2=>by simp at h2;omega,fun j h1 h2=>by simp at h2;omega,by simp,by simp⟩
 obtain ⟨k1,k2⟩:=Na (lent:=r.lent) (ps:=r.params) (i:=0) h
 exact ⟨k1,by rw [QO,k2];rfl⟩
end Go.Abs
namespace Go.Abs
theorem H6 {n:Zt}:∀{l:List ZY},T9 n l=true->∀r∈l,¬V9 r.body<0/\YU n r.params r.body=r.result
 | [],_,r,h=>by simp at h
 | a::l,h,r,hr=>by
  rw [T9] at h
  split at h
  ·rename_i h1
   rcases YJ.1 hr with rfl|hr
   ·exact h1
   ·exact H6 h r hr
  ·cases h
theorem HI {n:Zt} (hz:UX n) (h:Wi n=true):X0 n/\∀r∈n.routines,0<=YU n r.params r.body:=by
 simp only [Wi,XN] at h
 refine ⟨GW hz h.1,fun r hr=>?_⟩
 rw [(H6 h.2 r hr).2]
 have h1:=h.1
 simp only [VU,Qt,XN] at h1
 have:=Hk h1.2.1.2.2.1 (VC r) (XS.2 ⟨r,hr,rfl⟩)
 simp only [QS,XN,decide_eq_true_eq,VC] at this
 exact (of_decide_eq_true this.2.2).1
end Go.Abs
end
section
namespace Go.Abs
theorem S3 {xs:LI} (h:Z7 xs=[]):xs=[]:=by cases xs with|nil=>rfl|cons x r=>cases h
end Go.Abs
namespace Go.Abs
theorem Lo (xss:List LI) (k:Nat):(xss.take k).flatten.length<=xss.flatten.length:=by
 conv=>rhs;rw [<-Uz k xss,List.flatten_append,Ym]
 omega
end Go.Abs
namespace Go.Abs
theorem G7 {xss:List LI} {k:Nat} {x:LI} (h:xss[k]? = some x):(xss.take (k+1)).flatten=(xss.take k).flatten++x:=by rw [Wv h,List.flatten_append];simp
theorem Ln {xss:List LI} {k:Nat} {x:LI} (h:xss[k]? = some x):(xss.take k).flatten.length+x.length<=xss.flatten.length:=by
 have:=Lo xss (k+1)
 rw [G7 h,Ym] at this
 exact this
end Go.Abs
end
section
namespace Go.Abs
theorem R8 {c:Int} {ds:List Ze} {k:Nat} {d:Ze} {r:Int × LI} (h:ds[k]? = some d) (hn:¬(c-Yw (ds.take k)>=0/\c-Yw (ds.take k)<d.cons.length))
  (hr:Ul c (ds.drop k) k (Yw (ds.take k))=r):Ul c (ds.drop (k+1)) (k+1) (Yw (ds.take (k+1)))=r:=by
 rw [Y4 h,Ul,Z9 om] at hr
 rw [Wv h,C6,<-hr];rfl
end Go.Abs
namespace Go.Abs
theorem Ra {c:Int} {ds:List Ze} {k:Nat} {d:Ze} {x:Y9} (h:ds[k]? = some d) (hn:c-Yw (ds.take k)>=0/\c-Yw (ds.take k)<d.cons.length)
  (hx:d.cons[(c-Yw (ds.take k)).toNat]? = some x):Ul c (ds.drop k) k (Yw (ds.take k))=((k:Int)+1,x.fields):=by
 rw [Y4 h,Ul,Zg om,hx];rfl
def JE (c:Int) (z:Nat) (v:Int):Prop:=v=c-z∨(c<0/\c-z < -9223372036854775808/\v=c-z+18446744073709551616)
theorem Py {c:Int} {z l:Nat} {v:Int} (h:JE c z v) (hz:z<=100) (hl:l<=3) (hc:-9223372036854775808<=c/\c<=9223372036854775807):JE c (z+l) (B1 (v-l)):=by
 unfold JE at *;rw [B1,IntKind.wrap_i64];omega
theorem R9 {c v:Int} {ds:List Ze} {k:Nat} {d:Ze} {r:Int × LI} (h:ds[k]? = some d) (ha:JE c (Yw (ds.take k)) v) (hn:¬(v>=0/\v<d.cons.length))
  (hr:Ul c (ds.drop k) k (Yw (ds.take k))=r):Ul c (ds.drop (k+1)) (k+1) (Yw (ds.take (k+1)))=r:=R8 h (by unfold JE at ha;omega) hr
theorem Rb {c v:Int} {ds:List Ze} {k:Nat} {d:Ze} {x:Y9} (h:ds[k]? = some d) (ha:JE c (Yw (ds.take k)) v) (hz:Yw (ds.take k)<=100) (hl:d.cons.length<=3) (hc:-9223372036854775808<=c)
  (hn:v>=0/\v<d.cons.length) (hx:d.cons[v.toNat]? = some x):Ul c (ds.drop k) k (Yw (ds.take k))=((k:Int)+1,x.fields):=by
 have:v=c-(Yw (ds.take k):Int):=by unfold JE at ha;omega
 subst this
 exact Ra h hn hx
def Vb (ds:List Ze) (t:Int):Ze:=if Xu ds t=true then (ds[(t-1).toNat]?).getD ⟨0,0,[]⟩ else ⟨0,0,[]⟩
end Go.Abs
namespace Go.Abs
abbrev IT (ds:List Ze) (d:Ze):Prop:=
 (((¬(0<=d.frm/\d.frm<=ds.length))∨(¬(0<=d.to_/\d.to_<=ds.length)))∨((d.cons.length:Int)>3))∨(((d.cons.length:Int)>0)/\((d.frm≠0)∨(d.to_≠0)))
theorem RG {ds:List Ze} {d:Ze} {i:Nat} (h:IT ds d):U0 ds d i=false:=by
 rw [U0]
 split
 ·rw [Z9];rintro ⟨h1,h2,h3⟩
  rcases h with ((h|h)|h)|h<;>omega
 ·split
  ·rfl
  ·rcases h with ((h|h)|h)|h
   ·rw [decide_eq_false h];rfl
   ·rw [decide_eq_false h,Bool.and_false]
   ·omega
   ·omega
theorem RH {ds:List Ze} {d:Ze} {i:Nat} (hl:0<d.cons.length) (h:UQ ds.length d.cons=false):U0 ds d i=false:=by
 rw [U0,Zg hl];split
 ·exact h
 ·rfl
theorem RI {ds:List Ze} {d:Ze} {i:Nat} (hl:d.cons.length=0) (h:TR d (ds.take i)=true):U0 ds d i=false:=by
 rw [U0,Z9 om,Zg h]
theorem RJ {ds:List Ze} {d:Ze} {i:Nat} (h1:¬IT ds d) (h2:UQ ds.length d.cons=true) (h3:d.cons.length=0->TR d (ds.take i)=false):U0 ds d i=true:=by
 rw [U0]
 have ha:0<=d.frm/\d.frm<=ds.length:=VE.1 fun q=>h1 (.inl (.inl (.inl q)))
 have hb:0<=d.to_/\d.to_<=ds.length:=VE.1 fun q=>h1 (.inl (.inl (.inr q)))
 have hc:¬(d.cons.length:Int)>3:=fun q=>h1 (.inl (.inr q))
 split
 ·rename_i hl
  have hd:¬(d.frm≠0∨d.to_≠0):=fun q=>h1 (.inr ⟨by omega,q⟩)
  rw [Zg ⟨by omega,by omega,by omega⟩];exact h2
 ·rw [Z9 (by rw [h3 om];simp),decide_eq_true ha,decide_eq_true hb];rfl
theorem HJ {ds:List Ze} {k:Nat} {d:Ze} (h:ds[k]? = some d) (hA:U0 ds d k=false) (c:Um ds (ds.drop k) k=Um ds ds 0):false=Wo ds:=by
 rw [Wo,<-c,Y4 h,Um,C7 h,hA,Z9 (by simp),Bool.and_false]
theorem Z99 {ds:List Ze} {k:Nat} {d:Ze} {r:Bool} (h:ds[k]? = some d) (hA:U0 ds d k=true) (c:Um ds (ds.drop k) k=r):Um ds (ds.drop (k+1)) (k+1)=r:=by
 rw [Y4 h,Um,C7 h,hA,Zg rfl] at c;exact c
theorem Z98 {ds:List Ze} {k:Nat} (hl:ds.length<=4) (hk:ds.length<=k) (c:Um ds (ds.drop k) k=Um ds ds 0):true=Wo ds:=by
 rw [Wo,<-c,X8 hk,decide_eq_true hl];rfl
theorem Rc {m:Nat} {c:Y9} (h:((c.fields.length:Int)>3)∨(¬(XO m c.fields=true))):K1 m c=false:=by
 rw [K1]
 rcases h with h|h
 ·rw [decide_eq_false om];rfl
 ·rw [Km.2 h,Bool.and_false]
theorem Rd {m:Nat} {c:Y9} (h:¬(((c.fields.length:Int)>3)∨(¬(XO m c.fields=true)))):K1 m c=true:=by
 rw [K1,VE.1 fun q=>h (.inr q),decide_eq_true (by have:¬(c.fields.length:Int)>3:=fun q=>h (.inl q);omega)];rfl
end Go.Abs
end
section
namespace Go.Abs
structure Wx where
 pms:LI
 lnt:LI
 res:Int
abbrev BB (f:Wx):List AV:=[Z2 f.pms,Z2 f.lnt,.i f.res]
abbrev Fb (f:Wx):AV:=.agg (BB f)
def UC (fs:List Wx):List AV:=fs.map Fb
abbrev Qo (xs:List Wx):AV:=.sl (UC xs) none
abbrev Eg (xs:List Wx) (v:Value):AV:=.sl (UC xs) (some v)
theorem Bm {xs:List Wx} {j:Nat} {x:Wx} (h:xs[j]? = some x):(UC xs)[j]? = some (Fb x):=by simp [UC,h]
@[simp] theorem C9 (xs:List Wx):(UC xs).length=xs.length:=by simp [UC]
theorem IW (xs:List Wx):∀y∈UC xs,y.leaves.length=3:=by intro y hy;simp only [UC,XS] at hy;obtain ⟨x,_,rfl⟩:=hy;rfl
theorem S7 (xs:List Wx):(Zi (UC xs)).all AV.one=true:=KG fun y hy=>by simp only [UC,XS] at hy;obtain ⟨x,_,rfl⟩:=hy;rfl
def Xy (r:ZY):Wx:=⟨r.params,r.lent,r.result⟩
def KM (m:Nat) (f:Wx):Bool:=QS m ⟨f.pms,f.res⟩&&Kk f.pms f.lnt
def Qp (m:Nat):List Wx->Bool
 | []=>true
 | f::r=>if KM m f=true then Qp m r else false
def G0:List Wx->Bool
 | []=>false
 | f::_=>decide (f.pms.length=0)&&decide (f.res=0)
def QX (ds:List Ze) (fs:List Wx):Bool:=Wo ds&&(decide (1<=fs.length/\fs.length<=4)&&(G0 fs&&Qp ds.length fs))
theorem Lg {fs:List Wx} {x:Wx} (h:fs[0]? = some x):G0 fs=(decide (x.pms.length=0)&&decide (x.res=0)):=by
 cases fs with
 | nil=>simp at h
 | cons f r=>simp at h;subst h;rfl
theorem NU (m:Nat):∀rs:List ZY,Qp m (rs.map Xy)=(QT m (rs.map VC)&&Tn rs)
 | []=>rfl
 | r::rs=>by
  simp only [U9,Qp,QT,Tn,KM,NU m rs]
  simp only [Xy,VC]
  by_cases h1:QS m { params:=r.params,result:=r.result }=true<;>by_cases h2:Kk r.params r.lent=true<;>simp [h1,h2]
theorem ML (n:Zt):VU n=(decide (n.routines.length<=4)&&QX n.decls (n.routines.map Xy)):=by
 have hf:G0 (n.routines.map Xy)=DG (n.routines.map VC):=by
  cases n.routines with
  | nil=>rfl
  | cons r rs=>rfl
 rw [VU,QX,Qt,NU,hf]
 simp only [Ap]
 cases decide (n.routines.length<=4)<;>cases Wo n.decls<;>cases decide (1<=n.routines.length/\n.routines.length<=4)<;>cases QT n.decls.length (n.routines.map VC) <;>
  cases DG (n.routines.map VC)<;>cases Tn n.routines<;>rfl
theorem EB {rs:List ZY} {j:Nat} {x:Wx} (h:(rs.map Xy)[j]? = some x):∃r,rs[j]? = some r/\x=Xy r:=by
 rw [Qw] at h
 cases hr:rs[j]? with
 | none=>rw [hr] at h;cases h
 | some r=>rw [hr] at h;cases h;exact ⟨r,rfl,rfl⟩
theorem MA {ps ls:LI} {j:Nat} {v:Int} {r:Bool} (h:ls[j]? = some v) (hg:(0<=v/\v<=(ps.length:Int)-1)/\ps[v.toNat]?≠some 0/\(∀p,(if j=0 then none else ls[j-1]?)=some p->p<v))
  (hr:Qn ps (ls.drop j) (if j=0 then none else ls[j-1]?)=r):Qn ps (ls.drop (j+1)) (if j+1=0 then none else ls[j+1-1]?)=r:=by
 rw [Y4 h,GQ hg] at hr
 rw [Z9 om,show j+1-1=j from rfl,h];exact hr
theorem GR {ps ls:LI} {j:Nat} {v:Int} {r:Bool} (h:ls[j]? = some v) (hg:¬((0<=v/\v<=(ps.length:Int)-1)/\ps[v.toNat]?≠some 0/\(∀p,(if j=0 then none else ls[j-1]?)=some p->p<v)))
  (hr:Qn ps (ls.drop j) (if j=0 then none else ls[j-1]?)=r):r=false:=by
 rw [Y4 h,E9 hg] at hr;exact hr.symm
theorem EC {m:Nat} {fs:List Wx} {k:Nat} {f:Wx} {r:Bool} (h:fs[k]? = some f) (hb:KM m f=false) (hr:Qp m (fs.drop k)=r):r=false:=by
 rw [Y4 h,Qp,hb,Z9 (by simp)] at hr;exact hr.symm
theorem Z6l {m:Nat} {fs:List Wx} {k:Nat} {f:Wx} {r:Bool} (h:fs[k]? = some f) (hb:KM m f=true) (hr:Qp m (fs.drop k)=r):Qp m (fs.drop (k+1))=r:=by
 rw [Y4 h,Qp,Zg hb] at hr;exact hr
end Go.Abs
namespace Go.Abs
section
variable {ds:List Ze} {fs:List Wx} {x:Wx}
theorem Z9d (h:((¬(Wo ds=true))∨((fs.length:Int)<1))∨((fs.length:Int)>4)):false=QX ds fs:=by
 rw [QX]
 rcases h with (h|h)|h
 ·rw [Km.2 h];rfl
 ·rw [decide_eq_false (p:=1<=fs.length/\fs.length<=4) om];simp
 ·rw [decide_eq_false (p:=1<=fs.length/\fs.length<=4) om];simp
theorem ON (hx:fs[0]? = some x) (h:((x.pms.length:Int)>0)∨x.res≠0):false=QX ds fs:=by
 rw [QX,Lg hx]
 rcases h with h|h
 ·rw [decide_eq_false (p:=x.pms.length=0) om];simp
 ·rw [decide_eq_false (p:=x.res=0) h];simp
theorem EO (h:Qp ds.length fs=false):false=QX ds fs:=by rw [QX,h];simp
theorem Z9e (h:¬(((¬(Wo ds=true))∨((fs.length:Int)<1))∨((fs.length:Int)>4))) (hx:fs[0]? = some x) (h1:¬((x.pms.length:Int)>0)) (h2:¬x.res≠0) (h3:Qp ds.length fs=true) :
  true=QX ds fs:=by
 have hv:Wo ds=true:=VE.1 fun q=>h (.inl (.inl q))
 have ha:¬(fs.length:Int)<1:=fun q=>h (.inl (.inr q))
 have hb:¬(fs.length:Int)>4:=fun q=>h (.inr q)
 rw [QX,Lg hx,hv,h3,decide_eq_true (p:=1<=fs.length/\fs.length<=4) om,decide_eq_true (p:=x.pms.length=0) om,decide_eq_true (p:=x.res=0) (VE.1 h2)];rfl
abbrev NT (m:Nat) (x:Wx):Prop:=(((x.pms.length:Int)>3)∨(¬(XO m x.pms=true)))∨(¬(0<=x.res/\x.res<=m))
theorem Z61 {m:Nat} (h:NT m x):KM m x=false:=by
 rw [KM,QS]
 rcases h with (h|h)|h
 ·rw [decide_eq_false (p:=x.pms.length<=3) om];simp
 ·rw [Km.2 h];simp
 ·rw [decide_eq_false h];simp
theorem Hb {m:Nat} (h:Kk x.pms x.lnt=false):KM m x=false:=by rw [KM,h,Bool.and_false]
theorem Z62 {m:Nat} (h:¬NT m x) (hl:Kk x.pms x.lnt=true):KM m x=true:=by
 have h1:¬(x.pms.length:Int)>3:=fun q=>h (.inl (.inl q))
 rw [KM,QS,hl,decide_eq_true (p:=x.pms.length<=3) om,VE.1 fun q=>h (.inl (.inr q)),decide_eq_true (VE.1 fun q=>h (.inr q))];rfl
end
end Go.Abs
namespace Go.Abs
abbrev XB (n:Zt):AV:=Qo (n.routines.map Xy)
end Go.Abs
end
section
namespace Go.Abs
def XP (us:LI):LI->Option LI
 | []=>some []
 | a::r=>match YZ us a with
  | none=>none
  | some t=>match XP us r with
   | none=>none
   | some ts=>some (t::ts)
theorem HF {us:LI}:∀{args ts:LI},XP us args=some ts->∀tys,XM us args tys=true↔ts=tys
 | [],ts,h,tys=>by
  rw [XP] at h;cases h
  cases tys with
  | nil=>simp [XM,UO]
  | cons t r=>simp [XM,UO]
 | a::r,ts,h,tys=>by
  rw [XP] at h
  cases ha:YZ us a with
  | none=>rw [ha] at h;cases h
  | some t=>
   rw [ha] at h
   cases hr:XP us r with
   | none=>rw [hr] at h;cases h
   | some tr=>
    rw [hr] at h;cases h
    cases tys with
    | nil=>simp [XM,UO]
    | cons t2 r2=>
     rw [XM,UO,ha]
     have:=HF hr r2
     rw [XM] at this
     by_cases he:t=t2
     ·subst he;simp [this]
     ·rw [Z9 (fun q=>he (JD q))];simp [he]
theorem I0 {us:LI}:∀{args ts:LI},XP us args=some ts->ts.length=args.length
 | [],ts,h=>by rw [XP] at h;cases h;rfl
 | a::r,ts,h=>by
  rw [XP] at h
  cases ha:YZ us a with
  | none=>rw [ha] at h;cases h
  | some t=>
   rw [ha] at h
   cases hr:XP us r with
   | none=>rw [hr] at h;cases h
   | some tr=>rw [hr] at h;cases h;simp [I0 hr]
theorem I1 {us:LI} {b t:Int}:∀{xs ts:LI},XP us xs=some ts->YZ us b=some t->XP us (xs++[b])=some (ts++[t])
 | [],ts,h,hb=>by rw [XP] at h;cases h;simp [XP,hb]
 | a::r,ts,h,hb=>by
  rw [XP] at h
  cases ha:YZ us a with
  | none=>rw [ha] at h;cases h
  | some u=>
   rw [ha] at h
   cases hr:XP us r with
   | none=>rw [hr] at h;cases h
   | some tr=>
    rw [hr] at h;cases h
    rw [Qv,XP,ha,I1 hr hb];rfl
def C1 (n:Zt) (num:Int):LI->Option Int
 | [a,b]=>if Xu n.decls a=true/\b=(Vb n.decls a).frm/\num=0 then some (Vb n.decls a).to_ else none
 | _=>none
def Xk (n:Zt) (op num:Int) (ts:LI):Option Int:=
 if op=0 then (if (-999<=num/\num<=999)/\ts.length=0 then some 0 else none)
 else if op=1∨op=2∨op=3∨op=4 then (if num=0/\ts=[0,0] then some 0 else none)
 else if op=5 then (if num=0/\ts=[0] then some 0 else none)
 else if op=11 then C1 n num ts
 else if op=6 then (if 0<=XJ n.decls num/\ts=ZU n.decls num then some (XJ n.decls num) else none)
 else if op=9 then (match YZ n.routines num with
  | none=>none
  | some r=>if ts=r.params then some r.result else none)
 else if op=10 then (match YZ n.routines num with
  | none=>none
  | some r=>if r.params.length≠0/\0<=QC n.decls r.params r.result/\ts=r.params.take (r.params.length-1) then some (QC n.decls r.params r.result) else none)
 else none
theorem Dg {n:Zt} {num:Int} {ts:LI} (h:ts.length≠2):C1 n num ts=none:=by
 match ts,h with
 | [],_=>rfl
 | [_],_=>rfl
 | [_,_],h=>simp at h
 | _::_::_::_,_=>rfl
structure B8 (n:Zt):Prop where
 result:∀r∈n.routines,0<=r.result
 params:∀r∈n.routines,∀p∈r.params,0<=p
 decl:∀d∈n.decls,d.cons.length=0->0<=d.frm/\0<=d.to_
 fields:∀c,∀f∈ZU n.decls c,0<=f
abbrev Ma (us:LI) (s:Z4):Prop:=s.into≠0/\(((s.op≠6∨s.into<1)∨s.into>us.length)∨gI us (s.into-1)=0)
theorem Z2u {us:LI} {op into:Int} (hnn:∀t∈us,0<=t) (h:¬(into≠0/\(((op≠6∨into<1)∨into>us.length)∨gI us (into-1)=0))):VW us op into=true:=by
 rw [VW]
 split
 ·rfl
 ·rename_i h0
  have h1:¬(((op≠6∨into<1)∨into>us.length)∨gI us (into-1)=0):=fun q=>h ⟨h0,q⟩
  have h2:op=6:=VE.1 fun q=>h1 (.inl (.inl (.inl q)))
  have h3:¬into<1:=fun q=>h1 (.inl (.inl (.inr q)))
  have h4:¬into>us.length:=fun q=>h1 (.inl (.inr q))
  have h5:¬gI us (into-1)=0:=fun q=>h1 (.inr q)
  obtain ⟨t,ht⟩:=Jc (xs:=us) (j:=(into-1).toNat) om
  rw [Zg h2,Tv om ht]
  rw [VJ ht] at h5
  have:=hnn t (ZZ ht)
  simp;omega
theorem Z2t {us:LI} {op into:Int} (h:into≠0/\(((op≠6∨into<1)∨into>us.length)∨gI us (into-1)=0)):VW us op into=false:=by
 obtain ⟨h0,h⟩:=h
 rw [VW,Z9 h0]
 split
 ·rename_i h6
  cases ha:YZ us (into-1) with
  | none=>rfl
  | some t=>
   obtain ⟨a1,a2⟩:=JO ha
   rcases h with ((h|h)|h)|h
   ·exact absurd h6 h
   ·omega
   ·omega
   ·rw [VJ a2] at h;subst h;rfl
 ·rfl
theorem Z8o {n:Zt} {us:LI} {s:Z4} (h:Ma us s):Y0 n us s=-1:=by
 rw [AY,Zg (.inr (.inl (by rw [Z2t h];simp)))]
end Go.Abs
namespace Go.Abs
theorem Z2v {α:Type} {c:Prop} [Decidable c] {v:α}:(if c then some v else none).isSome=decide c:=by split<;>simp_all
theorem Z6n {n:Zt} (hty:B8 n) {op num:Int} {ts:LI} {x:Int} (h:Xk n op num ts=some x):0<=x:=by
 unfold Xk at h
 split at h
 ·split at h<;>cases h;exact Int.le_refl 0
 split at h
 ·split at h<;>cases h;exact Int.le_refl 0
 split at h
 ·split at h<;>cases h;exact Int.le_refl 0
 split at h
 ·rcases ts with _|⟨a,_|⟨b,_|⟨c,r⟩⟩⟩
  ·cases h
  ·cases h
  ·rw [C1] at h
   split at h
   ·rename_i hq
    cases h
    rw [Vb,Zg hq.1]
    have hA:=hq.1
    simp only [Xu,XN,decide_eq_true_eq] at hA
    cases hd:n.decls[(a-1).toNat]? with
    | none=>rw [hd] at hA;simp at hA
    | some d=>
     rw [hd] at hA
     exact (hty.decl d (ZZ hd) (by simpa using hA.2)).2
   ·cases h
  ·cases h
 split at h
 ·split at h
  ·rename_i hq;cases h;exact hq.1
  ·cases h
 split at h
 ·cases ha:YZ n.routines num with
  | none=>rw [ha] at h;cases h
  | some r=>
   rw [ha] at h
   simp only at h
   split at h
   ·cases h;exact hty.result r (ZZ (JO ha).2)
   ·cases h
 split at h
 ·cases ha:YZ n.routines num with
  | none=>rw [ha] at h;cases h
  | some r=>
   rw [ha] at h
   simp only at h
   split at h
   ·rename_i hq;cases h;exact hq.2.1
   ·cases h
 ·cases h
def QV (n:Zt) (us:LI) (s:Z4) (ts:LI):Int:=
 if Yl s.op=true then (match ts with
  | [t]=>if t≠0/\s.num=0/\s.kids.length=0/\¬((s.op=16∨s.op=17)/\Xu n.decls t=true) then 0 else -1
  | _=>-1)
 else if s.op=7 then (if ts=[0]/\s.num=0 then UI n us s.op s.num s.kids else -1)
 else if s.op=8 then (if ts=[s.num] then UI n us s.op s.num s.kids else -1)
 else if 0<s.kids.length∨(s.op=10/\0<(((YZ n.routines s.num).map (·.lent)).getD []).length) then -1
 else (Xk n s.op s.num ts).getD (-1)
theorem Mc {p q:Prop} [Decidable p] [Decidable q] {a b:Int} (h:p↔q):ite p a b=ite q a b:=by
 by_cases hp:p
 ·rw [Zg hp,Zg (h.1 hp)]
 ·rw [Z9 hp,Z9 (fun z=>hp (h.2 z))]
theorem Ak {n:Zt} {us:LI} {s:Z4} {ts:LI} (hnn:∀t∈us,0<=t) (hts:XP us s.args=some ts) (hi:¬Ma us s):Y0 n us s=QV n us s ts:=by
 have hv:=Z2u hnn hi
 have ht:=HF hts
 have hl:=I0 hts
 have hfirst:((s.num≠0/\¬V5 s.op=true)∨¬VW us s.op s.into=true∨(0<s.kids.length/\s.op≠7/\s.op≠8))↔((s.num≠0/\¬V5 s.op=true)∨(0<s.kids.length/\s.op≠7/\s.op≠8)):=by
  rw [hv];simp
 rw [AY,Mc hfirst]
 unfold QV
 by_cases hc:Yl s.op=true
 ·have hop:14<=s.op/\s.op<=17:=by simpa [Yl] using hc
  have hnum:V5 s.op=false:=by simp [V5];omega
  rw [Zg hc]
  by_cases hb:s.num≠0∨0<s.kids.length
  ·rw [Zg (by rcases hb with hb|hb;exact .inl ⟨hb,by rw [hnum];simp⟩;exact .inr ⟨hb,by omega,by omega⟩)]
   split
   ·rw [Z9];rintro ⟨h1,h2,h3,h4⟩;omega
   ·rfl
  ·rw [Z9 (by rintro (⟨h1,_⟩|⟨h1,_⟩)<;>exact hb (by first|exact .inl h1|exact .inr h1)),Z9 om,Z9 om,Z9 om,Z9 om,Z9 om,Z9 om,Z9 om,Z9 om,Zg om]
   have Zd:s.num=0:=VE.1 fun q=>hb (.inl q)
   have ZL:s.kids.length=0:=by have:¬0<s.kids.length:=fun q=>hb (.inr q);omega
   rcases he:s.args with _|⟨a,_|⟨b,r⟩⟩
   ·rw [he] at hts;rw [XP] at hts;cases hts;rfl
   ·rw [he] at hts
    rw [XP] at hts
    cases ha:YZ us a with
    | none=>rw [ha] at hts;cases hts
    | some t=>
     rw [ha,XP] at hts;cases hts
     rw [Tf,ha]
     simp only
     by_cases ht0:t=0
     ·rw [Zg ht0,Z9 (fun q=>q.1 ht0)]
     ·rw [Z9 ht0]
      by_cases hA:Xu n.decls t=true
      ·by_cases h16:s.op=16∨s.op=17
       ·rw [Zg ⟨by omega,hA⟩,Z9 (fun q=>q.2.2.2 ⟨h16,hA⟩)]
       ·rw [Z9 (by rintro ⟨q,_⟩;omega),Zg ⟨ht0,Zd,ZL,fun q=>h16 q.1⟩]
      ·rw [Z9 (fun q=>hA q.2),Zg ⟨ht0,Zd,ZL,fun q=>hA q.2⟩]
   ·rw [he] at hl
    rw [show Tf n.decls us s.op (a::b::r)=-1 from rfl]
    match ts,hl with
    | [t],hl=>simp at hl
    | [],hl=>simp at hl
    | _::_::_,_=>rfl
 have hop:¬(14<=s.op/\s.op<=17):=by simpa [Yl] using hc
 by_cases h7:s.op=7
 ·have hnum:V5 s.op=false:=by simp [V5];omega
  conv=>rhs;rw [Z9 hc,Zg h7]
  by_cases hb:s.num=0
  ·rw [Z9 (fun q=>q.elim (fun z=>z.1 hb) fun z=>z.2.1 h7),Z9 om,Z9 om,Z9 om,Z9 om,Zg h7]
   by_cases hq:ts=[0]
   ·rw [Zg ((ht _).2 hq),Zg ⟨hq,hb⟩]
   ·rw [Z9 (fun q=>hq ((ht _).1 q)),Z9 (fun q=>hq q.1)]
  ·rw [Zg (.inl ⟨hb,by rw [hnum];simp⟩),Z9 (fun q=>hb q.2)]
 by_cases h8:s.op=8
 ·have hnum:V5 s.op=true:=by simp [V5,h8]
  conv=>rhs;rw [Z9 hc,Z9 h7,Zg h8]
  rw [Z9 (fun q=>q.elim (fun z=>z.2 hnum) fun z=>z.2.2 h8),Z9 om,Z9 om,Z9 om,Z9 om,Z9 h7,Zg h8]
  by_cases hq:ts=[s.num]
  ·rw [Zg ((ht _).2 hq),Zg hq]
  ·rw [Z9 (fun q=>hq ((ht _).1 q)),Z9 hq]
 conv=>rhs;rw [Z9 hc,Z9 h7,Z9 h8]
 by_cases hk:0<s.kids.length
 ·rw [Zg (.inr ⟨hk,h7,h8⟩),Zg (.inl hk)]
 by_cases hlent:s.op=10/\0<(((YZ n.routines s.num).map (·.lent)).getD []).length
 ·conv=>rhs;rw [Zg (.inr hlent)]
  have hnum:V5 s.op=true:=by simp [V5,hlent.1]
  have h10:=hlent.1
  rw [Z9 (fun q=>q.elim (fun z=>z.2 hnum) fun z=>hk z.1),Z9 om,Z9 om,Z9 om,Z9 om,Z9 h7,Z9 h8,Zg (.inr h10),UM]
  cases ha:YZ n.routines s.num with
  | none=>rfl
  | some r=>
   have h2:=hlent.2
   rw [ha] at h2
   simp only [Aq,Option.getD_some] at h2
   simp only
   rw [QQ,Z9 om,Zg (.inr (.inl h2))]
 conv=>rhs;rw [Z9 (fun q=>Or.elim q hk hlent)]
 have sf:∀{X:Option Int},Xk n s.op s.num ts=X->Y0 n us s=X.getD (-1)->Y0 n us s=(Xk n s.op s.num ts).getD (-1):=fun a b=>by rw [a];exact b
 have hL:=AY n us s
 rw [Mc hfirst] at hL
 rw [<-hL]
 by_cases hnb:s.num≠0/\¬V5 s.op=true
 ·have hnn2:¬(s.op=0∨(s.op=6∨(s.op=8∨(s.op=9∨s.op=10)))):=fun q=>hnb.2 (by simpa [V5] using q)
  refine sf (X:=none) ?_ (by rw [hL,Zg (.inl hnb)];rfl)
  unfold Xk
  rw [Z9 om]
  split
  ·rw [Z9 (fun q=>hnb.1 q.1)]
  split
  ·rw [Z9 (fun q=>hnb.1 q.1)]
  split
  ·by_cases hl2:ts.length=2
   ·match ts,hl2 with
    | [a,b],_=>exact Z9 fun q=>hnb.1 q.2.2
   ·exact Dg hl2
  rw [Z9 om,Z9 om,Z9 om]
 rw [Z9 (fun q=>q.elim hnb fun z=>hk z.1)] at hL
 have hnumf:¬(s.op=0∨(s.op=6∨(s.op=8∨(s.op=9∨s.op=10))))->s.num=0:=fun q=>VE.1 fun z=>hnb ⟨z,fun y=>q (by simpa [V5] using y)⟩
 by_cases h0:s.op=0
 ·rw [Zg h0] at hL
  by_cases hq:s.args.length=0/\(-999<=s.num/\s.num<=999)
  ·exact sf (by unfold Xk;rw [Zg h0,Zg ⟨hq.2,by omega⟩]) (by rw [hL,Zg hq];rfl)
  ·exact sf (by unfold Xk;rw [Zg h0,Z9 (fun q=>hq ⟨by omega,q.1⟩)]) (by rw [hL,Z9 hq];rfl)
 rw [Z9 h0] at hL
 by_cases h1:s.op=1∨s.op=2∨s.op=3∨s.op=4
 ·rw [Zg h1] at hL
  by_cases hq:ts=[0,0]
  ·exact sf (by unfold Xk;rw [Z9 h0,Zg h1,Zg ⟨hnumf om,hq⟩]) (by rw [hL,Zg ((ht _).2 hq)];rfl)
  ·exact sf (by unfold Xk;rw [Z9 h0,Zg h1,Z9 (fun q=>hq q.2)]) (by rw [hL,Z9 (fun q=>hq ((ht _).1 q))];rfl)
 rw [Z9 h1] at hL
 by_cases h5:s.op=5
 ·rw [Zg h5] at hL
  by_cases hq:ts=[0]
  ·exact sf (by unfold Xk;rw [Z9 h0,Z9 h1,Zg h5,Zg ⟨hnumf om,hq⟩]) (by rw [hL,Zg ((ht _).2 hq)];rfl)
  ·exact sf (by unfold Xk;rw [Z9 h0,Z9 h1,Zg h5,Z9 (fun q=>hq q.2)]) (by rw [hL,Z9 (fun q=>hq ((ht _).1 q))];rfl)
 rw [Z9 h5] at hL
 by_cases h6:s.op=6
 ·rw [Zg h6] at hL
  have hct:0<XJ n.decls s.num↔0<=XJ n.decls s.num:=by
   rcases Int.lt_or_le (XJ n.decls s.num) 1 with q|q
   ·have:=(Dt q).2;omega
   ·omega
  by_cases hq:0<=XJ n.decls s.num/\ts=ZU n.decls s.num
  ·exact sf (by unfold Xk;rw [Z9 h0,Z9 h1,Z9 h5,Z9 om,Zg h6,Zg hq]) (by rw [hL,Zg ⟨hct.2 hq.1,(ht _).2 hq.2⟩];rfl)
  ·exact sf (by unfold Xk;rw [Z9 h0,Z9 h1,Z9 h5,Z9 om,Zg h6,Z9 hq]) (by rw [hL,Z9 (fun q=>hq ⟨hct.1 q.1,(ht _).1 q.2⟩)];rfl)
 rw [Z9 h6,Z9 h7,Z9 h8] at hL
 by_cases h9:s.op=9
 ·rw [Zg (.inl h9),UM] at hL
  cases ha:YZ n.routines s.num with
  | none=>exact sf (by unfold Xk;rw [Z9 h0,Z9 h1,Z9 h5,Z9 om,Z9 h6,Zg h9,ha]) (by rw [hL,ha];rfl)
  | some r=>
   rw [ha] at hL
   simp only at hL
   rw [QQ,Zg h9] at hL
   have hF:∀{X:Option Int},(if ts=r.params then some r.result else none)=X->Xk n s.op s.num ts=X:=fun q=>by
    unfold Xk;rw [Z9 h0,Z9 h1,Z9 h5,Z9 om,Z9 h6,Zg h9,ha];exact q
   by_cases hq:ts=r.params
   ·exact sf (hF (Zg hq)) (by rw [hL,Zg ((ht _).2 hq)];rfl)
   ·exact sf (hF (Z9 hq)) (by rw [hL,Z9 (fun q=>hq ((ht _).1 q))];rfl)
 by_cases h10:s.op=10
 ·rw [Zg (.inr h10),UM] at hL
  cases ha:YZ n.routines s.num with
  | none=>exact sf (by unfold Xk;rw [Z9 h0,Z9 h1,Z9 h5,Z9 om,Z9 h6,Z9 h9,Zg h10,ha]) (by rw [hL,ha];rfl)
  | some r=>
   rw [ha] at hL hlent
   simp only [Aq,Option.getD_some] at hL hlent
   rw [QQ,Z9 h9] at hL
   have hF:∀{X:Option Int},(if r.params.length≠0/\0<=QC n.decls r.params r.result/\ts=r.params.take (r.params.length-1) then some (QC n.decls r.params r.result) else none)=X->Xk n s.op s.num ts=X:=fun q=>by
    unfold Xk;rw [Z9 h0,Z9 h1,Z9 h5,Z9 om,Z9 h6,Z9 h9,Zg h10,ha];exact q
   by_cases hp:r.params.length=0
   ·exact sf (hF (Z9 fun q=>q.1 hp)) (by rw [hL,Zg (.inl hp)];rfl)
   by_cases hq:ts=r.params.take (r.params.length-1)
   ·rw [Z9 (fun z=>z.elim hp fun z=>z.elim (fun z=>hlent ⟨h10,z⟩) fun z=>z ((ht _).2 hq))] at hL
    by_cases har:0<=QC n.decls r.params r.result
    ·exact sf (hF (Zg ⟨hp,har,hq⟩)) hL
    ·refine sf (hF (Z9 fun q=>har q.2.1)) ?_
     have key:∀(l:List Ze) (i:Nat) (f t:Int),¬0<=Qf f t l i->Qf f t l i=-1:=by
      intro l
      induction l with
      | nil=>intro i f t _;rfl
      | cons d r ih=>
       intro i f t hn
       rw [Qf] at hn ⊢
       split
       ·rename_i hh;rw [Zg hh] at hn;omega
       ·rename_i hh;rw [Z9 hh] at hn;exact ih _ _ _ hn
     exact hL.trans (key _ _ _ _ har)
   ·exact sf (hF (Z9 fun q=>hq q.2.2)) (by rw [hL,Zg (.inr (.inr fun q=>hq ((ht _).1 q)))];rfl)
 rw [Z9 om] at hL
 by_cases h11:s.op=11
 ·rw [Zg h11] at hL
  have hn0:=hnumf om
  have hF:∀{X:Option Int},C1 n s.num ts=X->Xk n s.op s.num ts=X:=fun q=>by
   unfold Xk;rw [Z9 h0,Z9 h1,Z9 h5,Zg h11];exact q
  rcases he:s.args with _|⟨a,_|⟨b,_|⟨c,r⟩⟩⟩
  ·rw [he] at hts hL;rw [XP] at hts;cases hts;exact sf (hF rfl) hL
  ·rw [he] at hl hL
   exact sf (hF (Dg (by simp at hl;omega))) hL
  ·rw [he] at hts hL
   rw [XP] at hts
   cases ha:YZ us a with
   | none=>rw [ha] at hts;cases hts
   | some t=>
    rw [ha,XP] at hts
    cases hb:YZ us b with
    | none=>rw [hb] at hts;cases hts
    | some t2=>
     rw [hb,XP] at hts;cases hts
     rw [TP,ha] at hL
     simp only at hL
     by_cases hA:Xu n.decls t=true
     ·rw [Zg hA] at hL
      have hA2:=hA
      simp only [Xu,XN,decide_eq_true_eq] at hA2
      cases hd:n.decls[(t-1).toNat]? with
      | none=>rw [hd] at hA2;simp at hA2
      | some d=>
       rw [hd] at hL
       simp only at hL
       have hD:Vb n.decls t=d:=by rw [Vb,Zg hA,hd];rfl
       have h2:=HF (us:=us) (args:=[b]) (ts:=[t2]) (by rw [XP,hb,XP]) [d.frm]
       by_cases hq:t2=d.frm
       ·exact sf (hF (Zg ⟨hA,by rw [hD];exact hq,hn0⟩)) (by rw [hL,Zg (h2.2 (by rw [hq])),hD];rfl)
       ·exact sf (hF (Z9 fun q=>hq (by rw [hD] at q;exact q.2.1))) (by rw [hL,Z9 (fun q=>hq (by simpa using h2.1 q))];rfl)
     ·exact sf (hF (Z9 fun q=>hA q.1)) (by rw [hL,Z9 hA];rfl)
  ·rw [he] at hl hL
   exact sf (hF (Dg (by simp at hl;omega))) hL
 rw [Z9 h11,Z9 om] at hL
 exact sf (X:=none) (by unfold Xk;rw [Z9 h0,Z9 h1,Z9 h5,Z9 h11,Z9 h6,Z9 h9,Z9 h10]) hL
end Go.Abs
namespace Go.Abs
theorem MQ:∀(n:Nat) (f:Int) (k:Nat) (x:Int),(WW f n)[k]? = some x->x=f+k/\k<n
 | 0,f,k,x,h=>by simp [WW] at h
 | n+1,f,k,x,h=>by
  rw [WW] at h
  cases k with
  | zero=>simp at h;subst h;exact ⟨by omega,by omega⟩
  | succ k=>have:=MQ n (f+1) k x (by simpa using h);exact ⟨by omega,by omega⟩
theorem Rf {ds:List Ze} (hd:Wd ds) {t:Int} {k:Nat} {x:Int} (h:(ZQ ds t)[k]? = some x):0<=x/\x<=100:=by
 rw [ZQ] at h
 split at h
 ·rename_i ht
  obtain ⟨d,hd1⟩:=Jc (xs:=ds) (j:=(t-1).toNat) om
  rw [hd1] at h
  have:=MQ _ _ _ _ h
  have h3:=hd.cons_at hd1
  have h4:=(hd.take (t-1).toNat).sum
  simp only [Aq,Option.getD_some] at this
  omega
 ·simp at h
end Go.Abs
namespace Go.Abs
section
variable {S:Option Int} {c:Prop} [Decidable c] {v:Int} {b:Bool}
theorem Ae (h:S=if c then some v else none) (hb:b=true↔c):b=S.isSome:=by rw [h,Z2v,X7,hb,decide_eq_true_iff]
theorem Af (h:S=if c then some v else none):∀x,S=some x->v=x:=by
 intro x hx;rw [h] at hx;split at hx
 ·exact JD hx
 ·cases hx
theorem CV (h:S=none):false=S.isSome:=by rw [h];rfl
theorem CW (h:S=none):∀x,S=some x->v=x:=by intro x hx;rw [h] at hx;cases hx
end
section
variable {n:Zt} {op num:Int} {ts:LI}
theorem sf0 (h:op=0):Xk n op num ts=if (-999<=num/\num<=999)/\ts.length=0 then some 0 else none:=by unfold Xk;rw [Zg h]
theorem sf1 (h:op=1∨op=2∨op=3∨op=4):Xk n op num ts=if num=0/\ts=[0,0] then some 0 else none:=by unfold Xk;rw [Z9 om,Zg h]
theorem sf5 (h:op=5):Xk n op num ts=if num=0/\ts=[0] then some 0 else none:=by unfold Xk;rw [Z9 om,Z9 om,Zg h]
theorem NS (h:op=11):Xk n op num ts=C1 n num ts:=by unfold Xk;rw [Z9 om,Z9 om,Z9 om,Zg h]
theorem Z6i (h:op=11) (hl:(ts.length:Int)≠2):Xk n op num ts=none:=(NS h).trans (Dg om)
theorem Hg (h:op=11) {a b:Int} (hl:¬(ts.length:Int)≠2) (ha:ts[0]? = some a) (hb:ts[1]? = some b) :
  Xk n op num ts=if Xu n.decls a=true/\b=(Vb n.decls a).frm/\num=0 then some (Vb n.decls a).to_ else none:=by
 rw [NS h]
 match ts,hl,ha,hb with
 | [x,y],_,ha,hb=>simp at ha hb;subst ha;subst hb;rfl
 | [],hl,_,_=>simp at hl
 | [_],hl,_,_=>simp at hl
 | _::_::_::_,hl,_,_=>simp at hl;omega
theorem Z6h (h:op=11) {a:Int} (hl:¬(ts.length:Int)≠2) (ha:ts[0]? = some a) (hn:¬Xu n.decls a=true):Xk n op num ts=none:=by
 obtain ⟨b,hb⟩:=Jc (xs:=ts) (j:=1) om
 rw [Hg h hl ha hb,Z9 fun q=>hn q.1]
theorem sf6 (h:op=6):Xk n op num ts=if 0<=XJ n.decls num/\ts=ZU n.decls num then some (XJ n.decls num) else none:=by
 unfold Xk;rw [Z9 om,Z9 om,Z9 om,Z9 om,Zg h]
theorem Z6j (h:op=9∨op=10) (hr:num<0∨num>=(((n.routines.map Xy).length:Nat):Int)):Xk n op num ts=none:=by
 have ha:YZ n.routines num=none:=Qg (by simp at hr;omega)
 unfold Xk
 rw [Z9 om,Z9 om,Z9 om,Z9 om,Z9 om]
 rcases h with h|h
 ·rw [Zg h,ha]
 ·rw [Z9 om,Zg h,ha]
theorem sf9 (h:op=9) {x:Wx} (hr:¬(num<0∨num>=(((n.routines.map Xy).length:Nat):Int))) (hx:(n.routines.map Xy)[num.toNat]? = some x) :
  Xk n op num ts=if ts=x.pms then some x.res else none:=by
 obtain ⟨r,h1,rfl⟩:=EB hx
 have ha:YZ n.routines num=some r:=Tv (by simp at hr;omega) h1
 unfold Xk
 rw [Z9 om,Z9 om,Z9 om,Z9 om,Z9 om,Zg h,ha];rfl
theorem Z6g (h:op=10) {x:Wx} (hr:¬(num<0∨num>=(((n.routines.map Xy).length:Nat):Int))) (hx:(n.routines.map Xy)[num.toNat]? = some x) (hp:(x.pms.length:Int)-1<0) :
  Xk n op num ts=none:=by
 obtain ⟨r,h1,rfl⟩:=EB hx
 have ha:YZ n.routines num=some r:=Tv (by simp at hr;omega) h1
 have hp':r.params.length=0:=by simp only [Xy] at hp;omega
 unfold Xk
 rw [Z9 om,Z9 om,Z9 om,Z9 om,Z9 om,Z9 om,Zg h,ha]
 exact Z9 fun q=>q.1 hp'
theorem Z6f (h:op=10) {x:Wx} {l:Int} (hr:¬(num<0∨num>=(((n.routines.map Xy).length:Nat):Int))) (hx:(n.routines.map Xy)[num.toNat]? = some x) (hp:¬(x.pms.length:Int)-1<0)
  (hl:x.pms[((x.pms.length:Int)-1).toNat]? = some l) :
  Xk n op num ts=if 0<=VF n.decls l x.res/\ts=x.pms.take ((x.pms.length:Int)-1).toNat then some (VF n.decls l x.res) else none:=by
 obtain ⟨r,h1,rfl⟩:=EB hx
 have ha:YZ n.routines num=some r:=Tv (by simp at hr;omega) h1
 simp only [Xy] at hp hl ⊢
 have hq:((r.params.length:Int)-1).toNat=r.params.length-1:=by omega
 have ht:r.params.take ((r.params.length:Int)-1).toNat=r.params.take (r.params.length-1):=Yj (fun k=>r.params.take k) hq
 have hl':r.params[r.params.length-1]? = some l:=by rw [<-hl];exact Yj (fun k=>r.params[k]?) hq.symm
 have hlast:QC n.decls r.params r.result=VF n.decls l r.result:=by rw [QC,LR hl']
 unfold Xk
 rw [Z9 om,Z9 om,Z9 om,Z9 om,Z9 om,Z9 om,Zg h,ha]
 simp only [hlast]
 by_cases hc:0<=VF n.decls l r.result/\ts=r.params.take (r.params.length-1)
 ·rw [Zg ⟨by omega,hc⟩]
  exact (Zg ⟨hc.1,hc.2.trans ht.symm⟩).symm
 ·rw [Z9 fun q=>hc q.2]
  exact (Z9 (fun q=>hc ⟨q.1,q.2.trans ht⟩)).symm
theorem sfd (h0:¬op=0) (h1:¬(op=1∨op=2∨op=3∨op=4)) (h5:¬op=5) (h11:¬op=11) (h6:¬op=6) (h9:¬(op=9∨op=10)):Xk n op num ts=none:=by
 unfold Xk;rw [Z9 h0,Z9 h1,Z9 h5,Z9 h11,Z9 h6,Z9 om,Z9 om]
end
end Go.Abs
end
namespace Go.Abs
mutual
def Z4.rng:Z4->Prop
 | .mk _ num _ _ kids=>(-9223372036854775808<=num/\num<=9223372036854775807)/\Tw kids
def Z6.rng:Z6->Prop
 | .mk steps _=>Q7 steps
def Q7:List Z4->Prop
 | []=>True
 | s::r=>s.rng/\Q7 r
def Tw:List Z6->Prop
 | []=>True
 | b::r=>b.rng/\Tw r
end
theorem Z4.rng_eq (s:Z4):s.rng=((-9223372036854775808<=s.num/\s.num<=9223372036854775807)/\Tw s.kids):=by cases s;rw [Z4.rng];rfl
theorem Z6.rng_eq (b:Z6):b.rng=Q7 b.steps:=by cases b;rw [Z6.rng];rfl
theorem Og:∀{xs:List Z4} {k:Nat} {s:Z4},Q7 xs->xs[k]? = some s->s.rng
 | [],k,s,_,h=>by simp at h
 | x::r,0,s,hr,h=>by rw [Q7] at hr;simp at h;subst h;exact hr.1
 | x::r,k+1,s,hr,h=>by rw [Q7] at hr;exact Og (k:=k) hr.2 (by simpa using h)
theorem If:∀{xs:List Z6} {k:Nat} {b:Z6},Tw xs->xs[k]? = some b->b.rng
 | [],k,s,_,h=>by simp at h
 | x::r,0,s,hr,h=>by rw [Tw] at hr;simp at h;subst h;exact hr.1
 | x::r,k+1,s,hr,h=>by rw [Tw] at hr;exact If (k:=k) hr.2 (by simpa using h)
theorem HG {us:LI}:∀{args:LI},XP us args=none->∀tys,XM us args tys=false
 | [],h,tys=>by rw [XP] at h;cases h
 | a::r,h,tys=>by
  cases tys with
  | nil=>simp [XM,UO]
  | cons t ts=>
   rw [XP] at h
   rw [XM,UO]
   cases ha:YZ us a with
   | none=>simp
   | some u=>
    rw [ha] at h
    cases hr:XP us r with
    | none=>
     have:=HG hr ts
     rw [XM] at this
     by_cases he:u=t
     ·subst he;simpa using this
     ·rw [Z9 (fun q=>he (JD q))]
    | some tr=>rw [hr] at h;cases h
theorem Z8n {n:Zt} {us:LI} {s:Z4} (h:XP us s.args=none):Y0 n us s=-1:=by
 have ht:=HG h
 rw [AY]
 split
 ·rfl
 split
 ·rw [Z9];rintro ⟨q,_⟩
  have:s.args=[]:=List.length_eq_zero_iff.1 q
  rw [this,XP] at h;cases h
 split
 ·rw [Z9 (by rw [ht];simp)]
 split
 ·rw [Z9 (by rw [ht];simp)]
 split
 ·rw [Z9 (by rw [ht];simp)]
 split
 ·rw [Z9 (by rw [ht];simp)]
 split
 ·rw [Z9 (by rw [ht];simp)]
 split
 ·rw [UM]
  cases YZ n.routines s.num with
  | none=>rfl
  | some r=>
   simp only
   rw [QQ]
   split
   ·rw [Z9 (by rw [ht];simp)]
   ·rw [Zg (.inr (.inr (by rw [ht];simp)))]
 split
 ·match hA:s.args with
  | []=>rfl
  | [_]=>rfl
  | [a,b]=>
   rw [TP]
   rw [hA,XP] at h
   cases ha:YZ us a with
   | none=>rfl
   | some t=>
    rw [ha] at h
    simp only at h ⊢
    split
    ·cases n.decls[(t-1).toNat]? with
     | none=>rfl
     | some d=>
      simp only
      rw [Z9]
      cases hb:XP us [b] with
      | none=>rw [HG hb];simp
      | some tr=>rw [hb] at h;cases h
    ·rfl
  | _::_::_::_=>rfl
 split
 ·match hA:s.args with
  | []=>rfl
  | [a]=>
   rw [Tf]
   rw [hA,XP] at h
   cases ha:YZ us a with
   | none=>rfl
   | some t=>rw [ha,XP] at h;cases h
  | _::_::_=>rfl
 ·rfl
theorem HZ {us:LI} {a:Int}:∀{xs:LI} {k:Nat},xs[k]? = some a->YZ us a=none->XP us xs=none
 | [],k,h,_=>by simp at h
 | x::r,0,h,ha=>by simp at h;subst h;rw [XP,ha]
 | x::r,k+1,h,ha=>by
  have:=HZ (xs:=r) (k:=k) (by simpa using h) ha
  rw [XP]
  cases YZ us x with
  | none=>rfl
  | some t=>simp only [this]
theorem Z3b {n:Zt} {us:LI} {ks:List Z6} {ms:List LI} (h:0<ks.length) (t:Int) :
  XV n us (ks.drop 0) (ms.drop 0) (decide (0=0)) t=XV n us ks ms true 0:=by
 cases ks with
 | nil=>simp at h
 | cons b bs=>
  cases ms with
  | nil=>rw [K0,K0,XV,XV]
  | cons m r=>
   simp only [K0,decide_true]
   rw [XV,XV];simp
theorem Ih {b:Z6}:∀{ks:List Z6} {k:Nat},ks[k]? = some b->b.sz<=YE ks
 | [],k,h=>by simp at h
 | x::r,0,h=>by simp at h;subst h;rw [YE];omega
 | x::r,k+1,h=>by have:=Ih (ks:=r) (k:=k) (by simpa using h);rw [YE];omega
theorem D4 (us m:LI):[us,m].flatten=us++m:=by simp
theorem Ls {xs:LI} {i:Int} (h:i.toNat<xs.length):xs[i.toNat]? = some (gI xs i):=by rw [gI,JA h];rfl
theorem DL {xs:LI} (h:0<xs.length):xs[0]? = some (gI xs 0):=Ls (i:=0) h
def Q5 (n:Zt) (num:Int):Wx:=((n.routines.map Xy)[num.toNat]?).getD ⟨[],[],0⟩
theorem Z6k {n:Zt} {i:Int} (h:i.toNat<(n.routines.map Xy).length):(n.routines.map Xy)[i.toNat]? = some (Q5 n i):=by rw [Q5,JA h];rfl
theorem MK {us m:LI} (h1:∀t∈us,0<=t) (h2:∀t∈m,0<=t):∀t∈us++m,0<=t:=fun t h=>(Xe.1 h).elim (h1 t) (h2 t)
theorem JN {us:LI} {args ts:LI} {k:Nat} (h:XP us (args.take k)=some ts) (hk:args.length<=k):XP us args=some ts:=by
 rw [Va hk] at h;exact h
theorem Pq {us:LI} {args ts:LI} {k:Nat} {a t:Int} (h:XP us (args.take k)=some ts) (ha:args[k]? = some a) (ht:YZ us a=some t):XP us (args.take (k+1))=some (ts++[t]):=by
 rw [Wv ha];exact I1 h ht
theorem MU {ts:LI} (h:(ts.length:Int)=1):ts=[gI ts 0]:=by
 match ts,h with
 | [a],_=>rfl
section
variable {n:Zt} {us ts:LI} {s:Z4}
theorem Ji {p1 p2 p3 p4 p5:Prop}:(p1/\(p2∨(p3∨(p4∨p5))))↔(p1/\(((p2∨p3)∨p4)∨p5)):=by simp only [or_assoc]
def Dr (n:Zt) (s:Z4) (ts:LI):Int:=match ts with
  | [t]=>if t≠0/\s.num=0/\s.kids.length=0/\¬((s.op=16∨s.op=17)/\Xu n.decls t=true) then 0 else -1
  | _=>-1
theorem Aj:QV n us s ts =
 if Yl s.op=true then Dr n s ts
 else if s.op=7 then (if ts=[0]/\s.num=0 then UI n us s.op s.num s.kids else -1)
 else if s.op=8 then (if ts=[s.num] then UI n us s.op s.num s.kids else -1)
 else if 0<s.kids.length∨(s.op=10/\0<(((YZ n.routines s.num).map (·.lent)).getD []).length) then -1
 else (Xk n s.op s.num ts).getD (-1):=by unfold QV Dr;rfl
theorem IG (h:(ts.length:Int)=1):Dr n s ts=if gI ts 0≠0/\s.num=0/\s.kids.length=0/\¬((s.op=16∨s.op=17)/\Xu n.decls (gI ts 0)=true) then 0 else -1:=by
 match ts,h with
 | [a],_=>rfl
theorem R3 (h:(ts.length:Int)≠1):Dr n s ts=-1:=by
 match ts,h with
 | [],_=>rfl
 | [a],h=>exact absurd rfl h
 | _::_::_,_=>rfl
theorem Z85 (hS:Y0 n us s=QV n us s ts) (hc:Yl s.op=true)
  (h:((((ts.length:Int)=1/\gI ts 0≠0)/\s.num=0)/\(s.kids.length:Int)=0)/\(s.op=16∨s.op=17)) :
  (!Xu n.decls (gI ts 0))=decide (0<=Y0 n us s):=by
 obtain ⟨⟨⟨⟨h1,h2⟩,h3⟩,h4⟩,h5⟩:=h
 have h4':s.kids.length=0:=by omega
 rw [hS,Aj,Zg hc,IG h1]
 cases hA:Xu n.decls (gI ts 0)
 ·rw [Zg ⟨h2,h3,h4',by simp⟩];rfl
 ·rw [Z9 (fun q=>q.2.2.2 ⟨h5,rfl⟩)];rfl
theorem Z86 (hS:Y0 n us s=QV n us s ts) (hc:Yl s.op=true)
  (h:¬(((((ts.length:Int)=1/\gI ts 0≠0)/\s.num=0)/\(s.kids.length:Int)=0)/\(s.op=16∨s.op=17))) :
  ((((((ts.length:Int)==1)&&(gI ts 0 != 0))&&(s.num==0))&&((s.kids.length:Int)==0)))=decide (0<=Y0 n us s):=by
 rw [hS,Aj,Zg hc]
 by_cases h1:(ts.length:Int)=1
 ·rw [IG h1]
  by_cases h2:(gI ts 0≠0/\s.num=0)/\(s.kids.length:Int)=0
  ·obtain ⟨⟨h2,h3⟩,h4⟩:=h2
   have h4':s.kids.length=0:=by omega
   rw [Zg ⟨h2,h3,h4',fun q=>h ⟨⟨⟨⟨h1,h2⟩,h3⟩,h4⟩,q.1⟩⟩,Zp.2 h1,Yp.2 h2,Zp.2 h3,Zp.2 h4];rfl
  ·rw [Z9 (fun q=>h2 ⟨⟨q.1,q.2.1⟩,by have:=q.2.2.1;omega⟩)]
   show _=false
   rw [Km];intro q
   obtain ⟨⟨⟨_,q1⟩,q2⟩,q3⟩:=(YB (YB (YB Zp Yp) Zp) Zp).1 q
   exact h2 ⟨⟨q1,q2⟩,q3⟩
 ·rw [R3 h1]
  show _=false
  rw [Km];intro q
  obtain ⟨⟨⟨q1,_⟩,_⟩,_⟩:=(YB (YB (YB Zp Yp) Zp) Zp).1 q
  exact h1 q1
theorem Z81 (hS:Y0 n us s=QV n us s ts) (hc:¬Yl s.op=true) (h7:s.op=7)
  (h:(((ts.length:Int)≠1∨gI ts 0≠0)∨s.num≠0)∨(s.kids.length:Int)≠2):Y0 n us s=-1:=by
 rw [hS,Aj,Z9 hc,Zg h7]
 split
 ·rename_i q
  obtain ⟨q1,q2⟩:=q
  rw [q1] at h
  rw [UI,Zg]
  right
  rw [Xg,Zg h7]
  have:gI [0] 0=0:=rfl
  simp [this] at h
  show s.kids.length≠2
  omega
 ·rfl
theorem Z82 (hS:Y0 n us s=QV n us s ts) (hc:¬Yl s.op=true) (h7:s.op=7)
  (h:¬((((ts.length:Int)≠1∨gI ts 0≠0)∨s.num≠0)∨(s.kids.length:Int)≠2)):Y0 n us s=XV n us s.kids (List.replicate 2 []) true 0:=by
 have h1:(ts.length:Int)=1:=VE.1 fun q=>h (.inl (.inl (.inl q)))
 have h2:gI ts 0=0:=VE.1 fun q=>h (.inl (.inl (.inr q)))
 have h3:s.num=0:=VE.1 fun q=>h (.inl (.inr q))
 have h4:(s.kids.length:Int)=2:=VE.1 fun q=>h (.inr q)
 rw [hS,Aj,Z9 hc,Zg h7,Zg ⟨by rw [MU h1,h2],h3⟩,UI,Z9]
 ·rw [Xg,Zg h7];rfl
 ·rw [Xg,Zg h7];simp;omega
theorem Z83 (hS:Y0 n us s=QV n us s ts) (hc:¬Yl s.op=true) (h7:¬s.op=7) (h8:s.op=8)
  (h:(ts.length:Int)≠1∨(gI ts 0≠s.num∨(((((ZQ n.decls s.num).map (ZU n.decls)).length:Nat):Int)=0∨(s.kids.length:Int)≠((((ZQ n.decls s.num).map (ZU n.decls)).length:Nat):Int)))):Y0 n us s=-1:=by
 rw [hS,Aj,Z9 hc,Z9 h7,Zg h8]
 split
 ·rename_i q
  have hg:gI ts 0=s.num:=by rw [q];rfl
  have hl:(ts.length:Int)=1:=by rw [q];rfl
  rw [UI,Zg]
  rw [Xg,Z9 h7]
  omega
 ·rfl
theorem Z84 (hS:Y0 n us s=QV n us s ts) (hc:¬Yl s.op=true) (h7:¬s.op=7) (h8:s.op=8)
  (h:¬((ts.length:Int)≠1∨(gI ts 0≠s.num∨(((((ZQ n.decls s.num).map (ZU n.decls)).length:Nat):Int)=0∨(s.kids.length:Int)≠((((ZQ n.decls s.num).map (ZU n.decls)).length:Nat):Int))))) :
  Y0 n us s=XV n us s.kids ((ZQ n.decls s.num).map (ZU n.decls)) true 0:=by
 have h1:(ts.length:Int)=1:=VE.1 fun q=>h (.inl q)
 have h2:gI ts 0=s.num:=VE.1 fun q=>h (.inr (.inl q))
 rw [hS,Aj,Z9 hc,Z9 h7,Zg h8,Zg (by rw [MU h1,h2]),UI,Z9]
 ·rw [Xg,Z9 h7]
 ·rw [Xg,Z9 h7];omega
theorem Z3y {n:Zt} {num:Int}:(((YZ n.routines num).map (·.lent)).getD []).length=if 0<=num/\num<(((n.routines.map Xy).length:Nat):Int) then (Q5 n num).lnt.length else 0:=by
 split
 ·rename_i h
  rw [Ap] at h
  obtain ⟨r,hr⟩:=Jc (xs:=n.routines) (j:=num.toNat) om
  rw [Tv om hr,Q5,Qw,hr];rfl
 ·rename_i h
  rw [Ap] at h
  rw [Qg om];rfl
theorem Ok:(0<s.kids.length∨(s.op=10/\0<(((YZ n.routines s.num).map (·.lent)).getD []).length)) ↔
  ((s.kids.length:Int)>0∨(s.op=10/\(s.num>=0/\(s.num<(((n.routines.map Xy).length:Nat):Int)/\((((Q5 n s.num).lnt).length:Nat):Int)>0)))):=by
 rw [Z3y]
 by_cases hq:0<=s.num/\s.num<(((n.routines.map Xy).length:Nat):Int)
 ·rw [Zg hq];omega
 ·rw [Z9 hq];omega
theorem stB (hS:Y0 n us s=QV n us s ts) (hc:¬Yl s.op=true) (h7:¬s.op=7) (h8:¬s.op=8)
  (h:((s.kids.length:Int)>0∨(s.op=10/\(s.num>=0/\(s.num<(((n.routines.map Xy).length:Nat):Int)/\((((Q5 n s.num).lnt).length:Nat):Int)>0))))):Y0 n us s=-1:=by
 rw [hS,Aj,Z9 hc,Z9 h7,Z9 h8,Zg (Ok.2 h)]
theorem stS (hS:Y0 n us s=QV n us s ts) (hc:¬Yl s.op=true) (h7:¬s.op=7) (h8:¬s.op=8)
  (h:¬((s.kids.length:Int)>0∨(s.op=10/\(s.num>=0/\(s.num<(((n.routines.map Xy).length:Nat):Int)/\((((Q5 n s.num).lnt).length:Nat):Int)>0))))):Y0 n us s=(Xk n s.op s.num ts).getD (-1):=by
 rw [hS,Aj,Z9 hc,Z9 h7,Z9 h8,Z9 (fun q=>h (Ok.1 q))]
theorem Z87 (hty:B8 n) (h:Y0 n us s=(Xk n s.op s.num ts).getD (-1)):(Xk n s.op s.num ts).isSome=decide (0<=Y0 n us s):=by
 rw [h]
 cases hs:Xk n s.op s.num ts with
 | none=>rfl
 | some x=>have:=Z6n hty hs;simp [this]
theorem Z88 {t:Int} (h:Y0 n us s=(Xk n s.op s.num ts).getD (-1)) (hp:∀x,Xk n s.op s.num ts=some x->t=x):¬Yl s.op=true->0<=Y0 n us s->t=Y0 n us s:=by
 intro _ h0
 rw [h] at h0 ⊢
 cases hs:Xk n s.op s.num ts with
 | none=>rw [hs] at h0;exact absurd h0 (by decide)
 | some x=>exact hp x hs
end
theorem Z8m {n:Zt} {us:LI} {s:Z4} (h:0<=Y0 n us s):(0<=s.op/\s.op<=11)∨(14<=s.op/\s.op<=17):=by
 rw [AY] at h
 by_cases hq:(0<=s.op/\s.op<=11)∨(14<=s.op/\s.op<=17)
 ·exact hq
 ·exfalso
  split at h
  ·omega
  rw [Z9 om,Z9 om,Z9 om,Z9 om,Z9 om,Z9 om,Z9 om,Z9 om,Z9 om] at h
  omega
theorem FE {n:Zt} {us:LI} {s:Z4} (h:0<=Y0 n us s):Xz s.op=!Yl s.op:=by
 have:=Z8m h
 rw [Xz,Yl,X7];simp;omega
theorem Z8p {n:Zt} {xs:List Z4} {vs:LI} {k:Nat} {s:Z4} {t:Int} {r:Option LI} (hs:xs[k]? = some s) (h:0<=Y0 n vs s) (ht:¬Yl s.op=true->0<=Y0 n vs s->t=Y0 n vs s)
  (hr:Wb n (xs.drop k) vs=r):Wb n (xs.drop (k+1)) (if Yl s.op=true then vs else vs++[t])=r:=by
 rw [Y4 hs,Wb,Z9 om] at hr
 rw [<-hr,FE h]
 by_cases hc:Yl s.op=true
 ·rw [Zg hc,hc];rfl
 ·rw [Z9 hc,Zg (by simpa using hc),ht hc h]
theorem Z8q {n:Zt} {xs:List Z4} {vs:LI} {k:Nat} {s:Z4} {r:Option LI} (hs:xs[k]? = some s) (h:¬0<=Y0 n vs s) (hr:Wb n (xs.drop k) vs=r):r=none:=by
 rw [Y4 hs,Wb,Zg om] at hr;exact hr.symm
theorem Z46 {c:Prop} [Decidable c] {vs:LI} {t:Int} (h:∀x∈vs,0<=x) (ht:¬c->0<=t):∀x∈(if c then vs else vs++[t]),0<=x:=by
 split
 ·exact h
 ·rename_i hc
  exact MK h (fun x hx=>by rw [XT.1 hx];exact ht hc)
theorem HX {m:Nat} {xs:LI} (h:XO m xs=true):∀x∈xs,0<=x/\x<=m:=by
 rw [XO,Kn] at h
 exact fun x hx=>of_decide_eq_true (h x hx)
theorem Z47 {n:Zt} (h:VU n=true):B8 n:=by
 simp only [VU,Qt,XN,decide_eq_true_eq] at h
 obtain ⟨h1,⟨h2,h3,h4,h5⟩,h6⟩:=h
 have hs:∀r∈n.routines,XO n.decls.length r.params=true/\0<=r.result:=fun r hr=>by
  have:=Hk h4 (VC r) (XS.2 ⟨r,hr,rfl⟩)
  simp only [QS,XN,decide_eq_true_eq] at this
  exact ⟨this.2.1,this.2.2.1⟩
 simp only [Wo,XN,decide_eq_true_eq] at h2
 obtain ⟨h2a,h2b⟩:=h2
 rw [FC] at h2b
 have key:∀(i:Nat) (d:Ze),n.decls[i]? = some d->U0 n.decls d i=true:=fun i d hi=>by
  have:=h2b i (Xr.1 hi).1
  rwa [WG,C7 hi] at this
 refine ⟨fun r hr=>(hs r hr).2,fun r hr p hp=>(HX (hs r hr).1 p hp).1,fun d hd h0=>?_,fun c f hf=>?_⟩
 ·obtain ⟨i,hi⟩:=List.mem_iff_getElem?.1 hd
  have:=key i d hi
  rw [U0,Z9 om] at this
  split at this
  ·cases this
  ·simp only [XN,decide_eq_true_eq] at this;omega
 ·by_cases hc:XJ n.decls c<1
  ·rw [(Dt hc).1] at hf;cases hf
  ·obtain ⟨k,d,x,q1,q2,q3,q4,q5⟩:=Fv hc
   rw [q5] at hf
   have:=key k d q1
   have hp:0<d.cons.length:=by have:=(Xr.1 q3).1;omega
   rw [U0,Zg hp] at this
   split at this
   ·have:=IK.1 this x (ZZ q3)
    simp only [K1,XN] at this
    exact (HX this.2 f hf).1
   ·cases this
structure P0 (n:Zt):Prop where
 result:∀r∈n.routines,r.result<=(n.decls.length:Int)
 decl:∀d∈n.decls,d.cons.length=0->d.to_<=(n.decls.length:Int)
 fields:∀c,∀f∈ZU n.decls c,f<=(n.decls.length:Int)
section
variable {n:Zt} (hu:P0 n)
include hu
end
end Go.Abs
section
namespace Go.Abs
structure B7 where
 mat:Int
 fst:Int
 fds:LI
 chg:Bool
def MT:List B7->Int->Option B7
 | [],_=>none
 | a::r,v=>match MT r v with
  | some x=>some x
  | none=>if a.mat=v then some a else none
structure Z9q (ds:List Ze) (L:ZC) (as1:List B7):Prop where
 rng:∀a∈as1,0<=a.mat/\a.mat<a.fst/\a.fst+a.fds.length<=L.vars.length
 par:∀a∈as1,∀v:Int,a.fst<=v->v<a.fst+a.fds.length->gI L.par v=a.mat
 non:∀v:Int,0<=v->v<L.vars.length->0<=gI L.par v->∃a∈as1,a.fst<=v/\v<a.fst+a.fds.length
 off:∀v:Int,0<=v->v<L.vars.length->match MT as1 v with
  | none=>gI L.con v<0
  | some a=>0<=gI L.con v/\a.fst=gI L.fst v/\a.fds=ZU ds (gI L.con v)
end Go.Abs
namespace Go.Abs
end Go.Abs
namespace Go.Abs
end Go.Abs
namespace Go.Abs
section
variable {n:Zt} {ln:LI} {L:ZC} {op v:Int} {am:List B7} {a:B7}
end
end Go.Abs
namespace Go.Abs
end Go.Abs
end
section
namespace Go.Abs
section
variable {n:Zt} {us:LI} {op num:Int}
end
end Go.Abs
namespace Go.Abs
end Go.Abs
namespace Go.Abs
end Go.Abs
end
section
namespace Go.Abs
section
variable {n:Zt} {ln:LI}
end
end Go.Abs
namespace Go.Abs
end Go.Abs
namespace Go.Abs
end Go.Abs
namespace Go.Abs
section
variable {n:Zt} {ln:LI} {L:ZC} {s:Z4}
end
end Go.Abs
namespace Go.Abs
end Go.Abs
namespace Go.Abs
end Go.Abs
namespace Go.Abs
end Go.Abs
end
namespace Go.Abs

end Go.Abs
section
namespace Go.Abs
end Go.Abs
namespace Go.Abs
end Go.Abs
namespace Go.Abs
end Go.Abs
end
section
namespace Go.Abs
end Go.Abs
namespace Go.Abs
end Go.Abs
namespace Go.Abs
end Go.Abs
namespace Go.Abs
end Go.Abs
end
namespace Go.Abs
def Zq (op v:Int):Z4:=.mk op 0 0 [v] []
def Ue (ds:List Ze) (num:Int) (k:Nat):LI:=((ZQ ds num).map (ZU ds))[k]?.getD []
section
variable {ds:List Ze} {am:List B7} {m:Nat}
end
theorem Le {ds:List Ze} {num:Int} {k:Nat} {m:LI} (h:((ZQ ds num).map (ZU ds))[k]? = some m):Ue ds num k=m:=by rw [Ue,h];rfl
theorem Sm {ds:List Ze} (hd:Wd ds) (num:Int) (k:Nat):(Ue ds num k).length<=3:=by
 rw [Ue,Qw]
 cases (ZQ ds num)[k]? with
 | none=>simp
 | some c=>exact VG hd c
theorem D0 {xs:List Z4} {k:Nat} {s:Z4} (h:xs[k]? = some s):Y8 (xs.take (k+1))=Y8 (xs.take k)+s.sz:=by
 induction xs generalizing k with
 | nil=>simp at h
 | cons t r ih=>
  cases k with
  | zero=>simp at h;subst h;simp [Y8]
  | succ k=>rw [B5,B5,Y8,Y8,ih (by simpa using h)];omega
theorem TH (xs:List Z4) (k:Nat):Y8 (xs.take k)<=Y8 xs:=by
 induction xs generalizing k with
 | nil=>simp
 | cons t r ih=>
  cases k with
  | zero=>simp [Y8]
  | succ k=>have:=ih k;rw [B5,Y8,Y8];omega
theorem Z6d {n:Zt} {us:LI} {s:Z4} (g:0<=Y0 n us s) (h:Yl s.op=true):Q4 n us s=us:=by rw [Q4,FE g,h];rfl
theorem Z6c {n:Zt} {us:LI} {s:Z4} (g:0<=Y0 n us s) (h:¬Yl s.op=true):(Q4 n us s).length=us.length+1:=by
 rw [Q4,FE g,Km.2 h];simp
theorem Z6e {n:Zt} {us:LI} {s:Z4} (g:0<=Y0 n us s):(Q4 n us s).length=if Yl s.op=true then us.length else us.length+1:=by
 split
 ·rw [Z6d g (by assumption)]
 ·exact Z6c g (by assumption)

theorem UN:∀(xs ys:List Z4),Y8 (xs++ys)=Y8 xs+Y8 ys
 | [],ys=>by simp [Y8]
 | x::r,ys=>by rw [Qv,Y8,Y8,UN r ys];omega
theorem Ds (op v:Int):(Zq op v).sz=2:=by rw [Zq,Z4.sz];simp [YE]
theorem Ht (op:Int):∀l:LI,Y8 (l.map (Zq op))=2*l.length
 | []=>by simp [Y8]
 | x::r=>by rw [U9,Y8,Ds,Ht op r,YK];omega
section
variable {ds:List Ze} (hd:Wd ds)
include hd
end
section
variable {ds:List Ze} {cons first:LI}
end
section
variable {ds:List Ze} (hd:Wd ds)
include hd
end
def Xj:List Z4->Nat
 | []=>0
 | s::r=>if s.op=14∨s.op=15 then Xj r+1 else 0
def W6 (op:Int):List Z4->LI
 | []=>[]
 | s::r=>if s.op=op then gI s.args 0::W6 op r else W6 op r
def Ug:LI->Int->LI->LI->LI × LI
 | [],_,D,R=>(D,R)
 | f::r,q,D,R=>if f≠0/\q∈D then Ug r (q+1) (D.erase q) R else if f≠0 then Ug r (q+1) D (R++[q]) else Ug r (q+1) D R
def Jo (xs:List Z4) (x:Int) (fs:LI) (q:Int):LI × LI:=Ug fs q (W6 14 (xs.take (Xj xs))) ((W6 15 (xs.take (Xj xs))).erase x)
def JM (xs:List Z4) (x:Int) (fs:LI) (q:Int):List Z4:=
 if x∈W6 15 (xs.take (Xj xs))/\fs.length≠0 then (Jo xs x fs q).1.map (Zq 14)++[Zq 16 x]++(Jo xs x fs q).2.map (Zq 15)++xs.drop (Xj xs) else xs
def Kt (b:Z6) (x:Int) (fs:LI) (q:Int):Z6:=.mk (JM b.steps x fs q) b.result
theorem Et:∀xs:List Z4,Xj xs<=xs.length
 | []=>YX _
 | s::r=>by have:=Et r;rw [Xj];split<;>simp<;>omega
theorem ND:∀{xs:List Z4} {s:Z4},s∈xs.take (Xj xs)->s.op=14∨s.op=15
 | [],s,h=>by simp [Xj] at h
 | t::r,s,h=>by
  rw [Xj] at h
  split at h
  ·rename_i q
   rw [B5] at h
   rcases YJ.1 h with rfl|h
   ·exact q
   ·exact ND h
  ·simp at h
theorem Fj:∀xs:List Z4,(W6 14 xs).length+(W6 15 xs).length<=xs.length
 | []=>by simp [W6]
 | s::r=>by
  have:=Fj r
  rw [W6,W6]
  by_cases h:s.op=14
  ·rw [Zg h,Z9 om];simp;omega
  ·rw [Z9 h];split<;>simp<;>omega
theorem El:∀(fs:LI) (q:Int) (D R:LI),(Ug fs q D R).1.length+(Ug fs q D R).2.length<=D.length+R.length+fs.length
 | [],q,D,R=>by simp [Ug]
 | f::r,q,D,R=>by
  rw [Ug,YK]
  split
  ·have:=El r (q+1) (D.erase q) R
   have h2:=List.length_erase_le (a:=q) (l:=D)
   omega
  ·split
   ·have:=El r (q+1) D (R++[q])
    simp only [Ym,YK,X6] at this
    omega
   ·have:=El r (q+1) D R
    omega
theorem Z4u {xs:List Z4} {x:Int} {fs:LI} {q:Int} (h:x∈W6 15 (xs.take (Xj xs))) (hf:fs.length<=3):(Jo xs x fs q).1.length+(Jo xs x fs q).2.length<=Xj xs+2:=by
 have h1:=El fs q (W6 14 (xs.take (Xj xs))) ((W6 15 (xs.take (Xj xs))).erase x)
 have h2:=Fj (xs.take (Xj xs))
 have h3:=List.length_pos_of_mem h
 rw [List.length_erase_of_mem h] at h1
 rw [Wp] at h2
 have h4:=Et xs
 unfold Jo
 omega
theorem Z80 (xs:List Z4) (k:Nat):Y8 xs=Y8 (xs.take k)+Y8 (xs.drop k):=by rw [<-UN,Uz]
theorem Oj:∀xs:List Z4,(∀s∈xs,2<=s.sz)->2*xs.length<=Y8 xs
 | [],_=>by simp
 | s::r,h=>by
  have h1:=Oj r fun t ht=>h t (Xo _ ht)
  have h2:=h s (X4 ..)
  rw [Y8,YK];omega
theorem Ph {xs:List Z4} {x:Int} {fs:LI} {q:Int} (hf:fs.length<=3) (h:∀s∈xs,s.op=14∨s.op=15->2<=s.sz):Y8 (JM xs x fs q)<=Y8 xs+6:=by
 rw [JM]
 split
 ·rename_i hc
  have h1:=Z4u (q:=q) hc.1 hf
  have h2:=Oj (xs.take (Xj xs)) fun s hs=>h s (TL hs) (ND hs)
  have h3:=Z80 xs (Xj xs)
  have h4:=Et xs
  rw [Wp] at h2
  rw [UN,UN,UN,Ht,Ht,Y8,Y8,Ds]
  omega
 ·omega
def Cn (s:Z4):Prop:=s=Zq s.op (gI s.args 0)
theorem Pg {xs:List Z4} {m:Int} {fs:LI} {q:Int} (h:¬(m∈W6 15 (xs.take (Xj xs))/\fs.length≠0)):JM xs m fs q=xs:=Z9 h
end Go.Abs
section
namespace Go.Abs
mutual
def AW (ds:List Ze) (m:Nat):Z4->Z4
 | .mk op num into args kids=>.mk op num into args (Tc ds m op num args kids 0)
def Tc (ds:List Ze) (m:Nat) (op num:Int) (args:LI):List Z6->Nat->List Z6
 | [],_=>[]
 | b::r,k=>(if op=8 then Kt (WD ds (m+(Ue ds num k).length) b) (gI args 0) (Ue ds num k) m else WD ds m b)::Tc ds m op num args r (k+1)
def Uv (ds:List Ze) (m:Nat):List Z4->List Z4
 | []=>[]
 | s::r=>AW ds m s::Uv ds (if Yl s.op=true then m else m+1) r
def WD (ds:List Ze) (m:Nat):Z6->Z6
 | .mk steps result=>.mk (Uv ds m steps) result
end
def EF (ds:List Ze) (m:Nat) (op num:Int) (args:LI) (k:Nat) (b:Z6):Z6:=if op=8 then Kt (WD ds (m+(Ue ds num k).length) b) (gI args 0) (Ue ds num k) m else WD ds m b
theorem Hn (ds:List Ze) (m:Nat) (s:Z4):AW ds m s=.mk s.op s.num s.into s.args (Tc ds m s.op s.num s.args s.kids 0):=by cases s;rw [AW];rfl
theorem ED (ds:List Ze) (m:Nat) (b:Z6):WD ds m b=.mk (Uv ds m b.steps) b.result:=by cases b;rw [WD];rfl
section
variable {ds:List Ze} {m:Nat}
theorem Z6u {xs acc r:List Z4} {k:Nat} {s:Z4} (h:xs[k]? = some s) (ha:acc++Uv ds m (xs.drop k)=r) :
  (acc++[.mk s.op s.num s.into s.args (Tc ds m s.op s.num s.args s.kids 0)])++Uv ds (if Yl s.op=true then m else m+1) (xs.drop (k+1))=r:=by
 rw [Y4 h,Uv,Hn] at ha
 rw [<-ha];simp
theorem Z6t {xs acc r:List Z4} {k:Nat} (h:xs.length<=k) (ha:acc++Uv ds m (xs.drop k)=r):acc=r:=by
 rw [X8 h,Uv,An] at ha;exact ha
theorem NV {op num:Int} {args:LI} {bs acc r:List Z6} {k:Nat} {b:Z6} (h:bs[k]? = some b) (ha:acc++Tc ds m op num args (bs.drop k) k=r) :
  (acc++[EF ds m op num args k b])++Tc ds m op num args (bs.drop (k+1)) (k+1)=r:=by
 rw [Y4 h,Tc] at ha
 rw [<-ha,EF];simp
theorem Z6q {op num:Int} {args:LI} {bs acc r:List Z6} {k j:Nat} (h:bs.length<=k) (ha:acc++Tc ds m op num args (bs.drop k) j=r):acc=r:=by
 rw [X8 h,Tc,An] at ha;exact ha
end
mutual
def wS (ds:List Ze):Z4->Prop
 | .mk op num into args kids=>(Xz op=!Yl op)/\(Yl op=true->num=0/\into=0/\kids=[]/\∃a,args=[a])/\(op=8->(∃a,args=[a]/\0<=a/\a<=900000000)/\kids.length=(ZQ ds num).length)/\Jw ds kids
def Jw (ds:List Ze):List Z6->Prop
 | []=>True
 | b::r=>wB ds b/\Jw ds r
def Q8 (ds:List Ze):List Z4->Prop
 | []=>True
 | s::r=>wS ds s/\Q8 ds r
def wB (ds:List Ze):Z6->Prop
 | .mk steps _=>Q8 ds steps
end
section
variable {ds:List Ze}
theorem Kl (s:Z4):wS ds s↔(Xz s.op=!Yl s.op)/\(Yl s.op=true->s.num=0/\s.into=0/\s.kids=[]/\∃a,s.args=[a])/\(s.op=8->(∃a,s.args=[a]/\0<=a/\a<=900000000)/\s.kids.length=(ZQ ds s.num).length)/\Jw ds s.kids:=by cases s;rw [wS];rfl
theorem QZ (b:Z6):wB ds b↔Q8 ds b.steps:=by cases b;rw [wB];rfl
theorem Jx:∀{xs:List Z4},Q8 ds xs↔∀s∈xs,wS ds s
 | []=>by simp [Q8]
 | s::r=>by rw [Q8,Jx];simp
theorem EP:∀{xs:List Z6},Jw ds xs↔∀s∈xs,wB ds s
 | []=>by simp [Jw]
 | s::r=>by rw [Jw,EP];simp
theorem OO {b:Z6} {k:Nat} {s:Z4} (h:wB ds b) (hs:b.steps[k]? = some s):wS ds s:=Jx.1 ((QZ b).1 h) s (ZZ hs)
theorem HL {s:Z4} {k:Nat} {b:Z6} (h:wS ds s) (hb:s.kids[k]? = some b):wB ds b:=EP.1 ((Kl s).1 h).2.2.2 b (ZZ hb)
theorem EQ {s:Z4} (h:wS ds s) (hc:Yl s.op=true):Cn s/\s.kids=[]/\∃a,s.args=[a]:=by
 obtain ⟨h1,h2,h3,a,h4⟩:=((Kl s).1 h).2.1 hc
 refine ⟨?_,h3,a,h4⟩
 cases s with
 | mk op num into args kids=>
  simp only [Z4.num,Z4.into,Z4.kids,Z4.args] at h1 h2 h3 h4
  subst h1 h2 h3 h4
  rfl
theorem Z9i {op v:Int} (h:op=14∨op=15∨op=16):wS ds (Zq op v):=(Kl _).2 ⟨by show Xz op=!Yl op;rcases h with rfl|rfl|rfl<;>rfl,fun _=>⟨rfl,rfl,rfl,v,rfl⟩,fun e=>absurd e (show op≠8 by omega),True.intro⟩
theorem Z9j {s:Z4} (h:wS ds s):Xz s.op=!Yl s.op:=((Kl s).1 h).1
theorem D6 {s:Z4} (h:wS ds s) (h8:s.op=8):(∃a,s.args=[a]/\0<=a/\a<=900000000)/\s.kids.length=(ZQ ds s.num).length:=((Kl s).1 h).2.2.1 h8
theorem F4 {xs:List Z4} (h:Q8 ds xs):∀s∈xs,Yl s.op=true->Cn s:=fun s hs hc=>(EQ (Jx.1 h s hs) hc).1
end
section
variable {n:Zt}
end
mutual
def Z4.pz:Z4->Nat
 | .mk _ _ _ args kids=>1+args.length+BJ kids
def Z6.pz:Z6->Nat
 | .mk steps _=>1+BK steps
def BK:List Z4->Nat
 | []=>0
 | s::r=>s.pz+BK r
def BJ:List Z6->Nat
 | []=>0
 | b::r=>b.pz+8+BJ r
end
mutual
theorem Z4.pz_le:∀s:Z4,s.pz<=9*s.sz
 | .mk _ _ _ args kids=>by have:=Nj kids;rw [Z4.pz,Z4.sz];omega
theorem Z6.pz_le:∀b:Z6,b.pz+8<=9*b.sz
 | .mk steps _=>by have:=Nk steps;rw [Z6.pz,Z6.sz];omega
theorem Nk:∀xs:List Z4,BK xs<=9*Y8 xs
 | []=>Qa _
 | s::r=>by have:=s.pz_le;have:=Nk r;rw [BK,Y8];omega
theorem Nj:∀xs:List Z6,BJ xs<=9*YE xs
 | []=>Qa _
 | s::r=>by have:=s.pz_le;have:=Nj r;rw [BJ,YE];omega
end
section
variable {ds:List Ze}
theorem PY {op:Int} (h:op=14∨op=15):Yl op=true:=by rw [Yl];simp;omega
theorem Z6v {xs:List Z4}:∀{m:Nat},Q8 ds xs->∀s∈Uv ds m xs,s.op=14∨s.op=15->2<=s.sz:=by
 induction xs with
 | nil=>intro m _ s hs;simp [Uv] at hs
 | cons t r ih=>
  intro m h s hs ho
  rw [Uv] at hs
  rcases YJ.1 hs with rfl|hs
  ·rw [Hn] at ho ⊢
   obtain ⟨_,_,a,ha⟩:=EQ h.1 (PY ho)
   rw [Z4.sz,ha];simp
  ·exact ih h.2 s hs ho
variable (hd:Wd ds)
include hd
mutual
theorem Z6r:∀(s:Z4) {m:Nat},wS ds s->(AW ds m s).sz<=s.pz
 | .mk op num into args kids,m,h=>by
  have:=NX kids (m:=m) (op:=op) (num:=num) (args:=args) (k:=0) h.2.2.2
  rw [AW,Z4.sz,Z4.pz];omega
theorem NX:∀(bs:List Z6) {m:Nat} {op num:Int} {args:LI} {k:Nat},Jw ds bs->YE (Tc ds m op num args bs k)<=BJ bs
 | [],_,_,_,_,_,_=>YX _
 | b::r,m,op,num,args,k,h=>by
  have h2:=NX r (m:=m) (op:=op) (num:=num) (args:=args) (k:=k+1) h.2
  rw [Tc,YE,BJ]
  split
  ·have h1:=EE b (m:=m+(Ue ds num k).length) h.1
   have h3:=Ph (xs:=(WD ds (m+(Ue ds num k).length) b).steps) (x:=gI args 0) (q:=(m:Int)) (Sm hd num k) (by rw [ED];exact Z6v ((QZ b).1 h.1))
   rw [Kt,Z6.sz]
   rw [Z6.sz_eq] at h1
   omega
  ·have h1:=EE b (m:=m) h.1
   omega
theorem NY:∀(xs:List Z4) {m:Nat},Q8 ds xs->Y8 (Uv ds m xs)<=BK xs
 | [],_,_=>YX _
 | s::r,m,h=>by
  have h1:=Z6r s (m:=m) h.1
  have h2:=NY r (m:=if Yl s.op=true then m else m+1) h.2
  rw [Uv,Y8,BK];omega
theorem EE:∀(b:Z6) {m:Nat},wB ds b->(WD ds m b).sz<=b.pz
 | .mk steps result,m,h=>by
  have:=NY steps (m:=m) h
  rw [WD,Z6.sz,Z6.pz];omega
end
end
section
variable {ds:List Ze} {m:Nat}
end
def Ag (ds:List Ze) (r:ZY):ZY:=⟨r.params,r.lent,r.result,WD ds r.params.length r.body⟩
def EG (n:Zt):Zt:=⟨n.decls,n.routines.map (Ag n.decls)⟩
end Go.Abs
namespace Go.Abs
theorem Z5x {xs:List Z4} {k:Nat} {s:Z4} {r:Nat} (h:xs[k]? = some s) (hs:s.op=14∨s.op=15) (ha:k+Xj (xs.drop k)=r):k+1+Xj (xs.drop (k+1))=r:=by
 rw [Y4 h,Xj,Zg hs] at ha;omega
theorem Z5y {xs:List Z4} {k:Nat} {s:Z4} {r:Nat} (h:xs[k]? = some s) (hs:¬(s.op=14∨s.op=15)) (ha:k+Xj (xs.drop k)=r):k=r:=by
 rw [Y4 h,Xj,Z9 hs] at ha;omega
theorem Z5w {xs:List Z4} {k:Nat} {r:Nat} (h:xs.length<=k) (ha:k+Xj (xs.drop k)=r):k=r:=by
 rw [X8 h,Xj] at ha;omega
theorem Pt {op:Int} {xs:List Z4} {acc r:LI} {k:Nat} {s:Z4} (h:xs[k]? = some s) (hs:s.op=op) (ha:acc++W6 op (xs.drop k)=r):(acc++[gI s.args 0])++W6 op (xs.drop (k+1))=r:=by
 rw [Y4 h,W6,Zg hs] at ha;rw [<-ha];simp
theorem Ps {op:Int} {xs:List Z4} {acc r:LI} {k:Nat} {s:Z4} (h:xs[k]? = some s) (hs:¬s.op=op) (ha:acc++W6 op (xs.drop k)=r):acc++W6 op (xs.drop (k+1))=r:=by
 rw [Y4 h,W6,Z9 hs] at ha;exact ha
theorem Pr {op:Int} {xs:List Z4} {acc r:LI} {k:Nat} (h:xs.length<=k) (ha:acc++W6 op (xs.drop k)=r):acc=r:=by
 rw [X8 h,W6,An] at ha;exact ha
theorem Si {xs acc r:LI} {y:Int} {k:Nat} {x:Int} {d:Bool} (h:xs[k]? = some x) (ha:acc++(if d=true then xs.drop k else (xs.drop k).erase y)=r) :
  (if x=y/\¬d=true then acc else acc++[x])++(if ((x==y&&!d)||d)=true then xs.drop (k+1) else (xs.drop (k+1)).erase y)=r:=by
 rw [Y4 h] at ha
 rw [<-ha]
 by_cases hd:d=true
 ·simp [hd]
 ·by_cases hx:x=y
  ·simp [hd,hx]
  ·rw [Z9 (fun z=>hx z.1),Z9 hd,List.erase_cons_tail (by simpa using hx)]
   simp [hd,hx]
theorem Sh {xs acc r:LI} {y:Int} {k:Nat} {d:Bool} (h:xs.length<=k) (ha:acc++(if d=true then xs.drop k else (xs.drop k).erase y)=r):acc=r:=by
 rw [X8 h] at ha;simpa using ha
section
variable {fs D R:LI} {q k:Nat} {f:Int} {r:LI × LI}
theorem Z4w (h:fs[k]? = some f) (h0:f≠0) (hm:((q+k:Nat):Int)∈D) (ha:Ug (fs.drop k) (q+k) D R=r):Ug (fs.drop (k+1)) (q+((k+1:Nat):Int)) (D.erase ((q+k:Nat):Int)) R=r:=by
 rw [Y4 h,Ug,Zg ⟨h0,by rw [<-Int.natCast_add];exact hm⟩,<-Int.natCast_add] at ha
 rw [<-ha];congr 1
theorem Z4x (h:fs[k]? = some f) (h0:f≠0) (hm:¬((q+k:Nat):Int)∈D) (ha:Ug (fs.drop k) (q+k) D R=r):Ug (fs.drop (k+1)) (q+((k+1:Nat):Int)) D (R++[((q+k:Nat):Int)])=r:=by
 rw [Y4 h,Ug,Z9 (fun z=>hm (by rw [Int.natCast_add];exact z.2)),Zg h0,<-Int.natCast_add] at ha
 rw [<-ha];congr 1
theorem Z4y (h:fs[k]? = some f) (h0:¬f≠0) (ha:Ug (fs.drop k) (q+k) D R=r):Ug (fs.drop (k+1)) (q+((k+1:Nat):Int)) D R=r:=by
 rw [Y4 h,Ug,Z9 (fun z=>h0 z.1),Z9 h0] at ha
 rw [<-ha];congr 1
theorem Z4v (h:fs.length<=k) (ha:Ug (fs.drop k) (q+k) D R=r):r=(D,R):=by
 rw [X8 h,Ug] at ha;exact ha.symm
end
theorem Pi {xs:List Z4} {x:Int} {fs:LI} {q:Int} {D R:LI} (h1:x∈W6 15 (xs.take (Xj xs))) (h2:fs.length≠0) (hr:Jo xs x fs q=(D,R)):D.map (Zq 14)++[Zq 16 x]++R.map (Zq 15)++xs.drop (Xj xs)=JM xs x fs q:=by
 rw [JM,Zg ⟨h1,h2⟩,hr]
theorem Z6s {ds:List Ze} {xs:List Z4}:∀{m:Nat},Q8 ds xs->∀s∈Uv ds m xs,Yl s.op=true->∃a,s.args=[a]:=by
 induction xs with
 | nil=>intro m _ s hs;simp [Uv] at hs
 | cons t r ih=>
  intro m h s hs ho
  rw [Uv] at hs
  rcases YJ.1 hs with rfl|hs
  ·rw [Hn] at ho ⊢
   exact (EQ h.1 ho).2.2
  ·exact ih h.2 s hs ho
end Go.Abs
end
namespace Go.Abs
theorem HR {s:Z4} (h:Cn s):∃a,s.args=[a]:=⟨gI s.args 0,by have:=Yj Z4.args h;exact this⟩
section
variable {xs:LI} {v:Int} {lo hi:Nat}
end
section
variable {m:Int} {xs du dr:List Z4} {lf:LI} {d:Bool} {k:Nat} {s:Z4} {W:List Z4 × List Z4 × LI}
end
def YG:List Z4->Nat
 | []=>0
 | s::r=>if Yl s.op=true then YG r+1 else 0
def XC (op x:Int):List Z4->Int->Int
 | [],_=>-1
 | s::r,k=>if s.op=op/\gI s.args 0=x then k else XC op x r (k+1)
def Qj (many:Nat) (s:Z4):Prop:=(s.op=6/\s.into=0)/\s.args.length=many
instance (many:Nat) (s:Z4):Decidable (Qj many s):=by unfold Qj;infer_instance
def W1 (many:Nat):List Z4->Int->Int
 | [],_=>-1
 | s::r,k=>if Qj many s then k else W1 many r (k+1)
def A0 (xs:List Z4) (i:Int):Z4:=xs[i.toNat]?.getD (Zq 0 0)
def TW (v:Int) (s:Z4):Z4:=.mk s.op s.num v s.args s.kids
def WX (xs:List Z4) (x:Int):Int:=XC 16 x (xs.take (YG xs)) 0
def We (xs:List Z4) (many:Nat):Int:=W1 many (xs.drop (YG xs)) (YG xs)
def VV (xs:List Z4) (x:Int) (many:Nat):List Z4:=
 if WX xs x<0∨We xs many<0 then xs else (xs.set (WX xs x).toNat (Zq 17 x)).set (We xs many).toNat (TW (1+x) (A0 xs (We xs many)))
def VN (b:Z6) (x:Int) (many:Nat):Z6:=.mk (VV b.steps x many) b.result
mutual
def Q3 (ds:List Ze) (kept:LI):Z4->Z4
 | .mk op num into args kids=>.mk op num into args (Uh ds kept op num args kids 0)
def Uh (ds:List Ze) (kept:LI) (op num:Int) (args:LI):List Z6->Nat->List Z6
 | [],_=>[]
 | b::r,k=>(if op=8/\¬gI args 0∈kept then VN (Wh ds (if WX b.steps (gI args 0)<0∨We b.steps (Ue ds num k).length<0 then kept else gI args 0::kept) b) (gI args 0) (Ue ds num k).length else Wh ds kept b)::Uh ds kept op num args r (k+1)
def Ui (ds:List Ze) (kept:LI):List Z4->List Z4
 | []=>[]
 | s::r=>Q3 ds kept s::Ui ds kept r
def Wh (ds:List Ze) (kept:LI):Z6->Z6
 | .mk steps result=>.mk (Ui ds kept steps) result
end
def E1 (ds:List Ze) (kept:LI) (num:Int) (args:LI) (k:Nat) (b:Z6):LI:=if WX b.steps (gI args 0)<0∨We b.steps (Ue ds num k).length<0 then kept else gI args 0::kept
def Ta (ds:List Ze) (kept:LI) (op num:Int) (args:LI) (k:Nat) (b:Z6):Z6:=if op=8/\¬gI args 0∈kept then VN (Wh ds (E1 ds kept num args k b) b) (gI args 0) (Ue ds num k).length else Wh ds kept b
theorem Ad (ds:List Ze) (kept:LI) (s:Z4):Q3 ds kept s=.mk s.op s.num s.into s.args (Uh ds kept s.op s.num s.args s.kids 0):=by cases s;rw [Q3];rfl
theorem Ep (ds:List Ze) (kept:LI) (b:Z6):Wh ds kept b=.mk (Ui ds kept b.steps) b.result:=by cases b;rw [Wh];rfl
theorem Es (ds:List Ze) (kept:LI):∀xs:List Z4,Ui ds kept xs=xs.map (Q3 ds kept)
 | []=>rfl
 | s::r=>by rw [Ui,Es ds kept r];rfl
section
variable {ds:List Ze} {kept:LI}
theorem Z5v {xs acc r:List Z4} {k:Nat} {s:Z4} (h:xs[k]? = some s) (ha:acc++Ui ds kept (xs.drop k)=r) :
  (acc++[.mk s.op s.num s.into s.args (Uh ds kept s.op s.num s.args s.kids 0)])++Ui ds kept (xs.drop (k+1))=r:=by
 rw [Y4 h,Ui,Ad] at ha
 rw [<-ha];simp
theorem Z5u {xs acc r:List Z4} {k:Nat} (h:xs.length<=k) (ha:acc++Ui ds kept (xs.drop k)=r):acc=r:=by
 rw [X8 h,Ui,An] at ha;exact ha
theorem Z5p {op num:Int} {args:LI} {bs acc r:List Z6} {k:Nat} {b:Z6} (h:bs[k]? = some b) (ha:acc++Uh ds kept op num args (bs.drop k) k=r) :
  (acc++[Ta ds kept op num args k b])++Uh ds kept op num args (bs.drop (k+1)) (k+1)=r:=by
 rw [Y4 h,Uh] at ha
 rw [<-ha,Ta,E1];simp
theorem Z5o {op num:Int} {args:LI} {bs acc r:List Z6} {k j:Nat} (h:bs.length<=k) (ha:acc++Uh ds kept op num args (bs.drop k) j=r):acc=r:=by
 rw [X8 h,Uh,An] at ha;exact ha
end
section
variable {ds:List Ze}
mutual
theorem Z5s:∀(s:Z4) {K K':LI},(∀z,z∈K↔z∈K')->Q3 ds K s=Q3 ds K' s
 | .mk op num into args kids,K,K',h=>by rw [Q3,Q3,Nz kids h]
theorem Nz:∀(bs:List Z6) {K K':LI} {op num:Int} {args:LI} {k:Nat},(∀z,z∈K↔z∈K')->Uh ds K op num args bs k=Uh ds K' op num args bs k
 | [],_,_,_,_,_,_,_=>by rw [Uh,Uh]
 | b::r,K,K',op,num,args,k,h=>by
  have h1:=Nz r (op:=op) (num:=num) (args:=args) (k:=k+1) h
  have h2:=H8 b h
  have h3:∀z,z∈(gI args 0::K)↔z∈(gI args 0::K'):=fun z=>by rw [YJ,YJ,h z]
  have h4:=H8 b h3
  rw [Uh,Uh,h1,h2]
  congr 1
  by_cases hq:op=8/\¬gI args 0∈K
  ·have hq':op=8/\¬gI args 0∈K':=⟨hq.1,fun z=>hq.2 ((h _).2 z)⟩
   rw [Zg hq,Zg hq']
   congr 1
   split
   ·exact h2
   ·exact h4
  ·have hq':¬(op=8/\¬gI args 0∈K'):=fun z=>hq ⟨z.1,fun y=>z.2 ((h _).1 y)⟩
   rw [Z9 hq,Z9 hq']
theorem NB:∀(xs:List Z4) {K K':LI},(∀z,z∈K↔z∈K')->Ui ds K xs=Ui ds K' xs
 | [],_,_,_=>by rw [Ui,Ui]
 | s::r,K,K',h=>by rw [Ui,Ui,Z5s s h,NB r h]
theorem H8:∀(b:Z6) {K K':LI},(∀z,z∈K↔z∈K')->Wh ds K b=Wh ds K' b
 | .mk steps result,K,K',h=>by rw [Wh,Wh,NB steps h]
end
end
theorem CC:∀xs:List Z4,YG xs<=xs.length
 | []=>YX _
 | s::r=>by have:=CC r;rw [YG];split<;>simp<;>omega
section
variable {f:Z4->Z4} (hop:∀s,(f s).op=s.op) (hin:∀s,(f s).into=s.into) (har:∀s,(f s).args=s.args)
include hop
theorem GM:∀xs:List Z4,YG (xs.map f)=YG xs
 | []=>rfl
 | s::r=>by rw [U9,YG,YG,hop,GM r]
include har
theorem I5 {op x:Int}:∀(xs:List Z4) (k:Int),XC op x (xs.map f) k=XC op x xs k
 | [],_=>rfl
 | s::r,k=>by rw [U9,XC,XC,hop,har,I5 r]
theorem Z4t (xs:List Z4) (x:Int):WX (xs.map f) x=WX xs x:=by rw [WX,GM hop,<-List.map_take,I5 hop har,WX]
include hin
theorem II {many:Nat}:∀(xs:List Z4) (k:Int),W1 many (xs.map f) k=W1 many xs k
 | [],_=>rfl
 | s::r,k=>by
  have e:Qj many (f s)↔Qj many s:=by rw [Qj,Qj,hop,hin,har]
  rw [U9,W1,W1,II r]
  by_cases h:Qj many s
  ·rw [Zg h,Zg (e.2 h)]
  ·rw [Z9 h,Z9 (fun z=>h (e.1 z))]
theorem R4 (xs:List Z4) (many:Nat):We (xs.map f) many=We xs many:=by rw [We,GM hop,<-List.map_drop,II hop hin har,We]
end
theorem I4 {op x:Int}:∀{xs:List Z4} {k:Int},¬XC op x xs k<0->0<=k->k<=XC op x xs k/\XC op x xs k<k+xs.length/\∃s,xs[(XC op x xs k-k).toNat]? = some s/\s.op=op/\gI s.args 0=x
 | [],k,h,_=>by simp [XC] at h
 | s::r,k,h,hk=>by
  rw [XC] at h ⊢
  split
  ·rename_i q
   refine ⟨Int.le_refl _,by rw [YK];omega,s,?_,q⟩
   rw [Int.sub_self];rfl
  ·rename_i q
   rw [Z9 q] at h
   obtain ⟨h1,h2,t,h3,h4⟩:=I4 (xs:=r) (k:=k+1) h om
   refine ⟨by omega,by rw [YK];omega,t,?_,h4⟩
   rw [show (XC op x r (k+1)-k).toNat=(XC op x r (k+1)-(k+1)).toNat+1 by omega,List.getElem?_cons_succ]
   exact h3
theorem IH {many:Nat}:∀{xs:List Z4} {k:Int},¬W1 many xs k<0->0<=k->k<=W1 many xs k/\W1 many xs k<k+xs.length/\∃s,xs[(W1 many xs k-k).toNat]? = some s/\Qj many s
 | [],k,h,_=>by simp [W1] at h
 | s::r,k,h,hk=>by
  rw [W1] at h ⊢
  split
  ·rename_i q
   refine ⟨Int.le_refl _,by rw [YK];omega,s,?_,q⟩
   rw [Int.sub_self];rfl
  ·rename_i q
   rw [Z9 q] at h
   obtain ⟨h1,h2,t,h3,h4⟩:=IH (xs:=r) (k:=k+1) h om
   refine ⟨by omega,by rw [YK];omega,t,?_,h4⟩
   rw [show (W1 many r (k+1)-k).toNat=(W1 many r (k+1)-(k+1)).toNat+1 by omega,List.getElem?_cons_succ]
   exact h3
theorem CK {xs:List Z4} {x:Int} (h:¬WX xs x<0):0<=WX xs x/\WX xs x<YG xs/\∃s,xs[(WX xs x).toNat]? = some s/\s.op=16/\gI s.args 0=x:=by
 obtain ⟨h1,h2,s,h3,h4⟩:=I4 h (Int.le_refl 0)
 have hl:=CC xs
 rw [Wp,Vh hl] at h2
 have h2':WX xs x<YG xs:=by unfold WX;omega
 have h1':0<=WX xs x:=h1
 refine ⟨h1',h2',s,?_,h4⟩
 rw [Int.sub_zero] at h3
 have h5:(WX xs x).toNat<YG xs:=by omega
 rwa [show XC 16 x (xs.take (YG xs)) 0=WX xs x from rfl,List.getElem?_take_of_lt h5] at h3
theorem JT {xs:List Z4} {many:Nat} (h:¬We xs many<0):(YG xs:Int)<=We xs many/\We xs many<xs.length/\∃s,xs[(We xs many).toNat]? = some s/\Qj many s/\A0 xs (We xs many)=s:=by
 obtain ⟨h1,h2,s,h3,h4⟩:=IH h om
 have hl:=CC xs
 rw [Ao] at h2
 have h1':(YG xs:Int)<=We xs many:=h1
 have h2':We xs many<xs.length:=by unfold We;omega
 rw [HO,show W1 many (xs.drop (YG xs)) (YG xs)=We xs many from rfl,show YG xs+(We xs many-(YG xs:Int)).toNat=(We xs many).toNat by omega] at h3
 exact ⟨h1',h2',s,h3,h4,by rw [A0,h3];rfl⟩
theorem Z59 {f:Z4->Z4} (hop:∀s,(f s).op=s.op) (hin:∀s,(f s).into=s.into) (har:∀s,(f s).args=s.args) (hc:∀x,f (Zq 17 x)=Zq 17 x) (hi:∀v s,f (TW v s)=TW v (f s)) (xs:List Z4) (x:Int) (many:Nat) :
  VV (xs.map f) x many=(VV xs x many).map f:=by
 rw [VV,Z4t hop har,R4 hop hin har,VV]
 split
 ·rfl
 ·rename_i hq
  obtain ⟨_,_,s,h3,_,h5⟩:=JT (fun z=>hq (.inr z))
  have e:A0 (xs.map f) (We xs many)=f (A0 xs (We xs many)):=by rw [A0,Qw,h3,h5];rfl
  rw [e,List.map_set,List.map_set,hc,hi]
theorem Nx {ds:List Ze} {K:LI} {b:Z6} {x:Int} {many:Nat}:Wh ds K (VN b x many)=VN (Wh ds K b) x many:=by
 rw [VN,Wh,VN,Ep,Es,Es]
 show Z6.mk _ _=Z6.mk (VV (b.steps.map (Q3 ds K)) x many) b.result
 rw [Z59 (f:=Q3 ds K) (fun s=>by rw [Ad];rfl) (fun s=>by rw [Ad];rfl) (fun s=>by rw [Ad];rfl) (fun x=>by rw [Ad];rfl) (fun v s=>by rw [Ad,Ad];rfl)]
def XI (op:Int) (c:LI):LI:=if Yl op=true then c.set (op-14).toNat (gI c (op-14)+1) else c
mutual
def TQ:Z4->LI->LI
 | .mk op _ _ _ kids,c=>WT kids (XI op c)
def WT:List Z6->LI->LI
 | [],c=>c
 | b::r,c=>WT r (Wy b c)
def Vc:List Z4->LI->LI
 | [],c=>c
 | s::r,c=>Vc r (TQ s c)
def Wy:Z6->LI->LI
 | .mk steps _,c=>Vc steps c
end
theorem PX (s:Z4) (c:LI):TQ s c=WT s.kids (XI s.op c):=by cases s;rw [TQ];rfl
theorem Dq (b:Z6) (c:LI):Wy b c=Vc b.steps c:=by cases b;rw [Wy];rfl
theorem IC {xs:List Z4} {k:Nat} {s:Z4} {c r:LI} (h:xs[k]? = some s) (ha:Vc (xs.drop k) c=r):Vc (xs.drop (k+1)) (WT s.kids (XI s.op c))=r:=by
 rw [Y4 h,Vc,PX] at ha;exact ha
theorem IB {xs:List Z4} {k:Nat} {c r:LI} (h:xs.length<=k) (ha:Vc (xs.drop k) c=r):c=r:=by
 rw [X8 h,Vc] at ha;exact ha
theorem It {xs:List Z6} {k:Nat} {s:Z6} {c r:LI} (h:xs[k]? = some s) (ha:WT (xs.drop k) c=r):WT (xs.drop (k+1)) (Wy s c)=r:=by
 rw [Y4 h,WT] at ha;exact ha
theorem Is {xs:List Z6} {k:Nat} {c r:LI} (h:xs.length<=k) (ha:WT (xs.drop k) c=r):c=r:=by
 rw [X8 h,WT] at ha;exact ha
structure CB (c:LI) (q:Int):Prop where
 len:c.length=4
 bd:∀x∈c,0<=x/\x<=q
theorem CB.le {c:LI} {q p:Int} (h:CB c q) (hq:q<=p):CB c p:=⟨h.len,fun x hx=>by have:=h.bd x hx;omega⟩
theorem CB.at {c:LI} {q:Int} (h:CB c q) {i:Int} (hi:i.toNat<4):0<=gI c i/\gI c i<=q:=h.bd _ (by rw [gI,JA (by rw [h.len];exact hi)];exact List.getElem_mem _)
theorem CB.one {c:LI} {q:Int} (h:CB c q) (_:0<=q) (op:Int):CB (XI op c) (q+1):=by
 rw [XI]
 split
 ·rename_i ho
  have ho':14<=op/\op<=17:=by simpa [Yl] using ho
  refine ⟨by rw [VP];exact h.len,fun x hx=>?_⟩
  rcases Kc hx with hx|rfl
  ·have:=h.bd x hx;omega
  ·have:=h.at (i:=op-14) om;omega
 ·exact h.le om
mutual
theorem CB.s:∀(s:Z4) {c:LI} {q:Int},CB c q->0<=q->CB (TQ s c) (q+s.sz)
 | .mk op num into args kids,c,q,h,hq=>by
  have:=CB.bs kids (h.one hq op) om
  rw [TQ,Z4.sz];exact this.le om
theorem CB.bs:∀(bs:List Z6) {c:LI} {q:Int},CB c q->0<=q->CB (WT bs c) (q+YE bs)
 | [],c,q,h,hq=>by rw [WT,YE];exact h.le om
 | b::r,c,q,h,hq=>by
  have:=CB.bs r (CB.b b h hq) om
  rw [WT,YE];exact this.le om
theorem CB.ss:∀(xs:List Z4) {c:LI} {q:Int},CB c q->0<=q->CB (Vc xs c) (q+Y8 xs)
 | [],c,q,h,hq=>by rw [Vc,Y8];exact h.le om
 | s::r,c,q,h,hq=>by
  have:=CB.ss r (CB.s s h hq) om
  rw [Vc,Y8];exact this.le om
theorem CB.b:∀(b:Z6) {c:LI} {q:Int},CB c q->0<=q->CB (Wy b c) (q+b.sz)
 | .mk steps result,c,q,h,hq=>by
  have:=CB.ss steps h hq
  rw [Wy,Z6.sz];exact this.le om
end
mutual
def Jn:Z4->Prop
 | .mk op _ _ _ kids=>op≠17/\Kd kids
def Kd:List Z6->Prop
 | []=>True
 | b::r=>T6 b/\Kd r
def Ke:List Z4->Prop
 | []=>True
 | s::r=>Jn s/\Ke r
def T6:Z6->Prop
 | .mk steps _=>Ke steps
end
theorem BF (s:Z4):Jn s↔s.op≠17/\Kd s.kids:=by cases s;rw [Jn];rfl
theorem CF (b:Z6):T6 b↔Ke b.steps:=by cases b;rw [T6];rfl
theorem CG:∀{xs:List Z4},Ke xs↔∀s∈xs,Jn s
 | []=>by simp [Ke]
 | s::r=>by rw [Ke,CG];simp
theorem Ee:∀{xs:List Z6},Kd xs↔∀s∈xs,T6 s
 | []=>by simp [Kd]
 | s::r=>by rw [Kd,Ee];simp
theorem PT (op:Int) (c:LI):(XI op c).length=c.length:=by rw [XI];split<;>simp
theorem PV {op:Int} {c:LI} (hl:c.length=4):gI c 3<=gI (XI op c) 3/\(gI (XI op c) 3=gI c 3->op≠17):=by
 rw [XI]
 split
 ·rename_i ho
  have ho':14<=op/\op<=17:=by simpa [Yl] using ho
  by_cases h:op=17
  ·subst h
   rw [Gd (x:=17-14) (j:=3) om om]
   show gI c 3<=gI c 3+1/\_
   refine ⟨by omega,fun e=>?_⟩
   have:gI c 3+1=gI c 3:=e
   omega
  ·rw [Ge om];exact ⟨Int.le_refl _,fun _=>h⟩
 ·rename_i ho
  exact ⟨Int.le_refl _,fun _ h=>ho (by rw [h];rfl)⟩
mutual
theorem ID:∀(s:Z4) {c:LI},c.length=4->(TQ s c).length=4/\gI c 3<=gI (TQ s c) 3/\(gI (TQ s c) 3=gI c 3->Jn s)
 | .mk op num into args kids,c,hl=>by
  have h1:=PV (op:=op) hl
  obtain ⟨h2,h3,h4⟩:=Iv kids (c:=XI op c) (by rw [PT];exact hl)
  rw [TQ,Jn]
  exact ⟨h2,by omega,fun e=>⟨h1.2 om,h4 om⟩⟩
theorem Iv:∀(bs:List Z6) {c:LI},c.length=4->(WT bs c).length=4/\gI c 3<=gI (WT bs c) 3/\(gI (WT bs c) 3=gI c 3->Kd bs)
 | [],c,hl=>by rw [WT,Kd];exact ⟨hl,Int.le_refl _,fun _=>True.intro⟩
 | b::r,c,hl=>by
  obtain ⟨h2,h3,h4⟩:=Bb b hl
  obtain ⟨h5,h6,h7⟩:=Iv r h2
  rw [WT,Kd]
  exact ⟨h5,by omega,fun e=>⟨h4 om,h7 om⟩⟩
theorem IE:∀(xs:List Z4) {c:LI},c.length=4->(Vc xs c).length=4/\gI c 3<=gI (Vc xs c) 3/\(gI (Vc xs c) 3=gI c 3->Ke xs)
 | [],c,hl=>by rw [Vc,Ke];exact ⟨hl,Int.le_refl _,fun _=>True.intro⟩
 | b::r,c,hl=>by
  obtain ⟨h2,h3,h4⟩:=ID b hl
  obtain ⟨h5,h6,h7⟩:=IE r h2
  rw [Vc,Ke]
  exact ⟨h5,by omega,fun e=>⟨h4 om,h7 om⟩⟩
theorem Bb:∀(b:Z6) {c:LI},c.length=4->(Wy b c).length=4/\gI c 3<=gI (Wy b c) 3/\(gI (Wy b c) 3=gI c 3->T6 b)
 | .mk steps result,c,hl=>by rw [Wy,T6];exact IE steps hl
end
def WU:List ZY->LI->LI
 | [],c=>c
 | r::rs,c=>WU rs (Wy r.body c)
theorem Ix {xs:List ZY} {k:Nat} {s:ZY} {c r:LI} (h:xs[k]? = some s) (ha:WU (xs.drop k) c=r):WU (xs.drop (k+1)) (Wy s.body c)=r:=by
 rw [Y4 h,WU] at ha;exact ha
theorem Iw {xs:List ZY} {k:Nat} {c r:LI} (h:xs.length<=k) (ha:WU (xs.drop k) c=r):c=r:=by
 rw [X8 h,WU] at ha;exact ha
theorem Fq:∀(rs:List ZY) {c:LI},c.length=4->(WU rs c).length=4/\gI c 3<=gI (WU rs c) 3/\(gI (WU rs c) 3=gI c 3->∀r∈rs,T6 r.body)
 | [],c,hl=>by rw [WU];exact ⟨hl,Int.le_refl _,fun _ r hr=>by cases hr⟩
 | r::rs,c,hl=>by
  obtain ⟨h2,h3,h4⟩:=Bb r.body hl
  obtain ⟨h5,h6,h7⟩:=Fq rs h2
  rw [WU]
  refine ⟨h5,by omega,fun e q hq=>?_⟩
  rcases YJ.1 hq with rfl|hq
  ·exact h4 om
  ·exact h7 om q hq
def Qi (n:Zt):LI:=WU n.routines [0,0,0,0]
theorem EJ:∀{xs:List Z4} {i:Nat} {s:Z4} (t:Z4),xs[i]? = some s->Y8 (xs.set i t)+s.sz=Y8 xs+t.sz
 | [],_,_,_,h=>by simp at h
 | x::r,0,s,t,h=>by simp at h;subst h;rw [List.set_cons_zero,Y8,Y8];omega
 | x::r,i+1,s,t,h=>by
  have:=EJ (xs:=r) (i:=i) t (by simpa using h)
  rw [List.set_cons_succ,Y8,Y8];omega
theorem Z2s (v:Int) (s:Z4):(TW v s).sz=s.sz:=by cases s;rw [TW,Z4.sz,Z4.sz];rfl
theorem IJ {xs:List Z4} {x:Int} {many:Nat} (h:¬(WX xs x<0∨We xs many<0)):(WX xs x).toNat<(We xs many).toNat:=by
 obtain ⟨h1,h2,_⟩:=CK (fun z=>h (.inl z))
 obtain ⟨h3,h4,_⟩:=JT (fun z=>h (.inr z))
 omega
theorem Eo {xs:List Z4} {x:Int} {many:Nat} (h:¬(WX xs x<0∨We xs many<0)) {t:Z4} {s:Z4} (hs:xs[(We xs many).toNat]? = some s):(xs.set (WX xs x).toNat t)[(We xs many).toNat]? = some s:=by
 have:=IJ h
 rw [List.getElem?_set_ne om];exact hs
theorem Np {xs:List Z4} {x:Int} {many:Nat} (h:∀s∈xs,Yl s.op=true->2<=s.sz):Y8 (VV xs x many)<=Y8 xs:=by
 rw [VV]
 split
 ·exact YX _
 ·rename_i hq
  obtain ⟨_,_,s,h3,h4,_⟩:=CK (fun z=>hq (.inl z))
  obtain ⟨_,_,t,h5,_,h6⟩:=JT (fun z=>hq (.inr z))
  have e1:=EJ (Zq 17 x) h3
  have e2:=EJ (TW (1+x) (A0 xs (We xs many))) (Eo hq (t:=Zq 17 x) h5)
  have h7:=h s (ZZ h3) (by rw [h4];rfl)
  rw [Ds] at e1
  rw [Z2s,h6] at e2
  rw [h6]
  omega
section
variable {ds:List Ze}
theorem Z9k {v:Int} {s:Z4} (h:wS ds s) (h6:s.op=6):wS ds (TW v s):=by
 obtain ⟨h1,h2,h3,h4⟩:=(Kl s).1 h
 exact (Kl _).2 ⟨h1,fun hc=>absurd hc (by show ¬Yl s.op=true;rw [h6];decide),h3,h4⟩
theorem Z9h {v:Int}:wS ds (Zq 17 v):=(Kl _).2 ⟨rfl,fun _=>⟨rfl,rfl,rfl,v,rfl⟩,fun e=>absurd e (show (17:Int)≠8 by decide),True.intro⟩
theorem Z9g {xs:List Z4} {x:Int} {many:Nat} (h:Q8 ds xs):Q8 ds (VV xs x many):=by
 rw [VV]
 split
 ·exact h
 ·rename_i hq
  obtain ⟨_,_,t,h5,h7,h6⟩:=JT (fun z=>hq (.inr z))
  rw [Jx]
  intro s hs
  rcases List.mem_or_eq_of_mem_set hs with hs|rfl
  ·rcases List.mem_or_eq_of_mem_set hs with hs|rfl
   ·exact Jx.1 h s hs
   ·exact Z9h
  ·rw [h6];exact Z9k (Jx.1 h t (ZZ h5)) h7.1.1
theorem Z9f {b:Z6} {x:Int} {many:Nat} (h:wB ds b):wB ds (VN b x many):=by rw [VN,QZ];exact Z9g ((QZ b).1 h)
variable (hd:Wd ds)
mutual
theorem Z5t:∀(s:Z4) {K:LI},wS ds s->(Q3 ds K s).sz<=s.sz
 | .mk op num into args kids,K,h=>by
  have:=NA kids (K:=K) (op:=op) (num:=num) (args:=args) (k:=0) h.2.2.2
  rw [Q3,Z4.sz,Z4.sz];omega
theorem NA:∀(bs:List Z6) {K:LI} {op num:Int} {args:LI} {k:Nat},Jw ds bs->YE (Uh ds K op num args bs k)<=YE bs
 | [],_,_,_,_,_,_=>YX _
 | b::r,K,op,num,args,k,h=>by
  have h2:=NA r (K:=K) (op:=op) (num:=num) (args:=args) (k:=k+1) h.2
  have key:∀K2:LI,(VN (Wh ds K2 b) (gI args 0) (Ue ds num k).length).sz<=b.sz:=fun K2=>by
   have h1:=H9 b (K:=K2) h.1
   have h3:=Np (xs:=(Wh ds K2 b).steps) (x:=gI args 0) (many:=(Ue ds num k).length) (by
    rw [Ep,Es]
    intro s hs hc
    obtain ⟨t,ht,rfl⟩:=XS.1 hs
    rw [Ad] at hc ⊢
    obtain ⟨_,_,a,ha⟩:=EQ (Jx.1 ((QZ b).1 h.1) t ht) hc
    rw [Z4.sz,ha];simp)
   rw [VN,Z6.sz]
   rw [Z6.sz_eq] at h1
   omega
  rw [Uh,YE,YE]
  split
  ·have:=key (if WX b.steps (gI args 0)<0∨We b.steps (Ue ds num k).length<0 then K else gI args 0::K)
   omega
  ·have:=H9 b (K:=K) h.1
   omega
theorem NC:∀(xs:List Z4) {K:LI},Q8 ds xs->Y8 (Ui ds K xs)<=Y8 xs
 | [],_,_=>YX _
 | s::r,K,h=>by
  have h1:=Z5t s (K:=K) h.1
  have h2:=NC r (K:=K) h.2
  rw [Ui,Y8,Y8];omega
theorem H9:∀(b:Z6) {K:LI},wB ds b->(Wh ds K b).sz<=b.sz
 | .mk steps result,K,h=>by
  have:=NC steps (K:=K) h
  rw [Wh,Z6.sz,Z6.sz];omega
end
end
theorem GN:∀{xs:List Z4} {i:Nat} {s t:Z4},xs[i]? = some s->Yl t.op=Yl s.op->YG (xs.set i t)=YG xs
 | [],_,_,_,h,_=>by simp at h
 | x::r,0,s,t,h,e=>by simp at h;subst h;rw [List.set_cons_zero,YG,YG,e]
 | x::r,i+1,s,t,h,e=>by
  rw [List.set_cons_succ,YG,YG,GN (xs:=r) (i:=i) (by simpa using h) e]
theorem Z3h {xs:List Z4} {x:Int} {many:Nat}:YG (VV xs x many)=YG xs:=by
 rw [VV]
 split
 ·rfl
 ·rename_i hq
  obtain ⟨_,_,s,h3,h4,_⟩:=CK (fun z=>hq (.inl z))
  obtain ⟨_,_,t,h5,_,h6⟩:=JT (fun z=>hq (.inr z))
  rw [GN (Eo hq (t:=Zq 17 x) h5) (by rw [h6];rfl),GN h3 (by rw [h4];rfl)]
theorem I7 {op x:Int}:∀{xs:List Z4} {k:Int},(∀s∈xs,s.op≠op)->XC op x xs k=-1
 | [],_,_=>rfl
 | s::r,k,h=>by
  rw [XC,Z9 (fun z=>h s (X4 ..) z.1)]
  exact I7 fun t ht=>h t (Xo _ ht)
theorem I8 {op x:Int}:∀{xs:List Z4} {k:Int},0<=k->(∃s∈xs,s.op=op/\gI s.args 0=x)->0<=XC op x xs k
 | [],_,_,h=>by obtain ⟨s,hs,_⟩:=h;cases hs
 | s::r,k,hk,h=>by
  rw [XC]
  split
  ·exact hk
  ·rename_i q
   obtain ⟨t,ht,h1⟩:=h
   rcases YJ.1 ht with rfl|ht
   ·exact absurd h1 q
   ·exact I8 om ⟨t,ht,h1⟩
theorem OC {xs:List Z4} {x:Int} {many:Nat} (hn:Ke xs):0<=XC 17 x ((VV xs x many).take (YG (VV xs x many))) 0↔¬(WX xs x<0∨We xs many<0):=by
 rw [Z3h]
 constructor
 ·intro h hq
  rw [VV,Zg hq,I7 (fun s hs=>((BF s).1 (CG.1 hn s (TL hs))).1)] at h
  omega
 ·intro hq
  obtain ⟨h1,h2,s,h3,h4,_⟩:=CK (fun z=>hq (.inl z))
  have hap:=IJ hq
  refine I8 (Int.le_refl 0) ⟨Zq 17 x,?_,rfl,rfl⟩
  rw [VV,Z9 hq]
  refine ZZ (i:=(WX xs x).toNat) ?_
  rw [List.getElem?_take_of_lt om,List.getElem?_set_ne om,List.getElem?_set_self (Xr.1 h3).1]
def A9 (b:Z6):Prop:=∀s∈b.steps,Kd s.kids
theorem AS {b:Z6} (h:T6 b):A9 b:=fun s hs=>((BF s).1 (CG.1 ((CF b).1 h) s hs)).2
theorem Z4b {b:Z6} {k j:Nat} {s:Z4} {c:Z6} (h:A9 b) (hs:b.steps[k]? = some s) (hc:s.kids[j]? = some c):T6 c:=Ee.1 (h s (ZZ hs)) c (ZZ hc)
theorem MP {b:Z6} {x:Int} {many:Nat} (h:T6 b):A9 (VN b x many):=by
 intro s hs
 have hs:s∈VV b.steps x many:=hs
 rw [VV] at hs
 split at hs
 ·exact AS h s hs
 ·rename_i hq
  obtain ⟨_,_,t,h5,_,h6⟩:=JT (fun z=>hq (.inr z))
  rcases List.mem_or_eq_of_mem_set hs with hs|rfl
  ·rcases List.mem_or_eq_of_mem_set hs with hs|rfl
   ·exact AS h s hs
   ·exact True.intro
  ·rw [h6];exact AS h t (ZZ h5)
theorem Z58 {ds:List Ze} {b:Z6} {x:Int} {many:Nat} (h:wB ds b):(VN b x many).sz<=b.sz:=by
 have:=Np (xs:=b.steps) (x:=x) (many:=many) fun s hs hc=>by
  have h7:=F4 ((QZ b).1 h) s hs hc
  rw [h7,Ds];omega
 rw [VN,Z6.sz,b.sz_eq];omega
def Ac (ds:List Ze) (r:ZY):ZY:=⟨r.params,r.lent,r.result,Wh ds [] r.body⟩
def Er (n:Zt):Zt:=⟨n.decls,n.routines.map (Ac n.decls)⟩
theorem Sf {xs ys:LI} (h:xs.length=ys.length) (ha:∀i,i<xs.length->xs[i]? = ys[i]?):xs=ys:=List.ext_getElem? fun i=>by
 by_cases hi:i<xs.length
 ·exact ha i hi
 ·rw [EX om,EX om]
def WQ (b:Z6) (q:Nat) (xs:List Z4):Z6:=.mk (b.steps.take q++xs++b.steps.drop q) b.result
theorem Mz:∀{xs:List Z4},xs.length<=Y8 xs
 | []=>Qa _
 | x::r=>by have:=Mz (xs:=r);have:=x.sz_pos;rw [Y8,YK];omega
theorem Z3r (b:Z6):b.steps.length<=b.sz:=by have:=b.sz_eq;have:=Mz (xs:=b.steps);omega
mutual
def Z1.sz:Z1->Nat
 | .mk _ _ kids=>1+X9 kids
def X9:List Z1->Nat
 | []=>0
 | e::r=>e.sz+X9 r
end
theorem Z1.sz_eq (e:Z1):e.sz=1+X9 e.kids:=by cases e;rw [Z1.sz];rfl
theorem Cb:∀xs ys:List Z1,X9 (xs++ys)=X9 xs+X9 ys
 | [],ys=>by simp [X9]
 | x::r,ys=>by rw [Qv,X9,X9,Cb r];omega
theorem AG:∀{xs:List Z1} {k:Nat} {e:Z1},xs[k]? = some e->e.sz<=X9 xs
 | [],k,e,h=>by simp at h
 | x::r,0,e,h=>by simp at h;subst h;rw [X9];omega
 | x::r,k+1,e,h=>by have:=AG (xs:=r) (k:=k) (by simpa using h);rw [X9];omega
theorem L8:∀{xs:List Z1},xs.length<=X9 xs
 | []=>Qa _
 | x::r=>by have:=L8 (xs:=r);have:=x.sz_eq;rw [X9,YK];omega
def J2:Ze:=⟨0,0,[⟨[]⟩,⟨[0,1]⟩]⟩
def J3:Ze:=⟨0,0,[⟨[]⟩,⟨[3,0,3]⟩]⟩
def IR:List Ze:=[⟨0,0,[⟨[1,3]⟩]⟩,⟨1,0,[]⟩,⟨0,0,[⟨[1,1,0]⟩,⟨[0]⟩,⟨[3]⟩]⟩,⟨0,1,[]⟩]
def Jd:List (List Ze):=[[J2,⟨0,0,[]⟩,J3],[J2,⟨0,0,[]⟩,J3,⟨0,0,[⟨[1,3]⟩]⟩],[J2,⟨0,0,[]⟩,J3,⟨1,0,[]⟩],[J2,⟨0,0,[]⟩,J3,⟨0,0,[⟨[1,1,0]⟩,⟨[0]⟩,⟨[3]⟩]⟩],[J2,⟨0,0,[]⟩,J3,⟨0,1,[]⟩]]
def GD (ds:List Ze):Prop:=ds∈Jd
theorem GD.ok {ds:List Ze} (h:GD ds):Wd ds:=by
 have k:=(by decide:∀ds∈Jd,ds.length<=4/\(∀d∈ds,d.cons.length<=3)/\∀d∈ds,∀c∈d.cons,c.fields.length<=3) ds h
 exact ⟨k.1,k.2.1,k.2.2⟩
theorem GD.len {ds:List Ze} (h:GD ds):3<=ds.length/\ds.length<=4:=by
 exact (by decide:∀ds∈Jd,3<=ds.length/\ds.length<=4) ds h
def QN (t:Int):Prop:=t=0∨t=1∨t=3
instance (t:Int):Decidable (QN t):=inferInstanceAs (Decidable (_∨_∨_))
theorem GD.low {ds:List Ze} (h:GD ds):ZQ ds 0=[]/\ZQ ds 1=[0,1]/\ZQ ds 2=[]/\ZQ ds 3=[2,3]/\ZU ds 0=[]/\ZU ds 1=[0,1]/\ZU ds 2=[]/\ZU ds 3=[3,0,3]:=
 (by decide:∀ds∈Jd,ZQ ds 0=[]/\ZQ ds 1=[0,1]/\ZQ ds 2=[]/\ZQ ds 3=[2,3]/\ZU ds 0=[]/\ZU ds 1=[0,1]/\ZU ds 2=[]/\ZU ds 3=[3,0,3]) ds h
theorem GD.fields {ds:List Ze} (h:GD ds):∀c∈ZQ ds 1++(ZQ ds 3++ZQ ds 4),∀t∈ZU ds c,QN t:=
 (by decide:∀ds∈Jd,∀c∈ZQ ds 1++(ZQ ds 3++ZQ ds 4),∀t∈ZU ds c,QN t) ds h
theorem GD.cons_cases {ds:List Ze} (h:GD ds) {t:Int} {c:Int} (hc:c∈ZQ ds t):(0<=c/\c<=9)/\(t=1∨t=3∨t=4)/\(ZU ds c).length<=3/\∀u∈ZU ds c,QN u:=by
 have ht:1<=t/\t<=ds.length:=by
  by_cases q:1<=t/\t<=ds.length
  ·exact q
  ·rw [ZQ,Z9 q] at hc;cases hc
 have hl:=h.len
 have hlow:=h.low
 have key:∀c∈ZQ ds 1++(ZQ ds 3++ZQ ds 4),0<=c/\c<=9:=
  (by decide:∀ds∈Jd,∀c∈ZQ ds 1++(ZQ ds 3++ZQ ds 4),0<=c/\c<=9) ds h
 have h4:t=1∨t=2∨t=3∨t=4:=by omega
 have hf:=h.fields
 have hd:=VG h.ok c
 rcases h4 with rfl|rfl|rfl|rfl
 ·exact ⟨key c (Xe.2 (.inl hc)),.inl rfl,hd,hf c (Xe.2 (.inl hc))⟩
 ·rw [hlow.2.2.1] at hc;cases hc
 ·exact ⟨key c (Xe.2 (.inr (Xe.2 (.inl hc)))),.inr (.inl rfl),hd,hf c (Xe.2 (.inr (Xe.2 (.inl hc))))⟩
 ·exact ⟨key c (Xe.2 (.inr (Xe.2 (.inr hc)))),.inr (.inr rfl),hd,hf c (Xe.2 (.inr (Xe.2 (.inr hc))))⟩
def Ks:List (LI × Int):=[([],0),([1],0),([1,1],1),([1],1),([1,0],1),([2,1],1),([1,1],0),([3],0),([0],1),([0,1],1),([3,0],3),([3],1),([1,3,0],0),([0],0),([0,0],0),([1,0],0)]
def UP (f:Func):Prop:=(f.params,f.result)∈Ks
theorem UP.bd {f:Func} (h:UP f):f.params.length<=3/\(∀t∈f.params,0<=t/\t<=3)/\QN f.result:=by
 have key:∀q∈Ks,q.1.length<=3/\(∀t∈q.1,0<=t/\t<=3)/\QN q.2:=by decide
 exact key _ h
theorem UP.clo {ds:List Ze} {f:Func} (hd:GD ds) (h:UP f) (hp:0<VF ds (gI f.params ((f.params.length:Int)-1)) f.result):∀t∈f.params.dropLast,QN t:=by
 have key:∀q∈Ks,0<VF ds (gI q.1 ((q.1.length:Int)-1)) q.2->∀t∈q.1.dropLast,QN t:=
  (by decide +kernel:∀ds∈Jd,∀q∈Ks,0<VF ds (gI q.1 ((q.1.length:Int)-1)) q.2->∀t∈q.1.dropLast,QN t) ds hd
 exact key _ h hp
structure GP (p:XF):Prop where
 decls:GD p.decls
 len:1<=p.funcs.length/\p.funcs.length<=4
 sigs:∀f∈p.funcs,UP f
def Tb (ds:List Ze) (op num:Int) (m:Nat) (k:Nat):Nat:=
 if op=13 then m+k else if op=8 then (if k=0 then m else m+(ZU ds (gI (ZQ ds num) ((k:Int)-1))).length) else m
mutual
def eW (ds:List Ze) (nf:Nat):Nat->Z1->Prop
 | m,.mk op num kids=>(0<=op/\op<=13)/\(op=12->kids=[]/\0<=num/\num<m)/\(op=13->kids.length=2)/\(op=7->kids.length=3)/\(op=8->kids.length=1+(ZQ ds num).length)/\(op=9->0<=num/\num<nf)/\(-2000<=num/\num<=2000)/\kids.length<=4 /\
  TS ds nf (Tb ds op num m) 0 kids
def TS (ds:List Ze) (nf:Nat) (sc:Nat->Nat):Nat->List Z1->Prop
 | _,[]=>True
 | k,e::r=>eW ds nf (sc k) e/\TS ds nf sc (k+1) r
end
theorem Sa {ds:List Ze} {nf m:Nat} (e:Z1):eW ds nf m e↔(0<=e.op/\e.op<=13)/\(e.op=12->e.kids=[]/\0<=e.num/\e.num<m)/\(e.op=13->e.kids.length=2)/\(e.op=7->e.kids.length=3)/\(e.op=8->e.kids.length=1+(ZQ ds e.num).length)/\(e.op=9->0<=e.num/\e.num<nf)/\(-2000<=e.num/\e.num<=2000)/\e.kids.length<=4 /\
  TS ds nf (Tb ds e.op e.num m) 0 e.kids:=by cases e;rw [eW];rfl
theorem Bn {ds:List Ze} {nf:Nat} {sc:Nat->Nat}:∀{xs:List Z1} {j k:Nat} {e:Z1},TS ds nf sc j xs->xs[k]? = some e->eW ds nf (sc (j+k)) e
 | [],j,k,e,_,h=>by simp at h
 | x::r,j,0,e,hw,h=>by simp at h;subst h;exact hw.1
 | x::r,j,k+1,e,hw,h=>by
  have:=Bn (xs:=r) (j:=j+1) (k:=k) hw.2 (by simpa using h)
  rw [show j+(k+1)=j+1+k by omega];exact this
theorem L4 {ds:List Ze} {nf:Nat} {sc:Nat->Nat}:∀{xs ys:List Z1} {j:Nat},TS ds nf sc j (xs++ys)↔TS ds nf sc j xs/\TS ds nf sc (j+xs.length) ys
 | [],ys,j=>by simp [TS]
 | x::r,ys,j=>by
  rw [Qv,TS,TS,L4 (xs:=r),and_assoc,YK,show j+1+r.length=j+(r.length+1) by omega]
theorem FX {ds:List Ze} {nf m:Nat} {sc:Nat->Nat} (hs:∀k,sc k=m):∀{xs:List Z1} {j:Nat},(∀e∈xs,eW ds nf m e)->TS ds nf sc j xs
 | [],_,_=>True.intro
 | x::r,j,h=>⟨by rw [hs];exact h x (X4 ..),FX hs fun e he=>h e (Xo _ he)⟩
theorem AF {ds:List Ze} {nf m:Nat} {op num:Int} {kids:List Z1} (ho:0<=op/\op<=11/\op≠7/\op≠8) (hc:op=9->0<=num/\num<nf) (hn:-2000<=num/\num<=2000) (hl:kids.length<=4) (hk:∀e∈kids,eW ds nf m e):eW ds nf m (.mk op num kids):=by
 rw [eW]
 refine ⟨by omega,fun h=>by omega,fun h=>by omega,fun h=>by omega,fun h=>by omega,hc,hn,hl,FX (m:=m) (fun k=>?_) hk⟩
 rw [Tb,Z9 om,Z9 om]
theorem Sb {ds:List Ze} {nf m:Nat} {z:Int} (hz:-2000<=z/\z<=2000):eW ds nf m (.mk 0 z []):=AF om (fun h=>by omega) hz (by simp) (fun e he=>by cases he)
theorem Sc {ds:List Ze} {nf m:Nat} {z:Int} (hz:0<=z/\z<m) (hm:m<=2000):eW ds nf m (.mk 12 z []):=by
 rw [eW]
 exact ⟨by omega,fun _=>⟨rfl,hz⟩,fun h=>by omega,fun h=>by omega,fun h=>by omega,fun h=>by omega,by omega,by simp,True.intro⟩
theorem IZ {ds:List Ze} {nf m:Nat} {num:Int} {kids:List Z1} (hn:-2000<=num/\num<=2000) (hl:kids.length=3) (hk:∀e∈kids,eW ds nf m e):eW ds nf m (.mk 7 num kids):=by
 rw [eW]
 refine ⟨by omega,fun h=>by omega,fun h=>by omega,fun _=>hl,fun h=>by omega,fun h=>by omega,hn,by omega,FX (m:=m) (fun k=>?_) hk⟩
 rw [Tb,Z9 om,Z9 om]
theorem L0 {ds:List Ze} {nf m:Nat} {num:Int} {a b:Z1} (hn:-2000<=num/\num<=2000) (ha:eW ds nf m a) (hb:eW ds nf (m+1) b):eW ds nf m (.mk 13 num [a,b]):=by
 rw [eW]
 exact ⟨by omega,fun h=>by omega,fun _=>rfl,fun h=>by omega,fun h=>by omega,fun h=>by omega,hn,by simp,ha,hb,True.intro⟩
theorem FW {ds:List Ze} {nf m:Nat} {num:Int} {a:Z1} {arms:List Z1} (hn:-2000<=num/\num<=2000) (h3:arms.length<=3) (hl:arms.length=(ZQ ds num).length) (ha:eW ds nf m a) (hk:TS ds nf (Tb ds 8 num m) 1 arms):eW ds nf m (.mk 8 num (a::arms)):=by
 rw [eW]
 refine ⟨by omega,fun h=>by omega,fun h=>by omega,fun h=>by omega,fun _=>by rw [YK];omega,fun h=>by omega,hn,by rw [YK];omega,?_,hk⟩
 rw [Tb,Z9 om,Zg rfl,Zg rfl]
 exact ha
def bS (b:Nat):Nat:=max 4 (10*b-10)
def bC (b:Nat):Nat:=max 40 (100*b-100)
def YL:List Z4->Nat
 | []=>0
 | s::r=>(if Yl s.op=true then 0 else 1)+YL r
theorem K4:∀xs ys:List Z4,YL (xs++ys)=YL xs+YL ys
 | [],ys=>by simp [YL]
 | x::r,ys=>by rw [Qv,YL,YL,K4 r];omega
theorem AB:∀xs:List Z4,YL xs<=xs.length
 | []=>YX _
 | x::r=>by have:=AB r;rw [YL,YK];split<;>omega
def Uu (ds:List Ze) (op num:Int) (m:Nat) (k:Nat):Nat:=if op=8 then m+(ZU ds (gI (ZQ ds num) k)).length else m
mutual
def fS (ds:List Ze) (nf:Nat):Nat->Z4->Prop
 | m,.mk op num into args kids=>((0<=op/\op<=11)∨(14<=op/\op<=17))/\(∀a∈args,0<=a/\a<m)/\(14<=op->num=0/\into=0/\kids=[]/\∃a,args=[a])/\(op=7->kids.length=2)/\(op=8->kids.length=(ZQ ds num).length)/\(op=7∨op=8->∃a,args=[a]) /\
  (op=9->0<=num/\num<nf)/\(-2000<=num/\num<=2000)/\(0<=into/\into<=m)/\args.length<=4/\(op≠7/\op≠8->kids=[])/\T2 ds nf (Uu ds op num m) 0 kids
def T2 (ds:List Ze) (nf:Nat) (sc:Nat->Nat):Nat->List Z6->Prop
 | _,[]=>True
 | k,b::r=>fB ds nf (sc k) b/\T2 ds nf sc (k+1) r
def UD (ds:List Ze) (nf:Nat):Nat->List Z4->Prop
 | _,[]=>True
 | m,s::r=>fS ds nf m s/\UD ds nf (if Yl s.op=true then m else m+1) r
def fB (ds:List Ze) (nf:Nat):Nat->Z6->Prop
 | m,.mk steps result=>UD ds nf m steps/\0<=result/\result<(m+YL steps:Nat)
end
section
variable {ds:List Ze} {nf:Nat}
structure FS (ds:List Ze) (nf m:Nat) (s:Z4):Prop where
 op:(0<=s.op/\s.op<=11)∨(14<=s.op/\s.op<=17)
 args:∀a∈s.args,0<=a/\a<m
 cnt:14<=s.op->s.num=0/\s.into=0/\s.kids=[]/\∃a,s.args=[a]
 k7:s.op=7->s.kids.length=2
 k8:s.op=8->s.kids.length=(ZQ ds s.num).length
 one:s.op=7∨s.op=8->∃a,s.args=[a]
 call:s.op=9->0<=s.num/\s.num<nf
 num:-2000<=s.num/\s.num<=2000
 into:0<=s.into/\s.into<=m
 alen:s.args.length<=4
 kn:s.op≠7/\s.op≠8->s.kids=[]
 kids:T2 ds nf (Uu ds s.op s.num m) 0 s.kids
theorem DE {m:Nat} (s:Z4):fS ds nf m s↔FS ds nf m s:=by
 cases s
 rw [fS]
 exact ⟨fun ⟨h1,h2,h3,h4,h5,h6,h7,h8,h9,h10,h11,h12⟩=>⟨h1,h2,h3,h4,h5,h6,h7,h8,h9,h10,h11,h12⟩,fun h=>⟨h.op,h.args,h.cnt,h.k7,h.k8,h.one,h.call,h.num,h.into,h.alen,h.kn,h.kids⟩⟩
theorem Cd {m:Nat} (b:Z6):fB ds nf m b↔UD ds nf m b.steps/\0<=b.result/\b.result<(m+YL b.steps:Nat):=by cases b;rw [fB];rfl
theorem Ce {sc:Nat->Nat}:∀{xs:List Z6} {j k:Nat} {b:Z6},T2 ds nf sc j xs->xs[k]? = some b->fB ds nf (sc (j+k)) b
 | [],j,k,b,_,h=>by simp at h
 | x::r,j,0,b,hw,h=>by simp at h;subst h;exact hw.1
 | x::r,j,k+1,b,hw,h=>by
  have:=Ce (xs:=r) (j:=j+1) (k:=k) hw.2 (by simpa using h)
  rw [show j+(k+1)=j+1+k by omega];exact this
theorem La {sc:Nat->Nat}:∀{xs ys:List Z6} {j:Nat},T2 ds nf sc j (xs++ys)↔T2 ds nf sc j xs/\T2 ds nf sc (j+xs.length) ys
 | [],ys,j=>by simp [T2]
 | x::r,ys,j=>by
  rw [Qv,T2,T2,La (xs:=r),and_assoc,YK,show j+1+r.length=j+(r.length+1) by omega]
theorem Lb {sc:Nat->Nat} {xs:List Z6} {b:Z6} (h:T2 ds nf sc 0 xs) (hb:fB ds nf (sc xs.length) b):T2 ds nf sc 0 (xs++[b]):=
 La.2 ⟨h,by rw [WG];exact hb,True.intro⟩
theorem Bp:∀{xs ys:List Z4} {m:Nat},UD ds nf m (xs++ys)↔UD ds nf m xs/\UD ds nf (m+YL xs) ys
 | [],ys,m=>by simp [UD,YL]
 | x::r,ys,m=>by
  rw [Qv,UD,UD,Bp (xs:=r),and_assoc,YL]
  by_cases h:Yl x.op=true
  ·rw [Zg h,Zg h,WG]
  ·rw [Z9 h,Z9 h,JC]
theorem DF {xs:List Z4} {s:Z4} {m:Nat} (h:UD ds nf m xs) (hs:fS ds nf (m+YL xs) s):UD ds nf m (xs++[s]):=Bp.2 ⟨h,hs,True.intro⟩
theorem Cf:∀{xs:List Z4} {k m:Nat} {s:Z4},UD ds nf m xs->xs[k]? = some s->fS ds nf (m+YL (xs.take k)) s
 | [],k,m,s,_,h=>by simp at h
 | x::r,0,m,s,hw,h=>by simp at h;subst h;exact hw.1
 | x::r,k+1,m,s,hw,h=>by
  have:=Cf (xs:=r) (k:=k) hw.2 (by simpa using h)
  rw [B5,YL]
  by_cases hc:Yl x.op=true
  ·rw [Zg hc] at this ⊢;rw [WG];exact this
  ·rw [Z9 hc] at this ⊢;rw [<-JC];exact this
mutual
theorem Z9l:∀(s:Z4) {m:Nat},fS ds nf m s->m+4*s.sz<=900000000->Wd ds->wS ds s
 | .mk op num into args kids,m,h,hb,hd=>by
  rw [fS] at h
  obtain ⟨h1,h2,h3,h4,h5,h6,h7,h8,h9,h10,h11,h12⟩:=h
  rw [Z4.sz] at hb
  rw [wS]
  refine ⟨?_,fun hc=>h3 (show 14<=op/\op<=17 by simpa [Yl] using hc).1,fun h8'=>⟨?_,h5 h8'⟩,OQ kids h12 (fun k=>?_) hd⟩
  ·rcases h1 with h1|h1
   ·have e1:Yl op=false:=by simp [Yl];omega
    have e2:Xz op=true:=by simp [Xz];omega
    rw [e1,e2];rfl
   ·have e1:Yl op=true:=by simp [Yl];omega
    have e2:Xz op=false:=by simp [Xz];omega
    rw [e1,e2];rfl
  ·obtain ⟨a,ha⟩:=h6 (.inr h8')
   have:=h2 a (by rw [ha];exact XT.2 rfl)
   exact ⟨a,ha,by omega⟩
  ·have hf:=VG hd (gI (ZQ ds num) k)
   show Uu ds op num m k+4*YE kids<=900000003
   rw [Uu];split<;>omega
theorem OQ:∀(bs:List Z6) {sc:Nat->Nat} {k:Nat},T2 ds nf sc k bs->(∀k,sc k+4*YE bs<=900000003)->Wd ds->Jw ds bs
 | [],_,_,_,_,_=>True.intro
 | b::r,sc,k,h,hb,hd=>by
  have hp:=b.sz_eq
  exact ⟨OP b h.1 (by have:=hb k;rw [YE] at this;omega) hd,OQ r h.2 (fun j=>by have:=hb j;rw [YE] at this;omega) hd⟩
theorem OR:∀(xs:List Z4) {m:Nat},UD ds nf m xs->m+4*Y8 xs<=900000000->Wd ds->Q8 ds xs
 | [],_,_,_,_=>True.intro
 | s::r,m,h,hb,hd=>by
  rw [Y8] at hb
  have hp:=s.sz_pos
  refine ⟨Z9l s h.1 om hd,OR r h.2 ?_ hd⟩
  split<;>omega
theorem OP:∀(b:Z6) {m:Nat},fB ds nf m b->m+4*b.sz<=900000004->Wd ds->wB ds b
 | .mk steps result,m,h,hb,hd=>by
  rw [Z6.sz] at hb
  rw [fB] at h
  rw [wB]
  exact OR steps h.1 om hd
end
mutual
theorem Z5d:∀(s:Z4) {m:Nat},fS ds nf m s->s.rng
 | .mk op num into args kids,m,h=>by
  rw [fS] at h
  obtain ⟨h1,h2,h3,h4,h5,h6,h7,h8,h9,h10,h11,h12⟩:=h
  rw [Z4.rng]
  exact ⟨by omega,Nr kids h12⟩
theorem Nr:∀(bs:List Z6) {sc:Nat->Nat} {k:Nat},T2 ds nf sc k bs->Tw bs
 | [],_,_,_=>True.intro
 | b::r,sc,k,h=>⟨H3 b h.1,Nr r h.2⟩
theorem Ns:∀(xs:List Z4) {m:Nat},UD ds nf m xs->Q7 xs
 | [],_,_=>True.intro
 | s::r,m,h=>⟨Z5d s h.1,Ns r h.2⟩
theorem H3:∀(b:Z6) {m:Nat},fB ds nf m b->b.rng
 | .mk steps result,m,h=>by rw [fB] at h;rw [Z6.rng];exact Ns steps h.1
end
end
structure FN (n:Zt) (q:Nat):Prop where
 decls:GD n.decls
 len:1<=n.routines.length/\n.routines.length<=4
 sigs:∀r∈n.routines,(r.params,r.result)∈Ks
 lent:∀r∈n.routines,r.lent.length<=3/\∀i∈r.lent,0<=i/\i<r.params.length
 body:∀r∈n.routines,fB n.decls n.routines.length r.params.length r.body/\r.body.sz<=q
theorem FN.ok {n:Zt} {q:Nat} (h:FN n q):X0 n:=
 ⟨h.decls.ok,h.len.2,fun r hr=>(UP.bd (f:=⟨r.params,r.result,default⟩) (h.sigs r hr)).1,fun r hr=>by have:=(h.lent r hr).1;omega⟩
def Pk (n k:Int):Prop:=0<=k/\(0<n->k<n)/\(n<=0->k=0)
theorem Pk.lt {n k:Int} (h:Pk n k) (hn:0<n):0<=k/\k<n:=⟨h.1,h.2.1 hn⟩
theorem Pk.zero {n:Int}:Pk n 0:=⟨Int.le_refl _,fun h=>h,fun _=>rfl⟩
theorem Pk.rem {n a:Int} (ha:0<=a) (hn:0<n):Pk n (a % n):=⟨Int.emod_nonneg _ om,fun _=>Int.emod_lt_of_pos _ hn,fun _=>by omega⟩
def AD (ds:List Ze):Prop:=ds.length<=8/\∀d∈ds,d.cons.length<=4/\∀c∈d.cons,c.fields.length<=4
theorem GD.ad {ds:List Ze} (h:GD ds):AD ds:=(by decide:∀ds∈Jd,ds.length<=8/\∀d∈ds,d.cons.length<=4/\∀c∈d.cons,c.fields.length<=4) ds h
theorem AD.set {ds:List Ze} (h:AD ds) (k:Nat) {d:Ze} (hd:d.cons.length<=4/\∀c∈d.cons,c.fields.length<=4):AD (ds.set k d):=
 ⟨by rw [VP];exact h.1,fun x hx=>(List.mem_or_eq_of_mem_set hx).elim (h.2 x) fun e=>by rw [e];exact hd⟩
theorem AD.app {ds es:List Ze} (h:AD ds) (hl:ds.length+es.length<=8) (hd:∀d∈es,d.cons.length<=4/\∀c∈d.cons,c.fields.length<=4):AD (ds++es):=
 ⟨by rw [Ym];exact hl,fun x hx=>(Xe.1 hx).elim (h.2 x) (hd x)⟩
theorem GD.three:GD [J2,⟨0,0,[]⟩,J3]:=List.Mem.head _
theorem GD.four:∀{k:Nat} {x:Ze},IR[k]? = some x->GD ([J2,⟨0,0,[]⟩,J3]++[x])
 | 0,x,h=>by cases h;exact .tail _ (.head _)
 | 1,x,h=>by cases h;exact .tail _ (.tail _ (.head _))
 | 2,x,h=>by cases h;exact .tail _ (.tail _ (.tail _ (.head _)))
 | 3,x,h=>by cases h;exact .tail _ (.tail _ (.tail _ (.tail _ (.head _))))
 | k+4,x,h=>by simp [IR] at h
theorem Aa {l:LI} {z a b:Int} (h:z∈l) (hl:l.all (fun x=>decide (a<=x/\x<=b))=true):a<=z/\z<=b:=by
 have:=Kn.1 hl z h
 exact of_decide_eq_true this
def rk (t:Int):Nat:=if QN t then 0 else 1
theorem H2 (t:Int):rk t<=1:=by rw [rk];split<;>omega
theorem Nq {t:Int} (h:QN t):rk t=0:=Zg h
def SE (g:XF) (q:Nat) (e:Z1):Prop:=(∀m,eW g.decls g.funcs.length m e)/\e.sz<=q
def GE (g:XF) (m q:Nat) (e:Z1):Prop:=eW g.decls g.funcs.length m e/\e.sz<=q
theorem SE.ge {g:XF} {q q' m:Nat} {e:Z1} (h:SE g q e) (hq:q<=q'):GE g m q' e:=⟨h.1 m,Wj h.2 hq⟩
theorem GE.le {g:XF} {m q q':Nat} {e:Z1} (h:GE g m q e) (hq:q<=q'):GE g m q' e:=⟨h.1,Wj h.2 hq⟩
theorem DD {m:Nat}:∀{xs:List Z1},(∀e∈xs,e.sz<=m)->X9 xs<=xs.length*m
 | [],_=>Qa _
 | x::r,h=>by
  have h1:=h x (X4 ..)
  have h2:=DD (xs:=r) fun e he=>h e (Xo _ he)
  rw [X9,YK,Ts];omega
theorem Xc {α:Type} {p:α->Prop} {xs:List α} {a:α} (h:∀x∈xs,p x) (ha:p a):∀x∈xs++[a],p x:=fun x hx=>(Xe.1 hx).elim (h x) fun q=>by rw [XT.1 q];exact ha
theorem SE.int {g:XF} {z:Int} {q:Nat} (hz:-2000<=z/\z<=2000) (hq:1<=q):SE g q (.mk 0 z []):=⟨fun _=>Sb hz,by simpa [Z1.sz,X9] using hq⟩
theorem SE.node {g:XF} {op num:Int} {ys:List Z1} {q k:Nat} (ho:op=6∨op=10) (hn:0<=num/\num<=2000) (hy:∀e∈ys,SE g 1 e) (hl:ys.length<=k) (hk:k<=3) (hq:1+k<=q):SE g q (.mk op num ys):=by
 refine ⟨fun m=>AF om (fun h=>by omega) om om fun e he=>(hy e he).1 m,?_⟩
 have:=DD (xs:=ys) (m:=1) fun e he=>(hy e he).2
 rw [Z1.sz];omega
def JI (ds:List Ze) (t c:Int):Prop:=(0<=c/\c<=9)/\(ZU ds c).length<=3*rk t/\∀u∈ZU ds c,QN u
instance (ds:List Ze) (t c:Int):Decidable (JI ds t c):=inferInstanceAs (Decidable (_/\_/\_))
theorem NM {ds:List Ze} (h:GD ds):∀t∈[(1:Int),2,3,4],∀c∈ZQ ds t,(t∈ZU ds c->∀c0,(ZQ ds t)[0]? = some c0->JI ds t c0)/\(¬t∈ZU ds c->JI ds t c):=by
 intro t ht c hc
 have k1:=(by decide:∀ds∈Jd,∀t∈[(1:Int),2,3,4],∀c∈ZQ ds t,(t∈ZU ds c->JI ds t (gI (ZQ ds t) 0))/\(¬t∈ZU ds c->JI ds t c)) ds h t ht c hc
 refine ⟨fun q c0 h0=>?_,k1.2⟩
 have:=k1.1 q
 rwa [VJ (i:=0) h0] at this
theorem IL {ds:List Ze} (h:GD ds) {t c:Int} (hc:c∈ZQ ds t):t∈[(1:Int),2,3,4]:=by
 obtain ⟨_,h2,_⟩:=h.cons_cases hc
 rcases h2 with rfl|rfl|rfl<;>simp
theorem Z6b {ds:List Ze} (h:GD ds) {t c c0:Int} (hc:c∈ZQ ds t) (ht:t∈ZU ds c) (h0:(ZQ ds t)[0]? = some c0):JI ds t c0:=(NM h t (IL h hc) c hc).1 ht c0 h0
theorem Z6a {ds:List Ze} (h:GD ds) {t c:Int} (hc:c∈ZQ ds t) (ht:¬t∈ZU ds c):JI ds t c:=(NM h t (IL h hc) c hc).2 ht
theorem Z5c {ds:List Ze} (h:GD ds) {t:Int} (h0:(ZQ ds t).length=0) (ht:0<t):rk t=1:=by
 rw [rk,Z9]
 rintro (q|q|q)
 ·omega
 ·rw [q,h.low.2.1] at h0;cases h0
 ·rw [q,h.low.2.2.2.1] at h0;cases h0
def KV (g:XF) (t i:Int):Prop:=0<=i/\∃f,g.funcs[i.toNat]? = some f/\0<f.params.length/\VF g.decls (gI f.params ((f.params.length:Int)-1)) f.result=t
theorem KV.lt {g:XF} {t i:Int} (h:KV g t i):0<=i/\i<g.funcs.length:=by
 obtain ⟨h1,f,h2,_⟩:=h
 have:=(Xr.1 h2).1
 omega
theorem KV.mk {g:XF} {t x2:Int} {k:Nat} {f:Func} (hf:g.funcs[k]? = some f) (hl:0<f.params.length) (hx:f.params[f.params.length-1]? = some x2) (ha:VF g.decls x2 f.result=t):KV g t (k:Int):=by
 refine ⟨by omega,f,by simpa using hf,hl,?_⟩
 rw [VJ (i:=(f.params.length:Int)-1) (by rw [show ((f.params.length:Int)-1).toNat=f.params.length-1 by omega];exact hx)]
 exact ha
theorem KV.low {g:XF} {t i u:Int} {f:Func} {j:Nat} (hg:GP g) (h:KV g t i) (ht:0<t) (hf:g.funcs[i.toNat]? = some f) (hj:j+1<f.params.length) (hu:f.params[j]? = some u):rk u=0:=by
 obtain ⟨_,f',h2,_,h4⟩:=h
 have e:f'=f:=JD (h2.symm.trans hf)
 subst e
 have h5:=(hg.sigs f' (ZZ hf)).clo hg.decls (by rw [h4];exact ht)
 refine Nq (h5 u ?_)
 rw [List.dropLast_eq_take]
 exact ZZ (i:=j) (by rw [List.getElem?_take_of_lt om];exact hu)
end Go.Abs
section
namespace Go.Abs
theorem Kw (b:Nat):bS b=max 4 (10*b-10):=rfl
theorem Kv (b:Nat):bC b=max 40 (100*b-100):=rfl
theorem CE {L q b:Nat} (hL:L<=3) (hb:3<=b) (hq:L*q<=b-1):1+L*bS q<=bS b:=by
 rw [Kw,Kw]
 have:L=0∨L=1∨L=2∨L=3:=by omega
 rcases this with rfl|rfl|rfl|rfl<;>omega
theorem Z41 {L q b:Nat} (hL:L<=3) (hb:3<=b) (hq:L*q<=b-2):5+L*bS q<=bS b:=by
 rw [Kw,Kw]
 have:L=0∨L=1∨L=2∨L=3:=by omega
 rcases this with rfl|rfl|rfl|rfl<;>omega
theorem Z3w {b:Nat} (hb:3<=b):1+(bS (b / 2)+bS (b / 2))<=bS b:=by rw [Kw,Kw];omega
theorem Pl {b:Nat} (hb:3<=b):5+bS (b-2)<=bS b:=by rw [Kw,Kw];omega
theorem Jm {L q b:Nat} (hL:L<=3) (hb:3<=b) (hq:L*q<=b-1):10+L*bC q<=bC b:=by
 rw [Kv,Kv]
 have:L=0∨L=1∨L=2∨L=3:=by omega
 rcases this with rfl|rfl|rfl|rfl<;>omega
theorem Z40 {L q b:Nat} (hL:L<=3) (hb:3<=b) (hq:L*q<=b-2):40+L*bC q<=bC b:=by
 rw [Kv,Kv]
 have:L=0∨L=1∨L=2∨L=3:=by omega
 rcases this with rfl|rfl|rfl|rfl<;>omega
theorem Z3v {b:Nat} (hb:3<=b):10+(bC (b / 2)+bC (b / 2))<=bC b:=by rw [Kv,Kv];omega
theorem Pj {b:Nat} (hb:3<=b):40+bC (b-2)<=bC b:=by rw [Kv,Kv];omega
theorem Ia (b:Nat):4<=bS b:=by rw [Kw];omega
theorem I9 (b:Nat):40<=bC b:=by rw [Kv];omega
theorem Tg (L b:Nat):L*(b / L)<=b:=Nat.mul_div_le b L
theorem MJ {k L C:Nat} (h:k<L):(k+1)*C=k*C+C/\(k+1)*C<=L*C:=⟨by rw [Ts,Nat.one_mul],TM C h⟩
theorem BO {ds:List Ze} {d x:Int} {m k:Nat} (h:(ZQ ds d)[k]? = some x):Tb ds 8 d m (1+k)=m+(ZU ds x).length:=by
 rw [Tb,Z9 om,Zg rfl,Z9 om,VJ (i:=((1+k:Nat):Int)-1) (by rw [show (((1+k:Nat):Int)-1).toNat=k by omega];exact h)]
section
variable {g:XF} {m:Nat}
theorem GE.var {z:Int} {q:Nat} (hz:0<=z/\z<m) (hm:m<=2000) (hq:1<=q):GE g m q (.mk 12 z []):=⟨Sc hz hm,by simpa [Z1.sz,X9] using hq⟩
theorem GE.list {ys:List Z1} {L s:Nat} (h:∀e∈ys,GE g m s e) (hl:ys.length=L):X9 ys<=L*s:=by rw [<-hl];exact DD fun e he=>(h e he).2
theorem GE.node {op num:Int} {ys:List Z1} {L s q:Nat} (ho:0<=op/\op<=11/\op≠7/\op≠8) (hc:op=9->0<=num/\num<g.funcs.length) (hn:-2000<=num/\num<=2000) (h:∀e∈ys,GE g m s e) (hl:ys.length=L) (hL:L<=3) (hq:1+L*s<=q):GE g m q (.mk op num ys):=by
 have:=GE.list h hl
 exact ⟨AF ho hc hn om fun e he=>(h e he).1,by rw [Z1.sz];omega⟩
theorem GE.if_ {num:Int} {ys:List Z1} {s q:Nat} (hn:-2000<=num/\num<=2000) (h:∀e∈ys,GE g m s e) (hl:ys.length=3) (hq:1+3*s<=q):GE g m q (.mk 7 num ys):=by
 have:=GE.list h hl
 exact ⟨IZ hn hl fun e he=>(h e he).1,by rw [Z1.sz];omega⟩
theorem GE.let_ {a b:Z1} {s q:Nat} (ha:GE g m s a) (hb:GE g (m+1) s b) (hq:1+(s+s)<=q):GE g m q (.mk 13 0 [a,b]):=by
 refine ⟨L0 om ha.1 hb.1,?_⟩
 have h1:=ha.2
 have h2:=hb.2
 simp only [Z1.sz,X9];omega
theorem GE.two {op num:Int} {a b:Z1} {s1 s2 q:Nat} (ho:0<=op/\op<=11/\op≠7/\op≠8/\op≠9) (hn:-2000<=num/\num<=2000) (ha:GE g m s1 a) (hb:GE g m s2 b) (hq:1+(s1+s2)<=q):GE g m q (.mk op num [a,b]):=by
 refine ⟨AF om (fun h=>by omega) hn (by simp) fun e he=>?_,?_⟩
 ·rcases YJ.1 he with rfl|he
  ·exact ha.1
  ·rw [XT.1 he];exact hb.1
 ·have h1:=ha.2
  have h2:=hb.2
  simp only [Z1.sz,X9];omega
theorem GE.match_ {d:Int} {e:Z1} {ys:List Z1} {L s q:Nat} (hd:-2000<=d/\d<=2000) (he:GE g m 4 e) (hw:TS g.decls g.funcs.length (Tb g.decls 8 d m) 1 ys) (hs:∀e∈ys,e.sz<=s) (hl:ys.length=L) (hL:L=(ZQ g.decls d).length) (h3:L<=3) (hq:5+L*s<=q):GE g m q (.mk 8 d (e::ys)):=by
 refine ⟨FW hd om om he.1 hw,?_⟩
 have h1:=DD hs
 rw [hl] at h1
 have h2:=he.2
 rw [Z1.sz,X9];omega
end
def NL (s:Nat) (left w:Int):Prop:=((s:Int)<=left/\w=left-s)∨(left<s/\w=-1)
end Go.Abs
namespace Go.Abs
theorem AR {L b p pp M:Nat} (hL:L<=3) (hb:3<=b) (h:pp<=p+8) (hp:p+(bC b-1)<=M):pp+L*bC ((b-1) / L)<=M:=by
 have:=Jm hL hb (Tg L (b-1))
 omega
end Go.Abs
end
namespace Go.Abs
theorem Sj (a b:Z1):X9 [a,b]=a.sz+b.sz:=by simp only [X9];omega
theorem DC (a b c:Z1):X9 [a,b,c]=a.sz+b.sz+c.sz:=by simp only [X9];omega
theorem C2:bS 3=20/\bS 4=30/\bS 12=110/\bS 16=150/\bS 18=170/\bC 3=200/\bC 4=300/\bC 16=1500:=by decide
theorem Dh {b:Nat} (h:b<=20):bS b<=190/\bC b<=1900/\(b<=2->bS b<=10):=by rw [Kw,Kv];omega
section
variable {g:XF} {m:Nat}
theorem SE.ofs {op num:Int} {ys:List Z1} {q:Nat} (ho:0<=op/\op<=11/\op≠7/\op≠8/\op≠9) (hn:-2000<=num/\num<=2000) (hl:ys.length<=4) (hy:∀e∈ys,∃s,SE g s e) (hq:1+X9 ys<=q):SE g q (.mk op num ys):=
 ⟨fun m=>AF om (fun h=>by omega) hn hl fun e he=>let ⟨_,h⟩:=hy e he;h.1 m,by rw [Z1.sz];exact hq⟩
theorem SE.nil {op num:Int} {q:Nat} (ho:0<=op/\op<=11/\op≠7/\op≠8/\op≠9) (hn:-2000<=num/\num<=2000) (hq:1<=q):SE g q (.mk op num []):=
 SE.ofs ho hn (by simp) (fun e he=>by cases he) (by simpa [X9] using hq)
theorem SE.two {op num:Int} {a b:Z1} {s1 s2 q:Nat} (ho:0<=op/\op<=11/\op≠7/\op≠8/\op≠9) (hn:-2000<=num/\num<=2000) (ha:SE g s1 a) (hb:SE g s2 b) (hq:1+(s1+s2)<=q):SE g q (.mk op num [a,b]):=by
 refine SE.ofs ho hn (by simp) (fun e he=>?_) ?_
 ·rcases YJ.1 he with rfl|he
  ·exact ⟨_,ha⟩
  ·rw [XT.1 he];exact ⟨_,hb⟩
 ·have h1:=ha.2
  have h2:=hb.2
  rw [Sj];omega
theorem SE.three {op num:Int} {a b c:Z1} {s1 s2 s3 q:Nat} (ho:0<=op/\op<=11/\op≠7/\op≠8/\op≠9) (hn:-2000<=num/\num<=2000) (ha:SE g s1 a) (hb:SE g s2 b) (hc:SE g s3 c) (hq:1+(s1+s2+s3)<=q):SE g q (.mk op num [a,b,c]):=by
 refine SE.ofs ho hn (by simp) (fun e he=>?_) ?_
 ·rcases YJ.1 he with rfl|he
  ·exact ⟨_,ha⟩
  ·rcases YJ.1 he with rfl|he
   ·exact ⟨_,hb⟩
   ·rw [XT.1 he];exact ⟨_,hc⟩
 ·have h1:=ha.2
  have h2:=hb.2
  have h3:=hc.2
  rw [DC];omega
theorem GE.int {z:Int} {q:Nat} (hz:-2000<=z/\z<=2000) (hq:1<=q):GE g m q (.mk 0 z []):=(SE.int (g:=g) (q:=q) hz hq).ge (YX _)
theorem GE.three {op num:Int} {a b c:Z1} {s1 s2 s3 q:Nat} (ho:0<=op/\op<=11/\op≠8/\op≠9) (hn:-2000<=num/\num<=2000) (ha:GE g m s1 a) (hb:GE g m s2 b) (hc:GE g m s3 c) (hq:1+(s1+s2+s3)<=q):GE g m q (.mk op num [a,b,c]):=by
 have hk:∀e∈[a,b,c],eW g.decls g.funcs.length m e:=fun e he=>by
  rcases YJ.1 he with rfl|he
  ·exact ha.1
  ·rcases YJ.1 he with rfl|he
   ·exact hb.1
   ·rw [XT.1 he];exact hc.1
 refine ⟨?_,?_⟩
 ·by_cases h7:op=7
  ·subst h7;exact IZ hn rfl hk
  ·exact AF om (fun h=>by omega) hn (by simp) hk
 ·have h1:=ha.2
  have h2:=hb.2
  have h3:=hc.2
  rw [Z1.sz,DC];omega
theorem GE.one {op num:Int} {a:Z1} {s1 q:Nat} (ho:0<=op/\op<=11/\op≠7/\op≠8/\op≠9) (hn:-2000<=num/\num<=2000) (ha:GE g m s1 a) (hq:1+s1<=q):GE g m q (.mk op num [a]):=by
 refine ⟨AF om (fun h=>by omega) hn (by simp) fun e he=>?_,?_⟩
 ·rw [XT.1 he];exact ha.1
 ·have h1:=ha.2
  simp only [Z1.sz,X9];omega
theorem GE.letS {a b:Z1} {s1 s2 q:Nat} (ha:GE g m s1 a) (hb:GE g (m+1) s2 b) (hq:1+(s1+s2)<=q):GE g m q (.mk 13 0 [a,b]):=by
 refine ⟨L0 om ha.1 hb.1,?_⟩
 have h1:=ha.2
 have h2:=hb.2
 simp only [Z1.sz,X9];omega
theorem GE.matchL (hg:GP g) {e a b:Z1} {s1 s2 s3 q:Nat} (he:GE g m s1 e) (ha:GE g m s2 a) (hb:GE g (m+2) s3 b) (hq:1+(s1+s2+s3)<=q):GE g m q (.mk 8 1 [e,a,b]):=by
 have hl:=hg.decls.low
 refine ⟨FW om (by simp) (by rw [hl.2.1];rfl) he.1 ⟨?_,?_,True.intro⟩,?_⟩
 ·rw [BO (k:=0) (x:=0) (by rw [hl.2.1];rfl),hl.2.2.2.2.1];exact ha.1
 ·rw [BO (k:=1) (x:=1) (by rw [hl.2.1];rfl),hl.2.2.2.2.2.1];exact hb.1
 ·have h1:=he.2
  have h2:=ha.2
  have h3:=hb.2
  rw [Z1.sz,DC];omega
theorem GE.matchT (hg:GP g) {e a b:Z1} {s1 s2 s3 q:Nat} (he:GE g m s1 e) (ha:GE g m s2 a) (hb:GE g (m+3) s3 b) (hq:1+(s1+s2+s3)<=q):GE g m q (.mk 8 3 [e,a,b]):=by
 have hl:=hg.decls.low
 refine ⟨FW om (by simp) (by rw [hl.2.2.2.1];rfl) he.1 ⟨?_,?_,True.intro⟩,?_⟩
 ·rw [BO (k:=0) (x:=2) (by rw [hl.2.2.2.1];rfl),hl.2.2.2.2.2.2.1];exact ha.1
 ·rw [BO (k:=1) (x:=3) (by rw [hl.2.2.2.1];rfl),hl.2.2.2.2.2.2.2];exact hb.1
 ·have h1:=he.2
  have h2:=ha.2
  have h3:=hb.2
  rw [Z1.sz,DC];omega
theorem Fh {α:Type} {p:α->Prop} {a:α} (h:p a):∀x∈[a],p x:=fun x hx=>by rw [XT.1 hx];exact h
end
structure F6 (g:XF):Prop where
 gp:GP g
 body:∀f∈g.funcs,eW g.decls g.funcs.length f.params.length f.body/\f.body.sz<=30
structure GL (ds:List Ze) (k j:Nat) (rq:List Func):Prop where
 len:rq.length=4
 sigs:∀f∈rq,UP f
 zero:∀f,rq[0]? = some f->f.params.length=0
 body:∀i f,j<=i->i<k->rq[i]? = some f->eW ds k f.params.length f.body/\f.body.sz<=30
theorem GL.gp {ds:List Ze} {k j:Nat} {rq:List Func} (h:GL ds k j rq) (hd:GD ds) (hk:1<=k/\k<=4):GP ⟨ds,rq.take k⟩:=
 ⟨hd,by show 1<=(rq.take k).length/\_;rw [Wp,h.len];omega,fun f hf=>h.sigs f (TL hf)⟩
theorem GL.len_take {ds:List Ze} {k j:Nat} {rq:List Func} (h:GL ds k j rq) (hk:k<=4):(rq.take k).length=k:=by rw [Wp,h.len];omega
theorem GL.set {ds:List Ze} {k j:Nat} {rq:List Func} {f:Func} {e:Z1} (h:GL ds k j rq) (hj:1<=j) (hf:rq[j-1]? = some f) (he:eW ds k f.params.length e/\e.sz<=30):GL ds k (j-1) (rq.set (j-1) ⟨f.params,f.result,e⟩):=by
 have hl:=(Xr.1 hf).1
 refine ⟨by rw [VP];exact h.len,fun x hx=>?_,fun x hx=>?_,fun i x h1 h2 hx=>?_⟩
 ·rcases List.mem_or_eq_of_mem_set hx with hx|rfl
  ·exact h.sigs x hx
  ·exact h.sigs f (ZZ hf)
 ·rw [List.getElem?_set] at hx
  split at hx
  ·rename_i h0
   cases hx
   exact h.zero f (by rw [<-h0];exact hf)
  ·exact h.zero x hx
 ·rw [List.getElem?_set] at hx
  split at hx
  ·cases hx
   exact he
  ·exact h.body i x om h2 hx
theorem GL.done {ds:List Ze} {k:Nat} {rq:List Func} (h:GL ds k 0 rq) (hd:GD ds) (hk:1<=k/\k<=4):F6 ⟨ds,rq.take k⟩:=by
 refine ⟨h.gp hd hk,fun f hf=>?_⟩
 show eW ds (rq.take k).length _ _/\_
 rw [h.len_take hk.2]
 obtain ⟨i,hi⟩:=List.getElem?_of_mem hf
 have hi2:i<(rq.take k).length:=(Xr.1 hi).1
 rw [h.len_take hk.2] at hi2
 rw [List.getElem?_take_of_lt hi2] at hi
 exact h.body i f om hi2 hi
theorem Hh {l:List Func} {f:Func} {k:Nat} (h:l[k]? = some f) (hl:l.all (fun f=>decide ((f.params,f.result)∈Ks))=true):UP f:=show (f.params,f.result)∈Ks from of_decide_eq_true (Kn.1 hl f (ZZ h))
theorem GL.start {ds:List Ze} {k:Nat} {e:Z1} {a b c:Func} (ha:UP a) (hb:UP b) (hc:UP c):GL ds k k [⟨[],0,e⟩,a,b,c]:=by
 refine ⟨rfl,fun f hf=>?_,fun f hf=>?_,fun i f h1 h2=>by omega⟩
 ·rcases YJ.1 hf with rfl|hf
  ·exact List.Mem.head _
  ·rcases YJ.1 hf with rfl|hf
   ·exact ha
   ·rcases YJ.1 hf with rfl|hf
    ·exact hb
    ·rw [XT.1 hf];exact hc
 ·cases hf;rfl
theorem Z4e {l:LI} {k:Nat} {a b:Nat} (h:(k:Int)∈l) (hl:l.all (fun x=>decide ((a:Int)<=x/\x<=b))=true):a<=k/\k<=b:=by
 have:=of_decide_eq_true (Kn.1 hl _ h)
 omega
mutual
def Q1 (p:Int->Prop):Z4->Prop
 | .mk op _ _ _ kids=>p op/\Q0 p kids
def Q0 (p:Int->Prop):List Z6->Prop
 | []=>True
 | b::r=>WP p b/\Q0 p r
def T7 (p:Int->Prop):List Z4->Prop
 | []=>True
 | s::r=>Q1 p s/\T7 p r
def WP (p:Int->Prop):Z6->Prop
 | .mk steps _=>T7 p steps
end
section
variable {p q:Int->Prop}
theorem CJ (s:Z4):Q1 p s↔p s.op/\Q0 p s.kids:=by cases s;rw [Q1];rfl
theorem Eh (b:Z6):WP p b↔T7 p b.steps:=by cases b;rw [WP];rfl
theorem BH:∀{xs:List Z6},Q0 p xs↔∀b∈xs,WP p b
 | []=>by simp [Q0]
 | b::r=>by rw [Q0,BH];simp
theorem AT:∀{xs:List Z4},T7 p xs↔∀b∈xs,Q1 p b
 | []=>by simp [T7]
 | b::r=>by rw [T7,AT];simp
theorem Ei {xs ys:List Z4}:T7 p (xs++ys)↔T7 p xs/\T7 p ys:=by simp only [AT,Xe];exact ⟨fun h=>⟨fun b hb=>h b (.inl hb),fun b hb=>h b (.inr hb)⟩,fun h b hb=>hb.elim (h.1 b) (h.2 b)⟩
theorem MX {xs:List Z6} {b:Z6} (h:Q0 p xs) (hb:WP p b):Q0 p (xs++[b]):=BH.2 (Xc (BH.1 h) hb)
theorem Ej {xs:List Z4} {b:Z4} (h:T7 p xs) (hb:Q1 p b):T7 p (xs++[b]):=AT.2 (Xc (AT.1 h) hb)
end
def Wk (op:Int):Prop:=op<=11
def V2 (op:Int):Prop:=op<=15
end Go.Abs
section
namespace Go.Abs
structure LW (ds:List Ze) (nf q:Nat) (e:Z1) (ys:List Z4) (v:Int):Prop where
 fs:UD ds nf q ys
 v:0<=v/\v<(q+YL ys:Nat)
 sz:Y8 ys<=6*e.sz
 op:T7 Wk ys
theorem LW.dn {ds:List Ze} {nf q:Nat} {e:Z1} {ys:List Z4} {v:Int} (h:LW ds nf q e ys v):YL ys<=6*e.sz/\ys.length<=6*e.sz:=by
 have h1:=AB ys
 have h2:=Kg ys
 have h3:=h.sz
 omega
structure LB (ds:List Ze) (nf q:Nat) (e:Z1) (b:Z6):Prop where
 fb:fB ds nf q b
 sz:b.sz<=1+6*e.sz
 op:WP Wk b
section
variable {ds:List Ze} {nf q:Nat}
theorem C3:∀xs ys:List Z6,YE (xs++ys)=YE xs+YE ys
 | [],ys=>by simp [YE]
 | x::r,ys=>by rw [Qv,YE,YE,C3 r];omega
theorem LW.block {e:Z1} {ys:List Z4} {v:Int} (h:LW ds nf q e ys v):LB ds nf q e ⟨ys,v⟩:=
 ⟨by rw [fB];exact ⟨h.fs,h.v⟩,by rw [Z6.sz];have:=h.sz;omega,by rw [WP];exact h.op⟩
theorem LW.var {e:Z1} {v:Int} (hv:0<=v/\v<q):LW ds nf q e [] v:=⟨True.intro,by simpa [YL] using hv,by simp [Y8],True.intro⟩
theorem LW.let_ {e a b:Z1} {ys zs:List Z4} {v1 v2:Int} (ha:LW ds nf q a ys v1) (hb:LW ds nf (q+YL ys) b zs v2) (he:a.sz+b.sz<e.sz):LW ds nf q e (ys++zs) v2:=by
 refine ⟨Bp.2 ⟨ha.fs,hb.fs⟩,by rw [K4,<-JC];exact hb.v,?_,Ei.2 ⟨ha.op,hb.op⟩⟩
 have h1:=ha.sz
 have h2:=hb.sz
 rw [UN];omega
theorem C8 {ys:List Z4} {s:Z4} (h:Yl s.op=false):YL (ys++[s])=YL ys+1:=by
 rw [K4]
 simp [YL,h]
theorem LW.node {e:Z1} {ys:List Z4} {as1:LI} (ho:0<=e.op/\e.op<=11/\e.op≠7/\e.op≠8) (hc:e.op=9->0<=e.num/\e.num<nf) (hn:-2000<=e.num/\e.num<=2000) (hf:UD ds nf q ys) (ha:∀a∈as1,0<=a/\a<(q+YL ys:Nat)) (hl:as1.length<=4) (hs:Y8 ys<=6*X9 e.kids) (hop:T7 Wk ys) :
  LW ds nf q e (ys++[⟨e.op,e.num,0,as1,[]⟩]) ((q+YL ys:Nat):Int):=by
 have hcb:Yl e.op=false:=by simp [Yl];omega
 refine ⟨DF hf ?_,?_,?_,Ej hop (by rw [Q1];exact ⟨by show e.op<=11;omega,True.intro⟩)⟩
 ·rw [fS]
  exact ⟨.inl ⟨by omega,by omega⟩,ha,fun h=>by omega,fun h=>by omega,fun h=>by omega,fun h=>by omega,hc,hn,by omega,hl,fun _=>rfl,True.intro⟩
 ·rw [C8 (show Yl (Z4.mk e.op e.num 0 as1 []).op=false from hcb)];omega
 ·rw [UN,e.sz_eq]
  simp only [Y8,Z4.sz,YE]
  omega
theorem LW.branch {e:Z1} {ys:List Z4} {v:Int} {bs:List Z6} {s0 sr:Nat} (ho:e.op=7∨e.op=8) (h7:e.op=7->bs.length=2) (h8:e.op=8->bs.length=(ZQ ds e.num).length) (hn:-2000<=e.num/\e.num<=2000) (hf:UD ds nf q ys) (hv:0<=v/\v<(q+YL ys:Nat))
  (hb:T2 ds nf (Uu ds e.op e.num (q+YL ys)) 0 bs) (hl:bs.length<=3) (h0:Y8 ys<=6*s0) (h1:YE bs<=bs.length+6*sr) (hs:s0+sr<=X9 e.kids) (hop:T7 Wk ys) (hob:Q0 Wk bs):LW ds nf q e (ys++[⟨e.op,e.num,0,[v],bs⟩]) ((q+YL ys:Nat):Int):=by
 have hcb:Yl e.op=false:=by simp [Yl];omega
 refine ⟨DF hf ?_,?_,?_,Ej hop (by rw [Q1];exact ⟨by show e.op<=11;omega,hob⟩)⟩
 ·rw [fS]
  exact ⟨.inl ⟨by omega,by omega⟩,fun a ha=>by rw [XT.1 ha];exact hv,fun h=>by omega,h7,h8,fun _=>⟨v,rfl⟩,fun h=>by omega,hn,by omega,by simp,fun h=>by omega,hb⟩
 ·rw [C8 (show Yl (Z4.mk e.op e.num 0 [v] bs).op=false from hcb)];omega
 ·rw [UN,e.sz_eq]
  simp only [Y8,Z4.sz,YK,X6]
  omega
theorem NJ {ds:List Ze} {op num:Int} {m k:Nat} (h:op=13):Tb ds op num m k=m+k:=Zg h
theorem Z68 {ds:List Ze} {op num:Int} {m:Nat} (h:op≠13):Tb ds op num m 0=m:=by simp [Tb,h]
theorem NK {ds:List Ze} {op num:Int} {m k:Nat} (h:op≠13/\op≠8):Tb ds op num m k=m:=by simp [Tb,h.1,h.2]
theorem Z69 {ds:List Ze} {op num x:Int} {m k j:Nat} (h:op=8) (hk:k=j+1) (hx:(ZQ ds num)[j]? = some x):Tb ds op num m k=m+(ZU ds x).length:=by
 subst h;subst hk;rw [Nat.add_comm j 1];exact BO hx
theorem He {ds:List Ze} {op num x:Int} {m j:Nat} (h:op=8) (hx:(ZQ ds num)[j]? = some x):Uu ds op num m j=m+(ZU ds x).length:=by
 rw [Uu,Zg h,VJ (i:=(j:Int)) (by simpa using hx)]
theorem Hf {ds:List Ze} {op num:Int} {m j:Nat} (h:op≠8):Uu ds op num m j=m:=Z9 h
theorem JY {xs:List Z1} {k:Nat} {e:Z1} (h:xs[k]? = some e):X9 (xs.take (k+1))=X9 (xs.take k)+e.sz:=by rw [Wv h,Cb,X9,X9];rfl
theorem J8 {xs:List Z1} (k:Nat):X9 (xs.take k)<=X9 xs:=by
 have h:=Yj X9 (Uz k xs)
 rw [Cb] at h;omega
theorem L9 {xs:List Z1} {a b:Z1} (ha:xs[0]? = some a) (hb:xs[1]? = some b):a.sz+b.sz<=X9 xs:=by
 have h1:X9 (xs.take 1)=X9 (xs.take 0)+a.sz:=JY ha
 have h2:X9 (xs.take 2)=X9 (xs.take 1)+b.sz:=JY hb
 have h3:=J8 (xs:=xs) 2
 omega
theorem D5 {us:LI} {v:Int} {d:Nat} (hu:∀a∈us,0<=a/\a<(q:Int)) (hv:0<=v/\v<(q+d:Nat)):∀a∈us++[v],0<=a/\a<((q+d:Nat):Int):=
 Xc (fun a ha=>by have:=hu a ha;omega) hv
theorem EN {us:LI} {d:Nat} (hu:∀a∈us,0<=a/\a<(q:Int)):∀a∈us,0<=a/\a<((q+d:Nat):Int):=fun a ha=>by have:=hu a ha;omega
theorem Z96 {us ns:LI} {d mf:Nat} (hu:∀a∈us,0<=a/\a<(q:Int)) (hn:∀i∈ns,((q+d:Nat):Int)<=i/\i<((q+d:Nat):Int)+mf):∀a∈us++ns,0<=a/\a<((q+d+mf:Nat):Int):=fun a ha=>by
 rcases Xe.1 ha with h|h
 ·have:=hu a h;omega
 ·have:=hn a h;omega
theorem Dk:∀bs:List Z6,bs.length<=YE bs
 | []=>YX _
 | b::r=>by have:=Dk r;have:=b.sz_pos;rw [YE,YK];omega
end
end Go.Abs
namespace Go.Abs
structure RF (ds:List Ze) (nf q:Nat) (p:Int->Prop) (r:ZY):Prop where
 sig:(r.params,r.result)∈Ks
 lent:r.lent.length<=3/\∀i∈r.lent,0<=i/\i<r.params.length
 body:fB ds nf r.params.length r.body/\r.body.sz<=q
 op:WP p r.body
structure FO (n:Zt) (q:Nat) (p:Int->Prop):Prop where
 fn:FN n q
 op:∀r∈n.routines,WP p r.body
theorem FO.rf {n:Zt} {q:Nat} {p:Int->Prop} (h:FO n q p) {r:ZY} (hr:r∈n.routines):RF n.decls n.routines.length q p r:=⟨h.fn.sigs r hr,h.fn.lent r hr,h.fn.body r hr,h.op r hr⟩
theorem FO.all {n:Zt} {q:Nat} {p:Int->Prop} (hd:GD n.decls) (hl:1<=n.routines.length/\n.routines.length<=4) (h:∀r∈n.routines,RF n.decls n.routines.length q p r):FO n q p:=
 ⟨⟨hd,hl,fun r hr=>(h r hr).sig,fun r hr=>(h r hr).lent,fun r hr=>(h r hr).body⟩,fun r hr=>(h r hr).op⟩
structure RN (ds:List Ze) (nf:Nat) (r:ZY):Prop where
 sig:(r.params,r.result)∈Ks
 lent:r.lent=[]
 body:fB ds nf r.params.length r.body/\r.body.sz<=181
 op:WP Wk r.body
theorem RN.all {n:Zt} {q:Nat} (hd:GD n.decls) (hl:1<=n.routines.length/\n.routines.length<=4) (h:∀r∈n.routines,RN n.decls n.routines.length r) (hq:181<=q):FO n q Wk:=
 FO.all hd hl fun r hr=>⟨(h r hr).sig,by rw [(h r hr).lent];exact ⟨by simp,fun i hi=>by cases hi⟩,⟨(h r hr).body.1,Wj (h r hr).body.2 hq⟩,(h r hr).op⟩
end Go.Abs
namespace Go.Abs
theorem RN.of {ds:List Ze} {nf:Nat} {ps:LI} {rt:Int} {b:Z6} {e:Z1} (hs:(ps,rt)∈Ks) (h:LB ds nf ps.length e b) (he:e.sz<=30):RN ds nf ⟨ps,[],rt,Z6.mk b.steps b.result⟩:=by
 have e1:Z6.mk b.steps b.result=b:=by cases b;rfl
 rw [e1]
 exact ⟨hs,rfl,⟨h.fb,by have:=h.sz;show b.sz<=181;omega⟩,h.op⟩
end Go.Abs
end
namespace Go.Abs
theorem Hu:∀{xs:List Z4} {s:Z4},s∈xs->s.sz<=Y8 xs
 | [],s,h=>by cases h
 | x::r,s,h=>by
  rw [Y8]
  rcases YJ.1 h with rfl|h
  ·omega
  ·have:=Hu h;omega
theorem Fm:∀{xs:List Z6} {b:Z6},b∈xs->b.sz<=YE xs
 | [],b,h=>by cases h
 | x::r,b,h=>by
  rw [YE]
  rcases YJ.1 h with rfl|h
  ·omega
  ·have:=Fm h;omega
structure LC (n:Zt) (k:Nat) (xs:List LI):Prop where
 len:xs.length=k
 ok:∀(i:Nat) (l:LI),xs[i]? = some l->l.length<=3/\∀r,n.routines[i]? = some r->∀v∈l,0<=v/\v<(r.params.length:Int)
theorem LC.nil {n:Zt}:LC n 0 []:=⟨rfl,fun i l h=>by simp at h⟩
theorem LC.snoc {n:Zt} {k:Nat} {xs:List LI} {l:LI} (h:LC n k xs) (hl:l.length<=3) (hv:∀r,n.routines[k]? = some r->∀v∈l,0<=v/\v<(r.params.length:Int)):LC n (k+1) (xs++[l]):=by
 refine ⟨by rw [Ym,h.len];rfl,fun i l' hi=>?_⟩
 by_cases hk:i<xs.length
 ·rw [D7 hk] at hi
  exact h.ok i l' hi
 ·rw [EW om] at hi
  have h0:i-xs.length=0:=by
   cases e:i-xs.length with
   | zero=>rfl
   | succ q=>rw [e] at hi;simp at hi
  rw [h0] at hi
  cases hi
  have e:i=k:=by have:=h.len;omega
  subst e
  exact ⟨hl,hv⟩
def Vy:LI->Int->LI
 | [],y=>[y]
 | x::r,y=>if x>y then y::x::r else if x=y then x::r else x::Vy r y
def Tl (d:Bool) (xs:LI) (y:Int):LI:=if d=true then xs else Vy xs y
theorem DY {xs:LI} {y:Int}:Tl true xs y=xs:=rfl
theorem DX {xs:LI} {y:Int}:Tl false xs y=Vy xs y:=rfl
theorem M9 {xs acc r:LI} {y x:Int} {k:Nat} {d:Bool} (hx:xs[k]? = some x) (hd:d=true) (h:acc++Tl d (xs.drop k) y=r):(acc++[x])++Tl d (xs.drop (k+1)) y=r:=by
 subst hd
 rw [DY,Y4 hx] at h
 rw [DY,<-h];simp
theorem Z2p {xs acc r:LI} {y x:Int} {k:Nat} {d:Bool} (hx:xs[k]? = some x) (hd:¬d=true) (hl:¬x>=y) (h:acc++Tl d (xs.drop k) y=r):(acc++[x])++Tl d (xs.drop (k+1)) y=r:=by
 have hd:=Km.2 hd
 subst hd
 rw [DX,Y4 hx,Vy,Z9 om,Z9 om] at h
 rw [DX,<-h];simp
theorem Z2q {xs acc r:LI} {y x:Int} {k:Nat} {d:Bool} (hx:xs[k]? = some x) (hd:¬d=true) (hl:x>y) (h:acc++Tl d (xs.drop k) y=r):((acc++[y])++[x])++Tl true (xs.drop (k+1)) y=r:=by
 have hd:=Km.2 hd
 subst hd
 rw [DX,Y4 hx,Vy,Zg hl] at h
 rw [DY,<-h];simp
theorem Z2r {xs acc r:LI} {y x:Int} {k:Nat} {d:Bool} (hx:xs[k]? = some x) (hd:¬d=true) (hl:x=y) (h:acc++Tl d (xs.drop k) y=r):(acc++[x])++Tl true (xs.drop (k+1)) y=r:=by
 have hd:=Km.2 hd
 subst hd
 rw [DX,Y4 hx,Vy,Z9 om,Zg hl] at h
 rw [DY,<-h];simp
theorem Z2o {xs acc acc2 r:LI} {y x:Int} {k:Nat} {d d2:Bool} (hx:xs[k]? = some x) (h:acc++Tl d (xs.drop k) y=r)
  (hc:(acc2=acc/\d2=d/\(d=true∨¬x>=y))∨(acc2=acc++[y]/\d2=true/\¬d=true/\x>y)∨(acc2=acc/\d2=true/\¬d=true/\x=y)):(acc2++[x])++Tl d2 (xs.drop (k+1)) y=r:=by
 rcases hc with ⟨rfl,rfl,h3⟩|⟨rfl,rfl,h3,h4⟩|⟨rfl,rfl,h3,h4⟩
 ·rcases h3 with h3|h3
  ·exact M9 hx h3 h
  ·by_cases q:d2=true
   ·exact M9 hx q h
   ·exact Z2p hx q h3 h
 ·exact Z2q hx h3 h4 h
 ·exact Z2r hx h3 h4 h
theorem Z2n {xs acc r:LI} {y:Int} {k:Nat} {d:Bool} (hk:xs.length<=k) (h:acc++Tl d (xs.drop k) y=r):(if d=true then acc else acc++[y])=r:=by
 rw [X8 hk] at h
 by_cases q:d=true
 ·rw [Tl,Zg q,An] at h;rw [Zg q];exact h
 ·rw [Tl,Z9 q,Vy] at h;rw [Z9 q];exact h
theorem By:∀(xs:LI) (y:Int),(Vy xs y).length<=xs.length+1
 | [],y=>YX _
 | x::r,y=>by
  have:=By r y
  rw [Vy]
  split
  ·simp
  ·split
   ·simp
   ·simp only [YK];omega
theorem Cu:∀{xs:LI} {y z:Int},z∈Vy xs y↔z∈xs∨z=y
 | [],y,z=>by simp [Vy]
 | x::r,y,z=>by
  rw [Vy]
  split
  ·simp only [YJ];exact ⟨fun h=>h.elim .inr .inl,fun h=>h.elim .inr .inl⟩
  ·split
   ·rename_i h;subst h;simp only [YJ];exact ⟨fun h=>.inl h,fun h=>h.elim id .inl⟩
   ·simp only [YJ,Cu (xs:=r)];exact ⟨fun h=>by rcases h with h|h|h<;>simp [h],fun h=>by rcases h with (h|h)|h<;>simp [h]⟩
def As (xs:LI):Prop:=xs.Pairwise (·<·)
theorem M8:∀{xs:LI} {y:Int},As xs->As (Vy xs y)
 | [],y,_=>by simp [Vy,As]
 | x::r,y,h=>by
  obtain ⟨h1,h2⟩:=WE.1 h
  rw [Vy]
  split
  ·rename_i q
   refine WE.2 ⟨fun z hz=>?_,h⟩
   rcases YJ.1 hz with rfl|hz
   ·omega
   ·have:=h1 z hz;omega
  ·split
   ·exact h
   ·refine WE.2 ⟨fun z hz=>?_,M8 h2⟩
    rcases Cu.1 hz with hz|rfl
    ·exact h1 z hz
    ·omega
def T8:LI->Int->LI
 | [],_=>[]
 | x::r,y=>if x=y then T8 r y else x::T8 r y
theorem CM:∀(xs:LI) (y:Int),(T8 xs y).length<=xs.length
 | [],y=>YX _
 | x::r,y=>by
  have:=CM r y
  rw [T8]
  split
  ·rw [YK];omega
  ·rw [YK,YK];omega
theorem BI:∀{xs:LI} {y z:Int},z∈T8 xs y->z∈xs
 | [],y,z,h=>by rw [T8] at h;exact h
 | x::r,y,z,h=>by
  rw [T8] at h
  split at h
  ·exact Xo _ (BI h)
  ·rcases YJ.1 h with rfl|h
   ·exact X4 ..
   ·exact Xo _ (BI h)
theorem Z50 {xs acc r:LI} {y x:Int} {k:Nat} (hx:xs[k]? = some x) (h:acc++T8 (xs.drop k) y=r):(if x≠y then acc++[x] else acc)++T8 (xs.drop (k+1)) y=r:=by
 rw [Y4 hx,T8] at h
 by_cases q:x=y
 ·rw [Zg q] at h;rw [Z9 (fun z=>z q)];exact h
 ·rw [Z9 q] at h;rw [Zg q,<-h];simp
theorem Z4z {xs acc r:LI} {y:Int} {k:Nat} (hk:xs.length<=k) (h:acc++T8 (xs.drop k) y=r):acc=r:=by
 rw [X8 hk,T8,An] at h;exact h
def U7 (n:Int) (xs:LI) (a:Int):LI:=if 0<=a/\a<n then Vy xs a else xs
def TJ (n:Int):LI->LI->LI
 | [],xs=>xs
 | a::r,xs=>TJ n r (U7 n xs a)
mutual
def Kj (n:Int):Z4->LI->LI
 | .mk op _ _ args kids,xs=>if Yl op=true then xs else QW n kids (TJ n args xs)
def QW (n:Int):List Z6->LI->LI
 | [],xs=>xs
 | b::r,xs=>QW n r (Vm n b xs)
def Uj (n:Int):List Z4->LI->LI
 | [],xs=>xs
 | s::r,xs=>Uj n r (Kj n s xs)
def Vm (n:Int):Z6->LI->LI
 | .mk steps result,xs=>U7 n (Uj n steps xs) result
end
section
variable {n:Int}
theorem OJ (s:Z4) (xs:LI):Kj n s xs=if Yl s.op=true then xs else QW n s.kids (TJ n s.args xs):=by cases s;rw [Kj];rfl
theorem OH (b:Z6) (xs:LI):Vm n b xs=U7 n (Uj n b.steps xs) b.result:=by cases b;rw [Vm];rfl
theorem EM (xs:LI) (a:Int):(U7 n xs a).length<=xs.length+1:=by
 rw [U7];split
 ·exact By xs a
 ·omega
theorem OG:∀(as1 xs:LI),(TJ n as1 xs).length<=xs.length+as1.length
 | [],xs=>YX _
 | a::r,xs=>by
  have h1:=OG r (U7 n xs a)
  have h2:=EM (n:=n) xs a
  rw [TJ,YK];omega
mutual
theorem OK:∀(s:Z4) (xs:LI),(Kj n s xs).length<=xs.length+s.sz
 | .mk op num into args kids,xs=>by
  have h1:=OI kids (TJ n args xs)
  have h2:=OG (n:=n) args xs
  rw [Kj,Z4.sz];split<;>omega
theorem OI:∀(bs:List Z6) (xs:LI),(QW n bs xs).length<=xs.length+YE bs
 | [],xs=>YX _
 | b::r,xs=>by
  have h1:=OI r (Vm n b xs)
  have h2:=EL b xs
  rw [QW,YE];omega
theorem HH:∀(bs:List Z4) (xs:LI),(Uj n bs xs).length<=xs.length+Y8 bs
 | [],xs=>YX _
 | b::r,xs=>by
  have h1:=HH r (Kj n b xs)
  have h2:=OK b xs
  rw [Uj,Y8];omega
theorem EL:∀(b:Z6) (xs:LI),(Vm n b xs).length<=xs.length+b.sz
 | .mk steps result,xs=>by
  have h1:=HH steps xs
  have h2:=EM (n:=n) (Uj n steps xs) result
  rw [Vm,Z6.sz];omega
end
theorem Z91 {as1 ys r:LI} {k:Nat} {a:Int} (h:as1[k]? = some a) (ha:TJ n (as1.drop k) ys=r):TJ n (as1.drop (k+1)) (U7 n ys a)=r:=by
 rw [Y4 h,TJ] at ha;exact ha
theorem Z93 {bs:List Z6} {ys r:LI} {k:Nat} {b:Z6} (h:bs[k]? = some b) (ha:QW n (bs.drop k) ys=r):QW n (bs.drop (k+1)) (Vm n b ys)=r:=by
 rw [Y4 h,QW] at ha;exact ha
theorem Z95 {bs:List Z4} {ys r:LI} {k:Nat} {b:Z4} (h:bs[k]? = some b) (ha:Uj n (bs.drop k) ys=r):Uj n (bs.drop (k+1)) (Kj n b ys)=r:=by
 rw [Y4 h,Uj] at ha;exact ha
theorem Z90 {as1 ys r:LI} {k:Nat} (h:as1.length<=k) (ha:TJ n (as1.drop k) ys=r):ys=r:=by rw [X8 h,TJ] at ha;exact ha
theorem Z92 {bs:List Z6} {ys r:LI} {k:Nat} (h:bs.length<=k) (ha:QW n (bs.drop k) ys=r):ys=r:=by rw [X8 h,QW] at ha;exact ha
theorem Z94 {bs:List Z4} {ys r:LI} {k:Nat} (h:bs.length<=k) (ha:Uj n (bs.drop k) ys=r):ys=r:=by rw [X8 h,Uj] at ha;exact ha
end
end Go.Abs
section
namespace Go.Abs
theorem Z3f {xs:List Z4} {k:Nat} {s:Z4} {r:Nat} (h:xs[k]? = some s) (hs:Yl s.op=true) (ha:k+YG (xs.drop k)=r):k+1+YG (xs.drop (k+1))=r:=by
 rw [Y4 h,YG,Zg hs] at ha;omega
theorem Z3g {xs:List Z4} {k:Nat} {s:Z4} {r:Nat} (h:xs[k]? = some s) (hs:¬Yl s.op=true) (ha:k+YG (xs.drop k)=r):k=r:=by
 rw [Y4 h,YG,Z9 hs] at ha;omega
theorem Z3e {xs:List Z4} {k:Nat} {r:Nat} (h:xs.length<=k) (ha:k+YG (xs.drop k)=r):k=r:=by
 rw [X8 h,YG] at ha;omega
theorem PA {op x:Int} {xs:List Z4} {k:Nat} {s:Z4} {r:Int} (h:xs[k]? = some s) (hs:s.op=op/\gI s.args 0=x) (ha:XC op x (xs.drop k) k=r):(k:Int)=r:=by
 rw [Y4 h,XC,Zg hs] at ha;exact ha
theorem I6 {op x:Int} {xs:List Z4} {k:Nat} {s:Z4} {r:Int} (h:xs[k]? = some s) (hs:¬(s.op=op/\gI s.args 0=x)) (ha:XC op x (xs.drop k) k=r):XC op x (xs.drop (k+1)) ((k+1:Nat):Int)=r:=by
 rw [Y4 h,XC,Z9 hs] at ha;rw [<-ha];congr 1
theorem Pz {op x:Int} {xs:List Z4} {k:Nat} {r:Int} (h:xs.length<=k) (ha:XC op x (xs.drop k) k=r):-1=r:=by
 rw [X8 h,XC] at ha;exact ha
theorem R7 {many:Nat} {xs:List Z4} {k:Nat} {s:Z4} {r:Int} (h:xs[k]? = some s) (hs:Qj many s) (ha:W1 many (xs.drop k) k=r):(k:Int)=r:=by
 rw [Y4 h,W1,Zg hs] at ha;exact ha
theorem R6 {many:Nat} {xs:List Z4} {k:Nat} {s:Z4} {r:Int} (h:xs[k]? = some s) (hs:¬Qj many s) (ha:W1 many (xs.drop k) k=r):W1 many (xs.drop (k+1)) ((k+1:Nat):Int)=r:=by
 rw [Y4 h,W1,Z9 hs] at ha;rw [<-ha];congr 1
theorem R5 {many:Nat} {xs:List Z4} {k:Nat} {r:Int} (h:xs.length<=k) (ha:W1 many (xs.drop k) k=r):-1=r:=by
 rw [X8 h,W1] at ha;exact ha
theorem Z5a {xs:List Z4} {x:Int} {many:Nat} (h:WX xs x<0∨We xs many<0):VV xs x many=xs:=Zg h
theorem Z5b {xs:List Z4} {x:Int} {many:Nat} {s:Z4} (h:¬(WX xs x<0∨We xs many<0)) (hs:A0 xs (We xs many)=s):(xs.set (WX xs x).toNat (Zq 17 x)).set (We xs many).toNat (TW (1+x) s)=VV xs x many:=by
 rw [VV,Z9 h,hs]
theorem TT (xs:List Z4):(Zi (Zo xs)).length=xs.length*5:=by rw [UR _ (YT _)];simp
theorem DI (s:Z4) (r:List Z4):Zi (Zo (s::r))=Y6 s++Zi (Zo r):=by rw [WA,WA];rfl
theorem Lk {xs:List Z4} {k:Nat} {x:Z4} (h:xs[k]? = some x):Zi (Zo (xs.take k))++Zi [Yt x]=Zi (Zo (xs.take (k+1))):=by
 rw [Wv h,Wg,Tz,DI]
 have:Zi (Zo [])=[]:=by rw [WA];rfl
 rw [this];rfl
theorem Ll {xs:List Z4} {i:Nat} {s:Z4} (h:xs[i]? = some s):Zi (Zo xs)=Zi (Zo (xs.take i))++(Y6 s++Zi (Zo (xs.drop (i+1)))):=by
 have hi:=(Xr.1 h).1
 have e:xs=xs.take i++(s::xs.drop (i+1)):=by rw [<-Y4 h,Uz]
 conv=>lhs;rw [e,Wg,Tz,DI]
theorem DJ {xs:List Z4} {i:Nat} {s t:Z4} (h:xs[i]? = some s):(Zi (Zo xs)).take (i*5)++Y6 t++(Zi (Zo xs)).drop (i*5+(Y6 t).length)=Zi (Zo (xs.set i t)):=by
 have hi:=(Xr.1 h).1
 have hl:(Zi (Zo (xs.take i))).length=i*5:=by rw [TT,Wp,Vh om]
 rw [Ll h,H7 (xs:=Y6 s) (ys:=Y6 t) hl rfl]
 have e:xs.set i t=xs.take i++(t::xs.drop (i+1)):=by rw [D8,Zg hi]
 rw [e,Wg,Tz,DI]
theorem G6 {xs:List Z4} {i:Nat} {s:Z4} (h:xs[i]? = some s):((Zi (Zo xs)).drop (i*5)).take (Y6 s).length=Y6 s:=by
 have hi:=(Xr.1 h).1
 have hl:(Zi (Zo (xs.take i))).length=i*5:=by rw [TT,Wp,Vh om]
 rw [Ll h]
 exact Z5k hl
structure Qy (xs:LI) (v:Int) (k:Nat) (acc:LI) (d:Bool):Prop where
 len:acc.length<=k+(if d=true then 1 else 0)
 sub:∀z∈acc,z∈xs.take k∨z=v
 all:∀z∈xs.take k,z∈acc
 done:d=true->v∈acc
theorem Qy.zero (xs:LI) (v:Int):Qy xs v 0 [] false:=⟨by simp,by simp,by simp,by simp⟩
theorem Qy.step {xs:LI} {v:Int} {k:Nat} {acc:LI} {d:Bool} {x:Int} (h:Qy xs v k acc d) (hx:xs[k]? = some x) {acc2:LI} {d2:Bool}
  (hc:(acc2=acc++[x]/\d2=d)∨(acc2=(acc++[v])++[x]/\d2=true/\¬d=true)∨(acc2=acc++[x]/\d2=true/\x=v)):Qy xs v (k+1) acc2 d2:=by
 obtain ⟨h1,h2,h3,h4⟩:=h
 have ht:∀z,z∈xs.take (k+1)↔z∈xs.take k∨z=x:=fun z=>by rw [Wv hx];simp
 rcases hc with ⟨rfl,rfl⟩|⟨rfl,rfl,hd⟩|⟨rfl,rfl,rfl⟩
 ·refine ⟨by simp;omega,fun z hz=>?_,fun z hz=>?_,fun q=>List.mem_append_left _ (h4 q)⟩
  ·rw [ht]
   rcases Xe.1 hz with hz|hz
   ·rcases h2 z hz with q|q
    ·exact .inl (.inl q)
    ·exact .inr q
   ·exact .inl (.inr (XT.1 hz))
  ·rcases (ht z).1 hz with q|q
   ·exact List.mem_append_left _ (h3 z q)
   ·subst q;simp
 ·rw [Z9 hd] at h1
  refine ⟨by simp;omega,fun z hz=>?_,fun z hz=>?_,fun _=>by simp⟩
  ·rw [ht]
   simp only [Xe,XT] at hz
   rcases hz with (hz|hz)|hz
   ·rcases h2 z hz with q|q
    ·exact .inl (.inl q)
    ·exact .inr q
   ·exact .inr hz
   ·exact .inl (.inr hz)
  ·rcases (ht z).1 hz with q|q
   ·exact List.mem_append_left _ (List.mem_append_left _ (h3 z q))
   ·subst q;simp
 ·refine ⟨by simp;split at h1<;>omega,fun z hz=>?_,fun z hz=>?_,fun _=>by simp⟩
  ·rw [ht]
   rcases Xe.1 hz with hz|hz
   ·rcases h2 z hz with q|q
    ·exact .inl (.inl q)
    ·exact .inr q
   ·exact .inl (.inr (XT.1 hz))
  ·rcases (ht z).1 hz with q|q
   ·exact List.mem_append_left _ (h3 z q)
   ·subst q;simp
theorem Qy.fin {xs:LI} {v:Int} {k:Nat} {acc:LI} {d:Bool} (h:Qy xs v k acc d) (hk:k=xs.length) :
  (d=true->acc.length<=xs.length+1/\∀z,z∈acc↔z∈xs∨z=v)/\(¬d=true->(acc++[v]).length<=xs.length+1/\∀z,z∈acc++[v]↔z∈xs∨z=v):=by
 obtain ⟨h1,h2,h3,h4⟩:=h
 subst hk
 rw [WF] at h2 h3
 refine ⟨fun hd=>?_,fun hd=>?_⟩
 ·rw [Zg hd] at h1
  exact ⟨h1,fun z=>⟨h2 z,fun q=>q.elim (h3 z) fun e=>e▸h4 hd⟩⟩
 ·rw [Z9 hd] at h1
  refine ⟨by simp;omega,fun z=>?_⟩
  rw [Xe,XT]
  exact ⟨fun q=>q.elim (h2 z) .inr,fun q=>q.elim (fun e=>.inl (h3 z e)) .inr⟩
end Go.Abs
namespace Go.Abs
theorem Qy.go {xs:LI} {v:Int} {k:Nat} {acc:LI} {d:Bool} {x:Int} (h:Qy xs v k acc d) (hx:xs[k]? = some x) {acc2:LI} {d2:Bool}
  (hc:(acc2=acc/\d2=d)∨(acc2=acc++[v]/\d2=true/\¬d=true)∨(acc2=acc/\d2=true/\x=v)):Qy xs v (k+1) (acc2++[x]) d2:=by
 refine h.step hx ?_
 rcases hc with ⟨e1,e2⟩|⟨e1,e2,e3⟩|⟨e1,e2,e3⟩
 ·exact .inl ⟨by rw [e1],e2⟩
 ·exact .inr (.inl ⟨by rw [e1],e2,e3⟩)
 ·exact .inr (.inr ⟨by rw [e1],e2,e3⟩)
section
variable {ds:List Ze} {kept K2:LI} {op num x:Int} {args:LI} {j many:Nat} {kd:Z6}
theorem Z5q (h8:op=8) (hx:gI args 0=x) (hk:¬x∈kept) (hm:(Ue ds num j).length=many) (hq:¬(WX kd.steps x<0∨We kd.steps many<0)) (hK:∀z,z∈K2↔z∈kept∨z=x):Wh ds K2 (VN kd x many)=Ta ds kept op num args j kd:=by
 subst hx hm
 have e:∀z,z∈K2↔z∈gI args 0::kept:=fun z=>by rw [hK z,YJ];exact Or.comm
 rw [Ta,Zg ⟨h8,hk⟩,E1,Z9 hq,Nx,H8 kd e]
theorem Z5r (h8:op=8) (hx:gI args 0=x) (hk:¬x∈kept) (hm:(Ue ds num j).length=many) (hq:WX kd.steps x<0∨We kd.steps many<0):Wh ds kept (VN kd x many)=Ta ds kept op num args j kd:=by
 subst hx hm
 rw [Ta,Zg ⟨h8,hk⟩,E1,Zg hq,Nx]
theorem Ny (h:¬(op=8/\¬gI args 0∈kept)):Wh ds kept kd=Ta ds kept op num args j kd:=by rw [Ta,Z9 h]
end
theorem Iq {op:Int} {c:LI} (h:Yl op=true):XI op c=c.set (op-14).toNat (gI c (op-14)+1):=Zg h
theorem Ip {op:Int} {c:LI} (h:¬Yl op=true):XI op c=c:=Z9 h
theorem IN {op:Int} (h:Yl op=true):14<=op/\op<=17:=by simpa [Yl] using h
end Go.Abs
namespace Go.Abs
theorem Fl:∀(xs:List Z6) (b:Z6),YE (xs++[b])=YE xs+b.sz
 | [],b=>by rw [Ko,YE,YE,YE];omega
 | x::r,b=>by rw [Qv,YE,YE,Fl r b];omega
theorem Ba:∀{xs:List Z6} {k:Nat} {b:Z6},xs[k]? = some b->YE (xs.take k)+b.sz<=YE xs
 | [],_,_,h=>by simp at h
 | x::r,0,b,h=>by simp at h;subst h;simp [YE]
 | x::r,k+1,b,h=>by
  have:=Ba (xs:=r) (k:=k) (by simpa using h)
  rw [B5,YE,YE];omega
theorem C4 {xs:List Z6} {k:Nat} (h:xs.length<=k):YE (xs.take k)=YE xs:=by rw [Va h]
end Go.Abs
end
namespace Go.Abs
theorem Oh {xs:List Z4} {k:Nat} {s:Z4} (h:xs[k]? = some s):Y8 (xs.drop k)=s.sz+Y8 (xs.drop (k+1)):=by rw [Y4 h,Y8]
theorem Oi (xs:List Z4) (k:Nat):Y8 (xs.drop k)<=Y8 xs:=by
 have h:=Yj Y8 (Uz k xs)
 rw [UN] at h;omega
theorem Dl {xs:List Z6} {k:Nat} {b:Z6} (h:xs[k]? = some b):YE (xs.take (k+1))=YE (xs.take k)+b.sz:=by rw [Wv h,C3,YE,YE];rfl
structure CL (ds:List Ze) (nf m:Nat) (xs:List Z4) (d z:Nat):Prop where
 fs:UD ds nf m xs
 dn:YL xs=d
 op:T7 V2 xs
 sz:Y8 xs<=z
section
variable {ds:List Ze} {nf m d z:Nat} {xs:List Z4}
theorem CL.nil:CL ds nf m [] 0 0:=⟨True.intro,rfl,True.intro,YX _⟩
theorem CL.len (h:CL ds nf m xs d z):xs.length<=z:=Wj (Kg xs) h.sz
theorem CL.le (h:CL ds nf m xs d z) {z2:Nat} (hz:z<=z2):CL ds nf m xs d z2:=⟨h.fs,h.dn,h.op,Wj h.sz hz⟩
theorem Sl {op v:Int} (ho:op=14∨op=15) (hv:0<=v/\v<(m:Int)):fS ds nf m (Zq op v):=by
 rw [Zq,fS]
 exact ⟨.inr om,fun a ha=>by rw [XT.1 ha];exact hv,fun _=>⟨rfl,rfl,rfl,v,rfl⟩,fun h=>by omega,fun h=>by omega,fun h=>by omega,fun h=>by omega,by omega,by omega,by simp,fun _=>rfl,True.intro⟩
theorem IM {op:Int} (ho:op=14∨op=15):Yl op=true:=by simp [Yl];omega
theorem CL.cnt (h:CL ds nf m xs d z) {op v:Int} (ho:op=14∨op=15) (hv:0<=v/\v<((m+d:Nat):Int)):CL ds nf m (xs++[Zq op v]) d (z+2):=by
 have hc:Yl (Zq op v).op=true:=IM ho
 refine ⟨DF h.fs (by rw [h.dn];exact Sl ho hv),?_,Ej h.op ?_,?_⟩
 ·rw [K4,h.dn,YL,Zg hc];rfl
 ·rw [CJ];exact ⟨by show op<=15;omega,True.intro⟩
 ·have:=h.sz
  have e:(Zq op v).sz=2:=rfl
  rw [UN,Y8,e,Y8];omega
theorem CL.cnts {op:Int} (ho:op=14∨op=15):∀{vs:LI} {xs:List Z4} {z:Nat},CL ds nf m xs d z->(∀v∈vs,0<=v/\v<((m+d:Nat):Int))->CL ds nf m (xs++vs.map (Zq op)) d (z+2*vs.length)
 | [],xs,z,h,_=>by simpa using h
 | v::r,xs,z,h,hv=>by
  have h1:=CL.cnts ho (vs:=r) (h.cnt ho (hv v (X4 ..))) fun x hx=>hv x (Xo _ hx)
  rw [U9,show xs++Zq op v::r.map (Zq op)=xs++[Zq op v]++r.map (Zq op) by simp]
  exact h1.le (by rw [YK];omega)
theorem CL.one (h:CL ds nf m xs d z) {s:Z4} (hs:fS ds nf (m+d) s) (hc:Yl s.op=false) (ho:Q1 V2 s):CL ds nf m (xs++[s]) (d+1) (z+s.sz):=by
 refine ⟨DF h.fs (by rw [h.dn];exact hs),by rw [C8 hc,h.dn],Ej h.op ho,?_⟩
 have:=h.sz
 rw [UN,Y8,Y8];omega
theorem CL.app (h:CL ds nf m xs d z) {ys:List Z4} {d2 z2:Nat} (h2:CL ds nf (m+d) ys d2 z2):CL ds nf m (xs++ys) (d+d2) (z+z2):=by
 refine ⟨Bp.2 ⟨h.fs,by rw [h.dn];exact h2.fs⟩,by rw [K4,h.dn,h2.dn],Ei.2 ⟨h.op,h2.op⟩,?_⟩
 have:=h.sz
 have:=h2.sz
 rw [UN];omega
end
structure KB (ds:List Ze) (nf m:Nat) (b:Z6) (z:Nat):Prop where
 fb:fB ds nf m b
 op:WP V2 b
 sz:b.sz<=z
section
variable {ds:List Ze} {nf m d z:Nat} {xs:List Z4}
theorem CL.block (h:CL ds nf m xs d z) {r:Int} (hr:0<=r/\r<((m+d:Nat):Int)):KB ds nf m ⟨xs,r⟩ (1+z):=by
 refine ⟨by rw [fB,h.dn];exact ⟨h.fs,hr⟩,by rw [WP];exact h.op,?_⟩
 have:=h.sz
 rw [Z6.sz];omega
theorem KB.le {b:Z6} (h:KB ds nf m b z) {z2:Nat} (hz:z<=z2):KB ds nf m b z2:=⟨h.fb,h.op,Wj h.sz hz⟩
theorem KB.cl {b:Z6} (h:KB ds nf m b z):CL ds nf m b.steps (YL b.steps) (z-1)/\0<=b.result/\b.result<((m+YL b.steps:Nat):Int):=by
 obtain ⟨h1,h2⟩:=(Cd b).1 h.fb
 refine ⟨⟨h1,rfl,(Eh b).1 h.op,?_⟩,h2⟩
 have:=h.sz
 have:=b.sz_eq
 omega
theorem KB.put {b:Z6} (h:KB ds nf m b z) {as1 bs:LI} (ha:∀v∈as1,0<=v/\v<(m:Int)) (hb:∀v∈bs,0<=v/\v<(m:Int)):KB ds nf m ⟨as1.map (Zq 14)++bs.map (Zq 15)++b.steps,b.result⟩ (z+2*as1.length+2*bs.length):=by
 obtain ⟨h1,h2⟩:=h.cl
 have q1:CL ds nf m ([]++as1.map (Zq 14)) 0 (0+2*as1.length):=CL.nil.cnts (.inl rfl) ha
 have q2:=(q1.cnts (op:=15) (.inr rfl) hb).app h1
 have:=h.sz
 have:=b.sz_eq
 rw [Ko,WG] at q2
 exact (q2.block h2).le om
end
structure KK (ds:List Ze) (nf:Nat) (sc:Nat->Nat) (ks:List Z6) (z:Nat):Prop where
 fb:T2 ds nf sc 0 ks
 op:Q0 V2 ks
 sz:YE ks<=z
section
variable {ds:List Ze} {nf m z:Nat} {sc:Nat->Nat}
theorem KK.nil:KK ds nf sc [] 0:=⟨True.intro,True.intro,YX _⟩
theorem KK.snoc {ks:List Z6} {b:Z6} {j z2:Nat} (h:KK ds nf sc ks z) (hj:ks.length=j) (hb:KB ds nf (sc j) b z2):KK ds nf sc (ks++[b]) (z+z2):=by
 refine ⟨Lb h.fb (by rw [hj];exact hb.fb),MX h.op hb.op,?_⟩
 have:=h.sz
 have:=hb.sz
 rw [C3];simp only [YE];omega
theorem KK.le {ks:List Z6} (h:KK ds nf sc ks z) {z2:Nat} (hz:z<=z2):KK ds nf sc ks z2:=⟨h.fb,h.op,Wj h.sz hz⟩
theorem Lc {s:Z4} {ks:List Z6} {into:Int} (h:FS ds nf m s) (h11:s.op<=11) (hl:ks.length=s.kids.length) (hi:0<=into/\into<=m) (hk:KK ds nf (Uu ds s.op s.num m) ks z):fS ds nf m ⟨s.op,s.num,into,s.args,ks⟩/\Q1 V2 ⟨s.op,s.num,into,s.args,ks⟩/\(Z4.mk s.op s.num into s.args ks).sz<=5+z:=by
 refine ⟨?_,?_,?_⟩
 ·rw [fS]
  refine ⟨h.op,h.args,fun q=>by omega,fun q=>by rw [hl];exact h.k7 q,fun q=>by rw [hl];exact h.k8 q,h.one,h.call,h.num,hi,h.alen,fun q=>?_,hk.fb⟩
  have:=h.kn q
  rw [this] at hl
  exact List.eq_nil_of_length_eq_zero hl
 ·rw [Q1];exact ⟨by show s.op<=15;omega,hk.op⟩
 ·have:=h.alen
  have:=hk.sz
  rw [Z4.sz];omega
end
structure KT (ds:List Ze) (nf m:Nat) (st:Z4) (z:Nat):Prop where
 fs:fS ds nf m st
 cb:Yl st.op=false
 op:Q1 V2 st
 sz:st.sz<=z
theorem KT.of {ds:List Ze} {nf m z:Nat} {s:Z4} {ks:List Z6} {into:Int} (h:FS ds nf m s) (h11:s.op<=11) (hl:ks.length=s.kids.length) (hi:0<=into/\into<=m) (hk:KK ds nf (Uu ds s.op s.num m) ks z):KT ds nf m ⟨s.op,s.num,into,s.args,ks⟩ (5+z):=by
 obtain ⟨h1,h2,h3⟩:=Lc h h11 hl hi hk
 exact ⟨h1,by show Yl s.op=false;simp [Yl];omega,h2,h3⟩
theorem CL.kt {ds:List Ze} {nf m d z z2:Nat} {xs:List Z4} {st:Z4} (h:CL ds nf m xs d z) (hs:KT ds nf (m+d) st z2):CL ds nf m (xs++[st]) (d+1) (z+z2):=(h.one hs.fs hs.cb hs.op).le (by have:=hs.sz;omega)
theorem FS.few {ds:List Ze} {nf m:Nat} {s:Z4} (h:FS ds nf m s) (hd:Wd ds):s.kids.length<=3:=by
 by_cases h7:s.op=7
 ·have:=h.k7 h7;omega
 ·by_cases h8:s.op=8
  ·have:=h.k8 h8
   have:=GX hd s.num
   omega
  ·rw [h.kn ⟨h7,h8⟩];simp
theorem RF.lend {ds:List Ze} {nf q:Nat} {p:Int->Prop} {r:ZY} {l:LI} (h:RF ds nf q p r) (h1:l.length<=3) (h2:∀v∈l,0<=v/\v<(r.params.length:Int)):RF ds nf q p ⟨r.params,l,r.result,r.body⟩:=⟨h.sig,⟨h1,h2⟩,h.body,h.op⟩
theorem RF.with {ds:List Ze} {nf q q2:Nat} {p p2:Int->Prop} {r:ZY} {b:Z6} (h:RF ds nf q p r) (h1:fB ds nf r.params.length b) (h2:b.sz<=q2) (h3:WP p2 b):RF ds nf q2 p2 ⟨r.params,r.lent,r.result,b⟩:=⟨h.sig,h.lent,⟨h1,h2⟩,h3⟩
theorem Z6.eta (b:Z6):Z6.mk b.steps b.result=b:=by cases b;rfl
theorem LC.at {n:Zt} {k:Nat} {xs:List LI} {i:Nat} {l:LI} {r:ZY} (h:LC n k xs) (hl:xs[i]? = some l) (hr:n.routines[i]? = some r):l.length<=3/\∀v∈l,0<=v/\v<(r.params.length:Int):=⟨(h.ok i l hl).1,(h.ok i l hl).2 r hr⟩
theorem FD:∀{xs:List Z4},(∀s∈xs,Q1 Wk s)->∀k,k<=xs.length->YL (xs.take k)=k
 | _,_,0,_=>rfl
 | [],_,k+1,h=>absurd h (by simp)
 | x::r,h,k+1,hk=>by
  have h1:=((CJ x).1 (h x (X4 ..))).1
  have hc:Yl x.op=false:=by have:x.op<=11:=h1;simp [Yl];omega
  rw [B5,YL,Z9 (by rw [hc];simp),FD (fun s hs=>h s (Xo _ hs)) k (by simpa using hk)]
  omega
theorem KB.put1 {ds:List Ze} {nf m z:Nat} {b:Z6} (h:KB ds nf m b z) {op:Int} (ho:op=14∨op=15) {as1:LI} (ha:∀v∈as1,0<=v/\v<(m:Int)):KB ds nf m ⟨as1.map (Zq op)++b.steps,b.result⟩ (z+2*as1.length):=by
 obtain ⟨h1,h2⟩:=h.cl
 have q1:CL ds nf m ([]++as1.map (Zq op)) 0 (0+2*as1.length):=CL.nil.cnts ho ha
 have q2:=q1.app h1
 have:=h.sz
 have:=b.sz_eq
 rw [Ko,WG] at q2
 exact (q2.block h2).le om
theorem FO.fin {n:Zt} {rs:List ZY} {q q2:Nat} {p:Int->Prop} (h:FN n q2) (e:rs.length=n.routines.length) (hr:∀r∈rs,RF n.decls n.routines.length q p r):FO ⟨n.decls,rs⟩ q p/\rs.length=n.routines.length:=
 ⟨FO.all h.decls (by show 1<=rs.length/\rs.length<=4;rw [e];exact h.len) (by show ∀r∈rs,RF n.decls rs.length q p r;rw [e];exact hr),e⟩
theorem KT.le {ds:List Ze} {nf m z z2:Nat} {st:Z4} (h:KT ds nf m st z) (hz:z<=z2):KT ds nf m st z2:=⟨h.fs,h.cb,h.op,Wj h.sz hz⟩
theorem KB.len {ds:List Ze} {nf m z:Nat} {b:Z6} (h:KB ds nf m b z):b.steps.length<=z:=by
 have:=h.sz
 have:=b.sz_eq
 have:=Kg b.steps
 omega
def Vd:List Z4->Int->Nat
 | [],_=>0
 | s::r,v=>(if gI s.args 0=v then 1 else 0)+Vd r v
def WZ (rn:List Z4):LI->Nat
 | []=>0
 | v::r=>Vd rn v+WZ rn r
theorem Ft:∀(xs ys:List Z4) (v:Int),Vd (xs++ys) v=Vd xs v+Vd ys v
 | [],ys,v=>by simp [Vd]
 | x::r,ys,v=>by rw [Qv,Vd,Vd,Ft r];omega
theorem PZ {xs:List Z4} {k:Nat} {s:Z4} (h:xs[k]? = some s) (v:Int):Vd (xs.take (k+1)) v=Vd (xs.take k) v+(if gI s.args 0=v then 1 else 0):=by
 rw [Wv h,Ft,Vd,Vd];omega
theorem IF:∀(xs:List Z4) (v:Int),Vd xs v<=xs.length
 | [],v=>YX _
 | x::r,v=>by have:=IF r v;rw [Vd,YK];split<;>omega
theorem R0 (xs:List Z4) (k:Nat) (v:Int):Vd (xs.take k) v<=Vd xs v:=by
 have h:=Yj (Vd · v) (Uz k xs)
 simp only [Ft] at h;omega
theorem Hv (rn:List Z4):∀xs ys:LI,WZ rn (xs++ys)=WZ rn xs+WZ rn ys
 | [],ys=>by simp [WZ]
 | x::r,ys=>by rw [Qv,WZ,WZ,Hv rn r];omega
theorem Z8r {rn:List Z4} {xs:LI} {k:Nat} {v:Int} (h:xs[k]? = some v):WZ rn (xs.take (k+1))=WZ rn (xs.take k)+Vd rn v:=by
 rw [Wv h,Hv,WZ,WZ];rfl
theorem Oy (s:Z4) (r:List Z4):∀vs:LI,As vs->WZ (s::r) vs<=1+WZ r vs/\(¬gI s.args 0∈vs->WZ (s::r) vs=WZ r vs)
 | [],_=>by simp [WZ]
 | v::vs,h=>by
  obtain ⟨h1,h2⟩:=WE.1 h
  obtain ⟨q1,q2⟩:=Oy s r vs h2
  rw [WZ,WZ,Vd]
  by_cases e:gI s.args 0=v
  ·have hn:¬gI s.args 0∈vs:=fun z=>by have:=h1 _ z;omega
   rw [Zg e,q2 hn]
   exact ⟨by omega,fun z=>absurd (YJ.2 (.inl e)) z⟩
  ·rw [Z9 e]
   exact ⟨by omega,fun z=>by rw [q2 fun y=>z (Xo _ y)];omega⟩
theorem Oz:∀(rn:List Z4) {vs:LI},As vs->WZ rn vs<=rn.length
 | [],vs,_=>by
  have:∀xs:LI,WZ [] xs=0:=fun xs=>by
   induction xs with
   | nil=>rfl
   | cons x r ih=>rw [WZ,ih];rfl
  rw [this];exact Qa _
 | s::r,vs,h=>by
  have h1:=(Oy s r vs h).1
  have h2:=Oz r h
  rw [YK];omega
theorem Hw (rn:List Z4) (xs:LI) (k:Nat):WZ rn (xs.take k)<=WZ rn xs:=by
 have h:=Yj (WZ rn) (Uz k xs)
 rw [Hv] at h;omega
def HS (m:Nat) (rn:List Z4):Prop:=∀s∈rn,∃a,s.args=[a]/\0<=a/\a<(m:Int)
theorem IU {xs:List Z4} {k:Nat} {s:Z4} (h:xs[k]? = some s):YL (xs.take (k+1))=YL (xs.take k)+(if Yl s.op=true then 0 else 1):=by rw [Wv h,K4,YL,YL];rfl
theorem KT.eq {ds:List Ze} {nf m z:Nat} {s:Z4} {ks:List Z6} (h:FS ds nf m s) (h11:s.op<=11) (hl:ks.length=s.kids.length) (hk:KK ds nf (Uu ds s.op s.num m) ks z):KT ds nf m ⟨s.op,s.num,s.into,s.args,ks⟩ (1+s.args.length+z):=by
 obtain ⟨h1,h2,h3⟩:=Lc h h11 hl h.into hk
 refine ⟨h1,by show Yl s.op=false;simp [Yl];omega,h2,?_⟩
 have:=hk.sz
 rw [Z4.sz];omega
theorem FS.pair {ds:List Ze} {nf m:Nat} {s:Z4} (h:FS ds nf m s) (hp:s.op=14∨s.op=15):(∃a,s.args=[a]/\0<=a/\a<(m:Int))/\s.sz=2/\Yl s.op=true:=by
 obtain ⟨h1,h2,h3,a,h4⟩:=h.cnt om
 have h5:=h.args a (by rw [h4];exact XT.2 rfl)
 refine ⟨⟨a,h4,h5⟩,?_,IM hp⟩
 rw [s.sz_eq,h3,h4];rfl
theorem FS.not_pair {ds:List Ze} {nf m:Nat} {s:Z4} (h:FS ds nf m s) (hp:¬(s.op=14∨s.op=15)) (h15:V2 s.op):s.op<=11/\Yl s.op=false:=by
 have h1:s.op<=15:=h15
 have h2:=h.op
 exact ⟨by omega,by simp [Yl];omega⟩
theorem CL.run {ds:List Ze} {nf m d z:Nat} {xs:List Z4} {D R:LI} {rn:List Z4} (h:CL ds nf m xs d z) (hr:HS (m+d) rn) (hD:∀v∈D,∃s∈rn,s.args=[v]) (hR:∀v∈R,∃s∈rn,s.args=[v]):CL ds nf m (xs++(D.map (Zq 14)++R.map (Zq 15))) d (z+2*(D.length+R.length)):=by
 have key:∀(A:LI),(∀v∈A,∃s∈rn,s.args=[v])->∀v∈A,0<=v/\v<((m+d:Nat):Int):=fun A hA v hv=>by
  obtain ⟨s,hs,e⟩:=hA v hv
  obtain ⟨a,e2,e3⟩:=hr s hs
  rw [e] at e2
  cases e2
  exact e3
 have h2:=(h.cnts (op:=14) (.inl rfl) (key D hD)).cnts (op:=15) (.inr rfl) (key R hR)
 rw [<-Tq]
 exact h2.le om
def Wa (xs:List Z4) (i:Nat) (s:Z4):List Z4:=xs.take i++[s]++xs.drop i
theorem CQ {xs:List Z4} (i:Nat) (s:Z4):Y8 (Wa xs i s)=Y8 xs+s.sz:=by
 have h:=Yj Y8 (Uz i xs)
 rw [UN] at h
 rw [Wa,UN,UN,Y8,Y8];omega
theorem Ni {xs:List Z4} {i:Nat} {s:Z4} (h:i<=xs.length):(Wa xs i s).length=xs.length+1:=by
 simp [Wa,Vh h];omega
def Cp (b:Z6) (i j:Nat) (v:Int):Z6:=⟨Wa (Wa b.steps j (Zq 15 v)) i (Zq 14 v),b.result⟩
def withR (n:Zt) (f:Nat) (rt:ZY) (b:Z6):Zt:=⟨n.decls,n.routines.set f ⟨rt.params,rt.lent,rt.result,b⟩⟩
def F8 (n n2:Zt):Prop:=n2=n∨∃f rt i j v,n.routines[f]? = some rt/\i<=j/\j<=rt.body.steps.length/\0<=v/\v<((rt.params.length+YL (rt.body.steps.take i):Nat):Int)/\n2=withR n f rt (Cp rt.body i j v)
theorem CL.put {ds:List Ze} {nf m:Nat} {xs:List Z4} {d z:Nat} (h:CL ds nf m xs d z) {i:Nat} {op v:Int} (ho:op=14∨op=15) (hv:0<=v/\v<((m+YL (xs.take i):Nat):Int)):CL ds nf m (Wa xs i (Zq op v)) d (z+2):=by
 have hs:=h.fs
 have hp:=h.op
 have e:=Uz i xs
 rw [<-e] at hs hp
 rw [Bp] at hs
 rw [Ei] at hp
 have h1:CL ds nf m (xs.take i) (YL (xs.take i)) (Y8 (xs.take i)):=⟨hs.1,rfl,hp.1,YX _⟩
 have h2:CL ds nf (m+YL (xs.take i)) (xs.drop i) (YL (xs.drop i)) (Y8 (xs.drop i)):=⟨hs.2,rfl,hp.2,YX _⟩
 have h3:=(h1.cnt ho hv).app h2
 have e1:=Yj Y8 e
 have e2:=Yj YL e
 rw [UN] at e1
 rw [K4,h.dn] at e2
 have:=h.sz
 rw [e2] at h3
 exact h3.le om
theorem Z53 {xs:List Z4} {i j:Nat} {s:Z4} (h:i<=j) (hj:j<=xs.length):(Wa xs j s).take i=xs.take i:=by
 rw [Wa,Tq,List.take_append_of_le_length (by rw [Wp];omega),List.take_take,Vh h]
theorem Z1f {ds:List Ze} {nf m z:Nat} {b:Z6} (h:KB ds nf m b z) {i j:Nat} {v:Int} (hij:i<=j) (hj:j<=b.steps.length) (hv:0<=v/\v<((m+YL (b.steps.take i):Nat):Int)):KB ds nf m (Cp b i j v) (z+4):=by
 obtain ⟨h1,h2⟩:=h.cl
 have hm:YL (b.steps.take i)<=YL (b.steps.take j):=by
  have e:=Yj YL (Uz i (b.steps.take j))
  rw [K4,List.take_take,Vh hij] at e;omega
 have h3:=(h1.put (i:=j) (op:=15) (v:=v) (.inr rfl) om).put (i:=i) (op:=14) (v:=v) (.inl rfl) (by rw [Z53 hij hj];exact hv)
 have:=h.sz
 have:=b.sz_eq
 exact (h3.block h2).le om
theorem FO.held {n n2:Zt} {q:Nat} (h:FO n q V2) (hh:F8 n n2):FO n2 (q+4) V2:=by
 rcases hh with rfl|⟨f,rt,i,j,v,h1,h2,h3,h4,h5,rfl⟩
 ·exact ⟨⟨h.fn.decls,h.fn.len,h.fn.sigs,h.fn.lent,fun r hr=>⟨(h.fn.body r hr).1,by have:=(h.fn.body r hr).2;omega⟩⟩,h.op⟩
 ·have hr:=h.rf (ZZ h1)
  have hk:KB n.decls n.routines.length rt.params.length (Cp rt.body i j v) (q+4):=Z1f ⟨hr.body.1,hr.op,hr.body.2⟩ h2 h3 ⟨h4,h5⟩
  refine FO.all h.fn.decls (by show 1<=(n.routines.set _ _).length/\(n.routines.set _ _).length<=4;rw [VP];exact h.fn.len) fun r hm=>?_
  show RF n.decls (n.routines.set _ _).length _ _ r
  rw [VP]
  rcases List.mem_or_eq_of_mem_set hm with hm|rfl
  ·have hq:=h.rf hm
   exact ⟨hq.sig,hq.lent,⟨hq.body.1,by have:=hq.body.2;omega⟩,hq.op⟩
  ·exact ⟨hr.sig,hr.lent,⟨hk.fb,hk.sz⟩,hk.op⟩
structure Wl (ds:List Ze) (b:Z6):Prop where
 w:wB ds b
 nr:T6 b
 rng:b.rng
structure UZ (ds:List Ze) (s:Z4):Prop where
 w:wS ds s
 nr:Jn s
 rng:s.rng
section
variable {ds:List Ze}
theorem TG:∀{xs:List Z4},Q7 xs↔∀s∈xs,s.rng
 | []=>by simp [Q7]
 | s::r=>by rw [Q7,TG];simp
theorem JQ:∀{xs:List Z6},Tw xs↔∀s∈xs,s.rng
 | []=>by simp [Tw]
 | s::r=>by rw [Tw,JQ];simp
theorem Wl.iff {b:Z6}:Wl ds b↔∀s∈b.steps,UZ ds s:=by
 constructor
 ·intro h s hs
  have h3:=h.rng
  rw [Z6.rng_eq] at h3
  exact ⟨Jx.1 ((QZ b).1 h.w) s hs,CG.1 ((CF b).1 h.nr) s hs,TG.1 h3 s hs⟩
 ·intro h
  exact ⟨(QZ b).2 (Jx.2 fun s hs=>(h s hs).w),(CF b).2 (CG.2 fun s hs=>(h s hs).nr),by rw [Z6.rng_eq];exact TG.2 fun s hs=>(h s hs).rng⟩
theorem UZ.kid {s:Z4} {b:Z6} (h:UZ ds s) (hb:b∈s.kids):Wl ds b:=by
 have h3:=h.rng
 rw [Z4.rng_eq] at h3
 exact ⟨EP.1 ((Kl s).1 h.w).2.2.2 b hb,Ee.1 ((BF s).1 h.nr).2 b hb,JQ.1 h3.2 b hb⟩
theorem UZ.kids {s:Z4} {ks:List Z6} (h:UZ ds s) (hl:ks.length=s.kids.length) (hk:∀b∈ks,Wl ds b):UZ ds ⟨s.op,s.num,s.into,s.args,ks⟩:=by
 obtain ⟨h1,h2,h3,h4⟩:=(Kl s).1 h.w
 have h5:=h.rng
 rw [Z4.rng_eq] at h5
 refine ⟨(Kl _).2 ⟨h1,fun hc=>?_,fun h8=>⟨(h3 h8).1,hl.trans (h3 h8).2⟩,EP.2 fun b hb=>(hk b hb).w⟩,(BF _).2 ⟨((BF s).1 h.nr).1,Ee.2 fun b hb=>(hk b hb).nr⟩,by rw [Z4.rng_eq];exact ⟨h5.1,JQ.2 fun b hb=>(hk b hb).rng⟩⟩
 obtain ⟨q1,q2,q3,q4⟩:=h2 hc
 exact ⟨q1,q2,List.eq_nil_of_length_eq_zero (show ks.length=0 by rw [hl,q3];rfl),q4⟩
theorem UZ.cnt {op v:Int} (h:op=14∨op=15∨op=16):UZ ds (Zq op v):=⟨Z9i h,(BF _).2 ⟨by show op≠17;omega,True.intro⟩,by rw [Z4.rng_eq];exact ⟨⟨by show (-9223372036854775808:Int)<=0;decide,by show (0:Int)<=_;decide⟩,True.intro⟩⟩
theorem Wl.open {b:Z6} {x q:Int} {fs:LI} (h:Wl ds b):Wl ds (Kt b x fs q):=by
 rw [Wl.iff] at h ⊢
 intro s hs
 have hs:s∈JM b.steps x fs q:=hs
 rw [JM] at hs
 split at hs
 ·simp only [Xe,XS,XT] at hs
  rcases hs with ((⟨a,_,rfl⟩|rfl)|⟨a,_,rfl⟩)|hs
  ·exact UZ.cnt om
  ·exact UZ.cnt om
  ·exact UZ.cnt om
  ·exact h s (List.mem_of_mem_drop hs)
 ·exact h s hs
theorem NW {m:Nat} {op num:Int} {args:LI}:∀{bs:List Z6} {k:Nat},(Tc ds m op num args bs k).length=bs.length
 | [],_=>rfl
 | b::r,k=>by rw [Tc,YK,YK,NW (bs:=r)]
mutual
theorem UZ.sp:∀(s:Z4) {m:Nat},UZ ds s->UZ ds (AW ds m s)
 | .mk op num into args kids,m,h=>by
  rw [AW]
  exact h.kids NW (Wls.sp kids fun b hb=>h.kid hb)
theorem Wls.sp:∀(bs:List Z6) {m:Nat} {op num:Int} {args:LI} {k:Nat},(∀b∈bs,Wl ds b)->∀b∈Tc ds m op num args bs k,Wl ds b
 | [],_,_,_,_,_,_,b,hb=>by cases hb
 | c::r,m,op,num,args,k,h,b,hb=>by
  rw [Tc] at hb
  rcases YJ.1 hb with rfl|hb
  ·split
   ·exact (Wl.sp c (h c (X4 ..))).open
   ·exact Wl.sp c (h c (X4 ..))
  ·exact Wls.sp r (fun x hx=>h x (Xo _ hx)) b hb
theorem WlSs.sp:∀(xs:List Z4) {m:Nat},(∀s∈xs,UZ ds s)->∀s∈Uv ds m xs,UZ ds s
 | [],_,_,s,hs=>by cases hs
 | c::r,m,h,s,hs=>by
  rw [Uv] at hs
  rcases YJ.1 hs with rfl|hs
  ·exact UZ.sp c (h c (X4 ..))
  ·exact WlSs.sp r (fun x hx=>h x (Xo _ hx)) s hs
theorem Wl.sp:∀(b:Z6) {m:Nat},Wl ds b->Wl ds (WD ds m b)
 | .mk steps result,m,h=>by
  rw [WD,Wl.iff]
  exact WlSs.sp steps (Wl.iff.1 h)
end
theorem Z5f {b:Z6} {x:Int} {many:Nat} (h:b.rng):(VN b x many).rng:=by
 rw [Z6.rng_eq] at h
 rw [VN,Z6.rng_eq]
 show Q7 (VV b.steps x many)
 rw [VV]
 split
 ·exact h
 ·rename_i hq
  obtain ⟨_,_,t,h5,h7,h6⟩:=JT (fun z=>hq (.inr z))
  rw [TG] at h ⊢
  intro s hs
  rcases List.mem_or_eq_of_mem_set hs with hs|rfl
  ·rcases List.mem_or_eq_of_mem_set hs with hs|rfl
   ·exact h s hs
   ·rw [Z4.rng_eq];exact ⟨⟨by show (-9223372036854775808:Int)<=0;decide,by show (0:Int)<=_;decide⟩,True.intro⟩
  ·have:=h t (ZZ h5)
   rw [h6,TW,Z4.rng_eq]
   rw [Z4.rng_eq] at this
   exact this
mutual
theorem Z5g:∀(s:Z4) {K:LI},s.rng->(Q3 ds K s).rng
 | .mk op num into args kids,K,h=>by
  rw [Z4.rng] at h
  rw [Q3,Z4.rng]
  exact ⟨h.1,Nt kids h.2⟩
theorem Nt:∀(bs:List Z6) {K:LI} {op num:Int} {args:LI} {k:Nat},Tw bs->Tw (Uh ds K op num args bs k)
 | [],_,_,_,_,_,_=>True.intro
 | b::r,K,op,num,args,k,h=>by
  rw [Uh,Tw]
  refine ⟨?_,Nt r h.2⟩
  split
  ·exact Z5f (H5 b h.1)
  ·exact H5 b h.1
theorem Nu:∀(xs:List Z4) {K:LI},Q7 xs->Q7 (Ui ds K xs)
 | [],_,_=>True.intro
 | s::r,K,h=>⟨Z5g s h.1,Nu r h.2⟩
theorem H5:∀(b:Z6) {K:LI},b.rng->(Wh ds K b).rng
 | .mk steps result,K,h=>by
  rw [Z6.rng] at h
  rw [Wh,Z6.rng]
  exact Nu steps h
end
end
mutual
theorem Z4a:∀s:Z4,Q1 V2 s->Jn s
 | .mk op num into args kids,h=>by
  rw [Q1] at h
  rw [Jn]
  exact ⟨by have:op<=15:=h.1;omega,MN kids h.2⟩
theorem MN:∀bs:List Z6,Q0 V2 bs->Kd bs
 | [],_=>True.intro
 | b::r,h=>⟨MM b h.1,MN r h.2⟩
theorem MO:∀bs:List Z4,T7 V2 bs->Ke bs
 | [],_=>True.intro
 | b::r,h=>⟨Z4a b h.1,MO r h.2⟩
theorem MM:∀b:Z6,WP V2 b->T6 b
 | .mk steps result,h=>by
  rw [WP] at h
  rw [T6]
  exact MO steps h
end
structure ZR (q:Nat) (r:ZY):Prop where
 params:r.params.length<=3
 lent:r.lent.length<=10
 body:r.body.sz<=q
 rng:r.body.rng
structure ZN (n:Zt) (q:Nat):Prop where
 decls:AD n.decls
 len:1<=n.routines.length/\n.routines.length<=4
 rt:∀r∈n.routines,ZR q r
theorem ZR.le {q q2:Nat} {r:ZY} (h:ZR q r) (hq:q<=q2):ZR q2 r:=⟨h.params,h.lent,Wj h.body hq,h.rng⟩
theorem ZN.le {n:Zt} {q q2:Nat} (h:ZN n q) (hq:q<=q2):ZN n q2:=⟨h.decls,h.len,fun r hr=>(h.rt r hr).le hq⟩
theorem ZN.sz {n:Zt} {q:Nat} (h:ZN n q) (hq:q<=10000000):UX n:=
 ⟨⟨by have:=h.decls.1;omega,fun d hd=>by have:=(h.decls.2 d hd).1;omega,fun d hd c hc=>by have:=(h.decls.2 d hd).2 c hc;omega⟩,by have:=h.len;omega,fun r hr=>by have:=(h.rt r hr).params;omega,fun r hr=>by have:=(h.rt r hr).lent;omega,fun r hr=>by have:=(h.rt r hr).body;omega⟩
theorem FO.wl {n:Zt} {q:Nat} (h:FO n q V2) (hq:q<=100000000):∀r∈n.routines,Wl n.decls r.body:=fun r hr=>by
 have h1:=h.rf hr
 have h2:r.params.length<=3:=(UP.bd (f:=⟨r.params,r.result,default⟩) h1.sig).1
 exact ⟨OP r.body h1.body.1 (by have:=h1.body.2;omega) h.fn.decls.ok,MM r.body h1.op,H3 r.body h1.body.1⟩
theorem FO.zn {n:Zt} {q:Nat} {p:Int->Prop} (h:FO n q p):ZN n q:=
 ⟨h.fn.decls.ad,h.fn.len,fun r hr=>⟨(UP.bd (f:=⟨r.params,r.result,default⟩) (h.fn.sigs r hr)).1,by have:=(h.fn.lent r hr).1;omega,(h.fn.body r hr).2,H3 r.body (h.fn.body r hr).1⟩⟩
structure WN (n:Zt) (q:Nat):Prop where
 ok:X0 n
 zn:ZN n q
 wl:∀r∈n.routines,Wl n.decls r.body
theorem FO.wn {n:Zt} {q:Nat} (h:FO n q V2) (hq:q<=100000000):WN n q:=⟨h.fn.ok,h.zn,h.wl hq⟩
theorem WN.sp {n:Zt} {q:Nat} (h:WN n q):WN (EG n) (9*q):=by
 refine ⟨⟨h.ok.decls,by show (n.routines.map _).length<=4;rw [Ap];exact h.ok.len,fun r hr=>?_,fun r hr=>?_⟩,⟨h.zn.decls,by show 1<=(n.routines.map _).length/\(n.routines.map _).length<=4;rw [Ap];exact h.zn.len,fun r hr=>?_⟩,fun r hr=>?_⟩
 ·obtain ⟨s,hs,rfl⟩:=XS.1 hr;exact h.ok.params s hs
 ·obtain ⟨s,hs,rfl⟩:=XS.1 hr;exact h.ok.lent s hs
 ·obtain ⟨s,hs,rfl⟩:=XS.1 hr
  have hz:=h.zn.rt s hs
  refine ⟨hz.params,hz.lent,?_,(Wl.sp s.body (h.wl s hs)).rng⟩
  have h1:=EE h.ok.decls s.body (m:=s.params.length) (h.wl s hs).w
  have h2:=s.body.pz_le
  have h3:=hz.body
  show (WD n.decls s.params.length s.body).sz<=9*q
  omega
 ·obtain ⟨s,hs,rfl⟩:=XS.1 hr;exact Wl.sp s.body (h.wl s hs)
theorem WN.ru {n:Zt} {q:Nat} (h:WN n q):ZN (Er n) q:=by
 refine ⟨h.zn.decls,by show 1<=(n.routines.map _).length/\(n.routines.map _).length<=4;rw [Ap];exact h.zn.len,fun r hr=>?_⟩
 obtain ⟨s,hs,rfl⟩:=XS.1 hr
 have hz:=h.zn.rt s hs
 refine ⟨hz.params,hz.lent,?_,H5 s.body (h.wl s hs).rng⟩
 have h1:=H9 s.body (K:=[]) (h.wl s hs).w
 have h3:=hz.body
 show (Wh n.decls [] s.body).sz<=q
 omega
theorem H0 {xs:List Z4} {i:Nat} {s t:Z4} (h:t∈Wa xs i s):t∈xs∨t=s:=by
 rw [Wa] at h
 simp only [Xe,XT] at h
 rcases h with (h|h)|h
 ·exact .inl (TL h)
 ·exact .inr h
 ·exact .inl (List.mem_of_mem_drop h)
theorem H4 {op v:Int}:(Zq op v).rng:=by rw [Z4.rng_eq];exact ⟨⟨by show (-9223372036854775808:Int)<=0;decide,by show (0:Int)<=_;decide⟩,True.intro⟩
theorem ZN.withR {n:Zt} {q q2:Nat} {f:Nat} {rt:ZY} {b:Z6} (h:ZN n q) (hr:n.routines[f]? = some rt) (hq:q<=q2) (hb:b.sz<=q2) (hg:b.rng):ZN (withR n f rt b) q2:=by
 refine ⟨h.decls,by show 1<=(n.routines.set _ _).length/\(n.routines.set _ _).length<=4;rw [VP];exact h.len,fun r hm=>?_⟩
 rcases List.mem_or_eq_of_mem_set hm with hm|rfl
 ·exact (h.rt r hm).le hq
 ·have:=h.rt rt (ZZ hr)
  exact ⟨this.params,this.lent,hb,hg⟩
theorem ZN.held {n n2:Zt} {q:Nat} (h:ZN n q) (hh:F8 n n2):ZN n2 (q+4):=by
 rcases hh with rfl|⟨f,rt,i,j,v,h1,h2,h3,h4,h5,rfl⟩
 ·exact h.le om
 ·have hz:=h.rt rt (ZZ h1)
  refine h.withR h1 om ?_ ?_
  ·rw [Cp,Z6.sz,CQ,CQ]
   have e1:(Zq 14 v).sz=2:=rfl
   have e2:(Zq 15 v).sz=2:=rfl
   have:=hz.body
   have:=rt.body.sz_eq
   omega
  ·have hg:=hz.rng
   rw [Z6.rng_eq,TG] at hg
   rw [Cp,Z6.rng_eq,TG]
   intro s hs
   rcases H0 hs with hs|rfl
   ·rcases H0 hs with hs|rfl
    ·exact hg s hs
    ·exact H4
   ·exact H4
theorem FO.le {n:Zt} {q q2:Nat} {p:Int->Prop} (h:FO n q p) (hq:q<=q2):FO n q2 p:=⟨⟨h.fn.decls,h.fn.len,h.fn.sigs,h.fn.lent,fun r hr=>⟨(h.fn.body r hr).1,Wj (h.fn.body r hr).2 hq⟩⟩,h.op⟩
def Vt (s y:Z4):Prop:=y.sz<=s.sz+1/\y.rng
theorem Vt.refl {s:Z4} (hg:s.rng):Vt s s:=⟨Nat.le_succ _,hg⟩
theorem Vt.of {s:Z4} {op num into:Int} {args:LI} {kids:List Z6} (hg:s.rng) (hn:num=s.num∨num∈([0,1,2,3,-1,1000]:LI)) (ha:args.length<=s.args.length+1) (hk:kids=s.kids∨kids=s.kids.drop 1):Vt s ⟨op,num,into,args,kids⟩:=by
 rw [Z4.rng_eq] at hg
 have hs:=s.sz_eq
 have hb:YE kids<=YE s.kids:=by
  rcases hk with rfl|rfl
  ·exact YX _
  ·have h:=Yj YE (Uz 1 s.kids)
   rw [C3] at h;omega
 refine ⟨by rw [Z4.sz];omega,?_⟩
 rw [Z4.rng]
 refine ⟨?_,JQ.2 fun b hbk=>JQ.1 hg.2 b ?_⟩
 ·rcases hn with rfl|hn
  ·exact hg.1
  ·have:=(by decide:∀z∈([0,1,2,3,-1,1000]:LI),-9223372036854775808<=z/\z<=9223372036854775807) num hn
   exact this
 ·rcases hk with rfl|rfl
  ·exact hbk
  ·exact List.mem_of_mem_drop hbk
def Xf (b y:Z6):Prop:=y.sz<=b.sz+2/\y.rng
theorem Xf.result {b:Z6} (hg:b.rng) (z:Int):Xf b ⟨b.steps,z⟩:=⟨by rw [Z6.sz,b.sz_eq];omega,by rw [Z6.rng_eq] at hg;rw [Z6.rng];exact hg⟩
theorem Xf.put {b:Z6} (hg:b.rng) {i:Nat} {op v:Int}:Xf b ⟨Wa b.steps i (Zq op v),b.result⟩:=by
 rw [Z6.rng_eq,TG] at hg
 refine ⟨?_,?_⟩
 ·rw [Z6.sz,CQ,b.sz_eq]
  have e:(Zq op v).sz=2:=rfl
  omega
 ·rw [Z6.rng,TG]
  intro s hs
  rcases H0 hs with hs|rfl
  ·exact hg s hs
  ·exact H4
theorem Xf.del {b:Z6} (hg:b.rng) {k:Nat}:Xf b ⟨b.steps.take k++b.steps.drop (k+1),b.result⟩:=by
 rw [Z6.rng_eq,TG] at hg
 have h1:=TH b.steps k
 have h2:=Yj Y8 (Uz k b.steps)
 have h3:=Yj Y8 (Uz 1 (b.steps.drop k))
 rw [UN] at h2 h3
 rw [List.drop_drop] at h3
 refine ⟨by rw [Z6.sz,UN,b.sz_eq];omega,?_⟩
 rw [Z6.rng,TG]
 intro s hs
 rcases Xe.1 hs with hs|hs
 ·exact hg s (TL hs)
 ·exact hg s (List.mem_of_mem_drop hs)
theorem Xf.set {b:Z6} (hg:b.rng) {k:Nat} {s t:Z4} (hs:b.steps[k]? = some s) (ht:t.sz<=s.sz+2/\t.rng):Xf b ⟨b.steps.set k t,b.result⟩:=by
 rw [Z6.rng_eq,TG] at hg
 have h1:=EJ t hs
 refine ⟨by rw [Z6.sz,b.sz_eq];omega,?_⟩
 rw [Z6.rng,TG]
 intro x hx
 rcases List.mem_or_eq_of_mem_set hx with hx|rfl
 ·exact hg x hx
 ·exact ht.2
theorem Ii:∀{xs:List Z6} {i:Nat} {s:Z6} (t:Z6),xs[i]? = some s->YE (xs.set i t)+s.sz=YE xs+t.sz
 | [],_,_,_,h=>by simp at h
 | x::r,0,s,t,h=>by simp at h;subst h;rw [List.set_cons_zero,YE,YE];omega
 | x::r,i+1,s,t,h=>by
  have:=Ii (xs:=r) (i:=i) t (by simpa using h)
  rw [List.set_cons_succ,YE,YE];omega
theorem Xf.kid {b:Z6} (hg:b.rng) {k j:Nat} {s:Z4} {c y:Z6} (hs:b.steps[k]? = some s) (hc:s.kids[j]? = some c) (hy:Xf c y):Xf b ⟨b.steps.set k ⟨s.op,s.num,s.into,s.args,s.kids.set j y⟩,b.result⟩:=by
 refine Xf.set hg hs ?_
 have hg2:=hg
 rw [Z6.rng_eq,TG] at hg2
 have h1:=hg2 s (ZZ hs)
 rw [Z4.rng_eq] at h1
 have h2:=Ii y hc
 have h3:=hy.1
 refine ⟨by rw [Z4.sz,s.sz_eq];omega,?_⟩
 rw [Z4.rng]
 refine ⟨h1.1,JQ.2 fun x hx=>?_⟩
 rcases List.mem_or_eq_of_mem_set hx with hx|rfl
 ·exact JQ.1 h1.2 x hx
 ·exact hy.2
theorem Z5e {b:Z6} (hg:b.rng) {k j:Nat} {s:Z4} {c:Z6} (hs:b.steps[k]? = some s) (hc:s.kids[j]? = some c):c.rng:=by
 rw [Z6.rng_eq,TG] at hg
 have h1:=hg s (ZZ hs)
 rw [Z4.rng_eq] at h1
 exact JQ.1 h1.2 c (ZZ hc)
theorem Z5h {b:Z6} (hg:b.rng) {k:Nat} {s:Z4} (hs:b.steps[k]? = some s):s.rng:=by
 rw [Z6.rng_eq,TG] at hg
 exact hg s (ZZ hs)
structure ZS (n:Zt) (q l:Nat):Prop where
 decls:AD n.decls
 len:1<=n.routines.length/\n.routines.length<=4
 rt:∀r∈n.routines,r.params.length<=3/\r.lent.length<=l/\r.body.sz<=q/\r.body.rng
theorem ZN.zs {n:Zt} {q:Nat} (h:ZN n q):ZS n q 10:=⟨h.decls,h.len,fun r hr=>⟨(h.rt r hr).params,(h.rt r hr).lent,(h.rt r hr).body,(h.rt r hr).rng⟩⟩
theorem ZS.le {n:Zt} {q q2 l l2:Nat} (h:ZS n q l) (hq:q<=q2) (hl:l<=l2):ZS n q2 l2:=⟨h.decls,h.len,fun r hr=>by obtain ⟨a,b,c,d⟩:=h.rt r hr;exact ⟨a,by omega,by omega,d⟩⟩
theorem ZS.sz {n:Zt} {q l:Nat} (h:ZS n q l) (hq:q<=10000000) (hl:l<=1000):UX n:=
 ⟨⟨by have:=h.decls.1;omega,fun d hd=>by have:=(h.decls.2 d hd).1;omega,fun d hd c hc=>by have:=(h.decls.2 d hd).2 c hc;omega⟩,by have:=h.len;omega,fun r hr=>by have:=(h.rt r hr).1;omega,fun r hr=>by have:=(h.rt r hr).2.1;omega,fun r hr=>by have:=(h.rt r hr).2.2.1;omega⟩
theorem ZS.set {n:Zt} {q l q2 l2:Nat} {f:Nat} {rt:ZY} {ls:LI} {b:Z6} (h:ZS n q l) (hr:n.routines[f]? = some rt) (hq:q<=q2) (hl:l<=l2) (hls:ls.length<=l2) (hb:b.sz<=q2) (hg:b.rng):ZS ⟨n.decls,n.routines.set f ⟨rt.params,ls,rt.result,b⟩⟩ q2 l2:=by
 refine ⟨h.decls,by show 1<=(n.routines.set _ _).length/\(n.routines.set _ _).length<=4;rw [VP];exact h.len,fun r hm=>?_⟩
 rcases List.mem_or_eq_of_mem_set hm with hm|rfl
 ·exact (h.le hq hl).rt r hm
 ·have:=h.rt rt (ZZ hr)
  exact ⟨this.1,hls,hb,hg⟩
theorem ZS.ds {n:Zt} {q l:Nat} {ds:List Ze} (h:ZS n q l) (hd:AD ds):ZS ⟨ds,n.routines⟩ q l:=⟨hd,h.len,h.rt⟩
section
variable {n n2:Zt} (hd:n2.decls=n.decls) (hr:∀vars op num args,UM n2 vars op num args=UM n vars op num args)
include hd hr
mutual
theorem Ot:∀(s:Z4) {us:LI},Y0 n2 us s=Y0 n us s
 | .mk op num into args kids,us=>by
  rw [Y0,Y0,hd,hr,Mn kids]
theorem Mn:∀(bs:List Z6) {us:LI} {ms:List LI} {f:Bool} {t:Int},XV n2 us bs ms f t=XV n us bs ms f t
 | [],us,ms,f,t=>by rw [XV,XV]
 | b::r,us,[],f,t=>by rw [XV,XV]
 | b::r,us,m::ms,f,t=>by
  rw [XV,XV,Ic b]
  simp only [Mn r]
theorem Ow:∀(xs:List Z4) {us:LI},Wb n2 xs us=Wb n xs us
 | [],us=>by rw [Wb,Wb]
 | s::r,us=>by
  rw [Wb,Wb,Ot s]
  simp only [Ow r]
theorem Ic:∀(b:Z6) {us:LI},YU n2 us b=YU n us b
 | .mk steps result,us=>by rw [YU,YU,Ow steps]
end
end
theorem OS {n:Zt} {k:Nat} {r:ZY} {b:Z6} (h:n.routines[k]? = some r):∀vars op num args,UM (withR n k r b) vars op num args=UM n vars op num args:=by
 intro vars op num args
 unfold UM withR
 dsimp only
 by_cases hk:num=(k:Int)
 ·subst hk
  have hl:=(Xr.1 h).1
  rw [YZ,Zg (by rw [VP];omega),YZ,Zg om,V1,List.getElem?_set_self hl,h]
  rfl
 ·have e:YZ (n.routines.set k ⟨r.params,r.lent,r.result,b⟩) num=YZ n.routines num:=by
   unfold YZ
   rw [VP]
   split
   ·rw [List.getElem?_set_ne om]
   ·rfl
  rw [e]
theorem MB:∀{rs:List ZY} {k:Nat} {r:ZY} {b:Z6},rs[k]? = some r->Tn (rs.set k ⟨r.params,r.lent,r.result,b⟩)=Tn rs
 | x::xs,0,r,b,h=>by simp at h;subst h;rw [List.set_cons_zero,Tn,Tn]
 | x::xs,k+1,r,b,h=>by rw [List.set_cons_succ,Tn,Tn,MB (by simpa using h)]
theorem Z6m {rs:List ZY} {k:Nat} {r:ZY} {b:Z6} (h:rs[k]? = some r):(rs.set k ⟨r.params,r.lent,r.result,b⟩).map VC=rs.map VC:=by
 apply List.ext_getElem?
 intro i
 rw [Qw,Qw]
 by_cases hi:i=k
 ·subst hi
  have hl:=(Xr.1 h).1
  rw [List.getElem?_set_self hl,h];rfl
 ·rw [List.getElem?_set_ne om]
theorem Z9n {n:Zt} {k:Nat} {r:ZY} {b:Z6} (h:n.routines[k]? = some r):VU (withR n k r b)=VU n:=by
 unfold VU withR
 dsimp only
 rw [Z6m h,MB h,VP]
theorem Nv {n:Zt}:∀{l:List ZY},(∀r∈l,¬V9 r.body<0/\YU n r.params r.body=r.result)->T9 n l=true
 | [],_=>by rw [T9]
 | r::rs,h=>by rw [T9,Zg (h r (X4 ..))];exact Nv fun q hq=>h q (Xo _ hq)
theorem My (xs:List Z4) {l:Int} (h:0<=l):WO xs l<=l:=by have:=BC.2 (.mk xs 0) l h;rwa [XE] at this
theorem Z3q (xs:List Z6) {l:Int} (h:0<=l):VA xs l<=l:=by have:=BC.1 (.mk 0 0 0 [] xs) l h;rwa [UV] at this
mutual
theorem Z3u:∀(s:Z4) {l:Int},1<=l->1<=UV s l->UV s (l-1)=UV s l-1
 | .mk op num into args kids,l,hl,h=>by rw [UV] at h ⊢;rw [UV];exact MC kids hl h
theorem Z3t:∀(b:Z6) {l:Int},1<=l->1<=XE b l->XE b (l-1)=XE b l-1
 | .mk steps _,l,hl,h=>by rw [XE] at h ⊢;rw [XE];exact GS steps hl h
theorem GS:∀(xs:List Z4) {l:Int},1<=l->1<=WO xs l->WO xs (l-1)=WO xs l-1
 | [],l,hl,h=>by simp only [WO]
 | s::r,l,hl,h=>by
  rw [WO] at h
  split at h
  ·omega
  ·rename_i h1
   split at h
   ·omega
   ·rename_i h2
    have h3:=My r (l:=UV s (l-1)) om
    have h4:=BC.1 s (l-1) om
    have h5:=Z3u s (l:=l-1) om om
    have h6:=GS r (l:=UV s (l-1)) om h
    rw [WO,Z9 om,h5,Z9 om,h6]
    rw [WO,Z9 h1,Z9 h2]
theorem MC:∀(xs:List Z6) {l:Int},1<=l->1<=VA xs l->VA xs (l-1)=VA xs l-1
 | [],l,hl,h=>by simp only [VA]
 | b::r,l,hl,h=>by
  rw [VA] at h
  split at h
  ·omega
  ·rename_i h2
   have h3:=Z3q r (l:=XE b l) om
   have h5:=Z3t b hl om
   have h6:=MC r (l:=XE b l) om h
   rw [VA,h5,Z9 om,h6]
   rw [VA,Z9 h2]
end
theorem PU {op:Int} {c:LI}:(XI op c).length=c.length:=by unfold XI;split<;>simp
theorem PS {op:Int} {c:LI} (h:c.length=4):XI op (XI 14 c)=XI 14 (XI op c):=by
 match c,h with
 | [x,y,z,w],_=>
  by_cases hc:Yl op=true
  ·have h4:op=14∨op=15∨op=16∨op=17:=by simp [Yl] at hc;omega
   rcases h4 with rfl|rfl|rfl|rfl<;>simp [XI,Yl,gI]
  ·have e:∀d:LI,XI op d=d:=fun d=>by rw [XI,Z9 hc]
   rw [e,e]
mutual
theorem PW:∀(s:Z4) {c:LI},c.length=4->TQ s (XI 14 c)=XI 14 (TQ s c)
 | .mk op _ _ _ kids,c,h=>by rw [TQ,TQ,PS h,Iu kids (by rw [PU];exact h)]
theorem Ir:∀(b:Z6) {c:LI},c.length=4->Wy b (XI 14 c)=XI 14 (Wy b c)
 | .mk steps _,c,h=>by rw [Wy,Wy,Fs steps h]
theorem Fs:∀(xs:List Z4) {c:LI},c.length=4->Vc xs (XI 14 c)=XI 14 (Vc xs c)
 | [],c,h=>by rw [Vc,Vc]
 | s::r,c,h=>by rw [Vc,Vc,PW s h,Fs r (ID s h).1]
theorem Iu:∀(xs:List Z6) {c:LI},c.length=4->WT xs (XI 14 c)=XI 14 (WT xs c)
 | [],c,h=>by rw [WT,WT]
 | s::r,c,h=>by rw [WT,WT,Ir s h,Iu r (Bb s h).1]
end
theorem Iz:∀{rs:List ZY} {c:LI},c.length=4->WU rs (XI 14 c)=XI 14 (WU rs c)
 | [],c,h=>by rw [WU,WU]
 | s::r,c,h=>by rw [WU,WU,Ir _ h,Iz (Bb _ h).1]
theorem IA:∀{rs:List ZY} {k:Nat} {r:ZY} {b:Z6} {c:LI},c.length=4->rs[k]? = some r->(∀c:LI,c.length=4->Wy b c=XI 14 (Wy r.body c))->WU (rs.set k ⟨r.params,r.lent,r.result,b⟩) c=XI 14 (WU rs c)
 | x::xs,0,r,b,c,hl,h,hb=>by
  simp at h;subst h
  rw [List.set_cons_zero,WU,WU]
  show WU xs (Wy b c)=_
  rw [hb c hl,Iz (Bb _ hl).1]
 | x::xs,k+1,r,b,c,hl,h,hb=>by rw [List.set_cons_succ,WU,WU,IA (Bb _ hl).1 (by simpa using h) hb]
abbrev U2 (q:Nat):Z4:=.mk 14 0 0 [(q:Int)] []
theorem RO {b:Z6} {q:Nat} {c:LI} (h:c.length=4):Wy (WQ b 0 [U2 q]) c=XI 14 (Wy b c):=by
 rw [Dq,Dq]
 show Vc (b.steps.take 0++[U2 q]++b.steps.drop 0) c=_
 rw [List.take_zero,Ko,K0,List.singleton_append,Vc,TQ,WT,Fs _ h]
theorem PR {c:LI} (h:c.length=4):XI 14 c=[gI c 0+1,gI c 1,gI c 2,gI c 3]:=by
 match c,h with
 | [x,y,z,w],_=>simp [XI,Yl,gI]
theorem RR {n:Zt} (hV:Wi n=true) {k q:Nat} {r:ZY} {x:Int} (hr:n.routines[k]? = some r) (hx:r.params[q]? = some x) (h0:x≠0) (h6:V9 r.body<600) :
  Wi (withR n k r (WQ r.body 0 [U2 q]))=true:=by
 have hV0:=hV
 simp only [Wi,XN] at hV
 have hall:=H6 hV.2
 rw [Wi,Z9n hr,hV.1,Bool.true_and]
 have hc:=fun (b:Z6) (us:LI)=>Ic (n:=n) (n2:=withR n k r (WQ r.body 0 [U2 q])) rfl (OS hr) b (us:=us)
 have hcs:=fun (s:Z4) (us:LI)=>Ot (n:=n) (n2:=withR n k r (WQ r.body 0 [U2 q])) rfl (OS hr) s (us:=us)
 refine Nv fun p hp=>?_
 have hp:p∈n.routines.set k ⟨r.params,r.lent,r.result,WQ r.body 0 [U2 q]⟩:=hp
 rcases List.mem_or_eq_of_mem_set hp with hp|rfl
 ·rw [hc];exact hall p hp
 ·have hrr:=hall r (ZZ hr)
  have hbody:WQ r.body 0 [U2 q]=.mk (U2 q::r.body.steps) r.body.result:=by
   show Z6.mk (r.body.steps.take 0++[U2 q]++r.body.steps.drop 0) _=_
   rw [List.take_zero,Ko,K0,List.singleton_append]
  have hst:V9 r.body=if WO r.body.steps 600<0 then -1 else 600-WO r.body.steps 600:=by
   rw [V9];cases r.body;rw [XE];rfl
  have hbt:YU n r.params r.body=match Wb n r.body.steps r.params with|none=>-1|some vs=>(YZ vs r.body.result).getD (-1):=by
   cases r.body;rw [YU];rfl
  dsimp only
  constructor
  ·have h1:1<=WO r.body.steps 600:=by
    rw [hst] at h6 hrr
    split at h6
    ·rename_i h9;rw [Zg h9] at hrr;exact absurd (show (-1:Int)<0 by decide) hrr.1
    ·omega
   have h2:=GS r.body.steps (l:=600) om h1
   have h3:UV (U2 q) (600-1)=600-1:=by rw [U2,UV,VA]
   have h7:WO (U2 q::r.body.steps) 600=WO r.body.steps 600-1:=by rw [WO,Z9 om,h3,Z9 om,h2]
   rw [hbody,V9,XE,h7,Z9 om]
   have:=My r.body.steps (l:=600) om
   omega
  ·rw [hc,hbody,YU,Wb]
   have hq:=(Xr.1 hx).1
   have ht:Y0 n r.params (U2 q)=0:=by
    rw [U2,Y0,Z9 (by simp [VW])]
    simp only [show ¬((14:Int)=0) by decide,show ¬((14:Int)=1∨(14:Int)=2∨(14:Int)=3∨(14:Int)=4) by decide,show ¬((14:Int)=5) by decide,show ¬((14:Int)=6) by decide,show ¬((14:Int)=7) by decide,show ¬((14:Int)=8) by decide,show ¬((14:Int)=9∨(14:Int)=10) by decide,show ¬((14:Int)=11) by decide,if_false,true_or,if_true]
    rw [Tf]
    have hat:YZ r.params (q:Int)=some x:=by rw [YZ,Zg om,V1,hx]
    show (match YZ r.params (q:Int) with|some t=>if t=0 then (-1:Int) else if ((14:Int)≠14/\(14:Int)≠15)/\Xu n.decls t=true then -1 else 0|none=>-1)=0
    rw [hat]
    show (if x=0 then (-1:Int) else if ((14:Int)≠14/\(14:Int)≠15)/\Xu n.decls x=true then -1 else 0)=0
    rw [Z9 h0,Z9 (by simp)]
   rw [ht,Z9 om,show Xz (U2 q).op=false by rfl,Z9 (by decide),<-hrr.2,hbt]
   all_goals (cases Wb n r.body.steps r.params<;>rfl)
theorem RP {n:Zt} (hV:Wi n=true) {k q:Nat} {r:ZY} {x:Int} (hr:n.routines[k]? = some r) (hx:r.params[q]? = some x) (h0:x≠0) (h6:V9 r.body<600) :
  (if Wi (withR n k r (WQ r.body 0 [U2 q]))=true then Qi (withR n k r (WQ r.body 0 [U2 q])) else [])=[gI (Qi n) 0+1,gI (Qi n) 1,gI (Qi n) 2,gI (Qi n) 3]:=by
 rw [Zg (RR hV hr hx h0 h6)]
 have hl:(Qi n).length=4:=(Fq n.routines rfl).1
 rw [<-PR hl]
 exact IA rfl hr fun c hc=>RO hc
def cF (n:Zt):LI:=if Wi n=true then Qi n else []
theorem In {n:Zt} (h:Wi n=true):(cF n).length=4:=by rw [cF,Zg h];exact (Fq n.routines rfl).1
theorem JR {n:Zt}:(cF n).length<=4:=by
 by_cases h:Wi n=true
 ·rw [In h];exact YX _
 ·rw [cF,Z9 h];exact Qa _
theorem Iy:∀{rs:List ZY} {c:LI} {q:Int},CB c q->0<=q->(∀r∈rs,r.body.sz<=10000000)->CB (WU rs c) (q+10000000*rs.length)
 | [],c,q,h,hq,_=>by rw [WU];exact h.le (by simp)
 | r::rs,c,q,h,hq,hz=>by
  have h0:=hz r (X4 ..)
  have h1:=(CB.b r.body h hq).le (p:=q+10000000) om
  have h2:=Iy h1 om fun p hp=>hz p (Xo _ hp)
  rw [WU]
  refine h2.le ?_
  rw [YK];omega
theorem Do {n:Zt} (hz:UX n) (hl:n.routines.length<=4):∀x∈cF n,0<=x/\x<=40000000:=by
 intro x hx
 rw [cF] at hx
 split at hx
 ·have h:=Iy (rs:=n.routines) (c:=[0,0,0,0]) (q:=0) ⟨rfl,fun y hy=>by simp at hy;omega⟩ om fun r hr=>hz.body r hr
  have:=h.bd x hx
  omega
 ·cases hx
theorem RM {n:Zt} (hV:Wi n=true) {k q:Nat} {r:ZY} {x:Int} (hr:n.routines[k]? = some r) (hx:r.params[q]? = some x) (h0:x≠0) (h6:V9 r.body<600) :
  cF (withR n k r (WQ r.body 0 [U2 q]))=[gI (cF n) 0+1,gI (cF n) 1,gI (cF n) 2,gI (cF n) 3]:=by
 rw [cF,RP hV hr hx h0 h6,cF,Zg hV]
theorem RT {n:Zt} {Q l:Nat} (h:ZS n Q l) {k q:Nat} {r:ZY} (hr:n.routines[k]? = some r):ZS (withR n k r (WQ r.body 0 [U2 q])) (Q+2) l:=by
 have hb:=h.rt r (ZZ hr)
 have e:WQ r.body 0 [U2 q]=.mk (U2 q::r.body.steps) r.body.result:=by
  show Z6.mk (r.body.steps.take 0++[U2 q]++r.body.steps.drop 0) _=_
  rw [List.take_zero,Ko,K0,List.singleton_append]
 refine h.set hr om (YX _) hb.2.1 ?_ ?_
 ·rw [e,Z6.sz,Y8,Z4.sz,YE]
  have:=r.body.sz_eq
  simp;omega
 ·rw [e,Z6.rng,Q7]
  refine ⟨by simp [Z4.rng,Tw],?_⟩
  have:=hb.2.2.2
  rwa [Z6.rng_eq] at this
end Go.Abs
