/-
  A part of the proof of FnUsedFromStepUptoSaid (see the last file): no condition.
-/
import Derived.Test.YthllacimcjakdaaGreatUfsA
import Derived.Test.YthllacimcjakdaaGreatRows
import Derived.Deep.Slices
import Derived.ChangeArms
import Derived.Lib.SlicesCompact
import Derived.Shelf.Sort.Plain
import Derived.Shelf.Slices.CompactI
import Derived.Ground.NamesProg
import Derived.Ground.Names2Prog
import Derived.Test.YthllacimcjakdaaGreatProg
set_option linter.all false
set_option linter.unusedVariables false
set_option linter.unusedSimpArgs false
set_option linter.unusedSectionVars false
set_option maxRecDepth 10000
set_option maxHeartbeats 4000000
section
namespace Go.Abs
theorem Y9.rgrow {w:World} {G:ZV} {h2:List Res} {g len len' cap k:Nat} {ls ls':List AV} (hh:Y9 w G (.row (.slice (some ⟨g,0,none⟩) len cap) k ls::h2)) {cs cs':Array Value} {e:TypeId}
  (hb:w.heap[g]? = some (.cells cs e (0,0))) (YZ:cs'.size=cs.size) (hle:len'<=cap) (hcap:cs.size=cap*k) (hl:ls'.length=len'*k) (hls:Yp w G ls' (cs'.toList.take (len'*k))) :
  Y9 (w.setRow g cs') G (.row (.slice (some ⟨g,0,none⟩) len' cap) k ls'::h2) /\
   YF w G (.row (.slice (some ⟨g,0,none⟩) len cap) k ls::h2) (w.setRow g cs') G (.row (.slice (some ⟨g,0,none⟩) len' cap) k ls'::h2):=by
 have hmem:Res.row (.slice (some ⟨g,0,none⟩) len cap) k ls∈Res.row (.slice (some ⟨g,0,none⟩) len cap) k ls::h2:=YM ..
 have hA:WK G w (w.setRow g cs') G:=⟨fun c j hg=>by
  have hne:c≠g:=fun he=>hh.prot _ hmem c j he hg
  simp [World.cell?,WC w g c cs' hne],fun _ _ h=>h⟩
 have e1:YF w G [.row (.slice (some ⟨g,0,none⟩) len cap) k ls] (w.setRow g cs') G [.row (.slice (some ⟨g,0,none⟩) len' cap) k ls']:=by
  refine ⟨rfl,rfl,rfl,by simp [World.setRow],fun _ _ h=>h,?_,fun _ _ _ h=>.inl h,?_⟩
  ·intro c hc
   by_cases hcb:c=g
   ·subst hcb
    exact .inr ⟨cs,cs',e,(0,0),hb,setRow_heap w c cs cs' e (0,0) hb,YZ,fun j hj=>absurd ⟨_,YM ..,rfl⟩ hj⟩
   ·exact .inl (WC w g c cs' hcb)
  ·rintro c j _ ⟨r,hr,hf⟩
   rw [Xj.1 hr] at hf
   exact ⟨_,YM ..,hf⟩
 have e2:Y9 (w.setRow g cs') G [.row (.slice (some ⟨g,0,none⟩) len' cap) k ls']:=by
  refine ⟨fun r hr=>?_,Jl _ _,fun r hr c j hf hg=>?_,fun c j hg=>?_⟩
  ·rw [Xj.1 hr]
   exact .inr ⟨g,len',cap,cs',e,rfl,setRow_heap w g cs cs' e (0,0) hb,hle,YZ.trans hcap,hl,hls.mono hA⟩
  ·rw [Xj.1 hr] at hf
   exact hh.prot _ hmem c j hf hg
  ·have:=hh.lt c j hg
   simpa [World.setRow] using this
 exact Y9.frame (h:=[.row (.slice (some ⟨g,0,none⟩) len cap) k ls]) (k:=h2) hh e1 e2
section
variable {P:Program} {n:Nat} {ops:Array Oper} {k:Nat} {F:Fr} {h2:List Res}
theorem IH {K:Fr->List Res->Prop} {v:Hd} {sz m:Nat} {ls xs:List AV} {hx:Option Value} (hd:WE n (Zx ops k)=true) (ha:Vg P ops F k=some (.val v.v,.sl xs hx,sz))
  (hxs:∀y∈xs,y.leaves.length=sz) (hone:(Zc xs).all AV.one=true) (hm0:ls.length=m*sz) (hk0:0<sz) (hne:xs≠[]) (hbound:m+xs.length<=4294967296)
  (hK:∀v':Hd,K (F.put (Zx ops k).dst (.val v'.v)) (.row v'.v sz (ls++Zc xs)::h2)):XY P n (Zx ops k) F (.row v.v sz ls::h2) K:=by
 unfold Vg at ha
 generalize hoo:Zx ops k=o at ha hd hK
 obtain ⟨dst,op,type,pos,after,guard⟩:=o
 cases op<;>simp only at ha<;>try (cases ha)
 rename_i c
 obtain ⟨callee,args,tys⟩:=c
 simp only at ha
 split at ha
 case h_2=>cases ha
 rename_i s x t t' hargs htys
 split at ha
 case h_2=>cases ha
 rename_i e htt ht
 have:=VB htt
 subst this
 split at ha
 case h_2=>cases ha
 rename_i i hinfo
 split at ha
 case h_2=>cases ha
 rename_i z hz
 split at ha
 case h_2=>cases ha
 rename_i hb
 simp only [W5] at hb
 simp only [XC,Prod.mk.injEq] at ha
 obtain ⟨h3,h4,hk1⟩:=ha
 have e1:args=#[s,x]:=by rw [<-VQ (xs:=args),hargs]
 have e2:tys=#[t,t]:=by rw [<-VQ (xs:=tys),htys]
 subst e1;subst e2
 have hzs:z.cells.size=sz:=by rw [VB hb.1,hk1]
 have hby:=Wh hb.2
 have hfl:=U6 xs hxs
 intro Q w G a hF hh
 have v1:=hF.ev s
 have v2:=hF.ev x
 rw [h3] at v1
 rw [h4] at v2
 have v1:=v1.val_inv
 have v2:=v2.forget
 have finish:∀(v':Hd) w',(Builtin.append_ #[t,t] type #[v.v,a.eval x]).run P w=.ok v'.v w'->Y9 w' G (.row v'.v sz (ls++Zc xs)::h2)->YF w G (.row v.v sz ls::h2) w' G (.row v'.v sz (ls++Zc xs)::h2) ->
   ({ dst:=dst,op:=.call { callee:=.builtin .append,args:=#[s,x],argTypes:=#[t,t] },type:=type,pos:=pos,after:=after,guard:=guard }:Oper).wp P a w
    (fun a' w'=>∃F' h' G',K F' h'/\FR w' G' n F' a'/\Y9 w' G' h'/\YF w G (.row v.v sz ls::h2) w' G' h') Q:=by
  intro v' w' hr j1 j2
  have hrun:(execOp a.eval { dst:=dst,op:=.call { callee:=.builtin .append,args:=#[s,x],argTypes:=#[t,t] },type:=type,pos:=pos,after:=after,guard:=guard }).run P w=.ok (.value v'.v) w':=by
   simp only [execOp,resolve,invoke,builtin,Sem.run_bind,Sem.run_pure,Result.andThen_ok,C0,VR,BZ,v1,hr]
  unfold Oper.wp
  rw [hrun]
  exact ⟨_,_,G,hK v',(hF.mono (j2.agree hh)).put (Ue hd) .val,j1,j2⟩
 have hrow0:=hh.ok (.row v.v sz ls) (YM ..)
 have hsub2:∀r:Res,List.Sublist (r::h2) (r::.row v.v sz ls::h2):=fun r=>List.Sublist.cons_cons _ (Jm _ _)
 have grown:∀(olds news:List Value) (old:Nat),Yp w G ls olds->Yp w G (Zc xs) news ->
   Y9 (w.drew.alloc (.cells (olds.toArray++news.toArray++Builtin.zeroCells z.cells (grownCap w (m+xs.length) old e-(m+xs.length))) e)) G
    (.row (.slice (some ⟨w.heap.size,0,none⟩) (m+xs.length) (grownCap w (m+xs.length) old e)) sz (ls++Zc xs)::h2) /\
   YF w G (.row v.v sz ls::h2) (w.drew.alloc (.cells (olds.toArray++news.toArray++Builtin.zeroCells z.cells (grownCap w (m+xs.length) old e-(m+xs.length))) e)) G
    (.row (.slice (some ⟨w.heap.size,0,none⟩) (m+xs.length) (grownCap w (m+xs.length) old e)) sz (ls++Zc xs)::h2):=by
  intro olds news old ho hn
  have YO:=grownCap_ge w (m+xs.length) old e
  have hol:=ho.length
  have hnl:=hn.length
  have hlen:(ls++Zc xs).length=(m+xs.length)*sz:=by rw [Yb,hm0,hfl,UL]
  obtain ⟨j1,j2⟩:=hh.drew.alloc_rrow (olds.toArray++news.toArray++Builtin.zeroCells z.cells (grownCap w (m+xs.length) old e-(m+xs.length))) e
   (ls:=ls++Zc xs) (len:=m+xs.length) (cap:=grownCap w (m+xs.length) old e) (k:=sz) YO
   (by
    have q2:(grownCap w (m+xs.length) old e-(m+xs.length))*sz=grownCap w (m+xs.length) old e*sz-(m+xs.length)*sz:=Nat.sub_mul ..
    have q3:(m+xs.length)*sz<=grownCap w (m+xs.length) old e*sz:=T1 _ YO
    have q4:(m+xs.length)*sz=m*sz+xs.length*sz:=UL ..
    simp only [Array.size_append,AT,size_zeroCells,hzs,hol,hnl,hm0,hfl]
    omega) hlen
   (by
    have:(olds.toArray++news.toArray++Builtin.zeroCells z.cells (grownCap w (m+xs.length) old e-(m+xs.length))).toList.take ((m+xs.length)*sz)=olds++news:=by
     simp only [DB]
     rw [<-hlen,Yb,<-hol,<-hnl,<-Yb]
     exact QX
    rw [this]
    exact (ho.append hn).mono (KO w G))
  exact ⟨j1.sub (hsub2 _),(YF.drew w G _).trans (j2.sub' (hsub2 _))⟩
 generalize hax:a.eval x=ax at v2 finish
 cases v2 with
 | nil _=>exact absurd rfl hne
 | sl hq hcc hm=>
  rename_i b o' k' c
  have hpos:0<xs.length:=DF.2 hne
  have hfm:=hm.flat_mem
  obtain ⟨news,hn,hnc⟩:=hfm.cells
  have hnl:news.length=xs.length*i.size:=by rw [hn.length,hfl,hk1]
  have hone':=hn.one_cells hone
  have hnews:∀j u,news[j]? = some u->w.cell? ((⟨b,o',none⟩:Addr).add j)=some u:=fun j u hj=>by rw [TO];exact (hnc j u hj).1
  have hbb:(m+xs.length)*i.bytes<=140737488355328:=by
   have:=Nat.mul_le_mul hbound hby
   omega
  rcases hrow0 with ⟨hv0,hl0⟩|⟨g,len,cap,cur,el,hv0,hrow,hlc,hcur,hll,hcells⟩
  ·subst hl0
   have hm1:m=0:=by
    have:m*sz=0:=by simpa using hm0.symm
    rcases Nat.mul_eq_zero.1 this with h|h
    ·exact h
    ·omega
   subst hm1
   rw [hv0] at finish hh ⊢
   have hr:=run_append_nil (P:=P) w t type e i z ht hinfo hz ⟨b,o',none⟩ xs.length c news hnl hnews hpos om (by simp only [We] at hbb;omega)
   obtain ⟨j1,j2⟩:=grown [] news 0 .nil hn
   simp only [We,Array.empty_append,A1] at j1 j2
   rw [hv0] at j2
   exact finish ⟨some ⟨w.heap.size,0,none⟩,xs.length,grownCap w xs.length 0 e⟩ _ hr (by simpa using j1) (by simpa using j2)
  ·have hlm:len=m:=DG hk0 (hll.symm.trans hm0)
   subst hlm
   rw [hv0] at finish hh ⊢
   have q5:len*sz<=cap*sz:=T1 _ hlc
   have h1:(cur.toList.take (len*sz)).length=len*sz:=by rw [W9,Q9,hcur,WS q5]
   have hcl:cur.toList.length=cap*sz:=by rw [Q9,hcur]
   by_cases hroom:len+xs.length<=cap
   ·have q1:(len+xs.length)*sz<=cap*sz:=T1 _ hroom
    have q2:(len+xs.length)*sz=len*sz+xs.length*sz:=UL ..
    have hfit:len*i.size+news.length<=cur.size:=by rw [hnl,hcur,hk1];omega
    have hr:=Db (P:=P) w t type e el i ht hinfo g len cap cur hrow ⟨b,o',none⟩ xs.length c news hnl hnews hone' hroom hfit
    rw [hk1] at hr
    have hnl':news.length=xs.length*sz:=by rw [hnl,hk1]
    obtain ⟨j1,j2⟩:=hh.rgrow (ls':=ls++Zc xs) (len':=len+xs.length) (cs':=(cur.toList.take (len*sz)++news++cur.toList.drop (len*sz+news.length)).toArray) hrow
     (by simp only [AT,Yb,h1,hnl',KE,hcl,hcur];omega) hroom hcur (by rw [Yb,hll,hfl,q2]) (by
      have:(cur.toList.take (len*sz)++news++cur.toList.drop (len*sz+news.length)).toArray.toList.take ((len+xs.length)*sz)=cur.toList.take (len*sz)++news:=by
       rw [AU,q2,<-hnl']
       conv=>lhs;arg 1;rw [show len*sz+news.length=(cur.toList.take (len*sz)++news).length from by rw [Yb,h1]]
       exact QX
      rw [this]
      exact hcells.append hn)
    exact finish ⟨some ⟨g,0,none⟩,len+xs.length,cap⟩ _ hr j1 j2
   ·have hr:=run_append_grow (P:=P) w t type e i z ht hinfo hz ⟨g,0,none⟩ len cap (cur.toList.take (len*sz)) (by rw [hk1];exact h1) (fun j u hj=>by
     rw [TO,cell_of_row w g _ cur el (0,0) hrow]
     rw [UK] at hj
     split at hj
     ·simpa using hj
     ·cases hj) ⟨b,o',none⟩ xs.length c news hnl hnews om om (growslice_fits om hbb)
    obtain ⟨j1,j2⟩:=grown (cur.toList.take (len*sz)) news cap hcells hn
    rw [hv0] at j2
    exact finish ⟨some ⟨w.heap.size,0,none⟩,len+xs.length,grownCap w (len+xs.length) cap e⟩ _ hr j1 j2
end
section
variable {P:Program} {n:Nat} {ops:Array Oper} {B:Fr->List Res->Prop} {k:Nat} {F:Fr} {h:List Res}
theorem CD (j m:Nat) (v:Hd) (sz:Nat) (ls xs:List AV) (hx:Option Value) (hm0:ls.length=m*sz) (hxs:∀y∈xs,y.leaves.length=sz) (hone:(Zc xs).all AV.one=true) (hne:xs≠[]) (hbound:m+xs.length<=4294967296)
  (hK:∀v':Hd,SI P n ops B (k+1) (F.put (Zx ops k).dst (.h v')) (rK v' sz (ls++Zc xs)::Xa [j] h)) (hk0:0<sz:=by omega)
  (hk:YL n ops F k=true:=by kernel_rfl) (ha:Vg P ops F k=some (.h v,.sl xs hx,sz):=by kernel_rfl) (hp:XH [j] h=some [rK v sz ls]:=by kernel_rfl):SI P n ops B k F h:=
 UQ hk (XY.perm (V6 (Wt hp)) (IH (V4 hk).2.1 ha hxs hone hm0 hk0 hne hbound hK))
end
end Go.Abs
namespace Go.Abs
section
variable {P:Program} {n:Nat} {ops:Array Oper} {B:Fr->List Res->Prop} {T:List (Nat × List Nat)} {fuel:Nat} {done:List Nat} {F:Fr} {h:List Res}
theorem E6 (i j m:Nat) (js bs:List Nat) (v:Hd) (sz:Nat) (ls xs:List AV) (hx:Option Value) (hm0:ls.length=m*sz) (hxs:∀y∈xs,y.leaves.length=sz) (hone:(Zc xs).all AV.one=true) (hne:xs≠[]) (hbound:m+xs.length<=4294967296)
  (hK:∀v':Hd,Yz P n ops B (T.filter fun t=>!Wb ops i t.1) fuel (done++[i]) (F.put (Zx ops i).dst (.h v')) (rK v' sz (ls++Zc xs)::Xa [j] h)) (hk0:0<sz:=by omega) (hk:YL n ops F i=true:=by kernel_rfl)
  (ha:Vg P ops F i=some (.h v,.sl xs hx,sz):=by kernel_rfl) (hp:XH [j] h=some [rK v sz ls]:=by kernel_rfl) (ho:V0 ops i T=bs:=by kernel_rfl)
  (hj:js.map (fun q=>(XV (Xa [j] h))[q]?)=bs.map some:=by kernel_rfl):Ww P n ops B T fuel done F h i:=
 TU [j] js bs hk (Wt hp) ho hj (IH (h2:=[]) (V4 hk).2.1 ha hxs hone hm0 hk0 hne hbound hK)
end
theorem XP.form {P:Program} {f:FuncId} {as1:List AV} {h0:List Res} {T:Hd->AV} {kk m:Nat} {ls:List AV} {hs:List Res} (H:XP P f as1 h0 (fun r h=>∃v:Hd,r=T v/\h=rK v kk ls::hs)) (hm:ls.length=m*kk) (hk:0<kk) (h1:0<m) :
  XP P f as1 h0 (fun r h=>∃(g c:Nat),r=T ⟨some ⟨g,0,none⟩,m,c⟩/\h=rK ⟨some ⟨g,0,none⟩,m,c⟩ kk ls::hs):=by
 intro w G vs hv hh
 refine (H w G vs hv hh).mono ?_
 rintro e w' ⟨u,r,h',G',he,⟨v,rfl,rfl⟩,hr,hh',hx⟩
 obtain ⟨g,c,rfl⟩:=Lf (hh'.ok _ (YM ..)) hm hk h1
 exact ⟨u,_,_,G',he,⟨g,c,rfl,rfl⟩,hr,hh',hx⟩
end Go.Abs
namespace Go.Abs
section
variable {h:List Res}
theorem Z39 (j i p:Nat) {u:Value} {kk b:Nat} {es ls:List AV} (hp:XH [j,i] h=some [.row u kk (Zc es),.obj b ls]) (hes:∀y∈es,y.leaves.length=kk) (hk:0<kk) (hl:ls[p]? = some (.val u)) :
  Uv h (.obj b (ls.set p (.sl es (some u)))::.tail u kk::Xa [j,i] h):=by
 intro w G hh
 have hp':=V6 (Wt hp)
 have hh':=hh.perm hp'
 obtain ⟨G',h1,h2',h3⟩:=AF (h2:=.obj b ls::Xa [j,i] h) hh' hes hk
 have e:=h2'.perm hp'.symm (UJ _)
 have h1:Y9 w G' (.tail u kk::.obj b ls::Xa [j,i] h):=h1
 have perm:(Res.tail u kk::.obj b ls::Xa [j,i] h).Perm (.obj b ls::.tail u kk::Xa [j,i] h):=List.Perm.swap ..
 have h4:=h1.perm perm
 have e4:=e.perm (UJ _) perm
 have hset:∀{w:World} {G:ZV},RV w G (.sl es (some u)) u->T3 w G (.obj b ls)->T3 w G (.obj b (ls.set p (.sl es (some u)))):=by
  intro w G hu hr
  obtain ⟨cs,el,k1,k5⟩:=hr
  refine ⟨cs,el,k1,?_⟩
  obtain ⟨c,c1,c2⟩:=k5.get p _ hl
  have:=c2.val_inv
  subst this
  have h6:=k5.set p hu
  rwa [show cs.toList.set p c=cs.toList from by
   apply List.ext_getElem?
   intro q
   rw [List.getElem?_set]
   split
   ·rename_i hq;subst hq;split
    ·exact c1.symm
    ·rename_i hq2;rw [BW om]
   ·rfl] at h6
 refine ⟨G',⟨fun r hr=>?_,?_,fun r hr=>?_,h4.lt⟩,⟨e4.os,e4.tape,e4.output,e4.size,e4.sub,e4.same,e4.newG,fun b' o hb ⟨r,hr,hf⟩=>e4.newfp b' o hb ?_⟩⟩
 ·rcases Yk.1 hr with rfl|hr
  ·exact hset h3 (h4.ok _ (YM ..))
  ·exact h4.ok r (Xb _ hr)
 ·have:=XX.1 h4.apart
  exact XX.2 ⟨fun r hr b' o f1 f2=>this.1 r hr b' o f1 f2,this.2⟩
 ·rcases Yk.1 hr with rfl|hr
  ·exact fun b' o f1 hg=>h4.prot (.obj b ls) (YM ..) b' o f1 hg
  ·exact h4.prot r (Xb _ hr)
 ·rcases Yk.1 hr with rfl|hr
  ·exact ⟨.obj b ls,YM ..,hf⟩
  ·exact ⟨r,Xb _ hr,hf⟩
theorem VP (j i p:Nat) (u:Value) (kk b:Nat) (es ls:List AV) (hes:∀y∈es,y.leaves.length=kk) (hl:ls[p]? = some (.val u)) (hk:0<kk:=by omega) (hp:XH [j,i] h=some [.row u kk (Zc es),.obj b ls]:=by kernel_rfl) :
  Uv h (.obj b (ls.set p (.sl es (some u)))::.tail u kk::Xa [j,i] h):=Z39 j i p hp hes hk hl
end
end Go.Abs
namespace Go.Abs
section
variable {P:Program} {n:Nat} {ops:Array Oper} {k:Nat} {F:Fr} {h:List Res}
theorem Z30 (j:Nat) {g l c m kk:Nat} {ls:List AV} (hi:AK P ops F k=some (.val (.slice (some ⟨g,0,none⟩) l c),(m:Int))) (hj:h[j]? = some (.row (.slice (some ⟨g,0,none⟩) l c) kk ls)) (hle:m<=l) :
  XA P (Zx ops k) F h [] (.val (.slice (some ⟨g,0,none⟩) m c)):=by
 unfold AK at hi
 generalize hoo:Zx ops k=o at hi
 obtain ⟨dst,op,type,pos,after,guard⟩:=o
 cases op<;>simp only at hi<;>try (cases hi)
 rename_i t x lo hi' mx
 cases lo with
 | some _=>simp at hi
 | none=>
  cases hi' with
  | none=>simp at hi
  | some y=>
   cases mx with
   | some _=>simp at hi
   | none=>
    simp only at hi
    split at hi
    ·rename_i e ht
     split at hi
     ·rename_i inf hinf
      split at hi
      ·rename_i ik m' hm
       simp only [XC,Prod.mk.injEq] at hi
       obtain ⟨hx,rfl⟩:=hi
       intro n w G a hF hh
       have v1:=hF.ev x
       rw [hx] at v1
       have v1:=v1.val_inv
       have v2:=hF.ev y
       rw [hm] at v2
       have v2:=v2.val_inv
       have hcap:l<=c:=by
        rcases hh.ok _ (ZT hj) with ⟨h0,_⟩|⟨g',l',c',cur,el,h0,_,hc,_⟩
        ·cases h0
        ·cases h0;exact hc
       refine ⟨_,.val,fun w' _ _=>?_⟩
       simp only [execOp,v1,v2,AW,Option.map_none]
       refine WH ?_
       simp only [Instr.sliceAt,Sem.run_bind,Vm ht,Result.andThen_ok,Instr.slice]
       have hmm:(Instr.sliceBounds true l c none (some (.int ik (m:Int))) none).run P w'=.ok (0,m,c) w':=by
        have ZM:=fun q=>AH (P:=P) (c:=q) (v:=.int ik (m:Int)) (y:=c) rfl om om w'
        simp [Instr.sliceBounds,ZM]
       rw [hmm]
       have hz:∀a:Addr,a.add 0=a:=fun a=>by simp [Addr.add]
       simp only [Result.andThen_ok,UV hinf,Nat.zero_mul,hz]
       by_cases h0:c=0<;>simp [h0]
      ·cases hi
     ·cases hi
    ·cases hi
theorem EU (j g l c m kk:Nat) (ls:List AV) (hle:m<=l:=by omega) (hi:AK P ops F k=some (.val (.slice (some ⟨g,0,none⟩) l c),(m:Int)):=by kernel_rfl) (hj:h[j]? = some (.row (.slice (some ⟨g,0,none⟩) l c) kk ls):=by kernel_rfl) :
  XA P (Zx ops k) F h [] (.val (.slice (some ⟨g,0,none⟩) m c)):=Z30 j hi hj hle
variable {B:Fr->List Res->Prop}
end
end Go.Abs
end
namespace Go.Abs
theorem Ye {α:Type} {xs:List α} {k:Nat} {x:α} (h:xs[k]? = some x):xs.drop k=x::xs.drop (k+1):=by
 have hk:=(Xl.1 h).1
 rw [MC hk]
 congr 1
 rw [TK hk] at h
 exact A5 h
theorem Xk {α:Type} {xs:List α} {k:Nat} (h:xs.length<=k):xs.drop k=[]:=DC h
theorem Vf {α:Type} {xs:List α} {k:Nat} {x:α} (h:xs[k]? = some x):xs.take (k+1)=xs.take k++[x]:=by
 rw [List.take_add_one,h];rfl
def X4:List Zd->Nat
 | []=>0
 | d::ds=>d.cons.length+X4 ds
theorem GI (xs ys:List Zd):X4 (xs++ys)=X4 xs+X4 ys:=by
 induction xs with
 | nil=>simp [X4]
 | cons d ds ih=>simp [X4,ih];omega
structure Wi (ds:List Zd):Prop where
 len:ds.length<=4
 cons:∀d∈ds,d.cons.length<=3
 fields:∀d∈ds,∀c∈d.cons,c.fields.length<=3
theorem NS {ds:List Zd} {m:Nat} (h:∀d∈ds,d.cons.length<=m):X4 ds<=ds.length*m:=by
 induction ds with
 | nil=>simp [X4]
 | cons d ds ih=>
  have h1:=h d (by simp)
  have h2:=ih (fun x hx=>h x (by simp [hx]))
  simp only [X4,Yw,UL];omega
theorem Wi.sum {ds:List Zd} (h:Wi ds):X4 ds<=12:=by
 have:=NS h.cons
 have:=h.len
 have:ds.length*3<=4*3:=T1 3 h.len
 omega
theorem Wi.take {ds:List Zd} (h:Wi ds) (k:Nat):Wi (ds.take k):=
 ⟨by have:=h.len;simp;omega,fun d hd=>h.cons d (To hd),fun d hd=>h.fields d (To hd)⟩
theorem Wi.cons_at {ds:List Zd} (h:Wi ds) {k:Nat} {d:Zd} (hd:ds[k]? = some d):d.cons.length<=3:=h.cons d (ZT hd)
theorem Wi.fields_at {ds:List Zd} (h:Wi ds) {k j:Nat} {d:Zd} {c:Y0} (hd:ds[k]? = some d) (hc:d.cons[j]? = some c):c.fields.length<=3:=
 h.fields d (ZT hd) c (ZT hc)
def K6 (c:Int):List Zd->Nat->Nat->Int × LI
 | [],_,_=>(-1,[])
 | d::ds,i,first=>
  if (first:Int)<=c/\c<=((first+d.cons.length:Nat):Int)-1 then ((i:Int)+1,(d.cons[(c-first).toNat]?.map (·.fields)).getD []) else K6 c ds (i+1) (first+d.cons.length)
def WW (ds:List Zd) (c:Int):Int:=(K6 c ds 0 0).1
def ZZ (ds:List Zd) (c:Int):LI:=(K6 c ds 0 0).2
theorem E4 {c:Int}:∀{ds:List Zd} {i first:Nat},(K6 c ds i first=(-1,[]) ∨
  ∃k d x,ds[k]? = some d/\(first+X4 (ds.take k):Int)<=c/\c<first+X4 (ds.take k)+d.cons.length/\d.cons[(c-(first+X4 (ds.take k))).toNat]? = some x/\K6 c ds i first=((i:Int)+k+1,x.fields))
 | [],_,_=>.inl rfl
 | d::ds,i,first=>by
  rw [K6]
  split
  ·rename_i h
   have hlt:(c-first).toNat<d.cons.length:=by omega
   refine .inr ⟨0,d,d.cons[(c-first).toNat],rfl,by simp [X4];omega,by simp [X4];omega,?_,?_⟩
   ·simp [X4]
   ·rw [TK hlt];simp
  ·rcases E4 (c:=c) (ds:=ds) (i:=i+1) (first:=first+d.cons.length) with h|⟨k,e,x,h1,h2,h3,h4,h5⟩
   ·exact .inl h
   ·refine .inr ⟨k+1,e,x,by simpa using h1,by simp [X4];omega,by simp [X4];omega,?_,?_⟩
    ·rw [<-h4];congr 3;simp [X4];omega
    ·rw [h5];congr 1;omega
theorem GK {ds:List Zd} {c:Int} (h:¬WW ds c<1) :
  ∃k d x,ds[k]? = some d/\(X4 (ds.take k):Int)<=c/\d.cons[(c-X4 (ds.take k)).toNat]? = some x/\WW ds c=(k:Int)+1/\ZZ ds c=x.fields:=by
 rcases E4 (c:=c) (ds:=ds) (i:=0) (first:=0) with h1|⟨k,d,x,h1,h2,_,h4,h5⟩
 ·simp [WW,h1] at h
 ·exact ⟨k,d,x,h1,by simpa using h2,by simpa using h4,by simp [WW,h5],by simp [ZZ,h5]⟩
theorem GJ {ds:List Zd} {c:Int} (h:WW ds c<1):ZZ ds c=[]/\WW ds c=-1:=by
 rcases E4 (c:=c) (ds:=ds) (i:=0) (first:=0) with h1|⟨k,d,x,h1,h2,_,h4,h5⟩
 ·simp [ZZ,WW,h1]
 ·simp [WW,h5] at h;omega
def Vl (first:Int):Nat->LI
 | 0=>[]
 | n+1=>first::Vl (first+1) n
theorem SM (first:Int) (n:Nat):Vl first (n+1)=Vl first n++[first+n]:=by
 induction n generalizing first with
 | zero=>simp [Vl]
 | succ n ih=>rw [Vl,ih (first+1),Vl];simp;omega
@[simp] theorem SK (first:Int) (n:Nat):(Vl first n).length=n:=by
 induction n generalizing first with
 | zero=>rfl
 | succ n ih=>simp [Vl,ih]
def ZW (ds:List Zd) (t:Int):LI:=
 if 1<=t/\t<=ds.length then Vl (X4 (ds.take (t-1).toNat)) (((ds[(t-1).toNat]?).map (·.cons.length)).getD 0) else []
def Aa (frm to_:Int):List Zd->Nat->Int
 | [],_=>-1
 | d::ds,i=>if d.cons.length=0/\d.frm=frm/\d.to_=to_ then (i:Int)+1 else Aa frm to_ ds (i+1)
def Qu (ds:List Zd) (frm to_:Int):Int:=Aa frm to_ ds 0
def WG (ds:List Zd) (t:Int):Bool:=decide (1<=t/\t<=ds.length)&&((ds[(t-1).toNat]?).map fun d=>decide (d.cons.length=0)).getD false
theorem I1 {ds:List Zd} {t:Int} {x:Zd} (h:1<=t/\t<=ds.length) (hx:ds[(t-1).toNat]? = some x):((x.cons.length:Int)==0)=WG ds t:=by
 rw [WG,hx,Xi];simp [h]
theorem I0 {ds:List Zd} {t:Int} (h:¬(1<=t/\t<=ds.length)):false=WG ds t:=by
 rw [WG,Xi];simp only [Bool.false_eq_true,W5,decide_eq_true_eq,h,false_and]
def VD (m:Nat) (xs:LI):Bool:=xs.all fun t=>decide (0<=t/\t<=m)
end Go.Abs
section
namespace Go.Abs
section
variable {h:List Res}
end
end Go.Abs
namespace Go.Abs
section
variable {P:Program} {ops:Array Oper} {k:Nat} {F:Fr} {h:List Res}
end
end Go.Abs
end
namespace Go.Abs
section
variable {P:Program} {n:Nat} {ops:Array Oper} {B:Fr->List Res->Prop} {k:Nat} {F:Fr} {h:List Res} {T:List (Nat × List Nat)} {fuel:Nat} {done:List Nat}
theorem II {K:Fr->List Res->Prop} {ls:List AV} {len sz:Nat} (hd:WE n (Zx ops k)=true) (ha:VZ P ops F k=some (ls,len,sz)) (hlen:ls.length=len*sz)
  (hK:∀g,K (F.put (Zx ops k).dst (.val (.slice (some ⟨g,0,none⟩) len len))) (.row (.slice (some ⟨g,0,none⟩) len len) sz ls::h)):XY P n (Zx ops k) F h K:=by
 unfold VZ at ha
 generalize hoo:Zx ops k=q at ha hd hK
 obtain ⟨dst,op,type,pos,after,guard⟩:=q
 cases op<;>simp only at ha<;>try (cases ha)
 rename_i t ln parts
 split at ha
 case h_2=>cases ha
 rename_i e ht
 split at ha
 case h_2=>cases ha
 rename_i i hi
 split at ha
 case h_2=>cases ha
 rename_i hc
 simp only [W5] at hc
 split at ha
 case h_2=>cases ha
 rename_i ls' hf
 simp only [XC,Prod.mk.injEq] at ha
 obtain ⟨rfl,rfl,YZ⟩:=ha
 intro Q w G a hF hh
 obtain ⟨cs,h1,h2⟩:=Dc hF parts ht hi rfl hc.1 hc.2 hf
 have hr:(execOp a.eval { dst:=dst,op:=.buildSlice t ln parts,type:=type,pos:=pos,after:=after,guard:=guard }).run P w =
   .ok (.value (.slice (some ⟨w.heap.size,0,none⟩) ln ln)) (w.alloc (.cells cs e)):=by
  simp only [execOp]
  exact WH h2
 unfold Oper.wp
 rw [hr]
 have hlc:=h1.length
 simp only [Q9] at hlc
 obtain ⟨j1,j2⟩:=hh.alloc_rrow cs e (ls:=ls') (len:=ln) (cap:=ln) (k:=sz) (YI _) (by rw [hlc];exact hlen) hlen (by rw [<-hlen,<-hlc];simpa [Vp] using h1)
 exact ⟨_,_,G,hK _,(hF.mono (j2.agree hh)).put (Ue hd) .val,j1,j2⟩
theorem Vk (es es':List AV) (he:es=es') (len sz:Nat) (hK:∀v,SI P n ops B (k+1) (F.put (Zx ops k).dst (.sl es' (some v))) (.tail v sz::h)) (hk:YL n ops F k=true:=by kernel_rfl)
  (ha:VZ P ops F k=some (Zc es,len,sz):=by kernel_rfl) (hlen:es.length=len:=by kernel_rfl) (hall:K3 es sz=true:=by kernel_rfl):SI P n ops B k F h:=by
 subst he;exact iL es len sz hK hk ha hlen hall
theorem XR (i:Nat) (js bs:List Nat) (es es':List AV) (he:es=es') (len sz:Nat) (hK:∀v,Yz P n ops B (T.filter fun t=>!Wb ops i t.1) fuel (done++[i]) (F.put (Zx ops i).dst (.sl es' (some v))) (.tail v sz::h))
  (hk:YL n ops F i=true:=by kernel_rfl) (ha:VZ P ops F i=some (Zc es,len,sz):=by kernel_rfl) (hlen:es.length=len:=by kernel_rfl) (hall:K3 es sz=true:=by kernel_rfl)
  (ho:V0 ops i T=bs:=by kernel_rfl) (hj:js.map (fun j=>(XV h)[j]?)=bs.map some:=by kernel_rfl):Ww P n ops B T fuel done F h i:=by
 subst he;exact dL i js bs es len sz hK hk ha hlen hall ho hj
theorem Rm (ls:List AV) (len sz:Nat) (hK:∀g,SI P n ops B (k+1) (F.put (Zx ops k).dst (.val (.slice (some ⟨g,0,none⟩) len len))) (.row (.slice (some ⟨g,0,none⟩) len len) sz ls::h)) (hlen:ls.length=len*sz:=by rfl) (hk:YL n ops F k=true:=by kernel_rfl)
  (ha:VZ P ops F k=some (ls,len,sz):=by kernel_rfl):SI P n ops B k F h:=UQ hk (II (V4 hk).2.1 ha hlen hK)
theorem O2 (i:Nat) (js bs:List Nat) (ls:List AV) (len sz:Nat) (hK:∀g,Yz P n ops B (T.filter fun t=>!Wb ops i t.1) fuel (done++[i]) (F.put (Zx ops i).dst (.val (.slice (some ⟨g,0,none⟩) len len))) (.row (.slice (some ⟨g,0,none⟩) len len) sz ls::h)) (hlen:ls.length=len*sz:=by rfl)
  (hk:YL n ops F i=true:=by kernel_rfl) (ha:VZ P ops F i=some (ls,len,sz):=by kernel_rfl) (ho:V0 ops i T=bs:=by kernel_rfl) (hj:js.map (fun j=>(XV h)[j]?)=bs.map some:=by kernel_rfl):Ww P n ops B T fuel done F h i:=
 TU (h1:=[]) (h2:=h) [] js bs hk rfl ho hj (II (V4 hk).2.1 ha hlen hK)
end
theorem XP.frz {P:Program} {f:FuncId} {as1:List AV} {h0:List Res} {E:Type} {kk:Nat} {es:E->List AV} {hs:E->List Res} {Q:E->Prop} (H:XP P f as1 h0 (fun r h=>∃(e:E) (v:Hd),r=.h v/\h=rK v kk (Zc (es e))::hs e/\Q e)) (hes:∀e,∀y∈es e,y.leaves.length=kk) (hk:0<kk) :
  XP P f as1 h0 (fun r h=>∃(e:E) (v:Value),r=.sl (es e) (some v)/\h=.tail v kk::hs e/\Q e):=by
 intro w G vs hv hh
 refine (H w G vs hv hh).mono ?_
 rintro e w' ⟨u,r,h',G',he,⟨x,v,rfl,rfl,hq⟩,hr,hh',hx⟩
 obtain ⟨G2,h1,h2,h3⟩:=AF hh' (hes x) hk
 have hrv:=hr.val_inv
 subst hrv
 exact ⟨_,_,_,G2,he,⟨x,v.v,rfl,rfl,hq⟩,h3,h1,hx.trans h2⟩
theorem Cu {es:List AV} {sz k:Nat} {y:AV} (h:∀x∈es,x.leaves.length=sz) (hy:y.leaves.length=sz) (hk:k<es.length):(Zc es).take (k*sz)++y.leaves++(Zc es).drop (k*sz+y.leaves.length)=Zc (es.set k y):=by
 obtain ⟨x,hx⟩:=Bi (xs:=es) (j:=k) hk
 have hxl:=h x (ZT hx)
 have e1:es=es.take k++(x::es.drop (k+1)):=by rw [<-Ye hx,U2]
 have e2:es.set k y=es.take k++(y::es.drop (k+1)):=by rw [C1,Zw hk]
 have hl:(Zc (es.take k)).length=k*sz:=by rw [U6 (k:=sz) _ (fun z hz=>h z (To hz)),W9,WS om]
 have e3:Zc es=Zc (es.take k)++(x.leaves++Zc (es.drop (k+1))):=by
  conv=>lhs;rw [e1,UN]
  simp [Zc]
 rw [e2,UN,e3,Fs hl (by rw [hxl,hy])]
 simp [Zc]
theorem Ou (ds:List Zd) (k:Nat) (d:Zd):YN (ds.set k d)=(YN ds).set k (AZ d):=by simp [YN,List.map_set]
theorem JF (xs:List Zd):(Zc (YN xs)).length=xs.length*3:=by rw [U6 (k:=3) _ (Kc xs)];simp
theorem Cq {ds:List Zd} {k:Nat} (d:Zd) (hk:k<ds.length):(Zc (YN ds)).take (k*3)++F3 d++(Zc (YN ds)).drop (k*3+3)=Zc (YN (ds.set k d)):=by
 rw [Ou];exact Cu (y:=AZ d) (Kc ds) rfl (by simpa using hk)
theorem Ev (xs ys:List Zd):Zc (YN xs)++Zc (YN ys)=Zc (YN (xs++ys)):=by rw [Ot,UN]
section
variable {P:Program} {n:Nat} {ops:Array Oper} {B:Fr->List Res->Prop} {k:Nat} {F:Fr} {h:List Res}
theorem CC (j m:Nat) {v:Hd} {kk:Nat} {ls:List AV} (hm:ls.length=m*kk) (h0:0<m) (H:∀g c',v=⟨some ⟨g,0,none⟩,m,c'⟩->SI P n ops B k F h) (hk:0<kk:=by omega) (hj:h[j]? = some (rK v kk ls):=by kernel_rfl):SI P n ops B k F h:=by
 intro Q w G a hF hh hq
 obtain ⟨g,c',e⟩:=Lf (hh.ok _ (ZT hj)) hm hk h0
 exact H g c' e Q w G a hF hh hq
end
section
variable {P:Program} {n:Nat} {ops:Array Oper} {B:Fr->List Res->Prop} {k:Nat} {F:Fr} {h:List Res}
def E5 (P:Program) (ops:Array Oper) (F:Fr) (k:Nat):Option (IntKind × Int):=
 match (Zx ops k).op with
 | .convert s d x=>match P.underlying s,P.underlying d,F.ev x with
  | some (.int _),some (.int q),.val (.int _ z)=>some (q,z)
  | _,_,_=>none
 | _=>none
theorem RX (q:IntKind) (z z':Int) (e:q.wrap z=z') (hc:E5 P ops F k=some (q,z):=by kernel_rfl):XA P (Zx ops k) F h [] (.val (.int q z')):=by
 unfold E5 at hc
 generalize hoo:Zx ops k=o at hc
 obtain ⟨dst,op,type,pos,after,guard⟩:=o
 cases op<;>simp only at hc<;>try (cases hc)
 rename_i s d x
 split at hc
 ·rename_i q1 q2 q3 z2 h1 h2 h3
  cases hc
  intro n w G ac hF hh
  have v1:=hF.ev x
  rw [h3] at v1
  have v1:=v1.val_inv
  refine ⟨_,.val,fun w' _ _=>?_⟩
  simp only [execOp,v1]
  refine WH ?_
  simp [convert,Vm h1,Vm h2,Conv.intToInt,e]
 ·cases hc
theorem G8 {z:Int} (h:0<=z/\z<=9223372036854775807):IntKind.i64.wrap z=z:=IntWalk.i64_in _ om
theorem Av (z:Int) (hz:0<=z/\z<=255) (hc:E5 P ops F k=some (.i64,z):=by kernel_rfl):XA P (Zx ops k) F h [] (.i z):=RX .i64 z z (G8 om) hc
def KR (ops:Array Oper) (F:Fr) (k:Nat) (b:BinOp):Option (Int × Int):=
 match (Zx ops k).op with
 | .binOp c _ x y _=>if c==b then match F.ev x,F.ev y with
  | .val (.int .i64 z),.val (.int .i64 u)=>some (z,u)
  | _,_=>none else none
 | _=>none
theorem EV (a b:Int) (hb:0<b) (ha:0<=a/\a<=9223372036854775807) (hc:KR ops F k .quo=some (a,b):=by kernel_rfl):XA P (Zx ops k) F h [] (.i (a / b)):=by
 unfold KR at hc
 generalize hoo:Zx ops k=o at hc
 obtain ⟨dst,op,type,pos,after,guard⟩:=o
 cases op<;>simp only at hc<;>try (cases hc)
 rename_i bop t x y yt
 cases bop<;>simp only [Zz,reduceCtorEq,if_false,if_true] at hc<;>try (cases hc)
 split at hc
 ·rename_i z yk h1 h2
  cases hc
  intro n' w G ac hF hh
  have v1:=hF.ev x
  have v2:=hF.ev y
  rw [h1] at v1
  rw [h2] at v2
  have v1:=v1.val_inv
  have v2:=v2.val_inv
  refine ⟨_,.val,fun w' _ _=>?_⟩
  simp only [execOp,v1,v2]
  refine WH ?_
  have e1:a.tdiv b=a / b:=Int.tdiv_eq_ediv_of_nonneg ha.1
  have e2:IntKind.i64.wrap (a / b)=a / b:=G8 ⟨Int.ediv_nonneg ha.1 om,Int.le_trans (Int.ediv_le_self b ha.1) ha.2⟩
  have e3:b≠0:=by omega
  simp [eqGuard,binOp,Op.intDiv,e1,e2,e3]
 ·cases hc
theorem Bt (a b:Int) (hb:0<b) (ha:0<=a) (hc:KR ops F k .rem=some (a,b):=by kernel_rfl):XA P (Zx ops k) F h [] (.i (a % b)):=by
 unfold KR at hc
 generalize hoo:Zx ops k=o at hc
 obtain ⟨dst,op,type,pos,after,guard⟩:=o
 cases op<;>simp only at hc<;>try (cases hc)
 rename_i bop t x y yt
 cases bop<;>simp only [Zz,reduceCtorEq,if_false,if_true] at hc<;>try (cases hc)
 split at hc
 ·rename_i z yk h1 h2
  cases hc
  intro n' w G ac hF hh
  have v1:=hF.ev x
  have v2:=hF.ev y
  rw [h1] at v1
  rw [h2] at v2
  have v1:=v1.val_inv
  have v2:=v2.val_inv
  refine ⟨_,.val,fun w' _ _=>?_⟩
  simp only [execOp,v1,v2]
  refine WH ?_
  have e1:a.tmod b=a % b:=Int.tmod_eq_emod_of_nonneg ha
  have e3:b≠0:=by omega
  simp [eqGuard,binOp,Op.intDiv,e1,e3]
 ·cases hc
theorem JM (a b:Nat) (hb:0<b) (ha:a<=9223372036854775807) (hc:KR ops F k .quo=some ((a:Int),(b:Int)):=by kernel_rfl):XA P (Zx ops k) F h [] (.i (a / b:Nat)):=by
 rw [Int.natCast_ediv];exact EV a b om om hc
theorem CI (a b:Nat) (hb:0<b) (_ha:a<=9223372036854775807) (hc:KR ops F k .rem=some ((a:Int),(b:Int)):=by kernel_rfl):XA P (Zx ops k) F h [] (.i (a % b:Nat)):=by
 rw [Int.natCast_emod];exact Bt a b om om hc
def KD (a b:Int):Int:=IntKind.i64.wrap ((BitVec.ofInt 64 a ^^^ BitVec.ofInt 64 b).toNat:Int)
theorem DA {a b:Int} (ha:0<=a/\a<4611686018427387904) (hb:0<=b/\b<4611686018427387904):0<=KD a b/\KD a b<4611686018427387904:=by
 obtain ⟨x,rfl⟩:=Int.eq_ofNat_of_zero_le ha.1
 obtain ⟨y,rfl⟩:=Int.eq_ofNat_of_zero_le hb.1
 have h1:(BitVec.ofInt 64 (x:Int) ^^^ BitVec.ofInt 64 (y:Int)).toNat=x ^^^ y:=by
  rw [BitVec.toNat_xor,BitVec.toNat_ofInt,BitVec.toNat_ofInt]
  have e1:((x:Int) % ((2 ^ 64:Nat):Int)).toNat=x:=by omega
  have e2:((y:Int) % ((2 ^ 64:Nat):Int)).toNat=y:=by omega
  rw [e1,e2]
 have h2:x ^^^ y<2 ^ 62:=Nat.xor_lt_two_pow om om
 rw [KD,h1,G8 om]
 omega
theorem I3 (a b:Int) (hc:KR ops F k .xor=some (a,b):=by kernel_rfl):XA P (Zx ops k) F h [] (.i (KD a b)):=by
 unfold KR at hc
 generalize hoo:Zx ops k=o at hc
 obtain ⟨dst,op,type,pos,after,guard⟩:=o
 cases op<;>simp only at hc<;>try (cases hc)
 rename_i bop t x y yt
 cases bop<;>simp only [Zz,reduceCtorEq,if_false,if_true] at hc<;>try (cases hc)
 split at hc
 ·rename_i z yk h1 h2
  cases hc
  intro n' w G ac hF hh
  have v1:=hF.ev x
  have v2:=hF.ev y
  rw [h1] at v1
  rw [h2] at v2
  have v1:=v1.val_inv
  have v2:=v2.val_inv
  refine ⟨_,.val,fun w' _ _=>?_⟩
  simp only [execOp,v1,v2]
  refine WH ?_
  simp [eqGuard,binOp,Op.intBits,IntKind.bits]
  exact Yh (fun z:Nat=>IntKind.i64.wrap (z:Int)) (by rw [BitVec.toNat_xor,BitVec.toNat_ofInt,BitVec.toNat_ofInt];rfl)
 ·cases hc
end
end Go.Abs
section
namespace Go.Abs
inductive Z1 where
 | mk (op num:Int) (kids:List Z1)
namespace Z1
def op:Z1->Int|.mk a _ _=>a
def num:Z1->Int|.mk _ a _=>a
def kids:Z1->List Z1|.mk _ _ a=>a
end Z1
structure Func where
 params:LI
 result:Int
 body:Z1
structure Xw where
 decls:List Zd
 funcs:List Func
instance:Inhabited Z1:=⟨.mk 0 0 []⟩
mutual
def Ek:Z1->AV
 | .mk op num kids=>.agg [.i op,.i num,.sl (Y3 kids) none]
def Y3:List Z1->List AV
 | []=>[]
 | e::r=>Ek e::Y3 r
end
abbrev ZL (e:Z1):AV:=.agg [.i e.op,.i e.num,.sl (Y3 e.kids) none]
abbrev Yt (e:Z1):List AV:=[.i e.op,.i e.num,.sl (Y3 e.kids) none]
abbrev X1 (xs:List Z1):AV:=.sl (Y3 xs) none
abbrev UT (xs:List Z1) (v:Value):AV:=.sl (Y3 xs) (some v)
abbrev B0 (f:Func):AV:=.agg [Z6 f.params,.i f.result,.i f.body.op,.i f.body.num,X1 f.body.kids]
abbrev CN (f:Func):List AV:=[Z6 f.params,.i f.result,.i f.body.op,.i f.body.num,X1 f.body.kids]
def YV (xs:List Func):List AV:=xs.map B0
abbrev CV (xs:List Func):AV:=.sl (YV xs) none
abbrev K1 (p:Xw):AV:=.agg [YD p.decls,CV p.funcs]
abbrev F4 (p:Xw):List AV:=[YD p.decls,CV p.funcs]
abbrev DN (z:Int):AV:=.val (.int .u8 z)
def Ug (xs:LI):List AV:=xs.map DN
abbrev WZ (xs:LI):AV:=.sl (Ug xs) none
theorem Ov (e:Z1):Ek e=ZL e:=by cases e;rw [Ek];rfl
theorem Xc:∀xs:List Z1,Y3 xs=xs.map ZL
 | []=>by rw [Y3];rfl
 | s::ss=>by rw [Y3,Xc ss,Ov];rfl
theorem Aj {xs:List Z1} {j:Nat} {x:Z1} (h:xs[j]? = some x):(Y3 xs)[j]? = some (ZL x):=by simp [Xc,h]
theorem Ci {xs:List Func} {j:Nat} {x:Func} (h:xs[j]? = some x):(YV xs)[j]? = some (B0 x):=by simp [YV,h]
theorem Ai {xs:LI} {j:Nat} {x:Int} (h:xs[j]? = some x):(Ug xs)[j]? = some (DN x):=by simp [Ug,h]
@[simp] theorem El (xs:List Z1):(Y3 xs).length=xs.length:=by simp [Xc]
@[simp] theorem Ak (xs:List Func):(YV xs).length=xs.length:=by simp [YV]
@[simp] theorem TV (xs:LI):(Ug xs).length=xs.length:=by simp [Ug]
theorem QD (xs ys:List Z1):Y3 (xs++ys)=Y3 xs++Y3 ys:=by simp [Xc]
theorem Ow (xs ys:List Func):YV (xs++ys)=YV xs++YV ys:=by simp [YV]
theorem Eg (xs:LI) (n:Nat):(Ug xs).take n=Ug (xs.take n):=by simp [Ug]
theorem Ef (xs:LI) (n:Nat):(Ug xs).drop n=Ug (xs.drop n):=by simp [Ug]
theorem VG (xs:List Z1):∀y∈Y3 xs,y.leaves.length=3:=by intro y hy;simp only [Xc,W6] at hy;obtain ⟨x,_,rfl⟩:=hy;rfl
theorem Cj (xs:List Func):∀y∈YV xs,y.leaves.length=5:=by intro y hy;simp only [YV,W6] at hy;obtain ⟨x,_,rfl⟩:=hy;rfl
theorem Oo (xs:LI):∀y∈Ug xs,y.leaves.length=1:=by intro y hy;simp only [Ug,W6] at hy;obtain ⟨x,_,rfl⟩:=hy;rfl
theorem QE (xs:List Z1):(Zc (Y3 xs)).all AV.one=true:=Kg fun y hy=>by simp only [Xc,W6] at hy;obtain ⟨x,_,rfl⟩:=hy;rfl
end Go.Abs
end
section
namespace Go.Abs
open Go.Proofs Go.Proofs.YthllacimcjakdaaGreat
section
variable {H:Type} {enc:TypeId × Value->H} {w:World}
def GA (w:World):ZV:=fun b _=>b<w.heap.size
abbrev Tr (enc:TypeId × Value->H) (w:World) (n:Nat) (t:TypeId) (cs:List Value) (x:DataW H × List MemPlace):Prop:=DataW.trod enc Tryz.prog w 0 (fun _=>true) true n t cs=some x
theorem Io {w:World} {a:Addr} {v:Value} (h:w.cell? a=some v):a.block<w.heap.size/\a.spot=none:=by
 unfold World.cell? at h
 split at h
 ·rename_i c e fr hb
  split at h
  ·cases h
  ·rename_i hs
   exact ⟨(V9.1 hb).1,by simpa using hs⟩
 ·cases h
theorem Gy {α:Type} {c:α->Nat}:∀{xs:List α} {ds:List (DataW H)},xs.length=ds.length->(∀(i:Nat) a d,xs[i]? = some a->ds[i]? = some d->c a+1<=Rows.uptoBulk d)->(xs.map fun a=>c a+1).sum<=Rows.uptoBulkAll ds
 | [],[],_,_=>YI _
 | a::r,d::ds,hl,h=>by
  have h0:=h 0 a d rfl rfl
  have h1:=Gy (c:=c) (xs:=r) (ds:=ds) (by simpa using hl) fun i a d ha hd=>h (i+1) a d (by simpa using ha) (by simpa using hd)
  rw [VR,List.sum_cons,Rows.uptoBulkAll]
  omega
theorem L6 {α:Type} {f:α->AV} {G:ZV} {k b:Nat} (hf:∀x,(f x).leaves.length=k):∀{xs:List α} {o:Nat},(∀(i:Nat) a,xs[i]? = some a->XL w G b (o+i*k) (f a).leaves)->Wj w G k b o (xs.map f)
 | [],_,_=>.nil
 | x::r,o,h=>by
  refine .cons (hf x) (by have:=h 0 x rfl;simpa using this) (L6 hf fun i a ha=>?_)
  have:=h (i+1) a (by simpa using ha)
  rw [show o+(i+1)*k=o+k+i*k by rw [UL];omega] at this
  exact this
theorem Z0e {α:Type} [Inhabited α] {t e k:Nat} (ht:Tryz.prog.underlying t=some (.slice e)) (hk:Tryz.prog.cellsOf e=k) (h0:0<k) (f:α->AV) (hf:∀x,(f x).leaves.length=k) (c:α->Nat) (Q:α->Prop) {n:Nat} {cs:List Value} {x:DataW H × List MemPlace}
  (h:Tr enc w n t cs x) (el:∀m cs y,m<n->Tr enc w m e cs y->∃a:α,Yp w (GA w) (f a).leaves cs/\c a+1<=Rows.uptoBulk y.1/\Q a) :
  ∃(v:Value) (xs:List α),cs=[v]/\RV w (GA w) (.sl (xs.map f) none) v/\(xs.map fun a=>c a+1).sum+1<=Rows.uptoBulk x.1/\∀a∈xs,Q a:=by
 rcases DataW.trod_slice ht h with ⟨rfl,rfl⟩|⟨a,len,cap,elems,rest,m,rfl,rfl,rfl,_,hlc,_,hlen,hel,_,_⟩
 ·exact ⟨_,[],rfl,.nil (by simp),by simp [Rows.uptoBulk],by simp⟩
 ·rw [hk] at hel
  have hone:∀i,i<len->∃z:α,∃cs' y,w.cells? 0 (a.add (i*k)) k=some cs'/\elems[i]? = some y/\Yp w (GA w) (f z).leaves cs'/\c z+1<=Rows.uptoBulk y.1/\Q z:=by
   intro i hi
   have h1:=hel i hi
   rw [TK om] at h1
   obtain ⟨cs',h2,h3⟩:=Option.bind_eq_some_iff.1 h1
   obtain ⟨z,hz1,hz2,hz3⟩:=el m cs' _ om h3
   exact ⟨z,cs',_,h2,TK om,hz1,hz2,hz3⟩
  obtain ⟨V,hV⟩:=Go.Deep.choose_lt hone
  refine ⟨_,(List.range len).map V,rfl,?_,?_,?_⟩
  ·cases hl0:len with
   | zero=>exact .nil (by simp)
   | succ q=>
    have hsp:a.spot=none:=by
     obtain ⟨cs',y,g1,_⟩:=hV 0 om
     obtain ⟨_,g2,g3⟩:=World.cells?_some g1
     have g4:=g3 0 h0
     rw [TK om] at g4
     have g5:=(Io g4).2
     simpa [Addr.add] using g5
    obtain ⟨b,o,sp⟩:=a
    simp only at hsp
    subst hsp
    rw [<-hl0]
    have hll:(((List.range len).map V).map f).length=len:=by simp
    have:=RV.sl (w:=w) (G:=GA w) (es:=((List.range len).map V).map f) (hv:=none) (b:=b) (o:=o) (k:=k) (cap:=cap) (by simp) (by rw [hll];exact hlc) (L6 hf fun i z hz=>by
     have hi:i<len:=by have:=(Xl.1 hz).1;simpa using this
     have hz':V i=z:=by simpa [hi] using hz
     obtain ⟨cs',y,g1,_,g2,_⟩:=hV i hi
     rw [hz'] at g2
     obtain ⟨_,g3,g4⟩:=World.cells?_some g1
     refine XL.of_cells g2 fun j u hj=>?_
     have hjl:j<k:=by have:=(Xl.1 hj).1;omega
     have g5:=(g4 j hjl).trans hj
     rw [Addr.add_lit,Addr.add_lit] at g5
     exact ⟨g5,(Io g5).1⟩)
    rw [hll] at this
    exact this
  ·have:=Gy (c:=c) (xs:=(List.range len).map V) (ds:=elems.map (·.1)) (by simp [hlen]) fun i z d hz hd=>by
    have hi:i<len:=by have:=(Xl.1 hz).1;simpa using this
    have hz':V i=z:=by simpa [hi] using hz
    obtain ⟨cs',y,_,g1,_,g2,_⟩:=hV i hi
    rw [Qq,g1] at hd
    simp only [AW,XC] at hd
    rw [<-hd,<-hz']
    exact g2
   simp only [Rows.uptoBulk]
   omega
  ·intro z hz
   obtain ⟨i,hi,rfl⟩:=W6.1 hz
   obtain ⟨_,_,_,_,_,_,g⟩:=hV i (List.mem_range.1 hi)
   exact g
theorem Z0c {n:Nat} {cs:List Value} {x:DataW H × List MemPlace} (h:Tr enc w n 5 cs x):∃z:Int,cs=[.int .u8 z]/\Rows.uptoBulk x.1=1/\0<=z/\z<=255:=by
 obtain ⟨z,rfl,rfl,hw⟩:=DataW.trod_int Tryz.underlying5 h
 refine ⟨z,rfl,rfl,?_⟩
 simpa [Lit.wf,IntKind.min,IntKind.max,IntKind.signed,IntKind.bits] using hw
theorem Z0d {n:Nat} {cs:List Value} {x:DataW H × List MemPlace} (h:Tr enc w n 22 cs x):∃(v:Value) (xs:LI),cs=[v]/\RV w (GA w) (WZ xs) v/\∀z∈xs,0<=z/\z<=255:=by
 obtain ⟨v,xs,h1,h2,h3,h4⟩:=Z0e Tryz.underlying22 (k:=1) kr om (fun z:Int=>DN z) (fun _=>rfl) (fun _=>0) (fun z=>0<=z/\z<=255) h fun m cs y _ hy=>by
  obtain ⟨z,rfl,hb,hz⟩:=Z0c hy
  exact ⟨z,.cons .val .nil,Nat.le_of_eq hb.symm,hz⟩
 exact ⟨v,xs,h1,h2,h4⟩
end
end Go.Abs
end
namespace Go.Abs
structure Sg where
 params:LI
 result:Int
abbrev Gf (f:Sg):AV:=.agg [.sl (Z7 f.params) none,.i f.result,.i 0,.i 0,.sl [] none]
def V2 (fs:List Sg):List AV:=fs.map Gf
theorem Eo {xs:List Sg} {j:Nat} {x:Sg} (h:xs[j]? = some x):(V2 xs)[j]? = some (Gf x):=by simp [V2,h]
@[simp] theorem GZ (xs:List Sg):(V2 xs).length=xs.length:=by simp [V2]
theorem GY (xs:List Sg):∀y∈V2 xs,y.leaves.length=5:=by intro y hy;simp only [V2,W6] at hy;obtain ⟨x,_,rfl⟩:=hy;rfl
theorem Oz (xs:List Sg):(Zc (V2 xs)).all AV.one=true:=Kg fun y hy=>by simp only [V2,W6] at hy;obtain ⟨x,_,rfl⟩:=hy;rfl
mutual
def Z3.sz:Z3->Nat
 | .mk _ _ _ args kids=>1+args.length+YH kids
def Z4.sz:Z4->Nat
 | .mk steps _=>1+Y5 steps
def Y5:List Z3->Nat
 | []=>0
 | s::r=>s.sz+Y5 r
def YH:List Z4->Nat
 | []=>0
 | b::r=>b.sz+YH r
end
theorem Z3.sz_pos (s:Z3):1<=s.sz:=by cases s;rw [Z3.sz];omega
theorem Z4.sz_pos (b:Z4):1<=b.sz:=by cases b;rw [Z4.sz];omega
theorem Qk (l:List Z3):l.length<=Y5 l:=by
 induction l with
 | nil=>simp
 | cons s r ih=>have:=s.sz_pos;simp only [Yw,Y5];omega
theorem Nr (l:List Z4):l.length<=YH l:=by
 induction l with
 | nil=>simp
 | cons s r ih=>have:=s.sz_pos;simp only [Yw,YH];omega
theorem Z2s {l:List Z3} {k:Nat} {s:Z3} (h:l[k]? = some s):s.sz<=Y5 l:=by
 induction l generalizing k with
 | nil=>simp at h
 | cons t r ih=>
  cases k with
  | zero=>simp at h;subst h;simp only [Y5];omega
  | succ k=>have:=ih (k:=k) (by simpa using h);simp only [Y5];omega
theorem Np {l:List Z4} {k:Nat} {s:Z4} (h:l[k]? = some s):s.sz<=YH l:=by
 induction l generalizing k with
 | nil=>simp at h
 | cons t r ih=>
  cases k with
  | zero=>simp at h;subst h;simp only [YH];omega
  | succ k=>have:=ih (k:=k) (by simpa using h);simp only [YH];omega
theorem Z3.sz_eq (s:Z3):s.sz=1+s.args.length+YH s.kids:=by cases s;rw [Z3.sz];rfl
theorem Z4.sz_eq (b:Z4):b.sz=1+Y5 b.steps:=by cases b;rw [Z4.sz];rfl
theorem TG {b:Z4} {k:Nat} {s:Z3} (h:b.steps[k]? = some s):s.sz<b.sz:=by have:=Z2s h;have:=b.sz_eq;omega
theorem VX {s:Z3} {k:Nat} {b:Z4} (h:s.kids[k]? = some b):b.sz<s.sz:=by have:=Np h;have:=s.sz_eq;omega
theorem T5 (s:Z3):s.args.length<s.sz:=by have:=s.sz_eq;omega
theorem U9 (s:Z3):s.kids.length<s.sz:=by have:=s.sz_eq;have:=Nr s.kids;omega
theorem WQ (b:Z4):b.steps.length<b.sz:=by have:=b.sz_eq;have:=Qk b.steps;omega
structure Jp (ds:List Zd):Prop where
 len:ds.length<=4194304
 cons:∀d∈ds,d.cons.length<=4194304
 fields:∀d∈ds,∀c∈d.cons,c.fields.length<=4194304
theorem Jp.cons_at {ds:List Zd} (h:Jp ds) {k:Nat} {d:Zd} (hd:ds[k]? = some d):d.cons.length<=4194304:=h.cons d (ZT hd)
def Ad (m:Nat) (c:Y0):Bool:=decide (c.fields.length<=3)&&VD m c.fields
def Jz (d:Zd):List Zd->Bool
 | []=>false
 | e::r=>if e.cons.length=0/\e.frm=d.frm/\e.to_=d.to_ then true else Jz d r
def Qb (m:Nat):List Y0->Bool
 | []=>true
 | c::r=>if Ad m c=true then Qb m r else false
def Ka (ds:List Zd) (d:Zd) (i:Nat):Bool:=
 if 0<d.cons.length then (if d.cons.length<=3/\d.frm=0/\d.to_=0 then Qb ds.length d.cons else false)
 else if Jz d (ds.take i)=true then false else decide (0<=d.frm/\d.frm<=ds.length)&&decide (0<=d.to_/\d.to_<=ds.length)
def Jx (ds:List Zd) (i:Nat):Bool:=(ds[i]?.map fun d=>Ka ds d i).getD false
theorem GT {ds:List Zd} {i:Nat} {d:Zd} (h:ds[i]? = some d):Jx ds i=Ka ds d i:=by rw [Jx,h];rfl
def QB (ds:List Zd):List Zd->Nat->Bool
 | [],_=>true
 | _::r,i=>if Jx ds i=true then QB ds r (i+1) else false
def TJ (ds:List Zd):Bool:=decide (ds.length<=4)&&QB ds ds 0
theorem NT {m:Nat} {cs:List Y0}:Qb m cs=true↔∀c∈cs,Ad m c=true:=by
 induction cs with
 | nil=>simp [Qb]
 | cons c r ih=>
  rw [Qb]
  split
  ·rename_i h;simp [ih,h]
  ·rename_i h;simp [h]
theorem GU {ds:List Zd}:∀{l:List Zd} {i:Nat},QB ds l i=true↔∀j<l.length,Jx ds (i+j)=true
 | [],i=>by simp [QB]
 | d::r,i=>by
  rw [QB]
  split
  ·rename_i h
   rw [GU (l:=r)]
   constructor
   ·intro hq j hj
    cases j with
    | zero=>exact h
    | succ j=>have:=hq j (by simpa using hj);rwa [show i+(j+1)=i+1+j by omega]
   ·intro hq j hj
    have:=hq (j+1) (by simpa using hj)
    rwa [show i+(j+1)=i+1+j by omega] at this
  ·rename_i h
   simp only [Bool.false_eq_true,false_iff]
   intro hq
   exact h (hq 0 (by simp))
theorem Z3z {ds:List Zd} (h:TJ ds=true):Wi ds:=by
 simp only [TJ,W5,decide_eq_true_eq] at h
 obtain ⟨h1,h2⟩:=h
 rw [GU] at h2
 have key:∀d∈ds,∃i,Ka ds d i=true:=fun d hd=>by
  obtain ⟨i,hi⟩:=List.mem_iff_getElem?.1 hd
  have:=h2 i (Xl.1 hi).1
  rw [We,GT hi] at this
  exact ⟨i,this⟩
 have hc:∀d∈ds,0<d.cons.length->d.cons.length<=3/\Qb ds.length d.cons=true:=fun d hd hp=>by
  obtain ⟨i,hi⟩:=key d hd
  rw [Ka,Zw hp] at hi
  split at hi
  ·rename_i h;exact ⟨h.1,hi⟩
  ·cases hi
 refine ⟨h1,fun d hd=>?_,fun d hd c hc'=>?_⟩
 ·by_cases hp:0<d.cons.length
  ·exact (hc d hd hp).1
  ·omega
 ·have:=NT.1 (hc d hd (List.length_pos_of_mem hc')).2 c hc'
  simp only [Ad,W5,decide_eq_true_eq] at this
  exact this.1
def JV (m:Nat) (f:Sg):Bool:=decide (f.params.length<=3)&&(VD m f.params&&decide (0<=f.result/\f.result<=m))
def Ky (m:Nat):List Sg->Bool
 | []=>true
 | f::r=>if JV m f=true then Ky m r else false
def Hf:List Sg->Bool
 | []=>false
 | f::_=>decide (f.params.length=0)&&decide (f.result=0)
theorem ON {fs:List Sg} {x:Sg} (h:fs[0]? = some x):Hf fs=(decide (x.params.length=0)&&decide (x.result=0)):=by
 cases fs with
 | nil=>simp at h
 | cons f r=>simp at h;subst h;rfl
def Qn (ds:List Zd) (fs:List Sg):Bool:=
 TJ ds&&(decide (1<=fs.length/\fs.length<=4)&&(Ky ds.length fs&&Hf fs))
def Kq (ps:LI):LI->Option Int->Bool
 | [],_=>true
 | v::r,prev=>if (0<=v/\v<=(ps.length:Int)-1)/\ps[v.toNat]?≠some 0/\(∀p,prev=some p->p<v) then Kq ps r (some v) else false
theorem Im {ps r:LI} {v:Int} {prev:Option Int} (h:(0<=v/\v<=(ps.length:Int)-1)/\ps[v.toNat]?≠some 0/\(∀p,prev=some p->p<v)):Kq ps (v::r) prev=Kq ps r (some v):=by
 rw [Kq,Zw h]
theorem Fa {ps r:LI} {v:Int} {prev:Option Int} (h:¬((0<=v/\v<=(ps.length:Int)-1)/\ps[v.toNat]?≠some 0/\(∀p,prev=some p->p<v))):Kq ps (v::r) prev=false:=by
 rw [Kq,Zs h]
def BS (ps ls:LI):Bool:=Kq ps ls none
def JO:List Y1->Bool
 | []=>true
 | r::rs=>if BS r.params r.lent=true then JO rs else false
def Ur (r:Y1):Sg:=⟨r.params,r.result⟩
def QL (n:Zu):Bool:=decide (n.routines.length<=4)&&(Qn n.decls (n.routines.map Ur)&&JO n.routines)
end Go.Abs
section
namespace Go.Abs
def Vb {α:Type} (xs:List α) (i:Int):Option α:=if 0<=i/\i<=(xs.length:Int)-1 then xs[i.toNat]? else none
theorem KQ {α:Type} {xs:List α} {i:Int} {x:α} (h:0<=i/\i<=(xs.length:Int)-1) (hx:xs[i.toNat]? = some x):Vb xs i=some x:=by rw [Vb,Zw h,hx]
theorem K4 {α:Type} {xs:List α} {i:Int} (h:¬(0<=i/\i<=(xs.length:Int)-1)):Vb xs i=none:=by rw [Vb,Zs h]
theorem Ab {α:Type} {xs:List α} {i:Int} {x:α} (h:Vb xs i=some x):(0<=i/\i<=(xs.length:Int)-1)/\xs[i.toNat]? = some x:=by
 rw [Vb] at h
 split at h
 ·rename_i h1;exact ⟨h1,h⟩
 ·cases h
def TH (vars:LI):LI->LI->Bool
 | [],[]=>true
 | a::as1,t::ts=>if Vb vars a=some t then TH vars as1 ts else false
 | _,_=>false
def W4 (vars args types:LI):Bool:=TH vars args types
theorem Mj {vars:LI}:∀{args types:LI},args.length≠types.length->TH vars args types=false
 | [],[],h=>absurd rfl h
 | [],_::_,_=>rfl
 | _::_,[],_=>rfl
 | a::as1,t::ts,h=>by
  rw [TH]
  split
  ·exact Mj (by simpa using h)
  ·rfl
theorem Z3f {vars args types:LI} {k:Nat} {a t:Int} (ha:args[k]? = some a) (ht:types[k]? = some t) (h:Vb vars a=some t) :
  TH vars (args.drop k) (types.drop k)=TH vars (args.drop (k+1)) (types.drop (k+1)):=by
 rw [Ye ha,Ye ht,TH,Zw h]
theorem Mi {vars args types:LI} {k:Nat} {a t:Int} (ha:args[k]? = some a) (ht:types[k]? = some t) (h:Vb vars a≠some t) :
  TH vars (args.drop k) (types.drop k)=false:=by
 rw [Ye ha,Ye ht,TH,Zs h]
theorem Z3e {vars args types:LI} {k:Nat} (ha:args.length<=k) (ht:types.length<=k):TH vars (args.drop k) (types.drop k)=true:=by
 rw [Xk ha,Xk ht];rfl
def UC (op:Int):Bool:=op==0||(op==6||(op==8||(op==9||op==10)))
def Xq (op:Int):Bool:=decide (0<=op/\op<=11)
def YA (op:Int):Bool:=decide (14<=op/\op<=17)
def Uu (vars:LI) (op into:Int):Bool:=
 if into=0 then true else if op=6 then ((Vb vars (into-1)).map fun t=>decide (0<t)).getD false else false
def B1 (ds:List Zd) (ps:LI) (res:Int):Int:=Qu ds (ps.getLast?.getD 0) res
def Jb (ds:List Zd) (vars:LI) (op:Int) (args:LI) (r:Y1):Int:=
 if op=9 then (if W4 vars args r.params=true then r.result else -1)
 else if r.params.length=0∨0<r.lent.length∨¬W4 vars args (r.params.take (r.params.length-1))=true then -1
 else B1 ds r.params r.result
def QP (n:Zu) (vars:LI) (op num:Int) (args:LI):Int:=
 match Vb n.routines num with
 | none=>-1
 | some r=>Jb n.decls vars op args r
def TT (ds:List Zd) (vars:LI) (op:Int) (args:LI):Int:=
 match args with
 | [a]=>match Vb vars a with
  | some t=>if t=0 then -1 else if (op≠14/\op≠15)/\WG ds t=true then -1 else 0
  | none=>-1
 | _=>-1
def TP (ds:List Zd) (vars:LI) (args:LI):Int:=
 match args with
 | [a,b]=>match Vb vars a with
  | some t=>if WG ds t=true then
    (match ds[(t-1).toNat]? with
     | some d=>if W4 vars [b] [d.frm]=true then d.to_ else -1
     | none=>-1) else -1
  | none=>-1
 | _=>-1
def Xn (ds:List Zd) (op num:Int):List LI:=if op=7 then [[],[]] else (ZW ds num).map (ZZ ds)
mutual
def Yv (n:Zu) (vars:LI):Z3->Int
 | .mk op num into args kids=>
  if (num≠0/\¬UC op=true)∨¬Uu vars op into=true∨(0<kids.length/\op≠7/\op≠8) then -1
  else if op=0 then (if args.length=0/\(-999<=num/\num<=999) then 0 else -1)
  else if op=1∨op=2∨op=3∨op=4 then (if W4 vars args [0,0]=true then 0 else -1)
  else if op=5 then (if W4 vars args [0]=true then 0 else -1)
  else if op=6 then (if 0<WW n.decls num/\W4 vars args (ZZ n.decls num)=true then WW n.decls num else -1)
  else if op=7 then (if W4 vars args [0]=true then (if (Xn n.decls op num).length=0∨kids.length≠(Xn n.decls op num).length then -1 else UR n vars kids (Xn n.decls op num) true 0) else -1)
  else if op=8 then (if W4 vars args [num]=true then (if (Xn n.decls op num).length=0∨kids.length≠(Xn n.decls op num).length then -1 else UR n vars kids (Xn n.decls op num) true 0) else -1)
  else if op=9∨op=10 then QP n vars op num args
  else if op=11 then TP n.decls vars args
  else if op=14∨op=15∨op=16∨op=17 then TT n.decls vars op args
  else -1
def UR (n:Zu) (vars:LI):List Z4->List LI->Bool->Int->Int
 | [],_,_,t=>t
 | b::bs,more,first,t=>
  match more with
  | []=>-1
  | m::ms=>if Xy n (vars++m) b<0∨(first=false/\Xy n (vars++m) b≠t) then -1 else UR n vars bs ms false (Xy n (vars++m) b)
def Ve (n:Zu):List Z3->LI->Option LI
 | [],vars=>some vars
 | s::r,vars=>if Yv n vars s<0 then none else Ve n r (if Xq s.op=true then vars++[Yv n vars s] else vars)
def Xy (n:Zu) (vars:LI):Z4->Int
 | .mk steps result=>match Ve n steps vars with
  | none=>-1
  | some vs=>(Vb vs result).getD (-1)
end
def Qh (n:Zu) (vars:LI) (op num:Int) (kids:List Z4):Int:=
 if (Xn n.decls op num).length=0∨kids.length≠(Xn n.decls op num).length then -1 else UR n vars kids (Xn n.decls op num) true 0
mutual
def J4:Z3->Int->Int
 | .mk _ _ _ _ kids,left=>UG kids left
def XU:Z4->Int->Int
 | .mk steps _,left=>Um steps left
def Um:List Z3->Int->Int
 | [],left=>left
 | s::r,left=>if left<1 then -1 else if J4 s (left-1)<0 then -1 else Um r (J4 s (left-1))
def UG:List Z4->Int->Int
 | [],left=>left
 | b::r,left=>if XU b left<0 then -1 else UG r (XU b left)
end
def Xz (b:Z4):Int:=if XU b 600<0 then -1 else 600-XU b 600
def Kx (n:Zu):List Y1->Bool
 | []=>true
 | r::rs=>if ¬Xz r.body<0/\Xy n r.params r.body=r.result then Kx n rs else false
def TI (n:Zu):Bool:=QL n&&Kx n n.routines
theorem F9:(∀(s:Z3) (l:Int),0<=l->J4 s l<=l)/\(∀(b:Z4) (l:Int),0<=l->XU b l<=l):=by
 have key:∀m:Nat,(∀s:Z3,s.sz<=m->∀l:Int,0<=l->J4 s l<=l)/\(∀b:Z4,b.sz<=m->∀l:Int,0<=l->XU b l<=l):=by
  intro m
  induction m with
  | zero=>exact ⟨fun s h=>by have:=s.sz_pos;omega,fun s h=>by have:=s.sz_pos;omega⟩
  | succ m ih=>
   refine ⟨fun s hs l hl=>?_,fun b hb l hl=>?_⟩
   ·cases s with
    | mk op num into args kids=>
     rw [J4]
     have hk:YH kids<=m:=by rw [Z3.sz] at hs;omega
     clear hs
     induction kids generalizing l with
     | nil=>rw [UG];exact Int.le_refl _
     | cons b r ihr=>
      rw [YH] at hk
      have:=ih.2 b om l hl
      rw [UG]
      split
      ·omega
      ·have:=ihr (XU b l) om om;omega
   ·cases b with
    | mk steps res=>
     rw [XU]
     have hk:Y5 steps<=m:=by rw [Z4.sz] at hb;omega
     clear hb
     induction steps generalizing l with
     | nil=>rw [Um];exact Int.le_refl _
     | cons s r ihr=>
      rw [Y5] at hk
      rw [Um]
      split
      ·omega
      ·have:=ih.1 s om (l-1) om
       split
       ·omega
       ·have:=ihr (J4 s (l-1)) om om;omega
 exact ⟨fun s l hl=>(key s.sz).1 s (YI _) l hl,fun b l hl=>(key b.sz).2 b (YI _) l hl⟩
end Go.Abs
namespace Go.Abs
theorem Z2t {l:List Z3} {k:Nat} {s:Z3} (h:l[k]? = some s):k+s.sz<=Y5 l:=by
 induction l generalizing k with
 | nil=>simp at h
 | cons t r ih=>
  cases k with
  | zero=>simp at h;subst h;simp only [Y5];omega
  | succ k=>have:=ih (k:=k) (by simpa using h);have:=t.sz_pos;simp only [Y5];omega
theorem AN {b:Z4} {k:Nat} {s:Z3} (h:b.steps[k]? = some s):k+s.sz<b.sz:=by have:=Z2t h;have:=b.sz_eq;omega
structure X5 (n:Zu):Prop where
 decls:Wi n.decls
 len:n.routines.length<=4
 params:∀r∈n.routines,r.params.length<=3
 lent:∀r∈n.routines,r.lent.length<=4194304
theorem X5.params_at {n:Zu} (h:X5 n) {k:Nat} {r:Y1} (hr:n.routines[k]? = some r):r.params.length<=3:=h.params r (ZT hr)
theorem X5.lent_at {n:Zu} (h:X5 n) {k:Nat} {r:Y1} (hr:n.routines[k]? = some r):r.lent.length<=4194304:=h.lent r (ZT hr)
theorem Nd {ds:List Zd} {num:Int} {k:Nat} {x:Int} (h:(ZW ds num)[k]? = some x):(Xn ds 8 num)[k]? = some (ZZ ds x):=by
 rw [Xn,Zs om,Qq,h];rfl
end Go.Abs
namespace Go.Abs
theorem Iy {ds:List Zd} (hd:Wi ds) (t:Int):(ZW ds t).length<=3:=by
 rw [ZW]
 split
 ·rename_i h
  obtain ⟨d,hd1⟩:=Bi (xs:=ds) (j:=(t-1).toNat) om
  rw [hd1,SK]
  exact hd.cons_at hd1
 ·simp
theorem Vs {ds:List Zd} (hd:Wi ds) (c:Int):(ZZ ds c).length<=3:=by
 by_cases h:WW ds c<1
 ·rw [(GJ h).1];simp
 ·obtain ⟨k,d,x,h1,_,h3,_,h5⟩:=GK h
  rw [h5];exact hd.fields_at h1 h3
theorem Gl {ds:List Zd} (hd:Wi ds) {op num:Int} {k:Nat} {m:LI} (h:(Xn ds op num)[k]? = some m):m.length<=3:=by
 have hm:=ZT h
 rw [Xn] at hm
 split at hm
 ·simp at hm;subst hm;simp
 ·obtain ⟨c,_,rfl⟩:=W6.1 hm;exact Vs hd c
theorem TQ {α:Type} {xs:List α} {x:α} (h:xs.length=1) (hx:xs[0]? = some x):xs=[x]:=by
 cases xs with
 | nil=>simp at h
 | cons a r=>
  cases r with
  | nil=>simp at hx;rw [hx]
  | cons b r=>simp at h
theorem Af {ds:List Zd} {us args:LI} {op:Int} (h:args.length≠1):TT ds us op args=-1:=by
 cases args with
 | nil=>rfl
 | cons a r=>
  cases r with
  | nil=>simp at h
  | cons b r=>rfl
theorem Ag {ds:List Zd} {us args:LI} {op a:Int} (h:args=[a]) (hi:¬(0<=a/\a<=(us.length:Int)-1)):TT ds us op args=-1:=by
 subst h;rw [TT];simp only [K4 hi]
theorem Ae {ds:List Zd} {us args:LI} {op a t:Int} (h:args=[a]) (hi:0<=a/\a<=(us.length:Int)-1) (ht:us[a.toNat]? = some t) :
  TT ds us op args=if t=0 then -1 else if (op≠14/\op≠15)/\WG ds t=true then -1 else 0:=by
 subst h;rw [TT];simp only [KQ hi ht]
theorem Z0p {n:Zu} {us args:LI} {op num:Int} {r:Y1} (hi:0<=num/\num<=(n.routines.length:Int)-1) (hr:n.routines[num.toNat]? = some r) :
  QP n us op num args=Jb n.decls us op args r:=by
 rw [QP];simp only [KQ hi hr]
theorem Z0q {n:Zu} {us args:LI} {op num:Int} (hi:¬(0<=num/\num<=(n.routines.length:Int)-1)):QP n us op num args=-1:=by
 rw [QP];simp only [K4 hi]
theorem Rc {xs:LI} {x:Int} (h:xs[xs.length-1]? = some x):xs.getLast?.getD 0=x:=by
 rw [List.getLast?_eq_getElem?,h];rfl
theorem Sa {n:Zu} {us:LI} {bs:List Z4} {ms:List LI} {b:Z4} {m:LI} {k:Nat} {t:Int} (hb:bs[k]? = some b) (hm:ms[k]? = some m)
  (h:¬(Xy n (us++m) b<0∨(k:Int)>0/\Xy n (us++m) b≠t)) :
  UR n us (bs.drop k) (ms.drop k) (decide (k=0)) t=UR n us (bs.drop (k+1)) (ms.drop (k+1)) (decide (k+1=0)) (Xy n (us++m) b):=by
 rw [Ye hb,Ye hm,UR,Zs]
 ·simp
 ·rintro (q|⟨q1,q2⟩)
  ·exact h (.inl q)
  ·exact h (.inr ⟨by simp at q1;omega,q2⟩)
theorem S8 {n:Zu} {us:LI} {bs:List Z4} {ms:List LI} {b:Z4} {m:LI} {k:Nat} {t:Int} (hb:bs[k]? = some b) (hm:ms[k]? = some m)
  (h:Xy n (us++m) b<0∨(k:Int)>0/\Xy n (us++m) b≠t) :
  UR n us (bs.drop k) (ms.drop k) (decide (k=0)) t=-1:=by
 rw [Ye hb,Ye hm,UR,Zw]
 rcases h with q|⟨q1,q2⟩
 ·exact .inl q
 ·exact .inr ⟨by simp;omega,q2⟩
theorem S9 {n:Zu} {us:LI} {bs:List Z4} {ms:List LI} {k:Nat} {f:Bool} {t:Int} (hb:bs.length<=k):UR n us (bs.drop k) (ms.drop k) f t=t:=by
 rw [Xk hb,UR]
end Go.Abs
end
namespace Go.Abs
theorem FP (n:Zu) (us:LI) (s:Z3):Yv n us s =
  if (s.num≠0/\¬UC s.op=true)∨¬Uu us s.op s.into=true∨(0<s.kids.length/\s.op≠7/\s.op≠8) then -1
  else if s.op=0 then (if s.args.length=0/\(-999<=s.num/\s.num<=999) then 0 else -1)
  else if s.op=1∨s.op=2∨s.op=3∨s.op=4 then (if W4 us s.args [0,0]=true then 0 else -1)
  else if s.op=5 then (if W4 us s.args [0]=true then 0 else -1)
  else if s.op=6 then (if 0<WW n.decls s.num/\W4 us s.args (ZZ n.decls s.num)=true then WW n.decls s.num else -1)
  else if s.op=7 then (if W4 us s.args [0]=true then Qh n us s.op s.num s.kids else -1)
  else if s.op=8 then (if W4 us s.args [s.num]=true then Qh n us s.op s.num s.kids else -1)
  else if s.op=9∨s.op=10 then QP n us s.op s.num s.args
  else if s.op=11 then TP n.decls us s.args
  else if s.op=14∨s.op=15∨s.op=16∨s.op=17 then TT n.decls us s.op s.args
  else -1:=by
 cases s with
 | mk op num into args kids=>rw [Yv];rfl
theorem DY (n:Zu) (us:LI) (b:Z4):Xy n us b=match Ve n b.steps us with
  | none=>-1
  | some vs=>(Vb vs b.result).getD (-1):=by
 cases b with
 | mk st r=>rw [Xy];rfl
theorem Gk {α:Type} {xs:List α} {x:α} (h:xs.length=2) (hx:xs[0]? = some x):∃y,xs=[x,y]:=by
 match xs,h with
 | [a,b],_=>simp at hx;subst hx;exact ⟨b,rfl⟩
theorem Vq {ds:List Zd} {us args:LI} (h:args.length≠2):TP ds us args=-1:=by
 match args,h with
 | [],_=>rfl
 | [_],_=>rfl
 | [_,_],h=>simp at h
 | _::_::_::_,_=>rfl
theorem Vr {ds:List Zd} {us args:LI} {a:Int} (hl:args.length=2) (h:args[0]? = some a) (hi:¬(0<=a/\a<=(us.length:Int)-1)):TP ds us args=-1:=by
 obtain ⟨y,rfl⟩:=Gk hl h;rw [TP];simp only [K4 hi]
theorem Vh {ds:List Zd} {us args:LI} {a t:Int} (hl:args.length=2) (h:args[0]? = some a) (hi:0<=a/\a<=(us.length:Int)-1) (ht:us[a.toNat]? = some t) :
  TP ds us args=if WG ds t=true then
    (match ds[(t-1).toNat]? with
     | some d=>if W4 us (args.drop 1) [d.frm]=true then d.to_ else -1
     | none=>-1) else -1:=by
 obtain ⟨y,rfl⟩:=Gk hl h;rw [TP];simp only [KQ hi ht];rfl
theorem N7 {ds:List Zd} {us args:LI} {a t:Int} {d:Zd} (hl:args.length=2) (h:args[0]? = some a) (hi:0<=a/\a<=(us.length:Int)-1) (ht:us[a.toNat]? = some t)
  (hA:WG ds t=true) (hd:ds[(t-1).toNat]? = some d):TP ds us args=if W4 us (args.drop 1) [d.frm]=true then d.to_ else -1:=by
 rw [Vh hl h hi ht,Zw hA];simp only [hd]
theorem EQ {ds:List Zd} {t:Int} (h:WG ds t=true):1<=t/\t<=ds.length:=by
 simp only [WG,W5,decide_eq_true_eq] at h;exact h.1
theorem Ik (b:Z4) (l:Int):XU b l=Um b.steps l:=by cases b;rw [XU];rfl
theorem CQ (s:Z3) (l:Int):J4 s l=UG s.kids l:=by cases s;rw [J4];rfl
structure KJ (n:Zu):Prop where
 decls:Jp n.decls
 len:n.routines.length<=4194304
 params:∀r∈n.routines,r.params.length<=4194304
 lent:∀r∈n.routines,r.lent.length<=4194304
 body:∀r∈n.routines,r.body.sz<=10000000
theorem LE {m:Nat} {fs:List Sg} (h:Ky m fs=true):∀f∈fs,JV m f=true:=by
 induction fs with
 | nil=>simp
 | cons f r ih=>
  rw [Ky] at h
  split at h
  ·rename_i h1
   intro g hg
   rcases Yk.1 hg with rfl|hg
   ·exact h1
   ·exact ih h g hg
  ·cases h
theorem It {n:Zu} (hz:KJ n) (h:QL n=true):X5 n:=by
 simp only [QL,Qn,W5,decide_eq_true_eq] at h
 obtain ⟨h1,⟨h2,h3,h4,h5⟩,h6⟩:=h
 refine ⟨Z3z h2,h1,fun r hr=>?_,hz.lent⟩
 have:=LE h4 (Ur r) (W6.2 ⟨r,hr,rfl⟩)
 simp only [JV,W5,decide_eq_true_eq] at this
 exact this.1
def gI (xs:LI) (i:Int):Int:=xs[i.toNat]?.getD 0
theorem Uy {xs:LI} {i:Int} {x:Int} (h:xs[i.toNat]? = some x):gI xs i=x:=by rw [gI,h];rfl
structure Zv where
 vars:LI
 own:LI
 par:LI
 con:LI
 fst:LI
 tok:LI
def Zv.grow (L:Zv) (t own par:Int):Zv:=⟨L.vars++[t],L.own++[own],L.par++[par],L.con++[-1],L.fst++[-1],L.tok++[-1]⟩
def Ut (L:Zv) (v:Int):Option Zv:=if gI L.own v<1 then none else some { L with own:=L.own.set v.toNat (gI L.own v-1) }
def T4 (own par ln:LI):Nat->Int->Bool
 | 0,_=>false
 | k+1,v=>if gI own v<1/\¬v∈ln then (if gI par v<0 then false else T4 own par ln k (gI par v)) else true
def VC (L:Zv) (ln:LI) (v:Int):Bool:=T4 L.own L.par ln (v.toNat+1) v
def UM:LI->Int->LI->LI
 | own,_,[]=>own
 | own,p,f::r=>UM (if f≠0 then own.set p.toNat (gI own p+1) else own) (p+1) r
def QN (ds:List Zd) (L:Zv) (op x:Int):Option Zv:=
 if gI L.con x<0∨(op=17/\0<=gI L.tok x) then none
 else match Ut L x with
  | none=>none
  | some L1=>some { L1 with
    own:=UM L1.own (gI L.fst x) (ZZ ds (gI L.con x))
    tok:=if op=17 then L.tok.set x.toNat (ZZ ds (gI L.con x)).length else L.tok }
def Qy (op:Int):Bool:=op==6||(op==9||(op==10||op==11))
def CS (n:Zu) (op num:Int):LI:=if op=9 then ((n.routines[num.toNat]?).map (·.lent)).getD [] else []
def Vw (n:Zu) (op num:Int) (i:Nat):Bool:=decide ((i:Int)∈CS n op num)
def Qa (n:Zu) (vars:LI) (op num a:Int) (i:Nat):Bool:=Qy op&&(gI vars a != 0&&!Vw n op num i)
def Tv (n:Zu) (op num:Int):LI->Nat->Zv->Option Zv
 | [],_,L=>some L
 | a::r,i,L=>if Qa n L.vars op num a i=true then (match Ut L a with
   | none=>none
   | some L1=>Tv n op num r (i+1) L1) else Tv n op num r (i+1) L
def J1 (n:Zu) (op num:Int) (ln:LI) (L:Zv):LI->Nat->Bool
 | [],_=>true
 | a::r,i=>if Vw n op num i=true/\¬VC L ln a=true then false else J1 n op num ln L r (i+1)
def Bj (L:Zv) (into:Int) (m:Nat):Option Zv:=
 if 0<into then (if gI L.tok (into-1)≠m then none else some { L with tok:=L.tok.set (into-1).toNat (-1) }) else some L
def Qd (n:Zu) (ln:LI) (L:Zv) (op num into:Int) (args:LI):Option Zv:=
 match Tv n op num args 0 L with
 | none=>none
 | some L1=>if J1 n op num ln L1 args 0=true then Bj L1 into args.length else none
def Ji:LI->LI->Bool
 | o::os,t::ts=>if o≠0∨0<=t then false else Ji os ts
 | _,_=>true
def Zv.take (L:Zv) (m:Nat):Zv:=⟨L.vars.take m,L.own.take m,L.par.take m,L.con.take m,L.fst.take m,L.tok.take m⟩
def Qz (L:Zv) (m:Nat):Option Zv:=if Ji (L.own.drop m) (L.tok.drop m)=true then some (L.take m) else none
def JI (L:Zv) (par:Int):LI->Zv
 | []=>L
 | t::r=>JI (L.grow t 0 par) par r
def Jt (ds:List Zd) (L:Zv) (x c:Int):Zv:=
 JI { L with con:=L.con.set x.toNat c,fst:=L.fst.set x.toNat L.vars.length } x (ZZ ds c)
def U8 (ds:List Zd) (L:Zv) (op num:Int) (args:LI) (i:Nat):Zv:=
 if op=8 then Jt ds L (gI args 0) (gI (ZW ds num) i) else L
def Ku (lent:LI):LI->Nat->Zv->Zv
 | [],_,L=>L
 | t::r,i,L=>Ku lent r (i+1) (L.grow t (if t≠0/\¬(i:Int)∈lent then 1 else 0) (-1))
def Q4 (r:Y1):Zv:=Ku r.lent r.params 0 ⟨[],[],[],[],[],[]⟩
def JA (L:Zv) (ln:LI) (v:Int):Option Zv:=if VC L ln v=true then some { L with own:=L.own.set v.toNat (gI L.own v+1) } else none
def Qj (n:Zu) (ln:LI) (L:Zv) (op num into:Int) (args:LI) (ch:Option Zv):Option Zv:=
 if op=14 then JA L ln (gI args 0)
 else if op=15 then Ut L (gI args 0)
 else if op=16∨op=17 then QN n.decls L op (gI args 0)
 else if op=7∨op=8 then (if op=8/\¬VC L ln (gI args 0)=true then none else ch)
 else Qd n ln L op num into args
def QG (L:Zv) (op t:Int) (r:Option Zv):Option Zv:=
 match r with
 | none=>none
 | some L1=>if Xq op=true then some (L1.grow t (if t≠0 then 1 else 0) (-1)) else some L1
def JP (L:Zv) (first:Option Zv) (rest:Zv->Bool):Option Zv:=
 match first with
 | none=>none
 | some one=>if rest one=true then some { L with own:=one.own,tok:=one.tok } else none
def Dh (one:Zv) (two:Option Zv) (rest:Bool):Bool:=
 match two with
 | none=>false
 | some two=>if one.own=two.own/\one.tok=two.tok then rest else false
def BP (r:Option Zv) (f:Zv->Option Zv):Option Zv:=match r with|none=>none|some L=>f L
def QF (m:Nat) (res:Int) (L:Zv):Option Zv:=BP (if gI L.vars res≠0 then Ut L res else some L) fun L2=>Qz L2 m
mutual
def UX (n:Zu) (ln:LI) (L:Zv):Z3->Option Zv
 | .mk op num into args kids=>QG L op (Yv n L.vars (.mk op num into args kids)) (Qj n ln L op num into args (Q1 n ln L op num args kids))
def Q1 (n:Zu) (ln:LI) (L:Zv) (op num:Int) (args:LI):List Z4->Option Zv
 | []=>none
 | b::bs=>JP L (WV n ln (U8 n.decls L op num args 0) L.vars.length b) fun one=>Qg n ln L op num args one bs 1
def Qg (n:Zu) (ln:LI) (L:Zv) (op num:Int) (args:LI) (one:Zv):List Z4->Nat->Bool
 | [],_=>true
 | b::bs,i=>Dh one (WV n ln (U8 n.decls L op num args i) L.vars.length b) (Qg n ln L op num args one bs (i+1))
def Ql (n:Zu) (ln:LI) (L:Zv):List Z3->Option Zv
 | []=>some L
 | s::r=>BP (UX n ln L s) fun L1=>Ql n ln L1 r
def WV (n:Zu) (ln:LI) (L:Zv) (m:Nat):Z4->Option Zv
 | .mk steps result=>BP (Ql n ln L steps) (QF m result)
end
theorem M5 (n:Zu) (ln:LI) (L:Zv) (s:Z3):UX n ln L s=QG L s.op (Yv n L.vars s) (Qj n ln L s.op s.num s.into s.args (Q1 n ln L s.op s.num s.args s.kids)):=by
 cases s with
 | mk op num into args kids=>rw [UX];rfl
theorem DX (n:Zu) (ln:LI) (L:Zv) (m:Nat) (b:Z4):WV n ln L m b=BP (Ql n ln L b.steps) (QF m b.result):=by
 cases b with
 | mk st r=>rw [WV];rfl
structure VT (L:Zv):Prop where
 own:L.own.length=L.vars.length
 par:L.par.length=L.vars.length
 con:L.con.length=L.vars.length
 fst:L.fst.length=L.vars.length
 tok:L.tok.length=L.vars.length
structure X8 (ds:List Zd) (L:Zv) (q:Int):Prop where
 len:VT L
 down:∀j:Int,0<=j->j<L.vars.length->gI L.par j<j
 arm:∀x:Int,0<=x->x<L.vars.length->0<=gI L.con x->0<=gI L.fst x/\gI L.fst x+(ZZ ds (gI L.con x)).length<=L.vars.length
 nn:∀x∈L.own,0<=x
 bd:∀x∈L.own,x<=q
end Go.Abs
section
namespace Go.Abs
end Go.Abs
namespace Go.Abs
theorem Sq {n:Zu} {op num:Int} {r:Y1} (h:op=9) (hr:n.routines[num.toNat]? = some r):CS n op num=r.lent:=by
 rw [CS,Zw h,hr];rfl
end Go.Abs
namespace Go.Abs
theorem MT {own par ln:LI} {N:Int} (hd:∀j:Int,0<=j->j<N->gI par j<j):∀(k:Nat) (v:Int),0<=v->v<N->v.toNat+1<=k->T4 own par ln k v=T4 own par ln (v.toNat+1) v:=by
 intro k
 induction k using Nat.strongRecOn with
 | ind k ih=>
  intro v h0 hN hk
  cases k with
  | zero=>omega
  | succ k=>
   rw [T4,T4]
   split
   ·split
    ·rfl
    ·have hdv:=hd v h0 hN
     rw [ih k om (gI par v) om om om]
     rw [ih v.toNat om (gI par v) om om om]
   ·rfl
theorem MV {own par ln:LI} {N j x1 x2:Int} {r:Bool} (h1:gI own j=x1) (h2:gI par j=x2) (hj:0<=j/\j<N) (hx:x1<1/\¬j∈ln) (h0:¬x2<0) (hd:∀i:Int,0<=i->i<N->gI par i<i)
  (h:T4 own par ln (j.toNat+1) j=r):T4 own par ln (x2.toNat+1) x2=r:=by
 rw [T4,h1,h2,Zw hx,Zs h0] at h
 have hdv:=hd j hj.1 hj.2
 rw [<-h,MT hd j.toNat x2 om om om]
theorem MU {own par ln:LI} {j x1 x2:Int} {r:Bool} (h1:gI own j=x1) (h2:gI par j=x2) (hx:x1<1/\¬j∈ln) (h0:x2<0) (h:T4 own par ln (j.toNat+1) j=r):false=r:=by
 rw [T4,h1,h2,Zw hx,Zw h0] at h;exact h
theorem MW {own par ln:LI} {j x1:Int} {r:Bool} (h1:gI own j=x1) (hx:¬(x1<1/\¬j∈ln)) (h:T4 own par ln (j.toNat+1) j=r):true=r:=by
 rw [T4,h1,Zs hx] at h;exact h
end Go.Abs
namespace Go.Abs
theorem Qm {L L':Zv} {v:Int} (h:Ut L v=some L'):1<=gI L.own v/\L'.vars=L.vars/\L'.par=L.par/\L'.con=L.con/\L'.fst=L.fst/\L'.tok=L.tok/\L'.own=L.own.set v.toNat (gI L.own v-1):=by
 rw [Ut] at h
 split at h
 ·cases h
 ·cases h;exact ⟨by omega,rfl,rfl,rfl,rfl,rfl,rfl⟩
theorem EB {xs:LI} {v:Int} (h:gI xs v≠0):gI xs v∈xs:=by
 rw [gI] at h ⊢
 cases hx:xs[v.toNat]? with
 | none=>rw [hx] at h;exact absurd rfl h
 | some y=>exact ZT hx
theorem QK {xs:LI} {i:Nat} {a x:Int} (h:x∈xs.set i a):x∈xs∨x=a:=List.mem_or_eq_of_mem_set h
theorem X8.take {ds:List Zd} {L L':Zv} {q v:Int} (hk:X8 ds L q) (h:Ut L v=some L'):X8 ds L' q:=by
 obtain ⟨t1,t2,t3,t4,t5,t6,t7⟩:=Qm h
 obtain ⟨f1,f2,f3,f4,f5⟩:=hk.len
 have hm:=EB (xs:=L.own) (v:=v) om
 refine ⟨⟨by rw [t7,t2,Ub];exact f1,by rw [t3,t2];exact f2,by rw [t4,t2];exact f3,by rw [t5,t2];exact f4,by rw [t6,t2];exact f5⟩,?_,?_,?_,?_⟩
 ·rw [t2,t3];exact hk.down
 ·rw [t2,t4,t5];exact hk.arm
 ·rw [t7];intro x hx
  rcases QK hx with hx|rfl
  ·exact hk.nn x hx
  ·omega
 ·rw [t7];intro x hx
  rcases QK hx with hx|rfl
  ·exact hk.bd x hx
  ·have:=hk.bd _ hm;omega
end Go.Abs
end
namespace Go.Abs
theorem FZ {us:LI}:∀{args tys:LI},TH us args tys=true->args.length=tys.length/\∀a∈args,0<=a/\a<us.length
 | [],[],_=>⟨rfl,by simp⟩
 | [],_::_,h=>by cases h
 | _::_,[],h=>by cases h
 | a::as1,t::ts,h=>by
  rw [TH] at h
  split at h
  ·rename_i h1
   obtain ⟨q1,q2⟩:=FZ h
   refine ⟨by simp [q1],fun x hx=>?_⟩
   rcases Yk.1 hx with rfl|hx
   ·have:=(Ab h1).1;omega
   ·exact q2 x hx
  ·cases h
theorem Ic {n:Zu} {us:LI}:∀{bs:List Z4} {ms:List LI} {f:Bool} {t:Int},0<=t->0<=UR n us bs ms f t ->
  ∀(i:Nat) (b:Z4) (m:LI),bs[i]? = some b->ms[i]? = some m->0<=Xy n (us++m) b
 | [],_,_,_,_,_,i,b,m,hb,_=>by simp at hb
 | b::bs,[],_,_,_,h,_,_,_,_,hm=>by simp at hm
 | b::bs,m::ms,f,t,ht,h,i,c,l,hc,hl=>by
  rw [UR] at h
  split at h
  ·omega
  ·rename_i hq
   have h0:0<=Xy n (us++m) b:=by
    rcases Int.lt_or_le (Xy n (us++m) b) 0 with q|q
    ·exact absurd (.inl q) hq
    ·exact q
   cases i with
   | zero=>simp at hc hl;subst hc hl;exact h0
   | succ i=>exact Ic h0 h i c l (by simpa using hc) (by simpa using hl)
structure Jq (n:Zu) (us:LI) (s:Z3):Prop where
 args:∀a∈s.args,0<=a/\a<us.length
 one:(s.op=7∨s.op=8∨(14<=s.op/\s.op<=17))->∃a,s.args=[a]
 num:s.op=9->0<=s.num/\s.num<n.routines.length
 into:s.into≠0->1<=s.into/\s.into<=us.length
 kids:(s.op=7∨s.op=8)->s.kids.length=(Xn n.decls s.op s.num).length/\(Xn n.decls s.op s.num).length≠0 /\
  ∀(i:Nat) (b:Z4) (m:LI),s.kids[i]? = some b->(Xn n.decls s.op s.num)[i]? = some m->0<=Xy n (us++m) b
theorem S7 {n:Zu} {us:LI} {op num:Int} {kids:List Z4} (h:0<=Qh n us op num kids) :
  kids.length=(Xn n.decls op num).length/\(Xn n.decls op num).length≠0/\∀(i:Nat) (b:Z4) (m:LI),kids[i]? = some b->(Xn n.decls op num)[i]? = some m->0<=Xy n (us++m) b:=by
 rw [Qh] at h
 split at h
 ·omega
 ·rename_i hq
  exact ⟨by omega,by omega,Ic (Int.le_refl 0) h⟩
theorem In {xs:LI} (h:xs.length=1):∃a,xs=[a]:=by
 match xs,h with
 | [a],_=>exact ⟨a,rfl⟩
theorem M7 {n:Zu} {us:LI} {s:Z3} (h:0<=Yv n us s):Jq n us s:=by
 rw [FP] at h
 split at h
 ·omega
 rename_i h0
 have hinto:s.into≠0->1<=s.into/\s.into<=us.length:=by
  intro hi
  have hv:Uu us s.op s.into=true:=by
   cases q:Uu us s.op s.into with
   | true=>rfl
   | false=>exact absurd (.inr (.inl (by rw [q];simp))) h0
  rw [Uu,Zs hi] at hv
  split at hv
  ·cases ha:Vb us (s.into-1) with
   | none=>rw [ha] at hv;cases hv
   | some t=>have:=(Ab ha).1;omega
  ·cases hv
 have mk:(∀a∈s.args,0<=a/\a<us.length)->((s.op=7∨s.op=8∨(14<=s.op/\s.op<=17))->∃a,s.args=[a])->(s.op=9->0<=s.num/\s.num<n.routines.length) ->
   ((s.op=7∨s.op=8)->0<=Qh n us s.op s.num s.kids)->Jq n us s:=fun a b c d=>⟨a,b,c,hinto,fun q=>S7 (d q)⟩
 have ty:∀{tys},W4 us s.args tys=true->s.args.length=tys.length/\∀a∈s.args,0<=a/\a<us.length:=fun q=>FZ q
 split at h
 ·rename_i h1
  split at h
  ·rename_i h2
   exact mk (by rw [List.eq_nil_of_length_eq_zero h2.1];simp) om om om
  ·omega
 split at h
 ·split at h
  ·rename_i h1 h2;exact mk (ty h2).2 om om om
  ·omega
 split at h
 ·split at h
  ·rename_i h1 h2;exact mk (ty h2).2 om om om
  ·omega
 split at h
 ·split at h
  ·rename_i h1 h2;exact mk (ty h2.2).2 om om om
  ·omega
 split at h
 ·split at h
  ·rename_i h1 h2;exact mk (ty h2).2 (fun _=>In (by simpa using (ty h2).1)) om (fun _=>h)
  ·omega
 split at h
 ·split at h
  ·rename_i h1 h2;exact mk (ty h2).2 (fun _=>In (by simpa using (ty h2).1)) om (fun _=>h)
  ·omega
 split at h
 ·rename_i hop
  rw [QP] at h
  cases hr:Vb n.routines s.num with
  | none=>rw [hr] at h;simp at h
  | some r=>
   rw [hr] at h
   simp only at h
   have hn:=(Ab hr).1
   rw [Jb] at h
   split at h
   ·split at h
    ·rename_i h2;exact mk (ty h2).2 om om om
    ·omega
   ·split at h
    ·omega
    ·rename_i h2
     have h3:W4 us s.args (r.params.take (r.params.length-1))=true:=by
      cases q:W4 us s.args (r.params.take (r.params.length-1)) with
      | true=>rfl
      | false=>exact absurd (.inr (.inr (by rw [q];simp))) h2
     exact mk (ty h3).2 om om om
 split at h
 ·rename_i hop
  rcases he:s.args with _|⟨a,_|⟨b,_|⟨c,r⟩⟩⟩
  ·rw [he,show TP n.decls us []=-1 from rfl] at h;omega
  ·rw [he,show TP n.decls us [a]=-1 from rfl] at h;omega
  ·rw [he,TP] at h
   cases ha:Vb us a with
   | none=>rw [ha] at h;simp at h
   | some t=>
    rw [ha] at h
    simp only at h
    split at h
    ·cases hd:n.decls[(t-1).toNat]? with
     | none=>rw [hd] at h;simp at h
     | some d=>
      rw [hd] at h
      simp only at h
      split at h
      ·rename_i h3
       have h4:=(FZ h3).2 b (by simp)
       have h5:=(Ab ha).1
       refine mk (fun x hx=>?_) om om om
       rw [he] at hx
       rcases Yk.1 hx with rfl|hx
       ·omega
       ·rw [Xj.1 hx];exact h4
      ·omega
    ·omega
  ·rw [he,show TP n.decls us (a::b::c::r)=-1 from rfl] at h;omega
 split at h
 ·rename_i hop
  rcases he:s.args with _|⟨a,_|⟨b,r⟩⟩
  ·rw [he,show TT n.decls us s.op []=-1 from rfl] at h;omega
  ·rw [he,TT] at h
   cases ha:Vb us a with
   | none=>rw [ha] at h;simp at h
   | some t=>
    have h5:=(Ab ha).1
    refine mk (fun x hx=>?_) (fun _=>⟨a,he⟩) om om
    rw [he] at hx
    rw [Xj.1 hx];omega
  ·rw [he,show TT n.decls us s.op (a::b::r)=-1 from rfl] at h;omega
 ·omega
def Tk (n:Zu) (us:LI) (s:Z3):LI:=if Xq s.op=true then us++[Yv n us s] else us
theorem GX {L L':Zv} {ln:LI} {v:Int} (h:JA L ln v=some L'):L'.vars=L.vars/\L'.par=L.par/\L'.con=L.con/\L'.fst=L.fst/\L'.tok=L.tok/\L'.own=L.own.set v.toNat (gI L.own v+1):=by
 rw [JA] at h
 split at h
 ·cases h;exact ⟨rfl,rfl,rfl,rfl,rfl,rfl⟩
 ·cases h
theorem DS:∀(fs:LI) (own:LI) (p:Int),(UM own p fs).length=own.length
 | [],own,p=>rfl
 | f::r,own,p=>by rw [UM,DS r];split<;>simp
theorem EA {xs:LI} {q v:Int} (h:∀x∈xs,x<=q) (hq:0<=q):gI xs v<=q:=by
 by_cases h0:gI xs v=0
 ·omega
 ·exact h _ (EB h0)
theorem EC {xs:LI} {v:Int} (h:∀x∈xs,0<=x):0<=gI xs v:=by
 by_cases h0:gI xs v=0
 ·omega
 ·exact h _ (EB h0)
theorem DT:∀(fs:LI) (own:LI) (p:Int),(∀x∈own,0<=x)->∀x∈UM own p fs,0<=x
 | [],own,p,h=>h
 | f::r,own,p,h=>by
  rw [UM]
  refine DT r _ _ fun x hx=>?_
  split at hx
  ·rcases QK hx with hx|rfl
   ·exact h x hx
   ·have:=EC (v:=p) h;omega
  ·exact h x hx
theorem DR:∀(fs:LI) (own:LI) (p q:Int),0<=q->(∀x∈own,x<=q)->∀x∈UM own p fs,x<=q+fs.length
 | [],own,p,q,hq,h=>by intro x hx;have:=h x hx;simp;omega
 | f::r,own,p,q,hq,h=>by
  intro x hx
  rw [UM] at hx
  have:=DR r _ _ (q+1) om (fun y hy=>by
   split at hy
   ·rcases QK hy with hy|rfl
    ·have:=h y hy;omega
    ·have:=EA (v:=p) h hq;omega
   ·have:=h y hy;omega) x hx
  simp only [Yw];omega
theorem IN {ds:List Zd} {L L':Zv} {op v:Int} (h:QN ds L op v=some L'):L'.vars=L.vars/\L'.par=L.par/\L'.con=L.con/\L'.fst=L.fst/\L'.tok.length=L.tok.length /\
  ∃L1,Ut L v=some L1/\L'.own=UM L1.own (gI L.fst v) (ZZ ds (gI L.con v)):=by
 rw [QN] at h
 split at h
 ·cases h
 ·cases ht:Ut L v with
  | none=>rw [ht] at h;cases h
  | some L1=>
   rw [ht] at h
   simp only at h
   obtain ⟨t1,t2,t3,t4,t5,t6,t7⟩:=Qm ht
   cases h
   refine ⟨t2,t3,t4,t5,?_,L1,rfl,rfl⟩
   split
   ·rw [Ub]
   ·rfl
theorem EI {n:Zu} {op num:Int} {ds:List Zd} {q:Int}:∀{as1:LI} {i:Nat} {L L':Zv},X8 ds L q->Tv n op num as1 i L=some L'->X8 ds L' q/\L'.vars=L.vars/\L'.par=L.par/\L'.con=L.con/\L'.fst=L.fst/\L'.tok=L.tok
 | [],i,L,L',hk,h=>by rw [Tv] at h;cases h;exact ⟨hk,rfl,rfl,rfl,rfl,rfl⟩
 | a::r,i,L,L',hk,h=>by
  rw [Tv] at h
  split at h
  ·cases ht:Ut L a with
   | none=>rw [ht] at h;cases h
   | some L1=>
    rw [ht] at h
    obtain ⟨t1,t2,t3,t4,t5,t6,t7⟩:=Qm ht
    obtain ⟨k1,k2,k3,k4,k5,k6⟩:=EI (hk.take ht) h
    exact ⟨k1,k2.trans t2,k3.trans t3,k4.trans t4,k5.trans t5,k6.trans t6⟩
  ·exact EI hk h
theorem X8.le {ds:List Zd} {L:Zv} {q q':Int} (h:X8 ds L q) (hq:q<=q'):X8 ds L q':=⟨h.len,h.down,h.arm,h.nn,fun x hx=>Int.le_trans (h.bd x hx) hq⟩
theorem X8.turn {ds:List Zd} {L L':Zv} {q q':Int} (hk:X8 ds L q) (h1:L'.vars=L.vars) (h2:L'.par=L.par) (h3:L'.con=L.con) (h4:L'.fst=L.fst) (h5:L'.tok.length=L.tok.length) (h6:L'.own.length=L.own.length)
  (h7:∀x∈L'.own,0<=x) (h8:∀x∈L'.own,x<=q'):X8 ds L' q':=by
 obtain ⟨f1,f2,f3,f4,f5⟩:=hk.len
 refine ⟨⟨by rw [h6,h1];exact f1,by rw [h2,h1];exact f2,by rw [h3,h1];exact f3,by rw [h4,h1];exact f4,by rw [h5,h1];exact f5⟩,?_,?_,h7,h8⟩
 ·rw [h1,h2];exact hk.down
 ·rw [h1,h3,h4];exact hk.arm
theorem Aq {xs ys:LI} {j:Int} (h:j.toNat<xs.length):gI (xs++ys) j=gI xs j:=by
 rw [gI,gI,BV h]
theorem Ho {xs:LI} {y:Int} {j:Int} (h:j.toNat=xs.length):gI (xs++[y]) j=y:=by
 rw [gI,h];simp
theorem X8.grow {ds:List Zd} {L:Zv} {q t o p:Int} (hk:X8 ds L q) (hp:p<L.vars.length) (ho:0<=o/\o<=q):X8 ds (L.grow t o p) q:=by
 obtain ⟨f1,f2,f3,f4,f5⟩:=hk.len
 refine ⟨⟨by simp [Zv.grow,f1],by simp [Zv.grow,f2],by simp [Zv.grow,f3],by simp [Zv.grow,f4],by simp [Zv.grow,f5]⟩,?_,?_,?_,?_⟩
 ·intro j hj hl
  simp only [Zv.grow,Yb,BY] at hl ⊢
  by_cases hlt:j<L.vars.length
  ·rw [Aq om];exact hk.down j hj hlt
  ·rw [Ho om];omega
 ·intro x hx hl
  simp only [Zv.grow,Yb,BY] at hl ⊢
  by_cases hlt:x<L.vars.length
  ·rw [Aq om,Aq om]
   intro hc
   have:=hk.arm x hx hlt hc
   exact ⟨this.1,by omega⟩
  ·rw [Ho om];omega
 ·intro x hx
  simp only [Zv.grow,YP,Xj] at hx
  rcases hx with hx|rfl
  ·exact hk.nn x hx
  ·exact ho.1
 ·intro x hx
  simp only [Zv.grow,YP,Xj] at hx
  rcases hx with hx|rfl
  ·exact hk.bd x hx
  ·exact ho.2
theorem Hp {xs:LI} {k:Nat} {a:Int} {j:Int} (h:xs.length<=j.toNat/\j.toNat<xs.length+k):gI (xs++List.replicate k a) j=a:=by
 rw [gI,DD h.1,List.getElem?_replicate,Zw om];rfl
theorem Hq {xs:LI} {x j c:Int} (h:j.toNat=x.toNat) (hl:x.toNat<xs.length):gI (xs.set x.toNat c) j=c:=by
 rw [gI,h,List.getElem?_set_self hl];rfl
theorem Hr {xs:LI} {x j c:Int} (h:j.toNat≠x.toNat):gI (xs.set x.toNat c) j=gI xs j:=by
 rw [gI,gI,List.getElem?_set_ne (fun q=>h q.symm)]
theorem HL {p:Int}:∀(fs:LI) (L:Zv),JI L p fs=⟨L.vars++fs,L.own++List.replicate fs.length 0,L.par++List.replicate fs.length p,L.con++List.replicate fs.length (-1),
  L.fst++List.replicate fs.length (-1),L.tok++List.replicate fs.length (-1)⟩
 | [],L=>by simp [JI]
 | t::r,L=>by rw [JI,HL r];simp [Zv.grow,MD]
theorem Nb {ds:List Zd} {L:Zv} {q x c:Int} (hk:X8 ds L q) (hq:0<=q) (hx:0<=x/\x<L.vars.length):X8 ds (Jt ds L x c) q/\(Jt ds L x c).vars=L.vars++ZZ ds c:=by
 obtain ⟨f1,f2,f3,f4,f5⟩:=hk.len
 rw [Jt,HL]
 refine ⟨⟨⟨by simp [f1],by simp [f2],by simp [f3],by simp [f4],by simp [f5]⟩,?_,?_,?_,?_⟩,rfl⟩
 ·intro j hj hl
  simp only [Yb] at hl ⊢
  by_cases hlt:j<L.vars.length
  ·rw [Aq om];exact hk.down j hj hlt
  ·rw [Hp om];omega
 ·intro y hy hl
  simp only [Yb] at hl ⊢
  by_cases hlt:y<L.vars.length
  ·rw [Aq (by simp;omega),Aq (by simp;omega)]
   by_cases he:y.toNat=x.toNat
   ·rw [Hq he om,Hq he om]
    intro _
    exact ⟨by omega,by simp⟩
   ·rw [Hr he,Hr he]
    intro hc
    have:=hk.arm y hy hlt hc
    exact ⟨this.1,by omega⟩
  ·rw [Hp (by simp;omega)];omega
 ·intro y hy
  simp only [YP,List.mem_replicate] at hy
  rcases hy with hy|⟨_,rfl⟩
  ·exact hk.nn y hy
  ·exact Int.le_refl 0
 ·intro y hy
  simp only [YP,List.mem_replicate] at hy
  rcases hy with hy|⟨_,rfl⟩
  ·exact hk.bd y hy
  ·exact hq
theorem CK {n:Zu} {L:Zv} {q:Int} {s:Z3} {i:Nat} {m:LI} (hk:X8 n.decls L q) (hq:0<=q) (hf:Jq n L.vars s) (hop:s.op=7∨s.op=8) (hm:(Xn n.decls s.op s.num)[i]? = some m) :
  X8 n.decls (U8 n.decls L s.op s.num s.args i) q/\(U8 n.decls L s.op s.num s.args i).vars=L.vars++m:=by
 rw [U8]
 split
 ·rename_i h8
  obtain ⟨a,ha⟩:=hf.one om
  have hb:=hf.args a (by rw [ha];simp)
  have hg:gI s.args 0=a:=by rw [ha];rfl
  rw [Xn,Zs om,Qq] at hm
  cases hc:(ZW n.decls s.num)[i]? with
  | none=>rw [hc] at hm;cases hm
  | some c=>
   rw [hc] at hm
   cases hm
   have hgc:gI (ZW n.decls s.num) (i:Int)=c:=by rw [gI];simp [hc]
   rw [hg,hgc]
   exact Nb hk hq hb
 ·rename_i h8
  rw [Xn,Zw om] at hm
  have:m=[]:=by
   match i,hm with
   | 0,hm=>simpa using hm.symm
   | 1,hm=>simpa using hm.symm
   | i+2,hm=>simp at hm
  subst this
  exact ⟨hk,by simp⟩
theorem M8 {n:Zu}:∀{l:List Z3} {us vs:LI},Ve n l us=some vs->us.length<=vs.length
 | [],us,vs,h=>by rw [Ve] at h;cases h;exact YI _
 | s::r,us,vs,h=>by
  rw [Ve] at h
  split at h
  ·cases h
  ·have:=M8 h
   split at this
   ·simp only [Yb,BY] at this;omega
   ·exact this
theorem HM {n:Zu} {ln:LI} {L L':Zv} {op num into q:Int} {args:LI} {ds:List Zd} (hk:X8 ds L q) (h:Qd n ln L op num into args=some L'):X8 ds L' q/\L'.vars=L.vars:=by
 rw [Qd] at h
 cases ht:Tv n op num args 0 L with
 | none=>rw [ht] at h;cases h
 | some L1=>
  rw [ht] at h
  simp only at h
  obtain ⟨k1,k2,k3,k4,k5,k6⟩:=EI hk ht
  split at h
  ·rw [Bj] at h
   split at h
   ·split at h
    ·cases h
    ·cases h
     exact ⟨k1.turn rfl rfl rfl rfl (by simp) rfl k1.nn k1.bd,k2⟩
   ·cases h;exact ⟨k1,k2⟩
  ·cases h
theorem O1 {L L':Zv} {m:Nat} (h:Qz L m=some L'):L'=L.take m/\Ji (L.own.drop m) (L.tok.drop m)=true:=by
 rw [Qz] at h
 split at h
 ·rename_i hz;cases h;exact ⟨rfl,hz⟩
 ·cases h
theorem FY {r:Option Zv} {f:Zv->Option Zv} {L:Zv} (h:BP r f=some L):∃L1,r=some L1/\f L1=some L:=by
 cases r with
 | none=>cases h
 | some L1=>exact ⟨L1,rfl,h⟩
theorem Ij (n:Zu) (hn:X5 n) (ln:LI):∀m:Nat,
  (∀(s:Z3) (L L':Zv) (q:Int),s.sz<=m->X8 n.decls L q->0<=q->0<=Yv n L.vars s->UX n ln L s=some L'->X8 n.decls L' (q+4*s.sz)/\L'.vars=Tk n L.vars s) /\
  (∀(b:Z4) (L O:Zv) (q:Int) (k:Nat),b.sz<=m->X8 n.decls L q->0<=q->0<=Xy n L.vars b->k<=L.vars.length->WV n ln L k b=some O ->
   (O.own.length=k/\O.tok.length=k/\(∀x∈O.own,0<=x/\x<=q+4*b.sz))/\VT O/\O.vars.length=k):=by
 intro m
 induction m with
 | zero=>exact ⟨fun s _ _ _ h=>by have:=s.sz_pos;omega,fun s _ _ _ _ h=>by have:=s.sz_pos;omega⟩
 | succ m ih=>
  have hs:∀(s:Z3) (L L':Zv) (q:Int),s.sz<=m+1->X8 n.decls L q->0<=q->0<=Yv n L.vars s->UX n ln L s=some L'->X8 n.decls L' (q+4*s.sz)/\L'.vars=Tk n L.vars s:=by
   intro s L L' q YZ hk hq hty h
   have hp:=s.sz_pos
   have hf:=M7 hty
   obtain ⟨f1,f2,f3,f4,f5⟩:=hk.len
   rw [M5] at h
   unfold QG at h
   cases hpk:Qj n ln L s.op s.num s.into s.args (Q1 n ln L s.op s.num s.args s.kids) with
   | none=>rw [hpk] at h;cases h
   | some L1=>
    rw [hpk] at h
    simp only at h
    have key:X8 n.decls L1 (q+4*s.sz)/\L1.vars=L.vars:=by
     rw [Qj] at hpk
     split at hpk
     ·obtain ⟨d1,d2,d3,d4,d5,d6⟩:=GX hpk
      refine ⟨hk.turn d1 d2 d3 d4 (by rw [d5]) (by rw [d6,Ub]) ?_ ?_,d1⟩
      ·rw [d6];intro x hx
       rcases QK hx with hx|rfl
       ·exact hk.nn x hx
       ·have:=EC (v:=gI s.args 0) hk.nn;omega
      ·rw [d6];intro x hx
       rcases QK hx with hx|rfl
       ·have:=hk.bd x hx;omega
       ·have:=EA (v:=gI s.args 0) hk.bd hq;omega
     split at hpk
     ·exact ⟨(hk.take hpk).le om,(Qm hpk).2.1⟩
     split at hpk
     ·rename_i hop
      obtain ⟨d1,d2,d3,d4,d5,Lt,ht,d6⟩:=IN hpk
      have hkt:=hk.take ht
      have h3:=Vs hn.decls (gI L.con (gI s.args 0))
      refine ⟨hk.turn d1 d2 d3 d4 d5 ?_ ?_ ?_,d1⟩
      ·rw [d6,DS,(Qm ht).2.2.2.2.2.2,Ub]
      ·rw [d6];exact DT _ _ _ hkt.nn
      ·rw [d6];intro x hx
       have:=DR _ _ _ q hq hkt.bd x hx;omega
     split at hpk
     ·rename_i hop
      split at hpk
      ·cases hpk
      ·cases hks:s.kids with
       | nil=>rw [hks,Q1] at hpk;cases hpk
       | cons b bs=>
        rw [hks,Q1] at hpk
        unfold JP at hpk
        cases hb:WV n ln (U8 n.decls L s.op s.num s.args 0) L.vars.length b with
        | none=>rw [hb] at hpk;cases hpk
        | some one=>
         rw [hb] at hpk
         simp only at hpk
         split at hpk
         ·cases hpk
          obtain ⟨q1,q2,q3⟩:=hf.kids hop
          have hks0:s.kids[0]? = some b:=by rw [hks];rfl
          obtain ⟨a0,ha0⟩:=Bi (xs:=Xn n.decls s.op s.num) (j:=0) om
          obtain ⟨k1,k2⟩:=CK hk hq hf hop ha0
          have hbz:=VX hks0
          obtain ⟨⟨r1,r2,r3⟩,_⟩:=ih.2 b _ one q L.vars.length om k1 hq (by rw [k2];exact q3 0 b a0 hks0 ha0) (by rw [k2];simp) hb
          refine ⟨hk.turn rfl rfl rfl rfl (by simp only;omega) (by simp only;omega) (fun x hx=>(r3 x hx).1) (fun x hx=>?_),rfl⟩
          have:=(r3 x hx).2;omega
         ·cases hpk
     ·obtain ⟨k1,k2⟩:=HM hk hpk
      exact ⟨k1.le om,k2⟩
    split at h
    ·rename_i hd
     cases h
     refine ⟨key.1.grow om ?_,by rw [Tk,Zw hd];simp [Zv.grow,key.2]⟩
     split<;>omega
    ·rename_i hd
     cases h
     exact ⟨key.1,by rw [Tk,Zs hd];exact key.2⟩
  refine ⟨hs,?_⟩
  intro b L O q k YZ hk hq hty hkl h
  have hsteps:∀(l:List Z3) (L L':Zv) (q:Int) (vs:LI),Y5 l<=m->X8 n.decls L q->0<=q->Ve n l L.vars=some vs->Ql n ln L l=some L'->X8 n.decls L' (q+4*Y5 l)/\L'.vars=vs:=by
   intro l
   induction l with
   | nil=>intro L L' q vs _ hk _ h1 h2;rw [Ve] at h1;rw [Ql] at h2;cases h1;cases h2;exact ⟨by simpa [Y5] using hk,rfl⟩
   | cons s r ihr=>
    intro L L' q vs hz hk hq h1 h2
    rw [Y5] at hz
    rw [Ql] at h2
    obtain ⟨L1,e1,e2⟩:=FY h2
    rw [Ve] at h1
    split at h1
    ·cases h1
    ·rename_i h0
     obtain ⟨k1,k2⟩:=hs s L L1 q om hk hq om e1
     obtain ⟨k3,k4⟩:=ihr L1 L' (q+4*s.sz) vs om k1 om (by rw [k2];exact h1) e2
     exact ⟨k3.le (by rw [Y5];omega),k4⟩
  have hbz:=b.sz_eq
  rw [DX] at h
  obtain ⟨L1,e1,e2⟩:=FY h
  rw [DY] at hty
  cases hv:Ve n b.steps L.vars with
  | none=>rw [hv] at hty;simp at hty
  | some vs=>
   obtain ⟨k1,k2⟩:=hsteps b.steps L L1 q vs om hk hq hv e1
   have hlen:=M8 hv
   rw [QF] at e2
   obtain ⟨L2,e3,e4⟩:=FY e2
   have k3:X8 n.decls L2 (q+4*Y5 b.steps)/\L2.vars=L1.vars:=by
    split at e3
    ·exact ⟨k1.take e3,(Qm e3).2.1⟩
    ·cases e3;exact ⟨k1,rfl⟩
   obtain ⟨rfl,_⟩:=O1 e4
   obtain ⟨g1,g2,g3,g4,g5⟩:=k3.1.len
   have hl2:L2.vars.length=vs.length:=by rw [k3.2,k2]
   refine ⟨⟨by simp [Zv.take];omega,by simp [Zv.take];omega,fun x hx=>?_⟩,⟨by simp [Zv.take];omega,by simp [Zv.take];omega,by simp [Zv.take];omega,by simp [Zv.take];omega,by simp [Zv.take];omega⟩,by simp [Zv.take];omega⟩
   have hx':x∈L2.own:=To hx
   have:=k3.1.nn x hx'
   have:=k3.1.bd x hx'
   omega
theorem M6 {n:Zu} (hn:X5 n) {ln:LI} {s:Z3} {L L':Zv} {q:Int} (hk:X8 n.decls L q) (hq:0<=q) (hty:0<=Yv n L.vars s) (h:UX n ln L s=some L'):X8 n.decls L' (q+4*s.sz)/\L'.vars=Tk n L.vars s:=
 (Ij n hn ln s.sz).1 s L L' q (YI _) hk hq hty h
theorem Gv {n:Zu} (hn:X5 n) {ln:LI} {b:Z4} {L O:Zv} {q:Int} {k:Nat} (hk:X8 n.decls L q) (hq:0<=q) (hty:0<=Xy n L.vars b) (hkl:k<=L.vars.length) (h:WV n ln L k b=some O) :
  O.own.length=k/\O.tok.length=k/\(∀x∈O.own,0<=x/\x<=q+4*b.sz):=
 ((Ij n hn ln b.sz).2 b L O q k (YI _) hk hq hty hkl h).1
theorem BH {n:Zu} (hn:X5 n) {ln:LI} {s:Z3} {L L1:Zv} {q:Int} (hk:X8 n.decls L q) (hq:0<=q) (hf:Jq n L.vars s)
  (hpk:Qj n ln L s.op s.num s.into s.args (Q1 n ln L s.op s.num s.args s.kids)=some L1):X8 n.decls L1 (q+4*s.sz)/\L1.vars=L.vars:=by
 have hp:=s.sz_pos
 obtain ⟨f1,f2,f3,f4,f5⟩:=hk.len
 rw [Qj] at hpk
 split at hpk
 ·obtain ⟨d1,d2,d3,d4,d5,d6⟩:=GX hpk
  refine ⟨hk.turn d1 d2 d3 d4 (by rw [d5]) (by rw [d6,Ub]) ?_ ?_,d1⟩
  ·rw [d6];intro x hx
   rcases QK hx with hx|rfl
   ·exact hk.nn x hx
   ·have:=EC (v:=gI s.args 0) hk.nn;omega
  ·rw [d6];intro x hx
   rcases QK hx with hx|rfl
   ·have:=hk.bd x hx;omega
   ·have:=EA (v:=gI s.args 0) hk.bd hq;omega
 split at hpk
 ·exact ⟨(hk.take hpk).le om,(Qm hpk).2.1⟩
 split at hpk
 ·rename_i hop
  obtain ⟨d1,d2,d3,d4,d5,Lt,ht,d6⟩:=IN hpk
  have hkt:=hk.take ht
  have h3:=Vs hn.decls (gI L.con (gI s.args 0))
  refine ⟨hk.turn d1 d2 d3 d4 d5 ?_ ?_ ?_,d1⟩
  ·rw [d6,DS,(Qm ht).2.2.2.2.2.2,Ub]
  ·rw [d6];exact DT _ _ _ hkt.nn
  ·rw [d6];intro x hx
   have:=DR _ _ _ q hq hkt.bd x hx;omega
 split at hpk
 ·rename_i hop
  split at hpk
  ·cases hpk
  ·cases hks:s.kids with
   | nil=>rw [hks,Q1] at hpk;cases hpk
   | cons b bs=>
    rw [hks,Q1] at hpk
    unfold JP at hpk
    cases hb:WV n ln (U8 n.decls L s.op s.num s.args 0) L.vars.length b with
    | none=>rw [hb] at hpk;cases hpk
    | some one=>
     rw [hb] at hpk
     simp only at hpk
     split at hpk
     ·cases hpk
      obtain ⟨q1,q2,q3⟩:=hf.kids hop
      have hks0:s.kids[0]? = some b:=by rw [hks];rfl
      obtain ⟨a0,ha0⟩:=Bi (xs:=Xn n.decls s.op s.num) (j:=0) om
      obtain ⟨k1,k2⟩:=CK hk hq hf hop ha0
      have hbz:=VX hks0
      obtain ⟨r1,r2,r3⟩:=Gv hn k1 hq (by rw [k2];exact q3 0 b a0 hks0 ha0) (by rw [k2];simp) hb
      refine ⟨hk.turn rfl rfl rfl rfl (by simp only;omega) (by simp only;omega) (fun x hx=>(r3 x hx).1) (fun x hx=>?_),rfl⟩
      have:=(r3 x hx).2;omega
     ·cases hpk
 ·obtain ⟨k1,k2⟩:=HM hk hpk
  exact ⟨k1.le om,k2⟩
end Go.Abs
section
namespace Go.Abs
theorem Nc {ds:List Zd} {op num:Int} {i:Nat} {m:LI} (h8:op=8) (h:(Xn ds op num)[i]? = some m):∃c,(ZW ds num)[i]? = some c/\m=ZZ ds c:=by
 rw [Xn,Zs om,Qq] at h
 cases hc:(ZW ds num)[i]? with
 | none=>rw [hc] at h;cases h
 | some c=>rw [hc] at h;cases h;exact ⟨c,rfl,rfl⟩
theorem S0 {ds:List Zd} {L:Zv} {op num x c:Int} {args:LI} {i:Nat} (h8:op=8) (hx:args[0]? = some x) (hc:(ZW ds num)[i]? = some c):U8 ds L op num args i=Jt ds L x c:=by
 have h1:gI args 0=x:=by rw [gI];simp [hx]
 have h2:gI (ZW ds num) (i:Int)=c:=by rw [gI];simp [hc]
 rw [U8,Zw h8,h1,h2]
theorem S1 {ds:List Zd} {L:Zv} {op num:Int} {args:LI} {i:Nat} (h8:¬op=8):U8 ds L op num args i=L:=by rw [U8,Zs h8]
theorem S5 {n:Zu} {ln:LI} {L:Zv} {op num:Int} {args:LI} {kids:List Z4} {kb:Z4} (h:kids[0]? = some kb) :
  Q1 n ln L op num args kids=JP L (WV n ln (U8 n.decls L op num args 0) L.vars.length kb) fun one=>Qg n ln L op num args one (kids.drop 1) 1:=by
 cases kids with
 | nil=>simp at h
 | cons b bs=>simp at h;subst h;rw [Q1];rfl
theorem S6 {n:Zu} {ln:LI} {L one:Zv} {op num:Int} {args:LI} {kids:List Z4} {kb:Z4} {k:Nat} (h:kids[k]? = some kb) :
  Qg n ln L op num args one (kids.drop k) k=Dh one (WV n ln (U8 n.decls L op num args k) L.vars.length kb) (Qg n ln L op num args one (kids.drop (k+1)) (k+1)):=by
 rw [Ye h,Qg]
def Jv (n:Zu) (ln:LI) (L:Zv) (s:Z3):Option Zv:=
 if s.op=8/\¬VC L ln (gI s.args 0)=true then none else Q1 n ln L s.op s.num s.args s.kids
theorem ND {n:Zu} {ln:LI} {L:Zv} {s:Z3} {kb:Z4} (h:¬(s.op=8/\¬VC L ln (gI s.args 0)=true)) (hk:s.kids[0]? = some kb) :
  Jv n ln L s=JP L (WV n ln (U8 n.decls L s.op s.num s.args 0) L.vars.length kb) fun one=>Qg n ln L s.op s.num s.args one (s.kids.drop 1) 1:=by
 rw [Jv,Zs h,S5 hk]
theorem Kh {xs:LI} {x:Int} (h:xs[0]? = some x):gI xs 0=x:=by rw [gI];simp [h]
end Go.Abs
namespace Go.Abs
theorem VT.grow {L:Zv} {t o p:Int} (h:VT L):VT (L.grow t o p):=by
 obtain ⟨f1,f2,f3,f4,f5⟩:=h
 exact ⟨by simp [Zv.grow,f1],by simp [Zv.grow,f2],by simp [Zv.grow,f3],by simp [Zv.grow,f4],by simp [Zv.grow,f5]⟩
theorem VT.arm {L:Zv} {i j:Nat} {c d:Int} (h:VT L):VT ⟨L.vars,L.own,L.par,L.con.set i c,L.fst.set j d,L.tok⟩:=by
 obtain ⟨f1,f2,f3,f4,f5⟩:=h
 exact ⟨f1,f2,by simp [f3],by simp [f4],f5⟩
end Go.Abs
namespace Go.Abs
theorem Ia {n:Zu} (hn:X5 n) {ln:LI} {L O:Zv} {q:Int} {s:Z3} {i:Nat} {kb:Z4} {m:LI} (hk:X8 n.decls L q) (hq:0<=q) (hf:Jq n L.vars s) (hop:s.op=7∨s.op=8)
  (_:s.kids[i]? = some kb) (harm:(Xn n.decls s.op s.num)[i]? = some m) (hbt:0<=Xy n (L.vars++m) kb) (h:WV n ln (U8 n.decls L s.op s.num s.args i) L.vars.length kb=some O) :
  O.own.length=L.vars.length/\O.tok.length=L.vars.length:=by
 obtain ⟨k1,k2⟩:=CK hk hq hf hop harm
 obtain ⟨r1,r2,_⟩:=Gv hn k1 hq (by rw [k2];exact hbt) (by rw [k2];simp) h
 exact ⟨r1,r2⟩
theorem Z1b {one two:Zv} {r:Bool} (h:¬(¬one.own=two.own∨¬one.tok=two.tok)):Dh one (some two) r=r:=Zw ⟨AS.1 fun q=>h (.inl q),AS.1 fun q=>h (.inr q)⟩
theorem Z1a {one two:Zv} {r:Bool} (h:¬one.own=two.own∨¬one.tok=two.tok):Dh one (some two) r=false:=Zs fun q=>h.elim (fun z=>z q.1) fun z=>z q.2
theorem Sx {L one:Zv} {f:Zv->Bool} (h:f one=true):JP L (some one) f=some ⟨L.vars,one.own,L.par,L.con,L.fst,one.tok⟩:=Zw h
theorem Ip {L one:Zv} {f:Zv->Bool} (h:f one=false):JP L (some one) f=none:=Zs (by rw [h];simp)
end Go.Abs
namespace Go.Abs
section
variable {n:Zu} {ln:LI} {L:Zv} {s:Z3}
abbrev QO (n:Zu) (ln:LI) (L:Zv) (s:Z3):Option Zv:=Qj n ln L s.op s.num s.into s.args (Q1 n ln L s.op s.num s.args s.kids)
theorem IR {x:Int} (h:s.op=14) (hx:gI s.args 0=x):QO n ln L s=JA L ln x:=hx▸Zw h
theorem IS {x:Int} (h:s.op=15) (hx:gI s.args 0=x):QO n ln L s=Ut L x:=by rw [<-hx,QO,Qj,Zs om,Zw h]
theorem IT {x:Int} (h:s.op=16∨s.op=17) (hx:gI s.args 0=x):QO n ln L s=QN n.decls L s.op x:=by rw [<-hx,QO,Qj,Zs om,Zs om,Zw h]
theorem IU (h:s.op=7∨s.op=8):QO n ln L s=Jv n ln L s:=by rw [QO,Qj,Zs om,Zs om,Zs om,Zw h,Jv]
theorem IV (h1:¬s.op=14) (h2:¬s.op=15) (h3:¬(s.op=16∨s.op=17)) (h4:¬(s.op=7∨s.op=8)):QO n ln L s=Qd n ln L s.op s.num s.into s.args:=by
 rw [QO,Qj,Zs h1,Zs h2,Zs h3,Zs h4]
theorem Ok {v:Int} (h:¬VC L ln v=true):JA L ln v=none:=Zs h
theorem Ol {v x:Int} (h:¬¬VC L ln v=true) (hx:gI L.own v=x):JA L ln v=some ⟨L.vars,L.own.set v.toNat (x+1),L.par,L.con,L.fst,L.tok⟩:=by rw [JA,Zw (AS.1 h),hx]
theorem VO (n:Zu) (ln:LI) (L:Zv) (s:Z3):UX n ln L s=QG L s.op (Yv n L.vars s) (QO n ln L s):=M5 n ln L s
theorem VH {X:Zv} {op t:Int} (h:Xq op=true/\t≠0):QG L op t (some X)=some (X.grow t 1 (-1)):=by
 unfold QG;simp only [h.1,↓reduceIte];rw [Zw h.2]
theorem VI {X:Zv} {op t:Int} (h:¬(Xq op=true/\t≠0)) (h2:Xq op=true):QG L op t (some X)=some (X.grow 0 0 (-1)):=by
 have ht:t=0:=AS.1 fun q=>h ⟨h2,q⟩
 subst ht
 unfold QG;simp only [h2,↓reduceIte];rfl
theorem VJ {X:Zv} {op t:Int} (h:¬Xq op=true):QG L op t (some X)=some X:=by
 unfold QG;simp only [Zs h]
end
end Go.Abs
namespace Go.Abs
theorem Gw {n:Zu} {us:LI} {b:Z4} (h:0<=Xy n us b):∃vs t,Ve n b.steps us=some vs/\Vb vs b.result=some t/\0<=t:=by
 rw [DY] at h
 cases hv:Ve n b.steps us with
 | none=>rw [hv] at h;simp at h
 | some vs=>
  rw [hv] at h
  simp only at h
  cases ha:Vb vs b.result with
  | none=>rw [ha] at h;simp at h
  | some t=>rw [ha] at h;exact ⟨vs,t,rfl,ha,h⟩
theorem M9 {n:Zu} {us vs:LI} {s:Z3} {r:List Z3} (h:Ve n (s::r) us=some vs):0<=Yv n us s/\Ve n r (Tk n us s)=some vs:=by
 rw [Ve] at h
 split at h
 ·cases h
 ·exact ⟨by omega,h⟩
theorem Lv (n:Zu) (us:LI) (s:Z3):us.length<=(Tk n us s).length/\(Tk n us s).length<=us.length+s.sz:=by
 have:=s.sz_pos
 rw [Tk];split
 ·simp only [Yb,BY];omega
 ·omega
end Go.Abs
namespace Go.Abs
theorem OF {X L:Zv} {m:Nat} {r x:Int} (hg:gI L.vars r=x) (h:x≠0) (ht:Ut L r=some X):QF m r L=Qz X m:=by rw [QF,hg,Zw h,ht];rfl
theorem OE {L:Zv} {m:Nat} {r x:Int} (hg:gI L.vars r=x) (h:x≠0) (ht:Ut L r=none):QF m r L=none:=by rw [QF,hg,Zw h,ht];rfl
theorem B8 {L:Zv} {m:Nat} {r x:Int} (hg:gI L.vars r=x) (h:¬x≠0):QF m r L=Qz L m:=by rw [QF,hg,Zs h];rfl
end Go.Abs
namespace Go.Abs
theorem IQ {ds:List Zd} {lent:LI}:∀{ps:LI} {i:Nat} {L:Zv},X8 ds L 1->X8 ds (Ku lent ps i L) 1/\(Ku lent ps i L).vars=L.vars++ps
 | [],i,L,hk=>⟨hk,by simp [Ku]⟩
 | t::r,i,L,hk=>by
  rw [Ku]
  obtain ⟨k1,k2⟩:=IQ (lent:=lent) (ps:=r) (i:=i+1) (hk.grow (t:=t) (o:=if t≠0/\¬(i:Int)∈lent then 1 else 0) (p:=-1) om (by split<;>omega))
  exact ⟨k1,by rw [k2];simp [Zv.grow]⟩
theorem SB (ds:List Zd) (r:Y1):X8 ds (Q4 r) 1/\(Q4 r).vars=r.params:=by
 have h:X8 ds (⟨[],[],[],[],[],[]⟩:Zv) 1:=⟨⟨rfl,rfl,rfl,rfl,rfl⟩,fun j h1 h2=>by simp at h2;omega,fun j h1 h2=>by simp at h2;omega,by simp,by simp⟩
 obtain ⟨k1,k2⟩:=IQ (lent:=r.lent) (ps:=r.params) (i:=0) h
 exact ⟨k1,by rw [Q4,k2];rfl⟩
end Go.Abs
namespace Go.Abs
theorem Le {n:Zu}:∀{l:List Y1},Kx n l=true->∀r∈l,¬Xz r.body<0/\Xy n r.params r.body=r.result
 | [],_,r,h=>by simp at h
 | a::l,h,r,hr=>by
  rw [Kx] at h
  split at h
  ·rename_i h1
   rcases Yk.1 hr with rfl|hr
   ·exact h1
   ·exact Le h r hr
  ·cases h
theorem Z3y {n:Zu} (hz:KJ n) (h:TI n=true):X5 n/\∀r∈n.routines,0<=Xy n r.params r.body:=by
 simp only [TI,W5] at h
 refine ⟨It hz h.1,fun r hr=>?_⟩
 rw [(Le h.2 r hr).2]
 have h1:=h.1
 simp only [QL,Qn,W5] at h1
 have:=LE h1.2.1.2.2.1 (Ur r) (W6.2 ⟨r,hr,rfl⟩)
 simp only [JV,W5,decide_eq_true_eq,Ur] at this
 exact (of_decide_eq_true this.2.2).1
end Go.Abs
end
section
namespace Go.Abs
end Go.Abs
namespace Go.Abs
end Go.Abs
namespace Go.Abs
end Go.Abs
end
section
namespace Go.Abs
end Go.Abs
namespace Go.Abs
end Go.Abs
namespace Go.Abs
end Go.Abs
end
section
namespace Go.Abs
structure Ge where
 pms:LI
 lnt:LI
 res:Int
end Go.Abs
namespace Go.Abs
section
variable {ds:List Zd} {fs:List Ge} {x:Ge}
end
end Go.Abs
end
section
namespace Go.Abs
structure NTy (n:Zu):Prop where
 result:∀r∈n.routines,0<=r.result
 params:∀r∈n.routines,∀p∈r.params,0<=p
 decl:∀d∈n.decls,d.cons.length=0->0<=d.frm/\0<=d.to_
 fields:∀c,∀f∈ZZ n.decls c,0<=f
end Go.Abs
namespace Go.Abs
end Go.Abs
namespace Go.Abs
end Go.Abs
namespace Go.Abs
section
variable {S:Option Int} {c:Prop} [Decidable c] {v:Int} {b:Bool}
end
section
variable {n:Zu} {op num:Int} {ts:LI}
end
end Go.Abs
end
namespace Go.Abs
mutual
def Z3.rng:Z3->Prop
 | .mk _ num _ _ kids=>(-9223372036854775808<=num/\num<=9223372036854775807)/\Qx kids
def Z4.rng:Z4->Prop
 | .mk steps _=>QS steps
def QS:List Z3->Prop
 | []=>True
 | s::r=>s.rng/\QS r
def Qx:List Z4->Prop
 | []=>True
 | b::r=>b.rng/\Qx r
end
theorem Z3.rng_eq (s:Z3):s.rng=((-9223372036854775808<=s.num/\s.num<=9223372036854775807)/\Qx s.kids):=by cases s;rw [Z3.rng];rfl
theorem Z4.rng_eq (b:Z4):b.rng=QS b.steps:=by cases b;rw [Z4.rng];rfl
section
variable {n:Zu} {us ts:LI} {s:Z3}
end
theorem Z37 {n:Zu} {us:LI} {s:Z3} (h:0<=Yv n us s):(0<=s.op/\s.op<=11)∨(14<=s.op/\s.op<=17):=by
 rw [FP] at h
 by_cases hq:(0<=s.op/\s.op<=11)∨(14<=s.op/\s.op<=17)
 ·exact hq
 ·exfalso
  split at h
  ·omega
  rw [Zs om,Zs om,Zs om,Zs om,Zs om,Zs om,Zs om,Zs om,Zs om] at h
  omega
theorem GW {n:Zu} {us:LI} {s:Z3} (h:0<=Yv n us s):Xq s.op=!YA s.op:=by
 have:=Z37 h
 rw [Xq,YA,Xi];simp;omega

end Go.Abs
section
namespace Go.Abs
structure A6 where
 mat:Int
 fst:Int
 fds:LI
 chg:Bool
def IA:List A6->Int->Option A6
 | [],_=>none
 | a::r,v=>match IA r v with
  | some x=>some x
  | none=>if a.mat=v then some a else none
structure Z4i (ds:List Zd) (L:Zv) (as1:List A6):Prop where
 rng:∀a∈as1,0<=a.mat/\a.mat<a.fst/\a.fst+a.fds.length<=L.vars.length
 par:∀a∈as1,∀v:Int,a.fst<=v->v<a.fst+a.fds.length->gI L.par v=a.mat
 non:∀v:Int,0<=v->v<L.vars.length->0<=gI L.par v->∃a∈as1,a.fst<=v/\v<a.fst+a.fds.length
 off:∀v:Int,0<=v->v<L.vars.length->match IA as1 v with
  | none=>gI L.con v<0
  | some a=>0<=gI L.con v/\a.fst=gI L.fst v/\a.fds=ZZ ds (gI L.con v)
end Go.Abs
namespace Go.Abs
end Go.Abs
namespace Go.Abs
end Go.Abs
namespace Go.Abs
section
variable {n:Zu} {ln:LI} {L:Zv} {op v:Int} {am:List A6} {a:A6}
end
end Go.Abs
namespace Go.Abs
end Go.Abs
end
section
namespace Go.Abs
section
variable {n:Zu} {us:LI} {op num:Int}
end
end Go.Abs
namespace Go.Abs
end Go.Abs
namespace Go.Abs
end Go.Abs
end
section
namespace Go.Abs
section
variable {n:Zu} {ln:LI}
end
end Go.Abs
namespace Go.Abs
end Go.Abs
namespace Go.Abs
end Go.Abs
namespace Go.Abs
section
variable {n:Zu} {ln:LI} {L:Zv} {s:Z3}
end
end Go.Abs
namespace Go.Abs
end Go.Abs
namespace Go.Abs
end Go.Abs
namespace Go.Abs
end Go.Abs
end
section
namespace Go.Abs
end Go.Abs
namespace Go.Abs
end Go.Abs
namespace Go.Abs
end Go.Abs
end
section
namespace Go.Abs
end Go.Abs
namespace Go.Abs
end Go.Abs
namespace Go.Abs
end Go.Abs
namespace Go.Abs
end Go.Abs
end
namespace Go.Abs
def Zl (op v:Int):Z3:=.mk op 0 0 [v] []
def Vv (ds:List Zd) (num:Int) (k:Nat):LI:=((ZW ds num).map (ZZ ds))[k]?.getD []
section
variable {ds:List Zd} {am:List A6} {m:Nat}
end
theorem Hc {ds:List Zd} {num:Int} {k:Nat} {m:LI} (h:((ZW ds num).map (ZZ ds))[k]? = some m):Vv ds num k=m:=by rw [Vv,h];rfl
theorem OM {ds:List Zd} (hd:Wi ds) (num:Int) (k:Nat):(Vv ds num k).length<=3:=by
 rw [Vv,Qq]
 cases (ZW ds num)[k]? with
 | none=>simp
 | some c=>exact Vs hd c
theorem FM {xs:List Z3} {k:Nat} {s:Z3} (h:xs[k]? = some s):Y5 (xs.take (k+1))=Y5 (xs.take k)+s.sz:=by
 induction xs generalizing k with
 | nil=>simp at h
 | cons t r ih=>
  cases k with
  | zero=>simp at h;subst h;simp [Y5]
  | succ k=>rw [A3,A3,Y5,Y5,ih (by simpa using h)];omega
theorem TF (xs:List Z3) (k:Nat):Y5 (xs.take k)<=Y5 xs:=by
 induction xs generalizing k with
 | nil=>simp
 | cons t r ih=>
  cases k with
  | zero=>simp [Y5]
  | succ k=>have:=ih k;rw [A3,Y5,Y5];omega
theorem Z1h {n:Zu} {us:LI} {s:Z3} (g:0<=Yv n us s) (h:YA s.op=true):Tk n us s=us:=by rw [Tk,GW g,h];rfl
theorem Z1g {n:Zu} {us:LI} {s:Z3} (g:0<=Yv n us s) (h:¬YA s.op=true):(Tk n us s).length=us.length+1:=by
 rw [Tk,GW g,BU.2 h];simp
theorem Z1i {n:Zu} {us:LI} {s:Z3} (g:0<=Yv n us s):(Tk n us s).length=if YA s.op=true then us.length else us.length+1:=by
 split
 ·rw [Z1h g (by assumption)]
 ·exact Z1g g (by assumption)

theorem U0:∀(xs ys:List Z3),Y5 (xs++ys)=Y5 xs+Y5 ys
 | [],ys=>by simp [Y5]
 | x::r,ys=>by rw [Qp,Y5,Y5,U0 r ys];omega
theorem Cc (op v:Int):(Zl op v).sz=2:=by rw [Zl,Z3.sz];simp [YH]
theorem FJ (op:Int):∀l:LI,Y5 (l.map (Zl op))=2*l.length
 | []=>by simp [Y5]
 | x::r=>by rw [VR,Y5,Cc,FJ op r,Yw];omega
section
variable {ds:List Zd} (hd:Wi ds)
include hd
end
section
variable {ds:List Zd} {cons first:LI}
end
section
variable {ds:List Zd} (hd:Wi ds)
include hd
end
def Xh:List Z3->Nat
 | []=>0
 | s::r=>if s.op=14∨s.op=15 then Xh r+1 else 0
def XQ (op:Int):List Z3->LI
 | []=>[]
 | s::r=>if s.op=op then gI s.args 0::XQ op r else XQ op r
def Vx:LI->Int->LI->LI->LI × LI
 | [],_,D,R=>(D,R)
 | f::r,q,D,R=>if f≠0/\q∈D then Vx r (q+1) (D.erase q) R else if f≠0 then Vx r (q+1) D (R++[q]) else Vx r (q+1) D R
def Kt (xs:List Z3) (x:Int) (fs:LI) (q:Int):LI × LI:=Vx fs q (XQ 14 (xs.take (Xh xs))) ((XQ 15 (xs.take (Xh xs))).erase x)
def KP (xs:List Z3) (x:Int) (fs:LI) (q:Int):List Z3:=
 if x∈XQ 15 (xs.take (Xh xs))/\fs.length≠0 then (Kt xs x fs q).1.map (Zl 14)++[Zl 16 x]++(Kt xs x fs q).2.map (Zl 15)++xs.drop (Xh xs) else xs
def Qt (b:Z4) (x:Int) (fs:LI) (q:Int):Z4:=.mk (KP b.steps x fs q) b.result
theorem Da:∀xs:List Z3,Xh xs<=xs.length
 | []=>YI _
 | s::r=>by have:=Da r;rw [Xh];split<;>simp<;>omega
theorem Lm:∀{xs:List Z3} {s:Z3},s∈xs.take (Xh xs)->s.op=14∨s.op=15
 | [],s,h=>by simp [Xh] at h
 | t::r,s,h=>by
  rw [Xh] at h
  split at h
  ·rename_i q
   rw [A3] at h
   rcases Yk.1 h with rfl|h
   ·exact q
   ·exact Lm h
  ·simp at h
theorem DV:∀xs:List Z3,(XQ 14 xs).length+(XQ 15 xs).length<=xs.length
 | []=>by simp [XQ]
 | s::r=>by
  have:=DV r
  rw [XQ,XQ]
  by_cases h:s.op=14
  ·rw [Zw h,Zs om];simp;omega
  ·rw [Zs h];split<;>simp<;>omega
theorem D4:∀(fs:LI) (q:Int) (D R:LI),(Vx fs q D R).1.length+(Vx fs q D R).2.length<=D.length+R.length+fs.length
 | [],q,D,R=>by simp [Vx]
 | f::r,q,D,R=>by
  rw [Vx,Yw]
  split
  ·have:=D4 r (q+1) (D.erase q) R
   have h2:=List.length_erase_le (a:=q) (l:=D)
   omega
  ·split
   ·have:=D4 r (q+1) D (R++[q])
    simp only [Yb,Yw,YY] at this
    omega
   ·have:=D4 r (q+1) D R
    omega
theorem Z02 {xs:List Z3} {x:Int} {fs:LI} {q:Int} (h:x∈XQ 15 (xs.take (Xh xs))) (hf:fs.length<=3):(Kt xs x fs q).1.length+(Kt xs x fs q).2.length<=Xh xs+2:=by
 have h1:=D4 fs q (XQ 14 (xs.take (Xh xs))) ((XQ 15 (xs.take (Xh xs))).erase x)
 have h2:=DV (xs.take (Xh xs))
 have h3:=List.length_pos_of_mem h
 rw [List.length_erase_of_mem h] at h1
 rw [W9] at h2
 have h4:=Da xs
 unfold Kt
 omega
theorem Z2u (xs:List Z3) (k:Nat):Y5 xs=Y5 (xs.take k)+Y5 (xs.drop k):=by rw [<-U0,U2]
theorem M1:∀xs:List Z3,(∀s∈xs,2<=s.sz)->2*xs.length<=Y5 xs
 | [],_=>by simp
 | s::r,h=>by
  have h1:=M1 r fun t ht=>h t (Xb _ ht)
  have h2:=h s (YM ..)
  rw [Y5,Yw];omega
theorem N0 {xs:List Z3} {x:Int} {fs:LI} {q:Int} (hf:fs.length<=3) (h:∀s∈xs,s.op=14∨s.op=15->2<=s.sz):Y5 (KP xs x fs q)<=Y5 xs+6:=by
 rw [KP]
 split
 ·rename_i hc
  have h1:=Z02 (q:=q) hc.1 hf
  have h2:=M1 (xs.take (Xh xs)) fun s hs=>h s (To hs) (Lm hs)
  have h3:=Z2u xs (Xh xs)
  have h4:=Da xs
  rw [W9] at h2
  rw [U0,U0,U0,FJ,FJ,Y5,Y5,Cc]
  omega
 ·omega
def Cn (s:Z3):Prop:=s=Zl s.op (gI s.args 0)
theorem MZ {xs:List Z3} {m:Int} {fs:LI} {q:Int} (h:¬(m∈XQ 15 (xs.take (Xh xs))/\fs.length≠0)):KP xs m fs q=xs:=Zs h
end Go.Abs
section
namespace Go.Abs
mutual
def JW (ds:List Zd) (m:Nat):Z3->Z3
 | .mk op num into args kids=>.mk op num into args (Us ds m op num args kids 0)
def Us (ds:List Zd) (m:Nat) (op num:Int) (args:LI):List Z4->Nat->List Z4
 | [],_=>[]
 | b::r,k=>(if op=8 then Qt (Wg ds (m+(Vv ds num k).length) b) (gI args 0) (Vv ds num k) m else Wg ds m b)::Us ds m op num args r (k+1)
def VN (ds:List Zd) (m:Nat):List Z3->List Z3
 | []=>[]
 | s::r=>JW ds m s::VN ds (if YA s.op=true then m else m+1) r
def Wg (ds:List Zd) (m:Nat):Z4->Z4
 | .mk steps result=>.mk (VN ds m steps) result
end
def Dk (ds:List Zd) (m:Nat) (op num:Int) (args:LI) (k:Nat) (b:Z4):Z4:=if op=8 then Qt (Wg ds (m+(Vv ds num k).length) b) (gI args 0) (Vv ds num k) m else Wg ds m b
theorem FC (ds:List Zd) (m:Nat) (s:Z3):JW ds m s=.mk s.op s.num s.into s.args (Us ds m s.op s.num s.args s.kids 0):=by cases s;rw [JW];rfl
theorem Di (ds:List Zd) (m:Nat) (b:Z4):Wg ds m b=.mk (VN ds m b.steps) b.result:=by cases b;rw [Wg];rfl
section
variable {ds:List Zd} {m:Nat}
theorem Z1s {xs acc r:List Z3} {k:Nat} {s:Z3} (h:xs[k]? = some s) (ha:acc++VN ds m (xs.drop k)=r) :
  (acc++[.mk s.op s.num s.into s.args (Us ds m s.op s.num s.args s.kids 0)])++VN ds (if YA s.op=true then m else m+1) (xs.drop (k+1))=r:=by
 rw [Ye h,VN,FC] at ha
 rw [<-ha];simp
theorem Z1r {xs acc r:List Z3} {k:Nat} (h:xs.length<=k) (ha:acc++VN ds m (xs.drop k)=r):acc=r:=by
 rw [Xk h,VN,Tn] at ha;exact ha
theorem LF {op num:Int} {args:LI} {bs acc r:List Z4} {k:Nat} {b:Z4} (h:bs[k]? = some b) (ha:acc++Us ds m op num args (bs.drop k) k=r) :
  (acc++[Dk ds m op num args k b])++Us ds m op num args (bs.drop (k+1)) (k+1)=r:=by
 rw [Ye h,Us] at ha
 rw [<-ha,Dk];simp
theorem Z1o {op num:Int} {args:LI} {bs acc r:List Z4} {k j:Nat} (h:bs.length<=k) (ha:acc++Us ds m op num args (bs.drop k) j=r):acc=r:=by
 rw [Xk h,Us,Tn] at ha;exact ha
end
mutual
def wS (ds:List Zd):Z3->Prop
 | .mk op num into args kids=>(Xq op=!YA op)/\(YA op=true->num=0/\into=0/\kids=[]/\∃a,args=[a])/\(op=8->(∃a,args=[a]/\0<=a/\a<=900000000)/\kids.length=(ZW ds num).length)/\KA ds kids
def KA (ds:List Zd):List Z4->Prop
 | []=>True
 | b::r=>wB ds b/\KA ds r
def Tm (ds:List Zd):List Z3->Prop
 | []=>True
 | s::r=>wS ds s/\Tm ds r
def wB (ds:List Zd):Z4->Prop
 | .mk steps _=>Tm ds steps
end
section
variable {ds:List Zd}
theorem Qo (s:Z3):wS ds s↔(Xq s.op=!YA s.op)/\(YA s.op=true->s.num=0/\s.into=0/\s.kids=[]/\∃a,s.args=[a])/\(s.op=8->(∃a,s.args=[a]/\0<=a/\a<=900000000)/\s.kids.length=(ZW ds s.num).length)/\KA ds s.kids:=by cases s;rw [wS];rfl
theorem Q8 (b:Z4):wB ds b↔Tm ds b.steps:=by cases b;rw [wB];rfl
theorem KC:∀{xs:List Z3},Tm ds xs↔∀s∈xs,wS ds s
 | []=>by simp [Tm]
 | s::r=>by rw [Tm,KC];simp
theorem Dy:∀{xs:List Z4},KA ds xs↔∀s∈xs,wB ds s
 | []=>by simp [KA]
 | s::r=>by rw [KA,Dy];simp
theorem Mw {b:Z4} {k:Nat} {s:Z3} (h:wB ds b) (hs:b.steps[k]? = some s):wS ds s:=KC.1 ((Q8 b).1 h) s (ZT hs)
theorem G6 {s:Z3} {k:Nat} {b:Z4} (h:wS ds s) (hb:s.kids[k]? = some b):wB ds b:=Dy.1 ((Qo s).1 h).2.2.2 b (ZT hb)
theorem Dz {s:Z3} (h:wS ds s) (hc:YA s.op=true):Cn s/\s.kids=[]/\∃a,s.args=[a]:=by
 obtain ⟨h1,h2,h3,a,h4⟩:=((Qo s).1 h).2.1 hc
 refine ⟨?_,h3,a,h4⟩
 cases s with
 | mk op num into args kids=>
  simp only [Z3.num,Z3.into,Z3.kids,Z3.args] at h1 h2 h3 h4
  subst h1 h2 h3 h4
  rfl
theorem Z4b {op v:Int} (h:op=14∨op=15∨op=16):wS ds (Zl op v):=(Qo _).2 ⟨by show Xq op=!YA op;rcases h with rfl|rfl|rfl<;>rfl,fun _=>⟨rfl,rfl,rfl,v,rfl⟩,fun e=>absurd e (show op≠8 by omega),True.intro⟩
theorem Z4c {s:Z3} (h:wS ds s):Xq s.op=!YA s.op:=((Qo s).1 h).1
theorem BT {s:Z3} (h:wS ds s) (h8:s.op=8):(∃a,s.args=[a]/\0<=a/\a<=900000000)/\s.kids.length=(ZW ds s.num).length:=((Qo s).1 h).2.2.1 h8
theorem DH {xs:List Z3} (h:Tm ds xs):∀s∈xs,YA s.op=true->Cn s:=fun s hs hc=>(Dz (KC.1 h s hs) hc).1
end
section
variable {n:Zu}
end
mutual
def Z3.pz:Z3->Nat
 | .mk _ _ _ args kids=>1+args.length+AC kids
def Z4.pz:Z4->Nat
 | .mk steps _=>1+AE steps
def AE:List Z3->Nat
 | []=>0
 | s::r=>s.pz+AE r
def AC:List Z4->Nat
 | []=>0
 | b::r=>b.pz+8+AC r
end
mutual
theorem Z3.pz_le:∀s:Z3,s.pz<=9*s.sz
 | .mk _ _ _ args kids=>by have:=IY kids;rw [Z3.pz,Z3.sz];omega
theorem Z4.pz_le:∀b:Z4,b.pz+8<=9*b.sz
 | .mk steps _=>by have:=IZ steps;rw [Z4.pz,Z4.sz];omega
theorem IZ:∀xs:List Z3,AE xs<=9*Y5 xs
 | []=>T2 _
 | s::r=>by have:=s.pz_le;have:=IZ r;rw [AE,Y5];omega
theorem IY:∀xs:List Z4,AC xs<=9*YH xs
 | []=>T2 _
 | s::r=>by have:=s.pz_le;have:=IY r;rw [AC,YH];omega
end
section
variable {ds:List Zd}
theorem NH {op:Int} (h:op=14∨op=15):YA op=true:=by rw [YA];simp;omega
theorem Z1t {xs:List Z3}:∀{m:Nat},Tm ds xs->∀s∈VN ds m xs,s.op=14∨s.op=15->2<=s.sz:=by
 induction xs with
 | nil=>intro m _ s hs;simp [VN] at hs
 | cons t r ih=>
  intro m h s hs ho
  rw [VN] at hs
  rcases Yk.1 hs with rfl|hs
  ·rw [FC] at ho ⊢
   obtain ⟨_,_,a,ha⟩:=Dz h.1 (NH ho)
   rw [Z3.sz,ha];simp
  ·exact ih h.2 s hs ho
variable (hd:Wi ds)
include hd
mutual
theorem Z1p:∀(s:Z3) {m:Nat},wS ds s->(JW ds m s).sz<=s.pz
 | .mk op num into args kids,m,h=>by
  have:=LH kids (m:=m) (op:=op) (num:=num) (args:=args) (k:=0) h.2.2.2
  rw [JW,Z3.sz,Z3.pz];omega
theorem LH:∀(bs:List Z4) {m:Nat} {op num:Int} {args:LI} {k:Nat},KA ds bs->YH (Us ds m op num args bs k)<=AC bs
 | [],_,_,_,_,_,_=>YI _
 | b::r,m,op,num,args,k,h=>by
  have h2:=LH r (m:=m) (op:=op) (num:=num) (args:=args) (k:=k+1) h.2
  rw [Us,YH,AC]
  split
  ·have h1:=Dj b (m:=m+(Vv ds num k).length) h.1
   have h3:=N0 (xs:=(Wg ds (m+(Vv ds num k).length) b).steps) (x:=gI args 0) (q:=(m:Int)) (OM hd num k) (by rw [Di];exact Z1t ((Q8 b).1 h.1))
   rw [Qt,Z4.sz]
   rw [Z4.sz_eq] at h1
   omega
  ·have h1:=Dj b (m:=m) h.1
   omega
theorem LJ:∀(xs:List Z3) {m:Nat},Tm ds xs->Y5 (VN ds m xs)<=AE xs
 | [],_,_=>YI _
 | s::r,m,h=>by
  have h1:=Z1p s (m:=m) h.1
  have h2:=LJ r (m:=if YA s.op=true then m else m+1) h.2
  rw [VN,Y5,AE];omega
theorem Dj:∀(b:Z4) {m:Nat},wB ds b->(Wg ds m b).sz<=b.pz
 | .mk steps result,m,h=>by
  have:=LJ steps (m:=m) h
  rw [Wg,Z4.sz,Z4.pz];omega
end
end
section
variable {ds:List Zd} {m:Nat}
end
def Jf (ds:List Zd) (r:Y1):Y1:=⟨r.params,r.lent,r.result,Wg ds r.params.length r.body⟩
def Dl (n:Zu):Zu:=⟨n.decls,n.routines.map (Jf n.decls)⟩
end Go.Abs
namespace Go.Abs
theorem Z14 {xs:List Z3} {k:Nat} {s:Z3} {r:Nat} (h:xs[k]? = some s) (hs:s.op=14∨s.op=15) (ha:k+Xh (xs.drop k)=r):k+1+Xh (xs.drop (k+1))=r:=by
 rw [Ye h,Xh,Zw hs] at ha;omega
theorem Z15 {xs:List Z3} {k:Nat} {s:Z3} {r:Nat} (h:xs[k]? = some s) (hs:¬(s.op=14∨s.op=15)) (ha:k+Xh (xs.drop k)=r):k=r:=by
 rw [Ye h,Xh,Zs hs] at ha;omega
theorem Z13 {xs:List Z3} {k:Nat} {r:Nat} (h:xs.length<=k) (ha:k+Xh (xs.drop k)=r):k=r:=by
 rw [Xk h,Xh] at ha;omega
theorem Na {op:Int} {xs:List Z3} {acc r:LI} {k:Nat} {s:Z3} (h:xs[k]? = some s) (hs:s.op=op) (ha:acc++XQ op (xs.drop k)=r):(acc++[gI s.args 0])++XQ op (xs.drop (k+1))=r:=by
 rw [Ye h,XQ,Zw hs] at ha;rw [<-ha];simp
theorem N9 {op:Int} {xs:List Z3} {acc r:LI} {k:Nat} {s:Z3} (h:xs[k]? = some s) (hs:¬s.op=op) (ha:acc++XQ op (xs.drop k)=r):acc++XQ op (xs.drop (k+1))=r:=by
 rw [Ye h,XQ,Zs hs] at ha;exact ha
theorem N8 {op:Int} {xs:List Z3} {acc r:LI} {k:Nat} (h:xs.length<=k) (ha:acc++XQ op (xs.drop k)=r):acc=r:=by
 rw [Xk h,XQ,Tn] at ha;exact ha
theorem OI {xs acc r:LI} {y:Int} {k:Nat} {x:Int} {d:Bool} (h:xs[k]? = some x) (ha:acc++(if d=true then xs.drop k else (xs.drop k).erase y)=r) :
  (if x=y/\¬d=true then acc else acc++[x])++(if ((x==y&&!d)||d)=true then xs.drop (k+1) else (xs.drop (k+1)).erase y)=r:=by
 rw [Ye h] at ha
 rw [<-ha]
 by_cases hd:d=true
 ·simp [hd]
 ·by_cases hx:x=y
  ·simp [hd,hx]
  ·rw [Zs (fun z=>hx z.1),Zs hd,List.erase_cons_tail (by simpa using hx)]
   simp [hd,hx]
theorem OH {xs acc r:LI} {y:Int} {k:Nat} {d:Bool} (h:xs.length<=k) (ha:acc++(if d=true then xs.drop k else (xs.drop k).erase y)=r):acc=r:=by
 rw [Xk h] at ha;simpa using ha
section
variable {fs D R:LI} {q k:Nat} {f:Int} {r:LI × LI}
theorem Z04 (h:fs[k]? = some f) (h0:f≠0) (hm:((q+k:Nat):Int)∈D) (ha:Vx (fs.drop k) (q+k) D R=r):Vx (fs.drop (k+1)) (q+((k+1:Nat):Int)) (D.erase ((q+k:Nat):Int)) R=r:=by
 rw [Ye h,Vx,Zw ⟨h0,by rw [<-Int.natCast_add];exact hm⟩,<-Int.natCast_add] at ha
 rw [<-ha];congr 1
theorem Z05 (h:fs[k]? = some f) (h0:f≠0) (hm:¬((q+k:Nat):Int)∈D) (ha:Vx (fs.drop k) (q+k) D R=r):Vx (fs.drop (k+1)) (q+((k+1:Nat):Int)) D (R++[((q+k:Nat):Int)])=r:=by
 rw [Ye h,Vx,Zs (fun z=>hm (by rw [Int.natCast_add];exact z.2)),Zw h0,<-Int.natCast_add] at ha
 rw [<-ha];congr 1
theorem Z06 (h:fs[k]? = some f) (h0:¬f≠0) (ha:Vx (fs.drop k) (q+k) D R=r):Vx (fs.drop (k+1)) (q+((k+1:Nat):Int)) D R=r:=by
 rw [Ye h,Vx,Zs (fun z=>h0 z.1),Zs h0] at ha
 rw [<-ha];congr 1
theorem Z03 (h:fs.length<=k) (ha:Vx (fs.drop k) (q+k) D R=r):r=(D,R):=by
 rw [Xk h,Vx] at ha;exact ha.symm
end
theorem N1 {xs:List Z3} {x:Int} {fs:LI} {q:Int} {D R:LI} (h1:x∈XQ 15 (xs.take (Xh xs))) (h2:fs.length≠0) (hr:Kt xs x fs q=(D,R)):D.map (Zl 14)++[Zl 16 x]++R.map (Zl 15)++xs.drop (Xh xs)=KP xs x fs q:=by
 rw [KP,Zw ⟨h1,h2⟩,hr]
theorem Z1q {ds:List Zd} {xs:List Z3}:∀{m:Nat},Tm ds xs->∀s∈VN ds m xs,YA s.op=true->∃a,s.args=[a]:=by
 induction xs with
 | nil=>intro m _ s hs;simp [VN] at hs
 | cons t r ih=>
  intro m h s hs ho
  rw [VN] at hs
  rcases Yk.1 hs with rfl|hs
  ·rw [FC] at ho ⊢
   exact (Dz h.1 ho).2.2
  ·exact ih h.2 s hs ho
end Go.Abs
end
namespace Go.Abs
mutual
def Z1.sz:Z1->Nat
 | .mk _ _ kids=>1+X0 kids
def X0:List Z1->Nat
 | []=>0
 | e::r=>e.sz+X0 r
end
theorem Z1.sz_eq (e:Z1):e.sz=1+X0 e.kids:=by cases e;rw [Z1.sz];rfl
theorem B9:∀xs ys:List Z1,X0 (xs++ys)=X0 xs+X0 ys
 | [],ys=>by simp [X0]
 | x::r,ys=>by rw [Qp,X0,X0,B9 r];omega
theorem JE:∀{xs:List Z1} {k:Nat} {e:Z1},xs[k]? = some e->e.sz<=X0 xs
 | [],k,e,h=>by simp at h
 | x::r,0,e,h=>by simp at h;subst h;rw [X0];omega
 | x::r,k+1,e,h=>by have:=JE (xs:=r) (k:=k) (by simpa using h);rw [X0];omega
theorem H6:∀{xs:List Z1},xs.length<=X0 xs
 | []=>T2 _
 | x::r=>by have:=H6 (xs:=r);have:=x.sz_eq;rw [X0,Yw];omega
def K8:Zd:=⟨0,0,[⟨[]⟩,⟨[0,1]⟩]⟩
def K9:Zd:=⟨0,0,[⟨[]⟩,⟨[3,0,3]⟩]⟩
def GR:List Zd:=[⟨0,0,[⟨[1,3]⟩]⟩,⟨1,0,[]⟩,⟨0,0,[⟨[1,1,0]⟩,⟨[0]⟩,⟨[3]⟩]⟩,⟨0,1,[]⟩]
def Kj:List (List Zd):=[[K8,⟨0,0,[]⟩,K9],[K8,⟨0,0,[]⟩,K9,⟨0,0,[⟨[1,3]⟩]⟩],[K8,⟨0,0,[]⟩,K9,⟨1,0,[]⟩],[K8,⟨0,0,[]⟩,K9,⟨0,0,[⟨[1,1,0]⟩,⟨[0]⟩,⟨[3]⟩]⟩],[K8,⟨0,0,[]⟩,K9,⟨0,1,[]⟩]]
def GD (ds:List Zd):Prop:=ds∈Kj
theorem GD.ok {ds:List Zd} (h:GD ds):Wi ds:=by
 have k:=(by decide:∀ds∈Kj,ds.length<=4/\(∀d∈ds,d.cons.length<=3)/\∀d∈ds,∀c∈d.cons,c.fields.length<=3) ds h
 exact ⟨k.1,k.2.1,k.2.2⟩
theorem GD.len {ds:List Zd} (h:GD ds):3<=ds.length/\ds.length<=4:=by
 exact (by decide:∀ds∈Kj,3<=ds.length/\ds.length<=4) ds h
def Q2 (t:Int):Prop:=t=0∨t=1∨t=3
instance (t:Int):Decidable (Q2 t):=inferInstanceAs (Decidable (_∨_∨_))
theorem GD.low {ds:List Zd} (h:GD ds):ZW ds 0=[]/\ZW ds 1=[0,1]/\ZW ds 2=[]/\ZW ds 3=[2,3]/\ZZ ds 0=[]/\ZZ ds 1=[0,1]/\ZZ ds 2=[]/\ZZ ds 3=[3,0,3]:=
 (by decide:∀ds∈Kj,ZW ds 0=[]/\ZW ds 1=[0,1]/\ZW ds 2=[]/\ZW ds 3=[2,3]/\ZZ ds 0=[]/\ZZ ds 1=[0,1]/\ZZ ds 2=[]/\ZZ ds 3=[3,0,3]) ds h
theorem GD.fields {ds:List Zd} (h:GD ds):∀c∈ZW ds 1++(ZW ds 3++ZW ds 4),∀t∈ZZ ds c,Q2 t:=
 (by decide:∀ds∈Kj,∀c∈ZW ds 1++(ZW ds 3++ZW ds 4),∀t∈ZZ ds c,Q2 t) ds h
theorem GD.cons_cases {ds:List Zd} (h:GD ds) {t:Int} {c:Int} (hc:c∈ZW ds t):(0<=c/\c<=9)/\(t=1∨t=3∨t=4)/\(ZZ ds c).length<=3/\∀u∈ZZ ds c,Q2 u:=by
 have ht:1<=t/\t<=ds.length:=by
  by_cases q:1<=t/\t<=ds.length
  ·exact q
  ·rw [ZW,Zs q] at hc;cases hc
 have hl:=h.len
 have hlow:=h.low
 have key:∀c∈ZW ds 1++(ZW ds 3++ZW ds 4),0<=c/\c<=9:=
  (by decide:∀ds∈Kj,∀c∈ZW ds 1++(ZW ds 3++ZW ds 4),0<=c/\c<=9) ds h
 have h4:t=1∨t=2∨t=3∨t=4:=by omega
 have hf:=h.fields
 have hd:=Vs h.ok c
 rcases h4 with rfl|rfl|rfl|rfl
 ·exact ⟨key c (YP.2 (.inl hc)),.inl rfl,hd,hf c (YP.2 (.inl hc))⟩
 ·rw [hlow.2.2.1] at hc;cases hc
 ·exact ⟨key c (YP.2 (.inr (YP.2 (.inl hc)))),.inr (.inl rfl),hd,hf c (YP.2 (.inr (YP.2 (.inl hc))))⟩
 ·exact ⟨key c (YP.2 (.inr (YP.2 (.inr hc)))),.inr (.inr rfl),hd,hf c (YP.2 (.inr (YP.2 (.inr hc))))⟩
def Qs:List (LI × Int):=[([],0),([1],0),([1,1],1),([1],1),([1,0],1),([2,1],1),([1,1],0),([3],0),([0],1),([0,1],1),([3,0],3),([3],1),([1,3,0],0),([0],0),([0,0],0),([1,0],0)]
def U3 (f:Func):Prop:=(f.params,f.result)∈Qs
theorem U3.bd {f:Func} (h:U3 f):f.params.length<=3/\(∀t∈f.params,0<=t/\t<=3)/\Q2 f.result:=by
 have key:∀q∈Qs,q.1.length<=3/\(∀t∈q.1,0<=t/\t<=3)/\Q2 q.2:=by decide
 exact key _ h
theorem U3.clo {ds:List Zd} {f:Func} (hd:GD ds) (h:U3 f) (hp:0<Qu ds (gI f.params ((f.params.length:Int)-1)) f.result):∀t∈f.params.dropLast,Q2 t:=by
 have key:∀q∈Qs,0<Qu ds (gI q.1 ((q.1.length:Int)-1)) q.2->∀t∈q.1.dropLast,Q2 t:=
  (by decide +kernel:∀ds∈Kj,∀q∈Qs,0<Qu ds (gI q.1 ((q.1.length:Int)-1)) q.2->∀t∈q.1.dropLast,Q2 t) ds hd
 exact key _ h hp
structure GP (p:Xw):Prop where
 decls:GD p.decls
 len:1<=p.funcs.length/\p.funcs.length<=4
 sigs:∀f∈p.funcs,U3 f
def Uq (ds:List Zd) (op num:Int) (m:Nat) (k:Nat):Nat:=
 if op=13 then m+k else if op=8 then (if k=0 then m else m+(ZZ ds (gI (ZW ds num) ((k:Int)-1))).length) else m
mutual
def eW (ds:List Zd) (nf:Nat):Nat->Z1->Prop
 | m,.mk op num kids=>(0<=op/\op<=13)/\(op=12->kids=[]/\0<=num/\num<m)/\(op=13->kids.length=2)/\(op=7->kids.length=3)/\(op=8->kids.length=1+(ZW ds num).length)/\(op=9->0<=num/\num<nf)/\(-2000<=num/\num<=2000)/\kids.length<=4 /\
  T7 ds nf (Uq ds op num m) 0 kids
def T7 (ds:List Zd) (nf:Nat) (sc:Nat->Nat):Nat->List Z1->Prop
 | _,[]=>True
 | k,e::r=>eW ds nf (sc k) e/\T7 ds nf sc (k+1) r
end
theorem OB {ds:List Zd} {nf m:Nat} (e:Z1):eW ds nf m e↔(0<=e.op/\e.op<=13)/\(e.op=12->e.kids=[]/\0<=e.num/\e.num<m)/\(e.op=13->e.kids.length=2)/\(e.op=7->e.kids.length=3)/\(e.op=8->e.kids.length=1+(ZW ds e.num).length)/\(e.op=9->0<=e.num/\e.num<nf)/\(-2000<=e.num/\e.num<=2000)/\e.kids.length<=4 /\
  T7 ds nf (Uq ds e.op e.num m) 0 e.kids:=by cases e;rw [eW];rfl
theorem An {ds:List Zd} {nf:Nat} {sc:Nat->Nat}:∀{xs:List Z1} {j k:Nat} {e:Z1},T7 ds nf sc j xs->xs[k]? = some e->eW ds nf (sc (j+k)) e
 | [],j,k,e,_,h=>by simp at h
 | x::r,j,0,e,hw,h=>by simp at h;subst h;exact hw.1
 | x::r,j,k+1,e,hw,h=>by
  have:=An (xs:=r) (j:=j+1) (k:=k) hw.2 (by simpa using h)
  rw [show j+(k+1)=j+1+k by omega];exact this
theorem H2 {ds:List Zd} {nf:Nat} {sc:Nat->Nat}:∀{xs ys:List Z1} {j:Nat},T7 ds nf sc j (xs++ys)↔T7 ds nf sc j xs/\T7 ds nf sc (j+xs.length) ys
 | [],ys,j=>by simp [T7]
 | x::r,ys,j=>by
  rw [Qp,T7,T7,H2 (xs:=r),and_assoc,Yw,show j+1+r.length=j+(r.length+1) by omega]
theorem Es {ds:List Zd} {nf m:Nat} {sc:Nat->Nat} (hs:∀k,sc k=m):∀{xs:List Z1} {j:Nat},(∀e∈xs,eW ds nf m e)->T7 ds nf sc j xs
 | [],_,_=>True.intro
 | x::r,j,h=>⟨by rw [hs];exact h x (YM ..),Es hs fun e he=>h e (Xb _ he)⟩
theorem JD {ds:List Zd} {nf m:Nat} {op num:Int} {kids:List Z1} (ho:0<=op/\op<=11/\op≠7/\op≠8) (hc:op=9->0<=num/\num<nf) (hn:-2000<=num/\num<=2000) (hl:kids.length<=4) (hk:∀e∈kids,eW ds nf m e):eW ds nf m (.mk op num kids):=by
 rw [eW]
 refine ⟨by omega,fun h=>by omega,fun h=>by omega,fun h=>by omega,fun h=>by omega,hc,hn,hl,Es (m:=m) (fun k=>?_) hk⟩
 rw [Uq,Zs om,Zs om]
theorem OC {ds:List Zd} {nf m:Nat} {z:Int} (hz:-2000<=z/\z<=2000):eW ds nf m (.mk 0 z []):=JD om (fun h=>by omega) hz (by simp) (fun e he=>by cases he)
theorem OD {ds:List Zd} {nf m:Nat} {z:Int} (hz:0<=z/\z<m) (hm:m<=2000):eW ds nf m (.mk 12 z []):=by
 rw [eW]
 exact ⟨by omega,fun _=>⟨rfl,hz⟩,fun h=>by omega,fun h=>by omega,fun h=>by omega,fun h=>by omega,by omega,by simp,True.intro⟩
theorem H0 {ds:List Zd} {nf m:Nat} {num:Int} {kids:List Z1} (hn:-2000<=num/\num<=2000) (hl:kids.length=3) (hk:∀e∈kids,eW ds nf m e):eW ds nf m (.mk 7 num kids):=by
 rw [eW]
 refine ⟨by omega,fun h=>by omega,fun h=>by omega,fun _=>hl,fun h=>by omega,fun h=>by omega,hn,by omega,Es (m:=m) (fun k=>?_) hk⟩
 rw [Uq,Zs om,Zs om]
theorem H1 {ds:List Zd} {nf m:Nat} {num:Int} {a b:Z1} (hn:-2000<=num/\num<=2000) (ha:eW ds nf m a) (hb:eW ds nf (m+1) b):eW ds nf m (.mk 13 num [a,b]):=by
 rw [eW]
 exact ⟨by omega,fun h=>by omega,fun _=>rfl,fun h=>by omega,fun h=>by omega,fun h=>by omega,hn,by simp,ha,hb,True.intro⟩
theorem Er {ds:List Zd} {nf m:Nat} {num:Int} {a:Z1} {arms:List Z1} (hn:-2000<=num/\num<=2000) (h3:arms.length<=3) (hl:arms.length=(ZW ds num).length) (ha:eW ds nf m a) (hk:T7 ds nf (Uq ds 8 num m) 1 arms):eW ds nf m (.mk 8 num (a::arms)):=by
 rw [eW]
 refine ⟨by omega,fun h=>by omega,fun h=>by omega,fun h=>by omega,fun _=>by rw [Yw];omega,fun h=>by omega,hn,by rw [Yw];omega,?_,hk⟩
 rw [Uq,Zs om,Zw rfl,Zw rfl]
 exact ha
def bS (b:Nat):Nat:=max 4 (10*b-10)
def bC (b:Nat):Nat:=max 40 (100*b-100)
def Yy:List Z3->Nat
 | []=>0
 | s::r=>(if YA s.op=true then 0 else 1)+Yy r
theorem Qc:∀xs ys:List Z3,Yy (xs++ys)=Yy xs+Yy ys
 | [],ys=>by simp [Yy]
 | x::r,ys=>by rw [Qp,Yy,Yy,Qc r];omega
theorem Jy:∀xs:List Z3,Yy xs<=xs.length
 | []=>YI _
 | x::r=>by have:=Jy r;rw [Yy,Yw];split<;>omega
def VM (ds:List Zd) (op num:Int) (m:Nat) (k:Nat):Nat:=if op=8 then m+(ZZ ds (gI (ZW ds num) k)).length else m
mutual
def fS (ds:List Zd) (nf:Nat):Nat->Z3->Prop
 | m,.mk op num into args kids=>((0<=op/\op<=11)∨(14<=op/\op<=17))/\(∀a∈args,0<=a/\a<m)/\(14<=op->num=0/\into=0/\kids=[]/\∃a,args=[a])/\(op=7->kids.length=2)/\(op=8->kids.length=(ZW ds num).length)/\(op=7∨op=8->∃a,args=[a]) /\
  (op=9->0<=num/\num<nf)/\(-2000<=num/\num<=2000)/\(0<=into/\into<=m)/\args.length<=4/\(op≠7/\op≠8->kids=[])/\Uh ds nf (VM ds op num m) 0 kids
def Uh (ds:List Zd) (nf:Nat) (sc:Nat->Nat):Nat->List Z4->Prop
 | _,[]=>True
 | k,b::r=>fB ds nf (sc k) b/\Uh ds nf sc (k+1) r
def VV (ds:List Zd) (nf:Nat):Nat->List Z3->Prop
 | _,[]=>True
 | m,s::r=>fS ds nf m s/\VV ds nf (if YA s.op=true then m else m+1) r
def fB (ds:List Zd) (nf:Nat):Nat->Z4->Prop
 | m,.mk steps result=>VV ds nf m steps/\0<=result/\result<(m+Yy steps:Nat)
end
section
variable {ds:List Zd} {nf:Nat}
structure FS (ds:List Zd) (nf m:Nat) (s:Z3):Prop where
 op:(0<=s.op/\s.op<=11)∨(14<=s.op/\s.op<=17)
 args:∀a∈s.args,0<=a/\a<m
 cnt:14<=s.op->s.num=0/\s.into=0/\s.kids=[]/\∃a,s.args=[a]
 k7:s.op=7->s.kids.length=2
 k8:s.op=8->s.kids.length=(ZW ds s.num).length
 one:s.op=7∨s.op=8->∃a,s.args=[a]
 call:s.op=9->0<=s.num/\s.num<nf
 num:-2000<=s.num/\s.num<=2000
 into:0<=s.into/\s.into<=m
 alen:s.args.length<=4
 kn:s.op≠7/\s.op≠8->s.kids=[]
 kids:Uh ds nf (VM ds s.op s.num m) 0 s.kids
theorem Co {m:Nat} (s:Z3):fS ds nf m s↔FS ds nf m s:=by
 cases s
 rw [fS]
 exact ⟨fun ⟨h1,h2,h3,h4,h5,h6,h7,h8,h9,h10,h11,h12⟩=>⟨h1,h2,h3,h4,h5,h6,h7,h8,h9,h10,h11,h12⟩,fun h=>⟨h.op,h.args,h.cnt,h.k7,h.k8,h.one,h.call,h.num,h.into,h.alen,h.kn,h.kids⟩⟩
theorem Bb {m:Nat} (b:Z4):fB ds nf m b↔VV ds nf m b.steps/\0<=b.result/\b.result<(m+Yy b.steps:Nat):=by cases b;rw [fB];rfl
theorem Bc {sc:Nat->Nat}:∀{xs:List Z4} {j k:Nat} {b:Z4},Uh ds nf sc j xs->xs[k]? = some b->fB ds nf (sc (j+k)) b
 | [],j,k,b,_,h=>by simp at h
 | x::r,j,0,b,hw,h=>by simp at h;subst h;exact hw.1
 | x::r,j,k+1,b,hw,h=>by
  have:=Bc (xs:=r) (j:=j+1) (k:=k) hw.2 (by simpa using h)
  rw [show j+(k+1)=j+1+k by omega];exact this
theorem H8 {sc:Nat->Nat}:∀{xs ys:List Z4} {j:Nat},Uh ds nf sc j (xs++ys)↔Uh ds nf sc j xs/\Uh ds nf sc (j+xs.length) ys
 | [],ys,j=>by simp [Uh]
 | x::r,ys,j=>by
  rw [Qp,Uh,Uh,H8 (xs:=r),and_assoc,Yw,show j+1+r.length=j+(r.length+1) by omega]
theorem H9 {sc:Nat->Nat} {xs:List Z4} {b:Z4} (h:Uh ds nf sc 0 xs) (hb:fB ds nf (sc xs.length) b):Uh ds nf sc 0 (xs++[b]):=
 H8.2 ⟨h,by rw [We];exact hb,True.intro⟩
theorem Ao:∀{xs ys:List Z3} {m:Nat},VV ds nf m (xs++ys)↔VV ds nf m xs/\VV ds nf (m+Yy xs) ys
 | [],ys,m=>by simp [VV,Yy]
 | x::r,ys,m=>by
  rw [Qp,VV,VV,Ao (xs:=r),and_assoc,Yy]
  by_cases h:YA x.op=true
  ·rw [Zw h,Zw h,We]
  ·rw [Zs h,Zs h,KF]
theorem Cp {xs:List Z3} {s:Z3} {m:Nat} (h:VV ds nf m xs) (hs:fS ds nf (m+Yy xs) s):VV ds nf m (xs++[s]):=Ao.2 ⟨h,hs,True.intro⟩
theorem Bd:∀{xs:List Z3} {k m:Nat} {s:Z3},VV ds nf m xs->xs[k]? = some s->fS ds nf (m+Yy (xs.take k)) s
 | [],k,m,s,_,h=>by simp at h
 | x::r,0,m,s,hw,h=>by simp at h;subst h;exact hw.1
 | x::r,k+1,m,s,hw,h=>by
  have:=Bd (xs:=r) (k:=k) hw.2 (by simpa using h)
  rw [A3,Yy]
  by_cases hc:YA x.op=true
  ·rw [Zw hc] at this ⊢;rw [We];exact this
  ·rw [Zs hc] at this ⊢;rw [<-KF];exact this
mutual
theorem Z4e:∀(s:Z3) {m:Nat},fS ds nf m s->m+4*s.sz<=900000000->Wi ds->wS ds s
 | .mk op num into args kids,m,h,hb,hd=>by
  rw [fS] at h
  obtain ⟨h1,h2,h3,h4,h5,h6,h7,h8,h9,h10,h11,h12⟩:=h
  rw [Z3.sz] at hb
  rw [wS]
  refine ⟨?_,fun hc=>h3 (show 14<=op/\op<=17 by simpa [YA] using hc).1,fun h8'=>⟨?_,h5 h8'⟩,My kids h12 (fun k=>?_) hd⟩
  ·rcases h1 with h1|h1
   ·have e1:YA op=false:=by simp [YA];omega
    have e2:Xq op=true:=by simp [Xq];omega
    rw [e1,e2];rfl
   ·have e1:YA op=true:=by simp [YA];omega
    have e2:Xq op=false:=by simp [Xq];omega
    rw [e1,e2];rfl
  ·obtain ⟨a,ha⟩:=h6 (.inr h8')
   have:=h2 a (by rw [ha];exact Xj.2 rfl)
   exact ⟨a,ha,by omega⟩
  ·have hf:=Vs hd (gI (ZW ds num) k)
   show VM ds op num m k+4*YH kids<=900000003
   rw [VM];split<;>omega
theorem My:∀(bs:List Z4) {sc:Nat->Nat} {k:Nat},Uh ds nf sc k bs->(∀k,sc k+4*YH bs<=900000003)->Wi ds->KA ds bs
 | [],_,_,_,_,_=>True.intro
 | b::r,sc,k,h,hb,hd=>by
  have hp:=b.sz_eq
  exact ⟨Mx b h.1 (by have:=hb k;rw [YH] at this;omega) hd,My r h.2 (fun j=>by have:=hb j;rw [YH] at this;omega) hd⟩
theorem Mz:∀(xs:List Z3) {m:Nat},VV ds nf m xs->m+4*Y5 xs<=900000000->Wi ds->Tm ds xs
 | [],_,_,_,_=>True.intro
 | s::r,m,h,hb,hd=>by
  rw [Y5] at hb
  have hp:=s.sz_pos
  refine ⟨Z4e s h.1 om hd,Mz r h.2 ?_ hd⟩
  split<;>omega
theorem Mx:∀(b:Z4) {m:Nat},fB ds nf m b->m+4*b.sz<=900000004->Wi ds->wB ds b
 | .mk steps result,m,h,hb,hd=>by
  rw [Z4.sz] at hb
  rw [fB] at h
  rw [wB]
  exact Mz steps h.1 om hd
end
mutual
theorem Z0l:∀(s:Z3) {m:Nat},fS ds nf m s->s.rng
 | .mk op num into args kids,m,h=>by
  rw [fS] at h
  obtain ⟨h1,h2,h3,h4,h5,h6,h7,h8,h9,h10,h11,h12⟩:=h
  rw [Z3.rng]
  exact ⟨by omega,L9 kids h12⟩
theorem L9:∀(bs:List Z4) {sc:Nat->Nat} {k:Nat},Uh ds nf sc k bs->Qx bs
 | [],_,_,_=>True.intro
 | b::r,sc,k,h=>⟨Fo b h.1,L9 r h.2⟩
theorem La:∀(xs:List Z3) {m:Nat},VV ds nf m xs->QS xs
 | [],_,_=>True.intro
 | s::r,m,h=>⟨Z0l s h.1,La r h.2⟩
theorem Fo:∀(b:Z4) {m:Nat},fB ds nf m b->b.rng
 | .mk steps result,m,h=>by rw [fB] at h;rw [Z4.rng];exact La steps h.1
end
end
structure FN (n:Zu) (q:Nat):Prop where
 decls:GD n.decls
 len:1<=n.routines.length/\n.routines.length<=4
 sigs:∀r∈n.routines,(r.params,r.result)∈Qs
 lent:∀r∈n.routines,r.lent.length<=3/\∀i∈r.lent,0<=i/\i<r.params.length
 body:∀r∈n.routines,fB n.decls n.routines.length r.params.length r.body/\r.body.sz<=q
theorem FN.ok {n:Zu} {q:Nat} (h:FN n q):X5 n:=
 ⟨h.decls.ok,h.len.2,fun r hr=>(U3.bd (f:=⟨r.params,r.result,default⟩) (h.sigs r hr)).1,fun r hr=>by have:=(h.lent r hr).1;omega⟩
def Pk (n k:Int):Prop:=0<=k/\(0<n->k<n)/\(n<=0->k=0)
theorem Pk.lt {n k:Int} (h:Pk n k) (hn:0<n):0<=k/\k<n:=⟨h.1,h.2.1 hn⟩
theorem Pk.zero {n:Int}:Pk n 0:=⟨Int.le_refl _,fun h=>h,fun _=>rfl⟩
theorem Pk.rem {n a:Int} (ha:0<=a) (hn:0<n):Pk n (a % n):=⟨Int.emod_nonneg _ om,fun _=>Int.emod_lt_of_pos _ hn,fun _=>by omega⟩
def AD (ds:List Zd):Prop:=ds.length<=8/\∀d∈ds,d.cons.length<=4/\∀c∈d.cons,c.fields.length<=4
theorem GD.ad {ds:List Zd} (h:GD ds):AD ds:=(by decide:∀ds∈Kj,ds.length<=8/\∀d∈ds,d.cons.length<=4/\∀c∈d.cons,c.fields.length<=4) ds h
theorem AD.set {ds:List Zd} (h:AD ds) (k:Nat) {d:Zd} (hd:d.cons.length<=4/\∀c∈d.cons,c.fields.length<=4):AD (ds.set k d):=
 ⟨by rw [Ub];exact h.1,fun x hx=>(List.mem_or_eq_of_mem_set hx).elim (h.2 x) fun e=>by rw [e];exact hd⟩
theorem AD.app {ds es:List Zd} (h:AD ds) (hl:ds.length+es.length<=8) (hd:∀d∈es,d.cons.length<=4/\∀c∈d.cons,c.fields.length<=4):AD (ds++es):=
 ⟨by rw [Yb];exact hl,fun x hx=>(YP.1 hx).elim (h.2 x) (hd x)⟩
theorem GD.three:GD [K8,⟨0,0,[]⟩,K9]:=List.Mem.head _
theorem GD.four:∀{k:Nat} {x:Zd},GR[k]? = some x->GD ([K8,⟨0,0,[]⟩,K9]++[x])
 | 0,x,h=>by cases h;exact .tail _ (.head _)
 | 1,x,h=>by cases h;exact .tail _ (.tail _ (.head _))
 | 2,x,h=>by cases h;exact .tail _ (.tail _ (.tail _ (.head _)))
 | 3,x,h=>by cases h;exact .tail _ (.tail _ (.tail _ (.tail _ (.head _))))
 | k+4,x,h=>by simp [GR] at h
theorem J9 {l:LI} {z a b:Int} (h:z∈l) (hl:l.all (fun x=>decide (a<=x/\x<=b))=true):a<=z/\z<=b:=by
 have:=QV.1 hl z h
 exact of_decide_eq_true this
def rk (t:Int):Nat:=if Q2 t then 0 else 1
theorem Fm (t:Int):rk t<=1:=by rw [rk];split<;>omega
theorem L8 {t:Int} (h:Q2 t):rk t=0:=Zw h
def SE (g:Xw) (q:Nat) (e:Z1):Prop:=(∀m,eW g.decls g.funcs.length m e)/\e.sz<=q
def GE (g:Xw) (m q:Nat) (e:Z1):Prop:=eW g.decls g.funcs.length m e/\e.sz<=q
theorem SE.ge {g:Xw} {q q' m:Nat} {e:Z1} (h:SE g q e) (hq:q<=q'):GE g m q' e:=⟨h.1 m,Wv h.2 hq⟩
theorem GE.le {g:Xw} {m q q':Nat} {e:Z1} (h:GE g m q e) (hq:q<=q'):GE g m q' e:=⟨h.1,Wv h.2 hq⟩
theorem Cl {m:Nat}:∀{xs:List Z1},(∀e∈xs,e.sz<=m)->X0 xs<=xs.length*m
 | [],_=>T2 _
 | x::r,h=>by
  have h1:=h x (YM ..)
  have h2:=Cl (xs:=r) fun e he=>h e (Xb _ he)
  rw [X0,Yw,UL];omega
theorem X2 {α:Type} {p:α->Prop} {xs:List α} {a:α} (h:∀x∈xs,p x) (ha:p a):∀x∈xs++[a],p x:=fun x hx=>(YP.1 hx).elim (h x) fun q=>by rw [Xj.1 q];exact ha
theorem SE.int {g:Xw} {z:Int} {q:Nat} (hz:-2000<=z/\z<=2000) (hq:1<=q):SE g q (.mk 0 z []):=⟨fun _=>OC hz,by simpa [Z1.sz,X0] using hq⟩
theorem SE.node {g:Xw} {op num:Int} {ys:List Z1} {q k:Nat} (ho:op=6∨op=10) (hn:0<=num/\num<=2000) (hy:∀e∈ys,SE g 1 e) (hl:ys.length<=k) (hk:k<=3) (hq:1+k<=q):SE g q (.mk op num ys):=by
 refine ⟨fun m=>JD om (fun h=>by omega) om om fun e he=>(hy e he).1 m,?_⟩
 have:=Cl (xs:=ys) (m:=1) fun e he=>(hy e he).2
 rw [Z1.sz];omega
def KM (ds:List Zd) (t c:Int):Prop:=(0<=c/\c<=9)/\(ZZ ds c).length<=3*rk t/\∀u∈ZZ ds c,Q2 u
instance (ds:List Zd) (t c:Int):Decidable (KM ds t c):=inferInstanceAs (Decidable (_/\_/\_))
theorem Lu {ds:List Zd} (h:GD ds):∀t∈[(1:Int),2,3,4],∀c∈ZW ds t,(t∈ZZ ds c->∀c0,(ZW ds t)[0]? = some c0->KM ds t c0)/\(¬t∈ZZ ds c->KM ds t c):=by
 intro t ht c hc
 have k1:=(by decide:∀ds∈Kj,∀t∈[(1:Int),2,3,4],∀c∈ZW ds t,(t∈ZZ ds c->KM ds t (gI (ZW ds t) 0))/\(¬t∈ZZ ds c->KM ds t c)) ds h t ht c hc
 refine ⟨fun q c0 h0=>?_,k1.2⟩
 have:=k1.1 q
 rwa [Uy (i:=0) h0] at this
theorem GN {ds:List Zd} (h:GD ds) {t c:Int} (hc:c∈ZW ds t):t∈[(1:Int),2,3,4]:=by
 obtain ⟨_,h2,_⟩:=h.cons_cases hc
 rcases h2 with rfl|rfl|rfl<;>simp
theorem Z1f {ds:List Zd} (h:GD ds) {t c c0:Int} (hc:c∈ZW ds t) (ht:t∈ZZ ds c) (h0:(ZW ds t)[0]? = some c0):KM ds t c0:=(Lu h t (GN h hc) c hc).1 ht c0 h0
theorem Z1e {ds:List Zd} (h:GD ds) {t c:Int} (hc:c∈ZW ds t) (ht:¬t∈ZZ ds c):KM ds t c:=(Lu h t (GN h hc) c hc).2 ht
theorem Z0k {ds:List Zd} (h:GD ds) {t:Int} (h0:(ZW ds t).length=0) (ht:0<t):rk t=1:=by
 rw [rk,Zs]
 rintro (q|q|q)
 ·omega
 ·rw [q,h.low.2.1] at h0;cases h0
 ·rw [q,h.low.2.2.2.1] at h0;cases h0
def QY (g:Xw) (t i:Int):Prop:=0<=i/\∃f,g.funcs[i.toNat]? = some f/\0<f.params.length/\Qu g.decls (gI f.params ((f.params.length:Int)-1)) f.result=t
theorem QY.lt {g:Xw} {t i:Int} (h:QY g t i):0<=i/\i<g.funcs.length:=by
 obtain ⟨h1,f,h2,_⟩:=h
 have:=(Xl.1 h2).1
 omega
theorem QY.mk {g:Xw} {t x2:Int} {k:Nat} {f:Func} (hf:g.funcs[k]? = some f) (hl:0<f.params.length) (hx:f.params[f.params.length-1]? = some x2) (ha:Qu g.decls x2 f.result=t):QY g t (k:Int):=by
 refine ⟨by omega,f,by simpa using hf,hl,?_⟩
 rw [Uy (i:=(f.params.length:Int)-1) (by rw [show ((f.params.length:Int)-1).toNat=f.params.length-1 by omega];exact hx)]
 exact ha
theorem QY.low {g:Xw} {t i u:Int} {f:Func} {j:Nat} (hg:GP g) (h:QY g t i) (ht:0<t) (hf:g.funcs[i.toNat]? = some f) (hj:j+1<f.params.length) (hu:f.params[j]? = some u):rk u=0:=by
 obtain ⟨_,f',h2,_,h4⟩:=h
 have e:f'=f:=A5 (h2.symm.trans hf)
 subst e
 have h5:=(hg.sigs f' (ZT hf)).clo hg.decls (by rw [h4];exact ht)
 refine L8 (h5 u ?_)
 rw [List.dropLast_eq_take]
 exact ZT (i:=j) (by rw [List.getElem?_take_of_lt om];exact hu)
end Go.Abs
section
namespace Go.Abs
theorem Qw (b:Nat):bS b=max 4 (10*b-10):=rfl
theorem Qv (b:Nat):bC b=max 40 (100*b-100):=rfl
theorem By {L q b:Nat} (hL:L<=3) (hb:3<=b) (hq:L*q<=b-1):1+L*bS q<=bS b:=by
 rw [Qw,Qw]
 have:L=0∨L=1∨L=2∨L=3:=by omega
 rcases this with rfl|rfl|rfl|rfl<;>omega
theorem Sw {L q b:Nat} (hL:L<=3) (hb:3<=b) (hq:L*q<=b-2):5+L*bS q<=bS b:=by
 rw [Qw,Qw]
 have:L=0∨L=1∨L=2∨L=3:=by omega
 rcases this with rfl|rfl|rfl|rfl<;>omega
theorem Ss {b:Nat} (hb:3<=b):1+(bS (b / 2)+bS (b / 2))<=bS b:=by rw [Qw,Qw];omega
theorem N3 {b:Nat} (hb:3<=b):5+bS (b-2)<=bS b:=by rw [Qw,Qw];omega
theorem Ks {L q b:Nat} (hL:L<=3) (hb:3<=b) (hq:L*q<=b-1):10+L*bC q<=bC b:=by
 rw [Qv,Qv]
 have:L=0∨L=1∨L=2∨L=3:=by omega
 rcases this with rfl|rfl|rfl|rfl<;>omega
theorem Sv {L q b:Nat} (hL:L<=3) (hb:3<=b) (hq:L*q<=b-2):40+L*bC q<=bC b:=by
 rw [Qv,Qv]
 have:L=0∨L=1∨L=2∨L=3:=by omega
 rcases this with rfl|rfl|rfl|rfl<;>omega
theorem Sr {b:Nat} (hb:3<=b):10+(bC (b / 2)+bC (b / 2))<=bC b:=by rw [Qv,Qv];omega
theorem N2 {b:Nat} (hb:3<=b):40+bC (b-2)<=bC b:=by rw [Qv,Qv];omega
theorem Gu (b:Nat):4<=bS b:=by rw [Qw];omega
theorem Gt (b:Nat):40<=bC b:=by rw [Qv];omega
theorem Ux (L b:Nat):L*(b / L)<=b:=Nat.mul_div_le b L
theorem Is {k L C:Nat} (h:k<L):(k+1)*C=k*C+C/\(k+1)*C<=L*C:=⟨by rw [UL,Nat.one_mul],T1 C h⟩
theorem AI {ds:List Zd} {d x:Int} {m k:Nat} (h:(ZW ds d)[k]? = some x):Uq ds 8 d m (1+k)=m+(ZZ ds x).length:=by
 rw [Uq,Zs om,Zw rfl,Zs om,Uy (i:=((1+k:Nat):Int)-1) (by rw [show (((1+k:Nat):Int)-1).toNat=k by omega];exact h)]
section
variable {g:Xw} {m:Nat}
theorem GE.var {z:Int} {q:Nat} (hz:0<=z/\z<m) (hm:m<=2000) (hq:1<=q):GE g m q (.mk 12 z []):=⟨OD hz hm,by simpa [Z1.sz,X0] using hq⟩
theorem GE.list {ys:List Z1} {L s:Nat} (h:∀e∈ys,GE g m s e) (hl:ys.length=L):X0 ys<=L*s:=by rw [<-hl];exact Cl fun e he=>(h e he).2
theorem GE.node {op num:Int} {ys:List Z1} {L s q:Nat} (ho:0<=op/\op<=11/\op≠7/\op≠8) (hc:op=9->0<=num/\num<g.funcs.length) (hn:-2000<=num/\num<=2000) (h:∀e∈ys,GE g m s e) (hl:ys.length=L) (hL:L<=3) (hq:1+L*s<=q):GE g m q (.mk op num ys):=by
 have:=GE.list h hl
 exact ⟨JD ho hc hn om fun e he=>(h e he).1,by rw [Z1.sz];omega⟩
theorem GE.if_ {num:Int} {ys:List Z1} {s q:Nat} (hn:-2000<=num/\num<=2000) (h:∀e∈ys,GE g m s e) (hl:ys.length=3) (hq:1+3*s<=q):GE g m q (.mk 7 num ys):=by
 have:=GE.list h hl
 exact ⟨H0 hn hl fun e he=>(h e he).1,by rw [Z1.sz];omega⟩
theorem GE.let_ {a b:Z1} {s q:Nat} (ha:GE g m s a) (hb:GE g (m+1) s b) (hq:1+(s+s)<=q):GE g m q (.mk 13 0 [a,b]):=by
 refine ⟨H1 om ha.1 hb.1,?_⟩
 have h1:=ha.2
 have h2:=hb.2
 simp only [Z1.sz,X0];omega
theorem GE.two {op num:Int} {a b:Z1} {s1 s2 q:Nat} (ho:0<=op/\op<=11/\op≠7/\op≠8/\op≠9) (hn:-2000<=num/\num<=2000) (ha:GE g m s1 a) (hb:GE g m s2 b) (hq:1+(s1+s2)<=q):GE g m q (.mk op num [a,b]):=by
 refine ⟨JD om (fun h=>by omega) hn (by simp) fun e he=>?_,?_⟩
 ·rcases Yk.1 he with rfl|he
  ·exact ha.1
  ·rw [Xj.1 he];exact hb.1
 ·have h1:=ha.2
  have h2:=hb.2
  simp only [Z1.sz,X0];omega
theorem GE.match_ {d:Int} {e:Z1} {ys:List Z1} {L s q:Nat} (hd:-2000<=d/\d<=2000) (he:GE g m 4 e) (hw:T7 g.decls g.funcs.length (Uq g.decls 8 d m) 1 ys) (hs:∀e∈ys,e.sz<=s) (hl:ys.length=L) (hL:L=(ZW g.decls d).length) (h3:L<=3) (hq:5+L*s<=q):GE g m q (.mk 8 d (e::ys)):=by
 refine ⟨Er hd om om he.1 hw,?_⟩
 have h1:=Cl hs
 rw [hl] at h1
 have h2:=he.2
 rw [Z1.sz,X0];omega
end
def NL (s:Nat) (left w:Int):Prop:=((s:Int)<=left/\w=left-s)∨(left<s/\w=-1)
end Go.Abs
namespace Go.Abs
theorem JQ {L b p pp M:Nat} (hL:L<=3) (hb:3<=b) (h:pp<=p+8) (hp:p+(bC b-1)<=M):pp+L*bC ((b-1) / L)<=M:=by
 have:=Ks hL hb (Ux L (b-1))
 omega
end Go.Abs
end
namespace Go.Abs
theorem OJ (a b:Z1):X0 [a,b]=a.sz+b.sz:=by simp only [X0];omega
theorem Ck (a b c:Z1):X0 [a,b,c]=a.sz+b.sz+c.sz:=by simp only [X0];omega
theorem B3:bS 3=20/\bS 4=30/\bS 12=110/\bS 16=150/\bS 18=170/\bC 3=200/\bC 4=300/\bC 16=1500:=by decide
theorem C5 {b:Nat} (h:b<=20):bS b<=190/\bC b<=1900/\(b<=2->bS b<=10):=by rw [Qw,Qv];omega
section
variable {g:Xw} {m:Nat}
theorem SE.ofs {op num:Int} {ys:List Z1} {q:Nat} (ho:0<=op/\op<=11/\op≠7/\op≠8/\op≠9) (hn:-2000<=num/\num<=2000) (hl:ys.length<=4) (hy:∀e∈ys,∃s,SE g s e) (hq:1+X0 ys<=q):SE g q (.mk op num ys):=
 ⟨fun m=>JD om (fun h=>by omega) hn hl fun e he=>let ⟨_,h⟩:=hy e he;h.1 m,by rw [Z1.sz];exact hq⟩
theorem SE.nil {op num:Int} {q:Nat} (ho:0<=op/\op<=11/\op≠7/\op≠8/\op≠9) (hn:-2000<=num/\num<=2000) (hq:1<=q):SE g q (.mk op num []):=
 SE.ofs ho hn (by simp) (fun e he=>by cases he) (by simpa [X0] using hq)
theorem SE.two {op num:Int} {a b:Z1} {s1 s2 q:Nat} (ho:0<=op/\op<=11/\op≠7/\op≠8/\op≠9) (hn:-2000<=num/\num<=2000) (ha:SE g s1 a) (hb:SE g s2 b) (hq:1+(s1+s2)<=q):SE g q (.mk op num [a,b]):=by
 refine SE.ofs ho hn (by simp) (fun e he=>?_) ?_
 ·rcases Yk.1 he with rfl|he
  ·exact ⟨_,ha⟩
  ·rw [Xj.1 he];exact ⟨_,hb⟩
 ·have h1:=ha.2
  have h2:=hb.2
  rw [OJ];omega
theorem SE.three {op num:Int} {a b c:Z1} {s1 s2 s3 q:Nat} (ho:0<=op/\op<=11/\op≠7/\op≠8/\op≠9) (hn:-2000<=num/\num<=2000) (ha:SE g s1 a) (hb:SE g s2 b) (hc:SE g s3 c) (hq:1+(s1+s2+s3)<=q):SE g q (.mk op num [a,b,c]):=by
 refine SE.ofs ho hn (by simp) (fun e he=>?_) ?_
 ·rcases Yk.1 he with rfl|he
  ·exact ⟨_,ha⟩
  ·rcases Yk.1 he with rfl|he
   ·exact ⟨_,hb⟩
   ·rw [Xj.1 he];exact ⟨_,hc⟩
 ·have h1:=ha.2
  have h2:=hb.2
  have h3:=hc.2
  rw [Ck];omega
theorem GE.int {z:Int} {q:Nat} (hz:-2000<=z/\z<=2000) (hq:1<=q):GE g m q (.mk 0 z []):=(SE.int (g:=g) (q:=q) hz hq).ge (YI _)
theorem GE.three {op num:Int} {a b c:Z1} {s1 s2 s3 q:Nat} (ho:0<=op/\op<=11/\op≠8/\op≠9) (hn:-2000<=num/\num<=2000) (ha:GE g m s1 a) (hb:GE g m s2 b) (hc:GE g m s3 c) (hq:1+(s1+s2+s3)<=q):GE g m q (.mk op num [a,b,c]):=by
 have hk:∀e∈[a,b,c],eW g.decls g.funcs.length m e:=fun e he=>by
  rcases Yk.1 he with rfl|he
  ·exact ha.1
  ·rcases Yk.1 he with rfl|he
   ·exact hb.1
   ·rw [Xj.1 he];exact hc.1
 refine ⟨?_,?_⟩
 ·by_cases h7:op=7
  ·subst h7;exact H0 hn rfl hk
  ·exact JD om (fun h=>by omega) hn (by simp) hk
 ·have h1:=ha.2
  have h2:=hb.2
  have h3:=hc.2
  rw [Z1.sz,Ck];omega
theorem GE.one {op num:Int} {a:Z1} {s1 q:Nat} (ho:0<=op/\op<=11/\op≠7/\op≠8/\op≠9) (hn:-2000<=num/\num<=2000) (ha:GE g m s1 a) (hq:1+s1<=q):GE g m q (.mk op num [a]):=by
 refine ⟨JD om (fun h=>by omega) hn (by simp) fun e he=>?_,?_⟩
 ·rw [Xj.1 he];exact ha.1
 ·have h1:=ha.2
  simp only [Z1.sz,X0];omega
theorem GE.letS {a b:Z1} {s1 s2 q:Nat} (ha:GE g m s1 a) (hb:GE g (m+1) s2 b) (hq:1+(s1+s2)<=q):GE g m q (.mk 13 0 [a,b]):=by
 refine ⟨H1 om ha.1 hb.1,?_⟩
 have h1:=ha.2
 have h2:=hb.2
 simp only [Z1.sz,X0];omega
theorem GE.matchL (hg:GP g) {e a b:Z1} {s1 s2 s3 q:Nat} (he:GE g m s1 e) (ha:GE g m s2 a) (hb:GE g (m+2) s3 b) (hq:1+(s1+s2+s3)<=q):GE g m q (.mk 8 1 [e,a,b]):=by
 have hl:=hg.decls.low
 refine ⟨Er om (by simp) (by rw [hl.2.1];rfl) he.1 ⟨?_,?_,True.intro⟩,?_⟩
 ·rw [AI (k:=0) (x:=0) (by rw [hl.2.1];rfl),hl.2.2.2.2.1];exact ha.1
 ·rw [AI (k:=1) (x:=1) (by rw [hl.2.1];rfl),hl.2.2.2.2.2.1];exact hb.1
 ·have h1:=he.2
  have h2:=ha.2
  have h3:=hb.2
  rw [Z1.sz,Ck];omega
theorem GE.matchT (hg:GP g) {e a b:Z1} {s1 s2 s3 q:Nat} (he:GE g m s1 e) (ha:GE g m s2 a) (hb:GE g (m+3) s3 b) (hq:1+(s1+s2+s3)<=q):GE g m q (.mk 8 3 [e,a,b]):=by
 have hl:=hg.decls.low
 refine ⟨Er om (by simp) (by rw [hl.2.2.2.1];rfl) he.1 ⟨?_,?_,True.intro⟩,?_⟩
 ·rw [AI (k:=0) (x:=2) (by rw [hl.2.2.2.1];rfl),hl.2.2.2.2.2.2.1];exact ha.1
 ·rw [AI (k:=1) (x:=3) (by rw [hl.2.2.2.1];rfl),hl.2.2.2.2.2.2.2];exact hb.1
 ·have h1:=he.2
  have h2:=ha.2
  have h3:=hb.2
  rw [Z1.sz,Ck];omega
theorem DU {α:Type} {p:α->Prop} {a:α} (h:p a):∀x∈[a],p x:=fun x hx=>by rw [Xj.1 hx];exact h
end
structure DJ (g:Xw):Prop where
 gp:GP g
 body:∀f∈g.funcs,eW g.decls g.funcs.length f.params.length f.body/\f.body.sz<=30
structure GL (ds:List Zd) (k j:Nat) (rq:List Func):Prop where
 len:rq.length=4
 sigs:∀f∈rq,U3 f
 zero:∀f,rq[0]? = some f->f.params.length=0
 body:∀i f,j<=i->i<k->rq[i]? = some f->eW ds k f.params.length f.body/\f.body.sz<=30
theorem GL.gp {ds:List Zd} {k j:Nat} {rq:List Func} (h:GL ds k j rq) (hd:GD ds) (hk:1<=k/\k<=4):GP ⟨ds,rq.take k⟩:=
 ⟨hd,by show 1<=(rq.take k).length/\_;rw [W9,h.len];omega,fun f hf=>h.sigs f (To hf)⟩
theorem GL.len_take {ds:List Zd} {k j:Nat} {rq:List Func} (h:GL ds k j rq) (hk:k<=4):(rq.take k).length=k:=by rw [W9,h.len];omega
theorem GL.set {ds:List Zd} {k j:Nat} {rq:List Func} {f:Func} {e:Z1} (h:GL ds k j rq) (hj:1<=j) (hf:rq[j-1]? = some f) (he:eW ds k f.params.length e/\e.sz<=30):GL ds k (j-1) (rq.set (j-1) ⟨f.params,f.result,e⟩):=by
 have hl:=(Xl.1 hf).1
 refine ⟨by rw [Ub];exact h.len,fun x hx=>?_,fun x hx=>?_,fun i x h1 h2 hx=>?_⟩
 ·rcases List.mem_or_eq_of_mem_set hx with hx|rfl
  ·exact h.sigs x hx
  ·exact h.sigs f (ZT hf)
 ·rw [List.getElem?_set] at hx
  split at hx
  ·rename_i h0
   cases hx
   exact h.zero f (by rw [<-h0];exact hf)
  ·exact h.zero x hx
 ·rw [List.getElem?_set] at hx
  split at hx
  ·cases hx
   exact he
  ·exact h.body i x om h2 hx
theorem GL.done {ds:List Zd} {k:Nat} {rq:List Func} (h:GL ds k 0 rq) (hd:GD ds) (hk:1<=k/\k<=4):DJ ⟨ds,rq.take k⟩:=by
 refine ⟨h.gp hd hk,fun f hf=>?_⟩
 show eW ds (rq.take k).length _ _/\_
 rw [h.len_take hk.2]
 obtain ⟨i,hi⟩:=List.getElem?_of_mem hf
 have hi2:i<(rq.take k).length:=(Xl.1 hi).1
 rw [h.len_take hk.2] at hi2
 rw [List.getElem?_take_of_lt hi2] at hi
 exact h.body i f om hi2 hi
theorem Fz {l:List Func} {f:Func} {k:Nat} (h:l[k]? = some f) (hl:l.all (fun f=>decide ((f.params,f.result)∈Qs))=true):U3 f:=show (f.params,f.result)∈Qs from of_decide_eq_true (QV.1 hl f (ZT h))
theorem GL.start {ds:List Zd} {k:Nat} {e:Z1} {a b c:Func} (ha:U3 a) (hb:U3 b) (hc:U3 c):GL ds k k [⟨[],0,e⟩,a,b,c]:=by
 refine ⟨rfl,fun f hf=>?_,fun f hf=>?_,fun i f h1 h2=>by omega⟩
 ·rcases Yk.1 hf with rfl|hf
  ·exact List.Mem.head _
  ·rcases Yk.1 hf with rfl|hf
   ·exact ha
   ·rcases Yk.1 hf with rfl|hf
    ·exact hb
    ·rw [Xj.1 hf];exact hc
 ·cases hf;rfl
theorem SO {l:LI} {k:Nat} {a b:Nat} (h:(k:Int)∈l) (hl:l.all (fun x=>decide ((a:Int)<=x/\x<=b))=true):a<=k/\k<=b:=by
 have:=of_decide_eq_true (QV.1 hl _ h)
 omega
mutual
def Th (p:Int->Prop):Z3->Prop
 | .mk op _ _ _ kids=>p op/\Tg p kids
def Tg (p:Int->Prop):List Z4->Prop
 | []=>True
 | b::r=>Wq p b/\Tg p r
def Un (p:Int->Prop):List Z3->Prop
 | []=>True
 | s::r=>Th p s/\Un p r
def Wq (p:Int->Prop):Z4->Prop
 | .mk steps _=>Un p steps
end
section
variable {p q:Int->Prop}
theorem BD (s:Z3):Th p s↔p s.op/\Tg p s.kids:=by cases s;rw [Th];rfl
theorem CY (b:Z4):Wq p b↔Un p b.steps:=by cases b;rw [Wq];rfl
theorem AA:∀{xs:List Z4},Tg p xs↔∀b∈xs,Wq p b
 | []=>by simp [Tg]
 | b::r=>by rw [Tg,AA];simp
theorem JT:∀{xs:List Z3},Un p xs↔∀b∈xs,Th p b
 | []=>by simp [Un]
 | b::r=>by rw [Un,JT];simp
theorem CZ {xs ys:List Z3}:Un p (xs++ys)↔Un p xs/\Un p ys:=by simp only [JT,YP];exact ⟨fun h=>⟨fun b hb=>h b (.inl hb),fun b hb=>h b (.inr hb)⟩,fun h b hb=>hb.elim (h.1 b) (h.2 b)⟩
theorem ID {xs:List Z4} {b:Z4} (h:Tg p xs) (hb:Wq p b):Tg p (xs++[b]):=AA.2 (X2 (AA.1 h) hb)
theorem D0 {xs:List Z3} {b:Z3} (h:Un p xs) (hb:Th p b):Un p (xs++[b]):=JT.2 (X2 (JT.1 h) hb)
end
def XZ (op:Int):Prop:=op<=11
def Wx (op:Int):Prop:=op<=15
end Go.Abs
section
namespace Go.Abs
structure LW (ds:List Zd) (nf q:Nat) (e:Z1) (ys:List Z3) (v:Int):Prop where
 fs:VV ds nf q ys
 v:0<=v/\v<(q+Yy ys:Nat)
 sz:Y5 ys<=6*e.sz
 op:Un XZ ys
theorem LW.dn {ds:List Zd} {nf q:Nat} {e:Z1} {ys:List Z3} {v:Int} (h:LW ds nf q e ys v):Yy ys<=6*e.sz/\ys.length<=6*e.sz:=by
 have h1:=Jy ys
 have h2:=Qk ys
 have h3:=h.sz
 omega
structure LB (ds:List Zd) (nf q:Nat) (e:Z1) (b:Z4):Prop where
 fb:fB ds nf q b
 sz:b.sz<=1+6*e.sz
 op:Wq XZ b
section
variable {ds:List Zd} {nf q:Nat}
theorem B4:∀xs ys:List Z4,YH (xs++ys)=YH xs+YH ys
 | [],ys=>by simp [YH]
 | x::r,ys=>by rw [Qp,YH,YH,B4 r];omega
theorem LW.block {e:Z1} {ys:List Z3} {v:Int} (h:LW ds nf q e ys v):LB ds nf q e ⟨ys,v⟩:=
 ⟨by rw [fB];exact ⟨h.fs,h.v⟩,by rw [Z4.sz];have:=h.sz;omega,by rw [Wq];exact h.op⟩
theorem LW.var {e:Z1} {v:Int} (hv:0<=v/\v<q):LW ds nf q e [] v:=⟨True.intro,by simpa [Yy] using hv,by simp [Y5],True.intro⟩
theorem LW.let_ {e a b:Z1} {ys zs:List Z3} {v1 v2:Int} (ha:LW ds nf q a ys v1) (hb:LW ds nf (q+Yy ys) b zs v2) (he:a.sz+b.sz<e.sz):LW ds nf q e (ys++zs) v2:=by
 refine ⟨Ao.2 ⟨ha.fs,hb.fs⟩,by rw [Qc,<-KF];exact hb.v,?_,CZ.2 ⟨ha.op,hb.op⟩⟩
 have h1:=ha.sz
 have h2:=hb.sz
 rw [U0];omega
theorem B7 {ys:List Z3} {s:Z3} (h:YA s.op=false):Yy (ys++[s])=Yy ys+1:=by
 rw [Qc]
 simp [Yy,h]
theorem LW.node {e:Z1} {ys:List Z3} {as1:LI} (ho:0<=e.op/\e.op<=11/\e.op≠7/\e.op≠8) (hc:e.op=9->0<=e.num/\e.num<nf) (hn:-2000<=e.num/\e.num<=2000) (hf:VV ds nf q ys) (ha:∀a∈as1,0<=a/\a<(q+Yy ys:Nat)) (hl:as1.length<=4) (hs:Y5 ys<=6*X0 e.kids) (hop:Un XZ ys) :
  LW ds nf q e (ys++[⟨e.op,e.num,0,as1,[]⟩]) ((q+Yy ys:Nat):Int):=by
 have hcb:YA e.op=false:=by simp [YA];omega
 refine ⟨Cp hf ?_,?_,?_,D0 hop (by rw [Th];exact ⟨by show e.op<=11;omega,True.intro⟩)⟩
 ·rw [fS]
  exact ⟨.inl ⟨by omega,by omega⟩,ha,fun h=>by omega,fun h=>by omega,fun h=>by omega,fun h=>by omega,hc,hn,by omega,hl,fun _=>rfl,True.intro⟩
 ·rw [B7 (show YA (Z3.mk e.op e.num 0 as1 []).op=false from hcb)];omega
 ·rw [U0,e.sz_eq]
  simp only [Y5,Z3.sz,YH]
  omega
theorem LW.branch {e:Z1} {ys:List Z3} {v:Int} {bs:List Z4} {s0 sr:Nat} (ho:e.op=7∨e.op=8) (h7:e.op=7->bs.length=2) (h8:e.op=8->bs.length=(ZW ds e.num).length) (hn:-2000<=e.num/\e.num<=2000) (hf:VV ds nf q ys) (hv:0<=v/\v<(q+Yy ys:Nat))
  (hb:Uh ds nf (VM ds e.op e.num (q+Yy ys)) 0 bs) (hl:bs.length<=3) (h0:Y5 ys<=6*s0) (h1:YH bs<=bs.length+6*sr) (hs:s0+sr<=X0 e.kids) (hop:Un XZ ys) (hob:Tg XZ bs):LW ds nf q e (ys++[⟨e.op,e.num,0,[v],bs⟩]) ((q+Yy ys:Nat):Int):=by
 have hcb:YA e.op=false:=by simp [YA];omega
 refine ⟨Cp hf ?_,?_,?_,D0 hop (by rw [Th];exact ⟨by show e.op<=11;omega,hob⟩)⟩
 ·rw [fS]
  exact ⟨.inl ⟨by omega,by omega⟩,fun a ha=>by rw [Xj.1 ha];exact hv,fun h=>by omega,h7,h8,fun _=>⟨v,rfl⟩,fun h=>by omega,hn,by omega,by simp,fun h=>by omega,hb⟩
 ·rw [B7 (show YA (Z3.mk e.op e.num 0 [v] bs).op=false from hcb)];omega
 ·rw [U0,e.sz_eq]
  simp only [Y5,Z3.sz,Yw,YY]
  omega
theorem Lr {ds:List Zd} {op num:Int} {m k:Nat} (h:op=13):Uq ds op num m k=m+k:=Zw h
theorem Z1c {ds:List Zd} {op num:Int} {m:Nat} (h:op≠13):Uq ds op num m 0=m:=by simp [Uq,h]
theorem Ls {ds:List Zd} {op num:Int} {m k:Nat} (h:op≠13/\op≠8):Uq ds op num m k=m:=by simp [Uq,h.1,h.2]
theorem Z1d {ds:List Zd} {op num x:Int} {m k j:Nat} (h:op=8) (hk:k=j+1) (hx:(ZW ds num)[j]? = some x):Uq ds op num m k=m+(ZZ ds x).length:=by
 subst h;subst hk;rw [Nat.add_comm j 1];exact AI hx
theorem Fx {ds:List Zd} {op num x:Int} {m j:Nat} (h:op=8) (hx:(ZW ds num)[j]? = some x):VM ds op num m j=m+(ZZ ds x).length:=by
 rw [VM,Zw h,Uy (i:=(j:Int)) (by simpa using hx)]
theorem Fy {ds:List Zd} {op num:Int} {m j:Nat} (h:op≠8):VM ds op num m j=m:=Zs h
theorem KY {xs:List Z1} {k:Nat} {e:Z1} (h:xs[k]? = some e):X0 (xs.take (k+1))=X0 (xs.take k)+e.sz:=by rw [Vf h,B9,X0,X0];rfl
theorem Ke {xs:List Z1} (k:Nat):X0 (xs.take k)<=X0 xs:=by
 have h:=Yh X0 (U2 k xs)
 rw [B9] at h;omega
theorem H7 {xs:List Z1} {a b:Z1} (ha:xs[0]? = some a) (hb:xs[1]? = some b):a.sz+b.sz<=X0 xs:=by
 have h1:X0 (xs.take 1)=X0 (xs.take 0)+a.sz:=KY ha
 have h2:X0 (xs.take 2)=X0 (xs.take 1)+b.sz:=KY hb
 have h3:=Ke (xs:=xs) 2
 omega
theorem BR {us:LI} {v:Int} {d:Nat} (hu:∀a∈us,0<=a/\a<(q:Int)) (hv:0<=v/\v<(q+d:Nat)):∀a∈us++[v],0<=a/\a<((q+d:Nat):Int):=
 X2 (fun a ha=>by have:=hu a ha;omega) hv
theorem Dw {us:LI} {d:Nat} (hu:∀a∈us,0<=a/\a<(q:Int)):∀a∈us,0<=a/\a<((q+d:Nat):Int):=fun a ha=>by have:=hu a ha;omega
theorem Z3t {us ns:LI} {d mf:Nat} (hu:∀a∈us,0<=a/\a<(q:Int)) (hn:∀i∈ns,((q+d:Nat):Int)<=i/\i<((q+d:Nat):Int)+mf):∀a∈us++ns,0<=a/\a<((q+d+mf:Nat):Int):=fun a ha=>by
 rcases YP.1 ha with h|h
 ·have:=hu a h;omega
 ·have:=hn a h;omega
theorem C7:∀bs:List Z4,bs.length<=YH bs
 | []=>YI _
 | b::r=>by have:=C7 r;have:=b.sz_pos;rw [YH,Yw];omega
end
end Go.Abs
namespace Go.Abs
structure RF (ds:List Zd) (nf q:Nat) (p:Int->Prop) (r:Y1):Prop where
 sig:(r.params,r.result)∈Qs
 lent:r.lent.length<=3/\∀i∈r.lent,0<=i/\i<r.params.length
 body:fB ds nf r.params.length r.body/\r.body.sz<=q
 op:Wq p r.body
structure FO (n:Zu) (q:Nat) (p:Int->Prop):Prop where
 fn:FN n q
 op:∀r∈n.routines,Wq p r.body
theorem FO.rf {n:Zu} {q:Nat} {p:Int->Prop} (h:FO n q p) {r:Y1} (hr:r∈n.routines):RF n.decls n.routines.length q p r:=⟨h.fn.sigs r hr,h.fn.lent r hr,h.fn.body r hr,h.op r hr⟩
theorem FO.all {n:Zu} {q:Nat} {p:Int->Prop} (hd:GD n.decls) (hl:1<=n.routines.length/\n.routines.length<=4) (h:∀r∈n.routines,RF n.decls n.routines.length q p r):FO n q p:=
 ⟨⟨hd,hl,fun r hr=>(h r hr).sig,fun r hr=>(h r hr).lent,fun r hr=>(h r hr).body⟩,fun r hr=>(h r hr).op⟩
structure RN (ds:List Zd) (nf:Nat) (r:Y1):Prop where
 sig:(r.params,r.result)∈Qs
 lent:r.lent=[]
 body:fB ds nf r.params.length r.body/\r.body.sz<=181
 op:Wq XZ r.body
theorem RN.all {n:Zu} {q:Nat} (hd:GD n.decls) (hl:1<=n.routines.length/\n.routines.length<=4) (h:∀r∈n.routines,RN n.decls n.routines.length r) (hq:181<=q):FO n q XZ:=
 FO.all hd hl fun r hr=>⟨(h r hr).sig,by rw [(h r hr).lent];exact ⟨by simp,fun i hi=>by cases hi⟩,⟨(h r hr).body.1,Wv (h r hr).body.2 hq⟩,(h r hr).op⟩
end Go.Abs
namespace Go.Abs
theorem RN.of {ds:List Zd} {nf:Nat} {ps:LI} {rt:Int} {b:Z4} {e:Z1} (hs:(ps,rt)∈Qs) (h:LB ds nf ps.length e b) (he:e.sz<=30):RN ds nf ⟨ps,[],rt,Z4.mk b.steps b.result⟩:=by
 have e1:Z4.mk b.steps b.result=b:=by cases b;rfl
 rw [e1]
 exact ⟨hs,rfl,⟨h.fb,by have:=h.sz;show b.sz<=181;omega⟩,h.op⟩
end Go.Abs
end
namespace Go.Abs
theorem FL:∀{xs:List Z3} {s:Z3},s∈xs->s.sz<=Y5 xs
 | [],s,h=>by cases h
 | x::r,s,h=>by
  rw [Y5]
  rcases Yk.1 h with rfl|h
  ·omega
  ·have:=FL h;omega
theorem DZ:∀{xs:List Z4} {b:Z4},b∈xs->b.sz<=YH xs
 | [],b,h=>by cases h
 | x::r,b,h=>by
  rw [YH]
  rcases Yk.1 h with rfl|h
  ·omega
  ·have:=DZ h;omega
structure LC (n:Zu) (k:Nat) (xs:List LI):Prop where
 len:xs.length=k
 ok:∀(i:Nat) (l:LI),xs[i]? = some l->l.length<=3/\∀r,n.routines[i]? = some r->∀v∈l,0<=v/\v<(r.params.length:Int)
theorem LC.nil {n:Zu}:LC n 0 []:=⟨rfl,fun i l h=>by simp at h⟩
theorem LC.snoc {n:Zu} {k:Nat} {xs:List LI} {l:LI} (h:LC n k xs) (hl:l.length<=3) (hv:∀r,n.routines[k]? = some r->∀v∈l,0<=v/\v<(r.params.length:Int)):LC n (k+1) (xs++[l]):=by
 refine ⟨by rw [Yb,h.len];rfl,fun i l' hi=>?_⟩
 by_cases hk:i<xs.length
 ·rw [BV hk] at hi
  exact h.ok i l' hi
 ·rw [DD om] at hi
  have h0:i-xs.length=0:=by
   cases e:i-xs.length with
   | zero=>rfl
   | succ q=>rw [e] at hi;simp at hi
  rw [h0] at hi
  cases hi
  have e:i=k:=by have:=h.len;omega
  subst e
  exact ⟨hl,hv⟩
def Wo:LI->Int->LI
 | [],y=>[y]
 | x::r,y=>if x>y then y::x::r else if x=y then x::r else x::Wo r y
def UF (d:Bool) (xs:LI) (y:Int):LI:=if d=true then xs else Wo xs y
theorem CH {xs:LI} {y:Int}:UF true xs y=xs:=rfl
theorem CG {xs:LI} {y:Int}:UF false xs y=Wo xs y:=rfl
theorem HY {xs acc r:LI} {y x:Int} {k:Nat} {d:Bool} (hx:xs[k]? = some x) (hd:d=true) (h:acc++UF d (xs.drop k) y=r):(acc++[x])++UF d (xs.drop (k+1)) y=r:=by
 subst hd
 rw [CH,Ye hx] at h
 rw [CH,<-h];simp
theorem RM {xs acc r:LI} {y x:Int} {k:Nat} {d:Bool} (hx:xs[k]? = some x) (hd:¬d=true) (hl:¬x>=y) (h:acc++UF d (xs.drop k) y=r):(acc++[x])++UF d (xs.drop (k+1)) y=r:=by
 have hd:=BU.2 hd
 subst hd
 rw [CG,Ye hx,Wo,Zs om,Zs om] at h
 rw [CG,<-h];simp
theorem RO {xs acc r:LI} {y x:Int} {k:Nat} {d:Bool} (hx:xs[k]? = some x) (hd:¬d=true) (hl:x>y) (h:acc++UF d (xs.drop k) y=r):((acc++[y])++[x])++UF true (xs.drop (k+1)) y=r:=by
 have hd:=BU.2 hd
 subst hd
 rw [CG,Ye hx,Wo,Zw hl] at h
 rw [CH,<-h];simp
theorem RP {xs acc r:LI} {y x:Int} {k:Nat} {d:Bool} (hx:xs[k]? = some x) (hd:¬d=true) (hl:x=y) (h:acc++UF d (xs.drop k) y=r):(acc++[x])++UF true (xs.drop (k+1)) y=r:=by
 have hd:=BU.2 hd
 subst hd
 rw [CG,Ye hx,Wo,Zs om,Zw hl] at h
 rw [CH,<-h];simp
theorem RL {xs acc acc2 r:LI} {y x:Int} {k:Nat} {d d2:Bool} (hx:xs[k]? = some x) (h:acc++UF d (xs.drop k) y=r)
  (hc:(acc2=acc/\d2=d/\(d=true∨¬x>=y))∨(acc2=acc++[y]/\d2=true/\¬d=true/\x>y)∨(acc2=acc/\d2=true/\¬d=true/\x=y)):(acc2++[x])++UF d2 (xs.drop (k+1)) y=r:=by
 rcases hc with ⟨rfl,rfl,h3⟩|⟨rfl,rfl,h3,h4⟩|⟨rfl,rfl,h3,h4⟩
 ·rcases h3 with h3|h3
  ·exact HY hx h3 h
  ·by_cases q:d2=true
   ·exact HY hx q h
   ·exact RM hx q h3 h
 ·exact RO hx h3 h4 h
 ·exact RP hx h3 h4 h
theorem RK {xs acc r:LI} {y:Int} {k:Nat} {d:Bool} (hk:xs.length<=k) (h:acc++UF d (xs.drop k) y=r):(if d=true then acc else acc++[y])=r:=by
 rw [Xk hk] at h
 by_cases q:d=true
 ·rw [UF,Zw q,Tn] at h;rw [Zw q];exact h
 ·rw [UF,Zs q,Wo] at h;rw [Zs q];exact h
theorem At:∀(xs:LI) (y:Int),(Wo xs y).length<=xs.length+1
 | [],y=>YI _
 | x::r,y=>by
  have:=At r y
  rw [Wo]
  split
  ·simp
  ·split
   ·simp
   ·simp only [Yw];omega
theorem Bq:∀{xs:LI} {y z:Int},z∈Wo xs y↔z∈xs∨z=y
 | [],y,z=>by simp [Wo]
 | x::r,y,z=>by
  rw [Wo]
  split
  ·simp only [Yk];exact ⟨fun h=>h.elim .inr .inl,fun h=>h.elim .inr .inl⟩
  ·split
   ·rename_i h;subst h;simp only [Yk];exact ⟨fun h=>.inl h,fun h=>h.elim id .inl⟩
   ·simp only [Yk,Bq (xs:=r)];exact ⟨fun h=>by rcases h with h|h|h<;>simp [h],fun h=>by rcases h with (h|h)|h<;>simp [h]⟩
def Jo (xs:LI):Prop:=xs.Pairwise (·<·)
theorem HW:∀{xs:LI} {y:Int},Jo xs->Jo (Wo xs y)
 | [],y,_=>by simp [Wo,Jo]
 | x::r,y,h=>by
  obtain ⟨h1,h2⟩:=XX.1 h
  rw [Wo]
  split
  ·rename_i q
   refine XX.2 ⟨fun z hz=>?_,h⟩
   rcases Yk.1 hz with rfl|hz
   ·omega
   ·have:=h1 z hz;omega
  ·split
   ·exact h
   ·refine XX.2 ⟨fun z hz=>?_,HW h2⟩
    rcases Bq.1 hz with hz|rfl
    ·exact h1 z hz
    ·omega
def Uo:LI->Int->LI
 | [],_=>[]
 | x::r,y=>if x=y then Uo r y else x::Uo r y
theorem BF:∀(xs:LI) (y:Int),(Uo xs y).length<=xs.length
 | [],y=>YI _
 | x::r,y=>by
  have:=BF r y
  rw [Uo]
  split
  ·rw [Yw];omega
  ·rw [Yw,Yw];omega
theorem AB:∀{xs:LI} {y z:Int},z∈Uo xs y->z∈xs
 | [],y,z,h=>by rw [Uo] at h;exact h
 | x::r,y,z,h=>by
  rw [Uo] at h
  split at h
  ·exact Xb _ (AB h)
  ·rcases Yk.1 h with rfl|h
   ·exact YM ..
   ·exact Xb _ (AB h)
theorem Z08 {xs acc r:LI} {y x:Int} {k:Nat} (hx:xs[k]? = some x) (h:acc++Uo (xs.drop k) y=r):(if x≠y then acc++[x] else acc)++Uo (xs.drop (k+1)) y=r:=by
 rw [Ye hx,Uo] at h
 by_cases q:x=y
 ·rw [Zw q] at h;rw [Zs (fun z=>z q)];exact h
 ·rw [Zs q] at h;rw [Zw q,<-h];simp
theorem Z07 {xs acc r:LI} {y:Int} {k:Nat} (hk:xs.length<=k) (h:acc++Uo (xs.drop k) y=r):acc=r:=by
 rw [Xk hk,Uo,Tn] at h;exact h
def WI (n:Int) (xs:LI) (a:Int):LI:=if 0<=a/\a<n then Wo xs a else xs
def Vo (n:Int):LI->LI->LI
 | [],xs=>xs
 | a::r,xs=>Vo n r (WI n xs a)
mutual
def UY (n:Int):Z3->LI->LI
 | .mk op _ _ args kids,xs=>if YA op=true then xs else UH n kids (Vo n args xs)
def UH (n:Int):List Z4->LI->LI
 | [],xs=>xs
 | b::r,xs=>UH n r (V1 n b xs)
def WJ (n:Int):List Z3->LI->LI
 | [],xs=>xs
 | s::r,xs=>WJ n r (UY n s xs)
def V1 (n:Int):Z4->LI->LI
 | .mk steps result,xs=>WI n (WJ n steps xs) result
end
section
variable {n:Int}
theorem Mq (s:Z3) (xs:LI):UY n s xs=if YA s.op=true then xs else UH n s.kids (Vo n s.args xs):=by cases s;rw [UY];rfl
theorem Mn (b:Z4) (xs:LI):V1 n b xs=WI n (WJ n b.steps xs) b.result:=by cases b;rw [V1];rfl
theorem BQ (xs:LI) (a:Int):(WI n xs a).length<=xs.length+1:=by
 rw [WI];split
 ·exact At xs a
 ·omega
theorem Ml:∀(as1 xs:LI),(Vo n as1 xs).length<=xs.length+as1.length
 | [],xs=>YI _
 | a::r,xs=>by
  have h1:=Ml r (WI n xs a)
  have h2:=BQ (n:=n) xs a
  rw [Vo,Yw];omega
mutual
theorem Mr:∀(s:Z3) (xs:LI),(UY n s xs).length<=xs.length+s.sz
 | .mk op num into args kids,xs=>by
  have h1:=Mo kids (Vo n args xs)
  have h2:=Ml (n:=n) args xs
  rw [UY,Z3.sz];split<;>omega
theorem Mo:∀(bs:List Z4) (xs:LI),(UH n bs xs).length<=xs.length+YH bs
 | [],xs=>YI _
 | b::r,xs=>by
  have h1:=Mo r (V1 n b xs)
  have h2:=Dt b xs
  rw [UH,YH];omega
theorem Du:∀(bs:List Z3) (xs:LI),(WJ n bs xs).length<=xs.length+Y5 bs
 | [],xs=>YI _
 | b::r,xs=>by
  have h1:=Du r (UY n b xs)
  have h2:=Mr b xs
  rw [WJ,Y5];omega
theorem Dt:∀(b:Z4) (xs:LI),(V1 n b xs).length<=xs.length+b.sz
 | .mk steps result,xs=>by
  have h1:=Du steps xs
  have h2:=BQ (n:=n) (WJ n steps xs) result
  rw [V1,Z4.sz];omega
end
theorem Z3m {as1 ys r:LI} {k:Nat} {a:Int} (h:as1[k]? = some a) (ha:Vo n (as1.drop k) ys=r):Vo n (as1.drop (k+1)) (WI n ys a)=r:=by
 rw [Ye h,Vo] at ha;exact ha
theorem Z3p {bs:List Z4} {ys r:LI} {k:Nat} {b:Z4} (h:bs[k]? = some b) (ha:UH n (bs.drop k) ys=r):UH n (bs.drop (k+1)) (V1 n b ys)=r:=by
 rw [Ye h,UH] at ha;exact ha
theorem Z3s {bs:List Z3} {ys r:LI} {k:Nat} {b:Z3} (h:bs[k]? = some b) (ha:WJ n (bs.drop k) ys=r):WJ n (bs.drop (k+1)) (UY n b ys)=r:=by
 rw [Ye h,WJ] at ha;exact ha
theorem Z3l {as1 ys r:LI} {k:Nat} (h:as1.length<=k) (ha:Vo n (as1.drop k) ys=r):ys=r:=by rw [Xk h,Vo] at ha;exact ha
theorem Z3o {bs:List Z4} {ys r:LI} {k:Nat} (h:bs.length<=k) (ha:UH n (bs.drop k) ys=r):ys=r:=by rw [Xk h,UH] at ha;exact ha
theorem Z3r {bs:List Z3} {ys r:LI} {k:Nat} (h:bs.length<=k) (ha:WJ n (bs.drop k) ys=r):ys=r:=by rw [Xk h,WJ] at ha;exact ha
end
theorem Gc {s:Z3} (h:Cn s):∃a,s.args=[a]:=⟨gI s.args 0,by have:=Yh Z3.args h;exact this⟩
section
variable {xs:LI} {v:Int} {lo hi:Nat}
end
section
variable {m:Int} {xs du dr:List Z3} {lf:LI} {d:Bool} {k:Nat} {s:Z3} {W:List Z3 × List Z3 × LI}
end
def Ys:List Z3->Nat
 | []=>0
 | s::r=>if YA s.op=true then Ys r+1 else 0
def Xx (op x:Int):List Z3->Int->Int
 | [],_=>-1
 | s::r,k=>if s.op=op/\gI s.args 0=x then k else Xx op x r (k+1)
def Tu (many:Nat) (s:Z3):Prop:=(s.op=6/\s.into=0)/\s.args.length=many
instance (many:Nat) (s:Z3):Decidable (Tu many s):=by unfold Tu;infer_instance
def XN (many:Nat):List Z3->Int->Int
 | [],_=>-1
 | s::r,k=>if Tu many s then k else XN many r (k+1)
def J0 (xs:List Z3) (i:Int):Z3:=xs[i.toNat]?.getD (Zl 0 0)
def Td (v:Int) (s:Z3):Z3:=.mk s.op s.num v s.args s.kids
def Ws (xs:List Z3) (x:Int):Int:=Xx 16 x (xs.take (Ys xs)) 0
def XT (xs:List Z3) (many:Nat):Int:=XN many (xs.drop (Ys xs)) (Ys xs)
def Vd (xs:List Z3) (x:Int) (many:Nat):List Z3:=
 if Ws xs x<0∨XT xs many<0 then xs else (xs.set (Ws xs x).toNat (Zl 17 x)).set (XT xs many).toNat (Td (1+x) (J0 xs (XT xs many)))
def V7 (b:Z4) (x:Int) (many:Nat):Z4:=.mk (Vd b.steps x many) b.result
mutual
def Tj (ds:List Zd) (kept:LI):Z3->Z3
 | .mk op num into args kids=>.mk op num into args (Vy ds kept op num args kids 0)
def Vy (ds:List Zd) (kept:LI) (op num:Int) (args:LI):List Z4->Nat->List Z4
 | [],_=>[]
 | b::r,k=>(if op=8/\¬gI args 0∈kept then V7 (XW ds (if Ws b.steps (gI args 0)<0∨XT b.steps (Vv ds num k).length<0 then kept else gI args 0::kept) b) (gI args 0) (Vv ds num k).length else XW ds kept b)::Vy ds kept op num args r (k+1)
def Vz (ds:List Zd) (kept:LI):List Z3->List Z3
 | []=>[]
 | s::r=>Tj ds kept s::Vz ds kept r
def XW (ds:List Zd) (kept:LI):Z4->Z4
 | .mk steps result=>.mk (Vz ds kept steps) result
end
def CJ (ds:List Zd) (kept:LI) (num:Int) (args:LI) (k:Nat) (b:Z4):LI:=if Ws b.steps (gI args 0)<0∨XT b.steps (Vv ds num k).length<0 then kept else gI args 0::kept
def Up (ds:List Zd) (kept:LI) (op num:Int) (args:LI) (k:Nat) (b:Z4):Z4:=if op=8/\¬gI args 0∈kept then V7 (XW ds (CJ ds kept num args k b) b) (gI args 0) (Vv ds num k).length else XW ds kept b
theorem Jd (ds:List Zd) (kept:LI) (s:Z3):Tj ds kept s=.mk s.op s.num s.into s.args (Vy ds kept s.op s.num s.args s.kids 0):=by cases s;rw [Tj];rfl
theorem D7 (ds:List Zd) (kept:LI) (b:Z4):XW ds kept b=.mk (Vz ds kept b.steps) b.result:=by cases b;rw [XW];rfl
theorem D9 (ds:List Zd) (kept:LI):∀xs:List Z3,Vz ds kept xs=xs.map (Tj ds kept)
 | []=>rfl
 | s::r=>by rw [Vz,D9 ds kept r];rfl
section
variable {ds:List Zd} {kept:LI}
theorem Z12 {xs acc r:List Z3} {k:Nat} {s:Z3} (h:xs[k]? = some s) (ha:acc++Vz ds kept (xs.drop k)=r) :
  (acc++[.mk s.op s.num s.into s.args (Vy ds kept s.op s.num s.args s.kids 0)])++Vz ds kept (xs.drop (k+1))=r:=by
 rw [Ye h,Vz,Jd] at ha
 rw [<-ha];simp
theorem Z11 {xs acc r:List Z3} {k:Nat} (h:xs.length<=k) (ha:acc++Vz ds kept (xs.drop k)=r):acc=r:=by
 rw [Xk h,Vz,Tn] at ha;exact ha
theorem Z0w {op num:Int} {args:LI} {bs acc r:List Z4} {k:Nat} {b:Z4} (h:bs[k]? = some b) (ha:acc++Vy ds kept op num args (bs.drop k) k=r) :
  (acc++[Up ds kept op num args k b])++Vy ds kept op num args (bs.drop (k+1)) (k+1)=r:=by
 rw [Ye h,Vy] at ha
 rw [<-ha,Up,CJ];simp
theorem Z0v {op num:Int} {args:LI} {bs acc r:List Z4} {k j:Nat} (h:bs.length<=k) (ha:acc++Vy ds kept op num args (bs.drop k) j=r):acc=r:=by
 rw [Xk h,Vy,Tn] at ha;exact ha
end
section
variable {ds:List Zd}
mutual
theorem Z0z:∀(s:Z3) {K K':LI},(∀z,z∈K↔z∈K')->Tj ds K s=Tj ds K' s
 | .mk op num into args kids,K,K',h=>by rw [Tj,Tj,Li kids h]
theorem Li:∀(bs:List Z4) {K K':LI} {op num:Int} {args:LI} {k:Nat},(∀z,z∈K↔z∈K')->Vy ds K op num args bs k=Vy ds K' op num args bs k
 | [],_,_,_,_,_,_,_=>by rw [Vy,Vy]
 | b::r,K,K',op,num,args,k,h=>by
  have h1:=Li r (op:=op) (num:=num) (args:=args) (k:=k+1) h
  have h2:=Ft b h
  have h3:∀z,z∈(gI args 0::K)↔z∈(gI args 0::K'):=fun z=>by rw [Yk,Yk,h z]
  have h4:=Ft b h3
  rw [Vy,Vy,h1,h2]
  congr 1
  by_cases hq:op=8/\¬gI args 0∈K
  ·have hq':op=8/\¬gI args 0∈K':=⟨hq.1,fun z=>hq.2 ((h _).2 z)⟩
   rw [Zw hq,Zw hq']
   congr 1
   split
   ·exact h2
   ·exact h4
  ·have hq':¬(op=8/\¬gI args 0∈K'):=fun z=>hq ⟨z.1,fun y=>z.2 ((h _).1 y)⟩
   rw [Zs hq,Zs hq']
theorem Lk:∀(xs:List Z3) {K K':LI},(∀z,z∈K↔z∈K')->Vz ds K xs=Vz ds K' xs
 | [],_,_,_=>by rw [Vz,Vz]
 | s::r,K,K',h=>by rw [Vz,Vz,Z0z s h,Lk r h]
theorem Ft:∀(b:Z4) {K K':LI},(∀z,z∈K↔z∈K')->XW ds K b=XW ds K' b
 | .mk steps result,K,K',h=>by rw [XW,XW,Lk steps h]
end
end
theorem Bw:∀xs:List Z3,Ys xs<=xs.length
 | []=>YI _
 | s::r=>by have:=Bw r;rw [Ys];split<;>simp<;>omega
section
variable {f:Z3->Z3} (hop:∀s,(f s).op=s.op) (hin:∀s,(f s).into=s.into) (har:∀s,(f s).args=s.args)
include hop
theorem F6:∀xs:List Z3,Ys (xs.map f)=Ys xs
 | []=>rfl
 | s::r=>by rw [VR,Ys,Ys,hop,F6 r]
include har
theorem Gp {op x:Int}:∀(xs:List Z3) (k:Int),Xx op x (xs.map f) k=Xx op x xs k
 | [],_=>rfl
 | s::r,k=>by rw [VR,Xx,Xx,hop,har,Gp r]
theorem Z01 (xs:List Z3) (x:Int):Ws (xs.map f) x=Ws xs x:=by rw [Ws,F6 hop,<-List.map_take,Gp hop har,Ws]
include hin
theorem GH {many:Nat}:∀(xs:List Z3) (k:Int),XN many (xs.map f) k=XN many xs k
 | [],_=>rfl
 | s::r,k=>by
  have e:Tu many (f s)↔Tu many s:=by rw [Tu,Tu,hop,hin,har]
  rw [VR,XN,XN,GH r]
  by_cases h:Tu many s
  ·rw [Zw h,Zw (e.2 h)]
  ·rw [Zs h,Zs (fun z=>h (e.1 z))]
theorem NO (xs:List Z3) (many:Nat):XT (xs.map f) many=XT xs many:=by rw [XT,F6 hop,<-List.map_drop,GH hop hin har,XT]
end
theorem Gn {op x:Int}:∀{xs:List Z3} {k:Int},¬Xx op x xs k<0->0<=k->k<=Xx op x xs k/\Xx op x xs k<k+xs.length/\∃s,xs[(Xx op x xs k-k).toNat]? = some s/\s.op=op/\gI s.args 0=x
 | [],k,h,_=>by simp [Xx] at h
 | s::r,k,h,hk=>by
  rw [Xx] at h ⊢
  split
  ·rename_i q
   refine ⟨Int.le_refl _,by rw [Yw];omega,s,?_,q⟩
   rw [Int.sub_self];rfl
  ·rename_i q
   rw [Zs q] at h
   obtain ⟨h1,h2,t,h3,h4⟩:=Gn (xs:=r) (k:=k+1) h om
   refine ⟨by omega,by rw [Yw];omega,t,?_,h4⟩
   rw [show (Xx op x r (k+1)-k).toNat=(Xx op x r (k+1)-(k+1)).toNat+1 by omega,List.getElem?_cons_succ]
   exact h3
theorem GG {many:Nat}:∀{xs:List Z3} {k:Int},¬XN many xs k<0->0<=k->k<=XN many xs k/\XN many xs k<k+xs.length/\∃s,xs[(XN many xs k-k).toNat]? = some s/\Tu many s
 | [],k,h,_=>by simp [XN] at h
 | s::r,k,h,hk=>by
  rw [XN] at h ⊢
  split
  ·rename_i q
   refine ⟨Int.le_refl _,by rw [Yw];omega,s,?_,q⟩
   rw [Int.sub_self];rfl
  ·rename_i q
   rw [Zs q] at h
   obtain ⟨h1,h2,t,h3,h4⟩:=GG (xs:=r) (k:=k+1) h om
   refine ⟨by omega,by rw [Yw];omega,t,?_,h4⟩
   rw [show (XN many r (k+1)-k).toNat=(XN many r (k+1)-(k+1)).toNat+1 by omega,List.getElem?_cons_succ]
   exact h3
theorem BE {xs:List Z3} {x:Int} (h:¬Ws xs x<0):0<=Ws xs x/\Ws xs x<Ys xs/\∃s,xs[(Ws xs x).toNat]? = some s/\s.op=16/\gI s.args 0=x:=by
 obtain ⟨h1,h2,s,h3,h4⟩:=Gn h (Int.le_refl 0)
 have hl:=Bw xs
 rw [W9,WS hl] at h2
 have h2':Ws xs x<Ys xs:=by unfold Ws;omega
 have h1':0<=Ws xs x:=h1
 refine ⟨h1',h2',s,?_,h4⟩
 rw [Int.sub_zero] at h3
 have h5:(Ws xs x).toNat<Ys xs:=by omega
 rwa [show Xx 16 x (xs.take (Ys xs)) 0=Ws xs x from rfl,List.getElem?_take_of_lt h5] at h3
theorem KU {xs:List Z3} {many:Nat} (h:¬XT xs many<0):(Ys xs:Int)<=XT xs many/\XT xs many<xs.length/\∃s,xs[(XT xs many).toNat]? = some s/\Tu many s/\J0 xs (XT xs many)=s:=by
 obtain ⟨h1,h2,s,h3,h4⟩:=GG h om
 have hl:=Bw xs
 rw [KE] at h2
 have h1':(Ys xs:Int)<=XT xs many:=h1
 have h2':XT xs many<xs.length:=by unfold XT;omega
 rw [DE,show XN many (xs.drop (Ys xs)) (Ys xs)=XT xs many from rfl,show Ys xs+(XT xs many-(Ys xs:Int)).toNat=(XT xs many).toNat by omega] at h3
 exact ⟨h1',h2',s,h3,h4,by rw [J0,h3];rfl⟩
theorem Z0h {f:Z3->Z3} (hop:∀s,(f s).op=s.op) (hin:∀s,(f s).into=s.into) (har:∀s,(f s).args=s.args) (hc:∀x,f (Zl 17 x)=Zl 17 x) (hi:∀v s,f (Td v s)=Td v (f s)) (xs:List Z3) (x:Int) (many:Nat) :
  Vd (xs.map f) x many=(Vd xs x many).map f:=by
 rw [Vd,Z01 hop har,NO hop hin har,Vd]
 split
 ·rfl
 ·rename_i hq
  obtain ⟨_,_,s,h3,_,h5⟩:=KU (fun z=>hq (.inr z))
  have e:J0 (xs.map f) (XT xs many)=f (J0 xs (XT xs many)):=by rw [J0,Qq,h3,h5];rfl
  rw [e,List.map_set,List.map_set,hc,hi]
theorem Lg {ds:List Zd} {K:LI} {b:Z4} {x:Int} {many:Nat}:XW ds K (V7 b x many)=V7 (XW ds K b) x many:=by
 rw [V7,XW,V7,D7,D9,D9]
 show Z4.mk _ _=Z4.mk (Vd (b.steps.map (Tj ds K)) x many) b.result
 rw [Z0h (f:=Tj ds K) (fun s=>by rw [Jd];rfl) (fun s=>by rw [Jd];rfl) (fun s=>by rw [Jd];rfl) (fun x=>by rw [Jd];rfl) (fun v s=>by rw [Jd,Jd];rfl)]
structure CB (c:LI) (q:Int):Prop where
 len:c.length=4
 bd:∀x∈c,0<=x/\x<=q
mutual
def JS:Z3->Prop
 | .mk op _ _ _ kids=>op≠17/\J6 kids
def J6:List Z4->Prop
 | []=>True
 | b::r=>Tf b/\J6 r
def J7:List Z3->Prop
 | []=>True
 | s::r=>JS s/\J7 r
def Tf:Z4->Prop
 | .mk steps _=>J7 steps
end
theorem Az (s:Z3):JS s↔s.op≠17/\J6 s.kids:=by cases s;rw [JS];rfl
theorem Bz (b:Z4):Tf b↔J7 b.steps:=by cases b;rw [Tf];rfl
theorem BA:∀{xs:List Z3},J7 xs↔∀s∈xs,JS s
 | []=>by simp [J7]
 | s::r=>by rw [J7,BA];simp
theorem CW:∀{xs:List Z4},J6 xs↔∀s∈xs,Tf s
 | []=>by simp [J6]
 | s::r=>by rw [J6,CW];simp
theorem Do:∀{xs:List Z3} {i:Nat} {s:Z3} (t:Z3),xs[i]? = some s->Y5 (xs.set i t)+s.sz=Y5 xs+t.sz
 | [],_,_,_,h=>by simp at h
 | x::r,0,s,t,h=>by simp at h;subst h;rw [List.set_cons_zero,Y5,Y5];omega
 | x::r,i+1,s,t,h=>by
  have:=Do (xs:=r) (i:=i) t (by simpa using h)
  rw [List.set_cons_succ,Y5,Y5];omega
theorem RQ (v:Int) (s:Z3):(Td v s).sz=s.sz:=by cases s;rw [Td,Z3.sz,Z3.sz];rfl
theorem GM {xs:List Z3} {x:Int} {many:Nat} (h:¬(Ws xs x<0∨XT xs many<0)):(Ws xs x).toNat<(XT xs many).toNat:=by
 obtain ⟨h1,h2,_⟩:=BE (fun z=>h (.inl z))
 obtain ⟨h3,h4,_⟩:=KU (fun z=>h (.inr z))
 omega
theorem D6 {xs:List Z3} {x:Int} {many:Nat} (h:¬(Ws xs x<0∨XT xs many<0)) {t:Z3} {s:Z3} (hs:xs[(XT xs many).toNat]? = some s):(xs.set (Ws xs x).toNat t)[(XT xs many).toNat]? = some s:=by
 have:=GM h
 rw [List.getElem?_set_ne om];exact hs
theorem L7 {xs:List Z3} {x:Int} {many:Nat} (h:∀s∈xs,YA s.op=true->2<=s.sz):Y5 (Vd xs x many)<=Y5 xs:=by
 rw [Vd]
 split
 ·exact YI _
 ·rename_i hq
  obtain ⟨_,_,s,h3,h4,_⟩:=BE (fun z=>hq (.inl z))
  obtain ⟨_,_,t,h5,_,h6⟩:=KU (fun z=>hq (.inr z))
  have e1:=Do (Zl 17 x) h3
  have e2:=Do (Td (1+x) (J0 xs (XT xs many))) (D6 hq (t:=Zl 17 x) h5)
  have h7:=h s (ZT h3) (by rw [h4];rfl)
  rw [Cc] at e1
  rw [RQ,h6] at e2
  rw [h6]
  omega
section
variable {ds:List Zd}
theorem Z4d {v:Int} {s:Z3} (h:wS ds s) (h6:s.op=6):wS ds (Td v s):=by
 obtain ⟨h1,h2,h3,h4⟩:=(Qo s).1 h
 exact (Qo _).2 ⟨h1,fun hc=>absurd hc (by show ¬YA s.op=true;rw [h6];decide),h3,h4⟩
theorem Z4a {v:Int}:wS ds (Zl 17 v):=(Qo _).2 ⟨rfl,fun _=>⟨rfl,rfl,rfl,v,rfl⟩,fun e=>absurd e (show (17:Int)≠8 by decide),True.intro⟩
theorem Z49 {xs:List Z3} {x:Int} {many:Nat} (h:Tm ds xs):Tm ds (Vd xs x many):=by
 rw [Vd]
 split
 ·exact h
 ·rename_i hq
  obtain ⟨_,_,t,h5,h7,h6⟩:=KU (fun z=>hq (.inr z))
  rw [KC]
  intro s hs
  rcases List.mem_or_eq_of_mem_set hs with hs|rfl
  ·rcases List.mem_or_eq_of_mem_set hs with hs|rfl
   ·exact KC.1 h s hs
   ·exact Z4a
  ·rw [h6];exact Z4d (KC.1 h t (ZT h5)) h7.1.1
theorem Z48 {b:Z4} {x:Int} {many:Nat} (h:wB ds b):wB ds (V7 b x many):=by rw [V7,Q8];exact Z49 ((Q8 b).1 h)
variable (hd:Wi ds)
mutual
theorem Z10:∀(s:Z3) {K:LI},wS ds s->(Tj ds K s).sz<=s.sz
 | .mk op num into args kids,K,h=>by
  have:=Lj kids (K:=K) (op:=op) (num:=num) (args:=args) (k:=0) h.2.2.2
  rw [Tj,Z3.sz,Z3.sz];omega
theorem Lj:∀(bs:List Z4) {K:LI} {op num:Int} {args:LI} {k:Nat},KA ds bs->YH (Vy ds K op num args bs k)<=YH bs
 | [],_,_,_,_,_,_=>YI _
 | b::r,K,op,num,args,k,h=>by
  have h2:=Lj r (K:=K) (op:=op) (num:=num) (args:=args) (k:=k+1) h.2
  have key:∀K2:LI,(V7 (XW ds K2 b) (gI args 0) (Vv ds num k).length).sz<=b.sz:=fun K2=>by
   have h1:=Fu b (K:=K2) h.1
   have h3:=L7 (xs:=(XW ds K2 b).steps) (x:=gI args 0) (many:=(Vv ds num k).length) (by
    rw [D7,D9]
    intro s hs hc
    obtain ⟨t,ht,rfl⟩:=W6.1 hs
    rw [Jd] at hc ⊢
    obtain ⟨_,_,a,ha⟩:=Dz (KC.1 ((Q8 b).1 h.1) t ht) hc
    rw [Z3.sz,ha];simp)
   rw [V7,Z4.sz]
   rw [Z4.sz_eq] at h1
   omega
  rw [Vy,YH,YH]
  split
  ·have:=key (if Ws b.steps (gI args 0)<0∨XT b.steps (Vv ds num k).length<0 then K else gI args 0::K)
   omega
  ·have:=Fu b (K:=K) h.1
   omega
theorem Ll:∀(xs:List Z3) {K:LI},Tm ds xs->Y5 (Vz ds K xs)<=Y5 xs
 | [],_,_=>YI _
 | s::r,K,h=>by
  have h1:=Z10 s (K:=K) h.1
  have h2:=Ll r (K:=K) h.2
  rw [Vz,Y5,Y5];omega
theorem Fu:∀(b:Z4) {K:LI},wB ds b->(XW ds K b).sz<=b.sz
 | .mk steps result,K,h=>by
  have:=Ll steps (K:=K) h
  rw [XW,Z4.sz,Z4.sz];omega
end
end
theorem F7:∀{xs:List Z3} {i:Nat} {s t:Z3},xs[i]? = some s->YA t.op=YA s.op->Ys (xs.set i t)=Ys xs
 | [],_,_,_,h,_=>by simp at h
 | x::r,0,s,t,h,e=>by simp at h;subst h;rw [List.set_cons_zero,Ys,Ys,e]
 | x::r,i+1,s,t,h,e=>by
  rw [List.set_cons_succ,Ys,Ys,F7 (xs:=r) (i:=i) (by simpa using h) e]
theorem Sh {xs:List Z3} {x:Int} {many:Nat}:Ys (Vd xs x many)=Ys xs:=by
 rw [Vd]
 split
 ·rfl
 ·rename_i hq
  obtain ⟨_,_,s,h3,h4,_⟩:=BE (fun z=>hq (.inl z))
  obtain ⟨_,_,t,h5,_,h6⟩:=KU (fun z=>hq (.inr z))
  rw [F7 (D6 hq (t:=Zl 17 x) h5) (by rw [h6];rfl),F7 h3 (by rw [h4];rfl)]
theorem Gr {op x:Int}:∀{xs:List Z3} {k:Int},(∀s∈xs,s.op≠op)->Xx op x xs k=-1
 | [],_,_=>rfl
 | s::r,k,h=>by
  rw [Xx,Zs (fun z=>h s (YM ..) z.1)]
  exact Gr fun t ht=>h t (Xb _ ht)
theorem Gs {op x:Int}:∀{xs:List Z3} {k:Int},0<=k->(∃s∈xs,s.op=op/\gI s.args 0=x)->0<=Xx op x xs k
 | [],_,_,h=>by obtain ⟨s,hs,_⟩:=h;cases hs
 | s::r,k,hk,h=>by
  rw [Xx]
  split
  ·exact hk
  ·rename_i q
   obtain ⟨t,ht,h1⟩:=h
   rcases Yk.1 ht with rfl|ht
   ·exact absurd h1 q
   ·exact Gs om ⟨t,ht,h1⟩
theorem Mf {xs:List Z3} {x:Int} {many:Nat} (hn:J7 xs):0<=Xx 17 x ((Vd xs x many).take (Ys (Vd xs x many))) 0↔¬(Ws xs x<0∨XT xs many<0):=by
 rw [Sh]
 constructor
 ·intro h hq
  rw [Vd,Zw hq,Gr (fun s hs=>((Az s).1 (BA.1 hn s (To hs))).1)] at h
  omega
 ·intro hq
  obtain ⟨h1,h2,s,h3,h4,_⟩:=BE (fun z=>hq (.inl z))
  have hap:=GM hq
  refine Gs (Int.le_refl 0) ⟨Zl 17 x,?_,rfl,rfl⟩
  rw [Vd,Zs hq]
  refine ZT (i:=(Ws xs x).toNat) ?_
  rw [List.getElem?_take_of_lt om,List.getElem?_set_ne om,List.getElem?_set_self (Xl.1 h3).1]
def J8 (b:Z4):Prop:=∀s∈b.steps,J6 s.kids
theorem JR {b:Z4} (h:Tf b):J8 b:=fun s hs=>((Az s).1 (BA.1 ((Bz b).1 h) s hs)).2
theorem SH {b:Z4} {k j:Nat} {s:Z3} {c:Z4} (h:J8 b) (hs:b.steps[k]? = some s) (hc:s.kids[j]? = some c):Tf c:=CW.1 (h s (ZT hs)) c (ZT hc)
theorem Ix {b:Z4} {x:Int} {many:Nat} (h:Tf b):J8 (V7 b x many):=by
 intro s hs
 have hs:s∈Vd b.steps x many:=hs
 rw [Vd] at hs
 split at hs
 ·exact JR h s hs
 ·rename_i hq
  obtain ⟨_,_,t,h5,_,h6⟩:=KU (fun z=>hq (.inr z))
  rcases List.mem_or_eq_of_mem_set hs with hs|rfl
  ·rcases List.mem_or_eq_of_mem_set hs with hs|rfl
   ·exact JR h s hs
   ·exact True.intro
  ·rw [h6];exact JR h t (ZT h5)
theorem Z0g {ds:List Zd} {b:Z4} {x:Int} {many:Nat} (h:wB ds b):(V7 b x many).sz<=b.sz:=by
 have:=L7 (xs:=b.steps) (x:=x) (many:=many) fun s hs hc=>by
  have h7:=DH ((Q8 b).1 h) s hs hc
  rw [h7,Cc];omega
 rw [V7,Z4.sz,b.sz_eq];omega
def Jc (ds:List Zd) (r:Y1):Y1:=⟨r.params,r.lent,r.result,XW ds [] r.body⟩
def D8 (n:Zu):Zu:=⟨n.decls,n.routines.map (Jc n.decls)⟩
end Go.Abs
section
namespace Go.Abs
theorem Se {xs:List Z3} {k:Nat} {s:Z3} {r:Nat} (h:xs[k]? = some s) (hs:YA s.op=true) (ha:k+Ys (xs.drop k)=r):k+1+Ys (xs.drop (k+1))=r:=by
 rw [Ye h,Ys,Zw hs] at ha;omega
theorem Sf {xs:List Z3} {k:Nat} {s:Z3} {r:Nat} (h:xs[k]? = some s) (hs:¬YA s.op=true) (ha:k+Ys (xs.drop k)=r):k=r:=by
 rw [Ye h,Ys,Zs hs] at ha;omega
theorem Sd {xs:List Z3} {k:Nat} {r:Nat} (h:xs.length<=k) (ha:k+Ys (xs.drop k)=r):k=r:=by
 rw [Xk h,Ys] at ha;omega
theorem Nh {op x:Int} {xs:List Z3} {k:Nat} {s:Z3} {r:Int} (h:xs[k]? = some s) (hs:s.op=op/\gI s.args 0=x) (ha:Xx op x (xs.drop k) k=r):(k:Int)=r:=by
 rw [Ye h,Xx,Zw hs] at ha;exact ha
theorem Gq {op x:Int} {xs:List Z3} {k:Nat} {s:Z3} {r:Int} (h:xs[k]? = some s) (hs:¬(s.op=op/\gI s.args 0=x)) (ha:Xx op x (xs.drop k) k=r):Xx op x (xs.drop (k+1)) ((k+1:Nat):Int)=r:=by
 rw [Ye h,Xx,Zs hs] at ha;rw [<-ha];congr 1
theorem Ng {op x:Int} {xs:List Z3} {k:Nat} {r:Int} (h:xs.length<=k) (ha:Xx op x (xs.drop k) k=r):-1=r:=by
 rw [Xk h,Xx] at ha;exact ha
theorem NR {many:Nat} {xs:List Z3} {k:Nat} {s:Z3} {r:Int} (h:xs[k]? = some s) (hs:Tu many s) (ha:XN many (xs.drop k) k=r):(k:Int)=r:=by
 rw [Ye h,XN,Zw hs] at ha;exact ha
theorem NQ {many:Nat} {xs:List Z3} {k:Nat} {s:Z3} {r:Int} (h:xs[k]? = some s) (hs:¬Tu many s) (ha:XN many (xs.drop k) k=r):XN many (xs.drop (k+1)) ((k+1:Nat):Int)=r:=by
 rw [Ye h,XN,Zs hs] at ha;rw [<-ha];congr 1
theorem NP {many:Nat} {xs:List Z3} {k:Nat} {r:Int} (h:xs.length<=k) (ha:XN many (xs.drop k) k=r):-1=r:=by
 rw [Xk h,XN] at ha;exact ha
theorem Z0i {xs:List Z3} {x:Int} {many:Nat} (h:Ws xs x<0∨XT xs many<0):Vd xs x many=xs:=Zw h
theorem Z0j {xs:List Z3} {x:Int} {many:Nat} {s:Z3} (h:¬(Ws xs x<0∨XT xs many<0)) (hs:J0 xs (XT xs many)=s):(xs.set (Ws xs x).toNat (Zl 17 x)).set (XT xs many).toNat (Td (1+x) s)=Vd xs x many:=by
 rw [Vd,Zs h,hs]
theorem T9 (xs:List Z3):(Zc (Zk xs)).length=xs.length*5:=by rw [U6 _ (YQ _)];simp
theorem Cs (s:Z3) (r:List Z3):Zc (Zk (s::r))=X9 s++Zc (Zk r):=by rw [Wz,Wz];rfl
theorem Hk {xs:List Z3} {k:Nat} {x:Z3} (h:xs[k]? = some x):Zc (Zk (xs.take k))++Zc [Yj x]=Zc (Zk (xs.take (k+1))):=by
 rw [Vf h,W1,UN,Cs]
 have:Zc (Zk [])=[]:=by rw [Wz];rfl
 rw [this];rfl
theorem Hl {xs:List Z3} {i:Nat} {s:Z3} (h:xs[i]? = some s):Zc (Zk xs)=Zc (Zk (xs.take i))++(X9 s++Zc (Zk (xs.drop (i+1)))):=by
 have hi:=(Xl.1 h).1
 have e:xs=xs.take i++(s::xs.drop (i+1)):=by rw [<-Ye h,U2]
 conv=>lhs;rw [e,W1,UN,Cs]
theorem Ct {xs:List Z3} {i:Nat} {s t:Z3} (h:xs[i]? = some s):(Zc (Zk xs)).take (i*5)++X9 t++(Zc (Zk xs)).drop (i*5+(X9 t).length)=Zc (Zk (xs.set i t)):=by
 have hi:=(Xl.1 h).1
 have hl:(Zc (Zk (xs.take i))).length=i*5:=by rw [T9,W9,WS om]
 rw [Hl h,Fs (xs:=X9 s) (ys:=X9 t) hl rfl]
 have e:xs.set i t=xs.take i++(t::xs.drop (i+1)):=by rw [C1,Zw hi]
 rw [e,W1,UN,Cs]
theorem Ey {xs:List Z3} {i:Nat} {s:Z3} (h:xs[i]? = some s):((Zc (Zk xs)).drop (i*5)).take (X9 s).length=X9 s:=by
 have hi:=(Xl.1 h).1
 have hl:(Zc (Zk (xs.take i))).length=i*5:=by rw [T9,W9,WS om]
 rw [Hl h]
 exact Z0r hl
structure TM (xs:LI) (v:Int) (k:Nat) (acc:LI) (d:Bool):Prop where
 len:acc.length<=k+(if d=true then 1 else 0)
 sub:∀z∈acc,z∈xs.take k∨z=v
 all:∀z∈xs.take k,z∈acc
 done:d=true->v∈acc
theorem TM.zero (xs:LI) (v:Int):TM xs v 0 [] false:=⟨by simp,by simp,by simp,by simp⟩
theorem TM.step {xs:LI} {v:Int} {k:Nat} {acc:LI} {d:Bool} {x:Int} (h:TM xs v k acc d) (hx:xs[k]? = some x) {acc2:LI} {d2:Bool}
  (hc:(acc2=acc++[x]/\d2=d)∨(acc2=(acc++[v])++[x]/\d2=true/\¬d=true)∨(acc2=acc++[x]/\d2=true/\x=v)):TM xs v (k+1) acc2 d2:=by
 obtain ⟨h1,h2,h3,h4⟩:=h
 have ht:∀z,z∈xs.take (k+1)↔z∈xs.take k∨z=x:=fun z=>by rw [Vf hx];simp
 rcases hc with ⟨rfl,rfl⟩|⟨rfl,rfl,hd⟩|⟨rfl,rfl,rfl⟩
 ·refine ⟨by simp;omega,fun z hz=>?_,fun z hz=>?_,fun q=>List.mem_append_left _ (h4 q)⟩
  ·rw [ht]
   rcases YP.1 hz with hz|hz
   ·rcases h2 z hz with q|q
    ·exact .inl (.inl q)
    ·exact .inr q
   ·exact .inl (.inr (Xj.1 hz))
  ·rcases (ht z).1 hz with q|q
   ·exact List.mem_append_left _ (h3 z q)
   ·subst q;simp
 ·rw [Zs hd] at h1
  refine ⟨by simp;omega,fun z hz=>?_,fun z hz=>?_,fun _=>by simp⟩
  ·rw [ht]
   simp only [YP,Xj] at hz
   rcases hz with (hz|hz)|hz
   ·rcases h2 z hz with q|q
    ·exact .inl (.inl q)
    ·exact .inr q
   ·exact .inr hz
   ·exact .inl (.inr hz)
  ·rcases (ht z).1 hz with q|q
   ·exact List.mem_append_left _ (List.mem_append_left _ (h3 z q))
   ·subst q;simp
 ·refine ⟨by simp;split at h1<;>omega,fun z hz=>?_,fun z hz=>?_,fun _=>by simp⟩
  ·rw [ht]
   rcases YP.1 hz with hz|hz
   ·rcases h2 z hz with q|q
    ·exact .inl (.inl q)
    ·exact .inr q
   ·exact .inl (.inr (Xj.1 hz))
  ·rcases (ht z).1 hz with q|q
   ·exact List.mem_append_left _ (h3 z q)
   ·subst q;simp
theorem TM.fin {xs:LI} {v:Int} {k:Nat} {acc:LI} {d:Bool} (h:TM xs v k acc d) (hk:k=xs.length) :
  (d=true->acc.length<=xs.length+1/\∀z,z∈acc↔z∈xs∨z=v)/\(¬d=true->(acc++[v]).length<=xs.length+1/\∀z,z∈acc++[v]↔z∈xs∨z=v):=by
 obtain ⟨h1,h2,h3,h4⟩:=h
 subst hk
 rw [Va] at h2 h3
 refine ⟨fun hd=>?_,fun hd=>?_⟩
 ·rw [Zw hd] at h1
  exact ⟨h1,fun z=>⟨h2 z,fun q=>q.elim (h3 z) fun e=>e▸h4 hd⟩⟩
 ·rw [Zs hd] at h1
  refine ⟨by simp;omega,fun z=>?_⟩
  rw [YP,Xj]
  exact ⟨fun q=>q.elim (h2 z) .inr,fun q=>q.elim (fun e=>.inl (h3 z e)) .inr⟩
end Go.Abs
namespace Go.Abs
theorem TM.go {xs:LI} {v:Int} {k:Nat} {acc:LI} {d:Bool} {x:Int} (h:TM xs v k acc d) (hx:xs[k]? = some x) {acc2:LI} {d2:Bool}
  (hc:(acc2=acc/\d2=d)∨(acc2=acc++[v]/\d2=true/\¬d=true)∨(acc2=acc/\d2=true/\x=v)):TM xs v (k+1) (acc2++[x]) d2:=by
 refine h.step hx ?_
 rcases hc with ⟨e1,e2⟩|⟨e1,e2,e3⟩|⟨e1,e2,e3⟩
 ·exact .inl ⟨by rw [e1],e2⟩
 ·exact .inr (.inl ⟨by rw [e1],e2,e3⟩)
 ·exact .inr (.inr ⟨by rw [e1],e2,e3⟩)
section
variable {ds:List Zd} {kept K2:LI} {op num x:Int} {args:LI} {j many:Nat} {kd:Z4}
theorem Z0x (h8:op=8) (hx:gI args 0=x) (hk:¬x∈kept) (hm:(Vv ds num j).length=many) (hq:¬(Ws kd.steps x<0∨XT kd.steps many<0)) (hK:∀z,z∈K2↔z∈kept∨z=x):XW ds K2 (V7 kd x many)=Up ds kept op num args j kd:=by
 subst hx hm
 have e:∀z,z∈K2↔z∈gI args 0::kept:=fun z=>by rw [hK z,Yk];exact Or.comm
 rw [Up,Zw ⟨h8,hk⟩,CJ,Zs hq,Lg,Ft kd e]
theorem Z0y (h8:op=8) (hx:gI args 0=x) (hk:¬x∈kept) (hm:(Vv ds num j).length=many) (hq:Ws kd.steps x<0∨XT kd.steps many<0):XW ds kept (V7 kd x many)=Up ds kept op num args j kd:=by
 subst hx hm
 rw [Up,Zw ⟨h8,hk⟩,CJ,Zw hq,Lg]
theorem Lh (h:¬(op=8/\¬gI args 0∈kept)):XW ds kept kd=Up ds kept op num args j kd:=by rw [Up,Zs h]
end
end Go.Abs
namespace Go.Abs
theorem C9:∀{xs:List Z4} {k:Nat} {b:Z4},xs[k]? = some b->YH (xs.take k)+b.sz<=YH xs
 | [],_,_,h=>by simp at h
 | x::r,0,b,h=>by simp at h;subst h;simp [YH]
 | x::r,k+1,b,h=>by
  have:=C9 (xs:=r) (k:=k) (by simpa using h)
  rw [A3,YH,YH];omega
theorem E0 {xs:List Z4} {k:Nat} (h:xs.length<=k):YH (xs.take k)=YH xs:=by rw [Vp h]
end Go.Abs
end
namespace Go.Abs
theorem FK {xs:List Z3} {k:Nat} {s:Z3} (h:xs[k]? = some s):Y5 (xs.drop k)=s.sz+Y5 (xs.drop (k+1)):=by rw [Ye h,Y5]
theorem AM (xs:List Z3) (k:Nat):Y5 (xs.drop k)<=Y5 xs:=by
 have h:=Yh Y5 (U2 k xs)
 rw [U0] at h;omega
theorem C8 {xs:List Z4} {k:Nat} {b:Z4} (h:xs[k]? = some b):YH (xs.take (k+1))=YH (xs.take k)+b.sz:=by rw [Vf h,B4,YH,YH];rfl
structure CL (ds:List Zd) (nf m:Nat) (xs:List Z3) (d z:Nat):Prop where
 fs:VV ds nf m xs
 dn:Yy xs=d
 op:Un Wx xs
 sz:Y5 xs<=z
section
variable {ds:List Zd} {nf m d z:Nat} {xs:List Z3}
theorem CL.nil:CL ds nf m [] 0 0:=⟨True.intro,rfl,True.intro,YI _⟩
theorem CL.len (h:CL ds nf m xs d z):xs.length<=z:=Wv (Qk xs) h.sz
theorem CL.le (h:CL ds nf m xs d z) {z2:Nat} (hz:z<=z2):CL ds nf m xs d z2:=⟨h.fs,h.dn,h.op,Wv h.sz hz⟩
theorem OL {op v:Int} (ho:op=14∨op=15) (hv:0<=v/\v<(m:Int)):fS ds nf m (Zl op v):=by
 rw [Zl,fS]
 exact ⟨.inr om,fun a ha=>by rw [Xj.1 ha];exact hv,fun _=>⟨rfl,rfl,rfl,v,rfl⟩,fun h=>by omega,fun h=>by omega,fun h=>by omega,fun h=>by omega,by omega,by omega,by simp,fun _=>rfl,True.intro⟩
theorem GO {op:Int} (ho:op=14∨op=15):YA op=true:=by simp [YA];omega
theorem CL.cnt (h:CL ds nf m xs d z) {op v:Int} (ho:op=14∨op=15) (hv:0<=v/\v<((m+d:Nat):Int)):CL ds nf m (xs++[Zl op v]) d (z+2):=by
 have hc:YA (Zl op v).op=true:=GO ho
 refine ⟨Cp h.fs (by rw [h.dn];exact OL ho hv),?_,D0 h.op ?_,?_⟩
 ·rw [Qc,h.dn,Yy,Zw hc];rfl
 ·rw [BD];exact ⟨by show op<=15;omega,True.intro⟩
 ·have:=h.sz
  have e:(Zl op v).sz=2:=rfl
  rw [U0,Y5,e,Y5];omega
theorem CL.cnts {op:Int} (ho:op=14∨op=15):∀{vs:LI} {xs:List Z3} {z:Nat},CL ds nf m xs d z->(∀v∈vs,0<=v/\v<((m+d:Nat):Int))->CL ds nf m (xs++vs.map (Zl op)) d (z+2*vs.length)
 | [],xs,z,h,_=>by simpa using h
 | v::r,xs,z,h,hv=>by
  have h1:=CL.cnts ho (vs:=r) (h.cnt ho (hv v (YM ..))) fun x hx=>hv x (Xb _ hx)
  rw [VR,show xs++Zl op v::r.map (Zl op)=xs++[Zl op v]++r.map (Zl op) by simp]
  exact h1.le (by rw [Yw];omega)
theorem CL.one (h:CL ds nf m xs d z) {s:Z3} (hs:fS ds nf (m+d) s) (hc:YA s.op=false) (ho:Th Wx s):CL ds nf m (xs++[s]) (d+1) (z+s.sz):=by
 refine ⟨Cp h.fs (by rw [h.dn];exact hs),by rw [B7 hc,h.dn],D0 h.op ho,?_⟩
 have:=h.sz
 rw [U0,Y5,Y5];omega
theorem CL.app (h:CL ds nf m xs d z) {ys:List Z3} {d2 z2:Nat} (h2:CL ds nf (m+d) ys d2 z2):CL ds nf m (xs++ys) (d+d2) (z+z2):=by
 refine ⟨Ao.2 ⟨h.fs,by rw [h.dn];exact h2.fs⟩,by rw [Qc,h.dn,h2.dn],CZ.2 ⟨h.op,h2.op⟩,?_⟩
 have:=h.sz
 have:=h2.sz
 rw [U0];omega
end
structure KB (ds:List Zd) (nf m:Nat) (b:Z4) (z:Nat):Prop where
 fb:fB ds nf m b
 op:Wq Wx b
 sz:b.sz<=z
section
variable {ds:List Zd} {nf m d z:Nat} {xs:List Z3}
theorem CL.block (h:CL ds nf m xs d z) {r:Int} (hr:0<=r/\r<((m+d:Nat):Int)):KB ds nf m ⟨xs,r⟩ (1+z):=by
 refine ⟨by rw [fB,h.dn];exact ⟨h.fs,hr⟩,by rw [Wq];exact h.op,?_⟩
 have:=h.sz
 rw [Z4.sz];omega
theorem KB.le {b:Z4} (h:KB ds nf m b z) {z2:Nat} (hz:z<=z2):KB ds nf m b z2:=⟨h.fb,h.op,Wv h.sz hz⟩
theorem KB.cl {b:Z4} (h:KB ds nf m b z):CL ds nf m b.steps (Yy b.steps) (z-1)/\0<=b.result/\b.result<((m+Yy b.steps:Nat):Int):=by
 obtain ⟨h1,h2⟩:=(Bb b).1 h.fb
 refine ⟨⟨h1,rfl,(CY b).1 h.op,?_⟩,h2⟩
 have:=h.sz
 have:=b.sz_eq
 omega
theorem KB.put {b:Z4} (h:KB ds nf m b z) {as1 bs:LI} (ha:∀v∈as1,0<=v/\v<(m:Int)) (hb:∀v∈bs,0<=v/\v<(m:Int)):KB ds nf m ⟨as1.map (Zl 14)++bs.map (Zl 15)++b.steps,b.result⟩ (z+2*as1.length+2*bs.length):=by
 obtain ⟨h1,h2⟩:=h.cl
 have q1:CL ds nf m ([]++as1.map (Zl 14)) 0 (0+2*as1.length):=CL.nil.cnts (.inl rfl) ha
 have q2:=(q1.cnts (op:=15) (.inr rfl) hb).app h1
 have:=h.sz
 have:=b.sz_eq
 rw [A1,We] at q2
 exact (q2.block h2).le om
end
structure KK (ds:List Zd) (nf:Nat) (sc:Nat->Nat) (ks:List Z4) (z:Nat):Prop where
 fb:Uh ds nf sc 0 ks
 op:Tg Wx ks
 sz:YH ks<=z
section
variable {ds:List Zd} {nf m z:Nat} {sc:Nat->Nat}
theorem KK.nil:KK ds nf sc [] 0:=⟨True.intro,True.intro,YI _⟩
theorem KK.snoc {ks:List Z4} {b:Z4} {j z2:Nat} (h:KK ds nf sc ks z) (hj:ks.length=j) (hb:KB ds nf (sc j) b z2):KK ds nf sc (ks++[b]) (z+z2):=by
 refine ⟨H9 h.fb (by rw [hj];exact hb.fb),ID h.op hb.op,?_⟩
 have:=h.sz
 have:=hb.sz
 rw [B4];simp only [YH];omega
theorem KK.le {ks:List Z4} (h:KK ds nf sc ks z) {z2:Nat} (hz:z<=z2):KK ds nf sc ks z2:=⟨h.fb,h.op,Wv h.sz hz⟩
theorem Ha {s:Z3} {ks:List Z4} {into:Int} (h:FS ds nf m s) (h11:s.op<=11) (hl:ks.length=s.kids.length) (hi:0<=into/\into<=m) (hk:KK ds nf (VM ds s.op s.num m) ks z):fS ds nf m ⟨s.op,s.num,into,s.args,ks⟩/\Th Wx ⟨s.op,s.num,into,s.args,ks⟩/\(Z3.mk s.op s.num into s.args ks).sz<=5+z:=by
 refine ⟨?_,?_,?_⟩
 ·rw [fS]
  refine ⟨h.op,h.args,fun q=>by omega,fun q=>by rw [hl];exact h.k7 q,fun q=>by rw [hl];exact h.k8 q,h.one,h.call,h.num,hi,h.alen,fun q=>?_,hk.fb⟩
  have:=h.kn q
  rw [this] at hl
  exact List.eq_nil_of_length_eq_zero hl
 ·rw [Th];exact ⟨by show s.op<=15;omega,hk.op⟩
 ·have:=h.alen
  have:=hk.sz
  rw [Z3.sz];omega
end
structure KT (ds:List Zd) (nf m:Nat) (st:Z3) (z:Nat):Prop where
 fs:fS ds nf m st
 cb:YA st.op=false
 op:Th Wx st
 sz:st.sz<=z
theorem KT.of {ds:List Zd} {nf m z:Nat} {s:Z3} {ks:List Z4} {into:Int} (h:FS ds nf m s) (h11:s.op<=11) (hl:ks.length=s.kids.length) (hi:0<=into/\into<=m) (hk:KK ds nf (VM ds s.op s.num m) ks z):KT ds nf m ⟨s.op,s.num,into,s.args,ks⟩ (5+z):=by
 obtain ⟨h1,h2,h3⟩:=Ha h h11 hl hi hk
 exact ⟨h1,by show YA s.op=false;simp [YA];omega,h2,h3⟩
theorem CL.kt {ds:List Zd} {nf m d z z2:Nat} {xs:List Z3} {st:Z3} (h:CL ds nf m xs d z) (hs:KT ds nf (m+d) st z2):CL ds nf m (xs++[st]) (d+1) (z+z2):=(h.one hs.fs hs.cb hs.op).le (by have:=hs.sz;omega)
theorem FS.few {ds:List Zd} {nf m:Nat} {s:Z3} (h:FS ds nf m s) (hd:Wi ds):s.kids.length<=3:=by
 by_cases h7:s.op=7
 ·have:=h.k7 h7;omega
 ·by_cases h8:s.op=8
  ·have:=h.k8 h8
   have:=Iy hd s.num
   omega
  ·rw [h.kn ⟨h7,h8⟩];simp
theorem RF.lend {ds:List Zd} {nf q:Nat} {p:Int->Prop} {r:Y1} {l:LI} (h:RF ds nf q p r) (h1:l.length<=3) (h2:∀v∈l,0<=v/\v<(r.params.length:Int)):RF ds nf q p ⟨r.params,l,r.result,r.body⟩:=⟨h.sig,⟨h1,h2⟩,h.body,h.op⟩
theorem RF.with {ds:List Zd} {nf q q2:Nat} {p p2:Int->Prop} {r:Y1} {b:Z4} (h:RF ds nf q p r) (h1:fB ds nf r.params.length b) (h2:b.sz<=q2) (h3:Wq p2 b):RF ds nf q2 p2 ⟨r.params,r.lent,r.result,b⟩:=⟨h.sig,h.lent,⟨h1,h2⟩,h3⟩
theorem Z4.eta (b:Z4):Z4.mk b.steps b.result=b:=by cases b;rfl
theorem LC.at {n:Zu} {k:Nat} {xs:List LI} {i:Nat} {l:LI} {r:Y1} (h:LC n k xs) (hl:xs[i]? = some l) (hr:n.routines[i]? = some r):l.length<=3/\∀v∈l,0<=v/\v<(r.params.length:Int):=⟨(h.ok i l hl).1,(h.ok i l hl).2 r hr⟩
theorem Eb:∀{xs:List Z3},(∀s∈xs,Th XZ s)->∀k,k<=xs.length->Yy (xs.take k)=k
 | _,_,0,_=>rfl
 | [],_,k+1,h=>absurd h (by simp)
 | x::r,h,k+1,hk=>by
  have h1:=((BD x).1 (h x (YM ..))).1
  have hc:YA x.op=false:=by have:x.op<=11:=h1;simp [YA];omega
  rw [A3,Yy,Zs (by rw [hc];simp),Eb (fun s hs=>h s (Xb _ hs)) k (by simpa using hk)]
  omega
theorem KB.put1 {ds:List Zd} {nf m z:Nat} {b:Z4} (h:KB ds nf m b z) {op:Int} (ho:op=14∨op=15) {as1:LI} (ha:∀v∈as1,0<=v/\v<(m:Int)):KB ds nf m ⟨as1.map (Zl op)++b.steps,b.result⟩ (z+2*as1.length):=by
 obtain ⟨h1,h2⟩:=h.cl
 have q1:CL ds nf m ([]++as1.map (Zl op)) 0 (0+2*as1.length):=CL.nil.cnts ho ha
 have q2:=q1.app h1
 have:=h.sz
 have:=b.sz_eq
 rw [A1,We] at q2
 exact (q2.block h2).le om
theorem FO.fin {n:Zu} {rs:List Y1} {q q2:Nat} {p:Int->Prop} (h:FN n q2) (e:rs.length=n.routines.length) (hr:∀r∈rs,RF n.decls n.routines.length q p r):FO ⟨n.decls,rs⟩ q p/\rs.length=n.routines.length:=
 ⟨FO.all h.decls (by show 1<=rs.length/\rs.length<=4;rw [e];exact h.len) (by show ∀r∈rs,RF n.decls rs.length q p r;rw [e];exact hr),e⟩
theorem KT.le {ds:List Zd} {nf m z z2:Nat} {st:Z3} (h:KT ds nf m st z) (hz:z<=z2):KT ds nf m st z2:=⟨h.fs,h.cb,h.op,Wv h.sz hz⟩
theorem KB.len {ds:List Zd} {nf m z:Nat} {b:Z4} (h:KB ds nf m b z):b.steps.length<=z:=by
 have:=h.sz
 have:=b.sz_eq
 have:=Qk b.steps
 omega
mutual
def vS:Z3->LI
 | .mk op _ _ args kids=>if YA op=true then [] else args++UZ kids
def UZ:List Z4->LI
 | []=>[]
 | b::r=>vB b++UZ r
def Wd:List Z3->LI
 | []=>[]
 | s::r=>vS s++Wd r
def vB:Z4->LI
 | .mk steps result=>Wd steps++[result]
end
theorem G3 (s:Z3):vS s=if YA s.op=true then [] else s.args++UZ s.kids:=by cases s;rw [vS];rfl
theorem Ms (b:Z4):vB b=Wd b.steps++[b.result]:=by cases b;rw [vB];rfl
mutual
theorem Mv:∀(s:Z3),(vS s).length<=s.sz
 | .mk op num into args kids=>by
  have h1:=Mu kids
  rw [vS,Z3.sz];split
  ·simp
  ·rw [Yb];omega
theorem Mu:∀(bs:List Z4),(UZ bs).length<=YH bs
 | []=>YI _
 | b::r=>by
  have h1:=Mu r
  have h2:=Mt b
  rw [UZ,YH,Yb];omega
theorem Dx:∀(bs:List Z3),(Wd bs).length<=Y5 bs
 | []=>YI _
 | b::r=>by
  have h1:=Dx r
  have h2:=Mv b
  rw [Wd,Y5,Yb];omega
theorem Mt:∀(b:Z4),(vB b).length<=b.sz
 | .mk steps result=>by
  have h1:=Dx steps
  rw [vB,Z4.sz,Yb,BY];omega
end
theorem Z3x {ss:List Z3} {xs acc r:LI} {k:Nat} {s:Z3} (h:ss[k]? = some s) (ha:acc++Wd (ss.drop k)=r):(acc++vS s)++Wd (ss.drop (k+1))=r:=by
 rw [Ye h,Wd] at ha;rw [<-ha];simp
theorem Z3v {ss:List Z4} {acc r:LI} {k:Nat} {s:Z4} (h:ss[k]? = some s) (ha:acc++UZ (ss.drop k)=r):(acc++vB s)++UZ (ss.drop (k+1))=r:=by
 rw [Ye h,UZ] at ha;rw [<-ha];simp
theorem Z3w {ss:List Z3} {acc r:LI} {k:Nat} (h:ss.length<=k) (ha:acc++Wd (ss.drop k)=r):acc=r:=by
 rw [Xk h,Wd,Tn] at ha;exact ha
theorem Z3u {ss:List Z4} {acc r:LI} {k:Nat} (h:ss.length<=k) (ha:acc++UZ (ss.drop k)=r):acc=r:=by
 rw [Xk h,UZ,Tn] at ha;exact ha
def Ud:LI->Int->LI
 | [],_=>[]
 | x::r,n=>if 0<=x/\x<n then x::Ud r n else Ud r n
theorem Nm {xs acc r:LI} {n x:Int} {k:Nat} (hx:xs[k]? = some x) (h:acc++Ud (xs.drop k) n=r):(if 0<=x/\x<n then acc++[x] else acc)++Ud (xs.drop (k+1)) n=r:=by
 rw [Ye hx,Ud] at h
 by_cases q:0<=x/\x<n
 ·rw [Zw q] at h ⊢;rw [<-h];simp
 ·rw [Zs q] at h ⊢;exact h
theorem Nl {xs acc r:LI} {n:Int} {k:Nat} (hk:xs.length<=k) (h:acc++Ud (xs.drop k) n=r):acc=r:=by
 rw [Xk hk,Ud,Tn] at h;exact h
theorem DW:∀(xs:LI) (n:Int),Ud xs n=xs.filter (fun x=>decide (0<=x/\x<n))
 | [],_=>rfl
 | x::r,n=>by
  rw [Ud,List.filter_cons,DW r n]
  by_cases q:0<=x/\x<n
  ·rw [Zw q,Zw (by simpa using q)]
  ·rw [Zs q,Zs (by simpa using q)]
theorem Sz {xs:LI} {n z:Int}:z∈Ud xs n↔z∈xs/\0<=z/\z<n:=by rw [DW];simp
theorem Nn {xs:LI} {n:Int} (h:xs.Pairwise (·<·)):(Ud xs n).Pairwise (·<·):=by rw [DW];exact h.filter _
theorem Gm:∀{xs ys:LI},xs.Pairwise (·<·)->ys.Pairwise (·<·)->(∀z,z∈xs↔z∈ys)->xs=ys
 | [],[],_,_,_=>rfl
 | [],y::r,_,_,h=>by have:=(h y).2 (YM ..);cases this
 | x::r,[],_,_,h=>by have:=(h x).1 (YM ..);cases this
 | x::r,y::s,hx,hy,h=>by
  have h1:=XX.1 hx
  have h2:=XX.1 hy
  have e:x=y:=by
   rcases Yk.1 ((h x).1 (YM ..)) with e|e
   ·exact e
   ·rcases Yk.1 ((h y).2 (YM ..)) with e2|e2
    ·exact e2.symm
    ·have:=h1.1 y e2;have:=h2.1 x e;omega
  subst e
  rw [Gm h1.2 h2.2 fun z=>⟨fun hz=>by
    rcases Yk.1 ((h z).1 (Xb _ hz)) with e|e
    ·subst e;have:=h1.1 _ hz;omega
    ·exact e,fun hz=>by
    rcases Yk.1 ((h z).2 (Xb _ hz)) with e|e
    ·subst e;have:=h2.1 _ hz;omega
    ·exact e⟩]
theorem Fe:∀{xs:LI} {y z:Int},z∈Wo xs y↔z=y∨z∈xs
 | [],y,z=>by rw [Wo];simp
 | x::r,y,z=>by
  rw [Wo]
  split
  ·simp
  ·split
   ·rename_i h;subst h;simp
   ·rw [Yk,Fe,Yk]
    constructor
    ·rintro (h|h|h)
     ·exact .inr (.inl h)
     ·exact .inl h
     ·exact .inr (.inr h)
    ·rintro (h|h|h)
     ·exact .inr (.inl h)
     ·exact .inl h
     ·exact .inr (.inr h)
theorem HX:∀{xs:LI} {y:Int},xs.Pairwise (·<·)->(Wo xs y).Pairwise (·<·)
 | [],y,_=>by rw [Wo];simp
 | x::r,y,h=>by
  have h1:=XX.1 h
  rw [Wo]
  split
  ·rename_i q
   refine XX.2 ⟨fun z hz=>?_,h⟩
   rcases Yk.1 hz with rfl|hz
   ·exact q
   ·have:=h1.1 z hz;omega
  ·split
   ·exact h
   ·refine XX.2 ⟨fun z hz=>?_,HX h1.2⟩
    rcases Fe.1 hz with rfl|hz
    ·omega
    ·exact h1.1 z hz
theorem Fg {n:Int} {xs:LI} {a z:Int}:z∈WI n xs a↔z∈xs∨(z=a/\0<=z/\z<n):=by
 rw [WI]
 split
 ·rw [Fe]
  constructor
  ·rintro (h|h)
   ·exact .inr ⟨h,by omega⟩
   ·exact .inl h
  ·rintro (h|h)
   ·exact .inr h
   ·exact .inl h.1
 ·constructor
  ·exact .inl
  ·rintro (h|h)
   ·exact h
   ·omega
theorem G0 {n:Int} {xs:LI} {a:Int} (h:xs.Pairwise (·<·)):(WI n xs a).Pairwise (·<·):=by
 rw [WI];split
 ·exact HX h
 ·exact h
theorem Iq {n z:Int}:∀{as1 xs:LI},z∈Vo n as1 xs↔z∈xs∨(z∈as1/\0<=z/\z<n)
 | [],xs=>by rw [Vo];simp
 | a::r,xs=>by
  rw [Vo,Iq,Fg,Yk]
  constructor
  ·rintro ((h|h)|h)
   ·exact .inl h
   ·exact .inr ⟨.inl h.1,h.2⟩
   ·exact .inr ⟨.inr h.1,h.2⟩
  ·rintro (h|⟨h|h,q⟩)
   ·exact .inl (.inl h)
   ·exact .inl (.inr ⟨h,q⟩)
   ·exact .inr ⟨h,q⟩
theorem Mm {n:Int}:∀{as1 xs:LI},xs.Pairwise (·<·)->(Vo n as1 xs).Pairwise (·<·)
 | [],xs,h=>by rw [Vo];exact h
 | a::r,xs,h=>by rw [Vo];exact Mm (G0 h)
mutual
theorem Z3q (n:Int):∀(s:Z3) (xs:LI),((xs.Pairwise (·<·))->(UY n s xs).Pairwise (·<·))/\∀z,z∈UY n s xs↔z∈xs∨(z∈vS s/\0<=z/\z<n)
 | .mk op num into args kids,xs=>by
  have ih:=Mp n kids (Vo n args xs)
  rw [UY,vS]
  split
  ·exact ⟨id,fun z=>by simp⟩
  ·refine ⟨fun h=>ih.1 (Mm h),fun z=>?_⟩
   rw [ih.2,Iq,YP]
   constructor
   ·rintro ((h|h)|h)
    ·exact .inl h
    ·exact .inr ⟨.inl h.1,h.2⟩
    ·exact .inr ⟨.inr h.1,h.2⟩
   ·rintro (h|⟨h|h,q⟩)
    ·exact .inl (.inl h)
    ·exact .inl (.inr ⟨h,q⟩)
    ·exact .inr ⟨h,q⟩
theorem Mp (n:Int):∀(bs:List Z4) (xs:LI),((xs.Pairwise (·<·))->(UH n bs xs).Pairwise (·<·))/\∀z,z∈UH n bs xs↔z∈xs∨(z∈UZ bs/\0<=z/\z<n)
 | [],xs=>by rw [UH,UZ];exact ⟨id,fun z=>by simp⟩
 | b::r,xs=>by
  have h1:=Z3n n b xs
  have h2:=Mp n r (V1 n b xs)
  rw [UH,UZ]
  refine ⟨fun h=>h2.1 (h1.1 h),fun z=>?_⟩
  rw [h2.2,h1.2,YP]
  constructor
  ·rintro ((h|h)|h)
   ·exact .inl h
   ·exact .inr ⟨.inl h.1,h.2⟩
   ·exact .inr ⟨.inr h.1,h.2⟩
  ·rintro (h|⟨h|h,q⟩)
   ·exact .inl (.inl h)
   ·exact .inl (.inr ⟨h,q⟩)
   ·exact .inr ⟨h,q⟩
theorem Dv (n:Int):∀(bs:List Z3) (xs:LI),((xs.Pairwise (·<·))->(WJ n bs xs).Pairwise (·<·))/\∀z,z∈WJ n bs xs↔z∈xs∨(z∈Wd bs/\0<=z/\z<n)
 | [],xs=>by rw [WJ,Wd];exact ⟨id,fun z=>by simp⟩
 | b::r,xs=>by
  have h1:=Z3q n b xs
  have h2:=Dv n r (UY n b xs)
  rw [WJ,Wd]
  refine ⟨fun h=>h2.1 (h1.1 h),fun z=>?_⟩
  rw [h2.2,h1.2,YP]
  constructor
  ·rintro ((h|h)|h)
   ·exact .inl h
   ·exact .inr ⟨.inl h.1,h.2⟩
   ·exact .inr ⟨.inr h.1,h.2⟩
  ·rintro (h|⟨h|h,q⟩)
   ·exact .inl (.inl h)
   ·exact .inl (.inr ⟨h,q⟩)
   ·exact .inr ⟨h,q⟩
theorem Z3n (n:Int):∀(b:Z4) (xs:LI),((xs.Pairwise (·<·))->(V1 n b xs).Pairwise (·<·))/\∀z,z∈V1 n b xs↔z∈xs∨(z∈vB b/\0<=z/\z<n)
 | .mk steps result,xs=>by
  have h1:=Dv n steps xs
  rw [V1,vB]
  refine ⟨fun h=>G0 (h1.1 h),fun z=>?_⟩
  rw [Fg,h1.2,YP,Xj]
  constructor
  ·rintro ((h|h)|h)
   ·exact .inl h
   ·exact .inr ⟨.inl h.1,h.2⟩
   ·exact .inr ⟨.inr h.1,h.2⟩
  ·rintro (h|⟨h|h,q⟩)
   ·exact .inl (.inl h)
   ·exact .inl (.inr ⟨h,q⟩)
   ·exact .inr ⟨h,q⟩
end
theorem GF (zs:LI) (hs:zs.Pairwise (·<=·)):∀m,m<=zs.length->(Lib.compactUpTo zs.toArray m).Pairwise (·<·)/\∀z,z∈Lib.compactUpTo zs.toArray m↔∃j,j<m/\zs[j]? = some z
 | 0,_=>by simp [Lib.compactUpTo]
 | m+1,hm=>by
  obtain ⟨h1,h2⟩:=GF zs hs m om
  have hg:∀j (h:j<zs.length),zs.toArray[j]! = zs[j]:=fun j h=>by simp [h]
  have hle:∀i j (hj:j<zs.length),(hij:i<=j)->zs[i]'om<=zs[j]:=fun i j hj hij=>by
   rcases Jn i j with h|h
   ·exact (List.pairwise_iff_getElem.1 hs) i j om hj h
   ·have:i=j:=by omega
    subst this;exact Int.le_refl _
  rw [Lib.compactUpTo_succ]
  cases hk:Lib.keeps zs.toArray m with
  | true=>
   rw [Zw rfl,hg m om]
   have hlt:∀z∈Lib.compactUpTo zs.toArray m,z<zs[m]:=by
    intro z hz
    obtain ⟨j,hj,hjz⟩:=(h2 z).1 hz
    obtain ⟨hjl,rfl⟩:=Xl.1 hjz
    have a1:=hle j (m-1) om om
    have a2:=hle (m-1) m om om
    have a3:zs[m]≠zs[m-1]'om:=fun e=>by
     have:=Lib.keeps_neg (d:=zs.toArray) (m:=m) om (by rw [hg m om,hg (m-1) om];exact e)
     rw [hk] at this;cases this
    omega
   refine ⟨QW.2 ⟨h1,Jl _ _,fun a ha b hb=>by rw [Xj.1 hb];exact hlt a ha⟩,fun z=>?_⟩
   rw [YP,Xj,h2]
   constructor
   ·rintro (⟨j,hj,e⟩|rfl)
    ·exact ⟨j,by omega,e⟩
    ·exact ⟨m,by omega,TK om⟩
   ·rintro ⟨j,hj,e⟩
    rcases Jn j m with h|h
    ·exact .inl ⟨j,h,e⟩
    ·have:j=m:=by omega
     subst this
     rw [TK om] at e
     exact .inr (A5 e).symm
  | false=>
   rw [Zs (by simp),Tn]
   refine ⟨h1,fun z=>?_⟩
   rw [h2]
   constructor
   ·rintro ⟨j,hj,e⟩;exact ⟨j,by omega,e⟩
   ·rintro ⟨j,hj,e⟩
    rcases Jn j m with h|h
    ·exact ⟨j,h,e⟩
    ·have:j=m:=by omega
     subst this
     have hj0:0<j:=by
      rcases Nat.eq_zero_or_pos j with h0|h0
      ·subst h0;have:=Lib.keeps_lt_one zs.toArray 0 om;rw [hk] at this;cases this
      ·exact h0
     have he:zs.toArray[j]! = zs.toArray[j-1]!:=by
      rcases Decidable.em (zs.toArray[j]! = zs.toArray[j-1]!) with q|q
      ·exact q
      ·have:=Lib.keeps_pos q;rw [hk] at this;cases this
     rw [hg j om,hg (j-1) om] at he
     rw [TK om,he] at e
     exact ⟨j-1,by omega,by rw [TK om];exact e⟩
theorem NK (xs:LI):(Lib.compact (xs.mergeSort fun x y=>decide (x<=y))).Pairwise (·<·)/\∀z,z∈Lib.compact (xs.mergeSort fun x y=>decide (x<=y))↔z∈xs:=by
 have hs:(xs.mergeSort fun x y=>decide (x<=y)).Pairwise (·<=·):=by
  have:=List.pairwise_mergeSort (le:=fun x y:Int=>decide (x<=y)) (fun a b c h1 h2=>by simp only [decide_eq_true_eq] at *;omega) (fun a b=>by simp only [Bool.or_eq_true,decide_eq_true_eq];omega) xs
  exact this.imp fun h=>by simpa using h
 obtain ⟨h1,h2⟩:=GF _ hs _ (YI _)
 refine ⟨h1,fun z=>?_⟩
 unfold Lib.compact
 rw [h2]
 constructor
 ·rintro ⟨j,_,e⟩
  exact List.mem_mergeSort.1 (ZT e)
 ·intro hz
  obtain ⟨j,hj,e⟩:=List.getElem_of_mem (List.mem_mergeSort (le:=fun x y:Int=>decide (x<=y)).2 hz)
  exact ⟨j,hj,by rw [TK hj,e]⟩
def uF (n:Int) (b:Z4) (k:Nat):LI:=WI n (WJ n (b.steps.drop k) []) b.result
theorem Z3j (n:Int) (b:Z4) (k:Nat):(uF n b k).Pairwise (·<·):=G0 ((Dv n _ _).1 .nil)
theorem Ff {n:Int} {b:Z4} {k:Nat} {z:Int}:z∈uF n b k↔z∈Wd (b.steps.drop k)++[b.result]/\0<=z/\z<n:=by
 rw [uF,Fg,(Dv n _ _).2,YP,Xj]
 constructor
 ·rintro ((h|h)|h)
  ·cases h
  ·exact ⟨.inl h.1,h.2⟩
  ·exact ⟨.inr h.1,h.2⟩
 ·rintro ⟨h|h,q⟩
  ·exact .inl (.inr ⟨h,q⟩)
  ·exact .inr ⟨h,q⟩
theorem Z1l (n:Int) (b:Z4) (k:Nat):Ud (Lib.compact ((Wd (b.steps.drop k)++[b.result]).mergeSort fun x y=>decide (x<=y))) n=uF n b k:=by
 obtain ⟨h1,h2⟩:=NK (Wd (b.steps.drop k)++[b.result])
 refine Gm (Nn h1) (Z3j n b k) fun z=>?_
 rw [Sz,h2,Ff]
theorem NM (xs:LI):(Lib.compact xs).length<=xs.length:=by
 have:=List.length_filter_le (Lib.keeps xs.toArray) (List.range xs.length)
 simpa [Lib.compact,Lib.compactUpTo] using this
theorem Z3h (n:Int) (b:Z4) (k:Nat):(uF n b k).length<=b.sz:=by
 have h1:=BQ (n:=n) (WJ n (b.steps.drop k) []) b.result
 have h2:=Du (n:=n) (b.steps.drop k) []
 have h3:=AM b.steps k
 have h4:=b.sz_eq
 rw [uF];simp at h2;omega
theorem Z3g {n:Int} {b:Z4} {k:Nat} {s:Z3} {a:Int} (hs:b.steps[k]? = some s) (hc:¬YA s.op=true) (ha:a∈s.args) (h:0<=a/\a<n):a∈uF n b k:=by
 rw [Ff]
 refine ⟨YP.2 (.inl ?_),h⟩
 rw [Ye hs,Wd,G3,Zs hc]
 exact YP.2 (.inl (YP.2 (.inl ha)))
theorem Z3i {n:Int} {b:Z4} {k:Nat} (h:0<=b.result/\b.result<n):b.result∈uF n b k:=by
 rw [Ff];exact ⟨YP.2 (.inr (Xj.2 rfl)),h⟩
structure MH (n:Zu):Prop where
 result:∀r∈n.routines,r.result<=(n.decls.length:Int)
 decl:∀d∈n.decls,d.cons.length=0->d.to_<=(n.decls.length:Int)
 fields:∀c,∀f∈ZZ n.decls c,f<=(n.decls.length:Int)
section
variable {n:Zu} (hu:MH n)
include hu
end
theorem Il:∀{xs:List Z3},xs.length<=Y5 xs
 | []=>T2 _
 | x::r=>by have:=Il (xs:=r);have:=x.sz_pos;rw [Y5,Yw];omega
theorem CR (b:Z4):b.steps.length<=b.sz:=by have:=b.sz_eq;have:=Il (xs:=b.steps);omega

theorem OG {xs ys:LI} (h:xs.length=ys.length) (ha:∀i,i<xs.length->xs[i]? = ys[i]?):xs=ys:=List.ext_getElem? fun i=>by
 by_cases hi:i<xs.length
 ·exact ha i hi
 ·rw [BW om,BW om]
def WA:List Z3->Int->Nat
 | [],_=>0
 | s::r,v=>(if gI s.args 0=v then 1 else 0)+WA r v
def Wu (rn:List Z3):LI->Nat
 | []=>0
 | v::r=>WA rn v+Wu rn r
theorem E3:∀(xs ys:List Z3) (v:Int),WA (xs++ys) v=WA xs v+WA ys v
 | [],ys,v=>by simp [WA]
 | x::r,ys,v=>by rw [Qp,WA,WA,E3 r];omega
theorem NI {xs:List Z3} {k:Nat} {s:Z3} (h:xs[k]? = some s) (v:Int):WA (xs.take (k+1)) v=WA (xs.take k) v+(if gI s.args 0=v then 1 else 0):=by
 rw [Vf h,E3,WA,WA];omega
theorem GC:∀(xs:List Z3) (v:Int),WA xs v<=xs.length
 | [],v=>YI _
 | x::r,v=>by have:=GC r v;rw [WA,Yw];split<;>omega
theorem NJ (xs:List Z3) (k:Nat) (v:Int):WA (xs.take k) v<=WA xs v:=by
 have h:=Yh (WA · v) (U2 k xs)
 simp only [E3] at h;omega
theorem FQ (rn:List Z3):∀xs ys:LI,Wu rn (xs++ys)=Wu rn xs+Wu rn ys
 | [],ys=>by simp [Wu]
 | x::r,ys=>by rw [Qp,Wu,Wu,FQ rn r];omega
theorem Z38 {rn:List Z3} {xs:LI} {k:Nat} {v:Int} (h:xs[k]? = some v):Wu rn (xs.take (k+1))=Wu rn (xs.take k)+WA rn v:=by
 rw [Vf h,FQ,Wu,Wu];rfl
theorem Ma (s:Z3) (r:List Z3):∀vs:LI,Jo vs->Wu (s::r) vs<=1+Wu r vs/\(¬gI s.args 0∈vs->Wu (s::r) vs=Wu r vs)
 | [],_=>by simp [Wu]
 | v::vs,h=>by
  obtain ⟨h1,h2⟩:=XX.1 h
  obtain ⟨q1,q2⟩:=Ma s r vs h2
  rw [Wu,Wu,WA]
  by_cases e:gI s.args 0=v
  ·have hn:¬gI s.args 0∈vs:=fun z=>by have:=h1 _ z;omega
   rw [Zw e,q2 hn]
   exact ⟨by omega,fun z=>absurd (Yk.2 (.inl e)) z⟩
  ·rw [Zs e]
   exact ⟨by omega,fun z=>by rw [q2 fun y=>z (Xb _ y)];omega⟩
theorem Mb:∀(rn:List Z3) {vs:LI},Jo vs->Wu rn vs<=rn.length
 | [],vs,_=>by
  have:∀xs:LI,Wu [] xs=0:=fun xs=>by
   induction xs with
   | nil=>rfl
   | cons x r ih=>rw [Wu,ih];rfl
  rw [this];exact T2 _
 | s::r,vs,h=>by
  have h1:=(Ma s r vs h).1
  have h2:=Mb r h
  rw [Yw];omega
theorem FT (rn:List Z3) (xs:LI) (k:Nat):Wu rn (xs.take k)<=Wu rn xs:=by
 have h:=Yh (Wu rn) (U2 k xs)
 rw [FQ] at h;omega
def Gd (m:Nat) (rn:List Z3):Prop:=∀s∈rn,∃a,s.args=[a]/\0<=a/\a<(m:Int)
theorem GV {xs:List Z3} {k:Nat} {s:Z3} (h:xs[k]? = some s):Yy (xs.take (k+1))=Yy (xs.take k)+(if YA s.op=true then 0 else 1):=by rw [Vf h,Qc,Yy,Yy];rfl
theorem KT.eq {ds:List Zd} {nf m z:Nat} {s:Z3} {ks:List Z4} (h:FS ds nf m s) (h11:s.op<=11) (hl:ks.length=s.kids.length) (hk:KK ds nf (VM ds s.op s.num m) ks z):KT ds nf m ⟨s.op,s.num,s.into,s.args,ks⟩ (1+s.args.length+z):=by
 obtain ⟨h1,h2,h3⟩:=Ha h h11 hl h.into hk
 refine ⟨h1,by show YA s.op=false;simp [YA];omega,h2,?_⟩
 have:=hk.sz
 rw [Z3.sz];omega
theorem FS.pair {ds:List Zd} {nf m:Nat} {s:Z3} (h:FS ds nf m s) (hp:s.op=14∨s.op=15):(∃a,s.args=[a]/\0<=a/\a<(m:Int))/\s.sz=2/\YA s.op=true:=by
 obtain ⟨h1,h2,h3,a,h4⟩:=h.cnt om
 have h5:=h.args a (by rw [h4];exact Xj.2 rfl)
 refine ⟨⟨a,h4,h5⟩,?_,GO hp⟩
 rw [s.sz_eq,h3,h4];rfl
theorem FS.not_pair {ds:List Zd} {nf m:Nat} {s:Z3} (h:FS ds nf m s) (hp:¬(s.op=14∨s.op=15)) (h15:Wx s.op):s.op<=11/\YA s.op=false:=by
 have h1:s.op<=15:=h15
 have h2:=h.op
 exact ⟨by omega,by simp [YA];omega⟩
theorem CL.run {ds:List Zd} {nf m d z:Nat} {xs:List Z3} {D R:LI} {rn:List Z3} (h:CL ds nf m xs d z) (hr:Gd (m+d) rn) (hD:∀v∈D,∃s∈rn,s.args=[v]) (hR:∀v∈R,∃s∈rn,s.args=[v]):CL ds nf m (xs++(D.map (Zl 14)++R.map (Zl 15))) d (z+2*(D.length+R.length)):=by
 have key:∀(A:LI),(∀v∈A,∃s∈rn,s.args=[v])->∀v∈A,0<=v/\v<((m+d:Nat):Int):=fun A hA v hv=>by
  obtain ⟨s,hs,e⟩:=hA v hv
  obtain ⟨a,e2,e3⟩:=hr s hs
  rw [e] at e2
  cases e2
  exact e3
 have h2:=(h.cnts (op:=14) (.inl rfl) (key D hD)).cnts (op:=15) (.inr rfl) (key R hR)
 rw [<-Ua]
 exact h2.le om
def XO (xs:List Z3) (i:Nat) (s:Z3):List Z3:=xs.take i++[s]++xs.drop i
theorem BJ {xs:List Z3} (i:Nat) (s:Z3):Y5 (XO xs i s)=Y5 xs+s.sz:=by
 have h:=Yh Y5 (U2 i xs)
 rw [U0] at h
 rw [XO,U0,U0,Y5,Y5];omega
theorem IW {xs:List Z3} {i:Nat} {s:Z3} (h:i<=xs.length):(XO xs i s).length=xs.length+1:=by
 simp [XO,WS h];omega
def Bn (b:Z4) (i j:Nat) (v:Int):Z4:=⟨XO (XO b.steps j (Zl 15 v)) i (Zl 14 v),b.result⟩
def withR (n:Zu) (f:Nat) (rt:Y1) (b:Z4):Zu:=⟨n.decls,n.routines.set f ⟨rt.params,rt.lent,rt.result,b⟩⟩
def DL (n n2:Zu):Prop:=n2=n∨∃f rt i j v,n.routines[f]? = some rt/\i<=j/\j<=rt.body.steps.length/\0<=v/\v<((rt.params.length+Yy (rt.body.steps.take i):Nat):Int)/\n2=withR n f rt (Bn rt.body i j v)
theorem CL.put {ds:List Zd} {nf m:Nat} {xs:List Z3} {d z:Nat} (h:CL ds nf m xs d z) {i:Nat} {op v:Int} (ho:op=14∨op=15) (hv:0<=v/\v<((m+Yy (xs.take i):Nat):Int)):CL ds nf m (XO xs i (Zl op v)) d (z+2):=by
 have hs:=h.fs
 have hp:=h.op
 have e:=U2 i xs
 rw [<-e] at hs hp
 rw [Ao] at hs
 rw [CZ] at hp
 have h1:CL ds nf m (xs.take i) (Yy (xs.take i)) (Y5 (xs.take i)):=⟨hs.1,rfl,hp.1,YI _⟩
 have h2:CL ds nf (m+Yy (xs.take i)) (xs.drop i) (Yy (xs.drop i)) (Y5 (xs.drop i)):=⟨hs.2,rfl,hp.2,YI _⟩
 have h3:=(h1.cnt ho hv).app h2
 have e1:=Yh Y5 e
 have e2:=Yh Yy e
 rw [U0] at e1
 rw [Qc,h.dn] at e2
 have:=h.sz
 rw [e2] at h3
 exact h3.le om
theorem Z0b {xs:List Z3} {i j:Nat} {s:Z3} (h:i<=j) (hj:j<=xs.length):(XO xs j s).take i=xs.take i:=by
 rw [XO,Ua,List.take_append_of_le_length (by rw [W9];omega),List.take_take,WS h]
theorem Ri {ds:List Zd} {nf m z:Nat} {b:Z4} (h:KB ds nf m b z) {i j:Nat} {v:Int} (hij:i<=j) (hj:j<=b.steps.length) (hv:0<=v/\v<((m+Yy (b.steps.take i):Nat):Int)):KB ds nf m (Bn b i j v) (z+4):=by
 obtain ⟨h1,h2⟩:=h.cl
 have hm:Yy (b.steps.take i)<=Yy (b.steps.take j):=by
  have e:=Yh Yy (U2 i (b.steps.take j))
  rw [Qc,List.take_take,WS hij] at e;omega
 have h3:=(h1.put (i:=j) (op:=15) (v:=v) (.inr rfl) om).put (i:=i) (op:=14) (v:=v) (.inl rfl) (by rw [Z0b hij hj];exact hv)
 have:=h.sz
 have:=b.sz_eq
 exact (h3.block h2).le om
theorem FO.held {n n2:Zu} {q:Nat} (h:FO n q Wx) (hh:DL n n2):FO n2 (q+4) Wx:=by
 rcases hh with rfl|⟨f,rt,i,j,v,h1,h2,h3,h4,h5,rfl⟩
 ·exact ⟨⟨h.fn.decls,h.fn.len,h.fn.sigs,h.fn.lent,fun r hr=>⟨(h.fn.body r hr).1,by have:=(h.fn.body r hr).2;omega⟩⟩,h.op⟩
 ·have hr:=h.rf (ZT h1)
  have hk:KB n.decls n.routines.length rt.params.length (Bn rt.body i j v) (q+4):=Ri ⟨hr.body.1,hr.op,hr.body.2⟩ h2 h3 ⟨h4,h5⟩
  refine FO.all h.fn.decls (by show 1<=(n.routines.set _ _).length/\(n.routines.set _ _).length<=4;rw [Ub];exact h.fn.len) fun r hm=>?_
  show RF n.decls (n.routines.set _ _).length _ _ r
  rw [Ub]
  rcases List.mem_or_eq_of_mem_set hm with hm|rfl
  ·have hq:=h.rf hm
   exact ⟨hq.sig,hq.lent,⟨hq.body.1,by have:=hq.body.2;omega⟩,hq.op⟩
  ·exact ⟨hr.sig,hr.lent,⟨hk.fb,hk.sz⟩,hk.op⟩
structure Wl (ds:List Zd) (b:Z4):Prop where
 w:wB ds b
 nr:Tf b
 rng:b.rng
structure Uc (ds:List Zd) (s:Z3):Prop where
 w:wS ds s
 nr:JS s
 rng:s.rng
section
variable {ds:List Zd}
theorem UW:∀{xs:List Z3},QS xs↔∀s∈xs,s.rng
 | []=>by simp [QS]
 | s::r=>by rw [QS,UW];simp
theorem KS:∀{xs:List Z4},Qx xs↔∀s∈xs,s.rng
 | []=>by simp [Qx]
 | s::r=>by rw [Qx,KS];simp
theorem Wl.iff {b:Z4}:Wl ds b↔∀s∈b.steps,Uc ds s:=by
 constructor
 ·intro h s hs
  have h3:=h.rng
  rw [Z4.rng_eq] at h3
  exact ⟨KC.1 ((Q8 b).1 h.w) s hs,BA.1 ((Bz b).1 h.nr) s hs,UW.1 h3 s hs⟩
 ·intro h
  exact ⟨(Q8 b).2 (KC.2 fun s hs=>(h s hs).w),(Bz b).2 (BA.2 fun s hs=>(h s hs).nr),by rw [Z4.rng_eq];exact UW.2 fun s hs=>(h s hs).rng⟩
theorem Uc.kid {s:Z3} {b:Z4} (h:Uc ds s) (hb:b∈s.kids):Wl ds b:=by
 have h3:=h.rng
 rw [Z3.rng_eq] at h3
 exact ⟨Dy.1 ((Qo s).1 h.w).2.2.2 b hb,CW.1 ((Az s).1 h.nr).2 b hb,KS.1 h3.2 b hb⟩
theorem Uc.kids {s:Z3} {ks:List Z4} (h:Uc ds s) (hl:ks.length=s.kids.length) (hk:∀b∈ks,Wl ds b):Uc ds ⟨s.op,s.num,s.into,s.args,ks⟩:=by
 obtain ⟨h1,h2,h3,h4⟩:=(Qo s).1 h.w
 have h5:=h.rng
 rw [Z3.rng_eq] at h5
 refine ⟨(Qo _).2 ⟨h1,fun hc=>?_,fun h8=>⟨(h3 h8).1,hl.trans (h3 h8).2⟩,Dy.2 fun b hb=>(hk b hb).w⟩,(Az _).2 ⟨((Az s).1 h.nr).1,CW.2 fun b hb=>(hk b hb).nr⟩,by rw [Z3.rng_eq];exact ⟨h5.1,KS.2 fun b hb=>(hk b hb).rng⟩⟩
 obtain ⟨q1,q2,q3,q4⟩:=h2 hc
 exact ⟨q1,q2,List.eq_nil_of_length_eq_zero (show ks.length=0 by rw [hl,q3];rfl),q4⟩
theorem Uc.cnt {op v:Int} (h:op=14∨op=15∨op=16):Uc ds (Zl op v):=⟨Z4b h,(Az _).2 ⟨by show op≠17;omega,True.intro⟩,by rw [Z3.rng_eq];exact ⟨⟨by show (-9223372036854775808:Int)<=0;decide,by show (0:Int)<=_;decide⟩,True.intro⟩⟩
theorem Wl.open {b:Z4} {x q:Int} {fs:LI} (h:Wl ds b):Wl ds (Qt b x fs q):=by
 rw [Wl.iff] at h ⊢
 intro s hs
 have hs:s∈KP b.steps x fs q:=hs
 rw [KP] at hs
 split at hs
 ·simp only [YP,W6,Xj] at hs
  rcases hs with ((⟨a,_,rfl⟩|rfl)|⟨a,_,rfl⟩)|hs
  ·exact Uc.cnt om
  ·exact Uc.cnt om
  ·exact Uc.cnt om
  ·exact h s (List.mem_of_mem_drop hs)
 ·exact h s hs
theorem LG {m:Nat} {op num:Int} {args:LI}:∀{bs:List Z4} {k:Nat},(Us ds m op num args bs k).length=bs.length
 | [],_=>rfl
 | b::r,k=>by rw [Us,Yw,Yw,LG (bs:=r)]
mutual
theorem Uc.sp:∀(s:Z3) {m:Nat},Uc ds s->Uc ds (JW ds m s)
 | .mk op num into args kids,m,h=>by
  rw [JW]
  exact h.kids LG (Wls.sp kids fun b hb=>h.kid hb)
theorem Wls.sp:∀(bs:List Z4) {m:Nat} {op num:Int} {args:LI} {k:Nat},(∀b∈bs,Wl ds b)->∀b∈Us ds m op num args bs k,Wl ds b
 | [],_,_,_,_,_,_,b,hb=>by cases hb
 | c::r,m,op,num,args,k,h,b,hb=>by
  rw [Us] at hb
  rcases Yk.1 hb with rfl|hb
  ·split
   ·exact (Wl.sp c (h c (YM ..))).open
   ·exact Wl.sp c (h c (YM ..))
  ·exact Wls.sp r (fun x hx=>h x (Xb _ hx)) b hb
theorem WlSs.sp:∀(xs:List Z3) {m:Nat},(∀s∈xs,Uc ds s)->∀s∈VN ds m xs,Uc ds s
 | [],_,_,s,hs=>by cases hs
 | c::r,m,h,s,hs=>by
  rw [VN] at hs
  rcases Yk.1 hs with rfl|hs
  ·exact Uc.sp c (h c (YM ..))
  ·exact WlSs.sp r (fun x hx=>h x (Xb _ hx)) s hs
theorem Wl.sp:∀(b:Z4) {m:Nat},Wl ds b->Wl ds (Wg ds m b)
 | .mk steps result,m,h=>by
  rw [Wg,Wl.iff]
  exact WlSs.sp steps (Wl.iff.1 h)
end
theorem Z0m {b:Z4} {x:Int} {many:Nat} (h:b.rng):(V7 b x many).rng:=by
 rw [Z4.rng_eq] at h
 rw [V7,Z4.rng_eq]
 show QS (Vd b.steps x many)
 rw [Vd]
 split
 ·exact h
 ·rename_i hq
  obtain ⟨_,_,t,h5,h7,h6⟩:=KU (fun z=>hq (.inr z))
  rw [UW] at h ⊢
  intro s hs
  rcases List.mem_or_eq_of_mem_set hs with hs|rfl
  ·rcases List.mem_or_eq_of_mem_set hs with hs|rfl
   ·exact h s hs
   ·rw [Z3.rng_eq];exact ⟨⟨by show (-9223372036854775808:Int)<=0;decide,by show (0:Int)<=_;decide⟩,True.intro⟩
  ·have:=h t (ZT h5)
   rw [h6,Td,Z3.rng_eq]
   rw [Z3.rng_eq] at this
   exact this
mutual
theorem Z0n:∀(s:Z3) {K:LI},s.rng->(Tj ds K s).rng
 | .mk op num into args kids,K,h=>by
  rw [Z3.rng] at h
  rw [Tj,Z3.rng]
  exact ⟨h.1,Lc kids h.2⟩
theorem Lc:∀(bs:List Z4) {K:LI} {op num:Int} {args:LI} {k:Nat},Qx bs->Qx (Vy ds K op num args bs k)
 | [],_,_,_,_,_,_=>True.intro
 | b::r,K,op,num,args,k,h=>by
  rw [Vy,Qx]
  refine ⟨?_,Lc r h.2⟩
  split
  ·exact Z0m (Fq b h.1)
  ·exact Fq b h.1
theorem Ld:∀(xs:List Z3) {K:LI},QS xs->QS (Vz ds K xs)
 | [],_,_=>True.intro
 | s::r,K,h=>⟨Z0n s h.1,Ld r h.2⟩
theorem Fq:∀(b:Z4) {K:LI},b.rng->(XW ds K b).rng
 | .mk steps result,K,h=>by
  rw [Z4.rng] at h
  rw [XW,Z4.rng]
  exact Ld steps h
end
end
mutual
theorem SG:∀s:Z3,Th Wx s->JS s
 | .mk op num into args kids,h=>by
  rw [Th] at h
  rw [JS]
  exact ⟨by have:op<=15:=h.1;omega,Iv kids h.2⟩
theorem Iv:∀bs:List Z4,Tg Wx bs->J6 bs
 | [],_=>True.intro
 | b::r,h=>⟨Iu b h.1,Iv r h.2⟩
theorem Iw:∀bs:List Z3,Un Wx bs->J7 bs
 | [],_=>True.intro
 | b::r,h=>⟨SG b h.1,Iw r h.2⟩
theorem Iu:∀b:Z4,Wq Wx b->Tf b
 | .mk steps result,h=>by
  rw [Wq] at h
  rw [Tf]
  exact Iw steps h
end
structure ZR (q:Nat) (r:Y1):Prop where
 params:r.params.length<=3
 lent:r.lent.length<=10
 body:r.body.sz<=q
 rng:r.body.rng
structure ZN (n:Zu) (q:Nat):Prop where
 decls:AD n.decls
 len:1<=n.routines.length/\n.routines.length<=4
 rt:∀r∈n.routines,ZR q r
theorem ZR.le {q q2:Nat} {r:Y1} (h:ZR q r) (hq:q<=q2):ZR q2 r:=⟨h.params,h.lent,Wv h.body hq,h.rng⟩
theorem ZN.le {n:Zu} {q q2:Nat} (h:ZN n q) (hq:q<=q2):ZN n q2:=⟨h.decls,h.len,fun r hr=>(h.rt r hr).le hq⟩
theorem ZN.sz {n:Zu} {q:Nat} (h:ZN n q) (hq:q<=10000000):KJ n:=
 ⟨⟨by have:=h.decls.1;omega,fun d hd=>by have:=(h.decls.2 d hd).1;omega,fun d hd c hc=>by have:=(h.decls.2 d hd).2 c hc;omega⟩,by have:=h.len;omega,fun r hr=>by have:=(h.rt r hr).params;omega,fun r hr=>by have:=(h.rt r hr).lent;omega,fun r hr=>by have:=(h.rt r hr).body;omega⟩
theorem FO.wl {n:Zu} {q:Nat} (h:FO n q Wx) (hq:q<=100000000):∀r∈n.routines,Wl n.decls r.body:=fun r hr=>by
 have h1:=h.rf hr
 have h2:r.params.length<=3:=(U3.bd (f:=⟨r.params,r.result,default⟩) h1.sig).1
 exact ⟨Mx r.body h1.body.1 (by have:=h1.body.2;omega) h.fn.decls.ok,Iu r.body h1.op,Fo r.body h1.body.1⟩
theorem FO.zn {n:Zu} {q:Nat} {p:Int->Prop} (h:FO n q p):ZN n q:=
 ⟨h.fn.decls.ad,h.fn.len,fun r hr=>⟨(U3.bd (f:=⟨r.params,r.result,default⟩) (h.fn.sigs r hr)).1,by have:=(h.fn.lent r hr).1;omega,(h.fn.body r hr).2,Fo r.body (h.fn.body r hr).1⟩⟩
structure WN (n:Zu) (q:Nat):Prop where
 ok:X5 n
 zn:ZN n q
 wl:∀r∈n.routines,Wl n.decls r.body
theorem FO.wn {n:Zu} {q:Nat} (h:FO n q Wx) (hq:q<=100000000):WN n q:=⟨h.fn.ok,h.zn,h.wl hq⟩
theorem WN.sp {n:Zu} {q:Nat} (h:WN n q):WN (Dl n) (9*q):=by
 refine ⟨⟨h.ok.decls,by show (n.routines.map _).length<=4;rw [BX];exact h.ok.len,fun r hr=>?_,fun r hr=>?_⟩,⟨h.zn.decls,by show 1<=(n.routines.map _).length/\(n.routines.map _).length<=4;rw [BX];exact h.zn.len,fun r hr=>?_⟩,fun r hr=>?_⟩
 ·obtain ⟨s,hs,rfl⟩:=W6.1 hr;exact h.ok.params s hs
 ·obtain ⟨s,hs,rfl⟩:=W6.1 hr;exact h.ok.lent s hs
 ·obtain ⟨s,hs,rfl⟩:=W6.1 hr
  have hz:=h.zn.rt s hs
  refine ⟨hz.params,hz.lent,?_,(Wl.sp s.body (h.wl s hs)).rng⟩
  have h1:=Dj h.ok.decls s.body (m:=s.params.length) (h.wl s hs).w
  have h2:=s.body.pz_le
  have h3:=hz.body
  show (Wg n.decls s.params.length s.body).sz<=9*q
  omega
 ·obtain ⟨s,hs,rfl⟩:=W6.1 hr;exact Wl.sp s.body (h.wl s hs)
theorem WN.ru {n:Zu} {q:Nat} (h:WN n q):ZN (D8 n) q:=by
 refine ⟨h.zn.decls,by show 1<=(n.routines.map _).length/\(n.routines.map _).length<=4;rw [BX];exact h.zn.len,fun r hr=>?_⟩
 obtain ⟨s,hs,rfl⟩:=W6.1 hr
 have hz:=h.zn.rt s hs
 refine ⟨hz.params,hz.lent,?_,Fq s.body (h.wl s hs).rng⟩
 have h1:=Fu s.body (K:=[]) (h.wl s hs).w
 have h3:=hz.body
 show (XW n.decls [] s.body).sz<=q
 omega
theorem Fk {xs:List Z3} {i:Nat} {s t:Z3} (h:t∈XO xs i s):t∈xs∨t=s:=by
 rw [XO] at h
 simp only [YP,Xj] at h
 rcases h with (h|h)|h
 ·exact .inl (To h)
 ·exact .inr h
 ·exact .inl (List.mem_of_mem_drop h)
theorem Fp {op v:Int}:(Zl op v).rng:=by rw [Z3.rng_eq];exact ⟨⟨by show (-9223372036854775808:Int)<=0;decide,by show (0:Int)<=_;decide⟩,True.intro⟩
theorem ZN.withR {n:Zu} {q q2:Nat} {f:Nat} {rt:Y1} {b:Z4} (h:ZN n q) (hr:n.routines[f]? = some rt) (hq:q<=q2) (hb:b.sz<=q2) (hg:b.rng):ZN (withR n f rt b) q2:=by
 refine ⟨h.decls,by show 1<=(n.routines.set _ _).length/\(n.routines.set _ _).length<=4;rw [Ub];exact h.len,fun r hm=>?_⟩
 rcases List.mem_or_eq_of_mem_set hm with hm|rfl
 ·exact (h.rt r hm).le hq
 ·have:=h.rt rt (ZT hr)
  exact ⟨this.params,this.lent,hb,hg⟩
theorem ZN.held {n n2:Zu} {q:Nat} (h:ZN n q) (hh:DL n n2):ZN n2 (q+4):=by
 rcases hh with rfl|⟨f,rt,i,j,v,h1,h2,h3,h4,h5,rfl⟩
 ·exact h.le om
 ·have hz:=h.rt rt (ZT h1)
  refine h.withR h1 om ?_ ?_
  ·rw [Bn,Z4.sz,BJ,BJ]
   have e1:(Zl 14 v).sz=2:=rfl
   have e2:(Zl 15 v).sz=2:=rfl
   have:=hz.body
   have:=rt.body.sz_eq
   omega
  ·have hg:=hz.rng
   rw [Z4.rng_eq,UW] at hg
   rw [Bn,Z4.rng_eq,UW]
   intro s hs
   rcases Fk hs with hs|rfl
   ·rcases Fk hs with hs|rfl
    ·exact hg s hs
    ·exact Fp
   ·exact Fp
theorem FO.le {n:Zu} {q q2:Nat} {p:Int->Prop} (h:FO n q p) (hq:q<=q2):FO n q2 p:=⟨⟨h.fn.decls,h.fn.len,h.fn.sigs,h.fn.lent,fun r hr=>⟨(h.fn.body r hr).1,Wv (h.fn.body r hr).2 hq⟩⟩,h.op⟩
def WT (s y:Z3):Prop:=y.sz<=s.sz+1/\y.rng
theorem WT.refl {s:Z3} (hg:s.rng):WT s s:=⟨Nat.le_succ _,hg⟩
theorem WT.of {s:Z3} {op num into:Int} {args:LI} {kids:List Z4} (hg:s.rng) (hn:num=s.num∨num∈([0,1,2,3,-1,1000]:LI)) (ha:args.length<=s.args.length+1) (hk:kids=s.kids∨kids=s.kids.drop 1):WT s ⟨op,num,into,args,kids⟩:=by
 rw [Z3.rng_eq] at hg
 have hs:=s.sz_eq
 have hb:YH kids<=YH s.kids:=by
  rcases hk with rfl|rfl
  ·exact YI _
  ·have h:=Yh YH (U2 1 s.kids)
   rw [B4] at h;omega
 refine ⟨by rw [Z3.sz];omega,?_⟩
 rw [Z3.rng]
 refine ⟨?_,KS.2 fun b hbk=>KS.1 hg.2 b ?_⟩
 ·rcases hn with rfl|hn
  ·exact hg.1
  ·have:=(by decide:∀z∈([0,1,2,3,-1,1000]:LI),-9223372036854775808<=z/\z<=9223372036854775807) num hn
   exact this
 ·rcases hk with rfl|rfl
  ·exact hbk
  ·exact List.mem_of_mem_drop hbk
def X3 (b y:Z4):Prop:=y.sz<=b.sz+2/\y.rng
theorem X3.result {b:Z4} (hg:b.rng) (z:Int):X3 b ⟨b.steps,z⟩:=⟨by rw [Z4.sz,b.sz_eq];omega,by rw [Z4.rng_eq] at hg;rw [Z4.rng];exact hg⟩
theorem X3.put {b:Z4} (hg:b.rng) {i:Nat} {op v:Int}:X3 b ⟨XO b.steps i (Zl op v),b.result⟩:=by
 rw [Z4.rng_eq,UW] at hg
 refine ⟨?_,?_⟩
 ·rw [Z4.sz,BJ,b.sz_eq]
  have e:(Zl op v).sz=2:=rfl
  omega
 ·rw [Z4.rng,UW]
  intro s hs
  rcases Fk hs with hs|rfl
  ·exact hg s hs
  ·exact Fp
theorem X3.del {b:Z4} (hg:b.rng) {k:Nat}:X3 b ⟨b.steps.take k++b.steps.drop (k+1),b.result⟩:=by
 rw [Z4.rng_eq,UW] at hg
 have h1:=TF b.steps k
 have h2:=Yh Y5 (U2 k b.steps)
 have h3:=Yh Y5 (U2 1 (b.steps.drop k))
 rw [U0] at h2 h3
 rw [List.drop_drop] at h3
 refine ⟨by rw [Z4.sz,U0,b.sz_eq];omega,?_⟩
 rw [Z4.rng,UW]
 intro s hs
 rcases YP.1 hs with hs|hs
 ·exact hg s (To hs)
 ·exact hg s (List.mem_of_mem_drop hs)
theorem X3.set {b:Z4} (hg:b.rng) {k:Nat} {s t:Z3} (hs:b.steps[k]? = some s) (ht:t.sz<=s.sz+2/\t.rng):X3 b ⟨b.steps.set k t,b.result⟩:=by
 rw [Z4.rng_eq,UW] at hg
 have h1:=Do t hs
 refine ⟨by rw [Z4.sz,b.sz_eq];omega,?_⟩
 rw [Z4.rng,UW]
 intro x hx
 rcases List.mem_or_eq_of_mem_set hx with hx|rfl
 ·exact hg x hx
 ·exact ht.2
theorem Gx:∀{xs:List Z4} {i:Nat} {s:Z4} (t:Z4),xs[i]? = some s->YH (xs.set i t)+s.sz=YH xs+t.sz
 | [],_,_,_,h=>by simp at h
 | x::r,0,s,t,h=>by simp at h;subst h;rw [List.set_cons_zero,YH,YH];omega
 | x::r,i+1,s,t,h=>by
  have:=Gx (xs:=r) (i:=i) t (by simpa using h)
  rw [List.set_cons_succ,YH,YH];omega
theorem X3.kid {b:Z4} (hg:b.rng) {k j:Nat} {s:Z3} {c y:Z4} (hs:b.steps[k]? = some s) (hc:s.kids[j]? = some c) (hy:X3 c y):X3 b ⟨b.steps.set k ⟨s.op,s.num,s.into,s.args,s.kids.set j y⟩,b.result⟩:=by
 refine X3.set hg hs ?_
 have hg2:=hg
 rw [Z4.rng_eq,UW] at hg2
 have h1:=hg2 s (ZT hs)
 rw [Z3.rng_eq] at h1
 have h2:=Gx y hc
 have h3:=hy.1
 refine ⟨by rw [Z3.sz,s.sz_eq];omega,?_⟩
 rw [Z3.rng]
 refine ⟨h1.1,KS.2 fun x hx=>?_⟩
 rcases List.mem_or_eq_of_mem_set hx with hx|rfl
 ·exact KS.1 h1.2 x hx
 ·exact hy.2
theorem Lb {b:Z4} (hg:b.rng) {k j:Nat} {s:Z3} {c:Z4} (hs:b.steps[k]? = some s) (hc:s.kids[j]? = some c):c.rng:=by
 rw [Z4.rng_eq,UW] at hg
 have h1:=hg s (ZT hs)
 rw [Z3.rng_eq] at h1
 exact KS.1 h1.2 c (ZT hc)
theorem Z0o {b:Z4} (hg:b.rng) {k:Nat} {s:Z3} (hs:b.steps[k]? = some s):s.rng:=by
 rw [Z4.rng_eq,UW] at hg
 exact hg s (ZT hs)
structure ZS (n:Zu) (q l:Nat):Prop where
 decls:AD n.decls
 len:1<=n.routines.length/\n.routines.length<=4
 rt:∀r∈n.routines,r.params.length<=3/\r.lent.length<=l/\r.body.sz<=q/\r.body.rng
theorem ZN.zs {n:Zu} {q:Nat} (h:ZN n q):ZS n q 10:=⟨h.decls,h.len,fun r hr=>⟨(h.rt r hr).params,(h.rt r hr).lent,(h.rt r hr).body,(h.rt r hr).rng⟩⟩
theorem ZS.le {n:Zu} {q q2 l l2:Nat} (h:ZS n q l) (hq:q<=q2) (hl:l<=l2):ZS n q2 l2:=⟨h.decls,h.len,fun r hr=>by obtain ⟨a,b,c,d⟩:=h.rt r hr;exact ⟨a,by omega,by omega,d⟩⟩
theorem ZS.set {n:Zu} {q l q2 l2:Nat} {f:Nat} {rt:Y1} {ls:LI} {b:Z4} (h:ZS n q l) (hr:n.routines[f]? = some rt) (hq:q<=q2) (hl:l<=l2) (hls:ls.length<=l2) (hb:b.sz<=q2) (hg:b.rng):ZS ⟨n.decls,n.routines.set f ⟨rt.params,ls,rt.result,b⟩⟩ q2 l2:=by
 refine ⟨h.decls,by show 1<=(n.routines.set _ _).length/\(n.routines.set _ _).length<=4;rw [Ub];exact h.len,fun r hm=>?_⟩
 rcases List.mem_or_eq_of_mem_set hm with hm|rfl
 ·exact (h.le hq hl).rt r hm
 ·have:=h.rt rt (ZT hr)
  exact ⟨this.1,hls,hb,hg⟩
theorem ZS.ds {n:Zu} {q l:Nat} {ds:List Zd} (h:ZS n q l) (hd:AD ds):ZS ⟨ds,n.routines⟩ q l:=⟨hd,h.len,h.rt⟩
theorem Nq {xs:List Z4} {k:Nat} {b:Z4} (h:xs[k]? = some b):YH (xs.drop k)=b.sz+YH (xs.drop (k+1)):=by rw [Ye h,YH]
theorem SJ {xs:LI} {k:Nat} {n x:Int} (hx:xs[k]? = some x) (h:n∉xs.take k) (hn:¬x=n):n∉xs.take (k+1):=by
 rw [List.take_add_one,hx,Option.toList_some,YP,Xj]
 exact fun q=>q.elim h fun q=>hn q.symm
theorem Ib {b:Z4} {q k j:Nat} {s:Z3} {c:Z4} (h:b.sz<=q/\b.rng) (hs:b.steps[k]? = some s) (hc:s.kids[j]? = some c):c.sz<=q/\c.rng:=by
 have h1:=TG hs
 have h2:=VX hc
 have h3:=U9 s
 exact ⟨by omega,Lb h.2 hs hc⟩
abbrev Je (xs:LI):LI:=xs.mergeSort fun x y=>decide (x<=y)
abbrev AJ (b:Z4) (k:Nat):LI:=Lib.compact (Je (Wd (b.steps.drop k)++[b.result]))
theorem Z1j (b:Z4) (k:Nat):(AJ b k).length<=b.sz:=by
 have h1:=NM (Je (Wd (b.steps.drop k)++[b.result]))
 have h2:=Dx (b.steps.drop k)
 have h3:=AM b.steps k
 have h4:=b.sz_eq
 have h0:(Je (Wd (b.steps.drop k)++[b.result])).length=(Wd (b.steps.drop k)).length+1:=(List.length_mergeSort _).trans (by simp)
 rw [h0] at h1
 exact Wv h1 om
theorem Z1m {xs:LI} (h:xs≠[]):Je xs≠[]:=fun q=>h (by have:=Yh List.length q;simp only [Je,List.length_mergeSort,YY] at this;exact List.length_eq_zero_iff.1 this)
def YX (b:Z4) (n k:Int):LI:=if Xz b<0∨k<0∨k>(b.steps.length:Int) then [] else uF n b k.toNat
theorem Mk (b:Z4) (n k:Int):(YX b n k).length<=b.sz:=by
 rw [YX];split
 ·simp
 ·exact Z3h _ _ _
theorem Z3k {b:Z4} {n:Int} {k:Nat} {s:Z3} {a:Int} (hb:¬Xz b<0) (hs:b.steps[k]? = some s) (hc:¬YA s.op=true) (ha:a∈s.args) (h:0<=a/\a<n):a∈YX b n (k:Int):=by
 have hk:=(Xl.1 hs).1
 rw [YX,Zs om]
 exact Z3g (k:=k) hs hc ha h
theorem Ds {b:Z4} {n k:Int} (hb:¬Xz b<0) (hk:0<=k/\k<=b.steps.length) (h:0<=b.result/\b.result<n):b.result∈YX b n k:=by
 rw [YX,Zs om];exact Z3i h
theorem Dr {b:Z4} {n k:Int} {s:Z3} {a:Int} (hb:¬Xz b<0) (hk:0<=k) (hs:b.steps[k.toNat]? = some s) (hc:¬YA s.op=true) (ha:a∈s.args) (h:0<=a/\a<n):a∈YX b n k:=by
 have:=Z3k (n:=n) hb hs hc ha h
 rwa [show (k.toNat:Int)=k by omega] at this
end Go.Abs
section
namespace Go.Proofs
open Go.Shelf
def Tryz.lays189_ren:Go.Shelf.Ren:=⟨fun|189=>107|125=>148|257=>147|128=>186|129=>187|294=>177|295=>178|296=>179|297=>180|298=>181|299=>182|216=>183|300=>184|301=>185|328=>212|329=>213|330=>214|331=>215|332=>216|215=>217|343=>245|n=>n,fun|28=>27|3=>3|46=>152|0=>0|51=>183|53=>185|4=>4|183=>176|182=>175|131=>102|5=>5|9=>9|218=>207|222=>77|228=>228|229=>229|n=>n,fun|n=>n⟩
theorem Tryz.lays189:Go.Proofs.Lays.n189 Tryz.prog Tryz.lays189_ren:={
 mixed:=by kernel_rfl
 f125:=Tryz.func148.trans (congrArg some (by kernel_rfl))
 f128:=Tryz.func186.trans (congrArg some (by kernel_rfl))
 f129:=Tryz.func187.trans (congrArg some (by kernel_rfl))
 f189:=Tryz.func107.trans (congrArg some (by kernel_rfl))
 f215:=Tryz.func217.trans (congrArg some (by kernel_rfl))
 f216:=Tryz.func183.trans (congrArg some (by kernel_rfl))
 f257:=Tryz.func147.trans (congrArg some (by kernel_rfl))
 f294:=Tryz.func177.trans (congrArg some (by kernel_rfl))
 f295:=Tryz.func178.trans (congrArg some (by kernel_rfl))
 f296:=Tryz.func179.trans (congrArg some (by kernel_rfl))
 f297:=Tryz.func180.trans (congrArg some (by kernel_rfl))
 f298:=Tryz.func181.trans (congrArg some (by kernel_rfl))
 f299:=Tryz.func182.trans (congrArg some (by kernel_rfl))
 f300:=Tryz.func184.trans (congrArg some (by kernel_rfl))
 f301:=Tryz.func185.trans (congrArg some (by kernel_rfl))
 f328:=Tryz.func212.trans (congrArg some (by kernel_rfl))
 f329:=Tryz.func213.trans (congrArg some (by kernel_rfl))
 f330:=Tryz.func214.trans (congrArg some (by kernel_rfl))
 f331:=Tryz.func215.trans (congrArg some (by kernel_rfl))
 f332:=Tryz.func216.trans (congrArg some (by kernel_rfl))
 f343:=Tryz.func245.trans (congrArg some (by kernel_rfl))
 t0:=Tryz.underlying0
 a0:=Tryz.isAgg0
 z0:=Tryz.sizeOf0
 v0:=Tryz.zeroValue0
 t3:=Tryz.underlying3
 a3:=Tryz.isAgg3
 z3:=Tryz.sizeOf3
 v3:=Tryz.zeroValue3
 t4:=Tryz.underlying4
 a4:=Tryz.isAgg4
 z4:=Tryz.sizeOf4
 v4:=Tryz.zeroValue4
 t5:=Tryz.underlying5
 a5:=Tryz.isAgg5
 z5:=Tryz.sizeOf5
 v5:=Tryz.zeroValue5
 t9:=Tryz.underlying9
 a9:=Tryz.isAgg9
 z9:=Tryz.sizeOf9
 v9:=Tryz.zeroValue9
 t28:=Tryz.underlying27
 a28:=Tryz.isAgg27
 z28:=Tryz.sizeOf27
 v28:=Tryz.zeroValue27
 t46:=Tryz.underlying152
 a46:=Tryz.isAgg152
 z46:=Tryz.sizeOf152
 v46:=Tryz.zeroValue152
 t51:=Tryz.underlying183
 a51:=Tryz.isAgg183
 z51:=Tryz.sizeOf183
 v51:=Tryz.zeroValue183
 t53:=Tryz.underlying185
 a53:=Tryz.isAgg185
 z53:=Tryz.sizeOf185
 v53:=Tryz.zeroValue185
 t131:=Tryz.underlying102
 a131:=Tryz.isAgg102
 z131:=Tryz.sizeOf102
 v131:=Tryz.zeroValue102
 t182:=Tryz.underlying175
 a182:=Tryz.isAgg175
 z182:=Tryz.sizeOf175
 v182:=Tryz.zeroValue175
 t183:=Tryz.underlying176
 a183:=Tryz.isAgg176
 z183:=Tryz.sizeOf176
 v183:=Tryz.zeroValue176
 t218:=Tryz.underlying207
 a218:=Tryz.isAgg207
 z218:=Tryz.sizeOf207
 v218:=Tryz.zeroValue207
 t222:=Tryz.underlying77
 a222:=Tryz.isAgg77
 z222:=Tryz.sizeOf77
 v222:=Tryz.zeroValue77
 t228:=Tryz.underlying228
 a228:=Tryz.isAgg228
 z228:=Tryz.sizeOf228
 v228:=Tryz.zeroValue228
 t229:=Tryz.underlying229
 a229:=Tryz.isAgg229
 z229:=Tryz.sizeOf229
 v229:=Tryz.zeroValue229 }
def Tryz.lays20_ren:Go.Shelf.Ren:=⟨fun|20=>108|n=>n,fun|22=>27|3=>3|4=>4|0=>0|n=>n,fun|n=>n⟩
theorem Tryz.lays20:Go.Proofs.Lays2.n20 Tryz.prog Tryz.lays20_ren:={
 mixed:=by kernel_rfl
 f20:=Tryz.func108.trans (congrArg some (by kernel_rfl))
 t0:=Tryz.underlying0
 a0:=Tryz.isAgg0
 z0:=Tryz.sizeOf0
 v0:=Tryz.zeroValue0
 t3:=Tryz.underlying3
 a3:=Tryz.isAgg3
 z3:=Tryz.sizeOf3
 v3:=Tryz.zeroValue3
 t4:=Tryz.underlying4
 a4:=Tryz.isAgg4
 z4:=Tryz.sizeOf4
 v4:=Tryz.zeroValue4
 t22:=Tryz.underlying27
 a22:=Tryz.isAgg27
 z22:=Tryz.sizeOf27
 v22:=Tryz.zeroValue27
 i3:=by kernel_rfl }
theorem Tryz.sort_int (blk off cap:Nat) (zs:List Int) (w:World) (hH:Go.Sort.Holds (Value.int .i64) w blk off zs.toArray) (hblk:blk<w.heap.size) (hsz:zs.length<4611686018427387904) :
  Calls Tryz.prog 107 #[.slice (some ⟨blk,off,none⟩) zs.length cap] w fun e w'=>
   e=.returned (.tuple #[])∧∃n os,w'=Go.Sort.grow (Go.Sort.putRow (Value.int .i64) (Go.Sort.ahead w n) blk off (zs.mergeSort fun x y=>decide (x≤y)).toArray) os:=Any.slices_Sort_int Tryz.lays189 blk off cap zs w hH hblk hsz
theorem Tryz.compact_int (blk off cap:Nat) (zs:List Int) (w:World) (hH:Go.Sort.Holds (Value.int .i64) w blk off zs.toArray) (hsz:zs.length≤9223372036854775807) (hcap:zs.length≤cap) :
  Calls Tryz.prog 108 #[.slice (some ⟨blk,off,none⟩) zs.length cap] w fun e w'=>e=.returned (.slice (some ⟨blk,off,none⟩) (Lib.compact zs).length cap)∧∃q,w'=Go.Sort.putRow (Value.int .i64) (Go.Sort.ahead w q) blk off (Lib.compact zs++List.replicate (zs.length-(Lib.compact zs).length) 0).toArray:=
 Any.slices_Compact_int Tryz.lays20 blk off cap zs w hH hsz hcap
end Go.Proofs
end
namespace Go.Abs
open Go.Proofs
theorem L4:∀{w:World} {G:ZV} (ys:LI),Yp w G (Z7 ys) (ys.map (fun z=>Value.int .i64 z))
 | _,_,[]=>.nil
 | _,_,_::r=>.cons .val (L4 r)
theorem HZ:∀{w:World} {G:ZV} {ys:LI} {vs:List Value},Yp w G (Z7 ys) vs->vs=ys.map (fun z=>Value.int .i64 z)
 | _,_,[],_,.nil=>rfl
 | _,_,_::r,_,.cons h t=>by rw [VR,<-HZ (ys:=r) t,h.val_inv]
theorem IX {w w':World} {G:ZV} {g cap q:Nat} {xs ys:LI} {zs:Array Int} {os:Array Obj} (hh:Y9 w G [.vec (.slice (some ⟨g,0,none⟩) xs.length cap) (Z7 xs)])
  (he:w'=Sort.grow (Sort.putRow (Value.int .i64) (Sort.ahead w q) g 0 zs) os) (hz:zs.size=xs.length) (hy:ys.length<=xs.length) (hv:∀j,j<ys.length->zs[j]! = ys[j]!) :
  Y9 w' G [.vec (.slice (some ⟨g,0,none⟩) ys.length cap) (Z7 ys)]/\YF w G [.vec (.slice (some ⟨g,0,none⟩) xs.length cap) (Z7 xs)] w' G [.vec (.slice (some ⟨g,0,none⟩) ys.length cap) (Z7 ys)]:=by
 have hmem:Res.vec (.slice (some ⟨g,0,none⟩) xs.length cap) (Z7 xs)∈[Res.vec (.slice (some ⟨g,0,none⟩) xs.length cap) (Z7 xs)]:=YM ..
 rcases hh.ok _ hmem with ⟨e,_⟩|⟨g',cap',cur,el,e,h1,h2,h3,h4⟩
 ·cases e
 ·have h2':xs.length<=cap:=by
   have:=e;simp only [Value.slice.injEq,XC,Addr.mk.injEq] at this
   rw [Y2] at h2;omega
  have e':=e
  simp only [Value.slice.injEq,XC,Addr.mk.injEq,and_true] at e'
  obtain ⟨rfl,hl,rfl⟩:=e'
  have hg:g<w.heap.size:=(V9.1 h1).1
  have hgs:(Sort.putRow (Value.int .i64) (Sort.ahead w q) g 0 zs).heap.size=w.heap.size:=by rw [Sort.size_putRow];rfl
  have hold:∀c,c<w.heap.size->w'.heap[c]? = (Sort.putRow (Value.int .i64) (Sort.ahead w q) g 0 zs).heap[c]?:=fun c hc=>by
   rw [he];exact Sort.heap_grow_old _ _ (by rw [hgs];exact hc)
  have hot:∀c,c<w.heap.size->c≠g->w'.heap[c]? = w.heap[c]?:=fun c hc hne=>by
   rw [hold c hc]
   simp only [Sort.putRow,Sort.mapBlock,Array.getElem?_modify,Zs (Ne.symm hne)]
   rfl
  have hat:w'.heap[g]? = some (.cells (Sort.putCells (Value.int .i64) 0 zs cur) el (0,0)):=by
   rw [hold g hg]
   simp only [Sort.putRow,Sort.mapBlock,Array.getElem?_modify,if_true]
   show Option.map _ w.heap[g]? = _
   rw [h1];rfl
  have hcs:(Sort.putCells (Value.int .i64) 0 zs cur).size=cur.size:=by simp [Sort.putCells]
  have htk:(Sort.putCells (Value.int .i64) 0 zs cur).toList.take ys.length=ys.map (fun z=>Value.int .i64 z):=by
   apply List.ext_getElem?
   intro j
   rw [UK,AR,Qq]
   split
   ·rename_i hj
    have hjc:j<cur.size:=by omega
    simp only [Sort.putCells,Array.getElem?_mapIdx,Array.getElem?_eq_getElem hjc,AW,We,Nat.sub_zero]
    rw [Zw ⟨T2 _,by omega⟩,hv j hj,TK hj,getElem!_pos ys j hj]
    rfl
   ·rename_i hj
    simp [BW (Nat.le_of_not_lt hj)]
  have hio:w'.os=w.os/\w'.tape=w.tape/\w'.output=w.output:=by subst he;exact ⟨rfl,rfl,rfl⟩
  have YZ:w.heap.size<=w'.heap.size:=by rw [he,Sort.size_grow,hgs];omega
  refine ⟨⟨fun r hr=>?_,Jl _ _,fun r hr c j hf hg2=>?_,fun c j hg2=>?_⟩,
   ⟨hio.1,hio.2.1,hio.2.2,YZ,fun _ _ h=>h,fun c hc=>?_,fun _ _ _ h=>.inl h,fun c j hc ⟨r,hr,hf⟩=>?_⟩⟩
  ·rw [Xj.1 hr]
   refine .inr ⟨g,cap,_,el,by rw [Y2],hat,by rw [Y2];omega,hcs.trans h3,?_⟩
   rw [Y2,htk]
   exact L4 ys
  ·rw [Xj.1 hr] at hf
   exact hh.prot _ hmem c j hf hg2
  ·have:=hh.lt c j hg2;omega
  ·by_cases hcg:c=g
   ·subst hcg
    exact .inr ⟨cur,_,el,(0,0),h1,hat,hcs,fun o hn=>absurd ⟨_,hmem,rfl⟩ hn⟩
   ·exact .inl (hot c hc hcg)
  ·rw [Xj.1 hr] at hf
   exact ⟨_,hmem,hf⟩
theorem HO {w:World} {G:ZV} {g cap:Nat} {xs:LI} {r:List Res} (hh:Y9 w G (.vec (.slice (some ⟨g,0,none⟩) xs.length cap) (Z7 xs)::r)) :
  Sort.Holds (Value.int .i64) w g 0 xs.toArray/\g<w.heap.size/\xs.length<=cap:=by
 rcases hh.ok _ (YM ..) with ⟨e,_⟩|⟨g',cap',cur,el,e,h1,h2,h3,h4⟩
 ·cases e
 ·simp only [Value.slice.injEq,XC,Addr.mk.injEq,and_true] at e
  obtain ⟨rfl,hl,rfl⟩:=e
  rw [Y2] at h2 h4
  have hx:=HZ h4
  refine ⟨fun j hj=>⟨?_,?_⟩,(V9.1 h1).1,h2⟩
  ·have hj':j<xs.length:=by simpa using hj
   rw [We,cell_of_row w _ j cur el (0,0) h1,<-AR]
   have h6:(cur.toList.take xs.length)[j]? = some (Value.int .i64 xs[j]):=by rw [hx,Qq,TK hj'];rfl
   rw [UK,Zw hj'] at h6
   rw [h6]
   simp [hj']
  ·exact frozen_of_row w _ _ cur el h1
theorem Z1n (g:Hd) (xs:LI) (hl:xs.length<=1000000000) (hne:xs≠[]):XP Tryz.prog 107 [.h g] [rV g xs] (fun r h=>h=[rV g (xs.mergeSort fun x y=>decide (x<=y))]):=by
 intro w G vs ha hh
 have hvs:vs=[g.v]:=by
  cases ha with
  | cons h1 t=>cases t;rw [h1.val_inv]
 subst hvs
 rcases hh.ok _ (YM ..) with ⟨e,h0⟩|⟨b,cap,cur,el,e,_⟩
 ·exact absurd (by cases xs with|nil=>rfl|cons _ _=>simp [Z7] at h0) hne
 ·rw [Y2] at e
  obtain ⟨ga,gl,gc⟩:=g
  simp only [Hd.v,Value.slice.injEq] at e
  obtain ⟨rfl,rfl,rfl⟩:=e
  obtain ⟨k1,k2,k3⟩:=HO hh
  refine (Tryz.sort_int b 0 gc xs w k1 k2 om).mono ?_
  rintro e w' ⟨rfl,q,os,he⟩
  have hlen:(xs.mergeSort fun x y=>decide (x<=y)).length=xs.length:=List.length_mergeSort _
  obtain ⟨m1,m2⟩:=IX (ys:=xs.mergeSort fun x y=>decide (x<=y)) hh he (by simp) om (fun j hj=>by simp [hj])
  rw [hlen] at m1 m2
  exact ⟨_,.tup [],_,G,rfl,rfl,.tup .nil,m1,m2⟩
theorem NN (g:Hd) (xs:LI) (hl:xs.length<=1000000000) (hne:xs≠[]):XP Tryz.prog 108 [.h g] [rV g xs] (fun r h=>∃u:Hd,r=.h u/\h=[rV u (Lib.compact xs)]):=by
 intro w G vs ha hh
 have hvs:vs=[g.v]:=by
  cases ha with
  | cons h1 t=>cases t;rw [h1.val_inv]
 subst hvs
 rcases hh.ok _ (YM ..) with ⟨e,h0⟩|⟨b,cap,cur,el,e,_⟩
 ·exact absurd (by cases xs with|nil=>rfl|cons _ _=>simp [Z7] at h0) hne
 ·rw [Y2] at e
  obtain ⟨ga,gl,gc⟩:=g
  simp only [Hd.v,Value.slice.injEq] at e
  obtain ⟨rfl,rfl,rfl⟩:=e
  obtain ⟨k1,k2,k3⟩:=HO hh
  refine (Tryz.compact_int b 0 gc xs w k1 om k3).mono ?_
  rintro e w' ⟨rfl,q,he⟩
  have hlen:(Lib.compact xs).length<=xs.length:=by
   have:=List.length_filter_le (Lib.keeps xs.toArray) (List.range xs.length)
   simpa [Lib.compact,Lib.compactUpTo] using this
  obtain ⟨m1,m2⟩:=IX (ys:=Lib.compact xs) (os:=#[]) hh (he.trans (Sort.grow_empty _).symm) (by simp;omega) hlen (fun j hj=>by
   rw [getElem!_pos _ j (by simp;omega),getElem!_pos _ j hj]
   simp [List.getElem_append,hj])
  exact ⟨_,_,_,G,rfl,⟨⟨some ⟨b,0,none⟩,(Lib.compact xs).length,gc⟩,rfl,rfl⟩,.val,m1,m2⟩
def Ax (g l c m kk:Nat):Value:=.slice (some ⟨g,(if c-m=0 then 0 else m*kk),none⟩) (l-m) (c-m)
def FB (P:Program) (ops:Array Oper) (F:Fr) (k:Nat):Option (AV × Int × Nat):=
 match (Zx ops k).op with
 | .slice t x (some lo) none none=>match P.underlying t with
  | some (.slice e)=>match P.info? e with
   | some i=>match F.ev lo with
    | .val (.int _ m)=>some (F.ev x,m,i.size)
    | _=>none
   | none=>none
  | _=>none
 | _=>none
section
variable {P:Program} {n:Nat} {ops:Array Oper} {k:Nat} {F:Fr} {h h2:List Res}
theorem Z2x (j:Nat) {g l c m kk:Nat} {ls:List AV} (hi:FB P ops F k=some (.val (.slice (some ⟨g,0,none⟩) l c),(m:Int),kk)) (hj:h[j]? = some (.row (.slice (some ⟨g,0,none⟩) l c) kk ls)) (hle:m<=l) :
  XA P (Zx ops k) F h [] (.val (Ax g l c m kk)):=by
 unfold FB at hi
 generalize hoo:Zx ops k=o at hi
 obtain ⟨dst,op,type,pos,after,guard⟩:=o
 cases op<;>simp only at hi<;>try (cases hi)
 rename_i t x lo hi' mx
 cases lo with
 | none=>simp at hi
 | some y=>
  cases hi' with
  | some _=>simp at hi
  | none=>
   cases mx with
   | some _=>simp at hi
   | none=>
    simp only at hi
    split at hi
    ·rename_i e ht
     split at hi
     ·rename_i inf hinf
      split at hi
      ·rename_i ik m' hm
       simp only [XC,Prod.mk.injEq] at hi
       obtain ⟨hx,rfl,hkk⟩:=hi
       intro n w G a hF hh
       have v1:=hF.ev x
       rw [hx] at v1
       have v1:=v1.val_inv
       have v2:=hF.ev y
       rw [hm] at v2
       have v2:=v2.val_inv
       have hcap:l<=c:=by
        rcases hh.ok _ (ZT hj) with ⟨h0,_⟩|⟨g',l',c',cur,el,h0,_,hc,_⟩
        ·cases h0
        ·cases h0;exact hc
       refine ⟨_,.val,fun w' _ _=>?_⟩
       simp only [execOp,v1,v2,AW,Option.map_none]
       refine WH ?_
       simp only [Instr.sliceAt,Sem.run_bind,Vm ht,Result.andThen_ok,Instr.slice]
       have hmm:(Instr.sliceBounds true l c (some (.int ik (m:Int))) none none).run P w'=.ok (m,l,c) w':=by
        have YK:=AH (P:=P) (c:=BoundsCode.sliceB) (v:=.int ik (m:Int)) (y:=l) rfl om om w'
        simp [Instr.sliceBounds,YK]
       rw [hmm]
       simp only [Result.andThen_ok,UV hinf,Ax,hkk]
       by_cases h0:c-m=0
       ·have e0:c=m:=by omega
        simp [e0]
       ·have e0:¬c=m:=fun z=>h0 om
        simp [e0,h0,Addr.add]
        exact fun z=>z.symm
      ·cases hi
     ·cases hi
    ·cases hi
theorem I2 (j g l c m kk:Nat) (ls:List AV) (hle:m<=l:=by omega) (hi:FB P ops F k=some (.val (.slice (some ⟨g,0,none⟩) l c),(m:Int),kk):=by kernel_rfl) (hj:h[j]? = some (.row (.slice (some ⟨g,0,none⟩) l c) kk ls):=by kernel_rfl) :
  XA P (Zx ops k) F h [] (.val (Ax g l c m kk)):=Z2x j hi hj hle
theorem SY {K:Fr->List Res->Prop} {g len cap i m sz:Nat} {ls:List AV} (hd:WE n (Zx ops k)=true) (ha:Vg P ops F k=some (.val (.slice (some ⟨g,0,none⟩) i cap),.val (Ax g len cap m sz),sz))
  (hone:ls.all AV.one=true) (him:i<=m) (hml:m<=len)
  (hK:K (F.put (Zx ops k).dst (.val (.slice (some ⟨g,0,none⟩) (i+(len-m)) cap))) (.row (.slice (some ⟨g,0,none⟩) (i+(len-m)) cap) sz (ls.take (i*sz)++ls.drop (m*sz))::h2)):XY P n (Zx ops k) F (.row (.slice (some ⟨g,0,none⟩) len cap) sz ls::h2) K:=by
 unfold Vg at ha
 generalize hoo:Zx ops k=o at ha hd hK
 obtain ⟨dst,op,type,pos,after,guard⟩:=o
 cases op<;>simp only at ha<;>try (cases ha)
 rename_i c
 obtain ⟨callee,args,tys⟩:=c
 simp only at ha
 split at ha
 case h_2=>cases ha
 rename_i s x t t' hargs htys
 split at ha
 case h_2=>cases ha
 rename_i e htt ht
 have:=VB htt
 subst this
 split at ha
 case h_2=>cases ha
 rename_i inf hinfo
 split at ha
 case h_2=>cases ha
 rename_i z hz
 split at ha
 case h_2=>cases ha
 rename_i hb
 simp only [W5] at hb
 simp only [XC,Prod.mk.injEq] at ha
 obtain ⟨h3,h4,hk1⟩:=ha
 have e1:args=#[s,x]:=by rw [<-VQ (xs:=args),hargs]
 have e2:tys=#[t,t]:=by rw [<-VQ (xs:=tys),htys]
 subst e1;subst e2
 intro Q w G a hF hh
 have v1:=hF.ev s
 have v2:=hF.ev x
 rw [h3] at v1
 rw [h4] at v2
 have v1:=v1.val_inv
 have v2:=v2.val_inv
 rcases hh.ok _ (YM ..) with ⟨h0,_⟩|⟨g',len',cap',cur,el,h0,hrow,hlc,hcur,hll,hcells⟩
 ·cases h0
 ·cases h0
  have q5:len*sz<=cap*sz:=T1 _ hlc
  have q6:m*sz<=len*sz:=T1 _ hml
  have q7:i*sz<=m*sz:=T1 _ him
  have q8:(len-m)*sz=len*sz-m*sz:=Nat.sub_mul ..
  have q9:(i+(len-m))*sz=i*sz+(len-m)*sz:=UL ..
  have hcl:cur.toList.length=cap*sz:=by rw [Q9,hcur]
  have h1:(cur.toList.take (len*sz)).length=len*sz:=by rw [W9,hcl,WS q5]
  have hnl:((cur.toList.take (len*sz)).drop (m*sz)).length=(len-m)*sz:=by rw [KE,h1];omega
  have hr:=Db (P:=P) w t type e el inf ht hinfo g i cap cur hrow ⟨g,(if cap-m=0 then 0 else m*sz),none⟩ (len-m) (cap-m) ((cur.toList.take (len*sz)).drop (m*sz)) (by rw [hk1];exact hnl)
   (fun j u hj=>by
    have hjl:=(Xl.1 hj).1
    rw [hnl] at hjl
    have hne:¬cap-m=0:=fun z=>by
     have:len-m=0:=by omega
     rw [this] at hjl;omega
    rw [Zs hne,TO,cell_of_row w g _ cur el (0,0) hrow]
    rw [DE,UK] at hj
    split at hj
    ·simpa using hj
    ·cases hj)
   (fun u hu=>hcells.one_cells hone u (List.mem_of_mem_drop hu)) om (by rw [hk1,hnl,hcur];omega)
  rw [hk1] at hr
  have hti:(cur.toList.take (i*sz)).length=i*sz:=by rw [W9,hcl,WS om]
  obtain ⟨j1,j2⟩:=hh.rgrow (ls':=ls.take (i*sz)++ls.drop (m*sz)) (len':=i+(len-m)) (cs':=(cur.toList.take (i*sz)++(cur.toList.take (len*sz)).drop (m*sz)++cur.toList.drop (i*sz+((cur.toList.take (len*sz)).drop (m*sz)).length)).toArray) hrow
   (by simp only [AT,Yb,hti,hnl,KE,hcl,hcur];omega) om hcur (by rw [Yb,W9,KE,hll,q9,WS om];omega) (by
    have:(cur.toList.take (i*sz)++(cur.toList.take (len*sz)).drop (m*sz)++cur.toList.drop (i*sz+((cur.toList.take (len*sz)).drop (m*sz)).length)).toArray.toList.take ((i+(len-m))*sz)=cur.toList.take (i*sz)++(cur.toList.take (len*sz)).drop (m*sz):=by
     rw [AU,q9,<-hnl]
     conv=>lhs;arg 1;rw [show i*sz+((cur.toList.take (len*sz)).drop (m*sz)).length=(cur.toList.take (i*sz)++(cur.toList.take (len*sz)).drop (m*sz)).length from by rw [Yb,hti]]
     exact QX
    rw [this]
    have ht1:=hcells.take (i*sz)
    rw [List.take_take,WS om] at ht1
    exact ht1.append (hcells.drop (m*sz)))
  generalize hW:w.setRow g (cur.toList.take (i*sz)++(cur.toList.take (len*sz)).drop (m*sz)++cur.toList.drop (i*sz+((cur.toList.take (len*sz)).drop (m*sz)).length)).toArray=W at hr j1 j2
  have hrun:(execOp a.eval { dst:=dst,op:=.call { callee:=.builtin .append,args:=#[s,x],argTypes:=#[t,t] },type:=type,pos:=pos,after:=after,guard:=guard }).run P w=.ok (.value (.slice (some ⟨g,0,none⟩) (i+(len-m)) cap)) W:=by
   simp only [execOp,resolve,invoke,builtin,Sem.run_bind,Sem.run_pure,Result.andThen_ok,C0,VR,BZ,v1,v2,Ax]
   rw [hr]
   rfl
  unfold Oper.wp
  rw [hrun]
  exact ⟨_,_,G,hK,(hF.mono (j2.agree hh)).put (Ue hd) .val,j1,j2⟩
end
section
variable {P:Program} {n:Nat} {ops:Array Oper} {B:Fr->List Res->Prop} {T:List (Nat × List Nat)} {fuel:Nat} {done:List Nat} {k:Nat} {F:Fr} {h:List Res}
theorem GQ (q j:Nat) (js bs:List Nat) (g len cap i m sz:Nat) (ls:List AV) (hone:ls.all AV.one=true)
  (H:Yz P n ops B (T.filter fun t=>!Wb ops q t.1) fuel (done++[q]) (F.put (Zx ops q).dst (.val (.slice (some ⟨g,0,none⟩) (i+(len-m)) cap))) (.row (.slice (some ⟨g,0,none⟩) (i+(len-m)) cap) sz (ls.take (i*sz)++ls.drop (m*sz))::Xa [j] h)) (him:i<=m:=by omega) (hml:m<=len:=by omega)
  (hk:YL n ops F q=true:=by kernel_rfl) (ha:Vg P ops F q=some (.val (.slice (some ⟨g,0,none⟩) i cap),.val (Ax g len cap m sz),sz):=by kernel_rfl) (hp:XH [j] h=some [.row (.slice (some ⟨g,0,none⟩) len cap) sz ls]:=by kernel_rfl) (ho:V0 ops q T=bs:=by kernel_rfl)
  (hj:js.map (fun z=>(XV (Xa [j] h))[z]?)=bs.map some:=by kernel_rfl):Ww P n ops B T fuel done F h q:=
 TU [j] js bs hk (Wt hp) ho hj (SY (h2:=[]) (V4 hk).2.1 ha hone him hml H)
end
theorem Oy (xs:List Y1) (k:Nat) (d:Y1):Yn (xs.set k d)=(Yn xs).set k (Ts d):=by simp [Yn,List.map_set]
theorem Cr (xs:List Y1):(Zc (Yn xs)).length=xs.length*5:=by rw [U6 (k:=5) _ (Vu xs)];simp
theorem OT {ds:List Y1} {k:Nat} (d:Y1) (hk:k<ds.length):(Zc (Yn ds)).take (k*5)++(Ts d).leaves++(Zc (Yn ds)).drop (k*5+5)=Zc (Yn (ds.set k d)):=by
 rw [Oy];exact Cu (y:=Ts d) (Vu ds) rfl (by simpa using hk)
theorem On (xs:List Z4) (k:Nat) (d:Z4):Yi (xs.set k d)=(Yi xs).set k (ZC d):=by
 simp [VE,List.map_set]
theorem Bf (xs:List Z4):(Zc (Yi xs)).length=xs.length*2:=by rw [U6 (k:=2) _ (Uf xs)];simp
theorem OQ {ds:List Z4} {k:Nat} (d:Z4) (hk:k<ds.length):(Zc (Yi ds)).take (k*2)++(ZC d).leaves++(Zc (Yi ds)).drop (k*2+2)=Zc (Yi (ds.set k d)):=by
 rw [On];exact Cu (y:=ZC d) (Uf ds) (by cases d;rfl) (by simpa using hk)
theorem XP.frzN {P:Program} {f:FuncId} {as1:List AV} {h0:List Res} {ds:List Zd} {rs:List Y1} {hs:List Res}
  (H:XP P f as1 h0 (fun r h=>∃g c:Nat,r=.agg [YD ds,.ms g 0 rs.length c]/\h=.row (.slice (some ⟨g,0,none⟩) rs.length c) 5 (Zc (Yn rs))::hs)) :
  XP P f as1 h0 (fun r h=>r=.agg [YD ds,TB rs]/\h=hs):=by
 intro w G vs hv hh
 refine (H w G vs hv hh).mono ?_
 rintro e w' ⟨u,r,h',G',he,⟨gb,c,rfl,rfl⟩,hr,hh',hx⟩
 obtain ⟨G2,h1,h2,h3⟩:=AF hh' (Vu _) om
 have hA:WK G' w' w' G2:=h2.agree hh'
 refine ⟨u,_,hs,G2,he,⟨rfl,rfl⟩,?_,(h1.perm (List.perm_append_comm (l₁:=[_]))).left,(hx.trans h2).sub' (Jm _ _)⟩
 cases hr with
 | agg hc=>
  cases hc with
  | cons k1 t1=>
   cases t1 with
   | cons k2 t2=>
    cases t2
    have hv2:=k2.val_inv
    subst hv2
    refine .agg (.cons (k1.mono hA) (.cons ?_ .nil))
    have hw:Zf (.sl (Yn rs) (some (.slice (some ⟨gb,0,none⟩) rs.length c))) (TB rs):=Zf.forget _ _
    exact hw _ _ _ h3
theorem OZ (v:Value) (k:Nat) (ls ks:List AV) (b o:Nat):Res.fp (.row v k ks) b o=Res.fp (.vec v ls) b o:=by
 cases v with
 | slice a _ _=>cases a<;>rfl
 | _=>rfl
theorem Z42 {w:World} {G:ZV} {v:Value} {ls:List AV} {h2:List Res} (hh:Y9 w G (.vec v ls::h2)):Y9 w G (.row v 1 ls::h2)/\YF w G (.vec v ls::h2) w G (.row v 1 ls::h2):=by
 have hpw:=XX.1 hh.apart
 have hf:∀b o,Res.fp (.row v 1 ls) b o->Res.fp (.vec v ls) b o:=fun b o h=>by rw [OZ v 1 ls ls] at h;exact h
 refine ⟨⟨fun r hr=>?_,XX.2 ⟨fun r hr b o f1 f2=>hpw.1 r hr b o (hf b o f1) f2,hpw.2⟩,fun r hr b o f1 hg=>?_,hh.lt⟩,⟨rfl,rfl,rfl,YI _,fun _ _ h=>h,fun _ _=>.inl rfl,fun _ _ _ h=>.inl h,fun b o _ ⟨r,hr,f1⟩=>?_⟩⟩
 ·rcases Yk.1 hr with rfl|hr
  ·rcases hh.ok _ (YM ..) with h0|⟨g,cap,cur,e,h0,h1,h3,h4,h5⟩
   ·exact .inl h0
   ·exact .inr ⟨g,ls.length,cap,cur,e,h0,h1,h3,by rw [h4,KG],by rw [KG],by rw [KG];exact h5⟩
  ·exact hh.ok r (Xb _ hr)
 ·rcases Yk.1 hr with rfl|hr
  ·exact hh.prot _ (YM ..) b o (hf b o f1) hg
  ·exact hh.prot r (Xb _ hr) b o f1 hg
 ·rcases Yk.1 hr with rfl|hr
  ·exact ⟨_,YM ..,hf b o f1⟩
  ·exact ⟨r,Xb _ hr,f1⟩
theorem Hm:∀xs:LI,Zc (Z7 xs)=Z7 xs
 | []=>rfl
 | x::r=>Yh (AV.i x::·) (Hm r)
section
variable {h:List Res}
theorem QT (j:Nat) (v:Hd) (xs:LI) (hp:XH [j] h=some [rV v xs]:=by kernel_rfl):Uv h (.row v.v 1 (Zc (Z7 xs))::Xa [j] h):=by
 have e:Zc (Z7 xs)=Z7 xs:=Hm xs
 rw [e]
 intro w G hh
 have hp':=V6 (Wt hp)
 obtain ⟨a,b⟩:=Z42 (hh.perm hp')
 exact ⟨G,a,b.perm hp'.symm (UJ _)⟩
end
def Kv (bs:LI) (p:Nat) (mx:Int):Int:=
 if mx<1∨bs.length=0 then 0 else if p<bs.length then (bs[p]?).getD 0 % mx else
  KD ((((bs[p % bs.length]?).getD 0*131+(bs[(p*7+3) % bs.length]?).getD 0*1117)+((p*29:Nat):Int))+(((p / bs.length:Nat):Int)*53))
   (((((bs[p % bs.length]?).getD 0*131+(bs[(p*7+3) % bs.length]?).getD 0*1117)+((p*29:Nat):Int))+(((p / bs.length:Nat):Int)*53)) / 64) % mx
theorem Z0a {bs:LI} {p:Nat} {mx:Int} (h:0<mx):0<=Kv bs p mx/\Kv bs p mx<mx:=by
 rw [Kv]
 split
 ·omega
 ·split
  ·exact ⟨Int.emod_nonneg _ om,Int.emod_lt_of_pos _ h⟩
  ·exact ⟨Int.emod_nonneg _ om,Int.emod_lt_of_pos _ h⟩
theorem OP {xs:List Z4} {k:Nat} {b:Z4} (h:xs[k]? = some b):Zc (Yi (xs.take k))++Zc [ZC b]=Zc (Yi (xs.take (k+1))):=by
 rw [Vf h,Kb,UN]
 congr 1
 rw [VE];rfl
def Bv (s:Z3) (u:Value):List AV:=[.i s.op,.i s.num,.i s.into,Z6 s.args,.val u]
def Bg (b:Z4) (k:Nat):Z3:=(b.steps[k]?).getD (Zl 0 0)
theorem Cv {b:Z4} {k:Nat} {s:Z3} (h:b.steps[k]? = some s):Bg b k=s:=by rw [Bg,h];rfl
def W3 (b:Z4) (kk:Nat) (u:Value) (k:Nat):List AV:=if k<=kk then Zc (Zk (b.steps.take k)) else Zc (Zk (b.steps.take kk))++(Bv (Bg b kk) u++Zc (Zk ((b.steps.take k).drop (kk+1))))
def VK (b:Z4) (kk k:Nat):List AV:=if k<=kk then [] else Zc (Yi (Bg b kk).kids)
theorem I6 {b:Z4} {kk:Nat} {u:Value}:W3 b kk u 0=[]:=by rw [W3,Zw (T2 _),List.take_zero,Wz];rfl
theorem I9 {b:Z4} {kk:Nat}:VK b kk 0=[]:=Zw (T2 _)
theorem EY {b:Z4} {kk k:Nat} {u:Value} (h:k<=b.steps.length):(W3 b kk u k).length=k*5:=by
 rw [W3]
 split
 ·rw [T9,W9,WS h]
 ·rename_i q
  have e:(Bv (Bg b kk) u).length=5:=rfl
  rw [Yb,Yb,T9,T9,KE,W9,W9,e,WS h,WS om]
  omega
theorem I4 {b:Z4} {kk k:Nat} {u:Value} {s:Z3} (hs:b.steps[k]? = some s) (hk:¬k=kk):W3 b kk u k++Zc [Yj s]=W3 b kk u (k+1):=by
 have hkl:=(Xl.1 hs).1
 by_cases q:k<=kk
 ·rw [W3,Zw q,W3,Zw om]
  exact Hk hs
 ·rw [W3,Zs q,W3,Zs om,Ua,Ua]
  congr 2
  rw [Vf hs,List.drop_append_of_le_length (by rw [W9];omega),W1,UN]
  congr 1
  rw [Wz];rfl
theorem I7 {b:Z4} {kk k:Nat} (hk:¬k=kk):VK b kk k=VK b kk (k+1):=by
 by_cases q:k<=kk
 ·rw [VK,Zw q,VK,Zw om]
 ·rw [VK,Zs q,VK,Zs om]
theorem I5 {b:Z4} {kk:Nat} {u u2:Value} {s:Z3} (hs:b.steps[kk]? = some s):W3 b kk u kk++Bv s u2=W3 b kk u2 (kk+1):=by
 rw [W3,Zw (YI _),W3,Zs om,Cv hs,DC (by rw [W9];omega),Wz]
 show _=_++(Bv s u2++Zc [])
 rw [OW,Tn]
theorem I8 {b:Z4} {kk:Nat} {s:Z3} (hs:b.steps[kk]? = some s):Zc (Yi s.kids)=VK b kk (kk+1):=by
 rw [VK,Zs om,Cv hs]
theorem Lx {α:Type}:∀(A X:List α) (m:Nat) (y:α),(A++X).set (A.length+m) y=A++X.set m y
 | [],X,m,y=>by simp
 | a::r,X,m,y=>by
  have:=Lx r X m y
  rw [Qp,Yw,show r.length+1+m=(r.length+m)+1 by omega,List.set_cons_succ,this,Qp]
theorem Rd {α:Type} (A X:List α) (m:Nat):(A++X)[A.length+m]? = X[m]?:=by
 rw [DD om];congr 1;omega
section
variable {b:Z4} {kk:Nat} {u:Value} {s:Z3}
theorem EX (hs:b.steps[kk]? = some s):W3 b kk u b.steps.length=Zc (Zk (b.steps.take kk))++(Bv s u++Zc (Zk (b.steps.drop (kk+1)))):=by
 have hk:=(Xl.1 hs).1
 rw [W3,Zs om,Cv hs,Va]
theorem EW (hs:b.steps[kk]? = some s):(Zc (Zk (b.steps.take kk))).length=kk*5:=by
 have hk:=(Xl.1 hs).1
 rw [T9,W9,WS om]
theorem S2 (hs:b.steps[kk]? = some s):(W3 b kk u b.steps.length)[kk*5+4]? = some (.val u):=by
 rw [EX hs,<-EW hs,Rd];rfl
theorem CM (hs:b.steps[kk]? = some s):((W3 b kk u b.steps.length).drop (kk*5+4)).take 1=[.val u]:=by
 rw [EX hs,<-EW hs,<-List.drop_drop,List.drop_left];rfl
theorem OV {xs:List Z3} {k:Nat} {t:Z3} (hk:k<xs.length):Zc (Zk (xs.set k t))=Zc (Zk (xs.take k))++(X9 t++Zc (Zk (xs.drop (k+1)))):=by
 rw [C1,Zw hk,W1,UN,Cs]
theorem S3 (hs:b.steps[kk]? = some s) (ks:List Z4):(W3 b kk u b.steps.length).set (kk*5+4) (.sl (Yi ks) none)=Zc (Zk (b.steps.set kk ⟨s.op,s.num,s.into,s.args,ks⟩)):=by
 have hk:=(Xl.1 hs).1
 rw [EX hs,<-EW hs,Lx,OV hk];rfl
theorem EZ (hs:b.steps[kk]? = some s):VK b kk b.steps.length=Zc (Yi s.kids):=by
 have hk:=(Xl.1 hs).1
 rw [VK,Zs om,Cv hs]
theorem S4 (hs:b.steps[kk]? = some s):b.steps.set kk ⟨s.op,s.num,s.into,s.args,s.kids⟩=b.steps:=by
 have e:Z3.mk s.op s.num s.into s.args s.kids=s:=by cases s;rfl
 rw [e]
 apply List.ext_getElem?
 intro i
 rw [List.getElem?_set]
 split
 ·rename_i q;subst q;rw [Zw (Xl.1 hs).1];exact hs.symm
 ·rfl
end
theorem WL.set:∀(ls:List AV) (p:Nat) {x y:AV},Zf x y->WL (ls.set p x) (ls.set p y)
 | [],_,_,_,_=>.nil
 | a::r,0,_,_,h=>.cons h (WL.refl r)
 | a::r,p+1,_,_,h=>.cons (Zf.refl a) (WL.set r p h)
theorem WL.len:∀{xs ys:List AV},WL xs ys->ys.length=xs.length
 | _,_,.nil=>rfl
 | _,_,.cons _ t=>by rw [Yw,Yw,t.len]
theorem OY (v:Value) (k:Nat) (ls ks:List AV):Res.fp (.row v k ks)=Res.fp (.row v k ls):=by
 cases v with
 | slice a _ _=>cases a<;>rfl
 | _=>rfl
theorem Z0s {w:World} {G:ZV} {v:Value} {k:Nat} {ls ls':List AV} {h2:List Res} (hle:WL ls ls') (hh:Y9 w G (.row v k ls::h2)):Y9 w G (.row v k ls'::h2)/\YF w G (.row v k ls::h2) w G (.row v k ls'::h2):=by
 have hpw:=XX.1 hh.apart
 have hf:∀b o,Res.fp (.row v k ls') b o->Res.fp (.row v k ls) b o:=fun b o h=>by rw [OY v k ls ls'] at h;exact h
 refine ⟨⟨fun r hr=>?_,XX.2 ⟨fun r hr b o f1 f2=>hpw.1 r hr b o (hf b o f1) f2,hpw.2⟩,fun r hr b o f1 hg=>?_,hh.lt⟩,⟨rfl,rfl,rfl,YI _,fun _ _ h=>h,fun _ _=>.inl rfl,fun _ _ _ h=>.inl h,fun b o _ ⟨r,hr,f1⟩=>?_⟩⟩
 ·rcases Yk.1 hr with rfl|hr
  ·rcases hh.ok _ (YM ..) with ⟨h0,h1⟩|⟨g,len,cap,cur,e,h0,h1,h3,h4,h5,h6⟩
   ·subst h1;cases hle;exact .inl ⟨h0,rfl⟩
   ·exact .inr ⟨g,len,cap,cur,e,h0,h1,h3,h4,by rw [hle.len];exact h5,hle.cs h6⟩
  ·exact hh.ok r (Xb _ hr)
 ·rcases Yk.1 hr with rfl|hr
  ·exact hh.prot _ (YM ..) b o (hf b o f1) hg
  ·exact hh.prot r (Xb _ hr) b o f1 hg
 ·rcases Yk.1 hr with rfl|hr
  ·exact ⟨_,YM ..,hf b o f1⟩
  ·exact ⟨r,Xb _ hr,f1⟩
section
variable {h:List Res}
theorem Mc (j i:Nat) (b:Z4) (kk:Nat) (s:Z3) (ks:List Z4) (u v:Value) (hs:b.steps[kk]? = some s) (hp:XH [j,i] h=some [.row u 2 (Zc (Yi ks)),.row v 5 (W3 b kk u b.steps.length)]:=by kernel_rfl) :
  Uv h (.row v 5 (Zc (Zk (b.steps.set kk ⟨s.op,s.num,s.into,s.args,ks⟩)))::.tail u 2::Xa [j,i] h):=by
 intro w G hh
 obtain ⟨G',a1,a2⟩:=Z3a j i (kk*5+4) hp (Uf ks) om (S2 hs) w G hh
 obtain ⟨b1,b2⟩:=Z0s (WL.set _ (kk*5+4) (Zf.forget (Yi ks) (some u))) a1
 rw [S3 hs] at b1 b2
 exact ⟨G',b1,a2.trans b2⟩
theorem FU (j i:Nat) (b:Z4) (kk:Nat) (s:Z3) (u v:Value) (hs:b.steps[kk]? = some s) (hp:XH [j,i] h=some [.row u 2 (VK b kk b.steps.length),.row v 5 (W3 b kk u b.steps.length)]:=by kernel_rfl) :
  Uv h (.row v 5 (Zc (Zk b.steps))::.tail u 2::Xa [j,i] h):=by
 have Y6:XH [j,i] h=some [.row u 2 (Zc (Yi s.kids)),.row v 5 (W3 b kk u b.steps.length)]:=by rw [hp,EZ hs]
 have:=Mc j i b kk s s.kids u v hs Y6
 rwa [S4 hs] at this
end
theorem Hh {xs:List Z3} {k:Nat} (hk:k<xs.length):(Zc (Zk xs)).take (k*5)++(Zc (Zk xs)).drop ((k+1)*5)=Zc (Zk (xs.take k++xs.drop (k+1))):=by
 have h1:(Zc (Zk (xs.take k))).length=k*5:=by rw [T9,W9,WS om]
 have h2:(Zc (Zk (xs.take (k+1)))).length=(k+1)*5:=by rw [T9,W9,WS om]
 have e1:Zc (Zk xs)=Zc (Zk (xs.take k))++Zc (Zk (xs.drop k)):=by rw [<-UN,<-W1,U2]
 have e2:Zc (Zk xs)=Zc (Zk (xs.take (k+1)))++Zc (Zk (xs.drop (k+1))):=by rw [<-UN,<-W1,U2]
 rw [W1,UN]
 congr 1
 ·rw [e1,<-h1,QX]
 ·conv=>lhs;rw [e2,<-h2,List.drop_left]
theorem OO {xs:List Z4} {i:Nat} {s:Z4} (h:xs[i]? = some s):((Zc (Yi xs)).drop (i*2)).take 2=YG s:=by
 have hi:=(Xl.1 h).1
 have h1:(Zc (Yi (xs.take i))).length=i*2:=by rw [Bf,W9,WS om]
 have e1:Zc (Yi xs)=Zc (Yi (xs.take i))++Zc (Yi (xs.drop i)):=by rw [<-UN,<-Kb,U2]
 rw [e1,<-h1,List.drop_left,Ye h,VE,VR]
 rfl
section
variable {rs:List Y1} {k:Nat} {r:Y1}
theorem Ex (hk:k<rs.length) (r:Y1):Zc (Yn (rs.set k r))=Zc (Yn (rs.take k))++((Ts r).leaves++Zc (Yn (rs.drop (k+1)))):=by
 rw [C1,Zw hk,JC,UN];rfl
theorem Hg (hk:k<rs.length):(Zc (Yn (rs.take k))).length=k*5:=by rw [Cr,W9,WS om]
theorem OS (hk:k<rs.length) (r:Y1):((Zc (Yn (rs.set k r))).drop (k*5+1)).take 1=[Z6 r.lent]:=by
 rw [Ex hk,<-Hg hk,<-List.drop_drop,List.drop_left];rfl
theorem OU (hk:k<rs.length) (r:Y1) (l:LI):(Zc (Yn (rs.set k r))).take (k*5+1)++[Z6 l]++(Zc (Yn (rs.set k r))).drop (k*5+1+1)=Zc (Yn (rs.set k ⟨r.params,l,r.result,r.body⟩)):=by
 have hl:=Hg hk
 rw [Ex hk,Ex hk]
 have e:(Ts r).leaves=[Z6 r.params]++([Z6 r.lent]++[.i r.result,.sl (Zk r.body.steps) none,.i r.body.result]):=rfl
 have e2:(Ts ⟨r.params,l,r.result,r.body⟩).leaves=[Z6 r.params]++([Z6 l]++[.i r.result,.sl (Zk r.body.steps) none,.i r.body.result]):=rfl
 rw [e,e2]
 have q:=Fs (A:=Zc (Yn (rs.take k))++[Z6 r.params]) (xs:=[Z6 r.lent]) (ys:=[Z6 l]) (B:=[.i r.result,.sl (Zk r.body.steps) none,.i r.body.result]++Zc (Yn (rs.drop (k+1)))) (o:=k*5+1) (by rw [Yb,hl];rfl) rfl
 simpa [Ua] using q
end
end Go.Abs
section
namespace Go.Abs
theorem Vj {rs fs:List Func} (hp:fs <+: rs) {i:Nat} {f:Func} (hx:fs[i]? = some f) (c:Nat) {zs:List AV} (hz:((CN f).drop c).take zs.length=zs) (hl:c+zs.length<=5):((Zc (YV rs)).drop (i*5+c)).take zs.length=zs:=by
 obtain ⟨ys,rfl⟩:=hp
 have h1:(fs++ys)[i]? = some f:=by rw [BV (Xl.1 hx).1];exact hx
 have e1:=(U2 i (fs++ys)).symm
 rw [Ye h1] at e1
 have hl2:(Zc (YV ((fs++ys).take i))).length=i*5:=by
  rw [U6 (k:=5) _ (Cj _),Ak,W9,WS (by have:=(Xl.1 h1).1;omega)]
 have e2:Zc (YV (fs++ys))=Zc (YV ((fs++ys).take i))++(CN f++Zc (YV ((fs++ys).drop (i+1)))):=by
  conv=>lhs;rw [e1]
  simp only [YV,Zc,List.map_append,VR,List.flatMap_append,Jk]
  rfl
 rw [e2,List.drop_append,List.drop_of_length_le om,A1,hl2,Nat.add_sub_cancel_left,List.drop_append_of_le_length (by show c<=5;omega),List.take_append_of_le_length (by rw [KE];show zs.length<=5-c;omega)]
 exact hz
theorem Ew (rs:List Func):(Zc (YV rs)).length=rs.length*5:=by rw [U6 (k:=5) _ (Cj _),Ak]
end Go.Abs
namespace Go.Abs
abbrev XK (g:Xw) (gb:Nat):List AV:=[YD g.decls,.ms gb 0 g.funcs.length 4]
abbrev Xd (gb:Nat) (rs:List Func):Res:=.row (.slice (some ⟨gb,0,none⟩) 4 4) 5 (Zc (YV rs))
abbrev Y4 (rd:Nat) (bs:LI) (p:Nat):Res:=.obj rd [WZ bs,.i p]

end Go.Abs
end
namespace Go.Abs
theorem Z0u {w:World} {G:ZV} {g len cap k m:Nat} {ls:List AV} {h2:List Res} (hh:Y9 w G (.row (.slice (some ⟨g,0,none⟩) len cap) k ls::h2)) (hle:m<=len) :
  Y9 w G (.row (.slice (some ⟨g,0,none⟩) m cap) k (ls.take (m*k))::h2)/\YF w G (.row (.slice (some ⟨g,0,none⟩) len cap) k ls::h2) w G (.row (.slice (some ⟨g,0,none⟩) m cap) k (ls.take (m*k))::h2):=by
 have hpw:=XX.1 hh.apart
 have hfp:∀b o,Res.fp (.row (.slice (some ⟨g,0,none⟩) m cap) k (ls.take (m*k))) b o->Res.fp (.row (.slice (some ⟨g,0,none⟩) len cap) k ls) b o:=fun b o hf=>hf
 refine ⟨⟨fun r hr=>?_,XX.2 ⟨fun r hr b o h1 h2=>hpw.1 r hr b o (hfp b o h1) h2,hpw.2⟩,fun r hr b o hf hg=>?_,hh.lt⟩,⟨rfl,rfl,rfl,YI _,fun _ _ h=>h,fun _ _=>.inl rfl,fun _ _ _ h=>.inl h,fun b o _ hf=>?_⟩⟩
 ·rcases Yk.1 hr with rfl|hr
  ·rcases hh.ok _ (YM ..) with ⟨h0,_⟩|⟨g',len',cap',cur,e,hv,h1,h3,h4,h5,h6⟩
   ·cases h0
   ·cases hv
    have hmk:m*k<=len*k:=T1 k hle
    refine .inr ⟨g,m,cap,cur,e,rfl,h1,by omega,h4,by rw [W9,h5];omega,?_⟩
    have:=h6.take (m*k)
    rw [List.take_take,WS hmk] at this
    exact this
  ·exact hh.ok r (Xb _ hr)
 ·rcases Yk.1 hr with rfl|hr
  ·exact hh.prot _ (YM ..) b o (hfp b o hf) hg
  ·exact hh.prot r (Xb _ hr) b o hf hg
 ·obtain ⟨r,hr,hf⟩:=hf
  rcases Yk.1 hr with rfl|hr
  ·exact ⟨_,YM ..,hfp b o hf⟩
  ·exact ⟨r,Xb _ hr,hf⟩
theorem OR {rs:List Func} {k:Nat} (f:Func) (hk:k<rs.length):(Zc (YV rs)).take (k*5)++CN f++(Zc (YV rs)).drop (k*5+5)=Zc (YV (rs.set k f)):=by
 rw [show YV (rs.set k f)=(YV rs).set k (B0 f) by simp [YV,List.map_set]]
 exact Cu (y:=B0 f) (Cj rs) rfl (by simpa using hk)
theorem XP.frzP {P:Program} {f:FuncId} {as1:List AV} {h0:List Res} {E:Type} {ds:E->List Zd} {rs:E->List Func} {m:E->Nat} {hs:E->List Res} {Q:E->Prop}
  (H:XP P f as1 h0 (fun r h=>∃(e:E) (gb:Nat),r=.agg [YD (ds e),.ms gb 0 (m e) 4]/\h=.row (.slice (some ⟨gb,0,none⟩) 4 4) 5 (Zc (YV (rs e)))::hs e/\Q e)) (hm:∀e,Q e->m e<=4/\(rs e).length=4) :
  XP P f as1 h0 (fun r h=>∃e:E,r=.agg [YD (ds e),CV ((rs e).take (m e))]/\h=hs e/\Q e):=by
 intro w G vs hv hh
 refine (H w G vs hv hh).mono ?_
 rintro e w' ⟨u,r,h',G',he,⟨x,gb,rfl,rfl,hq⟩,hr,hh',hx⟩
 obtain ⟨hm4,hr4⟩:=hm x hq
 obtain ⟨j1,j2⟩:=Z0u hh' hm4
 have hft:(Zc (YV (rs x))).take (m x*5)=Zc (YV ((rs x).take (m x))):=by
  have e1:rs x=(rs x).take (m x)++(rs x).drop (m x):=(U2 _ _).symm
  have e2:Zc (YV (rs x))=Zc (YV ((rs x).take (m x)))++Zc (YV ((rs x).drop (m x))):=by
   conv=>lhs;rw [e1]
   rw [Ow,UN]
  rw [e2,List.take_append_of_le_length (by rw [Ew,W9,show min (m x) (rs x).length=m x by omega];exact YI _),Vp (by rw [Ew,W9];exact T1 5 (Nat.min_le_left _ _))]
 rw [hft] at j1 j2
 obtain ⟨G2,h1,h2,h3⟩:=AF j1 (Cj _) om
 have hA:WK G' w' w' G2:=h2.agree j1
 refine ⟨u,_,hs x,G2,he,⟨x,rfl,rfl,hq⟩,?_,(h1.perm (List.perm_append_comm (l₁:=[_]))).left,((hx.trans j2).trans h2).sub' (Jm _ _)⟩
 cases hr with
 | agg hc=>
  cases hc with
  | cons k1 t1=>
   cases t1 with
   | cons k2 t2=>
    cases t2
    have hv2:=k2.val_inv
    subst hv2
    refine .agg (.cons (k1.mono hA) (.cons ?_ .nil))
    have hw:Zf (.sl (YV ((rs x).take (m x))) (some (.slice (some ⟨gb,0,none⟩) (m x) 4))) (CV ((rs x).take (m x))):=Zf.forget _ _
    exact hw _ _ _ h3
open Go.Proofs
abbrev Zi:=@XP Tryz.prog
theorem SF {xs:LI} {k:Nat} {n x:Int} (h:n∉xs.take k) (hx:xs[k]? = some x) (hn:¬x=n):n∉xs.take (k+1):=by
 rw [List.take_add_one,hx]
 simp only [Option.toList_some,YP,Xj]
 exact fun q=>q.elim h fun q=>hn q.symm
theorem SA {xs:LI} {k:Nat} {n x:Int} (hx:xs[k]? = some x) (hn:x=n):n∈xs:=hn▸ZT hx
theorem VA (n:Int) (low:Int) (high:Int) :Zi 82 [.i n,.i low,.i high] [] (fun r h=>r=.b (decide (low<=n/\n<=high))/\h=[]):=by
 refine ZB 15 Tryz.func82 (ar (Z0 1 (ie (ar (Wf 8 [] [(14,.b ((decide (low<=n))&&(decide (n<=high))))] (fun gz=>gz) ?_ (fun hj1=>?_))))))
 ·exact Z0 1 (ie (Z9 (ZY (.b ((decide (low<=n))&&(decide (n<=high)))) (lb (by rw [Xi];simp)))))
 refine Z0 4 (ib (b:=(decide (low<=n))) 10 (fun Zb=>?_) (fun Zb=>?_))
 ·have ZQ:low<=n:=(dq).1 Zb
  exact Z0 4 (YU (wk [] (ZI (decide (n<=high)) Zb fl)) hj1)
 have Y6:¬(low<=n):=YC dq Zb
 exact Z0 4 (YU (wk [] (ZI false Zb fl)) hj1)
theorem Vn (xs:LI) (n:Int) (hlen:xs.length<=4294967296:=by exact ob):Zi 205 [Z6 xs,.i n] [] (Ym (.b (decide (n∈xs)))):=by
 refine ZB 18 Tryz.func205 (ar (Z0 1 (ie (aq (ar (Z0 1 (ie (ab 0 (ZX (fun fz gz m F h=>∃(k:Nat),(k<=xs.length)/\(n∉xs.take k)/\F=sF [0,1] fz [(5,.i k)]/\h=gz/\m=xs.length-k) _ _ _ ⟨0,ob,ob,rfl,rfl,rfl⟩ (wk [] (Y7 fl)) ?_)))))))))
 rintro m F h ⟨k,Ya,Zm,rfl,rfl,rfl⟩
 refine aq (ar (Z0 2 (iw (Y2 xs) (Z0 1 (ie (ZH ((k:Int)<(xs.length:Int)) (fun Za=>?_) (fun Za=>?_)))))))
 ·refine ak (aq (ab 1 (ar (Z0 2 ?_))))
  obtain ⟨x1,Z2⟩:=Zp xs k om
  refine Zn (Zh none (k:Int) 1 (ZU Z2)) (Z0 3 (ie (ac (x1==n) Zz (fun Zg=>?_) (fun Zg=>?_))))
  ·exact ar (Z0 1 (ie (Z9 (ZY (.b true) (lb (by rw [eq_comm,dq];exact SA Z2 Zg))))))
  exact ak (az (Z0 1 (ZE k (Z0 1 (ie (ZG ⟨k+1,ob,(SF Zm Z2 Zg),rfl,rfl,rfl⟩ (wk [] (ZJ k fl))))))))
 refine ax 0 (ar (Z0 1 (ie ?_)))
 have hke:k=xs.length:=by omega
 exact Z9 (ZY (.b false) (lb (by rw [eq_comm,decide_eq_false_iff_not];rw [hke,Va] at Zm;exact Zm)))
theorem V8 (xs:LI) (hlen:xs.length<=4294967296:=by exact ob):Zi 51 [Z6 xs] [] (fun r h=>∃(v:Value),r=ZO xs v/\h=[.tail v 1]):=by
 exact ZB 6 Tryz.func51 (ar (Z0 1 (ie (ar (iL (Z7 []) 0 1 fun v1=>Z0 1 (ip 0 (Z7 xs) (Z7 []) (Z7 xs) v1 none 1 (Yl _) (Yl _) (XF _) (by simp<;>omega) (by simp [Z7]) fun v2=>Z0 1 (ie (Z9 (r1 [0] ⟨v2,rfl,rfl⟩)))))))))
theorem FG (ds:List Zd) (n:Nat) (hd:Wi ds:=by exact ob) (hn:n<=ds.length:=by exact ob):Zi 173 [YD ds,.i n] [] (Ym (.i ((X4 (ds.take n):Nat):Int))):=by
 refine ZB 21 Tryz.func173 (ar (Z0 1 (ie (ar (Z0 1 (ie (aq (ar (Z0 1 (ie (ab 0 (ZX (fun fz gz m F h=>∃(k:Nat),(k<=n)/\F=sF [0,1] fz [(5,.i ((X4 (ds.take k):Nat):Int)),(6,.i k)]/\h=gz/\m=n-k) _ _ _ ⟨0,ob,rfl,rfl,rfl⟩ (wk [] (Y7 (Y7 fl))) ?_))))))))))))
 rintro m F h ⟨k,Ya,rfl,rfl,rfl⟩
 refine aq (ar (Z0 3 (ie (ZH ((k:Int)<(n:Int)) (fun Za=>?_) (fun Za=>?_)))))
 ·refine ak (aq (ab 1 (az (Z0 3 ?_))))
  obtain ⟨x1,Z2⟩:=Zp ds k om
  refine Zn (Zh none (k:Int) 3 (VF Z2)) (Z0 2 (iw (QC x1.cons) (ia ((((X4 (ds.take k))+x1.cons.length:Nat):Int)) ((((X4 (ds.take k):Nat):Int))+((x1.cons.length:Int))) (hb:=(by have h1:=hd.cons_at Z2;have h2:=(hd.take k).sum;omega)) (Z0 1 (ie (az (Z0 1 (ZE k (hb:=(by have:=hd.len;omega)) (Z0 1 (ie ?_))))))))))
  have hsn:X4 (ds.take (k+1))=X4 (ds.take k)+x1.cons.length:=by rw [Vf Z2,GI];simp [X4]
  exact ZG ⟨k+1,ob,rfl,rfl,rfl⟩ (wk [] (fc (x:=.i (((X4 (ds.take k))+x1.cons.length:Nat):Int)) li (ZJ k fl)))
 refine ax 0 (ar (Z0 2 (ie ?_)))
 have hke:k=n:=by omega
 subst hke
 exact Z9 (ZY (.i ((X4 (ds.take k):Nat):Int)) li)
theorem FF (ds:List Zd) (c:Int) (hd:Wi ds:=by exact ob):Zi 137 [YD ds,.i c] [] (Ym (.i (WW ds c))):=by
 refine ZB 30 Tryz.func137 (ar (Z0 1 (ie (aq (ar (Z0 1 (ie (ab 0 (ZX (fun fz gz m F h=>∃(k:Nat),(k<=ds.length)/\((K6 c (ds.drop k) k (X4 (ds.take k))).1=WW ds c)/\F=sF [0,1] fz [(5,.i k)]/\h=gz/\m=ds.length-k) _ _ _ ⟨0,ob,(by rfl),rfl,rfl,rfl⟩ (wk [] (Y7 fl)) ?_)))))))))
 rintro m F h ⟨k,Ya,Zm,rfl,rfl,rfl⟩
 refine aq (ar (Z0 2 (iw (T6 ds) (Z0 1 (ie (ZH ((k:Int)<(ds.length:Int)) (fun Za=>?_) (fun Za=>?_)))))))
 ·refine ak (aq (ab 1 (ar (Z0 2 (Zr [] (FG ds k) (Z0 1 (ie (ar (Z0 5 ?_)))))))))
  obtain ⟨x1,Z2⟩:=Zp ds k om
  refine Zn (Zh none (k:Int) 3 (VF Z2)) (Z0 2 (iw (QC x1.cons) (ia ((((X4 (ds.take k))+x1.cons.length:Nat):Int)) ((((X4 (ds.take k):Nat):Int))+((x1.cons.length:Int))) (hb:=(by have h1:=hd.cons_at Z2;have h2:=(hd.take k).sum;omega)) (ia (((((X4 (ds.take k))+x1.cons.length:Nat):Int)-1)) (((((X4 (ds.take k))+x1.cons.length:Nat):Int))-(1)) (hb:=(by have h1:=hd.cons_at Z2;have h2:=(hd.take k).sum;omega)) (Zr [] (VA c ((X4 (ds.take k):Nat):Int) ((((X4 (ds.take k))+x1.cons.length:Nat):Int)-1)) (ie (ZH (((X4 (ds.take k):Nat):Int)<=c/\c<=((((X4 (ds.take k))+x1.cons.length:Nat):Int)-1)) (fun Zg=>?_) (fun Zg=>?_))))))))
  ·exact ar (Z0 1 (ZE k (hb:=(by have h2:=hd.len;omega)) (Z0 1 (ie (Z9 (ZY (.i (k+1:Nat)) (li (by rw [<-Zm,Ye Z2,K6,Zw Zg];rfl))))))))
  refine ak (az (Z0 1 (ZE k (hb:=(by have h2:=hd.len;omega)) (Z0 1 (ie ?_)))))
  have hdr:=Ye Z2
  exact ZG ⟨k+1,ob,(by rw [hdr] at Zm;rw [<-Zm,K6,Zs Zg,Vf Z2,GI];rfl),rfl,rfl,rfl⟩ (wk [] (ZJ k fl))
 exact ax 0 (ar (Z0 1 (ie (Z9 (ZY (.i (-1)) (li (by rw [<-Zm,Xk om];rfl)))))))
theorem TD (ds:List Zd) (c:Int) (hd:Wi ds:=by exact ob):Zi 138 [YD ds,.i c] [] (Ym (Z6 (ZZ ds c))):=by
 refine ZB 27 Tryz.func138 (ar (Z0 1 (ie (ar (Z0 2 (Zr [] (FF ds c) (Z0 1 (ie (aq (ar (Z0 2 (ie (ZH ((WW ds c)<1) (fun Za=>?_) (fun Za=>?_))))))))))))))
 ·exact ar (iL (Z7 []) 0 1 fun v1=>Z0 1 (ie (Z9 (ZY (ZO [] v1) (Zf.sl _ (Yh Z7 (by rw [(GJ Za).1])))))))
 obtain ⟨k,d,x,hk1,hk2,hk3,hk4,hk5⟩:=GK Za
 have hkl:=(Xl.1 hk1).1
 have hxl:=(Xl.1 hk3).1
 have hsm:=(hd.take k).sum
 have hdl:=hd.cons_at hk1
 have hdn:=hd.len
 refine ak (aD 16 (Zj 14 16 [0,1] (da 2 ((k:Int)) ((WW ds c)-(1)) (hb:=(by have:=hd.len;omega)) ?_)))
 obtain ⟨x1,Z2⟩:=Zp ds k om
 have hxe:x1=d:=by rw [hk1] at Z2;exact (A5 Z2).symm
 subst hxe
 refine dx 3 (Zh none (k:Int) 3 (VF Z2)) (Zj 7 12 [4,5,6,7,8] (da 9 ((k:Int)) ((WW ds c)-(1)) (hb:=(by have:=hd.len;omega)) (Z8 10 (Yg 10 [] [] [] (FG ds k) (da 11 ((c-((X4 (ds.take k):Nat):Int))) ((c)-(((X4 (ds.take k):Nat):Int))) ?_)))))
 obtain ⟨x2,Zt⟩:=Zp x1.cons ((c-((X4 (ds.take k):Nat):Int)).toNat) om
 have hxe:x2=x:=by rw [show (c - ↑(X4 (ds.take k))).toNat=(c-X4 (ds.take k)).toNat from rfl,hk3] at Zt;exact (A5 Zt).symm
 subst hxe
 exact dx 12 (Zh none (c-((X4 (ds.take k):Nat):Int)) 1 (Cg Zt)) (Zj 0 3 [13,14,15] (de (Z9 (ZY (Z6 x2.fields) (Zf.sl _ (Yh Z7 hk5.symm))))))
theorem QQ (ds:List Zd) (t:Int) (hd:Wi ds:=by exact ob):Zi 174 [YD ds,.i t] [] (fun r h=>∃(v:Value),r=ZO (ZW ds t) v/\h=[.tail v 1]):=by
 have hdn:=hd.len
 refine ZB 35 Tryz.func174 (ar (Z0 1 (ie (ar (iL (Z7 []) 0 1 fun v1=>Z0 1 (ie (aq (ar (Z0 2 (iw (T6 ds) (Zr [] (VA t 1 (ds.length:Int)) (Z0 1 (ie (ac (!(decide (1<=t/\t<=(ds.length:Int)))) (p:=¬(1<=t/\t<=(ds.length:Int))) (YR dq) (fun Za=>?_) (fun Za=>?_)))))))))))))))
 ·exact ar (Z0 2 (ie (Z9 (r2 [0] [ZO [] v1] ⟨v1,rfl,rfl⟩ (Zf.slh _ (Yh Z7 (by simp [ZW];omega)))))))
 have Za:1<=t/\t<=ds.length:=by simpa using Za
 obtain ⟨d,hd1⟩:=Zp ds ((t-1).toNat) om
 have hdc:=hd.cons_at hd1
 have hsm:=(hd.take (t-1).toNat).sum
 refine ak (aq (ar (Z0 1 (ie (ab 0 (ZX (fun fz gz m F h=>∃(k:Nat) (v:Value),(k<=d.cons.length)/\F=sF [0,1] fz [(5,ZO (Vl (X4 (ds.take (t-1).toNat)) k) v),(6,.i k)]/\h=[.tail v 1]/\m=d.cons.length-k) _ _ _ ⟨0,v1,(by first|omega|rfl|(simp<;>omega)|grind [ZW,Vl]),rfl,rfl,rfl⟩ (wk [0] (fc (x:=ZO [] v1) (Zf.slh _ (Yh Z7 (by first|omega|rfl|(simp<;>omega)|grind [ZW,Vl]))) (fc (x:=.i 0) (li (by first|omega|rfl|(simp<;>omega)|grind [ZW,Vl])) fl))) ?_))))))
 rintro m F h ⟨k,v,Ya,rfl,rfl,rfl⟩
 refine aq (ar (Z0 3 (ia ((((t-1).toNat:Nat):Int)) ((t)-(1)) (Zn (Zh none (((t-1).toNat:Nat):Int) 3 (VF hd1)) (Z0 2 (iw (QC d.cons) (Z0 1 (ie (ZH ((k:Int)<(d.cons.length:Int)) (fun Zg=>?_) (fun Zg=>?_))))))))))
 ·exact ak (aq (ab 1 (az (Z0 3 (ia ((((t-1).toNat:Nat):Int)) ((t)-(1)) (Zr [] (FG ds ((t-1).toNat) (hd:=(by first|omega|rfl|(simp<;>omega)|grind [ZW,Vl])) (hn:=(by first|omega|rfl|(simp<;>omega)|grind [ZW,Vl]))) (Z0 1 (ia ((((X4 (ds.take ((t-1).toNat)))+k:Nat):Int)) ((((X4 (ds.take ((t-1).toNat)):Nat):Int))+((k:Int))) (iL (Z7 [(((X4 (ds.take ((t-1).toNat)))+k:Nat):Int)]) 1 1 fun v2=>ZA 0 [(32,Z6 [(((X4 (ds.take ((t-1).toNat)))+k:Nat):Int)])] (ip 1 (Z7 (Vl (X4 (ds.take (t-1).toNat)) k++[(((X4 (ds.take ((t-1).toNat)))+k:Nat):Int)])) (Z7 (Vl (X4 (ds.take (t-1).toNat)) k)) (Z7 [(((X4 (ds.take ((t-1).toNat)))+k:Nat):Int)]) v none 1 (Yl _) (Yl _) (XF _) (by simp<;>omega) (by simp [XD,Z7]) fun v3=>Z0 1 (ie (az (Z0 1 (ZE k (Z0 1 (ie (⟨_,_,_,(by first|omega|rfl|(simp<;>omega)|grind [ZW,Vl]),⟨k+1,v3,(by first|omega|rfl|(simp<;>omega)|grind [ZW,Vl]),rfl,rfl,rfl⟩,(wk [0] (fc (x:=ZO (Vl (X4 (ds.take (t-1).toNat)) k++[(((X4 (ds.take ((t-1).toNat)))+k:Nat):Int)]) v3) (Zf.slh _ (Yh Z7 (SM _ _).symm)) (fc (x:=.i (k+1:Nat)) (li (by first|omega|rfl|(simp<;>omega)|grind [ZW,Vl])) fl)))⟩)))))))))))))))))
 exact ax 0 (ar (Z0 2 (ie (Z9 (r2 [0] [ZO (Vl (X4 (ds.take (t-1).toNat)) k) v] ⟨v,rfl,rfl⟩ (Zf.slh _ (Yh Z7 (by rw [ZW,Zw Za,hd1,show k=d.cons.length by omega];rfl))))))))
theorem LM (ds:List Zd) (frm:Int) (to_:Int) (hl_ds:ds.length<=4294967296:=by exact ob):Zi 176 [YD ds,.i frm,.i to_] [] (Ym (.i (Qu ds frm to_))):=by
 refine ZB 41 Tryz.func176 (ar (Z0 1 (ie (aq (ar (Z0 1 (ie (ab 0 (ZX (fun fz gz m F h=>∃(k:Nat),(k<=ds.length)/\(Aa frm to_ (ds.drop k) k=Qu ds frm to_)/\F=sF [0,1,2] fz [(7,.i k)]/\h=gz/\m=ds.length-k) _ _ _ ⟨0,ob,ob,rfl,rfl,rfl⟩ (wk [] (Y7 fl)) ?_)))))))))
 rintro m F h ⟨k,Ya,Zm,rfl,rfl,rfl⟩
 refine aq (ar (Z0 2 (iw (T6 ds) (Z0 1 (ie (ZH ((k:Int)<(ds.length:Int)) (fun Za=>?_) (fun Za=>?_)))))))
 ·refine ak (aq (ab 1 (ar (Z0 2 ?_))))
  obtain ⟨x1,Z2⟩:=Zp ds k om
  refine Zn (Zh none (k:Int) 3 (VF Z2)) (Z0 2 (iw (QC x1.cons) (Wf 16 [0,1,2,7] [(29,.b (((x1.cons.length:Int)==0)&&(x1.frm==frm)))] (fun gz=>gz) ?_ (fun hj1=>?_))))
  ·refine Xs [0,1,2,7] [(38,.b ((((x1.cons.length:Int)==0)&&(x1.frm==frm))&&(x1.to_==to_)))] (fun gz=>gz) ?_ ?_
   ·refine Z0 1 (ib (b:=(((x1.cons.length:Int)==0)&&(x1.frm==frm))) 30 (fun Zb=>?_) (fun Zb=>?_))
    ·have ZQ:((x1.cons.length:Int)=0)/\(x1.frm=frm):=((X6 Zz Zz)).1 Zb
     exact Z0 2 (Zn (Zh none (k:Int) 3 (VF Z2)) (Z0 5 (ie (wk [] (ZI (x1.to_==to_) Zb fl)))))
    have Y6:¬(((x1.cons.length:Int)=0)/\(x1.frm=frm)):=YC (X6 Zz Zz) Zb
    exact Z0 8 (ie (wk [] (ZI false Zb fl)))
   refine ac ((((x1.cons.length:Int)==0)&&(x1.frm==frm))&&(x1.to_==to_)) (p:=(((x1.cons.length:Int)=0)/\(x1.frm=frm))/\(x1.to_=to_)) (X6 (X6 Zz Zz) Zz) (fun Zg=>?_) (fun Zg=>?_)
   ·refine ar (Z0 1 (ZE k (Z0 1 (ie ?_))))
    rw [Ye Z2] at Zm
    exact Z9 (ZY (.i (k+1:Nat)) (li (by clear Z2;first|rfl|omega|grind [Aa])))
   refine ak (az (Z0 1 (ZE k (Z0 1 (ie ?_)))))
   have hdr:=Ye Z2
   exact ZG ⟨k+1,ob,(by rw [hdr] at Zm;clear hdr Z2;grind [Aa]),rfl,rfl,rfl⟩ (wk [] (ZJ k fl))
  refine Z0 2 (ib (b:=((x1.cons.length:Int)==0)) 21 (fun ZM=>?_) (fun ZM=>?_))
  ·have YB:(x1.cons.length:Int)=0:=(Zz).1 ZM
   exact Z0 2 (Zn (Zh none (k:Int) 3 (VF Z2)) (Z0 5 (YU (wk [] (ZI (x1.frm==frm) ZM fl)) hj1)))
  have YJ:¬((x1.cons.length:Int)=0):=YC Zz ZM
  exact Z0 8 (YU (wk [] (ZI false ZM fl)) hj1)
 refine ax 0 (ar (Z0 1 (ie ?_)))
 try rw [Xk (xs:=ds) (k:=k) om] at Zm
 exact Z9 (ZY (.i (-1)) (li (by first|rfl|omega|grind [Aa])))
theorem BN (ds:List Zd) (t:Int) (hd:Wi ds:=by exact ob):Zi 141 [YD ds,.i t] [] (Ym (.b (WG ds t))):=by
 have hdn:=hd.len
 refine ZB 19 Tryz.func141 (ar (Z0 1 (ie (ar (Z0 2 (iw (T6 ds) (Zr [] (VA t 1 (ds.length:Int)) (Z0 1 (ib (b:=(decide (1<=t/\t<=(ds.length:Int)))) 9 (fun Zb=>?_) (fun Zb=>?_))))))))))
 ·have ZQ:1<=t/\t<=(ds.length:Int):=(dq).1 Zb
  refine Z0 2 (ia ((t-1)) ((t)-(1)) ?_)
  obtain ⟨x1,Z2⟩:=Zp ds ((t-1).toNat) om
  exact Zn (Zh none (t-1) 3 (VF Z2)) (Z0 2 (iw (QC x1.cons) (Z0 3 (ie (Z9 (ZY (.b ((x1.cons.length:Int)==0)) (lb (by first|omega|rfl|(rw [I1 ZQ Z2])|exact I0 Y6))))))))
 have Y6:¬(1<=t/\t<=(ds.length:Int)):=YC dq Zb
 exact Z0 10 (ie (Z9 (ZY (.b false) (lb (by first|omega|rfl|(rw [I1 ZQ Z2])|exact I0 Y6)))))
theorem Tl (xs:LI) (ys:LI) (hl:xs.length+ys.length<=4294967296:=by exact ob):Zi 175 [Z6 xs,Z6 ys] [] (fun r h=>∃(v:Value),r=ZO (xs++ys) v/\h=[.tail v 1]):=by
 refine ZB 9 Tryz.func175 (ar (Z0 1 (ie (ar (Z0 1 (ic [] (V8 xs) ?_))))))
 rintro _ _ ⟨v1,rfl,rfl⟩
 exact Z0 1 (ip 0 (Z7 (xs++ys)) (Z7 xs) (Z7 ys) v1 none 1 (Yl _) (Yl _) (XF _) (by simp<;>omega) (by simp [XD,Z7]) fun v2=>Z0 1 (ie (Z9 (r1 [0] ⟨v2,rfl,rfl⟩))))
theorem LK (ds:List Zd) (xs:LI) (hl_ds:ds.length<=4294967296:=by exact ob) (hl_xs:xs.length<=4294967296:=by exact ob):Zi 58 [YD ds,Z6 xs] [] (Ym (.b (VD ds.length xs))):=by
 refine ZB 20 Tryz.func58 (ar (Z0 1 (ie (aq (ar (Z0 1 (ie (ab 0 (ZX (fun fz gz m F h=>∃(k:Nat),(k<=xs.length)/\(VD ds.length (xs.drop k)=VD ds.length xs)/\F=sF [0,1] fz [(5,.i k)]/\h=gz/\m=xs.length-k) _ _ _ ⟨0,ob,ob,rfl,rfl,rfl⟩ (wk [] (Y7 fl)) ?_)))))))))
 rintro m F h ⟨k,Ya,Zm,rfl,rfl,rfl⟩
 refine aq (ar (Z0 2 (iw (Y2 xs) (Z0 1 (ie (ZH ((k:Int)<(xs.length:Int)) (fun Za=>?_) (fun Za=>?_)))))))
 ·refine ak (aq (ab 1 (ar (Z0 2 ?_))))
  obtain ⟨x1,Z2⟩:=Zp xs k om
  refine Zn (Zh none (k:Int) 1 (ZU Z2)) (Z0 2 (iw (T6 ds) (Zr [] (VA x1 0 (ds.length:Int)) (Z0 1 (ie (ac (!(decide (0<=x1/\x1<=(ds.length:Int)))) (p:=¬(0<=x1/\x1<=(ds.length:Int))) (YR dq) (fun Zg=>?_) (fun Zg=>?_)))))))
  ·refine ar (Z0 1 (ie ?_))
   rw [Ye Z2] at Zm
   exact Z9 (ZY (.b false) (lb (by clear Z2;first|rfl|omega|grind [VD])))
  refine ak (az (Z0 1 (ZE k (Z0 1 (ie ?_)))))
  have hdr:=Ye Z2
  exact ZG ⟨k+1,ob,(by rw [hdr] at Zm;clear hdr Z2;grind [VD]),rfl,rfl,rfl⟩ (wk [] (ZJ k fl))
 refine ax 0 (ar (Z0 1 (ie ?_)))
 try rw [Xk (xs:=xs) (k:=k) om] at Zm
 exact Z9 (ZY (.b true) (lb (by first|rfl|omega|grind [VD])))
end Go.Abs
