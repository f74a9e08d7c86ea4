/-
  A part of the proof of FnUsedFromUptoSaid (see the last file): no condition.
-/
import Derived.Test.YthllacimcjakdaaGreatUfrA
import Derived.Test.YthllacimcjakdaaGreatRows
import Derived.Deep.Slices
import Derived.ChangeArms
import Derived.Lib.SlicesCompact
import Derived.Shelf.Sort.Plain
import Derived.Shelf.Slices.CompactI
import Derived.Ground.NamesProg
import Derived.Ground.Names2Prog
import Derived.Test.YthllacimcjakdaaGreatProg
set_option linter.all false
set_option linter.unusedVariables false
set_option linter.unusedSimpArgs false
set_option linter.unusedSectionVars false
set_option maxRecDepth 10000
set_option maxHeartbeats 4000000
section
namespace Go.Abs
theorem Ya.rgrow {w:World} {G:ZV} {h2:List Res} {g len len' cap k:Nat} {ls ls':List AV} (hh:Ya w G (.row (.slice (some ⟨g,0,none⟩) len cap) k ls::h2)) {cs cs':Array Value} {e:TypeId}
  (hb:w.heap[g]? = some (.cells cs e (0,0))) (YW:cs'.size=cs.size) (hle:len'<=cap) (hcap:cs.size=cap*k) (hl:ls'.length=len'*k) (hls:Yp w G ls' (cs'.toList.take (len'*k))) :
  Ya (w.setRow g cs') G (.row (.slice (some ⟨g,0,none⟩) len' cap) k ls'::h2) /\
   YD w G (.row (.slice (some ⟨g,0,none⟩) len cap) k ls::h2) (w.setRow g cs') G (.row (.slice (some ⟨g,0,none⟩) len' cap) k ls'::h2):=by
 have hmem:Res.row (.slice (some ⟨g,0,none⟩) len cap) k ls∈Res.row (.slice (some ⟨g,0,none⟩) len cap) k ls::h2:=YL ..
 have hA:WI G w (w.setRow g cs') G:=⟨fun c j hg=>by
  have hne:c≠g:=fun he=>hh.prot _ hmem c j he hg
  simp [World.cell?,WB w g c cs' hne],fun _ _ h=>h⟩
 have e1:YD w G [.row (.slice (some ⟨g,0,none⟩) len cap) k ls] (w.setRow g cs') G [.row (.slice (some ⟨g,0,none⟩) len' cap) k ls']:=by
  refine ⟨rfl,rfl,rfl,by simp [World.setRow],fun _ _ h=>h,?_,fun _ _ _ h=>.inl h,?_⟩
  ·intro c hc
   by_cases hcb:c=g
   ·subst hcb
    exact .inr ⟨cs,cs',e,(0,0),hb,setRow_heap w c cs cs' e (0,0) hb,YW,fun j hj=>absurd ⟨_,YL ..,rfl⟩ hj⟩
   ·exact .inl (WB w g c cs' hcb)
  ·rintro c j _ ⟨r,hr,hf⟩
   rw [Xk.1 hr] at hf
   exact ⟨_,YL ..,hf⟩
 have e2:Ya (w.setRow g cs') G [.row (.slice (some ⟨g,0,none⟩) len' cap) k ls']:=by
  refine ⟨fun r hr=>?_,Jl _ _,fun r hr c j hf hg=>?_,fun c j hg=>?_⟩
  ·rw [Xk.1 hr]
   exact .inr ⟨g,len',cap,cs',e,rfl,setRow_heap w g cs cs' e (0,0) hb,hle,YW.trans hcap,hl,hls.mono hA⟩
  ·rw [Xk.1 hr] at hf
   exact hh.prot _ hmem c j hf hg
  ·have:=hh.lt c j hg
   simpa [World.setRow] using this
 exact Ya.frame (h:=[.row (.slice (some ⟨g,0,none⟩) len cap) k ls]) (k:=h2) hh e1 e2
section
variable {P:Program} {n:Nat} {ops:Array Oper} {k:Nat} {F:Fr} {h2:List Res}
theorem IE {K:Fr->List Res->Prop} {v:Hd} {sz m:Nat} {ls xs:List AV} {hx:Option Value} (hd:WD n (Zx ops k)=true) (ha:Vf P ops F k=some (.val v.v,.sl xs hx,sz))
  (hxs:∀y∈xs,y.leaves.length=sz) (hone:(Zc xs).all AV.one=true) (hm0:ls.length=m*sz) (hk0:0<sz) (hne:xs≠[]) (hbound:m+xs.length<=4294967296)
  (hK:∀v':Hd,K (F.put (Zx ops k).dst (.val v'.v)) (.row v'.v sz (ls++Zc xs)::h2)):XW P n (Zx ops k) F (.row v.v sz ls::h2) K:=by
 unfold Vf at ha
 generalize hoo:Zx ops k=o at ha hd hK
 obtain ⟨dst,op,type,pos,after,guard⟩:=o
 cases op<;>simp only at ha<;>try (cases ha)
 rename_i c
 obtain ⟨callee,args,tys⟩:=c
 simp only at ha
 split at ha
 case h_2=>cases ha
 rename_i s x t t' hargs htys
 split at ha
 case h_2=>cases ha
 rename_i e htt ht
 have:=VA htt
 subst this
 split at ha
 case h_2=>cases ha
 rename_i i hinfo
 split at ha
 case h_2=>cases ha
 rename_i z hz
 split at ha
 case h_2=>cases ha
 rename_i hb
 simp only [W4] at hb
 simp only [Xz,Prod.mk.injEq] at ha
 obtain ⟨h3,h4,hk1⟩:=ha
 have e1:args=#[s,x]:=by rw [<-VP (xs:=args),hargs]
 have e2:tys=#[t,t]:=by rw [<-VP (xs:=tys),htys]
 subst e1;subst e2
 have hzs:z.cells.size=sz:=by rw [VA hb.1,hk1]
 have hby:=Wf hb.2
 have hfl:=U5 xs hxs
 intro Q w G a hF hh
 have v1:=hF.ev s
 have v2:=hF.ev x
 rw [h3] at v1
 rw [h4] at v2
 have v1:=v1.val_inv
 have v2:=v2.forget
 have finish:∀(v':Hd) w',(Builtin.append_ #[t,t] type #[v.v,a.eval x]).run P w=.ok v'.v w'->Ya w' G (.row v'.v sz (ls++Zc xs)::h2)->YD w G (.row v.v sz ls::h2) w' G (.row v'.v sz (ls++Zc xs)::h2) ->
   ({ dst:=dst,op:=.call { callee:=.builtin .append,args:=#[s,x],argTypes:=#[t,t] },type:=type,pos:=pos,after:=after,guard:=guard }:Oper).wp P a w
    (fun a' w'=>∃F' h' G',K F' h'/\FR w' G' n F' a'/\Ya w' G' h'/\YD w G (.row v.v sz ls::h2) w' G' h') Q:=by
  intro v' w' hr j1 j2
  have hrun:(execOp a.eval { dst:=dst,op:=.call { callee:=.builtin .append,args:=#[s,x],argTypes:=#[t,t] },type:=type,pos:=pos,after:=after,guard:=guard }).run P w=.ok (.value v'.v) w':=by
   simp only [execOp,resolve,invoke,builtin,Sem.run_bind,Sem.run_pure,Result.andThen_ok,C0,VQ,BZ,v1,hr]
  unfold Oper.wp
  rw [hrun]
  exact ⟨_,_,G,hK v',(hF.mono (j2.agree hh)).put (Ud hd) .val,j1,j2⟩
 have hrow0:=hh.ok (.row v.v sz ls) (YL ..)
 have hsub2:∀r:Res,List.Sublist (r::h2) (r::.row v.v sz ls::h2):=fun r=>List.Sublist.cons_cons _ (Jm _ _)
 have grown:∀(olds news:List Value) (old:Nat),Yp w G ls olds->Yp w G (Zc xs) news ->
   Ya (w.drew.alloc (.cells (olds.toArray++news.toArray++Builtin.zeroCells z.cells (grownCap w (m+xs.length) old e-(m+xs.length))) e)) G
    (.row (.slice (some ⟨w.heap.size,0,none⟩) (m+xs.length) (grownCap w (m+xs.length) old e)) sz (ls++Zc xs)::h2) /\
   YD w G (.row v.v sz ls::h2) (w.drew.alloc (.cells (olds.toArray++news.toArray++Builtin.zeroCells z.cells (grownCap w (m+xs.length) old e-(m+xs.length))) e)) G
    (.row (.slice (some ⟨w.heap.size,0,none⟩) (m+xs.length) (grownCap w (m+xs.length) old e)) sz (ls++Zc xs)::h2):=by
  intro olds news old ho hn
  have YN:=grownCap_ge w (m+xs.length) old e
  have hol:=ho.length
  have hnl:=hn.length
  have hlen:(ls++Zc xs).length=(m+xs.length)*sz:=by rw [Yb,hm0,hfl,UJ]
  obtain ⟨j1,j2⟩:=hh.drew.alloc_rrow (olds.toArray++news.toArray++Builtin.zeroCells z.cells (grownCap w (m+xs.length) old e-(m+xs.length))) e
   (ls:=ls++Zc xs) (len:=m+xs.length) (cap:=grownCap w (m+xs.length) old e) (k:=sz) YN
   (by
    have q2:(grownCap w (m+xs.length) old e-(m+xs.length))*sz=grownCap w (m+xs.length) old e*sz-(m+xs.length)*sz:=Nat.sub_mul ..
    have q3:(m+xs.length)*sz<=grownCap w (m+xs.length) old e*sz:=UZ _ YN
    have q4:(m+xs.length)*sz=m*sz+xs.length*sz:=UJ ..
    simp only [Array.size_append,AT,size_zeroCells,hzs,hol,hnl,hm0,hfl]
    omega) hlen
   (by
    have:(olds.toArray++news.toArray++Builtin.zeroCells z.cells (grownCap w (m+xs.length) old e-(m+xs.length))).toList.take ((m+xs.length)*sz)=olds++news:=by
     simp only [DA]
     rw [<-hlen,Yb,<-hol,<-hnl,<-Yb]
     exact QV
    rw [this]
    exact (ho.append hn).mono (KM w G))
  exact ⟨j1.sub (hsub2 _),(YD.drew w G _).trans (j2.sub' (hsub2 _))⟩
 generalize hax:a.eval x=ax at v2 finish
 cases v2 with
 | nil _=>exact absurd rfl hne
 | sl hq hcc hm=>
  rename_i b o' k' c
  have hpos:0<xs.length:=DE.2 hne
  have hfm:=hm.flat_mem
  obtain ⟨news,hn,hnc⟩:=hfm.cells
  have hnl:news.length=xs.length*i.size:=by rw [hn.length,hfl,hk1]
  have hone':=hn.one_cells hone
  have hnews:∀j u,news[j]? = some u->w.cell? ((⟨b,o',none⟩:Addr).add j)=some u:=fun j u hj=>by rw [TK];exact (hnc j u hj).1
  have hbb:(m+xs.length)*i.bytes<=140737488355328:=by
   have:=Nat.mul_le_mul hbound hby
   omega
  rcases hrow0 with ⟨hv0,hl0⟩|⟨g,len,cap,cur,el,hv0,hrow,hlc,hcur,hll,hcells⟩
  ·subst hl0
   have hm1:m=0:=by
    have:m*sz=0:=by simpa using hm0.symm
    rcases Nat.mul_eq_zero.1 this with h|h
    ·exact h
    ·omega
   subst hm1
   rw [hv0] at finish hh ⊢
   have hr:=run_append_nil (P:=P) w t type e i z ht hinfo hz ⟨b,o',none⟩ xs.length c news hnl hnews hpos om (by simp only [Wc] at hbb;omega)
   obtain ⟨j1,j2⟩:=grown [] news 0 .nil hn
   simp only [Wc,Array.empty_append,A1] at j1 j2
   rw [hv0] at j2
   exact finish ⟨some ⟨w.heap.size,0,none⟩,xs.length,grownCap w xs.length 0 e⟩ _ hr (by simpa using j1) (by simpa using j2)
  ·have hlm:len=m:=DF hk0 (hll.symm.trans hm0)
   subst hlm
   rw [hv0] at finish hh ⊢
   have q5:len*sz<=cap*sz:=UZ _ hlc
   have h1:(cur.toList.take (len*sz)).length=len*sz:=by rw [W8,Q6,hcur,WS q5]
   have hcl:cur.toList.length=cap*sz:=by rw [Q6,hcur]
   by_cases hroom:len+xs.length<=cap
   ·have q1:(len+xs.length)*sz<=cap*sz:=UZ _ hroom
    have q2:(len+xs.length)*sz=len*sz+xs.length*sz:=UJ ..
    have hfit:len*i.size+news.length<=cur.size:=by rw [hnl,hcur,hk1];omega
    have hr:=Dc (P:=P) w t type e el i ht hinfo g len cap cur hrow ⟨b,o',none⟩ xs.length c news hnl hnews hone' hroom hfit
    rw [hk1] at hr
    have hnl':news.length=xs.length*sz:=by rw [hnl,hk1]
    obtain ⟨j1,j2⟩:=hh.rgrow (ls':=ls++Zc xs) (len':=len+xs.length) (cs':=(cur.toList.take (len*sz)++news++cur.toList.drop (len*sz+news.length)).toArray) hrow
     (by simp only [AT,Yb,h1,hnl',KA,hcl,hcur];omega) hroom hcur (by rw [Yb,hll,hfl,q2]) (by
      have:(cur.toList.take (len*sz)++news++cur.toList.drop (len*sz+news.length)).toArray.toList.take ((len+xs.length)*sz)=cur.toList.take (len*sz)++news:=by
       rw [AU,q2,<-hnl']
       conv=>lhs;arg 1;rw [show len*sz+news.length=(cur.toList.take (len*sz)++news).length from by rw [Yb,h1]]
       exact QV
      rw [this]
      exact hcells.append hn)
    exact finish ⟨some ⟨g,0,none⟩,len+xs.length,cap⟩ _ hr j1 j2
   ·have hr:=run_append_grow (P:=P) w t type e i z ht hinfo hz ⟨g,0,none⟩ len cap (cur.toList.take (len*sz)) (by rw [hk1];exact h1) (fun j u hj=>by
     rw [TK,cell_of_row w g _ cur el (0,0) hrow]
     rw [UI] at hj
     split at hj
     ·simpa using hj
     ·cases hj) ⟨b,o',none⟩ xs.length c news hnl hnews om om (growslice_fits om hbb)
    obtain ⟨j1,j2⟩:=grown (cur.toList.take (len*sz)) news cap hcells hn
    rw [hv0] at j2
    exact finish ⟨some ⟨w.heap.size,0,none⟩,len+xs.length,grownCap w (len+xs.length) cap e⟩ _ hr j1 j2
end
section
variable {P:Program} {n:Nat} {ops:Array Oper} {B:Fr->List Res->Prop} {k:Nat} {F:Fr} {h:List Res}
theorem CE (j m:Nat) (v:Hd) (sz:Nat) (ls xs:List AV) (hx:Option Value) (hm0:ls.length=m*sz) (hxs:∀y∈xs,y.leaves.length=sz) (hone:(Zc xs).all AV.one=true) (hne:xs≠[]) (hbound:m+xs.length<=4294967296)
  (hK:∀v':Hd,SI P n ops B (k+1) (F.put (Zx ops k).dst (.h v')) (rK v' sz (ls++Zc xs)::X7 [j] h)) (hk0:0<sz:=by omega)
  (hk:YK n ops F k=true:=by kernel_rfl) (ha:Vf P ops F k=some (.h v,.sl xs hx,sz):=by kernel_rfl) (hp:XE [j] h=some [rK v sz ls]:=by kernel_rfl):SI P n ops B k F h:=
 UO hk (XW.perm (V5 (Wr hp)) (IE (V3 hk).2.1 ha hxs hone hm0 hk0 hne hbound hK))
end
end Go.Abs
namespace Go.Abs
section
variable {P:Program} {n:Nat} {ops:Array Oper} {B:Fr->List Res->Prop} {T:List (Nat × List Nat)} {fuel:Nat} {done:List Nat} {F:Fr} {h:List Res}
theorem E5 (i j m:Nat) (js bs:List Nat) (v:Hd) (sz:Nat) (ls xs:List AV) (hx:Option Value) (hm0:ls.length=m*sz) (hxs:∀y∈xs,y.leaves.length=sz) (hone:(Zc xs).all AV.one=true) (hne:xs≠[]) (hbound:m+xs.length<=4294967296)
  (hK:∀v':Hd,Yz P n ops B (T.filter fun t=>!Wa ops i t.1) fuel (done++[i]) (F.put (Zx ops i).dst (.h v')) (rK v' sz (ls++Zc xs)::X7 [j] h)) (hk0:0<sz:=by omega) (hk:YK n ops F i=true:=by kernel_rfl)
  (ha:Vf P ops F i=some (.h v,.sl xs hx,sz):=by kernel_rfl) (hp:XE [j] h=some [rK v sz ls]:=by kernel_rfl) (ho:WX ops i T=bs:=by kernel_rfl)
  (hj:js.map (fun q=>(XT (X7 [j] h))[q]?)=bs.map some:=by kernel_rfl):Wu P n ops B T fuel done F h i:=
 TQ [j] js bs hk (Wr hp) ho hj (IE (h2:=[]) (V3 hk).2.1 ha hxs hone hm0 hk0 hne hbound hK)
end
theorem XN.form {P:Program} {f:FuncId} {as1:List AV} {h0:List Res} {T:Hd->AV} {kk m:Nat} {ls:List AV} {hs:List Res} (H:XN P f as1 h0 (fun r h=>∃v:Hd,r=T v/\h=rK v kk ls::hs)) (hm:ls.length=m*kk) (hk:0<kk) (h1:0<m) :
  XN P f as1 h0 (fun r h=>∃(g c:Nat),r=T ⟨some ⟨g,0,none⟩,m,c⟩/\h=rK ⟨some ⟨g,0,none⟩,m,c⟩ kk ls::hs):=by
 intro w G vs hv hh
 refine (H w G vs hv hh).mono ?_
 rintro e w' ⟨u,r,h',G',he,⟨v,rfl,rfl⟩,hr,hh',hx⟩
 obtain ⟨g,c,rfl⟩:=Lc (hh'.ok _ (YL ..)) hm hk h1
 exact ⟨u,_,_,G',he,⟨g,c,rfl,rfl⟩,hr,hh',hx⟩
end Go.Abs
namespace Go.Abs
section
variable {h:List Res}
theorem Z3a (j i p:Nat) {u:Value} {kk b:Nat} {es ls:List AV} (hp:XE [j,i] h=some [.row u kk (Zc es),.obj b ls]) (hes:∀y∈es,y.leaves.length=kk) (hk:0<kk) (hl:ls[p]? = some (.val u)) :
  Us h (.obj b (ls.set p (.sl es (some u)))::.tail u kk::X7 [j,i] h):=by
 intro w G hh
 have hp':=V5 (Wr hp)
 have hh':=hh.perm hp'
 obtain ⟨G',h1,h2',h3⟩:=AF (h2:=.obj b ls::X7 [j,i] h) hh' hes hk
 have e:=h2'.perm hp'.symm (UH _)
 have h1:Ya w G' (.tail u kk::.obj b ls::X7 [j,i] h):=h1
 have perm:(Res.tail u kk::.obj b ls::X7 [j,i] h).Perm (.obj b ls::.tail u kk::X7 [j,i] h):=List.Perm.swap ..
 have h4:=h1.perm perm
 have e4:=e.perm (UH _) perm
 have hset:∀{w:World} {G:ZV},RV w G (.sl es (some u)) u->T1 w G (.obj b ls)->T1 w G (.obj b (ls.set p (.sl es (some u)))):=by
  intro w G hu hr
  obtain ⟨cs,el,k1,k5⟩:=hr
  refine ⟨cs,el,k1,?_⟩
  obtain ⟨c,c1,c2⟩:=k5.get p _ hl
  have:=c2.val_inv
  subst this
  have h6:=k5.set p hu
  rwa [show cs.toList.set p c=cs.toList from by
   apply List.ext_getElem?
   intro q
   rw [List.getElem?_set]
   split
   ·rename_i hq;subst hq;split
    ·exact c1.symm
    ·rename_i hq2;rw [BW om]
   ·rfl] at h6
 refine ⟨G',⟨fun r hr=>?_,?_,fun r hr=>?_,h4.lt⟩,⟨e4.os,e4.tape,e4.output,e4.size,e4.sub,e4.same,e4.newG,fun b' o hb ⟨r,hr,hf⟩=>e4.newfp b' o hb ?_⟩⟩
 ·rcases Yj.1 hr with rfl|hr
  ·exact hset h3 (h4.ok _ (YL ..))
  ·exact h4.ok r (X8 _ hr)
 ·have:=XV.1 h4.apart
  exact XV.2 ⟨fun r hr b' o f1 f2=>this.1 r hr b' o f1 f2,this.2⟩
 ·rcases Yj.1 hr with rfl|hr
  ·exact fun b' o f1 hg=>h4.prot (.obj b ls) (YL ..) b' o f1 hg
  ·exact h4.prot r (X8 _ hr)
 ·rcases Yj.1 hr with rfl|hr
  ·exact ⟨.obj b ls,YL ..,hf⟩
  ·exact ⟨r,X8 _ hr,hf⟩
theorem VO (j i p:Nat) (u:Value) (kk b:Nat) (es ls:List AV) (hes:∀y∈es,y.leaves.length=kk) (hl:ls[p]? = some (.val u)) (hk:0<kk:=by omega) (hp:XE [j,i] h=some [.row u kk (Zc es),.obj b ls]:=by kernel_rfl) :
  Us h (.obj b (ls.set p (.sl es (some u)))::.tail u kk::X7 [j,i] h):=Z3a j i p hp hes hk hl
end
end Go.Abs
namespace Go.Abs
section
variable {P:Program} {n:Nat} {ops:Array Oper} {k:Nat} {F:Fr} {h:List Res}
theorem Z31 (j:Nat) {g l c m kk:Nat} {ls:List AV} (hi:AK P ops F k=some (.val (.slice (some ⟨g,0,none⟩) l c),(m:Int))) (hj:h[j]? = some (.row (.slice (some ⟨g,0,none⟩) l c) kk ls)) (hle:m<=l) :
  Xy P (Zx ops k) F h [] (.val (.slice (some ⟨g,0,none⟩) m c)):=by
 unfold AK at hi
 generalize hoo:Zx ops k=o at hi
 obtain ⟨dst,op,type,pos,after,guard⟩:=o
 cases op<;>simp only at hi<;>try (cases hi)
 rename_i t x lo hi' mx
 cases lo with
 | some _=>simp at hi
 | none=>
  cases hi' with
  | none=>simp at hi
  | some y=>
   cases mx with
   | some _=>simp at hi
   | none=>
    simp only at hi
    split at hi
    ·rename_i e ht
     split at hi
     ·rename_i inf hinf
      split at hi
      ·rename_i ik m' hm
       simp only [Xz,Prod.mk.injEq] at hi
       obtain ⟨hx,rfl⟩:=hi
       intro n w G a hF hh
       have v1:=hF.ev x
       rw [hx] at v1
       have v1:=v1.val_inv
       have v2:=hF.ev y
       rw [hm] at v2
       have v2:=v2.val_inv
       have hcap:l<=c:=by
        rcases hh.ok _ (ZU hj) with ⟨h0,_⟩|⟨g',l',c',cur,el,h0,_,hc,_⟩
        ·cases h0
        ·cases h0;exact hc
       refine ⟨_,.val,fun w' _ _=>?_⟩
       simp only [execOp,v1,v2,AW,Option.map_none]
       refine WF ?_
       simp only [Instr.sliceAt,Sem.run_bind,Vl ht,Result.andThen_ok,Instr.slice]
       have hmm:(Instr.sliceBounds true l c none (some (.int ik (m:Int))) none).run P w'=.ok (0,m,c) w':=by
        have ZM:=fun q=>AH (P:=P) (c:=q) (v:=.int ik (m:Int)) (y:=c) rfl om om w'
        simp [Instr.sliceBounds,ZM]
       rw [hmm]
       have hz:∀a:Addr,a.add 0=a:=fun a=>by simp [Addr.add]
       simp only [Result.andThen_ok,UT hinf,Nat.zero_mul,hz]
       by_cases h0:c=0<;>simp [h0]
      ·cases hi
     ·cases hi
    ·cases hi
theorem ET (j g l c m kk:Nat) (ls:List AV) (hle:m<=l:=by omega) (hi:AK P ops F k=some (.val (.slice (some ⟨g,0,none⟩) l c),(m:Int)):=by kernel_rfl) (hj:h[j]? = some (.row (.slice (some ⟨g,0,none⟩) l c) kk ls):=by kernel_rfl) :
  Xy P (Zx ops k) F h [] (.val (.slice (some ⟨g,0,none⟩) m c)):=Z31 j hi hj hle
variable {B:Fr->List Res->Prop}
end
end Go.Abs
end
namespace Go.Abs
theorem Ye {α:Type} {xs:List α} {k:Nat} {x:α} (h:xs[k]? = some x):xs.drop k=x::xs.drop (k+1):=by
 have hk:=(Xj.1 h).1
 rw [G5 hk]
 congr 1
 rw [TG hk] at h
 exact A5 h
theorem Xf {α:Type} {xs:List α} {k:Nat} (h:xs.length<=k):xs.drop k=[]:=DB h
theorem Ve {α:Type} {xs:List α} {k:Nat} {x:α} (h:xs[k]? = some x):xs.take (k+1)=xs.take k++[x]:=by
 rw [List.take_add_one,h];rfl
def X1:List Zd->Nat
 | []=>0
 | d::ds=>d.cons.length+X1 ds
theorem GC (xs ys:List Zd):X1 (xs++ys)=X1 xs+X1 ys:=by
 induction xs with
 | nil=>simp [X1]
 | cons d ds ih=>simp [X1,ih];omega
structure Wg (ds:List Zd):Prop where
 len:ds.length<=4
 cons:∀d∈ds,d.cons.length<=3
 fields:∀d∈ds,∀c∈d.cons,c.fields.length<=3
theorem NR {ds:List Zd} {m:Nat} (h:∀d∈ds,d.cons.length<=m):X1 ds<=ds.length*m:=by
 induction ds with
 | nil=>simp [X1]
 | cons d ds ih=>
  have h1:=h d (by simp)
  have h2:=ih (fun x hx=>h x (by simp [hx]))
  simp only [X1,Yw,UJ];omega
theorem Wg.sum {ds:List Zd} (h:Wg ds):X1 ds<=12:=by
 have:=NR h.cons
 have:=h.len
 have:ds.length*3<=4*3:=UZ 3 h.len
 omega
theorem Wg.take {ds:List Zd} (h:Wg ds) (k:Nat):Wg (ds.take k):=
 ⟨by have:=h.len;simp;omega,fun d hd=>h.cons d (Tl hd),fun d hd=>h.fields d (Tl hd)⟩
theorem Wg.cons_at {ds:List Zd} (h:Wg ds) {k:Nat} {d:Zd} (hd:ds[k]? = some d):d.cons.length<=3:=h.cons d (ZU hd)
theorem Wg.fields_at {ds:List Zd} (h:Wg ds) {k j:Nat} {d:Zd} {c:Y0} (hd:ds[k]? = some d) (hc:d.cons[j]? = some c):c.fields.length<=3:=
 h.fields d (ZU hd) c (ZU hc)
def K4 (c:Int):List Zd->Nat->Nat->Int × LI
 | [],_,_=>(-1,[])
 | d::ds,i,first=>
  if (first:Int)<=c/\c<=((first+d.cons.length:Nat):Int)-1 then ((i:Int)+1,(d.cons[(c-first).toNat]?.map (·.fields)).getD []) else K4 c ds (i+1) (first+d.cons.length)
def WV (ds:List Zd) (c:Int):Int:=(K4 c ds 0 0).1
def ZY (ds:List Zd) (c:Int):LI:=(K4 c ds 0 0).2
theorem E3 {c:Int}:∀{ds:List Zd} {i first:Nat},(K4 c ds i first=(-1,[]) ∨
  ∃k d x,ds[k]? = some d/\(first+X1 (ds.take k):Int)<=c/\c<first+X1 (ds.take k)+d.cons.length/\d.cons[(c-(first+X1 (ds.take k))).toNat]? = some x/\K4 c ds i first=((i:Int)+k+1,x.fields))
 | [],_,_=>.inl rfl
 | d::ds,i,first=>by
  rw [K4]
  split
  ·rename_i h
   have hlt:(c-first).toNat<d.cons.length:=by omega
   refine .inr ⟨0,d,d.cons[(c-first).toNat],rfl,by simp [X1];omega,by simp [X1];omega,?_,?_⟩
   ·simp [X1]
   ·rw [TG hlt];simp
  ·rcases E3 (c:=c) (ds:=ds) (i:=i+1) (first:=first+d.cons.length) with h|⟨k,e,x,h1,h2,h3,h4,h5⟩
   ·exact .inl h
   ·refine .inr ⟨k+1,e,x,by simpa using h1,by simp [X1];omega,by simp [X1];omega,?_,?_⟩
    ·rw [<-h4];congr 3;simp [X1];omega
    ·rw [h5];congr 1;omega
theorem GG {ds:List Zd} {c:Int} (h:¬WV ds c<1) :
  ∃k d x,ds[k]? = some d/\(X1 (ds.take k):Int)<=c/\d.cons[(c-X1 (ds.take k)).toNat]? = some x/\WV ds c=(k:Int)+1/\ZY ds c=x.fields:=by
 rcases E3 (c:=c) (ds:=ds) (i:=0) (first:=0) with h1|⟨k,d,x,h1,h2,_,h4,h5⟩
 ·simp [WV,h1] at h
 ·exact ⟨k,d,x,h1,by simpa using h2,by simpa using h4,by simp [WV,h5],by simp [ZY,h5]⟩
theorem GF {ds:List Zd} {c:Int} (h:WV ds c<1):ZY ds c=[]/\WV ds c=-1:=by
 rcases E3 (c:=c) (ds:=ds) (i:=0) (first:=0) with h1|⟨k,d,x,h1,h2,_,h4,h5⟩
 ·simp [ZY,WV,h1]
 ·simp [WV,h5] at h;omega
def Vk (first:Int):Nat->LI
 | 0=>[]
 | n+1=>first::Vk (first+1) n
theorem SN (first:Int) (n:Nat):Vk first (n+1)=Vk first n++[first+n]:=by
 induction n generalizing first with
 | zero=>simp [Vk]
 | succ n ih=>rw [Vk,ih (first+1),Vk];simp;omega
@[simp] theorem SM (first:Int) (n:Nat):(Vk first n).length=n:=by
 induction n generalizing first with
 | zero=>rfl
 | succ n ih=>simp [Vk,ih]
def ZW (ds:List Zd) (t:Int):LI:=
 if 1<=t/\t<=ds.length then Vk (X1 (ds.take (t-1).toNat)) (((ds[(t-1).toNat]?).map (·.cons.length)).getD 0) else []
def Aa (frm to_:Int):List Zd->Nat->Int
 | [],_=>-1
 | d::ds,i=>if d.cons.length=0/\d.frm=frm/\d.to_=to_ then (i:Int)+1 else Aa frm to_ ds (i+1)
def Qs (ds:List Zd) (frm to_:Int):Int:=Aa frm to_ ds 0
def WE (ds:List Zd) (t:Int):Bool:=decide (1<=t/\t<=ds.length)&&((ds[(t-1).toNat]?).map fun d=>decide (d.cons.length=0)).getD false
theorem HX {ds:List Zd} {t:Int} {x:Zd} (h:1<=t/\t<=ds.length) (hx:ds[(t-1).toNat]? = some x):((x.cons.length:Int)==0)=WE ds t:=by
 rw [WE,hx,Xi];simp [h]
theorem HW {ds:List Zd} {t:Int} (h:¬(1<=t/\t<=ds.length)):false=WE ds t:=by
 rw [WE,Xi];simp only [Bool.false_eq_true,W4,decide_eq_true_eq,h,false_and]
def VC (m:Nat) (xs:LI):Bool:=xs.all fun t=>decide (0<=t/\t<=m)
end Go.Abs
section
namespace Go.Abs
section
variable {h:List Res}
end
end Go.Abs
namespace Go.Abs
section
variable {P:Program} {ops:Array Oper} {k:Nat} {F:Fr} {h:List Res}
end
end Go.Abs
end
namespace Go.Abs
section
variable {P:Program} {n:Nat} {ops:Array Oper} {B:Fr->List Res->Prop} {k:Nat} {F:Fr} {h:List Res} {T:List (Nat × List Nat)} {fuel:Nat} {done:List Nat}
theorem IF {K:Fr->List Res->Prop} {ls:List AV} {len sz:Nat} (hd:WD n (Zx ops k)=true) (ha:VY P ops F k=some (ls,len,sz)) (hlen:ls.length=len*sz)
  (hK:∀g,K (F.put (Zx ops k).dst (.val (.slice (some ⟨g,0,none⟩) len len))) (.row (.slice (some ⟨g,0,none⟩) len len) sz ls::h)):XW P n (Zx ops k) F h K:=by
 unfold VY at ha
 generalize hoo:Zx ops k=q at ha hd hK
 obtain ⟨dst,op,type,pos,after,guard⟩:=q
 cases op<;>simp only at ha<;>try (cases ha)
 rename_i t ln parts
 split at ha
 case h_2=>cases ha
 rename_i e ht
 split at ha
 case h_2=>cases ha
 rename_i i hi
 split at ha
 case h_2=>cases ha
 rename_i hc
 simp only [W4] at hc
 split at ha
 case h_2=>cases ha
 rename_i ls' hf
 simp only [Xz,Prod.mk.injEq] at ha
 obtain ⟨rfl,rfl,YW⟩:=ha
 intro Q w G a hF hh
 obtain ⟨cs,h1,h2⟩:=Dd hF parts ht hi rfl hc.1 hc.2 hf
 have hr:(execOp a.eval { dst:=dst,op:=.buildSlice t ln parts,type:=type,pos:=pos,after:=after,guard:=guard }).run P w =
   .ok (.value (.slice (some ⟨w.heap.size,0,none⟩) ln ln)) (w.alloc (.cells cs e)):=by
  simp only [execOp]
  exact WF h2
 unfold Oper.wp
 rw [hr]
 have hlc:=h1.length
 simp only [Q6] at hlc
 obtain ⟨j1,j2⟩:=hh.alloc_rrow cs e (ls:=ls') (len:=ln) (cap:=ln) (k:=sz) (YI _) (by rw [hlc];exact hlen) hlen (by rw [<-hlen,<-hlc];simpa [Vo] using h1)
 exact ⟨_,_,G,hK _,(hF.mono (j2.agree hh)).put (Ud hd) .val,j1,j2⟩
theorem Vj (es es':List AV) (he:es=es') (len sz:Nat) (hK:∀v,SI P n ops B (k+1) (F.put (Zx ops k).dst (.sl es' (some v))) (.tail v sz::h)) (hk:YK n ops F k=true:=by kernel_rfl)
  (ha:VY P ops F k=some (Zc es,len,sz):=by kernel_rfl) (hlen:es.length=len:=by kernel_rfl) (hall:K0 es sz=true:=by kernel_rfl):SI P n ops B k F h:=by
 subst he;exact iL es len sz hK hk ha hlen hall
theorem XP (i:Nat) (js bs:List Nat) (es es':List AV) (he:es=es') (len sz:Nat) (hK:∀v,Yz P n ops B (T.filter fun t=>!Wa ops i t.1) fuel (done++[i]) (F.put (Zx ops i).dst (.sl es' (some v))) (.tail v sz::h))
  (hk:YK n ops F i=true:=by kernel_rfl) (ha:VY P ops F i=some (Zc es,len,sz):=by kernel_rfl) (hlen:es.length=len:=by kernel_rfl) (hall:K0 es sz=true:=by kernel_rfl)
  (ho:WX ops i T=bs:=by kernel_rfl) (hj:js.map (fun j=>(XT h)[j]?)=bs.map some:=by kernel_rfl):Wu P n ops B T fuel done F h i:=by
 subst he;exact dL i js bs es len sz hK hk ha hlen hall ho hj
theorem Rl (ls:List AV) (len sz:Nat) (hK:∀g,SI P n ops B (k+1) (F.put (Zx ops k).dst (.val (.slice (some ⟨g,0,none⟩) len len))) (.row (.slice (some ⟨g,0,none⟩) len len) sz ls::h)) (hlen:ls.length=len*sz:=by rfl) (hk:YK n ops F k=true:=by kernel_rfl)
  (ha:VY P ops F k=some (ls,len,sz):=by kernel_rfl):SI P n ops B k F h:=UO hk (IF (V3 hk).2.1 ha hlen hK)
theorem O1 (i:Nat) (js bs:List Nat) (ls:List AV) (len sz:Nat) (hK:∀g,Yz P n ops B (T.filter fun t=>!Wa ops i t.1) fuel (done++[i]) (F.put (Zx ops i).dst (.val (.slice (some ⟨g,0,none⟩) len len))) (.row (.slice (some ⟨g,0,none⟩) len len) sz ls::h)) (hlen:ls.length=len*sz:=by rfl)
  (hk:YK n ops F i=true:=by kernel_rfl) (ha:VY P ops F i=some (ls,len,sz):=by kernel_rfl) (ho:WX ops i T=bs:=by kernel_rfl) (hj:js.map (fun j=>(XT h)[j]?)=bs.map some:=by kernel_rfl):Wu P n ops B T fuel done F h i:=
 TQ (h1:=[]) (h2:=h) [] js bs hk rfl ho hj (IF (V3 hk).2.1 ha hlen hK)
end
theorem XN.frz {P:Program} {f:FuncId} {as1:List AV} {h0:List Res} {E:Type} {kk:Nat} {es:E->List AV} {hs:E->List Res} {Q:E->Prop} (H:XN P f as1 h0 (fun r h=>∃(e:E) (v:Hd),r=.h v/\h=rK v kk (Zc (es e))::hs e/\Q e)) (hes:∀e,∀y∈es e,y.leaves.length=kk) (hk:0<kk) :
  XN P f as1 h0 (fun r h=>∃(e:E) (v:Value),r=.sl (es e) (some v)/\h=.tail v kk::hs e/\Q e):=by
 intro w G vs hv hh
 refine (H w G vs hv hh).mono ?_
 rintro e w' ⟨u,r,h',G',he,⟨x,v,rfl,rfl,hq⟩,hr,hh',hx⟩
 obtain ⟨G2,h1,h2,h3⟩:=AF hh' (hes x) hk
 have hrv:=hr.val_inv
 subst hrv
 exact ⟨_,_,_,G2,he,⟨x,v.v,rfl,rfl,hq⟩,h3,h1,hx.trans h2⟩
theorem Cu {es:List AV} {sz k:Nat} {y:AV} (h:∀x∈es,x.leaves.length=sz) (hy:y.leaves.length=sz) (hk:k<es.length):(Zc es).take (k*sz)++y.leaves++(Zc es).drop (k*sz+y.leaves.length)=Zc (es.set k y):=by
 obtain ⟨x,hx⟩:=Bi (xs:=es) (j:=k) hk
 have hxl:=h x (ZU hx)
 have e1:es=es.take k++(x::es.drop (k+1)):=by rw [<-Ye hx,U1]
 have e2:es.set k y=es.take k++(y::es.drop (k+1)):=by rw [C1,Zw hk]
 have hl:(Zc (es.take k)).length=k*sz:=by rw [U5 (k:=sz) _ (fun z hz=>h z (Tl hz)),W8,WS om]
 have e3:Zc es=Zc (es.take k)++(x.leaves++Zc (es.drop (k+1))):=by
  conv=>lhs;rw [e1,UL]
  simp [Zc]
 rw [e2,UL,e3,Fo hl (by rw [hxl,hy])]
 simp [Zc]
theorem Ot (ds:List Zd) (k:Nat) (d:Zd):YM (ds.set k d)=(YM ds).set k (AZ d):=by simp [YM,List.map_set]
theorem JE (xs:List Zd):(Zc (YM xs)).length=xs.length*3:=by rw [U5 (k:=3) _ (Ka xs)];simp
theorem Cq {ds:List Zd} {k:Nat} (d:Zd) (hk:k<ds.length):(Zc (YM ds)).take (k*3)++EZ d++(Zc (YM ds)).drop (k*3+3)=Zc (YM (ds.set k d)):=by
 rw [Ot];exact Cu (y:=AZ d) (Ka ds) rfl (by simpa using hk)
theorem Eu (xs ys:List Zd):Zc (YM xs)++Zc (YM ys)=Zc (YM (xs++ys)):=by rw [Oq,UL]
section
variable {P:Program} {n:Nat} {ops:Array Oper} {B:Fr->List Res->Prop} {k:Nat} {F:Fr} {h:List Res}
theorem CD (j m:Nat) {v:Hd} {kk:Nat} {ls:List AV} (hm:ls.length=m*kk) (h0:0<m) (H:∀g c',v=⟨some ⟨g,0,none⟩,m,c'⟩->SI P n ops B k F h) (hk:0<kk:=by omega) (hj:h[j]? = some (rK v kk ls):=by kernel_rfl):SI P n ops B k F h:=by
 intro Q w G a hF hh hq
 obtain ⟨g,c',e⟩:=Lc (hh.ok _ (ZU hj)) hm hk h0
 exact H g c' e Q w G a hF hh hq
end
section
variable {P:Program} {n:Nat} {ops:Array Oper} {B:Fr->List Res->Prop} {k:Nat} {F:Fr} {h:List Res}
def E4 (P:Program) (ops:Array Oper) (F:Fr) (k:Nat):Option (IntKind × Int):=
 match (Zx ops k).op with
 | .convert s d x=>match P.underlying s,P.underlying d,F.ev x with
  | some (.int _),some (.int q),.val (.int _ z)=>some (q,z)
  | _,_,_=>none
 | _=>none
theorem RW (q:IntKind) (z z':Int) (e:q.wrap z=z') (hc:E4 P ops F k=some (q,z):=by kernel_rfl):Xy P (Zx ops k) F h [] (.val (.int q z')):=by
 unfold E4 at hc
 generalize hoo:Zx ops k=o at hc
 obtain ⟨dst,op,type,pos,after,guard⟩:=o
 cases op<;>simp only at hc<;>try (cases hc)
 rename_i s d x
 split at hc
 ·rename_i q1 q2 q3 z2 h1 h2 h3
  cases hc
  intro n w G ac hF hh
  have v1:=hF.ev x
  rw [h3] at v1
  have v1:=v1.val_inv
  refine ⟨_,.val,fun w' _ _=>?_⟩
  simp only [execOp,v1]
  refine WF ?_
  simp [convert,Vl h1,Vl h2,Conv.intToInt,e]
 ·cases hc
theorem G3 {z:Int} (h:0<=z/\z<=9223372036854775807):IntKind.i64.wrap z=z:=IntWalk.i64_in _ om
theorem Av (z:Int) (hz:0<=z/\z<=255) (hc:E4 P ops F k=some (.i64,z):=by kernel_rfl):Xy P (Zx ops k) F h [] (.i z):=RW .i64 z z (G3 om) hc
def KP (ops:Array Oper) (F:Fr) (k:Nat) (b:BinOp):Option (Int × Int):=
 match (Zx ops k).op with
 | .binOp c _ x y _=>if c==b then match F.ev x,F.ev y with
  | .val (.int .i64 z),.val (.int .i64 u)=>some (z,u)
  | _,_=>none else none
 | _=>none
theorem EU (a b:Int) (hb:0<b) (ha:0<=a/\a<=9223372036854775807) (hc:KP ops F k .quo=some (a,b):=by kernel_rfl):Xy P (Zx ops k) F h [] (.i (a / b)):=by
 unfold KP at hc
 generalize hoo:Zx ops k=o at hc
 obtain ⟨dst,op,type,pos,after,guard⟩:=o
 cases op<;>simp only at hc<;>try (cases hc)
 rename_i bop t x y yt
 cases bop<;>simp only [Zz,reduceCtorEq,if_false,if_true] at hc<;>try (cases hc)
 split at hc
 ·rename_i z yk h1 h2
  cases hc
  intro n' w G ac hF hh
  have v1:=hF.ev x
  have v2:=hF.ev y
  rw [h1] at v1
  rw [h2] at v2
  have v1:=v1.val_inv
  have v2:=v2.val_inv
  refine ⟨_,.val,fun w' _ _=>?_⟩
  simp only [execOp,v1,v2]
  refine WF ?_
  have e1:a.tdiv b=a / b:=Int.tdiv_eq_ediv_of_nonneg ha.1
  have e2:IntKind.i64.wrap (a / b)=a / b:=G3 ⟨Int.ediv_nonneg ha.1 om,Int.le_trans (Int.ediv_le_self b ha.1) ha.2⟩
  have e3:b≠0:=by omega
  simp [eqGuard,binOp,Op.intDiv,e1,e2,e3]
 ·cases hc
theorem Bs (a b:Int) (hb:0<b) (ha:0<=a) (hc:KP ops F k .rem=some (a,b):=by kernel_rfl):Xy P (Zx ops k) F h [] (.i (a % b)):=by
 unfold KP at hc
 generalize hoo:Zx ops k=o at hc
 obtain ⟨dst,op,type,pos,after,guard⟩:=o
 cases op<;>simp only at hc<;>try (cases hc)
 rename_i bop t x y yt
 cases bop<;>simp only [Zz,reduceCtorEq,if_false,if_true] at hc<;>try (cases hc)
 split at hc
 ·rename_i z yk h1 h2
  cases hc
  intro n' w G ac hF hh
  have v1:=hF.ev x
  have v2:=hF.ev y
  rw [h1] at v1
  rw [h2] at v2
  have v1:=v1.val_inv
  have v2:=v2.val_inv
  refine ⟨_,.val,fun w' _ _=>?_⟩
  simp only [execOp,v1,v2]
  refine WF ?_
  have e1:a.tmod b=a % b:=Int.tmod_eq_emod_of_nonneg ha
  have e3:b≠0:=by omega
  simp [eqGuard,binOp,Op.intDiv,e1,e3]
 ·cases hc
theorem JM (a b:Nat) (hb:0<b) (ha:a<=9223372036854775807) (hc:KP ops F k .quo=some ((a:Int),(b:Int)):=by kernel_rfl):Xy P (Zx ops k) F h [] (.i (a / b:Nat)):=by
 rw [Int.natCast_ediv];exact EU a b om om hc
theorem CJ (a b:Nat) (hb:0<b) (_ha:a<=9223372036854775807) (hc:KP ops F k .rem=some ((a:Int),(b:Int)):=by kernel_rfl):Xy P (Zx ops k) F h [] (.i (a % b:Nat)):=by
 rw [Int.natCast_emod];exact Bs a b om om hc
def Kz (a b:Int):Int:=IntKind.i64.wrap ((BitVec.ofInt 64 a ^^^ BitVec.ofInt 64 b).toNat:Int)
theorem Dz {a b:Int} (ha:0<=a/\a<4611686018427387904) (hb:0<=b/\b<4611686018427387904):0<=Kz a b/\Kz a b<4611686018427387904:=by
 obtain ⟨x,rfl⟩:=Int.eq_ofNat_of_zero_le ha.1
 obtain ⟨y,rfl⟩:=Int.eq_ofNat_of_zero_le hb.1
 have h1:(BitVec.ofInt 64 (x:Int) ^^^ BitVec.ofInt 64 (y:Int)).toNat=x ^^^ y:=by
  rw [BitVec.toNat_xor,BitVec.toNat_ofInt,BitVec.toNat_ofInt]
  have e1:((x:Int) % ((2 ^ 64:Nat):Int)).toNat=x:=by omega
  have e2:((y:Int) % ((2 ^ 64:Nat):Int)).toNat=y:=by omega
  rw [e1,e2]
 have h2:x ^^^ y<2 ^ 62:=Nat.xor_lt_two_pow om om
 rw [Kz,h1,G3 om]
 omega
theorem HZ (a b:Int) (hc:KP ops F k .xor=some (a,b):=by kernel_rfl):Xy P (Zx ops k) F h [] (.i (Kz a b)):=by
 unfold KP at hc
 generalize hoo:Zx ops k=o at hc
 obtain ⟨dst,op,type,pos,after,guard⟩:=o
 cases op<;>simp only at hc<;>try (cases hc)
 rename_i bop t x y yt
 cases bop<;>simp only [Zz,reduceCtorEq,if_false,if_true] at hc<;>try (cases hc)
 split at hc
 ·rename_i z yk h1 h2
  cases hc
  intro n' w G ac hF hh
  have v1:=hF.ev x
  have v2:=hF.ev y
  rw [h1] at v1
  rw [h2] at v2
  have v1:=v1.val_inv
  have v2:=v2.val_inv
  refine ⟨_,.val,fun w' _ _=>?_⟩
  simp only [execOp,v1,v2]
  refine WF ?_
  simp [eqGuard,binOp,Op.intBits,IntKind.bits]
  exact Yg (fun z:Nat=>IntKind.i64.wrap (z:Int)) (by rw [BitVec.toNat_xor,BitVec.toNat_ofInt,BitVec.toNat_ofInt];rfl)
 ·cases hc
end
end Go.Abs
section
namespace Go.Abs
inductive Z1 where
 | mk (op num:Int) (kids:List Z1)
namespace Z1
def op:Z1->Int|.mk a _ _=>a
def num:Z1->Int|.mk _ a _=>a
def kids:Z1->List Z1|.mk _ _ a=>a
end Z1
structure Func where
 params:LI
 result:Int
 body:Z1
structure Xv where
 decls:List Zd
 funcs:List Func
instance:Inhabited Z1:=⟨.mk 0 0 []⟩
mutual
def Ej:Z1->AV
 | .mk op num kids=>.agg [.i op,.i num,.sl (Y3 kids) none]
def Y3:List Z1->List AV
 | []=>[]
 | e::r=>Ej e::Y3 r
end
abbrev ZL (e:Z1):AV:=.agg [.i e.op,.i e.num,.sl (Y3 e.kids) none]
abbrev Yt (e:Z1):List AV:=[.i e.op,.i e.num,.sl (Y3 e.kids) none]
abbrev YY (xs:List Z1):AV:=.sl (Y3 xs) none
abbrev UR (xs:List Z1) (v:Value):AV:=.sl (Y3 xs) (some v)
abbrev B0 (f:Func):AV:=.agg [Z5 f.params,.i f.result,.i f.body.op,.i f.body.num,YY f.body.kids]
abbrev CO (f:Func):List AV:=[Z5 f.params,.i f.result,.i f.body.op,.i f.body.num,YY f.body.kids]
def YS (xs:List Func):List AV:=xs.map B0
abbrev CW (xs:List Func):AV:=.sl (YS xs) none
abbrev QZ (p:Xv):AV:=.agg [YB p.decls,CW p.funcs]
abbrev F3 (p:Xv):List AV:=[YB p.decls,CW p.funcs]
abbrev DM (z:Int):AV:=.val (.int .u8 z)
def Uf (xs:LI):List AV:=xs.map DM
abbrev WW (xs:LI):AV:=.sl (Uf xs) none
theorem Ou (e:Z1):Ej e=ZL e:=by cases e;rw [Ej];rfl
theorem X9:∀xs:List Z1,Y3 xs=xs.map ZL
 | []=>by rw [Y3];rfl
 | s::ss=>by rw [Y3,X9 ss,Ou];rfl
theorem Aj {xs:List Z1} {j:Nat} {x:Z1} (h:xs[j]? = some x):(Y3 xs)[j]? = some (ZL x):=by simp [X9,h]
theorem Ci {xs:List Func} {j:Nat} {x:Func} (h:xs[j]? = some x):(YS xs)[j]? = some (B0 x):=by simp [YS,h]
theorem Ai {xs:LI} {j:Nat} {x:Int} (h:xs[j]? = some x):(Uf xs)[j]? = some (DM x):=by simp [Uf,h]
@[simp] theorem Ek (xs:List Z1):(Y3 xs).length=xs.length:=by simp [X9]
@[simp] theorem Ak (xs:List Func):(YS xs).length=xs.length:=by simp [YS]
@[simp] theorem TR (xs:LI):(Uf xs).length=xs.length:=by simp [Uf]
theorem QB (xs ys:List Z1):Y3 (xs++ys)=Y3 xs++Y3 ys:=by simp [X9]
theorem Ov (xs ys:List Func):YS (xs++ys)=YS xs++YS ys:=by simp [YS]
theorem Ef (xs:LI) (n:Nat):(Uf xs).take n=Uf (xs.take n):=by simp [Uf]
theorem Ee (xs:LI) (n:Nat):(Uf xs).drop n=Uf (xs.drop n):=by simp [Uf]
theorem VF (xs:List Z1):∀y∈Y3 xs,y.leaves.length=3:=by intro y hy;simp only [X9,W5] at hy;obtain ⟨x,_,rfl⟩:=hy;rfl
theorem Cj (xs:List Func):∀y∈YS xs,y.leaves.length=5:=by intro y hy;simp only [YS,W5] at hy;obtain ⟨x,_,rfl⟩:=hy;rfl
theorem On (xs:LI):∀y∈Uf xs,y.leaves.length=1:=by intro y hy;simp only [Uf,W5] at hy;obtain ⟨x,_,rfl⟩:=hy;rfl
theorem QC (xs:List Z1):(Zc (Y3 xs)).all AV.one=true:=Ke fun y hy=>by simp only [X9,W5] at hy;obtain ⟨x,_,rfl⟩:=hy;rfl
end Go.Abs
end
section
namespace Go.Abs
open Go.Proofs Go.Proofs.YthllacimcjakdaaGreat
section
variable {H:Type} {enc:TypeId × Value->H} {w:World}
def GA (w:World):ZV:=fun b _=>b<w.heap.size
abbrev Tr (enc:TypeId × Value->H) (w:World) (n:Nat) (t:TypeId) (cs:List Value) (x:DataW H × List MemPlace):Prop:=DataW.trod enc Tryz.prog w 0 (fun _=>true) true n t cs=some x
theorem Ik {w:World} {a:Addr} {v:Value} (h:w.cell? a=some v):a.block<w.heap.size/\a.spot=none:=by
 unfold World.cell? at h
 split at h
 ·rename_i c e fr hb
  split at h
  ·cases h
  ·rename_i hs
   exact ⟨(V8.1 hb).1,by simpa using hs⟩
 ·cases h
theorem Gu {α:Type} {c:α->Nat}:∀{xs:List α} {ds:List (DataW H)},xs.length=ds.length->(∀(i:Nat) a d,xs[i]? = some a->ds[i]? = some d->c a+1<=Rows.uptoBulk d)->(xs.map fun a=>c a+1).sum<=Rows.uptoBulkAll ds
 | [],[],_,_=>YI _
 | a::r,d::ds,hl,h=>by
  have h0:=h 0 a d rfl rfl
  have h1:=Gu (c:=c) (xs:=r) (ds:=ds) (by simpa using hl) fun i a d ha hd=>h (i+1) a d (by simpa using ha) (by simpa using hd)
  rw [VQ,List.sum_cons,Rows.uptoBulkAll]
  omega
theorem L0 {α:Type} {f:α->AV} {G:ZV} {k b:Nat} (hf:∀x,(f x).leaves.length=k):∀{xs:List α} {o:Nat},(∀(i:Nat) a,xs[i]? = some a->XJ w G b (o+i*k) (f a).leaves)->Wh w G k b o (xs.map f)
 | [],_,_=>.nil
 | x::r,o,h=>by
  refine .cons (hf x) (by have:=h 0 x rfl;simpa using this) (L0 hf fun i a ha=>?_)
  have:=h (i+1) a (by simpa using ha)
  rw [show o+(i+1)*k=o+k+i*k by rw [UJ];omega] at this
  exact this
theorem Z0f {α:Type} [Inhabited α] {t e k:Nat} (ht:Tryz.prog.underlying t=some (.slice e)) (hk:Tryz.prog.cellsOf e=k) (h0:0<k) (f:α->AV) (hf:∀x,(f x).leaves.length=k) (c:α->Nat) (Q:α->Prop) {n:Nat} {cs:List Value} {x:DataW H × List MemPlace}
  (h:Tr enc w n t cs x) (el:∀m cs y,m<n->Tr enc w m e cs y->∃a:α,Yp w (GA w) (f a).leaves cs/\c a+1<=Rows.uptoBulk y.1/\Q a) :
  ∃(v:Value) (xs:List α),cs=[v]/\RV w (GA w) (.sl (xs.map f) none) v/\(xs.map fun a=>c a+1).sum+1<=Rows.uptoBulk x.1/\∀a∈xs,Q a:=by
 rcases DataW.trod_slice ht h with ⟨rfl,rfl⟩|⟨a,len,cap,elems,rest,m,rfl,rfl,rfl,_,hlc,_,hlen,hel,_,_⟩
 ·exact ⟨_,[],rfl,.nil (by simp),by simp [Rows.uptoBulk],by simp⟩
 ·rw [hk] at hel
  have hone:∀i,i<len->∃z:α,∃cs' y,w.cells? 0 (a.add (i*k)) k=some cs'/\elems[i]? = some y/\Yp w (GA w) (f z).leaves cs'/\c z+1<=Rows.uptoBulk y.1/\Q z:=by
   intro i hi
   have h1:=hel i hi
   rw [TG om] at h1
   obtain ⟨cs',h2,h3⟩:=Option.bind_eq_some_iff.1 h1
   obtain ⟨z,hz1,hz2,hz3⟩:=el m cs' _ om h3
   exact ⟨z,cs',_,h2,TG om,hz1,hz2,hz3⟩
  obtain ⟨V,hV⟩:=Go.Deep.choose_lt hone
  refine ⟨_,(List.range len).map V,rfl,?_,?_,?_⟩
  ·cases hl0:len with
   | zero=>exact .nil (by simp)
   | succ q=>
    have hsp:a.spot=none:=by
     obtain ⟨cs',y,g1,_⟩:=hV 0 om
     obtain ⟨_,g2,g3⟩:=World.cells?_some g1
     have g4:=g3 0 h0
     rw [TG om] at g4
     have g5:=(Ik g4).2
     simpa [Addr.add] using g5
    obtain ⟨b,o,sp⟩:=a
    simp only at hsp
    subst hsp
    rw [<-hl0]
    have hll:(((List.range len).map V).map f).length=len:=by simp
    have:=RV.sl (w:=w) (G:=GA w) (es:=((List.range len).map V).map f) (hv:=none) (b:=b) (o:=o) (k:=k) (cap:=cap) (by simp) (by rw [hll];exact hlc) (L0 hf fun i z hz=>by
     have hi:i<len:=by have:=(Xj.1 hz).1;simpa using this
     have hz':V i=z:=by simpa [hi] using hz
     obtain ⟨cs',y,g1,_,g2,_⟩:=hV i hi
     rw [hz'] at g2
     obtain ⟨_,g3,g4⟩:=World.cells?_some g1
     refine XJ.of_cells g2 fun j u hj=>?_
     have hjl:j<k:=by have:=(Xj.1 hj).1;omega
     have g5:=(g4 j hjl).trans hj
     rw [Addr.add_lit,Addr.add_lit] at g5
     exact ⟨g5,(Ik g5).1⟩)
    rw [hll] at this
    exact this
  ·have:=Gu (c:=c) (xs:=(List.range len).map V) (ds:=elems.map (·.1)) (by simp [hlen]) fun i z d hz hd=>by
    have hi:i<len:=by have:=(Xj.1 hz).1;simpa using this
    have hz':V i=z:=by simpa [hi] using hz
    obtain ⟨cs',y,_,g1,_,g2,_⟩:=hV i hi
    rw [Qo,g1] at hd
    simp only [AW,Xz] at hd
    rw [<-hd,<-hz']
    exact g2
   simp only [Rows.uptoBulk]
   omega
  ·intro z hz
   obtain ⟨i,hi,rfl⟩:=W5.1 hz
   obtain ⟨_,_,_,_,_,_,g⟩:=hV i (List.mem_range.1 hi)
   exact g
theorem Z0d {n:Nat} {cs:List Value} {x:DataW H × List MemPlace} (h:Tr enc w n 5 cs x):∃z:Int,cs=[.int .u8 z]/\Rows.uptoBulk x.1=1/\0<=z/\z<=255:=by
 obtain ⟨z,rfl,rfl,hw⟩:=DataW.trod_int Tryz.underlying5 h
 refine ⟨z,rfl,rfl,?_⟩
 simpa [Lit.wf,IntKind.min,IntKind.max,IntKind.signed,IntKind.bits] using hw
theorem Z0e {n:Nat} {cs:List Value} {x:DataW H × List MemPlace} (h:Tr enc w n 22 cs x):∃(v:Value) (xs:LI),cs=[v]/\RV w (GA w) (WW xs) v/\∀z∈xs,0<=z/\z<=255:=by
 obtain ⟨v,xs,h1,h2,h3,h4⟩:=Z0f Tryz.underlying22 (k:=1) kr om (fun z:Int=>DM z) (fun _=>rfl) (fun _=>0) (fun z=>0<=z/\z<=255) h fun m cs y _ hy=>by
  obtain ⟨z,rfl,hb,hz⟩:=Z0d hy
  exact ⟨z,.cons .val .nil,Nat.le_of_eq hb.symm,hz⟩
 exact ⟨v,xs,h1,h2,h4⟩
end
end Go.Abs
end
namespace Go.Abs
structure Sg where
 params:LI
 result:Int
abbrev Ga (f:Sg):AV:=.agg [.sl (Z7 f.params) none,.i f.result,.i 0,.i 0,.sl [] none]
def V0 (fs:List Sg):List AV:=fs.map Ga
theorem En {xs:List Sg} {j:Nat} {x:Sg} (h:xs[j]? = some x):(V0 xs)[j]? = some (Ga x):=by simp [V0,h]
@[simp] theorem GV (xs:List Sg):(V0 xs).length=xs.length:=by simp [V0]
theorem GU (xs:List Sg):∀y∈V0 xs,y.leaves.length=5:=by intro y hy;simp only [V0,W5] at hy;obtain ⟨x,_,rfl⟩:=hy;rfl
theorem Oy (xs:List Sg):(Zc (V0 xs)).all AV.one=true:=Ke fun y hy=>by simp only [V0,W5] at hy;obtain ⟨x,_,rfl⟩:=hy;rfl
mutual
def Z3.sz:Z3->Nat
 | .mk _ _ _ args kids=>1+args.length+YF kids
def Z4.sz:Z4->Nat
 | .mk steps _=>1+Y5 steps
def Y5:List Z3->Nat
 | []=>0
 | s::r=>s.sz+Y5 r
def YF:List Z4->Nat
 | []=>0
 | b::r=>b.sz+YF r
end
theorem Z3.sz_pos (s:Z3):1<=s.sz:=by cases s;rw [Z3.sz];omega
theorem Z4.sz_pos (b:Z4):1<=b.sz:=by cases b;rw [Z4.sz];omega
theorem Qi (l:List Z3):l.length<=Y5 l:=by
 induction l with
 | nil=>simp
 | cons s r ih=>have:=s.sz_pos;simp only [Yw,Y5];omega
theorem Nq (l:List Z4):l.length<=YF l:=by
 induction l with
 | nil=>simp
 | cons s r ih=>have:=s.sz_pos;simp only [Yw,YF];omega
theorem Z2t {l:List Z3} {k:Nat} {s:Z3} (h:l[k]? = some s):s.sz<=Y5 l:=by
 induction l generalizing k with
 | nil=>simp at h
 | cons t r ih=>
  cases k with
  | zero=>simp at h;subst h;simp only [Y5];omega
  | succ k=>have:=ih (k:=k) (by simpa using h);simp only [Y5];omega
theorem Nn {l:List Z4} {k:Nat} {s:Z4} (h:l[k]? = some s):s.sz<=YF l:=by
 induction l generalizing k with
 | nil=>simp at h
 | cons t r ih=>
  cases k with
  | zero=>simp at h;subst h;simp only [YF];omega
  | succ k=>have:=ih (k:=k) (by simpa using h);simp only [YF];omega
theorem Z3.sz_eq (s:Z3):s.sz=1+s.args.length+YF s.kids:=by cases s;rw [Z3.sz];rfl
theorem Z4.sz_eq (b:Z4):b.sz=1+Y5 b.steps:=by cases b;rw [Z4.sz];rfl
theorem Q3 {b:Z4} {k:Nat} {s:Z3} (h:b.steps[k]? = some s):s.sz<b.sz:=by have:=Z2t h;have:=b.sz_eq;omega
theorem VW {s:Z3} {k:Nat} {b:Z4} (h:s.kids[k]? = some b):b.sz<s.sz:=by have:=Nn h;have:=s.sz_eq;omega
theorem Tp (s:Z3):s.args.length<s.sz:=by have:=s.sz_eq;omega
theorem U8 (s:Z3):s.kids.length<s.sz:=by have:=s.sz_eq;have:=Nq s.kids;omega
theorem WQ (b:Z4):b.steps.length<b.sz:=by have:=b.sz_eq;have:=Qi b.steps;omega
structure Jo (ds:List Zd):Prop where
 len:ds.length<=4194304
 cons:∀d∈ds,d.cons.length<=4194304
 fields:∀d∈ds,∀c∈d.cons,c.fields.length<=4194304
theorem Jo.cons_at {ds:List Zd} (h:Jo ds) {k:Nat} {d:Zd} (hd:ds[k]? = some d):d.cons.length<=4194304:=h.cons d (ZU hd)
def Ad (m:Nat) (c:Y0):Bool:=decide (c.fields.length<=3)&&VC m c.fields
def Jy (d:Zd):List Zd->Bool
 | []=>false
 | e::r=>if e.cons.length=0/\e.frm=d.frm/\e.to_=d.to_ then true else Jy d r
def Q8 (m:Nat):List Y0->Bool
 | []=>true
 | c::r=>if Ad m c=true then Q8 m r else false
def K8 (ds:List Zd) (d:Zd) (i:Nat):Bool:=
 if 0<d.cons.length then (if d.cons.length<=3/\d.frm=0/\d.to_=0 then Q8 ds.length d.cons else false)
 else if Jy d (ds.take i)=true then false else decide (0<=d.frm/\d.frm<=ds.length)&&decide (0<=d.to_/\d.to_<=ds.length)
def Jw (ds:List Zd) (i:Nat):Bool:=(ds[i]?.map fun d=>K8 ds d i).getD false
theorem GO {ds:List Zd} {i:Nat} {d:Zd} (h:ds[i]? = some d):Jw ds i=K8 ds d i:=by rw [Jw,h];rfl
def Qz (ds:List Zd):List Zd->Nat->Bool
 | [],_=>true
 | _::r,i=>if Jw ds i=true then Qz ds r (i+1) else false
def TF (ds:List Zd):Bool:=decide (ds.length<=4)&&Qz ds ds 0
theorem NS {m:Nat} {cs:List Y0}:Q8 m cs=true↔∀c∈cs,Ad m c=true:=by
 induction cs with
 | nil=>simp [Q8]
 | cons c r ih=>
  rw [Q8]
  split
  ·rename_i h;simp [ih,h]
  ·rename_i h;simp [h]
theorem GQ {ds:List Zd}:∀{l:List Zd} {i:Nat},Qz ds l i=true↔∀j<l.length,Jw ds (i+j)=true
 | [],i=>by simp [Qz]
 | d::r,i=>by
  rw [Qz]
  split
  ·rename_i h
   rw [GQ (l:=r)]
   constructor
   ·intro hq j hj
    cases j with
    | zero=>exact h
    | succ j=>have:=hq j (by simpa using hj);rwa [show i+(j+1)=i+1+j by omega]
   ·intro hq j hj
    have:=hq (j+1) (by simpa using hj)
    rwa [show i+(j+1)=i+1+j by omega] at this
  ·rename_i h
   simp only [Bool.false_eq_true,false_iff]
   intro hq
   exact h (hq 0 (by simp))
theorem Z3z {ds:List Zd} (h:TF ds=true):Wg ds:=by
 simp only [TF,W4,decide_eq_true_eq] at h
 obtain ⟨h1,h2⟩:=h
 rw [GQ] at h2
 have key:∀d∈ds,∃i,K8 ds d i=true:=fun d hd=>by
  obtain ⟨i,hi⟩:=List.mem_iff_getElem?.1 hd
  have:=h2 i (Xj.1 hi).1
  rw [Wc,GO hi] at this
  exact ⟨i,this⟩
 have hc:∀d∈ds,0<d.cons.length->d.cons.length<=3/\Q8 ds.length d.cons=true:=fun d hd hp=>by
  obtain ⟨i,hi⟩:=key d hd
  rw [K8,Zw hp] at hi
  split at hi
  ·rename_i h;exact ⟨h.1,hi⟩
  ·cases hi
 refine ⟨h1,fun d hd=>?_,fun d hd c hc'=>?_⟩
 ·by_cases hp:0<d.cons.length
  ·exact (hc d hd hp).1
  ·omega
 ·have:=NS.1 (hc d hd (List.length_pos_of_mem hc')).2 c hc'
  simp only [Ad,W4,decide_eq_true_eq] at this
  exact this.1
def JV (m:Nat) (f:Sg):Bool:=decide (f.params.length<=3)&&(VC m f.params&&decide (0<=f.result/\f.result<=m))
def Kv (m:Nat):List Sg->Bool
 | []=>true
 | f::r=>if JV m f=true then Kv m r else false
def Ha:List Sg->Bool
 | []=>false
 | f::_=>decide (f.params.length=0)&&decide (f.result=0)
theorem OM {fs:List Sg} {x:Sg} (h:fs[0]? = some x):Ha fs=(decide (x.params.length=0)&&decide (x.result=0)):=by
 cases fs with
 | nil=>simp at h
 | cons f r=>simp at h;subst h;rfl
def Ql (ds:List Zd) (fs:List Sg):Bool:=
 TF ds&&(decide (1<=fs.length/\fs.length<=4)&&(Kv ds.length fs&&Ha fs))
def Kn (ps:LI):LI->Option Int->Bool
 | [],_=>true
 | v::r,prev=>if (0<=v/\v<=(ps.length:Int)-1)/\ps[v.toNat]?≠some 0/\(∀p,prev=some p->p<v) then Kn ps r (some v) else false
theorem Ii {ps r:LI} {v:Int} {prev:Option Int} (h:(0<=v/\v<=(ps.length:Int)-1)/\ps[v.toNat]?≠some 0/\(∀p,prev=some p->p<v)):Kn ps (v::r) prev=Kn ps r (some v):=by
 rw [Kn,Zw h]
theorem F8 {ps r:LI} {v:Int} {prev:Option Int} (h:¬((0<=v/\v<=(ps.length:Int)-1)/\ps[v.toNat]?≠some 0/\(∀p,prev=some p->p<v))):Kn ps (v::r) prev=false:=by
 rw [Kn,Zs h]
def BS (ps ls:LI):Bool:=Kn ps ls none
def JO:List Y1->Bool
 | []=>true
 | r::rs=>if BS r.params r.lent=true then JO rs else false
def Uo (r:Y1):Sg:=⟨r.params,r.result⟩
def QJ (n:Zu):Bool:=decide (n.routines.length<=4)&&(Ql n.decls (n.routines.map Uo)&&JO n.routines)
end Go.Abs
section
namespace Go.Abs
def Va {α:Type} (xs:List α) (i:Int):Option α:=if 0<=i/\i<=(xs.length:Int)-1 then xs[i.toNat]? else none
theorem KO {α:Type} {xs:List α} {i:Int} {x:α} (h:0<=i/\i<=(xs.length:Int)-1) (hx:xs[i.toNat]? = some x):Va xs i=some x:=by rw [Va,Zw h,hx]
theorem K1 {α:Type} {xs:List α} {i:Int} (h:¬(0<=i/\i<=(xs.length:Int)-1)):Va xs i=none:=by rw [Va,Zs h]
theorem Ab {α:Type} {xs:List α} {i:Int} {x:α} (h:Va xs i=some x):(0<=i/\i<=(xs.length:Int)-1)/\xs[i.toNat]? = some x:=by
 rw [Va] at h
 split at h
 ·rename_i h1;exact ⟨h1,h⟩
 ·cases h
def TD (vars:LI):LI->LI->Bool
 | [],[]=>true
 | a::as1,t::ts=>if Va vars a=some t then TD vars as1 ts else false
 | _,_=>false
def W3 (vars args types:LI):Bool:=TD vars args types
theorem Mg {vars:LI}:∀{args types:LI},args.length≠types.length->TD vars args types=false
 | [],[],h=>absurd rfl h
 | [],_::_,_=>rfl
 | _::_,[],_=>rfl
 | a::as1,t::ts,h=>by
  rw [TD]
  split
  ·exact Mg (by simpa using h)
  ·rfl
theorem Z3g {vars args types:LI} {k:Nat} {a t:Int} (ha:args[k]? = some a) (ht:types[k]? = some t) (h:Va vars a=some t) :
  TD vars (args.drop k) (types.drop k)=TD vars (args.drop (k+1)) (types.drop (k+1)):=by
 rw [Ye ha,Ye ht,TD,Zw h]
theorem Mf {vars args types:LI} {k:Nat} {a t:Int} (ha:args[k]? = some a) (ht:types[k]? = some t) (h:Va vars a≠some t) :
  TD vars (args.drop k) (types.drop k)=false:=by
 rw [Ye ha,Ye ht,TD,Zs h]
theorem Z3f {vars args types:LI} {k:Nat} (ha:args.length<=k) (ht:types.length<=k):TD vars (args.drop k) (types.drop k)=true:=by
 rw [Xf ha,Xf ht];rfl
def Uz (op:Int):Bool:=op==0||(op==6||(op==8||(op==9||op==10)))
def Xp (op:Int):Bool:=decide (0<=op/\op<=11)
def YG (op:Int):Bool:=decide (14<=op/\op<=17)
def Ur (vars:LI) (op into:Int):Bool:=
 if into=0 then true else if op=6 then ((Va vars (into-1)).map fun t=>decide (0<t)).getD false else false
def B1 (ds:List Zd) (ps:LI) (res:Int):Int:=Qs ds (ps.getLast?.getD 0) res
def Jb (ds:List Zd) (vars:LI) (op:Int) (args:LI) (r:Y1):Int:=
 if op=9 then (if W3 vars args r.params=true then r.result else -1)
 else if r.params.length=0∨0<r.lent.length∨¬W3 vars args (r.params.take (r.params.length-1))=true then -1
 else B1 ds r.params r.result
def QN (n:Zu) (vars:LI) (op num:Int) (args:LI):Int:=
 match Va n.routines num with
 | none=>-1
 | some r=>Jb n.decls vars op args r
def TP (ds:List Zd) (vars:LI) (op:Int) (args:LI):Int:=
 match args with
 | [a]=>match Va vars a with
  | some t=>if t=0 then -1 else if (op≠14/\op≠15)/\WE ds t=true then -1 else 0
  | none=>-1
 | _=>-1
def TL (ds:List Zd) (vars:LI) (args:LI):Int:=
 match args with
 | [a,b]=>match Va vars a with
  | some t=>if WE ds t=true then
    (match ds[(t-1).toNat]? with
     | some d=>if W3 vars [b] [d.frm]=true then d.to_ else -1
     | none=>-1) else -1
  | none=>-1
 | _=>-1
def Xm (ds:List Zd) (op num:Int):List LI:=if op=7 then [[],[]] else (ZW ds num).map (ZY ds)
mutual
def Yv (n:Zu) (vars:LI):Z3->Int
 | .mk op num into args kids=>
  if (num≠0/\¬Uz op=true)∨¬Ur vars op into=true∨(0<kids.length/\op≠7/\op≠8) then -1
  else if op=0 then (if args.length=0/\(-999<=num/\num<=999) then 0 else -1)
  else if op=1∨op=2∨op=3∨op=4 then (if W3 vars args [0,0]=true then 0 else -1)
  else if op=5 then (if W3 vars args [0]=true then 0 else -1)
  else if op=6 then (if 0<WV n.decls num/\W3 vars args (ZY n.decls num)=true then WV n.decls num else -1)
  else if op=7 then (if W3 vars args [0]=true then (if (Xm n.decls op num).length=0∨kids.length≠(Xm n.decls op num).length then -1 else UP n vars kids (Xm n.decls op num) true 0) else -1)
  else if op=8 then (if W3 vars args [num]=true then (if (Xm n.decls op num).length=0∨kids.length≠(Xm n.decls op num).length then -1 else UP n vars kids (Xm n.decls op num) true 0) else -1)
  else if op=9∨op=10 then QN n vars op num args
  else if op=11 then TL n.decls vars args
  else if op=14∨op=15∨op=16∨op=17 then TP n.decls vars op args
  else -1
def UP (n:Zu) (vars:LI):List Z4->List LI->Bool->Int->Int
 | [],_,_,t=>t
 | b::bs,more,first,t=>
  match more with
  | []=>-1
  | m::ms=>if Xx n (vars++m) b<0∨(first=false/\Xx n (vars++m) b≠t) then -1 else UP n vars bs ms false (Xx n (vars++m) b)
def Vd (n:Zu):List Z3->LI->Option LI
 | [],vars=>some vars
 | s::r,vars=>if Yv n vars s<0 then none else Vd n r (if Xp s.op=true then vars++[Yv n vars s] else vars)
def Xx (n:Zu) (vars:LI):Z4->Int
 | .mk steps result=>match Vd n steps vars with
  | none=>-1
  | some vs=>(Va vs result).getD (-1)
end
def Qf (n:Zu) (vars:LI) (op num:Int) (kids:List Z4):Int:=
 if (Xm n.decls op num).length=0∨kids.length≠(Xm n.decls op num).length then -1 else UP n vars kids (Xm n.decls op num) true 0
mutual
def J4:Z3->Int->Int
 | .mk _ _ _ _ kids,left=>UE kids left
def XS:Z4->Int->Int
 | .mk steps _,left=>Uj steps left
def Uj:List Z3->Int->Int
 | [],left=>left
 | s::r,left=>if left<1 then -1 else if J4 s (left-1)<0 then -1 else Uj r (J4 s (left-1))
def UE:List Z4->Int->Int
 | [],left=>left
 | b::r,left=>if XS b left<0 then -1 else UE r (XS b left)
end
def Wy (b:Z4):Int:=if XS b 600<0 then -1 else 600-XS b 600
def Ku (n:Zu):List Y1->Bool
 | []=>true
 | r::rs=>if ¬Wy r.body<0/\Xx n r.params r.body=r.result then Ku n rs else false
def TE (n:Zu):Bool:=QJ n&&Ku n n.routines
theorem F7:(∀(s:Z3) (l:Int),0<=l->J4 s l<=l)/\(∀(b:Z4) (l:Int),0<=l->XS b l<=l):=by
 have key:∀m:Nat,(∀s:Z3,s.sz<=m->∀l:Int,0<=l->J4 s l<=l)/\(∀b:Z4,b.sz<=m->∀l:Int,0<=l->XS b l<=l):=by
  intro m
  induction m with
  | zero=>exact ⟨fun s h=>by have:=s.sz_pos;omega,fun s h=>by have:=s.sz_pos;omega⟩
  | succ m ih=>
   refine ⟨fun s hs l hl=>?_,fun b hb l hl=>?_⟩
   ·cases s with
    | mk op num into args kids=>
     rw [J4]
     have hk:YF kids<=m:=by rw [Z3.sz] at hs;omega
     clear hs
     induction kids generalizing l with
     | nil=>rw [UE];exact Int.le_refl _
     | cons b r ihr=>
      rw [YF] at hk
      have:=ih.2 b om l hl
      rw [UE]
      split
      ·omega
      ·have:=ihr (XS b l) om om;omega
   ·cases b with
    | mk steps res=>
     rw [XS]
     have hk:Y5 steps<=m:=by rw [Z4.sz] at hb;omega
     clear hb
     induction steps generalizing l with
     | nil=>rw [Uj];exact Int.le_refl _
     | cons s r ihr=>
      rw [Y5] at hk
      rw [Uj]
      split
      ·omega
      ·have:=ih.1 s om (l-1) om
       split
       ·omega
       ·have:=ihr (J4 s (l-1)) om om;omega
 exact ⟨fun s l hl=>(key s.sz).1 s (YI _) l hl,fun b l hl=>(key b.sz).2 b (YI _) l hl⟩
end Go.Abs
namespace Go.Abs
theorem Z2u {l:List Z3} {k:Nat} {s:Z3} (h:l[k]? = some s):k+s.sz<=Y5 l:=by
 induction l generalizing k with
 | nil=>simp at h
 | cons t r ih=>
  cases k with
  | zero=>simp at h;subst h;simp only [Y5];omega
  | succ k=>have:=ih (k:=k) (by simpa using h);have:=t.sz_pos;simp only [Y5];omega
theorem AN {b:Z4} {k:Nat} {s:Z3} (h:b.steps[k]? = some s):k+s.sz<b.sz:=by have:=Z2u h;have:=b.sz_eq;omega
structure X2 (n:Zu):Prop where
 decls:Wg n.decls
 len:n.routines.length<=4
 params:∀r∈n.routines,r.params.length<=3
 lent:∀r∈n.routines,r.lent.length<=4194304
theorem X2.params_at {n:Zu} (h:X2 n) {k:Nat} {r:Y1} (hr:n.routines[k]? = some r):r.params.length<=3:=h.params r (ZU hr)
theorem X2.lent_at {n:Zu} (h:X2 n) {k:Nat} {r:Y1} (hr:n.routines[k]? = some r):r.lent.length<=4194304:=h.lent r (ZU hr)
theorem Nb {ds:List Zd} {num:Int} {k:Nat} {x:Int} (h:(ZW ds num)[k]? = some x):(Xm ds 8 num)[k]? = some (ZY ds x):=by
 rw [Xm,Zs om,Qo,h];rfl
end Go.Abs
namespace Go.Abs
theorem Iv {ds:List Zd} (hd:Wg ds) (t:Int):(ZW ds t).length<=3:=by
 rw [ZW]
 split
 ·rename_i h
  obtain ⟨d,hd1⟩:=Bi (xs:=ds) (j:=(t-1).toNat) om
  rw [hd1,SM]
  exact hd.cons_at hd1
 ·simp
theorem Vr {ds:List Zd} (hd:Wg ds) (c:Int):(ZY ds c).length<=3:=by
 by_cases h:WV ds c<1
 ·rw [(GF h).1];simp
 ·obtain ⟨k,d,x,h1,_,h3,_,h5⟩:=GG h
  rw [h5];exact hd.fields_at h1 h3
theorem Gh {ds:List Zd} (hd:Wg ds) {op num:Int} {k:Nat} {m:LI} (h:(Xm ds op num)[k]? = some m):m.length<=3:=by
 have hm:=ZU h
 rw [Xm] at hm
 split at hm
 ·simp at hm;subst hm;simp
 ·obtain ⟨c,_,rfl⟩:=W5.1 hm;exact Vr hd c
theorem TM {α:Type} {xs:List α} {x:α} (h:xs.length=1) (hx:xs[0]? = some x):xs=[x]:=by
 cases xs with
 | nil=>simp at h
 | cons a r=>
  cases r with
  | nil=>simp at hx;rw [hx]
  | cons b r=>simp at h
theorem Af {ds:List Zd} {us args:LI} {op:Int} (h:args.length≠1):TP ds us op args=-1:=by
 cases args with
 | nil=>rfl
 | cons a r=>
  cases r with
  | nil=>simp at h
  | cons b r=>rfl
theorem Ag {ds:List Zd} {us args:LI} {op a:Int} (h:args=[a]) (hi:¬(0<=a/\a<=(us.length:Int)-1)):TP ds us op args=-1:=by
 subst h;rw [TP];simp only [K1 hi]
theorem Ae {ds:List Zd} {us args:LI} {op a t:Int} (h:args=[a]) (hi:0<=a/\a<=(us.length:Int)-1) (ht:us[a.toNat]? = some t) :
  TP ds us op args=if t=0 then -1 else if (op≠14/\op≠15)/\WE ds t=true then -1 else 0:=by
 subst h;rw [TP];simp only [KO hi ht]
theorem Z0q {n:Zu} {us args:LI} {op num:Int} {r:Y1} (hi:0<=num/\num<=(n.routines.length:Int)-1) (hr:n.routines[num.toNat]? = some r) :
  QN n us op num args=Jb n.decls us op args r:=by
 rw [QN];simp only [KO hi hr]
theorem Z0r {n:Zu} {us args:LI} {op num:Int} (hi:¬(0<=num/\num<=(n.routines.length:Int)-1)):QN n us op num args=-1:=by
 rw [QN];simp only [K1 hi]
theorem Rb {xs:LI} {x:Int} (h:xs[xs.length-1]? = some x):xs.getLast?.getD 0=x:=by
 rw [List.getLast?_eq_getElem?,h];rfl
theorem S9 {n:Zu} {us:LI} {bs:List Z4} {ms:List LI} {b:Z4} {m:LI} {k:Nat} {t:Int} (hb:bs[k]? = some b) (hm:ms[k]? = some m)
  (h:¬(Xx n (us++m) b<0∨(k:Int)>0/\Xx n (us++m) b≠t)) :
  UP n us (bs.drop k) (ms.drop k) (decide (k=0)) t=UP n us (bs.drop (k+1)) (ms.drop (k+1)) (decide (k+1=0)) (Xx n (us++m) b):=by
 rw [Ye hb,Ye hm,UP,Zs]
 ·simp
 ·rintro (q|⟨q1,q2⟩)
  ·exact h (.inl q)
  ·exact h (.inr ⟨by simp at q1;omega,q2⟩)
theorem S7 {n:Zu} {us:LI} {bs:List Z4} {ms:List LI} {b:Z4} {m:LI} {k:Nat} {t:Int} (hb:bs[k]? = some b) (hm:ms[k]? = some m)
  (h:Xx n (us++m) b<0∨(k:Int)>0/\Xx n (us++m) b≠t) :
  UP n us (bs.drop k) (ms.drop k) (decide (k=0)) t=-1:=by
 rw [Ye hb,Ye hm,UP,Zw]
 rcases h with q|⟨q1,q2⟩
 ·exact .inl q
 ·exact .inr ⟨by simp;omega,q2⟩
theorem S8 {n:Zu} {us:LI} {bs:List Z4} {ms:List LI} {k:Nat} {f:Bool} {t:Int} (hb:bs.length<=k):UP n us (bs.drop k) (ms.drop k) f t=t:=by
 rw [Xf hb,UP]
end Go.Abs
end
namespace Go.Abs
theorem FJ (n:Zu) (us:LI) (s:Z3):Yv n us s =
  if (s.num≠0/\¬Uz s.op=true)∨¬Ur us s.op s.into=true∨(0<s.kids.length/\s.op≠7/\s.op≠8) then -1
  else if s.op=0 then (if s.args.length=0/\(-999<=s.num/\s.num<=999) then 0 else -1)
  else if s.op=1∨s.op=2∨s.op=3∨s.op=4 then (if W3 us s.args [0,0]=true then 0 else -1)
  else if s.op=5 then (if W3 us s.args [0]=true then 0 else -1)
  else if s.op=6 then (if 0<WV n.decls s.num/\W3 us s.args (ZY n.decls s.num)=true then WV n.decls s.num else -1)
  else if s.op=7 then (if W3 us s.args [0]=true then Qf n us s.op s.num s.kids else -1)
  else if s.op=8 then (if W3 us s.args [s.num]=true then Qf n us s.op s.num s.kids else -1)
  else if s.op=9∨s.op=10 then QN n us s.op s.num s.args
  else if s.op=11 then TL n.decls us s.args
  else if s.op=14∨s.op=15∨s.op=16∨s.op=17 then TP n.decls us s.op s.args
  else -1:=by
 cases s with
 | mk op num into args kids=>rw [Yv];rfl
theorem DX (n:Zu) (us:LI) (b:Z4):Xx n us b=match Vd n b.steps us with
  | none=>-1
  | some vs=>(Va vs b.result).getD (-1):=by
 cases b with
 | mk st r=>rw [Xx];rfl
theorem Gg {α:Type} {xs:List α} {x:α} (h:xs.length=2) (hx:xs[0]? = some x):∃y,xs=[x,y]:=by
 match xs,h with
 | [a,b],_=>simp at hx;subst hx;exact ⟨b,rfl⟩
theorem Vp {ds:List Zd} {us args:LI} (h:args.length≠2):TL ds us args=-1:=by
 match args,h with
 | [],_=>rfl
 | [_],_=>rfl
 | [_,_],h=>simp at h
 | _::_::_::_,_=>rfl
theorem Vq {ds:List Zd} {us args:LI} {a:Int} (hl:args.length=2) (h:args[0]? = some a) (hi:¬(0<=a/\a<=(us.length:Int)-1)):TL ds us args=-1:=by
 obtain ⟨y,rfl⟩:=Gg hl h;rw [TL];simp only [K1 hi]
theorem Vg {ds:List Zd} {us args:LI} {a t:Int} (hl:args.length=2) (h:args[0]? = some a) (hi:0<=a/\a<=(us.length:Int)-1) (ht:us[a.toNat]? = some t) :
  TL ds us args=if WE ds t=true then
    (match ds[(t-1).toNat]? with
     | some d=>if W3 us (args.drop 1) [d.frm]=true then d.to_ else -1
     | none=>-1) else -1:=by
 obtain ⟨y,rfl⟩:=Gg hl h;rw [TL];simp only [KO hi ht];rfl
theorem N5 {ds:List Zd} {us args:LI} {a t:Int} {d:Zd} (hl:args.length=2) (h:args[0]? = some a) (hi:0<=a/\a<=(us.length:Int)-1) (ht:us[a.toNat]? = some t)
  (hA:WE ds t=true) (hd:ds[(t-1).toNat]? = some d):TL ds us args=if W3 us (args.drop 1) [d.frm]=true then d.to_ else -1:=by
 rw [Vg hl h hi ht,Zw hA];simp only [hd]
theorem EP {ds:List Zd} {t:Int} (h:WE ds t=true):1<=t/\t<=ds.length:=by
 simp only [WE,W4,decide_eq_true_eq] at h;exact h.1
theorem Ig (b:Z4) (l:Int):XS b l=Uj b.steps l:=by cases b;rw [XS];rfl
theorem CR (s:Z3) (l:Int):J4 s l=UE s.kids l:=by cases s;rw [J4];rfl
structure KH (n:Zu):Prop where
 decls:Jo n.decls
 len:n.routines.length<=4194304
 params:∀r∈n.routines,r.params.length<=4194304
 lent:∀r∈n.routines,r.lent.length<=4194304
 body:∀r∈n.routines,r.body.sz<=10000000
theorem Lz {m:Nat} {fs:List Sg} (h:Kv m fs=true):∀f∈fs,JV m f=true:=by
 induction fs with
 | nil=>simp
 | cons f r ih=>
  rw [Kv] at h
  split at h
  ·rename_i h1
   intro g hg
   rcases Yj.1 hg with rfl|hg
   ·exact h1
   ·exact ih h g hg
  ·cases h
theorem Iq {n:Zu} (hz:KH n) (h:QJ n=true):X2 n:=by
 simp only [QJ,Ql,W4,decide_eq_true_eq] at h
 obtain ⟨h1,⟨h2,h3,h4,h5⟩,h6⟩:=h
 refine ⟨Z3z h2,h1,fun r hr=>?_,hz.lent⟩
 have:=Lz h4 (Uo r) (W5.2 ⟨r,hr,rfl⟩)
 simp only [JV,W4,decide_eq_true_eq] at this
 exact this.1
def gI (xs:LI) (i:Int):Int:=xs[i.toNat]?.getD 0
theorem Uv {xs:LI} {i:Int} {x:Int} (h:xs[i.toNat]? = some x):gI xs i=x:=by rw [gI,h];rfl
structure Zv where
 vars:LI
 own:LI
 par:LI
 con:LI
 fst:LI
 tok:LI
def Zv.grow (L:Zv) (t own par:Int):Zv:=⟨L.vars++[t],L.own++[own],L.par++[par],L.con++[-1],L.fst++[-1],L.tok++[-1]⟩
def Uq (L:Zv) (v:Int):Option Zv:=if gI L.own v<1 then none else some { L with own:=L.own.set v.toNat (gI L.own v-1) }
def T2 (own par ln:LI):Nat->Int->Bool
 | 0,_=>false
 | k+1,v=>if gI own v<1/\¬v∈ln then (if gI par v<0 then false else T2 own par ln k (gI par v)) else true
def VB (L:Zv) (ln:LI) (v:Int):Bool:=T2 L.own L.par ln (v.toNat+1) v
def UK:LI->Int->LI->LI
 | own,_,[]=>own
 | own,p,f::r=>UK (if f≠0 then own.set p.toNat (gI own p+1) else own) (p+1) r
def QL (ds:List Zd) (L:Zv) (op x:Int):Option Zv:=
 if gI L.con x<0∨(op=17/\0<=gI L.tok x) then none
 else match Uq L x with
  | none=>none
  | some L1=>some { L1 with
    own:=UK L1.own (gI L.fst x) (ZY ds (gI L.con x))
    tok:=if op=17 then L.tok.set x.toNat (ZY ds (gI L.con x)).length else L.tok }
def Qw (op:Int):Bool:=op==6||(op==9||(op==10||op==11))
def CT (n:Zu) (op num:Int):LI:=if op=9 then ((n.routines[num.toNat]?).map (·.lent)).getD [] else []
def Vv (n:Zu) (op num:Int) (i:Nat):Bool:=decide ((i:Int)∈CT n op num)
def Q7 (n:Zu) (vars:LI) (op num a:Int) (i:Nat):Bool:=Qw op&&(gI vars a != 0&&!Vv n op num i)
def Tt (n:Zu) (op num:Int):LI->Nat->Zv->Option Zv
 | [],_,L=>some L
 | a::r,i,L=>if Q7 n L.vars op num a i=true then (match Uq L a with
   | none=>none
   | some L1=>Tt n op num r (i+1) L1) else Tt n op num r (i+1) L
def KZ (n:Zu) (op num:Int) (ln:LI) (L:Zv):LI->Nat->Bool
 | [],_=>true
 | a::r,i=>if Vv n op num i=true/\¬VB L ln a=true then false else KZ n op num ln L r (i+1)
def Bj (L:Zv) (into:Int) (m:Nat):Option Zv:=
 if 0<into then (if gI L.tok (into-1)≠m then none else some { L with tok:=L.tok.set (into-1).toNat (-1) }) else some L
def Qa (n:Zu) (ln:LI) (L:Zv) (op num into:Int) (args:LI):Option Zv:=
 match Tt n op num args 0 L with
 | none=>none
 | some L1=>if KZ n op num ln L1 args 0=true then Bj L1 into args.length else none
def Ji:LI->LI->Bool
 | o::os,t::ts=>if o≠0∨0<=t then false else Ji os ts
 | _,_=>true
def Zv.take (L:Zv) (m:Nat):Zv:=⟨L.vars.take m,L.own.take m,L.par.take m,L.con.take m,L.fst.take m,L.tok.take m⟩
def Qx (L:Zv) (m:Nat):Option Zv:=if Ji (L.own.drop m) (L.tok.drop m)=true then some (L.take m) else none
def JH (L:Zv) (par:Int):LI->Zv
 | []=>L
 | t::r=>JH (L.grow t 0 par) par r
def Js (ds:List Zd) (L:Zv) (x c:Int):Zv:=
 JH { L with con:=L.con.set x.toNat c,fst:=L.fst.set x.toNat L.vars.length } x (ZY ds c)
def U7 (ds:List Zd) (L:Zv) (op num:Int) (args:LI) (i:Nat):Zv:=
 if op=8 then Js ds L (gI args 0) (gI (ZW ds num) i) else L
def Kr (lent:LI):LI->Nat->Zv->Zv
 | [],_,L=>L
 | t::r,i,L=>Kr lent r (i+1) (L.grow t (if t≠0/\¬(i:Int)∈lent then 1 else 0) (-1))
def Q0 (r:Y1):Zv:=Kr r.lent r.params 0 ⟨[],[],[],[],[],[]⟩
def Jz (L:Zv) (ln:LI) (v:Int):Option Zv:=if VB L ln v=true then some { L with own:=L.own.set v.toNat (gI L.own v+1) } else none
def Qh (n:Zu) (ln:LI) (L:Zv) (op num into:Int) (args:LI) (ch:Option Zv):Option Zv:=
 if op=14 then Jz L ln (gI args 0)
 else if op=15 then Uq L (gI args 0)
 else if op=16∨op=17 then QL n.decls L op (gI args 0)
 else if op=7∨op=8 then (if op=8/\¬VB L ln (gI args 0)=true then none else ch)
 else Qa n ln L op num into args
def QE (L:Zv) (op t:Int) (r:Option Zv):Option Zv:=
 match r with
 | none=>none
 | some L1=>if Xp op=true then some (L1.grow t (if t≠0 then 1 else 0) (-1)) else some L1
def JP (L:Zv) (first:Option Zv) (rest:Zv->Bool):Option Zv:=
 match first with
 | none=>none
 | some one=>if rest one=true then some { L with own:=one.own,tok:=one.tok } else none
def Di (one:Zv) (two:Option Zv) (rest:Bool):Bool:=
 match two with
 | none=>false
 | some two=>if one.own=two.own/\one.tok=two.tok then rest else false
def BO (r:Option Zv) (f:Zv->Option Zv):Option Zv:=match r with|none=>none|some L=>f L
def QD (m:Nat) (res:Int) (L:Zv):Option Zv:=BO (if gI L.vars res≠0 then Uq L res else some L) fun L2=>Qx L2 m
mutual
def UV (n:Zu) (ln:LI) (L:Zv):Z3->Option Zv
 | .mk op num into args kids=>QE L op (Yv n L.vars (.mk op num into args kids)) (Qh n ln L op num into args (TX n ln L op num args kids))
def TX (n:Zu) (ln:LI) (L:Zv) (op num:Int) (args:LI):List Z4->Option Zv
 | []=>none
 | b::bs=>JP L (WU n ln (U7 n.decls L op num args 0) L.vars.length b) fun one=>Qe n ln L op num args one bs 1
def Qe (n:Zu) (ln:LI) (L:Zv) (op num:Int) (args:LI) (one:Zv):List Z4->Nat->Bool
 | [],_=>true
 | b::bs,i=>Di one (WU n ln (U7 n.decls L op num args i) L.vars.length b) (Qe n ln L op num args one bs (i+1))
def Qj (n:Zu) (ln:LI) (L:Zv):List Z3->Option Zv
 | []=>some L
 | s::r=>BO (UV n ln L s) fun L1=>Qj n ln L1 r
def WU (n:Zu) (ln:LI) (L:Zv) (m:Nat):Z4->Option Zv
 | .mk steps result=>BO (Qj n ln L steps) (QD m result)
end
theorem M3 (n:Zu) (ln:LI) (L:Zv) (s:Z3):UV n ln L s=QE L s.op (Yv n L.vars s) (Qh n ln L s.op s.num s.into s.args (TX n ln L s.op s.num s.args s.kids)):=by
 cases s with
 | mk op num into args kids=>rw [UV];rfl
theorem DW (n:Zu) (ln:LI) (L:Zv) (m:Nat) (b:Z4):WU n ln L m b=BO (Qj n ln L b.steps) (QD m b.result):=by
 cases b with
 | mk st r=>rw [WU];rfl
structure VS (L:Zv):Prop where
 own:L.own.length=L.vars.length
 par:L.par.length=L.vars.length
 con:L.con.length=L.vars.length
 fst:L.fst.length=L.vars.length
 tok:L.tok.length=L.vars.length
structure X5 (ds:List Zd) (L:Zv) (q:Int):Prop where
 len:VS L
 down:∀j:Int,0<=j->j<L.vars.length->gI L.par j<j
 arm:∀x:Int,0<=x->x<L.vars.length->0<=gI L.con x->0<=gI L.fst x/\gI L.fst x+(ZY ds (gI L.con x)).length<=L.vars.length
 nn:∀x∈L.own,0<=x
 bd:∀x∈L.own,x<=q
end Go.Abs
section
namespace Go.Abs
end Go.Abs
namespace Go.Abs
theorem Sr {n:Zu} {op num:Int} {r:Y1} (h:op=9) (hr:n.routines[num.toNat]? = some r):CT n op num=r.lent:=by
 rw [CT,Zw h,hr];rfl
end Go.Abs
namespace Go.Abs
theorem MR {own par ln:LI} {N:Int} (hd:∀j:Int,0<=j->j<N->gI par j<j):∀(k:Nat) (v:Int),0<=v->v<N->v.toNat+1<=k->T2 own par ln k v=T2 own par ln (v.toNat+1) v:=by
 intro k
 induction k using Nat.strongRecOn with
 | ind k ih=>
  intro v h0 hN hk
  cases k with
  | zero=>omega
  | succ k=>
   rw [T2,T2]
   split
   ·split
    ·rfl
    ·have hdv:=hd v h0 hN
     rw [ih k om (gI par v) om om om]
     rw [ih v.toNat om (gI par v) om om om]
   ·rfl
theorem MT {own par ln:LI} {N j x1 x2:Int} {r:Bool} (h1:gI own j=x1) (h2:gI par j=x2) (hj:0<=j/\j<N) (hx:x1<1/\¬j∈ln) (h0:¬x2<0) (hd:∀i:Int,0<=i->i<N->gI par i<i)
  (h:T2 own par ln (j.toNat+1) j=r):T2 own par ln (x2.toNat+1) x2=r:=by
 rw [T2,h1,h2,Zw hx,Zs h0] at h
 have hdv:=hd j hj.1 hj.2
 rw [<-h,MR hd j.toNat x2 om om om]
theorem MS {own par ln:LI} {j x1 x2:Int} {r:Bool} (h1:gI own j=x1) (h2:gI par j=x2) (hx:x1<1/\¬j∈ln) (h0:x2<0) (h:T2 own par ln (j.toNat+1) j=r):false=r:=by
 rw [T2,h1,h2,Zw hx,Zw h0] at h;exact h
theorem MU {own par ln:LI} {j x1:Int} {r:Bool} (h1:gI own j=x1) (hx:¬(x1<1/\¬j∈ln)) (h:T2 own par ln (j.toNat+1) j=r):true=r:=by
 rw [T2,h1,Zs hx] at h;exact h
end Go.Abs
namespace Go.Abs
theorem Qk {L L':Zv} {v:Int} (h:Uq L v=some L'):1<=gI L.own v/\L'.vars=L.vars/\L'.par=L.par/\L'.con=L.con/\L'.fst=L.fst/\L'.tok=L.tok/\L'.own=L.own.set v.toNat (gI L.own v-1):=by
 rw [Uq] at h
 split at h
 ·cases h
 ·cases h;exact ⟨by omega,rfl,rfl,rfl,rfl,rfl,rfl⟩
theorem EA {xs:LI} {v:Int} (h:gI xs v≠0):gI xs v∈xs:=by
 rw [gI] at h ⊢
 cases hx:xs[v.toNat]? with
 | none=>rw [hx] at h;exact absurd rfl h
 | some y=>exact ZU hx
theorem QI {xs:LI} {i:Nat} {a x:Int} (h:x∈xs.set i a):x∈xs∨x=a:=List.mem_or_eq_of_mem_set h
theorem X5.take {ds:List Zd} {L L':Zv} {q v:Int} (hk:X5 ds L q) (h:Uq L v=some L'):X5 ds L' q:=by
 obtain ⟨t1,t2,t3,t4,t5,t6,t7⟩:=Qk h
 obtain ⟨f1,f2,f3,f4,f5⟩:=hk.len
 have hm:=EA (xs:=L.own) (v:=v) om
 refine ⟨⟨by rw [t7,t2,Ua];exact f1,by rw [t3,t2];exact f2,by rw [t4,t2];exact f3,by rw [t5,t2];exact f4,by rw [t6,t2];exact f5⟩,?_,?_,?_,?_⟩
 ·rw [t2,t3];exact hk.down
 ·rw [t2,t4,t5];exact hk.arm
 ·rw [t7];intro x hx
  rcases QI hx with hx|rfl
  ·exact hk.nn x hx
  ·omega
 ·rw [t7];intro x hx
  rcases QI hx with hx|rfl
  ·exact hk.bd x hx
  ·have:=hk.bd _ hm;omega
end Go.Abs
end
namespace Go.Abs
theorem FV {us:LI}:∀{args tys:LI},TD us args tys=true->args.length=tys.length/\∀a∈args,0<=a/\a<us.length
 | [],[],_=>⟨rfl,by simp⟩
 | [],_::_,h=>by cases h
 | _::_,[],h=>by cases h
 | a::as1,t::ts,h=>by
  rw [TD] at h
  split at h
  ·rename_i h1
   obtain ⟨q1,q2⟩:=FV h
   refine ⟨by simp [q1],fun x hx=>?_⟩
   rcases Yj.1 hx with rfl|hx
   ·have:=(Ab h1).1;omega
   ·exact q2 x hx
  ·cases h
theorem I8 {n:Zu} {us:LI}:∀{bs:List Z4} {ms:List LI} {f:Bool} {t:Int},0<=t->0<=UP n us bs ms f t ->
  ∀(i:Nat) (b:Z4) (m:LI),bs[i]? = some b->ms[i]? = some m->0<=Xx n (us++m) b
 | [],_,_,_,_,_,i,b,m,hb,_=>by simp at hb
 | b::bs,[],_,_,_,h,_,_,_,_,hm=>by simp at hm
 | b::bs,m::ms,f,t,ht,h,i,c,l,hc,hl=>by
  rw [UP] at h
  split at h
  ·omega
  ·rename_i hq
   have h0:0<=Xx n (us++m) b:=by
    rcases Int.lt_or_le (Xx n (us++m) b) 0 with q|q
    ·exact absurd (.inl q) hq
    ·exact q
   cases i with
   | zero=>simp at hc hl;subst hc hl;exact h0
   | succ i=>exact I8 h0 h i c l (by simpa using hc) (by simpa using hl)
structure Jp (n:Zu) (us:LI) (s:Z3):Prop where
 args:∀a∈s.args,0<=a/\a<us.length
 one:(s.op=7∨s.op=8∨(14<=s.op/\s.op<=17))->∃a,s.args=[a]
 num:s.op=9->0<=s.num/\s.num<n.routines.length
 into:s.into≠0->1<=s.into/\s.into<=us.length
 kids:(s.op=7∨s.op=8)->s.kids.length=(Xm n.decls s.op s.num).length/\(Xm n.decls s.op s.num).length≠0 /\
  ∀(i:Nat) (b:Z4) (m:LI),s.kids[i]? = some b->(Xm n.decls s.op s.num)[i]? = some m->0<=Xx n (us++m) b
theorem S6 {n:Zu} {us:LI} {op num:Int} {kids:List Z4} (h:0<=Qf n us op num kids) :
  kids.length=(Xm n.decls op num).length/\(Xm n.decls op num).length≠0/\∀(i:Nat) (b:Z4) (m:LI),kids[i]? = some b->(Xm n.decls op num)[i]? = some m->0<=Xx n (us++m) b:=by
 rw [Qf] at h
 split at h
 ·omega
 ·rename_i hq
  exact ⟨by omega,by omega,I8 (Int.le_refl 0) h⟩
theorem Ij {xs:LI} (h:xs.length=1):∃a,xs=[a]:=by
 match xs,h with
 | [a],_=>exact ⟨a,rfl⟩
theorem M5 {n:Zu} {us:LI} {s:Z3} (h:0<=Yv n us s):Jp n us s:=by
 rw [FJ] at h
 split at h
 ·omega
 rename_i h0
 have hinto:s.into≠0->1<=s.into/\s.into<=us.length:=by
  intro hi
  have hv:Ur us s.op s.into=true:=by
   cases q:Ur us s.op s.into with
   | true=>rfl
   | false=>exact absurd (.inr (.inl (by rw [q];simp))) h0
  rw [Ur,Zs hi] at hv
  split at hv
  ·cases ha:Va us (s.into-1) with
   | none=>rw [ha] at hv;cases hv
   | some t=>have:=(Ab ha).1;omega
  ·cases hv
 have mk:(∀a∈s.args,0<=a/\a<us.length)->((s.op=7∨s.op=8∨(14<=s.op/\s.op<=17))->∃a,s.args=[a])->(s.op=9->0<=s.num/\s.num<n.routines.length) ->
   ((s.op=7∨s.op=8)->0<=Qf n us s.op s.num s.kids)->Jp n us s:=fun a b c d=>⟨a,b,c,hinto,fun q=>S6 (d q)⟩
 have ty:∀{tys},W3 us s.args tys=true->s.args.length=tys.length/\∀a∈s.args,0<=a/\a<us.length:=fun q=>FV q
 split at h
 ·rename_i h1
  split at h
  ·rename_i h2
   exact mk (by rw [List.eq_nil_of_length_eq_zero h2.1];simp) om om om
  ·omega
 split at h
 ·split at h
  ·rename_i h1 h2;exact mk (ty h2).2 om om om
  ·omega
 split at h
 ·split at h
  ·rename_i h1 h2;exact mk (ty h2).2 om om om
  ·omega
 split at h
 ·split at h
  ·rename_i h1 h2;exact mk (ty h2.2).2 om om om
  ·omega
 split at h
 ·split at h
  ·rename_i h1 h2;exact mk (ty h2).2 (fun _=>Ij (by simpa using (ty h2).1)) om (fun _=>h)
  ·omega
 split at h
 ·split at h
  ·rename_i h1 h2;exact mk (ty h2).2 (fun _=>Ij (by simpa using (ty h2).1)) om (fun _=>h)
  ·omega
 split at h
 ·rename_i hop
  rw [QN] at h
  cases hr:Va n.routines s.num with
  | none=>rw [hr] at h;simp at h
  | some r=>
   rw [hr] at h
   simp only at h
   have hn:=(Ab hr).1
   rw [Jb] at h
   split at h
   ·split at h
    ·rename_i h2;exact mk (ty h2).2 om om om
    ·omega
   ·split at h
    ·omega
    ·rename_i h2
     have h3:W3 us s.args (r.params.take (r.params.length-1))=true:=by
      cases q:W3 us s.args (r.params.take (r.params.length-1)) with
      | true=>rfl
      | false=>exact absurd (.inr (.inr (by rw [q];simp))) h2
     exact mk (ty h3).2 om om om
 split at h
 ·rename_i hop
  rcases he:s.args with _|⟨a,_|⟨b,_|⟨c,r⟩⟩⟩
  ·rw [he,show TL n.decls us []=-1 from rfl] at h;omega
  ·rw [he,show TL n.decls us [a]=-1 from rfl] at h;omega
  ·rw [he,TL] at h
   cases ha:Va us a with
   | none=>rw [ha] at h;simp at h
   | some t=>
    rw [ha] at h
    simp only at h
    split at h
    ·cases hd:n.decls[(t-1).toNat]? with
     | none=>rw [hd] at h;simp at h
     | some d=>
      rw [hd] at h
      simp only at h
      split at h
      ·rename_i h3
       have h4:=(FV h3).2 b (by simp)
       have h5:=(Ab ha).1
       refine mk (fun x hx=>?_) om om om
       rw [he] at hx
       rcases Yj.1 hx with rfl|hx
       ·omega
       ·rw [Xk.1 hx];exact h4
      ·omega
    ·omega
  ·rw [he,show TL n.decls us (a::b::c::r)=-1 from rfl] at h;omega
 split at h
 ·rename_i hop
  rcases he:s.args with _|⟨a,_|⟨b,r⟩⟩
  ·rw [he,show TP n.decls us s.op []=-1 from rfl] at h;omega
  ·rw [he,TP] at h
   cases ha:Va us a with
   | none=>rw [ha] at h;simp at h
   | some t=>
    have h5:=(Ab ha).1
    refine mk (fun x hx=>?_) (fun _=>⟨a,he⟩) om om
    rw [he] at hx
    rw [Xk.1 hx];omega
  ·rw [he,show TP n.decls us s.op (a::b::r)=-1 from rfl] at h;omega
 ·omega
def Th (n:Zu) (us:LI) (s:Z3):LI:=if Xp s.op=true then us++[Yv n us s] else us
theorem GT {L L':Zv} {ln:LI} {v:Int} (h:Jz L ln v=some L'):L'.vars=L.vars/\L'.par=L.par/\L'.con=L.con/\L'.fst=L.fst/\L'.tok=L.tok/\L'.own=L.own.set v.toNat (gI L.own v+1):=by
 rw [Jz] at h
 split at h
 ·cases h;exact ⟨rfl,rfl,rfl,rfl,rfl,rfl⟩
 ·cases h
theorem DR:∀(fs:LI) (own:LI) (p:Int),(UK own p fs).length=own.length
 | [],own,p=>rfl
 | f::r,own,p=>by rw [UK,DR r];split<;>simp
theorem Ez {xs:LI} {q v:Int} (h:∀x∈xs,x<=q) (hq:0<=q):gI xs v<=q:=by
 by_cases h0:gI xs v=0
 ·omega
 ·exact h _ (EA h0)
theorem EB {xs:LI} {v:Int} (h:∀x∈xs,0<=x):0<=gI xs v:=by
 by_cases h0:gI xs v=0
 ·omega
 ·exact h _ (EA h0)
theorem DS:∀(fs:LI) (own:LI) (p:Int),(∀x∈own,0<=x)->∀x∈UK own p fs,0<=x
 | [],own,p,h=>h
 | f::r,own,p,h=>by
  rw [UK]
  refine DS r _ _ fun x hx=>?_
  split at hx
  ·rcases QI hx with hx|rfl
   ·exact h x hx
   ·have:=EB (v:=p) h;omega
  ·exact h x hx
theorem DQ:∀(fs:LI) (own:LI) (p q:Int),0<=q->(∀x∈own,x<=q)->∀x∈UK own p fs,x<=q+fs.length
 | [],own,p,q,hq,h=>by intro x hx;have:=h x hx;simp;omega
 | f::r,own,p,q,hq,h=>by
  intro x hx
  rw [UK] at hx
  have:=DQ r _ _ (q+1) om (fun y hy=>by
   split at hy
   ·rcases QI hy with hy|rfl
    ·have:=h y hy;omega
    ·have:=Ez (v:=p) h hq;omega
   ·have:=h y hy;omega) x hx
  simp only [Yw];omega
theorem IK {ds:List Zd} {L L':Zv} {op v:Int} (h:QL ds L op v=some L'):L'.vars=L.vars/\L'.par=L.par/\L'.con=L.con/\L'.fst=L.fst/\L'.tok.length=L.tok.length /\
  ∃L1,Uq L v=some L1/\L'.own=UK L1.own (gI L.fst v) (ZY ds (gI L.con v)):=by
 rw [QL] at h
 split at h
 ·cases h
 ·cases ht:Uq L v with
  | none=>rw [ht] at h;cases h
  | some L1=>
   rw [ht] at h
   simp only at h
   obtain ⟨t1,t2,t3,t4,t5,t6,t7⟩:=Qk ht
   cases h
   refine ⟨t2,t3,t4,t5,?_,L1,rfl,rfl⟩
   split
   ·rw [Ua]
   ·rfl
theorem EH {n:Zu} {op num:Int} {ds:List Zd} {q:Int}:∀{as1:LI} {i:Nat} {L L':Zv},X5 ds L q->Tt n op num as1 i L=some L'->X5 ds L' q/\L'.vars=L.vars/\L'.par=L.par/\L'.con=L.con/\L'.fst=L.fst/\L'.tok=L.tok
 | [],i,L,L',hk,h=>by rw [Tt] at h;cases h;exact ⟨hk,rfl,rfl,rfl,rfl,rfl⟩
 | a::r,i,L,L',hk,h=>by
  rw [Tt] at h
  split at h
  ·cases ht:Uq L a with
   | none=>rw [ht] at h;cases h
   | some L1=>
    rw [ht] at h
    obtain ⟨t1,t2,t3,t4,t5,t6,t7⟩:=Qk ht
    obtain ⟨k1,k2,k3,k4,k5,k6⟩:=EH (hk.take ht) h
    exact ⟨k1,k2.trans t2,k3.trans t3,k4.trans t4,k5.trans t5,k6.trans t6⟩
  ·exact EH hk h
theorem X5.le {ds:List Zd} {L:Zv} {q q':Int} (h:X5 ds L q) (hq:q<=q'):X5 ds L q':=⟨h.len,h.down,h.arm,h.nn,fun x hx=>Int.le_trans (h.bd x hx) hq⟩
theorem X5.turn {ds:List Zd} {L L':Zv} {q q':Int} (hk:X5 ds L q) (h1:L'.vars=L.vars) (h2:L'.par=L.par) (h3:L'.con=L.con) (h4:L'.fst=L.fst) (h5:L'.tok.length=L.tok.length) (h6:L'.own.length=L.own.length)
  (h7:∀x∈L'.own,0<=x) (h8:∀x∈L'.own,x<=q'):X5 ds L' q':=by
 obtain ⟨f1,f2,f3,f4,f5⟩:=hk.len
 refine ⟨⟨by rw [h6,h1];exact f1,by rw [h2,h1];exact f2,by rw [h3,h1];exact f3,by rw [h4,h1];exact f4,by rw [h5,h1];exact f5⟩,?_,?_,h7,h8⟩
 ·rw [h1,h2];exact hk.down
 ·rw [h1,h3,h4];exact hk.arm
theorem Aq {xs ys:LI} {j:Int} (h:j.toNat<xs.length):gI (xs++ys) j=gI xs j:=by
 rw [gI,gI,BV h]
theorem Hk {xs:LI} {y:Int} {j:Int} (h:j.toNat=xs.length):gI (xs++[y]) j=y:=by
 rw [gI,h];simp
theorem X5.grow {ds:List Zd} {L:Zv} {q t o p:Int} (hk:X5 ds L q) (hp:p<L.vars.length) (ho:0<=o/\o<=q):X5 ds (L.grow t o p) q:=by
 obtain ⟨f1,f2,f3,f4,f5⟩:=hk.len
 refine ⟨⟨by simp [Zv.grow,f1],by simp [Zv.grow,f2],by simp [Zv.grow,f3],by simp [Zv.grow,f4],by simp [Zv.grow,f5]⟩,?_,?_,?_,?_⟩
 ·intro j hj hl
  simp only [Zv.grow,Yb,BY] at hl ⊢
  by_cases hlt:j<L.vars.length
  ·rw [Aq om];exact hk.down j hj hlt
  ·rw [Hk om];omega
 ·intro x hx hl
  simp only [Zv.grow,Yb,BY] at hl ⊢
  by_cases hlt:x<L.vars.length
  ·rw [Aq om,Aq om]
   intro hc
   have:=hk.arm x hx hlt hc
   exact ⟨this.1,by omega⟩
  ·rw [Hk om];omega
 ·intro x hx
  simp only [Zv.grow,YO,Xk] at hx
  rcases hx with hx|rfl
  ·exact hk.nn x hx
  ·exact ho.1
 ·intro x hx
  simp only [Zv.grow,YO,Xk] at hx
  rcases hx with hx|rfl
  ·exact hk.bd x hx
  ·exact ho.2
theorem Hl {xs:LI} {k:Nat} {a:Int} {j:Int} (h:xs.length<=j.toNat/\j.toNat<xs.length+k):gI (xs++List.replicate k a) j=a:=by
 rw [gI,DC h.1,List.getElem?_replicate,Zw om];rfl
theorem Hm {xs:LI} {x j c:Int} (h:j.toNat=x.toNat) (hl:x.toNat<xs.length):gI (xs.set x.toNat c) j=c:=by
 rw [gI,h,List.getElem?_set_self hl];rfl
theorem Hn {xs:LI} {x j c:Int} (h:j.toNat≠x.toNat):gI (xs.set x.toNat c) j=gI xs j:=by
 rw [gI,gI,List.getElem?_set_ne (fun q=>h q.symm)]
theorem HH {p:Int}:∀(fs:LI) (L:Zv),JH L p fs=⟨L.vars++fs,L.own++List.replicate fs.length 0,L.par++List.replicate fs.length p,L.con++List.replicate fs.length (-1),
  L.fst++List.replicate fs.length (-1),L.tok++List.replicate fs.length (-1)⟩
 | [],L=>by simp [JH]
 | t::r,L=>by rw [JH,HH r];simp [Zv.grow,MB]
theorem N9 {ds:List Zd} {L:Zv} {q x c:Int} (hk:X5 ds L q) (hq:0<=q) (hx:0<=x/\x<L.vars.length):X5 ds (Js ds L x c) q/\(Js ds L x c).vars=L.vars++ZY ds c:=by
 obtain ⟨f1,f2,f3,f4,f5⟩:=hk.len
 rw [Js,HH]
 refine ⟨⟨⟨by simp [f1],by simp [f2],by simp [f3],by simp [f4],by simp [f5]⟩,?_,?_,?_,?_⟩,rfl⟩
 ·intro j hj hl
  simp only [Yb] at hl ⊢
  by_cases hlt:j<L.vars.length
  ·rw [Aq om];exact hk.down j hj hlt
  ·rw [Hl om];omega
 ·intro y hy hl
  simp only [Yb] at hl ⊢
  by_cases hlt:y<L.vars.length
  ·rw [Aq (by simp;omega),Aq (by simp;omega)]
   by_cases he:y.toNat=x.toNat
   ·rw [Hm he om,Hm he om]
    intro _
    exact ⟨by omega,by simp⟩
   ·rw [Hn he,Hn he]
    intro hc
    have:=hk.arm y hy hlt hc
    exact ⟨this.1,by omega⟩
  ·rw [Hl (by simp;omega)];omega
 ·intro y hy
  simp only [YO,List.mem_replicate] at hy
  rcases hy with hy|⟨_,rfl⟩
  ·exact hk.nn y hy
  ·exact Int.le_refl 0
 ·intro y hy
  simp only [YO,List.mem_replicate] at hy
  rcases hy with hy|⟨_,rfl⟩
  ·exact hk.bd y hy
  ·exact hq
theorem CM {n:Zu} {L:Zv} {q:Int} {s:Z3} {i:Nat} {m:LI} (hk:X5 n.decls L q) (hq:0<=q) (hf:Jp n L.vars s) (hop:s.op=7∨s.op=8) (hm:(Xm n.decls s.op s.num)[i]? = some m) :
  X5 n.decls (U7 n.decls L s.op s.num s.args i) q/\(U7 n.decls L s.op s.num s.args i).vars=L.vars++m:=by
 rw [U7]
 split
 ·rename_i h8
  obtain ⟨a,ha⟩:=hf.one om
  have hb:=hf.args a (by rw [ha];simp)
  have hg:gI s.args 0=a:=by rw [ha];rfl
  rw [Xm,Zs om,Qo] at hm
  cases hc:(ZW n.decls s.num)[i]? with
  | none=>rw [hc] at hm;cases hm
  | some c=>
   rw [hc] at hm
   cases hm
   have hgc:gI (ZW n.decls s.num) (i:Int)=c:=by rw [gI];simp [hc]
   rw [hg,hgc]
   exact N9 hk hq hb
 ·rename_i h8
  rw [Xm,Zw om] at hm
  have:m=[]:=by
   match i,hm with
   | 0,hm=>simpa using hm.symm
   | 1,hm=>simpa using hm.symm
   | i+2,hm=>simp at hm
  subst this
  exact ⟨hk,by simp⟩
theorem M6 {n:Zu}:∀{l:List Z3} {us vs:LI},Vd n l us=some vs->us.length<=vs.length
 | [],us,vs,h=>by rw [Vd] at h;cases h;exact YI _
 | s::r,us,vs,h=>by
  rw [Vd] at h
  split at h
  ·cases h
  ·have:=M6 h
   split at this
   ·simp only [Yb,BY] at this;omega
   ·exact this
theorem HI {n:Zu} {ln:LI} {L L':Zv} {op num into q:Int} {args:LI} {ds:List Zd} (hk:X5 ds L q) (h:Qa n ln L op num into args=some L'):X5 ds L' q/\L'.vars=L.vars:=by
 rw [Qa] at h
 cases ht:Tt n op num args 0 L with
 | none=>rw [ht] at h;cases h
 | some L1=>
  rw [ht] at h
  simp only at h
  obtain ⟨k1,k2,k3,k4,k5,k6⟩:=EH hk ht
  split at h
  ·rw [Bj] at h
   split at h
   ·split at h
    ·cases h
    ·cases h
     exact ⟨k1.turn rfl rfl rfl rfl (by simp) rfl k1.nn k1.bd,k2⟩
   ·cases h;exact ⟨k1,k2⟩
  ·cases h
theorem O0 {L L':Zv} {m:Nat} (h:Qx L m=some L'):L'=L.take m/\Ji (L.own.drop m) (L.tok.drop m)=true:=by
 rw [Qx] at h
 split at h
 ·rename_i hz;cases h;exact ⟨rfl,hz⟩
 ·cases h
theorem FU {r:Option Zv} {f:Zv->Option Zv} {L:Zv} (h:BO r f=some L):∃L1,r=some L1/\f L1=some L:=by
 cases r with
 | none=>cases h
 | some L1=>exact ⟨L1,rfl,h⟩
theorem If (n:Zu) (hn:X2 n) (ln:LI):∀m:Nat,
  (∀(s:Z3) (L L':Zv) (q:Int),s.sz<=m->X5 n.decls L q->0<=q->0<=Yv n L.vars s->UV n ln L s=some L'->X5 n.decls L' (q+4*s.sz)/\L'.vars=Th n L.vars s) /\
  (∀(b:Z4) (L O:Zv) (q:Int) (k:Nat),b.sz<=m->X5 n.decls L q->0<=q->0<=Xx n L.vars b->k<=L.vars.length->WU n ln L k b=some O ->
   (O.own.length=k/\O.tok.length=k/\(∀x∈O.own,0<=x/\x<=q+4*b.sz))/\VS O/\O.vars.length=k):=by
 intro m
 induction m with
 | zero=>exact ⟨fun s _ _ _ h=>by have:=s.sz_pos;omega,fun s _ _ _ _ h=>by have:=s.sz_pos;omega⟩
 | succ m ih=>
  have hs:∀(s:Z3) (L L':Zv) (q:Int),s.sz<=m+1->X5 n.decls L q->0<=q->0<=Yv n L.vars s->UV n ln L s=some L'->X5 n.decls L' (q+4*s.sz)/\L'.vars=Th n L.vars s:=by
   intro s L L' q YW hk hq hty h
   have hp:=s.sz_pos
   have hf:=M5 hty
   obtain ⟨f1,f2,f3,f4,f5⟩:=hk.len
   rw [M3] at h
   unfold QE at h
   cases hpk:Qh n ln L s.op s.num s.into s.args (TX n ln L s.op s.num s.args s.kids) with
   | none=>rw [hpk] at h;cases h
   | some L1=>
    rw [hpk] at h
    simp only at h
    have key:X5 n.decls L1 (q+4*s.sz)/\L1.vars=L.vars:=by
     rw [Qh] at hpk
     split at hpk
     ·obtain ⟨d1,d2,d3,d4,d5,d6⟩:=GT hpk
      refine ⟨hk.turn d1 d2 d3 d4 (by rw [d5]) (by rw [d6,Ua]) ?_ ?_,d1⟩
      ·rw [d6];intro x hx
       rcases QI hx with hx|rfl
       ·exact hk.nn x hx
       ·have:=EB (v:=gI s.args 0) hk.nn;omega
      ·rw [d6];intro x hx
       rcases QI hx with hx|rfl
       ·have:=hk.bd x hx;omega
       ·have:=Ez (v:=gI s.args 0) hk.bd hq;omega
     split at hpk
     ·exact ⟨(hk.take hpk).le om,(Qk hpk).2.1⟩
     split at hpk
     ·rename_i hop
      obtain ⟨d1,d2,d3,d4,d5,Lt,ht,d6⟩:=IK hpk
      have hkt:=hk.take ht
      have h3:=Vr hn.decls (gI L.con (gI s.args 0))
      refine ⟨hk.turn d1 d2 d3 d4 d5 ?_ ?_ ?_,d1⟩
      ·rw [d6,DR,(Qk ht).2.2.2.2.2.2,Ua]
      ·rw [d6];exact DS _ _ _ hkt.nn
      ·rw [d6];intro x hx
       have:=DQ _ _ _ q hq hkt.bd x hx;omega
     split at hpk
     ·rename_i hop
      split at hpk
      ·cases hpk
      ·cases hks:s.kids with
       | nil=>rw [hks,TX] at hpk;cases hpk
       | cons b bs=>
        rw [hks,TX] at hpk
        unfold JP at hpk
        cases hb:WU n ln (U7 n.decls L s.op s.num s.args 0) L.vars.length b with
        | none=>rw [hb] at hpk;cases hpk
        | some one=>
         rw [hb] at hpk
         simp only at hpk
         split at hpk
         ·cases hpk
          obtain ⟨q1,q2,q3⟩:=hf.kids hop
          have hks0:s.kids[0]? = some b:=by rw [hks];rfl
          obtain ⟨a0,ha0⟩:=Bi (xs:=Xm n.decls s.op s.num) (j:=0) om
          obtain ⟨k1,k2⟩:=CM hk hq hf hop ha0
          have hbz:=VW hks0
          obtain ⟨⟨r1,r2,r3⟩,_⟩:=ih.2 b _ one q L.vars.length om k1 hq (by rw [k2];exact q3 0 b a0 hks0 ha0) (by rw [k2];simp) hb
          refine ⟨hk.turn rfl rfl rfl rfl (by simp only;omega) (by simp only;omega) (fun x hx=>(r3 x hx).1) (fun x hx=>?_),rfl⟩
          have:=(r3 x hx).2;omega
         ·cases hpk
     ·obtain ⟨k1,k2⟩:=HI hk hpk
      exact ⟨k1.le om,k2⟩
    split at h
    ·rename_i hd
     cases h
     refine ⟨key.1.grow om ?_,by rw [Th,Zw hd];simp [Zv.grow,key.2]⟩
     split<;>omega
    ·rename_i hd
     cases h
     exact ⟨key.1,by rw [Th,Zs hd];exact key.2⟩
  refine ⟨hs,?_⟩
  intro b L O q k YW hk hq hty hkl h
  have hsteps:∀(l:List Z3) (L L':Zv) (q:Int) (vs:LI),Y5 l<=m->X5 n.decls L q->0<=q->Vd n l L.vars=some vs->Qj n ln L l=some L'->X5 n.decls L' (q+4*Y5 l)/\L'.vars=vs:=by
   intro l
   induction l with
   | nil=>intro L L' q vs _ hk _ h1 h2;rw [Vd] at h1;rw [Qj] at h2;cases h1;cases h2;exact ⟨by simpa [Y5] using hk,rfl⟩
   | cons s r ihr=>
    intro L L' q vs hz hk hq h1 h2
    rw [Y5] at hz
    rw [Qj] at h2
    obtain ⟨L1,e1,e2⟩:=FU h2
    rw [Vd] at h1
    split at h1
    ·cases h1
    ·rename_i h0
     obtain ⟨k1,k2⟩:=hs s L L1 q om hk hq om e1
     obtain ⟨k3,k4⟩:=ihr L1 L' (q+4*s.sz) vs om k1 om (by rw [k2];exact h1) e2
     exact ⟨k3.le (by rw [Y5];omega),k4⟩
  have hbz:=b.sz_eq
  rw [DW] at h
  obtain ⟨L1,e1,e2⟩:=FU h
  rw [DX] at hty
  cases hv:Vd n b.steps L.vars with
  | none=>rw [hv] at hty;simp at hty
  | some vs=>
   obtain ⟨k1,k2⟩:=hsteps b.steps L L1 q vs om hk hq hv e1
   have hlen:=M6 hv
   rw [QD] at e2
   obtain ⟨L2,e3,e4⟩:=FU e2
   have k3:X5 n.decls L2 (q+4*Y5 b.steps)/\L2.vars=L1.vars:=by
    split at e3
    ·exact ⟨k1.take e3,(Qk e3).2.1⟩
    ·cases e3;exact ⟨k1,rfl⟩
   obtain ⟨rfl,_⟩:=O0 e4
   obtain ⟨g1,g2,g3,g4,g5⟩:=k3.1.len
   have hl2:L2.vars.length=vs.length:=by rw [k3.2,k2]
   refine ⟨⟨by simp [Zv.take];omega,by simp [Zv.take];omega,fun x hx=>?_⟩,⟨by simp [Zv.take];omega,by simp [Zv.take];omega,by simp [Zv.take];omega,by simp [Zv.take];omega,by simp [Zv.take];omega⟩,by simp [Zv.take];omega⟩
   have hx':x∈L2.own:=Tl hx
   have:=k3.1.nn x hx'
   have:=k3.1.bd x hx'
   omega
theorem M4 {n:Zu} (hn:X2 n) {ln:LI} {s:Z3} {L L':Zv} {q:Int} (hk:X5 n.decls L q) (hq:0<=q) (hty:0<=Yv n L.vars s) (h:UV n ln L s=some L'):X5 n.decls L' (q+4*s.sz)/\L'.vars=Th n L.vars s:=
 (If n hn ln s.sz).1 s L L' q (YI _) hk hq hty h
theorem Gr {n:Zu} (hn:X2 n) {ln:LI} {b:Z4} {L O:Zv} {q:Int} {k:Nat} (hk:X5 n.decls L q) (hq:0<=q) (hty:0<=Xx n L.vars b) (hkl:k<=L.vars.length) (h:WU n ln L k b=some O) :
  O.own.length=k/\O.tok.length=k/\(∀x∈O.own,0<=x/\x<=q+4*b.sz):=
 ((If n hn ln b.sz).2 b L O q k (YI _) hk hq hty hkl h).1
theorem BG {n:Zu} (hn:X2 n) {ln:LI} {s:Z3} {L L1:Zv} {q:Int} (hk:X5 n.decls L q) (hq:0<=q) (hf:Jp n L.vars s)
  (hpk:Qh n ln L s.op s.num s.into s.args (TX n ln L s.op s.num s.args s.kids)=some L1):X5 n.decls L1 (q+4*s.sz)/\L1.vars=L.vars:=by
 have hp:=s.sz_pos
 obtain ⟨f1,f2,f3,f4,f5⟩:=hk.len
 rw [Qh] at hpk
 split at hpk
 ·obtain ⟨d1,d2,d3,d4,d5,d6⟩:=GT hpk
  refine ⟨hk.turn d1 d2 d3 d4 (by rw [d5]) (by rw [d6,Ua]) ?_ ?_,d1⟩
  ·rw [d6];intro x hx
   rcases QI hx with hx|rfl
   ·exact hk.nn x hx
   ·have:=EB (v:=gI s.args 0) hk.nn;omega
  ·rw [d6];intro x hx
   rcases QI hx with hx|rfl
   ·have:=hk.bd x hx;omega
   ·have:=Ez (v:=gI s.args 0) hk.bd hq;omega
 split at hpk
 ·exact ⟨(hk.take hpk).le om,(Qk hpk).2.1⟩
 split at hpk
 ·rename_i hop
  obtain ⟨d1,d2,d3,d4,d5,Lt,ht,d6⟩:=IK hpk
  have hkt:=hk.take ht
  have h3:=Vr hn.decls (gI L.con (gI s.args 0))
  refine ⟨hk.turn d1 d2 d3 d4 d5 ?_ ?_ ?_,d1⟩
  ·rw [d6,DR,(Qk ht).2.2.2.2.2.2,Ua]
  ·rw [d6];exact DS _ _ _ hkt.nn
  ·rw [d6];intro x hx
   have:=DQ _ _ _ q hq hkt.bd x hx;omega
 split at hpk
 ·rename_i hop
  split at hpk
  ·cases hpk
  ·cases hks:s.kids with
   | nil=>rw [hks,TX] at hpk;cases hpk
   | cons b bs=>
    rw [hks,TX] at hpk
    unfold JP at hpk
    cases hb:WU n ln (U7 n.decls L s.op s.num s.args 0) L.vars.length b with
    | none=>rw [hb] at hpk;cases hpk
    | some one=>
     rw [hb] at hpk
     simp only at hpk
     split at hpk
     ·cases hpk
      obtain ⟨q1,q2,q3⟩:=hf.kids hop
      have hks0:s.kids[0]? = some b:=by rw [hks];rfl
      obtain ⟨a0,ha0⟩:=Bi (xs:=Xm n.decls s.op s.num) (j:=0) om
      obtain ⟨k1,k2⟩:=CM hk hq hf hop ha0
      have hbz:=VW hks0
      obtain ⟨r1,r2,r3⟩:=Gr hn k1 hq (by rw [k2];exact q3 0 b a0 hks0 ha0) (by rw [k2];simp) hb
      refine ⟨hk.turn rfl rfl rfl rfl (by simp only;omega) (by simp only;omega) (fun x hx=>(r3 x hx).1) (fun x hx=>?_),rfl⟩
      have:=(r3 x hx).2;omega
     ·cases hpk
 ·obtain ⟨k1,k2⟩:=HI hk hpk
  exact ⟨k1.le om,k2⟩
end Go.Abs
section
namespace Go.Abs
theorem Na {ds:List Zd} {op num:Int} {i:Nat} {m:LI} (h8:op=8) (h:(Xm ds op num)[i]? = some m):∃c,(ZW ds num)[i]? = some c/\m=ZY ds c:=by
 rw [Xm,Zs om,Qo] at h
 cases hc:(ZW ds num)[i]? with
 | none=>rw [hc] at h;cases h
 | some c=>rw [hc] at h;cases h;exact ⟨c,rfl,rfl⟩
theorem RZ {ds:List Zd} {L:Zv} {op num x c:Int} {args:LI} {i:Nat} (h8:op=8) (hx:args[0]? = some x) (hc:(ZW ds num)[i]? = some c):U7 ds L op num args i=Js ds L x c:=by
 have h1:gI args 0=x:=by rw [gI];simp [hx]
 have h2:gI (ZW ds num) (i:Int)=c:=by rw [gI];simp [hc]
 rw [U7,Zw h8,h1,h2]
theorem S0 {ds:List Zd} {L:Zv} {op num:Int} {args:LI} {i:Nat} (h8:¬op=8):U7 ds L op num args i=L:=by rw [U7,Zs h8]
theorem S4 {n:Zu} {ln:LI} {L:Zv} {op num:Int} {args:LI} {kids:List Z4} {kb:Z4} (h:kids[0]? = some kb) :
  TX n ln L op num args kids=JP L (WU n ln (U7 n.decls L op num args 0) L.vars.length kb) fun one=>Qe n ln L op num args one (kids.drop 1) 1:=by
 cases kids with
 | nil=>simp at h
 | cons b bs=>simp at h;subst h;rw [TX];rfl
theorem S5 {n:Zu} {ln:LI} {L one:Zv} {op num:Int} {args:LI} {kids:List Z4} {kb:Z4} {k:Nat} (h:kids[k]? = some kb) :
  Qe n ln L op num args one (kids.drop k) k=Di one (WU n ln (U7 n.decls L op num args k) L.vars.length kb) (Qe n ln L op num args one (kids.drop (k+1)) (k+1)):=by
 rw [Ye h,Qe]
def Ju (n:Zu) (ln:LI) (L:Zv) (s:Z3):Option Zv:=
 if s.op=8/\¬VB L ln (gI s.args 0)=true then none else TX n ln L s.op s.num s.args s.kids
theorem NC {n:Zu} {ln:LI} {L:Zv} {s:Z3} {kb:Z4} (h:¬(s.op=8/\¬VB L ln (gI s.args 0)=true)) (hk:s.kids[0]? = some kb) :
  Ju n ln L s=JP L (WU n ln (U7 n.decls L s.op s.num s.args 0) L.vars.length kb) fun one=>Qe n ln L s.op s.num s.args one (s.kids.drop 1) 1:=by
 rw [Ju,Zs h,S4 hk]
theorem Kf {xs:LI} {x:Int} (h:xs[0]? = some x):gI xs 0=x:=by rw [gI];simp [h]
end Go.Abs
namespace Go.Abs
theorem VS.grow {L:Zv} {t o p:Int} (h:VS L):VS (L.grow t o p):=by
 obtain ⟨f1,f2,f3,f4,f5⟩:=h
 exact ⟨by simp [Zv.grow,f1],by simp [Zv.grow,f2],by simp [Zv.grow,f3],by simp [Zv.grow,f4],by simp [Zv.grow,f5]⟩
theorem VS.arm {L:Zv} {i j:Nat} {c d:Int} (h:VS L):VS ⟨L.vars,L.own,L.par,L.con.set i c,L.fst.set j d,L.tok⟩:=by
 obtain ⟨f1,f2,f3,f4,f5⟩:=h
 exact ⟨f1,f2,by simp [f3],by simp [f4],f5⟩
end Go.Abs
namespace Go.Abs
theorem I6 {n:Zu} (hn:X2 n) {ln:LI} {L O:Zv} {q:Int} {s:Z3} {i:Nat} {kb:Z4} {m:LI} (hk:X5 n.decls L q) (hq:0<=q) (hf:Jp n L.vars s) (hop:s.op=7∨s.op=8)
  (_:s.kids[i]? = some kb) (harm:(Xm n.decls s.op s.num)[i]? = some m) (hbt:0<=Xx n (L.vars++m) kb) (h:WU n ln (U7 n.decls L s.op s.num s.args i) L.vars.length kb=some O) :
  O.own.length=L.vars.length/\O.tok.length=L.vars.length:=by
 obtain ⟨k1,k2⟩:=CM hk hq hf hop harm
 obtain ⟨r1,r2,_⟩:=Gr hn k1 hq (by rw [k2];exact hbt) (by rw [k2];simp) h
 exact ⟨r1,r2⟩
theorem Z1c {one two:Zv} {r:Bool} (h:¬(¬one.own=two.own∨¬one.tok=two.tok)):Di one (some two) r=r:=Zw ⟨AS.1 fun q=>h (.inl q),AS.1 fun q=>h (.inr q)⟩
theorem Z1b {one two:Zv} {r:Bool} (h:¬one.own=two.own∨¬one.tok=two.tok):Di one (some two) r=false:=Zs fun q=>h.elim (fun z=>z q.1) fun z=>z q.2
theorem Sy {L one:Zv} {f:Zv->Bool} (h:f one=true):JP L (some one) f=some ⟨L.vars,one.own,L.par,L.con,L.fst,one.tok⟩:=Zw h
theorem Il {L one:Zv} {f:Zv->Bool} (h:f one=false):JP L (some one) f=none:=Zs (by rw [h];simp)
end Go.Abs
namespace Go.Abs
section
variable {n:Zu} {ln:LI} {L:Zv} {s:Z3}
abbrev QM (n:Zu) (ln:LI) (L:Zv) (s:Z3):Option Zv:=Qh n ln L s.op s.num s.into s.args (TX n ln L s.op s.num s.args s.kids)
theorem IN {x:Int} (h:s.op=14) (hx:gI s.args 0=x):QM n ln L s=Jz L ln x:=hx▸Zw h
theorem IP {x:Int} (h:s.op=15) (hx:gI s.args 0=x):QM n ln L s=Uq L x:=by rw [<-hx,QM,Qh,Zs om,Zw h]
theorem IQ {x:Int} (h:s.op=16∨s.op=17) (hx:gI s.args 0=x):QM n ln L s=QL n.decls L s.op x:=by rw [<-hx,QM,Qh,Zs om,Zs om,Zw h]
theorem IR (h:s.op=7∨s.op=8):QM n ln L s=Ju n ln L s:=by rw [QM,Qh,Zs om,Zs om,Zs om,Zw h,Ju]
theorem IS (h1:¬s.op=14) (h2:¬s.op=15) (h3:¬(s.op=16∨s.op=17)) (h4:¬(s.op=7∨s.op=8)):QM n ln L s=Qa n ln L s.op s.num s.into s.args:=by
 rw [QM,Qh,Zs h1,Zs h2,Zs h3,Zs h4]
theorem Oj {v:Int} (h:¬VB L ln v=true):Jz L ln v=none:=Zs h
theorem Ok {v x:Int} (h:¬¬VB L ln v=true) (hx:gI L.own v=x):Jz L ln v=some ⟨L.vars,L.own.set v.toNat (x+1),L.par,L.con,L.fst,L.tok⟩:=by rw [Jz,Zw (AS.1 h),hx]
theorem VN (n:Zu) (ln:LI) (L:Zv) (s:Z3):UV n ln L s=QE L s.op (Yv n L.vars s) (QM n ln L s):=M3 n ln L s
theorem VG {X:Zv} {op t:Int} (h:Xp op=true/\t≠0):QE L op t (some X)=some (X.grow t 1 (-1)):=by
 unfold QE;simp only [h.1,↓reduceIte];rw [Zw h.2]
theorem VH {X:Zv} {op t:Int} (h:¬(Xp op=true/\t≠0)) (h2:Xp op=true):QE L op t (some X)=some (X.grow 0 0 (-1)):=by
 have ht:t=0:=AS.1 fun q=>h ⟨h2,q⟩
 subst ht
 unfold QE;simp only [h2,↓reduceIte];rfl
theorem VI {X:Zv} {op t:Int} (h:¬Xp op=true):QE L op t (some X)=some X:=by
 unfold QE;simp only [Zs h]
end
end Go.Abs
namespace Go.Abs
theorem Gs {n:Zu} {us:LI} {b:Z4} (h:0<=Xx n us b):∃vs t,Vd n b.steps us=some vs/\Va vs b.result=some t/\0<=t:=by
 rw [DX] at h
 cases hv:Vd n b.steps us with
 | none=>rw [hv] at h;simp at h
 | some vs=>
  rw [hv] at h
  simp only at h
  cases ha:Va vs b.result with
  | none=>rw [ha] at h;simp at h
  | some t=>rw [ha] at h;exact ⟨vs,t,rfl,ha,h⟩
theorem M7 {n:Zu} {us vs:LI} {s:Z3} {r:List Z3} (h:Vd n (s::r) us=some vs):0<=Yv n us s/\Vd n r (Th n us s)=some vs:=by
 rw [Vd] at h
 split at h
 ·cases h
 ·exact ⟨by omega,h⟩
theorem Lr (n:Zu) (us:LI) (s:Z3):us.length<=(Th n us s).length/\(Th n us s).length<=us.length+s.sz:=by
 have:=s.sz_pos
 rw [Th];split
 ·simp only [Yb,BY];omega
 ·omega
end Go.Abs
namespace Go.Abs
theorem OE {X L:Zv} {m:Nat} {r x:Int} (hg:gI L.vars r=x) (h:x≠0) (ht:Uq L r=some X):QD m r L=Qx X m:=by rw [QD,hg,Zw h,ht];rfl
theorem OD {L:Zv} {m:Nat} {r x:Int} (hg:gI L.vars r=x) (h:x≠0) (ht:Uq L r=none):QD m r L=none:=by rw [QD,hg,Zw h,ht];rfl
theorem B8 {L:Zv} {m:Nat} {r x:Int} (hg:gI L.vars r=x) (h:¬x≠0):QD m r L=Qx L m:=by rw [QD,hg,Zs h];rfl
end Go.Abs
namespace Go.Abs
theorem IM {ds:List Zd} {lent:LI}:∀{ps:LI} {i:Nat} {L:Zv},X5 ds L 1->X5 ds (Kr lent ps i L) 1/\(Kr lent ps i L).vars=L.vars++ps
 | [],i,L,hk=>⟨hk,by simp [Kr]⟩
 | t::r,i,L,hk=>by
  rw [Kr]
  obtain ⟨k1,k2⟩:=IM (lent:=lent) (ps:=r) (i:=i+1) (hk.grow (t:=t) (o:=if t≠0/\¬(i:Int)∈lent then 1 else 0) (p:=-1) om (by split<;>omega))
  exact ⟨k1,by rw [k2];simp [Zv.grow]⟩
theorem SC (ds:List Zd) (r:Y1):X5 ds (Q0 r) 1/\(Q0 r).vars=r.params:=by
 have h:X5 ds (⟨[],[],[],[],[],[]⟩:Zv) 1:=⟨⟨rfl,rfl,rfl,rfl,rfl⟩,fun j h1 h2=>by simp at h2;omega,fun j h1 h2=>by simp at h2;omega,by simp,by simp⟩
 obtain ⟨k1,k2⟩:=IM (lent:=r.lent) (ps:=r.params) (i:=0) h
 exact ⟨k1,by rw [Q0,k2];rfl⟩
end Go.Abs
namespace Go.Abs
theorem Lb {n:Zu}:∀{l:List Y1},Ku n l=true->∀r∈l,¬Wy r.body<0/\Xx n r.params r.body=r.result
 | [],_,r,h=>by simp at h
 | a::l,h,r,hr=>by
  rw [Ku] at h
  split at h
  ·rename_i h1
   rcases Yj.1 hr with rfl|hr
   ·exact h1
   ·exact Lb h r hr
  ·cases h
theorem Z3y {n:Zu} (hz:KH n) (h:TE n=true):X2 n/\∀r∈n.routines,0<=Xx n r.params r.body:=by
 simp only [TE,W4] at h
 refine ⟨Iq hz h.1,fun r hr=>?_⟩
 rw [(Lb h.2 r hr).2]
 have h1:=h.1
 simp only [QJ,Ql,W4] at h1
 have:=Lz h1.2.1.2.2.1 (Uo r) (W5.2 ⟨r,hr,rfl⟩)
 simp only [JV,W4,decide_eq_true_eq,Uo] at this
 exact (of_decide_eq_true this.2.2).1
end Go.Abs
end
section
namespace Go.Abs
end Go.Abs
namespace Go.Abs
end Go.Abs
namespace Go.Abs
end Go.Abs
end
section
namespace Go.Abs
end Go.Abs
namespace Go.Abs
end Go.Abs
namespace Go.Abs
end Go.Abs
end
section
namespace Go.Abs
structure G9 where
 pms:LI
 lnt:LI
 res:Int
end Go.Abs
namespace Go.Abs
section
variable {ds:List Zd} {fs:List G9} {x:G9}
end
end Go.Abs
end
section
namespace Go.Abs
structure NTy (n:Zu):Prop where
 result:∀r∈n.routines,0<=r.result
 params:∀r∈n.routines,∀p∈r.params,0<=p
 decl:∀d∈n.decls,d.cons.length=0->0<=d.frm/\0<=d.to_
 fields:∀c,∀f∈ZY n.decls c,0<=f
end Go.Abs
namespace Go.Abs
end Go.Abs
namespace Go.Abs
end Go.Abs
namespace Go.Abs
section
variable {S:Option Int} {c:Prop} [Decidable c] {v:Int} {b:Bool}
end
section
variable {n:Zu} {op num:Int} {ts:LI}
end
end Go.Abs
end
namespace Go.Abs
mutual
def Z3.rng:Z3->Prop
 | .mk _ num _ _ kids=>(-9223372036854775808<=num/\num<=9223372036854775807)/\Qv kids
def Z4.rng:Z4->Prop
 | .mk steps _=>QQ steps
def QQ:List Z3->Prop
 | []=>True
 | s::r=>s.rng/\QQ r
def Qv:List Z4->Prop
 | []=>True
 | b::r=>b.rng/\Qv r
end
theorem Z3.rng_eq (s:Z3):s.rng=((-9223372036854775808<=s.num/\s.num<=9223372036854775807)/\Qv s.kids):=by cases s;rw [Z3.rng];rfl
theorem Z4.rng_eq (b:Z4):b.rng=QQ b.steps:=by cases b;rw [Z4.rng];rfl
section
variable {n:Zu} {us ts:LI} {s:Z3}
end
theorem Z38 {n:Zu} {us:LI} {s:Z3} (h:0<=Yv n us s):(0<=s.op/\s.op<=11)∨(14<=s.op/\s.op<=17):=by
 rw [FJ] at h
 by_cases hq:(0<=s.op/\s.op<=11)∨(14<=s.op/\s.op<=17)
 ·exact hq
 ·exfalso
  split at h
  ·omega
  rw [Zs om,Zs om,Zs om,Zs om,Zs om,Zs om,Zs om,Zs om,Zs om] at h
  omega
theorem GS {n:Zu} {us:LI} {s:Z3} (h:0<=Yv n us s):Xp s.op=!YG s.op:=by
 have:=Z38 h
 rw [Xp,YG,Xi];simp;omega

end Go.Abs
section
namespace Go.Abs
structure A6 where
 mat:Int
 fst:Int
 fds:LI
 chg:Bool
def Ix:List A6->Int->Option A6
 | [],_=>none
 | a::r,v=>match Ix r v with
  | some x=>some x
  | none=>if a.mat=v then some a else none
structure Z4i (ds:List Zd) (L:Zv) (as1:List A6):Prop where
 rng:∀a∈as1,0<=a.mat/\a.mat<a.fst/\a.fst+a.fds.length<=L.vars.length
 par:∀a∈as1,∀v:Int,a.fst<=v->v<a.fst+a.fds.length->gI L.par v=a.mat
 non:∀v:Int,0<=v->v<L.vars.length->0<=gI L.par v->∃a∈as1,a.fst<=v/\v<a.fst+a.fds.length
 off:∀v:Int,0<=v->v<L.vars.length->match Ix as1 v with
  | none=>gI L.con v<0
  | some a=>0<=gI L.con v/\a.fst=gI L.fst v/\a.fds=ZY ds (gI L.con v)
end Go.Abs
namespace Go.Abs
end Go.Abs
namespace Go.Abs
end Go.Abs
namespace Go.Abs
section
variable {n:Zu} {ln:LI} {L:Zv} {op v:Int} {am:List A6} {a:A6}
end
end Go.Abs
namespace Go.Abs
end Go.Abs
end
section
namespace Go.Abs
section
variable {n:Zu} {us:LI} {op num:Int}
end
end Go.Abs
namespace Go.Abs
end Go.Abs
namespace Go.Abs
end Go.Abs
end
section
namespace Go.Abs
section
variable {n:Zu} {ln:LI}
end
end Go.Abs
namespace Go.Abs
end Go.Abs
namespace Go.Abs
end Go.Abs
namespace Go.Abs
section
variable {n:Zu} {ln:LI} {L:Zv} {s:Z3}
end
end Go.Abs
namespace Go.Abs
end Go.Abs
namespace Go.Abs
end Go.Abs
namespace Go.Abs
end Go.Abs
end
section
namespace Go.Abs
end Go.Abs
namespace Go.Abs
end Go.Abs
namespace Go.Abs
end Go.Abs
end
section
namespace Go.Abs
end Go.Abs
namespace Go.Abs
end Go.Abs
namespace Go.Abs
end Go.Abs
namespace Go.Abs
end Go.Abs
end
namespace Go.Abs
def Zl (op v:Int):Z3:=.mk op 0 0 [v] []
def Vu (ds:List Zd) (num:Int) (k:Nat):LI:=((ZW ds num).map (ZY ds))[k]?.getD []
section
variable {ds:List Zd} {am:List A6} {m:Nat}
end
theorem H8 {ds:List Zd} {num:Int} {k:Nat} {m:LI} (h:((ZW ds num).map (ZY ds))[k]? = some m):Vu ds num k=m:=by rw [Vu,h];rfl
theorem OL {ds:List Zd} (hd:Wg ds) (num:Int) (k:Nat):(Vu ds num k).length<=3:=by
 rw [Vu,Qo]
 cases (ZW ds num)[k]? with
 | none=>simp
 | some c=>exact Vr hd c
theorem FI {xs:List Z3} {k:Nat} {s:Z3} (h:xs[k]? = some s):Y5 (xs.take (k+1))=Y5 (xs.take k)+s.sz:=by
 induction xs generalizing k with
 | nil=>simp at h
 | cons t r ih=>
  cases k with
  | zero=>simp at h;subst h;simp [Y5]
  | succ k=>rw [A3,A3,Y5,Y5,ih (by simpa using h)];omega
theorem TC (xs:List Z3) (k:Nat):Y5 (xs.take k)<=Y5 xs:=by
 induction xs generalizing k with
 | nil=>simp
 | cons t r ih=>
  cases k with
  | zero=>simp [Y5]
  | succ k=>have:=ih k;rw [A3,Y5,Y5];omega
theorem Z1i {n:Zu} {us:LI} {s:Z3} (g:0<=Yv n us s) (h:YG s.op=true):Th n us s=us:=by rw [Th,GS g,h];rfl
theorem Z1h {n:Zu} {us:LI} {s:Z3} (g:0<=Yv n us s) (h:¬YG s.op=true):(Th n us s).length=us.length+1:=by
 rw [Th,GS g,BU.2 h];simp
theorem Z1j {n:Zu} {us:LI} {s:Z3} (g:0<=Yv n us s):(Th n us s).length=if YG s.op=true then us.length else us.length+1:=by
 split
 ·rw [Z1i g (by assumption)]
 ·exact Z1h g (by assumption)

theorem VZ:∀(xs ys:List Z3),Y5 (xs++ys)=Y5 xs+Y5 ys
 | [],ys=>by simp [Y5]
 | x::r,ys=>by rw [Qn,Y5,Y5,VZ r ys];omega
theorem Cc (op v:Int):(Zl op v).sz=2:=by rw [Zl,Z3.sz];simp [YF]
theorem FF (op:Int):∀l:LI,Y5 (l.map (Zl op))=2*l.length
 | []=>by simp [Y5]
 | x::r=>by rw [VQ,Y5,Cc,FF op r,Yw];omega
section
variable {ds:List Zd} (hd:Wg ds)
include hd
end
section
variable {ds:List Zd} {cons first:LI}
end
section
variable {ds:List Zd} (hd:Wg ds)
include hd
end
def Xh:List Z3->Nat
 | []=>0
 | s::r=>if s.op=14∨s.op=15 then Xh r+1 else 0
def XO (op:Int):List Z3->LI
 | []=>[]
 | s::r=>if s.op=op then gI s.args 0::XO op r else XO op r
def Vw:LI->Int->LI->LI->LI × LI
 | [],_,D,R=>(D,R)
 | f::r,q,D,R=>if f≠0/\q∈D then Vw r (q+1) (D.erase q) R else if f≠0 then Vw r (q+1) D (R++[q]) else Vw r (q+1) D R
def Kq (xs:List Z3) (x:Int) (fs:LI) (q:Int):LI × LI:=Vw fs q (XO 14 (xs.take (Xh xs))) ((XO 15 (xs.take (Xh xs))).erase x)
def KN (xs:List Z3) (x:Int) (fs:LI) (q:Int):List Z3:=
 if x∈XO 15 (xs.take (Xh xs))/\fs.length≠0 then (Kq xs x fs q).1.map (Zl 14)++[Zl 16 x]++(Kq xs x fs q).2.map (Zl 15)++xs.drop (Xh xs) else xs
def Qr (b:Z4) (x:Int) (fs:LI) (q:Int):Z4:=.mk (KN b.steps x fs q) b.result
theorem Db:∀xs:List Z3,Xh xs<=xs.length
 | []=>YI _
 | s::r=>by have:=Db r;rw [Xh];split<;>simp<;>omega
theorem Lj:∀{xs:List Z3} {s:Z3},s∈xs.take (Xh xs)->s.op=14∨s.op=15
 | [],s,h=>by simp [Xh] at h
 | t::r,s,h=>by
  rw [Xh] at h
  split at h
  ·rename_i q
   rw [A3] at h
   rcases Yj.1 h with rfl|h
   ·exact q
   ·exact Lj h
  ·simp at h
theorem DU:∀xs:List Z3,(XO 14 xs).length+(XO 15 xs).length<=xs.length
 | []=>by simp [XO]
 | s::r=>by
  have:=DU r
  rw [XO,XO]
  by_cases h:s.op=14
  ·rw [Zw h,Zs om];simp;omega
  ·rw [Zs h];split<;>simp<;>omega
theorem D5:∀(fs:LI) (q:Int) (D R:LI),(Vw fs q D R).1.length+(Vw fs q D R).2.length<=D.length+R.length+fs.length
 | [],q,D,R=>by simp [Vw]
 | f::r,q,D,R=>by
  rw [Vw,Yw]
  split
  ·have:=D5 r (q+1) (D.erase q) R
   have h2:=List.length_erase_le (a:=q) (l:=D)
   omega
  ·split
   ·have:=D5 r (q+1) D (R++[q])
    simp only [Yb,Yw,YV] at this
    omega
   ·have:=D5 r (q+1) D R
    omega
theorem Z03 {xs:List Z3} {x:Int} {fs:LI} {q:Int} (h:x∈XO 15 (xs.take (Xh xs))) (hf:fs.length<=3):(Kq xs x fs q).1.length+(Kq xs x fs q).2.length<=Xh xs+2:=by
 have h1:=D5 fs q (XO 14 (xs.take (Xh xs))) ((XO 15 (xs.take (Xh xs))).erase x)
 have h2:=DU (xs.take (Xh xs))
 have h3:=List.length_pos_of_mem h
 rw [List.length_erase_of_mem h] at h1
 rw [W8] at h2
 have h4:=Db xs
 unfold Kq
 omega
theorem Z2v (xs:List Z3) (k:Nat):Y5 xs=Y5 (xs.take k)+Y5 (xs.drop k):=by rw [<-VZ,U1]
theorem LZ:∀xs:List Z3,(∀s∈xs,2<=s.sz)->2*xs.length<=Y5 xs
 | [],_=>by simp
 | s::r,h=>by
  have h1:=LZ r fun t ht=>h t (X8 _ ht)
  have h2:=h s (YL ..)
  rw [Y5,Yw];omega
theorem MY {xs:List Z3} {x:Int} {fs:LI} {q:Int} (hf:fs.length<=3) (h:∀s∈xs,s.op=14∨s.op=15->2<=s.sz):Y5 (KN xs x fs q)<=Y5 xs+6:=by
 rw [KN]
 split
 ·rename_i hc
  have h1:=Z03 (q:=q) hc.1 hf
  have h2:=LZ (xs.take (Xh xs)) fun s hs=>h s (Tl hs) (Lj hs)
  have h3:=Z2v xs (Xh xs)
  have h4:=Db xs
  rw [W8] at h2
  rw [VZ,VZ,VZ,FF,FF,Y5,Y5,Cc]
  omega
 ·omega
def Cn (s:Z3):Prop:=s=Zl s.op (gI s.args 0)
theorem MX {xs:List Z3} {m:Int} {fs:LI} {q:Int} (h:¬(m∈XO 15 (xs.take (Xh xs))/\fs.length≠0)):KN xs m fs q=xs:=Zs h
end Go.Abs
section
namespace Go.Abs
mutual
def JW (ds:List Zd) (m:Nat):Z3->Z3
 | .mk op num into args kids=>.mk op num into args (Up ds m op num args kids 0)
def Up (ds:List Zd) (m:Nat) (op num:Int) (args:LI):List Z4->Nat->List Z4
 | [],_=>[]
 | b::r,k=>(if op=8 then Qr (We ds (m+(Vu ds num k).length) b) (gI args 0) (Vu ds num k) m else We ds m b)::Up ds m op num args r (k+1)
def VM (ds:List Zd) (m:Nat):List Z3->List Z3
 | []=>[]
 | s::r=>JW ds m s::VM ds (if YG s.op=true then m else m+1) r
def We (ds:List Zd) (m:Nat):Z4->Z4
 | .mk steps result=>.mk (VM ds m steps) result
end
def Dl (ds:List Zd) (m:Nat) (op num:Int) (args:LI) (k:Nat) (b:Z4):Z4:=if op=8 then Qr (We ds (m+(Vu ds num k).length) b) (gI args 0) (Vu ds num k) m else We ds m b
theorem Fz (ds:List Zd) (m:Nat) (s:Z3):JW ds m s=.mk s.op s.num s.into s.args (Up ds m s.op s.num s.args s.kids 0):=by cases s;rw [JW];rfl
theorem Dj (ds:List Zd) (m:Nat) (b:Z4):We ds m b=.mk (VM ds m b.steps) b.result:=by cases b;rw [We];rfl
section
variable {ds:List Zd} {m:Nat}
theorem Z1t {xs acc r:List Z3} {k:Nat} {s:Z3} (h:xs[k]? = some s) (ha:acc++VM ds m (xs.drop k)=r) :
  (acc++[.mk s.op s.num s.into s.args (Up ds m s.op s.num s.args s.kids 0)])++VM ds (if YG s.op=true then m else m+1) (xs.drop (k+1))=r:=by
 rw [Ye h,VM,Fz] at ha
 rw [<-ha];simp
theorem Z1s {xs acc r:List Z3} {k:Nat} (h:xs.length<=k) (ha:acc++VM ds m (xs.drop k)=r):acc=r:=by
 rw [Xf h,VM,Tk] at ha;exact ha
theorem LA {op num:Int} {args:LI} {bs acc r:List Z4} {k:Nat} {b:Z4} (h:bs[k]? = some b) (ha:acc++Up ds m op num args (bs.drop k) k=r) :
  (acc++[Dl ds m op num args k b])++Up ds m op num args (bs.drop (k+1)) (k+1)=r:=by
 rw [Ye h,Up] at ha
 rw [<-ha,Dl];simp
theorem Z1p {op num:Int} {args:LI} {bs acc r:List Z4} {k j:Nat} (h:bs.length<=k) (ha:acc++Up ds m op num args (bs.drop k) j=r):acc=r:=by
 rw [Xf h,Up,Tk] at ha;exact ha
end
mutual
def wS (ds:List Zd):Z3->Prop
 | .mk op num into args kids=>(Xp op=!YG op)/\(YG op=true->num=0/\into=0/\kids=[]/\∃a,args=[a])/\(op=8->(∃a,args=[a]/\0<=a/\a<=900000000)/\kids.length=(ZW ds num).length)/\Kx ds kids
def Kx (ds:List Zd):List Z4->Prop
 | []=>True
 | b::r=>wB ds b/\Kx ds r
def Tj (ds:List Zd):List Z3->Prop
 | []=>True
 | s::r=>wS ds s/\Tj ds r
def wB (ds:List Zd):Z4->Prop
 | .mk steps _=>Tj ds steps
end
section
variable {ds:List Zd}
theorem Qm (s:Z3):wS ds s↔(Xp s.op=!YG s.op)/\(YG s.op=true->s.num=0/\s.into=0/\s.kids=[]/\∃a,s.args=[a])/\(s.op=8->(∃a,s.args=[a]/\0<=a/\a<=900000000)/\s.kids.length=(ZW ds s.num).length)/\Kx ds s.kids:=by cases s;rw [wS];rfl
theorem Q5 (b:Z4):wB ds b↔Tj ds b.steps:=by cases b;rw [wB];rfl
theorem Ky:∀{xs:List Z3},Tj ds xs↔∀s∈xs,wS ds s
 | []=>by simp [Tj]
 | s::r=>by rw [Tj,Ky];simp
theorem Dx:∀{xs:List Z4},Kx ds xs↔∀s∈xs,wB ds s
 | []=>by simp [Kx]
 | s::r=>by rw [Kx,Dx];simp
theorem Mv {b:Z4} {k:Nat} {s:Z3} (h:wB ds b) (hs:b.steps[k]? = some s):wS ds s:=Ky.1 ((Q5 b).1 h) s (ZU hs)
theorem FZ {s:Z3} {k:Nat} {b:Z4} (h:wS ds s) (hb:s.kids[k]? = some b):wB ds b:=Dx.1 ((Qm s).1 h).2.2.2 b (ZU hb)
theorem Dy {s:Z3} (h:wS ds s) (hc:YG s.op=true):Cn s/\s.kids=[]/\∃a,s.args=[a]:=by
 obtain ⟨h1,h2,h3,a,h4⟩:=((Qm s).1 h).2.1 hc
 refine ⟨?_,h3,a,h4⟩
 cases s with
 | mk op num into args kids=>
  simp only [Z3.num,Z3.into,Z3.kids,Z3.args] at h1 h2 h3 h4
  subst h1 h2 h3 h4
  rfl
theorem Z4b {op v:Int} (h:op=14∨op=15∨op=16):wS ds (Zl op v):=(Qm _).2 ⟨by show Xp op=!YG op;rcases h with rfl|rfl|rfl<;>rfl,fun _=>⟨rfl,rfl,rfl,v,rfl⟩,fun e=>absurd e (show op≠8 by omega),True.intro⟩
theorem Z4c {s:Z3} (h:wS ds s):Xp s.op=!YG s.op:=((Qm s).1 h).1
theorem BT {s:Z3} (h:wS ds s) (h8:s.op=8):(∃a,s.args=[a]/\0<=a/\a<=900000000)/\s.kids.length=(ZW ds s.num).length:=((Qm s).1 h).2.2.1 h8
theorem DG {xs:List Z3} (h:Tj ds xs):∀s∈xs,YG s.op=true->Cn s:=fun s hs hc=>(Dy (Ky.1 h s hs) hc).1
end
section
variable {n:Zu}
end
mutual
def Z3.pz:Z3->Nat
 | .mk _ _ _ args kids=>1+args.length+AC kids
def Z4.pz:Z4->Nat
 | .mk steps _=>1+AE steps
def AE:List Z3->Nat
 | []=>0
 | s::r=>s.pz+AE r
def AC:List Z4->Nat
 | []=>0
 | b::r=>b.pz+8+AC r
end
mutual
theorem Z3.pz_le:∀s:Z3,s.pz<=9*s.sz
 | .mk _ _ _ args kids=>by have:=IV kids;rw [Z3.pz,Z3.sz];omega
theorem Z4.pz_le:∀b:Z4,b.pz+8<=9*b.sz
 | .mk steps _=>by have:=IW steps;rw [Z4.pz,Z4.sz];omega
theorem IW:∀xs:List Z3,AE xs<=9*Y5 xs
 | []=>T0 _
 | s::r=>by have:=s.pz_le;have:=IW r;rw [AE,Y5];omega
theorem IV:∀xs:List Z4,AC xs<=9*YF xs
 | []=>T0 _
 | s::r=>by have:=s.pz_le;have:=IV r;rw [AC,YF];omega
end
section
variable {ds:List Zd}
theorem NG {op:Int} (h:op=14∨op=15):YG op=true:=by rw [YG];simp;omega
theorem Z1u {xs:List Z3}:∀{m:Nat},Tj ds xs->∀s∈VM ds m xs,s.op=14∨s.op=15->2<=s.sz:=by
 induction xs with
 | nil=>intro m _ s hs;simp [VM] at hs
 | cons t r ih=>
  intro m h s hs ho
  rw [VM] at hs
  rcases Yj.1 hs with rfl|hs
  ·rw [Fz] at ho ⊢
   obtain ⟨_,_,a,ha⟩:=Dy h.1 (NG ho)
   rw [Z3.sz,ha];simp
  ·exact ih h.2 s hs ho
variable (hd:Wg ds)
include hd
mutual
theorem Z1q:∀(s:Z3) {m:Nat},wS ds s->(JW ds m s).sz<=s.pz
 | .mk op num into args kids,m,h=>by
  have:=LE kids (m:=m) (op:=op) (num:=num) (args:=args) (k:=0) h.2.2.2
  rw [JW,Z3.sz,Z3.pz];omega
theorem LE:∀(bs:List Z4) {m:Nat} {op num:Int} {args:LI} {k:Nat},Kx ds bs->YF (Up ds m op num args bs k)<=AC bs
 | [],_,_,_,_,_,_=>YI _
 | b::r,m,op,num,args,k,h=>by
  have h2:=LE r (m:=m) (op:=op) (num:=num) (args:=args) (k:=k+1) h.2
  rw [Up,YF,AC]
  split
  ·have h1:=Dk b (m:=m+(Vu ds num k).length) h.1
   have h3:=MY (xs:=(We ds (m+(Vu ds num k).length) b).steps) (x:=gI args 0) (q:=(m:Int)) (OL hd num k) (by rw [Dj];exact Z1u ((Q5 b).1 h.1))
   rw [Qr,Z4.sz]
   rw [Z4.sz_eq] at h1
   omega
  ·have h1:=Dk b (m:=m) h.1
   omega
theorem LF:∀(xs:List Z3) {m:Nat},Tj ds xs->Y5 (VM ds m xs)<=AE xs
 | [],_,_=>YI _
 | s::r,m,h=>by
  have h1:=Z1q s (m:=m) h.1
  have h2:=LF r (m:=if YG s.op=true then m else m+1) h.2
  rw [VM,Y5,AE];omega
theorem Dk:∀(b:Z4) {m:Nat},wB ds b->(We ds m b).sz<=b.pz
 | .mk steps result,m,h=>by
  have:=LF steps (m:=m) h
  rw [We,Z4.sz,Z4.pz];omega
end
end
section
variable {ds:List Zd} {m:Nat}
end
def Jf (ds:List Zd) (r:Y1):Y1:=⟨r.params,r.lent,r.result,We ds r.params.length r.body⟩
def Dm (n:Zu):Zu:=⟨n.decls,n.routines.map (Jf n.decls)⟩
end Go.Abs
namespace Go.Abs
theorem Z15 {xs:List Z3} {k:Nat} {s:Z3} {r:Nat} (h:xs[k]? = some s) (hs:s.op=14∨s.op=15) (ha:k+Xh (xs.drop k)=r):k+1+Xh (xs.drop (k+1))=r:=by
 rw [Ye h,Xh,Zw hs] at ha;omega
theorem Z16 {xs:List Z3} {k:Nat} {s:Z3} {r:Nat} (h:xs[k]? = some s) (hs:¬(s.op=14∨s.op=15)) (ha:k+Xh (xs.drop k)=r):k=r:=by
 rw [Ye h,Xh,Zs hs] at ha;omega
theorem Z14 {xs:List Z3} {k:Nat} {r:Nat} (h:xs.length<=k) (ha:k+Xh (xs.drop k)=r):k=r:=by
 rw [Xf h,Xh] at ha;omega
theorem N8 {op:Int} {xs:List Z3} {acc r:LI} {k:Nat} {s:Z3} (h:xs[k]? = some s) (hs:s.op=op) (ha:acc++XO op (xs.drop k)=r):(acc++[gI s.args 0])++XO op (xs.drop (k+1))=r:=by
 rw [Ye h,XO,Zw hs] at ha;rw [<-ha];simp
theorem N7 {op:Int} {xs:List Z3} {acc r:LI} {k:Nat} {s:Z3} (h:xs[k]? = some s) (hs:¬s.op=op) (ha:acc++XO op (xs.drop k)=r):acc++XO op (xs.drop (k+1))=r:=by
 rw [Ye h,XO,Zs hs] at ha;exact ha
theorem N6 {op:Int} {xs:List Z3} {acc r:LI} {k:Nat} (h:xs.length<=k) (ha:acc++XO op (xs.drop k)=r):acc=r:=by
 rw [Xf h,XO,Tk] at ha;exact ha
theorem OH {xs acc r:LI} {y:Int} {k:Nat} {x:Int} {d:Bool} (h:xs[k]? = some x) (ha:acc++(if d=true then xs.drop k else (xs.drop k).erase y)=r) :
  (if x=y/\¬d=true then acc else acc++[x])++(if ((x==y&&!d)||d)=true then xs.drop (k+1) else (xs.drop (k+1)).erase y)=r:=by
 rw [Ye h] at ha
 rw [<-ha]
 by_cases hd:d=true
 ·simp [hd]
 ·by_cases hx:x=y
  ·simp [hd,hx]
  ·rw [Zs (fun z=>hx z.1),Zs hd,List.erase_cons_tail (by simpa using hx)]
   simp [hd,hx]
theorem OG {xs acc r:LI} {y:Int} {k:Nat} {d:Bool} (h:xs.length<=k) (ha:acc++(if d=true then xs.drop k else (xs.drop k).erase y)=r):acc=r:=by
 rw [Xf h] at ha;simpa using ha
section
variable {fs D R:LI} {q k:Nat} {f:Int} {r:LI × LI}
theorem Z05 (h:fs[k]? = some f) (h0:f≠0) (hm:((q+k:Nat):Int)∈D) (ha:Vw (fs.drop k) (q+k) D R=r):Vw (fs.drop (k+1)) (q+((k+1:Nat):Int)) (D.erase ((q+k:Nat):Int)) R=r:=by
 rw [Ye h,Vw,Zw ⟨h0,by rw [<-Int.natCast_add];exact hm⟩,<-Int.natCast_add] at ha
 rw [<-ha];congr 1
theorem Z06 (h:fs[k]? = some f) (h0:f≠0) (hm:¬((q+k:Nat):Int)∈D) (ha:Vw (fs.drop k) (q+k) D R=r):Vw (fs.drop (k+1)) (q+((k+1:Nat):Int)) D (R++[((q+k:Nat):Int)])=r:=by
 rw [Ye h,Vw,Zs (fun z=>hm (by rw [Int.natCast_add];exact z.2)),Zw h0,<-Int.natCast_add] at ha
 rw [<-ha];congr 1
theorem Z07 (h:fs[k]? = some f) (h0:¬f≠0) (ha:Vw (fs.drop k) (q+k) D R=r):Vw (fs.drop (k+1)) (q+((k+1:Nat):Int)) D R=r:=by
 rw [Ye h,Vw,Zs (fun z=>h0 z.1),Zs h0] at ha
 rw [<-ha];congr 1
theorem Z04 (h:fs.length<=k) (ha:Vw (fs.drop k) (q+k) D R=r):r=(D,R):=by
 rw [Xf h,Vw] at ha;exact ha.symm
end
theorem MZ {xs:List Z3} {x:Int} {fs:LI} {q:Int} {D R:LI} (h1:x∈XO 15 (xs.take (Xh xs))) (h2:fs.length≠0) (hr:Kq xs x fs q=(D,R)):D.map (Zl 14)++[Zl 16 x]++R.map (Zl 15)++xs.drop (Xh xs)=KN xs x fs q:=by
 rw [KN,Zw ⟨h1,h2⟩,hr]
theorem Z1r {ds:List Zd} {xs:List Z3}:∀{m:Nat},Tj ds xs->∀s∈VM ds m xs,YG s.op=true->∃a,s.args=[a]:=by
 induction xs with
 | nil=>intro m _ s hs;simp [VM] at hs
 | cons t r ih=>
  intro m h s hs ho
  rw [VM] at hs
  rcases Yj.1 hs with rfl|hs
  ·rw [Fz] at ho ⊢
   exact (Dy h.1 ho).2.2
  ·exact ih h.2 s hs ho
end Go.Abs
end
namespace Go.Abs
mutual
def Z1.sz:Z1->Nat
 | .mk _ _ kids=>1+YX kids
def YX:List Z1->Nat
 | []=>0
 | e::r=>e.sz+YX r
end
theorem Z1.sz_eq (e:Z1):e.sz=1+YX e.kids:=by cases e;rw [Z1.sz];rfl
theorem B9:∀xs ys:List Z1,YX (xs++ys)=YX xs+YX ys
 | [],ys=>by simp [YX]
 | x::r,ys=>by rw [Qn,YX,YX,B9 r];omega
theorem JD:∀{xs:List Z1} {k:Nat} {e:Z1},xs[k]? = some e->e.sz<=YX xs
 | [],k,e,h=>by simp at h
 | x::r,0,e,h=>by simp at h;subst h;rw [YX];omega
 | x::r,k+1,e,h=>by have:=JD (xs:=r) (k:=k) (by simpa using h);rw [YX];omega
theorem H2:∀{xs:List Z1},xs.length<=YX xs
 | []=>T0 _
 | x::r=>by have:=H2 (xs:=r);have:=x.sz_eq;rw [YX,Yw];omega
def K6:Zd:=⟨0,0,[⟨[]⟩,⟨[0,1]⟩]⟩
def K7:Zd:=⟨0,0,[⟨[]⟩,⟨[3,0,3]⟩]⟩
def GM:List Zd:=[⟨0,0,[⟨[1,3]⟩]⟩,⟨1,0,[]⟩,⟨0,0,[⟨[1,1,0]⟩,⟨[0]⟩,⟨[3]⟩]⟩,⟨0,1,[]⟩]
def Kh:List (List Zd):=[[K6,⟨0,0,[]⟩,K7],[K6,⟨0,0,[]⟩,K7,⟨0,0,[⟨[1,3]⟩]⟩],[K6,⟨0,0,[]⟩,K7,⟨1,0,[]⟩],[K6,⟨0,0,[]⟩,K7,⟨0,0,[⟨[1,1,0]⟩,⟨[0]⟩,⟨[3]⟩]⟩],[K6,⟨0,0,[]⟩,K7,⟨0,1,[]⟩]]
def GD (ds:List Zd):Prop:=ds∈Kh
theorem GD.ok {ds:List Zd} (h:GD ds):Wg ds:=by
 have k:=(by decide:∀ds∈Kh,ds.length<=4/\(∀d∈ds,d.cons.length<=3)/\∀d∈ds,∀c∈d.cons,c.fields.length<=3) ds h
 exact ⟨k.1,k.2.1,k.2.2⟩
theorem GD.len {ds:List Zd} (h:GD ds):3<=ds.length/\ds.length<=4:=by
 exact (by decide:∀ds∈Kh,3<=ds.length/\ds.length<=4) ds h
def TY (t:Int):Prop:=t=0∨t=1∨t=3
instance (t:Int):Decidable (TY t):=inferInstanceAs (Decidable (_∨_∨_))
theorem GD.low {ds:List Zd} (h:GD ds):ZW ds 0=[]/\ZW ds 1=[0,1]/\ZW ds 2=[]/\ZW ds 3=[2,3]/\ZY ds 0=[]/\ZY ds 1=[0,1]/\ZY ds 2=[]/\ZY ds 3=[3,0,3]:=
 (by decide:∀ds∈Kh,ZW ds 0=[]/\ZW ds 1=[0,1]/\ZW ds 2=[]/\ZW ds 3=[2,3]/\ZY ds 0=[]/\ZY ds 1=[0,1]/\ZY ds 2=[]/\ZY ds 3=[3,0,3]) ds h
theorem GD.fields {ds:List Zd} (h:GD ds):∀c∈ZW ds 1++(ZW ds 3++ZW ds 4),∀t∈ZY ds c,TY t:=
 (by decide:∀ds∈Kh,∀c∈ZW ds 1++(ZW ds 3++ZW ds 4),∀t∈ZY ds c,TY t) ds h
theorem GD.cons_cases {ds:List Zd} (h:GD ds) {t:Int} {c:Int} (hc:c∈ZW ds t):(0<=c/\c<=9)/\(t=1∨t=3∨t=4)/\(ZY ds c).length<=3/\∀u∈ZY ds c,TY u:=by
 have ht:1<=t/\t<=ds.length:=by
  by_cases q:1<=t/\t<=ds.length
  ·exact q
  ·rw [ZW,Zs q] at hc;cases hc
 have hl:=h.len
 have hlow:=h.low
 have key:∀c∈ZW ds 1++(ZW ds 3++ZW ds 4),0<=c/\c<=9:=
  (by decide:∀ds∈Kh,∀c∈ZW ds 1++(ZW ds 3++ZW ds 4),0<=c/\c<=9) ds h
 have h4:t=1∨t=2∨t=3∨t=4:=by omega
 have hf:=h.fields
 have hd:=Vr h.ok c
 rcases h4 with rfl|rfl|rfl|rfl
 ·exact ⟨key c (YO.2 (.inl hc)),.inl rfl,hd,hf c (YO.2 (.inl hc))⟩
 ·rw [hlow.2.2.1] at hc;cases hc
 ·exact ⟨key c (YO.2 (.inr (YO.2 (.inl hc)))),.inr (.inl rfl),hd,hf c (YO.2 (.inr (YO.2 (.inl hc))))⟩
 ·exact ⟨key c (YO.2 (.inr (YO.2 (.inr hc)))),.inr (.inr rfl),hd,hf c (YO.2 (.inr (YO.2 (.inr hc))))⟩
def Qq:List (LI × Int):=[([],0),([1],0),([1,1],1),([1],1),([1,0],1),([2,1],1),([1,1],0),([3],0),([0],1),([0,1],1),([3,0],3),([3],1),([1,3,0],0),([0],0),([0,0],0),([1,0],0)]
def U2 (f:Func):Prop:=(f.params,f.result)∈Qq
theorem U2.bd {f:Func} (h:U2 f):f.params.length<=3/\(∀t∈f.params,0<=t/\t<=3)/\TY f.result:=by
 have key:∀q∈Qq,q.1.length<=3/\(∀t∈q.1,0<=t/\t<=3)/\TY q.2:=by decide
 exact key _ h
theorem U2.clo {ds:List Zd} {f:Func} (hd:GD ds) (h:U2 f) (hp:0<Qs ds (gI f.params ((f.params.length:Int)-1)) f.result):∀t∈f.params.dropLast,TY t:=by
 have key:∀q∈Qq,0<Qs ds (gI q.1 ((q.1.length:Int)-1)) q.2->∀t∈q.1.dropLast,TY t:=
  (by decide +kernel:∀ds∈Kh,∀q∈Qq,0<Qs ds (gI q.1 ((q.1.length:Int)-1)) q.2->∀t∈q.1.dropLast,TY t) ds hd
 exact key _ h hp
structure GP (p:Xv):Prop where
 decls:GD p.decls
 len:1<=p.funcs.length/\p.funcs.length<=4
 sigs:∀f∈p.funcs,U2 f
def Un (ds:List Zd) (op num:Int) (m:Nat) (k:Nat):Nat:=
 if op=13 then m+k else if op=8 then (if k=0 then m else m+(ZY ds (gI (ZW ds num) ((k:Int)-1))).length) else m
mutual
def eW (ds:List Zd) (nf:Nat):Nat->Z1->Prop
 | m,.mk op num kids=>(0<=op/\op<=13)/\(op=12->kids=[]/\0<=num/\num<m)/\(op=13->kids.length=2)/\(op=7->kids.length=3)/\(op=8->kids.length=1+(ZW ds num).length)/\(op=9->0<=num/\num<nf)/\(-2000<=num/\num<=2000)/\kids.length<=4 /\
  T4 ds nf (Un ds op num m) 0 kids
def T4 (ds:List Zd) (nf:Nat) (sc:Nat->Nat):Nat->List Z1->Prop
 | _,[]=>True
 | k,e::r=>eW ds nf (sc k) e/\T4 ds nf sc (k+1) r
end
theorem OA {ds:List Zd} {nf m:Nat} (e:Z1):eW ds nf m e↔(0<=e.op/\e.op<=13)/\(e.op=12->e.kids=[]/\0<=e.num/\e.num<m)/\(e.op=13->e.kids.length=2)/\(e.op=7->e.kids.length=3)/\(e.op=8->e.kids.length=1+(ZW ds e.num).length)/\(e.op=9->0<=e.num/\e.num<nf)/\(-2000<=e.num/\e.num<=2000)/\e.kids.length<=4 /\
  T4 ds nf (Un ds e.op e.num m) 0 e.kids:=by cases e;rw [eW];rfl
theorem An {ds:List Zd} {nf:Nat} {sc:Nat->Nat}:∀{xs:List Z1} {j k:Nat} {e:Z1},T4 ds nf sc j xs->xs[k]? = some e->eW ds nf (sc (j+k)) e
 | [],j,k,e,_,h=>by simp at h
 | x::r,j,0,e,hw,h=>by simp at h;subst h;exact hw.1
 | x::r,j,k+1,e,hw,h=>by
  have:=An (xs:=r) (j:=j+1) (k:=k) hw.2 (by simpa using h)
  rw [show j+(k+1)=j+1+k by omega];exact this
theorem GY {ds:List Zd} {nf:Nat} {sc:Nat->Nat}:∀{xs ys:List Z1} {j:Nat},T4 ds nf sc j (xs++ys)↔T4 ds nf sc j xs/\T4 ds nf sc (j+xs.length) ys
 | [],ys,j=>by simp [T4]
 | x::r,ys,j=>by
  rw [Qn,T4,T4,GY (xs:=r),and_assoc,Yw,show j+1+r.length=j+(r.length+1) by omega]
theorem Er {ds:List Zd} {nf m:Nat} {sc:Nat->Nat} (hs:∀k,sc k=m):∀{xs:List Z1} {j:Nat},(∀e∈xs,eW ds nf m e)->T4 ds nf sc j xs
 | [],_,_=>True.intro
 | x::r,j,h=>⟨by rw [hs];exact h x (YL ..),Er hs fun e he=>h e (X8 _ he)⟩
theorem JC {ds:List Zd} {nf m:Nat} {op num:Int} {kids:List Z1} (ho:0<=op/\op<=11/\op≠7/\op≠8) (hc:op=9->0<=num/\num<nf) (hn:-2000<=num/\num<=2000) (hl:kids.length<=4) (hk:∀e∈kids,eW ds nf m e):eW ds nf m (.mk op num kids):=by
 rw [eW]
 refine ⟨by omega,fun h=>by omega,fun h=>by omega,fun h=>by omega,fun h=>by omega,hc,hn,hl,Er (m:=m) (fun k=>?_) hk⟩
 rw [Un,Zs om,Zs om]
theorem OB {ds:List Zd} {nf m:Nat} {z:Int} (hz:-2000<=z/\z<=2000):eW ds nf m (.mk 0 z []):=JC om (fun h=>by omega) hz (by simp) (fun e he=>by cases he)
theorem OC {ds:List Zd} {nf m:Nat} {z:Int} (hz:0<=z/\z<m) (hm:m<=2000):eW ds nf m (.mk 12 z []):=by
 rw [eW]
 exact ⟨by omega,fun _=>⟨rfl,hz⟩,fun h=>by omega,fun h=>by omega,fun h=>by omega,fun h=>by omega,by omega,by simp,True.intro⟩
theorem GW {ds:List Zd} {nf m:Nat} {num:Int} {kids:List Z1} (hn:-2000<=num/\num<=2000) (hl:kids.length=3) (hk:∀e∈kids,eW ds nf m e):eW ds nf m (.mk 7 num kids):=by
 rw [eW]
 refine ⟨by omega,fun h=>by omega,fun h=>by omega,fun _=>hl,fun h=>by omega,fun h=>by omega,hn,by omega,Er (m:=m) (fun k=>?_) hk⟩
 rw [Un,Zs om,Zs om]
theorem GX {ds:List Zd} {nf m:Nat} {num:Int} {a b:Z1} (hn:-2000<=num/\num<=2000) (ha:eW ds nf m a) (hb:eW ds nf (m+1) b):eW ds nf m (.mk 13 num [a,b]):=by
 rw [eW]
 exact ⟨by omega,fun h=>by omega,fun _=>rfl,fun h=>by omega,fun h=>by omega,fun h=>by omega,hn,by simp,ha,hb,True.intro⟩
theorem Ep {ds:List Zd} {nf m:Nat} {num:Int} {a:Z1} {arms:List Z1} (hn:-2000<=num/\num<=2000) (h3:arms.length<=3) (hl:arms.length=(ZW ds num).length) (ha:eW ds nf m a) (hk:T4 ds nf (Un ds 8 num m) 1 arms):eW ds nf m (.mk 8 num (a::arms)):=by
 rw [eW]
 refine ⟨by omega,fun h=>by omega,fun h=>by omega,fun h=>by omega,fun _=>by rw [Yw];omega,fun h=>by omega,hn,by rw [Yw];omega,?_,hk⟩
 rw [Un,Zs om,Zw rfl,Zw rfl]
 exact ha
def bS (b:Nat):Nat:=max 4 (10*b-10)
def bC (b:Nat):Nat:=max 40 (100*b-100)
def Yy:List Z3->Nat
 | []=>0
 | s::r=>(if YG s.op=true then 0 else 1)+Yy r
theorem Q9:∀xs ys:List Z3,Yy (xs++ys)=Yy xs+Yy ys
 | [],ys=>by simp [Yy]
 | x::r,ys=>by rw [Qn,Yy,Yy,Q9 r];omega
theorem Jx:∀xs:List Z3,Yy xs<=xs.length
 | []=>YI _
 | x::r=>by have:=Jx r;rw [Yy,Yw];split<;>omega
def VL (ds:List Zd) (op num:Int) (m:Nat) (k:Nat):Nat:=if op=8 then m+(ZY ds (gI (ZW ds num) k)).length else m
mutual
def fS (ds:List Zd) (nf:Nat):Nat->Z3->Prop
 | m,.mk op num into args kids=>((0<=op/\op<=11)∨(14<=op/\op<=17))/\(∀a∈args,0<=a/\a<m)/\(14<=op->num=0/\into=0/\kids=[]/\∃a,args=[a])/\(op=7->kids.length=2)/\(op=8->kids.length=(ZW ds num).length)/\(op=7∨op=8->∃a,args=[a]) /\
  (op=9->0<=num/\num<nf)/\(-2000<=num/\num<=2000)/\(0<=into/\into<=m)/\args.length<=4/\(op≠7/\op≠8->kids=[])/\Ug ds nf (VL ds op num m) 0 kids
def Ug (ds:List Zd) (nf:Nat) (sc:Nat->Nat):Nat->List Z4->Prop
 | _,[]=>True
 | k,b::r=>fB ds nf (sc k) b/\Ug ds nf sc (k+1) r
def VU (ds:List Zd) (nf:Nat):Nat->List Z3->Prop
 | _,[]=>True
 | m,s::r=>fS ds nf m s/\VU ds nf (if YG s.op=true then m else m+1) r
def fB (ds:List Zd) (nf:Nat):Nat->Z4->Prop
 | m,.mk steps result=>VU ds nf m steps/\0<=result/\result<(m+Yy steps:Nat)
end
section
variable {ds:List Zd} {nf:Nat}
structure FS (ds:List Zd) (nf m:Nat) (s:Z3):Prop where
 op:(0<=s.op/\s.op<=11)∨(14<=s.op/\s.op<=17)
 args:∀a∈s.args,0<=a/\a<m
 cnt:14<=s.op->s.num=0/\s.into=0/\s.kids=[]/\∃a,s.args=[a]
 k7:s.op=7->s.kids.length=2
 k8:s.op=8->s.kids.length=(ZW ds s.num).length
 one:s.op=7∨s.op=8->∃a,s.args=[a]
 call:s.op=9->0<=s.num/\s.num<nf
 num:-2000<=s.num/\s.num<=2000
 into:0<=s.into/\s.into<=m
 alen:s.args.length<=4
 kn:s.op≠7/\s.op≠8->s.kids=[]
 kids:Ug ds nf (VL ds s.op s.num m) 0 s.kids
theorem Co {m:Nat} (s:Z3):fS ds nf m s↔FS ds nf m s:=by
 cases s
 rw [fS]
 exact ⟨fun ⟨h1,h2,h3,h4,h5,h6,h7,h8,h9,h10,h11,h12⟩=>⟨h1,h2,h3,h4,h5,h6,h7,h8,h9,h10,h11,h12⟩,fun h=>⟨h.op,h.args,h.cnt,h.k7,h.k8,h.one,h.call,h.num,h.into,h.alen,h.kn,h.kids⟩⟩
theorem Bb {m:Nat} (b:Z4):fB ds nf m b↔VU ds nf m b.steps/\0<=b.result/\b.result<(m+Yy b.steps:Nat):=by cases b;rw [fB];rfl
theorem Bc {sc:Nat->Nat}:∀{xs:List Z4} {j k:Nat} {b:Z4},Ug ds nf sc j xs->xs[k]? = some b->fB ds nf (sc (j+k)) b
 | [],j,k,b,_,h=>by simp at h
 | x::r,j,0,b,hw,h=>by simp at h;subst h;exact hw.1
 | x::r,j,k+1,b,hw,h=>by
  have:=Bc (xs:=r) (j:=j+1) (k:=k) hw.2 (by simpa using h)
  rw [show j+(k+1)=j+1+k by omega];exact this
theorem H4 {sc:Nat->Nat}:∀{xs ys:List Z4} {j:Nat},Ug ds nf sc j (xs++ys)↔Ug ds nf sc j xs/\Ug ds nf sc (j+xs.length) ys
 | [],ys,j=>by simp [Ug]
 | x::r,ys,j=>by
  rw [Qn,Ug,Ug,H4 (xs:=r),and_assoc,Yw,show j+1+r.length=j+(r.length+1) by omega]
theorem H5 {sc:Nat->Nat} {xs:List Z4} {b:Z4} (h:Ug ds nf sc 0 xs) (hb:fB ds nf (sc xs.length) b):Ug ds nf sc 0 (xs++[b]):=
 H4.2 ⟨h,by rw [Wc];exact hb,True.intro⟩
theorem Ao:∀{xs ys:List Z3} {m:Nat},VU ds nf m (xs++ys)↔VU ds nf m xs/\VU ds nf (m+Yy xs) ys
 | [],ys,m=>by simp [VU,Yy]
 | x::r,ys,m=>by
  rw [Qn,VU,VU,Ao (xs:=r),and_assoc,Yy]
  by_cases h:YG x.op=true
  ·rw [Zw h,Zw h,Wc]
  ·rw [Zs h,Zs h,KC]
theorem Cp {xs:List Z3} {s:Z3} {m:Nat} (h:VU ds nf m xs) (hs:fS ds nf (m+Yy xs) s):VU ds nf m (xs++[s]):=Ao.2 ⟨h,hs,True.intro⟩
theorem Bd:∀{xs:List Z3} {k m:Nat} {s:Z3},VU ds nf m xs->xs[k]? = some s->fS ds nf (m+Yy (xs.take k)) s
 | [],k,m,s,_,h=>by simp at h
 | x::r,0,m,s,hw,h=>by simp at h;subst h;exact hw.1
 | x::r,k+1,m,s,hw,h=>by
  have:=Bd (xs:=r) (k:=k) hw.2 (by simpa using h)
  rw [A3,Yy]
  by_cases hc:YG x.op=true
  ·rw [Zw hc] at this ⊢;rw [Wc];exact this
  ·rw [Zs hc] at this ⊢;rw [<-KC];exact this
mutual
theorem Z4e:∀(s:Z3) {m:Nat},fS ds nf m s->m+4*s.sz<=900000000->Wg ds->wS ds s
 | .mk op num into args kids,m,h,hb,hd=>by
  rw [fS] at h
  obtain ⟨h1,h2,h3,h4,h5,h6,h7,h8,h9,h10,h11,h12⟩:=h
  rw [Z3.sz] at hb
  rw [wS]
  refine ⟨?_,fun hc=>h3 (show 14<=op/\op<=17 by simpa [YG] using hc).1,fun h8'=>⟨?_,h5 h8'⟩,Mx kids h12 (fun k=>?_) hd⟩
  ·rcases h1 with h1|h1
   ·have e1:YG op=false:=by simp [YG];omega
    have e2:Xp op=true:=by simp [Xp];omega
    rw [e1,e2];rfl
   ·have e1:YG op=true:=by simp [YG];omega
    have e2:Xp op=false:=by simp [Xp];omega
    rw [e1,e2];rfl
  ·obtain ⟨a,ha⟩:=h6 (.inr h8')
   have:=h2 a (by rw [ha];exact Xk.2 rfl)
   exact ⟨a,ha,by omega⟩
  ·have hf:=Vr hd (gI (ZW ds num) k)
   show VL ds op num m k+4*YF kids<=900000003
   rw [VL];split<;>omega
theorem Mx:∀(bs:List Z4) {sc:Nat->Nat} {k:Nat},Ug ds nf sc k bs->(∀k,sc k+4*YF bs<=900000003)->Wg ds->Kx ds bs
 | [],_,_,_,_,_=>True.intro
 | b::r,sc,k,h,hb,hd=>by
  have hp:=b.sz_eq
  exact ⟨Mw b h.1 (by have:=hb k;rw [YF] at this;omega) hd,Mx r h.2 (fun j=>by have:=hb j;rw [YF] at this;omega) hd⟩
theorem My:∀(xs:List Z3) {m:Nat},VU ds nf m xs->m+4*Y5 xs<=900000000->Wg ds->Tj ds xs
 | [],_,_,_,_=>True.intro
 | s::r,m,h,hb,hd=>by
  rw [Y5] at hb
  have hp:=s.sz_pos
  refine ⟨Z4e s h.1 om hd,My r h.2 ?_ hd⟩
  split<;>omega
theorem Mw:∀(b:Z4) {m:Nat},fB ds nf m b->m+4*b.sz<=900000004->Wg ds->wB ds b
 | .mk steps result,m,h,hb,hd=>by
  rw [Z4.sz] at hb
  rw [fB] at h
  rw [wB]
  exact My steps h.1 om hd
end
mutual
theorem Z0m:∀(s:Z3) {m:Nat},fS ds nf m s->s.rng
 | .mk op num into args kids,m,h=>by
  rw [fS] at h
  obtain ⟨h1,h2,h3,h4,h5,h6,h7,h8,h9,h10,h11,h12⟩:=h
  rw [Z3.rng]
  exact ⟨by omega,L6 kids h12⟩
theorem L6:∀(bs:List Z4) {sc:Nat->Nat} {k:Nat},Ug ds nf sc k bs->Qv bs
 | [],_,_,_=>True.intro
 | b::r,sc,k,h=>⟨Fk b h.1,L6 r h.2⟩
theorem L7:∀(xs:List Z3) {m:Nat},VU ds nf m xs->QQ xs
 | [],_,_=>True.intro
 | s::r,m,h=>⟨Z0m s h.1,L7 r h.2⟩
theorem Fk:∀(b:Z4) {m:Nat},fB ds nf m b->b.rng
 | .mk steps result,m,h=>by rw [fB] at h;rw [Z4.rng];exact L7 steps h.1
end
end
structure FN (n:Zu) (q:Nat):Prop where
 decls:GD n.decls
 len:1<=n.routines.length/\n.routines.length<=4
 sigs:∀r∈n.routines,(r.params,r.result)∈Qq
 lent:∀r∈n.routines,r.lent.length<=3/\∀i∈r.lent,0<=i/\i<r.params.length
 body:∀r∈n.routines,fB n.decls n.routines.length r.params.length r.body/\r.body.sz<=q
theorem FN.ok {n:Zu} {q:Nat} (h:FN n q):X2 n:=
 ⟨h.decls.ok,h.len.2,fun r hr=>(U2.bd (f:=⟨r.params,r.result,default⟩) (h.sigs r hr)).1,fun r hr=>by have:=(h.lent r hr).1;omega⟩
def Pk (n k:Int):Prop:=0<=k/\(0<n->k<n)/\(n<=0->k=0)
theorem Pk.lt {n k:Int} (h:Pk n k) (hn:0<n):0<=k/\k<n:=⟨h.1,h.2.1 hn⟩
theorem Pk.zero {n:Int}:Pk n 0:=⟨Int.le_refl _,fun h=>h,fun _=>rfl⟩
theorem Pk.rem {n a:Int} (ha:0<=a) (hn:0<n):Pk n (a % n):=⟨Int.emod_nonneg _ om,fun _=>Int.emod_lt_of_pos _ hn,fun _=>by omega⟩
def AD (ds:List Zd):Prop:=ds.length<=8/\∀d∈ds,d.cons.length<=4/\∀c∈d.cons,c.fields.length<=4
theorem GD.ad {ds:List Zd} (h:GD ds):AD ds:=(by decide:∀ds∈Kh,ds.length<=8/\∀d∈ds,d.cons.length<=4/\∀c∈d.cons,c.fields.length<=4) ds h
theorem AD.set {ds:List Zd} (h:AD ds) (k:Nat) {d:Zd} (hd:d.cons.length<=4/\∀c∈d.cons,c.fields.length<=4):AD (ds.set k d):=
 ⟨by rw [Ua];exact h.1,fun x hx=>(List.mem_or_eq_of_mem_set hx).elim (h.2 x) fun e=>by rw [e];exact hd⟩
theorem AD.app {ds es:List Zd} (h:AD ds) (hl:ds.length+es.length<=8) (hd:∀d∈es,d.cons.length<=4/\∀c∈d.cons,c.fields.length<=4):AD (ds++es):=
 ⟨by rw [Yb];exact hl,fun x hx=>(YO.1 hx).elim (h.2 x) (hd x)⟩
theorem GD.three:GD [K6,⟨0,0,[]⟩,K7]:=List.Mem.head _
theorem GD.four:∀{k:Nat} {x:Zd},GM[k]? = some x->GD ([K6,⟨0,0,[]⟩,K7]++[x])
 | 0,x,h=>by cases h;exact .tail _ (.head _)
 | 1,x,h=>by cases h;exact .tail _ (.tail _ (.head _))
 | 2,x,h=>by cases h;exact .tail _ (.tail _ (.tail _ (.head _)))
 | 3,x,h=>by cases h;exact .tail _ (.tail _ (.tail _ (.tail _ (.head _))))
 | k+4,x,h=>by simp [GM] at h
theorem J9 {l:LI} {z a b:Int} (h:z∈l) (hl:l.all (fun x=>decide (a<=x/\x<=b))=true):a<=z/\z<=b:=by
 have:=QT.1 hl z h
 exact of_decide_eq_true this
def rk (t:Int):Nat:=if TY t then 0 else 1
theorem Fj (t:Int):rk t<=1:=by rw [rk];split<;>omega
theorem L5 {t:Int} (h:TY t):rk t=0:=Zw h
def SE (g:Xv) (q:Nat) (e:Z1):Prop:=(∀m,eW g.decls g.funcs.length m e)/\e.sz<=q
def GE (g:Xv) (m q:Nat) (e:Z1):Prop:=eW g.decls g.funcs.length m e/\e.sz<=q
theorem SE.ge {g:Xv} {q q' m:Nat} {e:Z1} (h:SE g q e) (hq:q<=q'):GE g m q' e:=⟨h.1 m,Wt h.2 hq⟩
theorem GE.le {g:Xv} {m q q':Nat} {e:Z1} (h:GE g m q e) (hq:q<=q'):GE g m q' e:=⟨h.1,Wt h.2 hq⟩
theorem Cl {m:Nat}:∀{xs:List Z1},(∀e∈xs,e.sz<=m)->YX xs<=xs.length*m
 | [],_=>T0 _
 | x::r,h=>by
  have h1:=h x (YL ..)
  have h2:=Cl (xs:=r) fun e he=>h e (X8 _ he)
  rw [YX,Yw,UJ];omega
theorem YZ {α:Type} {p:α->Prop} {xs:List α} {a:α} (h:∀x∈xs,p x) (ha:p a):∀x∈xs++[a],p x:=fun x hx=>(YO.1 hx).elim (h x) fun q=>by rw [Xk.1 q];exact ha
theorem SE.int {g:Xv} {z:Int} {q:Nat} (hz:-2000<=z/\z<=2000) (hq:1<=q):SE g q (.mk 0 z []):=⟨fun _=>OB hz,by simpa [Z1.sz,YX] using hq⟩
theorem SE.node {g:Xv} {op num:Int} {ys:List Z1} {q k:Nat} (ho:op=6∨op=10) (hn:0<=num/\num<=2000) (hy:∀e∈ys,SE g 1 e) (hl:ys.length<=k) (hk:k<=3) (hq:1+k<=q):SE g q (.mk op num ys):=by
 refine ⟨fun m=>JC om (fun h=>by omega) om om fun e he=>(hy e he).1 m,?_⟩
 have:=Cl (xs:=ys) (m:=1) fun e he=>(hy e he).2
 rw [Z1.sz];omega
def KJ (ds:List Zd) (t c:Int):Prop:=(0<=c/\c<=9)/\(ZY ds c).length<=3*rk t/\∀u∈ZY ds c,TY u
instance (ds:List Zd) (t c:Int):Decidable (KJ ds t c):=inferInstanceAs (Decidable (_/\_/\_))
theorem Lq {ds:List Zd} (h:GD ds):∀t∈[(1:Int),2,3,4],∀c∈ZW ds t,(t∈ZY ds c->∀c0,(ZW ds t)[0]? = some c0->KJ ds t c0)/\(¬t∈ZY ds c->KJ ds t c):=by
 intro t ht c hc
 have k1:=(by decide:∀ds∈Kh,∀t∈[(1:Int),2,3,4],∀c∈ZW ds t,(t∈ZY ds c->KJ ds t (gI (ZW ds t) 0))/\(¬t∈ZY ds c->KJ ds t c)) ds h t ht c hc
 refine ⟨fun q c0 h0=>?_,k1.2⟩
 have:=k1.1 q
 rwa [Uv (i:=0) h0] at this
theorem GI {ds:List Zd} (h:GD ds) {t c:Int} (hc:c∈ZW ds t):t∈[(1:Int),2,3,4]:=by
 obtain ⟨_,h2,_⟩:=h.cons_cases hc
 rcases h2 with rfl|rfl|rfl<;>simp
theorem Z1g {ds:List Zd} (h:GD ds) {t c c0:Int} (hc:c∈ZW ds t) (ht:t∈ZY ds c) (h0:(ZW ds t)[0]? = some c0):KJ ds t c0:=(Lq h t (GI h hc) c hc).1 ht c0 h0
theorem Z1f {ds:List Zd} (h:GD ds) {t c:Int} (hc:c∈ZW ds t) (ht:¬t∈ZY ds c):KJ ds t c:=(Lq h t (GI h hc) c hc).2 ht
theorem Z0l {ds:List Zd} (h:GD ds) {t:Int} (h0:(ZW ds t).length=0) (ht:0<t):rk t=1:=by
 rw [rk,Zs]
 rintro (q|q|q)
 ·omega
 ·rw [q,h.low.2.1] at h0;cases h0
 ·rw [q,h.low.2.2.2.1] at h0;cases h0
def QW (g:Xv) (t i:Int):Prop:=0<=i/\∃f,g.funcs[i.toNat]? = some f/\0<f.params.length/\Qs g.decls (gI f.params ((f.params.length:Int)-1)) f.result=t
theorem QW.lt {g:Xv} {t i:Int} (h:QW g t i):0<=i/\i<g.funcs.length:=by
 obtain ⟨h1,f,h2,_⟩:=h
 have:=(Xj.1 h2).1
 omega
theorem QW.mk {g:Xv} {t x2:Int} {k:Nat} {f:Func} (hf:g.funcs[k]? = some f) (hl:0<f.params.length) (hx:f.params[f.params.length-1]? = some x2) (ha:Qs g.decls x2 f.result=t):QW g t (k:Int):=by
 refine ⟨by omega,f,by simpa using hf,hl,?_⟩
 rw [Uv (i:=(f.params.length:Int)-1) (by rw [show ((f.params.length:Int)-1).toNat=f.params.length-1 by omega];exact hx)]
 exact ha
theorem QW.low {g:Xv} {t i u:Int} {f:Func} {j:Nat} (hg:GP g) (h:QW g t i) (ht:0<t) (hf:g.funcs[i.toNat]? = some f) (hj:j+1<f.params.length) (hu:f.params[j]? = some u):rk u=0:=by
 obtain ⟨_,f',h2,_,h4⟩:=h
 have e:f'=f:=A5 (h2.symm.trans hf)
 subst e
 have h5:=(hg.sigs f' (ZU hf)).clo hg.decls (by rw [h4];exact ht)
 refine L5 (h5 u ?_)
 rw [List.dropLast_eq_take]
 exact ZU (i:=j) (by rw [List.getElem?_take_of_lt om];exact hu)
end Go.Abs
section
namespace Go.Abs
theorem Qu (b:Nat):bS b=max 4 (10*b-10):=rfl
theorem Qt (b:Nat):bC b=max 40 (100*b-100):=rfl
theorem Bx {L q b:Nat} (hL:L<=3) (hb:3<=b) (hq:L*q<=b-1):1+L*bS q<=bS b:=by
 rw [Qu,Qu]
 have:L=0∨L=1∨L=2∨L=3:=by omega
 rcases this with rfl|rfl|rfl|rfl<;>omega
theorem Sx {L q b:Nat} (hL:L<=3) (hb:3<=b) (hq:L*q<=b-2):5+L*bS q<=bS b:=by
 rw [Qu,Qu]
 have:L=0∨L=1∨L=2∨L=3:=by omega
 rcases this with rfl|rfl|rfl|rfl<;>omega
theorem St {b:Nat} (hb:3<=b):1+(bS (b / 2)+bS (b / 2))<=bS b:=by rw [Qu,Qu];omega
theorem N1 {b:Nat} (hb:3<=b):5+bS (b-2)<=bS b:=by rw [Qu,Qu];omega
theorem Kp {L q b:Nat} (hL:L<=3) (hb:3<=b) (hq:L*q<=b-1):10+L*bC q<=bC b:=by
 rw [Qt,Qt]
 have:L=0∨L=1∨L=2∨L=3:=by omega
 rcases this with rfl|rfl|rfl|rfl<;>omega
theorem Sw {L q b:Nat} (hL:L<=3) (hb:3<=b) (hq:L*q<=b-2):40+L*bC q<=bC b:=by
 rw [Qt,Qt]
 have:L=0∨L=1∨L=2∨L=3:=by omega
 rcases this with rfl|rfl|rfl|rfl<;>omega
theorem Ss {b:Nat} (hb:3<=b):10+(bC (b / 2)+bC (b / 2))<=bC b:=by rw [Qt,Qt];omega
theorem N0 {b:Nat} (hb:3<=b):40+bC (b-2)<=bC b:=by rw [Qt,Qt];omega
theorem Gq (b:Nat):4<=bS b:=by rw [Qu];omega
theorem Gp (b:Nat):40<=bC b:=by rw [Qt];omega
theorem Uu (L b:Nat):L*(b / L)<=b:=Nat.mul_div_le b L
theorem Ip {k L C:Nat} (h:k<L):(k+1)*C=k*C+C/\(k+1)*C<=L*C:=⟨by rw [UJ,Nat.one_mul],UZ C h⟩
theorem AI {ds:List Zd} {d x:Int} {m k:Nat} (h:(ZW ds d)[k]? = some x):Un ds 8 d m (1+k)=m+(ZY ds x).length:=by
 rw [Un,Zs om,Zw rfl,Zs om,Uv (i:=((1+k:Nat):Int)-1) (by rw [show (((1+k:Nat):Int)-1).toNat=k by omega];exact h)]
section
variable {g:Xv} {m:Nat}
theorem GE.var {z:Int} {q:Nat} (hz:0<=z/\z<m) (hm:m<=2000) (hq:1<=q):GE g m q (.mk 12 z []):=⟨OC hz hm,by simpa [Z1.sz,YX] using hq⟩
theorem GE.list {ys:List Z1} {L s:Nat} (h:∀e∈ys,GE g m s e) (hl:ys.length=L):YX ys<=L*s:=by rw [<-hl];exact Cl fun e he=>(h e he).2
theorem GE.node {op num:Int} {ys:List Z1} {L s q:Nat} (ho:0<=op/\op<=11/\op≠7/\op≠8) (hc:op=9->0<=num/\num<g.funcs.length) (hn:-2000<=num/\num<=2000) (h:∀e∈ys,GE g m s e) (hl:ys.length=L) (hL:L<=3) (hq:1+L*s<=q):GE g m q (.mk op num ys):=by
 have:=GE.list h hl
 exact ⟨JC ho hc hn om fun e he=>(h e he).1,by rw [Z1.sz];omega⟩
theorem GE.if_ {num:Int} {ys:List Z1} {s q:Nat} (hn:-2000<=num/\num<=2000) (h:∀e∈ys,GE g m s e) (hl:ys.length=3) (hq:1+3*s<=q):GE g m q (.mk 7 num ys):=by
 have:=GE.list h hl
 exact ⟨GW hn hl fun e he=>(h e he).1,by rw [Z1.sz];omega⟩
theorem GE.let_ {a b:Z1} {s q:Nat} (ha:GE g m s a) (hb:GE g (m+1) s b) (hq:1+(s+s)<=q):GE g m q (.mk 13 0 [a,b]):=by
 refine ⟨GX om ha.1 hb.1,?_⟩
 have h1:=ha.2
 have h2:=hb.2
 simp only [Z1.sz,YX];omega
theorem GE.two {op num:Int} {a b:Z1} {s1 s2 q:Nat} (ho:0<=op/\op<=11/\op≠7/\op≠8/\op≠9) (hn:-2000<=num/\num<=2000) (ha:GE g m s1 a) (hb:GE g m s2 b) (hq:1+(s1+s2)<=q):GE g m q (.mk op num [a,b]):=by
 refine ⟨JC om (fun h=>by omega) hn (by simp) fun e he=>?_,?_⟩
 ·rcases Yj.1 he with rfl|he
  ·exact ha.1
  ·rw [Xk.1 he];exact hb.1
 ·have h1:=ha.2
  have h2:=hb.2
  simp only [Z1.sz,YX];omega
theorem GE.match_ {d:Int} {e:Z1} {ys:List Z1} {L s q:Nat} (hd:-2000<=d/\d<=2000) (he:GE g m 4 e) (hw:T4 g.decls g.funcs.length (Un g.decls 8 d m) 1 ys) (hs:∀e∈ys,e.sz<=s) (hl:ys.length=L) (hL:L=(ZW g.decls d).length) (h3:L<=3) (hq:5+L*s<=q):GE g m q (.mk 8 d (e::ys)):=by
 refine ⟨Ep hd om om he.1 hw,?_⟩
 have h1:=Cl hs
 rw [hl] at h1
 have h2:=he.2
 rw [Z1.sz,YX];omega
end
def NL (s:Nat) (left w:Int):Prop:=((s:Int)<=left/\w=left-s)∨(left<s/\w=-1)
end Go.Abs
namespace Go.Abs
theorem JQ {L b p pp M:Nat} (hL:L<=3) (hb:3<=b) (h:pp<=p+8) (hp:p+(bC b-1)<=M):pp+L*bC ((b-1) / L)<=M:=by
 have:=Kp hL hb (Uu L (b-1))
 omega
end Go.Abs
end
namespace Go.Abs
theorem OI (a b:Z1):YX [a,b]=a.sz+b.sz:=by simp only [YX];omega
theorem Ck (a b c:Z1):YX [a,b,c]=a.sz+b.sz+c.sz:=by simp only [YX];omega
theorem B3:bS 3=20/\bS 4=30/\bS 12=110/\bS 16=150/\bS 18=170/\bC 3=200/\bC 4=300/\bC 16=1500:=by decide
theorem C5 {b:Nat} (h:b<=20):bS b<=190/\bC b<=1900/\(b<=2->bS b<=10):=by rw [Qu,Qt];omega
section
variable {g:Xv} {m:Nat}
theorem SE.ofs {op num:Int} {ys:List Z1} {q:Nat} (ho:0<=op/\op<=11/\op≠7/\op≠8/\op≠9) (hn:-2000<=num/\num<=2000) (hl:ys.length<=4) (hy:∀e∈ys,∃s,SE g s e) (hq:1+YX ys<=q):SE g q (.mk op num ys):=
 ⟨fun m=>JC om (fun h=>by omega) hn hl fun e he=>let ⟨_,h⟩:=hy e he;h.1 m,by rw [Z1.sz];exact hq⟩
theorem SE.nil {op num:Int} {q:Nat} (ho:0<=op/\op<=11/\op≠7/\op≠8/\op≠9) (hn:-2000<=num/\num<=2000) (hq:1<=q):SE g q (.mk op num []):=
 SE.ofs ho hn (by simp) (fun e he=>by cases he) (by simpa [YX] using hq)
theorem SE.two {op num:Int} {a b:Z1} {s1 s2 q:Nat} (ho:0<=op/\op<=11/\op≠7/\op≠8/\op≠9) (hn:-2000<=num/\num<=2000) (ha:SE g s1 a) (hb:SE g s2 b) (hq:1+(s1+s2)<=q):SE g q (.mk op num [a,b]):=by
 refine SE.ofs ho hn (by simp) (fun e he=>?_) ?_
 ·rcases Yj.1 he with rfl|he
  ·exact ⟨_,ha⟩
  ·rw [Xk.1 he];exact ⟨_,hb⟩
 ·have h1:=ha.2
  have h2:=hb.2
  rw [OI];omega
theorem SE.three {op num:Int} {a b c:Z1} {s1 s2 s3 q:Nat} (ho:0<=op/\op<=11/\op≠7/\op≠8/\op≠9) (hn:-2000<=num/\num<=2000) (ha:SE g s1 a) (hb:SE g s2 b) (hc:SE g s3 c) (hq:1+(s1+s2+s3)<=q):SE g q (.mk op num [a,b,c]):=by
 refine SE.ofs ho hn (by simp) (fun e he=>?_) ?_
 ·rcases Yj.1 he with rfl|he
  ·exact ⟨_,ha⟩
  ·rcases Yj.1 he with rfl|he
   ·exact ⟨_,hb⟩
   ·rw [Xk.1 he];exact ⟨_,hc⟩
 ·have h1:=ha.2
  have h2:=hb.2
  have h3:=hc.2
  rw [Ck];omega
theorem GE.int {z:Int} {q:Nat} (hz:-2000<=z/\z<=2000) (hq:1<=q):GE g m q (.mk 0 z []):=(SE.int (g:=g) (q:=q) hz hq).ge (YI _)
theorem GE.three {op num:Int} {a b c:Z1} {s1 s2 s3 q:Nat} (ho:0<=op/\op<=11/\op≠8/\op≠9) (hn:-2000<=num/\num<=2000) (ha:GE g m s1 a) (hb:GE g m s2 b) (hc:GE g m s3 c) (hq:1+(s1+s2+s3)<=q):GE g m q (.mk op num [a,b,c]):=by
 have hk:∀e∈[a,b,c],eW g.decls g.funcs.length m e:=fun e he=>by
  rcases Yj.1 he with rfl|he
  ·exact ha.1
  ·rcases Yj.1 he with rfl|he
   ·exact hb.1
   ·rw [Xk.1 he];exact hc.1
 refine ⟨?_,?_⟩
 ·by_cases h7:op=7
  ·subst h7;exact GW hn rfl hk
  ·exact JC om (fun h=>by omega) hn (by simp) hk
 ·have h1:=ha.2
  have h2:=hb.2
  have h3:=hc.2
  rw [Z1.sz,Ck];omega
theorem GE.one {op num:Int} {a:Z1} {s1 q:Nat} (ho:0<=op/\op<=11/\op≠7/\op≠8/\op≠9) (hn:-2000<=num/\num<=2000) (ha:GE g m s1 a) (hq:1+s1<=q):GE g m q (.mk op num [a]):=by
 refine ⟨JC om (fun h=>by omega) hn (by simp) fun e he=>?_,?_⟩
 ·rw [Xk.1 he];exact ha.1
 ·have h1:=ha.2
  simp only [Z1.sz,YX];omega
theorem GE.letS {a b:Z1} {s1 s2 q:Nat} (ha:GE g m s1 a) (hb:GE g (m+1) s2 b) (hq:1+(s1+s2)<=q):GE g m q (.mk 13 0 [a,b]):=by
 refine ⟨GX om ha.1 hb.1,?_⟩
 have h1:=ha.2
 have h2:=hb.2
 simp only [Z1.sz,YX];omega
theorem GE.matchL (hg:GP g) {e a b:Z1} {s1 s2 s3 q:Nat} (he:GE g m s1 e) (ha:GE g m s2 a) (hb:GE g (m+2) s3 b) (hq:1+(s1+s2+s3)<=q):GE g m q (.mk 8 1 [e,a,b]):=by
 have hl:=hg.decls.low
 refine ⟨Ep om (by simp) (by rw [hl.2.1];rfl) he.1 ⟨?_,?_,True.intro⟩,?_⟩
 ·rw [AI (k:=0) (x:=0) (by rw [hl.2.1];rfl),hl.2.2.2.2.1];exact ha.1
 ·rw [AI (k:=1) (x:=1) (by rw [hl.2.1];rfl),hl.2.2.2.2.2.1];exact hb.1
 ·have h1:=he.2
  have h2:=ha.2
  have h3:=hb.2
  rw [Z1.sz,Ck];omega
theorem GE.matchT (hg:GP g) {e a b:Z1} {s1 s2 s3 q:Nat} (he:GE g m s1 e) (ha:GE g m s2 a) (hb:GE g (m+3) s3 b) (hq:1+(s1+s2+s3)<=q):GE g m q (.mk 8 3 [e,a,b]):=by
 have hl:=hg.decls.low
 refine ⟨Ep om (by simp) (by rw [hl.2.2.2.1];rfl) he.1 ⟨?_,?_,True.intro⟩,?_⟩
 ·rw [AI (k:=0) (x:=2) (by rw [hl.2.2.2.1];rfl),hl.2.2.2.2.2.2.1];exact ha.1
 ·rw [AI (k:=1) (x:=3) (by rw [hl.2.2.2.1];rfl),hl.2.2.2.2.2.2.2];exact hb.1
 ·have h1:=he.2
  have h2:=ha.2
  have h3:=hb.2
  rw [Z1.sz,Ck];omega
theorem DT {α:Type} {p:α->Prop} {a:α} (h:p a):∀x∈[a],p x:=fun x hx=>by rw [Xk.1 hx];exact h
end
structure DI (g:Xv):Prop where
 gp:GP g
 body:∀f∈g.funcs,eW g.decls g.funcs.length f.params.length f.body/\f.body.sz<=30
structure GL (ds:List Zd) (k j:Nat) (rq:List Func):Prop where
 len:rq.length=4
 sigs:∀f∈rq,U2 f
 zero:∀f,rq[0]? = some f->f.params.length=0
 body:∀i f,j<=i->i<k->rq[i]? = some f->eW ds k f.params.length f.body/\f.body.sz<=30
theorem GL.gp {ds:List Zd} {k j:Nat} {rq:List Func} (h:GL ds k j rq) (hd:GD ds) (hk:1<=k/\k<=4):GP ⟨ds,rq.take k⟩:=
 ⟨hd,by show 1<=(rq.take k).length/\_;rw [W8,h.len];omega,fun f hf=>h.sigs f (Tl hf)⟩
theorem GL.len_take {ds:List Zd} {k j:Nat} {rq:List Func} (h:GL ds k j rq) (hk:k<=4):(rq.take k).length=k:=by rw [W8,h.len];omega
theorem GL.set {ds:List Zd} {k j:Nat} {rq:List Func} {f:Func} {e:Z1} (h:GL ds k j rq) (hj:1<=j) (hf:rq[j-1]? = some f) (he:eW ds k f.params.length e/\e.sz<=30):GL ds k (j-1) (rq.set (j-1) ⟨f.params,f.result,e⟩):=by
 have hl:=(Xj.1 hf).1
 refine ⟨by rw [Ua];exact h.len,fun x hx=>?_,fun x hx=>?_,fun i x h1 h2 hx=>?_⟩
 ·rcases List.mem_or_eq_of_mem_set hx with hx|rfl
  ·exact h.sigs x hx
  ·exact h.sigs f (ZU hf)
 ·rw [List.getElem?_set] at hx
  split at hx
  ·rename_i h0
   cases hx
   exact h.zero f (by rw [<-h0];exact hf)
  ·exact h.zero x hx
 ·rw [List.getElem?_set] at hx
  split at hx
  ·cases hx
   exact he
  ·exact h.body i x om h2 hx
theorem GL.done {ds:List Zd} {k:Nat} {rq:List Func} (h:GL ds k 0 rq) (hd:GD ds) (hk:1<=k/\k<=4):DI ⟨ds,rq.take k⟩:=by
 refine ⟨h.gp hd hk,fun f hf=>?_⟩
 show eW ds (rq.take k).length _ _/\_
 rw [h.len_take hk.2]
 obtain ⟨i,hi⟩:=List.getElem?_of_mem hf
 have hi2:i<(rq.take k).length:=(Xj.1 hi).1
 rw [h.len_take hk.2] at hi2
 rw [List.getElem?_take_of_lt hi2] at hi
 exact h.body i f om hi2 hi
theorem Fw {l:List Func} {f:Func} {k:Nat} (h:l[k]? = some f) (hl:l.all (fun f=>decide ((f.params,f.result)∈Qq))=true):U2 f:=show (f.params,f.result)∈Qq from of_decide_eq_true (QT.1 hl f (ZU h))
theorem GL.start {ds:List Zd} {k:Nat} {e:Z1} {a b c:Func} (ha:U2 a) (hb:U2 b) (hc:U2 c):GL ds k k [⟨[],0,e⟩,a,b,c]:=by
 refine ⟨rfl,fun f hf=>?_,fun f hf=>?_,fun i f h1 h2=>by omega⟩
 ·rcases Yj.1 hf with rfl|hf
  ·exact List.Mem.head _
  ·rcases Yj.1 hf with rfl|hf
   ·exact ha
   ·rcases Yj.1 hf with rfl|hf
    ·exact hb
    ·rw [Xk.1 hf];exact hc
 ·cases hf;rfl
theorem SP {l:LI} {k:Nat} {a b:Nat} (h:(k:Int)∈l) (hl:l.all (fun x=>decide ((a:Int)<=x/\x<=b))=true):a<=k/\k<=b:=by
 have:=of_decide_eq_true (QT.1 hl _ h)
 omega
mutual
def Te (p:Int->Prop):Z3->Prop
 | .mk op _ _ _ kids=>p op/\Td p kids
def Td (p:Int->Prop):List Z4->Prop
 | []=>True
 | b::r=>Wo p b/\Td p r
def Uk (p:Int->Prop):List Z3->Prop
 | []=>True
 | s::r=>Te p s/\Uk p r
def Wo (p:Int->Prop):Z4->Prop
 | .mk steps _=>Uk p steps
end
section
variable {p q:Int->Prop}
theorem BC (s:Z3):Te p s↔p s.op/\Td p s.kids:=by cases s;rw [Te];rfl
theorem CZ (b:Z4):Wo p b↔Uk p b.steps:=by cases b;rw [Wo];rfl
theorem AA:∀{xs:List Z4},Td p xs↔∀b∈xs,Wo p b
 | []=>by simp [Td]
 | b::r=>by rw [Td,AA];simp
theorem JT:∀{xs:List Z3},Uk p xs↔∀b∈xs,Te p b
 | []=>by simp [Uk]
 | b::r=>by rw [Uk,JT];simp
theorem D0 {xs ys:List Z3}:Uk p (xs++ys)↔Uk p xs/\Uk p ys:=by simp only [JT,YO];exact ⟨fun h=>⟨fun b hb=>h b (.inl hb),fun b hb=>h b (.inr hb)⟩,fun h b hb=>hb.elim (h.1 b) (h.2 b)⟩
theorem IA {xs:List Z4} {b:Z4} (h:Td p xs) (hb:Wo p b):Td p (xs++[b]):=AA.2 (YZ (AA.1 h) hb)
theorem D3 {xs:List Z3} {b:Z3} (h:Uk p xs) (hb:Te p b):Uk p (xs++[b]):=JT.2 (YZ (JT.1 h) hb)
end
def XX (op:Int):Prop:=op<=11
def Wv (op:Int):Prop:=op<=15
end Go.Abs
section
namespace Go.Abs
structure LW (ds:List Zd) (nf q:Nat) (e:Z1) (ys:List Z3) (v:Int):Prop where
 fs:VU ds nf q ys
 v:0<=v/\v<(q+Yy ys:Nat)
 sz:Y5 ys<=6*e.sz
 op:Uk XX ys
theorem LW.dn {ds:List Zd} {nf q:Nat} {e:Z1} {ys:List Z3} {v:Int} (h:LW ds nf q e ys v):Yy ys<=6*e.sz/\ys.length<=6*e.sz:=by
 have h1:=Jx ys
 have h2:=Qi ys
 have h3:=h.sz
 omega
structure LB (ds:List Zd) (nf q:Nat) (e:Z1) (b:Z4):Prop where
 fb:fB ds nf q b
 sz:b.sz<=1+6*e.sz
 op:Wo XX b
section
variable {ds:List Zd} {nf q:Nat}
theorem B4:∀xs ys:List Z4,YF (xs++ys)=YF xs+YF ys
 | [],ys=>by simp [YF]
 | x::r,ys=>by rw [Qn,YF,YF,B4 r];omega
theorem LW.block {e:Z1} {ys:List Z3} {v:Int} (h:LW ds nf q e ys v):LB ds nf q e ⟨ys,v⟩:=
 ⟨by rw [fB];exact ⟨h.fs,h.v⟩,by rw [Z4.sz];have:=h.sz;omega,by rw [Wo];exact h.op⟩
theorem LW.var {e:Z1} {v:Int} (hv:0<=v/\v<q):LW ds nf q e [] v:=⟨True.intro,by simpa [Yy] using hv,by simp [Y5],True.intro⟩
theorem LW.let_ {e a b:Z1} {ys zs:List Z3} {v1 v2:Int} (ha:LW ds nf q a ys v1) (hb:LW ds nf (q+Yy ys) b zs v2) (he:a.sz+b.sz<e.sz):LW ds nf q e (ys++zs) v2:=by
 refine ⟨Ao.2 ⟨ha.fs,hb.fs⟩,by rw [Q9,<-KC];exact hb.v,?_,D0.2 ⟨ha.op,hb.op⟩⟩
 have h1:=ha.sz
 have h2:=hb.sz
 rw [VZ];omega
theorem B7 {ys:List Z3} {s:Z3} (h:YG s.op=false):Yy (ys++[s])=Yy ys+1:=by
 rw [Q9]
 simp [Yy,h]
theorem LW.node {e:Z1} {ys:List Z3} {as1:LI} (ho:0<=e.op/\e.op<=11/\e.op≠7/\e.op≠8) (hc:e.op=9->0<=e.num/\e.num<nf) (hn:-2000<=e.num/\e.num<=2000) (hf:VU ds nf q ys) (ha:∀a∈as1,0<=a/\a<(q+Yy ys:Nat)) (hl:as1.length<=4) (hs:Y5 ys<=6*YX e.kids) (hop:Uk XX ys) :
  LW ds nf q e (ys++[⟨e.op,e.num,0,as1,[]⟩]) ((q+Yy ys:Nat):Int):=by
 have hcb:YG e.op=false:=by simp [YG];omega
 refine ⟨Cp hf ?_,?_,?_,D3 hop (by rw [Te];exact ⟨by show e.op<=11;omega,True.intro⟩)⟩
 ·rw [fS]
  exact ⟨.inl ⟨by omega,by omega⟩,ha,fun h=>by omega,fun h=>by omega,fun h=>by omega,fun h=>by omega,hc,hn,by omega,hl,fun _=>rfl,True.intro⟩
 ·rw [B7 (show YG (Z3.mk e.op e.num 0 as1 []).op=false from hcb)];omega
 ·rw [VZ,e.sz_eq]
  simp only [Y5,Z3.sz,YF]
  omega
theorem LW.branch {e:Z1} {ys:List Z3} {v:Int} {bs:List Z4} {s0 sr:Nat} (ho:e.op=7∨e.op=8) (h7:e.op=7->bs.length=2) (h8:e.op=8->bs.length=(ZW ds e.num).length) (hn:-2000<=e.num/\e.num<=2000) (hf:VU ds nf q ys) (hv:0<=v/\v<(q+Yy ys:Nat))
  (hb:Ug ds nf (VL ds e.op e.num (q+Yy ys)) 0 bs) (hl:bs.length<=3) (h0:Y5 ys<=6*s0) (h1:YF bs<=bs.length+6*sr) (hs:s0+sr<=YX e.kids) (hop:Uk XX ys) (hob:Td XX bs):LW ds nf q e (ys++[⟨e.op,e.num,0,[v],bs⟩]) ((q+Yy ys:Nat):Int):=by
 have hcb:YG e.op=false:=by simp [YG];omega
 refine ⟨Cp hf ?_,?_,?_,D3 hop (by rw [Te];exact ⟨by show e.op<=11;omega,hob⟩)⟩
 ·rw [fS]
  exact ⟨.inl ⟨by omega,by omega⟩,fun a ha=>by rw [Xk.1 ha];exact hv,fun h=>by omega,h7,h8,fun _=>⟨v,rfl⟩,fun h=>by omega,hn,by omega,by simp,fun h=>by omega,hb⟩
 ·rw [B7 (show YG (Z3.mk e.op e.num 0 [v] bs).op=false from hcb)];omega
 ·rw [VZ,e.sz_eq]
  simp only [Y5,Z3.sz,Yw,YV]
  omega
theorem Lo {ds:List Zd} {op num:Int} {m k:Nat} (h:op=13):Un ds op num m k=m+k:=Zw h
theorem Z1d {ds:List Zd} {op num:Int} {m:Nat} (h:op≠13):Un ds op num m 0=m:=by simp [Un,h]
theorem Lp {ds:List Zd} {op num:Int} {m k:Nat} (h:op≠13/\op≠8):Un ds op num m k=m:=by simp [Un,h.1,h.2]
theorem Z1e {ds:List Zd} {op num x:Int} {m k j:Nat} (h:op=8) (hk:k=j+1) (hx:(ZW ds num)[j]? = some x):Un ds op num m k=m+(ZY ds x).length:=by
 subst h;subst hk;rw [Nat.add_comm j 1];exact AI hx
theorem Fu {ds:List Zd} {op num x:Int} {m j:Nat} (h:op=8) (hx:(ZW ds num)[j]? = some x):VL ds op num m j=m+(ZY ds x).length:=by
 rw [VL,Zw h,Uv (i:=(j:Int)) (by simpa using hx)]
theorem Fv {ds:List Zd} {op num:Int} {m j:Nat} (h:op≠8):VL ds op num m j=m:=Zs h
theorem KW {xs:List Z1} {k:Nat} {e:Z1} (h:xs[k]? = some e):YX (xs.take (k+1))=YX (xs.take k)+e.sz:=by rw [Ve h,B9,YX,YX];rfl
theorem Kc {xs:List Z1} (k:Nat):YX (xs.take k)<=YX xs:=by
 have h:=Yg YX (U1 k xs)
 rw [B9] at h;omega
theorem H3 {xs:List Z1} {a b:Z1} (ha:xs[0]? = some a) (hb:xs[1]? = some b):a.sz+b.sz<=YX xs:=by
 have h1:YX (xs.take 1)=YX (xs.take 0)+a.sz:=KW ha
 have h2:YX (xs.take 2)=YX (xs.take 1)+b.sz:=KW hb
 have h3:=Kc (xs:=xs) 2
 omega
theorem BR {us:LI} {v:Int} {d:Nat} (hu:∀a∈us,0<=a/\a<(q:Int)) (hv:0<=v/\v<(q+d:Nat)):∀a∈us++[v],0<=a/\a<((q+d:Nat):Int):=
 YZ (fun a ha=>by have:=hu a ha;omega) hv
theorem Dv {us:LI} {d:Nat} (hu:∀a∈us,0<=a/\a<(q:Int)):∀a∈us,0<=a/\a<((q+d:Nat):Int):=fun a ha=>by have:=hu a ha;omega
theorem Z3t {us ns:LI} {d mf:Nat} (hu:∀a∈us,0<=a/\a<(q:Int)) (hn:∀i∈ns,((q+d:Nat):Int)<=i/\i<((q+d:Nat):Int)+mf):∀a∈us++ns,0<=a/\a<((q+d+mf:Nat):Int):=fun a ha=>by
 rcases YO.1 ha with h|h
 ·have:=hu a h;omega
 ·have:=hn a h;omega
theorem C7:∀bs:List Z4,bs.length<=YF bs
 | []=>YI _
 | b::r=>by have:=C7 r;have:=b.sz_pos;rw [YF,Yw];omega
end
end Go.Abs
namespace Go.Abs
structure RF (ds:List Zd) (nf q:Nat) (p:Int->Prop) (r:Y1):Prop where
 sig:(r.params,r.result)∈Qq
 lent:r.lent.length<=3/\∀i∈r.lent,0<=i/\i<r.params.length
 body:fB ds nf r.params.length r.body/\r.body.sz<=q
 op:Wo p r.body
structure FO (n:Zu) (q:Nat) (p:Int->Prop):Prop where
 fn:FN n q
 op:∀r∈n.routines,Wo p r.body
theorem FO.rf {n:Zu} {q:Nat} {p:Int->Prop} (h:FO n q p) {r:Y1} (hr:r∈n.routines):RF n.decls n.routines.length q p r:=⟨h.fn.sigs r hr,h.fn.lent r hr,h.fn.body r hr,h.op r hr⟩
theorem FO.all {n:Zu} {q:Nat} {p:Int->Prop} (hd:GD n.decls) (hl:1<=n.routines.length/\n.routines.length<=4) (h:∀r∈n.routines,RF n.decls n.routines.length q p r):FO n q p:=
 ⟨⟨hd,hl,fun r hr=>(h r hr).sig,fun r hr=>(h r hr).lent,fun r hr=>(h r hr).body⟩,fun r hr=>(h r hr).op⟩
structure RN (ds:List Zd) (nf:Nat) (r:Y1):Prop where
 sig:(r.params,r.result)∈Qq
 lent:r.lent=[]
 body:fB ds nf r.params.length r.body/\r.body.sz<=181
 op:Wo XX r.body
theorem RN.all {n:Zu} {q:Nat} (hd:GD n.decls) (hl:1<=n.routines.length/\n.routines.length<=4) (h:∀r∈n.routines,RN n.decls n.routines.length r) (hq:181<=q):FO n q XX:=
 FO.all hd hl fun r hr=>⟨(h r hr).sig,by rw [(h r hr).lent];exact ⟨by simp,fun i hi=>by cases hi⟩,⟨(h r hr).body.1,Wt (h r hr).body.2 hq⟩,(h r hr).op⟩
end Go.Abs
namespace Go.Abs
theorem RN.of {ds:List Zd} {nf:Nat} {ps:LI} {rt:Int} {b:Z4} {e:Z1} (hs:(ps,rt)∈Qq) (h:LB ds nf ps.length e b) (he:e.sz<=30):RN ds nf ⟨ps,[],rt,Z4.mk b.steps b.result⟩:=by
 have e1:Z4.mk b.steps b.result=b:=by cases b;rfl
 rw [e1]
 exact ⟨hs,rfl,⟨h.fb,by have:=h.sz;show b.sz<=181;omega⟩,h.op⟩
end Go.Abs
end
namespace Go.Abs
theorem FH:∀{xs:List Z3} {s:Z3},s∈xs->s.sz<=Y5 xs
 | [],s,h=>by cases h
 | x::r,s,h=>by
  rw [Y5]
  rcases Yj.1 h with rfl|h
  ·omega
  ·have:=FH h;omega
theorem DY:∀{xs:List Z4} {b:Z4},b∈xs->b.sz<=YF xs
 | [],b,h=>by cases h
 | x::r,b,h=>by
  rw [YF]
  rcases Yj.1 h with rfl|h
  ·omega
  ·have:=DY h;omega
structure LC (n:Zu) (k:Nat) (xs:List LI):Prop where
 len:xs.length=k
 ok:∀(i:Nat) (l:LI),xs[i]? = some l->l.length<=3/\∀r,n.routines[i]? = some r->∀v∈l,0<=v/\v<(r.params.length:Int)
theorem LC.nil {n:Zu}:LC n 0 []:=⟨rfl,fun i l h=>by simp at h⟩
theorem LC.snoc {n:Zu} {k:Nat} {xs:List LI} {l:LI} (h:LC n k xs) (hl:l.length<=3) (hv:∀r,n.routines[k]? = some r->∀v∈l,0<=v/\v<(r.params.length:Int)):LC n (k+1) (xs++[l]):=by
 refine ⟨by rw [Yb,h.len];rfl,fun i l' hi=>?_⟩
 by_cases hk:i<xs.length
 ·rw [BV hk] at hi
  exact h.ok i l' hi
 ·rw [DC om] at hi
  have h0:i-xs.length=0:=by
   cases e:i-xs.length with
   | zero=>rfl
   | succ q=>rw [e] at hi;simp at hi
  rw [h0] at hi
  cases hi
  have e:i=k:=by have:=h.len;omega
  subst e
  exact ⟨hl,hv⟩
def Wm:LI->Int->LI
 | [],y=>[y]
 | x::r,y=>if x>y then y::x::r else if x=y then x::r else x::Wm r y
def UD (d:Bool) (xs:LI) (y:Int):LI:=if d=true then xs else Wm xs y
theorem CI {xs:LI} {y:Int}:UD true xs y=xs:=rfl
theorem CH {xs:LI} {y:Int}:UD false xs y=Wm xs y:=rfl
theorem HU {xs acc r:LI} {y x:Int} {k:Nat} {d:Bool} (hx:xs[k]? = some x) (hd:d=true) (h:acc++UD d (xs.drop k) y=r):(acc++[x])++UD d (xs.drop (k+1)) y=r:=by
 subst hd
 rw [CI,Ye hx] at h
 rw [CI,<-h];simp
theorem RL {xs acc r:LI} {y x:Int} {k:Nat} {d:Bool} (hx:xs[k]? = some x) (hd:¬d=true) (hl:¬x>=y) (h:acc++UD d (xs.drop k) y=r):(acc++[x])++UD d (xs.drop (k+1)) y=r:=by
 have hd:=BU.2 hd
 subst hd
 rw [CH,Ye hx,Wm,Zs om,Zs om] at h
 rw [CH,<-h];simp
theorem RM {xs acc r:LI} {y x:Int} {k:Nat} {d:Bool} (hx:xs[k]? = some x) (hd:¬d=true) (hl:x>y) (h:acc++UD d (xs.drop k) y=r):((acc++[y])++[x])++UD true (xs.drop (k+1)) y=r:=by
 have hd:=BU.2 hd
 subst hd
 rw [CH,Ye hx,Wm,Zw hl] at h
 rw [CI,<-h];simp
theorem RO {xs acc r:LI} {y x:Int} {k:Nat} {d:Bool} (hx:xs[k]? = some x) (hd:¬d=true) (hl:x=y) (h:acc++UD d (xs.drop k) y=r):(acc++[x])++UD true (xs.drop (k+1)) y=r:=by
 have hd:=BU.2 hd
 subst hd
 rw [CH,Ye hx,Wm,Zs om,Zw hl] at h
 rw [CI,<-h];simp
theorem RK {xs acc acc2 r:LI} {y x:Int} {k:Nat} {d d2:Bool} (hx:xs[k]? = some x) (h:acc++UD d (xs.drop k) y=r)
  (hc:(acc2=acc/\d2=d/\(d=true∨¬x>=y))∨(acc2=acc++[y]/\d2=true/\¬d=true/\x>y)∨(acc2=acc/\d2=true/\¬d=true/\x=y)):(acc2++[x])++UD d2 (xs.drop (k+1)) y=r:=by
 rcases hc with ⟨rfl,rfl,h3⟩|⟨rfl,rfl,h3,h4⟩|⟨rfl,rfl,h3,h4⟩
 ·rcases h3 with h3|h3
  ·exact HU hx h3 h
  ·by_cases q:d2=true
   ·exact HU hx q h
   ·exact RL hx q h3 h
 ·exact RM hx h3 h4 h
 ·exact RO hx h3 h4 h
theorem RJ {xs acc r:LI} {y:Int} {k:Nat} {d:Bool} (hk:xs.length<=k) (h:acc++UD d (xs.drop k) y=r):(if d=true then acc else acc++[y])=r:=by
 rw [Xf hk] at h
 by_cases q:d=true
 ·rw [UD,Zw q,Tk] at h;rw [Zw q];exact h
 ·rw [UD,Zs q,Wm] at h;rw [Zs q];exact h
theorem At:∀(xs:LI) (y:Int),(Wm xs y).length<=xs.length+1
 | [],y=>YI _
 | x::r,y=>by
  have:=At r y
  rw [Wm]
  split
  ·simp
  ·split
   ·simp
   ·simp only [Yw];omega
theorem Bp:∀{xs:LI} {y z:Int},z∈Wm xs y↔z∈xs∨z=y
 | [],y,z=>by simp [Wm]
 | x::r,y,z=>by
  rw [Wm]
  split
  ·simp only [Yj];exact ⟨fun h=>h.elim .inr .inl,fun h=>h.elim .inr .inl⟩
  ·split
   ·rename_i h;subst h;simp only [Yj];exact ⟨fun h=>.inl h,fun h=>h.elim id .inl⟩
   ·simp only [Yj,Bp (xs:=r)];exact ⟨fun h=>by rcases h with h|h|h<;>simp [h],fun h=>by rcases h with (h|h)|h<;>simp [h]⟩
def Jn (xs:LI):Prop:=xs.Pairwise (·<·)
theorem HS:∀{xs:LI} {y:Int},Jn xs->Jn (Wm xs y)
 | [],y,_=>by simp [Wm,Jn]
 | x::r,y,h=>by
  obtain ⟨h1,h2⟩:=XV.1 h
  rw [Wm]
  split
  ·rename_i q
   refine XV.2 ⟨fun z hz=>?_,h⟩
   rcases Yj.1 hz with rfl|hz
   ·omega
   ·have:=h1 z hz;omega
  ·split
   ·exact h
   ·refine XV.2 ⟨fun z hz=>?_,HS h2⟩
    rcases Bp.1 hz with hz|rfl
    ·exact h1 z hz
    ·omega
def Ul:LI->Int->LI
 | [],_=>[]
 | x::r,y=>if x=y then Ul r y else x::Ul r y
theorem BE:∀(xs:LI) (y:Int),(Ul xs y).length<=xs.length
 | [],y=>YI _
 | x::r,y=>by
  have:=BE r y
  rw [Ul]
  split
  ·rw [Yw];omega
  ·rw [Yw,Yw];omega
theorem AB:∀{xs:LI} {y z:Int},z∈Ul xs y->z∈xs
 | [],y,z,h=>by rw [Ul] at h;exact h
 | x::r,y,z,h=>by
  rw [Ul] at h
  split at h
  ·exact X8 _ (AB h)
  ·rcases Yj.1 h with rfl|h
   ·exact YL ..
   ·exact X8 _ (AB h)
theorem Z09 {xs acc r:LI} {y x:Int} {k:Nat} (hx:xs[k]? = some x) (h:acc++Ul (xs.drop k) y=r):(if x≠y then acc++[x] else acc)++Ul (xs.drop (k+1)) y=r:=by
 rw [Ye hx,Ul] at h
 by_cases q:x=y
 ·rw [Zw q] at h;rw [Zs (fun z=>z q)];exact h
 ·rw [Zs q] at h;rw [Zw q,<-h];simp
theorem Z08 {xs acc r:LI} {y:Int} {k:Nat} (hk:xs.length<=k) (h:acc++Ul (xs.drop k) y=r):acc=r:=by
 rw [Xf hk,Ul,Tk] at h;exact h
def WG (n:Int) (xs:LI) (a:Int):LI:=if 0<=a/\a<n then Wm xs a else xs
def Vn (n:Int):LI->LI->LI
 | [],xs=>xs
 | a::r,xs=>Vn n r (WG n xs a)
mutual
def UW (n:Int):Z3->LI->LI
 | .mk op _ _ args kids,xs=>if YG op=true then xs else UF n kids (Vn n args xs)
def UF (n:Int):List Z4->LI->LI
 | [],xs=>xs
 | b::r,xs=>UF n r (WY n b xs)
def WH (n:Int):List Z3->LI->LI
 | [],xs=>xs
 | s::r,xs=>WH n r (UW n s xs)
def WY (n:Int):Z4->LI->LI
 | .mk steps result,xs=>WG n (WH n steps xs) result
end
section
variable {n:Int}
theorem Mo (s:Z3) (xs:LI):UW n s xs=if YG s.op=true then xs else UF n s.kids (Vn n s.args xs):=by cases s;rw [UW];rfl
theorem Ml (b:Z4) (xs:LI):WY n b xs=WG n (WH n b.steps xs) b.result:=by cases b;rw [WY];rfl
theorem BQ (xs:LI) (a:Int):(WG n xs a).length<=xs.length+1:=by
 rw [WG];split
 ·exact At xs a
 ·omega
theorem Mj:∀(as1 xs:LI),(Vn n as1 xs).length<=xs.length+as1.length
 | [],xs=>YI _
 | a::r,xs=>by
  have h1:=Mj r (WG n xs a)
  have h2:=BQ (n:=n) xs a
  rw [Vn,Yw];omega
mutual
theorem Mp:∀(s:Z3) (xs:LI),(UW n s xs).length<=xs.length+s.sz
 | .mk op num into args kids,xs=>by
  have h1:=Mm kids (Vn n args xs)
  have h2:=Mj (n:=n) args xs
  rw [UW,Z3.sz];split<;>omega
theorem Mm:∀(bs:List Z4) (xs:LI),(UF n bs xs).length<=xs.length+YF bs
 | [],xs=>YI _
 | b::r,xs=>by
  have h1:=Mm r (WY n b xs)
  have h2:=Ds b xs
  rw [UF,YF];omega
theorem Dt:∀(bs:List Z3) (xs:LI),(WH n bs xs).length<=xs.length+Y5 bs
 | [],xs=>YI _
 | b::r,xs=>by
  have h1:=Dt r (UW n b xs)
  have h2:=Mp b xs
  rw [WH,Y5];omega
theorem Ds:∀(b:Z4) (xs:LI),(WY n b xs).length<=xs.length+b.sz
 | .mk steps result,xs=>by
  have h1:=Dt steps xs
  have h2:=BQ (n:=n) (WH n steps xs) result
  rw [WY,Z4.sz];omega
end
theorem Z3m {as1 ys r:LI} {k:Nat} {a:Int} (h:as1[k]? = some a) (ha:Vn n (as1.drop k) ys=r):Vn n (as1.drop (k+1)) (WG n ys a)=r:=by
 rw [Ye h,Vn] at ha;exact ha
theorem Z3p {bs:List Z4} {ys r:LI} {k:Nat} {b:Z4} (h:bs[k]? = some b) (ha:UF n (bs.drop k) ys=r):UF n (bs.drop (k+1)) (WY n b ys)=r:=by
 rw [Ye h,UF] at ha;exact ha
theorem Z3s {bs:List Z3} {ys r:LI} {k:Nat} {b:Z3} (h:bs[k]? = some b) (ha:WH n (bs.drop k) ys=r):WH n (bs.drop (k+1)) (UW n b ys)=r:=by
 rw [Ye h,WH] at ha;exact ha
theorem Z3l {as1 ys r:LI} {k:Nat} (h:as1.length<=k) (ha:Vn n (as1.drop k) ys=r):ys=r:=by rw [Xf h,Vn] at ha;exact ha
theorem Z3o {bs:List Z4} {ys r:LI} {k:Nat} (h:bs.length<=k) (ha:UF n (bs.drop k) ys=r):ys=r:=by rw [Xf h,UF] at ha;exact ha
theorem Z3r {bs:List Z3} {ys r:LI} {k:Nat} (h:bs.length<=k) (ha:WH n (bs.drop k) ys=r):ys=r:=by rw [Xf h,WH] at ha;exact ha
end
theorem G7 {s:Z3} (h:Cn s):∃a,s.args=[a]:=⟨gI s.args 0,by have:=Yg Z3.args h;exact this⟩
section
variable {xs:LI} {v:Int} {lo hi:Nat}
end
section
variable {m:Int} {xs du dr:List Z3} {lf:LI} {d:Bool} {k:Nat} {s:Z3} {W:List Z3 × List Z3 × LI}
end
def Ys:List Z3->Nat
 | []=>0
 | s::r=>if YG s.op=true then Ys r+1 else 0
def Xw (op x:Int):List Z3->Int->Int
 | [],_=>-1
 | s::r,k=>if s.op=op/\gI s.args 0=x then k else Xw op x r (k+1)
def Ts (many:Nat) (s:Z3):Prop:=(s.op=6/\s.into=0)/\s.args.length=many
instance (many:Nat) (s:Z3):Decidable (Ts many s):=by unfold Ts;infer_instance
def XL (many:Nat):List Z3->Int->Int
 | [],_=>-1
 | s::r,k=>if Ts many s then k else XL many r (k+1)
def KY (xs:List Z3) (i:Int):Z3:=xs[i.toNat]?.getD (Zl 0 0)
def Ta (v:Int) (s:Z3):Z3:=.mk s.op s.num v s.args s.kids
def Wq (xs:List Z3) (x:Int):Int:=Xw 16 x (xs.take (Ys xs)) 0
def XR (xs:List Z3) (many:Nat):Int:=XL many (xs.drop (Ys xs)) (Ys xs)
def Vc (xs:List Z3) (x:Int) (many:Nat):List Z3:=
 if Wq xs x<0∨XR xs many<0 then xs else (xs.set (Wq xs x).toNat (Zl 17 x)).set (XR xs many).toNat (Ta (1+x) (KY xs (XR xs many)))
def V6 (b:Z4) (x:Int) (many:Nat):Z4:=.mk (Vc b.steps x many) b.result
mutual
def Tg (ds:List Zd) (kept:LI):Z3->Z3
 | .mk op num into args kids=>.mk op num into args (Vx ds kept op num args kids 0)
def Vx (ds:List Zd) (kept:LI) (op num:Int) (args:LI):List Z4->Nat->List Z4
 | [],_=>[]
 | b::r,k=>(if op=8/\¬gI args 0∈kept then V6 (XU ds (if Wq b.steps (gI args 0)<0∨XR b.steps (Vu ds num k).length<0 then kept else gI args 0::kept) b) (gI args 0) (Vu ds num k).length else XU ds kept b)::Vx ds kept op num args r (k+1)
def Vy (ds:List Zd) (kept:LI):List Z3->List Z3
 | []=>[]
 | s::r=>Tg ds kept s::Vy ds kept r
def XU (ds:List Zd) (kept:LI):Z4->Z4
 | .mk steps result=>.mk (Vy ds kept steps) result
end
def CK (ds:List Zd) (kept:LI) (num:Int) (args:LI) (k:Nat) (b:Z4):LI:=if Wq b.steps (gI args 0)<0∨XR b.steps (Vu ds num k).length<0 then kept else gI args 0::kept
def Um (ds:List Zd) (kept:LI) (op num:Int) (args:LI) (k:Nat) (b:Z4):Z4:=if op=8/\¬gI args 0∈kept then V6 (XU ds (CK ds kept num args k b) b) (gI args 0) (Vu ds num k).length else XU ds kept b
theorem Jd (ds:List Zd) (kept:LI) (s:Z3):Tg ds kept s=.mk s.op s.num s.into s.args (Vx ds kept s.op s.num s.args s.kids 0):=by cases s;rw [Tg];rfl
theorem D8 (ds:List Zd) (kept:LI) (b:Z4):XU ds kept b=.mk (Vy ds kept b.steps) b.result:=by cases b;rw [XU];rfl
theorem Da (ds:List Zd) (kept:LI):∀xs:List Z3,Vy ds kept xs=xs.map (Tg ds kept)
 | []=>rfl
 | s::r=>by rw [Vy,Da ds kept r];rfl
section
variable {ds:List Zd} {kept:LI}
theorem Z13 {xs acc r:List Z3} {k:Nat} {s:Z3} (h:xs[k]? = some s) (ha:acc++Vy ds kept (xs.drop k)=r) :
  (acc++[.mk s.op s.num s.into s.args (Vx ds kept s.op s.num s.args s.kids 0)])++Vy ds kept (xs.drop (k+1))=r:=by
 rw [Ye h,Vy,Jd] at ha
 rw [<-ha];simp
theorem Z12 {xs acc r:List Z3} {k:Nat} (h:xs.length<=k) (ha:acc++Vy ds kept (xs.drop k)=r):acc=r:=by
 rw [Xf h,Vy,Tk] at ha;exact ha
theorem Z0x {op num:Int} {args:LI} {bs acc r:List Z4} {k:Nat} {b:Z4} (h:bs[k]? = some b) (ha:acc++Vx ds kept op num args (bs.drop k) k=r) :
  (acc++[Um ds kept op num args k b])++Vx ds kept op num args (bs.drop (k+1)) (k+1)=r:=by
 rw [Ye h,Vx] at ha
 rw [<-ha,Um,CK];simp
theorem Z0w {op num:Int} {args:LI} {bs acc r:List Z4} {k j:Nat} (h:bs.length<=k) (ha:acc++Vx ds kept op num args (bs.drop k) j=r):acc=r:=by
 rw [Xf h,Vx,Tk] at ha;exact ha
end
section
variable {ds:List Zd}
mutual
theorem Z10:∀(s:Z3) {K K':LI},(∀z,z∈K↔z∈K')->Tg ds K s=Tg ds K' s
 | .mk op num into args kids,K,K',h=>by rw [Tg,Tg,Lf kids h]
theorem Lf:∀(bs:List Z4) {K K':LI} {op num:Int} {args:LI} {k:Nat},(∀z,z∈K↔z∈K')->Vx ds K op num args bs k=Vx ds K' op num args bs k
 | [],_,_,_,_,_,_,_=>by rw [Vx,Vx]
 | b::r,K,K',op,num,args,k,h=>by
  have h1:=Lf r (op:=op) (num:=num) (args:=args) (k:=k+1) h
  have h2:=Fp b h
  have h3:∀z,z∈(gI args 0::K)↔z∈(gI args 0::K'):=fun z=>by rw [Yj,Yj,h z]
  have h4:=Fp b h3
  rw [Vx,Vx,h1,h2]
  congr 1
  by_cases hq:op=8/\¬gI args 0∈K
  ·have hq':op=8/\¬gI args 0∈K':=⟨hq.1,fun z=>hq.2 ((h _).2 z)⟩
   rw [Zw hq,Zw hq']
   congr 1
   split
   ·exact h2
   ·exact h4
  ·have hq':¬(op=8/\¬gI args 0∈K'):=fun z=>hq ⟨z.1,fun y=>z.2 ((h _).1 y)⟩
   rw [Zs hq,Zs hq']
theorem Lh:∀(xs:List Z3) {K K':LI},(∀z,z∈K↔z∈K')->Vy ds K xs=Vy ds K' xs
 | [],_,_,_=>by rw [Vy,Vy]
 | s::r,K,K',h=>by rw [Vy,Vy,Z10 s h,Lh r h]
theorem Fp:∀(b:Z4) {K K':LI},(∀z,z∈K↔z∈K')->XU ds K b=XU ds K' b
 | .mk steps result,K,K',h=>by rw [XU,XU,Lh steps h]
end
end
theorem Bv:∀xs:List Z3,Ys xs<=xs.length
 | []=>YI _
 | s::r=>by have:=Bv r;rw [Ys];split<;>simp<;>omega
section
variable {f:Z3->Z3} (hop:∀s,(f s).op=s.op) (hin:∀s,(f s).into=s.into) (har:∀s,(f s).args=s.args)
include hop
theorem F4:∀xs:List Z3,Ys (xs.map f)=Ys xs
 | []=>rfl
 | s::r=>by rw [VQ,Ys,Ys,hop,F4 r]
include har
theorem Gk {op x:Int}:∀(xs:List Z3) (k:Int),Xw op x (xs.map f) k=Xw op x xs k
 | [],_=>rfl
 | s::r,k=>by rw [VQ,Xw,Xw,hop,har,Gk r]
theorem Z02 (xs:List Z3) (x:Int):Wq (xs.map f) x=Wq xs x:=by rw [Wq,F4 hop,<-List.map_take,Gk hop har,Wq]
include hin
theorem GB {many:Nat}:∀(xs:List Z3) (k:Int),XL many (xs.map f) k=XL many xs k
 | [],_=>rfl
 | s::r,k=>by
  have e:Ts many (f s)↔Ts many s:=by rw [Ts,Ts,hop,hin,har]
  rw [VQ,XL,XL,GB r]
  by_cases h:Ts many s
  ·rw [Zw h,Zw (e.2 h)]
  ·rw [Zs h,Zs (fun z=>h (e.1 z))]
theorem NN (xs:List Z3) (many:Nat):XR (xs.map f) many=XR xs many:=by rw [XR,F4 hop,<-List.map_drop,GB hop hin har,XR]
end
theorem Gj {op x:Int}:∀{xs:List Z3} {k:Int},¬Xw op x xs k<0->0<=k->k<=Xw op x xs k/\Xw op x xs k<k+xs.length/\∃s,xs[(Xw op x xs k-k).toNat]? = some s/\s.op=op/\gI s.args 0=x
 | [],k,h,_=>by simp [Xw] at h
 | s::r,k,h,hk=>by
  rw [Xw] at h ⊢
  split
  ·rename_i q
   refine ⟨Int.le_refl _,by rw [Yw];omega,s,?_,q⟩
   rw [Int.sub_self];rfl
  ·rename_i q
   rw [Zs q] at h
   obtain ⟨h1,h2,t,h3,h4⟩:=Gj (xs:=r) (k:=k+1) h om
   refine ⟨by omega,by rw [Yw];omega,t,?_,h4⟩
   rw [show (Xw op x r (k+1)-k).toNat=(Xw op x r (k+1)-(k+1)).toNat+1 by omega,List.getElem?_cons_succ]
   exact h3
theorem Gz {many:Nat}:∀{xs:List Z3} {k:Int},¬XL many xs k<0->0<=k->k<=XL many xs k/\XL many xs k<k+xs.length/\∃s,xs[(XL many xs k-k).toNat]? = some s/\Ts many s
 | [],k,h,_=>by simp [XL] at h
 | s::r,k,h,hk=>by
  rw [XL] at h ⊢
  split
  ·rename_i q
   refine ⟨Int.le_refl _,by rw [Yw];omega,s,?_,q⟩
   rw [Int.sub_self];rfl
  ·rename_i q
   rw [Zs q] at h
   obtain ⟨h1,h2,t,h3,h4⟩:=Gz (xs:=r) (k:=k+1) h om
   refine ⟨by omega,by rw [Yw];omega,t,?_,h4⟩
   rw [show (XL many r (k+1)-k).toNat=(XL many r (k+1)-(k+1)).toNat+1 by omega,List.getElem?_cons_succ]
   exact h3
theorem BD {xs:List Z3} {x:Int} (h:¬Wq xs x<0):0<=Wq xs x/\Wq xs x<Ys xs/\∃s,xs[(Wq xs x).toNat]? = some s/\s.op=16/\gI s.args 0=x:=by
 obtain ⟨h1,h2,s,h3,h4⟩:=Gj h (Int.le_refl 0)
 have hl:=Bv xs
 rw [W8,WS hl] at h2
 have h2':Wq xs x<Ys xs:=by unfold Wq;omega
 have h1':0<=Wq xs x:=h1
 refine ⟨h1',h2',s,?_,h4⟩
 rw [Int.sub_zero] at h3
 have h5:(Wq xs x).toNat<Ys xs:=by omega
 rwa [show Xw 16 x (xs.take (Ys xs)) 0=Wq xs x from rfl,List.getElem?_take_of_lt h5] at h3
theorem KR {xs:List Z3} {many:Nat} (h:¬XR xs many<0):(Ys xs:Int)<=XR xs many/\XR xs many<xs.length/\∃s,xs[(XR xs many).toNat]? = some s/\Ts many s/\KY xs (XR xs many)=s:=by
 obtain ⟨h1,h2,s,h3,h4⟩:=Gz h om
 have hl:=Bv xs
 rw [KA] at h2
 have h1':(Ys xs:Int)<=XR xs many:=h1
 have h2':XR xs many<xs.length:=by unfold XR;omega
 rw [DD,show XL many (xs.drop (Ys xs)) (Ys xs)=XR xs many from rfl,show Ys xs+(XR xs many-(Ys xs:Int)).toNat=(XR xs many).toNat by omega] at h3
 exact ⟨h1',h2',s,h3,h4,by rw [KY,h3];rfl⟩
theorem Z0i {f:Z3->Z3} (hop:∀s,(f s).op=s.op) (hin:∀s,(f s).into=s.into) (har:∀s,(f s).args=s.args) (hc:∀x,f (Zl 17 x)=Zl 17 x) (hi:∀v s,f (Ta v s)=Ta v (f s)) (xs:List Z3) (x:Int) (many:Nat) :
  Vc (xs.map f) x many=(Vc xs x many).map f:=by
 rw [Vc,Z02 hop har,NN hop hin har,Vc]
 split
 ·rfl
 ·rename_i hq
  obtain ⟨_,_,s,h3,_,h5⟩:=KR (fun z=>hq (.inr z))
  have e:KY (xs.map f) (XR xs many)=f (KY xs (XR xs many)):=by rw [KY,Qo,h3,h5];rfl
  rw [e,List.map_set,List.map_set,hc,hi]
theorem Ld {ds:List Zd} {K:LI} {b:Z4} {x:Int} {many:Nat}:XU ds K (V6 b x many)=V6 (XU ds K b) x many:=by
 rw [V6,XU,V6,D8,Da,Da]
 show Z4.mk _ _=Z4.mk (Vc (b.steps.map (Tg ds K)) x many) b.result
 rw [Z0i (f:=Tg ds K) (fun s=>by rw [Jd];rfl) (fun s=>by rw [Jd];rfl) (fun s=>by rw [Jd];rfl) (fun x=>by rw [Jd];rfl) (fun v s=>by rw [Jd,Jd];rfl)]
structure CB (c:LI) (q:Int):Prop where
 len:c.length=4
 bd:∀x∈c,0<=x/\x<=q
mutual
def JS:Z3->Prop
 | .mk op _ _ _ kids=>op≠17/\J6 kids
def J6:List Z4->Prop
 | []=>True
 | b::r=>Tc b/\J6 r
def J7:List Z3->Prop
 | []=>True
 | s::r=>JS s/\J7 r
def Tc:Z4->Prop
 | .mk steps _=>J7 steps
end
theorem Az (s:Z3):JS s↔s.op≠17/\J6 s.kids:=by cases s;rw [JS];rfl
theorem By (b:Z4):Tc b↔J7 b.steps:=by cases b;rw [Tc];rfl
theorem Bz:∀{xs:List Z3},J7 xs↔∀s∈xs,JS s
 | []=>by simp [J7]
 | s::r=>by rw [J7,Bz];simp
theorem CX:∀{xs:List Z4},J6 xs↔∀s∈xs,Tc s
 | []=>by simp [J6]
 | s::r=>by rw [J6,CX];simp
theorem Dp:∀{xs:List Z3} {i:Nat} {s:Z3} (t:Z3),xs[i]? = some s->Y5 (xs.set i t)+s.sz=Y5 xs+t.sz
 | [],_,_,_,h=>by simp at h
 | x::r,0,s,t,h=>by simp at h;subst h;rw [List.set_cons_zero,Y5,Y5];omega
 | x::r,i+1,s,t,h=>by
  have:=Dp (xs:=r) (i:=i) t (by simpa using h)
  rw [List.set_cons_succ,Y5,Y5];omega
theorem RP (v:Int) (s:Z3):(Ta v s).sz=s.sz:=by cases s;rw [Ta,Z3.sz,Z3.sz];rfl
theorem GH {xs:List Z3} {x:Int} {many:Nat} (h:¬(Wq xs x<0∨XR xs many<0)):(Wq xs x).toNat<(XR xs many).toNat:=by
 obtain ⟨h1,h2,_⟩:=BD (fun z=>h (.inl z))
 obtain ⟨h3,h4,_⟩:=KR (fun z=>h (.inr z))
 omega
theorem D7 {xs:List Z3} {x:Int} {many:Nat} (h:¬(Wq xs x<0∨XR xs many<0)) {t:Z3} {s:Z3} (hs:xs[(XR xs many).toNat]? = some s):(xs.set (Wq xs x).toNat t)[(XR xs many).toNat]? = some s:=by
 have:=GH h
 rw [List.getElem?_set_ne om];exact hs
theorem L4 {xs:List Z3} {x:Int} {many:Nat} (h:∀s∈xs,YG s.op=true->2<=s.sz):Y5 (Vc xs x many)<=Y5 xs:=by
 rw [Vc]
 split
 ·exact YI _
 ·rename_i hq
  obtain ⟨_,_,s,h3,h4,_⟩:=BD (fun z=>hq (.inl z))
  obtain ⟨_,_,t,h5,_,h6⟩:=KR (fun z=>hq (.inr z))
  have e1:=Dp (Zl 17 x) h3
  have e2:=Dp (Ta (1+x) (KY xs (XR xs many))) (D7 hq (t:=Zl 17 x) h5)
  have h7:=h s (ZU h3) (by rw [h4];rfl)
  rw [Cc] at e1
  rw [RP,h6] at e2
  rw [h6]
  omega
section
variable {ds:List Zd}
theorem Z4d {v:Int} {s:Z3} (h:wS ds s) (h6:s.op=6):wS ds (Ta v s):=by
 obtain ⟨h1,h2,h3,h4⟩:=(Qm s).1 h
 exact (Qm _).2 ⟨h1,fun hc=>absurd hc (by show ¬YG s.op=true;rw [h6];decide),h3,h4⟩
theorem Z4a {v:Int}:wS ds (Zl 17 v):=(Qm _).2 ⟨rfl,fun _=>⟨rfl,rfl,rfl,v,rfl⟩,fun e=>absurd e (show (17:Int)≠8 by decide),True.intro⟩
theorem Z49 {xs:List Z3} {x:Int} {many:Nat} (h:Tj ds xs):Tj ds (Vc xs x many):=by
 rw [Vc]
 split
 ·exact h
 ·rename_i hq
  obtain ⟨_,_,t,h5,h7,h6⟩:=KR (fun z=>hq (.inr z))
  rw [Ky]
  intro s hs
  rcases List.mem_or_eq_of_mem_set hs with hs|rfl
  ·rcases List.mem_or_eq_of_mem_set hs with hs|rfl
   ·exact Ky.1 h s hs
   ·exact Z4a
  ·rw [h6];exact Z4d (Ky.1 h t (ZU h5)) h7.1.1
theorem Z48 {b:Z4} {x:Int} {many:Nat} (h:wB ds b):wB ds (V6 b x many):=by rw [V6,Q5];exact Z49 ((Q5 b).1 h)
variable (hd:Wg ds)
mutual
theorem Z11:∀(s:Z3) {K:LI},wS ds s->(Tg ds K s).sz<=s.sz
 | .mk op num into args kids,K,h=>by
  have:=Lg kids (K:=K) (op:=op) (num:=num) (args:=args) (k:=0) h.2.2.2
  rw [Tg,Z3.sz,Z3.sz];omega
theorem Lg:∀(bs:List Z4) {K:LI} {op num:Int} {args:LI} {k:Nat},Kx ds bs->YF (Vx ds K op num args bs k)<=YF bs
 | [],_,_,_,_,_,_=>YI _
 | b::r,K,op,num,args,k,h=>by
  have h2:=Lg r (K:=K) (op:=op) (num:=num) (args:=args) (k:=k+1) h.2
  have key:∀K2:LI,(V6 (XU ds K2 b) (gI args 0) (Vu ds num k).length).sz<=b.sz:=fun K2=>by
   have h1:=Fq b (K:=K2) h.1
   have h3:=L4 (xs:=(XU ds K2 b).steps) (x:=gI args 0) (many:=(Vu ds num k).length) (by
    rw [D8,Da]
    intro s hs hc
    obtain ⟨t,ht,rfl⟩:=W5.1 hs
    rw [Jd] at hc ⊢
    obtain ⟨_,_,a,ha⟩:=Dy (Ky.1 ((Q5 b).1 h.1) t ht) hc
    rw [Z3.sz,ha];simp)
   rw [V6,Z4.sz]
   rw [Z4.sz_eq] at h1
   omega
  rw [Vx,YF,YF]
  split
  ·have:=key (if Wq b.steps (gI args 0)<0∨XR b.steps (Vu ds num k).length<0 then K else gI args 0::K)
   omega
  ·have:=Fq b (K:=K) h.1
   omega
theorem Li:∀(xs:List Z3) {K:LI},Tj ds xs->Y5 (Vy ds K xs)<=Y5 xs
 | [],_,_=>YI _
 | s::r,K,h=>by
  have h1:=Z11 s (K:=K) h.1
  have h2:=Li r (K:=K) h.2
  rw [Vy,Y5,Y5];omega
theorem Fq:∀(b:Z4) {K:LI},wB ds b->(XU ds K b).sz<=b.sz
 | .mk steps result,K,h=>by
  have:=Li steps (K:=K) h
  rw [XU,Z4.sz,Z4.sz];omega
end
end
theorem F5:∀{xs:List Z3} {i:Nat} {s t:Z3},xs[i]? = some s->YG t.op=YG s.op->Ys (xs.set i t)=Ys xs
 | [],_,_,_,h,_=>by simp at h
 | x::r,0,s,t,h,e=>by simp at h;subst h;rw [List.set_cons_zero,Ys,Ys,e]
 | x::r,i+1,s,t,h,e=>by
  rw [List.set_cons_succ,Ys,Ys,F5 (xs:=r) (i:=i) (by simpa using h) e]
theorem Si {xs:List Z3} {x:Int} {many:Nat}:Ys (Vc xs x many)=Ys xs:=by
 rw [Vc]
 split
 ·rfl
 ·rename_i hq
  obtain ⟨_,_,s,h3,h4,_⟩:=BD (fun z=>hq (.inl z))
  obtain ⟨_,_,t,h5,_,h6⟩:=KR (fun z=>hq (.inr z))
  rw [F5 (D7 hq (t:=Zl 17 x) h5) (by rw [h6];rfl),F5 h3 (by rw [h4];rfl)]
theorem Gm {op x:Int}:∀{xs:List Z3} {k:Int},(∀s∈xs,s.op≠op)->Xw op x xs k=-1
 | [],_,_=>rfl
 | s::r,k,h=>by
  rw [Xw,Zs (fun z=>h s (YL ..) z.1)]
  exact Gm fun t ht=>h t (X8 _ ht)
theorem Gn {op x:Int}:∀{xs:List Z3} {k:Int},0<=k->(∃s∈xs,s.op=op/\gI s.args 0=x)->0<=Xw op x xs k
 | [],_,_,h=>by obtain ⟨s,hs,_⟩:=h;cases hs
 | s::r,k,hk,h=>by
  rw [Xw]
  split
  ·exact hk
  ·rename_i q
   obtain ⟨t,ht,h1⟩:=h
   rcases Yj.1 ht with rfl|ht
   ·exact absurd h1 q
   ·exact Gn om ⟨t,ht,h1⟩
theorem Mc {xs:List Z3} {x:Int} {many:Nat} (hn:J7 xs):0<=Xw 17 x ((Vc xs x many).take (Ys (Vc xs x many))) 0↔¬(Wq xs x<0∨XR xs many<0):=by
 rw [Si]
 constructor
 ·intro h hq
  rw [Vc,Zw hq,Gm (fun s hs=>((Az s).1 (Bz.1 hn s (Tl hs))).1)] at h
  omega
 ·intro hq
  obtain ⟨h1,h2,s,h3,h4,_⟩:=BD (fun z=>hq (.inl z))
  have hap:=GH hq
  refine Gn (Int.le_refl 0) ⟨Zl 17 x,?_,rfl,rfl⟩
  rw [Vc,Zs hq]
  refine ZU (i:=(Wq xs x).toNat) ?_
  rw [List.getElem?_take_of_lt om,List.getElem?_set_ne om,List.getElem?_set_self (Xj.1 h3).1]
def J8 (b:Z4):Prop:=∀s∈b.steps,J6 s.kids
theorem JR {b:Z4} (h:Tc b):J8 b:=fun s hs=>((Az s).1 (Bz.1 ((By b).1 h) s hs)).2
theorem SJ {b:Z4} {k j:Nat} {s:Z3} {c:Z4} (h:J8 b) (hs:b.steps[k]? = some s) (hc:s.kids[j]? = some c):Tc c:=CX.1 (h s (ZU hs)) c (ZU hc)
theorem Iu {b:Z4} {x:Int} {many:Nat} (h:Tc b):J8 (V6 b x many):=by
 intro s hs
 have hs:s∈Vc b.steps x many:=hs
 rw [Vc] at hs
 split at hs
 ·exact JR h s hs
 ·rename_i hq
  obtain ⟨_,_,t,h5,_,h6⟩:=KR (fun z=>hq (.inr z))
  rcases List.mem_or_eq_of_mem_set hs with hs|rfl
  ·rcases List.mem_or_eq_of_mem_set hs with hs|rfl
   ·exact JR h s hs
   ·exact True.intro
  ·rw [h6];exact JR h t (ZU h5)
theorem Z0h {ds:List Zd} {b:Z4} {x:Int} {many:Nat} (h:wB ds b):(V6 b x many).sz<=b.sz:=by
 have:=L4 (xs:=b.steps) (x:=x) (many:=many) fun s hs hc=>by
  have h7:=DG ((Q5 b).1 h) s hs hc
  rw [h7,Cc];omega
 rw [V6,Z4.sz,b.sz_eq];omega
def Jc (ds:List Zd) (r:Y1):Y1:=⟨r.params,r.lent,r.result,XU ds [] r.body⟩
def D9 (n:Zu):Zu:=⟨n.decls,n.routines.map (Jc n.decls)⟩
end Go.Abs
section
namespace Go.Abs
theorem Sf {xs:List Z3} {k:Nat} {s:Z3} {r:Nat} (h:xs[k]? = some s) (hs:YG s.op=true) (ha:k+Ys (xs.drop k)=r):k+1+Ys (xs.drop (k+1))=r:=by
 rw [Ye h,Ys,Zw hs] at ha;omega
theorem Sh {xs:List Z3} {k:Nat} {s:Z3} {r:Nat} (h:xs[k]? = some s) (hs:¬YG s.op=true) (ha:k+Ys (xs.drop k)=r):k=r:=by
 rw [Ye h,Ys,Zs hs] at ha;omega
theorem Se {xs:List Z3} {k:Nat} {r:Nat} (h:xs.length<=k) (ha:k+Ys (xs.drop k)=r):k=r:=by
 rw [Xf h,Ys] at ha;omega
theorem Ng {op x:Int} {xs:List Z3} {k:Nat} {s:Z3} {r:Int} (h:xs[k]? = some s) (hs:s.op=op/\gI s.args 0=x) (ha:Xw op x (xs.drop k) k=r):(k:Int)=r:=by
 rw [Ye h,Xw,Zw hs] at ha;exact ha
theorem Gl {op x:Int} {xs:List Z3} {k:Nat} {s:Z3} {r:Int} (h:xs[k]? = some s) (hs:¬(s.op=op/\gI s.args 0=x)) (ha:Xw op x (xs.drop k) k=r):Xw op x (xs.drop (k+1)) ((k+1:Nat):Int)=r:=by
 rw [Ye h,Xw,Zs hs] at ha;rw [<-ha];congr 1
theorem Nf {op x:Int} {xs:List Z3} {k:Nat} {r:Int} (h:xs.length<=k) (ha:Xw op x (xs.drop k) k=r):-1=r:=by
 rw [Xf h,Xw] at ha;exact ha
theorem NQ {many:Nat} {xs:List Z3} {k:Nat} {s:Z3} {r:Int} (h:xs[k]? = some s) (hs:Ts many s) (ha:XL many (xs.drop k) k=r):(k:Int)=r:=by
 rw [Ye h,XL,Zw hs] at ha;exact ha
theorem NP {many:Nat} {xs:List Z3} {k:Nat} {s:Z3} {r:Int} (h:xs[k]? = some s) (hs:¬Ts many s) (ha:XL many (xs.drop k) k=r):XL many (xs.drop (k+1)) ((k+1:Nat):Int)=r:=by
 rw [Ye h,XL,Zs hs] at ha;rw [<-ha];congr 1
theorem NO {many:Nat} {xs:List Z3} {k:Nat} {r:Int} (h:xs.length<=k) (ha:XL many (xs.drop k) k=r):-1=r:=by
 rw [Xf h,XL] at ha;exact ha
theorem Z0j {xs:List Z3} {x:Int} {many:Nat} (h:Wq xs x<0∨XR xs many<0):Vc xs x many=xs:=Zw h
theorem Z0k {xs:List Z3} {x:Int} {many:Nat} {s:Z3} (h:¬(Wq xs x<0∨XR xs many<0)) (hs:KY xs (XR xs many)=s):(xs.set (Wq xs x).toNat (Zl 17 x)).set (XR xs many).toNat (Ta (1+x) s)=Vc xs x many:=by
 rw [Vc,Zs h,hs]
theorem T6 (xs:List Z3):(Zc (Zk xs)).length=xs.length*5:=by rw [U5 _ (YP _)];simp
theorem Cs (s:Z3) (r:List Z3):Zc (Zk (s::r))=X6 s++Zc (Zk r):=by rw [Wx,Wx];rfl
theorem He {xs:List Z3} {k:Nat} {x:Z3} (h:xs[k]? = some x):Zc (Zk (xs.take k))++Zc [Yk x]=Zc (Zk (xs.take (k+1))):=by
 rw [Ve h,W0,UL,Cs]
 have:Zc (Zk [])=[]:=by rw [Wx];rfl
 rw [this];rfl
theorem Hf {xs:List Z3} {i:Nat} {s:Z3} (h:xs[i]? = some s):Zc (Zk xs)=Zc (Zk (xs.take i))++(X6 s++Zc (Zk (xs.drop (i+1)))):=by
 have hi:=(Xj.1 h).1
 have e:xs=xs.take i++(s::xs.drop (i+1)):=by rw [<-Ye h,U1]
 conv=>lhs;rw [e,W0,UL,Cs]
theorem Ct {xs:List Z3} {i:Nat} {s t:Z3} (h:xs[i]? = some s):(Zc (Zk xs)).take (i*5)++X6 t++(Zc (Zk xs)).drop (i*5+(X6 t).length)=Zc (Zk (xs.set i t)):=by
 have hi:=(Xj.1 h).1
 have hl:(Zc (Zk (xs.take i))).length=i*5:=by rw [T6,W8,WS om]
 rw [Hf h,Fo (xs:=X6 s) (ys:=X6 t) hl rfl]
 have e:xs.set i t=xs.take i++(t::xs.drop (i+1)):=by rw [C1,Zw hi]
 rw [e,W0,UL,Cs]
theorem Ex {xs:List Z3} {i:Nat} {s:Z3} (h:xs[i]? = some s):((Zc (Zk xs)).drop (i*5)).take (X6 s).length=X6 s:=by
 have hi:=(Xj.1 h).1
 have hl:(Zc (Zk (xs.take i))).length=i*5:=by rw [T6,W8,WS om]
 rw [Hf h]
 exact Z0s hl
structure TI (xs:LI) (v:Int) (k:Nat) (acc:LI) (d:Bool):Prop where
 len:acc.length<=k+(if d=true then 1 else 0)
 sub:∀z∈acc,z∈xs.take k∨z=v
 all:∀z∈xs.take k,z∈acc
 done:d=true->v∈acc
theorem TI.zero (xs:LI) (v:Int):TI xs v 0 [] false:=⟨by simp,by simp,by simp,by simp⟩
theorem TI.step {xs:LI} {v:Int} {k:Nat} {acc:LI} {d:Bool} {x:Int} (h:TI xs v k acc d) (hx:xs[k]? = some x) {acc2:LI} {d2:Bool}
  (hc:(acc2=acc++[x]/\d2=d)∨(acc2=(acc++[v])++[x]/\d2=true/\¬d=true)∨(acc2=acc++[x]/\d2=true/\x=v)):TI xs v (k+1) acc2 d2:=by
 obtain ⟨h1,h2,h3,h4⟩:=h
 have ht:∀z,z∈xs.take (k+1)↔z∈xs.take k∨z=x:=fun z=>by rw [Ve hx];simp
 rcases hc with ⟨rfl,rfl⟩|⟨rfl,rfl,hd⟩|⟨rfl,rfl,rfl⟩
 ·refine ⟨by simp;omega,fun z hz=>?_,fun z hz=>?_,fun q=>List.mem_append_left _ (h4 q)⟩
  ·rw [ht]
   rcases YO.1 hz with hz|hz
   ·rcases h2 z hz with q|q
    ·exact .inl (.inl q)
    ·exact .inr q
   ·exact .inl (.inr (Xk.1 hz))
  ·rcases (ht z).1 hz with q|q
   ·exact List.mem_append_left _ (h3 z q)
   ·subst q;simp
 ·rw [Zs hd] at h1
  refine ⟨by simp;omega,fun z hz=>?_,fun z hz=>?_,fun _=>by simp⟩
  ·rw [ht]
   simp only [YO,Xk] at hz
   rcases hz with (hz|hz)|hz
   ·rcases h2 z hz with q|q
    ·exact .inl (.inl q)
    ·exact .inr q
   ·exact .inr hz
   ·exact .inl (.inr hz)
  ·rcases (ht z).1 hz with q|q
   ·exact List.mem_append_left _ (List.mem_append_left _ (h3 z q))
   ·subst q;simp
 ·refine ⟨by simp;split at h1<;>omega,fun z hz=>?_,fun z hz=>?_,fun _=>by simp⟩
  ·rw [ht]
   rcases YO.1 hz with hz|hz
   ·rcases h2 z hz with q|q
    ·exact .inl (.inl q)
    ·exact .inr q
   ·exact .inl (.inr (Xk.1 hz))
  ·rcases (ht z).1 hz with q|q
   ·exact List.mem_append_left _ (h3 z q)
   ·subst q;simp
theorem TI.fin {xs:LI} {v:Int} {k:Nat} {acc:LI} {d:Bool} (h:TI xs v k acc d) (hk:k=xs.length) :
  (d=true->acc.length<=xs.length+1/\∀z,z∈acc↔z∈xs∨z=v)/\(¬d=true->(acc++[v]).length<=xs.length+1/\∀z,z∈acc++[v]↔z∈xs∨z=v):=by
 obtain ⟨h1,h2,h3,h4⟩:=h
 subst hk
 rw [V9] at h2 h3
 refine ⟨fun hd=>?_,fun hd=>?_⟩
 ·rw [Zw hd] at h1
  exact ⟨h1,fun z=>⟨h2 z,fun q=>q.elim (h3 z) fun e=>e▸h4 hd⟩⟩
 ·rw [Zs hd] at h1
  refine ⟨by simp;omega,fun z=>?_⟩
  rw [YO,Xk]
  exact ⟨fun q=>q.elim (h2 z) .inr,fun q=>q.elim (fun e=>.inl (h3 z e)) .inr⟩
end Go.Abs
namespace Go.Abs
theorem TI.go {xs:LI} {v:Int} {k:Nat} {acc:LI} {d:Bool} {x:Int} (h:TI xs v k acc d) (hx:xs[k]? = some x) {acc2:LI} {d2:Bool}
  (hc:(acc2=acc/\d2=d)∨(acc2=acc++[v]/\d2=true/\¬d=true)∨(acc2=acc/\d2=true/\x=v)):TI xs v (k+1) (acc2++[x]) d2:=by
 refine h.step hx ?_
 rcases hc with ⟨e1,e2⟩|⟨e1,e2,e3⟩|⟨e1,e2,e3⟩
 ·exact .inl ⟨by rw [e1],e2⟩
 ·exact .inr (.inl ⟨by rw [e1],e2,e3⟩)
 ·exact .inr (.inr ⟨by rw [e1],e2,e3⟩)
section
variable {ds:List Zd} {kept K2:LI} {op num x:Int} {args:LI} {j many:Nat} {kd:Z4}
theorem Z0y (h8:op=8) (hx:gI args 0=x) (hk:¬x∈kept) (hm:(Vu ds num j).length=many) (hq:¬(Wq kd.steps x<0∨XR kd.steps many<0)) (hK:∀z,z∈K2↔z∈kept∨z=x):XU ds K2 (V6 kd x many)=Um ds kept op num args j kd:=by
 subst hx hm
 have e:∀z,z∈K2↔z∈gI args 0::kept:=fun z=>by rw [hK z,Yj];exact Or.comm
 rw [Um,Zw ⟨h8,hk⟩,CK,Zs hq,Ld,Fp kd e]
theorem Z0z (h8:op=8) (hx:gI args 0=x) (hk:¬x∈kept) (hm:(Vu ds num j).length=many) (hq:Wq kd.steps x<0∨XR kd.steps many<0):XU ds kept (V6 kd x many)=Um ds kept op num args j kd:=by
 subst hx hm
 rw [Um,Zw ⟨h8,hk⟩,CK,Zw hq,Ld]
theorem Le (h:¬(op=8/\¬gI args 0∈kept)):XU ds kept kd=Um ds kept op num args j kd:=by rw [Um,Zs h]
end
end Go.Abs
namespace Go.Abs
theorem C9:∀{xs:List Z4} {k:Nat} {b:Z4},xs[k]? = some b->YF (xs.take k)+b.sz<=YF xs
 | [],_,_,h=>by simp at h
 | x::r,0,b,h=>by simp at h;subst h;simp [YF]
 | x::r,k+1,b,h=>by
  have:=C9 (xs:=r) (k:=k) (by simpa using h)
  rw [A3,YF,YF];omega
theorem DZ {xs:List Z4} {k:Nat} (h:xs.length<=k):YF (xs.take k)=YF xs:=by rw [Vo h]
end Go.Abs
end
namespace Go.Abs
theorem FG {xs:List Z3} {k:Nat} {s:Z3} (h:xs[k]? = some s):Y5 (xs.drop k)=s.sz+Y5 (xs.drop (k+1)):=by rw [Ye h,Y5]
theorem AM (xs:List Z3) (k:Nat):Y5 (xs.drop k)<=Y5 xs:=by
 have h:=Yg Y5 (U1 k xs)
 rw [VZ] at h;omega
theorem C8 {xs:List Z4} {k:Nat} {b:Z4} (h:xs[k]? = some b):YF (xs.take (k+1))=YF (xs.take k)+b.sz:=by rw [Ve h,B4,YF,YF];rfl
structure CL (ds:List Zd) (nf m:Nat) (xs:List Z3) (d z:Nat):Prop where
 fs:VU ds nf m xs
 dn:Yy xs=d
 op:Uk Wv xs
 sz:Y5 xs<=z
section
variable {ds:List Zd} {nf m d z:Nat} {xs:List Z3}
theorem CL.nil:CL ds nf m [] 0 0:=⟨True.intro,rfl,True.intro,YI _⟩
theorem CL.len (h:CL ds nf m xs d z):xs.length<=z:=Wt (Qi xs) h.sz
theorem CL.le (h:CL ds nf m xs d z) {z2:Nat} (hz:z<=z2):CL ds nf m xs d z2:=⟨h.fs,h.dn,h.op,Wt h.sz hz⟩
theorem OK {op v:Int} (ho:op=14∨op=15) (hv:0<=v/\v<(m:Int)):fS ds nf m (Zl op v):=by
 rw [Zl,fS]
 exact ⟨.inr om,fun a ha=>by rw [Xk.1 ha];exact hv,fun _=>⟨rfl,rfl,rfl,v,rfl⟩,fun h=>by omega,fun h=>by omega,fun h=>by omega,fun h=>by omega,by omega,by omega,by simp,fun _=>rfl,True.intro⟩
theorem GJ {op:Int} (ho:op=14∨op=15):YG op=true:=by simp [YG];omega
theorem CL.cnt (h:CL ds nf m xs d z) {op v:Int} (ho:op=14∨op=15) (hv:0<=v/\v<((m+d:Nat):Int)):CL ds nf m (xs++[Zl op v]) d (z+2):=by
 have hc:YG (Zl op v).op=true:=GJ ho
 refine ⟨Cp h.fs (by rw [h.dn];exact OK ho hv),?_,D3 h.op ?_,?_⟩
 ·rw [Q9,h.dn,Yy,Zw hc];rfl
 ·rw [BC];exact ⟨by show op<=15;omega,True.intro⟩
 ·have:=h.sz
  have e:(Zl op v).sz=2:=rfl
  rw [VZ,Y5,e,Y5];omega
theorem CL.cnts {op:Int} (ho:op=14∨op=15):∀{vs:LI} {xs:List Z3} {z:Nat},CL ds nf m xs d z->(∀v∈vs,0<=v/\v<((m+d:Nat):Int))->CL ds nf m (xs++vs.map (Zl op)) d (z+2*vs.length)
 | [],xs,z,h,_=>by simpa using h
 | v::r,xs,z,h,hv=>by
  have h1:=CL.cnts ho (vs:=r) (h.cnt ho (hv v (YL ..))) fun x hx=>hv x (X8 _ hx)
  rw [VQ,show xs++Zl op v::r.map (Zl op)=xs++[Zl op v]++r.map (Zl op) by simp]
  exact h1.le (by rw [Yw];omega)
theorem CL.one (h:CL ds nf m xs d z) {s:Z3} (hs:fS ds nf (m+d) s) (hc:YG s.op=false) (ho:Te Wv s):CL ds nf m (xs++[s]) (d+1) (z+s.sz):=by
 refine ⟨Cp h.fs (by rw [h.dn];exact hs),by rw [B7 hc,h.dn],D3 h.op ho,?_⟩
 have:=h.sz
 rw [VZ,Y5,Y5];omega
theorem CL.app (h:CL ds nf m xs d z) {ys:List Z3} {d2 z2:Nat} (h2:CL ds nf (m+d) ys d2 z2):CL ds nf m (xs++ys) (d+d2) (z+z2):=by
 refine ⟨Ao.2 ⟨h.fs,by rw [h.dn];exact h2.fs⟩,by rw [Q9,h.dn,h2.dn],D0.2 ⟨h.op,h2.op⟩,?_⟩
 have:=h.sz
 have:=h2.sz
 rw [VZ];omega
end
structure KB (ds:List Zd) (nf m:Nat) (b:Z4) (z:Nat):Prop where
 fb:fB ds nf m b
 op:Wo Wv b
 sz:b.sz<=z
section
variable {ds:List Zd} {nf m d z:Nat} {xs:List Z3}
theorem CL.block (h:CL ds nf m xs d z) {r:Int} (hr:0<=r/\r<((m+d:Nat):Int)):KB ds nf m ⟨xs,r⟩ (1+z):=by
 refine ⟨by rw [fB,h.dn];exact ⟨h.fs,hr⟩,by rw [Wo];exact h.op,?_⟩
 have:=h.sz
 rw [Z4.sz];omega
theorem KB.le {b:Z4} (h:KB ds nf m b z) {z2:Nat} (hz:z<=z2):KB ds nf m b z2:=⟨h.fb,h.op,Wt h.sz hz⟩
theorem KB.cl {b:Z4} (h:KB ds nf m b z):CL ds nf m b.steps (Yy b.steps) (z-1)/\0<=b.result/\b.result<((m+Yy b.steps:Nat):Int):=by
 obtain ⟨h1,h2⟩:=(Bb b).1 h.fb
 refine ⟨⟨h1,rfl,(CZ b).1 h.op,?_⟩,h2⟩
 have:=h.sz
 have:=b.sz_eq
 omega
theorem KB.put {b:Z4} (h:KB ds nf m b z) {as1 bs:LI} (ha:∀v∈as1,0<=v/\v<(m:Int)) (hb:∀v∈bs,0<=v/\v<(m:Int)):KB ds nf m ⟨as1.map (Zl 14)++bs.map (Zl 15)++b.steps,b.result⟩ (z+2*as1.length+2*bs.length):=by
 obtain ⟨h1,h2⟩:=h.cl
 have q1:CL ds nf m ([]++as1.map (Zl 14)) 0 (0+2*as1.length):=CL.nil.cnts (.inl rfl) ha
 have q2:=(q1.cnts (op:=15) (.inr rfl) hb).app h1
 have:=h.sz
 have:=b.sz_eq
 rw [A1,Wc] at q2
 exact (q2.block h2).le om
end
structure KK (ds:List Zd) (nf:Nat) (sc:Nat->Nat) (ks:List Z4) (z:Nat):Prop where
 fb:Ug ds nf sc 0 ks
 op:Td Wv ks
 sz:YF ks<=z
section
variable {ds:List Zd} {nf m z:Nat} {sc:Nat->Nat}
theorem KK.nil:KK ds nf sc [] 0:=⟨True.intro,True.intro,YI _⟩
theorem KK.snoc {ks:List Z4} {b:Z4} {j z2:Nat} (h:KK ds nf sc ks z) (hj:ks.length=j) (hb:KB ds nf (sc j) b z2):KK ds nf sc (ks++[b]) (z+z2):=by
 refine ⟨H5 h.fb (by rw [hj];exact hb.fb),IA h.op hb.op,?_⟩
 have:=h.sz
 have:=hb.sz
 rw [B4];simp only [YF];omega
theorem KK.le {ks:List Z4} (h:KK ds nf sc ks z) {z2:Nat} (hz:z<=z2):KK ds nf sc ks z2:=⟨h.fb,h.op,Wt h.sz hz⟩
theorem H6 {s:Z3} {ks:List Z4} {into:Int} (h:FS ds nf m s) (h11:s.op<=11) (hl:ks.length=s.kids.length) (hi:0<=into/\into<=m) (hk:KK ds nf (VL ds s.op s.num m) ks z):fS ds nf m ⟨s.op,s.num,into,s.args,ks⟩/\Te Wv ⟨s.op,s.num,into,s.args,ks⟩/\(Z3.mk s.op s.num into s.args ks).sz<=5+z:=by
 refine ⟨?_,?_,?_⟩
 ·rw [fS]
  refine ⟨h.op,h.args,fun q=>by omega,fun q=>by rw [hl];exact h.k7 q,fun q=>by rw [hl];exact h.k8 q,h.one,h.call,h.num,hi,h.alen,fun q=>?_,hk.fb⟩
  have:=h.kn q
  rw [this] at hl
  exact List.eq_nil_of_length_eq_zero hl
 ·rw [Te];exact ⟨by show s.op<=15;omega,hk.op⟩
 ·have:=h.alen
  have:=hk.sz
  rw [Z3.sz];omega
end
structure KT (ds:List Zd) (nf m:Nat) (st:Z3) (z:Nat):Prop where
 fs:fS ds nf m st
 cb:YG st.op=false
 op:Te Wv st
 sz:st.sz<=z
theorem KT.of {ds:List Zd} {nf m z:Nat} {s:Z3} {ks:List Z4} {into:Int} (h:FS ds nf m s) (h11:s.op<=11) (hl:ks.length=s.kids.length) (hi:0<=into/\into<=m) (hk:KK ds nf (VL ds s.op s.num m) ks z):KT ds nf m ⟨s.op,s.num,into,s.args,ks⟩ (5+z):=by
 obtain ⟨h1,h2,h3⟩:=H6 h h11 hl hi hk
 exact ⟨h1,by show YG s.op=false;simp [YG];omega,h2,h3⟩
theorem CL.kt {ds:List Zd} {nf m d z z2:Nat} {xs:List Z3} {st:Z3} (h:CL ds nf m xs d z) (hs:KT ds nf (m+d) st z2):CL ds nf m (xs++[st]) (d+1) (z+z2):=(h.one hs.fs hs.cb hs.op).le (by have:=hs.sz;omega)
theorem FS.few {ds:List Zd} {nf m:Nat} {s:Z3} (h:FS ds nf m s) (hd:Wg ds):s.kids.length<=3:=by
 by_cases h7:s.op=7
 ·have:=h.k7 h7;omega
 ·by_cases h8:s.op=8
  ·have:=h.k8 h8
   have:=Iv hd s.num
   omega
  ·rw [h.kn ⟨h7,h8⟩];simp
theorem RF.lend {ds:List Zd} {nf q:Nat} {p:Int->Prop} {r:Y1} {l:LI} (h:RF ds nf q p r) (h1:l.length<=3) (h2:∀v∈l,0<=v/\v<(r.params.length:Int)):RF ds nf q p ⟨r.params,l,r.result,r.body⟩:=⟨h.sig,⟨h1,h2⟩,h.body,h.op⟩
theorem RF.with {ds:List Zd} {nf q q2:Nat} {p p2:Int->Prop} {r:Y1} {b:Z4} (h:RF ds nf q p r) (h1:fB ds nf r.params.length b) (h2:b.sz<=q2) (h3:Wo p2 b):RF ds nf q2 p2 ⟨r.params,r.lent,r.result,b⟩:=⟨h.sig,h.lent,⟨h1,h2⟩,h3⟩
theorem Z4.eta (b:Z4):Z4.mk b.steps b.result=b:=by cases b;rfl
theorem LC.at {n:Zu} {k:Nat} {xs:List LI} {i:Nat} {l:LI} {r:Y1} (h:LC n k xs) (hl:xs[i]? = some l) (hr:n.routines[i]? = some r):l.length<=3/\∀v∈l,0<=v/\v<(r.params.length:Int):=⟨(h.ok i l hl).1,(h.ok i l hl).2 r hr⟩
theorem Ea:∀{xs:List Z3},(∀s∈xs,Te XX s)->∀k,k<=xs.length->Yy (xs.take k)=k
 | _,_,0,_=>rfl
 | [],_,k+1,h=>absurd h (by simp)
 | x::r,h,k+1,hk=>by
  have h1:=((BC x).1 (h x (YL ..))).1
  have hc:YG x.op=false:=by have:x.op<=11:=h1;simp [YG];omega
  rw [A3,Yy,Zs (by rw [hc];simp),Ea (fun s hs=>h s (X8 _ hs)) k (by simpa using hk)]
  omega
theorem KB.put1 {ds:List Zd} {nf m z:Nat} {b:Z4} (h:KB ds nf m b z) {op:Int} (ho:op=14∨op=15) {as1:LI} (ha:∀v∈as1,0<=v/\v<(m:Int)):KB ds nf m ⟨as1.map (Zl op)++b.steps,b.result⟩ (z+2*as1.length):=by
 obtain ⟨h1,h2⟩:=h.cl
 have q1:CL ds nf m ([]++as1.map (Zl op)) 0 (0+2*as1.length):=CL.nil.cnts ho ha
 have q2:=q1.app h1
 have:=h.sz
 have:=b.sz_eq
 rw [A1,Wc] at q2
 exact (q2.block h2).le om
theorem FO.fin {n:Zu} {rs:List Y1} {q q2:Nat} {p:Int->Prop} (h:FN n q2) (e:rs.length=n.routines.length) (hr:∀r∈rs,RF n.decls n.routines.length q p r):FO ⟨n.decls,rs⟩ q p/\rs.length=n.routines.length:=
 ⟨FO.all h.decls (by show 1<=rs.length/\rs.length<=4;rw [e];exact h.len) (by show ∀r∈rs,RF n.decls rs.length q p r;rw [e];exact hr),e⟩
theorem KT.le {ds:List Zd} {nf m z z2:Nat} {st:Z3} (h:KT ds nf m st z) (hz:z<=z2):KT ds nf m st z2:=⟨h.fs,h.cb,h.op,Wt h.sz hz⟩
theorem KB.len {ds:List Zd} {nf m z:Nat} {b:Z4} (h:KB ds nf m b z):b.steps.length<=z:=by
 have:=h.sz
 have:=b.sz_eq
 have:=Qi b.steps
 omega
mutual
def vS:Z3->LI
 | .mk op _ _ args kids=>if YG op=true then [] else args++UX kids
def UX:List Z4->LI
 | []=>[]
 | b::r=>vB b++UX r
def Wb:List Z3->LI
 | []=>[]
 | s::r=>vS s++Wb r
def vB:Z4->LI
 | .mk steps result=>Wb steps++[result]
end
theorem Mt (s:Z3):vS s=if YG s.op=true then [] else s.args++UX s.kids:=by cases s;rw [vS];rfl
theorem Mq (b:Z4):vB b=Wb b.steps++[b.result]:=by cases b;rw [vB];rfl
mutual
theorem Mu:∀(s:Z3),(vS s).length<=s.sz
 | .mk op num into args kids=>by
  have h1:=Ms kids
  rw [vS,Z3.sz];split
  ·simp
  ·rw [Yb];omega
theorem Ms:∀(bs:List Z4),(UX bs).length<=YF bs
 | []=>YI _
 | b::r=>by
  have h1:=Ms r
  have h2:=Mr b
  rw [UX,YF,Yb];omega
theorem Dw:∀(bs:List Z3),(Wb bs).length<=Y5 bs
 | []=>YI _
 | b::r=>by
  have h1:=Dw r
  have h2:=Mu b
  rw [Wb,Y5,Yb];omega
theorem Mr:∀(b:Z4),(vB b).length<=b.sz
 | .mk steps result=>by
  have h1:=Dw steps
  rw [vB,Z4.sz,Yb,BY];omega
end
theorem Z3x {ss:List Z3} {xs acc r:LI} {k:Nat} {s:Z3} (h:ss[k]? = some s) (ha:acc++Wb (ss.drop k)=r):(acc++vS s)++Wb (ss.drop (k+1))=r:=by
 rw [Ye h,Wb] at ha;rw [<-ha];simp
theorem Z3v {ss:List Z4} {acc r:LI} {k:Nat} {s:Z4} (h:ss[k]? = some s) (ha:acc++UX (ss.drop k)=r):(acc++vB s)++UX (ss.drop (k+1))=r:=by
 rw [Ye h,UX] at ha;rw [<-ha];simp
theorem Z3w {ss:List Z3} {acc r:LI} {k:Nat} (h:ss.length<=k) (ha:acc++Wb (ss.drop k)=r):acc=r:=by
 rw [Xf h,Wb,Tk] at ha;exact ha
theorem Z3u {ss:List Z4} {acc r:LI} {k:Nat} (h:ss.length<=k) (ha:acc++UX (ss.drop k)=r):acc=r:=by
 rw [Xf h,UX,Tk] at ha;exact ha
def Uc:LI->Int->LI
 | [],_=>[]
 | x::r,n=>if 0<=x/\x<n then x::Uc r n else Uc r n
theorem Nl {xs acc r:LI} {n x:Int} {k:Nat} (hx:xs[k]? = some x) (h:acc++Uc (xs.drop k) n=r):(if 0<=x/\x<n then acc++[x] else acc)++Uc (xs.drop (k+1)) n=r:=by
 rw [Ye hx,Uc] at h
 by_cases q:0<=x/\x<n
 ·rw [Zw q] at h ⊢;rw [<-h];simp
 ·rw [Zs q] at h ⊢;exact h
theorem Nk {xs acc r:LI} {n:Int} {k:Nat} (hk:xs.length<=k) (h:acc++Uc (xs.drop k) n=r):acc=r:=by
 rw [Xf hk,Uc,Tk] at h;exact h
theorem DV:∀(xs:LI) (n:Int),Uc xs n=xs.filter (fun x=>decide (0<=x/\x<n))
 | [],_=>rfl
 | x::r,n=>by
  rw [Uc,List.filter_cons,DV r n]
  by_cases q:0<=x/\x<n
  ·rw [Zw q,Zw (by simpa using q)]
  ·rw [Zs q,Zs (by simpa using q)]
theorem SA {xs:LI} {n z:Int}:z∈Uc xs n↔z∈xs/\0<=z/\z<n:=by rw [DV];simp
theorem Nm {xs:LI} {n:Int} (h:xs.Pairwise (·<·)):(Uc xs n).Pairwise (·<·):=by rw [DV];exact h.filter _
theorem Gi:∀{xs ys:LI},xs.Pairwise (·<·)->ys.Pairwise (·<·)->(∀z,z∈xs↔z∈ys)->xs=ys
 | [],[],_,_,_=>rfl
 | [],y::r,_,_,h=>by have:=(h y).2 (YL ..);cases this
 | x::r,[],_,_,h=>by have:=(h x).1 (YL ..);cases this
 | x::r,y::s,hx,hy,h=>by
  have h1:=XV.1 hx
  have h2:=XV.1 hy
  have e:x=y:=by
   rcases Yj.1 ((h x).1 (YL ..)) with e|e
   ·exact e
   ·rcases Yj.1 ((h y).2 (YL ..)) with e2|e2
    ·exact e2.symm
    ·have:=h1.1 y e2;have:=h2.1 x e;omega
  subst e
  rw [Gi h1.2 h2.2 fun z=>⟨fun hz=>by
    rcases Yj.1 ((h z).1 (X8 _ hz)) with e|e
    ·subst e;have:=h1.1 _ hz;omega
    ·exact e,fun hz=>by
    rcases Yj.1 ((h z).2 (X8 _ hz)) with e|e
    ·subst e;have:=h2.1 _ hz;omega
    ·exact e⟩]
theorem Fc:∀{xs:LI} {y z:Int},z∈Wm xs y↔z=y∨z∈xs
 | [],y,z=>by rw [Wm];simp
 | x::r,y,z=>by
  rw [Wm]
  split
  ·simp
  ·split
   ·rename_i h;subst h;simp
   ·rw [Yj,Fc,Yj]
    constructor
    ·rintro (h|h|h)
     ·exact .inr (.inl h)
     ·exact .inl h
     ·exact .inr (.inr h)
    ·rintro (h|h|h)
     ·exact .inr (.inl h)
     ·exact .inl h
     ·exact .inr (.inr h)
theorem HT:∀{xs:LI} {y:Int},xs.Pairwise (·<·)->(Wm xs y).Pairwise (·<·)
 | [],y,_=>by rw [Wm];simp
 | x::r,y,h=>by
  have h1:=XV.1 h
  rw [Wm]
  split
  ·rename_i q
   refine XV.2 ⟨fun z hz=>?_,h⟩
   rcases Yj.1 hz with rfl|hz
   ·exact q
   ·have:=h1.1 z hz;omega
  ·split
   ·exact h
   ·refine XV.2 ⟨fun z hz=>?_,HT h1.2⟩
    rcases Fc.1 hz with rfl|hz
    ·omega
    ·exact h1.1 z hz
theorem Fd {n:Int} {xs:LI} {a z:Int}:z∈WG n xs a↔z∈xs∨(z=a/\0<=z/\z<n):=by
 rw [WG]
 split
 ·rw [Fc]
  constructor
  ·rintro (h|h)
   ·exact .inr ⟨h,by omega⟩
   ·exact .inl h
  ·rintro (h|h)
   ·exact .inr h
   ·exact .inl h.1
 ·constructor
  ·exact .inl
  ·rintro (h|h)
   ·exact h
   ·omega
theorem FW {n:Int} {xs:LI} {a:Int} (h:xs.Pairwise (·<·)):(WG n xs a).Pairwise (·<·):=by
 rw [WG];split
 ·exact HT h
 ·exact h
theorem In {n z:Int}:∀{as1 xs:LI},z∈Vn n as1 xs↔z∈xs∨(z∈as1/\0<=z/\z<n)
 | [],xs=>by rw [Vn];simp
 | a::r,xs=>by
  rw [Vn,In,Fd,Yj]
  constructor
  ·rintro ((h|h)|h)
   ·exact .inl h
   ·exact .inr ⟨.inl h.1,h.2⟩
   ·exact .inr ⟨.inr h.1,h.2⟩
  ·rintro (h|⟨h|h,q⟩)
   ·exact .inl (.inl h)
   ·exact .inl (.inr ⟨h,q⟩)
   ·exact .inr ⟨h,q⟩
theorem Mk {n:Int}:∀{as1 xs:LI},xs.Pairwise (·<·)->(Vn n as1 xs).Pairwise (·<·)
 | [],xs,h=>by rw [Vn];exact h
 | a::r,xs,h=>by rw [Vn];exact Mk (FW h)
mutual
theorem Z3q (n:Int):∀(s:Z3) (xs:LI),((xs.Pairwise (·<·))->(UW n s xs).Pairwise (·<·))/\∀z,z∈UW n s xs↔z∈xs∨(z∈vS s/\0<=z/\z<n)
 | .mk op num into args kids,xs=>by
  have ih:=Mn n kids (Vn n args xs)
  rw [UW,vS]
  split
  ·exact ⟨id,fun z=>by simp⟩
  ·refine ⟨fun h=>ih.1 (Mk h),fun z=>?_⟩
   rw [ih.2,In,YO]
   constructor
   ·rintro ((h|h)|h)
    ·exact .inl h
    ·exact .inr ⟨.inl h.1,h.2⟩
    ·exact .inr ⟨.inr h.1,h.2⟩
   ·rintro (h|⟨h|h,q⟩)
    ·exact .inl (.inl h)
    ·exact .inl (.inr ⟨h,q⟩)
    ·exact .inr ⟨h,q⟩
theorem Mn (n:Int):∀(bs:List Z4) (xs:LI),((xs.Pairwise (·<·))->(UF n bs xs).Pairwise (·<·))/\∀z,z∈UF n bs xs↔z∈xs∨(z∈UX bs/\0<=z/\z<n)
 | [],xs=>by rw [UF,UX];exact ⟨id,fun z=>by simp⟩
 | b::r,xs=>by
  have h1:=Z3n n b xs
  have h2:=Mn n r (WY n b xs)
  rw [UF,UX]
  refine ⟨fun h=>h2.1 (h1.1 h),fun z=>?_⟩
  rw [h2.2,h1.2,YO]
  constructor
  ·rintro ((h|h)|h)
   ·exact .inl h
   ·exact .inr ⟨.inl h.1,h.2⟩
   ·exact .inr ⟨.inr h.1,h.2⟩
  ·rintro (h|⟨h|h,q⟩)
   ·exact .inl (.inl h)
   ·exact .inl (.inr ⟨h,q⟩)
   ·exact .inr ⟨h,q⟩
theorem Du (n:Int):∀(bs:List Z3) (xs:LI),((xs.Pairwise (·<·))->(WH n bs xs).Pairwise (·<·))/\∀z,z∈WH n bs xs↔z∈xs∨(z∈Wb bs/\0<=z/\z<n)
 | [],xs=>by rw [WH,Wb];exact ⟨id,fun z=>by simp⟩
 | b::r,xs=>by
  have h1:=Z3q n b xs
  have h2:=Du n r (UW n b xs)
  rw [WH,Wb]
  refine ⟨fun h=>h2.1 (h1.1 h),fun z=>?_⟩
  rw [h2.2,h1.2,YO]
  constructor
  ·rintro ((h|h)|h)
   ·exact .inl h
   ·exact .inr ⟨.inl h.1,h.2⟩
   ·exact .inr ⟨.inr h.1,h.2⟩
  ·rintro (h|⟨h|h,q⟩)
   ·exact .inl (.inl h)
   ·exact .inl (.inr ⟨h,q⟩)
   ·exact .inr ⟨h,q⟩
theorem Z3n (n:Int):∀(b:Z4) (xs:LI),((xs.Pairwise (·<·))->(WY n b xs).Pairwise (·<·))/\∀z,z∈WY n b xs↔z∈xs∨(z∈vB b/\0<=z/\z<n)
 | .mk steps result,xs=>by
  have h1:=Du n steps xs
  rw [WY,vB]
  refine ⟨fun h=>FW (h1.1 h),fun z=>?_⟩
  rw [Fd,h1.2,YO,Xk]
  constructor
  ·rintro ((h|h)|h)
   ·exact .inl h
   ·exact .inr ⟨.inl h.1,h.2⟩
   ·exact .inr ⟨.inr h.1,h.2⟩
  ·rintro (h|⟨h|h,q⟩)
   ·exact .inl (.inl h)
   ·exact .inl (.inr ⟨h,q⟩)
   ·exact .inr ⟨h,q⟩
end
theorem Gy (zs:LI) (hs:zs.Pairwise (·<=·)):∀m,m<=zs.length->(Lib.compactUpTo zs.toArray m).Pairwise (·<·)/\∀z,z∈Lib.compactUpTo zs.toArray m↔∃j,j<m/\zs[j]? = some z
 | 0,_=>by simp [Lib.compactUpTo]
 | m+1,hm=>by
  obtain ⟨h1,h2⟩:=Gy zs hs m om
  have hg:∀j (h:j<zs.length),zs.toArray[j]! = zs[j]:=fun j h=>by simp [h]
  have hle:∀i j (hj:j<zs.length),(hij:i<=j)->zs[i]'om<=zs[j]:=fun i j hj hij=>by
   rcases KD i j with h|h
   ·exact (List.pairwise_iff_getElem.1 hs) i j om hj h
   ·have:i=j:=by omega
    subst this;exact Int.le_refl _
  rw [Lib.compactUpTo_succ]
  cases hk:Lib.keeps zs.toArray m with
  | true=>
   rw [Zw rfl,hg m om]
   have hlt:∀z∈Lib.compactUpTo zs.toArray m,z<zs[m]:=by
    intro z hz
    obtain ⟨j,hj,hjz⟩:=(h2 z).1 hz
    obtain ⟨hjl,rfl⟩:=Xj.1 hjz
    have a1:=hle j (m-1) om om
    have a2:=hle (m-1) m om om
    have a3:zs[m]≠zs[m-1]'om:=fun e=>by
     have:=Lib.keeps_neg (d:=zs.toArray) (m:=m) om (by rw [hg m om,hg (m-1) om];exact e)
     rw [hk] at this;cases this
    omega
   refine ⟨QU.2 ⟨h1,Jl _ _,fun a ha b hb=>by rw [Xk.1 hb];exact hlt a ha⟩,fun z=>?_⟩
   rw [YO,Xk,h2]
   constructor
   ·rintro (⟨j,hj,e⟩|rfl)
    ·exact ⟨j,by omega,e⟩
    ·exact ⟨m,by omega,TG om⟩
   ·rintro ⟨j,hj,e⟩
    rcases KD j m with h|h
    ·exact .inl ⟨j,h,e⟩
    ·have:j=m:=by omega
     subst this
     rw [TG om] at e
     exact .inr (A5 e).symm
  | false=>
   rw [Zs (by simp),Tk]
   refine ⟨h1,fun z=>?_⟩
   rw [h2]
   constructor
   ·rintro ⟨j,hj,e⟩;exact ⟨j,by omega,e⟩
   ·rintro ⟨j,hj,e⟩
    rcases KD j m with h|h
    ·exact ⟨j,h,e⟩
    ·have:j=m:=by omega
     subst this
     have hj0:0<j:=by
      rcases Nat.eq_zero_or_pos j with h0|h0
      ·subst h0;have:=Lib.keeps_lt_one zs.toArray 0 om;rw [hk] at this;cases this
      ·exact h0
     have he:zs.toArray[j]! = zs.toArray[j-1]!:=by
      rcases Decidable.em (zs.toArray[j]! = zs.toArray[j-1]!) with q|q
      ·exact q
      ·have:=Lib.keeps_pos q;rw [hk] at this;cases this
     rw [hg j om,hg (j-1) om] at he
     rw [TG om,he] at e
     exact ⟨j-1,by omega,by rw [TG om];exact e⟩
theorem NJ (xs:LI):(Lib.compact (xs.mergeSort fun x y=>decide (x<=y))).Pairwise (·<·)/\∀z,z∈Lib.compact (xs.mergeSort fun x y=>decide (x<=y))↔z∈xs:=by
 have hs:(xs.mergeSort fun x y=>decide (x<=y)).Pairwise (·<=·):=by
  have:=List.pairwise_mergeSort (le:=fun x y:Int=>decide (x<=y)) (fun a b c h1 h2=>by simp only [decide_eq_true_eq] at *;omega) (fun a b=>by simp only [Bool.or_eq_true,decide_eq_true_eq];omega) xs
  exact this.imp fun h=>by simpa using h
 obtain ⟨h1,h2⟩:=Gy _ hs _ (YI _)
 refine ⟨h1,fun z=>?_⟩
 unfold Lib.compact
 rw [h2]
 constructor
 ·rintro ⟨j,_,e⟩
  exact List.mem_mergeSort.1 (ZU e)
 ·intro hz
  obtain ⟨j,hj,e⟩:=List.getElem_of_mem (List.mem_mergeSort (le:=fun x y:Int=>decide (x<=y)).2 hz)
  exact ⟨j,hj,by rw [TG hj,e]⟩
def uF (n:Int) (b:Z4) (k:Nat):LI:=WG n (WH n (b.steps.drop k) []) b.result
theorem Mh (n:Int) (b:Z4) (k:Nat):(uF n b k).Pairwise (·<·):=FW ((Du n _ _).1 .nil)
theorem Im {n:Int} {b:Z4} {k:Nat} {z:Int}:z∈uF n b k↔z∈Wb (b.steps.drop k)++[b.result]/\0<=z/\z<n:=by
 rw [uF,Fd,(Du n _ _).2,YO,Xk]
 constructor
 ·rintro ((h|h)|h)
  ·cases h
  ·exact ⟨.inl h.1,h.2⟩
  ·exact ⟨.inr h.1,h.2⟩
 ·rintro ⟨h|h,q⟩
  ·exact .inl (.inr ⟨h,q⟩)
  ·exact .inr ⟨h,q⟩
theorem Z1m (n:Int) (b:Z4) (k:Nat):Uc (Lib.compact ((Wb (b.steps.drop k)++[b.result]).mergeSort fun x y=>decide (x<=y))) n=uF n b k:=by
 obtain ⟨h1,h2⟩:=NJ (Wb (b.steps.drop k)++[b.result])
 refine Gi (Nm h1) (Mh n b k) fun z=>?_
 rw [SA,h2,Im]
theorem NK (xs:LI):(Lib.compact xs).length<=xs.length:=by
 have:=List.length_filter_le (Lib.keeps xs.toArray) (List.range xs.length)
 simpa [Lib.compact,Lib.compactUpTo] using this
theorem Z3h (n:Int) (b:Z4) (k:Nat):(uF n b k).length<=b.sz:=by
 have h1:=BQ (n:=n) (WH n (b.steps.drop k) []) b.result
 have h2:=Dt (n:=n) (b.steps.drop k) []
 have h3:=AM b.steps k
 have h4:=b.sz_eq
 rw [uF];simp at h2;omega
theorem Z3i {n:Int} {b:Z4} {k:Nat} {z:Int} (h:z∈uF n b k):z∈uF n b (k-1):=by
 rw [Im] at h ⊢
 refine ⟨?_,h.2⟩
 rcases YO.1 h.1 with q|q
 ·refine YO.2 (.inl ?_)
  rcases Nat.eq_zero_or_pos k with e|e
  ·subst e;exact q
  ·rcases KD (k-1) b.steps.length with hl|hl
   ·rw [G5 hl,Wb,show k-1+1=k by omega]
    exact YO.2 (.inr q)
   ·rw [Xf om] at q;rw [Xf hl];exact q
 ·exact YO.2 (.inr q)
structure MF (n:Zu):Prop where
 result:∀r∈n.routines,r.result<=(n.decls.length:Int)
 decl:∀d∈n.decls,d.cons.length=0->d.to_<=(n.decls.length:Int)
 fields:∀c,∀f∈ZY n.decls c,f<=(n.decls.length:Int)
section
variable {n:Zu} (hu:MF n)
include hu
end
theorem Ih:∀{xs:List Z3},xs.length<=Y5 xs
 | []=>T0 _
 | x::r=>by have:=Ih (xs:=r);have:=x.sz_pos;rw [Y5,Yw];omega
theorem CS (b:Z4):b.steps.length<=b.sz:=by have:=b.sz_eq;have:=Ih (xs:=b.steps);omega

theorem OF {xs ys:LI} (h:xs.length=ys.length) (ha:∀i,i<xs.length->xs[i]? = ys[i]?):xs=ys:=List.ext_getElem? fun i=>by
 by_cases hi:i<xs.length
 ·exact ha i hi
 ·rw [BW om,BW om]
def Wz:List Z3->Int->Nat
 | [],_=>0
 | s::r,v=>(if gI s.args 0=v then 1 else 0)+Wz r v
def Ws (rn:List Z3):LI->Nat
 | []=>0
 | v::r=>Wz rn v+Ws rn r
theorem E2:∀(xs ys:List Z3) (v:Int),Wz (xs++ys) v=Wz xs v+Wz ys v
 | [],ys,v=>by simp [Wz]
 | x::r,ys,v=>by rw [Qn,Wz,Wz,E2 r];omega
theorem NH {xs:List Z3} {k:Nat} {s:Z3} (h:xs[k]? = some s) (v:Int):Wz (xs.take (k+1)) v=Wz (xs.take k) v+(if gI s.args 0=v then 1 else 0):=by
 rw [Ve h,E2,Wz,Wz];omega
theorem Gx:∀(xs:List Z3) (v:Int),Wz xs v<=xs.length
 | [],v=>YI _
 | x::r,v=>by have:=Gx r v;rw [Wz,Yw];split<;>omega
theorem NI (xs:List Z3) (k:Nat) (v:Int):Wz (xs.take k) v<=Wz xs v:=by
 have h:=Yg (Wz · v) (U1 k xs)
 simp only [E2] at h;omega
theorem FK (rn:List Z3):∀xs ys:LI,Ws rn (xs++ys)=Ws rn xs+Ws rn ys
 | [],ys=>by simp [Ws]
 | x::r,ys=>by rw [Qn,Ws,Ws,FK rn r];omega
theorem Z39 {rn:List Z3} {xs:LI} {k:Nat} {v:Int} (h:xs[k]? = some v):Ws rn (xs.take (k+1))=Ws rn (xs.take k)+Wz rn v:=by
 rw [Ve h,FK,Ws,Ws];rfl
theorem M8 (s:Z3) (r:List Z3):∀vs:LI,Jn vs->Ws (s::r) vs<=1+Ws r vs/\(¬gI s.args 0∈vs->Ws (s::r) vs=Ws r vs)
 | [],_=>by simp [Ws]
 | v::vs,h=>by
  obtain ⟨h1,h2⟩:=XV.1 h
  obtain ⟨q1,q2⟩:=M8 s r vs h2
  rw [Ws,Ws,Wz]
  by_cases e:gI s.args 0=v
  ·have hn:¬gI s.args 0∈vs:=fun z=>by have:=h1 _ z;omega
   rw [Zw e,q2 hn]
   exact ⟨by omega,fun z=>absurd (Yj.2 (.inl e)) z⟩
  ·rw [Zs e]
   exact ⟨by omega,fun z=>by rw [q2 fun y=>z (X8 _ y)];omega⟩
theorem M9:∀(rn:List Z3) {vs:LI},Jn vs->Ws rn vs<=rn.length
 | [],vs,_=>by
  have:∀xs:LI,Ws [] xs=0:=fun xs=>by
   induction xs with
   | nil=>rfl
   | cons x r ih=>rw [Ws,ih];rfl
  rw [this];exact T0 _
 | s::r,vs,h=>by
  have h1:=(M8 s r vs h).1
  have h2:=M9 r h
  rw [Yw];omega
theorem FL (rn:List Z3) (xs:LI) (k:Nat):Ws rn (xs.take k)<=Ws rn xs:=by
 have h:=Yg (Ws rn) (U1 k xs)
 rw [FK] at h;omega
def G8 (m:Nat) (rn:List Z3):Prop:=∀s∈rn,∃a,s.args=[a]/\0<=a/\a<(m:Int)
theorem GR {xs:List Z3} {k:Nat} {s:Z3} (h:xs[k]? = some s):Yy (xs.take (k+1))=Yy (xs.take k)+(if YG s.op=true then 0 else 1):=by rw [Ve h,Q9,Yy,Yy];rfl
theorem KT.eq {ds:List Zd} {nf m z:Nat} {s:Z3} {ks:List Z4} (h:FS ds nf m s) (h11:s.op<=11) (hl:ks.length=s.kids.length) (hk:KK ds nf (VL ds s.op s.num m) ks z):KT ds nf m ⟨s.op,s.num,s.into,s.args,ks⟩ (1+s.args.length+z):=by
 obtain ⟨h1,h2,h3⟩:=H6 h h11 hl h.into hk
 refine ⟨h1,by show YG s.op=false;simp [YG];omega,h2,?_⟩
 have:=hk.sz
 rw [Z3.sz];omega
theorem FS.pair {ds:List Zd} {nf m:Nat} {s:Z3} (h:FS ds nf m s) (hp:s.op=14∨s.op=15):(∃a,s.args=[a]/\0<=a/\a<(m:Int))/\s.sz=2/\YG s.op=true:=by
 obtain ⟨h1,h2,h3,a,h4⟩:=h.cnt om
 have h5:=h.args a (by rw [h4];exact Xk.2 rfl)
 refine ⟨⟨a,h4,h5⟩,?_,GJ hp⟩
 rw [s.sz_eq,h3,h4];rfl
theorem FS.not_pair {ds:List Zd} {nf m:Nat} {s:Z3} (h:FS ds nf m s) (hp:¬(s.op=14∨s.op=15)) (h15:Wv s.op):s.op<=11/\YG s.op=false:=by
 have h1:s.op<=15:=h15
 have h2:=h.op
 exact ⟨by omega,by simp [YG];omega⟩
theorem CL.run {ds:List Zd} {nf m d z:Nat} {xs:List Z3} {D R:LI} {rn:List Z3} (h:CL ds nf m xs d z) (hr:G8 (m+d) rn) (hD:∀v∈D,∃s∈rn,s.args=[v]) (hR:∀v∈R,∃s∈rn,s.args=[v]):CL ds nf m (xs++(D.map (Zl 14)++R.map (Zl 15))) d (z+2*(D.length+R.length)):=by
 have key:∀(A:LI),(∀v∈A,∃s∈rn,s.args=[v])->∀v∈A,0<=v/\v<((m+d:Nat):Int):=fun A hA v hv=>by
  obtain ⟨s,hs,e⟩:=hA v hv
  obtain ⟨a,e2,e3⟩:=hr s hs
  rw [e] at e2
  cases e2
  exact e3
 have h2:=(h.cnts (op:=14) (.inl rfl) (key D hD)).cnts (op:=15) (.inr rfl) (key R hR)
 rw [<-U9]
 exact h2.le om
def XM (xs:List Z3) (i:Nat) (s:Z3):List Z3:=xs.take i++[s]++xs.drop i
theorem BI {xs:List Z3} (i:Nat) (s:Z3):Y5 (XM xs i s)=Y5 xs+s.sz:=by
 have h:=Yg Y5 (U1 i xs)
 rw [VZ] at h
 rw [XM,VZ,VZ,Y5,Y5];omega
theorem IT {xs:List Z3} {i:Nat} {s:Z3} (h:i<=xs.length):(XM xs i s).length=xs.length+1:=by
 simp [XM,WS h];omega
def Bn (b:Z4) (i j:Nat) (v:Int):Z4:=⟨XM (XM b.steps j (Zl 15 v)) i (Zl 14 v),b.result⟩
def withR (n:Zu) (f:Nat) (rt:Y1) (b:Z4):Zu:=⟨n.decls,n.routines.set f ⟨rt.params,rt.lent,rt.result,b⟩⟩
def DK (n n2:Zu):Prop:=n2=n∨∃f rt i j v,n.routines[f]? = some rt/\i<=j/\j<=rt.body.steps.length/\0<=v/\v<((rt.params.length+Yy (rt.body.steps.take i):Nat):Int)/\n2=withR n f rt (Bn rt.body i j v)
theorem CL.put {ds:List Zd} {nf m:Nat} {xs:List Z3} {d z:Nat} (h:CL ds nf m xs d z) {i:Nat} {op v:Int} (ho:op=14∨op=15) (hv:0<=v/\v<((m+Yy (xs.take i):Nat):Int)):CL ds nf m (XM xs i (Zl op v)) d (z+2):=by
 have hs:=h.fs
 have hp:=h.op
 have e:=U1 i xs
 rw [<-e] at hs hp
 rw [Ao] at hs
 rw [D0] at hp
 have h1:CL ds nf m (xs.take i) (Yy (xs.take i)) (Y5 (xs.take i)):=⟨hs.1,rfl,hp.1,YI _⟩
 have h2:CL ds nf (m+Yy (xs.take i)) (xs.drop i) (Yy (xs.drop i)) (Y5 (xs.drop i)):=⟨hs.2,rfl,hp.2,YI _⟩
 have h3:=(h1.cnt ho hv).app h2
 have e1:=Yg Y5 e
 have e2:=Yg Yy e
 rw [VZ] at e1
 rw [Q9,h.dn] at e2
 have:=h.sz
 rw [e2] at h3
 exact h3.le om
theorem Z0c {xs:List Z3} {i j:Nat} {s:Z3} (h:i<=j) (hj:j<=xs.length):(XM xs j s).take i=xs.take i:=by
 rw [XM,U9,List.take_append_of_le_length (by rw [W8];omega),List.take_take,WS h]
theorem Rh {ds:List Zd} {nf m z:Nat} {b:Z4} (h:KB ds nf m b z) {i j:Nat} {v:Int} (hij:i<=j) (hj:j<=b.steps.length) (hv:0<=v/\v<((m+Yy (b.steps.take i):Nat):Int)):KB ds nf m (Bn b i j v) (z+4):=by
 obtain ⟨h1,h2⟩:=h.cl
 have hm:Yy (b.steps.take i)<=Yy (b.steps.take j):=by
  have e:=Yg Yy (U1 i (b.steps.take j))
  rw [Q9,List.take_take,WS hij] at e;omega
 have h3:=(h1.put (i:=j) (op:=15) (v:=v) (.inr rfl) om).put (i:=i) (op:=14) (v:=v) (.inl rfl) (by rw [Z0c hij hj];exact hv)
 have:=h.sz
 have:=b.sz_eq
 exact (h3.block h2).le om
theorem FO.held {n n2:Zu} {q:Nat} (h:FO n q Wv) (hh:DK n n2):FO n2 (q+4) Wv:=by
 rcases hh with rfl|⟨f,rt,i,j,v,h1,h2,h3,h4,h5,rfl⟩
 ·exact ⟨⟨h.fn.decls,h.fn.len,h.fn.sigs,h.fn.lent,fun r hr=>⟨(h.fn.body r hr).1,by have:=(h.fn.body r hr).2;omega⟩⟩,h.op⟩
 ·have hr:=h.rf (ZU h1)
  have hk:KB n.decls n.routines.length rt.params.length (Bn rt.body i j v) (q+4):=Rh ⟨hr.body.1,hr.op,hr.body.2⟩ h2 h3 ⟨h4,h5⟩
  refine FO.all h.fn.decls (by show 1<=(n.routines.set _ _).length/\(n.routines.set _ _).length<=4;rw [Ua];exact h.fn.len) fun r hm=>?_
  show RF n.decls (n.routines.set _ _).length _ _ r
  rw [Ua]
  rcases List.mem_or_eq_of_mem_set hm with hm|rfl
  ·have hq:=h.rf hm
   exact ⟨hq.sig,hq.lent,⟨hq.body.1,by have:=hq.body.2;omega⟩,hq.op⟩
  ·exact ⟨hr.sig,hr.lent,⟨hk.fb,hk.sz⟩,hk.op⟩
structure Wl (ds:List Zd) (b:Z4):Prop where
 w:wB ds b
 nr:Tc b
 rng:b.rng
structure Ub (ds:List Zd) (s:Z3):Prop where
 w:wS ds s
 nr:JS s
 rng:s.rng
section
variable {ds:List Zd}
theorem UU:∀{xs:List Z3},QQ xs↔∀s∈xs,s.rng
 | []=>by simp [QQ]
 | s::r=>by rw [QQ,UU];simp
theorem KQ:∀{xs:List Z4},Qv xs↔∀s∈xs,s.rng
 | []=>by simp [Qv]
 | s::r=>by rw [Qv,KQ];simp
theorem Wl.iff {b:Z4}:Wl ds b↔∀s∈b.steps,Ub ds s:=by
 constructor
 ·intro h s hs
  have h3:=h.rng
  rw [Z4.rng_eq] at h3
  exact ⟨Ky.1 ((Q5 b).1 h.w) s hs,Bz.1 ((By b).1 h.nr) s hs,UU.1 h3 s hs⟩
 ·intro h
  exact ⟨(Q5 b).2 (Ky.2 fun s hs=>(h s hs).w),(By b).2 (Bz.2 fun s hs=>(h s hs).nr),by rw [Z4.rng_eq];exact UU.2 fun s hs=>(h s hs).rng⟩
theorem Ub.kid {s:Z3} {b:Z4} (h:Ub ds s) (hb:b∈s.kids):Wl ds b:=by
 have h3:=h.rng
 rw [Z3.rng_eq] at h3
 exact ⟨Dx.1 ((Qm s).1 h.w).2.2.2 b hb,CX.1 ((Az s).1 h.nr).2 b hb,KQ.1 h3.2 b hb⟩
theorem Ub.kids {s:Z3} {ks:List Z4} (h:Ub ds s) (hl:ks.length=s.kids.length) (hk:∀b∈ks,Wl ds b):Ub ds ⟨s.op,s.num,s.into,s.args,ks⟩:=by
 obtain ⟨h1,h2,h3,h4⟩:=(Qm s).1 h.w
 have h5:=h.rng
 rw [Z3.rng_eq] at h5
 refine ⟨(Qm _).2 ⟨h1,fun hc=>?_,fun h8=>⟨(h3 h8).1,hl.trans (h3 h8).2⟩,Dx.2 fun b hb=>(hk b hb).w⟩,(Az _).2 ⟨((Az s).1 h.nr).1,CX.2 fun b hb=>(hk b hb).nr⟩,by rw [Z3.rng_eq];exact ⟨h5.1,KQ.2 fun b hb=>(hk b hb).rng⟩⟩
 obtain ⟨q1,q2,q3,q4⟩:=h2 hc
 exact ⟨q1,q2,List.eq_nil_of_length_eq_zero (show ks.length=0 by rw [hl,q3];rfl),q4⟩
theorem Ub.cnt {op v:Int} (h:op=14∨op=15∨op=16):Ub ds (Zl op v):=⟨Z4b h,(Az _).2 ⟨by show op≠17;omega,True.intro⟩,by rw [Z3.rng_eq];exact ⟨⟨by show (-9223372036854775808:Int)<=0;decide,by show (0:Int)<=_;decide⟩,True.intro⟩⟩
theorem Wl.open {b:Z4} {x q:Int} {fs:LI} (h:Wl ds b):Wl ds (Qr b x fs q):=by
 rw [Wl.iff] at h ⊢
 intro s hs
 have hs:s∈KN b.steps x fs q:=hs
 rw [KN] at hs
 split at hs
 ·simp only [YO,W5,Xk] at hs
  rcases hs with ((⟨a,_,rfl⟩|rfl)|⟨a,_,rfl⟩)|hs
  ·exact Ub.cnt om
  ·exact Ub.cnt om
  ·exact Ub.cnt om
  ·exact h s (List.mem_of_mem_drop hs)
 ·exact h s hs
theorem LD {m:Nat} {op num:Int} {args:LI}:∀{bs:List Z4} {k:Nat},(Up ds m op num args bs k).length=bs.length
 | [],_=>rfl
 | b::r,k=>by rw [Up,Yw,Yw,LD (bs:=r)]
mutual
theorem Ub.sp:∀(s:Z3) {m:Nat},Ub ds s->Ub ds (JW ds m s)
 | .mk op num into args kids,m,h=>by
  rw [JW]
  exact h.kids LD (Wls.sp kids fun b hb=>h.kid hb)
theorem Wls.sp:∀(bs:List Z4) {m:Nat} {op num:Int} {args:LI} {k:Nat},(∀b∈bs,Wl ds b)->∀b∈Up ds m op num args bs k,Wl ds b
 | [],_,_,_,_,_,_,b,hb=>by cases hb
 | c::r,m,op,num,args,k,h,b,hb=>by
  rw [Up] at hb
  rcases Yj.1 hb with rfl|hb
  ·split
   ·exact (Wl.sp c (h c (YL ..))).open
   ·exact Wl.sp c (h c (YL ..))
  ·exact Wls.sp r (fun x hx=>h x (X8 _ hx)) b hb
theorem WlSs.sp:∀(xs:List Z3) {m:Nat},(∀s∈xs,Ub ds s)->∀s∈VM ds m xs,Ub ds s
 | [],_,_,s,hs=>by cases hs
 | c::r,m,h,s,hs=>by
  rw [VM] at hs
  rcases Yj.1 hs with rfl|hs
  ·exact Ub.sp c (h c (YL ..))
  ·exact WlSs.sp r (fun x hx=>h x (X8 _ hx)) s hs
theorem Wl.sp:∀(b:Z4) {m:Nat},Wl ds b->Wl ds (We ds m b)
 | .mk steps result,m,h=>by
  rw [We,Wl.iff]
  exact WlSs.sp steps (Wl.iff.1 h)
end
theorem Z0n {b:Z4} {x:Int} {many:Nat} (h:b.rng):(V6 b x many).rng:=by
 rw [Z4.rng_eq] at h
 rw [V6,Z4.rng_eq]
 show QQ (Vc b.steps x many)
 rw [Vc]
 split
 ·exact h
 ·rename_i hq
  obtain ⟨_,_,t,h5,h7,h6⟩:=KR (fun z=>hq (.inr z))
  rw [UU] at h ⊢
  intro s hs
  rcases List.mem_or_eq_of_mem_set hs with hs|rfl
  ·rcases List.mem_or_eq_of_mem_set hs with hs|rfl
   ·exact h s hs
   ·rw [Z3.rng_eq];exact ⟨⟨by show (-9223372036854775808:Int)<=0;decide,by show (0:Int)<=_;decide⟩,True.intro⟩
  ·have:=h t (ZU h5)
   rw [h6,Ta,Z3.rng_eq]
   rw [Z3.rng_eq] at this
   exact this
mutual
theorem Z0o:∀(s:Z3) {K:LI},s.rng->(Tg ds K s).rng
 | .mk op num into args kids,K,h=>by
  rw [Z3.rng] at h
  rw [Tg,Z3.rng]
  exact ⟨h.1,L9 kids h.2⟩
theorem L9:∀(bs:List Z4) {K:LI} {op num:Int} {args:LI} {k:Nat},Qv bs->Qv (Vx ds K op num args bs k)
 | [],_,_,_,_,_,_=>True.intro
 | b::r,K,op,num,args,k,h=>by
  rw [Vx,Qv]
  refine ⟨?_,L9 r h.2⟩
  split
  ·exact Z0n (Fm b h.1)
  ·exact Fm b h.1
theorem La:∀(xs:List Z3) {K:LI},QQ xs->QQ (Vy ds K xs)
 | [],_,_=>True.intro
 | s::r,K,h=>⟨Z0o s h.1,La r h.2⟩
theorem Fm:∀(b:Z4) {K:LI},b.rng->(XU ds K b).rng
 | .mk steps result,K,h=>by
  rw [Z4.rng] at h
  rw [XU,Z4.rng]
  exact La steps h
end
end
mutual
theorem SH:∀s:Z3,Te Wv s->JS s
 | .mk op num into args kids,h=>by
  rw [Te] at h
  rw [JS]
  exact ⟨by have:op<=15:=h.1;omega,Is kids h.2⟩
theorem Is:∀bs:List Z4,Td Wv bs->J6 bs
 | [],_=>True.intro
 | b::r,h=>⟨Ir b h.1,Is r h.2⟩
theorem It:∀bs:List Z3,Uk Wv bs->J7 bs
 | [],_=>True.intro
 | b::r,h=>⟨SH b h.1,It r h.2⟩
theorem Ir:∀b:Z4,Wo Wv b->Tc b
 | .mk steps result,h=>by
  rw [Wo] at h
  rw [Tc]
  exact It steps h
end
structure ZR (q:Nat) (r:Y1):Prop where
 params:r.params.length<=3
 lent:r.lent.length<=10
 body:r.body.sz<=q
 rng:r.body.rng
structure ZN (n:Zu) (q:Nat):Prop where
 decls:AD n.decls
 len:1<=n.routines.length/\n.routines.length<=4
 rt:∀r∈n.routines,ZR q r
theorem ZR.le {q q2:Nat} {r:Y1} (h:ZR q r) (hq:q<=q2):ZR q2 r:=⟨h.params,h.lent,Wt h.body hq,h.rng⟩
theorem ZN.le {n:Zu} {q q2:Nat} (h:ZN n q) (hq:q<=q2):ZN n q2:=⟨h.decls,h.len,fun r hr=>(h.rt r hr).le hq⟩
theorem ZN.sz {n:Zu} {q:Nat} (h:ZN n q) (hq:q<=10000000):KH n:=
 ⟨⟨by have:=h.decls.1;omega,fun d hd=>by have:=(h.decls.2 d hd).1;omega,fun d hd c hc=>by have:=(h.decls.2 d hd).2 c hc;omega⟩,by have:=h.len;omega,fun r hr=>by have:=(h.rt r hr).params;omega,fun r hr=>by have:=(h.rt r hr).lent;omega,fun r hr=>by have:=(h.rt r hr).body;omega⟩
theorem FO.wl {n:Zu} {q:Nat} (h:FO n q Wv) (hq:q<=100000000):∀r∈n.routines,Wl n.decls r.body:=fun r hr=>by
 have h1:=h.rf hr
 have h2:r.params.length<=3:=(U2.bd (f:=⟨r.params,r.result,default⟩) h1.sig).1
 exact ⟨Mw r.body h1.body.1 (by have:=h1.body.2;omega) h.fn.decls.ok,Ir r.body h1.op,Fk r.body h1.body.1⟩
theorem FO.zn {n:Zu} {q:Nat} {p:Int->Prop} (h:FO n q p):ZN n q:=
 ⟨h.fn.decls.ad,h.fn.len,fun r hr=>⟨(U2.bd (f:=⟨r.params,r.result,default⟩) (h.fn.sigs r hr)).1,by have:=(h.fn.lent r hr).1;omega,(h.fn.body r hr).2,Fk r.body (h.fn.body r hr).1⟩⟩
structure WN (n:Zu) (q:Nat):Prop where
 ok:X2 n
 zn:ZN n q
 wl:∀r∈n.routines,Wl n.decls r.body
theorem FO.wn {n:Zu} {q:Nat} (h:FO n q Wv) (hq:q<=100000000):WN n q:=⟨h.fn.ok,h.zn,h.wl hq⟩
theorem WN.sp {n:Zu} {q:Nat} (h:WN n q):WN (Dm n) (9*q):=by
 refine ⟨⟨h.ok.decls,by show (n.routines.map _).length<=4;rw [BX];exact h.ok.len,fun r hr=>?_,fun r hr=>?_⟩,⟨h.zn.decls,by show 1<=(n.routines.map _).length/\(n.routines.map _).length<=4;rw [BX];exact h.zn.len,fun r hr=>?_⟩,fun r hr=>?_⟩
 ·obtain ⟨s,hs,rfl⟩:=W5.1 hr;exact h.ok.params s hs
 ·obtain ⟨s,hs,rfl⟩:=W5.1 hr;exact h.ok.lent s hs
 ·obtain ⟨s,hs,rfl⟩:=W5.1 hr
  have hz:=h.zn.rt s hs
  refine ⟨hz.params,hz.lent,?_,(Wl.sp s.body (h.wl s hs)).rng⟩
  have h1:=Dk h.ok.decls s.body (m:=s.params.length) (h.wl s hs).w
  have h2:=s.body.pz_le
  have h3:=hz.body
  show (We n.decls s.params.length s.body).sz<=9*q
  omega
 ·obtain ⟨s,hs,rfl⟩:=W5.1 hr;exact Wl.sp s.body (h.wl s hs)
theorem WN.ru {n:Zu} {q:Nat} (h:WN n q):ZN (D9 n) q:=by
 refine ⟨h.zn.decls,by show 1<=(n.routines.map _).length/\(n.routines.map _).length<=4;rw [BX];exact h.zn.len,fun r hr=>?_⟩
 obtain ⟨s,hs,rfl⟩:=W5.1 hr
 have hz:=h.zn.rt s hs
 refine ⟨hz.params,hz.lent,?_,Fm s.body (h.wl s hs).rng⟩
 have h1:=Fq s.body (K:=[]) (h.wl s hs).w
 have h3:=hz.body
 show (XU n.decls [] s.body).sz<=q
 omega
theorem Fh {xs:List Z3} {i:Nat} {s t:Z3} (h:t∈XM xs i s):t∈xs∨t=s:=by
 rw [XM] at h
 simp only [YO,Xk] at h
 rcases h with (h|h)|h
 ·exact .inl (Tl h)
 ·exact .inr h
 ·exact .inl (List.mem_of_mem_drop h)
theorem Fl {op v:Int}:(Zl op v).rng:=by rw [Z3.rng_eq];exact ⟨⟨by show (-9223372036854775808:Int)<=0;decide,by show (0:Int)<=_;decide⟩,True.intro⟩
theorem ZN.withR {n:Zu} {q q2:Nat} {f:Nat} {rt:Y1} {b:Z4} (h:ZN n q) (hr:n.routines[f]? = some rt) (hq:q<=q2) (hb:b.sz<=q2) (hg:b.rng):ZN (withR n f rt b) q2:=by
 refine ⟨h.decls,by show 1<=(n.routines.set _ _).length/\(n.routines.set _ _).length<=4;rw [Ua];exact h.len,fun r hm=>?_⟩
 rcases List.mem_or_eq_of_mem_set hm with hm|rfl
 ·exact (h.rt r hm).le hq
 ·have:=h.rt rt (ZU hr)
  exact ⟨this.params,this.lent,hb,hg⟩
theorem ZN.held {n n2:Zu} {q:Nat} (h:ZN n q) (hh:DK n n2):ZN n2 (q+4):=by
 rcases hh with rfl|⟨f,rt,i,j,v,h1,h2,h3,h4,h5,rfl⟩
 ·exact h.le om
 ·have hz:=h.rt rt (ZU h1)
  refine h.withR h1 om ?_ ?_
  ·rw [Bn,Z4.sz,BI,BI]
   have e1:(Zl 14 v).sz=2:=rfl
   have e2:(Zl 15 v).sz=2:=rfl
   have:=hz.body
   have:=rt.body.sz_eq
   omega
  ·have hg:=hz.rng
   rw [Z4.rng_eq,UU] at hg
   rw [Bn,Z4.rng_eq,UU]
   intro s hs
   rcases Fh hs with hs|rfl
   ·rcases Fh hs with hs|rfl
    ·exact hg s hs
    ·exact Fl
   ·exact Fl
theorem FO.le {n:Zu} {q q2:Nat} {p:Int->Prop} (h:FO n q p) (hq:q<=q2):FO n q2 p:=⟨⟨h.fn.decls,h.fn.len,h.fn.sigs,h.fn.lent,fun r hr=>⟨(h.fn.body r hr).1,Wt (h.fn.body r hr).2 hq⟩⟩,h.op⟩
def WT (s y:Z3):Prop:=y.sz<=s.sz+1/\y.rng
theorem WT.refl {s:Z3} (hg:s.rng):WT s s:=⟨Nat.le_succ _,hg⟩
theorem WT.of {s:Z3} {op num into:Int} {args:LI} {kids:List Z4} (hg:s.rng) (hn:num=s.num∨num∈([0,1,2,3,-1,1000]:LI)) (ha:args.length<=s.args.length+1) (hk:kids=s.kids∨kids=s.kids.drop 1):WT s ⟨op,num,into,args,kids⟩:=by
 rw [Z3.rng_eq] at hg
 have hs:=s.sz_eq
 have hb:YF kids<=YF s.kids:=by
  rcases hk with rfl|rfl
  ·exact YI _
  ·have h:=Yg YF (U1 1 s.kids)
   rw [B4] at h;omega
 refine ⟨by rw [Z3.sz];omega,?_⟩
 rw [Z3.rng]
 refine ⟨?_,KQ.2 fun b hbk=>KQ.1 hg.2 b ?_⟩
 ·rcases hn with rfl|hn
  ·exact hg.1
  ·have:=(by decide:∀z∈([0,1,2,3,-1,1000]:LI),-9223372036854775808<=z/\z<=9223372036854775807) num hn
   exact this
 ·rcases hk with rfl|rfl
  ·exact hbk
  ·exact List.mem_of_mem_drop hbk
def X0 (b y:Z4):Prop:=y.sz<=b.sz+2/\y.rng
theorem X0.result {b:Z4} (hg:b.rng) (z:Int):X0 b ⟨b.steps,z⟩:=⟨by rw [Z4.sz,b.sz_eq];omega,by rw [Z4.rng_eq] at hg;rw [Z4.rng];exact hg⟩
theorem X0.put {b:Z4} (hg:b.rng) {i:Nat} {op v:Int}:X0 b ⟨XM b.steps i (Zl op v),b.result⟩:=by
 rw [Z4.rng_eq,UU] at hg
 refine ⟨?_,?_⟩
 ·rw [Z4.sz,BI,b.sz_eq]
  have e:(Zl op v).sz=2:=rfl
  omega
 ·rw [Z4.rng,UU]
  intro s hs
  rcases Fh hs with hs|rfl
  ·exact hg s hs
  ·exact Fl
theorem X0.del {b:Z4} (hg:b.rng) {k:Nat}:X0 b ⟨b.steps.take k++b.steps.drop (k+1),b.result⟩:=by
 rw [Z4.rng_eq,UU] at hg
 have h1:=TC b.steps k
 have h2:=Yg Y5 (U1 k b.steps)
 have h3:=Yg Y5 (U1 1 (b.steps.drop k))
 rw [VZ] at h2 h3
 rw [List.drop_drop] at h3
 refine ⟨by rw [Z4.sz,VZ,b.sz_eq];omega,?_⟩
 rw [Z4.rng,UU]
 intro s hs
 rcases YO.1 hs with hs|hs
 ·exact hg s (Tl hs)
 ·exact hg s (List.mem_of_mem_drop hs)
theorem X0.set {b:Z4} (hg:b.rng) {k:Nat} {s t:Z3} (hs:b.steps[k]? = some s) (ht:t.sz<=s.sz+2/\t.rng):X0 b ⟨b.steps.set k t,b.result⟩:=by
 rw [Z4.rng_eq,UU] at hg
 have h1:=Dp t hs
 refine ⟨by rw [Z4.sz,b.sz_eq];omega,?_⟩
 rw [Z4.rng,UU]
 intro x hx
 rcases List.mem_or_eq_of_mem_set hx with hx|rfl
 ·exact hg x hx
 ·exact ht.2
theorem Gt:∀{xs:List Z4} {i:Nat} {s:Z4} (t:Z4),xs[i]? = some s->YF (xs.set i t)+s.sz=YF xs+t.sz
 | [],_,_,_,h=>by simp at h
 | x::r,0,s,t,h=>by simp at h;subst h;rw [List.set_cons_zero,YF,YF];omega
 | x::r,i+1,s,t,h=>by
  have:=Gt (xs:=r) (i:=i) t (by simpa using h)
  rw [List.set_cons_succ,YF,YF];omega
theorem X0.kid {b:Z4} (hg:b.rng) {k j:Nat} {s:Z3} {c y:Z4} (hs:b.steps[k]? = some s) (hc:s.kids[j]? = some c) (hy:X0 c y):X0 b ⟨b.steps.set k ⟨s.op,s.num,s.into,s.args,s.kids.set j y⟩,b.result⟩:=by
 refine X0.set hg hs ?_
 have hg2:=hg
 rw [Z4.rng_eq,UU] at hg2
 have h1:=hg2 s (ZU hs)
 rw [Z3.rng_eq] at h1
 have h2:=Gt y hc
 have h3:=hy.1
 refine ⟨by rw [Z3.sz,s.sz_eq];omega,?_⟩
 rw [Z3.rng]
 refine ⟨h1.1,KQ.2 fun x hx=>?_⟩
 rcases List.mem_or_eq_of_mem_set hx with hx|rfl
 ·exact KQ.1 h1.2 x hx
 ·exact hy.2
theorem L8 {b:Z4} (hg:b.rng) {k j:Nat} {s:Z3} {c:Z4} (hs:b.steps[k]? = some s) (hc:s.kids[j]? = some c):c.rng:=by
 rw [Z4.rng_eq,UU] at hg
 have h1:=hg s (ZU hs)
 rw [Z3.rng_eq] at h1
 exact KQ.1 h1.2 c (ZU hc)
theorem Z0p {b:Z4} (hg:b.rng) {k:Nat} {s:Z3} (hs:b.steps[k]? = some s):s.rng:=by
 rw [Z4.rng_eq,UU] at hg
 exact hg s (ZU hs)
structure ZS (n:Zu) (q l:Nat):Prop where
 decls:AD n.decls
 len:1<=n.routines.length/\n.routines.length<=4
 rt:∀r∈n.routines,r.params.length<=3/\r.lent.length<=l/\r.body.sz<=q/\r.body.rng
theorem ZN.zs {n:Zu} {q:Nat} (h:ZN n q):ZS n q 10:=⟨h.decls,h.len,fun r hr=>⟨(h.rt r hr).params,(h.rt r hr).lent,(h.rt r hr).body,(h.rt r hr).rng⟩⟩
theorem ZS.le {n:Zu} {q q2 l l2:Nat} (h:ZS n q l) (hq:q<=q2) (hl:l<=l2):ZS n q2 l2:=⟨h.decls,h.len,fun r hr=>by obtain ⟨a,b,c,d⟩:=h.rt r hr;exact ⟨a,by omega,by omega,d⟩⟩
theorem ZS.set {n:Zu} {q l q2 l2:Nat} {f:Nat} {rt:Y1} {ls:LI} {b:Z4} (h:ZS n q l) (hr:n.routines[f]? = some rt) (hq:q<=q2) (hl:l<=l2) (hls:ls.length<=l2) (hb:b.sz<=q2) (hg:b.rng):ZS ⟨n.decls,n.routines.set f ⟨rt.params,ls,rt.result,b⟩⟩ q2 l2:=by
 refine ⟨h.decls,by show 1<=(n.routines.set _ _).length/\(n.routines.set _ _).length<=4;rw [Ua];exact h.len,fun r hm=>?_⟩
 rcases List.mem_or_eq_of_mem_set hm with hm|rfl
 ·exact (h.le hq hl).rt r hm
 ·have:=h.rt rt (ZU hr)
  exact ⟨this.1,hls,hb,hg⟩
theorem ZS.ds {n:Zu} {q l:Nat} {ds:List Zd} (h:ZS n q l) (hd:AD ds):ZS ⟨ds,n.routines⟩ q l:=⟨hd,h.len,h.rt⟩
theorem Np {xs:List Z4} {k:Nat} {b:Z4} (h:xs[k]? = some b):YF (xs.drop k)=b.sz+YF (xs.drop (k+1)):=by rw [Ye h,YF]
theorem SK {xs:LI} {k:Nat} {n x:Int} (hx:xs[k]? = some x) (h:n∉xs.take k) (hn:¬x=n):n∉xs.take (k+1):=by
 rw [List.take_add_one,hx,Option.toList_some,YO,Xk]
 exact fun q=>q.elim h fun q=>hn q.symm
theorem I7 {b:Z4} {q k j:Nat} {s:Z3} {c:Z4} (h:b.sz<=q/\b.rng) (hs:b.steps[k]? = some s) (hc:s.kids[j]? = some c):c.sz<=q/\c.rng:=by
 have h1:=Q3 hs
 have h2:=VW hc
 have h3:=U8 s
 exact ⟨by omega,L8 h.2 hs hc⟩
abbrev Je (xs:LI):LI:=xs.mergeSort fun x y=>decide (x<=y)
abbrev AJ (b:Z4) (k:Nat):LI:=Lib.compact (Je (Wb (b.steps.drop k)++[b.result]))
theorem Z1k (b:Z4) (k:Nat):(AJ b k).length<=b.sz:=by
 have h1:=NK (Je (Wb (b.steps.drop k)++[b.result]))
 have h2:=Dw (b.steps.drop k)
 have h3:=AM b.steps k
 have h4:=b.sz_eq
 have h0:(Je (Wb (b.steps.drop k)++[b.result])).length=(Wb (b.steps.drop k)).length+1:=(List.length_mergeSort _).trans (by simp)
 rw [h0] at h1
 exact Wt h1 om
theorem Z1n {xs:LI} (h:xs≠[]):Je xs≠[]:=fun q=>h (by have:=Yg List.length q;simp only [Je,List.length_mergeSort,YV] at this;exact List.length_eq_zero_iff.1 this)
def XC (b:Z4) (n k:Int):LI:=if Wy b<0∨k<0∨k>(b.steps.length:Int) then [] else uF n b k.toNat
theorem Mi (b:Z4) (n k:Int):(XC b n k).length<=b.sz:=by
 rw [XC];split
 ·simp
 ·exact Z3h _ _ _
theorem Z3j (b:Z4) (n k:Int):(XC b n k).Pairwise (·<·):=by
 rw [XC];split
 ·exact .nil
 ·exact Mh _ _ _
theorem Nd {xs:LI} (h:xs.Pairwise (·<·)) (k:Nat) (x y:Int) (hx:xs[k]? = some x) (hy:xs[k+1]? = some y):x<y:=by
 obtain ⟨h1,rfl⟩:=Xj.1 hx
 obtain ⟨h2,rfl⟩:=Xj.1 hy
 exact List.pairwise_iff_getElem.1 h k (k+1) h1 h2 om
theorem Z3k {b:Z4} {n k:Int} (hk:1<=k) (z:Int) (h:z∈XC b n k):z∈XC b n (k-1):=by
 rw [XC] at h
 split at h
 ·cases h
 ·rename_i hc
  rw [XC,Zs om,show (k-1).toNat=k.toNat-1 by omega]
  exact Z3i h
end Go.Abs
section
namespace Go.Proofs
open Go.Shelf
def Tryz.lays189_ren:Go.Shelf.Ren:=⟨fun|189=>107|125=>148|257=>147|128=>186|129=>187|294=>177|295=>178|296=>179|297=>180|298=>181|299=>182|216=>183|300=>184|301=>185|328=>212|329=>213|330=>214|331=>215|332=>216|215=>217|343=>245|n=>n,fun|28=>27|3=>3|46=>152|0=>0|51=>183|53=>185|4=>4|183=>176|182=>175|131=>102|5=>5|9=>9|218=>207|222=>77|228=>228|229=>229|n=>n,fun|n=>n⟩
theorem Tryz.lays189:Go.Proofs.Lays.n189 Tryz.prog Tryz.lays189_ren:={
 mixed:=by kernel_rfl
 f125:=Tryz.func148.trans (congrArg some (by kernel_rfl))
 f128:=Tryz.func186.trans (congrArg some (by kernel_rfl))
 f129:=Tryz.func187.trans (congrArg some (by kernel_rfl))
 f189:=Tryz.func107.trans (congrArg some (by kernel_rfl))
 f215:=Tryz.func217.trans (congrArg some (by kernel_rfl))
 f216:=Tryz.func183.trans (congrArg some (by kernel_rfl))
 f257:=Tryz.func147.trans (congrArg some (by kernel_rfl))
 f294:=Tryz.func177.trans (congrArg some (by kernel_rfl))
 f295:=Tryz.func178.trans (congrArg some (by kernel_rfl))
 f296:=Tryz.func179.trans (congrArg some (by kernel_rfl))
 f297:=Tryz.func180.trans (congrArg some (by kernel_rfl))
 f298:=Tryz.func181.trans (congrArg some (by kernel_rfl))
 f299:=Tryz.func182.trans (congrArg some (by kernel_rfl))
 f300:=Tryz.func184.trans (congrArg some (by kernel_rfl))
 f301:=Tryz.func185.trans (congrArg some (by kernel_rfl))
 f328:=Tryz.func212.trans (congrArg some (by kernel_rfl))
 f329:=Tryz.func213.trans (congrArg some (by kernel_rfl))
 f330:=Tryz.func214.trans (congrArg some (by kernel_rfl))
 f331:=Tryz.func215.trans (congrArg some (by kernel_rfl))
 f332:=Tryz.func216.trans (congrArg some (by kernel_rfl))
 f343:=Tryz.func245.trans (congrArg some (by kernel_rfl))
 t0:=Tryz.underlying0
 a0:=Tryz.isAgg0
 z0:=Tryz.sizeOf0
 v0:=Tryz.zeroValue0
 t3:=Tryz.underlying3
 a3:=Tryz.isAgg3
 z3:=Tryz.sizeOf3
 v3:=Tryz.zeroValue3
 t4:=Tryz.underlying4
 a4:=Tryz.isAgg4
 z4:=Tryz.sizeOf4
 v4:=Tryz.zeroValue4
 t5:=Tryz.underlying5
 a5:=Tryz.isAgg5
 z5:=Tryz.sizeOf5
 v5:=Tryz.zeroValue5
 t9:=Tryz.underlying9
 a9:=Tryz.isAgg9
 z9:=Tryz.sizeOf9
 v9:=Tryz.zeroValue9
 t28:=Tryz.underlying27
 a28:=Tryz.isAgg27
 z28:=Tryz.sizeOf27
 v28:=Tryz.zeroValue27
 t46:=Tryz.underlying152
 a46:=Tryz.isAgg152
 z46:=Tryz.sizeOf152
 v46:=Tryz.zeroValue152
 t51:=Tryz.underlying183
 a51:=Tryz.isAgg183
 z51:=Tryz.sizeOf183
 v51:=Tryz.zeroValue183
 t53:=Tryz.underlying185
 a53:=Tryz.isAgg185
 z53:=Tryz.sizeOf185
 v53:=Tryz.zeroValue185
 t131:=Tryz.underlying102
 a131:=Tryz.isAgg102
 z131:=Tryz.sizeOf102
 v131:=Tryz.zeroValue102
 t182:=Tryz.underlying175
 a182:=Tryz.isAgg175
 z182:=Tryz.sizeOf175
 v182:=Tryz.zeroValue175
 t183:=Tryz.underlying176
 a183:=Tryz.isAgg176
 z183:=Tryz.sizeOf176
 v183:=Tryz.zeroValue176
 t218:=Tryz.underlying207
 a218:=Tryz.isAgg207
 z218:=Tryz.sizeOf207
 v218:=Tryz.zeroValue207
 t222:=Tryz.underlying77
 a222:=Tryz.isAgg77
 z222:=Tryz.sizeOf77
 v222:=Tryz.zeroValue77
 t228:=Tryz.underlying228
 a228:=Tryz.isAgg228
 z228:=Tryz.sizeOf228
 v228:=Tryz.zeroValue228
 t229:=Tryz.underlying229
 a229:=Tryz.isAgg229
 z229:=Tryz.sizeOf229
 v229:=Tryz.zeroValue229 }
def Tryz.lays20_ren:Go.Shelf.Ren:=⟨fun|20=>108|n=>n,fun|22=>27|3=>3|4=>4|0=>0|n=>n,fun|n=>n⟩
theorem Tryz.lays20:Go.Proofs.Lays2.n20 Tryz.prog Tryz.lays20_ren:={
 mixed:=by kernel_rfl
 f20:=Tryz.func108.trans (congrArg some (by kernel_rfl))
 t0:=Tryz.underlying0
 a0:=Tryz.isAgg0
 z0:=Tryz.sizeOf0
 v0:=Tryz.zeroValue0
 t3:=Tryz.underlying3
 a3:=Tryz.isAgg3
 z3:=Tryz.sizeOf3
 v3:=Tryz.zeroValue3
 t4:=Tryz.underlying4
 a4:=Tryz.isAgg4
 z4:=Tryz.sizeOf4
 v4:=Tryz.zeroValue4
 t22:=Tryz.underlying27
 a22:=Tryz.isAgg27
 z22:=Tryz.sizeOf27
 v22:=Tryz.zeroValue27
 i3:=by kernel_rfl }
theorem Tryz.sort_int (blk off cap:Nat) (zs:List Int) (w:World) (hH:Go.Sort.Holds (Value.int .i64) w blk off zs.toArray) (hblk:blk<w.heap.size) (hsz:zs.length<4611686018427387904) :
  Calls Tryz.prog 107 #[.slice (some ⟨blk,off,none⟩) zs.length cap] w fun e w'=>
   e=.returned (.tuple #[])∧∃n os,w'=Go.Sort.grow (Go.Sort.putRow (Value.int .i64) (Go.Sort.ahead w n) blk off (zs.mergeSort fun x y=>decide (x≤y)).toArray) os:=Any.slices_Sort_int Tryz.lays189 blk off cap zs w hH hblk hsz
theorem Tryz.compact_int (blk off cap:Nat) (zs:List Int) (w:World) (hH:Go.Sort.Holds (Value.int .i64) w blk off zs.toArray) (hsz:zs.length≤9223372036854775807) (hcap:zs.length≤cap) :
  Calls Tryz.prog 108 #[.slice (some ⟨blk,off,none⟩) zs.length cap] w fun e w'=>e=.returned (.slice (some ⟨blk,off,none⟩) (Lib.compact zs).length cap)∧∃q,w'=Go.Sort.putRow (Value.int .i64) (Go.Sort.ahead w q) blk off (Lib.compact zs++List.replicate (zs.length-(Lib.compact zs).length) 0).toArray:=
 Any.slices_Compact_int Tryz.lays20 blk off cap zs w hH hsz hcap
end Go.Proofs
end
namespace Go.Abs
open Go.Proofs
theorem IY:∀{w:World} {G:ZV} (ys:LI),Yp w G (Z7 ys) (ys.map (fun z=>Value.int .i64 z))
 | _,_,[]=>.nil
 | _,_,_::r=>.cons .val (IY r)
theorem HV:∀{w:World} {G:ZV} {ys:LI} {vs:List Value},Yp w G (Z7 ys) vs->vs=ys.map (fun z=>Value.int .i64 z)
 | _,_,[],_,.nil=>rfl
 | _,_,_::r,_,.cons h t=>by rw [VQ,<-HV (ys:=r) t,h.val_inv]
theorem IU {w w':World} {G:ZV} {g cap q:Nat} {xs ys:LI} {zs:Array Int} {os:Array Obj} (hh:Ya w G [.vec (.slice (some ⟨g,0,none⟩) xs.length cap) (Z7 xs)])
  (he:w'=Sort.grow (Sort.putRow (Value.int .i64) (Sort.ahead w q) g 0 zs) os) (hz:zs.size=xs.length) (hy:ys.length<=xs.length) (hv:∀j,j<ys.length->zs[j]! = ys[j]!) :
  Ya w' G [.vec (.slice (some ⟨g,0,none⟩) ys.length cap) (Z7 ys)]/\YD w G [.vec (.slice (some ⟨g,0,none⟩) xs.length cap) (Z7 xs)] w' G [.vec (.slice (some ⟨g,0,none⟩) ys.length cap) (Z7 ys)]:=by
 have hmem:Res.vec (.slice (some ⟨g,0,none⟩) xs.length cap) (Z7 xs)∈[Res.vec (.slice (some ⟨g,0,none⟩) xs.length cap) (Z7 xs)]:=YL ..
 rcases hh.ok _ hmem with ⟨e,_⟩|⟨g',cap',cur,el,e,h1,h2,h3,h4⟩
 ·cases e
 ·have h2':xs.length<=cap:=by
   have:=e;simp only [Value.slice.injEq,Xz,Addr.mk.injEq] at this
   rw [Y2] at h2;omega
  have e':=e
  simp only [Value.slice.injEq,Xz,Addr.mk.injEq,and_true] at e'
  obtain ⟨rfl,hl,rfl⟩:=e'
  have hg:g<w.heap.size:=(V8.1 h1).1
  have hgs:(Sort.putRow (Value.int .i64) (Sort.ahead w q) g 0 zs).heap.size=w.heap.size:=by rw [Sort.size_putRow];rfl
  have hold:∀c,c<w.heap.size->w'.heap[c]? = (Sort.putRow (Value.int .i64) (Sort.ahead w q) g 0 zs).heap[c]?:=fun c hc=>by
   rw [he];exact Sort.heap_grow_old _ _ (by rw [hgs];exact hc)
  have hot:∀c,c<w.heap.size->c≠g->w'.heap[c]? = w.heap[c]?:=fun c hc hne=>by
   rw [hold c hc]
   simp only [Sort.putRow,Sort.mapBlock,Array.getElem?_modify,Zs (Ne.symm hne)]
   rfl
  have hat:w'.heap[g]? = some (.cells (Sort.putCells (Value.int .i64) 0 zs cur) el (0,0)):=by
   rw [hold g hg]
   simp only [Sort.putRow,Sort.mapBlock,Array.getElem?_modify,if_true]
   show Option.map _ w.heap[g]? = _
   rw [h1];rfl
  have hcs:(Sort.putCells (Value.int .i64) 0 zs cur).size=cur.size:=by simp [Sort.putCells]
  have htk:(Sort.putCells (Value.int .i64) 0 zs cur).toList.take ys.length=ys.map (fun z=>Value.int .i64 z):=by
   apply List.ext_getElem?
   intro j
   rw [UI,AR,Qo]
   split
   ·rename_i hj
    have hjc:j<cur.size:=by omega
    simp only [Sort.putCells,Array.getElem?_mapIdx,Array.getElem?_eq_getElem hjc,AW,Wc,Nat.sub_zero]
    rw [Zw ⟨T0 _,by omega⟩,hv j hj,TG hj,getElem!_pos ys j hj]
    rfl
   ·rename_i hj
    simp [BW (Nat.le_of_not_lt hj)]
  have hio:w'.os=w.os/\w'.tape=w.tape/\w'.output=w.output:=by subst he;exact ⟨rfl,rfl,rfl⟩
  have YW:w.heap.size<=w'.heap.size:=by rw [he,Sort.size_grow,hgs];omega
  refine ⟨⟨fun r hr=>?_,Jl _ _,fun r hr c j hf hg2=>?_,fun c j hg2=>?_⟩,
   ⟨hio.1,hio.2.1,hio.2.2,YW,fun _ _ h=>h,fun c hc=>?_,fun _ _ _ h=>.inl h,fun c j hc ⟨r,hr,hf⟩=>?_⟩⟩
  ·rw [Xk.1 hr]
   refine .inr ⟨g,cap,_,el,by rw [Y2],hat,by rw [Y2];omega,hcs.trans h3,?_⟩
   rw [Y2,htk]
   exact IY ys
  ·rw [Xk.1 hr] at hf
   exact hh.prot _ hmem c j hf hg2
  ·have:=hh.lt c j hg2;omega
  ·by_cases hcg:c=g
   ·subst hcg
    exact .inr ⟨cur,_,el,(0,0),h1,hat,hcs,fun o hn=>absurd ⟨_,hmem,rfl⟩ hn⟩
   ·exact .inl (hot c hc hcg)
  ·rw [Xk.1 hr] at hf
   exact ⟨_,hmem,hf⟩
theorem HK {w:World} {G:ZV} {g cap:Nat} {xs:LI} {r:List Res} (hh:Ya w G (.vec (.slice (some ⟨g,0,none⟩) xs.length cap) (Z7 xs)::r)) :
  Sort.Holds (Value.int .i64) w g 0 xs.toArray/\g<w.heap.size/\xs.length<=cap:=by
 rcases hh.ok _ (YL ..) with ⟨e,_⟩|⟨g',cap',cur,el,e,h1,h2,h3,h4⟩
 ·cases e
 ·simp only [Value.slice.injEq,Xz,Addr.mk.injEq,and_true] at e
  obtain ⟨rfl,hl,rfl⟩:=e
  rw [Y2] at h2 h4
  have hx:=HV h4
  refine ⟨fun j hj=>⟨?_,?_⟩,(V8.1 h1).1,h2⟩
  ·have hj':j<xs.length:=by simpa using hj
   rw [Wc,cell_of_row w _ j cur el (0,0) h1,<-AR]
   have h6:(cur.toList.take xs.length)[j]? = some (Value.int .i64 xs[j]):=by rw [hx,Qo,TG hj'];rfl
   rw [UI,Zw hj'] at h6
   rw [h6]
   simp [hj']
  ·exact frozen_of_row w _ _ cur el h1
theorem Z1o (g:Hd) (xs:LI) (hl:xs.length<=1000000000) (hne:xs≠[]):XN Tryz.prog 107 [.h g] [rV g xs] (fun r h=>h=[rV g (xs.mergeSort fun x y=>decide (x<=y))]):=by
 intro w G vs ha hh
 have hvs:vs=[g.v]:=by
  cases ha with
  | cons h1 t=>cases t;rw [h1.val_inv]
 subst hvs
 rcases hh.ok _ (YL ..) with ⟨e,h0⟩|⟨b,cap,cur,el,e,_⟩
 ·exact absurd (by cases xs with|nil=>rfl|cons _ _=>simp [Z7] at h0) hne
 ·rw [Y2] at e
  obtain ⟨ga,gl,gc⟩:=g
  simp only [Hd.v,Value.slice.injEq] at e
  obtain ⟨rfl,rfl,rfl⟩:=e
  obtain ⟨k1,k2,k3⟩:=HK hh
  refine (Tryz.sort_int b 0 gc xs w k1 k2 om).mono ?_
  rintro e w' ⟨rfl,q,os,he⟩
  have hlen:(xs.mergeSort fun x y=>decide (x<=y)).length=xs.length:=List.length_mergeSort _
  obtain ⟨m1,m2⟩:=IU (ys:=xs.mergeSort fun x y=>decide (x<=y)) hh he (by simp) om (fun j hj=>by simp [hj])
  rw [hlen] at m1 m2
  exact ⟨_,.tup [],_,G,rfl,rfl,.tup .nil,m1,m2⟩
theorem NM (g:Hd) (xs:LI) (hl:xs.length<=1000000000) (hne:xs≠[]):XN Tryz.prog 108 [.h g] [rV g xs] (fun r h=>∃u:Hd,r=.h u/\h=[rV u (Lib.compact xs)]):=by
 intro w G vs ha hh
 have hvs:vs=[g.v]:=by
  cases ha with
  | cons h1 t=>cases t;rw [h1.val_inv]
 subst hvs
 rcases hh.ok _ (YL ..) with ⟨e,h0⟩|⟨b,cap,cur,el,e,_⟩
 ·exact absurd (by cases xs with|nil=>rfl|cons _ _=>simp [Z7] at h0) hne
 ·rw [Y2] at e
  obtain ⟨ga,gl,gc⟩:=g
  simp only [Hd.v,Value.slice.injEq] at e
  obtain ⟨rfl,rfl,rfl⟩:=e
  obtain ⟨k1,k2,k3⟩:=HK hh
  refine (Tryz.compact_int b 0 gc xs w k1 om k3).mono ?_
  rintro e w' ⟨rfl,q,he⟩
  have hlen:(Lib.compact xs).length<=xs.length:=by
   have:=List.length_filter_le (Lib.keeps xs.toArray) (List.range xs.length)
   simpa [Lib.compact,Lib.compactUpTo] using this
  obtain ⟨m1,m2⟩:=IU (ys:=Lib.compact xs) (os:=#[]) hh (he.trans (Sort.grow_empty _).symm) (by simp;omega) hlen (fun j hj=>by
   rw [getElem!_pos _ j (by simp;omega),getElem!_pos _ j hj]
   simp [List.getElem_append,hj])
  exact ⟨_,_,_,G,rfl,⟨⟨some ⟨b,0,none⟩,(Lib.compact xs).length,gc⟩,rfl,rfl⟩,.val,m1,m2⟩
def Ax (g l c m kk:Nat):Value:=.slice (some ⟨g,(if c-m=0 then 0 else m*kk),none⟩) (l-m) (c-m)
def Fy (P:Program) (ops:Array Oper) (F:Fr) (k:Nat):Option (AV × Int × Nat):=
 match (Zx ops k).op with
 | .slice t x (some lo) none none=>match P.underlying t with
  | some (.slice e)=>match P.info? e with
   | some i=>match F.ev lo with
    | .val (.int _ m)=>some (F.ev x,m,i.size)
    | _=>none
   | none=>none
  | _=>none
 | _=>none
section
variable {P:Program} {n:Nat} {ops:Array Oper} {k:Nat} {F:Fr} {h h2:List Res}
theorem Z2y (j:Nat) {g l c m kk:Nat} {ls:List AV} (hi:Fy P ops F k=some (.val (.slice (some ⟨g,0,none⟩) l c),(m:Int),kk)) (hj:h[j]? = some (.row (.slice (some ⟨g,0,none⟩) l c) kk ls)) (hle:m<=l) :
  Xy P (Zx ops k) F h [] (.val (Ax g l c m kk)):=by
 unfold Fy at hi
 generalize hoo:Zx ops k=o at hi
 obtain ⟨dst,op,type,pos,after,guard⟩:=o
 cases op<;>simp only at hi<;>try (cases hi)
 rename_i t x lo hi' mx
 cases lo with
 | none=>simp at hi
 | some y=>
  cases hi' with
  | some _=>simp at hi
  | none=>
   cases mx with
   | some _=>simp at hi
   | none=>
    simp only at hi
    split at hi
    ·rename_i e ht
     split at hi
     ·rename_i inf hinf
      split at hi
      ·rename_i ik m' hm
       simp only [Xz,Prod.mk.injEq] at hi
       obtain ⟨hx,rfl,hkk⟩:=hi
       intro n w G a hF hh
       have v1:=hF.ev x
       rw [hx] at v1
       have v1:=v1.val_inv
       have v2:=hF.ev y
       rw [hm] at v2
       have v2:=v2.val_inv
       have hcap:l<=c:=by
        rcases hh.ok _ (ZU hj) with ⟨h0,_⟩|⟨g',l',c',cur,el,h0,_,hc,_⟩
        ·cases h0
        ·cases h0;exact hc
       refine ⟨_,.val,fun w' _ _=>?_⟩
       simp only [execOp,v1,v2,AW,Option.map_none]
       refine WF ?_
       simp only [Instr.sliceAt,Sem.run_bind,Vl ht,Result.andThen_ok,Instr.slice]
       have hmm:(Instr.sliceBounds true l c (some (.int ik (m:Int))) none none).run P w'=.ok (m,l,c) w':=by
        have YT:=AH (P:=P) (c:=BoundsCode.sliceB) (v:=.int ik (m:Int)) (y:=l) rfl om om w'
        simp [Instr.sliceBounds,YT]
       rw [hmm]
       simp only [Result.andThen_ok,UT hinf,Ax,hkk]
       by_cases h0:c-m=0
       ·have e0:c=m:=by omega
        simp [e0]
       ·have e0:¬c=m:=fun z=>h0 om
        simp [e0,h0,Addr.add]
        exact fun z=>z.symm
      ·cases hi
     ·cases hi
    ·cases hi
theorem HY (j g l c m kk:Nat) (ls:List AV) (hle:m<=l:=by omega) (hi:Fy P ops F k=some (.val (.slice (some ⟨g,0,none⟩) l c),(m:Int),kk):=by kernel_rfl) (hj:h[j]? = some (.row (.slice (some ⟨g,0,none⟩) l c) kk ls):=by kernel_rfl) :
  Xy P (Zx ops k) F h [] (.val (Ax g l c m kk)):=Z2y j hi hj hle
theorem SZ {K:Fr->List Res->Prop} {g len cap i m sz:Nat} {ls:List AV} (hd:WD n (Zx ops k)=true) (ha:Vf P ops F k=some (.val (.slice (some ⟨g,0,none⟩) i cap),.val (Ax g len cap m sz),sz))
  (hone:ls.all AV.one=true) (him:i<=m) (hml:m<=len)
  (hK:K (F.put (Zx ops k).dst (.val (.slice (some ⟨g,0,none⟩) (i+(len-m)) cap))) (.row (.slice (some ⟨g,0,none⟩) (i+(len-m)) cap) sz (ls.take (i*sz)++ls.drop (m*sz))::h2)):XW P n (Zx ops k) F (.row (.slice (some ⟨g,0,none⟩) len cap) sz ls::h2) K:=by
 unfold Vf at ha
 generalize hoo:Zx ops k=o at ha hd hK
 obtain ⟨dst,op,type,pos,after,guard⟩:=o
 cases op<;>simp only at ha<;>try (cases ha)
 rename_i c
 obtain ⟨callee,args,tys⟩:=c
 simp only at ha
 split at ha
 case h_2=>cases ha
 rename_i s x t t' hargs htys
 split at ha
 case h_2=>cases ha
 rename_i e htt ht
 have:=VA htt
 subst this
 split at ha
 case h_2=>cases ha
 rename_i inf hinfo
 split at ha
 case h_2=>cases ha
 rename_i z hz
 split at ha
 case h_2=>cases ha
 rename_i hb
 simp only [W4] at hb
 simp only [Xz,Prod.mk.injEq] at ha
 obtain ⟨h3,h4,hk1⟩:=ha
 have e1:args=#[s,x]:=by rw [<-VP (xs:=args),hargs]
 have e2:tys=#[t,t]:=by rw [<-VP (xs:=tys),htys]
 subst e1;subst e2
 intro Q w G a hF hh
 have v1:=hF.ev s
 have v2:=hF.ev x
 rw [h3] at v1
 rw [h4] at v2
 have v1:=v1.val_inv
 have v2:=v2.val_inv
 rcases hh.ok _ (YL ..) with ⟨h0,_⟩|⟨g',len',cap',cur,el,h0,hrow,hlc,hcur,hll,hcells⟩
 ·cases h0
 ·cases h0
  have q5:len*sz<=cap*sz:=UZ _ hlc
  have q6:m*sz<=len*sz:=UZ _ hml
  have q7:i*sz<=m*sz:=UZ _ him
  have q8:(len-m)*sz=len*sz-m*sz:=Nat.sub_mul ..
  have q9:(i+(len-m))*sz=i*sz+(len-m)*sz:=UJ ..
  have hcl:cur.toList.length=cap*sz:=by rw [Q6,hcur]
  have h1:(cur.toList.take (len*sz)).length=len*sz:=by rw [W8,hcl,WS q5]
  have hnl:((cur.toList.take (len*sz)).drop (m*sz)).length=(len-m)*sz:=by rw [KA,h1];omega
  have hr:=Dc (P:=P) w t type e el inf ht hinfo g i cap cur hrow ⟨g,(if cap-m=0 then 0 else m*sz),none⟩ (len-m) (cap-m) ((cur.toList.take (len*sz)).drop (m*sz)) (by rw [hk1];exact hnl)
   (fun j u hj=>by
    have hjl:=(Xj.1 hj).1
    rw [hnl] at hjl
    have hne:¬cap-m=0:=fun z=>by
     have:len-m=0:=by omega
     rw [this] at hjl;omega
    rw [Zs hne,TK,cell_of_row w g _ cur el (0,0) hrow]
    rw [DD,UI] at hj
    split at hj
    ·simpa using hj
    ·cases hj)
   (fun u hu=>hcells.one_cells hone u (List.mem_of_mem_drop hu)) om (by rw [hk1,hnl,hcur];omega)
  rw [hk1] at hr
  have hti:(cur.toList.take (i*sz)).length=i*sz:=by rw [W8,hcl,WS om]
  obtain ⟨j1,j2⟩:=hh.rgrow (ls':=ls.take (i*sz)++ls.drop (m*sz)) (len':=i+(len-m)) (cs':=(cur.toList.take (i*sz)++(cur.toList.take (len*sz)).drop (m*sz)++cur.toList.drop (i*sz+((cur.toList.take (len*sz)).drop (m*sz)).length)).toArray) hrow
   (by simp only [AT,Yb,hti,hnl,KA,hcl,hcur];omega) om hcur (by rw [Yb,W8,KA,hll,q9,WS om];omega) (by
    have:(cur.toList.take (i*sz)++(cur.toList.take (len*sz)).drop (m*sz)++cur.toList.drop (i*sz+((cur.toList.take (len*sz)).drop (m*sz)).length)).toArray.toList.take ((i+(len-m))*sz)=cur.toList.take (i*sz)++(cur.toList.take (len*sz)).drop (m*sz):=by
     rw [AU,q9,<-hnl]
     conv=>lhs;arg 1;rw [show i*sz+((cur.toList.take (len*sz)).drop (m*sz)).length=(cur.toList.take (i*sz)++(cur.toList.take (len*sz)).drop (m*sz)).length from by rw [Yb,hti]]
     exact QV
    rw [this]
    have ht1:=hcells.take (i*sz)
    rw [List.take_take,WS om] at ht1
    exact ht1.append (hcells.drop (m*sz)))
  generalize hW:w.setRow g (cur.toList.take (i*sz)++(cur.toList.take (len*sz)).drop (m*sz)++cur.toList.drop (i*sz+((cur.toList.take (len*sz)).drop (m*sz)).length)).toArray=W at hr j1 j2
  have hrun:(execOp a.eval { dst:=dst,op:=.call { callee:=.builtin .append,args:=#[s,x],argTypes:=#[t,t] },type:=type,pos:=pos,after:=after,guard:=guard }).run P w=.ok (.value (.slice (some ⟨g,0,none⟩) (i+(len-m)) cap)) W:=by
   simp only [execOp,resolve,invoke,builtin,Sem.run_bind,Sem.run_pure,Result.andThen_ok,C0,VQ,BZ,v1,v2,Ax]
   rw [hr]
   rfl
  unfold Oper.wp
  rw [hrun]
  exact ⟨_,_,G,hK,(hF.mono (j2.agree hh)).put (Ud hd) .val,j1,j2⟩
end
section
variable {P:Program} {n:Nat} {ops:Array Oper} {B:Fr->List Res->Prop} {T:List (Nat × List Nat)} {fuel:Nat} {done:List Nat} {k:Nat} {F:Fr} {h:List Res}
theorem GK (q j:Nat) (js bs:List Nat) (g len cap i m sz:Nat) (ls:List AV) (hone:ls.all AV.one=true)
  (H:Yz P n ops B (T.filter fun t=>!Wa ops q t.1) fuel (done++[q]) (F.put (Zx ops q).dst (.val (.slice (some ⟨g,0,none⟩) (i+(len-m)) cap))) (.row (.slice (some ⟨g,0,none⟩) (i+(len-m)) cap) sz (ls.take (i*sz)++ls.drop (m*sz))::X7 [j] h)) (him:i<=m:=by omega) (hml:m<=len:=by omega)
  (hk:YK n ops F q=true:=by kernel_rfl) (ha:Vf P ops F q=some (.val (.slice (some ⟨g,0,none⟩) i cap),.val (Ax g len cap m sz),sz):=by kernel_rfl) (hp:XE [j] h=some [.row (.slice (some ⟨g,0,none⟩) len cap) sz ls]:=by kernel_rfl) (ho:WX ops q T=bs:=by kernel_rfl)
  (hj:js.map (fun z=>(XT (X7 [j] h))[z]?)=bs.map some:=by kernel_rfl):Wu P n ops B T fuel done F h q:=
 TQ [j] js bs hk (Wr hp) ho hj (SZ (h2:=[]) (V3 hk).2.1 ha hone him hml H)
end
theorem Ox (xs:List Y1) (k:Nat) (d:Y1):Yn (xs.set k d)=(Yn xs).set k (To d):=by simp [Yn,List.map_set]
theorem Cr (xs:List Y1):(Zc (Yn xs)).length=xs.length*5:=by rw [U5 (k:=5) _ (Vt xs)];simp
theorem OS {ds:List Y1} {k:Nat} (d:Y1) (hk:k<ds.length):(Zc (Yn ds)).take (k*5)++(To d).leaves++(Zc (Yn ds)).drop (k*5+5)=Zc (Yn (ds.set k d)):=by
 rw [Ox];exact Cu (y:=To d) (Vt ds) rfl (by simpa using hk)
theorem Om (xs:List Z4) (k:Nat) (d:Z4):Yh (xs.set k d)=(Yh xs).set k (ZC d):=by
 simp [VD,List.map_set]
theorem Bf (xs:List Z4):(Zc (Yh xs)).length=xs.length*2:=by rw [U5 (k:=2) _ (Ue xs)];simp
theorem OP {ds:List Z4} {k:Nat} (d:Z4) (hk:k<ds.length):(Zc (Yh ds)).take (k*2)++(ZC d).leaves++(Zc (Yh ds)).drop (k*2+2)=Zc (Yh (ds.set k d)):=by
 rw [Om];exact Cu (y:=ZC d) (Ue ds) (by cases d;rfl) (by simpa using hk)
theorem XN.frzN {P:Program} {f:FuncId} {as1:List AV} {h0:List Res} {ds:List Zd} {rs:List Y1} {hs:List Res}
  (H:XN P f as1 h0 (fun r h=>∃g c:Nat,r=.agg [YB ds,.ms g 0 rs.length c]/\h=.row (.slice (some ⟨g,0,none⟩) rs.length c) 5 (Zc (Yn rs))::hs)) :
  XN P f as1 h0 (fun r h=>r=.agg [YB ds,Ty rs]/\h=hs):=by
 intro w G vs hv hh
 refine (H w G vs hv hh).mono ?_
 rintro e w' ⟨u,r,h',G',he,⟨gb,c,rfl,rfl⟩,hr,hh',hx⟩
 obtain ⟨G2,h1,h2,h3⟩:=AF hh' (Vt _) om
 have hA:WI G' w' w' G2:=h2.agree hh'
 refine ⟨u,_,hs,G2,he,⟨rfl,rfl⟩,?_,(h1.perm (List.perm_append_comm (l₁:=[_]))).left,(hx.trans h2).sub' (Jm _ _)⟩
 cases hr with
 | agg hc=>
  cases hc with
  | cons k1 t1=>
   cases t1 with
   | cons k2 t2=>
    cases t2
    have hv2:=k2.val_inv
    subst hv2
    refine .agg (.cons (k1.mono hA) (.cons ?_ .nil))
    have hw:Zf (.sl (Yn rs) (some (.slice (some ⟨gb,0,none⟩) rs.length c))) (Ty rs):=Zf.forget _ _
    exact hw _ _ _ h3
theorem OY (v:Value) (k:Nat) (ls ks:List AV) (b o:Nat):Res.fp (.row v k ks) b o=Res.fp (.vec v ls) b o:=by
 cases v with
 | slice a _ _=>cases a<;>rfl
 | _=>rfl
theorem Z42 {w:World} {G:ZV} {v:Value} {ls:List AV} {h2:List Res} (hh:Ya w G (.vec v ls::h2)):Ya w G (.row v 1 ls::h2)/\YD w G (.vec v ls::h2) w G (.row v 1 ls::h2):=by
 have hpw:=XV.1 hh.apart
 have hf:∀b o,Res.fp (.row v 1 ls) b o->Res.fp (.vec v ls) b o:=fun b o h=>by rw [OY v 1 ls ls] at h;exact h
 refine ⟨⟨fun r hr=>?_,XV.2 ⟨fun r hr b o f1 f2=>hpw.1 r hr b o (hf b o f1) f2,hpw.2⟩,fun r hr b o f1 hg=>?_,hh.lt⟩,⟨rfl,rfl,rfl,YI _,fun _ _ h=>h,fun _ _=>.inl rfl,fun _ _ _ h=>.inl h,fun b o _ ⟨r,hr,f1⟩=>?_⟩⟩
 ·rcases Yj.1 hr with rfl|hr
  ·rcases hh.ok _ (YL ..) with h0|⟨g,cap,cur,e,h0,h1,h3,h4,h5⟩
   ·exact .inl h0
   ·exact .inr ⟨g,ls.length,cap,cur,e,h0,h1,h3,by rw [h4,KE],by rw [KE],by rw [KE];exact h5⟩
  ·exact hh.ok r (X8 _ hr)
 ·rcases Yj.1 hr with rfl|hr
  ·exact hh.prot _ (YL ..) b o (hf b o f1) hg
  ·exact hh.prot r (X8 _ hr) b o f1 hg
 ·rcases Yj.1 hr with rfl|hr
  ·exact ⟨_,YL ..,hf b o f1⟩
  ·exact ⟨r,X8 _ hr,f1⟩
theorem Hg:∀xs:LI,Zc (Z7 xs)=Z7 xs
 | []=>rfl
 | x::r=>Yg (AV.i x::·) (Hg r)
section
variable {h:List Res}
theorem QR (j:Nat) (v:Hd) (xs:LI) (hp:XE [j] h=some [rV v xs]:=by kernel_rfl):Us h (.row v.v 1 (Zc (Z7 xs))::X7 [j] h):=by
 have e:Zc (Z7 xs)=Z7 xs:=Hg xs
 rw [e]
 intro w G hh
 have hp':=V5 (Wr hp)
 obtain ⟨a,b⟩:=Z42 (hh.perm hp')
 exact ⟨G,a,b.perm hp'.symm (UH _)⟩
end
def Ks (bs:LI) (p:Nat) (mx:Int):Int:=
 if mx<1∨bs.length=0 then 0 else if p<bs.length then (bs[p]?).getD 0 % mx else
  Kz ((((bs[p % bs.length]?).getD 0*131+(bs[(p*7+3) % bs.length]?).getD 0*1117)+((p*29:Nat):Int))+(((p / bs.length:Nat):Int)*53))
   (((((bs[p % bs.length]?).getD 0*131+(bs[(p*7+3) % bs.length]?).getD 0*1117)+((p*29:Nat):Int))+(((p / bs.length:Nat):Int)*53)) / 64) % mx
theorem Z0b {bs:LI} {p:Nat} {mx:Int} (h:0<mx):0<=Ks bs p mx/\Ks bs p mx<mx:=by
 rw [Ks]
 split
 ·omega
 ·split
  ·exact ⟨Int.emod_nonneg _ om,Int.emod_lt_of_pos _ h⟩
  ·exact ⟨Int.emod_nonneg _ om,Int.emod_lt_of_pos _ h⟩
theorem OO {xs:List Z4} {k:Nat} {b:Z4} (h:xs[k]? = some b):Zc (Yh (xs.take k))++Zc [ZC b]=Zc (Yh (xs.take (k+1))):=by
 rw [Ve h,K9,UL]
 congr 1
 rw [VD];rfl
def Bu (s:Z3) (u:Value):List AV:=[.i s.op,.i s.num,.i s.into,Z5 s.args,.val u]
def Bg (b:Z4) (k:Nat):Z3:=(b.steps[k]?).getD (Zl 0 0)
theorem Cv {b:Z4} {k:Nat} {s:Z3} (h:b.steps[k]? = some s):Bg b k=s:=by rw [Bg,h];rfl
def W2 (b:Z4) (kk:Nat) (u:Value) (k:Nat):List AV:=if k<=kk then Zc (Zk (b.steps.take k)) else Zc (Zk (b.steps.take kk))++(Bu (Bg b kk) u++Zc (Zk ((b.steps.take k).drop (kk+1))))
def VJ (b:Z4) (kk k:Nat):List AV:=if k<=kk then [] else Zc (Yh (Bg b kk).kids)
theorem I2 {b:Z4} {kk:Nat} {u:Value}:W2 b kk u 0=[]:=by rw [W2,Zw (T0 _),List.take_zero,Wx];rfl
theorem I5 {b:Z4} {kk:Nat}:VJ b kk 0=[]:=Zw (T0 _)
theorem EX {b:Z4} {kk k:Nat} {u:Value} (h:k<=b.steps.length):(W2 b kk u k).length=k*5:=by
 rw [W2]
 split
 ·rw [T6,W8,WS h]
 ·rename_i q
  have e:(Bu (Bg b kk) u).length=5:=rfl
  rw [Yb,Yb,T6,T6,KA,W8,W8,e,WS h,WS om]
  omega
theorem I0 {b:Z4} {kk k:Nat} {u:Value} {s:Z3} (hs:b.steps[k]? = some s) (hk:¬k=kk):W2 b kk u k++Zc [Yk s]=W2 b kk u (k+1):=by
 have hkl:=(Xj.1 hs).1
 by_cases q:k<=kk
 ·rw [W2,Zw q,W2,Zw om]
  exact He hs
 ·rw [W2,Zs q,W2,Zs om,U9,U9]
  congr 2
  rw [Ve hs,List.drop_append_of_le_length (by rw [W8];omega),W0,UL]
  congr 1
  rw [Wx];rfl
theorem I3 {b:Z4} {kk k:Nat} (hk:¬k=kk):VJ b kk k=VJ b kk (k+1):=by
 by_cases q:k<=kk
 ·rw [VJ,Zw q,VJ,Zw om]
 ·rw [VJ,Zs q,VJ,Zs om]
theorem I1 {b:Z4} {kk:Nat} {u u2:Value} {s:Z3} (hs:b.steps[kk]? = some s):W2 b kk u kk++Bu s u2=W2 b kk u2 (kk+1):=by
 rw [W2,Zw (YI _),W2,Zs om,Cv hs,DB (by rw [W8];omega),Wx]
 show _=_++(Bu s u2++Zc [])
 rw [OV,Tk]
theorem I4 {b:Z4} {kk:Nat} {s:Z3} (hs:b.steps[kk]? = some s):Zc (Yh s.kids)=VJ b kk (kk+1):=by
 rw [VJ,Zs om,Cv hs]
theorem Lu {α:Type}:∀(A X:List α) (m:Nat) (y:α),(A++X).set (A.length+m) y=A++X.set m y
 | [],X,m,y=>by simp
 | a::r,X,m,y=>by
  have:=Lu r X m y
  rw [Qn,Yw,show r.length+1+m=(r.length+m)+1 by omega,List.set_cons_succ,this,Qn]
theorem Rc {α:Type} (A X:List α) (m:Nat):(A++X)[A.length+m]? = X[m]?:=by
 rw [DC om];congr 1;omega
section
variable {b:Z4} {kk:Nat} {u:Value} {s:Z3}
theorem EW (hs:b.steps[kk]? = some s):W2 b kk u b.steps.length=Zc (Zk (b.steps.take kk))++(Bu s u++Zc (Zk (b.steps.drop (kk+1)))):=by
 have hk:=(Xj.1 hs).1
 rw [W2,Zs om,Cv hs,V9]
theorem EV (hs:b.steps[kk]? = some s):(Zc (Zk (b.steps.take kk))).length=kk*5:=by
 have hk:=(Xj.1 hs).1
 rw [T6,W8,WS om]
theorem S1 (hs:b.steps[kk]? = some s):(W2 b kk u b.steps.length)[kk*5+4]? = some (.val u):=by
 rw [EW hs,<-EV hs,Rc];rfl
theorem CN (hs:b.steps[kk]? = some s):((W2 b kk u b.steps.length).drop (kk*5+4)).take 1=[.val u]:=by
 rw [EW hs,<-EV hs,<-List.drop_drop,List.drop_left];rfl
theorem OU {xs:List Z3} {k:Nat} {t:Z3} (hk:k<xs.length):Zc (Zk (xs.set k t))=Zc (Zk (xs.take k))++(X6 t++Zc (Zk (xs.drop (k+1)))):=by
 rw [C1,Zw hk,W0,UL,Cs]
theorem S2 (hs:b.steps[kk]? = some s) (ks:List Z4):(W2 b kk u b.steps.length).set (kk*5+4) (.sl (Yh ks) none)=Zc (Zk (b.steps.set kk ⟨s.op,s.num,s.into,s.args,ks⟩)):=by
 have hk:=(Xj.1 hs).1
 rw [EW hs,<-EV hs,Lu,OU hk];rfl
theorem EY (hs:b.steps[kk]? = some s):VJ b kk b.steps.length=Zc (Yh s.kids):=by
 have hk:=(Xj.1 hs).1
 rw [VJ,Zs om,Cv hs]
theorem S3 (hs:b.steps[kk]? = some s):b.steps.set kk ⟨s.op,s.num,s.into,s.args,s.kids⟩=b.steps:=by
 have e:Z3.mk s.op s.num s.into s.args s.kids=s:=by cases s;rfl
 rw [e]
 apply List.ext_getElem?
 intro i
 rw [List.getElem?_set]
 split
 ·rename_i q;subst q;rw [Zw (Xj.1 hs).1];exact hs.symm
 ·rfl
end
theorem WJ.set:∀(ls:List AV) (p:Nat) {x y:AV},Zf x y->WJ (ls.set p x) (ls.set p y)
 | [],_,_,_,_=>.nil
 | a::r,0,_,_,h=>.cons h (WJ.refl r)
 | a::r,p+1,_,_,h=>.cons (Zf.refl a) (WJ.set r p h)
theorem WJ.len:∀{xs ys:List AV},WJ xs ys->ys.length=xs.length
 | _,_,.nil=>rfl
 | _,_,.cons _ t=>by rw [Yw,Yw,t.len]
theorem OX (v:Value) (k:Nat) (ls ks:List AV):Res.fp (.row v k ks)=Res.fp (.row v k ls):=by
 cases v with
 | slice a _ _=>cases a<;>rfl
 | _=>rfl
theorem Z0t {w:World} {G:ZV} {v:Value} {k:Nat} {ls ls':List AV} {h2:List Res} (hle:WJ ls ls') (hh:Ya w G (.row v k ls::h2)):Ya w G (.row v k ls'::h2)/\YD w G (.row v k ls::h2) w G (.row v k ls'::h2):=by
 have hpw:=XV.1 hh.apart
 have hf:∀b o,Res.fp (.row v k ls') b o->Res.fp (.row v k ls) b o:=fun b o h=>by rw [OX v k ls ls'] at h;exact h
 refine ⟨⟨fun r hr=>?_,XV.2 ⟨fun r hr b o f1 f2=>hpw.1 r hr b o (hf b o f1) f2,hpw.2⟩,fun r hr b o f1 hg=>?_,hh.lt⟩,⟨rfl,rfl,rfl,YI _,fun _ _ h=>h,fun _ _=>.inl rfl,fun _ _ _ h=>.inl h,fun b o _ ⟨r,hr,f1⟩=>?_⟩⟩
 ·rcases Yj.1 hr with rfl|hr
  ·rcases hh.ok _ (YL ..) with ⟨h0,h1⟩|⟨g,len,cap,cur,e,h0,h1,h3,h4,h5,h6⟩
   ·subst h1;cases hle;exact .inl ⟨h0,rfl⟩
   ·exact .inr ⟨g,len,cap,cur,e,h0,h1,h3,h4,by rw [hle.len];exact h5,hle.cs h6⟩
  ·exact hh.ok r (X8 _ hr)
 ·rcases Yj.1 hr with rfl|hr
  ·exact hh.prot _ (YL ..) b o (hf b o f1) hg
  ·exact hh.prot r (X8 _ hr) b o f1 hg
 ·rcases Yj.1 hr with rfl|hr
  ·exact ⟨_,YL ..,hf b o f1⟩
  ·exact ⟨r,X8 _ hr,f1⟩
section
variable {h:List Res}
theorem Ma (j i:Nat) (b:Z4) (kk:Nat) (s:Z3) (ks:List Z4) (u v:Value) (hs:b.steps[kk]? = some s) (hp:XE [j,i] h=some [.row u 2 (Zc (Yh ks)),.row v 5 (W2 b kk u b.steps.length)]:=by kernel_rfl) :
  Us h (.row v 5 (Zc (Zk (b.steps.set kk ⟨s.op,s.num,s.into,s.args,ks⟩)))::.tail u 2::X7 [j,i] h):=by
 intro w G hh
 obtain ⟨G',a1,a2⟩:=Z3b j i (kk*5+4) hp (Ue ks) om (S1 hs) w G hh
 obtain ⟨b1,b2⟩:=Z0t (WJ.set _ (kk*5+4) (Zf.forget (Yh ks) (some u))) a1
 rw [S2 hs] at b1 b2
 exact ⟨G',b1,a2.trans b2⟩
theorem FM (j i:Nat) (b:Z4) (kk:Nat) (s:Z3) (u v:Value) (hs:b.steps[kk]? = some s) (hp:XE [j,i] h=some [.row u 2 (VJ b kk b.steps.length),.row v 5 (W2 b kk u b.steps.length)]:=by kernel_rfl) :
  Us h (.row v 5 (Zc (Zk b.steps))::.tail u 2::X7 [j,i] h):=by
 have Y6:XE [j,i] h=some [.row u 2 (Zc (Yh s.kids)),.row v 5 (W2 b kk u b.steps.length)]:=by rw [hp,EY hs]
 have:=Ma j i b kk s s.kids u v hs Y6
 rwa [S3 hs] at this
end
theorem Hc {xs:List Z3} {k:Nat} (hk:k<xs.length):(Zc (Zk xs)).take (k*5)++(Zc (Zk xs)).drop ((k+1)*5)=Zc (Zk (xs.take k++xs.drop (k+1))):=by
 have h1:(Zc (Zk (xs.take k))).length=k*5:=by rw [T6,W8,WS om]
 have h2:(Zc (Zk (xs.take (k+1)))).length=(k+1)*5:=by rw [T6,W8,WS om]
 have e1:Zc (Zk xs)=Zc (Zk (xs.take k))++Zc (Zk (xs.drop k)):=by rw [<-UL,<-W0,U1]
 have e2:Zc (Zk xs)=Zc (Zk (xs.take (k+1)))++Zc (Zk (xs.drop (k+1))):=by rw [<-UL,<-W0,U1]
 rw [W0,UL]
 congr 1
 ·rw [e1,<-h1,QV]
 ·conv=>lhs;rw [e2,<-h2,List.drop_left]
theorem ON {xs:List Z4} {i:Nat} {s:Z4} (h:xs[i]? = some s):((Zc (Yh xs)).drop (i*2)).take 2=YE s:=by
 have hi:=(Xj.1 h).1
 have h1:(Zc (Yh (xs.take i))).length=i*2:=by rw [Bf,W8,WS om]
 have e1:Zc (Yh xs)=Zc (Yh (xs.take i))++Zc (Yh (xs.drop i)):=by rw [<-UL,<-K9,U1]
 rw [e1,<-h1,List.drop_left,Ye h,VD,VQ]
 rfl
section
variable {rs:List Y1} {k:Nat} {r:Y1}
theorem Ew (hk:k<rs.length) (r:Y1):Zc (Yn (rs.set k r))=Zc (Yn (rs.take k))++((To r).leaves++Zc (Yn (rs.drop (k+1)))):=by
 rw [C1,Zw hk,JB,UL];rfl
theorem Hb (hk:k<rs.length):(Zc (Yn (rs.take k))).length=k*5:=by rw [Cr,W8,WS om]
theorem OR (hk:k<rs.length) (r:Y1):((Zc (Yn (rs.set k r))).drop (k*5+1)).take 1=[Z5 r.lent]:=by
 rw [Ew hk,<-Hb hk,<-List.drop_drop,List.drop_left];rfl
theorem OT (hk:k<rs.length) (r:Y1) (l:LI):(Zc (Yn (rs.set k r))).take (k*5+1)++[Z5 l]++(Zc (Yn (rs.set k r))).drop (k*5+1+1)=Zc (Yn (rs.set k ⟨r.params,l,r.result,r.body⟩)):=by
 have hl:=Hb hk
 rw [Ew hk,Ew hk]
 have e:(To r).leaves=[Z5 r.params]++([Z5 r.lent]++[.i r.result,.sl (Zk r.body.steps) none,.i r.body.result]):=rfl
 have e2:(To ⟨r.params,l,r.result,r.body⟩).leaves=[Z5 r.params]++([Z5 l]++[.i r.result,.sl (Zk r.body.steps) none,.i r.body.result]):=rfl
 rw [e,e2]
 have q:=Fo (A:=Zc (Yn (rs.take k))++[Z5 r.params]) (xs:=[Z5 r.lent]) (ys:=[Z5 l]) (B:=[.i r.result,.sl (Zk r.body.steps) none,.i r.body.result]++Zc (Yn (rs.drop (k+1)))) (o:=k*5+1) (by rw [Yb,hl];rfl) rfl
 simpa [U9] using q
end
end Go.Abs
section
namespace Go.Abs
theorem Vi {rs fs:List Func} (hp:fs <+: rs) {i:Nat} {f:Func} (hx:fs[i]? = some f) (c:Nat) {zs:List AV} (hz:((CO f).drop c).take zs.length=zs) (hl:c+zs.length<=5):((Zc (YS rs)).drop (i*5+c)).take zs.length=zs:=by
 obtain ⟨ys,rfl⟩:=hp
 have h1:(fs++ys)[i]? = some f:=by rw [BV (Xj.1 hx).1];exact hx
 have e1:=(U1 i (fs++ys)).symm
 rw [Ye h1] at e1
 have hl2:(Zc (YS ((fs++ys).take i))).length=i*5:=by
  rw [U5 (k:=5) _ (Cj _),Ak,W8,WS (by have:=(Xj.1 h1).1;omega)]
 have e2:Zc (YS (fs++ys))=Zc (YS ((fs++ys).take i))++(CO f++Zc (YS ((fs++ys).drop (i+1)))):=by
  conv=>lhs;rw [e1]
  simp only [YS,Zc,List.map_append,VQ,List.flatMap_append,Jk]
  rfl
 rw [e2,List.drop_append,List.drop_of_length_le om,A1,hl2,Nat.add_sub_cancel_left,List.drop_append_of_le_length (by show c<=5;omega),List.take_append_of_le_length (by rw [KA];show zs.length<=5-c;omega)]
 exact hz
theorem Ev (rs:List Func):(Zc (YS rs)).length=rs.length*5:=by rw [U5 (k:=5) _ (Cj _),Ak]
end Go.Abs
namespace Go.Abs
abbrev XH (g:Xv) (gb:Nat):List AV:=[YB g.decls,.ms gb 0 g.funcs.length 4]
abbrev Xa (gb:Nat) (rs:List Func):Res:=.row (.slice (some ⟨gb,0,none⟩) 4 4) 5 (Zc (YS rs))
abbrev Y4 (rd:Nat) (bs:LI) (p:Nat):Res:=.obj rd [WW bs,.i p]

end Go.Abs
end
namespace Go.Abs
theorem Z0v {w:World} {G:ZV} {g len cap k m:Nat} {ls:List AV} {h2:List Res} (hh:Ya w G (.row (.slice (some ⟨g,0,none⟩) len cap) k ls::h2)) (hle:m<=len) :
  Ya w G (.row (.slice (some ⟨g,0,none⟩) m cap) k (ls.take (m*k))::h2)/\YD w G (.row (.slice (some ⟨g,0,none⟩) len cap) k ls::h2) w G (.row (.slice (some ⟨g,0,none⟩) m cap) k (ls.take (m*k))::h2):=by
 have hpw:=XV.1 hh.apart
 have hfp:∀b o,Res.fp (.row (.slice (some ⟨g,0,none⟩) m cap) k (ls.take (m*k))) b o->Res.fp (.row (.slice (some ⟨g,0,none⟩) len cap) k ls) b o:=fun b o hf=>hf
 refine ⟨⟨fun r hr=>?_,XV.2 ⟨fun r hr b o h1 h2=>hpw.1 r hr b o (hfp b o h1) h2,hpw.2⟩,fun r hr b o hf hg=>?_,hh.lt⟩,⟨rfl,rfl,rfl,YI _,fun _ _ h=>h,fun _ _=>.inl rfl,fun _ _ _ h=>.inl h,fun b o _ hf=>?_⟩⟩
 ·rcases Yj.1 hr with rfl|hr
  ·rcases hh.ok _ (YL ..) with ⟨h0,_⟩|⟨g',len',cap',cur,e,hv,h1,h3,h4,h5,h6⟩
   ·cases h0
   ·cases hv
    have hmk:m*k<=len*k:=UZ k hle
    refine .inr ⟨g,m,cap,cur,e,rfl,h1,by omega,h4,by rw [W8,h5];omega,?_⟩
    have:=h6.take (m*k)
    rw [List.take_take,WS hmk] at this
    exact this
  ·exact hh.ok r (X8 _ hr)
 ·rcases Yj.1 hr with rfl|hr
  ·exact hh.prot _ (YL ..) b o (hfp b o hf) hg
  ·exact hh.prot r (X8 _ hr) b o hf hg
 ·obtain ⟨r,hr,hf⟩:=hf
  rcases Yj.1 hr with rfl|hr
  ·exact ⟨_,YL ..,hfp b o hf⟩
  ·exact ⟨r,X8 _ hr,hf⟩
theorem OQ {rs:List Func} {k:Nat} (f:Func) (hk:k<rs.length):(Zc (YS rs)).take (k*5)++CO f++(Zc (YS rs)).drop (k*5+5)=Zc (YS (rs.set k f)):=by
 rw [show YS (rs.set k f)=(YS rs).set k (B0 f) by simp [YS,List.map_set]]
 exact Cu (y:=B0 f) (Cj rs) rfl (by simpa using hk)
theorem XN.frzP {P:Program} {f:FuncId} {as1:List AV} {h0:List Res} {E:Type} {ds:E->List Zd} {rs:E->List Func} {m:E->Nat} {hs:E->List Res} {Q:E->Prop}
  (H:XN P f as1 h0 (fun r h=>∃(e:E) (gb:Nat),r=.agg [YB (ds e),.ms gb 0 (m e) 4]/\h=.row (.slice (some ⟨gb,0,none⟩) 4 4) 5 (Zc (YS (rs e)))::hs e/\Q e)) (hm:∀e,Q e->m e<=4/\(rs e).length=4) :
  XN P f as1 h0 (fun r h=>∃e:E,r=.agg [YB (ds e),CW ((rs e).take (m e))]/\h=hs e/\Q e):=by
 intro w G vs hv hh
 refine (H w G vs hv hh).mono ?_
 rintro e w' ⟨u,r,h',G',he,⟨x,gb,rfl,rfl,hq⟩,hr,hh',hx⟩
 obtain ⟨hm4,hr4⟩:=hm x hq
 obtain ⟨j1,j2⟩:=Z0v hh' hm4
 have hft:(Zc (YS (rs x))).take (m x*5)=Zc (YS ((rs x).take (m x))):=by
  have e1:rs x=(rs x).take (m x)++(rs x).drop (m x):=(U1 _ _).symm
  have e2:Zc (YS (rs x))=Zc (YS ((rs x).take (m x)))++Zc (YS ((rs x).drop (m x))):=by
   conv=>lhs;rw [e1]
   rw [Ov,UL]
  rw [e2,List.take_append_of_le_length (by rw [Ev,W8,show min (m x) (rs x).length=m x by omega];exact YI _),Vo (by rw [Ev,W8];exact UZ 5 (Nat.min_le_left _ _))]
 rw [hft] at j1 j2
 obtain ⟨G2,h1,h2,h3⟩:=AF j1 (Cj _) om
 have hA:WI G' w' w' G2:=h2.agree j1
 refine ⟨u,_,hs x,G2,he,⟨x,rfl,rfl,hq⟩,?_,(h1.perm (List.perm_append_comm (l₁:=[_]))).left,((hx.trans j2).trans h2).sub' (Jm _ _)⟩
 cases hr with
 | agg hc=>
  cases hc with
  | cons k1 t1=>
   cases t1 with
   | cons k2 t2=>
    cases t2
    have hv2:=k2.val_inv
    subst hv2
    refine .agg (.cons (k1.mono hA) (.cons ?_ .nil))
    have hw:Zf (.sl (YS ((rs x).take (m x))) (some (.slice (some ⟨gb,0,none⟩) (m x) 4))) (CW ((rs x).take (m x))):=Zf.forget _ _
    exact hw _ _ _ h3
open Go.Proofs
abbrev Zi:=@XN Tryz.prog
theorem SG {xs:LI} {k:Nat} {n x:Int} (h:n∉xs.take k) (hx:xs[k]? = some x) (hn:¬x=n):n∉xs.take (k+1):=by
 rw [List.take_add_one,hx]
 simp only [Option.toList_some,YO,Xk]
 exact fun q=>q.elim h fun q=>hn q.symm
theorem SB {xs:LI} {k:Nat} {n x:Int} (hx:xs[k]? = some x) (hn:x=n):n∈xs:=hn▸ZU hx
theorem Vz (n:Int) (low:Int) (high:Int) :Zi 82 [.i n,.i low,.i high] [] (fun r h=>r=.b (decide (low<=n/\n<=high))/\h=[]):=by
 refine ZB 15 Tryz.func82 (ar (Z0 1 (ie (ar (WO 8 [] [(14,.b ((decide (low<=n))&&(decide (n<=high))))] (fun gz=>gz) ?_ (fun hj1=>?_))))))
 ·exact Z0 1 (ie (Z9 (ZZ (.b ((decide (low<=n))&&(decide (n<=high)))) (lb (by rw [Xi];simp)))))
 refine Z0 4 (ib (b:=(decide (low<=n))) 10 (fun Zb=>?_) (fun Zb=>?_))
 ·have ZT:low<=n:=(dq).1 Zb
  exact Z0 4 (Xe (wk [] (ZJ (decide (n<=high)) Zb fl)) hj1)
 have Y6:¬(low<=n):=YH dq Zb
 exact Z0 4 (Xe (wk [] (ZJ false Zb fl)) hj1)
theorem Vm (xs:LI) (n:Int) (hlen:xs.length<=4294967296:=by exact ob):Zi 205 [Z5 xs,.i n] [] (Ym (.b (decide (n∈xs)))):=by
 refine ZB 18 Tryz.func205 (ar (Z0 1 (ie (aq (ar (Z0 1 (ie (ab 0 (ZX (fun fz gz m F h=>∃(k:Nat),(k<=xs.length)/\(n∉xs.take k)/\F=sF [0,1] fz [(5,.i k)]/\h=gz/\m=xs.length-k) _ _ _ ⟨0,ob,ob,rfl,rfl,rfl⟩ (wk [] (Y7 fl)) ?_)))))))))
 rintro m F h ⟨k,Y8,Zm,rfl,rfl,rfl⟩
 refine aq (ar (Z0 2 (iw (Y2 xs) (Z0 1 (ie (ZH ((k:Int)<(xs.length:Int)) (fun Za=>?_) (fun Za=>?_)))))))
 ·refine ak (aq (ab 1 (ar (Z0 2 ?_))))
  obtain ⟨x1,Z2⟩:=Zp xs k om
  refine Zn (Zh none (k:Int) 1 (ZQ Z2)) (Z0 3 (ie (ac (x1==n) Zz (fun Zg=>?_) (fun Zg=>?_))))
  ·exact ar (Z0 1 (ie (Z9 (ZZ (.b true) (lb (by rw [eq_comm,dq];exact SB Z2 Zg))))))
  exact ak (az (Z0 1 (ZE k (Z0 1 (ie (ZG ⟨k+1,ob,(SG Zm Z2 Zg),rfl,rfl,rfl⟩ (wk [] (ZI k fl))))))))
 refine ax 0 (ar (Z0 1 (ie ?_)))
 have hke:k=xs.length:=by omega
 exact Z9 (ZZ (.b false) (lb (by rw [eq_comm,decide_eq_false_iff_not];rw [hke,V9] at Zm;exact Zm)))
theorem V7 (xs:LI) (hlen:xs.length<=4294967296:=by exact ob):Zi 51 [Z5 xs] [] (fun r h=>∃(v:Value),r=ZO xs v/\h=[.tail v 1]):=by
 exact ZB 6 Tryz.func51 (ar (Z0 1 (ie (ar (iL (Z7 []) 0 1 fun v1=>Z0 1 (ip 0 (Z7 xs) (Z7 []) (Z7 xs) v1 none 1 (Yl _) (Yl _) (XD _) (by simp<;>omega) (by simp [Z7]) fun v2=>Z0 1 (ie (Z9 (r1 [0] ⟨v2,rfl,rfl⟩)))))))))
theorem FC (ds:List Zd) (n:Nat) (hd:Wg ds:=by exact ob) (hn:n<=ds.length:=by exact ob):Zi 173 [YB ds,.i n] [] (Ym (.i ((X1 (ds.take n):Nat):Int))):=by
 refine ZB 21 Tryz.func173 (ar (Z0 1 (ie (ar (Z0 1 (ie (aq (ar (Z0 1 (ie (ab 0 (ZX (fun fz gz m F h=>∃(k:Nat),(k<=n)/\F=sF [0,1] fz [(5,.i ((X1 (ds.take k):Nat):Int)),(6,.i k)]/\h=gz/\m=n-k) _ _ _ ⟨0,ob,rfl,rfl,rfl⟩ (wk [] (Y7 (Y7 fl))) ?_))))))))))))
 rintro m F h ⟨k,Y8,rfl,rfl,rfl⟩
 refine aq (ar (Z0 3 (ie (ZH ((k:Int)<(n:Int)) (fun Za=>?_) (fun Za=>?_)))))
 ·refine ak (aq (ab 1 (az (Z0 3 ?_))))
  obtain ⟨x1,Z2⟩:=Zp ds k om
  refine Zn (Zh none (k:Int) 3 (VE Z2)) (Z0 2 (iw (QA x1.cons) (ia ((((X1 (ds.take k))+x1.cons.length:Nat):Int)) ((((X1 (ds.take k):Nat):Int))+((x1.cons.length:Int))) (hb:=(by have h1:=hd.cons_at Z2;have h2:=(hd.take k).sum;omega)) (Z0 1 (ie (az (Z0 1 (ZE k (hb:=(by have:=hd.len;omega)) (Z0 1 (ie ?_))))))))))
  have hsn:X1 (ds.take (k+1))=X1 (ds.take k)+x1.cons.length:=by rw [Ve Z2,GC];simp [X1]
  exact ZG ⟨k+1,ob,rfl,rfl,rfl⟩ (wk [] (fc (x:=.i (((X1 (ds.take k))+x1.cons.length:Nat):Int)) li (ZI k fl)))
 refine ax 0 (ar (Z0 2 (ie ?_)))
 have hke:k=n:=by omega
 subst hke
 exact Z9 (ZZ (.i ((X1 (ds.take k):Nat):Int)) li)
theorem FB (ds:List Zd) (c:Int) (hd:Wg ds:=by exact ob):Zi 137 [YB ds,.i c] [] (Ym (.i (WV ds c))):=by
 refine ZB 30 Tryz.func137 (ar (Z0 1 (ie (aq (ar (Z0 1 (ie (ab 0 (ZX (fun fz gz m F h=>∃(k:Nat),(k<=ds.length)/\((K4 c (ds.drop k) k (X1 (ds.take k))).1=WV ds c)/\F=sF [0,1] fz [(5,.i k)]/\h=gz/\m=ds.length-k) _ _ _ ⟨0,ob,(by rfl),rfl,rfl,rfl⟩ (wk [] (Y7 fl)) ?_)))))))))
 rintro m F h ⟨k,Y8,Zm,rfl,rfl,rfl⟩
 refine aq (ar (Z0 2 (iw (T3 ds) (Z0 1 (ie (ZH ((k:Int)<(ds.length:Int)) (fun Za=>?_) (fun Za=>?_)))))))
 ·refine ak (aq (ab 1 (ar (Z0 2 (Zr [] (FC ds k) (Z0 1 (ie (ar (Z0 5 ?_)))))))))
  obtain ⟨x1,Z2⟩:=Zp ds k om
  refine Zn (Zh none (k:Int) 3 (VE Z2)) (Z0 2 (iw (QA x1.cons) (ia ((((X1 (ds.take k))+x1.cons.length:Nat):Int)) ((((X1 (ds.take k):Nat):Int))+((x1.cons.length:Int))) (hb:=(by have h1:=hd.cons_at Z2;have h2:=(hd.take k).sum;omega)) (ia (((((X1 (ds.take k))+x1.cons.length:Nat):Int)-1)) (((((X1 (ds.take k))+x1.cons.length:Nat):Int))-(1)) (hb:=(by have h1:=hd.cons_at Z2;have h2:=(hd.take k).sum;omega)) (Zr [] (Vz c ((X1 (ds.take k):Nat):Int) ((((X1 (ds.take k))+x1.cons.length:Nat):Int)-1)) (ie (ZH (((X1 (ds.take k):Nat):Int)<=c/\c<=((((X1 (ds.take k))+x1.cons.length:Nat):Int)-1)) (fun Zg=>?_) (fun Zg=>?_))))))))
  ·exact ar (Z0 1 (ZE k (hb:=(by have h2:=hd.len;omega)) (Z0 1 (ie (Z9 (ZZ (.i (k+1:Nat)) (li (by rw [<-Zm,Ye Z2,K4,Zw Zg];rfl))))))))
  refine ak (az (Z0 1 (ZE k (hb:=(by have h2:=hd.len;omega)) (Z0 1 (ie ?_)))))
  have hdr:=Ye Z2
  exact ZG ⟨k+1,ob,(by rw [hdr] at Zm;rw [<-Zm,K4,Zs Zg,Ve Z2,GC];rfl),rfl,rfl,rfl⟩ (wk [] (ZI k fl))
 exact ax 0 (ar (Z0 1 (ie (Z9 (ZZ (.i (-1)) (li (by rw [<-Zm,Xf om];rfl)))))))
theorem TA (ds:List Zd) (c:Int) (hd:Wg ds:=by exact ob):Zi 138 [YB ds,.i c] [] (Ym (Z5 (ZY ds c))):=by
 refine ZB 27 Tryz.func138 (ar (Z0 1 (ie (ar (Z0 2 (Zr [] (FB ds c) (Z0 1 (ie (aq (ar (Z0 2 (ie (ZH ((WV ds c)<1) (fun Za=>?_) (fun Za=>?_))))))))))))))
 ·exact ar (iL (Z7 []) 0 1 fun v1=>Z0 1 (ie (Z9 (ZZ (ZO [] v1) (Zf.sl _ (Yg Z7 (by rw [(GF Za).1])))))))
 obtain ⟨k,d,x,hk1,hk2,hk3,hk4,hk5⟩:=GG Za
 have hkl:=(Xj.1 hk1).1
 have hxl:=(Xj.1 hk3).1
 have hsm:=(hd.take k).sum
 have hdl:=hd.cons_at hk1
 have hdn:=hd.len
 refine ak (aD 16 (Zj 14 16 [0,1] (da 2 ((k:Int)) ((WV ds c)-(1)) (hb:=(by have:=hd.len;omega)) ?_)))
 obtain ⟨x1,Z2⟩:=Zp ds k om
 have hxe:x1=d:=by rw [hk1] at Z2;exact (A5 Z2).symm
 subst hxe
 refine dx 3 (Zh none (k:Int) 3 (VE Z2)) (Zj 7 12 [4,5,6,7,8] (da 9 ((k:Int)) ((WV ds c)-(1)) (hb:=(by have:=hd.len;omega)) (Z8 10 (Yf 10 [] [] [] (FC ds k) (da 11 ((c-((X1 (ds.take k):Nat):Int))) ((c)-(((X1 (ds.take k):Nat):Int))) ?_)))))
 obtain ⟨x2,Zt⟩:=Zp x1.cons ((c-((X1 (ds.take k):Nat):Int)).toNat) om
 have hxe:x2=x:=by rw [show (c - ↑(X1 (ds.take k))).toNat=(c-X1 (ds.take k)).toNat from rfl,hk3] at Zt;exact (A5 Zt).symm
 subst hxe
 exact dx 12 (Zh none (c-((X1 (ds.take k):Nat):Int)) 1 (Cg Zt)) (Zj 0 3 [13,14,15] (de (Z9 (ZZ (Z5 x2.fields) (Zf.sl _ (Yg Z7 hk5.symm))))))
theorem QO (ds:List Zd) (t:Int) (hd:Wg ds:=by exact ob):Zi 174 [YB ds,.i t] [] (fun r h=>∃(v:Value),r=ZO (ZW ds t) v/\h=[.tail v 1]):=by
 have hdn:=hd.len
 refine ZB 35 Tryz.func174 (ar (Z0 1 (ie (ar (iL (Z7 []) 0 1 fun v1=>Z0 1 (ie (aq (ar (Z0 2 (iw (T3 ds) (Zr [] (Vz t 1 (ds.length:Int)) (Z0 1 (ie (ac (!(decide (1<=t/\t<=(ds.length:Int)))) (p:=¬(1<=t/\t<=(ds.length:Int))) (YR dq) (fun Za=>?_) (fun Za=>?_)))))))))))))))
 ·exact ar (Z0 2 (ie (Z9 (r2 [0] [ZO [] v1] ⟨v1,rfl,rfl⟩ (Zf.slh _ (Yg Z7 (by simp [ZW];omega)))))))
 have Za:1<=t/\t<=ds.length:=by simpa using Za
 obtain ⟨d,hd1⟩:=Zp ds ((t-1).toNat) om
 have hdc:=hd.cons_at hd1
 have hsm:=(hd.take (t-1).toNat).sum
 refine ak (aq (ar (Z0 1 (ie (ab 0 (ZX (fun fz gz m F h=>∃(k:Nat) (v:Value),(k<=d.cons.length)/\F=sF [0,1] fz [(5,ZO (Vk (X1 (ds.take (t-1).toNat)) k) v),(6,.i k)]/\h=[.tail v 1]/\m=d.cons.length-k) _ _ _ ⟨0,v1,(by first|omega|rfl|(simp<;>omega)|grind [ZW,Vk]),rfl,rfl,rfl⟩ (wk [0] (fc (x:=ZO [] v1) (Zf.slh _ (Yg Z7 (by first|omega|rfl|(simp<;>omega)|grind [ZW,Vk]))) (fc (x:=.i 0) (li (by first|omega|rfl|(simp<;>omega)|grind [ZW,Vk])) fl))) ?_))))))
 rintro m F h ⟨k,v,Y8,rfl,rfl,rfl⟩
 refine aq (ar (Z0 3 (ia ((((t-1).toNat:Nat):Int)) ((t)-(1)) (Zn (Zh none (((t-1).toNat:Nat):Int) 3 (VE hd1)) (Z0 2 (iw (QA d.cons) (Z0 1 (ie (ZH ((k:Int)<(d.cons.length:Int)) (fun Zg=>?_) (fun Zg=>?_))))))))))
 ·exact ak (aq (ab 1 (az (Z0 3 (ia ((((t-1).toNat:Nat):Int)) ((t)-(1)) (Zr [] (FC ds ((t-1).toNat) (hd:=(by first|omega|rfl|(simp<;>omega)|grind [ZW,Vk])) (hn:=(by first|omega|rfl|(simp<;>omega)|grind [ZW,Vk]))) (Z0 1 (ia ((((X1 (ds.take ((t-1).toNat)))+k:Nat):Int)) ((((X1 (ds.take ((t-1).toNat)):Nat):Int))+((k:Int))) (iL (Z7 [(((X1 (ds.take ((t-1).toNat)))+k:Nat):Int)]) 1 1 fun v2=>ZA 0 [(32,Z5 [(((X1 (ds.take ((t-1).toNat)))+k:Nat):Int)])] (ip 1 (Z7 (Vk (X1 (ds.take (t-1).toNat)) k++[(((X1 (ds.take ((t-1).toNat)))+k:Nat):Int)])) (Z7 (Vk (X1 (ds.take (t-1).toNat)) k)) (Z7 [(((X1 (ds.take ((t-1).toNat)))+k:Nat):Int)]) v none 1 (Yl _) (Yl _) (XD _) (by simp<;>omega) (by simp [XA,Z7]) fun v3=>Z0 1 (ie (az (Z0 1 (ZE k (Z0 1 (ie (⟨_,_,_,(by first|omega|rfl|(simp<;>omega)|grind [ZW,Vk]),⟨k+1,v3,(by first|omega|rfl|(simp<;>omega)|grind [ZW,Vk]),rfl,rfl,rfl⟩,(wk [0] (fc (x:=ZO (Vk (X1 (ds.take (t-1).toNat)) k++[(((X1 (ds.take ((t-1).toNat)))+k:Nat):Int)]) v3) (Zf.slh _ (Yg Z7 (SN _ _).symm)) (fc (x:=.i (k+1:Nat)) (li (by first|omega|rfl|(simp<;>omega)|grind [ZW,Vk])) fl)))⟩)))))))))))))))))
 exact ax 0 (ar (Z0 2 (ie (Z9 (r2 [0] [ZO (Vk (X1 (ds.take (t-1).toNat)) k) v] ⟨v,rfl,rfl⟩ (Zf.slh _ (Yg Z7 (by rw [ZW,Zw Za,hd1,show k=d.cons.length by omega];rfl))))))))
theorem LK (ds:List Zd) (frm:Int) (to_:Int) (hl_ds:ds.length<=4294967296:=by exact ob):Zi 176 [YB ds,.i frm,.i to_] [] (Ym (.i (Qs ds frm to_))):=by
 refine ZB 41 Tryz.func176 (ar (Z0 1 (ie (aq (ar (Z0 1 (ie (ab 0 (ZX (fun fz gz m F h=>∃(k:Nat),(k<=ds.length)/\(Aa frm to_ (ds.drop k) k=Qs ds frm to_)/\F=sF [0,1,2] fz [(7,.i k)]/\h=gz/\m=ds.length-k) _ _ _ ⟨0,ob,ob,rfl,rfl,rfl⟩ (wk [] (Y7 fl)) ?_)))))))))
 rintro m F h ⟨k,Y8,Zm,rfl,rfl,rfl⟩
 refine aq (ar (Z0 2 (iw (T3 ds) (Z0 1 (ie (ZH ((k:Int)<(ds.length:Int)) (fun Za=>?_) (fun Za=>?_)))))))
 ·refine ak (aq (ab 1 (ar (Z0 2 ?_))))
  obtain ⟨x1,Z2⟩:=Zp ds k om
  refine Zn (Zh none (k:Int) 3 (VE Z2)) (Z0 2 (iw (QA x1.cons) (WO 16 [0,1,2,7] [(29,.b (((x1.cons.length:Int)==0)&&(x1.frm==frm)))] (fun gz=>gz) ?_ (fun hj1=>?_))))
  ·refine Xr [0,1,2,7] [(38,.b ((((x1.cons.length:Int)==0)&&(x1.frm==frm))&&(x1.to_==to_)))] (fun gz=>gz) ?_ ?_
   ·refine Z0 1 (ib (b:=(((x1.cons.length:Int)==0)&&(x1.frm==frm))) 30 (fun Zb=>?_) (fun Zb=>?_))
    ·have ZT:((x1.cons.length:Int)=0)/\(x1.frm=frm):=((Xb Zz Zz)).1 Zb
     exact Z0 2 (Zn (Zh none (k:Int) 3 (VE Z2)) (Z0 5 (ie (wk [] (ZJ (x1.to_==to_) Zb fl)))))
    have Y6:¬(((x1.cons.length:Int)=0)/\(x1.frm=frm)):=YH (Xb Zz Zz) Zb
    exact Z0 8 (ie (wk [] (ZJ false Zb fl)))
   refine ac ((((x1.cons.length:Int)==0)&&(x1.frm==frm))&&(x1.to_==to_)) (p:=(((x1.cons.length:Int)=0)/\(x1.frm=frm))/\(x1.to_=to_)) (Xb (Xb Zz Zz) Zz) (fun Zg=>?_) (fun Zg=>?_)
   ·refine ar (Z0 1 (ZE k (Z0 1 (ie ?_))))
    rw [Ye Z2] at Zm
    exact Z9 (ZZ (.i (k+1:Nat)) (li (by clear Z2;first|rfl|omega|grind [Aa])))
   refine ak (az (Z0 1 (ZE k (Z0 1 (ie ?_)))))
   have hdr:=Ye Z2
   exact ZG ⟨k+1,ob,(by rw [hdr] at Zm;clear hdr Z2;grind [Aa]),rfl,rfl,rfl⟩ (wk [] (ZI k fl))
  refine Z0 2 (ib (b:=((x1.cons.length:Int)==0)) 21 (fun ZM=>?_) (fun ZM=>?_))
  ·have YA:(x1.cons.length:Int)=0:=(Zz).1 ZM
   exact Z0 2 (Zn (Zh none (k:Int) 3 (VE Z2)) (Z0 5 (Xe (wk [] (ZJ (x1.frm==frm) ZM fl)) hj1)))
  have YJ:¬((x1.cons.length:Int)=0):=YH Zz ZM
  exact Z0 8 (Xe (wk [] (ZJ false ZM fl)) hj1)
 refine ax 0 (ar (Z0 1 (ie ?_)))
 try rw [Xf (xs:=ds) (k:=k) om] at Zm
 exact Z9 (ZZ (.i (-1)) (li (by first|rfl|omega|grind [Aa])))
theorem BM (ds:List Zd) (t:Int) (hd:Wg ds:=by exact ob):Zi 141 [YB ds,.i t] [] (Ym (.b (WE ds t))):=by
 have hdn:=hd.len
 refine ZB 19 Tryz.func141 (ar (Z0 1 (ie (ar (Z0 2 (iw (T3 ds) (Zr [] (Vz t 1 (ds.length:Int)) (Z0 1 (ib (b:=(decide (1<=t/\t<=(ds.length:Int)))) 9 (fun Zb=>?_) (fun Zb=>?_))))))))))
 ·have ZT:1<=t/\t<=(ds.length:Int):=(dq).1 Zb
  refine Z0 2 (ia ((t-1)) ((t)-(1)) ?_)
  obtain ⟨x1,Z2⟩:=Zp ds ((t-1).toNat) om
  exact Zn (Zh none (t-1) 3 (VE Z2)) (Z0 2 (iw (QA x1.cons) (Z0 3 (ie (Z9 (ZZ (.b ((x1.cons.length:Int)==0)) (lb (by first|omega|rfl|(rw [HX ZT Z2])|exact HW Y6))))))))
 have Y6:¬(1<=t/\t<=(ds.length:Int)):=YH dq Zb
 exact Z0 10 (ie (Z9 (ZZ (.b false) (lb (by first|omega|rfl|(rw [HX ZT Z2])|exact HW Y6)))))
theorem Ti (xs:LI) (ys:LI) (hl:xs.length+ys.length<=4294967296:=by exact ob):Zi 175 [Z5 xs,Z5 ys] [] (fun r h=>∃(v:Value),r=ZO (xs++ys) v/\h=[.tail v 1]):=by
 refine ZB 9 Tryz.func175 (ar (Z0 1 (ie (ar (Z0 1 (ic [] (V7 xs) ?_))))))
 rintro _ _ ⟨v1,rfl,rfl⟩
 exact Z0 1 (ip 0 (Z7 (xs++ys)) (Z7 xs) (Z7 ys) v1 none 1 (Yl _) (Yl _) (XD _) (by simp<;>omega) (by simp [XA,Z7]) fun v2=>Z0 1 (ie (Z9 (r1 [0] ⟨v2,rfl,rfl⟩))))
theorem LH (ds:List Zd) (xs:LI) (hl_ds:ds.length<=4294967296:=by exact ob) (hl_xs:xs.length<=4294967296:=by exact ob):Zi 58 [YB ds,Z5 xs] [] (Ym (.b (VC ds.length xs))):=by
 refine ZB 20 Tryz.func58 (ar (Z0 1 (ie (aq (ar (Z0 1 (ie (ab 0 (ZX (fun fz gz m F h=>∃(k:Nat),(k<=xs.length)/\(VC ds.length (xs.drop k)=VC ds.length xs)/\F=sF [0,1] fz [(5,.i k)]/\h=gz/\m=xs.length-k) _ _ _ ⟨0,ob,ob,rfl,rfl,rfl⟩ (wk [] (Y7 fl)) ?_)))))))))
 rintro m F h ⟨k,Y8,Zm,rfl,rfl,rfl⟩
 refine aq (ar (Z0 2 (iw (Y2 xs) (Z0 1 (ie (ZH ((k:Int)<(xs.length:Int)) (fun Za=>?_) (fun Za=>?_)))))))
 ·refine ak (aq (ab 1 (ar (Z0 2 ?_))))
  obtain ⟨x1,Z2⟩:=Zp xs k om
  refine Zn (Zh none (k:Int) 1 (ZQ Z2)) (Z0 2 (iw (T3 ds) (Zr [] (Vz x1 0 (ds.length:Int)) (Z0 1 (ie (ac (!(decide (0<=x1/\x1<=(ds.length:Int)))) (p:=¬(0<=x1/\x1<=(ds.length:Int))) (YR dq) (fun Zg=>?_) (fun Zg=>?_)))))))
  ·refine ar (Z0 1 (ie ?_))
   rw [Ye Z2] at Zm
   exact Z9 (ZZ (.b false) (lb (by clear Z2;first|rfl|omega|grind [VC])))
  refine ak (az (Z0 1 (ZE k (Z0 1 (ie ?_)))))
  have hdr:=Ye Z2
  exact ZG ⟨k+1,ob,(by rw [hdr] at Zm;clear hdr Z2;grind [VC]),rfl,rfl,rfl⟩ (wk [] (ZI k fl))
 refine ax 0 (ar (Z0 1 (ie ?_)))
 try rw [Xf (xs:=xs) (k:=k) om] at Zm
 exact Z9 (ZZ (.b true) (lb (by first|rfl|omega|grind [VC])))
end Go.Abs
