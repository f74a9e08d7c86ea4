/-
  A part of the proof of FnBlockTypeStepUptoSaid (see the last file): no condition.
-/
import Derived.Test.YthllacimcjakdaaGreatBstA
import Derived.Test.YthllacimcjakdaaGreatRows
import Derived.Deep.Slices
import Derived.ChangeArms
set_option linter.all false
set_option linter.unusedVariables false
set_option linter.unusedSimpArgs false
set_option linter.unusedSectionVars false
set_option maxRecDepth 10000
set_option maxHeartbeats 4000000
section
namespace Go.Abs
theorem YA.rgrow {w:World} {G:Yb} {h2:List Res} {g len len' cap k:Nat} {ls ls':List AV} (hh:YA w G (.row (.slice (some ⟨g,0,none⟩) len cap) k ls::h2)) {cs cs':Array Value} {e:TypeId}
  (hb:w.heap[g]? = some (.cells cs e (0,0))) (XA:cs'.size=cs.size) (hle:len'<=cap) (hcap:cs.size=cap*k) (hl:ls'.length=len'*k) (hls:YO w G ls' (cs'.toList.take (len'*k))) :
  YA (w.setRow g cs') G (.row (.slice (some ⟨g,0,none⟩) len' cap) k ls'::h2) /\
   YU w G (.row (.slice (some ⟨g,0,none⟩) len cap) k ls::h2) (w.setRow g cs') G (.row (.slice (some ⟨g,0,none⟩) len' cap) k ls'::h2):=by
 have hmem:Res.row (.slice (some ⟨g,0,none⟩) len cap) k ls∈Res.row (.slice (some ⟨g,0,none⟩) len cap) k ls::h2:=Xg ..
 have hA:Vt G w (w.setRow g cs') G:=⟨fun c j hg=>by
  have hne:c≠g:=fun he=>hh.prot _ hmem c j he hg
  simp [World.cell?,Vn w g c cs' hne],fun _ _ h=>h⟩
 have e1:YU w G [.row (.slice (some ⟨g,0,none⟩) len cap) k ls] (w.setRow g cs') G [.row (.slice (some ⟨g,0,none⟩) len' cap) k ls']:=by
  refine ⟨rfl,rfl,rfl,by simp [World.setRow],fun _ _ h=>h,?_,fun _ _ _ h=>.inl h,?_⟩
  ·intro c hc
   by_cases hcb:c=g
   ·subst hcb
    exact .inr ⟨cs,cs',e,(0,0),hb,setRow_heap w c cs cs' e (0,0) hb,XA,fun j hj=>absurd ⟨_,Xg ..,rfl⟩ hj⟩
   ·exact .inl (Vn w g c cs' hcb)
  ·rintro c j _ ⟨r,hr,hf⟩
   rw [XN.1 hr] at hf
   exact ⟨_,Xg ..,hf⟩
 have e2:YA (w.setRow g cs') G [.row (.slice (some ⟨g,0,none⟩) len' cap) k ls']:=by
  refine ⟨fun r hr=>?_,BV _ _,fun r hr c j hf hg=>?_,fun c j hg=>?_⟩
  ·rw [XN.1 hr]
   exact .inr ⟨g,len',cap,cs',e,rfl,setRow_heap w g cs cs' e (0,0) hb,hle,XA.trans hcap,hl,hls.mono hA⟩
  ·rw [XN.1 hr] at hf
   exact hh.prot _ hmem c j hf hg
  ·have:=hh.lt c j hg
   simpa [World.setRow] using this
 exact YA.frame (h:=[.row (.slice (some ⟨g,0,none⟩) len cap) k ls]) (k:=h2) hh e1 e2
section
variable {P:Program} {n:Nat} {ops:Array Oper} {k:Nat} {F:Fr} {h2:List Res}
theorem Mo {K:Fr->List Res->Prop} {v:Hd} {sz m:Nat} {ls xs:List AV} {hx:Option Value} (hd:V5 n (ZC ops k)=true) (ha:VY P ops F k=some (.val v.v,.sl xs hx,sz))
  (hxs:∀y∈xs,y.leaves.length=sz) (hone:(Zm xs).all AV.one=true) (hm0:ls.length=m*sz) (hk0:0<sz) (hne:xs≠[]) (hbound:m+xs.length<=4294967296)
  (hK:∀v':Hd,K (F.put (ZC ops k).dst (.val v'.v)) (.row v'.v sz (ls++Zm xs)::h2)):Wj P n (ZC ops k) F (.row v.v sz ls::h2) K:=by
 unfold VY at ha
 generalize hoo:ZC ops k=o at ha hd hK
 obtain ⟨dst,op,type,pos,after,guard⟩:=o
 cases op<;>simp only at ha<;>try (cases ha)
 rename_i c
 obtain ⟨callee,args,tys⟩:=c
 simp only at ha
 split at ha
 case h_2=>cases ha
 rename_i s x t t' hargs htys
 split at ha
 case h_2=>cases ha
 rename_i e htt ht
 have:=VW htt
 subst this
 split at ha
 case h_2=>cases ha
 rename_i i hinfo
 split at ha
 case h_2=>cases ha
 rename_i z hz
 split at ha
 case h_2=>cases ha
 rename_i hb
 simp only [W3] at hb
 simp only [XW,Prod.mk.injEq] at ha
 obtain ⟨h3,h4,hk1⟩:=ha
 have e1:args=#[s,x]:=by rw [<-VM (xs:=args),hargs]
 have e2:tys=#[t,t]:=by rw [<-VM (xs:=tys),htys]
 subst e1;subst e2
 have hzs:z.cells.size=sz:=by rw [VW hb.1,hk1]
 have hby:=WH hb.2
 have hfl:=UU xs hxs
 intro Q w G a hF hh
 have v1:=hF.ev s
 have v2:=hF.ev x
 rw [h3] at v1
 rw [h4] at v2
 have v1:=v1.val_inv
 have v2:=v2.forget
 have finish:∀(v':Hd) w',(Builtin.append_ #[t,t] type #[v.v,a.eval x]).run P w=.ok v'.v w'->YA w' G (.row v'.v sz (ls++Zm xs)::h2)->YU w G (.row v.v sz ls::h2) w' G (.row v'.v sz (ls++Zm xs)::h2) ->
   ({ dst:=dst,op:=.call { callee:=.builtin .append,args:=#[s,x],argTypes:=#[t,t] },type:=type,pos:=pos,after:=after,guard:=guard }:Oper).wp P a w
    (fun a' w'=>∃F' h' G',K F' h'/\FR w' G' n F' a'/\YA w' G' h'/\YU w G (.row v.v sz ls::h2) w' G' h') Q:=by
  intro v' w' hr j1 j2
  have hrun:(execOp a.eval { dst:=dst,op:=.call { callee:=.builtin .append,args:=#[s,x],argTypes:=#[t,t] },type:=type,pos:=pos,after:=after,guard:=guard }).run P w=.ok (.value v'.v) w':=by
   simp only [execOp,resolve,invoke,builtin,Sem.run_bind,Sem.run_pure,Result.andThen_ok,B9,Uk,B8,v1,hr]
  unfold Oper.wp
  rw [hrun]
  exact ⟨_,_,G,hK v',(hF.mono (j2.agree hh)).put (U9 hd) .val,j1,j2⟩
 have hrow0:=hh.ok (.row v.v sz ls) (Xg ..)
 have hsub2:∀r:Res,List.Sublist (r::h2) (r::.row v.v sz ls::h2):=fun r=>List.Sublist.cons_cons _ (Ar _ _)
 have grown:∀(olds news:List Value) (old:Nat),YO w G ls olds->YO w G (Zm xs) news ->
   YA (w.drew.alloc (.cells (olds.toArray++news.toArray++Builtin.zeroCells z.cells (grownCap w (m+xs.length) old e-(m+xs.length))) e)) G
    (.row (.slice (some ⟨w.heap.size,0,none⟩) (m+xs.length) (grownCap w (m+xs.length) old e)) sz (ls++Zm xs)::h2) /\
   YU w G (.row v.v sz ls::h2) (w.drew.alloc (.cells (olds.toArray++news.toArray++Builtin.zeroCells z.cells (grownCap w (m+xs.length) old e-(m+xs.length))) e)) G
    (.row (.slice (some ⟨w.heap.size,0,none⟩) (m+xs.length) (grownCap w (m+xs.length) old e)) sz (ls++Zm xs)::h2):=by
  intro olds news old ho hn
  have X4:=grownCap_ge w (m+xs.length) old e
  have hol:=ho.length
  have hnl:=hn.length
  have hlen:(ls++Zm xs).length=(m+xs.length)*sz:=by rw [Yu,hm0,hfl,Tx]
  obtain ⟨j1,j2⟩:=hh.drew.alloc_rrow (olds.toArray++news.toArray++Builtin.zeroCells z.cells (grownCap w (m+xs.length) old e-(m+xs.length))) e
   (ls:=ls++Zm xs) (len:=m+xs.length) (cap:=grownCap w (m+xs.length) old e) (k:=sz) X4
   (by
    have q2:(grownCap w (m+xs.length) old e-(m+xs.length))*sz=grownCap w (m+xs.length) old e*sz-(m+xs.length)*sz:=Nat.sub_mul ..
    have q3:(m+xs.length)*sz<=grownCap w (m+xs.length) old e*sz:=TQ _ X4
    have q4:(m+xs.length)*sz=m*sz+xs.length*sz:=Tx ..
    simp only [Array.size_append,BW,size_zeroCells,hzs,hol,hnl,hm0,hfl]
    omega) hlen
   (by
    have:(olds.toArray++news.toArray++Builtin.zeroCells z.cells (grownCap w (m+xs.length) old e-(m+xs.length))).toList.take ((m+xs.length)*sz)=olds++news:=by
     simp only [BT]
     rw [<-hlen,Yu,<-hol,<-hnl,<-Yu]
     exact KV
    rw [this]
    exact (ho.append hn).mono (JN w G))
  exact ⟨j1.sub (hsub2 _),(YU.drew w G _).trans (j2.sub' (hsub2 _))⟩
 generalize hax:a.eval x=ax at v2 finish
 cases v2 with
 | nil _=>exact absurd rfl hne
 | sl hq hcc hm=>
  rename_i b o' k' c
  have hpos:0<xs.length:=EL.2 hne
  have hfm:=hm.flat_mem
  obtain ⟨news,hn,hnc⟩:=hfm.cells
  have hnl:news.length=xs.length*i.size:=by rw [hn.length,hfl,hk1]
  have hone':=hn.one_cells hone
  have hnews:∀j u,news[j]? = some u->w.cell? ((⟨b,o',none⟩:Addr).add j)=some u:=fun j u hj=>by rw [Qy];exact (hnc j u hj).1
  have hbb:(m+xs.length)*i.bytes<=140737488355328:=by
   have:=Nat.mul_le_mul hbound hby
   omega
  rcases hrow0 with ⟨hv0,hl0⟩|⟨g,len,cap,cur,el,hv0,hrow,hlc,hcur,hll,hcells⟩
  ·subst hl0
   have hm1:m=0:=by
    have:m*sz=0:=by simpa using hm0.symm
    rcases Nat.mul_eq_zero.1 this with h|h
    ·exact h
    ·omega
   subst hm1
   rw [hv0] at finish hh ⊢
   have hr:=run_append_nil (P:=P) w t type e i z ht hinfo hz ⟨b,o',none⟩ xs.length c news hnl hnews hpos om (by simp only [WQ] at hbb;omega)
   obtain ⟨j1,j2⟩:=grown [] news 0 .nil hn
   simp only [WQ,Array.empty_append,Kl] at j1 j2
   rw [hv0] at j2
   exact finish ⟨some ⟨w.heap.size,0,none⟩,xs.length,grownCap w xs.length 0 e⟩ _ hr (by simpa using j1) (by simpa using j2)
  ·have hlm:len=m:=EM hk0 (hll.symm.trans hm0)
   subst hlm
   rw [hv0] at finish hh ⊢
   have q5:len*sz<=cap*sz:=TQ _ hlc
   have h1:(cur.toList.take (len*sz)).length=len*sz:=by rw [Wp,Qq,hcur,Vs q5]
   have hcl:cur.toList.length=cap*sz:=by rw [Qq,hcur]
   by_cases hroom:len+xs.length<=cap
   ·have q1:(len+xs.length)*sz<=cap*sz:=TQ _ hroom
    have q2:(len+xs.length)*sz=len*sz+xs.length*sz:=Tx ..
    have hfit:len*i.size+news.length<=cur.size:=by rw [hnl,hcur,hk1];omega
    have hr:=El (P:=P) w t type e el i ht hinfo g len cap cur hrow ⟨b,o',none⟩ xs.length c news hnl hnews hone' hroom hfit
    rw [hk1] at hr
    have hnl':news.length=xs.length*sz:=by rw [hnl,hk1]
    obtain ⟨j1,j2⟩:=hh.rgrow (ls':=ls++Zm xs) (len':=len+xs.length) (cs':=(cur.toList.take (len*sz)++news++cur.toList.drop (len*sz+news.length)).toArray) hrow
     (by simp only [BW,Yu,h1,hnl',Ap,hcl,hcur];omega) hroom hcur (by rw [Yu,hll,hfl,q2]) (by
      have:(cur.toList.take (len*sz)++news++cur.toList.drop (len*sz+news.length)).toArray.toList.take ((len+xs.length)*sz)=cur.toList.take (len*sz)++news:=by
       rw [BX,q2,<-hnl']
       conv=>lhs;arg 1;rw [show len*sz+news.length=(cur.toList.take (len*sz)++news).length from by rw [Yu,h1]]
       exact KV
      rw [this]
      exact hcells.append hn)
    exact finish ⟨some ⟨g,0,none⟩,len+xs.length,cap⟩ _ hr j1 j2
   ·have hr:=run_append_grow (P:=P) w t type e i z ht hinfo hz ⟨g,0,none⟩ len cap (cur.toList.take (len*sz)) (by rw [hk1];exact h1) (fun j u hj=>by
     rw [Qy,cell_of_row w g _ cur el (0,0) hrow]
     rw [Q8] at hj
     split at hj
     ·simpa using hj
     ·cases hj) ⟨b,o',none⟩ xs.length c news hnl hnews om om (growslice_fits om hbb)
    obtain ⟨j1,j2⟩:=grown (cur.toList.take (len*sz)) news cap hcells hn
    rw [hv0] at j2
    exact finish ⟨some ⟨w.heap.size,0,none⟩,len+xs.length,grownCap w (len+xs.length) cap e⟩ _ hr j1 j2
end
section
variable {P:Program} {n:Nat} {ops:Array Oper} {B:Fr->List Res->Prop} {k:Nat} {F:Fr} {h:List Res}
theorem DP (j m:Nat) (v:Hd) (sz:Nat) (ls xs:List AV) (hx:Option Value) (hm0:ls.length=m*sz) (hxs:∀y∈xs,y.leaves.length=sz) (hone:(Zm xs).all AV.one=true) (hne:xs≠[]) (hbound:m+xs.length<=4294967296)
  (hK:∀v':Hd,SI P n ops B (k+1) (F.put (ZC ops k).dst (.h v')) (rK v' sz (ls++Zm xs)::XF [j] h)) (hk0:0<sz:=by omega)
  (hk:X2 n ops F k=true:=by kernel_rfl) (ha:VY P ops F k=some (.h v,.sl xs hx,sz):=by kernel_rfl) (hp:Wa [j] h=some [rK v sz ls]:=by kernel_rfl):SI P n ops B k F h:=
 Tb hk (Wj.perm (VT (Vf hp)) (Mo (Vr hk).2.1 ha hxs hone hm0 hk0 hne hbound hK))
end
end Go.Abs
namespace Go.Abs
section
variable {P:Program} {n:Nat} {ops:Array Oper} {B:Fr->List Res->Prop} {T:List (Nat × List Nat)} {fuel:Nat} {done:List Nat} {F:Fr} {h:List Res}
theorem Fi (i j m:Nat) (js bs:List Nat) (v:Hd) (sz:Nat) (ls xs:List AV) (hx:Option Value) (hm0:ls.length=m*sz) (hxs:∀y∈xs,y.leaves.length=sz) (hone:(Zm xs).all AV.one=true) (hne:xs≠[]) (hbound:m+xs.length<=4294967296)
  (hK:∀v':Hd,YK P n ops B (T.filter fun t=>!WD ops i t.1) fuel (done++[i]) (F.put (ZC ops i).dst (.h v')) (rK v' sz (ls++Zm xs)::XF [j] h)) (hk0:0<sz:=by omega) (hk:X2 n ops F i=true:=by kernel_rfl)
  (ha:VY P ops F i=some (.h v,.sl xs hx,sz):=by kernel_rfl) (hp:Wa [j] h=some [rK v sz ls]:=by kernel_rfl) (ho:Vx ops i T=bs:=by kernel_rfl)
  (hj:js.map (fun q=>(Wo (XF [j] h))[q]?)=bs.map some:=by kernel_rfl):V4 P n ops B T fuel done F h i:=
 Qf [j] js bs hk (Vf hp) ho hj (Mo (h2:=[]) (Vr hk).2.1 ha hxs hone hm0 hk0 hne hbound hK)
end
theorem Zk.form {P:Program} {f:FuncId} {as1:List AV} {h0:List Res} {T:Hd->AV} {kk m:Nat} {ls:List AV} {hs:List Res} (H:Zk P f as1 h0 (fun r h=>∃v:Hd,r=T v/\h=rK v kk ls::hs)) (hm:ls.length=m*kk) (hk:0<kk) (h1:0<m) :
  Zk P f as1 h0 (fun r h=>∃(g c:Nat),r=T ⟨some ⟨g,0,none⟩,m,c⟩/\h=rK ⟨some ⟨g,0,none⟩,m,c⟩ kk ls::hs):=by
 intro w G vs hv hh
 refine (H w G vs hv hh).mono ?_
 rintro e w' ⟨u,r,h',G',he,⟨v,rfl,rfl⟩,hr,hh',hx⟩
 obtain ⟨g,c,rfl⟩:=MP (hh'.ok _ (Xg ..)) hm hk h1
 exact ⟨u,_,_,G',he,⟨g,c,rfl,rfl⟩,hr,hh',hx⟩
end Go.Abs
namespace Go.Abs
section
variable {h:List Res}
theorem Z6v (j i p:Nat) {u:Value} {kk b:Nat} {es ls:List AV} (hp:Wa [j,i] h=some [.row u kk (Zm es),.obj b ls]) (hes:∀y∈es,y.leaves.length=kk) (hk:0<kk) (hl:ls[p]? = some (.val u)) :
  T1 h (.obj b (ls.set p (.sl es (some u)))::.tail u kk::XF [j,i] h):=by
 intro w G hh
 have hp':=VT (Vf hp)
 have hh':=hh.perm hp'
 obtain ⟨G',h1,h2',h3⟩:=BM (h2:=.obj b ls::XF [j,i] h) hh' hes hk
 have e:=h2'.perm hp'.symm (Tw _)
 have h1:YA w G' (.tail u kk::.obj b ls::XF [j,i] h):=h1
 have perm:(Res.tail u kk::.obj b ls::XF [j,i] h).Perm (.obj b ls::.tail u kk::XF [j,i] h):=List.Perm.swap ..
 have h4:=h1.perm perm
 have e4:=e.perm (Tw _) perm
 have hset:∀{w:World} {G:Yb},RV w G (.sl es (some u)) u->TR w G (.obj b ls)->TR w G (.obj b (ls.set p (.sl es (some u)))):=by
  intro w G hu hr
  obtain ⟨cs,el,k1,k5⟩:=hr
  refine ⟨cs,el,k1,?_⟩
  obtain ⟨c,c1,c2⟩:=k5.get p _ hl
  have:=c2.val_inv
  subst this
  have h6:=k5.set p hu
  rwa [show cs.toList.set p c=cs.toList from by
   apply List.ext_getElem?
   intro q
   rw [List.getElem?_set]
   split
   ·rename_i hq;subst hq;split
    ·exact c1.symm
    ·rename_i hq2;rw [Oc om]
   ·rfl] at h6
 refine ⟨G',⟨fun r hr=>?_,?_,fun r hr=>?_,h4.lt⟩,⟨e4.os,e4.tape,e4.output,e4.size,e4.sub,e4.same,e4.newG,fun b' o hb ⟨r,hr,hf⟩=>e4.newfp b' o hb ?_⟩⟩
 ·rcases YP.1 hr with rfl|hr
  ·exact hset h3 (h4.ok _ (Xg ..))
  ·exact h4.ok r (XC _ hr)
 ·have:=WT.1 h4.apart
  exact WT.2 ⟨fun r hr b' o f1 f2=>this.1 r hr b' o f1 f2,this.2⟩
 ·rcases YP.1 hr with rfl|hr
  ·exact fun b' o f1 hg=>h4.prot (.obj b ls) (Xg ..) b' o f1 hg
  ·exact h4.prot r (XC _ hr)
 ·rcases YP.1 hr with rfl|hr
  ·exact ⟨.obj b ls,Xg ..,hf⟩
  ·exact ⟨r,XC _ hr,hf⟩
theorem UB (j i p:Nat) (u:Value) (kk b:Nat) (es ls:List AV) (hes:∀y∈es,y.leaves.length=kk) (hl:ls[p]? = some (.val u)) (hk:0<kk:=by omega) (hp:Wa [j,i] h=some [.row u kk (Zm es),.obj b ls]:=by kernel_rfl) :
  T1 h (.obj b (ls.set p (.sl es (some u)))::.tail u kk::XF [j,i] h):=Z6v j i p hp hes hk hl
end
end Go.Abs
namespace Go.Abs
section
variable {P:Program} {n:Nat} {ops:Array Oper} {k:Nat} {F:Fr} {h:List Res}
theorem Z6g (j:Nat) {g l c m kk:Nat} {ls:List AV} (hi:BQ P ops F k=some (.val (.slice (some ⟨g,0,none⟩) l c),(m:Int))) (hj:h[j]? = some (.row (.slice (some ⟨g,0,none⟩) l c) kk ls)) (hle:m<=l) :
  XD P (ZC ops k) F h [] (.val (.slice (some ⟨g,0,none⟩) m c)):=by
 unfold BQ at hi
 generalize hoo:ZC ops k=o at hi
 obtain ⟨dst,op,type,pos,after,guard⟩:=o
 cases op<;>simp only at hi<;>try (cases hi)
 rename_i t x lo hi' mx
 cases lo with
 | some _=>simp at hi
 | none=>
  cases hi' with
  | none=>simp at hi
  | some y=>
   cases mx with
   | some _=>simp at hi
   | none=>
    simp only at hi
    split at hi
    ·rename_i e ht
     split at hi
     ·rename_i inf hinf
      split at hi
      ·rename_i ik m' hm
       simp only [XW,Prod.mk.injEq] at hi
       obtain ⟨hx,rfl⟩:=hi
       intro n w G a hF hh
       have v1:=hF.ev x
       rw [hx] at v1
       have v1:=v1.val_inv
       have v2:=hF.ev y
       rw [hm] at v2
       have v2:=v2.val_inv
       have hcap:l<=c:=by
        rcases hh.ok _ (Y7 hj) with ⟨h0,_⟩|⟨g',l',c',cur,el,h0,_,hc,_⟩
        ·cases h0
        ·cases h0;exact hc
       refine ⟨_,.val,fun w' _ _=>?_⟩
       simp only [execOp,v1,v2,As,Option.map_none]
       refine Vg ?_
       simp only [Instr.sliceAt,Sem.run_bind,VI ht,Result.andThen_ok,Instr.slice]
       have hmm:(Instr.sliceBounds true l c none (some (.int ik (m:Int))) none).run P w'=.ok (0,m,c) w':=by
        have Zv:=fun q=>BO (P:=P) (c:=q) (v:=.int ik (m:Int)) (y:=c) rfl om om w'
        simp [Instr.sliceBounds,Zv]
       rw [hmm]
       have hz:∀a:Addr,a.add 0=a:=fun a=>by simp [Addr.add]
       simp only [Result.andThen_ok,TI hinf,Nat.zero_mul,hz]
       by_cases h0:c=0<;>simp [h0]
      ·cases hi
     ·cases hi
    ·cases hi
theorem Gm (j g l c m kk:Nat) (ls:List AV) (hle:m<=l:=by omega) (hi:BQ P ops F k=some (.val (.slice (some ⟨g,0,none⟩) l c),(m:Int)):=by kernel_rfl) (hj:h[j]? = some (.row (.slice (some ⟨g,0,none⟩) l c) kk ls):=by kernel_rfl) :
  XD P (ZC ops k) F h [] (.val (.slice (some ⟨g,0,none⟩) m c)):=Z6g j hi hj hle
variable {B:Fr->List Res->Prop}
end
end Go.Abs
end
namespace Go.Abs
theorem Yd {α:Type} {xs:List α} {k:Nat} {x:α} (h:xs[k]? = some x):xs.drop k=x::xs.drop (k+1):=by
 have hk:=(XM.1 h).1
 rw [Ob hk]
 congr 1
 rw [JC hk] at h
 exact JE h
theorem Xz {α:Type} {xs:List α} {k:Nat} (h:xs.length<=k):xs.drop k=[]:=EJ h
theorem WS {α:Type} {xs:List α} {k:Nat} {x:α} (h:xs[k]? = some x):xs.take (k+1)=xs.take k++[x]:=by
 rw [List.take_add_one,h];rfl
def Ys:List Zf->Nat
 | []=>0
 | d::ds=>d.cons.length+Ys ds
theorem C5 (xs ys:List Zf):Ys (xs++ys)=Ys xs+Ys ys:=by
 induction xs with
 | nil=>simp [Ys]
 | cons d ds ih=>simp [Ys,ih];omega
structure Wd (ds:List Zf):Prop where
 len:ds.length<=4
 cons:∀d∈ds,d.cons.length<=3
 fields:∀d∈ds,∀c∈d.cons,c.fields.length<=3
theorem Pp {ds:List Zf} {m:Nat} (h:∀d∈ds,d.cons.length<=m):Ys ds<=ds.length*m:=by
 induction ds with
 | nil=>simp [Ys]
 | cons d ds ih=>
  have h1:=h d (by simp)
  have h2:=ih (fun x hx=>h x (by simp [hx]))
  simp only [Ys,YQ,Tx];omega
theorem Wd.sum {ds:List Zf} (h:Wd ds):Ys ds<=12:=by
 have:=Pp h.cons
 have:=h.len
 have:ds.length*3<=4*3:=TQ 3 h.len
 omega
theorem Wd.take {ds:List Zf} (h:Wd ds) (k:Nat):Wd (ds.take k):=
 ⟨by have:=h.len;simp;omega,fun d hd=>h.cons d (TP hd),fun d hd=>h.fields d (TP hd)⟩
theorem Wd.cons_at {ds:List Zf} (h:Wd ds) {k:Nat} {d:Zf} (hd:ds[k]? = some d):d.cons.length<=3:=h.cons d (Y7 hd)
theorem Wd.fields_at {ds:List Zf} (h:Wd ds) {k j:Nat} {d:Zf} {c:Y3} (hd:ds[k]? = some d) (hc:d.cons[j]? = some c):c.fields.length<=3:=
 h.fields d (Y7 hd) c (Y7 hc)
def Un (c:Int):List Zf->Nat->Nat->Int × List Int
 | [],_,_=>(-1,[])
 | d::ds,i,first=>
  if (first:Int)<=c/\c<=((first+d.cons.length:Nat):Int)-1 then ((i:Int)+1,(d.cons[(c-first).toNat]?.map (·.fields)).getD []) else Un c ds (i+1) (first+d.cons.length)
def Xt (ds:List Zf) (c:Int):Int:=(Un c ds 0 0).1
def Zw (ds:List Zf) (c:Int):List Int:=(Un c ds 0 0).2
theorem Ff {c:Int}:∀{ds:List Zf} {i first:Nat},(Un c ds i first=(-1,[]) ∨
  ∃k d x,ds[k]? = some d/\(first+Ys (ds.take k):Int)<=c/\c<first+Ys (ds.take k)+d.cons.length/\d.cons[(c-(first+Ys (ds.take k))).toNat]? = some x/\Un c ds i first=((i:Int)+k+1,x.fields))
 | [],_,_=>.inl rfl
 | d::ds,i,first=>by
  rw [Un]
  split
  ·rename_i h
   have hlt:(c-first).toNat<d.cons.length:=by omega
   refine .inr ⟨0,d,d.cons[(c-first).toNat],rfl,by simp [Ys];omega,by simp [Ys];omega,?_,?_⟩
   ·simp [Ys]
   ·rw [JC hlt];simp
  ·rcases Ff (c:=c) (ds:=ds) (i:=i+1) (first:=first+d.cons.length) with h|⟨k,e,x,h1,h2,h3,h4,h5⟩
   ·exact .inl h
   ·refine .inr ⟨k+1,e,x,by simpa using h1,by simp [Ys];omega,by simp [Ys];omega,?_,?_⟩
    ·rw [<-h4];congr 3;simp [Ys];omega
    ·rw [h5];congr 1;omega
theorem Fg {ds:List Zf} {c:Int} (h:¬Xt ds c<1) :
  ∃k d x,ds[k]? = some d/\(Ys (ds.take k):Int)<=c/\d.cons[(c-Ys (ds.take k)).toNat]? = some x/\Xt ds c=(k:Int)+1/\Zw ds c=x.fields:=by
 rcases Ff (c:=c) (ds:=ds) (i:=0) (first:=0) with h1|⟨k,d,x,h1,h2,_,h4,h5⟩
 ·simp [Xt,h1] at h
 ·exact ⟨k,d,x,h1,by simpa using h2,by simpa using h4,by simp [Xt,h5],by simp [Zw,h5]⟩
theorem Dl {ds:List Zf} {c:Int} (h:Xt ds c<1):Zw ds c=[]/\Xt ds c=-1:=by
 rcases Ff (c:=c) (ds:=ds) (i:=0) (first:=0) with h1|⟨k,d,x,h1,h2,_,h4,h5⟩
 ·simp [Zw,Xt,h1]
 ·simp [Xt,h5] at h;omega
def WA (first:Int):Nat->List Int
 | 0=>[]
 | n+1=>first::WA (first+1) n
theorem Mc (first:Int) (n:Nat):WA first (n+1)=WA first n++[first+n]:=by
 induction n generalizing first with
 | zero=>simp [WA]
 | succ n ih=>rw [WA,ih (first+1),WA];simp;omega
@[simp] theorem Z2k (first:Int) (n:Nat):(WA first n).length=n:=by
 induction n generalizing first with
 | zero=>rfl
 | succ n ih=>simp [WA,ih]
def Zt (ds:List Zf) (t:Int):List Int:=
 if 1<=t/\t<=ds.length then WA (Ys (ds.take (t-1).toNat)) (((ds[(t-1).toNat]?).map (·.cons.length)).getD 0) else []
def Qb (frm to_:Int):List Zf->Nat->Int
 | [],_=>-1
 | d::ds,i=>if d.cons.length=0/\d.frm=frm/\d.to_=to_ then (i:Int)+1 else Qb frm to_ ds (i+1)
def WX (ds:List Zf) (frm to_:Int):Int:=Qb frm to_ ds 0
def X7 (ds:List Zf) (t:Int):Bool:=decide (1<=t/\t<=ds.length)&&((ds[(t-1).toNat]?).map fun d=>decide (d.cons.length=0)).getD false
theorem DW {ds:List Zf} {t:Int} {x:Zf} (h:1<=t/\t<=ds.length) (hx:ds[(t-1).toNat]? = some x):((x.cons.length:Int)==0)=X7 ds t:=by
 rw [X7,hx,Xo];simp [h]
theorem Gh {ds:List Zf} {t:Int} (h:¬(1<=t/\t<=ds.length)):false=X7 ds t:=by
 rw [X7,Xo];simp only [Bool.false_eq_true,W3,decide_eq_true_eq,h,false_and]
def X1 (m:Nat) (xs:List Int):Bool:=xs.all fun t=>decide (0<=t/\t<=m)
end Go.Abs
section
namespace Go.Abs
section
variable {h:List Res}
end
end Go.Abs
namespace Go.Abs
section
variable {P:Program} {ops:Array Oper} {k:Nat} {F:Fr} {h:List Res}
end
end Go.Abs
end
namespace Go.Abs
section
variable {P:Program} {n:Nat} {ops:Array Oper} {B:Fr->List Res->Prop} {k:Nat} {F:Fr} {h:List Res} {T:List (Nat × List Nat)} {fuel:Nat} {done:List Nat}
theorem Mp {K:Fr->List Res->Prop} {ls:List AV} {len sz:Nat} (hd:V5 n (ZC ops k)=true) (ha:UL P ops F k=some (ls,len,sz)) (hlen:ls.length=len*sz)
  (hK:∀g,K (F.put (ZC ops k).dst (.val (.slice (some ⟨g,0,none⟩) len len))) (.row (.slice (some ⟨g,0,none⟩) len len) sz ls::h)):Wj P n (ZC ops k) F h K:=by
 unfold UL at ha
 generalize hoo:ZC ops k=q at ha hd hK
 obtain ⟨dst,op,type,pos,after,guard⟩:=q
 cases op<;>simp only at ha<;>try (cases ha)
 rename_i t ln parts
 split at ha
 case h_2=>cases ha
 rename_i e ht
 split at ha
 case h_2=>cases ha
 rename_i i hi
 split at ha
 case h_2=>cases ha
 rename_i hc
 simp only [W3] at hc
 split at ha
 case h_2=>cases ha
 rename_i ls' hf
 simp only [XW,Prod.mk.injEq] at ha
 obtain ⟨rfl,rfl,XA⟩:=ha
 intro Q w G a hF hh
 obtain ⟨cs,h1,h2⟩:=Em hF parts ht hi rfl hc.1 hc.2 hf
 have hr:(execOp a.eval { dst:=dst,op:=.buildSlice t ln parts,type:=type,pos:=pos,after:=after,guard:=guard }).run P w =
   .ok (.value (.slice (some ⟨w.heap.size,0,none⟩) ln ln)) (w.alloc (.cells cs e)):=by
  simp only [execOp]
  exact Vg h2
 unfold Oper.wp
 rw [hr]
 have hlc:=h1.length
 simp only [Qq] at hlc
 obtain ⟨j1,j2⟩:=hh.alloc_rrow cs e (ls:=ls') (len:=ln) (cap:=ln) (k:=sz) (Xa _) (by rw [hlc];exact hlen) hlen (by rw [<-hlen,<-hlc];simpa [Vb] using h1)
 exact ⟨_,_,G,hK _,(hF.mono (j2.agree hh)).put (U9 hd) .val,j1,j2⟩
theorem VR (es es':List AV) (he:es=es') (len sz:Nat) (hK:∀v,SI P n ops B (k+1) (F.put (ZC ops k).dst (.sl es' (some v))) (.tail v sz::h)) (hk:X2 n ops F k=true:=by kernel_rfl)
  (ha:UL P ops F k=some (Zm es,len,sz):=by kernel_rfl) (hlen:es.length=len:=by kernel_rfl) (hall:J2 es sz=true:=by kernel_rfl):SI P n ops B k F h:=by
 subst he;exact iL es len sz hK hk ha hlen hall
theorem Wn (i:Nat) (js bs:List Nat) (es es':List AV) (he:es=es') (len sz:Nat) (hK:∀v,YK P n ops B (T.filter fun t=>!WD ops i t.1) fuel (done++[i]) (F.put (ZC ops i).dst (.sl es' (some v))) (.tail v sz::h))
  (hk:X2 n ops F i=true:=by kernel_rfl) (ha:UL P ops F i=some (Zm es,len,sz):=by kernel_rfl) (hlen:es.length=len:=by kernel_rfl) (hall:J2 es sz=true:=by kernel_rfl)
  (ho:Vx ops i T=bs:=by kernel_rfl) (hj:js.map (fun j=>(Wo h)[j]?)=bs.map some:=by kernel_rfl):V4 P n ops B T fuel done F h i:=by
 subst he;exact dL i js bs es len sz hK hk ha hlen hall ho hj
theorem iKN (ls:List AV) (len sz:Nat) (hK:∀g,SI P n ops B (k+1) (F.put (ZC ops k).dst (.val (.slice (some ⟨g,0,none⟩) len len))) (.row (.slice (some ⟨g,0,none⟩) len len) sz ls::h)) (hlen:ls.length=len*sz:=by rfl) (hk:X2 n ops F k=true:=by kernel_rfl)
  (ha:UL P ops F k=some (ls,len,sz):=by kernel_rfl):SI P n ops B k F h:=Tb hk (Mp (Vr hk).2.1 ha hlen hK)
theorem Pz (i:Nat) (js bs:List Nat) (ls:List AV) (len sz:Nat) (hK:∀g,YK P n ops B (T.filter fun t=>!WD ops i t.1) fuel (done++[i]) (F.put (ZC ops i).dst (.val (.slice (some ⟨g,0,none⟩) len len))) (.row (.slice (some ⟨g,0,none⟩) len len) sz ls::h)) (hlen:ls.length=len*sz:=by rfl)
  (hk:X2 n ops F i=true:=by kernel_rfl) (ha:UL P ops F i=some (ls,len,sz):=by kernel_rfl) (ho:Vx ops i T=bs:=by kernel_rfl) (hj:js.map (fun j=>(Wo h)[j]?)=bs.map some:=by kernel_rfl):V4 P n ops B T fuel done F h i:=
 Qf (h1:=[]) (h2:=h) [] js bs hk rfl ho hj (Mp (Vr hk).2.1 ha hlen hK)
end
theorem Zk.frz {P:Program} {f:FuncId} {as1:List AV} {h0:List Res} {E:Type} {kk:Nat} {es:E->List AV} {hs:E->List Res} {Q:E->Prop} (H:Zk P f as1 h0 (fun r h=>∃(e:E) (v:Hd),r=.h v/\h=rK v kk (Zm (es e))::hs e/\Q e)) (hes:∀e,∀y∈es e,y.leaves.length=kk) (hk:0<kk) :
  Zk P f as1 h0 (fun r h=>∃(e:E) (v:Value),r=.sl (es e) (some v)/\h=.tail v kk::hs e/\Q e):=by
 intro w G vs hv hh
 refine (H w G vs hv hh).mono ?_
 rintro e w' ⟨u,r,h',G',he,⟨x,v,rfl,rfl,hq⟩,hr,hh',hx⟩
 obtain ⟨G2,h1,h2,h3⟩:=BM hh' (hes x) hk
 have hrv:=hr.val_inv
 subst hrv
 exact ⟨_,_,_,G2,he,⟨x,v.v,rfl,rfl,hq⟩,h3,h1,hx.trans h2⟩
theorem DD {es:List AV} {sz k:Nat} {y:AV} (h:∀x∈es,x.leaves.length=sz) (hy:y.leaves.length=sz) (hk:k<es.length):(Zm es).take (k*sz)++y.leaves++(Zm es).drop (k*sz+y.leaves.length)=Zm (es.set k y):=by
 obtain ⟨x,hx⟩:=Zu (xs:=es) (j:=k) hk
 have hxl:=h x (Y7 hx)
 have e1:es=es.take k++(x::es.drop (k+1)):=by rw [<-Yd hx,UC]
 have e2:es.set k y=es.take k++(y::es.drop (k+1)):=by rw [CZ,Zj hk]
 have hl:(Zm (es.take k)).length=k*sz:=by rw [UU (k:=sz) _ (fun z hz=>h z (TP hz)),Wp,Vs om]
 have e3:Zm es=Zm (es.take k)++(x.leaves++Zm (es.drop (k+1))):=by
  conv=>lhs;rw [e1,TD]
  simp [Zm]
 rw [e2,TD,e3,GW hl (by rw [hxl,hy])]
 simp [Zm]
theorem R5 (ds:List Zf) (k:Nat) (d:Zf):YV (ds.set k d)=(YV ds).set k (Ul d):=by simp [YV,List.map_set]
theorem AJ (xs:List Zf):(Zm (YV xs)).length=xs.length*3:=by rw [UU (k:=3) _ (K6 xs)];simp
theorem Dz {ds:List Zf} {k:Nat} (d:Zf) (hk:k<ds.length):(Zm (YV ds)).take (k*3)++Wy d++(Zm (YV ds)).drop (k*3+3)=Zm (YV (ds.set k d)):=by
 rw [R5];exact DD (y:=Ul d) (K6 ds) rfl (by simpa using hk)
theorem FJ (xs ys:List Zf):Zm (YV xs)++Zm (YV ys)=Zm (YV (xs++ys)):=by rw [R4,TD]
section
variable {P:Program} {n:Nat} {ops:Array Oper} {B:Fr->List Res->Prop} {k:Nat} {F:Fr} {h:List Res}
theorem DO (j m:Nat) {v:Hd} {kk:Nat} {ls:List AV} (hm:ls.length=m*kk) (h0:0<m) (H:∀g c',v=⟨some ⟨g,0,none⟩,m,c'⟩->SI P n ops B k F h) (hk:0<kk:=by omega) (hj:h[j]? = some (rK v kk ls):=by kernel_rfl):SI P n ops B k F h:=by
 intro Q w G a hF hh hq
 obtain ⟨g,c',e⟩:=MP (hh.ok _ (Y7 hj)) hm hk h0
 exact H g c' e Q w G a hF hh hq
end
section
variable {P:Program} {n:Nat} {ops:Array Oper} {B:Fr->List Res->Prop} {k:Nat} {F:Fr} {h:List Res}
def Fh (P:Program) (ops:Array Oper) (F:Fr) (k:Nat):Option (IntKind × Int):=
 match (ZC ops k).op with
 | .convert s d x=>match P.underlying s,P.underlying d,F.ev x with
  | some (.int _),some (.int q),.val (.int _ z)=>some (q,z)
  | _,_,_=>none
 | _=>none
theorem kCv (q:IntKind) (z z':Int) (e:q.wrap z=z') (hc:Fh P ops F k=some (q,z):=by kernel_rfl):XD P (ZC ops k) F h [] (.val (.int q z')):=by
 unfold Fh at hc
 generalize hoo:ZC ops k=o at hc
 obtain ⟨dst,op,type,pos,after,guard⟩:=o
 cases op<;>simp only at hc<;>try (cases hc)
 rename_i s d x
 split at hc
 ·rename_i q1 q2 q3 z2 h1 h2 h3
  cases hc
  intro n w G ac hF hh
  have v1:=hF.ev x
  rw [h3] at v1
  have v1:=v1.val_inv
  refine ⟨_,.val,fun w' _ _=>?_⟩
  simp only [execOp,v1]
  refine Vg ?_
  simp [convert,VI h1,VI h2,Conv.intToInt,e]
 ·cases hc
theorem HE {z:Int} (h:0<=z/\z<=9223372036854775807):IntKind.i64.wrap z=z:=IntWalk.i64_in _ om
theorem BB (z:Int) (hz:0<=z/\z<=255) (hc:Fh P ops F k=some (.i64,z):=by kernel_rfl):XD P (ZC ops k) F h [] (.i z):=kCv .i64 z z (HE om) hc
def JR (ops:Array Oper) (F:Fr) (k:Nat) (b:BinOp):Option (Int × Int):=
 match (ZC ops k).op with
 | .binOp c _ x y _=>if c==b then match F.ev x,F.ev y with
  | .val (.int .i64 z),.val (.int .i64 u)=>some (z,u)
  | _,_=>none else none
 | _=>none
theorem Gn (a b:Int) (hb:0<b) (ha:0<=a/\a<=9223372036854775807) (hc:JR ops F k .quo=some (a,b):=by kernel_rfl):XD P (ZC ops k) F h [] (.i (a / b)):=by
 unfold JR at hc
 generalize hoo:ZC ops k=o at hc
 obtain ⟨dst,op,type,pos,after,guard⟩:=o
 cases op<;>simp only at hc<;>try (cases hc)
 rename_i bop t x y yt
 cases bop<;>simp only [Zh,reduceCtorEq,if_false,if_true] at hc<;>try (cases hc)
 split at hc
 ·rename_i z yk h1 h2
  cases hc
  intro n' w G ac hF hh
  have v1:=hF.ev x
  have v2:=hF.ev y
  rw [h1] at v1
  rw [h2] at v2
  have v1:=v1.val_inv
  have v2:=v2.val_inv
  refine ⟨_,.val,fun w' _ _=>?_⟩
  simp only [execOp,v1,v2]
  refine Vg ?_
  have e1:a.tdiv b=a / b:=Int.tdiv_eq_ediv_of_nonneg ha.1
  have e2:IntKind.i64.wrap (a / b)=a / b:=HE ⟨Int.ediv_nonneg ha.1 om,Int.le_trans (Int.ediv_le_self b ha.1) ha.2⟩
  have e3:b≠0:=by omega
  simp [eqGuard,binOp,Op.intDiv,e1,e2,e3]
 ·cases hc
theorem Cu (a b:Int) (hb:0<b) (ha:0<=a) (hc:JR ops F k .rem=some (a,b):=by kernel_rfl):XD P (ZC ops k) F h [] (.i (a % b)):=by
 unfold JR at hc
 generalize hoo:ZC ops k=o at hc
 obtain ⟨dst,op,type,pos,after,guard⟩:=o
 cases op<;>simp only at hc<;>try (cases hc)
 rename_i bop t x y yt
 cases bop<;>simp only [Zh,reduceCtorEq,if_false,if_true] at hc<;>try (cases hc)
 split at hc
 ·rename_i z yk h1 h2
  cases hc
  intro n' w G ac hF hh
  have v1:=hF.ev x
  have v2:=hF.ev y
  rw [h1] at v1
  rw [h2] at v2
  have v1:=v1.val_inv
  have v2:=v2.val_inv
  refine ⟨_,.val,fun w' _ _=>?_⟩
  simp only [execOp,v1,v2]
  refine Vg ?_
  have e1:a.tmod b=a % b:=Int.tmod_eq_emod_of_nonneg ha
  have e3:b≠0:=by omega
  simp [eqGuard,binOp,Op.intDiv,e1,e3]
 ·cases hc
theorem AS (a b:Nat) (hb:0<b) (ha:a<=9223372036854775807) (hc:JR ops F k .quo=some ((a:Int),(b:Int)):=by kernel_rfl):XD P (ZC ops k) F h [] (.i (a / b:Nat)):=by
 rw [Int.natCast_ediv];exact Gn a b om om hc
theorem DX (a b:Nat) (hb:0<b) (_ha:a<=9223372036854775807) (hc:JR ops F k .rem=some ((a:Int),(b:Int)):=by kernel_rfl):XD P (ZC ops k) F h [] (.i (a % b:Nat)):=by
 rw [Int.natCast_emod];exact Cu a b om om hc
def TN (a b:Int):Int:=IntKind.i64.wrap ((BitVec.ofInt 64 a ^^^ BitVec.ofInt 64 b).toNat:Int)
theorem EH {a b:Int} (ha:0<=a/\a<4611686018427387904) (hb:0<=b/\b<4611686018427387904):0<=TN a b/\TN a b<4611686018427387904:=by
 obtain ⟨x,rfl⟩:=Int.eq_ofNat_of_zero_le ha.1
 obtain ⟨y,rfl⟩:=Int.eq_ofNat_of_zero_le hb.1
 have h1:(BitVec.ofInt 64 (x:Int) ^^^ BitVec.ofInt 64 (y:Int)).toNat=x ^^^ y:=by
  rw [BitVec.toNat_xor,BitVec.toNat_ofInt,BitVec.toNat_ofInt]
  have e1:((x:Int) % ((2 ^ 64:Nat):Int)).toNat=x:=by omega
  have e2:((y:Int) % ((2 ^ 64:Nat):Int)).toNat=y:=by omega
  rw [e1,e2]
 have h2:x ^^^ y<2 ^ 62:=Nat.xor_lt_two_pow om om
 rw [TN,h1,HE om]
 omega
theorem Lz (a b:Int) (hc:JR ops F k .xor=some (a,b):=by kernel_rfl):XD P (ZC ops k) F h [] (.i (TN a b)):=by
 unfold JR at hc
 generalize hoo:ZC ops k=o at hc
 obtain ⟨dst,op,type,pos,after,guard⟩:=o
 cases op<;>simp only at hc<;>try (cases hc)
 rename_i bop t x y yt
 cases bop<;>simp only [Zh,reduceCtorEq,if_false,if_true] at hc<;>try (cases hc)
 split at hc
 ·rename_i z yk h1 h2
  cases hc
  intro n' w G ac hF hh
  have v1:=hF.ev x
  have v2:=hF.ev y
  rw [h1] at v1
  rw [h2] at v2
  have v1:=v1.val_inv
  have v2:=v2.val_inv
  refine ⟨_,.val,fun w' _ _=>?_⟩
  simp only [execOp,v1,v2]
  refine Vg ?_
  simp [eqGuard,binOp,Op.intBits,IntKind.bits]
  exact Yw (fun z:Nat=>IntKind.i64.wrap (z:Int)) (by rw [BitVec.toNat_xor,BitVec.toNat_ofInt,BitVec.toNat_ofInt];rfl)
 ·cases hc
end
end Go.Abs
section
namespace Go.Abs
inductive Z2 where
 | mk (op num:Int) (kids:List Z2)
namespace Z2
def op:Z2->Int|.mk a _ _=>a
def num:Z2->Int|.mk _ a _=>a
def kids:Z2->List Z2|.mk _ _ a=>a
end Z2
structure Func where
 params:List Int
 result:Int
 body:Z2
structure XV where
 decls:List Zf
 funcs:List Func
instance:Inhabited Z2:=⟨.mk 0 0 []⟩
mutual
def Fz:Z2->AV
 | .mk op num kids=>.agg [.i op,.i num,.sl (Yr kids) none]
def Yr:List Z2->List AV
 | []=>[]
 | e::r=>Fz e::Yr r
end
abbrev ZE (e:Z2):AV:=.agg [.i e.op,.i e.num,.sl (Yr e.kids) none]
abbrev Yy (e:Z2):List AV:=[.i e.op,.i e.num,.sl (Yr e.kids) none]
abbrev X5 (xs:List Z2):AV:=.sl (Yr xs) none
abbrev XR (xs:List Z2) (v:Value):AV:=.sl (Yr xs) (some v)
abbrev J1 (f:Func):AV:=.agg [Z0 f.params,.i f.result,.i f.body.op,.i f.body.num,X5 f.body.kids]
abbrev Cv (f:Func):List AV:=[Z0 f.params,.i f.result,.i f.body.op,.i f.body.num,X5 f.body.kids]
def Xc (xs:List Func):List AV:=xs.map J1
abbrev BF (xs:List Func):AV:=.sl (Xc xs) none
abbrev Jr (xs:List Func) (v:Value):AV:=.sl (Xc xs) (some v)
abbrev Tl (p:XV):AV:=.agg [Zd p.decls,BF p.funcs]
abbrev Jo (p:XV):List AV:=[Zd p.decls,BF p.funcs]
abbrev ET (z:Int):AV:=.val (.int .u8 z)
def T6 (xs:List Int):List AV:=xs.map ET
abbrev Xb (xs:List Int):AV:=.sl (T6 xs) none
theorem R6 (e:Z2):Fz e=ZE e:=by cases e;rw [Fz];rfl
theorem XE:∀xs:List Z2,Yr xs=xs.map ZE
 | []=>by rw [Yr];rfl
 | s::ss=>by rw [Yr,XE ss,R6];rfl
theorem Bn {xs:List Z2} {j:Nat} {x:Z2} (h:xs[j]? = some x):(Yr xs)[j]? = some (ZE x):=by simp [XE,h]
theorem Dp {xs:List Func} {j:Nat} {x:Func} (h:xs[j]? = some x):(Xc xs)[j]? = some (J1 x):=by simp [Xc,h]
theorem Bj {xs:List Int} {j:Nat} {x:Int} (h:xs[j]? = some x):(T6 xs)[j]? = some (ET x):=by simp [T6,h]
@[simp] theorem FA (xs:List Z2):(Yr xs).length=xs.length:=by simp [XE]
@[simp] theorem Bo (xs:List Func):(Xc xs).length=xs.length:=by simp [Xc]
@[simp] theorem QC (xs:List Int):(T6 xs).length=xs.length:=by simp [T6]
theorem Kv (xs ys:List Z2):Yr (xs++ys)=Yr xs++Yr ys:=by simp [XE]
theorem R7 (xs ys:List Func):Xc (xs++ys)=Xc xs++Xc ys:=by simp [Xc]
theorem Fv (xs:List Int) (n:Nat):(T6 xs).take n=T6 (xs.take n):=by simp [T6]
theorem Fu (xs:List Int) (n:Nat):(T6 xs).drop n=T6 (xs.drop n):=by simp [T6]
theorem Uq (xs:List Z2):∀y∈Yr xs,y.leaves.length=3:=by intro y hy;simp only [XE,W4] at hy;obtain ⟨x,_,rfl⟩:=hy;rfl
theorem Dq (xs:List Func):∀y∈Xc xs,y.leaves.length=5:=by intro y hy;simp only [Xc,W4] at hy;obtain ⟨x,_,rfl⟩:=hy;rfl
theorem R0 (xs:List Int):∀y∈T6 xs,y.leaves.length=1:=by intro y hy;simp only [T6,W4] at hy;obtain ⟨x,_,rfl⟩:=hy;rfl
theorem Kw (xs:List Z2):(Zm (Yr xs)).all AV.one=true:=KA fun y hy=>by simp only [XE,W4] at hy;obtain ⟨x,_,rfl⟩:=hy;rfl
end Go.Abs
end
section
namespace Go.Abs
open Go.Proofs Go.Proofs.YthllacimcjakdaaGreat
section
variable {H:Type} {enc:TypeId × Value->H} {w:World}
def GA (w:World):Yb:=fun b _=>b<w.heap.size
abbrev Tr (enc:TypeId × Value->H) (w:World) (n:Nat) (t:TypeId) (cs:List Value) (x:DataW H × List MemPlace):Prop:=DataW.trod enc Tryz.prog w 0 (fun _=>true) true n t cs=some x
theorem M0 {w:World} {a:Addr} {v:Value} (h:w.cell? a=some v):a.block<w.heap.size/\a.spot=none:=by
 unfold World.cell? at h
 split at h
 ·rename_i c e fr hb
  split at h
  ·cases h
  ·rename_i hs
   exact ⟨(U4.1 hb).1,by simpa using hs⟩
 ·cases h
theorem I8 {α:Type} {c:α->Nat}:∀{xs:List α} {ds:List (DataW H)},xs.length=ds.length->(∀(i:Nat) a d,xs[i]? = some a->ds[i]? = some d->c a+1<=Rows.uptoBulk d)->(xs.map fun a=>c a+1).sum<=Rows.uptoBulkAll ds
 | [],[],_,_=>Xa _
 | a::r,d::ds,hl,h=>by
  have h0:=h 0 a d rfl rfl
  have h1:=I8 (c:=c) (xs:=r) (ds:=ds) (by simpa using hl) fun i a d ha hd=>h (i+1) a d (by simpa using ha) (by simpa using hd)
  rw [Uk,List.sum_cons,Rows.uptoBulkAll]
  omega
theorem MH {α:Type} {f:α->AV} {G:Yb} {k b:Nat} (hf:∀x,(f x).leaves.length=k):∀{xs:List α} {o:Nat},(∀(i:Nat) a,xs[i]? = some a->We w G b (o+i*k) (f a).leaves)->WU w G k b o (xs.map f)
 | [],_,_=>.nil
 | x::r,o,h=>by
  refine .cons (hf x) (by have:=h 0 x rfl;simpa using this) (MH hf fun i a ha=>?_)
  have:=h (i+1) a (by simpa using ha)
  rw [show o+(i+1)*k=o+k+i*k by rw [Tx];omega] at this
  exact this
theorem Z3e {α:Type} [Inhabited α] {t e k:Nat} (ht:Tryz.prog.underlying t=some (.slice e)) (hk:Tryz.prog.cellsOf e=k) (h0:0<k) (f:α->AV) (hf:∀x,(f x).leaves.length=k) (c:α->Nat) (Q:α->Prop) {n:Nat} {cs:List Value} {x:DataW H × List MemPlace}
  (h:Tr enc w n t cs x) (el:∀m cs y,m<n->Tr enc w m e cs y->∃a:α,YO w (GA w) (f a).leaves cs/\c a+1<=Rows.uptoBulk y.1/\Q a) :
  ∃(v:Value) (xs:List α),cs=[v]/\RV w (GA w) (.sl (xs.map f) none) v/\(xs.map fun a=>c a+1).sum+1<=Rows.uptoBulk x.1/\∀a∈xs,Q a:=by
 rcases DataW.trod_slice ht h with ⟨rfl,rfl⟩|⟨a,len,cap,elems,rest,m,rfl,rfl,rfl,_,hlc,_,hlen,hel,_,_⟩
 ·exact ⟨_,[],rfl,.nil (by simp),by simp [Rows.uptoBulk],by simp⟩
 ·rw [hk] at hel
  have hone:∀i,i<len->∃z:α,∃cs' y,w.cells? 0 (a.add (i*k)) k=some cs'/\elems[i]? = some y/\YO w (GA w) (f z).leaves cs'/\c z+1<=Rows.uptoBulk y.1/\Q z:=by
   intro i hi
   have h1:=hel i hi
   rw [JC om] at h1
   obtain ⟨cs',h2,h3⟩:=Option.bind_eq_some_iff.1 h1
   obtain ⟨z,hz1,hz2,hz3⟩:=el m cs' _ om h3
   exact ⟨z,cs',_,h2,JC om,hz1,hz2,hz3⟩
  obtain ⟨V,hV⟩:=Go.Deep.choose_lt hone
  refine ⟨_,(List.range len).map V,rfl,?_,?_,?_⟩
  ·cases hl0:len with
   | zero=>exact .nil (by simp)
   | succ q=>
    have hsp:a.spot=none:=by
     obtain ⟨cs',y,g1,_⟩:=hV 0 om
     obtain ⟨_,g2,g3⟩:=World.cells?_some g1
     have g4:=g3 0 h0
     rw [JC om] at g4
     have g5:=(M0 g4).2
     simpa [Addr.add] using g5
    obtain ⟨b,o,sp⟩:=a
    simp only at hsp
    subst hsp
    rw [<-hl0]
    have hll:(((List.range len).map V).map f).length=len:=by simp
    have:=RV.sl (w:=w) (G:=GA w) (es:=((List.range len).map V).map f) (hv:=none) (b:=b) (o:=o) (k:=k) (cap:=cap) (by simp) (by rw [hll];exact hlc) (MH hf fun i z hz=>by
     have hi:i<len:=by have:=(XM.1 hz).1;simpa using this
     have hz':V i=z:=by simpa [hi] using hz
     obtain ⟨cs',y,g1,_,g2,_⟩:=hV i hi
     rw [hz'] at g2
     obtain ⟨_,g3,g4⟩:=World.cells?_some g1
     refine We.of_cells g2 fun j u hj=>?_
     have hjl:j<k:=by have:=(XM.1 hj).1;omega
     have g5:=(g4 j hjl).trans hj
     rw [Addr.add_lit,Addr.add_lit] at g5
     exact ⟨g5,(M0 g5).1⟩)
    rw [hll] at this
    exact this
  ·have:=I8 (c:=c) (xs:=(List.range len).map V) (ds:=elems.map (·.1)) (by simp [hlen]) fun i z d hz hd=>by
    have hi:i<len:=by have:=(XM.1 hz).1;simpa using this
    have hz':V i=z:=by simpa [hi] using hz
    obtain ⟨cs',y,_,g1,_,g2,_⟩:=hV i hi
    rw [Kk,g1] at hd
    simp only [As,XW] at hd
    rw [<-hd,<-hz']
    exact g2
   simp only [Rows.uptoBulk]
   omega
  ·intro z hz
   obtain ⟨i,hi,rfl⟩:=W4.1 hz
   obtain ⟨_,_,_,_,_,_,g⟩:=hV i (List.mem_range.1 hi)
   exact g
theorem Z3c {n:Nat} {cs:List Value} {x:DataW H × List MemPlace} (h:Tr enc w n 5 cs x):∃z:Int,cs=[.int .u8 z]/\Rows.uptoBulk x.1=1/\0<=z/\z<=255:=by
 obtain ⟨z,rfl,rfl,hw⟩:=DataW.trod_int Tryz.underlying5 h
 refine ⟨z,rfl,rfl,?_⟩
 simpa [Lit.wf,IntKind.min,IntKind.max,IntKind.signed,IntKind.bits] using hw
theorem Z3d {n:Nat} {cs:List Value} {x:DataW H × List MemPlace} (h:Tr enc w n 22 cs x):∃(v:Value) (xs:List Int),cs=[v]/\RV w (GA w) (Xb xs) v/\∀z∈xs,0<=z/\z<=255:=by
 obtain ⟨v,xs,h1,h2,h3,h4⟩:=Z3e Tryz.underlying22 (k:=1) kr om (fun z:Int=>ET z) (fun _=>rfl) (fun _=>0) (fun z=>0<=z/\z<=255) h fun m cs y _ hy=>by
  obtain ⟨z,rfl,hb,hz⟩:=Z3c hy
  exact ⟨z,.cons .val .nil,Nat.le_of_eq hb.symm,hz⟩
 exact ⟨v,xs,h1,h2,h4⟩
end
end Go.Abs
end
namespace Go.Abs
structure Sg where
 params:List Int
 result:Int
abbrev HJ (f:Sg):AV:=.agg [.sl (Z8 f.params) none,.i f.result,.i 0,.i 0,.sl [] none]
def Wr (fs:List Sg):List AV:=fs.map HJ
theorem FC {xs:List Sg} {j:Nat} {x:Sg} (h:xs[j]? = some x):(Wr xs)[j]? = some (HJ x):=by simp [Wr,h]
@[simp] theorem Iu (xs:List Sg):(Wr xs).length=xs.length:=by simp [Wr]
theorem It (xs:List Sg):∀y∈Wr xs,y.leaves.length=5:=by intro y hy;simp only [Wr,W4] at hy;obtain ⟨x,_,rfl⟩:=hy;rfl
theorem Rd (xs:List Sg):(Zm (Wr xs)).all AV.one=true:=KA fun y hy=>by simp only [Wr,W4] at hy;obtain ⟨x,_,rfl⟩:=hy;rfl
mutual
def Z4.sz:Z4->Nat
 | .mk _ _ _ args kids=>1+args.length+YW kids
def Z5.sz:Z5->Nat
 | .mk steps _=>1+Yk steps
def Yk:List Z4->Nat
 | []=>0
 | s::r=>s.sz+Yk r
def YW:List Z5->Nat
 | []=>0
 | b::r=>b.sz+YW r
end
theorem Z4.sz_pos (s:Z4):1<=s.sz:=by cases s;rw [Z4.sz];omega
theorem Z5.sz_pos (b:Z5):1<=b.sz:=by cases b;rw [Z5.sz];omega
theorem Kf (l:List Z4):l.length<=Yk l:=by
 induction l with
 | nil=>simp
 | cons s r ih=>have:=s.sz_pos;simp only [YQ,Yk];omega
theorem I5 (l:List Z5):l.length<=YW l:=by
 induction l with
 | nil=>simp
 | cons s r ih=>have:=s.sz_pos;simp only [YQ,YW];omega
theorem Z60 {l:List Z4} {k:Nat} {s:Z4} (h:l[k]? = some s):s.sz<=Yk l:=by
 induction l generalizing k with
 | nil=>simp at h
 | cons t r ih=>
  cases k with
  | zero=>simp at h;subst h;simp only [Yk];omega
  | succ k=>have:=ih (k:=k) (by simpa using h);simp only [Yk];omega
theorem OT {l:List Z5} {k:Nat} {s:Z5} (h:l[k]? = some s):s.sz<=YW l:=by
 induction l generalizing k with
 | nil=>simp at h
 | cons t r ih=>
  cases k with
  | zero=>simp at h;subst h;simp only [YW];omega
  | succ k=>have:=ih (k:=k) (by simpa using h);simp only [YW];omega
theorem Z4.sz_eq (s:Z4):s.sz=1+s.args.length+YW s.kids:=by cases s;rw [Z4.sz];rfl
theorem Z5.sz_eq (b:Z5):b.sz=1+Yk b.steps:=by cases b;rw [Z5.sz];rfl
theorem KQ {b:Z5} {k:Nat} {s:Z4} (h:b.steps[k]? = some s):s.sz<b.sz:=by have:=Z60 h;have:=b.sz_eq;omega
theorem Tc {s:Z4} {k:Nat} {b:Z5} (h:s.kids[k]? = some b):b.sz<s.sz:=by have:=OT h;have:=s.sz_eq;omega
theorem Qa (s:Z4):s.args.length<s.sz:=by have:=s.sz_eq;omega
theorem Td (s:Z4):s.kids.length<s.sz:=by have:=s.sz_eq;have:=I5 s.kids;omega
theorem Vz (b:Z5):b.steps.length<b.sz:=by have:=b.sz_eq;have:=Kf b.steps;omega
structure Qu (ds:List Zf):Prop where
 len:ds.length<=4194304
 cons:∀d∈ds,d.cons.length<=4194304
 fields:∀d∈ds,∀c∈d.cons,c.fields.length<=4194304
theorem Qu.cons_at {ds:List Zf} (h:Qu ds) {k:Nat} {d:Zf} (hd:ds[k]? = some d):d.cons.length<=4194304:=h.cons d (Y7 hd)
theorem Qu.fields_at {ds:List Zf} (h:Qu ds) {k j:Nat} {d:Zf} {c:Y3} (hd:ds[k]? = some d) (hc:d.cons[j]? = some c):c.fields.length<=4194304:=
 h.fields d (Y7 hd) c (Y7 hc)
def K4 (m:Nat) (c:Y3):Bool:=decide (c.fields.length<=3)&&X1 m c.fields
def TU (d:Zf):List Zf->Bool
 | []=>false
 | e::r=>if e.cons.length=0/\e.frm=d.frm/\e.to_=d.to_ then true else TU d r
def UT (m:Nat):List Y3->Bool
 | []=>true
 | c::r=>if K4 m c=true then UT m r else false
def U0 (ds:List Zf) (d:Zf) (i:Nat):Bool:=
 if 0<d.cons.length then (if d.cons.length<=3/\d.frm=0/\d.to_=0 then UT ds.length d.cons else false)
 else if TU d (ds.take i)=true then false else decide (0<=d.frm/\d.frm<=ds.length)&&decide (0<=d.to_/\d.to_<=ds.length)
def JV (ds:List Zf) (i:Nat):Bool:=(ds[i]?.map fun d=>U0 ds d i).getD false
theorem C6 {ds:List Zf} {i:Nat} {d:Zf} (h:ds[i]? = some d):JV ds i=U0 ds d i:=by rw [JV,h];rfl
def Uo (ds:List Zf):List Zf->Nat->Bool
 | [],_=>true
 | _::r,i=>if JV ds i=true then Uo ds r (i+1) else false
def Wi (ds:List Zf):Bool:=decide (ds.length<=4)&&Uo ds ds 0
theorem Ii {m:Nat} {cs:List Y3}:UT m cs=true↔∀c∈cs,K4 m c=true:=by
 induction cs with
 | nil=>simp [UT]
 | cons c r ih=>
  rw [UT]
  split
  ·rename_i h;simp [ih,h]
  ·rename_i h;simp [h]
theorem Fn {ds:List Zf}:∀{l:List Zf} {i:Nat},Uo ds l i=true↔∀j<l.length,JV ds (i+j)=true
 | [],i=>by simp [Uo]
 | d::r,i=>by
  rw [Uo]
  split
  ·rename_i h
   rw [Fn (l:=r)]
   constructor
   ·intro hq j hj
    cases j with
    | zero=>exact h
    | succ j=>have:=hq j (by simpa using hj);rwa [show i+(j+1)=i+1+j by omega]
   ·intro hq j hj
    have:=hq (j+1) (by simpa using hj)
    rwa [show i+(j+1)=i+1+j by omega] at this
  ·rename_i h
   simp only [Bool.false_eq_true,false_iff]
   intro hq
   exact h (hq 0 (by simp))
theorem Z7a {ds:List Zf} (h:Wi ds=true):Wd ds:=by
 simp only [Wi,W3,decide_eq_true_eq] at h
 obtain ⟨h1,h2⟩:=h
 rw [Fn] at h2
 have key:∀d∈ds,∃i,U0 ds d i=true:=fun d hd=>by
  obtain ⟨i,hi⟩:=List.mem_iff_getElem?.1 hd
  have:=h2 i (XM.1 hi).1
  rw [WQ,C6 hi] at this
  exact ⟨i,this⟩
 have hc:∀d∈ds,0<d.cons.length->d.cons.length<=3/\UT ds.length d.cons=true:=fun d hd hp=>by
  obtain ⟨i,hi⟩:=key d hd
  rw [U0,Zj hp] at hi
  split at hi
  ·rename_i h;exact ⟨h.1,hi⟩
  ·cases hi
 refine ⟨h1,fun d hd=>?_,fun d hd c hc'=>?_⟩
 ·by_cases hp:0<d.cons.length
  ·exact (hc d hd hp).1
  ·omega
 ·have:=Ii.1 (hc d hd (List.length_pos_of_mem hc')).2 c hc'
  simp only [K4,W3,decide_eq_true_eq] at this
  exact this.1
theorem Wd.sz {ds:List Zf} (h:Wd ds):Qu ds:=
 ⟨by have:=h.len;omega,fun d hd=>by have:=h.cons d hd;omega,fun d hd c hc=>by have:=h.fields d hd c hc;omega⟩
def QS (m:Nat) (f:Sg):Bool:=decide (f.params.length<=3)&&(X1 m f.params&&decide (0<=f.result/\f.result<=m))
def QT (m:Nat):List Sg->Bool
 | []=>true
 | f::r=>if QS m f=true then QT m r else false
def Dy:List Sg->Bool
 | []=>false
 | f::_=>decide (f.params.length=0)&&decide (f.result=0)
theorem Rp {fs:List Sg} {x:Sg} (h:fs[0]? = some x):Dy fs=(decide (x.params.length=0)&&decide (x.result=0)):=by
 cases fs with
 | nil=>simp at h
 | cons f r=>simp at h;subst h;rfl
def Q6 (ds:List Zf) (fs:List Sg):Bool:=
 Wi ds&&(decide (1<=fs.length/\fs.length<=4)&&(QT ds.length fs&&Dy fs))
def Qi (ps:List Int):List Int->Option Int->Bool
 | [],_=>true
 | v::r,prev=>if (0<=v/\v<=(ps.length:Int)-1)/\ps[v.toNat]?≠some 0/\(∀p,prev=some p->p<v) then Qi ps r (some v) else false
theorem Gx {ps r:List Int} {v:Int} {prev:Option Int} (h:(0<=v/\v<=(ps.length:Int)-1)/\ps[v.toNat]?≠some 0/\(∀p,prev=some p->p<v)):Qi ps (v::r) prev=Qi ps r (some v):=by
 rw [Qi,Zj h]
theorem E5 {ps r:List Int} {v:Int} {prev:Option Int} (h:¬((0<=v/\v<=(ps.length:Int)-1)/\ps[v.toNat]?≠some 0/\(∀p,prev=some p->p<v))):Qi ps (v::r) prev=false:=by
 rw [Qi,Za h]
def QY (ps ls:List Int):Bool:=Qi ps ls none
def KF:List Yj->Bool
 | []=>true
 | r::rs=>if QY r.params r.lent=true then KF rs else false
def Vy (r:Yj):Sg:=⟨r.params,r.result⟩
def XI (n:Zx):Bool:=decide (n.routines.length<=4)&&(Q6 n.decls (n.routines.map Vy)&&KF n.routines)
end Go.Abs
section
namespace Go.Abs
def Xj {α:Type} (xs:List α) (i:Int):Option α:=if 0<=i/\i<=(xs.length:Int)-1 then xs[i.toNat]? else none
theorem Tz {α:Type} {xs:List α} {i:Int} {x:α} (h:0<=i/\i<=(xs.length:Int)-1) (hx:xs[i.toNat]? = some x):Xj xs i=some x:=by rw [Xj,Zj h,hx]
theorem Qc {α:Type} {xs:List α} {i:Int} (h:¬(0<=i/\i<=(xs.length:Int)-1)):Xj xs i=none:=by rw [Xj,Za h]
theorem JQ {α:Type} {xs:List α} {i:Int} {x:α} (h:Xj xs i=some x):(0<=i/\i<=(xs.length:Int)-1)/\xs[i.toNat]? = some x:=by
 rw [Xj] at h
 split at h
 ·rename_i h1;exact ⟨h1,h⟩
 ·cases h
def UO (vars:List Int):List Int->List Int->Bool
 | [],[]=>true
 | a::as1,t::ts=>if Xj vars a=some t then UO vars as1 ts else false
 | _,_=>false
def XS (vars args types:List Int):Bool:=UO vars args types
theorem NX {vars:List Int}:∀{args types:List Int},args.length≠types.length->UO vars args types=false
 | [],[],h=>absurd rfl h
 | [],_::_,_=>rfl
 | _::_,[],_=>rfl
 | a::as1,t::ts,h=>by
  rw [UO]
  split
  ·exact NX (by simpa using h)
  ·rfl
theorem Z71 {vars args types:List Int} {k:Nat} {a t:Int} (ha:args[k]? = some a) (ht:types[k]? = some t) (h:Xj vars a=some t) :
  UO vars (args.drop k) (types.drop k)=UO vars (args.drop (k+1)) (types.drop (k+1)):=by
 rw [Yd ha,Yd ht,UO,Zj h]
theorem NW {vars args types:List Int} {k:Nat} {a t:Int} (ha:args[k]? = some a) (ht:types[k]? = some t) (h:Xj vars a≠some t) :
  UO vars (args.drop k) (types.drop k)=false:=by
 rw [Yd ha,Yd ht,UO,Za h]
theorem Z70 {vars args types:List Int} {k:Nat} (ha:args.length<=k) (ht:types.length<=k):UO vars (args.drop k) (types.drop k)=true:=by
 rw [Xz ha,Xz ht];rfl
def WK (op:Int):Bool:=op==0||(op==6||(op==8||(op==9||op==10)))
def X3 (op:Int):Bool:=decide (0<=op/\op<=11)
def Ym (op:Int):Bool:=decide (14<=op/\op<=17)
def VK (vars:List Int) (op into:Int):Bool:=
 if into=0 then true else if op=6 then ((Xj vars (into-1)).map fun t=>decide (0<t)).getD false else false
def QA (ds:List Zf) (ps:List Int) (res:Int):Int:=WX ds (ps.getLast?.getD 0) res
def QQ (ds:List Zf) (vars:List Int) (op:Int) (args:List Int) (r:Yj):Int:=
 if op=9 then (if XS vars args r.params=true then r.result else -1)
 else if r.params.length=0∨0<r.lent.length∨¬XS vars args (r.params.take (r.params.length-1))=true then -1
 else QA ds r.params r.result
def TH (n:Zx) (vars:List Int) (op num:Int) (args:List Int):Int:=
 match Xj n.routines num with
 | none=>-1
 | some r=>QQ n.decls vars op args r
def Tn (ds:List Zf) (vars:List Int) (op:Int) (args:List Int):Int:=
 match args with
 | [a]=>match Xj vars a with
  | some t=>if t=0 then -1 else if (op≠14/\op≠15)/\X7 ds t=true then -1 else 0
  | none=>-1
 | _=>-1
def TT (ds:List Zf) (vars:List Int) (args:List Int):Int:=
 match args with
 | [a,b]=>match Xj vars a with
  | some t=>if X7 ds t=true then
    (match ds[(t-1).toNat]? with
     | some d=>if XS vars [b] [d.frm]=true then d.to_ else -1
     | none=>-1) else -1
  | none=>-1
 | _=>-1
def X8 (ds:List Zf) (op num:Int):List (List Int):=if op=7 then [[],[]] else (Zt ds num).map (Zw ds)
mutual
def ZJ (n:Zx) (vars:List Int):Z4->Int
 | .mk op num into args kids=>
  if (num≠0/\¬WK op=true)∨¬VK vars op into=true∨(0<kids.length/\op≠7/\op≠8) then -1
  else if op=0 then (if args.length=0/\(-999<=num/\num<=999) then 0 else -1)
  else if op=1∨op=2∨op=3∨op=4 then (if XS vars args [0,0]=true then 0 else -1)
  else if op=5 then (if XS vars args [0]=true then 0 else -1)
  else if op=6 then (if 0<Xt n.decls num/\XS vars args (Zw n.decls num)=true then Xt n.decls num else -1)
  else if op=7 then (if XS vars args [0]=true then (if (X8 n.decls op num).length=0∨kids.length≠(X8 n.decls op num).length then -1 else Wk n vars kids (X8 n.decls op num) true 0) else -1)
  else if op=8 then (if XS vars args [num]=true then (if (X8 n.decls op num).length=0∨kids.length≠(X8 n.decls op num).length then -1 else Wk n vars kids (X8 n.decls op num) true 0) else -1)
  else if op=9∨op=10 then TH n vars op num args
  else if op=11 then TT n.decls vars args
  else if op=14∨op=15∨op=16∨op=17 then Tn n.decls vars op args
  else -1
def Wk (n:Zx) (vars:List Int):List Z5->List (List Int)->Bool->Int->Int
 | [],_,_,t=>t
 | b::bs,more,first,t=>
  match more with
  | []=>-1
  | m::ms=>if YR n (vars++m) b<0∨(first=false/\YR n (vars++m) b≠t) then -1 else Wk n vars bs ms false (YR n (vars++m) b)
def Wh (n:Zx):List Z4->List Int->Option (List Int)
 | [],vars=>some vars
 | s::r,vars=>if ZJ n vars s<0 then none else Wh n r (if X3 s.op=true then vars++[ZJ n vars s] else vars)
def YR (n:Zx) (vars:List Int):Z5->Int
 | .mk steps result=>match Wh n steps vars with
  | none=>-1
  | some vs=>(Xj vs result).getD (-1)
end
def Ue (n:Zx) (vars:List Int) (op num:Int) (kids:List Z5):Int:=
 if (X8 n.decls op num).length=0∨kids.length≠(X8 n.decls op num).length then -1 else Wk n vars kids (X8 n.decls op num) true 0
mutual
def KD:Z4->Int->Int
 | .mk _ _ _ _ kids,left=>Te kids left
def XU:Z5->Int->Int
 | .mk steps _,left=>V1 steps left
def V1:List Z4->Int->Int
 | [],left=>left
 | s::r,left=>if left<1 then -1 else if KD s (left-1)<0 then -1 else V1 r (KD s (left-1))
def Te:List Z5->Int->Int
 | [],left=>left
 | b::r,left=>if XU b left<0 then -1 else Te r (XU b left)
end
def Wm (b:Z5):Int:=if XU b 600<0 then -1 else 600-XU b 600
def Jv (n:Zx):List Yj->Bool
 | []=>true
 | r::rs=>if ¬Wm r.body<0/\YR n r.params r.body=r.result then Jv n rs else false
def UP (n:Zx):Bool:=XI n&&Jv n n.routines
theorem E3:(∀(s:Z4) (l:Int),0<=l->KD s l<=l)/\(∀(b:Z5) (l:Int),0<=l->XU b l<=l):=by
 have key:∀m:Nat,(∀s:Z4,s.sz<=m->∀l:Int,0<=l->KD s l<=l)/\(∀b:Z5,b.sz<=m->∀l:Int,0<=l->XU b l<=l):=by
  intro m
  induction m with
  | zero=>exact ⟨fun s h=>by have:=s.sz_pos;omega,fun s h=>by have:=s.sz_pos;omega⟩
  | succ m ih=>
   refine ⟨fun s hs l hl=>?_,fun b hb l hl=>?_⟩
   ·cases s with
    | mk op num into args kids=>
     rw [KD]
     have hk:YW kids<=m:=by rw [Z4.sz] at hs;omega
     clear hs
     induction kids generalizing l with
     | nil=>rw [Te];exact Int.le_refl _
     | cons b r ihr=>
      rw [YW] at hk
      have:=ih.2 b om l hl
      rw [Te]
      split
      ·omega
      ·have:=ihr (XU b l) om om;omega
   ·cases b with
    | mk steps res=>
     rw [XU]
     have hk:Yk steps<=m:=by rw [Z5.sz] at hb;omega
     clear hb
     induction steps generalizing l with
     | nil=>rw [V1];exact Int.le_refl _
     | cons s r ihr=>
      rw [Yk] at hk
      rw [V1]
      split
      ·omega
      ·have:=ih.1 s om (l-1) om
       split
       ·omega
       ·have:=ihr (KD s (l-1)) om om;omega
 exact ⟨fun s l hl=>(key s.sz).1 s (Xa _) l hl,fun b l hl=>(key b.sz).2 b (Xa _) l hl⟩
end Go.Abs
namespace Go.Abs
theorem Z61 {l:List Z4} {k:Nat} {s:Z4} (h:l[k]? = some s):k+s.sz<=Yk l:=by
 induction l generalizing k with
 | nil=>simp at h
 | cons t r ih=>
  cases k with
  | zero=>simp at h;subst h;simp only [Yk];omega
  | succ k=>have:=ih (k:=k) (by simpa using h);have:=t.sz_pos;simp only [Yk];omega
theorem B3 {b:Z5} {k:Nat} {s:Z4} (h:b.steps[k]? = some s):k+s.sz<b.sz:=by have:=Z61 h;have:=b.sz_eq;omega
structure Xf (n:Zx):Prop where
 decls:Wd n.decls
 len:n.routines.length<=4
 params:∀r∈n.routines,r.params.length<=3
 lent:∀r∈n.routines,r.lent.length<=4194304
theorem Xf.params_at {n:Zx} (h:Xf n) {k:Nat} {r:Yj} (hr:n.routines[k]? = some r):r.params.length<=3:=h.params r (Y7 hr)
theorem Xf.lent_at {n:Zx} (h:Xf n) {k:Nat} {r:Yj} (hr:n.routines[k]? = some r):r.lent.length<=4194304:=h.lent r (Y7 hr)
theorem ON {ds:List Zf} {num:Int} {k:Nat} {x:Int} (h:(Zt ds num)[k]? = some x):(X8 ds 8 num)[k]? = some (Zw ds x):=by
 rw [X8,Za om,Kk,h];rfl
end Go.Abs
namespace Go.Abs
theorem GH {ds:List Zf} (hd:Wd ds) (t:Int):(Zt ds t).length<=3:=by
 rw [Zt]
 split
 ·rename_i h
  obtain ⟨d,hd1⟩:=Zu (xs:=ds) (j:=(t-1).toNat) om
  rw [hd1,Z2k]
  exact hd.cons_at hd1
 ·simp
theorem VN {ds:List Zf} (hd:Wd ds) (c:Int):(Zw ds c).length<=3:=by
 by_cases h:Xt ds c<1
 ·rw [(Dl h).1];simp
 ·obtain ⟨k,d,x,h1,_,h3,_,h5⟩:=Fg h
  rw [h5];exact hd.fields_at h1 h3
theorem HT {ds:List Zf} (hd:Wd ds) {op num:Int} {k:Nat} {m:List Int} (h:(X8 ds op num)[k]? = some m):m.length<=3:=by
 have hm:=Y7 h
 rw [X8] at hm
 split at hm
 ·simp at hm;subst hm;simp
 ·obtain ⟨c,_,rfl⟩:=W4.1 hm;exact VN hd c
theorem Qz {α:Type} {xs:List α} {x:α} (h:xs.length=1) (hx:xs[0]? = some x):xs=[x]:=by
 cases xs with
 | nil=>simp at h
 | cons a r=>
  cases r with
  | nil=>simp at hx;rw [hx]
  | cons b r=>simp at h
theorem Bh {ds:List Zf} {us args:List Int} {op:Int} (h:args.length≠1):Tn ds us op args=-1:=by
 cases args with
 | nil=>rfl
 | cons a r=>
  cases r with
  | nil=>simp at h
  | cons b r=>rfl
theorem Bi {ds:List Zf} {us args:List Int} {op a:Int} (h:args=[a]) (hi:¬(0<=a/\a<=(us.length:Int)-1)):Tn ds us op args=-1:=by
 subst h;rw [Tn];simp only [Qc hi]
theorem Bg {ds:List Zf} {us args:List Int} {op a t:Int} (h:args=[a]) (hi:0<=a/\a<=(us.length:Int)-1) (ht:us[a.toNat]? = some t) :
  Tn ds us op args=if t=0 then -1 else if (op≠14/\op≠15)/\X7 ds t=true then -1 else 0:=by
 subst h;rw [Tn];simp only [Tz hi ht]
theorem Z3q {n:Zx} {us args:List Int} {op num:Int} {r:Yj} (hi:0<=num/\num<=(n.routines.length:Int)-1) (hr:n.routines[num.toNat]? = some r) :
  TH n us op num args=QQ n.decls us op args r:=by
 rw [TH];simp only [Tz hi hr]
theorem Z3r {n:Zx} {us args:List Int} {op num:Int} (hi:¬(0<=num/\num<=(n.routines.length:Int)-1)):TH n us op num args=-1:=by
 rw [TH];simp only [Qc hi]
theorem Lh {xs:List Int} {x:Int} (h:xs[xs.length-1]? = some x):xs.getLast?.getD 0=x:=by
 rw [List.getLast?_eq_getElem?,h];rfl
theorem LM {n:Zx} {us:List Int} {bs:List Z5} {ms:List (List Int)} {b:Z5} {m:List Int} {k:Nat} {t:Int} (hb:bs[k]? = some b) (hm:ms[k]? = some m)
  (h:¬(YR n (us++m) b<0∨(k:Int)>0/\YR n (us++m) b≠t)) :
  Wk n us (bs.drop k) (ms.drop k) (decide (k=0)) t=Wk n us (bs.drop (k+1)) (ms.drop (k+1)) (decide (k+1=0)) (YR n (us++m) b):=by
 rw [Yd hb,Yd hm,Wk,Za]
 ·simp
 ·rintro (q|⟨q1,q2⟩)
  ·exact h (.inl q)
  ·exact h (.inr ⟨by simp at q1;omega,q2⟩)
theorem LK {n:Zx} {us:List Int} {bs:List Z5} {ms:List (List Int)} {b:Z5} {m:List Int} {k:Nat} {t:Int} (hb:bs[k]? = some b) (hm:ms[k]? = some m)
  (h:YR n (us++m) b<0∨(k:Int)>0/\YR n (us++m) b≠t) :
  Wk n us (bs.drop k) (ms.drop k) (decide (k=0)) t=-1:=by
 rw [Yd hb,Yd hm,Wk,Zj]
 rcases h with q|⟨q1,q2⟩
 ·exact .inl q
 ·exact .inr ⟨by simp;omega,q2⟩
theorem LL {n:Zx} {us:List Int} {bs:List Z5} {ms:List (List Int)} {k:Nat} {f:Bool} {t:Int} (hb:bs.length<=k):Wk n us (bs.drop k) (ms.drop k) f t=t:=by
 rw [Xz hb,Wk]
end Go.Abs
end
namespace Go.Abs
theorem B1 (n:Zx) (us:List Int) (s:Z4):ZJ n us s =
  if (s.num≠0/\¬WK s.op=true)∨¬VK us s.op s.into=true∨(0<s.kids.length/\s.op≠7/\s.op≠8) then -1
  else if s.op=0 then (if s.args.length=0/\(-999<=s.num/\s.num<=999) then 0 else -1)
  else if s.op=1∨s.op=2∨s.op=3∨s.op=4 then (if XS us s.args [0,0]=true then 0 else -1)
  else if s.op=5 then (if XS us s.args [0]=true then 0 else -1)
  else if s.op=6 then (if 0<Xt n.decls s.num/\XS us s.args (Zw n.decls s.num)=true then Xt n.decls s.num else -1)
  else if s.op=7 then (if XS us s.args [0]=true then Ue n us s.op s.num s.kids else -1)
  else if s.op=8 then (if XS us s.args [s.num]=true then Ue n us s.op s.num s.kids else -1)
  else if s.op=9∨s.op=10 then TH n us s.op s.num s.args
  else if s.op=11 then TT n.decls us s.args
  else if s.op=14∨s.op=15∨s.op=16∨s.op=17 then Tn n.decls us s.op s.args
  else -1:=by
 cases s with
 | mk op num into args kids=>rw [ZJ];rfl
theorem Dc (n:Zx) (us:List Int) (b:Z5):YR n us b=match Wh n b.steps us with
  | none=>-1
  | some vs=>(Xj vs b.result).getD (-1):=by
 cases b with
 | mk st r=>rw [YR];rfl
theorem HS {α:Type} {xs:List α} {x:α} (h:xs.length=2) (hx:xs[0]? = some x):∃y,xs=[x,y]:=by
 match xs,h with
 | [a,b],_=>simp at hx;subst hx;exact ⟨b,rfl⟩
theorem U7 {ds:List Zf} {us args:List Int} (h:args.length≠2):TT ds us args=-1:=by
 match args,h with
 | [],_=>rfl
 | [_],_=>rfl
 | [_,_],h=>simp at h
 | _::_::_::_,_=>rfl
theorem U8 {ds:List Zf} {us args:List Int} {a:Int} (hl:args.length=2) (h:args[0]? = some a) (hi:¬(0<=a/\a<=(us.length:Int)-1)):TT ds us args=-1:=by
 obtain ⟨y,rfl⟩:=HS hl h;rw [TT];simp only [Qc hi]
theorem VZ {ds:List Zf} {us args:List Int} {a t:Int} (hl:args.length=2) (h:args[0]? = some a) (hi:0<=a/\a<=(us.length:Int)-1) (ht:us[a.toNat]? = some t) :
  TT ds us args=if X7 ds t=true then
    (match ds[(t-1).toNat]? with
     | some d=>if XS us (args.drop 1) [d.frm]=true then d.to_ else -1
     | none=>-1) else -1:=by
 obtain ⟨y,rfl⟩:=HS hl h;rw [TT];simp only [Tz hi ht];rfl
theorem OG {ds:List Zf} {us args:List Int} {a t:Int} {d:Zf} (hl:args.length=2) (h:args[0]? = some a) (hi:0<=a/\a<=(us.length:Int)-1) (ht:us[a.toNat]? = some t)
  (hA:X7 ds t=true) (hd:ds[(t-1).toNat]? = some d):TT ds us args=if XS us (args.drop 1) [d.frm]=true then d.to_ else -1:=by
 rw [VZ hl h hi ht,Zj hA];simp only [hd]
theorem Gi {ds:List Zf} {t:Int} (h:X7 ds t=true):1<=t/\t<=ds.length:=by
 simp only [X7,W3,decide_eq_true_eq] at h;exact h.1
theorem LS (b:Z5) (l:Int):XU b l=V1 b.steps l:=by cases b;rw [XU];rfl
theorem E4 (s:Z4) (l:Int):KD s l=Te s.kids l:=by cases s;rw [KD];rfl
structure Qw (n:Zx):Prop where
 decls:Qu n.decls
 len:n.routines.length<=4194304
 params:∀r∈n.routines,r.params.length<=4194304
 lent:∀r∈n.routines,r.lent.length<=4194304
 body:∀r∈n.routines,r.body.sz<=10000000
theorem H7 {m:Nat} {fs:List Sg} (h:QT m fs=true):∀f∈fs,QS m f=true:=by
 induction fs with
 | nil=>simp
 | cons f r ih=>
  rw [QT] at h
  split at h
  ·rename_i h1
   intro g hg
   rcases YP.1 hg with rfl|hg
   ·exact h1
   ·exact ih h g hg
  ·cases h
theorem E9 {n:Zx} (hz:Qw n) (h:XI n=true):Xf n:=by
 simp only [XI,Q6,W3,decide_eq_true_eq] at h
 obtain ⟨h1,⟨h2,h3,h4,h5⟩,h6⟩:=h
 refine ⟨Z7a h2,h1,fun r hr=>?_,hz.lent⟩
 have:=H7 h4 (Vy r) (W4.2 ⟨r,hr,rfl⟩)
 simp only [QS,W3,decide_eq_true_eq] at this
 exact this.1
def gI (xs:List Int) (i:Int):Int:=xs[i.toNat]?.getD 0
theorem UV {xs:List Int} {i:Int} {x:Int} (h:xs[i.toNat]? = some x):gI xs i=x:=by rw [gI,h];rfl
structure ZH where
 vars:List Int
 own:List Int
 par:List Int
 con:List Int
 fst:List Int
 tok:List Int
def ZH.grow (L:ZH) (t own par:Int):ZH:=⟨L.vars++[t],L.own++[own],L.par++[par],L.con++[-1],L.fst++[-1],L.tok++[-1]⟩
def Tj (L:ZH) (v:Int):Option ZH:=if gI L.own v<1 then none else some { L with own:=L.own.set v.toNat (gI L.own v-1) }
def TS (own par ln:List Int):Nat->Int->Bool
 | 0,_=>false
 | k+1,v=>if gI own v<1/\¬v∈ln then (if gI par v<0 then false else TS own par ln k (gI par v)) else true
def VD (L:ZH) (ln:List Int) (v:Int):Bool:=TS L.own L.par ln (v.toNat+1) v
def Ty:List Int->Int->List Int->List Int
 | own,_,[]=>own
 | own,p,f::r=>Ty (if f≠0 then own.set p.toNat (gI own p+1) else own) (p+1) r
def KG (ds:List Zf) (L:ZH) (op x:Int):Option ZH:=
 if gI L.con x<0∨(op=17/\0<=gI L.tok x) then none
 else match Tj L x with
  | none=>none
  | some L1=>some { L1 with
    own:=Ty L1.own (gI L.fst x) (Zw ds (gI L.con x))
    tok:=if op=17 then L.tok.set x.toNat (Zw ds (gI L.con x)).length else L.tok }
def T4 (op:Int):Bool:=op==6||(op==9||(op==10||op==11))
def E6 (n:Zx) (op num:Int):List Int:=if op=9 then ((n.routines[num.toNat]?).map (·.lent)).getD [] else []
def WO (n:Zx) (op num:Int) (i:Nat):Bool:=decide ((i:Int)∈E6 n op num)
def US (n:Zx) (vars:List Int) (op num a:Int) (i:Nat):Bool:=T4 op&&(gI vars a != 0&&!WO n op num i)
def Qg (n:Zx) (op num:Int):List Int->Nat->ZH->Option ZH
 | [],_,L=>some L
 | a::r,i,L=>if US n L.vars op num a i=true then (match Tj L a with
   | none=>none
   | some L1=>Qg n op num r (i+1) L1) else Qg n op num r (i+1) L
def A3 (n:Zx) (op num:Int) (ln:List Int) (L:ZH):List Int->Nat->Bool
 | [],_=>true
 | a::r,i=>if WO n op num i=true/\¬VD L ln a=true then false else A3 n op num ln L r (i+1)
def Cj (L:ZH) (into:Int) (m:Nat):Option ZH:=
 if 0<into then (if gI L.tok (into-1)≠m then none else some { L with tok:=L.tok.set (into-1).toNat (-1) }) else some L
def K8 (n:Zx) (ln:List Int) (L:ZH) (op num into:Int) (args:List Int):Option ZH:=
 match Qg n op num args 0 L with
 | none=>none
 | some L1=>if A3 n op num ln L1 args 0=true then Cj L1 into args.length else none
def Ao:List Int->List Int->Bool
 | o::os,t::ts=>if o≠0∨0<=t then false else Ao os ts
 | _,_=>true
def ZH.take (L:ZH) (m:Nat):ZH:=⟨L.vars.take m,L.own.take m,L.par.take m,L.con.take m,L.fst.take m,L.tok.take m⟩
def Kt (L:ZH) (m:Nat):Option ZH:=if Ao (L.own.drop m) (L.tok.drop m)=true then some (L.take m) else none
def AM (L:ZH) (par:Int):List Int->ZH
 | []=>L
 | t::r=>AM (L.grow t 0 par) par r
def J3 (ds:List Zf) (L:ZH) (x c:Int):ZH:=
 AM { L with con:=L.con.set x.toNat c,fst:=L.fst.set x.toNat L.vars.length } x (Zw ds c)
def UX (ds:List Zf) (L:ZH) (op num:Int) (args:List Int) (i:Nat):ZH:=
 if op=8 then J3 ds L (gI args 0) (gI (Zt ds num) i) else L
def Jt (lent:List Int):List Int->Nat->ZH->ZH
 | [],_,L=>L
 | t::r,i,L=>Jt lent r (i+1) (L.grow t (if t≠0/\¬(i:Int)∈lent then 1 else 0) (-1))
def QN (r:Yj):ZH:=Jt r.lent r.params 0 ⟨[],[],[],[],[],[]⟩
def AF (L:ZH) (ln:List Int) (v:Int):Option ZH:=if VD L ln v=true then some { L with own:=L.own.set v.toNat (gI L.own v+1) } else none
def Kd (n:Zx) (ln:List Int) (L:ZH) (op num into:Int) (args:List Int) (ch:Option ZH):Option ZH:=
 if op=14 then AF L ln (gI args 0)
 else if op=15 then Tj L (gI args 0)
 else if op=16∨op=17 then KG n.decls L op (gI args 0)
 else if op=7∨op=8 then (if op=8/\¬VD L ln (gI args 0)=true then none else ch)
 else K8 n ln L op num into args
def Kz (L:ZH) (op t:Int) (r:Option ZH):Option ZH:=
 match r with
 | none=>none
 | some L1=>if X3 op=true then some (L1.grow t (if t≠0 then 1 else 0) (-1)) else some L1
def AT (L:ZH) (first:Option ZH) (rest:ZH->Bool):Option ZH:=
 match first with
 | none=>none
 | some one=>if rest one=true then some { L with own:=one.own,tok:=one.tok } else none
def Eq (one:ZH) (two:Option ZH) (rest:Bool):Bool:=
 match two with
 | none=>false
 | some two=>if one.own=two.own/\one.tok=two.tok then rest else false
def CT (r:Option ZH) (f:ZH->Option ZH):Option ZH:=match r with|none=>none|some L=>f L
def Ky (m:Nat) (res:Int) (L:ZH):Option ZH:=CT (if gI L.vars res≠0 then Tj L res else some L) fun L2=>Kt L2 m
mutual
def TK (n:Zx) (ln:List Int) (L:ZH):Z4->Option ZH
 | .mk op num into args kids=>Kz L op (ZJ n L.vars (.mk op num into args kids)) (Kd n ln L op num into args (QJ n ln L op num args kids))
def QJ (n:Zx) (ln:List Int) (L:ZH) (op num:Int) (args:List Int):List Z5->Option ZH
 | []=>none
 | b::bs=>AT L (VE n ln (UX n.decls L op num args 0) L.vars.length b) fun one=>Kb n ln L op num args one bs 1
def Kb (n:Zx) (ln:List Int) (L:ZH) (op num:Int) (args:List Int) (one:ZH):List Z5->Nat->Bool
 | [],_=>true
 | b::bs,i=>Eq one (VE n ln (UX n.decls L op num args i) L.vars.length b) (Kb n ln L op num args one bs (i+1))
def Kg (n:Zx) (ln:List Int) (L:ZH):List Z4->Option ZH
 | []=>some L
 | s::r=>CT (TK n ln L s) fun L1=>Kg n ln L1 r
def VE (n:Zx) (ln:List Int) (L:ZH) (m:Nat):Z5->Option ZH
 | .mk steps result=>CT (Kg n ln L steps) (Ky m result)
end
theorem NI (n:Zx) (ln:List Int) (L:ZH) (s:Z4):TK n ln L s=Kz L s.op (ZJ n L.vars s) (Kd n ln L s.op s.num s.into s.args (QJ n ln L s.op s.num s.args s.kids)):=by
 cases s with
 | mk op num into args kids=>rw [TK];rfl
theorem F6 (n:Zx) (ln:List Int) (L:ZH) (m:Nat) (b:Z5):VE n ln L m b=CT (Kg n ln L b.steps) (Ky m b.result):=by
 cases b with
 | mk st r=>rw [VE];rfl
structure U6 (L:ZH):Prop where
 own:L.own.length=L.vars.length
 par:L.par.length=L.vars.length
 con:L.con.length=L.vars.length
 fst:L.fst.length=L.vars.length
 tok:L.tok.length=L.vars.length
structure Xx (ds:List Zf) (L:ZH) (q:Int):Prop where
 len:U6 L
 down:∀j:Int,0<=j->j<L.vars.length->gI L.par j<j
 arm:∀x:Int,0<=x->x<L.vars.length->0<=gI L.con x->0<=gI L.fst x/\gI L.fst x+(Zw ds (gI L.con x)).length<=L.vars.length
 nn:∀x∈L.own,0<=x
 bd:∀x∈L.own,x<=q
end Go.Abs
section
namespace Go.Abs
end Go.Abs
namespace Go.Abs
theorem Z1z {n:Zx} {op num:Int} {r:Yj} (h:op=9) (hr:n.routines[num.toNat]? = some r):E6 n op num=r.lent:=by
 rw [E6,Zj h,hr];rfl
end Go.Abs
namespace Go.Abs
theorem Oq {own par ln:List Int} {N:Int} (hd:∀j:Int,0<=j->j<N->gI par j<j):∀(k:Nat) (v:Int),0<=v->v<N->v.toNat+1<=k->TS own par ln k v=TS own par ln (v.toNat+1) v:=by
 intro k
 induction k using Nat.strongRecOn with
 | ind k ih=>
  intro v h0 hN hk
  cases k with
  | zero=>omega
  | succ k=>
   rw [TS,TS]
   split
   ·split
    ·rfl
    ·have hdv:=hd v h0 hN
     rw [ih k om (gI par v) om om om]
     rw [ih v.toNat om (gI par v) om om om]
   ·rfl
theorem Ou {own par ln:List Int} {N j x1 x2:Int} {r:Bool} (h1:gI own j=x1) (h2:gI par j=x2) (hj:0<=j/\j<N) (hx:x1<1/\¬j∈ln) (h0:¬x2<0) (hd:∀i:Int,0<=i->i<N->gI par i<i)
  (h:TS own par ln (j.toNat+1) j=r):TS own par ln (x2.toNat+1) x2=r:=by
 rw [TS,h1,h2,Zj hx,Za h0] at h
 have hdv:=hd j hj.1 hj.2
 rw [<-h,Oq hd j.toNat x2 om om om]
theorem Ot {own par ln:List Int} {j x1 x2:Int} {r:Bool} (h1:gI own j=x1) (h2:gI par j=x2) (hx:x1<1/\¬j∈ln) (h0:x2<0) (h:TS own par ln (j.toNat+1) j=r):false=r:=by
 rw [TS,h1,h2,Zj hx,Zj h0] at h;exact h
theorem Ov {own par ln:List Int} {j x1:Int} {r:Bool} (h1:gI own j=x1) (hx:¬(x1<1/\¬j∈ln)) (h:TS own par ln (j.toNat+1) j=r):true=r:=by
 rw [TS,h1,Za hx] at h;exact h
end Go.Abs
namespace Go.Abs
theorem Kh {L L':ZH} {v:Int} (h:Tj L v=some L'):1<=gI L.own v/\L'.vars=L.vars/\L'.par=L.par/\L'.con=L.con/\L'.fst=L.fst/\L'.tok=L.tok/\L'.own=L.own.set v.toNat (gI L.own v-1):=by
 rw [Tj] at h
 split at h
 ·cases h
 ·cases h;exact ⟨by omega,rfl,rfl,rfl,rfl,rfl,rfl⟩
theorem FV {xs:List Int} {v:Int} (h:gI xs v≠0):gI xs v∈xs:=by
 rw [gI] at h ⊢
 cases hx:xs[v.toNat]? with
 | none=>rw [hx] at h;exact absurd rfl h
 | some y=>exact Y7 hx
theorem QM {xs:List Int} {i:Nat} {a x:Int} (h:x∈xs.set i a):x∈xs∨x=a:=List.mem_or_eq_of_mem_set h
theorem Xx.take {ds:List Zf} {L L':ZH} {q v:Int} (hk:Xx ds L q) (h:Tj L v=some L'):Xx ds L' q:=by
 obtain ⟨t1,t2,t3,t4,t5,t6,t7⟩:=Kh h
 obtain ⟨f1,f2,f3,f4,f5⟩:=hk.len
 have hm:=FV (xs:=L.own) (v:=v) om
 refine ⟨⟨by rw [t7,t2,UQ];exact f1,by rw [t3,t2];exact f2,by rw [t4,t2];exact f3,by rw [t5,t2];exact f4,by rw [t6,t2];exact f5⟩,?_,?_,?_,?_⟩
 ·rw [t2,t3];exact hk.down
 ·rw [t2,t4,t5];exact hk.arm
 ·rw [t7];intro x hx
  rcases QM hx with hx|rfl
  ·exact hk.nn x hx
  ·omega
 ·rw [t7];intro x hx
  rcases QM hx with hx|rfl
  ·exact hk.bd x hx
  ·have:=hk.bd _ hm;omega
end Go.Abs
end
namespace Go.Abs
theorem Hv {us:List Int}:∀{args tys:List Int},UO us args tys=true->args.length=tys.length/\∀a∈args,0<=a/\a<us.length
 | [],[],_=>⟨rfl,by simp⟩
 | [],_::_,h=>by cases h
 | _::_,[],h=>by cases h
 | a::as1,t::ts,h=>by
  rw [UO] at h
  split at h
  ·rename_i h1
   obtain ⟨q1,q2⟩:=Hv h
   refine ⟨by simp [q1],fun x hx=>?_⟩
   rcases YP.1 hx with rfl|hx
   ·have:=(JQ h1).1;omega
   ·exact q2 x hx
  ·cases h
theorem LJ {n:Zx} {us:List Int}:∀{bs:List Z5} {ms:List (List Int)} {f:Bool} {t:Int},0<=t->0<=Wk n us bs ms f t ->
  ∀(i:Nat) (b:Z5) (m:List Int),bs[i]? = some b->ms[i]? = some m->0<=YR n (us++m) b
 | [],_,_,_,_,_,i,b,m,hb,_=>by simp at hb
 | b::bs,[],_,_,_,h,_,_,_,_,hm=>by simp at hm
 | b::bs,m::ms,f,t,ht,h,i,c,l,hc,hl=>by
  rw [Wk] at h
  split at h
  ·omega
  ·rename_i hq
   have h0:0<=YR n (us++m) b:=by
    rcases Int.lt_or_le (YR n (us++m) b) 0 with q|q
    ·exact absurd (.inl q) hq
    ·exact q
   cases i with
   | zero=>simp at hc hl;subst hc hl;exact h0
   | succ i=>exact LJ h0 h i c l (by simpa using hc) (by simpa using hl)
structure Av (n:Zx) (us:List Int) (s:Z4):Prop where
 args:∀a∈s.args,0<=a/\a<us.length
 one:(s.op=7∨s.op=8∨(14<=s.op/\s.op<=17))->∃a,s.args=[a]
 num:s.op=9->0<=s.num/\s.num<n.routines.length
 into:s.into≠0->1<=s.into/\s.into<=us.length
 kids:(s.op=7∨s.op=8)->s.kids.length=(X8 n.decls s.op s.num).length/\(X8 n.decls s.op s.num).length≠0 /\
  ∀(i:Nat) (b:Z5) (m:List Int),s.kids[i]? = some b->(X8 n.decls s.op s.num)[i]? = some m->0<=YR n (us++m) b
theorem Z1h {n:Zx} {us:List Int} {op num:Int} {kids:List Z5} (h:0<=Ue n us op num kids) :
  kids.length=(X8 n.decls op num).length/\(X8 n.decls op num).length≠0/\∀(i:Nat) (b:Z5) (m:List Int),kids[i]? = some b->(X8 n.decls op num)[i]? = some m->0<=YR n (us++m) b:=by
 rw [Ue] at h
 split at h
 ·omega
 ·rename_i hq
  exact ⟨by omega,by omega,LJ (Int.le_refl 0) h⟩
theorem LY {xs:List Int} (h:xs.length=1):∃a,xs=[a]:=by
 match xs,h with
 | [a],_=>exact ⟨a,rfl⟩
theorem NK {n:Zx} {us:List Int} {s:Z4} (h:0<=ZJ n us s):Av n us s:=by
 rw [B1] at h
 split at h
 ·omega
 rename_i h0
 have hinto:s.into≠0->1<=s.into/\s.into<=us.length:=by
  intro hi
  have hv:VK us s.op s.into=true:=by
   cases q:VK us s.op s.into with
   | true=>rfl
   | false=>exact absurd (.inr (.inl (by rw [q];simp))) h0
  rw [VK,Za hi] at hv
  split at hv
  ·cases ha:Xj us (s.into-1) with
   | none=>rw [ha] at hv;cases hv
   | some t=>have:=(JQ ha).1;omega
  ·cases hv
 have mk:(∀a∈s.args,0<=a/\a<us.length)->((s.op=7∨s.op=8∨(14<=s.op/\s.op<=17))->∃a,s.args=[a])->(s.op=9->0<=s.num/\s.num<n.routines.length) ->
   ((s.op=7∨s.op=8)->0<=Ue n us s.op s.num s.kids)->Av n us s:=fun a b c d=>⟨a,b,c,hinto,fun q=>Z1h (d q)⟩
 have ty:∀{tys},XS us s.args tys=true->s.args.length=tys.length/\∀a∈s.args,0<=a/\a<us.length:=fun q=>Hv q
 split at h
 ·rename_i h1
  split at h
  ·rename_i h2
   exact mk (by rw [List.eq_nil_of_length_eq_zero h2.1];simp) om om om
  ·omega
 split at h
 ·split at h
  ·rename_i h1 h2;exact mk (ty h2).2 om om om
  ·omega
 split at h
 ·split at h
  ·rename_i h1 h2;exact mk (ty h2).2 om om om
  ·omega
 split at h
 ·split at h
  ·rename_i h1 h2;exact mk (ty h2.2).2 om om om
  ·omega
 split at h
 ·split at h
  ·rename_i h1 h2;exact mk (ty h2).2 (fun _=>LY (by simpa using (ty h2).1)) om (fun _=>h)
  ·omega
 split at h
 ·split at h
  ·rename_i h1 h2;exact mk (ty h2).2 (fun _=>LY (by simpa using (ty h2).1)) om (fun _=>h)
  ·omega
 split at h
 ·rename_i hop
  rw [TH] at h
  cases hr:Xj n.routines s.num with
  | none=>rw [hr] at h;simp at h
  | some r=>
   rw [hr] at h
   simp only at h
   have hn:=(JQ hr).1
   rw [QQ] at h
   split at h
   ·split at h
    ·rename_i h2;exact mk (ty h2).2 om om om
    ·omega
   ·split at h
    ·omega
    ·rename_i h2
     have h3:XS us s.args (r.params.take (r.params.length-1))=true:=by
      cases q:XS us s.args (r.params.take (r.params.length-1)) with
      | true=>rfl
      | false=>exact absurd (.inr (.inr (by rw [q];simp))) h2
     exact mk (ty h3).2 om om om
 split at h
 ·rename_i hop
  rcases he:s.args with _|⟨a,_|⟨b,_|⟨c,r⟩⟩⟩
  ·rw [he,show TT n.decls us []=-1 from rfl] at h;omega
  ·rw [he,show TT n.decls us [a]=-1 from rfl] at h;omega
  ·rw [he,TT] at h
   cases ha:Xj us a with
   | none=>rw [ha] at h;simp at h
   | some t=>
    rw [ha] at h
    simp only at h
    split at h
    ·cases hd:n.decls[(t-1).toNat]? with
     | none=>rw [hd] at h;simp at h
     | some d=>
      rw [hd] at h
      simp only at h
      split at h
      ·rename_i h3
       have h4:=(Hv h3).2 b (by simp)
       have h5:=(JQ ha).1
       refine mk (fun x hx=>?_) om om om
       rw [he] at hx
       rcases YP.1 hx with rfl|hx
       ·omega
       ·rw [XN.1 hx];exact h4
      ·omega
    ·omega
  ·rw [he,show TT n.decls us (a::b::c::r)=-1 from rfl] at h;omega
 split at h
 ·rename_i hop
  rcases he:s.args with _|⟨a,_|⟨b,r⟩⟩
  ·rw [he,show Tn n.decls us s.op []=-1 from rfl] at h;omega
  ·rw [he,Tn] at h
   cases ha:Xj us a with
   | none=>rw [ha] at h;simp at h
   | some t=>
    have h5:=(JQ ha).1
    refine mk (fun x hx=>?_) (fun _=>⟨a,he⟩) om om
    rw [he] at hx
    rw [XN.1 hx];omega
  ·rw [he,show Tn n.decls us s.op (a::b::r)=-1 from rfl] at h;omega
 ·omega
def Q4 (n:Zx) (us:List Int) (s:Z4):List Int:=if X3 s.op=true then us++[ZJ n us s] else us
theorem Ir {L L':ZH} {ln:List Int} {v:Int} (h:AF L ln v=some L'):L'.vars=L.vars/\L'.par=L.par/\L'.con=L.con/\L'.fst=L.fst/\L'.tok=L.tok/\L'.own=L.own.set v.toNat (gI L.own v+1):=by
 rw [AF] at h
 split at h
 ·cases h;exact ⟨rfl,rfl,rfl,rfl,rfl,rfl⟩
 ·cases h
theorem EX:∀(fs:List Int) (own:List Int) (p:Int),(Ty own p fs).length=own.length
 | [],own,p=>rfl
 | f::r,own,p=>by rw [Ty,EX r];split<;>simp
theorem FT {xs:List Int} {q v:Int} (h:∀x∈xs,x<=q) (hq:0<=q):gI xs v<=q:=by
 by_cases h0:gI xs v=0
 ·omega
 ·exact h _ (FV h0)
theorem FW {xs:List Int} {v:Int} (h:∀x∈xs,0<=x):0<=gI xs v:=by
 by_cases h0:gI xs v=0
 ·omega
 ·exact h _ (FV h0)
theorem EY:∀(fs:List Int) (own:List Int) (p:Int),(∀x∈own,0<=x)->∀x∈Ty own p fs,0<=x
 | [],own,p,h=>h
 | f::r,own,p,h=>by
  rw [Ty]
  refine EY r _ _ fun x hx=>?_
  split at hx
  ·rcases QM hx with hx|rfl
   ·exact h x hx
   ·have:=FW (v:=p) h;omega
  ·exact h x hx
theorem EW:∀(fs:List Int) (own:List Int) (p q:Int),0<=q->(∀x∈own,x<=q)->∀x∈Ty own p fs,x<=q+fs.length
 | [],own,p,q,hq,h=>by intro x hx;have:=h x hx;simp;omega
 | f::r,own,p,q,hq,h=>by
  intro x hx
  rw [Ty] at hx
  have:=EW r _ _ (q+1) om (fun y hy=>by
   split at hy
   ·rcases QM hy with hy|rfl
    ·have:=h y hy;omega
    ·have:=FT (v:=p) h hq;omega
   ·have:=h y hy;omega) x hx
  simp only [YQ];omega
theorem Mu {ds:List Zf} {L L':ZH} {op v:Int} (h:KG ds L op v=some L'):L'.vars=L.vars/\L'.par=L.par/\L'.con=L.con/\L'.fst=L.fst/\L'.tok.length=L.tok.length /\
  ∃L1,Tj L v=some L1/\L'.own=Ty L1.own (gI L.fst v) (Zw ds (gI L.con v)):=by
 rw [KG] at h
 split at h
 ·cases h
 ·cases ht:Tj L v with
  | none=>rw [ht] at h;cases h
  | some L1=>
   rw [ht] at h
   simp only at h
   obtain ⟨t1,t2,t3,t4,t5,t6,t7⟩:=Kh ht
   cases h
   refine ⟨t2,t3,t4,t5,?_,L1,rfl,rfl⟩
   split
   ·rw [UQ]
   ·rfl
theorem G7 {n:Zx} {op num:Int} {ds:List Zf} {q:Int}:∀{as1:List Int} {i:Nat} {L L':ZH},Xx ds L q->Qg n op num as1 i L=some L'->Xx ds L' q/\L'.vars=L.vars/\L'.par=L.par/\L'.con=L.con/\L'.fst=L.fst/\L'.tok=L.tok
 | [],i,L,L',hk,h=>by rw [Qg] at h;cases h;exact ⟨hk,rfl,rfl,rfl,rfl,rfl⟩
 | a::r,i,L,L',hk,h=>by
  rw [Qg] at h
  split at h
  ·cases ht:Tj L a with
   | none=>rw [ht] at h;cases h
   | some L1=>
    rw [ht] at h
    obtain ⟨t1,t2,t3,t4,t5,t6,t7⟩:=Kh ht
    obtain ⟨k1,k2,k3,k4,k5,k6⟩:=G7 (hk.take ht) h
    exact ⟨k1,k2.trans t2,k3.trans t3,k4.trans t4,k5.trans t5,k6.trans t6⟩
  ·exact G7 hk h
theorem Xx.le {ds:List Zf} {L:ZH} {q q':Int} (h:Xx ds L q) (hq:q<=q'):Xx ds L q':=⟨h.len,h.down,h.arm,h.nn,fun x hx=>Int.le_trans (h.bd x hx) hq⟩
theorem Xx.turn {ds:List Zf} {L L':ZH} {q q':Int} (hk:Xx ds L q) (h1:L'.vars=L.vars) (h2:L'.par=L.par) (h3:L'.con=L.con) (h4:L'.fst=L.fst) (h5:L'.tok.length=L.tok.length) (h6:L'.own.length=L.own.length)
  (h7:∀x∈L'.own,0<=x) (h8:∀x∈L'.own,x<=q'):Xx ds L' q':=by
 obtain ⟨f1,f2,f3,f4,f5⟩:=hk.len
 refine ⟨⟨by rw [h6,h1];exact f1,by rw [h2,h1];exact f2,by rw [h3,h1];exact f3,by rw [h4,h1];exact f4,by rw [h5,h1];exact f5⟩,?_,?_,h7,h8⟩
 ·rw [h1,h2];exact hk.down
 ·rw [h1,h3,h4];exact hk.arm
theorem A0 {xs ys:List Int} {j:Int} (h:j.toNat<xs.length):gI (xs++ys) j=gI xs j:=by
 rw [gI,gI,CX h]
theorem FU {xs:List Int} {y:Int} {j:Int} (h:j.toNat=xs.length):gI (xs++[y]) j=y:=by
 rw [gI,h];simp
theorem Xx.grow {ds:List Zf} {L:ZH} {q t o p:Int} (hk:Xx ds L q) (hp:p<L.vars.length) (ho:0<=o/\o<=q):Xx ds (L.grow t o p) q:=by
 obtain ⟨f1,f2,f3,f4,f5⟩:=hk.len
 refine ⟨⟨by simp [ZH.grow,f1],by simp [ZH.grow,f2],by simp [ZH.grow,f3],by simp [ZH.grow,f4],by simp [ZH.grow,f5]⟩,?_,?_,?_,?_⟩
 ·intro j hj hl
  simp only [ZH.grow,Yu,BU] at hl ⊢
  by_cases hlt:j<L.vars.length
  ·rw [A0 om];exact hk.down j hj hlt
  ·rw [FU om];omega
 ·intro x hx hl
  simp only [ZH.grow,Yu,BU] at hl ⊢
  by_cases hlt:x<L.vars.length
  ·rw [A0 om,A0 om]
   intro hc
   have:=hk.arm x hx hlt hc
   exact ⟨this.1,by omega⟩
  ·rw [FU om];omega
 ·intro x hx
  simp only [ZH.grow,Xe,XN] at hx
  rcases hx with hx|rfl
  ·exact hk.nn x hx
  ·exact ho.1
 ·intro x hx
  simp only [ZH.grow,Xe,XN] at hx
  rcases hx with hx|rfl
  ·exact hk.bd x hx
  ·exact ho.2
theorem FX {xs:List Int} {k:Nat} {a:Int} {j:Int} (h:xs.length<=j.toNat/\j.toNat<xs.length+k):gI (xs++List.replicate k a) j=a:=by
 rw [gI,CY h.1,List.getElem?_replicate,Zj om];rfl
theorem DF {xs:List Int} {x j c:Int} (h:j.toNat=x.toNat) (hl:x.toNat<xs.length):gI (xs.set x.toNat c) j=c:=by
 rw [gI,h,List.getElem?_set_self hl];rfl
theorem DG {xs:List Int} {x j c:Int} (h:j.toNat≠x.toNat):gI (xs.set x.toNat c) j=gI xs j:=by
 rw [gI,gI,List.getElem?_set_ne (fun q=>h q.symm)]
theorem G6 {p:Int}:∀(fs:List Int) (L:ZH),AM L p fs=⟨L.vars++fs,L.own++List.replicate fs.length 0,L.par++List.replicate fs.length p,L.con++List.replicate fs.length (-1),
  L.fst++List.replicate fs.length (-1),L.tok++List.replicate fs.length (-1)⟩
 | [],L=>by simp [AM]
 | t::r,L=>by rw [AM,G6 r];simp [ZH.grow,HG]
theorem OL {ds:List Zf} {L:ZH} {q x c:Int} (hk:Xx ds L q) (hq:0<=q) (hx:0<=x/\x<L.vars.length):Xx ds (J3 ds L x c) q/\(J3 ds L x c).vars=L.vars++Zw ds c:=by
 obtain ⟨f1,f2,f3,f4,f5⟩:=hk.len
 rw [J3,G6]
 refine ⟨⟨⟨by simp [f1],by simp [f2],by simp [f3],by simp [f4],by simp [f5]⟩,?_,?_,?_,?_⟩,rfl⟩
 ·intro j hj hl
  simp only [Yu] at hl ⊢
  by_cases hlt:j<L.vars.length
  ·rw [A0 om];exact hk.down j hj hlt
  ·rw [FX om];omega
 ·intro y hy hl
  simp only [Yu] at hl ⊢
  by_cases hlt:y<L.vars.length
  ·rw [A0 (by simp;omega),A0 (by simp;omega)]
   by_cases he:y.toNat=x.toNat
   ·rw [DF he om,DF he om]
    intro _
    exact ⟨by omega,by simp⟩
   ·rw [DG he,DG he]
    intro hc
    have:=hk.arm y hy hlt hc
    exact ⟨this.1,by omega⟩
  ·rw [FX (by simp;omega)];omega
 ·intro y hy
  simp only [Xe,List.mem_replicate] at hy
  rcases hy with hy|⟨_,rfl⟩
  ·exact hk.nn y hy
  ·exact Int.le_refl 0
 ·intro y hy
  simp only [Xe,List.mem_replicate] at hy
  rcases hy with hy|⟨_,rfl⟩
  ·exact hk.bd y hy
  ·exact hq
theorem DZ {n:Zx} {L:ZH} {q:Int} {s:Z4} {i:Nat} {m:List Int} (hk:Xx n.decls L q) (hq:0<=q) (hf:Av n L.vars s) (hop:s.op=7∨s.op=8) (hm:(X8 n.decls s.op s.num)[i]? = some m) :
  Xx n.decls (UX n.decls L s.op s.num s.args i) q/\(UX n.decls L s.op s.num s.args i).vars=L.vars++m:=by
 rw [UX]
 split
 ·rename_i h8
  obtain ⟨a,ha⟩:=hf.one om
  have hb:=hf.args a (by rw [ha];simp)
  have hg:gI s.args 0=a:=by rw [ha];rfl
  rw [X8,Za om,Kk] at hm
  cases hc:(Zt n.decls s.num)[i]? with
  | none=>rw [hc] at hm;cases hm
  | some c=>
   rw [hc] at hm
   cases hm
   have hgc:gI (Zt n.decls s.num) (i:Int)=c:=by rw [gI];simp [hc]
   rw [hg,hgc]
   exact OL hk hq hb
 ·rename_i h8
  rw [X8,Zj om] at hm
  have:m=[]:=by
   match i,hm with
   | 0,hm=>simpa using hm.symm
   | 1,hm=>simpa using hm.symm
   | i+2,hm=>simp at hm
  subst this
  exact ⟨hk,by simp⟩
theorem NM {n:Zx}:∀{l:List Z4} {us vs:List Int},Wh n l us=some vs->us.length<=vs.length
 | [],us,vs,h=>by rw [Wh] at h;cases h;exact Xa _
 | s::r,us,vs,h=>by
  rw [Wh] at h
  split at h
  ·cases h
  ·have:=NM h
   split at this
   ·simp only [Yu,BU] at this;omega
   ·exact this
theorem Li {n:Zx} {ln:List Int} {L L':ZH} {op num into q:Int} {args:List Int} {ds:List Zf} (hk:Xx ds L q) (h:K8 n ln L op num into args=some L'):Xx ds L' q/\L'.vars=L.vars:=by
 rw [K8] at h
 cases ht:Qg n op num args 0 L with
 | none=>rw [ht] at h;cases h
 | some L1=>
  rw [ht] at h
  simp only at h
  obtain ⟨k1,k2,k3,k4,k5,k6⟩:=G7 hk ht
  split at h
  ·rw [Cj] at h
   split at h
   ·split at h
    ·cases h
    ·cases h
     exact ⟨k1.turn rfl rfl rfl rfl (by simp) rfl k1.nn k1.bd,k2⟩
   ·cases h;exact ⟨k1,k2⟩
  ·cases h
theorem Py {L L':ZH} {m:Nat} (h:Kt L m=some L'):L'=L.take m/\Ao (L.own.drop m) (L.tok.drop m)=true:=by
 rw [Kt] at h
 split at h
 ·rename_i hz;cases h;exact ⟨rfl,hz⟩
 ·cases h
theorem Hu {r:Option ZH} {f:ZH->Option ZH} {L:ZH} (h:CT r f=some L):∃L1,r=some L1/\f L1=some L:=by
 cases r with
 | none=>cases h
 | some L1=>exact ⟨L1,rfl,h⟩
theorem LR (n:Zx) (hn:Xf n) (ln:List Int):∀m:Nat,
  (∀(s:Z4) (L L':ZH) (q:Int),s.sz<=m->Xx n.decls L q->0<=q->0<=ZJ n L.vars s->TK n ln L s=some L'->Xx n.decls L' (q+4*s.sz)/\L'.vars=Q4 n L.vars s) /\
  (∀(b:Z5) (L O:ZH) (q:Int) (k:Nat),b.sz<=m->Xx n.decls L q->0<=q->0<=YR n L.vars b->k<=L.vars.length->VE n ln L k b=some O ->
   (O.own.length=k/\O.tok.length=k/\(∀x∈O.own,0<=x/\x<=q+4*b.sz))/\U6 O/\O.vars.length=k):=by
 intro m
 induction m with
 | zero=>exact ⟨fun s _ _ _ h=>by have:=s.sz_pos;omega,fun s _ _ _ _ h=>by have:=s.sz_pos;omega⟩
 | succ m ih=>
  have hs:∀(s:Z4) (L L':ZH) (q:Int),s.sz<=m+1->Xx n.decls L q->0<=q->0<=ZJ n L.vars s->TK n ln L s=some L'->Xx n.decls L' (q+4*s.sz)/\L'.vars=Q4 n L.vars s:=by
   intro s L L' q XA hk hq hty h
   have hp:=s.sz_pos
   have hf:=NK hty
   obtain ⟨f1,f2,f3,f4,f5⟩:=hk.len
   rw [NI] at h
   unfold Kz at h
   cases hpk:Kd n ln L s.op s.num s.into s.args (QJ n ln L s.op s.num s.args s.kids) with
   | none=>rw [hpk] at h;cases h
   | some L1=>
    rw [hpk] at h
    simp only at h
    have key:Xx n.decls L1 (q+4*s.sz)/\L1.vars=L.vars:=by
     rw [Kd] at hpk
     split at hpk
     ·obtain ⟨d1,d2,d3,d4,d5,d6⟩:=Ir hpk
      refine ⟨hk.turn d1 d2 d3 d4 (by rw [d5]) (by rw [d6,UQ]) ?_ ?_,d1⟩
      ·rw [d6];intro x hx
       rcases QM hx with hx|rfl
       ·exact hk.nn x hx
       ·have:=FW (v:=gI s.args 0) hk.nn;omega
      ·rw [d6];intro x hx
       rcases QM hx with hx|rfl
       ·have:=hk.bd x hx;omega
       ·have:=FT (v:=gI s.args 0) hk.bd hq;omega
     split at hpk
     ·exact ⟨(hk.take hpk).le om,(Kh hpk).2.1⟩
     split at hpk
     ·rename_i hop
      obtain ⟨d1,d2,d3,d4,d5,Lt,ht,d6⟩:=Mu hpk
      have hkt:=hk.take ht
      have h3:=VN hn.decls (gI L.con (gI s.args 0))
      refine ⟨hk.turn d1 d2 d3 d4 d5 ?_ ?_ ?_,d1⟩
      ·rw [d6,EX,(Kh ht).2.2.2.2.2.2,UQ]
      ·rw [d6];exact EY _ _ _ hkt.nn
      ·rw [d6];intro x hx
       have:=EW _ _ _ q hq hkt.bd x hx;omega
     split at hpk
     ·rename_i hop
      split at hpk
      ·cases hpk
      ·cases hks:s.kids with
       | nil=>rw [hks,QJ] at hpk;cases hpk
       | cons b bs=>
        rw [hks,QJ] at hpk
        unfold AT at hpk
        cases hb:VE n ln (UX n.decls L s.op s.num s.args 0) L.vars.length b with
        | none=>rw [hb] at hpk;cases hpk
        | some one=>
         rw [hb] at hpk
         simp only at hpk
         split at hpk
         ·cases hpk
          obtain ⟨q1,q2,q3⟩:=hf.kids hop
          have hks0:s.kids[0]? = some b:=by rw [hks];rfl
          obtain ⟨a0,ha0⟩:=Zu (xs:=X8 n.decls s.op s.num) (j:=0) om
          obtain ⟨k1,k2⟩:=DZ hk hq hf hop ha0
          have hbz:=Tc hks0
          obtain ⟨⟨r1,r2,r3⟩,_⟩:=ih.2 b _ one q L.vars.length om k1 hq (by rw [k2];exact q3 0 b a0 hks0 ha0) (by rw [k2];simp) hb
          refine ⟨hk.turn rfl rfl rfl rfl (by simp only;omega) (by simp only;omega) (fun x hx=>(r3 x hx).1) (fun x hx=>?_),rfl⟩
          have:=(r3 x hx).2;omega
         ·cases hpk
     ·obtain ⟨k1,k2⟩:=Li hk hpk
      exact ⟨k1.le om,k2⟩
    split at h
    ·rename_i hd
     cases h
     refine ⟨key.1.grow om ?_,by rw [Q4,Zj hd];simp [ZH.grow,key.2]⟩
     split<;>omega
    ·rename_i hd
     cases h
     exact ⟨key.1,by rw [Q4,Za hd];exact key.2⟩
  refine ⟨hs,?_⟩
  intro b L O q k XA hk hq hty hkl h
  have hsteps:∀(l:List Z4) (L L':ZH) (q:Int) (vs:List Int),Yk l<=m->Xx n.decls L q->0<=q->Wh n l L.vars=some vs->Kg n ln L l=some L'->Xx n.decls L' (q+4*Yk l)/\L'.vars=vs:=by
   intro l
   induction l with
   | nil=>intro L L' q vs _ hk _ h1 h2;rw [Wh] at h1;rw [Kg] at h2;cases h1;cases h2;exact ⟨by simpa [Yk] using hk,rfl⟩
   | cons s r ihr=>
    intro L L' q vs hz hk hq h1 h2
    rw [Yk] at hz
    rw [Kg] at h2
    obtain ⟨L1,e1,e2⟩:=Hu h2
    rw [Wh] at h1
    split at h1
    ·cases h1
    ·rename_i h0
     obtain ⟨k1,k2⟩:=hs s L L1 q om hk hq om e1
     obtain ⟨k3,k4⟩:=ihr L1 L' (q+4*s.sz) vs om k1 om (by rw [k2];exact h1) e2
     exact ⟨k3.le (by rw [Yk];omega),k4⟩
  have hbz:=b.sz_eq
  rw [F6] at h
  obtain ⟨L1,e1,e2⟩:=Hu h
  rw [Dc] at hty
  cases hv:Wh n b.steps L.vars with
  | none=>rw [hv] at hty;simp at hty
  | some vs=>
   obtain ⟨k1,k2⟩:=hsteps b.steps L L1 q vs om hk hq hv e1
   have hlen:=NM hv
   rw [Ky] at e2
   obtain ⟨L2,e3,e4⟩:=Hu e2
   have k3:Xx n.decls L2 (q+4*Yk b.steps)/\L2.vars=L1.vars:=by
    split at e3
    ·exact ⟨k1.take e3,(Kh e3).2.1⟩
    ·cases e3;exact ⟨k1,rfl⟩
   obtain ⟨rfl,_⟩:=Py e4
   obtain ⟨g1,g2,g3,g4,g5⟩:=k3.1.len
   have hl2:L2.vars.length=vs.length:=by rw [k3.2,k2]
   refine ⟨⟨by simp [ZH.take];omega,by simp [ZH.take];omega,fun x hx=>?_⟩,⟨by simp [ZH.take];omega,by simp [ZH.take];omega,by simp [ZH.take];omega,by simp [ZH.take];omega,by simp [ZH.take];omega⟩,by simp [ZH.take];omega⟩
   have hx':x∈L2.own:=TP hx
   have:=k3.1.nn x hx'
   have:=k3.1.bd x hx'
   omega
theorem NJ {n:Zx} (hn:Xf n) {ln:List Int} {s:Z4} {L L':ZH} {q:Int} (hk:Xx n.decls L q) (hq:0<=q) (hty:0<=ZJ n L.vars s) (h:TK n ln L s=some L'):Xx n.decls L' (q+4*s.sz)/\L'.vars=Q4 n L.vars s:=
 (LR n hn ln s.sz).1 s L L' q (Xa _) hk hq hty h
theorem I2 {n:Zx} (hn:Xf n) {ln:List Int} {b:Z5} {L O:ZH} {q:Int} {k:Nat} (hk:Xx n.decls L q) (hq:0<=q) (hty:0<=YR n L.vars b) (hkl:k<=L.vars.length) (h:VE n ln L k b=some O) :
  O.own.length=k/\O.tok.length=k/\(∀x∈O.own,0<=x/\x<=q+4*b.sz):=
 ((LR n hn ln b.sz).2 b L O q k (Xa _) hk hq hty hkl h).1
theorem CI {n:Zx} (hn:Xf n) {ln:List Int} {s:Z4} {L L1:ZH} {q:Int} (hk:Xx n.decls L q) (hq:0<=q) (hf:Av n L.vars s)
  (hpk:Kd n ln L s.op s.num s.into s.args (QJ n ln L s.op s.num s.args s.kids)=some L1):Xx n.decls L1 (q+4*s.sz)/\L1.vars=L.vars:=by
 have hp:=s.sz_pos
 obtain ⟨f1,f2,f3,f4,f5⟩:=hk.len
 rw [Kd] at hpk
 split at hpk
 ·obtain ⟨d1,d2,d3,d4,d5,d6⟩:=Ir hpk
  refine ⟨hk.turn d1 d2 d3 d4 (by rw [d5]) (by rw [d6,UQ]) ?_ ?_,d1⟩
  ·rw [d6];intro x hx
   rcases QM hx with hx|rfl
   ·exact hk.nn x hx
   ·have:=FW (v:=gI s.args 0) hk.nn;omega
  ·rw [d6];intro x hx
   rcases QM hx with hx|rfl
   ·have:=hk.bd x hx;omega
   ·have:=FT (v:=gI s.args 0) hk.bd hq;omega
 split at hpk
 ·exact ⟨(hk.take hpk).le om,(Kh hpk).2.1⟩
 split at hpk
 ·rename_i hop
  obtain ⟨d1,d2,d3,d4,d5,Lt,ht,d6⟩:=Mu hpk
  have hkt:=hk.take ht
  have h3:=VN hn.decls (gI L.con (gI s.args 0))
  refine ⟨hk.turn d1 d2 d3 d4 d5 ?_ ?_ ?_,d1⟩
  ·rw [d6,EX,(Kh ht).2.2.2.2.2.2,UQ]
  ·rw [d6];exact EY _ _ _ hkt.nn
  ·rw [d6];intro x hx
   have:=EW _ _ _ q hq hkt.bd x hx;omega
 split at hpk
 ·rename_i hop
  split at hpk
  ·cases hpk
  ·cases hks:s.kids with
   | nil=>rw [hks,QJ] at hpk;cases hpk
   | cons b bs=>
    rw [hks,QJ] at hpk
    unfold AT at hpk
    cases hb:VE n ln (UX n.decls L s.op s.num s.args 0) L.vars.length b with
    | none=>rw [hb] at hpk;cases hpk
    | some one=>
     rw [hb] at hpk
     simp only at hpk
     split at hpk
     ·cases hpk
      obtain ⟨q1,q2,q3⟩:=hf.kids hop
      have hks0:s.kids[0]? = some b:=by rw [hks];rfl
      obtain ⟨a0,ha0⟩:=Zu (xs:=X8 n.decls s.op s.num) (j:=0) om
      obtain ⟨k1,k2⟩:=DZ hk hq hf hop ha0
      have hbz:=Tc hks0
      obtain ⟨r1,r2,r3⟩:=I2 hn k1 hq (by rw [k2];exact q3 0 b a0 hks0 ha0) (by rw [k2];simp) hb
      refine ⟨hk.turn rfl rfl rfl rfl (by simp only;omega) (by simp only;omega) (fun x hx=>(r3 x hx).1) (fun x hx=>?_),rfl⟩
      have:=(r3 x hx).2;omega
     ·cases hpk
 ·obtain ⟨k1,k2⟩:=Li hk hpk
  exact ⟨k1.le om,k2⟩
end Go.Abs
section
namespace Go.Abs
theorem OM {ds:List Zf} {op num:Int} {i:Nat} {m:List Int} (h8:op=8) (h:(X8 ds op num)[i]? = some m):∃c,(Zt ds num)[i]? = some c/\m=Zw ds c:=by
 rw [X8,Za om,Kk] at h
 cases hc:(Zt ds num)[i]? with
 | none=>rw [hc] at h;cases h
 | some c=>rw [hc] at h;cases h;exact ⟨c,rfl,rfl⟩
theorem Z1a {ds:List Zf} {L:ZH} {op num x c:Int} {args:List Int} {i:Nat} (h8:op=8) (hx:args[0]? = some x) (hc:(Zt ds num)[i]? = some c):UX ds L op num args i=J3 ds L x c:=by
 have h1:gI args 0=x:=by rw [gI];simp [hx]
 have h2:gI (Zt ds num) (i:Int)=c:=by rw [gI];simp [hc]
 rw [UX,Zj h8,h1,h2]
theorem Z1b {ds:List Zf} {L:ZH} {op num:Int} {args:List Int} {i:Nat} (h8:¬op=8):UX ds L op num args i=L:=by rw [UX,Za h8]
theorem Z1f {n:Zx} {ln:List Int} {L:ZH} {op num:Int} {args:List Int} {kids:List Z5} {kb:Z5} (h:kids[0]? = some kb) :
  QJ n ln L op num args kids=AT L (VE n ln (UX n.decls L op num args 0) L.vars.length kb) fun one=>Kb n ln L op num args one (kids.drop 1) 1:=by
 cases kids with
 | nil=>simp at h
 | cons b bs=>simp at h;subst h;rw [QJ];rfl
theorem Z1g {n:Zx} {ln:List Int} {L one:ZH} {op num:Int} {args:List Int} {kids:List Z5} {kb:Z5} {k:Nat} (h:kids[k]? = some kb) :
  Kb n ln L op num args one (kids.drop k) k=Eq one (VE n ln (UX n.decls L op num args k) L.vars.length kb) (Kb n ln L op num args one (kids.drop (k+1)) (k+1)):=by
 rw [Yd h,Kb]
def AA (n:Zx) (ln:List Int) (L:ZH) (s:Z4):Option ZH:=
 if s.op=8/\¬VD L ln (gI s.args 0)=true then none else QJ n ln L s.op s.num s.args s.kids
theorem P6 {n:Zx} {ln:List Int} {L:ZH} {s:Z4} {kb:Z5} (h:¬(s.op=8/\¬VD L ln (gI s.args 0)=true)) (hk:s.kids[0]? = some kb) :
  AA n ln L s=AT L (VE n ln (UX n.decls L s.op s.num s.args 0) L.vars.length kb) fun one=>Kb n ln L s.op s.num s.args one (s.kids.drop 1) 1:=by
 rw [AA,Za h,Z1f hk]
theorem Jd {xs:List Int} {x:Int} (h:xs[0]? = some x):gI xs 0=x:=by rw [gI];simp [h]
end Go.Abs
namespace Go.Abs
theorem U6.grow {L:ZH} {t o p:Int} (h:U6 L):U6 (L.grow t o p):=by
 obtain ⟨f1,f2,f3,f4,f5⟩:=h
 exact ⟨by simp [ZH.grow,f1],by simp [ZH.grow,f2],by simp [ZH.grow,f3],by simp [ZH.grow,f4],by simp [ZH.grow,f5]⟩
theorem U6.arm {L:ZH} {i j:Nat} {c d:Int} (h:U6 L):U6 ⟨L.vars,L.own,L.par,L.con.set i c,L.fst.set j d,L.tok⟩:=by
 obtain ⟨f1,f2,f3,f4,f5⟩:=h
 exact ⟨f1,f2,by simp [f3],by simp [f4],f5⟩
end Go.Abs
namespace Go.Abs
theorem LI {n:Zx} (hn:Xf n) {ln:List Int} {L O:ZH} {q:Int} {s:Z4} {i:Nat} {kb:Z5} {m:List Int} (hk:Xx n.decls L q) (hq:0<=q) (hf:Av n L.vars s) (hop:s.op=7∨s.op=8)
  (_:s.kids[i]? = some kb) (harm:(X8 n.decls s.op s.num)[i]? = some m) (hbt:0<=YR n (L.vars++m) kb) (h:VE n ln (UX n.decls L s.op s.num s.args i) L.vars.length kb=some O) :
  O.own.length=L.vars.length/\O.tok.length=L.vars.length:=by
 obtain ⟨k1,k2⟩:=DZ hk hq hf hop harm
 obtain ⟨r1,r2,_⟩:=I2 hn k1 hq (by rw [k2];exact hbt) (by rw [k2];simp) h
 exact ⟨r1,r2⟩
theorem Z4g {one two:ZH} {r:Bool} (h:¬(¬one.own=two.own∨¬one.tok=two.tok)):Eq one (some two) r=r:=Zj ⟨U5.1 fun q=>h (.inl q),U5.1 fun q=>h (.inr q)⟩
theorem Z4f {one two:ZH} {r:Bool} (h:¬one.own=two.own∨¬one.tok=two.tok):Eq one (some two) r=false:=Za fun q=>h.elim (fun z=>z q.1) fun z=>z q.2
theorem Z28 {L one:ZH} {f:ZH->Bool} (h:f one=true):AT L (some one) f=some ⟨L.vars,one.own,L.par,L.con,L.fst,one.tok⟩:=Zj h
theorem M1 {L one:ZH} {f:ZH->Bool} (h:f one=false):AT L (some one) f=none:=Za (by rw [h];simp)
end Go.Abs
namespace Go.Abs
section
variable {n:Zx} {ln:List Int} {L:ZH} {s:Z4}
abbrev KH (n:Zx) (ln:List Int) (L:ZH) (s:Z4):Option ZH:=Kd n ln L s.op s.num s.into s.args (QJ n ln L s.op s.num s.args s.kids)
theorem Mx {x:Int} (h:s.op=14) (hx:gI s.args 0=x):KH n ln L s=AF L ln x:=hx▸Zj h
theorem My {x:Int} (h:s.op=15) (hx:gI s.args 0=x):KH n ln L s=Tj L x:=by rw [<-hx,KH,Kd,Za om,Zj h]
theorem Mz {x:Int} (h:s.op=16∨s.op=17) (hx:gI s.args 0=x):KH n ln L s=KG n.decls L s.op x:=by rw [<-hx,KH,Kd,Za om,Za om,Zj h]
theorem MA (h:s.op=7∨s.op=8):KH n ln L s=AA n ln L s:=by rw [KH,Kd,Za om,Za om,Za om,Zj h,AA]
theorem MB (h1:¬s.op=14) (h2:¬s.op=15) (h3:¬(s.op=16∨s.op=17)) (h4:¬(s.op=7∨s.op=8)):KH n ln L s=K8 n ln L s.op s.num s.into s.args:=by
 rw [KH,Kd,Za h1,Za h2,Za h3,Za h4]
theorem PW {v:Int} (h:¬VD L ln v=true):AF L ln v=none:=Za h
theorem PX {v x:Int} (h:¬¬VD L ln v=true) (hx:gI L.own v=x):AF L ln v=some ⟨L.vars,L.own.set v.toNat (x+1),L.par,L.con,L.fst,L.tok⟩:=by rw [AF,Zj (U5.1 h),hx]
theorem UA (n:Zx) (ln:List Int) (L:ZH) (s:Z4):TK n ln L s=Kz L s.op (ZJ n L.vars s) (KH n ln L s):=NI n ln L s
theorem Us {X:ZH} {op t:Int} (h:X3 op=true/\t≠0):Kz L op t (some X)=some (X.grow t 1 (-1)):=by
 unfold Kz;simp only [h.1,↓reduceIte];rw [Zj h.2]
theorem Ut {X:ZH} {op t:Int} (h:¬(X3 op=true/\t≠0)) (h2:X3 op=true):Kz L op t (some X)=some (X.grow 0 0 (-1)):=by
 have ht:t=0:=U5.1 fun q=>h ⟨h2,q⟩
 subst ht
 unfold Kz;simp only [h2,↓reduceIte];rfl
theorem Uu {X:ZH} {op t:Int} (h:¬X3 op=true):Kz L op t (some X)=some X:=by
 unfold Kz;simp only [Za h]
end
end Go.Abs
namespace Go.Abs
theorem I3 {n:Zx} {us:List Int} {b:Z5} (h:0<=YR n us b):∃vs t,Wh n b.steps us=some vs/\Xj vs b.result=some t/\0<=t:=by
 rw [Dc] at h
 cases hv:Wh n b.steps us with
 | none=>rw [hv] at h;simp at h
 | some vs=>
  rw [hv] at h
  simp only at h
  cases ha:Xj vs b.result with
  | none=>rw [ha] at h;simp at h
  | some t=>rw [ha] at h;exact ⟨vs,t,rfl,ha,h⟩
theorem NP {n:Zx} {us vs:List Int} {s:Z4} {r:List Z4} (h:Wh n (s::r) us=some vs):0<=ZJ n us s/\Wh n r (Q4 n us s)=some vs:=by
 rw [Wh] at h
 split at h
 ·cases h
 ·exact ⟨by omega,h⟩
theorem N4 (n:Zx) (us:List Int) (s:Z4):us.length<=(Q4 n us s).length/\(Q4 n us s).length<=us.length+s.sz:=by
 have:=s.sz_pos
 rw [Q4];split
 ·simp only [Yu,BU];omega
 ·omega
end Go.Abs
namespace Go.Abs
theorem Rj {X L:ZH} {m:Nat} {r x:Int} (hg:gI L.vars r=x) (h:x≠0) (ht:Tj L r=some X):Ky m r L=Kt X m:=by rw [Ky,hg,Zj h,ht];rfl
theorem Ri {L:ZH} {m:Nat} {r x:Int} (hg:gI L.vars r=x) (h:x≠0) (ht:Tj L r=none):Ky m r L=none:=by rw [Ky,hg,Zj h,ht];rfl
theorem C9 {L:ZH} {m:Nat} {r x:Int} (hg:gI L.vars r=x) (h:¬x≠0):Ky m r L=Kt L m:=by rw [Ky,hg,Za h];rfl
end Go.Abs
namespace Go.Abs
theorem Mw {ds:List Zf} {lent:List Int}:∀{ps:List Int} {i:Nat} {L:ZH},Xx ds L 1->Xx ds (Jt lent ps i L) 1/\(Jt lent ps i L).vars=L.vars++ps
 | [],i,L,hk=>⟨hk,by simp [Jt]⟩
 | t::r,i,L,hk=>by
  rw [Jt]
  obtain ⟨k1,k2⟩:=Mw (lent:=lent) (ps:=r) (i:=i+1) (hk.grow (t:=t) (o:=if t≠0/\¬(i:Int)∈lent then 1 else 0) (p:=-1) om (by split<;>omega))
  exact ⟨k1,by rw [k2];simp [ZH.grow]⟩
theorem Z2d (ds:List Zf) (r:Yj):Xx ds (QN r) 1/\(QN r).vars=r.params:=by
 have h:Xx ds (⟨[],[],[],[],[],[]⟩:ZH) 1:=⟨⟨rfl,rfl,rfl,rfl,rfl⟩,fun j h1 h2=>by simp at h2;omega,fun j h1 h2=>by simp at h2;omega,by simp,by simp⟩
 obtain ⟨k1,k2⟩:=Mw (lent:=r.lent) (ps:=r.params) (i:=0) h
 exact ⟨k1,by rw [QN,k2];rfl⟩
end Go.Abs
namespace Go.Abs
theorem MO {n:Zx}:∀{l:List Yj},Jv n l=true->∀r∈l,¬Wm r.body<0/\YR n r.params r.body=r.result
 | [],_,r,h=>by simp at h
 | a::l,h,r,hr=>by
  rw [Jv] at h
  split at h
  ·rename_i h1
   rcases YP.1 hr with rfl|hr
   ·exact h1
   ·exact MO h r hr
  ·cases h
theorem Z79 {n:Zx} (hz:Qw n) (h:UP n=true):Xf n/\∀r∈n.routines,0<=YR n r.params r.body:=by
 simp only [UP,W3] at h
 refine ⟨E9 hz h.1,fun r hr=>?_⟩
 rw [(MO h.2 r hr).2]
 have h1:=h.1
 simp only [XI,Q6,W3] at h1
 have:=H7 h1.2.1.2.2.1 (Vy r) (W4.2 ⟨r,hr,rfl⟩)
 simp only [QS,W3,decide_eq_true_eq,Vy] at this
 exact (of_decide_eq_true this.2.2).1
end Go.Abs
end
section
namespace Go.Abs
theorem R8 {xs:List Int} (h:Z8 xs=[]):xs=[]:=by cases xs with|nil=>rfl|cons x r=>cases h
end Go.Abs
namespace Go.Abs
theorem IR (xss:List (List Int)) (k:Nat):(xss.take k).flatten.length<=xss.flatten.length:=by
 conv=>rhs;rw [<-UC k xss,List.flatten_append,Yu]
 omega
end Go.Abs
namespace Go.Abs
theorem FP {xss:List (List Int)} {k:Nat} {x:List Int} (h:xss[k]? = some x):(xss.take (k+1)).flatten=(xss.take k).flatten++x:=by rw [WS h,List.flatten_append];simp
theorem IQ {xss:List (List Int)} {k:Nat} {x:List Int} (h:xss[k]? = some x):(xss.take k).flatten.length+x.length<=xss.flatten.length:=by
 have:=IR xss (k+1)
 rw [FP h,Yu] at this
 exact this
end Go.Abs
end
section
namespace Go.Abs
theorem Pi {c:Int} {ds:List Zf} {k:Nat} {d:Zf} {r:Int × List Int} (h:ds[k]? = some d) (hn:¬(c-Ys (ds.take k)>=0/\c-Ys (ds.take k)<d.cons.length))
  (hr:Un c (ds.drop k) k (Ys (ds.take k))=r):Un c (ds.drop (k+1)) (k+1) (Ys (ds.take (k+1)))=r:=by
 rw [Yd h,Un,Za om] at hr
 rw [WS h,C5,<-hr];rfl
end Go.Abs
namespace Go.Abs
theorem Pl {c:Int} {ds:List Zf} {k:Nat} {d:Zf} {x:Y3} (h:ds[k]? = some d) (hn:c-Ys (ds.take k)>=0/\c-Ys (ds.take k)<d.cons.length)
  (hx:d.cons[(c-Ys (ds.take k)).toNat]? = some x):Un c (ds.drop k) k (Ys (ds.take k))=((k:Int)+1,x.fields):=by
 rw [Yd h,Un,Zj om,hx];rfl
def JF (c:Int) (z:Nat) (v:Int):Prop:=v=c-z∨(c<0/\c-z < -9223372036854775808/\v=c-z+18446744073709551616)
theorem OP {c:Int} {z l:Nat} {v:Int} (h:JF c z v) (hz:z<=100) (hl:l<=3) (hc:-9223372036854775808<=c/\c<=9223372036854775807):JF c (z+l) (An (v-l)):=by
 unfold JF at *;rw [An,IntKind.wrap_i64];omega
theorem Pj {c v:Int} {ds:List Zf} {k:Nat} {d:Zf} {r:Int × List Int} (h:ds[k]? = some d) (ha:JF c (Ys (ds.take k)) v) (hn:¬(v>=0/\v<d.cons.length))
  (hr:Un c (ds.drop k) k (Ys (ds.take k))=r):Un c (ds.drop (k+1)) (k+1) (Ys (ds.take (k+1)))=r:=Pi h (by unfold JF at ha;omega) hr
theorem Pm {c v:Int} {ds:List Zf} {k:Nat} {d:Zf} {x:Y3} (h:ds[k]? = some d) (ha:JF c (Ys (ds.take k)) v) (hz:Ys (ds.take k)<=100) (hl:d.cons.length<=3) (hc:-9223372036854775808<=c)
  (hn:v>=0/\v<d.cons.length) (hx:d.cons[v.toNat]? = some x):Un c (ds.drop k) k (Ys (ds.take k))=((k:Int)+1,x.fields):=by
 have:v=c-(Ys (ds.take k):Int):=by unfold JF at ha;omega
 subst this
 exact Pl h hn hx
def Wv (ds:List Zf) (t:Int):Zf:=if X7 ds t=true then (ds[(t-1).toNat]?).getD ⟨0,0,[]⟩ else ⟨0,0,[]⟩
end Go.Abs
namespace Go.Abs
abbrev Ip (ds:List Zf) (d:Zf):Prop:=
 (((¬(0<=d.frm/\d.frm<=ds.length))∨(¬(0<=d.to_/\d.to_<=ds.length)))∨((d.cons.length:Int)>3))∨(((d.cons.length:Int)>0)/\((d.frm≠0)∨(d.to_≠0)))
theorem PP {ds:List Zf} {d:Zf} {i:Nat} (h:Ip ds d):U0 ds d i=false:=by
 rw [U0]
 split
 ·rw [Za];rintro ⟨h1,h2,h3⟩
  rcases h with ((h|h)|h)|h<;>omega
 ·split
  ·rfl
  ·rcases h with ((h|h)|h)|h
   ·rw [decide_eq_false h];rfl
   ·rw [decide_eq_false h,Bool.and_false]
   ·omega
   ·omega
theorem PQ {ds:List Zf} {d:Zf} {i:Nat} (hl:0<d.cons.length) (h:UT ds.length d.cons=false):U0 ds d i=false:=by
 rw [U0,Zj hl];split
 ·exact h
 ·rfl
theorem PR {ds:List Zf} {d:Zf} {i:Nat} (hl:d.cons.length=0) (h:TU d (ds.take i)=true):U0 ds d i=false:=by
 rw [U0,Za om,Zj h]
theorem PS {ds:List Zf} {d:Zf} {i:Nat} (h1:¬Ip ds d) (h2:UT ds.length d.cons=true) (h3:d.cons.length=0->TU d (ds.take i)=false):U0 ds d i=true:=by
 rw [U0]
 have ha:0<=d.frm/\d.frm<=ds.length:=U5.1 fun q=>h1 (.inl (.inl (.inl q)))
 have hb:0<=d.to_/\d.to_<=ds.length:=U5.1 fun q=>h1 (.inl (.inl (.inr q)))
 have hc:¬(d.cons.length:Int)>3:=fun q=>h1 (.inl (.inr q))
 split
 ·rename_i hl
  have hd:¬(d.frm≠0∨d.to_≠0):=fun q=>h1 (.inr ⟨by omega,q⟩)
  rw [Zj ⟨by omega,by omega,by omega⟩];exact h2
 ·rw [Za (by rw [h3 om];simp),decide_eq_true ha,decide_eq_true hb];rfl
theorem Hz {ds:List Zf} {k:Nat} {d:Zf} (h:ds[k]? = some d) (hA:U0 ds d k=false) (c:Uo ds (ds.drop k) k=Uo ds ds 0):false=Wi ds:=by
 rw [Wi,<-c,Yd h,Uo,C6 h,hA,Za (by simp),Bool.and_false]
theorem Z7c {ds:List Zf} {k:Nat} {d:Zf} {r:Bool} (h:ds[k]? = some d) (hA:U0 ds d k=true) (c:Uo ds (ds.drop k) k=r):Uo ds (ds.drop (k+1)) (k+1)=r:=by
 rw [Yd h,Uo,C6 h,hA,Zj rfl] at c;exact c
theorem Z7b {ds:List Zf} {k:Nat} (hl:ds.length<=4) (hk:ds.length<=k) (c:Uo ds (ds.drop k) k=Uo ds ds 0):true=Wi ds:=by
 rw [Wi,<-c,Xz hk,decide_eq_true hl];rfl
theorem Pn {m:Nat} {c:Y3} (h:((c.fields.length:Int)>3)∨(¬(X1 m c.fields=true))):K4 m c=false:=by
 rw [K4]
 rcases h with h|h
 ·rw [decide_eq_false om];rfl
 ·rw [KU.2 h,Bool.and_false]
theorem Po {m:Nat} {c:Y3} (h:¬(((c.fields.length:Int)>3)∨(¬(X1 m c.fields=true)))):K4 m c=true:=by
 rw [K4,U5.1 fun q=>h (.inr q),decide_eq_true (by have:¬(c.fields.length:Int)>3:=fun q=>h (.inl q);omega)];rfl
end Go.Abs
end
section
namespace Go.Abs
structure WI where
 pms:List Int
 lnt:List Int
 res:Int
abbrev BC (f:WI):List AV:=[Z0 f.pms,Z0 f.lnt,.i f.res]
abbrev D6 (f:WI):AV:=.agg (BC f)
def UE (fs:List WI):List AV:=fs.map D6
abbrev Vm (xs:List WI):AV:=.sl (UE xs) none
abbrev BH (xs:List WI) (v:Value):AV:=.sl (UE xs) (some v)
theorem Bp {xs:List WI} {j:Nat} {x:WI} (h:xs[j]? = some x):(UE xs)[j]? = some (D6 x):=by simp [UE,h]
@[simp] theorem C8 (xs:List WI):(UE xs).length=xs.length:=by simp [UE]
theorem Is (xs:List WI):∀y∈UE xs,y.leaves.length=3:=by intro y hy;simp only [UE,W4] at hy;obtain ⟨x,_,rfl⟩:=hy;rfl
theorem Rc (xs:List WI):(Zm (UE xs)).all AV.one=true:=KA fun y hy=>by simp only [UE,W4] at hy;obtain ⟨x,_,rfl⟩:=hy;rfl
def XB (r:Yj):WI:=⟨r.params,r.lent,r.result⟩
def KM (m:Nat) (f:WI):Bool:=QS m ⟨f.pms,f.res⟩&&QY f.pms f.lnt
def Qk (m:Nat):List WI->Bool
 | []=>true
 | f::r=>if KM m f=true then Qk m r else false
def FI:List WI->Bool
 | []=>false
 | f::_=>decide (f.pms.length=0)&&decide (f.res=0)
def Qp (ds:List Zf) (fs:List WI):Bool:=Wi ds&&(decide (1<=fs.length/\fs.length<=4)&&(FI fs&&Qk ds.length fs))
theorem IK {fs:List WI} {x:WI} (h:fs[0]? = some x):FI fs=(decide (x.pms.length=0)&&decide (x.res=0)):=by
 cases fs with
 | nil=>simp at h
 | cons f r=>simp at h;subst h;rfl
theorem Nb (m:Nat):∀rs:List Yj,Qk m (rs.map XB)=(QT m (rs.map Vy)&&KF rs)
 | []=>rfl
 | r::rs=>by
  simp only [Uk,Qk,QT,KF,KM,Nb m rs]
  simp only [XB,Vy]
  by_cases h1:QS m { params:=r.params,result:=r.result }=true<;>by_cases h2:QY r.params r.lent=true<;>simp [h1,h2]
theorem M6 (n:Zx):XI n=(decide (n.routines.length<=4)&&Qp n.decls (n.routines.map XB)):=by
 have hf:FI (n.routines.map XB)=Dy (n.routines.map Vy):=by
  cases n.routines with
  | nil=>rfl
  | cons r rs=>rfl
 rw [XI,Qp,Q6,Nb,hf]
 simp only [Aq]
 cases decide (n.routines.length<=4)<;>cases Wi n.decls<;>cases decide (1<=n.routines.length/\n.routines.length<=4)<;>cases QT n.decls.length (n.routines.map Vy) <;>
  cases Dy (n.routines.map Vy)<;>cases KF n.routines<;>rfl
theorem Er {rs:List Yj} {j:Nat} {x:WI} (h:(rs.map XB)[j]? = some x):∃r,rs[j]? = some r/\x=XB r:=by
 rw [Kk] at h
 cases hr:rs[j]? with
 | none=>rw [hr] at h;cases h
 | some r=>rw [hr] at h;cases h;exact ⟨r,rfl,rfl⟩
theorem LX {ps ls:List Int} {j:Nat} {v:Int} {r:Bool} (h:ls[j]? = some v) (hg:(0<=v/\v<=(ps.length:Int)-1)/\ps[v.toNat]?≠some 0/\(∀p,(if j=0 then none else ls[j-1]?)=some p->p<v))
  (hr:Qi ps (ls.drop j) (if j=0 then none else ls[j-1]?)=r):Qi ps (ls.drop (j+1)) (if j+1=0 then none else ls[j+1-1]?)=r:=by
 rw [Yd h,Gx hg] at hr
 rw [Za om,show j+1-1=j from rfl,h];exact hr
theorem Gy {ps ls:List Int} {j:Nat} {v:Int} {r:Bool} (h:ls[j]? = some v) (hg:¬((0<=v/\v<=(ps.length:Int)-1)/\ps[v.toNat]?≠some 0/\(∀p,(if j=0 then none else ls[j-1]?)=some p->p<v)))
  (hr:Qi ps (ls.drop j) (if j=0 then none else ls[j-1]?)=r):r=false:=by
 rw [Yd h,E5 hg] at hr;exact hr.symm
theorem Es {m:Nat} {fs:List WI} {k:Nat} {f:WI} {r:Bool} (h:fs[k]? = some f) (hb:KM m f=false) (hr:Qk m (fs.drop k)=r):r=false:=by
 rw [Yd h,Qk,hb,Za (by simp)] at hr;exact hr.symm
theorem Z4u {m:Nat} {fs:List WI} {k:Nat} {f:WI} {r:Bool} (h:fs[k]? = some f) (hb:KM m f=true) (hr:Qk m (fs.drop k)=r):Qk m (fs.drop (k+1))=r:=by
 rw [Yd h,Qk,Zj hb] at hr;exact hr
end Go.Abs
namespace Go.Abs
section
variable {ds:List Zf} {fs:List WI} {x:WI}
theorem Z7h (h:((¬(Wi ds=true))∨((fs.length:Int)<1))∨((fs.length:Int)>4)):false=Qp ds fs:=by
 rw [Qp]
 rcases h with (h|h)|h
 ·rw [KU.2 h];rfl
 ·rw [decide_eq_false (p:=1<=fs.length/\fs.length<=4) om];simp
 ·rw [decide_eq_false (p:=1<=fs.length/\fs.length<=4) om];simp
theorem O4 (hx:fs[0]? = some x) (h:((x.pms.length:Int)>0)∨x.res≠0):false=Qp ds fs:=by
 rw [Qp,IK hx]
 rcases h with h|h
 ·rw [decide_eq_false (p:=x.pms.length=0) om];simp
 ·rw [decide_eq_false (p:=x.res=0) h];simp
theorem EE (h:Qk ds.length fs=false):false=Qp ds fs:=by rw [Qp,h];simp
theorem Z7i (h:¬(((¬(Wi ds=true))∨((fs.length:Int)<1))∨((fs.length:Int)>4))) (hx:fs[0]? = some x) (h1:¬((x.pms.length:Int)>0)) (h2:¬x.res≠0) (h3:Qk ds.length fs=true) :
  true=Qp ds fs:=by
 have hv:Wi ds=true:=U5.1 fun q=>h (.inl (.inl q))
 have ha:¬(fs.length:Int)<1:=fun q=>h (.inl (.inr q))
 have hb:¬(fs.length:Int)>4:=fun q=>h (.inr q)
 rw [Qp,IK hx,hv,h3,decide_eq_true (p:=1<=fs.length/\fs.length<=4) om,decide_eq_true (p:=x.pms.length=0) om,decide_eq_true (p:=x.res=0) (U5.1 h2)];rfl
abbrev Na (m:Nat) (x:WI):Prop:=(((x.pms.length:Int)>3)∨(¬(X1 m x.pms=true)))∨(¬(0<=x.res/\x.res<=m))
theorem Z4a {m:Nat} (h:Na m x):KM m x=false:=by
 rw [KM,QS]
 rcases h with (h|h)|h
 ·rw [decide_eq_false (p:=x.pms.length<=3) om];simp
 ·rw [KU.2 h];simp
 ·rw [decide_eq_false h];simp
theorem H0 {m:Nat} (h:QY x.pms x.lnt=false):KM m x=false:=by rw [KM,h,Bool.and_false]
theorem Z4b {m:Nat} (h:¬Na m x) (hl:QY x.pms x.lnt=true):KM m x=true:=by
 have h1:¬(x.pms.length:Int)>3:=fun q=>h (.inl (.inl q))
 rw [KM,QS,hl,decide_eq_true (p:=x.pms.length<=3) om,U5.1 fun q=>h (.inl (.inr q)),decide_eq_true (U5.1 fun q=>h (.inr q))];rfl
end
end Go.Abs
namespace Go.Abs
abbrev Xn (n:Zx):AV:=Vm (n.routines.map XB)
end Go.Abs
end
section
namespace Go.Abs
def W0 (us:List Int):List Int->Option (List Int)
 | []=>some []
 | a::r=>match Xj us a with
  | none=>none
  | some t=>match W0 us r with
   | none=>none
   | some ts=>some (t::ts)
theorem Hw {us:List Int}:∀{args ts:List Int},W0 us args=some ts->∀tys,XS us args tys=true↔ts=tys
 | [],ts,h,tys=>by
  rw [W0] at h;cases h
  cases tys with
  | nil=>simp [XS,UO]
  | cons t r=>simp [XS,UO]
 | a::r,ts,h,tys=>by
  rw [W0] at h
  cases ha:Xj us a with
  | none=>rw [ha] at h;cases h
  | some t=>
   rw [ha] at h
   cases hr:W0 us r with
   | none=>rw [hr] at h;cases h
   | some tr=>
    rw [hr] at h;cases h
    cases tys with
    | nil=>simp [XS,UO]
    | cons t2 r2=>
     rw [XS,UO,ha]
     have:=Hw hr r2
     rw [XS] at this
     by_cases he:t=t2
     ·subst he;simp [this]
     ·rw [Za (fun q=>he (JE q))];simp [he]
theorem HQ {us:List Int}:∀{args ts:List Int},W0 us args=some ts->ts.length=args.length
 | [],ts,h=>by rw [W0] at h;cases h;rfl
 | a::r,ts,h=>by
  rw [W0] at h
  cases ha:Xj us a with
  | none=>rw [ha] at h;cases h
  | some t=>
   rw [ha] at h
   cases hr:W0 us r with
   | none=>rw [hr] at h;cases h
   | some tr=>rw [hr] at h;cases h;simp [HQ hr]
theorem HR {us:List Int} {b t:Int}:∀{xs ts:List Int},W0 us xs=some ts->Xj us b=some t->W0 us (xs++[b])=some (ts++[t])
 | [],ts,h,hb=>by rw [W0] at h;cases h;simp [W0,hb]
 | a::r,ts,h,hb=>by
  rw [W0] at h
  cases ha:Xj us a with
  | none=>rw [ha] at h;cases h
  | some u=>
   rw [ha] at h
   cases hr:W0 us r with
   | none=>rw [hr] at h;cases h
   | some tr=>
    rw [hr] at h;cases h
    rw [Tk,W0,ha,HR hr hb];rfl
def BZ (n:Zx) (num:Int):List Int->Option Int
 | [a,b]=>if X7 n.decls a=true/\b=(Wv n.decls a).frm/\num=0 then some (Wv n.decls a).to_ else none
 | _=>none
def Xw (n:Zx) (op num:Int) (ts:List Int):Option Int:=
 if op=0 then (if (-999<=num/\num<=999)/\ts.length=0 then some 0 else none)
 else if op=1∨op=2∨op=3∨op=4 then (if num=0/\ts=[0,0] then some 0 else none)
 else if op=5 then (if num=0/\ts=[0] then some 0 else none)
 else if op=11 then BZ n num ts
 else if op=6 then (if 0<=Xt n.decls num/\ts=Zw n.decls num then some (Xt n.decls num) else none)
 else if op=9 then (match Xj n.routines num with
  | none=>none
  | some r=>if ts=r.params then some r.result else none)
 else if op=10 then (match Xj n.routines num with
  | none=>none
  | some r=>if r.params.length≠0/\0<=QA n.decls r.params r.result/\ts=r.params.take (r.params.length-1) then some (QA n.decls r.params r.result) else none)
 else none
theorem D9 {n:Zx} {num:Int} {ts:List Int} (h:ts.length≠2):BZ n num ts=none:=by
 match ts,h with
 | [],_=>rfl
 | [_],_=>rfl
 | [_,_],h=>simp at h
 | _::_::_::_,_=>rfl
structure Bc (n:Zx):Prop where
 result:∀r∈n.routines,0<=r.result
 params:∀r∈n.routines,∀p∈r.params,0<=p
 decl:∀d∈n.decls,d.cons.length=0->0<=d.frm/\0<=d.to_
 fields:∀c,∀f∈Zw n.decls c,0<=f
abbrev Lw (us:List Int) (s:Z4):Prop:=s.into≠0/\(((s.op≠6∨s.into<1)∨s.into>us.length)∨gI us (s.into-1)=0)
theorem Z11 {us:List Int} {op into:Int} (hnn:∀t∈us,0<=t) (h:¬(into≠0/\(((op≠6∨into<1)∨into>us.length)∨gI us (into-1)=0))):VK us op into=true:=by
 rw [VK]
 split
 ·rfl
 ·rename_i h0
  have h1:¬(((op≠6∨into<1)∨into>us.length)∨gI us (into-1)=0):=fun q=>h ⟨h0,q⟩
  have h2:op=6:=U5.1 fun q=>h1 (.inl (.inl (.inl q)))
  have h3:¬into<1:=fun q=>h1 (.inl (.inl (.inr q)))
  have h4:¬into>us.length:=fun q=>h1 (.inl (.inr q))
  have h5:¬gI us (into-1)=0:=fun q=>h1 (.inr q)
  obtain ⟨t,ht⟩:=Zu (xs:=us) (j:=(into-1).toNat) om
  rw [Zj h2,Tz om ht]
  rw [UV ht] at h5
  have:=hnn t (Y7 ht)
  simp;omega
theorem Z10 {us:List Int} {op into:Int} (h:into≠0/\(((op≠6∨into<1)∨into>us.length)∨gI us (into-1)=0)):VK us op into=false:=by
 obtain ⟨h0,h⟩:=h
 rw [VK,Za h0]
 split
 ·rename_i h6
  cases ha:Xj us (into-1) with
  | none=>rfl
  | some t=>
   obtain ⟨a1,a2⟩:=JQ ha
   rcases h with ((h|h)|h)|h
   ·exact absurd h6 h
   ·omega
   ·omega
   ·rw [UV a2] at h;subst h;rfl
 ·rfl
theorem Z6q {n:Zx} {us:List Int} {s:Z4} (h:Lw us s):ZJ n us s=-1:=by
 rw [B1,Zj (.inr (.inl (by rw [Z10 h];simp)))]
end Go.Abs
namespace Go.Abs
theorem Z12 {α:Type} {c:Prop} [Decidable c] {v:α}:(if c then some v else none).isSome=decide c:=by split<;>simp_all
theorem Z4v {n:Zx} (hty:Bc n) {op num:Int} {ts:List Int} {x:Int} (h:Xw n op num ts=some x):0<=x:=by
 unfold Xw at h
 split at h
 ·split at h<;>cases h;exact Int.le_refl 0
 split at h
 ·split at h<;>cases h;exact Int.le_refl 0
 split at h
 ·split at h<;>cases h;exact Int.le_refl 0
 split at h
 ·rcases ts with _|⟨a,_|⟨b,_|⟨c,r⟩⟩⟩
  ·cases h
  ·cases h
  ·rw [BZ] at h
   split at h
   ·rename_i hq
    cases h
    rw [Wv,Zj hq.1]
    have hA:=hq.1
    simp only [X7,W3,decide_eq_true_eq] at hA
    cases hd:n.decls[(a-1).toNat]? with
    | none=>rw [hd] at hA;simp at hA
    | some d=>
     rw [hd] at hA
     exact (hty.decl d (Y7 hd) (by simpa using hA.2)).2
   ·cases h
  ·cases h
 split at h
 ·split at h
  ·rename_i hq;cases h;exact hq.1
  ·cases h
 split at h
 ·cases ha:Xj n.routines num with
  | none=>rw [ha] at h;cases h
  | some r=>
   rw [ha] at h
   simp only at h
   split at h
   ·cases h;exact hty.result r (Y7 (JQ ha).2)
   ·cases h
 split at h
 ·cases ha:Xj n.routines num with
  | none=>rw [ha] at h;cases h
  | some r=>
   rw [ha] at h
   simp only at h
   split at h
   ·rename_i hq;cases h;exact hq.2.1
   ·cases h
 ·cases h
def QV (n:Zx) (us:List Int) (s:Z4) (ts:List Int):Int:=
 if Ym s.op=true then (match ts with
  | [t]=>if t≠0/\s.num=0/\s.kids.length=0/\¬((s.op=16∨s.op=17)/\X7 n.decls t=true) then 0 else -1
  | _=>-1)
 else if s.op=7 then (if ts=[0]/\s.num=0 then Ue n us s.op s.num s.kids else -1)
 else if s.op=8 then (if ts=[s.num] then Ue n us s.op s.num s.kids else -1)
 else if 0<s.kids.length∨(s.op=10/\0<(((Xj n.routines s.num).map (·.lent)).getD []).length) then -1
 else (Xw n s.op s.num ts).getD (-1)
theorem Lx {p q:Prop} [Decidable p] [Decidable q] {a b:Int} (h:p↔q):ite p a b=ite q a b:=by
 by_cases hp:p
 ·rw [Zj hp,Zj (h.1 hp)]
 ·rw [Za hp,Za (fun z=>hp (h.2 z))]
theorem Al {n:Zx} {us:List Int} {s:Z4} {ts:List Int} (hnn:∀t∈us,0<=t) (hts:W0 us s.args=some ts) (hi:¬Lw us s):ZJ n us s=QV n us s ts:=by
 have hv:=Z11 hnn hi
 have ht:=Hw hts
 have hl:=HQ hts
 have hfirst:((s.num≠0/\¬WK s.op=true)∨¬VK us s.op s.into=true∨(0<s.kids.length/\s.op≠7/\s.op≠8))↔((s.num≠0/\¬WK s.op=true)∨(0<s.kids.length/\s.op≠7/\s.op≠8)):=by
  rw [hv];simp
 rw [B1,Lx hfirst]
 unfold QV
 by_cases hc:Ym s.op=true
 ·have hop:14<=s.op/\s.op<=17:=by simpa [Ym] using hc
  have hnum:WK s.op=false:=by simp [WK];omega
  rw [Zj hc]
  by_cases hb:s.num≠0∨0<s.kids.length
  ·rw [Zj (by rcases hb with hb|hb;exact .inl ⟨hb,by rw [hnum];simp⟩;exact .inr ⟨hb,by omega,by omega⟩)]
   split
   ·rw [Za];rintro ⟨h1,h2,h3,h4⟩;omega
   ·rfl
  ·rw [Za (by rintro (⟨h1,_⟩|⟨h1,_⟩)<;>exact hb (by first|exact .inl h1|exact .inr h1)),Za om,Za om,Za om,Za om,Za om,Za om,Za om,Za om,Zj om]
   have Zb:s.num=0:=U5.1 fun q=>hb (.inl q)
   have Zv:s.kids.length=0:=by have:¬0<s.kids.length:=fun q=>hb (.inr q);omega
   rcases he:s.args with _|⟨a,_|⟨b,r⟩⟩
   ·rw [he] at hts;rw [W0] at hts;cases hts;rfl
   ·rw [he] at hts
    rw [W0] at hts
    cases ha:Xj us a with
    | none=>rw [ha] at hts;cases hts
    | some t=>
     rw [ha,W0] at hts;cases hts
     rw [Tn,ha]
     simp only
     by_cases ht0:t=0
     ·rw [Zj ht0,Za (fun q=>q.1 ht0)]
     ·rw [Za ht0]
      by_cases hA:X7 n.decls t=true
      ·by_cases h16:s.op=16∨s.op=17
       ·rw [Zj ⟨by omega,hA⟩,Za (fun q=>q.2.2.2 ⟨h16,hA⟩)]
       ·rw [Za (by rintro ⟨q,_⟩;omega),Zj ⟨ht0,Zb,Zv,fun q=>h16 q.1⟩]
      ·rw [Za (fun q=>hA q.2),Zj ⟨ht0,Zb,Zv,fun q=>hA q.2⟩]
   ·rw [he] at hl
    rw [show Tn n.decls us s.op (a::b::r)=-1 from rfl]
    match ts,hl with
    | [t],hl=>simp at hl
    | [],hl=>simp at hl
    | _::_::_,_=>rfl
 have hop:¬(14<=s.op/\s.op<=17):=by simpa [Ym] using hc
 by_cases h7:s.op=7
 ·have hnum:WK s.op=false:=by simp [WK];omega
  conv=>rhs;rw [Za hc,Zj h7]
  by_cases hb:s.num=0
  ·rw [Za (fun q=>q.elim (fun z=>z.1 hb) fun z=>z.2.1 h7),Za om,Za om,Za om,Za om,Zj h7]
   by_cases hq:ts=[0]
   ·rw [Zj ((ht _).2 hq),Zj ⟨hq,hb⟩]
   ·rw [Za (fun q=>hq ((ht _).1 q)),Za (fun q=>hq q.1)]
  ·rw [Zj (.inl ⟨hb,by rw [hnum];simp⟩),Za (fun q=>hb q.2)]
 by_cases h8:s.op=8
 ·have hnum:WK s.op=true:=by simp [WK,h8]
  conv=>rhs;rw [Za hc,Za h7,Zj h8]
  rw [Za (fun q=>q.elim (fun z=>z.2 hnum) fun z=>z.2.2 h8),Za om,Za om,Za om,Za om,Za h7,Zj h8]
  by_cases hq:ts=[s.num]
  ·rw [Zj ((ht _).2 hq),Zj hq]
  ·rw [Za (fun q=>hq ((ht _).1 q)),Za hq]
 conv=>rhs;rw [Za hc,Za h7,Za h8]
 by_cases hk:0<s.kids.length
 ·rw [Zj (.inr ⟨hk,h7,h8⟩),Zj (.inl hk)]
 by_cases hlent:s.op=10/\0<(((Xj n.routines s.num).map (·.lent)).getD []).length
 ·conv=>rhs;rw [Zj (.inr hlent)]
  have hnum:WK s.op=true:=by simp [WK,hlent.1]
  have h10:=hlent.1
  rw [Za (fun q=>q.elim (fun z=>z.2 hnum) fun z=>hk z.1),Za om,Za om,Za om,Za om,Za h7,Za h8,Zj (.inr h10),TH]
  cases ha:Xj n.routines s.num with
  | none=>rfl
  | some r=>
   have h2:=hlent.2
   rw [ha] at h2
   simp only [As,Option.getD_some] at h2
   simp only
   rw [QQ,Za om,Zj (.inr (.inl h2))]
 conv=>rhs;rw [Za (fun q=>Or.elim q hk hlent)]
 have sf:∀{X:Option Int},Xw n s.op s.num ts=X->ZJ n us s=X.getD (-1)->ZJ n us s=(Xw n s.op s.num ts).getD (-1):=fun a b=>by rw [a];exact b
 have hL:=B1 n us s
 rw [Lx hfirst] at hL
 rw [<-hL]
 by_cases hnb:s.num≠0/\¬WK s.op=true
 ·have hnn2:¬(s.op=0∨(s.op=6∨(s.op=8∨(s.op=9∨s.op=10)))):=fun q=>hnb.2 (by simpa [WK] using q)
  refine sf (X:=none) ?_ (by rw [hL,Zj (.inl hnb)];rfl)
  unfold Xw
  rw [Za om]
  split
  ·rw [Za (fun q=>hnb.1 q.1)]
  split
  ·rw [Za (fun q=>hnb.1 q.1)]
  split
  ·by_cases hl2:ts.length=2
   ·match ts,hl2 with
    | [a,b],_=>exact Za fun q=>hnb.1 q.2.2
   ·exact D9 hl2
  rw [Za om,Za om,Za om]
 rw [Za (fun q=>q.elim hnb fun z=>hk z.1)] at hL
 have hnumf:¬(s.op=0∨(s.op=6∨(s.op=8∨(s.op=9∨s.op=10))))->s.num=0:=fun q=>U5.1 fun z=>hnb ⟨z,fun y=>q (by simpa [WK] using y)⟩
 by_cases h0:s.op=0
 ·rw [Zj h0] at hL
  by_cases hq:s.args.length=0/\(-999<=s.num/\s.num<=999)
  ·exact sf (by unfold Xw;rw [Zj h0,Zj ⟨hq.2,by omega⟩]) (by rw [hL,Zj hq];rfl)
  ·exact sf (by unfold Xw;rw [Zj h0,Za (fun q=>hq ⟨by omega,q.1⟩)]) (by rw [hL,Za hq];rfl)
 rw [Za h0] at hL
 by_cases h1:s.op=1∨s.op=2∨s.op=3∨s.op=4
 ·rw [Zj h1] at hL
  by_cases hq:ts=[0,0]
  ·exact sf (by unfold Xw;rw [Za h0,Zj h1,Zj ⟨hnumf om,hq⟩]) (by rw [hL,Zj ((ht _).2 hq)];rfl)
  ·exact sf (by unfold Xw;rw [Za h0,Zj h1,Za (fun q=>hq q.2)]) (by rw [hL,Za (fun q=>hq ((ht _).1 q))];rfl)
 rw [Za h1] at hL
 by_cases h5:s.op=5
 ·rw [Zj h5] at hL
  by_cases hq:ts=[0]
  ·exact sf (by unfold Xw;rw [Za h0,Za h1,Zj h5,Zj ⟨hnumf om,hq⟩]) (by rw [hL,Zj ((ht _).2 hq)];rfl)
  ·exact sf (by unfold Xw;rw [Za h0,Za h1,Zj h5,Za (fun q=>hq q.2)]) (by rw [hL,Za (fun q=>hq ((ht _).1 q))];rfl)
 rw [Za h5] at hL
 by_cases h6:s.op=6
 ·rw [Zj h6] at hL
  have hct:0<Xt n.decls s.num↔0<=Xt n.decls s.num:=by
   rcases Int.lt_or_le (Xt n.decls s.num) 1 with q|q
   ·have:=(Dl q).2;omega
   ·omega
  by_cases hq:0<=Xt n.decls s.num/\ts=Zw n.decls s.num
  ·exact sf (by unfold Xw;rw [Za h0,Za h1,Za h5,Za om,Zj h6,Zj hq]) (by rw [hL,Zj ⟨hct.2 hq.1,(ht _).2 hq.2⟩];rfl)
  ·exact sf (by unfold Xw;rw [Za h0,Za h1,Za h5,Za om,Zj h6,Za hq]) (by rw [hL,Za (fun q=>hq ⟨hct.1 q.1,(ht _).1 q.2⟩)];rfl)
 rw [Za h6,Za h7,Za h8] at hL
 by_cases h9:s.op=9
 ·rw [Zj (.inl h9),TH] at hL
  cases ha:Xj n.routines s.num with
  | none=>exact sf (by unfold Xw;rw [Za h0,Za h1,Za h5,Za om,Za h6,Zj h9,ha]) (by rw [hL,ha];rfl)
  | some r=>
   rw [ha] at hL
   simp only at hL
   rw [QQ,Zj h9] at hL
   have hF:∀{X:Option Int},(if ts=r.params then some r.result else none)=X->Xw n s.op s.num ts=X:=fun q=>by
    unfold Xw;rw [Za h0,Za h1,Za h5,Za om,Za h6,Zj h9,ha];exact q
   by_cases hq:ts=r.params
   ·exact sf (hF (Zj hq)) (by rw [hL,Zj ((ht _).2 hq)];rfl)
   ·exact sf (hF (Za hq)) (by rw [hL,Za (fun q=>hq ((ht _).1 q))];rfl)
 by_cases h10:s.op=10
 ·rw [Zj (.inr h10),TH] at hL
  cases ha:Xj n.routines s.num with
  | none=>exact sf (by unfold Xw;rw [Za h0,Za h1,Za h5,Za om,Za h6,Za h9,Zj h10,ha]) (by rw [hL,ha];rfl)
  | some r=>
   rw [ha] at hL hlent
   simp only [As,Option.getD_some] at hL hlent
   rw [QQ,Za h9] at hL
   have hF:∀{X:Option Int},(if r.params.length≠0/\0<=QA n.decls r.params r.result/\ts=r.params.take (r.params.length-1) then some (QA n.decls r.params r.result) else none)=X->Xw n s.op s.num ts=X:=fun q=>by
    unfold Xw;rw [Za h0,Za h1,Za h5,Za om,Za h6,Za h9,Zj h10,ha];exact q
   by_cases hp:r.params.length=0
   ·exact sf (hF (Za fun q=>q.1 hp)) (by rw [hL,Zj (.inl hp)];rfl)
   by_cases hq:ts=r.params.take (r.params.length-1)
   ·rw [Za (fun z=>z.elim hp fun z=>z.elim (fun z=>hlent ⟨h10,z⟩) fun z=>z ((ht _).2 hq))] at hL
    by_cases har:0<=QA n.decls r.params r.result
    ·exact sf (hF (Zj ⟨hp,har,hq⟩)) hL
    ·refine sf (hF (Za fun q=>har q.2.1)) ?_
     have key:∀(l:List Zf) (i:Nat) (f t:Int),¬0<=Qb f t l i->Qb f t l i=-1:=by
      intro l
      induction l with
      | nil=>intro i f t _;rfl
      | cons d r ih=>
       intro i f t hn
       rw [Qb] at hn ⊢
       split
       ·rename_i hh;rw [Zj hh] at hn;omega
       ·rename_i hh;rw [Za hh] at hn;exact ih _ _ _ hn
     exact hL.trans (key _ _ _ _ har)
   ·exact sf (hF (Za fun q=>hq q.2.2)) (by rw [hL,Zj (.inr (.inr fun q=>hq ((ht _).1 q)))];rfl)
 rw [Za om] at hL
 by_cases h11:s.op=11
 ·rw [Zj h11] at hL
  have hn0:=hnumf om
  have hF:∀{X:Option Int},BZ n s.num ts=X->Xw n s.op s.num ts=X:=fun q=>by
   unfold Xw;rw [Za h0,Za h1,Za h5,Zj h11];exact q
  rcases he:s.args with _|⟨a,_|⟨b,_|⟨c,r⟩⟩⟩
  ·rw [he] at hts hL;rw [W0] at hts;cases hts;exact sf (hF rfl) hL
  ·rw [he] at hl hL
   exact sf (hF (D9 (by simp at hl;omega))) hL
  ·rw [he] at hts hL
   rw [W0] at hts
   cases ha:Xj us a with
   | none=>rw [ha] at hts;cases hts
   | some t=>
    rw [ha,W0] at hts
    cases hb:Xj us b with
    | none=>rw [hb] at hts;cases hts
    | some t2=>
     rw [hb,W0] at hts;cases hts
     rw [TT,ha] at hL
     simp only at hL
     by_cases hA:X7 n.decls t=true
     ·rw [Zj hA] at hL
      have hA2:=hA
      simp only [X7,W3,decide_eq_true_eq] at hA2
      cases hd:n.decls[(t-1).toNat]? with
      | none=>rw [hd] at hA2;simp at hA2
      | some d=>
       rw [hd] at hL
       simp only at hL
       have hD:Wv n.decls t=d:=by rw [Wv,Zj hA,hd];rfl
       have h2:=Hw (us:=us) (args:=[b]) (ts:=[t2]) (by rw [W0,hb,W0]) [d.frm]
       by_cases hq:t2=d.frm
       ·exact sf (hF (Zj ⟨hA,by rw [hD];exact hq,hn0⟩)) (by rw [hL,Zj (h2.2 (by rw [hq])),hD];rfl)
       ·exact sf (hF (Za fun q=>hq (by rw [hD] at q;exact q.2.1))) (by rw [hL,Za (fun q=>hq (by simpa using h2.1 q))];rfl)
     ·exact sf (hF (Za fun q=>hA q.1)) (by rw [hL,Za hA];rfl)
  ·rw [he] at hl hL
   exact sf (hF (D9 (by simp at hl;omega))) hL
 rw [Za h11,Za om] at hL
 exact sf (X:=none) (by unfold Xw;rw [Za h0,Za h1,Za h5,Za h11,Za h6,Za h9,Za h10]) hL
end Go.Abs
namespace Go.Abs
theorem Mb:∀(n:Nat) (f:Int) (k:Nat) (x:Int),(WA f n)[k]? = some x->x=f+k/\k<n
 | 0,f,k,x,h=>by simp [WA] at h
 | n+1,f,k,x,h=>by
  rw [WA] at h
  cases k with
  | zero=>simp at h;subst h;exact ⟨by omega,by omega⟩
  | succ k=>have:=Mb n (f+1) k x (by simpa using h);exact ⟨by omega,by omega⟩
theorem Pq {ds:List Zf} (hd:Wd ds) {t:Int} {k:Nat} {x:Int} (h:(Zt ds t)[k]? = some x):0<=x/\x<=100:=by
 rw [Zt] at h
 split at h
 ·rename_i ht
  obtain ⟨d,hd1⟩:=Zu (xs:=ds) (j:=(t-1).toNat) om
  rw [hd1] at h
  have:=Mb _ _ _ _ h
  have h3:=hd.cons_at hd1
  have h4:=(hd.take (t-1).toNat).sum
  simp only [As,Option.getD_some] at this
  omega
 ·simp at h
end Go.Abs
namespace Go.Abs
section
variable {S:Option Int} {c:Prop} [Decidable c] {v:Int} {b:Bool}
theorem Af (h:S=if c then some v else none) (hb:b=true↔c):b=S.isSome:=by rw [h,Z12,Xo,hb,decide_eq_true_iff]
theorem Ag (h:S=if c then some v else none):∀x,S=some x->v=x:=by
 intro x hx;rw [h] at hx;split at hx
 ·exact JE hx
 ·cases hx
theorem CO (h:S=none):false=S.isSome:=by rw [h];rfl
theorem CP (h:S=none):∀x,S=some x->v=x:=by intro x hx;rw [h] at hx;cases hx
end
section
variable {n:Zx} {op num:Int} {ts:List Int}
theorem sf0 (h:op=0):Xw n op num ts=if (-999<=num/\num<=999)/\ts.length=0 then some 0 else none:=by unfold Xw;rw [Zj h]
theorem sf1 (h:op=1∨op=2∨op=3∨op=4):Xw n op num ts=if num=0/\ts=[0,0] then some 0 else none:=by unfold Xw;rw [Za om,Zj h]
theorem sf5 (h:op=5):Xw n op num ts=if num=0/\ts=[0] then some 0 else none:=by unfold Xw;rw [Za om,Za om,Zj h]
theorem N9 (h:op=11):Xw n op num ts=BZ n num ts:=by unfold Xw;rw [Za om,Za om,Za om,Zj h]
theorem Z4r (h:op=11) (hl:(ts.length:Int)≠2):Xw n op num ts=none:=(N9 h).trans (D9 om)
theorem H4 (h:op=11) {a b:Int} (hl:¬(ts.length:Int)≠2) (ha:ts[0]? = some a) (hb:ts[1]? = some b) :
  Xw n op num ts=if X7 n.decls a=true/\b=(Wv n.decls a).frm/\num=0 then some (Wv n.decls a).to_ else none:=by
 rw [N9 h]
 match ts,hl,ha,hb with
 | [x,y],_,ha,hb=>simp at ha hb;subst ha;subst hb;rfl
 | [],hl,_,_=>simp at hl
 | [_],hl,_,_=>simp at hl
 | _::_::_::_,hl,_,_=>simp at hl;omega
theorem Z4q (h:op=11) {a:Int} (hl:¬(ts.length:Int)≠2) (ha:ts[0]? = some a) (hn:¬X7 n.decls a=true):Xw n op num ts=none:=by
 obtain ⟨b,hb⟩:=Zu (xs:=ts) (j:=1) om
 rw [H4 h hl ha hb,Za fun q=>hn q.1]
theorem sf6 (h:op=6):Xw n op num ts=if 0<=Xt n.decls num/\ts=Zw n.decls num then some (Xt n.decls num) else none:=by
 unfold Xw;rw [Za om,Za om,Za om,Za om,Zj h]
theorem Z4s (h:op=9∨op=10) (hr:num<0∨num>=(((n.routines.map XB).length:Nat):Int)):Xw n op num ts=none:=by
 have ha:Xj n.routines num=none:=Qc (by simp at hr;omega)
 unfold Xw
 rw [Za om,Za om,Za om,Za om,Za om]
 rcases h with h|h
 ·rw [Zj h,ha]
 ·rw [Za om,Zj h,ha]
theorem sf9 (h:op=9) {x:WI} (hr:¬(num<0∨num>=(((n.routines.map XB).length:Nat):Int))) (hx:(n.routines.map XB)[num.toNat]? = some x) :
  Xw n op num ts=if ts=x.pms then some x.res else none:=by
 obtain ⟨r,h1,rfl⟩:=Er hx
 have ha:Xj n.routines num=some r:=Tz (by simp at hr;omega) h1
 unfold Xw
 rw [Za om,Za om,Za om,Za om,Za om,Zj h,ha];rfl
theorem Z4p (h:op=10) {x:WI} (hr:¬(num<0∨num>=(((n.routines.map XB).length:Nat):Int))) (hx:(n.routines.map XB)[num.toNat]? = some x) (hp:(x.pms.length:Int)-1<0) :
  Xw n op num ts=none:=by
 obtain ⟨r,h1,rfl⟩:=Er hx
 have ha:Xj n.routines num=some r:=Tz (by simp at hr;omega) h1
 have hp':r.params.length=0:=by simp only [XB] at hp;omega
 unfold Xw
 rw [Za om,Za om,Za om,Za om,Za om,Za om,Zj h,ha]
 exact Za fun q=>q.1 hp'
theorem Z4o (h:op=10) {x:WI} {l:Int} (hr:¬(num<0∨num>=(((n.routines.map XB).length:Nat):Int))) (hx:(n.routines.map XB)[num.toNat]? = some x) (hp:¬(x.pms.length:Int)-1<0)
  (hl:x.pms[((x.pms.length:Int)-1).toNat]? = some l) :
  Xw n op num ts=if 0<=WX n.decls l x.res/\ts=x.pms.take ((x.pms.length:Int)-1).toNat then some (WX n.decls l x.res) else none:=by
 obtain ⟨r,h1,rfl⟩:=Er hx
 have ha:Xj n.routines num=some r:=Tz (by simp at hr;omega) h1
 simp only [XB] at hp hl ⊢
 have hq:((r.params.length:Int)-1).toNat=r.params.length-1:=by omega
 have ht:r.params.take ((r.params.length:Int)-1).toNat=r.params.take (r.params.length-1):=Yw (fun k=>r.params.take k) hq
 have hl':r.params[r.params.length-1]? = some l:=by rw [<-hl];exact Yw (fun k=>r.params[k]?) hq.symm
 have hlast:QA n.decls r.params r.result=WX n.decls l r.result:=by rw [QA,Lh hl']
 unfold Xw
 rw [Za om,Za om,Za om,Za om,Za om,Za om,Zj h,ha]
 simp only [hlast]
 by_cases hc:0<=WX n.decls l r.result/\ts=r.params.take (r.params.length-1)
 ·rw [Zj ⟨by omega,hc⟩]
  exact (Zj ⟨hc.1,hc.2.trans ht.symm⟩).symm
 ·rw [Za fun q=>hc q.2]
  exact (Za (fun q=>hc ⟨q.1,q.2.trans ht⟩)).symm
theorem sfd (h0:¬op=0) (h1:¬(op=1∨op=2∨op=3∨op=4)) (h5:¬op=5) (h11:¬op=11) (h6:¬op=6) (h9:¬(op=9∨op=10)):Xw n op num ts=none:=by
 unfold Xw;rw [Za h0,Za h1,Za h5,Za h11,Za h6,Za om,Za om]
end
end Go.Abs
end
namespace Go.Abs
mutual
def Z4.rng:Z4->Prop
 | .mk _ num _ _ kids=>(-9223372036854775808<=num/\num<=9223372036854775807)/\TA kids
def Z5.rng:Z5->Prop
 | .mk steps _=>Uj steps
def Uj:List Z4->Prop
 | []=>True
 | s::r=>s.rng/\Uj r
def TA:List Z5->Prop
 | []=>True
 | b::r=>b.rng/\TA r
end
theorem Z4.rng_eq (s:Z4):s.rng=((-9223372036854775808<=s.num/\s.num<=9223372036854775807)/\TA s.kids):=by cases s;rw [Z4.rng];rfl
theorem Z5.rng_eq (b:Z5):b.rng=Uj b.steps:=by cases b;rw [Z5.rng];rfl
theorem Nz:∀{xs:List Z4} {k:Nat} {s:Z4},Uj xs->xs[k]? = some s->s.rng
 | [],k,s,_,h=>by simp at h
 | x::r,0,s,hr,h=>by rw [Uj] at hr;simp at h;subst h;exact hr.1
 | x::r,k+1,s,hr,h=>by rw [Uj] at hr;exact Nz (k:=k) hr.2 (by simpa using h)
theorem I4:∀{xs:List Z5} {k:Nat} {b:Z5},TA xs->xs[k]? = some b->b.rng
 | [],k,s,_,h=>by simp at h
 | x::r,0,s,hr,h=>by rw [TA] at hr;simp at h;subst h;exact hr.1
 | x::r,k+1,s,hr,h=>by rw [TA] at hr;exact I4 (k:=k) hr.2 (by simpa using h)
theorem Hx {us:List Int}:∀{args:List Int},W0 us args=none->∀tys,XS us args tys=false
 | [],h,tys=>by rw [W0] at h;cases h
 | a::r,h,tys=>by
  cases tys with
  | nil=>simp [XS,UO]
  | cons t ts=>
   rw [W0] at h
   rw [XS,UO]
   cases ha:Xj us a with
   | none=>simp
   | some u=>
    rw [ha] at h
    cases hr:W0 us r with
    | none=>
     have:=Hx hr ts
     rw [XS] at this
     by_cases he:u=t
     ·subst he;simpa using this
     ·rw [Za (fun q=>he (JE q))]
    | some tr=>rw [hr] at h;cases h
theorem Z6p {n:Zx} {us:List Int} {s:Z4} (h:W0 us s.args=none):ZJ n us s=-1:=by
 have ht:=Hx h
 rw [B1]
 split
 ·rfl
 split
 ·rw [Za];rintro ⟨q,_⟩
  have:s.args=[]:=List.length_eq_zero_iff.1 q
  rw [this,W0] at h;cases h
 split
 ·rw [Za (by rw [ht];simp)]
 split
 ·rw [Za (by rw [ht];simp)]
 split
 ·rw [Za (by rw [ht];simp)]
 split
 ·rw [Za (by rw [ht];simp)]
 split
 ·rw [Za (by rw [ht];simp)]
 split
 ·rw [TH]
  cases Xj n.routines s.num with
  | none=>rfl
  | some r=>
   simp only
   rw [QQ]
   split
   ·rw [Za (by rw [ht];simp)]
   ·rw [Zj (.inr (.inr (by rw [ht];simp)))]
 split
 ·match hA:s.args with
  | []=>rfl
  | [_]=>rfl
  | [a,b]=>
   rw [TT]
   rw [hA,W0] at h
   cases ha:Xj us a with
   | none=>rfl
   | some t=>
    rw [ha] at h
    simp only at h ⊢
    split
    ·cases n.decls[(t-1).toNat]? with
     | none=>rfl
     | some d=>
      simp only
      rw [Za]
      cases hb:W0 us [b] with
      | none=>rw [Hx hb];simp
      | some tr=>rw [hb] at h;cases h
    ·rfl
  | _::_::_::_=>rfl
 split
 ·match hA:s.args with
  | []=>rfl
  | [a]=>
   rw [Tn]
   rw [hA,W0] at h
   cases ha:Xj us a with
   | none=>rfl
   | some t=>rw [ha,W0] at h;cases h
  | _::_::_=>rfl
 ·rfl
theorem HP {us:List Int} {a:Int}:∀{xs:List Int} {k:Nat},xs[k]? = some a->Xj us a=none->W0 us xs=none
 | [],k,h,_=>by simp at h
 | x::r,0,h,ha=>by simp at h;subst h;rw [W0,ha]
 | x::r,k+1,h,ha=>by
  have:=HP (xs:=r) (k:=k) (by simpa using h) ha
  rw [W0]
  cases Xj us x with
  | none=>rfl
  | some t=>simp only [this]
theorem Z1i {n:Zx} {us:List Int} {ks:List Z5} {ms:List (List Int)} (h:0<ks.length) (t:Int) :
  Wk n us (ks.drop 0) (ms.drop 0) (decide (0=0)) t=Wk n us ks ms true 0:=by
 cases ks with
 | nil=>simp at h
 | cons b bs=>
  cases ms with
  | nil=>rw [JA,JA,Wk,Wk]
  | cons m r=>
   simp only [JA,decide_true]
   rw [Wk,Wk];simp
theorem I6 {b:Z5}:∀{ks:List Z5} {k:Nat},ks[k]? = some b->b.sz<=YW ks
 | [],k,h=>by simp at h
 | x::r,0,h=>by simp at h;subst h;rw [YW];omega
 | x::r,k+1,h=>by have:=I6 (ks:=r) (k:=k) (by simpa using h);rw [YW];omega
theorem CU (us m:List Int):[us,m].flatten=us++m:=by simp
theorem IT {xs:List Int} {i:Int} (h:i.toNat<xs.length):xs[i.toNat]? = some (gI xs i):=by rw [gI,JC h];rfl
theorem DE {xs:List Int} (h:0<xs.length):xs[0]? = some (gI xs 0):=IT (i:=0) h
def Th (n:Zx) (num:Int):WI:=((n.routines.map XB)[num.toNat]?).getD ⟨[],[],0⟩
theorem Z4t {n:Zx} {i:Int} (h:i.toNat<(n.routines.map XB).length):(n.routines.map XB)[i.toNat]? = some (Th n i):=by rw [Th,JC h];rfl
theorem M5 {us m:List Int} (h1:∀t∈us,0<=t) (h2:∀t∈m,0<=t):∀t∈us++m,0<=t:=fun t h=>(Xe.1 h).elim (h1 t) (h2 t)
theorem JP {us:List Int} {args ts:List Int} {k:Nat} (h:W0 us (args.take k)=some ts) (hk:args.length<=k):W0 us args=some ts:=by
 rw [Vb hk] at h;exact h
theorem OH {us:List Int} {args ts:List Int} {k:Nat} {a t:Int} (h:W0 us (args.take k)=some ts) (ha:args[k]? = some a) (ht:Xj us a=some t):W0 us (args.take (k+1))=some (ts++[t]):=by
 rw [WS ha];exact HR h ht
theorem Mg {ts:List Int} (h:(ts.length:Int)=1):ts=[gI ts 0]:=by
 match ts,h with
 | [a],_=>rfl
section
variable {n:Zx} {us ts:List Int} {s:Z4}
theorem Jm {p1 p2 p3 p4 p5:Prop}:(p1/\(p2∨(p3∨(p4∨p5))))↔(p1/\(((p2∨p3)∨p4)∨p5)):=by simp only [or_assoc]
def Dj (n:Zx) (s:Z4) (ts:List Int):Int:=match ts with
  | [t]=>if t≠0/\s.num=0/\s.kids.length=0/\¬((s.op=16∨s.op=17)/\X7 n.decls t=true) then 0 else -1
  | _=>-1
theorem Ak:QV n us s ts =
 if Ym s.op=true then Dj n s ts
 else if s.op=7 then (if ts=[0]/\s.num=0 then Ue n us s.op s.num s.kids else -1)
 else if s.op=8 then (if ts=[s.num] then Ue n us s.op s.num s.kids else -1)
 else if 0<s.kids.length∨(s.op=10/\0<(((Xj n.routines s.num).map (·.lent)).getD []).length) then -1
 else (Xw n s.op s.num ts).getD (-1):=by unfold QV Dj;rfl
theorem Ie (h:(ts.length:Int)=1):Dj n s ts=if gI ts 0≠0/\s.num=0/\s.kids.length=0/\¬((s.op=16∨s.op=17)/\X7 n.decls (gI ts 0)=true) then 0 else -1:=by
 match ts,h with
 | [a],_=>rfl
theorem Pd (h:(ts.length:Int)≠1):Dj n s ts=-1:=by
 match ts,h with
 | [],_=>rfl
 | [a],h=>exact absurd rfl h
 | _::_::_,_=>rfl
theorem Z67 (hS:ZJ n us s=QV n us s ts) (hc:Ym s.op=true)
  (h:((((ts.length:Int)=1/\gI ts 0≠0)/\s.num=0)/\(s.kids.length:Int)=0)/\(s.op=16∨s.op=17)) :
  (!X7 n.decls (gI ts 0))=decide (0<=ZJ n us s):=by
 obtain ⟨⟨⟨⟨h1,h2⟩,h3⟩,h4⟩,h5⟩:=h
 have h4':s.kids.length=0:=by omega
 rw [hS,Ak,Zj hc,Ie h1]
 cases hA:X7 n.decls (gI ts 0)
 ·rw [Zj ⟨h2,h3,h4',by simp⟩];rfl
 ·rw [Za (fun q=>q.2.2.2 ⟨h5,rfl⟩)];rfl
theorem Z68 (hS:ZJ n us s=QV n us s ts) (hc:Ym s.op=true)
  (h:¬(((((ts.length:Int)=1/\gI ts 0≠0)/\s.num=0)/\(s.kids.length:Int)=0)/\(s.op=16∨s.op=17))) :
  ((((((ts.length:Int)==1)&&(gI ts 0 != 0))&&(s.num==0))&&((s.kids.length:Int)==0)))=decide (0<=ZJ n us s):=by
 rw [hS,Ak,Zj hc]
 by_cases h1:(ts.length:Int)=1
 ·rw [Ie h1]
  by_cases h2:(gI ts 0≠0/\s.num=0)/\(s.kids.length:Int)=0
  ·obtain ⟨⟨h2,h3⟩,h4⟩:=h2
   have h4':s.kids.length=0:=by omega
   rw [Zj ⟨h2,h3,h4',fun q=>h ⟨⟨⟨⟨h1,h2⟩,h3⟩,h4⟩,q.1⟩⟩,Zh.2 h1,Yg.2 h2,Zh.2 h3,Zh.2 h4];rfl
  ·rw [Za (fun q=>h2 ⟨⟨q.1,q.2.1⟩,by have:=q.2.2.1;omega⟩)]
   show _=false
   rw [KU];intro q
   obtain ⟨⟨⟨_,q1⟩,q2⟩,q3⟩:=(YF (YF (YF Zh Yg) Zh) Zh).1 q
   exact h2 ⟨⟨q1,q2⟩,q3⟩
 ·rw [Pd h1]
  show _=false
  rw [KU];intro q
  obtain ⟨⟨⟨q1,_⟩,_⟩,_⟩:=(YF (YF (YF Zh Yg) Zh) Zh).1 q
  exact h1 q1
theorem Z63 (hS:ZJ n us s=QV n us s ts) (hc:¬Ym s.op=true) (h7:s.op=7)
  (h:(((ts.length:Int)≠1∨gI ts 0≠0)∨s.num≠0)∨(s.kids.length:Int)≠2):ZJ n us s=-1:=by
 rw [hS,Ak,Za hc,Zj h7]
 split
 ·rename_i q
  obtain ⟨q1,q2⟩:=q
  rw [q1] at h
  rw [Ue,Zj]
  right
  rw [X8,Zj h7]
  have:gI [0] 0=0:=rfl
  simp [this] at h
  show s.kids.length≠2
  omega
 ·rfl
theorem Z64 (hS:ZJ n us s=QV n us s ts) (hc:¬Ym s.op=true) (h7:s.op=7)
  (h:¬((((ts.length:Int)≠1∨gI ts 0≠0)∨s.num≠0)∨(s.kids.length:Int)≠2)):ZJ n us s=Wk n us s.kids (List.replicate 2 []) true 0:=by
 have h1:(ts.length:Int)=1:=U5.1 fun q=>h (.inl (.inl (.inl q)))
 have h2:gI ts 0=0:=U5.1 fun q=>h (.inl (.inl (.inr q)))
 have h3:s.num=0:=U5.1 fun q=>h (.inl (.inr q))
 have h4:(s.kids.length:Int)=2:=U5.1 fun q=>h (.inr q)
 rw [hS,Ak,Za hc,Zj h7,Zj ⟨by rw [Mg h1,h2],h3⟩,Ue,Za]
 ·rw [X8,Zj h7];rfl
 ·rw [X8,Zj h7];simp;omega
theorem Z65 (hS:ZJ n us s=QV n us s ts) (hc:¬Ym s.op=true) (h7:¬s.op=7) (h8:s.op=8)
  (h:(ts.length:Int)≠1∨(gI ts 0≠s.num∨(((((Zt n.decls s.num).map (Zw n.decls)).length:Nat):Int)=0∨(s.kids.length:Int)≠((((Zt n.decls s.num).map (Zw n.decls)).length:Nat):Int)))):ZJ n us s=-1:=by
 rw [hS,Ak,Za hc,Za h7,Zj h8]
 split
 ·rename_i q
  have hg:gI ts 0=s.num:=by rw [q];rfl
  have hl:(ts.length:Int)=1:=by rw [q];rfl
  rw [Ue,Zj]
  rw [X8,Za h7]
  omega
 ·rfl
theorem Z66 (hS:ZJ n us s=QV n us s ts) (hc:¬Ym s.op=true) (h7:¬s.op=7) (h8:s.op=8)
  (h:¬((ts.length:Int)≠1∨(gI ts 0≠s.num∨(((((Zt n.decls s.num).map (Zw n.decls)).length:Nat):Int)=0∨(s.kids.length:Int)≠((((Zt n.decls s.num).map (Zw n.decls)).length:Nat):Int))))) :
  ZJ n us s=Wk n us s.kids ((Zt n.decls s.num).map (Zw n.decls)) true 0:=by
 have h1:(ts.length:Int)=1:=U5.1 fun q=>h (.inl q)
 have h2:gI ts 0=s.num:=U5.1 fun q=>h (.inr (.inl q))
 rw [hS,Ak,Za hc,Za h7,Zj h8,Zj (by rw [Mg h1,h2]),Ue,Za]
 ·rw [X8,Za h7]
 ·rw [X8,Za h7];omega
theorem Z23 {n:Zx} {num:Int}:(((Xj n.routines num).map (·.lent)).getD []).length=if 0<=num/\num<(((n.routines.map XB).length:Nat):Int) then (Th n num).lnt.length else 0:=by
 split
 ·rename_i h
  rw [Aq] at h
  obtain ⟨r,hr⟩:=Zu (xs:=n.routines) (j:=num.toNat) om
  rw [Tz om hr,Th,Kk,hr];rfl
 ·rename_i h
  rw [Aq] at h
  rw [Qc om];rfl
theorem NE:(0<s.kids.length∨(s.op=10/\0<(((Xj n.routines s.num).map (·.lent)).getD []).length)) ↔
  ((s.kids.length:Int)>0∨(s.op=10/\(s.num>=0/\(s.num<(((n.routines.map XB).length:Nat):Int)/\((((Th n s.num).lnt).length:Nat):Int)>0)))):=by
 rw [Z23]
 by_cases hq:0<=s.num/\s.num<(((n.routines.map XB).length:Nat):Int)
 ·rw [Zj hq];omega
 ·rw [Za hq];omega
theorem stB (hS:ZJ n us s=QV n us s ts) (hc:¬Ym s.op=true) (h7:¬s.op=7) (h8:¬s.op=8)
  (h:((s.kids.length:Int)>0∨(s.op=10/\(s.num>=0/\(s.num<(((n.routines.map XB).length:Nat):Int)/\((((Th n s.num).lnt).length:Nat):Int)>0))))):ZJ n us s=-1:=by
 rw [hS,Ak,Za hc,Za h7,Za h8,Zj (NE.2 h)]
theorem stS (hS:ZJ n us s=QV n us s ts) (hc:¬Ym s.op=true) (h7:¬s.op=7) (h8:¬s.op=8)
  (h:¬((s.kids.length:Int)>0∨(s.op=10/\(s.num>=0/\(s.num<(((n.routines.map XB).length:Nat):Int)/\((((Th n s.num).lnt).length:Nat):Int)>0))))):ZJ n us s=(Xw n s.op s.num ts).getD (-1):=by
 rw [hS,Ak,Za hc,Za h7,Za h8,Za (fun q=>h (NE.1 q))]
theorem Z69 (hty:Bc n) (h:ZJ n us s=(Xw n s.op s.num ts).getD (-1)):(Xw n s.op s.num ts).isSome=decide (0<=ZJ n us s):=by
 rw [h]
 cases hs:Xw n s.op s.num ts with
 | none=>rfl
 | some x=>have:=Z4v hty hs;simp [this]
theorem Z6a {t:Int} (h:ZJ n us s=(Xw n s.op s.num ts).getD (-1)) (hp:∀x,Xw n s.op s.num ts=some x->t=x):¬Ym s.op=true->0<=ZJ n us s->t=ZJ n us s:=by
 intro _ h0
 rw [h] at h0 ⊢
 cases hs:Xw n s.op s.num ts with
 | none=>rw [hs] at h0;exact absurd h0 (by decide)
 | some x=>exact hp x hs
end
theorem Z6o {n:Zx} {us:List Int} {s:Z4} (h:0<=ZJ n us s):(0<=s.op/\s.op<=11)∨(14<=s.op/\s.op<=17):=by
 rw [B1] at h
 by_cases hq:(0<=s.op/\s.op<=11)∨(14<=s.op/\s.op<=17)
 ·exact hq
 ·exfalso
  split at h
  ·omega
  rw [Za om,Za om,Za om,Za om,Za om,Za om,Za om,Za om,Za om] at h
  omega
theorem Fp {n:Zx} {us:List Int} {s:Z4} (h:0<=ZJ n us s):X3 s.op=!Ym s.op:=by
 have:=Z6o h
 rw [X3,Ym,Xo];simp;omega
theorem Z6r {n:Zx} {xs:List Z4} {vs:List Int} {k:Nat} {s:Z4} {t:Int} {r:Option (List Int)} (hs:xs[k]? = some s) (h:0<=ZJ n vs s) (ht:¬Ym s.op=true->0<=ZJ n vs s->t=ZJ n vs s)
  (hr:Wh n (xs.drop k) vs=r):Wh n (xs.drop (k+1)) (if Ym s.op=true then vs else vs++[t])=r:=by
 rw [Yd hs,Wh,Za om] at hr
 rw [<-hr,Fp h]
 by_cases hc:Ym s.op=true
 ·rw [Zj hc,hc];rfl
 ·rw [Za hc,Zj (by simpa using hc),ht hc h]
theorem Z6s {n:Zx} {xs:List Z4} {vs:List Int} {k:Nat} {s:Z4} {r:Option (List Int)} (hs:xs[k]? = some s) (h:¬0<=ZJ n vs s) (hr:Wh n (xs.drop k) vs=r):r=none:=by
 rw [Yd hs,Wh,Zj om] at hr;exact hr.symm
theorem Z2e {c:Prop} [Decidable c] {vs:List Int} {t:Int} (h:∀x∈vs,0<=x) (ht:¬c->0<=t):∀x∈(if c then vs else vs++[t]),0<=x:=by
 split
 ·exact h
 ·rename_i hc
  exact M5 h (fun x hx=>by rw [XN.1 hx];exact ht hc)
theorem EZ {m:Nat} {xs:List Int} (h:X1 m xs=true):∀x∈xs,0<=x/\x<=m:=by
 rw [X1,Kj] at h
 exact fun x hx=>of_decide_eq_true (h x hx)
theorem Z2f {n:Zx} (h:XI n=true):Bc n:=by
 simp only [XI,Q6,W3,decide_eq_true_eq] at h
 obtain ⟨h1,⟨h2,h3,h4,h5⟩,h6⟩:=h
 have hs:∀r∈n.routines,X1 n.decls.length r.params=true/\0<=r.result:=fun r hr=>by
  have:=H7 h4 (Vy r) (W4.2 ⟨r,hr,rfl⟩)
  simp only [QS,W3,decide_eq_true_eq] at this
  exact ⟨this.2.1,this.2.2.1⟩
 simp only [Wi,W3,decide_eq_true_eq] at h2
 obtain ⟨h2a,h2b⟩:=h2
 rw [Fn] at h2b
 have key:∀(i:Nat) (d:Zf),n.decls[i]? = some d->U0 n.decls d i=true:=fun i d hi=>by
  have:=h2b i (XM.1 hi).1
  rwa [WQ,C6 hi] at this
 refine ⟨fun r hr=>(hs r hr).2,fun r hr p hp=>(EZ (hs r hr).1 p hp).1,fun d hd h0=>?_,fun c f hf=>?_⟩
 ·obtain ⟨i,hi⟩:=List.mem_iff_getElem?.1 hd
  have:=key i d hi
  rw [U0,Za om] at this
  split at this
  ·cases this
  ·simp only [W3,decide_eq_true_eq] at this;omega
 ·by_cases hc:Xt n.decls c<1
  ·rw [(Dl hc).1] at hf;cases hf
  ·obtain ⟨k,d,x,q1,q2,q3,q4,q5⟩:=Fg hc
   rw [q5] at hf
   have:=key k d q1
   have hp:0<d.cons.length:=by have:=(XM.1 q3).1;omega
   rw [U0,Zj hp] at this
   split at this
   ·have:=Ii.1 this x (Y7 q3)
    simp only [K4,W3] at this
    exact (EZ this.2 f hf).1
   ·cases this
structure Og (n:Zx):Prop where
 result:∀r∈n.routines,r.result<=(n.decls.length:Int)
 decl:∀d∈n.decls,d.cons.length=0->d.to_<=(n.decls.length:Int)
 fields:∀c,∀f∈Zw n.decls c,f<=(n.decls.length:Int)
section
variable {n:Zx} (hu:Og n)
include hu
end
def YS (n:Zx) (us:List Int) (b:Z5):Int:=if (XI n=true/\X1 n.decls.length us=true)/\¬Wm b<0 then YR n us b else -1
def W1 (xs:List Z4):Nat:=(xs.filter fun s=>!Ym s.op).length
def Jl:Z4:=.mk 0 5 0 [] []
theorem Z2b {xs:List Z4} {s:Z4}:W1 (xs++[s])=W1 xs+(if Ym s.op=true then 0 else 1):=by
 unfold W1
 rw [List.filter_append,Yu,List.filter_cons]
 cases Ym s.op<;>rfl
theorem Z2c {xs:List Z4} {k:Nat} {s:Z4} (h:xs[k]? = some s):W1 (xs.take (k+1))=W1 (xs.take k)+(if Ym s.op=true then 0 else 1):=by
 rw [List.take_add_one,h];exact Z2b
theorem M4 {xs:List Z4}:W1 xs<=xs.length:=by unfold W1;exact List.length_filter_le ..
theorem PT {n:Zx} {us:List Int} {s:Z4} (h:¬ZJ n us s<0):X3 s.op=!Ym s.op:=by
 obtain ⟨op,num,into,args,kids⟩:=s
 rw [ZJ] at h
 show X3 op=!Ym op
 by_cases h0:(0<=op/\op<=11)∨(14<=op/\op<=17)
 ·rcases h0 with h0|h0
  ·have e1:X3 op=true:=by simp [X3];omega
   have e2:Ym op=false:=by simp [Ym];omega
   rw [e1,e2];rfl
  ·have e1:X3 op=false:=by simp [X3];omega
   have e2:Ym op=true:=by simp [Ym];omega
   rw [e1,e2];rfl
 ·exfalso
  apply h
  repeat' split
  all_goals first|omega|decide
theorem NN {n:Zx}:∀{xs:List Z4} {us vs:List Int},Wh n xs us=some vs->vs.length=us.length+W1 xs
 | [],us,vs,h=>by rw [Wh] at h;cases h;rfl
 | s::r,us,vs,h=>by
  rw [Wh] at h
  split at h
  ·cases h
  ·rename_i hs
   have h1:=NN h
   have h2:=PT hs
   rw [h1]
   unfold W1
   rw [List.filter_cons]
   cases hc:Ym s.op
   ·rw [hc] at h2
    rw [h2]
    simp
    omega
   ·rw [hc] at h2
    rw [h2]
    simp
theorem NO {n:Zx} {s:Z4}:∀{xs:List Z4} {us vs:List Int},Wh n xs us=some vs->Wh n (xs++[s]) us=(if ZJ n vs s<0 then none else some (if X3 s.op=true then vs++[ZJ n vs s] else vs))
 | [],us,vs,h=>by rw [Wh] at h;cases h;rw [Kl,Wh];split<;>simp [Wh]
 | x::r,us,vs,h=>by
  rw [Wh] at h
  split at h
  ·cases h
  ·rename_i hx
   rw [Tk,Wh,Za hx]
   exact NO h
theorem LT:∀{xs:List Z4} {l:Int},1<=V1 xs l->V1 (xs++[Jl]) l=V1 xs l-1
 | [],l,h=>by
  rw [V1] at h
  rw [Kl,show V1 ([]:List Z4) l=l by rw [V1],V1,Za om,Jl,KD,Te,Za om,V1]
 | s::r,l,h=>by
  rw [V1] at h
  rw [Tk,V1]
  split at h
  ·omega
  ·rename_i h1
   split at h
   ·omega
   ·rename_i h2
    rw [Za h1,Za h2,LT h]
    rw [show V1 (s::r) l=V1 r (KD s (l-1)) by rw [V1,Za h1,Za h2]]
theorem OU {n:Zx} {us:List Int} {b:Z5} (h:¬YS n us b<0) (h6:Wm b≠600) :
  YS n us ⟨b.steps++[Jl],((us.length+W1 b.steps:Nat):Int)⟩=0/\YS n us ⟨b.steps++[Jl],((us.length+W1 b.steps+1:Nat):Int)⟩=-1:=by
 obtain ⟨steps,res⟩:=b
 simp only [Z5.steps] at *
 rw [YS] at h
 split at h
 ·rename_i q
  obtain ⟨q1,q2⟩:=q
  have hl:1<=V1 steps 600:=by
   rw [Wm,XU] at h6 q2
   split at q2
   ·exact absurd (show (-1:Int)<0 by decide) q2
   ·rename_i h9
    rw [Za h9] at h6;omega
  have hst:∀v:Int,¬Wm ⟨steps++[Jl],v⟩<0:=fun v=>by
   rw [Wm,XU,LT hl,Za om]
   have:=(E3.2 ⟨steps,res⟩ 600 om)
   rw [XU] at this;omega
  rw [YR] at h
  split at h
  ·exact absurd (show (-1:Int)<0 by decide) h
  ·rename_i vs hvs
   have hlen:=NN hvs
   have h5:∀ws:List Int,ZJ n ws Jl=0:=fun ws=>by
    have e:ZJ n ws Jl=ZJ n ws (.mk 0 5 0 [] []):=rfl
    rw [e,ZJ,Za (by simp [WK,VK]),Zj rfl,Zj (by simp)]
   have hs5:=NO (s:=Jl) hvs
   rw [h5,Za om,Zj (show X3 Jl.op=true by rfl)] at hs5
   constructor
   ·rw [YS,Zj ⟨q1,hst _⟩,YR,hs5]
    show (Xj (vs++[0]) _).getD (-1)=0
    rw [Xj,Zj (by rw [Yu,BU];omega),Vh,CY om,<-hlen,Nat.sub_self]
    rfl
   ·rw [YS,Zj ⟨q1,hst _⟩,YR,hs5]
    show (Xj (vs++[0]) _).getD (-1)=-1
    rw [Xj,Za (by rw [Yu,BU];omega)]
    rfl
 ·exact absurd (show (-1:Int)<0 by decide) h
def VL (b:Z5) (q:Nat) (xs:List Z4):Z5:=.mk (b.steps.take q++xs++b.steps.drop q) b.result
theorem HC {b:Z5} {xs:List Z4}:(VL b b.steps.length xs).steps=b.steps++xs:=by
 show b.steps.take _++xs++b.steps.drop _=_
 rw [WP,List.drop_length,Jz]
theorem NA:∀{xs ys:List Z4},Yk (xs++ys)=Yk xs+Yk ys
 | [],ys=>by rw [Yk,Kl,WQ]
 | x::r,ys=>by rw [Tk,Yk,Yk,NA,KW]
theorem LV:∀{xs:List Z4},xs.length<=Yk xs
 | []=>Qr _
 | x::r=>by have:=LV (xs:=r);have:=x.sz_pos;rw [Yk,YQ];omega
theorem Z1y (b:Z5):b.steps.length<=b.sz:=by have:=b.sz_eq;have:=LV (xs:=b.steps);omega
theorem GF {b:Z5} {v:Int}:(Z5.mk (VL b b.steps.length [.mk 0 5 0 [] []]).steps v).sz=b.sz+1:=by
 rw [HC,Z5.sz,NA,b.sz_eq];simp [Yk,Z4.sz,YW];omega
theorem Ny:∀{xs ys:List Z4},Uj (xs++ys)↔Uj xs/\Uj ys
 | [],ys=>by rw [Kl,Uj];simp
 | x::r,ys=>by rw [Tk,Uj,Uj,Ny,and_assoc]
theorem GC {b:Z5} {v:Int} (h:b.rng):(Z5.mk (VL b b.steps.length [.mk 0 5 0 [] []]).steps v).rng:=by
 rw [HC,Z5.rng_eq]
 show Uj (b.steps++_)
 rw [b.rng_eq] at h
 rw [Ny]
 exact ⟨h,by simp [Uj,Z4.rng,TA]⟩
theorem OV {n:Zx} {us:List Int} {b:Z5} (h:¬YS n us b<0) (h6:Wm b≠600) :
  YS n us (Z5.mk (VL b b.steps.length [.mk 0 5 0 [] []]).steps ((us.length+W1 b.steps:Nat):Int))=0/\YS n us (Z5.mk (VL b b.steps.length [.mk 0 5 0 [] []]).steps ((us.length+W1 b.steps+1:Nat):Int))=-1:=by
 rw [HC];exact OU h h6
end Go.Abs
section
namespace Go.Abs
structure VX where
 mat:Int
 fst:Int
 fds:List Int
 chg:Bool
def Qj:List VX->Int->Option VX
 | [],_=>none
 | a::r,v=>match Qj r v with
  | some x=>some x
  | none=>if a.mat=v then some a else none
theorem Mf {a:VX}:∀{as1:List VX} {v:Int},Qj (as1++[a]) v=if a.mat=v then some a else Qj as1 v
 | [],v=>rfl
 | x::r,v=>by
  rw [Tk,Qj,Mf]
  by_cases h:a.mat=v
  ·rw [Zj h,Zj h]
  ·rw [Za h,Za h];rfl
theorem GJ {v:Int}:∀{as1:List VX},(∀a∈as1,a.mat≠v)->Qj as1 v=none
 | [],_=>rfl
 | x::r,h=>by rw [Qj,GJ (fun a ha=>h a (XC _ ha))];exact Za (h x (Xg ..))
theorem Me {v:Int} {a:VX}:∀{as1:List VX},Qj as1 v=some a->a∈as1/\a.mat=v
 | [],h=>by cases h
 | x::r,h=>by
  rw [Qj] at h
  cases hr:Qj r v with
  | some y=>rw [hr] at h;cases h;have:=Me hr;exact ⟨XC _ this.1,this.2⟩
  | none=>
   rw [hr] at h
   simp only at h
   split at h
   ·cases h;exact ⟨Xg ..,by assumption⟩
   ·cases h
structure KX (ds:List Zf) (L:ZH) (as1:List VX):Prop where
 rng:∀a∈as1,0<=a.mat/\a.mat<a.fst/\a.fst+a.fds.length<=L.vars.length
 par:∀a∈as1,∀v:Int,a.fst<=v->v<a.fst+a.fds.length->gI L.par v=a.mat
 non:∀v:Int,0<=v->v<L.vars.length->0<=gI L.par v->∃a∈as1,a.fst<=v/\v<a.fst+a.fds.length
 off:∀v:Int,0<=v->v<L.vars.length->match Qj as1 v with
  | none=>gI L.con v<0
  | some a=>0<=gI L.con v/\a.fst=gI L.fst v/\a.fds=Zw ds (gI L.con v)
theorem KX.same {ds:List Zf} {L M:ZH} {as1:List VX} (h:KX ds L as1) (h1:M.vars.length=L.vars.length) (h2:M.par=L.par) (h3:M.con=L.con) (h4:M.fst=L.fst):KX ds M as1:=by
 refine ⟨?_,?_,?_,?_⟩
 ·rw [h1];exact h.rng
 ·rw [h2];exact h.par
 ·rw [h1,h2];exact h.non
 ·rw [h1,h3,h4];exact h.off
theorem KX.grow {ds:List Zf} {L:ZH} {as1:List VX} {t o:Int} (h:KX ds L as1) (hl:U6 L):KX ds (L.grow t o (-1)) as1:=by
 obtain ⟨e1,e2,e3,e4,e5⟩:=hl
 have key:∀{xs:List Int} {y v:Int},xs.length=L.vars.length->0<=v->v<L.vars.length->gI (xs++[y]) v=gI xs v:=fun hx h0 h1=>A0 om
 have kend:∀{xs:List Int} {y v:Int},xs.length=L.vars.length->v=(L.vars.length:Int)->gI (xs++[y]) v=y:=fun hx h1=>FU om
 have hlen:(L.grow t o (-1)).vars.length=L.vars.length+1:=by simp [ZH.grow]
 refine ⟨fun a ha=>?_,fun a ha v h1 h2=>?_,fun v h0 h1 h2=>?_,fun v h0 h1=>?_⟩
 ·have:=h.rng a ha;omega
 ·have:=h.rng a ha
  show gI (L.par++[-1]) v=a.mat
  rw [key e2 om om];exact h.par a ha v h1 h2
 ·have h2':0<=gI (L.par++[-1]) v:=h2
  by_cases hv:v<L.vars.length
  ·rw [key e2 h0 hv] at h2';exact h.non v h0 hv h2'
  ·rw [kend e2 om] at h2';omega
 ·show match Qj as1 v with
   | none=>gI (L.con++[-1]) v<0
   | some a=>0<=gI (L.con++[-1]) v/\a.fst=gI (L.fst++[-1]) v/\a.fds=Zw ds (gI (L.con++[-1]) v)
  by_cases hv:v<L.vars.length
  ·rw [key e3 h0 hv,key e4 h0 hv];exact h.off v h0 hv
  ·rw [GJ (fun a ha=>by have:=h.rng a ha;omega)]
   show gI (L.con++[-1]) v<0
   rw [kend e3 om];omega
theorem KX.arm {ds:List Zf} {L:ZH} {as1:List VX} {x c:Int} (h:KX ds L as1) (hl:U6 L) (hx:0<=x/\x<L.vars.length) (hc:0<=c) :
  KX ds (J3 ds L x c) (as1++[⟨x,(L.vars.length:Nat),Zw ds c,false⟩]):=by
 obtain ⟨e1,e2,e3,e4,e5⟩:=hl
 rw [J3,G6]
 have hnew:∀{xs:List Int} {y v:Int},xs.length=L.vars.length->(L.vars.length:Int)<=v->v<L.vars.length+(Zw ds c).length->gI (xs++List.replicate (Zw ds c).length y) v=y:=fun hx h0 h1=>FX om
 have hold:∀{xs:List Int} {y v:Int},xs.length=L.vars.length->0<=v->v<L.vars.length->gI (xs++List.replicate (Zw ds c).length y) v=gI xs v:=fun hx h0 h1=>A0 om
 refine ⟨fun a ha=>?_,fun a ha v h1 h2=>?_,fun v h0 h1 h2=>?_,fun v h0 h1=>?_⟩
 ·simp only [Yu]
  rcases Xe.1 ha with ha|ha
  ·have:=h.rng a ha;omega
  ·rw [XN.1 ha]
   show 0<=x/\x<(L.vars.length:Nat)/\(L.vars.length:Int)+((Zw ds c).length:Nat)<=_
   omega
 ·show gI (L.par++List.replicate _ x) v=a.mat
  rcases Xe.1 ha with ha|ha
  ·have:=h.rng a ha
   rw [hold e2 om om];exact h.par a ha v h1 h2
  ·rw [XN.1 ha] at h1 h2 ⊢
   exact hnew e2 h1 h2
 ·simp only [Yu] at h1
  have h2':0<=gI (L.par++List.replicate (Zw ds c).length x) v:=h2
  by_cases hv:v<L.vars.length
  ·rw [hold e2 h0 hv] at h2'
   obtain ⟨a,ha,q⟩:=h.non v h0 hv h2'
   exact ⟨a,List.mem_append_left _ ha,q⟩
  ·exact ⟨_,List.mem_append_right _ (XN.2 rfl),by show (L.vars.length:Int)<=v;omega,by show v<(L.vars.length:Int)+(Zw ds c).length;omega⟩
 ·simp only [Yu] at h1
  show match Qj (as1++[⟨x,(L.vars.length:Nat),Zw ds c,false⟩]) v with
   | none=>gI (L.con.set x.toNat c++List.replicate (Zw ds c).length (-1)) v<0
   | some a=>0<=gI (L.con.set x.toNat c++List.replicate (Zw ds c).length (-1)) v/\a.fst=gI (L.fst.set x.toNat L.vars.length++List.replicate (Zw ds c).length (-1)) v /\
     a.fds=Zw ds (gI (L.con.set x.toNat c++List.replicate (Zw ds c).length (-1)) v)
  rw [Mf]
  by_cases hv:v<L.vars.length
  ·rw [hold (by simp [e3]) h0 hv,hold (by simp [e4]) h0 hv]
   by_cases he:x=v
   ·rw [Zj he]
    show 0<=gI (L.con.set x.toNat c) v/\(L.vars.length:Int)=gI (L.fst.set x.toNat L.vars.length) v/\Zw ds c=Zw ds (gI (L.con.set x.toNat c) v)
    rw [DF om om,DF om om]
    exact ⟨hc,rfl,rfl⟩
   ·rw [Za he,DG om,DG om];exact h.off v h0 hv
  ·rw [hnew (by simp [e3]) om om]
   rw [Za (by show ¬x=v;omega),GJ (fun a ha=>by have:=h.rng a ha;omega)]
   show (-1:Int)<0
   omega
end Go.Abs
namespace Go.Abs
end Go.Abs
namespace Go.Abs
end Go.Abs
namespace Go.Abs
section
variable {n:Zx} {ln:List Int} {L:ZH} {op v:Int} {am:List VX} {a:VX}
end
end Go.Abs
namespace Go.Abs
end Go.Abs
end
section
namespace Go.Abs
section
variable {n:Zx} {us:List Int} {op num:Int}
end
end Go.Abs
namespace Go.Abs
end Go.Abs
namespace Go.Abs
end Go.Abs
end
section
namespace Go.Abs
section
variable {n:Zx} {ln:List Int}
end
end Go.Abs
namespace Go.Abs
end Go.Abs
namespace Go.Abs
end Go.Abs
namespace Go.Abs
section
variable {n:Zx} {ln:List Int} {L:ZH} {s:Z4}
end
end Go.Abs
namespace Go.Abs
end Go.Abs
namespace Go.Abs
end Go.Abs
namespace Go.Abs
end Go.Abs
end
section
namespace Go.Abs
end Go.Abs
namespace Go.Abs
end Go.Abs
namespace Go.Abs
end Go.Abs
end
section
namespace Go.Abs
end Go.Abs
namespace Go.Abs
end Go.Abs
namespace Go.Abs
end Go.Abs
namespace Go.Abs
end Go.Abs
end
namespace Go.Abs
def Zi (op v:Int):Z4:=.mk op 0 0 [v] []
def VG (ds:List Zf) (num:Int) (k:Nat):List Int:=((Zt ds num).map (Zw ds))[k]?.getD []
def HU (ds:List Zf) (am:List VX) (m:Nat) (op num:Int) (args:List Int) (k:Nat):List VX:=if op=8 then am++[⟨gI args 0,(m:Int),VG ds num k,false⟩] else am
def LU (ds:List Zf) (m:Nat) (op num:Int) (k:Nat):Nat:=if op=8 then m+(VG ds num k).length else m
section
variable {ds:List Zf} {am:List VX} {m:Nat}
end
theorem IH {ds:List Zf} {num:Int} {k:Nat} {m:List Int} (h:((Zt ds num).map (Zw ds))[k]? = some m):VG ds num k=m:=by rw [VG,h];rfl
theorem II {ds:List Zf} (hd:Wd ds) (num:Int) (k:Nat):(VG ds num k).length<=3:=by
 rw [VG,Kk]
 cases (Zt ds num)[k]? with
 | none=>simp
 | some c=>exact VN hd c
def K1 (am:List VX) (m:Nat):Prop:=∀a∈am,a.fds.length<=3/\0<=a.fst/\a.fst<=m
theorem K1.at {am:List VX} {m:Nat} (h:K1 am m) {v:Int} {a:VX} (ha:Qj am v=some a):a.fds.length<=3/\0<=a.fst/\a.fst<=m:=h a (Me ha).1
theorem K1.le {am:List VX} {m k:Nat} (h:K1 am m) (hk:m<=k):K1 am k:=fun a ha=>by have:=h a ha;omega
theorem K1.x {ds:List Zf} (hd:Wd ds) {am:List VX} {m k:Nat} (h:K1 am m) (op num:Int) (args:List Int):K1 (HU ds am m op num args k) (LU ds m op num k):=by
 rw [HU,LU]
 split
 ·intro a ha
  rcases Xe.1 ha with ha|ha
  ·have:=h a ha;omega
  ·rw [XN.1 ha]
   have:=II hd num k
   show (VG ds num k).length<=3/\0<=(m:Int)/\(m:Int)<=((m+(VG ds num k).length:Nat):Int)
   omega
 ·exact h
theorem Hm {xs:List Z4} {k:Nat} {s:Z4} (h:xs[k]? = some s):Yk (xs.take (k+1))=Yk (xs.take k)+s.sz:=by
 induction xs generalizing k with
 | nil=>simp at h
 | cons t r ih=>
  cases k with
  | zero=>simp at h;subst h;simp [Yk]
  | succ k=>rw [Ba,Ba,Yk,Yk,ih (by simpa using h)];omega
theorem Qn (xs:List Z4) (k:Nat):Yk (xs.take k)<=Yk xs:=by
 induction xs generalizing k with
 | nil=>simp
 | cons t r ih=>
  cases k with
  | zero=>simp [Yk]
  | succ k=>have:=ih k;rw [Ba,Yk,Yk];omega
theorem Z4m {n:Zx} {us:List Int} {s:Z4} (g:0<=ZJ n us s) (h:Ym s.op=true):Q4 n us s=us:=by rw [Q4,Fp g,h];rfl
theorem Z4l {n:Zx} {us:List Int} {s:Z4} (g:0<=ZJ n us s) (h:¬Ym s.op=true):(Q4 n us s).length=us.length+1:=by
 rw [Q4,Fp g,KU.2 h];simp
theorem Z4n {n:Zx} {us:List Int} {s:Z4} (g:0<=ZJ n us s):(Q4 n us s).length=if Ym s.op=true then us.length else us.length+1:=by
 split
 ·rw [Z4m g (by assumption)]
 ·exact Z4l g (by assumption)
theorem K1.snoc {am:List VX} {q:Nat} (h:K1 am q) {x:Int} {fs:List Int} (hl:fs.length<=3):K1 (am++[⟨x,(q:Int),fs,false⟩]) (q+fs.length):=by
 intro a ha
 rcases Xe.1 ha with ha|ha
 ·have:=h a ha;omega
 ·rw [XN.1 ha]
  show fs.length<=3/\0<=(q:Int)/\(q:Int)<=((q+fs.length:Nat):Int)
  omega

theorem UN:∀(xs ys:List Z4),Yk (xs++ys)=Yk xs+Yk ys
 | [],ys=>by simp [Yk]
 | x::r,ys=>by rw [Tk,Yk,Yk,UN r ys];omega
theorem Dk (op v:Int):(Zi op v).sz=2:=by rw [Zi,Z4.sz];simp [YW]
theorem Hk (op:Int):∀l:List Int,Yk (l.map (Zi op))=2*l.length
 | []=>by simp [Yk]
 | x::r=>by rw [Uk,Yk,Dk,Hk op r,YQ];omega
section
variable {ds:List Zf} (hd:Wd ds)
include hd
end
def GI (n:Nat):List Int:=(List.range n).map Int.ofNat
theorem Z2l (n:Nat):∀f∈GI n,0<=f/\f<=n:=by
 intro f hf
 simp only [GI,W4,List.mem_range] at hf
 obtain ⟨a,ha,rfl⟩:=hf
 show 0<=(a:Int)/\(a:Int)<=n
 omega
section
variable {ds:List Zf} {cons first:List Int}
end
def JI (first:List Int):Prop:=∀f∈first,0<=f/\f<=1000000000
theorem JI.at {first:List Int} (h:JI first) (v:Int):0<=gI first v/\gI first v<=1000000000:=by
 rw [gI]
 cases hq:first[v.toNat]? with
 | none=>simp
 | some x=>exact h x (Y7 hq)
theorem JI.snoc {first:List Int} (h:JI first):JI (first++[0]):=by
 intro f hf
 rcases Xe.1 hf with hf|hf
 ·exact h f hf
 ·rw [XN.1 hf];omega
theorem JI.x {first:List Int} (h:JI first) {x m k:Nat} (hm:m<=1000000000) (hk:k<=1000000000):JI (first.set x (m:Int)++GI k):=by
 intro f hf
 rcases Xe.1 hf with hf|hf
 ·rcases QM hf with hf|rfl
  ·exact h f hf
  ·omega
 ·have:=Z2l k f hf;omega
section
variable {ds:List Zf} (hd:Wd ds)
include hd
end
def YY:List Z4->Nat
 | []=>0
 | s::r=>if s.op=14∨s.op=15 then YY r+1 else 0
def XO (op:Int):List Z4->List Int
 | []=>[]
 | s::r=>if s.op=op then gI s.args 0::XO op r else XO op r
def Ug:List Int->Int->List Int->List Int->List Int × List Int
 | [],_,D,R=>(D,R)
 | f::r,q,D,R=>if f≠0/\q∈D then Ug r (q+1) (D.erase q) R else if f≠0 then Ug r (q+1) D (R++[q]) else Ug r (q+1) D R
def Js (xs:List Z4) (x:Int) (fs:List Int) (q:Int):List Int × List Int:=Ug fs q (XO 14 (xs.take (YY xs))) ((XO 15 (xs.take (YY xs))).erase x)
def JO (xs:List Z4) (x:Int) (fs:List Int) (q:Int):List Z4:=
 if x∈XO 15 (xs.take (YY xs))/\fs.length≠0 then (Js xs x fs q).1.map (Zi 14)++[Zi 16 x]++(Js xs x fs q).2.map (Zi 15)++xs.drop (YY xs) else xs
def K3 (b:Z5) (x:Int) (fs:List Int) (q:Int):Z5:=.mk (JO b.steps x fs q) b.result
theorem Ek:∀xs:List Z4,YY xs<=xs.length
 | []=>Xa _
 | s::r=>by have:=Ek r;rw [YY];split<;>simp<;>omega
theorem MW:∀{xs:List Z4} {s:Z4},s∈xs.take (YY xs)->s.op=14∨s.op=15
 | [],s,h=>by simp [YY] at h
 | t::r,s,h=>by
  rw [YY] at h
  split at h
  ·rename_i q
   rw [Ba] at h
   rcases YP.1 h with rfl|h
   ·exact q
   ·exact MW h
  ·simp at h
theorem F5:∀xs:List Z4,(XO 14 xs).length+(XO 15 xs).length<=xs.length
 | []=>by simp [XO]
 | s::r=>by
  have:=F5 r
  rw [XO,XO]
  by_cases h:s.op=14
  ·rw [Zj h,Za om];simp;omega
  ·rw [Za h];split<;>simp<;>omega
theorem Ee:∀(fs:List Int) (q:Int) (D R:List Int),(Ug fs q D R).1.length+(Ug fs q D R).2.length<=D.length+R.length+fs.length
 | [],q,D,R=>by simp [Ug]
 | f::r,q,D,R=>by
  rw [Ug,YQ]
  split
  ·have:=Ee r (q+1) (D.erase q) R
   have h2:=List.length_erase_le (a:=q) (l:=D)
   omega
  ·split
   ·have:=Ee r (q+1) D (R++[q])
    simp only [Yu,YQ,Xp] at this
    omega
   ·have:=Ee r (q+1) D R
    omega
theorem Z32 {xs:List Z4} {x:Int} {fs:List Int} {q:Int} (h:x∈XO 15 (xs.take (YY xs))) (hf:fs.length<=3):(Js xs x fs q).1.length+(Js xs x fs q).2.length<=YY xs+2:=by
 have h1:=Ee fs q (XO 14 (xs.take (YY xs))) ((XO 15 (xs.take (YY xs))).erase x)
 have h2:=F5 (xs.take (YY xs))
 have h3:=List.length_pos_of_mem h
 rw [List.length_erase_of_mem h] at h1
 rw [Wp] at h2
 have h4:=Ek xs
 unfold Js
 omega
theorem Z62 (xs:List Z4) (k:Nat):Yk xs=Yk (xs.take k)+Yk (xs.drop k):=by rw [<-UN,UC]
theorem ND:∀xs:List Z4,(∀s∈xs,2<=s.sz)->2*xs.length<=Yk xs
 | [],_=>by simp
 | s::r,h=>by
  have h1:=ND r fun t ht=>h t (XC _ ht)
  have h2:=h s (Xg ..)
  rw [Yk,YQ];omega
theorem Oz {xs:List Z4} {x:Int} {fs:List Int} {q:Int} (hf:fs.length<=3) (h:∀s∈xs,s.op=14∨s.op=15->2<=s.sz):Yk (JO xs x fs q)<=Yk xs+6:=by
 rw [JO]
 split
 ·rename_i hc
  have h1:=Z32 (q:=q) hc.1 hf
  have h2:=ND (xs.take (YY xs)) fun s hs=>h s (TP hs) (MW hs)
  have h3:=Z62 xs (YY xs)
  have h4:=Ek xs
  rw [Wp] at h2
  rw [UN,UN,UN,Hk,Hk,Yk,Yk,Dk]
  omega
 ·omega
def Cn (s:Z4):Prop:=s=Zi s.op (gI s.args 0)
theorem Oy {xs:List Z4} {m:Int} {fs:List Int} {q:Int} (h:¬(m∈XO 15 (xs.take (YY xs))/\fs.length≠0)):JO xs m fs q=xs:=Za h
end Go.Abs
section
namespace Go.Abs
mutual
def AZ (ds:List Zf) (m:Nat):Z4->Z4
 | .mk op num into args kids=>.mk op num into args (Ti ds m op num args kids 0)
def Ti (ds:List Zf) (m:Nat) (op num:Int) (args:List Int):List Z5->Nat->List Z5
 | [],_=>[]
 | b::r,k=>(if op=8 then K3 (WG ds (m+(VG ds num k).length) b) (gI args 0) (VG ds num k) m else WG ds m b)::Ti ds m op num args r (k+1)
def Uy (ds:List Zf) (m:Nat):List Z4->List Z4
 | []=>[]
 | s::r=>AZ ds m s::Uy ds (if Ym s.op=true then m else m+1) r
def WG (ds:List Zf) (m:Nat):Z5->Z5
 | .mk steps result=>.mk (Uy ds m steps) result
end
def Ev (ds:List Zf) (m:Nat) (op num:Int) (args:List Int) (k:Nat) (b:Z5):Z5:=if op=8 then K3 (WG ds (m+(VG ds num k).length) b) (gI args 0) (VG ds num k) m else WG ds m b
theorem Ha (ds:List Zf) (m:Nat) (s:Z4):AZ ds m s=.mk s.op s.num s.into s.args (Ti ds m s.op s.num s.args s.kids 0):=by cases s;rw [AZ];rfl
theorem Et (ds:List Zf) (m:Nat) (b:Z5):WG ds m b=.mk (Uy ds m b.steps) b.result:=by cases b;rw [WG];rfl
section
variable {ds:List Zf} {m:Nat}
theorem Z52 {xs acc r:List Z4} {k:Nat} {s:Z4} (h:xs[k]? = some s) (ha:acc++Uy ds m (xs.drop k)=r) :
  (acc++[.mk s.op s.num s.into s.args (Ti ds m s.op s.num s.args s.kids 0)])++Uy ds (if Ym s.op=true then m else m+1) (xs.drop (k+1))=r:=by
 rw [Yd h,Uy,Ha] at ha
 rw [<-ha];simp
theorem Z51 {xs acc r:List Z4} {k:Nat} (h:xs.length<=k) (ha:acc++Uy ds m (xs.drop k)=r):acc=r:=by
 rw [Xz h,Uy,Jz] at ha;exact ha
theorem Nc {op num:Int} {args:List Int} {bs acc r:List Z5} {k:Nat} {b:Z5} (h:bs[k]? = some b) (ha:acc++Ti ds m op num args (bs.drop k) k=r) :
  (acc++[Ev ds m op num args k b])++Ti ds m op num args (bs.drop (k+1)) (k+1)=r:=by
 rw [Yd h,Ti] at ha
 rw [<-ha,Ev];simp
theorem Z4y {op num:Int} {args:List Int} {bs acc r:List Z5} {k j:Nat} (h:bs.length<=k) (ha:acc++Ti ds m op num args (bs.drop k) j=r):acc=r:=by
 rw [Xz h,Ti,Jz] at ha;exact ha
end
mutual
def wS (ds:List Zf):Z4->Prop
 | .mk op num into args kids=>(X3 op=!Ym op)/\(Ym op=true->num=0/\into=0/\kids=[]/\∃a,args=[a])/\(op=8->(∃a,args=[a]/\0<=a/\a<=900000000)/\kids.length=(Zt ds num).length)/\Jx ds kids
def Jx (ds:List Zf):List Z5->Prop
 | []=>True
 | b::r=>wB ds b/\Jx ds r
def Q7 (ds:List Zf):List Z4->Prop
 | []=>True
 | s::r=>wS ds s/\Q7 ds r
def wB (ds:List Zf):Z5->Prop
 | .mk steps _=>Q7 ds steps
end
section
variable {ds:List Zf}
theorem Ki (s:Z4):wS ds s↔(X3 s.op=!Ym s.op)/\(Ym s.op=true->s.num=0/\s.into=0/\s.kids=[]/\∃a,s.args=[a])/\(s.op=8->(∃a,s.args=[a]/\0<=a/\a<=900000000)/\s.kids.length=(Zt ds s.num).length)/\Jx ds s.kids:=by cases s;rw [wS];rfl
theorem K0 (b:Z5):wB ds b↔Q7 ds b.steps:=by cases b;rw [wB];rfl
theorem Jy:∀{xs:List Z4},Q7 ds xs↔∀s∈xs,wS ds s
 | []=>by simp [Q7]
 | s::r=>by rw [Q7,Jy];simp
theorem EF:∀{xs:List Z5},Jx ds xs↔∀s∈xs,wB ds s
 | []=>by simp [Jx]
 | s::r=>by rw [Jx,EF];simp
theorem O5 {b:Z5} {k:Nat} {s:Z4} (h:wB ds b) (hs:b.steps[k]? = some s):wS ds s:=Jy.1 ((K0 b).1 h) s (Y7 hs)
theorem HB {s:Z4} {k:Nat} {b:Z5} (h:wS ds s) (hb:s.kids[k]? = some b):wB ds b:=EF.1 ((Ki s).1 h).2.2.2 b (Y7 hb)
theorem EG {s:Z4} (h:wS ds s) (hc:Ym s.op=true):Cn s/\s.kids=[]/\∃a,s.args=[a]:=by
 obtain ⟨h1,h2,h3,a,h4⟩:=((Ki s).1 h).2.1 hc
 refine ⟨?_,h3,a,h4⟩
 cases s with
 | mk op num into args kids=>
  simp only [Z4.num,Z4.into,Z4.kids,Z4.args] at h1 h2 h3 h4
  subst h1 h2 h3 h4
  rfl
theorem Z7m {op v:Int} (h:op=14∨op=15∨op=16):wS ds (Zi op v):=(Ki _).2 ⟨by show X3 op=!Ym op;rcases h with rfl|rfl|rfl<;>rfl,fun _=>⟨rfl,rfl,rfl,v,rfl⟩,fun e=>absurd e (show op≠8 by omega),True.intro⟩
theorem Z7n {s:Z4} (h:wS ds s):X3 s.op=!Ym s.op:=((Ki s).1 h).1
theorem CW {s:Z4} (h:wS ds s) (h8:s.op=8):(∃a,s.args=[a]/\0<=a/\a<=900000000)/\s.kids.length=(Zt ds s.num).length:=((Ki s).1 h).2.2.1 h8
theorem EO {xs:List Z4} (h:Q7 ds xs):∀s∈xs,Ym s.op=true->Cn s:=fun s hs hc=>(EG (Jy.1 h s hs) hc).1
end
section
variable {n:Zx}
end
mutual
def Z4.pz:Z4->Nat
 | .mk _ _ _ args kids=>1+args.length+BK kids
def Z5.pz:Z5->Nat
 | .mk steps _=>1+BL steps
def BL:List Z4->Nat
 | []=>0
 | s::r=>s.pz+BL r
def BK:List Z5->Nat
 | []=>0
 | b::r=>b.pz+8+BK r
end
mutual
theorem Z4.pz_le:∀s:Z4,s.pz<=9*s.sz
 | .mk _ _ _ args kids=>by have:=MD kids;rw [Z4.pz,Z4.sz];omega
theorem Z5.pz_le:∀b:Z5,b.pz+8<=9*b.sz
 | .mk steps _=>by have:=ME steps;rw [Z5.pz,Z5.sz];omega
theorem ME:∀xs:List Z4,BL xs<=9*Yk xs
 | []=>Qr _
 | s::r=>by have:=s.pz_le;have:=ME r;rw [BL,Yk];omega
theorem MD:∀xs:List Z5,BK xs<=9*YW xs
 | []=>Qr _
 | s::r=>by have:=s.pz_le;have:=MD r;rw [BK,YW];omega
end
section
variable {ds:List Zf}
theorem Pa {op:Int} (h:op=14∨op=15):Ym op=true:=by rw [Ym];simp;omega
theorem Z53 {xs:List Z4}:∀{m:Nat},Q7 ds xs->∀s∈Uy ds m xs,s.op=14∨s.op=15->2<=s.sz:=by
 induction xs with
 | nil=>intro m _ s hs;simp [Uy] at hs
 | cons t r ih=>
  intro m h s hs ho
  rw [Uy] at hs
  rcases YP.1 hs with rfl|hs
  ·rw [Ha] at ho ⊢
   obtain ⟨_,_,a,ha⟩:=EG h.1 (Pa ho)
   rw [Z4.sz,ha];simp
  ·exact ih h.2 s hs ho
variable (hd:Wd ds)
include hd
mutual
theorem Z4z:∀(s:Z4) {m:Nat},wS ds s->(AZ ds m s).sz<=s.pz
 | .mk op num into args kids,m,h=>by
  have:=Nf kids (m:=m) (op:=op) (num:=num) (args:=args) (k:=0) h.2.2.2
  rw [AZ,Z4.sz,Z4.pz];omega
theorem Nf:∀(bs:List Z5) {m:Nat} {op num:Int} {args:List Int} {k:Nat},Jx ds bs->YW (Ti ds m op num args bs k)<=BK bs
 | [],_,_,_,_,_,_=>Xa _
 | b::r,m,op,num,args,k,h=>by
  have h2:=Nf r (m:=m) (op:=op) (num:=num) (args:=args) (k:=k+1) h.2
  rw [Ti,YW,BK]
  split
  ·have h1:=Eu b (m:=m+(VG ds num k).length) h.1
   have h3:=Oz (xs:=(WG ds (m+(VG ds num k).length) b).steps) (x:=gI args 0) (q:=(m:Int)) (II hd num k) (by rw [Et];exact Z53 ((K0 b).1 h.1))
   rw [K3,Z5.sz]
   rw [Z5.sz_eq] at h1
   omega
  ·have h1:=Eu b (m:=m) h.1
   omega
theorem Ng:∀(xs:List Z4) {m:Nat},Q7 ds xs->Yk (Uy ds m xs)<=BL xs
 | [],_,_=>Xa _
 | s::r,m,h=>by
  have h1:=Z4z s (m:=m) h.1
  have h2:=Ng r (m:=if Ym s.op=true then m else m+1) h.2
  rw [Uy,Yk,BL];omega
theorem Eu:∀(b:Z5) {m:Nat},wB ds b->(WG ds m b).sz<=b.pz
 | .mk steps result,m,h=>by
  have:=Ng steps (m:=m) h
  rw [WG,Z5.sz,Z5.pz];omega
end
end
section
variable {ds:List Zf} {m:Nat}
end
def KN (ds:List Zf) (r:Yj):Yj:=⟨r.params,r.lent,r.result,WG ds r.params.length r.body⟩
def Ew (n:Zx):Zx:=⟨n.decls,n.routines.map (KN n.decls)⟩
end Go.Abs
namespace Go.Abs
theorem Z45 {xs:List Z4} {k:Nat} {s:Z4} {r:Nat} (h:xs[k]? = some s) (hs:s.op=14∨s.op=15) (ha:k+YY (xs.drop k)=r):k+1+YY (xs.drop (k+1))=r:=by
 rw [Yd h,YY,Zj hs] at ha;omega
theorem Z46 {xs:List Z4} {k:Nat} {s:Z4} {r:Nat} (h:xs[k]? = some s) (hs:¬(s.op=14∨s.op=15)) (ha:k+YY (xs.drop k)=r):k=r:=by
 rw [Yd h,YY,Za hs] at ha;omega
theorem Z44 {xs:List Z4} {k:Nat} {r:Nat} (h:xs.length<=k) (ha:k+YY (xs.drop k)=r):k=r:=by
 rw [Xz h,YY] at ha;omega
theorem OK {op:Int} {xs:List Z4} {acc r:List Int} {k:Nat} {s:Z4} (h:xs[k]? = some s) (hs:s.op=op) (ha:acc++XO op (xs.drop k)=r):(acc++[gI s.args 0])++XO op (xs.drop (k+1))=r:=by
 rw [Yd h,XO,Zj hs] at ha;rw [<-ha];simp
theorem OJ {op:Int} {xs:List Z4} {acc r:List Int} {k:Nat} {s:Z4} (h:xs[k]? = some s) (hs:¬s.op=op) (ha:acc++XO op (xs.drop k)=r):acc++XO op (xs.drop (k+1))=r:=by
 rw [Yd h,XO,Za hs] at ha;exact ha
theorem OI {op:Int} {xs:List Z4} {acc r:List Int} {k:Nat} (h:xs.length<=k) (ha:acc++XO op (xs.drop k)=r):acc=r:=by
 rw [Xz h,XO,Jz] at ha;exact ha
theorem Rl {xs acc r:List Int} {y:Int} {k:Nat} {x:Int} {d:Bool} (h:xs[k]? = some x) (ha:acc++(if d=true then xs.drop k else (xs.drop k).erase y)=r) :
  (if x=y/\¬d=true then acc else acc++[x])++(if ((x==y&&!d)||d)=true then xs.drop (k+1) else (xs.drop (k+1)).erase y)=r:=by
 rw [Yd h] at ha
 rw [<-ha]
 by_cases hd:d=true
 ·simp [hd]
 ·by_cases hx:x=y
  ·simp [hd,hx]
  ·rw [Za (fun z=>hx z.1),Za hd,List.erase_cons_tail (by simpa using hx)]
   simp [hd,hx]
theorem Rk {xs acc r:List Int} {y:Int} {k:Nat} {d:Bool} (h:xs.length<=k) (ha:acc++(if d=true then xs.drop k else (xs.drop k).erase y)=r):acc=r:=by
 rw [Xz h] at ha;simpa using ha
section
variable {fs D R:List Int} {q k:Nat} {f:Int} {r:List Int × List Int}
theorem Z34 (h:fs[k]? = some f) (h0:f≠0) (hm:((q+k:Nat):Int)∈D) (ha:Ug (fs.drop k) (q+k) D R=r):Ug (fs.drop (k+1)) (q+((k+1:Nat):Int)) (D.erase ((q+k:Nat):Int)) R=r:=by
 rw [Yd h,Ug,Zj ⟨h0,by rw [<-Int.natCast_add];exact hm⟩,<-Int.natCast_add] at ha
 rw [<-ha];congr 1
theorem Z35 (h:fs[k]? = some f) (h0:f≠0) (hm:¬((q+k:Nat):Int)∈D) (ha:Ug (fs.drop k) (q+k) D R=r):Ug (fs.drop (k+1)) (q+((k+1:Nat):Int)) D (R++[((q+k:Nat):Int)])=r:=by
 rw [Yd h,Ug,Za (fun z=>hm (by rw [Int.natCast_add];exact z.2)),Zj h0,<-Int.natCast_add] at ha
 rw [<-ha];congr 1
theorem Z36 (h:fs[k]? = some f) (h0:¬f≠0) (ha:Ug (fs.drop k) (q+k) D R=r):Ug (fs.drop (k+1)) (q+((k+1:Nat):Int)) D R=r:=by
 rw [Yd h,Ug,Za (fun z=>h0 z.1),Za h0] at ha
 rw [<-ha];congr 1
theorem Z33 (h:fs.length<=k) (ha:Ug (fs.drop k) (q+k) D R=r):r=(D,R):=by
 rw [Xz h,Ug] at ha;exact ha.symm
end
theorem OA {xs:List Z4} {x:Int} {fs:List Int} {q:Int} {D R:List Int} (h1:x∈XO 15 (xs.take (YY xs))) (h2:fs.length≠0) (hr:Js xs x fs q=(D,R)):D.map (Zi 14)++[Zi 16 x]++R.map (Zi 15)++xs.drop (YY xs)=JO xs x fs q:=by
 rw [JO,Zj ⟨h1,h2⟩,hr]
theorem Z50 {ds:List Zf} {xs:List Z4}:∀{m:Nat},Q7 ds xs->∀s∈Uy ds m xs,Ym s.op=true->∃a,s.args=[a]:=by
 induction xs with
 | nil=>intro m _ s hs;simp [Uy] at hs
 | cons t r ih=>
  intro m h s hs ho
  rw [Uy] at hs
  rcases YP.1 hs with rfl|hs
  ·rw [Ha] at ho ⊢
   exact (EG h.1 ho).2.2
  ·exact ih h.2 s hs ho
end Go.Abs
end
namespace Go.Abs
mutual
def Z2.sz:Z2->Nat
 | .mk _ _ kids=>1+Xq kids
def Xq:List Z2->Nat
 | []=>0
 | e::r=>e.sz+Xq r
end
theorem Z2.sz_eq (e:Z2):e.sz=1+Xq e.kids:=by cases e;rw [Z2.sz];rfl
theorem Ca:∀xs ys:List Z2,Xq (xs++ys)=Xq xs+Xq ys
 | [],ys=>by simp [Xq]
 | x::r,ys=>by rw [Tk,Xq,Xq,Ca r];omega
theorem AI:∀{xs:List Z2} {k:Nat} {e:Z2},xs[k]? = some e->e.sz<=Xq xs
 | [],k,e,h=>by simp at h
 | x::r,0,e,h=>by simp at h;subst h;rw [Xq];omega
 | x::r,k+1,e,h=>by have:=AI (xs:=r) (k:=k) (by simpa using h);rw [Xq];omega
theorem IB:∀{xs:List Z2},xs.length<=Xq xs
 | []=>Qr _
 | x::r=>by have:=IB (xs:=r);have:=x.sz_eq;rw [Xq,YQ];omega
def J5:Zf:=⟨0,0,[⟨[]⟩,⟨[0,1]⟩]⟩
def J6:Zf:=⟨0,0,[⟨[]⟩,⟨[3,0,3]⟩]⟩
def In:List Zf:=[⟨0,0,[⟨[1,3]⟩]⟩,⟨1,0,[]⟩,⟨0,0,[⟨[1,1,0]⟩,⟨[0]⟩,⟨[3]⟩]⟩,⟨0,1,[]⟩]
def Jf:List (List Zf):=[[J5,⟨0,0,[]⟩,J6],[J5,⟨0,0,[]⟩,J6,⟨0,0,[⟨[1,3]⟩]⟩],[J5,⟨0,0,[]⟩,J6,⟨1,0,[]⟩],[J5,⟨0,0,[]⟩,J6,⟨0,0,[⟨[1,1,0]⟩,⟨[0]⟩,⟨[3]⟩]⟩],[J5,⟨0,0,[]⟩,J6,⟨0,1,[]⟩]]
def GD (ds:List Zf):Prop:=ds∈Jf
theorem GD.ok {ds:List Zf} (h:GD ds):Wd ds:=by
 have k:=(by decide:∀ds∈Jf,ds.length<=4/\(∀d∈ds,d.cons.length<=3)/\∀d∈ds,∀c∈d.cons,c.fields.length<=3) ds h
 exact ⟨k.1,k.2.1,k.2.2⟩
theorem GD.len {ds:List Zf} (h:GD ds):3<=ds.length/\ds.length<=4:=by
 exact (by decide:∀ds∈Jf,3<=ds.length/\ds.length<=4) ds h
def QL (t:Int):Prop:=t=0∨t=1∨t=3
instance (t:Int):Decidable (QL t):=inferInstanceAs (Decidable (_∨_∨_))
theorem GD.low {ds:List Zf} (h:GD ds):Zt ds 0=[]/\Zt ds 1=[0,1]/\Zt ds 2=[]/\Zt ds 3=[2,3]/\Zw ds 0=[]/\Zw ds 1=[0,1]/\Zw ds 2=[]/\Zw ds 3=[3,0,3]:=
 (by decide:∀ds∈Jf,Zt ds 0=[]/\Zt ds 1=[0,1]/\Zt ds 2=[]/\Zt ds 3=[2,3]/\Zw ds 0=[]/\Zw ds 1=[0,1]/\Zw ds 2=[]/\Zw ds 3=[3,0,3]) ds h
theorem GD.fields {ds:List Zf} (h:GD ds):∀c∈Zt ds 1++(Zt ds 3++Zt ds 4),∀t∈Zw ds c,QL t:=
 (by decide:∀ds∈Jf,∀c∈Zt ds 1++(Zt ds 3++Zt ds 4),∀t∈Zw ds c,QL t) ds h
theorem GD.cons_cases {ds:List Zf} (h:GD ds) {t:Int} {c:Int} (hc:c∈Zt ds t):(0<=c/\c<=9)/\(t=1∨t=3∨t=4)/\(Zw ds c).length<=3/\∀u∈Zw ds c,QL u:=by
 have ht:1<=t/\t<=ds.length:=by
  by_cases q:1<=t/\t<=ds.length
  ·exact q
  ·rw [Zt,Za q] at hc;cases hc
 have hl:=h.len
 have hlow:=h.low
 have key:∀c∈Zt ds 1++(Zt ds 3++Zt ds 4),0<=c/\c<=9:=
  (by decide:∀ds∈Jf,∀c∈Zt ds 1++(Zt ds 3++Zt ds 4),0<=c/\c<=9) ds h
 have h4:t=1∨t=2∨t=3∨t=4:=by omega
 have hf:=h.fields
 have hd:=VN h.ok c
 rcases h4 with rfl|rfl|rfl|rfl
 ·exact ⟨key c (Xe.2 (.inl hc)),.inl rfl,hd,hf c (Xe.2 (.inl hc))⟩
 ·rw [hlow.2.2.1] at hc;cases hc
 ·exact ⟨key c (Xe.2 (.inr (Xe.2 (.inl hc)))),.inr (.inl rfl),hd,hf c (Xe.2 (.inr (Xe.2 (.inl hc))))⟩
 ·exact ⟨key c (Xe.2 (.inr (Xe.2 (.inr hc)))),.inr (.inr rfl),hd,hf c (Xe.2 (.inr (Xe.2 (.inr hc))))⟩
def Ko:List (List Int × Int):=[([],0),([1],0),([1,1],1),([1],1),([1,0],1),([2,1],1),([1,1],0),([3],0),([0],1),([0,1],1),([3,0],3),([3],1),([1,3,0],0),([0],0),([0,0],0),([1,0],0)]
def UR (f:Func):Prop:=(f.params,f.result)∈Ko
theorem UR.bd {f:Func} (h:UR f):f.params.length<=3/\(∀t∈f.params,0<=t/\t<=3)/\QL f.result:=by
 have key:∀q∈Ko,q.1.length<=3/\(∀t∈q.1,0<=t/\t<=3)/\QL q.2:=by decide
 exact key _ h
theorem UR.clo {ds:List Zf} {f:Func} (hd:GD ds) (h:UR f) (hp:0<WX ds (gI f.params ((f.params.length:Int)-1)) f.result):∀t∈f.params.dropLast,QL t:=by
 have key:∀q∈Ko,0<WX ds (gI q.1 ((q.1.length:Int)-1)) q.2->∀t∈q.1.dropLast,QL t:=
  (by decide +kernel:∀ds∈Jf,∀q∈Ko,0<WX ds (gI q.1 ((q.1.length:Int)-1)) q.2->∀t∈q.1.dropLast,QL t) ds hd
 exact key _ h hp
structure GP (p:XV):Prop where
 decls:GD p.decls
 len:1<=p.funcs.length/\p.funcs.length<=4
 sigs:∀f∈p.funcs,UR f
def Tg (ds:List Zf) (op num:Int) (m:Nat) (k:Nat):Nat:=
 if op=13 then m+k else if op=8 then (if k=0 then m else m+(Zw ds (gI (Zt ds num) ((k:Int)-1))).length) else m
mutual
def eW (ds:List Zf) (nf:Nat):Nat->Z2->Prop
 | m,.mk op num kids=>(0<=op/\op<=13)/\(op=12->kids=[]/\0<=num/\num<m)/\(op=13->kids.length=2)/\(op=7->kids.length=3)/\(op=8->kids.length=1+(Zt ds num).length)/\(op=9->0<=num/\num<nf)/\(-2000<=num/\num<=2000)/\kids.length<=4 /\
  TV ds nf (Tg ds op num m) 0 kids
def TV (ds:List Zf) (nf:Nat) (sc:Nat->Nat):Nat->List Z2->Prop
 | _,[]=>True
 | k,e::r=>eW ds nf (sc k) e/\TV ds nf sc (k+1) r
end
theorem Rf {ds:List Zf} {nf m:Nat} (e:Z2):eW ds nf m e↔(0<=e.op/\e.op<=13)/\(e.op=12->e.kids=[]/\0<=e.num/\e.num<m)/\(e.op=13->e.kids.length=2)/\(e.op=7->e.kids.length=3)/\(e.op=8->e.kids.length=1+(Zt ds e.num).length)/\(e.op=9->0<=e.num/\e.num<nf)/\(-2000<=e.num/\e.num<=2000)/\e.kids.length<=4 /\
  TV ds nf (Tg ds e.op e.num m) 0 e.kids:=by cases e;rw [eW];rfl
theorem Bq {ds:List Zf} {nf:Nat} {sc:Nat->Nat}:∀{xs:List Z2} {j k:Nat} {e:Z2},TV ds nf sc j xs->xs[k]? = some e->eW ds nf (sc (j+k)) e
 | [],j,k,e,_,h=>by simp at h
 | x::r,j,0,e,hw,h=>by simp at h;subst h;exact hw.1
 | x::r,j,k+1,e,hw,h=>by
  have:=Bq (xs:=r) (j:=j+1) (k:=k) hw.2 (by simpa using h)
  rw [show j+(k+1)=j+1+k by omega];exact this
theorem Ix {ds:List Zf} {nf:Nat} {sc:Nat->Nat}:∀{xs ys:List Z2} {j:Nat},TV ds nf sc j (xs++ys)↔TV ds nf sc j xs/\TV ds nf sc (j+xs.length) ys
 | [],ys,j=>by simp [TV]
 | x::r,ys,j=>by
  rw [Tk,TV,TV,Ix (xs:=r),and_assoc,YQ,show j+1+r.length=j+(r.length+1) by omega]
theorem FF {ds:List Zf} {nf m:Nat} {sc:Nat->Nat} (hs:∀k,sc k=m):∀{xs:List Z2} {j:Nat},(∀e∈xs,eW ds nf m e)->TV ds nf sc j xs
 | [],_,_=>True.intro
 | x::r,j,h=>⟨by rw [hs];exact h x (Xg ..),FF hs fun e he=>h e (XC _ he)⟩
theorem AH {ds:List Zf} {nf m:Nat} {op num:Int} {kids:List Z2} (ho:0<=op/\op<=11/\op≠7/\op≠8) (hc:op=9->0<=num/\num<nf) (hn:-2000<=num/\num<=2000) (hl:kids.length<=4) (hk:∀e∈kids,eW ds nf m e):eW ds nf m (.mk op num kids):=by
 rw [eW]
 refine ⟨by omega,fun h=>by omega,fun h=>by omega,fun h=>by omega,fun h=>by omega,hc,hn,hl,FF (m:=m) (fun k=>?_) hk⟩
 rw [Tg,Za om,Za om]
theorem Rg {ds:List Zf} {nf m:Nat} {z:Int} (hz:-2000<=z/\z<=2000):eW ds nf m (.mk 0 z []):=AH om (fun h=>by omega) hz (by simp) (fun e he=>by cases he)
theorem Rh {ds:List Zf} {nf m:Nat} {z:Int} (hz:0<=z/\z<m) (hm:m<=2000):eW ds nf m (.mk 12 z []):=by
 rw [eW]
 exact ⟨by omega,fun _=>⟨rfl,hz⟩,fun h=>by omega,fun h=>by omega,fun h=>by omega,fun h=>by omega,by omega,by simp,True.intro⟩
theorem Iv {ds:List Zf} {nf m:Nat} {num:Int} {kids:List Z2} (hn:-2000<=num/\num<=2000) (hl:kids.length=3) (hk:∀e∈kids,eW ds nf m e):eW ds nf m (.mk 7 num kids):=by
 rw [eW]
 refine ⟨by omega,fun h=>by omega,fun h=>by omega,fun _=>hl,fun h=>by omega,fun h=>by omega,hn,by omega,FF (m:=m) (fun k=>?_) hk⟩
 rw [Tg,Za om,Za om]
theorem Iw {ds:List Zf} {nf m:Nat} {num:Int} {a b:Z2} (hn:-2000<=num/\num<=2000) (ha:eW ds nf m a) (hb:eW ds nf (m+1) b):eW ds nf m (.mk 13 num [a,b]):=by
 rw [eW]
 exact ⟨by omega,fun h=>by omega,fun _=>rfl,fun h=>by omega,fun h=>by omega,fun h=>by omega,hn,by simp,ha,hb,True.intro⟩
theorem FE {ds:List Zf} {nf m:Nat} {num:Int} {a:Z2} {arms:List Z2} (hn:-2000<=num/\num<=2000) (h3:arms.length<=3) (hl:arms.length=(Zt ds num).length) (ha:eW ds nf m a) (hk:TV ds nf (Tg ds 8 num m) 1 arms):eW ds nf m (.mk 8 num (a::arms)):=by
 rw [eW]
 refine ⟨by omega,fun h=>by omega,fun h=>by omega,fun h=>by omega,fun _=>by rw [YQ];omega,fun h=>by omega,hn,by rw [YQ];omega,?_,hk⟩
 rw [Tg,Za om,Zj rfl,Zj rfl]
 exact ha
def bS (b:Nat):Nat:=max 4 (10*b-10)
def bC (b:Nat):Nat:=max 40 (100*b-100)
def YN:List Z4->Nat
 | []=>0
 | s::r=>(if Ym s.op=true then 0 else 1)+YN r
theorem K5:∀xs ys:List Z4,YN (xs++ys)=YN xs+YN ys
 | [],ys=>by simp [YN]
 | x::r,ys=>by rw [Tk,YN,YN,K5 r];omega
theorem AE:∀xs:List Z4,YN xs<=xs.length
 | []=>Xa _
 | x::r=>by have:=AE r;rw [YN,YQ];split<;>omega
def Ux (ds:List Zf) (op num:Int) (m:Nat) (k:Nat):Nat:=if op=8 then m+(Zw ds (gI (Zt ds num) k)).length else m
mutual
def fS (ds:List Zf) (nf:Nat):Nat->Z4->Prop
 | m,.mk op num into args kids=>((0<=op/\op<=11)∨(14<=op/\op<=17))/\(∀a∈args,0<=a/\a<m)/\(14<=op->num=0/\into=0/\kids=[]/\∃a,args=[a])/\(op=7->kids.length=2)/\(op=8->kids.length=(Zt ds num).length)/\(op=7∨op=8->∃a,args=[a]) /\
  (op=9->0<=num/\num<nf)/\(-2000<=num/\num<=2000)/\(0<=into/\into<=m)/\args.length<=4/\(op≠7/\op≠8->kids=[])/\T7 ds nf (Ux ds op num m) 0 kids
def T7 (ds:List Zf) (nf:Nat) (sc:Nat->Nat):Nat->List Z5->Prop
 | _,[]=>True
 | k,b::r=>fB ds nf (sc k) b/\T7 ds nf sc (k+1) r
def UF (ds:List Zf) (nf:Nat):Nat->List Z4->Prop
 | _,[]=>True
 | m,s::r=>fS ds nf m s/\UF ds nf (if Ym s.op=true then m else m+1) r
def fB (ds:List Zf) (nf:Nat):Nat->Z5->Prop
 | m,.mk steps result=>UF ds nf m steps/\0<=result/\result<(m+YN steps:Nat)
end
section
variable {ds:List Zf} {nf:Nat}
structure FS (ds:List Zf) (nf m:Nat) (s:Z4):Prop where
 op:(0<=s.op/\s.op<=11)∨(14<=s.op/\s.op<=17)
 args:∀a∈s.args,0<=a/\a<m
 cnt:14<=s.op->s.num=0/\s.into=0/\s.kids=[]/\∃a,s.args=[a]
 k7:s.op=7->s.kids.length=2
 k8:s.op=8->s.kids.length=(Zt ds s.num).length
 one:s.op=7∨s.op=8->∃a,s.args=[a]
 call:s.op=9->0<=s.num/\s.num<nf
 num:-2000<=s.num/\s.num<=2000
 into:0<=s.into/\s.into<=m
 alen:s.args.length<=4
 kn:s.op≠7/\s.op≠8->s.kids=[]
 kids:T7 ds nf (Ux ds s.op s.num m) 0 s.kids
theorem Dw {m:Nat} (s:Z4):fS ds nf m s↔FS ds nf m s:=by
 cases s
 rw [fS]
 exact ⟨fun ⟨h1,h2,h3,h4,h5,h6,h7,h8,h9,h10,h11,h12⟩=>⟨h1,h2,h3,h4,h5,h6,h7,h8,h9,h10,h11,h12⟩,fun h=>⟨h.op,h.args,h.cnt,h.k7,h.k8,h.one,h.call,h.num,h.into,h.alen,h.kn,h.kids⟩⟩
theorem Cc {m:Nat} (b:Z5):fB ds nf m b↔UF ds nf m b.steps/\0<=b.result/\b.result<(m+YN b.steps:Nat):=by cases b;rw [fB];rfl
theorem Cd {sc:Nat->Nat}:∀{xs:List Z5} {j k:Nat} {b:Z5},T7 ds nf sc j xs->xs[k]? = some b->fB ds nf (sc (j+k)) b
 | [],j,k,b,_,h=>by simp at h
 | x::r,j,0,b,hw,h=>by simp at h;subst h;exact hw.1
 | x::r,j,k+1,b,hw,h=>by
  have:=Cd (xs:=r) (j:=j+1) (k:=k) hw.2 (by simpa using h)
  rw [show j+(k+1)=j+1+k by omega];exact this
theorem ID {sc:Nat->Nat}:∀{xs ys:List Z5} {j:Nat},T7 ds nf sc j (xs++ys)↔T7 ds nf sc j xs/\T7 ds nf sc (j+xs.length) ys
 | [],ys,j=>by simp [T7]
 | x::r,ys,j=>by
  rw [Tk,T7,T7,ID (xs:=r),and_assoc,YQ,show j+1+r.length=j+(r.length+1) by omega]
theorem IE {sc:Nat->Nat} {xs:List Z5} {b:Z5} (h:T7 ds nf sc 0 xs) (hb:fB ds nf (sc xs.length) b):T7 ds nf sc 0 (xs++[b]):=
 ID.2 ⟨h,by rw [WQ];exact hb,True.intro⟩
theorem Bs:∀{xs ys:List Z4} {m:Nat},UF ds nf m (xs++ys)↔UF ds nf m xs/\UF ds nf (m+YN xs) ys
 | [],ys,m=>by simp [UF,YN]
 | x::r,ys,m=>by
  rw [Tk,UF,UF,Bs (xs:=r),and_assoc,YN]
  by_cases h:Ym x.op=true
  ·rw [Zj h,Zj h,WQ]
  ·rw [Za h,Za h,KW]
theorem Dx {xs:List Z4} {s:Z4} {m:Nat} (h:UF ds nf m xs) (hs:fS ds nf (m+YN xs) s):UF ds nf m (xs++[s]):=Bs.2 ⟨h,hs,True.intro⟩
theorem Ce:∀{xs:List Z4} {k m:Nat} {s:Z4},UF ds nf m xs->xs[k]? = some s->fS ds nf (m+YN (xs.take k)) s
 | [],k,m,s,_,h=>by simp at h
 | x::r,0,m,s,hw,h=>by simp at h;subst h;exact hw.1
 | x::r,k+1,m,s,hw,h=>by
  have:=Ce (xs:=r) (k:=k) hw.2 (by simpa using h)
  rw [Ba,YN]
  by_cases hc:Ym x.op=true
  ·rw [Zj hc] at this ⊢;rw [WQ];exact this
  ·rw [Za hc] at this ⊢;rw [<-KW];exact this
mutual
theorem Z7p:∀(s:Z4) {m:Nat},fS ds nf m s->m+4*s.sz<=900000000->Wd ds->wS ds s
 | .mk op num into args kids,m,h,hb,hd=>by
  rw [fS] at h
  obtain ⟨h1,h2,h3,h4,h5,h6,h7,h8,h9,h10,h11,h12⟩:=h
  rw [Z4.sz] at hb
  rw [wS]
  refine ⟨?_,fun hc=>h3 (show 14<=op/\op<=17 by simpa [Ym] using hc).1,fun h8'=>⟨?_,h5 h8'⟩,O7 kids h12 (fun k=>?_) hd⟩
  ·rcases h1 with h1|h1
   ·have e1:Ym op=false:=by simp [Ym];omega
    have e2:X3 op=true:=by simp [X3];omega
    rw [e1,e2];rfl
   ·have e1:Ym op=true:=by simp [Ym];omega
    have e2:X3 op=false:=by simp [X3];omega
    rw [e1,e2];rfl
  ·obtain ⟨a,ha⟩:=h6 (.inr h8')
   have:=h2 a (by rw [ha];exact XN.2 rfl)
   exact ⟨a,ha,by omega⟩
  ·have hf:=VN hd (gI (Zt ds num) k)
   show Ux ds op num m k+4*YW kids<=900000003
   rw [Ux];split<;>omega
theorem O7:∀(bs:List Z5) {sc:Nat->Nat} {k:Nat},T7 ds nf sc k bs->(∀k,sc k+4*YW bs<=900000003)->Wd ds->Jx ds bs
 | [],_,_,_,_,_=>True.intro
 | b::r,sc,k,h,hb,hd=>by
  have hp:=b.sz_eq
  exact ⟨O6 b h.1 (by have:=hb k;rw [YW] at this;omega) hd,O7 r h.2 (fun j=>by have:=hb j;rw [YW] at this;omega) hd⟩
theorem O8:∀(xs:List Z4) {m:Nat},UF ds nf m xs->m+4*Yk xs<=900000000->Wd ds->Q7 ds xs
 | [],_,_,_,_=>True.intro
 | s::r,m,h,hb,hd=>by
  rw [Yk] at hb
  have hp:=s.sz_pos
  refine ⟨Z7p s h.1 om hd,O8 r h.2 ?_ hd⟩
  split<;>omega
theorem O6:∀(b:Z5) {m:Nat},fB ds nf m b->m+4*b.sz<=900000004->Wd ds->wB ds b
 | .mk steps result,m,h,hb,hd=>by
  rw [Z5.sz] at hb
  rw [fB] at h
  rw [wB]
  exact O8 steps h.1 om hd
end
mutual
theorem Z3l:∀(s:Z4) {m:Nat},fS ds nf m s->s.rng
 | .mk op num into args kids,m,h=>by
  rw [fS] at h
  obtain ⟨h1,h2,h3,h4,h5,h6,h7,h8,h9,h10,h11,h12⟩:=h
  rw [Z4.rng]
  exact ⟨by omega,MK kids h12⟩
theorem MK:∀(bs:List Z5) {sc:Nat->Nat} {k:Nat},T7 ds nf sc k bs->TA bs
 | [],_,_,_=>True.intro
 | b::r,sc,k,h=>⟨GT b h.1,MK r h.2⟩
theorem ML:∀(xs:List Z4) {m:Nat},UF ds nf m xs->Uj xs
 | [],_,_=>True.intro
 | s::r,m,h=>⟨Z3l s h.1,ML r h.2⟩
theorem GT:∀(b:Z5) {m:Nat},fB ds nf m b->b.rng
 | .mk steps result,m,h=>by rw [fB] at h;rw [Z5.rng];exact ML steps h.1
end
end
structure FN (n:Zx) (q:Nat):Prop where
 decls:GD n.decls
 len:1<=n.routines.length/\n.routines.length<=4
 sigs:∀r∈n.routines,(r.params,r.result)∈Ko
 lent:∀r∈n.routines,r.lent.length<=3/\∀i∈r.lent,0<=i/\i<r.params.length
 body:∀r∈n.routines,fB n.decls n.routines.length r.params.length r.body/\r.body.sz<=q
theorem FN.ok {n:Zx} {q:Nat} (h:FN n q):Xf n:=
 ⟨h.decls.ok,h.len.2,fun r hr=>(UR.bd (f:=⟨r.params,r.result,default⟩) (h.sigs r hr)).1,fun r hr=>by have:=(h.lent r hr).1;omega⟩
def Pk (n k:Int):Prop:=0<=k/\(0<n->k<n)/\(n<=0->k=0)
theorem Pk.lt {n k:Int} (h:Pk n k) (hn:0<n):0<=k/\k<n:=⟨h.1,h.2.1 hn⟩
theorem Pk.zero {n:Int}:Pk n 0:=⟨Int.le_refl _,fun h=>h,fun _=>rfl⟩
theorem Pk.rem {n a:Int} (ha:0<=a) (hn:0<n):Pk n (a % n):=⟨Int.emod_nonneg _ om,fun _=>Int.emod_lt_of_pos _ hn,fun _=>by omega⟩
def AD (ds:List Zf):Prop:=ds.length<=8/\∀d∈ds,d.cons.length<=4/\∀c∈d.cons,c.fields.length<=4
theorem GD.ad {ds:List Zf} (h:GD ds):AD ds:=(by decide:∀ds∈Jf,ds.length<=8/\∀d∈ds,d.cons.length<=4/\∀c∈d.cons,c.fields.length<=4) ds h
theorem AD.set {ds:List Zf} (h:AD ds) (k:Nat) {d:Zf} (hd:d.cons.length<=4/\∀c∈d.cons,c.fields.length<=4):AD (ds.set k d):=
 ⟨by rw [UQ];exact h.1,fun x hx=>(List.mem_or_eq_of_mem_set hx).elim (h.2 x) fun e=>by rw [e];exact hd⟩
theorem AD.app {ds es:List Zf} (h:AD ds) (hl:ds.length+es.length<=8) (hd:∀d∈es,d.cons.length<=4/\∀c∈d.cons,c.fields.length<=4):AD (ds++es):=
 ⟨by rw [Yu];exact hl,fun x hx=>(Xe.1 hx).elim (h.2 x) (hd x)⟩
theorem GD.three:GD [J5,⟨0,0,[]⟩,J6]:=List.Mem.head _
theorem GD.four:∀{k:Nat} {x:Zf},In[k]? = some x->GD ([J5,⟨0,0,[]⟩,J6]++[x])
 | 0,x,h=>by cases h;exact .tail _ (.head _)
 | 1,x,h=>by cases h;exact .tail _ (.tail _ (.head _))
 | 2,x,h=>by cases h;exact .tail _ (.tail _ (.tail _ (.head _)))
 | 3,x,h=>by cases h;exact .tail _ (.tail _ (.tail _ (.tail _ (.head _))))
 | k+4,x,h=>by simp [In] at h
theorem Ab {l:List Int} {z a b:Int} (h:z∈l) (hl:l.all (fun x=>decide (a<=x/\x<=b))=true):a<=z/\z<=b:=by
 have:=Kj.1 hl z h
 exact of_decide_eq_true this
def rk (t:Int):Nat:=if QL t then 0 else 1
theorem GS (t:Int):rk t<=1:=by rw [rk];split<;>omega
theorem MJ {t:Int} (h:QL t):rk t=0:=Zj h
def SE (g:XV) (q:Nat) (e:Z2):Prop:=(∀m,eW g.decls g.funcs.length m e)/\e.sz<=q
def GE (g:XV) (m q:Nat) (e:Z2):Prop:=eW g.decls g.funcs.length m e/\e.sz<=q
theorem SE.ge {g:XV} {q q' m:Nat} {e:Z2} (h:SE g q e) (hq:q<=q'):GE g m q' e:=⟨h.1 m,V3 h.2 hq⟩
theorem GE.le {g:XV} {m q q':Nat} {e:Z2} (h:GE g m q e) (hq:q<=q'):GE g m q' e:=⟨h.1,V3 h.2 hq⟩
theorem Dv {m:Nat}:∀{xs:List Z2},(∀e∈xs,e.sz<=m)->Xq xs<=xs.length*m
 | [],_=>Qr _
 | x::r,h=>by
  have h1:=h x (Xg ..)
  have h2:=Dv (xs:=r) fun e he=>h e (XC _ he)
  rw [Xq,YQ,Tx];omega
theorem Xr {α:Type} {p:α->Prop} {xs:List α} {a:α} (h:∀x∈xs,p x) (ha:p a):∀x∈xs++[a],p x:=fun x hx=>(Xe.1 hx).elim (h x) fun q=>by rw [XN.1 q];exact ha
theorem SE.int {g:XV} {z:Int} {q:Nat} (hz:-2000<=z/\z<=2000) (hq:1<=q):SE g q (.mk 0 z []):=⟨fun _=>Rg hz,by simpa [Z2.sz,Xq] using hq⟩
theorem SE.node {g:XV} {op num:Int} {ys:List Z2} {q k:Nat} (ho:op=6∨op=10) (hn:0<=num/\num<=2000) (hy:∀e∈ys,SE g 1 e) (hl:ys.length<=k) (hk:k<=3) (hq:1+k<=q):SE g q (.mk op num ys):=by
 refine ⟨fun m=>AH om (fun h=>by omega) om om fun e he=>(hy e he).1 m,?_⟩
 have:=Dv (xs:=ys) (m:=1) fun e he=>(hy e he).2
 rw [Z2.sz];omega
def JK (ds:List Zf) (t c:Int):Prop:=(0<=c/\c<=9)/\(Zw ds c).length<=3*rk t/\∀u∈Zw ds c,QL u
instance (ds:List Zf) (t c:Int):Decidable (JK ds t c):=inferInstanceAs (Decidable (_/\_/\_))
theorem N3 {ds:List Zf} (h:GD ds):∀t∈[(1:Int),2,3,4],∀c∈Zt ds t,(t∈Zw ds c->∀c0,(Zt ds t)[0]? = some c0->JK ds t c0)/\(¬t∈Zw ds c->JK ds t c):=by
 intro t ht c hc
 have k1:=(by decide:∀ds∈Jf,∀t∈[(1:Int),2,3,4],∀c∈Zt ds t,(t∈Zw ds c->JK ds t (gI (Zt ds t) 0))/\(¬t∈Zw ds c->JK ds t c)) ds h t ht c hc
 refine ⟨fun q c0 h0=>?_,k1.2⟩
 have:=k1.1 q
 rwa [UV (i:=0) h0] at this
theorem Ij {ds:List Zf} (h:GD ds) {t c:Int} (hc:c∈Zt ds t):t∈[(1:Int),2,3,4]:=by
 obtain ⟨_,h2,_⟩:=h.cons_cases hc
 rcases h2 with rfl|rfl|rfl<;>simp
theorem Z4k {ds:List Zf} (h:GD ds) {t c c0:Int} (hc:c∈Zt ds t) (ht:t∈Zw ds c) (h0:(Zt ds t)[0]? = some c0):JK ds t c0:=(N3 h t (Ij h hc) c hc).1 ht c0 h0
theorem Z4j {ds:List Zf} (h:GD ds) {t c:Int} (hc:c∈Zt ds t) (ht:¬t∈Zw ds c):JK ds t c:=(N3 h t (Ij h hc) c hc).2 ht
theorem Z3k {ds:List Zf} (h:GD ds) {t:Int} (h0:(Zt ds t).length=0) (ht:0<t):rk t=1:=by
 rw [rk,Za]
 rintro (q|q|q)
 ·omega
 ·rw [q,h.low.2.1] at h0;cases h0
 ·rw [q,h.low.2.2.2.1] at h0;cases h0
def KY (g:XV) (t i:Int):Prop:=0<=i/\∃f,g.funcs[i.toNat]? = some f/\0<f.params.length/\WX g.decls (gI f.params ((f.params.length:Int)-1)) f.result=t
theorem KY.lt {g:XV} {t i:Int} (h:KY g t i):0<=i/\i<g.funcs.length:=by
 obtain ⟨h1,f,h2,_⟩:=h
 have:=(XM.1 h2).1
 omega
theorem KY.mk {g:XV} {t x2:Int} {k:Nat} {f:Func} (hf:g.funcs[k]? = some f) (hl:0<f.params.length) (hx:f.params[f.params.length-1]? = some x2) (ha:WX g.decls x2 f.result=t):KY g t (k:Int):=by
 refine ⟨by omega,f,by simpa using hf,hl,?_⟩
 rw [UV (i:=(f.params.length:Int)-1) (by rw [show ((f.params.length:Int)-1).toNat=f.params.length-1 by omega];exact hx)]
 exact ha
theorem KY.low {g:XV} {t i u:Int} {f:Func} {j:Nat} (hg:GP g) (h:KY g t i) (ht:0<t) (hf:g.funcs[i.toNat]? = some f) (hj:j+1<f.params.length) (hu:f.params[j]? = some u):rk u=0:=by
 obtain ⟨_,f',h2,_,h4⟩:=h
 have e:f'=f:=JE (h2.symm.trans hf)
 subst e
 have h5:=(hg.sigs f' (Y7 hf)).clo hg.decls (by rw [h4];exact ht)
 refine MJ (h5 u ?_)
 rw [List.dropLast_eq_take]
 exact Y7 (i:=j) (by rw [List.getElem?_take_of_lt om];exact hu)
end Go.Abs
section
namespace Go.Abs
theorem Kr (b:Nat):bS b=max 4 (10*b-10):=rfl
theorem Kq (b:Nat):bC b=max 40 (100*b-100):=rfl
theorem CA {L q b:Nat} (hL:L<=3) (hb:3<=b) (hq:L*q<=b-1):1+L*bS q<=bS b:=by
 rw [Kr,Kr]
 have:L=0∨L=1∨L=2∨L=3:=by omega
 rcases this with rfl|rfl|rfl|rfl<;>omega
theorem Z27 {L q b:Nat} (hL:L<=3) (hb:3<=b) (hq:L*q<=b-2):5+L*bS q<=bS b:=by
 rw [Kr,Kr]
 have:L=0∨L=1∨L=2∨L=3:=by omega
 rcases this with rfl|rfl|rfl|rfl<;>omega
theorem Z21 {b:Nat} (hb:3<=b):1+(bS (b / 2)+bS (b / 2))<=bS b:=by rw [Kr,Kr];omega
theorem OC {b:Nat} (hb:3<=b):5+bS (b-2)<=bS b:=by rw [Kr,Kr];omega
theorem Jq {L q b:Nat} (hL:L<=3) (hb:3<=b) (hq:L*q<=b-1):10+L*bC q<=bC b:=by
 rw [Kq,Kq]
 have:L=0∨L=1∨L=2∨L=3:=by omega
 rcases this with rfl|rfl|rfl|rfl<;>omega
theorem Z26 {L q b:Nat} (hL:L<=3) (hb:3<=b) (hq:L*q<=b-2):40+L*bC q<=bC b:=by
 rw [Kq,Kq]
 have:L=0∨L=1∨L=2∨L=3:=by omega
 rcases this with rfl|rfl|rfl|rfl<;>omega
theorem Z20 {b:Nat} (hb:3<=b):10+(bC (b / 2)+bC (b / 2))<=bC b:=by rw [Kq,Kq];omega
theorem OB {b:Nat} (hb:3<=b):40+bC (b-2)<=bC b:=by rw [Kq,Kq];omega
theorem I1 (b:Nat):4<=bS b:=by rw [Kr];omega
theorem I0 (b:Nat):40<=bC b:=by rw [Kq];omega
theorem To (L b:Nat):L*(b / L)<=b:=Nat.mul_div_le b L
theorem M3 {k L C:Nat} (h:k<L):(k+1)*C=k*C+C/\(k+1)*C<=L*C:=⟨by rw [Tx,Nat.one_mul],TQ C h⟩
theorem BP {ds:List Zf} {d x:Int} {m k:Nat} (h:(Zt ds d)[k]? = some x):Tg ds 8 d m (1+k)=m+(Zw ds x).length:=by
 rw [Tg,Za om,Zj rfl,Za om,UV (i:=((1+k:Nat):Int)-1) (by rw [show (((1+k:Nat):Int)-1).toNat=k by omega];exact h)]
section
variable {g:XV} {m:Nat}
theorem GE.var {z:Int} {q:Nat} (hz:0<=z/\z<m) (hm:m<=2000) (hq:1<=q):GE g m q (.mk 12 z []):=⟨Rh hz hm,by simpa [Z2.sz,Xq] using hq⟩
theorem GE.list {ys:List Z2} {L s:Nat} (h:∀e∈ys,GE g m s e) (hl:ys.length=L):Xq ys<=L*s:=by rw [<-hl];exact Dv fun e he=>(h e he).2
theorem GE.node {op num:Int} {ys:List Z2} {L s q:Nat} (ho:0<=op/\op<=11/\op≠7/\op≠8) (hc:op=9->0<=num/\num<g.funcs.length) (hn:-2000<=num/\num<=2000) (h:∀e∈ys,GE g m s e) (hl:ys.length=L) (hL:L<=3) (hq:1+L*s<=q):GE g m q (.mk op num ys):=by
 have:=GE.list h hl
 exact ⟨AH ho hc hn om fun e he=>(h e he).1,by rw [Z2.sz];omega⟩
theorem GE.if_ {num:Int} {ys:List Z2} {s q:Nat} (hn:-2000<=num/\num<=2000) (h:∀e∈ys,GE g m s e) (hl:ys.length=3) (hq:1+3*s<=q):GE g m q (.mk 7 num ys):=by
 have:=GE.list h hl
 exact ⟨Iv hn hl fun e he=>(h e he).1,by rw [Z2.sz];omega⟩
theorem GE.let_ {a b:Z2} {s q:Nat} (ha:GE g m s a) (hb:GE g (m+1) s b) (hq:1+(s+s)<=q):GE g m q (.mk 13 0 [a,b]):=by
 refine ⟨Iw om ha.1 hb.1,?_⟩
 have h1:=ha.2
 have h2:=hb.2
 simp only [Z2.sz,Xq];omega
theorem GE.two {op num:Int} {a b:Z2} {s1 s2 q:Nat} (ho:0<=op/\op<=11/\op≠7/\op≠8/\op≠9) (hn:-2000<=num/\num<=2000) (ha:GE g m s1 a) (hb:GE g m s2 b) (hq:1+(s1+s2)<=q):GE g m q (.mk op num [a,b]):=by
 refine ⟨AH om (fun h=>by omega) hn (by simp) fun e he=>?_,?_⟩
 ·rcases YP.1 he with rfl|he
  ·exact ha.1
  ·rw [XN.1 he];exact hb.1
 ·have h1:=ha.2
  have h2:=hb.2
  simp only [Z2.sz,Xq];omega
theorem GE.match_ {d:Int} {e:Z2} {ys:List Z2} {L s q:Nat} (hd:-2000<=d/\d<=2000) (he:GE g m 4 e) (hw:TV g.decls g.funcs.length (Tg g.decls 8 d m) 1 ys) (hs:∀e∈ys,e.sz<=s) (hl:ys.length=L) (hL:L=(Zt g.decls d).length) (h3:L<=3) (hq:5+L*s<=q):GE g m q (.mk 8 d (e::ys)):=by
 refine ⟨FE hd om om he.1 hw,?_⟩
 have h1:=Dv hs
 rw [hl] at h1
 have h2:=he.2
 rw [Z2.sz,Xq];omega
end
def NL (s:Nat) (left w:Int):Prop:=((s:Int)<=left/\w=left-s)∨(left<s/\w=-1)
end Go.Abs
namespace Go.Abs
theorem AU {L b p pp M:Nat} (hL:L<=3) (hb:3<=b) (h:pp<=p+8) (hp:p+(bC b-1)<=M):pp+L*bC ((b-1) / L)<=M:=by
 have:=Jq hL hb (To L (b-1))
 omega
end Go.Abs
end
namespace Go.Abs
theorem Rm (a b:Z2):Xq [a,b]=a.sz+b.sz:=by simp only [Xq];omega
theorem Du (a b c:Z2):Xq [a,b,c]=a.sz+b.sz+c.sz:=by simp only [Xq];omega
theorem C0:bS 3=20/\bS 4=30/\bS 12=110/\bS 16=150/\bS 18=170/\bC 3=200/\bC 4=300/\bC 16=1500:=by decide
theorem Da {b:Nat} (h:b<=20):bS b<=190/\bC b<=1900/\(b<=2->bS b<=10):=by rw [Kr,Kq];omega
section
variable {g:XV} {m:Nat}
theorem SE.ofs {op num:Int} {ys:List Z2} {q:Nat} (ho:0<=op/\op<=11/\op≠7/\op≠8/\op≠9) (hn:-2000<=num/\num<=2000) (hl:ys.length<=4) (hy:∀e∈ys,∃s,SE g s e) (hq:1+Xq ys<=q):SE g q (.mk op num ys):=
 ⟨fun m=>AH om (fun h=>by omega) hn hl fun e he=>let ⟨_,h⟩:=hy e he;h.1 m,by rw [Z2.sz];exact hq⟩
theorem SE.nil {op num:Int} {q:Nat} (ho:0<=op/\op<=11/\op≠7/\op≠8/\op≠9) (hn:-2000<=num/\num<=2000) (hq:1<=q):SE g q (.mk op num []):=
 SE.ofs ho hn (by simp) (fun e he=>by cases he) (by simpa [Xq] using hq)
theorem SE.two {op num:Int} {a b:Z2} {s1 s2 q:Nat} (ho:0<=op/\op<=11/\op≠7/\op≠8/\op≠9) (hn:-2000<=num/\num<=2000) (ha:SE g s1 a) (hb:SE g s2 b) (hq:1+(s1+s2)<=q):SE g q (.mk op num [a,b]):=by
 refine SE.ofs ho hn (by simp) (fun e he=>?_) ?_
 ·rcases YP.1 he with rfl|he
  ·exact ⟨_,ha⟩
  ·rw [XN.1 he];exact ⟨_,hb⟩
 ·have h1:=ha.2
  have h2:=hb.2
  rw [Rm];omega
theorem SE.three {op num:Int} {a b c:Z2} {s1 s2 s3 q:Nat} (ho:0<=op/\op<=11/\op≠7/\op≠8/\op≠9) (hn:-2000<=num/\num<=2000) (ha:SE g s1 a) (hb:SE g s2 b) (hc:SE g s3 c) (hq:1+(s1+s2+s3)<=q):SE g q (.mk op num [a,b,c]):=by
 refine SE.ofs ho hn (by simp) (fun e he=>?_) ?_
 ·rcases YP.1 he with rfl|he
  ·exact ⟨_,ha⟩
  ·rcases YP.1 he with rfl|he
   ·exact ⟨_,hb⟩
   ·rw [XN.1 he];exact ⟨_,hc⟩
 ·have h1:=ha.2
  have h2:=hb.2
  have h3:=hc.2
  rw [Du];omega
theorem GE.int {z:Int} {q:Nat} (hz:-2000<=z/\z<=2000) (hq:1<=q):GE g m q (.mk 0 z []):=(SE.int (g:=g) (q:=q) hz hq).ge (Xa _)
theorem GE.three {op num:Int} {a b c:Z2} {s1 s2 s3 q:Nat} (ho:0<=op/\op<=11/\op≠8/\op≠9) (hn:-2000<=num/\num<=2000) (ha:GE g m s1 a) (hb:GE g m s2 b) (hc:GE g m s3 c) (hq:1+(s1+s2+s3)<=q):GE g m q (.mk op num [a,b,c]):=by
 have hk:∀e∈[a,b,c],eW g.decls g.funcs.length m e:=fun e he=>by
  rcases YP.1 he with rfl|he
  ·exact ha.1
  ·rcases YP.1 he with rfl|he
   ·exact hb.1
   ·rw [XN.1 he];exact hc.1
 refine ⟨?_,?_⟩
 ·by_cases h7:op=7
  ·subst h7;exact Iv hn rfl hk
  ·exact AH om (fun h=>by omega) hn (by simp) hk
 ·have h1:=ha.2
  have h2:=hb.2
  have h3:=hc.2
  rw [Z2.sz,Du];omega
theorem GE.one {op num:Int} {a:Z2} {s1 q:Nat} (ho:0<=op/\op<=11/\op≠7/\op≠8/\op≠9) (hn:-2000<=num/\num<=2000) (ha:GE g m s1 a) (hq:1+s1<=q):GE g m q (.mk op num [a]):=by
 refine ⟨AH om (fun h=>by omega) hn (by simp) fun e he=>?_,?_⟩
 ·rw [XN.1 he];exact ha.1
 ·have h1:=ha.2
  simp only [Z2.sz,Xq];omega
theorem GE.letS {a b:Z2} {s1 s2 q:Nat} (ha:GE g m s1 a) (hb:GE g (m+1) s2 b) (hq:1+(s1+s2)<=q):GE g m q (.mk 13 0 [a,b]):=by
 refine ⟨Iw om ha.1 hb.1,?_⟩
 have h1:=ha.2
 have h2:=hb.2
 simp only [Z2.sz,Xq];omega
theorem GE.matchL (hg:GP g) {e a b:Z2} {s1 s2 s3 q:Nat} (he:GE g m s1 e) (ha:GE g m s2 a) (hb:GE g (m+2) s3 b) (hq:1+(s1+s2+s3)<=q):GE g m q (.mk 8 1 [e,a,b]):=by
 have hl:=hg.decls.low
 refine ⟨FE om (by simp) (by rw [hl.2.1];rfl) he.1 ⟨?_,?_,True.intro⟩,?_⟩
 ·rw [BP (k:=0) (x:=0) (by rw [hl.2.1];rfl),hl.2.2.2.2.1];exact ha.1
 ·rw [BP (k:=1) (x:=1) (by rw [hl.2.1];rfl),hl.2.2.2.2.2.1];exact hb.1
 ·have h1:=he.2
  have h2:=ha.2
  have h3:=hb.2
  rw [Z2.sz,Du];omega
theorem GE.matchT (hg:GP g) {e a b:Z2} {s1 s2 s3 q:Nat} (he:GE g m s1 e) (ha:GE g m s2 a) (hb:GE g (m+3) s3 b) (hq:1+(s1+s2+s3)<=q):GE g m q (.mk 8 3 [e,a,b]):=by
 have hl:=hg.decls.low
 refine ⟨FE om (by simp) (by rw [hl.2.2.2.1];rfl) he.1 ⟨?_,?_,True.intro⟩,?_⟩
 ·rw [BP (k:=0) (x:=2) (by rw [hl.2.2.2.1];rfl),hl.2.2.2.2.2.2.1];exact ha.1
 ·rw [BP (k:=1) (x:=3) (by rw [hl.2.2.2.1];rfl),hl.2.2.2.2.2.2.2];exact hb.1
 ·have h1:=he.2
  have h2:=ha.2
  have h3:=hb.2
  rw [Z2.sz,Du];omega
theorem F3 {α:Type} {p:α->Prop} {a:α} (h:p a):∀x∈[a],p x:=fun x hx=>by rw [XN.1 hx];exact h
end
structure EP (g:XV):Prop where
 gp:GP g
 body:∀f∈g.funcs,eW g.decls g.funcs.length f.params.length f.body/\f.body.sz<=30
structure GL (ds:List Zf) (k j:Nat) (rq:List Func):Prop where
 len:rq.length=4
 sigs:∀f∈rq,UR f
 zero:∀f,rq[0]? = some f->f.params.length=0
 body:∀i f,j<=i->i<k->rq[i]? = some f->eW ds k f.params.length f.body/\f.body.sz<=30
theorem GL.gp {ds:List Zf} {k j:Nat} {rq:List Func} (h:GL ds k j rq) (hd:GD ds) (hk:1<=k/\k<=4):GP ⟨ds,rq.take k⟩:=
 ⟨hd,by show 1<=(rq.take k).length/\_;rw [Wp,h.len];omega,fun f hf=>h.sigs f (TP hf)⟩
theorem GL.len_take {ds:List Zf} {k j:Nat} {rq:List Func} (h:GL ds k j rq) (hk:k<=4):(rq.take k).length=k:=by rw [Wp,h.len];omega
theorem GL.set {ds:List Zf} {k j:Nat} {rq:List Func} {f:Func} {e:Z2} (h:GL ds k j rq) (hj:1<=j) (hf:rq[j-1]? = some f) (he:eW ds k f.params.length e/\e.sz<=30):GL ds k (j-1) (rq.set (j-1) ⟨f.params,f.result,e⟩):=by
 have hl:=(XM.1 hf).1
 refine ⟨by rw [UQ];exact h.len,fun x hx=>?_,fun x hx=>?_,fun i x h1 h2 hx=>?_⟩
 ·rcases List.mem_or_eq_of_mem_set hx with hx|rfl
  ·exact h.sigs x hx
  ·exact h.sigs f (Y7 hf)
 ·rw [List.getElem?_set] at hx
  split at hx
  ·rename_i h0
   cases hx
   exact h.zero f (by rw [<-h0];exact hf)
  ·exact h.zero x hx
 ·rw [List.getElem?_set] at hx
  split at hx
  ·cases hx
   exact he
  ·exact h.body i x om h2 hx
theorem GL.done {ds:List Zf} {k:Nat} {rq:List Func} (h:GL ds k 0 rq) (hd:GD ds) (hk:1<=k/\k<=4):EP ⟨ds,rq.take k⟩:=by
 refine ⟨h.gp hd hk,fun f hf=>?_⟩
 show eW ds (rq.take k).length _ _/\_
 rw [h.len_take hk.2]
 obtain ⟨i,hi⟩:=List.getElem?_of_mem hf
 have hi2:i<(rq.take k).length:=(XM.1 hi).1
 rw [h.len_take hk.2] at hi2
 rw [List.getElem?_take_of_lt hi2] at hi
 exact h.body i f om hi2 hi
theorem H6 {l:List Func} {f:Func} {k:Nat} (h:l[k]? = some f) (hl:l.all (fun f=>decide ((f.params,f.result)∈Ko))=true):UR f:=show (f.params,f.result)∈Ko from of_decide_eq_true (Kj.1 hl f (Y7 h))
theorem GL.start {ds:List Zf} {k:Nat} {e:Z2} {a b c:Func} (ha:UR a) (hb:UR b) (hc:UR c):GL ds k k [⟨[],0,e⟩,a,b,c]:=by
 refine ⟨rfl,fun f hf=>?_,fun f hf=>?_,fun i f h1 h2=>by omega⟩
 ·rcases YP.1 hf with rfl|hf
  ·exact List.Mem.head _
  ·rcases YP.1 hf with rfl|hf
   ·exact ha
   ·rcases YP.1 hf with rfl|hf
    ·exact hb
    ·rw [XN.1 hf];exact hc
 ·cases hf;rfl
theorem Z2n {l:List Int} {k:Nat} {a b:Nat} (h:(k:Int)∈l) (hl:l.all (fun x=>decide ((a:Int)<=x/\x<=b))=true):a<=k/\k<=b:=by
 have:=of_decide_eq_true (Kj.1 hl _ h)
 omega
mutual
def Q2 (p:Int->Prop):Z4->Prop
 | .mk op _ _ _ kids=>p op/\Q1 p kids
def Q1 (p:Int->Prop):List Z5->Prop
 | []=>True
 | b::r=>V2 p b/\Q1 p r
def Tf (p:Int->Prop):List Z4->Prop
 | []=>True
 | s::r=>Q2 p s/\Tf p r
def V2 (p:Int->Prop):Z5->Prop
 | .mk steps _=>Tf p steps
end
section
variable {p q:Int->Prop}
theorem CF (s:Z4):Q2 p s↔p s.op/\Q1 p s.kids:=by cases s;rw [Q2];rfl
theorem Eb (b:Z5):V2 p b↔Tf p b.steps:=by cases b;rw [V2];rfl
theorem BI:∀{xs:List Z5},Q1 p xs↔∀b∈xs,V2 p b
 | []=>by simp [Q1]
 | b::r=>by rw [Q1,BI];simp
theorem AY:∀{xs:List Z4},Tf p xs↔∀b∈xs,Q2 p b
 | []=>by simp [Tf]
 | b::r=>by rw [Tf,AY];simp
theorem Ec {xs ys:List Z4}:Tf p (xs++ys)↔Tf p xs/\Tf p ys:=by simp only [AY,Xe];exact ⟨fun h=>⟨fun b hb=>h b (.inl hb),fun b hb=>h b (.inr hb)⟩,fun h b hb=>hb.elim (h.1 b) (h.2 b)⟩
theorem Mj {xs:List Z5} {b:Z5} (h:Q1 p xs) (hb:V2 p b):Q1 p (xs++[b]):=BI.2 (Xr (BI.1 h) hb)
theorem Ed {xs:List Z4} {b:Z4} (h:Tf p xs) (hb:Q2 p b):Tf p (xs++[b]):=AY.2 (Xr (AY.1 h) hb)
end
def Wu (op:Int):Prop:=op<=11
def Vc (op:Int):Prop:=op<=15
end Go.Abs
section
namespace Go.Abs
structure LW (ds:List Zf) (nf q:Nat) (e:Z2) (ys:List Z4) (v:Int):Prop where
 fs:UF ds nf q ys
 v:0<=v/\v<(q+YN ys:Nat)
 sz:Yk ys<=6*e.sz
 op:Tf Wu ys
theorem LW.dn {ds:List Zf} {nf q:Nat} {e:Z2} {ys:List Z4} {v:Int} (h:LW ds nf q e ys v):YN ys<=6*e.sz/\ys.length<=6*e.sz:=by
 have h1:=AE ys
 have h2:=Kf ys
 have h3:=h.sz
 omega
structure LB (ds:List Zf) (nf q:Nat) (e:Z2) (b:Z5):Prop where
 fb:fB ds nf q b
 sz:b.sz<=1+6*e.sz
 op:V2 Wu b
section
variable {ds:List Zf} {nf q:Nat}
theorem C1:∀xs ys:List Z5,YW (xs++ys)=YW xs+YW ys
 | [],ys=>by simp [YW]
 | x::r,ys=>by rw [Tk,YW,YW,C1 r];omega
theorem LW.block {e:Z2} {ys:List Z4} {v:Int} (h:LW ds nf q e ys v):LB ds nf q e ⟨ys,v⟩:=
 ⟨by rw [fB];exact ⟨h.fs,h.v⟩,by rw [Z5.sz];have:=h.sz;omega,by rw [V2];exact h.op⟩
theorem LW.var {e:Z2} {v:Int} (hv:0<=v/\v<q):LW ds nf q e [] v:=⟨True.intro,by simpa [YN] using hv,by simp [Yk],True.intro⟩
theorem LW.let_ {e a b:Z2} {ys zs:List Z4} {v1 v2:Int} (ha:LW ds nf q a ys v1) (hb:LW ds nf (q+YN ys) b zs v2) (he:a.sz+b.sz<e.sz):LW ds nf q e (ys++zs) v2:=by
 refine ⟨Bs.2 ⟨ha.fs,hb.fs⟩,by rw [K5,<-KW];exact hb.v,?_,Ec.2 ⟨ha.op,hb.op⟩⟩
 have h1:=ha.sz
 have h2:=hb.sz
 rw [UN];omega
theorem C7 {ys:List Z4} {s:Z4} (h:Ym s.op=false):YN (ys++[s])=YN ys+1:=by
 rw [K5]
 simp [YN,h]
theorem LW.node {e:Z2} {ys:List Z4} {as1:List Int} (ho:0<=e.op/\e.op<=11/\e.op≠7/\e.op≠8) (hc:e.op=9->0<=e.num/\e.num<nf) (hn:-2000<=e.num/\e.num<=2000) (hf:UF ds nf q ys) (ha:∀a∈as1,0<=a/\a<(q+YN ys:Nat)) (hl:as1.length<=4) (hs:Yk ys<=6*Xq e.kids) (hop:Tf Wu ys) :
  LW ds nf q e (ys++[⟨e.op,e.num,0,as1,[]⟩]) ((q+YN ys:Nat):Int):=by
 have hcb:Ym e.op=false:=by simp [Ym];omega
 refine ⟨Dx hf ?_,?_,?_,Ed hop (by rw [Q2];exact ⟨by show e.op<=11;omega,True.intro⟩)⟩
 ·rw [fS]
  exact ⟨.inl ⟨by omega,by omega⟩,ha,fun h=>by omega,fun h=>by omega,fun h=>by omega,fun h=>by omega,hc,hn,by omega,hl,fun _=>rfl,True.intro⟩
 ·rw [C7 (show Ym (Z4.mk e.op e.num 0 as1 []).op=false from hcb)];omega
 ·rw [UN,e.sz_eq]
  simp only [Yk,Z4.sz,YW]
  omega
theorem LW.branch {e:Z2} {ys:List Z4} {v:Int} {bs:List Z5} {s0 sr:Nat} (ho:e.op=7∨e.op=8) (h7:e.op=7->bs.length=2) (h8:e.op=8->bs.length=(Zt ds e.num).length) (hn:-2000<=e.num/\e.num<=2000) (hf:UF ds nf q ys) (hv:0<=v/\v<(q+YN ys:Nat))
  (hb:T7 ds nf (Ux ds e.op e.num (q+YN ys)) 0 bs) (hl:bs.length<=3) (h0:Yk ys<=6*s0) (h1:YW bs<=bs.length+6*sr) (hs:s0+sr<=Xq e.kids) (hop:Tf Wu ys) (hob:Q1 Wu bs):LW ds nf q e (ys++[⟨e.op,e.num,0,[v],bs⟩]) ((q+YN ys:Nat):Int):=by
 have hcb:Ym e.op=false:=by simp [Ym];omega
 refine ⟨Dx hf ?_,?_,?_,Ed hop (by rw [Q2];exact ⟨by show e.op<=11;omega,hob⟩)⟩
 ·rw [fS]
  exact ⟨.inl ⟨by omega,by omega⟩,fun a ha=>by rw [XN.1 ha];exact hv,fun h=>by omega,h7,h8,fun _=>⟨v,rfl⟩,fun h=>by omega,hn,by omega,by simp,fun h=>by omega,hb⟩
 ·rw [C7 (show Ym (Z4.mk e.op e.num 0 [v] bs).op=false from hcb)];omega
 ·rw [UN,e.sz_eq]
  simp only [Yk,Z4.sz,YQ,Xp]
  omega
theorem N1 {ds:List Zf} {op num:Int} {m k:Nat} (h:op=13):Tg ds op num m k=m+k:=Zj h
theorem Z4h {ds:List Zf} {op num:Int} {m:Nat} (h:op≠13):Tg ds op num m 0=m:=by simp [Tg,h]
theorem N2 {ds:List Zf} {op num:Int} {m k:Nat} (h:op≠13/\op≠8):Tg ds op num m k=m:=by simp [Tg,h.1,h.2]
theorem Z4i {ds:List Zf} {op num x:Int} {m k j:Nat} (h:op=8) (hk:k=j+1) (hx:(Zt ds num)[j]? = some x):Tg ds op num m k=m+(Zw ds x).length:=by
 subst h;subst hk;rw [Nat.add_comm j 1];exact BP hx
theorem H2 {ds:List Zf} {op num x:Int} {m j:Nat} (h:op=8) (hx:(Zt ds num)[j]? = some x):Ux ds op num m j=m+(Zw ds x).length:=by
 rw [Ux,Zj h,UV (i:=(j:Int)) (by simpa using hx)]
theorem H3 {ds:List Zf} {op num:Int} {m j:Nat} (h:op≠8):Ux ds op num m j=m:=Za h
theorem JY {xs:List Z2} {k:Nat} {e:Z2} (h:xs[k]? = some e):Xq (xs.take (k+1))=Xq (xs.take k)+e.sz:=by rw [WS h,Ca,Xq,Xq];rfl
theorem Jb {xs:List Z2} (k:Nat):Xq (xs.take k)<=Xq xs:=by
 have h:=Yw Xq (UC k xs)
 rw [Ca] at h;omega
theorem IC {xs:List Z2} {a b:Z2} (ha:xs[0]? = some a) (hb:xs[1]? = some b):a.sz+b.sz<=Xq xs:=by
 have h1:Xq (xs.take 1)=Xq (xs.take 0)+a.sz:=JY ha
 have h2:Xq (xs.take 2)=Xq (xs.take 1)+b.sz:=JY hb
 have h3:=Jb (xs:=xs) 2
 omega
theorem CV {us:List Int} {v:Int} {d:Nat} (hu:∀a∈us,0<=a/\a<(q:Int)) (hv:0<=v/\v<(q+d:Nat)):∀a∈us++[v],0<=a/\a<((q+d:Nat):Int):=
 Xr (fun a ha=>by have:=hu a ha;omega) hv
theorem ED {us:List Int} {d:Nat} (hu:∀a∈us,0<=a/\a<(q:Int)):∀a∈us,0<=a/\a<((q+d:Nat):Int):=fun a ha=>by have:=hu a ha;omega
theorem Z78 {us ns:List Int} {d mf:Nat} (hu:∀a∈us,0<=a/\a<(q:Int)) (hn:∀i∈ns,((q+d:Nat):Int)<=i/\i<((q+d:Nat):Int)+mf):∀a∈us++ns,0<=a/\a<((q+d+mf:Nat):Int):=fun a ha=>by
 rcases Xe.1 ha with h|h
 ·have:=hu a h;omega
 ·have:=hn a h;omega
theorem Dd:∀bs:List Z5,bs.length<=YW bs
 | []=>Xa _
 | b::r=>by have:=Dd r;have:=b.sz_pos;rw [YW,YQ];omega
end
end Go.Abs
namespace Go.Abs
structure RF (ds:List Zf) (nf q:Nat) (p:Int->Prop) (r:Yj):Prop where
 sig:(r.params,r.result)∈Ko
 lent:r.lent.length<=3/\∀i∈r.lent,0<=i/\i<r.params.length
 body:fB ds nf r.params.length r.body/\r.body.sz<=q
 op:V2 p r.body
structure FO (n:Zx) (q:Nat) (p:Int->Prop):Prop where
 fn:FN n q
 op:∀r∈n.routines,V2 p r.body
theorem FO.rf {n:Zx} {q:Nat} {p:Int->Prop} (h:FO n q p) {r:Yj} (hr:r∈n.routines):RF n.decls n.routines.length q p r:=⟨h.fn.sigs r hr,h.fn.lent r hr,h.fn.body r hr,h.op r hr⟩
theorem FO.all {n:Zx} {q:Nat} {p:Int->Prop} (hd:GD n.decls) (hl:1<=n.routines.length/\n.routines.length<=4) (h:∀r∈n.routines,RF n.decls n.routines.length q p r):FO n q p:=
 ⟨⟨hd,hl,fun r hr=>(h r hr).sig,fun r hr=>(h r hr).lent,fun r hr=>(h r hr).body⟩,fun r hr=>(h r hr).op⟩
structure RN (ds:List Zf) (nf:Nat) (r:Yj):Prop where
 sig:(r.params,r.result)∈Ko
 lent:r.lent=[]
 body:fB ds nf r.params.length r.body/\r.body.sz<=181
 op:V2 Wu r.body
theorem RN.all {n:Zx} {q:Nat} (hd:GD n.decls) (hl:1<=n.routines.length/\n.routines.length<=4) (h:∀r∈n.routines,RN n.decls n.routines.length r) (hq:181<=q):FO n q Wu:=
 FO.all hd hl fun r hr=>⟨(h r hr).sig,by rw [(h r hr).lent];exact ⟨by simp,fun i hi=>by cases hi⟩,⟨(h r hr).body.1,V3 (h r hr).body.2 hq⟩,(h r hr).op⟩
end Go.Abs
namespace Go.Abs
theorem RN.of {ds:List Zf} {nf:Nat} {ps:List Int} {rt:Int} {b:Z5} {e:Z2} (hs:(ps,rt)∈Ko) (h:LB ds nf ps.length e b) (he:e.sz<=30):RN ds nf ⟨ps,[],rt,Z5.mk b.steps b.result⟩:=by
 have e1:Z5.mk b.steps b.result=b:=by cases b;rfl
 rw [e1]
 exact ⟨hs,rfl,⟨h.fb,by have:=h.sz;show b.sz<=181;omega⟩,h.op⟩
end Go.Abs
end
namespace Go.Abs
theorem Hl:∀{xs:List Z4} {s:Z4},s∈xs->s.sz<=Yk xs
 | [],s,h=>by cases h
 | x::r,s,h=>by
  rw [Yk]
  rcases YP.1 h with rfl|h
  ·omega
  ·have:=Hl h;omega
theorem F7:∀{xs:List Z5} {b:Z5},b∈xs->b.sz<=YW xs
 | [],b,h=>by cases h
 | x::r,b,h=>by
  rw [YW]
  rcases YP.1 h with rfl|h
  ·omega
  ·have:=F7 h;omega
structure LC (n:Zx) (k:Nat) (xs:List (List Int)):Prop where
 len:xs.length=k
 ok:∀(i:Nat) (l:List Int),xs[i]? = some l->l.length<=3/\∀r,n.routines[i]? = some r->∀v∈l,0<=v/\v<(r.params.length:Int)
theorem LC.nil {n:Zx}:LC n 0 []:=⟨rfl,fun i l h=>by simp at h⟩
theorem LC.snoc {n:Zx} {k:Nat} {xs:List (List Int)} {l:List Int} (h:LC n k xs) (hl:l.length<=3) (hv:∀r,n.routines[k]? = some r->∀v∈l,0<=v/\v<(r.params.length:Int)):LC n (k+1) (xs++[l]):=by
 refine ⟨by rw [Yu,h.len];rfl,fun i l' hi=>?_⟩
 by_cases hk:i<xs.length
 ·rw [CX hk] at hi
  exact h.ok i l' hi
 ·rw [CY om] at hi
  have h0:i-xs.length=0:=by
   cases e:i-xs.length with
   | zero=>rfl
   | succ q=>rw [e] at hi;simp at hi
  rw [h0] at hi
  cases hi
  have e:i=k:=by have:=h.len;omega
  subst e
  exact ⟨hl,hv⟩
def V7:List Int->Int->List Int
 | [],y=>[y]
 | x::r,y=>if x>y then y::x::r else if x=y then x::r else x::V7 r y
def Tu (d:Bool) (xs:List Int) (y:Int):List Int:=if d=true then xs else V7 xs y
theorem DV {xs:List Int} {y:Int}:Tu true xs y=xs:=rfl
theorem DU {xs:List Int} {y:Int}:Tu false xs y=V7 xs y:=rfl
theorem Lv {xs acc r:List Int} {y x:Int} {k:Nat} {d:Bool} (hx:xs[k]? = some x) (hd:d=true) (h:acc++Tu d (xs.drop k) y=r):(acc++[x])++Tu d (xs.drop (k+1)) y=r:=by
 subst hd
 rw [DV,Yd hx] at h
 rw [DV,<-h];simp
theorem Z0w {xs acc r:List Int} {y x:Int} {k:Nat} {d:Bool} (hx:xs[k]? = some x) (hd:¬d=true) (hl:¬x>=y) (h:acc++Tu d (xs.drop k) y=r):(acc++[x])++Tu d (xs.drop (k+1)) y=r:=by
 have hd:=KU.2 hd
 subst hd
 rw [DU,Yd hx,V7,Za om,Za om] at h
 rw [DU,<-h];simp
theorem Z0x {xs acc r:List Int} {y x:Int} {k:Nat} {d:Bool} (hx:xs[k]? = some x) (hd:¬d=true) (hl:x>y) (h:acc++Tu d (xs.drop k) y=r):((acc++[y])++[x])++Tu true (xs.drop (k+1)) y=r:=by
 have hd:=KU.2 hd
 subst hd
 rw [DU,Yd hx,V7,Zj hl] at h
 rw [DV,<-h];simp
theorem Z0y {xs acc r:List Int} {y x:Int} {k:Nat} {d:Bool} (hx:xs[k]? = some x) (hd:¬d=true) (hl:x=y) (h:acc++Tu d (xs.drop k) y=r):(acc++[x])++Tu true (xs.drop (k+1)) y=r:=by
 have hd:=KU.2 hd
 subst hd
 rw [DU,Yd hx,V7,Za om,Zj hl] at h
 rw [DV,<-h];simp
theorem Z0v {xs acc acc2 r:List Int} {y x:Int} {k:Nat} {d d2:Bool} (hx:xs[k]? = some x) (h:acc++Tu d (xs.drop k) y=r)
  (hc:(acc2=acc/\d2=d/\(d=true∨¬x>=y))∨(acc2=acc++[y]/\d2=true/\¬d=true/\x>y)∨(acc2=acc/\d2=true/\¬d=true/\x=y)):(acc2++[x])++Tu d2 (xs.drop (k+1)) y=r:=by
 rcases hc with ⟨rfl,rfl,h3⟩|⟨rfl,rfl,h3,h4⟩|⟨rfl,rfl,h3,h4⟩
 ·rcases h3 with h3|h3
  ·exact Lv hx h3 h
  ·by_cases q:d2=true
   ·exact Lv hx q h
   ·exact Z0w hx q h3 h
 ·exact Z0x hx h3 h4 h
 ·exact Z0y hx h3 h4 h
theorem Z0u {xs acc r:List Int} {y:Int} {k:Nat} {d:Bool} (hk:xs.length<=k) (h:acc++Tu d (xs.drop k) y=r):(if d=true then acc else acc++[y])=r:=by
 rw [Xz hk] at h
 by_cases q:d=true
 ·rw [Tu,Zj q,Jz] at h;rw [Zj q];exact h
 ·rw [Tu,Za q,V7] at h;rw [Za q];exact h
theorem Bz:∀(xs:List Int) (y:Int),(V7 xs y).length<=xs.length+1
 | [],y=>Xa _
 | x::r,y=>by
  have:=Bz r y
  rw [V7]
  split
  ·simp
  ·split
   ·simp
   ·simp only [YQ];omega
theorem Cr:∀{xs:List Int} {y z:Int},z∈V7 xs y↔z∈xs∨z=y
 | [],y,z=>by simp [V7]
 | x::r,y,z=>by
  rw [V7]
  split
  ·simp only [YP];exact ⟨fun h=>h.elim .inr .inl,fun h=>h.elim .inr .inl⟩
  ·split
   ·rename_i h;subst h;simp only [YP];exact ⟨fun h=>.inl h,fun h=>h.elim id .inl⟩
   ·simp only [YP,Cr (xs:=r)];exact ⟨fun h=>by rcases h with h|h|h<;>simp [h],fun h=>by rcases h with (h|h)|h<;>simp [h]⟩
def At (xs:List Int):Prop:=xs.Pairwise (·<·)
theorem Lu:∀{xs:List Int} {y:Int},At xs->At (V7 xs y)
 | [],y,_=>by simp [V7,At]
 | x::r,y,h=>by
  obtain ⟨h1,h2⟩:=WT.1 h
  rw [V7]
  split
  ·rename_i q
   refine WT.2 ⟨fun z hz=>?_,h⟩
   rcases YP.1 hz with rfl|hz
   ·omega
   ·have:=h1 z hz;omega
  ·split
   ·exact h
   ·refine WT.2 ⟨fun z hz=>?_,Lu h2⟩
    rcases Cr.1 hz with hz|rfl
    ·exact h1 z hz
    ·omega
def UM:List Int->Int->List Int
 | [],_=>[]
 | x::r,y=>if x=y then UM r y else x::UM r y
theorem CH:∀(xs:List Int) (y:Int),(UM xs y).length<=xs.length
 | [],y=>Xa _
 | x::r,y=>by
  have:=CH r y
  rw [UM]
  split
  ·rw [YQ];omega
  ·rw [YQ,YQ];omega
theorem BJ:∀{xs:List Int} {y z:Int},z∈UM xs y->z∈xs
 | [],y,z,h=>by rw [UM] at h;exact h
 | x::r,y,z,h=>by
  rw [UM] at h
  split at h
  ·exact XC _ (BJ h)
  ·rcases YP.1 h with rfl|h
   ·exact Xg ..
   ·exact XC _ (BJ h)
theorem Z38 {xs acc r:List Int} {y x:Int} {k:Nat} (hx:xs[k]? = some x) (h:acc++UM (xs.drop k) y=r):(if x≠y then acc++[x] else acc)++UM (xs.drop (k+1)) y=r:=by
 rw [Yd hx,UM] at h
 by_cases q:x=y
 ·rw [Zj q] at h;rw [Za (fun z=>z q)];exact h
 ·rw [Za q] at h;rw [Zj q,<-h];simp
theorem Z37 {xs acc r:List Int} {y:Int} {k:Nat} (hk:xs.length<=k) (h:acc++UM (xs.drop k) y=r):acc=r:=by
 rw [Xz hk,UM,Jz] at h;exact h
def VA (n:Int) (xs:List Int) (a:Int):List Int:=if 0<=a/\a<n then V7 xs a else xs
def TL (n:Int):List Int->List Int->List Int
 | [],xs=>xs
 | a::r,xs=>TL n r (VA n xs a)
mutual
def QX (n:Int):Z4->List Int->List Int
 | .mk op _ _ args kids,xs=>if Ym op=true then xs else QW n kids (TL n args xs)
def QW (n:Int):List Z5->List Int->List Int
 | [],xs=>xs
 | b::r,xs=>QW n r (XZ n b xs)
def VV (n:Int):List Z4->List Int->List Int
 | [],xs=>xs
 | s::r,xs=>VV n r (QX n s xs)
def XZ (n:Int):Z5->List Int->List Int
 | .mk steps result,xs=>VA n (VV n steps xs) result
end
section
variable {n:Int}
theorem O1 (s:Z4) (xs:List Int):QX n s xs=if Ym s.op=true then xs else QW n s.kids (TL n s.args xs):=by cases s;rw [QX];rfl
theorem NZ (b:Z5) (xs:List Int):XZ n b xs=VA n (VV n b.steps xs) b.result:=by cases b;rw [XZ];rfl
theorem EC (xs:List Int) (a:Int):(VA n xs a).length<=xs.length+1:=by
 rw [VA];split
 ·exact Bz xs a
 ·omega
theorem NY:∀(as1 xs:List Int),(TL n as1 xs).length<=xs.length+as1.length
 | [],xs=>Xa _
 | a::r,xs=>by
  have h1:=NY r (VA n xs a)
  have h2:=EC (n:=n) xs a
  rw [TL,YQ];omega
mutual
theorem O2:∀(s:Z4) (xs:List Int),(QX n s xs).length<=xs.length+s.sz
 | .mk op num into args kids,xs=>by
  have h1:=O0 kids (TL n args xs)
  have h2:=NY (n:=n) args xs
  rw [QX,Z4.sz];split<;>omega
theorem O0:∀(bs:List Z5) (xs:List Int),(QW n bs xs).length<=xs.length+YW bs
 | [],xs=>Xa _
 | b::r,xs=>by
  have h1:=O0 r (XZ n b xs)
  have h2:=EB b xs
  rw [QW,YW];omega
theorem Hy:∀(bs:List Z4) (xs:List Int),(VV n bs xs).length<=xs.length+Yk bs
 | [],xs=>Xa _
 | b::r,xs=>by
  have h1:=Hy r (QX n b xs)
  have h2:=O2 b xs
  rw [VV,Yk];omega
theorem EB:∀(b:Z5) (xs:List Int),(XZ n b xs).length<=xs.length+b.sz
 | .mk steps result,xs=>by
  have h1:=Hy steps xs
  have h2:=EC (n:=n) (VV n steps xs) result
  rw [XZ,Z5.sz];omega
end
theorem Z73 {as1 ys r:List Int} {k:Nat} {a:Int} (h:as1[k]? = some a) (ha:TL n (as1.drop k) ys=r):TL n (as1.drop (k+1)) (VA n ys a)=r:=by
 rw [Yd h,TL] at ha;exact ha
theorem Z75 {bs:List Z5} {ys r:List Int} {k:Nat} {b:Z5} (h:bs[k]? = some b) (ha:QW n (bs.drop k) ys=r):QW n (bs.drop (k+1)) (XZ n b ys)=r:=by
 rw [Yd h,QW] at ha;exact ha
theorem Z77 {bs:List Z4} {ys r:List Int} {k:Nat} {b:Z4} (h:bs[k]? = some b) (ha:VV n (bs.drop k) ys=r):VV n (bs.drop (k+1)) (QX n b ys)=r:=by
 rw [Yd h,VV] at ha;exact ha
theorem Z72 {as1 ys r:List Int} {k:Nat} (h:as1.length<=k) (ha:TL n (as1.drop k) ys=r):ys=r:=by rw [Xz h,TL] at ha;exact ha
theorem Z74 {bs:List Z5} {ys r:List Int} {k:Nat} (h:bs.length<=k) (ha:QW n (bs.drop k) ys=r):ys=r:=by rw [Xz h,QW] at ha;exact ha
theorem Z76 {bs:List Z4} {ys r:List Int} {k:Nat} (h:bs.length<=k) (ha:VV n (bs.drop k) ys=r):ys=r:=by rw [Xz h,VV] at ha;exact ha
end
theorem HI {s:Z4} (h:Cn s):∃a,s.args=[a]:=⟨gI s.args 0,by have:=Yw Z4.args h;exact this⟩
section
variable {xs:List Int} {v:Int} {lo hi:Nat}
end
section
variable {m:Int} {xs du dr:List Z4} {lf:List Int} {d:Bool} {k:Nat} {s:Z4} {W:List Z4 × List Z4 × List Int}
end
def Yt:List Z4->Nat
 | []=>0
 | s::r=>if Ym s.op=true then Yt r+1 else 0
def Xy (op x:Int):List Z4->Int->Int
 | [],_=>-1
 | s::r,k=>if s.op=op/\gI s.args 0=x then k else Xy op x r (k+1)
def Qe (many:Nat) (s:Z4):Prop:=(s.op=6/\s.into=0)/\s.args.length=many
instance (many:Nat) (s:Z4):Decidable (Qe many s):=by unfold Qe;infer_instance
def XQ (many:Nat):List Z4->Int->Int
 | [],_=>-1
 | s::r,k=>if Qe many s then k else XQ many r (k+1)
def A1 (xs:List Z4) (i:Int):Z4:=xs[i.toNat]?.getD (Zi 0 0)
def TF (v:Int) (s:Z4):Z4:=.mk s.op s.num v s.args s.kids
def V8 (xs:List Z4) (x:Int):Int:=Xy 16 x (xs.take (Yt xs)) 0
def Wq (xs:List Z4) (many:Nat):Int:=XQ many (xs.drop (Yt xs)) (Yt xs)
def VU (xs:List Z4) (x:Int) (many:Nat):List Z4:=
 if V8 xs x<0∨Wq xs many<0 then xs else (xs.set (V8 xs x).toNat (Zi 17 x)).set (Wq xs many).toNat (TF (1+x) (A1 xs (Wq xs many)))
def V9 (b:Z5) (x:Int) (many:Nat):Z5:=.mk (VU b.steps x many) b.result
mutual
def Q3 (ds:List Zf) (kept:List Int):Z4->Z4
 | .mk op num into args kids=>.mk op num into args (Uh ds kept op num args kids 0)
def Uh (ds:List Zf) (kept:List Int) (op num:Int) (args:List Int):List Z5->Nat->List Z5
 | [],_=>[]
 | b::r,k=>(if op=8/\¬gI args 0∈kept then V9 (Wt ds (if V8 b.steps (gI args 0)<0∨Wq b.steps (VG ds num k).length<0 then kept else gI args 0::kept) b) (gI args 0) (VG ds num k).length else Wt ds kept b)::Uh ds kept op num args r (k+1)
def Ui (ds:List Zf) (kept:List Int):List Z4->List Z4
 | []=>[]
 | s::r=>Q3 ds kept s::Ui ds kept r
def Wt (ds:List Zf) (kept:List Int):Z5->Z5
 | .mk steps result=>.mk (Ui ds kept steps) result
end
def DY (ds:List Zf) (kept:List Int) (num:Int) (args:List Int) (k:Nat) (b:Z5):List Int:=if V8 b.steps (gI args 0)<0∨Wq b.steps (VG ds num k).length<0 then kept else gI args 0::kept
def UZ (ds:List Zf) (kept:List Int) (op num:Int) (args:List Int) (k:Nat) (b:Z5):Z5:=if op=8/\¬gI args 0∈kept then V9 (Wt ds (DY ds kept num args k b) b) (gI args 0) (VG ds num k).length else Wt ds kept b
theorem Ae (ds:List Zf) (kept:List Int) (s:Z4):Q3 ds kept s=.mk s.op s.num s.into s.args (Uh ds kept s.op s.num s.args s.kids 0):=by cases s;rw [Q3];rfl
theorem Eh (ds:List Zf) (kept:List Int) (b:Z5):Wt ds kept b=.mk (Ui ds kept b.steps) b.result:=by cases b;rw [Wt];rfl
theorem Ej (ds:List Zf) (kept:List Int):∀xs:List Z4,Ui ds kept xs=xs.map (Q3 ds kept)
 | []=>rfl
 | s::r=>by rw [Ui,Ej ds kept r];rfl
section
variable {ds:List Zf} {kept:List Int}
theorem Z43 {xs acc r:List Z4} {k:Nat} {s:Z4} (h:xs[k]? = some s) (ha:acc++Ui ds kept (xs.drop k)=r) :
  (acc++[.mk s.op s.num s.into s.args (Uh ds kept s.op s.num s.args s.kids 0)])++Ui ds kept (xs.drop (k+1))=r:=by
 rw [Yd h,Ui,Ae] at ha
 rw [<-ha];simp
theorem Z42 {xs acc r:List Z4} {k:Nat} (h:xs.length<=k) (ha:acc++Ui ds kept (xs.drop k)=r):acc=r:=by
 rw [Xz h,Ui,Jz] at ha;exact ha
theorem Z3x {op num:Int} {args:List Int} {bs acc r:List Z5} {k:Nat} {b:Z5} (h:bs[k]? = some b) (ha:acc++Uh ds kept op num args (bs.drop k) k=r) :
  (acc++[UZ ds kept op num args k b])++Uh ds kept op num args (bs.drop (k+1)) (k+1)=r:=by
 rw [Yd h,Uh] at ha
 rw [<-ha,UZ,DY];simp
theorem Z3w {op num:Int} {args:List Int} {bs acc r:List Z5} {k j:Nat} (h:bs.length<=k) (ha:acc++Uh ds kept op num args (bs.drop k) j=r):acc=r:=by
 rw [Xz h,Uh,Jz] at ha;exact ha
end
section
variable {ds:List Zf}
mutual
theorem Z40:∀(s:Z4) {K K':List Int},(∀z,z∈K↔z∈K')->Q3 ds K s=Q3 ds K' s
 | .mk op num into args kids,K,K',h=>by rw [Q3,Q3,MS kids h]
theorem MS:∀(bs:List Z5) {K K':List Int} {op num:Int} {args:List Int} {k:Nat},(∀z,z∈K↔z∈K')->Uh ds K op num args bs k=Uh ds K' op num args bs k
 | [],_,_,_,_,_,_,_=>by rw [Uh,Uh]
 | b::r,K,K',op,num,args,k,h=>by
  have h1:=MS r (op:=op) (num:=num) (args:=args) (k:=k+1) h
  have h2:=GX b h
  have h3:∀z,z∈(gI args 0::K)↔z∈(gI args 0::K'):=fun z=>by rw [YP,YP,h z]
  have h4:=GX b h3
  rw [Uh,Uh,h1,h2]
  congr 1
  by_cases hq:op=8/\¬gI args 0∈K
  ·have hq':op=8/\¬gI args 0∈K':=⟨hq.1,fun z=>hq.2 ((h _).2 z)⟩
   rw [Zj hq,Zj hq']
   congr 1
   split
   ·exact h2
   ·exact h4
  ·have hq':¬(op=8/\¬gI args 0∈K'):=fun z=>hq ⟨z.1,fun y=>z.2 ((h _).1 y)⟩
   rw [Za hq,Za hq']
theorem MU:∀(xs:List Z4) {K K':List Int},(∀z,z∈K↔z∈K')->Ui ds K xs=Ui ds K' xs
 | [],_,_,_=>by rw [Ui,Ui]
 | s::r,K,K',h=>by rw [Ui,Ui,Z40 s h,MU r h]
theorem GX:∀(b:Z5) {K K':List Int},(∀z,z∈K↔z∈K')->Wt ds K b=Wt ds K' b
 | .mk steps result,K,K',h=>by rw [Wt,Wt,MU steps h]
end
end
theorem Cx:∀xs:List Z4,Yt xs<=xs.length
 | []=>Xa _
 | s::r=>by have:=Cx r;rw [Yt];split<;>simp<;>omega
section
variable {f:Z4->Z4} (hop:∀s,(f s).op=s.op) (hin:∀s,(f s).into=s.into) (har:∀s,(f s).args=s.args)
include hop
theorem Gu:∀xs:List Z4,Yt (xs.map f)=Yt xs
 | []=>rfl
 | s::r=>by rw [Uk,Yt,Yt,hop,Gu r]
include har
theorem HW {op x:Int}:∀(xs:List Z4) (k:Int),Xy op x (xs.map f) k=Xy op x xs k
 | [],_=>rfl
 | s::r,k=>by rw [Uk,Xy,Xy,hop,har,HW r]
theorem Z31 (xs:List Z4) (x:Int):V8 (xs.map f) x=V8 xs x:=by rw [V8,Gu hop,<-List.map_take,HW hop har,V8]
include hin
theorem Ig {many:Nat}:∀(xs:List Z4) (k:Int),XQ many (xs.map f) k=XQ many xs k
 | [],_=>rfl
 | s::r,k=>by
  have e:Qe many (f s)↔Qe many s:=by rw [Qe,Qe,hop,hin,har]
  rw [Uk,XQ,XQ,Ig r]
  by_cases h:Qe many s
  ·rw [Zj h,Zj (e.2 h)]
  ·rw [Za h,Za (fun z=>h (e.1 z))]
theorem Pe (xs:List Z4) (many:Nat):Wq (xs.map f) many=Wq xs many:=by rw [Wq,Gu hop,<-List.map_drop,Ig hop hin har,Wq]
end
theorem HV {op x:Int}:∀{xs:List Z4} {k:Int},¬Xy op x xs k<0->0<=k->k<=Xy op x xs k/\Xy op x xs k<k+xs.length/\∃s,xs[(Xy op x xs k-k).toNat]? = some s/\s.op=op/\gI s.args 0=x
 | [],k,h,_=>by simp [Xy] at h
 | s::r,k,h,hk=>by
  rw [Xy] at h ⊢
  split
  ·rename_i q
   refine ⟨Int.le_refl _,by rw [YQ];omega,s,?_,q⟩
   rw [Int.sub_self];rfl
  ·rename_i q
   rw [Za q] at h
   obtain ⟨h1,h2,t,h3,h4⟩:=HV (xs:=r) (k:=k+1) h om
   refine ⟨by omega,by rw [YQ];omega,t,?_,h4⟩
   rw [show (Xy op x r (k+1)-k).toNat=(Xy op x r (k+1)-(k+1)).toNat+1 by omega,List.getElem?_cons_succ]
   exact h3
theorem If {many:Nat}:∀{xs:List Z4} {k:Int},¬XQ many xs k<0->0<=k->k<=XQ many xs k/\XQ many xs k<k+xs.length/\∃s,xs[(XQ many xs k-k).toNat]? = some s/\Qe many s
 | [],k,h,_=>by simp [XQ] at h
 | s::r,k,h,hk=>by
  rw [XQ] at h ⊢
  split
  ·rename_i q
   refine ⟨Int.le_refl _,by rw [YQ];omega,s,?_,q⟩
   rw [Int.sub_self];rfl
  ·rename_i q
   rw [Za q] at h
   obtain ⟨h1,h2,t,h3,h4⟩:=If (xs:=r) (k:=k+1) h om
   refine ⟨by omega,by rw [YQ];omega,t,?_,h4⟩
   rw [show (XQ many r (k+1)-k).toNat=(XQ many r (k+1)-(k+1)).toNat+1 by omega,List.getElem?_cons_succ]
   exact h3
theorem CG {xs:List Z4} {x:Int} (h:¬V8 xs x<0):0<=V8 xs x/\V8 xs x<Yt xs/\∃s,xs[(V8 xs x).toNat]? = some s/\s.op=16/\gI s.args 0=x:=by
 obtain ⟨h1,h2,s,h3,h4⟩:=HV h (Int.le_refl 0)
 have hl:=Cx xs
 rw [Wp,Vs hl] at h2
 have h2':V8 xs x<Yt xs:=by unfold V8;omega
 have h1':0<=V8 xs x:=h1
 refine ⟨h1',h2',s,?_,h4⟩
 rw [Int.sub_zero] at h3
 have h5:(V8 xs x).toNat<Yt xs:=by omega
 rwa [show Xy 16 x (xs.take (Yt xs)) 0=V8 xs x from rfl,List.getElem?_take_of_lt h5] at h3
theorem JT {xs:List Z4} {many:Nat} (h:¬Wq xs many<0):(Yt xs:Int)<=Wq xs many/\Wq xs many<xs.length/\∃s,xs[(Wq xs many).toNat]? = some s/\Qe many s/\A1 xs (Wq xs many)=s:=by
 obtain ⟨h1,h2,s,h3,h4⟩:=If h om
 have hl:=Cx xs
 rw [Ap] at h2
 have h1':(Yt xs:Int)<=Wq xs many:=h1
 have h2':Wq xs many<xs.length:=by unfold Wq;omega
 rw [HF,show XQ many (xs.drop (Yt xs)) (Yt xs)=Wq xs many from rfl,show Yt xs+(Wq xs many-(Yt xs:Int)).toNat=(Wq xs many).toNat by omega] at h3
 exact ⟨h1',h2',s,h3,h4,by rw [A1,h3];rfl⟩
theorem Z3h {f:Z4->Z4} (hop:∀s,(f s).op=s.op) (hin:∀s,(f s).into=s.into) (har:∀s,(f s).args=s.args) (hc:∀x,f (Zi 17 x)=Zi 17 x) (hi:∀v s,f (TF v s)=TF v (f s)) (xs:List Z4) (x:Int) (many:Nat) :
  VU (xs.map f) x many=(VU xs x many).map f:=by
 rw [VU,Z31 hop har,Pe hop hin har,VU]
 split
 ·rfl
 ·rename_i hq
  obtain ⟨_,_,s,h3,_,h5⟩:=JT (fun z=>hq (.inr z))
  have e:A1 (xs.map f) (Wq xs many)=f (A1 xs (Wq xs many)):=by rw [A1,Kk,h3,h5];rfl
  rw [e,List.map_set,List.map_set,hc,hi]
theorem MQ {ds:List Zf} {K:List Int} {b:Z5} {x:Int} {many:Nat}:Wt ds K (V9 b x many)=V9 (Wt ds K b) x many:=by
 rw [V9,Wt,V9,Eh,Ej,Ej]
 show Z5.mk _ _=Z5.mk (VU (b.steps.map (Q3 ds K)) x many) b.result
 rw [Z3h (f:=Q3 ds K) (fun s=>by rw [Ae];rfl) (fun s=>by rw [Ae];rfl) (fun s=>by rw [Ae];rfl) (fun x=>by rw [Ae];rfl) (fun v s=>by rw [Ae,Ae];rfl)]
def Fb (op:Int) (c:List Int):List Int:=if Ym op=true then c.set (op-14).toNat (gI c (op-14)+1) else c
mutual
def Fd:Z4->List Int->List Int
 | .mk op _ _ _ kids,c=>C3 kids (Fb op c)
def C3:List Z5->List Int->List Int
 | [],c=>c
 | b::r,c=>C3 r (Fc b c)
def C4:List Z4->List Int->List Int
 | [],c=>c
 | s::r,c=>C4 r (Fd s c)
def Fc:Z5->List Int->List Int
 | .mk steps _,c=>C4 steps c
end
structure CB (c:List Int) (q:Int):Prop where
 len:c.length=4
 bd:∀x∈c,0<=x/\x<=q
theorem CB.le {c:List Int} {q p:Int} (h:CB c q) (hq:q<=p):CB c p:=⟨h.len,fun x hx=>by have:=h.bd x hx;omega⟩
theorem CB.at {c:List Int} {q:Int} (h:CB c q) {i:Int} (hi:i.toNat<4):0<=gI c i/\gI c i<=q:=h.bd _ (by rw [gI,JC (by rw [h.len];exact hi)];exact List.getElem_mem _)
theorem CB.one {c:List Int} {q:Int} (h:CB c q) (_:0<=q) (op:Int):CB (Fb op c) (q+1):=by
 rw [Fb]
 split
 ·rename_i ho
  have ho':14<=op/\op<=17:=by simpa [Ym] using ho
  refine ⟨by rw [UQ];exact h.len,fun x hx=>?_⟩
  rcases QM hx with hx|rfl
  ·have:=h.bd x hx;omega
  ·have:=h.at (i:=op-14) om;omega
 ·exact h.le om
mutual
theorem CB.s:∀(s:Z4) {c:List Int} {q:Int},CB c q->0<=q->CB (Fd s c) (q+s.sz)
 | .mk op num into args kids,c,q,h,hq=>by
  have:=CB.bs kids (h.one hq op) om
  rw [Fd,Z4.sz];exact this.le om
theorem CB.bs:∀(bs:List Z5) {c:List Int} {q:Int},CB c q->0<=q->CB (C3 bs c) (q+YW bs)
 | [],c,q,h,hq=>by rw [C3,YW];exact h.le om
 | b::r,c,q,h,hq=>by
  have:=CB.bs r (CB.b b h hq) om
  rw [C3,YW];exact this.le om
theorem CB.ss:∀(xs:List Z4) {c:List Int} {q:Int},CB c q->0<=q->CB (C4 xs c) (q+Yk xs)
 | [],c,q,h,hq=>by rw [C4,Yk];exact h.le om
 | s::r,c,q,h,hq=>by
  have:=CB.ss r (CB.s s h hq) om
  rw [C4,Yk];exact this.le om
theorem CB.b:∀(b:Z5) {c:List Int} {q:Int},CB c q->0<=q->CB (Fc b c) (q+b.sz)
 | .mk steps result,c,q,h,hq=>by
  have:=CB.ss steps h hq
  rw [Fc,Z5.sz];exact this.le om
end
mutual
def AX:Z4->Prop
 | .mk op _ _ _ kids=>op≠17/\A8 kids
def A8:List Z5->Prop
 | []=>True
 | b::r=>Q0 b/\A8 r
def A9:List Z4->Prop
 | []=>True
 | s::r=>AX s/\A9 r
def Q0:Z5->Prop
 | .mk steps _=>A9 steps
end
theorem BG (s:Z4):AX s↔s.op≠17/\A8 s.kids:=by cases s;rw [AX];rfl
theorem CC (b:Z5):Q0 b↔A9 b.steps:=by cases b;rw [Q0];rfl
theorem CD:∀{xs:List Z4},A9 xs↔∀s∈xs,AX s
 | []=>by simp [A9]
 | s::r=>by rw [A9,CD];simp
theorem Ea:∀{xs:List Z5},A8 xs↔∀s∈xs,Q0 s
 | []=>by simp [A8]
 | s::r=>by rw [A8,Ea];simp
theorem Ez:∀{xs:List Z4} {i:Nat} {s:Z4} (t:Z4),xs[i]? = some s->Yk (xs.set i t)+s.sz=Yk xs+t.sz
 | [],_,_,_,h=>by simp at h
 | x::r,0,s,t,h=>by simp at h;subst h;rw [List.set_cons_zero,Yk,Yk];omega
 | x::r,i+1,s,t,h=>by
  have:=Ez (xs:=r) (i:=i) t (by simpa using h)
  rw [List.set_cons_succ,Yk,Yk];omega
theorem Z0z (v:Int) (s:Z4):(TF v s).sz=s.sz:=by cases s;rw [TF,Z4.sz,Z4.sz];rfl
theorem Ih {xs:List Z4} {x:Int} {many:Nat} (h:¬(V8 xs x<0∨Wq xs many<0)):(V8 xs x).toNat<(Wq xs many).toNat:=by
 obtain ⟨h1,h2,_⟩:=CG (fun z=>h (.inl z))
 obtain ⟨h3,h4,_⟩:=JT (fun z=>h (.inr z))
 omega
theorem Eg {xs:List Z4} {x:Int} {many:Nat} (h:¬(V8 xs x<0∨Wq xs many<0)) {t:Z4} {s:Z4} (hs:xs[(Wq xs many).toNat]? = some s):(xs.set (V8 xs x).toNat t)[(Wq xs many).toNat]? = some s:=by
 have:=Ih h
 rw [List.getElem?_set_ne om];exact hs
theorem MI {xs:List Z4} {x:Int} {many:Nat} (h:∀s∈xs,Ym s.op=true->2<=s.sz):Yk (VU xs x many)<=Yk xs:=by
 rw [VU]
 split
 ·exact Xa _
 ·rename_i hq
  obtain ⟨_,_,s,h3,h4,_⟩:=CG (fun z=>hq (.inl z))
  obtain ⟨_,_,t,h5,_,h6⟩:=JT (fun z=>hq (.inr z))
  have e1:=Ez (Zi 17 x) h3
  have e2:=Ez (TF (1+x) (A1 xs (Wq xs many))) (Eg hq (t:=Zi 17 x) h5)
  have h7:=h s (Y7 h3) (by rw [h4];rfl)
  rw [Dk] at e1
  rw [Z0z,h6] at e2
  rw [h6]
  omega
section
variable {ds:List Zf}
theorem Z7o {v:Int} {s:Z4} (h:wS ds s) (h6:s.op=6):wS ds (TF v s):=by
 obtain ⟨h1,h2,h3,h4⟩:=(Ki s).1 h
 exact (Ki _).2 ⟨h1,fun hc=>absurd hc (by show ¬Ym s.op=true;rw [h6];decide),h3,h4⟩
theorem Z7l {v:Int}:wS ds (Zi 17 v):=(Ki _).2 ⟨rfl,fun _=>⟨rfl,rfl,rfl,v,rfl⟩,fun e=>absurd e (show (17:Int)≠8 by decide),True.intro⟩
theorem Z7k {xs:List Z4} {x:Int} {many:Nat} (h:Q7 ds xs):Q7 ds (VU xs x many):=by
 rw [VU]
 split
 ·exact h
 ·rename_i hq
  obtain ⟨_,_,t,h5,h7,h6⟩:=JT (fun z=>hq (.inr z))
  rw [Jy]
  intro s hs
  rcases List.mem_or_eq_of_mem_set hs with hs|rfl
  ·rcases List.mem_or_eq_of_mem_set hs with hs|rfl
   ·exact Jy.1 h s hs
   ·exact Z7l
  ·rw [h6];exact Z7o (Jy.1 h t (Y7 h5)) h7.1.1
theorem Z7j {b:Z5} {x:Int} {many:Nat} (h:wB ds b):wB ds (V9 b x many):=by rw [V9,K0];exact Z7k ((K0 b).1 h)
variable (hd:Wd ds)
mutual
theorem Z41:∀(s:Z4) {K:List Int},wS ds s->(Q3 ds K s).sz<=s.sz
 | .mk op num into args kids,K,h=>by
  have:=MT kids (K:=K) (op:=op) (num:=num) (args:=args) (k:=0) h.2.2.2
  rw [Q3,Z4.sz,Z4.sz];omega
theorem MT:∀(bs:List Z5) {K:List Int} {op num:Int} {args:List Int} {k:Nat},Jx ds bs->YW (Uh ds K op num args bs k)<=YW bs
 | [],_,_,_,_,_,_=>Xa _
 | b::r,K,op,num,args,k,h=>by
  have h2:=MT r (K:=K) (op:=op) (num:=num) (args:=args) (k:=k+1) h.2
  have key:∀K2:List Int,(V9 (Wt ds K2 b) (gI args 0) (VG ds num k).length).sz<=b.sz:=fun K2=>by
   have h1:=GY b (K:=K2) h.1
   have h3:=MI (xs:=(Wt ds K2 b).steps) (x:=gI args 0) (many:=(VG ds num k).length) (by
    rw [Eh,Ej]
    intro s hs hc
    obtain ⟨t,ht,rfl⟩:=W4.1 hs
    rw [Ae] at hc ⊢
    obtain ⟨_,_,a,ha⟩:=EG (Jy.1 ((K0 b).1 h.1) t ht) hc
    rw [Z4.sz,ha];simp)
   rw [V9,Z5.sz]
   rw [Z5.sz_eq] at h1
   omega
  rw [Uh,YW,YW]
  split
  ·have:=key (if V8 b.steps (gI args 0)<0∨Wq b.steps (VG ds num k).length<0 then K else gI args 0::K)
   omega
  ·have:=GY b (K:=K) h.1
   omega
theorem MV:∀(xs:List Z4) {K:List Int},Q7 ds xs->Yk (Ui ds K xs)<=Yk xs
 | [],_,_=>Xa _
 | s::r,K,h=>by
  have h1:=Z41 s (K:=K) h.1
  have h2:=MV r (K:=K) h.2
  rw [Ui,Yk,Yk];omega
theorem GY:∀(b:Z5) {K:List Int},wB ds b->(Wt ds K b).sz<=b.sz
 | .mk steps result,K,h=>by
  have:=MV steps (K:=K) h
  rw [Wt,Z5.sz,Z5.sz];omega
end
end
theorem Gv:∀{xs:List Z4} {i:Nat} {s t:Z4},xs[i]? = some s->Ym t.op=Ym s.op->Yt (xs.set i t)=Yt xs
 | [],_,_,_,h,_=>by simp at h
 | x::r,0,s,t,h,e=>by simp at h;subst h;rw [List.set_cons_zero,Yt,Yt,e]
 | x::r,i+1,s,t,h,e=>by
  rw [List.set_cons_succ,Yt,Yt,Gv (xs:=r) (i:=i) (by simpa using h) e]
theorem Z1p {xs:List Z4} {x:Int} {many:Nat}:Yt (VU xs x many)=Yt xs:=by
 rw [VU]
 split
 ·rfl
 ·rename_i hq
  obtain ⟨_,_,s,h3,h4,_⟩:=CG (fun z=>hq (.inl z))
  obtain ⟨_,_,t,h5,_,h6⟩:=JT (fun z=>hq (.inr z))
  rw [Gv (Eg hq (t:=Zi 17 x) h5) (by rw [h6];rfl),Gv h3 (by rw [h4];rfl)]
theorem HY {op x:Int}:∀{xs:List Z4} {k:Int},(∀s∈xs,s.op≠op)->Xy op x xs k=-1
 | [],_,_=>rfl
 | s::r,k,h=>by
  rw [Xy,Za (fun z=>h s (Xg ..) z.1)]
  exact HY fun t ht=>h t (XC _ ht)
theorem HZ {op x:Int}:∀{xs:List Z4} {k:Int},0<=k->(∃s∈xs,s.op=op/\gI s.args 0=x)->0<=Xy op x xs k
 | [],_,_,h=>by obtain ⟨s,hs,_⟩:=h;cases hs
 | s::r,k,hk,h=>by
  rw [Xy]
  split
  ·exact hk
  ·rename_i q
   obtain ⟨t,ht,h1⟩:=h
   rcases YP.1 ht with rfl|ht
   ·exact absurd h1 q
   ·exact HZ om ⟨t,ht,h1⟩
theorem NU {xs:List Z4} {x:Int} {many:Nat} (hn:A9 xs):0<=Xy 17 x ((VU xs x many).take (Yt (VU xs x many))) 0↔¬(V8 xs x<0∨Wq xs many<0):=by
 rw [Z1p]
 constructor
 ·intro h hq
  rw [VU,Zj hq,HY (fun s hs=>((BG s).1 (CD.1 hn s (TP hs))).1)] at h
  omega
 ·intro hq
  obtain ⟨h1,h2,s,h3,h4,_⟩:=CG (fun z=>hq (.inl z))
  have hap:=Ih hq
  refine HZ (Int.le_refl 0) ⟨Zi 17 x,?_,rfl,rfl⟩
  rw [VU,Za hq]
  refine Y7 (i:=(V8 xs x).toNat) ?_
  rw [List.getElem?_take_of_lt om,List.getElem?_set_ne om,List.getElem?_set_self (XM.1 h3).1]
def Aa (b:Z5):Prop:=∀s∈b.steps,A8 s.kids
theorem AW {b:Z5} (h:Q0 b):Aa b:=fun s hs=>((BG s).1 (CD.1 ((CC b).1 h) s hs)).2
theorem Z2j {b:Z5} {k j:Nat} {s:Z4} {c:Z5} (h:Aa b) (hs:b.steps[k]? = some s) (hc:s.kids[j]? = some c):Q0 c:=Ea.1 (h s (Y7 hs)) c (Y7 hc)
theorem Ma {b:Z5} {x:Int} {many:Nat} (h:Q0 b):Aa (V9 b x many):=by
 intro s hs
 have hs:s∈VU b.steps x many:=hs
 rw [VU] at hs
 split at hs
 ·exact AW h s hs
 ·rename_i hq
  obtain ⟨_,_,t,h5,_,h6⟩:=JT (fun z=>hq (.inr z))
  rcases List.mem_or_eq_of_mem_set hs with hs|rfl
  ·rcases List.mem_or_eq_of_mem_set hs with hs|rfl
   ·exact AW h s hs
   ·exact True.intro
  ·rw [h6];exact AW h t (Y7 h5)
theorem Z3g {ds:List Zf} {b:Z5} {x:Int} {many:Nat} (h:wB ds b):(V9 b x many).sz<=b.sz:=by
 have:=MI (xs:=b.steps) (x:=x) (many:=many) fun s hs hc=>by
  have h7:=EO ((K0 b).1 h) s hs hc
  rw [h7,Dk];omega
 rw [V9,Z5.sz,b.sz_eq];omega
def KI (ds:List Zf) (r:Yj):Yj:=⟨r.params,r.lent,r.result,Wt ds [] r.body⟩
def Ei (n:Zx):Zx:=⟨n.decls,n.routines.map (KI n.decls)⟩
end Go.Abs
section
namespace Go.Abs
theorem Z1n {xs:List Z4} {k:Nat} {s:Z4} {r:Nat} (h:xs[k]? = some s) (hs:Ym s.op=true) (ha:k+Yt (xs.drop k)=r):k+1+Yt (xs.drop (k+1))=r:=by
 rw [Yd h,Yt,Zj hs] at ha;omega
theorem Z1o {xs:List Z4} {k:Nat} {s:Z4} {r:Nat} (h:xs[k]? = some s) (hs:¬Ym s.op=true) (ha:k+Yt (xs.drop k)=r):k=r:=by
 rw [Yd h,Yt,Za hs] at ha;omega
theorem Z1m {xs:List Z4} {k:Nat} {r:Nat} (h:xs.length<=k) (ha:k+Yt (xs.drop k)=r):k=r:=by
 rw [Xz h,Yt] at ha;omega
theorem OR {op x:Int} {xs:List Z4} {k:Nat} {s:Z4} {r:Int} (h:xs[k]? = some s) (hs:s.op=op/\gI s.args 0=x) (ha:Xy op x (xs.drop k) k=r):(k:Int)=r:=by
 rw [Yd h,Xy,Zj hs] at ha;exact ha
theorem HX {op x:Int} {xs:List Z4} {k:Nat} {s:Z4} {r:Int} (h:xs[k]? = some s) (hs:¬(s.op=op/\gI s.args 0=x)) (ha:Xy op x (xs.drop k) k=r):Xy op x (xs.drop (k+1)) ((k+1:Nat):Int)=r:=by
 rw [Yd h,Xy,Za hs] at ha;rw [<-ha];congr 1
theorem OQ {op x:Int} {xs:List Z4} {k:Nat} {r:Int} (h:xs.length<=k) (ha:Xy op x (xs.drop k) k=r):-1=r:=by
 rw [Xz h,Xy] at ha;exact ha
theorem Ph {many:Nat} {xs:List Z4} {k:Nat} {s:Z4} {r:Int} (h:xs[k]? = some s) (hs:Qe many s) (ha:XQ many (xs.drop k) k=r):(k:Int)=r:=by
 rw [Yd h,XQ,Zj hs] at ha;exact ha
theorem Pg {many:Nat} {xs:List Z4} {k:Nat} {s:Z4} {r:Int} (h:xs[k]? = some s) (hs:¬Qe many s) (ha:XQ many (xs.drop k) k=r):XQ many (xs.drop (k+1)) ((k+1:Nat):Int)=r:=by
 rw [Yd h,XQ,Za hs] at ha;rw [<-ha];congr 1
theorem Pf {many:Nat} {xs:List Z4} {k:Nat} {r:Int} (h:xs.length<=k) (ha:XQ many (xs.drop k) k=r):-1=r:=by
 rw [Xz h,XQ] at ha;exact ha
theorem Z3i {xs:List Z4} {x:Int} {many:Nat} (h:V8 xs x<0∨Wq xs many<0):VU xs x many=xs:=Zj h
theorem Z3j {xs:List Z4} {x:Int} {many:Nat} {s:Z4} (h:¬(V8 xs x<0∨Wq xs many<0)) (hs:A1 xs (Wq xs many)=s):(xs.set (V8 xs x).toNat (Zi 17 x)).set (Wq xs many).toNat (TF (1+x) s)=VU xs x many:=by
 rw [VU,Za h,hs]
theorem TW (xs:List Z4):(Zm (Zo xs)).length=xs.length*5:=by rw [UU _ (YZ _)];simp
theorem DB (s:Z4) (r:List Z4):Zm (Zo (s::r))=Ye s++Zm (Zo r):=by rw [WY,WY];rfl
theorem IN {xs:List Z4} {k:Nat} {x:Z4} (h:xs[k]? = some x):Zm (Zo (xs.take k))++Zm [Y2 x]=Zm (Zo (xs.take (k+1))):=by
 rw [WS h,Ws,TD,DB]
 have:Zm (Zo [])=[]:=by rw [WY];rfl
 rw [this];rfl
theorem IO {xs:List Z4} {i:Nat} {s:Z4} (h:xs[i]? = some s):Zm (Zo xs)=Zm (Zo (xs.take i))++(Ye s++Zm (Zo (xs.drop (i+1)))):=by
 have hi:=(XM.1 h).1
 have e:xs=xs.take i++(s::xs.drop (i+1)):=by rw [<-Yd h,UC]
 conv=>lhs;rw [e,Ws,TD,DB]
theorem DC {xs:List Z4} {i:Nat} {s t:Z4} (h:xs[i]? = some s):(Zm (Zo xs)).take (i*5)++Ye t++(Zm (Zo xs)).drop (i*5+(Ye t).length)=Zm (Zo (xs.set i t)):=by
 have hi:=(XM.1 h).1
 have hl:(Zm (Zo (xs.take i))).length=i*5:=by rw [TW,Wp,Vs om]
 rw [IO h,GW (xs:=Ye s) (ys:=Ye t) hl rfl]
 have e:xs.set i t=xs.take i++(t::xs.drop (i+1)):=by rw [CZ,Zj hi]
 rw [e,Ws,TD,DB]
theorem FM {xs:List Z4} {i:Nat} {s:Z4} (h:xs[i]? = some s):((Zm (Zo xs)).drop (i*5)).take (Ye s).length=Ye s:=by
 have hi:=(XM.1 h).1
 have hl:(Zm (Zo (xs.take i))).length=i*5:=by rw [TW,Wp,Vs om]
 rw [IO h]
 exact Z3s hl
structure Qv (xs:List Int) (v:Int) (k:Nat) (acc:List Int) (d:Bool):Prop where
 len:acc.length<=k+(if d=true then 1 else 0)
 sub:∀z∈acc,z∈xs.take k∨z=v
 all:∀z∈xs.take k,z∈acc
 done:d=true->v∈acc
theorem Qv.zero (xs:List Int) (v:Int):Qv xs v 0 [] false:=⟨by simp,by simp,by simp,by simp⟩
theorem Qv.step {xs:List Int} {v:Int} {k:Nat} {acc:List Int} {d:Bool} {x:Int} (h:Qv xs v k acc d) (hx:xs[k]? = some x) {acc2:List Int} {d2:Bool}
  (hc:(acc2=acc++[x]/\d2=d)∨(acc2=(acc++[v])++[x]/\d2=true/\¬d=true)∨(acc2=acc++[x]/\d2=true/\x=v)):Qv xs v (k+1) acc2 d2:=by
 obtain ⟨h1,h2,h3,h4⟩:=h
 have ht:∀z,z∈xs.take (k+1)↔z∈xs.take k∨z=x:=fun z=>by rw [WS hx];simp
 rcases hc with ⟨rfl,rfl⟩|⟨rfl,rfl,hd⟩|⟨rfl,rfl,rfl⟩
 ·refine ⟨by simp;omega,fun z hz=>?_,fun z hz=>?_,fun q=>List.mem_append_left _ (h4 q)⟩
  ·rw [ht]
   rcases Xe.1 hz with hz|hz
   ·rcases h2 z hz with q|q
    ·exact .inl (.inl q)
    ·exact .inr q
   ·exact .inl (.inr (XN.1 hz))
  ·rcases (ht z).1 hz with q|q
   ·exact List.mem_append_left _ (h3 z q)
   ·subst q;simp
 ·rw [Za hd] at h1
  refine ⟨by simp;omega,fun z hz=>?_,fun z hz=>?_,fun _=>by simp⟩
  ·rw [ht]
   simp only [Xe,XN] at hz
   rcases hz with (hz|hz)|hz
   ·rcases h2 z hz with q|q
    ·exact .inl (.inl q)
    ·exact .inr q
   ·exact .inr hz
   ·exact .inl (.inr hz)
  ·rcases (ht z).1 hz with q|q
   ·exact List.mem_append_left _ (List.mem_append_left _ (h3 z q))
   ·subst q;simp
 ·refine ⟨by simp;split at h1<;>omega,fun z hz=>?_,fun z hz=>?_,fun _=>by simp⟩
  ·rw [ht]
   rcases Xe.1 hz with hz|hz
   ·rcases h2 z hz with q|q
    ·exact .inl (.inl q)
    ·exact .inr q
   ·exact .inl (.inr (XN.1 hz))
  ·rcases (ht z).1 hz with q|q
   ·exact List.mem_append_left _ (h3 z q)
   ·subst q;simp
theorem Qv.fin {xs:List Int} {v:Int} {k:Nat} {acc:List Int} {d:Bool} (h:Qv xs v k acc d) (hk:k=xs.length) :
  (d=true->acc.length<=xs.length+1/\∀z,z∈acc↔z∈xs∨z=v)/\(¬d=true->(acc++[v]).length<=xs.length+1/\∀z,z∈acc++[v]↔z∈xs∨z=v):=by
 obtain ⟨h1,h2,h3,h4⟩:=h
 subst hk
 rw [WP] at h2 h3
 refine ⟨fun hd=>?_,fun hd=>?_⟩
 ·rw [Zj hd] at h1
  exact ⟨h1,fun z=>⟨h2 z,fun q=>q.elim (h3 z) fun e=>e▸h4 hd⟩⟩
 ·rw [Za hd] at h1
  refine ⟨by simp;omega,fun z=>?_⟩
  rw [Xe,XN]
  exact ⟨fun q=>q.elim (h2 z) .inr,fun q=>q.elim (fun e=>.inl (h3 z e)) .inr⟩
end Go.Abs
namespace Go.Abs
theorem Qv.go {xs:List Int} {v:Int} {k:Nat} {acc:List Int} {d:Bool} {x:Int} (h:Qv xs v k acc d) (hx:xs[k]? = some x) {acc2:List Int} {d2:Bool}
  (hc:(acc2=acc/\d2=d)∨(acc2=acc++[v]/\d2=true/\¬d=true)∨(acc2=acc/\d2=true/\x=v)):Qv xs v (k+1) (acc2++[x]) d2:=by
 refine h.step hx ?_
 rcases hc with ⟨e1,e2⟩|⟨e1,e2,e3⟩|⟨e1,e2,e3⟩
 ·exact .inl ⟨by rw [e1],e2⟩
 ·exact .inr (.inl ⟨by rw [e1],e2,e3⟩)
 ·exact .inr (.inr ⟨by rw [e1],e2,e3⟩)
section
variable {ds:List Zf} {kept K2:List Int} {op num x:Int} {args:List Int} {j many:Nat} {kd:Z5}
theorem Z3y (h8:op=8) (hx:gI args 0=x) (hk:¬x∈kept) (hm:(VG ds num j).length=many) (hq:¬(V8 kd.steps x<0∨Wq kd.steps many<0)) (hK:∀z,z∈K2↔z∈kept∨z=x):Wt ds K2 (V9 kd x many)=UZ ds kept op num args j kd:=by
 subst hx hm
 have e:∀z,z∈K2↔z∈gI args 0::kept:=fun z=>by rw [hK z,YP];exact Or.comm
 rw [UZ,Zj ⟨h8,hk⟩,DY,Za hq,MQ,GX kd e]
theorem Z3z (h8:op=8) (hx:gI args 0=x) (hk:¬x∈kept) (hm:(VG ds num j).length=many) (hq:V8 kd.steps x<0∨Wq kd.steps many<0):Wt ds kept (V9 kd x many)=UZ ds kept op num args j kd:=by
 subst hx hm
 rw [UZ,Zj ⟨h8,hk⟩,DY,Zj hq,MQ]
theorem MR (h:¬(op=8/\¬gI args 0∈kept)):Wt ds kept kd=UZ ds kept op num args j kd:=by rw [UZ,Za h]
end
end Go.Abs
namespace Go.Abs
theorem Df:∀{xs:List Z5} {k:Nat} {b:Z5},xs[k]? = some b->YW (xs.take k)+b.sz<=YW xs
 | [],_,_,h=>by simp at h
 | x::r,0,b,h=>by simp at h;subst h;simp [YW]
 | x::r,k+1,b,h=>by
  have:=Df (xs:=r) (k:=k) (by simpa using h)
  rw [Ba,YW,YW];omega
theorem F8 {xs:List Z5} {k:Nat} (h:xs.length<=k):YW (xs.take k)=YW xs:=by rw [Vb h]
end Go.Abs
end
namespace Go.Abs
theorem NB {xs:List Z4} {k:Nat} {s:Z4} (h:xs[k]? = some s):Yk (xs.drop k)=s.sz+Yk (xs.drop (k+1)):=by rw [Yd h,Yk]
theorem NC (xs:List Z4) (k:Nat):Yk (xs.drop k)<=Yk xs:=by
 have h:=Yw Yk (UC k xs)
 rw [UN] at h;omega
theorem De {xs:List Z5} {k:Nat} {b:Z5} (h:xs[k]? = some b):YW (xs.take (k+1))=YW (xs.take k)+b.sz:=by rw [WS h,C1,YW,YW];rfl
structure CL (ds:List Zf) (nf m:Nat) (xs:List Z4) (d z:Nat):Prop where
 fs:UF ds nf m xs
 dn:YN xs=d
 op:Tf Vc xs
 sz:Yk xs<=z
section
variable {ds:List Zf} {nf m d z:Nat} {xs:List Z4}
theorem CL.nil:CL ds nf m [] 0 0:=⟨True.intro,rfl,True.intro,Xa _⟩
theorem CL.len (h:CL ds nf m xs d z):xs.length<=z:=V3 (Kf xs) h.sz
theorem CL.le (h:CL ds nf m xs d z) {z2:Nat} (hz:z<=z2):CL ds nf m xs d z2:=⟨h.fs,h.dn,h.op,V3 h.sz hz⟩
theorem Ro {op v:Int} (ho:op=14∨op=15) (hv:0<=v/\v<(m:Int)):fS ds nf m (Zi op v):=by
 rw [Zi,fS]
 exact ⟨.inr om,fun a ha=>by rw [XN.1 ha];exact hv,fun _=>⟨rfl,rfl,rfl,v,rfl⟩,fun h=>by omega,fun h=>by omega,fun h=>by omega,fun h=>by omega,by omega,by omega,by simp,fun _=>rfl,True.intro⟩
theorem Ik {op:Int} (ho:op=14∨op=15):Ym op=true:=by simp [Ym];omega
theorem CL.cnt (h:CL ds nf m xs d z) {op v:Int} (ho:op=14∨op=15) (hv:0<=v/\v<((m+d:Nat):Int)):CL ds nf m (xs++[Zi op v]) d (z+2):=by
 have hc:Ym (Zi op v).op=true:=Ik ho
 refine ⟨Dx h.fs (by rw [h.dn];exact Ro ho hv),?_,Ed h.op ?_,?_⟩
 ·rw [K5,h.dn,YN,Zj hc];rfl
 ·rw [CF];exact ⟨by show op<=15;omega,True.intro⟩
 ·have:=h.sz
  have e:(Zi op v).sz=2:=rfl
  rw [UN,Yk,e,Yk];omega
theorem CL.cnts {op:Int} (ho:op=14∨op=15):∀{vs:List Int} {xs:List Z4} {z:Nat},CL ds nf m xs d z->(∀v∈vs,0<=v/\v<((m+d:Nat):Int))->CL ds nf m (xs++vs.map (Zi op)) d (z+2*vs.length)
 | [],xs,z,h,_=>by simpa using h
 | v::r,xs,z,h,hv=>by
  have h1:=CL.cnts ho (vs:=r) (h.cnt ho (hv v (Xg ..))) fun x hx=>hv x (XC _ hx)
  rw [Uk,show xs++Zi op v::r.map (Zi op)=xs++[Zi op v]++r.map (Zi op) by simp]
  exact h1.le (by rw [YQ];omega)
theorem CL.one (h:CL ds nf m xs d z) {s:Z4} (hs:fS ds nf (m+d) s) (hc:Ym s.op=false) (ho:Q2 Vc s):CL ds nf m (xs++[s]) (d+1) (z+s.sz):=by
 refine ⟨Dx h.fs (by rw [h.dn];exact hs),by rw [C7 hc,h.dn],Ed h.op ho,?_⟩
 have:=h.sz
 rw [UN,Yk,Yk];omega
theorem CL.app (h:CL ds nf m xs d z) {ys:List Z4} {d2 z2:Nat} (h2:CL ds nf (m+d) ys d2 z2):CL ds nf m (xs++ys) (d+d2) (z+z2):=by
 refine ⟨Bs.2 ⟨h.fs,by rw [h.dn];exact h2.fs⟩,by rw [K5,h.dn,h2.dn],Ec.2 ⟨h.op,h2.op⟩,?_⟩
 have:=h.sz
 have:=h2.sz
 rw [UN];omega
end
structure KB (ds:List Zf) (nf m:Nat) (b:Z5) (z:Nat):Prop where
 fb:fB ds nf m b
 op:V2 Vc b
 sz:b.sz<=z
section
variable {ds:List Zf} {nf m d z:Nat} {xs:List Z4}
theorem CL.block (h:CL ds nf m xs d z) {r:Int} (hr:0<=r/\r<((m+d:Nat):Int)):KB ds nf m ⟨xs,r⟩ (1+z):=by
 refine ⟨by rw [fB,h.dn];exact ⟨h.fs,hr⟩,by rw [V2];exact h.op,?_⟩
 have:=h.sz
 rw [Z5.sz];omega
theorem KB.le {b:Z5} (h:KB ds nf m b z) {z2:Nat} (hz:z<=z2):KB ds nf m b z2:=⟨h.fb,h.op,V3 h.sz hz⟩
theorem KB.cl {b:Z5} (h:KB ds nf m b z):CL ds nf m b.steps (YN b.steps) (z-1)/\0<=b.result/\b.result<((m+YN b.steps:Nat):Int):=by
 obtain ⟨h1,h2⟩:=(Cc b).1 h.fb
 refine ⟨⟨h1,rfl,(Eb b).1 h.op,?_⟩,h2⟩
 have:=h.sz
 have:=b.sz_eq
 omega
theorem KB.put {b:Z5} (h:KB ds nf m b z) {as1 bs:List Int} (ha:∀v∈as1,0<=v/\v<(m:Int)) (hb:∀v∈bs,0<=v/\v<(m:Int)):KB ds nf m ⟨as1.map (Zi 14)++bs.map (Zi 15)++b.steps,b.result⟩ (z+2*as1.length+2*bs.length):=by
 obtain ⟨h1,h2⟩:=h.cl
 have q1:CL ds nf m ([]++as1.map (Zi 14)) 0 (0+2*as1.length):=CL.nil.cnts (.inl rfl) ha
 have q2:=(q1.cnts (op:=15) (.inr rfl) hb).app h1
 have:=h.sz
 have:=b.sz_eq
 rw [Kl,WQ] at q2
 exact (q2.block h2).le om
end
structure KK (ds:List Zf) (nf:Nat) (sc:Nat->Nat) (ks:List Z5) (z:Nat):Prop where
 fb:T7 ds nf sc 0 ks
 op:Q1 Vc ks
 sz:YW ks<=z
section
variable {ds:List Zf} {nf m z:Nat} {sc:Nat->Nat}
theorem KK.nil:KK ds nf sc [] 0:=⟨True.intro,True.intro,Xa _⟩
theorem KK.snoc {ks:List Z5} {b:Z5} {j z2:Nat} (h:KK ds nf sc ks z) (hj:ks.length=j) (hb:KB ds nf (sc j) b z2):KK ds nf sc (ks++[b]) (z+z2):=by
 refine ⟨IE h.fb (by rw [hj];exact hb.fb),Mj h.op hb.op,?_⟩
 have:=h.sz
 have:=hb.sz
 rw [C1];simp only [YW];omega
theorem KK.le {ks:List Z5} (h:KK ds nf sc ks z) {z2:Nat} (hz:z<=z2):KK ds nf sc ks z2:=⟨h.fb,h.op,V3 h.sz hz⟩
theorem IF {s:Z4} {ks:List Z5} {into:Int} (h:FS ds nf m s) (h11:s.op<=11) (hl:ks.length=s.kids.length) (hi:0<=into/\into<=m) (hk:KK ds nf (Ux ds s.op s.num m) ks z):fS ds nf m ⟨s.op,s.num,into,s.args,ks⟩/\Q2 Vc ⟨s.op,s.num,into,s.args,ks⟩/\(Z4.mk s.op s.num into s.args ks).sz<=5+z:=by
 refine ⟨?_,?_,?_⟩
 ·rw [fS]
  refine ⟨h.op,h.args,fun q=>by omega,fun q=>by rw [hl];exact h.k7 q,fun q=>by rw [hl];exact h.k8 q,h.one,h.call,h.num,hi,h.alen,fun q=>?_,hk.fb⟩
  have:=h.kn q
  rw [this] at hl
  exact List.eq_nil_of_length_eq_zero hl
 ·rw [Q2];exact ⟨by show s.op<=15;omega,hk.op⟩
 ·have:=h.alen
  have:=hk.sz
  rw [Z4.sz];omega
end
structure KT (ds:List Zf) (nf m:Nat) (st:Z4) (z:Nat):Prop where
 fs:fS ds nf m st
 cb:Ym st.op=false
 op:Q2 Vc st
 sz:st.sz<=z
theorem KT.of {ds:List Zf} {nf m z:Nat} {s:Z4} {ks:List Z5} {into:Int} (h:FS ds nf m s) (h11:s.op<=11) (hl:ks.length=s.kids.length) (hi:0<=into/\into<=m) (hk:KK ds nf (Ux ds s.op s.num m) ks z):KT ds nf m ⟨s.op,s.num,into,s.args,ks⟩ (5+z):=by
 obtain ⟨h1,h2,h3⟩:=IF h h11 hl hi hk
 exact ⟨h1,by show Ym s.op=false;simp [Ym];omega,h2,h3⟩
theorem CL.kt {ds:List Zf} {nf m d z z2:Nat} {xs:List Z4} {st:Z4} (h:CL ds nf m xs d z) (hs:KT ds nf (m+d) st z2):CL ds nf m (xs++[st]) (d+1) (z+z2):=(h.one hs.fs hs.cb hs.op).le (by have:=hs.sz;omega)
theorem FS.few {ds:List Zf} {nf m:Nat} {s:Z4} (h:FS ds nf m s) (hd:Wd ds):s.kids.length<=3:=by
 by_cases h7:s.op=7
 ·have:=h.k7 h7;omega
 ·by_cases h8:s.op=8
  ·have:=h.k8 h8
   have:=GH hd s.num
   omega
  ·rw [h.kn ⟨h7,h8⟩];simp
theorem RF.lend {ds:List Zf} {nf q:Nat} {p:Int->Prop} {r:Yj} {l:List Int} (h:RF ds nf q p r) (h1:l.length<=3) (h2:∀v∈l,0<=v/\v<(r.params.length:Int)):RF ds nf q p ⟨r.params,l,r.result,r.body⟩:=⟨h.sig,⟨h1,h2⟩,h.body,h.op⟩
theorem RF.with {ds:List Zf} {nf q q2:Nat} {p p2:Int->Prop} {r:Yj} {b:Z5} (h:RF ds nf q p r) (h1:fB ds nf r.params.length b) (h2:b.sz<=q2) (h3:V2 p2 b):RF ds nf q2 p2 ⟨r.params,r.lent,r.result,b⟩:=⟨h.sig,h.lent,⟨h1,h2⟩,h3⟩
theorem Z5.eta (b:Z5):Z5.mk b.steps b.result=b:=by cases b;rfl
theorem LC.at {n:Zx} {k:Nat} {xs:List (List Int)} {i:Nat} {l:List Int} {r:Yj} (h:LC n k xs) (hl:xs[i]? = some l) (hr:n.routines[i]? = some r):l.length<=3/\∀v∈l,0<=v/\v<(r.params.length:Int):=⟨(h.ok i l hl).1,(h.ok i l hl).2 r hr⟩
theorem Fo:∀{xs:List Z4},(∀s∈xs,Q2 Wu s)->∀k,k<=xs.length->YN (xs.take k)=k
 | _,_,0,_=>rfl
 | [],_,k+1,h=>absurd h (by simp)
 | x::r,h,k+1,hk=>by
  have h1:=((CF x).1 (h x (Xg ..))).1
  have hc:Ym x.op=false:=by have:x.op<=11:=h1;simp [Ym];omega
  rw [Ba,YN,Za (by rw [hc];simp),Fo (fun s hs=>h s (XC _ hs)) k (by simpa using hk)]
  omega
theorem KB.put1 {ds:List Zf} {nf m z:Nat} {b:Z5} (h:KB ds nf m b z) {op:Int} (ho:op=14∨op=15) {as1:List Int} (ha:∀v∈as1,0<=v/\v<(m:Int)):KB ds nf m ⟨as1.map (Zi op)++b.steps,b.result⟩ (z+2*as1.length):=by
 obtain ⟨h1,h2⟩:=h.cl
 have q1:CL ds nf m ([]++as1.map (Zi op)) 0 (0+2*as1.length):=CL.nil.cnts ho ha
 have q2:=q1.app h1
 have:=h.sz
 have:=b.sz_eq
 rw [Kl,WQ] at q2
 exact (q2.block h2).le om
theorem FO.fin {n:Zx} {rs:List Yj} {q q2:Nat} {p:Int->Prop} (h:FN n q2) (e:rs.length=n.routines.length) (hr:∀r∈rs,RF n.decls n.routines.length q p r):FO ⟨n.decls,rs⟩ q p/\rs.length=n.routines.length:=
 ⟨FO.all h.decls (by show 1<=rs.length/\rs.length<=4;rw [e];exact h.len) (by show ∀r∈rs,RF n.decls rs.length q p r;rw [e];exact hr),e⟩
theorem KT.le {ds:List Zf} {nf m z z2:Nat} {st:Z4} (h:KT ds nf m st z) (hz:z<=z2):KT ds nf m st z2:=⟨h.fs,h.cb,h.op,V3 h.sz hz⟩
theorem KB.len {ds:List Zf} {nf m z:Nat} {b:Z5} (h:KB ds nf m b z):b.steps.length<=z:=by
 have:=h.sz
 have:=b.sz_eq
 have:=Kf b.steps
 omega
def Vj:List Z4->Int->Nat
 | [],_=>0
 | s::r,v=>(if gI s.args 0=v then 1 else 0)+Vj r v
def Va (rn:List Z4):List Int->Nat
 | []=>0
 | v::r=>Vj rn v+Va rn r
theorem Fe:∀(xs ys:List Z4) (v:Int),Vj (xs++ys) v=Vj xs v+Vj ys v
 | [],ys,v=>by simp [Vj]
 | x::r,ys,v=>by rw [Tk,Vj,Vj,Fe r];omega
theorem Pb {xs:List Z4} {k:Nat} {s:Z4} (h:xs[k]? = some s) (v:Int):Vj (xs.take (k+1)) v=Vj (xs.take k) v+(if gI s.args 0=v then 1 else 0):=by
 rw [WS h,Fe,Vj,Vj];omega
theorem Id:∀(xs:List Z4) (v:Int),Vj xs v<=xs.length
 | [],v=>Xa _
 | x::r,v=>by have:=Id r v;rw [Vj,YQ];split<;>omega
theorem Pc (xs:List Z4) (k:Nat) (v:Int):Vj (xs.take k) v<=Vj xs v:=by
 have h:=Yw (Vj · v) (UC k xs)
 simp only [Fe] at h;omega
theorem Hn (rn:List Z4):∀xs ys:List Int,Va rn (xs++ys)=Va rn xs+Va rn ys
 | [],ys=>by simp [Va]
 | x::r,ys=>by rw [Tk,Va,Va,Hn rn r];omega
theorem Z6t {rn:List Z4} {xs:List Int} {k:Nat} {v:Int} (h:xs[k]? = some v):Va rn (xs.take (k+1))=Va rn (xs.take k)+Vj rn v:=by
 rw [WS h,Hn,Va,Va];rfl
theorem NQ (s:Z4) (r:List Z4):∀vs:List Int,At vs->Va (s::r) vs<=1+Va r vs/\(¬gI s.args 0∈vs->Va (s::r) vs=Va r vs)
 | [],_=>by simp [Va]
 | v::vs,h=>by
  obtain ⟨h1,h2⟩:=WT.1 h
  obtain ⟨q1,q2⟩:=NQ s r vs h2
  rw [Va,Va,Vj]
  by_cases e:gI s.args 0=v
  ·have hn:¬gI s.args 0∈vs:=fun z=>by have:=h1 _ z;omega
   rw [Zj e,q2 hn]
   exact ⟨by omega,fun z=>absurd (YP.2 (.inl e)) z⟩
  ·rw [Za e]
   exact ⟨by omega,fun z=>by rw [q2 fun y=>z (XC _ y)];omega⟩
theorem NR:∀(rn:List Z4) {vs:List Int},At vs->Va rn vs<=rn.length
 | [],vs,_=>by
  have:∀xs:List Int,Va [] xs=0:=fun xs=>by
   induction xs with
   | nil=>rfl
   | cons x r ih=>rw [Va,ih];rfl
  rw [this];exact Qr _
 | s::r,vs,h=>by
  have h1:=(NQ s r vs h).1
  have h2:=NR r h
  rw [YQ];omega
theorem Ho (rn:List Z4) (xs:List Int) (k:Nat):Va rn (xs.take k)<=Va rn xs:=by
 have h:=Yw (Va rn) (UC k xs)
 rw [Hn] at h;omega
def Au (m:Nat) (rn:List Z4):Prop:=∀s∈rn,∃a,s.args=[a]/\0<=a/\a<(m:Int)
theorem Au.mono {m q:Nat} {rn:List Z4} (h:Au m rn) (hm:m<=q):Au q rn:=fun s hs=>by
 obtain ⟨a,h1,h2⟩:=h s hs
 exact ⟨a,h1,by omega⟩
theorem Au.one {m k:Nat} {rn:List Z4} (h:Au m rn) {s:Z4} {a:Int} (hs:rn[k]? = some s) (ha:s.args[0]? = some a):s.args=[a]/\0<=a/\a<(m:Int):=by
 obtain ⟨b,h1,h2⟩:=h s (Y7 hs)
 rw [h1] at ha
 cases ha
 exact ⟨h1,h2⟩
theorem Iq {xs:List Z4} {k:Nat} {s:Z4} (h:xs[k]? = some s):YN (xs.take (k+1))=YN (xs.take k)+(if Ym s.op=true then 0 else 1):=by rw [WS h,K5,YN,YN];rfl
theorem KT.eq {ds:List Zf} {nf m z:Nat} {s:Z4} {ks:List Z5} (h:FS ds nf m s) (h11:s.op<=11) (hl:ks.length=s.kids.length) (hk:KK ds nf (Ux ds s.op s.num m) ks z):KT ds nf m ⟨s.op,s.num,s.into,s.args,ks⟩ (1+s.args.length+z):=by
 obtain ⟨h1,h2,h3⟩:=IF h h11 hl h.into hk
 refine ⟨h1,by show Ym s.op=false;simp [Ym];omega,h2,?_⟩
 have:=hk.sz
 rw [Z4.sz];omega
theorem FS.pair {ds:List Zf} {nf m:Nat} {s:Z4} (h:FS ds nf m s) (hp:s.op=14∨s.op=15):(∃a,s.args=[a]/\0<=a/\a<(m:Int))/\s.sz=2/\Ym s.op=true:=by
 obtain ⟨h1,h2,h3,a,h4⟩:=h.cnt om
 have h5:=h.args a (by rw [h4];exact XN.2 rfl)
 refine ⟨⟨a,h4,h5⟩,?_,Ik hp⟩
 rw [s.sz_eq,h3,h4];rfl
theorem FS.not_pair {ds:List Zf} {nf m:Nat} {s:Z4} (h:FS ds nf m s) (hp:¬(s.op=14∨s.op=15)) (h15:Vc s.op):s.op<=11/\Ym s.op=false:=by
 have h1:s.op<=15:=h15
 have h2:=h.op
 exact ⟨by omega,by simp [Ym];omega⟩
theorem CL.run {ds:List Zf} {nf m d z:Nat} {xs:List Z4} {D R:List Int} {rn:List Z4} (h:CL ds nf m xs d z) (hr:Au (m+d) rn) (hD:∀v∈D,∃s∈rn,s.args=[v]) (hR:∀v∈R,∃s∈rn,s.args=[v]):CL ds nf m (xs++(D.map (Zi 14)++R.map (Zi 15))) d (z+2*(D.length+R.length)):=by
 have key:∀(A:List Int),(∀v∈A,∃s∈rn,s.args=[v])->∀v∈A,0<=v/\v<((m+d:Nat):Int):=fun A hA v hv=>by
  obtain ⟨s,hs,e⟩:=hA v hv
  obtain ⟨a,e2,e3⟩:=hr s hs
  rw [e] at e2
  cases e2
  exact e3
 have h2:=(h.cnts (op:=14) (.inl rfl) (key D hD)).cnts (op:=15) (.inr rfl) (key R hR)
 rw [<-TO]
 exact h2.le om
def Wc (xs:List Z4) (i:Nat) (s:Z4):List Z4:=xs.take i++[s]++xs.drop i
theorem CK {xs:List Z4} (i:Nat) (s:Z4):Yk (Wc xs i s)=Yk xs+s.sz:=by
 have h:=Yw Yk (UC i xs)
 rw [UN] at h
 rw [Wc,UN,UN,Yk,Yk];omega
theorem MC {xs:List Z4} {i:Nat} {s:Z4} (h:i<=xs.length):(Wc xs i s).length=xs.length+1:=by
 simp [Wc,Vs h];omega
def Co (b:Z5) (i j:Nat) (v:Int):Z5:=⟨Wc (Wc b.steps j (Zi 15 v)) i (Zi 14 v),b.result⟩
def withR (n:Zx) (f:Nat) (rt:Yj) (b:Z5):Zx:=⟨n.decls,n.routines.set f ⟨rt.params,rt.lent,rt.result,b⟩⟩
def ER (n n2:Zx):Prop:=n2=n∨∃f rt i j v,n.routines[f]? = some rt/\i<=j/\j<=rt.body.steps.length/\0<=v/\v<((rt.params.length+YN (rt.body.steps.take i):Nat):Int)/\n2=withR n f rt (Co rt.body i j v)
theorem CL.put {ds:List Zf} {nf m:Nat} {xs:List Z4} {d z:Nat} (h:CL ds nf m xs d z) {i:Nat} {op v:Int} (ho:op=14∨op=15) (hv:0<=v/\v<((m+YN (xs.take i):Nat):Int)):CL ds nf m (Wc xs i (Zi op v)) d (z+2):=by
 have hs:=h.fs
 have hp:=h.op
 have e:=UC i xs
 rw [<-e] at hs hp
 rw [Bs] at hs
 rw [Ec] at hp
 have h1:CL ds nf m (xs.take i) (YN (xs.take i)) (Yk (xs.take i)):=⟨hs.1,rfl,hp.1,Xa _⟩
 have h2:CL ds nf (m+YN (xs.take i)) (xs.drop i) (YN (xs.drop i)) (Yk (xs.drop i)):=⟨hs.2,rfl,hp.2,Xa _⟩
 have h3:=(h1.cnt ho hv).app h2
 have e1:=Yw Yk e
 have e2:=Yw YN e
 rw [UN] at e1
 rw [K5,h.dn] at e2
 have:=h.sz
 rw [e2] at h3
 exact h3.le om
theorem Z3b {xs:List Z4} {i j:Nat} {s:Z4} (h:i<=j) (hj:j<=xs.length):(Wc xs j s).take i=xs.take i:=by
 rw [Wc,TO,List.take_append_of_le_length (by rw [Wp];omega),List.take_take,Vs h]
theorem ST {ds:List Zf} {nf m z:Nat} {b:Z5} (h:KB ds nf m b z) {i j:Nat} {v:Int} (hij:i<=j) (hj:j<=b.steps.length) (hv:0<=v/\v<((m+YN (b.steps.take i):Nat):Int)):KB ds nf m (Co b i j v) (z+4):=by
 obtain ⟨h1,h2⟩:=h.cl
 have hm:YN (b.steps.take i)<=YN (b.steps.take j):=by
  have e:=Yw YN (UC i (b.steps.take j))
  rw [K5,List.take_take,Vs hij] at e;omega
 have h3:=(h1.put (i:=j) (op:=15) (v:=v) (.inr rfl) om).put (i:=i) (op:=14) (v:=v) (.inl rfl) (by rw [Z3b hij hj];exact hv)
 have:=h.sz
 have:=b.sz_eq
 exact (h3.block h2).le om
theorem FO.held {n n2:Zx} {q:Nat} (h:FO n q Vc) (hh:ER n n2):FO n2 (q+4) Vc:=by
 rcases hh with rfl|⟨f,rt,i,j,v,h1,h2,h3,h4,h5,rfl⟩
 ·exact ⟨⟨h.fn.decls,h.fn.len,h.fn.sigs,h.fn.lent,fun r hr=>⟨(h.fn.body r hr).1,by have:=(h.fn.body r hr).2;omega⟩⟩,h.op⟩
 ·have hr:=h.rf (Y7 h1)
  have hk:KB n.decls n.routines.length rt.params.length (Co rt.body i j v) (q+4):=ST ⟨hr.body.1,hr.op,hr.body.2⟩ h2 h3 ⟨h4,h5⟩
  refine FO.all h.fn.decls (by show 1<=(n.routines.set _ _).length/\(n.routines.set _ _).length<=4;rw [UQ];exact h.fn.len) fun r hm=>?_
  show RF n.decls (n.routines.set _ _).length _ _ r
  rw [UQ]
  rcases List.mem_or_eq_of_mem_set hm with hm|rfl
  ·have hq:=h.rf hm
   exact ⟨hq.sig,hq.lent,⟨hq.body.1,by have:=hq.body.2;omega⟩,hq.op⟩
  ·exact ⟨hr.sig,hr.lent,⟨hk.fb,hk.sz⟩,hk.op⟩
structure Wl (ds:List Zf) (b:Z5):Prop where
 w:wB ds b
 nr:Q0 b
 rng:b.rng
structure T3 (ds:List Zf) (s:Z4):Prop where
 w:wS ds s
 nr:AX s
 rng:s.rng
section
variable {ds:List Zf}
theorem TJ:∀{xs:List Z4},Uj xs↔∀s∈xs,s.rng
 | []=>by simp [Uj]
 | s::r=>by rw [Uj,TJ];simp
theorem JS:∀{xs:List Z5},TA xs↔∀s∈xs,s.rng
 | []=>by simp [TA]
 | s::r=>by rw [TA,JS];simp
theorem Wl.iff {b:Z5}:Wl ds b↔∀s∈b.steps,T3 ds s:=by
 constructor
 ·intro h s hs
  have h3:=h.rng
  rw [Z5.rng_eq] at h3
  exact ⟨Jy.1 ((K0 b).1 h.w) s hs,CD.1 ((CC b).1 h.nr) s hs,TJ.1 h3 s hs⟩
 ·intro h
  exact ⟨(K0 b).2 (Jy.2 fun s hs=>(h s hs).w),(CC b).2 (CD.2 fun s hs=>(h s hs).nr),by rw [Z5.rng_eq];exact TJ.2 fun s hs=>(h s hs).rng⟩
theorem T3.kid {s:Z4} {b:Z5} (h:T3 ds s) (hb:b∈s.kids):Wl ds b:=by
 have h3:=h.rng
 rw [Z4.rng_eq] at h3
 exact ⟨EF.1 ((Ki s).1 h.w).2.2.2 b hb,Ea.1 ((BG s).1 h.nr).2 b hb,JS.1 h3.2 b hb⟩
theorem T3.kids {s:Z4} {ks:List Z5} (h:T3 ds s) (hl:ks.length=s.kids.length) (hk:∀b∈ks,Wl ds b):T3 ds ⟨s.op,s.num,s.into,s.args,ks⟩:=by
 obtain ⟨h1,h2,h3,h4⟩:=(Ki s).1 h.w
 have h5:=h.rng
 rw [Z4.rng_eq] at h5
 refine ⟨(Ki _).2 ⟨h1,fun hc=>?_,fun h8=>⟨(h3 h8).1,hl.trans (h3 h8).2⟩,EF.2 fun b hb=>(hk b hb).w⟩,(BG _).2 ⟨((BG s).1 h.nr).1,Ea.2 fun b hb=>(hk b hb).nr⟩,by rw [Z4.rng_eq];exact ⟨h5.1,JS.2 fun b hb=>(hk b hb).rng⟩⟩
 obtain ⟨q1,q2,q3,q4⟩:=h2 hc
 exact ⟨q1,q2,List.eq_nil_of_length_eq_zero (show ks.length=0 by rw [hl,q3];rfl),q4⟩
theorem T3.cnt {op v:Int} (h:op=14∨op=15∨op=16):T3 ds (Zi op v):=⟨Z7m h,(BG _).2 ⟨by show op≠17;omega,True.intro⟩,by rw [Z4.rng_eq];exact ⟨⟨by show (-9223372036854775808:Int)<=0;decide,by show (0:Int)<=_;decide⟩,True.intro⟩⟩
theorem Wl.open {b:Z5} {x q:Int} {fs:List Int} (h:Wl ds b):Wl ds (K3 b x fs q):=by
 rw [Wl.iff] at h ⊢
 intro s hs
 have hs:s∈JO b.steps x fs q:=hs
 rw [JO] at hs
 split at hs
 ·simp only [Xe,W4,XN] at hs
  rcases hs with ((⟨a,_,rfl⟩|rfl)|⟨a,_,rfl⟩)|hs
  ·exact T3.cnt om
  ·exact T3.cnt om
  ·exact T3.cnt om
  ·exact h s (List.mem_of_mem_drop hs)
 ·exact h s hs
theorem Nd {m:Nat} {op num:Int} {args:List Int}:∀{bs:List Z5} {k:Nat},(Ti ds m op num args bs k).length=bs.length
 | [],_=>rfl
 | b::r,k=>by rw [Ti,YQ,YQ,Nd (bs:=r)]
mutual
theorem T3.sp:∀(s:Z4) {m:Nat},T3 ds s->T3 ds (AZ ds m s)
 | .mk op num into args kids,m,h=>by
  rw [AZ]
  exact h.kids Nd (Wls.sp kids fun b hb=>h.kid hb)
theorem Wls.sp:∀(bs:List Z5) {m:Nat} {op num:Int} {args:List Int} {k:Nat},(∀b∈bs,Wl ds b)->∀b∈Ti ds m op num args bs k,Wl ds b
 | [],_,_,_,_,_,_,b,hb=>by cases hb
 | c::r,m,op,num,args,k,h,b,hb=>by
  rw [Ti] at hb
  rcases YP.1 hb with rfl|hb
  ·split
   ·exact (Wl.sp c (h c (Xg ..))).open
   ·exact Wl.sp c (h c (Xg ..))
  ·exact Wls.sp r (fun x hx=>h x (XC _ hx)) b hb
theorem WlSs.sp:∀(xs:List Z4) {m:Nat},(∀s∈xs,T3 ds s)->∀s∈Uy ds m xs,T3 ds s
 | [],_,_,s,hs=>by cases hs
 | c::r,m,h,s,hs=>by
  rw [Uy] at hs
  rcases YP.1 hs with rfl|hs
  ·exact T3.sp c (h c (Xg ..))
  ·exact WlSs.sp r (fun x hx=>h x (XC _ hx)) s hs
theorem Wl.sp:∀(b:Z5) {m:Nat},Wl ds b->Wl ds (WG ds m b)
 | .mk steps result,m,h=>by
  rw [WG,Wl.iff]
  exact WlSs.sp steps (Wl.iff.1 h)
end
theorem Z3n {b:Z5} {x:Int} {many:Nat} (h:b.rng):(V9 b x many).rng:=by
 rw [Z5.rng_eq] at h
 rw [V9,Z5.rng_eq]
 show Uj (VU b.steps x many)
 rw [VU]
 split
 ·exact h
 ·rename_i hq
  obtain ⟨_,_,t,h5,h7,h6⟩:=JT (fun z=>hq (.inr z))
  rw [TJ] at h ⊢
  intro s hs
  rcases List.mem_or_eq_of_mem_set hs with hs|rfl
  ·rcases List.mem_or_eq_of_mem_set hs with hs|rfl
   ·exact h s hs
   ·rw [Z4.rng_eq];exact ⟨⟨by show (-9223372036854775808:Int)<=0;decide,by show (0:Int)<=_;decide⟩,True.intro⟩
  ·have:=h t (Y7 h5)
   rw [h6,TF,Z4.rng_eq]
   rw [Z4.rng_eq] at this
   exact this
mutual
theorem Z3o:∀(s:Z4) {K:List Int},s.rng->(Q3 ds K s).rng
 | .mk op num into args kids,K,h=>by
  rw [Z4.rng] at h
  rw [Q3,Z4.rng]
  exact ⟨h.1,MM kids h.2⟩
theorem MM:∀(bs:List Z5) {K:List Int} {op num:Int} {args:List Int} {k:Nat},TA bs->TA (Uh ds K op num args bs k)
 | [],_,_,_,_,_,_=>True.intro
 | b::r,K,op,num,args,k,h=>by
  rw [Uh,TA]
  refine ⟨?_,MM r h.2⟩
  split
  ·exact Z3n (GV b h.1)
  ·exact GV b h.1
theorem MN:∀(xs:List Z4) {K:List Int},Uj xs->Uj (Ui ds K xs)
 | [],_,_=>True.intro
 | s::r,K,h=>⟨Z3o s h.1,MN r h.2⟩
theorem GV:∀(b:Z5) {K:List Int},b.rng->(Wt ds K b).rng
 | .mk steps result,K,h=>by
  rw [Z5.rng] at h
  rw [Wt,Z5.rng]
  exact MN steps h
end
end
mutual
theorem Z2i:∀s:Z4,Q2 Vc s->AX s
 | .mk op num into args kids,h=>by
  rw [Q2] at h
  rw [AX]
  exact ⟨by have:op<=15:=h.1;omega,M8 kids h.2⟩
theorem M8:∀bs:List Z5,Q1 Vc bs->A8 bs
 | [],_=>True.intro
 | b::r,h=>⟨M7 b h.1,M8 r h.2⟩
theorem M9:∀bs:List Z4,Tf Vc bs->A9 bs
 | [],_=>True.intro
 | b::r,h=>⟨Z2i b h.1,M9 r h.2⟩
theorem M7:∀b:Z5,V2 Vc b->Q0 b
 | .mk steps result,h=>by
  rw [V2] at h
  rw [Q0]
  exact M9 steps h
end
structure ZR (q:Nat) (r:Yj):Prop where
 params:r.params.length<=3
 lent:r.lent.length<=10
 body:r.body.sz<=q
 rng:r.body.rng
structure ZN (n:Zx) (q:Nat):Prop where
 decls:AD n.decls
 len:1<=n.routines.length/\n.routines.length<=4
 rt:∀r∈n.routines,ZR q r
theorem ZR.le {q q2:Nat} {r:Yj} (h:ZR q r) (hq:q<=q2):ZR q2 r:=⟨h.params,h.lent,V3 h.body hq,h.rng⟩
theorem ZN.le {n:Zx} {q q2:Nat} (h:ZN n q) (hq:q<=q2):ZN n q2:=⟨h.decls,h.len,fun r hr=>(h.rt r hr).le hq⟩
theorem ZN.sz {n:Zx} {q:Nat} (h:ZN n q) (hq:q<=10000000):Qw n:=
 ⟨⟨by have:=h.decls.1;omega,fun d hd=>by have:=(h.decls.2 d hd).1;omega,fun d hd c hc=>by have:=(h.decls.2 d hd).2 c hc;omega⟩,by have:=h.len;omega,fun r hr=>by have:=(h.rt r hr).params;omega,fun r hr=>by have:=(h.rt r hr).lent;omega,fun r hr=>by have:=(h.rt r hr).body;omega⟩
theorem FO.wl {n:Zx} {q:Nat} (h:FO n q Vc) (hq:q<=100000000):∀r∈n.routines,Wl n.decls r.body:=fun r hr=>by
 have h1:=h.rf hr
 have h2:r.params.length<=3:=(UR.bd (f:=⟨r.params,r.result,default⟩) h1.sig).1
 exact ⟨O6 r.body h1.body.1 (by have:=h1.body.2;omega) h.fn.decls.ok,M7 r.body h1.op,GT r.body h1.body.1⟩
theorem FO.zn {n:Zx} {q:Nat} {p:Int->Prop} (h:FO n q p):ZN n q:=
 ⟨h.fn.decls.ad,h.fn.len,fun r hr=>⟨(UR.bd (f:=⟨r.params,r.result,default⟩) (h.fn.sigs r hr)).1,by have:=(h.fn.lent r hr).1;omega,(h.fn.body r hr).2,GT r.body (h.fn.body r hr).1⟩⟩
structure WN (n:Zx) (q:Nat):Prop where
 ok:Xf n
 zn:ZN n q
 wl:∀r∈n.routines,Wl n.decls r.body
theorem FO.wn {n:Zx} {q:Nat} (h:FO n q Vc) (hq:q<=100000000):WN n q:=⟨h.fn.ok,h.zn,h.wl hq⟩
theorem WN.sp {n:Zx} {q:Nat} (h:WN n q):WN (Ew n) (9*q):=by
 refine ⟨⟨h.ok.decls,by show (n.routines.map _).length<=4;rw [Aq];exact h.ok.len,fun r hr=>?_,fun r hr=>?_⟩,⟨h.zn.decls,by show 1<=(n.routines.map _).length/\(n.routines.map _).length<=4;rw [Aq];exact h.zn.len,fun r hr=>?_⟩,fun r hr=>?_⟩
 ·obtain ⟨s,hs,rfl⟩:=W4.1 hr;exact h.ok.params s hs
 ·obtain ⟨s,hs,rfl⟩:=W4.1 hr;exact h.ok.lent s hs
 ·obtain ⟨s,hs,rfl⟩:=W4.1 hr
  have hz:=h.zn.rt s hs
  refine ⟨hz.params,hz.lent,?_,(Wl.sp s.body (h.wl s hs)).rng⟩
  have h1:=Eu h.ok.decls s.body (m:=s.params.length) (h.wl s hs).w
  have h2:=s.body.pz_le
  have h3:=hz.body
  show (WG n.decls s.params.length s.body).sz<=9*q
  omega
 ·obtain ⟨s,hs,rfl⟩:=W4.1 hr;exact Wl.sp s.body (h.wl s hs)
theorem WN.ru {n:Zx} {q:Nat} (h:WN n q):ZN (Ei n) q:=by
 refine ⟨h.zn.decls,by show 1<=(n.routines.map _).length/\(n.routines.map _).length<=4;rw [Aq];exact h.zn.len,fun r hr=>?_⟩
 obtain ⟨s,hs,rfl⟩:=W4.1 hr
 have hz:=h.zn.rt s hs
 refine ⟨hz.params,hz.lent,?_,GV s.body (h.wl s hs).rng⟩
 have h1:=GY s.body (K:=[]) (h.wl s hs).w
 have h3:=hz.body
 show (Wt n.decls [] s.body).sz<=q
 omega
theorem GO {xs:List Z4} {i:Nat} {s t:Z4} (h:t∈Wc xs i s):t∈xs∨t=s:=by
 rw [Wc] at h
 simp only [Xe,XN] at h
 rcases h with (h|h)|h
 ·exact .inl (TP h)
 ·exact .inr h
 ·exact .inl (List.mem_of_mem_drop h)
theorem GU {op v:Int}:(Zi op v).rng:=by rw [Z4.rng_eq];exact ⟨⟨by show (-9223372036854775808:Int)<=0;decide,by show (0:Int)<=_;decide⟩,True.intro⟩
theorem ZN.withR {n:Zx} {q q2:Nat} {f:Nat} {rt:Yj} {b:Z5} (h:ZN n q) (hr:n.routines[f]? = some rt) (hq:q<=q2) (hb:b.sz<=q2) (hg:b.rng):ZN (withR n f rt b) q2:=by
 refine ⟨h.decls,by show 1<=(n.routines.set _ _).length/\(n.routines.set _ _).length<=4;rw [UQ];exact h.len,fun r hm=>?_⟩
 rcases List.mem_or_eq_of_mem_set hm with hm|rfl
 ·exact (h.rt r hm).le hq
 ·have:=h.rt rt (Y7 hr)
  exact ⟨this.params,this.lent,hb,hg⟩
theorem ZN.held {n n2:Zx} {q:Nat} (h:ZN n q) (hh:ER n n2):ZN n2 (q+4):=by
 rcases hh with rfl|⟨f,rt,i,j,v,h1,h2,h3,h4,h5,rfl⟩
 ·exact h.le om
 ·have hz:=h.rt rt (Y7 h1)
  refine h.withR h1 om ?_ ?_
  ·rw [Co,Z5.sz,CK,CK]
   have e1:(Zi 14 v).sz=2:=rfl
   have e2:(Zi 15 v).sz=2:=rfl
   have:=hz.body
   have:=rt.body.sz_eq
   omega
  ·have hg:=hz.rng
   rw [Z5.rng_eq,TJ] at hg
   rw [Co,Z5.rng_eq,TJ]
   intro s hs
   rcases GO hs with hs|rfl
   ·rcases GO hs with hs|rfl
    ·exact hg s hs
    ·exact GU
   ·exact GU
theorem FO.le {n:Zx} {q q2:Nat} {p:Int->Prop} (h:FO n q p) (hq:q<=q2):FO n q2 p:=⟨⟨h.fn.decls,h.fn.len,h.fn.sigs,h.fn.lent,fun r hr=>⟨(h.fn.body r hr).1,V3 (h.fn.body r hr).2 hq⟩⟩,h.op⟩
def VC (s y:Z4):Prop:=y.sz<=s.sz+1/\y.rng
theorem VC.refl {s:Z4} (hg:s.rng):VC s s:=⟨Nat.le_succ _,hg⟩
theorem VC.of {s:Z4} {op num into:Int} {args:List Int} {kids:List Z5} (hg:s.rng) (hn:num=s.num∨num∈([0,1,2,3,-1,1000]:List Int)) (ha:args.length<=s.args.length+1) (hk:kids=s.kids∨kids=s.kids.drop 1):VC s ⟨op,num,into,args,kids⟩:=by
 rw [Z4.rng_eq] at hg
 have hs:=s.sz_eq
 have hb:YW kids<=YW s.kids:=by
  rcases hk with rfl|rfl
  ·exact Xa _
  ·have h:=Yw YW (UC 1 s.kids)
   rw [C1] at h;omega
 refine ⟨by rw [Z4.sz];omega,?_⟩
 rw [Z4.rng]
 refine ⟨?_,JS.2 fun b hbk=>JS.1 hg.2 b ?_⟩
 ·rcases hn with rfl|hn
  ·exact hg.1
  ·have:=(by decide:∀z∈([0,1,2,3,-1,1000]:List Int),-9223372036854775808<=z/\z<=9223372036854775807) num hn
   exact this
 ·rcases hk with rfl|rfl
  ·exact hbk
  ·exact List.mem_of_mem_drop hbk
def Xs (b y:Z5):Prop:=y.sz<=b.sz+2/\y.rng
theorem Xs.result {b:Z5} (hg:b.rng) (z:Int):Xs b ⟨b.steps,z⟩:=⟨by rw [Z5.sz,b.sz_eq];omega,by rw [Z5.rng_eq] at hg;rw [Z5.rng];exact hg⟩
theorem Xs.put {b:Z5} (hg:b.rng) {i:Nat} {op v:Int}:Xs b ⟨Wc b.steps i (Zi op v),b.result⟩:=by
 rw [Z5.rng_eq,TJ] at hg
 refine ⟨?_,?_⟩
 ·rw [Z5.sz,CK,b.sz_eq]
  have e:(Zi op v).sz=2:=rfl
  omega
 ·rw [Z5.rng,TJ]
  intro s hs
  rcases GO hs with hs|rfl
  ·exact hg s hs
  ·exact GU
theorem Xs.del {b:Z5} (hg:b.rng) {k:Nat}:Xs b ⟨b.steps.take k++b.steps.drop (k+1),b.result⟩:=by
 rw [Z5.rng_eq,TJ] at hg
 have h1:=Qn b.steps k
 have h2:=Yw Yk (UC k b.steps)
 have h3:=Yw Yk (UC 1 (b.steps.drop k))
 rw [UN] at h2 h3
 rw [List.drop_drop] at h3
 refine ⟨by rw [Z5.sz,UN,b.sz_eq];omega,?_⟩
 rw [Z5.rng,TJ]
 intro s hs
 rcases Xe.1 hs with hs|hs
 ·exact hg s (TP hs)
 ·exact hg s (List.mem_of_mem_drop hs)
theorem Xs.set {b:Z5} (hg:b.rng) {k:Nat} {s t:Z4} (hs:b.steps[k]? = some s) (ht:t.sz<=s.sz+2/\t.rng):Xs b ⟨b.steps.set k t,b.result⟩:=by
 rw [Z5.rng_eq,TJ] at hg
 have h1:=Ez t hs
 refine ⟨by rw [Z5.sz,b.sz_eq];omega,?_⟩
 rw [Z5.rng,TJ]
 intro x hx
 rcases List.mem_or_eq_of_mem_set hx with hx|rfl
 ·exact hg x hx
 ·exact ht.2
theorem I7:∀{xs:List Z5} {i:Nat} {s:Z5} (t:Z5),xs[i]? = some s->YW (xs.set i t)+s.sz=YW xs+t.sz
 | [],_,_,_,h=>by simp at h
 | x::r,0,s,t,h=>by simp at h;subst h;rw [List.set_cons_zero,YW,YW];omega
 | x::r,i+1,s,t,h=>by
  have:=I7 (xs:=r) (i:=i) t (by simpa using h)
  rw [List.set_cons_succ,YW,YW];omega
theorem Xs.kid {b:Z5} (hg:b.rng) {k j:Nat} {s:Z4} {c y:Z5} (hs:b.steps[k]? = some s) (hc:s.kids[j]? = some c) (hy:Xs c y):Xs b ⟨b.steps.set k ⟨s.op,s.num,s.into,s.args,s.kids.set j y⟩,b.result⟩:=by
 refine Xs.set hg hs ?_
 have hg2:=hg
 rw [Z5.rng_eq,TJ] at hg2
 have h1:=hg2 s (Y7 hs)
 rw [Z4.rng_eq] at h1
 have h2:=I7 y hc
 have h3:=hy.1
 refine ⟨by rw [Z4.sz,s.sz_eq];omega,?_⟩
 rw [Z4.rng]
 refine ⟨h1.1,JS.2 fun x hx=>?_⟩
 rcases List.mem_or_eq_of_mem_set hx with hx|rfl
 ·exact JS.1 h1.2 x hx
 ·exact hy.2
theorem Z3m {b:Z5} (hg:b.rng) {k j:Nat} {s:Z4} {c:Z5} (hs:b.steps[k]? = some s) (hc:s.kids[j]? = some c):c.rng:=by
 rw [Z5.rng_eq,TJ] at hg
 have h1:=hg s (Y7 hs)
 rw [Z4.rng_eq] at h1
 exact JS.1 h1.2 c (Y7 hc)
theorem Z3p {b:Z5} (hg:b.rng) {k:Nat} {s:Z4} (hs:b.steps[k]? = some s):s.rng:=by
 rw [Z5.rng_eq,TJ] at hg
 exact hg s (Y7 hs)
structure ZS (n:Zx) (q l:Nat):Prop where
 decls:AD n.decls
 len:1<=n.routines.length/\n.routines.length<=4
 rt:∀r∈n.routines,r.params.length<=3/\r.lent.length<=l/\r.body.sz<=q/\r.body.rng
theorem ZN.zs {n:Zx} {q:Nat} (h:ZN n q):ZS n q 10:=⟨h.decls,h.len,fun r hr=>⟨(h.rt r hr).params,(h.rt r hr).lent,(h.rt r hr).body,(h.rt r hr).rng⟩⟩
theorem ZS.le {n:Zx} {q q2 l l2:Nat} (h:ZS n q l) (hq:q<=q2) (hl:l<=l2):ZS n q2 l2:=⟨h.decls,h.len,fun r hr=>by obtain ⟨a,b,c,d⟩:=h.rt r hr;exact ⟨a,by omega,by omega,d⟩⟩
theorem ZS.sz {n:Zx} {q l:Nat} (h:ZS n q l) (hq:q<=10000000) (hl:l<=1000):Qw n:=
 ⟨⟨by have:=h.decls.1;omega,fun d hd=>by have:=(h.decls.2 d hd).1;omega,fun d hd c hc=>by have:=(h.decls.2 d hd).2 c hc;omega⟩,by have:=h.len;omega,fun r hr=>by have:=(h.rt r hr).1;omega,fun r hr=>by have:=(h.rt r hr).2.1;omega,fun r hr=>by have:=(h.rt r hr).2.2.1;omega⟩
theorem ZS.set {n:Zx} {q l q2 l2:Nat} {f:Nat} {rt:Yj} {ls:List Int} {b:Z5} (h:ZS n q l) (hr:n.routines[f]? = some rt) (hq:q<=q2) (hl:l<=l2) (hls:ls.length<=l2) (hb:b.sz<=q2) (hg:b.rng):ZS ⟨n.decls,n.routines.set f ⟨rt.params,ls,rt.result,b⟩⟩ q2 l2:=by
 refine ⟨h.decls,by show 1<=(n.routines.set _ _).length/\(n.routines.set _ _).length<=4;rw [UQ];exact h.len,fun r hm=>?_⟩
 rcases List.mem_or_eq_of_mem_set hm with hm|rfl
 ·exact (h.le hq hl).rt r hm
 ·have:=h.rt rt (Y7 hr)
  exact ⟨this.1,hls,hb,hg⟩
theorem ZS.ds {n:Zx} {q l:Nat} {ds:List Zf} (h:ZS n q l) (hd:AD ds):ZS ⟨ds,n.routines⟩ q l:=⟨hd,h.len,h.rt⟩
def BE (g l c m kk:Nat):Value:=.slice (some ⟨g,(if c-m=0 then 0 else m*kk),none⟩) (l-m) (c-m)
def H9 (P:Program) (ops:Array Oper) (F:Fr) (k:Nat):Option (AV × Int × Nat):=
 match (ZC ops k).op with
 | .slice t x (some lo) none none=>match P.underlying t with
  | some (.slice e)=>match P.info? e with
   | some i=>match F.ev lo with
    | .val (.int _ m)=>some (F.ev x,m,i.size)
    | _=>none
   | none=>none
  | _=>none
 | _=>none
section
variable {P:Program} {n:Nat} {ops:Array Oper} {k:Nat} {F:Fr} {h h2:List Res}
theorem Z6d (j:Nat) {g l c m kk:Nat} {ls:List AV} (hi:H9 P ops F k=some (.val (.slice (some ⟨g,0,none⟩) l c),(m:Int),kk)) (hj:h[j]? = some (.row (.slice (some ⟨g,0,none⟩) l c) kk ls)) (hle:m<=l) :
  XD P (ZC ops k) F h [] (.val (BE g l c m kk)):=by
 unfold H9 at hi
 generalize hoo:ZC ops k=o at hi
 obtain ⟨dst,op,type,pos,after,guard⟩:=o
 cases op<;>simp only at hi<;>try (cases hi)
 rename_i t x lo hi' mx
 cases lo with
 | none=>simp at hi
 | some y=>
  cases hi' with
  | some _=>simp at hi
  | none=>
   cases mx with
   | some _=>simp at hi
   | none=>
    simp only at hi
    split at hi
    ·rename_i e ht
     split at hi
     ·rename_i inf hinf
      split at hi
      ·rename_i ik m' hm
       simp only [XW,Prod.mk.injEq] at hi
       obtain ⟨hx,rfl,hkk⟩:=hi
       intro n w G a hF hh
       have v1:=hF.ev x
       rw [hx] at v1
       have v1:=v1.val_inv
       have v2:=hF.ev y
       rw [hm] at v2
       have v2:=v2.val_inv
       have hcap:l<=c:=by
        rcases hh.ok _ (Y7 hj) with ⟨h0,_⟩|⟨g',l',c',cur,el,h0,_,hc,_⟩
        ·cases h0
        ·cases h0;exact hc
       refine ⟨_,.val,fun w' _ _=>?_⟩
       simp only [execOp,v1,v2,As,Option.map_none]
       refine Vg ?_
       simp only [Instr.sliceAt,Sem.run_bind,VI ht,Result.andThen_ok,Instr.slice]
       have hmm:(Instr.sliceBounds true l c (some (.int ik (m:Int))) none none).run P w'=.ok (m,l,c) w':=by
        have Yx:=BO (P:=P) (c:=BoundsCode.sliceB) (v:=.int ik (m:Int)) (y:=l) rfl om om w'
        simp [Instr.sliceBounds,Yx]
       rw [hmm]
       simp only [Result.andThen_ok,TI hinf,BE,hkk]
       by_cases h0:c-m=0
       ·have e0:c=m:=by omega
        simp [e0]
       ·have e0:¬c=m:=fun z=>h0 om
        simp [e0,h0,Addr.add]
        exact fun z=>z.symm
      ·cases hi
     ·cases hi
    ·cases hi
theorem Ly (j g l c m kk:Nat) (ls:List AV) (hle:m<=l:=by omega) (hi:H9 P ops F k=some (.val (.slice (some ⟨g,0,none⟩) l c),(m:Int),kk):=by kernel_rfl) (hj:h[j]? = some (.row (.slice (some ⟨g,0,none⟩) l c) kk ls):=by kernel_rfl) :
  XD P (ZC ops k) F h [] (.val (BE g l c m kk)):=Z6d j hi hj hle
theorem Z2y {K:Fr->List Res->Prop} {g len cap i m sz:Nat} {ls:List AV} (hd:V5 n (ZC ops k)=true) (ha:VY P ops F k=some (.val (.slice (some ⟨g,0,none⟩) i cap),.val (BE g len cap m sz),sz))
  (hone:ls.all AV.one=true) (him:i<=m) (hml:m<=len)
  (hK:K (F.put (ZC ops k).dst (.val (.slice (some ⟨g,0,none⟩) (i+(len-m)) cap))) (.row (.slice (some ⟨g,0,none⟩) (i+(len-m)) cap) sz (ls.take (i*sz)++ls.drop (m*sz))::h2)):Wj P n (ZC ops k) F (.row (.slice (some ⟨g,0,none⟩) len cap) sz ls::h2) K:=by
 unfold VY at ha
 generalize hoo:ZC ops k=o at ha hd hK
 obtain ⟨dst,op,type,pos,after,guard⟩:=o
 cases op<;>simp only at ha<;>try (cases ha)
 rename_i c
 obtain ⟨callee,args,tys⟩:=c
 simp only at ha
 split at ha
 case h_2=>cases ha
 rename_i s x t t' hargs htys
 split at ha
 case h_2=>cases ha
 rename_i e htt ht
 have:=VW htt
 subst this
 split at ha
 case h_2=>cases ha
 rename_i inf hinfo
 split at ha
 case h_2=>cases ha
 rename_i z hz
 split at ha
 case h_2=>cases ha
 rename_i hb
 simp only [W3] at hb
 simp only [XW,Prod.mk.injEq] at ha
 obtain ⟨h3,h4,hk1⟩:=ha
 have e1:args=#[s,x]:=by rw [<-VM (xs:=args),hargs]
 have e2:tys=#[t,t]:=by rw [<-VM (xs:=tys),htys]
 subst e1;subst e2
 intro Q w G a hF hh
 have v1:=hF.ev s
 have v2:=hF.ev x
 rw [h3] at v1
 rw [h4] at v2
 have v1:=v1.val_inv
 have v2:=v2.val_inv
 rcases hh.ok _ (Xg ..) with ⟨h0,_⟩|⟨g',len',cap',cur,el,h0,hrow,hlc,hcur,hll,hcells⟩
 ·cases h0
 ·cases h0
  have q5:len*sz<=cap*sz:=TQ _ hlc
  have q6:m*sz<=len*sz:=TQ _ hml
  have q7:i*sz<=m*sz:=TQ _ him
  have q8:(len-m)*sz=len*sz-m*sz:=Nat.sub_mul ..
  have q9:(i+(len-m))*sz=i*sz+(len-m)*sz:=Tx ..
  have hcl:cur.toList.length=cap*sz:=by rw [Qq,hcur]
  have h1:(cur.toList.take (len*sz)).length=len*sz:=by rw [Wp,hcl,Vs q5]
  have hnl:((cur.toList.take (len*sz)).drop (m*sz)).length=(len-m)*sz:=by rw [Ap,h1];omega
  have hr:=El (P:=P) w t type e el inf ht hinfo g i cap cur hrow ⟨g,(if cap-m=0 then 0 else m*sz),none⟩ (len-m) (cap-m) ((cur.toList.take (len*sz)).drop (m*sz)) (by rw [hk1];exact hnl)
   (fun j u hj=>by
    have hjl:=(XM.1 hj).1
    rw [hnl] at hjl
    have hne:¬cap-m=0:=fun z=>by
     have:len-m=0:=by omega
     rw [this] at hjl;omega
    rw [Za hne,Qy,cell_of_row w g _ cur el (0,0) hrow]
    rw [HF,Q8] at hj
    split at hj
    ·simpa using hj
    ·cases hj)
   (fun u hu=>hcells.one_cells hone u (List.mem_of_mem_drop hu)) om (by rw [hk1,hnl,hcur];omega)
  rw [hk1] at hr
  have hti:(cur.toList.take (i*sz)).length=i*sz:=by rw [Wp,hcl,Vs om]
  obtain ⟨j1,j2⟩:=hh.rgrow (ls':=ls.take (i*sz)++ls.drop (m*sz)) (len':=i+(len-m)) (cs':=(cur.toList.take (i*sz)++(cur.toList.take (len*sz)).drop (m*sz)++cur.toList.drop (i*sz+((cur.toList.take (len*sz)).drop (m*sz)).length)).toArray) hrow
   (by simp only [BW,Yu,hti,hnl,Ap,hcl,hcur];omega) om hcur (by rw [Yu,Wp,Ap,hll,q9,Vs om];omega) (by
    have:(cur.toList.take (i*sz)++(cur.toList.take (len*sz)).drop (m*sz)++cur.toList.drop (i*sz+((cur.toList.take (len*sz)).drop (m*sz)).length)).toArray.toList.take ((i+(len-m))*sz)=cur.toList.take (i*sz)++(cur.toList.take (len*sz)).drop (m*sz):=by
     rw [BX,q9,<-hnl]
     conv=>lhs;arg 1;rw [show i*sz+((cur.toList.take (len*sz)).drop (m*sz)).length=(cur.toList.take (i*sz)++(cur.toList.take (len*sz)).drop (m*sz)).length from by rw [Yu,hti]]
     exact KV
    rw [this]
    have ht1:=hcells.take (i*sz)
    rw [List.take_take,Vs om] at ht1
    exact ht1.append (hcells.drop (m*sz)))
  generalize hW:w.setRow g (cur.toList.take (i*sz)++(cur.toList.take (len*sz)).drop (m*sz)++cur.toList.drop (i*sz+((cur.toList.take (len*sz)).drop (m*sz)).length)).toArray=W at hr j1 j2
  have hrun:(execOp a.eval { dst:=dst,op:=.call { callee:=.builtin .append,args:=#[s,x],argTypes:=#[t,t] },type:=type,pos:=pos,after:=after,guard:=guard }).run P w=.ok (.value (.slice (some ⟨g,0,none⟩) (i+(len-m)) cap)) W:=by
   simp only [execOp,resolve,invoke,builtin,Sem.run_bind,Sem.run_pure,Result.andThen_ok,B9,Uk,B8,v1,v2,BE]
   rw [hr]
   rfl
  unfold Oper.wp
  rw [hrun]
  exact ⟨_,_,G,hK,(hF.mono (j2.agree hh)).put (U9 hd) .val,j1,j2⟩
end
section
variable {P:Program} {n:Nat} {ops:Array Oper} {B:Fr->List Res->Prop} {T:List (Nat × List Nat)} {fuel:Nat} {done:List Nat} {k:Nat} {F:Fr} {h:List Res}
theorem Im (q j:Nat) (js bs:List Nat) (g len cap i m sz:Nat) (ls:List AV) (hone:ls.all AV.one=true)
  (H:YK P n ops B (T.filter fun t=>!WD ops q t.1) fuel (done++[q]) (F.put (ZC ops q).dst (.val (.slice (some ⟨g,0,none⟩) (i+(len-m)) cap))) (.row (.slice (some ⟨g,0,none⟩) (i+(len-m)) cap) sz (ls.take (i*sz)++ls.drop (m*sz))::XF [j] h)) (him:i<=m:=by omega) (hml:m<=len:=by omega)
  (hk:X2 n ops F q=true:=by kernel_rfl) (ha:VY P ops F q=some (.val (.slice (some ⟨g,0,none⟩) i cap),.val (BE g len cap m sz),sz):=by kernel_rfl) (hp:Wa [j] h=some [.row (.slice (some ⟨g,0,none⟩) len cap) sz ls]:=by kernel_rfl) (ho:Vx ops q T=bs:=by kernel_rfl)
  (hj:js.map (fun z=>(Wo (XF [j] h))[z]?)=bs.map some:=by kernel_rfl):V4 P n ops B T fuel done F h q:=
 Qf [j] js bs hk (Vf hp) ho hj (Z2y (h2:=[]) (Vr hk).2.1 ha hone him hml H)
end
theorem Rb (xs:List Yj) (k:Nat) (d:Yj):YL (xs.set k d)=(YL xs).set k (Vi d):=by simp [YL,List.map_set]
theorem DA (xs:List Yj):(Zm (YL xs)).length=xs.length*5:=by rw [UU (k:=5) _ (Ub xs)];simp
theorem Rv {ds:List Yj} {k:Nat} (d:Yj) (hk:k<ds.length):(Zm (YL ds)).take (k*5)++(Vi d).leaves++(Zm (YL ds)).drop (k*5+5)=Zm (YL (ds.set k d)):=by
 rw [Rb];exact DD (y:=Vi d) (Ub ds) rfl (by simpa using hk)
theorem PZ (xs:List Z5) (k:Nat) (d:Z5):YH (xs.set k d)=(YH xs).set k (Zr d):=by
 simp [Up,List.map_set]
theorem Cg (xs:List Z5):(Zm (YH xs)).length=xs.length*2:=by rw [UU (k:=2) _ (T5 xs)];simp
theorem Rs {ds:List Z5} {k:Nat} (d:Z5) (hk:k<ds.length):(Zm (YH ds)).take (k*2)++(Zr d).leaves++(Zm (YH ds)).drop (k*2+2)=Zm (YH (ds.set k d)):=by
 rw [PZ];exact DD (y:=Zr d) (T5 ds) (by cases d;rfl) (by simpa using hk)
theorem Zk.frzN {P:Program} {f:FuncId} {as1:List AV} {h0:List Res} {ds:List Zf} {rs:List Yj} {hs:List Res}
  (H:Zk P f as1 h0 (fun r h=>∃g c:Nat,r=.agg [Zd ds,.ms g 0 rs.length c]/\h=.row (.slice (some ⟨g,0,none⟩) rs.length c) 5 (Zm (YL rs))::hs)) :
  Zk P f as1 h0 (fun r h=>r=.agg [Zd ds,X9 rs]/\h=hs):=by
 intro w G vs hv hh
 refine (H w G vs hv hh).mono ?_
 rintro e w' ⟨u,r,h',G',he,⟨gb,c,rfl,rfl⟩,hr,hh',hx⟩
 obtain ⟨G2,h1,h2,h3⟩:=BM hh' (Ub _) om
 have hA:Vt G' w' w' G2:=h2.agree hh'
 refine ⟨u,_,hs,G2,he,⟨rfl,rfl⟩,?_,(h1.perm (List.perm_append_comm (l₁:=[_]))).left,(hx.trans h2).sub' (Ar _ _)⟩
 cases hr with
 | agg hc=>
  cases hc with
  | cons k1 t1=>
   cases t1 with
   | cons k2 t2=>
    cases t2
    have hv2:=k2.val_inv
    subst hv2
    refine .agg (.cons (k1.mono hA) (.cons ?_ .nil))
    have hw:Zg (.sl (YL rs) (some (.slice (some ⟨gb,0,none⟩) rs.length c))) (X9 rs):=Zg.forget _ _
    exact hw _ _ _ h3
theorem RA (v:Value) (k:Nat) (ls ks:List AV) (b o:Nat):Res.fp (.row v k ks) b o=Res.fp (.vec v ls) b o:=by
 cases v with
 | slice a _ _=>cases a<;>rfl
 | _=>rfl
theorem Z7f {w:World} {G:Yb} {v:Value} {ls:List AV} {h2:List Res} (hh:YA w G (.vec v ls::h2)):YA w G (.row v 1 ls::h2)/\YU w G (.vec v ls::h2) w G (.row v 1 ls::h2):=by
 have hpw:=WT.1 hh.apart
 have hf:∀b o,Res.fp (.row v 1 ls) b o->Res.fp (.vec v ls) b o:=fun b o h=>by rw [RA v 1 ls ls] at h;exact h
 refine ⟨⟨fun r hr=>?_,WT.2 ⟨fun r hr b o f1 f2=>hpw.1 r hr b o (hf b o f1) f2,hpw.2⟩,fun r hr b o f1 hg=>?_,hh.lt⟩,⟨rfl,rfl,rfl,Xa _,fun _ _ h=>h,fun _ _=>.inl rfl,fun _ _ _ h=>.inl h,fun b o _ ⟨r,hr,f1⟩=>?_⟩⟩
 ·rcases YP.1 hr with rfl|hr
  ·rcases hh.ok _ (Xg ..) with h0|⟨g,cap,cur,e,h0,h1,h3,h4,h5⟩
   ·exact .inl h0
   ·exact .inr ⟨g,ls.length,cap,cur,e,h0,h1,h3,by rw [h4,Km],by rw [Km],by rw [Km];exact h5⟩
  ·exact hh.ok r (XC _ hr)
 ·rcases YP.1 hr with rfl|hr
  ·exact hh.prot _ (Xg ..) b o (hf b o f1) hg
  ·exact hh.prot r (XC _ hr) b o f1 hg
 ·rcases YP.1 hr with rfl|hr
  ·exact ⟨_,Xg ..,hf b o f1⟩
  ·exact ⟨r,XC _ hr,f1⟩
theorem IP:∀xs:List Int,Zm (Z8 xs)=Z8 xs
 | []=>rfl
 | x::r=>Yw (AV.i x::·) (IP r)
section
variable {h:List Res}
theorem KR (j:Nat) (v:Hd) (xs:List Int) (hp:Wa [j] h=some [rV v xs]:=by kernel_rfl):T1 h (.row v.v 1 (Zm (Z8 xs))::XF [j] h):=by
 have e:Zm (Z8 xs)=Z8 xs:=IP xs
 rw [e]
 intro w G hh
 have hp':=VT (Vf hp)
 obtain ⟨a,b⟩:=Z7f (hh.perm hp')
 exact ⟨G,a,b.perm hp'.symm (Tw _)⟩
end
end Go.Abs
