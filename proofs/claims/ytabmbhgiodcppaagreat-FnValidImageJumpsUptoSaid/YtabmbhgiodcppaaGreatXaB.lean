/-
  A part of the proofs of several laws (see the last file): no condition.
-/
import Derived.Test.YtabmbhgiodcppaaGreatXaA
import Derived.Test.YtabmbhgiodcppaaGreatRows
import Derived.Deep.Slices
import Derived.ChangeArms
set_option linter.all false
set_option linter.unusedVariables false
set_option linter.unusedSimpArgs false
set_option linter.unusedSectionVars false
set_option maxRecDepth 10000
set_option maxHeartbeats 4000000
section
namespace Go.Abs
theorem YE.rgrow {w:World} {G:Yg} {h2:List Res} {g len len' cap k:Nat} {ls ls':List AV} (hh:YE w G (.row (.slice (some ⟨g,0,none⟩) len cap) k ls::h2)) {cs cs':Array Value} {e:TypeId}
  (hb:w.heap[g]? = some (.cells cs e (0,0))) (XL:cs'.size=cs.size) (hle:len'<=cap) (hcap:cs.size=cap*k) (hl:ls'.length=len'*k) (hls:YT w G ls' (cs'.toList.take (len'*k))) :
  YE (w.setRow g cs') G (.row (.slice (some ⟨g,0,none⟩) len' cap) k ls'::h2) /\
   X1 w G (.row (.slice (some ⟨g,0,none⟩) len cap) k ls::h2) (w.setRow g cs') G (.row (.slice (some ⟨g,0,none⟩) len' cap) k ls'::h2):=by
 have hmem:Res.row (.slice (some ⟨g,0,none⟩) len cap) k ls∈Res.row (.slice (some ⟨g,0,none⟩) len cap) k ls::h2:=Xm ..
 have hA:VK G w (w.setRow g cs') G:=⟨fun c j hg=>by
  have hne:c≠g:=fun he=>hh.prot _ hmem c j he hg
  simp [World.cell?,VB w g c cs' hne],fun _ _ h=>h⟩
 have e1:X1 w G [.row (.slice (some ⟨g,0,none⟩) len cap) k ls] (w.setRow g cs') G [.row (.slice (some ⟨g,0,none⟩) len' cap) k ls']:=by
  refine ⟨rfl,rfl,rfl,by simp [World.setRow],fun _ _ h=>h,?_,fun _ _ _ h=>.inl h,?_⟩
  ·intro c hc
   by_cases hcb:c=g
   ·subst hcb
    exact .inr ⟨cs,cs',e,(0,0),hb,setRow_heap w c cs cs' e (0,0) hb,XL,fun j hj=>absurd ⟨_,Xm ..,rfl⟩ hj⟩
   ·exact .inl (VB w g c cs' hcb)
  ·rintro c j _ ⟨r,hr,hf⟩
   rw [Xv.1 hr] at hf
   exact ⟨_,Xm ..,hf⟩
 have e2:YE (w.setRow g cs') G [.row (.slice (some ⟨g,0,none⟩) len' cap) k ls']:=by
  refine ⟨fun r hr=>?_,DF _ _,fun r hr c j hf hg=>?_,fun c j hg=>?_⟩
  ·rw [Xv.1 hr]
   exact .inr ⟨g,len',cap,cs',e,rfl,setRow_heap w g cs cs' e (0,0) hb,hle,XL.trans hcap,hl,hls.mono hA⟩
  ·rw [Xv.1 hr] at hf
   exact hh.prot _ hmem c j hf hg
  ·have:=hh.lt c j hg
   simpa [World.setRow] using this
 exact YE.frame (h:=[.row (.slice (some ⟨g,0,none⟩) len cap) k ls]) (k:=h2) hh e1 e2
section
variable {P:Program} {n:Nat} {ops:Array Oper} {k:Nat} {F:Fr} {h2:List Res}
theorem P8 {K:Fr->List Res->Prop} {v:Hd} {sz m:Nat} {ls xs:List AV} {hx:Option Value} (hd:VP n (ZP ops k)=true) (ha:Tz P ops F k=some (.val v.v,.sl xs hx,sz))
  (hxs:∀y∈xs,y.leaves.length=sz) (hone:(Ze xs).all AV.one=true) (hm0:ls.length=m*sz) (hk0:0<sz) (hne:xs≠[]) (hbound:m+xs.length<=4294967296)
  (hK:∀v':Hd,K (F.put (ZP ops k).dst (.val v'.v)) (.row v'.v sz (ls++Ze xs)::h2)):WK P n (ZP ops k) F (.row v.v sz ls::h2) K:=by
 unfold Tz at ha
 generalize hoo:ZP ops k=o at ha hd hK
 obtain ⟨dst,op,type,pos,after,guard⟩:=o
 cases op<;>simp only at ha<;>try (cases ha)
 rename_i c
 obtain ⟨callee,args,tys⟩:=c
 simp only at ha
 split at ha
 case h_2=>cases ha
 rename_i s x t t' hargs htys
 split at ha
 case h_2=>cases ha
 rename_i e htt ht
 have:=T7 htt
 subst this
 split at ha
 case h_2=>cases ha
 rename_i i hinfo
 split at ha
 case h_2=>cases ha
 rename_i z hz
 split at ha
 case h_2=>cases ha
 rename_i hb
 simp only [Xo] at hb
 simp only [Wv,Prod.mk.injEq] at ha
 obtain ⟨h3,h4,hk1⟩:=ha
 have e1:args=#[s,x]:=by rw [<-Ti (xs:=args),hargs]
 have e2:tys=#[t,t]:=by rw [<-Ti (xs:=tys),htys]
 subst e1;subst e2
 have hzs:z.cells.size=sz:=by rw [T7 hb.1,hk1]
 have hby:=V2 hb.2
 have hfl:=To xs hxs
 intro Q w G a hF hh
 have v1:=hF.ev s
 have v2:=hF.ev x
 rw [h3] at v1
 rw [h4] at v2
 have v1:=v1.val_inv
 have v2:=v2.forget
 have finish:∀(v':Hd) w',(Builtin.append_ #[t,t] type #[v.v,a.eval x]).run P w=.ok v'.v w'->YE w' G (.row v'.v sz (ls++Ze xs)::h2)->X1 w G (.row v.v sz ls::h2) w' G (.row v'.v sz (ls++Ze xs)::h2) ->
   ({ dst:=dst,op:=.call { callee:=.builtin .append,args:=#[s,x],argTypes:=#[t,t] },type:=type,pos:=pos,after:=after,guard:=guard }:Oper).wp P a w
    (fun a' w'=>∃F' h' G',K F' h'/\FR w' G' n F' a'/\YE w' G' h'/\X1 w G (.row v.v sz ls::h2) w' G' h') Q:=by
  intro v' w' hr j1 j2
  have hrun:(execOp a.eval { dst:=dst,op:=.call { callee:=.builtin .append,args:=#[s,x],argTypes:=#[t,t] },type:=type,pos:=pos,after:=after,guard:=guard }).run P w=.ok (.value v'.v) w':=by
   simp only [execOp,resolve,invoke,builtin,Sem.run_bind,Sem.run_pure,Result.andThen_ok,EK,T6,EJ,v1,hr]
  unfold Oper.wp
  rw [hrun]
  exact ⟨_,_,G,hK v',(hF.mono (j2.agree hh)).put (TR hd) .val,j1,j2⟩
 have hrow0:=hh.ok (.row v.v sz ls) (Xm ..)
 have hsub2:∀r:Res,List.Sublist (r::h2) (r::.row v.v sz ls::h2):=fun r=>List.Sublist.cons_cons _ (BA _ _)
 have grown:∀(olds news:List Value) (old:Nat),YT w G ls olds->YT w G (Ze xs) news ->
   YE (w.drew.alloc (.cells (olds.toArray++news.toArray++Builtin.zeroCells z.cells (grownCap w (m+xs.length) old e-(m+xs.length))) e)) G
    (.row (.slice (some ⟨w.heap.size,0,none⟩) (m+xs.length) (grownCap w (m+xs.length) old e)) sz (ls++Ze xs)::h2) /\
   X1 w G (.row v.v sz ls::h2) (w.drew.alloc (.cells (olds.toArray++news.toArray++Builtin.zeroCells z.cells (grownCap w (m+xs.length) old e-(m+xs.length))) e)) G
    (.row (.slice (some ⟨w.heap.size,0,none⟩) (m+xs.length) (grownCap w (m+xs.length) old e)) sz (ls++Ze xs)::h2):=by
  intro olds news old ho hn
  have Xf:=grownCap_ge w (m+xs.length) old e
  have hol:=ho.length
  have hnl:=hn.length
  have hlen:(ls++Ze xs).length=(m+xs.length)*sz:=by rw [Yl,hm0,hfl,Qp]
  obtain ⟨j1,j2⟩:=hh.drew.alloc_rrow (olds.toArray++news.toArray++Builtin.zeroCells z.cells (grownCap w (m+xs.length) old e-(m+xs.length))) e
   (ls:=ls++Ze xs) (len:=m+xs.length) (cap:=grownCap w (m+xs.length) old e) (k:=sz) Xf
   (by
    have q2:(grownCap w (m+xs.length) old e-(m+xs.length))*sz=grownCap w (m+xs.length) old e*sz-(m+xs.length)*sz:=Nat.sub_mul ..
    have q3:(m+xs.length)*sz<=grownCap w (m+xs.length) old e*sz:=KU _ Xf
    have q4:(m+xs.length)*sz=m*sz+xs.length*sz:=Qp ..
    simp only [Array.size_append,EL,size_zeroCells,hzs,hol,hnl,hm0,hfl]
    omega) hlen
   (by
    have:(olds.toArray++news.toArray++Builtin.zeroCells z.cells (grownCap w (m+xs.length) old e-(m+xs.length))).toList.take ((m+xs.length)*sz)=olds++news:=by
     simp only [GW]
     rw [<-hlen,Yl,<-hol,<-hnl,<-Yl]
     exact Jr
    rw [this]
    exact (ho.append hn).mono (AT w G))
  exact ⟨j1.sub (hsub2 _),(X1.drew w G _).trans (j2.sub' (hsub2 _))⟩
 generalize hax:a.eval x=ax at v2 finish
 cases v2 with
 | nil _=>exact absurd rfl hne
 | sl hq hcc hm=>
  rename_i b o' k' c
  have hpos:0<xs.length:=Bz.2 hne
  have hfm:=hm.flat_mem
  obtain ⟨news,hn,hnc⟩:=hfm.cells
  have hnl:news.length=xs.length*i.size:=by rw [hn.length,hfl,hk1]
  have hone':=hn.one_cells hone
  have hnews:∀j u,news[j]? = some u->w.cell? ((⟨b,o',none⟩:Addr).add j)=some u:=fun j u hj=>by rw [KW];exact (hnc j u hj).1
  have hbb:(m+xs.length)*i.bytes<=140737488355328:=by
   have:=Nat.mul_le_mul hbound hby
   omega
  rcases hrow0 with ⟨hv0,hl0⟩|⟨g,len,cap,cur,el,hv0,hrow,hlc,hcur,hll,hcells⟩
  ·subst hl0
   have hm1:m=0:=by
    have:m*sz=0:=by simpa using hm0.symm
    rcases Nat.mul_eq_zero.1 this with h|h
    ·exact h
    ·omega
   subst hm1
   rw [hv0] at finish hh ⊢
   have hr:=run_append_nil (P:=P) w t type e i z ht hinfo hz ⟨b,o',none⟩ xs.length c news hnl hnews hpos om (by simp only [Wh] at hbb;omega)
   obtain ⟨j1,j2⟩:=grown [] news 0 .nil hn
   simp only [Wh,Array.empty_append,Cu] at j1 j2
   rw [hv0] at j2
   exact finish ⟨some ⟨w.heap.size,0,none⟩,xs.length,grownCap w xs.length 0 e⟩ _ hr (by simpa using j1) (by simpa using j2)
  ·have hlm:len=m:=GZ hk0 (hll.symm.trans hm0)
   subst hlm
   rw [hv0] at finish hh ⊢
   have q5:len*sz<=cap*sz:=KU _ hlc
   have h1:(cur.toList.take (len*sz)).length=len*sz:=by rw [Wd,Jp,hcur,VW q5]
   have hcl:cur.toList.length=cap*sz:=by rw [Jp,hcur]
   by_cases hroom:len+xs.length<=cap
   ·have q1:(len+xs.length)*sz<=cap*sz:=KU _ hroom
    have q2:(len+xs.length)*sz=len*sz+xs.length*sz:=Qp ..
    have hfit:len*i.size+news.length<=cur.size:=by rw [hnl,hcur,hk1];omega
    have hr:=Lk (P:=P) w t type e el i ht hinfo g len cap cur hrow ⟨b,o',none⟩ xs.length c news hnl hnews hone' hroom hfit
    rw [hk1] at hr
    have hnl':news.length=xs.length*sz:=by rw [hnl,hk1]
    obtain ⟨j1,j2⟩:=hh.rgrow (ls':=ls++Ze xs) (len':=len+xs.length) (cs':=(cur.toList.take (len*sz)++news++cur.toList.drop (len*sz+news.length)).toArray) hrow
     (by simp only [EL,Yl,h1,hnl',GX,hcl,hcur];omega) hroom hcur (by rw [Yl,hll,hfl,q2]) (by
      have:(cur.toList.take (len*sz)++news++cur.toList.drop (len*sz+news.length)).toArray.toList.take ((len+xs.length)*sz)=cur.toList.take (len*sz)++news:=by
       rw [EM,q2,<-hnl']
       conv=>lhs;arg 1;rw [show len*sz+news.length=(cur.toList.take (len*sz)++news).length from by rw [Yl,h1]]
       exact Jr
      rw [this]
      exact hcells.append hn)
    exact finish ⟨some ⟨g,0,none⟩,len+xs.length,cap⟩ _ hr j1 j2
   ·have hr:=run_append_grow (P:=P) w t type e i z ht hinfo hz ⟨g,0,none⟩ len cap (cur.toList.take (len*sz)) (by rw [hk1];exact h1) (fun j u hj=>by
     rw [KW,cell_of_row w g _ cur el (0,0) hrow]
     rw [Q6] at hj
     split at hj
     ·simpa using hj
     ·cases hj) ⟨b,o',none⟩ xs.length c news hnl hnews om om (growslice_fits om hbb)
    obtain ⟨j1,j2⟩:=grown (cur.toList.take (len*sz)) news cap hcells hn
    rw [hv0] at j2
    exact finish ⟨some ⟨w.heap.size,0,none⟩,len+xs.length,grownCap w (len+xs.length) cap e⟩ _ hr j1 j2
end
section
variable {P:Program} {n:Nat} {ops:Array Oper} {B:Fr->List Res->Prop} {k:Nat} {F:Fr} {h:List Res}
theorem FH (j m:Nat) (v:Hd) (sz:Nat) (ls xs:List AV) (hx:Option Value) (hm0:ls.length=m*sz) (hxs:∀y∈xs,y.leaves.length=sz) (hone:(Ze xs).all AV.one=true) (hne:xs≠[]) (hbound:m+xs.length<=4294967296)
  (hK:∀v':Hd,SI P n ops B (k+1) (F.put (ZP ops k).dst (.h v')) (rK v' sz (ls++Ze xs)::XA [j] h)) (hk0:0<sz:=by omega)
  (hk:Xk n ops F k=true:=by kernel_rfl) (ha:Tz P ops F k=some (.h v,.sl xs hx,sz):=by kernel_rfl) (hp:W6 [j] h=some [rK v sz ls]:=by kernel_rfl):SI P n ops B k F h:=
 QB hk (WK.perm (Uc (Vy hp)) (P8 (UI hk).2.1 ha hxs hone hm0 hk0 hne hbound hK))
end
end Go.Abs
namespace Go.Abs
section
variable {P:Program} {n:Nat} {ops:Array Oper} {B:Fr->List Res->Prop} {T:List (Nat × List Nat)} {fuel:Nat} {done:List Nat} {F:Fr} {h:List Res}
theorem Hx (i j m:Nat) (js bs:List Nat) (v:Hd) (sz:Nat) (ls xs:List AV) (hx:Option Value) (hm0:ls.length=m*sz) (hxs:∀y∈xs,y.leaves.length=sz) (hone:(Ze xs).all AV.one=true) (hne:xs≠[]) (hbound:m+xs.length<=4294967296)
  (hK:∀v':Hd,X3 P n ops B (T.filter fun t=>!Vf ops i t.1) fuel (done++[i]) (F.put (ZP ops i).dst (.h v')) (rK v' sz (ls++Ze xs)::XA [j] h)) (hk0:0<sz:=by omega) (hk:Xk n ops F i=true:=by kernel_rfl)
  (ha:Tz P ops F i=some (.h v,.sl xs hx,sz):=by kernel_rfl) (hp:W6 [j] h=some [rK v sz ls]:=by kernel_rfl) (ho:Uw ops i T=bs:=by kernel_rfl)
  (hj:js.map (fun q=>(WS (XA [j] h))[q]?)=bs.map some:=by kernel_rfl):VL P n ops B T fuel done F h i:=
 JI [j] js bs hk (Vy hp) ho hj (P8 (h2:=[]) (UI hk).2.1 ha hxs hone hm0 hk0 hne hbound hK)
end
theorem WP.form {P:Program} {f:FuncId} {as1:List AV} {h0:List Res} {T:Hd->AV} {kk m:Nat} {ls:List AV} {hs:List Res} (H:WP P f as1 h0 (fun r h=>∃v:Hd,r=T v/\h=rK v kk ls::hs)) (hm:ls.length=m*kk) (hk:0<kk) (h1:0<m) :
  WP P f as1 h0 (fun r h=>∃(g c:Nat),r=T ⟨some ⟨g,0,none⟩,m,c⟩/\h=rK ⟨some ⟨g,0,none⟩,m,c⟩ kk ls::hs):=by
 intro w G vs hv hh
 refine (H w G vs hv hh).mono ?_
 rintro e w' ⟨u,r,h',G',he,⟨v,rfl,rfl⟩,hr,hh',hx⟩
 obtain ⟨g,c,rfl⟩:=Lf (hh'.ok _ (Xm ..)) hm hk h1
 exact ⟨u,_,_,G',he,⟨g,c,rfl,rfl⟩,hr,hh',hx⟩
end Go.Abs
namespace Go.Abs
section
variable {h:List Res}
theorem Zdj (j i p:Nat) {u:Value} {kk b:Nat} {es ls:List AV} (hp:W6 [j,i] h=some [.row u kk (Ze es),.obj b ls]) (hes:∀y∈es,y.leaves.length=kk) (hk:0<kk) (hl:ls[p]? = some (.val u)) :
  Ve h (.obj b (ls.set p (.sl es (some u)))::.tail u kk::XA [j,i] h):=by
 intro w G hh
 have hp':=Uc (Vy hp)
 have hh':=hh.perm hp'
 obtain ⟨G',h1,h2',h3⟩:=Do (h2:=.obj b ls::XA [j,i] h) hh' hes hk
 have e:=h2'.perm hp'.symm (Tu _)
 have h1:YE w G' (.tail u kk::.obj b ls::XA [j,i] h):=h1
 have perm:(Res.tail u kk::.obj b ls::XA [j,i] h).Perm (.obj b ls::.tail u kk::XA [j,i] h):=List.Perm.swap ..
 have h4:=h1.perm perm
 have e4:=e.perm (Tu _) perm
 have hset:∀{w:World} {G:Yg},RV w G (.sl es (some u)) u->Qq w G (.obj b ls)->Qq w G (.obj b (ls.set p (.sl es (some u)))):=by
  intro w G hu hr
  obtain ⟨cs,el,k1,k5⟩:=hr
  refine ⟨cs,el,k1,?_⟩
  obtain ⟨c,c1,c2⟩:=k5.get p _ hl
  have:=c2.val_inv
  subst this
  have h6:=k5.set p hu
  rwa [show cs.toList.set p c=cs.toList from by
   apply List.ext_getElem?
   intro q
   rw [List.getElem?_set]
   split
   ·rename_i hq;subst hq;split
    ·exact c1.symm
    ·rename_i hq2;rw [By om]
   ·rfl] at h6
 refine ⟨G',⟨fun r hr=>?_,?_,fun r hr=>?_,h4.lt⟩,⟨e4.os,e4.tape,e4.output,e4.size,e4.sub,e4.same,e4.newG,fun b' o hb ⟨r,hr,hf⟩=>e4.newfp b' o hb ?_⟩⟩
 ·rcases YM.1 hr with rfl|hr
  ·exact hset h3 (h4.ok _ (Xm ..))
  ·exact h4.ok r (XE _ hr)
 ·have:=V1.1 h4.apart
  exact V1.2 ⟨fun r hr b' o f1 f2=>this.1 r hr b' o f1 f2,this.2⟩
 ·rcases YM.1 hr with rfl|hr
  ·exact fun b' o f1 hg=>h4.prot (.obj b ls) (Xm ..) b' o f1 hg
  ·exact h4.prot r (XE _ hr)
 ·rcases YM.1 hr with rfl|hr
  ·exact ⟨.obj b ls,Xm ..,hf⟩
  ·exact ⟨r,XE _ hr,hf⟩
theorem Ul (j i p:Nat) (u:Value) (kk b:Nat) (es ls:List AV) (hes:∀y∈es,y.leaves.length=kk) (hl:ls[p]? = some (.val u)) (hk:0<kk:=by omega) (hp:W6 [j,i] h=some [.row u kk (Ze es),.obj b ls]:=by kernel_rfl) :
  Ve h (.obj b (ls.set p (.sl es (some u)))::.tail u kk::XA [j,i] h):=Zdj j i p hp hes hk hl
end
end Go.Abs
namespace Go.Abs
section
variable {P:Program} {n:Nat} {ops:Array Oper} {k:Nat} {F:Fr} {h:List Res}
theorem Zd2 (j:Nat) {g l c m kk:Nat} {ls:List AV} (hi:Dr P ops F k=some (.val (.slice (some ⟨g,0,none⟩) l c),(m:Int))) (hj:h[j]? = some (.row (.slice (some ⟨g,0,none⟩) l c) kk ls)) (hle:m<=l) :
  XT P (ZP ops k) F h [] (.val (.slice (some ⟨g,0,none⟩) m c)):=by
 unfold Dr at hi
 generalize hoo:ZP ops k=o at hi
 obtain ⟨dst,op,type,pos,after,guard⟩:=o
 cases op<;>simp only at hi<;>try (cases hi)
 rename_i t x lo hi' mx
 cases lo with
 | some _=>simp at hi
 | none=>
  cases hi' with
  | none=>simp at hi
  | some y=>
   cases mx with
   | some _=>simp at hi
   | none=>
    simp only at hi
    split at hi
    ·rename_i e ht
     split at hi
     ·rename_i inf hinf
      split at hi
      ·rename_i ik m' hm
       simp only [Wv,Prod.mk.injEq] at hi
       obtain ⟨hx,rfl⟩:=hi
       intro n w G a hF hh
       have v1:=hF.ev x
       rw [hx] at v1
       have v1:=v1.val_inv
       have v2:=hF.ev y
       rw [hm] at v2
       have v2:=v2.val_inv
       have hcap:l<=c:=by
        rcases hh.ok _ (Y2 hj) with ⟨h0,_⟩|⟨g',l',c',cur,el,h0,_,hc,_⟩
        ·cases h0
        ·cases h0;exact hc
       refine ⟨_,.val,fun w' _ _=>?_⟩
       simp only [execOp,v1,v2,EO,Option.map_none]
       refine VA ?_
       simp only [Instr.sliceAt,Sem.run_bind,Ui ht,Result.andThen_ok,Instr.slice]
       have hmm:(Instr.sliceBounds true l c none (some (.int ik (m:Int))) none).run P w'=.ok (0,m,c) w':=by
        have ZF:=fun q=>Ey (P:=P) (c:=q) (v:=.int ik (m:Int)) (y:=c) rfl om om w'
        simp [Instr.sliceBounds,ZF]
       rw [hmm]
       have hz:∀a:Addr,a.add 0=a:=fun a=>by simp [Addr.add]
       simp only [Result.andThen_ok,QN hinf,Nat.zero_mul,hz]
       by_cases h0:c=0<;>simp [h0]
      ·cases hi
     ·cases hi
    ·cases hi
theorem Ou (j g l c m kk:Nat) (ls:List AV) (hle:m<=l:=by omega) (hi:Dr P ops F k=some (.val (.slice (some ⟨g,0,none⟩) l c),(m:Int)):=by kernel_rfl) (hj:h[j]? = some (.row (.slice (some ⟨g,0,none⟩) l c) kk ls):=by kernel_rfl) :
  XT P (ZP ops k) F h [] (.val (.slice (some ⟨g,0,none⟩) m c)):=Zd2 j hi hj hle
variable {B:Fr->List Res->Prop}
end
end Go.Abs
end
namespace Go.Abs
theorem Yi {α:Type} {xs:List α} {k:Nat} {x:α} (h:xs[k]? = some x):xs.drop k=x::xs.drop (k+1):=by
 have hk:=(Xh.1 h).1
 rw [LY hk]
 congr 1
 rw [Ct hk] at h
 exact Cv h
theorem Xt {α:Type} {xs:List α} {k:Nat} (h:xs.length<=k):xs.drop k=[]:=LZ h
theorem WU {α:Type} {xs:List α} {k:Nat} {x:α} (h:xs[k]? = some x):xs.take (k+1)=xs.take k++[x]:=by
 rw [List.take_add_one,h];rfl
def YF:List Zb->Nat
 | []=>0
 | d::ds=>d.cons.length+YF ds
theorem CD (xs ys:List Zb):YF (xs++ys)=YF xs+YF ys:=by
 induction xs with
 | nil=>simp [YF]
 | cons d ds ih=>simp [YF,ih];omega
structure Xw (ds:List Zb):Prop where
 len:ds.length<=4
 cons:∀d∈ds,d.cons.length<=3
 fields:∀d∈ds,∀c∈d.cons,c.fields.length<=3
theorem Z1m {ds:List Zb} {m:Nat} (h:∀d∈ds,d.cons.length<=m):YF ds<=ds.length*m:=by
 induction ds with
 | nil=>simp [YF]
 | cons d ds ih=>
  have h1:=h d (by simp)
  have h2:=ih (fun x hx=>h x (by simp [hx]))
  simp only [YF,Yw,Qp];omega
theorem Xw.sum {ds:List Zb} (h:Xw ds):YF ds<=12:=by
 have:=Z1m h.cons
 have:=h.len
 have:ds.length*3<=4*3:=KU 3 h.len
 omega
theorem Xw.take {ds:List Zb} (h:Xw ds) (k:Nat):Xw (ds.take k):=
 ⟨by have:=h.len;simp;omega,fun d hd=>h.cons d (Qo hd),fun d hd=>h.fields d (Qo hd)⟩
theorem Xw.cons_at {ds:List Zb} (h:Xw ds) {k:Nat} {d:Zb} (hd:ds[k]? = some d):d.cons.length<=3:=h.cons d (Y2 hd)
theorem Xw.fields_at {ds:List Zb} (h:Xw ds) {k j:Nat} {d:Zb} {c:Yj} (hd:ds[k]? = some d) (hc:d.cons[j]? = some c):c.fields.length<=3:=
 h.fields d (Y2 hd) c (Y2 hc)
def Ug (c:Int):List Zb->Nat->Nat->Int × LI
 | [],_,_=>(-1,[])
 | d::ds,i,first=>
  if (first:Int)<=c/\c<=((first+d.cons.length:Nat):Int)-1 then ((i:Int)+1,(d.cons[(c-first).toNat]?.map (·.fields)).getD []) else Ug c ds (i+1) (first+d.cons.length)
def We (ds:List Zb) (c:Int):Int:=(Ug c ds 0 0).1
def ZK (ds:List Zb) (c:Int):LI:=(Ug c ds 0 0).2
theorem Fa {c:Int}:∀{ds:List Zb} {i first:Nat},(Ug c ds i first=(-1,[]) ∨
  ∃k d x,ds[k]? = some d/\(first+YF (ds.take k):Int)<=c/\c<first+YF (ds.take k)+d.cons.length/\d.cons[(c-(first+YF (ds.take k))).toNat]? = some x/\Ug c ds i first=((i:Int)+k+1,x.fields))
 | [],_,_=>.inl rfl
 | d::ds,i,first=>by
  rw [Ug]
  split
  ·rename_i h
   have hlt:(c-first).toNat<d.cons.length:=by omega
   refine .inr ⟨0,d,d.cons[(c-first).toNat],rfl,by simp [YF];omega,by simp [YF];omega,?_,?_⟩
   ·simp [YF]
   ·rw [Ct hlt];simp
  ·rcases Fa (c:=c) (ds:=ds) (i:=i+1) (first:=first+d.cons.length) with h|⟨k,e,x,h1,h2,h3,h4,h5⟩
   ·exact .inl h
   ·refine .inr ⟨k+1,e,x,by simpa using h1,by simp [YF];omega,by simp [YF];omega,?_,?_⟩
    ·rw [<-h4];congr 3;simp [YF];omega
    ·rw [h5];congr 1;omega
theorem Hu {ds:List Zb} {c:Int} (h:¬We ds c<1) :
  ∃k d x,ds[k]? = some d/\(YF (ds.take k):Int)<=c/\d.cons[(c-YF (ds.take k)).toNat]? = some x/\We ds c=(k:Int)+1/\ZK ds c=x.fields:=by
 rcases Fa (c:=c) (ds:=ds) (i:=0) (first:=0) with h1|⟨k,d,x,h1,h2,_,h4,h5⟩
 ·simp [We,h1] at h
 ·exact ⟨k,d,x,h1,by simpa using h2,by simpa using h4,by simp [We,h5],by simp [ZK,h5]⟩
theorem MD {ds:List Zb} {c:Int} (h:We ds c<1):ZK ds c=[]/\We ds c=-1:=by
 rcases Fa (c:=c) (ds:=ds) (i:=0) (first:=0) with h1|⟨k,d,x,h1,h2,_,h4,h5⟩
 ·simp [ZK,We,h1]
 ·simp [We,h5] at h;omega
def VF (first:Int):Nat->LI
 | 0=>[]
 | n+1=>first::VF (first+1) n
theorem P0 (first:Int) (n:Nat):VF first (n+1)=VF first n++[first+n]:=by
 induction n generalizing first with
 | zero=>simp [VF]
 | succ n ih=>rw [VF,ih (first+1),VF];simp;omega
@[simp] theorem Z8s (first:Int) (n:Nat):(VF first n).length=n:=by
 induction n generalizing first with
 | zero=>rfl
 | succ n ih=>simp [VF,ih]
def ZQ (ds:List Zb) (t:Int):LI:=
 if 1<=t/\t<=ds.length then VF (YF (ds.take (t-1).toNat)) (((ds[(t-1).toNat]?).map (·.cons.length)).getD 0) else []
def Cz (frm to_:Int):List Zb->Nat->Int
 | [],_=>-1
 | d::ds,i=>if d.cons.length=0/\d.frm=frm/\d.to_=to_ then (i:Int)+1 else Cz frm to_ ds (i+1)
def Jx (ds:List Zb) (frm to_:Int):Int:=Cz frm to_ ds 0
def VE (ds:List Zb) (t:Int):Bool:=decide (1<=t/\t<=ds.length)&&((ds[(t-1).toNat]?).map fun d=>decide (d.cons.length=0)).getD false
theorem Ol {ds:List Zb} {t:Int} {x:Zb} (h:1<=t/\t<=ds.length) (hx:ds[(t-1).toNat]? = some x):((x.cons.length:Int)==0)=VE ds t:=by
 rw [VE,hx,Y9];simp [h]
theorem Ok {ds:List Zb} {t:Int} (h:¬(1<=t/\t<=ds.length)):false=VE ds t:=by
 rw [VE,Y9];simp only [Bool.false_eq_true,Xo,decide_eq_true_eq,h,false_and]
def Wi (m:Nat) (xs:LI):Bool:=xs.all fun t=>decide (0<=t/\t<=m)
end Go.Abs
section
namespace Go.Abs
section
variable {h:List Res}
end
end Go.Abs
namespace Go.Abs
section
variable {P:Program} {ops:Array Oper} {k:Nat} {F:Fr} {h:List Res}
def IV (ops:Array Oper) (F:Fr) (k:Nat):Option (Int × Int):=
 match (ZP ops k).op with
 | .call c=>match c.callee,c.args.toList with
  | .builtin .max,[x,y]=>match F.ev x,F.ev y with
   | .val (.int .i64 a),.val (.int .i64 b)=>some (a,b)
   | _,_=>none
  | _,_=>none
 | _=>none
theorem Zcz {a b:Int} (hl:IV ops F k=some (a,b)):XT P (ZP ops k) F h [] (.i (max a b)):=by
 unfold IV at hl
 generalize hoo:ZP ops k=o at hl
 obtain ⟨dst,op,type,pos,after,guard⟩:=o
 cases op<;>simp only at hl<;>try (cases hl)
 rename_i c
 obtain ⟨callee,args,tys⟩:=c
 simp only at hl
 split at hl
 case h_2=>cases hl
 rename_i x y hargs
 split at hl
 case h_2=>cases hl
 rename_i u v hx hy
 cases hl
 have e1:args=#[x,y]:=by rw [<-Ti (xs:=args),hargs]
 subst e1
 intro n w G a' hF hh
 have vx:=hF.ev x
 have vy:=hF.ev y
 rw [hx] at vx
 rw [hy] at vy
 have vx:=vx.val_inv
 have vy:=vy.val_inv
 refine ⟨_,.val,fun w' _ _=>?_⟩
 simp only [execOp,resolve,invoke,builtin,Sem.run_bind,Sem.run_pure,Result.andThen_ok,EK,T6,EJ,vx,vy]
 have e:(if b>a then b else a)=max a b:=by
  rw [Int.max_def]
  split<;>split<;>omega
 simp [Builtin.max_,Builtin.max2,Sem.run_pure,List.foldlM,e]
theorem FL (a b:Int) (ha:IV ops F k=some (a,b):=by kernel_rfl):XT P (ZP ops k) F h [] (.i (max a b)):=Zcz ha
end
end Go.Abs
end
namespace Go.Abs
section
variable {P:Program} {n:Nat} {ops:Array Oper} {B:Fr->List Res->Prop} {k:Nat} {F:Fr} {h:List Res} {T:List (Nat × List Nat)} {fuel:Nat} {done:List Nat}
theorem P9 {K:Fr->List Res->Prop} {ls:List AV} {len sz:Nat} (hd:VP n (ZP ops k)=true) (ha:Te P ops F k=some (ls,len,sz)) (hlen:ls.length=len*sz)
  (hK:∀g,K (F.put (ZP ops k).dst (.val (.slice (some ⟨g,0,none⟩) len len))) (.row (.slice (some ⟨g,0,none⟩) len len) sz ls::h)):WK P n (ZP ops k) F h K:=by
 unfold Te at ha
 generalize hoo:ZP ops k=q at ha hd hK
 obtain ⟨dst,op,type,pos,after,guard⟩:=q
 cases op<;>simp only at ha<;>try (cases ha)
 rename_i t ln parts
 split at ha
 case h_2=>cases ha
 rename_i e ht
 split at ha
 case h_2=>cases ha
 rename_i i hi
 split at ha
 case h_2=>cases ha
 rename_i hc
 simp only [Xo] at hc
 split at ha
 case h_2=>cases ha
 rename_i ls' hf
 simp only [Wv,Prod.mk.injEq] at ha
 obtain ⟨rfl,rfl,XL⟩:=ha
 intro Q w G a hF hh
 obtain ⟨cs,h1,h2⟩:=Gq hF parts ht hi rfl hc.1 hc.2 hf
 have hr:(execOp a.eval { dst:=dst,op:=.buildSlice t ln parts,type:=type,pos:=pos,after:=after,guard:=guard }).run P w =
   .ok (.value (.slice (some ⟨w.heap.size,0,none⟩) ln ln)) (w.alloc (.cells cs e)):=by
  simp only [execOp]
  exact VA h2
 unfold Oper.wp
 rw [hr]
 have hlc:=h1.length
 simp only [Jp] at hlc
 obtain ⟨j1,j2⟩:=hh.alloc_rrow cs e (ls:=ls') (len:=ln) (cap:=ln) (k:=sz) (X7 _) (by rw [hlc];exact hlen) hlen (by rw [<-hlen,<-hlc];simpa [WJ] using h1)
 exact ⟨_,_,G,hK _,(hF.mono (j2.agree hh)).put (TR hd) .val,j1,j2⟩
theorem Uv (es es':List AV) (he:es=es') (len sz:Nat) (hK:∀v,SI P n ops B (k+1) (F.put (ZP ops k).dst (.sl es' (some v))) (.tail v sz::h)) (hk:Xk n ops F k=true:=by kernel_rfl)
  (ha:Te P ops F k=some (Ze es,len,sz):=by kernel_rfl) (hlen:es.length=len:=by kernel_rfl) (hall:Ab es sz=true:=by kernel_rfl):SI P n ops B k F h:=by
 subst he;exact iL es len sz hK hk ha hlen hall
theorem Wx (i:Nat) (js bs:List Nat) (es es':List AV) (he:es=es') (len sz:Nat) (hK:∀v,X3 P n ops B (T.filter fun t=>!Vf ops i t.1) fuel (done++[i]) (F.put (ZP ops i).dst (.sl es' (some v))) (.tail v sz::h))
  (hk:Xk n ops F i=true:=by kernel_rfl) (ha:Te P ops F i=some (Ze es,len,sz):=by kernel_rfl) (hlen:es.length=len:=by kernel_rfl) (hall:Ab es sz=true:=by kernel_rfl)
  (ho:Uw ops i T=bs:=by kernel_rfl) (hj:js.map (fun j=>(WS h)[j]?)=bs.map some:=by kernel_rfl):VL P n ops B T fuel done F h i:=by
 subst he;exact dL i js bs es len sz hK hk ha hlen hall ho hj
theorem iKN (ls:List AV) (len sz:Nat) (hK:∀g,SI P n ops B (k+1) (F.put (ZP ops k).dst (.val (.slice (some ⟨g,0,none⟩) len len))) (.row (.slice (some ⟨g,0,none⟩) len len) sz ls::h)) (hlen:ls.length=len*sz:=by rfl) (hk:Xk n ops F k=true:=by kernel_rfl)
  (ha:Te P ops F k=some (ls,len,sz):=by kernel_rfl):SI P n ops B k F h:=QB hk (P9 (UI hk).2.1 ha hlen hK)
theorem dKN (i:Nat) (js bs:List Nat) (ls:List AV) (len sz:Nat) (hK:∀g,X3 P n ops B (T.filter fun t=>!Vf ops i t.1) fuel (done++[i]) (F.put (ZP ops i).dst (.val (.slice (some ⟨g,0,none⟩) len len))) (.row (.slice (some ⟨g,0,none⟩) len len) sz ls::h)) (hlen:ls.length=len*sz:=by rfl)
  (hk:Xk n ops F i=true:=by kernel_rfl) (ha:Te P ops F i=some (ls,len,sz):=by kernel_rfl) (ho:Uw ops i T=bs:=by kernel_rfl) (hj:js.map (fun j=>(WS h)[j]?)=bs.map some:=by kernel_rfl):VL P n ops B T fuel done F h i:=
 JI (h1:=[]) (h2:=h) [] js bs hk rfl ho hj (P9 (UI hk).2.1 ha hlen hK)
end
theorem WP.frz {P:Program} {f:FuncId} {as1:List AV} {h0:List Res} {E:Type} {kk:Nat} {es:E->List AV} {hs:E->List Res} {Q:E->Prop} (H:WP P f as1 h0 (fun r h=>∃(e:E) (v:Hd),r=.h v/\h=rK v kk (Ze (es e))::hs e/\Q e)) (hes:∀e,∀y∈es e,y.leaves.length=kk) (hk:0<kk) :
  WP P f as1 h0 (fun r h=>∃(e:E) (v:Value),r=.sl (es e) (some v)/\h=.tail v kk::hs e/\Q e):=by
 intro w G vs hv hh
 refine (H w G vs hv hh).mono ?_
 rintro e w' ⟨u,r,h',G',he,⟨x,v,rfl,rfl,hq⟩,hr,hh',hx⟩
 obtain ⟨G2,h1,h2,h3⟩:=Do hh' (hes x) hk
 have hrv:=hr.val_inv
 subst hrv
 exact ⟨_,_,_,G2,he,⟨x,v.v,rfl,rfl,hq⟩,h3,h1,hx.trans h2⟩
theorem I5 {es:List AV} {sz k:Nat} {y:AV} (h:∀x∈es,x.leaves.length=sz) (hy:y.leaves.length=sz) (hk:k<es.length):(Ze es).take (k*sz)++y.leaves++(Ze es).drop (k*sz+y.leaves.length)=Ze (es.set k y):=by
 obtain ⟨x,hx⟩:=Aq (xs:=es) (j:=k) hk
 have hxl:=h x (Y2 hx)
 have e1:es=es.take k++(x::es.drop (k+1)):=by rw [<-Yi hx,Tk]
 have e2:es.set k y=es.take k++(y::es.drop (k+1)):=by rw [GY,Zk hk]
 have hl:(Ze (es.take k)).length=k*sz:=by rw [To (k:=sz) _ (fun z hz=>h z (Qo hz)),Wd,VW om]
 have e3:Ze es=Ze (es.take k)++(x.leaves++Ze (es.drop (k+1))):=by
  conv=>lhs;rw [e1,Ku]
  simp [Ze]
 rw [e2,Ku,e3,Lg hl (by rw [hxl,hy])]
 simp [Ze]
theorem Z2j (ds:List Zb) (k:Nat) (d:Zb):YR (ds.set k d)=(YR ds).set k (DI d):=by simp [YR,List.map_set]
theorem C0 (xs:List Zb):(Ze (YR xs)).length=xs.length*3:=by rw [To (k:=3) _ (K0 xs)];simp
theorem Fu {ds:List Zb} {k:Nat} (d:Zb) (hk:k<ds.length):(Ze (YR ds)).take (k*3)++Ca d++(Ze (YR ds)).drop (k*3+3)=Ze (YR (ds.set k d)):=by
 rw [Z2j];exact I5 (y:=DI d) (K0 ds) rfl (by simpa using hk)
theorem I1 (xs ys:List Zb):Ze (YR xs)++Ze (YR ys)=Ze (YR (xs++ys)):=by rw [Z2i,Ku]
section
variable {P:Program} {n:Nat} {ops:Array Oper} {B:Fr->List Res->Prop} {k:Nat} {F:Fr} {h:List Res}
theorem E5 (j m:Nat) {v:Hd} {kk:Nat} {ls:List AV} (hm:ls.length=m*kk) (h0:0<m) (H:∀g c',v=⟨some ⟨g,0,none⟩,m,c'⟩->SI P n ops B k F h) (hk:0<kk:=by omega) (hj:h[j]? = some (rK v kk ls):=by kernel_rfl):SI P n ops B k F h:=by
 intro Q w G a hF hh hq
 obtain ⟨g,c',e⟩:=Lf (hh.ok _ (Y2 hj)) hm hk h0
 exact H g c' e Q w G a hF hh hq
end
section
variable {P:Program} {n:Nat} {ops:Array Oper} {B:Fr->List Res->Prop} {k:Nat} {F:Fr} {h:List Res}
def Hw (P:Program) (ops:Array Oper) (F:Fr) (k:Nat):Option (IntKind × Int):=
 match (ZP ops k).op with
 | .convert s d x=>match P.underlying s,P.underlying d,F.ev x with
  | some (.int _),some (.int q),.val (.int _ z)=>some (q,z)
  | _,_,_=>none
 | _=>none
theorem kCv (q:IntKind) (z z':Int) (e:q.wrap z=z') (hc:Hw P ops F k=some (q,z):=by kernel_rfl):XT P (ZP ops k) F h [] (.val (.int q z')):=by
 unfold Hw at hc
 generalize hoo:ZP ops k=o at hc
 obtain ⟨dst,op,type,pos,after,guard⟩:=o
 cases op<;>simp only at hc<;>try (cases hc)
 rename_i s d x
 split at hc
 ·rename_i q1 q2 q3 z2 h1 h2 h3
  cases hc
  intro n w G ac hF hh
  have v1:=hF.ev x
  rw [h3] at v1
  have v1:=v1.val_inv
  refine ⟨_,.val,fun w' _ _=>?_⟩
  simp only [execOp,v1]
  refine VA ?_
  simp [convert,Ui h1,Ui h2,Conv.intToInt,e]
 ·cases hc
theorem LX {z:Int} (h:0<=z/\z<=9223372036854775807):IntKind.i64.wrap z=z:=IntWalk.i64_in _ om
theorem ID (z:Int) (hz:0<=z/\z<=255) (hc:Hw P ops F k=some (.i64,z):=by kernel_rfl):XT P (ZP ops k) F h [] (.i z):=kCv .i64 z z (LX om) hc
def AX (ops:Array Oper) (F:Fr) (k:Nat) (b:BinOp):Option (Int × Int):=
 match (ZP ops k).op with
 | .binOp c _ x y _=>if c==b then match F.ev x,F.ev y with
  | .val (.int .i64 z),.val (.int .i64 u)=>some (z,u)
  | _,_=>none else none
 | _=>none
theorem Ov (a b:Int) (hb:0<b) (ha:0<=a/\a<=9223372036854775807) (hc:AX ops F k .quo=some (a,b):=by kernel_rfl):XT P (ZP ops k) F h [] (.i (a / b)):=by
 unfold AX at hc
 generalize hoo:ZP ops k=o at hc
 obtain ⟨dst,op,type,pos,after,guard⟩:=o
 cases op<;>simp only at hc<;>try (cases hc)
 rename_i bop t x y yt
 cases bop<;>simp only [Zf,reduceCtorEq,if_false,if_true] at hc<;>try (cases hc)
 split at hc
 ·rename_i z yk h1 h2
  cases hc
  intro n' w G ac hF hh
  have v1:=hF.ev x
  have v2:=hF.ev y
  rw [h1] at v1
  rw [h2] at v2
  have v1:=v1.val_inv
  have v2:=v2.val_inv
  refine ⟨_,.val,fun w' _ _=>?_⟩
  simp only [execOp,v1,v2]
  refine VA ?_
  have e1:a.tdiv b=a / b:=Int.tdiv_eq_ediv_of_nonneg ha.1
  have e2:IntKind.i64.wrap (a / b)=a / b:=LX ⟨Int.ediv_nonneg ha.1 om,Int.le_trans (Int.ediv_le_self b ha.1) ha.2⟩
  have e3:b≠0:=by omega
  simp [eqGuard,binOp,Op.intDiv,e1,e2,e3]
 ·cases hc
theorem IC (a b:Int) (hb:0<b) (ha:0<=a) (hc:AX ops F k .rem=some (a,b):=by kernel_rfl):XT P (ZP ops k) F h [] (.i (a % b)):=by
 unfold AX at hc
 generalize hoo:ZP ops k=o at hc
 obtain ⟨dst,op,type,pos,after,guard⟩:=o
 cases op<;>simp only at hc<;>try (cases hc)
 rename_i bop t x y yt
 cases bop<;>simp only [Zf,reduceCtorEq,if_false,if_true] at hc<;>try (cases hc)
 split at hc
 ·rename_i z yk h1 h2
  cases hc
  intro n' w G ac hF hh
  have v1:=hF.ev x
  have v2:=hF.ev y
  rw [h1] at v1
  rw [h2] at v2
  have v1:=v1.val_inv
  have v2:=v2.val_inv
  refine ⟨_,.val,fun w' _ _=>?_⟩
  simp only [execOp,v1,v2]
  refine VA ?_
  have e1:a.tmod b=a % b:=Int.tmod_eq_emod_of_nonneg ha
  have e3:b≠0:=by omega
  simp [eqGuard,binOp,Op.intDiv,e1,e3]
 ·cases hc
theorem D8 (a b:Nat) (hb:0<b) (ha:a<=9223372036854775807) (hc:AX ops F k .quo=some ((a:Int),(b:Int)):=by kernel_rfl):XT P (ZP ops k) F h [] (.i (a / b:Nat)):=by
 rw [Int.natCast_ediv];exact Ov a b om om hc
theorem Ow (a b:Nat) (hb:0<b) (_ha:a<=9223372036854775807) (hc:AX ops F k .rem=some ((a:Int),(b:Int)):=by kernel_rfl):XT P (ZP ops k) F h [] (.i (a % b:Nat)):=by
 rw [Int.natCast_emod];exact IC a b om om hc
def DC (a b:Int):Int:=IntKind.i64.wrap ((BitVec.ofInt 64 a ^^^ BitVec.ofInt 64 b).toNat:Int)
theorem Su {a b:Int} (ha:0<=a/\a<4611686018427387904) (hb:0<=b/\b<4611686018427387904):0<=DC a b/\DC a b<4611686018427387904:=by
 obtain ⟨x,rfl⟩:=Int.eq_ofNat_of_zero_le ha.1
 obtain ⟨y,rfl⟩:=Int.eq_ofNat_of_zero_le hb.1
 have h1:(BitVec.ofInt 64 (x:Int) ^^^ BitVec.ofInt 64 (y:Int)).toNat=x ^^^ y:=by
  rw [BitVec.toNat_xor,BitVec.toNat_ofInt,BitVec.toNat_ofInt]
  have e1:((x:Int) % ((2 ^ 64:Nat):Int)).toNat=x:=by omega
  have e2:((y:Int) % ((2 ^ 64:Nat):Int)).toNat=y:=by omega
  rw [e1,e2]
 have h2:x ^^^ y<2 ^ 62:=Nat.xor_lt_two_pow om om
 rw [DC,h1,LX om]
 omega
theorem Z7n (a b:Int) (hc:AX ops F k .xor=some (a,b):=by kernel_rfl):XT P (ZP ops k) F h [] (.i (DC a b)):=by
 unfold AX at hc
 generalize hoo:ZP ops k=o at hc
 obtain ⟨dst,op,type,pos,after,guard⟩:=o
 cases op<;>simp only at hc<;>try (cases hc)
 rename_i bop t x y yt
 cases bop<;>simp only [Zf,reduceCtorEq,if_false,if_true] at hc<;>try (cases hc)
 split at hc
 ·rename_i z yk h1 h2
  cases hc
  intro n' w G ac hF hh
  have v1:=hF.ev x
  have v2:=hF.ev y
  rw [h1] at v1
  rw [h2] at v2
  have v1:=v1.val_inv
  have v2:=v2.val_inv
  refine ⟨_,.val,fun w' _ _=>?_⟩
  simp only [execOp,v1,v2]
  refine VA ?_
  simp [eqGuard,binOp,Op.intBits,IntKind.bits]
  exact Yp (fun z:Nat=>IntKind.i64.wrap (z:Int)) (by rw [BitVec.toNat_xor,BitVec.toNat_ofInt,BitVec.toNat_ofInt];rfl)
 ·cases hc
end
end Go.Abs
section
namespace Go.Abs
inductive Z1 where
 | mk (op num:Int) (kids:List Z1)
namespace Z1
def op:Z1->Int|.mk a _ _=>a
def num:Z1->Int|.mk _ a _=>a
def kids:Z1->List Z1|.mk _ _ a=>a
end Z1
structure Func where
 params:LI
 result:Int
 body:Z1
structure W1 where
 decls:List Zb
 funcs:List Func
instance:Inhabited Z1:=⟨.mk 0 0 []⟩
mutual
def HJ:Z1->AV
 | .mk op num kids=>.agg [.i op,.i num,.sl (Yu kids) none]
def Yu:List Z1->List AV
 | []=>[]
 | e::r=>HJ e::Yu r
end
abbrev Y1 (e:Z1):AV:=.agg [.i e.op,.i e.num,.sl (Yu e.kids) none]
abbrev YX (e:Z1):List AV:=[.i e.op,.i e.num,.sl (Yu e.kids) none]
abbrev Xz (xs:List Z1):AV:=.sl (Yu xs) none
abbrev Qf (xs:List Z1) (v:Value):AV:=.sl (Yu xs) (some v)
abbrev DJ (f:Func):AV:=.agg [Z3 f.params,.i f.result,.i f.body.op,.i f.body.num,Xz f.body.kids]
abbrev FQ (f:Func):List AV:=[Z3 f.params,.i f.result,.i f.body.op,.i f.body.num,Xz f.body.kids]
def Xn (xs:List Func):List AV:=xs.map DJ
abbrev G0 (xs:List Func):AV:=.sl (Xn xs) none
abbrev Aa (p:W1):AV:=.agg [Ya p.decls,G0 p.funcs]
abbrev IE (p:W1):List AV:=[Ya p.decls,G0 p.funcs]
abbrev H7 (z:Int):AV:=.val (.int .u8 z)
def TA (xs:LI):List AV:=xs.map H7
abbrev U4 (xs:LI):AV:=.sl (TA xs) none
theorem Z2k (e:Z1):HJ e=Y1 e:=by cases e;rw [HJ];rfl
theorem XN:∀xs:List Z1,Yu xs=xs.map Y1
 | []=>by rw [Yu];rfl
 | s::ss=>by rw [Yu,XN ss,Z2k];rfl
theorem CK {xs:List Z1} {j:Nat} {x:Z1} (h:xs[j]? = some x):(Yu xs)[j]? = some (Y1 x):=by simp [XN,h]
theorem Ff {xs:List Func} {j:Nat} {x:Func} (h:xs[j]? = some x):(Xn xs)[j]? = some (DJ x):=by simp [Xn,h]
theorem HF {xs:LI} {j:Nat} {x:Int} (h:xs[j]? = some x):(TA xs)[j]? = some (H7 x):=by simp [TA,h]
@[simp] theorem HK (xs:List Z1):(Yu xs).length=xs.length:=by simp [XN]
@[simp] theorem CM (xs:List Func):(Xn xs).length=xs.length:=by simp [Xn]
@[simp] theorem B0 (xs:LI):(TA xs).length=xs.length:=by simp [TA]
theorem JJ (xs ys:List Z1):Yu (xs++ys)=Yu xs++Yu ys:=by simp [XN]
theorem Z2l (xs ys:List Func):Xn (xs++ys)=Xn xs++Xn ys:=by simp [Xn]
theorem HG (xs:LI) (n:Nat):(TA xs).take n=TA (xs.take n):=by simp [TA]
theorem HE (xs:LI) (n:Nat):(TA xs).drop n=TA (xs.drop n):=by simp [TA]
theorem UQ (xs:List Z1):∀y∈Yu xs,y.leaves.length=3:=by intro y hy;simp only [XN,XF] at hy;obtain ⟨x,_,rfl⟩:=hy;rfl
theorem Fg (xs:List Func):∀y∈Xn xs,y.leaves.length=5:=by intro y hy;simp only [Xn,XF] at hy;obtain ⟨x,_,rfl⟩:=hy;rfl
theorem Z2h (xs:LI):∀y∈TA xs,y.leaves.length=1:=by intro y hy;simp only [TA,XF] at hy;obtain ⟨x,_,rfl⟩:=hy;rfl
theorem JK (xs:List Z1):(Ze (Yu xs)).all AV.one=true:=Kv fun y hy=>by simp only [XN,XF] at hy;obtain ⟨x,_,rfl⟩:=hy;rfl
end Go.Abs
end
section
namespace Go.Abs
open Go.Proofs Go.Proofs.YtabmbhgiodcppaaGreat
section
variable {H:Type} {enc:TypeId × Value->H} {w:World}
def GA (w:World):Yg:=fun b _=>b<w.heap.size
abbrev Tr (enc:TypeId × Value->H) (w:World) (n:Nat) (t:TypeId) (cs:List Value) (x:DataW H × List MemPlace):Prop:=DataW.trod enc Tryz.prog w 0 (fun _=>true) true n t cs=some x
theorem ON {w:World} {a:Addr} {v:Value} (h:w.cell? a=some v):a.block<w.heap.size/\a.spot=none:=by
 unfold World.cell? at h
 split at h
 ·rename_i c e fr hb
  split at h
  ·cases h
  ·rename_i hs
   exact ⟨(UB.1 hb).1,by simpa using hs⟩
 ·cases h
theorem Mw {α:Type} {c:α->Nat}:∀{xs:List α} {ds:List (DataW H)},xs.length=ds.length->(∀(i:Nat) a d,xs[i]? = some a->ds[i]? = some d->c a+1<=Rows.uptoBulk d)->(xs.map fun a=>c a+1).sum<=Rows.uptoBulkAll ds
 | [],[],_,_=>X7 _
 | a::r,d::ds,hl,h=>by
  have h0:=h 0 a d rfl rfl
  have h1:=Mw (c:=c) (xs:=r) (ds:=ds) (by simpa using hl) fun i a d ha hd=>h (i+1) a d (by simpa using ha) (by simpa using hd)
  rw [T6,List.sum_cons,Rows.uptoBulkAll]
  omega
theorem PN {α:Type} {f:α->AV} {G:Yg} {k b:Nat} (hf:∀x,(f x).leaves.length=k):∀{xs:List α} {o:Nat},(∀(i:Nat) a,xs[i]? = some a->Wr w G b (o+i*k) (f a).leaves)->V4 w G k b o (xs.map f)
 | [],_,_=>.nil
 | x::r,o,h=>by
  refine .cons (hf x) (by have:=h 0 x rfl;simpa using this) (PN hf fun i a ha=>?_)
  have:=h (i+1) a (by simpa using ha)
  rw [show o+(i+1)*k=o+k+i*k by rw [Qp];omega] at this
  exact this
theorem Z9t {α:Type} [Inhabited α] {t e k:Nat} (ht:Tryz.prog.underlying t=some (.slice e)) (hk:Tryz.prog.cellsOf e=k) (h0:0<k) (f:α->AV) (hf:∀x,(f x).leaves.length=k) (c:α->Nat) (Q:α->Prop) {n:Nat} {cs:List Value} {x:DataW H × List MemPlace}
  (h:Tr enc w n t cs x) (el:∀m cs y,m<n->Tr enc w m e cs y->∃a:α,YT w (GA w) (f a).leaves cs/\c a+1<=Rows.uptoBulk y.1/\Q a) :
  ∃(v:Value) (xs:List α),cs=[v]/\RV w (GA w) (.sl (xs.map f) none) v/\(xs.map fun a=>c a+1).sum+1<=Rows.uptoBulk x.1/\∀a∈xs,Q a:=by
 rcases DataW.trod_slice ht h with ⟨rfl,rfl⟩|⟨a,len,cap,elems,rest,m,rfl,rfl,rfl,_,hlc,_,hlen,hel,_,_⟩
 ·exact ⟨_,[],rfl,.nil (by simp),by simp [Rows.uptoBulk],by simp⟩
 ·rw [hk] at hel
  have hone:∀i,i<len->∃z:α,∃cs' y,w.cells? 0 (a.add (i*k)) k=some cs'/\elems[i]? = some y/\YT w (GA w) (f z).leaves cs'/\c z+1<=Rows.uptoBulk y.1/\Q z:=by
   intro i hi
   have h1:=hel i hi
   rw [Ct om] at h1
   obtain ⟨cs',h2,h3⟩:=Option.bind_eq_some_iff.1 h1
   obtain ⟨z,hz1,hz2,hz3⟩:=el m cs' _ om h3
   exact ⟨z,cs',_,h2,Ct om,hz1,hz2,hz3⟩
  obtain ⟨V,hV⟩:=Go.Deep.choose_lt hone
  refine ⟨_,(List.range len).map V,rfl,?_,?_,?_⟩
  ·cases hl0:len with
   | zero=>exact .nil (by simp)
   | succ q=>
    have hsp:a.spot=none:=by
     obtain ⟨cs',y,g1,_⟩:=hV 0 om
     obtain ⟨_,g2,g3⟩:=World.cells?_some g1
     have g4:=g3 0 h0
     rw [Ct om] at g4
     have g5:=(ON g4).2
     simpa [Addr.add] using g5
    obtain ⟨b,o,sp⟩:=a
    simp only at hsp
    subst hsp
    rw [<-hl0]
    have hll:(((List.range len).map V).map f).length=len:=by simp
    have:=RV.sl (w:=w) (G:=GA w) (es:=((List.range len).map V).map f) (hv:=none) (b:=b) (o:=o) (k:=k) (cap:=cap) (by simp) (by rw [hll];exact hlc) (PN hf fun i z hz=>by
     have hi:i<len:=by have:=(Xh.1 hz).1;simpa using this
     have hz':V i=z:=by simpa [hi] using hz
     obtain ⟨cs',y,g1,_,g2,_⟩:=hV i hi
     rw [hz'] at g2
     obtain ⟨_,g3,g4⟩:=World.cells?_some g1
     refine Wr.of_cells g2 fun j u hj=>?_
     have hjl:j<k:=by have:=(Xh.1 hj).1;omega
     have g5:=(g4 j hjl).trans hj
     rw [Addr.add_lit,Addr.add_lit] at g5
     exact ⟨g5,(ON g5).1⟩)
    rw [hll] at this
    exact this
  ·have:=Mw (c:=c) (xs:=(List.range len).map V) (ds:=elems.map (·.1)) (by simp [hlen]) fun i z d hz hd=>by
    have hi:i<len:=by have:=(Xh.1 hz).1;simpa using this
    have hz':V i=z:=by simpa [hi] using hz
    obtain ⟨cs',y,_,g1,_,g2,_⟩:=hV i hi
    rw [Kj,g1] at hd
    simp only [EO,Wv] at hd
    rw [<-hd,<-hz']
    exact g2
   simp only [Rows.uptoBulk]
   omega
  ·intro z hz
   obtain ⟨i,hi,rfl⟩:=XF.1 hz
   obtain ⟨_,_,_,_,_,_,g⟩:=hV i (List.mem_range.1 hi)
   exact g
theorem Z9s {n:Nat} {cs:List Value} {x:DataW H × List MemPlace} (h:Tr enc w n 5 cs x):∃z:Int,cs=[.int .u8 z]/\Rows.uptoBulk x.1=1/\0<=z/\z<=255:=by
 obtain ⟨z,rfl,rfl,hw⟩:=DataW.trod_int Tryz.underlying5 h
 refine ⟨z,rfl,rfl,?_⟩
 simpa [Lit.wf,IntKind.min,IntKind.max,IntKind.signed,IntKind.bits] using hw
theorem PE {n:Nat} {cs:List Value} {x:DataW H × List MemPlace} (h:Tr enc w n 22 cs x):∃(v:Value) (xs:LI),cs=[v]/\RV w (GA w) (U4 xs) v/\∀z∈xs,0<=z/\z<=255:=by
 obtain ⟨v,xs,h1,h2,h3,h4⟩:=Z9t Tryz.underlying22 (k:=1) kr om (fun z:Int=>H7 z) (fun _=>rfl) (fun _=>0) (fun z=>0<=z/\z<=255) h fun m cs y _ hy=>by
  obtain ⟨z,rfl,hb,hz⟩:=Z9s hy
  exact ⟨z,.cons .val .nil,Nat.le_of_eq hb.symm,hz⟩
 exact ⟨v,xs,h1,h2,h4⟩
end
end Go.Abs
end
namespace Go.Abs
structure Sg where
 params:LI
 result:Int
abbrev M6 (f:Sg):AV:=.agg [.sl (Z6 f.params) none,.i f.result,.i 0,.i 0,.sl [] none]
def Wy (fs:List Sg):List AV:=fs.map M6
theorem HO {xs:List Sg} {j:Nat} {x:Sg} (h:xs[j]? = some x):(Wy xs)[j]? = some (M6 x):=by simp [Wy,h]
@[simp] theorem MU (xs:List Sg):(Wy xs).length=xs.length:=by simp [Wy]
theorem Fj (xs:List Sg):∀y∈Wy xs,y.leaves.length=5:=by intro y hy;simp only [Wy,XF] at hy;obtain ⟨x,_,rfl⟩:=hy;rfl
theorem MV (xs:List Sg):(Ze (Wy xs)).all AV.one=true:=Kv fun y hy=>by simp only [Wy,XF] at hy;obtain ⟨x,_,rfl⟩:=hy;rfl
mutual
def Z5.sz:Z5->Nat
 | .mk _ _ _ args kids=>1+args.length+YS kids
def Z7.sz:Z7->Nat
 | .mk steps _=>1+Yo steps
def Yo:List Z5->Nat
 | []=>0
 | s::r=>s.sz+Yo r
def YS:List Z7->Nat
 | []=>0
 | b::r=>b.sz+YS r
end
theorem Z5.sz_pos (s:Z5):1<=s.sz:=by cases s;rw [Z5.sz];omega
theorem Z7.sz_pos (b:Z7):1<=b.sz:=by cases b;rw [Z7.sz];omega
theorem KN (l:List Z5):l.length<=Yo l:=by
 induction l with
 | nil=>simp
 | cons s r ih=>have:=s.sz_pos;simp only [Yw,Yo];omega
theorem Mu (l:List Z7):l.length<=YS l:=by
 induction l with
 | nil=>simp
 | cons s r ih=>have:=s.sz_pos;simp only [Yw,YS];omega
theorem Zcu {l:List Z5} {k:Nat} {s:Z5} (h:l[k]? = some s):s.sz<=Yo l:=by
 induction l generalizing k with
 | nil=>simp at h
 | cons t r ih=>
  cases k with
  | zero=>simp at h;subst h;simp only [Yo];omega
  | succ k=>have:=ih (k:=k) (by simpa using h);simp only [Yo];omega
theorem Mt {l:List Z7} {k:Nat} {s:Z7} (h:l[k]? = some s):s.sz<=YS l:=by
 induction l generalizing k with
 | nil=>simp at h
 | cons t r ih=>
  cases k with
  | zero=>simp at h;subst h;simp only [YS];omega
  | succ k=>have:=ih (k:=k) (by simpa using h);simp only [YS];omega
theorem Z5.sz_eq (s:Z5):s.sz=1+s.args.length+YS s.kids:=by cases s;rw [Z5.sz];rfl
theorem Z7.sz_eq (b:Z7):b.sz=1+Yo b.steps:=by cases b;rw [Z7.sz];rfl
theorem Dw {b:Z7} {k:Nat} {s:Z5} (h:b.steps[k]? = some s):s.sz<b.sz:=by have:=Zcu h;have:=b.sz_eq;omega
theorem Q0 {s:Z5} {k:Nat} {b:Z7} (h:s.kids[k]? = some b):b.sz<s.sz:=by have:=Mt h;have:=s.sz_eq;omega
theorem KX (s:Z5):s.args.length<s.sz:=by have:=s.sz_eq;omega
theorem QC (s:Z5):s.kids.length<s.sz:=by have:=s.sz_eq;have:=Mu s.kids;omega
theorem Uk (b:Z7):b.steps.length<b.sz:=by have:=b.sz_eq;have:=KN b.steps;omega
structure QT (ds:List Zb):Prop where
 len:ds.length<=4194304
 cons:∀d∈ds,d.cons.length<=4194304
 fields:∀d∈ds,∀c∈d.cons,c.fields.length<=4194304
theorem QT.cons_at {ds:List Zb} (h:QT ds) {k:Nat} {d:Zb} (hd:ds[k]? = some d):d.cons.length<=4194304:=h.cons d (Y2 hd)
theorem QT.fields_at {ds:List Zb} (h:QT ds) {k j:Nat} {d:Zb} {c:Yj} (hd:ds[k]? = some d) (hc:d.cons[j]? = some c):c.fields.length<=4194304:=
 h.fields d (Y2 hd) c (Y2 hc)
def JD (m:Nat) (c:Yj):Bool:=decide (c.fields.length<=3)&&Wi m c.fields
def Qu (d:Zb):List Zb->Bool
 | []=>false
 | e::r=>if e.cons.length=0/\e.frm=d.frm/\e.to_=d.to_ then true else Qu d r
def Tm (m:Nat):List Yj->Bool
 | []=>true
 | c::r=>if JD m c=true then Tm m r else false
def Tb (ds:List Zb) (d:Zb) (i:Nat):Bool:=
 if 0<d.cons.length then (if d.cons.length<=3/\d.frm=0/\d.to_=0 then Tm ds.length d.cons else false)
 else if Qu d (ds.take i)=true then false else decide (0<=d.frm/\d.frm<=ds.length)&&decide (0<=d.to_/\d.to_<=ds.length)
def BR (ds:List Zb) (i:Nat):Bool:=(ds[i]?.map fun d=>Tb ds d i).getD false
theorem Fd {ds:List Zb} {i:Nat} {d:Zb} (h:ds[i]? = some d):BR ds i=Tb ds d i:=by rw [BR,h];rfl
def UN (ds:List Zb):List Zb->Nat->Bool
 | [],_=>true
 | _::r,i=>if BR ds i=true then UN ds r (i+1) else false
def WO (ds:List Zb):Bool:=decide (ds.length<=4)&&UN ds ds 0
theorem Z1p {m:Nat} {cs:List Yj}:Tm m cs=true↔∀c∈cs,JD m c=true:=by
 induction cs with
 | nil=>simp [Tm]
 | cons c r ih=>
  rw [Tm]
  split
  ·rename_i h;simp [ih,h]
  ·rename_i h;simp [h]
theorem MM {ds:List Zb}:∀{l:List Zb} {i:Nat},UN ds l i=true↔∀j<l.length,BR ds (i+j)=true
 | [],i=>by simp [UN]
 | d::r,i=>by
  rw [UN]
  split
  ·rename_i h
   rw [MM (l:=r)]
   constructor
   ·intro hq j hj
    cases j with
    | zero=>exact h
    | succ j=>have:=hq j (by simpa using hj);rwa [show i+(j+1)=i+1+j by omega]
   ·intro hq j hj
    have:=hq (j+1) (by simpa using hj)
    rwa [show i+(j+1)=i+1+j by omega] at this
  ·rename_i h
   simp only [Bool.false_eq_true,false_iff]
   intro hq
   exact h (hq 0 (by simp))
theorem LQ {ds:List Zb} (h:WO ds=true):Xw ds:=by
 simp only [WO,Xo,decide_eq_true_eq] at h
 obtain ⟨h1,h2⟩:=h
 rw [MM] at h2
 have key:∀d∈ds,∃i,Tb ds d i=true:=fun d hd=>by
  obtain ⟨i,hi⟩:=List.mem_iff_getElem?.1 hd
  have:=h2 i (Xh.1 hi).1
  rw [Wh,Fd hi] at this
  exact ⟨i,this⟩
 have hc:∀d∈ds,0<d.cons.length->d.cons.length<=3/\Tm ds.length d.cons=true:=fun d hd hp=>by
  obtain ⟨i,hi⟩:=key d hd
  rw [Tb,Zk hp] at hi
  split at hi
  ·rename_i h;exact ⟨h.1,hi⟩
  ·cases hi
 refine ⟨h1,fun d hd=>?_,fun d hd c hc'=>?_⟩
 ·by_cases hp:0<d.cons.length
  ·exact (hc d hd hp).1
  ·omega
 ·have:=Z1p.1 (hc d hd (List.length_pos_of_mem hc')).2 c hc'
  simp only [JD,Xo,decide_eq_true_eq] at this
  exact this.1
def KI (m:Nat) (f:Sg):Bool:=decide (f.params.length<=3)&&(Wi m f.params&&decide (0<=f.result/\f.result<=m))
def KJ (m:Nat):List Sg->Bool
 | []=>true
 | f::r=>if KI m f=true then KJ m r else false
def Fq:List Sg->Bool
 | []=>false
 | f::_=>decide (f.params.length=0)&&decide (f.result=0)
theorem Z3f {fs:List Sg} {x:Sg} (h:fs[0]? = some x):Fq fs=(decide (x.params.length=0)&&decide (x.result=0)):=by
 cases fs with
 | nil=>simp at h
 | cons f r=>simp at h;subst h;rfl
def UL (ds:List Zb) (fs:List Sg):Bool:=
 WO ds&&(decide (1<=fs.length/\fs.length<=4)&&(KJ ds.length fs&&Fq fs))
def K8 (ps:LI):LI->Option Int->Bool
 | [],_=>true
 | v::r,prev=>if (0<=v/\v<=(ps.length:Int)-1)/\ps[v.toNat]?≠some 0/\(∀p,prev=some p->p<v) then K8 ps r (some v) else false
theorem IM {ps r:LI} {v:Int} {prev:Option Int} (h:(0<=v/\v<=(ps.length:Int)-1)/\ps[v.toNat]?≠some 0/\(∀p,prev=some p->p<v)):K8 ps (v::r) prev=K8 ps r (some v):=by
 rw [K8,Zk h]
theorem FW {ps r:LI} {v:Int} {prev:Option Int} (h:¬((0<=v/\v<=(ps.length:Int)-1)/\ps[v.toNat]?≠some 0/\(∀p,prev=some p->p<v))):K8 ps (v::r) prev=false:=by
 rw [K8,Za h]
def Ue (ps ls:LI):Bool:=K8 ps ls none
def Cc:List Yz->Bool
 | []=>true
 | r::rs=>if Ue r.params r.lent=true then Cc rs else false
def TK (r:Yz):Sg:=⟨r.params,r.result⟩
def JR (n:ZC):Bool:=decide (n.routines.length<=4)&&(UL n.decls (n.routines.map TK)&&Cc n.routines)
end Go.Abs
section
namespace Go.Abs
def Wt {α:Type} (xs:List α) (i:Int):Option α:=if 0<=i/\i<=(xs.length:Int)-1 then xs[i.toNat]? else none
theorem AW {α:Type} {xs:List α} {i:Int} {x:α} (h:0<=i/\i<=(xs.length:Int)-1) (hx:xs[i.toNat]? = some x):Wt xs i=some x:=by rw [Wt,Zk h,hx]
theorem Ac {α:Type} {xs:List α} {i:Int} (h:¬(0<=i/\i<=(xs.length:Int)-1)):Wt xs i=none:=by rw [Wt,Za h]
theorem CA {α:Type} {xs:List α} {i:Int} {x:α} (h:Wt xs i=some x):(0<=i/\i<=(xs.length:Int)-1)/\xs[i.toNat]? = some x:=by
 rw [Wt] at h
 split at h
 ·rename_i h1;exact ⟨h1,h⟩
 ·cases h
def Ki (vars:LI):LI->LI->Bool
 | [],[]=>true
 | a::as1,t::ts=>if Wt vars a=some t then Ki vars as1 ts else false
 | _,_=>false
def WM (vars args types:LI):Bool:=Ki vars args types
theorem Si {vars:LI}:∀{args types:LI},args.length≠types.length->Ki vars args types=false
 | [],[],h=>absurd rfl h
 | [],_::_,_=>rfl
 | _::_,[],_=>rfl
 | a::as1,t::ts,h=>by
  rw [Ki]
  split
  ·exact Si (by simpa using h)
  ·rfl
theorem Zdo {vars args types:LI} {k:Nat} {a t:Int} (ha:args[k]? = some a) (ht:types[k]? = some t) (h:Wt vars a=some t) :
  Ki vars (args.drop k) (types.drop k)=Ki vars (args.drop (k+1)) (types.drop (k+1)):=by
 rw [Yi ha,Yi ht,Ki,Zk h]
theorem Sh {vars args types:LI} {k:Nat} {a t:Int} (ha:args[k]? = some a) (ht:types[k]? = some t) (h:Wt vars a≠some t) :
  Ki vars (args.drop k) (types.drop k)=false:=by
 rw [Yi ha,Yi ht,Ki,Za h]
theorem Zdn {vars args types:LI} {k:Nat} (ha:args.length<=k) (ht:types.length<=k):Ki vars (args.drop k) (types.drop k)=true:=by
 rw [Xt ha,Xt ht];rfl
def TW (op:Int):Bool:=op==0||(op==6||(op==8||(op==9||op==10)))
def Xa (op:Int):Bool:=decide (0<=op/\op<=11)
def YK (op:Int):Bool:=decide (14<=op/\op<=17)
def TN (vars:LI) (op into:Int):Bool:=
 if into=0 then true else if op=6 then ((Wt vars (into-1)).map fun t=>decide (0<t)).getD false else false
def DL (ds:List Zb) (ps:LI) (res:Int):Int:=Jx ds (ps.getLast?.getD 0) res
def Bm (ds:List Zb) (vars:LI) (op:Int) (args:LI) (r:Yz):Int:=
 if op=9 then (if WM vars args r.params=true then r.result else -1)
 else if r.params.length=0∨0<r.lent.length∨¬WM vars args (r.params.take (r.params.length-1))=true then -1
 else DL ds r.params r.result
def QL (n:ZC) (vars:LI) (op num:Int) (args:LI):Int:=
 match Wt n.routines num with
 | none=>-1
 | some r=>Bm n.decls vars op args r
def Kr (ds:List Zb) (vars:LI) (op:Int) (args:LI):Int:=
 match args with
 | [a]=>match Wt vars a with
  | some t=>if t=0 then -1 else if (op≠14/\op≠15)/\VE ds t=true then -1 else 0
  | none=>-1
 | _=>-1
def Ko (ds:List Zb) (vars:LI) (args:LI):Int:=
 match args with
 | [a,b]=>match Wt vars a with
  | some t=>if VE ds t=true then
    (match ds[(t-1).toNat]? with
     | some d=>if WM vars [b] [d.frm]=true then d.to_ else -1
     | none=>-1) else -1
  | none=>-1
 | _=>-1
def XU (ds:List Zb) (op num:Int):List LI:=if op=7 then [[],[]] else (ZQ ds num).map (ZK ds)
mutual
def YY (n:ZC) (vars:LI):Z5->Int
 | .mk op num into args kids=>
  if (num≠0/\¬TW op=true)∨¬TN vars op into=true∨(0<kids.length/\op≠7/\op≠8) then -1
  else if op=0 then (if args.length=0/\(-999<=num/\num<=999) then 0 else -1)
  else if op=1∨op=2∨op=3∨op=4 then (if WM vars args [0,0]=true then 0 else -1)
  else if op=5 then (if WM vars args [0]=true then 0 else -1)
  else if op=6 then (if 0<We n.decls num/\WM vars args (ZK n.decls num)=true then We n.decls num else -1)
  else if op=7 then (if WM vars args [0]=true then (if (XU n.decls op num).length=0∨kids.length≠(XU n.decls op num).length then -1 else Qe n vars kids (XU n.decls op num) true 0) else -1)
  else if op=8 then (if WM vars args [num]=true then (if (XU n.decls op num).length=0∨kids.length≠(XU n.decls op num).length then -1 else Qe n vars kids (XU n.decls op num) true 0) else -1)
  else if op=9∨op=10 then QL n vars op num args
  else if op=11 then Ko n.decls vars args
  else if op=14∨op=15∨op=16∨op=17 then Kr n.decls vars op args
  else -1
def Qe (n:ZC) (vars:LI):List Z7->List LI->Bool->Int->Int
 | [],_,_,t=>t
 | b::bs,more,first,t=>
  match more with
  | []=>-1
  | m::ms=>if XW n (vars++m) b<0∨(first=false/\XW n (vars++m) b≠t) then -1 else Qe n vars bs ms false (XW n (vars++m) b)
def Uj (n:ZC):List Z5->LI->Option LI
 | [],vars=>some vars
 | s::r,vars=>if YY n vars s<0 then none else Uj n r (if Xa s.op=true then vars++[YY n vars s] else vars)
def XW (n:ZC) (vars:LI):Z7->Int
 | .mk steps result=>match Uj n steps vars with
  | none=>-1
  | some vs=>(Wt vs result).getD (-1)
end
def Jc (n:ZC) (vars:LI) (op num:Int) (kids:List Z7):Int:=
 if (XU n.decls op num).length=0∨kids.length≠(XU n.decls op num).length then -1 else Qe n vars kids (XU n.decls op num) true 0
mutual
def Bb:Z5->Int->Int
 | .mk _ _ _ _ kids,left=>JP kids left
def T0:Z7->Int->Int
 | .mk steps _,left=>Je steps left
def Je:List Z5->Int->Int
 | [],left=>left
 | s::r,left=>if left<1 then -1 else if Bb s (left-1)<0 then -1 else Je r (Bb s (left-1))
def JP:List Z7->Int->Int
 | [],left=>left
 | b::r,left=>if T0 b left<0 then -1 else JP r (T0 b left)
end
def AI (b:Z7):Int:=if T0 b 600<0 then -1 else 600-T0 b 600
def AE (n:ZC):List Yz->Bool
 | []=>true
 | r::rs=>if ¬AI r.body<0/\XW n r.params r.body=r.result then AE n rs else false
def QR (n:ZC):Bool:=JR n&&AE n n.routines
theorem OI:(∀(s:Z5) (l:Int),0<=l->Bb s l<=l)/\(∀(b:Z7) (l:Int),0<=l->T0 b l<=l):=by
 have key:∀m:Nat,(∀s:Z5,s.sz<=m->∀l:Int,0<=l->Bb s l<=l)/\(∀b:Z7,b.sz<=m->∀l:Int,0<=l->T0 b l<=l):=by
  intro m
  induction m with
  | zero=>exact ⟨fun s h=>by have:=s.sz_pos;omega,fun s h=>by have:=s.sz_pos;omega⟩
  | succ m ih=>
   refine ⟨fun s hs l hl=>?_,fun b hb l hl=>?_⟩
   ·cases s with
    | mk op num into args kids=>
     rw [Bb]
     have hk:YS kids<=m:=by rw [Z5.sz] at hs;omega
     clear hs
     induction kids generalizing l with
     | nil=>rw [JP];exact Int.le_refl _
     | cons b r ihr=>
      rw [YS] at hk
      have:=ih.2 b om l hl
      rw [JP]
      split
      ·omega
      ·have:=ihr (T0 b l) om om;omega
   ·cases b with
    | mk steps res=>
     rw [T0]
     have hk:Yo steps<=m:=by rw [Z7.sz] at hb;omega
     clear hb
     induction steps generalizing l with
     | nil=>rw [Je];exact Int.le_refl _
     | cons s r ihr=>
      rw [Yo] at hk
      rw [Je]
      split
      ·omega
      ·have:=ih.1 s om (l-1) om
       split
       ·omega
       ·have:=ihr (Bb s (l-1)) om om;omega
 exact ⟨fun s l hl=>(key s.sz).1 s (X7 _) l hl,fun b l hl=>(key b.sz).2 b (X7 _) l hl⟩
end Go.Abs
namespace Go.Abs
theorem Zcv {l:List Z5} {k:Nat} {s:Z5} (h:l[k]? = some s):k+s.sz<=Yo l:=by
 induction l generalizing k with
 | nil=>simp at h
 | cons t r ih=>
  cases k with
  | zero=>simp at h;subst h;simp only [Yo];omega
  | succ k=>have:=ih (k:=k) (by simpa using h);have:=t.sz_pos;simp only [Yo];omega
theorem Cm {b:Z7} {k:Nat} {s:Z5} (h:b.steps[k]? = some s):k+s.sz<b.sz:=by have:=Zcv h;have:=b.sz_eq;omega
structure Xr (n:ZC):Prop where
 decls:Xw n.decls
 len:n.routines.length<=4
 params:∀r∈n.routines,r.params.length<=3
 lent:∀r∈n.routines,r.lent.length<=4194304
theorem Xr.params_at {n:ZC} (h:Xr n) {k:Nat} {r:Yz} (hr:n.routines[k]? = some r):r.params.length<=3:=h.params r (Y2 hr)
theorem Xr.lent_at {n:ZC} (h:Xr n) {k:Nat} {r:Yz} (hr:n.routines[k]? = some r):r.lent.length<=4194304:=h.lent r (Y2 hr)
theorem Z0m {ds:List Zb} {num:Int} {k:Nat} {x:Int} (h:(ZQ ds num)[k]? = some x):(XU ds 8 num)[k]? = some (ZK ds x):=by
 rw [XU,Za om,Kj,h];rfl
end Go.Abs
namespace Go.Abs
theorem Dd {ds:List Zb} (hd:Xw ds) (t:Int):(ZQ ds t).length<=3:=by
 rw [ZQ]
 split
 ·rename_i h
  obtain ⟨d,hd1⟩:=Aq (xs:=ds) (j:=(t-1).toNat) om
  rw [hd1,Z8s]
  exact hd.cons_at hd1
 ·simp
theorem V5 {ds:List Zb} (hd:Xw ds) (c:Int):(ZK ds c).length<=3:=by
 by_cases h:We ds c<1
 ·rw [(MD h).1];simp
 ·obtain ⟨k,d,x,h1,_,h3,_,h5⟩:=Hu h
  rw [h5];exact hd.fields_at h1 h3
theorem Mg {ds:List Zb} (hd:Xw ds) {op num:Int} {k:Nat} {m:LI} (h:(XU ds op num)[k]? = some m):m.length<=3:=by
 have hm:=Y2 h
 rw [XU] at hm
 split at hm
 ·simp at hm;subst hm;simp
 ·obtain ⟨c,_,rfl⟩:=XF.1 hm;exact V5 hd c
theorem Kq {α:Type} {xs:List α} {x:α} (h:xs.length=1) (hx:xs[0]? = some x):xs=[x]:=by
 cases xs with
 | nil=>simp at h
 | cons a r=>
  cases r with
  | nil=>simp at hx;rw [hx]
  | cons b r=>simp at h
theorem CF {ds:List Zb} {us args:LI} {op:Int} (h:args.length≠1):Kr ds us op args=-1:=by
 cases args with
 | nil=>rfl
 | cons a r=>
  cases r with
  | nil=>simp at h
  | cons b r=>rfl
theorem CG {ds:List Zb} {us args:LI} {op a:Int} (h:args=[a]) (hi:¬(0<=a/\a<=(us.length:Int)-1)):Kr ds us op args=-1:=by
 subst h;rw [Kr];simp only [Ac hi]
theorem CE {ds:List Zb} {us args:LI} {op a t:Int} (h:args=[a]) (hi:0<=a/\a<=(us.length:Int)-1) (ht:us[a.toNat]? = some t) :
  Kr ds us op args=if t=0 then -1 else if (op≠14/\op≠15)/\VE ds t=true then -1 else 0:=by
 subst h;rw [Kr];simp only [AW hi ht]
theorem Zad {n:ZC} {us args:LI} {op num:Int} {r:Yz} (hi:0<=num/\num<=(n.routines.length:Int)-1) (hr:n.routines[num.toNat]? = some r) :
  QL n us op num args=Bm n.decls us op args r:=by
 rw [QL];simp only [AW hi hr]
theorem Zae {n:ZC} {us args:LI} {op num:Int} (hi:¬(0<=num/\num<=(n.routines.length:Int)-1)):QL n us op num args=-1:=by
 rw [QL];simp only [Ac hi]
theorem Z6a {xs:LI} {x:Int} (h:xs[xs.length-1]? = some x):xs.getLast?.getD 0=x:=by
 rw [List.getLast?_eq_getElem?,h];rfl
theorem Z7w {n:ZC} {us:LI} {bs:List Z7} {ms:List LI} {b:Z7} {m:LI} {k:Nat} {t:Int} (hb:bs[k]? = some b) (hm:ms[k]? = some m)
  (h:¬(XW n (us++m) b<0∨(k:Int)>0/\XW n (us++m) b≠t)) :
  Qe n us (bs.drop k) (ms.drop k) (decide (k=0)) t=Qe n us (bs.drop (k+1)) (ms.drop (k+1)) (decide (k+1=0)) (XW n (us++m) b):=by
 rw [Yi hb,Yi hm,Qe,Za]
 ·simp
 ·rintro (q|⟨q1,q2⟩)
  ·exact h (.inl q)
  ·exact h (.inr ⟨by simp at q1;omega,q2⟩)
theorem Z7u {n:ZC} {us:LI} {bs:List Z7} {ms:List LI} {b:Z7} {m:LI} {k:Nat} {t:Int} (hb:bs[k]? = some b) (hm:ms[k]? = some m)
  (h:XW n (us++m) b<0∨(k:Int)>0/\XW n (us++m) b≠t) :
  Qe n us (bs.drop k) (ms.drop k) (decide (k=0)) t=-1:=by
 rw [Yi hb,Yi hm,Qe,Zk]
 rcases h with q|⟨q1,q2⟩
 ·exact .inl q
 ·exact .inr ⟨by simp;omega,q2⟩
theorem Z7v {n:ZC} {us:LI} {bs:List Z7} {ms:List LI} {k:Nat} {f:Bool} {t:Int} (hb:bs.length<=k):Qe n us (bs.drop k) (ms.drop k) f t=t:=by
 rw [Xt hb,Qe]
end Go.Abs
end
namespace Go.Abs
theorem LE (n:ZC) (us:LI) (s:Z5):YY n us s =
  if (s.num≠0/\¬TW s.op=true)∨¬TN us s.op s.into=true∨(0<s.kids.length/\s.op≠7/\s.op≠8) then -1
  else if s.op=0 then (if s.args.length=0/\(-999<=s.num/\s.num<=999) then 0 else -1)
  else if s.op=1∨s.op=2∨s.op=3∨s.op=4 then (if WM us s.args [0,0]=true then 0 else -1)
  else if s.op=5 then (if WM us s.args [0]=true then 0 else -1)
  else if s.op=6 then (if 0<We n.decls s.num/\WM us s.args (ZK n.decls s.num)=true then We n.decls s.num else -1)
  else if s.op=7 then (if WM us s.args [0]=true then Jc n us s.op s.num s.kids else -1)
  else if s.op=8 then (if WM us s.args [s.num]=true then Jc n us s.op s.num s.kids else -1)
  else if s.op=9∨s.op=10 then QL n us s.op s.num s.args
  else if s.op=11 then Ko n.decls us s.args
  else if s.op=14∨s.op=15∨s.op=16∨s.op=17 then Kr n.decls us s.op s.args
  else -1:=by
 cases s with
 | mk op num into args kids=>rw [YY];rfl
theorem Hl (n:ZC) (us:LI) (b:Z7):XW n us b=match Uj n b.steps us with
  | none=>-1
  | some vs=>(Wt vs b.result).getD (-1):=by
 cases b with
 | mk st r=>rw [XW];rfl
theorem Me {α:Type} {xs:List α} {x:α} (h:xs.length=2) (hx:xs[0]? = some x):∃y,xs=[x,y]:=by
 match xs,h with
 | [a,b],_=>simp at hx;subst hx;exact ⟨b,rfl⟩
theorem UC {ds:List Zb} {us args:LI} (h:args.length≠2):Ko ds us args=-1:=by
 match args,h with
 | [],_=>rfl
 | [_],_=>rfl
 | [_,_],h=>simp at h
 | _::_::_::_,_=>rfl
theorem UD {ds:List Zb} {us args:LI} {a:Int} (hl:args.length=2) (h:args[0]? = some a) (hi:¬(0<=a/\a<=(us.length:Int)-1)):Ko ds us args=-1:=by
 obtain ⟨y,rfl⟩:=Me hl h;rw [Ko];simp only [Ac hi]
theorem Um {ds:List Zb} {us args:LI} {a t:Int} (hl:args.length=2) (h:args[0]? = some a) (hi:0<=a/\a<=(us.length:Int)-1) (ht:us[a.toNat]? = some t) :
  Ko ds us args=if VE ds t=true then
    (match ds[(t-1).toNat]? with
     | some d=>if WM us (args.drop 1) [d.frm]=true then d.to_ else -1
     | none=>-1) else -1:=by
 obtain ⟨y,rfl⟩:=Me hl h;rw [Ko];simp only [AW hi ht];rfl
theorem Z0f {ds:List Zb} {us args:LI} {a t:Int} {d:Zb} (hl:args.length=2) (h:args[0]? = some a) (hi:0<=a/\a<=(us.length:Int)-1) (ht:us[a.toNat]? = some t)
  (hA:VE ds t=true) (hd:ds[(t-1).toNat]? = some d):Ko ds us args=if WM us (args.drop 1) [d.frm]=true then d.to_ else -1:=by
 rw [Um hl h hi ht,Zk hA];simp only [hd]
theorem Iu {ds:List Zb} {t:Int} (h:VE ds t=true):1<=t/\t<=ds.length:=by
 simp only [VE,Xo,decide_eq_true_eq] at h;exact h.1
theorem Z8b (b:Z7) (l:Int):T0 b l=Je b.steps l:=by cases b;rw [T0];rfl
theorem OJ (s:Z5) (l:Int):Bb s l=JP s.kids l:=by cases s;rw [Bb];rfl
structure Js (n:ZC):Prop where
 decls:QT n.decls
 len:n.routines.length<=4194304
 params:∀r∈n.routines,r.params.length<=4194304
 lent:∀r∈n.routines,r.lent.length<=4194304
 body:∀r∈n.routines,r.body.sz<=10000000
theorem Lr {m:Nat} {fs:List Sg} (h:KJ m fs=true):∀f∈fs,KI m f=true:=by
 induction fs with
 | nil=>simp
 | cons f r ih=>
  rw [KJ] at h
  split at h
  ·rename_i h1
   intro g hg
   rcases YM.1 hg with rfl|hg
   ·exact h1
   ·exact ih h g hg
  ·cases h
theorem OV {n:ZC} (hz:Js n) (h:JR n=true):Xr n:=by
 simp only [JR,UL,Xo,decide_eq_true_eq] at h
 obtain ⟨h1,⟨h2,h3,h4,h5⟩,h6⟩:=h
 refine ⟨LQ h2,h1,fun r hr=>?_,hz.lent⟩
 have:=Lr h4 (TK r) (XF.2 ⟨r,hr,rfl⟩)
 simp only [KI,Xo,decide_eq_true_eq] at this
 exact this.1
def gI (xs:LI) (i:Int):Int:=xs[i.toNat]?.getD 0
theorem UW {xs:LI} {i:Int} {x:Int} (h:xs[i.toNat]? = some x):gI xs i=x:=by rw [gI,h];rfl
structure ZH where
 vars:LI
 own:LI
 par:LI
 con:LI
 fst:LI
 tok:LI
def ZH.grow (L:ZH) (t own par:Int):ZH:=⟨L.vars++[t],L.own++[own],L.par++[par],L.con++[-1],L.fst++[-1],L.tok++[-1]⟩
def TM (L:ZH) (v:Int):Option ZH:=if gI L.own v<1 then none else some { L with own:=L.own.set v.toNat (gI L.own v-1) }
def Qr (own par ln:LI):Nat->Int->Bool
 | 0,_=>false
 | k+1,v=>if gI own v<1/\¬v∈ln then (if gI par v<0 then false else Qr own par ln k (gI par v)) else true
def UM (L:ZH) (ln:LI) (v:Int):Bool:=Qr L.own L.par ln (v.toNat+1) v
def Q7:LI->Int->LI->LI
 | own,_,[]=>own
 | own,p,f::r=>Q7 (if f≠0 then own.set p.toNat (gI own p+1) else own) (p+1) r
def JS (ds:List Zb) (L:ZH) (op x:Int):Option ZH:=
 if gI L.con x<0∨(op=17/\0<=gI L.tok x) then none
 else match TM L x with
  | none=>none
  | some L1=>some { L1 with
    own:=Q7 L1.own (gI L.fst x) (ZK ds (gI L.con x))
    tok:=if op=17 then L.tok.set x.toNat (ZK ds (gI L.con x)).length else L.tok }
def JF (op:Int):Bool:=op==6||(op==9||(op==10||op==11))
def Da (n:ZC) (op num:Int):LI:=if op=9 then ((n.routines[num.toNat]?).map (·.lent)).getD [] else []
def UH (n:ZC) (op num:Int) (i:Nat):Bool:=decide ((i:Int)∈Da n op num)
def KY (n:ZC) (vars:LI) (op num a:Int) (i:Nat):Bool:=JF op&&(gI vars a != 0&&!UH n op num i)
def K4 (n:ZC) (op num:Int):LI->Nat->ZH->Option ZH
 | [],_,L=>some L
 | a::r,i,L=>if KY n L.vars op num a i=true then (match TM L a with
   | none=>none
   | some L1=>K4 n op num r (i+1) L1) else K4 n op num r (i+1) L
def B8 (n:ZC) (op num:Int) (ln:LI) (L:ZH):LI->Nat->Bool
 | [],_=>true
 | a::r,i=>if UH n op num i=true/\¬UM L ln a=true then false else B8 n op num ln L r (i+1)
def E2 (L:ZH) (into:Int) (m:Nat):Option ZH:=
 if 0<into then (if gI L.tok (into-1)≠m then none else some { L with tok:=L.tok.set (into-1).toNat (-1) }) else some L
def J3 (n:ZC) (ln:LI) (L:ZH) (op num into:Int) (args:LI):Option ZH:=
 match K4 n op num args 0 L with
 | none=>none
 | some L1=>if B8 n op num ln L1 args 0=true then E2 L1 into args.length else none
def Bu:LI->LI->Bool
 | o::os,t::ts=>if o≠0∨0<=t then false else Bu os ts
 | _,_=>true
def ZH.take (L:ZH) (m:Nat):ZH:=⟨L.vars.take m,L.own.take m,L.par.take m,L.con.take m,L.fst.take m,L.tok.take m⟩
def KZ (L:ZH) (m:Nat):Option ZH:=if Bu (L.own.drop m) (L.tok.drop m)=true then some (L.take m) else none
def C3 (L:ZH) (par:Int):LI->ZH
 | []=>L
 | t::r=>C3 (L.grow t 0 par) par r
def BI (ds:List Zb) (L:ZH) (x c:Int):ZH:=
 C3 { L with con:=L.con.set x.toNat c,fst:=L.fst.set x.toNat L.vars.length } x (ZK ds c)
def Ts (ds:List Zb) (L:ZH) (op num:Int) (args:LI) (i:Nat):ZH:=
 if op=8 then BI ds L (gI args 0) (gI (ZQ ds num) i) else L
def AB (lent:LI):LI->Nat->ZH->ZH
 | [],_,L=>L
 | t::r,i,L=>AB lent r (i+1) (L.grow t (if t≠0/\¬(i:Int)∈lent then 1 else 0) (-1))
def Kb (r:Yz):ZH:=AB r.lent r.params 0 ⟨[],[],[],[],[],[]⟩
def BS (L:ZH) (ln:LI) (v:Int):Option ZH:=if UM L ln v=true then some { L with own:=L.own.set v.toNat (gI L.own v+1) } else none
def Jk (n:ZC) (ln:LI) (L:ZH) (op num into:Int) (args:LI) (ch:Option ZH):Option ZH:=
 if op=14 then BS L ln (gI args 0)
 else if op=15 then TM L (gI args 0)
 else if op=16∨op=17 then JS n.decls L op (gI args 0)
 else if op=7∨op=8 then (if op=8/\¬UM L ln (gI args 0)=true then none else ch)
 else J3 n ln L op num into args
def JN (L:ZH) (op t:Int) (r:Option ZH):Option ZH:=
 match r with
 | none=>none
 | some L1=>if Xa op=true then some (L1.grow t (if t≠0 then 1 else 0) (-1)) else some L1
def Cd (L:ZH) (first:Option ZH) (rest:ZH->Bool):Option ZH:=
 match first with
 | none=>none
 | some one=>if rest one=true then some { L with own:=one.own,tok:=one.tok } else none
def Gu (one:ZH) (two:Option ZH) (rest:Bool):Bool:=
 match two with
 | none=>false
 | some two=>if one.own=two.own/\one.tok=two.tok then rest else false
def EF (r:Option ZH) (f:ZH->Option ZH):Option ZH:=match r with|none=>none|some L=>f L
def JL (m:Nat) (res:Int) (L:ZH):Option ZH:=EF (if gI L.vars res≠0 then TM L res else some L) fun L2=>KZ L2 m
mutual
def Qi (n:ZC) (ln:LI) (L:ZH):Z5->Option ZH
 | .mk op num into args kids=>JN L op (YY n L.vars (.mk op num into args kids)) (Jk n ln L op num into args (KA n ln L op num args kids))
def KA (n:ZC) (ln:LI) (L:ZH) (op num:Int) (args:LI):List Z7->Option ZH
 | []=>none
 | b::bs=>Cd L (VM n ln (Ts n.decls L op num args 0) L.vars.length b) fun one=>Jb n ln L op num args one bs 1
def Jb (n:ZC) (ln:LI) (L:ZH) (op num:Int) (args:LI) (one:ZH):List Z7->Nat->Bool
 | [],_=>true
 | b::bs,i=>Gu one (VM n ln (Ts n.decls L op num args i) L.vars.length b) (Jb n ln L op num args one bs (i+1))
def Jl (n:ZC) (ln:LI) (L:ZH):List Z5->Option ZH
 | []=>some L
 | s::r=>EF (Qi n ln L s) fun L1=>Jl n ln L1 r
def VM (n:ZC) (ln:LI) (L:ZH) (m:Nat):Z7->Option ZH
 | .mk steps result=>EF (Jl n ln L steps) (JL m result)
end
theorem S2 (n:ZC) (ln:LI) (L:ZH) (s:Z5):Qi n ln L s=JN L s.op (YY n L.vars s) (Jk n ln L s.op s.num s.into s.args (KA n ln L s.op s.num s.args s.kids)):=by
 cases s with
 | mk op num into args kids=>rw [Qi];rfl
theorem Hk (n:ZC) (ln:LI) (L:ZH) (m:Nat) (b:Z7):VM n ln L m b=EF (Jl n ln L b.steps) (JL m b.result):=by
 cases b with
 | mk st r=>rw [VM];rfl
def Z0r (n:ZC) (r:Yz):Bool:=
 match VM n r.lent (Kb r) r.params.length r.body with
 | none=>false
 | some L=>(KZ L 0).isSome
def Mo (n:ZC):List Yz->Bool
 | []=>true
 | r::rs=>if Z0r n r=true then Mo n rs else false
def Z0s (n:ZC):Bool:=QR n&&Mo n n.routines
structure T8 (L:ZH):Prop where
 own:L.own.length=L.vars.length
 par:L.par.length=L.vars.length
 con:L.con.length=L.vars.length
 fst:L.fst.length=L.vars.length
 tok:L.tok.length=L.vars.length
structure XG (ds:List Zb) (L:ZH) (q:Int):Prop where
 len:T8 L
 down:∀j:Int,0<=j->j<L.vars.length->gI L.par j<j
 arm:∀x:Int,0<=x->x<L.vars.length->0<=gI L.con x->0<=gI L.fst x/\gI L.fst x+(ZK ds (gI L.con x)).length<=L.vars.length
 nn:∀x∈L.own,0<=x
 bd:∀x∈L.own,x<=q
end Go.Abs
section
namespace Go.Abs
end Go.Abs
namespace Go.Abs
theorem Z8c {n:ZC} {op num:Int} {r:Yz} (h:op=9) (hr:n.routines[num.toNat]? = some r):Da n op num=r.lent:=by
 rw [Da,Zk h,hr];rfl
end Go.Abs
namespace Go.Abs
theorem Z02 {own par ln:LI} {N:Int} (hd:∀j:Int,0<=j->j<N->gI par j<j):∀(k:Nat) (v:Int),0<=v->v<N->v.toNat+1<=k->Qr own par ln k v=Qr own par ln (v.toNat+1) v:=by
 intro k
 induction k using Nat.strongRecOn with
 | ind k ih=>
  intro v h0 hN hk
  cases k with
  | zero=>omega
  | succ k=>
   rw [Qr,Qr]
   split
   ·split
    ·rfl
    ·have hdv:=hd v h0 hN
     rw [ih k om (gI par v) om om om]
     rw [ih v.toNat om (gI par v) om om om]
   ·rfl
theorem Z04 {own par ln:LI} {N j x1 x2:Int} {r:Bool} (h1:gI own j=x1) (h2:gI par j=x2) (hj:0<=j/\j<N) (hx:x1<1/\¬j∈ln) (h0:¬x2<0) (hd:∀i:Int,0<=i->i<N->gI par i<i)
  (h:Qr own par ln (j.toNat+1) j=r):Qr own par ln (x2.toNat+1) x2=r:=by
 rw [Qr,h1,h2,Zk hx,Za h0] at h
 have hdv:=hd j hj.1 hj.2
 rw [<-h,Z02 hd j.toNat x2 om om om]
theorem Z03 {own par ln:LI} {j x1 x2:Int} {r:Bool} (h1:gI own j=x1) (h2:gI par j=x2) (hx:x1<1/\¬j∈ln) (h0:x2<0) (h:Qr own par ln (j.toNat+1) j=r):false=r:=by
 rw [Qr,h1,h2,Zk hx,Zk h0] at h;exact h
theorem Z05 {own par ln:LI} {j x1:Int} {r:Bool} (h1:gI own j=x1) (hx:¬(x1<1/\¬j∈ln)) (h:Qr own par ln (j.toNat+1) j=r):true=r:=by
 rw [Qr,h1,Za hx] at h;exact h
end Go.Abs
namespace Go.Abs
theorem Jm {L L':ZH} {v:Int} (h:TM L v=some L'):1<=gI L.own v/\L'.vars=L.vars/\L'.par=L.par/\L'.con=L.con/\L'.fst=L.fst/\L'.tok=L.tok/\L'.own=L.own.set v.toNat (gI L.own v-1):=by
 rw [TM] at h
 split at h
 ·cases h
 ·cases h;exact ⟨by omega,rfl,rfl,rfl,rfl,rfl,rfl⟩
theorem Fx {xs:LI} {v:Int} (h:gI xs v≠0):gI xs v∈xs:=by
 rw [gI] at h ⊢
 cases hx:xs[v.toNat]? with
 | none=>rw [hx] at h;exact absurd rfl h
 | some y=>exact Y2 hx
theorem Jg {xs:LI} {i:Nat} {a x:Int} (h:x∈xs.set i a):x∈xs∨x=a:=List.mem_or_eq_of_mem_set h
theorem XG.take {ds:List Zb} {L L':ZH} {q v:Int} (hk:XG ds L q) (h:TM L v=some L'):XG ds L' q:=by
 obtain ⟨t1,t2,t3,t4,t5,t6,t7⟩:=Jm h
 obtain ⟨f1,f2,f3,f4,f5⟩:=hk.len
 have hm:=Fx (xs:=L.own) (v:=v) om
 refine ⟨⟨by rw [t7,t2,VC];exact f1,by rw [t3,t2];exact f2,by rw [t4,t2];exact f3,by rw [t5,t2];exact f4,by rw [t6,t2];exact f5⟩,?_,?_,?_,?_⟩
 ·rw [t2,t3];exact hk.down
 ·rw [t2,t4,t5];exact hk.arm
 ·rw [t7];intro x hx
  rcases Jg hx with hx|rfl
  ·exact hk.nn x hx
  ·omega
 ·rw [t7];intro x hx
  rcases Jg hx with hx|rfl
  ·exact hk.bd x hx
  ·have:=hk.bd _ hm;omega
end Go.Abs
end
namespace Go.Abs
theorem LN {us:LI}:∀{args tys:LI},Ki us args tys=true->args.length=tys.length/\∀a∈args,0<=a/\a<us.length
 | [],[],_=>⟨rfl,by simp⟩
 | [],_::_,h=>by cases h
 | _::_,[],h=>by cases h
 | a::as1,t::ts,h=>by
  rw [Ki] at h
  split at h
  ·rename_i h1
   obtain ⟨q1,q2⟩:=LN h
   refine ⟨by simp [q1],fun x hx=>?_⟩
   rcases YM.1 hx with rfl|hx
   ·have:=(CA h1).1;omega
   ·exact q2 x hx
  ·cases h
theorem Oy {n:ZC} {us:LI}:∀{bs:List Z7} {ms:List LI} {f:Bool} {t:Int},0<=t->0<=Qe n us bs ms f t ->
  ∀(i:Nat) (b:Z7) (m:LI),bs[i]? = some b->ms[i]? = some m->0<=XW n (us++m) b
 | [],_,_,_,_,_,i,b,m,hb,_=>by simp at hb
 | b::bs,[],_,_,_,h,_,_,_,_,hm=>by simp at hm
 | b::bs,m::ms,f,t,ht,h,i,c,l,hc,hl=>by
  rw [Qe] at h
  split at h
  ·omega
  ·rename_i hq
   have h0:0<=XW n (us++m) b:=by
    rcases Int.lt_or_le (XW n (us++m) b) 0 with q|q
    ·exact absurd (.inl q) hq
    ·exact q
   cases i with
   | zero=>simp at hc hl;subst hc hl;exact h0
   | succ i=>exact Oy h0 h i c l (by simpa using hc) (by simpa using hl)
structure BE (n:ZC) (us:LI) (s:Z5):Prop where
 args:∀a∈s.args,0<=a/\a<us.length
 one:(s.op=7∨s.op=8∨(14<=s.op/\s.op<=17))->∃a,s.args=[a]
 num:s.op=9->0<=s.num/\s.num<n.routines.length
 into:s.into≠0->1<=s.into/\s.into<=us.length
 kids:(s.op=7∨s.op=8)->s.kids.length=(XU n.decls s.op s.num).length/\(XU n.decls s.op s.num).length≠0 /\
  ∀(i:Nat) (b:Z7) (m:LI),s.kids[i]? = some b->(XU n.decls s.op s.num)[i]? = some m->0<=XW n (us++m) b
theorem Z7t {n:ZC} {us:LI} {op num:Int} {kids:List Z7} (h:0<=Jc n us op num kids) :
  kids.length=(XU n.decls op num).length/\(XU n.decls op num).length≠0/\∀(i:Nat) (b:Z7) (m:LI),kids[i]? = some b->(XU n.decls op num)[i]? = some m->0<=XW n (us++m) b:=by
 rw [Jc] at h
 split at h
 ·omega
 ·rename_i hq
  exact ⟨by omega,by omega,Oy (Int.le_refl 0) h⟩
theorem OL {xs:LI} (h:xs.length=1):∃a,xs=[a]:=by
 match xs,h with
 | [a],_=>exact ⟨a,rfl⟩
theorem S4 {n:ZC} {us:LI} {s:Z5} (h:0<=YY n us s):BE n us s:=by
 rw [LE] at h
 split at h
 ·omega
 rename_i h0
 have hinto:s.into≠0->1<=s.into/\s.into<=us.length:=by
  intro hi
  have hv:TN us s.op s.into=true:=by
   cases q:TN us s.op s.into with
   | true=>rfl
   | false=>exact absurd (.inr (.inl (by rw [q];simp))) h0
  rw [TN,Za hi] at hv
  split at hv
  ·cases ha:Wt us (s.into-1) with
   | none=>rw [ha] at hv;cases hv
   | some t=>have:=(CA ha).1;omega
  ·cases hv
 have mk:(∀a∈s.args,0<=a/\a<us.length)->((s.op=7∨s.op=8∨(14<=s.op/\s.op<=17))->∃a,s.args=[a])->(s.op=9->0<=s.num/\s.num<n.routines.length) ->
   ((s.op=7∨s.op=8)->0<=Jc n us s.op s.num s.kids)->BE n us s:=fun a b c d=>⟨a,b,c,hinto,fun q=>Z7t (d q)⟩
 have ty:∀{tys},WM us s.args tys=true->s.args.length=tys.length/\∀a∈s.args,0<=a/\a<us.length:=fun q=>LN q
 split at h
 ·rename_i h1
  split at h
  ·rename_i h2
   exact mk (by rw [List.eq_nil_of_length_eq_zero h2.1];simp) om om om
  ·omega
 split at h
 ·split at h
  ·rename_i h1 h2;exact mk (ty h2).2 om om om
  ·omega
 split at h
 ·split at h
  ·rename_i h1 h2;exact mk (ty h2).2 om om om
  ·omega
 split at h
 ·split at h
  ·rename_i h1 h2;exact mk (ty h2.2).2 om om om
  ·omega
 split at h
 ·split at h
  ·rename_i h1 h2;exact mk (ty h2).2 (fun _=>OL (by simpa using (ty h2).1)) om (fun _=>h)
  ·omega
 split at h
 ·split at h
  ·rename_i h1 h2;exact mk (ty h2).2 (fun _=>OL (by simpa using (ty h2).1)) om (fun _=>h)
  ·omega
 split at h
 ·rename_i hop
  rw [QL] at h
  cases hr:Wt n.routines s.num with
  | none=>rw [hr] at h;simp at h
  | some r=>
   rw [hr] at h
   simp only at h
   have hn:=(CA hr).1
   rw [Bm] at h
   split at h
   ·split at h
    ·rename_i h2;exact mk (ty h2).2 om om om
    ·omega
   ·split at h
    ·omega
    ·rename_i h2
     have h3:WM us s.args (r.params.take (r.params.length-1))=true:=by
      cases q:WM us s.args (r.params.take (r.params.length-1)) with
      | true=>rfl
      | false=>exact absurd (.inr (.inr (by rw [q];simp))) h2
     exact mk (ty h3).2 om om om
 split at h
 ·rename_i hop
  rcases he:s.args with _|⟨a,_|⟨b,_|⟨c,r⟩⟩⟩
  ·rw [he,show Ko n.decls us []=-1 from rfl] at h;omega
  ·rw [he,show Ko n.decls us [a]=-1 from rfl] at h;omega
  ·rw [he,Ko] at h
   cases ha:Wt us a with
   | none=>rw [ha] at h;simp at h
   | some t=>
    rw [ha] at h
    simp only at h
    split at h
    ·cases hd:n.decls[(t-1).toNat]? with
     | none=>rw [hd] at h;simp at h
     | some d=>
      rw [hd] at h
      simp only at h
      split at h
      ·rename_i h3
       have h4:=(LN h3).2 b (by simp)
       have h5:=(CA ha).1
       refine mk (fun x hx=>?_) om om om
       rw [he] at hx
       rcases YM.1 hx with rfl|hx
       ·omega
       ·rw [Xv.1 hx];exact h4
      ·omega
    ·omega
  ·rw [he,show Ko n.decls us (a::b::c::r)=-1 from rfl] at h;omega
 split at h
 ·rename_i hop
  rcases he:s.args with _|⟨a,_|⟨b,r⟩⟩
  ·rw [he,show Kr n.decls us s.op []=-1 from rfl] at h;omega
  ·rw [he,Kr] at h
   cases ha:Wt us a with
   | none=>rw [ha] at h;simp at h
   | some t=>
    have h5:=(CA ha).1
    refine mk (fun x hx=>?_) (fun _=>⟨a,he⟩) om om
    rw [he] at hx
    rw [Xv.1 hx];omega
  ·rw [he,show Kr n.decls us s.op (a::b::r)=-1 from rfl] at h;omega
 ·omega
def QO (n:ZC) (us:LI) (s:Z5):LI:=if Xa s.op=true then us++[YY n us s] else us
theorem MQ {L L':ZH} {ln:LI} {v:Int} (h:BS L ln v=some L'):L'.vars=L.vars/\L'.par=L.par/\L'.con=L.con/\L'.fst=L.fst/\L'.tok=L.tok/\L'.own=L.own.set v.toNat (gI L.own v+1):=by
 rw [BS] at h
 split at h
 ·cases h;exact ⟨rfl,rfl,rfl,rfl,rfl,rfl⟩
 ·cases h
theorem Hb:∀(fs:LI) (own:LI) (p:Int),(Q7 own p fs).length=own.length
 | [],own,p=>rfl
 | f::r,own,p=>by rw [Q7,Hb r];split<;>simp
theorem I8 {xs:LI} {q v:Int} (h:∀x∈xs,x<=q) (hq:0<=q):gI xs v<=q:=by
 by_cases h0:gI xs v=0
 ·omega
 ·exact h _ (Fx h0)
theorem I9 {xs:LI} {v:Int} (h:∀x∈xs,0<=x):0<=gI xs v:=by
 by_cases h0:gI xs v=0
 ·omega
 ·exact h _ (Fx h0)
theorem Hc:∀(fs:LI) (own:LI) (p:Int),(∀x∈own,0<=x)->∀x∈Q7 own p fs,0<=x
 | [],own,p,h=>h
 | f::r,own,p,h=>by
  rw [Q7]
  refine Hc r _ _ fun x hx=>?_
  split at hx
  ·rcases Jg hx with hx|rfl
   ·exact h x hx
   ·have:=I9 (v:=p) h;omega
  ·exact h x hx
theorem Ha:∀(fs:LI) (own:LI) (p q:Int),0<=q->(∀x∈own,x<=q)->∀x∈Q7 own p fs,x<=q+fs.length
 | [],own,p,q,hq,h=>by intro x hx;have:=h x hx;simp;omega
 | f::r,own,p,q,hq,h=>by
  intro x hx
  rw [Q7] at hx
  have:=Ha r _ _ (q+1) om (fun y hy=>by
   split at hy
   ·rcases Jg hy with hy|rfl
    ·have:=h y hy;omega
    ·have:=I8 (v:=p) h hq;omega
   ·have:=h y hy;omega) x hx
  simp only [Yw];omega
theorem Pd {ds:List Zb} {L L':ZH} {op v:Int} (h:JS ds L op v=some L'):L'.vars=L.vars/\L'.par=L.par/\L'.con=L.con/\L'.fst=L.fst/\L'.tok.length=L.tok.length /\
  ∃L1,TM L v=some L1/\L'.own=Q7 L1.own (gI L.fst v) (ZK ds (gI L.con v)):=by
 rw [JS] at h
 split at h
 ·cases h
 ·cases ht:TM L v with
  | none=>rw [ht] at h;cases h
  | some L1=>
   rw [ht] at h
   simp only at h
   obtain ⟨t1,t2,t3,t4,t5,t6,t7⟩:=Jm ht
   cases h
   refine ⟨t2,t3,t4,t5,?_,L1,rfl,rfl⟩
   split
   ·rw [VC]
   ·rfl
theorem Ih {n:ZC} {op num:Int} {ds:List Zb} {q:Int}:∀{as1:LI} {i:Nat} {L L':ZH},XG ds L q->K4 n op num as1 i L=some L'->XG ds L' q/\L'.vars=L.vars/\L'.par=L.par/\L'.con=L.con/\L'.fst=L.fst/\L'.tok=L.tok
 | [],i,L,L',hk,h=>by rw [K4] at h;cases h;exact ⟨hk,rfl,rfl,rfl,rfl,rfl⟩
 | a::r,i,L,L',hk,h=>by
  rw [K4] at h
  split at h
  ·cases ht:TM L a with
   | none=>rw [ht] at h;cases h
   | some L1=>
    rw [ht] at h
    obtain ⟨t1,t2,t3,t4,t5,t6,t7⟩:=Jm ht
    obtain ⟨k1,k2,k3,k4,k5,k6⟩:=Ih (hk.take ht) h
    exact ⟨k1,k2.trans t2,k3.trans t3,k4.trans t4,k5.trans t5,k6.trans t6⟩
  ·exact Ih hk h
theorem XG.le {ds:List Zb} {L:ZH} {q q':Int} (h:XG ds L q) (hq:q<=q'):XG ds L q':=⟨h.len,h.down,h.arm,h.nn,fun x hx=>Int.le_trans (h.bd x hx) hq⟩
theorem XG.turn {ds:List Zb} {L L':ZH} {q q':Int} (hk:XG ds L q) (h1:L'.vars=L.vars) (h2:L'.par=L.par) (h3:L'.con=L.con) (h4:L'.fst=L.fst) (h5:L'.tok.length=L.tok.length) (h6:L'.own.length=L.own.length)
  (h7:∀x∈L'.own,0<=x) (h8:∀x∈L'.own,x<=q'):XG ds L' q':=by
 obtain ⟨f1,f2,f3,f4,f5⟩:=hk.len
 refine ⟨⟨by rw [h6,h1];exact f1,by rw [h2,h1];exact f2,by rw [h3,h1];exact f3,by rw [h4,h1];exact f4,by rw [h5,h1];exact f5⟩,?_,?_,h7,h8⟩
 ·rw [h1,h2];exact hk.down
 ·rw [h1,h3,h4];exact hk.arm
theorem CX {xs ys:LI} {j:Int} (h:j.toNat<xs.length):gI (xs++ys) j=gI xs j:=by
 rw [gI,gI,A1 h]
theorem Nz {xs:LI} {y:Int} {j:Int} (h:j.toNat=xs.length):gI (xs++[y]) j=y:=by
 rw [gI,h];simp
theorem XG.grow {ds:List Zb} {L:ZH} {q t o p:Int} (hk:XG ds L q) (hp:p<L.vars.length) (ho:0<=o/\o<=q):XG ds (L.grow t o p) q:=by
 obtain ⟨f1,f2,f3,f4,f5⟩:=hk.len
 refine ⟨⟨by simp [ZH.grow,f1],by simp [ZH.grow,f2],by simp [ZH.grow,f3],by simp [ZH.grow,f4],by simp [ZH.grow,f5]⟩,?_,?_,?_,?_⟩
 ·intro j hj hl
  simp only [ZH.grow,Yl,AL] at hl ⊢
  by_cases hlt:j<L.vars.length
  ·rw [CX om];exact hk.down j hj hlt
  ·rw [Nz om];omega
 ·intro x hx hl
  simp only [ZH.grow,Yl,AL] at hl ⊢
  by_cases hlt:x<L.vars.length
  ·rw [CX om,CX om]
   intro hc
   have:=hk.arm x hx hlt hc
   exact ⟨this.1,by omega⟩
  ·rw [Nz om];omega
 ·intro x hx
  simp only [ZH.grow,Xj,Xv] at hx
  rcases hx with hx|rfl
  ·exact hk.nn x hx
  ·exact ho.1
 ·intro x hx
  simp only [ZH.grow,Xj,Xv] at hx
  rcases hx with hx|rfl
  ·exact hk.bd x hx
  ·exact ho.2
theorem NA {xs:LI} {k:Nat} {a:Int} {j:Int} (h:xs.length<=j.toNat/\j.toNat<xs.length+k):gI (xs++List.replicate k a) j=a:=by
 rw [gI,DE h.1,List.getElem?_replicate,Zk om];rfl
theorem NB {xs:LI} {x j c:Int} (h:j.toNat=x.toNat) (hl:x.toNat<xs.length):gI (xs.set x.toNat c) j=c:=by
 rw [gI,h,List.getElem?_set_self hl];rfl
theorem NC {xs:LI} {x j c:Int} (h:j.toNat≠x.toNat):gI (xs.set x.toNat c) j=gI xs j:=by
 rw [gI,gI,List.getElem?_set_ne (fun q=>h q.symm)]
theorem NW {p:Int}:∀(fs:LI) (L:ZH),C3 L p fs=⟨L.vars++fs,L.own++List.replicate fs.length 0,L.par++List.replicate fs.length p,L.con++List.replicate fs.length (-1),
  L.fst++List.replicate fs.length (-1),L.tok++List.replicate fs.length (-1)⟩
 | [],L=>by simp [C3]
 | t::r,L=>by rw [C3,NW r];simp [ZH.grow,Sx]
theorem Z0k {ds:List Zb} {L:ZH} {q x c:Int} (hk:XG ds L q) (hq:0<=q) (hx:0<=x/\x<L.vars.length):XG ds (BI ds L x c) q/\(BI ds L x c).vars=L.vars++ZK ds c:=by
 obtain ⟨f1,f2,f3,f4,f5⟩:=hk.len
 rw [BI,NW]
 refine ⟨⟨⟨by simp [f1],by simp [f2],by simp [f3],by simp [f4],by simp [f5]⟩,?_,?_,?_,?_⟩,rfl⟩
 ·intro j hj hl
  simp only [Yl] at hl ⊢
  by_cases hlt:j<L.vars.length
  ·rw [CX om];exact hk.down j hj hlt
  ·rw [NA om];omega
 ·intro y hy hl
  simp only [Yl] at hl ⊢
  by_cases hlt:y<L.vars.length
  ·rw [CX (by simp;omega),CX (by simp;omega)]
   by_cases he:y.toNat=x.toNat
   ·rw [NB he om,NB he om]
    intro _
    exact ⟨by omega,by simp⟩
   ·rw [NC he,NC he]
    intro hc
    have:=hk.arm y hy hlt hc
    exact ⟨this.1,by omega⟩
  ·rw [NA (by simp;omega)];omega
 ·intro y hy
  simp only [Xj,List.mem_replicate] at hy
  rcases hy with hy|⟨_,rfl⟩
  ·exact hk.nn y hy
  ·exact Int.le_refl 0
 ·intro y hy
  simp only [Xj,List.mem_replicate] at hy
  rcases hy with hy|⟨_,rfl⟩
  ·exact hk.bd y hy
  ·exact hq
theorem FP {n:ZC} {L:ZH} {q:Int} {s:Z5} {i:Nat} {m:LI} (hk:XG n.decls L q) (hq:0<=q) (hf:BE n L.vars s) (hop:s.op=7∨s.op=8) (hm:(XU n.decls s.op s.num)[i]? = some m) :
  XG n.decls (Ts n.decls L s.op s.num s.args i) q/\(Ts n.decls L s.op s.num s.args i).vars=L.vars++m:=by
 rw [Ts]
 split
 ·rename_i h8
  obtain ⟨a,ha⟩:=hf.one om
  have hb:=hf.args a (by rw [ha];simp)
  have hg:gI s.args 0=a:=by rw [ha];rfl
  rw [XU,Za om,Kj] at hm
  cases hc:(ZQ n.decls s.num)[i]? with
  | none=>rw [hc] at hm;cases hm
  | some c=>
   rw [hc] at hm
   cases hm
   have hgc:gI (ZQ n.decls s.num) (i:Int)=c:=by rw [gI];simp [hc]
   rw [hg,hgc]
   exact Z0k hk hq hb
 ·rename_i h8
  rw [XU,Zk om] at hm
  have:m=[]:=by
   match i,hm with
   | 0,hm=>simpa using hm.symm
   | 1,hm=>simpa using hm.symm
   | i+2,hm=>simp at hm
  subst this
  exact ⟨hk,by simp⟩
theorem S5 {n:ZC}:∀{l:List Z5} {us vs:LI},Uj n l us=some vs->us.length<=vs.length
 | [],us,vs,h=>by rw [Uj] at h;cases h;exact X7 _
 | s::r,us,vs,h=>by
  rw [Uj] at h
  split at h
  ·cases h
  ·have:=S5 h
   split at this
   ·simp only [Yl,AL] at this;omega
   ·exact this
theorem NX {n:ZC} {ln:LI} {L L':ZH} {op num into q:Int} {args:LI} {ds:List Zb} (hk:XG ds L q) (h:J3 n ln L op num into args=some L'):XG ds L' q/\L'.vars=L.vars:=by
 rw [J3] at h
 cases ht:K4 n op num args 0 L with
 | none=>rw [ht] at h;cases h
 | some L1=>
  rw [ht] at h
  simp only at h
  obtain ⟨k1,k2,k3,k4,k5,k6⟩:=Ih hk ht
  split at h
  ·rw [E2] at h
   split at h
   ·split at h
    ·cases h
    ·cases h
     exact ⟨k1.turn rfl rfl rfl rfl (by simp) rfl k1.nn k1.bd,k2⟩
   ·cases h;exact ⟨k1,k2⟩
  ·cases h
theorem Z1t {L L':ZH} {m:Nat} (h:KZ L m=some L'):L'=L.take m/\Bu (L.own.drop m) (L.tok.drop m)=true:=by
 rw [KZ] at h
 split at h
 ·rename_i hz;cases h;exact ⟨rfl,hz⟩
 ·cases h
theorem LM {r:Option ZH} {f:ZH->Option ZH} {L:ZH} (h:EF r f=some L):∃L1,r=some L1/\f L1=some L:=by
 cases r with
 | none=>cases h
 | some L1=>exact ⟨L1,rfl,h⟩
theorem OH (n:ZC) (hn:Xr n) (ln:LI):∀m:Nat,
  (∀(s:Z5) (L L':ZH) (q:Int),s.sz<=m->XG n.decls L q->0<=q->0<=YY n L.vars s->Qi n ln L s=some L'->XG n.decls L' (q+4*s.sz)/\L'.vars=QO n L.vars s) /\
  (∀(b:Z7) (L O:ZH) (q:Int) (k:Nat),b.sz<=m->XG n.decls L q->0<=q->0<=XW n L.vars b->k<=L.vars.length->VM n ln L k b=some O ->
   (O.own.length=k/\O.tok.length=k/\(∀x∈O.own,0<=x/\x<=q+4*b.sz))/\T8 O/\O.vars.length=k):=by
 intro m
 induction m with
 | zero=>exact ⟨fun s _ _ _ h=>by have:=s.sz_pos;omega,fun s _ _ _ _ h=>by have:=s.sz_pos;omega⟩
 | succ m ih=>
  have hs:∀(s:Z5) (L L':ZH) (q:Int),s.sz<=m+1->XG n.decls L q->0<=q->0<=YY n L.vars s->Qi n ln L s=some L'->XG n.decls L' (q+4*s.sz)/\L'.vars=QO n L.vars s:=by
   intro s L L' q XL hk hq hty h
   have hp:=s.sz_pos
   have hf:=S4 hty
   obtain ⟨f1,f2,f3,f4,f5⟩:=hk.len
   rw [S2] at h
   unfold JN at h
   cases hpk:Jk n ln L s.op s.num s.into s.args (KA n ln L s.op s.num s.args s.kids) with
   | none=>rw [hpk] at h;cases h
   | some L1=>
    rw [hpk] at h
    simp only at h
    have key:XG n.decls L1 (q+4*s.sz)/\L1.vars=L.vars:=by
     rw [Jk] at hpk
     split at hpk
     ·obtain ⟨d1,d2,d3,d4,d5,d6⟩:=MQ hpk
      refine ⟨hk.turn d1 d2 d3 d4 (by rw [d5]) (by rw [d6,VC]) ?_ ?_,d1⟩
      ·rw [d6];intro x hx
       rcases Jg hx with hx|rfl
       ·exact hk.nn x hx
       ·have:=I9 (v:=gI s.args 0) hk.nn;omega
      ·rw [d6];intro x hx
       rcases Jg hx with hx|rfl
       ·have:=hk.bd x hx;omega
       ·have:=I8 (v:=gI s.args 0) hk.bd hq;omega
     split at hpk
     ·exact ⟨(hk.take hpk).le om,(Jm hpk).2.1⟩
     split at hpk
     ·rename_i hop
      obtain ⟨d1,d2,d3,d4,d5,Lt,ht,d6⟩:=Pd hpk
      have hkt:=hk.take ht
      have h3:=V5 hn.decls (gI L.con (gI s.args 0))
      refine ⟨hk.turn d1 d2 d3 d4 d5 ?_ ?_ ?_,d1⟩
      ·rw [d6,Hb,(Jm ht).2.2.2.2.2.2,VC]
      ·rw [d6];exact Hc _ _ _ hkt.nn
      ·rw [d6];intro x hx
       have:=Ha _ _ _ q hq hkt.bd x hx;omega
     split at hpk
     ·rename_i hop
      split at hpk
      ·cases hpk
      ·cases hks:s.kids with
       | nil=>rw [hks,KA] at hpk;cases hpk
       | cons b bs=>
        rw [hks,KA] at hpk
        unfold Cd at hpk
        cases hb:VM n ln (Ts n.decls L s.op s.num s.args 0) L.vars.length b with
        | none=>rw [hb] at hpk;cases hpk
        | some one=>
         rw [hb] at hpk
         simp only at hpk
         split at hpk
         ·cases hpk
          obtain ⟨q1,q2,q3⟩:=hf.kids hop
          have hks0:s.kids[0]? = some b:=by rw [hks];rfl
          obtain ⟨a0,ha0⟩:=Aq (xs:=XU n.decls s.op s.num) (j:=0) om
          obtain ⟨k1,k2⟩:=FP hk hq hf hop ha0
          have hbz:=Q0 hks0
          obtain ⟨⟨r1,r2,r3⟩,_⟩:=ih.2 b _ one q L.vars.length om k1 hq (by rw [k2];exact q3 0 b a0 hks0 ha0) (by rw [k2];simp) hb
          refine ⟨hk.turn rfl rfl rfl rfl (by simp only;omega) (by simp only;omega) (fun x hx=>(r3 x hx).1) (fun x hx=>?_),rfl⟩
          have:=(r3 x hx).2;omega
         ·cases hpk
     ·obtain ⟨k1,k2⟩:=NX hk hpk
      exact ⟨k1.le om,k2⟩
    split at h
    ·rename_i hd
     cases h
     refine ⟨key.1.grow om ?_,by rw [QO,Zk hd];simp [ZH.grow,key.2]⟩
     split<;>omega
    ·rename_i hd
     cases h
     exact ⟨key.1,by rw [QO,Za hd];exact key.2⟩
  refine ⟨hs,?_⟩
  intro b L O q k XL hk hq hty hkl h
  have hsteps:∀(l:List Z5) (L L':ZH) (q:Int) (vs:LI),Yo l<=m->XG n.decls L q->0<=q->Uj n l L.vars=some vs->Jl n ln L l=some L'->XG n.decls L' (q+4*Yo l)/\L'.vars=vs:=by
   intro l
   induction l with
   | nil=>intro L L' q vs _ hk _ h1 h2;rw [Uj] at h1;rw [Jl] at h2;cases h1;cases h2;exact ⟨by simpa [Yo] using hk,rfl⟩
   | cons s r ihr=>
    intro L L' q vs hz hk hq h1 h2
    rw [Yo] at hz
    rw [Jl] at h2
    obtain ⟨L1,e1,e2⟩:=LM h2
    rw [Uj] at h1
    split at h1
    ·cases h1
    ·rename_i h0
     obtain ⟨k1,k2⟩:=hs s L L1 q om hk hq om e1
     obtain ⟨k3,k4⟩:=ihr L1 L' (q+4*s.sz) vs om k1 om (by rw [k2];exact h1) e2
     exact ⟨k3.le (by rw [Yo];omega),k4⟩
  have hbz:=b.sz_eq
  rw [Hk] at h
  obtain ⟨L1,e1,e2⟩:=LM h
  rw [Hl] at hty
  cases hv:Uj n b.steps L.vars with
  | none=>rw [hv] at hty;simp at hty
  | some vs=>
   obtain ⟨k1,k2⟩:=hsteps b.steps L L1 q vs om hk hq hv e1
   have hlen:=S5 hv
   rw [JL] at e2
   obtain ⟨L2,e3,e4⟩:=LM e2
   have k3:XG n.decls L2 (q+4*Yo b.steps)/\L2.vars=L1.vars:=by
    split at e3
    ·exact ⟨k1.take e3,(Jm e3).2.1⟩
    ·cases e3;exact ⟨k1,rfl⟩
   obtain ⟨rfl,_⟩:=Z1t e4
   obtain ⟨g1,g2,g3,g4,g5⟩:=k3.1.len
   have hl2:L2.vars.length=vs.length:=by rw [k3.2,k2]
   refine ⟨⟨by simp [ZH.take];omega,by simp [ZH.take];omega,fun x hx=>?_⟩,⟨by simp [ZH.take];omega,by simp [ZH.take];omega,by simp [ZH.take];omega,by simp [ZH.take];omega,by simp [ZH.take];omega⟩,by simp [ZH.take];omega⟩
   have hx':x∈L2.own:=Qo hx
   have:=k3.1.nn x hx'
   have:=k3.1.bd x hx'
   omega
theorem S3 {n:ZC} (hn:Xr n) {ln:LI} {s:Z5} {L L':ZH} {q:Int} (hk:XG n.decls L q) (hq:0<=q) (hty:0<=YY n L.vars s) (h:Qi n ln L s=some L'):XG n.decls L' (q+4*s.sz)/\L'.vars=QO n L.vars s:=
 (OH n hn ln s.sz).1 s L L' q (X7 _) hk hq hty h
theorem Mp {n:ZC} (hn:Xr n) {ln:LI} {b:Z7} {L O:ZH} {q:Int} {k:Nat} (hk:XG n.decls L q) (hq:0<=q) (hty:0<=XW n L.vars b) (hkl:k<=L.vars.length) (h:VM n ln L k b=some O) :
  O.own.length=k/\O.tok.length=k/\(∀x∈O.own,0<=x/\x<=q+4*b.sz):=
 ((OH n hn ln b.sz).2 b L O q k (X7 _) hk hq hty hkl h).1
theorem Eo {n:ZC} (hn:Xr n) {ln:LI} {s:Z5} {L L1:ZH} {q:Int} (hk:XG n.decls L q) (hq:0<=q) (hf:BE n L.vars s)
  (hpk:Jk n ln L s.op s.num s.into s.args (KA n ln L s.op s.num s.args s.kids)=some L1):XG n.decls L1 (q+4*s.sz)/\L1.vars=L.vars:=by
 have hp:=s.sz_pos
 obtain ⟨f1,f2,f3,f4,f5⟩:=hk.len
 rw [Jk] at hpk
 split at hpk
 ·obtain ⟨d1,d2,d3,d4,d5,d6⟩:=MQ hpk
  refine ⟨hk.turn d1 d2 d3 d4 (by rw [d5]) (by rw [d6,VC]) ?_ ?_,d1⟩
  ·rw [d6];intro x hx
   rcases Jg hx with hx|rfl
   ·exact hk.nn x hx
   ·have:=I9 (v:=gI s.args 0) hk.nn;omega
  ·rw [d6];intro x hx
   rcases Jg hx with hx|rfl
   ·have:=hk.bd x hx;omega
   ·have:=I8 (v:=gI s.args 0) hk.bd hq;omega
 split at hpk
 ·exact ⟨(hk.take hpk).le om,(Jm hpk).2.1⟩
 split at hpk
 ·rename_i hop
  obtain ⟨d1,d2,d3,d4,d5,Lt,ht,d6⟩:=Pd hpk
  have hkt:=hk.take ht
  have h3:=V5 hn.decls (gI L.con (gI s.args 0))
  refine ⟨hk.turn d1 d2 d3 d4 d5 ?_ ?_ ?_,d1⟩
  ·rw [d6,Hb,(Jm ht).2.2.2.2.2.2,VC]
  ·rw [d6];exact Hc _ _ _ hkt.nn
  ·rw [d6];intro x hx
   have:=Ha _ _ _ q hq hkt.bd x hx;omega
 split at hpk
 ·rename_i hop
  split at hpk
  ·cases hpk
  ·cases hks:s.kids with
   | nil=>rw [hks,KA] at hpk;cases hpk
   | cons b bs=>
    rw [hks,KA] at hpk
    unfold Cd at hpk
    cases hb:VM n ln (Ts n.decls L s.op s.num s.args 0) L.vars.length b with
    | none=>rw [hb] at hpk;cases hpk
    | some one=>
     rw [hb] at hpk
     simp only at hpk
     split at hpk
     ·cases hpk
      obtain ⟨q1,q2,q3⟩:=hf.kids hop
      have hks0:s.kids[0]? = some b:=by rw [hks];rfl
      obtain ⟨a0,ha0⟩:=Aq (xs:=XU n.decls s.op s.num) (j:=0) om
      obtain ⟨k1,k2⟩:=FP hk hq hf hop ha0
      have hbz:=Q0 hks0
      obtain ⟨r1,r2,r3⟩:=Mp hn k1 hq (by rw [k2];exact q3 0 b a0 hks0 ha0) (by rw [k2];simp) hb
      refine ⟨hk.turn rfl rfl rfl rfl (by simp only;omega) (by simp only;omega) (fun x hx=>(r3 x hx).1) (fun x hx=>?_),rfl⟩
      have:=(r3 x hx).2;omega
     ·cases hpk
 ·obtain ⟨k1,k2⟩:=NX hk hpk
  exact ⟨k1.le om,k2⟩
end Go.Abs
section
namespace Go.Abs
theorem Z0l {ds:List Zb} {op num:Int} {i:Nat} {m:LI} (h8:op=8) (h:(XU ds op num)[i]? = some m):∃c,(ZQ ds num)[i]? = some c/\m=ZK ds c:=by
 rw [XU,Za om,Kj] at h
 cases hc:(ZQ ds num)[i]? with
 | none=>rw [hc] at h;cases h
 | some c=>rw [hc] at h;cases h;exact ⟨c,rfl,rfl⟩
theorem Z7p {ds:List Zb} {L:ZH} {op num x c:Int} {args:LI} {i:Nat} (h8:op=8) (hx:args[0]? = some x) (hc:(ZQ ds num)[i]? = some c):Ts ds L op num args i=BI ds L x c:=by
 have h1:gI args 0=x:=by rw [gI];simp [hx]
 have h2:gI (ZQ ds num) (i:Int)=c:=by rw [gI];simp [hc]
 rw [Ts,Zk h8,h1,h2]
theorem Z7q {ds:List Zb} {L:ZH} {op num:Int} {args:LI} {i:Nat} (h8:¬op=8):Ts ds L op num args i=L:=by rw [Ts,Za h8]
theorem Z7r {n:ZC} {ln:LI} {L:ZH} {op num:Int} {args:LI} {kids:List Z7} {kb:Z7} (h:kids[0]? = some kb) :
  KA n ln L op num args kids=Cd L (VM n ln (Ts n.decls L op num args 0) L.vars.length kb) fun one=>Jb n ln L op num args one (kids.drop 1) 1:=by
 cases kids with
 | nil=>simp at h
 | cons b bs=>simp at h;subst h;rw [KA];rfl
theorem Z7s {n:ZC} {ln:LI} {L one:ZH} {op num:Int} {args:LI} {kids:List Z7} {kb:Z7} {k:Nat} (h:kids[k]? = some kb) :
  Jb n ln L op num args one (kids.drop k) k=Gu one (VM n ln (Ts n.decls L op num args k) L.vars.length kb) (Jb n ln L op num args one (kids.drop (k+1)) (k+1)):=by
 rw [Yi h,Jb]
def BM (n:ZC) (ln:LI) (L:ZH) (s:Z5):Option ZH:=
 if s.op=8/\¬UM L ln (gI s.args 0)=true then none else KA n ln L s.op s.num s.args s.kids
theorem Z16 {n:ZC} {ln:LI} {L:ZH} {s:Z5} {kb:Z7} (h:¬(s.op=8/\¬UM L ln (gI s.args 0)=true)) (hk:s.kids[0]? = some kb) :
  BM n ln L s=Cd L (VM n ln (Ts n.decls L s.op s.num s.args 0) L.vars.length kb) fun one=>Jb n ln L s.op s.num s.args one (s.kids.drop 1) 1:=by
 rw [BM,Za h,Z7r hk]
theorem K3 {xs:LI} {x:Int} (h:xs[0]? = some x):gI xs 0=x:=by rw [gI];simp [h]
end Go.Abs
namespace Go.Abs
theorem T8.grow {L:ZH} {t o p:Int} (h:T8 L):T8 (L.grow t o p):=by
 obtain ⟨f1,f2,f3,f4,f5⟩:=h
 exact ⟨by simp [ZH.grow,f1],by simp [ZH.grow,f2],by simp [ZH.grow,f3],by simp [ZH.grow,f4],by simp [ZH.grow,f5]⟩
theorem T8.arm {L:ZH} {i j:Nat} {c d:Int} (h:T8 L):T8 ⟨L.vars,L.own,L.par,L.con.set i c,L.fst.set j d,L.tok⟩:=by
 obtain ⟨f1,f2,f3,f4,f5⟩:=h
 exact ⟨f1,f2,by simp [f3],by simp [f4],f5⟩
end Go.Abs
namespace Go.Abs
theorem Ox {n:ZC} (hn:Xr n) {ln:LI} {L O:ZH} {q:Int} {s:Z5} {i:Nat} {kb:Z7} {m:LI} (hk:XG n.decls L q) (hq:0<=q) (hf:BE n L.vars s) (hop:s.op=7∨s.op=8)
  (_:s.kids[i]? = some kb) (harm:(XU n.decls s.op s.num)[i]? = some m) (hbt:0<=XW n (L.vars++m) kb) (h:VM n ln (Ts n.decls L s.op s.num s.args i) L.vars.length kb=some O) :
  O.own.length=L.vars.length/\O.tok.length=L.vars.length:=by
 obtain ⟨k1,k2⟩:=FP hk hq hf hop harm
 obtain ⟨r1,r2,_⟩:=Mp hn k1 hq (by rw [k2];exact hbt) (by rw [k2];simp) h
 exact ⟨r1,r2⟩
theorem Zb0 {one two:ZH} {r:Bool} (h:¬(¬one.own=two.own∨¬one.tok=two.tok)):Gu one (some two) r=r:=Zk ⟨T5.1 fun q=>h (.inl q),T5.1 fun q=>h (.inr q)⟩
theorem Zaz {one two:ZH} {r:Bool} (h:¬one.own=two.own∨¬one.tok=two.tok):Gu one (some two) r=false:=Za fun q=>h.elim (fun z=>z q.1) fun z=>z q.2
theorem Z8j {L one:ZH} {f:ZH->Bool} (h:f one=true):Cd L (some one) f=some ⟨L.vars,one.own,L.par,L.con,L.fst,one.tok⟩:=Zk h
theorem OQ {L one:ZH} {f:ZH->Bool} (h:f one=false):Cd L (some one) f=none:=Za (by rw [h];simp)
end Go.Abs
namespace Go.Abs
section
variable {n:ZC} {ln:LI} {L:ZH} {s:Z5}
abbrev JT (n:ZC) (ln:LI) (L:ZH) (s:Z5):Option ZH:=Jk n ln L s.op s.num s.into s.args (KA n ln L s.op s.num s.args s.kids)
theorem Pj {x:Int} (h:s.op=14) (hx:gI s.args 0=x):JT n ln L s=BS L ln x:=hx▸Zk h
theorem Pl {x:Int} (h:s.op=15) (hx:gI s.args 0=x):JT n ln L s=TM L x:=by rw [<-hx,JT,Jk,Za om,Zk h]
theorem Pm {x:Int} (h:s.op=16∨s.op=17) (hx:gI s.args 0=x):JT n ln L s=JS n.decls L s.op x:=by rw [<-hx,JT,Jk,Za om,Za om,Zk h]
theorem Pn (h:s.op=7∨s.op=8):JT n ln L s=BM n ln L s:=by rw [JT,Jk,Za om,Za om,Za om,Zk h,BM]
theorem Po (h1:¬s.op=14) (h2:¬s.op=15) (h3:¬(s.op=16∨s.op=17)) (h4:¬(s.op=7∨s.op=8)):JT n ln L s=J3 n ln L s.op s.num s.into s.args:=by
 rw [JT,Jk,Za h1,Za h2,Za h3,Za h4]
theorem Z2e {v:Int} (h:¬UM L ln v=true):BS L ln v=none:=Za h
theorem Z2f {v x:Int} (h:¬¬UM L ln v=true) (hx:gI L.own v=x):BS L ln v=some ⟨L.vars,L.own.set v.toNat (x+1),L.par,L.con,L.fst,L.tok⟩:=by rw [BS,Zk (T5.1 h),hx]
theorem T4 (n:ZC) (ln:LI) (L:ZH) (s:Z5):Qi n ln L s=JN L s.op (YY n L.vars s) (JT n ln L s):=S2 n ln L s
theorem UT {X:ZH} {op t:Int} (h:Xa op=true/\t≠0):JN L op t (some X)=some (X.grow t 1 (-1)):=by
 unfold JN;simp only [h.1,↓reduceIte];rw [Zk h.2]
theorem UU {X:ZH} {op t:Int} (h:¬(Xa op=true/\t≠0)) (h2:Xa op=true):JN L op t (some X)=some (X.grow 0 0 (-1)):=by
 have ht:t=0:=T5.1 fun q=>h ⟨h2,q⟩
 subst ht
 unfold JN;simp only [h2,↓reduceIte];rfl
theorem UV {X:ZH} {op t:Int} (h:¬Xa op=true):JN L op t (some X)=some X:=by
 unfold JN;simp only [Za h]
end
end Go.Abs
namespace Go.Abs
theorem Mq {n:ZC} {us:LI} {b:Z7} (h:0<=XW n us b):∃vs t,Uj n b.steps us=some vs/\Wt vs b.result=some t/\0<=t:=by
 rw [Hl] at h
 cases hv:Uj n b.steps us with
 | none=>rw [hv] at h;simp at h
 | some vs=>
  rw [hv] at h
  simp only at h
  cases ha:Wt vs b.result with
  | none=>rw [ha] at h;simp at h
  | some t=>rw [ha] at h;exact ⟨vs,t,rfl,ha,h⟩
theorem S6 {n:ZC} {us vs:LI} {s:Z5} {r:List Z5} (h:Uj n (s::r) us=some vs):0<=YY n us s/\Uj n r (QO n us s)=some vs:=by
 rw [Uj] at h
 split at h
 ·cases h
 ·exact ⟨by omega,h⟩
theorem Rm (n:ZC) (us:LI) (s:Z5):us.length<=(QO n us s).length/\(QO n us s).length<=us.length+s.sz:=by
 have:=s.sz_pos
 rw [QO];split
 ·simp only [Yl,AL];omega
 ·omega
end Go.Abs
namespace Go.Abs
theorem Z2u {X L:ZH} {m:Nat} {r x:Int} (hg:gI L.vars r=x) (h:x≠0) (ht:TM L r=some X):JL m r L=KZ X m:=by rw [JL,hg,Zk h,ht];rfl
theorem Z2t {L:ZH} {m:Nat} {r x:Int} (hg:gI L.vars r=x) (h:x≠0) (ht:TM L r=none):JL m r L=none:=by rw [JL,hg,Zk h,ht];rfl
theorem DU {L:ZH} {m:Nat} {r x:Int} (hg:gI L.vars r=x) (h:¬x≠0):JL m r L=KZ L m:=by rw [JL,hg,Za h];rfl
end Go.Abs
namespace Go.Abs
theorem Pi {ds:List Zb} {lent:LI}:∀{ps:LI} {i:Nat} {L:ZH},XG ds L 1->XG ds (AB lent ps i L) 1/\(AB lent ps i L).vars=L.vars++ps
 | [],i,L,hk=>⟨hk,by simp [AB]⟩
 | t::r,i,L,hk=>by
  rw [AB]
  obtain ⟨k1,k2⟩:=Pi (lent:=lent) (ps:=r) (i:=i+1) (hk.grow (t:=t) (o:=if t≠0/\¬(i:Int)∈lent then 1 else 0) (p:=-1) om (by split<;>omega))
  exact ⟨k1,by rw [k2];simp [ZH.grow]⟩
theorem Z8m (ds:List Zb) (r:Yz):XG ds (Kb r) 1/\(Kb r).vars=r.params:=by
 have h:XG ds (⟨[],[],[],[],[],[]⟩:ZH) 1:=⟨⟨rfl,rfl,rfl,rfl,rfl⟩,fun j h1 h2=>by simp at h2;omega,fun j h1 h2=>by simp at h2;omega,by simp,by simp⟩
 obtain ⟨k1,k2⟩:=Pi (lent:=r.lent) (ps:=r.params) (i:=0) h
 exact ⟨k1,by rw [Kb,k2];rfl⟩
end Go.Abs
namespace Go.Abs
theorem R0 {n:ZC}:∀{l:List Yz},AE n l=true->∀r∈l,¬AI r.body<0/\XW n r.params r.body=r.result
 | [],_,r,h=>by simp at h
 | a::l,h,r,hr=>by
  rw [AE] at h
  split at h
  ·rename_i h1
   rcases YM.1 hr with rfl|hr
   ·exact h1
   ·exact R0 h r hr
  ·cases h
theorem Zdw {n:ZC} (hz:Js n) (h:QR n=true):Xr n/\∀r∈n.routines,0<=XW n r.params r.body:=by
 simp only [QR,Xo] at h
 refine ⟨OV hz h.1,fun r hr=>?_⟩
 rw [(R0 h.2 r hr).2]
 have h1:=h.1
 simp only [JR,UL,Xo] at h1
 have:=Lr h1.2.1.2.2.1 (TK r) (XF.2 ⟨r,hr,rfl⟩)
 simp only [KI,Xo,decide_eq_true_eq,TK] at this
 exact (of_decide_eq_true this.2.2).1
end Go.Abs
end
section
namespace Go.Abs
end Go.Abs
namespace Go.Abs
end Go.Abs
namespace Go.Abs
end Go.Abs
end
section
namespace Go.Abs
theorem Z1g {c:Int} {ds:List Zb} {k:Nat} {d:Zb} {r:Int × LI} (h:ds[k]? = some d) (hn:¬(c-YF (ds.take k)>=0/\c-YF (ds.take k)<d.cons.length))
  (hr:Ug c (ds.drop k) k (YF (ds.take k))=r):Ug c (ds.drop (k+1)) (k+1) (YF (ds.take (k+1)))=r:=by
 rw [Yi h,Ug,Za om] at hr
 rw [WU h,CD,<-hr];rfl
end Go.Abs
namespace Go.Abs
theorem Z1i {c:Int} {ds:List Zb} {k:Nat} {d:Zb} {x:Yj} (h:ds[k]? = some d) (hn:c-YF (ds.take k)>=0/\c-YF (ds.take k)<d.cons.length)
  (hx:d.cons[(c-YF (ds.take k)).toNat]? = some x):Ug c (ds.drop k) k (YF (ds.take k))=((k:Int)+1,x.fields):=by
 rw [Yi h,Ug,Zk om,hx];rfl
def AO (c:Int) (z:Nat) (v:Int):Prop:=v=c-z∨(c<0/\c-z < -9223372036854775808/\v=c-z+18446744073709551616)
theorem Z0o {c:Int} {z l:Nat} {v:Int} (h:AO c z v) (hz:z<=100) (hl:l<=3) (hc:-9223372036854775808<=c/\c<=9223372036854775807):AO c (z+l) (Cs (v-l)):=by
 unfold AO at *;rw [Cs,IntKind.wrap_i64];omega
theorem Z1h {c v:Int} {ds:List Zb} {k:Nat} {d:Zb} {r:Int × LI} (h:ds[k]? = some d) (ha:AO c (YF (ds.take k)) v) (hn:¬(v>=0/\v<d.cons.length))
  (hr:Ug c (ds.drop k) k (YF (ds.take k))=r):Ug c (ds.drop (k+1)) (k+1) (YF (ds.take (k+1)))=r:=Z1g h (by unfold AO at ha;omega) hr
theorem Z1j {c v:Int} {ds:List Zb} {k:Nat} {d:Zb} {x:Yj} (h:ds[k]? = some d) (ha:AO c (YF (ds.take k)) v) (hz:YF (ds.take k)<=100) (hl:d.cons.length<=3) (hc:-9223372036854775808<=c)
  (hn:v>=0/\v<d.cons.length) (hx:d.cons[v.toNat]? = some x):Ug c (ds.drop k) k (YF (ds.take k))=((k:Int)+1,x.fields):=by
 have:v=c-(YF (ds.take k):Int):=by unfold AO at ha;omega
 subst this
 exact Z1i h hn hx
end Go.Abs
namespace Go.Abs
abbrev ML (ds:List Zb) (d:Zb):Prop:=
 (((¬(0<=d.frm/\d.frm<=ds.length))∨(¬(0<=d.to_/\d.to_<=ds.length)))∨((d.cons.length:Int)>3))∨(((d.cons.length:Int)>0)/\((d.frm≠0)∨(d.to_≠0)))
theorem Z28 {ds:List Zb} {d:Zb} {i:Nat} (h:ML ds d):Tb ds d i=false:=by
 rw [Tb]
 split
 ·rw [Za];rintro ⟨h1,h2,h3⟩
  rcases h with ((h|h)|h)|h<;>omega
 ·split
  ·rfl
  ·rcases h with ((h|h)|h)|h
   ·rw [decide_eq_false h];rfl
   ·rw [decide_eq_false h,Bool.and_false]
   ·omega
   ·omega
theorem Z29 {ds:List Zb} {d:Zb} {i:Nat} (hl:0<d.cons.length) (h:Tm ds.length d.cons=false):Tb ds d i=false:=by
 rw [Tb,Zk hl];split
 ·exact h
 ·rfl
theorem Z2a {ds:List Zb} {d:Zb} {i:Nat} (hl:d.cons.length=0) (h:Qu d (ds.take i)=true):Tb ds d i=false:=by
 rw [Tb,Za om,Zk h]
theorem Z2b {ds:List Zb} {d:Zb} {i:Nat} (h1:¬ML ds d) (h2:Tm ds.length d.cons=true) (h3:d.cons.length=0->Qu d (ds.take i)=false):Tb ds d i=true:=by
 rw [Tb]
 have ha:0<=d.frm/\d.frm<=ds.length:=T5.1 fun q=>h1 (.inl (.inl (.inl q)))
 have hb:0<=d.to_/\d.to_<=ds.length:=T5.1 fun q=>h1 (.inl (.inl (.inr q)))
 have hc:¬(d.cons.length:Int)>3:=fun q=>h1 (.inl (.inr q))
 split
 ·rename_i hl
  have hd:¬(d.frm≠0∨d.to_≠0):=fun q=>h1 (.inr ⟨by omega,q⟩)
  rw [Zk ⟨by omega,by omega,by omega⟩];exact h2
 ·rw [Za (by rw [h3 om];simp),decide_eq_true ha,decide_eq_true hb];rfl
theorem LR {ds:List Zb} {k:Nat} {d:Zb} (h:ds[k]? = some d) (hA:Tb ds d k=false) (c:UN ds (ds.drop k) k=UN ds ds 0):false=WO ds:=by
 rw [WO,<-c,Yi h,UN,Fd h,hA,Za (by simp),Bool.and_false]
theorem Zdy {ds:List Zb} {k:Nat} {d:Zb} {r:Bool} (h:ds[k]? = some d) (hA:Tb ds d k=true) (c:UN ds (ds.drop k) k=r):UN ds (ds.drop (k+1)) (k+1)=r:=by
 rw [Yi h,UN,Fd h,hA,Zk rfl] at c;exact c
theorem Zdx {ds:List Zb} {k:Nat} (hl:ds.length<=4) (hk:ds.length<=k) (c:UN ds (ds.drop k) k=UN ds ds 0):true=WO ds:=by
 rw [WO,<-c,Xt hk,decide_eq_true hl];rfl
theorem Z1k {m:Nat} {c:Yj} (h:((c.fields.length:Int)>3)∨(¬(Wi m c.fields=true))):JD m c=false:=by
 rw [JD]
 rcases h with h|h
 ·rw [decide_eq_false om];rfl
 ·rw [Q5.2 h,Bool.and_false]
theorem Z1l {m:Nat} {c:Yj} (h:¬(((c.fields.length:Int)>3)∨(¬(Wi m c.fields=true)))):JD m c=true:=by
 rw [JD,T5.1 fun q=>h (.inr q),decide_eq_true (by have:¬(c.fields.length:Int)>3:=fun q=>h (.inl q);omega)];rfl
end Go.Abs
end
section
namespace Go.Abs
structure Vm where
 pms:LI
 lnt:LI
 res:Int
abbrev OA (f:Vm):List AV:=[Z3 f.pms,Z3 f.lnt,.i f.res]
abbrev EU (f:Vm):AV:=.agg (OA f)
def US (fs:List Vm):List AV:=fs.map EU
abbrev Ka (xs:List Vm):AV:=.sl (US xs) none
abbrev G5 (xs:List Vm) (v:Value):AV:=.sl (US xs) (some v)
theorem CQ {xs:List Vm} {j:Nat} {x:Vm} (h:xs[j]? = some x):(US xs)[j]? = some (EU x):=by simp [US,h]
@[simp] theorem DT (xs:List Vm):(US xs).length=xs.length:=by simp [US]
theorem MT (xs:List Vm):∀y∈US xs,y.leaves.length=3:=by intro y hy;simp only [US,XF] at hy;obtain ⟨x,_,rfl⟩:=hy;rfl
theorem Z2o (xs:List Vm):(Ze (US xs)).all AV.one=true:=Kv fun y hy=>by simp only [US,XF] at hy;obtain ⟨x,_,rfl⟩:=hy;rfl
def JV (m:Nat) (f:Vm):Bool:=KI m ⟨f.pms,f.res⟩&&Ue f.pms f.lnt
def Kd (m:Nat):List Vm->Bool
 | []=>true
 | f::r=>if JV m f=true then Kd m r else false
def I0:List Vm->Bool
 | []=>false
 | f::_=>decide (f.pms.length=0)&&decide (f.res=0)
def TO (ds:List Zb) (fs:List Vm):Bool:=WO ds&&(decide (1<=fs.length/\fs.length<=4)&&(I0 fs&&Kd ds.length fs))
theorem Nh {fs:List Vm} {x:Vm} (h:fs[0]? = some x):I0 fs=(decide (x.pms.length=0)&&decide (x.res=0)):=by
 cases fs with
 | nil=>simp at h
 | cons f r=>simp at h;subst h;rfl
theorem OK {ps ls:LI} {j:Nat} {v:Int} {r:Bool} (h:ls[j]? = some v) (hg:(0<=v/\v<=(ps.length:Int)-1)/\ps[v.toNat]?≠some 0/\(∀p,(if j=0 then none else ls[j-1]?)=some p->p<v))
  (hr:K8 ps (ls.drop j) (if j=0 then none else ls[j-1]?)=r):K8 ps (ls.drop (j+1)) (if j+1=0 then none else ls[j+1-1]?)=r:=by
 rw [Yi h,IM hg] at hr
 rw [Za om,show j+1-1=j from rfl,h];exact hr
theorem IP {ps ls:LI} {j:Nat} {v:Int} {r:Bool} (h:ls[j]? = some v) (hg:¬((0<=v/\v<=(ps.length:Int)-1)/\ps[v.toNat]?≠some 0/\(∀p,(if j=0 then none else ls[j-1]?)=some p->p<v)))
  (hr:K8 ps (ls.drop j) (if j=0 then none else ls[j-1]?)=r):r=false:=by
 rw [Yi h,FW hg] at hr;exact hr.symm
theorem Gv {m:Nat} {fs:List Vm} {k:Nat} {f:Vm} {r:Bool} (h:fs[k]? = some f) (hb:JV m f=false) (hr:Kd m (fs.drop k)=r):r=false:=by
 rw [Yi h,Kd,hb,Za (by simp)] at hr;exact hr.symm
theorem Zb8 {m:Nat} {fs:List Vm} {k:Nat} {f:Vm} {r:Bool} (h:fs[k]? = some f) (hb:JV m f=true) (hr:Kd m (fs.drop k)=r):Kd m (fs.drop (k+1))=r:=by
 rw [Yi h,Kd,Zk hb] at hr;exact hr
end Go.Abs
namespace Go.Abs
section
variable {ds:List Zb} {fs:List Vm} {x:Vm}
theorem Ze3 (h:((¬(WO ds=true))∨((fs.length:Int)<1))∨((fs.length:Int)>4)):false=TO ds fs:=by
 rw [TO]
 rcases h with (h|h)|h
 ·rw [Q5.2 h];rfl
 ·rw [decide_eq_false (p:=1<=fs.length/\fs.length<=4) om];simp
 ·rw [decide_eq_false (p:=1<=fs.length/\fs.length<=4) om];simp
theorem Sp (hx:fs[0]? = some x) (h:((x.pms.length:Int)>0)∨x.res≠0):false=TO ds fs:=by
 rw [TO,Nh hx]
 rcases h with h|h
 ·rw [decide_eq_false (p:=x.pms.length=0) om];simp
 ·rw [decide_eq_false (p:=x.res=0) h];simp
theorem GS (h:Kd ds.length fs=false):false=TO ds fs:=by rw [TO,h];simp
theorem Ze4 (h:¬(((¬(WO ds=true))∨((fs.length:Int)<1))∨((fs.length:Int)>4))) (hx:fs[0]? = some x) (h1:¬((x.pms.length:Int)>0)) (h2:¬x.res≠0) (h3:Kd ds.length fs=true) :
  true=TO ds fs:=by
 have hv:WO ds=true:=T5.1 fun q=>h (.inl (.inl q))
 have ha:¬(fs.length:Int)<1:=fun q=>h (.inl (.inr q))
 have hb:¬(fs.length:Int)>4:=fun q=>h (.inr q)
 rw [TO,Nh hx,hv,h3,decide_eq_true (p:=1<=fs.length/\fs.length<=4) om,decide_eq_true (p:=x.pms.length=0) om,decide_eq_true (p:=x.res=0) (T5.1 h2)];rfl
abbrev Rr (m:Nat) (x:Vm):Prop:=(((x.pms.length:Int)>3)∨(¬(Wi m x.pms=true)))∨(¬(0<=x.res/\x.res<=m))
theorem Zau {m:Nat} (h:Rr m x):JV m x=false:=by
 rw [JV,KI]
 rcases h with (h|h)|h
 ·rw [decide_eq_false (p:=x.pms.length<=3) om];simp
 ·rw [Q5.2 h];simp
 ·rw [decide_eq_false h];simp
theorem Ll {m:Nat} (h:Ue x.pms x.lnt=false):JV m x=false:=by rw [JV,h,Bool.and_false]
theorem Zav {m:Nat} (h:¬Rr m x) (hl:Ue x.pms x.lnt=true):JV m x=true:=by
 have h1:¬(x.pms.length:Int)>3:=fun q=>h (.inl (.inl q))
 rw [JV,KI,hl,decide_eq_true (p:=x.pms.length<=3) om,T5.1 fun q=>h (.inl (.inr q)),decide_eq_true (T5.1 fun q=>h (.inr q))];rfl
end
end Go.Abs
end
section
namespace Go.Abs
structure NTy (n:ZC):Prop where
 result:∀r∈n.routines,0<=r.result
 params:∀r∈n.routines,∀p∈r.params,0<=p
 decl:∀d∈n.decls,d.cons.length=0->0<=d.frm/\0<=d.to_
 fields:∀c,∀f∈ZK n.decls c,0<=f
end Go.Abs
namespace Go.Abs
end Go.Abs
namespace Go.Abs
end Go.Abs
namespace Go.Abs
section
variable {S:Option Int} {c:Prop} [Decidable c] {v:Int} {b:Bool}
end
section
variable {n:ZC} {op num:Int} {ts:LI}
end
end Go.Abs
end
namespace Go.Abs
mutual
def Z5.rng:Z5->Prop
 | .mk _ num _ _ kids=>(-9223372036854775808<=num/\num<=9223372036854775807)/\JB kids
def Z7.rng:Z7->Prop
 | .mk steps _=>JW steps
def JW:List Z5->Prop
 | []=>True
 | s::r=>s.rng/\JW r
def JB:List Z7->Prop
 | []=>True
 | b::r=>b.rng/\JB r
end
theorem Z5.rng_eq (s:Z5):s.rng=((-9223372036854775808<=s.num/\s.num<=9223372036854775807)/\JB s.kids):=by cases s;rw [Z5.rng];rfl
theorem Z7.rng_eq (b:Z7):b.rng=JW b.steps:=by cases b;rw [Z7.rng];rfl
section
variable {n:ZC} {us ts:LI} {s:Z5}
end
theorem Zda {n:ZC} {us:LI} {s:Z5} (h:0<=YY n us s):(0<=s.op/\s.op<=11)∨(14<=s.op/\s.op<=17):=by
 rw [LE] at h
 by_cases hq:(0<=s.op/\s.op<=11)∨(14<=s.op/\s.op<=17)
 ·exact hq
 ·exfalso
  split at h
  ·omega
  rw [Za om,Za om,Za om,Za om,Za om,Za om,Za om,Za om,Za om] at h
  omega
theorem MP {n:ZC} {us:LI} {s:Z5} (h:0<=YY n us s):Xa s.op=!YK s.op:=by
 have:=Zda h
 rw [Xa,YK,Y9];simp;omega

end Go.Abs
section
namespace Go.Abs
structure KV where
 mat:Int
 fst:Int
 fds:LI
 chg:Bool
def Ut:LI->Int->LI
 | [],_=>[]
 | t::r,p=>if t≠0 then p::Ut r (p+1) else Ut r (p+1)
theorem Z6d {xs:LI} {k:Nat} {t p:Int} {acc r:LI} (h:xs[k]? = some t) (ha:acc++Ut (xs.drop k) (p+k)=r) :
  (if t≠0 then acc++[p+k] else acc)++Ut (xs.drop (k+1)) (p+((k+1:Nat):Int))=r:=by
 rw [Yi h,Ut] at ha
 rw [show p+((k+1:Nat):Int)=p+k+1 by omega]
 split
 ·rename_i q;rw [Zk q] at ha;rw [VJ];exact ha
 ·rename_i q;rw [Za q] at ha;exact ha
theorem Z6c {xs:LI} {k:Nat} {p:Int} {acc r:LI} (h:xs.length<=k) (ha:acc++Ut (xs.drop k) (p+k)=r):acc=r:=by
 rw [Xt h,Ut,Jq] at ha;exact ha
theorem Ik:∀{xs:LI} {p f:Int},f∈Ut xs p->p<=f/\f<p+xs.length
 | [],_,_,h=>by simp [Ut] at h
 | t::r,p,f,h=>by
  rw [Ut] at h
  split at h
  ·rcases YM.1 h with rfl|h
   ·simp only [Yw];omega
   ·have:=Ik h;simp only [Yw];omega
  ·have:=Ik h;simp only [Yw];omega
theorem FB:∀(xs:LI) (p:Int),(Ut xs p).length<=xs.length
 | [],_=>by simp [Ut]
 | t::r,p=>by
  have:=FB r (p+1)
  rw [Ut];split<;>simp<;>omega
def P2:List KV->Int->Option KV
 | [],_=>none
 | a::r,v=>match P2 r v with
  | some x=>some x
  | none=>if a.mat=v then some a else none
structure Zeg (ds:List Zb) (L:ZH) (as1:List KV):Prop where
 rng:∀a∈as1,0<=a.mat/\a.mat<a.fst/\a.fst+a.fds.length<=L.vars.length
 par:∀a∈as1,∀v:Int,a.fst<=v->v<a.fst+a.fds.length->gI L.par v=a.mat
 non:∀v:Int,0<=v->v<L.vars.length->0<=gI L.par v->∃a∈as1,a.fst<=v/\v<a.fst+a.fds.length
 off:∀v:Int,0<=v->v<L.vars.length->match P2 as1 v with
  | none=>gI L.con v<0
  | some a=>0<=gI L.con v/\a.fst=gI L.fst v/\a.fds=ZK ds (gI L.con v)
end Go.Abs
namespace Go.Abs
end Go.Abs
namespace Go.Abs
end Go.Abs
namespace Go.Abs
section
variable {n:ZC} {ln:LI} {L:ZH} {op v:Int} {am:List KV} {a:KV}
end
end Go.Abs
namespace Go.Abs
end Go.Abs
end
section
namespace Go.Abs
section
variable {n:ZC} {us:LI} {op num:Int}
end
end Go.Abs
namespace Go.Abs
end Go.Abs
namespace Go.Abs
end Go.Abs
end
section
namespace Go.Abs
section
variable {n:ZC} {ln:LI}
end
end Go.Abs
namespace Go.Abs
end Go.Abs
namespace Go.Abs
end Go.Abs
namespace Go.Abs
section
variable {n:ZC} {ln:LI} {L:ZH} {s:Z5}
end
end Go.Abs
namespace Go.Abs
end Go.Abs
namespace Go.Abs
end Go.Abs
namespace Go.Abs
end Go.Abs
end
section
namespace Go.Abs
end Go.Abs
namespace Go.Abs
end Go.Abs
namespace Go.Abs
end Go.Abs
end
section
namespace Go.Abs
def Z1c (c:Yj):Nat:=c.fields.length
def MF:List Yj->Nat
 | []=>0
 | c::r=>Z1c c+MF r
def Z1o (l:List Yj):Nat:=l.length+MF l
def Z27 (d:Zb):Nat:=Z1o d.cons
def MN:List Zb->Nat
 | []=>0
 | d::r=>Z27 d+MN r
def Z2c (l:List Zb):Nat:=l.length+MN l
end Go.Abs
namespace Go.Abs
end Go.Abs
namespace Go.Abs
end Go.Abs
namespace Go.Abs
end Go.Abs
end
namespace Go.Abs
def Zt (op v:Int):Z5:=.mk op 0 0 [v] []
def Wu (ds:List Zb) (num:Int) (k:Nat):LI:=((ZQ ds num).map (ZK ds))[k]?.getD []
section
variable {ds:List Zb} {am:List KV} {m:Nat}
end
theorem HY {ds:List Zb} {num:Int} {k:Nat} {m:LI} (h:((ZQ ds num).map (ZK ds))[k]? = some m):Wu ds num k=m:=by rw [Wu,h];rfl
theorem Fp {ds:List Zb} (hd:Xw ds) (num:Int) (k:Nat):(Wu ds num k).length<=3:=by
 rw [Wu,Kj]
 cases (ZQ ds num)[k]? with
 | none=>simp
 | some c=>exact V5 hd c
theorem GH {xs:List Z5} {k:Nat} {s:Z5} (h:xs[k]? = some s):Yo (xs.take (k+1))=Yo (xs.take k)+s.sz:=by
 induction xs generalizing k with
 | nil=>simp at h
 | cons t r ih=>
  cases k with
  | zero=>simp at h;subst h;simp [Yo]
  | succ k=>rw [A3,A3,Yo,Yo,ih (by simpa using h)];omega
theorem Kh (xs:List Z5) (k:Nat):Yo (xs.take k)<=Yo xs:=by
 induction xs generalizing k with
 | nil=>simp
 | cons t r ih=>
  cases k with
  | zero=>simp [Yo]
  | succ k=>have:=ih k;rw [A3,Yo,Yo];omega
theorem Zb6 {n:ZC} {us:LI} {s:Z5} (g:0<=YY n us s) (h:YK s.op=true):QO n us s=us:=by rw [QO,MP g,h];rfl
theorem Zb5 {n:ZC} {us:LI} {s:Z5} (g:0<=YY n us s) (h:¬YK s.op=true):(QO n us s).length=us.length+1:=by
 rw [QO,MP g,Q5.2 h];simp
theorem Zb7 {n:ZC} {us:LI} {s:Z5} (g:0<=YY n us s):(QO n us s).length=if YK s.op=true then us.length else us.length+1:=by
 split
 ·rw [Zb6 g (by assumption)]
 ·exact Zb5 g (by assumption)

theorem TL:∀(xs ys:List Z5),Yo (xs++ys)=Yo xs+Yo ys
 | [],ys=>by simp [Yo]
 | x::r,ys=>by rw [A0,Yo,Yo,TL r ys];omega
theorem F9 (op v:Int):(Zt op v).sz=2:=by rw [Zt,Z5.sz];simp [YS]
theorem Lz (op:Int):∀l:LI,Yo (l.map (Zt op))=2*l.length
 | []=>by simp [Yo]
 | x::r=>by rw [T6,Yo,F9,Lz op r,Yw];omega
section
variable {ds:List Zb} (hd:Xw ds)
include hd
end
def XD (n:Nat):LI:=(List.range n).map Int.ofNat
theorem Z8t (n:Nat):XD (n+1)=XD n++[(n:Int)]:=by simp [XD,List.range_succ]
theorem De (n:Nat):(XD n).length=n:=by simp [XD]
theorem G4 (n:Nat):∀f∈XD n,0<=f/\f<=n:=by
 intro f hf
 simp only [XD,XF,List.mem_range] at hf
 obtain ⟨a,ha,rfl⟩:=hf
 show 0<=(a:Int)/\(a:Int)<=n
 omega
def BN (ds:List Zb) (num:Int) (k:Nat):Int:=gI (ZQ ds num) k
section
variable {ds:List Zb} {cons first:LI}
end
def Tl (first:LI):Prop:=∀f∈first,0<=f/\f<=1000000000
theorem Tl.snoc {first:LI} (h:Tl first):Tl (first++[0]):=by
 intro f hf
 rcases Xj.1 hf with hf|hf
 ·exact h f hf
 ·rw [Xv.1 hf];omega
theorem Tl.x {first:LI} (h:Tl first) {x m k:Nat} (hm:m<=1000000000) (hk:k<=1000000000):Tl (first.set x (m:Int)++XD k):=by
 intro f hf
 rcases Xj.1 hf with hf|hf
 ·rcases Jg hf with hf|rfl
  ·exact h f hf
  ·omega
 ·have:=G4 k f hf;omega
section
variable {ds:List Zb} (hd:Xw ds)
include hd
end
def XJ:List Z5->Nat
 | []=>0
 | s::r=>if s.op=14∨s.op=15 then XJ r+1 else 0
def Wj (op:Int):List Z5->LI
 | []=>[]
 | s::r=>if s.op=op then gI s.args 0::Wj op r else Wj op r
def Ub:LI->Int->LI->LI->LI × LI
 | [],_,D,R=>(D,R)
 | f::r,q,D,R=>if f≠0/\q∈D then Ub r (q+1) (D.erase q) R else if f≠0 then Ub r (q+1) D (R++[q]) else Ub r (q+1) D R
def KG (xs:List Z5) (x:Int) (fs:LI) (q:Int):LI × LI:=Ub fs q (Wj 14 (xs.take (XJ xs))) ((Wj 15 (xs.take (XJ xs))).erase x)
def Qs (xs:List Z5) (x:Int) (fs:LI) (q:Int):List Z5:=
 if x∈Wj 15 (xs.take (XJ xs))/\fs.length≠0 then (KG xs x fs q).1.map (Zt 14)++[Zt 16 x]++(KG xs x fs q).2.map (Zt 15)++xs.drop (XJ xs) else xs
def QV (b:Z7) (x:Int) (fs:LI) (q:Int):Z7:=.mk (Qs b.steps x fs q) b.result
theorem Gp:∀xs:List Z5,XJ xs<=xs.length
 | []=>X7 _
 | s::r=>by have:=Gp r;rw [XJ];split<;>simp<;>omega
theorem Rd:∀{xs:List Z5} {s:Z5},s∈xs.take (XJ xs)->s.op=14∨s.op=15
 | [],s,h=>by simp [XJ] at h
 | t::r,s,h=>by
  rw [XJ] at h
  split at h
  ·rename_i q
   rw [A3] at h
   rcases YM.1 h with rfl|h
   ·exact q
   ·exact Rd h
  ·simp at h
theorem Hh:∀xs:List Z5,(Wj 14 xs).length+(Wj 15 xs).length<=xs.length
 | []=>by simp [Wj]
 | s::r=>by
  have:=Hh r
  rw [Wj,Wj]
  by_cases h:s.op=14
  ·rw [Zk h,Za om];simp;omega
  ·rw [Za h];split<;>simp<;>omega
theorem Ga:∀(fs:LI) (q:Int) (D R:LI),(Ub fs q D R).1.length+(Ub fs q D R).2.length<=D.length+R.length+fs.length
 | [],q,D,R=>by simp [Ub]
 | f::r,q,D,R=>by
  rw [Ub,Yw]
  split
  ·have:=Ga r (q+1) (D.erase q) R
   have h2:=List.length_erase_le (a:=q) (l:=D)
   omega
  ·split
   ·have:=Ga r (q+1) D (R++[q])
    simp only [Yl,Yw,X5] at this
    omega
   ·have:=Ga r (q+1) D R
    omega
theorem Z9c {xs:List Z5} {x:Int} {fs:LI} {q:Int} (h:x∈Wj 15 (xs.take (XJ xs))) (hf:fs.length<=3):(KG xs x fs q).1.length+(KG xs x fs q).2.length<=XJ xs+2:=by
 have h1:=Ga fs q (Wj 14 (xs.take (XJ xs))) ((Wj 15 (xs.take (XJ xs))).erase x)
 have h2:=Hh (xs.take (XJ xs))
 have h3:=List.length_pos_of_mem h
 rw [List.length_erase_of_mem h] at h1
 rw [Wd] at h2
 have h4:=Gp xs
 unfold KG
 omega
theorem Zcw (xs:List Z5) (k:Nat):Yo xs=Yo (xs.take k)+Yo (xs.drop k):=by rw [<-TL,Tk]
theorem RZ:∀xs:List Z5,(∀s∈xs,2<=s.sz)->2*xs.length<=Yo xs
 | [],_=>by simp
 | s::r,h=>by
  have h1:=RZ r fun t ht=>h t (XE _ ht)
  have h2:=h s (Xm ..)
  rw [Yo,Yw];omega
theorem Z08 {xs:List Z5} {x:Int} {fs:LI} {q:Int} (hf:fs.length<=3) (h:∀s∈xs,s.op=14∨s.op=15->2<=s.sz):Yo (Qs xs x fs q)<=Yo xs+6:=by
 rw [Qs]
 split
 ·rename_i hc
  have h1:=Z9c (q:=q) hc.1 hf
  have h2:=RZ (xs.take (XJ xs)) fun s hs=>h s (Qo hs) (Rd hs)
  have h3:=Zcw xs (XJ xs)
  have h4:=Gp xs
  rw [Wd] at h2
  rw [TL,TL,TL,Lz,Lz,Yo,Yo,F9]
  omega
 ·omega
def Cn (s:Z5):Prop:=s=Zt s.op (gI s.args 0)
theorem Z07 {xs:List Z5} {m:Int} {fs:LI} {q:Int} (h:¬(m∈Wj 15 (xs.take (XJ xs))/\fs.length≠0)):Qs xs m fs q=xs:=Za h
end Go.Abs
section
namespace Go.Abs
mutual
def Ke (ds:List Zb) (m:Nat):Z5->Z5
 | .mk op num into args kids=>.mk op num into args (Uy ds m op num args kids 0)
def Uy (ds:List Zb) (m:Nat) (op num:Int) (args:LI):List Z7->Nat->List Z7
 | [],_=>[]
 | b::r,k=>(if op=8 then QV (WH ds (m+(Wu ds num k).length) b) (gI args 0) (Wu ds num k) m else WH ds m b)::Uy ds m op num args r (k+1)
def VH (ds:List Zb) (m:Nat):List Z5->List Z5
 | []=>[]
 | s::r=>Ke ds m s::VH ds (if YK s.op=true then m else m+1) r
def WH (ds:List Zb) (m:Nat):Z7->Z7
 | .mk steps result=>.mk (VH ds m steps) result
end
def Gy (ds:List Zb) (m:Nat) (op num:Int) (args:LI) (k:Nat) (b:Z7):Z7:=if op=8 then QV (WH ds (m+(Wu ds num k).length) b) (gI args 0) (Wu ds num k) m else WH ds m b
theorem EB (ds:List Zb) (m:Nat) (s:Z5):Ke ds m s=.mk s.op s.num s.into s.args (Uy ds m s.op s.num s.args s.kids 0):=by cases s;rw [Ke];rfl
theorem Gw (ds:List Zb) (m:Nat) (b:Z7):WH ds m b=.mk (VH ds m b.steps) b.result:=by cases b;rw [WH];rfl
section
variable {ds:List Zb} {m:Nat}
theorem Zbf {xs acc r:List Z5} {k:Nat} {s:Z5} (h:xs[k]? = some s) (ha:acc++VH ds m (xs.drop k)=r) :
  (acc++[.mk s.op s.num s.into s.args (Uy ds m s.op s.num s.args s.kids 0)])++VH ds (if YK s.op=true then m else m+1) (xs.drop (k+1))=r:=by
 rw [Yi h,VH,EB] at ha
 rw [<-ha];simp
theorem Zbe {xs acc r:List Z5} {k:Nat} (h:xs.length<=k) (ha:acc++VH ds m (xs.drop k)=r):acc=r:=by
 rw [Xt h,VH,Jq] at ha;exact ha
theorem Rv {op num:Int} {args:LI} {bs acc r:List Z7} {k:Nat} {b:Z7} (h:bs[k]? = some b) (ha:acc++Uy ds m op num args (bs.drop k) k=r) :
  (acc++[Gy ds m op num args k b])++Uy ds m op num args (bs.drop (k+1)) (k+1)=r:=by
 rw [Yi h,Uy] at ha
 rw [<-ha,Gy];simp
theorem Zba {op num:Int} {args:LI} {bs acc r:List Z7} {k j:Nat} (h:bs.length<=k) (ha:acc++Uy ds m op num args (bs.drop k) j=r):acc=r:=by
 rw [Xt h,Uy,Jq] at ha;exact ha
end
mutual
def wS (ds:List Zb):Z5->Prop
 | .mk op num into args kids=>(Xa op=!YK op)/\(YK op=true->num=0/\into=0/\kids=[]/\∃a,args=[a])/\(op=8->(∃a,args=[a]/\0<=a/\a<=900000000)/\kids.length=(ZQ ds num).length)/\KS ds kids
def KS (ds:List Zb):List Z7->Prop
 | []=>True
 | b::r=>wB ds b/\KS ds r
def Qm (ds:List Zb):List Z5->Prop
 | []=>True
 | s::r=>wS ds s/\Qm ds r
def wB (ds:List Zb):Z7->Prop
 | .mk steps _=>Qm ds steps
end
section
variable {ds:List Zb}
theorem Jo (s:Z5):wS ds s↔(Xa s.op=!YK s.op)/\(YK s.op=true->s.num=0/\s.into=0/\s.kids=[]/\∃a,s.args=[a])/\(s.op=8->(∃a,s.args=[a]/\0<=a/\a<=900000000)/\s.kids.length=(ZQ ds s.num).length)/\KS ds s.kids:=by cases s;rw [wS];rfl
theorem KR (b:Z7):wB ds b↔Qm ds b.steps:=by cases b;rw [wB];rfl
theorem AK:∀{xs:List Z5},Qm ds xs↔∀s∈xs,wS ds s
 | []=>by simp [Qm]
 | s::r=>by rw [Qm,AK];simp
theorem GT:∀{xs:List Z7},KS ds xs↔∀s∈xs,wB ds s
 | []=>by simp [KS]
 | s::r=>by rw [KS,GT];simp
theorem Sq {b:Z7} {k:Nat} {s:Z5} (h:wB ds b) (hs:b.steps[k]? = some s):wS ds s:=AK.1 ((KR b).1 h) s (Y2 hs)
theorem LU {s:Z5} {k:Nat} {b:Z7} (h:wS ds s) (hb:s.kids[k]? = some b):wB ds b:=GT.1 ((Jo s).1 h).2.2.2 b (Y2 hb)
theorem GU {s:Z5} (h:wS ds s) (hc:YK s.op=true):Cn s/\s.kids=[]/\∃a,s.args=[a]:=by
 obtain ⟨h1,h2,h3,a,h4⟩:=((Jo s).1 h).2.1 hc
 refine ⟨?_,h3,a,h4⟩
 cases s with
 | mk op num into args kids=>
  simp only [Z5.num,Z5.into,Z5.kids,Z5.args] at h1 h2 h3 h4
  subst h1 h2 h3 h4
  rfl
theorem Ze8 {op v:Int} (h:op=14∨op=15∨op=16):wS ds (Zt op v):=(Jo _).2 ⟨by show Xa op=!YK op;rcases h with rfl|rfl|rfl<;>rfl,fun _=>⟨rfl,rfl,rfl,v,rfl⟩,fun e=>absurd e (show op≠8 by omega),True.intro⟩
theorem Ze9 {s:Z5} (h:wS ds s):Xa s.op=!YK s.op:=((Jo s).1 h).1
theorem EI {s:Z5} (h:wS ds s) (h8:s.op=8):(∃a,s.args=[a]/\0<=a/\a<=900000000)/\s.kids.length=(ZQ ds s.num).length:=((Jo s).1 h).2.2.1 h8
theorem H1 {xs:List Z5} (h:Qm ds xs):∀s∈xs,YK s.op=true->Cn s:=fun s hs hc=>(GU (AK.1 h s hs) hc).1
end
section
variable {n:ZC}
end
mutual
def Z5.pz:Z5->Nat
 | .mk _ _ _ args kids=>1+args.length+Dj kids
def Z7.pz:Z7->Nat
 | .mk steps _=>1+Dk steps
def Dk:List Z5->Nat
 | []=>0
 | s::r=>s.pz+Dk r
def Dj:List Z7->Nat
 | []=>0
 | b::r=>b.pz+8+Dj r
end
mutual
theorem Z5.pz_le:∀s:Z5,s.pz<=9*s.sz
 | .mk _ _ _ args kids=>by have:=Pt kids;rw [Z5.pz,Z5.sz];omega
theorem Z7.pz_le:∀b:Z7,b.pz+8<=9*b.sz
 | .mk steps _=>by have:=Pu steps;rw [Z7.pz,Z7.sz];omega
theorem Pu:∀xs:List Z5,Dk xs<=9*Yo xs
 | []=>QS _
 | s::r=>by have:=s.pz_le;have:=Pu r;rw [Dk,Yo];omega
theorem Pt:∀xs:List Z7,Dj xs<=9*YS xs
 | []=>QS _
 | s::r=>by have:=s.pz_le;have:=Pt r;rw [Dj,YS];omega
end
section
variable {ds:List Zb}
theorem Z18 {op:Int} (h:op=14∨op=15):YK op=true:=by rw [YK];simp;omega
theorem Zbg {xs:List Z5}:∀{m:Nat},Qm ds xs->∀s∈VH ds m xs,s.op=14∨s.op=15->2<=s.sz:=by
 induction xs with
 | nil=>intro m _ s hs;simp [VH] at hs
 | cons t r ih=>
  intro m h s hs ho
  rw [VH] at hs
  rcases YM.1 hs with rfl|hs
  ·rw [EB] at ho ⊢
   obtain ⟨_,_,a,ha⟩:=GU h.1 (Z18 ho)
   rw [Z5.sz,ha];simp
  ·exact ih h.2 s hs ho
variable (hd:Xw ds)
include hd
mutual
theorem Zbc:∀(s:Z5) {m:Nat},wS ds s->(Ke ds m s).sz<=s.pz
 | .mk op num into args kids,m,h=>by
  have:=Rw kids (m:=m) (op:=op) (num:=num) (args:=args) (k:=0) h.2.2.2
  rw [Ke,Z5.sz,Z5.pz];omega
theorem Rw:∀(bs:List Z7) {m:Nat} {op num:Int} {args:LI} {k:Nat},KS ds bs->YS (Uy ds m op num args bs k)<=Dj bs
 | [],_,_,_,_,_,_=>X7 _
 | b::r,m,op,num,args,k,h=>by
  have h2:=Rw r (m:=m) (op:=op) (num:=num) (args:=args) (k:=k+1) h.2
  rw [Uy,YS,Dj]
  split
  ·have h1:=Gx b (m:=m+(Wu ds num k).length) h.1
   have h3:=Z08 (xs:=(WH ds (m+(Wu ds num k).length) b).steps) (x:=gI args 0) (q:=(m:Int)) (Fp hd num k) (by rw [Gw];exact Zbg ((KR b).1 h.1))
   rw [QV,Z7.sz]
   rw [Z7.sz_eq] at h1
   omega
  ·have h1:=Gx b (m:=m) h.1
   omega
theorem Ry:∀(xs:List Z5) {m:Nat},Qm ds xs->Yo (VH ds m xs)<=Dk xs
 | [],_,_=>X7 _
 | s::r,m,h=>by
  have h1:=Zbc s (m:=m) h.1
  have h2:=Ry r (m:=if YK s.op=true then m else m+1) h.2
  rw [VH,Yo,Dk];omega
theorem Gx:∀(b:Z7) {m:Nat},wB ds b->(WH ds m b).sz<=b.pz
 | .mk steps result,m,h=>by
  have:=Ry steps (m:=m) h
  rw [WH,Z7.sz,Z7.pz];omega
end
end
section
variable {ds:List Zb} {m:Nat}
end
def Bq (ds:List Zb) (r:Yz):Yz:=⟨r.params,r.lent,r.result,WH ds r.params.length r.body⟩
def Cl (n:ZC):ZC:=⟨n.decls,n.routines.map (Bq n.decls)⟩
end Go.Abs
namespace Go.Abs
theorem Zar {xs:List Z5} {k:Nat} {s:Z5} {r:Nat} (h:xs[k]? = some s) (hs:s.op=14∨s.op=15) (ha:k+XJ (xs.drop k)=r):k+1+XJ (xs.drop (k+1))=r:=by
 rw [Yi h,XJ,Zk hs] at ha;omega
theorem Zas {xs:List Z5} {k:Nat} {s:Z5} {r:Nat} (h:xs[k]? = some s) (hs:¬(s.op=14∨s.op=15)) (ha:k+XJ (xs.drop k)=r):k=r:=by
 rw [Yi h,XJ,Za hs] at ha;omega
theorem Zaq {xs:List Z5} {k:Nat} {r:Nat} (h:xs.length<=k) (ha:k+XJ (xs.drop k)=r):k=r:=by
 rw [Xt h,XJ] at ha;omega
theorem Z0i {op:Int} {xs:List Z5} {acc r:LI} {k:Nat} {s:Z5} (h:xs[k]? = some s) (hs:s.op=op) (ha:acc++Wj op (xs.drop k)=r):(acc++[gI s.args 0])++Wj op (xs.drop (k+1))=r:=by
 rw [Yi h,Wj,Zk hs] at ha;rw [<-ha];simp
theorem Z0h {op:Int} {xs:List Z5} {acc r:LI} {k:Nat} {s:Z5} (h:xs[k]? = some s) (hs:¬s.op=op) (ha:acc++Wj op (xs.drop k)=r):acc++Wj op (xs.drop (k+1))=r:=by
 rw [Yi h,Wj,Za hs] at ha;exact ha
theorem Z0g {op:Int} {xs:List Z5} {acc r:LI} {k:Nat} (h:xs.length<=k) (ha:acc++Wj op (xs.drop k)=r):acc=r:=by
 rw [Xt h,Wj,Jq] at ha;exact ha
theorem Z2w {xs acc r:LI} {y:Int} {k:Nat} {x:Int} {d:Bool} (h:xs[k]? = some x) (ha:acc++(if d=true then xs.drop k else (xs.drop k).erase y)=r) :
  (if x=y/\¬d=true then acc else acc++[x])++(if ((x==y&&!d)||d)=true then xs.drop (k+1) else (xs.drop (k+1)).erase y)=r:=by
 rw [Yi h] at ha
 rw [<-ha]
 by_cases hd:d=true
 ·simp [hd]
 ·by_cases hx:x=y
  ·simp [hd,hx]
  ·rw [Za (fun z=>hx z.1),Za hd,List.erase_cons_tail (by simpa using hx)]
   simp [hd,hx]
theorem Z2v {xs acc r:LI} {y:Int} {k:Nat} {d:Bool} (h:xs.length<=k) (ha:acc++(if d=true then xs.drop k else (xs.drop k).erase y)=r):acc=r:=by
 rw [Xt h] at ha;simpa using ha
section
variable {fs D R:LI} {q k:Nat} {f:Int} {r:LI × LI}
theorem Z9e (h:fs[k]? = some f) (h0:f≠0) (hm:((q+k:Nat):Int)∈D) (ha:Ub (fs.drop k) (q+k) D R=r):Ub (fs.drop (k+1)) (q+((k+1:Nat):Int)) (D.erase ((q+k:Nat):Int)) R=r:=by
 rw [Yi h,Ub,Zk ⟨h0,by rw [<-Int.natCast_add];exact hm⟩,<-Int.natCast_add] at ha
 rw [<-ha];congr 1
theorem Z9f (h:fs[k]? = some f) (h0:f≠0) (hm:¬((q+k:Nat):Int)∈D) (ha:Ub (fs.drop k) (q+k) D R=r):Ub (fs.drop (k+1)) (q+((k+1:Nat):Int)) D (R++[((q+k:Nat):Int)])=r:=by
 rw [Yi h,Ub,Za (fun z=>hm (by rw [Int.natCast_add];exact z.2)),Zk h0,<-Int.natCast_add] at ha
 rw [<-ha];congr 1
theorem Z9g (h:fs[k]? = some f) (h0:¬f≠0) (ha:Ub (fs.drop k) (q+k) D R=r):Ub (fs.drop (k+1)) (q+((k+1:Nat):Int)) D R=r:=by
 rw [Yi h,Ub,Za (fun z=>h0 z.1),Za h0] at ha
 rw [<-ha];congr 1
theorem Z9d (h:fs.length<=k) (ha:Ub (fs.drop k) (q+k) D R=r):r=(D,R):=by
 rw [Xt h,Ub] at ha;exact ha.symm
end
theorem Z09 {xs:List Z5} {x:Int} {fs:LI} {q:Int} {D R:LI} (h1:x∈Wj 15 (xs.take (XJ xs))) (h2:fs.length≠0) (hr:KG xs x fs q=(D,R)):D.map (Zt 14)++[Zt 16 x]++R.map (Zt 15)++xs.drop (XJ xs)=Qs xs x fs q:=by
 rw [Qs,Zk ⟨h1,h2⟩,hr]
theorem Zbd {ds:List Zb} {xs:List Z5}:∀{m:Nat},Qm ds xs->∀s∈VH ds m xs,YK s.op=true->∃a,s.args=[a]:=by
 induction xs with
 | nil=>intro m _ s hs;simp [VH] at hs
 | cons t r ih=>
  intro m h s hs ho
  rw [VH] at hs
  rcases YM.1 hs with rfl|hs
  ·rw [EB] at ho ⊢
   exact (GU h.1 ho).2.2
  ·exact ih h.2 s hs ho
end Go.Abs
end
namespace Go.Abs
mutual
def Z1.sz:Z1->Nat
 | .mk _ _ kids=>1+Xy kids
def Xy:List Z1->Nat
 | []=>0
 | e::r=>e.sz+Xy r
end
theorem Z1.sz_eq (e:Z1):e.sz=1+Xy e.kids:=by cases e;rw [Z1.sz];rfl
theorem DV:∀xs ys:List Z1,Xy (xs++ys)=Xy xs+Xy ys
 | [],ys=>by simp [Xy]
 | x::r,ys=>by rw [A0,Xy,Xy,DV r];omega
theorem BY:∀{xs:List Z1} {k:Nat} {e:Z1},xs[k]? = some e->e.sz<=Xy xs
 | [],k,e,h=>by simp at h
 | x::r,0,e,h=>by simp at h;subst h;rw [Xy];omega
 | x::r,k+1,e,h=>by have:=BY (xs:=r) (k:=k) (by simpa using h);rw [Xy];omega
theorem N2:∀{xs:List Z1},xs.length<=Xy xs
 | []=>QS _
 | x::r=>by have:=N2 (xs:=r);have:=x.sz_eq;rw [Xy,Yw];omega
def Af:Zb:=⟨0,0,[⟨[]⟩,⟨[0,1]⟩]⟩
def Ag:Zb:=⟨0,0,[⟨[]⟩,⟨[3,0,3]⟩]⟩
def MJ:List Zb:=[⟨0,0,[⟨[1,3]⟩]⟩,⟨1,0,[]⟩,⟨0,0,[⟨[1,1,0]⟩,⟨[0]⟩,⟨[3]⟩]⟩,⟨0,1,[]⟩]
def Ar:List (List Zb):=[[Af,⟨0,0,[]⟩,Ag],[Af,⟨0,0,[]⟩,Ag,⟨0,0,[⟨[1,3]⟩]⟩],[Af,⟨0,0,[]⟩,Ag,⟨1,0,[]⟩],[Af,⟨0,0,[]⟩,Ag,⟨0,0,[⟨[1,1,0]⟩,⟨[0]⟩,⟨[3]⟩]⟩],[Af,⟨0,0,[]⟩,Ag,⟨0,1,[]⟩]]
def GD (ds:List Zb):Prop:=ds∈Ar
theorem GD.ok {ds:List Zb} (h:GD ds):Xw ds:=by
 have k:=(by decide:∀ds∈Ar,ds.length<=4/\(∀d∈ds,d.cons.length<=3)/\∀d∈ds,∀c∈d.cons,c.fields.length<=3) ds h
 exact ⟨k.1,k.2.1,k.2.2⟩
theorem GD.len {ds:List Zb} (h:GD ds):3<=ds.length/\ds.length<=4:=by
 exact (by decide:∀ds∈Ar,3<=ds.length/\ds.length<=4) ds h
def KE (t:Int):Prop:=t=0∨t=1∨t=3
instance (t:Int):Decidable (KE t):=inferInstanceAs (Decidable (_∨_∨_))
theorem GD.low {ds:List Zb} (h:GD ds):ZQ ds 0=[]/\ZQ ds 1=[0,1]/\ZQ ds 2=[]/\ZQ ds 3=[2,3]/\ZK ds 0=[]/\ZK ds 1=[0,1]/\ZK ds 2=[]/\ZK ds 3=[3,0,3]:=
 (by decide:∀ds∈Ar,ZQ ds 0=[]/\ZQ ds 1=[0,1]/\ZQ ds 2=[]/\ZQ ds 3=[2,3]/\ZK ds 0=[]/\ZK ds 1=[0,1]/\ZK ds 2=[]/\ZK ds 3=[3,0,3]) ds h
theorem GD.fields {ds:List Zb} (h:GD ds):∀c∈ZQ ds 1++(ZQ ds 3++ZQ ds 4),∀t∈ZK ds c,KE t:=
 (by decide:∀ds∈Ar,∀c∈ZQ ds 1++(ZQ ds 3++ZQ ds 4),∀t∈ZK ds c,KE t) ds h
theorem GD.cons_cases {ds:List Zb} (h:GD ds) {t:Int} {c:Int} (hc:c∈ZQ ds t):(0<=c/\c<=9)/\(t=1∨t=3∨t=4)/\(ZK ds c).length<=3/\∀u∈ZK ds c,KE u:=by
 have ht:1<=t/\t<=ds.length:=by
  by_cases q:1<=t/\t<=ds.length
  ·exact q
  ·rw [ZQ,Za q] at hc;cases hc
 have hl:=h.len
 have hlow:=h.low
 have key:∀c∈ZQ ds 1++(ZQ ds 3++ZQ ds 4),0<=c/\c<=9:=
  (by decide:∀ds∈Ar,∀c∈ZQ ds 1++(ZQ ds 3++ZQ ds 4),0<=c/\c<=9) ds h
 have h4:t=1∨t=2∨t=3∨t=4:=by omega
 have hf:=h.fields
 have hd:=V5 h.ok c
 rcases h4 with rfl|rfl|rfl|rfl
 ·exact ⟨key c (Xj.2 (.inl hc)),.inl rfl,hd,hf c (Xj.2 (.inl hc))⟩
 ·rw [hlow.2.2.1] at hc;cases hc
 ·exact ⟨key c (Xj.2 (.inr (Xj.2 (.inl hc)))),.inr (.inl rfl),hd,hf c (Xj.2 (.inr (Xj.2 (.inl hc))))⟩
 ·exact ⟨key c (Xj.2 (.inr (Xj.2 (.inr hc)))),.inr (.inr rfl),hd,hf c (Xj.2 (.inr (Xj.2 (.inr hc))))⟩
def Jv:List (LI × Int):=[([],0),([1],0),([1,1],1),([1],1),([1,0],1),([2,1],1),([1,1],0),([3],0),([0],1),([0,1],1),([3,0],3),([3],1),([1,3,0],0),([0],0),([0,0],0),([1,0],0)]
def T9 (f:Func):Prop:=(f.params,f.result)∈Jv
theorem T9.bd {f:Func} (h:T9 f):f.params.length<=3/\(∀t∈f.params,0<=t/\t<=3)/\KE f.result:=by
 have key:∀q∈Jv,q.1.length<=3/\(∀t∈q.1,0<=t/\t<=3)/\KE q.2:=by decide
 exact key _ h
theorem T9.clo {ds:List Zb} {f:Func} (hd:GD ds) (h:T9 f) (hp:0<Jx ds (gI f.params ((f.params.length:Int)-1)) f.result):∀t∈f.params.dropLast,KE t:=by
 have key:∀q∈Jv,0<Jx ds (gI q.1 ((q.1.length:Int)-1)) q.2->∀t∈q.1.dropLast,KE t:=
  (by decide +kernel:∀ds∈Ar,∀q∈Jv,0<Jx ds (gI q.1 ((q.1.length:Int)-1)) q.2->∀t∈q.1.dropLast,KE t) ds hd
 exact key _ h hp
structure GP (p:W1):Prop where
 decls:GD p.decls
 len:1<=p.funcs.length/\p.funcs.length<=4
 sigs:∀f∈p.funcs,T9 f
def TJ (ds:List Zb) (op num:Int) (m:Nat) (k:Nat):Nat:=
 if op=13 then m+k else if op=8 then (if k=0 then m else m+(ZK ds (gI (ZQ ds num) ((k:Int)-1))).length) else m
mutual
def eW (ds:List Zb) (nf:Nat):Nat->Z1->Prop
 | m,.mk op num kids=>(0<=op/\op<=13)/\(op=12->kids=[]/\0<=num/\num<m)/\(op=13->kids.length=2)/\(op=7->kids.length=3)/\(op=8->kids.length=1+(ZQ ds num).length)/\(op=9->0<=num/\num<nf)/\(-2000<=num/\num<=2000)/\kids.length<=4 /\
  Qw ds nf (TJ ds op num m) 0 kids
def Qw (ds:List Zb) (nf:Nat) (sc:Nat->Nat):Nat->List Z1->Prop
 | _,[]=>True
 | k,e::r=>eW ds nf (sc k) e/\Qw ds nf sc (k+1) r
end
theorem Z2q {ds:List Zb} {nf m:Nat} (e:Z1):eW ds nf m e↔(0<=e.op/\e.op<=13)/\(e.op=12->e.kids=[]/\0<=e.num/\e.num<m)/\(e.op=13->e.kids.length=2)/\(e.op=7->e.kids.length=3)/\(e.op=8->e.kids.length=1+(ZQ ds e.num).length)/\(e.op=9->0<=e.num/\e.num<nf)/\(-2000<=e.num/\e.num<=2000)/\e.kids.length<=4 /\
  Qw ds nf (TJ ds e.op e.num m) 0 e.kids:=by cases e;rw [eW];rfl
theorem CS {ds:List Zb} {nf:Nat} {sc:Nat->Nat}:∀{xs:List Z1} {j k:Nat} {e:Z1},Qw ds nf sc j xs->xs[k]? = some e->eW ds nf (sc (j+k)) e
 | [],j,k,e,_,h=>by simp at h
 | x::r,j,0,e,hw,h=>by simp at h;subst h;exact hw.1
 | x::r,j,k+1,e,hw,h=>by
  have:=CS (xs:=r) (j:=j+1) (k:=k) hw.2 (by simpa using h)
  rw [show j+(k+1)=j+1+k by omega];exact this
theorem MY {ds:List Zb} {nf:Nat} {sc:Nat->Nat}:∀{xs ys:List Z1} {j:Nat},Qw ds nf sc j (xs++ys)↔Qw ds nf sc j xs/\Qw ds nf sc (j+xs.length) ys
 | [],ys,j=>by simp [Qw]
 | x::r,ys,j=>by
  rw [A0,Qw,Qw,MY (xs:=r),and_assoc,Yw,show j+1+r.length=j+(r.length+1) by omega]
theorem HR {ds:List Zb} {nf m:Nat} {sc:Nat->Nat} (hs:∀k,sc k=m):∀{xs:List Z1} {j:Nat},(∀e∈xs,eW ds nf m e)->Qw ds nf sc j xs
 | [],_,_=>True.intro
 | x::r,j,h=>⟨by rw [hs];exact h x (Xm ..),HR hs fun e he=>h e (XE _ he)⟩
theorem BX {ds:List Zb} {nf m:Nat} {op num:Int} {kids:List Z1} (ho:0<=op/\op<=11/\op≠7/\op≠8) (hc:op=9->0<=num/\num<nf) (hn:-2000<=num/\num<=2000) (hl:kids.length<=4) (hk:∀e∈kids,eW ds nf m e):eW ds nf m (.mk op num kids):=by
 rw [eW]
 refine ⟨by omega,fun h=>by omega,fun h=>by omega,fun h=>by omega,fun h=>by omega,hc,hn,hl,HR (m:=m) (fun k=>?_) hk⟩
 rw [TJ,Za om,Za om]
theorem Z2r {ds:List Zb} {nf m:Nat} {z:Int} (hz:-2000<=z/\z<=2000):eW ds nf m (.mk 0 z []):=BX om (fun h=>by omega) hz (by simp) (fun e he=>by cases he)
theorem Z2s {ds:List Zb} {nf m:Nat} {z:Int} (hz:0<=z/\z<m) (hm:m<=2000):eW ds nf m (.mk 12 z []):=by
 rw [eW]
 exact ⟨by omega,fun _=>⟨rfl,hz⟩,fun h=>by omega,fun h=>by omega,fun h=>by omega,fun h=>by omega,by omega,by simp,True.intro⟩
theorem MW {ds:List Zb} {nf m:Nat} {num:Int} {kids:List Z1} (hn:-2000<=num/\num<=2000) (hl:kids.length=3) (hk:∀e∈kids,eW ds nf m e):eW ds nf m (.mk 7 num kids):=by
 rw [eW]
 refine ⟨by omega,fun h=>by omega,fun h=>by omega,fun _=>hl,fun h=>by omega,fun h=>by omega,hn,by omega,HR (m:=m) (fun k=>?_) hk⟩
 rw [TJ,Za om,Za om]
theorem MX {ds:List Zb} {nf m:Nat} {num:Int} {a b:Z1} (hn:-2000<=num/\num<=2000) (ha:eW ds nf m a) (hb:eW ds nf (m+1) b):eW ds nf m (.mk 13 num [a,b]):=by
 rw [eW]
 exact ⟨by omega,fun h=>by omega,fun _=>rfl,fun h=>by omega,fun h=>by omega,fun h=>by omega,hn,by simp,ha,hb,True.intro⟩
theorem HQ {ds:List Zb} {nf m:Nat} {num:Int} {a:Z1} {arms:List Z1} (hn:-2000<=num/\num<=2000) (h3:arms.length<=3) (hl:arms.length=(ZQ ds num).length) (ha:eW ds nf m a) (hk:Qw ds nf (TJ ds 8 num m) 1 arms):eW ds nf m (.mk 8 num (a::arms)):=by
 rw [eW]
 refine ⟨by omega,fun h=>by omega,fun h=>by omega,fun h=>by omega,fun _=>by rw [Yw];omega,fun h=>by omega,hn,by rw [Yw];omega,?_,hk⟩
 rw [TJ,Za om,Zk rfl,Zk rfl]
 exact ha
def bS (b:Nat):Nat:=max 4 (10*b-10)
def bC (b:Nat):Nat:=max 40 (100*b-100)
def Yn:List Z5->Nat
 | []=>0
 | s::r=>(if YK s.op=true then 0 else 1)+Yn r
theorem UO:∀xs ys:List Z5,Yn (xs++ys)=Yn xs+Yn ys
 | [],ys=>by simp [Yn]
 | x::r,ys=>by rw [A0,Yn,Yn,UO r];omega
theorem Ah:∀xs:List Z5,Yn xs<=xs.length
 | []=>X7 _
 | x::r=>by have:=Ah r;rw [Yn,Yw];split<;>omega
def WL (ds:List Zb) (op num:Int) (m:Nat) (k:Nat):Nat:=if op=8 then m+(ZK ds (gI (ZQ ds num) k)).length else m
mutual
def fS (ds:List Zb) (nf:Nat):Nat->Z5->Prop
 | m,.mk op num into args kids=>((0<=op/\op<=11)∨(14<=op/\op<=17))/\(∀a∈args,0<=a/\a<m)/\(14<=op->num=0/\into=0/\kids=[]/\∃a,args=[a])/\(op=7->kids.length=2)/\(op=8->kids.length=(ZQ ds num).length)/\(op=7∨op=8->∃a,args=[a]) /\
  (op=9->0<=num/\num<nf)/\(-2000<=num/\num<=2000)/\(0<=into/\into<=m)/\args.length<=4/\(op≠7/\op≠8->kids=[])/\VR ds nf (WL ds op num m) 0 kids
def VR (ds:List Zb) (nf:Nat) (sc:Nat->Nat):Nat->List Z7->Prop
 | _,[]=>True
 | k,b::r=>fB ds nf (sc k) b/\VR ds nf sc (k+1) r
def W5 (ds:List Zb) (nf:Nat):Nat->List Z5->Prop
 | _,[]=>True
 | m,s::r=>fS ds nf m s/\W5 ds nf (if YK s.op=true then m else m+1) r
def fB (ds:List Zb) (nf:Nat):Nat->Z7->Prop
 | m,.mk steps result=>W5 ds nf m steps/\0<=result/\result<(m+Yn steps:Nat)
end
section
variable {ds:List Zb} {nf:Nat}
structure FS (ds:List Zb) (nf m:Nat) (s:Z5):Prop where
 op:(0<=s.op/\s.op<=11)∨(14<=s.op/\s.op<=17)
 args:∀a∈s.args,0<=a/\a<m
 cnt:14<=s.op->s.num=0/\s.into=0/\s.kids=[]/\∃a,s.args=[a]
 k7:s.op=7->s.kids.length=2
 k8:s.op=8->s.kids.length=(ZQ ds s.num).length
 one:s.op=7∨s.op=8->∃a,s.args=[a]
 call:s.op=9->0<=s.num/\s.num<nf
 num:-2000<=s.num/\s.num<=2000
 into:0<=s.into/\s.into<=m
 alen:s.args.length<=4
 kn:s.op≠7/\s.op≠8->s.kids=[]
 kids:VR ds nf (WL ds s.op s.num m) 0 s.kids
theorem An {m:Nat} (s:Z5):fS ds nf m s↔FS ds nf m s:=by
 cases s
 rw [fS]
 exact ⟨fun ⟨h1,h2,h3,h4,h5,h6,h7,h8,h9,h10,h11,h12⟩=>⟨h1,h2,h3,h4,h5,h6,h7,h8,h9,h10,h11,h12⟩,fun h=>⟨h.op,h.args,h.cnt,h.k7,h.k8,h.one,h.call,h.num,h.into,h.alen,h.kn,h.kids⟩⟩
theorem Kt {m:Nat} (b:Z7):fB ds nf m b↔W5 ds nf m b.steps/\0<=b.result/\b.result<(m+Yn b.steps:Nat):=by cases b;rw [fB];rfl
theorem B4 {sc:Nat->Nat}:∀{xs:List Z7} {j k:Nat} {b:Z7},VR ds nf sc j xs->xs[k]? = some b->fB ds nf (sc (j+k)) b
 | [],j,k,b,_,h=>by simp at h
 | x::r,j,0,b,hw,h=>by simp at h;subst h;exact hw.1
 | x::r,j,k+1,b,hw,h=>by
  have:=B4 (xs:=r) (j:=j+1) (k:=k) hw.2 (by simpa using h)
  rw [show j+(k+1)=j+1+k by omega];exact this
theorem N4 {sc:Nat->Nat}:∀{xs ys:List Z7} {j:Nat},VR ds nf sc j (xs++ys)↔VR ds nf sc j xs/\VR ds nf sc (j+xs.length) ys
 | [],ys,j=>by simp [VR]
 | x::r,ys,j=>by
  rw [A0,VR,VR,N4 (xs:=r),and_assoc,Yw,show j+1+r.length=j+(r.length+1) by omega]
theorem N6 {sc:Nat->Nat} {xs:List Z7} {b:Z7} (h:VR ds nf sc 0 xs) (hb:fB ds nf (sc xs.length) b):VR ds nf sc 0 (xs++[b]):=
 N4.2 ⟨h,by rw [Wh];exact hb,True.intro⟩
theorem JM:∀{xs ys:List Z5} {m:Nat},W5 ds nf m (xs++ys)↔W5 ds nf m xs/\W5 ds nf (m+Yn xs) ys
 | [],ys,m=>by simp [W5,Yn]
 | x::r,ys,m=>by
  rw [A0,W5,W5,JM (xs:=r),and_assoc,Yn]
  by_cases h:YK x.op=true
  ·rw [Zk h,Zk h,Wh]
  ·rw [Za h,Za h,A4]
theorem Fo {xs:List Z5} {s:Z5} {m:Nat} (h:W5 ds nf m xs) (hs:fS ds nf (m+Yn xs) s):W5 ds nf m (xs++[s]):=JM.2 ⟨h,hs,True.intro⟩
theorem CU:∀{xs:List Z5} {k m:Nat} {s:Z5},W5 ds nf m xs->xs[k]? = some s->fS ds nf (m+Yn (xs.take k)) s
 | [],k,m,s,_,h=>by simp at h
 | x::r,0,m,s,hw,h=>by simp at h;subst h;exact hw.1
 | x::r,k+1,m,s,hw,h=>by
  have:=CU (xs:=r) (k:=k) hw.2 (by simpa using h)
  rw [A3,Yn]
  by_cases hc:YK x.op=true
  ·rw [Zk hc] at this ⊢;rw [Wh];exact this
  ·rw [Za hc] at this ⊢;rw [<-A4];exact this
theorem HV {op v:Int} {m:Nat} (ho:14<=op/\op<=17) (hv:0<=v/\v<m):fS ds nf m (Zt op v):=by
 rw [Zt,fS]
 exact ⟨.inr ho,fun a ha=>by rw [Xv.1 ha];exact hv,fun _=>⟨rfl,rfl,rfl,v,rfl⟩,fun h=>by omega,fun h=>by omega,fun h=>by omega,fun h=>by omega,by omega,by omega,by simp,fun _=>rfl,True.intro⟩
theorem Fm {op:Int} {m:Nat} (ho:14<=op/\op<=17):∀{vs:LI},(∀v∈vs,0<=v/\v<(m:Int))->W5 ds nf m (vs.map (Zt op))/\Yn (vs.map (Zt op))=0
 | [],_=>⟨True.intro,rfl⟩
 | v::r,h=>by
  obtain ⟨h1,h2⟩:=Fm ho (vs:=r) fun x hx=>h x (XE _ hx)
  have hc:YK op=true:=by simp [YK];omega
  have hc':YK (Zt op v).op=true:=hc
  rw [T6,W5,Yn,Zk hc',Zk hc',Wh]
  exact ⟨⟨HV ho (h v (Xm ..)),h1⟩,h2⟩
mutual
theorem Zeb:∀(s:Z5) {m:Nat},fS ds nf m s->m+4*s.sz<=900000000->Xw ds->wS ds s
 | .mk op num into args kids,m,h,hb,hd=>by
  rw [fS] at h
  obtain ⟨h1,h2,h3,h4,h5,h6,h7,h8,h9,h10,h11,h12⟩:=h
  rw [Z5.sz] at hb
  rw [wS]
  refine ⟨?_,fun hc=>h3 (show 14<=op/\op<=17 by simpa [YK] using hc).1,fun h8'=>⟨?_,h5 h8'⟩,Sr kids h12 (fun k=>?_) hd⟩
  ·rcases h1 with h1|h1
   ·have e1:YK op=false:=by simp [YK];omega
    have e2:Xa op=true:=by simp [Xa];omega
    rw [e1,e2];rfl
   ·have e1:YK op=true:=by simp [YK];omega
    have e2:Xa op=false:=by simp [Xa];omega
    rw [e1,e2];rfl
  ·obtain ⟨a,ha⟩:=h6 (.inr h8')
   have:=h2 a (by rw [ha];exact Xv.2 rfl)
   exact ⟨a,ha,by omega⟩
  ·have hf:=V5 hd (gI (ZQ ds num) k)
   show WL ds op num m k+4*YS kids<=900000003
   rw [WL];split<;>omega
theorem Sr:∀(bs:List Z7) {sc:Nat->Nat} {k:Nat},VR ds nf sc k bs->(∀k,sc k+4*YS bs<=900000003)->Xw ds->KS ds bs
 | [],_,_,_,_,_=>True.intro
 | b::r,sc,k,h,hb,hd=>by
  have hp:=b.sz_eq
  exact ⟨LT b h.1 (by have:=hb k;rw [YS] at this;omega) hd,Sr r h.2 (fun j=>by have:=hb j;rw [YS] at this;omega) hd⟩
theorem Ss:∀(xs:List Z5) {m:Nat},W5 ds nf m xs->m+4*Yo xs<=900000000->Xw ds->Qm ds xs
 | [],_,_,_,_=>True.intro
 | s::r,m,h,hb,hd=>by
  rw [Yo] at hb
  have hp:=s.sz_pos
  refine ⟨Zeb s h.1 om hd,Ss r h.2 ?_ hd⟩
  split<;>omega
theorem LT:∀(b:Z7) {m:Nat},fB ds nf m b->m+4*b.sz<=900000004->Xw ds->wB ds b
 | .mk steps result,m,h,hb,hd=>by
  rw [Z7.sz] at hb
  rw [fB] at h
  rw [wB]
  exact Ss steps h.1 om hd
end
mutual
theorem Zaa:∀(s:Z5) {m:Nat},fS ds nf m s->s.rng
 | .mk op num into args kids,m,h=>by
  rw [fS] at h
  obtain ⟨h1,h2,h3,h4,h5,h6,h7,h8,h9,h10,h11,h12⟩:=h
  rw [Z5.rng]
  exact ⟨by omega,PT kids h12⟩
theorem PT:∀(bs:List Z7) {sc:Nat->Nat} {k:Nat},VR ds nf sc k bs->JB bs
 | [],_,_,_=>True.intro
 | b::r,sc,k,h=>⟨Ld b h.1,PT r h.2⟩
theorem PU:∀(xs:List Z5) {m:Nat},W5 ds nf m xs->JW xs
 | [],_,_=>True.intro
 | s::r,m,h=>⟨Zaa s h.1,PU r h.2⟩
theorem Ld:∀(b:Z7) {m:Nat},fB ds nf m b->b.rng
 | .mk steps result,m,h=>by rw [fB] at h;rw [Z7.rng];exact PU steps h.1
end
end
structure FN (n:ZC) (q:Nat):Prop where
 decls:GD n.decls
 len:1<=n.routines.length/\n.routines.length<=4
 sigs:∀r∈n.routines,(r.params,r.result)∈Jv
 lent:∀r∈n.routines,r.lent.length<=3/\∀i∈r.lent,0<=i/\i<r.params.length
 body:∀r∈n.routines,fB n.decls n.routines.length r.params.length r.body/\r.body.sz<=q
theorem FN.ok {n:ZC} {q:Nat} (h:FN n q):Xr n:=
 ⟨h.decls.ok,h.len.2,fun r hr=>(T9.bd (f:=⟨r.params,r.result,default⟩) (h.sigs r hr)).1,fun r hr=>by have:=(h.lent r hr).1;omega⟩
def Pk (n k:Int):Prop:=0<=k/\(0<n->k<n)/\(n<=0->k=0)
theorem Pk.lt {n k:Int} (h:Pk n k) (hn:0<n):0<=k/\k<n:=⟨h.1,h.2.1 hn⟩
theorem Pk.zero {n:Int}:Pk n 0:=⟨Int.le_refl _,fun h=>h,fun _=>rfl⟩
theorem Pk.rem {n a:Int} (ha:0<=a) (hn:0<n):Pk n (a % n):=⟨Int.emod_nonneg _ om,fun _=>Int.emod_lt_of_pos _ hn,fun _=>by omega⟩
def AD (ds:List Zb):Prop:=ds.length<=8/\∀d∈ds,d.cons.length<=4/\∀c∈d.cons,c.fields.length<=4
theorem GD.ad {ds:List Zb} (h:GD ds):AD ds:=(by decide:∀ds∈Ar,ds.length<=8/\∀d∈ds,d.cons.length<=4/\∀c∈d.cons,c.fields.length<=4) ds h
theorem AD.set {ds:List Zb} (h:AD ds) (k:Nat) {d:Zb} (hd:d.cons.length<=4/\∀c∈d.cons,c.fields.length<=4):AD (ds.set k d):=
 ⟨by rw [VC];exact h.1,fun x hx=>(List.mem_or_eq_of_mem_set hx).elim (h.2 x) fun e=>by rw [e];exact hd⟩
theorem AD.app {ds es:List Zb} (h:AD ds) (hl:ds.length+es.length<=8) (hd:∀d∈es,d.cons.length<=4/\∀c∈d.cons,c.fields.length<=4):AD (ds++es):=
 ⟨by rw [Yl];exact hl,fun x hx=>(Xj.1 hx).elim (h.2 x) (hd x)⟩
theorem GD.three:GD [Af,⟨0,0,[]⟩,Ag]:=List.Mem.head _
theorem GD.four:∀{k:Nat} {x:Zb},MJ[k]? = some x->GD ([Af,⟨0,0,[]⟩,Ag]++[x])
 | 0,x,h=>by cases h;exact .tail _ (.head _)
 | 1,x,h=>by cases h;exact .tail _ (.tail _ (.head _))
 | 2,x,h=>by cases h;exact .tail _ (.tail _ (.tail _ (.head _)))
 | 3,x,h=>by cases h;exact .tail _ (.tail _ (.tail _ (.tail _ (.head _))))
 | k+4,x,h=>by simp [MJ] at h
theorem Bg {l:LI} {z a b:Int} (h:z∈l) (hl:l.all (fun x=>decide (a<=x/\x<=b))=true):a<=z/\z<=b:=by
 have:=JZ.1 hl z h
 exact of_decide_eq_true this
def rk (t:Int):Nat:=if KE t then 0 else 1
theorem Lc (t:Int):rk t<=1:=by rw [rk];split<;>omega
theorem PS {t:Int} (h:KE t):rk t=0:=Zk h
def SE (g:W1) (q:Nat) (e:Z1):Prop:=(∀m,eW g.decls g.funcs.length m e)/\e.sz<=q
def GE (g:W1) (m q:Nat) (e:Z1):Prop:=eW g.decls g.funcs.length m e/\e.sz<=q
theorem SE.ge {g:W1} {q q' m:Nat} {e:Z1} (h:SE g q e) (hq:q<=q'):GE g m q' e:=⟨h.1 m,V3 h.2 hq⟩
theorem GE.le {g:W1} {m q q':Nat} {e:Z1} (h:GE g m q e) (hq:q<=q'):GE g m q' e:=⟨h.1,V3 h.2 hq⟩
theorem Fl {m:Nat}:∀{xs:List Z1},(∀e∈xs,e.sz<=m)->Xy xs<=xs.length*m
 | [],_=>QS _
 | x::r,h=>by
  have h1:=h x (Xm ..)
  have h2:=Fl (xs:=r) fun e he=>h e (XE _ he)
  rw [Xy,Yw,Qp];omega
theorem Xx {α:Type} {p:α->Prop} {xs:List α} {a:α} (h:∀x∈xs,p x) (ha:p a):∀x∈xs++[a],p x:=fun x hx=>(Xj.1 hx).elim (h x) fun q=>by rw [Xv.1 q];exact ha
theorem SE.int {g:W1} {z:Int} {q:Nat} (hz:-2000<=z/\z<=2000) (hq:1<=q):SE g q (.mk 0 z []):=⟨fun _=>Z2r hz,by simpa [Z1.sz,Xy] using hq⟩
theorem SE.node {g:W1} {op num:Int} {ys:List Z1} {q k:Nat} (ho:op=6∨op=10) (hn:0<=num/\num<=2000) (hy:∀e∈ys,SE g 1 e) (hl:ys.length<=k) (hk:k<=3) (hq:1+k<=q):SE g q (.mk op num ys):=by
 refine ⟨fun m=>BX om (fun h=>by omega) om om fun e he=>(hy e he).1 m,?_⟩
 have:=Fl (xs:=ys) (m:=1) fun e he=>(hy e he).2
 rw [Z1.sz];omega
def AS (ds:List Zb) (t c:Int):Prop:=(0<=c/\c<=9)/\(ZK ds c).length<=3*rk t/\∀u∈ZK ds c,KE u
instance (ds:List Zb) (t c:Int):Decidable (AS ds t c):=inferInstanceAs (Decidable (_/\_/\_))
theorem Rl {ds:List Zb} (h:GD ds):∀t∈[(1:Int),2,3,4],∀c∈ZQ ds t,(t∈ZK ds c->∀c0,(ZQ ds t)[0]? = some c0->AS ds t c0)/\(¬t∈ZK ds c->AS ds t c):=by
 intro t ht c hc
 have k1:=(by decide:∀ds∈Ar,∀t∈[(1:Int),2,3,4],∀c∈ZQ ds t,(t∈ZK ds c->AS ds t (gI (ZQ ds t) 0))/\(¬t∈ZK ds c->AS ds t c)) ds h t ht c hc
 refine ⟨fun q c0 h0=>?_,k1.2⟩
 have:=k1.1 q
 rwa [UW (i:=0) h0] at this
theorem MG {ds:List Zb} (h:GD ds) {t c:Int} (hc:c∈ZQ ds t):t∈[(1:Int),2,3,4]:=by
 obtain ⟨_,h2,_⟩:=h.cons_cases hc
 rcases h2 with rfl|rfl|rfl<;>simp
theorem Zb4 {ds:List Zb} (h:GD ds) {t c c0:Int} (hc:c∈ZQ ds t) (ht:t∈ZK ds c) (h0:(ZQ ds t)[0]? = some c0):AS ds t c0:=(Rl h t (MG h hc) c hc).1 ht c0 h0
theorem Zb3 {ds:List Zb} (h:GD ds) {t c:Int} (hc:c∈ZQ ds t) (ht:¬t∈ZK ds c):AS ds t c:=(Rl h t (MG h hc) c hc).2 ht
theorem Za9 {ds:List Zb} (h:GD ds) {t:Int} (h0:(ZQ ds t).length=0) (ht:0<t):rk t=1:=by
 rw [rk,Za]
 rintro (q|q|q)
 ·omega
 ·rw [q,h.low.2.1] at h0;cases h0
 ·rw [q,h.low.2.2.2.1] at h0;cases h0
def A5 (g:W1) (t i:Int):Prop:=0<=i/\∃f,g.funcs[i.toNat]? = some f/\0<f.params.length/\Jx g.decls (gI f.params ((f.params.length:Int)-1)) f.result=t
theorem A5.lt {g:W1} {t i:Int} (h:A5 g t i):0<=i/\i<g.funcs.length:=by
 obtain ⟨h1,f,h2,_⟩:=h
 have:=(Xh.1 h2).1
 omega
theorem A5.mk {g:W1} {t x2:Int} {k:Nat} {f:Func} (hf:g.funcs[k]? = some f) (hl:0<f.params.length) (hx:f.params[f.params.length-1]? = some x2) (ha:Jx g.decls x2 f.result=t):A5 g t (k:Int):=by
 refine ⟨by omega,f,by simpa using hf,hl,?_⟩
 rw [UW (i:=(f.params.length:Int)-1) (by rw [show ((f.params.length:Int)-1).toNat=f.params.length-1 by omega];exact hx)]
 exact ha
theorem A5.low {g:W1} {t i u:Int} {f:Func} {j:Nat} (hg:GP g) (h:A5 g t i) (ht:0<t) (hf:g.funcs[i.toNat]? = some f) (hj:j+1<f.params.length) (hu:f.params[j]? = some u):rk u=0:=by
 obtain ⟨_,f',h2,_,h4⟩:=h
 have e:f'=f:=Cv (h2.symm.trans hf)
 subst e
 have h5:=(hg.sigs f' (Y2 hf)).clo hg.decls (by rw [h4];exact ht)
 refine PS (h5 u ?_)
 rw [List.dropLast_eq_take]
 exact Y2 (i:=j) (by rw [List.getElem?_take_of_lt om];exact hu)
end Go.Abs
section
namespace Go.Abs
theorem Jz (b:Nat):bS b=max 4 (10*b-10):=rfl
theorem Jy (b:Nat):bC b=max 40 (100*b-100):=rfl
theorem Eg {L q b:Nat} (hL:L<=3) (hb:3<=b) (hq:L*q<=b-1):1+L*bS q<=bS b:=by
 rw [Jz,Jz]
 have:L=0∨L=1∨L=2∨L=3:=by omega
 rcases this with rfl|rfl|rfl|rfl<;>omega
theorem Z8g {L q b:Nat} (hL:L<=3) (hb:3<=b) (hq:L*q<=b-2):5+L*bS q<=bS b:=by
 rw [Jz,Jz]
 have:L=0∨L=1∨L=2∨L=3:=by omega
 rcases this with rfl|rfl|rfl|rfl<;>omega
theorem Z8e {b:Nat} (hb:3<=b):1+(bS (b / 2)+bS (b / 2))<=bS b:=by rw [Jz,Jz];omega
theorem Z0b {b:Nat} (hb:3<=b):5+bS (b-2)<=bS b:=by rw [Jz,Jz];omega
theorem AA {L q b:Nat} (hL:L<=3) (hb:3<=b) (hq:L*q<=b-1):10+L*bC q<=bC b:=by
 rw [Jy,Jy]
 have:L=0∨L=1∨L=2∨L=3:=by omega
 rcases this with rfl|rfl|rfl|rfl<;>omega
theorem Z8f {L q b:Nat} (hL:L<=3) (hb:3<=b) (hq:L*q<=b-2):40+L*bC q<=bC b:=by
 rw [Jy,Jy]
 have:L=0∨L=1∨L=2∨L=3:=by omega
 rcases this with rfl|rfl|rfl|rfl<;>omega
theorem Z8d {b:Nat} (hb:3<=b):10+(bC (b / 2)+bC (b / 2))<=bC b:=by rw [Jy,Jy];omega
theorem Z0a {b:Nat} (hb:3<=b):40+bC (b-2)<=bC b:=by rw [Jy,Jy];omega
theorem Mn (b:Nat):4<=bS b:=by rw [Jz];omega
theorem Mm (b:Nat):40<=bC b:=by rw [Jy];omega
theorem TQ (L b:Nat):L*(b / L)<=b:=Nat.mul_div_le b L
theorem OT {k L C:Nat} (h:k<L):(k+1)*C=k*C+C/\(k+1)*C<=L*C:=⟨by rw [Qp,Nat.one_mul],KU C h⟩
theorem Dq {ds:List Zb} {d x:Int} {m k:Nat} (h:(ZQ ds d)[k]? = some x):TJ ds 8 d m (1+k)=m+(ZK ds x).length:=by
 rw [TJ,Za om,Zk rfl,Za om,UW (i:=((1+k:Nat):Int)-1) (by rw [show (((1+k:Nat):Int)-1).toNat=k by omega];exact h)]
section
variable {g:W1} {m:Nat}
theorem GE.var {z:Int} {q:Nat} (hz:0<=z/\z<m) (hm:m<=2000) (hq:1<=q):GE g m q (.mk 12 z []):=⟨Z2s hz hm,by simpa [Z1.sz,Xy] using hq⟩
theorem GE.list {ys:List Z1} {L s:Nat} (h:∀e∈ys,GE g m s e) (hl:ys.length=L):Xy ys<=L*s:=by rw [<-hl];exact Fl fun e he=>(h e he).2
theorem GE.node {op num:Int} {ys:List Z1} {L s q:Nat} (ho:0<=op/\op<=11/\op≠7/\op≠8) (hc:op=9->0<=num/\num<g.funcs.length) (hn:-2000<=num/\num<=2000) (h:∀e∈ys,GE g m s e) (hl:ys.length=L) (hL:L<=3) (hq:1+L*s<=q):GE g m q (.mk op num ys):=by
 have:=GE.list h hl
 exact ⟨BX ho hc hn om fun e he=>(h e he).1,by rw [Z1.sz];omega⟩
theorem GE.if_ {num:Int} {ys:List Z1} {s q:Nat} (hn:-2000<=num/\num<=2000) (h:∀e∈ys,GE g m s e) (hl:ys.length=3) (hq:1+3*s<=q):GE g m q (.mk 7 num ys):=by
 have:=GE.list h hl
 exact ⟨MW hn hl fun e he=>(h e he).1,by rw [Z1.sz];omega⟩
theorem GE.let_ {a b:Z1} {s q:Nat} (ha:GE g m s a) (hb:GE g (m+1) s b) (hq:1+(s+s)<=q):GE g m q (.mk 13 0 [a,b]):=by
 refine ⟨MX om ha.1 hb.1,?_⟩
 have h1:=ha.2
 have h2:=hb.2
 simp only [Z1.sz,Xy];omega
theorem GE.two {op num:Int} {a b:Z1} {s1 s2 q:Nat} (ho:0<=op/\op<=11/\op≠7/\op≠8/\op≠9) (hn:-2000<=num/\num<=2000) (ha:GE g m s1 a) (hb:GE g m s2 b) (hq:1+(s1+s2)<=q):GE g m q (.mk op num [a,b]):=by
 refine ⟨BX om (fun h=>by omega) hn (by simp) fun e he=>?_,?_⟩
 ·rcases YM.1 he with rfl|he
  ·exact ha.1
  ·rw [Xv.1 he];exact hb.1
 ·have h1:=ha.2
  have h2:=hb.2
  simp only [Z1.sz,Xy];omega
theorem GE.match_ {d:Int} {e:Z1} {ys:List Z1} {L s q:Nat} (hd:-2000<=d/\d<=2000) (he:GE g m 4 e) (hw:Qw g.decls g.funcs.length (TJ g.decls 8 d m) 1 ys) (hs:∀e∈ys,e.sz<=s) (hl:ys.length=L) (hL:L=(ZQ g.decls d).length) (h3:L<=3) (hq:5+L*s<=q):GE g m q (.mk 8 d (e::ys)):=by
 refine ⟨HQ hd om om he.1 hw,?_⟩
 have h1:=Fl hs
 rw [hl] at h1
 have h2:=he.2
 rw [Z1.sz,Xy];omega
end
def NL (s:Nat) (left w:Int):Prop:=((s:Int)<=left/\w=left-s)∨(left<s/\w=-1)
end Go.Abs
namespace Go.Abs
theorem Ce {L b p pp M:Nat} (hL:L<=3) (hb:3<=b) (h:pp<=p+8) (hp:p+(bC b-1)<=M):pp+L*bC ((b-1) / L)<=M:=by
 have:=AA hL hb (TQ L (b-1))
 omega
end Go.Abs
end
namespace Go.Abs
theorem Z2x (a b:Z1):Xy [a,b]=a.sz+b.sz:=by simp only [Xy];omega
theorem Fk (a b c:Z1):Xy [a,b,c]=a.sz+b.sz+c.sz:=by simp only [Xy];omega
theorem DM:bS 3=20/\bS 4=30/\bS 12=110/\bS 16=150/\bS 18=170/\bC 3=200/\bC 4=300/\bC 16=1500:=by decide
theorem EX {b:Nat} (h:b<=20):bS b<=190/\bC b<=1900/\(b<=2->bS b<=10):=by rw [Jz,Jy];omega
section
variable {g:W1} {m:Nat}
theorem SE.ofs {op num:Int} {ys:List Z1} {q:Nat} (ho:0<=op/\op<=11/\op≠7/\op≠8/\op≠9) (hn:-2000<=num/\num<=2000) (hl:ys.length<=4) (hy:∀e∈ys,∃s,SE g s e) (hq:1+Xy ys<=q):SE g q (.mk op num ys):=
 ⟨fun m=>BX om (fun h=>by omega) hn hl fun e he=>let ⟨_,h⟩:=hy e he;h.1 m,by rw [Z1.sz];exact hq⟩
theorem SE.nil {op num:Int} {q:Nat} (ho:0<=op/\op<=11/\op≠7/\op≠8/\op≠9) (hn:-2000<=num/\num<=2000) (hq:1<=q):SE g q (.mk op num []):=
 SE.ofs ho hn (by simp) (fun e he=>by cases he) (by simpa [Xy] using hq)
theorem SE.two {op num:Int} {a b:Z1} {s1 s2 q:Nat} (ho:0<=op/\op<=11/\op≠7/\op≠8/\op≠9) (hn:-2000<=num/\num<=2000) (ha:SE g s1 a) (hb:SE g s2 b) (hq:1+(s1+s2)<=q):SE g q (.mk op num [a,b]):=by
 refine SE.ofs ho hn (by simp) (fun e he=>?_) ?_
 ·rcases YM.1 he with rfl|he
  ·exact ⟨_,ha⟩
  ·rw [Xv.1 he];exact ⟨_,hb⟩
 ·have h1:=ha.2
  have h2:=hb.2
  rw [Z2x];omega
theorem SE.three {op num:Int} {a b c:Z1} {s1 s2 s3 q:Nat} (ho:0<=op/\op<=11/\op≠7/\op≠8/\op≠9) (hn:-2000<=num/\num<=2000) (ha:SE g s1 a) (hb:SE g s2 b) (hc:SE g s3 c) (hq:1+(s1+s2+s3)<=q):SE g q (.mk op num [a,b,c]):=by
 refine SE.ofs ho hn (by simp) (fun e he=>?_) ?_
 ·rcases YM.1 he with rfl|he
  ·exact ⟨_,ha⟩
  ·rcases YM.1 he with rfl|he
   ·exact ⟨_,hb⟩
   ·rw [Xv.1 he];exact ⟨_,hc⟩
 ·have h1:=ha.2
  have h2:=hb.2
  have h3:=hc.2
  rw [Fk];omega
theorem GE.int {z:Int} {q:Nat} (hz:-2000<=z/\z<=2000) (hq:1<=q):GE g m q (.mk 0 z []):=(SE.int (g:=g) (q:=q) hz hq).ge (X7 _)
theorem GE.three {op num:Int} {a b c:Z1} {s1 s2 s3 q:Nat} (ho:0<=op/\op<=11/\op≠8/\op≠9) (hn:-2000<=num/\num<=2000) (ha:GE g m s1 a) (hb:GE g m s2 b) (hc:GE g m s3 c) (hq:1+(s1+s2+s3)<=q):GE g m q (.mk op num [a,b,c]):=by
 have hk:∀e∈[a,b,c],eW g.decls g.funcs.length m e:=fun e he=>by
  rcases YM.1 he with rfl|he
  ·exact ha.1
  ·rcases YM.1 he with rfl|he
   ·exact hb.1
   ·rw [Xv.1 he];exact hc.1
 refine ⟨?_,?_⟩
 ·by_cases h7:op=7
  ·subst h7;exact MW hn rfl hk
  ·exact BX om (fun h=>by omega) hn (by simp) hk
 ·have h1:=ha.2
  have h2:=hb.2
  have h3:=hc.2
  rw [Z1.sz,Fk];omega
theorem GE.one {op num:Int} {a:Z1} {s1 q:Nat} (ho:0<=op/\op<=11/\op≠7/\op≠8/\op≠9) (hn:-2000<=num/\num<=2000) (ha:GE g m s1 a) (hq:1+s1<=q):GE g m q (.mk op num [a]):=by
 refine ⟨BX om (fun h=>by omega) hn (by simp) fun e he=>?_,?_⟩
 ·rw [Xv.1 he];exact ha.1
 ·have h1:=ha.2
  simp only [Z1.sz,Xy];omega
theorem GE.letS {a b:Z1} {s1 s2 q:Nat} (ha:GE g m s1 a) (hb:GE g (m+1) s2 b) (hq:1+(s1+s2)<=q):GE g m q (.mk 13 0 [a,b]):=by
 refine ⟨MX om ha.1 hb.1,?_⟩
 have h1:=ha.2
 have h2:=hb.2
 simp only [Z1.sz,Xy];omega
theorem GE.matchL (hg:GP g) {e a b:Z1} {s1 s2 s3 q:Nat} (he:GE g m s1 e) (ha:GE g m s2 a) (hb:GE g (m+2) s3 b) (hq:1+(s1+s2+s3)<=q):GE g m q (.mk 8 1 [e,a,b]):=by
 have hl:=hg.decls.low
 refine ⟨HQ om (by simp) (by rw [hl.2.1];rfl) he.1 ⟨?_,?_,True.intro⟩,?_⟩
 ·rw [Dq (k:=0) (x:=0) (by rw [hl.2.1];rfl),hl.2.2.2.2.1];exact ha.1
 ·rw [Dq (k:=1) (x:=1) (by rw [hl.2.1];rfl),hl.2.2.2.2.2.1];exact hb.1
 ·have h1:=he.2
  have h2:=ha.2
  have h3:=hb.2
  rw [Z1.sz,Fk];omega
theorem GE.matchT (hg:GP g) {e a b:Z1} {s1 s2 s3 q:Nat} (he:GE g m s1 e) (ha:GE g m s2 a) (hb:GE g (m+3) s3 b) (hq:1+(s1+s2+s3)<=q):GE g m q (.mk 8 3 [e,a,b]):=by
 have hl:=hg.decls.low
 refine ⟨HQ om (by simp) (by rw [hl.2.2.2.1];rfl) he.1 ⟨?_,?_,True.intro⟩,?_⟩
 ·rw [Dq (k:=0) (x:=2) (by rw [hl.2.2.2.1];rfl),hl.2.2.2.2.2.2.1];exact ha.1
 ·rw [Dq (k:=1) (x:=3) (by rw [hl.2.2.2.1];rfl),hl.2.2.2.2.2.2.2];exact hb.1
 ·have h1:=he.2
  have h2:=ha.2
  have h3:=hb.2
  rw [Z1.sz,Fk];omega
theorem Hf {α:Type} {p:α->Prop} {a:α} (h:p a):∀x∈[a],p x:=fun x hx=>by rw [Xv.1 hx];exact h
end
structure H3 (g:W1):Prop where
 gp:GP g
 body:∀f∈g.funcs,eW g.decls g.funcs.length f.params.length f.body/\f.body.sz<=30
structure GL (ds:List Zb) (k j:Nat) (rq:List Func):Prop where
 len:rq.length=4
 sigs:∀f∈rq,T9 f
 zero:∀f,rq[0]? = some f->f.params.length=0
 body:∀i f,j<=i->i<k->rq[i]? = some f->eW ds k f.params.length f.body/\f.body.sz<=30
theorem GL.gp {ds:List Zb} {k j:Nat} {rq:List Func} (h:GL ds k j rq) (hd:GD ds) (hk:1<=k/\k<=4):GP ⟨ds,rq.take k⟩:=
 ⟨hd,by show 1<=(rq.take k).length/\_;rw [Wd,h.len];omega,fun f hf=>h.sigs f (Qo hf)⟩
theorem GL.len_take {ds:List Zb} {k j:Nat} {rq:List Func} (h:GL ds k j rq) (hk:k<=4):(rq.take k).length=k:=by rw [Wd,h.len];omega
theorem GL.set {ds:List Zb} {k j:Nat} {rq:List Func} {f:Func} {e:Z1} (h:GL ds k j rq) (hj:1<=j) (hf:rq[j-1]? = some f) (he:eW ds k f.params.length e/\e.sz<=30):GL ds k (j-1) (rq.set (j-1) ⟨f.params,f.result,e⟩):=by
 have hl:=(Xh.1 hf).1
 refine ⟨by rw [VC];exact h.len,fun x hx=>?_,fun x hx=>?_,fun i x h1 h2 hx=>?_⟩
 ·rcases List.mem_or_eq_of_mem_set hx with hx|rfl
  ·exact h.sigs x hx
  ·exact h.sigs f (Y2 hf)
 ·rw [List.getElem?_set] at hx
  split at hx
  ·rename_i h0
   cases hx
   exact h.zero f (by rw [<-h0];exact hf)
  ·exact h.zero x hx
 ·rw [List.getElem?_set] at hx
  split at hx
  ·cases hx
   exact he
  ·exact h.body i x om h2 hx
theorem GL.done {ds:List Zb} {k:Nat} {rq:List Func} (h:GL ds k 0 rq) (hd:GD ds) (hk:1<=k/\k<=4):H3 ⟨ds,rq.take k⟩:=by
 refine ⟨h.gp hd hk,fun f hf=>?_⟩
 show eW ds (rq.take k).length _ _/\_
 rw [h.len_take hk.2]
 obtain ⟨i,hi⟩:=List.getElem?_of_mem hf
 have hi2:i<(rq.take k).length:=(Xh.1 hi).1
 rw [h.len_take hk.2] at hi2
 rw [List.getElem?_take_of_lt hi2] at hi
 exact h.body i f om hi2 hi
theorem Lq {l:List Func} {f:Func} {k:Nat} (h:l[k]? = some f) (hl:l.all (fun f=>decide ((f.params,f.result)∈Jv))=true):T9 f:=show (f.params,f.result)∈Jv from of_decide_eq_true (JZ.1 hl f (Y2 h))
theorem GL.start {ds:List Zb} {k:Nat} {e:Z1} {a b c:Func} (ha:T9 a) (hb:T9 b) (hc:T9 c):GL ds k k [⟨[],0,e⟩,a,b,c]:=by
 refine ⟨rfl,fun f hf=>?_,fun f hf=>?_,fun i f h1 h2=>by omega⟩
 ·rcases YM.1 hf with rfl|hf
  ·exact List.Mem.head _
  ·rcases YM.1 hf with rfl|hf
   ·exact ha
   ·rcases YM.1 hf with rfl|hf
    ·exact hb
    ·rw [Xv.1 hf];exact hc
 ·cases hf;rfl
theorem Z8y {l:LI} {k:Nat} {a b:Nat} (h:(k:Int)∈l) (hl:l.all (fun x=>decide ((a:Int)<=x/\x<=b))=true):a<=k/\k<=b:=by
 have:=of_decide_eq_true (JZ.1 hl _ h)
 omega
mutual
def QH (p:Int->Prop):Z5->Prop
 | .mk op _ _ _ kids=>p op/\QG p kids
def QG (p:Int->Prop):List Z7->Prop
 | []=>True
 | b::r=>Vc p b/\QG p r
def TE (p:Int->Prop):List Z5->Prop
 | []=>True
 | s::r=>QH p s/\TE p r
def Vc (p:Int->Prop):Z7->Prop
 | .mk steps _=>TE p steps
end
section
variable {p q:Int->Prop}
theorem El (s:Z5):QH p s↔p s.op/\QG p s.kids:=by cases s;rw [QH];rfl
theorem G7 (b:Z7):Vc p b↔TE p b.steps:=by cases b;rw [Vc];rfl
theorem Dg:∀{xs:List Z7},QG p xs↔∀b∈xs,Vc p b
 | []=>by simp [QG]
 | b::r=>by rw [QG,Dg];simp
theorem Ch:∀{xs:List Z5},TE p xs↔∀b∈xs,QH p b
 | []=>by simp [TE]
 | b::r=>by rw [TE,Ch];simp
theorem G8 {xs ys:List Z5}:TE p (xs++ys)↔TE p xs/\TE p ys:=by simp only [Ch,Xj];exact ⟨fun h=>⟨fun b hb=>h b (.inl hb),fun b hb=>h b (.inr hb)⟩,fun h b hb=>hb.elim (h.1 b) (h.2 b)⟩
theorem P4 {xs:List Z7} {b:Z7} (h:QG p xs) (hb:Vc p b):QG p (xs++[b]):=Dg.2 (Xx (Dg.1 h) hb)
theorem G9 {xs:List Z5} {b:Z5} (h:TE p xs) (hb:QH p b):TE p (xs++[b]):=Ch.2 (Xx (Ch.1 h) hb)
end
def WD (op:Int):Prop:=op<=11
def Vl (op:Int):Prop:=op<=15
end Go.Abs
section
namespace Go.Abs
structure LW (ds:List Zb) (nf q:Nat) (e:Z1) (ys:List Z5) (v:Int):Prop where
 fs:W5 ds nf q ys
 v:0<=v/\v<(q+Yn ys:Nat)
 sz:Yo ys<=6*e.sz
 op:TE WD ys
theorem LW.dn {ds:List Zb} {nf q:Nat} {e:Z1} {ys:List Z5} {v:Int} (h:LW ds nf q e ys v):Yn ys<=6*e.sz/\ys.length<=6*e.sz:=by
 have h1:=Ah ys
 have h2:=KN ys
 have h3:=h.sz
 omega
structure LB (ds:List Zb) (nf q:Nat) (e:Z1) (b:Z7):Prop where
 fb:fB ds nf q b
 sz:b.sz<=1+6*e.sz
 op:Vc WD b
section
variable {ds:List Zb} {nf q:Nat}
theorem EZ:∀xs ys:List Z7,YS (xs++ys)=YS xs+YS ys
 | [],ys=>by simp [YS]
 | x::r,ys=>by rw [A0,YS,YS,EZ r];omega
theorem LW.block {e:Z1} {ys:List Z5} {v:Int} (h:LW ds nf q e ys v):LB ds nf q e ⟨ys,v⟩:=
 ⟨by rw [fB];exact ⟨h.fs,h.v⟩,by rw [Z7.sz];have:=h.sz;omega,by rw [Vc];exact h.op⟩
theorem LW.var {e:Z1} {v:Int} (hv:0<=v/\v<q):LW ds nf q e [] v:=⟨True.intro,by simpa [Yn] using hv,by simp [Yo],True.intro⟩
theorem LW.let_ {e a b:Z1} {ys zs:List Z5} {v1 v2:Int} (ha:LW ds nf q a ys v1) (hb:LW ds nf (q+Yn ys) b zs v2) (he:a.sz+b.sz<e.sz):LW ds nf q e (ys++zs) v2:=by
 refine ⟨JM.2 ⟨ha.fs,hb.fs⟩,by rw [UO,<-A4];exact hb.v,?_,G8.2 ⟨ha.op,hb.op⟩⟩
 have h1:=ha.sz
 have h2:=hb.sz
 rw [TL];omega
theorem DQ {ys:List Z5} {s:Z5} (h:YK s.op=false):Yn (ys++[s])=Yn ys+1:=by
 rw [UO]
 simp [Yn,h]
theorem LW.node {e:Z1} {ys:List Z5} {as1:LI} (ho:0<=e.op/\e.op<=11/\e.op≠7/\e.op≠8) (hc:e.op=9->0<=e.num/\e.num<nf) (hn:-2000<=e.num/\e.num<=2000) (hf:W5 ds nf q ys) (ha:∀a∈as1,0<=a/\a<(q+Yn ys:Nat)) (hl:as1.length<=4) (hs:Yo ys<=6*Xy e.kids) (hop:TE WD ys) :
  LW ds nf q e (ys++[⟨e.op,e.num,0,as1,[]⟩]) ((q+Yn ys:Nat):Int):=by
 have hcb:YK e.op=false:=by simp [YK];omega
 refine ⟨Fo hf ?_,?_,?_,G9 hop (by rw [QH];exact ⟨by show e.op<=11;omega,True.intro⟩)⟩
 ·rw [fS]
  exact ⟨.inl ⟨by omega,by omega⟩,ha,fun h=>by omega,fun h=>by omega,fun h=>by omega,fun h=>by omega,hc,hn,by omega,hl,fun _=>rfl,True.intro⟩
 ·rw [DQ (show YK (Z5.mk e.op e.num 0 as1 []).op=false from hcb)];omega
 ·rw [TL,e.sz_eq]
  simp only [Yo,Z5.sz,YS]
  omega
theorem LW.branch {e:Z1} {ys:List Z5} {v:Int} {bs:List Z7} {s0 sr:Nat} (ho:e.op=7∨e.op=8) (h7:e.op=7->bs.length=2) (h8:e.op=8->bs.length=(ZQ ds e.num).length) (hn:-2000<=e.num/\e.num<=2000) (hf:W5 ds nf q ys) (hv:0<=v/\v<(q+Yn ys:Nat))
  (hb:VR ds nf (WL ds e.op e.num (q+Yn ys)) 0 bs) (hl:bs.length<=3) (h0:Yo ys<=6*s0) (h1:YS bs<=bs.length+6*sr) (hs:s0+sr<=Xy e.kids) (hop:TE WD ys) (hob:QG WD bs):LW ds nf q e (ys++[⟨e.op,e.num,0,[v],bs⟩]) ((q+Yn ys:Nat):Int):=by
 have hcb:YK e.op=false:=by simp [YK];omega
 refine ⟨Fo hf ?_,?_,?_,G9 hop (by rw [QH];exact ⟨by show e.op<=11;omega,hob⟩)⟩
 ·rw [fS]
  exact ⟨.inl ⟨by omega,by omega⟩,fun a ha=>by rw [Xv.1 ha];exact hv,fun h=>by omega,h7,h8,fun _=>⟨v,rfl⟩,fun h=>by omega,hn,by omega,by simp,fun h=>by omega,hb⟩
 ·rw [DQ (show YK (Z5.mk e.op e.num 0 [v] bs).op=false from hcb)];omega
 ·rw [TL,e.sz_eq]
  simp only [Yo,Z5.sz,Yw,X5]
  omega
theorem Rj {ds:List Zb} {op num:Int} {m k:Nat} (h:op=13):TJ ds op num m k=m+k:=Zk h
theorem Zb1 {ds:List Zb} {op num:Int} {m:Nat} (h:op≠13):TJ ds op num m 0=m:=by simp [TJ,h]
theorem Rk {ds:List Zb} {op num:Int} {m k:Nat} (h:op≠13/\op≠8):TJ ds op num m k=m:=by simp [TJ,h.1,h.2]
theorem Zb2 {ds:List Zb} {op num x:Int} {m k j:Nat} (h:op=8) (hk:k=j+1) (hx:(ZQ ds num)[j]? = some x):TJ ds op num m k=m+(ZK ds x).length:=by
 subst h;subst hk;rw [Nat.add_comm j 1];exact Dq hx
theorem Ln {ds:List Zb} {op num x:Int} {m j:Nat} (h:op=8) (hx:(ZQ ds num)[j]? = some x):WL ds op num m j=m+(ZK ds x).length:=by
 rw [WL,Zk h,UW (i:=(j:Int)) (by simpa using hx)]
theorem Lo {ds:List Zb} {op num:Int} {m j:Nat} (h:op≠8):WL ds op num m j=m:=Za h
theorem B3 {xs:List Z1} {k:Nat} {e:Z1} (h:xs[k]? = some e):Xy (xs.take (k+1))=Xy (xs.take k)+e.sz:=by rw [WU h,DV,Xy,Xy];rfl
theorem Am {xs:List Z1} (k:Nat):Xy (xs.take k)<=Xy xs:=by
 have h:=Yp Xy (Tk k xs)
 rw [DV] at h;omega
theorem N3 {xs:List Z1} {a b:Z1} (ha:xs[0]? = some a) (hb:xs[1]? = some b):a.sz+b.sz<=Xy xs:=by
 have h1:Xy (xs.take 1)=Xy (xs.take 0)+a.sz:=B3 ha
 have h2:Xy (xs.take 2)=Xy (xs.take 1)+b.sz:=B3 hb
 have h3:=Am (xs:=xs) 2
 omega
theorem EH {us:LI} {v:Int} {d:Nat} (hu:∀a∈us,0<=a/\a<(q:Int)) (hv:0<=v/\v<(q+d:Nat)):∀a∈us++[v],0<=a/\a<((q+d:Nat):Int):=
 Xx (fun a ha=>by have:=hu a ha;omega) hv
theorem GR {us:LI} {d:Nat} (hu:∀a∈us,0<=a/\a<(q:Int)):∀a∈us,0<=a/\a<((q+d:Nat):Int):=fun a ha=>by have:=hu a ha;omega
theorem Zdv {us ns:LI} {d mf:Nat} (hu:∀a∈us,0<=a/\a<(q:Int)) (hn:∀i∈ns,((q+d:Nat):Int)<=i/\i<((q+d:Nat):Int)+mf):∀a∈us++ns,0<=a/\a<((q+d+mf:Nat):Int):=fun a ha=>by
 rcases Xj.1 ha with h|h
 ·have:=hu a h;omega
 ·have:=hn a h;omega
theorem F3:∀bs:List Z7,bs.length<=YS bs
 | []=>X7 _
 | b::r=>by have:=F3 r;have:=b.sz_pos;rw [YS,Yw];omega
end
end Go.Abs
namespace Go.Abs
structure RF (ds:List Zb) (nf q:Nat) (p:Int->Prop) (r:Yz):Prop where
 sig:(r.params,r.result)∈Jv
 lent:r.lent.length<=3/\∀i∈r.lent,0<=i/\i<r.params.length
 body:fB ds nf r.params.length r.body/\r.body.sz<=q
 op:Vc p r.body
structure FO (n:ZC) (q:Nat) (p:Int->Prop):Prop where
 fn:FN n q
 op:∀r∈n.routines,Vc p r.body
theorem FO.rf {n:ZC} {q:Nat} {p:Int->Prop} (h:FO n q p) {r:Yz} (hr:r∈n.routines):RF n.decls n.routines.length q p r:=⟨h.fn.sigs r hr,h.fn.lent r hr,h.fn.body r hr,h.op r hr⟩
theorem FO.all {n:ZC} {q:Nat} {p:Int->Prop} (hd:GD n.decls) (hl:1<=n.routines.length/\n.routines.length<=4) (h:∀r∈n.routines,RF n.decls n.routines.length q p r):FO n q p:=
 ⟨⟨hd,hl,fun r hr=>(h r hr).sig,fun r hr=>(h r hr).lent,fun r hr=>(h r hr).body⟩,fun r hr=>(h r hr).op⟩
structure RN (ds:List Zb) (nf:Nat) (r:Yz):Prop where
 sig:(r.params,r.result)∈Jv
 lent:r.lent=[]
 body:fB ds nf r.params.length r.body/\r.body.sz<=181
 op:Vc WD r.body
theorem RN.all {n:ZC} {q:Nat} (hd:GD n.decls) (hl:1<=n.routines.length/\n.routines.length<=4) (h:∀r∈n.routines,RN n.decls n.routines.length r) (hq:181<=q):FO n q WD:=
 FO.all hd hl fun r hr=>⟨(h r hr).sig,by rw [(h r hr).lent];exact ⟨by simp,fun i hi=>by cases hi⟩,⟨(h r hr).body.1,V3 (h r hr).body.2 hq⟩,(h r hr).op⟩
end Go.Abs
namespace Go.Abs
theorem RN.of {ds:List Zb} {nf:Nat} {ps:LI} {rt:Int} {b:Z7} {e:Z1} (hs:(ps,rt)∈Jv) (h:LB ds nf ps.length e b) (he:e.sz<=30):RN ds nf ⟨ps,[],rt,Z7.mk b.steps b.result⟩:=by
 have e1:Z7.mk b.steps b.result=b:=by cases b;rfl
 rw [e1]
 exact ⟨hs,rfl,⟨h.fb,by have:=h.sz;show b.sz<=181;omega⟩,h.op⟩
end Go.Abs
end
namespace Go.Abs
theorem LA:∀{xs:List Z5} {s:Z5},s∈xs->s.sz<=Yo xs
 | [],s,h=>by cases h
 | x::r,s,h=>by
  rw [Yo]
  rcases YM.1 h with rfl|h
  ·omega
  ·have:=LA h;omega
theorem Hn:∀{xs:List Z7} {b:Z7},b∈xs->b.sz<=YS xs
 | [],b,h=>by cases h
 | x::r,b,h=>by
  rw [YS]
  rcases YM.1 h with rfl|h
  ·omega
  ·have:=Hn h;omega
structure LC (n:ZC) (k:Nat) (xs:List LI):Prop where
 len:xs.length=k
 ok:∀(i:Nat) (l:LI),xs[i]? = some l->l.length<=3/\∀r,n.routines[i]? = some r->∀v∈l,0<=v/\v<(r.params.length:Int)
theorem LC.nil {n:ZC}:LC n 0 []:=⟨rfl,fun i l h=>by simp at h⟩
theorem LC.snoc {n:ZC} {k:Nat} {xs:List LI} {l:LI} (h:LC n k xs) (hl:l.length<=3) (hv:∀r,n.routines[k]? = some r->∀v∈l,0<=v/\v<(r.params.length:Int)):LC n (k+1) (xs++[l]):=by
 refine ⟨by rw [Yl,h.len];rfl,fun i l' hi=>?_⟩
 by_cases hk:i<xs.length
 ·rw [A1 hk] at hi
  exact h.ok i l' hi
 ·rw [DE om] at hi
  have h0:i-xs.length=0:=by
   cases e:i-xs.length with
   | zero=>rfl
   | succ q=>rw [e] at hi;simp at hi
  rw [h0] at hi
  cases hi
  have e:i=k:=by have:=h.len;omega
  subst e
  exact ⟨hl,hv⟩
def VZ:LI->Int->LI
 | [],y=>[y]
 | x::r,y=>if x>y then y::x::r else if x=y then x::r else x::VZ r y
def TY (d:Bool) (xs:LI) (y:Int):LI:=if d=true then xs else VZ xs y
theorem FK {xs:LI} {y:Int}:TY true xs y=xs:=rfl
theorem FJ {xs:LI} {y:Int}:TY false xs y=VZ xs y:=rfl
theorem Of {xs acc r:LI} {y x:Int} {k:Nat} {d:Bool} (hx:xs[k]? = some x) (hd:d=true) (h:acc++TY d (xs.drop k) y=r):(acc++[x])++TY d (xs.drop (k+1)) y=r:=by
 subst hd
 rw [FK,Yi hx] at h
 rw [FK,<-h];simp
theorem Z7a {xs acc r:LI} {y x:Int} {k:Nat} {d:Bool} (hx:xs[k]? = some x) (hd:¬d=true) (hl:¬x>=y) (h:acc++TY d (xs.drop k) y=r):(acc++[x])++TY d (xs.drop (k+1)) y=r:=by
 have hd:=Q5.2 hd
 subst hd
 rw [FJ,Yi hx,VZ,Za om,Za om] at h
 rw [FJ,<-h];simp
theorem Z7b {xs acc r:LI} {y x:Int} {k:Nat} {d:Bool} (hx:xs[k]? = some x) (hd:¬d=true) (hl:x>y) (h:acc++TY d (xs.drop k) y=r):((acc++[y])++[x])++TY true (xs.drop (k+1)) y=r:=by
 have hd:=Q5.2 hd
 subst hd
 rw [FJ,Yi hx,VZ,Zk hl] at h
 rw [FK,<-h];simp
theorem Z7c {xs acc r:LI} {y x:Int} {k:Nat} {d:Bool} (hx:xs[k]? = some x) (hd:¬d=true) (hl:x=y) (h:acc++TY d (xs.drop k) y=r):(acc++[x])++TY true (xs.drop (k+1)) y=r:=by
 have hd:=Q5.2 hd
 subst hd
 rw [FJ,Yi hx,VZ,Za om,Zk hl] at h
 rw [FK,<-h];simp
theorem Z79 {xs acc acc2 r:LI} {y x:Int} {k:Nat} {d d2:Bool} (hx:xs[k]? = some x) (h:acc++TY d (xs.drop k) y=r)
  (hc:(acc2=acc/\d2=d/\(d=true∨¬x>=y))∨(acc2=acc++[y]/\d2=true/\¬d=true/\x>y)∨(acc2=acc/\d2=true/\¬d=true/\x=y)):(acc2++[x])++TY d2 (xs.drop (k+1)) y=r:=by
 rcases hc with ⟨rfl,rfl,h3⟩|⟨rfl,rfl,h3,h4⟩|⟨rfl,rfl,h3,h4⟩
 ·rcases h3 with h3|h3
  ·exact Of hx h3 h
  ·by_cases q:d2=true
   ·exact Of hx q h
   ·exact Z7a hx q h3 h
 ·exact Z7b hx h3 h4 h
 ·exact Z7c hx h3 h4 h
theorem Z78 {xs acc r:LI} {y:Int} {k:Nat} {d:Bool} (hk:xs.length<=k) (h:acc++TY d (xs.drop k) y=r):(if d=true then acc else acc++[y])=r:=by
 rw [Xt hk] at h
 by_cases q:d=true
 ·rw [TY,Zk q,Jq] at h;rw [Zk q];exact h
 ·rw [TY,Za q,VZ] at h;rw [Za q];exact h
theorem D5:∀(xs:LI) (y:Int),(VZ xs y).length<=xs.length+1
 | [],y=>X7 _
 | x::r,y=>by
  have:=D5 r y
  rw [VZ]
  split
  ·simp
  ·split
   ·simp
   ·simp only [Yw];omega
theorem E9:∀{xs:LI} {y z:Int},z∈VZ xs y↔z∈xs∨z=y
 | [],y,z=>by simp [VZ]
 | x::r,y,z=>by
  rw [VZ]
  split
  ·simp only [YM];exact ⟨fun h=>h.elim .inr .inl,fun h=>h.elim .inr .inl⟩
  ·split
   ·rename_i h;subst h;simp only [YM];exact ⟨fun h=>.inl h,fun h=>h.elim id .inl⟩
   ·simp only [YM,E9 (xs:=r)];exact ⟨fun h=>by rcases h with h|h|h<;>simp [h],fun h=>by rcases h with (h|h)|h<;>simp [h]⟩
def BD (xs:LI):Prop:=xs.Pairwise (·<·)
theorem Oe:∀{xs:LI} {y:Int},BD xs->BD (VZ xs y)
 | [],y,_=>by simp [VZ,BD]
 | x::r,y,h=>by
  obtain ⟨h1,h2⟩:=V1.1 h
  rw [VZ]
  split
  ·rename_i q
   refine V1.2 ⟨fun z hz=>?_,h⟩
   rcases YM.1 hz with rfl|hz
   ·omega
   ·have:=h1 z hz;omega
  ·split
   ·exact h
   ·refine V1.2 ⟨fun z hz=>?_,Oe h2⟩
    rcases E9.1 hz with hz|rfl
    ·exact h1 z hz
    ·omega
def TF:LI->Int->LI
 | [],_=>[]
 | x::r,y=>if x=y then TF r y else x::TF r y
theorem Em:∀(xs:LI) (y:Int),(TF xs y).length<=xs.length
 | [],y=>X7 _
 | x::r,y=>by
  have:=Em r y
  rw [TF]
  split
  ·rw [Yw];omega
  ·rw [Yw,Yw];omega
theorem Di:∀{xs:LI} {y z:Int},z∈TF xs y->z∈xs
 | [],y,z,h=>by rw [TF] at h;exact h
 | x::r,y,z,h=>by
  rw [TF] at h
  split at h
  ·exact XE _ (Di h)
  ·rcases YM.1 h with rfl|h
   ·exact Xm ..
   ·exact XE _ (Di h)
theorem Z9i {xs acc r:LI} {y x:Int} {k:Nat} (hx:xs[k]? = some x) (h:acc++TF (xs.drop k) y=r):(if x≠y then acc++[x] else acc)++TF (xs.drop (k+1)) y=r:=by
 rw [Yi hx,TF] at h
 by_cases q:x=y
 ·rw [Zk q] at h;rw [Za (fun z=>z q)];exact h
 ·rw [Za q] at h;rw [Zk q,<-h];simp
theorem Z9h {xs acc r:LI} {y:Int} {k:Nat} (hk:xs.length<=k) (h:acc++TF (xs.drop k) y=r):acc=r:=by
 rw [Xt hk,TF,Jq] at h;exact h
def UA (n:Int) (xs:LI) (a:Int):LI:=if 0<=a/\a<n then VZ xs a else xs
def Qk (n:Int):LI->LI->LI
 | [],xs=>xs
 | a::r,xs=>Qk n r (UA n xs a)
mutual
def Jn (n:Int):Z5->LI->LI
 | .mk op _ _ args kids,xs=>if YK op=true then xs else KP n kids (Qk n args xs)
def KP (n:Int):List Z7->LI->LI
 | [],xs=>xs
 | b::r,xs=>KP n r (UJ n b xs)
def UK (n:Int):List Z5->LI->LI
 | [],xs=>xs
 | s::r,xs=>UK n r (Jn n s xs)
def UJ (n:Int):Z7->LI->LI
 | .mk steps result,xs=>UA n (UK n steps xs) result
end
section
variable {n:Int}
theorem Sm (s:Z5) (xs:LI):Jn n s xs=if YK s.op=true then xs else KP n s.kids (Qk n s.args xs):=by cases s;rw [Jn];rfl
theorem Sk (b:Z7) (xs:LI):UJ n b xs=UA n (UK n b.steps xs) b.result:=by cases b;rw [UJ];rfl
theorem GQ (xs:LI) (a:Int):(UA n xs a).length<=xs.length+1:=by
 rw [UA];split
 ·exact D5 xs a
 ·omega
theorem Sj:∀(as1 xs:LI),(Qk n as1 xs).length<=xs.length+as1.length
 | [],xs=>X7 _
 | a::r,xs=>by
  have h1:=Sj r (UA n xs a)
  have h2:=GQ (n:=n) xs a
  rw [Qk,Yw];omega
mutual
theorem Sn:∀(s:Z5) (xs:LI),(Jn n s xs).length<=xs.length+s.sz
 | .mk op num into args kids,xs=>by
  have h1:=Sl kids (Qk n args xs)
  have h2:=Sj (n:=n) args xs
  rw [Jn,Z5.sz];split<;>omega
theorem Sl:∀(bs:List Z7) (xs:LI),(KP n bs xs).length<=xs.length+YS bs
 | [],xs=>X7 _
 | b::r,xs=>by
  have h1:=Sl r (UJ n b xs)
  have h2:=GO b xs
  rw [KP,YS];omega
theorem LP:∀(bs:List Z5) (xs:LI),(UK n bs xs).length<=xs.length+Yo bs
 | [],xs=>X7 _
 | b::r,xs=>by
  have h1:=LP r (Jn n b xs)
  have h2:=Sn b xs
  rw [UK,Yo];omega
theorem GO:∀(b:Z7) (xs:LI),(UJ n b xs).length<=xs.length+b.sz
 | .mk steps result,xs=>by
  have h1:=LP steps xs
  have h2:=GQ (n:=n) (UK n steps xs) result
  rw [UJ,Z7.sz];omega
end
theorem Zdq {as1 ys r:LI} {k:Nat} {a:Int} (h:as1[k]? = some a) (ha:Qk n (as1.drop k) ys=r):Qk n (as1.drop (k+1)) (UA n ys a)=r:=by
 rw [Yi h,Qk] at ha;exact ha
theorem Zds {bs:List Z7} {ys r:LI} {k:Nat} {b:Z7} (h:bs[k]? = some b) (ha:KP n (bs.drop k) ys=r):KP n (bs.drop (k+1)) (UJ n b ys)=r:=by
 rw [Yi h,KP] at ha;exact ha
theorem Zdu {bs:List Z5} {ys r:LI} {k:Nat} {b:Z5} (h:bs[k]? = some b) (ha:UK n (bs.drop k) ys=r):UK n (bs.drop (k+1)) (Jn n b ys)=r:=by
 rw [Yi h,UK] at ha;exact ha
theorem Zdp {as1 ys r:LI} {k:Nat} (h:as1.length<=k) (ha:Qk n (as1.drop k) ys=r):ys=r:=by rw [Xt h,Qk] at ha;exact ha
theorem Zdr {bs:List Z7} {ys r:LI} {k:Nat} (h:bs.length<=k) (ha:KP n (bs.drop k) ys=r):ys=r:=by rw [Xt h,KP] at ha;exact ha
theorem Zdt {bs:List Z5} {ys r:LI} {k:Nat} (h:bs.length<=k) (ha:UK n (bs.drop k) ys=r):ys=r:=by rw [Xt h,UK] at ha;exact ha
end
theorem M1 {s:Z5} (h:Cn s):∃a,s.args=[a]:=⟨gI s.args 0,by have:=Yp Z5.args h;exact this⟩
section
variable {xs:LI} {v:Int} {lo hi:Nat}
end
section
variable {m:Int} {xs du dr:List Z5} {lf:LI} {d:Bool} {k:Nat} {s:Z5} {W:List Z5 × List Z5 × LI}
end
def YV:List Z5->Nat
 | []=>0
 | s::r=>if YK s.op=true then YV r+1 else 0
def W2 (op x:Int):List Z5->Int->Int
 | [],_=>-1
 | s::r,k=>if s.op=op/\gI s.args 0=x then k else W2 op x r (k+1)
def QY (many:Nat) (s:Z5):Prop:=(s.op=6/\s.into=0)/\s.args.length=many
instance (many:Nat) (s:Z5):Decidable (QY many s):=by unfold QY;infer_instance
def Ws (many:Nat):List Z5->Int->Int
 | [],_=>-1
 | s::r,k=>if QY many s then k else Ws many r (k+1)
def B7 (xs:List Z5) (i:Int):Z5:=xs[i.toNat]?.getD (Zt 0 0)
def TZ (v:Int) (s:Z5):Z5:=.mk s.op s.num v s.args s.kids
def Vd (xs:List Z5) (x:Int):Int:=W2 16 x (xs.take (YV xs)) 0
def Ww (xs:List Z5) (many:Nat):Int:=Ws many (xs.drop (YV xs)) (YV xs)
def Vs (xs:List Z5) (x:Int) (many:Nat):List Z5:=
 if Vd xs x<0∨Ww xs many<0 then xs else (xs.set (Vd xs x).toNat (Zt 17 x)).set (Ww xs many).toNat (TZ (1+x) (B7 xs (Ww xs many)))
def Vz (b:Z7) (x:Int) (many:Nat):Z7:=.mk (Vs b.steps x many) b.result
mutual
def T3 (ds:List Zb) (kept:LI):Z5->Z5
 | .mk op num into args kids=>.mk op num into args (VG ds kept op num args kids 0)
def VG (ds:List Zb) (kept:LI) (op num:Int) (args:LI):List Z7->Nat->List Z7
 | [],_=>[]
 | b::r,k=>(if op=8/\¬gI args 0∈kept then Vz (Wq ds (if Vd b.steps (gI args 0)<0∨Ww b.steps (Wu ds num k).length<0 then kept else gI args 0::kept) b) (gI args 0) (Wu ds num k).length else Wq ds kept b)::VG ds kept op num args r (k+1)
def VT (ds:List Zb) (kept:LI):List Z5->List Z5
 | []=>[]
 | s::r=>T3 ds kept s::VT ds kept r
def Wq (ds:List Zb) (kept:LI):Z7->Z7
 | .mk steps result=>.mk (VT ds kept steps) result
end
def FM (ds:List Zb) (kept:LI) (num:Int) (args:LI) (k:Nat) (b:Z7):LI:=if Vd b.steps (gI args 0)<0∨Ww b.steps (Wu ds num k).length<0 then kept else gI args 0::kept
def TI (ds:List Zb) (kept:LI) (op num:Int) (args:LI) (k:Nat) (b:Z7):Z7:=if op=8/\¬gI args 0∈kept then Vz (Wq ds (FM ds kept num args k b) b) (gI args 0) (Wu ds num k).length else Wq ds kept b
theorem JU (ds:List Zb) (kept:LI) (s:Z5):T3 ds kept s=.mk s.op s.num s.into s.args (VG ds kept s.op s.num s.args s.kids 0):=by cases s;rw [T3];rfl
theorem Gm (ds:List Zb) (kept:LI) (b:Z7):Wq ds kept b=.mk (VT ds kept b.steps) b.result:=by cases b;rw [Wq];rfl
theorem Gn (ds:List Zb) (kept:LI):∀xs:List Z5,VT ds kept xs=xs.map (T3 ds kept)
 | []=>rfl
 | s::r=>by rw [VT,Gn ds kept r];rfl
section
variable {ds:List Zb} {kept:LI}
theorem Zap {xs acc r:List Z5} {k:Nat} {s:Z5} (h:xs[k]? = some s) (ha:acc++VT ds kept (xs.drop k)=r) :
  (acc++[.mk s.op s.num s.into s.args (VG ds kept s.op s.num s.args s.kids 0)])++VT ds kept (xs.drop (k+1))=r:=by
 rw [Yi h,VT,JU] at ha
 rw [<-ha];simp
theorem Zao {xs acc r:List Z5} {k:Nat} (h:xs.length<=k) (ha:acc++VT ds kept (xs.drop k)=r):acc=r:=by
 rw [Xt h,VT,Jq] at ha;exact ha
theorem Zaj {op num:Int} {args:LI} {bs acc r:List Z7} {k:Nat} {b:Z7} (h:bs[k]? = some b) (ha:acc++VG ds kept op num args (bs.drop k) k=r) :
  (acc++[TI ds kept op num args k b])++VG ds kept op num args (bs.drop (k+1)) (k+1)=r:=by
 rw [Yi h,VG] at ha
 rw [<-ha,TI,FM];simp
theorem Zai {op num:Int} {args:LI} {bs acc r:List Z7} {k j:Nat} (h:bs.length<=k) (ha:acc++VG ds kept op num args (bs.drop k) j=r):acc=r:=by
 rw [Xt h,VG,Jq] at ha;exact ha
end
section
variable {ds:List Zb}
mutual
theorem Zam:∀(s:Z5) {K K':LI},(∀z,z∈K↔z∈K')->T3 ds K s=T3 ds K' s
 | .mk op num into args kids,K,K',h=>by rw [T3,T3,R8 kids h]
theorem R8:∀(bs:List Z7) {K K':LI} {op num:Int} {args:LI} {k:Nat},(∀z,z∈K↔z∈K')->VG ds K op num args bs k=VG ds K' op num args bs k
 | [],_,_,_,_,_,_,_=>by rw [VG,VG]
 | b::r,K,K',op,num,args,k,h=>by
  have h1:=R8 r (op:=op) (num:=num) (args:=args) (k:=k+1) h
  have h2:=Lh b h
  have h3:∀z,z∈(gI args 0::K)↔z∈(gI args 0::K'):=fun z=>by rw [YM,YM,h z]
  have h4:=Lh b h3
  rw [VG,VG,h1,h2]
  congr 1
  by_cases hq:op=8/\¬gI args 0∈K
  ·have hq':op=8/\¬gI args 0∈K':=⟨hq.1,fun z=>hq.2 ((h _).2 z)⟩
   rw [Zk hq,Zk hq']
   congr 1
   split
   ·exact h2
   ·exact h4
  ·have hq':¬(op=8/\¬gI args 0∈K'):=fun z=>hq ⟨z.1,fun y=>z.2 ((h _).1 y)⟩
   rw [Za hq,Za hq']
theorem Ra:∀(xs:List Z5) {K K':LI},(∀z,z∈K↔z∈K')->VT ds K xs=VT ds K' xs
 | [],_,_,_=>by rw [VT,VT]
 | s::r,K,K',h=>by rw [VT,VT,Zam s h,Ra r h]
theorem Lh:∀(b:Z7) {K K':LI},(∀z,z∈K↔z∈K')->Wq ds K b=Wq ds K' b
 | .mk steps result,K,K',h=>by rw [Wq,Wq,Ra steps h]
end
end
theorem Ed:∀xs:List Z5,YV xs<=xs.length
 | []=>X7 _
 | s::r=>by have:=Ed r;rw [YV];split<;>simp<;>omega
section
variable {f:Z5->Z5} (hop:∀s,(f s).op=s.op) (hin:∀s,(f s).into=s.into) (har:∀s,(f s).args=s.args)
include hop
theorem IK:∀xs:List Z5,YV (xs.map f)=YV xs
 | []=>rfl
 | s::r=>by rw [T6,YV,YV,hop,IK r]
include har
theorem Mi {op x:Int}:∀(xs:List Z5) (k:Int),W2 op x (xs.map f) k=W2 op x xs k
 | [],_=>rfl
 | s::r,k=>by rw [T6,W2,W2,hop,har,Mi r]
theorem Z9b (xs:List Z5) (x:Int):Vd (xs.map f) x=Vd xs x:=by rw [Vd,IK hop,<-List.map_take,Mi hop har,Vd]
include hin
theorem MC {many:Nat}:∀(xs:List Z5) (k:Int),Ws many (xs.map f) k=Ws many xs k
 | [],_=>rfl
 | s::r,k=>by
  have e:QY many (f s)↔QY many s:=by rw [QY,QY,hop,hin,har]
  rw [T6,Ws,Ws,MC r]
  by_cases h:QY many s
  ·rw [Zk h,Zk (e.2 h)]
  ·rw [Za h,Za (fun z=>h (e.1 z))]
theorem Z1b (xs:List Z5) (many:Nat):Ww (xs.map f) many=Ww xs many:=by rw [Ww,IK hop,<-List.map_drop,MC hop hin har,Ww]
end
theorem Mh {op x:Int}:∀{xs:List Z5} {k:Int},¬W2 op x xs k<0->0<=k->k<=W2 op x xs k/\W2 op x xs k<k+xs.length/\∃s,xs[(W2 op x xs k-k).toNat]? = some s/\s.op=op/\gI s.args 0=x
 | [],k,h,_=>by simp [W2] at h
 | s::r,k,h,hk=>by
  rw [W2] at h ⊢
  split
  ·rename_i q
   refine ⟨Int.le_refl _,by rw [Yw];omega,s,?_,q⟩
   rw [Int.sub_self];rfl
  ·rename_i q
   rw [Za q] at h
   obtain ⟨h1,h2,t,h3,h4⟩:=Mh (xs:=r) (k:=k+1) h om
   refine ⟨by omega,by rw [Yw];omega,t,?_,h4⟩
   rw [show (W2 op x r (k+1)-k).toNat=(W2 op x r (k+1)-(k+1)).toNat+1 by omega,List.getElem?_cons_succ]
   exact h3
theorem MB {many:Nat}:∀{xs:List Z5} {k:Int},¬Ws many xs k<0->0<=k->k<=Ws many xs k/\Ws many xs k<k+xs.length/\∃s,xs[(Ws many xs k-k).toNat]? = some s/\QY many s
 | [],k,h,_=>by simp [Ws] at h
 | s::r,k,h,hk=>by
  rw [Ws] at h ⊢
  split
  ·rename_i q
   refine ⟨Int.le_refl _,by rw [Yw];omega,s,?_,q⟩
   rw [Int.sub_self];rfl
  ·rename_i q
   rw [Za q] at h
   obtain ⟨h1,h2,t,h3,h4⟩:=MB (xs:=r) (k:=k+1) h om
   refine ⟨by omega,by rw [Yw];omega,t,?_,h4⟩
   rw [show (Ws many r (k+1)-k).toNat=(Ws many r (k+1)-(k+1)).toNat+1 by omega,List.getElem?_cons_succ]
   exact h3
theorem Dh {xs:List Z5} {x:Int} (h:¬Vd xs x<0):0<=Vd xs x/\Vd xs x<YV xs/\∃s,xs[(Vd xs x).toNat]? = some s/\s.op=16/\gI s.args 0=x:=by
 obtain ⟨h1,h2,s,h3,h4⟩:=Mh h (Int.le_refl 0)
 have hl:=Ed xs
 rw [Wd,VW hl] at h2
 have h2':Vd xs x<YV xs:=by unfold Vd;omega
 have h1':0<=Vd xs x:=h1
 refine ⟨h1',h2',s,?_,h4⟩
 rw [Int.sub_zero] at h3
 have h5:(Vd xs x).toNat<YV xs:=by omega
 rwa [show W2 16 x (xs.take (YV xs)) 0=Vd xs x from rfl,List.getElem?_take_of_lt h5] at h3
theorem JE {xs:List Z5} {many:Nat} (h:¬Ww xs many<0):(YV xs:Int)<=Ww xs many/\Ww xs many<xs.length/\∃s,xs[(Ww xs many).toNat]? = some s/\QY many s/\B7 xs (Ww xs many)=s:=by
 obtain ⟨h1,h2,s,h3,h4⟩:=MB h om
 have hl:=Ed xs
 rw [GX] at h2
 have h1':(YV xs:Int)<=Ww xs many:=h1
 have h2':Ww xs many<xs.length:=by unfold Ww;omega
 rw [Sw,show Ws many (xs.drop (YV xs)) (YV xs)=Ww xs many from rfl,show YV xs+(Ww xs many-(YV xs:Int)).toNat=(Ww xs many).toNat by omega] at h3
 exact ⟨h1',h2',s,h3,h4,by rw [B7,h3];rfl⟩
theorem Za4 {f:Z5->Z5} (hop:∀s,(f s).op=s.op) (hin:∀s,(f s).into=s.into) (har:∀s,(f s).args=s.args) (hc:∀x,f (Zt 17 x)=Zt 17 x) (hi:∀v s,f (TZ v s)=TZ v (f s)) (xs:List Z5) (x:Int) (many:Nat) :
  Vs (xs.map f) x many=(Vs xs x many).map f:=by
 rw [Vs,Z9b hop har,Z1b hop hin har,Vs]
 split
 ·rfl
 ·rename_i hq
  obtain ⟨_,_,s,h3,_,h5⟩:=JE (fun z=>hq (.inr z))
  have e:B7 (xs.map f) (Ww xs many)=f (B7 xs (Ww xs many)):=by rw [B7,Kj,h3,h5];rfl
  rw [e,List.map_set,List.map_set,hc,hi]
theorem R6 {ds:List Zb} {K:LI} {b:Z7} {x:Int} {many:Nat}:Wq ds K (Vz b x many)=Vz (Wq ds K b) x many:=by
 rw [Vz,Wq,Vz,Gm,Gn,Gn]
 show Z7.mk _ _=Z7.mk (Vs (b.steps.map (T3 ds K)) x many) b.result
 rw [Za4 (f:=T3 ds K) (fun s=>by rw [JU];rfl) (fun s=>by rw [JU];rfl) (fun s=>by rw [JU];rfl) (fun x=>by rw [JU];rfl) (fun v s=>by rw [JU,JU];rfl)]
structure CB (c:LI) (q:Int):Prop where
 len:c.length=4
 bd:∀x∈c,0<=x/\x<=q
mutual
def Cg:Z5->Prop
 | .mk op _ _ _ kids=>op≠17/\Bd kids
def Bd:List Z7->Prop
 | []=>True
 | b::r=>QF b/\Bd r
def Be:List Z5->Prop
 | []=>True
 | s::r=>Cg s/\Be r
def QF:Z7->Prop
 | .mk steps _=>Be steps
end
theorem Dc (s:Z5):Cg s↔s.op≠17/\Bd s.kids:=by cases s;rw [Cg];rfl
theorem Eh (b:Z7):QF b↔Be b.steps:=by cases b;rw [QF];rfl
theorem Ei:∀{xs:List Z5},Be xs↔∀s∈xs,Cg s
 | []=>by simp [Be]
 | s::r=>by rw [Be,Ei];simp
theorem G3:∀{xs:List Z7},Bd xs↔∀s∈xs,QF s
 | []=>by simp [Bd]
 | s::r=>by rw [Bd,G3];simp
theorem LD:∀{xs:List Z5} {i:Nat} {s:Z5} (t:Z5),xs[i]? = some s->Yo (xs.set i t)+s.sz=Yo xs+t.sz
 | [],_,_,_,h=>by simp at h
 | x::r,0,s,t,h=>by simp at h;subst h;rw [List.set_cons_zero,Yo,Yo];omega
 | x::r,i+1,s,t,h=>by
  have:=LD (xs:=r) (i:=i) t (by simpa using h)
  rw [List.set_cons_succ,Yo,Yo];omega
theorem Z7e (v:Int) (s:Z5):(TZ v s).sz=s.sz:=by cases s;rw [TZ,Z5.sz,Z5.sz];rfl
theorem ME {xs:List Z5} {x:Int} {many:Nat} (h:¬(Vd xs x<0∨Ww xs many<0)):(Vd xs x).toNat<(Ww xs many).toNat:=by
 obtain ⟨h1,h2,_⟩:=Dh (fun z=>h (.inl z))
 obtain ⟨h3,h4,_⟩:=JE (fun z=>h (.inr z))
 omega
theorem Ev {xs:List Z5} {x:Int} {many:Nat} (h:¬(Vd xs x<0∨Ww xs many<0)) {t:Z5} {s:Z5} (hs:xs[(Ww xs many).toNat]? = some s):(xs.set (Vd xs x).toNat t)[(Ww xs many).toNat]? = some s:=by
 have:=ME h
 rw [List.getElem?_set_ne om];exact hs
theorem PO {xs:List Z5} {x:Int} {many:Nat} (h:∀s∈xs,YK s.op=true->2<=s.sz):Yo (Vs xs x many)<=Yo xs:=by
 rw [Vs]
 split
 ·exact X7 _
 ·rename_i hq
  obtain ⟨_,_,s,h3,h4,_⟩:=Dh (fun z=>hq (.inl z))
  obtain ⟨_,_,t,h5,_,h6⟩:=JE (fun z=>hq (.inr z))
  have e1:=LD (Zt 17 x) h3
  have e2:=LD (TZ (1+x) (B7 xs (Ww xs many))) (Ev hq (t:=Zt 17 x) h5)
  have h7:=h s (Y2 h3) (by rw [h4];rfl)
  rw [F9] at e1
  rw [Z7e,h6] at e2
  rw [h6]
  omega
section
variable {ds:List Zb}
theorem Zea {v:Int} {s:Z5} (h:wS ds s) (h6:s.op=6):wS ds (TZ v s):=by
 obtain ⟨h1,h2,h3,h4⟩:=(Jo s).1 h
 exact (Jo _).2 ⟨h1,fun hc=>absurd hc (by show ¬YK s.op=true;rw [h6];decide),h3,h4⟩
theorem Ze7 {v:Int}:wS ds (Zt 17 v):=(Jo _).2 ⟨rfl,fun _=>⟨rfl,rfl,rfl,v,rfl⟩,fun e=>absurd e (show (17:Int)≠8 by decide),True.intro⟩
theorem Ze6 {xs:List Z5} {x:Int} {many:Nat} (h:Qm ds xs):Qm ds (Vs xs x many):=by
 rw [Vs]
 split
 ·exact h
 ·rename_i hq
  obtain ⟨_,_,t,h5,h7,h6⟩:=JE (fun z=>hq (.inr z))
  rw [AK]
  intro s hs
  rcases List.mem_or_eq_of_mem_set hs with hs|rfl
  ·rcases List.mem_or_eq_of_mem_set hs with hs|rfl
   ·exact AK.1 h s hs
   ·exact Ze7
  ·rw [h6];exact Zea (AK.1 h t (Y2 h5)) h7.1.1
theorem Ze5 {b:Z7} {x:Int} {many:Nat} (h:wB ds b):wB ds (Vz b x many):=by rw [Vz,KR];exact Ze6 ((KR b).1 h)
variable (hd:Xw ds)
mutual
theorem Zan:∀(s:Z5) {K:LI},wS ds s->(T3 ds K s).sz<=s.sz
 | .mk op num into args kids,K,h=>by
  have:=R9 kids (K:=K) (op:=op) (num:=num) (args:=args) (k:=0) h.2.2.2
  rw [T3,Z5.sz,Z5.sz];omega
theorem R9:∀(bs:List Z7) {K:LI} {op num:Int} {args:LI} {k:Nat},KS ds bs->YS (VG ds K op num args bs k)<=YS bs
 | [],_,_,_,_,_,_=>X7 _
 | b::r,K,op,num,args,k,h=>by
  have h2:=R9 r (K:=K) (op:=op) (num:=num) (args:=args) (k:=k+1) h.2
  have key:∀K2:LI,(Vz (Wq ds K2 b) (gI args 0) (Wu ds num k).length).sz<=b.sz:=fun K2=>by
   have h1:=Li b (K:=K2) h.1
   have h3:=PO (xs:=(Wq ds K2 b).steps) (x:=gI args 0) (many:=(Wu ds num k).length) (by
    rw [Gm,Gn]
    intro s hs hc
    obtain ⟨t,ht,rfl⟩:=XF.1 hs
    rw [JU] at hc ⊢
    obtain ⟨_,_,a,ha⟩:=GU (AK.1 ((KR b).1 h.1) t ht) hc
    rw [Z5.sz,ha];simp)
   rw [Vz,Z7.sz]
   rw [Z7.sz_eq] at h1
   omega
  rw [VG,YS,YS]
  split
  ·have:=key (if Vd b.steps (gI args 0)<0∨Ww b.steps (Wu ds num k).length<0 then K else gI args 0::K)
   omega
  ·have:=Li b (K:=K) h.1
   omega
theorem Rc:∀(xs:List Z5) {K:LI},Qm ds xs->Yo (VT ds K xs)<=Yo xs
 | [],_,_=>X7 _
 | s::r,K,h=>by
  have h1:=Zan s (K:=K) h.1
  have h2:=Rc r (K:=K) h.2
  rw [VT,Yo,Yo];omega
theorem Li:∀(b:Z7) {K:LI},wB ds b->(Wq ds K b).sz<=b.sz
 | .mk steps result,K,h=>by
  have:=Rc steps (K:=K) h
  rw [Wq,Z7.sz,Z7.sz];omega
end
end
theorem IL:∀{xs:List Z5} {i:Nat} {s t:Z5},xs[i]? = some s->YK t.op=YK s.op->YV (xs.set i t)=YV xs
 | [],_,_,_,h,_=>by simp at h
 | x::r,0,s,t,h,e=>by simp at h;subst h;rw [List.set_cons_zero,YV,YV,e]
 | x::r,i+1,s,t,h,e=>by
  rw [List.set_cons_succ,YV,YV,IL (xs:=r) (i:=i) (by simpa using h) e]
theorem Z82 {xs:List Z5} {x:Int} {many:Nat}:YV (Vs xs x many)=YV xs:=by
 rw [Vs]
 split
 ·rfl
 ·rename_i hq
  obtain ⟨_,_,s,h3,h4,_⟩:=Dh (fun z=>hq (.inl z))
  obtain ⟨_,_,t,h5,_,h6⟩:=JE (fun z=>hq (.inr z))
  rw [IL (Ev hq (t:=Zt 17 x) h5) (by rw [h6];rfl),IL h3 (by rw [h4];rfl)]
theorem Mk {op x:Int}:∀{xs:List Z5} {k:Int},(∀s∈xs,s.op≠op)->W2 op x xs k=-1
 | [],_,_=>rfl
 | s::r,k,h=>by
  rw [W2,Za (fun z=>h s (Xm ..) z.1)]
  exact Mk fun t ht=>h t (XE _ ht)
theorem Ml {op x:Int}:∀{xs:List Z5} {k:Int},0<=k->(∃s∈xs,s.op=op/\gI s.args 0=x)->0<=W2 op x xs k
 | [],_,_,h=>by obtain ⟨s,hs,_⟩:=h;cases hs
 | s::r,k,hk,h=>by
  rw [W2]
  split
  ·exact hk
  ·rename_i q
   obtain ⟨t,ht,h1⟩:=h
   rcases YM.1 ht with rfl|ht
   ·exact absurd h1 q
   ·exact Ml om ⟨t,ht,h1⟩
theorem Se {xs:List Z5} {x:Int} {many:Nat} (hn:Be xs):0<=W2 17 x ((Vs xs x many).take (YV (Vs xs x many))) 0↔¬(Vd xs x<0∨Ww xs many<0):=by
 rw [Z82]
 constructor
 ·intro h hq
  rw [Vs,Zk hq,Mk (fun s hs=>((Dc s).1 (Ei.1 hn s (Qo hs))).1)] at h
  omega
 ·intro hq
  obtain ⟨h1,h2,s,h3,h4,_⟩:=Dh (fun z=>hq (.inl z))
  have hap:=ME hq
  refine Ml (Int.le_refl 0) ⟨Zt 17 x,?_,rfl,rfl⟩
  rw [Vs,Za hq]
  refine Y2 (i:=(Vd xs x).toNat) ?_
  rw [List.getElem?_take_of_lt om,List.getElem?_set_ne om,List.getElem?_set_self (Xh.1 h3).1]
def Bf (b:Z7):Prop:=∀s∈b.steps,Bd s.kids
theorem Cf {b:Z7} (h:QF b):Bf b:=fun s hs=>((Dc s).1 (Ei.1 ((Eh b).1 h) s hs)).2
theorem Z8r {b:Z7} {k j:Nat} {s:Z5} {c:Z7} (h:Bf b) (hs:b.steps[k]? = some s) (hc:s.kids[j]? = some c):QF c:=G3.1 (h s (Y2 hs)) c (Y2 hc)
theorem OZ {b:Z7} {x:Int} {many:Nat} (h:QF b):Bf (Vz b x many):=by
 intro s hs
 have hs:s∈Vs b.steps x many:=hs
 rw [Vs] at hs
 split at hs
 ·exact Cf h s hs
 ·rename_i hq
  obtain ⟨_,_,t,h5,_,h6⟩:=JE (fun z=>hq (.inr z))
  rcases List.mem_or_eq_of_mem_set hs with hs|rfl
  ·rcases List.mem_or_eq_of_mem_set hs with hs|rfl
   ·exact Cf h s hs
   ·exact True.intro
  ·rw [h6];exact Cf h t (Y2 h5)
theorem Za3 {ds:List Zb} {b:Z7} {x:Int} {many:Nat} (h:wB ds b):(Vz b x many).sz<=b.sz:=by
 have:=PO (xs:=b.steps) (x:=x) (many:=many) fun s hs hc=>by
  have h7:=H1 ((KR b).1 h) s hs hc
  rw [h7,F9];omega
 rw [Vz,Z7.sz,b.sz_eq];omega
def Bo (ds:List Zb) (r:Yz):Yz:=⟨r.params,r.lent,r.result,Wq ds [] r.body⟩
def Ck (n:ZC):ZC:=⟨n.decls,n.routines.map (Bo n.decls)⟩
end Go.Abs
section
namespace Go.Abs
theorem Z80 {xs:List Z5} {k:Nat} {s:Z5} {r:Nat} (h:xs[k]? = some s) (hs:YK s.op=true) (ha:k+YV (xs.drop k)=r):k+1+YV (xs.drop (k+1))=r:=by
 rw [Yi h,YV,Zk hs] at ha;omega
theorem Z81 {xs:List Z5} {k:Nat} {s:Z5} {r:Nat} (h:xs[k]? = some s) (hs:¬YK s.op=true) (ha:k+YV (xs.drop k)=r):k=r:=by
 rw [Yi h,YV,Za hs] at ha;omega
theorem Z7z {xs:List Z5} {k:Nat} {r:Nat} (h:xs.length<=k) (ha:k+YV (xs.drop k)=r):k=r:=by
 rw [Xt h,YV] at ha;omega
theorem Z0q {op x:Int} {xs:List Z5} {k:Nat} {s:Z5} {r:Int} (h:xs[k]? = some s) (hs:s.op=op/\gI s.args 0=x) (ha:W2 op x (xs.drop k) k=r):(k:Int)=r:=by
 rw [Yi h,W2,Zk hs] at ha;exact ha
theorem Mj {op x:Int} {xs:List Z5} {k:Nat} {s:Z5} {r:Int} (h:xs[k]? = some s) (hs:¬(s.op=op/\gI s.args 0=x)) (ha:W2 op x (xs.drop k) k=r):W2 op x (xs.drop (k+1)) ((k+1:Nat):Int)=r:=by
 rw [Yi h,W2,Za hs] at ha;rw [<-ha];congr 1
theorem Z0p {op x:Int} {xs:List Z5} {k:Nat} {r:Int} (h:xs.length<=k) (ha:W2 op x (xs.drop k) k=r):-1=r:=by
 rw [Xt h,W2] at ha;exact ha
theorem Z1f {many:Nat} {xs:List Z5} {k:Nat} {s:Z5} {r:Int} (h:xs[k]? = some s) (hs:QY many s) (ha:Ws many (xs.drop k) k=r):(k:Int)=r:=by
 rw [Yi h,Ws,Zk hs] at ha;exact ha
theorem Z1e {many:Nat} {xs:List Z5} {k:Nat} {s:Z5} {r:Int} (h:xs[k]? = some s) (hs:¬QY many s) (ha:Ws many (xs.drop k) k=r):Ws many (xs.drop (k+1)) ((k+1:Nat):Int)=r:=by
 rw [Yi h,Ws,Za hs] at ha;rw [<-ha];congr 1
theorem Z1d {many:Nat} {xs:List Z5} {k:Nat} {r:Int} (h:xs.length<=k) (ha:Ws many (xs.drop k) k=r):-1=r:=by
 rw [Xt h,Ws] at ha;exact ha
theorem Za5 {xs:List Z5} {x:Int} {many:Nat} (h:Vd xs x<0∨Ww xs many<0):Vs xs x many=xs:=Zk h
theorem Za6 {xs:List Z5} {x:Int} {many:Nat} {s:Z5} (h:¬(Vd xs x<0∨Ww xs many<0)) (hs:B7 xs (Ww xs many)=s):(xs.set (Vd xs x).toNat (Zt 17 x)).set (Ww xs many).toNat (TZ (1+x) s)=Vs xs x many:=by
 rw [Vs,Za h,hs]
theorem CV (xs:List Z5):(Ze (ZL xs)).length=xs.length*5:=by rw [To _ (XC _)];simp
theorem I4 (s:Z5) (r:List Z5):Ze (ZL (s::r))=W8 s++Ze (ZL r):=by rw [VQ,VQ];rfl
theorem Z48 {xs:List Z5} {k:Nat} {x:Z5} (h:xs[k]? = some x):Ze (ZL (xs.take k))++Ze [X0 x]=Ze (ZL (xs.take (k+1))):=by
 rw [WU h,Vg,Ku,I4]
 have:Ze (ZL [])=[]:=by rw [VQ];rfl
 rw [this];rfl
theorem Nw {xs:List Z5} {i:Nat} {s:Z5} (h:xs[i]? = some s):Ze (ZL xs)=Ze (ZL (xs.take i))++(W8 s++Ze (ZL (xs.drop (i+1)))):=by
 have hi:=(Xh.1 h).1
 have e:xs=xs.take i++(s::xs.drop (i+1)):=by rw [<-Yi h,Tk]
 conv=>lhs;rw [e,Vg,Ku,I4]
theorem Nv {xs:List Z5} {i:Nat} {s t:Z5} (h:xs[i]? = some s):(Ze (ZL xs)).take (i*5)++W8 t++(Ze (ZL xs)).drop (i*5+(W8 t).length)=Ze (ZL (xs.set i t)):=by
 have hi:=(Xh.1 h).1
 have hl:(Ze (ZL (xs.take i))).length=i*5:=by rw [CV,Wd,VW om]
 rw [Nw h,Lg (xs:=W8 s) (ys:=W8 t) hl rfl]
 have e:xs.set i t=xs.take i++(t::xs.drop (i+1)):=by rw [GY,Zk hi]
 rw [e,Vg,Ku,I4]
theorem Z47 {xs:List Z5} {i:Nat} {s:Z5} (h:xs[i]? = some s):((Ze (ZL xs)).drop (i*5)).take (W8 s).length=W8 s:=by
 have hi:=(Xh.1 h).1
 have hl:(Ze (ZL (xs.take i))).length=i*5:=by rw [CV,Wd,VW om]
 rw [Nw h]
 exact R3 hl
structure Km (xs:LI) (v:Int) (k:Nat) (acc:LI) (d:Bool):Prop where
 len:acc.length<=k+(if d=true then 1 else 0)
 sub:∀z∈acc,z∈xs.take k∨z=v
 all:∀z∈xs.take k,z∈acc
 done:d=true->v∈acc
theorem Km.zero (xs:LI) (v:Int):Km xs v 0 [] false:=⟨by simp,by simp,by simp,by simp⟩
theorem Km.step {xs:LI} {v:Int} {k:Nat} {acc:LI} {d:Bool} {x:Int} (h:Km xs v k acc d) (hx:xs[k]? = some x) {acc2:LI} {d2:Bool}
  (hc:(acc2=acc++[x]/\d2=d)∨(acc2=(acc++[v])++[x]/\d2=true/\¬d=true)∨(acc2=acc++[x]/\d2=true/\x=v)):Km xs v (k+1) acc2 d2:=by
 obtain ⟨h1,h2,h3,h4⟩:=h
 have ht:∀z,z∈xs.take (k+1)↔z∈xs.take k∨z=x:=fun z=>by rw [WU hx];simp
 rcases hc with ⟨rfl,rfl⟩|⟨rfl,rfl,hd⟩|⟨rfl,rfl,rfl⟩
 ·refine ⟨by simp;omega,fun z hz=>?_,fun z hz=>?_,fun q=>List.mem_append_left _ (h4 q)⟩
  ·rw [ht]
   rcases Xj.1 hz with hz|hz
   ·rcases h2 z hz with q|q
    ·exact .inl (.inl q)
    ·exact .inr q
   ·exact .inl (.inr (Xv.1 hz))
  ·rcases (ht z).1 hz with q|q
   ·exact List.mem_append_left _ (h3 z q)
   ·subst q;simp
 ·rw [Za hd] at h1
  refine ⟨by simp;omega,fun z hz=>?_,fun z hz=>?_,fun _=>by simp⟩
  ·rw [ht]
   simp only [Xj,Xv] at hz
   rcases hz with (hz|hz)|hz
   ·rcases h2 z hz with q|q
    ·exact .inl (.inl q)
    ·exact .inr q
   ·exact .inr hz
   ·exact .inl (.inr hz)
  ·rcases (ht z).1 hz with q|q
   ·exact List.mem_append_left _ (List.mem_append_left _ (h3 z q))
   ·subst q;simp
 ·refine ⟨by simp;split at h1<;>omega,fun z hz=>?_,fun z hz=>?_,fun _=>by simp⟩
  ·rw [ht]
   rcases Xj.1 hz with hz|hz
   ·rcases h2 z hz with q|q
    ·exact .inl (.inl q)
    ·exact .inr q
   ·exact .inl (.inr (Xv.1 hz))
  ·rcases (ht z).1 hz with q|q
   ·exact List.mem_append_left _ (h3 z q)
   ·subst q;simp
theorem Km.fin {xs:LI} {v:Int} {k:Nat} {acc:LI} {d:Bool} (h:Km xs v k acc d) (hk:k=xs.length) :
  (d=true->acc.length<=xs.length+1/\∀z,z∈acc↔z∈xs∨z=v)/\(¬d=true->(acc++[v]).length<=xs.length+1/\∀z,z∈acc++[v]↔z∈xs∨z=v):=by
 obtain ⟨h1,h2,h3,h4⟩:=h
 subst hk
 rw [Uf] at h2 h3
 refine ⟨fun hd=>?_,fun hd=>?_⟩
 ·rw [Zk hd] at h1
  exact ⟨h1,fun z=>⟨h2 z,fun q=>q.elim (h3 z) fun e=>e▸h4 hd⟩⟩
 ·rw [Za hd] at h1
  refine ⟨by simp;omega,fun z=>?_⟩
  rw [Xj,Xv]
  exact ⟨fun q=>q.elim (h2 z) .inr,fun q=>q.elim (fun e=>.inl (h3 z e)) .inr⟩
end Go.Abs
namespace Go.Abs
theorem Km.go {xs:LI} {v:Int} {k:Nat} {acc:LI} {d:Bool} {x:Int} (h:Km xs v k acc d) (hx:xs[k]? = some x) {acc2:LI} {d2:Bool}
  (hc:(acc2=acc/\d2=d)∨(acc2=acc++[v]/\d2=true/\¬d=true)∨(acc2=acc/\d2=true/\x=v)):Km xs v (k+1) (acc2++[x]) d2:=by
 refine h.step hx ?_
 rcases hc with ⟨e1,e2⟩|⟨e1,e2,e3⟩|⟨e1,e2,e3⟩
 ·exact .inl ⟨by rw [e1],e2⟩
 ·exact .inr (.inl ⟨by rw [e1],e2,e3⟩)
 ·exact .inr (.inr ⟨by rw [e1],e2,e3⟩)
section
variable {ds:List Zb} {kept K2:LI} {op num x:Int} {args:LI} {j many:Nat} {kd:Z7}
theorem Zak (h8:op=8) (hx:gI args 0=x) (hk:¬x∈kept) (hm:(Wu ds num j).length=many) (hq:¬(Vd kd.steps x<0∨Ww kd.steps many<0)) (hK:∀z,z∈K2↔z∈kept∨z=x):Wq ds K2 (Vz kd x many)=TI ds kept op num args j kd:=by
 subst hx hm
 have e:∀z,z∈K2↔z∈gI args 0::kept:=fun z=>by rw [hK z,YM];exact Or.comm
 rw [TI,Zk ⟨h8,hk⟩,FM,Za hq,R6,Lh kd e]
theorem Zal (h8:op=8) (hx:gI args 0=x) (hk:¬x∈kept) (hm:(Wu ds num j).length=many) (hq:Vd kd.steps x<0∨Ww kd.steps many<0):Wq ds kept (Vz kd x many)=TI ds kept op num args j kd:=by
 subst hx hm
 rw [TI,Zk ⟨h8,hk⟩,FM,Zk hq,R6]
theorem R7 (h:¬(op=8/\¬gI args 0∈kept)):Wq ds kept kd=TI ds kept op num args j kd:=by rw [TI,Za h]
end
end Go.Abs
namespace Go.Abs
theorem F5:∀{xs:List Z7} {k:Nat} {b:Z7},xs[k]? = some b->YS (xs.take k)+b.sz<=YS xs
 | [],_,_,h=>by simp at h
 | x::r,0,b,h=>by simp at h;subst h;simp [YS]
 | x::r,k+1,b,h=>by
  have:=F5 (xs:=r) (k:=k) (by simpa using h)
  rw [A3,YS,YS];omega
theorem Ho {xs:List Z7} {k:Nat} (h:xs.length<=k):YS (xs.take k)=YS xs:=by rw [WJ h]
end Go.Abs
end
namespace Go.Abs
theorem RX {xs:List Z5} {k:Nat} {s:Z5} (h:xs[k]? = some s):Yo (xs.drop k)=s.sz+Yo (xs.drop (k+1)):=by rw [Yi h,Yo]
theorem RY (xs:List Z5) (k:Nat):Yo (xs.drop k)<=Yo xs:=by
 have h:=Yp Yo (Tk k xs)
 rw [TL] at h;omega
theorem F4 {xs:List Z7} {k:Nat} {b:Z7} (h:xs[k]? = some b):YS (xs.take (k+1))=YS (xs.take k)+b.sz:=by rw [WU h,EZ,YS,YS];rfl
structure CL (ds:List Zb) (nf m:Nat) (xs:List Z5) (d z:Nat):Prop where
 fs:W5 ds nf m xs
 dn:Yn xs=d
 op:TE Vl xs
 sz:Yo xs<=z
section
variable {ds:List Zb} {nf m d z:Nat} {xs:List Z5}
theorem CL.nil:CL ds nf m [] 0 0:=⟨True.intro,rfl,True.intro,X7 _⟩
theorem CL.len (h:CL ds nf m xs d z):xs.length<=z:=V3 (KN xs) h.sz
theorem CL.le (h:CL ds nf m xs d z) {z2:Nat} (hz:z<=z2):CL ds nf m xs d z2:=⟨h.fs,h.dn,h.op,V3 h.sz hz⟩
theorem Z32 {op v:Int} (ho:op=14∨op=15) (hv:0<=v/\v<(m:Int)):fS ds nf m (Zt op v):=by
 rw [Zt,fS]
 exact ⟨.inr om,fun a ha=>by rw [Xv.1 ha];exact hv,fun _=>⟨rfl,rfl,rfl,v,rfl⟩,fun h=>by omega,fun h=>by omega,fun h=>by omega,fun h=>by omega,by omega,by omega,by simp,fun _=>rfl,True.intro⟩
theorem MI {op:Int} (ho:op=14∨op=15):YK op=true:=by simp [YK];omega
theorem CL.cnt (h:CL ds nf m xs d z) {op v:Int} (ho:op=14∨op=15) (hv:0<=v/\v<((m+d:Nat):Int)):CL ds nf m (xs++[Zt op v]) d (z+2):=by
 have hc:YK (Zt op v).op=true:=MI ho
 refine ⟨Fo h.fs (by rw [h.dn];exact Z32 ho hv),?_,G9 h.op ?_,?_⟩
 ·rw [UO,h.dn,Yn,Zk hc];rfl
 ·rw [El];exact ⟨by show op<=15;omega,True.intro⟩
 ·have:=h.sz
  have e:(Zt op v).sz=2:=rfl
  rw [TL,Yo,e,Yo];omega
theorem CL.cnts {op:Int} (ho:op=14∨op=15):∀{vs:LI} {xs:List Z5} {z:Nat},CL ds nf m xs d z->(∀v∈vs,0<=v/\v<((m+d:Nat):Int))->CL ds nf m (xs++vs.map (Zt op)) d (z+2*vs.length)
 | [],xs,z,h,_=>by simpa using h
 | v::r,xs,z,h,hv=>by
  have h1:=CL.cnts ho (vs:=r) (h.cnt ho (hv v (Xm ..))) fun x hx=>hv x (XE _ hx)
  rw [T6,show xs++Zt op v::r.map (Zt op)=xs++[Zt op v]++r.map (Zt op) by simp]
  exact h1.le (by rw [Yw];omega)
theorem CL.one (h:CL ds nf m xs d z) {s:Z5} (hs:fS ds nf (m+d) s) (hc:YK s.op=false) (ho:QH Vl s):CL ds nf m (xs++[s]) (d+1) (z+s.sz):=by
 refine ⟨Fo h.fs (by rw [h.dn];exact hs),by rw [DQ hc,h.dn],G9 h.op ho,?_⟩
 have:=h.sz
 rw [TL,Yo,Yo];omega
theorem CL.app (h:CL ds nf m xs d z) {ys:List Z5} {d2 z2:Nat} (h2:CL ds nf (m+d) ys d2 z2):CL ds nf m (xs++ys) (d+d2) (z+z2):=by
 refine ⟨JM.2 ⟨h.fs,by rw [h.dn];exact h2.fs⟩,by rw [UO,h.dn,h2.dn],G8.2 ⟨h.op,h2.op⟩,?_⟩
 have:=h.sz
 have:=h2.sz
 rw [TL];omega
end
structure KB (ds:List Zb) (nf m:Nat) (b:Z7) (z:Nat):Prop where
 fb:fB ds nf m b
 op:Vc Vl b
 sz:b.sz<=z
section
variable {ds:List Zb} {nf m d z:Nat} {xs:List Z5}
theorem CL.block (h:CL ds nf m xs d z) {r:Int} (hr:0<=r/\r<((m+d:Nat):Int)):KB ds nf m ⟨xs,r⟩ (1+z):=by
 refine ⟨by rw [fB,h.dn];exact ⟨h.fs,hr⟩,by rw [Vc];exact h.op,?_⟩
 have:=h.sz
 rw [Z7.sz];omega
theorem KB.le {b:Z7} (h:KB ds nf m b z) {z2:Nat} (hz:z<=z2):KB ds nf m b z2:=⟨h.fb,h.op,V3 h.sz hz⟩
theorem KB.cl {b:Z7} (h:KB ds nf m b z):CL ds nf m b.steps (Yn b.steps) (z-1)/\0<=b.result/\b.result<((m+Yn b.steps:Nat):Int):=by
 obtain ⟨h1,h2⟩:=(Kt b).1 h.fb
 refine ⟨⟨h1,rfl,(G7 b).1 h.op,?_⟩,h2⟩
 have:=h.sz
 have:=b.sz_eq
 omega
theorem KB.put {b:Z7} (h:KB ds nf m b z) {as1 bs:LI} (ha:∀v∈as1,0<=v/\v<(m:Int)) (hb:∀v∈bs,0<=v/\v<(m:Int)):KB ds nf m ⟨as1.map (Zt 14)++bs.map (Zt 15)++b.steps,b.result⟩ (z+2*as1.length+2*bs.length):=by
 obtain ⟨h1,h2⟩:=h.cl
 have q1:CL ds nf m ([]++as1.map (Zt 14)) 0 (0+2*as1.length):=CL.nil.cnts (.inl rfl) ha
 have q2:=(q1.cnts (op:=15) (.inr rfl) hb).app h1
 have:=h.sz
 have:=b.sz_eq
 rw [Cu,Wh] at q2
 exact (q2.block h2).le om
end
structure KK (ds:List Zb) (nf:Nat) (sc:Nat->Nat) (ks:List Z7) (z:Nat):Prop where
 fb:VR ds nf sc 0 ks
 op:QG Vl ks
 sz:YS ks<=z
section
variable {ds:List Zb} {nf m z:Nat} {sc:Nat->Nat}
theorem KK.nil:KK ds nf sc [] 0:=⟨True.intro,True.intro,X7 _⟩
theorem KK.snoc {ks:List Z7} {b:Z7} {j z2:Nat} (h:KK ds nf sc ks z) (hj:ks.length=j) (hb:KB ds nf (sc j) b z2):KK ds nf sc (ks++[b]) (z+z2):=by
 refine ⟨N6 h.fb (by rw [hj];exact hb.fb),P4 h.op hb.op,?_⟩
 have:=h.sz
 have:=hb.sz
 rw [EZ];simp only [YS];omega
theorem KK.le {ks:List Z7} (h:KK ds nf sc ks z) {z2:Nat} (hz:z<=z2):KK ds nf sc ks z2:=⟨h.fb,h.op,V3 h.sz hz⟩
theorem N8 {s:Z5} {ks:List Z7} {into:Int} (h:FS ds nf m s) (h11:s.op<=11) (hl:ks.length=s.kids.length) (hi:0<=into/\into<=m) (hk:KK ds nf (WL ds s.op s.num m) ks z):fS ds nf m ⟨s.op,s.num,into,s.args,ks⟩/\QH Vl ⟨s.op,s.num,into,s.args,ks⟩/\(Z5.mk s.op s.num into s.args ks).sz<=5+z:=by
 refine ⟨?_,?_,?_⟩
 ·rw [fS]
  refine ⟨h.op,h.args,fun q=>by omega,fun q=>by rw [hl];exact h.k7 q,fun q=>by rw [hl];exact h.k8 q,h.one,h.call,h.num,hi,h.alen,fun q=>?_,hk.fb⟩
  have:=h.kn q
  rw [this] at hl
  exact List.eq_nil_of_length_eq_zero hl
 ·rw [QH];exact ⟨by show s.op<=15;omega,hk.op⟩
 ·have:=h.alen
  have:=hk.sz
  rw [Z5.sz];omega
end
structure KT (ds:List Zb) (nf m:Nat) (st:Z5) (z:Nat):Prop where
 fs:fS ds nf m st
 cb:YK st.op=false
 op:QH Vl st
 sz:st.sz<=z
theorem KT.of {ds:List Zb} {nf m z:Nat} {s:Z5} {ks:List Z7} {into:Int} (h:FS ds nf m s) (h11:s.op<=11) (hl:ks.length=s.kids.length) (hi:0<=into/\into<=m) (hk:KK ds nf (WL ds s.op s.num m) ks z):KT ds nf m ⟨s.op,s.num,into,s.args,ks⟩ (5+z):=by
 obtain ⟨h1,h2,h3⟩:=N8 h h11 hl hi hk
 exact ⟨h1,by show YK s.op=false;simp [YK];omega,h2,h3⟩
theorem CL.kt {ds:List Zb} {nf m d z z2:Nat} {xs:List Z5} {st:Z5} (h:CL ds nf m xs d z) (hs:KT ds nf (m+d) st z2):CL ds nf m (xs++[st]) (d+1) (z+z2):=(h.one hs.fs hs.cb hs.op).le (by have:=hs.sz;omega)
theorem FS.few {ds:List Zb} {nf m:Nat} {s:Z5} (h:FS ds nf m s) (hd:Xw ds):s.kids.length<=3:=by
 by_cases h7:s.op=7
 ·have:=h.k7 h7;omega
 ·by_cases h8:s.op=8
  ·have:=h.k8 h8
   have:=Dd hd s.num
   omega
  ·rw [h.kn ⟨h7,h8⟩];simp
theorem RF.lend {ds:List Zb} {nf q:Nat} {p:Int->Prop} {r:Yz} {l:LI} (h:RF ds nf q p r) (h1:l.length<=3) (h2:∀v∈l,0<=v/\v<(r.params.length:Int)):RF ds nf q p ⟨r.params,l,r.result,r.body⟩:=⟨h.sig,⟨h1,h2⟩,h.body,h.op⟩
theorem RF.with {ds:List Zb} {nf q q2:Nat} {p p2:Int->Prop} {r:Yz} {b:Z7} (h:RF ds nf q p r) (h1:fB ds nf r.params.length b) (h2:b.sz<=q2) (h3:Vc p2 b):RF ds nf q2 p2 ⟨r.params,r.lent,r.result,b⟩:=⟨h.sig,h.lent,⟨h1,h2⟩,h3⟩
theorem Z7.eta (b:Z7):Z7.mk b.steps b.result=b:=by cases b;rfl
theorem LC.at {n:ZC} {k:Nat} {xs:List LI} {i:Nat} {l:LI} {r:Yz} (h:LC n k xs) (hl:xs[i]? = some l) (hr:n.routines[i]? = some r):l.length<=3/\∀v∈l,0<=v/\v<(r.params.length:Int):=⟨(h.ok i l hl).1,(h.ok i l hl).2 r hr⟩
theorem HB:∀{xs:List Z5},(∀s∈xs,QH WD s)->∀k,k<=xs.length->Yn (xs.take k)=k
 | _,_,0,_=>rfl
 | [],_,k+1,h=>absurd h (by simp)
 | x::r,h,k+1,hk=>by
  have h1:=((El x).1 (h x (Xm ..))).1
  have hc:YK x.op=false:=by have:x.op<=11:=h1;simp [YK];omega
  rw [A3,Yn,Za (by rw [hc];simp),HB (fun s hs=>h s (XE _ hs)) k (by simpa using hk)]
  omega
theorem KB.put1 {ds:List Zb} {nf m z:Nat} {b:Z7} (h:KB ds nf m b z) {op:Int} (ho:op=14∨op=15) {as1:LI} (ha:∀v∈as1,0<=v/\v<(m:Int)):KB ds nf m ⟨as1.map (Zt op)++b.steps,b.result⟩ (z+2*as1.length):=by
 obtain ⟨h1,h2⟩:=h.cl
 have q1:CL ds nf m ([]++as1.map (Zt op)) 0 (0+2*as1.length):=CL.nil.cnts ho ha
 have q2:=q1.app h1
 have:=h.sz
 have:=b.sz_eq
 rw [Cu,Wh] at q2
 exact (q2.block h2).le om
theorem FO.fin {n:ZC} {rs:List Yz} {q q2:Nat} {p:Int->Prop} (h:FN n q2) (e:rs.length=n.routines.length) (hr:∀r∈rs,RF n.decls n.routines.length q p r):FO ⟨n.decls,rs⟩ q p/\rs.length=n.routines.length:=
 ⟨FO.all h.decls (by show 1<=rs.length/\rs.length<=4;rw [e];exact h.len) (by show ∀r∈rs,RF n.decls rs.length q p r;rw [e];exact hr),e⟩
theorem KT.le {ds:List Zb} {nf m z z2:Nat} {st:Z5} (h:KT ds nf m st z) (hz:z<=z2):KT ds nf m st z2:=⟨h.fs,h.cb,h.op,V3 h.sz hz⟩
theorem KB.len {ds:List Zb} {nf m z:Nat} {b:Z7} (h:KB ds nf m b z):b.steps.length<=z:=by
 have:=h.sz
 have:=b.sz_eq
 have:=KN b.steps
 omega
def Vv:List Z5->Int->Nat
 | [],_=>0
 | s::r,v=>(if gI s.args 0=v then 1 else 0)+Vv r v
def Vj (rn:List Z5):LI->Nat
 | []=>0
 | v::r=>Vv rn v+Vj rn r
theorem Ht:∀(xs ys:List Z5) (v:Int),Vv (xs++ys) v=Vv xs v+Vv ys v
 | [],ys,v=>by simp [Vv]
 | x::r,ys,v=>by rw [A0,Vv,Vv,Ht r];omega
theorem Z19 {xs:List Z5} {k:Nat} {s:Z5} (h:xs[k]? = some s) (v:Int):Vv (xs.take (k+1)) v=Vv (xs.take k) v+(if gI s.args 0=v then 1 else 0):=by
 rw [WU h,Ht,Vv,Vv];omega
theorem Mz:∀(xs:List Z5) (v:Int),Vv xs v<=xs.length
 | [],v=>X7 _
 | x::r,v=>by have:=Mz r v;rw [Vv,Yw];split<;>omega
theorem Z1a (xs:List Z5) (k:Nat) (v:Int):Vv (xs.take k) v<=Vv xs v:=by
 have h:=Yp (Vv · v) (Tk k xs)
 simp only [Ht] at h;omega
theorem LF (rn:List Z5):∀xs ys:LI,Vj rn (xs++ys)=Vj rn xs+Vj rn ys
 | [],ys=>by simp [Vj]
 | x::r,ys=>by rw [A0,Vj,Vj,LF rn r];omega
theorem Zdb {rn:List Z5} {xs:LI} {k:Nat} {v:Int} (h:xs[k]? = some v):Vj rn (xs.take (k+1))=Vj rn (xs.take k)+Vv rn v:=by
 rw [WU h,LF,Vj,Vj];rfl
theorem S7 (s:Z5) (r:List Z5):∀vs:LI,BD vs->Vj (s::r) vs<=1+Vj r vs/\(¬gI s.args 0∈vs->Vj (s::r) vs=Vj r vs)
 | [],_=>by simp [Vj]
 | v::vs,h=>by
  obtain ⟨h1,h2⟩:=V1.1 h
  obtain ⟨q1,q2⟩:=S7 s r vs h2
  rw [Vj,Vj,Vv]
  by_cases e:gI s.args 0=v
  ·have hn:¬gI s.args 0∈vs:=fun z=>by have:=h1 _ z;omega
   rw [Zk e,q2 hn]
   exact ⟨by omega,fun z=>absurd (YM.2 (.inl e)) z⟩
  ·rw [Za e]
   exact ⟨by omega,fun z=>by rw [q2 fun y=>z (XE _ y)];omega⟩
theorem S8:∀(rn:List Z5) {vs:LI},BD vs->Vj rn vs<=rn.length
 | [],vs,_=>by
  have:∀xs:LI,Vj [] xs=0:=fun xs=>by
   induction xs with
   | nil=>rfl
   | cons x r ih=>rw [Vj,ih];rfl
  rw [this];exact QS _
 | s::r,vs,h=>by
  have h1:=(S7 s r vs h).1
  have h2:=S8 r h
  rw [Yw];omega
theorem LG (rn:List Z5) (xs:LI) (k:Nat):Vj rn (xs.take k)<=Vj rn xs:=by
 have h:=Yp (Vj rn) (Tk k xs)
 rw [LF] at h;omega
def M5 (m:Nat) (rn:List Z5):Prop:=∀s∈rn,∃a,s.args=[a]/\0<=a/\a<(m:Int)
theorem MO {xs:List Z5} {k:Nat} {s:Z5} (h:xs[k]? = some s):Yn (xs.take (k+1))=Yn (xs.take k)+(if YK s.op=true then 0 else 1):=by rw [WU h,UO,Yn,Yn];rfl
theorem KT.eq {ds:List Zb} {nf m z:Nat} {s:Z5} {ks:List Z7} (h:FS ds nf m s) (h11:s.op<=11) (hl:ks.length=s.kids.length) (hk:KK ds nf (WL ds s.op s.num m) ks z):KT ds nf m ⟨s.op,s.num,s.into,s.args,ks⟩ (1+s.args.length+z):=by
 obtain ⟨h1,h2,h3⟩:=N8 h h11 hl h.into hk
 refine ⟨h1,by show YK s.op=false;simp [YK];omega,h2,?_⟩
 have:=hk.sz
 rw [Z5.sz];omega
theorem FS.pair {ds:List Zb} {nf m:Nat} {s:Z5} (h:FS ds nf m s) (hp:s.op=14∨s.op=15):(∃a,s.args=[a]/\0<=a/\a<(m:Int))/\s.sz=2/\YK s.op=true:=by
 obtain ⟨h1,h2,h3,a,h4⟩:=h.cnt om
 have h5:=h.args a (by rw [h4];exact Xv.2 rfl)
 refine ⟨⟨a,h4,h5⟩,?_,MI hp⟩
 rw [s.sz_eq,h3,h4];rfl
theorem FS.not_pair {ds:List Zb} {nf m:Nat} {s:Z5} (h:FS ds nf m s) (hp:¬(s.op=14∨s.op=15)) (h15:Vl s.op):s.op<=11/\YK s.op=false:=by
 have h1:s.op<=15:=h15
 have h2:=h.op
 exact ⟨by omega,by simp [YK];omega⟩
theorem CL.run {ds:List Zb} {nf m d z:Nat} {xs:List Z5} {D R:LI} {rn:List Z5} (h:CL ds nf m xs d z) (hr:M5 (m+d) rn) (hD:∀v∈D,∃s∈rn,s.args=[v]) (hR:∀v∈R,∃s∈rn,s.args=[v]):CL ds nf m (xs++(D.map (Zt 14)++R.map (Zt 15))) d (z+2*(D.length+R.length)):=by
 have key:∀(A:LI),(∀v∈A,∃s∈rn,s.args=[v])->∀v∈A,0<=v/\v<((m+d:Nat):Int):=fun A hA v hv=>by
  obtain ⟨s,hs,e⟩:=hA v hv
  obtain ⟨a,e2,e3⟩:=hr s hs
  rw [e] at e2
  cases e2
  exact e3
 have h2:=(h.cnts (op:=14) (.inl rfl) (key D hD)).cnts (op:=15) (.inr rfl) (key R hR)
 rw [<-VJ]
 exact h2.le om
def WC (xs:List Z5) (i:Nat) (s:Z5):List Z5:=xs.take i++[s]++xs.drop i
theorem Gh {xs:List Z5} (i:Nat) (s:Z5):Yo (WC xs i s)=Yo xs+s.sz:=by
 have h:=Yp Yo (Tk i xs)
 rw [TL] at h
 rw [WC,TL,TL,Yo,Yo];omega
theorem Pr {xs:List Z5} {i:Nat} {s:Z5} (h:i<=xs.length):(WC xs i s).length=xs.length+1:=by
 simp [WC,VW h];omega
def At (b:Z7) (i j:Nat) (v:Int):Z7:=⟨WC (WC b.steps j (Zt 15 v)) i (Zt 14 v),b.result⟩
def withR (n:ZC) (f:Nat) (rt:Yz) (b:Z7):ZC:=⟨n.decls,n.routines.set f ⟨rt.params,rt.lent,rt.result,b⟩⟩
def ES (n n2:ZC):Prop:=n2=n∨∃f rt i j v,n.routines[f]? = some rt/\i<=j/\j<=rt.body.steps.length/\0<=v/\v<((rt.params.length+Yn (rt.body.steps.take i):Nat):Int)/\n2=withR n f rt (At rt.body i j v)
theorem CL.put {ds:List Zb} {nf m:Nat} {xs:List Z5} {d z:Nat} (h:CL ds nf m xs d z) {i:Nat} {op v:Int} (ho:op=14∨op=15) (hv:0<=v/\v<((m+Yn (xs.take i):Nat):Int)):CL ds nf m (WC xs i (Zt op v)) d (z+2):=by
 have hs:=h.fs
 have hp:=h.op
 have e:=Tk i xs
 rw [<-e] at hs hp
 rw [JM] at hs
 rw [G8] at hp
 have h1:CL ds nf m (xs.take i) (Yn (xs.take i)) (Yo (xs.take i)):=⟨hs.1,rfl,hp.1,X7 _⟩
 have h2:CL ds nf (m+Yn (xs.take i)) (xs.drop i) (Yn (xs.drop i)) (Yo (xs.drop i)):=⟨hs.2,rfl,hp.2,X7 _⟩
 have h3:=(h1.cnt ho hv).app h2
 have e1:=Yp Yo e
 have e2:=Yp Yn e
 rw [TL] at e1
 rw [UO,h.dn] at e2
 have:=h.sz
 rw [e2] at h3
 exact h3.le om
theorem Ps {xs:List Z5} {i j:Nat} {s:Z5} (h:i<=j) (hj:j<=xs.length):(WC xs j s).take i=xs.take i:=by
 rw [WC,VJ,List.take_append_of_le_length (by rw [Wd];omega),List.take_take,VW h]
theorem Z6e {ds:List Zb} {nf m z:Nat} {b:Z7} (h:KB ds nf m b z) {i j:Nat} {v:Int} (hij:i<=j) (hj:j<=b.steps.length) (hv:0<=v/\v<((m+Yn (b.steps.take i):Nat):Int)):KB ds nf m (At b i j v) (z+4):=by
 obtain ⟨h1,h2⟩:=h.cl
 have hm:Yn (b.steps.take i)<=Yn (b.steps.take j):=by
  have e:=Yp Yn (Tk i (b.steps.take j))
  rw [UO,List.take_take,VW hij] at e;omega
 have h3:=(h1.put (i:=j) (op:=15) (v:=v) (.inr rfl) om).put (i:=i) (op:=14) (v:=v) (.inl rfl) (by rw [Ps hij hj];exact hv)
 have:=h.sz
 have:=b.sz_eq
 exact (h3.block h2).le om
theorem FO.held {n n2:ZC} {q:Nat} (h:FO n q Vl) (hh:ES n n2):FO n2 (q+4) Vl:=by
 rcases hh with rfl|⟨f,rt,i,j,v,h1,h2,h3,h4,h5,rfl⟩
 ·exact ⟨⟨h.fn.decls,h.fn.len,h.fn.sigs,h.fn.lent,fun r hr=>⟨(h.fn.body r hr).1,by have:=(h.fn.body r hr).2;omega⟩⟩,h.op⟩
 ·have hr:=h.rf (Y2 h1)
  have hk:KB n.decls n.routines.length rt.params.length (At rt.body i j v) (q+4):=Z6e ⟨hr.body.1,hr.op,hr.body.2⟩ h2 h3 ⟨h4,h5⟩
  refine FO.all h.fn.decls (by show 1<=(n.routines.set _ _).length/\(n.routines.set _ _).length<=4;rw [VC];exact h.fn.len) fun r hm=>?_
  show RF n.decls (n.routines.set _ _).length _ _ r
  rw [VC]
  rcases List.mem_or_eq_of_mem_set hm with hm|rfl
  ·have hq:=h.rf hm
   exact ⟨hq.sig,hq.lent,⟨hq.body.1,by have:=hq.body.2;omega⟩,hq.op⟩
  ·exact ⟨hr.sig,hr.lent,⟨hk.fb,hk.sz⟩,hk.op⟩
mutual
def Z5.rb:Z5->Prop
 | .mk _ _ _ _ kids=>JA kids
def JA:List Z7->Prop
 | []=>True
 | b::r=>Z7.rb b/\JA r
def Kg:List Z5->Prop
 | []=>True
 | s::r=>Z5.rb s/\Kg r
def Z7.rb:Z7->Prop
 | .mk steps result=>Kg steps/\-1000000000<=result/\result<=1000000000
end
theorem Z5.rb_eq (s:Z5):s.rb=JA s.kids:=by cases s;rw [Z5.rb];rfl
theorem Z7.rb_eq (b:Z7):b.rb=(Kg b.steps/\-1000000000<=b.result/\b.result<=1000000000):=by cases b;rw [Z7.rb];rfl
theorem Dt:∀{xs:List Z5},Kg xs↔∀s∈xs,s.rb
 | []=>by simp [Kg]
 | s::r=>by rw [Kg,Dt];simp
section
variable {ds:List Zb} {nf:Nat}
mutual
theorem Z9n:∀(s:Z5) {m:Nat},fS ds nf m s->m+4*s.sz<=900000000->Xw ds->s.rb
 | .mk op num into args kids,m,h,hb,hd=>by
  rw [fS] at h
  obtain ⟨h1,h2,h3,h4,h5,h6,h7,h8,h9,h10,h11,h12⟩:=h
  rw [Z5.sz] at hb
  rw [Z5.rb]
  refine Pw kids h12 (fun k=>?_) hd
  have hf:=V5 hd (gI (ZQ ds num) k)
  show WL ds op num m k+4*YS kids<=900000003
  rw [WL];split<;>omega
theorem Pw:∀(bs:List Z7) {sc:Nat->Nat} {k:Nat},VR ds nf sc k bs->(∀k,sc k+4*YS bs<=900000003)->Xw ds->JA bs
 | [],_,_,_,_,_=>True.intro
 | b::r,sc,k,h,hb,hd=>by
  have hp:=b.sz_eq
  exact ⟨Pv b h.1 (by have:=hb k;rw [YS] at this;omega) hd,Pw r h.2 (fun j=>by have:=hb j;rw [YS] at this;omega) hd⟩
theorem Px:∀(xs:List Z5) {m:Nat},W5 ds nf m xs->m+4*Yo xs<=900000000->Xw ds->Kg xs
 | [],_,_,_,_=>True.intro
 | s::r,m,h,hb,hd=>by
  rw [Yo] at hb
  have hp:=s.sz_pos
  refine ⟨Z9n s h.1 om hd,Px r h.2 ?_ hd⟩
  split<;>omega
theorem Pv:∀(b:Z7) {m:Nat},fB ds nf m b->m+4*b.sz<=900000004->Xw ds->b.rb
 | .mk steps result,m,h,hb,hd=>by
  rw [Z7.sz] at hb
  rw [fB] at h
  rw [Z7.rb]
  have h1:=Ah steps
  have h2:steps.length<=Yo steps:=by
   clear h h1 hb
   induction steps with
   | nil=>simp
   | cons x r ih=>have:=x.sz_pos;rw [Yo,Yw];omega
  exact ⟨Px steps h.1 om hd,by omega,by omega⟩
end
theorem Dl {op v:Int}:(Zt op v).rb:=by rw [Z5.rb_eq];exact True.intro
theorem Z9o {b:Z7} {x q:Int} {fs:LI} (h:b.rb):(QV b x fs q).rb:=by
 rw [Z7.rb_eq,Dt] at h
 rw [Z7.rb_eq,Dt]
 refine ⟨fun s hs=>?_,h.2⟩
 have hs:s∈Qs b.steps x fs q:=hs
 rw [Qs] at hs
 split at hs
 ·simp only [Xj,XF,Xv] at hs
  rcases hs with ((⟨a,_,rfl⟩|rfl)|⟨a,_,rfl⟩)|hs
  ·exact Dl
  ·exact Dl
  ·exact Dl
  ·exact h.1 s (List.mem_of_mem_drop hs)
 ·exact h.1 s hs
mutual
theorem Z9r:∀(s:Z5) {m:Nat},s.rb->(Ke ds m s).rb
 | .mk op num into args kids,m,h=>by
  rw [Z5.rb] at h
  rw [Ke,Z5.rb]
  exact PA kids h
theorem PA:∀(bs:List Z7) {m:Nat} {op num:Int} {args:LI} {k:Nat},JA bs->JA (Uy ds m op num args bs k)
 | [],_,_,_,_,_,_=>by rw [Uy];exact True.intro
 | b::r,m,op,num,args,k,h=>by
  rw [Uy,JA]
  refine ⟨?_,PA r h.2⟩
  split
  ·exact Z9o (La b h.1)
  ·exact La b h.1
theorem PC:∀(xs:List Z5) {m:Nat},Kg xs->Kg (VH ds m xs)
 | [],_,_=>by rw [VH];exact True.intro
 | s::r,m,h=>by rw [VH,Kg];exact ⟨Z9r s h.1,PC r h.2⟩
theorem La:∀(b:Z7) {m:Nat},b.rb->(WH ds m b).rb
 | .mk steps result,m,h=>by
  rw [Z7.rb] at h
  rw [WH,Z7.rb]
  exact ⟨PC steps h.1,h.2⟩
end
theorem Z9p {b:Z7} {x:Int} {many:Nat} (h:b.rb):(Vz b x many).rb:=by
 rw [Z7.rb_eq] at h
 rw [Vz,Z7.rb_eq]
 refine ⟨?_,h.2⟩
 show Kg (Vs b.steps x many)
 rw [Vs]
 split
 ·exact h.1
 ·rename_i hq
  obtain ⟨_,_,t,h5,h7,h6⟩:=JE (fun z=>hq (.inr z))
  have h:=h.1
  rw [Dt] at h ⊢
  intro s hs
  rcases List.mem_or_eq_of_mem_set hs with hs|rfl
  ·rcases List.mem_or_eq_of_mem_set hs with hs|rfl
   ·exact h s hs
   ·exact Dl
  ·have:=h t (Y2 h5)
   rw [h6,TZ,Z5.rb_eq]
   rw [Z5.rb_eq] at this
   exact this
mutual
theorem Z9q:∀(s:Z5) {K:LI},s.rb->(T3 ds K s).rb
 | .mk op num into args kids,K,h=>by
  rw [Z5.rb] at h
  rw [T3,Z5.rb]
  exact Py kids h
theorem Py:∀(bs:List Z7) {K:LI} {op num:Int} {args:LI} {k:Nat},JA bs->JA (VG ds K op num args bs k)
 | [],_,_,_,_,_,_=>True.intro
 | b::r,K,op,num,args,k,h=>by
  rw [VG,JA]
  refine ⟨?_,Py r h.2⟩
  split
  ·exact Z9p (L9 b h.1)
  ·exact L9 b h.1
theorem Pz:∀(xs:List Z5) {K:LI},Kg xs->Kg (VT ds K xs)
 | [],_,_=>True.intro
 | s::r,K,h=>⟨Z9q s h.1,Pz r h.2⟩
theorem L9:∀(b:Z7) {K:LI},b.rb->(Wq ds K b).rb
 | .mk steps result,K,h=>by
  rw [Z7.rb] at h
  rw [Wq,Z7.rb]
  exact ⟨Pz steps h.1,h.2⟩
end
end
structure Wl (ds:List Zb) (b:Z7):Prop where
 w:wB ds b
 nr:QF b
 rng:b.rng
structure Tw (ds:List Zb) (s:Z5):Prop where
 w:wS ds s
 nr:Cg s
 rng:s.rng
section
variable {ds:List Zb}
theorem Du:∀{xs:List Z5},JW xs↔∀s∈xs,s.rng
 | []=>by simp [JW]
 | s::r=>by rw [JW,Du];simp
theorem Hm:∀{xs:List Z7},JB xs↔∀s∈xs,s.rng
 | []=>by simp [JB]
 | s::r=>by rw [JB,Hm];simp
theorem Wl.iff {b:Z7}:Wl ds b↔∀s∈b.steps,Tw ds s:=by
 constructor
 ·intro h s hs
  have h3:=h.rng
  rw [Z7.rng_eq] at h3
  exact ⟨AK.1 ((KR b).1 h.w) s hs,Ei.1 ((Eh b).1 h.nr) s hs,Du.1 h3 s hs⟩
 ·intro h
  exact ⟨(KR b).2 (AK.2 fun s hs=>(h s hs).w),(Eh b).2 (Ei.2 fun s hs=>(h s hs).nr),by rw [Z7.rng_eq];exact Du.2 fun s hs=>(h s hs).rng⟩
theorem Tw.kid {s:Z5} {b:Z7} (h:Tw ds s) (hb:b∈s.kids):Wl ds b:=by
 have h3:=h.rng
 rw [Z5.rng_eq] at h3
 exact ⟨GT.1 ((Jo s).1 h.w).2.2.2 b hb,G3.1 ((Dc s).1 h.nr).2 b hb,Hm.1 h3.2 b hb⟩
theorem Tw.kids {s:Z5} {ks:List Z7} (h:Tw ds s) (hl:ks.length=s.kids.length) (hk:∀b∈ks,Wl ds b):Tw ds ⟨s.op,s.num,s.into,s.args,ks⟩:=by
 obtain ⟨h1,h2,h3,h4⟩:=(Jo s).1 h.w
 have h5:=h.rng
 rw [Z5.rng_eq] at h5
 refine ⟨(Jo _).2 ⟨h1,fun hc=>?_,fun h8=>⟨(h3 h8).1,hl.trans (h3 h8).2⟩,GT.2 fun b hb=>(hk b hb).w⟩,(Dc _).2 ⟨((Dc s).1 h.nr).1,G3.2 fun b hb=>(hk b hb).nr⟩,by rw [Z5.rng_eq];exact ⟨h5.1,Hm.2 fun b hb=>(hk b hb).rng⟩⟩
 obtain ⟨q1,q2,q3,q4⟩:=h2 hc
 exact ⟨q1,q2,List.eq_nil_of_length_eq_zero (show ks.length=0 by rw [hl,q3];rfl),q4⟩
theorem Tw.cnt {op v:Int} (h:op=14∨op=15∨op=16):Tw ds (Zt op v):=⟨Ze8 h,(Dc _).2 ⟨by show op≠17;omega,True.intro⟩,by rw [Z5.rng_eq];exact ⟨⟨by show (-9223372036854775808:Int)<=0;decide,by show (0:Int)<=_;decide⟩,True.intro⟩⟩
theorem Wl.open {b:Z7} {x q:Int} {fs:LI} (h:Wl ds b):Wl ds (QV b x fs q):=by
 rw [Wl.iff] at h ⊢
 intro s hs
 have hs:s∈Qs b.steps x fs q:=hs
 rw [Qs] at hs
 split at hs
 ·simp only [Xj,XF,Xv] at hs
  rcases hs with ((⟨a,_,rfl⟩|rfl)|⟨a,_,rfl⟩)|hs
  ·exact Tw.cnt om
  ·exact Tw.cnt om
  ·exact Tw.cnt om
  ·exact h s (List.mem_of_mem_drop hs)
 ·exact h s hs
theorem Gz {m:Nat} {op num:Int} {args:LI}:∀{bs:List Z7} {k:Nat},(Uy ds m op num args bs k).length=bs.length
 | [],_=>rfl
 | b::r,k=>by rw [Uy,Yw,Yw,Gz (bs:=r)]
mutual
theorem Tw.sp:∀(s:Z5) {m:Nat},Tw ds s->Tw ds (Ke ds m s)
 | .mk op num into args kids,m,h=>by
  rw [Ke]
  exact h.kids Gz (Wls.sp kids fun b hb=>h.kid hb)
theorem Wls.sp:∀(bs:List Z7) {m:Nat} {op num:Int} {args:LI} {k:Nat},(∀b∈bs,Wl ds b)->∀b∈Uy ds m op num args bs k,Wl ds b
 | [],_,_,_,_,_,_,b,hb=>by cases hb
 | c::r,m,op,num,args,k,h,b,hb=>by
  rw [Uy] at hb
  rcases YM.1 hb with rfl|hb
  ·split
   ·exact (Wl.sp c (h c (Xm ..))).open
   ·exact Wl.sp c (h c (Xm ..))
  ·exact Wls.sp r (fun x hx=>h x (XE _ hx)) b hb
theorem WlSs.sp:∀(xs:List Z5) {m:Nat},(∀s∈xs,Tw ds s)->∀s∈VH ds m xs,Tw ds s
 | [],_,_,s,hs=>by cases hs
 | c::r,m,h,s,hs=>by
  rw [VH] at hs
  rcases YM.1 hs with rfl|hs
  ·exact Tw.sp c (h c (Xm ..))
  ·exact WlSs.sp r (fun x hx=>h x (XE _ hx)) s hs
theorem Wl.sp:∀(b:Z7) {m:Nat},Wl ds b->Wl ds (WH ds m b)
 | .mk steps result,m,h=>by
  rw [WH,Wl.iff]
  exact WlSs.sp steps (Wl.iff.1 h)
end
theorem Zab {b:Z7} {x:Int} {many:Nat} (h:b.rng):(Vz b x many).rng:=by
 rw [Z7.rng_eq] at h
 rw [Vz,Z7.rng_eq]
 show JW (Vs b.steps x many)
 rw [Vs]
 split
 ·exact h
 ·rename_i hq
  obtain ⟨_,_,t,h5,h7,h6⟩:=JE (fun z=>hq (.inr z))
  rw [Du] at h ⊢
  intro s hs
  rcases List.mem_or_eq_of_mem_set hs with hs|rfl
  ·rcases List.mem_or_eq_of_mem_set hs with hs|rfl
   ·exact h s hs
   ·rw [Z5.rng_eq];exact ⟨⟨by show (-9223372036854775808:Int)<=0;decide,by show (0:Int)<=_;decide⟩,True.intro⟩
  ·have:=h t (Y2 h5)
   rw [h6,TZ,Z5.rng_eq]
   rw [Z5.rng_eq] at this
   exact this
mutual
theorem Zac:∀(s:Z5) {K:LI},s.rng->(T3 ds K s).rng
 | .mk op num into args kids,K,h=>by
  rw [Z5.rng] at h
  rw [T3,Z5.rng]
  exact ⟨h.1,PW kids h.2⟩
theorem PW:∀(bs:List Z7) {K:LI} {op num:Int} {args:LI} {k:Nat},JB bs->JB (VG ds K op num args bs k)
 | [],_,_,_,_,_,_=>True.intro
 | b::r,K,op,num,args,k,h=>by
  rw [VG,JB]
  refine ⟨?_,PW r h.2⟩
  split
  ·exact Zab (Le b h.1)
  ·exact Le b h.1
theorem PX:∀(xs:List Z5) {K:LI},JW xs->JW (VT ds K xs)
 | [],_,_=>True.intro
 | s::r,K,h=>⟨Zac s h.1,PX r h.2⟩
theorem Le:∀(b:Z7) {K:LI},b.rng->(Wq ds K b).rng
 | .mk steps result,K,h=>by
  rw [Z7.rng] at h
  rw [Wq,Z7.rng]
  exact PX steps h
end
end
mutual
theorem Z8q:∀s:Z5,QH Vl s->Cg s
 | .mk op num into args kids,h=>by
  rw [QH] at h
  rw [Cg]
  exact ⟨by have:op<=15:=h.1;omega,OX kids h.2⟩
theorem OX:∀bs:List Z7,QG Vl bs->Bd bs
 | [],_=>True.intro
 | b::r,h=>⟨OW b h.1,OX r h.2⟩
theorem OY:∀bs:List Z5,TE Vl bs->Be bs
 | [],_=>True.intro
 | b::r,h=>⟨Z8q b h.1,OY r h.2⟩
theorem OW:∀b:Z7,Vc Vl b->QF b
 | .mk steps result,h=>by
  rw [Vc] at h
  rw [QF]
  exact OY steps h
end
structure ZR (q:Nat) (r:Yz):Prop where
 params:r.params.length<=3
 lent:r.lent.length<=10
 body:r.body.sz<=q
 rng:r.body.rng
 rb:r.body.rb
structure ZN (n:ZC) (q:Nat):Prop where
 decls:AD n.decls
 len:1<=n.routines.length/\n.routines.length<=4
 rt:∀r∈n.routines,ZR q r
theorem ZR.le {q q2:Nat} {r:Yz} (h:ZR q r) (hq:q<=q2):ZR q2 r:=⟨h.params,h.lent,V3 h.body hq,h.rng,h.rb⟩
theorem ZN.le {n:ZC} {q q2:Nat} (h:ZN n q) (hq:q<=q2):ZN n q2:=⟨h.decls,h.len,fun r hr=>(h.rt r hr).le hq⟩
theorem ZN.sz {n:ZC} {q:Nat} (h:ZN n q) (hq:q<=10000000):Js n:=
 ⟨⟨by have:=h.decls.1;omega,fun d hd=>by have:=(h.decls.2 d hd).1;omega,fun d hd c hc=>by have:=(h.decls.2 d hd).2 c hc;omega⟩,by have:=h.len;omega,fun r hr=>by have:=(h.rt r hr).params;omega,fun r hr=>by have:=(h.rt r hr).lent;omega,fun r hr=>by have:=(h.rt r hr).body;omega⟩
theorem FO.wl {n:ZC} {q:Nat} (h:FO n q Vl) (hq:q<=100000000):∀r∈n.routines,Wl n.decls r.body:=fun r hr=>by
 have h1:=h.rf hr
 have h2:r.params.length<=3:=(T9.bd (f:=⟨r.params,r.result,default⟩) h1.sig).1
 exact ⟨LT r.body h1.body.1 (by have:=h1.body.2;omega) h.fn.decls.ok,OW r.body h1.op,Ld r.body h1.body.1⟩
theorem FO.zn {n:ZC} {q:Nat} {p:Int->Prop} (h:FO n q p) (hq:q<=100000000:=by omega):ZN n q:=
 ⟨h.fn.decls.ad,h.fn.len,fun r hr=>⟨(T9.bd (f:=⟨r.params,r.result,default⟩) (h.fn.sigs r hr)).1,by have:=(h.fn.lent r hr).1;omega,(h.fn.body r hr).2,Ld r.body (h.fn.body r hr).1,Pv r.body (h.fn.body r hr).1 (by have h2:r.params.length<=3:=(T9.bd (f:=⟨r.params,r.result,default⟩) (h.fn.sigs r hr)).1;have:=(h.fn.body r hr).2;omega) h.fn.decls.ok⟩⟩
structure WN (n:ZC) (q:Nat):Prop where
 ok:Xr n
 zn:ZN n q
 wl:∀r∈n.routines,Wl n.decls r.body
theorem FO.wn {n:ZC} {q:Nat} (h:FO n q Vl) (hq:q<=100000000):WN n q:=⟨h.fn.ok,h.zn hq,h.wl hq⟩
theorem WN.sp {n:ZC} {q:Nat} (h:WN n q):WN (Cl n) (9*q):=by
 refine ⟨⟨h.ok.decls,by show (n.routines.map _).length<=4;rw [Qn];exact h.ok.len,fun r hr=>?_,fun r hr=>?_⟩,⟨h.zn.decls,by show 1<=(n.routines.map _).length/\(n.routines.map _).length<=4;rw [Qn];exact h.zn.len,fun r hr=>?_⟩,fun r hr=>?_⟩
 ·obtain ⟨s,hs,rfl⟩:=XF.1 hr;exact h.ok.params s hs
 ·obtain ⟨s,hs,rfl⟩:=XF.1 hr;exact h.ok.lent s hs
 ·obtain ⟨s,hs,rfl⟩:=XF.1 hr
  have hz:=h.zn.rt s hs
  refine ⟨hz.params,hz.lent,?_,(Wl.sp s.body (h.wl s hs)).rng,La s.body hz.rb⟩
  have h1:=Gx h.ok.decls s.body (m:=s.params.length) (h.wl s hs).w
  have h2:=s.body.pz_le
  have h3:=hz.body
  show (WH n.decls s.params.length s.body).sz<=9*q
  omega
 ·obtain ⟨s,hs,rfl⟩:=XF.1 hr;exact Wl.sp s.body (h.wl s hs)
theorem WN.ru {n:ZC} {q:Nat} (h:WN n q):ZN (Ck n) q:=by
 refine ⟨h.zn.decls,by show 1<=(n.routines.map _).length/\(n.routines.map _).length<=4;rw [Qn];exact h.zn.len,fun r hr=>?_⟩
 obtain ⟨s,hs,rfl⟩:=XF.1 hr
 have hz:=h.zn.rt s hs
 refine ⟨hz.params,hz.lent,?_,Le s.body (h.wl s hs).rng,L9 s.body hz.rb⟩
 have h1:=Li s.body (K:=[]) (h.wl s hs).w
 have h3:=hz.body
 show (Wq n.decls [] s.body).sz<=q
 omega
theorem Gg {xs:List Z5} {i:Nat} {s t:Z5} (h:t∈WC xs i s):t∈xs∨t=s:=by
 rw [WC] at h
 simp only [Xj,Xv] at h
 rcases h with (h|h)|h
 ·exact .inl (Qo h)
 ·exact .inr h
 ·exact .inl (List.mem_of_mem_drop h)
theorem PV {op v:Int}:(Zt op v).rng:=by rw [Z5.rng_eq];exact ⟨⟨by show (-9223372036854775808:Int)<=0;decide,by show (0:Int)<=_;decide⟩,True.intro⟩
theorem ZN.withR {n:ZC} {q q2:Nat} {f:Nat} {rt:Yz} {b:Z7} (h:ZN n q) (hr:n.routines[f]? = some rt) (hq:q<=q2) (hb:b.sz<=q2) (hg:b.rng) (hbr:b.rb):ZN (withR n f rt b) q2:=by
 refine ⟨h.decls,by show 1<=(n.routines.set _ _).length/\(n.routines.set _ _).length<=4;rw [VC];exact h.len,fun r hm=>?_⟩
 rcases List.mem_or_eq_of_mem_set hm with hm|rfl
 ·exact (h.rt r hm).le hq
 ·have:=h.rt rt (Y2 hr)
  exact ⟨this.params,this.lent,hb,hg,hbr⟩
theorem ZN.held {n n2:ZC} {q:Nat} (h:ZN n q) (hh:ES n n2):ZN n2 (q+4):=by
 rcases hh with rfl|⟨f,rt,i,j,v,h1,h2,h3,h4,h5,rfl⟩
 ·exact h.le om
 ·have hz:=h.rt rt (Y2 h1)
  refine h.withR h1 om ?_ ?_ (by have hb:=hz.rb;rw [Z7.rb_eq,Dt] at hb;rw [At,Z7.rb_eq,Dt];refine ⟨fun s hs=>?_,hb.2⟩;rcases Gg hs with hs|rfl<;>first|exact Dl|(rcases Gg hs with hs|rfl<;>first|exact Dl|exact hb.1 s hs))
  ·rw [At,Z7.sz,Gh,Gh]
   have e1:(Zt 14 v).sz=2:=rfl
   have e2:(Zt 15 v).sz=2:=rfl
   have:=hz.body
   have:=rt.body.sz_eq
   omega
  ·have hg:=hz.rng
   rw [Z7.rng_eq,Du] at hg
   rw [At,Z7.rng_eq,Du]
   intro s hs
   rcases Gg hs with hs|rfl
   ·rcases Gg hs with hs|rfl
    ·exact hg s hs
    ·exact PV
   ·exact PV
theorem FO.le {n:ZC} {q q2:Nat} {p:Int->Prop} (h:FO n q p) (hq:q<=q2):FO n q2 p:=⟨⟨h.fn.decls,h.fn.len,h.fn.sigs,h.fn.lent,fun r hr=>⟨(h.fn.body r hr).1,V3 (h.fn.body r hr).2 hq⟩⟩,h.op⟩
section
variable {ds:List Zb} {nf:Nat}
theorem Z33 {m:Nat} {s:Z5} (h:fS ds nf m s) (hc:YK s.op=true):s.num=0/\s.into=0/\s.kids=[]/\∃a,s.args=[a]/\0<=a/\a<m:=by
 have h1:=(An s).1 h
 have ho:14<=s.op/\s.op<=17:=of_decide_eq_true hc
 obtain ⟨a1,a2,a3,a,a4⟩:=h1.cnt ho.1
 exact ⟨a1,a2,a3,a,a4,h1.args a (by rw [a4];exact Xv.2 rfl)⟩
theorem Ri:∀{xs:List Z5} {m:Nat},W5 ds nf m xs->(∀s∈xs.take (XJ xs),0<=gI s.args 0/\gI s.args 0<m)/\W5 ds nf m (xs.drop (XJ xs))/\Yn (xs.drop (XJ xs))=Yn xs
 | [],m,h=>⟨fun s hs=>by simp [XJ] at hs,h,rfl⟩
 | s::r,m,h=>by
  rw [XJ]
  by_cases hq:s.op=14∨s.op=15
  ·have hc:YK s.op=true:=by simp [YK];omega
   rw [Zk hq]
   rw [W5,Zk hc] at h
   obtain ⟨h1,h2,h3⟩:=Ri h.2
   obtain ⟨_,_,_,a,ha,hb⟩:=Z33 h.1 hc
   refine ⟨fun t ht=>?_,by rw [List.drop_succ_cons];exact h2,by rw [List.drop_succ_cons,Yn,Zk hc,Wh];exact h3⟩
   rw [A3] at ht
   rcases YM.1 ht with rfl|ht
   ·rw [ha];exact hb
   ·exact h1 t ht
  ·rw [Za hq]
   exact ⟨fun t ht=>by simp at ht,h,rfl⟩
theorem EW {op:Int} {P:Int->Prop}:∀{xs:List Z5},(∀s∈xs,P (gI s.args 0))->∀a∈Wj op xs,P a
 | [],_,a,h=>by simp [Wj] at h
 | s::r,hp,a,h=>by
  rw [Wj] at h
  split at h
  ·rcases YM.1 h with rfl|h
   ·exact hp s (Xm ..)
   ·exact EW (fun t ht=>hp t (XE _ ht)) a h
  ·exact EW (fun t ht=>hp t (XE _ ht)) a h
theorem Gc {P:Int->Prop}:∀{fs:LI} {q:Int} {D R:LI},(∀a∈D,P a)->(∀a∈R,P a)->(∀a,q<=a->a<q+fs.length->P a)->(∀a∈(Ub fs q D R).1,P a)/\∀a∈(Ub fs q D R).2,P a
 | [],q,D,R,hD,hR,_=>⟨hD,hR⟩
 | f::r,q,D,R,hD,hR,hq=>by
  have hq':∀a,q+1<=a->a<q+1+r.length->P a:=fun a h1 h2=>hq a om (by simp only [Yw];omega)
  rw [Ub]
  split
  ·exact Gc (fun a ha=>hD a (List.mem_of_mem_erase ha)) hR hq'
  ·split
   ·refine Gc hD (fun a ha=>?_) hq'
    rcases Xj.1 ha with ha|ha
    ·exact hR a ha
    ·rw [Xv.1 ha];exact hq q om (by simp only [Yw];omega)
   ·exact Gc hD hR hq'
theorem Z36 {m q:Nat} {xs:List Z5} {x:Int} {fs:LI} (h:W5 ds nf m xs) (hx:0<=x/\x<m) (hq:q+fs.length<=m):W5 ds nf m (Qs xs x fs q)/\Yn (Qs xs x fs q)=Yn xs:=by
 rw [Qs]
 split
 ·obtain ⟨h1,h2,h3⟩:=Ri h
  have hp:(∀a∈(KG xs x fs q).1,0<=a/\a<(m:Int))/\∀a∈(KG xs x fs q).2,0<=a/\a<(m:Int):=by
   rw [KG]
   refine Gc (P:=fun a=>0<=a/\a<(m:Int)) (EW (P:=fun a=>0<=a/\a<(m:Int)) h1) (fun a ha=>EW (P:=fun a=>0<=a/\a<(m:Int)) h1 a (List.mem_of_mem_erase ha)) (fun a ha hb=>by omega)
  obtain ⟨a1,a2⟩:=Fm (ds:=ds) (nf:=nf) (op:=14) om hp.1
  obtain ⟨b1,b2⟩:=Fm (ds:=ds) (nf:=nf) (op:=16) (m:=m) (vs:=[x]) om (fun v hv=>by rw [Xv.1 hv];exact hx)
  obtain ⟨c1,c2⟩:=Fm (ds:=ds) (nf:=nf) (op:=15) om hp.2
  have b1:W5 ds nf m [Zt 16 x]:=b1
  have b2:Yn [Zt 16 x]=0:=b2
  refine ⟨?_,by rw [UO,UO,UO,a2,b2,c2,h3];omega⟩
  simp only [JM,UO,a2,b2,c2,BB]
  exact ⟨⟨⟨a1,b1⟩,c1⟩,h2⟩
 ·exact ⟨h,rfl⟩
theorem Z2z {m q:Nat} {b:Z7} {x:Int} {fs:LI} (h:fB ds nf m b) (hx:0<=x/\x<m) (hq:q+fs.length<=m):fB ds nf m (QV b x fs q):=by
 rw [Kt] at h
 obtain ⟨h1,h2⟩:=Z36 h.1 hx hq
 rw [QV,Kt]
 refine ⟨h1,h.2.1,?_⟩
 show b.result<((m+Yn (Qs b.steps x fs q):Nat):Int)
 rw [h2];exact h.2.2
theorem Rx {m:Nat}:∀{xs:List Z5} {m:Nat},Yn (VH ds m xs)=Yn xs
 | [],_=>rfl
 | s::r,m=>by
  rw [VH,Yn,Yn,Rx (m:=0) (xs:=r)]
  rw [show (Ke ds m s).op=s.op from by rw [EB];rfl]
theorem Z3e {num:Int} {k:Nat} (h:k<(ZQ ds num).length):(Wu ds num k).length=(ZK ds (gI (ZQ ds num) k)).length:=by
 obtain ⟨x,hx⟩:=Aq (xs:=ZQ ds num) (j:=k) h
 rw [Wu,Kj,hx,UW (i:=(k:Int)) (by simpa using hx)];rfl
mutual
theorem Z35:∀(s:Z5) {m:Nat},fS ds nf m s->fS ds nf m (Ke ds m s)
 | .mk op num into args kids,m,h=>by
  rw [fS] at h
  obtain ⟨h1,h2,h3,h4,h5,h6,h7,h8,h9,h10,h11,h12⟩:=h
  rw [Ke,fS]
  refine ⟨h1,h2,fun ho=>?_,fun ho=>by rw [Gz];exact h4 ho,fun ho=>by rw [Gz];exact h5 ho,h6,h7,h8,h9,h10,fun ho=>?_,?_⟩
  ·obtain ⟨a1,a2,a3,a4⟩:=h3 ho
   exact ⟨a1,a2,by rw [a3];rfl,a4⟩
  ·rw [h11 ho];rfl
  ·refine N7 kids h12 (fun ho=>?_) (fun ho=>?_)
   ·obtain ⟨a,ha⟩:=h6 (.inr ho)
    rw [ha];exact h2 a (by rw [ha];exact Xv.2 rfl)
   ·rw [h5 ho];omega
theorem N7:∀(bs:List Z7) {m:Nat} {op num:Int} {args:LI} {k:Nat},VR ds nf (WL ds op num m) k bs->(op=8->0<=gI args 0/\gI args 0<m)->(op=8->k+bs.length<=(ZQ ds num).length)->VR ds nf (WL ds op num m) k (Uy ds m op num args bs k)
 | [],_,_,_,_,_,_,_,_=>True.intro
 | b::r,m,op,num,args,k,h,hx,hl=>by
  rw [Uy]
  refine ⟨?_,N7 r h.2 hx fun ho=>by have:=hl ho;rw [Yw] at this;omega⟩
  by_cases ho:op=8
  ·have hk:=Z3e (ds:=ds) (num:=num) (k:=k) (by have:=hl ho;rw [Yw] at this;omega)
   have hsc:WL ds op num m k=m+(Wu ds num k).length:=by rw [WL,Zk ho,hk]
   rw [Zk ho]
   have h1:=h.1
   rw [hsc] at h1 ⊢
   have Z4:=hx ho
   exact Z2z (HU b h1) om (X7 _)
  ·have hsc:WL ds op num m k=m:=by rw [WL,Za ho]
   rw [Za ho]
   have h1:=h.1
   rw [hsc] at h1 ⊢
   exact HU b h1
theorem Nb:∀(xs:List Z5) {m:Nat},W5 ds nf m xs->W5 ds nf m (VH ds m xs)
 | [],_,_=>True.intro
 | s::r,m,h=>by
  rw [VH,W5,show (Ke ds m s).op=s.op from by rw [EB];rfl]
  exact ⟨Z35 s h.1,Nb r h.2⟩
theorem HU:∀(b:Z7) {m:Nat},fB ds nf m b->fB ds nf m (WH ds m b)
 | .mk steps result,m,h=>by
  rw [fB] at h
  rw [WH,fB,Rx (m:=0)]
  exact ⟨Nb steps h.1,h.2⟩
end
theorem HC:∀{xs:List Z5} {i:Nat} {s t:Z5},xs[i]? = some s->YK t.op=YK s.op->Yn (xs.set i t)=Yn xs
 | [],i,s,t,h,_=>by simp at h
 | x::r,0,s,t,h,hc=>by simp at h;subst h;rw [List.set_cons_zero,Yn,Yn,hc]
 | x::r,i+1,s,t,h,hc=>by rw [List.set_cons_succ,Yn,Yn,HC (xs:=r) (by simpa using h) hc]
theorem HW:∀{xs:List Z5} {i m:Nat} {s t:Z5},W5 ds nf m xs->xs[i]? = some s->YK t.op=YK s.op->fS ds nf (m+Yn (xs.take i)) t->W5 ds nf m (xs.set i t)
 | [],i,m,s,t,_,h,_,_=>by simp at h
 | x::r,0,m,s,t,h,hs,hc,ht=>by
  simp at hs;subst hs
  rw [List.set_cons_zero,W5,hc]
  exact ⟨by simpa [Yn] using ht,h.2⟩
 | x::r,i+1,m,s,t,h,hs,hc,ht=>by
  rw [List.set_cons_succ,W5]
  refine ⟨h.1,HW h.2 (by simpa using hs) hc ?_⟩
  rw [A3,Yn] at ht
  by_cases hx:YK x.op=true
  ·rw [Zk hx] at ht ⊢;rw [Wh] at ht;exact ht
  ·rw [Za hx] at ht ⊢;rw [<-A4] at ht;exact ht
theorem Z37 {m:Nat} {xs:List Z5} {x:Int} {many:Nat} (h:W5 ds nf m xs) (hx:0<=x/\x<m):W5 ds nf m (Vs xs x many)/\Yn (Vs xs x many)=Yn xs:=by
 rw [Vs]
 split
 ·exact ⟨h,rfl⟩
 ·rename_i hq
  obtain ⟨_,_,t,h5,h7,h6⟩:=JE (fun z=>hq (.inr z))
  obtain ⟨_,_,s,h8,h9,h10⟩:=Dh (fun z=>hq (.inl z))
  have Z9:YK (Zt 17 x).op=YK s.op:=by rw [h9];rfl
  have k1:=HW (t:=Zt 17 x) h h8 Z9 (HV om om)
  have k2:=HC (t:=Zt 17 x) h8 Z9
  have k3:=Ev hq (t:=Zt 17 x) h5
  have k4:=(An t).1 (CU k1 k3)
  have Zi:YK (TZ (1+x) t).op=YK t.op:=rfl
  rw [h6]
  have ho:t.op=6:=h7.1.1
  refine ⟨HW k1 k3 Zi ((An _).2 ⟨k4.op,k4.args,fun z=>?_,k4.k7,k4.k8,k4.one,k4.call,k4.num,?_,k4.alen,k4.kn,k4.kids⟩),by rw [HC k3 Zi,k2]⟩
  ·have z:14<=t.op:=z;omega
  ·show 0<=1+x/\1+x<=((m+_:Nat):Int);omega
theorem Z31 {m:Nat} {b:Z7} {x:Int} {many:Nat} (h:fB ds nf m b) (hx:0<=x/\x<m):fB ds nf m (Vz b x many):=by
 rw [Kt] at h
 obtain ⟨h1,h2⟩:=Z37 (many:=many) h.1 hx
 rw [Vz,Kt]
 refine ⟨h1,h.2.1,?_⟩
 show b.result<((m+Yn (Vs b.steps x many):Nat):Int)
 rw [h2];exact h.2.2
theorem HX {K:LI} {op num:Int} {args:LI}:∀{bs:List Z7} {k:Nat},(VG ds K op num args bs k).length=bs.length
 | [],_=>rfl
 | b::r,k=>by rw [VG,Yw,Yw,HX (bs:=r)]
theorem Rb {K:LI}:∀{xs:List Z5},Yn (VT ds K xs)=Yn xs
 | []=>rfl
 | s::r=>by rw [VT,Yn,Yn,Rb (xs:=r),show (T3 ds K s).op=s.op from by rw [JU];rfl]
mutual
theorem Z34:∀(s:Z5) {m:Nat} {K:LI},fS ds nf m s->fS ds nf m (T3 ds K s)
 | .mk op num into args kids,m,K,h=>by
  rw [fS] at h
  obtain ⟨h1,h2,h3,h4,h5,h6,h7,h8,h9,h10,h11,h12⟩:=h
  rw [T3,fS]
  refine ⟨h1,h2,fun ho=>?_,fun ho=>by rw [HX];exact h4 ho,fun ho=>by rw [HX];exact h5 ho,h6,h7,h8,h9,h10,fun ho=>?_,?_⟩
  ·obtain ⟨a1,a2,a3,a4⟩:=h3 ho
   exact ⟨a1,a2,by rw [a3];rfl,a4⟩
  ·rw [h11 ho];rfl
  ·refine N5 kids h12 (fun ho=>?_)
   obtain ⟨a,ha⟩:=h6 (.inr ho)
   rw [ha];exact h2 a (by rw [ha];exact Xv.2 rfl)
theorem N5:∀(bs:List Z7) {m:Nat} {K:LI} {op num:Int} {args:LI} {k:Nat},VR ds nf (WL ds op num m) k bs->(op=8->0<=gI args 0/\gI args 0<m)->VR ds nf (WL ds op num m) k (VG ds K op num args bs k)
 | [],_,_,_,_,_,_,_,_=>True.intro
 | b::r,m,K,op,num,args,k,h,hx=>by
  rw [VG]
  refine ⟨?_,N5 r h.2 hx⟩
  split
  ·rename_i ho
   have Z4:=hx ho.1
   refine Z31 (HT b h.1) ?_
   rw [WL];split<;>omega
  ·exact HT b h.1
theorem Na:∀(xs:List Z5) {m:Nat} {K:LI},W5 ds nf m xs->W5 ds nf m (VT ds K xs)
 | [],_,_,_=>True.intro
 | s::r,m,K,h=>by
  rw [VT,W5,show (T3 ds K s).op=s.op from by rw [JU];rfl]
  exact ⟨Z34 s h.1,Na r h.2⟩
theorem HT:∀(b:Z7) {m:Nat} {K:LI},fB ds nf m b->fB ds nf m (Wq ds K b)
 | .mk steps result,m,K,h=>by
  rw [fB] at h
  rw [Wq,fB,Rb]
  exact ⟨Na steps h.1,h.2⟩
end
theorem N9 {m:Nat} {xs:List Z5} {i:Nat} {op v:Int} (h:W5 ds nf m xs) (ho:14<=op/\op<=17) (hv:0<=v/\v<((m+Yn (xs.take i):Nat):Int)):W5 ds nf m (WC xs i (Zt op v))/\Yn (WC xs i (Zt op v))=Yn xs:=by
 have e:=Tk i xs
 have h0:W5 ds nf m (xs.take i++xs.drop i):=by rw [e];exact h
 rw [JM] at h0
 have hc:YK (Zt op v).op=true:=decide_eq_true ho
 have hd:Yn [Zt op v]=0:=by rw [Yn,Zk hc];rfl
 have e2:=Yp Yn e
 rw [UO] at e2
 rw [WC]
 refine ⟨?_,by rw [UO,UO,hd];omega⟩
 rw [JM,JM,UO,hd]
 exact ⟨⟨h0.1,HV ho hv,True.intro⟩,h0.2⟩
theorem Z30 {m:Nat} {b:Z7} {i j:Nat} {v:Int} (h:fB ds nf m b) (hij:i<=j) (hj:j<=b.steps.length) (hv:0<=v/\v<((m+Yn (b.steps.take i):Nat):Int)):fB ds nf m (At b i j v):=by
 rw [Kt] at h
 have hm:Yn (b.steps.take i)<=Yn (b.steps.take j):=by
  have e:=Yp Yn (Tk i (b.steps.take j))
  rw [UO,List.take_take,VW hij] at e;omega
 obtain ⟨h1,h2⟩:=N9 (op:=15) (i:=j) (v:=v) h.1 om om
 obtain ⟨h3,h4⟩:=N9 (op:=14) (i:=i) (v:=v) h1 om (by rw [Ps hij hj];exact hv)
 rw [At,Kt]
 refine ⟨h3,h.2.1,?_⟩
 show b.result<((m+Yn (WC (WC b.steps j (Zt 15 v)) i (Zt 14 v)):Nat):Int)
 rw [h4,h2];exact h.2.2
end
theorem FN.sp {n:ZC} {q q2:Nat} (h:FN n q) (hz:ZN (Cl n) q2):FN (Cl n) q2:=by
 refine ⟨h.decls,hz.len,fun r hr=>?_,fun r hr=>?_,fun r hr=>⟨?_,(hz.rt r hr).body⟩⟩
 ·obtain ⟨s,hs,rfl⟩:=XF.1 hr;exact h.sigs s hs
 ·obtain ⟨s,hs,rfl⟩:=XF.1 hr;exact h.lent s hs
 ·obtain ⟨s,hs,rfl⟩:=XF.1 hr
  have e:(Cl n).routines.length=n.routines.length:=Qn ..
  rw [e]
  exact HU _ (h.body s hs).1
theorem FN.ru {n:ZC} {q q2:Nat} (h:FN n q) (hz:ZN (Ck n) q2):FN (Ck n) q2:=by
 refine ⟨h.decls,hz.len,fun r hr=>?_,fun r hr=>?_,fun r hr=>⟨?_,(hz.rt r hr).body⟩⟩
 ·obtain ⟨s,hs,rfl⟩:=XF.1 hr;exact h.sigs s hs
 ·obtain ⟨s,hs,rfl⟩:=XF.1 hr;exact h.lent s hs
 ·obtain ⟨s,hs,rfl⟩:=XF.1 hr
  have e:(Ck n).routines.length=n.routines.length:=Qn ..
  rw [e]
  exact HT _ (h.body s hs).1
theorem FN.le {n:ZC} {q q2:Nat} (h:FN n q) (hq:q<=q2):FN n q2:=⟨h.decls,h.len,h.sigs,h.lent,fun r hr=>⟨(h.body r hr).1,V3 (h.body r hr).2 hq⟩⟩
theorem FN.held {n n2:ZC} {q q2:Nat} (h:FN n q) (hh:ES n n2) (hz:ZN n2 q2):FN n2 q2:=by
 rcases hh with rfl|⟨f,rt,i,j,v,h1,h2,h3,h4,h5,rfl⟩
 ·exact ⟨h.decls,h.len,h.sigs,h.lent,fun r hr=>⟨(h.body r hr).1,(hz.rt r hr).body⟩⟩
 ·have hm:=Y2 h1
  have hl:(withR n f rt (At rt.body i j v)).routines.length=n.routines.length:=VC ..
  refine ⟨h.decls,hz.len,fun r hr=>?_,fun r hr=>?_,fun r hr=>⟨?_,(hz.rt r hr).body⟩⟩
  ·rcases List.mem_or_eq_of_mem_set hr with hr|rfl
   ·exact h.sigs r hr
   ·exact h.sigs rt hm
  ·rcases List.mem_or_eq_of_mem_set hr with hr|rfl
   ·exact h.lent r hr
   ·exact h.lent rt hm
  ·rw [hl]
   rcases List.mem_or_eq_of_mem_set hr with hr|rfl
   ·exact (h.body r hr).1
   ·exact Z30 (h.body rt hm).1 h2 h3 ⟨h4,h5⟩
abbrev Mem:=Nat->Nat->Option Value
abbrev BC:=Nat × Nat
def upd (m:Mem) (a:BC) (z:Int):Mem:=fun g o=>if g=a.1/\o=a.2 then some (.int .i64 z) else m g o
def wr (m:Mem):List BC->Int->Mem
 | [],_=>m
 | a::r,k=>wr (upd m a k) r (k+1)
def C6 (m:Mem):List BC->Int->Prop
 | [],_=>True
 | a::r,k=>m a.1 a.2=some (.int .i64 k)/\C6 m r (k+1)
def Om (m:Mem) (a:BC):Prop:=∃z,m a.1 a.2=some (.int .i64 z)
structure Kp (m m':Mem):Prop where
 i:∀{a:BC},Om m a->Om m' a
 h:∀{g o:Nat} {v:Value},m g o=some v->(∀z,v≠.int .i64 z)->m' g o=some v
section
variable {P:Program} {n:Nat} {ops:Array Oper} {B:Fr->List Res->Prop} {k:Nat} {F:Fr} {h h2:List Res}
end
section
variable {m m':Mem} {B:List Nat}
end
section
variable {m:Mem} {B:List Nat} {g:Nat}
end
section
variable {m:Mem} {B:List Nat}
end
def Zn (g lo hi:Nat) (X:List Nat) (a:BC):Prop:=(a.1=g/\lo<=a.2/\a.2<hi)∨a.1∈X
structure Nd (g lo hi:Nat) (X:List Nat) (as1:List BC):Prop where
 nd:(X.Nodup/\g∉X)->as1.Nodup
 zn:∀a∈as1,Zn g lo hi X a
section
variable {m:Mem} {B:List Nat}
end
section
variable {n:ZC} {ln:LI} {L:ZH}
end
structure CR (L:ZH) (cons first:LI):Prop where
 cl:cons.length=L.vars.length
 fl:first.length=L.vars.length
 eq:∀v:Int,0<=v->v<L.vars.length->0<=gI L.con v->gI cons v=gI L.con v/\gI first v=gI L.fst v

section
variable {N:Mem} {g o:Nat} {z:Int}
end


structure Instr where
 op:Int
 dst:Int
 num:Int
 into:Int
 args:LI
 jumps:LI
structure ZX where
 params:LI
 lent:LI
 result:Int
 regs:Int
 code:List Instr
structure YN where
 decls:List Zb
 procs:List ZX
abbrev Vx (x:Instr):List AV:=[.i x.op,.i x.dst,.i x.num,.i x.into,Z3 x.args,Z3 x.jumps]
abbrev Tx (x:Instr):AV:=.agg (Vx x)
def Y4 (xs:List Instr):List AV:=xs.map Tx
abbrev KF (xs:List Instr):AV:=.sl (Y4 xs) none
abbrev IW (xs:List Instr) (v:Value):AV:=.sl (Y4 xs) (some v)
abbrev UG (x:ZX):List AV:=[Z3 x.params,Z3 x.lent,.i x.result,.i x.regs,KF x.code]
abbrev BG (x:ZX):AV:=.agg (UG x)
def XX (xs:List ZX):List AV:=xs.map BG
abbrev Ef (xs:List ZX):AV:=.sl (XX xs) none
abbrev U5 (xs:List ZX) (v:Value):AV:=.sl (XX xs) (some v)
abbrev U3 (x:YN):List AV:=[Ya x.decls,Ef x.procs]
abbrev VX (x:YN):AV:=.agg (U3 x)
structure SA where
 op:Int
 dst:Int
 num:Int
 into:Int
 args:LI
 av:Value
 jumps:LI
 jv:Value
structure SD where
 params:LI
 pv:Value
 lent:LI
 lv:Value
 result:Int
 regs:Int
 code:List SA
 cv:Value
structure Zeh where
 decls:List M3
 dv:Value
 procs:List SD
 pv:Value
theorem Q8 {xs:List Instr} {j:Nat} {x:Instr} (h:xs[j]? = some x):(Y4 xs)[j]? = some (Tx x):=by simp [Y4,h]
@[simp] theorem Q9 (xs:List Instr):(Y4 xs).length=xs.length:=by simp [Y4]
theorem BV (xs ys:List Instr):Y4 (xs++ys)=Y4 xs++Y4 ys:=by simp [Y4]
theorem Ai (xs:List Instr):∀y∈Y4 xs,y.leaves.length=6:=by intro y hy;simp only [Y4,XF] at hy;obtain ⟨x,_,rfl⟩:=hy;rfl
theorem Fh (xs:List Instr):(Ze (Y4 xs)).all AV.one=true:=Kv fun y hy=>by simp only [Y4,XF] at hy;obtain ⟨x,_,rfl⟩:=hy;rfl
theorem Tn (xs:List Instr):(Ze (Y4 xs)).length=xs.length*6:=by rw [To _ (Ai _)];simp
theorem Z44 (xs:List Instr) (x:Instr):Ze (Y4 xs)++Ze (Y4 [x])=Ze (Y4 (xs++[x])):=by rw [BV,Ku]
theorem Nt {xs:List Instr} {i:Nat} {s:Instr} (h:xs[i]? = some s):Ze (Y4 xs)=Ze (Y4 (xs.take i))++(Vx s++Ze (Y4 (xs.drop (i+1)))):=by
 have hk:=(Xh.1 h).1
 have hd:xs.drop i=s::xs.drop (i+1):=by
  rw [LY hk]
  congr 1
  rw [Ct hk] at h
  exact Cv h
 have e:xs=xs.take i++(s::xs.drop (i+1)):=by rw [<-hd,Tk]
 conv=>lhs;rw [e,BV,Ku]
 rfl
theorem I3 {xs:List Instr} {i:Nat} {s:Instr} (h:xs[i]? = some s):((Ze (Y4 xs)).drop (i*6)).take (Vx s).length=Vx s:=by
 have hi:=(Xh.1 h).1
 have hl:(Ze (Y4 (xs.take i))).length=i*6:=by rw [Tn,Wd,VW om]
 rw [Nt h]
 exact R3 hl
theorem Fv {xs:List Instr} {i:Nat} {s t:Instr} (h:xs[i]? = some s):(Ze (Y4 xs)).take (i*6)++Vx t++(Ze (Y4 xs)).drop (i*6+(Vx t).length)=Ze (Y4 (xs.set i t)):=by
 have hi:=(Xh.1 h).1
 have hl:(Ze (Y4 (xs.take i))).length=i*6:=by rw [Tn,Wd,VW om]
 rw [Nt h,Lg (xs:=Vx s) (ys:=Vx t) hl rfl]
 have e:xs.set i t=xs.take i++(t::xs.drop (i+1)):=by rw [GY,Zk hi]
 rw [e,BV,Ku]
 rfl
theorem J0 {xs:List ZX} {j:Nat} {x:ZX} (h:xs[j]? = some x):(XX xs)[j]? = some (BG x):=by simp [XX,h]
@[simp] theorem J1 (xs:List ZX):(XX xs).length=xs.length:=by simp [XX]
theorem MS (xs ys:List ZX):XX (xs++ys)=XX xs++XX ys:=by simp [XX]
theorem K1 (xs:List ZX):∀y∈XX xs,y.leaves.length=5:=by intro y hy;simp only [XX,XF] at hy;obtain ⟨x,_,rfl⟩:=hy;rfl
theorem HN (xs:List ZX):(Ze (XX xs)).all AV.one=true:=Kv fun y hy=>by simp only [XX,XF] at hy;obtain ⟨x,_,rfl⟩:=hy;rfl
def XI (op dst num into:Int) (args:LI):Instr:=⟨op,dst,num,into,args,[]⟩
def Instr.goto (x:Instr) (v:Int):Instr:=⟨x.op,x.dst,v,x.into,x.args,x.jumps⟩
def Instr.fan (x:Instr) (js:LI):Instr:=⟨x.op,x.dst,x.num,x.into,x.args,js⟩
def Vu (c:List Instr) (i:Nat):List Instr:=match c[i]? with
 | none=>c
 | some x=>c.set i (x.goto c.length)
def TT (c:List Instr) (i:Nat) (js:LI):List Instr:=match c[i]? with
 | none=>c
 | some x=>c.set i (x.fan js)
def Ty (c:List Instr):List Nat->List Instr
 | []=>c
 | i::r=>Ty (Vu c i) r
structure A8 (E:Type) where
 res:E->Int->LI
 len:E->Nat
 nxt:E->E
 arm:E->Int->Int->Nat->E
def Wz (m many:Nat) (x:Int):List Instr:=(List.range many).map fun i=>XI 19 ((m+i:Nat):Int) (i:Int) 0 [x]
def DK (r:List Z7) (c:List Instr):List Instr:=match r with|[]=>c|_::_=>c++[XI 22 0 0 0 []]
def Mf (r:List Z7) (es:List Nat) (l:Nat):List Nat:=match r with|[]=>es|_::_=>es++[l+1]
section
variable {E:Type} (X:A8 E) (ds:List Zb)
mutual
def VS (e:E):Z5->List Instr->List Instr
 | .mk op num into args kids,c=>
  if op=7 then Qa e args kids c
  else if op=8 then VY e num (gI args 0) c.length kids 0 (c++[XI 21 0 num 0 args]) [] []
  else if op=14∨op=15 then c++[XI op 0 0 0 args]
  else if op=16∨op=17 then c++[XI op 0 0 0 (args++X.res e (gI args 0))]
  else c++[XI op (X.len e) num into args]
def Qa (e:E) (args:LI):List Z7->List Instr->List Instr
 | b::r,c=>Qx e (c.length) r (flB e b (c++[XI 20 0 0 0 args])++[XI 18 (X.len e) 0 0 [b.result]])
 | [],c=>c
def Qx (e:E) (ZT:Nat):List Z7->List Instr->List Instr
 | b::_,c=>Vu (flB e b (Vu (c++[XI 22 0 0 0 []]) ZT)++[XI 18 (X.len e) 0 0 [b.result]]) c.length
 | [],c=>c
def VY (e:E) (num x:Int) (ZT:Nat):List Z7->Nat->List Instr->LI->List Nat->List Instr
 | [],_,c,ts,es=>Ty (TT c ZT ts) es
 | b::r,k,c,ts,es=>
  VY e num x ZT r (k+1) (DK r (flB (X.arm e x num k) b (c++Wz (X.len e) (Wu ds num k).length x)++[XI 18 (X.len e) 0 0 [b.result]])) (ts++[(c.length:Int)])
   (Mf r es (flB (X.arm e x num k) b (c++Wz (X.len e) (Wu ds num k).length x)).length)
def Uq (e:E):List Z5->List Instr->List Instr
 | [],c=>c
 | s::r,c=>Uq (if YK s.op=true then e else X.nxt e) r (VS e s c)
def flB (e:E):Z7->List Instr->List Instr
 | .mk steps _,c=>Uq e steps c
end
end
def XK (ds:List Zb):A8 (LI × LI):=
 ⟨fun e x=>Ut (ZK ds (gI e.1 x)) (gI e.2 x),fun e=>e.1.length,fun e=>(e.1++[0],e.2++[0]),
 fun e x num k=>(e.1.set x.toNat (BN ds num k)++XD (ZK ds (BN ds num k)).length,e.2.set x.toNat e.1.length++XD (ZK ds (BN ds num k)).length)⟩
section
variable {ds:List Zb}
end
theorem AU (c:List Instr) (i:Nat):(Vu c i).length=c.length:=by rw [Vu];split<;>simp
theorem BZ (c:List Instr) (i:Nat) (js:LI):(TT c i js).length=c.length:=by rw [TT];split<;>simp
theorem Mc:∀(es:List Nat) (c:List Instr),(Ty c es).length=c.length
 | [],_=>rfl
 | i::r,c=>by rw [Ty,Mc r,AU]
theorem Ro {c t:List Instr} {i:Nat} {x:Instr} (h:c.length<=i):(c++t).set i x=c++t.set (i-c.length) x:=List.set_append_right _ _ h
theorem He {c t:List Instr} {i:Nat} (h:c.length<=i):∃t',Vu (c++t) i=c++t'/\t'.length=t.length:=by
 rw [Vu]
 split
 ·exact ⟨t,rfl,rfl⟩
 ·exact ⟨_,Ro h,by simp⟩
theorem Z3b {c t:List Instr} {i:Nat} {js:LI} (h:c.length<=i):∃t',TT (c++t) i js=c++t'/\t'.length=t.length:=by
 rw [TT]
 split
 ·exact ⟨t,rfl,rfl⟩
 ·exact ⟨_,Ro h,by simp⟩
theorem Mb {c:List Instr}:∀{es:List Nat} {t:List Instr},(∀i∈es,c.length<=i)->∃t',Ty (c++t) es=c++t'/\t'.length=t.length
 | [],t,_=>⟨t,rfl,rfl⟩
 | i::r,t,h=>by
  obtain ⟨t1,e1,l1⟩:=He (t:=t) (h i (Xm ..))
  obtain ⟨t2,e2,l2⟩:=Mb (es:=r) (t:=t1) fun j hj=>h j (XE _ hj)
  exact ⟨t2,by rw [Ty,e1,e2],by rw [l2,l1]⟩
theorem Z0j (r:List Z7) (c:List Instr):∃t,DK r c=c++t:=by
 cases r with
 | nil=>exact ⟨[],by rw [Jq];rfl⟩
 | cons _ _=>exact ⟨_,rfl⟩
section
variable {E:Type} (X:A8 E) (ds:List Zb)
mutual
theorem Z3z:∀(s:Z5) (e:E) (c:List Instr),∃t,VS X ds e s c=c++t
 | .mk op num into args kids,e,c=>by
  rw [VS]
  split
  ·exact Z3r kids e c
  split
  ·obtain ⟨t,h⟩:=Nk kids e 0 c [XI 21 0 num 0 args] [] [] (X7 _) (fun i hi=>by cases hi) (num:=num) (x:=gI args 0)
   exact ⟨t,h⟩
  split
  ·exact ⟨_,rfl⟩
  split
  ·exact ⟨_,rfl⟩
  ·exact ⟨_,rfl⟩
theorem Z3r:∀(bs:List Z7) (e:E) (c:List Instr) {args:LI},∃t,Qa X ds e args bs c=c++t
 | [],e,c,_=>⟨[],by rw [Qa,Jq]⟩
 | b::r,e,c,args=>by
  rw [Qa]
  obtain ⟨t,h⟩:=DY b e (c++[XI 20 0 0 0 args])
  rw [h,VJ,VJ]
  exact Z3n r e c _ (X7 _)
theorem Z3n:∀(bs:List Z7) (e:E) (c t0:List Instr) {a:Nat},c.length<=a->∃t,Qx X ds e a bs (c++t0)=c++t
 | [],e,c,t0,_,_=>⟨t0,by rw [Qx]⟩
 | b::r,e,c,t0,a,ha=>by
  rw [Qx,VJ]
  obtain ⟨t1,h1,_⟩:=He (t:=t0++[XI 22 0 0 0 []]) ha
  rw [h1]
  obtain ⟨t2,h2⟩:=DY b e (c++t1)
  rw [h2,VJ,VJ]
  obtain ⟨t3,h3,_⟩:=He (c:=c) (t:=t1++(t2++[XI 18 (X.len e) 0 0 [b.result]])) (i:=(c++t0).length) (by rw [Yl];exact Nat.le_add_right _ _)
  exact ⟨t3,h3⟩
theorem Nk:∀(bs:List Z7) (e:E) (k:Nat) (c t0:List Instr) (ts:LI) (es:List Nat) {num x:Int} {a:Nat},c.length<=a->(∀i∈es,c.length<=i)->∃t,VY X ds e num x a bs k (c++t0) ts es=c++t
 | [],e,k,c,t0,ts,es,num,x,a,ha,he=>by
  rw [VY]
  obtain ⟨t1,h1,_⟩:=Z3b (t:=t0) (js:=ts) ha
  obtain ⟨t2,h2,_⟩:=Mb (t:=t1) he
  exact ⟨t2,by rw [h1,h2]⟩
 | b::r,e,k,c,t0,ts,es,num,x,a,ha,he=>by
  rw [VY]
  obtain ⟨t1,h1⟩:=DY b (X.arm e x num k) ((c++t0)++Wz (X.len e) (Wu ds num k).length x)
  rw [h1]
  obtain ⟨t2,h2⟩:=Z0j r ((((c++t0)++Wz (X.len e) (Wu ds num k).length x)++t1)++[XI 18 (X.len e) 0 0 [b.result]])
  rw [h2,VJ,VJ,VJ,VJ]
  refine Nk r e (k+1) c _ _ _ ha fun i hi=>?_
  cases r with
  | nil=>exact he i hi
  | cons _ _=>
   rcases Xj.1 hi with hi|hi
   ·exact he i hi
   ·rw [Xv.1 hi]
    simp only [Yl]
    omega
theorem Nq:∀(xs:List Z5) (e:E) (c:List Instr),∃t,Uq X ds e xs c=c++t
 | [],e,c=>⟨[],by rw [Uq,Jq]⟩
 | s::r,e,c=>by
  obtain ⟨t1,h1⟩:=Z3z s e c
  obtain ⟨t2,h2⟩:=Nq r (if YK s.op=true then e else X.nxt e) (c++t1)
  exact ⟨t1++t2,by rw [Uq,h1,h2,VJ]⟩
theorem DY:∀(b:Z7) (e:E) (c:List Instr),∃t,flB X ds e b c=c++t
 | .mk steps result,e,c=>by rw [flB];exact Nq steps e c
end
theorem Z3j {b:Z7} {e:E} {c:List Instr} {i:Nat} (h:i<c.length):(flB X ds e b c)[i]? = c[i]?:=by
 obtain ⟨t,ht⟩:=DY X ds b e c
 rw [ht,A1 h]
variable {ds} (hd:Xw ds)
include hd
mutual
theorem Nm:∀(s:Z5) (e:E) (c:List Instr),(VS X ds e s c).length<=c.length+16*s.sz
 | .mk op num into args kids,e,c=>by
  rw [VS,Z5.sz]
  split
  ·have:=Z3q kids e c (args:=args);omega
  split
  ·have:=Nj kids e 0 (c++[XI 21 0 num 0 args]) [] [] (num:=num) (x:=gI args 0) (a:=c.length)
   simp only [Yl,Yw,X5] at this
   omega
  split
  ·simp;omega
  split
  ·simp;omega
  ·simp;omega
theorem Z3q:∀(bs:List Z7) (e:E) (c:List Instr) {args:LI},(Qa X ds e args bs c).length<=c.length+16*YS bs+3
 | [],e,c,_=>by rw [Qa];omega
 | b::r,e,c,args=>by
  have h1:=B5 b e (c++[XI 20 0 0 0 args])
  have h2:=Z3m r e (flB X ds e b (c++[XI 20 0 0 0 args])++[XI 18 (X.len e) 0 0 [b.result]]) (a:=c.length)
  rw [Qa,YS]
  simp only [Yl,Yw,X5] at h1 h2
  omega
theorem Z3m:∀(bs:List Z7) (e:E) (c:List Instr) {a:Nat},(Qx X ds e a bs c).length<=c.length+16*YS bs+1
 | [],e,c,_=>by rw [Qx];omega
 | b::r,e,c,a=>by
  have h1:=B5 b e (Vu (c++[XI 22 0 0 0 []]) a)
  rw [Qx,AU,YS]
  rw [AU] at h1
  simp only [Yl,Yw,X5] at h1 ⊢
  omega
theorem Nj:∀(bs:List Z7) (e:E) (k:Nat) (c:List Instr) (ts:LI) (es:List Nat) {num x:Int} {a:Nat},(VY X ds e num x a bs k c ts es).length<=c.length+16*YS bs
 | [],e,k,c,ts,es,num,x,a=>by rw [VY,Mc,BZ];simp [YS]
 | b::r,e,k,c,ts,es,num,x,a=>by
  have h1:=B5 b (X.arm e x num k) (c++Wz (X.len e) (Wu ds num k).length x)
  have h2:=Nj r e (k+1) (DK r (flB X ds (X.arm e x num k) b (c++Wz (X.len e) (Wu ds num k).length x)++[XI 18 (X.len e) 0 0 [b.result]])) (ts++[(c.length:Int)])
   (Mf r es (flB X ds (X.arm e x num k) b (c++Wz (X.len e) (Wu ds num k).length x)).length) (num:=num) (x:=x) (a:=a)
  have h3:∀c':List Instr,(DK r c').length<=c'.length+1:=fun c'=>by cases r with
   | nil=>exact Nat.le_succ _
   | cons _ _=>show (c'++[XI 22 0 0 0 []]).length<=_;simp
  have h4:=h3 (flB X ds (X.arm e x num k) b (c++Wz (X.len e) (Wu ds num k).length x)++[XI 18 (X.len e) 0 0 [b.result]])
  have h5:=Fp hd num k
  have h6:(Wz (X.len e) (Wu ds num k).length x).length=(Wu ds num k).length:=by simp [Wz]
  rw [VY,YS]
  simp only [Yl,Yw,X5,h6] at h1 h2 h4 ⊢
  omega
theorem Np:∀(xs:List Z5) (e:E) (c:List Instr),(Uq X ds e xs c).length<=c.length+16*Yo xs
 | [],e,c=>by rw [Uq,Yo];omega
 | s::r,e,c=>by
  have h1:=Nm s e c
  have h2:=Np r (if YK s.op=true then e else X.nxt e) (VS X ds e s c)
  rw [Uq,Yo];omega
theorem B5:∀(b:Z7) (e:E) (c:List Instr),(flB X ds e b c).length+16<=c.length+16*b.sz
 | .mk steps result,e,c=>by
  have:=Np steps e c
  rw [flB,Z7.sz];omega
end
end
def QJ (m:Int) (x:Instr):Int:=x.args.foldl (fun m a=>max m (a+1)) (max m (x.dst+1))
def Ud (m:Int) (c:List Instr):Int:=c.foldl QJ m
structure A9 (x:Instr):Prop where
 dst:0<=x.dst/\x.dst<=1000000000
 len:x.args.length<=10000200
 args:∀a∈x.args,0<=a/\a<=1000000000
 js:x.jumps.length<=300000000
def Rg (c:List Instr):Prop:=∀x∈c,A9 x
theorem OO:∀{l:LI} {m:Int},(∀a∈l,0<=a/\a<=1000000000)->0<=m/\m<=1000000001->m<=l.foldl (fun m a=>max m (a+1)) m/\l.foldl (fun m a=>max m (a+1)) m<=1000000001
 | [],m,_,h=>⟨Int.le_refl _,h.2⟩
 | a::r,m,ha,h=>by
  have h1:=ha a (Xm ..)
  have h2:=OO (l:=r) (m:=max m (a+1)) (fun b hb=>ha b (XE _ hb)) om
  rw [List.foldl_cons]
  omega
theorem Z9u {x:Instr} {m:Int} (hx:A9 x) (h:0<=m/\m<=1000000001):m<=QJ m x/\QJ m x<=1000000001:=by
 have h1:=hx.dst
 have h2:=OO (m:=max m (x.dst+1)) hx.args om
 rw [QJ];omega
theorem PI:∀{c:List Instr} {m:Int},Rg c->0<=m/\m<=1000000001->m<=Ud m c/\Ud m c<=1000000001
 | [],m,_,h=>⟨Int.le_refl _,h.2⟩
 | x::r,m,hc,h=>by
  have h1:=Z9u (hc x (Xm ..)) h
  have h2:=PI (c:=r) (m:=QJ m x) (fun y hy=>hc y (XE _ hy)) om
  show m<=Ud (QJ m x) r/\_
  exact ⟨by omega,h2.2⟩
theorem OP:∀(l:LI) (a m:Int),l.foldl (fun m a=>max m (a+1)) (max a m)=max a (l.foldl (fun m a=>max m (a+1)) m)
 | [],_,_=>rfl
 | x::r,a,m=>by rw [List.foldl_cons,List.foldl_cons,<-OP r];congr 1;omega
theorem Z9v (x:Instr) (a m:Int):QJ (max a m) x=max a (QJ m x):=by
 rw [QJ,QJ,<-OP];congr 1;omega
theorem PJ:∀(c:List Instr) (a m:Int),Ud (max a m) c=max a (Ud m c)
 | [],_,_=>rfl
 | x::r,a,m=>by
  show Ud (QJ (max a m) x) r=max a (Ud (QJ m x) r)
  rw [Z9v,PJ r]
theorem Z9x (c:List Instr) {a:Int} (h:0<=a):Ud a c=max a (Ud 0 c):=by
 rw [<-PJ];congr 1;omega
theorem Rg.nil:Rg []:=fun _ h=>by cases h
theorem Rg.app {c d:List Instr} (h1:Rg c) (h2:Rg d):Rg (c++d):=fun x hx=>(Xj.1 hx).elim (h1 x) (h2 x)
theorem Rg.one {x:Instr} (h:A9 x):Rg [x]:=fun y hy=>by rw [Xv.1 hy];exact h
theorem Rg.snoc {c:List Instr} {x:Instr} (h1:Rg c) (h2:A9 x):Rg (c++[x]):=h1.app (.one h2)
theorem Rg.set {c:List Instr} {x y:Instr} {i:Nat} (hx:c[i]? = some x) (h:Rg c) (h1:y.dst=x.dst) (h2:y.args=x.args) (h3:y.jumps.length<=300000000):Rg (c.set i y):=fun z hz=>by
 have hr:=h x (Y2 hx)
 rcases List.mem_or_eq_of_mem_set hz with hz|rfl
 ·exact h z hz
 ·exact ⟨by rw [h1];exact hr.dst,by rw [h2];exact hr.len,by rw [h2];exact hr.args,h3⟩
theorem Rg.aim {c:List Instr} (h:Rg c) (i:Nat):Rg (Vu c i):=by
 rw [Vu]
 split
 ·exact h
 ·rename_i x hx;exact h.set hx rfl rfl (h x (Y2 hx)).js
theorem Rg.fan {c:List Instr} (h:Rg c) (i:Nat) {js:LI} (hj:js.length<=300000000):Rg (TT c i js):=by
 rw [TT]
 split
 ·exact h
 ·rename_i x hx;exact h.set hx rfl rfl hj
theorem Rg.aims:∀{es:List Nat} {c:List Instr},Rg c->Rg (Ty c es)
 | [],_,h=>h
 | i::r,c,h=>by rw [Ty];exact Rg.aims (h.aim i)
theorem A9.mk' {op dst num into:Int} {args:LI} (h1:0<=dst/\dst<=1000000000) (h2:args.length<=10000200) (h3:∀a∈args,0<=a/\a<=1000000000):A9 (XI op dst num into args):=⟨h1,h2,h3,QS _⟩
mutual
def Dn:Z5->Prop
 | .mk _ _ _ args kids=>(args.length<=10000100/\∀a∈args,0<=a/\a<=900000000)/\Cj kids
def Cj:List Z7->Prop
 | []=>True
 | b::r=>Dm b/\Cj r
def Ew:List Z5->Prop
 | []=>True
 | s::r=>Dn s/\Ew r
def Dm:Z7->Prop
 | .mk steps result=>Ew steps/\0<=result/\result<=900000000
end
theorem Za7 (s:Z5):Dn s↔(s.args.length<=10000100/\∀a∈s.args,0<=a/\a<=900000000)/\Cj s.kids:=by cases s;rw [Dn];rfl
theorem Gj (b:Z7):Dm b↔Ew b.steps/\0<=b.result/\b.result<=900000000:=by cases b;rw [Dm];rfl
section
variable {n:ZC}
end
structure M2 {E:Type} (X:A8 E) (G:E->Nat->Prop):Prop where
 len:∀{e q},G e q->X.len e<=q
 res:∀{e q},G e q->∀x,(∀v∈X.res e x,0<=v/\v<=q+3)/\(X.res e x).length<=3
 nxt:∀{e q},G e q->G (X.nxt e) (q+1)
 up:∀{e q q'},G e q->q<=q'->G e q'
 arm:∀{e q},G e q->∀x num k,G (X.arm e x num k) (q+3)
theorem SK {m many:Nat} {x:Int} (hm:many<=3) (h:m<=900000000) (hx:0<=x/\x<=900000000):Rg (Wz m many x):=fun y hy=>by
 rw [Wz] at hy
 obtain ⟨i,hi,rfl⟩:=XF.1 hy
 have:=List.mem_range.1 hi
 exact .mk' om (by simp) fun a ha=>by rw [Xv.1 ha];omega
theorem H5 {m:Nat} {r:Int} (h:m<=900000000) (hr:0<=r/\r<=900000000):A9 (XI 18 m 0 0 [r]):=.mk' om (by simp) fun a ha=>by rw [Xv.1 ha];omega
theorem M4 {op num:Int}:A9 (XI op 0 num 0 []):=.mk' om (by simp) fun a ha=>by cases ha
theorem ET {op dst num into:Int} {args:LI} (hd:0<=dst/\dst<=900000000) (h:args.length<=10000100/\∀a∈args,0<=a/\a<=900000000):A9 (XI op dst num into args):=.mk' om om fun a ha=>by have:=h.2 a ha;omega
theorem SJ {r:List Z7} {c:List Instr} (h:Rg c):Rg (DK r c):=by
 cases r with
 | nil=>exact h
 | cons _ _=>exact h.snoc M4
section
variable {E:Type} {X:A8 E} {ds:List Zb} {G:E->Nat->Prop} (hX:M2 X G) (hd:Xw ds)
include hX hd
mutual
theorem Z40:∀(s:Z5) {e:E} {q:Nat} {c:List Instr},wS ds s->G e q->q+4*s.sz<=900000000->Dn s->Rg c->Rg (VS X ds e s c)
 | .mk op num into args kids,e,q,c,hw,hg,hq,hs,hc=>by
  have hl:=hX.len hg
  obtain ⟨h1,h2⟩:=(Za7 _).1 hs
  have h1':args.length<=10000100/\∀a∈args,0<=a/\a<=900000000:=h1
  rw [Z5.sz] at hq
  rw [VS]
  split
  ·exact Z3s kids hw.2.2.2 hg om h2 h1' hc
  split
  ·rename_i h8
   obtain ⟨a,ha,ha2⟩:=(hw.2.2.1 h8).1
   have hkl:=Mu kids
   exact Nl kids hw.2.2.2 hg om h2 (by rw [ha];exact ha2) (by rw [X5];omega) (hc.snoc (ET om h1'))
  split
  ·exact hc.snoc (ET om h1')
  split
  ·have h3:=hX.res hg (gI args 0)
   refine hc.snoc (.mk' om (by rw [Yl];omega) fun a ha=>?_)
   rcases Xj.1 ha with ha|ha
   ·have:=h1'.2 a ha;omega
   ·have:=h3.1 a ha;omega
  ·exact hc.snoc (ET om h1')
theorem Z3s:∀(bs:List Z7) {e:E} {q:Nat} {c:List Instr} {args:LI},KS ds bs->G e q->q+4*YS bs<=900000000->Cj bs->args.length<=10000100/\(∀a∈args,0<=a/\a<=900000000)->Rg c->Rg (Qa X ds e args bs c)
 | [],e,q,c,args,_,_,_,_,_,hc=>by rw [Qa];exact hc
 | b::r,e,q,c,args,hw,hg,hq,hs,ha,hc=>by
  rw [YS] at hq
  have hl:=hX.len hg
  rw [Qa]
  exact Z3o r hw.2 hg om hs.2 ((Ft b hw.1 hg om hs.1 (hc.snoc (ET om ha))).snoc (H5 om ((Gj b).1 hs.1).2))
theorem Z3o:∀(bs:List Z7) {e:E} {q:Nat} {c:List Instr} {a:Nat},KS ds bs->G e q->q+4*YS bs<=900000000->Cj bs->Rg c->Rg (Qx X ds e a bs c)
 | [],e,q,c,a,_,_,_,_,hc=>by rw [Qx];exact hc
 | b::r,e,q,c,a,hw,hg,hq,hs,hc=>by
  rw [YS] at hq
  have hl:=hX.len hg
  rw [Qx]
  exact ((Ft b hw.1 hg om hs.1 ((hc.snoc M4).aim a)).snoc (H5 om ((Gj b).1 hs.1).2)).aim _
theorem Nl:∀(bs:List Z7) {e:E} {q:Nat} {k:Nat} {c:List Instr} {ts:LI} {es:List Nat} {num x:Int} {a:Nat},KS ds bs->G e q->q+4*YS bs<=900000000->Cj bs->0<=x/\x<=900000000->ts.length+bs.length<=300000000->Rg c->Rg (VY X ds e num x a bs k c ts es)
 | [],e,q,k,c,ts,es,num,x,a,_,_,_,_,_,ht,hc=>by rw [VY];exact (hc.fan _ ht).aims
 | b::r,e,q,k,c,ts,es,num,x,a,hw,hg,hq,hs,hx,ht,hc=>by
  rw [Yw] at ht
  rw [YS] at hq
  have hl:=hX.len hg
  have hp:=b.sz_eq
  rw [VY]
  exact Nl r hw.2 hg om hs.2 hx (by rw [Yl,AL];omega) (SJ ((Ft b hw.1 (hX.arm hg x num k) om hs.1 (hc.app (SK (Fp hd num k) om hx))).snoc (H5 om ((Gj b).1 hs.1).2)))
theorem Nr:∀(xs:List Z5) {e:E} {q:Nat} {c:List Instr},Qm ds xs->G e q->q+4*Yo xs<=900000000->Ew xs->Rg c->Rg (Uq X ds e xs c)
 | [],e,q,c,_,_,_,_,hc=>by rw [Uq];exact hc
 | s::r,e,q,c,hw,hg,hq,hs,hc=>by
  rw [Yo] at hq
  have hp:=s.sz_pos
  rw [Uq]
  refine Nr r (q:=q+1) hw.2 ?_ om hs.2 (Z40 s hw.1 hg om hs.1 hc)
  split
  ·exact hX.up hg om
  ·exact hX.nxt hg
theorem Ft:∀(b:Z7) {e:E} {q:Nat} {c:List Instr},wB ds b->G e q->q+4*b.sz<=900000004->Dm b->Rg c->Rg (flB X ds e b c)
 | .mk steps result,e,q,c,hw,hg,hq,hs,hc=>by
  rw [Z7.sz] at hq
  rw [flB]
  exact Nr steps hw hg om hs.1 hc
end
end
theorem Zbb {ds:List Zb} (hd:Xw ds):M2 (XK ds) (fun e q=>e.1.length<=q/\∀v∈e.2,0<=v/\v<=q):=by
 refine ⟨fun h=>h.1,fun {e q} h x=>?_,fun {e q} h=>⟨by simp [XK];exact h.1,fun v hv=>?_⟩,fun h hq=>⟨by have:=h.1;omega,fun v hv=>by have:=h.2 v hv;omega⟩,fun {e q} h x num k=>⟨?_,fun v hv=>?_⟩⟩
 ·have h1:=V5 hd (gI e.1 x)
  have h2:0<=gI e.2 x/\gI e.2 x<=q:=if z:gI e.2 x=0 then om else h.2 _ (Fx z)
  exact ⟨fun v hv=>by have:=Ik hv;omega,V3 (FB _ _) h1⟩
 ·rcases Xj.1 hv with hv|hv
  ·have:=h.2 v hv;omega
  ·rw [Xv.1 hv];omega
 ·have h1:=V5 hd (BN ds num k)
  have h2:=h.1
  show (e.1.set _ _++XD _).length<=_
  rw [Yl,VC,De];omega
 ·have h1:=V5 hd (BN ds num k)
  have h2:=h.1
  rcases Xj.1 hv with hv|hv
  ·rcases List.mem_or_eq_of_mem_set hv with hv|rfl
   ·have:=h.2 v hv;omega
   ·omega
  ·have:=G4 _ v hv;omega
def GB (B:List Nat):Yg:=fun b _=>b∈B
section
variable {w:World} {G:Yg} {B:List Nat}
end
section
variable {w:World} {G:Yg} {B:List Nat}
def NY:Value->Hd
 | .slice a l c=>⟨a,l,c⟩
 | _=>⟨none,0,0⟩
abbrev av (y:SB):AV:=.agg [.h (NY y.dv),.h (NY y.rv)]
end
def SH (B:List Nat) (m:Mem) (x:AV) (u:Value):Prop:=
 ∀w:World,(∀b∈B,∃cs e,w.heap[b]? = some (.cells cs e (0,0))/\∀o,cs[o]? = m b o)->RV w (GB B) x u
inductive DG (bs:List Res):List AV->List AV->Prop
 | nil:DG bs [] []
 | same {x as1 xs} (t:DG bs as1 xs):DG bs (x::as1) (x::xs)
 | gen {B m x a u as1 xs} (h:Res.own B m∈bs) (hr:SH B m x u) (ha:∀w G v,RV w G a v->v=u) (t:DG bs as1 xs):DG bs (a::as1) (x::xs)
section
variable {P:Program} {n:Nat} {ops:Array Oper} {B:Fr->List Res->Prop} {k:Nat} {F:Fr} {h:List Res}
def Mr (P:Program) (ops:Array Oper) (F:Fr) (k:Nat):Option (Bool × Bool):=
 match (ZP ops k).op with
 | .binOp .neq t x y _=>match P.underlying t with
  | some .bool=>match F.ev x,F.ev y with
   | .val (.bool a),.val (.bool b)=>some (a,b)
   | _,_=>none
  | _=>none
 | _=>none
theorem Ot (a b:Bool) (hb:Mr P ops F k=some (a,b):=by kernel_rfl):XT P (ZP ops k) F h [] (.b (a != b)):=by
 unfold Mr at hb
 generalize hoo:ZP ops k=o at hb
 obtain ⟨dst,op,type,pos,after,guard⟩:=o
 cases op<;>simp only at hb<;>try (cases hb)
 rename_i bop t x y yt
 cases bop<;>simp only at hb<;>try (cases hb)
 split at hb
 ·rename_i ht
  split at hb
  ·rename_i a' b' h1 h2
   cases hb
   intro n w G ac hF hh
   have v1:=hF.ev x
   have v2:=hF.ev y
   rw [h1] at v1
   rw [h2] at v2
   have v1:=v1.val_inv
   have v2:=v2.val_inv
   refine ⟨_,.val,fun w' _ _=>?_⟩
   simp only [execOp,v1,v2]
   have he:(Op.equalIn (9999+1) t (.bool a) (.bool b)).run P w'=.ok (a==b) w':=by
    rw [Op.equalIn]
    simp [Sem.run_bind,Ui ht]
   refine VA ?_
   simp only [eqGuard,binOp,Op.equal,Op.maxDepth]
   have he2:(Op.equalIn 10000 t (.bool a) (.bool b)).run P w'=.ok (a==b) w':=he
   simp [Sem.run_bind,he2,bne]
  ·cases hb
 ·cases hb
end
section
variable {m m':Mem} {B:List Nat}
end
section
variable {w:World} {G:Yg} {B:List Nat}
end
def Za2 (r:Int):Instr:=XI 23 0 0 0 [r]
def U8 (ds:List Zb) (rt:Yz):List Instr:=flB (XK ds) ds (XD rt.params.length,XD rt.params.length) rt.body []++[Za2 rt.body.result]
section
variable {ds:List Zb} {b:Bool}
end
section
variable {n:ZC} (hn:Xr n) (hz:Js n) (hbt:∀r∈n.routines,0<=XW n r.params r.body)
include hn hz hbt
end
section
variable {N:Mem} {g o:Nat} {z:Int}
end
structure Zei (im:YN):Prop where
 decls:Z2c im.decls<=1000000000
 procs:im.procs.length<=4
 params:∀p∈im.procs,p.params.length<=1000000000
 lent:∀p∈im.procs,p.lent.length<=1000000000
 code:∀p∈im.procs,p.code.length<=2000
 args:∀p∈im.procs,∀x∈p.code,x.args.length<=10000200
 jumps:∀p∈im.procs,∀x∈p.code,x.jumps.length<=300000000
section
variable {n:ZC} (hz:Js n) (hB:Z0s n=true)
include hz hB
end
end Go.Abs
section
namespace Go.Abs
def Zr (c:List Instr) (i:Nat):Prop:=∃x,c[i]? = some x/\x.dst=0/\x.into=0
section
variable {c t:List Instr} {i j:Nat}
theorem Zr.lt (h:Zr c i):i<c.length:=by obtain ⟨x,hx,_⟩:=h;exact (Xh.1 hx).1
theorem Zr.new {x:Instr} (h1:x.dst=0) (h2:x.into=0):Zr (c++[x]) c.length:=⟨x,by simp,h1,h2⟩
theorem Zr.app (h:Zr c i):Zr (c++t) i:=by
 obtain ⟨x,hx,h1⟩:=h
 exact ⟨x,by rw [A1 ((Xh.1 hx).1)];exact hx,h1⟩
theorem Zr.flB {E:Type} {X:A8 E} {ds:List Zb} {e:E} {b:Z7} (h:Zr c i):Zr (flB X ds e b c) i:=by
 obtain ⟨t,ht⟩:=DY X ds b e c
 rw [ht];exact h.app
theorem Zr.set {x y:Instr} (h:Zr c i) (hx:c[j]? = some x) (h1:y.dst=x.dst) (h2:y.into=x.into):Zr (c.set j y) i:=by
 obtain ⟨z,hz,h3,h4⟩:=h
 by_cases e:j=i
 ·subst e
  rw [hx] at hz
  cases hz
  exact ⟨y,by rw [List.getElem?_set_self (Xh.1 hx).1],h1.trans h3,h2.trans h4⟩
 ·exact ⟨z,by rw [List.getElem?_set_ne e];exact hz,h3,h4⟩
theorem Zr.aim (h:Zr c i):Zr (Vu c j) i:=by
 rw [Vu]
 split
 ·exact h
 ·rename_i x hx;exact h.set hx rfl rfl
theorem Zr.fan {js:LI} (h:Zr c i):Zr (TT c j js) i:=by
 rw [TT]
 split
 ·exact h
 ·rename_i x hx;exact h.set hx rfl rfl
end
theorem E1 {c t:List Instr} {i:Nat} {x:Instr} (h:c[i]? = some x):(c++t)[i]? = some x:=by rw [A1 (Xh.1 h).1];exact h
theorem NV {c:List Instr} {i:Nat} {x:Instr} {E:Type} {X:A8 E} {ds:List Zb} {e:E} {b:Z7} (h:c[i]? = some x):(flB X ds e b c)[i]? = some x:=by
 rw [Z3j X ds (Xh.1 h).1];exact h
theorem SY {c:List Instr} {i:Nat} {x:Instr} (h:c[i]? = some x):Vu c i=c.set i (x.goto c.length):=by rw [Vu,h]
theorem Z3c {c:List Instr} {i:Nat} {x:Instr} {js:LI} (h:c[i]? = some x):TT c i js=c.set i (x.fan js):=by rw [TT,h]
theorem SZ {c:List Instr} {i:Nat} {x:Instr} (h:c[i]? = some x) (h1:x.dst=0) (h2:x.into=0):c.set i ⟨x.op,0,c.length,0,x.args,x.jumps⟩=Vu c i:=by
 rw [SY h,Instr.goto,h1,h2]
theorem Z3d {c:List Instr} {i:Nat} {num:Int} {args js:LI} (h:c[i]? = some (XI 21 0 num 0 args)):c.set i ⟨21,0,num,0,args,js⟩=TT c i js:=by
 rw [Z3c h];rfl
def Qg (es:List Nat):LI:=es.map Int.ofNat
theorem G6 (es:List Nat):(Qg es).length=es.length:=by simp [Qg]
theorem Z8w {es:List Nat} {k e:Nat} (h:es[k]? = some e):(Qg es)[k]? = some (e:Int):=by simp [Qg,h]
theorem Z8x (es:List Nat) (e:Nat):Qg es++[(e:Int)]=Qg (es++[e]):=by simp [Qg]
theorem OM (m k:Nat) (x:Int):Wz m (k+1) x=Wz m k x++[XI 19 ((m+k:Nat):Int) (k:Int) 0 [x]]:=by simp [Wz,List.range_succ]
theorem FY (m k:Nat) (x:Int):(Wz m k x).length=k:=by simp [Wz]
theorem Z01 {es:List Nat} {k e:Nat} {c d:List Instr} (h:es[k]? = some e) (ha:Ty c (es.drop k)=d):Ty (Vu c e) (es.drop (k+1))=d:=by rw [Yi h,Ty] at ha;exact ha
theorem Z00 {es:List Nat} {k:Nat} {c d:List Instr} (h:es.length<=k) (ha:Ty c (es.drop k)=d):c=d:=by rw [Xt h,Ty] at ha;exact ha
section
variable {E:Type} {X:A8 E} {ds:List Zb} {e:E}
theorem DZ (s:Z5) (c:List Instr):VS X ds e s c=(if s.op=7 then Qa X ds e s.args s.kids c
  else if s.op=8 then VY X ds e s.num (gI s.args 0) c.length s.kids 0 (c++[XI 21 0 s.num 0 s.args]) [] []
  else if s.op=14∨s.op=15 then c++[XI s.op 0 0 0 s.args]
  else if s.op=16∨s.op=17 then c++[XI s.op 0 0 0 (s.args++X.res e (gI s.args 0))]
  else c++[XI s.op (X.len e) s.num s.into s.args]):=by cases s;rw [VS];rfl
theorem Z3w {s:Z5} {c:List Instr} {k0 k1:Z7} (h:s.op=7) (hk:s.kids=[k0,k1]):VS X ds e s c =
  Vu (flB X ds e k1 (Vu ((flB X ds e k0 (c++[XI 20 0 0 0 s.args])++[XI 18 (X.len e) 0 0 [k0.result]])++[XI 22 0 0 0 []]) c.length)++[XI 18 (X.len e) 0 0 [k1.result]]) (flB X ds e k0 (c++[XI 20 0 0 0 s.args])++[XI 18 (X.len e) 0 0 [k0.result]]).length:=by
 rw [DZ,Zk h,hk,Qa,Qx]
theorem Z3x {s:Z5} {c:List Instr} (h:s.op=8):VS X ds e s c=VY X ds e s.num (gI s.args 0) c.length s.kids 0 (c++[XI 21 0 s.num 0 s.args]) [] []:=by
 rw [DZ,Za om,Zk h]
theorem Z3t {s:Z5} {c:List Instr} (h:s.op=14∨s.op=15):VS X ds e s c=c++[XI s.op 0 0 0 s.args]:=by
 rw [DZ,Za om,Za om,Zk h]
theorem Z3y {s:Z5} {c:List Instr} (h:s.op=16∨s.op=17):VS X ds e s c=c++[XI s.op 0 0 0 (s.args++X.res e (gI s.args 0))]:=by
 rw [DZ,Za om,Za om,Za om,Zk h]
theorem Z3u {s:Z5} {c:List Instr} (h7:s.op≠7) (h8:s.op≠8) (h1:¬(s.op=14∨s.op=15)) (h2:¬(s.op=16∨s.op=17)):VS X ds e s c=c++[XI s.op (X.len e) s.num s.into s.args]:=by
 rw [DZ,Za h7,Za h8,Za h1,Za h2]
theorem Z3k (b:Z7) (c:List Instr):flB X ds e b c=Uq X ds e b.steps c:=by cases b;rw [flB];rfl
theorem Ns {xs:List Z5} {k:Nat} {s:Z5} {c d:List Instr} (h:xs[k]? = some s) (ha:Uq X ds e (xs.drop k) c=d):Uq X ds (if YK s.op=true then e else X.nxt e) (xs.drop (k+1)) (VS X ds e s c)=d:=by
 rw [Yi h,Uq] at ha;exact ha
theorem Z41 {xs:List Z5} {k:Nat} {c d:List Instr} (h:xs.length<=k) (ha:Uq X ds e (xs.drop k) c=d):c=d:=by
 rw [Xt h,Uq] at ha;exact ha
theorem Z3g {bs:List Z7} {num x:Int} {a k j:Nat} {c d:List Instr} {ts:LI} {es:List Nat} (h:bs.length<=k) (ha:VY X ds e num x a (bs.drop k) j c ts es=d):Ty (TT c a ts) es=d:=by
 rw [Xt h,VY] at ha;exact ha
theorem Z3h {bs:List Z7} {b:Z7} {num x:Int} {a k:Nat} {c d:List Instr} {ts:LI} {es:List Nat} (hb:bs[k]? = some b) (hl:k+1<bs.length) (ha:VY X ds e num x a (bs.drop k) k c ts es=d) :
  VY X ds e num x a (bs.drop (k+1)) (k+1) ((flB X ds (X.arm e x num k) b (c++Wz (X.len e) (Wu ds num k).length x)++[XI 18 (X.len e) 0 0 [b.result]])++[XI 22 0 0 0 []]) (ts++[(c.length:Int)])
   (es++[(flB X ds (X.arm e x num k) b (c++Wz (X.len e) (Wu ds num k).length x)++[XI 18 (X.len e) 0 0 [b.result]]).length])=d:=by
 rw [Yi hb,VY] at ha
 rw [Yl (bs:=[XI 18 (X.len e) 0 0 [b.result]])]
 obtain ⟨y,hy⟩:=Aq (xs:=bs) (j:=k+1) om
 have hd:=Yi hy
 rw [hd] at ha ⊢
 exact ha
theorem Z3i {bs:List Z7} {b:Z7} {num x:Int} {a k:Nat} {c d:List Instr} {ts:LI} {es:List Nat} (hb:bs[k]? = some b) (hl:bs.length=k+1) (ha:VY X ds e num x a (bs.drop k) k c ts es=d) :
  VY X ds e num x a (bs.drop (k+1)) (k+1) (flB X ds (X.arm e x num k) b (c++Wz (X.len e) (Wu ds num k).length x)++[XI 18 (X.len e) 0 0 [b.result]]) (ts++[(c.length:Int)]) es=d:=by
 rw [Yi hb,VY] at ha
 rw [Xt om] at ha ⊢
 exact ha
end
end Go.Abs
namespace Go.Abs
theorem Mv:∀{bs:List Z7} {k:Nat} {b:Z7},bs[k]? = some b->YS (bs.take (k+1))=YS (bs.take k)+b.sz/\YS (bs.take k)+b.sz<=YS bs
 | [],_,_,h=>by simp at h
 | x::r,0,b,h=>by simp at h;subst h;simp [YS]
 | x::r,k+1,b,h=>by
  obtain ⟨h1,h2⟩:=Mv (bs:=r) (k:=k) (b:=b) (by simpa using h)
  simp only [A3,YS]
  omega
theorem Za0 {c:List Instr} {k:Nat} {x:Instr} {m q R:Int} (h:c[k]? = some x) (hq:q=QJ m x) (ha:Ud m (c.drop k)=R):Ud q (c.drop (k+1))=R:=by
 subst hq;rw [Yi h] at ha;exact ha
theorem Z9z {c:List Instr} {k:Nat} {m R:Int} (h:c.length<=k) (ha:Ud m (c.drop k)=R):m=R:=by rw [Xt h] at ha;exact ha
theorem Z8i {l:LI} {j:Nat} {a m R:Int} (h:l[j]? = some a) (ha:(l.drop j).foldl (fun m a=>max m (a+1)) m=R):(l.drop (j+1)).foldl (fun m a=>max m (a+1)) (max m (a+1))=R:=by
 rw [Yi h] at ha;exact ha
theorem Z8h {l:LI} {j:Nat} {m R:Int} (h:l.length<=j) (ha:(l.drop j).foldl (fun m a=>max m (a+1)) m=R):m=R:=by rw [Xt h] at ha;exact ha
theorem Sy (k:Nat) (h:k<=1000000000):Tl (XD k):=fun f hf=>by have:=G4 k f hf;omega
theorem Z9y (c:List Instr) (p:Nat):Ud (p:Int) c=max (Ud 0 c) (p:Int):=by rw [Z9x c om];omega
theorem WA {p:Prop} (h:p:=by first|omega|(simp only [AU,BZ,Yl,Yw,X5,FY,G6,De,VC];omega)):p:=h
end Go.Abs
end
namespace Go.Abs
structure SG (n:ZC):Prop where
 result:∀r∈n.routines,r.result<=(n.decls.length:Int)
 decl:∀d∈n.decls,d.cons.length=0->d.to_<=(n.decls.length:Int)
 fields:∀c,∀f∈ZK n.decls c,f<=(n.decls.length:Int)
section
variable {n:ZC} (hu:SG n)
include hu
end



structure ZS (n:ZC) (q l:Nat):Prop where
 decls:AD n.decls
 len:1<=n.routines.length/\n.routines.length<=4
 rt:∀r∈n.routines,r.params.length<=3/\r.lent.length<=l/\r.body.sz<=q/\r.body.rng
 rb:∀r∈n.routines,r.body.rb
section
variable {n n2:ZC} (hd:n2.decls=n.decls) (hr:∀vars op num args,QL n2 vars op num args=QL n vars op num args)
include hd hr
end
section
variable {n:ZC}
end
noncomputable instance decBlock:DecidableEq Z7:=fun a b=>Classical.propDecidable (a=b)
noncomputable instance decStep:DecidableEq Z5:=fun a b=>Classical.propDecidable (a=b)
noncomputable instance decDecls:DecidableEq Zb:=fun a b=>Classical.propDecidable (a=b)
noncomputable instance decNormal:DecidableEq ZC:=fun a b=>Classical.propDecidable (a=b)

section
variable {ds:List Zb}
end
def Z7o (am:List KV) (x:Int):Bool:=am.any fun o=>o.chg&&(o.mat==x)
def OU (am:List KV) (a:KV) (b:Z7):Prop:=Z7o am a.mat=true∨(Vd b.steps a.mat<0∨Ww b.steps a.fds.length<0)
instance (am:List KV) (a:KV) (b:Z7):Decidable (OU am a b):=by unfold OU;infer_instance

section
variable {ds:List Zb}
end
section
variable {n:ZC}
end
section
variable {ds:List Zb}
end
structure CR2 (c d:LI):Prop where
 l1:c.length=4
 l2:d.length=4
 a:gI c 0=gI d 0
 b:gI c 1=gI d 1
 s:gI c 2+gI c 3=gI d 2+gI d 3
section
variable {ds:List Zb}
end
section
variable {ds:List Zb}
end

structure Zef (n:ZC) (r:Yz) (k:Nat) (L:ZH):Prop where
 ok:XG n.decls L (1+4*r.body.sz)
 pre:∃ws,L.vars=r.params++ws
 len:L.vars.length<=r.params.length+r.body.sz
 ty:∀s,r.body.steps[k]? = some s->0<=YY n L.vars s
end Go.Abs
section
namespace Go.Abs
section
variable {n n2:ZC} (hd:n2.decls=n.decls) (hr:∀vars op num args,QL n2 vars op num args=QL n vars op num args) (hl:∀op num,Da n2 op num=Da n op num)
include hd hr hl
omit hd hr in
omit hd hr in
omit hr in
end
end Go.Abs
namespace Go.Abs
end Go.Abs
end
namespace Go.Abs
section
variable {ds:List Zb}
end
section
variable {n:ZC}
end
structure SC (f g:Int->Nat) (same:Prop):Prop where
 a:f 14<=g 14
 c:g 16<=f 16
 d:f 17=g 17
 e:f 16=g 16->same
section
variable {ds:List Zb}
end
def T1 (r:Int):LI->Bool
 | []=>true
 | a::t=>if 0<=a/\a<=r-1 then T1 r t else false
def W9 (k len:Int):LI->Bool
 | []=>true
 | j::t=>if k+1<=j/\j<=len-1 then W9 k len t else false
def Tg (op:Int):Bool:=decide ((0<=op/\op<=11/\op≠7/\op≠8)∨op=18∨op=19)
def Uh (im:YN) (num:Int) (n more:Nat):Bool:=((Wt im.procs num).map fun p=>decide (p.params.length=n+more)).getD false
def QI (im:YN) (num:Int):Bool:=((Wt im.procs num).map fun p=>decide (p.lent.length=0)).getD false
def Wa (im:YN) (p:ZX) (k:Nat) (x:Instr):Bool:=
 if x.op=0 then decide (x.args.length=0/\(-999<=x.num/\x.num<=999))
 else if x.op=1∨x.op=2∨x.op=3∨x.op=4∨x.op=11 then decide (x.args.length=2/\x.num=0)
 else if x.op=5∨x.op=14∨x.op=15∨x.op=18∨x.op=23 then decide (x.args.length=1/\x.num=0)
 else if x.op=6 then decide (0<We im.decls x.num/\x.args.length=(ZK im.decls x.num).length/\0<=x.into/\x.into<=p.regs)
 else if x.op=9∨x.op=24 then Uh im x.num x.args.length 0
 else if x.op=10 then Uh im x.num x.args.length 1&&QI im x.num
 else if x.op=16∨x.op=17 then decide ((1<=x.args.length/\x.args.length<=4)/\x.num=0)
 else if x.op=19 then decide (x.args.length=1/\0<=x.num/\x.num<=2)
 else if x.op=20 then decide (x.args.length=1/\(k:Int)+1<=x.num/\x.num<=(p.code.length:Int)-1)
 else if x.op=22 then decide (x.args.length=0/\(k:Int)+1<=x.num/\x.num<=(p.code.length:Int)-1)
 else if x.op=21 then decide (x.args.length=1/\0<(ZQ im.decls x.num).length/\x.jumps.length=(ZQ im.decls x.num).length)&&W9 k p.code.length x.jumps
 else false
def Vq (im:YN) (p:ZX) (k:Nat) (x:Instr):Bool:=
 T1 p.regs x.args&&(decide ((0<=x.dst/\x.dst<=p.regs-1)/\(x.dst=0∨Tg x.op=true)/\(x.into=0∨x.op=6)/\(x.op=21∨x.jumps.length=0))&&Wa im p k x)
def Tq (im:YN) (p:ZX):List Instr->Nat->Bool
 | [],_=>true
 | x::r,k=>if Vq im p k x=true then Tq im p r (k+1) else false
def IF (c:List Instr):Bool:=((c.getLast?).map fun x=>decide (x.op=23∨x.op=24)).getD false
def Tt (im:YN) (p:ZX):Bool:=
 Ue p.params p.lent&&(decide ((1<=p.regs/\(p.params.length:Int)<=p.regs/\p.regs<=2000)/\1<=p.code.length/\p.code.length<=2000)&&(Tq im p p.code 0&&IF p.code))
def Tf (im:YN):List ZX->Bool
 | []=>true
 | p::r=>if Tt im p=true then Tf im r else false
def U6 (p:ZX):Sg:=⟨p.params,p.result⟩
def Xq (im:YN):Bool:=decide (im.procs.length<=4)&&(UL im.decls (im.procs.map U6)&&Tf im im.procs)
theorem Es {im:YN}:∀{l:List ZX},Tf im l=true↔∀p∈l,Tt im p=true
 | []=>by simp [Tf]
 | p::r=>by
  rw [Tf]
  split
  ·rename_i h;rw [Es (l:=r)];simp [h]
  ·rename_i h;simp [h]
theorem It {im:YN} {p:ZX}:∀{l:List Instr} {k j:Nat} {x:Instr},Tq im p l k=true->l[j]? = some x->Vq im p (k+j) x=true
 | [],k,j,x,_,hx=>by simp at hx
 | y::r,k,j,x,h,hx=>by
  rw [Tq] at h
  split at h
  ·rename_i h1
   cases j with
   | zero=>simp at hx;subst hx;exact h1
   | succ j=>have:=It (k:=k+1) h (by simpa using hx);rwa [show k+(j+1)=k+1+j by omega]
  ·cases h
theorem Og {im:YN} {p:ZX}:∀{l:List Instr} {k:Nat},(∀(j:Nat) (x:Instr),l[j]? = some x->Vq im p (k+j) x=true)->Tq im p l k=true
 | [],k,_=>by rw [Tq]
 | y::r,k,h=>by
  rw [Tq,Zk (show Vq im p k y=true from h 0 y rfl)]
  exact Og fun j x hx=>by have:=h (j+1) x (by simpa using hx);rwa [show k+1+j=k+(j+1) by omega]
theorem OB {k len:Int}:∀{l:LI},W9 k len l=true↔∀j∈l,k+1<=j/\j<=len-1
 | []=>by simp [W9]
 | j::t=>by
  rw [W9]
  split
  ·rename_i h;rw [OB (l:=t)];simp [h]
  ·rename_i h;simp [h]
theorem PH {r:Int}:∀{l:LI},T1 r l=true↔∀a∈l,0<=a/\a<=r-1
 | []=>by simp [T1]
 | j::t=>by
  rw [T1]
  split
  ·rename_i h;rw [PH (l:=t)];simp [h]
  ·rename_i h;simp [h]
theorem Z6s {im:YN} (h:Xq im=true) {f k:Nat} {p:ZX} {x:Instr} (hp:im.procs[f]? = some p) (hx:p.code[k]? = some x):Tt im p=true/\Vq im p k x=true:=by
 rw [Xq,Xo,Xo] at h
 have h1:=Es.1 h.2.2 p (Y2 hp)
 refine ⟨h1,?_⟩
 rw [Tt,Xo,Xo,Xo] at h1
 have:=It h1.2.2.1 hx
 rwa [Wh] at this
theorem Z7i {im:YN} {p:ZX} {k:Nat} {x:Instr} (h:Vq im p k x=true) (ho:x.op=20∨x.op=22):(k:Int)<x.num/\x.num<p.code.length:=by
 rw [Vq,Xo,Xo] at h
 have h2:=h.2.2
 rcases ho with ho|ho
 ·simp only [Wa,ho] at h2
  have h2:=of_decide_eq_true (by simpa using h2:decide (x.args.length=1/\(k:Int)+1<=x.num/\x.num<=(p.code.length:Int)-1)=true)
  omega
 ·simp only [Wa,ho] at h2
  have h2:=of_decide_eq_true (by simpa using h2:decide (x.args.length=0/\(k:Int)+1<=x.num/\x.num<=(p.code.length:Int)-1)=true)
  omega
theorem Z7g {im:YN} {p:ZX} {k:Nat} {x:Instr} (h:Vq im p k x=true) {j:Int} (hj:j∈x.jumps):(k:Int)<j/\j<p.code.length:=by
 rw [Vq,Xo,Xo,decide_eq_true_eq] at h
 have h3:=h.2.1.2.2.2
 have ho:x.op=21:=by
  rcases h3 with h3|h3
  ·exact h3
  ·rw [List.eq_nil_of_length_eq_zero h3] at hj;cases hj
 have h2:=h.2.2
 have e:Wa im p k x=(decide (x.args.length=1/\0<(ZQ im.decls x.num).length/\x.jumps.length=(ZQ im.decls x.num).length)&&W9 k p.code.length x.jumps):=by simp [Wa,ho]
 rw [e,Xo] at h2
 have:=OB.1 h2.2 j hj
 omega
def K9 (p:ZX):ZX:=⟨p.params,p.lent,p.result,p.regs+1,p.code⟩
def Az (im:YN):YN:=⟨im.decls,im.procs.map K9⟩
theorem OS (im:YN) (num:Int):Wt (Az im).procs num=(Wt im.procs num).map K9:=by
 show Wt (im.procs.map K9) num=_
 unfold Wt
 rw [Qn]
 split
 ·rw [Kj]
 ·rfl
theorem Z9w {r:Int} {l:LI} (h:T1 r l=true):T1 (r+1) l=true:=by
 rw [PH] at h ⊢
 intro a ha
 have:=h a ha
 omega
theorem Z7d {im:YN} {p:ZX} {k:Nat} {x:Instr} (h:Vq im p k x=true):Vq (Az im) (K9 p) k x=true:=by
 rw [Vq,Xo,Xo,decide_eq_true_eq] at h ⊢
 obtain ⟨h1,⟨h2,h3⟩,h4⟩:=h
 refine ⟨Z9w h1,⟨⟨h2.1,by show x.dst<=p.regs+1-1;omega⟩,h3⟩,?_⟩
 have e1:∀n m,Uh (Az im) x.num n m=Uh im x.num n m:=fun n m=>by
  rw [Uh,Uh,OS];cases Wt im.procs x.num<;>rfl
 have e2:QI (Az im) x.num=QI im x.num:=by rw [QI,QI,OS];cases Wt im.procs x.num<;>rfl
 have ed:(Az im).decls=im.decls:=rfl
 have ec:(K9 p).code=p.code:=rfl
 have er:(K9 p).regs=p.regs+1:=rfl
 unfold Wa at h4 ⊢
 rw [e1,e1,e2,ed,ec,er]
 by_cases g6:x.op=6
 ·simp only [g6] at h4 ⊢
  simp at h4 ⊢
  omega
 ·have:∀a b c:Bool,(if x.op=6 then a else c)=(if x.op=6 then b else c):=fun a b c=>by rw [Za g6,Za g6]
  simp only [Za g6] at h4 ⊢
  exact h4
theorem Z6t {im:YN} (h:Xq im=true) (hr:∀p∈im.procs,p.regs≠2000):Xq (Az im)=true:=by
 rw [Xq,Xo,Xo] at h ⊢
 obtain ⟨h1,h2,h3⟩:=h
 have el:(Az im).procs.length=im.procs.length:=Qn ..
 have es:(Az im).procs.map U6=im.procs.map U6:=by show (im.procs.map K9).map U6=_;rw [List.map_map];rfl
 refine ⟨by rw [el];exact h1,by rw [es];exact h2,Es.2 fun q hq=>?_⟩
 obtain ⟨p,hp,rfl⟩:=XF.1 (show q∈im.procs.map K9 from hq)
 have h4:=Es.1 h3 p hp
 have h5:=hr p hp
 rw [Tt,Xo,Xo,Xo,decide_eq_true_eq] at h4 ⊢
 obtain ⟨a,⟨b,c⟩,d,e⟩:=h4
 refine ⟨a,⟨⟨by show 1<=p.regs+1;omega,by show (p.params.length:Int)<=p.regs+1;omega,by show p.regs+1<=2000;omega⟩,c⟩,?_,e⟩
 exact Og fun j x hx=>Z7d (It d hx)
def TH (c:List Instr):Nat->Nat->Int->Bool
 | 0,_,_=>false
 | f+1,k,reg=>match c[k]? with
  | none=>false
  | some i=>if i.op=18/\gI i.args 0=reg then TH c f (k+1) i.dst else if i.op=22 then TH c f i.num.toNat reg else decide (i.op=23/\gI i.args 0=reg)
def fwd (c:List Instr):Prop:=∀(k:Nat) (i:Instr),c[k]? = some i->i.op=22->(k:Int)<i.num
theorem Gl {c:List Instr} (hf:fwd c):∀(f g k:Nat) (reg:Int),c.length<f+k->c.length<g+k->TH c f k reg=TH c g k reg
 | 0,0,k,reg,_,_=>rfl
 | 0,g+1,k,reg,h,_=>by rw [TH,TH,By om]
 | f+1,0,k,reg,_,h=>by rw [TH,TH,By om]
 | f+1,g+1,k,reg,h,h'=>by
  rw [TH,TH]
  cases hc:c[k]? with
  | none=>rfl
  | some i=>
   simp only
   split
   ·exact Gl hf f g (k+1) i.dst om om
   ·split
    ·rename_i h22
     have:=hf k i hc h22
     exact Gl hf f g i.num.toNat reg om om
    ·rfl
def T2 (c:List Instr) (k:Nat) (reg:Int):Bool:=TH c (c.length+1) k reg
theorem Zah {c:List Instr} (hf:fwd c) {k:Nat} {reg:Int} {i:Instr} (hi:c[k]? = some i) (h:i.op=18/\gI i.args 0=reg):T2 c (k+1) i.dst=T2 c k reg:=by
 have hl:=(Xh.1 hi).1
 have e:T2 c k reg=TH c c.length (k+1) i.dst:=by
  rw [T2,TH,hi]
  simp only [Zk h]
 rw [e]
 exact Gl hf _ _ _ _ om om
theorem R5 {c:List Instr} (hf:fwd c) {k:Nat} {reg:Int} {i:Instr} (hi:c[k]? = some i) (h:i.op=22):T2 c i.num.toNat reg=T2 c k reg:=by
 have hl:=(Xh.1 hi).1
 have e:T2 c k reg=TH c c.length i.num.toNat reg:=by
  rw [T2,TH,hi]
  simp only
  rw [Za om,Zk h]
 rw [e]
 have:=hf k i hi h
 exact Gl hf _ _ _ _ om om
theorem Bn {c:List Instr} {k:Nat} {reg:Int} {i:Instr} (hi:c[k]? = some i) (h1:¬(i.op=18/\gI i.args 0=reg)) (h2:¬i.op=22):decide (i.op=23/\gI i.args 0=reg)=T2 c k reg:=by
 rw [T2,TH,hi]
 simp only [Za h1,Za h2]
theorem Gk {c:List Instr} {k:Nat} {reg:Int} (h:c.length<=k):false=T2 c k reg:=by
 rw [T2,TH,By h]
def JX (c:List Instr) (k:Nat) (x:Instr):Instr:=if x.op=9/\T2 c (k+1) x.dst=true then ⟨24,0,x.num,0,x.args,x.jumps⟩ else x
def KO (c:List Instr):List Instr->Nat->List Instr
 | [],_=>[]
 | x::r,k=>JX c k x::KO c r (k+1)
def Qj (c:List Instr):List Instr:=KO c c 0
def DA (p:ZX):ZX:=⟨p.params,p.lent,p.result,p.regs,Qj p.code⟩
def EE (im:YN):YN:=⟨im.decls,im.procs.map DA⟩
theorem LL (c:List Instr):∀(xs:List Instr) (k:Nat),(KO c xs k).length=xs.length
 | [],_=>rfl
 | x::r,k=>by rw [KO,Yw,Yw,LL c r]
theorem Sb (c:List Instr):(Qj c).length=c.length:=LL c c 0
theorem GJ {c:List Instr}:∀{xs:List Instr} {k j:Nat},(KO c xs k)[j]? = (xs[j]?).map (JX c (k+j))
 | [],k,j=>by simp [KO]
 | x::r,k,0=>by simp [KO]
 | x::r,k,j+1=>by
  rw [KO,List.getElem?_cons_succ,List.getElem?_cons_succ,GJ (xs:=r)]
  rw [show k+1+j=k+(j+1) by omega]
theorem Zdf {c:List Instr} {k:Nat}:(Qj c)[k]? = (c[k]?).map (JX c k):=by rw [Qj,GJ,Wh]
theorem Zdg (c:List Instr) (k:Nat) (x:Instr):JX c k x=x∨(x.op=9/\JX c k x=⟨24,0,x.num,0,x.args,x.jumps⟩):=by
 unfold JX
 split
 ·rename_i h;exact .inr ⟨h.1,rfl⟩
 ·exact .inl rfl
theorem Sc {c xs:List Instr} {k:Nat} {x:Instr} (h:xs[k]? = some x):KO c (xs.take k) 0++[JX c k x]=KO c (xs.take (k+1)) 0:=by
 apply List.ext_getElem?
 intro j
 have hl:=(Xh.1 h).1
 have hk:(KO c (xs.take k) 0).length=k:=by rw [LL,Wd];omega
 rw [GJ,Wh,WU h]
 by_cases hj:j<k
 ·rw [A1 om,A1 (by rw [Wd];omega),GJ,Wh]
 ·by_cases e:j=k
  ·subst e
   rw [DE om,hk,DE (by rw [Wd];omega)]
   rw [Wd,VW om]
   simp
  ·rw [By (by rw [Yl,hk];simp;omega),By (by rw [Yl,Wd];simp;omega)];rfl
end Go.Abs
