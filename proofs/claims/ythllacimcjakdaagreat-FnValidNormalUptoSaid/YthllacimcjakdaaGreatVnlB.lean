/-
  A part of the proof of FnValidNormalUptoSaid (see the last file): no condition.
-/
import Derived.Test.YthllacimcjakdaaGreatVnlA
import Derived.Test.YthllacimcjakdaaGreatRows
import Derived.Deep.Slices
import Derived.ChangeArms
set_option linter.all false
set_option linter.unusedVariables false
set_option linter.unusedSimpArgs false
set_option linter.unusedSectionVars false
set_option maxRecDepth 10000
set_option maxHeartbeats 4000000
section
namespace Go.Abs
theorem YA.rgrow {w:World} {G:Y9} {h2:List Res} {g len len' cap k:Nat} {ls ls':List AV} (hh:YA w G (.row (.slice (some ⟨g,0,none⟩) len cap) k ls::h2)) {cs cs':Array Value} {e:TypeId}
  (hb:w.heap[g]? = some (.cells cs e (0,0))) (XC:cs'.size=cs.size) (hle:len'<=cap) (hcap:cs.size=cap*k) (hl:ls'.length=len'*k) (hls:YP w G ls' (cs'.toList.take (len'*k))) :
  YA (w.setRow g cs') G (.row (.slice (some ⟨g,0,none⟩) len' cap) k ls'::h2) /\
   YU w G (.row (.slice (some ⟨g,0,none⟩) len cap) k ls::h2) (w.setRow g cs') G (.row (.slice (some ⟨g,0,none⟩) len' cap) k ls'::h2):=by
 have hmem:Res.row (.slice (some ⟨g,0,none⟩) len cap) k ls∈Res.row (.slice (some ⟨g,0,none⟩) len cap) k ls::h2:=Xj ..
 have hA:Vq G w (w.setRow g cs') G:=⟨fun c j hg=>by
  have hne:c≠g:=fun he=>hh.prot _ hmem c j he hg
  simp [World.cell?,Vj w g c cs' hne],fun _ _ h=>h⟩
 have e1:YU w G [.row (.slice (some ⟨g,0,none⟩) len cap) k ls] (w.setRow g cs') G [.row (.slice (some ⟨g,0,none⟩) len' cap) k ls']:=by
  refine ⟨rfl,rfl,rfl,by simp [World.setRow],fun _ _ h=>h,?_,fun _ _ _ h=>.inl h,?_⟩
  ·intro c hc
   by_cases hcb:c=g
   ·subst hcb
    exact .inr ⟨cs,cs',e,(0,0),hb,setRow_heap w c cs cs' e (0,0) hb,XC,fun j hj=>absurd ⟨_,Xj ..,rfl⟩ hj⟩
   ·exact .inl (Vj w g c cs' hcb)
  ·rintro c j _ ⟨r,hr,hf⟩
   rw [W4.1 hr] at hf
   exact ⟨_,Xj ..,hf⟩
 have e2:YA (w.setRow g cs') G [.row (.slice (some ⟨g,0,none⟩) len' cap) k ls']:=by
  refine ⟨fun r hr=>?_,BO _ _,fun r hr c j hf hg=>?_,fun c j hg=>?_⟩
  ·rw [W4.1 hr]
   exact .inr ⟨g,len',cap,cs',e,rfl,setRow_heap w g cs cs' e (0,0) hb,hle,XC.trans hcap,hl,hls.mono hA⟩
  ·rw [W4.1 hr] at hf
   exact hh.prot _ hmem c j hf hg
  ·have:=hh.lt c j hg
   simpa [World.setRow] using this
 exact YA.frame (h:=[.row (.slice (some ⟨g,0,none⟩) len cap) k ls]) (k:=h2) hh e1 e2
section
variable {P:Program} {n:Nat} {ops:Array Oper} {k:Nat} {F:Fr} {h2:List Res}
theorem Mg {K:Fr->List Res->Prop} {v:Hd} {sz m:Nat} {ls xs:List AV} {hx:Option Value} (hd:V0 n (ZC ops k)=true) (ha:VU P ops F k=some (.val v.v,.sl xs hx,sz))
  (hxs:∀y∈xs,y.leaves.length=sz) (hone:(Zl xs).all AV.one=true) (hm0:ls.length=m*sz) (hk0:0<sz) (hne:xs≠[]) (hbound:m+xs.length<=4294967296)
  (hK:∀v':Hd,K (F.put (ZC ops k).dst (.val v'.v)) (.row v'.v sz (ls++Zl xs)::h2)):Wg P n (ZC ops k) F (.row v.v sz ls::h2) K:=by
 unfold VU at ha
 generalize hoo:ZC ops k=o at ha hd hK
 obtain ⟨dst,op,type,pos,after,guard⟩:=o
 cases op<;>simp only at ha<;>try (cases ha)
 rename_i c
 obtain ⟨callee,args,tys⟩:=c
 simp only at ha
 split at ha
 case h_2=>cases ha
 rename_i s x t t' hargs htys
 split at ha
 case h_2=>cases ha
 rename_i e htt ht
 have:=VT htt
 subst this
 split at ha
 case h_2=>cases ha
 rename_i i hinfo
 split at ha
 case h_2=>cases ha
 rename_i z hz
 split at ha
 case h_2=>cases ha
 rename_i hb
 simp only [XL] at hb
 simp only [XW,Prod.mk.injEq] at ha
 obtain ⟨h3,h4,hk1⟩:=ha
 have e1:args=#[s,x]:=by rw [<-VG (xs:=args),hargs]
 have e2:tys=#[t,t]:=by rw [<-VG (xs:=tys),htys]
 subst e1;subst e2
 have hzs:z.cells.size=sz:=by rw [VT hb.1,hk1]
 have hby:=WF hb.2
 have hfl:=UP xs hxs
 intro Q w G a hF hh
 have v1:=hF.ev s
 have v2:=hF.ev x
 rw [h3] at v1
 rw [h4] at v2
 have v1:=v1.val_inv
 have v2:=v2.forget
 have finish:∀(v':Hd) w',(Builtin.append_ #[t,t] type #[v.v,a.eval x]).run P w=.ok v'.v w'->YA w' G (.row v'.v sz (ls++Zl xs)::h2)->YU w G (.row v.v sz ls::h2) w' G (.row v'.v sz (ls++Zl xs)::h2) ->
   ({ dst:=dst,op:=.call { callee:=.builtin .append,args:=#[s,x],argTypes:=#[t,t] },type:=type,pos:=pos,after:=after,guard:=guard }:Oper).wp P a w
    (fun a' w'=>∃F' h' G',K F' h'/\FR w' G' n F' a'/\YA w' G' h'/\YU w G (.row v.v sz ls::h2) w' G' h') Q:=by
  intro v' w' hr j1 j2
  have hrun:(execOp a.eval { dst:=dst,op:=.call { callee:=.builtin .append,args:=#[s,x],argTypes:=#[t,t] },type:=type,pos:=pos,after:=after,guard:=guard }).run P w=.ok (.value v'.v) w':=by
   simp only [execOp,resolve,invoke,builtin,Sem.run_bind,Sem.run_pure,Result.andThen_ok,AY,Uh,AX,v1,hr]
  unfold Oper.wp
  rw [hrun]
  exact ⟨_,_,G,hK v',(hF.mono (j2.agree hh)).put (U5 hd) .val,j1,j2⟩
 have hrow0:=hh.ok (.row v.v sz ls) (Xj ..)
 have hsub2:∀r:Res,List.Sublist (r::h2) (r::.row v.v sz ls::h2):=fun r=>List.Sublist.cons_cons _ (Ai _ _)
 have grown:∀(olds news:List Value) (old:Nat),YP w G ls olds->YP w G (Zl xs) news ->
   YA (w.drew.alloc (.cells (olds.toArray++news.toArray++Builtin.zeroCells z.cells (grownCap w (m+xs.length) old e-(m+xs.length))) e)) G
    (.row (.slice (some ⟨w.heap.size,0,none⟩) (m+xs.length) (grownCap w (m+xs.length) old e)) sz (ls++Zl xs)::h2) /\
   YU w G (.row v.v sz ls::h2) (w.drew.alloc (.cells (olds.toArray++news.toArray++Builtin.zeroCells z.cells (grownCap w (m+xs.length) old e-(m+xs.length))) e)) G
    (.row (.slice (some ⟨w.heap.size,0,none⟩) (m+xs.length) (grownCap w (m+xs.length) old e)) sz (ls++Zl xs)::h2):=by
  intro olds news old ho hn
  have X2:=grownCap_ge w (m+xs.length) old e
  have hol:=ho.length
  have hnl:=hn.length
  have hlen:(ls++Zl xs).length=(m+xs.length)*sz:=by rw [Yx,hm0,hfl,Tt]
  obtain ⟨j1,j2⟩:=hh.drew.alloc_rrow (olds.toArray++news.toArray++Builtin.zeroCells z.cells (grownCap w (m+xs.length) old e-(m+xs.length))) e
   (ls:=ls++Zl xs) (len:=m+xs.length) (cap:=grownCap w (m+xs.length) old e) (k:=sz) X2
   (by
    have q2:(grownCap w (m+xs.length) old e-(m+xs.length))*sz=grownCap w (m+xs.length) old e*sz-(m+xs.length)*sz:=Nat.sub_mul ..
    have q3:(m+xs.length)*sz<=grownCap w (m+xs.length) old e*sz:=TK _ X2
    have q4:(m+xs.length)*sz=m*sz+xs.length*sz:=Tt ..
    simp only [Array.size_append,BP,size_zeroCells,hzs,hol,hnl,hm0,hfl]
    omega) hlen
   (by
    have:(olds.toArray++news.toArray++Builtin.zeroCells z.cells (grownCap w (m+xs.length) old e-(m+xs.length))).toList.take ((m+xs.length)*sz)=olds++news:=by
     simp only [BM]
     rw [<-hlen,Yx,<-hol,<-hnl,<-Yx]
     exact KN
    rw [this]
    exact (ho.append hn).mono (JC w G))
  exact ⟨j1.sub (hsub2 _),(YU.drew w G _).trans (j2.sub' (hsub2 _))⟩
 generalize hax:a.eval x=ax at v2 finish
 cases v2 with
 | nil _=>exact absurd rfl hne
 | sl hq hcc hm=>
  rename_i b o' k' c
  have hpos:0<xs.length:=EE.2 hne
  have hfm:=hm.flat_mem
  obtain ⟨news,hn,hnc⟩:=hfm.cells
  have hnl:news.length=xs.length*i.size:=by rw [hn.length,hfl,hk1]
  have hone':=hn.one_cells hone
  have hnews:∀j u,news[j]? = some u->w.cell? ((⟨b,o',none⟩:Addr).add j)=some u:=fun j u hj=>by rw [Qs];exact (hnc j u hj).1
  have hbb:(m+xs.length)*i.bytes<=140737488355328:=by
   have:=Nat.mul_le_mul hbound hby
   omega
  rcases hrow0 with ⟨hv0,hl0⟩|⟨g,len,cap,cur,el,hv0,hrow,hlc,hcur,hll,hcells⟩
  ·subst hl0
   have hm1:m=0:=by
    have:m*sz=0:=by simpa using hm0.symm
    rcases Nat.mul_eq_zero.1 this with h|h
    ·exact h
    ·omega
   subst hm1
   rw [hv0] at finish hh ⊢
   have hr:=run_append_nil (P:=P) w t type e i z ht hinfo hz ⟨b,o',none⟩ xs.length c news hnl hnews hpos om (by simp only [WQ] at hbb;omega)
   obtain ⟨j1,j2⟩:=grown [] news 0 .nil hn
   simp only [WQ,Array.empty_append,AZ] at j1 j2
   rw [hv0] at j2
   exact finish ⟨some ⟨w.heap.size,0,none⟩,xs.length,grownCap w xs.length 0 e⟩ _ hr (by simpa using j1) (by simpa using j2)
  ·have hlm:len=m:=EG hk0 (hll.symm.trans hm0)
   subst hlm
   rw [hv0] at finish hh ⊢
   have q5:len*sz<=cap*sz:=TK _ hlc
   have h1:(cur.toList.take (len*sz)).length=len*sz:=by rw [Wv,Qn,hcur,Vp q5]
   have hcl:cur.toList.length=cap*sz:=by rw [Qn,hcur]
   by_cases hroom:len+xs.length<=cap
   ·have q1:(len+xs.length)*sz<=cap*sz:=TK _ hroom
    have q2:(len+xs.length)*sz=len*sz+xs.length*sz:=Tt ..
    have hfit:len*i.size+news.length<=cur.size:=by rw [hnl,hcur,hk1];omega
    have hr:=Eb (P:=P) w t type e el i ht hinfo g len cap cur hrow ⟨b,o',none⟩ xs.length c news hnl hnews hone' hroom hfit
    rw [hk1] at hr
    have hnl':news.length=xs.length*sz:=by rw [hnl,hk1]
    obtain ⟨j1,j2⟩:=hh.rgrow (ls':=ls++Zl xs) (len':=len+xs.length) (cs':=(cur.toList.take (len*sz)++news++cur.toList.drop (len*sz+news.length)).toArray) hrow
     (by simp only [BP,Yx,h1,hnl',Ag,hcl,hcur];omega) hroom hcur (by rw [Yx,hll,hfl,q2]) (by
      have:(cur.toList.take (len*sz)++news++cur.toList.drop (len*sz+news.length)).toArray.toList.take ((len+xs.length)*sz)=cur.toList.take (len*sz)++news:=by
       rw [BQ,q2,<-hnl']
       conv=>lhs;arg 1;rw [show len*sz+news.length=(cur.toList.take (len*sz)++news).length from by rw [Yx,h1]]
       exact KN
      rw [this]
      exact hcells.append hn)
    exact finish ⟨some ⟨g,0,none⟩,len+xs.length,cap⟩ _ hr j1 j2
   ·have hr:=run_append_grow (P:=P) w t type e i z ht hinfo hz ⟨g,0,none⟩ len cap (cur.toList.take (len*sz)) (by rw [hk1];exact h1) (fun j u hj=>by
     rw [Qs,cell_of_row w g _ cur el (0,0) hrow]
     rw [Q4] at hj
     split at hj
     ·simpa using hj
     ·cases hj) ⟨b,o',none⟩ xs.length c news hnl hnews om om (growslice_fits om hbb)
    obtain ⟨j1,j2⟩:=grown (cur.toList.take (len*sz)) news cap hcells hn
    rw [hv0] at j2
    exact finish ⟨some ⟨w.heap.size,0,none⟩,len+xs.length,grownCap w (len+xs.length) cap e⟩ _ hr j1 j2
end
section
variable {P:Program} {n:Nat} {ops:Array Oper} {B:Fr->List Res->Prop} {k:Nat} {F:Fr} {h:List Res}
theorem DG (j m:Nat) (v:Hd) (sz:Nat) (ls xs:List AV) (hx:Option Value) (hm0:ls.length=m*sz) (hxs:∀y∈xs,y.leaves.length=sz) (hone:(Zl xs).all AV.one=true) (hne:xs≠[]) (hbound:m+xs.length<=4294967296)
  (hK:∀v':Hd,SI P n ops B (k+1) (F.put (ZC ops k).dst (.h v')) (rK v' sz (ls++Zl xs)::XF [j] h)) (hk0:0<sz:=by omega)
  (hk:X1 n ops F k=true:=by kernel_rfl) (ha:VU P ops F k=some (.h v,.sl xs hx,sz):=by kernel_rfl) (hp:Wa [j] h=some [rK v sz ls]:=by kernel_rfl):SI P n ops B k F h:=
 T6 hk (Wg.perm (VQ (Vc hp)) (Mg (Vn hk).2.1 ha hxs hone hm0 hk0 hne hbound hK))
end
end Go.Abs
namespace Go.Abs
section
variable {P:Program} {n:Nat} {ops:Array Oper} {B:Fr->List Res->Prop} {T:List (Nat × List Nat)} {fuel:Nat} {done:List Nat} {F:Fr} {h:List Res}
theorem Fa (i j m:Nat) (js bs:List Nat) (v:Hd) (sz:Nat) (ls xs:List AV) (hx:Option Value) (hm0:ls.length=m*sz) (hxs:∀y∈xs,y.leaves.length=sz) (hone:(Zl xs).all AV.one=true) (hne:xs≠[]) (hbound:m+xs.length<=4294967296)
  (hK:∀v':Hd,YL P n ops B (T.filter fun t=>!WA ops i t.1) fuel (done++[i]) (F.put (ZC ops i).dst (.h v')) (rK v' sz (ls++Zl xs)::XF [j] h)) (hk0:0<sz:=by omega) (hk:X1 n ops F i=true:=by kernel_rfl)
  (ha:VU P ops F i=some (.h v,.sl xs hx,sz):=by kernel_rfl) (hp:Wa [j] h=some [rK v sz ls]:=by kernel_rfl) (ho:Vw ops i T=bs:=by kernel_rfl)
  (hj:js.map (fun q=>(Wk (XF [j] h))[q]?)=bs.map some:=by kernel_rfl):WY P n ops B T fuel done F h i:=
 Qc [j] js bs hk (Vc hp) ho hj (Mg (h2:=[]) (Vn hk).2.1 ha hxs hone hm0 hk0 hne hbound hK)
end
theorem Zj.form {P:Program} {f:FuncId} {as1:List AV} {h0:List Res} {T:Hd->AV} {kk m:Nat} {ls:List AV} {hs:List Res} (H:Zj P f as1 h0 (fun r h=>∃v:Hd,r=T v/\h=rK v kk ls::hs)) (hm:ls.length=m*kk) (hk:0<kk) (h1:0<m) :
  Zj P f as1 h0 (fun r h=>∃(g c:Nat),r=T ⟨some ⟨g,0,none⟩,m,c⟩/\h=rK ⟨some ⟨g,0,none⟩,m,c⟩ kk ls::hs):=by
 intro w G vs hv hh
 refine (H w G vs hv hh).mono ?_
 rintro e w' ⟨u,r,h',G',he,⟨v,rfl,rfl⟩,hr,hh',hx⟩
 obtain ⟨g,c,rfl⟩:=MG (hh'.ok _ (Xj ..)) hm hk h1
 exact ⟨u,_,_,G',he,⟨g,c,rfl,rfl⟩,hr,hh',hx⟩
end Go.Abs
namespace Go.Abs
section
variable {h:List Res}
theorem Z6n (j i p:Nat) {u:Value} {kk b:Nat} {es ls:List AV} (hp:Wa [j,i] h=some [.row u kk (Zl es),.obj b ls]) (hes:∀y∈es,y.leaves.length=kk) (hk:0<kk) (hl:ls[p]? = some (.val u)) :
  UX h (.obj b (ls.set p (.sl es (some u)))::.tail u kk::XF [j,i] h):=by
 intro w G hh
 have hp':=VQ (Vc hp)
 have hh':=hh.perm hp'
 obtain ⟨G',h1,h2',h3⟩:=BF (h2:=.obj b ls::XF [j,i] h) hh' hes hk
 have e:=h2'.perm hp'.symm (Ts _)
 have h1:YA w G' (.tail u kk::.obj b ls::XF [j,i] h):=h1
 have perm:(Res.tail u kk::.obj b ls::XF [j,i] h).Perm (.obj b ls::.tail u kk::XF [j,i] h):=List.Perm.swap ..
 have h4:=h1.perm perm
 have e4:=e.perm (Ts _) perm
 have hset:∀{w:World} {G:Y9},RV w G (.sl es (some u)) u->TL w G (.obj b ls)->TL w G (.obj b (ls.set p (.sl es (some u)))):=by
  intro w G hu hr
  obtain ⟨cs,el,k1,k5⟩:=hr
  refine ⟨cs,el,k1,?_⟩
  obtain ⟨c,c1,c2⟩:=k5.get p _ hl
  have:=c2.val_inv
  subst this
  have h6:=k5.set p hu
  rwa [show cs.toList.set p c=cs.toList from by
   apply List.ext_getElem?
   intro q
   rw [List.getElem?_set]
   split
   ·rename_i hq;subst hq;split
    ·exact c1.symm
    ·rename_i hq2;rw [O2 om]
   ·rfl] at h6
 refine ⟨G',⟨fun r hr=>?_,?_,fun r hr=>?_,h4.lt⟩,⟨e4.os,e4.tape,e4.output,e4.size,e4.sub,e4.same,e4.newG,fun b' o hb ⟨r,hr,hf⟩=>e4.newfp b' o hb ?_⟩⟩
 ·rcases YQ.1 hr with rfl|hr
  ·exact hset h3 (h4.ok _ (Xj ..))
  ·exact h4.ok r (XH _ hr)
 ·have:=WP.1 h4.apart
  exact WP.2 ⟨fun r hr b' o f1 f2=>this.1 r hr b' o f1 f2,this.2⟩
 ·rcases YQ.1 hr with rfl|hr
  ·exact fun b' o f1 hg=>h4.prot (.obj b ls) (Xj ..) b' o f1 hg
  ·exact h4.prot r (XH _ hr)
 ·rcases YQ.1 hr with rfl|hr
  ·exact ⟨.obj b ls,Xj ..,hf⟩
  ·exact ⟨r,XH _ hr,hf⟩
theorem Ux (j i p:Nat) (u:Value) (kk b:Nat) (es ls:List AV) (hes:∀y∈es,y.leaves.length=kk) (hl:ls[p]? = some (.val u)) (hk:0<kk:=by omega) (hp:Wa [j,i] h=some [.row u kk (Zl es),.obj b ls]:=by kernel_rfl) :
  UX h (.obj b (ls.set p (.sl es (some u)))::.tail u kk::XF [j,i] h):=Z6n j i p hp hes hk hl
end
end Go.Abs
namespace Go.Abs
section
variable {P:Program} {n:Nat} {ops:Array Oper} {k:Nat} {F:Fr} {h:List Res}
theorem Z68 (j:Nat) {g l c m kk:Nat} {ls:List AV} (hi:BJ P ops F k=some (.val (.slice (some ⟨g,0,none⟩) l c),(m:Int))) (hj:h[j]? = some (.row (.slice (some ⟨g,0,none⟩) l c) kk ls)) (hle:m<=l) :
  XA P (ZC ops k) F h [] (.val (.slice (some ⟨g,0,none⟩) m c)):=by
 unfold BJ at hi
 generalize hoo:ZC ops k=o at hi
 obtain ⟨dst,op,type,pos,after,guard⟩:=o
 cases op<;>simp only at hi<;>try (cases hi)
 rename_i t x lo hi' mx
 cases lo with
 | some _=>simp at hi
 | none=>
  cases hi' with
  | none=>simp at hi
  | some y=>
   cases mx with
   | some _=>simp at hi
   | none=>
    simp only at hi
    split at hi
    ·rename_i e ht
     split at hi
     ·rename_i inf hinf
      split at hi
      ·rename_i ik m' hm
       simp only [XW,Prod.mk.injEq] at hi
       obtain ⟨hx,rfl⟩:=hi
       intro n w G a hF hh
       have v1:=hF.ev x
       rw [hx] at v1
       have v1:=v1.val_inv
       have v2:=hF.ev y
       rw [hm] at v2
       have v2:=v2.val_inv
       have hcap:l<=c:=by
        rcases hh.ok _ (Y7 hj) with ⟨h0,_⟩|⟨g',l',c',cur,el,h0,_,hc,_⟩
        ·cases h0
        ·cases h0;exact hc
       refine ⟨_,.val,fun w' _ _=>?_⟩
       simp only [execOp,v1,v2,Aj,Option.map_none]
       refine WX ?_
       simp only [Instr.sliceAt,Sem.run_bind,Vo ht,Result.andThen_ok,Instr.slice]
       have hmm:(Instr.sliceBounds true l c none (some (.int ik (m:Int))) none).run P w'=.ok (0,m,c) w':=by
        have Zw:=fun q=>BH (P:=P) (c:=q) (v:=.int ik (m:Int)) (y:=c) rfl om om w'
        simp [Instr.sliceBounds,Zw]
       rw [hmm]
       have hz:∀a:Addr,a.add 0=a:=fun a=>by simp [Addr.add]
       simp only [Result.andThen_ok,TC hinf,Nat.zero_mul,hz]
       by_cases h0:c=0<;>simp [h0]
      ·cases hi
     ·cases hi
    ·cases hi
theorem Ga (j g l c m kk:Nat) (ls:List AV) (hle:m<=l:=by omega) (hi:BJ P ops F k=some (.val (.slice (some ⟨g,0,none⟩) l c),(m:Int)):=by kernel_rfl) (hj:h[j]? = some (.row (.slice (some ⟨g,0,none⟩) l c) kk ls):=by kernel_rfl) :
  XA P (ZC ops k) F h [] (.val (.slice (some ⟨g,0,none⟩) m c)):=Z68 j hi hj hle
variable {B:Fr->List Res->Prop}
end
end Go.Abs
end
namespace Go.Abs
theorem Yb {α:Type} {xs:List α} {k:Nat} {x:α} (h:xs[k]? = some x):xs.drop k=x::xs.drop (k+1):=by
 have hk:=(XM.1 h).1
 rw [O1 hk]
 congr 1
 rw [Af hk] at h
 exact Jv h
theorem Xx {α:Type} {xs:List α} {k:Nat} (h:xs.length<=k):xs.drop k=[]:=EB h
theorem WO {α:Type} {xs:List α} {k:Nat} {x:α} (h:xs[k]? = some x):xs.take (k+1)=xs.take k++[x]:=by
 rw [List.take_add_one,h];rfl
def Yq:List Zf->Nat
 | []=>0
 | d::ds=>d.cons.length+Yq ds
theorem BX (xs ys:List Zf):Yq (xs++ys)=Yq xs+Yq ys:=by
 induction xs with
 | nil=>simp [Yq]
 | cons d ds ih=>simp [Yq,ih];omega
structure Wm (ds:List Zf):Prop where
 len:ds.length<=4
 cons:∀d∈ds,d.cons.length<=3
 fields:∀d∈ds,∀c∈d.cons,c.fields.length<=3
theorem Pe {ds:List Zf} {m:Nat} (h:∀d∈ds,d.cons.length<=m):Yq ds<=ds.length*m:=by
 induction ds with
 | nil=>simp [Yq]
 | cons d ds ih=>
  have h1:=h d (by simp)
  have h2:=ih (fun x hx=>h x (by simp [hx]))
  simp only [Yq,YS,Tt];omega
theorem Wm.sum {ds:List Zf} (h:Wm ds):Yq ds<=12:=by
 have:=Pe h.cons
 have:=h.len
 have:ds.length*3<=4*3:=TK 3 h.len
 omega
theorem Wm.take {ds:List Zf} (h:Wm ds) (k:Nat):Wm (ds.take k):=
 ⟨by have:=h.len;simp;omega,fun d hd=>h.cons d (TJ hd),fun d hd=>h.fields d (TJ hd)⟩
theorem Wm.cons_at {ds:List Zf} (h:Wm ds) {k:Nat} {d:Zf} (hd:ds[k]? = some d):d.cons.length<=3:=h.cons d (Y7 hd)
theorem Wm.fields_at {ds:List Zf} (h:Wm ds) {k j:Nat} {d:Zf} {c:Y5} (hd:ds[k]? = some d) (hc:d.cons[j]? = some c):c.fields.length<=3:=
 h.fields d (Y7 hd) c (Y7 hc)
def Uk (c:Int):List Zf->Nat->Nat->Int × List Int
 | [],_,_=>(-1,[])
 | d::ds,i,first=>
  if (first:Int)<=c/\c<=((first+d.cons.length:Nat):Int)-1 then ((i:Int)+1,(d.cons[(c-first).toNat]?.map (·.fields)).getD []) else Uk c ds (i+1) (first+d.cons.length)
def Xt (ds:List Zf) (c:Int):Int:=(Uk c ds 0 0).1
def ZB (ds:List Zf) (c:Int):List Int:=(Uk c ds 0 0).2
theorem F7 {c:Int}:∀{ds:List Zf} {i first:Nat},(Uk c ds i first=(-1,[]) ∨
  ∃k d x,ds[k]? = some d/\(first+Yq (ds.take k):Int)<=c/\c<first+Yq (ds.take k)+d.cons.length/\d.cons[(c-(first+Yq (ds.take k))).toNat]? = some x/\Uk c ds i first=((i:Int)+k+1,x.fields))
 | [],_,_=>.inl rfl
 | d::ds,i,first=>by
  rw [Uk]
  split
  ·rename_i h
   have hlt:(c-first).toNat<d.cons.length:=by omega
   refine .inr ⟨0,d,d.cons[(c-first).toNat],rfl,by simp [Yq];omega,by simp [Yq];omega,?_,?_⟩
   ·simp [Yq]
   ·rw [Af hlt];simp
  ·rcases F7 (c:=c) (ds:=ds) (i:=i+1) (first:=first+d.cons.length) with h|⟨k,e,x,h1,h2,h3,h4,h5⟩
   ·exact .inl h
   ·refine .inr ⟨k+1,e,x,by simpa using h1,by simp [Yq];omega,by simp [Yq];omega,?_,?_⟩
    ·rw [<-h4];congr 3;simp [Yq];omega
    ·rw [h5];congr 1;omega
theorem F8 {ds:List Zf} {c:Int} (h:¬Xt ds c<1) :
  ∃k d x,ds[k]? = some d/\(Yq (ds.take k):Int)<=c/\d.cons[(c-Yq (ds.take k)).toNat]? = some x/\Xt ds c=(k:Int)+1/\ZB ds c=x.fields:=by
 rcases F7 (c:=c) (ds:=ds) (i:=0) (first:=0) with h1|⟨k,d,x,h1,h2,_,h4,h5⟩
 ·simp [Xt,h1] at h
 ·exact ⟨k,d,x,h1,by simpa using h2,by simpa using h4,by simp [Xt,h5],by simp [ZB,h5]⟩
theorem Dd {ds:List Zf} {c:Int} (h:Xt ds c<1):ZB ds c=[]/\Xt ds c=-1:=by
 rcases F7 (c:=c) (ds:=ds) (i:=0) (first:=0) with h1|⟨k,d,x,h1,h2,_,h4,h5⟩
 ·simp [ZB,Xt,h1]
 ·simp [Xt,h5] at h;omega
def Wu (first:Int):Nat->List Int
 | 0=>[]
 | n+1=>first::Wu (first+1) n
theorem M5 (first:Int) (n:Nat):Wu first (n+1)=Wu first n++[first+n]:=by
 induction n generalizing first with
 | zero=>simp [Wu]
 | succ n ih=>rw [Wu,ih (first+1),Wu];simp;omega
@[simp] theorem Z2c (first:Int) (n:Nat):(Wu first n).length=n:=by
 induction n generalizing first with
 | zero=>rfl
 | succ n ih=>simp [Wu,ih]
def Zu (ds:List Zf) (t:Int):List Int:=
 if 1<=t/\t<=ds.length then Wu (Yq (ds.take (t-1).toNat)) (((ds[(t-1).toNat]?).map (·.cons.length)).getD 0) else []
def Q8 (frm to_:Int):List Zf->Nat->Int
 | [],_=>-1
 | d::ds,i=>if d.cons.length=0/\d.frm=frm/\d.to_=to_ then (i:Int)+1 else Q8 frm to_ ds (i+1)
def WT (ds:List Zf) (frm to_:Int):Int:=Q8 frm to_ ds 0
def X5 (ds:List Zf) (t:Int):Bool:=decide (1<=t/\t<=ds.length)&&((ds[(t-1).toNat]?).map fun d=>decide (d.cons.length=0)).getD false
theorem DN {ds:List Zf} {t:Int} {x:Zf} (h:1<=t/\t<=ds.length) (hx:ds[(t-1).toNat]? = some x):((x.cons.length:Int)==0)=X5 ds t:=by
 rw [X5,hx,Xm];simp [h]
theorem G5 {ds:List Zf} {t:Int} (h:¬(1<=t/\t<=ds.length)):false=X5 ds t:=by
 rw [X5,Xm];simp only [Bool.false_eq_true,XL,decide_eq_true_eq,h,false_and]
def Xi (m:Nat) (xs:List Int):Bool:=xs.all fun t=>decide (0<=t/\t<=m)
end Go.Abs
section
namespace Go.Abs
section
variable {h:List Res}
end
end Go.Abs
namespace Go.Abs
section
variable {P:Program} {ops:Array Oper} {k:Nat} {F:Fr} {h:List Res}
end
end Go.Abs
end
namespace Go.Abs
section
variable {P:Program} {n:Nat} {ops:Array Oper} {B:Fr->List Res->Prop} {k:Nat} {F:Fr} {h:List Res} {T:List (Nat × List Nat)} {fuel:Nat} {done:List Nat}
theorem Mh {K:Fr->List Res->Prop} {ls:List AV} {len sz:Nat} (hd:V0 n (ZC ops k)=true) (ha:UH P ops F k=some (ls,len,sz)) (hlen:ls.length=len*sz)
  (hK:∀g,K (F.put (ZC ops k).dst (.val (.slice (some ⟨g,0,none⟩) len len))) (.row (.slice (some ⟨g,0,none⟩) len len) sz ls::h)):Wg P n (ZC ops k) F h K:=by
 unfold UH at ha
 generalize hoo:ZC ops k=q at ha hd hK
 obtain ⟨dst,op,type,pos,after,guard⟩:=q
 cases op<;>simp only at ha<;>try (cases ha)
 rename_i t ln parts
 split at ha
 case h_2=>cases ha
 rename_i e ht
 split at ha
 case h_2=>cases ha
 rename_i i hi
 split at ha
 case h_2=>cases ha
 rename_i hc
 simp only [XL] at hc
 split at ha
 case h_2=>cases ha
 rename_i ls' hf
 simp only [XW,Prod.mk.injEq] at ha
 obtain ⟨rfl,rfl,XC⟩:=ha
 intro Q w G a hF hh
 obtain ⟨cs,h1,h2⟩:=Ec hF parts ht hi rfl hc.1 hc.2 hf
 have hr:(execOp a.eval { dst:=dst,op:=.buildSlice t ln parts,type:=type,pos:=pos,after:=after,guard:=guard }).run P w =
   .ok (.value (.slice (some ⟨w.heap.size,0,none⟩) ln ln)) (w.alloc (.cells cs e)):=by
  simp only [execOp]
  exact WX h2
 unfold Oper.wp
 rw [hr]
 have hlc:=h1.length
 simp only [Qn] at hlc
 obtain ⟨j1,j2⟩:=hh.alloc_rrow cs e (ls:=ls') (len:=ln) (cap:=ln) (k:=sz) (X7 _) (by rw [hlc];exact hlen) hlen (by rw [<-hlen,<-hlc];simpa [Ve] using h1)
 exact ⟨_,_,G,hK _,(hF.mono (j2.agree hh)).put (U5 hd) .val,j1,j2⟩
theorem VZ (es es':List AV) (he:es=es') (len sz:Nat) (hK:∀v,SI P n ops B (k+1) (F.put (ZC ops k).dst (.sl es' (some v))) (.tail v sz::h)) (hk:X1 n ops F k=true:=by kernel_rfl)
  (ha:UH P ops F k=some (Zl es,len,sz):=by kernel_rfl) (hlen:es.length=len:=by kernel_rfl) (hall:KU es sz=true:=by kernel_rfl):SI P n ops B k F h:=by
 subst he;exact iL es len sz hK hk ha hlen hall
theorem Wj (i:Nat) (js bs:List Nat) (es es':List AV) (he:es=es') (len sz:Nat) (hK:∀v,YL P n ops B (T.filter fun t=>!WA ops i t.1) fuel (done++[i]) (F.put (ZC ops i).dst (.sl es' (some v))) (.tail v sz::h))
  (hk:X1 n ops F i=true:=by kernel_rfl) (ha:UH P ops F i=some (Zl es,len,sz):=by kernel_rfl) (hlen:es.length=len:=by kernel_rfl) (hall:KU es sz=true:=by kernel_rfl)
  (ho:Vw ops i T=bs:=by kernel_rfl) (hj:js.map (fun j=>(Wk h)[j]?)=bs.map some:=by kernel_rfl):WY P n ops B T fuel done F h i:=by
 subst he;exact dL i js bs es len sz hK hk ha hlen hall ho hj
theorem SV (ls:List AV) (len sz:Nat) (hK:∀g,SI P n ops B (k+1) (F.put (ZC ops k).dst (.val (.slice (some ⟨g,0,none⟩) len len))) (.row (.slice (some ⟨g,0,none⟩) len len) sz ls::h)) (hlen:ls.length=len*sz:=by rfl) (hk:X1 n ops F k=true:=by kernel_rfl)
  (ha:UH P ops F k=some (ls,len,sz):=by kernel_rfl):SI P n ops B k F h:=T6 hk (Mh (Vn hk).2.1 ha hlen hK)
theorem Pp (i:Nat) (js bs:List Nat) (ls:List AV) (len sz:Nat) (hK:∀g,YL P n ops B (T.filter fun t=>!WA ops i t.1) fuel (done++[i]) (F.put (ZC ops i).dst (.val (.slice (some ⟨g,0,none⟩) len len))) (.row (.slice (some ⟨g,0,none⟩) len len) sz ls::h)) (hlen:ls.length=len*sz:=by rfl)
  (hk:X1 n ops F i=true:=by kernel_rfl) (ha:UH P ops F i=some (ls,len,sz):=by kernel_rfl) (ho:Vw ops i T=bs:=by kernel_rfl) (hj:js.map (fun j=>(Wk h)[j]?)=bs.map some:=by kernel_rfl):WY P n ops B T fuel done F h i:=
 Qc (h1:=[]) (h2:=h) [] js bs hk rfl ho hj (Mh (Vn hk).2.1 ha hlen hK)
end
theorem Zj.frz {P:Program} {f:FuncId} {as1:List AV} {h0:List Res} {E:Type} {kk:Nat} {es:E->List AV} {hs:E->List Res} {Q:E->Prop} (H:Zj P f as1 h0 (fun r h=>∃(e:E) (v:Hd),r=.h v/\h=rK v kk (Zl (es e))::hs e/\Q e)) (hes:∀e,∀y∈es e,y.leaves.length=kk) (hk:0<kk) :
  Zj P f as1 h0 (fun r h=>∃(e:E) (v:Value),r=.sl (es e) (some v)/\h=.tail v kk::hs e/\Q e):=by
 intro w G vs hv hh
 refine (H w G vs hv hh).mono ?_
 rintro e w' ⟨u,r,h',G',he,⟨x,v,rfl,rfl,hq⟩,hr,hh',hx⟩
 obtain ⟨G2,h1,h2,h3⟩:=BF hh' (hes x) hk
 have hrv:=hr.val_inv
 subst hrv
 exact ⟨_,_,_,G2,he,⟨x,v.v,rfl,rfl,hq⟩,h3,h1,hx.trans h2⟩
theorem Dv {es:List AV} {sz k:Nat} {y:AV} (h:∀x∈es,x.leaves.length=sz) (hy:y.leaves.length=sz) (hk:k<es.length):(Zl es).take (k*sz)++y.leaves++(Zl es).drop (k*sz+y.leaves.length)=Zl (es.set k y):=by
 obtain ⟨x,hx⟩:=Zs (xs:=es) (j:=k) hk
 have hxl:=h x (Y7 hx)
 have e1:es=es.take k++(x::es.drop (k+1)):=by rw [<-Yb hx,Uy]
 have e2:es.set k y=es.take k++(y::es.drop (k+1)):=by rw [CR,Zm hk]
 have hl:(Zl (es.take k)).length=k*sz:=by rw [UP (k:=sz) _ (fun z hz=>h z (TJ hz)),Wv,Vp om]
 have e3:Zl es=Zl (es.take k)++(x.leaves++Zl (es.drop (k+1))):=by
  conv=>lhs;rw [e1,Tx]
  simp [Zl]
 rw [e2,Tx,e3,GH hl (by rw [hxl,hy])]
 simp [Zl]
theorem PS (ds:List Zf) (k:Nat) (d:Zf):YV (ds.set k d)=(YV ds).set k (Ui d):=by simp [YV,List.map_set]
theorem Az (xs:List Zf):(Zl (YV xs)).length=xs.length*3:=by rw [UP (k:=3) _ (QZ xs)];simp
theorem Dr {ds:List Zf} {k:Nat} (d:Zf) (hk:k<ds.length):(Zl (YV ds)).take (k*3)++Ws d++(Zl (YV ds)).drop (k*3+3)=Zl (YV (ds.set k d)):=by
 rw [PS];exact Dv (y:=Ui d) (QZ ds) rfl (by simpa using hk)
theorem FC (xs ys:List Zf):Zl (YV xs)++Zl (YV ys)=Zl (YV (xs++ys)):=by rw [PR,Tx]
section
variable {P:Program} {n:Nat} {ops:Array Oper} {B:Fr->List Res->Prop} {k:Nat} {F:Fr} {h:List Res}
theorem DF (j m:Nat) {v:Hd} {kk:Nat} {ls:List AV} (hm:ls.length=m*kk) (h0:0<m) (H:∀g c',v=⟨some ⟨g,0,none⟩,m,c'⟩->SI P n ops B k F h) (hk:0<kk:=by omega) (hj:h[j]? = some (rK v kk ls):=by kernel_rfl):SI P n ops B k F h:=by
 intro Q w G a hF hh hq
 obtain ⟨g,c',e⟩:=MG (hh.ok _ (Y7 hj)) hm hk h0
 exact H g c' e Q w G a hF hh hq
end
section
variable {P:Program} {n:Nat} {ops:Array Oper} {B:Fr->List Res->Prop} {k:Nat} {F:Fr} {h:List Res}
def F9 (P:Program) (ops:Array Oper) (F:Fr) (k:Nat):Option (IntKind × Int):=
 match (ZC ops k).op with
 | .convert s d x=>match P.underlying s,P.underlying d,F.ev x with
  | some (.int _),some (.int q),.val (.int _ z)=>some (q,z)
  | _,_,_=>none
 | _=>none
theorem kCv (q:IntKind) (z z':Int) (e:q.wrap z=z') (hc:F9 P ops F k=some (q,z):=by kernel_rfl):XA P (ZC ops k) F h [] (.val (.int q z')):=by
 unfold F9 at hc
 generalize hoo:ZC ops k=o at hc
 obtain ⟨dst,op,type,pos,after,guard⟩:=o
 cases op<;>simp only at hc<;>try (cases hc)
 rename_i s d x
 split at hc
 ·rename_i q1 q2 q3 z2 h1 h2 h3
  cases hc
  intro n w G ac hF hh
  have v1:=hF.ev x
  rw [h3] at v1
  have v1:=v1.val_inv
  refine ⟨_,.val,fun w' _ _=>?_⟩
  simp only [execOp,v1]
  refine WX ?_
  simp [convert,Vo h1,Vo h2,Conv.intToInt,e]
 ·cases hc
theorem Hn {z:Int} (h:0<=z/\z<=9223372036854775807):IntKind.i64.wrap z=z:=IntWalk.i64_in _ om
theorem Bu (z:Int) (hz:0<=z/\z<=255) (hc:F9 P ops F k=some (.i64,z):=by kernel_rfl):XA P (ZC ops k) F h [] (.i z):=kCv .i64 z z (Hn om) hc
def JG (ops:Array Oper) (F:Fr) (k:Nat) (b:BinOp):Option (Int × Int):=
 match (ZC ops k).op with
 | .binOp c _ x y _=>if c==b then match F.ev x,F.ev y with
  | .val (.int .i64 z),.val (.int .i64 u)=>some (z,u)
  | _,_=>none else none
 | _=>none
theorem Gc (a b:Int) (hb:0<b) (ha:0<=a/\a<=9223372036854775807) (hc:JG ops F k .quo=some (a,b):=by kernel_rfl):XA P (ZC ops k) F h [] (.i (a / b)):=by
 unfold JG at hc
 generalize hoo:ZC ops k=o at hc
 obtain ⟨dst,op,type,pos,after,guard⟩:=o
 cases op<;>simp only at hc<;>try (cases hc)
 rename_i bop t x y yt
 cases bop<;>simp only [Zh,reduceCtorEq,if_false,if_true] at hc<;>try (cases hc)
 split at hc
 ·rename_i z yk h1 h2
  cases hc
  intro n' w G ac hF hh
  have v1:=hF.ev x
  have v2:=hF.ev y
  rw [h1] at v1
  rw [h2] at v2
  have v1:=v1.val_inv
  have v2:=v2.val_inv
  refine ⟨_,.val,fun w' _ _=>?_⟩
  simp only [execOp,v1,v2]
  refine WX ?_
  have e1:a.tdiv b=a / b:=Int.tdiv_eq_ediv_of_nonneg ha.1
  have e2:IntKind.i64.wrap (a / b)=a / b:=Hn ⟨Int.ediv_nonneg ha.1 om,Int.le_trans (Int.ediv_le_self b ha.1) ha.2⟩
  have e3:b≠0:=by omega
  simp [eqGuard,binOp,Op.intDiv,e1,e2,e3]
 ·cases hc
theorem Cl (a b:Int) (hb:0<b) (ha:0<=a) (hc:JG ops F k .rem=some (a,b):=by kernel_rfl):XA P (ZC ops k) F h [] (.i (a % b)):=by
 unfold JG at hc
 generalize hoo:ZC ops k=o at hc
 obtain ⟨dst,op,type,pos,after,guard⟩:=o
 cases op<;>simp only at hc<;>try (cases hc)
 rename_i bop t x y yt
 cases bop<;>simp only [Zh,reduceCtorEq,if_false,if_true] at hc<;>try (cases hc)
 split at hc
 ·rename_i z yk h1 h2
  cases hc
  intro n' w G ac hF hh
  have v1:=hF.ev x
  have v2:=hF.ev y
  rw [h1] at v1
  rw [h2] at v2
  have v1:=v1.val_inv
  have v2:=v2.val_inv
  refine ⟨_,.val,fun w' _ _=>?_⟩
  simp only [execOp,v1,v2]
  refine WX ?_
  have e1:a.tmod b=a % b:=Int.tmod_eq_emod_of_nonneg ha
  have e3:b≠0:=by omega
  simp [eqGuard,binOp,Op.intDiv,e1,e3]
 ·cases hc
theorem AJ (a b:Nat) (hb:0<b) (ha:a<=9223372036854775807) (hc:JG ops F k .quo=some ((a:Int),(b:Int)):=by kernel_rfl):XA P (ZC ops k) F h [] (.i (a / b:Nat)):=by
 rw [Int.natCast_ediv];exact Gc a b om om hc
theorem DO (a b:Nat) (hb:0<b) (_ha:a<=9223372036854775807) (hc:JG ops F k .rem=some ((a:Int),(b:Int)):=by kernel_rfl):XA P (ZC ops k) F h [] (.i (a % b:Nat)):=by
 rw [Int.natCast_emod];exact Cl a b om om hc
def TH (a b:Int):Int:=IntKind.i64.wrap ((BitVec.ofInt 64 a ^^^ BitVec.ofInt 64 b).toNat:Int)
theorem Ez {a b:Int} (ha:0<=a/\a<4611686018427387904) (hb:0<=b/\b<4611686018427387904):0<=TH a b/\TH a b<4611686018427387904:=by
 obtain ⟨x,rfl⟩:=Int.eq_ofNat_of_zero_le ha.1
 obtain ⟨y,rfl⟩:=Int.eq_ofNat_of_zero_le hb.1
 have h1:(BitVec.ofInt 64 (x:Int) ^^^ BitVec.ofInt 64 (y:Int)).toNat=x ^^^ y:=by
  rw [BitVec.toNat_xor,BitVec.toNat_ofInt,BitVec.toNat_ofInt]
  have e1:((x:Int) % ((2 ^ 64:Nat):Int)).toNat=x:=by omega
  have e2:((y:Int) % ((2 ^ 64:Nat):Int)).toNat=y:=by omega
  rw [e1,e2]
 have h2:x ^^^ y<2 ^ 62:=Nat.xor_lt_two_pow om om
 rw [TH,h1,Hn om]
 omega
theorem Ls (a b:Int) (hc:JG ops F k .xor=some (a,b):=by kernel_rfl):XA P (ZC ops k) F h [] (.i (TH a b)):=by
 unfold JG at hc
 generalize hoo:ZC ops k=o at hc
 obtain ⟨dst,op,type,pos,after,guard⟩:=o
 cases op<;>simp only at hc<;>try (cases hc)
 rename_i bop t x y yt
 cases bop<;>simp only [Zh,reduceCtorEq,if_false,if_true] at hc<;>try (cases hc)
 split at hc
 ·rename_i z yk h1 h2
  cases hc
  intro n' w G ac hF hh
  have v1:=hF.ev x
  have v2:=hF.ev y
  rw [h1] at v1
  rw [h2] at v2
  have v1:=v1.val_inv
  have v2:=v2.val_inv
  refine ⟨_,.val,fun w' _ _=>?_⟩
  simp only [execOp,v1,v2]
  refine WX ?_
  simp [eqGuard,binOp,Op.intBits,IntKind.bits]
  exact Yv (fun z:Nat=>IntKind.i64.wrap (z:Int)) (by rw [BitVec.toNat_xor,BitVec.toNat_ofInt,BitVec.toNat_ofInt];rfl)
 ·cases hc
end
end Go.Abs
section
namespace Go.Abs
inductive Z2 where
 | mk (op num:Int) (kids:List Z2)
namespace Z2
def op:Z2->Int|.mk a _ _=>a
def num:Z2->Int|.mk _ a _=>a
def kids:Z2->List Z2|.mk _ _ a=>a
end Z2
structure Func where
 params:List Int
 result:Int
 body:Z2
structure XT where
 decls:List Zf
 funcs:List Func
instance:Inhabited Z2:=⟨.mk 0 0 []⟩
mutual
def Fs:Z2->AV
 | .mk op num kids=>.agg [.i op,.i num,.sl (Yp kids) none]
def Yp:List Z2->List AV
 | []=>[]
 | e::r=>Fs e::Yp r
end
abbrev ZF (e:Z2):AV:=.agg [.i e.op,.i e.num,.sl (Yp e.kids) none]
abbrev Yy (e:Z2):List AV:=[.i e.op,.i e.num,.sl (Yp e.kids) none]
abbrev X3 (xs:List Z2):AV:=.sl (Yp xs) none
abbrev XQ (xs:List Z2) (v:Value):AV:=.sl (Yp xs) (some v)
abbrev KS (f:Func):AV:=.agg [Z0 f.params,.i f.result,.i f.body.op,.i f.body.num,X3 f.body.kids]
abbrev Cm (f:Func):List AV:=[Z0 f.params,.i f.result,.i f.body.op,.i f.body.num,X3 f.body.kids]
def Xc (xs:List Func):List AV:=xs.map KS
abbrev By (xs:List Func):AV:=.sl (Xc xs) none
abbrev Jk (xs:List Func) (v:Value):AV:=.sl (Xc xs) (some v)
abbrev Tf (p:XT):AV:=.agg [Zd p.decls,By p.funcs]
abbrev Jh (p:XT):List AV:=[Zd p.decls,By p.funcs]
abbrev EO (z:Int):AV:=.val (.int .u8 z)
def T1 (xs:List Int):List AV:=xs.map EO
abbrev X9 (xs:List Int):AV:=.sl (T1 xs) none
theorem PT (e:Z2):Fs e=ZF e:=by cases e;rw [Fs];rfl
theorem XE:∀xs:List Z2,Yp xs=xs.map ZF
 | []=>by rw [Yp];rfl
 | s::ss=>by rw [Yp,XE ss,PT];rfl
theorem Bf {xs:List Z2} {j:Nat} {x:Z2} (h:xs[j]? = some x):(Yp xs)[j]? = some (ZF x):=by simp [XE,h]
theorem Dh {xs:List Func} {j:Nat} {x:Func} (h:xs[j]? = some x):(Xc xs)[j]? = some (KS x):=by simp [Xc,h]
theorem Bb {xs:List Int} {j:Nat} {x:Int} (h:xs[j]? = some x):(T1 xs)[j]? = some (EO x):=by simp [T1,h]
@[simp] theorem Ft (xs:List Z2):(Yp xs).length=xs.length:=by simp [XE]
@[simp] theorem Bg (xs:List Func):(Xc xs).length=xs.length:=by simp [Xc]
@[simp] theorem Qw (xs:List Int):(T1 xs).length=xs.length:=by simp [T1]
theorem Ko (xs ys:List Z2):Yp (xs++ys)=Yp xs++Yp ys:=by simp [XE]
theorem PU (xs ys:List Func):Xc (xs++ys)=Xc xs++Xc ys:=by simp [Xc]
theorem Fm (xs:List Int) (n:Nat):(T1 xs).take n=T1 (xs.take n):=by simp [T1]
theorem Fl (xs:List Int) (n:Nat):(T1 xs).drop n=T1 (xs.drop n):=by simp [T1]
theorem Un (xs:List Z2):∀y∈Yp xs,y.leaves.length=3:=by intro y hy;simp only [XE,W3] at hy;obtain ⟨x,_,rfl⟩:=hy;rfl
theorem Di (xs:List Func):∀y∈Xc xs,y.leaves.length=5:=by intro y hy;simp only [Xc,W3] at hy;obtain ⟨x,_,rfl⟩:=hy;rfl
theorem PP (xs:List Int):∀y∈T1 xs,y.leaves.length=1:=by intro y hy;simp only [T1,W3] at hy;obtain ⟨x,_,rfl⟩:=hy;rfl
theorem Kq (xs:List Z2):(Zl (Yp xs)).all AV.one=true:=Ku fun y hy=>by simp only [XE,W3] at hy;obtain ⟨x,_,rfl⟩:=hy;rfl
end Go.Abs
end
section
namespace Go.Abs
open Go.Proofs Go.Proofs.YthllacimcjakdaaGreat
section
variable {H:Type} {enc:TypeId × Value->H} {w:World}
def GA (w:World):Y9:=fun b _=>b<w.heap.size
abbrev Tr (enc:TypeId × Value->H) (w:World) (n:Nat) (t:TypeId) (cs:List Value) (x:DataW H × List MemPlace):Prop:=DataW.trod enc Tryz.prog w 0 (fun _=>true) true n t cs=some x
theorem LS {w:World} {a:Addr} {v:Value} (h:w.cell? a=some v):a.block<w.heap.size/\a.spot=none:=by
 unfold World.cell? at h
 split at h
 ·rename_i c e fr hb
  split at h
  ·cases h
  ·rename_i hs
   exact ⟨(U1.1 hb).1,by simpa using hs⟩
 ·cases h
theorem HT {α:Type} {c:α->Nat}:∀{xs:List α} {ds:List (DataW H)},xs.length=ds.length->(∀(i:Nat) a d,xs[i]? = some a->ds[i]? = some d->c a+1<=Rows.uptoBulk d)->(xs.map fun a=>c a+1).sum<=Rows.uptoBulkAll ds
 | [],[],_,_=>X7 _
 | a::r,d::ds,hl,h=>by
  have h0:=h 0 a d rfl rfl
  have h1:=HT (c:=c) (xs:=r) (ds:=ds) (by simpa using hl) fun i a d ha hd=>h (i+1) a d (by simpa using ha) (by simpa using hd)
  rw [Uh,List.sum_cons,Rows.uptoBulkAll]
  omega
theorem Mz {α:Type} {f:α->AV} {G:Y9} {k b:Nat} (hf:∀x,(f x).leaves.length=k):∀{xs:List α} {o:Nat},(∀(i:Nat) a,xs[i]? = some a->Wc w G b (o+i*k) (f a).leaves)->WR w G k b o (xs.map f)
 | [],_,_=>.nil
 | x::r,o,h=>by
  refine .cons (hf x) (by have:=h 0 x rfl;simpa using this) (Mz hf fun i a ha=>?_)
  have:=h (i+1) a (by simpa using ha)
  rw [show o+(i+1)*k=o+k+i*k by rw [Tt];omega] at this
  exact this
theorem Z35 {α:Type} [Inhabited α] {t e k:Nat} (ht:Tryz.prog.underlying t=some (.slice e)) (hk:Tryz.prog.cellsOf e=k) (h0:0<k) (f:α->AV) (hf:∀x,(f x).leaves.length=k) (c:α->Nat) (Q:α->Prop) {n:Nat} {cs:List Value} {x:DataW H × List MemPlace}
  (h:Tr enc w n t cs x) (el:∀m cs y,m<n->Tr enc w m e cs y->∃a:α,YP w (GA w) (f a).leaves cs/\c a+1<=Rows.uptoBulk y.1/\Q a) :
  ∃(v:Value) (xs:List α),cs=[v]/\RV w (GA w) (.sl (xs.map f) none) v/\(xs.map fun a=>c a+1).sum+1<=Rows.uptoBulk x.1/\∀a∈xs,Q a:=by
 rcases DataW.trod_slice ht h with ⟨rfl,rfl⟩|⟨a,len,cap,elems,rest,m,rfl,rfl,rfl,_,hlc,_,hlen,hel,_,_⟩
 ·exact ⟨_,[],rfl,.nil (by simp),by simp [Rows.uptoBulk],by simp⟩
 ·rw [hk] at hel
  have hone:∀i,i<len->∃z:α,∃cs' y,w.cells? 0 (a.add (i*k)) k=some cs'/\elems[i]? = some y/\YP w (GA w) (f z).leaves cs'/\c z+1<=Rows.uptoBulk y.1/\Q z:=by
   intro i hi
   have h1:=hel i hi
   rw [Af om] at h1
   obtain ⟨cs',h2,h3⟩:=Option.bind_eq_some_iff.1 h1
   obtain ⟨z,hz1,hz2,hz3⟩:=el m cs' _ om h3
   exact ⟨z,cs',_,h2,Af om,hz1,hz2,hz3⟩
  obtain ⟨V,hV⟩:=Go.Deep.choose_lt hone
  refine ⟨_,(List.range len).map V,rfl,?_,?_,?_⟩
  ·cases hl0:len with
   | zero=>exact .nil (by simp)
   | succ q=>
    have hsp:a.spot=none:=by
     obtain ⟨cs',y,g1,_⟩:=hV 0 om
     obtain ⟨_,g2,g3⟩:=World.cells?_some g1
     have g4:=g3 0 h0
     rw [Af om] at g4
     have g5:=(LS g4).2
     simpa [Addr.add] using g5
    obtain ⟨b,o,sp⟩:=a
    simp only at hsp
    subst hsp
    rw [<-hl0]
    have hll:(((List.range len).map V).map f).length=len:=by simp
    have:=RV.sl (w:=w) (G:=GA w) (es:=((List.range len).map V).map f) (hv:=none) (b:=b) (o:=o) (k:=k) (cap:=cap) (by simp) (by rw [hll];exact hlc) (Mz hf fun i z hz=>by
     have hi:i<len:=by have:=(XM.1 hz).1;simpa using this
     have hz':V i=z:=by simpa [hi] using hz
     obtain ⟨cs',y,g1,_,g2,_⟩:=hV i hi
     rw [hz'] at g2
     obtain ⟨_,g3,g4⟩:=World.cells?_some g1
     refine Wc.of_cells g2 fun j u hj=>?_
     have hjl:j<k:=by have:=(XM.1 hj).1;omega
     have g5:=(g4 j hjl).trans hj
     rw [Addr.add_lit,Addr.add_lit] at g5
     exact ⟨g5,(LS g5).1⟩)
    rw [hll] at this
    exact this
  ·have:=HT (c:=c) (xs:=(List.range len).map V) (ds:=elems.map (·.1)) (by simp [hlen]) fun i z d hz hd=>by
    have hi:i<len:=by have:=(XM.1 hz).1;simpa using this
    have hz':V i=z:=by simpa [hi] using hz
    obtain ⟨cs',y,_,g1,_,g2,_⟩:=hV i hi
    rw [QU,g1] at hd
    simp only [Aj,XW] at hd
    rw [<-hd,<-hz']
    exact g2
   simp only [Rows.uptoBulk]
   omega
  ·intro z hz
   obtain ⟨i,hi,rfl⟩:=W3.1 hz
   obtain ⟨_,_,_,_,_,_,g⟩:=hV i (List.mem_range.1 hi)
   exact g
theorem Z33 {n:Nat} {cs:List Value} {x:DataW H × List MemPlace} (h:Tr enc w n 5 cs x):∃z:Int,cs=[.int .u8 z]/\Rows.uptoBulk x.1=1/\0<=z/\z<=255:=by
 obtain ⟨z,rfl,rfl,hw⟩:=DataW.trod_int Tryz.underlying5 h
 refine ⟨z,rfl,rfl,?_⟩
 simpa [Lit.wf,IntKind.min,IntKind.max,IntKind.signed,IntKind.bits] using hw
theorem Z34 {n:Nat} {cs:List Value} {x:DataW H × List MemPlace} (h:Tr enc w n 22 cs x):∃(v:Value) (xs:List Int),cs=[v]/\RV w (GA w) (X9 xs) v/\∀z∈xs,0<=z/\z<=255:=by
 obtain ⟨v,xs,h1,h2,h3,h4⟩:=Z35 Tryz.underlying22 (k:=1) kr om (fun z:Int=>EO z) (fun _=>rfl) (fun _=>0) (fun z=>0<=z/\z<=255) h fun m cs y _ hy=>by
  obtain ⟨z,rfl,hb,hz⟩:=Z33 hy
  exact ⟨z,.cons .val .nil,Nat.le_of_eq hb.symm,hz⟩
 exact ⟨v,xs,h1,h2,h4⟩
end
end Go.Abs
end
namespace Go.Abs
structure Sg where
 params:List Int
 result:Int
abbrev Ht (f:Sg):AV:=.agg [.sl (Z8 f.params) none,.i f.result,.i 0,.i 0,.sl [] none]
def Wo (fs:List Sg):List AV:=fs.map Ht
theorem Fv {xs:List Sg} {j:Nat} {x:Sg} (h:xs[j]? = some x):(Wo xs)[j]? = some (Ht x):=by simp [Wo,h]
@[simp] theorem Ig (xs:List Sg):(Wo xs).length=xs.length:=by simp [Wo]
theorem If (xs:List Sg):∀y∈Wo xs,y.leaves.length=5:=by intro y hy;simp only [Wo,W3] at hy;obtain ⟨x,_,rfl⟩:=hy;rfl
theorem R0 (xs:List Sg):(Zl (Wo xs)).all AV.one=true:=Ku fun y hy=>by simp only [Wo,W3] at hy;obtain ⟨x,_,rfl⟩:=hy;rfl
mutual
def Z4.sz:Z4->Nat
 | .mk _ _ _ args kids=>1+args.length+YY kids
def Z7.sz:Z7->Nat
 | .mk steps _=>1+Yu steps
def Yu:List Z4->Nat
 | []=>0
 | s::r=>s.sz+Yu r
def YY:List Z7->Nat
 | []=>0
 | b::r=>b.sz+YY r
end
theorem Z4.sz_pos (s:Z4):1<=s.sz:=by cases s;rw [Z4.sz];omega
theorem Z7.sz_pos (b:Z7):1<=b.sz:=by cases b;rw [Z7.sz];omega
theorem K8 (l:List Z4):l.length<=Yu l:=by
 induction l with
 | nil=>simp
 | cons s r ih=>have:=s.sz_pos;simp only [YS,Yu];omega
theorem HQ (l:List Z7):l.length<=YY l:=by
 induction l with
 | nil=>simp
 | cons s r ih=>have:=s.sz_pos;simp only [YS,YY];omega
theorem Z5s {l:List Z4} {k:Nat} {s:Z4} (h:l[k]? = some s):s.sz<=Yu l:=by
 induction l generalizing k with
 | nil=>simp at h
 | cons t r ih=>
  cases k with
  | zero=>simp at h;subst h;simp only [Yu];omega
  | succ k=>have:=ih (k:=k) (by simpa using h);simp only [Yu];omega
theorem OL {l:List Z7} {k:Nat} {s:Z7} (h:l[k]? = some s):s.sz<=YY l:=by
 induction l generalizing k with
 | nil=>simp at h
 | cons t r ih=>
  cases k with
  | zero=>simp at h;subst h;simp only [YY];omega
  | succ k=>have:=ih (k:=k) (by simpa using h);simp only [YY];omega
theorem Z4.sz_eq (s:Z4):s.sz=1+s.args.length+YY s.kids:=by cases s;rw [Z4.sz];rfl
theorem Z7.sz_eq (b:Z7):b.sz=1+Yu b.steps:=by cases b;rw [Z7.sz];rfl
theorem KJ {b:Z7} {k:Nat} {s:Z4} (h:b.steps[k]? = some s):s.sz<b.sz:=by have:=Z5s h;have:=b.sz_eq;omega
theorem T7 {s:Z4} {k:Nat} {b:Z7} (h:s.kids[k]? = some b):b.sz<s.sz:=by have:=OL h;have:=s.sz_eq;omega
theorem Q7 (s:Z4):s.args.length<s.sz:=by have:=s.sz_eq;omega
theorem T8 (s:Z4):s.kids.length<s.sz:=by have:=s.sz_eq;have:=HQ s.kids;omega
theorem Vx (b:Z7):b.steps.length<b.sz:=by have:=b.sz_eq;have:=K8 b.steps;omega
structure KR (ds:List Zf):Prop where
 len:ds.length<=4194304
 cons:∀d∈ds,d.cons.length<=4194304
 fields:∀d∈ds,∀c∈d.cons,c.fields.length<=4194304
theorem KR.cons_at {ds:List Zf} (h:KR ds) {k:Nat} {d:Zf} (hd:ds[k]? = some d):d.cons.length<=4194304:=h.cons d (Y7 hd)
def QX (m:Nat) (c:Y5):Bool:=decide (c.fields.length<=3)&&Xi m c.fields
def TP (d:Zf):List Zf->Bool
 | []=>false
 | e::r=>if e.cons.length=0/\e.frm=d.frm/\e.to_=d.to_ then true else TP d r
def UO (m:Nat):List Y5->Bool
 | []=>true
 | c::r=>if QX m c=true then UO m r else false
def VW (ds:List Zf) (d:Zf) (i:Nat):Bool:=
 if 0<d.cons.length then (if d.cons.length<=3/\d.frm=0/\d.to_=0 then UO ds.length d.cons else false)
 else if TP d (ds.take i)=true then false else decide (0<=d.frm/\d.frm<=ds.length)&&decide (0<=d.to_/\d.to_<=ds.length)
def JK (ds:List Zf) (i:Nat):Bool:=(ds[i]?.map fun d=>VW ds d i).getD false
theorem BY {ds:List Zf} {i:Nat} {d:Zf} (h:ds[i]? = some d):JK ds i=VW ds d i:=by rw [JK,h];rfl
def Ul (ds:List Zf):List Zf->Nat->Bool
 | [],_=>true
 | _::r,i=>if JK ds i=true then Ul ds r (i+1) else false
def Wf (ds:List Zf):Bool:=decide (ds.length<=4)&&Ul ds ds 0
theorem I3 {m:Nat} {cs:List Y5}:UO m cs=true↔∀c∈cs,QX m c=true:=by
 induction cs with
 | nil=>simp [UO]
 | cons c r ih=>
  rw [UO]
  split
  ·rename_i h;simp [ih,h]
  ·rename_i h;simp [h]
theorem Ff {ds:List Zf}:∀{l:List Zf} {i:Nat},Ul ds l i=true↔∀j<l.length,JK ds (i+j)=true
 | [],i=>by simp [Ul]
 | d::r,i=>by
  rw [Ul]
  split
  ·rename_i h
   rw [Ff (l:=r)]
   constructor
   ·intro hq j hj
    cases j with
    | zero=>exact h
    | succ j=>have:=hq j (by simpa using hj);rwa [show i+(j+1)=i+1+j by omega]
   ·intro hq j hj
    have:=hq (j+1) (by simpa using hj)
    rwa [show i+(j+1)=i+1+j by omega] at this
  ·rename_i h
   simp only [Bool.false_eq_true,false_iff]
   intro hq
   exact h (hq 0 (by simp))
theorem Z72 {ds:List Zf} (h:Wf ds=true):Wm ds:=by
 simp only [Wf,XL,decide_eq_true_eq] at h
 obtain ⟨h1,h2⟩:=h
 rw [Ff] at h2
 have key:∀d∈ds,∃i,VW ds d i=true:=fun d hd=>by
  obtain ⟨i,hi⟩:=List.mem_iff_getElem?.1 hd
  have:=h2 i (XM.1 hi).1
  rw [WQ,BY hi] at this
  exact ⟨i,this⟩
 have hc:∀d∈ds,0<d.cons.length->d.cons.length<=3/\UO ds.length d.cons=true:=fun d hd hp=>by
  obtain ⟨i,hi⟩:=key d hd
  rw [VW,Zm hp] at hi
  split at hi
  ·rename_i h;exact ⟨h.1,hi⟩
  ·cases hi
 refine ⟨h1,fun d hd=>?_,fun d hd c hc'=>?_⟩
 ·by_cases hp:0<d.cons.length
  ·exact (hc d hd hp).1
  ·omega
 ·have:=I3.1 (hc d hd (List.length_pos_of_mem hc')).2 c hc'
  simp only [QX,XL,decide_eq_true_eq] at this
  exact this.1
def Qf (m:Nat) (f:Sg):Bool:=decide (f.params.length<=3)&&(Xi m f.params&&decide (0<=f.result/\f.result<=m))
def QM (m:Nat):List Sg->Bool
 | []=>true
 | f::r=>if Qf m f=true then QM m r else false
def Dq:List Sg->Bool
 | []=>false
 | f::_=>decide (f.params.length=0)&&decide (f.result=0)
theorem Iw {fs:List Sg} {x:Sg} (h:fs[0]? = some x):Dq fs=(decide (x.params.length=0)&&decide (x.result=0)):=by
 cases fs with
 | nil=>simp at h
 | cons f r=>simp at h;subst h;rfl
def Tq (ds:List Zf) (fs:List Sg):Bool:=
 Wf ds&&(decide (1<=fs.length/\fs.length<=4)&&(QM ds.length fs&&Dq fs))
def TV (ps:List Int):List Int->Option Int->Bool
 | [],_=>true
 | v::r,prev=>if (0<=v/\v<=(ps.length:Int)-1)/\ps[v.toNat]?≠some 0/\(∀p,prev=some p->p<v) then TV ps r (some v) else false
theorem DV {ps r:List Int} {v:Int} {prev:Option Int} (h:(0<=v/\v<=(ps.length:Int)-1)/\ps[v.toNat]?≠some 0/\(∀p,prev=some p->p<v)):TV ps (v::r) prev=TV ps r (some v):=by
 rw [TV,Zm h]
theorem Cr {ps r:List Int} {v:Int} {prev:Option Int} (h:¬((0<=v/\v<=(ps.length:Int)-1)/\ps[v.toNat]?≠some 0/\(∀p,prev=some p->p<v))):TV ps (v::r) prev=false:=by
 rw [TV,Zb h]
def Ql (ps ls:List Int):Bool:=TV ps ls none
def QF:List Yf->Bool
 | []=>true
 | r::rs=>if Ql r.params r.lent=true then QF rs else false
def Vk (r:Yf):Sg:=⟨r.params,r.result⟩
def XV (n:Zy):Bool:=decide (n.routines.length<=4)&&(Tq n.decls (n.routines.map Vk)&&QF n.routines)
end Go.Abs
section
namespace Go.Abs
def Xw {α:Type} (xs:List α) (i:Int):Option α:=if 0<=i/\i<=(xs.length:Int)-1 then xs[i.toNat]? else none
theorem Tw {α:Type} {xs:List α} {i:Int} {x:α} (h:0<=i/\i<=(xs.length:Int)-1) (hx:xs[i.toNat]? = some x):Xw xs i=some x:=by rw [Xw,Zm h,hx]
theorem Q9 {α:Type} {xs:List α} {i:Int} (h:¬(0<=i/\i<=(xs.length:Int)-1)):Xw xs i=none:=by rw [Xw,Zb h]
theorem JF {α:Type} {xs:List α} {i:Int} {x:α} (h:Xw xs i=some x):(0<=i/\i<=(xs.length:Int)-1)/\xs[i.toNat]? = some x:=by
 rw [Xw] at h
 split at h
 ·rename_i h1;exact ⟨h1,h⟩
 ·cases h
def UK (vars:List Int):List Int->List Int->Bool
 | [],[]=>true
 | a::as1,t::ts=>if Xw vars a=some t then UK vars as1 ts else false
 | _,_=>false
def XR (vars args types:List Int):Bool:=UK vars args types
theorem NN {vars:List Int}:∀{args types:List Int},args.length≠types.length->UK vars args types=false
 | [],[],h=>absurd rfl h
 | [],_::_,_=>rfl
 | _::_,[],_=>rfl
 | a::as1,t::ts,h=>by
  rw [UK]
  split
  ·exact NN (by simpa using h)
  ·rfl
theorem Z6t {vars args types:List Int} {k:Nat} {a t:Int} (ha:args[k]? = some a) (ht:types[k]? = some t) (h:Xw vars a=some t) :
  UK vars (args.drop k) (types.drop k)=UK vars (args.drop (k+1)) (types.drop (k+1)):=by
 rw [Yb ha,Yb ht,UK,Zm h]
theorem NM {vars args types:List Int} {k:Nat} {a t:Int} (ha:args[k]? = some a) (ht:types[k]? = some t) (h:Xw vars a≠some t) :
  UK vars (args.drop k) (types.drop k)=false:=by
 rw [Yb ha,Yb ht,UK,Zb h]
theorem Z6s {vars args types:List Int} {k:Nat} (ha:args.length<=k) (ht:types.length<=k):UK vars (args.drop k) (types.drop k)=true:=by
 rw [Xx ha,Xx ht];rfl
def WM (op:Int):Bool:=op==0||(op==6||(op==8||(op==9||op==10)))
def Xf (op:Int):Bool:=decide (0<=op/\op<=11)
def YF (op:Int):Bool:=decide (14<=op/\op<=17)
def VK (vars:List Int) (op into:Int):Bool:=
 if into=0 then true else if op=6 then ((Xw vars (into-1)).map fun t=>decide (0<t)).getD false else false
def Qu (ds:List Zf) (ps:List Int) (res:Int):Int:=WT ds (ps.getLast?.getD 0) res
def QK (ds:List Zf) (vars:List Int) (op:Int) (args:List Int) (r:Yf):Int:=
 if op=9 then (if XR vars args r.params=true then r.result else -1)
 else if r.params.length=0∨0<r.lent.length∨¬XR vars args (r.params.take (r.params.length-1))=true then -1
 else Qu ds r.params r.result
def TB (n:Zy) (vars:List Int) (op num:Int) (args:List Int):Int:=
 match Xw n.routines num with
 | none=>-1
 | some r=>QK n.decls vars op args r
def Th (ds:List Zf) (vars:List Int) (op:Int) (args:List Int):Int:=
 match args with
 | [a]=>match Xw vars a with
  | some t=>if t=0 then -1 else if (op≠14/\op≠15)/\X5 ds t=true then -1 else 0
  | none=>-1
 | _=>-1
def TN (ds:List Zf) (vars:List Int) (args:List Int):Int:=
 match args with
 | [a,b]=>match Xw vars a with
  | some t=>if X5 ds t=true then
    (match ds[(t-1).toNat]? with
     | some d=>if XR vars [b] [d.frm]=true then d.to_ else -1
     | none=>-1) else -1
  | none=>-1
 | _=>-1
def X6 (ds:List Zf) (op num:Int):List (List Int):=if op=7 then [[],[]] else (Zu ds num).map (ZB ds)
mutual
def ZT (n:Zy) (vars:List Int):Z4->Int
 | .mk op num into args kids=>
  if (num≠0/\¬WM op=true)∨¬VK vars op into=true∨(0<kids.length/\op≠7/\op≠8) then -1
  else if op=0 then (if args.length=0/\(-999<=num/\num<=999) then 0 else -1)
  else if op=1∨op=2∨op=3∨op=4 then (if XR vars args [0,0]=true then 0 else -1)
  else if op=5 then (if XR vars args [0]=true then 0 else -1)
  else if op=6 then (if 0<Xt n.decls num/\XR vars args (ZB n.decls num)=true then Xt n.decls num else -1)
  else if op=7 then (if XR vars args [0]=true then (if (X6 n.decls op num).length=0∨kids.length≠(X6 n.decls op num).length then -1 else Wi n vars kids (X6 n.decls op num) true 0) else -1)
  else if op=8 then (if XR vars args [num]=true then (if (X6 n.decls op num).length=0∨kids.length≠(X6 n.decls op num).length then -1 else Wi n vars kids (X6 n.decls op num) true 0) else -1)
  else if op=9∨op=10 then TB n vars op num args
  else if op=11 then TN n.decls vars args
  else if op=14∨op=15∨op=16∨op=17 then Th n.decls vars op args
  else -1
def Wi (n:Zy) (vars:List Int):List Z7->List (List Int)->Bool->Int->Int
 | [],_,_,t=>t
 | b::bs,more,first,t=>
  match more with
  | []=>-1
  | m::ms=>if YR n (vars++m) b<0∨(first=false/\YR n (vars++m) b≠t) then -1 else Wi n vars bs ms false (YR n (vars++m) b)
def V7 (n:Zy):List Z4->List Int->Option (List Int)
 | [],vars=>some vars
 | s::r,vars=>if ZT n vars s<0 then none else V7 n r (if Xf s.op=true then vars++[ZT n vars s] else vars)
def YR (n:Zy) (vars:List Int):Z7->Int
 | .mk steps result=>match V7 n steps vars with
  | none=>-1
  | some vs=>(Xw vs result).getD (-1)
end
def Uc (n:Zy) (vars:List Int) (op num:Int) (kids:List Z7):Int:=
 if (X6 n.decls op num).length=0∨kids.length≠(X6 n.decls op num).length then -1 else Wi n vars kids (X6 n.decls op num) true 0
mutual
def JU:Z4->Int->Int
 | .mk _ _ _ _ kids,left=>To kids left
def W1:Z7->Int->Int
 | .mk steps _,left=>T9 steps left
def T9:List Z4->Int->Int
 | [],left=>left
 | s::r,left=>if left<1 then -1 else if JU s (left-1)<0 then -1 else T9 r (JU s (left-1))
def To:List Z7->Int->Int
 | [],left=>left
 | b::r,left=>if W1 b left<0 then -1 else To r (W1 b left)
end
def Vd (b:Z7):Int:=if W1 b 600<0 then -1 else 600-W1 b 600
def TZ (n:Zy):List Yf->Bool
 | []=>true
 | r::rs=>if ¬Vd r.body<0/\YR n r.params r.body=r.result then TZ n rs else false
def Xd (n:Zy):Bool:=XV n&&TZ n n.routines
theorem Gl:(∀(s:Z4) (l:Int),0<=l->JU s l<=l)/\(∀(b:Z7) (l:Int),0<=l->W1 b l<=l):=by
 have key:∀m:Nat,(∀s:Z4,s.sz<=m->∀l:Int,0<=l->JU s l<=l)/\(∀b:Z7,b.sz<=m->∀l:Int,0<=l->W1 b l<=l):=by
  intro m
  induction m with
  | zero=>exact ⟨fun s h=>by have:=s.sz_pos;omega,fun s h=>by have:=s.sz_pos;omega⟩
  | succ m ih=>
   refine ⟨fun s hs l hl=>?_,fun b hb l hl=>?_⟩
   ·cases s with
    | mk op num into args kids=>
     rw [JU]
     have hk:YY kids<=m:=by rw [Z4.sz] at hs;omega
     clear hs
     induction kids generalizing l with
     | nil=>rw [To];exact Int.le_refl _
     | cons b r ihr=>
      rw [YY] at hk
      have:=ih.2 b om l hl
      rw [To]
      split
      ·omega
      ·have:=ihr (W1 b l) om om;omega
   ·cases b with
    | mk steps res=>
     rw [W1]
     have hk:Yu steps<=m:=by rw [Z7.sz] at hb;omega
     clear hb
     induction steps generalizing l with
     | nil=>rw [T9];exact Int.le_refl _
     | cons s r ihr=>
      rw [Yu] at hk
      rw [T9]
      split
      ·omega
      ·have:=ih.1 s om (l-1) om
       split
       ·omega
       ·have:=ihr (JU s (l-1)) om om;omega
 exact ⟨fun s l hl=>(key s.sz).1 s (X7 _) l hl,fun b l hl=>(key b.sz).2 b (X7 _) l hl⟩
end Go.Abs
namespace Go.Abs
theorem Z5t {l:List Z4} {k:Nat} {s:Z4} (h:l[k]? = some s):k+s.sz<=Yu l:=by
 induction l generalizing k with
 | nil=>simp at h
 | cons t r ih=>
  cases k with
  | zero=>simp at h;subst h;simp only [Yu];omega
  | succ k=>have:=ih (k:=k) (by simpa using h);have:=t.sz_pos;simp only [Yu];omega
theorem AS {b:Z7} {k:Nat} {s:Z4} (h:b.steps[k]? = some s):k+s.sz<b.sz:=by have:=Z5t h;have:=b.sz_eq;omega
structure Xe (n:Zy):Prop where
 decls:Wm n.decls
 len:n.routines.length<=4
 params:∀r∈n.routines,r.params.length<=3
 lent:∀r∈n.routines,r.lent.length<=4194304
theorem Xe.params_at {n:Zy} (h:Xe n) {k:Nat} {r:Yf} (hr:n.routines[k]? = some r):r.params.length<=3:=h.params r (Y7 hr)
theorem Xe.lent_at {n:Zy} (h:Xe n) {k:Nat} {r:Yf} (hr:n.routines[k]? = some r):r.lent.length<=4194304:=h.lent r (Y7 hr)
theorem OF {ds:List Zf} {num:Int} {k:Nat} {x:Int} (h:(Zu ds num)[k]? = some x):(X6 ds 8 num)[k]? = some (ZB ds x):=by
 rw [X6,Zb om,QU,h];rfl
end Go.Abs
namespace Go.Abs
theorem Gr {ds:List Zf} (hd:Wm ds) (t:Int):(Zu ds t).length<=3:=by
 rw [Zu]
 split
 ·rename_i h
  obtain ⟨d,hd1⟩:=Zs (xs:=ds) (j:=(t-1).toNat) om
  rw [hd1,Z2c]
  exact hd.cons_at hd1
 ·simp
theorem VH {ds:List Zf} (hd:Wm ds) (c:Int):(ZB ds c).length<=3:=by
 by_cases h:Xt ds c<1
 ·rw [(Dd h).1];simp
 ·obtain ⟨k,d,x,h1,_,h3,_,h5⟩:=F8 h
  rw [h5];exact hd.fields_at h1 h3
theorem HD {ds:List Zf} (hd:Wm ds) {op num:Int} {k:Nat} {m:List Int} (h:(X6 ds op num)[k]? = some m):m.length<=3:=by
 have hm:=Y7 h
 rw [X6] at hm
 split at hm
 ·simp at hm;subst hm;simp
 ·obtain ⟨c,_,rfl⟩:=W3.1 hm;exact VH hd c
theorem Qt {α:Type} {xs:List α} {x:α} (h:xs.length=1) (hx:xs[0]? = some x):xs=[x]:=by
 cases xs with
 | nil=>simp at h
 | cons a r=>
  cases r with
  | nil=>simp at hx;rw [hx]
  | cons b r=>simp at h
theorem B9 {ds:List Zf} {us args:List Int} {op:Int} (h:args.length≠1):Th ds us op args=-1:=by
 cases args with
 | nil=>rfl
 | cons a r=>
  cases r with
  | nil=>simp at h
  | cons b r=>rfl
theorem Ba {ds:List Zf} {us args:List Int} {op a:Int} (h:args=[a]) (hi:¬(0<=a/\a<=(us.length:Int)-1)):Th ds us op args=-1:=by
 subst h;rw [Th];simp only [Q9 hi]
theorem B8 {ds:List Zf} {us args:List Int} {op a t:Int} (h:args=[a]) (hi:0<=a/\a<=(us.length:Int)-1) (ht:us[a.toNat]? = some t) :
  Th ds us op args=if t=0 then -1 else if (op≠14/\op≠15)/\X5 ds t=true then -1 else 0:=by
 subst h;rw [Th];simp only [Tw hi ht]
theorem Z3h {n:Zy} {us args:List Int} {op num:Int} {r:Yf} (hi:0<=num/\num<=(n.routines.length:Int)-1) (hr:n.routines[num.toNat]? = some r) :
  TB n us op num args=QK n.decls us op args r:=by
 rw [TB];simp only [Tw hi hr]
theorem Z3i {n:Zy} {us args:List Int} {op num:Int} (hi:¬(0<=num/\num<=(n.routines.length:Int)-1)):TB n us op num args=-1:=by
 rw [TB];simp only [Q9 hi]
theorem L6 {xs:List Int} {x:Int} (h:xs[xs.length-1]? = some x):xs.getLast?.getD 0=x:=by
 rw [List.getLast?_eq_getElem?,h];rfl
theorem LG {n:Zy} {us:List Int} {bs:List Z7} {ms:List (List Int)} {b:Z7} {m:List Int} {k:Nat} {t:Int} (hb:bs[k]? = some b) (hm:ms[k]? = some m)
  (h:¬(YR n (us++m) b<0∨(k:Int)>0/\YR n (us++m) b≠t)) :
  Wi n us (bs.drop k) (ms.drop k) (decide (k=0)) t=Wi n us (bs.drop (k+1)) (ms.drop (k+1)) (decide (k+1=0)) (YR n (us++m) b):=by
 rw [Yb hb,Yb hm,Wi,Zb]
 ·simp
 ·rintro (q|⟨q1,q2⟩)
  ·exact h (.inl q)
  ·exact h (.inr ⟨by simp at q1;omega,q2⟩)
theorem LE {n:Zy} {us:List Int} {bs:List Z7} {ms:List (List Int)} {b:Z7} {m:List Int} {k:Nat} {t:Int} (hb:bs[k]? = some b) (hm:ms[k]? = some m)
  (h:YR n (us++m) b<0∨(k:Int)>0/\YR n (us++m) b≠t) :
  Wi n us (bs.drop k) (ms.drop k) (decide (k=0)) t=-1:=by
 rw [Yb hb,Yb hm,Wi,Zm]
 rcases h with q|⟨q1,q2⟩
 ·exact .inl q
 ·exact .inr ⟨by simp;omega,q2⟩
theorem LF {n:Zy} {us:List Int} {bs:List Z7} {ms:List (List Int)} {k:Nat} {f:Bool} {t:Int} (hb:bs.length<=k):Wi n us (bs.drop k) (ms.drop k) f t=t:=by
 rw [Xx hb,Wi]
end Go.Abs
end
namespace Go.Abs
theorem AR (n:Zy) (us:List Int) (s:Z4):ZT n us s =
  if (s.num≠0/\¬WM s.op=true)∨¬VK us s.op s.into=true∨(0<s.kids.length/\s.op≠7/\s.op≠8) then -1
  else if s.op=0 then (if s.args.length=0/\(-999<=s.num/\s.num<=999) then 0 else -1)
  else if s.op=1∨s.op=2∨s.op=3∨s.op=4 then (if XR us s.args [0,0]=true then 0 else -1)
  else if s.op=5 then (if XR us s.args [0]=true then 0 else -1)
  else if s.op=6 then (if 0<Xt n.decls s.num/\XR us s.args (ZB n.decls s.num)=true then Xt n.decls s.num else -1)
  else if s.op=7 then (if XR us s.args [0]=true then Uc n us s.op s.num s.kids else -1)
  else if s.op=8 then (if XR us s.args [s.num]=true then Uc n us s.op s.num s.kids else -1)
  else if s.op=9∨s.op=10 then TB n us s.op s.num s.args
  else if s.op=11 then TN n.decls us s.args
  else if s.op=14∨s.op=15∨s.op=16∨s.op=17 then Th n.decls us s.op s.args
  else -1:=by
 cases s with
 | mk op num into args kids=>rw [ZT];rfl
theorem D4 (n:Zy) (us:List Int) (b:Z7):YR n us b=match V7 n b.steps us with
  | none=>-1
  | some vs=>(Xw vs b.result).getD (-1):=by
 cases b with
 | mk st r=>rw [YR];rfl
theorem HC {α:Type} {xs:List α} {x:α} (h:xs.length=2) (hx:xs[0]? = some x):∃y,xs=[x,y]:=by
 match xs,h with
 | [a,b],_=>simp at hx;subst hx;exact ⟨b,rfl⟩
theorem U3 {ds:List Zf} {us args:List Int} (h:args.length≠2):TN ds us args=-1:=by
 match args,h with
 | [],_=>rfl
 | [_],_=>rfl
 | [_,_],h=>simp at h
 | _::_::_::_,_=>rfl
theorem U4 {ds:List Zf} {us args:List Int} {a:Int} (hl:args.length=2) (h:args[0]? = some a) (hi:¬(0<=a/\a<=(us.length:Int)-1)):TN ds us args=-1:=by
 obtain ⟨y,rfl⟩:=HC hl h;rw [TN];simp only [Q9 hi]
theorem VV {ds:List Zf} {us args:List Int} {a t:Int} (hl:args.length=2) (h:args[0]? = some a) (hi:0<=a/\a<=(us.length:Int)-1) (ht:us[a.toNat]? = some t) :
  TN ds us args=if X5 ds t=true then
    (match ds[(t-1).toNat]? with
     | some d=>if XR us (args.drop 1) [d.frm]=true then d.to_ else -1
     | none=>-1) else -1:=by
 obtain ⟨y,rfl⟩:=HC hl h;rw [TN];simp only [Tw hi ht];rfl
theorem Oy {ds:List Zf} {us args:List Int} {a t:Int} {d:Zf} (hl:args.length=2) (h:args[0]? = some a) (hi:0<=a/\a<=(us.length:Int)-1) (ht:us[a.toNat]? = some t)
  (hA:X5 ds t=true) (hd:ds[(t-1).toNat]? = some d):TN ds us args=if XR us (args.drop 1) [d.frm]=true then d.to_ else -1:=by
 rw [VV hl h hi ht,Zm hA];simp only [hd]
theorem G6 {ds:List Zf} {t:Int} (h:X5 ds t=true):1<=t/\t<=ds.length:=by
 simp only [X5,XL,decide_eq_true_eq] at h;exact h.1
theorem LM (b:Z7) (l:Int):W1 b l=T9 b.steps l:=by cases b;rw [W1];rfl
theorem DU (s:Z4) (l:Int):JU s l=To s.kids l:=by cases s;rw [JU];rfl
structure Q5 (n:Zy):Prop where
 decls:KR n.decls
 len:n.routines.length<=4194304
 params:∀r∈n.routines,r.params.length<=4194304
 lent:∀r∈n.routines,r.lent.length<=4194304
 body:∀r∈n.routines,r.body.sz<=10000000
theorem Ej {m:Nat} {fs:List Sg} (h:QM m fs=true):∀f∈fs,Qf m f=true:=by
 induction fs with
 | nil=>simp
 | cons f r ih=>
  rw [QM] at h
  split at h
  ·rename_i h1
   intro g hg
   rcases YQ.1 hg with rfl|hg
   ·exact h1
   ·exact ih h g hg
  ·cases h
theorem DZ {n:Zy} (hz:Q5 n) (h:XV n=true):Xe n:=by
 simp only [XV,Tq,XL,decide_eq_true_eq] at h
 obtain ⟨h1,⟨h2,h3,h4,h5⟩,h6⟩:=h
 refine ⟨Z72 h2,h1,fun r hr=>?_,hz.lent⟩
 have:=Ej h4 (Vk r) (W3.2 ⟨r,hr,rfl⟩)
 simp only [Qf,XL,decide_eq_true_eq] at this
 exact this.1
def gI (xs:List Int) (i:Int):Int:=xs[i.toNat]?.getD 0
theorem UQ {xs:List Int} {i:Int} {x:Int} (h:xs[i.toNat]? = some x):gI xs i=x:=by rw [gI,h];rfl
structure ZJ where
 vars:List Int
 own:List Int
 par:List Int
 con:List Int
 fst:List Int
 tok:List Int
def ZJ.grow (L:ZJ) (t own par:Int):ZJ:=⟨L.vars++[t],L.own++[own],L.par++[par],L.con++[-1],L.fst++[-1],L.tok++[-1]⟩
def Te (L:ZJ) (v:Int):Option ZJ:=if gI L.own v<1 then none else some { L with own:=L.own.set v.toNat (gI L.own v-1) }
def TM (own par ln:List Int):Nat->Int->Bool
 | 0,_=>false
 | k+1,v=>if gI own v<1/\¬v∈ln then (if gI par v<0 then false else TM own par ln k (gI par v)) else true
def VB (L:ZJ) (ln:List Int) (v:Int):Bool:=TM L.own L.par ln (v.toNat+1) v
def Tv:List Int->Int->List Int->List Int
 | own,_,[]=>own
 | own,p,f::r=>Tv (if f≠0 then own.set p.toNat (gI own p+1) else own) (p+1) r
def Kz (ds:List Zf) (L:ZJ) (op x:Int):Option ZJ:=
 if gI L.con x<0∨(op=17/\0<=gI L.tok x) then none
 else match Te L x with
  | none=>none
  | some L1=>some { L1 with
    own:=Tv L1.own (gI L.fst x) (ZB ds (gI L.con x))
    tok:=if op=17 then L.tok.set x.toNat (ZB ds (gI L.con x)).length else L.tok }
def UZ (op:Int):Bool:=op==6||(op==9||(op==10||op==11))
def DW (n:Zy) (op num:Int):List Int:=if op=9 then ((n.routines[num.toNat]?).map (·.lent)).getD [] else []
def WK (n:Zy) (op num:Int) (i:Nat):Bool:=decide ((i:Int)∈DW n op num)
def UN (n:Zy) (vars:List Int) (op num a:Int) (i:Nat):Bool:=UZ op&&(gI vars a != 0&&!WK n op num i)
def Qd (n:Zy) (op num:Int):List Int->Nat->ZJ->Option ZJ
 | [],_,L=>some L
 | a::r,i,L=>if UN n L.vars op num a i=true then (match Te L a with
   | none=>none
   | some L1=>Qd n op num r (i+1) L1) else Qd n op num r (i+1) L
def JQ (n:Zy) (op num:Int) (ln:List Int) (L:ZJ):List Int->Nat->Bool
 | [],_=>true
 | a::r,i=>if WK n op num i=true/\¬VB L ln a=true then false else JQ n op num ln L r (i+1)
def Cb (L:ZJ) (into:Int) (m:Nat):Option ZJ:=
 if 0<into then (if gI L.tok (into-1)≠m then none else some { L with tok:=L.tok.set (into-1).toNat (-1) }) else some L
def K0 (n:Zy) (ln:List Int) (L:ZJ) (op num into:Int) (args:List Int):Option ZJ:=
 match Qd n op num args 0 L with
 | none=>none
 | some L1=>if JQ n op num ln L1 args 0=true then Cb L1 into args.length else none
def Ad:List Int->List Int->Bool
 | o::os,t::ts=>if o≠0∨0<=t then false else Ad os ts
 | _,_=>true
def ZJ.take (L:ZJ) (m:Nat):ZJ:=⟨L.vars.take m,L.own.take m,L.par.take m,L.con.take m,L.fst.take m,L.tok.take m⟩
def Km (L:ZJ) (m:Nat):Option ZJ:=if Ad (L.own.drop m) (L.tok.drop m)=true then some (L.take m) else none
def AC (L:ZJ) (par:Int):List Int->ZJ
 | []=>L
 | t::r=>AC (L.grow t 0 par) par r
def Aq (ds:List Zf) (L:ZJ) (x c:Int):ZJ:=
 AC { L with con:=L.con.set x.toNat c,fst:=L.fst.set x.toNat L.vars.length } x (ZB ds c)
def US (ds:List Zf) (L:ZJ) (op num:Int) (args:List Int) (i:Nat):ZJ:=
 if op=8 then Aq ds L (gI args 0) (gI (Zu ds num) i) else L
def Jm (lent:List Int):List Int->Nat->ZJ->ZJ
 | [],_,L=>L
 | t::r,i,L=>Jm lent r (i+1) (L.grow t (if t≠0/\¬(i:Int)∈lent then 1 else 0) (-1))
def QH (r:Yf):ZJ:=Jm r.lent r.params 0 ⟨[],[],[],[],[],[]⟩
def Av (L:ZJ) (ln:List Int) (v:Int):Option ZJ:=if VB L ln v=true then some { L with own:=L.own.set v.toNat (gI L.own v+1) } else none
def K6 (n:Zy) (ln:List Int) (L:ZJ) (op num into:Int) (args:List Int) (ch:Option ZJ):Option ZJ:=
 if op=14 then Av L ln (gI args 0)
 else if op=15 then Te L (gI args 0)
 else if op=16∨op=17 then Kz n.decls L op (gI args 0)
 else if op=7∨op=8 then (if op=8/\¬VB L ln (gI args 0)=true then none else ch)
 else K0 n ln L op num into args
def Kt (L:ZJ) (op t:Int) (r:Option ZJ):Option ZJ:=
 match r with
 | none=>none
 | some L1=>if Xf op=true then some (L1.grow t (if t≠0 then 1 else 0) (-1)) else some L1
def AK (L:ZJ) (first:Option ZJ) (rest:ZJ->Bool):Option ZJ:=
 match first with
 | none=>none
 | some one=>if rest one=true then some { L with own:=one.own,tok:=one.tok } else none
def Eg (one:ZJ) (two:Option ZJ) (rest:Bool):Bool:=
 match two with
 | none=>false
 | some two=>if one.own=two.own/\one.tok=two.tok then rest else false
def CM (r:Option ZJ) (f:ZJ->Option ZJ):Option ZJ:=match r with|none=>none|some L=>f L
def Ks (m:Nat) (res:Int) (L:ZJ):Option ZJ:=CM (if gI L.vars res≠0 then Te L res else some L) fun L2=>Km L2 m
mutual
def TE (n:Zy) (ln:List Int) (L:ZJ):Z4->Option ZJ
 | .mk op num into args kids=>Kt L op (ZT n L.vars (.mk op num into args kids)) (K6 n ln L op num into args (QD n ln L op num args kids))
def QD (n:Zy) (ln:List Int) (L:ZJ) (op num:Int) (args:List Int):List Z7->Option ZJ
 | []=>none
 | b::bs=>AK L (VC n ln (US n.decls L op num args 0) L.vars.length b) fun one=>K4 n ln L op num args one bs 1
def K4 (n:Zy) (ln:List Int) (L:ZJ) (op num:Int) (args:List Int) (one:ZJ):List Z7->Nat->Bool
 | [],_=>true
 | b::bs,i=>Eg one (VC n ln (US n.decls L op num args i) L.vars.length b) (K4 n ln L op num args one bs (i+1))
def Ka (n:Zy) (ln:List Int) (L:ZJ):List Z4->Option ZJ
 | []=>some L
 | s::r=>CM (TE n ln L s) fun L1=>Ka n ln L1 r
def VC (n:Zy) (ln:List Int) (L:ZJ) (m:Nat):Z7->Option ZJ
 | .mk steps result=>CM (Ka n ln L steps) (Ks m result)
end
theorem NA (n:Zy) (ln:List Int) (L:ZJ) (s:Z4):TE n ln L s=Kt L s.op (ZT n L.vars s) (K6 n ln L s.op s.num s.into s.args (QD n ln L s.op s.num s.args s.kids)):=by
 cases s with
 | mk op num into args kids=>rw [TE];rfl
theorem EY (n:Zy) (ln:List Int) (L:ZJ) (m:Nat) (b:Z7):VC n ln L m b=CM (Ka n ln L b.steps) (Ks m b.result):=by
 cases b with
 | mk st r=>rw [VC];rfl
structure Uz (L:ZJ):Prop where
 own:L.own.length=L.vars.length
 par:L.par.length=L.vars.length
 con:L.con.length=L.vars.length
 fst:L.fst.length=L.vars.length
 tok:L.tok.length=L.vars.length
structure Xz (ds:List Zf) (L:ZJ) (q:Int):Prop where
 len:Uz L
 down:∀j:Int,0<=j->j<L.vars.length->gI L.par j<j
 arm:∀x:Int,0<=x->x<L.vars.length->0<=gI L.con x->0<=gI L.fst x/\gI L.fst x+(ZB ds (gI L.con x)).length<=L.vars.length
 nn:∀x∈L.own,0<=x
 bd:∀x∈L.own,x<=q
end Go.Abs
section
namespace Go.Abs
end Go.Abs
namespace Go.Abs
theorem Z1u {n:Zy} {op num:Int} {r:Yf} (h:op=9) (hr:n.routines[num.toNat]? = some r):DW n op num=r.lent:=by
 rw [DW,Zm h,hr];rfl
end Go.Abs
namespace Go.Abs
theorem Oh {own par ln:List Int} {N:Int} (hd:∀j:Int,0<=j->j<N->gI par j<j):∀(k:Nat) (v:Int),0<=v->v<N->v.toNat+1<=k->TM own par ln k v=TM own par ln (v.toNat+1) v:=by
 intro k
 induction k using Nat.strongRecOn with
 | ind k ih=>
  intro v h0 hN hk
  cases k with
  | zero=>omega
  | succ k=>
   rw [TM,TM]
   split
   ·split
    ·rfl
    ·have hdv:=hd v h0 hN
     rw [ih k om (gI par v) om om om]
     rw [ih v.toNat om (gI par v) om om om]
   ·rfl
theorem Oj {own par ln:List Int} {N j x1 x2:Int} {r:Bool} (h1:gI own j=x1) (h2:gI par j=x2) (hj:0<=j/\j<N) (hx:x1<1/\¬j∈ln) (h0:¬x2<0) (hd:∀i:Int,0<=i->i<N->gI par i<i)
  (h:TM own par ln (j.toNat+1) j=r):TM own par ln (x2.toNat+1) x2=r:=by
 rw [TM,h1,h2,Zm hx,Zb h0] at h
 have hdv:=hd j hj.1 hj.2
 rw [<-h,Oh hd j.toNat x2 om om om]
theorem Oi {own par ln:List Int} {j x1 x2:Int} {r:Bool} (h1:gI own j=x1) (h2:gI par j=x2) (hx:x1<1/\¬j∈ln) (h0:x2<0) (h:TM own par ln (j.toNat+1) j=r):false=r:=by
 rw [TM,h1,h2,Zm hx,Zm h0] at h;exact h
theorem Ok {own par ln:List Int} {j x1:Int} {r:Bool} (h1:gI own j=x1) (hx:¬(x1<1/\¬j∈ln)) (h:TM own par ln (j.toNat+1) j=r):true=r:=by
 rw [TM,h1,Zb hx] at h;exact h
end Go.Abs
namespace Go.Abs
theorem Kb {L L':ZJ} {v:Int} (h:Te L v=some L'):1<=gI L.own v/\L'.vars=L.vars/\L'.par=L.par/\L'.con=L.con/\L'.fst=L.fst/\L'.tok=L.tok/\L'.own=L.own.set v.toNat (gI L.own v-1):=by
 rw [Te] at h
 split at h
 ·cases h
 ·cases h;exact ⟨by omega,rfl,rfl,rfl,rfl,rfl,rfl⟩
theorem FJ {xs:List Int} {v:Int} (h:gI xs v≠0):gI xs v∈xs:=by
 rw [gI] at h ⊢
 cases hx:xs[v.toNat]? with
 | none=>rw [hx] at h;exact absurd rfl h
 | some y=>exact Y7 hx
theorem Ky {xs:List Int} {i:Nat} {a x:Int} (h:x∈xs.set i a):x∈xs∨x=a:=List.mem_or_eq_of_mem_set h
theorem Xz.take {ds:List Zf} {L L':ZJ} {q v:Int} (hk:Xz ds L q) (h:Te L v=some L'):Xz ds L' q:=by
 obtain ⟨t1,t2,t3,t4,t5,t6,t7⟩:=Kb h
 obtain ⟨f1,f2,f3,f4,f5⟩:=hk.len
 have hm:=FJ (xs:=L.own) (v:=v) om
 refine ⟨⟨by rw [t7,t2,UV];exact f1,by rw [t3,t2];exact f2,by rw [t4,t2];exact f3,by rw [t5,t2];exact f4,by rw [t6,t2];exact f5⟩,?_,?_,?_,?_⟩
 ·rw [t2,t3];exact hk.down
 ·rw [t2,t4,t5];exact hk.arm
 ·rw [t7];intro x hx
  rcases Ky hx with hx|rfl
  ·exact hk.nn x hx
  ·omega
 ·rw [t7];intro x hx
  rcases Ky hx with hx|rfl
  ·exact hk.bd x hx
  ·have:=hk.bd _ hm;omega
end Go.Abs
end
namespace Go.Abs
theorem Hc {us:List Int}:∀{args tys:List Int},UK us args tys=true->args.length=tys.length/\∀a∈args,0<=a/\a<us.length
 | [],[],_=>⟨rfl,by simp⟩
 | [],_::_,h=>by cases h
 | _::_,[],h=>by cases h
 | a::as1,t::ts,h=>by
  rw [UK] at h
  split at h
  ·rename_i h1
   obtain ⟨q1,q2⟩:=Hc h
   refine ⟨by simp [q1],fun x hx=>?_⟩
   rcases YQ.1 hx with rfl|hx
   ·have:=(JF h1).1;omega
   ·exact q2 x hx
  ·cases h
theorem LD {n:Zy} {us:List Int}:∀{bs:List Z7} {ms:List (List Int)} {f:Bool} {t:Int},0<=t->0<=Wi n us bs ms f t ->
  ∀(i:Nat) (b:Z7) (m:List Int),bs[i]? = some b->ms[i]? = some m->0<=YR n (us++m) b
 | [],_,_,_,_,_,i,b,m,hb,_=>by simp at hb
 | b::bs,[],_,_,_,h,_,_,_,_,hm=>by simp at hm
 | b::bs,m::ms,f,t,ht,h,i,c,l,hc,hl=>by
  rw [Wi] at h
  split at h
  ·omega
  ·rename_i hq
   have h0:0<=YR n (us++m) b:=by
    rcases Int.lt_or_le (YR n (us++m) b) 0 with q|q
    ·exact absurd (.inl q) hq
    ·exact q
   cases i with
   | zero=>simp at hc hl;subst hc hl;exact h0
   | succ i=>exact LD h0 h i c l (by simpa using hc) (by simpa using hl)
structure Am (n:Zy) (us:List Int) (s:Z4):Prop where
 args:∀a∈s.args,0<=a/\a<us.length
 one:(s.op=7∨s.op=8∨(14<=s.op/\s.op<=17))->∃a,s.args=[a]
 num:s.op=9->0<=s.num/\s.num<n.routines.length
 into:s.into≠0->1<=s.into/\s.into<=us.length
 kids:(s.op=7∨s.op=8)->s.kids.length=(X6 n.decls s.op s.num).length/\(X6 n.decls s.op s.num).length≠0 /\
  ∀(i:Nat) (b:Z7) (m:List Int),s.kids[i]? = some b->(X6 n.decls s.op s.num)[i]? = some m->0<=YR n (us++m) b
theorem Z1e {n:Zy} {us:List Int} {op num:Int} {kids:List Z7} (h:0<=Uc n us op num kids) :
  kids.length=(X6 n.decls op num).length/\(X6 n.decls op num).length≠0/\∀(i:Nat) (b:Z7) (m:List Int),kids[i]? = some b->(X6 n.decls op num)[i]? = some m->0<=YR n (us++m) b:=by
 rw [Uc] at h
 split at h
 ·omega
 ·rename_i hq
  exact ⟨by omega,by omega,LD (Int.le_refl 0) h⟩
theorem LQ {xs:List Int} (h:xs.length=1):∃a,xs=[a]:=by
 match xs,h with
 | [a],_=>exact ⟨a,rfl⟩
theorem NC {n:Zy} {us:List Int} {s:Z4} (h:0<=ZT n us s):Am n us s:=by
 rw [AR] at h
 split at h
 ·omega
 rename_i h0
 have hinto:s.into≠0->1<=s.into/\s.into<=us.length:=by
  intro hi
  have hv:VK us s.op s.into=true:=by
   cases q:VK us s.op s.into with
   | true=>rfl
   | false=>exact absurd (.inr (.inl (by rw [q];simp))) h0
  rw [VK,Zb hi] at hv
  split at hv
  ·cases ha:Xw us (s.into-1) with
   | none=>rw [ha] at hv;cases hv
   | some t=>have:=(JF ha).1;omega
  ·cases hv
 have mk:(∀a∈s.args,0<=a/\a<us.length)->((s.op=7∨s.op=8∨(14<=s.op/\s.op<=17))->∃a,s.args=[a])->(s.op=9->0<=s.num/\s.num<n.routines.length) ->
   ((s.op=7∨s.op=8)->0<=Uc n us s.op s.num s.kids)->Am n us s:=fun a b c d=>⟨a,b,c,hinto,fun q=>Z1e (d q)⟩
 have ty:∀{tys},XR us s.args tys=true->s.args.length=tys.length/\∀a∈s.args,0<=a/\a<us.length:=fun q=>Hc q
 split at h
 ·rename_i h1
  split at h
  ·rename_i h2
   exact mk (by rw [List.eq_nil_of_length_eq_zero h2.1];simp) om om om
  ·omega
 split at h
 ·split at h
  ·rename_i h1 h2;exact mk (ty h2).2 om om om
  ·omega
 split at h
 ·split at h
  ·rename_i h1 h2;exact mk (ty h2).2 om om om
  ·omega
 split at h
 ·split at h
  ·rename_i h1 h2;exact mk (ty h2.2).2 om om om
  ·omega
 split at h
 ·split at h
  ·rename_i h1 h2;exact mk (ty h2).2 (fun _=>LQ (by simpa using (ty h2).1)) om (fun _=>h)
  ·omega
 split at h
 ·split at h
  ·rename_i h1 h2;exact mk (ty h2).2 (fun _=>LQ (by simpa using (ty h2).1)) om (fun _=>h)
  ·omega
 split at h
 ·rename_i hop
  rw [TB] at h
  cases hr:Xw n.routines s.num with
  | none=>rw [hr] at h;simp at h
  | some r=>
   rw [hr] at h
   simp only at h
   have hn:=(JF hr).1
   rw [QK] at h
   split at h
   ·split at h
    ·rename_i h2;exact mk (ty h2).2 om om om
    ·omega
   ·split at h
    ·omega
    ·rename_i h2
     have h3:XR us s.args (r.params.take (r.params.length-1))=true:=by
      cases q:XR us s.args (r.params.take (r.params.length-1)) with
      | true=>rfl
      | false=>exact absurd (.inr (.inr (by rw [q];simp))) h2
     exact mk (ty h3).2 om om om
 split at h
 ·rename_i hop
  rcases he:s.args with _|⟨a,_|⟨b,_|⟨c,r⟩⟩⟩
  ·rw [he,show TN n.decls us []=-1 from rfl] at h;omega
  ·rw [he,show TN n.decls us [a]=-1 from rfl] at h;omega
  ·rw [he,TN] at h
   cases ha:Xw us a with
   | none=>rw [ha] at h;simp at h
   | some t=>
    rw [ha] at h
    simp only at h
    split at h
    ·cases hd:n.decls[(t-1).toNat]? with
     | none=>rw [hd] at h;simp at h
     | some d=>
      rw [hd] at h
      simp only at h
      split at h
      ·rename_i h3
       have h4:=(Hc h3).2 b (by simp)
       have h5:=(JF ha).1
       refine mk (fun x hx=>?_) om om om
       rw [he] at hx
       rcases YQ.1 hx with rfl|hx
       ·omega
       ·rw [W4.1 hx];exact h4
      ·omega
    ·omega
  ·rw [he,show TN n.decls us (a::b::c::r)=-1 from rfl] at h;omega
 split at h
 ·rename_i hop
  rcases he:s.args with _|⟨a,_|⟨b,r⟩⟩
  ·rw [he,show Th n.decls us s.op []=-1 from rfl] at h;omega
  ·rw [he,Th] at h
   cases ha:Xw us a with
   | none=>rw [ha] at h;simp at h
   | some t=>
    have h5:=(JF ha).1
    refine mk (fun x hx=>?_) (fun _=>⟨a,he⟩) om om
    rw [he] at hx
    rw [W4.1 hx];omega
  ·rw [he,show Th n.decls us s.op (a::b::r)=-1 from rfl] at h;omega
 ·omega
def Q1 (n:Zy) (us:List Int) (s:Z4):List Int:=if Xf s.op=true then us++[ZT n us s] else us
theorem Ic {L L':ZJ} {ln:List Int} {v:Int} (h:Av L ln v=some L'):L'.vars=L.vars/\L'.par=L.par/\L'.con=L.con/\L'.fst=L.fst/\L'.tok=L.tok/\L'.own=L.own.set v.toNat (gI L.own v+1):=by
 rw [Av] at h
 split at h
 ·cases h;exact ⟨rfl,rfl,rfl,rfl,rfl,rfl⟩
 ·cases h
theorem ES:∀(fs:List Int) (own:List Int) (p:Int),(Tv own p fs).length=own.length
 | [],own,p=>rfl
 | f::r,own,p=>by rw [Tv,ES r];split<;>simp
theorem FI {xs:List Int} {q v:Int} (h:∀x∈xs,x<=q) (hq:0<=q):gI xs v<=q:=by
 by_cases h0:gI xs v=0
 ·omega
 ·exact h _ (FJ h0)
theorem FK {xs:List Int} {v:Int} (h:∀x∈xs,0<=x):0<=gI xs v:=by
 by_cases h0:gI xs v=0
 ·omega
 ·exact h _ (FJ h0)
theorem ET:∀(fs:List Int) (own:List Int) (p:Int),(∀x∈own,0<=x)->∀x∈Tv own p fs,0<=x
 | [],own,p,h=>h
 | f::r,own,p,h=>by
  rw [Tv]
  refine ET r _ _ fun x hx=>?_
  split at hx
  ·rcases Ky hx with hx|rfl
   ·exact h x hx
   ·have:=FK (v:=p) h;omega
  ·exact h x hx
theorem ER:∀(fs:List Int) (own:List Int) (p q:Int),0<=q->(∀x∈own,x<=q)->∀x∈Tv own p fs,x<=q+fs.length
 | [],own,p,q,hq,h=>by intro x hx;have:=h x hx;simp;omega
 | f::r,own,p,q,hq,h=>by
  intro x hx
  rw [Tv] at hx
  have:=ER r _ _ (q+1) om (fun y hy=>by
   split at hy
   ·rcases Ky hy with hy|rfl
    ·have:=h y hy;omega
    ·have:=FI (v:=p) h hq;omega
   ·have:=h y hy;omega) x hx
  simp only [YS];omega
theorem Mm {ds:List Zf} {L L':ZJ} {op v:Int} (h:Kz ds L op v=some L'):L'.vars=L.vars/\L'.par=L.par/\L'.con=L.con/\L'.fst=L.fst/\L'.tok.length=L.tok.length /\
  ∃L1,Te L v=some L1/\L'.own=Tv L1.own (gI L.fst v) (ZB ds (gI L.con v)):=by
 rw [Kz] at h
 split at h
 ·cases h
 ·cases ht:Te L v with
  | none=>rw [ht] at h;cases h
  | some L1=>
   rw [ht] at h
   simp only at h
   obtain ⟨t1,t2,t3,t4,t5,t6,t7⟩:=Kb ht
   cases h
   refine ⟨t2,t3,t4,t5,?_,L1,rfl,rfl⟩
   split
   ·rw [UV]
   ·rfl
theorem FV {n:Zy} {op num:Int} {ds:List Zf} {q:Int}:∀{as1:List Int} {i:Nat} {L L':ZJ},Xz ds L q->Qd n op num as1 i L=some L'->Xz ds L' q/\L'.vars=L.vars/\L'.par=L.par/\L'.con=L.con/\L'.fst=L.fst/\L'.tok=L.tok
 | [],i,L,L',hk,h=>by rw [Qd] at h;cases h;exact ⟨hk,rfl,rfl,rfl,rfl,rfl⟩
 | a::r,i,L,L',hk,h=>by
  rw [Qd] at h
  split at h
  ·cases ht:Te L a with
   | none=>rw [ht] at h;cases h
   | some L1=>
    rw [ht] at h
    obtain ⟨t1,t2,t3,t4,t5,t6,t7⟩:=Kb ht
    obtain ⟨k1,k2,k3,k4,k5,k6⟩:=FV (hk.take ht) h
    exact ⟨k1,k2.trans t2,k3.trans t3,k4.trans t4,k5.trans t5,k6.trans t6⟩
  ·exact FV hk h
theorem Xz.le {ds:List Zf} {L:ZJ} {q q':Int} (h:Xz ds L q) (hq:q<=q'):Xz ds L q':=⟨h.len,h.down,h.arm,h.nn,fun x hx=>Int.le_trans (h.bd x hx) hq⟩
theorem Xz.turn {ds:List Zf} {L L':ZJ} {q q':Int} (hk:Xz ds L q) (h1:L'.vars=L.vars) (h2:L'.par=L.par) (h3:L'.con=L.con) (h4:L'.fst=L.fst) (h5:L'.tok.length=L.tok.length) (h6:L'.own.length=L.own.length)
  (h7:∀x∈L'.own,0<=x) (h8:∀x∈L'.own,x<=q'):Xz ds L' q':=by
 obtain ⟨f1,f2,f3,f4,f5⟩:=hk.len
 refine ⟨⟨by rw [h6,h1];exact f1,by rw [h2,h1];exact f2,by rw [h3,h1];exact f3,by rw [h4,h1];exact f4,by rw [h5,h1];exact f5⟩,?_,?_,h7,h8⟩
 ·rw [h1,h2];exact hk.down
 ·rw [h1,h3,h4];exact hk.arm
theorem Bm {xs ys:List Int} {j:Int} (h:j.toNat<xs.length):gI (xs++ys) j=gI xs j:=by
 rw [gI,gI,CQ h]
theorem IF {xs:List Int} {y:Int} {j:Int} (h:j.toNat=xs.length):gI (xs++[y]) j=y:=by
 rw [gI,h];simp
theorem Xz.grow {ds:List Zf} {L:ZJ} {q t o p:Int} (hk:Xz ds L q) (hp:p<L.vars.length) (ho:0<=o/\o<=q):Xz ds (L.grow t o p) q:=by
 obtain ⟨f1,f2,f3,f4,f5⟩:=hk.len
 refine ⟨⟨by simp [ZJ.grow,f1],by simp [ZJ.grow,f2],by simp [ZJ.grow,f3],by simp [ZJ.grow,f4],by simp [ZJ.grow,f5]⟩,?_,?_,?_,?_⟩
 ·intro j hj hl
  simp only [ZJ.grow,Yx,EF] at hl ⊢
  by_cases hlt:j<L.vars.length
  ·rw [Bm om];exact hk.down j hj hlt
  ·rw [IF om];omega
 ·intro x hx hl
  simp only [ZJ.grow,Yx,EF] at hl ⊢
  by_cases hlt:x<L.vars.length
  ·rw [Bm om,Bm om]
   intro hc
   have:=hk.arm x hx hlt hc
   exact ⟨this.1,by omega⟩
  ·rw [IF om];omega
 ·intro x hx
  simp only [ZJ.grow,Xr,W4] at hx
  rcases hx with hx|rfl
  ·exact hk.nn x hx
  ·exact ho.1
 ·intro x hx
  simp only [ZJ.grow,Xr,W4] at hx
  rcases hx with hx|rfl
  ·exact hk.bd x hx
  ·exact ho.2
theorem IH {xs:List Int} {k:Nat} {a:Int} {j:Int} (h:xs.length<=j.toNat/\j.toNat<xs.length+k):gI (xs++List.replicate k a) j=a:=by
 rw [gI,ED h.1,List.getElem?_replicate,Zm om];rfl
theorem II {xs:List Int} {x j c:Int} (h:j.toNat=x.toNat) (hl:x.toNat<xs.length):gI (xs.set x.toNat c) j=c:=by
 rw [gI,h,List.getElem?_set_self hl];rfl
theorem IJ {xs:List Int} {x j c:Int} (h:j.toNat≠x.toNat):gI (xs.set x.toNat c) j=gI xs j:=by
 rw [gI,gI,List.getElem?_set_ne (fun q=>h q.symm)]
theorem L7 {p:Int}:∀(fs:List Int) (L:ZJ),AC L p fs=⟨L.vars++fs,L.own++List.replicate fs.length 0,L.par++List.replicate fs.length p,L.con++List.replicate fs.length (-1),
  L.fst++List.replicate fs.length (-1),L.tok++List.replicate fs.length (-1)⟩
 | [],L=>by simp [AC]
 | t::r,L=>by rw [AC,L7 r];simp [ZJ.grow,Hp]
theorem OD {ds:List Zf} {L:ZJ} {q x c:Int} (hk:Xz ds L q) (hq:0<=q) (hx:0<=x/\x<L.vars.length):Xz ds (Aq ds L x c) q/\(Aq ds L x c).vars=L.vars++ZB ds c:=by
 obtain ⟨f1,f2,f3,f4,f5⟩:=hk.len
 rw [Aq,L7]
 refine ⟨⟨⟨by simp [f1],by simp [f2],by simp [f3],by simp [f4],by simp [f5]⟩,?_,?_,?_,?_⟩,rfl⟩
 ·intro j hj hl
  simp only [Yx] at hl ⊢
  by_cases hlt:j<L.vars.length
  ·rw [Bm om];exact hk.down j hj hlt
  ·rw [IH om];omega
 ·intro y hy hl
  simp only [Yx] at hl ⊢
  by_cases hlt:y<L.vars.length
  ·rw [Bm (by simp;omega),Bm (by simp;omega)]
   by_cases he:y.toNat=x.toNat
   ·rw [II he om,II he om]
    intro _
    exact ⟨by omega,by simp⟩
   ·rw [IJ he,IJ he]
    intro hc
    have:=hk.arm y hy hlt hc
    exact ⟨this.1,by omega⟩
  ·rw [IH (by simp;omega)];omega
 ·intro y hy
  simp only [Xr,List.mem_replicate] at hy
  rcases hy with hy|⟨_,rfl⟩
  ·exact hk.nn y hy
  ·exact Int.le_refl 0
 ·intro y hy
  simp only [Xr,List.mem_replicate] at hy
  rcases hy with hy|⟨_,rfl⟩
  ·exact hk.bd y hy
  ·exact hq
theorem DQ {n:Zy} {L:ZJ} {q:Int} {s:Z4} {i:Nat} {m:List Int} (hk:Xz n.decls L q) (hq:0<=q) (hf:Am n L.vars s) (hop:s.op=7∨s.op=8) (hm:(X6 n.decls s.op s.num)[i]? = some m) :
  Xz n.decls (US n.decls L s.op s.num s.args i) q/\(US n.decls L s.op s.num s.args i).vars=L.vars++m:=by
 rw [US]
 split
 ·rename_i h8
  obtain ⟨a,ha⟩:=hf.one om
  have hb:=hf.args a (by rw [ha];simp)
  have hg:gI s.args 0=a:=by rw [ha];rfl
  rw [X6,Zb om,QU] at hm
  cases hc:(Zu n.decls s.num)[i]? with
  | none=>rw [hc] at hm;cases hm
  | some c=>
   rw [hc] at hm
   cases hm
   have hgc:gI (Zu n.decls s.num) (i:Int)=c:=by rw [gI];simp [hc]
   rw [hg,hgc]
   exact OD hk hq hb
 ·rename_i h8
  rw [X6,Zm om] at hm
  have:m=[]:=by
   match i,hm with
   | 0,hm=>simpa using hm.symm
   | 1,hm=>simpa using hm.symm
   | i+2,hm=>simp at hm
  subst this
  exact ⟨hk,by simp⟩
theorem ND {n:Zy}:∀{l:List Z4} {us vs:List Int},V7 n l us=some vs->us.length<=vs.length
 | [],us,vs,h=>by rw [V7] at h;cases h;exact X7 _
 | s::r,us,vs,h=>by
  rw [V7] at h
  split at h
  ·cases h
  ·have:=ND h
   split at this
   ·simp only [Yx,EF] at this;omega
   ·exact this
theorem L8 {n:Zy} {ln:List Int} {L L':ZJ} {op num into q:Int} {args:List Int} {ds:List Zf} (hk:Xz ds L q) (h:K0 n ln L op num into args=some L'):Xz ds L' q/\L'.vars=L.vars:=by
 rw [K0] at h
 cases ht:Qd n op num args 0 L with
 | none=>rw [ht] at h;cases h
 | some L1=>
  rw [ht] at h
  simp only at h
  obtain ⟨k1,k2,k3,k4,k5,k6⟩:=FV hk ht
  split at h
  ·rw [Cb] at h
   split at h
   ·split at h
    ·cases h
    ·cases h
     exact ⟨k1.turn rfl rfl rfl rfl (by simp) rfl k1.nn k1.bd,k2⟩
   ·cases h;exact ⟨k1,k2⟩
  ·cases h
theorem Po {L L':ZJ} {m:Nat} (h:Km L m=some L'):L'=L.take m/\Ad (L.own.drop m) (L.tok.drop m)=true:=by
 rw [Km] at h
 split at h
 ·rename_i hz;cases h;exact ⟨rfl,hz⟩
 ·cases h
theorem Hb {r:Option ZJ} {f:ZJ->Option ZJ} {L:ZJ} (h:CM r f=some L):∃L1,r=some L1/\f L1=some L:=by
 cases r with
 | none=>cases h
 | some L1=>exact ⟨L1,rfl,h⟩
theorem LL (n:Zy) (hn:Xe n) (ln:List Int):∀m:Nat,
  (∀(s:Z4) (L L':ZJ) (q:Int),s.sz<=m->Xz n.decls L q->0<=q->0<=ZT n L.vars s->TE n ln L s=some L'->Xz n.decls L' (q+4*s.sz)/\L'.vars=Q1 n L.vars s) /\
  (∀(b:Z7) (L O:ZJ) (q:Int) (k:Nat),b.sz<=m->Xz n.decls L q->0<=q->0<=YR n L.vars b->k<=L.vars.length->VC n ln L k b=some O ->
   (O.own.length=k/\O.tok.length=k/\(∀x∈O.own,0<=x/\x<=q+4*b.sz))/\Uz O/\O.vars.length=k):=by
 intro m
 induction m with
 | zero=>exact ⟨fun s _ _ _ h=>by have:=s.sz_pos;omega,fun s _ _ _ _ h=>by have:=s.sz_pos;omega⟩
 | succ m ih=>
  have hs:∀(s:Z4) (L L':ZJ) (q:Int),s.sz<=m+1->Xz n.decls L q->0<=q->0<=ZT n L.vars s->TE n ln L s=some L'->Xz n.decls L' (q+4*s.sz)/\L'.vars=Q1 n L.vars s:=by
   intro s L L' q XC hk hq hty h
   have hp:=s.sz_pos
   have hf:=NC hty
   obtain ⟨f1,f2,f3,f4,f5⟩:=hk.len
   rw [NA] at h
   unfold Kt at h
   cases hpk:K6 n ln L s.op s.num s.into s.args (QD n ln L s.op s.num s.args s.kids) with
   | none=>rw [hpk] at h;cases h
   | some L1=>
    rw [hpk] at h
    simp only at h
    have key:Xz n.decls L1 (q+4*s.sz)/\L1.vars=L.vars:=by
     rw [K6] at hpk
     split at hpk
     ·obtain ⟨d1,d2,d3,d4,d5,d6⟩:=Ic hpk
      refine ⟨hk.turn d1 d2 d3 d4 (by rw [d5]) (by rw [d6,UV]) ?_ ?_,d1⟩
      ·rw [d6];intro x hx
       rcases Ky hx with hx|rfl
       ·exact hk.nn x hx
       ·have:=FK (v:=gI s.args 0) hk.nn;omega
      ·rw [d6];intro x hx
       rcases Ky hx with hx|rfl
       ·have:=hk.bd x hx;omega
       ·have:=FI (v:=gI s.args 0) hk.bd hq;omega
     split at hpk
     ·exact ⟨(hk.take hpk).le om,(Kb hpk).2.1⟩
     split at hpk
     ·rename_i hop
      obtain ⟨d1,d2,d3,d4,d5,Lt,ht,d6⟩:=Mm hpk
      have hkt:=hk.take ht
      have h3:=VH hn.decls (gI L.con (gI s.args 0))
      refine ⟨hk.turn d1 d2 d3 d4 d5 ?_ ?_ ?_,d1⟩
      ·rw [d6,ES,(Kb ht).2.2.2.2.2.2,UV]
      ·rw [d6];exact ET _ _ _ hkt.nn
      ·rw [d6];intro x hx
       have:=ER _ _ _ q hq hkt.bd x hx;omega
     split at hpk
     ·rename_i hop
      split at hpk
      ·cases hpk
      ·cases hks:s.kids with
       | nil=>rw [hks,QD] at hpk;cases hpk
       | cons b bs=>
        rw [hks,QD] at hpk
        unfold AK at hpk
        cases hb:VC n ln (US n.decls L s.op s.num s.args 0) L.vars.length b with
        | none=>rw [hb] at hpk;cases hpk
        | some one=>
         rw [hb] at hpk
         simp only at hpk
         split at hpk
         ·cases hpk
          obtain ⟨q1,q2,q3⟩:=hf.kids hop
          have hks0:s.kids[0]? = some b:=by rw [hks];rfl
          obtain ⟨a0,ha0⟩:=Zs (xs:=X6 n.decls s.op s.num) (j:=0) om
          obtain ⟨k1,k2⟩:=DQ hk hq hf hop ha0
          have hbz:=T7 hks0
          obtain ⟨⟨r1,r2,r3⟩,_⟩:=ih.2 b _ one q L.vars.length om k1 hq (by rw [k2];exact q3 0 b a0 hks0 ha0) (by rw [k2];simp) hb
          refine ⟨hk.turn rfl rfl rfl rfl (by simp only;omega) (by simp only;omega) (fun x hx=>(r3 x hx).1) (fun x hx=>?_),rfl⟩
          have:=(r3 x hx).2;omega
         ·cases hpk
     ·obtain ⟨k1,k2⟩:=L8 hk hpk
      exact ⟨k1.le om,k2⟩
    split at h
    ·rename_i hd
     cases h
     refine ⟨key.1.grow om ?_,by rw [Q1,Zm hd];simp [ZJ.grow,key.2]⟩
     split<;>omega
    ·rename_i hd
     cases h
     exact ⟨key.1,by rw [Q1,Zb hd];exact key.2⟩
  refine ⟨hs,?_⟩
  intro b L O q k XC hk hq hty hkl h
  have hsteps:∀(l:List Z4) (L L':ZJ) (q:Int) (vs:List Int),Yu l<=m->Xz n.decls L q->0<=q->V7 n l L.vars=some vs->Ka n ln L l=some L'->Xz n.decls L' (q+4*Yu l)/\L'.vars=vs:=by
   intro l
   induction l with
   | nil=>intro L L' q vs _ hk _ h1 h2;rw [V7] at h1;rw [Ka] at h2;cases h1;cases h2;exact ⟨by simpa [Yu] using hk,rfl⟩
   | cons s r ihr=>
    intro L L' q vs hz hk hq h1 h2
    rw [Yu] at hz
    rw [Ka] at h2
    obtain ⟨L1,e1,e2⟩:=Hb h2
    rw [V7] at h1
    split at h1
    ·cases h1
    ·rename_i h0
     obtain ⟨k1,k2⟩:=hs s L L1 q om hk hq om e1
     obtain ⟨k3,k4⟩:=ihr L1 L' (q+4*s.sz) vs om k1 om (by rw [k2];exact h1) e2
     exact ⟨k3.le (by rw [Yu];omega),k4⟩
  have hbz:=b.sz_eq
  rw [EY] at h
  obtain ⟨L1,e1,e2⟩:=Hb h
  rw [D4] at hty
  cases hv:V7 n b.steps L.vars with
  | none=>rw [hv] at hty;simp at hty
  | some vs=>
   obtain ⟨k1,k2⟩:=hsteps b.steps L L1 q vs om hk hq hv e1
   have hlen:=ND hv
   rw [Ks] at e2
   obtain ⟨L2,e3,e4⟩:=Hb e2
   have k3:Xz n.decls L2 (q+4*Yu b.steps)/\L2.vars=L1.vars:=by
    split at e3
    ·exact ⟨k1.take e3,(Kb e3).2.1⟩
    ·cases e3;exact ⟨k1,rfl⟩
   obtain ⟨rfl,_⟩:=Po e4
   obtain ⟨g1,g2,g3,g4,g5⟩:=k3.1.len
   have hl2:L2.vars.length=vs.length:=by rw [k3.2,k2]
   refine ⟨⟨by simp [ZJ.take];omega,by simp [ZJ.take];omega,fun x hx=>?_⟩,⟨by simp [ZJ.take];omega,by simp [ZJ.take];omega,by simp [ZJ.take];omega,by simp [ZJ.take];omega,by simp [ZJ.take];omega⟩,by simp [ZJ.take];omega⟩
   have hx':x∈L2.own:=TJ hx
   have:=k3.1.nn x hx'
   have:=k3.1.bd x hx'
   omega
theorem NB {n:Zy} (hn:Xe n) {ln:List Int} {s:Z4} {L L':ZJ} {q:Int} (hk:Xz n.decls L q) (hq:0<=q) (hty:0<=ZT n L.vars s) (h:TE n ln L s=some L'):Xz n.decls L' (q+4*s.sz)/\L'.vars=Q1 n L.vars s:=
 (LL n hn ln s.sz).1 s L L' q (X7 _) hk hq hty h
theorem HL {n:Zy} (hn:Xe n) {ln:List Int} {b:Z7} {L O:ZJ} {q:Int} {k:Nat} (hk:Xz n.decls L q) (hq:0<=q) (hty:0<=YR n L.vars b) (hkl:k<=L.vars.length) (h:VC n ln L k b=some O) :
  O.own.length=k/\O.tok.length=k/\(∀x∈O.own,0<=x/\x<=q+4*b.sz):=
 ((LL n hn ln b.sz).2 b L O q k (X7 _) hk hq hty hkl h).1
theorem CA {n:Zy} (hn:Xe n) {ln:List Int} {s:Z4} {L L1:ZJ} {q:Int} (hk:Xz n.decls L q) (hq:0<=q) (hf:Am n L.vars s)
  (hpk:K6 n ln L s.op s.num s.into s.args (QD n ln L s.op s.num s.args s.kids)=some L1):Xz n.decls L1 (q+4*s.sz)/\L1.vars=L.vars:=by
 have hp:=s.sz_pos
 obtain ⟨f1,f2,f3,f4,f5⟩:=hk.len
 rw [K6] at hpk
 split at hpk
 ·obtain ⟨d1,d2,d3,d4,d5,d6⟩:=Ic hpk
  refine ⟨hk.turn d1 d2 d3 d4 (by rw [d5]) (by rw [d6,UV]) ?_ ?_,d1⟩
  ·rw [d6];intro x hx
   rcases Ky hx with hx|rfl
   ·exact hk.nn x hx
   ·have:=FK (v:=gI s.args 0) hk.nn;omega
  ·rw [d6];intro x hx
   rcases Ky hx with hx|rfl
   ·have:=hk.bd x hx;omega
   ·have:=FI (v:=gI s.args 0) hk.bd hq;omega
 split at hpk
 ·exact ⟨(hk.take hpk).le om,(Kb hpk).2.1⟩
 split at hpk
 ·rename_i hop
  obtain ⟨d1,d2,d3,d4,d5,Lt,ht,d6⟩:=Mm hpk
  have hkt:=hk.take ht
  have h3:=VH hn.decls (gI L.con (gI s.args 0))
  refine ⟨hk.turn d1 d2 d3 d4 d5 ?_ ?_ ?_,d1⟩
  ·rw [d6,ES,(Kb ht).2.2.2.2.2.2,UV]
  ·rw [d6];exact ET _ _ _ hkt.nn
  ·rw [d6];intro x hx
   have:=ER _ _ _ q hq hkt.bd x hx;omega
 split at hpk
 ·rename_i hop
  split at hpk
  ·cases hpk
  ·cases hks:s.kids with
   | nil=>rw [hks,QD] at hpk;cases hpk
   | cons b bs=>
    rw [hks,QD] at hpk
    unfold AK at hpk
    cases hb:VC n ln (US n.decls L s.op s.num s.args 0) L.vars.length b with
    | none=>rw [hb] at hpk;cases hpk
    | some one=>
     rw [hb] at hpk
     simp only at hpk
     split at hpk
     ·cases hpk
      obtain ⟨q1,q2,q3⟩:=hf.kids hop
      have hks0:s.kids[0]? = some b:=by rw [hks];rfl
      obtain ⟨a0,ha0⟩:=Zs (xs:=X6 n.decls s.op s.num) (j:=0) om
      obtain ⟨k1,k2⟩:=DQ hk hq hf hop ha0
      have hbz:=T7 hks0
      obtain ⟨r1,r2,r3⟩:=HL hn k1 hq (by rw [k2];exact q3 0 b a0 hks0 ha0) (by rw [k2];simp) hb
      refine ⟨hk.turn rfl rfl rfl rfl (by simp only;omega) (by simp only;omega) (fun x hx=>(r3 x hx).1) (fun x hx=>?_),rfl⟩
      have:=(r3 x hx).2;omega
     ·cases hpk
 ·obtain ⟨k1,k2⟩:=L8 hk hpk
  exact ⟨k1.le om,k2⟩
end Go.Abs
section
namespace Go.Abs
theorem OE {ds:List Zf} {op num:Int} {i:Nat} {m:List Int} (h8:op=8) (h:(X6 ds op num)[i]? = some m):∃c,(Zu ds num)[i]? = some c/\m=ZB ds c:=by
 rw [X6,Zb om,QU] at h
 cases hc:(Zu ds num)[i]? with
 | none=>rw [hc] at h;cases h
 | some c=>rw [hc] at h;cases h;exact ⟨c,rfl,rfl⟩
theorem Z17 {ds:List Zf} {L:ZJ} {op num x c:Int} {args:List Int} {i:Nat} (h8:op=8) (hx:args[0]? = some x) (hc:(Zu ds num)[i]? = some c):US ds L op num args i=Aq ds L x c:=by
 have h1:gI args 0=x:=by rw [gI];simp [hx]
 have h2:gI (Zu ds num) (i:Int)=c:=by rw [gI];simp [hc]
 rw [US,Zm h8,h1,h2]
theorem Z18 {ds:List Zf} {L:ZJ} {op num:Int} {args:List Int} {i:Nat} (h8:¬op=8):US ds L op num args i=L:=by rw [US,Zb h8]
theorem Z1c {n:Zy} {ln:List Int} {L:ZJ} {op num:Int} {args:List Int} {kids:List Z7} {kb:Z7} (h:kids[0]? = some kb) :
  QD n ln L op num args kids=AK L (VC n ln (US n.decls L op num args 0) L.vars.length kb) fun one=>K4 n ln L op num args one (kids.drop 1) 1:=by
 cases kids with
 | nil=>simp at h
 | cons b bs=>simp at h;subst h;rw [QD];rfl
theorem Z1d {n:Zy} {ln:List Int} {L one:ZJ} {op num:Int} {args:List Int} {kids:List Z7} {kb:Z7} {k:Nat} (h:kids[k]? = some kb) :
  K4 n ln L op num args one (kids.drop k) k=Eg one (VC n ln (US n.decls L op num args k) L.vars.length kb) (K4 n ln L op num args one (kids.drop (k+1)) (k+1)):=by
 rw [Yb h,K4]
def As (n:Zy) (ln:List Int) (L:ZJ) (s:Z4):Option ZJ:=
 if s.op=8/\¬VB L ln (gI s.args 0)=true then none else QD n ln L s.op s.num s.args s.kids
theorem OW {n:Zy} {ln:List Int} {L:ZJ} {s:Z4} {kb:Z7} (h:¬(s.op=8/\¬VB L ln (gI s.args 0)=true)) (hk:s.kids[0]? = some kb) :
  As n ln L s=AK L (VC n ln (US n.decls L s.op s.num s.args 0) L.vars.length kb) fun one=>K4 n ln L s.op s.num s.args one (s.kids.drop 1) 1:=by
 rw [As,Zb h,Z1c hk]
theorem J7 {xs:List Int} {x:Int} (h:xs[0]? = some x):gI xs 0=x:=by rw [gI];simp [h]
end Go.Abs
namespace Go.Abs
theorem Uz.grow {L:ZJ} {t o p:Int} (h:Uz L):Uz (L.grow t o p):=by
 obtain ⟨f1,f2,f3,f4,f5⟩:=h
 exact ⟨by simp [ZJ.grow,f1],by simp [ZJ.grow,f2],by simp [ZJ.grow,f3],by simp [ZJ.grow,f4],by simp [ZJ.grow,f5]⟩
theorem Uz.arm {L:ZJ} {i j:Nat} {c d:Int} (h:Uz L):Uz ⟨L.vars,L.own,L.par,L.con.set i c,L.fst.set j d,L.tok⟩:=by
 obtain ⟨f1,f2,f3,f4,f5⟩:=h
 exact ⟨f1,f2,by simp [f3],by simp [f4],f5⟩
end Go.Abs
namespace Go.Abs
theorem LA {n:Zy} (hn:Xe n) {ln:List Int} {L O:ZJ} {q:Int} {s:Z4} {i:Nat} {kb:Z7} {m:List Int} (hk:Xz n.decls L q) (hq:0<=q) (hf:Am n L.vars s) (hop:s.op=7∨s.op=8)
  (_:s.kids[i]? = some kb) (harm:(X6 n.decls s.op s.num)[i]? = some m) (hbt:0<=YR n (L.vars++m) kb) (h:VC n ln (US n.decls L s.op s.num s.args i) L.vars.length kb=some O) :
  O.own.length=L.vars.length/\O.tok.length=L.vars.length:=by
 obtain ⟨k1,k2⟩:=DQ hk hq hf hop harm
 obtain ⟨r1,r2,_⟩:=HL hn k1 hq (by rw [k2];exact hbt) (by rw [k2];simp) h
 exact ⟨r1,r2⟩
theorem Z47 {one two:ZJ} {r:Bool} (h:¬(¬one.own=two.own∨¬one.tok=two.tok)):Eg one (some two) r=r:=Zm ⟨U2.1 fun q=>h (.inl q),U2.1 fun q=>h (.inr q)⟩
theorem Z46 {one two:ZJ} {r:Bool} (h:¬one.own=two.own∨¬one.tok=two.tok):Eg one (some two) r=false:=Zb fun q=>h.elim (fun z=>z q.1) fun z=>z q.2
theorem Z23 {L one:ZJ} {f:ZJ->Bool} (h:f one=true):AK L (some one) f=some ⟨L.vars,one.own,L.par,L.con,L.fst,one.tok⟩:=Zm h
theorem LT {L one:ZJ} {f:ZJ->Bool} (h:f one=false):AK L (some one) f=none:=Zb (by rw [h];simp)
end Go.Abs
namespace Go.Abs
section
variable {n:Zy} {ln:List Int} {L:ZJ} {s:Z4}
abbrev KA (n:Zy) (ln:List Int) (L:ZJ) (s:Z4):Option ZJ:=K6 n ln L s.op s.num s.into s.args (QD n ln L s.op s.num s.args s.kids)
theorem Mp {x:Int} (h:s.op=14) (hx:gI s.args 0=x):KA n ln L s=Av L ln x:=hx▸Zm h
theorem Mq {x:Int} (h:s.op=15) (hx:gI s.args 0=x):KA n ln L s=Te L x:=by rw [<-hx,KA,K6,Zb om,Zm h]
theorem Mr {x:Int} (h:s.op=16∨s.op=17) (hx:gI s.args 0=x):KA n ln L s=Kz n.decls L s.op x:=by rw [<-hx,KA,K6,Zb om,Zb om,Zm h]
theorem Ms (h:s.op=7∨s.op=8):KA n ln L s=As n ln L s:=by rw [KA,K6,Zb om,Zb om,Zb om,Zm h,As]
theorem Mt (h1:¬s.op=14) (h2:¬s.op=15) (h3:¬(s.op=16∨s.op=17)) (h4:¬(s.op=7∨s.op=8)):KA n ln L s=K0 n ln L s.op s.num s.into s.args:=by
 rw [KA,K6,Zb h1,Zb h2,Zb h3,Zb h4]
theorem PL {v:Int} (h:¬VB L ln v=true):Av L ln v=none:=Zb h
theorem PM {v x:Int} (h:¬¬VB L ln v=true) (hx:gI L.own v=x):Av L ln v=some ⟨L.vars,L.own.set v.toNat (x+1),L.par,L.con,L.fst,L.tok⟩:=by rw [Av,Zm (U2.1 h),hx]
theorem Uw (n:Zy) (ln:List Int) (L:ZJ) (s:Z4):TE n ln L s=Kt L s.op (ZT n L.vars s) (KA n ln L s):=NA n ln L s
theorem Uo {X:ZJ} {op t:Int} (h:Xf op=true/\t≠0):Kt L op t (some X)=some (X.grow t 1 (-1)):=by
 unfold Kt;simp only [h.1,↓reduceIte];rw [Zm h.2]
theorem Up {X:ZJ} {op t:Int} (h:¬(Xf op=true/\t≠0)) (h2:Xf op=true):Kt L op t (some X)=some (X.grow 0 0 (-1)):=by
 have ht:t=0:=U2.1 fun q=>h ⟨h2,q⟩
 subst ht
 unfold Kt;simp only [h2,↓reduceIte];rfl
theorem Uq {X:ZJ} {op t:Int} (h:¬Xf op=true):Kt L op t (some X)=some X:=by
 unfold Kt;simp only [Zb h]
end
end Go.Abs
namespace Go.Abs
theorem HM {n:Zy} {us:List Int} {b:Z7} (h:0<=YR n us b):∃vs t,V7 n b.steps us=some vs/\Xw vs b.result=some t/\0<=t:=by
 rw [D4] at h
 cases hv:V7 n b.steps us with
 | none=>rw [hv] at h;simp at h
 | some vs=>
  rw [hv] at h
  simp only at h
  cases ha:Xw vs b.result with
  | none=>rw [ha] at h;simp at h
  | some t=>rw [ha] at h;exact ⟨vs,t,rfl,ha,h⟩
theorem NE {n:Zy} {us vs:List Int} {s:Z4} {r:List Z4} (h:V7 n (s::r) us=some vs):0<=ZT n us s/\V7 n r (Q1 n us s)=some vs:=by
 rw [V7] at h
 split at h
 ·cases h
 ·exact ⟨by omega,h⟩
theorem MV (n:Zy) (us:List Int) (s:Z4):us.length<=(Q1 n us s).length/\(Q1 n us s).length<=us.length+s.sz:=by
 have:=s.sz_pos
 rw [Q1];split
 ·simp only [Yx,EF];omega
 ·omega
end Go.Abs
namespace Go.Abs
theorem R8 {X L:ZJ} {m:Nat} {r x:Int} (hg:gI L.vars r=x) (h:x≠0) (ht:Te L r=some X):Ks m r L=Km X m:=by rw [Ks,hg,Zm h,ht];rfl
theorem R7 {L:ZJ} {m:Nat} {r x:Int} (hg:gI L.vars r=x) (h:x≠0) (ht:Te L r=none):Ks m r L=none:=by rw [Ks,hg,Zm h,ht];rfl
theorem C1 {L:ZJ} {m:Nat} {r x:Int} (hg:gI L.vars r=x) (h:¬x≠0):Ks m r L=Km L m:=by rw [Ks,hg,Zb h];rfl
end Go.Abs
namespace Go.Abs
theorem Mo {ds:List Zf} {lent:List Int}:∀{ps:List Int} {i:Nat} {L:ZJ},Xz ds L 1->Xz ds (Jm lent ps i L) 1/\(Jm lent ps i L).vars=L.vars++ps
 | [],i,L,hk=>⟨hk,by simp [Jm]⟩
 | t::r,i,L,hk=>by
  rw [Jm]
  obtain ⟨k1,k2⟩:=Mo (lent:=lent) (ps:=r) (i:=i+1) (hk.grow (t:=t) (o:=if t≠0/\¬(i:Int)∈lent then 1 else 0) (p:=-1) om (by split<;>omega))
  exact ⟨k1,by rw [k2];simp [ZJ.grow]⟩
theorem Z26 (ds:List Zf) (r:Yf):Xz ds (QH r) 1/\(QH r).vars=r.params:=by
 have h:Xz ds (⟨[],[],[],[],[],[]⟩:ZJ) 1:=⟨⟨rfl,rfl,rfl,rfl,rfl⟩,fun j h1 h2=>by simp at h2;omega,fun j h1 h2=>by simp at h2;omega,by simp,by simp⟩
 obtain ⟨k1,k2⟩:=Mo (lent:=r.lent) (ps:=r.params) (i:=0) h
 exact ⟨k1,by rw [QH,k2];rfl⟩
end Go.Abs
namespace Go.Abs
theorem GG {n:Zy}:∀{l:List Yf},TZ n l=true->∀r∈l,¬Vd r.body<0/\YR n r.params r.body=r.result
 | [],_,r,h=>by simp at h
 | a::l,h,r,hr=>by
  rw [TZ] at h
  split at h
  ·rename_i h1
   rcases YQ.1 hr with rfl|hr
   ·exact h1
   ·exact GG h r hr
  ·cases h
theorem Z71 {n:Zy} (hz:Q5 n) (h:Xd n=true):Xe n/\∀r∈n.routines,0<=YR n r.params r.body:=by
 simp only [Xd,XL] at h
 refine ⟨DZ hz h.1,fun r hr=>?_⟩
 rw [(GG h.2 r hr).2]
 have h1:=h.1
 simp only [XV,Tq,XL] at h1
 have:=Ej h1.2.1.2.2.1 (Vk r) (W3.2 ⟨r,hr,rfl⟩)
 simp only [Qf,XL,decide_eq_true_eq,Vk] at this
 exact (of_decide_eq_true this.2.2).1
end Go.Abs
end
section
namespace Go.Abs
theorem PV {xs:List Int} (h:Z8 xs=[]):xs=[]:=by cases xs with|nil=>rfl|cons x r=>cases h
end Go.Abs
namespace Go.Abs
theorem ID (xss:List (List Int)) (k:Nat):(xss.take k).flatten.length<=xss.flatten.length:=by
 conv=>rhs;rw [<-Uy k xss,List.flatten_append,Yx]
 omega
end Go.Abs
namespace Go.Abs
theorem FG {xss:List (List Int)} {k:Nat} {x:List Int} (h:xss[k]? = some x):(xss.take (k+1)).flatten=(xss.take k).flatten++x:=by rw [WO h,List.flatten_append];simp
theorem IC {xss:List (List Int)} {k:Nat} {x:List Int} (h:xss[k]? = some x):(xss.take k).flatten.length+x.length<=xss.flatten.length:=by
 have:=ID xss (k+1)
 rw [FG h,Yx] at this
 exact this
end Go.Abs
end
section
namespace Go.Abs
theorem P8 {c:Int} {ds:List Zf} {k:Nat} {d:Zf} {r:Int × List Int} (h:ds[k]? = some d) (hn:¬(c-Yq (ds.take k)>=0/\c-Yq (ds.take k)<d.cons.length))
  (hr:Uk c (ds.drop k) k (Yq (ds.take k))=r):Uk c (ds.drop (k+1)) (k+1) (Yq (ds.take (k+1)))=r:=by
 rw [Yb h,Uk,Zb om] at hr
 rw [WO h,BX,<-hr];rfl
end Go.Abs
namespace Go.Abs
theorem Pa {c:Int} {ds:List Zf} {k:Nat} {d:Zf} {x:Y5} (h:ds[k]? = some d) (hn:c-Yq (ds.take k)>=0/\c-Yq (ds.take k)<d.cons.length)
  (hx:d.cons[(c-Yq (ds.take k)).toNat]? = some x):Uk c (ds.drop k) k (Yq (ds.take k))=((k:Int)+1,x.fields):=by
 rw [Yb h,Uk,Zm om,hx];rfl
def Jw (c:Int) (z:Nat) (v:Int):Prop:=v=c-z∨(c<0/\c-z < -9223372036854775808/\v=c-z+18446744073709551616)
theorem OH {c:Int} {z l:Nat} {v:Int} (h:Jw c z v) (hz:z<=100) (hl:l<=3) (hc:-9223372036854775808<=c/\c<=9223372036854775807):Jw c (z+l) (Ac (v-l)):=by
 unfold Jw at *;rw [Ac,IntKind.wrap_i64];omega
theorem P9 {c v:Int} {ds:List Zf} {k:Nat} {d:Zf} {r:Int × List Int} (h:ds[k]? = some d) (ha:Jw c (Yq (ds.take k)) v) (hn:¬(v>=0/\v<d.cons.length))
  (hr:Uk c (ds.drop k) k (Yq (ds.take k))=r):Uk c (ds.drop (k+1)) (k+1) (Yq (ds.take (k+1)))=r:=P8 h (by unfold Jw at ha;omega) hr
theorem Pb {c v:Int} {ds:List Zf} {k:Nat} {d:Zf} {x:Y5} (h:ds[k]? = some d) (ha:Jw c (Yq (ds.take k)) v) (hz:Yq (ds.take k)<=100) (hl:d.cons.length<=3) (hc:-9223372036854775808<=c)
  (hn:v>=0/\v<d.cons.length) (hx:d.cons[v.toNat]? = some x):Uk c (ds.drop k) k (Yq (ds.take k))=((k:Int)+1,x.fields):=by
 have:v=c-(Yq (ds.take k):Int):=by unfold Jw at ha;omega
 subst this
 exact Pa h hn hx
def Wr (ds:List Zf) (t:Int):Zf:=if X5 ds t=true then (ds[(t-1).toNat]?).getD ⟨0,0,[]⟩ else ⟨0,0,[]⟩
end Go.Abs
namespace Go.Abs
abbrev Ia (ds:List Zf) (d:Zf):Prop:=
 (((¬(0<=d.frm/\d.frm<=ds.length))∨(¬(0<=d.to_/\d.to_<=ds.length)))∨((d.cons.length:Int)>3))∨(((d.cons.length:Int)>0)/\((d.frm≠0)∨(d.to_≠0)))
theorem PF {ds:List Zf} {d:Zf} {i:Nat} (h:Ia ds d):VW ds d i=false:=by
 rw [VW]
 split
 ·rw [Zb];rintro ⟨h1,h2,h3⟩
  rcases h with ((h|h)|h)|h<;>omega
 ·split
  ·rfl
  ·rcases h with ((h|h)|h)|h
   ·rw [decide_eq_false h];rfl
   ·rw [decide_eq_false h,Bool.and_false]
   ·omega
   ·omega
theorem PG {ds:List Zf} {d:Zf} {i:Nat} (hl:0<d.cons.length) (h:UO ds.length d.cons=false):VW ds d i=false:=by
 rw [VW,Zm hl];split
 ·exact h
 ·rfl
theorem PH {ds:List Zf} {d:Zf} {i:Nat} (hl:d.cons.length=0) (h:TP d (ds.take i)=true):VW ds d i=false:=by
 rw [VW,Zb om,Zm h]
theorem PI {ds:List Zf} {d:Zf} {i:Nat} (h1:¬Ia ds d) (h2:UO ds.length d.cons=true) (h3:d.cons.length=0->TP d (ds.take i)=false):VW ds d i=true:=by
 rw [VW]
 have ha:0<=d.frm/\d.frm<=ds.length:=U2.1 fun q=>h1 (.inl (.inl (.inl q)))
 have hb:0<=d.to_/\d.to_<=ds.length:=U2.1 fun q=>h1 (.inl (.inl (.inr q)))
 have hc:¬(d.cons.length:Int)>3:=fun q=>h1 (.inl (.inr q))
 split
 ·rename_i hl
  have hd:¬(d.frm≠0∨d.to_≠0):=fun q=>h1 (.inr ⟨by omega,q⟩)
  rw [Zm ⟨by omega,by omega,by omega⟩];exact h2
 ·rw [Zb (by rw [h3 om];simp),decide_eq_true ha,decide_eq_true hb];rfl
theorem Hh {ds:List Zf} {k:Nat} {d:Zf} (h:ds[k]? = some d) (hA:VW ds d k=false) (c:Ul ds (ds.drop k) k=Ul ds ds 0):false=Wf ds:=by
 rw [Wf,<-c,Yb h,Ul,BY h,hA,Zb (by simp),Bool.and_false]
theorem Z74 {ds:List Zf} {k:Nat} {d:Zf} {r:Bool} (h:ds[k]? = some d) (hA:VW ds d k=true) (c:Ul ds (ds.drop k) k=r):Ul ds (ds.drop (k+1)) (k+1)=r:=by
 rw [Yb h,Ul,BY h,hA,Zm rfl] at c;exact c
theorem Z73 {ds:List Zf} {k:Nat} (hl:ds.length<=4) (hk:ds.length<=k) (c:Ul ds (ds.drop k) k=Ul ds ds 0):true=Wf ds:=by
 rw [Wf,<-c,Xx hk,decide_eq_true hl];rfl
theorem Pc {m:Nat} {c:Y5} (h:((c.fields.length:Int)>3)∨(¬(Xi m c.fields=true))):QX m c=false:=by
 rw [QX]
 rcases h with h|h
 ·rw [decide_eq_false om];rfl
 ·rw [Kd.2 h,Bool.and_false]
theorem Pd {m:Nat} {c:Y5} (h:¬(((c.fields.length:Int)>3)∨(¬(Xi m c.fields=true)))):QX m c=true:=by
 rw [QX,U2.1 fun q=>h (.inr q),decide_eq_true (by have:¬(c.fields.length:Int)>3:=fun q=>h (.inl q);omega)];rfl
end Go.Abs
end
section
namespace Go.Abs
structure WG where
 pms:List Int
 lnt:List Int
 res:Int
abbrev Bv (f:WG):List AV:=[Z0 f.pms,Z0 f.lnt,.i f.res]
abbrev CW (f:WG):AV:=.agg (Bv f)
def UB (fs:List WG):List AV:=fs.map CW
abbrev V4 (xs:List WG):AV:=.sl (UB xs) none
abbrev BA (xs:List WG) (v:Value):AV:=.sl (UB xs) (some v)
theorem Bh {xs:List WG} {j:Nat} {x:WG} (h:xs[j]? = some x):(UB xs)[j]? = some (CW x):=by simp [UB,h]
@[simp] theorem C0 (xs:List WG):(UB xs).length=xs.length:=by simp [UB]
theorem Ie (xs:List WG):∀y∈UB xs,y.leaves.length=3:=by intro y hy;simp only [UB,W3] at hy;obtain ⟨x,_,rfl⟩:=hy;rfl
theorem PZ (xs:List WG):(Zl (UB xs)).all AV.one=true:=Ku fun y hy=>by simp only [UB,W3] at hy;obtain ⟨x,_,rfl⟩:=hy;rfl
def XD (r:Yf):WG:=⟨r.params,r.lent,r.result⟩
def KF (m:Nat) (f:WG):Bool:=Qf m ⟨f.pms,f.res⟩&&Ql f.pms f.lnt
def Qg (m:Nat):List WG->Bool
 | []=>true
 | f::r=>if KF m f=true then Qg m r else false
def FB:List WG->Bool
 | []=>false
 | f::_=>decide (f.pms.length=0)&&decide (f.res=0)
def Qm (ds:List Zf) (fs:List WG):Bool:=Wf ds&&(decide (1<=fs.length/\fs.length<=4)&&(FB fs&&Qg ds.length fs))
theorem Iv {fs:List WG} {x:WG} (h:fs[0]? = some x):FB fs=(decide (x.pms.length=0)&&decide (x.res=0)):=by
 cases fs with
 | nil=>simp at h
 | cons f r=>simp at h;subst h;rfl
theorem N2 (m:Nat):∀rs:List Yf,Qg m (rs.map XD)=(QM m (rs.map Vk)&&QF rs)
 | []=>rfl
 | r::rs=>by
  simp only [Uh,Qg,QM,QF,KF,N2 m rs]
  simp only [XD,Vk]
  by_cases h1:Qf m { params:=r.params,result:=r.result }=true<;>by_cases h2:Ql r.params r.lent=true<;>simp [h1,h2]
theorem LY (n:Zy):XV n=(decide (n.routines.length<=4)&&Qm n.decls (n.routines.map XD)):=by
 have hf:FB (n.routines.map XD)=Dq (n.routines.map Vk):=by
  cases n.routines with
  | nil=>rfl
  | cons r rs=>rfl
 rw [XV,Qm,Tq,N2,hf]
 simp only [Ah]
 cases decide (n.routines.length<=4)<;>cases Wf n.decls<;>cases decide (1<=n.routines.length/\n.routines.length<=4)<;>cases QM n.decls.length (n.routines.map Vk) <;>
  cases Dq (n.routines.map Vk)<;>cases QF n.routines<;>rfl
theorem Eh {rs:List Yf} {j:Nat} {x:WG} (h:(rs.map XD)[j]? = some x):∃r,rs[j]? = some r/\x=XD r:=by
 rw [QU] at h
 cases hr:rs[j]? with
 | none=>rw [hr] at h;cases h
 | some r=>rw [hr] at h;cases h;exact ⟨r,rfl,rfl⟩
theorem LO {ps ls:List Int} {j:Nat} {v:Int} {r:Bool} (h:ls[j]? = some v) (hg:(0<=v/\v<=(ps.length:Int)-1)/\ps[v.toNat]?≠some 0/\(∀p,(if j=0 then none else ls[j-1]?)=some p->p<v))
  (hr:TV ps (ls.drop j) (if j=0 then none else ls[j-1]?)=r):TV ps (ls.drop (j+1)) (if j+1=0 then none else ls[j+1-1]?)=r:=by
 rw [Yb h,DV hg] at hr
 rw [Zb om,show j+1-1=j from rfl,h];exact hr
theorem Gm {ps ls:List Int} {j:Nat} {v:Int} {r:Bool} (h:ls[j]? = some v) (hg:¬((0<=v/\v<=(ps.length:Int)-1)/\ps[v.toNat]?≠some 0/\(∀p,(if j=0 then none else ls[j-1]?)=some p->p<v)))
  (hr:TV ps (ls.drop j) (if j=0 then none else ls[j-1]?)=r):r=false:=by
 rw [Yb h,Cr hg] at hr;exact hr.symm
theorem Ei {m:Nat} {fs:List WG} {k:Nat} {f:WG} {r:Bool} (h:fs[k]? = some f) (hb:KF m f=false) (hr:Qg m (fs.drop k)=r):r=false:=by
 rw [Yb h,Qg,hb,Zb (by simp)] at hr;exact hr.symm
theorem Z4l {m:Nat} {fs:List WG} {k:Nat} {f:WG} {r:Bool} (h:fs[k]? = some f) (hb:KF m f=true) (hr:Qg m (fs.drop k)=r):Qg m (fs.drop (k+1))=r:=by
 rw [Yb h,Qg,Zm hb] at hr;exact hr
end Go.Abs
namespace Go.Abs
section
variable {ds:List Zf} {fs:List WG} {x:WG}
theorem Z7c (h:((¬(Wf ds=true))∨((fs.length:Int)<1))∨((fs.length:Int)>4)):false=Qm ds fs:=by
 rw [Qm]
 rcases h with (h|h)|h
 ·rw [Kd.2 h];rfl
 ·rw [decide_eq_false (p:=1<=fs.length/\fs.length<=4) om];simp
 ·rw [decide_eq_false (p:=1<=fs.length/\fs.length<=4) om];simp
theorem NU (hx:fs[0]? = some x) (h:((x.pms.length:Int)>0)∨x.res≠0):false=Qm ds fs:=by
 rw [Qm,Iv hx]
 rcases h with h|h
 ·rw [decide_eq_false (p:=x.pms.length=0) om];simp
 ·rw [decide_eq_false (p:=x.res=0) h];simp
theorem Ew (h:Qg ds.length fs=false):false=Qm ds fs:=by rw [Qm,h];simp
theorem Z7d (h:¬(((¬(Wf ds=true))∨((fs.length:Int)<1))∨((fs.length:Int)>4))) (hx:fs[0]? = some x) (h1:¬((x.pms.length:Int)>0)) (h2:¬x.res≠0) (h3:Qg ds.length fs=true) :
  true=Qm ds fs:=by
 have hv:Wf ds=true:=U2.1 fun q=>h (.inl (.inl q))
 have ha:¬(fs.length:Int)<1:=fun q=>h (.inl (.inr q))
 have hb:¬(fs.length:Int)>4:=fun q=>h (.inr q)
 rw [Qm,Iv hx,hv,h3,decide_eq_true (p:=1<=fs.length/\fs.length<=4) om,decide_eq_true (p:=x.pms.length=0) om,decide_eq_true (p:=x.res=0) (U2.1 h2)];rfl
abbrev N1 (m:Nat) (x:WG):Prop:=(((x.pms.length:Int)>3)∨(¬(Xi m x.pms=true)))∨(¬(0<=x.res/\x.res<=m))
theorem Z41 {m:Nat} (h:N1 m x):KF m x=false:=by
 rw [KF,Qf]
 rcases h with (h|h)|h
 ·rw [decide_eq_false (p:=x.pms.length<=3) om];simp
 ·rw [Kd.2 h];simp
 ·rw [decide_eq_false h];simp
theorem GM {m:Nat} (h:Ql x.pms x.lnt=false):KF m x=false:=by rw [KF,h,Bool.and_false]
theorem Z42 {m:Nat} (h:¬N1 m x) (hl:Ql x.pms x.lnt=true):KF m x=true:=by
 have h1:¬(x.pms.length:Int)>3:=fun q=>h (.inl (.inl q))
 rw [KF,Qf,hl,decide_eq_true (p:=x.pms.length<=3) om,U2.1 fun q=>h (.inl (.inr q)),decide_eq_true (U2.1 fun q=>h (.inr q))];rfl
end
end Go.Abs
namespace Go.Abs
abbrev Xb (n:Zy):AV:=V4 (n.routines.map XD)
end Go.Abs
end
section
namespace Go.Abs
def W0 (us:List Int):List Int->Option (List Int)
 | []=>some []
 | a::r=>match Xw us a with
  | none=>none
  | some t=>match W0 us r with
   | none=>none
   | some ts=>some (t::ts)
theorem He {us:List Int}:∀{args ts:List Int},W0 us args=some ts->∀tys,XR us args tys=true↔ts=tys
 | [],ts,h,tys=>by
  rw [W0] at h;cases h
  cases tys with
  | nil=>simp [XR,UK]
  | cons t r=>simp [XR,UK]
 | a::r,ts,h,tys=>by
  rw [W0] at h
  cases ha:Xw us a with
  | none=>rw [ha] at h;cases h
  | some t=>
   rw [ha] at h
   cases hr:W0 us r with
   | none=>rw [hr] at h;cases h
   | some tr=>
    rw [hr] at h;cases h
    cases tys with
    | nil=>simp [XR,UK]
    | cons t2 r2=>
     rw [XR,UK,ha]
     have:=He hr r2
     rw [XR] at this
     by_cases he:t=t2
     ·subst he;simp [this]
     ·rw [Zb (fun q=>he (Jv q))];simp [he]
theorem HA {us:List Int}:∀{args ts:List Int},W0 us args=some ts->ts.length=args.length
 | [],ts,h=>by rw [W0] at h;cases h;rfl
 | a::r,ts,h=>by
  rw [W0] at h
  cases ha:Xw us a with
  | none=>rw [ha] at h;cases h
  | some t=>
   rw [ha] at h
   cases hr:W0 us r with
   | none=>rw [hr] at h;cases h
   | some tr=>rw [hr] at h;cases h;simp [HA hr]
theorem HB {us:List Int} {b t:Int}:∀{xs ts:List Int},W0 us xs=some ts->Xw us b=some t->W0 us (xs++[b])=some (ts++[t])
 | [],ts,h,hb=>by rw [W0] at h;cases h;simp [W0,hb]
 | a::r,ts,h,hb=>by
  rw [W0] at h
  cases ha:Xw us a with
  | none=>rw [ha] at h;cases h
  | some u=>
   rw [ha] at h
   cases hr:W0 us r with
   | none=>rw [hr] at h;cases h
   | some tr=>
    rw [hr] at h;cases h
    rw [QT,W0,ha,HB hr hb];rfl
def BT (n:Zy) (num:Int):List Int->Option Int
 | [a,b]=>if X5 n.decls a=true/\b=(Wr n.decls a).frm/\num=0 then some (Wr n.decls a).to_ else none
 | _=>none
def Xv (n:Zy) (op num:Int) (ts:List Int):Option Int:=
 if op=0 then (if (-999<=num/\num<=999)/\ts.length=0 then some 0 else none)
 else if op=1∨op=2∨op=3∨op=4 then (if num=0/\ts=[0,0] then some 0 else none)
 else if op=5 then (if num=0/\ts=[0] then some 0 else none)
 else if op=11 then BT n num ts
 else if op=6 then (if 0<=Xt n.decls num/\ts=ZB n.decls num then some (Xt n.decls num) else none)
 else if op=9 then (match Xw n.routines num with
  | none=>none
  | some r=>if ts=r.params then some r.result else none)
 else if op=10 then (match Xw n.routines num with
  | none=>none
  | some r=>if r.params.length≠0/\0<=Qu n.decls r.params r.result/\ts=r.params.take (r.params.length-1) then some (Qu n.decls r.params r.result) else none)
 else none
theorem CZ {n:Zy} {num:Int} {ts:List Int} (h:ts.length≠2):BT n num ts=none:=by
 match ts,h with
 | [],_=>rfl
 | [_],_=>rfl
 | [_,_],h=>simp at h
 | _::_::_::_,_=>rfl
structure B4 (n:Zy):Prop where
 result:∀r∈n.routines,0<=r.result
 params:∀r∈n.routines,∀p∈r.params,0<=p
 decl:∀d∈n.decls,d.cons.length=0->0<=d.frm/\0<=d.to_
 fields:∀c,∀f∈ZB n.decls c,0<=f
abbrev Lo (us:List Int) (s:Z4):Prop:=s.into≠0/\(((s.op≠6∨s.into<1)∨s.into>us.length)∨gI us (s.into-1)=0)
theorem Z0w {us:List Int} {op into:Int} (hnn:∀t∈us,0<=t) (h:¬(into≠0/\(((op≠6∨into<1)∨into>us.length)∨gI us (into-1)=0))):VK us op into=true:=by
 rw [VK]
 split
 ·rfl
 ·rename_i h0
  have h1:¬(((op≠6∨into<1)∨into>us.length)∨gI us (into-1)=0):=fun q=>h ⟨h0,q⟩
  have h2:op=6:=U2.1 fun q=>h1 (.inl (.inl (.inl q)))
  have h3:¬into<1:=fun q=>h1 (.inl (.inl (.inr q)))
  have h4:¬into>us.length:=fun q=>h1 (.inl (.inr q))
  have h5:¬gI us (into-1)=0:=fun q=>h1 (.inr q)
  obtain ⟨t,ht⟩:=Zs (xs:=us) (j:=(into-1).toNat) om
  rw [Zm h2,Tw om ht]
  rw [UQ ht] at h5
  have:=hnn t (Y7 ht)
  simp;omega
theorem Z0v {us:List Int} {op into:Int} (h:into≠0/\(((op≠6∨into<1)∨into>us.length)∨gI us (into-1)=0)):VK us op into=false:=by
 obtain ⟨h0,h⟩:=h
 rw [VK,Zb h0]
 split
 ·rename_i h6
  cases ha:Xw us (into-1) with
  | none=>rfl
  | some t=>
   obtain ⟨a1,a2⟩:=JF ha
   rcases h with ((h|h)|h)|h
   ·exact absurd h6 h
   ·omega
   ·omega
   ·rw [UQ a2] at h;subst h;rfl
 ·rfl
theorem Z6i {n:Zy} {us:List Int} {s:Z4} (h:Lo us s):ZT n us s=-1:=by
 rw [AR,Zm (.inr (.inl (by rw [Z0v h];simp)))]
end Go.Abs
namespace Go.Abs
theorem Z0x {α:Type} {c:Prop} [Decidable c] {v:α}:(if c then some v else none).isSome=decide c:=by split<;>simp_all
theorem Z4m {n:Zy} (hty:B4 n) {op num:Int} {ts:List Int} {x:Int} (h:Xv n op num ts=some x):0<=x:=by
 unfold Xv at h
 split at h
 ·split at h<;>cases h;exact Int.le_refl 0
 split at h
 ·split at h<;>cases h;exact Int.le_refl 0
 split at h
 ·split at h<;>cases h;exact Int.le_refl 0
 split at h
 ·rcases ts with _|⟨a,_|⟨b,_|⟨c,r⟩⟩⟩
  ·cases h
  ·cases h
  ·rw [BT] at h
   split at h
   ·rename_i hq
    cases h
    rw [Wr,Zm hq.1]
    have hA:=hq.1
    simp only [X5,XL,decide_eq_true_eq] at hA
    cases hd:n.decls[(a-1).toNat]? with
    | none=>rw [hd] at hA;simp at hA
    | some d=>
     rw [hd] at hA
     exact (hty.decl d (Y7 hd) (by simpa using hA.2)).2
   ·cases h
  ·cases h
 split at h
 ·split at h
  ·rename_i hq;cases h;exact hq.1
  ·cases h
 split at h
 ·cases ha:Xw n.routines num with
  | none=>rw [ha] at h;cases h
  | some r=>
   rw [ha] at h
   simp only at h
   split at h
   ·cases h;exact hty.result r (Y7 (JF ha).2)
   ·cases h
 split at h
 ·cases ha:Xw n.routines num with
  | none=>rw [ha] at h;cases h
  | some r=>
   rw [ha] at h
   simp only at h
   split at h
   ·rename_i hq;cases h;exact hq.2.1
   ·cases h
 ·cases h
def QO (n:Zy) (us:List Int) (s:Z4) (ts:List Int):Int:=
 if YF s.op=true then (match ts with
  | [t]=>if t≠0/\s.num=0/\s.kids.length=0/\¬((s.op=16∨s.op=17)/\X5 n.decls t=true) then 0 else -1
  | _=>-1)
 else if s.op=7 then (if ts=[0]/\s.num=0 then Uc n us s.op s.num s.kids else -1)
 else if s.op=8 then (if ts=[s.num] then Uc n us s.op s.num s.kids else -1)
 else if 0<s.kids.length∨(s.op=10/\0<(((Xw n.routines s.num).map (·.lent)).getD []).length) then -1
 else (Xv n s.op s.num ts).getD (-1)
theorem Lq {p q:Prop} [Decidable p] [Decidable q] {a b:Int} (h:p↔q):ite p a b=ite q a b:=by
 by_cases hp:p
 ·rw [Zm hp,Zm (h.1 hp)]
 ·rw [Zb hp,Zb (fun z=>hp (h.2 z))]
theorem Aa {n:Zy} {us:List Int} {s:Z4} {ts:List Int} (hnn:∀t∈us,0<=t) (hts:W0 us s.args=some ts) (hi:¬Lo us s):ZT n us s=QO n us s ts:=by
 have hv:=Z0w hnn hi
 have ht:=He hts
 have hl:=HA hts
 have hfirst:((s.num≠0/\¬WM s.op=true)∨¬VK us s.op s.into=true∨(0<s.kids.length/\s.op≠7/\s.op≠8))↔((s.num≠0/\¬WM s.op=true)∨(0<s.kids.length/\s.op≠7/\s.op≠8)):=by
  rw [hv];simp
 rw [AR,Lq hfirst]
 unfold QO
 by_cases hc:YF s.op=true
 ·have hop:14<=s.op/\s.op<=17:=by simpa [YF] using hc
  have hnum:WM s.op=false:=by simp [WM];omega
  rw [Zm hc]
  by_cases hb:s.num≠0∨0<s.kids.length
  ·rw [Zm (by rcases hb with hb|hb;exact .inl ⟨hb,by rw [hnum];simp⟩;exact .inr ⟨hb,by omega,by omega⟩)]
   split
   ·rw [Zb];rintro ⟨h1,h2,h3,h4⟩;omega
   ·rfl
  ·rw [Zb (by rintro (⟨h1,_⟩|⟨h1,_⟩)<;>exact hb (by first|exact .inl h1|exact .inr h1)),Zb om,Zb om,Zb om,Zb om,Zb om,Zb om,Zb om,Zb om,Zm om]
   have Za:s.num=0:=U2.1 fun q=>hb (.inl q)
   have Zw:s.kids.length=0:=by have:¬0<s.kids.length:=fun q=>hb (.inr q);omega
   rcases he:s.args with _|⟨a,_|⟨b,r⟩⟩
   ·rw [he] at hts;rw [W0] at hts;cases hts;rfl
   ·rw [he] at hts
    rw [W0] at hts
    cases ha:Xw us a with
    | none=>rw [ha] at hts;cases hts
    | some t=>
     rw [ha,W0] at hts;cases hts
     rw [Th,ha]
     simp only
     by_cases ht0:t=0
     ·rw [Zm ht0,Zb (fun q=>q.1 ht0)]
     ·rw [Zb ht0]
      by_cases hA:X5 n.decls t=true
      ·by_cases h16:s.op=16∨s.op=17
       ·rw [Zm ⟨by omega,hA⟩,Zb (fun q=>q.2.2.2 ⟨h16,hA⟩)]
       ·rw [Zb (by rintro ⟨q,_⟩;omega),Zm ⟨ht0,Za,Zw,fun q=>h16 q.1⟩]
      ·rw [Zb (fun q=>hA q.2),Zm ⟨ht0,Za,Zw,fun q=>hA q.2⟩]
   ·rw [he] at hl
    rw [show Th n.decls us s.op (a::b::r)=-1 from rfl]
    match ts,hl with
    | [t],hl=>simp at hl
    | [],hl=>simp at hl
    | _::_::_,_=>rfl
 have hop:¬(14<=s.op/\s.op<=17):=by simpa [YF] using hc
 by_cases h7:s.op=7
 ·have hnum:WM s.op=false:=by simp [WM];omega
  conv=>rhs;rw [Zb hc,Zm h7]
  by_cases hb:s.num=0
  ·rw [Zb (fun q=>q.elim (fun z=>z.1 hb) fun z=>z.2.1 h7),Zb om,Zb om,Zb om,Zb om,Zm h7]
   by_cases hq:ts=[0]
   ·rw [Zm ((ht _).2 hq),Zm ⟨hq,hb⟩]
   ·rw [Zb (fun q=>hq ((ht _).1 q)),Zb (fun q=>hq q.1)]
  ·rw [Zm (.inl ⟨hb,by rw [hnum];simp⟩),Zb (fun q=>hb q.2)]
 by_cases h8:s.op=8
 ·have hnum:WM s.op=true:=by simp [WM,h8]
  conv=>rhs;rw [Zb hc,Zb h7,Zm h8]
  rw [Zb (fun q=>q.elim (fun z=>z.2 hnum) fun z=>z.2.2 h8),Zb om,Zb om,Zb om,Zb om,Zb h7,Zm h8]
  by_cases hq:ts=[s.num]
  ·rw [Zm ((ht _).2 hq),Zm hq]
  ·rw [Zb (fun q=>hq ((ht _).1 q)),Zb hq]
 conv=>rhs;rw [Zb hc,Zb h7,Zb h8]
 by_cases hk:0<s.kids.length
 ·rw [Zm (.inr ⟨hk,h7,h8⟩),Zm (.inl hk)]
 by_cases hlent:s.op=10/\0<(((Xw n.routines s.num).map (·.lent)).getD []).length
 ·conv=>rhs;rw [Zm (.inr hlent)]
  have hnum:WM s.op=true:=by simp [WM,hlent.1]
  have h10:=hlent.1
  rw [Zb (fun q=>q.elim (fun z=>z.2 hnum) fun z=>hk z.1),Zb om,Zb om,Zb om,Zb om,Zb h7,Zb h8,Zm (.inr h10),TB]
  cases ha:Xw n.routines s.num with
  | none=>rfl
  | some r=>
   have h2:=hlent.2
   rw [ha] at h2
   simp only [Aj,Option.getD_some] at h2
   simp only
   rw [QK,Zb om,Zm (.inr (.inl h2))]
 conv=>rhs;rw [Zb (fun q=>Or.elim q hk hlent)]
 have sf:∀{X:Option Int},Xv n s.op s.num ts=X->ZT n us s=X.getD (-1)->ZT n us s=(Xv n s.op s.num ts).getD (-1):=fun a b=>by rw [a];exact b
 have hL:=AR n us s
 rw [Lq hfirst] at hL
 rw [<-hL]
 by_cases hnb:s.num≠0/\¬WM s.op=true
 ·have hnn2:¬(s.op=0∨(s.op=6∨(s.op=8∨(s.op=9∨s.op=10)))):=fun q=>hnb.2 (by simpa [WM] using q)
  refine sf (X:=none) ?_ (by rw [hL,Zm (.inl hnb)];rfl)
  unfold Xv
  rw [Zb om]
  split
  ·rw [Zb (fun q=>hnb.1 q.1)]
  split
  ·rw [Zb (fun q=>hnb.1 q.1)]
  split
  ·by_cases hl2:ts.length=2
   ·match ts,hl2 with
    | [a,b],_=>exact Zb fun q=>hnb.1 q.2.2
   ·exact CZ hl2
  rw [Zb om,Zb om,Zb om]
 rw [Zb (fun q=>q.elim hnb fun z=>hk z.1)] at hL
 have hnumf:¬(s.op=0∨(s.op=6∨(s.op=8∨(s.op=9∨s.op=10))))->s.num=0:=fun q=>U2.1 fun z=>hnb ⟨z,fun y=>q (by simpa [WM] using y)⟩
 by_cases h0:s.op=0
 ·rw [Zm h0] at hL
  by_cases hq:s.args.length=0/\(-999<=s.num/\s.num<=999)
  ·exact sf (by unfold Xv;rw [Zm h0,Zm ⟨hq.2,by omega⟩]) (by rw [hL,Zm hq];rfl)
  ·exact sf (by unfold Xv;rw [Zm h0,Zb (fun q=>hq ⟨by omega,q.1⟩)]) (by rw [hL,Zb hq];rfl)
 rw [Zb h0] at hL
 by_cases h1:s.op=1∨s.op=2∨s.op=3∨s.op=4
 ·rw [Zm h1] at hL
  by_cases hq:ts=[0,0]
  ·exact sf (by unfold Xv;rw [Zb h0,Zm h1,Zm ⟨hnumf om,hq⟩]) (by rw [hL,Zm ((ht _).2 hq)];rfl)
  ·exact sf (by unfold Xv;rw [Zb h0,Zm h1,Zb (fun q=>hq q.2)]) (by rw [hL,Zb (fun q=>hq ((ht _).1 q))];rfl)
 rw [Zb h1] at hL
 by_cases h5:s.op=5
 ·rw [Zm h5] at hL
  by_cases hq:ts=[0]
  ·exact sf (by unfold Xv;rw [Zb h0,Zb h1,Zm h5,Zm ⟨hnumf om,hq⟩]) (by rw [hL,Zm ((ht _).2 hq)];rfl)
  ·exact sf (by unfold Xv;rw [Zb h0,Zb h1,Zm h5,Zb (fun q=>hq q.2)]) (by rw [hL,Zb (fun q=>hq ((ht _).1 q))];rfl)
 rw [Zb h5] at hL
 by_cases h6:s.op=6
 ·rw [Zm h6] at hL
  have hct:0<Xt n.decls s.num↔0<=Xt n.decls s.num:=by
   rcases Int.lt_or_le (Xt n.decls s.num) 1 with q|q
   ·have:=(Dd q).2;omega
   ·omega
  by_cases hq:0<=Xt n.decls s.num/\ts=ZB n.decls s.num
  ·exact sf (by unfold Xv;rw [Zb h0,Zb h1,Zb h5,Zb om,Zm h6,Zm hq]) (by rw [hL,Zm ⟨hct.2 hq.1,(ht _).2 hq.2⟩];rfl)
  ·exact sf (by unfold Xv;rw [Zb h0,Zb h1,Zb h5,Zb om,Zm h6,Zb hq]) (by rw [hL,Zb (fun q=>hq ⟨hct.1 q.1,(ht _).1 q.2⟩)];rfl)
 rw [Zb h6,Zb h7,Zb h8] at hL
 by_cases h9:s.op=9
 ·rw [Zm (.inl h9),TB] at hL
  cases ha:Xw n.routines s.num with
  | none=>exact sf (by unfold Xv;rw [Zb h0,Zb h1,Zb h5,Zb om,Zb h6,Zm h9,ha]) (by rw [hL,ha];rfl)
  | some r=>
   rw [ha] at hL
   simp only at hL
   rw [QK,Zm h9] at hL
   have hF:∀{X:Option Int},(if ts=r.params then some r.result else none)=X->Xv n s.op s.num ts=X:=fun q=>by
    unfold Xv;rw [Zb h0,Zb h1,Zb h5,Zb om,Zb h6,Zm h9,ha];exact q
   by_cases hq:ts=r.params
   ·exact sf (hF (Zm hq)) (by rw [hL,Zm ((ht _).2 hq)];rfl)
   ·exact sf (hF (Zb hq)) (by rw [hL,Zb (fun q=>hq ((ht _).1 q))];rfl)
 by_cases h10:s.op=10
 ·rw [Zm (.inr h10),TB] at hL
  cases ha:Xw n.routines s.num with
  | none=>exact sf (by unfold Xv;rw [Zb h0,Zb h1,Zb h5,Zb om,Zb h6,Zb h9,Zm h10,ha]) (by rw [hL,ha];rfl)
  | some r=>
   rw [ha] at hL hlent
   simp only [Aj,Option.getD_some] at hL hlent
   rw [QK,Zb h9] at hL
   have hF:∀{X:Option Int},(if r.params.length≠0/\0<=Qu n.decls r.params r.result/\ts=r.params.take (r.params.length-1) then some (Qu n.decls r.params r.result) else none)=X->Xv n s.op s.num ts=X:=fun q=>by
    unfold Xv;rw [Zb h0,Zb h1,Zb h5,Zb om,Zb h6,Zb h9,Zm h10,ha];exact q
   by_cases hp:r.params.length=0
   ·exact sf (hF (Zb fun q=>q.1 hp)) (by rw [hL,Zm (.inl hp)];rfl)
   by_cases hq:ts=r.params.take (r.params.length-1)
   ·rw [Zb (fun z=>z.elim hp fun z=>z.elim (fun z=>hlent ⟨h10,z⟩) fun z=>z ((ht _).2 hq))] at hL
    by_cases har:0<=Qu n.decls r.params r.result
    ·exact sf (hF (Zm ⟨hp,har,hq⟩)) hL
    ·refine sf (hF (Zb fun q=>har q.2.1)) ?_
     have key:∀(l:List Zf) (i:Nat) (f t:Int),¬0<=Q8 f t l i->Q8 f t l i=-1:=by
      intro l
      induction l with
      | nil=>intro i f t _;rfl
      | cons d r ih=>
       intro i f t hn
       rw [Q8] at hn ⊢
       split
       ·rename_i hh;rw [Zm hh] at hn;omega
       ·rename_i hh;rw [Zb hh] at hn;exact ih _ _ _ hn
     exact hL.trans (key _ _ _ _ har)
   ·exact sf (hF (Zb fun q=>hq q.2.2)) (by rw [hL,Zm (.inr (.inr fun q=>hq ((ht _).1 q)))];rfl)
 rw [Zb om] at hL
 by_cases h11:s.op=11
 ·rw [Zm h11] at hL
  have hn0:=hnumf om
  have hF:∀{X:Option Int},BT n s.num ts=X->Xv n s.op s.num ts=X:=fun q=>by
   unfold Xv;rw [Zb h0,Zb h1,Zb h5,Zm h11];exact q
  rcases he:s.args with _|⟨a,_|⟨b,_|⟨c,r⟩⟩⟩
  ·rw [he] at hts hL;rw [W0] at hts;cases hts;exact sf (hF rfl) hL
  ·rw [he] at hl hL
   exact sf (hF (CZ (by simp at hl;omega))) hL
  ·rw [he] at hts hL
   rw [W0] at hts
   cases ha:Xw us a with
   | none=>rw [ha] at hts;cases hts
   | some t=>
    rw [ha,W0] at hts
    cases hb:Xw us b with
    | none=>rw [hb] at hts;cases hts
    | some t2=>
     rw [hb,W0] at hts;cases hts
     rw [TN,ha] at hL
     simp only at hL
     by_cases hA:X5 n.decls t=true
     ·rw [Zm hA] at hL
      have hA2:=hA
      simp only [X5,XL,decide_eq_true_eq] at hA2
      cases hd:n.decls[(t-1).toNat]? with
      | none=>rw [hd] at hA2;simp at hA2
      | some d=>
       rw [hd] at hL
       simp only at hL
       have hD:Wr n.decls t=d:=by rw [Wr,Zm hA,hd];rfl
       have h2:=He (us:=us) (args:=[b]) (ts:=[t2]) (by rw [W0,hb,W0]) [d.frm]
       by_cases hq:t2=d.frm
       ·exact sf (hF (Zm ⟨hA,by rw [hD];exact hq,hn0⟩)) (by rw [hL,Zm (h2.2 (by rw [hq])),hD];rfl)
       ·exact sf (hF (Zb fun q=>hq (by rw [hD] at q;exact q.2.1))) (by rw [hL,Zb (fun q=>hq (by simpa using h2.1 q))];rfl)
     ·exact sf (hF (Zb fun q=>hA q.1)) (by rw [hL,Zb hA];rfl)
  ·rw [he] at hl hL
   exact sf (hF (CZ (by simp at hl;omega))) hL
 rw [Zb h11,Zb om] at hL
 exact sf (X:=none) (by unfold Xv;rw [Zb h0,Zb h1,Zb h5,Zb h11,Zb h6,Zb h9,Zb h10]) hL
end Go.Abs
namespace Go.Abs
theorem M4:∀(n:Nat) (f:Int) (k:Nat) (x:Int),(Wu f n)[k]? = some x->x=f+k/\k<n
 | 0,f,k,x,h=>by simp [Wu] at h
 | n+1,f,k,x,h=>by
  rw [Wu] at h
  cases k with
  | zero=>simp at h;subst h;exact ⟨by omega,by omega⟩
  | succ k=>have:=M4 n (f+1) k x (by simpa using h);exact ⟨by omega,by omega⟩
theorem Pf {ds:List Zf} (hd:Wm ds) {t:Int} {k:Nat} {x:Int} (h:(Zu ds t)[k]? = some x):0<=x/\x<=100:=by
 rw [Zu] at h
 split at h
 ·rename_i ht
  obtain ⟨d,hd1⟩:=Zs (xs:=ds) (j:=(t-1).toNat) om
  rw [hd1] at h
  have:=M4 _ _ _ _ h
  have h3:=hd.cons_at hd1
  have h4:=(hd.take (t-1).toNat).sum
  simp only [Aj,Option.getD_some] at this
  omega
 ·simp at h
end Go.Abs
namespace Go.Abs
section
variable {S:Option Int} {c:Prop} [Decidable c] {v:Int} {b:Bool}
theorem A4 (h:S=if c then some v else none) (hb:b=true↔c):b=S.isSome:=by rw [h,Z0x,Xm,hb,decide_eq_true_iff]
theorem A5 (h:S=if c then some v else none):∀x,S=some x->v=x:=by
 intro x hx;rw [h] at hx;split at hx
 ·exact Jv hx
 ·cases hx
theorem CG (h:S=none):false=S.isSome:=by rw [h];rfl
theorem CH (h:S=none):∀x,S=some x->v=x:=by intro x hx;rw [h] at hx;cases hx
end
section
variable {n:Zy} {op num:Int} {ts:List Int}
theorem sf0 (h:op=0):Xv n op num ts=if (-999<=num/\num<=999)/\ts.length=0 then some 0 else none:=by unfold Xv;rw [Zm h]
theorem sf1 (h:op=1∨op=2∨op=3∨op=4):Xv n op num ts=if num=0/\ts=[0,0] then some 0 else none:=by unfold Xv;rw [Zb om,Zm h]
theorem sf5 (h:op=5):Xv n op num ts=if num=0/\ts=[0] then some 0 else none:=by unfold Xv;rw [Zb om,Zb om,Zm h]
theorem N0 (h:op=11):Xv n op num ts=BT n num ts:=by unfold Xv;rw [Zb om,Zb om,Zb om,Zm h]
theorem Z4i (h:op=11) (hl:(ts.length:Int)≠2):Xv n op num ts=none:=(N0 h).trans (CZ om)
theorem GR (h:op=11) {a b:Int} (hl:¬(ts.length:Int)≠2) (ha:ts[0]? = some a) (hb:ts[1]? = some b) :
  Xv n op num ts=if X5 n.decls a=true/\b=(Wr n.decls a).frm/\num=0 then some (Wr n.decls a).to_ else none:=by
 rw [N0 h]
 match ts,hl,ha,hb with
 | [x,y],_,ha,hb=>simp at ha hb;subst ha;subst hb;rfl
 | [],hl,_,_=>simp at hl
 | [_],hl,_,_=>simp at hl
 | _::_::_::_,hl,_,_=>simp at hl;omega
theorem Z4h (h:op=11) {a:Int} (hl:¬(ts.length:Int)≠2) (ha:ts[0]? = some a) (hn:¬X5 n.decls a=true):Xv n op num ts=none:=by
 obtain ⟨b,hb⟩:=Zs (xs:=ts) (j:=1) om
 rw [GR h hl ha hb,Zb fun q=>hn q.1]
theorem sf6 (h:op=6):Xv n op num ts=if 0<=Xt n.decls num/\ts=ZB n.decls num then some (Xt n.decls num) else none:=by
 unfold Xv;rw [Zb om,Zb om,Zb om,Zb om,Zm h]
theorem Z4j (h:op=9∨op=10) (hr:num<0∨num>=(((n.routines.map XD).length:Nat):Int)):Xv n op num ts=none:=by
 have ha:Xw n.routines num=none:=Q9 (by simp at hr;omega)
 unfold Xv
 rw [Zb om,Zb om,Zb om,Zb om,Zb om]
 rcases h with h|h
 ·rw [Zm h,ha]
 ·rw [Zb om,Zm h,ha]
theorem sf9 (h:op=9) {x:WG} (hr:¬(num<0∨num>=(((n.routines.map XD).length:Nat):Int))) (hx:(n.routines.map XD)[num.toNat]? = some x) :
  Xv n op num ts=if ts=x.pms then some x.res else none:=by
 obtain ⟨r,h1,rfl⟩:=Eh hx
 have ha:Xw n.routines num=some r:=Tw (by simp at hr;omega) h1
 unfold Xv
 rw [Zb om,Zb om,Zb om,Zb om,Zb om,Zm h,ha];rfl
theorem Z4g (h:op=10) {x:WG} (hr:¬(num<0∨num>=(((n.routines.map XD).length:Nat):Int))) (hx:(n.routines.map XD)[num.toNat]? = some x) (hp:(x.pms.length:Int)-1<0) :
  Xv n op num ts=none:=by
 obtain ⟨r,h1,rfl⟩:=Eh hx
 have ha:Xw n.routines num=some r:=Tw (by simp at hr;omega) h1
 have hp':r.params.length=0:=by simp only [XD] at hp;omega
 unfold Xv
 rw [Zb om,Zb om,Zb om,Zb om,Zb om,Zb om,Zm h,ha]
 exact Zb fun q=>q.1 hp'
theorem Z4f (h:op=10) {x:WG} {l:Int} (hr:¬(num<0∨num>=(((n.routines.map XD).length:Nat):Int))) (hx:(n.routines.map XD)[num.toNat]? = some x) (hp:¬(x.pms.length:Int)-1<0)
  (hl:x.pms[((x.pms.length:Int)-1).toNat]? = some l) :
  Xv n op num ts=if 0<=WT n.decls l x.res/\ts=x.pms.take ((x.pms.length:Int)-1).toNat then some (WT n.decls l x.res) else none:=by
 obtain ⟨r,h1,rfl⟩:=Eh hx
 have ha:Xw n.routines num=some r:=Tw (by simp at hr;omega) h1
 simp only [XD] at hp hl ⊢
 have hq:((r.params.length:Int)-1).toNat=r.params.length-1:=by omega
 have ht:r.params.take ((r.params.length:Int)-1).toNat=r.params.take (r.params.length-1):=Yv (fun k=>r.params.take k) hq
 have hl':r.params[r.params.length-1]? = some l:=by rw [<-hl];exact Yv (fun k=>r.params[k]?) hq.symm
 have hlast:Qu n.decls r.params r.result=WT n.decls l r.result:=by rw [Qu,L6 hl']
 unfold Xv
 rw [Zb om,Zb om,Zb om,Zb om,Zb om,Zb om,Zm h,ha]
 simp only [hlast]
 by_cases hc:0<=WT n.decls l r.result/\ts=r.params.take (r.params.length-1)
 ·rw [Zm ⟨by omega,hc⟩]
  exact (Zm ⟨hc.1,hc.2.trans ht.symm⟩).symm
 ·rw [Zb fun q=>hc q.2]
  exact (Zb (fun q=>hc ⟨q.1,q.2.trans ht⟩)).symm
theorem sfd (h0:¬op=0) (h1:¬(op=1∨op=2∨op=3∨op=4)) (h5:¬op=5) (h11:¬op=11) (h6:¬op=6) (h9:¬(op=9∨op=10)):Xv n op num ts=none:=by
 unfold Xv;rw [Zb h0,Zb h1,Zb h5,Zb h11,Zb h6,Zb om,Zb om]
end
end Go.Abs
end
namespace Go.Abs
mutual
def Z4.rng:Z4->Prop
 | .mk _ num _ _ kids=>(-9223372036854775808<=num/\num<=9223372036854775807)/\TO kids
def Z7.rng:Z7->Prop
 | .mk steps _=>Qj steps
def Qj:List Z4->Prop
 | []=>True
 | s::r=>s.rng/\Qj r
def TO:List Z7->Prop
 | []=>True
 | b::r=>b.rng/\TO r
end
theorem Z4.rng_eq (s:Z4):s.rng=((-9223372036854775808<=s.num/\s.num<=9223372036854775807)/\TO s.kids):=by cases s;rw [Z4.rng];rfl
theorem Z7.rng_eq (b:Z7):b.rng=Qj b.steps:=by cases b;rw [Z7.rng];rfl
theorem Ns:∀{xs:List Z4} {k:Nat} {s:Z4},Qj xs->xs[k]? = some s->s.rng
 | [],k,s,_,h=>by simp at h
 | x::r,0,s,hr,h=>by rw [Qj] at hr;simp at h;subst h;exact hr.1
 | x::r,k+1,s,hr,h=>by rw [Qj] at hr;exact Ns (k:=k) hr.2 (by simpa using h)
theorem HP:∀{xs:List Z7} {k:Nat} {b:Z7},TO xs->xs[k]? = some b->b.rng
 | [],k,s,_,h=>by simp at h
 | x::r,0,s,hr,h=>by rw [TO] at hr;simp at h;subst h;exact hr.1
 | x::r,k+1,s,hr,h=>by rw [TO] at hr;exact HP (k:=k) hr.2 (by simpa using h)
theorem Hf {us:List Int}:∀{args:List Int},W0 us args=none->∀tys,XR us args tys=false
 | [],h,tys=>by rw [W0] at h;cases h
 | a::r,h,tys=>by
  cases tys with
  | nil=>simp [XR,UK]
  | cons t ts=>
   rw [W0] at h
   rw [XR,UK]
   cases ha:Xw us a with
   | none=>simp
   | some u=>
    rw [ha] at h
    cases hr:W0 us r with
    | none=>
     have:=Hf hr ts
     rw [XR] at this
     by_cases he:u=t
     ·subst he;simpa using this
     ·rw [Zb (fun q=>he (Jv q))]
    | some tr=>rw [hr] at h;cases h
theorem Z6h {n:Zy} {us:List Int} {s:Z4} (h:W0 us s.args=none):ZT n us s=-1:=by
 have ht:=Hf h
 rw [AR]
 split
 ·rfl
 split
 ·rw [Zb];rintro ⟨q,_⟩
  have:s.args=[]:=List.length_eq_zero_iff.1 q
  rw [this,W0] at h;cases h
 split
 ·rw [Zb (by rw [ht];simp)]
 split
 ·rw [Zb (by rw [ht];simp)]
 split
 ·rw [Zb (by rw [ht];simp)]
 split
 ·rw [Zb (by rw [ht];simp)]
 split
 ·rw [Zb (by rw [ht];simp)]
 split
 ·rw [TB]
  cases Xw n.routines s.num with
  | none=>rfl
  | some r=>
   simp only
   rw [QK]
   split
   ·rw [Zb (by rw [ht];simp)]
   ·rw [Zm (.inr (.inr (by rw [ht];simp)))]
 split
 ·match hA:s.args with
  | []=>rfl
  | [_]=>rfl
  | [a,b]=>
   rw [TN]
   rw [hA,W0] at h
   cases ha:Xw us a with
   | none=>rfl
   | some t=>
    rw [ha] at h
    simp only at h ⊢
    split
    ·cases n.decls[(t-1).toNat]? with
     | none=>rfl
     | some d=>
      simp only
      rw [Zb]
      cases hb:W0 us [b] with
      | none=>rw [Hf hb];simp
      | some tr=>rw [hb] at h;cases h
    ·rfl
  | _::_::_::_=>rfl
 split
 ·match hA:s.args with
  | []=>rfl
  | [a]=>
   rw [Th]
   rw [hA,W0] at h
   cases ha:Xw us a with
   | none=>rfl
   | some t=>rw [ha,W0] at h;cases h
  | _::_::_=>rfl
 ·rfl
theorem Hz {us:List Int} {a:Int}:∀{xs:List Int} {k:Nat},xs[k]? = some a->Xw us a=none->W0 us xs=none
 | [],k,h,_=>by simp at h
 | x::r,0,h,ha=>by simp at h;subst h;rw [W0,ha]
 | x::r,k+1,h,ha=>by
  have:=Hz (xs:=r) (k:=k) (by simpa using h) ha
  rw [W0]
  cases Xw us x with
  | none=>rfl
  | some t=>simp only [this]
theorem Z1f {n:Zy} {us:List Int} {ks:List Z7} {ms:List (List Int)} (h:0<ks.length) (t:Int) :
  Wi n us (ks.drop 0) (ms.drop 0) (decide (0=0)) t=Wi n us ks ms true 0:=by
 cases ks with
 | nil=>simp at h
 | cons b bs=>
  cases ms with
  | nil=>rw [Jr,Jr,Wi,Wi]
  | cons m r=>
   simp only [Jr,decide_true]
   rw [Wi,Wi];simp
theorem HR {b:Z7}:∀{ks:List Z7} {k:Nat},ks[k]? = some b->b.sz<=YY ks
 | [],k,h=>by simp at h
 | x::r,0,h=>by simp at h;subst h;rw [YY];omega
 | x::r,k+1,h=>by have:=HR (ks:=r) (k:=k) (by simpa using h);rw [YY];omega
theorem CN (us m:List Int):[us,m].flatten=us++m:=by simp
theorem IG {xs:List Int} {i:Int} (h:i.toNat<xs.length):xs[i.toNat]? = some (gI xs i):=by rw [gI,Af h];rfl
theorem Dw {xs:List Int} (h:0<xs.length):xs[0]? = some (gI xs 0):=IG (i:=0) h
def Tc (n:Zy) (num:Int):WG:=((n.routines.map XD)[num.toNat]?).getD ⟨[],[],0⟩
theorem Z4k {n:Zy} {i:Int} (h:i.toNat<(n.routines.map XD).length):(n.routines.map XD)[i.toNat]? = some (Tc n i):=by rw [Tc,Af h];rfl
theorem LX {us m:List Int} (h1:∀t∈us,0<=t) (h2:∀t∈m,0<=t):∀t∈us++m,0<=t:=fun t h=>(Xr.1 h).elim (h1 t) (h2 t)
theorem JE {us:List Int} {args ts:List Int} {k:Nat} (h:W0 us (args.take k)=some ts) (hk:args.length<=k):W0 us args=some ts:=by
 rw [Ve hk] at h;exact h
theorem Oz {us:List Int} {args ts:List Int} {k:Nat} {a t:Int} (h:W0 us (args.take k)=some ts) (ha:args[k]? = some a) (ht:Xw us a=some t):W0 us (args.take (k+1))=some (ts++[t]):=by
 rw [WO ha];exact HB h ht
theorem M8 {ts:List Int} (h:(ts.length:Int)=1):ts=[gI ts 0]:=by
 match ts,h with
 | [a],_=>rfl
section
variable {n:Zy} {us ts:List Int} {s:Z4}
theorem Jf {p1 p2 p3 p4 p5:Prop}:(p1/\(p2∨(p3∨(p4∨p5))))↔(p1/\(((p2∨p3)∨p4)∨p5)):=by simp only [or_assoc]
def Db (n:Zy) (s:Z4) (ts:List Int):Int:=match ts with
  | [t]=>if t≠0/\s.num=0/\s.kids.length=0/\¬((s.op=16∨s.op=17)/\X5 n.decls t=true) then 0 else -1
  | _=>-1
theorem A9:QO n us s ts =
 if YF s.op=true then Db n s ts
 else if s.op=7 then (if ts=[0]/\s.num=0 then Uc n us s.op s.num s.kids else -1)
 else if s.op=8 then (if ts=[s.num] then Uc n us s.op s.num s.kids else -1)
 else if 0<s.kids.length∨(s.op=10/\0<(((Xw n.routines s.num).map (·.lent)).getD []).length) then -1
 else (Xv n s.op s.num ts).getD (-1):=by unfold QO Db;rfl
theorem HZ (h:(ts.length:Int)=1):Db n s ts=if gI ts 0≠0/\s.num=0/\s.kids.length=0/\¬((s.op=16∨s.op=17)/\X5 n.decls (gI ts 0)=true) then 0 else -1:=by
 match ts,h with
 | [a],_=>rfl
theorem P3 (h:(ts.length:Int)≠1):Db n s ts=-1:=by
 match ts,h with
 | [],_=>rfl
 | [a],h=>exact absurd rfl h
 | _::_::_,_=>rfl
theorem Z5z (hS:ZT n us s=QO n us s ts) (hc:YF s.op=true)
  (h:((((ts.length:Int)=1/\gI ts 0≠0)/\s.num=0)/\(s.kids.length:Int)=0)/\(s.op=16∨s.op=17)) :
  (!X5 n.decls (gI ts 0))=decide (0<=ZT n us s):=by
 obtain ⟨⟨⟨⟨h1,h2⟩,h3⟩,h4⟩,h5⟩:=h
 have h4':s.kids.length=0:=by omega
 rw [hS,A9,Zm hc,HZ h1]
 cases hA:X5 n.decls (gI ts 0)
 ·rw [Zm ⟨h2,h3,h4',by simp⟩];rfl
 ·rw [Zb (fun q=>q.2.2.2 ⟨h5,rfl⟩)];rfl
theorem Z60 (hS:ZT n us s=QO n us s ts) (hc:YF s.op=true)
  (h:¬(((((ts.length:Int)=1/\gI ts 0≠0)/\s.num=0)/\(s.kids.length:Int)=0)/\(s.op=16∨s.op=17))) :
  ((((((ts.length:Int)==1)&&(gI ts 0 != 0))&&(s.num==0))&&((s.kids.length:Int)==0)))=decide (0<=ZT n us s):=by
 rw [hS,A9,Zm hc]
 by_cases h1:(ts.length:Int)=1
 ·rw [HZ h1]
  by_cases h2:(gI ts 0≠0/\s.num=0)/\(s.kids.length:Int)=0
  ·obtain ⟨⟨h2,h3⟩,h4⟩:=h2
   have h4':s.kids.length=0:=by omega
   rw [Zm ⟨h2,h3,h4',fun q=>h ⟨⟨⟨⟨h1,h2⟩,h3⟩,h4⟩,q.1⟩⟩,Zh.2 h1,Yc.2 h2,Zh.2 h3,Zh.2 h4];rfl
  ·rw [Zb (fun q=>h2 ⟨⟨q.1,q.2.1⟩,by have:=q.2.2.1;omega⟩)]
   show _=false
   rw [Kd];intro q
   obtain ⟨⟨⟨_,q1⟩,q2⟩,q3⟩:=(YE (YE (YE Zh Yc) Zh) Zh).1 q
   exact h2 ⟨⟨q1,q2⟩,q3⟩
 ·rw [P3 h1]
  show _=false
  rw [Kd];intro q
  obtain ⟨⟨⟨q1,_⟩,_⟩,_⟩:=(YE (YE (YE Zh Yc) Zh) Zh).1 q
  exact h1 q1
theorem Z5v (hS:ZT n us s=QO n us s ts) (hc:¬YF s.op=true) (h7:s.op=7)
  (h:(((ts.length:Int)≠1∨gI ts 0≠0)∨s.num≠0)∨(s.kids.length:Int)≠2):ZT n us s=-1:=by
 rw [hS,A9,Zb hc,Zm h7]
 split
 ·rename_i q
  obtain ⟨q1,q2⟩:=q
  rw [q1] at h
  rw [Uc,Zm]
  right
  rw [X6,Zm h7]
  have:gI [0] 0=0:=rfl
  simp [this] at h
  show s.kids.length≠2
  omega
 ·rfl
theorem Z5w (hS:ZT n us s=QO n us s ts) (hc:¬YF s.op=true) (h7:s.op=7)
  (h:¬((((ts.length:Int)≠1∨gI ts 0≠0)∨s.num≠0)∨(s.kids.length:Int)≠2)):ZT n us s=Wi n us s.kids (List.replicate 2 []) true 0:=by
 have h1:(ts.length:Int)=1:=U2.1 fun q=>h (.inl (.inl (.inl q)))
 have h2:gI ts 0=0:=U2.1 fun q=>h (.inl (.inl (.inr q)))
 have h3:s.num=0:=U2.1 fun q=>h (.inl (.inr q))
 have h4:(s.kids.length:Int)=2:=U2.1 fun q=>h (.inr q)
 rw [hS,A9,Zb hc,Zm h7,Zm ⟨by rw [M8 h1,h2],h3⟩,Uc,Zb]
 ·rw [X6,Zm h7];rfl
 ·rw [X6,Zm h7];simp;omega
theorem Z5x (hS:ZT n us s=QO n us s ts) (hc:¬YF s.op=true) (h7:¬s.op=7) (h8:s.op=8)
  (h:(ts.length:Int)≠1∨(gI ts 0≠s.num∨(((((Zu n.decls s.num).map (ZB n.decls)).length:Nat):Int)=0∨(s.kids.length:Int)≠((((Zu n.decls s.num).map (ZB n.decls)).length:Nat):Int)))):ZT n us s=-1:=by
 rw [hS,A9,Zb hc,Zb h7,Zm h8]
 split
 ·rename_i q
  have hg:gI ts 0=s.num:=by rw [q];rfl
  have hl:(ts.length:Int)=1:=by rw [q];rfl
  rw [Uc,Zm]
  rw [X6,Zb h7]
  omega
 ·rfl
theorem Z5y (hS:ZT n us s=QO n us s ts) (hc:¬YF s.op=true) (h7:¬s.op=7) (h8:s.op=8)
  (h:¬((ts.length:Int)≠1∨(gI ts 0≠s.num∨(((((Zu n.decls s.num).map (ZB n.decls)).length:Nat):Int)=0∨(s.kids.length:Int)≠((((Zu n.decls s.num).map (ZB n.decls)).length:Nat):Int))))) :
  ZT n us s=Wi n us s.kids ((Zu n.decls s.num).map (ZB n.decls)) true 0:=by
 have h1:(ts.length:Int)=1:=U2.1 fun q=>h (.inl q)
 have h2:gI ts 0=s.num:=U2.1 fun q=>h (.inr (.inl q))
 rw [hS,A9,Zb hc,Zb h7,Zm h8,Zm (by rw [M8 h1,h2]),Uc,Zb]
 ·rw [X6,Zb h7]
 ·rw [X6,Zb h7];omega
theorem Z1y {n:Zy} {num:Int}:(((Xw n.routines num).map (·.lent)).getD []).length=if 0<=num/\num<(((n.routines.map XD).length:Nat):Int) then (Tc n num).lnt.length else 0:=by
 split
 ·rename_i h
  rw [Ah] at h
  obtain ⟨r,hr⟩:=Zs (xs:=n.routines) (j:=num.toNat) om
  rw [Tw om hr,Tc,QU,hr];rfl
 ·rename_i h
  rw [Ah] at h
  rw [Q9 om];rfl
theorem Nw:(0<s.kids.length∨(s.op=10/\0<(((Xw n.routines s.num).map (·.lent)).getD []).length)) ↔
  ((s.kids.length:Int)>0∨(s.op=10/\(s.num>=0/\(s.num<(((n.routines.map XD).length:Nat):Int)/\((((Tc n s.num).lnt).length:Nat):Int)>0)))):=by
 rw [Z1y]
 by_cases hq:0<=s.num/\s.num<(((n.routines.map XD).length:Nat):Int)
 ·rw [Zm hq];omega
 ·rw [Zb hq];omega
theorem stB (hS:ZT n us s=QO n us s ts) (hc:¬YF s.op=true) (h7:¬s.op=7) (h8:¬s.op=8)
  (h:((s.kids.length:Int)>0∨(s.op=10/\(s.num>=0/\(s.num<(((n.routines.map XD).length:Nat):Int)/\((((Tc n s.num).lnt).length:Nat):Int)>0))))):ZT n us s=-1:=by
 rw [hS,A9,Zb hc,Zb h7,Zb h8,Zm (Nw.2 h)]
theorem stS (hS:ZT n us s=QO n us s ts) (hc:¬YF s.op=true) (h7:¬s.op=7) (h8:¬s.op=8)
  (h:¬((s.kids.length:Int)>0∨(s.op=10/\(s.num>=0/\(s.num<(((n.routines.map XD).length:Nat):Int)/\((((Tc n s.num).lnt).length:Nat):Int)>0))))):ZT n us s=(Xv n s.op s.num ts).getD (-1):=by
 rw [hS,A9,Zb hc,Zb h7,Zb h8,Zb (fun q=>h (Nw.1 q))]
theorem Z61 (hty:B4 n) (h:ZT n us s=(Xv n s.op s.num ts).getD (-1)):(Xv n s.op s.num ts).isSome=decide (0<=ZT n us s):=by
 rw [h]
 cases hs:Xv n s.op s.num ts with
 | none=>rfl
 | some x=>have:=Z4m hty hs;simp [this]
theorem Z62 {t:Int} (h:ZT n us s=(Xv n s.op s.num ts).getD (-1)) (hp:∀x,Xv n s.op s.num ts=some x->t=x):¬YF s.op=true->0<=ZT n us s->t=ZT n us s:=by
 intro _ h0
 rw [h] at h0 ⊢
 cases hs:Xv n s.op s.num ts with
 | none=>rw [hs] at h0;exact absurd h0 (by decide)
 | some x=>exact hp x hs
end
theorem Z6g {n:Zy} {us:List Int} {s:Z4} (h:0<=ZT n us s):(0<=s.op/\s.op<=11)∨(14<=s.op/\s.op<=17):=by
 rw [AR] at h
 by_cases hq:(0<=s.op/\s.op<=11)∨(14<=s.op/\s.op<=17)
 ·exact hq
 ·exfalso
  split at h
  ·omega
  rw [Zb om,Zb om,Zb om,Zb om,Zb om,Zb om,Zb om,Zb om,Zb om] at h
  omega
theorem Fh {n:Zy} {us:List Int} {s:Z4} (h:0<=ZT n us s):Xf s.op=!YF s.op:=by
 have:=Z6g h
 rw [Xf,YF,Xm];simp;omega
theorem Z6j {n:Zy} {xs:List Z4} {vs:List Int} {k:Nat} {s:Z4} {t:Int} {r:Option (List Int)} (hs:xs[k]? = some s) (h:0<=ZT n vs s) (ht:¬YF s.op=true->0<=ZT n vs s->t=ZT n vs s)
  (hr:V7 n (xs.drop k) vs=r):V7 n (xs.drop (k+1)) (if YF s.op=true then vs else vs++[t])=r:=by
 rw [Yb hs,V7,Zb om] at hr
 rw [<-hr,Fh h]
 by_cases hc:YF s.op=true
 ·rw [Zm hc,hc];rfl
 ·rw [Zb hc,Zm (by simpa using hc),ht hc h]
theorem Z6k {n:Zy} {xs:List Z4} {vs:List Int} {k:Nat} {s:Z4} {r:Option (List Int)} (hs:xs[k]? = some s) (h:¬0<=ZT n vs s) (hr:V7 n (xs.drop k) vs=r):r=none:=by
 rw [Yb hs,V7,Zm om] at hr;exact hr.symm
theorem Z27 {c:Prop} [Decidable c] {vs:List Int} {t:Int} (h:∀x∈vs,0<=x) (ht:¬c->0<=t):∀x∈(if c then vs else vs++[t]),0<=x:=by
 split
 ·exact h
 ·rename_i hc
  exact LX h (fun x hx=>by rw [W4.1 hx];exact ht hc)
theorem EU {m:Nat} {xs:List Int} (h:Xi m xs=true):∀x∈xs,0<=x/\x<=m:=by
 rw [Xi,Ke] at h
 exact fun x hx=>of_decide_eq_true (h x hx)
theorem LZ {n:Zy} (h:XV n=true):B4 n:=by
 simp only [XV,Tq,XL,decide_eq_true_eq] at h
 obtain ⟨h1,⟨h2,h3,h4,h5⟩,h6⟩:=h
 have hs:∀r∈n.routines,Xi n.decls.length r.params=true/\0<=r.result:=fun r hr=>by
  have:=Ej h4 (Vk r) (W3.2 ⟨r,hr,rfl⟩)
  simp only [Qf,XL,decide_eq_true_eq] at this
  exact ⟨this.2.1,this.2.2.1⟩
 simp only [Wf,XL,decide_eq_true_eq] at h2
 obtain ⟨h2a,h2b⟩:=h2
 rw [Ff] at h2b
 have key:∀(i:Nat) (d:Zf),n.decls[i]? = some d->VW n.decls d i=true:=fun i d hi=>by
  have:=h2b i (XM.1 hi).1
  rwa [WQ,BY hi] at this
 refine ⟨fun r hr=>(hs r hr).2,fun r hr p hp=>(EU (hs r hr).1 p hp).1,fun d hd h0=>?_,fun c f hf=>?_⟩
 ·obtain ⟨i,hi⟩:=List.mem_iff_getElem?.1 hd
  have:=key i d hi
  rw [VW,Zb om] at this
  split at this
  ·cases this
  ·simp only [XL,decide_eq_true_eq] at this;omega
 ·by_cases hc:Xt n.decls c<1
  ·rw [(Dd hc).1] at hf;cases hf
  ·obtain ⟨k,d,x,q1,q2,q3,q4,q5⟩:=F8 hc
   rw [q5] at hf
   have:=key k d q1
   have hp:0<d.cons.length:=by have:=(XM.1 q3).1;omega
   rw [VW,Zm hp] at this
   split at this
   ·have:=I3.1 this x (Y7 q3)
    simp only [QX,XL] at this
    exact (EU this.2 f hf).1
   ·cases this
structure O7 (n:Zy):Prop where
 result:∀r∈n.routines,r.result<=(n.decls.length:Int)
 decl:∀d∈n.decls,d.cons.length=0->d.to_<=(n.decls.length:Int)
 fields:∀c,∀f∈ZB n.decls c,f<=(n.decls.length:Int)
section
variable {n:Zy} (hu:O7 n)
include hu
end
def UM (n:Zy) (us:List Int) (b:Z7):Int:=if (XV n=true/\Xi n.decls.length us=true)/\¬Vd b<0 then YR n us b else -1
end Go.Abs
section
namespace Go.Abs
structure B3 where
 mat:Int
 fst:Int
 fds:List Int
 chg:Bool
def M7:List B3->Int->Option B3
 | [],_=>none
 | a::r,v=>match M7 r v with
  | some x=>some x
  | none=>if a.mat=v then some a else none
structure Z7o (ds:List Zf) (L:ZJ) (as1:List B3):Prop where
 rng:∀a∈as1,0<=a.mat/\a.mat<a.fst/\a.fst+a.fds.length<=L.vars.length
 par:∀a∈as1,∀v:Int,a.fst<=v->v<a.fst+a.fds.length->gI L.par v=a.mat
 non:∀v:Int,0<=v->v<L.vars.length->0<=gI L.par v->∃a∈as1,a.fst<=v/\v<a.fst+a.fds.length
 off:∀v:Int,0<=v->v<L.vars.length->match M7 as1 v with
  | none=>gI L.con v<0
  | some a=>0<=gI L.con v/\a.fst=gI L.fst v/\a.fds=ZB ds (gI L.con v)
end Go.Abs
namespace Go.Abs
end Go.Abs
namespace Go.Abs
end Go.Abs
namespace Go.Abs
section
variable {n:Zy} {ln:List Int} {L:ZJ} {op v:Int} {am:List B3} {a:B3}
end
end Go.Abs
namespace Go.Abs
end Go.Abs
end
section
namespace Go.Abs
section
variable {n:Zy} {us:List Int} {op num:Int}
end
end Go.Abs
namespace Go.Abs
end Go.Abs
namespace Go.Abs
end Go.Abs
end
section
namespace Go.Abs
section
variable {n:Zy} {ln:List Int}
end
end Go.Abs
namespace Go.Abs
theorem LP:∀{rs:List Yf},QF rs=true->∀r∈rs,Ql r.params r.lent=true
 | [],_,r,h=>by cases h
 | x::rs,h,r,hr=>by
  rw [QF] at h
  split at h
  ·rcases YQ.1 hr with rfl|hr
   ·assumption
   ·exact LP h r hr
  ·cases h
end Go.Abs
namespace Go.Abs
end Go.Abs
namespace Go.Abs
section
variable {n:Zy} {ln:List Int} {L:ZJ} {s:Z4}
end
end Go.Abs
namespace Go.Abs
end Go.Abs
namespace Go.Abs
end Go.Abs
namespace Go.Abs
end Go.Abs
end
namespace Go.Abs
theorem LN {ps:List Int}:∀{ls:List Int} {prev:Option Int},TV ps ls prev=true->(∀p,prev=some p->∀y,ls[0]? = some y->p<y)/\∀(k:Nat) (x y:Int),ls[k]? = some x->ls[k+1]? = some y->x<y
 | [],_,_=>⟨fun _ _ y hy=>by simp at hy,fun k x y hx _=>by simp at hx⟩
 | v::r,prev,h=>by
  by_cases hg:(0<=v/\v<=(ps.length:Int)-1)/\ps[v.toNat]?≠some 0/\(∀p,prev=some p->p<v)
  ·rw [DV hg] at h
   obtain ⟨h1,h2⟩:=LN h
   refine ⟨fun p hp y hy=>?_,fun k x y hx hy=>?_⟩
   ·simp at hy;subst hy;exact hg.2.2 p hp
   ·cases k with
    | zero=>
     simp at hx;subst hx
     exact h1 v rfl y (by simpa using hy)
    | succ k=>exact h2 k x y (by simpa using hx) (by simpa using hy)
  ·rw [Cr hg] at h;cases h
theorem Z79 {n:Zy} (h:Xd n=true) {r:Yf} (hr:r∈n.routines):∀(k:Nat) (x y:Int),r.lent[k]? = some x->r.lent[k+1]? = some y->x<y:=by
 simp only [Xd,XV,XL] at h
 exact (LN (LP h.1.2.2 r hr)).2
theorem Z7a {n:Zy} (h:Xd n=true) {r:Yf} (hr:r∈n.routines):UM n r.params r.body=r.result:=by
 have h0:=h
 simp only [Xd,XL] at h
 have h1:=GG h.2 r hr
 have h2:=h.1
 simp only [XV,Tq,XL] at h2
 have h3:=Ej h2.2.1.2.2.1 (Vk r) (W3.2 ⟨r,hr,rfl⟩)
 simp only [Qf,XL] at h3
 rw [UM,Zm ⟨⟨h.1,h3.2.1⟩,h1.1⟩]
 exact h1.2
theorem Z7b {n:Zy} (h:Xd n=true) {r:Yf} (hr:n.routines[0]? = some r):r.params.length=0/\r.result=0:=by
 simp only [Xd,XV,Tq,XL] at h
 have h1:=h.1.2.1.2.2.2
 rw [Iw (x:=Vk r) (by rw [QU,hr];rfl)] at h1
 rw [XL,decide_eq_true_eq,decide_eq_true_eq] at h1
 exact h1
abbrev Mem:=Nat->Nat->Option Value
abbrev Ak:=Nat × Nat
def upd (m:Mem) (a:Ak) (z:Int):Mem:=fun g o=>if g=a.1/\o=a.2 then some (.int .i64 z) else m g o
def wr (m:Mem):List Ak->Int->Mem
 | [],_=>m
 | a::r,k=>wr (upd m a k) r (k+1)
def DC (m:Mem):List Ak->Int->Prop
 | [],_=>True
 | a::r,k=>m a.1 a.2=some (.int .i64 k)/\DC m r (k+1)
def Lp (m:Mem) (a:Ak):Prop:=∃z,m a.1 a.2=some (.int .i64 z)
structure Kp (m m':Mem):Prop where
 i:∀{a:Ak},Lp m a->Lp m' a
 h:∀{g o:Nat} {v:Value},m g o=some v->(∀z,v≠.int .i64 z)->m' g o=some v
section
variable {P:Program} {n:Nat} {ops:Array Oper} {B:Fr->List Res->Prop} {k:Nat} {F:Fr} {h h2:List Res}
end
section
variable {m m':Mem} {B:List Nat}
end
section
variable {m:Mem} {B:List Nat} {g:Nat}
end
section
variable {m:Mem} {B:List Nat}
end
def Zn (g lo hi:Nat) (X:List Nat) (a:Ak):Prop:=(a.1=g/\lo<=a.2/\a.2<hi)∨a.1∈X
structure Nd (g lo hi:Nat) (X:List Nat) (as1:List Ak):Prop where
 nd:(X.Nodup/\g∉X)->as1.Nodup
 zn:∀a∈as1,Zn g lo hi X a
section
variable {m:Mem} {B:List Nat}
end
def GB (B:List Nat):Y9:=fun b _=>b∈B
section
variable {w:World} {G:Y9} {B:List Nat}
end
section
variable {w:World} {G:Y9} {B:List Nat}
def La:Value->Hd
 | .slice a l c=>⟨a,l,c⟩
 | _=>⟨none,0,0⟩
abbrev av (y:O5):AV:=.agg [.h (La y.dv),.h (La y.rv)]
end
def O8 (B:List Nat) (m:Mem) (x:AV) (u:Value):Prop:=
 ∀w:World,(∀b∈B,∃cs e,w.heap[b]? = some (.cells cs e (0,0))/\∀o,cs[o]? = m b o)->RV w (GB B) x u
inductive BR (bs:List Res):List AV->List AV->Prop
 | nil:BR bs [] []
 | same {x as1 xs} (t:BR bs as1 xs):BR bs (x::as1) (x::xs)
 | gen {B m x a u as1 xs} (h:Res.own B m∈bs) (hr:O8 B m x u) (ha:∀w G v,RV w G a v->v=u) (t:BR bs as1 xs):BR bs (a::as1) (x::xs)
section
variable {P:Program} {n:Nat} {ops:Array Oper} {B:Fr->List Res->Prop} {k:Nat} {F:Fr} {h:List Res}
def HN (P:Program) (ops:Array Oper) (F:Fr) (k:Nat):Option (Bool × Bool):=
 match (ZC ops k).op with
 | .binOp .neq t x y _=>match P.underlying t with
  | some .bool=>match F.ev x,F.ev y with
   | .val (.bool a),.val (.bool b)=>some (a,b)
   | _,_=>none
  | _=>none
 | _=>none
theorem Z14 (a b:Bool) (hb:HN P ops F k=some (a,b):=by kernel_rfl):XA P (ZC ops k) F h [] (.b (a != b)):=by
 unfold HN at hb
 generalize hoo:ZC ops k=o at hb
 obtain ⟨dst,op,type,pos,after,guard⟩:=o
 cases op<;>simp only at hb<;>try (cases hb)
 rename_i bop t x y yt
 cases bop<;>simp only at hb<;>try (cases hb)
 split at hb
 ·rename_i ht
  split at hb
  ·rename_i a' b' h1 h2
   cases hb
   intro n w G ac hF hh
   have v1:=hF.ev x
   have v2:=hF.ev y
   rw [h1] at v1
   rw [h2] at v2
   have v1:=v1.val_inv
   have v2:=v2.val_inv
   refine ⟨_,.val,fun w' _ _=>?_⟩
   simp only [execOp,v1,v2]
   have he:(Op.equalIn (9999+1) t (.bool a) (.bool b)).run P w'=.ok (a==b) w':=by
    rw [Op.equalIn]
    simp [Sem.run_bind,Vo ht]
   refine WX ?_
   simp only [eqGuard,binOp,Op.equal,Op.maxDepth]
   have he2:(Op.equalIn 10000 t (.bool a) (.bool b)).run P w'=.ok (a==b) w':=he
   simp [Sem.run_bind,he2,bne]
  ·cases hb
 ·cases hb
end
section
variable {P:Program} {n:Nat} {ops:Array Oper} {B:Fr->List Res->Prop} {k:Nat} {F:Fr} {h:List Res}
def HO (P:Program) (ops:Array Oper) (F:Fr) (k:Nat):Option (Bool × Bool):=
 match (ZC ops k).op with
 | .binOp .eql t x y _=>match P.underlying t with
  | some .bool=>match F.ev x,F.ev y with
   | .val (.bool a),.val (.bool b)=>some (a,b)
   | _,_=>none
  | _=>none
 | _=>none
theorem Z13 (a b:Bool) (hb:HO P ops F k=some (a,b):=by kernel_rfl):XA P (ZC ops k) F h [] (.b (a==b)):=by
 unfold HO at hb
 generalize hoo:ZC ops k=o at hb
 obtain ⟨dst,op,type,pos,after,guard⟩:=o
 cases op<;>simp only at hb<;>try (cases hb)
 rename_i bop t x y yt
 cases bop<;>simp only at hb<;>try (cases hb)
 split at hb
 ·rename_i ht
  split at hb
  ·rename_i a' b' h1 h2
   cases hb
   intro n w G ac hF hh
   have v1:=hF.ev x
   have v2:=hF.ev y
   rw [h1] at v1
   rw [h2] at v2
   have v1:=v1.val_inv
   have v2:=v2.val_inv
   refine ⟨_,.val,fun w' _ _=>?_⟩
   simp only [execOp,v1,v2]
   have he:(Op.equalIn (9999+1) t (.bool a) (.bool b)).run P w'=.ok (a==b) w':=by
    rw [Op.equalIn]
    simp [Sem.run_bind,Vo ht]
   refine WX ?_
   simp only [eqGuard,binOp,Op.equal,Op.maxDepth]
   have he2:(Op.equalIn 10000 t (.bool a) (.bool b)).run P w'=.ok (a==b) w':=he
   simp [Sem.run_bind,he2]
  ·cases hb
 ·cases hb
end
end Go.Abs
section
namespace Go.Abs
end Go.Abs
namespace Go.Abs
end Go.Abs
namespace Go.Abs
end Go.Abs
end
section
namespace Go.Abs
end Go.Abs
namespace Go.Abs
end Go.Abs
namespace Go.Abs
end Go.Abs
namespace Go.Abs
end Go.Abs
end
namespace Go.Abs
def Zi (op v:Int):Z4:=.mk op 0 0 [v] []
def U9 (ds:List Zf) (num:Int) (k:Nat):List Int:=((Zu ds num).map (ZB ds))[k]?.getD []
section
variable {ds:List Zf} {am:List B3} {m:Nat}
end
theorem It {ds:List Zf} {num:Int} {k:Nat} {m:List Int} (h:((Zu ds num).map (ZB ds))[k]? = some m):U9 ds num k=m:=by rw [U9,h];rfl
theorem Re {ds:List Zf} (hd:Wm ds) (num:Int) (k:Nat):(U9 ds num k).length<=3:=by
 rw [U9,QU]
 cases (Zu ds num)[k]? with
 | none=>simp
 | some c=>exact VH hd c
theorem H3 {xs:List Z4} {k:Nat} {s:Z4} (h:xs[k]? = some s):Yu (xs.take (k+1))=Yu (xs.take k)+s.sz:=by
 induction xs generalizing k with
 | nil=>simp at h
 | cons t r ih=>
  cases k with
  | zero=>simp at h;subst h;simp [Yu]
  | succ k=>rw [B0,B0,Yu,Yu,ih (by simpa using h)];omega
theorem Qk (xs:List Z4) (k:Nat):Yu (xs.take k)<=Yu xs:=by
 induction xs generalizing k with
 | nil=>simp
 | cons t r ih=>
  cases k with
  | zero=>simp [Yu]
  | succ k=>have:=ih k;rw [B0,Yu,Yu];omega
theorem Z4d {n:Zy} {us:List Int} {s:Z4} (g:0<=ZT n us s) (h:YF s.op=true):Q1 n us s=us:=by rw [Q1,Fh g,h];rfl
theorem Z4c {n:Zy} {us:List Int} {s:Z4} (g:0<=ZT n us s) (h:¬YF s.op=true):(Q1 n us s).length=us.length+1:=by
 rw [Q1,Fh g,Kd.2 h];simp
theorem Z4e {n:Zy} {us:List Int} {s:Z4} (g:0<=ZT n us s):(Q1 n us s).length=if YF s.op=true then us.length else us.length+1:=by
 split
 ·rw [Z4d g (by assumption)]
 ·exact Z4c g (by assumption)

theorem UJ:∀(xs ys:List Z4),Yu (xs++ys)=Yu xs+Yu ys
 | [],ys=>by simp [Yu]
 | x::r,ys=>by rw [QT,Yu,Yu,UJ r ys];omega
theorem Dc (op v:Int):(Zi op v).sz=2:=by rw [Zi,Z4.sz];simp [YY]
theorem H1 (op:Int):∀l:List Int,Yu (l.map (Zi op))=2*l.length
 | []=>by simp [Yu]
 | x::r=>by rw [Uh,Yu,Dc,H1 op r,YS];omega
section
variable {ds:List Zf} (hd:Wm ds)
include hd
end
section
variable {ds:List Zf} {cons first:List Int}
end
section
variable {ds:List Zf} (hd:Wm ds)
include hd
end
def YW:List Z4->Nat
 | []=>0
 | s::r=>if s.op=14∨s.op=15 then YW r+1 else 0
def XN (op:Int):List Z4->List Int
 | []=>[]
 | s::r=>if s.op=op then gI s.args 0::XN op r else XN op r
def Ue:List Int->Int->List Int->List Int->List Int × List Int
 | [],_,D,R=>(D,R)
 | f::r,q,D,R=>if f≠0/\q∈D then Ue r (q+1) (D.erase q) R else if f≠0 then Ue r (q+1) D (R++[q]) else Ue r (q+1) D R
def Jl (xs:List Z4) (x:Int) (fs:List Int) (q:Int):List Int × List Int:=Ue fs q (XN 14 (xs.take (YW xs))) ((XN 15 (xs.take (YW xs))).erase x)
def JD (xs:List Z4) (x:Int) (fs:List Int) (q:Int):List Z4:=
 if x∈XN 15 (xs.take (YW xs))/\fs.length≠0 then (Jl xs x fs q).1.map (Zi 14)++[Zi 16 x]++(Jl xs x fs q).2.map (Zi 15)++xs.drop (YW xs) else xs
def QW (b:Z7) (x:Int) (fs:List Int) (q:Int):Z7:=.mk (JD b.steps x fs q) b.result
theorem Ea:∀xs:List Z4,YW xs<=xs.length
 | []=>X7 _
 | s::r=>by have:=Ea r;rw [YW];split<;>simp<;>omega
theorem MN:∀{xs:List Z4} {s:Z4},s∈xs.take (YW xs)->s.op=14∨s.op=15
 | [],s,h=>by simp [YW] at h
 | t::r,s,h=>by
  rw [YW] at h
  split at h
  ·rename_i q
   rw [B0] at h
   rcases YQ.1 h with rfl|h
   ·exact q
   ·exact MN h
  ·simp at h
theorem EX:∀xs:List Z4,(XN 14 xs).length+(XN 15 xs).length<=xs.length
 | []=>by simp [XN]
 | s::r=>by
  have:=EX r
  rw [XN,XN]
  by_cases h:s.op=14
  ·rw [Zm h,Zb om];simp;omega
  ·rw [Zb h];split<;>simp<;>omega
theorem E4:∀(fs:List Int) (q:Int) (D R:List Int),(Ue fs q D R).1.length+(Ue fs q D R).2.length<=D.length+R.length+fs.length
 | [],q,D,R=>by simp [Ue]
 | f::r,q,D,R=>by
  rw [Ue,YS]
  split
  ·have:=E4 r (q+1) (D.erase q) R
   have h2:=List.length_erase_le (a:=q) (l:=D)
   omega
  ·split
   ·have:=E4 r (q+1) D (R++[q])
    simp only [Yx,YS,Xn] at this
    omega
   ·have:=E4 r (q+1) D R
    omega
theorem Z2t {xs:List Z4} {x:Int} {fs:List Int} {q:Int} (h:x∈XN 15 (xs.take (YW xs))) (hf:fs.length<=3):(Jl xs x fs q).1.length+(Jl xs x fs q).2.length<=YW xs+2:=by
 have h1:=E4 fs q (XN 14 (xs.take (YW xs))) ((XN 15 (xs.take (YW xs))).erase x)
 have h2:=EX (xs.take (YW xs))
 have h3:=List.length_pos_of_mem h
 rw [List.length_erase_of_mem h] at h1
 rw [Wv] at h2
 have h4:=Ea xs
 unfold Jl
 omega
theorem Z5u (xs:List Z4) (k:Nat):Yu xs=Yu (xs.take k)+Yu (xs.drop k):=by rw [<-UJ,Uy]
theorem Nv:∀xs:List Z4,(∀s∈xs,2<=s.sz)->2*xs.length<=Yu xs
 | [],_=>by simp
 | s::r,h=>by
  have h1:=Nv r fun t ht=>h t (XH _ ht)
  have h2:=h s (Xj ..)
  rw [Yu,YS];omega
theorem Oo {xs:List Z4} {x:Int} {fs:List Int} {q:Int} (hf:fs.length<=3) (h:∀s∈xs,s.op=14∨s.op=15->2<=s.sz):Yu (JD xs x fs q)<=Yu xs+6:=by
 rw [JD]
 split
 ·rename_i hc
  have h1:=Z2t (q:=q) hc.1 hf
  have h2:=Nv (xs.take (YW xs)) fun s hs=>h s (TJ hs) (MN hs)
  have h3:=Z5u xs (YW xs)
  have h4:=Ea xs
  rw [Wv] at h2
  rw [UJ,UJ,UJ,H1,H1,Yu,Yu,Dc]
  omega
 ·omega
def Cn (s:Z4):Prop:=s=Zi s.op (gI s.args 0)
theorem On {xs:List Z4} {m:Int} {fs:List Int} {q:Int} (h:¬(m∈XN 15 (xs.take (YW xs))/\fs.length≠0)):JD xs m fs q=xs:=Zb h
end Go.Abs
section
namespace Go.Abs
mutual
def AP (ds:List Zf) (m:Nat):Z4->Z4
 | .mk op num into args kids=>.mk op num into args (Td ds m op num args kids 0)
def Td (ds:List Zf) (m:Nat) (op num:Int) (args:List Int):List Z7->Nat->List Z7
 | [],_=>[]
 | b::r,k=>(if op=8 then QW (WE ds (m+(U9 ds num k).length) b) (gI args 0) (U9 ds num k) m else WE ds m b)::Td ds m op num args r (k+1)
def Uu (ds:List Zf) (m:Nat):List Z4->List Z4
 | []=>[]
 | s::r=>AP ds m s::Uu ds (if YF s.op=true then m else m+1) r
def WE (ds:List Zf) (m:Nat):Z7->Z7
 | .mk steps result=>.mk (Uu ds m steps) result
end
def Em (ds:List Zf) (m:Nat) (op num:Int) (args:List Int) (k:Nat) (b:Z7):Z7:=if op=8 then QW (WE ds (m+(U9 ds num k).length) b) (gI args 0) (U9 ds num k) m else WE ds m b
theorem GW (ds:List Zf) (m:Nat) (s:Z4):AP ds m s=.mk s.op s.num s.into s.args (Td ds m s.op s.num s.args s.kids 0):=by cases s;rw [AP];rfl
theorem Ek (ds:List Zf) (m:Nat) (b:Z7):WE ds m b=.mk (Uu ds m b.steps) b.result:=by cases b;rw [WE];rfl
section
variable {ds:List Zf} {m:Nat}
theorem Z4t {xs acc r:List Z4} {k:Nat} {s:Z4} (h:xs[k]? = some s) (ha:acc++Uu ds m (xs.drop k)=r) :
  (acc++[.mk s.op s.num s.into s.args (Td ds m s.op s.num s.args s.kids 0)])++Uu ds (if YF s.op=true then m else m+1) (xs.drop (k+1))=r:=by
 rw [Yb h,Uu,GW] at ha
 rw [<-ha];simp
theorem Z4s {xs acc r:List Z4} {k:Nat} (h:xs.length<=k) (ha:acc++Uu ds m (xs.drop k)=r):acc=r:=by
 rw [Xx h,Uu,Ae] at ha;exact ha
theorem N3 {op num:Int} {args:List Int} {bs acc r:List Z7} {k:Nat} {b:Z7} (h:bs[k]? = some b) (ha:acc++Td ds m op num args (bs.drop k) k=r) :
  (acc++[Em ds m op num args k b])++Td ds m op num args (bs.drop (k+1)) (k+1)=r:=by
 rw [Yb h,Td] at ha
 rw [<-ha,Em];simp
theorem Z4p {op num:Int} {args:List Int} {bs acc r:List Z7} {k j:Nat} (h:bs.length<=k) (ha:acc++Td ds m op num args (bs.drop k) j=r):acc=r:=by
 rw [Xx h,Td,Ae] at ha;exact ha
end
mutual
def wS (ds:List Zf):Z4->Prop
 | .mk op num into args kids=>(Xf op=!YF op)/\(YF op=true->num=0/\into=0/\kids=[]/\∃a,args=[a])/\(op=8->(∃a,args=[a]/\0<=a/\a<=900000000)/\kids.length=(Zu ds num).length)/\Jp ds kids
def Jp (ds:List Zf):List Z7->Prop
 | []=>True
 | b::r=>wB ds b/\Jp ds r
def Q3 (ds:List Zf):List Z4->Prop
 | []=>True
 | s::r=>wS ds s/\Q3 ds r
def wB (ds:List Zf):Z7->Prop
 | .mk steps _=>Q3 ds steps
end
section
variable {ds:List Zf}
theorem Kc (s:Z4):wS ds s↔(Xf s.op=!YF s.op)/\(YF s.op=true->s.num=0/\s.into=0/\s.kids=[]/\∃a,s.args=[a])/\(s.op=8->(∃a,s.args=[a]/\0<=a/\a<=900000000)/\s.kids.length=(Zu ds s.num).length)/\Jp ds s.kids:=by cases s;rw [wS];rfl
theorem QS (b:Z7):wB ds b↔Q3 ds b.steps:=by cases b;rw [wB];rfl
theorem Jq:∀{xs:List Z4},Q3 ds xs↔∀s∈xs,wS ds s
 | []=>by simp [Q3]
 | s::r=>by rw [Q3,Jq];simp
theorem Ex:∀{xs:List Z7},Jp ds xs↔∀s∈xs,wB ds s
 | []=>by simp [Jp]
 | s::r=>by rw [Jp,Ex];simp
theorem NV {b:Z7} {k:Nat} {s:Z4} (h:wB ds b) (hs:b.steps[k]? = some s):wS ds s:=Jq.1 ((QS b).1 h) s (Y7 hs)
theorem Hl {s:Z4} {k:Nat} {b:Z7} (h:wS ds s) (hb:s.kids[k]? = some b):wB ds b:=Ex.1 ((Kc s).1 h).2.2.2 b (Y7 hb)
theorem Ey {s:Z4} (h:wS ds s) (hc:YF s.op=true):Cn s/\s.kids=[]/\∃a,s.args=[a]:=by
 obtain ⟨h1,h2,h3,a,h4⟩:=((Kc s).1 h).2.1 hc
 refine ⟨?_,h3,a,h4⟩
 cases s with
 | mk op num into args kids=>
  simp only [Z4.num,Z4.into,Z4.kids,Z4.args] at h1 h2 h3 h4
  subst h1 h2 h3 h4
  rfl
theorem Z7h {op v:Int} (h:op=14∨op=15∨op=16):wS ds (Zi op v):=(Kc _).2 ⟨by show Xf op=!YF op;rcases h with rfl|rfl|rfl<;>rfl,fun _=>⟨rfl,rfl,rfl,v,rfl⟩,fun e=>absurd e (show op≠8 by omega),True.intro⟩
theorem Z7i {s:Z4} (h:wS ds s):Xf s.op=!YF s.op:=((Kc s).1 h).1
theorem CP {s:Z4} (h:wS ds s) (h8:s.op=8):(∃a,s.args=[a]/\0<=a/\a<=900000000)/\s.kids.length=(Zu ds s.num).length:=((Kc s).1 h).2.2.1 h8
theorem EI {xs:List Z4} (h:Q3 ds xs):∀s∈xs,YF s.op=true->Cn s:=fun s hs hc=>(Ey (Jq.1 h s hs) hc).1
end
section
variable {n:Zy}
end
mutual
def Z4.pz:Z4->Nat
 | .mk _ _ _ args kids=>1+args.length+BD kids
def Z7.pz:Z7->Nat
 | .mk steps _=>1+BE steps
def BE:List Z4->Nat
 | []=>0
 | s::r=>s.pz+BE r
def BD:List Z7->Nat
 | []=>0
 | b::r=>b.pz+8+BD r
end
mutual
theorem Z4.pz_le:∀s:Z4,s.pz<=9*s.sz
 | .mk _ _ _ args kids=>by have:=Mv kids;rw [Z4.pz,Z4.sz];omega
theorem Z7.pz_le:∀b:Z7,b.pz+8<=9*b.sz
 | .mk steps _=>by have:=Mw steps;rw [Z7.pz,Z7.sz];omega
theorem Mw:∀xs:List Z4,BE xs<=9*Yu xs
 | []=>QV _
 | s::r=>by have:=s.pz_le;have:=Mw r;rw [BE,Yu];omega
theorem Mv:∀xs:List Z7,BD xs<=9*YY xs
 | []=>QV _
 | s::r=>by have:=s.pz_le;have:=Mv r;rw [BD,YY];omega
end
section
variable {ds:List Zf}
theorem P0 {op:Int} (h:op=14∨op=15):YF op=true:=by rw [YF];simp;omega
theorem Z4u {xs:List Z4}:∀{m:Nat},Q3 ds xs->∀s∈Uu ds m xs,s.op=14∨s.op=15->2<=s.sz:=by
 induction xs with
 | nil=>intro m _ s hs;simp [Uu] at hs
 | cons t r ih=>
  intro m h s hs ho
  rw [Uu] at hs
  rcases YQ.1 hs with rfl|hs
  ·rw [GW] at ho ⊢
   obtain ⟨_,_,a,ha⟩:=Ey h.1 (P0 ho)
   rw [Z4.sz,ha];simp
  ·exact ih h.2 s hs ho
variable (hd:Wm ds)
include hd
mutual
theorem Z4q:∀(s:Z4) {m:Nat},wS ds s->(AP ds m s).sz<=s.pz
 | .mk op num into args kids,m,h=>by
  have:=N5 kids (m:=m) (op:=op) (num:=num) (args:=args) (k:=0) h.2.2.2
  rw [AP,Z4.sz,Z4.pz];omega
theorem N5:∀(bs:List Z7) {m:Nat} {op num:Int} {args:List Int} {k:Nat},Jp ds bs->YY (Td ds m op num args bs k)<=BD bs
 | [],_,_,_,_,_,_=>X7 _
 | b::r,m,op,num,args,k,h=>by
  have h2:=N5 r (m:=m) (op:=op) (num:=num) (args:=args) (k:=k+1) h.2
  rw [Td,YY,BD]
  split
  ·have h1:=El b (m:=m+(U9 ds num k).length) h.1
   have h3:=Oo (xs:=(WE ds (m+(U9 ds num k).length) b).steps) (x:=gI args 0) (q:=(m:Int)) (Re hd num k) (by rw [Ek];exact Z4u ((QS b).1 h.1))
   rw [QW,Z7.sz]
   rw [Z7.sz_eq] at h1
   omega
  ·have h1:=El b (m:=m) h.1
   omega
theorem N6:∀(xs:List Z4) {m:Nat},Q3 ds xs->Yu (Uu ds m xs)<=BE xs
 | [],_,_=>X7 _
 | s::r,m,h=>by
  have h1:=Z4q s (m:=m) h.1
  have h2:=N6 r (m:=if YF s.op=true then m else m+1) h.2
  rw [Uu,Yu,BE];omega
theorem El:∀(b:Z7) {m:Nat},wB ds b->(WE ds m b).sz<=b.pz
 | .mk steps result,m,h=>by
  have:=N6 steps (m:=m) h
  rw [WE,Z7.sz,Z7.pz];omega
end
end
section
variable {ds:List Zf} {m:Nat}
end
def KG (ds:List Zf) (r:Yf):Yf:=⟨r.params,r.lent,r.result,WE ds r.params.length r.body⟩
def En (n:Zy):Zy:=⟨n.decls,n.routines.map (KG n.decls)⟩
end Go.Abs
namespace Go.Abs
theorem Z3w {xs:List Z4} {k:Nat} {s:Z4} {r:Nat} (h:xs[k]? = some s) (hs:s.op=14∨s.op=15) (ha:k+YW (xs.drop k)=r):k+1+YW (xs.drop (k+1))=r:=by
 rw [Yb h,YW,Zm hs] at ha;omega
theorem Z3x {xs:List Z4} {k:Nat} {s:Z4} {r:Nat} (h:xs[k]? = some s) (hs:¬(s.op=14∨s.op=15)) (ha:k+YW (xs.drop k)=r):k=r:=by
 rw [Yb h,YW,Zb hs] at ha;omega
theorem Z3v {xs:List Z4} {k:Nat} {r:Nat} (h:xs.length<=k) (ha:k+YW (xs.drop k)=r):k=r:=by
 rw [Xx h,YW] at ha;omega
theorem OC {op:Int} {xs:List Z4} {acc r:List Int} {k:Nat} {s:Z4} (h:xs[k]? = some s) (hs:s.op=op) (ha:acc++XN op (xs.drop k)=r):(acc++[gI s.args 0])++XN op (xs.drop (k+1))=r:=by
 rw [Yb h,XN,Zm hs] at ha;rw [<-ha];simp
theorem OB {op:Int} {xs:List Z4} {acc r:List Int} {k:Nat} {s:Z4} (h:xs[k]? = some s) (hs:¬s.op=op) (ha:acc++XN op (xs.drop k)=r):acc++XN op (xs.drop (k+1))=r:=by
 rw [Yb h,XN,Zb hs] at ha;exact ha
theorem OA {op:Int} {xs:List Z4} {acc r:List Int} {k:Nat} (h:xs.length<=k) (ha:acc++XN op (xs.drop k)=r):acc=r:=by
 rw [Xx h,XN,Ae] at ha;exact ha
theorem Ra {xs acc r:List Int} {y:Int} {k:Nat} {x:Int} {d:Bool} (h:xs[k]? = some x) (ha:acc++(if d=true then xs.drop k else (xs.drop k).erase y)=r) :
  (if x=y/\¬d=true then acc else acc++[x])++(if ((x==y&&!d)||d)=true then xs.drop (k+1) else (xs.drop (k+1)).erase y)=r:=by
 rw [Yb h] at ha
 rw [<-ha]
 by_cases hd:d=true
 ·simp [hd]
 ·by_cases hx:x=y
  ·simp [hd,hx]
  ·rw [Zb (fun z=>hx z.1),Zb hd,List.erase_cons_tail (by simpa using hx)]
   simp [hd,hx]
theorem R9 {xs acc r:List Int} {y:Int} {k:Nat} {d:Bool} (h:xs.length<=k) (ha:acc++(if d=true then xs.drop k else (xs.drop k).erase y)=r):acc=r:=by
 rw [Xx h] at ha;simpa using ha
section
variable {fs D R:List Int} {q k:Nat} {f:Int} {r:List Int × List Int}
theorem Z2v (h:fs[k]? = some f) (h0:f≠0) (hm:((q+k:Nat):Int)∈D) (ha:Ue (fs.drop k) (q+k) D R=r):Ue (fs.drop (k+1)) (q+((k+1:Nat):Int)) (D.erase ((q+k:Nat):Int)) R=r:=by
 rw [Yb h,Ue,Zm ⟨h0,by rw [<-Int.natCast_add];exact hm⟩,<-Int.natCast_add] at ha
 rw [<-ha];congr 1
theorem Z2w (h:fs[k]? = some f) (h0:f≠0) (hm:¬((q+k:Nat):Int)∈D) (ha:Ue (fs.drop k) (q+k) D R=r):Ue (fs.drop (k+1)) (q+((k+1:Nat):Int)) D (R++[((q+k:Nat):Int)])=r:=by
 rw [Yb h,Ue,Zb (fun z=>hm (by rw [Int.natCast_add];exact z.2)),Zm h0,<-Int.natCast_add] at ha
 rw [<-ha];congr 1
theorem Z2x (h:fs[k]? = some f) (h0:¬f≠0) (ha:Ue (fs.drop k) (q+k) D R=r):Ue (fs.drop (k+1)) (q+((k+1:Nat):Int)) D R=r:=by
 rw [Yb h,Ue,Zb (fun z=>h0 z.1),Zb h0] at ha
 rw [<-ha];congr 1
theorem Z2u (h:fs.length<=k) (ha:Ue (fs.drop k) (q+k) D R=r):r=(D,R):=by
 rw [Xx h,Ue] at ha;exact ha.symm
end
theorem Oq {xs:List Z4} {x:Int} {fs:List Int} {q:Int} {D R:List Int} (h1:x∈XN 15 (xs.take (YW xs))) (h2:fs.length≠0) (hr:Jl xs x fs q=(D,R)):D.map (Zi 14)++[Zi 16 x]++R.map (Zi 15)++xs.drop (YW xs)=JD xs x fs q:=by
 rw [JD,Zm ⟨h1,h2⟩,hr]
theorem Z4r {ds:List Zf} {xs:List Z4}:∀{m:Nat},Q3 ds xs->∀s∈Uu ds m xs,YF s.op=true->∃a,s.args=[a]:=by
 induction xs with
 | nil=>intro m _ s hs;simp [Uu] at hs
 | cons t r ih=>
  intro m h s hs ho
  rw [Uu] at hs
  rcases YQ.1 hs with rfl|hs
  ·rw [GW] at ho ⊢
   exact (Ey h.1 ho).2.2
  ·exact ih h.2 s hs ho
end Go.Abs
end
namespace Go.Abs
mutual
def Z2.sz:Z2->Nat
 | .mk _ _ kids=>1+Xo kids
def Xo:List Z2->Nat
 | []=>0
 | e::r=>e.sz+Xo r
end
theorem Z2.sz_eq (e:Z2):e.sz=1+Xo e.kids:=by cases e;rw [Z2.sz];rfl
theorem C2:∀xs ys:List Z2,Xo (xs++ys)=Xo xs+Xo ys
 | [],ys=>by simp [Xo]
 | x::r,ys=>by rw [QT,Xo,Xo,C2 r];omega
theorem Ay:∀{xs:List Z2} {k:Nat} {e:Z2},xs[k]? = some e->e.sz<=Xo xs
 | [],k,e,h=>by simp at h
 | x::r,0,e,h=>by simp at h;subst h;rw [Xo];omega
 | x::r,k+1,e,h=>by have:=Ay (xs:=r) (k:=k) (by simpa using h);rw [Xo];omega
theorem In:∀{xs:List Z2},xs.length<=Xo xs
 | []=>QV _
 | x::r=>by have:=In (xs:=r);have:=x.sz_eq;rw [Xo,YS];omega
def KW:Zf:=⟨0,0,[⟨[]⟩,⟨[0,1]⟩]⟩
def KX:Zf:=⟨0,0,[⟨[]⟩,⟨[3,0,3]⟩]⟩
def I8:List Zf:=[⟨0,0,[⟨[1,3]⟩]⟩,⟨1,0,[]⟩,⟨0,0,[⟨[1,1,0]⟩,⟨[0]⟩,⟨[3]⟩]⟩,⟨0,1,[]⟩]
def J9:List (List Zf):=[[KW,⟨0,0,[]⟩,KX],[KW,⟨0,0,[]⟩,KX,⟨0,0,[⟨[1,3]⟩]⟩],[KW,⟨0,0,[]⟩,KX,⟨1,0,[]⟩],[KW,⟨0,0,[]⟩,KX,⟨0,0,[⟨[1,1,0]⟩,⟨[0]⟩,⟨[3]⟩]⟩],[KW,⟨0,0,[]⟩,KX,⟨0,1,[]⟩]]
def GD (ds:List Zf):Prop:=ds∈J9
theorem GD.ok {ds:List Zf} (h:GD ds):Wm ds:=by
 have k:=(by decide:∀ds∈J9,ds.length<=4/\(∀d∈ds,d.cons.length<=3)/\∀d∈ds,∀c∈d.cons,c.fields.length<=3) ds h
 exact ⟨k.1,k.2.1,k.2.2⟩
theorem GD.len {ds:List Zf} (h:GD ds):3<=ds.length/\ds.length<=4:=by
 exact (by decide:∀ds∈J9,3<=ds.length/\ds.length<=4) ds h
def QG (t:Int):Prop:=t=0∨t=1∨t=3
instance (t:Int):Decidable (QG t):=inferInstanceAs (Decidable (_∨_∨_))
theorem GD.low {ds:List Zf} (h:GD ds):Zu ds 0=[]/\Zu ds 1=[0,1]/\Zu ds 2=[]/\Zu ds 3=[2,3]/\ZB ds 0=[]/\ZB ds 1=[0,1]/\ZB ds 2=[]/\ZB ds 3=[3,0,3]:=
 (by decide:∀ds∈J9,Zu ds 0=[]/\Zu ds 1=[0,1]/\Zu ds 2=[]/\Zu ds 3=[2,3]/\ZB ds 0=[]/\ZB ds 1=[0,1]/\ZB ds 2=[]/\ZB ds 3=[3,0,3]) ds h
theorem GD.fields {ds:List Zf} (h:GD ds):∀c∈Zu ds 1++(Zu ds 3++Zu ds 4),∀t∈ZB ds c,QG t:=
 (by decide:∀ds∈J9,∀c∈Zu ds 1++(Zu ds 3++Zu ds 4),∀t∈ZB ds c,QG t) ds h
theorem GD.cons_cases {ds:List Zf} (h:GD ds) {t:Int} {c:Int} (hc:c∈Zu ds t):(0<=c/\c<=9)/\(t=1∨t=3∨t=4)/\(ZB ds c).length<=3/\∀u∈ZB ds c,QG u:=by
 have ht:1<=t/\t<=ds.length:=by
  by_cases q:1<=t/\t<=ds.length
  ·exact q
  ·rw [Zu,Zb q] at hc;cases hc
 have hl:=h.len
 have hlow:=h.low
 have key:∀c∈Zu ds 1++(Zu ds 3++Zu ds 4),0<=c/\c<=9:=
  (by decide:∀ds∈J9,∀c∈Zu ds 1++(Zu ds 3++Zu ds 4),0<=c/\c<=9) ds h
 have h4:t=1∨t=2∨t=3∨t=4:=by omega
 have hf:=h.fields
 have hd:=VH h.ok c
 rcases h4 with rfl|rfl|rfl|rfl
 ·exact ⟨key c (Xr.2 (.inl hc)),.inl rfl,hd,hf c (Xr.2 (.inl hc))⟩
 ·rw [hlow.2.2.1] at hc;cases hc
 ·exact ⟨key c (Xr.2 (.inr (Xr.2 (.inl hc)))),.inr (.inl rfl),hd,hf c (Xr.2 (.inr (Xr.2 (.inl hc))))⟩
 ·exact ⟨key c (Xr.2 (.inr (Xr.2 (.inr hc)))),.inr (.inr rfl),hd,hf c (Xr.2 (.inr (Xr.2 (.inr hc))))⟩
def Kh:List (List Int × Int):=[([],0),([1],0),([1,1],1),([1],1),([1,0],1),([2,1],1),([1,1],0),([3],0),([0],1),([0,1],1),([3,0],3),([3],1),([1,3,0],0),([0],0),([0,0],0),([1,0],0)]
def UL (f:Func):Prop:=(f.params,f.result)∈Kh
theorem UL.bd {f:Func} (h:UL f):f.params.length<=3/\(∀t∈f.params,0<=t/\t<=3)/\QG f.result:=by
 have key:∀q∈Kh,q.1.length<=3/\(∀t∈q.1,0<=t/\t<=3)/\QG q.2:=by decide
 exact key _ h
theorem UL.clo {ds:List Zf} {f:Func} (hd:GD ds) (h:UL f) (hp:0<WT ds (gI f.params ((f.params.length:Int)-1)) f.result):∀t∈f.params.dropLast,QG t:=by
 have key:∀q∈Kh,0<WT ds (gI q.1 ((q.1.length:Int)-1)) q.2->∀t∈q.1.dropLast,QG t:=
  (by decide +kernel:∀ds∈J9,∀q∈Kh,0<WT ds (gI q.1 ((q.1.length:Int)-1)) q.2->∀t∈q.1.dropLast,QG t) ds hd
 exact key _ h hp
structure GP (p:XT):Prop where
 decls:GD p.decls
 len:1<=p.funcs.length/\p.funcs.length<=4
 sigs:∀f∈p.funcs,UL f
def Tb (ds:List Zf) (op num:Int) (m:Nat) (k:Nat):Nat:=
 if op=13 then m+k else if op=8 then (if k=0 then m else m+(ZB ds (gI (Zu ds num) ((k:Int)-1))).length) else m
mutual
def eW (ds:List Zf) (nf:Nat):Nat->Z2->Prop
 | m,.mk op num kids=>(0<=op/\op<=13)/\(op=12->kids=[]/\0<=num/\num<m)/\(op=13->kids.length=2)/\(op=7->kids.length=3)/\(op=8->kids.length=1+(Zu ds num).length)/\(op=9->0<=num/\num<nf)/\(-2000<=num/\num<=2000)/\kids.length<=4 /\
  TQ ds nf (Tb ds op num m) 0 kids
def TQ (ds:List Zf) (nf:Nat) (sc:Nat->Nat):Nat->List Z2->Prop
 | _,[]=>True
 | k,e::r=>eW ds nf (sc k) e/\TQ ds nf sc (k+1) r
end
theorem R4 {ds:List Zf} {nf m:Nat} (e:Z2):eW ds nf m e↔(0<=e.op/\e.op<=13)/\(e.op=12->e.kids=[]/\0<=e.num/\e.num<m)/\(e.op=13->e.kids.length=2)/\(e.op=7->e.kids.length=3)/\(e.op=8->e.kids.length=1+(Zu ds e.num).length)/\(e.op=9->0<=e.num/\e.num<nf)/\(-2000<=e.num/\e.num<=2000)/\e.kids.length<=4 /\
  TQ ds nf (Tb ds e.op e.num m) 0 e.kids:=by cases e;rw [eW];rfl
theorem Bi {ds:List Zf} {nf:Nat} {sc:Nat->Nat}:∀{xs:List Z2} {j k:Nat} {e:Z2},TQ ds nf sc j xs->xs[k]? = some e->eW ds nf (sc (j+k)) e
 | [],j,k,e,_,h=>by simp at h
 | x::r,j,0,e,hw,h=>by simp at h;subst h;exact hw.1
 | x::r,j,k+1,e,hw,h=>by
  have:=Bi (xs:=r) (j:=j+1) (k:=k) hw.2 (by simpa using h)
  rw [show j+(k+1)=j+1+k by omega];exact this
theorem Ij {ds:List Zf} {nf:Nat} {sc:Nat->Nat}:∀{xs ys:List Z2} {j:Nat},TQ ds nf sc j (xs++ys)↔TQ ds nf sc j xs/\TQ ds nf sc (j+xs.length) ys
 | [],ys,j=>by simp [TQ]
 | x::r,ys,j=>by
  rw [QT,TQ,TQ,Ij (xs:=r),and_assoc,YS,show j+1+r.length=j+(r.length+1) by omega]
theorem Fy {ds:List Zf} {nf m:Nat} {sc:Nat->Nat} (hs:∀k,sc k=m):∀{xs:List Z2} {j:Nat},(∀e∈xs,eW ds nf m e)->TQ ds nf sc j xs
 | [],_,_=>True.intro
 | x::r,j,h=>⟨by rw [hs];exact h x (Xj ..),Fy hs fun e he=>h e (XH _ he)⟩
theorem Ax {ds:List Zf} {nf m:Nat} {op num:Int} {kids:List Z2} (ho:0<=op/\op<=11/\op≠7/\op≠8) (hc:op=9->0<=num/\num<nf) (hn:-2000<=num/\num<=2000) (hl:kids.length<=4) (hk:∀e∈kids,eW ds nf m e):eW ds nf m (.mk op num kids):=by
 rw [eW]
 refine ⟨by omega,fun h=>by omega,fun h=>by omega,fun h=>by omega,fun h=>by omega,hc,hn,hl,Fy (m:=m) (fun k=>?_) hk⟩
 rw [Tb,Zb om,Zb om]
theorem R5 {ds:List Zf} {nf m:Nat} {z:Int} (hz:-2000<=z/\z<=2000):eW ds nf m (.mk 0 z []):=Ax om (fun h=>by omega) hz (by simp) (fun e he=>by cases he)
theorem R6 {ds:List Zf} {nf m:Nat} {z:Int} (hz:0<=z/\z<m) (hm:m<=2000):eW ds nf m (.mk 12 z []):=by
 rw [eW]
 exact ⟨by omega,fun _=>⟨rfl,hz⟩,fun h=>by omega,fun h=>by omega,fun h=>by omega,fun h=>by omega,by omega,by simp,True.intro⟩
theorem Ih {ds:List Zf} {nf m:Nat} {num:Int} {kids:List Z2} (hn:-2000<=num/\num<=2000) (hl:kids.length=3) (hk:∀e∈kids,eW ds nf m e):eW ds nf m (.mk 7 num kids):=by
 rw [eW]
 refine ⟨by omega,fun h=>by omega,fun h=>by omega,fun _=>hl,fun h=>by omega,fun h=>by omega,hn,by omega,Fy (m:=m) (fun k=>?_) hk⟩
 rw [Tb,Zb om,Zb om]
theorem Ii {ds:List Zf} {nf m:Nat} {num:Int} {a b:Z2} (hn:-2000<=num/\num<=2000) (ha:eW ds nf m a) (hb:eW ds nf (m+1) b):eW ds nf m (.mk 13 num [a,b]):=by
 rw [eW]
 exact ⟨by omega,fun h=>by omega,fun _=>rfl,fun h=>by omega,fun h=>by omega,fun h=>by omega,hn,by simp,ha,hb,True.intro⟩
theorem Fx {ds:List Zf} {nf m:Nat} {num:Int} {a:Z2} {arms:List Z2} (hn:-2000<=num/\num<=2000) (h3:arms.length<=3) (hl:arms.length=(Zu ds num).length) (ha:eW ds nf m a) (hk:TQ ds nf (Tb ds 8 num m) 1 arms):eW ds nf m (.mk 8 num (a::arms)):=by
 rw [eW]
 refine ⟨by omega,fun h=>by omega,fun h=>by omega,fun h=>by omega,fun _=>by rw [YS];omega,fun h=>by omega,hn,by rw [YS];omega,?_,hk⟩
 rw [Tb,Zb om,Zm rfl,Zm rfl]
 exact ha
def bS (b:Nat):Nat:=max 4 (10*b-10)
def bC (b:Nat):Nat:=max 40 (100*b-100)
def YO:List Z4->Nat
 | []=>0
 | s::r=>(if YF s.op=true then 0 else 1)+YO r
theorem QY:∀xs ys:List Z4,YO (xs++ys)=YO xs+YO ys
 | [],ys=>by simp [YO]
 | x::r,ys=>by rw [QT,YO,YO,QY r];omega
theorem Au:∀xs:List Z4,YO xs<=xs.length
 | []=>X7 _
 | x::r=>by have:=Au r;rw [YO,YS];split<;>omega
def Ut (ds:List Zf) (op num:Int) (m:Nat) (k:Nat):Nat:=if op=8 then m+(ZB ds (gI (Zu ds num) k)).length else m
mutual
def fS (ds:List Zf) (nf:Nat):Nat->Z4->Prop
 | m,.mk op num into args kids=>((0<=op/\op<=11)∨(14<=op/\op<=17))/\(∀a∈args,0<=a/\a<m)/\(14<=op->num=0/\into=0/\kids=[]/\∃a,args=[a])/\(op=7->kids.length=2)/\(op=8->kids.length=(Zu ds num).length)/\(op=7∨op=8->∃a,args=[a]) /\
  (op=9->0<=num/\num<nf)/\(-2000<=num/\num<=2000)/\(0<=into/\into<=m)/\args.length<=4/\(op≠7/\op≠8->kids=[])/\T2 ds nf (Ut ds op num m) 0 kids
def T2 (ds:List Zf) (nf:Nat) (sc:Nat->Nat):Nat->List Z7->Prop
 | _,[]=>True
 | k,b::r=>fB ds nf (sc k) b/\T2 ds nf sc (k+1) r
def UC (ds:List Zf) (nf:Nat):Nat->List Z4->Prop
 | _,[]=>True
 | m,s::r=>fS ds nf m s/\UC ds nf (if YF s.op=true then m else m+1) r
def fB (ds:List Zf) (nf:Nat):Nat->Z7->Prop
 | m,.mk steps result=>UC ds nf m steps/\0<=result/\result<(m+YO steps:Nat)
end
section
variable {ds:List Zf} {nf:Nat}
structure FS (ds:List Zf) (nf m:Nat) (s:Z4):Prop where
 op:(0<=s.op/\s.op<=11)∨(14<=s.op/\s.op<=17)
 args:∀a∈s.args,0<=a/\a<m
 cnt:14<=s.op->s.num=0/\s.into=0/\s.kids=[]/\∃a,s.args=[a]
 k7:s.op=7->s.kids.length=2
 k8:s.op=8->s.kids.length=(Zu ds s.num).length
 one:s.op=7∨s.op=8->∃a,s.args=[a]
 call:s.op=9->0<=s.num/\s.num<nf
 num:-2000<=s.num/\s.num<=2000
 into:0<=s.into/\s.into<=m
 alen:s.args.length<=4
 kn:s.op≠7/\s.op≠8->s.kids=[]
 kids:T2 ds nf (Ut ds s.op s.num m) 0 s.kids
theorem Do {m:Nat} (s:Z4):fS ds nf m s↔FS ds nf m s:=by
 cases s
 rw [fS]
 exact ⟨fun ⟨h1,h2,h3,h4,h5,h6,h7,h8,h9,h10,h11,h12⟩=>⟨h1,h2,h3,h4,h5,h6,h7,h8,h9,h10,h11,h12⟩,fun h=>⟨h.op,h.args,h.cnt,h.k7,h.k8,h.one,h.call,h.num,h.into,h.alen,h.kn,h.kids⟩⟩
theorem C4 {m:Nat} (b:Z7):fB ds nf m b↔UC ds nf m b.steps/\0<=b.result/\b.result<(m+YO b.steps:Nat):=by cases b;rw [fB];rfl
theorem C5 {sc:Nat->Nat}:∀{xs:List Z7} {j k:Nat} {b:Z7},T2 ds nf sc j xs->xs[k]? = some b->fB ds nf (sc (j+k)) b
 | [],j,k,b,_,h=>by simp at h
 | x::r,j,0,b,hw,h=>by simp at h;subst h;exact hw.1
 | x::r,j,k+1,b,hw,h=>by
  have:=C5 (xs:=r) (j:=j+1) (k:=k) hw.2 (by simpa using h)
  rw [show j+(k+1)=j+1+k by omega];exact this
theorem Ip {sc:Nat->Nat}:∀{xs ys:List Z7} {j:Nat},T2 ds nf sc j (xs++ys)↔T2 ds nf sc j xs/\T2 ds nf sc (j+xs.length) ys
 | [],ys,j=>by simp [T2]
 | x::r,ys,j=>by
  rw [QT,T2,T2,Ip (xs:=r),and_assoc,YS,show j+1+r.length=j+(r.length+1) by omega]
theorem Iq {sc:Nat->Nat} {xs:List Z7} {b:Z7} (h:T2 ds nf sc 0 xs) (hb:fB ds nf (sc xs.length) b):T2 ds nf sc 0 (xs++[b]):=
 Ip.2 ⟨h,by rw [WQ];exact hb,True.intro⟩
theorem Bk:∀{xs ys:List Z4} {m:Nat},UC ds nf m (xs++ys)↔UC ds nf m xs/\UC ds nf (m+YO xs) ys
 | [],ys,m=>by simp [UC,YO]
 | x::r,ys,m=>by
  rw [QT,UC,UC,Bk (xs:=r),and_assoc,YO]
  by_cases h:YF x.op=true
  ·rw [Zm h,Zm h,WQ]
  ·rw [Zb h,Zb h,Ju]
theorem Dp {xs:List Z4} {s:Z4} {m:Nat} (h:UC ds nf m xs) (hs:fS ds nf (m+YO xs) s):UC ds nf m (xs++[s]):=Bk.2 ⟨h,hs,True.intro⟩
theorem C6:∀{xs:List Z4} {k m:Nat} {s:Z4},UC ds nf m xs->xs[k]? = some s->fS ds nf (m+YO (xs.take k)) s
 | [],k,m,s,_,h=>by simp at h
 | x::r,0,m,s,hw,h=>by simp at h;subst h;exact hw.1
 | x::r,k+1,m,s,hw,h=>by
  have:=C6 (xs:=r) (k:=k) hw.2 (by simpa using h)
  rw [B0,YO]
  by_cases hc:YF x.op=true
  ·rw [Zm hc] at this ⊢;rw [WQ];exact this
  ·rw [Zb hc] at this ⊢;rw [<-Ju];exact this
mutual
theorem Z7k:∀(s:Z4) {m:Nat},fS ds nf m s->m+4*s.sz<=900000000->Wm ds->wS ds s
 | .mk op num into args kids,m,h,hb,hd=>by
  rw [fS] at h
  obtain ⟨h1,h2,h3,h4,h5,h6,h7,h8,h9,h10,h11,h12⟩:=h
  rw [Z4.sz] at hb
  rw [wS]
  refine ⟨?_,fun hc=>h3 (show 14<=op/\op<=17 by simpa [YF] using hc).1,fun h8'=>⟨?_,h5 h8'⟩,NX kids h12 (fun k=>?_) hd⟩
  ·rcases h1 with h1|h1
   ·have e1:YF op=false:=by simp [YF];omega
    have e2:Xf op=true:=by simp [Xf];omega
    rw [e1,e2];rfl
   ·have e1:YF op=true:=by simp [YF];omega
    have e2:Xf op=false:=by simp [Xf];omega
    rw [e1,e2];rfl
  ·obtain ⟨a,ha⟩:=h6 (.inr h8')
   have:=h2 a (by rw [ha];exact W4.2 rfl)
   exact ⟨a,ha,by omega⟩
  ·have hf:=VH hd (gI (Zu ds num) k)
   show Ut ds op num m k+4*YY kids<=900000003
   rw [Ut];split<;>omega
theorem NX:∀(bs:List Z7) {sc:Nat->Nat} {k:Nat},T2 ds nf sc k bs->(∀k,sc k+4*YY bs<=900000003)->Wm ds->Jp ds bs
 | [],_,_,_,_,_=>True.intro
 | b::r,sc,k,h,hb,hd=>by
  have hp:=b.sz_eq
  exact ⟨NW b h.1 (by have:=hb k;rw [YY] at this;omega) hd,NX r h.2 (fun j=>by have:=hb j;rw [YY] at this;omega) hd⟩
theorem NY:∀(xs:List Z4) {m:Nat},UC ds nf m xs->m+4*Yu xs<=900000000->Wm ds->Q3 ds xs
 | [],_,_,_,_=>True.intro
 | s::r,m,h,hb,hd=>by
  rw [Yu] at hb
  have hp:=s.sz_pos
  refine ⟨Z7k s h.1 om hd,NY r h.2 ?_ hd⟩
  split<;>omega
theorem NW:∀(b:Z7) {m:Nat},fB ds nf m b->m+4*b.sz<=900000004->Wm ds->wB ds b
 | .mk steps result,m,h,hb,hd=>by
  rw [Z7.sz] at hb
  rw [fB] at h
  rw [wB]
  exact NY steps h.1 om hd
end
mutual
theorem Z3c:∀(s:Z4) {m:Nat},fS ds nf m s->s.rng
 | .mk op num into args kids,m,h=>by
  rw [fS] at h
  obtain ⟨h1,h2,h3,h4,h5,h6,h7,h8,h9,h10,h11,h12⟩:=h
  rw [Z4.rng]
  exact ⟨by omega,MC kids h12⟩
theorem MC:∀(bs:List Z7) {sc:Nat->Nat} {k:Nat},T2 ds nf sc k bs->TO bs
 | [],_,_,_=>True.intro
 | b::r,sc,k,h=>⟨Gz b h.1,MC r h.2⟩
theorem MD:∀(xs:List Z4) {m:Nat},UC ds nf m xs->Qj xs
 | [],_,_=>True.intro
 | s::r,m,h=>⟨Z3c s h.1,MD r h.2⟩
theorem Gz:∀(b:Z7) {m:Nat},fB ds nf m b->b.rng
 | .mk steps result,m,h=>by rw [fB] at h;rw [Z7.rng];exact MD steps h.1
end
end
structure FN (n:Zy) (q:Nat):Prop where
 decls:GD n.decls
 len:1<=n.routines.length/\n.routines.length<=4
 sigs:∀r∈n.routines,(r.params,r.result)∈Kh
 lent:∀r∈n.routines,r.lent.length<=3/\∀i∈r.lent,0<=i/\i<r.params.length
 body:∀r∈n.routines,fB n.decls n.routines.length r.params.length r.body/\r.body.sz<=q
theorem FN.ok {n:Zy} {q:Nat} (h:FN n q):Xe n:=
 ⟨h.decls.ok,h.len.2,fun r hr=>(UL.bd (f:=⟨r.params,r.result,default⟩) (h.sigs r hr)).1,fun r hr=>by have:=(h.lent r hr).1;omega⟩
def Pk (n k:Int):Prop:=0<=k/\(0<n->k<n)/\(n<=0->k=0)
theorem Pk.lt {n k:Int} (h:Pk n k) (hn:0<n):0<=k/\k<n:=⟨h.1,h.2.1 hn⟩
theorem Pk.zero {n:Int}:Pk n 0:=⟨Int.le_refl _,fun h=>h,fun _=>rfl⟩
theorem Pk.rem {n a:Int} (ha:0<=a) (hn:0<n):Pk n (a % n):=⟨Int.emod_nonneg _ om,fun _=>Int.emod_lt_of_pos _ hn,fun _=>by omega⟩
def AD (ds:List Zf):Prop:=ds.length<=8/\∀d∈ds,d.cons.length<=4/\∀c∈d.cons,c.fields.length<=4
theorem GD.ad {ds:List Zf} (h:GD ds):AD ds:=(by decide:∀ds∈J9,ds.length<=8/\∀d∈ds,d.cons.length<=4/\∀c∈d.cons,c.fields.length<=4) ds h
theorem AD.set {ds:List Zf} (h:AD ds) (k:Nat) {d:Zf} (hd:d.cons.length<=4/\∀c∈d.cons,c.fields.length<=4):AD (ds.set k d):=
 ⟨by rw [UV];exact h.1,fun x hx=>(List.mem_or_eq_of_mem_set hx).elim (h.2 x) fun e=>by rw [e];exact hd⟩
theorem AD.app {ds es:List Zf} (h:AD ds) (hl:ds.length+es.length<=8) (hd:∀d∈es,d.cons.length<=4/\∀c∈d.cons,c.fields.length<=4):AD (ds++es):=
 ⟨by rw [Yx];exact hl,fun x hx=>(Xr.1 hx).elim (h.2 x) (hd x)⟩
theorem GD.three:GD [KW,⟨0,0,[]⟩,KX]:=List.Mem.head _
theorem GD.four:∀{k:Nat} {x:Zf},I8[k]? = some x->GD ([KW,⟨0,0,[]⟩,KX]++[x])
 | 0,x,h=>by cases h;exact .tail _ (.head _)
 | 1,x,h=>by cases h;exact .tail _ (.tail _ (.head _))
 | 2,x,h=>by cases h;exact .tail _ (.tail _ (.tail _ (.head _)))
 | 3,x,h=>by cases h;exact .tail _ (.tail _ (.tail _ (.tail _ (.head _))))
 | k+4,x,h=>by simp [I8] at h
theorem JZ {l:List Int} {z a b:Int} (h:z∈l) (hl:l.all (fun x=>decide (a<=x/\x<=b))=true):a<=z/\z<=b:=by
 have:=Ke.1 hl z h
 exact of_decide_eq_true this
def rk (t:Int):Nat:=if QG t then 0 else 1
theorem Gy (t:Int):rk t<=1:=by rw [rk];split<;>omega
theorem MB {t:Int} (h:QG t):rk t=0:=Zm h
def SE (g:XT) (q:Nat) (e:Z2):Prop:=(∀m,eW g.decls g.funcs.length m e)/\e.sz<=q
def GE (g:XT) (m q:Nat) (e:Z2):Prop:=eW g.decls g.funcs.length m e/\e.sz<=q
theorem SE.ge {g:XT} {q q' m:Nat} {e:Z2} (h:SE g q e) (hq:q<=q'):GE g m q' e:=⟨h.1 m,Vf h.2 hq⟩
theorem GE.le {g:XT} {m q q':Nat} {e:Z2} (h:GE g m q e) (hq:q<=q'):GE g m q' e:=⟨h.1,Vf h.2 hq⟩
theorem Dn {m:Nat}:∀{xs:List Z2},(∀e∈xs,e.sz<=m)->Xo xs<=xs.length*m
 | [],_=>QV _
 | x::r,h=>by
  have h1:=h x (Xj ..)
  have h2:=Dn (xs:=r) fun e he=>h e (XH _ he)
  rw [Xo,YS,Tt];omega
theorem Xq {α:Type} {p:α->Prop} {xs:List α} {a:α} (h:∀x∈xs,p x) (ha:p a):∀x∈xs++[a],p x:=fun x hx=>(Xr.1 hx).elim (h x) fun q=>by rw [W4.1 q];exact ha
theorem SE.int {g:XT} {z:Int} {q:Nat} (hz:-2000<=z/\z<=2000) (hq:1<=q):SE g q (.mk 0 z []):=⟨fun _=>R5 hz,by simpa [Z2.sz,Xo] using hq⟩
theorem SE.node {g:XT} {op num:Int} {ys:List Z2} {q k:Nat} (ho:op=6∨op=10) (hn:0<=num/\num<=2000) (hy:∀e∈ys,SE g 1 e) (hl:ys.length<=k) (hk:k<=3) (hq:1+k<=q):SE g q (.mk op num ys):=by
 refine ⟨fun m=>Ax om (fun h=>by omega) om om fun e he=>(hy e he).1 m,?_⟩
 have:=Dn (xs:=ys) (m:=1) fun e he=>(hy e he).2
 rw [Z2.sz];omega
def Jz (ds:List Zf) (t c:Int):Prop:=(0<=c/\c<=9)/\(ZB ds c).length<=3*rk t/\∀u∈ZB ds c,QG u
instance (ds:List Zf) (t c:Int):Decidable (Jz ds t c):=inferInstanceAs (Decidable (_/\_/\_))
theorem MU {ds:List Zf} (h:GD ds):∀t∈[(1:Int),2,3,4],∀c∈Zu ds t,(t∈ZB ds c->∀c0,(Zu ds t)[0]? = some c0->Jz ds t c0)/\(¬t∈ZB ds c->Jz ds t c):=by
 intro t ht c hc
 have k1:=(by decide:∀ds∈J9,∀t∈[(1:Int),2,3,4],∀c∈Zu ds t,(t∈ZB ds c->Jz ds t (gI (Zu ds t) 0))/\(¬t∈ZB ds c->Jz ds t c)) ds h t ht c hc
 refine ⟨fun q c0 h0=>?_,k1.2⟩
 have:=k1.1 q
 rwa [UQ (i:=0) h0] at this
theorem I4 {ds:List Zf} (h:GD ds) {t c:Int} (hc:c∈Zu ds t):t∈[(1:Int),2,3,4]:=by
 obtain ⟨_,h2,_⟩:=h.cons_cases hc
 rcases h2 with rfl|rfl|rfl<;>simp
theorem Z4b {ds:List Zf} (h:GD ds) {t c c0:Int} (hc:c∈Zu ds t) (ht:t∈ZB ds c) (h0:(Zu ds t)[0]? = some c0):Jz ds t c0:=(MU h t (I4 h hc) c hc).1 ht c0 h0
theorem Z4a {ds:List Zf} (h:GD ds) {t c:Int} (hc:c∈Zu ds t) (ht:¬t∈ZB ds c):Jz ds t c:=(MU h t (I4 h hc) c hc).2 ht
theorem Z3b {ds:List Zf} (h:GD ds) {t:Int} (h0:(Zu ds t).length=0) (ht:0<t):rk t=1:=by
 rw [rk,Zb]
 rintro (q|q|q)
 ·omega
 ·rw [q,h.low.2.1] at h0;cases h0
 ·rw [q,h.low.2.2.2.1] at h0;cases h0
def KO (g:XT) (t i:Int):Prop:=0<=i/\∃f,g.funcs[i.toNat]? = some f/\0<f.params.length/\WT g.decls (gI f.params ((f.params.length:Int)-1)) f.result=t
theorem KO.lt {g:XT} {t i:Int} (h:KO g t i):0<=i/\i<g.funcs.length:=by
 obtain ⟨h1,f,h2,_⟩:=h
 have:=(XM.1 h2).1
 omega
theorem KO.mk {g:XT} {t x2:Int} {k:Nat} {f:Func} (hf:g.funcs[k]? = some f) (hl:0<f.params.length) (hx:f.params[f.params.length-1]? = some x2) (ha:WT g.decls x2 f.result=t):KO g t (k:Int):=by
 refine ⟨by omega,f,by simpa using hf,hl,?_⟩
 rw [UQ (i:=(f.params.length:Int)-1) (by rw [show ((f.params.length:Int)-1).toNat=f.params.length-1 by omega];exact hx)]
 exact ha
theorem KO.low {g:XT} {t i u:Int} {f:Func} {j:Nat} (hg:GP g) (h:KO g t i) (ht:0<t) (hf:g.funcs[i.toNat]? = some f) (hj:j+1<f.params.length) (hu:f.params[j]? = some u):rk u=0:=by
 obtain ⟨_,f',h2,_,h4⟩:=h
 have e:f'=f:=Jv (h2.symm.trans hf)
 subst e
 have h5:=(hg.sigs f' (Y7 hf)).clo hg.decls (by rw [h4];exact ht)
 refine MB (h5 u ?_)
 rw [List.dropLast_eq_take]
 exact Y7 (i:=j) (by rw [List.getElem?_take_of_lt om];exact hu)
end Go.Abs
section
namespace Go.Abs
theorem Kk (b:Nat):bS b=max 4 (10*b-10):=rfl
theorem Kj (b:Nat):bC b=max 40 (100*b-100):=rfl
theorem Ct {L q b:Nat} (hL:L<=3) (hb:3<=b) (hq:L*q<=b-1):1+L*bS q<=bS b:=by
 rw [Kk,Kk]
 have:L=0∨L=1∨L=2∨L=3:=by omega
 rcases this with rfl|rfl|rfl|rfl<;>omega
theorem Z22 {L q b:Nat} (hL:L<=3) (hb:3<=b) (hq:L*q<=b-2):5+L*bS q<=bS b:=by
 rw [Kk,Kk]
 have:L=0∨L=1∨L=2∨L=3:=by omega
 rcases this with rfl|rfl|rfl|rfl<;>omega
theorem Z1w {b:Nat} (hb:3<=b):1+(bS (b / 2)+bS (b / 2))<=bS b:=by rw [Kk,Kk];omega
theorem Ou {b:Nat} (hb:3<=b):5+bS (b-2)<=bS b:=by rw [Kk,Kk];omega
theorem Jj {L q b:Nat} (hL:L<=3) (hb:3<=b) (hq:L*q<=b-1):10+L*bC q<=bC b:=by
 rw [Kj,Kj]
 have:L=0∨L=1∨L=2∨L=3:=by omega
 rcases this with rfl|rfl|rfl|rfl<;>omega
theorem Z21 {L q b:Nat} (hL:L<=3) (hb:3<=b) (hq:L*q<=b-2):40+L*bC q<=bC b:=by
 rw [Kj,Kj]
 have:L=0∨L=1∨L=2∨L=3:=by omega
 rcases this with rfl|rfl|rfl|rfl<;>omega
theorem Z1v {b:Nat} (hb:3<=b):10+(bC (b / 2)+bC (b / 2))<=bC b:=by rw [Kj,Kj];omega
theorem Ot {b:Nat} (hb:3<=b):40+bC (b-2)<=bC b:=by rw [Kj,Kj];omega
theorem HK (b:Nat):4<=bS b:=by rw [Kk];omega
theorem HJ (b:Nat):40<=bC b:=by rw [Kj];omega
theorem Ti (L b:Nat):L*(b / L)<=b:=Nat.mul_div_le b L
theorem LV {k L C:Nat} (h:k<L):(k+1)*C=k*C+C/\(k+1)*C<=L*C:=⟨by rw [Tt,Nat.one_mul],TK C h⟩
theorem BI {ds:List Zf} {d x:Int} {m k:Nat} (h:(Zu ds d)[k]? = some x):Tb ds 8 d m (1+k)=m+(ZB ds x).length:=by
 rw [Tb,Zb om,Zm rfl,Zb om,UQ (i:=((1+k:Nat):Int)-1) (by rw [show (((1+k:Nat):Int)-1).toNat=k by omega];exact h)]
section
variable {g:XT} {m:Nat}
theorem GE.var {z:Int} {q:Nat} (hz:0<=z/\z<m) (hm:m<=2000) (hq:1<=q):GE g m q (.mk 12 z []):=⟨R6 hz hm,by simpa [Z2.sz,Xo] using hq⟩
theorem GE.list {ys:List Z2} {L s:Nat} (h:∀e∈ys,GE g m s e) (hl:ys.length=L):Xo ys<=L*s:=by rw [<-hl];exact Dn fun e he=>(h e he).2
theorem GE.node {op num:Int} {ys:List Z2} {L s q:Nat} (ho:0<=op/\op<=11/\op≠7/\op≠8) (hc:op=9->0<=num/\num<g.funcs.length) (hn:-2000<=num/\num<=2000) (h:∀e∈ys,GE g m s e) (hl:ys.length=L) (hL:L<=3) (hq:1+L*s<=q):GE g m q (.mk op num ys):=by
 have:=GE.list h hl
 exact ⟨Ax ho hc hn om fun e he=>(h e he).1,by rw [Z2.sz];omega⟩
theorem GE.if_ {num:Int} {ys:List Z2} {s q:Nat} (hn:-2000<=num/\num<=2000) (h:∀e∈ys,GE g m s e) (hl:ys.length=3) (hq:1+3*s<=q):GE g m q (.mk 7 num ys):=by
 have:=GE.list h hl
 exact ⟨Ih hn hl fun e he=>(h e he).1,by rw [Z2.sz];omega⟩
theorem GE.let_ {a b:Z2} {s q:Nat} (ha:GE g m s a) (hb:GE g (m+1) s b) (hq:1+(s+s)<=q):GE g m q (.mk 13 0 [a,b]):=by
 refine ⟨Ii om ha.1 hb.1,?_⟩
 have h1:=ha.2
 have h2:=hb.2
 simp only [Z2.sz,Xo];omega
theorem GE.two {op num:Int} {a b:Z2} {s1 s2 q:Nat} (ho:0<=op/\op<=11/\op≠7/\op≠8/\op≠9) (hn:-2000<=num/\num<=2000) (ha:GE g m s1 a) (hb:GE g m s2 b) (hq:1+(s1+s2)<=q):GE g m q (.mk op num [a,b]):=by
 refine ⟨Ax om (fun h=>by omega) hn (by simp) fun e he=>?_,?_⟩
 ·rcases YQ.1 he with rfl|he
  ·exact ha.1
  ·rw [W4.1 he];exact hb.1
 ·have h1:=ha.2
  have h2:=hb.2
  simp only [Z2.sz,Xo];omega
theorem GE.match_ {d:Int} {e:Z2} {ys:List Z2} {L s q:Nat} (hd:-2000<=d/\d<=2000) (he:GE g m 4 e) (hw:TQ g.decls g.funcs.length (Tb g.decls 8 d m) 1 ys) (hs:∀e∈ys,e.sz<=s) (hl:ys.length=L) (hL:L=(Zu g.decls d).length) (h3:L<=3) (hq:5+L*s<=q):GE g m q (.mk 8 d (e::ys)):=by
 refine ⟨Fx hd om om he.1 hw,?_⟩
 have h1:=Dn hs
 rw [hl] at h1
 have h2:=he.2
 rw [Z2.sz,Xo];omega
end
def NL (s:Nat) (left w:Int):Prop:=((s:Int)<=left/\w=left-s)∨(left<s/\w=-1)
end Go.Abs
namespace Go.Abs
theorem AL {L b p pp M:Nat} (hL:L<=3) (hb:3<=b) (h:pp<=p+8) (hp:p+(bC b-1)<=M):pp+L*bC ((b-1) / L)<=M:=by
 have:=Jj hL hb (Ti L (b-1))
 omega
end Go.Abs
end
namespace Go.Abs
theorem Rb (a b:Z2):Xo [a,b]=a.sz+b.sz:=by simp only [Xo];omega
theorem Dm (a b c:Z2):Xo [a,b,c]=a.sz+b.sz+c.sz:=by simp only [Xo];omega
theorem BU:bS 3=20/\bS 4=30/\bS 12=110/\bS 16=150/\bS 18=170/\bC 3=200/\bC 4=300/\bC 16=1500:=by decide
theorem D0 {b:Nat} (h:b<=20):bS b<=190/\bC b<=1900/\(b<=2->bS b<=10):=by rw [Kk,Kj];omega
section
variable {g:XT} {m:Nat}
theorem SE.ofs {op num:Int} {ys:List Z2} {q:Nat} (ho:0<=op/\op<=11/\op≠7/\op≠8/\op≠9) (hn:-2000<=num/\num<=2000) (hl:ys.length<=4) (hy:∀e∈ys,∃s,SE g s e) (hq:1+Xo ys<=q):SE g q (.mk op num ys):=
 ⟨fun m=>Ax om (fun h=>by omega) hn hl fun e he=>let ⟨_,h⟩:=hy e he;h.1 m,by rw [Z2.sz];exact hq⟩
theorem SE.nil {op num:Int} {q:Nat} (ho:0<=op/\op<=11/\op≠7/\op≠8/\op≠9) (hn:-2000<=num/\num<=2000) (hq:1<=q):SE g q (.mk op num []):=
 SE.ofs ho hn (by simp) (fun e he=>by cases he) (by simpa [Xo] using hq)
theorem SE.two {op num:Int} {a b:Z2} {s1 s2 q:Nat} (ho:0<=op/\op<=11/\op≠7/\op≠8/\op≠9) (hn:-2000<=num/\num<=2000) (ha:SE g s1 a) (hb:SE g s2 b) (hq:1+(s1+s2)<=q):SE g q (.mk op num [a,b]):=by
 refine SE.ofs ho hn (by simp) (fun e he=>?_) ?_
 ·rcases YQ.1 he with rfl|he
  ·exact ⟨_,ha⟩
  ·rw [W4.1 he];exact ⟨_,hb⟩
 ·have h1:=ha.2
  have h2:=hb.2
  rw [Rb];omega
theorem SE.three {op num:Int} {a b c:Z2} {s1 s2 s3 q:Nat} (ho:0<=op/\op<=11/\op≠7/\op≠8/\op≠9) (hn:-2000<=num/\num<=2000) (ha:SE g s1 a) (hb:SE g s2 b) (hc:SE g s3 c) (hq:1+(s1+s2+s3)<=q):SE g q (.mk op num [a,b,c]):=by
 refine SE.ofs ho hn (by simp) (fun e he=>?_) ?_
 ·rcases YQ.1 he with rfl|he
  ·exact ⟨_,ha⟩
  ·rcases YQ.1 he with rfl|he
   ·exact ⟨_,hb⟩
   ·rw [W4.1 he];exact ⟨_,hc⟩
 ·have h1:=ha.2
  have h2:=hb.2
  have h3:=hc.2
  rw [Dm];omega
theorem GE.int {z:Int} {q:Nat} (hz:-2000<=z/\z<=2000) (hq:1<=q):GE g m q (.mk 0 z []):=(SE.int (g:=g) (q:=q) hz hq).ge (X7 _)
theorem GE.three {op num:Int} {a b c:Z2} {s1 s2 s3 q:Nat} (ho:0<=op/\op<=11/\op≠8/\op≠9) (hn:-2000<=num/\num<=2000) (ha:GE g m s1 a) (hb:GE g m s2 b) (hc:GE g m s3 c) (hq:1+(s1+s2+s3)<=q):GE g m q (.mk op num [a,b,c]):=by
 have hk:∀e∈[a,b,c],eW g.decls g.funcs.length m e:=fun e he=>by
  rcases YQ.1 he with rfl|he
  ·exact ha.1
  ·rcases YQ.1 he with rfl|he
   ·exact hb.1
   ·rw [W4.1 he];exact hc.1
 refine ⟨?_,?_⟩
 ·by_cases h7:op=7
  ·subst h7;exact Ih hn rfl hk
  ·exact Ax om (fun h=>by omega) hn (by simp) hk
 ·have h1:=ha.2
  have h2:=hb.2
  have h3:=hc.2
  rw [Z2.sz,Dm];omega
theorem GE.one {op num:Int} {a:Z2} {s1 q:Nat} (ho:0<=op/\op<=11/\op≠7/\op≠8/\op≠9) (hn:-2000<=num/\num<=2000) (ha:GE g m s1 a) (hq:1+s1<=q):GE g m q (.mk op num [a]):=by
 refine ⟨Ax om (fun h=>by omega) hn (by simp) fun e he=>?_,?_⟩
 ·rw [W4.1 he];exact ha.1
 ·have h1:=ha.2
  simp only [Z2.sz,Xo];omega
theorem GE.letS {a b:Z2} {s1 s2 q:Nat} (ha:GE g m s1 a) (hb:GE g (m+1) s2 b) (hq:1+(s1+s2)<=q):GE g m q (.mk 13 0 [a,b]):=by
 refine ⟨Ii om ha.1 hb.1,?_⟩
 have h1:=ha.2
 have h2:=hb.2
 simp only [Z2.sz,Xo];omega
theorem GE.matchL (hg:GP g) {e a b:Z2} {s1 s2 s3 q:Nat} (he:GE g m s1 e) (ha:GE g m s2 a) (hb:GE g (m+2) s3 b) (hq:1+(s1+s2+s3)<=q):GE g m q (.mk 8 1 [e,a,b]):=by
 have hl:=hg.decls.low
 refine ⟨Fx om (by simp) (by rw [hl.2.1];rfl) he.1 ⟨?_,?_,True.intro⟩,?_⟩
 ·rw [BI (k:=0) (x:=0) (by rw [hl.2.1];rfl),hl.2.2.2.2.1];exact ha.1
 ·rw [BI (k:=1) (x:=1) (by rw [hl.2.1];rfl),hl.2.2.2.2.2.1];exact hb.1
 ·have h1:=he.2
  have h2:=ha.2
  have h3:=hb.2
  rw [Z2.sz,Dm];omega
theorem GE.matchT (hg:GP g) {e a b:Z2} {s1 s2 s3 q:Nat} (he:GE g m s1 e) (ha:GE g m s2 a) (hb:GE g (m+3) s3 b) (hq:1+(s1+s2+s3)<=q):GE g m q (.mk 8 3 [e,a,b]):=by
 have hl:=hg.decls.low
 refine ⟨Fx om (by simp) (by rw [hl.2.2.2.1];rfl) he.1 ⟨?_,?_,True.intro⟩,?_⟩
 ·rw [BI (k:=0) (x:=2) (by rw [hl.2.2.2.1];rfl),hl.2.2.2.2.2.2.1];exact ha.1
 ·rw [BI (k:=1) (x:=3) (by rw [hl.2.2.2.1];rfl),hl.2.2.2.2.2.2.2];exact hb.1
 ·have h1:=he.2
  have h2:=ha.2
  have h3:=hb.2
  rw [Z2.sz,Dm];omega
theorem EV {α:Type} {p:α->Prop} {a:α} (h:p a):∀x∈[a],p x:=fun x hx=>by rw [W4.1 hx];exact h
end
structure EK (g:XT):Prop where
 gp:GP g
 body:∀f∈g.funcs,eW g.decls g.funcs.length f.params.length f.body/\f.body.sz<=30
structure GL (ds:List Zf) (k j:Nat) (rq:List Func):Prop where
 len:rq.length=4
 sigs:∀f∈rq,UL f
 zero:∀f,rq[0]? = some f->f.params.length=0
 body:∀i f,j<=i->i<k->rq[i]? = some f->eW ds k f.params.length f.body/\f.body.sz<=30
theorem GL.gp {ds:List Zf} {k j:Nat} {rq:List Func} (h:GL ds k j rq) (hd:GD ds) (hk:1<=k/\k<=4):GP ⟨ds,rq.take k⟩:=
 ⟨hd,by show 1<=(rq.take k).length/\_;rw [Wv,h.len];omega,fun f hf=>h.sigs f (TJ hf)⟩
theorem GL.len_take {ds:List Zf} {k j:Nat} {rq:List Func} (h:GL ds k j rq) (hk:k<=4):(rq.take k).length=k:=by rw [Wv,h.len];omega
theorem GL.set {ds:List Zf} {k j:Nat} {rq:List Func} {f:Func} {e:Z2} (h:GL ds k j rq) (hj:1<=j) (hf:rq[j-1]? = some f) (he:eW ds k f.params.length e/\e.sz<=30):GL ds k (j-1) (rq.set (j-1) ⟨f.params,f.result,e⟩):=by
 have hl:=(XM.1 hf).1
 refine ⟨by rw [UV];exact h.len,fun x hx=>?_,fun x hx=>?_,fun i x h1 h2 hx=>?_⟩
 ·rcases List.mem_or_eq_of_mem_set hx with hx|rfl
  ·exact h.sigs x hx
  ·exact h.sigs f (Y7 hf)
 ·rw [List.getElem?_set] at hx
  split at hx
  ·rename_i h0
   cases hx
   exact h.zero f (by rw [<-h0];exact hf)
  ·exact h.zero x hx
 ·rw [List.getElem?_set] at hx
  split at hx
  ·cases hx
   exact he
  ·exact h.body i x om h2 hx
theorem GL.done {ds:List Zf} {k:Nat} {rq:List Func} (h:GL ds k 0 rq) (hd:GD ds) (hk:1<=k/\k<=4):EK ⟨ds,rq.take k⟩:=by
 refine ⟨h.gp hd hk,fun f hf=>?_⟩
 show eW ds (rq.take k).length _ _/\_
 rw [h.len_take hk.2]
 obtain ⟨i,hi⟩:=List.getElem?_of_mem hf
 have hi2:i<(rq.take k).length:=(XM.1 hi).1
 rw [h.len_take hk.2] at hi2
 rw [List.getElem?_take_of_lt hi2] at hi
 exact h.body i f om hi2 hi
theorem GT {l:List Func} {f:Func} {k:Nat} (h:l[k]? = some f) (hl:l.all (fun f=>decide ((f.params,f.result)∈Kh))=true):UL f:=show (f.params,f.result)∈Kh from of_decide_eq_true (Ke.1 hl f (Y7 h))
theorem GL.start {ds:List Zf} {k:Nat} {e:Z2} {a b c:Func} (ha:UL a) (hb:UL b) (hc:UL c):GL ds k k [⟨[],0,e⟩,a,b,c]:=by
 refine ⟨rfl,fun f hf=>?_,fun f hf=>?_,fun i f h1 h2=>by omega⟩
 ·rcases YQ.1 hf with rfl|hf
  ·exact List.Mem.head _
  ·rcases YQ.1 hf with rfl|hf
   ·exact ha
   ·rcases YQ.1 hf with rfl|hf
    ·exact hb
    ·rw [W4.1 hf];exact hc
 ·cases hf;rfl
theorem Z2e {l:List Int} {k:Nat} {a b:Nat} (h:(k:Int)∈l) (hl:l.all (fun x=>decide ((a:Int)<=x/\x<=b))=true):a<=k/\k<=b:=by
 have:=of_decide_eq_true (Ke.1 hl _ h)
 omega
mutual
def TY (p:Int->Prop):Z4->Prop
 | .mk op _ _ _ kids=>p op/\TX p kids
def TX (p:Int->Prop):List Z7->Prop
 | []=>True
 | b::r=>WW p b/\TX p r
def Ta (p:Int->Prop):List Z4->Prop
 | []=>True
 | s::r=>TY p s/\Ta p r
def WW (p:Int->Prop):Z7->Prop
 | .mk steps _=>Ta p steps
end
section
variable {p q:Int->Prop}
theorem Cx (s:Z4):TY p s↔p s.op/\TX p s.kids:=by cases s;rw [TY];rfl
theorem E1 (b:Z7):WW p b↔Ta p b.steps:=by cases b;rw [WW];rfl
theorem BB:∀{xs:List Z7},TX p xs↔∀b∈xs,WW p b
 | []=>by simp [TX]
 | b::r=>by rw [TX,BB];simp
theorem AO:∀{xs:List Z4},Ta p xs↔∀b∈xs,TY p b
 | []=>by simp [Ta]
 | b::r=>by rw [Ta,AO];simp
theorem E2 {xs ys:List Z4}:Ta p (xs++ys)↔Ta p xs/\Ta p ys:=by simp only [AO,Xr];exact ⟨fun h=>⟨fun b hb=>h b (.inl hb),fun b hb=>h b (.inr hb)⟩,fun h b hb=>hb.elim (h.1 b) (h.2 b)⟩
theorem Mb {xs:List Z7} {b:Z7} (h:TX p xs) (hb:WW p b):TX p (xs++[b]):=BB.2 (Xq (BB.1 h) hb)
theorem E3 {xs:List Z4} {b:Z4} (h:Ta p xs) (hb:TY p b):Ta p (xs++[b]):=AO.2 (Xq (AO.1 h) hb)
end
def Wq (op:Int):Prop:=op<=11
def V9 (op:Int):Prop:=op<=15
end Go.Abs
section
namespace Go.Abs
structure LW (ds:List Zf) (nf q:Nat) (e:Z2) (ys:List Z4) (v:Int):Prop where
 fs:UC ds nf q ys
 v:0<=v/\v<(q+YO ys:Nat)
 sz:Yu ys<=6*e.sz
 op:Ta Wq ys
theorem LW.dn {ds:List Zf} {nf q:Nat} {e:Z2} {ys:List Z4} {v:Int} (h:LW ds nf q e ys v):YO ys<=6*e.sz/\ys.length<=6*e.sz:=by
 have h1:=Au ys
 have h2:=K8 ys
 have h3:=h.sz
 omega
structure LB (ds:List Zf) (nf q:Nat) (e:Z2) (b:Z7):Prop where
 fb:fB ds nf q b
 sz:b.sz<=1+6*e.sz
 op:WW Wq b
section
variable {ds:List Zf} {nf q:Nat}
theorem BV:∀xs ys:List Z7,YY (xs++ys)=YY xs+YY ys
 | [],ys=>by simp [YY]
 | x::r,ys=>by rw [QT,YY,YY,BV r];omega
theorem LW.block {e:Z2} {ys:List Z4} {v:Int} (h:LW ds nf q e ys v):LB ds nf q e ⟨ys,v⟩:=
 ⟨by rw [fB];exact ⟨h.fs,h.v⟩,by rw [Z7.sz];have:=h.sz;omega,by rw [WW];exact h.op⟩
theorem LW.var {e:Z2} {v:Int} (hv:0<=v/\v<q):LW ds nf q e [] v:=⟨True.intro,by simpa [YO] using hv,by simp [Yu],True.intro⟩
theorem LW.let_ {e a b:Z2} {ys zs:List Z4} {v1 v2:Int} (ha:LW ds nf q a ys v1) (hb:LW ds nf (q+YO ys) b zs v2) (he:a.sz+b.sz<e.sz):LW ds nf q e (ys++zs) v2:=by
 refine ⟨Bk.2 ⟨ha.fs,hb.fs⟩,by rw [QY,<-Ju];exact hb.v,?_,E2.2 ⟨ha.op,hb.op⟩⟩
 have h1:=ha.sz
 have h2:=hb.sz
 rw [UJ];omega
theorem BZ {ys:List Z4} {s:Z4} (h:YF s.op=false):YO (ys++[s])=YO ys+1:=by
 rw [QY]
 simp [YO,h]
theorem LW.node {e:Z2} {ys:List Z4} {as1:List Int} (ho:0<=e.op/\e.op<=11/\e.op≠7/\e.op≠8) (hc:e.op=9->0<=e.num/\e.num<nf) (hn:-2000<=e.num/\e.num<=2000) (hf:UC ds nf q ys) (ha:∀a∈as1,0<=a/\a<(q+YO ys:Nat)) (hl:as1.length<=4) (hs:Yu ys<=6*Xo e.kids) (hop:Ta Wq ys) :
  LW ds nf q e (ys++[⟨e.op,e.num,0,as1,[]⟩]) ((q+YO ys:Nat):Int):=by
 have hcb:YF e.op=false:=by simp [YF];omega
 refine ⟨Dp hf ?_,?_,?_,E3 hop (by rw [TY];exact ⟨by show e.op<=11;omega,True.intro⟩)⟩
 ·rw [fS]
  exact ⟨.inl ⟨by omega,by omega⟩,ha,fun h=>by omega,fun h=>by omega,fun h=>by omega,fun h=>by omega,hc,hn,by omega,hl,fun _=>rfl,True.intro⟩
 ·rw [BZ (show YF (Z4.mk e.op e.num 0 as1 []).op=false from hcb)];omega
 ·rw [UJ,e.sz_eq]
  simp only [Yu,Z4.sz,YY]
  omega
theorem LW.branch {e:Z2} {ys:List Z4} {v:Int} {bs:List Z7} {s0 sr:Nat} (ho:e.op=7∨e.op=8) (h7:e.op=7->bs.length=2) (h8:e.op=8->bs.length=(Zu ds e.num).length) (hn:-2000<=e.num/\e.num<=2000) (hf:UC ds nf q ys) (hv:0<=v/\v<(q+YO ys:Nat))
  (hb:T2 ds nf (Ut ds e.op e.num (q+YO ys)) 0 bs) (hl:bs.length<=3) (h0:Yu ys<=6*s0) (h1:YY bs<=bs.length+6*sr) (hs:s0+sr<=Xo e.kids) (hop:Ta Wq ys) (hob:TX Wq bs):LW ds nf q e (ys++[⟨e.op,e.num,0,[v],bs⟩]) ((q+YO ys:Nat):Int):=by
 have hcb:YF e.op=false:=by simp [YF];omega
 refine ⟨Dp hf ?_,?_,?_,E3 hop (by rw [TY];exact ⟨by show e.op<=11;omega,hob⟩)⟩
 ·rw [fS]
  exact ⟨.inl ⟨by omega,by omega⟩,fun a ha=>by rw [W4.1 ha];exact hv,fun h=>by omega,h7,h8,fun _=>⟨v,rfl⟩,fun h=>by omega,hn,by omega,by simp,fun h=>by omega,hb⟩
 ·rw [BZ (show YF (Z4.mk e.op e.num 0 [v] bs).op=false from hcb)];omega
 ·rw [UJ,e.sz_eq]
  simp only [Yu,Z4.sz,YS,Xn]
  omega
theorem MS {ds:List Zf} {op num:Int} {m k:Nat} (h:op=13):Tb ds op num m k=m+k:=Zm h
theorem Z48 {ds:List Zf} {op num:Int} {m:Nat} (h:op≠13):Tb ds op num m 0=m:=by simp [Tb,h]
theorem MT {ds:List Zf} {op num:Int} {m k:Nat} (h:op≠13/\op≠8):Tb ds op num m k=m:=by simp [Tb,h.1,h.2]
theorem Z49 {ds:List Zf} {op num x:Int} {m k j:Nat} (h:op=8) (hk:k=j+1) (hx:(Zu ds num)[j]? = some x):Tb ds op num m k=m+(ZB ds x).length:=by
 subst h;subst hk;rw [Nat.add_comm j 1];exact BI hx
theorem GO {ds:List Zf} {op num x:Int} {m j:Nat} (h:op=8) (hx:(Zu ds num)[j]? = some x):Ut ds op num m j=m+(ZB ds x).length:=by
 rw [Ut,Zm h,UQ (i:=(j:Int)) (by simpa using hx)]
theorem GQ {ds:List Zf} {op num:Int} {m j:Nat} (h:op≠8):Ut ds op num m j=m:=Zb h
theorem JN {xs:List Z2} {k:Nat} {e:Z2} (h:xs[k]? = some e):Xo (xs.take (k+1))=Xo (xs.take k)+e.sz:=by rw [WO h,C2,Xo,Xo];rfl
theorem J5 {xs:List Z2} (k:Nat):Xo (xs.take k)<=Xo xs:=by
 have h:=Yv Xo (Uy k xs)
 rw [C2] at h;omega
theorem Io {xs:List Z2} {a b:Z2} (ha:xs[0]? = some a) (hb:xs[1]? = some b):a.sz+b.sz<=Xo xs:=by
 have h1:Xo (xs.take 1)=Xo (xs.take 0)+a.sz:=JN ha
 have h2:Xo (xs.take 2)=Xo (xs.take 1)+b.sz:=JN hb
 have h3:=J5 (xs:=xs) 2
 omega
theorem CO {us:List Int} {v:Int} {d:Nat} (hu:∀a∈us,0<=a/\a<(q:Int)) (hv:0<=v/\v<(q+d:Nat)):∀a∈us++[v],0<=a/\a<((q+d:Nat):Int):=
 Xq (fun a ha=>by have:=hu a ha;omega) hv
theorem Ev {us:List Int} {d:Nat} (hu:∀a∈us,0<=a/\a<(q:Int)):∀a∈us,0<=a/\a<((q+d:Nat):Int):=fun a ha=>by have:=hu a ha;omega
theorem Z70 {us ns:List Int} {d mf:Nat} (hu:∀a∈us,0<=a/\a<(q:Int)) (hn:∀i∈ns,((q+d:Nat):Int)<=i/\i<((q+d:Nat):Int)+mf):∀a∈us++ns,0<=a/\a<((q+d+mf:Nat):Int):=fun a ha=>by
 rcases Xr.1 ha with h|h
 ·have:=hu a h;omega
 ·have:=hn a h;omega
theorem D5:∀bs:List Z7,bs.length<=YY bs
 | []=>X7 _
 | b::r=>by have:=D5 r;have:=b.sz_pos;rw [YY,YS];omega
end
end Go.Abs
namespace Go.Abs
structure RF (ds:List Zf) (nf q:Nat) (p:Int->Prop) (r:Yf):Prop where
 sig:(r.params,r.result)∈Kh
 lent:r.lent.length<=3/\∀i∈r.lent,0<=i/\i<r.params.length
 body:fB ds nf r.params.length r.body/\r.body.sz<=q
 op:WW p r.body
structure FO (n:Zy) (q:Nat) (p:Int->Prop):Prop where
 fn:FN n q
 op:∀r∈n.routines,WW p r.body
theorem FO.rf {n:Zy} {q:Nat} {p:Int->Prop} (h:FO n q p) {r:Yf} (hr:r∈n.routines):RF n.decls n.routines.length q p r:=⟨h.fn.sigs r hr,h.fn.lent r hr,h.fn.body r hr,h.op r hr⟩
theorem FO.all {n:Zy} {q:Nat} {p:Int->Prop} (hd:GD n.decls) (hl:1<=n.routines.length/\n.routines.length<=4) (h:∀r∈n.routines,RF n.decls n.routines.length q p r):FO n q p:=
 ⟨⟨hd,hl,fun r hr=>(h r hr).sig,fun r hr=>(h r hr).lent,fun r hr=>(h r hr).body⟩,fun r hr=>(h r hr).op⟩
structure RN (ds:List Zf) (nf:Nat) (r:Yf):Prop where
 sig:(r.params,r.result)∈Kh
 lent:r.lent=[]
 body:fB ds nf r.params.length r.body/\r.body.sz<=181
 op:WW Wq r.body
theorem RN.all {n:Zy} {q:Nat} (hd:GD n.decls) (hl:1<=n.routines.length/\n.routines.length<=4) (h:∀r∈n.routines,RN n.decls n.routines.length r) (hq:181<=q):FO n q Wq:=
 FO.all hd hl fun r hr=>⟨(h r hr).sig,by rw [(h r hr).lent];exact ⟨by simp,fun i hi=>by cases hi⟩,⟨(h r hr).body.1,Vf (h r hr).body.2 hq⟩,(h r hr).op⟩
end Go.Abs
namespace Go.Abs
theorem RN.of {ds:List Zf} {nf:Nat} {ps:List Int} {rt:Int} {b:Z7} {e:Z2} (hs:(ps,rt)∈Kh) (h:LB ds nf ps.length e b) (he:e.sz<=30):RN ds nf ⟨ps,[],rt,Z7.mk b.steps b.result⟩:=by
 have e1:Z7.mk b.steps b.result=b:=by cases b;rfl
 rw [e1]
 exact ⟨hs,rfl,⟨h.fb,by have:=h.sz;show b.sz<=181;omega⟩,h.op⟩
end Go.Abs
end
namespace Go.Abs
theorem H2:∀{xs:List Z4} {s:Z4},s∈xs->s.sz<=Yu xs
 | [],s,h=>by cases h
 | x::r,s,h=>by
  rw [Yu]
  rcases YQ.1 h with rfl|h
  ·omega
  ·have:=H2 h;omega
theorem EZ:∀{xs:List Z7} {b:Z7},b∈xs->b.sz<=YY xs
 | [],b,h=>by cases h
 | x::r,b,h=>by
  rw [YY]
  rcases YQ.1 h with rfl|h
  ·omega
  ·have:=EZ h;omega
structure LC (n:Zy) (k:Nat) (xs:List (List Int)):Prop where
 len:xs.length=k
 ok:∀(i:Nat) (l:List Int),xs[i]? = some l->l.length<=3/\∀r,n.routines[i]? = some r->∀v∈l,0<=v/\v<(r.params.length:Int)
theorem LC.nil {n:Zy}:LC n 0 []:=⟨rfl,fun i l h=>by simp at h⟩
theorem LC.snoc {n:Zy} {k:Nat} {xs:List (List Int)} {l:List Int} (h:LC n k xs) (hl:l.length<=3) (hv:∀r,n.routines[k]? = some r->∀v∈l,0<=v/\v<(r.params.length:Int)):LC n (k+1) (xs++[l]):=by
 refine ⟨by rw [Yx,h.len];rfl,fun i l' hi=>?_⟩
 by_cases hk:i<xs.length
 ·rw [CQ hk] at hi
  exact h.ok i l' hi
 ·rw [ED om] at hi
  have h0:i-xs.length=0:=by
   cases e:i-xs.length with
   | zero=>rfl
   | succ q=>rw [e] at hi;simp at hi
  rw [h0] at hi
  cases hi
  have e:i=k:=by have:=h.len;omega
  subst e
  exact ⟨hl,hv⟩
def V3:List Int->Int->List Int
 | [],y=>[y]
 | x::r,y=>if x>y then y::x::r else if x=y then x::r else x::V3 r y
def Tn (d:Bool) (xs:List Int) (y:Int):List Int:=if d=true then xs else V3 xs y
theorem DM {xs:List Int} {y:Int}:Tn true xs y=xs:=rfl
theorem DL {xs:List Int} {y:Int}:Tn false xs y=V3 xs y:=rfl
theorem Ln {xs acc r:List Int} {y x:Int} {k:Nat} {d:Bool} (hx:xs[k]? = some x) (hd:d=true) (h:acc++Tn d (xs.drop k) y=r):(acc++[x])++Tn d (xs.drop (k+1)) y=r:=by
 subst hd
 rw [DM,Yb hx] at h
 rw [DM,<-h];simp
theorem Z0r {xs acc r:List Int} {y x:Int} {k:Nat} {d:Bool} (hx:xs[k]? = some x) (hd:¬d=true) (hl:¬x>=y) (h:acc++Tn d (xs.drop k) y=r):(acc++[x])++Tn d (xs.drop (k+1)) y=r:=by
 have hd:=Kd.2 hd
 subst hd
 rw [DL,Yb hx,V3,Zb om,Zb om] at h
 rw [DL,<-h];simp
theorem Z0s {xs acc r:List Int} {y x:Int} {k:Nat} {d:Bool} (hx:xs[k]? = some x) (hd:¬d=true) (hl:x>y) (h:acc++Tn d (xs.drop k) y=r):((acc++[y])++[x])++Tn true (xs.drop (k+1)) y=r:=by
 have hd:=Kd.2 hd
 subst hd
 rw [DL,Yb hx,V3,Zm hl] at h
 rw [DM,<-h];simp
theorem Z0t {xs acc r:List Int} {y x:Int} {k:Nat} {d:Bool} (hx:xs[k]? = some x) (hd:¬d=true) (hl:x=y) (h:acc++Tn d (xs.drop k) y=r):(acc++[x])++Tn true (xs.drop (k+1)) y=r:=by
 have hd:=Kd.2 hd
 subst hd
 rw [DL,Yb hx,V3,Zb om,Zm hl] at h
 rw [DM,<-h];simp
theorem Z0q {xs acc acc2 r:List Int} {y x:Int} {k:Nat} {d d2:Bool} (hx:xs[k]? = some x) (h:acc++Tn d (xs.drop k) y=r)
  (hc:(acc2=acc/\d2=d/\(d=true∨¬x>=y))∨(acc2=acc++[y]/\d2=true/\¬d=true/\x>y)∨(acc2=acc/\d2=true/\¬d=true/\x=y)):(acc2++[x])++Tn d2 (xs.drop (k+1)) y=r:=by
 rcases hc with ⟨rfl,rfl,h3⟩|⟨rfl,rfl,h3,h4⟩|⟨rfl,rfl,h3,h4⟩
 ·rcases h3 with h3|h3
  ·exact Ln hx h3 h
  ·by_cases q:d2=true
   ·exact Ln hx q h
   ·exact Z0r hx q h3 h
 ·exact Z0s hx h3 h4 h
 ·exact Z0t hx h3 h4 h
theorem Z0p {xs acc r:List Int} {y:Int} {k:Nat} {d:Bool} (hk:xs.length<=k) (h:acc++Tn d (xs.drop k) y=r):(if d=true then acc else acc++[y])=r:=by
 rw [Xx hk] at h
 by_cases q:d=true
 ·rw [Tn,Zm q,Ae] at h;rw [Zm q];exact h
 ·rw [Tn,Zb q,V3] at h;rw [Zb q];exact h
theorem Bs:∀(xs:List Int) (y:Int),(V3 xs y).length<=xs.length+1
 | [],y=>X7 _
 | x::r,y=>by
  have:=Bs r y
  rw [V3]
  split
  ·simp
  ·split
   ·simp
   ·simp only [YS];omega
theorem Ci:∀{xs:List Int} {y z:Int},z∈V3 xs y↔z∈xs∨z=y
 | [],y,z=>by simp [V3]
 | x::r,y,z=>by
  rw [V3]
  split
  ·simp only [YQ];exact ⟨fun h=>h.elim .inr .inl,fun h=>h.elim .inr .inl⟩
  ·split
   ·rename_i h;subst h;simp only [YQ];exact ⟨fun h=>.inl h,fun h=>h.elim id .inl⟩
   ·simp only [YQ,Ci (xs:=r)];exact ⟨fun h=>by rcases h with h|h|h<;>simp [h],fun h=>by rcases h with (h|h)|h<;>simp [h]⟩
def Al (xs:List Int):Prop:=xs.Pairwise (·<·)
theorem Lm:∀{xs:List Int} {y:Int},Al xs->Al (V3 xs y)
 | [],y,_=>by simp [V3,Al]
 | x::r,y,h=>by
  obtain ⟨h1,h2⟩:=WP.1 h
  rw [V3]
  split
  ·rename_i q
   refine WP.2 ⟨fun z hz=>?_,h⟩
   rcases YQ.1 hz with rfl|hz
   ·omega
   ·have:=h1 z hz;omega
  ·split
   ·exact h
   ·refine WP.2 ⟨fun z hz=>?_,Lm h2⟩
    rcases Ci.1 hz with hz|rfl
    ·exact h1 z hz
    ·omega
def UI:List Int->Int->List Int
 | [],_=>[]
 | x::r,y=>if x=y then UI r y else x::UI r y
theorem Cz:∀(xs:List Int) (y:Int),(UI xs y).length<=xs.length
 | [],y=>X7 _
 | x::r,y=>by
  have:=Cz r y
  rw [UI]
  split
  ·rw [YS];omega
  ·rw [YS,YS];omega
theorem BC:∀{xs:List Int} {y z:Int},z∈UI xs y->z∈xs
 | [],y,z,h=>by rw [UI] at h;exact h
 | x::r,y,z,h=>by
  rw [UI] at h
  split at h
  ·exact XH _ (BC h)
  ·rcases YQ.1 h with rfl|h
   ·exact Xj ..
   ·exact XH _ (BC h)
theorem Z2z {xs acc r:List Int} {y x:Int} {k:Nat} (hx:xs[k]? = some x) (h:acc++UI (xs.drop k) y=r):(if x≠y then acc++[x] else acc)++UI (xs.drop (k+1)) y=r:=by
 rw [Yb hx,UI] at h
 by_cases q:x=y
 ·rw [Zm q] at h;rw [Zb (fun z=>z q)];exact h
 ·rw [Zb q] at h;rw [Zm q,<-h];simp
theorem Z2y {xs acc r:List Int} {y:Int} {k:Nat} (hk:xs.length<=k) (h:acc++UI (xs.drop k) y=r):acc=r:=by
 rw [Xx hk,UI,Ae] at h;exact h
def Vy (n:Int) (xs:List Int) (a:Int):List Int:=if 0<=a/\a<n then V3 xs a else xs
def TF (n:Int):List Int->List Int->List Int
 | [],xs=>xs
 | a::r,xs=>TF n r (Vy n xs a)
mutual
def QQ (n:Int):Z4->List Int->List Int
 | .mk op _ _ args kids,xs=>if YF op=true then xs else QP n kids (TF n args xs)
def QP (n:Int):List Z7->List Int->List Int
 | [],xs=>xs
 | b::r,xs=>QP n r (XZ n b xs)
def VS (n:Int):List Z4->List Int->List Int
 | [],xs=>xs
 | s::r,xs=>VS n r (QQ n s xs)
def XZ (n:Int):Z7->List Int->List Int
 | .mk steps result,xs=>Vy n (VS n steps xs) result
end
section
variable {n:Int}
theorem NR (s:Z4) (xs:List Int):QQ n s xs=if YF s.op=true then xs else QP n s.kids (TF n s.args xs):=by cases s;rw [QQ];rfl
theorem NP (b:Z7) (xs:List Int):XZ n b xs=Vy n (VS n b.steps xs) b.result:=by cases b;rw [XZ];rfl
theorem Eu (xs:List Int) (a:Int):(Vy n xs a).length<=xs.length+1:=by
 rw [Vy];split
 ·exact Bs xs a
 ·omega
theorem NO:∀(as1 xs:List Int),(TF n as1 xs).length<=xs.length+as1.length
 | [],xs=>X7 _
 | a::r,xs=>by
  have h1:=NO r (Vy n xs a)
  have h2:=Eu (n:=n) xs a
  rw [TF,YS];omega
mutual
theorem NS:∀(s:Z4) (xs:List Int),(QQ n s xs).length<=xs.length+s.sz
 | .mk op num into args kids,xs=>by
  have h1:=NQ kids (TF n args xs)
  have h2:=NO (n:=n) args xs
  rw [QQ,Z4.sz];split<;>omega
theorem NQ:∀(bs:List Z7) (xs:List Int),(QP n bs xs).length<=xs.length+YY bs
 | [],xs=>X7 _
 | b::r,xs=>by
  have h1:=NQ r (XZ n b xs)
  have h2:=Et b xs
  rw [QP,YY];omega
theorem Hg:∀(bs:List Z4) (xs:List Int),(VS n bs xs).length<=xs.length+Yu bs
 | [],xs=>X7 _
 | b::r,xs=>by
  have h1:=Hg r (QQ n b xs)
  have h2:=NS b xs
  rw [VS,Yu];omega
theorem Et:∀(b:Z7) (xs:List Int),(XZ n b xs).length<=xs.length+b.sz
 | .mk steps result,xs=>by
  have h1:=Hg steps xs
  have h2:=Eu (n:=n) (VS n steps xs) result
  rw [XZ,Z7.sz];omega
end
theorem Z6v {as1 ys r:List Int} {k:Nat} {a:Int} (h:as1[k]? = some a) (ha:TF n (as1.drop k) ys=r):TF n (as1.drop (k+1)) (Vy n ys a)=r:=by
 rw [Yb h,TF] at ha;exact ha
theorem Z6x {bs:List Z7} {ys r:List Int} {k:Nat} {b:Z7} (h:bs[k]? = some b) (ha:QP n (bs.drop k) ys=r):QP n (bs.drop (k+1)) (XZ n b ys)=r:=by
 rw [Yb h,QP] at ha;exact ha
theorem Z6z {bs:List Z4} {ys r:List Int} {k:Nat} {b:Z4} (h:bs[k]? = some b) (ha:VS n (bs.drop k) ys=r):VS n (bs.drop (k+1)) (QQ n b ys)=r:=by
 rw [Yb h,VS] at ha;exact ha
theorem Z6u {as1 ys r:List Int} {k:Nat} (h:as1.length<=k) (ha:TF n (as1.drop k) ys=r):ys=r:=by rw [Xx h,TF] at ha;exact ha
theorem Z6w {bs:List Z7} {ys r:List Int} {k:Nat} (h:bs.length<=k) (ha:QP n (bs.drop k) ys=r):ys=r:=by rw [Xx h,QP] at ha;exact ha
theorem Z6y {bs:List Z4} {ys r:List Int} {k:Nat} (h:bs.length<=k) (ha:VS n (bs.drop k) ys=r):ys=r:=by rw [Xx h,VS] at ha;exact ha
end
theorem Hr {s:Z4} (h:Cn s):∃a,s.args=[a]:=⟨gI s.args 0,by have:=Yv Z4.args h;exact this⟩
section
variable {xs:List Int} {v:Int} {lo hi:Nat}
end
section
variable {m:Int} {xs du dr:List Z4} {lf:List Int} {d:Bool} {k:Nat} {s:Z4} {W:List Z4 × List Z4 × List Int}
end
def Yr:List Z4->Nat
 | []=>0
 | s::r=>if YF s.op=true then Yr r+1 else 0
def XB (op x:Int):List Z4->Int->Int
 | [],_=>-1
 | s::r,k=>if s.op=op/\gI s.args 0=x then k else XB op x r (k+1)
def Qb (many:Nat) (s:Z4):Prop:=(s.op=6/\s.into=0)/\s.args.length=many
instance (many:Nat) (s:Z4):Decidable (Qb many s):=by unfold Qb;infer_instance
def XO (many:Nat):List Z4->Int->Int
 | [],_=>-1
 | s::r,k=>if Qb many s then k else XO many r (k+1)
def JP (xs:List Z4) (i:Int):Z4:=xs[i.toNat]?.getD (Zi 0 0)
def Tz (v:Int) (s:Z4):Z4:=.mk s.op s.num v s.args s.kids
def V5 (xs:List Z4) (x:Int):Int:=XB 16 x (xs.take (Yr xs)) 0
def Wn (xs:List Z4) (many:Nat):Int:=XO many (xs.drop (Yr xs)) (Yr xs)
def VR (xs:List Z4) (x:Int) (many:Nat):List Z4:=
 if V5 xs x<0∨Wn xs many<0 then xs else (xs.set (V5 xs x).toNat (Zi 17 x)).set (Wn xs many).toNat (Tz (1+x) (JP xs (Wn xs many)))
def V6 (b:Z7) (x:Int) (many:Nat):Z7:=.mk (VR b.steps x many) b.result
mutual
def Q0 (ds:List Zf) (kept:List Int):Z4->Z4
 | .mk op num into args kids=>.mk op num into args (Uf ds kept op num args kids 0)
def Uf (ds:List Zf) (kept:List Int) (op num:Int) (args:List Int):List Z7->Nat->List Z7
 | [],_=>[]
 | b::r,k=>(if op=8/\¬gI args 0∈kept then V6 (Wp ds (if V5 b.steps (gI args 0)<0∨Wn b.steps (U9 ds num k).length<0 then kept else gI args 0::kept) b) (gI args 0) (U9 ds num k).length else Wp ds kept b)::Uf ds kept op num args r (k+1)
def Ug (ds:List Zf) (kept:List Int):List Z4->List Z4
 | []=>[]
 | s::r=>Q0 ds kept s::Ug ds kept r
def Wp (ds:List Zf) (kept:List Int):Z7->Z7
 | .mk steps result=>.mk (Ug ds kept steps) result
end
def DP (ds:List Zf) (kept:List Int) (num:Int) (args:List Int) (k:Nat) (b:Z7):List Int:=if V5 b.steps (gI args 0)<0∨Wn b.steps (U9 ds num k).length<0 then kept else gI args 0::kept
def UU (ds:List Zf) (kept:List Int) (op num:Int) (args:List Int) (k:Nat) (b:Z7):Z7:=if op=8/\¬gI args 0∈kept then V6 (Wp ds (DP ds kept num args k b) b) (gI args 0) (U9 ds num k).length else Wp ds kept b
theorem A3 (ds:List Zf) (kept:List Int) (s:Z4):Q0 ds kept s=.mk s.op s.num s.into s.args (Uf ds kept s.op s.num s.args s.kids 0):=by cases s;rw [Q0];rfl
theorem E7 (ds:List Zf) (kept:List Int) (b:Z7):Wp ds kept b=.mk (Ug ds kept b.steps) b.result:=by cases b;rw [Wp];rfl
theorem E9 (ds:List Zf) (kept:List Int):∀xs:List Z4,Ug ds kept xs=xs.map (Q0 ds kept)
 | []=>rfl
 | s::r=>by rw [Ug,E9 ds kept r];rfl
section
variable {ds:List Zf} {kept:List Int}
theorem Z3u {xs acc r:List Z4} {k:Nat} {s:Z4} (h:xs[k]? = some s) (ha:acc++Ug ds kept (xs.drop k)=r) :
  (acc++[.mk s.op s.num s.into s.args (Uf ds kept s.op s.num s.args s.kids 0)])++Ug ds kept (xs.drop (k+1))=r:=by
 rw [Yb h,Ug,A3] at ha
 rw [<-ha];simp
theorem Z3t {xs acc r:List Z4} {k:Nat} (h:xs.length<=k) (ha:acc++Ug ds kept (xs.drop k)=r):acc=r:=by
 rw [Xx h,Ug,Ae] at ha;exact ha
theorem Z3o {op num:Int} {args:List Int} {bs acc r:List Z7} {k:Nat} {b:Z7} (h:bs[k]? = some b) (ha:acc++Uf ds kept op num args (bs.drop k) k=r) :
  (acc++[UU ds kept op num args k b])++Uf ds kept op num args (bs.drop (k+1)) (k+1)=r:=by
 rw [Yb h,Uf] at ha
 rw [<-ha,UU,DP];simp
theorem Z3n {op num:Int} {args:List Int} {bs acc r:List Z7} {k j:Nat} (h:bs.length<=k) (ha:acc++Uf ds kept op num args (bs.drop k) j=r):acc=r:=by
 rw [Xx h,Uf,Ae] at ha;exact ha
end
section
variable {ds:List Zf}
mutual
theorem Z3r:∀(s:Z4) {K K':List Int},(∀z,z∈K↔z∈K')->Q0 ds K s=Q0 ds K' s
 | .mk op num into args kids,K,K',h=>by rw [Q0,Q0,MJ kids h]
theorem MJ:∀(bs:List Z7) {K K':List Int} {op num:Int} {args:List Int} {k:Nat},(∀z,z∈K↔z∈K')->Uf ds K op num args bs k=Uf ds K' op num args bs k
 | [],_,_,_,_,_,_,_=>by rw [Uf,Uf]
 | b::r,K,K',op,num,args,k,h=>by
  have h1:=MJ r (op:=op) (num:=num) (args:=args) (k:=k+1) h
  have h2:=GI b h
  have h3:∀z,z∈(gI args 0::K)↔z∈(gI args 0::K'):=fun z=>by rw [YQ,YQ,h z]
  have h4:=GI b h3
  rw [Uf,Uf,h1,h2]
  congr 1
  by_cases hq:op=8/\¬gI args 0∈K
  ·have hq':op=8/\¬gI args 0∈K':=⟨hq.1,fun z=>hq.2 ((h _).2 z)⟩
   rw [Zm hq,Zm hq']
   congr 1
   split
   ·exact h2
   ·exact h4
  ·have hq':¬(op=8/\¬gI args 0∈K'):=fun z=>hq ⟨z.1,fun y=>z.2 ((h _).1 y)⟩
   rw [Zb hq,Zb hq']
theorem ML:∀(xs:List Z4) {K K':List Int},(∀z,z∈K↔z∈K')->Ug ds K xs=Ug ds K' xs
 | [],_,_,_=>by rw [Ug,Ug]
 | s::r,K,K',h=>by rw [Ug,Ug,Z3r s h,ML r h]
theorem GI:∀(b:Z7) {K K':List Int},(∀z,z∈K↔z∈K')->Wp ds K b=Wp ds K' b
 | .mk steps result,K,K',h=>by rw [Wp,Wp,ML steps h]
end
end
theorem Cp:∀xs:List Z4,Yr xs<=xs.length
 | []=>X7 _
 | s::r=>by have:=Cp r;rw [Yr];split<;>simp<;>omega
section
variable {f:Z4->Z4} (hop:∀s,(f s).op=s.op) (hin:∀s,(f s).into=s.into) (har:∀s,(f s).args=s.args)
include hop
theorem Gi:∀xs:List Z4,Yr (xs.map f)=Yr xs
 | []=>rfl
 | s::r=>by rw [Uh,Yr,Yr,hop,Gi r]
include har
theorem HF {op x:Int}:∀(xs:List Z4) (k:Int),XB op x (xs.map f) k=XB op x xs k
 | [],_=>rfl
 | s::r,k=>by rw [Uh,XB,XB,hop,har,HF r]
theorem Z2s (xs:List Z4) (x:Int):V5 (xs.map f) x=V5 xs x:=by rw [V5,Gi hop,<-List.map_take,HF hop har,V5]
include hin
theorem I1 {many:Nat}:∀(xs:List Z4) (k:Int),XO many (xs.map f) k=XO many xs k
 | [],_=>rfl
 | s::r,k=>by
  have e:Qb many (f s)↔Qb many s:=by rw [Qb,Qb,hop,hin,har]
  rw [Uh,XO,XO,I1 r]
  by_cases h:Qb many s
  ·rw [Zm h,Zm (e.2 h)]
  ·rw [Zb h,Zb (fun z=>h (e.1 z))]
theorem P4 (xs:List Z4) (many:Nat):Wn (xs.map f) many=Wn xs many:=by rw [Wn,Gi hop,<-List.map_drop,I1 hop hin har,Wn]
end
theorem HE {op x:Int}:∀{xs:List Z4} {k:Int},¬XB op x xs k<0->0<=k->k<=XB op x xs k/\XB op x xs k<k+xs.length/\∃s,xs[(XB op x xs k-k).toNat]? = some s/\s.op=op/\gI s.args 0=x
 | [],k,h,_=>by simp [XB] at h
 | s::r,k,h,hk=>by
  rw [XB] at h ⊢
  split
  ·rename_i q
   refine ⟨Int.le_refl _,by rw [YS];omega,s,?_,q⟩
   rw [Int.sub_self];rfl
  ·rename_i q
   rw [Zb q] at h
   obtain ⟨h1,h2,t,h3,h4⟩:=HE (xs:=r) (k:=k+1) h om
   refine ⟨by omega,by rw [YS];omega,t,?_,h4⟩
   rw [show (XB op x r (k+1)-k).toNat=(XB op x r (k+1)-(k+1)).toNat+1 by omega,List.getElem?_cons_succ]
   exact h3
theorem I0 {many:Nat}:∀{xs:List Z4} {k:Int},¬XO many xs k<0->0<=k->k<=XO many xs k/\XO many xs k<k+xs.length/\∃s,xs[(XO many xs k-k).toNat]? = some s/\Qb many s
 | [],k,h,_=>by simp [XO] at h
 | s::r,k,h,hk=>by
  rw [XO] at h ⊢
  split
  ·rename_i q
   refine ⟨Int.le_refl _,by rw [YS];omega,s,?_,q⟩
   rw [Int.sub_self];rfl
  ·rename_i q
   rw [Zb q] at h
   obtain ⟨h1,h2,t,h3,h4⟩:=I0 (xs:=r) (k:=k+1) h om
   refine ⟨by omega,by rw [YS];omega,t,?_,h4⟩
   rw [show (XO many r (k+1)-k).toNat=(XO many r (k+1)-(k+1)).toNat+1 by omega,List.getElem?_cons_succ]
   exact h3
theorem Cy {xs:List Z4} {x:Int} (h:¬V5 xs x<0):0<=V5 xs x/\V5 xs x<Yr xs/\∃s,xs[(V5 xs x).toNat]? = some s/\s.op=16/\gI s.args 0=x:=by
 obtain ⟨h1,h2,s,h3,h4⟩:=HE h (Int.le_refl 0)
 have hl:=Cp xs
 rw [Wv,Vp hl] at h2
 have h2':V5 xs x<Yr xs:=by unfold V5;omega
 have h1':0<=V5 xs x:=h1
 refine ⟨h1',h2',s,?_,h4⟩
 rw [Int.sub_zero] at h3
 have h5:(V5 xs x).toNat<Yr xs:=by omega
 rwa [show XB 16 x (xs.take (Yr xs)) 0=V5 xs x from rfl,List.getElem?_take_of_lt h5] at h3
theorem JI {xs:List Z4} {many:Nat} (h:¬Wn xs many<0):(Yr xs:Int)<=Wn xs many/\Wn xs many<xs.length/\∃s,xs[(Wn xs many).toNat]? = some s/\Qb many s/\JP xs (Wn xs many)=s:=by
 obtain ⟨h1,h2,s,h3,h4⟩:=I0 h om
 have hl:=Cp xs
 rw [Ag] at h2
 have h1':(Yr xs:Int)<=Wn xs many:=h1
 have h2':Wn xs many<xs.length:=by unfold Wn;omega
 rw [Ho,show XO many (xs.drop (Yr xs)) (Yr xs)=Wn xs many from rfl,show Yr xs+(Wn xs many-(Yr xs:Int)).toNat=(Wn xs many).toNat by omega] at h3
 exact ⟨h1',h2',s,h3,h4,by rw [JP,h3];rfl⟩
theorem Z38 {f:Z4->Z4} (hop:∀s,(f s).op=s.op) (hin:∀s,(f s).into=s.into) (har:∀s,(f s).args=s.args) (hc:∀x,f (Zi 17 x)=Zi 17 x) (hi:∀v s,f (Tz v s)=Tz v (f s)) (xs:List Z4) (x:Int) (many:Nat) :
  VR (xs.map f) x many=(VR xs x many).map f:=by
 rw [VR,Z2s hop har,P4 hop hin har,VR]
 split
 ·rfl
 ·rename_i hq
  obtain ⟨_,_,s,h3,_,h5⟩:=JI (fun z=>hq (.inr z))
  have e:JP (xs.map f) (Wn xs many)=f (JP xs (Wn xs many)):=by rw [JP,QU,h3,h5];rfl
  rw [e,List.map_set,List.map_set,hc,hi]
theorem MH {ds:List Zf} {K:List Int} {b:Z7} {x:Int} {many:Nat}:Wp ds K (V6 b x many)=V6 (Wp ds K b) x many:=by
 rw [V6,Wp,V6,E7,E9,E9]
 show Z7.mk _ _=Z7.mk (VR (b.steps.map (Q0 ds K)) x many) b.result
 rw [Z38 (f:=Q0 ds K) (fun s=>by rw [A3];rfl) (fun s=>by rw [A3];rfl) (fun s=>by rw [A3];rfl) (fun x=>by rw [A3];rfl) (fun v s=>by rw [A3,A3];rfl)]
structure CB (c:List Int) (q:Int):Prop where
 len:c.length=4
 bd:∀x∈c,0<=x/\x<=q
mutual
def AN:Z4->Prop
 | .mk op _ _ _ kids=>op≠17/\JW kids
def JW:List Z7->Prop
 | []=>True
 | b::r=>TW b/\JW r
def JX:List Z4->Prop
 | []=>True
 | s::r=>AN s/\JX r
def TW:Z7->Prop
 | .mk steps _=>JX steps
end
theorem Bz (s:Z4):AN s↔s.op≠17/\JW s.kids:=by cases s;rw [AN];rfl
theorem Cu (b:Z7):TW b↔JX b.steps:=by cases b;rw [TW];rfl
theorem Cv:∀{xs:List Z4},JX xs↔∀s∈xs,AN s
 | []=>by simp [JX]
 | s::r=>by rw [JX,Cv];simp
theorem E0:∀{xs:List Z7},JW xs↔∀s∈xs,TW s
 | []=>by simp [JW]
 | s::r=>by rw [JW,E0];simp
theorem Er:∀{xs:List Z4} {i:Nat} {s:Z4} (t:Z4),xs[i]? = some s->Yu (xs.set i t)+s.sz=Yu xs+t.sz
 | [],_,_,_,h=>by simp at h
 | x::r,0,s,t,h=>by simp at h;subst h;rw [List.set_cons_zero,Yu,Yu];omega
 | x::r,i+1,s,t,h=>by
  have:=Er (xs:=r) (i:=i) t (by simpa using h)
  rw [List.set_cons_succ,Yu,Yu];omega
theorem Z0u (v:Int) (s:Z4):(Tz v s).sz=s.sz:=by cases s;rw [Tz,Z4.sz,Z4.sz];rfl
theorem I2 {xs:List Z4} {x:Int} {many:Nat} (h:¬(V5 xs x<0∨Wn xs many<0)):(V5 xs x).toNat<(Wn xs many).toNat:=by
 obtain ⟨h1,h2,_⟩:=Cy (fun z=>h (.inl z))
 obtain ⟨h3,h4,_⟩:=JI (fun z=>h (.inr z))
 omega
theorem E6 {xs:List Z4} {x:Int} {many:Nat} (h:¬(V5 xs x<0∨Wn xs many<0)) {t:Z4} {s:Z4} (hs:xs[(Wn xs many).toNat]? = some s):(xs.set (V5 xs x).toNat t)[(Wn xs many).toNat]? = some s:=by
 have:=I2 h
 rw [List.getElem?_set_ne om];exact hs
theorem MA {xs:List Z4} {x:Int} {many:Nat} (h:∀s∈xs,YF s.op=true->2<=s.sz):Yu (VR xs x many)<=Yu xs:=by
 rw [VR]
 split
 ·exact X7 _
 ·rename_i hq
  obtain ⟨_,_,s,h3,h4,_⟩:=Cy (fun z=>hq (.inl z))
  obtain ⟨_,_,t,h5,_,h6⟩:=JI (fun z=>hq (.inr z))
  have e1:=Er (Zi 17 x) h3
  have e2:=Er (Tz (1+x) (JP xs (Wn xs many))) (E6 hq (t:=Zi 17 x) h5)
  have h7:=h s (Y7 h3) (by rw [h4];rfl)
  rw [Dc] at e1
  rw [Z0u,h6] at e2
  rw [h6]
  omega
section
variable {ds:List Zf}
theorem Z7j {v:Int} {s:Z4} (h:wS ds s) (h6:s.op=6):wS ds (Tz v s):=by
 obtain ⟨h1,h2,h3,h4⟩:=(Kc s).1 h
 exact (Kc _).2 ⟨h1,fun hc=>absurd hc (by show ¬YF s.op=true;rw [h6];decide),h3,h4⟩
theorem Z7g {v:Int}:wS ds (Zi 17 v):=(Kc _).2 ⟨rfl,fun _=>⟨rfl,rfl,rfl,v,rfl⟩,fun e=>absurd e (show (17:Int)≠8 by decide),True.intro⟩
theorem Z7f {xs:List Z4} {x:Int} {many:Nat} (h:Q3 ds xs):Q3 ds (VR xs x many):=by
 rw [VR]
 split
 ·exact h
 ·rename_i hq
  obtain ⟨_,_,t,h5,h7,h6⟩:=JI (fun z=>hq (.inr z))
  rw [Jq]
  intro s hs
  rcases List.mem_or_eq_of_mem_set hs with hs|rfl
  ·rcases List.mem_or_eq_of_mem_set hs with hs|rfl
   ·exact Jq.1 h s hs
   ·exact Z7g
  ·rw [h6];exact Z7j (Jq.1 h t (Y7 h5)) h7.1.1
theorem Z7e {b:Z7} {x:Int} {many:Nat} (h:wB ds b):wB ds (V6 b x many):=by rw [V6,QS];exact Z7f ((QS b).1 h)
variable (hd:Wm ds)
mutual
theorem Z3s:∀(s:Z4) {K:List Int},wS ds s->(Q0 ds K s).sz<=s.sz
 | .mk op num into args kids,K,h=>by
  have:=MK kids (K:=K) (op:=op) (num:=num) (args:=args) (k:=0) h.2.2.2
  rw [Q0,Z4.sz,Z4.sz];omega
theorem MK:∀(bs:List Z7) {K:List Int} {op num:Int} {args:List Int} {k:Nat},Jp ds bs->YY (Uf ds K op num args bs k)<=YY bs
 | [],_,_,_,_,_,_=>X7 _
 | b::r,K,op,num,args,k,h=>by
  have h2:=MK r (K:=K) (op:=op) (num:=num) (args:=args) (k:=k+1) h.2
  have key:∀K2:List Int,(V6 (Wp ds K2 b) (gI args 0) (U9 ds num k).length).sz<=b.sz:=fun K2=>by
   have h1:=GJ b (K:=K2) h.1
   have h3:=MA (xs:=(Wp ds K2 b).steps) (x:=gI args 0) (many:=(U9 ds num k).length) (by
    rw [E7,E9]
    intro s hs hc
    obtain ⟨t,ht,rfl⟩:=W3.1 hs
    rw [A3] at hc ⊢
    obtain ⟨_,_,a,ha⟩:=Ey (Jq.1 ((QS b).1 h.1) t ht) hc
    rw [Z4.sz,ha];simp)
   rw [V6,Z7.sz]
   rw [Z7.sz_eq] at h1
   omega
  rw [Uf,YY,YY]
  split
  ·have:=key (if V5 b.steps (gI args 0)<0∨Wn b.steps (U9 ds num k).length<0 then K else gI args 0::K)
   omega
  ·have:=GJ b (K:=K) h.1
   omega
theorem MM:∀(xs:List Z4) {K:List Int},Q3 ds xs->Yu (Ug ds K xs)<=Yu xs
 | [],_,_=>X7 _
 | s::r,K,h=>by
  have h1:=Z3s s (K:=K) h.1
  have h2:=MM r (K:=K) h.2
  rw [Ug,Yu,Yu];omega
theorem GJ:∀(b:Z7) {K:List Int},wB ds b->(Wp ds K b).sz<=b.sz
 | .mk steps result,K,h=>by
  have:=MM steps (K:=K) h
  rw [Wp,Z7.sz,Z7.sz];omega
end
end
theorem Gj:∀{xs:List Z4} {i:Nat} {s t:Z4},xs[i]? = some s->YF t.op=YF s.op->Yr (xs.set i t)=Yr xs
 | [],_,_,_,h,_=>by simp at h
 | x::r,0,s,t,h,e=>by simp at h;subst h;rw [List.set_cons_zero,Yr,Yr,e]
 | x::r,i+1,s,t,h,e=>by
  rw [List.set_cons_succ,Yr,Yr,Gj (xs:=r) (i:=i) (by simpa using h) e]
theorem Z1l {xs:List Z4} {x:Int} {many:Nat}:Yr (VR xs x many)=Yr xs:=by
 rw [VR]
 split
 ·rfl
 ·rename_i hq
  obtain ⟨_,_,s,h3,h4,_⟩:=Cy (fun z=>hq (.inl z))
  obtain ⟨_,_,t,h5,_,h6⟩:=JI (fun z=>hq (.inr z))
  rw [Gj (E6 hq (t:=Zi 17 x) h5) (by rw [h6];rfl),Gj h3 (by rw [h4];rfl)]
theorem HH {op x:Int}:∀{xs:List Z4} {k:Int},(∀s∈xs,s.op≠op)->XB op x xs k=-1
 | [],_,_=>rfl
 | s::r,k,h=>by
  rw [XB,Zb (fun z=>h s (Xj ..) z.1)]
  exact HH fun t ht=>h t (XH _ ht)
theorem HI {op x:Int}:∀{xs:List Z4} {k:Int},0<=k->(∃s∈xs,s.op=op/\gI s.args 0=x)->0<=XB op x xs k
 | [],_,_,h=>by obtain ⟨s,hs,_⟩:=h;cases hs
 | s::r,k,hk,h=>by
  rw [XB]
  split
  ·exact hk
  ·rename_i q
   obtain ⟨t,ht,h1⟩:=h
   rcases YQ.1 ht with rfl|ht
   ·exact absurd h1 q
   ·exact HI om ⟨t,ht,h1⟩
theorem NJ {xs:List Z4} {x:Int} {many:Nat} (hn:JX xs):0<=XB 17 x ((VR xs x many).take (Yr (VR xs x many))) 0↔¬(V5 xs x<0∨Wn xs many<0):=by
 rw [Z1l]
 constructor
 ·intro h hq
  rw [VR,Zm hq,HH (fun s hs=>((Bz s).1 (Cv.1 hn s (TJ hs))).1)] at h
  omega
 ·intro hq
  obtain ⟨h1,h2,s,h3,h4,_⟩:=Cy (fun z=>hq (.inl z))
  have hap:=I2 hq
  refine HI (Int.le_refl 0) ⟨Zi 17 x,?_,rfl,rfl⟩
  rw [VR,Zb hq]
  refine Y7 (i:=(V5 xs x).toNat) ?_
  rw [List.getElem?_take_of_lt om,List.getElem?_set_ne om,List.getElem?_set_self (XM.1 h3).1]
def JY (b:Z7):Prop:=∀s∈b.steps,JW s.kids
theorem AM {b:Z7} (h:TW b):JY b:=fun s hs=>((Bz s).1 (Cv.1 ((Cu b).1 h) s hs)).2
theorem Z2b {b:Z7} {k j:Nat} {s:Z4} {c:Z7} (h:JY b) (hs:b.steps[k]? = some s) (hc:s.kids[j]? = some c):TW c:=E0.1 (h s (Y7 hs)) c (Y7 hc)
theorem M3 {b:Z7} {x:Int} {many:Nat} (h:TW b):JY (V6 b x many):=by
 intro s hs
 have hs:s∈VR b.steps x many:=hs
 rw [VR] at hs
 split at hs
 ·exact AM h s hs
 ·rename_i hq
  obtain ⟨_,_,t,h5,_,h6⟩:=JI (fun z=>hq (.inr z))
  rcases List.mem_or_eq_of_mem_set hs with hs|rfl
  ·rcases List.mem_or_eq_of_mem_set hs with hs|rfl
   ·exact AM h s hs
   ·exact True.intro
  ·rw [h6];exact AM h t (Y7 h5)
theorem Z37 {ds:List Zf} {b:Z7} {x:Int} {many:Nat} (h:wB ds b):(V6 b x many).sz<=b.sz:=by
 have:=MA (xs:=b.steps) (x:=x) (many:=many) fun s hs hc=>by
  have h7:=EI ((QS b).1 h) s hs hc
  rw [h7,Dc];omega
 rw [V6,Z7.sz,b.sz_eq];omega
def KC (ds:List Zf) (r:Yf):Yf:=⟨r.params,r.lent,r.result,Wp ds [] r.body⟩
def E8 (n:Zy):Zy:=⟨n.decls,n.routines.map (KC n.decls)⟩
end Go.Abs
section
namespace Go.Abs
theorem Z1j {xs:List Z4} {k:Nat} {s:Z4} {r:Nat} (h:xs[k]? = some s) (hs:YF s.op=true) (ha:k+Yr (xs.drop k)=r):k+1+Yr (xs.drop (k+1))=r:=by
 rw [Yb h,Yr,Zm hs] at ha;omega
theorem Z1k {xs:List Z4} {k:Nat} {s:Z4} {r:Nat} (h:xs[k]? = some s) (hs:¬YF s.op=true) (ha:k+Yr (xs.drop k)=r):k=r:=by
 rw [Yb h,Yr,Zb hs] at ha;omega
theorem Z1i {xs:List Z4} {k:Nat} {r:Nat} (h:xs.length<=k) (ha:k+Yr (xs.drop k)=r):k=r:=by
 rw [Xx h,Yr] at ha;omega
theorem OJ {op x:Int} {xs:List Z4} {k:Nat} {s:Z4} {r:Int} (h:xs[k]? = some s) (hs:s.op=op/\gI s.args 0=x) (ha:XB op x (xs.drop k) k=r):(k:Int)=r:=by
 rw [Yb h,XB,Zm hs] at ha;exact ha
theorem HG {op x:Int} {xs:List Z4} {k:Nat} {s:Z4} {r:Int} (h:xs[k]? = some s) (hs:¬(s.op=op/\gI s.args 0=x)) (ha:XB op x (xs.drop k) k=r):XB op x (xs.drop (k+1)) ((k+1:Nat):Int)=r:=by
 rw [Yb h,XB,Zb hs] at ha;rw [<-ha];congr 1
theorem OI {op x:Int} {xs:List Z4} {k:Nat} {r:Int} (h:xs.length<=k) (ha:XB op x (xs.drop k) k=r):-1=r:=by
 rw [Xx h,XB] at ha;exact ha
theorem P7 {many:Nat} {xs:List Z4} {k:Nat} {s:Z4} {r:Int} (h:xs[k]? = some s) (hs:Qb many s) (ha:XO many (xs.drop k) k=r):(k:Int)=r:=by
 rw [Yb h,XO,Zm hs] at ha;exact ha
theorem P6 {many:Nat} {xs:List Z4} {k:Nat} {s:Z4} {r:Int} (h:xs[k]? = some s) (hs:¬Qb many s) (ha:XO many (xs.drop k) k=r):XO many (xs.drop (k+1)) ((k+1:Nat):Int)=r:=by
 rw [Yb h,XO,Zb hs] at ha;rw [<-ha];congr 1
theorem P5 {many:Nat} {xs:List Z4} {k:Nat} {r:Int} (h:xs.length<=k) (ha:XO many (xs.drop k) k=r):-1=r:=by
 rw [Xx h,XO] at ha;exact ha
theorem Z39 {xs:List Z4} {x:Int} {many:Nat} (h:V5 xs x<0∨Wn xs many<0):VR xs x many=xs:=Zm h
theorem Z3a {xs:List Z4} {x:Int} {many:Nat} {s:Z4} (h:¬(V5 xs x<0∨Wn xs many<0)) (hs:JP xs (Wn xs many)=s):(xs.set (V5 xs x).toNat (Zi 17 x)).set (Wn xs many).toNat (Tz (1+x) s)=VR xs x many:=by
 rw [VR,Zb h,hs]
theorem TR (xs:List Z4):(Zl (Zt xs)).length=xs.length*5:=by rw [UP _ (X8 _)];simp
theorem Dt (s:Z4) (r:List Z4):Zl (Zt (s::r))=Yg s++Zl (Zt r):=by rw [Vb,Vb];rfl
theorem Iz {xs:List Z4} {k:Nat} {x:Z4} (h:xs[k]? = some x):Zl (Zt (xs.take k))++Zl [Y4 x]=Zl (Zt (xs.take (k+1))):=by
 rw [WO h,Wx,Tx,Dt]
 have:Zl (Zt [])=[]:=by rw [Vb];rfl
 rw [this];rfl
theorem IA {xs:List Z4} {i:Nat} {s:Z4} (h:xs[i]? = some s):Zl (Zt xs)=Zl (Zt (xs.take i))++(Yg s++Zl (Zt (xs.drop (i+1)))):=by
 have hi:=(XM.1 h).1
 have e:xs=xs.take i++(s::xs.drop (i+1)):=by rw [<-Yb h,Uy]
 conv=>lhs;rw [e,Wx,Tx,Dt]
theorem Du {xs:List Z4} {i:Nat} {s t:Z4} (h:xs[i]? = some s):(Zl (Zt xs)).take (i*5)++Yg t++(Zl (Zt xs)).drop (i*5+(Yg t).length)=Zl (Zt (xs.set i t)):=by
 have hi:=(XM.1 h).1
 have hl:(Zl (Zt (xs.take i))).length=i*5:=by rw [TR,Wv,Vp om]
 rw [IA h,GH (xs:=Yg s) (ys:=Yg t) hl rfl]
 have e:xs.set i t=xs.take i++(t::xs.drop (i+1)):=by rw [CR,Zm hi]
 rw [e,Wx,Tx,Dt]
theorem FF {xs:List Z4} {i:Nat} {s:Z4} (h:xs[i]? = some s):((Zl (Zt xs)).drop (i*5)).take (Yg s).length=Yg s:=by
 have hi:=(XM.1 h).1
 have hl:(Zl (Zt (xs.take i))).length=i*5:=by rw [TR,Wv,Vp om]
 rw [IA h]
 exact Z3j hl
structure Qq (xs:List Int) (v:Int) (k:Nat) (acc:List Int) (d:Bool):Prop where
 len:acc.length<=k+(if d=true then 1 else 0)
 sub:∀z∈acc,z∈xs.take k∨z=v
 all:∀z∈xs.take k,z∈acc
 done:d=true->v∈acc
theorem Qq.zero (xs:List Int) (v:Int):Qq xs v 0 [] false:=⟨by simp,by simp,by simp,by simp⟩
theorem Qq.step {xs:List Int} {v:Int} {k:Nat} {acc:List Int} {d:Bool} {x:Int} (h:Qq xs v k acc d) (hx:xs[k]? = some x) {acc2:List Int} {d2:Bool}
  (hc:(acc2=acc++[x]/\d2=d)∨(acc2=(acc++[v])++[x]/\d2=true/\¬d=true)∨(acc2=acc++[x]/\d2=true/\x=v)):Qq xs v (k+1) acc2 d2:=by
 obtain ⟨h1,h2,h3,h4⟩:=h
 have ht:∀z,z∈xs.take (k+1)↔z∈xs.take k∨z=x:=fun z=>by rw [WO hx];simp
 rcases hc with ⟨rfl,rfl⟩|⟨rfl,rfl,hd⟩|⟨rfl,rfl,rfl⟩
 ·refine ⟨by simp;omega,fun z hz=>?_,fun z hz=>?_,fun q=>List.mem_append_left _ (h4 q)⟩
  ·rw [ht]
   rcases Xr.1 hz with hz|hz
   ·rcases h2 z hz with q|q
    ·exact .inl (.inl q)
    ·exact .inr q
   ·exact .inl (.inr (W4.1 hz))
  ·rcases (ht z).1 hz with q|q
   ·exact List.mem_append_left _ (h3 z q)
   ·subst q;simp
 ·rw [Zb hd] at h1
  refine ⟨by simp;omega,fun z hz=>?_,fun z hz=>?_,fun _=>by simp⟩
  ·rw [ht]
   simp only [Xr,W4] at hz
   rcases hz with (hz|hz)|hz
   ·rcases h2 z hz with q|q
    ·exact .inl (.inl q)
    ·exact .inr q
   ·exact .inr hz
   ·exact .inl (.inr hz)
  ·rcases (ht z).1 hz with q|q
   ·exact List.mem_append_left _ (List.mem_append_left _ (h3 z q))
   ·subst q;simp
 ·refine ⟨by simp;split at h1<;>omega,fun z hz=>?_,fun z hz=>?_,fun _=>by simp⟩
  ·rw [ht]
   rcases Xr.1 hz with hz|hz
   ·rcases h2 z hz with q|q
    ·exact .inl (.inl q)
    ·exact .inr q
   ·exact .inl (.inr (W4.1 hz))
  ·rcases (ht z).1 hz with q|q
   ·exact List.mem_append_left _ (h3 z q)
   ·subst q;simp
theorem Qq.fin {xs:List Int} {v:Int} {k:Nat} {acc:List Int} {d:Bool} (h:Qq xs v k acc d) (hk:k=xs.length) :
  (d=true->acc.length<=xs.length+1/\∀z,z∈acc↔z∈xs∨z=v)/\(¬d=true->(acc++[v]).length<=xs.length+1/\∀z,z∈acc++[v]↔z∈xs∨z=v):=by
 obtain ⟨h1,h2,h3,h4⟩:=h
 subst hk
 rw [Vl] at h2 h3
 refine ⟨fun hd=>?_,fun hd=>?_⟩
 ·rw [Zm hd] at h1
  exact ⟨h1,fun z=>⟨h2 z,fun q=>q.elim (h3 z) fun e=>e▸h4 hd⟩⟩
 ·rw [Zb hd] at h1
  refine ⟨by simp;omega,fun z=>?_⟩
  rw [Xr,W4]
  exact ⟨fun q=>q.elim (h2 z) .inr,fun q=>q.elim (fun e=>.inl (h3 z e)) .inr⟩
end Go.Abs
namespace Go.Abs
theorem Qq.go {xs:List Int} {v:Int} {k:Nat} {acc:List Int} {d:Bool} {x:Int} (h:Qq xs v k acc d) (hx:xs[k]? = some x) {acc2:List Int} {d2:Bool}
  (hc:(acc2=acc/\d2=d)∨(acc2=acc++[v]/\d2=true/\¬d=true)∨(acc2=acc/\d2=true/\x=v)):Qq xs v (k+1) (acc2++[x]) d2:=by
 refine h.step hx ?_
 rcases hc with ⟨e1,e2⟩|⟨e1,e2,e3⟩|⟨e1,e2,e3⟩
 ·exact .inl ⟨by rw [e1],e2⟩
 ·exact .inr (.inl ⟨by rw [e1],e2,e3⟩)
 ·exact .inr (.inr ⟨by rw [e1],e2,e3⟩)
section
variable {ds:List Zf} {kept K2:List Int} {op num x:Int} {args:List Int} {j many:Nat} {kd:Z7}
theorem Z3p (h8:op=8) (hx:gI args 0=x) (hk:¬x∈kept) (hm:(U9 ds num j).length=many) (hq:¬(V5 kd.steps x<0∨Wn kd.steps many<0)) (hK:∀z,z∈K2↔z∈kept∨z=x):Wp ds K2 (V6 kd x many)=UU ds kept op num args j kd:=by
 subst hx hm
 have e:∀z,z∈K2↔z∈gI args 0::kept:=fun z=>by rw [hK z,YQ];exact Or.comm
 rw [UU,Zm ⟨h8,hk⟩,DP,Zb hq,MH,GI kd e]
theorem Z3q (h8:op=8) (hx:gI args 0=x) (hk:¬x∈kept) (hm:(U9 ds num j).length=many) (hq:V5 kd.steps x<0∨Wn kd.steps many<0):Wp ds kept (V6 kd x many)=UU ds kept op num args j kd:=by
 subst hx hm
 rw [UU,Zm ⟨h8,hk⟩,DP,Zm hq,MH]
theorem MI (h:¬(op=8/\¬gI args 0∈kept)):Wp ds kept kd=UU ds kept op num args j kd:=by rw [UU,Zb h]
end
end Go.Abs
namespace Go.Abs
theorem D7:∀{xs:List Z7} {k:Nat} {b:Z7},xs[k]? = some b->YY (xs.take k)+b.sz<=YY xs
 | [],_,_,h=>by simp at h
 | x::r,0,b,h=>by simp at h;subst h;simp [YY]
 | x::r,k+1,b,h=>by
  have:=D7 (xs:=r) (k:=k) (by simpa using h)
  rw [B0,YY,YY];omega
theorem F3 {xs:List Z7} {k:Nat} (h:xs.length<=k):YY (xs.take k)=YY xs:=by rw [Ve h]
end Go.Abs
end
namespace Go.Abs
theorem Nt {xs:List Z4} {k:Nat} {s:Z4} (h:xs[k]? = some s):Yu (xs.drop k)=s.sz+Yu (xs.drop (k+1)):=by rw [Yb h,Yu]
theorem Nu (xs:List Z4) (k:Nat):Yu (xs.drop k)<=Yu xs:=by
 have h:=Yv Yu (Uy k xs)
 rw [UJ] at h;omega
theorem D6 {xs:List Z7} {k:Nat} {b:Z7} (h:xs[k]? = some b):YY (xs.take (k+1))=YY (xs.take k)+b.sz:=by rw [WO h,BV,YY,YY];rfl
structure CL (ds:List Zf) (nf m:Nat) (xs:List Z4) (d z:Nat):Prop where
 fs:UC ds nf m xs
 dn:YO xs=d
 op:Ta V9 xs
 sz:Yu xs<=z
section
variable {ds:List Zf} {nf m d z:Nat} {xs:List Z4}
theorem CL.nil:CL ds nf m [] 0 0:=⟨True.intro,rfl,True.intro,X7 _⟩
theorem CL.len (h:CL ds nf m xs d z):xs.length<=z:=Vf (K8 xs) h.sz
theorem CL.le (h:CL ds nf m xs d z) {z2:Nat} (hz:z<=z2):CL ds nf m xs d z2:=⟨h.fs,h.dn,h.op,Vf h.sz hz⟩
theorem Rd {op v:Int} (ho:op=14∨op=15) (hv:0<=v/\v<(m:Int)):fS ds nf m (Zi op v):=by
 rw [Zi,fS]
 exact ⟨.inr om,fun a ha=>by rw [W4.1 ha];exact hv,fun _=>⟨rfl,rfl,rfl,v,rfl⟩,fun h=>by omega,fun h=>by omega,fun h=>by omega,fun h=>by omega,by omega,by omega,by simp,fun _=>rfl,True.intro⟩
theorem I5 {op:Int} (ho:op=14∨op=15):YF op=true:=by simp [YF];omega
theorem CL.cnt (h:CL ds nf m xs d z) {op v:Int} (ho:op=14∨op=15) (hv:0<=v/\v<((m+d:Nat):Int)):CL ds nf m (xs++[Zi op v]) d (z+2):=by
 have hc:YF (Zi op v).op=true:=I5 ho
 refine ⟨Dp h.fs (by rw [h.dn];exact Rd ho hv),?_,E3 h.op ?_,?_⟩
 ·rw [QY,h.dn,YO,Zm hc];rfl
 ·rw [Cx];exact ⟨by show op<=15;omega,True.intro⟩
 ·have:=h.sz
  have e:(Zi op v).sz=2:=rfl
  rw [UJ,Yu,e,Yu];omega
theorem CL.cnts {op:Int} (ho:op=14∨op=15):∀{vs:List Int} {xs:List Z4} {z:Nat},CL ds nf m xs d z->(∀v∈vs,0<=v/\v<((m+d:Nat):Int))->CL ds nf m (xs++vs.map (Zi op)) d (z+2*vs.length)
 | [],xs,z,h,_=>by simpa using h
 | v::r,xs,z,h,hv=>by
  have h1:=CL.cnts ho (vs:=r) (h.cnt ho (hv v (Xj ..))) fun x hx=>hv x (XH _ hx)
  rw [Uh,show xs++Zi op v::r.map (Zi op)=xs++[Zi op v]++r.map (Zi op) by simp]
  exact h1.le (by rw [YS];omega)
theorem CL.one (h:CL ds nf m xs d z) {s:Z4} (hs:fS ds nf (m+d) s) (hc:YF s.op=false) (ho:TY V9 s):CL ds nf m (xs++[s]) (d+1) (z+s.sz):=by
 refine ⟨Dp h.fs (by rw [h.dn];exact hs),by rw [BZ hc,h.dn],E3 h.op ho,?_⟩
 have:=h.sz
 rw [UJ,Yu,Yu];omega
theorem CL.app (h:CL ds nf m xs d z) {ys:List Z4} {d2 z2:Nat} (h2:CL ds nf (m+d) ys d2 z2):CL ds nf m (xs++ys) (d+d2) (z+z2):=by
 refine ⟨Bk.2 ⟨h.fs,by rw [h.dn];exact h2.fs⟩,by rw [QY,h.dn,h2.dn],E2.2 ⟨h.op,h2.op⟩,?_⟩
 have:=h.sz
 have:=h2.sz
 rw [UJ];omega
end
structure KB (ds:List Zf) (nf m:Nat) (b:Z7) (z:Nat):Prop where
 fb:fB ds nf m b
 op:WW V9 b
 sz:b.sz<=z
section
variable {ds:List Zf} {nf m d z:Nat} {xs:List Z4}
theorem CL.block (h:CL ds nf m xs d z) {r:Int} (hr:0<=r/\r<((m+d:Nat):Int)):KB ds nf m ⟨xs,r⟩ (1+z):=by
 refine ⟨by rw [fB,h.dn];exact ⟨h.fs,hr⟩,by rw [WW];exact h.op,?_⟩
 have:=h.sz
 rw [Z7.sz];omega
theorem KB.le {b:Z7} (h:KB ds nf m b z) {z2:Nat} (hz:z<=z2):KB ds nf m b z2:=⟨h.fb,h.op,Vf h.sz hz⟩
theorem KB.cl {b:Z7} (h:KB ds nf m b z):CL ds nf m b.steps (YO b.steps) (z-1)/\0<=b.result/\b.result<((m+YO b.steps:Nat):Int):=by
 obtain ⟨h1,h2⟩:=(C4 b).1 h.fb
 refine ⟨⟨h1,rfl,(E1 b).1 h.op,?_⟩,h2⟩
 have:=h.sz
 have:=b.sz_eq
 omega
theorem KB.put {b:Z7} (h:KB ds nf m b z) {as1 bs:List Int} (ha:∀v∈as1,0<=v/\v<(m:Int)) (hb:∀v∈bs,0<=v/\v<(m:Int)):KB ds nf m ⟨as1.map (Zi 14)++bs.map (Zi 15)++b.steps,b.result⟩ (z+2*as1.length+2*bs.length):=by
 obtain ⟨h1,h2⟩:=h.cl
 have q1:CL ds nf m ([]++as1.map (Zi 14)) 0 (0+2*as1.length):=CL.nil.cnts (.inl rfl) ha
 have q2:=(q1.cnts (op:=15) (.inr rfl) hb).app h1
 have:=h.sz
 have:=b.sz_eq
 rw [AZ,WQ] at q2
 exact (q2.block h2).le om
end
structure KK (ds:List Zf) (nf:Nat) (sc:Nat->Nat) (ks:List Z7) (z:Nat):Prop where
 fb:T2 ds nf sc 0 ks
 op:TX V9 ks
 sz:YY ks<=z
section
variable {ds:List Zf} {nf m z:Nat} {sc:Nat->Nat}
theorem KK.nil:KK ds nf sc [] 0:=⟨True.intro,True.intro,X7 _⟩
theorem KK.snoc {ks:List Z7} {b:Z7} {j z2:Nat} (h:KK ds nf sc ks z) (hj:ks.length=j) (hb:KB ds nf (sc j) b z2):KK ds nf sc (ks++[b]) (z+z2):=by
 refine ⟨Iq h.fb (by rw [hj];exact hb.fb),Mb h.op hb.op,?_⟩
 have:=h.sz
 have:=hb.sz
 rw [BV];simp only [YY];omega
theorem KK.le {ks:List Z7} (h:KK ds nf sc ks z) {z2:Nat} (hz:z<=z2):KK ds nf sc ks z2:=⟨h.fb,h.op,Vf h.sz hz⟩
theorem Ir {s:Z4} {ks:List Z7} {into:Int} (h:FS ds nf m s) (h11:s.op<=11) (hl:ks.length=s.kids.length) (hi:0<=into/\into<=m) (hk:KK ds nf (Ut ds s.op s.num m) ks z):fS ds nf m ⟨s.op,s.num,into,s.args,ks⟩/\TY V9 ⟨s.op,s.num,into,s.args,ks⟩/\(Z4.mk s.op s.num into s.args ks).sz<=5+z:=by
 refine ⟨?_,?_,?_⟩
 ·rw [fS]
  refine ⟨h.op,h.args,fun q=>by omega,fun q=>by rw [hl];exact h.k7 q,fun q=>by rw [hl];exact h.k8 q,h.one,h.call,h.num,hi,h.alen,fun q=>?_,hk.fb⟩
  have:=h.kn q
  rw [this] at hl
  exact List.eq_nil_of_length_eq_zero hl
 ·rw [TY];exact ⟨by show s.op<=15;omega,hk.op⟩
 ·have:=h.alen
  have:=hk.sz
  rw [Z4.sz];omega
end
structure KT (ds:List Zf) (nf m:Nat) (st:Z4) (z:Nat):Prop where
 fs:fS ds nf m st
 cb:YF st.op=false
 op:TY V9 st
 sz:st.sz<=z
theorem KT.of {ds:List Zf} {nf m z:Nat} {s:Z4} {ks:List Z7} {into:Int} (h:FS ds nf m s) (h11:s.op<=11) (hl:ks.length=s.kids.length) (hi:0<=into/\into<=m) (hk:KK ds nf (Ut ds s.op s.num m) ks z):KT ds nf m ⟨s.op,s.num,into,s.args,ks⟩ (5+z):=by
 obtain ⟨h1,h2,h3⟩:=Ir h h11 hl hi hk
 exact ⟨h1,by show YF s.op=false;simp [YF];omega,h2,h3⟩
theorem CL.kt {ds:List Zf} {nf m d z z2:Nat} {xs:List Z4} {st:Z4} (h:CL ds nf m xs d z) (hs:KT ds nf (m+d) st z2):CL ds nf m (xs++[st]) (d+1) (z+z2):=(h.one hs.fs hs.cb hs.op).le (by have:=hs.sz;omega)
theorem FS.few {ds:List Zf} {nf m:Nat} {s:Z4} (h:FS ds nf m s) (hd:Wm ds):s.kids.length<=3:=by
 by_cases h7:s.op=7
 ·have:=h.k7 h7;omega
 ·by_cases h8:s.op=8
  ·have:=h.k8 h8
   have:=Gr hd s.num
   omega
  ·rw [h.kn ⟨h7,h8⟩];simp
theorem RF.lend {ds:List Zf} {nf q:Nat} {p:Int->Prop} {r:Yf} {l:List Int} (h:RF ds nf q p r) (h1:l.length<=3) (h2:∀v∈l,0<=v/\v<(r.params.length:Int)):RF ds nf q p ⟨r.params,l,r.result,r.body⟩:=⟨h.sig,⟨h1,h2⟩,h.body,h.op⟩
theorem RF.with {ds:List Zf} {nf q q2:Nat} {p p2:Int->Prop} {r:Yf} {b:Z7} (h:RF ds nf q p r) (h1:fB ds nf r.params.length b) (h2:b.sz<=q2) (h3:WW p2 b):RF ds nf q2 p2 ⟨r.params,r.lent,r.result,b⟩:=⟨h.sig,h.lent,⟨h1,h2⟩,h3⟩
theorem Z7.eta (b:Z7):Z7.mk b.steps b.result=b:=by cases b;rfl
theorem LC.at {n:Zy} {k:Nat} {xs:List (List Int)} {i:Nat} {l:List Int} {r:Yf} (h:LC n k xs) (hl:xs[i]? = some l) (hr:n.routines[i]? = some r):l.length<=3/\∀v∈l,0<=v/\v<(r.params.length:Int):=⟨(h.ok i l hl).1,(h.ok i l hl).2 r hr⟩
theorem Fg:∀{xs:List Z4},(∀s∈xs,TY Wq s)->∀k,k<=xs.length->YO (xs.take k)=k
 | _,_,0,_=>rfl
 | [],_,k+1,h=>absurd h (by simp)
 | x::r,h,k+1,hk=>by
  have h1:=((Cx x).1 (h x (Xj ..))).1
  have hc:YF x.op=false:=by have:x.op<=11:=h1;simp [YF];omega
  rw [B0,YO,Zb (by rw [hc];simp),Fg (fun s hs=>h s (XH _ hs)) k (by simpa using hk)]
  omega
theorem KB.put1 {ds:List Zf} {nf m z:Nat} {b:Z7} (h:KB ds nf m b z) {op:Int} (ho:op=14∨op=15) {as1:List Int} (ha:∀v∈as1,0<=v/\v<(m:Int)):KB ds nf m ⟨as1.map (Zi op)++b.steps,b.result⟩ (z+2*as1.length):=by
 obtain ⟨h1,h2⟩:=h.cl
 have q1:CL ds nf m ([]++as1.map (Zi op)) 0 (0+2*as1.length):=CL.nil.cnts ho ha
 have q2:=q1.app h1
 have:=h.sz
 have:=b.sz_eq
 rw [AZ,WQ] at q2
 exact (q2.block h2).le om
theorem FO.fin {n:Zy} {rs:List Yf} {q q2:Nat} {p:Int->Prop} (h:FN n q2) (e:rs.length=n.routines.length) (hr:∀r∈rs,RF n.decls n.routines.length q p r):FO ⟨n.decls,rs⟩ q p/\rs.length=n.routines.length:=
 ⟨FO.all h.decls (by show 1<=rs.length/\rs.length<=4;rw [e];exact h.len) (by show ∀r∈rs,RF n.decls rs.length q p r;rw [e];exact hr),e⟩
theorem KT.le {ds:List Zf} {nf m z z2:Nat} {st:Z4} (h:KT ds nf m st z) (hz:z<=z2):KT ds nf m st z2:=⟨h.fs,h.cb,h.op,Vf h.sz hz⟩
theorem KB.len {ds:List Zf} {nf m z:Nat} {b:Z7} (h:KB ds nf m b z):b.steps.length<=z:=by
 have:=h.sz
 have:=b.sz_eq
 have:=K8 b.steps
 omega
def Vg:List Z4->Int->Nat
 | [],_=>0
 | s::r,v=>(if gI s.args 0=v then 1 else 0)+Vg r v
def V8 (rn:List Z4):List Int->Nat
 | []=>0
 | v::r=>Vg rn v+V8 rn r
theorem F6:∀(xs ys:List Z4) (v:Int),Vg (xs++ys) v=Vg xs v+Vg ys v
 | [],ys,v=>by simp [Vg]
 | x::r,ys,v=>by rw [QT,Vg,Vg,F6 r];omega
theorem P1 {xs:List Z4} {k:Nat} {s:Z4} (h:xs[k]? = some s) (v:Int):Vg (xs.take (k+1)) v=Vg (xs.take k) v+(if gI s.args 0=v then 1 else 0):=by
 rw [WO h,F6,Vg,Vg];omega
theorem HY:∀(xs:List Z4) (v:Int),Vg xs v<=xs.length
 | [],v=>X7 _
 | x::r,v=>by have:=HY r v;rw [Vg,YS];split<;>omega
theorem P2 (xs:List Z4) (k:Nat) (v:Int):Vg (xs.take k) v<=Vg xs v:=by
 have h:=Yv (Vg · v) (Uy k xs)
 simp only [F6] at h;omega
theorem H4 (rn:List Z4):∀xs ys:List Int,V8 rn (xs++ys)=V8 rn xs+V8 rn ys
 | [],ys=>by simp [V8]
 | x::r,ys=>by rw [QT,V8,V8,H4 rn r];omega
theorem Z6l {rn:List Z4} {xs:List Int} {k:Nat} {v:Int} (h:xs[k]? = some v):V8 rn (xs.take (k+1))=V8 rn (xs.take k)+Vg rn v:=by
 rw [WO h,H4,V8,V8];rfl
theorem NF (s:Z4) (r:List Z4):∀vs:List Int,Al vs->V8 (s::r) vs<=1+V8 r vs/\(¬gI s.args 0∈vs->V8 (s::r) vs=V8 r vs)
 | [],_=>by simp [V8]
 | v::vs,h=>by
  obtain ⟨h1,h2⟩:=WP.1 h
  obtain ⟨q1,q2⟩:=NF s r vs h2
  rw [V8,V8,Vg]
  by_cases e:gI s.args 0=v
  ·have hn:¬gI s.args 0∈vs:=fun z=>by have:=h1 _ z;omega
   rw [Zm e,q2 hn]
   exact ⟨by omega,fun z=>absurd (YQ.2 (.inl e)) z⟩
  ·rw [Zb e]
   exact ⟨by omega,fun z=>by rw [q2 fun y=>z (XH _ y)];omega⟩
theorem NG:∀(rn:List Z4) {vs:List Int},Al vs->V8 rn vs<=rn.length
 | [],vs,_=>by
  have:∀xs:List Int,V8 [] xs=0:=fun xs=>by
   induction xs with
   | nil=>rfl
   | cons x r ih=>rw [V8,ih];rfl
  rw [this];exact QV _
 | s::r,vs,h=>by
  have h1:=(NF s r vs h).1
  have h2:=NG r h
  rw [YS];omega
theorem H5 (rn:List Z4) (xs:List Int) (k:Nat):V8 rn (xs.take k)<=V8 rn xs:=by
 have h:=Yv (V8 rn) (Uy k xs)
 rw [H4] at h;omega
def Hs (m:Nat) (rn:List Z4):Prop:=∀s∈rn,∃a,s.args=[a]/\0<=a/\a<(m:Int)
theorem Ib {xs:List Z4} {k:Nat} {s:Z4} (h:xs[k]? = some s):YO (xs.take (k+1))=YO (xs.take k)+(if YF s.op=true then 0 else 1):=by rw [WO h,QY,YO,YO];rfl
theorem KT.eq {ds:List Zf} {nf m z:Nat} {s:Z4} {ks:List Z7} (h:FS ds nf m s) (h11:s.op<=11) (hl:ks.length=s.kids.length) (hk:KK ds nf (Ut ds s.op s.num m) ks z):KT ds nf m ⟨s.op,s.num,s.into,s.args,ks⟩ (1+s.args.length+z):=by
 obtain ⟨h1,h2,h3⟩:=Ir h h11 hl h.into hk
 refine ⟨h1,by show YF s.op=false;simp [YF];omega,h2,?_⟩
 have:=hk.sz
 rw [Z4.sz];omega
theorem FS.pair {ds:List Zf} {nf m:Nat} {s:Z4} (h:FS ds nf m s) (hp:s.op=14∨s.op=15):(∃a,s.args=[a]/\0<=a/\a<(m:Int))/\s.sz=2/\YF s.op=true:=by
 obtain ⟨h1,h2,h3,a,h4⟩:=h.cnt om
 have h5:=h.args a (by rw [h4];exact W4.2 rfl)
 refine ⟨⟨a,h4,h5⟩,?_,I5 hp⟩
 rw [s.sz_eq,h3,h4];rfl
theorem FS.not_pair {ds:List Zf} {nf m:Nat} {s:Z4} (h:FS ds nf m s) (hp:¬(s.op=14∨s.op=15)) (h15:V9 s.op):s.op<=11/\YF s.op=false:=by
 have h1:s.op<=15:=h15
 have h2:=h.op
 exact ⟨by omega,by simp [YF];omega⟩
theorem CL.run {ds:List Zf} {nf m d z:Nat} {xs:List Z4} {D R:List Int} {rn:List Z4} (h:CL ds nf m xs d z) (hr:Hs (m+d) rn) (hD:∀v∈D,∃s∈rn,s.args=[v]) (hR:∀v∈R,∃s∈rn,s.args=[v]):CL ds nf m (xs++(D.map (Zi 14)++R.map (Zi 15))) d (z+2*(D.length+R.length)):=by
 have key:∀(A:List Int),(∀v∈A,∃s∈rn,s.args=[v])->∀v∈A,0<=v/\v<((m+d:Nat):Int):=fun A hA v hv=>by
  obtain ⟨s,hs,e⟩:=hA v hv
  obtain ⟨a,e2,e3⟩:=hr s hs
  rw [e] at e2
  cases e2
  exact e3
 have h2:=(h.cnts (op:=14) (.inl rfl) (key D hD)).cnts (op:=15) (.inr rfl) (key R hR)
 rw [<-TI]
 exact h2.le om
def Wb (xs:List Z4) (i:Nat) (s:Z4):List Z4:=xs.take i++[s]++xs.drop i
theorem CD {xs:List Z4} (i:Nat) (s:Z4):Yu (Wb xs i s)=Yu xs+s.sz:=by
 have h:=Yv Yu (Uy i xs)
 rw [UJ] at h
 rw [Wb,UJ,UJ,Yu,Yu];omega
theorem Mu {xs:List Z4} {i:Nat} {s:Z4} (h:i<=xs.length):(Wb xs i s).length=xs.length+1:=by
 simp [Wb,Vp h];omega
def Cf (b:Z7) (i j:Nat) (v:Int):Z7:=⟨Wb (Wb b.steps j (Zi 15 v)) i (Zi 14 v),b.result⟩
def withR (n:Zy) (f:Nat) (rt:Yf) (b:Z7):Zy:=⟨n.decls,n.routines.set f ⟨rt.params,rt.lent,rt.result,b⟩⟩
def EM (n n2:Zy):Prop:=n2=n∨∃f rt i j v,n.routines[f]? = some rt/\i<=j/\j<=rt.body.steps.length/\0<=v/\v<((rt.params.length+YO (rt.body.steps.take i):Nat):Int)/\n2=withR n f rt (Cf rt.body i j v)
theorem CL.put {ds:List Zf} {nf m:Nat} {xs:List Z4} {d z:Nat} (h:CL ds nf m xs d z) {i:Nat} {op v:Int} (ho:op=14∨op=15) (hv:0<=v/\v<((m+YO (xs.take i):Nat):Int)):CL ds nf m (Wb xs i (Zi op v)) d (z+2):=by
 have hs:=h.fs
 have hp:=h.op
 have e:=Uy i xs
 rw [<-e] at hs hp
 rw [Bk] at hs
 rw [E2] at hp
 have h1:CL ds nf m (xs.take i) (YO (xs.take i)) (Yu (xs.take i)):=⟨hs.1,rfl,hp.1,X7 _⟩
 have h2:CL ds nf (m+YO (xs.take i)) (xs.drop i) (YO (xs.drop i)) (Yu (xs.drop i)):=⟨hs.2,rfl,hp.2,X7 _⟩
 have h3:=(h1.cnt ho hv).app h2
 have e1:=Yv Yu e
 have e2:=Yv YO e
 rw [UJ] at e1
 rw [QY,h.dn] at e2
 have:=h.sz
 rw [e2] at h3
 exact h3.le om
theorem Z32 {xs:List Z4} {i j:Nat} {s:Z4} (h:i<=j) (hj:j<=xs.length):(Wb xs j s).take i=xs.take i:=by
 rw [Wb,TI,List.take_append_of_le_length (by rw [Wv];omega),List.take_take,Vp h]
theorem SJ {ds:List Zf} {nf m z:Nat} {b:Z7} (h:KB ds nf m b z) {i j:Nat} {v:Int} (hij:i<=j) (hj:j<=b.steps.length) (hv:0<=v/\v<((m+YO (b.steps.take i):Nat):Int)):KB ds nf m (Cf b i j v) (z+4):=by
 obtain ⟨h1,h2⟩:=h.cl
 have hm:YO (b.steps.take i)<=YO (b.steps.take j):=by
  have e:=Yv YO (Uy i (b.steps.take j))
  rw [QY,List.take_take,Vp hij] at e;omega
 have h3:=(h1.put (i:=j) (op:=15) (v:=v) (.inr rfl) om).put (i:=i) (op:=14) (v:=v) (.inl rfl) (by rw [Z32 hij hj];exact hv)
 have:=h.sz
 have:=b.sz_eq
 exact (h3.block h2).le om
theorem FO.held {n n2:Zy} {q:Nat} (h:FO n q V9) (hh:EM n n2):FO n2 (q+4) V9:=by
 rcases hh with rfl|⟨f,rt,i,j,v,h1,h2,h3,h4,h5,rfl⟩
 ·exact ⟨⟨h.fn.decls,h.fn.len,h.fn.sigs,h.fn.lent,fun r hr=>⟨(h.fn.body r hr).1,by have:=(h.fn.body r hr).2;omega⟩⟩,h.op⟩
 ·have hr:=h.rf (Y7 h1)
  have hk:KB n.decls n.routines.length rt.params.length (Cf rt.body i j v) (q+4):=SJ ⟨hr.body.1,hr.op,hr.body.2⟩ h2 h3 ⟨h4,h5⟩
  refine FO.all h.fn.decls (by show 1<=(n.routines.set _ _).length/\(n.routines.set _ _).length<=4;rw [UV];exact h.fn.len) fun r hm=>?_
  show RF n.decls (n.routines.set _ _).length _ _ r
  rw [UV]
  rcases List.mem_or_eq_of_mem_set hm with hm|rfl
  ·have hq:=h.rf hm
   exact ⟨hq.sig,hq.lent,⟨hq.body.1,by have:=hq.body.2;omega⟩,hq.op⟩
  ·exact ⟨hr.sig,hr.lent,⟨hk.fb,hk.sz⟩,hk.op⟩
structure Wl (ds:List Zf) (b:Z7):Prop where
 w:wB ds b
 nr:TW b
 rng:b.rng
structure UY (ds:List Zf) (s:Z4):Prop where
 w:wS ds s
 nr:AN s
 rng:s.rng
section
variable {ds:List Zf}
theorem TD:∀{xs:List Z4},Qj xs↔∀s∈xs,s.rng
 | []=>by simp [Qj]
 | s::r=>by rw [Qj,TD];simp
theorem JH:∀{xs:List Z7},TO xs↔∀s∈xs,s.rng
 | []=>by simp [TO]
 | s::r=>by rw [TO,JH];simp
theorem Wl.iff {b:Z7}:Wl ds b↔∀s∈b.steps,UY ds s:=by
 constructor
 ·intro h s hs
  have h3:=h.rng
  rw [Z7.rng_eq] at h3
  exact ⟨Jq.1 ((QS b).1 h.w) s hs,Cv.1 ((Cu b).1 h.nr) s hs,TD.1 h3 s hs⟩
 ·intro h
  exact ⟨(QS b).2 (Jq.2 fun s hs=>(h s hs).w),(Cu b).2 (Cv.2 fun s hs=>(h s hs).nr),by rw [Z7.rng_eq];exact TD.2 fun s hs=>(h s hs).rng⟩
theorem UY.kid {s:Z4} {b:Z7} (h:UY ds s) (hb:b∈s.kids):Wl ds b:=by
 have h3:=h.rng
 rw [Z4.rng_eq] at h3
 exact ⟨Ex.1 ((Kc s).1 h.w).2.2.2 b hb,E0.1 ((Bz s).1 h.nr).2 b hb,JH.1 h3.2 b hb⟩
theorem UY.kids {s:Z4} {ks:List Z7} (h:UY ds s) (hl:ks.length=s.kids.length) (hk:∀b∈ks,Wl ds b):UY ds ⟨s.op,s.num,s.into,s.args,ks⟩:=by
 obtain ⟨h1,h2,h3,h4⟩:=(Kc s).1 h.w
 have h5:=h.rng
 rw [Z4.rng_eq] at h5
 refine ⟨(Kc _).2 ⟨h1,fun hc=>?_,fun h8=>⟨(h3 h8).1,hl.trans (h3 h8).2⟩,Ex.2 fun b hb=>(hk b hb).w⟩,(Bz _).2 ⟨((Bz s).1 h.nr).1,E0.2 fun b hb=>(hk b hb).nr⟩,by rw [Z4.rng_eq];exact ⟨h5.1,JH.2 fun b hb=>(hk b hb).rng⟩⟩
 obtain ⟨q1,q2,q3,q4⟩:=h2 hc
 exact ⟨q1,q2,List.eq_nil_of_length_eq_zero (show ks.length=0 by rw [hl,q3];rfl),q4⟩
theorem UY.cnt {op v:Int} (h:op=14∨op=15∨op=16):UY ds (Zi op v):=⟨Z7h h,(Bz _).2 ⟨by show op≠17;omega,True.intro⟩,by rw [Z4.rng_eq];exact ⟨⟨by show (-9223372036854775808:Int)<=0;decide,by show (0:Int)<=_;decide⟩,True.intro⟩⟩
theorem Wl.open {b:Z7} {x q:Int} {fs:List Int} (h:Wl ds b):Wl ds (QW b x fs q):=by
 rw [Wl.iff] at h ⊢
 intro s hs
 have hs:s∈JD b.steps x fs q:=hs
 rw [JD] at hs
 split at hs
 ·simp only [Xr,W3,W4] at hs
  rcases hs with ((⟨a,_,rfl⟩|rfl)|⟨a,_,rfl⟩)|hs
  ·exact UY.cnt om
  ·exact UY.cnt om
  ·exact UY.cnt om
  ·exact h s (List.mem_of_mem_drop hs)
 ·exact h s hs
theorem N4 {m:Nat} {op num:Int} {args:List Int}:∀{bs:List Z7} {k:Nat},(Td ds m op num args bs k).length=bs.length
 | [],_=>rfl
 | b::r,k=>by rw [Td,YS,YS,N4 (bs:=r)]
mutual
theorem UY.sp:∀(s:Z4) {m:Nat},UY ds s->UY ds (AP ds m s)
 | .mk op num into args kids,m,h=>by
  rw [AP]
  exact h.kids N4 (Wls.sp kids fun b hb=>h.kid hb)
theorem Wls.sp:∀(bs:List Z7) {m:Nat} {op num:Int} {args:List Int} {k:Nat},(∀b∈bs,Wl ds b)->∀b∈Td ds m op num args bs k,Wl ds b
 | [],_,_,_,_,_,_,b,hb=>by cases hb
 | c::r,m,op,num,args,k,h,b,hb=>by
  rw [Td] at hb
  rcases YQ.1 hb with rfl|hb
  ·split
   ·exact (Wl.sp c (h c (Xj ..))).open
   ·exact Wl.sp c (h c (Xj ..))
  ·exact Wls.sp r (fun x hx=>h x (XH _ hx)) b hb
theorem WlSs.sp:∀(xs:List Z4) {m:Nat},(∀s∈xs,UY ds s)->∀s∈Uu ds m xs,UY ds s
 | [],_,_,s,hs=>by cases hs
 | c::r,m,h,s,hs=>by
  rw [Uu] at hs
  rcases YQ.1 hs with rfl|hs
  ·exact UY.sp c (h c (Xj ..))
  ·exact WlSs.sp r (fun x hx=>h x (XH _ hx)) s hs
theorem Wl.sp:∀(b:Z7) {m:Nat},Wl ds b->Wl ds (WE ds m b)
 | .mk steps result,m,h=>by
  rw [WE,Wl.iff]
  exact WlSs.sp steps (Wl.iff.1 h)
end
theorem Z3e {b:Z7} {x:Int} {many:Nat} (h:b.rng):(V6 b x many).rng:=by
 rw [Z7.rng_eq] at h
 rw [V6,Z7.rng_eq]
 show Qj (VR b.steps x many)
 rw [VR]
 split
 ·exact h
 ·rename_i hq
  obtain ⟨_,_,t,h5,h7,h6⟩:=JI (fun z=>hq (.inr z))
  rw [TD] at h ⊢
  intro s hs
  rcases List.mem_or_eq_of_mem_set hs with hs|rfl
  ·rcases List.mem_or_eq_of_mem_set hs with hs|rfl
   ·exact h s hs
   ·rw [Z4.rng_eq];exact ⟨⟨by show (-9223372036854775808:Int)<=0;decide,by show (0:Int)<=_;decide⟩,True.intro⟩
  ·have:=h t (Y7 h5)
   rw [h6,Tz,Z4.rng_eq]
   rw [Z4.rng_eq] at this
   exact this
mutual
theorem Z3f:∀(s:Z4) {K:List Int},s.rng->(Q0 ds K s).rng
 | .mk op num into args kids,K,h=>by
  rw [Z4.rng] at h
  rw [Q0,Z4.rng]
  exact ⟨h.1,ME kids h.2⟩
theorem ME:∀(bs:List Z7) {K:List Int} {op num:Int} {args:List Int} {k:Nat},TO bs->TO (Uf ds K op num args bs k)
 | [],_,_,_,_,_,_=>True.intro
 | b::r,K,op,num,args,k,h=>by
  rw [Uf,TO]
  refine ⟨?_,ME r h.2⟩
  split
  ·exact Z3e (GF b h.1)
  ·exact GF b h.1
theorem MF:∀(xs:List Z4) {K:List Int},Qj xs->Qj (Ug ds K xs)
 | [],_,_=>True.intro
 | s::r,K,h=>⟨Z3f s h.1,MF r h.2⟩
theorem GF:∀(b:Z7) {K:List Int},b.rng->(Wp ds K b).rng
 | .mk steps result,K,h=>by
  rw [Z7.rng] at h
  rw [Wp,Z7.rng]
  exact MF steps h
end
end
mutual
theorem Z2a:∀s:Z4,TY V9 s->AN s
 | .mk op num into args kids,h=>by
  rw [TY] at h
  rw [AN]
  exact ⟨by have:op<=15:=h.1;omega,M1 kids h.2⟩
theorem M1:∀bs:List Z7,TX V9 bs->JW bs
 | [],_=>True.intro
 | b::r,h=>⟨M0 b h.1,M1 r h.2⟩
theorem M2:∀bs:List Z4,Ta V9 bs->JX bs
 | [],_=>True.intro
 | b::r,h=>⟨Z2a b h.1,M2 r h.2⟩
theorem M0:∀b:Z7,WW V9 b->TW b
 | .mk steps result,h=>by
  rw [WW] at h
  rw [TW]
  exact M2 steps h
end
structure ZR (q:Nat) (r:Yf):Prop where
 params:r.params.length<=3
 lent:r.lent.length<=10
 body:r.body.sz<=q
 rng:r.body.rng
structure ZN (n:Zy) (q:Nat):Prop where
 decls:AD n.decls
 len:1<=n.routines.length/\n.routines.length<=4
 rt:∀r∈n.routines,ZR q r
theorem ZR.le {q q2:Nat} {r:Yf} (h:ZR q r) (hq:q<=q2):ZR q2 r:=⟨h.params,h.lent,Vf h.body hq,h.rng⟩
theorem ZN.le {n:Zy} {q q2:Nat} (h:ZN n q) (hq:q<=q2):ZN n q2:=⟨h.decls,h.len,fun r hr=>(h.rt r hr).le hq⟩
theorem ZN.sz {n:Zy} {q:Nat} (h:ZN n q) (hq:q<=10000000):Q5 n:=
 ⟨⟨by have:=h.decls.1;omega,fun d hd=>by have:=(h.decls.2 d hd).1;omega,fun d hd c hc=>by have:=(h.decls.2 d hd).2 c hc;omega⟩,by have:=h.len;omega,fun r hr=>by have:=(h.rt r hr).params;omega,fun r hr=>by have:=(h.rt r hr).lent;omega,fun r hr=>by have:=(h.rt r hr).body;omega⟩
theorem FO.wl {n:Zy} {q:Nat} (h:FO n q V9) (hq:q<=100000000):∀r∈n.routines,Wl n.decls r.body:=fun r hr=>by
 have h1:=h.rf hr
 have h2:r.params.length<=3:=(UL.bd (f:=⟨r.params,r.result,default⟩) h1.sig).1
 exact ⟨NW r.body h1.body.1 (by have:=h1.body.2;omega) h.fn.decls.ok,M0 r.body h1.op,Gz r.body h1.body.1⟩
theorem FO.zn {n:Zy} {q:Nat} {p:Int->Prop} (h:FO n q p):ZN n q:=
 ⟨h.fn.decls.ad,h.fn.len,fun r hr=>⟨(UL.bd (f:=⟨r.params,r.result,default⟩) (h.fn.sigs r hr)).1,by have:=(h.fn.lent r hr).1;omega,(h.fn.body r hr).2,Gz r.body (h.fn.body r hr).1⟩⟩
structure WN (n:Zy) (q:Nat):Prop where
 ok:Xe n
 zn:ZN n q
 wl:∀r∈n.routines,Wl n.decls r.body
theorem FO.wn {n:Zy} {q:Nat} (h:FO n q V9) (hq:q<=100000000):WN n q:=⟨h.fn.ok,h.zn,h.wl hq⟩
theorem WN.sp {n:Zy} {q:Nat} (h:WN n q):WN (En n) (9*q):=by
 refine ⟨⟨h.ok.decls,by show (n.routines.map _).length<=4;rw [Ah];exact h.ok.len,fun r hr=>?_,fun r hr=>?_⟩,⟨h.zn.decls,by show 1<=(n.routines.map _).length/\(n.routines.map _).length<=4;rw [Ah];exact h.zn.len,fun r hr=>?_⟩,fun r hr=>?_⟩
 ·obtain ⟨s,hs,rfl⟩:=W3.1 hr;exact h.ok.params s hs
 ·obtain ⟨s,hs,rfl⟩:=W3.1 hr;exact h.ok.lent s hs
 ·obtain ⟨s,hs,rfl⟩:=W3.1 hr
  have hz:=h.zn.rt s hs
  refine ⟨hz.params,hz.lent,?_,(Wl.sp s.body (h.wl s hs)).rng⟩
  have h1:=El h.ok.decls s.body (m:=s.params.length) (h.wl s hs).w
  have h2:=s.body.pz_le
  have h3:=hz.body
  show (WE n.decls s.params.length s.body).sz<=9*q
  omega
 ·obtain ⟨s,hs,rfl⟩:=W3.1 hr;exact Wl.sp s.body (h.wl s hs)
theorem WN.ru {n:Zy} {q:Nat} (h:WN n q):ZN (E8 n) q:=by
 refine ⟨h.zn.decls,by show 1<=(n.routines.map _).length/\(n.routines.map _).length<=4;rw [Ah];exact h.zn.len,fun r hr=>?_⟩
 obtain ⟨s,hs,rfl⟩:=W3.1 hr
 have hz:=h.zn.rt s hs
 refine ⟨hz.params,hz.lent,?_,GF s.body (h.wl s hs).rng⟩
 have h1:=GJ s.body (K:=[]) (h.wl s hs).w
 have h3:=hz.body
 show (Wp n.decls [] s.body).sz<=q
 omega
theorem Gv {xs:List Z4} {i:Nat} {s t:Z4} (h:t∈Wb xs i s):t∈xs∨t=s:=by
 rw [Wb] at h
 simp only [Xr,W4] at h
 rcases h with (h|h)|h
 ·exact .inl (TJ h)
 ·exact .inr h
 ·exact .inl (List.mem_of_mem_drop h)
theorem GC {op v:Int}:(Zi op v).rng:=by rw [Z4.rng_eq];exact ⟨⟨by show (-9223372036854775808:Int)<=0;decide,by show (0:Int)<=_;decide⟩,True.intro⟩
theorem ZN.withR {n:Zy} {q q2:Nat} {f:Nat} {rt:Yf} {b:Z7} (h:ZN n q) (hr:n.routines[f]? = some rt) (hq:q<=q2) (hb:b.sz<=q2) (hg:b.rng):ZN (withR n f rt b) q2:=by
 refine ⟨h.decls,by show 1<=(n.routines.set _ _).length/\(n.routines.set _ _).length<=4;rw [UV];exact h.len,fun r hm=>?_⟩
 rcases List.mem_or_eq_of_mem_set hm with hm|rfl
 ·exact (h.rt r hm).le hq
 ·have:=h.rt rt (Y7 hr)
  exact ⟨this.params,this.lent,hb,hg⟩
theorem ZN.held {n n2:Zy} {q:Nat} (h:ZN n q) (hh:EM n n2):ZN n2 (q+4):=by
 rcases hh with rfl|⟨f,rt,i,j,v,h1,h2,h3,h4,h5,rfl⟩
 ·exact h.le om
 ·have hz:=h.rt rt (Y7 h1)
  refine h.withR h1 om ?_ ?_
  ·rw [Cf,Z7.sz,CD,CD]
   have e1:(Zi 14 v).sz=2:=rfl
   have e2:(Zi 15 v).sz=2:=rfl
   have:=hz.body
   have:=rt.body.sz_eq
   omega
  ·have hg:=hz.rng
   rw [Z7.rng_eq,TD] at hg
   rw [Cf,Z7.rng_eq,TD]
   intro s hs
   rcases Gv hs with hs|rfl
   ·rcases Gv hs with hs|rfl
    ·exact hg s hs
    ·exact GC
   ·exact GC
theorem FO.le {n:Zy} {q q2:Nat} {p:Int->Prop} (h:FO n q p) (hq:q<=q2):FO n q2 p:=⟨⟨h.fn.decls,h.fn.len,h.fn.sigs,h.fn.lent,fun r hr=>⟨(h.fn.body r hr).1,Vf (h.fn.body r hr).2 hq⟩⟩,h.op⟩
def VA (s y:Z4):Prop:=y.sz<=s.sz+1/\y.rng
theorem VA.refl {s:Z4} (hg:s.rng):VA s s:=⟨Nat.le_succ _,hg⟩
theorem VA.of {s:Z4} {op num into:Int} {args:List Int} {kids:List Z7} (hg:s.rng) (hn:num=s.num∨num∈([0,1,2,3,-1,1000]:List Int)) (ha:args.length<=s.args.length+1) (hk:kids=s.kids∨kids=s.kids.drop 1):VA s ⟨op,num,into,args,kids⟩:=by
 rw [Z4.rng_eq] at hg
 have hs:=s.sz_eq
 have hb:YY kids<=YY s.kids:=by
  rcases hk with rfl|rfl
  ·exact X7 _
  ·have h:=Yv YY (Uy 1 s.kids)
   rw [BV] at h;omega
 refine ⟨by rw [Z4.sz];omega,?_⟩
 rw [Z4.rng]
 refine ⟨?_,JH.2 fun b hbk=>JH.1 hg.2 b ?_⟩
 ·rcases hn with rfl|hn
  ·exact hg.1
  ·have:=(by decide:∀z∈([0,1,2,3,-1,1000]:List Int),-9223372036854775808<=z/\z<=9223372036854775807) num hn
   exact this
 ·rcases hk with rfl|rfl
  ·exact hbk
  ·exact List.mem_of_mem_drop hbk
def Xs (b y:Z7):Prop:=y.sz<=b.sz+2/\y.rng
theorem Xs.result {b:Z7} (hg:b.rng) (z:Int):Xs b ⟨b.steps,z⟩:=⟨by rw [Z7.sz,b.sz_eq];omega,by rw [Z7.rng_eq] at hg;rw [Z7.rng];exact hg⟩
theorem Xs.put {b:Z7} (hg:b.rng) {i:Nat} {op v:Int}:Xs b ⟨Wb b.steps i (Zi op v),b.result⟩:=by
 rw [Z7.rng_eq,TD] at hg
 refine ⟨?_,?_⟩
 ·rw [Z7.sz,CD,b.sz_eq]
  have e:(Zi op v).sz=2:=rfl
  omega
 ·rw [Z7.rng,TD]
  intro s hs
  rcases Gv hs with hs|rfl
  ·exact hg s hs
  ·exact GC
theorem Xs.del {b:Z7} (hg:b.rng) {k:Nat}:Xs b ⟨b.steps.take k++b.steps.drop (k+1),b.result⟩:=by
 rw [Z7.rng_eq,TD] at hg
 have h1:=Qk b.steps k
 have h2:=Yv Yu (Uy k b.steps)
 have h3:=Yv Yu (Uy 1 (b.steps.drop k))
 rw [UJ] at h2 h3
 rw [List.drop_drop] at h3
 refine ⟨by rw [Z7.sz,UJ,b.sz_eq];omega,?_⟩
 rw [Z7.rng,TD]
 intro s hs
 rcases Xr.1 hs with hs|hs
 ·exact hg s (TJ hs)
 ·exact hg s (List.mem_of_mem_drop hs)
theorem Xs.set {b:Z7} (hg:b.rng) {k:Nat} {s t:Z4} (hs:b.steps[k]? = some s) (ht:t.sz<=s.sz+2/\t.rng):Xs b ⟨b.steps.set k t,b.result⟩:=by
 rw [Z7.rng_eq,TD] at hg
 have h1:=Er t hs
 refine ⟨by rw [Z7.sz,b.sz_eq];omega,?_⟩
 rw [Z7.rng,TD]
 intro x hx
 rcases List.mem_or_eq_of_mem_set hx with hx|rfl
 ·exact hg x hx
 ·exact ht.2
theorem HS:∀{xs:List Z7} {i:Nat} {s:Z7} (t:Z7),xs[i]? = some s->YY (xs.set i t)+s.sz=YY xs+t.sz
 | [],_,_,_,h=>by simp at h
 | x::r,0,s,t,h=>by simp at h;subst h;rw [List.set_cons_zero,YY,YY];omega
 | x::r,i+1,s,t,h=>by
  have:=HS (xs:=r) (i:=i) t (by simpa using h)
  rw [List.set_cons_succ,YY,YY];omega
theorem Xs.kid {b:Z7} (hg:b.rng) {k j:Nat} {s:Z4} {c y:Z7} (hs:b.steps[k]? = some s) (hc:s.kids[j]? = some c) (hy:Xs c y):Xs b ⟨b.steps.set k ⟨s.op,s.num,s.into,s.args,s.kids.set j y⟩,b.result⟩:=by
 refine Xs.set hg hs ?_
 have hg2:=hg
 rw [Z7.rng_eq,TD] at hg2
 have h1:=hg2 s (Y7 hs)
 rw [Z4.rng_eq] at h1
 have h2:=HS y hc
 have h3:=hy.1
 refine ⟨by rw [Z4.sz,s.sz_eq];omega,?_⟩
 rw [Z4.rng]
 refine ⟨h1.1,JH.2 fun x hx=>?_⟩
 rcases List.mem_or_eq_of_mem_set hx with hx|rfl
 ·exact JH.1 h1.2 x hx
 ·exact hy.2
theorem Z3d {b:Z7} (hg:b.rng) {k j:Nat} {s:Z4} {c:Z7} (hs:b.steps[k]? = some s) (hc:s.kids[j]? = some c):c.rng:=by
 rw [Z7.rng_eq,TD] at hg
 have h1:=hg s (Y7 hs)
 rw [Z4.rng_eq] at h1
 exact JH.1 h1.2 c (Y7 hc)
theorem Z3g {b:Z7} (hg:b.rng) {k:Nat} {s:Z4} (hs:b.steps[k]? = some s):s.rng:=by
 rw [Z7.rng_eq,TD] at hg
 exact hg s (Y7 hs)
structure ZS (n:Zy) (q l:Nat):Prop where
 decls:AD n.decls
 len:1<=n.routines.length/\n.routines.length<=4
 rt:∀r∈n.routines,r.params.length<=3/\r.lent.length<=l/\r.body.sz<=q/\r.body.rng
theorem ZN.zs {n:Zy} {q:Nat} (h:ZN n q):ZS n q 10:=⟨h.decls,h.len,fun r hr=>⟨(h.rt r hr).params,(h.rt r hr).lent,(h.rt r hr).body,(h.rt r hr).rng⟩⟩
theorem ZS.le {n:Zy} {q q2 l l2:Nat} (h:ZS n q l) (hq:q<=q2) (hl:l<=l2):ZS n q2 l2:=⟨h.decls,h.len,fun r hr=>by obtain ⟨a,b,c,d⟩:=h.rt r hr;exact ⟨a,by omega,by omega,d⟩⟩
theorem ZS.sz {n:Zy} {q l:Nat} (h:ZS n q l) (hq:q<=10000000) (hl:l<=1000):Q5 n:=
 ⟨⟨by have:=h.decls.1;omega,fun d hd=>by have:=(h.decls.2 d hd).1;omega,fun d hd c hc=>by have:=(h.decls.2 d hd).2 c hc;omega⟩,by have:=h.len;omega,fun r hr=>by have:=(h.rt r hr).1;omega,fun r hr=>by have:=(h.rt r hr).2.1;omega,fun r hr=>by have:=(h.rt r hr).2.2.1;omega⟩
theorem ZS.set {n:Zy} {q l q2 l2:Nat} {f:Nat} {rt:Yf} {ls:List Int} {b:Z7} (h:ZS n q l) (hr:n.routines[f]? = some rt) (hq:q<=q2) (hl:l<=l2) (hls:ls.length<=l2) (hb:b.sz<=q2) (hg:b.rng):ZS ⟨n.decls,n.routines.set f ⟨rt.params,ls,rt.result,b⟩⟩ q2 l2:=by
 refine ⟨h.decls,by show 1<=(n.routines.set _ _).length/\(n.routines.set _ _).length<=4;rw [UV];exact h.len,fun r hm=>?_⟩
 rcases List.mem_or_eq_of_mem_set hm with hm|rfl
 ·exact (h.le hq hl).rt r hm
 ·have:=h.rt rt (Y7 hr)
  exact ⟨this.1,hls,hb,hg⟩
theorem ZS.ds {n:Zy} {q l:Nat} {ds:List Zf} (h:ZS n q l) (hd:AD ds):ZS ⟨ds,n.routines⟩ q l:=⟨hd,h.len,h.rt⟩
def Bx (g l c m kk:Nat):Value:=.slice (some ⟨g,(if c-m=0 then 0 else m*kk),none⟩) (l-m) (c-m)
def GV (P:Program) (ops:Array Oper) (F:Fr) (k:Nat):Option (AV × Int × Nat):=
 match (ZC ops k).op with
 | .slice t x (some lo) none none=>match P.underlying t with
  | some (.slice e)=>match P.info? e with
   | some i=>match F.ev lo with
    | .val (.int _ m)=>some (F.ev x,m,i.size)
    | _=>none
   | none=>none
  | _=>none
 | _=>none
section
variable {P:Program} {n:Nat} {ops:Array Oper} {k:Nat} {F:Fr} {h h2:List Res}
theorem Z65 (j:Nat) {g l c m kk:Nat} {ls:List AV} (hi:GV P ops F k=some (.val (.slice (some ⟨g,0,none⟩) l c),(m:Int),kk)) (hj:h[j]? = some (.row (.slice (some ⟨g,0,none⟩) l c) kk ls)) (hle:m<=l) :
  XA P (ZC ops k) F h [] (.val (Bx g l c m kk)):=by
 unfold GV at hi
 generalize hoo:ZC ops k=o at hi
 obtain ⟨dst,op,type,pos,after,guard⟩:=o
 cases op<;>simp only at hi<;>try (cases hi)
 rename_i t x lo hi' mx
 cases lo with
 | none=>simp at hi
 | some y=>
  cases hi' with
  | some _=>simp at hi
  | none=>
   cases mx with
   | some _=>simp at hi
   | none=>
    simp only at hi
    split at hi
    ·rename_i e ht
     split at hi
     ·rename_i inf hinf
      split at hi
      ·rename_i ik m' hm
       simp only [XW,Prod.mk.injEq] at hi
       obtain ⟨hx,rfl,hkk⟩:=hi
       intro n w G a hF hh
       have v1:=hF.ev x
       rw [hx] at v1
       have v1:=v1.val_inv
       have v2:=hF.ev y
       rw [hm] at v2
       have v2:=v2.val_inv
       have hcap:l<=c:=by
        rcases hh.ok _ (Y7 hj) with ⟨h0,_⟩|⟨g',l',c',cur,el,h0,_,hc,_⟩
        ·cases h0
        ·cases h0;exact hc
       refine ⟨_,.val,fun w' _ _=>?_⟩
       simp only [execOp,v1,v2,Aj,Option.map_none]
       refine WX ?_
       simp only [Instr.sliceAt,Sem.run_bind,Vo ht,Result.andThen_ok,Instr.slice]
       have hmm:(Instr.sliceBounds true l c (some (.int ik (m:Int))) none none).run P w'=.ok (m,l,c) w':=by
        have Yw:=BH (P:=P) (c:=BoundsCode.sliceB) (v:=.int ik (m:Int)) (y:=l) rfl om om w'
        simp [Instr.sliceBounds,Yw]
       rw [hmm]
       simp only [Result.andThen_ok,TC hinf,Bx,hkk]
       by_cases h0:c-m=0
       ·have e0:c=m:=by omega
        simp [e0]
       ·have e0:¬c=m:=fun z=>h0 om
        simp [e0,h0,Addr.add]
        exact fun z=>z.symm
      ·cases hi
     ·cases hi
    ·cases hi
theorem Lr (j g l c m kk:Nat) (ls:List AV) (hle:m<=l:=by omega) (hi:GV P ops F k=some (.val (.slice (some ⟨g,0,none⟩) l c),(m:Int),kk):=by kernel_rfl) (hj:h[j]? = some (.row (.slice (some ⟨g,0,none⟩) l c) kk ls):=by kernel_rfl) :
  XA P (ZC ops k) F h [] (.val (Bx g l c m kk)):=Z65 j hi hj hle
theorem Z2p {K:Fr->List Res->Prop} {g len cap i m sz:Nat} {ls:List AV} (hd:V0 n (ZC ops k)=true) (ha:VU P ops F k=some (.val (.slice (some ⟨g,0,none⟩) i cap),.val (Bx g len cap m sz),sz))
  (hone:ls.all AV.one=true) (him:i<=m) (hml:m<=len)
  (hK:K (F.put (ZC ops k).dst (.val (.slice (some ⟨g,0,none⟩) (i+(len-m)) cap))) (.row (.slice (some ⟨g,0,none⟩) (i+(len-m)) cap) sz (ls.take (i*sz)++ls.drop (m*sz))::h2)):Wg P n (ZC ops k) F (.row (.slice (some ⟨g,0,none⟩) len cap) sz ls::h2) K:=by
 unfold VU at ha
 generalize hoo:ZC ops k=o at ha hd hK
 obtain ⟨dst,op,type,pos,after,guard⟩:=o
 cases op<;>simp only at ha<;>try (cases ha)
 rename_i c
 obtain ⟨callee,args,tys⟩:=c
 simp only at ha
 split at ha
 case h_2=>cases ha
 rename_i s x t t' hargs htys
 split at ha
 case h_2=>cases ha
 rename_i e htt ht
 have:=VT htt
 subst this
 split at ha
 case h_2=>cases ha
 rename_i inf hinfo
 split at ha
 case h_2=>cases ha
 rename_i z hz
 split at ha
 case h_2=>cases ha
 rename_i hb
 simp only [XL] at hb
 simp only [XW,Prod.mk.injEq] at ha
 obtain ⟨h3,h4,hk1⟩:=ha
 have e1:args=#[s,x]:=by rw [<-VG (xs:=args),hargs]
 have e2:tys=#[t,t]:=by rw [<-VG (xs:=tys),htys]
 subst e1;subst e2
 intro Q w G a hF hh
 have v1:=hF.ev s
 have v2:=hF.ev x
 rw [h3] at v1
 rw [h4] at v2
 have v1:=v1.val_inv
 have v2:=v2.val_inv
 rcases hh.ok _ (Xj ..) with ⟨h0,_⟩|⟨g',len',cap',cur,el,h0,hrow,hlc,hcur,hll,hcells⟩
 ·cases h0
 ·cases h0
  have q5:len*sz<=cap*sz:=TK _ hlc
  have q6:m*sz<=len*sz:=TK _ hml
  have q7:i*sz<=m*sz:=TK _ him
  have q8:(len-m)*sz=len*sz-m*sz:=Nat.sub_mul ..
  have q9:(i+(len-m))*sz=i*sz+(len-m)*sz:=Tt ..
  have hcl:cur.toList.length=cap*sz:=by rw [Qn,hcur]
  have h1:(cur.toList.take (len*sz)).length=len*sz:=by rw [Wv,hcl,Vp q5]
  have hnl:((cur.toList.take (len*sz)).drop (m*sz)).length=(len-m)*sz:=by rw [Ag,h1];omega
  have hr:=Eb (P:=P) w t type e el inf ht hinfo g i cap cur hrow ⟨g,(if cap-m=0 then 0 else m*sz),none⟩ (len-m) (cap-m) ((cur.toList.take (len*sz)).drop (m*sz)) (by rw [hk1];exact hnl)
   (fun j u hj=>by
    have hjl:=(XM.1 hj).1
    rw [hnl] at hjl
    have hne:¬cap-m=0:=fun z=>by
     have:len-m=0:=by omega
     rw [this] at hjl;omega
    rw [Zb hne,Qs,cell_of_row w g _ cur el (0,0) hrow]
    rw [Ho,Q4] at hj
    split at hj
    ·simpa using hj
    ·cases hj)
   (fun u hu=>hcells.one_cells hone u (List.mem_of_mem_drop hu)) om (by rw [hk1,hnl,hcur];omega)
  rw [hk1] at hr
  have hti:(cur.toList.take (i*sz)).length=i*sz:=by rw [Wv,hcl,Vp om]
  obtain ⟨j1,j2⟩:=hh.rgrow (ls':=ls.take (i*sz)++ls.drop (m*sz)) (len':=i+(len-m)) (cs':=(cur.toList.take (i*sz)++(cur.toList.take (len*sz)).drop (m*sz)++cur.toList.drop (i*sz+((cur.toList.take (len*sz)).drop (m*sz)).length)).toArray) hrow
   (by simp only [BP,Yx,hti,hnl,Ag,hcl,hcur];omega) om hcur (by rw [Yx,Wv,Ag,hll,q9,Vp om];omega) (by
    have:(cur.toList.take (i*sz)++(cur.toList.take (len*sz)).drop (m*sz)++cur.toList.drop (i*sz+((cur.toList.take (len*sz)).drop (m*sz)).length)).toArray.toList.take ((i+(len-m))*sz)=cur.toList.take (i*sz)++(cur.toList.take (len*sz)).drop (m*sz):=by
     rw [BQ,q9,<-hnl]
     conv=>lhs;arg 1;rw [show i*sz+((cur.toList.take (len*sz)).drop (m*sz)).length=(cur.toList.take (i*sz)++(cur.toList.take (len*sz)).drop (m*sz)).length from by rw [Yx,hti]]
     exact KN
    rw [this]
    have ht1:=hcells.take (i*sz)
    rw [List.take_take,Vp om] at ht1
    exact ht1.append (hcells.drop (m*sz)))
  generalize hW:w.setRow g (cur.toList.take (i*sz)++(cur.toList.take (len*sz)).drop (m*sz)++cur.toList.drop (i*sz+((cur.toList.take (len*sz)).drop (m*sz)).length)).toArray=W at hr j1 j2
  have hrun:(execOp a.eval { dst:=dst,op:=.call { callee:=.builtin .append,args:=#[s,x],argTypes:=#[t,t] },type:=type,pos:=pos,after:=after,guard:=guard }).run P w=.ok (.value (.slice (some ⟨g,0,none⟩) (i+(len-m)) cap)) W:=by
   simp only [execOp,resolve,invoke,builtin,Sem.run_bind,Sem.run_pure,Result.andThen_ok,AY,Uh,AX,v1,v2,Bx]
   rw [hr]
   rfl
  unfold Oper.wp
  rw [hrun]
  exact ⟨_,_,G,hK,(hF.mono (j2.agree hh)).put (U5 hd) .val,j1,j2⟩
end
section
variable {P:Program} {n:Nat} {ops:Array Oper} {B:Fr->List Res->Prop} {T:List (Nat × List Nat)} {fuel:Nat} {done:List Nat} {k:Nat} {F:Fr} {h:List Res}
theorem I7 (q j:Nat) (js bs:List Nat) (g len cap i m sz:Nat) (ls:List AV) (hone:ls.all AV.one=true)
  (H:YL P n ops B (T.filter fun t=>!WA ops q t.1) fuel (done++[q]) (F.put (ZC ops q).dst (.val (.slice (some ⟨g,0,none⟩) (i+(len-m)) cap))) (.row (.slice (some ⟨g,0,none⟩) (i+(len-m)) cap) sz (ls.take (i*sz)++ls.drop (m*sz))::XF [j] h)) (him:i<=m:=by omega) (hml:m<=len:=by omega)
  (hk:X1 n ops F q=true:=by kernel_rfl) (ha:VU P ops F q=some (.val (.slice (some ⟨g,0,none⟩) i cap),.val (Bx g len cap m sz),sz):=by kernel_rfl) (hp:Wa [j] h=some [.row (.slice (some ⟨g,0,none⟩) len cap) sz ls]:=by kernel_rfl) (ho:Vw ops q T=bs:=by kernel_rfl)
  (hj:js.map (fun z=>(Wk (XF [j] h))[z]?)=bs.map some:=by kernel_rfl):WY P n ops B T fuel done F h q:=
 Qc [j] js bs hk (Vc hp) ho hj (Z2p (h2:=[]) (Vn hk).2.1 ha hone him hml H)
end
theorem PY (xs:List Yf) (k:Nat) (d:Yf):YM (xs.set k d)=(YM xs).set k (WZ d):=by simp [YM,List.map_set]
theorem Ds (xs:List Yf):(Zl (YM xs)).length=xs.length*5:=by rw [UP (k:=5) _ (U7 xs)];simp
theorem Rk {ds:List Yf} {k:Nat} (d:Yf) (hk:k<ds.length):(Zl (YM ds)).take (k*5)++(WZ d).leaves++(Zl (YM ds)).drop (k*5+5)=Zl (YM (ds.set k d)):=by
 rw [PY];exact Dv (y:=WZ d) (U7 ds) rfl (by simpa using hk)
theorem PO (xs:List Z7) (k:Nat) (d:Z7):YH (xs.set k d)=(YH xs).set k (Zx d):=by
 simp [Um,List.map_set]
theorem C8 (xs:List Z7):(Zl (YH xs)).length=xs.length*2:=by rw [UP (k:=2) _ (T0 xs)];simp
theorem Rh {ds:List Z7} {k:Nat} (d:Z7) (hk:k<ds.length):(Zl (YH ds)).take (k*2)++(Zx d).leaves++(Zl (YH ds)).drop (k*2+2)=Zl (YH (ds.set k d)):=by
 rw [PO];exact Dv (y:=Zx d) (T0 ds) (by cases d;rfl) (by simpa using hk)
theorem Zj.frzN {P:Program} {f:FuncId} {as1:List AV} {h0:List Res} {ds:List Zf} {rs:List Yf} {hs:List Res}
  (H:Zj P f as1 h0 (fun r h=>∃g c:Nat,r=.agg [Zd ds,.ms g 0 rs.length c]/\h=.row (.slice (some ⟨g,0,none⟩) rs.length c) 5 (Zl (YM rs))::hs)) :
  Zj P f as1 h0 (fun r h=>r=.agg [Zd ds,YZ rs]/\h=hs):=by
 intro w G vs hv hh
 refine (H w G vs hv hh).mono ?_
 rintro e w' ⟨u,r,h',G',he,⟨gb,c,rfl,rfl⟩,hr,hh',hx⟩
 obtain ⟨G2,h1,h2,h3⟩:=BF hh' (U7 _) om
 have hA:Vq G' w' w' G2:=h2.agree hh'
 refine ⟨u,_,hs,G2,he,⟨rfl,rfl⟩,?_,(h1.perm (List.perm_append_comm (l₁:=[_]))).left,(hx.trans h2).sub' (Ai _ _)⟩
 cases hr with
 | agg hc=>
  cases hc with
  | cons k1 t1=>
   cases t1 with
   | cons k2 t2=>
    cases t2
    have hv2:=k2.val_inv
    subst hv2
    refine .agg (.cons (k1.mono hA) (.cons ?_ .nil))
    have hw:Zg (.sl (YM rs) (some (.slice (some ⟨gb,0,none⟩) rs.length c))) (YZ rs):=Zg.forget _ _
    exact hw _ _ _ h3
theorem Rp (v:Value) (k:Nat) (ls ks:List AV) (b o:Nat):Res.fp (.row v k ks) b o=Res.fp (.vec v ls) b o:=by
 cases v with
 | slice a _ _=>cases a<;>rfl
 | _=>rfl
theorem Z77 {w:World} {G:Y9} {v:Value} {ls:List AV} {h2:List Res} (hh:YA w G (.vec v ls::h2)):YA w G (.row v 1 ls::h2)/\YU w G (.vec v ls::h2) w G (.row v 1 ls::h2):=by
 have hpw:=WP.1 hh.apart
 have hf:∀b o,Res.fp (.row v 1 ls) b o->Res.fp (.vec v ls) b o:=fun b o h=>by rw [Rp v 1 ls ls] at h;exact h
 refine ⟨⟨fun r hr=>?_,WP.2 ⟨fun r hr b o f1 f2=>hpw.1 r hr b o (hf b o f1) f2,hpw.2⟩,fun r hr b o f1 hg=>?_,hh.lt⟩,⟨rfl,rfl,rfl,X7 _,fun _ _ h=>h,fun _ _=>.inl rfl,fun _ _ _ h=>.inl h,fun b o _ ⟨r,hr,f1⟩=>?_⟩⟩
 ·rcases YQ.1 hr with rfl|hr
  ·rcases hh.ok _ (Xj ..) with h0|⟨g,cap,cur,e,h0,h1,h3,h4,h5⟩
   ·exact .inl h0
   ·exact .inr ⟨g,ls.length,cap,cur,e,h0,h1,h3,by rw [h4,Kf],by rw [Kf],by rw [Kf];exact h5⟩
  ·exact hh.ok r (XH _ hr)
 ·rcases YQ.1 hr with rfl|hr
  ·exact hh.prot _ (Xj ..) b o (hf b o f1) hg
  ·exact hh.prot r (XH _ hr) b o f1 hg
 ·rcases YQ.1 hr with rfl|hr
  ·exact ⟨_,Xj ..,hf b o f1⟩
  ·exact ⟨r,XH _ hr,f1⟩
theorem IB:∀xs:List Int,Zl (Z8 xs)=Z8 xs
 | []=>rfl
 | x::r=>Yv (AV.i x::·) (IB r)
section
variable {h:List Res}
theorem KL (j:Nat) (v:Hd) (xs:List Int) (hp:Wa [j] h=some [rV v xs]:=by kernel_rfl):UX h (.row v.v 1 (Zl (Z8 xs))::XF [j] h):=by
 have e:Zl (Z8 xs)=Z8 xs:=IB xs
 rw [e]
 intro w G hh
 have hp':=VQ (Vc hp)
 obtain ⟨a,b⟩:=Z77 (hh.perm hp')
 exact ⟨G,a,b.perm hp'.symm (Ts _)⟩
end
def Jn (bs:List Int) (p:Nat) (mx:Int):Int:=
 if mx<1∨bs.length=0 then 0 else if p<bs.length then (bs[p]?).getD 0 % mx else
  TH ((((bs[p % bs.length]?).getD 0*131+(bs[(p*7+3) % bs.length]?).getD 0*1117)+((p*29:Nat):Int))+(((p / bs.length:Nat):Int)*53))
   (((((bs[p % bs.length]?).getD 0*131+(bs[(p*7+3) % bs.length]?).getD 0*1117)+((p*29:Nat):Int))+(((p / bs.length:Nat):Int)*53)) / 64) % mx
theorem Z31 {bs:List Int} {p:Nat} {mx:Int} (h:0<mx):0<=Jn bs p mx/\Jn bs p mx<mx:=by
 rw [Jn]
 split
 ·omega
 ·split
  ·exact ⟨Int.emod_nonneg _ om,Int.emod_lt_of_pos _ h⟩
  ·exact ⟨Int.emod_nonneg _ om,Int.emod_lt_of_pos _ h⟩
theorem Rg {xs:List Z7} {k:Nat} {b:Z7} (h:xs[k]? = some b):Zl (YH (xs.take k))++Zl [Zx b]=Zl (YH (xs.take (k+1))):=by
 rw [WO h,J0,Tx]
 congr 1
 rw [Um];rfl
def Co (s:Z4) (u:Value):List AV:=[.i s.op,.i s.num,.i s.into,Z0 s.args,.val u]
def C9 (b:Z7) (k:Nat):Z4:=(b.steps[k]?).getD (Zi 0 0)
theorem Dx {b:Z7} {k:Nat} {s:Z4} (h:b.steps[k]? = some s):C9 b k=s:=by rw [C9,h];rfl
def Wz (b:Z7) (kk:Nat) (u:Value) (k:Nat):List AV:=if k<=kk then Zl (Zt (b.steps.take k)) else Zl (Zt (b.steps.take kk))++(Co (C9 b kk) u++Zl (Zt ((b.steps.take k).drop (kk+1))))
def Us (b:Z7) (kk k:Nat):List AV:=if k<=kk then [] else Zl (YH (C9 b kk).kids)
theorem Lw {b:Z7} {kk:Nat} {u:Value}:Wz b kk u 0=[]:=by rw [Wz,Zm (QV _),List.take_zero,Vb];rfl
theorem Lz {b:Z7} {kk:Nat}:Us b kk 0=[]:=Zm (QV _)
theorem Gf {b:Z7} {kk k:Nat} {u:Value} (h:k<=b.steps.length):(Wz b kk u k).length=k*5:=by
 rw [Wz]
 split
 ·rw [TR,Wv,Vp h]
 ·rename_i q
  have e:(Co (C9 b kk) u).length=5:=rfl
  rw [Yx,Yx,TR,TR,Ag,Wv,Wv,e,Vp h,Vp om]
  omega
theorem Lu {b:Z7} {kk k:Nat} {u:Value} {s:Z4} (hs:b.steps[k]? = some s) (hk:¬k=kk):Wz b kk u k++Zl [Y4 s]=Wz b kk u (k+1):=by
 have hkl:=(XM.1 hs).1
 by_cases q:k<=kk
 ·rw [Wz,Zm q,Wz,Zm om]
  exact Iz hs
 ·rw [Wz,Zb q,Wz,Zb om,TI,TI]
  congr 2
  rw [WO hs,List.drop_append_of_le_length (by rw [Wv];omega),Wx,Tx]
  congr 1
  rw [Vb];rfl
theorem Lx {b:Z7} {kk k:Nat} (hk:¬k=kk):Us b kk k=Us b kk (k+1):=by
 by_cases q:k<=kk
 ·rw [Us,Zm q,Us,Zm om]
 ·rw [Us,Zb q,Us,Zb om]
theorem Lv {b:Z7} {kk:Nat} {u u2:Value} {s:Z4} (hs:b.steps[kk]? = some s):Wz b kk u kk++Co s u2=Wz b kk u2 (kk+1):=by
 rw [Wz,Zm (X7 _),Wz,Zb om,Dx hs,EB (by rw [Wv];omega),Vb]
 show _=_++(Co s u2++Zl [])
 rw [Rn,Ae]
theorem Ly {b:Z7} {kk:Nat} {s:Z4} (hs:b.steps[kk]? = some s):Zl (YH s.kids)=Us b kk (kk+1):=by
 rw [Us,Zb om,Dx hs]
theorem MX {α:Type}:∀(A X:List α) (m:Nat) (y:α),(A++X).set (A.length+m) y=A++X.set m y
 | [],X,m,y=>by simp
 | a::r,X,m,y=>by
  have:=MX r X m y
  rw [QT,YS,show r.length+1+m=(r.length+m)+1 by omega,List.set_cons_succ,this,QT]
theorem SC {α:Type} (A X:List α) (m:Nat):(A++X)[A.length+m]? = X[m]?:=by
 rw [ED om];congr 1;omega
section
variable {b:Z7} {kk:Nat} {u:Value} {s:Z4}
theorem Ge (hs:b.steps[kk]? = some s):Wz b kk u b.steps.length=Zl (Zt (b.steps.take kk))++(Co s u++Zl (Zt (b.steps.drop (kk+1)))):=by
 have hk:=(XM.1 hs).1
 rw [Wz,Zb om,Dx hs,Vl]
theorem Gd (hs:b.steps[kk]? = some s):(Zl (Zt (b.steps.take kk))).length=kk*5:=by
 have hk:=(XM.1 hs).1
 rw [TR,Wv,Vp om]
theorem Z19 (hs:b.steps[kk]? = some s):(Wz b kk u b.steps.length)[kk*5+4]? = some (.val u):=by
 rw [Ge hs,<-Gd hs,SC];rfl
theorem DR (hs:b.steps[kk]? = some s):((Wz b kk u b.steps.length).drop (kk*5+4)).take 1=[.val u]:=by
 rw [Ge hs,<-Gd hs,<-List.drop_drop,List.drop_left];rfl
theorem Rm {xs:List Z4} {k:Nat} {t:Z4} (hk:k<xs.length):Zl (Zt (xs.set k t))=Zl (Zt (xs.take k))++(Yg t++Zl (Zt (xs.drop (k+1)))):=by
 rw [CR,Zm hk,Wx,Tx,Dt]
theorem Z1a (hs:b.steps[kk]? = some s) (ks:List Z7):(Wz b kk u b.steps.length).set (kk*5+4) (.sl (YH ks) none)=Zl (Zt (b.steps.set kk ⟨s.op,s.num,s.into,s.args,ks⟩)):=by
 have hk:=(XM.1 hs).1
 rw [Ge hs,<-Gd hs,MX,Rm hk];rfl
theorem Gg (hs:b.steps[kk]? = some s):Us b kk b.steps.length=Zl (YH s.kids):=by
 have hk:=(XM.1 hs).1
 rw [Us,Zb om,Dx hs]
theorem Z1b (hs:b.steps[kk]? = some s):b.steps.set kk ⟨s.op,s.num,s.into,s.args,s.kids⟩=b.steps:=by
 have e:Z4.mk s.op s.num s.into s.args s.kids=s:=by cases s;rfl
 rw [e]
 apply List.ext_getElem?
 intro i
 rw [List.getElem?_set]
 split
 ·rename_i q;subst q;rw [Zm (XM.1 hs).1];exact hs.symm
 ·rfl
end
theorem Vr.set:∀(ls:List AV) (p:Nat) {x y:AV},Zg x y->Vr (ls.set p x) (ls.set p y)
 | [],_,_,_,_=>.nil
 | a::r,0,_,_,h=>.cons h (Vr.refl r)
 | a::r,p+1,_,_,h=>.cons (Zg.refl a) (Vr.set r p h)
theorem Vr.len:∀{xs ys:List AV},Vr xs ys->ys.length=xs.length
 | _,_,.nil=>rfl
 | _,_,.cons _ t=>by rw [YS,YS,t.len]
theorem Ro (v:Value) (k:Nat) (ls ks:List AV):Res.fp (.row v k ks)=Res.fp (.row v k ls):=by
 cases v with
 | slice a _ _=>cases a<;>rfl
 | _=>rfl
theorem Z3k {w:World} {G:Y9} {v:Value} {k:Nat} {ls ls':List AV} {h2:List Res} (hle:Vr ls ls') (hh:YA w G (.row v k ls::h2)):YA w G (.row v k ls'::h2)/\YU w G (.row v k ls::h2) w G (.row v k ls'::h2):=by
 have hpw:=WP.1 hh.apart
 have hf:∀b o,Res.fp (.row v k ls') b o->Res.fp (.row v k ls) b o:=fun b o h=>by rw [Ro v k ls ls'] at h;exact h
 refine ⟨⟨fun r hr=>?_,WP.2 ⟨fun r hr b o f1 f2=>hpw.1 r hr b o (hf b o f1) f2,hpw.2⟩,fun r hr b o f1 hg=>?_,hh.lt⟩,⟨rfl,rfl,rfl,X7 _,fun _ _ h=>h,fun _ _=>.inl rfl,fun _ _ _ h=>.inl h,fun b o _ ⟨r,hr,f1⟩=>?_⟩⟩
 ·rcases YQ.1 hr with rfl|hr
  ·rcases hh.ok _ (Xj ..) with ⟨h0,h1⟩|⟨g,len,cap,cur,e,h0,h1,h3,h4,h5,h6⟩
   ·subst h1;cases hle;exact .inl ⟨h0,rfl⟩
   ·exact .inr ⟨g,len,cap,cur,e,h0,h1,h3,h4,by rw [hle.len];exact h5,hle.cs h6⟩
  ·exact hh.ok r (XH _ hr)
 ·rcases YQ.1 hr with rfl|hr
  ·exact hh.prot _ (Xj ..) b o (hf b o f1) hg
  ·exact hh.prot r (XH _ hr) b o f1 hg
 ·rcases YQ.1 hr with rfl|hr
  ·exact ⟨_,Xj ..,hf b o f1⟩
  ·exact ⟨r,XH _ hr,f1⟩
section
variable {h:List Res}
theorem NH (j i:Nat) (b:Z7) (kk:Nat) (s:Z4) (ks:List Z7) (u v:Value) (hs:b.steps[kk]? = some s) (hp:Wa [j,i] h=some [.row u 2 (Zl (YH ks)),.row v 5 (Wz b kk u b.steps.length)]:=by kernel_rfl) :
  UX h (.row v 5 (Zl (Zt (b.steps.set kk ⟨s.op,s.num,s.into,s.args,ks⟩)))::.tail u 2::XF [j,i] h):=by
 intro w G hh
 obtain ⟨G',a1,a2⟩:=Z6o j i (kk*5+4) hp (T0 ks) om (Z19 hs) w G hh
 obtain ⟨b1,b2⟩:=Z3k (Vr.set _ (kk*5+4) (Zg.forget (YH ks) (some u))) a1
 rw [Z1a hs] at b1 b2
 exact ⟨G',b1,a2.trans b2⟩
theorem H6 (j i:Nat) (b:Z7) (kk:Nat) (s:Z4) (u v:Value) (hs:b.steps[kk]? = some s) (hp:Wa [j,i] h=some [.row u 2 (Us b kk b.steps.length),.row v 5 (Wz b kk u b.steps.length)]:=by kernel_rfl) :
  UX h (.row v 5 (Zl (Zt b.steps))::.tail u 2::XF [j,i] h):=by
 have Y0:Wa [j,i] h=some [.row u 2 (Zl (YH s.kids)),.row v 5 (Wz b kk u b.steps.length)]:=by rw [hp,Gg hs]
 have:=NH j i b kk s s.kids u v hs Y0
 rwa [Z1b hs] at this
end
theorem Iy {xs:List Z4} {k:Nat} (hk:k<xs.length):(Zl (Zt xs)).take (k*5)++(Zl (Zt xs)).drop ((k+1)*5)=Zl (Zt (xs.take k++xs.drop (k+1))):=by
 have h1:(Zl (Zt (xs.take k))).length=k*5:=by rw [TR,Wv,Vp om]
 have h2:(Zl (Zt (xs.take (k+1)))).length=(k+1)*5:=by rw [TR,Wv,Vp om]
 have e1:Zl (Zt xs)=Zl (Zt (xs.take k))++Zl (Zt (xs.drop k)):=by rw [<-Tx,<-Wx,Uy]
 have e2:Zl (Zt xs)=Zl (Zt (xs.take (k+1)))++Zl (Zt (xs.drop (k+1))):=by rw [<-Tx,<-Wx,Uy]
 rw [Wx,Tx]
 congr 1
 ·rw [e1,<-h1,KN]
 ·conv=>lhs;rw [e2,<-h2,List.drop_left]
theorem Rf {xs:List Z7} {i:Nat} {s:Z7} (h:xs[i]? = some s):((Zl (YH xs)).drop (i*2)).take 2=Yn s:=by
 have hi:=(XM.1 h).1
 have h1:(Zl (YH (xs.take i))).length=i*2:=by rw [C8,Wv,Vp om]
 have e1:Zl (YH xs)=Zl (YH (xs.take i))++Zl (YH (xs.drop i)):=by rw [<-Tx,<-J0,Uy]
 rw [e1,<-h1,List.drop_left,Yb h,Um,Uh]
 rfl
section
variable {rs:List Yf} {k:Nat} {r:Yf}
theorem FE (hk:k<rs.length) (r:Yf):Zl (YM (rs.set k r))=Zl (YM (rs.take k))++((WZ r).leaves++Zl (YM (rs.drop (k+1)))):=by
 rw [CR,Zm hk,Aw,Tx];rfl
theorem Ix (hk:k<rs.length):(Zl (YM (rs.take k))).length=k*5:=by rw [Ds,Wv,Vp om]
theorem Rj (hk:k<rs.length) (r:Yf):((Zl (YM (rs.set k r))).drop (k*5+1)).take 1=[Z0 r.lent]:=by
 rw [FE hk,<-Ix hk,<-List.drop_drop,List.drop_left];rfl
theorem Rl (hk:k<rs.length) (r:Yf) (l:List Int):(Zl (YM (rs.set k r))).take (k*5+1)++[Z0 l]++(Zl (YM (rs.set k r))).drop (k*5+1+1)=Zl (YM (rs.set k ⟨r.params,l,r.result,r.body⟩)):=by
 have hl:=Ix hk
 rw [FE hk,FE hk]
 have e:(WZ r).leaves=[Z0 r.params]++([Z0 r.lent]++[.i r.result,.sl (Zt r.body.steps) none,.i r.body.result]):=rfl
 have e2:(WZ ⟨r.params,l,r.result,r.body⟩).leaves=[Z0 r.params]++([Z0 l]++[.i r.result,.sl (Zt r.body.steps) none,.i r.body.result]):=rfl
 rw [e,e2]
 have q:=GH (A:=Zl (YM (rs.take k))++[Z0 r.params]) (xs:=[Z0 r.lent]) (ys:=[Z0 l]) (B:=[.i r.result,.sl (Zt r.body.steps) none,.i r.body.result]++Zl (YM (rs.drop (k+1)))) (o:=k*5+1) (by rw [Yx,hl];rfl) rfl
 simpa [TI] using q
end
end Go.Abs
