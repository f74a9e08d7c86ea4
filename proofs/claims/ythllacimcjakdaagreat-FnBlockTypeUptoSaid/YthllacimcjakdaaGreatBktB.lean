/-
  A part of the proof of FnBlockTypeUptoSaid (see the last file): no condition.
-/
import Derived.Test.YthllacimcjakdaaGreatBktA
import Derived.Test.YthllacimcjakdaaGreatRows
import Derived.Deep.Slices
import Derived.ChangeArms
set_option linter.all false
set_option linter.unusedVariables false
set_option linter.unusedSimpArgs false
set_option linter.unusedSectionVars false
set_option maxRecDepth 10000
set_option maxHeartbeats 4000000
section
namespace Go.Abs
theorem Yy.rgrow {w:World} {G:Ya} {h2:List Res} {g len len' cap k:Nat} {ls ls':List AV} (hh:Yy w G (.row (.slice (some ⟨g,0,none⟩) len cap) k ls::h2)) {cs cs':Array Value} {e:TypeId}
  (hb:w.heap[g]? = some (.cells cs e (0,0))) (XA:cs'.size=cs.size) (hle:len'<=cap) (hcap:cs.size=cap*k) (hl:ls'.length=len'*k) (hls:YO w G ls' (cs'.toList.take (len'*k))) :
  Yy (w.setRow g cs') G (.row (.slice (some ⟨g,0,none⟩) len' cap) k ls'::h2) /\
   YT w G (.row (.slice (some ⟨g,0,none⟩) len cap) k ls::h2) (w.setRow g cs') G (.row (.slice (some ⟨g,0,none⟩) len' cap) k ls'::h2):=by
 have hmem:Res.row (.slice (some ⟨g,0,none⟩) len cap) k ls∈Res.row (.slice (some ⟨g,0,none⟩) len cap) k ls::h2:=Xe ..
 have hA:Vp G w (w.setRow g cs') G:=⟨fun c j hg=>by
  have hne:c≠g:=fun he=>hh.prot _ hmem c j he hg
  simp [World.cell?,Vi w g c cs' hne],fun _ _ h=>h⟩
 have e1:YT w G [.row (.slice (some ⟨g,0,none⟩) len cap) k ls] (w.setRow g cs') G [.row (.slice (some ⟨g,0,none⟩) len' cap) k ls']:=by
  refine ⟨rfl,rfl,rfl,by simp [World.setRow],fun _ _ h=>h,?_,fun _ _ _ h=>.inl h,?_⟩
  ·intro c hc
   by_cases hcb:c=g
   ·subst hcb
    exact .inr ⟨cs,cs',e,(0,0),hb,setRow_heap w c cs cs' e (0,0) hb,XA,fun j hj=>absurd ⟨_,Xe ..,rfl⟩ hj⟩
   ·exact .inl (Vi w g c cs' hcb)
  ·rintro c j _ ⟨r,hr,hf⟩
   rw [XJ.1 hr] at hf
   exact ⟨_,Xe ..,hf⟩
 have e2:Yy (w.setRow g cs') G [.row (.slice (some ⟨g,0,none⟩) len' cap) k ls']:=by
  refine ⟨fun r hr=>?_,BT _ _,fun r hr c j hf hg=>?_,fun c j hg=>?_⟩
  ·rw [XJ.1 hr]
   exact .inr ⟨g,len',cap,cs',e,rfl,setRow_heap w g cs cs' e (0,0) hb,hle,XA.trans hcap,hl,hls.mono hA⟩
  ·rw [XJ.1 hr] at hf
   exact hh.prot _ hmem c j hf hg
  ·have:=hh.lt c j hg
   simpa [World.setRow] using this
 exact Yy.frame (h:=[.row (.slice (some ⟨g,0,none⟩) len cap) k ls]) (k:=h2) hh e1 e2
section
variable {P:Program} {n:Nat} {ops:Array Oper} {k:Nat} {F:Fr} {h2:List Res}
theorem Mj {K:Fr->List Res->Prop} {v:Hd} {sz m:Nat} {ls xs:List AV} {hx:Option Value} (hd:WZ n (ZC ops k)=true) (ha:VV P ops F k=some (.val v.v,.sl xs hx,sz))
  (hxs:∀y∈xs,y.leaves.length=sz) (hone:(Zl xs).all AV.one=true) (hm0:ls.length=m*sz) (hk0:0<sz) (hne:xs≠[]) (hbound:m+xs.length<=4294967296)
  (hK:∀v':Hd,K (F.put (ZC ops k).dst (.val v'.v)) (.row v'.v sz (ls++Zl xs)::h2)):Wi P n (ZC ops k) F (.row v.v sz ls::h2) K:=by
 unfold VV at ha
 generalize hoo:ZC ops k=o at ha hd hK
 obtain ⟨dst,op,type,pos,after,guard⟩:=o
 cases op<;>simp only at ha<;>try (cases ha)
 rename_i c
 obtain ⟨callee,args,tys⟩:=c
 simp only at ha
 split at ha
 case h_2=>cases ha
 rename_i s x t t' hargs htys
 split at ha
 case h_2=>cases ha
 rename_i e htt ht
 have:=VT htt
 subst this
 split at ha
 case h_2=>cases ha
 rename_i i hinfo
 split at ha
 case h_2=>cases ha
 rename_i z hz
 split at ha
 case h_2=>cases ha
 rename_i hb
 simp only [XQ] at hb
 simp only [XX,Prod.mk.injEq] at ha
 obtain ⟨h3,h4,hk1⟩:=ha
 have e1:args=#[s,x]:=by rw [<-VI (xs:=args),hargs]
 have e2:tys=#[t,t]:=by rw [<-VI (xs:=tys),htys]
 subst e1;subst e2
 have hzs:z.cells.size=sz:=by rw [VT hb.1,hk1]
 have hby:=WF hb.2
 have hfl:=UR xs hxs
 intro Q w G a hF hh
 have v1:=hF.ev s
 have v2:=hF.ev x
 rw [h3] at v1
 rw [h4] at v2
 have v1:=v1.val_inv
 have v2:=v2.forget
 have finish:∀(v':Hd) w',(Builtin.append_ #[t,t] type #[v.v,a.eval x]).run P w=.ok v'.v w'->Yy w' G (.row v'.v sz (ls++Zl xs)::h2)->YT w G (.row v.v sz ls::h2) w' G (.row v'.v sz (ls++Zl xs)::h2) ->
   ({ dst:=dst,op:=.call { callee:=.builtin .append,args:=#[s,x],argTypes:=#[t,t] },type:=type,pos:=pos,after:=after,guard:=guard }:Oper).wp P a w
    (fun a' w'=>∃F' h' G',K F' h'/\FR w' G' n F' a'/\Yy w' G' h'/\YT w G (.row v.v sz ls::h2) w' G' h') Q:=by
  intro v' w' hr j1 j2
  have hrun:(execOp a.eval { dst:=dst,op:=.call { callee:=.builtin .append,args:=#[s,x],argTypes:=#[t,t] },type:=type,pos:=pos,after:=after,guard:=guard }).run P w=.ok (.value v'.v) w':=by
   simp only [execOp,resolve,invoke,builtin,Sem.run_bind,Sem.run_pure,Result.andThen_ok,B5,Ug,B4,v1,hr]
  unfold Oper.wp
  rw [hrun]
  exact ⟨_,_,G,hK v',(hF.mono (j2.agree hh)).put (U6 hd) .val,j1,j2⟩
 have hrow0:=hh.ok (.row v.v sz ls) (Xe ..)
 have hsub2:∀r:Res,List.Sublist (r::h2) (r::.row v.v sz ls::h2):=fun r=>List.Sublist.cons_cons _ (An _ _)
 have grown:∀(olds news:List Value) (old:Nat),YO w G ls olds->YO w G (Zl xs) news ->
   Yy (w.drew.alloc (.cells (olds.toArray++news.toArray++Builtin.zeroCells z.cells (grownCap w (m+xs.length) old e-(m+xs.length))) e)) G
    (.row (.slice (some ⟨w.heap.size,0,none⟩) (m+xs.length) (grownCap w (m+xs.length) old e)) sz (ls++Zl xs)::h2) /\
   YT w G (.row v.v sz ls::h2) (w.drew.alloc (.cells (olds.toArray++news.toArray++Builtin.zeroCells z.cells (grownCap w (m+xs.length) old e-(m+xs.length))) e)) G
    (.row (.slice (some ⟨w.heap.size,0,none⟩) (m+xs.length) (grownCap w (m+xs.length) old e)) sz (ls++Zl xs)::h2):=by
  intro olds news old ho hn
  have X3:=grownCap_ge w (m+xs.length) old e
  have hol:=ho.length
  have hnl:=hn.length
  have hlen:(ls++Zl xs).length=(m+xs.length)*sz:=by rw [Yu,hm0,hfl,Tw]
  obtain ⟨j1,j2⟩:=hh.drew.alloc_rrow (olds.toArray++news.toArray++Builtin.zeroCells z.cells (grownCap w (m+xs.length) old e-(m+xs.length))) e
   (ls:=ls++Zl xs) (len:=m+xs.length) (cap:=grownCap w (m+xs.length) old e) (k:=sz) X3
   (by
    have q2:(grownCap w (m+xs.length) old e-(m+xs.length))*sz=grownCap w (m+xs.length) old e*sz-(m+xs.length)*sz:=Nat.sub_mul ..
    have q3:(m+xs.length)*sz<=grownCap w (m+xs.length) old e*sz:=TM _ X3
    have q4:(m+xs.length)*sz=m*sz+xs.length*sz:=Tw ..
    simp only [Array.size_append,BU,size_zeroCells,hzs,hol,hnl,hm0,hfl]
    omega) hlen
   (by
    have:(olds.toArray++news.toArray++Builtin.zeroCells z.cells (grownCap w (m+xs.length) old e-(m+xs.length))).toList.take ((m+xs.length)*sz)=olds++news:=by
     simp only [BR]
     rw [<-hlen,Yu,<-hol,<-hnl,<-Yu]
     exact KO
    rw [this]
    exact (ho.append hn).mono (JH w G))
  exact ⟨j1.sub (hsub2 _),(YT.drew w G _).trans (j2.sub' (hsub2 _))⟩
 generalize hax:a.eval x=ax at v2 finish
 cases v2 with
 | nil _=>exact absurd rfl hne
 | sl hq hcc hm=>
  rename_i b o' k' c
  have hpos:0<xs.length:=EL.2 hne
  have hfm:=hm.flat_mem
  obtain ⟨news,hn,hnc⟩:=hfm.cells
  have hnl:news.length=xs.length*i.size:=by rw [hn.length,hfl,hk1]
  have hone':=hn.one_cells hone
  have hnews:∀j u,news[j]? = some u->w.cell? ((⟨b,o',none⟩:Addr).add j)=some u:=fun j u hj=>by rw [Qv];exact (hnc j u hj).1
  have hbb:(m+xs.length)*i.bytes<=140737488355328:=by
   have:=Nat.mul_le_mul hbound hby
   omega
  rcases hrow0 with ⟨hv0,hl0⟩|⟨g,len,cap,cur,el,hv0,hrow,hlc,hcur,hll,hcells⟩
  ·subst hl0
   have hm1:m=0:=by
    have:m*sz=0:=by simpa using hm0.symm
    rcases Nat.mul_eq_zero.1 this with h|h
    ·exact h
    ·omega
   subst hm1
   rw [hv0] at finish hh ⊢
   have hr:=run_append_nil (P:=P) w t type e i z ht hinfo hz ⟨b,o',none⟩ xs.length c news hnl hnews hpos om (by simp only [WL] at hbb;omega)
   obtain ⟨j1,j2⟩:=grown [] news 0 .nil hn
   simp only [WL,Array.empty_append,B6] at j1 j2
   rw [hv0] at j2
   exact finish ⟨some ⟨w.heap.size,0,none⟩,xs.length,grownCap w xs.length 0 e⟩ _ hr (by simpa using j1) (by simpa using j2)
  ·have hlm:len=m:=EN hk0 (hll.symm.trans hm0)
   subst hlm
   rw [hv0] at finish hh ⊢
   have q5:len*sz<=cap*sz:=TM _ hlc
   have h1:(cur.toList.take (len*sz)).length=len*sz:=by rw [Wv,Qn,hcur,Vo q5]
   have hcl:cur.toList.length=cap*sz:=by rw [Qn,hcur]
   by_cases hroom:len+xs.length<=cap
   ·have q1:(len+xs.length)*sz<=cap*sz:=TM _ hroom
    have q2:(len+xs.length)*sz=len*sz+xs.length*sz:=Tw ..
    have hfit:len*i.size+news.length<=cur.size:=by rw [hnl,hcur,hk1];omega
    have hr:=Ej (P:=P) w t type e el i ht hinfo g len cap cur hrow ⟨b,o',none⟩ xs.length c news hnl hnews hone' hroom hfit
    rw [hk1] at hr
    have hnl':news.length=xs.length*sz:=by rw [hnl,hk1]
    obtain ⟨j1,j2⟩:=hh.rgrow (ls':=ls++Zl xs) (len':=len+xs.length) (cs':=(cur.toList.take (len*sz)++news++cur.toList.drop (len*sz+news.length)).toArray) hrow
     (by simp only [BU,Yu,h1,hnl',Al,hcl,hcur];omega) hroom hcur (by rw [Yu,hll,hfl,q2]) (by
      have:(cur.toList.take (len*sz)++news++cur.toList.drop (len*sz+news.length)).toArray.toList.take ((len+xs.length)*sz)=cur.toList.take (len*sz)++news:=by
       rw [BV,q2,<-hnl']
       conv=>lhs;arg 1;rw [show len*sz+news.length=(cur.toList.take (len*sz)++news).length from by rw [Yu,h1]]
       exact KO
      rw [this]
      exact hcells.append hn)
    exact finish ⟨some ⟨g,0,none⟩,len+xs.length,cap⟩ _ hr j1 j2
   ·have hr:=run_append_grow (P:=P) w t type e i z ht hinfo hz ⟨g,0,none⟩ len cap (cur.toList.take (len*sz)) (by rw [hk1];exact h1) (fun j u hj=>by
     rw [Qv,cell_of_row w g _ cur el (0,0) hrow]
     rw [Q3] at hj
     split at hj
     ·simpa using hj
     ·cases hj) ⟨b,o',none⟩ xs.length c news hnl hnews om om (growslice_fits om hbb)
    obtain ⟨j1,j2⟩:=grown (cur.toList.take (len*sz)) news cap hcells hn
    rw [hv0] at j2
    exact finish ⟨some ⟨w.heap.size,0,none⟩,len+xs.length,grownCap w (len+xs.length) cap e⟩ _ hr j1 j2
end
section
variable {P:Program} {n:Nat} {ops:Array Oper} {B:Fr->List Res->Prop} {k:Nat} {F:Fr} {h:List Res}
theorem DO (j m:Nat) (v:Hd) (sz:Nat) (ls xs:List AV) (hx:Option Value) (hm0:ls.length=m*sz) (hxs:∀y∈xs,y.leaves.length=sz) (hone:(Zl xs).all AV.one=true) (hne:xs≠[]) (hbound:m+xs.length<=4294967296)
  (hK:∀v':Hd,SI P n ops B (k+1) (F.put (ZC ops k).dst (.h v')) (rK v' sz (ls++Zl xs)::XF [j] h)) (hk0:0<sz:=by omega)
  (hk:X1 n ops F k=true:=by kernel_rfl) (ha:VV P ops F k=some (.h v,.sl xs hx,sz):=by kernel_rfl) (hp:Wa [j] h=some [rK v sz ls]:=by kernel_rfl):SI P n ops B k F h:=
 T8 hk (Wi.perm (VQ (V9 hp)) (Mj (Vm hk).2.1 ha hxs hone hm0 hk0 hne hbound hK))
end
end Go.Abs
namespace Go.Abs
section
variable {P:Program} {n:Nat} {ops:Array Oper} {B:Fr->List Res->Prop} {T:List (Nat × List Nat)} {fuel:Nat} {done:List Nat} {F:Fr} {h:List Res}
theorem Fh (i j m:Nat) (js bs:List Nat) (v:Hd) (sz:Nat) (ls xs:List AV) (hx:Option Value) (hm0:ls.length=m*sz) (hxs:∀y∈xs,y.leaves.length=sz) (hone:(Zl xs).all AV.one=true) (hne:xs≠[]) (hbound:m+xs.length<=4294967296)
  (hK:∀v':Hd,YK P n ops B (T.filter fun t=>!WA ops i t.1) fuel (done++[i]) (F.put (ZC ops i).dst (.h v')) (rK v' sz (ls++Zl xs)::XF [j] h)) (hk0:0<sz:=by omega) (hk:X1 n ops F i=true:=by kernel_rfl)
  (ha:VV P ops F i=some (.h v,.sl xs hx,sz):=by kernel_rfl) (hp:Wa [j] h=some [rK v sz ls]:=by kernel_rfl) (ho:Vu ops i T=bs:=by kernel_rfl)
  (hj:js.map (fun q=>(Wk (XF [j] h))[q]?)=bs.map some:=by kernel_rfl):WY P n ops B T fuel done F h i:=
 Qa [j] js bs hk (V9 hp) ho hj (Mj (h2:=[]) (Vm hk).2.1 ha hxs hone hm0 hk0 hne hbound hK)
end
theorem Zj.form {P:Program} {f:FuncId} {as1:List AV} {h0:List Res} {T:Hd->AV} {kk m:Nat} {ls:List AV} {hs:List Res} (H:Zj P f as1 h0 (fun r h=>∃v:Hd,r=T v/\h=rK v kk ls::hs)) (hm:ls.length=m*kk) (hk:0<kk) (h1:0<m) :
  Zj P f as1 h0 (fun r h=>∃(g c:Nat),r=T ⟨some ⟨g,0,none⟩,m,c⟩/\h=rK ⟨some ⟨g,0,none⟩,m,c⟩ kk ls::hs):=by
 intro w G vs hv hh
 refine (H w G vs hv hh).mono ?_
 rintro e w' ⟨u,r,h',G',he,⟨v,rfl,rfl⟩,hr,hh',hx⟩
 obtain ⟨g,c,rfl⟩:=MK (hh'.ok _ (Xe ..)) hm hk h1
 exact ⟨u,_,_,G',he,⟨g,c,rfl,rfl⟩,hr,hh',hx⟩
end Go.Abs
namespace Go.Abs
section
variable {h:List Res}
theorem Z6r (j i p:Nat) {u:Value} {kk b:Nat} {es ls:List AV} (hp:Wa [j,i] h=some [.row u kk (Zl es),.obj b ls]) (hes:∀y∈es,y.leaves.length=kk) (hk:0<kk) (hl:ls[p]? = some (.val u)) :
  UY h (.obj b (ls.set p (.sl es (some u)))::.tail u kk::XF [j,i] h):=by
 intro w G hh
 have hp':=VQ (V9 hp)
 have hh':=hh.perm hp'
 obtain ⟨G',h1,h2',h3⟩:=BK (h2:=.obj b ls::XF [j,i] h) hh' hes hk
 have e:=h2'.perm hp'.symm (Tv _)
 have h1:Yy w G' (.tail u kk::.obj b ls::XF [j,i] h):=h1
 have perm:(Res.tail u kk::.obj b ls::XF [j,i] h).Perm (.obj b ls::.tail u kk::XF [j,i] h):=List.Perm.swap ..
 have h4:=h1.perm perm
 have e4:=e.perm (Tv _) perm
 have hset:∀{w:World} {G:Ya},RV w G (.sl es (some u)) u->TN w G (.obj b ls)->TN w G (.obj b (ls.set p (.sl es (some u)))):=by
  intro w G hu hr
  obtain ⟨cs,el,k1,k5⟩:=hr
  refine ⟨cs,el,k1,?_⟩
  obtain ⟨c,c1,c2⟩:=k5.get p _ hl
  have:=c2.val_inv
  subst this
  have h6:=k5.set p hu
  rwa [show cs.toList.set p c=cs.toList from by
   apply List.ext_getElem?
   intro q
   rw [List.getElem?_set]
   split
   ·rename_i hq;subst hq;split
    ·exact c1.symm
    ·rename_i hq2;rw [O5 om]
   ·rfl] at h6
 refine ⟨G',⟨fun r hr=>?_,?_,fun r hr=>?_,h4.lt⟩,⟨e4.os,e4.tape,e4.output,e4.size,e4.sub,e4.same,e4.newG,fun b' o hb ⟨r,hr,hf⟩=>e4.newfp b' o hb ?_⟩⟩
 ·rcases YP.1 hr with rfl|hr
  ·exact hset h3 (h4.ok _ (Xe ..))
  ·exact h4.ok r (XC _ hr)
 ·have:=WR.1 h4.apart
  exact WR.2 ⟨fun r hr b' o f1 f2=>this.1 r hr b' o f1 f2,this.2⟩
 ·rcases YP.1 hr with rfl|hr
  ·exact fun b' o f1 hg=>h4.prot (.obj b ls) (Xe ..) b' o f1 hg
  ·exact h4.prot r (XC _ hr)
 ·rcases YP.1 hr with rfl|hr
  ·exact ⟨.obj b ls,Xe ..,hf⟩
  ·exact ⟨r,XC _ hr,hf⟩
theorem Ux (j i p:Nat) (u:Value) (kk b:Nat) (es ls:List AV) (hes:∀y∈es,y.leaves.length=kk) (hl:ls[p]? = some (.val u)) (hk:0<kk:=by omega) (hp:Wa [j,i] h=some [.row u kk (Zl es),.obj b ls]:=by kernel_rfl) :
  UY h (.obj b (ls.set p (.sl es (some u)))::.tail u kk::XF [j,i] h):=Z6r j i p hp hes hk hl
end
end Go.Abs
namespace Go.Abs
section
variable {P:Program} {n:Nat} {ops:Array Oper} {k:Nat} {F:Fr} {h:List Res}
theorem Z6a (j:Nat) {g l c m kk:Nat} {ls:List AV} (hi:BO P ops F k=some (.val (.slice (some ⟨g,0,none⟩) l c),(m:Int))) (hj:h[j]? = some (.row (.slice (some ⟨g,0,none⟩) l c) kk ls)) (hle:m<=l) :
  XD P (ZC ops k) F h [] (.val (.slice (some ⟨g,0,none⟩) m c)):=by
 unfold BO at hi
 generalize hoo:ZC ops k=o at hi
 obtain ⟨dst,op,type,pos,after,guard⟩:=o
 cases op<;>simp only at hi<;>try (cases hi)
 rename_i t x lo hi' mx
 cases lo with
 | some _=>simp at hi
 | none=>
  cases hi' with
  | none=>simp at hi
  | some y=>
   cases mx with
   | some _=>simp at hi
   | none=>
    simp only at hi
    split at hi
    ·rename_i e ht
     split at hi
     ·rename_i inf hinf
      split at hi
      ·rename_i ik m' hm
       simp only [XX,Prod.mk.injEq] at hi
       obtain ⟨hx,rfl⟩:=hi
       intro n w G a hF hh
       have v1:=hF.ev x
       rw [hx] at v1
       have v1:=v1.val_inv
       have v2:=hF.ev y
       rw [hm] at v2
       have v2:=v2.val_inv
       have hcap:l<=c:=by
        rcases hh.ok _ (Y6 hj) with ⟨h0,_⟩|⟨g',l',c',cur,el,h0,_,hc,_⟩
        ·cases h0
        ·cases h0;exact hc
       refine ⟨_,.val,fun w' _ _=>?_⟩
       simp only [execOp,v1,v2,Ao,Option.map_none]
       refine Va ?_
       simp only [Instr.sliceAt,Sem.run_bind,VG ht,Result.andThen_ok,Instr.slice]
       have hmm:(Instr.sliceBounds true l c none (some (.int ik (m:Int))) none).run P w'=.ok (0,m,c) w':=by
        have Zv:=fun q=>BM (P:=P) (c:=q) (v:=.int ik (m:Int)) (y:=c) rfl om om w'
        simp [Instr.sliceBounds,Zv]
       rw [hmm]
       have hz:∀a:Addr,a.add 0=a:=fun a=>by simp [Addr.add]
       simp only [Result.andThen_ok,TD hinf,Nat.zero_mul,hz]
       by_cases h0:c=0<;>simp [h0]
      ·cases hi
     ·cases hi
    ·cases hi
theorem Gj (j g l c m kk:Nat) (ls:List AV) (hle:m<=l:=by omega) (hi:BO P ops F k=some (.val (.slice (some ⟨g,0,none⟩) l c),(m:Int)):=by kernel_rfl) (hj:h[j]? = some (.row (.slice (some ⟨g,0,none⟩) l c) kk ls):=by kernel_rfl) :
  XD P (ZC ops k) F h [] (.val (.slice (some ⟨g,0,none⟩) m c)):=Z6a j hi hj hle
variable {B:Fr->List Res->Prop}
end
end Go.Abs
end
namespace Go.Abs
theorem Yb {α:Type} {xs:List α} {k:Nat} {x:α} (h:xs[k]? = some x):xs.drop k=x::xs.drop (k+1):=by
 have hk:=(XG.1 h).1
 rw [O4 hk]
 congr 1
 rw [Jv hk] at h
 exact Jy h
theorem Xz {α:Type} {xs:List α} {k:Nat} (h:xs.length<=k):xs.drop k=[]:=EI h
theorem WQ {α:Type} {xs:List α} {k:Nat} {x:α} (h:xs[k]? = some x):xs.take (k+1)=xs.take k++[x]:=by
 rw [List.take_add_one,h];rfl
def Yq:List Zf->Nat
 | []=>0
 | d::ds=>d.cons.length+Yq ds
theorem C4 (xs ys:List Zf):Yq (xs++ys)=Yq xs+Yq ys:=by
 induction xs with
 | nil=>simp [Yq]
 | cons d ds ih=>simp [Yq,ih];omega
structure Wd (ds:List Zf):Prop where
 len:ds.length<=4
 cons:∀d∈ds,d.cons.length<=3
 fields:∀d∈ds,∀c∈d.cons,c.fields.length<=3
theorem Pg {ds:List Zf} {m:Nat} (h:∀d∈ds,d.cons.length<=m):Yq ds<=ds.length*m:=by
 induction ds with
 | nil=>simp [Yq]
 | cons d ds ih=>
  have h1:=h d (by simp)
  have h2:=ih (fun x hx=>h x (by simp [hx]))
  simp only [Yq,YQ,Tw];omega
theorem Wd.sum {ds:List Zf} (h:Wd ds):Yq ds<=12:=by
 have:=Pg h.cons
 have:=h.len
 have:ds.length*3<=4*3:=TM 3 h.len
 omega
theorem Wd.take {ds:List Zf} (h:Wd ds) (k:Nat):Wd (ds.take k):=
 ⟨by have:=h.len;simp;omega,fun d hd=>h.cons d (TL hd),fun d hd=>h.fields d (TL hd)⟩
theorem Wd.cons_at {ds:List Zf} (h:Wd ds) {k:Nat} {d:Zf} (hd:ds[k]? = some d):d.cons.length<=3:=h.cons d (Y6 hd)
theorem Wd.fields_at {ds:List Zf} (h:Wd ds) {k j:Nat} {d:Zf} {c:Y4} (hd:ds[k]? = some d) (hc:d.cons[j]? = some c):c.fields.length<=3:=
 h.fields d (Y6 hd) c (Y6 hc)
def Uj (c:Int):List Zf->Nat->Nat->Int × List Int
 | [],_,_=>(-1,[])
 | d::ds,i,first=>
  if (first:Int)<=c/\c<=((first+d.cons.length:Nat):Int)-1 then ((i:Int)+1,(d.cons[(c-first).toNat]?.map (·.fields)).getD []) else Uj c ds (i+1) (first+d.cons.length)
def Xj (ds:List Zf) (c:Int):Int:=(Uj c ds 0 0).1
def Zw (ds:List Zf) (c:Int):List Int:=(Uj c ds 0 0).2
theorem Di {c:Int}:∀{ds:List Zf} {i first:Nat},(Uj c ds i first=(-1,[]) ∨
  ∃k d x,ds[k]? = some d/\(first+Yq (ds.take k):Int)<=c/\c<first+Yq (ds.take k)+d.cons.length/\d.cons[(c-(first+Yq (ds.take k))).toNat]? = some x/\Uj c ds i first=((i:Int)+k+1,x.fields))
 | [],_,_=>.inl rfl
 | d::ds,i,first=>by
  rw [Uj]
  split
  ·rename_i h
   have hlt:(c-first).toNat<d.cons.length:=by omega
   refine .inr ⟨0,d,d.cons[(c-first).toNat],rfl,by simp [Yq];omega,by simp [Yq];omega,?_,?_⟩
   ·simp [Yq]
   ·rw [Jv hlt];simp
  ·rcases Di (c:=c) (ds:=ds) (i:=i+1) (first:=first+d.cons.length) with h|⟨k,e,x,h1,h2,h3,h4,h5⟩
   ·exact .inl h
   ·refine .inr ⟨k+1,e,x,by simpa using h1,by simp [Yq];omega,by simp [Yq];omega,?_,?_⟩
    ·rw [<-h4];congr 3;simp [Yq];omega
    ·rw [h5];congr 1;omega
theorem Dj {ds:List Zf} {c:Int} (h:¬Xj ds c<1) :
  ∃k d x,ds[k]? = some d/\(Yq (ds.take k):Int)<=c/\d.cons[(c-Yq (ds.take k)).toNat]? = some x/\Xj ds c=(k:Int)+1/\Zw ds c=x.fields:=by
 rcases Di (c:=c) (ds:=ds) (i:=0) (first:=0) with h1|⟨k,d,x,h1,h2,_,h4,h5⟩
 ·simp [Xj,h1] at h
 ·exact ⟨k,d,x,h1,by simpa using h2,by simpa using h4,by simp [Xj,h5],by simp [Zw,h5]⟩
theorem C5 {ds:List Zf} {c:Int} (h:Xj ds c<1):Zw ds c=[]/\Xj ds c=-1:=by
 rcases Di (c:=c) (ds:=ds) (i:=0) (first:=0) with h1|⟨k,d,x,h1,h2,_,h4,h5⟩
 ·simp [Zw,Xj,h1]
 ·simp [Xj,h5] at h;omega
def Wt (first:Int):Nat->List Int
 | 0=>[]
 | n+1=>first::Wt (first+1) n
theorem M7 (first:Int) (n:Nat):Wt first (n+1)=Wt first n++[first+n]:=by
 induction n generalizing first with
 | zero=>simp [Wt]
 | succ n ih=>rw [Wt,ih (first+1),Wt];simp;omega
@[simp] theorem Z2d (first:Int) (n:Nat):(Wt first n).length=n:=by
 induction n generalizing first with
 | zero=>rfl
 | succ n ih=>simp [Wt,ih]
def Zu (ds:List Zf) (t:Int):List Int:=
 if 1<=t/\t<=ds.length then Wt (Yq (ds.take (t-1).toNat)) (((ds[(t-1).toNat]?).map (·.cons.length)).getD 0) else []
def Tk (frm to_:Int):List Zf->Nat->Int
 | [],_=>-1
 | d::ds,i=>if d.cons.length=0/\d.frm=frm/\d.to_=to_ then (i:Int)+1 else Tk frm to_ ds (i+1)
def WM (ds:List Zf) (frm to_:Int):Int:=Tk frm to_ ds 0
def X0 (ds:List Zf) (t:Int):Bool:=decide (1<=t/\t<=ds.length)&&((ds[(t-1).toNat]?).map fun d=>decide (d.cons.length=0)).getD false
theorem DV {ds:List Zf} {t:Int} {x:Zf} (h:1<=t/\t<=ds.length) (hx:ds[(t-1).toNat]? = some x):((x.cons.length:Int)==0)=X0 ds t:=by
 rw [X0,hx,Xo];simp [h]
theorem Ge {ds:List Zf} {t:Int} (h:¬(1<=t/\t<=ds.length)):false=X0 ds t:=by
 rw [X0,Xo];simp only [Bool.false_eq_true,XQ,decide_eq_true_eq,h,false_and]
def YZ (m:Nat) (xs:List Int):Bool:=xs.all fun t=>decide (0<=t/\t<=m)
end Go.Abs
section
namespace Go.Abs
section
variable {h:List Res}
end
end Go.Abs
namespace Go.Abs
section
variable {P:Program} {ops:Array Oper} {k:Nat} {F:Fr} {h:List Res}
end
end Go.Abs
end
namespace Go.Abs
section
variable {P:Program} {n:Nat} {ops:Array Oper} {B:Fr->List Res->Prop} {k:Nat} {F:Fr} {h:List Res} {T:List (Nat × List Nat)} {fuel:Nat} {done:List Nat}
theorem Mk {K:Fr->List Res->Prop} {ls:List AV} {len sz:Nat} (hd:WZ n (ZC ops k)=true) (ha:UH P ops F k=some (ls,len,sz)) (hlen:ls.length=len*sz)
  (hK:∀g,K (F.put (ZC ops k).dst (.val (.slice (some ⟨g,0,none⟩) len len))) (.row (.slice (some ⟨g,0,none⟩) len len) sz ls::h)):Wi P n (ZC ops k) F h K:=by
 unfold UH at ha
 generalize hoo:ZC ops k=q at ha hd hK
 obtain ⟨dst,op,type,pos,after,guard⟩:=q
 cases op<;>simp only at ha<;>try (cases ha)
 rename_i t ln parts
 split at ha
 case h_2=>cases ha
 rename_i e ht
 split at ha
 case h_2=>cases ha
 rename_i i hi
 split at ha
 case h_2=>cases ha
 rename_i hc
 simp only [XQ] at hc
 split at ha
 case h_2=>cases ha
 rename_i ls' hf
 simp only [XX,Prod.mk.injEq] at ha
 obtain ⟨rfl,rfl,XA⟩:=ha
 intro Q w G a hF hh
 obtain ⟨cs,h1,h2⟩:=Ek hF parts ht hi rfl hc.1 hc.2 hf
 have hr:(execOp a.eval { dst:=dst,op:=.buildSlice t ln parts,type:=type,pos:=pos,after:=after,guard:=guard }).run P w =
   .ok (.value (.slice (some ⟨w.heap.size,0,none⟩) ln ln)) (w.alloc (.cells cs e)):=by
  simp only [execOp]
  exact Va h2
 unfold Oper.wp
 rw [hr]
 have hlc:=h1.length
 simp only [Qn] at hlc
 obtain ⟨j1,j2⟩:=hh.alloc_rrow cs e (ls:=ls') (len:=ln) (cap:=ln) (k:=sz) (X7 _) (by rw [hlc];exact hlen) hlen (by rw [<-hlen,<-hlc];simpa [Vb] using h1)
 exact ⟨_,_,G,hK _,(hF.mono (j2.agree hh)).put (U6 hd) .val,j1,j2⟩
theorem VZ (es es':List AV) (he:es=es') (len sz:Nat) (hK:∀v,SI P n ops B (k+1) (F.put (ZC ops k).dst (.sl es' (some v))) (.tail v sz::h)) (hk:X1 n ops F k=true:=by kernel_rfl)
  (ha:UH P ops F k=some (Zl es,len,sz):=by kernel_rfl) (hlen:es.length=len:=by kernel_rfl) (hall:KV es sz=true:=by kernel_rfl):SI P n ops B k F h:=by
 subst he;exact iL es len sz hK hk ha hlen hall
theorem Wj (i:Nat) (js bs:List Nat) (es es':List AV) (he:es=es') (len sz:Nat) (hK:∀v,YK P n ops B (T.filter fun t=>!WA ops i t.1) fuel (done++[i]) (F.put (ZC ops i).dst (.sl es' (some v))) (.tail v sz::h))
  (hk:X1 n ops F i=true:=by kernel_rfl) (ha:UH P ops F i=some (Zl es,len,sz):=by kernel_rfl) (hlen:es.length=len:=by kernel_rfl) (hall:KV es sz=true:=by kernel_rfl)
  (ho:Vu ops i T=bs:=by kernel_rfl) (hj:js.map (fun j=>(Wk h)[j]?)=bs.map some:=by kernel_rfl):WY P n ops B T fuel done F h i:=by
 subst he;exact dL i js bs es len sz hK hk ha hlen hall ho hj
theorem SW (ls:List AV) (len sz:Nat) (hK:∀g,SI P n ops B (k+1) (F.put (ZC ops k).dst (.val (.slice (some ⟨g,0,none⟩) len len))) (.row (.slice (some ⟨g,0,none⟩) len len) sz ls::h)) (hlen:ls.length=len*sz:=by rfl) (hk:X1 n ops F k=true:=by kernel_rfl)
  (ha:UH P ops F k=some (ls,len,sz):=by kernel_rfl):SI P n ops B k F h:=T8 hk (Mk (Vm hk).2.1 ha hlen hK)
theorem Pt (i:Nat) (js bs:List Nat) (ls:List AV) (len sz:Nat) (hK:∀g,YK P n ops B (T.filter fun t=>!WA ops i t.1) fuel (done++[i]) (F.put (ZC ops i).dst (.val (.slice (some ⟨g,0,none⟩) len len))) (.row (.slice (some ⟨g,0,none⟩) len len) sz ls::h)) (hlen:ls.length=len*sz:=by rfl)
  (hk:X1 n ops F i=true:=by kernel_rfl) (ha:UH P ops F i=some (ls,len,sz):=by kernel_rfl) (ho:Vu ops i T=bs:=by kernel_rfl) (hj:js.map (fun j=>(Wk h)[j]?)=bs.map some:=by kernel_rfl):WY P n ops B T fuel done F h i:=
 Qa (h1:=[]) (h2:=h) [] js bs hk rfl ho hj (Mk (Vm hk).2.1 ha hlen hK)
end
theorem Zj.frz {P:Program} {f:FuncId} {as1:List AV} {h0:List Res} {E:Type} {kk:Nat} {es:E->List AV} {hs:E->List Res} {Q:E->Prop} (H:Zj P f as1 h0 (fun r h=>∃(e:E) (v:Hd),r=.h v/\h=rK v kk (Zl (es e))::hs e/\Q e)) (hes:∀e,∀y∈es e,y.leaves.length=kk) (hk:0<kk) :
  Zj P f as1 h0 (fun r h=>∃(e:E) (v:Value),r=.sl (es e) (some v)/\h=.tail v kk::hs e/\Q e):=by
 intro w G vs hv hh
 refine (H w G vs hv hh).mono ?_
 rintro e w' ⟨u,r,h',G',he,⟨x,v,rfl,rfl,hq⟩,hr,hh',hx⟩
 obtain ⟨G2,h1,h2,h3⟩:=BK hh' (hes x) hk
 have hrv:=hr.val_inv
 subst hrv
 exact ⟨_,_,_,G2,he,⟨x,v.v,rfl,rfl,hq⟩,h3,h1,hx.trans h2⟩
theorem DC {es:List AV} {sz k:Nat} {y:AV} (h:∀x∈es,x.leaves.length=sz) (hy:y.leaves.length=sz) (hk:k<es.length):(Zl es).take (k*sz)++y.leaves++(Zl es).drop (k*sz+y.leaves.length)=Zl (es.set k y):=by
 obtain ⟨x,hx⟩:=Zt (xs:=es) (j:=k) hk
 have hxl:=h x (Y6 hx)
 have e1:es=es.take k++(x::es.drop (k+1)):=by rw [<-Yb hx,Uy]
 have e2:es.set k y=es.take k++(y::es.drop (k+1)):=by rw [CW,Zk hk]
 have hl:(Zl (es.take k)).length=k*sz:=by rw [UR (k:=sz) _ (fun z hz=>h z (TL hz)),Wv,Vo om]
 have e3:Zl es=Zl (es.take k)++(x.leaves++Zl (es.drop (k+1))):=by
  conv=>lhs;rw [e1,Tz]
  simp [Zl]
 rw [e2,Tz,e3,GS hl (by rw [hxl,hy])]
 simp [Zl]
theorem PW (ds:List Zf) (k:Nat) (d:Zf):YU (ds.set k d)=(YU ds).set k (Uh d):=by simp [YU,List.map_set]
theorem AF (xs:List Zf):(Zl (YU xs)).length=xs.length*3:=by rw [UR (k:=3) _ (K0 xs)];simp
theorem Dy {ds:List Zf} {k:Nat} (d:Zf) (hk:k<ds.length):(Zl (YU ds)).take (k*3)++Wr d++(Zl (YU ds)).drop (k*3+3)=Zl (YU (ds.set k d)):=by
 rw [PW];exact DC (y:=Uh d) (K0 ds) rfl (by simpa using hk)
theorem FH (xs ys:List Zf):Zl (YU xs)++Zl (YU ys)=Zl (YU (xs++ys)):=by rw [PV,Tz]
section
variable {P:Program} {n:Nat} {ops:Array Oper} {B:Fr->List Res->Prop} {k:Nat} {F:Fr} {h:List Res}
theorem DN (j m:Nat) {v:Hd} {kk:Nat} {ls:List AV} (hm:ls.length=m*kk) (h0:0<m) (H:∀g c',v=⟨some ⟨g,0,none⟩,m,c'⟩->SI P n ops B k F h) (hk:0<kk:=by omega) (hj:h[j]? = some (rK v kk ls):=by kernel_rfl):SI P n ops B k F h:=by
 intro Q w G a hF hh hq
 obtain ⟨g,c',e⟩:=MK (hh.ok _ (Y6 hj)) hm hk h0
 exact H g c' e Q w G a hF hh hq
end
section
variable {P:Program} {n:Nat} {ops:Array Oper} {B:Fr->List Res->Prop} {k:Nat} {F:Fr} {h:List Res}
def Fg (P:Program) (ops:Array Oper) (F:Fr) (k:Nat):Option (IntKind × Int):=
 match (ZC ops k).op with
 | .convert s d x=>match P.underlying s,P.underlying d,F.ev x with
  | some (.int _),some (.int q),.val (.int _ z)=>some (q,z)
  | _,_,_=>none
 | _=>none
theorem kCv (q:IntKind) (z z':Int) (e:q.wrap z=z') (hc:Fg P ops F k=some (q,z):=by kernel_rfl):XD P (ZC ops k) F h [] (.val (.int q z')):=by
 unfold Fg at hc
 generalize hoo:ZC ops k=o at hc
 obtain ⟨dst,op,type,pos,after,guard⟩:=o
 cases op<;>simp only at hc<;>try (cases hc)
 rename_i s d x
 split at hc
 ·rename_i q1 q2 q3 z2 h1 h2 h3
  cases hc
  intro n w G ac hF hh
  have v1:=hF.ev x
  rw [h3] at v1
  have v1:=v1.val_inv
  refine ⟨_,.val,fun w' _ _=>?_⟩
  simp only [execOp,v1]
  refine Va ?_
  simp [convert,VG h1,VG h2,Conv.intToInt,e]
 ·cases hc
theorem Hy {z:Int} (h:0<=z/\z<=9223372036854775807):IntKind.i64.wrap z=z:=IntWalk.i64_in _ om
theorem Bz (z:Int) (hz:0<=z/\z<=255) (hc:Fg P ops F k=some (.i64,z):=by kernel_rfl):XD P (ZC ops k) F h [] (.i z):=kCv .i64 z z (Hy om) hc
def JL (ops:Array Oper) (F:Fr) (k:Nat) (b:BinOp):Option (Int × Int):=
 match (ZC ops k).op with
 | .binOp c _ x y _=>if c==b then match F.ev x,F.ev y with
  | .val (.int .i64 z),.val (.int .i64 u)=>some (z,u)
  | _,_=>none else none
 | _=>none
theorem Gk (a b:Int) (hb:0<b) (ha:0<=a/\a<=9223372036854775807) (hc:JL ops F k .quo=some (a,b):=by kernel_rfl):XD P (ZC ops k) F h [] (.i (a / b)):=by
 unfold JL at hc
 generalize hoo:ZC ops k=o at hc
 obtain ⟨dst,op,type,pos,after,guard⟩:=o
 cases op<;>simp only at hc<;>try (cases hc)
 rename_i bop t x y yt
 cases bop<;>simp only [Zh,reduceCtorEq,if_false,if_true] at hc<;>try (cases hc)
 split at hc
 ·rename_i z yk h1 h2
  cases hc
  intro n' w G ac hF hh
  have v1:=hF.ev x
  have v2:=hF.ev y
  rw [h1] at v1
  rw [h2] at v2
  have v1:=v1.val_inv
  have v2:=v2.val_inv
  refine ⟨_,.val,fun w' _ _=>?_⟩
  simp only [execOp,v1,v2]
  refine Va ?_
  have e1:a.tdiv b=a / b:=Int.tdiv_eq_ediv_of_nonneg ha.1
  have e2:IntKind.i64.wrap (a / b)=a / b:=Hy ⟨Int.ediv_nonneg ha.1 om,Int.le_trans (Int.ediv_le_self b ha.1) ha.2⟩
  have e3:b≠0:=by omega
  simp [eqGuard,binOp,Op.intDiv,e1,e2,e3]
 ·cases hc
theorem Ct (a b:Int) (hb:0<b) (ha:0<=a) (hc:JL ops F k .rem=some (a,b):=by kernel_rfl):XD P (ZC ops k) F h [] (.i (a % b)):=by
 unfold JL at hc
 generalize hoo:ZC ops k=o at hc
 obtain ⟨dst,op,type,pos,after,guard⟩:=o
 cases op<;>simp only at hc<;>try (cases hc)
 rename_i bop t x y yt
 cases bop<;>simp only [Zh,reduceCtorEq,if_false,if_true] at hc<;>try (cases hc)
 split at hc
 ·rename_i z yk h1 h2
  cases hc
  intro n' w G ac hF hh
  have v1:=hF.ev x
  have v2:=hF.ev y
  rw [h1] at v1
  rw [h2] at v2
  have v1:=v1.val_inv
  have v2:=v2.val_inv
  refine ⟨_,.val,fun w' _ _=>?_⟩
  simp only [execOp,v1,v2]
  refine Va ?_
  have e1:a.tmod b=a % b:=Int.tmod_eq_emod_of_nonneg ha
  have e3:b≠0:=by omega
  simp [eqGuard,binOp,Op.intDiv,e1,e3]
 ·cases hc
theorem AO (a b:Nat) (hb:0<b) (ha:a<=9223372036854775807) (hc:JL ops F k .quo=some ((a:Int),(b:Int)):=by kernel_rfl):XD P (ZC ops k) F h [] (.i (a / b:Nat)):=by
 rw [Int.natCast_ediv];exact Gk a b om om hc
theorem DW (a b:Nat) (hb:0<b) (_ha:a<=9223372036854775807) (hc:JL ops F k .rem=some ((a:Int),(b:Int)):=by kernel_rfl):XD P (ZC ops k) F h [] (.i (a % b:Nat)):=by
 rw [Int.natCast_emod];exact Ct a b om om hc
def TJ (a b:Int):Int:=IntKind.i64.wrap ((BitVec.ofInt 64 a ^^^ BitVec.ofInt 64 b).toNat:Int)
theorem EG {a b:Int} (ha:0<=a/\a<4611686018427387904) (hb:0<=b/\b<4611686018427387904):0<=TJ a b/\TJ a b<4611686018427387904:=by
 obtain ⟨x,rfl⟩:=Int.eq_ofNat_of_zero_le ha.1
 obtain ⟨y,rfl⟩:=Int.eq_ofNat_of_zero_le hb.1
 have h1:(BitVec.ofInt 64 (x:Int) ^^^ BitVec.ofInt 64 (y:Int)).toNat=x ^^^ y:=by
  rw [BitVec.toNat_xor,BitVec.toNat_ofInt,BitVec.toNat_ofInt]
  have e1:((x:Int) % ((2 ^ 64:Nat):Int)).toNat=x:=by omega
  have e2:((y:Int) % ((2 ^ 64:Nat):Int)).toNat=y:=by omega
  rw [e1,e2]
 have h2:x ^^^ y<2 ^ 62:=Nat.xor_lt_two_pow om om
 rw [TJ,h1,Hy om]
 omega
theorem Lw (a b:Int) (hc:JL ops F k .xor=some (a,b):=by kernel_rfl):XD P (ZC ops k) F h [] (.i (TJ a b)):=by
 unfold JL at hc
 generalize hoo:ZC ops k=o at hc
 obtain ⟨dst,op,type,pos,after,guard⟩:=o
 cases op<;>simp only at hc<;>try (cases hc)
 rename_i bop t x y yt
 cases bop<;>simp only [Zh,reduceCtorEq,if_false,if_true] at hc<;>try (cases hc)
 split at hc
 ·rename_i z yk h1 h2
  cases hc
  intro n' w G ac hF hh
  have v1:=hF.ev x
  have v2:=hF.ev y
  rw [h1] at v1
  rw [h2] at v2
  have v1:=v1.val_inv
  have v2:=v2.val_inv
  refine ⟨_,.val,fun w' _ _=>?_⟩
  simp only [execOp,v1,v2]
  refine Va ?_
  simp [eqGuard,binOp,Op.intBits,IntKind.bits]
  exact Yv (fun z:Nat=>IntKind.i64.wrap (z:Int)) (by rw [BitVec.toNat_xor,BitVec.toNat_ofInt,BitVec.toNat_ofInt];rfl)
 ·cases hc
end
end Go.Abs
section
namespace Go.Abs
inductive Z2 where
 | mk (op num:Int) (kids:List Z2)
namespace Z2
def op:Z2->Int|.mk a _ _=>a
def num:Z2->Int|.mk _ a _=>a
def kids:Z2->List Z2|.mk _ _ a=>a
end Z2
structure Func where
 params:List Int
 result:Int
 body:Z2
structure XV where
 decls:List Zf
 funcs:List Func
instance:Inhabited Z2:=⟨.mk 0 0 []⟩
mutual
def Fx:Z2->AV
 | .mk op num kids=>.agg [.i op,.i num,.sl (Yp kids) none]
def Yp:List Z2->List AV
 | []=>[]
 | e::r=>Fx e::Yp r
end
abbrev ZE (e:Z2):AV:=.agg [.i e.op,.i e.num,.sl (Yp e.kids) none]
abbrev Yw (e:Z2):List AV:=[.i e.op,.i e.num,.sl (Yp e.kids) none]
abbrev X4 (xs:List Z2):AV:=.sl (Yp xs) none
abbrev XT (xs:List Z2) (v:Value):AV:=.sl (Yp xs) (some v)
abbrev KU (f:Func):AV:=.agg [Z0 f.params,.i f.result,.i f.body.op,.i f.body.num,X4 f.body.kids]
abbrev Cu (f:Func):List AV:=[Z0 f.params,.i f.result,.i f.body.op,.i f.body.num,X4 f.body.kids]
def Xc (xs:List Func):List AV:=xs.map KU
abbrev BD (xs:List Func):AV:=.sl (Xc xs) none
abbrev Jl (xs:List Func) (v:Value):AV:=.sl (Xc xs) (some v)
abbrev Ti (p:XV):AV:=.agg [Zd p.decls,BD p.funcs]
abbrev Ji (p:XV):List AV:=[Zd p.decls,BD p.funcs]
abbrev EU (z:Int):AV:=.val (.int .u8 z)
def T3 (xs:List Int):List AV:=xs.map EU
abbrev X8 (xs:List Int):AV:=.sl (T3 xs) none
theorem PX (e:Z2):Fx e=ZE e:=by cases e;rw [Fx];rfl
theorem XE:∀xs:List Z2,Yp xs=xs.map ZE
 | []=>by rw [Yp];rfl
 | s::ss=>by rw [Yp,XE ss,PX];rfl
theorem Bl {xs:List Z2} {j:Nat} {x:Z2} (h:xs[j]? = some x):(Yp xs)[j]? = some (ZE x):=by simp [XE,h]
theorem Do {xs:List Func} {j:Nat} {x:Func} (h:xs[j]? = some x):(Xc xs)[j]? = some (KU x):=by simp [Xc,h]
theorem Bh {xs:List Int} {j:Nat} {x:Int} (h:xs[j]? = some x):(T3 xs)[j]? = some (EU x):=by simp [T3,h]
@[simp] theorem Fy (xs:List Z2):(Yp xs).length=xs.length:=by simp [XE]
@[simp] theorem Bm (xs:List Func):(Xc xs).length=xs.length:=by simp [Xc]
@[simp] theorem Qz (xs:List Int):(T3 xs).length=xs.length:=by simp [T3]
theorem Kq (xs ys:List Z2):Yp (xs++ys)=Yp xs++Yp ys:=by simp [XE]
theorem PY (xs ys:List Func):Xc (xs++ys)=Xc xs++Xc ys:=by simp [Xc]
theorem Ft (xs:List Int) (n:Nat):(T3 xs).take n=T3 (xs.take n):=by simp [T3]
theorem Fs (xs:List Int) (n:Nat):(T3 xs).drop n=T3 (xs.drop n):=by simp [T3]
theorem Um (xs:List Z2):∀y∈Yp xs,y.leaves.length=3:=by intro y hy;simp only [XE,XW] at hy;obtain ⟨x,_,rfl⟩:=hy;rfl
theorem Dp (xs:List Func):∀y∈Xc xs,y.leaves.length=5:=by intro y hy;simp only [Xc,XW] at hy;obtain ⟨x,_,rfl⟩:=hy;rfl
theorem PT (xs:List Int):∀y∈T3 xs,y.leaves.length=1:=by intro y hy;simp only [T3,XW] at hy;obtain ⟨x,_,rfl⟩:=hy;rfl
theorem Kr (xs:List Z2):(Zl (Yp xs)).all AV.one=true:=Kv fun y hy=>by simp only [XE,XW] at hy;obtain ⟨x,_,rfl⟩:=hy;rfl
end Go.Abs
end
section
namespace Go.Abs
open Go.Proofs Go.Proofs.YthllacimcjakdaaGreat
section
variable {H:Type} {enc:TypeId × Value->H} {w:World}
def GA (w:World):Ya:=fun b _=>b<w.heap.size
abbrev Tr (enc:TypeId × Value->H) (w:World) (n:Nat) (t:TypeId) (cs:List Value) (x:DataW H × List MemPlace):Prop:=DataW.trod enc Tryz.prog w 0 (fun _=>true) true n t cs=some x
theorem LV {w:World} {a:Addr} {v:Value} (h:w.cell? a=some v):a.block<w.heap.size/\a.spot=none:=by
 unfold World.cell? at h
 split at h
 ·rename_i c e fr hb
  split at h
  ·cases h
  ·rename_i hs
   exact ⟨(U1.1 hb).1,by simpa using hs⟩
 ·cases h
theorem I6 {α:Type} {c:α->Nat}:∀{xs:List α} {ds:List (DataW H)},xs.length=ds.length->(∀(i:Nat) a d,xs[i]? = some a->ds[i]? = some d->c a+1<=Rows.uptoBulk d)->(xs.map fun a=>c a+1).sum<=Rows.uptoBulkAll ds
 | [],[],_,_=>X7 _
 | a::r,d::ds,hl,h=>by
  have h0:=h 0 a d rfl rfl
  have h1:=I6 (c:=c) (xs:=r) (ds:=ds) (by simpa using hl) fun i a d ha hd=>h (i+1) a d (by simpa using ha) (by simpa using hd)
  rw [Ug,List.sum_cons,Rows.uptoBulkAll]
  omega
theorem MC {α:Type} {f:α->AV} {G:Ya} {k b:Nat} (hf:∀x,(f x).leaves.length=k):∀{xs:List α} {o:Nat},(∀(i:Nat) a,xs[i]? = some a->We w G b (o+i*k) (f a).leaves)->WS w G k b o (xs.map f)
 | [],_,_=>.nil
 | x::r,o,h=>by
  refine .cons (hf x) (by have:=h 0 x rfl;simpa using this) (MC hf fun i a ha=>?_)
  have:=h (i+1) a (by simpa using ha)
  rw [show o+(i+1)*k=o+k+i*k by rw [Tw];omega] at this
  exact this
theorem Z37 {α:Type} [Inhabited α] {t e k:Nat} (ht:Tryz.prog.underlying t=some (.slice e)) (hk:Tryz.prog.cellsOf e=k) (h0:0<k) (f:α->AV) (hf:∀x,(f x).leaves.length=k) (c:α->Nat) (Q:α->Prop) {n:Nat} {cs:List Value} {x:DataW H × List MemPlace}
  (h:Tr enc w n t cs x) (el:∀m cs y,m<n->Tr enc w m e cs y->∃a:α,YO w (GA w) (f a).leaves cs/\c a+1<=Rows.uptoBulk y.1/\Q a) :
  ∃(v:Value) (xs:List α),cs=[v]/\RV w (GA w) (.sl (xs.map f) none) v/\(xs.map fun a=>c a+1).sum+1<=Rows.uptoBulk x.1/\∀a∈xs,Q a:=by
 rcases DataW.trod_slice ht h with ⟨rfl,rfl⟩|⟨a,len,cap,elems,rest,m,rfl,rfl,rfl,_,hlc,_,hlen,hel,_,_⟩
 ·exact ⟨_,[],rfl,.nil (by simp),by simp [Rows.uptoBulk],by simp⟩
 ·rw [hk] at hel
  have hone:∀i,i<len->∃z:α,∃cs' y,w.cells? 0 (a.add (i*k)) k=some cs'/\elems[i]? = some y/\YO w (GA w) (f z).leaves cs'/\c z+1<=Rows.uptoBulk y.1/\Q z:=by
   intro i hi
   have h1:=hel i hi
   rw [Jv om] at h1
   obtain ⟨cs',h2,h3⟩:=Option.bind_eq_some_iff.1 h1
   obtain ⟨z,hz1,hz2,hz3⟩:=el m cs' _ om h3
   exact ⟨z,cs',_,h2,Jv om,hz1,hz2,hz3⟩
  obtain ⟨V,hV⟩:=Go.Deep.choose_lt hone
  refine ⟨_,(List.range len).map V,rfl,?_,?_,?_⟩
  ·cases hl0:len with
   | zero=>exact .nil (by simp)
   | succ q=>
    have hsp:a.spot=none:=by
     obtain ⟨cs',y,g1,_⟩:=hV 0 om
     obtain ⟨_,g2,g3⟩:=World.cells?_some g1
     have g4:=g3 0 h0
     rw [Jv om] at g4
     have g5:=(LV g4).2
     simpa [Addr.add] using g5
    obtain ⟨b,o,sp⟩:=a
    simp only at hsp
    subst hsp
    rw [<-hl0]
    have hll:(((List.range len).map V).map f).length=len:=by simp
    have:=RV.sl (w:=w) (G:=GA w) (es:=((List.range len).map V).map f) (hv:=none) (b:=b) (o:=o) (k:=k) (cap:=cap) (by simp) (by rw [hll];exact hlc) (MC hf fun i z hz=>by
     have hi:i<len:=by have:=(XG.1 hz).1;simpa using this
     have hz':V i=z:=by simpa [hi] using hz
     obtain ⟨cs',y,g1,_,g2,_⟩:=hV i hi
     rw [hz'] at g2
     obtain ⟨_,g3,g4⟩:=World.cells?_some g1
     refine We.of_cells g2 fun j u hj=>?_
     have hjl:j<k:=by have:=(XG.1 hj).1;omega
     have g5:=(g4 j hjl).trans hj
     rw [Addr.add_lit,Addr.add_lit] at g5
     exact ⟨g5,(LV g5).1⟩)
    rw [hll] at this
    exact this
  ·have:=I6 (c:=c) (xs:=(List.range len).map V) (ds:=elems.map (·.1)) (by simp [hlen]) fun i z d hz hd=>by
    have hi:i<len:=by have:=(XG.1 hz).1;simpa using this
    have hz':V i=z:=by simpa [hi] using hz
    obtain ⟨cs',y,_,g1,_,g2,_⟩:=hV i hi
    rw [Kg,g1] at hd
    simp only [Ao,XX] at hd
    rw [<-hd,<-hz']
    exact g2
   simp only [Rows.uptoBulk]
   omega
  ·intro z hz
   obtain ⟨i,hi,rfl⟩:=XW.1 hz
   obtain ⟨_,_,_,_,_,_,g⟩:=hV i (List.mem_range.1 hi)
   exact g
theorem Z35 {n:Nat} {cs:List Value} {x:DataW H × List MemPlace} (h:Tr enc w n 5 cs x):∃z:Int,cs=[.int .u8 z]/\Rows.uptoBulk x.1=1/\0<=z/\z<=255:=by
 obtain ⟨z,rfl,rfl,hw⟩:=DataW.trod_int Tryz.underlying5 h
 refine ⟨z,rfl,rfl,?_⟩
 simpa [Lit.wf,IntKind.min,IntKind.max,IntKind.signed,IntKind.bits] using hw
theorem Z36 {n:Nat} {cs:List Value} {x:DataW H × List MemPlace} (h:Tr enc w n 22 cs x):∃(v:Value) (xs:List Int),cs=[v]/\RV w (GA w) (X8 xs) v/\∀z∈xs,0<=z/\z<=255:=by
 obtain ⟨v,xs,h1,h2,h3,h4⟩:=Z37 Tryz.underlying22 (k:=1) kr om (fun z:Int=>EU z) (fun _=>rfl) (fun _=>0) (fun z=>0<=z/\z<=255) h fun m cs y _ hy=>by
  obtain ⟨z,rfl,hb,hz⟩:=Z35 hy
  exact ⟨z,.cons .val .nil,Nat.le_of_eq hb.symm,hz⟩
 exact ⟨v,xs,h1,h2,h4⟩
end
end Go.Abs
end
namespace Go.Abs
structure Sg where
 params:List Int
 result:Int
abbrev HE (f:Sg):AV:=.agg [.sl (Z8 f.params) none,.i f.result,.i 0,.i 0,.sl [] none]
def Wn (fs:List Sg):List AV:=fs.map HE
theorem FA {xs:List Sg} {j:Nat} {x:Sg} (h:xs[j]? = some x):(Wn xs)[j]? = some (HE x):=by simp [Wn,h]
@[simp] theorem Ir (xs:List Sg):(Wn xs).length=xs.length:=by simp [Wn]
theorem Iq (xs:List Sg):∀y∈Wn xs,y.leaves.length=5:=by intro y hy;simp only [Wn,XW] at hy;obtain ⟨x,_,rfl⟩:=hy;rfl
theorem R6 (xs:List Sg):(Zl (Wn xs)).all AV.one=true:=Kv fun y hy=>by simp only [Wn,XW] at hy;obtain ⟨x,_,rfl⟩:=hy;rfl
mutual
def Z4.sz:Z4->Nat
 | .mk _ _ _ args kids=>1+args.length+YW kids
def Z6.sz:Z6->Nat
 | .mk steps _=>1+Ys steps
def Ys:List Z4->Nat
 | []=>0
 | s::r=>s.sz+Ys r
def YW:List Z6->Nat
 | []=>0
 | b::r=>b.sz+YW r
end
theorem Z4.sz_pos (s:Z4):1<=s.sz:=by cases s;rw [Z4.sz];omega
theorem Z6.sz_pos (b:Z6):1<=b.sz:=by cases b;rw [Z6.sz];omega
theorem Ka (l:List Z4):l.length<=Ys l:=by
 induction l with
 | nil=>simp
 | cons s r ih=>have:=s.sz_pos;simp only [YQ,Ys];omega
theorem I2 (l:List Z6):l.length<=YW l:=by
 induction l with
 | nil=>simp
 | cons s r ih=>have:=s.sz_pos;simp only [YQ,YW];omega
theorem Z5u {l:List Z4} {k:Nat} {s:Z4} (h:l[k]? = some s):s.sz<=Ys l:=by
 induction l generalizing k with
 | nil=>simp at h
 | cons t r ih=>
  cases k with
  | zero=>simp at h;subst h;simp only [Ys];omega
  | succ k=>have:=ih (k:=k) (by simpa using h);simp only [Ys];omega
theorem OM {l:List Z6} {k:Nat} {s:Z6} (h:l[k]? = some s):s.sz<=YW l:=by
 induction l generalizing k with
 | nil=>simp at h
 | cons t r ih=>
  cases k with
  | zero=>simp at h;subst h;simp only [YW];omega
  | succ k=>have:=ih (k:=k) (by simpa using h);simp only [YW];omega
theorem Z4.sz_eq (s:Z4):s.sz=1+s.args.length+YW s.kids:=by cases s;rw [Z4.sz];rfl
theorem Z6.sz_eq (b:Z6):b.sz=1+Ys b.steps:=by cases b;rw [Z6.sz];rfl
theorem KJ {b:Z6} {k:Nat} {s:Z4} (h:b.steps[k]? = some s):s.sz<b.sz:=by have:=Z5u h;have:=b.sz_eq;omega
theorem T9 {s:Z4} {k:Nat} {b:Z6} (h:s.kids[k]? = some b):b.sz<s.sz:=by have:=OM h;have:=s.sz_eq;omega
theorem Q5 (s:Z4):s.args.length<s.sz:=by have:=s.sz_eq;omega
theorem Ta (s:Z4):s.kids.length<s.sz:=by have:=s.sz_eq;have:=I2 s.kids;omega
theorem Vv (b:Z6):b.steps.length<b.sz:=by have:=b.sz_eq;have:=Ka b.steps;omega
structure Qr (ds:List Zf):Prop where
 len:ds.length<=4194304
 cons:∀d∈ds,d.cons.length<=4194304
 fields:∀d∈ds,∀c∈d.cons,c.fields.length<=4194304
theorem Qr.cons_at {ds:List Zf} (h:Qr ds) {k:Nat} {d:Zf} (hd:ds[k]? = some d):d.cons.length<=4194304:=h.cons d (Y6 hd)
theorem Qr.fields_at {ds:List Zf} (h:Qr ds) {k j:Nat} {d:Zf} {c:Y4} (hd:ds[k]? = some d) (hc:d.cons[j]? = some c):c.fields.length<=4194304:=
 h.fields d (Y6 hd) c (Y6 hc)
def Qy (m:Nat) (c:Y4):Bool:=decide (c.fields.length<=3)&&YZ m c.fields
def TQ (d:Zf):List Zf->Bool
 | []=>false
 | e::r=>if e.cons.length=0/\e.frm=d.frm/\e.to_=d.to_ then true else TQ d r
def UP (m:Nat):List Y4->Bool
 | []=>true
 | c::r=>if Qy m c=true then UP m r else false
def VC (ds:List Zf) (d:Zf) (i:Nat):Bool:=
 if 0<d.cons.length then (if d.cons.length<=3/\d.frm=0/\d.to_=0 then UP ds.length d.cons else false)
 else if TQ d (ds.take i)=true then false else decide (0<=d.frm/\d.frm<=ds.length)&&decide (0<=d.to_/\d.to_<=ds.length)
def JP (ds:List Zf) (i:Nat):Bool:=(ds[i]?.map fun d=>VC ds d i).getD false
theorem Bg {ds:List Zf} {i:Nat} {d:Zf} (h:ds[i]? = some d):JP ds i=VC ds d i:=by rw [JP,h];rfl
def Uk (ds:List Zf):List Zf->Nat->Bool
 | [],_=>true
 | _::r,i=>if JP ds i=true then Uk ds r (i+1) else false
def Wc (ds:List Zf):Bool:=decide (ds.length<=4)&&Uk ds ds 0
theorem Ff {m:Nat} {cs:List Y4}:UP m cs=true↔∀c∈cs,Qy m c=true:=by
 induction cs with
 | nil=>simp [UP]
 | cons c r ih=>
  rw [UP]
  split
  ·rename_i h;simp [ih,h]
  ·rename_i h;simp [h]
theorem Dl {ds:List Zf}:∀{l:List Zf} {i:Nat},Uk ds l i=true↔∀j<l.length,JP ds (i+j)=true
 | [],i=>by simp [Uk]
 | d::r,i=>by
  rw [Uk]
  split
  ·rename_i h
   rw [Dl (l:=r)]
   constructor
   ·intro hq j hj
    cases j with
    | zero=>exact h
    | succ j=>have:=hq j (by simpa using hj);rwa [show i+(j+1)=i+1+j by omega]
   ·intro hq j hj
    have:=hq (j+1) (by simpa using hj)
    rwa [show i+(j+1)=i+1+j by omega] at this
  ·rename_i h
   simp only [Bool.false_eq_true,false_iff]
   intro hq
   exact h (hq 0 (by simp))
theorem Z76 {ds:List Zf} (h:Wc ds=true):Wd ds:=by
 simp only [Wc,XQ,decide_eq_true_eq] at h
 obtain ⟨h1,h2⟩:=h
 rw [Dl] at h2
 have key:∀d∈ds,∃i,VC ds d i=true:=fun d hd=>by
  obtain ⟨i,hi⟩:=List.mem_iff_getElem?.1 hd
  have:=h2 i (XG.1 hi).1
  rw [WL,Bg hi] at this
  exact ⟨i,this⟩
 have hc:∀d∈ds,0<d.cons.length->d.cons.length<=3/\UP ds.length d.cons=true:=fun d hd hp=>by
  obtain ⟨i,hi⟩:=key d hd
  rw [VC,Zk hp] at hi
  split at hi
  ·rename_i h;exact ⟨h.1,hi⟩
  ·cases hi
 refine ⟨h1,fun d hd=>?_,fun d hd c hc'=>?_⟩
 ·by_cases hp:0<d.cons.length
  ·exact (hc d hd hp).1
  ·omega
 ·have:=Ff.1 (hc d hd (List.length_pos_of_mem hc')).2 c hc'
  simp only [Qy,XQ,decide_eq_true_eq] at this
  exact this.1
theorem Wd.sz {ds:List Zf} (h:Wd ds):Qr ds:=
 ⟨by have:=h.len;omega,fun d hd=>by have:=h.cons d hd;omega,fun d hd c hc=>by have:=h.fields d hd c hc;omega⟩
def Qg (m:Nat) (f:Sg):Bool:=decide (f.params.length<=3)&&(YZ m f.params&&decide (0<=f.result/\f.result<=m))
def QO (m:Nat):List Sg->Bool
 | []=>true
 | f::r=>if Qg m f=true then QO m r else false
def Dx:List Sg->Bool
 | []=>false
 | f::_=>decide (f.params.length=0)&&decide (f.result=0)
theorem Ri {fs:List Sg} {x:Sg} (h:fs[0]? = some x):Dx fs=(decide (x.params.length=0)&&decide (x.result=0)):=by
 cases fs with
 | nil=>simp at h
 | cons f r=>simp at h;subst h;rfl
def TH (ds:List Zf) (fs:List Sg):Bool:=
 Wc ds&&(decide (1<=fs.length/\fs.length<=4)&&(QO ds.length fs&&Dx fs))
def Qd (ps:List Int):List Int->Option Int->Bool
 | [],_=>true
 | v::r,prev=>if (0<=v/\v<=(ps.length:Int)-1)/\ps[v.toNat]?≠some 0/\(∀p,prev=some p->p<v) then Qd ps r (some v) else false
theorem Gv {ps r:List Int} {v:Int} {prev:Option Int} (h:(0<=v/\v<=(ps.length:Int)-1)/\ps[v.toNat]?≠some 0/\(∀p,prev=some p->p<v)):Qd ps (v::r) prev=Qd ps r (some v):=by
 rw [Qd,Zk h]
theorem E3 {ps r:List Int} {v:Int} {prev:Option Int} (h:¬((0<=v/\v<=(ps.length:Int)-1)/\ps[v.toNat]?≠some 0/\(∀p,prev=some p->p<v))):Qd ps (v::r) prev=false:=by
 rw [Qd,Za h]
def QT (ps ls:List Int):Bool:=Qd ps ls none
def Ky:List Yj->Bool
 | []=>true
 | r::rs=>if QT r.params r.lent=true then Ky rs else false
def Vn (r:Yj):Sg:=⟨r.params,r.result⟩
def XI (n:Zx):Bool:=decide (n.routines.length<=4)&&(TH n.decls (n.routines.map Vn)&&Ky n.routines)
end Go.Abs
section
namespace Go.Abs
def Xg {α:Type} (xs:List α) (i:Int):Option α:=if 0<=i/\i<=(xs.length:Int)-1 then xs[i.toNat]? else none
theorem Ty {α:Type} {xs:List α} {i:Int} {x:α} (h:0<=i/\i<=(xs.length:Int)-1) (hx:xs[i.toNat]? = some x):Xg xs i=some x:=by rw [Xg,Zk h,hx]
theorem Q7 {α:Type} {xs:List α} {i:Int} (h:¬(0<=i/\i<=(xs.length:Int)-1)):Xg xs i=none:=by rw [Xg,Za h]
theorem JK {α:Type} {xs:List α} {i:Int} {x:α} (h:Xg xs i=some x):(0<=i/\i<=(xs.length:Int)-1)/\xs[i.toNat]? = some x:=by
 rw [Xg] at h
 split at h
 ·rename_i h1;exact ⟨h1,h⟩
 ·cases h
def UK (vars:List Int):List Int->List Int->Bool
 | [],[]=>true
 | a::as1,t::ts=>if Xg vars a=some t then UK vars as1 ts else false
 | _,_=>false
def XN (vars args types:List Int):Bool:=UK vars args types
theorem NQ {vars:List Int}:∀{args types:List Int},args.length≠types.length->UK vars args types=false
 | [],[],h=>absurd rfl h
 | [],_::_,_=>rfl
 | _::_,[],_=>rfl
 | a::as1,t::ts,h=>by
  rw [UK]
  split
  ·exact NQ (by simpa using h)
  ·rfl
theorem Z6x {vars args types:List Int} {k:Nat} {a t:Int} (ha:args[k]? = some a) (ht:types[k]? = some t) (h:Xg vars a=some t) :
  UK vars (args.drop k) (types.drop k)=UK vars (args.drop (k+1)) (types.drop (k+1)):=by
 rw [Yb ha,Yb ht,UK,Zk h]
theorem NP {vars args types:List Int} {k:Nat} {a t:Int} (ha:args[k]? = some a) (ht:types[k]? = some t) (h:Xg vars a≠some t) :
  UK vars (args.drop k) (types.drop k)=false:=by
 rw [Yb ha,Yb ht,UK,Za h]
theorem Z6w {vars args types:List Int} {k:Nat} (ha:args.length<=k) (ht:types.length<=k):UK vars (args.drop k) (types.drop k)=true:=by
 rw [Xz ha,Xz ht];rfl
def WO (op:Int):Bool:=op==0||(op==6||(op==8||(op==9||op==10)))
def Xb (op:Int):Bool:=decide (0<=op/\op<=11)
def YB (op:Int):Bool:=decide (14<=op/\op<=17)
def VN (vars:List Int) (op into:Int):Bool:=
 if into=0 then true else if op=6 then ((Xg vars (into-1)).map fun t=>decide (0<t)).getD false else false
def Q6 (ds:List Zf) (ps:List Int) (res:Int):Int:=WM ds (ps.getLast?.getD 0) res
def Qf (ds:List Zf) (vars:List Int) (op:Int) (args:List Int) (r:Yj):Int:=
 if op=9 then (if XN vars args r.params=true then r.result else -1)
 else if r.params.length=0∨0<r.lent.length∨¬XN vars args (r.params.take (r.params.length-1))=true then -1
 else Q6 ds r.params r.result
def Td (n:Zx) (vars:List Int) (op num:Int) (args:List Int):Int:=
 match Xg n.routines num with
 | none=>-1
 | some r=>Qf n.decls vars op args r
def UQ (ds:List Zf) (vars:List Int) (op:Int) (args:List Int):Int:=
 match args with
 | [a]=>match Xg vars a with
  | some t=>if t=0 then -1 else if (op≠14/\op≠15)/\X0 ds t=true then -1 else 0
  | none=>-1
 | _=>-1
def Tj (ds:List Zf) (vars:List Int) (args:List Int):Int:=
 match args with
 | [a,b]=>match Xg vars a with
  | some t=>if X0 ds t=true then
    (match ds[(t-1).toNat]? with
     | some d=>if XN vars [b] [d.frm]=true then d.to_ else -1
     | none=>-1) else -1
  | none=>-1
 | _=>-1
def X2 (ds:List Zf) (op num:Int):List (List Int):=if op=7 then [[],[]] else (Zu ds num).map (Zw ds)
mutual
def ZK (n:Zx) (vars:List Int):Z4->Int
 | .mk op num into args kids=>
  if (num≠0/\¬WO op=true)∨¬VN vars op into=true∨(0<kids.length/\op≠7/\op≠8) then -1
  else if op=0 then (if args.length=0/\(-999<=num/\num<=999) then 0 else -1)
  else if op=1∨op=2∨op=3∨op=4 then (if XN vars args [0,0]=true then 0 else -1)
  else if op=5 then (if XN vars args [0]=true then 0 else -1)
  else if op=6 then (if 0<Xj n.decls num/\XN vars args (Zw n.decls num)=true then Xj n.decls num else -1)
  else if op=7 then (if XN vars args [0]=true then (if (X2 n.decls op num).length=0∨kids.length≠(X2 n.decls op num).length then -1 else W5 n vars kids (X2 n.decls op num) true 0) else -1)
  else if op=8 then (if XN vars args [num]=true then (if (X2 n.decls op num).length=0∨kids.length≠(X2 n.decls op num).length then -1 else W5 n vars kids (X2 n.decls op num) true 0) else -1)
  else if op=9∨op=10 then Td n vars op num args
  else if op=11 then Tj n.decls vars args
  else if op=14∨op=15∨op=16∨op=17 then UQ n.decls vars op args
  else -1
def W5 (n:Zx) (vars:List Int):List Z6->List (List Int)->Bool->Int->Int
 | [],_,_,t=>t
 | b::bs,more,first,t=>
  match more with
  | []=>-1
  | m::ms=>if YR n (vars++m) b<0∨(first=false/\YR n (vars++m) b≠t) then -1 else W5 n vars bs ms false (YR n (vars++m) b)
def Wu (n:Zx):List Z4->List Int->Option (List Int)
 | [],vars=>some vars
 | s::r,vars=>if ZK n vars s<0 then none else Wu n r (if Xb s.op=true then vars++[ZK n vars s] else vars)
def YR (n:Zx) (vars:List Int):Z6->Int
 | .mk steps result=>match Wu n steps vars with
  | none=>-1
  | some vs=>(Xg vs result).getD (-1)
end
def Ub (n:Zx) (vars:List Int) (op num:Int) (kids:List Z6):Int:=
 if (X2 n.decls op num).length=0∨kids.length≠(X2 n.decls op num).length then -1 else W5 n vars kids (X2 n.decls op num) true 0
mutual
def A0:Z4->Int->Int
 | .mk _ _ _ _ kids,left=>Tt kids left
def W2:Z6->Int->Int
 | .mk steps _,left=>Tb steps left
def Tb:List Z4->Int->Int
 | [],left=>left
 | s::r,left=>if left<1 then -1 else if A0 s (left-1)<0 then -1 else Tb r (A0 s (left-1))
def Tt:List Z6->Int->Int
 | [],left=>left
 | b::r,left=>if W2 b left<0 then -1 else Tt r (W2 b left)
end
def V4 (b:Z6):Int:=if W2 b 600<0 then -1 else 600-W2 b 600
def Jp (n:Zx):List Yj->Bool
 | []=>true
 | r::rs=>if ¬V4 r.body<0/\YR n r.params r.body=r.result then Jp n rs else false
def UL (n:Zx):Bool:=XI n&&Jp n n.routines
theorem Gu:(∀(s:Z4) (l:Int),0<=l->A0 s l<=l)/\(∀(b:Z6) (l:Int),0<=l->W2 b l<=l):=by
 have key:∀m:Nat,(∀s:Z4,s.sz<=m->∀l:Int,0<=l->A0 s l<=l)/\(∀b:Z6,b.sz<=m->∀l:Int,0<=l->W2 b l<=l):=by
  intro m
  induction m with
  | zero=>exact ⟨fun s h=>by have:=s.sz_pos;omega,fun s h=>by have:=s.sz_pos;omega⟩
  | succ m ih=>
   refine ⟨fun s hs l hl=>?_,fun b hb l hl=>?_⟩
   ·cases s with
    | mk op num into args kids=>
     rw [A0]
     have hk:YW kids<=m:=by rw [Z4.sz] at hs;omega
     clear hs
     induction kids generalizing l with
     | nil=>rw [Tt];exact Int.le_refl _
     | cons b r ihr=>
      rw [YW] at hk
      have:=ih.2 b om l hl
      rw [Tt]
      split
      ·omega
      ·have:=ihr (W2 b l) om om;omega
   ·cases b with
    | mk steps res=>
     rw [W2]
     have hk:Ys steps<=m:=by rw [Z6.sz] at hb;omega
     clear hb
     induction steps generalizing l with
     | nil=>rw [Tb];exact Int.le_refl _
     | cons s r ihr=>
      rw [Ys] at hk
      rw [Tb]
      split
      ·omega
      ·have:=ih.1 s om (l-1) om
       split
       ·omega
       ·have:=ihr (A0 s (l-1)) om om;omega
 exact ⟨fun s l hl=>(key s.sz).1 s (X7 _) l hl,fun b l hl=>(key b.sz).2 b (X7 _) l hl⟩
end Go.Abs
namespace Go.Abs
theorem Z5v {l:List Z4} {k:Nat} {s:Z4} (h:l[k]? = some s):k+s.sz<=Ys l:=by
 induction l generalizing k with
 | nil=>simp at h
 | cons t r ih=>
  cases k with
  | zero=>simp at h;subst h;simp only [Ys];omega
  | succ k=>have:=ih (k:=k) (by simpa using h);have:=t.sz_pos;simp only [Ys];omega
theorem AY {b:Z6} {k:Nat} {s:Z4} (h:b.steps[k]? = some s):k+s.sz<b.sz:=by have:=Z5v h;have:=b.sz_eq;omega
structure Xf (n:Zx):Prop where
 decls:Wd n.decls
 len:n.routines.length<=4
 params:∀r∈n.routines,r.params.length<=3
 lent:∀r∈n.routines,r.lent.length<=4194304
theorem Xf.params_at {n:Zx} (h:Xf n) {k:Nat} {r:Yj} (hr:n.routines[k]? = some r):r.params.length<=3:=h.params r (Y6 hr)
theorem Xf.lent_at {n:Zx} (h:Xf n) {k:Nat} {r:Yj} (hr:n.routines[k]? = some r):r.lent.length<=4194304:=h.lent r (Y6 hr)
theorem OG {ds:List Zf} {num:Int} {k:Nat} {x:Int} (h:(Zu ds num)[k]? = some x):(X2 ds 8 num)[k]? = some (Zw ds x):=by
 rw [X2,Za om,Kg,h];rfl
end Go.Abs
namespace Go.Abs
theorem GB {ds:List Zf} (hd:Wd ds) (t:Int):(Zu ds t).length<=3:=by
 rw [Zu]
 split
 ·rename_i h
  obtain ⟨d,hd1⟩:=Zt (xs:=ds) (j:=(t-1).toNat) om
  rw [hd1,Z2d]
  exact hd.cons_at hd1
 ·simp
theorem VK {ds:List Zf} (hd:Wd ds) (c:Int):(Zw ds c).length<=3:=by
 by_cases h:Xj ds c<1
 ·rw [(C5 h).1];simp
 ·obtain ⟨k,d,x,h1,_,h3,_,h5⟩:=Dj h
  rw [h5];exact hd.fields_at h1 h3
theorem HO {ds:List Zf} (hd:Wd ds) {op num:Int} {k:Nat} {m:List Int} (h:(X2 ds op num)[k]? = some m):m.length<=3:=by
 have hm:=Y6 h
 rw [X2] at hm
 split at hm
 ·simp at hm;subst hm;simp
 ·obtain ⟨c,_,rfl⟩:=XW.1 hm;exact VK hd c
theorem Qw {α:Type} {xs:List α} {x:α} (h:xs.length=1) (hx:xs[0]? = some x):xs=[x]:=by
 cases xs with
 | nil=>simp at h
 | cons a r=>
  cases r with
  | nil=>simp at hx;rw [hx]
  | cons b r=>simp at h
theorem Be {ds:List Zf} {us args:List Int} {op:Int} (h:args.length≠1):UQ ds us op args=-1:=by
 cases args with
 | nil=>rfl
 | cons a r=>
  cases r with
  | nil=>simp at h
  | cons b r=>rfl
theorem Bf {ds:List Zf} {us args:List Int} {op a:Int} (h:args=[a]) (hi:¬(0<=a/\a<=(us.length:Int)-1)):UQ ds us op args=-1:=by
 subst h;rw [UQ];simp only [Q7 hi]
theorem Bd {ds:List Zf} {us args:List Int} {op a t:Int} (h:args=[a]) (hi:0<=a/\a<=(us.length:Int)-1) (ht:us[a.toNat]? = some t) :
  UQ ds us op args=if t=0 then -1 else if (op≠14/\op≠15)/\X0 ds t=true then -1 else 0:=by
 subst h;rw [UQ];simp only [Ty hi ht]
theorem Z3j {n:Zx} {us args:List Int} {op num:Int} {r:Yj} (hi:0<=num/\num<=(n.routines.length:Int)-1) (hr:n.routines[num.toNat]? = some r) :
  Td n us op num args=Qf n.decls us op args r:=by
 rw [Td];simp only [Ty hi hr]
theorem Z3l {n:Zx} {us args:List Int} {op num:Int} (hi:¬(0<=num/\num<=(n.routines.length:Int)-1)):Td n us op num args=-1:=by
 rw [Td];simp only [Q7 hi]
theorem Le {xs:List Int} {x:Int} (h:xs[xs.length-1]? = some x):xs.getLast?.getD 0=x:=by
 rw [List.getLast?_eq_getElem?,h];rfl
theorem LK {n:Zx} {us:List Int} {bs:List Z6} {ms:List (List Int)} {b:Z6} {m:List Int} {k:Nat} {t:Int} (hb:bs[k]? = some b) (hm:ms[k]? = some m)
  (h:¬(YR n (us++m) b<0∨(k:Int)>0/\YR n (us++m) b≠t)) :
  W5 n us (bs.drop k) (ms.drop k) (decide (k=0)) t=W5 n us (bs.drop (k+1)) (ms.drop (k+1)) (decide (k+1=0)) (YR n (us++m) b):=by
 rw [Yb hb,Yb hm,W5,Za]
 ·simp
 ·rintro (q|⟨q1,q2⟩)
  ·exact h (.inl q)
  ·exact h (.inr ⟨by simp at q1;omega,q2⟩)
theorem LI {n:Zx} {us:List Int} {bs:List Z6} {ms:List (List Int)} {b:Z6} {m:List Int} {k:Nat} {t:Int} (hb:bs[k]? = some b) (hm:ms[k]? = some m)
  (h:YR n (us++m) b<0∨(k:Int)>0/\YR n (us++m) b≠t) :
  W5 n us (bs.drop k) (ms.drop k) (decide (k=0)) t=-1:=by
 rw [Yb hb,Yb hm,W5,Zk]
 rcases h with q|⟨q1,q2⟩
 ·exact .inl q
 ·exact .inr ⟨by simp;omega,q2⟩
theorem LJ {n:Zx} {us:List Int} {bs:List Z6} {ms:List (List Int)} {k:Nat} {f:Bool} {t:Int} (hb:bs.length<=k):W5 n us (bs.drop k) (ms.drop k) f t=t:=by
 rw [Xz hb,W5]
end Go.Abs
end
namespace Go.Abs
theorem AX (n:Zx) (us:List Int) (s:Z4):ZK n us s =
  if (s.num≠0/\¬WO s.op=true)∨¬VN us s.op s.into=true∨(0<s.kids.length/\s.op≠7/\s.op≠8) then -1
  else if s.op=0 then (if s.args.length=0/\(-999<=s.num/\s.num<=999) then 0 else -1)
  else if s.op=1∨s.op=2∨s.op=3∨s.op=4 then (if XN us s.args [0,0]=true then 0 else -1)
  else if s.op=5 then (if XN us s.args [0]=true then 0 else -1)
  else if s.op=6 then (if 0<Xj n.decls s.num/\XN us s.args (Zw n.decls s.num)=true then Xj n.decls s.num else -1)
  else if s.op=7 then (if XN us s.args [0]=true then Ub n us s.op s.num s.kids else -1)
  else if s.op=8 then (if XN us s.args [s.num]=true then Ub n us s.op s.num s.kids else -1)
  else if s.op=9∨s.op=10 then Td n us s.op s.num s.args
  else if s.op=11 then Tj n.decls us s.args
  else if s.op=14∨s.op=15∨s.op=16∨s.op=17 then UQ n.decls us s.op s.args
  else -1:=by
 cases s with
 | mk op num into args kids=>rw [ZK];rfl
theorem D9 (n:Zx) (us:List Int) (b:Z6):YR n us b=match Wu n b.steps us with
  | none=>-1
  | some vs=>(Xg vs b.result).getD (-1):=by
 cases b with
 | mk st r=>rw [YR];rfl
theorem HN {α:Type} {xs:List α} {x:α} (h:xs.length=2) (hx:xs[0]? = some x):∃y,xs=[x,y]:=by
 match xs,h with
 | [a,b],_=>simp at hx;subst hx;exact ⟨b,rfl⟩
theorem U4 {ds:List Zf} {us args:List Int} (h:args.length≠2):Tj ds us args=-1:=by
 match args,h with
 | [],_=>rfl
 | [_],_=>rfl
 | [_,_],h=>simp at h
 | _::_::_::_,_=>rfl
theorem U5 {ds:List Zf} {us args:List Int} {a:Int} (hl:args.length=2) (h:args[0]? = some a) (hi:¬(0<=a/\a<=(us.length:Int)-1)):Tj ds us args=-1:=by
 obtain ⟨y,rfl⟩:=HN hl h;rw [Tj];simp only [Q7 hi]
theorem VW {ds:List Zf} {us args:List Int} {a t:Int} (hl:args.length=2) (h:args[0]? = some a) (hi:0<=a/\a<=(us.length:Int)-1) (ht:us[a.toNat]? = some t) :
  Tj ds us args=if X0 ds t=true then
    (match ds[(t-1).toNat]? with
     | some d=>if XN us (args.drop 1) [d.frm]=true then d.to_ else -1
     | none=>-1) else -1:=by
 obtain ⟨y,rfl⟩:=HN hl h;rw [Tj];simp only [Ty hi ht];rfl
theorem Oy {ds:List Zf} {us args:List Int} {a t:Int} {d:Zf} (hl:args.length=2) (h:args[0]? = some a) (hi:0<=a/\a<=(us.length:Int)-1) (ht:us[a.toNat]? = some t)
  (hA:X0 ds t=true) (hd:ds[(t-1).toNat]? = some d):Tj ds us args=if XN us (args.drop 1) [d.frm]=true then d.to_ else -1:=by
 rw [VW hl h hi ht,Zk hA];simp only [hd]
theorem Gf {ds:List Zf} {t:Int} (h:X0 ds t=true):1<=t/\t<=ds.length:=by
 simp only [X0,XQ,decide_eq_true_eq] at h;exact h.1
theorem LQ (b:Z6) (l:Int):W2 b l=Tb b.steps l:=by cases b;rw [W2];rfl
theorem E2 (s:Z4) (l:Int):A0 s l=Tt s.kids l:=by cases s;rw [A0];rfl
structure Qt (n:Zx):Prop where
 decls:Qr n.decls
 len:n.routines.length<=4194304
 params:∀r∈n.routines,r.params.length<=4194304
 lent:∀r∈n.routines,r.lent.length<=4194304
 body:∀r∈n.routines,r.body.sz<=10000000
theorem Er {m:Nat} {fs:List Sg} (h:QO m fs=true):∀f∈fs,Qg m f=true:=by
 induction fs with
 | nil=>simp
 | cons f r ih=>
  rw [QO] at h
  split at h
  ·rename_i h1
   intro g hg
   rcases YP.1 hg with rfl|hg
   ·exact h1
   ·exact ih h g hg
  ·cases h
theorem E7 {n:Zx} (hz:Qt n) (h:XI n=true):Xf n:=by
 simp only [XI,TH,XQ,decide_eq_true_eq] at h
 obtain ⟨h1,⟨h2,h3,h4,h5⟩,h6⟩:=h
 refine ⟨Z76 h2,h1,fun r hr=>?_,hz.lent⟩
 have:=Er h4 (Vn r) (XW.2 ⟨r,hr,rfl⟩)
 simp only [Qg,XQ,decide_eq_true_eq] at this
 exact this.1
def gI (xs:List Int) (i:Int):Int:=xs[i.toNat]?.getD 0
theorem US {xs:List Int} {i:Int} {x:Int} (h:xs[i.toNat]? = some x):gI xs i=x:=by rw [gI,h];rfl
structure ZG where
 vars:List Int
 own:List Int
 par:List Int
 con:List Int
 fst:List Int
 tok:List Int
def ZG.grow (L:ZG) (t own par:Int):ZG:=⟨L.vars++[t],L.own++[own],L.par++[par],L.con++[-1],L.fst++[-1],L.tok++[-1]⟩
def Th (L:ZG) (v:Int):Option ZG:=if gI L.own v<1 then none else some { L with own:=L.own.set v.toNat (gI L.own v-1) }
def TO (own par ln:List Int):Nat->Int->Bool
 | 0,_=>false
 | k+1,v=>if gI own v<1/\¬v∈ln then (if gI par v<0 then false else TO own par ln k (gI par v)) else true
def Vz (L:ZG) (ln:List Int) (v:Int):Bool:=TO L.own L.par ln (v.toNat+1) v
def Tx:List Int->Int->List Int->List Int
 | own,_,[]=>own
 | own,p,f::r=>Tx (if f≠0 then own.set p.toNat (gI own p+1) else own) (p+1) r
def Kz (ds:List Zf) (L:ZG) (op x:Int):Option ZG:=
 if gI L.con x<0∨(op=17/\0<=gI L.tok x) then none
 else match Th L x with
  | none=>none
  | some L1=>some { L1 with
    own:=Tx L1.own (gI L.fst x) (Zw ds (gI L.con x))
    tok:=if op=17 then L.tok.set x.toNat (Zw ds (gI L.con x)).length else L.tok }
def T1 (op:Int):Bool:=op==6||(op==9||(op==10||op==11))
def E4 (n:Zx) (op num:Int):List Int:=if op=9 then ((n.routines[num.toNat]?).map (·.lent)).getD [] else []
def WK (n:Zx) (op num:Int) (i:Nat):Bool:=decide ((i:Int)∈E4 n op num)
def UO (n:Zx) (vars:List Int) (op num a:Int) (i:Nat):Bool:=T1 op&&(gI vars a != 0&&!WK n op num i)
def Qb (n:Zx) (op num:Int):List Int->Nat->ZG->Option ZG
 | [],_,L=>some L
 | a::r,i,L=>if UO n L.vars op num a i=true then (match Th L a with
   | none=>none
   | some L1=>Qb n op num r (i+1) L1) else Qb n op num r (i+1) L
def JW (n:Zx) (op num:Int) (ln:List Int) (L:ZG):List Int->Nat->Bool
 | [],_=>true
 | a::r,i=>if WK n op num i=true/\¬Vz L ln a=true then false else JW n op num ln L r (i+1)
def Ci (L:ZG) (into:Int) (m:Nat):Option ZG:=
 if 0<into then (if gI L.tok (into-1)≠m then none else some { L with tok:=L.tok.set (into-1).toNat (-1) }) else some L
def K3 (n:Zx) (ln:List Int) (L:ZG) (op num into:Int) (args:List Int):Option ZG:=
 match Qb n op num args 0 L with
 | none=>none
 | some L1=>if JW n op num ln L1 args 0=true then Ci L1 into args.length else none
def Aj:List Int->List Int->Bool
 | o::os,t::ts=>if o≠0∨0<=t then false else Aj os ts
 | _,_=>true
def ZG.take (L:ZG) (m:Nat):ZG:=⟨L.vars.take m,L.own.take m,L.par.take m,L.con.take m,L.fst.take m,L.tok.take m⟩
def Ko (L:ZG) (m:Nat):Option ZG:=if Aj (L.own.drop m) (L.tok.drop m)=true then some (L.take m) else none
def AI (L:ZG) (par:Int):List Int->ZG
 | []=>L
 | t::r=>AI (L.grow t 0 par) par r
def KW (ds:List Zf) (L:ZG) (x c:Int):ZG:=
 AI { L with con:=L.con.set x.toNat c,fst:=L.fst.set x.toNat L.vars.length } x (Zw ds c)
def UU (ds:List Zf) (L:ZG) (op num:Int) (args:List Int) (i:Nat):ZG:=
 if op=8 then KW ds L (gI args 0) (gI (Zu ds num) i) else L
def Jn (lent:List Int):List Int->Nat->ZG->ZG
 | [],_,L=>L
 | t::r,i,L=>Jn lent r (i+1) (L.grow t (if t≠0/\¬(i:Int)∈lent then 1 else 0) (-1))
def QK (r:Yj):ZG:=Jn r.lent r.params 0 ⟨[],[],[],[],[],[]⟩
def AA (L:ZG) (ln:List Int) (v:Int):Option ZG:=if Vz L ln v=true then some { L with own:=L.own.set v.toNat (gI L.own v+1) } else none
def K8 (n:Zx) (ln:List Int) (L:ZG) (op num into:Int) (args:List Int) (ch:Option ZG):Option ZG:=
 if op=14 then AA L ln (gI args 0)
 else if op=15 then Th L (gI args 0)
 else if op=16∨op=17 then Kz n.decls L op (gI args 0)
 else if op=7∨op=8 then (if op=8/\¬Vz L ln (gI args 0)=true then none else ch)
 else K3 n ln L op num into args
def Ku (L:ZG) (op t:Int) (r:Option ZG):Option ZG:=
 match r with
 | none=>none
 | some L1=>if Xb op=true then some (L1.grow t (if t≠0 then 1 else 0) (-1)) else some L1
def AP (L:ZG) (first:Option ZG) (rest:ZG->Bool):Option ZG:=
 match first with
 | none=>none
 | some one=>if rest one=true then some { L with own:=one.own,tok:=one.tok } else none
def Eo (one:ZG) (two:Option ZG) (rest:Bool):Bool:=
 match two with
 | none=>false
 | some two=>if one.own=two.own/\one.tok=two.tok then rest else false
def CS (r:Option ZG) (f:ZG->Option ZG):Option ZG:=match r with|none=>none|some L=>f L
def Kt (m:Nat) (res:Int) (L:ZG):Option ZG:=CS (if gI L.vars res≠0 then Th L res else some L) fun L2=>Ko L2 m
mutual
def TF (n:Zx) (ln:List Int) (L:ZG):Z4->Option ZG
 | .mk op num into args kids=>Ku L op (ZK n L.vars (.mk op num into args kids)) (K8 n ln L op num into args (QG n ln L op num args kids))
def QG (n:Zx) (ln:List Int) (L:ZG) (op num:Int) (args:List Int):List Z6->Option ZG
 | []=>none
 | b::bs=>AP L (VA n ln (UU n.decls L op num args 0) L.vars.length b) fun one=>K6 n ln L op num args one bs 1
def K6 (n:Zx) (ln:List Int) (L:ZG) (op num:Int) (args:List Int) (one:ZG):List Z6->Nat->Bool
 | [],_=>true
 | b::bs,i=>Eo one (VA n ln (UU n.decls L op num args i) L.vars.length b) (K6 n ln L op num args one bs (i+1))
def Kc (n:Zx) (ln:List Int) (L:ZG):List Z4->Option ZG
 | []=>some L
 | s::r=>CS (TF n ln L s) fun L1=>Kc n ln L1 r
def VA (n:Zx) (ln:List Int) (L:ZG) (m:Nat):Z6->Option ZG
 | .mk steps result=>CS (Kc n ln L steps) (Kt m result)
end
theorem NB (n:Zx) (ln:List Int) (L:ZG) (s:Z4):TF n ln L s=Ku L s.op (ZK n L.vars s) (K8 n ln L s.op s.num s.into s.args (QG n ln L s.op s.num s.args s.kids)):=by
 cases s with
 | mk op num into args kids=>rw [TF];rfl
theorem F6 (n:Zx) (ln:List Int) (L:ZG) (m:Nat) (b:Z6):VA n ln L m b=CS (Kc n ln L b.steps) (Kt m b.result):=by
 cases b with
 | mk st r=>rw [VA];rfl
structure U3 (L:ZG):Prop where
 own:L.own.length=L.vars.length
 par:L.par.length=L.vars.length
 con:L.con.length=L.vars.length
 fst:L.fst.length=L.vars.length
 tok:L.tok.length=L.vars.length
structure Xx (ds:List Zf) (L:ZG) (q:Int):Prop where
 len:U3 L
 down:∀j:Int,0<=j->j<L.vars.length->gI L.par j<j
 arm:∀x:Int,0<=x->x<L.vars.length->0<=gI L.con x->0<=gI L.fst x/\gI L.fst x+(Zw ds (gI L.con x)).length<=L.vars.length
 nn:∀x∈L.own,0<=x
 bd:∀x∈L.own,x<=q
end Go.Abs
section
namespace Go.Abs
end Go.Abs
namespace Go.Abs
theorem Z1t {n:Zx} {op num:Int} {r:Yj} (h:op=9) (hr:n.routines[num.toNat]? = some r):E4 n op num=r.lent:=by
 rw [E4,Zk h,hr];rfl
end Go.Abs
namespace Go.Abs
theorem Oh {own par ln:List Int} {N:Int} (hd:∀j:Int,0<=j->j<N->gI par j<j):∀(k:Nat) (v:Int),0<=v->v<N->v.toNat+1<=k->TO own par ln k v=TO own par ln (v.toNat+1) v:=by
 intro k
 induction k using Nat.strongRecOn with
 | ind k ih=>
  intro v h0 hN hk
  cases k with
  | zero=>omega
  | succ k=>
   rw [TO,TO]
   split
   ·split
    ·rfl
    ·have hdv:=hd v h0 hN
     rw [ih k om (gI par v) om om om]
     rw [ih v.toNat om (gI par v) om om om]
   ·rfl
theorem Oj {own par ln:List Int} {N j x1 x2:Int} {r:Bool} (h1:gI own j=x1) (h2:gI par j=x2) (hj:0<=j/\j<N) (hx:x1<1/\¬j∈ln) (h0:¬x2<0) (hd:∀i:Int,0<=i->i<N->gI par i<i)
  (h:TO own par ln (j.toNat+1) j=r):TO own par ln (x2.toNat+1) x2=r:=by
 rw [TO,h1,h2,Zk hx,Za h0] at h
 have hdv:=hd j hj.1 hj.2
 rw [<-h,Oh hd j.toNat x2 om om om]
theorem Oi {own par ln:List Int} {j x1 x2:Int} {r:Bool} (h1:gI own j=x1) (h2:gI par j=x2) (hx:x1<1/\¬j∈ln) (h0:x2<0) (h:TO own par ln (j.toNat+1) j=r):false=r:=by
 rw [TO,h1,h2,Zk hx,Zk h0] at h;exact h
theorem Ok {own par ln:List Int} {j x1:Int} {r:Bool} (h1:gI own j=x1) (hx:¬(x1<1/\¬j∈ln)) (h:TO own par ln (j.toNat+1) j=r):true=r:=by
 rw [TO,h1,Za hx] at h;exact h
end Go.Abs
namespace Go.Abs
theorem Kd {L L':ZG} {v:Int} (h:Th L v=some L'):1<=gI L.own v/\L'.vars=L.vars/\L'.par=L.par/\L'.con=L.con/\L'.fst=L.fst/\L'.tok=L.tok/\L'.own=L.own.set v.toNat (gI L.own v-1):=by
 rw [Th] at h
 split at h
 ·cases h
 ·cases h;exact ⟨by omega,rfl,rfl,rfl,rfl,rfl,rfl⟩
theorem FT {xs:List Int} {v:Int} (h:gI xs v≠0):gI xs v∈xs:=by
 rw [gI] at h ⊢
 cases hx:xs[v.toNat]? with
 | none=>rw [hx] at h;exact absurd rfl h
 | some y=>exact Y6 hx
theorem QJ {xs:List Int} {i:Nat} {a x:Int} (h:x∈xs.set i a):x∈xs∨x=a:=List.mem_or_eq_of_mem_set h
theorem Xx.take {ds:List Zf} {L L':ZG} {q v:Int} (hk:Xx ds L q) (h:Th L v=some L'):Xx ds L' q:=by
 obtain ⟨t1,t2,t3,t4,t5,t6,t7⟩:=Kd h
 obtain ⟨f1,f2,f3,f4,f5⟩:=hk.len
 have hm:=FT (xs:=L.own) (v:=v) om
 refine ⟨⟨by rw [t7,t2,UM];exact f1,by rw [t3,t2];exact f2,by rw [t4,t2];exact f3,by rw [t5,t2];exact f4,by rw [t6,t2];exact f5⟩,?_,?_,?_,?_⟩
 ·rw [t2,t3];exact hk.down
 ·rw [t2,t4,t5];exact hk.arm
 ·rw [t7];intro x hx
  rcases QJ hx with hx|rfl
  ·exact hk.nn x hx
  ·omega
 ·rw [t7];intro x hx
  rcases QJ hx with hx|rfl
  ·exact hk.bd x hx
  ·have:=hk.bd _ hm;omega
end Go.Abs
end
namespace Go.Abs
theorem Hq {us:List Int}:∀{args tys:List Int},UK us args tys=true->args.length=tys.length/\∀a∈args,0<=a/\a<us.length
 | [],[],_=>⟨rfl,by simp⟩
 | [],_::_,h=>by cases h
 | _::_,[],h=>by cases h
 | a::as1,t::ts,h=>by
  rw [UK] at h
  split at h
  ·rename_i h1
   obtain ⟨q1,q2⟩:=Hq h
   refine ⟨by simp [q1],fun x hx=>?_⟩
   rcases YP.1 hx with rfl|hx
   ·have:=(JK h1).1;omega
   ·exact q2 x hx
  ·cases h
theorem LG {n:Zx} {us:List Int}:∀{bs:List Z6} {ms:List (List Int)} {f:Bool} {t:Int},0<=t->0<=W5 n us bs ms f t ->
  ∀(i:Nat) (b:Z6) (m:List Int),bs[i]? = some b->ms[i]? = some m->0<=YR n (us++m) b
 | [],_,_,_,_,_,i,b,m,hb,_=>by simp at hb
 | b::bs,[],_,_,_,h,_,_,_,_,hm=>by simp at hm
 | b::bs,m::ms,f,t,ht,h,i,c,l,hc,hl=>by
  rw [W5] at h
  split at h
  ·omega
  ·rename_i hq
   have h0:0<=YR n (us++m) b:=by
    rcases Int.lt_or_le (YR n (us++m) b) 0 with q|q
    ·exact absurd (.inl q) hq
    ·exact q
   cases i with
   | zero=>simp at hc hl;subst hc hl;exact h0
   | succ i=>exact LG h0 h i c l (by simpa using hc) (by simpa using hl)
structure Ar (n:Zx) (us:List Int) (s:Z4):Prop where
 args:∀a∈s.args,0<=a/\a<us.length
 one:(s.op=7∨s.op=8∨(14<=s.op/\s.op<=17))->∃a,s.args=[a]
 num:s.op=9->0<=s.num/\s.num<n.routines.length
 into:s.into≠0->1<=s.into/\s.into<=us.length
 kids:(s.op=7∨s.op=8)->s.kids.length=(X2 n.decls s.op s.num).length/\(X2 n.decls s.op s.num).length≠0 /\
  ∀(i:Nat) (b:Z6) (m:List Int),s.kids[i]? = some b->(X2 n.decls s.op s.num)[i]? = some m->0<=YR n (us++m) b
theorem Z1e {n:Zx} {us:List Int} {op num:Int} {kids:List Z6} (h:0<=Ub n us op num kids) :
  kids.length=(X2 n.decls op num).length/\(X2 n.decls op num).length≠0/\∀(i:Nat) (b:Z6) (m:List Int),kids[i]? = some b->(X2 n.decls op num)[i]? = some m->0<=YR n (us++m) b:=by
 rw [Ub] at h
 split at h
 ·omega
 ·rename_i hq
  exact ⟨by omega,by omega,LG (Int.le_refl 0) h⟩
theorem LT {xs:List Int} (h:xs.length=1):∃a,xs=[a]:=by
 match xs,h with
 | [a],_=>exact ⟨a,rfl⟩
theorem ND {n:Zx} {us:List Int} {s:Z4} (h:0<=ZK n us s):Ar n us s:=by
 rw [AX] at h
 split at h
 ·omega
 rename_i h0
 have hinto:s.into≠0->1<=s.into/\s.into<=us.length:=by
  intro hi
  have hv:VN us s.op s.into=true:=by
   cases q:VN us s.op s.into with
   | true=>rfl
   | false=>exact absurd (.inr (.inl (by rw [q];simp))) h0
  rw [VN,Za hi] at hv
  split at hv
  ·cases ha:Xg us (s.into-1) with
   | none=>rw [ha] at hv;cases hv
   | some t=>have:=(JK ha).1;omega
  ·cases hv
 have mk:(∀a∈s.args,0<=a/\a<us.length)->((s.op=7∨s.op=8∨(14<=s.op/\s.op<=17))->∃a,s.args=[a])->(s.op=9->0<=s.num/\s.num<n.routines.length) ->
   ((s.op=7∨s.op=8)->0<=Ub n us s.op s.num s.kids)->Ar n us s:=fun a b c d=>⟨a,b,c,hinto,fun q=>Z1e (d q)⟩
 have ty:∀{tys},XN us s.args tys=true->s.args.length=tys.length/\∀a∈s.args,0<=a/\a<us.length:=fun q=>Hq q
 split at h
 ·rename_i h1
  split at h
  ·rename_i h2
   exact mk (by rw [List.eq_nil_of_length_eq_zero h2.1];simp) om om om
  ·omega
 split at h
 ·split at h
  ·rename_i h1 h2;exact mk (ty h2).2 om om om
  ·omega
 split at h
 ·split at h
  ·rename_i h1 h2;exact mk (ty h2).2 om om om
  ·omega
 split at h
 ·split at h
  ·rename_i h1 h2;exact mk (ty h2.2).2 om om om
  ·omega
 split at h
 ·split at h
  ·rename_i h1 h2;exact mk (ty h2).2 (fun _=>LT (by simpa using (ty h2).1)) om (fun _=>h)
  ·omega
 split at h
 ·split at h
  ·rename_i h1 h2;exact mk (ty h2).2 (fun _=>LT (by simpa using (ty h2).1)) om (fun _=>h)
  ·omega
 split at h
 ·rename_i hop
  rw [Td] at h
  cases hr:Xg n.routines s.num with
  | none=>rw [hr] at h;simp at h
  | some r=>
   rw [hr] at h
   simp only at h
   have hn:=(JK hr).1
   rw [Qf] at h
   split at h
   ·split at h
    ·rename_i h2;exact mk (ty h2).2 om om om
    ·omega
   ·split at h
    ·omega
    ·rename_i h2
     have h3:XN us s.args (r.params.take (r.params.length-1))=true:=by
      cases q:XN us s.args (r.params.take (r.params.length-1)) with
      | true=>rfl
      | false=>exact absurd (.inr (.inr (by rw [q];simp))) h2
     exact mk (ty h3).2 om om om
 split at h
 ·rename_i hop
  rcases he:s.args with _|⟨a,_|⟨b,_|⟨c,r⟩⟩⟩
  ·rw [he,show Tj n.decls us []=-1 from rfl] at h;omega
  ·rw [he,show Tj n.decls us [a]=-1 from rfl] at h;omega
  ·rw [he,Tj] at h
   cases ha:Xg us a with
   | none=>rw [ha] at h;simp at h
   | some t=>
    rw [ha] at h
    simp only at h
    split at h
    ·cases hd:n.decls[(t-1).toNat]? with
     | none=>rw [hd] at h;simp at h
     | some d=>
      rw [hd] at h
      simp only at h
      split at h
      ·rename_i h3
       have h4:=(Hq h3).2 b (by simp)
       have h5:=(JK ha).1
       refine mk (fun x hx=>?_) om om om
       rw [he] at hx
       rcases YP.1 hx with rfl|hx
       ·omega
       ·rw [XJ.1 hx];exact h4
      ·omega
    ·omega
  ·rw [he,show Tj n.decls us (a::b::c::r)=-1 from rfl] at h;omega
 split at h
 ·rename_i hop
  rcases he:s.args with _|⟨a,_|⟨b,r⟩⟩
  ·rw [he,show UQ n.decls us s.op []=-1 from rfl] at h;omega
  ·rw [he,UQ] at h
   cases ha:Xg us a with
   | none=>rw [ha] at h;simp at h
   | some t=>
    have h5:=(JK ha).1
    refine mk (fun x hx=>?_) (fun _=>⟨a,he⟩) om om
    rw [he] at hx
    rw [XJ.1 hx];omega
  ·rw [he,show UQ n.decls us s.op (a::b::r)=-1 from rfl] at h;omega
 ·omega
def Q0 (n:Zx) (us:List Int) (s:Z4):List Int:=if Xb s.op=true then us++[ZK n us s] else us
theorem Io {L L':ZG} {ln:List Int} {v:Int} (h:AA L ln v=some L'):L'.vars=L.vars/\L'.par=L.par/\L'.con=L.con/\L'.fst=L.fst/\L'.tok=L.tok/\L'.own=L.own.set v.toNat (gI L.own v+1):=by
 rw [AA] at h
 split at h
 ·cases h;exact ⟨rfl,rfl,rfl,rfl,rfl,rfl⟩
 ·cases h
theorem EY:∀(fs:List Int) (own:List Int) (p:Int),(Tx own p fs).length=own.length
 | [],own,p=>rfl
 | f::r,own,p=>by rw [Tx,EY r];split<;>simp
theorem FP {xs:List Int} {q v:Int} (h:∀x∈xs,x<=q) (hq:0<=q):gI xs v<=q:=by
 by_cases h0:gI xs v=0
 ·omega
 ·exact h _ (FT h0)
theorem FU {xs:List Int} {v:Int} (h:∀x∈xs,0<=x):0<=gI xs v:=by
 by_cases h0:gI xs v=0
 ·omega
 ·exact h _ (FT h0)
theorem EZ:∀(fs:List Int) (own:List Int) (p:Int),(∀x∈own,0<=x)->∀x∈Tx own p fs,0<=x
 | [],own,p,h=>h
 | f::r,own,p,h=>by
  rw [Tx]
  refine EZ r _ _ fun x hx=>?_
  split at hx
  ·rcases QJ hx with hx|rfl
   ·exact h x hx
   ·have:=FU (v:=p) h;omega
  ·exact h x hx
theorem EX:∀(fs:List Int) (own:List Int) (p q:Int),0<=q->(∀x∈own,x<=q)->∀x∈Tx own p fs,x<=q+fs.length
 | [],own,p,q,hq,h=>by intro x hx;have:=h x hx;simp;omega
 | f::r,own,p,q,hq,h=>by
  intro x hx
  rw [Tx] at hx
  have:=EX r _ _ (q+1) om (fun y hy=>by
   split at hy
   ·rcases QJ hy with hy|rfl
    ·have:=h y hy;omega
    ·have:=FP (v:=p) h hq;omega
   ·have:=h y hy;omega) x hx
  simp only [YQ];omega
theorem Mp {ds:List Zf} {L L':ZG} {op v:Int} (h:Kz ds L op v=some L'):L'.vars=L.vars/\L'.par=L.par/\L'.con=L.con/\L'.fst=L.fst/\L'.tok.length=L.tok.length /\
  ∃L1,Th L v=some L1/\L'.own=Tx L1.own (gI L.fst v) (Zw ds (gI L.con v)):=by
 rw [Kz] at h
 split at h
 ·cases h
 ·cases ht:Th L v with
  | none=>rw [ht] at h;cases h
  | some L1=>
   rw [ht] at h
   simp only at h
   obtain ⟨t1,t2,t3,t4,t5,t6,t7⟩:=Kd ht
   cases h
   refine ⟨t2,t3,t4,t5,?_,L1,rfl,rfl⟩
   split
   ·rw [UM]
   ·rfl
theorem G5 {n:Zx} {op num:Int} {ds:List Zf} {q:Int}:∀{as1:List Int} {i:Nat} {L L':ZG},Xx ds L q->Qb n op num as1 i L=some L'->Xx ds L' q/\L'.vars=L.vars/\L'.par=L.par/\L'.con=L.con/\L'.fst=L.fst/\L'.tok=L.tok
 | [],i,L,L',hk,h=>by rw [Qb] at h;cases h;exact ⟨hk,rfl,rfl,rfl,rfl,rfl⟩
 | a::r,i,L,L',hk,h=>by
  rw [Qb] at h
  split at h
  ·cases ht:Th L a with
   | none=>rw [ht] at h;cases h
   | some L1=>
    rw [ht] at h
    obtain ⟨t1,t2,t3,t4,t5,t6,t7⟩:=Kd ht
    obtain ⟨k1,k2,k3,k4,k5,k6⟩:=G5 (hk.take ht) h
    exact ⟨k1,k2.trans t2,k3.trans t3,k4.trans t4,k5.trans t5,k6.trans t6⟩
  ·exact G5 hk h
theorem Xx.le {ds:List Zf} {L:ZG} {q q':Int} (h:Xx ds L q) (hq:q<=q'):Xx ds L q':=⟨h.len,h.down,h.arm,h.nn,fun x hx=>Int.le_trans (h.bd x hx) hq⟩
theorem Xx.turn {ds:List Zf} {L L':ZG} {q q':Int} (hk:Xx ds L q) (h1:L'.vars=L.vars) (h2:L'.par=L.par) (h3:L'.con=L.con) (h4:L'.fst=L.fst) (h5:L'.tok.length=L.tok.length) (h6:L'.own.length=L.own.length)
  (h7:∀x∈L'.own,0<=x) (h8:∀x∈L'.own,x<=q'):Xx ds L' q':=by
 obtain ⟨f1,f2,f3,f4,f5⟩:=hk.len
 refine ⟨⟨by rw [h6,h1];exact f1,by rw [h2,h1];exact f2,by rw [h3,h1];exact f3,by rw [h4,h1];exact f4,by rw [h5,h1];exact f5⟩,?_,?_,h7,h8⟩
 ·rw [h1,h2];exact hk.down
 ·rw [h1,h3,h4];exact hk.arm
theorem JU {xs ys:List Int} {j:Int} (h:j.toNat<xs.length):gI (xs++ys) j=gI xs j:=by
 rw [gI,gI,BS h]
theorem FQ {xs:List Int} {y:Int} {j:Int} (h:j.toNat=xs.length):gI (xs++[y]) j=y:=by
 rw [gI,h];simp
theorem Xx.grow {ds:List Zf} {L:ZG} {q t o p:Int} (hk:Xx ds L q) (hp:p<L.vars.length) (ho:0<=o/\o<=q):Xx ds (L.grow t o p) q:=by
 obtain ⟨f1,f2,f3,f4,f5⟩:=hk.len
 refine ⟨⟨by simp [ZG.grow,f1],by simp [ZG.grow,f2],by simp [ZG.grow,f3],by simp [ZG.grow,f4],by simp [ZG.grow,f5]⟩,?_,?_,?_,?_⟩
 ·intro j hj hl
  simp only [ZG.grow,Yu,EM] at hl ⊢
  by_cases hlt:j<L.vars.length
  ·rw [JU om];exact hk.down j hj hlt
  ·rw [FQ om];omega
 ·intro x hx hl
  simp only [ZG.grow,Yu,EM] at hl ⊢
  by_cases hlt:x<L.vars.length
  ·rw [JU om,JU om]
   intro hc
   have:=hk.arm x hx hlt hc
   exact ⟨this.1,by omega⟩
  ·rw [FQ om];omega
 ·intro x hx
  simp only [ZG.grow,Xa,XJ] at hx
  rcases hx with hx|rfl
  ·exact hk.nn x hx
  ·exact ho.1
 ·intro x hx
  simp only [ZG.grow,Xa,XJ] at hx
  rcases hx with hx|rfl
  ·exact hk.bd x hx
  ·exact ho.2
theorem FV {xs:List Int} {k:Nat} {a:Int} {j:Int} (h:xs.length<=j.toNat/\j.toNat<xs.length+k):gI (xs++List.replicate k a) j=a:=by
 rw [gI,EK h.1,List.getElem?_replicate,Zk om];rfl
theorem DE {xs:List Int} {x j c:Int} (h:j.toNat=x.toNat) (hl:x.toNat<xs.length):gI (xs.set x.toNat c) j=c:=by
 rw [gI,h,List.getElem?_set_self hl];rfl
theorem DF {xs:List Int} {x j c:Int} (h:j.toNat≠x.toNat):gI (xs.set x.toNat c) j=gI xs j:=by
 rw [gI,gI,List.getElem?_set_ne (fun q=>h q.symm)]
theorem G4 {p:Int}:∀(fs:List Int) (L:ZG),AI L p fs=⟨L.vars++fs,L.own++List.replicate fs.length 0,L.par++List.replicate fs.length p,L.con++List.replicate fs.length (-1),
  L.fst++List.replicate fs.length (-1),L.tok++List.replicate fs.length (-1)⟩
 | [],L=>by simp [AI]
 | t::r,L=>by rw [AI,G4 r];simp [ZG.grow,HA]
theorem OE {ds:List Zf} {L:ZG} {q x c:Int} (hk:Xx ds L q) (hq:0<=q) (hx:0<=x/\x<L.vars.length):Xx ds (KW ds L x c) q/\(KW ds L x c).vars=L.vars++Zw ds c:=by
 obtain ⟨f1,f2,f3,f4,f5⟩:=hk.len
 rw [KW,G4]
 refine ⟨⟨⟨by simp [f1],by simp [f2],by simp [f3],by simp [f4],by simp [f5]⟩,?_,?_,?_,?_⟩,rfl⟩
 ·intro j hj hl
  simp only [Yu] at hl ⊢
  by_cases hlt:j<L.vars.length
  ·rw [JU om];exact hk.down j hj hlt
  ·rw [FV om];omega
 ·intro y hy hl
  simp only [Yu] at hl ⊢
  by_cases hlt:y<L.vars.length
  ·rw [JU (by simp;omega),JU (by simp;omega)]
   by_cases he:y.toNat=x.toNat
   ·rw [DE he om,DE he om]
    intro _
    exact ⟨by omega,by simp⟩
   ·rw [DF he,DF he]
    intro hc
    have:=hk.arm y hy hlt hc
    exact ⟨this.1,by omega⟩
  ·rw [FV (by simp;omega)];omega
 ·intro y hy
  simp only [Xa,List.mem_replicate] at hy
  rcases hy with hy|⟨_,rfl⟩
  ·exact hk.nn y hy
  ·exact Int.le_refl 0
 ·intro y hy
  simp only [Xa,List.mem_replicate] at hy
  rcases hy with hy|⟨_,rfl⟩
  ·exact hk.bd y hy
  ·exact hq
theorem DY {n:Zx} {L:ZG} {q:Int} {s:Z4} {i:Nat} {m:List Int} (hk:Xx n.decls L q) (hq:0<=q) (hf:Ar n L.vars s) (hop:s.op=7∨s.op=8) (hm:(X2 n.decls s.op s.num)[i]? = some m) :
  Xx n.decls (UU n.decls L s.op s.num s.args i) q/\(UU n.decls L s.op s.num s.args i).vars=L.vars++m:=by
 rw [UU]
 split
 ·rename_i h8
  obtain ⟨a,ha⟩:=hf.one om
  have hb:=hf.args a (by rw [ha];simp)
  have hg:gI s.args 0=a:=by rw [ha];rfl
  rw [X2,Za om,Kg] at hm
  cases hc:(Zu n.decls s.num)[i]? with
  | none=>rw [hc] at hm;cases hm
  | some c=>
   rw [hc] at hm
   cases hm
   have hgc:gI (Zu n.decls s.num) (i:Int)=c:=by rw [gI];simp [hc]
   rw [hg,hgc]
   exact OE hk hq hb
 ·rename_i h8
  rw [X2,Zk om] at hm
  have:m=[]:=by
   match i,hm with
   | 0,hm=>simpa using hm.symm
   | 1,hm=>simpa using hm.symm
   | i+2,hm=>simp at hm
  subst this
  exact ⟨hk,by simp⟩
theorem NE {n:Zx}:∀{l:List Z4} {us vs:List Int},Wu n l us=some vs->us.length<=vs.length
 | [],us,vs,h=>by rw [Wu] at h;cases h;exact X7 _
 | s::r,us,vs,h=>by
  rw [Wu] at h
  split at h
  ·cases h
  ·have:=NE h
   split at this
   ·simp only [Yu,EM] at this;omega
   ·exact this
theorem Lf {n:Zx} {ln:List Int} {L L':ZG} {op num into q:Int} {args:List Int} {ds:List Zf} (hk:Xx ds L q) (h:K3 n ln L op num into args=some L'):Xx ds L' q/\L'.vars=L.vars:=by
 rw [K3] at h
 cases ht:Qb n op num args 0 L with
 | none=>rw [ht] at h;cases h
 | some L1=>
  rw [ht] at h
  simp only at h
  obtain ⟨k1,k2,k3,k4,k5,k6⟩:=G5 hk ht
  split at h
  ·rw [Ci] at h
   split at h
   ·split at h
    ·cases h
    ·cases h
     exact ⟨k1.turn rfl rfl rfl rfl (by simp) rfl k1.nn k1.bd,k2⟩
   ·cases h;exact ⟨k1,k2⟩
  ·cases h
theorem Ps {L L':ZG} {m:Nat} (h:Ko L m=some L'):L'=L.take m/\Aj (L.own.drop m) (L.tok.drop m)=true:=by
 rw [Ko] at h
 split at h
 ·rename_i hz;cases h;exact ⟨rfl,hz⟩
 ·cases h
theorem Hp {r:Option ZG} {f:ZG->Option ZG} {L:ZG} (h:CS r f=some L):∃L1,r=some L1/\f L1=some L:=by
 cases r with
 | none=>cases h
 | some L1=>exact ⟨L1,rfl,h⟩
theorem LP (n:Zx) (hn:Xf n) (ln:List Int):∀m:Nat,
  (∀(s:Z4) (L L':ZG) (q:Int),s.sz<=m->Xx n.decls L q->0<=q->0<=ZK n L.vars s->TF n ln L s=some L'->Xx n.decls L' (q+4*s.sz)/\L'.vars=Q0 n L.vars s) /\
  (∀(b:Z6) (L O:ZG) (q:Int) (k:Nat),b.sz<=m->Xx n.decls L q->0<=q->0<=YR n L.vars b->k<=L.vars.length->VA n ln L k b=some O ->
   (O.own.length=k/\O.tok.length=k/\(∀x∈O.own,0<=x/\x<=q+4*b.sz))/\U3 O/\O.vars.length=k):=by
 intro m
 induction m with
 | zero=>exact ⟨fun s _ _ _ h=>by have:=s.sz_pos;omega,fun s _ _ _ _ h=>by have:=s.sz_pos;omega⟩
 | succ m ih=>
  have hs:∀(s:Z4) (L L':ZG) (q:Int),s.sz<=m+1->Xx n.decls L q->0<=q->0<=ZK n L.vars s->TF n ln L s=some L'->Xx n.decls L' (q+4*s.sz)/\L'.vars=Q0 n L.vars s:=by
   intro s L L' q XA hk hq hty h
   have hp:=s.sz_pos
   have hf:=ND hty
   obtain ⟨f1,f2,f3,f4,f5⟩:=hk.len
   rw [NB] at h
   unfold Ku at h
   cases hpk:K8 n ln L s.op s.num s.into s.args (QG n ln L s.op s.num s.args s.kids) with
   | none=>rw [hpk] at h;cases h
   | some L1=>
    rw [hpk] at h
    simp only at h
    have key:Xx n.decls L1 (q+4*s.sz)/\L1.vars=L.vars:=by
     rw [K8] at hpk
     split at hpk
     ·obtain ⟨d1,d2,d3,d4,d5,d6⟩:=Io hpk
      refine ⟨hk.turn d1 d2 d3 d4 (by rw [d5]) (by rw [d6,UM]) ?_ ?_,d1⟩
      ·rw [d6];intro x hx
       rcases QJ hx with hx|rfl
       ·exact hk.nn x hx
       ·have:=FU (v:=gI s.args 0) hk.nn;omega
      ·rw [d6];intro x hx
       rcases QJ hx with hx|rfl
       ·have:=hk.bd x hx;omega
       ·have:=FP (v:=gI s.args 0) hk.bd hq;omega
     split at hpk
     ·exact ⟨(hk.take hpk).le om,(Kd hpk).2.1⟩
     split at hpk
     ·rename_i hop
      obtain ⟨d1,d2,d3,d4,d5,Lt,ht,d6⟩:=Mp hpk
      have hkt:=hk.take ht
      have h3:=VK hn.decls (gI L.con (gI s.args 0))
      refine ⟨hk.turn d1 d2 d3 d4 d5 ?_ ?_ ?_,d1⟩
      ·rw [d6,EY,(Kd ht).2.2.2.2.2.2,UM]
      ·rw [d6];exact EZ _ _ _ hkt.nn
      ·rw [d6];intro x hx
       have:=EX _ _ _ q hq hkt.bd x hx;omega
     split at hpk
     ·rename_i hop
      split at hpk
      ·cases hpk
      ·cases hks:s.kids with
       | nil=>rw [hks,QG] at hpk;cases hpk
       | cons b bs=>
        rw [hks,QG] at hpk
        unfold AP at hpk
        cases hb:VA n ln (UU n.decls L s.op s.num s.args 0) L.vars.length b with
        | none=>rw [hb] at hpk;cases hpk
        | some one=>
         rw [hb] at hpk
         simp only at hpk
         split at hpk
         ·cases hpk
          obtain ⟨q1,q2,q3⟩:=hf.kids hop
          have hks0:s.kids[0]? = some b:=by rw [hks];rfl
          obtain ⟨a0,ha0⟩:=Zt (xs:=X2 n.decls s.op s.num) (j:=0) om
          obtain ⟨k1,k2⟩:=DY hk hq hf hop ha0
          have hbz:=T9 hks0
          obtain ⟨⟨r1,r2,r3⟩,_⟩:=ih.2 b _ one q L.vars.length om k1 hq (by rw [k2];exact q3 0 b a0 hks0 ha0) (by rw [k2];simp) hb
          refine ⟨hk.turn rfl rfl rfl rfl (by simp only;omega) (by simp only;omega) (fun x hx=>(r3 x hx).1) (fun x hx=>?_),rfl⟩
          have:=(r3 x hx).2;omega
         ·cases hpk
     ·obtain ⟨k1,k2⟩:=Lf hk hpk
      exact ⟨k1.le om,k2⟩
    split at h
    ·rename_i hd
     cases h
     refine ⟨key.1.grow om ?_,by rw [Q0,Zk hd];simp [ZG.grow,key.2]⟩
     split<;>omega
    ·rename_i hd
     cases h
     exact ⟨key.1,by rw [Q0,Za hd];exact key.2⟩
  refine ⟨hs,?_⟩
  intro b L O q k XA hk hq hty hkl h
  have hsteps:∀(l:List Z4) (L L':ZG) (q:Int) (vs:List Int),Ys l<=m->Xx n.decls L q->0<=q->Wu n l L.vars=some vs->Kc n ln L l=some L'->Xx n.decls L' (q+4*Ys l)/\L'.vars=vs:=by
   intro l
   induction l with
   | nil=>intro L L' q vs _ hk _ h1 h2;rw [Wu] at h1;rw [Kc] at h2;cases h1;cases h2;exact ⟨by simpa [Ys] using hk,rfl⟩
   | cons s r ihr=>
    intro L L' q vs hz hk hq h1 h2
    rw [Ys] at hz
    rw [Kc] at h2
    obtain ⟨L1,e1,e2⟩:=Hp h2
    rw [Wu] at h1
    split at h1
    ·cases h1
    ·rename_i h0
     obtain ⟨k1,k2⟩:=hs s L L1 q om hk hq om e1
     obtain ⟨k3,k4⟩:=ihr L1 L' (q+4*s.sz) vs om k1 om (by rw [k2];exact h1) e2
     exact ⟨k3.le (by rw [Ys];omega),k4⟩
  have hbz:=b.sz_eq
  rw [F6] at h
  obtain ⟨L1,e1,e2⟩:=Hp h
  rw [D9] at hty
  cases hv:Wu n b.steps L.vars with
  | none=>rw [hv] at hty;simp at hty
  | some vs=>
   obtain ⟨k1,k2⟩:=hsteps b.steps L L1 q vs om hk hq hv e1
   have hlen:=NE hv
   rw [Kt] at e2
   obtain ⟨L2,e3,e4⟩:=Hp e2
   have k3:Xx n.decls L2 (q+4*Ys b.steps)/\L2.vars=L1.vars:=by
    split at e3
    ·exact ⟨k1.take e3,(Kd e3).2.1⟩
    ·cases e3;exact ⟨k1,rfl⟩
   obtain ⟨rfl,_⟩:=Ps e4
   obtain ⟨g1,g2,g3,g4,g5⟩:=k3.1.len
   have hl2:L2.vars.length=vs.length:=by rw [k3.2,k2]
   refine ⟨⟨by simp [ZG.take];omega,by simp [ZG.take];omega,fun x hx=>?_⟩,⟨by simp [ZG.take];omega,by simp [ZG.take];omega,by simp [ZG.take];omega,by simp [ZG.take];omega,by simp [ZG.take];omega⟩,by simp [ZG.take];omega⟩
   have hx':x∈L2.own:=TL hx
   have:=k3.1.nn x hx'
   have:=k3.1.bd x hx'
   omega
theorem NC {n:Zx} (hn:Xf n) {ln:List Int} {s:Z4} {L L':ZG} {q:Int} (hk:Xx n.decls L q) (hq:0<=q) (hty:0<=ZK n L.vars s) (h:TF n ln L s=some L'):Xx n.decls L' (q+4*s.sz)/\L'.vars=Q0 n L.vars s:=
 (LP n hn ln s.sz).1 s L L' q (X7 _) hk hq hty h
theorem HY {n:Zx} (hn:Xf n) {ln:List Int} {b:Z6} {L O:ZG} {q:Int} {k:Nat} (hk:Xx n.decls L q) (hq:0<=q) (hty:0<=YR n L.vars b) (hkl:k<=L.vars.length) (h:VA n ln L k b=some O) :
  O.own.length=k/\O.tok.length=k/\(∀x∈O.own,0<=x/\x<=q+4*b.sz):=
 ((LP n hn ln b.sz).2 b L O q k (X7 _) hk hq hty hkl h).1
theorem CH {n:Zx} (hn:Xf n) {ln:List Int} {s:Z4} {L L1:ZG} {q:Int} (hk:Xx n.decls L q) (hq:0<=q) (hf:Ar n L.vars s)
  (hpk:K8 n ln L s.op s.num s.into s.args (QG n ln L s.op s.num s.args s.kids)=some L1):Xx n.decls L1 (q+4*s.sz)/\L1.vars=L.vars:=by
 have hp:=s.sz_pos
 obtain ⟨f1,f2,f3,f4,f5⟩:=hk.len
 rw [K8] at hpk
 split at hpk
 ·obtain ⟨d1,d2,d3,d4,d5,d6⟩:=Io hpk
  refine ⟨hk.turn d1 d2 d3 d4 (by rw [d5]) (by rw [d6,UM]) ?_ ?_,d1⟩
  ·rw [d6];intro x hx
   rcases QJ hx with hx|rfl
   ·exact hk.nn x hx
   ·have:=FU (v:=gI s.args 0) hk.nn;omega
  ·rw [d6];intro x hx
   rcases QJ hx with hx|rfl
   ·have:=hk.bd x hx;omega
   ·have:=FP (v:=gI s.args 0) hk.bd hq;omega
 split at hpk
 ·exact ⟨(hk.take hpk).le om,(Kd hpk).2.1⟩
 split at hpk
 ·rename_i hop
  obtain ⟨d1,d2,d3,d4,d5,Lt,ht,d6⟩:=Mp hpk
  have hkt:=hk.take ht
  have h3:=VK hn.decls (gI L.con (gI s.args 0))
  refine ⟨hk.turn d1 d2 d3 d4 d5 ?_ ?_ ?_,d1⟩
  ·rw [d6,EY,(Kd ht).2.2.2.2.2.2,UM]
  ·rw [d6];exact EZ _ _ _ hkt.nn
  ·rw [d6];intro x hx
   have:=EX _ _ _ q hq hkt.bd x hx;omega
 split at hpk
 ·rename_i hop
  split at hpk
  ·cases hpk
  ·cases hks:s.kids with
   | nil=>rw [hks,QG] at hpk;cases hpk
   | cons b bs=>
    rw [hks,QG] at hpk
    unfold AP at hpk
    cases hb:VA n ln (UU n.decls L s.op s.num s.args 0) L.vars.length b with
    | none=>rw [hb] at hpk;cases hpk
    | some one=>
     rw [hb] at hpk
     simp only at hpk
     split at hpk
     ·cases hpk
      obtain ⟨q1,q2,q3⟩:=hf.kids hop
      have hks0:s.kids[0]? = some b:=by rw [hks];rfl
      obtain ⟨a0,ha0⟩:=Zt (xs:=X2 n.decls s.op s.num) (j:=0) om
      obtain ⟨k1,k2⟩:=DY hk hq hf hop ha0
      have hbz:=T9 hks0
      obtain ⟨r1,r2,r3⟩:=HY hn k1 hq (by rw [k2];exact q3 0 b a0 hks0 ha0) (by rw [k2];simp) hb
      refine ⟨hk.turn rfl rfl rfl rfl (by simp only;omega) (by simp only;omega) (fun x hx=>(r3 x hx).1) (fun x hx=>?_),rfl⟩
      have:=(r3 x hx).2;omega
     ·cases hpk
 ·obtain ⟨k1,k2⟩:=Lf hk hpk
  exact ⟨k1.le om,k2⟩
end Go.Abs
section
namespace Go.Abs
theorem OF {ds:List Zf} {op num:Int} {i:Nat} {m:List Int} (h8:op=8) (h:(X2 ds op num)[i]? = some m):∃c,(Zu ds num)[i]? = some c/\m=Zw ds c:=by
 rw [X2,Za om,Kg] at h
 cases hc:(Zu ds num)[i]? with
 | none=>rw [hc] at h;cases h
 | some c=>rw [hc] at h;cases h;exact ⟨c,rfl,rfl⟩
theorem Z17 {ds:List Zf} {L:ZG} {op num x c:Int} {args:List Int} {i:Nat} (h8:op=8) (hx:args[0]? = some x) (hc:(Zu ds num)[i]? = some c):UU ds L op num args i=KW ds L x c:=by
 have h1:gI args 0=x:=by rw [gI];simp [hx]
 have h2:gI (Zu ds num) (i:Int)=c:=by rw [gI];simp [hc]
 rw [UU,Zk h8,h1,h2]
theorem Z18 {ds:List Zf} {L:ZG} {op num:Int} {args:List Int} {i:Nat} (h8:¬op=8):UU ds L op num args i=L:=by rw [UU,Za h8]
theorem Z1c {n:Zx} {ln:List Int} {L:ZG} {op num:Int} {args:List Int} {kids:List Z6} {kb:Z6} (h:kids[0]? = some kb) :
  QG n ln L op num args kids=AP L (VA n ln (UU n.decls L op num args 0) L.vars.length kb) fun one=>K6 n ln L op num args one (kids.drop 1) 1:=by
 cases kids with
 | nil=>simp at h
 | cons b bs=>simp at h;subst h;rw [QG];rfl
theorem Z1d {n:Zx} {ln:List Int} {L one:ZG} {op num:Int} {args:List Int} {kids:List Z6} {kb:Z6} {k:Nat} (h:kids[k]? = some kb) :
  K6 n ln L op num args one (kids.drop k) k=Eo one (VA n ln (UU n.decls L op num args k) L.vars.length kb) (K6 n ln L op num args one (kids.drop (k+1)) (k+1)):=by
 rw [Yb h,K6]
def Aw (n:Zx) (ln:List Int) (L:ZG) (s:Z4):Option ZG:=
 if s.op=8/\¬Vz L ln (gI s.args 0)=true then none else QG n ln L s.op s.num s.args s.kids
theorem OY {n:Zx} {ln:List Int} {L:ZG} {s:Z4} {kb:Z6} (h:¬(s.op=8/\¬Vz L ln (gI s.args 0)=true)) (hk:s.kids[0]? = some kb) :
  Aw n ln L s=AP L (VA n ln (UU n.decls L s.op s.num s.args 0) L.vars.length kb) fun one=>K6 n ln L s.op s.num s.args one (s.kids.drop 1) 1:=by
 rw [Aw,Za h,Z1c hk]
theorem J8 {xs:List Int} {x:Int} (h:xs[0]? = some x):gI xs 0=x:=by rw [gI];simp [h]
end Go.Abs
namespace Go.Abs
theorem U3.grow {L:ZG} {t o p:Int} (h:U3 L):U3 (L.grow t o p):=by
 obtain ⟨f1,f2,f3,f4,f5⟩:=h
 exact ⟨by simp [ZG.grow,f1],by simp [ZG.grow,f2],by simp [ZG.grow,f3],by simp [ZG.grow,f4],by simp [ZG.grow,f5]⟩
theorem U3.arm {L:ZG} {i j:Nat} {c d:Int} (h:U3 L):U3 ⟨L.vars,L.own,L.par,L.con.set i c,L.fst.set j d,L.tok⟩:=by
 obtain ⟨f1,f2,f3,f4,f5⟩:=h
 exact ⟨f1,f2,by simp [f3],by simp [f4],f5⟩
end Go.Abs
namespace Go.Abs
theorem LF {n:Zx} (hn:Xf n) {ln:List Int} {L O:ZG} {q:Int} {s:Z4} {i:Nat} {kb:Z6} {m:List Int} (hk:Xx n.decls L q) (hq:0<=q) (hf:Ar n L.vars s) (hop:s.op=7∨s.op=8)
  (_:s.kids[i]? = some kb) (harm:(X2 n.decls s.op s.num)[i]? = some m) (hbt:0<=YR n (L.vars++m) kb) (h:VA n ln (UU n.decls L s.op s.num s.args i) L.vars.length kb=some O) :
  O.own.length=L.vars.length/\O.tok.length=L.vars.length:=by
 obtain ⟨k1,k2⟩:=DY hk hq hf hop harm
 obtain ⟨r1,r2,_⟩:=HY hn k1 hq (by rw [k2];exact hbt) (by rw [k2];simp) h
 exact ⟨r1,r2⟩
theorem Z4a {one two:ZG} {r:Bool} (h:¬(¬one.own=two.own∨¬one.tok=two.tok)):Eo one (some two) r=r:=Zk ⟨U2.1 fun q=>h (.inl q),U2.1 fun q=>h (.inr q)⟩
theorem Z49 {one two:ZG} {r:Bool} (h:¬one.own=two.own∨¬one.tok=two.tok):Eo one (some two) r=false:=Za fun q=>h.elim (fun z=>z q.1) fun z=>z q.2
theorem Z22 {L one:ZG} {f:ZG->Bool} (h:f one=true):AP L (some one) f=some ⟨L.vars,one.own,L.par,L.con,L.fst,one.tok⟩:=Zk h
theorem LX {L one:ZG} {f:ZG->Bool} (h:f one=false):AP L (some one) f=none:=Za (by rw [h];simp)
end Go.Abs
namespace Go.Abs
section
variable {n:Zx} {ln:List Int} {L:ZG} {s:Z4}
abbrev KA (n:Zx) (ln:List Int) (L:ZG) (s:Z4):Option ZG:=K8 n ln L s.op s.num s.into s.args (QG n ln L s.op s.num s.args s.kids)
theorem Ms {x:Int} (h:s.op=14) (hx:gI s.args 0=x):KA n ln L s=AA L ln x:=hx▸Zk h
theorem Mt {x:Int} (h:s.op=15) (hx:gI s.args 0=x):KA n ln L s=Th L x:=by rw [<-hx,KA,K8,Za om,Zk h]
theorem Mu {x:Int} (h:s.op=16∨s.op=17) (hx:gI s.args 0=x):KA n ln L s=Kz n.decls L s.op x:=by rw [<-hx,KA,K8,Za om,Za om,Zk h]
theorem Mv (h:s.op=7∨s.op=8):KA n ln L s=Aw n ln L s:=by rw [KA,K8,Za om,Za om,Za om,Zk h,Aw]
theorem Mw (h1:¬s.op=14) (h2:¬s.op=15) (h3:¬(s.op=16∨s.op=17)) (h4:¬(s.op=7∨s.op=8)):KA n ln L s=K3 n ln L s.op s.num s.into s.args:=by
 rw [KA,K8,Za h1,Za h2,Za h3,Za h4]
theorem PP {v:Int} (h:¬Vz L ln v=true):AA L ln v=none:=Za h
theorem PQ {v x:Int} (h:¬¬Vz L ln v=true) (hx:gI L.own v=x):AA L ln v=some ⟨L.vars,L.own.set v.toNat (x+1),L.par,L.con,L.fst,L.tok⟩:=by rw [AA,Zk (U2.1 h),hx]
theorem Uw (n:Zx) (ln:List Int) (L:ZG) (s:Z4):TF n ln L s=Ku L s.op (ZK n L.vars s) (KA n ln L s):=NB n ln L s
theorem Uo {X:ZG} {op t:Int} (h:Xb op=true/\t≠0):Ku L op t (some X)=some (X.grow t 1 (-1)):=by
 unfold Ku;simp only [h.1,↓reduceIte];rw [Zk h.2]
theorem Up {X:ZG} {op t:Int} (h:¬(Xb op=true/\t≠0)) (h2:Xb op=true):Ku L op t (some X)=some (X.grow 0 0 (-1)):=by
 have ht:t=0:=U2.1 fun q=>h ⟨h2,q⟩
 subst ht
 unfold Ku;simp only [h2,↓reduceIte];rfl
theorem Uq {X:ZG} {op t:Int} (h:¬Xb op=true):Ku L op t (some X)=some X:=by
 unfold Ku;simp only [Za h]
end
end Go.Abs
namespace Go.Abs
theorem I0 {n:Zx} {us:List Int} {b:Z6} (h:0<=YR n us b):∃vs t,Wu n b.steps us=some vs/\Xg vs b.result=some t/\0<=t:=by
 rw [D9] at h
 cases hv:Wu n b.steps us with
 | none=>rw [hv] at h;simp at h
 | some vs=>
  rw [hv] at h
  simp only at h
  cases ha:Xg vs b.result with
  | none=>rw [ha] at h;simp at h
  | some t=>rw [ha] at h;exact ⟨vs,t,rfl,ha,h⟩
theorem NH {n:Zx} {us vs:List Int} {s:Z4} {r:List Z4} (h:Wu n (s::r) us=some vs):0<=ZK n us s/\Wu n r (Q0 n us s)=some vs:=by
 rw [Wu] at h
 split at h
 ·cases h
 ·exact ⟨by omega,h⟩
theorem MZ (n:Zx) (us:List Int) (s:Z4):us.length<=(Q0 n us s).length/\(Q0 n us s).length<=us.length+s.sz:=by
 have:=s.sz_pos
 rw [Q0];split
 ·simp only [Yu,EM];omega
 ·omega
end Go.Abs
namespace Go.Abs
theorem Rc {X L:ZG} {m:Nat} {r x:Int} (hg:gI L.vars r=x) (h:x≠0) (ht:Th L r=some X):Kt m r L=Ko X m:=by rw [Kt,hg,Zk h,ht];rfl
theorem Rb {L:ZG} {m:Nat} {r x:Int} (hg:gI L.vars r=x) (h:x≠0) (ht:Th L r=none):Kt m r L=none:=by rw [Kt,hg,Zk h,ht];rfl
theorem C8 {L:ZG} {m:Nat} {r x:Int} (hg:gI L.vars r=x) (h:¬x≠0):Kt m r L=Ko L m:=by rw [Kt,hg,Za h];rfl
end Go.Abs
namespace Go.Abs
theorem Mr {ds:List Zf} {lent:List Int}:∀{ps:List Int} {i:Nat} {L:ZG},Xx ds L 1->Xx ds (Jn lent ps i L) 1/\(Jn lent ps i L).vars=L.vars++ps
 | [],i,L,hk=>⟨hk,by simp [Jn]⟩
 | t::r,i,L,hk=>by
  rw [Jn]
  obtain ⟨k1,k2⟩:=Mr (lent:=lent) (ps:=r) (i:=i+1) (hk.grow (t:=t) (o:=if t≠0/\¬(i:Int)∈lent then 1 else 0) (p:=-1) om (by split<;>omega))
  exact ⟨k1,by rw [k2];simp [ZG.grow]⟩
theorem Z25 (ds:List Zf) (r:Yj):Xx ds (QK r) 1/\(QK r).vars=r.params:=by
 have h:Xx ds (⟨[],[],[],[],[],[]⟩:ZG) 1:=⟨⟨rfl,rfl,rfl,rfl,rfl⟩,fun j h1 h2=>by simp at h2;omega,fun j h1 h2=>by simp at h2;omega,by simp,by simp⟩
 obtain ⟨k1,k2⟩:=Mr (lent:=r.lent) (ps:=r.params) (i:=0) h
 exact ⟨k1,by rw [QK,k2];rfl⟩
end Go.Abs
namespace Go.Abs
theorem MJ {n:Zx}:∀{l:List Yj},Jp n l=true->∀r∈l,¬V4 r.body<0/\YR n r.params r.body=r.result
 | [],_,r,h=>by simp at h
 | a::l,h,r,hr=>by
  rw [Jp] at h
  split at h
  ·rename_i h1
   rcases YP.1 hr with rfl|hr
   ·exact h1
   ·exact MJ h r hr
  ·cases h
theorem Z75 {n:Zx} (hz:Qt n) (h:UL n=true):Xf n/\∀r∈n.routines,0<=YR n r.params r.body:=by
 simp only [UL,XQ] at h
 refine ⟨E7 hz h.1,fun r hr=>?_⟩
 rw [(MJ h.2 r hr).2]
 have h1:=h.1
 simp only [XI,TH,XQ] at h1
 have:=Er h1.2.1.2.2.1 (Vn r) (XW.2 ⟨r,hr,rfl⟩)
 simp only [Qg,XQ,decide_eq_true_eq,Vn] at this
 exact (of_decide_eq_true this.2.2).1
end Go.Abs
end
section
namespace Go.Abs
theorem PZ {xs:List Int} (h:Z8 xs=[]):xs=[]:=by cases xs with|nil=>rfl|cons x r=>cases h
end Go.Abs
namespace Go.Abs
theorem IO (xss:List (List Int)) (k:Nat):(xss.take k).flatten.length<=xss.flatten.length:=by
 conv=>rhs;rw [<-Uy k xss,List.flatten_append,Yu]
 omega
end Go.Abs
namespace Go.Abs
theorem FL {xss:List (List Int)} {k:Nat} {x:List Int} (h:xss[k]? = some x):(xss.take (k+1)).flatten=(xss.take k).flatten++x:=by rw [WQ h,List.flatten_append];simp
theorem IN {xss:List (List Int)} {k:Nat} {x:List Int} (h:xss[k]? = some x):(xss.take k).flatten.length+x.length<=xss.flatten.length:=by
 have:=IO xss (k+1)
 rw [FL h,Yu] at this
 exact this
end Go.Abs
end
section
namespace Go.Abs
theorem Pa {c:Int} {ds:List Zf} {k:Nat} {d:Zf} {r:Int × List Int} (h:ds[k]? = some d) (hn:¬(c-Yq (ds.take k)>=0/\c-Yq (ds.take k)<d.cons.length))
  (hr:Uj c (ds.drop k) k (Yq (ds.take k))=r):Uj c (ds.drop (k+1)) (k+1) (Yq (ds.take (k+1)))=r:=by
 rw [Yb h,Uj,Za om] at hr
 rw [WQ h,C4,<-hr];rfl
end Go.Abs
namespace Go.Abs
theorem Pc {c:Int} {ds:List Zf} {k:Nat} {d:Zf} {x:Y4} (h:ds[k]? = some d) (hn:c-Yq (ds.take k)>=0/\c-Yq (ds.take k)<d.cons.length)
  (hx:d.cons[(c-Yq (ds.take k)).toNat]? = some x):Uj c (ds.drop k) k (Yq (ds.take k))=((k:Int)+1,x.fields):=by
 rw [Yb h,Uj,Zk om,hx];rfl
def Jz (c:Int) (z:Nat) (v:Int):Prop:=v=c-z∨(c<0/\c-z < -9223372036854775808/\v=c-z+18446744073709551616)
theorem OI {c:Int} {z l:Nat} {v:Int} (h:Jz c z v) (hz:z<=100) (hl:l<=3) (hc:-9223372036854775808<=c/\c<=9223372036854775807):Jz c (z+l) (Ai (v-l)):=by
 unfold Jz at *;rw [Ai,IntKind.wrap_i64];omega
theorem Pb {c v:Int} {ds:List Zf} {k:Nat} {d:Zf} {r:Int × List Int} (h:ds[k]? = some d) (ha:Jz c (Yq (ds.take k)) v) (hn:¬(v>=0/\v<d.cons.length))
  (hr:Uj c (ds.drop k) k (Yq (ds.take k))=r):Uj c (ds.drop (k+1)) (k+1) (Yq (ds.take (k+1)))=r:=Pa h (by unfold Jz at ha;omega) hr
theorem Pd {c v:Int} {ds:List Zf} {k:Nat} {d:Zf} {x:Y4} (h:ds[k]? = some d) (ha:Jz c (Yq (ds.take k)) v) (hz:Yq (ds.take k)<=100) (hl:d.cons.length<=3) (hc:-9223372036854775808<=c)
  (hn:v>=0/\v<d.cons.length) (hx:d.cons[v.toNat]? = some x):Uj c (ds.drop k) k (Yq (ds.take k))=((k:Int)+1,x.fields):=by
 have:v=c-(Yq (ds.take k):Int):=by unfold Jz at ha;omega
 subst this
 exact Pc h hn hx
def Wq (ds:List Zf) (t:Int):Zf:=if X0 ds t=true then (ds[(t-1).toNat]?).getD ⟨0,0,[]⟩ else ⟨0,0,[]⟩
end Go.Abs
namespace Go.Abs
abbrev Im (ds:List Zf) (d:Zf):Prop:=
 (((¬(0<=d.frm/\d.frm<=ds.length))∨(¬(0<=d.to_/\d.to_<=ds.length)))∨((d.cons.length:Int)>3))∨(((d.cons.length:Int)>0)/\((d.frm≠0)∨(d.to_≠0)))
theorem PJ {ds:List Zf} {d:Zf} {i:Nat} (h:Im ds d):VC ds d i=false:=by
 rw [VC]
 split
 ·rw [Za];rintro ⟨h1,h2,h3⟩
  rcases h with ((h|h)|h)|h<;>omega
 ·split
  ·rfl
  ·rcases h with ((h|h)|h)|h
   ·rw [decide_eq_false h];rfl
   ·rw [decide_eq_false h,Bool.and_false]
   ·omega
   ·omega
theorem PK {ds:List Zf} {d:Zf} {i:Nat} (hl:0<d.cons.length) (h:UP ds.length d.cons=false):VC ds d i=false:=by
 rw [VC,Zk hl];split
 ·exact h
 ·rfl
theorem PL {ds:List Zf} {d:Zf} {i:Nat} (hl:d.cons.length=0) (h:TQ d (ds.take i)=true):VC ds d i=false:=by
 rw [VC,Za om,Zk h]
theorem PM {ds:List Zf} {d:Zf} {i:Nat} (h1:¬Im ds d) (h2:UP ds.length d.cons=true) (h3:d.cons.length=0->TQ d (ds.take i)=false):VC ds d i=true:=by
 rw [VC]
 have ha:0<=d.frm/\d.frm<=ds.length:=U2.1 fun q=>h1 (.inl (.inl (.inl q)))
 have hb:0<=d.to_/\d.to_<=ds.length:=U2.1 fun q=>h1 (.inl (.inl (.inr q)))
 have hc:¬(d.cons.length:Int)>3:=fun q=>h1 (.inl (.inr q))
 split
 ·rename_i hl
  have hd:¬(d.frm≠0∨d.to_≠0):=fun q=>h1 (.inr ⟨by omega,q⟩)
  rw [Zk ⟨by omega,by omega,by omega⟩];exact h2
 ·rw [Za (by rw [h3 om];simp),decide_eq_true ha,decide_eq_true hb];rfl
theorem Hu {ds:List Zf} {k:Nat} {d:Zf} (h:ds[k]? = some d) (hA:VC ds d k=false) (c:Uk ds (ds.drop k) k=Uk ds ds 0):false=Wc ds:=by
 rw [Wc,<-c,Yb h,Uk,Bg h,hA,Za (by simp),Bool.and_false]
theorem Z78 {ds:List Zf} {k:Nat} {d:Zf} {r:Bool} (h:ds[k]? = some d) (hA:VC ds d k=true) (c:Uk ds (ds.drop k) k=r):Uk ds (ds.drop (k+1)) (k+1)=r:=by
 rw [Yb h,Uk,Bg h,hA,Zk rfl] at c;exact c
theorem Z77 {ds:List Zf} {k:Nat} (hl:ds.length<=4) (hk:ds.length<=k) (c:Uk ds (ds.drop k) k=Uk ds ds 0):true=Wc ds:=by
 rw [Wc,<-c,Xz hk,decide_eq_true hl];rfl
theorem Pe {m:Nat} {c:Y4} (h:((c.fields.length:Int)>3)∨(¬(YZ m c.fields=true))):Qy m c=false:=by
 rw [Qy]
 rcases h with h|h
 ·rw [decide_eq_false om];rfl
 ·rw [KN.2 h,Bool.and_false]
theorem Pf {m:Nat} {c:Y4} (h:¬(((c.fields.length:Int)>3)∨(¬(YZ m c.fields=true)))):Qy m c=true:=by
 rw [Qy,U2.1 fun q=>h (.inr q),decide_eq_true (by have:¬(c.fields.length:Int)>3:=fun q=>h (.inl q);omega)];rfl
end Go.Abs
end
section
namespace Go.Abs
structure WG where
 pms:List Int
 lnt:List Int
 res:Int
abbrev BA (f:WG):List AV:=[Z0 f.pms,Z0 f.lnt,.i f.res]
abbrev D3 (f:WG):AV:=.agg (BA f)
def UA (fs:List WG):List AV:=fs.map D3
abbrev Vh (xs:List WG):AV:=.sl (UA xs) none
abbrev BF (xs:List WG) (v:Value):AV:=.sl (UA xs) (some v)
theorem Bn {xs:List WG} {j:Nat} {x:WG} (h:xs[j]? = some x):(UA xs)[j]? = some (D3 x):=by simp [UA,h]
@[simp] theorem C7 (xs:List WG):(UA xs).length=xs.length:=by simp [UA]
theorem Ip (xs:List WG):∀y∈UA xs,y.leaves.length=3:=by intro y hy;simp only [UA,XW] at hy;obtain ⟨x,_,rfl⟩:=hy;rfl
theorem R5 (xs:List WG):(Zl (UA xs)).all AV.one=true:=Kv fun y hy=>by simp only [UA,XW] at hy;obtain ⟨x,_,rfl⟩:=hy;rfl
def XB (r:Yj):WG:=⟨r.params,r.lent,r.result⟩
def KF (m:Nat) (f:WG):Bool:=Qg m ⟨f.pms,f.res⟩&&QT f.pms f.lnt
def Qh (m:Nat):List WG->Bool
 | []=>true
 | f::r=>if KF m f=true then Qh m r else false
def FG:List WG->Bool
 | []=>false
 | f::_=>decide (f.pms.length=0)&&decide (f.res=0)
def Qm (ds:List Zf) (fs:List WG):Bool:=Wc ds&&(decide (1<=fs.length/\fs.length<=4)&&(FG fs&&Qh ds.length fs))
theorem IH {fs:List WG} {x:WG} (h:fs[0]? = some x):FG fs=(decide (x.pms.length=0)&&decide (x.res=0)):=by
 cases fs with
 | nil=>simp at h
 | cons f r=>simp at h;subst h;rfl
theorem N6 (m:Nat):∀rs:List Yj,Qh m (rs.map XB)=(QO m (rs.map Vn)&&Ky rs)
 | []=>rfl
 | r::rs=>by
  simp only [Ug,Qh,QO,Ky,KF,N6 m rs]
  simp only [XB,Vn]
  by_cases h1:Qg m { params:=r.params,result:=r.result }=true<;>by_cases h2:QT r.params r.lent=true<;>simp [h1,h2]
theorem M1 (n:Zx):XI n=(decide (n.routines.length<=4)&&Qm n.decls (n.routines.map XB)):=by
 have hf:FG (n.routines.map XB)=Dx (n.routines.map Vn):=by
  cases n.routines with
  | nil=>rfl
  | cons r rs=>rfl
 rw [XI,Qm,TH,N6,hf]
 simp only [Am]
 cases decide (n.routines.length<=4)<;>cases Wc n.decls<;>cases decide (1<=n.routines.length/\n.routines.length<=4)<;>cases QO n.decls.length (n.routines.map Vn) <;>
  cases Dx (n.routines.map Vn)<;>cases Ky n.routines<;>rfl
theorem Ep {rs:List Yj} {j:Nat} {x:WG} (h:(rs.map XB)[j]? = some x):∃r,rs[j]? = some r/\x=XB r:=by
 rw [Kg] at h
 cases hr:rs[j]? with
 | none=>rw [hr] at h;cases h
 | some r=>rw [hr] at h;cases h;exact ⟨r,rfl,rfl⟩
theorem LS {ps ls:List Int} {j:Nat} {v:Int} {r:Bool} (h:ls[j]? = some v) (hg:(0<=v/\v<=(ps.length:Int)-1)/\ps[v.toNat]?≠some 0/\(∀p,(if j=0 then none else ls[j-1]?)=some p->p<v))
  (hr:Qd ps (ls.drop j) (if j=0 then none else ls[j-1]?)=r):Qd ps (ls.drop (j+1)) (if j+1=0 then none else ls[j+1-1]?)=r:=by
 rw [Yb h,Gv hg] at hr
 rw [Za om,show j+1-1=j from rfl,h];exact hr
theorem Gw {ps ls:List Int} {j:Nat} {v:Int} {r:Bool} (h:ls[j]? = some v) (hg:¬((0<=v/\v<=(ps.length:Int)-1)/\ps[v.toNat]?≠some 0/\(∀p,(if j=0 then none else ls[j-1]?)=some p->p<v)))
  (hr:Qd ps (ls.drop j) (if j=0 then none else ls[j-1]?)=r):r=false:=by
 rw [Yb h,E3 hg] at hr;exact hr.symm
theorem Eq {m:Nat} {fs:List WG} {k:Nat} {f:WG} {r:Bool} (h:fs[k]? = some f) (hb:KF m f=false) (hr:Qh m (fs.drop k)=r):r=false:=by
 rw [Yb h,Qh,hb,Za (by simp)] at hr;exact hr.symm
theorem Z4o {m:Nat} {fs:List WG} {k:Nat} {f:WG} {r:Bool} (h:fs[k]? = some f) (hb:KF m f=true) (hr:Qh m (fs.drop k)=r):Qh m (fs.drop (k+1))=r:=by
 rw [Yb h,Qh,Zk hb] at hr;exact hr
end Go.Abs
namespace Go.Abs
section
variable {ds:List Zf} {fs:List WG} {x:WG}
theorem Z7d (h:((¬(Wc ds=true))∨((fs.length:Int)<1))∨((fs.length:Int)>4)):false=Qm ds fs:=by
 rw [Qm]
 rcases h with (h|h)|h
 ·rw [KN.2 h];rfl
 ·rw [decide_eq_false (p:=1<=fs.length/\fs.length<=4) om];simp
 ·rw [decide_eq_false (p:=1<=fs.length/\fs.length<=4) om];simp
theorem NX (hx:fs[0]? = some x) (h:((x.pms.length:Int)>0)∨x.res≠0):false=Qm ds fs:=by
 rw [Qm,IH hx]
 rcases h with h|h
 ·rw [decide_eq_false (p:=x.pms.length=0) om];simp
 ·rw [decide_eq_false (p:=x.res=0) h];simp
theorem ED (h:Qh ds.length fs=false):false=Qm ds fs:=by rw [Qm,h];simp
theorem Z7e (h:¬(((¬(Wc ds=true))∨((fs.length:Int)<1))∨((fs.length:Int)>4))) (hx:fs[0]? = some x) (h1:¬((x.pms.length:Int)>0)) (h2:¬x.res≠0) (h3:Qh ds.length fs=true) :
  true=Qm ds fs:=by
 have hv:Wc ds=true:=U2.1 fun q=>h (.inl (.inl q))
 have ha:¬(fs.length:Int)<1:=fun q=>h (.inl (.inr q))
 have hb:¬(fs.length:Int)>4:=fun q=>h (.inr q)
 rw [Qm,IH hx,hv,h3,decide_eq_true (p:=1<=fs.length/\fs.length<=4) om,decide_eq_true (p:=x.pms.length=0) om,decide_eq_true (p:=x.res=0) (U2.1 h2)];rfl
abbrev N5 (m:Nat) (x:WG):Prop:=(((x.pms.length:Int)>3)∨(¬(YZ m x.pms=true)))∨(¬(0<=x.res/\x.res<=m))
theorem Z44 {m:Nat} (h:N5 m x):KF m x=false:=by
 rw [KF,Qg]
 rcases h with (h|h)|h
 ·rw [decide_eq_false (p:=x.pms.length<=3) om];simp
 ·rw [KN.2 h];simp
 ·rw [decide_eq_false h];simp
theorem GW {m:Nat} (h:QT x.pms x.lnt=false):KF m x=false:=by rw [KF,h,Bool.and_false]
theorem Z45 {m:Nat} (h:¬N5 m x) (hl:QT x.pms x.lnt=true):KF m x=true:=by
 have h1:¬(x.pms.length:Int)>3:=fun q=>h (.inl (.inl q))
 rw [KF,Qg,hl,decide_eq_true (p:=x.pms.length<=3) om,U2.1 fun q=>h (.inl (.inr q)),decide_eq_true (U2.1 fun q=>h (.inr q))];rfl
end
end Go.Abs
namespace Go.Abs
abbrev Xn (n:Zx):AV:=Vh (n.routines.map XB)
end Go.Abs
end
section
namespace Go.Abs
def W1 (us:List Int):List Int->Option (List Int)
 | []=>some []
 | a::r=>match Xg us a with
  | none=>none
  | some t=>match W1 us r with
   | none=>none
   | some ts=>some (t::ts)
theorem Hr {us:List Int}:∀{args ts:List Int},W1 us args=some ts->∀tys,XN us args tys=true↔ts=tys
 | [],ts,h,tys=>by
  rw [W1] at h;cases h
  cases tys with
  | nil=>simp [XN,UK]
  | cons t r=>simp [XN,UK]
 | a::r,ts,h,tys=>by
  rw [W1] at h
  cases ha:Xg us a with
  | none=>rw [ha] at h;cases h
  | some t=>
   rw [ha] at h
   cases hr:W1 us r with
   | none=>rw [hr] at h;cases h
   | some tr=>
    rw [hr] at h;cases h
    cases tys with
    | nil=>simp [XN,UK]
    | cons t2 r2=>
     rw [XN,UK,ha]
     have:=Hr hr r2
     rw [XN] at this
     by_cases he:t=t2
     ·subst he;simp [this]
     ·rw [Za (fun q=>he (Jy q))];simp [he]
theorem HL {us:List Int}:∀{args ts:List Int},W1 us args=some ts->ts.length=args.length
 | [],ts,h=>by rw [W1] at h;cases h;rfl
 | a::r,ts,h=>by
  rw [W1] at h
  cases ha:Xg us a with
  | none=>rw [ha] at h;cases h
  | some t=>
   rw [ha] at h
   cases hr:W1 us r with
   | none=>rw [hr] at h;cases h
   | some tr=>rw [hr] at h;cases h;simp [HL hr]
theorem HM {us:List Int} {b t:Int}:∀{xs ts:List Int},W1 us xs=some ts->Xg us b=some t->W1 us (xs++[b])=some (ts++[t])
 | [],ts,h,hb=>by rw [W1] at h;cases h;simp [W1,hb]
 | a::r,ts,h,hb=>by
  rw [W1] at h
  cases ha:Xg us a with
  | none=>rw [ha] at h;cases h
  | some u=>
   rw [ha] at h
   cases hr:W1 us r with
   | none=>rw [hr] at h;cases h
   | some tr=>
    rw [hr] at h;cases h
    rw [Qo,W1,ha,HM hr hb];rfl
def BY (n:Zx) (num:Int):List Int->Option Int
 | [a,b]=>if X0 n.decls a=true/\b=(Wq n.decls a).frm/\num=0 then some (Wq n.decls a).to_ else none
 | _=>none
def Xv (n:Zx) (op num:Int) (ts:List Int):Option Int:=
 if op=0 then (if (-999<=num/\num<=999)/\ts.length=0 then some 0 else none)
 else if op=1∨op=2∨op=3∨op=4 then (if num=0/\ts=[0,0] then some 0 else none)
 else if op=5 then (if num=0/\ts=[0] then some 0 else none)
 else if op=11 then BY n num ts
 else if op=6 then (if 0<=Xj n.decls num/\ts=Zw n.decls num then some (Xj n.decls num) else none)
 else if op=9 then (match Xg n.routines num with
  | none=>none
  | some r=>if ts=r.params then some r.result else none)
 else if op=10 then (match Xg n.routines num with
  | none=>none
  | some r=>if r.params.length≠0/\0<=Q6 n.decls r.params r.result/\ts=r.params.take (r.params.length-1) then some (Q6 n.decls r.params r.result) else none)
 else none
theorem D6 {n:Zx} {num:Int} {ts:List Int} (h:ts.length≠2):BY n num ts=none:=by
 match ts,h with
 | [],_=>rfl
 | [_],_=>rfl
 | [_,_],h=>simp at h
 | _::_::_::_,_=>rfl
structure B9 (n:Zx):Prop where
 result:∀r∈n.routines,0<=r.result
 params:∀r∈n.routines,∀p∈r.params,0<=p
 decl:∀d∈n.decls,d.cons.length=0->0<=d.frm/\0<=d.to_
 fields:∀c,∀f∈Zw n.decls c,0<=f
abbrev Ls (us:List Int) (s:Z4):Prop:=s.into≠0/\(((s.op≠6∨s.into<1)∨s.into>us.length)∨gI us (s.into-1)=0)
theorem Z0y {us:List Int} {op into:Int} (hnn:∀t∈us,0<=t) (h:¬(into≠0/\(((op≠6∨into<1)∨into>us.length)∨gI us (into-1)=0))):VN us op into=true:=by
 rw [VN]
 split
 ·rfl
 ·rename_i h0
  have h1:¬(((op≠6∨into<1)∨into>us.length)∨gI us (into-1)=0):=fun q=>h ⟨h0,q⟩
  have h2:op=6:=U2.1 fun q=>h1 (.inl (.inl (.inl q)))
  have h3:¬into<1:=fun q=>h1 (.inl (.inl (.inr q)))
  have h4:¬into>us.length:=fun q=>h1 (.inl (.inr q))
  have h5:¬gI us (into-1)=0:=fun q=>h1 (.inr q)
  obtain ⟨t,ht⟩:=Zt (xs:=us) (j:=(into-1).toNat) om
  rw [Zk h2,Ty om ht]
  rw [US ht] at h5
  have:=hnn t (Y6 ht)
  simp;omega
theorem Z0x {us:List Int} {op into:Int} (h:into≠0/\(((op≠6∨into<1)∨into>us.length)∨gI us (into-1)=0)):VN us op into=false:=by
 obtain ⟨h0,h⟩:=h
 rw [VN,Za h0]
 split
 ·rename_i h6
  cases ha:Xg us (into-1) with
  | none=>rfl
  | some t=>
   obtain ⟨a1,a2⟩:=JK ha
   rcases h with ((h|h)|h)|h
   ·exact absurd h6 h
   ·omega
   ·omega
   ·rw [US a2] at h;subst h;rfl
 ·rfl
theorem Z6l {n:Zx} {us:List Int} {s:Z4} (h:Ls us s):ZK n us s=-1:=by
 rw [AX,Zk (.inr (.inl (by rw [Z0x h];simp)))]
end Go.Abs
namespace Go.Abs
theorem Z0z {α:Type} {c:Prop} [Decidable c] {v:α}:(if c then some v else none).isSome=decide c:=by split<;>simp_all
theorem Z4p {n:Zx} (hty:B9 n) {op num:Int} {ts:List Int} {x:Int} (h:Xv n op num ts=some x):0<=x:=by
 unfold Xv at h
 split at h
 ·split at h<;>cases h;exact Int.le_refl 0
 split at h
 ·split at h<;>cases h;exact Int.le_refl 0
 split at h
 ·split at h<;>cases h;exact Int.le_refl 0
 split at h
 ·rcases ts with _|⟨a,_|⟨b,_|⟨c,r⟩⟩⟩
  ·cases h
  ·cases h
  ·rw [BY] at h
   split at h
   ·rename_i hq
    cases h
    rw [Wq,Zk hq.1]
    have hA:=hq.1
    simp only [X0,XQ,decide_eq_true_eq] at hA
    cases hd:n.decls[(a-1).toNat]? with
    | none=>rw [hd] at hA;simp at hA
    | some d=>
     rw [hd] at hA
     exact (hty.decl d (Y6 hd) (by simpa using hA.2)).2
   ·cases h
  ·cases h
 split at h
 ·split at h
  ·rename_i hq;cases h;exact hq.1
  ·cases h
 split at h
 ·cases ha:Xg n.routines num with
  | none=>rw [ha] at h;cases h
  | some r=>
   rw [ha] at h
   simp only at h
   split at h
   ·cases h;exact hty.result r (Y6 (JK ha).2)
   ·cases h
 split at h
 ·cases ha:Xg n.routines num with
  | none=>rw [ha] at h;cases h
  | some r=>
   rw [ha] at h
   simp only at h
   split at h
   ·rename_i hq;cases h;exact hq.2.1
   ·cases h
 ·cases h
def QQ (n:Zx) (us:List Int) (s:Z4) (ts:List Int):Int:=
 if YB s.op=true then (match ts with
  | [t]=>if t≠0/\s.num=0/\s.kids.length=0/\¬((s.op=16∨s.op=17)/\X0 n.decls t=true) then 0 else -1
  | _=>-1)
 else if s.op=7 then (if ts=[0]/\s.num=0 then Ub n us s.op s.num s.kids else -1)
 else if s.op=8 then (if ts=[s.num] then Ub n us s.op s.num s.kids else -1)
 else if 0<s.kids.length∨(s.op=10/\0<(((Xg n.routines s.num).map (·.lent)).getD []).length) then -1
 else (Xv n s.op s.num ts).getD (-1)
theorem Lu {p q:Prop} [Decidable p] [Decidable q] {a b:Int} (h:p↔q):ite p a b=ite q a b:=by
 by_cases hp:p
 ·rw [Zk hp,Zk (h.1 hp)]
 ·rw [Za hp,Za (fun z=>hp (h.2 z))]
theorem Ag {n:Zx} {us:List Int} {s:Z4} {ts:List Int} (hnn:∀t∈us,0<=t) (hts:W1 us s.args=some ts) (hi:¬Ls us s):ZK n us s=QQ n us s ts:=by
 have hv:=Z0y hnn hi
 have ht:=Hr hts
 have hl:=HL hts
 have hfirst:((s.num≠0/\¬WO s.op=true)∨¬VN us s.op s.into=true∨(0<s.kids.length/\s.op≠7/\s.op≠8))↔((s.num≠0/\¬WO s.op=true)∨(0<s.kids.length/\s.op≠7/\s.op≠8)):=by
  rw [hv];simp
 rw [AX,Lu hfirst]
 unfold QQ
 by_cases hc:YB s.op=true
 ·have hop:14<=s.op/\s.op<=17:=by simpa [YB] using hc
  have hnum:WO s.op=false:=by simp [WO];omega
  rw [Zk hc]
  by_cases hb:s.num≠0∨0<s.kids.length
  ·rw [Zk (by rcases hb with hb|hb;exact .inl ⟨hb,by rw [hnum];simp⟩;exact .inr ⟨hb,by omega,by omega⟩)]
   split
   ·rw [Za];rintro ⟨h1,h2,h3,h4⟩;omega
   ·rfl
  ·rw [Za (by rintro (⟨h1,_⟩|⟨h1,_⟩)<;>exact hb (by first|exact .inl h1|exact .inr h1)),Za om,Za om,Za om,Za om,Za om,Za om,Za om,Za om,Zk om]
   have Zb:s.num=0:=U2.1 fun q=>hb (.inl q)
   have Zv:s.kids.length=0:=by have:¬0<s.kids.length:=fun q=>hb (.inr q);omega
   rcases he:s.args with _|⟨a,_|⟨b,r⟩⟩
   ·rw [he] at hts;rw [W1] at hts;cases hts;rfl
   ·rw [he] at hts
    rw [W1] at hts
    cases ha:Xg us a with
    | none=>rw [ha] at hts;cases hts
    | some t=>
     rw [ha,W1] at hts;cases hts
     rw [UQ,ha]
     simp only
     by_cases ht0:t=0
     ·rw [Zk ht0,Za (fun q=>q.1 ht0)]
     ·rw [Za ht0]
      by_cases hA:X0 n.decls t=true
      ·by_cases h16:s.op=16∨s.op=17
       ·rw [Zk ⟨by omega,hA⟩,Za (fun q=>q.2.2.2 ⟨h16,hA⟩)]
       ·rw [Za (by rintro ⟨q,_⟩;omega),Zk ⟨ht0,Zb,Zv,fun q=>h16 q.1⟩]
      ·rw [Za (fun q=>hA q.2),Zk ⟨ht0,Zb,Zv,fun q=>hA q.2⟩]
   ·rw [he] at hl
    rw [show UQ n.decls us s.op (a::b::r)=-1 from rfl]
    match ts,hl with
    | [t],hl=>simp at hl
    | [],hl=>simp at hl
    | _::_::_,_=>rfl
 have hop:¬(14<=s.op/\s.op<=17):=by simpa [YB] using hc
 by_cases h7:s.op=7
 ·have hnum:WO s.op=false:=by simp [WO];omega
  conv=>rhs;rw [Za hc,Zk h7]
  by_cases hb:s.num=0
  ·rw [Za (fun q=>q.elim (fun z=>z.1 hb) fun z=>z.2.1 h7),Za om,Za om,Za om,Za om,Zk h7]
   by_cases hq:ts=[0]
   ·rw [Zk ((ht _).2 hq),Zk ⟨hq,hb⟩]
   ·rw [Za (fun q=>hq ((ht _).1 q)),Za (fun q=>hq q.1)]
  ·rw [Zk (.inl ⟨hb,by rw [hnum];simp⟩),Za (fun q=>hb q.2)]
 by_cases h8:s.op=8
 ·have hnum:WO s.op=true:=by simp [WO,h8]
  conv=>rhs;rw [Za hc,Za h7,Zk h8]
  rw [Za (fun q=>q.elim (fun z=>z.2 hnum) fun z=>z.2.2 h8),Za om,Za om,Za om,Za om,Za h7,Zk h8]
  by_cases hq:ts=[s.num]
  ·rw [Zk ((ht _).2 hq),Zk hq]
  ·rw [Za (fun q=>hq ((ht _).1 q)),Za hq]
 conv=>rhs;rw [Za hc,Za h7,Za h8]
 by_cases hk:0<s.kids.length
 ·rw [Zk (.inr ⟨hk,h7,h8⟩),Zk (.inl hk)]
 by_cases hlent:s.op=10/\0<(((Xg n.routines s.num).map (·.lent)).getD []).length
 ·conv=>rhs;rw [Zk (.inr hlent)]
  have hnum:WO s.op=true:=by simp [WO,hlent.1]
  have h10:=hlent.1
  rw [Za (fun q=>q.elim (fun z=>z.2 hnum) fun z=>hk z.1),Za om,Za om,Za om,Za om,Za h7,Za h8,Zk (.inr h10),Td]
  cases ha:Xg n.routines s.num with
  | none=>rfl
  | some r=>
   have h2:=hlent.2
   rw [ha] at h2
   simp only [Ao,Option.getD_some] at h2
   simp only
   rw [Qf,Za om,Zk (.inr (.inl h2))]
 conv=>rhs;rw [Za (fun q=>Or.elim q hk hlent)]
 have sf:∀{X:Option Int},Xv n s.op s.num ts=X->ZK n us s=X.getD (-1)->ZK n us s=(Xv n s.op s.num ts).getD (-1):=fun a b=>by rw [a];exact b
 have hL:=AX n us s
 rw [Lu hfirst] at hL
 rw [<-hL]
 by_cases hnb:s.num≠0/\¬WO s.op=true
 ·have hnn2:¬(s.op=0∨(s.op=6∨(s.op=8∨(s.op=9∨s.op=10)))):=fun q=>hnb.2 (by simpa [WO] using q)
  refine sf (X:=none) ?_ (by rw [hL,Zk (.inl hnb)];rfl)
  unfold Xv
  rw [Za om]
  split
  ·rw [Za (fun q=>hnb.1 q.1)]
  split
  ·rw [Za (fun q=>hnb.1 q.1)]
  split
  ·by_cases hl2:ts.length=2
   ·match ts,hl2 with
    | [a,b],_=>exact Za fun q=>hnb.1 q.2.2
   ·exact D6 hl2
  rw [Za om,Za om,Za om]
 rw [Za (fun q=>q.elim hnb fun z=>hk z.1)] at hL
 have hnumf:¬(s.op=0∨(s.op=6∨(s.op=8∨(s.op=9∨s.op=10))))->s.num=0:=fun q=>U2.1 fun z=>hnb ⟨z,fun y=>q (by simpa [WO] using y)⟩
 by_cases h0:s.op=0
 ·rw [Zk h0] at hL
  by_cases hq:s.args.length=0/\(-999<=s.num/\s.num<=999)
  ·exact sf (by unfold Xv;rw [Zk h0,Zk ⟨hq.2,by omega⟩]) (by rw [hL,Zk hq];rfl)
  ·exact sf (by unfold Xv;rw [Zk h0,Za (fun q=>hq ⟨by omega,q.1⟩)]) (by rw [hL,Za hq];rfl)
 rw [Za h0] at hL
 by_cases h1:s.op=1∨s.op=2∨s.op=3∨s.op=4
 ·rw [Zk h1] at hL
  by_cases hq:ts=[0,0]
  ·exact sf (by unfold Xv;rw [Za h0,Zk h1,Zk ⟨hnumf om,hq⟩]) (by rw [hL,Zk ((ht _).2 hq)];rfl)
  ·exact sf (by unfold Xv;rw [Za h0,Zk h1,Za (fun q=>hq q.2)]) (by rw [hL,Za (fun q=>hq ((ht _).1 q))];rfl)
 rw [Za h1] at hL
 by_cases h5:s.op=5
 ·rw [Zk h5] at hL
  by_cases hq:ts=[0]
  ·exact sf (by unfold Xv;rw [Za h0,Za h1,Zk h5,Zk ⟨hnumf om,hq⟩]) (by rw [hL,Zk ((ht _).2 hq)];rfl)
  ·exact sf (by unfold Xv;rw [Za h0,Za h1,Zk h5,Za (fun q=>hq q.2)]) (by rw [hL,Za (fun q=>hq ((ht _).1 q))];rfl)
 rw [Za h5] at hL
 by_cases h6:s.op=6
 ·rw [Zk h6] at hL
  have hct:0<Xj n.decls s.num↔0<=Xj n.decls s.num:=by
   rcases Int.lt_or_le (Xj n.decls s.num) 1 with q|q
   ·have:=(C5 q).2;omega
   ·omega
  by_cases hq:0<=Xj n.decls s.num/\ts=Zw n.decls s.num
  ·exact sf (by unfold Xv;rw [Za h0,Za h1,Za h5,Za om,Zk h6,Zk hq]) (by rw [hL,Zk ⟨hct.2 hq.1,(ht _).2 hq.2⟩];rfl)
  ·exact sf (by unfold Xv;rw [Za h0,Za h1,Za h5,Za om,Zk h6,Za hq]) (by rw [hL,Za (fun q=>hq ⟨hct.1 q.1,(ht _).1 q.2⟩)];rfl)
 rw [Za h6,Za h7,Za h8] at hL
 by_cases h9:s.op=9
 ·rw [Zk (.inl h9),Td] at hL
  cases ha:Xg n.routines s.num with
  | none=>exact sf (by unfold Xv;rw [Za h0,Za h1,Za h5,Za om,Za h6,Zk h9,ha]) (by rw [hL,ha];rfl)
  | some r=>
   rw [ha] at hL
   simp only at hL
   rw [Qf,Zk h9] at hL
   have hF:∀{X:Option Int},(if ts=r.params then some r.result else none)=X->Xv n s.op s.num ts=X:=fun q=>by
    unfold Xv;rw [Za h0,Za h1,Za h5,Za om,Za h6,Zk h9,ha];exact q
   by_cases hq:ts=r.params
   ·exact sf (hF (Zk hq)) (by rw [hL,Zk ((ht _).2 hq)];rfl)
   ·exact sf (hF (Za hq)) (by rw [hL,Za (fun q=>hq ((ht _).1 q))];rfl)
 by_cases h10:s.op=10
 ·rw [Zk (.inr h10),Td] at hL
  cases ha:Xg n.routines s.num with
  | none=>exact sf (by unfold Xv;rw [Za h0,Za h1,Za h5,Za om,Za h6,Za h9,Zk h10,ha]) (by rw [hL,ha];rfl)
  | some r=>
   rw [ha] at hL hlent
   simp only [Ao,Option.getD_some] at hL hlent
   rw [Qf,Za h9] at hL
   have hF:∀{X:Option Int},(if r.params.length≠0/\0<=Q6 n.decls r.params r.result/\ts=r.params.take (r.params.length-1) then some (Q6 n.decls r.params r.result) else none)=X->Xv n s.op s.num ts=X:=fun q=>by
    unfold Xv;rw [Za h0,Za h1,Za h5,Za om,Za h6,Za h9,Zk h10,ha];exact q
   by_cases hp:r.params.length=0
   ·exact sf (hF (Za fun q=>q.1 hp)) (by rw [hL,Zk (.inl hp)];rfl)
   by_cases hq:ts=r.params.take (r.params.length-1)
   ·rw [Za (fun z=>z.elim hp fun z=>z.elim (fun z=>hlent ⟨h10,z⟩) fun z=>z ((ht _).2 hq))] at hL
    by_cases har:0<=Q6 n.decls r.params r.result
    ·exact sf (hF (Zk ⟨hp,har,hq⟩)) hL
    ·refine sf (hF (Za fun q=>har q.2.1)) ?_
     have key:∀(l:List Zf) (i:Nat) (f t:Int),¬0<=Tk f t l i->Tk f t l i=-1:=by
      intro l
      induction l with
      | nil=>intro i f t _;rfl
      | cons d r ih=>
       intro i f t hn
       rw [Tk] at hn ⊢
       split
       ·rename_i hh;rw [Zk hh] at hn;omega
       ·rename_i hh;rw [Za hh] at hn;exact ih _ _ _ hn
     exact hL.trans (key _ _ _ _ har)
   ·exact sf (hF (Za fun q=>hq q.2.2)) (by rw [hL,Zk (.inr (.inr fun q=>hq ((ht _).1 q)))];rfl)
 rw [Za om] at hL
 by_cases h11:s.op=11
 ·rw [Zk h11] at hL
  have hn0:=hnumf om
  have hF:∀{X:Option Int},BY n s.num ts=X->Xv n s.op s.num ts=X:=fun q=>by
   unfold Xv;rw [Za h0,Za h1,Za h5,Zk h11];exact q
  rcases he:s.args with _|⟨a,_|⟨b,_|⟨c,r⟩⟩⟩
  ·rw [he] at hts hL;rw [W1] at hts;cases hts;exact sf (hF rfl) hL
  ·rw [he] at hl hL
   exact sf (hF (D6 (by simp at hl;omega))) hL
  ·rw [he] at hts hL
   rw [W1] at hts
   cases ha:Xg us a with
   | none=>rw [ha] at hts;cases hts
   | some t=>
    rw [ha,W1] at hts
    cases hb:Xg us b with
    | none=>rw [hb] at hts;cases hts
    | some t2=>
     rw [hb,W1] at hts;cases hts
     rw [Tj,ha] at hL
     simp only at hL
     by_cases hA:X0 n.decls t=true
     ·rw [Zk hA] at hL
      have hA2:=hA
      simp only [X0,XQ,decide_eq_true_eq] at hA2
      cases hd:n.decls[(t-1).toNat]? with
      | none=>rw [hd] at hA2;simp at hA2
      | some d=>
       rw [hd] at hL
       simp only at hL
       have hD:Wq n.decls t=d:=by rw [Wq,Zk hA,hd];rfl
       have h2:=Hr (us:=us) (args:=[b]) (ts:=[t2]) (by rw [W1,hb,W1]) [d.frm]
       by_cases hq:t2=d.frm
       ·exact sf (hF (Zk ⟨hA,by rw [hD];exact hq,hn0⟩)) (by rw [hL,Zk (h2.2 (by rw [hq])),hD];rfl)
       ·exact sf (hF (Za fun q=>hq (by rw [hD] at q;exact q.2.1))) (by rw [hL,Za (fun q=>hq (by simpa using h2.1 q))];rfl)
     ·exact sf (hF (Za fun q=>hA q.1)) (by rw [hL,Za hA];rfl)
  ·rw [he] at hl hL
   exact sf (hF (D6 (by simp at hl;omega))) hL
 rw [Za h11,Za om] at hL
 exact sf (X:=none) (by unfold Xv;rw [Za h0,Za h1,Za h5,Za h11,Za h6,Za h9,Za h10]) hL
end Go.Abs
namespace Go.Abs
theorem M6:∀(n:Nat) (f:Int) (k:Nat) (x:Int),(Wt f n)[k]? = some x->x=f+k/\k<n
 | 0,f,k,x,h=>by simp [Wt] at h
 | n+1,f,k,x,h=>by
  rw [Wt] at h
  cases k with
  | zero=>simp at h;subst h;exact ⟨by omega,by omega⟩
  | succ k=>have:=M6 n (f+1) k x (by simpa using h);exact ⟨by omega,by omega⟩
theorem Pi {ds:List Zf} (hd:Wd ds) {t:Int} {k:Nat} {x:Int} (h:(Zu ds t)[k]? = some x):0<=x/\x<=100:=by
 rw [Zu] at h
 split at h
 ·rename_i ht
  obtain ⟨d,hd1⟩:=Zt (xs:=ds) (j:=(t-1).toNat) om
  rw [hd1] at h
  have:=M6 _ _ _ _ h
  have h3:=hd.cons_at hd1
  have h4:=(hd.take (t-1).toNat).sum
  simp only [Ao,Option.getD_some] at this
  omega
 ·simp at h
end Go.Abs
namespace Go.Abs
section
variable {S:Option Int} {c:Prop} [Decidable c] {v:Int} {b:Bool}
theorem Aa (h:S=if c then some v else none) (hb:b=true↔c):b=S.isSome:=by rw [h,Z0z,Xo,hb,decide_eq_true_iff]
theorem Ab (h:S=if c then some v else none):∀x,S=some x->v=x:=by
 intro x hx;rw [h] at hx;split at hx
 ·exact Jy hx
 ·cases hx
theorem CN (h:S=none):false=S.isSome:=by rw [h];rfl
theorem CO (h:S=none):∀x,S=some x->v=x:=by intro x hx;rw [h] at hx;cases hx
end
section
variable {n:Zx} {op num:Int} {ts:List Int}
theorem sf0 (h:op=0):Xv n op num ts=if (-999<=num/\num<=999)/\ts.length=0 then some 0 else none:=by unfold Xv;rw [Zk h]
theorem sf1 (h:op=1∨op=2∨op=3∨op=4):Xv n op num ts=if num=0/\ts=[0,0] then some 0 else none:=by unfold Xv;rw [Za om,Zk h]
theorem sf5 (h:op=5):Xv n op num ts=if num=0/\ts=[0] then some 0 else none:=by unfold Xv;rw [Za om,Za om,Zk h]
theorem N4 (h:op=11):Xv n op num ts=BY n num ts:=by unfold Xv;rw [Za om,Za om,Za om,Zk h]
theorem Z4l (h:op=11) (hl:(ts.length:Int)≠2):Xv n op num ts=none:=(N4 h).trans (D6 om)
theorem H0 (h:op=11) {a b:Int} (hl:¬(ts.length:Int)≠2) (ha:ts[0]? = some a) (hb:ts[1]? = some b) :
  Xv n op num ts=if X0 n.decls a=true/\b=(Wq n.decls a).frm/\num=0 then some (Wq n.decls a).to_ else none:=by
 rw [N4 h]
 match ts,hl,ha,hb with
 | [x,y],_,ha,hb=>simp at ha hb;subst ha;subst hb;rfl
 | [],hl,_,_=>simp at hl
 | [_],hl,_,_=>simp at hl
 | _::_::_::_,hl,_,_=>simp at hl;omega
theorem Z4k (h:op=11) {a:Int} (hl:¬(ts.length:Int)≠2) (ha:ts[0]? = some a) (hn:¬X0 n.decls a=true):Xv n op num ts=none:=by
 obtain ⟨b,hb⟩:=Zt (xs:=ts) (j:=1) om
 rw [H0 h hl ha hb,Za fun q=>hn q.1]
theorem sf6 (h:op=6):Xv n op num ts=if 0<=Xj n.decls num/\ts=Zw n.decls num then some (Xj n.decls num) else none:=by
 unfold Xv;rw [Za om,Za om,Za om,Za om,Zk h]
theorem Z4m (h:op=9∨op=10) (hr:num<0∨num>=(((n.routines.map XB).length:Nat):Int)):Xv n op num ts=none:=by
 have ha:Xg n.routines num=none:=Q7 (by simp at hr;omega)
 unfold Xv
 rw [Za om,Za om,Za om,Za om,Za om]
 rcases h with h|h
 ·rw [Zk h,ha]
 ·rw [Za om,Zk h,ha]
theorem sf9 (h:op=9) {x:WG} (hr:¬(num<0∨num>=(((n.routines.map XB).length:Nat):Int))) (hx:(n.routines.map XB)[num.toNat]? = some x) :
  Xv n op num ts=if ts=x.pms then some x.res else none:=by
 obtain ⟨r,h1,rfl⟩:=Ep hx
 have ha:Xg n.routines num=some r:=Ty (by simp at hr;omega) h1
 unfold Xv
 rw [Za om,Za om,Za om,Za om,Za om,Zk h,ha];rfl
theorem Z4j (h:op=10) {x:WG} (hr:¬(num<0∨num>=(((n.routines.map XB).length:Nat):Int))) (hx:(n.routines.map XB)[num.toNat]? = some x) (hp:(x.pms.length:Int)-1<0) :
  Xv n op num ts=none:=by
 obtain ⟨r,h1,rfl⟩:=Ep hx
 have ha:Xg n.routines num=some r:=Ty (by simp at hr;omega) h1
 have hp':r.params.length=0:=by simp only [XB] at hp;omega
 unfold Xv
 rw [Za om,Za om,Za om,Za om,Za om,Za om,Zk h,ha]
 exact Za fun q=>q.1 hp'
theorem Z4i (h:op=10) {x:WG} {l:Int} (hr:¬(num<0∨num>=(((n.routines.map XB).length:Nat):Int))) (hx:(n.routines.map XB)[num.toNat]? = some x) (hp:¬(x.pms.length:Int)-1<0)
  (hl:x.pms[((x.pms.length:Int)-1).toNat]? = some l) :
  Xv n op num ts=if 0<=WM n.decls l x.res/\ts=x.pms.take ((x.pms.length:Int)-1).toNat then some (WM n.decls l x.res) else none:=by
 obtain ⟨r,h1,rfl⟩:=Ep hx
 have ha:Xg n.routines num=some r:=Ty (by simp at hr;omega) h1
 simp only [XB] at hp hl ⊢
 have hq:((r.params.length:Int)-1).toNat=r.params.length-1:=by omega
 have ht:r.params.take ((r.params.length:Int)-1).toNat=r.params.take (r.params.length-1):=Yv (fun k=>r.params.take k) hq
 have hl':r.params[r.params.length-1]? = some l:=by rw [<-hl];exact Yv (fun k=>r.params[k]?) hq.symm
 have hlast:Q6 n.decls r.params r.result=WM n.decls l r.result:=by rw [Q6,Le hl']
 unfold Xv
 rw [Za om,Za om,Za om,Za om,Za om,Za om,Zk h,ha]
 simp only [hlast]
 by_cases hc:0<=WM n.decls l r.result/\ts=r.params.take (r.params.length-1)
 ·rw [Zk ⟨by omega,hc⟩]
  exact (Zk ⟨hc.1,hc.2.trans ht.symm⟩).symm
 ·rw [Za fun q=>hc q.2]
  exact (Za (fun q=>hc ⟨q.1,q.2.trans ht⟩)).symm
theorem sfd (h0:¬op=0) (h1:¬(op=1∨op=2∨op=3∨op=4)) (h5:¬op=5) (h11:¬op=11) (h6:¬op=6) (h9:¬(op=9∨op=10)):Xv n op num ts=none:=by
 unfold Xv;rw [Za h0,Za h1,Za h5,Za h11,Za h6,Za om,Za om]
end
end Go.Abs
end
namespace Go.Abs
mutual
def Z4.rng:Z4->Prop
 | .mk _ num _ _ kids=>(-9223372036854775808<=num/\num<=9223372036854775807)/\TP kids
def Z6.rng:Z6->Prop
 | .mk steps _=>Qk steps
def Qk:List Z4->Prop
 | []=>True
 | s::r=>s.rng/\Qk r
def TP:List Z6->Prop
 | []=>True
 | b::r=>b.rng/\TP r
end
theorem Z4.rng_eq (s:Z4):s.rng=((-9223372036854775808<=s.num/\s.num<=9223372036854775807)/\TP s.kids):=by cases s;rw [Z4.rng];rfl
theorem Z6.rng_eq (b:Z6):b.rng=Qk b.steps:=by cases b;rw [Z6.rng];rfl
theorem Nt:∀{xs:List Z4} {k:Nat} {s:Z4},Qk xs->xs[k]? = some s->s.rng
 | [],k,s,_,h=>by simp at h
 | x::r,0,s,hr,h=>by rw [Qk] at hr;simp at h;subst h;exact hr.1
 | x::r,k+1,s,hr,h=>by rw [Qk] at hr;exact Nt (k:=k) hr.2 (by simpa using h)
theorem I1:∀{xs:List Z6} {k:Nat} {b:Z6},TP xs->xs[k]? = some b->b.rng
 | [],k,s,_,h=>by simp at h
 | x::r,0,s,hr,h=>by rw [TP] at hr;simp at h;subst h;exact hr.1
 | x::r,k+1,s,hr,h=>by rw [TP] at hr;exact I1 (k:=k) hr.2 (by simpa using h)
theorem Hs {us:List Int}:∀{args:List Int},W1 us args=none->∀tys,XN us args tys=false
 | [],h,tys=>by rw [W1] at h;cases h
 | a::r,h,tys=>by
  cases tys with
  | nil=>simp [XN,UK]
  | cons t ts=>
   rw [W1] at h
   rw [XN,UK]
   cases ha:Xg us a with
   | none=>simp
   | some u=>
    rw [ha] at h
    cases hr:W1 us r with
    | none=>
     have:=Hs hr ts
     rw [XN] at this
     by_cases he:u=t
     ·subst he;simpa using this
     ·rw [Za (fun q=>he (Jy q))]
    | some tr=>rw [hr] at h;cases h
theorem Z6k {n:Zx} {us:List Int} {s:Z4} (h:W1 us s.args=none):ZK n us s=-1:=by
 have ht:=Hs h
 rw [AX]
 split
 ·rfl
 split
 ·rw [Za];rintro ⟨q,_⟩
  have:s.args=[]:=List.length_eq_zero_iff.1 q
  rw [this,W1] at h;cases h
 split
 ·rw [Za (by rw [ht];simp)]
 split
 ·rw [Za (by rw [ht];simp)]
 split
 ·rw [Za (by rw [ht];simp)]
 split
 ·rw [Za (by rw [ht];simp)]
 split
 ·rw [Za (by rw [ht];simp)]
 split
 ·rw [Td]
  cases Xg n.routines s.num with
  | none=>rfl
  | some r=>
   simp only
   rw [Qf]
   split
   ·rw [Za (by rw [ht];simp)]
   ·rw [Zk (.inr (.inr (by rw [ht];simp)))]
 split
 ·match hA:s.args with
  | []=>rfl
  | [_]=>rfl
  | [a,b]=>
   rw [Tj]
   rw [hA,W1] at h
   cases ha:Xg us a with
   | none=>rfl
   | some t=>
    rw [ha] at h
    simp only at h ⊢
    split
    ·cases n.decls[(t-1).toNat]? with
     | none=>rfl
     | some d=>
      simp only
      rw [Za]
      cases hb:W1 us [b] with
      | none=>rw [Hs hb];simp
      | some tr=>rw [hb] at h;cases h
    ·rfl
  | _::_::_::_=>rfl
 split
 ·match hA:s.args with
  | []=>rfl
  | [a]=>
   rw [UQ]
   rw [hA,W1] at h
   cases ha:Xg us a with
   | none=>rfl
   | some t=>rw [ha,W1] at h;cases h
  | _::_::_=>rfl
 ·rfl
theorem HK {us:List Int} {a:Int}:∀{xs:List Int} {k:Nat},xs[k]? = some a->Xg us a=none->W1 us xs=none
 | [],k,h,_=>by simp at h
 | x::r,0,h,ha=>by simp at h;subst h;rw [W1,ha]
 | x::r,k+1,h,ha=>by
  have:=HK (xs:=r) (k:=k) (by simpa using h) ha
  rw [W1]
  cases Xg us x with
  | none=>rfl
  | some t=>simp only [this]
theorem Z1f {n:Zx} {us:List Int} {ks:List Z6} {ms:List (List Int)} (h:0<ks.length) (t:Int) :
  W5 n us (ks.drop 0) (ms.drop 0) (decide (0=0)) t=W5 n us ks ms true 0:=by
 cases ks with
 | nil=>simp at h
 | cons b bs=>
  cases ms with
  | nil=>rw [Jt,Jt,W5,W5]
  | cons m r=>
   simp only [Jt,decide_true]
   rw [W5,W5];simp
theorem I3 {b:Z6}:∀{ks:List Z6} {k:Nat},ks[k]? = some b->b.sz<=YW ks
 | [],k,h=>by simp at h
 | x::r,0,h=>by simp at h;subst h;rw [YW];omega
 | x::r,k+1,h=>by have:=I3 (ks:=r) (k:=k) (by simpa using h);rw [YW];omega
theorem CT (us m:List Int):[us,m].flatten=us++m:=by simp
theorem IQ {xs:List Int} {i:Int} (h:i.toNat<xs.length):xs[i.toNat]? = some (gI xs i):=by rw [gI,Jv h];rfl
theorem DD {xs:List Int} (h:0<xs.length):xs[0]? = some (gI xs 0):=IQ (i:=0) h
def Tf (n:Zx) (num:Int):WG:=((n.routines.map XB)[num.toNat]?).getD ⟨[],[],0⟩
theorem Z4n {n:Zx} {i:Int} (h:i.toNat<(n.routines.map XB).length):(n.routines.map XB)[i.toNat]? = some (Tf n i):=by rw [Tf,Jv h];rfl
theorem M0 {us m:List Int} (h1:∀t∈us,0<=t) (h2:∀t∈m,0<=t):∀t∈us++m,0<=t:=fun t h=>(Xa.1 h).elim (h1 t) (h2 t)
theorem JJ {us:List Int} {args ts:List Int} {k:Nat} (h:W1 us (args.take k)=some ts) (hk:args.length<=k):W1 us args=some ts:=by
 rw [Vb hk] at h;exact h
theorem OA {us:List Int} {args ts:List Int} {k:Nat} {a t:Int} (h:W1 us (args.take k)=some ts) (ha:args[k]? = some a) (ht:Xg us a=some t):W1 us (args.take (k+1))=some (ts++[t]):=by
 rw [WQ ha];exact HM h ht
theorem Mb {ts:List Int} (h:(ts.length:Int)=1):ts=[gI ts 0]:=by
 match ts,h with
 | [a],_=>rfl
section
variable {n:Zx} {us ts:List Int} {s:Z4}
theorem Jg {p1 p2 p3 p4 p5:Prop}:(p1/\(p2∨(p3∨(p4∨p5))))↔(p1/\(((p2∨p3)∨p4)∨p5)):=by simp only [or_assoc]
def Dg (n:Zx) (s:Z4) (ts:List Int):Int:=match ts with
  | [t]=>if t≠0/\s.num=0/\s.kids.length=0/\¬((s.op=16∨s.op=17)/\X0 n.decls t=true) then 0 else -1
  | _=>-1
theorem Af:QQ n us s ts =
 if YB s.op=true then Dg n s ts
 else if s.op=7 then (if ts=[0]/\s.num=0 then Ub n us s.op s.num s.kids else -1)
 else if s.op=8 then (if ts=[s.num] then Ub n us s.op s.num s.kids else -1)
 else if 0<s.kids.length∨(s.op=10/\0<(((Xg n.routines s.num).map (·.lent)).getD []).length) then -1
 else (Xv n s.op s.num ts).getD (-1):=by unfold QQ Dg;rfl
theorem Ic (h:(ts.length:Int)=1):Dg n s ts=if gI ts 0≠0/\s.num=0/\s.kids.length=0/\¬((s.op=16∨s.op=17)/\X0 n.decls (gI ts 0)=true) then 0 else -1:=by
 match ts,h with
 | [a],_=>rfl
theorem P5 (h:(ts.length:Int)≠1):Dg n s ts=-1:=by
 match ts,h with
 | [],_=>rfl
 | [a],h=>exact absurd rfl h
 | _::_::_,_=>rfl
theorem Z61 (hS:ZK n us s=QQ n us s ts) (hc:YB s.op=true)
  (h:((((ts.length:Int)=1/\gI ts 0≠0)/\s.num=0)/\(s.kids.length:Int)=0)/\(s.op=16∨s.op=17)) :
  (!X0 n.decls (gI ts 0))=decide (0<=ZK n us s):=by
 obtain ⟨⟨⟨⟨h1,h2⟩,h3⟩,h4⟩,h5⟩:=h
 have h4':s.kids.length=0:=by omega
 rw [hS,Af,Zk hc,Ic h1]
 cases hA:X0 n.decls (gI ts 0)
 ·rw [Zk ⟨h2,h3,h4',by simp⟩];rfl
 ·rw [Za (fun q=>q.2.2.2 ⟨h5,rfl⟩)];rfl
theorem Z62 (hS:ZK n us s=QQ n us s ts) (hc:YB s.op=true)
  (h:¬(((((ts.length:Int)=1/\gI ts 0≠0)/\s.num=0)/\(s.kids.length:Int)=0)/\(s.op=16∨s.op=17))) :
  ((((((ts.length:Int)==1)&&(gI ts 0 != 0))&&(s.num==0))&&((s.kids.length:Int)==0)))=decide (0<=ZK n us s):=by
 rw [hS,Af,Zk hc]
 by_cases h1:(ts.length:Int)=1
 ·rw [Ic h1]
  by_cases h2:(gI ts 0≠0/\s.num=0)/\(s.kids.length:Int)=0
  ·obtain ⟨⟨h2,h3⟩,h4⟩:=h2
   have h4':s.kids.length=0:=by omega
   rw [Zk ⟨h2,h3,h4',fun q=>h ⟨⟨⟨⟨h1,h2⟩,h3⟩,h4⟩,q.1⟩⟩,Zh.2 h1,Yg.2 h2,Zh.2 h3,Zh.2 h4];rfl
  ·rw [Za (fun q=>h2 ⟨⟨q.1,q.2.1⟩,by have:=q.2.2.1;omega⟩)]
   show _=false
   rw [KN];intro q
   obtain ⟨⟨⟨_,q1⟩,q2⟩,q3⟩:=(YE (YE (YE Zh Yg) Zh) Zh).1 q
   exact h2 ⟨⟨q1,q2⟩,q3⟩
 ·rw [P5 h1]
  show _=false
  rw [KN];intro q
  obtain ⟨⟨⟨q1,_⟩,_⟩,_⟩:=(YE (YE (YE Zh Yg) Zh) Zh).1 q
  exact h1 q1
theorem Z5x (hS:ZK n us s=QQ n us s ts) (hc:¬YB s.op=true) (h7:s.op=7)
  (h:(((ts.length:Int)≠1∨gI ts 0≠0)∨s.num≠0)∨(s.kids.length:Int)≠2):ZK n us s=-1:=by
 rw [hS,Af,Za hc,Zk h7]
 split
 ·rename_i q
  obtain ⟨q1,q2⟩:=q
  rw [q1] at h
  rw [Ub,Zk]
  right
  rw [X2,Zk h7]
  have:gI [0] 0=0:=rfl
  simp [this] at h
  show s.kids.length≠2
  omega
 ·rfl
theorem Z5y (hS:ZK n us s=QQ n us s ts) (hc:¬YB s.op=true) (h7:s.op=7)
  (h:¬((((ts.length:Int)≠1∨gI ts 0≠0)∨s.num≠0)∨(s.kids.length:Int)≠2)):ZK n us s=W5 n us s.kids (List.replicate 2 []) true 0:=by
 have h1:(ts.length:Int)=1:=U2.1 fun q=>h (.inl (.inl (.inl q)))
 have h2:gI ts 0=0:=U2.1 fun q=>h (.inl (.inl (.inr q)))
 have h3:s.num=0:=U2.1 fun q=>h (.inl (.inr q))
 have h4:(s.kids.length:Int)=2:=U2.1 fun q=>h (.inr q)
 rw [hS,Af,Za hc,Zk h7,Zk ⟨by rw [Mb h1,h2],h3⟩,Ub,Za]
 ·rw [X2,Zk h7];rfl
 ·rw [X2,Zk h7];simp;omega
theorem Z5z (hS:ZK n us s=QQ n us s ts) (hc:¬YB s.op=true) (h7:¬s.op=7) (h8:s.op=8)
  (h:(ts.length:Int)≠1∨(gI ts 0≠s.num∨(((((Zu n.decls s.num).map (Zw n.decls)).length:Nat):Int)=0∨(s.kids.length:Int)≠((((Zu n.decls s.num).map (Zw n.decls)).length:Nat):Int)))):ZK n us s=-1:=by
 rw [hS,Af,Za hc,Za h7,Zk h8]
 split
 ·rename_i q
  have hg:gI ts 0=s.num:=by rw [q];rfl
  have hl:(ts.length:Int)=1:=by rw [q];rfl
  rw [Ub,Zk]
  rw [X2,Za h7]
  omega
 ·rfl
theorem Z60 (hS:ZK n us s=QQ n us s ts) (hc:¬YB s.op=true) (h7:¬s.op=7) (h8:s.op=8)
  (h:¬((ts.length:Int)≠1∨(gI ts 0≠s.num∨(((((Zu n.decls s.num).map (Zw n.decls)).length:Nat):Int)=0∨(s.kids.length:Int)≠((((Zu n.decls s.num).map (Zw n.decls)).length:Nat):Int))))) :
  ZK n us s=W5 n us s.kids ((Zu n.decls s.num).map (Zw n.decls)) true 0:=by
 have h1:(ts.length:Int)=1:=U2.1 fun q=>h (.inl q)
 have h2:gI ts 0=s.num:=U2.1 fun q=>h (.inr (.inl q))
 rw [hS,Af,Za hc,Za h7,Zk h8,Zk (by rw [Mb h1,h2]),Ub,Za]
 ·rw [X2,Za h7]
 ·rw [X2,Za h7];omega
theorem Z1x {n:Zx} {num:Int}:(((Xg n.routines num).map (·.lent)).getD []).length=if 0<=num/\num<(((n.routines.map XB).length:Nat):Int) then (Tf n num).lnt.length else 0:=by
 split
 ·rename_i h
  rw [Am] at h
  obtain ⟨r,hr⟩:=Zt (xs:=n.routines) (j:=num.toNat) om
  rw [Ty om hr,Tf,Kg,hr];rfl
 ·rename_i h
  rw [Am] at h
  rw [Q7 om];rfl
theorem Nx:(0<s.kids.length∨(s.op=10/\0<(((Xg n.routines s.num).map (·.lent)).getD []).length)) ↔
  ((s.kids.length:Int)>0∨(s.op=10/\(s.num>=0/\(s.num<(((n.routines.map XB).length:Nat):Int)/\((((Tf n s.num).lnt).length:Nat):Int)>0)))):=by
 rw [Z1x]
 by_cases hq:0<=s.num/\s.num<(((n.routines.map XB).length:Nat):Int)
 ·rw [Zk hq];omega
 ·rw [Za hq];omega
theorem stB (hS:ZK n us s=QQ n us s ts) (hc:¬YB s.op=true) (h7:¬s.op=7) (h8:¬s.op=8)
  (h:((s.kids.length:Int)>0∨(s.op=10/\(s.num>=0/\(s.num<(((n.routines.map XB).length:Nat):Int)/\((((Tf n s.num).lnt).length:Nat):Int)>0))))):ZK n us s=-1:=by
 rw [hS,Af,Za hc,Za h7,Za h8,Zk (Nx.2 h)]
theorem stS (hS:ZK n us s=QQ n us s ts) (hc:¬YB s.op=true) (h7:¬s.op=7) (h8:¬s.op=8)
  (h:¬((s.kids.length:Int)>0∨(s.op=10/\(s.num>=0/\(s.num<(((n.routines.map XB).length:Nat):Int)/\((((Tf n s.num).lnt).length:Nat):Int)>0))))):ZK n us s=(Xv n s.op s.num ts).getD (-1):=by
 rw [hS,Af,Za hc,Za h7,Za h8,Za (fun q=>h (Nx.1 q))]
theorem Z63 (hty:B9 n) (h:ZK n us s=(Xv n s.op s.num ts).getD (-1)):(Xv n s.op s.num ts).isSome=decide (0<=ZK n us s):=by
 rw [h]
 cases hs:Xv n s.op s.num ts with
 | none=>rfl
 | some x=>have:=Z4p hty hs;simp [this]
theorem Z64 {t:Int} (h:ZK n us s=(Xv n s.op s.num ts).getD (-1)) (hp:∀x,Xv n s.op s.num ts=some x->t=x):¬YB s.op=true->0<=ZK n us s->t=ZK n us s:=by
 intro _ h0
 rw [h] at h0 ⊢
 cases hs:Xv n s.op s.num ts with
 | none=>rw [hs] at h0;exact absurd h0 (by decide)
 | some x=>exact hp x hs
end
theorem Z6i {n:Zx} {us:List Int} {s:Z4} (h:0<=ZK n us s):(0<=s.op/\s.op<=11)∨(14<=s.op/\s.op<=17):=by
 rw [AX] at h
 by_cases hq:(0<=s.op/\s.op<=11)∨(14<=s.op/\s.op<=17)
 ·exact hq
 ·exfalso
  split at h
  ·omega
  rw [Za om,Za om,Za om,Za om,Za om,Za om,Za om,Za om,Za om] at h
  omega
theorem Fn {n:Zx} {us:List Int} {s:Z4} (h:0<=ZK n us s):Xb s.op=!YB s.op:=by
 have:=Z6i h
 rw [Xb,YB,Xo];simp;omega
theorem Z6m {n:Zx} {xs:List Z4} {vs:List Int} {k:Nat} {s:Z4} {t:Int} {r:Option (List Int)} (hs:xs[k]? = some s) (h:0<=ZK n vs s) (ht:¬YB s.op=true->0<=ZK n vs s->t=ZK n vs s)
  (hr:Wu n (xs.drop k) vs=r):Wu n (xs.drop (k+1)) (if YB s.op=true then vs else vs++[t])=r:=by
 rw [Yb hs,Wu,Za om] at hr
 rw [<-hr,Fn h]
 by_cases hc:YB s.op=true
 ·rw [Zk hc,hc];rfl
 ·rw [Za hc,Zk (by simpa using hc),ht hc h]
theorem Z6o {n:Zx} {xs:List Z4} {vs:List Int} {k:Nat} {s:Z4} {r:Option (List Int)} (hs:xs[k]? = some s) (h:¬0<=ZK n vs s) (hr:Wu n (xs.drop k) vs=r):r=none:=by
 rw [Yb hs,Wu,Zk om] at hr;exact hr.symm
theorem Z26 {c:Prop} [Decidable c] {vs:List Int} {t:Int} (h:∀x∈vs,0<=x) (ht:¬c->0<=t):∀x∈(if c then vs else vs++[t]),0<=x:=by
 split
 ·exact h
 ·rename_i hc
  exact M0 h (fun x hx=>by rw [XJ.1 hx];exact ht hc)
theorem BX {m:Nat} {xs:List Int} (h:YZ m xs=true):∀x∈xs,0<=x/\x<=m:=by
 rw [YZ,Kf] at h
 exact fun x hx=>of_decide_eq_true (h x hx)
theorem Z28 {n:Zx} (h:XI n=true):B9 n:=by
 simp only [XI,TH,XQ,decide_eq_true_eq] at h
 obtain ⟨h1,⟨h2,h3,h4,h5⟩,h6⟩:=h
 have hs:∀r∈n.routines,YZ n.decls.length r.params=true/\0<=r.result:=fun r hr=>by
  have:=Er h4 (Vn r) (XW.2 ⟨r,hr,rfl⟩)
  simp only [Qg,XQ,decide_eq_true_eq] at this
  exact ⟨this.2.1,this.2.2.1⟩
 simp only [Wc,XQ,decide_eq_true_eq] at h2
 obtain ⟨h2a,h2b⟩:=h2
 rw [Dl] at h2b
 have key:∀(i:Nat) (d:Zf),n.decls[i]? = some d->VC n.decls d i=true:=fun i d hi=>by
  have:=h2b i (XG.1 hi).1
  rwa [WL,Bg hi] at this
 refine ⟨fun r hr=>(hs r hr).2,fun r hr p hp=>(BX (hs r hr).1 p hp).1,fun d hd h0=>?_,fun c f hf=>?_⟩
 ·obtain ⟨i,hi⟩:=List.mem_iff_getElem?.1 hd
  have:=key i d hi
  rw [VC,Za om] at this
  split at this
  ·cases this
  ·simp only [XQ,decide_eq_true_eq] at this;omega
 ·by_cases hc:Xj n.decls c<1
  ·rw [(C5 hc).1] at hf;cases hf
  ·obtain ⟨k,d,x,q1,q2,q3,q4,q5⟩:=Dj hc
   rw [q5] at hf
   have:=key k d q1
   have hp:0<d.cons.length:=by have:=(XG.1 q3).1;omega
   rw [VC,Zk hp] at this
   split at this
   ·have:=Ff.1 this x (Y6 q3)
    simp only [Qy,XQ] at this
    exact (BX this.2 f hf).1
   ·cases this
structure HD (n:Zx):Prop where
 result:∀r∈n.routines,r.result<=(n.decls.length:Int)
 decl:∀d∈n.decls,d.cons.length=0->d.to_<=(n.decls.length:Int)
 fields:∀c,∀f∈Zw n.decls c,f<=(n.decls.length:Int)
theorem Z27 {n:Zx} (h:XI n=true):HD n:=by
 simp only [XI,TH,XQ,decide_eq_true_eq] at h
 obtain ⟨h1,⟨h2,h3,h4,h5⟩,h6⟩:=h
 simp only [Wc,XQ,decide_eq_true_eq] at h2
 obtain ⟨h2a,h2b⟩:=h2
 rw [Dl] at h2b
 have key:∀(i:Nat) (d:Zf),n.decls[i]? = some d->VC n.decls d i=true:=fun i d hi=>by
  have:=h2b i (XG.1 hi).1
  rwa [WL,Bg hi] at this
 refine ⟨fun r hr=>?_,fun d hd h0=>?_,fun c f hf=>?_⟩
 ·have:=Er h4 (Vn r) (XW.2 ⟨r,hr,rfl⟩)
  simp only [Qg,XQ,decide_eq_true_eq] at this
  exact this.2.2.2
 ·obtain ⟨i,hi⟩:=List.mem_iff_getElem?.1 hd
  have:=key i d hi
  rw [VC,Za om] at this
  split at this
  ·cases this
  ·simp only [XQ,decide_eq_true_eq] at this;omega
 ·by_cases hc:Xj n.decls c<1
  ·rw [(C5 hc).1] at hf;cases hf
  ·obtain ⟨k,d,x,q1,q2,q3,q4,q5⟩:=Dj hc
   rw [q5] at hf
   have:=key k d q1
   have hp:0<d.cons.length:=by have:=(XG.1 q3).1;omega
   rw [VC,Zk hp] at this
   split at this
   ·have:=Ff.1 this x (Y6 q3)
    simp only [Qy,XQ] at this
    exact (BX this.2 f hf).2
   ·cases this
theorem HQ {a b:Int}:∀{ds:List Zf} {i:Nat},Tk a b ds i<=((i+ds.length:Nat):Int)
 | [],i=>by rw [Tk];omega
 | d::r,i=>by
  have:=HQ (a:=a) (b:=b) (ds:=r) (i:=i+1)
  rw [Tk,YQ]
  split
  ·omega
  ·omega
theorem Ph {ds:List Zf} (c:Int):Xj ds c<=(ds.length:Int):=by
 rw [Xj]
 rcases Di (c:=c) (ds:=ds) (i:=0) (first:=0) with h|⟨k,d,x,h1,_,_,_,h5⟩
 ·rw [h];show (-1:Int)<=_;omega
 ·rw [h5]
  have:=(XG.1 h1).1
  show ((0:Nat):Int)+k+1<=_;omega
theorem Pr {ds:List Zf} {us:List Int} {op:Int}:∀{args:List Int},UQ ds us op args<=0
 | []=>by show (-1:Int)<=0;decide
 | [a]=>by
  rw [UQ]
  cases Xg us a with
  | none=>show (-1:Int)<=0;decide
  | some t=>
   show (if t=0 then (-1:Int) else if (op≠14/\op≠15)/\X0 ds t=true then -1 else 0)<=0
   repeat' split
   all_goals omega
 | _::_::_=>by show (-1:Int)<=0;decide
section
variable {n:Zx} (hu:HD n)
include hu
theorem Z3k {us:List Int} {op num:Int} {args:List Int}:Td n us op num args<=(n.decls.length:Int):=by
 rw [Td]
 split
 ·omega
 ·rename_i r hr
  have hm:r∈n.routines:=by
   rw [Xg] at hr
   split at hr
   ·exact Y6 hr
   ·cases hr
  rw [Qf]
  split
  ·split
   ·exact hu.result r hm
   ·omega
  ·split
   ·omega
   ·have:=HQ (a:=r.params.getLast?.getD 0) (b:=r.result) (ds:=n.decls) (i:=0)
    rw [Q6,WM];omega
theorem Oz {us:List Int}:∀{args:List Int},Tj n.decls us args<=(n.decls.length:Int)
 | []=>by show (-1:Int)<=_;omega
 | [_]=>by show (-1:Int)<=_;omega
 | [a,b]=>by
  rw [Tj]
  cases Xg us a with
  | none=>show (-1:Int)<=_;omega
  | some t=>
   show (if X0 n.decls t=true then (match n.decls[(t-1).toNat]? with
     | some d=>if XN us [b] [d.frm]=true then d.to_ else -1
     | none=>-1) else -1)<=(n.decls.length:Int)
   split
   ·rename_i ha
    cases hd:n.decls[(t-1).toNat]? with
    | none=>show (-1:Int)<=_;omega
    | some d=>
     have hd0:d.cons.length=0:=by
      rw [X0,hd] at ha
      simp at ha
      rw [ha.2];rfl
     have:=hu.decl d (Y6 hd) hd0
     show (if XN us [b] [d.frm]=true then d.to_ else -1)<=_
     split<;>omega
   ·omega
 | _::_::_::_=>by show (-1:Int)<=_;omega
mutual
theorem Z6j:∀(s:Z4) {us:List Int},(∀t∈us,t<=(n.decls.length:Int))->ZK n us s<=(n.decls.length:Int)
 | .mk op num into args kids,us,h=>by
  have hk:∀m∈X2 n.decls op num,∀f∈m,f<=(n.decls.length:Int):=fun m hm f hf=>by
   rw [X2] at hm
   split at hm
   ·simp at hm;subst hm;cases hf
   ·obtain ⟨c,_,rfl⟩:=XW.1 hm;exact hu.fields c f hf
  have hK:=LH kids (us:=us) (ms:=X2 n.decls op num) (first:=true) (t:=0) h hk om
  have h1:=Ph (ds:=n.decls) num
  have h2:=Z3k hu (us:=us) (op:=op) (num:=num) (args:=args)
  have h3:=Oz hu (us:=us) (args:=args)
  have h4:=Pr (ds:=n.decls) (us:=us) (op:=op) (args:=args)
  rw [ZK]
  repeat' split
  all_goals first|omega|exact hK
theorem LH:∀(bs:List Z6) {us:List Int} {ms:List (List Int)} {first:Bool} {t:Int},(∀t∈us,t<=(n.decls.length:Int))->(∀m∈ms,∀f∈m,f<=(n.decls.length:Int))->t<=(n.decls.length:Int)->W5 n us bs ms first t<=(n.decls.length:Int)
 | [],us,ms,first,t,h,hm,ht=>by rw [W5];exact ht
 | b::r,us,[],first,t,h,hm,ht=>by rw [W5];omega
 | b::r,us,m::ms,first,t,h,hm,ht=>by
  have hb:=HZ b (us:=us++m) fun x hx=>(Xa.1 hx).elim (h x) (hm m (Xe ..) x)
  rw [W5]
  split
  ·omega
  ·exact LH r h (fun q hq=>hm q (XC _ hq)) hb
theorem NF:∀(xs:List Z4) {us vs:List Int},(∀t∈us,t<=(n.decls.length:Int))->Wu n xs us=some vs->∀t∈vs,t<=(n.decls.length:Int)
 | [],us,vs,h,he=>by rw [Wu] at he;cases he;exact h
 | s::r,us,vs,h,he=>by
  rw [Wu] at he
  split at he
  ·cases he
  ·refine NF r (us:=if Xb s.op=true then us++[ZK n us s] else us) ?_ he
   have hs:=Z6j s h
   split
   ·intro x hx
    rcases Xa.1 hx with hx|hx
    ·exact h x hx
    ·rw [XJ.1 hx];exact hs
   ·exact h
theorem HZ:∀(b:Z6) {us:List Int},(∀t∈us,t<=(n.decls.length:Int))->YR n us b<=(n.decls.length:Int)
 | .mk steps result,us,h=>by
  rw [YR]
  split
  ·omega
  ·rename_i vs hvs
   have hv:=NF steps h hvs
   rw [Xg]
   split
   ·rename_i q
    obtain ⟨x,hx⟩:=Zt (xs:=vs) (j:=result.toNat) om
    rw [hx]
    exact hv x (Y6 hx)
   ·show (-1:Int)<=_;omega
end
end
theorem NG {n:Zx}:∀(xs:List Z4) {us vs:List Int},Wu n xs us=some vs->∃ws,vs=us++ws
 | [],us,vs,he=>by rw [Wu] at he;cases he;exact ⟨[],by simp⟩
 | s::r,us,vs,he=>by
  rw [Wu] at he
  split at he
  ·cases he
  ·obtain ⟨ws,hw⟩:=NG r he
   split at hw
   ·exact ⟨ZK n us s::ws,by rw [hw];simp⟩
   ·exact ⟨ws,hw⟩
def Xq (n:Zx) (us:List Int) (b:Z6):Int:=if (XI n=true/\YZ n.decls.length us=true)/\¬V4 b<0 then YR n us b else -1
theorem Z6n {b:Z6} {v:Int}:V4 ⟨b.steps,v⟩=V4 b:=by cases b;rfl
theorem I5 (n:Zx) (us:List Int) (b:Z6):Xq n us b<=(n.decls.length:Int):=by
 rw [Xq]
 split
 ·rename_i h
  exact HZ (Z27 h.1.1) b fun t ht=>(BX h.1.2 t ht).2
 ·omega
theorem ON {n:Zx} {us:List Int} {b:Z6} {v:Nat} {x:Int} (h:¬Xq n us b<0) (hx:us[v]? = some x):Xq n us ⟨b.steps,(v:Int)⟩=x:=by
 have hv:=(XG.1 hx).1
 rw [Xq] at h
 split at h
 ·rename_i q
  rw [Xq,Zk ⟨q.1,by rw [Z6n];exact q.2⟩]
  cases b with
  | mk steps result=>
   rw [YR] at h ⊢
   split at h
   ·exact absurd (show (-1:Int)<0 by decide) h
   ·rename_i vs hvs
    obtain ⟨ws,rfl⟩:=NG steps hvs
    simp only [Z6.steps] at *
    rw [hvs]
    show (Xg (us++ws) (v:Int)).getD (-1)=x
    rw [Xg,Zk (by rw [Yu];omega),VJ,BS hv,hx]
    rfl
 ·exact absurd (show (-1:Int)<0 by decide) h
end Go.Abs
section
namespace Go.Abs
structure VU where
 mat:Int
 fst:Int
 fds:List Int
 chg:Bool
def Qe:List VU->Int->Option VU
 | [],_=>none
 | a::r,v=>match Qe r v with
  | some x=>some x
  | none=>if a.mat=v then some a else none
theorem Ma {a:VU}:∀{as1:List VU} {v:Int},Qe (as1++[a]) v=if a.mat=v then some a else Qe as1 v
 | [],v=>rfl
 | x::r,v=>by
  rw [Qo,Qe,Ma]
  by_cases h:a.mat=v
  ·rw [Zk h,Zk h]
  ·rw [Za h,Za h];rfl
theorem GF {v:Int}:∀{as1:List VU},(∀a∈as1,a.mat≠v)->Qe as1 v=none
 | [],_=>rfl
 | x::r,h=>by rw [Qe,GF (fun a ha=>h a (XC _ ha))];exact Za (h x (Xe ..))
theorem M9 {v:Int} {a:VU}:∀{as1:List VU},Qe as1 v=some a->a∈as1/\a.mat=v
 | [],h=>by cases h
 | x::r,h=>by
  rw [Qe] at h
  cases hr:Qe r v with
  | some y=>rw [hr] at h;cases h;have:=M9 hr;exact ⟨XC _ this.1,this.2⟩
  | none=>
   rw [hr] at h
   simp only at h
   split at h
   ·cases h;exact ⟨Xe ..,by assumption⟩
   ·cases h
structure KP (ds:List Zf) (L:ZG) (as1:List VU):Prop where
 rng:∀a∈as1,0<=a.mat/\a.mat<a.fst/\a.fst+a.fds.length<=L.vars.length
 par:∀a∈as1,∀v:Int,a.fst<=v->v<a.fst+a.fds.length->gI L.par v=a.mat
 non:∀v:Int,0<=v->v<L.vars.length->0<=gI L.par v->∃a∈as1,a.fst<=v/\v<a.fst+a.fds.length
 off:∀v:Int,0<=v->v<L.vars.length->match Qe as1 v with
  | none=>gI L.con v<0
  | some a=>0<=gI L.con v/\a.fst=gI L.fst v/\a.fds=Zw ds (gI L.con v)
theorem KP.same {ds:List Zf} {L M:ZG} {as1:List VU} (h:KP ds L as1) (h1:M.vars.length=L.vars.length) (h2:M.par=L.par) (h3:M.con=L.con) (h4:M.fst=L.fst):KP ds M as1:=by
 refine ⟨?_,?_,?_,?_⟩
 ·rw [h1];exact h.rng
 ·rw [h2];exact h.par
 ·rw [h1,h2];exact h.non
 ·rw [h1,h3,h4];exact h.off
theorem KP.grow {ds:List Zf} {L:ZG} {as1:List VU} {t o:Int} (h:KP ds L as1) (hl:U3 L):KP ds (L.grow t o (-1)) as1:=by
 obtain ⟨e1,e2,e3,e4,e5⟩:=hl
 have key:∀{xs:List Int} {y v:Int},xs.length=L.vars.length->0<=v->v<L.vars.length->gI (xs++[y]) v=gI xs v:=fun hx h0 h1=>JU om
 have kend:∀{xs:List Int} {y v:Int},xs.length=L.vars.length->v=(L.vars.length:Int)->gI (xs++[y]) v=y:=fun hx h1=>FQ om
 have hlen:(L.grow t o (-1)).vars.length=L.vars.length+1:=by simp [ZG.grow]
 refine ⟨fun a ha=>?_,fun a ha v h1 h2=>?_,fun v h0 h1 h2=>?_,fun v h0 h1=>?_⟩
 ·have:=h.rng a ha;omega
 ·have:=h.rng a ha
  show gI (L.par++[-1]) v=a.mat
  rw [key e2 om om];exact h.par a ha v h1 h2
 ·have h2':0<=gI (L.par++[-1]) v:=h2
  by_cases hv:v<L.vars.length
  ·rw [key e2 h0 hv] at h2';exact h.non v h0 hv h2'
  ·rw [kend e2 om] at h2';omega
 ·show match Qe as1 v with
   | none=>gI (L.con++[-1]) v<0
   | some a=>0<=gI (L.con++[-1]) v/\a.fst=gI (L.fst++[-1]) v/\a.fds=Zw ds (gI (L.con++[-1]) v)
  by_cases hv:v<L.vars.length
  ·rw [key e3 h0 hv,key e4 h0 hv];exact h.off v h0 hv
  ·rw [GF (fun a ha=>by have:=h.rng a ha;omega)]
   show gI (L.con++[-1]) v<0
   rw [kend e3 om];omega
theorem KP.arm {ds:List Zf} {L:ZG} {as1:List VU} {x c:Int} (h:KP ds L as1) (hl:U3 L) (hx:0<=x/\x<L.vars.length) (hc:0<=c) :
  KP ds (KW ds L x c) (as1++[⟨x,(L.vars.length:Nat),Zw ds c,false⟩]):=by
 obtain ⟨e1,e2,e3,e4,e5⟩:=hl
 rw [KW,G4]
 have hnew:∀{xs:List Int} {y v:Int},xs.length=L.vars.length->(L.vars.length:Int)<=v->v<L.vars.length+(Zw ds c).length->gI (xs++List.replicate (Zw ds c).length y) v=y:=fun hx h0 h1=>FV om
 have hold:∀{xs:List Int} {y v:Int},xs.length=L.vars.length->0<=v->v<L.vars.length->gI (xs++List.replicate (Zw ds c).length y) v=gI xs v:=fun hx h0 h1=>JU om
 refine ⟨fun a ha=>?_,fun a ha v h1 h2=>?_,fun v h0 h1 h2=>?_,fun v h0 h1=>?_⟩
 ·simp only [Yu]
  rcases Xa.1 ha with ha|ha
  ·have:=h.rng a ha;omega
  ·rw [XJ.1 ha]
   show 0<=x/\x<(L.vars.length:Nat)/\(L.vars.length:Int)+((Zw ds c).length:Nat)<=_
   omega
 ·show gI (L.par++List.replicate _ x) v=a.mat
  rcases Xa.1 ha with ha|ha
  ·have:=h.rng a ha
   rw [hold e2 om om];exact h.par a ha v h1 h2
  ·rw [XJ.1 ha] at h1 h2 ⊢
   exact hnew e2 h1 h2
 ·simp only [Yu] at h1
  have h2':0<=gI (L.par++List.replicate (Zw ds c).length x) v:=h2
  by_cases hv:v<L.vars.length
  ·rw [hold e2 h0 hv] at h2'
   obtain ⟨a,ha,q⟩:=h.non v h0 hv h2'
   exact ⟨a,List.mem_append_left _ ha,q⟩
  ·exact ⟨_,List.mem_append_right _ (XJ.2 rfl),by show (L.vars.length:Int)<=v;omega,by show v<(L.vars.length:Int)+(Zw ds c).length;omega⟩
 ·simp only [Yu] at h1
  show match Qe (as1++[⟨x,(L.vars.length:Nat),Zw ds c,false⟩]) v with
   | none=>gI (L.con.set x.toNat c++List.replicate (Zw ds c).length (-1)) v<0
   | some a=>0<=gI (L.con.set x.toNat c++List.replicate (Zw ds c).length (-1)) v/\a.fst=gI (L.fst.set x.toNat L.vars.length++List.replicate (Zw ds c).length (-1)) v /\
     a.fds=Zw ds (gI (L.con.set x.toNat c++List.replicate (Zw ds c).length (-1)) v)
  rw [Ma]
  by_cases hv:v<L.vars.length
  ·rw [hold (by simp [e3]) h0 hv,hold (by simp [e4]) h0 hv]
   by_cases he:x=v
   ·rw [Zk he]
    show 0<=gI (L.con.set x.toNat c) v/\(L.vars.length:Int)=gI (L.fst.set x.toNat L.vars.length) v/\Zw ds c=Zw ds (gI (L.con.set x.toNat c) v)
    rw [DE om om,DE om om]
    exact ⟨hc,rfl,rfl⟩
   ·rw [Za he,DF om,DF om];exact h.off v h0 hv
  ·rw [hnew (by simp [e3]) om om]
   rw [Za (by show ¬x=v;omega),GF (fun a ha=>by have:=h.rng a ha;omega)]
   show (-1:Int)<0
   omega
end Go.Abs
namespace Go.Abs
end Go.Abs
namespace Go.Abs
end Go.Abs
namespace Go.Abs
section
variable {n:Zx} {ln:List Int} {L:ZG} {op v:Int} {am:List VU} {a:VU}
end
end Go.Abs
namespace Go.Abs
end Go.Abs
end
section
namespace Go.Abs
section
variable {n:Zx} {us:List Int} {op num:Int}
end
end Go.Abs
namespace Go.Abs
end Go.Abs
namespace Go.Abs
end Go.Abs
end
section
namespace Go.Abs
section
variable {n:Zx} {ln:List Int}
end
end Go.Abs
namespace Go.Abs
end Go.Abs
namespace Go.Abs
end Go.Abs
namespace Go.Abs
section
variable {n:Zx} {ln:List Int} {L:ZG} {s:Z4}
end
end Go.Abs
namespace Go.Abs
end Go.Abs
namespace Go.Abs
end Go.Abs
namespace Go.Abs
end Go.Abs
end
section
namespace Go.Abs
end Go.Abs
namespace Go.Abs
end Go.Abs
namespace Go.Abs
end Go.Abs
end
section
namespace Go.Abs
end Go.Abs
namespace Go.Abs
end Go.Abs
namespace Go.Abs
end Go.Abs
namespace Go.Abs
end Go.Abs
end
namespace Go.Abs
def Zi (op v:Int):Z4:=.mk op 0 0 [v] []
def VE (ds:List Zf) (num:Int) (k:Nat):List Int:=((Zu ds num).map (Zw ds))[k]?.getD []
def HP (ds:List Zf) (am:List VU) (m:Nat) (op num:Int) (args:List Int) (k:Nat):List VU:=if op=8 then am++[⟨gI args 0,(m:Int),VE ds num k,false⟩] else am
def LR (ds:List Zf) (m:Nat) (op num:Int) (k:Nat):Nat:=if op=8 then m+(VE ds num k).length else m
section
variable {ds:List Zf} {am:List VU} {m:Nat}
end
theorem IE {ds:List Zf} {num:Int} {k:Nat} {m:List Int} (h:((Zu ds num).map (Zw ds))[k]? = some m):VE ds num k=m:=by rw [VE,h];rfl
theorem IF {ds:List Zf} (hd:Wd ds) (num:Int) (k:Nat):(VE ds num k).length<=3:=by
 rw [VE,Kg]
 cases (Zu ds num)[k]? with
 | none=>simp
 | some c=>exact VK hd c
def QX (am:List VU) (m:Nat):Prop:=∀a∈am,a.fds.length<=3/\0<=a.fst/\a.fst<=m
theorem QX.at {am:List VU} {m:Nat} (h:QX am m) {v:Int} {a:VU} (ha:Qe am v=some a):a.fds.length<=3/\0<=a.fst/\a.fst<=m:=h a (M9 ha).1
theorem QX.le {am:List VU} {m k:Nat} (h:QX am m) (hk:m<=k):QX am k:=fun a ha=>by have:=h a ha;omega
theorem QX.x {ds:List Zf} (hd:Wd ds) {am:List VU} {m k:Nat} (h:QX am m) (op num:Int) (args:List Int):QX (HP ds am m op num args k) (LR ds m op num k):=by
 rw [HP,LR]
 split
 ·intro a ha
  rcases Xa.1 ha with ha|ha
  ·have:=h a ha;omega
  ·rw [XJ.1 ha]
   have:=IF hd num k
   show (VE ds num k).length<=3/\0<=(m:Int)/\(m:Int)<=((m+(VE ds num k).length:Nat):Int)
   omega
 ·exact h
theorem Hf {xs:List Z4} {k:Nat} {s:Z4} (h:xs[k]? = some s):Ys (xs.take (k+1))=Ys (xs.take k)+s.sz:=by
 induction xs generalizing k with
 | nil=>simp at h
 | cons t r ih=>
  cases k with
  | zero=>simp at h;subst h;simp [Ys]
  | succ k=>rw [B7,B7,Ys,Ys,ih (by simpa using h)];omega
theorem Ql (xs:List Z4) (k:Nat):Ys (xs.take k)<=Ys xs:=by
 induction xs generalizing k with
 | nil=>simp
 | cons t r ih=>
  cases k with
  | zero=>simp [Ys]
  | succ k=>have:=ih k;rw [B7,Ys,Ys];omega
theorem Z4g {n:Zx} {us:List Int} {s:Z4} (g:0<=ZK n us s) (h:YB s.op=true):Q0 n us s=us:=by rw [Q0,Fn g,h];rfl
theorem Z4f {n:Zx} {us:List Int} {s:Z4} (g:0<=ZK n us s) (h:¬YB s.op=true):(Q0 n us s).length=us.length+1:=by
 rw [Q0,Fn g,KN.2 h];simp
theorem Z4h {n:Zx} {us:List Int} {s:Z4} (g:0<=ZK n us s):(Q0 n us s).length=if YB s.op=true then us.length else us.length+1:=by
 split
 ·rw [Z4g g (by assumption)]
 ·exact Z4f g (by assumption)
theorem QX.snoc {am:List VU} {q:Nat} (h:QX am q) {x:Int} {fs:List Int} (hl:fs.length<=3):QX (am++[⟨x,(q:Int),fs,false⟩]) (q+fs.length):=by
 intro a ha
 rcases Xa.1 ha with ha|ha
 ·have:=h a ha;omega
 ·rw [XJ.1 ha]
  show fs.length<=3/\0<=(q:Int)/\(q:Int)<=((q+fs.length:Nat):Int)
  omega

theorem UJ:∀(xs ys:List Z4),Ys (xs++ys)=Ys xs+Ys ys
 | [],ys=>by simp [Ys]
 | x::r,ys=>by rw [Qo,Ys,Ys,UJ r ys];omega
theorem Dh (op v:Int):(Zi op v).sz=2:=by rw [Zi,Z4.sz];simp [YW]
theorem Hc (op:Int):∀l:List Int,Ys (l.map (Zi op))=2*l.length
 | []=>by simp [Ys]
 | x::r=>by rw [Ug,Ys,Dh,Hc op r,YQ];omega
section
variable {ds:List Zf} (hd:Wd ds)
include hd
end
def GC (n:Nat):List Int:=(List.range n).map Int.ofNat
theorem Z2e (n:Nat):∀f∈GC n,0<=f/\f<=n:=by
 intro f hf
 simp only [GC,XW,List.mem_range] at hf
 obtain ⟨a,ha,rfl⟩:=hf
 show 0<=(a:Int)/\(a:Int)<=n
 omega
section
variable {ds:List Zf} {cons first:List Int}
end
def JC (first:List Int):Prop:=∀f∈first,0<=f/\f<=1000000000
theorem JC.at {first:List Int} (h:JC first) (v:Int):0<=gI first v/\gI first v<=1000000000:=by
 rw [gI]
 cases hq:first[v.toNat]? with
 | none=>simp
 | some x=>exact h x (Y6 hq)
theorem JC.snoc {first:List Int} (h:JC first):JC (first++[0]):=by
 intro f hf
 rcases Xa.1 hf with hf|hf
 ·exact h f hf
 ·rw [XJ.1 hf];omega
theorem JC.x {first:List Int} (h:JC first) {x m k:Nat} (hm:m<=1000000000) (hk:k<=1000000000):JC (first.set x (m:Int)++GC k):=by
 intro f hf
 rcases Xa.1 hf with hf|hf
 ·rcases QJ hf with hf|rfl
  ·exact h f hf
  ·omega
 ·have:=Z2e k f hf;omega
section
variable {ds:List Zf} (hd:Wd ds)
include hd
end
def YV:List Z4->Nat
 | []=>0
 | s::r=>if s.op=14∨s.op=15 then YV r+1 else 0
def XO (op:Int):List Z4->List Int
 | []=>[]
 | s::r=>if s.op=op then gI s.args 0::XO op r else XO op r
def Ud:List Int->Int->List Int->List Int->List Int × List Int
 | [],_,D,R=>(D,R)
 | f::r,q,D,R=>if f≠0/\q∈D then Ud r (q+1) (D.erase q) R else if f≠0 then Ud r (q+1) D (R++[q]) else Ud r (q+1) D R
def Jm (xs:List Z4) (x:Int) (fs:List Int) (q:Int):List Int × List Int:=Ud fs q (XO 14 (xs.take (YV xs))) ((XO 15 (xs.take (YV xs))).erase x)
def JI (xs:List Z4) (x:Int) (fs:List Int) (q:Int):List Z4:=
 if x∈XO 15 (xs.take (YV xs))/\fs.length≠0 then (Jm xs x fs q).1.map (Zi 14)++[Zi 16 x]++(Jm xs x fs q).2.map (Zi 15)++xs.drop (YV xs) else xs
def QY (b:Z6) (x:Int) (fs:List Int) (q:Int):Z6:=.mk (JI b.steps x fs q) b.result
theorem Ei:∀xs:List Z4,YV xs<=xs.length
 | []=>X7 _
 | s::r=>by have:=Ei r;rw [YV];split<;>simp<;>omega
theorem MR:∀{xs:List Z4} {s:Z4},s∈xs.take (YV xs)->s.op=14∨s.op=15
 | [],s,h=>by simp [YV] at h
 | t::r,s,h=>by
  rw [YV] at h
  split at h
  ·rename_i q
   rw [B7] at h
   rcases YP.1 h with rfl|h
   ·exact q
   ·exact MR h
  ·simp at h
theorem F5:∀xs:List Z4,(XO 14 xs).length+(XO 15 xs).length<=xs.length
 | []=>by simp [XO]
 | s::r=>by
  have:=F5 r
  rw [XO,XO]
  by_cases h:s.op=14
  ·rw [Zk h,Za om];simp;omega
  ·rw [Za h];split<;>simp<;>omega
theorem Ec:∀(fs:List Int) (q:Int) (D R:List Int),(Ud fs q D R).1.length+(Ud fs q D R).2.length<=D.length+R.length+fs.length
 | [],q,D,R=>by simp [Ud]
 | f::r,q,D,R=>by
  rw [Ud,YQ]
  split
  ·have:=Ec r (q+1) (D.erase q) R
   have h2:=List.length_erase_le (a:=q) (l:=D)
   omega
  ·split
   ·have:=Ec r (q+1) D (R++[q])
    simp only [Yu,YQ,Xp] at this
    omega
   ·have:=Ec r (q+1) D R
    omega
theorem Z2v {xs:List Z4} {x:Int} {fs:List Int} {q:Int} (h:x∈XO 15 (xs.take (YV xs))) (hf:fs.length<=3):(Jm xs x fs q).1.length+(Jm xs x fs q).2.length<=YV xs+2:=by
 have h1:=Ec fs q (XO 14 (xs.take (YV xs))) ((XO 15 (xs.take (YV xs))).erase x)
 have h2:=F5 (xs.take (YV xs))
 have h3:=List.length_pos_of_mem h
 rw [List.length_erase_of_mem h] at h1
 rw [Wv] at h2
 have h4:=Ei xs
 unfold Jm
 omega
theorem Z5w (xs:List Z4) (k:Nat):Ys xs=Ys (xs.take k)+Ys (xs.drop k):=by rw [<-UJ,Uy]
theorem Nw:∀xs:List Z4,(∀s∈xs,2<=s.sz)->2*xs.length<=Ys xs
 | [],_=>by simp
 | s::r,h=>by
  have h1:=Nw r fun t ht=>h t (XC _ ht)
  have h2:=h s (Xe ..)
  rw [Ys,YQ];omega
theorem Oo {xs:List Z4} {x:Int} {fs:List Int} {q:Int} (hf:fs.length<=3) (h:∀s∈xs,s.op=14∨s.op=15->2<=s.sz):Ys (JI xs x fs q)<=Ys xs+6:=by
 rw [JI]
 split
 ·rename_i hc
  have h1:=Z2v (q:=q) hc.1 hf
  have h2:=Nw (xs.take (YV xs)) fun s hs=>h s (TL hs) (MR hs)
  have h3:=Z5w xs (YV xs)
  have h4:=Ei xs
  rw [Wv] at h2
  rw [UJ,UJ,UJ,Hc,Hc,Ys,Ys,Dh]
  omega
 ·omega
def Cn (s:Z4):Prop:=s=Zi s.op (gI s.args 0)
theorem On {xs:List Z4} {m:Int} {fs:List Int} {q:Int} (h:¬(m∈XO 15 (xs.take (YV xs))/\fs.length≠0)):JI xs m fs q=xs:=Za h
end Go.Abs
section
namespace Go.Abs
mutual
def AU (ds:List Zf) (m:Nat):Z4->Z4
 | .mk op num into args kids=>.mk op num into args (Tg ds m op num args kids 0)
def Tg (ds:List Zf) (m:Nat) (op num:Int) (args:List Int):List Z6->Nat->List Z6
 | [],_=>[]
 | b::r,k=>(if op=8 then QY (WE ds (m+(VE ds num k).length) b) (gI args 0) (VE ds num k) m else WE ds m b)::Tg ds m op num args r (k+1)
def Uu (ds:List Zf) (m:Nat):List Z4->List Z4
 | []=>[]
 | s::r=>AU ds m s::Uu ds (if YB s.op=true then m else m+1) r
def WE (ds:List Zf) (m:Nat):Z6->Z6
 | .mk steps result=>.mk (Uu ds m steps) result
end
def Eu (ds:List Zf) (m:Nat) (op num:Int) (args:List Int) (k:Nat) (b:Z6):Z6:=if op=8 then QY (WE ds (m+(VE ds num k).length) b) (gI args 0) (VE ds num k) m else WE ds m b
theorem H5 (ds:List Zf) (m:Nat) (s:Z4):AU ds m s=.mk s.op s.num s.into s.args (Tg ds m s.op s.num s.args s.kids 0):=by cases s;rw [AU];rfl
theorem Es (ds:List Zf) (m:Nat) (b:Z6):WE ds m b=.mk (Uu ds m b.steps) b.result:=by cases b;rw [WE];rfl
section
variable {ds:List Zf} {m:Nat}
theorem Z4w {xs acc r:List Z4} {k:Nat} {s:Z4} (h:xs[k]? = some s) (ha:acc++Uu ds m (xs.drop k)=r) :
  (acc++[.mk s.op s.num s.into s.args (Tg ds m s.op s.num s.args s.kids 0)])++Uu ds (if YB s.op=true then m else m+1) (xs.drop (k+1))=r:=by
 rw [Yb h,Uu,H5] at ha
 rw [<-ha];simp
theorem Z4v {xs acc r:List Z4} {k:Nat} (h:xs.length<=k) (ha:acc++Uu ds m (xs.drop k)=r):acc=r:=by
 rw [Xz h,Uu,Ak] at ha;exact ha
theorem N7 {op num:Int} {args:List Int} {bs acc r:List Z6} {k:Nat} {b:Z6} (h:bs[k]? = some b) (ha:acc++Tg ds m op num args (bs.drop k) k=r) :
  (acc++[Eu ds m op num args k b])++Tg ds m op num args (bs.drop (k+1)) (k+1)=r:=by
 rw [Yb h,Tg] at ha
 rw [<-ha,Eu];simp
theorem Z4s {op num:Int} {args:List Int} {bs acc r:List Z6} {k j:Nat} (h:bs.length<=k) (ha:acc++Tg ds m op num args (bs.drop k) j=r):acc=r:=by
 rw [Xz h,Tg,Ak] at ha;exact ha
end
mutual
def wS (ds:List Zf):Z4->Prop
 | .mk op num into args kids=>(Xb op=!YB op)/\(YB op=true->num=0/\into=0/\kids=[]/\∃a,args=[a])/\(op=8->(∃a,args=[a]/\0<=a/\a<=900000000)/\kids.length=(Zu ds num).length)/\Jr ds kids
def Jr (ds:List Zf):List Z6->Prop
 | []=>True
 | b::r=>wB ds b/\Jr ds r
def Q2 (ds:List Zf):List Z4->Prop
 | []=>True
 | s::r=>wS ds s/\Q2 ds r
def wB (ds:List Zf):Z6->Prop
 | .mk steps _=>Q2 ds steps
end
section
variable {ds:List Zf}
theorem Ke (s:Z4):wS ds s↔(Xb s.op=!YB s.op)/\(YB s.op=true->s.num=0/\s.into=0/\s.kids=[]/\∃a,s.args=[a])/\(s.op=8->(∃a,s.args=[a]/\0<=a/\a<=900000000)/\s.kids.length=(Zu ds s.num).length)/\Jr ds s.kids:=by cases s;rw [wS];rfl
theorem QV (b:Z6):wB ds b↔Q2 ds b.steps:=by cases b;rw [wB];rfl
theorem Js:∀{xs:List Z4},Q2 ds xs↔∀s∈xs,wS ds s
 | []=>by simp [Q2]
 | s::r=>by rw [Q2,Js];simp
theorem EE:∀{xs:List Z6},Jr ds xs↔∀s∈xs,wB ds s
 | []=>by simp [Jr]
 | s::r=>by rw [Jr,EE];simp
theorem NY {b:Z6} {k:Nat} {s:Z4} (h:wB ds b) (hs:b.steps[k]? = some s):wS ds s:=Js.1 ((QV b).1 h) s (Y6 hs)
theorem Hw {s:Z4} {k:Nat} {b:Z6} (h:wS ds s) (hb:s.kids[k]? = some b):wB ds b:=EE.1 ((Ke s).1 h).2.2.2 b (Y6 hb)
theorem EF {s:Z4} (h:wS ds s) (hc:YB s.op=true):Cn s/\s.kids=[]/\∃a,s.args=[a]:=by
 obtain ⟨h1,h2,h3,a,h4⟩:=((Ke s).1 h).2.1 hc
 refine ⟨?_,h3,a,h4⟩
 cases s with
 | mk op num into args kids=>
  simp only [Z4.num,Z4.into,Z4.kids,Z4.args] at h1 h2 h3 h4
  subst h1 h2 h3 h4
  rfl
theorem Z7i {op v:Int} (h:op=14∨op=15∨op=16):wS ds (Zi op v):=(Ke _).2 ⟨by show Xb op=!YB op;rcases h with rfl|rfl|rfl<;>rfl,fun _=>⟨rfl,rfl,rfl,v,rfl⟩,fun e=>absurd e (show op≠8 by omega),True.intro⟩
theorem Z7j {s:Z4} (h:wS ds s):Xb s.op=!YB s.op:=((Ke s).1 h).1
theorem CV {s:Z4} (h:wS ds s) (h8:s.op=8):(∃a,s.args=[a]/\0<=a/\a<=900000000)/\s.kids.length=(Zu ds s.num).length:=((Ke s).1 h).2.2.1 h8
theorem EP {xs:List Z4} (h:Q2 ds xs):∀s∈xs,YB s.op=true->Cn s:=fun s hs hc=>(EF (Js.1 h s hs) hc).1
end
section
variable {n:Zx}
end
mutual
def Z4.pz:Z4->Nat
 | .mk _ _ _ args kids=>1+args.length+BI kids
def Z6.pz:Z6->Nat
 | .mk steps _=>1+BJ steps
def BJ:List Z4->Nat
 | []=>0
 | s::r=>s.pz+BJ r
def BI:List Z6->Nat
 | []=>0
 | b::r=>b.pz+8+BI r
end
mutual
theorem Z4.pz_le:∀s:Z4,s.pz<=9*s.sz
 | .mk _ _ _ args kids=>by have:=My kids;rw [Z4.pz,Z4.sz];omega
theorem Z6.pz_le:∀b:Z6,b.pz+8<=9*b.sz
 | .mk steps _=>by have:=Mz steps;rw [Z6.pz,Z6.sz];omega
theorem Mz:∀xs:List Z4,BJ xs<=9*Ys xs
 | []=>QW _
 | s::r=>by have:=s.pz_le;have:=Mz r;rw [BJ,Ys];omega
theorem My:∀xs:List Z6,BI xs<=9*YW xs
 | []=>QW _
 | s::r=>by have:=s.pz_le;have:=My r;rw [BI,YW];omega
end
section
variable {ds:List Zf}
theorem P2 {op:Int} (h:op=14∨op=15):YB op=true:=by rw [YB];simp;omega
theorem Z4x {xs:List Z4}:∀{m:Nat},Q2 ds xs->∀s∈Uu ds m xs,s.op=14∨s.op=15->2<=s.sz:=by
 induction xs with
 | nil=>intro m _ s hs;simp [Uu] at hs
 | cons t r ih=>
  intro m h s hs ho
  rw [Uu] at hs
  rcases YP.1 hs with rfl|hs
  ·rw [H5] at ho ⊢
   obtain ⟨_,_,a,ha⟩:=EF h.1 (P2 ho)
   rw [Z4.sz,ha];simp
  ·exact ih h.2 s hs ho
variable (hd:Wd ds)
include hd
mutual
theorem Z4t:∀(s:Z4) {m:Nat},wS ds s->(AU ds m s).sz<=s.pz
 | .mk op num into args kids,m,h=>by
  have:=N9 kids (m:=m) (op:=op) (num:=num) (args:=args) (k:=0) h.2.2.2
  rw [AU,Z4.sz,Z4.pz];omega
theorem N9:∀(bs:List Z6) {m:Nat} {op num:Int} {args:List Int} {k:Nat},Jr ds bs->YW (Tg ds m op num args bs k)<=BI bs
 | [],_,_,_,_,_,_=>X7 _
 | b::r,m,op,num,args,k,h=>by
  have h2:=N9 r (m:=m) (op:=op) (num:=num) (args:=args) (k:=k+1) h.2
  rw [Tg,YW,BI]
  split
  ·have h1:=Et b (m:=m+(VE ds num k).length) h.1
   have h3:=Oo (xs:=(WE ds (m+(VE ds num k).length) b).steps) (x:=gI args 0) (q:=(m:Int)) (IF hd num k) (by rw [Es];exact Z4x ((QV b).1 h.1))
   rw [QY,Z6.sz]
   rw [Z6.sz_eq] at h1
   omega
  ·have h1:=Et b (m:=m) h.1
   omega
theorem Na:∀(xs:List Z4) {m:Nat},Q2 ds xs->Ys (Uu ds m xs)<=BJ xs
 | [],_,_=>X7 _
 | s::r,m,h=>by
  have h1:=Z4t s (m:=m) h.1
  have h2:=Na r (m:=if YB s.op=true then m else m+1) h.2
  rw [Uu,Ys,BJ];omega
theorem Et:∀(b:Z6) {m:Nat},wB ds b->(WE ds m b).sz<=b.pz
 | .mk steps result,m,h=>by
  have:=Na steps (m:=m) h
  rw [WE,Z6.sz,Z6.pz];omega
end
end
section
variable {ds:List Zf} {m:Nat}
end
def KG (ds:List Zf) (r:Yj):Yj:=⟨r.params,r.lent,r.result,WE ds r.params.length r.body⟩
def Ev (n:Zx):Zx:=⟨n.decls,n.routines.map (KG n.decls)⟩
end Go.Abs
namespace Go.Abs
theorem Z3z {xs:List Z4} {k:Nat} {s:Z4} {r:Nat} (h:xs[k]? = some s) (hs:s.op=14∨s.op=15) (ha:k+YV (xs.drop k)=r):k+1+YV (xs.drop (k+1))=r:=by
 rw [Yb h,YV,Zk hs] at ha;omega
theorem Z40 {xs:List Z4} {k:Nat} {s:Z4} {r:Nat} (h:xs[k]? = some s) (hs:¬(s.op=14∨s.op=15)) (ha:k+YV (xs.drop k)=r):k=r:=by
 rw [Yb h,YV,Za hs] at ha;omega
theorem Z3y {xs:List Z4} {k:Nat} {r:Nat} (h:xs.length<=k) (ha:k+YV (xs.drop k)=r):k=r:=by
 rw [Xz h,YV] at ha;omega
theorem OD {op:Int} {xs:List Z4} {acc r:List Int} {k:Nat} {s:Z4} (h:xs[k]? = some s) (hs:s.op=op) (ha:acc++XO op (xs.drop k)=r):(acc++[gI s.args 0])++XO op (xs.drop (k+1))=r:=by
 rw [Yb h,XO,Zk hs] at ha;rw [<-ha];simp
theorem OC {op:Int} {xs:List Z4} {acc r:List Int} {k:Nat} {s:Z4} (h:xs[k]? = some s) (hs:¬s.op=op) (ha:acc++XO op (xs.drop k)=r):acc++XO op (xs.drop (k+1))=r:=by
 rw [Yb h,XO,Za hs] at ha;exact ha
theorem OB {op:Int} {xs:List Z4} {acc r:List Int} {k:Nat} (h:xs.length<=k) (ha:acc++XO op (xs.drop k)=r):acc=r:=by
 rw [Xz h,XO,Ak] at ha;exact ha
theorem Re {xs acc r:List Int} {y:Int} {k:Nat} {x:Int} {d:Bool} (h:xs[k]? = some x) (ha:acc++(if d=true then xs.drop k else (xs.drop k).erase y)=r) :
  (if x=y/\¬d=true then acc else acc++[x])++(if ((x==y&&!d)||d)=true then xs.drop (k+1) else (xs.drop (k+1)).erase y)=r:=by
 rw [Yb h] at ha
 rw [<-ha]
 by_cases hd:d=true
 ·simp [hd]
 ·by_cases hx:x=y
  ·simp [hd,hx]
  ·rw [Za (fun z=>hx z.1),Za hd,List.erase_cons_tail (by simpa using hx)]
   simp [hd,hx]
theorem Rd {xs acc r:List Int} {y:Int} {k:Nat} {d:Bool} (h:xs.length<=k) (ha:acc++(if d=true then xs.drop k else (xs.drop k).erase y)=r):acc=r:=by
 rw [Xz h] at ha;simpa using ha
section
variable {fs D R:List Int} {q k:Nat} {f:Int} {r:List Int × List Int}
theorem Z2x (h:fs[k]? = some f) (h0:f≠0) (hm:((q+k:Nat):Int)∈D) (ha:Ud (fs.drop k) (q+k) D R=r):Ud (fs.drop (k+1)) (q+((k+1:Nat):Int)) (D.erase ((q+k:Nat):Int)) R=r:=by
 rw [Yb h,Ud,Zk ⟨h0,by rw [<-Int.natCast_add];exact hm⟩,<-Int.natCast_add] at ha
 rw [<-ha];congr 1
theorem Z2y (h:fs[k]? = some f) (h0:f≠0) (hm:¬((q+k:Nat):Int)∈D) (ha:Ud (fs.drop k) (q+k) D R=r):Ud (fs.drop (k+1)) (q+((k+1:Nat):Int)) D (R++[((q+k:Nat):Int)])=r:=by
 rw [Yb h,Ud,Za (fun z=>hm (by rw [Int.natCast_add];exact z.2)),Zk h0,<-Int.natCast_add] at ha
 rw [<-ha];congr 1
theorem Z2z (h:fs[k]? = some f) (h0:¬f≠0) (ha:Ud (fs.drop k) (q+k) D R=r):Ud (fs.drop (k+1)) (q+((k+1:Nat):Int)) D R=r:=by
 rw [Yb h,Ud,Za (fun z=>h0 z.1),Za h0] at ha
 rw [<-ha];congr 1
theorem Z2w (h:fs.length<=k) (ha:Ud (fs.drop k) (q+k) D R=r):r=(D,R):=by
 rw [Xz h,Ud] at ha;exact ha.symm
end
theorem Oq {xs:List Z4} {x:Int} {fs:List Int} {q:Int} {D R:List Int} (h1:x∈XO 15 (xs.take (YV xs))) (h2:fs.length≠0) (hr:Jm xs x fs q=(D,R)):D.map (Zi 14)++[Zi 16 x]++R.map (Zi 15)++xs.drop (YV xs)=JI xs x fs q:=by
 rw [JI,Zk ⟨h1,h2⟩,hr]
theorem Z4u {ds:List Zf} {xs:List Z4}:∀{m:Nat},Q2 ds xs->∀s∈Uu ds m xs,YB s.op=true->∃a,s.args=[a]:=by
 induction xs with
 | nil=>intro m _ s hs;simp [Uu] at hs
 | cons t r ih=>
  intro m h s hs ho
  rw [Uu] at hs
  rcases YP.1 hs with rfl|hs
  ·rw [H5] at ho ⊢
   exact (EF h.1 ho).2.2
  ·exact ih h.2 s hs ho
end Go.Abs
end
namespace Go.Abs
mutual
def Z2.sz:Z2->Nat
 | .mk _ _ kids=>1+Xr kids
def Xr:List Z2->Nat
 | []=>0
 | e::r=>e.sz+Xr r
end
theorem Z2.sz_eq (e:Z2):e.sz=1+Xr e.kids:=by cases e;rw [Z2.sz];rfl
theorem C9:∀xs ys:List Z2,Xr (xs++ys)=Xr xs+Xr ys
 | [],ys=>by simp [Xr]
 | x::r,ys=>by rw [Qo,Xr,Xr,C9 r];omega
theorem AE:∀{xs:List Z2} {k:Nat} {e:Z2},xs[k]? = some e->e.sz<=Xr xs
 | [],k,e,h=>by simp at h
 | x::r,0,e,h=>by simp at h;subst h;rw [Xr];omega
 | x::r,k+1,e,h=>by have:=AE (xs:=r) (k:=k) (by simpa using h);rw [Xr];omega
theorem Iy:∀{xs:List Z2},xs.length<=Xr xs
 | []=>QW _
 | x::r=>by have:=Iy (xs:=r);have:=x.sz_eq;rw [Xr,YQ];omega
def KY:Zf:=⟨0,0,[⟨[]⟩,⟨[0,1]⟩]⟩
def KZ:Zf:=⟨0,0,[⟨[]⟩,⟨[3,0,3]⟩]⟩
def Ik:List Zf:=[⟨0,0,[⟨[1,3]⟩]⟩,⟨1,0,[]⟩,⟨0,0,[⟨[1,1,0]⟩,⟨[0]⟩,⟨[3]⟩]⟩,⟨0,1,[]⟩]
def Ja:List (List Zf):=[[KY,⟨0,0,[]⟩,KZ],[KY,⟨0,0,[]⟩,KZ,⟨0,0,[⟨[1,3]⟩]⟩],[KY,⟨0,0,[]⟩,KZ,⟨1,0,[]⟩],[KY,⟨0,0,[]⟩,KZ,⟨0,0,[⟨[1,1,0]⟩,⟨[0]⟩,⟨[3]⟩]⟩],[KY,⟨0,0,[]⟩,KZ,⟨0,1,[]⟩]]
def GD (ds:List Zf):Prop:=ds∈Ja
theorem GD.ok {ds:List Zf} (h:GD ds):Wd ds:=by
 have k:=(by decide:∀ds∈Ja,ds.length<=4/\(∀d∈ds,d.cons.length<=3)/\∀d∈ds,∀c∈d.cons,c.fields.length<=3) ds h
 exact ⟨k.1,k.2.1,k.2.2⟩
theorem GD.len {ds:List Zf} (h:GD ds):3<=ds.length/\ds.length<=4:=by
 exact (by decide:∀ds∈Ja,3<=ds.length/\ds.length<=4) ds h
def QI (t:Int):Prop:=t=0∨t=1∨t=3
instance (t:Int):Decidable (QI t):=inferInstanceAs (Decidable (_∨_∨_))
theorem GD.low {ds:List Zf} (h:GD ds):Zu ds 0=[]/\Zu ds 1=[0,1]/\Zu ds 2=[]/\Zu ds 3=[2,3]/\Zw ds 0=[]/\Zw ds 1=[0,1]/\Zw ds 2=[]/\Zw ds 3=[3,0,3]:=
 (by decide:∀ds∈Ja,Zu ds 0=[]/\Zu ds 1=[0,1]/\Zu ds 2=[]/\Zu ds 3=[2,3]/\Zw ds 0=[]/\Zw ds 1=[0,1]/\Zw ds 2=[]/\Zw ds 3=[3,0,3]) ds h
theorem GD.fields {ds:List Zf} (h:GD ds):∀c∈Zu ds 1++(Zu ds 3++Zu ds 4),∀t∈Zw ds c,QI t:=
 (by decide:∀ds∈Ja,∀c∈Zu ds 1++(Zu ds 3++Zu ds 4),∀t∈Zw ds c,QI t) ds h
theorem GD.cons_cases {ds:List Zf} (h:GD ds) {t:Int} {c:Int} (hc:c∈Zu ds t):(0<=c/\c<=9)/\(t=1∨t=3∨t=4)/\(Zw ds c).length<=3/\∀u∈Zw ds c,QI u:=by
 have ht:1<=t/\t<=ds.length:=by
  by_cases q:1<=t/\t<=ds.length
  ·exact q
  ·rw [Zu,Za q] at hc;cases hc
 have hl:=h.len
 have hlow:=h.low
 have key:∀c∈Zu ds 1++(Zu ds 3++Zu ds 4),0<=c/\c<=9:=
  (by decide:∀ds∈Ja,∀c∈Zu ds 1++(Zu ds 3++Zu ds 4),0<=c/\c<=9) ds h
 have h4:t=1∨t=2∨t=3∨t=4:=by omega
 have hf:=h.fields
 have hd:=VK h.ok c
 rcases h4 with rfl|rfl|rfl|rfl
 ·exact ⟨key c (Xa.2 (.inl hc)),.inl rfl,hd,hf c (Xa.2 (.inl hc))⟩
 ·rw [hlow.2.2.1] at hc;cases hc
 ·exact ⟨key c (Xa.2 (.inr (Xa.2 (.inl hc)))),.inr (.inl rfl),hd,hf c (Xa.2 (.inr (Xa.2 (.inl hc))))⟩
 ·exact ⟨key c (Xa.2 (.inr (Xa.2 (.inr hc)))),.inr (.inr rfl),hd,hf c (Xa.2 (.inr (Xa.2 (.inr hc))))⟩
def Kj:List (List Int × Int):=[([],0),([1],0),([1,1],1),([1],1),([1,0],1),([2,1],1),([1,1],0),([3],0),([0],1),([0,1],1),([3,0],3),([3],1),([1,3,0],0),([0],0),([0,0],0),([1,0],0)]
def UN (f:Func):Prop:=(f.params,f.result)∈Kj
theorem UN.bd {f:Func} (h:UN f):f.params.length<=3/\(∀t∈f.params,0<=t/\t<=3)/\QI f.result:=by
 have key:∀q∈Kj,q.1.length<=3/\(∀t∈q.1,0<=t/\t<=3)/\QI q.2:=by decide
 exact key _ h
theorem UN.clo {ds:List Zf} {f:Func} (hd:GD ds) (h:UN f) (hp:0<WM ds (gI f.params ((f.params.length:Int)-1)) f.result):∀t∈f.params.dropLast,QI t:=by
 have key:∀q∈Kj,0<WM ds (gI q.1 ((q.1.length:Int)-1)) q.2->∀t∈q.1.dropLast,QI t:=
  (by decide +kernel:∀ds∈Ja,∀q∈Kj,0<WM ds (gI q.1 ((q.1.length:Int)-1)) q.2->∀t∈q.1.dropLast,QI t) ds hd
 exact key _ h hp
structure GP (p:XV):Prop where
 decls:GD p.decls
 len:1<=p.funcs.length/\p.funcs.length<=4
 sigs:∀f∈p.funcs,UN f
def Te (ds:List Zf) (op num:Int) (m:Nat) (k:Nat):Nat:=
 if op=13 then m+k else if op=8 then (if k=0 then m else m+(Zw ds (gI (Zu ds num) ((k:Int)-1))).length) else m
mutual
def eW (ds:List Zf) (nf:Nat):Nat->Z2->Prop
 | m,.mk op num kids=>(0<=op/\op<=13)/\(op=12->kids=[]/\0<=num/\num<m)/\(op=13->kids.length=2)/\(op=7->kids.length=3)/\(op=8->kids.length=1+(Zu ds num).length)/\(op=9->0<=num/\num<nf)/\(-2000<=num/\num<=2000)/\kids.length<=4 /\
  TR ds nf (Te ds op num m) 0 kids
def TR (ds:List Zf) (nf:Nat) (sc:Nat->Nat):Nat->List Z2->Prop
 | _,[]=>True
 | k,e::r=>eW ds nf (sc k) e/\TR ds nf sc (k+1) r
end
theorem R8 {ds:List Zf} {nf m:Nat} (e:Z2):eW ds nf m e↔(0<=e.op/\e.op<=13)/\(e.op=12->e.kids=[]/\0<=e.num/\e.num<m)/\(e.op=13->e.kids.length=2)/\(e.op=7->e.kids.length=3)/\(e.op=8->e.kids.length=1+(Zu ds e.num).length)/\(e.op=9->0<=e.num/\e.num<nf)/\(-2000<=e.num/\e.num<=2000)/\e.kids.length<=4 /\
  TR ds nf (Te ds e.op e.num m) 0 e.kids:=by cases e;rw [eW];rfl
theorem Bo {ds:List Zf} {nf:Nat} {sc:Nat->Nat}:∀{xs:List Z2} {j k:Nat} {e:Z2},TR ds nf sc j xs->xs[k]? = some e->eW ds nf (sc (j+k)) e
 | [],j,k,e,_,h=>by simp at h
 | x::r,j,0,e,hw,h=>by simp at h;subst h;exact hw.1
 | x::r,j,k+1,e,hw,h=>by
  have:=Bo (xs:=r) (j:=j+1) (k:=k) hw.2 (by simpa using h)
  rw [show j+(k+1)=j+1+k by omega];exact this
theorem Iu {ds:List Zf} {nf:Nat} {sc:Nat->Nat}:∀{xs ys:List Z2} {j:Nat},TR ds nf sc j (xs++ys)↔TR ds nf sc j xs/\TR ds nf sc (j+xs.length) ys
 | [],ys,j=>by simp [TR]
 | x::r,ys,j=>by
  rw [Qo,TR,TR,Iu (xs:=r),and_assoc,YQ,show j+1+r.length=j+(r.length+1) by omega]
theorem FD {ds:List Zf} {nf m:Nat} {sc:Nat->Nat} (hs:∀k,sc k=m):∀{xs:List Z2} {j:Nat},(∀e∈xs,eW ds nf m e)->TR ds nf sc j xs
 | [],_,_=>True.intro
 | x::r,j,h=>⟨by rw [hs];exact h x (Xe ..),FD hs fun e he=>h e (XC _ he)⟩
theorem AC {ds:List Zf} {nf m:Nat} {op num:Int} {kids:List Z2} (ho:0<=op/\op<=11/\op≠7/\op≠8) (hc:op=9->0<=num/\num<nf) (hn:-2000<=num/\num<=2000) (hl:kids.length<=4) (hk:∀e∈kids,eW ds nf m e):eW ds nf m (.mk op num kids):=by
 rw [eW]
 refine ⟨by omega,fun h=>by omega,fun h=>by omega,fun h=>by omega,fun h=>by omega,hc,hn,hl,FD (m:=m) (fun k=>?_) hk⟩
 rw [Te,Za om,Za om]
theorem R9 {ds:List Zf} {nf m:Nat} {z:Int} (hz:-2000<=z/\z<=2000):eW ds nf m (.mk 0 z []):=AC om (fun h=>by omega) hz (by simp) (fun e he=>by cases he)
theorem Ra {ds:List Zf} {nf m:Nat} {z:Int} (hz:0<=z/\z<m) (hm:m<=2000):eW ds nf m (.mk 12 z []):=by
 rw [eW]
 exact ⟨by omega,fun _=>⟨rfl,hz⟩,fun h=>by omega,fun h=>by omega,fun h=>by omega,fun h=>by omega,by omega,by simp,True.intro⟩
theorem Is {ds:List Zf} {nf m:Nat} {num:Int} {kids:List Z2} (hn:-2000<=num/\num<=2000) (hl:kids.length=3) (hk:∀e∈kids,eW ds nf m e):eW ds nf m (.mk 7 num kids):=by
 rw [eW]
 refine ⟨by omega,fun h=>by omega,fun h=>by omega,fun _=>hl,fun h=>by omega,fun h=>by omega,hn,by omega,FD (m:=m) (fun k=>?_) hk⟩
 rw [Te,Za om,Za om]
theorem It {ds:List Zf} {nf m:Nat} {num:Int} {a b:Z2} (hn:-2000<=num/\num<=2000) (ha:eW ds nf m a) (hb:eW ds nf (m+1) b):eW ds nf m (.mk 13 num [a,b]):=by
 rw [eW]
 exact ⟨by omega,fun h=>by omega,fun _=>rfl,fun h=>by omega,fun h=>by omega,fun h=>by omega,hn,by simp,ha,hb,True.intro⟩
theorem FC {ds:List Zf} {nf m:Nat} {num:Int} {a:Z2} {arms:List Z2} (hn:-2000<=num/\num<=2000) (h3:arms.length<=3) (hl:arms.length=(Zu ds num).length) (ha:eW ds nf m a) (hk:TR ds nf (Te ds 8 num m) 1 arms):eW ds nf m (.mk 8 num (a::arms)):=by
 rw [eW]
 refine ⟨by omega,fun h=>by omega,fun h=>by omega,fun h=>by omega,fun _=>by rw [YQ];omega,fun h=>by omega,hn,by rw [YQ];omega,?_,hk⟩
 rw [Te,Za om,Zk rfl,Zk rfl]
 exact ha
def bS (b:Nat):Nat:=max 4 (10*b-10)
def bC (b:Nat):Nat:=max 40 (100*b-100)
def YN:List Z4->Nat
 | []=>0
 | s::r=>(if YB s.op=true then 0 else 1)+YN r
theorem QZ:∀xs ys:List Z4,YN (xs++ys)=YN xs+YN ys
 | [],ys=>by simp [YN]
 | x::r,ys=>by rw [Qo,YN,YN,QZ r];omega
theorem Az:∀xs:List Z4,YN xs<=xs.length
 | []=>X7 _
 | x::r=>by have:=Az r;rw [YN,YQ];split<;>omega
def Ut (ds:List Zf) (op num:Int) (m:Nat) (k:Nat):Nat:=if op=8 then m+(Zw ds (gI (Zu ds num) k)).length else m
mutual
def fS (ds:List Zf) (nf:Nat):Nat->Z4->Prop
 | m,.mk op num into args kids=>((0<=op/\op<=11)∨(14<=op/\op<=17))/\(∀a∈args,0<=a/\a<m)/\(14<=op->num=0/\into=0/\kids=[]/\∃a,args=[a])/\(op=7->kids.length=2)/\(op=8->kids.length=(Zu ds num).length)/\(op=7∨op=8->∃a,args=[a]) /\
  (op=9->0<=num/\num<nf)/\(-2000<=num/\num<=2000)/\(0<=into/\into<=m)/\args.length<=4/\(op≠7/\op≠8->kids=[])/\T4 ds nf (Ut ds op num m) 0 kids
def T4 (ds:List Zf) (nf:Nat) (sc:Nat->Nat):Nat->List Z6->Prop
 | _,[]=>True
 | k,b::r=>fB ds nf (sc k) b/\T4 ds nf sc (k+1) r
def UB (ds:List Zf) (nf:Nat):Nat->List Z4->Prop
 | _,[]=>True
 | m,s::r=>fS ds nf m s/\UB ds nf (if YB s.op=true then m else m+1) r
def fB (ds:List Zf) (nf:Nat):Nat->Z6->Prop
 | m,.mk steps result=>UB ds nf m steps/\0<=result/\result<(m+YN steps:Nat)
end
section
variable {ds:List Zf} {nf:Nat}
structure FS (ds:List Zf) (nf m:Nat) (s:Z4):Prop where
 op:(0<=s.op/\s.op<=11)∨(14<=s.op/\s.op<=17)
 args:∀a∈s.args,0<=a/\a<m
 cnt:14<=s.op->s.num=0/\s.into=0/\s.kids=[]/\∃a,s.args=[a]
 k7:s.op=7->s.kids.length=2
 k8:s.op=8->s.kids.length=(Zu ds s.num).length
 one:s.op=7∨s.op=8->∃a,s.args=[a]
 call:s.op=9->0<=s.num/\s.num<nf
 num:-2000<=s.num/\s.num<=2000
 into:0<=s.into/\s.into<=m
 alen:s.args.length<=4
 kn:s.op≠7/\s.op≠8->s.kids=[]
 kids:T4 ds nf (Ut ds s.op s.num m) 0 s.kids
theorem Dv {m:Nat} (s:Z4):fS ds nf m s↔FS ds nf m s:=by
 cases s
 rw [fS]
 exact ⟨fun ⟨h1,h2,h3,h4,h5,h6,h7,h8,h9,h10,h11,h12⟩=>⟨h1,h2,h3,h4,h5,h6,h7,h8,h9,h10,h11,h12⟩,fun h=>⟨h.op,h.args,h.cnt,h.k7,h.k8,h.one,h.call,h.num,h.into,h.alen,h.kn,h.kids⟩⟩
theorem Cb {m:Nat} (b:Z6):fB ds nf m b↔UB ds nf m b.steps/\0<=b.result/\b.result<(m+YN b.steps:Nat):=by cases b;rw [fB];rfl
theorem Cc {sc:Nat->Nat}:∀{xs:List Z6} {j k:Nat} {b:Z6},T4 ds nf sc j xs->xs[k]? = some b->fB ds nf (sc (j+k)) b
 | [],j,k,b,_,h=>by simp at h
 | x::r,j,0,b,hw,h=>by simp at h;subst h;exact hw.1
 | x::r,j,k+1,b,hw,h=>by
  have:=Cc (xs:=r) (j:=j+1) (k:=k) hw.2 (by simpa using h)
  rw [show j+(k+1)=j+1+k by omega];exact this
theorem IA {sc:Nat->Nat}:∀{xs ys:List Z6} {j:Nat},T4 ds nf sc j (xs++ys)↔T4 ds nf sc j xs/\T4 ds nf sc (j+xs.length) ys
 | [],ys,j=>by simp [T4]
 | x::r,ys,j=>by
  rw [Qo,T4,T4,IA (xs:=r),and_assoc,YQ,show j+1+r.length=j+(r.length+1) by omega]
theorem IB {sc:Nat->Nat} {xs:List Z6} {b:Z6} (h:T4 ds nf sc 0 xs) (hb:fB ds nf (sc xs.length) b):T4 ds nf sc 0 (xs++[b]):=
 IA.2 ⟨h,by rw [WL];exact hb,True.intro⟩
theorem Bq:∀{xs ys:List Z4} {m:Nat},UB ds nf m (xs++ys)↔UB ds nf m xs/\UB ds nf (m+YN xs) ys
 | [],ys,m=>by simp [UB,YN]
 | x::r,ys,m=>by
  rw [Qo,UB,UB,Bq (xs:=r),and_assoc,YN]
  by_cases h:YB x.op=true
  ·rw [Zk h,Zk h,WL]
  ·rw [Za h,Za h,Jx]
theorem Dw {xs:List Z4} {s:Z4} {m:Nat} (h:UB ds nf m xs) (hs:fS ds nf (m+YN xs) s):UB ds nf m (xs++[s]):=Bq.2 ⟨h,hs,True.intro⟩
theorem Cd:∀{xs:List Z4} {k m:Nat} {s:Z4},UB ds nf m xs->xs[k]? = some s->fS ds nf (m+YN (xs.take k)) s
 | [],k,m,s,_,h=>by simp at h
 | x::r,0,m,s,hw,h=>by simp at h;subst h;exact hw.1
 | x::r,k+1,m,s,hw,h=>by
  have:=Cd (xs:=r) (k:=k) hw.2 (by simpa using h)
  rw [B7,YN]
  by_cases hc:YB x.op=true
  ·rw [Zk hc] at this ⊢;rw [WL];exact this
  ·rw [Za hc] at this ⊢;rw [<-Jx];exact this
mutual
theorem Z7l:∀(s:Z4) {m:Nat},fS ds nf m s->m+4*s.sz<=900000000->Wd ds->wS ds s
 | .mk op num into args kids,m,h,hb,hd=>by
  rw [fS] at h
  obtain ⟨h1,h2,h3,h4,h5,h6,h7,h8,h9,h10,h11,h12⟩:=h
  rw [Z4.sz] at hb
  rw [wS]
  refine ⟨?_,fun hc=>h3 (show 14<=op/\op<=17 by simpa [YB] using hc).1,fun h8'=>⟨?_,h5 h8'⟩,O0 kids h12 (fun k=>?_) hd⟩
  ·rcases h1 with h1|h1
   ·have e1:YB op=false:=by simp [YB];omega
    have e2:Xb op=true:=by simp [Xb];omega
    rw [e1,e2];rfl
   ·have e1:YB op=true:=by simp [YB];omega
    have e2:Xb op=false:=by simp [Xb];omega
    rw [e1,e2];rfl
  ·obtain ⟨a,ha⟩:=h6 (.inr h8')
   have:=h2 a (by rw [ha];exact XJ.2 rfl)
   exact ⟨a,ha,by omega⟩
  ·have hf:=VK hd (gI (Zu ds num) k)
   show Ut ds op num m k+4*YW kids<=900000003
   rw [Ut];split<;>omega
theorem O0:∀(bs:List Z6) {sc:Nat->Nat} {k:Nat},T4 ds nf sc k bs->(∀k,sc k+4*YW bs<=900000003)->Wd ds->Jr ds bs
 | [],_,_,_,_,_=>True.intro
 | b::r,sc,k,h,hb,hd=>by
  have hp:=b.sz_eq
  exact ⟨NZ b h.1 (by have:=hb k;rw [YW] at this;omega) hd,O0 r h.2 (fun j=>by have:=hb j;rw [YW] at this;omega) hd⟩
theorem O1:∀(xs:List Z4) {m:Nat},UB ds nf m xs->m+4*Ys xs<=900000000->Wd ds->Q2 ds xs
 | [],_,_,_,_=>True.intro
 | s::r,m,h,hb,hd=>by
  rw [Ys] at hb
  have hp:=s.sz_pos
  refine ⟨Z7l s h.1 om hd,O1 r h.2 ?_ hd⟩
  split<;>omega
theorem NZ:∀(b:Z6) {m:Nat},fB ds nf m b->m+4*b.sz<=900000004->Wd ds->wB ds b
 | .mk steps result,m,h,hb,hd=>by
  rw [Z6.sz] at hb
  rw [fB] at h
  rw [wB]
  exact O1 steps h.1 om hd
end
mutual
theorem Z3e:∀(s:Z4) {m:Nat},fS ds nf m s->s.rng
 | .mk op num into args kids,m,h=>by
  rw [fS] at h
  obtain ⟨h1,h2,h3,h4,h5,h6,h7,h8,h9,h10,h11,h12⟩:=h
  rw [Z4.rng]
  exact ⟨by omega,MF kids h12⟩
theorem MF:∀(bs:List Z6) {sc:Nat->Nat} {k:Nat},T4 ds nf sc k bs->TP bs
 | [],_,_,_=>True.intro
 | b::r,sc,k,h=>⟨GO b h.1,MF r h.2⟩
theorem MG:∀(xs:List Z4) {m:Nat},UB ds nf m xs->Qk xs
 | [],_,_=>True.intro
 | s::r,m,h=>⟨Z3e s h.1,MG r h.2⟩
theorem GO:∀(b:Z6) {m:Nat},fB ds nf m b->b.rng
 | .mk steps result,m,h=>by rw [fB] at h;rw [Z6.rng];exact MG steps h.1
end
end
structure FN (n:Zx) (q:Nat):Prop where
 decls:GD n.decls
 len:1<=n.routines.length/\n.routines.length<=4
 sigs:∀r∈n.routines,(r.params,r.result)∈Kj
 lent:∀r∈n.routines,r.lent.length<=3/\∀i∈r.lent,0<=i/\i<r.params.length
 body:∀r∈n.routines,fB n.decls n.routines.length r.params.length r.body/\r.body.sz<=q
theorem FN.ok {n:Zx} {q:Nat} (h:FN n q):Xf n:=
 ⟨h.decls.ok,h.len.2,fun r hr=>(UN.bd (f:=⟨r.params,r.result,default⟩) (h.sigs r hr)).1,fun r hr=>by have:=(h.lent r hr).1;omega⟩
def Pk (n k:Int):Prop:=0<=k/\(0<n->k<n)/\(n<=0->k=0)
theorem Pk.lt {n k:Int} (h:Pk n k) (hn:0<n):0<=k/\k<n:=⟨h.1,h.2.1 hn⟩
theorem Pk.zero {n:Int}:Pk n 0:=⟨Int.le_refl _,fun h=>h,fun _=>rfl⟩
theorem Pk.rem {n a:Int} (ha:0<=a) (hn:0<n):Pk n (a % n):=⟨Int.emod_nonneg _ om,fun _=>Int.emod_lt_of_pos _ hn,fun _=>by omega⟩
def AD (ds:List Zf):Prop:=ds.length<=8/\∀d∈ds,d.cons.length<=4/\∀c∈d.cons,c.fields.length<=4
theorem GD.ad {ds:List Zf} (h:GD ds):AD ds:=(by decide:∀ds∈Ja,ds.length<=8/\∀d∈ds,d.cons.length<=4/\∀c∈d.cons,c.fields.length<=4) ds h
theorem AD.set {ds:List Zf} (h:AD ds) (k:Nat) {d:Zf} (hd:d.cons.length<=4/\∀c∈d.cons,c.fields.length<=4):AD (ds.set k d):=
 ⟨by rw [UM];exact h.1,fun x hx=>(List.mem_or_eq_of_mem_set hx).elim (h.2 x) fun e=>by rw [e];exact hd⟩
theorem AD.app {ds es:List Zf} (h:AD ds) (hl:ds.length+es.length<=8) (hd:∀d∈es,d.cons.length<=4/\∀c∈d.cons,c.fields.length<=4):AD (ds++es):=
 ⟨by rw [Yu];exact hl,fun x hx=>(Xa.1 hx).elim (h.2 x) (hd x)⟩
theorem GD.three:GD [KY,⟨0,0,[]⟩,KZ]:=List.Mem.head _
theorem GD.four:∀{k:Nat} {x:Zf},Ik[k]? = some x->GD ([KY,⟨0,0,[]⟩,KZ]++[x])
 | 0,x,h=>by cases h;exact .tail _ (.head _)
 | 1,x,h=>by cases h;exact .tail _ (.tail _ (.head _))
 | 2,x,h=>by cases h;exact .tail _ (.tail _ (.tail _ (.head _)))
 | 3,x,h=>by cases h;exact .tail _ (.tail _ (.tail _ (.tail _ (.head _))))
 | k+4,x,h=>by simp [Ik] at h
theorem A6 {l:List Int} {z a b:Int} (h:z∈l) (hl:l.all (fun x=>decide (a<=x/\x<=b))=true):a<=z/\z<=b:=by
 have:=Kf.1 hl z h
 exact of_decide_eq_true this
def rk (t:Int):Nat:=if QI t then 0 else 1
theorem GN (t:Int):rk t<=1:=by rw [rk];split<;>omega
theorem ME {t:Int} (h:QI t):rk t=0:=Zk h
def SE (g:XV) (q:Nat) (e:Z2):Prop:=(∀m,eW g.decls g.funcs.length m e)/\e.sz<=q
def GE (g:XV) (m q:Nat) (e:Z2):Prop:=eW g.decls g.funcs.length m e/\e.sz<=q
theorem SE.ge {g:XV} {q q' m:Nat} {e:Z2} (h:SE g q e) (hq:q<=q'):GE g m q' e:=⟨h.1 m,Vc h.2 hq⟩
theorem GE.le {g:XV} {m q q':Nat} {e:Z2} (h:GE g m q e) (hq:q<=q'):GE g m q' e:=⟨h.1,Vc h.2 hq⟩
theorem Du {m:Nat}:∀{xs:List Z2},(∀e∈xs,e.sz<=m)->Xr xs<=xs.length*m
 | [],_=>QW _
 | x::r,h=>by
  have h1:=h x (Xe ..)
  have h2:=Du (xs:=r) fun e he=>h e (XC _ he)
  rw [Xr,YQ,Tw];omega
theorem Xs {α:Type} {p:α->Prop} {xs:List α} {a:α} (h:∀x∈xs,p x) (ha:p a):∀x∈xs++[a],p x:=fun x hx=>(Xa.1 hx).elim (h x) fun q=>by rw [XJ.1 q];exact ha
theorem SE.int {g:XV} {z:Int} {q:Nat} (hz:-2000<=z/\z<=2000) (hq:1<=q):SE g q (.mk 0 z []):=⟨fun _=>R9 hz,by simpa [Z2.sz,Xr] using hq⟩
theorem SE.node {g:XV} {op num:Int} {ys:List Z2} {q k:Nat} (ho:op=6∨op=10) (hn:0<=num/\num<=2000) (hy:∀e∈ys,SE g 1 e) (hl:ys.length<=k) (hk:k<=3) (hq:1+k<=q):SE g q (.mk op num ys):=by
 refine ⟨fun m=>AC om (fun h=>by omega) om om fun e he=>(hy e he).1 m,?_⟩
 have:=Du (xs:=ys) (m:=1) fun e he=>(hy e he).2
 rw [Z2.sz];omega
def JE (ds:List Zf) (t c:Int):Prop:=(0<=c/\c<=9)/\(Zw ds c).length<=3*rk t/\∀u∈Zw ds c,QI u
instance (ds:List Zf) (t c:Int):Decidable (JE ds t c):=inferInstanceAs (Decidable (_/\_/\_))
theorem MY {ds:List Zf} (h:GD ds):∀t∈[(1:Int),2,3,4],∀c∈Zu ds t,(t∈Zw ds c->∀c0,(Zu ds t)[0]? = some c0->JE ds t c0)/\(¬t∈Zw ds c->JE ds t c):=by
 intro t ht c hc
 have k1:=(by decide:∀ds∈Ja,∀t∈[(1:Int),2,3,4],∀c∈Zu ds t,(t∈Zw ds c->JE ds t (gI (Zu ds t) 0))/\(¬t∈Zw ds c->JE ds t c)) ds h t ht c hc
 refine ⟨fun q c0 h0=>?_,k1.2⟩
 have:=k1.1 q
 rwa [US (i:=0) h0] at this
theorem Ig {ds:List Zf} (h:GD ds) {t c:Int} (hc:c∈Zu ds t):t∈[(1:Int),2,3,4]:=by
 obtain ⟨_,h2,_⟩:=h.cons_cases hc
 rcases h2 with rfl|rfl|rfl<;>simp
theorem Z4e {ds:List Zf} (h:GD ds) {t c c0:Int} (hc:c∈Zu ds t) (ht:t∈Zw ds c) (h0:(Zu ds t)[0]? = some c0):JE ds t c0:=(MY h t (Ig h hc) c hc).1 ht c0 h0
theorem Z4d {ds:List Zf} (h:GD ds) {t c:Int} (hc:c∈Zu ds t) (ht:¬t∈Zw ds c):JE ds t c:=(MY h t (Ig h hc) c hc).2 ht
theorem Z3d {ds:List Zf} (h:GD ds) {t:Int} (h0:(Zu ds t).length=0) (ht:0<t):rk t=1:=by
 rw [rk,Za]
 rintro (q|q|q)
 ·omega
 ·rw [q,h.low.2.1] at h0;cases h0
 ·rw [q,h.low.2.2.2.1] at h0;cases h0
def KQ (g:XV) (t i:Int):Prop:=0<=i/\∃f,g.funcs[i.toNat]? = some f/\0<f.params.length/\WM g.decls (gI f.params ((f.params.length:Int)-1)) f.result=t
theorem KQ.lt {g:XV} {t i:Int} (h:KQ g t i):0<=i/\i<g.funcs.length:=by
 obtain ⟨h1,f,h2,_⟩:=h
 have:=(XG.1 h2).1
 omega
theorem KQ.mk {g:XV} {t x2:Int} {k:Nat} {f:Func} (hf:g.funcs[k]? = some f) (hl:0<f.params.length) (hx:f.params[f.params.length-1]? = some x2) (ha:WM g.decls x2 f.result=t):KQ g t (k:Int):=by
 refine ⟨by omega,f,by simpa using hf,hl,?_⟩
 rw [US (i:=(f.params.length:Int)-1) (by rw [show ((f.params.length:Int)-1).toNat=f.params.length-1 by omega];exact hx)]
 exact ha
theorem KQ.low {g:XV} {t i u:Int} {f:Func} {j:Nat} (hg:GP g) (h:KQ g t i) (ht:0<t) (hf:g.funcs[i.toNat]? = some f) (hj:j+1<f.params.length) (hu:f.params[j]? = some u):rk u=0:=by
 obtain ⟨_,f',h2,_,h4⟩:=h
 have e:f'=f:=Jy (h2.symm.trans hf)
 subst e
 have h5:=(hg.sigs f' (Y6 hf)).clo hg.decls (by rw [h4];exact ht)
 refine ME (h5 u ?_)
 rw [List.dropLast_eq_take]
 exact Y6 (i:=j) (by rw [List.getElem?_take_of_lt om];exact hu)
end Go.Abs
section
namespace Go.Abs
theorem Km (b:Nat):bS b=max 4 (10*b-10):=rfl
theorem Kl (b:Nat):bC b=max 40 (100*b-100):=rfl
theorem Cz {L q b:Nat} (hL:L<=3) (hb:3<=b) (hq:L*q<=b-1):1+L*bS q<=bS b:=by
 rw [Km,Km]
 have:L=0∨L=1∨L=2∨L=3:=by omega
 rcases this with rfl|rfl|rfl|rfl<;>omega
theorem Z21 {L q b:Nat} (hL:L<=3) (hb:3<=b) (hq:L*q<=b-2):5+L*bS q<=bS b:=by
 rw [Km,Km]
 have:L=0∨L=1∨L=2∨L=3:=by omega
 rcases this with rfl|rfl|rfl|rfl<;>omega
theorem Z1v {b:Nat} (hb:3<=b):1+(bS (b / 2)+bS (b / 2))<=bS b:=by rw [Km,Km];omega
theorem Ou {b:Nat} (hb:3<=b):5+bS (b-2)<=bS b:=by rw [Km,Km];omega
theorem Jk {L q b:Nat} (hL:L<=3) (hb:3<=b) (hq:L*q<=b-1):10+L*bC q<=bC b:=by
 rw [Kl,Kl]
 have:L=0∨L=1∨L=2∨L=3:=by omega
 rcases this with rfl|rfl|rfl|rfl<;>omega
theorem Z20 {L q b:Nat} (hL:L<=3) (hb:3<=b) (hq:L*q<=b-2):40+L*bC q<=bC b:=by
 rw [Kl,Kl]
 have:L=0∨L=1∨L=2∨L=3:=by omega
 rcases this with rfl|rfl|rfl|rfl<;>omega
theorem Z1u {b:Nat} (hb:3<=b):10+(bC (b / 2)+bC (b / 2))<=bC b:=by rw [Kl,Kl];omega
theorem Ot {b:Nat} (hb:3<=b):40+bC (b-2)<=bC b:=by rw [Kl,Kl];omega
theorem HX (b:Nat):4<=bS b:=by rw [Km];omega
theorem HW (b:Nat):40<=bC b:=by rw [Kl];omega
theorem Tm (L b:Nat):L*(b / L)<=b:=Nat.mul_div_le b L
theorem LZ {k L C:Nat} (h:k<L):(k+1)*C=k*C+C/\(k+1)*C<=L*C:=⟨by rw [Tw,Nat.one_mul],TM C h⟩
theorem BN {ds:List Zf} {d x:Int} {m k:Nat} (h:(Zu ds d)[k]? = some x):Te ds 8 d m (1+k)=m+(Zw ds x).length:=by
 rw [Te,Za om,Zk rfl,Za om,US (i:=((1+k:Nat):Int)-1) (by rw [show (((1+k:Nat):Int)-1).toNat=k by omega];exact h)]
section
variable {g:XV} {m:Nat}
theorem GE.var {z:Int} {q:Nat} (hz:0<=z/\z<m) (hm:m<=2000) (hq:1<=q):GE g m q (.mk 12 z []):=⟨Ra hz hm,by simpa [Z2.sz,Xr] using hq⟩
theorem GE.list {ys:List Z2} {L s:Nat} (h:∀e∈ys,GE g m s e) (hl:ys.length=L):Xr ys<=L*s:=by rw [<-hl];exact Du fun e he=>(h e he).2
theorem GE.node {op num:Int} {ys:List Z2} {L s q:Nat} (ho:0<=op/\op<=11/\op≠7/\op≠8) (hc:op=9->0<=num/\num<g.funcs.length) (hn:-2000<=num/\num<=2000) (h:∀e∈ys,GE g m s e) (hl:ys.length=L) (hL:L<=3) (hq:1+L*s<=q):GE g m q (.mk op num ys):=by
 have:=GE.list h hl
 exact ⟨AC ho hc hn om fun e he=>(h e he).1,by rw [Z2.sz];omega⟩
theorem GE.if_ {num:Int} {ys:List Z2} {s q:Nat} (hn:-2000<=num/\num<=2000) (h:∀e∈ys,GE g m s e) (hl:ys.length=3) (hq:1+3*s<=q):GE g m q (.mk 7 num ys):=by
 have:=GE.list h hl
 exact ⟨Is hn hl fun e he=>(h e he).1,by rw [Z2.sz];omega⟩
theorem GE.let_ {a b:Z2} {s q:Nat} (ha:GE g m s a) (hb:GE g (m+1) s b) (hq:1+(s+s)<=q):GE g m q (.mk 13 0 [a,b]):=by
 refine ⟨It om ha.1 hb.1,?_⟩
 have h1:=ha.2
 have h2:=hb.2
 simp only [Z2.sz,Xr];omega
theorem GE.two {op num:Int} {a b:Z2} {s1 s2 q:Nat} (ho:0<=op/\op<=11/\op≠7/\op≠8/\op≠9) (hn:-2000<=num/\num<=2000) (ha:GE g m s1 a) (hb:GE g m s2 b) (hq:1+(s1+s2)<=q):GE g m q (.mk op num [a,b]):=by
 refine ⟨AC om (fun h=>by omega) hn (by simp) fun e he=>?_,?_⟩
 ·rcases YP.1 he with rfl|he
  ·exact ha.1
  ·rw [XJ.1 he];exact hb.1
 ·have h1:=ha.2
  have h2:=hb.2
  simp only [Z2.sz,Xr];omega
theorem GE.match_ {d:Int} {e:Z2} {ys:List Z2} {L s q:Nat} (hd:-2000<=d/\d<=2000) (he:GE g m 4 e) (hw:TR g.decls g.funcs.length (Te g.decls 8 d m) 1 ys) (hs:∀e∈ys,e.sz<=s) (hl:ys.length=L) (hL:L=(Zu g.decls d).length) (h3:L<=3) (hq:5+L*s<=q):GE g m q (.mk 8 d (e::ys)):=by
 refine ⟨FC hd om om he.1 hw,?_⟩
 have h1:=Du hs
 rw [hl] at h1
 have h2:=he.2
 rw [Z2.sz,Xr];omega
end
def NL (s:Nat) (left w:Int):Prop:=((s:Int)<=left/\w=left-s)∨(left<s/\w=-1)
end Go.Abs
namespace Go.Abs
theorem AQ {L b p pp M:Nat} (hL:L<=3) (hb:3<=b) (h:pp<=p+8) (hp:p+(bC b-1)<=M):pp+L*bC ((b-1) / L)<=M:=by
 have:=Jk hL hb (Tm L (b-1))
 omega
end Go.Abs
end
namespace Go.Abs
theorem Rf (a b:Z2):Xr [a,b]=a.sz+b.sz:=by simp only [Xr];omega
theorem Dt (a b c:Z2):Xr [a,b,c]=a.sz+b.sz+c.sz:=by simp only [Xr];omega
theorem BZ:bS 3=20/\bS 4=30/\bS 12=110/\bS 16=150/\bS 18=170/\bC 3=200/\bC 4=300/\bC 16=1500:=by decide
theorem D7 {b:Nat} (h:b<=20):bS b<=190/\bC b<=1900/\(b<=2->bS b<=10):=by rw [Km,Kl];omega
section
variable {g:XV} {m:Nat}
theorem SE.ofs {op num:Int} {ys:List Z2} {q:Nat} (ho:0<=op/\op<=11/\op≠7/\op≠8/\op≠9) (hn:-2000<=num/\num<=2000) (hl:ys.length<=4) (hy:∀e∈ys,∃s,SE g s e) (hq:1+Xr ys<=q):SE g q (.mk op num ys):=
 ⟨fun m=>AC om (fun h=>by omega) hn hl fun e he=>let ⟨_,h⟩:=hy e he;h.1 m,by rw [Z2.sz];exact hq⟩
theorem SE.nil {op num:Int} {q:Nat} (ho:0<=op/\op<=11/\op≠7/\op≠8/\op≠9) (hn:-2000<=num/\num<=2000) (hq:1<=q):SE g q (.mk op num []):=
 SE.ofs ho hn (by simp) (fun e he=>by cases he) (by simpa [Xr] using hq)
theorem SE.two {op num:Int} {a b:Z2} {s1 s2 q:Nat} (ho:0<=op/\op<=11/\op≠7/\op≠8/\op≠9) (hn:-2000<=num/\num<=2000) (ha:SE g s1 a) (hb:SE g s2 b) (hq:1+(s1+s2)<=q):SE g q (.mk op num [a,b]):=by
 refine SE.ofs ho hn (by simp) (fun e he=>?_) ?_
 ·rcases YP.1 he with rfl|he
  ·exact ⟨_,ha⟩
  ·rw [XJ.1 he];exact ⟨_,hb⟩
 ·have h1:=ha.2
  have h2:=hb.2
  rw [Rf];omega
theorem SE.three {op num:Int} {a b c:Z2} {s1 s2 s3 q:Nat} (ho:0<=op/\op<=11/\op≠7/\op≠8/\op≠9) (hn:-2000<=num/\num<=2000) (ha:SE g s1 a) (hb:SE g s2 b) (hc:SE g s3 c) (hq:1+(s1+s2+s3)<=q):SE g q (.mk op num [a,b,c]):=by
 refine SE.ofs ho hn (by simp) (fun e he=>?_) ?_
 ·rcases YP.1 he with rfl|he
  ·exact ⟨_,ha⟩
  ·rcases YP.1 he with rfl|he
   ·exact ⟨_,hb⟩
   ·rw [XJ.1 he];exact ⟨_,hc⟩
 ·have h1:=ha.2
  have h2:=hb.2
  have h3:=hc.2
  rw [Dt];omega
theorem GE.int {z:Int} {q:Nat} (hz:-2000<=z/\z<=2000) (hq:1<=q):GE g m q (.mk 0 z []):=(SE.int (g:=g) (q:=q) hz hq).ge (X7 _)
theorem GE.three {op num:Int} {a b c:Z2} {s1 s2 s3 q:Nat} (ho:0<=op/\op<=11/\op≠8/\op≠9) (hn:-2000<=num/\num<=2000) (ha:GE g m s1 a) (hb:GE g m s2 b) (hc:GE g m s3 c) (hq:1+(s1+s2+s3)<=q):GE g m q (.mk op num [a,b,c]):=by
 have hk:∀e∈[a,b,c],eW g.decls g.funcs.length m e:=fun e he=>by
  rcases YP.1 he with rfl|he
  ·exact ha.1
  ·rcases YP.1 he with rfl|he
   ·exact hb.1
   ·rw [XJ.1 he];exact hc.1
 refine ⟨?_,?_⟩
 ·by_cases h7:op=7
  ·subst h7;exact Is hn rfl hk
  ·exact AC om (fun h=>by omega) hn (by simp) hk
 ·have h1:=ha.2
  have h2:=hb.2
  have h3:=hc.2
  rw [Z2.sz,Dt];omega
theorem GE.one {op num:Int} {a:Z2} {s1 q:Nat} (ho:0<=op/\op<=11/\op≠7/\op≠8/\op≠9) (hn:-2000<=num/\num<=2000) (ha:GE g m s1 a) (hq:1+s1<=q):GE g m q (.mk op num [a]):=by
 refine ⟨AC om (fun h=>by omega) hn (by simp) fun e he=>?_,?_⟩
 ·rw [XJ.1 he];exact ha.1
 ·have h1:=ha.2
  simp only [Z2.sz,Xr];omega
theorem GE.letS {a b:Z2} {s1 s2 q:Nat} (ha:GE g m s1 a) (hb:GE g (m+1) s2 b) (hq:1+(s1+s2)<=q):GE g m q (.mk 13 0 [a,b]):=by
 refine ⟨It om ha.1 hb.1,?_⟩
 have h1:=ha.2
 have h2:=hb.2
 simp only [Z2.sz,Xr];omega
theorem GE.matchL (hg:GP g) {e a b:Z2} {s1 s2 s3 q:Nat} (he:GE g m s1 e) (ha:GE g m s2 a) (hb:GE g (m+2) s3 b) (hq:1+(s1+s2+s3)<=q):GE g m q (.mk 8 1 [e,a,b]):=by
 have hl:=hg.decls.low
 refine ⟨FC om (by simp) (by rw [hl.2.1];rfl) he.1 ⟨?_,?_,True.intro⟩,?_⟩
 ·rw [BN (k:=0) (x:=0) (by rw [hl.2.1];rfl),hl.2.2.2.2.1];exact ha.1
 ·rw [BN (k:=1) (x:=1) (by rw [hl.2.1];rfl),hl.2.2.2.2.2.1];exact hb.1
 ·have h1:=he.2
  have h2:=ha.2
  have h3:=hb.2
  rw [Z2.sz,Dt];omega
theorem GE.matchT (hg:GP g) {e a b:Z2} {s1 s2 s3 q:Nat} (he:GE g m s1 e) (ha:GE g m s2 a) (hb:GE g (m+3) s3 b) (hq:1+(s1+s2+s3)<=q):GE g m q (.mk 8 3 [e,a,b]):=by
 have hl:=hg.decls.low
 refine ⟨FC om (by simp) (by rw [hl.2.2.2.1];rfl) he.1 ⟨?_,?_,True.intro⟩,?_⟩
 ·rw [BN (k:=0) (x:=2) (by rw [hl.2.2.2.1];rfl),hl.2.2.2.2.2.2.1];exact ha.1
 ·rw [BN (k:=1) (x:=3) (by rw [hl.2.2.2.1];rfl),hl.2.2.2.2.2.2.2];exact hb.1
 ·have h1:=he.2
  have h2:=ha.2
  have h3:=hb.2
  rw [Z2.sz,Dt];omega
theorem F3 {α:Type} {p:α->Prop} {a:α} (h:p a):∀x∈[a],p x:=fun x hx=>by rw [XJ.1 hx];exact h
end
structure EQ (g:XV):Prop where
 gp:GP g
 body:∀f∈g.funcs,eW g.decls g.funcs.length f.params.length f.body/\f.body.sz<=30
structure GL (ds:List Zf) (k j:Nat) (rq:List Func):Prop where
 len:rq.length=4
 sigs:∀f∈rq,UN f
 zero:∀f,rq[0]? = some f->f.params.length=0
 body:∀i f,j<=i->i<k->rq[i]? = some f->eW ds k f.params.length f.body/\f.body.sz<=30
theorem GL.gp {ds:List Zf} {k j:Nat} {rq:List Func} (h:GL ds k j rq) (hd:GD ds) (hk:1<=k/\k<=4):GP ⟨ds,rq.take k⟩:=
 ⟨hd,by show 1<=(rq.take k).length/\_;rw [Wv,h.len];omega,fun f hf=>h.sigs f (TL hf)⟩
theorem GL.len_take {ds:List Zf} {k j:Nat} {rq:List Func} (h:GL ds k j rq) (hk:k<=4):(rq.take k).length=k:=by rw [Wv,h.len];omega
theorem GL.set {ds:List Zf} {k j:Nat} {rq:List Func} {f:Func} {e:Z2} (h:GL ds k j rq) (hj:1<=j) (hf:rq[j-1]? = some f) (he:eW ds k f.params.length e/\e.sz<=30):GL ds k (j-1) (rq.set (j-1) ⟨f.params,f.result,e⟩):=by
 have hl:=(XG.1 hf).1
 refine ⟨by rw [UM];exact h.len,fun x hx=>?_,fun x hx=>?_,fun i x h1 h2 hx=>?_⟩
 ·rcases List.mem_or_eq_of_mem_set hx with hx|rfl
  ·exact h.sigs x hx
  ·exact h.sigs f (Y6 hf)
 ·rw [List.getElem?_set] at hx
  split at hx
  ·rename_i h0
   cases hx
   exact h.zero f (by rw [<-h0];exact hf)
  ·exact h.zero x hx
 ·rw [List.getElem?_set] at hx
  split at hx
  ·cases hx
   exact he
  ·exact h.body i x om h2 hx
theorem GL.done {ds:List Zf} {k:Nat} {rq:List Func} (h:GL ds k 0 rq) (hd:GD ds) (hk:1<=k/\k<=4):EQ ⟨ds,rq.take k⟩:=by
 refine ⟨h.gp hd hk,fun f hf=>?_⟩
 show eW ds (rq.take k).length _ _/\_
 rw [h.len_take hk.2]
 obtain ⟨i,hi⟩:=List.getElem?_of_mem hf
 have hi2:i<(rq.take k).length:=(XG.1 hi).1
 rw [h.len_take hk.2] at hi2
 rw [List.getElem?_take_of_lt hi2] at hi
 exact h.body i f om hi2 hi
theorem H2 {l:List Func} {f:Func} {k:Nat} (h:l[k]? = some f) (hl:l.all (fun f=>decide ((f.params,f.result)∈Kj))=true):UN f:=show (f.params,f.result)∈Kj from of_decide_eq_true (Kf.1 hl f (Y6 h))
theorem GL.start {ds:List Zf} {k:Nat} {e:Z2} {a b c:Func} (ha:UN a) (hb:UN b) (hc:UN c):GL ds k k [⟨[],0,e⟩,a,b,c]:=by
 refine ⟨rfl,fun f hf=>?_,fun f hf=>?_,fun i f h1 h2=>by omega⟩
 ·rcases YP.1 hf with rfl|hf
  ·exact List.Mem.head _
  ·rcases YP.1 hf with rfl|hf
   ·exact ha
   ·rcases YP.1 hf with rfl|hf
    ·exact hb
    ·rw [XJ.1 hf];exact hc
 ·cases hf;rfl
theorem Z2g {l:List Int} {k:Nat} {a b:Nat} (h:(k:Int)∈l) (hl:l.all (fun x=>decide ((a:Int)<=x/\x<=b))=true):a<=k/\k<=b:=by
 have:=of_decide_eq_true (Kf.1 hl _ h)
 omega
mutual
def TY (p:Int->Prop):Z4->Prop
 | .mk op _ _ _ kids=>p op/\TX p kids
def TX (p:Int->Prop):List Z6->Prop
 | []=>True
 | b::r=>WX p b/\TX p r
def Tc (p:Int->Prop):List Z4->Prop
 | []=>True
 | s::r=>TY p s/\Tc p r
def WX (p:Int->Prop):Z6->Prop
 | .mk steps _=>Tc p steps
end
section
variable {p q:Int->Prop}
theorem CE (s:Z4):TY p s↔p s.op/\TX p s.kids:=by cases s;rw [TY];rfl
theorem E9 (b:Z6):WX p b↔Tc p b.steps:=by cases b;rw [WX];rfl
theorem BG:∀{xs:List Z6},TX p xs↔∀b∈xs,WX p b
 | []=>by simp [TX]
 | b::r=>by rw [TX,BG];simp
theorem AT:∀{xs:List Z4},Tc p xs↔∀b∈xs,TY p b
 | []=>by simp [Tc]
 | b::r=>by rw [Tc,AT];simp
theorem Ea {xs ys:List Z4}:Tc p (xs++ys)↔Tc p xs/\Tc p ys:=by simp only [AT,Xa];exact ⟨fun h=>⟨fun b hb=>h b (.inl hb),fun b hb=>h b (.inr hb)⟩,fun h b hb=>hb.elim (h.1 b) (h.2 b)⟩
theorem Me {xs:List Z6} {b:Z6} (h:TX p xs) (hb:WX p b):TX p (xs++[b]):=BG.2 (Xs (BG.1 h) hb)
theorem Eb {xs:List Z4} {b:Z4} (h:Tc p xs) (hb:TY p b):Tc p (xs++[b]):=AT.2 (Xs (AT.1 h) hb)
end
def Wp (op:Int):Prop:=op<=11
def V6 (op:Int):Prop:=op<=15
end Go.Abs
section
namespace Go.Abs
structure LW (ds:List Zf) (nf q:Nat) (e:Z2) (ys:List Z4) (v:Int):Prop where
 fs:UB ds nf q ys
 v:0<=v/\v<(q+YN ys:Nat)
 sz:Ys ys<=6*e.sz
 op:Tc Wp ys
theorem LW.dn {ds:List Zf} {nf q:Nat} {e:Z2} {ys:List Z4} {v:Int} (h:LW ds nf q e ys v):YN ys<=6*e.sz/\ys.length<=6*e.sz:=by
 have h1:=Az ys
 have h2:=Ka ys
 have h3:=h.sz
 omega
structure LB (ds:List Zf) (nf q:Nat) (e:Z2) (b:Z6):Prop where
 fb:fB ds nf q b
 sz:b.sz<=1+6*e.sz
 op:WX Wp b
section
variable {ds:List Zf} {nf q:Nat}
theorem C0:∀xs ys:List Z6,YW (xs++ys)=YW xs+YW ys
 | [],ys=>by simp [YW]
 | x::r,ys=>by rw [Qo,YW,YW,C0 r];omega
theorem LW.block {e:Z2} {ys:List Z4} {v:Int} (h:LW ds nf q e ys v):LB ds nf q e ⟨ys,v⟩:=
 ⟨by rw [fB];exact ⟨h.fs,h.v⟩,by rw [Z6.sz];have:=h.sz;omega,by rw [WX];exact h.op⟩
theorem LW.var {e:Z2} {v:Int} (hv:0<=v/\v<q):LW ds nf q e [] v:=⟨True.intro,by simpa [YN] using hv,by simp [Ys],True.intro⟩
theorem LW.let_ {e a b:Z2} {ys zs:List Z4} {v1 v2:Int} (ha:LW ds nf q a ys v1) (hb:LW ds nf (q+YN ys) b zs v2) (he:a.sz+b.sz<e.sz):LW ds nf q e (ys++zs) v2:=by
 refine ⟨Bq.2 ⟨ha.fs,hb.fs⟩,by rw [QZ,<-Jx];exact hb.v,?_,Ea.2 ⟨ha.op,hb.op⟩⟩
 have h1:=ha.sz
 have h2:=hb.sz
 rw [UJ];omega
theorem C6 {ys:List Z4} {s:Z4} (h:YB s.op=false):YN (ys++[s])=YN ys+1:=by
 rw [QZ]
 simp [YN,h]
theorem LW.node {e:Z2} {ys:List Z4} {as1:List Int} (ho:0<=e.op/\e.op<=11/\e.op≠7/\e.op≠8) (hc:e.op=9->0<=e.num/\e.num<nf) (hn:-2000<=e.num/\e.num<=2000) (hf:UB ds nf q ys) (ha:∀a∈as1,0<=a/\a<(q+YN ys:Nat)) (hl:as1.length<=4) (hs:Ys ys<=6*Xr e.kids) (hop:Tc Wp ys) :
  LW ds nf q e (ys++[⟨e.op,e.num,0,as1,[]⟩]) ((q+YN ys:Nat):Int):=by
 have hcb:YB e.op=false:=by simp [YB];omega
 refine ⟨Dw hf ?_,?_,?_,Eb hop (by rw [TY];exact ⟨by show e.op<=11;omega,True.intro⟩)⟩
 ·rw [fS]
  exact ⟨.inl ⟨by omega,by omega⟩,ha,fun h=>by omega,fun h=>by omega,fun h=>by omega,fun h=>by omega,hc,hn,by omega,hl,fun _=>rfl,True.intro⟩
 ·rw [C6 (show YB (Z4.mk e.op e.num 0 as1 []).op=false from hcb)];omega
 ·rw [UJ,e.sz_eq]
  simp only [Ys,Z4.sz,YW]
  omega
theorem LW.branch {e:Z2} {ys:List Z4} {v:Int} {bs:List Z6} {s0 sr:Nat} (ho:e.op=7∨e.op=8) (h7:e.op=7->bs.length=2) (h8:e.op=8->bs.length=(Zu ds e.num).length) (hn:-2000<=e.num/\e.num<=2000) (hf:UB ds nf q ys) (hv:0<=v/\v<(q+YN ys:Nat))
  (hb:T4 ds nf (Ut ds e.op e.num (q+YN ys)) 0 bs) (hl:bs.length<=3) (h0:Ys ys<=6*s0) (h1:YW bs<=bs.length+6*sr) (hs:s0+sr<=Xr e.kids) (hop:Tc Wp ys) (hob:TX Wp bs):LW ds nf q e (ys++[⟨e.op,e.num,0,[v],bs⟩]) ((q+YN ys:Nat):Int):=by
 have hcb:YB e.op=false:=by simp [YB];omega
 refine ⟨Dw hf ?_,?_,?_,Eb hop (by rw [TY];exact ⟨by show e.op<=11;omega,hob⟩)⟩
 ·rw [fS]
  exact ⟨.inl ⟨by omega,by omega⟩,fun a ha=>by rw [XJ.1 ha];exact hv,fun h=>by omega,h7,h8,fun _=>⟨v,rfl⟩,fun h=>by omega,hn,by omega,by simp,fun h=>by omega,hb⟩
 ·rw [C6 (show YB (Z4.mk e.op e.num 0 [v] bs).op=false from hcb)];omega
 ·rw [UJ,e.sz_eq]
  simp only [Ys,Z4.sz,YQ,Xp]
  omega
theorem MW {ds:List Zf} {op num:Int} {m k:Nat} (h:op=13):Te ds op num m k=m+k:=Zk h
theorem Z4b {ds:List Zf} {op num:Int} {m:Nat} (h:op≠13):Te ds op num m 0=m:=by simp [Te,h]
theorem MX {ds:List Zf} {op num:Int} {m k:Nat} (h:op≠13/\op≠8):Te ds op num m k=m:=by simp [Te,h.1,h.2]
theorem Z4c {ds:List Zf} {op num x:Int} {m k j:Nat} (h:op=8) (hk:k=j+1) (hx:(Zu ds num)[j]? = some x):Te ds op num m k=m+(Zw ds x).length:=by
 subst h;subst hk;rw [Nat.add_comm j 1];exact BN hx
theorem GY {ds:List Zf} {op num x:Int} {m j:Nat} (h:op=8) (hx:(Zu ds num)[j]? = some x):Ut ds op num m j=m+(Zw ds x).length:=by
 rw [Ut,Zk h,US (i:=(j:Int)) (by simpa using hx)]
theorem GZ {ds:List Zf} {op num:Int} {m j:Nat} (h:op≠8):Ut ds op num m j=m:=Za h
theorem JS {xs:List Z2} {k:Nat} {e:Z2} (h:xs[k]? = some e):Xr (xs.take (k+1))=Xr (xs.take k)+e.sz:=by rw [WQ h,C9,Xr,Xr];rfl
theorem J6 {xs:List Z2} (k:Nat):Xr (xs.take k)<=Xr xs:=by
 have h:=Yv Xr (Uy k xs)
 rw [C9] at h;omega
theorem Iz {xs:List Z2} {a b:Z2} (ha:xs[0]? = some a) (hb:xs[1]? = some b):a.sz+b.sz<=Xr xs:=by
 have h1:Xr (xs.take 1)=Xr (xs.take 0)+a.sz:=JS ha
 have h2:Xr (xs.take 2)=Xr (xs.take 1)+b.sz:=JS hb
 have h3:=J6 (xs:=xs) 2
 omega
theorem CU {us:List Int} {v:Int} {d:Nat} (hu:∀a∈us,0<=a/\a<(q:Int)) (hv:0<=v/\v<(q+d:Nat)):∀a∈us++[v],0<=a/\a<((q+d:Nat):Int):=
 Xs (fun a ha=>by have:=hu a ha;omega) hv
theorem EC {us:List Int} {d:Nat} (hu:∀a∈us,0<=a/\a<(q:Int)):∀a∈us,0<=a/\a<((q+d:Nat):Int):=fun a ha=>by have:=hu a ha;omega
theorem Z74 {us ns:List Int} {d mf:Nat} (hu:∀a∈us,0<=a/\a<(q:Int)) (hn:∀i∈ns,((q+d:Nat):Int)<=i/\i<((q+d:Nat):Int)+mf):∀a∈us++ns,0<=a/\a<((q+d+mf:Nat):Int):=fun a ha=>by
 rcases Xa.1 ha with h|h
 ·have:=hu a h;omega
 ·have:=hn a h;omega
theorem Da:∀bs:List Z6,bs.length<=YW bs
 | []=>X7 _
 | b::r=>by have:=Da r;have:=b.sz_pos;rw [YW,YQ];omega
end
end Go.Abs
namespace Go.Abs
structure RF (ds:List Zf) (nf q:Nat) (p:Int->Prop) (r:Yj):Prop where
 sig:(r.params,r.result)∈Kj
 lent:r.lent.length<=3/\∀i∈r.lent,0<=i/\i<r.params.length
 body:fB ds nf r.params.length r.body/\r.body.sz<=q
 op:WX p r.body
structure FO (n:Zx) (q:Nat) (p:Int->Prop):Prop where
 fn:FN n q
 op:∀r∈n.routines,WX p r.body
theorem FO.rf {n:Zx} {q:Nat} {p:Int->Prop} (h:FO n q p) {r:Yj} (hr:r∈n.routines):RF n.decls n.routines.length q p r:=⟨h.fn.sigs r hr,h.fn.lent r hr,h.fn.body r hr,h.op r hr⟩
theorem FO.all {n:Zx} {q:Nat} {p:Int->Prop} (hd:GD n.decls) (hl:1<=n.routines.length/\n.routines.length<=4) (h:∀r∈n.routines,RF n.decls n.routines.length q p r):FO n q p:=
 ⟨⟨hd,hl,fun r hr=>(h r hr).sig,fun r hr=>(h r hr).lent,fun r hr=>(h r hr).body⟩,fun r hr=>(h r hr).op⟩
structure RN (ds:List Zf) (nf:Nat) (r:Yj):Prop where
 sig:(r.params,r.result)∈Kj
 lent:r.lent=[]
 body:fB ds nf r.params.length r.body/\r.body.sz<=181
 op:WX Wp r.body
theorem RN.all {n:Zx} {q:Nat} (hd:GD n.decls) (hl:1<=n.routines.length/\n.routines.length<=4) (h:∀r∈n.routines,RN n.decls n.routines.length r) (hq:181<=q):FO n q Wp:=
 FO.all hd hl fun r hr=>⟨(h r hr).sig,by rw [(h r hr).lent];exact ⟨by simp,fun i hi=>by cases hi⟩,⟨(h r hr).body.1,Vc (h r hr).body.2 hq⟩,(h r hr).op⟩
end Go.Abs
namespace Go.Abs
theorem RN.of {ds:List Zf} {nf:Nat} {ps:List Int} {rt:Int} {b:Z6} {e:Z2} (hs:(ps,rt)∈Kj) (h:LB ds nf ps.length e b) (he:e.sz<=30):RN ds nf ⟨ps,[],rt,Z6.mk b.steps b.result⟩:=by
 have e1:Z6.mk b.steps b.result=b:=by cases b;rfl
 rw [e1]
 exact ⟨hs,rfl,⟨h.fb,by have:=h.sz;show b.sz<=181;omega⟩,h.op⟩
end Go.Abs
end
namespace Go.Abs
theorem He:∀{xs:List Z4} {s:Z4},s∈xs->s.sz<=Ys xs
 | [],s,h=>by cases h
 | x::r,s,h=>by
  rw [Ys]
  rcases YP.1 h with rfl|h
  ·omega
  ·have:=He h;omega
theorem F7:∀{xs:List Z6} {b:Z6},b∈xs->b.sz<=YW xs
 | [],b,h=>by cases h
 | x::r,b,h=>by
  rw [YW]
  rcases YP.1 h with rfl|h
  ·omega
  ·have:=F7 h;omega
structure LC (n:Zx) (k:Nat) (xs:List (List Int)):Prop where
 len:xs.length=k
 ok:∀(i:Nat) (l:List Int),xs[i]? = some l->l.length<=3/\∀r,n.routines[i]? = some r->∀v∈l,0<=v/\v<(r.params.length:Int)
theorem LC.nil {n:Zx}:LC n 0 []:=⟨rfl,fun i l h=>by simp at h⟩
theorem LC.snoc {n:Zx} {k:Nat} {xs:List (List Int)} {l:List Int} (h:LC n k xs) (hl:l.length<=3) (hv:∀r,n.routines[k]? = some r->∀v∈l,0<=v/\v<(r.params.length:Int)):LC n (k+1) (xs++[l]):=by
 refine ⟨by rw [Yu,h.len];rfl,fun i l' hi=>?_⟩
 by_cases hk:i<xs.length
 ·rw [BS hk] at hi
  exact h.ok i l' hi
 ·rw [EK om] at hi
  have h0:i-xs.length=0:=by
   cases e:i-xs.length with
   | zero=>rfl
   | succ q=>rw [e] at hi;simp at hi
  rw [h0] at hi
  cases hi
  have e:i=k:=by have:=h.len;omega
  subst e
  exact ⟨hl,hv⟩
def V1:List Int->Int->List Int
 | [],y=>[y]
 | x::r,y=>if x>y then y::x::r else if x=y then x::r else x::V1 r y
def Ts (d:Bool) (xs:List Int) (y:Int):List Int:=if d=true then xs else V1 xs y
theorem DU {xs:List Int} {y:Int}:Ts true xs y=xs:=rfl
theorem DT {xs:List Int} {y:Int}:Ts false xs y=V1 xs y:=rfl
theorem Lr {xs acc r:List Int} {y x:Int} {k:Nat} {d:Bool} (hx:xs[k]? = some x) (hd:d=true) (h:acc++Ts d (xs.drop k) y=r):(acc++[x])++Ts d (xs.drop (k+1)) y=r:=by
 subst hd
 rw [DU,Yb hx] at h
 rw [DU,<-h];simp
theorem Z0t {xs acc r:List Int} {y x:Int} {k:Nat} {d:Bool} (hx:xs[k]? = some x) (hd:¬d=true) (hl:¬x>=y) (h:acc++Ts d (xs.drop k) y=r):(acc++[x])++Ts d (xs.drop (k+1)) y=r:=by
 have hd:=KN.2 hd
 subst hd
 rw [DT,Yb hx,V1,Za om,Za om] at h
 rw [DT,<-h];simp
theorem Z0u {xs acc r:List Int} {y x:Int} {k:Nat} {d:Bool} (hx:xs[k]? = some x) (hd:¬d=true) (hl:x>y) (h:acc++Ts d (xs.drop k) y=r):((acc++[y])++[x])++Ts true (xs.drop (k+1)) y=r:=by
 have hd:=KN.2 hd
 subst hd
 rw [DT,Yb hx,V1,Zk hl] at h
 rw [DU,<-h];simp
theorem Z0v {xs acc r:List Int} {y x:Int} {k:Nat} {d:Bool} (hx:xs[k]? = some x) (hd:¬d=true) (hl:x=y) (h:acc++Ts d (xs.drop k) y=r):(acc++[x])++Ts true (xs.drop (k+1)) y=r:=by
 have hd:=KN.2 hd
 subst hd
 rw [DT,Yb hx,V1,Za om,Zk hl] at h
 rw [DU,<-h];simp
theorem Z0s {xs acc acc2 r:List Int} {y x:Int} {k:Nat} {d d2:Bool} (hx:xs[k]? = some x) (h:acc++Ts d (xs.drop k) y=r)
  (hc:(acc2=acc/\d2=d/\(d=true∨¬x>=y))∨(acc2=acc++[y]/\d2=true/\¬d=true/\x>y)∨(acc2=acc/\d2=true/\¬d=true/\x=y)):(acc2++[x])++Ts d2 (xs.drop (k+1)) y=r:=by
 rcases hc with ⟨rfl,rfl,h3⟩|⟨rfl,rfl,h3,h4⟩|⟨rfl,rfl,h3,h4⟩
 ·rcases h3 with h3|h3
  ·exact Lr hx h3 h
  ·by_cases q:d2=true
   ·exact Lr hx q h
   ·exact Z0t hx q h3 h
 ·exact Z0u hx h3 h4 h
 ·exact Z0v hx h3 h4 h
theorem Z0r {xs acc r:List Int} {y:Int} {k:Nat} {d:Bool} (hk:xs.length<=k) (h:acc++Ts d (xs.drop k) y=r):(if d=true then acc else acc++[y])=r:=by
 rw [Xz hk] at h
 by_cases q:d=true
 ·rw [Ts,Zk q,Ak] at h;rw [Zk q];exact h
 ·rw [Ts,Za q,V1] at h;rw [Za q];exact h
theorem Bx:∀(xs:List Int) (y:Int),(V1 xs y).length<=xs.length+1
 | [],y=>X7 _
 | x::r,y=>by
  have:=Bx r y
  rw [V1]
  split
  ·simp
  ·split
   ·simp
   ·simp only [YQ];omega
theorem Cq:∀{xs:List Int} {y z:Int},z∈V1 xs y↔z∈xs∨z=y
 | [],y,z=>by simp [V1]
 | x::r,y,z=>by
  rw [V1]
  split
  ·simp only [YP];exact ⟨fun h=>h.elim .inr .inl,fun h=>h.elim .inr .inl⟩
  ·split
   ·rename_i h;subst h;simp only [YP];exact ⟨fun h=>.inl h,fun h=>h.elim id .inl⟩
   ·simp only [YP,Cq (xs:=r)];exact ⟨fun h=>by rcases h with h|h|h<;>simp [h],fun h=>by rcases h with (h|h)|h<;>simp [h]⟩
def Ap (xs:List Int):Prop:=xs.Pairwise (·<·)
theorem Lq:∀{xs:List Int} {y:Int},Ap xs->Ap (V1 xs y)
 | [],y,_=>by simp [V1,Ap]
 | x::r,y,h=>by
  obtain ⟨h1,h2⟩:=WR.1 h
  rw [V1]
  split
  ·rename_i q
   refine WR.2 ⟨fun z hz=>?_,h⟩
   rcases YP.1 hz with rfl|hz
   ·omega
   ·have:=h1 z hz;omega
  ·split
   ·exact h
   ·refine WR.2 ⟨fun z hz=>?_,Lq h2⟩
    rcases Cq.1 hz with hz|rfl
    ·exact h1 z hz
    ·omega
def UI:List Int->Int->List Int
 | [],_=>[]
 | x::r,y=>if x=y then UI r y else x::UI r y
theorem CG:∀(xs:List Int) (y:Int),(UI xs y).length<=xs.length
 | [],y=>X7 _
 | x::r,y=>by
  have:=CG r y
  rw [UI]
  split
  ·rw [YQ];omega
  ·rw [YQ,YQ];omega
theorem BH:∀{xs:List Int} {y z:Int},z∈UI xs y->z∈xs
 | [],y,z,h=>by rw [UI] at h;exact h
 | x::r,y,z,h=>by
  rw [UI] at h
  split at h
  ·exact XC _ (BH h)
  ·rcases YP.1 h with rfl|h
   ·exact Xe ..
   ·exact XC _ (BH h)
theorem Z31 {xs acc r:List Int} {y x:Int} {k:Nat} (hx:xs[k]? = some x) (h:acc++UI (xs.drop k) y=r):(if x≠y then acc++[x] else acc)++UI (xs.drop (k+1)) y=r:=by
 rw [Yb hx,UI] at h
 by_cases q:x=y
 ·rw [Zk q] at h;rw [Za (fun z=>z q)];exact h
 ·rw [Za q] at h;rw [Zk q,<-h];simp
theorem Z30 {xs acc r:List Int} {y:Int} {k:Nat} (hk:xs.length<=k) (h:acc++UI (xs.drop k) y=r):acc=r:=by
 rw [Xz hk,UI,Ak] at h;exact h
def Vw (n:Int) (xs:List Int) (a:Int):List Int:=if 0<=a/\a<n then V1 xs a else xs
def TG (n:Int):List Int->List Int->List Int
 | [],xs=>xs
 | a::r,xs=>TG n r (Vw n xs a)
mutual
def QS (n:Int):Z4->List Int->List Int
 | .mk op _ _ args kids,xs=>if YB op=true then xs else QR n kids (TG n args xs)
def QR (n:Int):List Z6->List Int->List Int
 | [],xs=>xs
 | b::r,xs=>QR n r (W0 n b xs)
def VS (n:Int):List Z4->List Int->List Int
 | [],xs=>xs
 | s::r,xs=>VS n r (QS n s xs)
def W0 (n:Int):Z6->List Int->List Int
 | .mk steps result,xs=>Vw n (VS n steps xs) result
end
section
variable {n:Int}
theorem NU (s:Z4) (xs:List Int):QS n s xs=if YB s.op=true then xs else QR n s.kids (TG n s.args xs):=by cases s;rw [QS];rfl
theorem NS (b:Z6) (xs:List Int):W0 n b xs=Vw n (VS n b.steps xs) b.result:=by cases b;rw [W0];rfl
theorem EB (xs:List Int) (a:Int):(Vw n xs a).length<=xs.length+1:=by
 rw [Vw];split
 ·exact Bx xs a
 ·omega
theorem NR:∀(as1 xs:List Int),(TG n as1 xs).length<=xs.length+as1.length
 | [],xs=>X7 _
 | a::r,xs=>by
  have h1:=NR r (Vw n xs a)
  have h2:=EB (n:=n) xs a
  rw [TG,YQ];omega
mutual
theorem NV:∀(s:Z4) (xs:List Int),(QS n s xs).length<=xs.length+s.sz
 | .mk op num into args kids,xs=>by
  have h1:=NT kids (TG n args xs)
  have h2:=NR (n:=n) args xs
  rw [QS,Z4.sz];split<;>omega
theorem NT:∀(bs:List Z6) (xs:List Int),(QR n bs xs).length<=xs.length+YW bs
 | [],xs=>X7 _
 | b::r,xs=>by
  have h1:=NT r (W0 n b xs)
  have h2:=EA b xs
  rw [QR,YW];omega
theorem Ht:∀(bs:List Z4) (xs:List Int),(VS n bs xs).length<=xs.length+Ys bs
 | [],xs=>X7 _
 | b::r,xs=>by
  have h1:=Ht r (QS n b xs)
  have h2:=NV b xs
  rw [VS,Ys];omega
theorem EA:∀(b:Z6) (xs:List Int),(W0 n b xs).length<=xs.length+b.sz
 | .mk steps result,xs=>by
  have h1:=Ht steps xs
  have h2:=EB (n:=n) (VS n steps xs) result
  rw [W0,Z6.sz];omega
end
theorem Z6z {as1 ys r:List Int} {k:Nat} {a:Int} (h:as1[k]? = some a) (ha:TG n (as1.drop k) ys=r):TG n (as1.drop (k+1)) (Vw n ys a)=r:=by
 rw [Yb h,TG] at ha;exact ha
theorem Z71 {bs:List Z6} {ys r:List Int} {k:Nat} {b:Z6} (h:bs[k]? = some b) (ha:QR n (bs.drop k) ys=r):QR n (bs.drop (k+1)) (W0 n b ys)=r:=by
 rw [Yb h,QR] at ha;exact ha
theorem Z73 {bs:List Z4} {ys r:List Int} {k:Nat} {b:Z4} (h:bs[k]? = some b) (ha:VS n (bs.drop k) ys=r):VS n (bs.drop (k+1)) (QS n b ys)=r:=by
 rw [Yb h,VS] at ha;exact ha
theorem Z6y {as1 ys r:List Int} {k:Nat} (h:as1.length<=k) (ha:TG n (as1.drop k) ys=r):ys=r:=by rw [Xz h,TG] at ha;exact ha
theorem Z70 {bs:List Z6} {ys r:List Int} {k:Nat} (h:bs.length<=k) (ha:QR n (bs.drop k) ys=r):ys=r:=by rw [Xz h,QR] at ha;exact ha
theorem Z72 {bs:List Z4} {ys r:List Int} {k:Nat} (h:bs.length<=k) (ha:VS n (bs.drop k) ys=r):ys=r:=by rw [Xz h,VS] at ha;exact ha
end
theorem HC {s:Z4} (h:Cn s):∃a,s.args=[a]:=⟨gI s.args 0,by have:=Yv Z4.args h;exact this⟩
section
variable {xs:List Int} {v:Int} {lo hi:Nat}
end
section
variable {m:Int} {xs du dr:List Z4} {lf:List Int} {d:Bool} {k:Nat} {s:Z4} {W:List Z4 × List Z4 × List Int}
end
def Yr:List Z4->Nat
 | []=>0
 | s::r=>if YB s.op=true then Yr r+1 else 0
def Xy (op x:Int):List Z4->Int->Int
 | [],_=>-1
 | s::r,k=>if s.op=op/\gI s.args 0=x then k else Xy op x r (k+1)
def Q9 (many:Nat) (s:Z4):Prop:=(s.op=6/\s.into=0)/\s.args.length=many
instance (many:Nat) (s:Z4):Decidable (Q9 many s):=by unfold Q9;infer_instance
def XR (many:Nat):List Z4->Int->Int
 | [],_=>-1
 | s::r,k=>if Q9 many s then k else XR many r (k+1)
def JV (xs:List Z4) (i:Int):Z4:=xs[i.toNat]?.getD (Zi 0 0)
def TB (v:Int) (s:Z4):Z4:=.mk s.op s.num v s.args s.kids
def V2 (xs:List Z4) (x:Int):Int:=Xy 16 x (xs.take (Yr xs)) 0
def Wm (xs:List Z4) (many:Nat):Int:=XR many (xs.drop (Yr xs)) (Yr xs)
def VR (xs:List Z4) (x:Int) (many:Nat):List Z4:=
 if V2 xs x<0∨Wm xs many<0 then xs else (xs.set (V2 xs x).toNat (Zi 17 x)).set (Wm xs many).toNat (TB (1+x) (JV xs (Wm xs many)))
def V3 (b:Z6) (x:Int) (many:Nat):Z6:=.mk (VR b.steps x many) b.result
mutual
def TZ (ds:List Zf) (kept:List Int):Z4->Z4
 | .mk op num into args kids=>.mk op num into args (Ue ds kept op num args kids 0)
def Ue (ds:List Zf) (kept:List Int) (op num:Int) (args:List Int):List Z6->Nat->List Z6
 | [],_=>[]
 | b::r,k=>(if op=8/\¬gI args 0∈kept then V3 (Wo ds (if V2 b.steps (gI args 0)<0∨Wm b.steps (VE ds num k).length<0 then kept else gI args 0::kept) b) (gI args 0) (VE ds num k).length else Wo ds kept b)::Ue ds kept op num args r (k+1)
def Uf (ds:List Zf) (kept:List Int):List Z4->List Z4
 | []=>[]
 | s::r=>TZ ds kept s::Uf ds kept r
def Wo (ds:List Zf) (kept:List Int):Z6->Z6
 | .mk steps result=>.mk (Uf ds kept steps) result
end
def DX (ds:List Zf) (kept:List Int) (num:Int) (args:List Int) (k:Nat) (b:Z6):List Int:=if V2 b.steps (gI args 0)<0∨Wm b.steps (VE ds num k).length<0 then kept else gI args 0::kept
def UW (ds:List Zf) (kept:List Int) (op num:Int) (args:List Int) (k:Nat) (b:Z6):Z6:=if op=8/\¬gI args 0∈kept then V3 (Wo ds (DX ds kept num args k b) b) (gI args 0) (VE ds num k).length else Wo ds kept b
theorem A9 (ds:List Zf) (kept:List Int) (s:Z4):TZ ds kept s=.mk s.op s.num s.into s.args (Ue ds kept s.op s.num s.args s.kids 0):=by cases s;rw [TZ];rfl
theorem Ef (ds:List Zf) (kept:List Int) (b:Z6):Wo ds kept b=.mk (Uf ds kept b.steps) b.result:=by cases b;rw [Wo];rfl
theorem Eh (ds:List Zf) (kept:List Int):∀xs:List Z4,Uf ds kept xs=xs.map (TZ ds kept)
 | []=>rfl
 | s::r=>by rw [Uf,Eh ds kept r];rfl
section
variable {ds:List Zf} {kept:List Int}
theorem Z3x {xs acc r:List Z4} {k:Nat} {s:Z4} (h:xs[k]? = some s) (ha:acc++Uf ds kept (xs.drop k)=r) :
  (acc++[.mk s.op s.num s.into s.args (Ue ds kept s.op s.num s.args s.kids 0)])++Uf ds kept (xs.drop (k+1))=r:=by
 rw [Yb h,Uf,A9] at ha
 rw [<-ha];simp
theorem Z3w {xs acc r:List Z4} {k:Nat} (h:xs.length<=k) (ha:acc++Uf ds kept (xs.drop k)=r):acc=r:=by
 rw [Xz h,Uf,Ak] at ha;exact ha
theorem Z3r {op num:Int} {args:List Int} {bs acc r:List Z6} {k:Nat} {b:Z6} (h:bs[k]? = some b) (ha:acc++Ue ds kept op num args (bs.drop k) k=r) :
  (acc++[UW ds kept op num args k b])++Ue ds kept op num args (bs.drop (k+1)) (k+1)=r:=by
 rw [Yb h,Ue] at ha
 rw [<-ha,UW,DX];simp
theorem Z3q {op num:Int} {args:List Int} {bs acc r:List Z6} {k j:Nat} (h:bs.length<=k) (ha:acc++Ue ds kept op num args (bs.drop k) j=r):acc=r:=by
 rw [Xz h,Ue,Ak] at ha;exact ha
end
section
variable {ds:List Zf}
mutual
theorem Z3u:∀(s:Z4) {K K':List Int},(∀z,z∈K↔z∈K')->TZ ds K s=TZ ds K' s
 | .mk op num into args kids,K,K',h=>by rw [TZ,TZ,MN kids h]
theorem MN:∀(bs:List Z6) {K K':List Int} {op num:Int} {args:List Int} {k:Nat},(∀z,z∈K↔z∈K')->Ue ds K op num args bs k=Ue ds K' op num args bs k
 | [],_,_,_,_,_,_,_=>by rw [Ue,Ue]
 | b::r,K,K',op,num,args,k,h=>by
  have h1:=MN r (op:=op) (num:=num) (args:=args) (k:=k+1) h
  have h2:=GT b h
  have h3:∀z,z∈(gI args 0::K)↔z∈(gI args 0::K'):=fun z=>by rw [YP,YP,h z]
  have h4:=GT b h3
  rw [Ue,Ue,h1,h2]
  congr 1
  by_cases hq:op=8/\¬gI args 0∈K
  ·have hq':op=8/\¬gI args 0∈K':=⟨hq.1,fun z=>hq.2 ((h _).2 z)⟩
   rw [Zk hq,Zk hq']
   congr 1
   split
   ·exact h2
   ·exact h4
  ·have hq':¬(op=8/\¬gI args 0∈K'):=fun z=>hq ⟨z.1,fun y=>z.2 ((h _).1 y)⟩
   rw [Za hq,Za hq']
theorem MP:∀(xs:List Z4) {K K':List Int},(∀z,z∈K↔z∈K')->Uf ds K xs=Uf ds K' xs
 | [],_,_,_=>by rw [Uf,Uf]
 | s::r,K,K',h=>by rw [Uf,Uf,Z3u s h,MP r h]
theorem GT:∀(b:Z6) {K K':List Int},(∀z,z∈K↔z∈K')->Wo ds K b=Wo ds K' b
 | .mk steps result,K,K',h=>by rw [Wo,Wo,MP steps h]
end
end
theorem Cw:∀xs:List Z4,Yr xs<=xs.length
 | []=>X7 _
 | s::r=>by have:=Cw r;rw [Yr];split<;>simp<;>omega
section
variable {f:Z4->Z4} (hop:∀s,(f s).op=s.op) (hin:∀s,(f s).into=s.into) (har:∀s,(f s).args=s.args)
include hop
theorem Gr:∀xs:List Z4,Yr (xs.map f)=Yr xs
 | []=>rfl
 | s::r=>by rw [Ug,Yr,Yr,hop,Gr r]
include har
theorem HS {op x:Int}:∀(xs:List Z4) (k:Int),Xy op x (xs.map f) k=Xy op x xs k
 | [],_=>rfl
 | s::r,k=>by rw [Ug,Xy,Xy,hop,har,HS r]
theorem Z2u (xs:List Z4) (x:Int):V2 (xs.map f) x=V2 xs x:=by rw [V2,Gr hop,<-List.map_take,HS hop har,V2]
include hin
theorem Ie {many:Nat}:∀(xs:List Z4) (k:Int),XR many (xs.map f) k=XR many xs k
 | [],_=>rfl
 | s::r,k=>by
  have e:Q9 many (f s)↔Q9 many s:=by rw [Q9,Q9,hop,hin,har]
  rw [Ug,XR,XR,Ie r]
  by_cases h:Q9 many s
  ·rw [Zk h,Zk (e.2 h)]
  ·rw [Za h,Za (fun z=>h (e.1 z))]
theorem P6 (xs:List Z4) (many:Nat):Wm (xs.map f) many=Wm xs many:=by rw [Wm,Gr hop,<-List.map_drop,Ie hop hin har,Wm]
end
theorem HR {op x:Int}:∀{xs:List Z4} {k:Int},¬Xy op x xs k<0->0<=k->k<=Xy op x xs k/\Xy op x xs k<k+xs.length/\∃s,xs[(Xy op x xs k-k).toNat]? = some s/\s.op=op/\gI s.args 0=x
 | [],k,h,_=>by simp [Xy] at h
 | s::r,k,h,hk=>by
  rw [Xy] at h ⊢
  split
  ·rename_i q
   refine ⟨Int.le_refl _,by rw [YQ];omega,s,?_,q⟩
   rw [Int.sub_self];rfl
  ·rename_i q
   rw [Za q] at h
   obtain ⟨h1,h2,t,h3,h4⟩:=HR (xs:=r) (k:=k+1) h om
   refine ⟨by omega,by rw [YQ];omega,t,?_,h4⟩
   rw [show (Xy op x r (k+1)-k).toNat=(Xy op x r (k+1)-(k+1)).toNat+1 by omega,List.getElem?_cons_succ]
   exact h3
theorem Id {many:Nat}:∀{xs:List Z4} {k:Int},¬XR many xs k<0->0<=k->k<=XR many xs k/\XR many xs k<k+xs.length/\∃s,xs[(XR many xs k-k).toNat]? = some s/\Q9 many s
 | [],k,h,_=>by simp [XR] at h
 | s::r,k,h,hk=>by
  rw [XR] at h ⊢
  split
  ·rename_i q
   refine ⟨Int.le_refl _,by rw [YQ];omega,s,?_,q⟩
   rw [Int.sub_self];rfl
  ·rename_i q
   rw [Za q] at h
   obtain ⟨h1,h2,t,h3,h4⟩:=Id (xs:=r) (k:=k+1) h om
   refine ⟨by omega,by rw [YQ];omega,t,?_,h4⟩
   rw [show (XR many r (k+1)-k).toNat=(XR many r (k+1)-(k+1)).toNat+1 by omega,List.getElem?_cons_succ]
   exact h3
theorem CF {xs:List Z4} {x:Int} (h:¬V2 xs x<0):0<=V2 xs x/\V2 xs x<Yr xs/\∃s,xs[(V2 xs x).toNat]? = some s/\s.op=16/\gI s.args 0=x:=by
 obtain ⟨h1,h2,s,h3,h4⟩:=HR h (Int.le_refl 0)
 have hl:=Cw xs
 rw [Wv,Vo hl] at h2
 have h2':V2 xs x<Yr xs:=by unfold V2;omega
 have h1':0<=V2 xs x:=h1
 refine ⟨h1',h2',s,?_,h4⟩
 rw [Int.sub_zero] at h3
 have h5:(V2 xs x).toNat<Yr xs:=by omega
 rwa [show Xy 16 x (xs.take (Yr xs)) 0=V2 xs x from rfl,List.getElem?_take_of_lt h5] at h3
theorem JN {xs:List Z4} {many:Nat} (h:¬Wm xs many<0):(Yr xs:Int)<=Wm xs many/\Wm xs many<xs.length/\∃s,xs[(Wm xs many).toNat]? = some s/\Q9 many s/\JV xs (Wm xs many)=s:=by
 obtain ⟨h1,h2,s,h3,h4⟩:=Id h om
 have hl:=Cw xs
 rw [Al] at h2
 have h1':(Yr xs:Int)<=Wm xs many:=h1
 have h2':Wm xs many<xs.length:=by unfold Wm;omega
 rw [Hz,show XR many (xs.drop (Yr xs)) (Yr xs)=Wm xs many from rfl,show Yr xs+(Wm xs many-(Yr xs:Int)).toNat=(Wm xs many).toNat by omega] at h3
 exact ⟨h1',h2',s,h3,h4,by rw [JV,h3];rfl⟩
theorem Z3a {f:Z4->Z4} (hop:∀s,(f s).op=s.op) (hin:∀s,(f s).into=s.into) (har:∀s,(f s).args=s.args) (hc:∀x,f (Zi 17 x)=Zi 17 x) (hi:∀v s,f (TB v s)=TB v (f s)) (xs:List Z4) (x:Int) (many:Nat) :
  VR (xs.map f) x many=(VR xs x many).map f:=by
 rw [VR,Z2u hop har,P6 hop hin har,VR]
 split
 ·rfl
 ·rename_i hq
  obtain ⟨_,_,s,h3,_,h5⟩:=JN (fun z=>hq (.inr z))
  have e:JV (xs.map f) (Wm xs many)=f (JV xs (Wm xs many)):=by rw [JV,Kg,h3,h5];rfl
  rw [e,List.map_set,List.map_set,hc,hi]
theorem ML {ds:List Zf} {K:List Int} {b:Z6} {x:Int} {many:Nat}:Wo ds K (V3 b x many)=V3 (Wo ds K b) x many:=by
 rw [V3,Wo,V3,Ef,Eh,Eh]
 show Z6.mk _ _=Z6.mk (VR (b.steps.map (TZ ds K)) x many) b.result
 rw [Z3a (f:=TZ ds K) (fun s=>by rw [A9];rfl) (fun s=>by rw [A9];rfl) (fun s=>by rw [A9];rfl) (fun x=>by rw [A9];rfl) (fun v s=>by rw [A9,A9];rfl)]
def Fb (op:Int) (c:List Int):List Int:=if YB op=true then c.set (op-14).toNat (gI c (op-14)+1) else c
mutual
def Fd:Z4->List Int->List Int
 | .mk op _ _ _ kids,c=>C2 kids (Fb op c)
def C2:List Z6->List Int->List Int
 | [],c=>c
 | b::r,c=>C2 r (Fc b c)
def C3:List Z4->List Int->List Int
 | [],c=>c
 | s::r,c=>C3 r (Fd s c)
def Fc:Z6->List Int->List Int
 | .mk steps _,c=>C3 steps c
end
structure CB (c:List Int) (q:Int):Prop where
 len:c.length=4
 bd:∀x∈c,0<=x/\x<=q
theorem CB.le {c:List Int} {q p:Int} (h:CB c q) (hq:q<=p):CB c p:=⟨h.len,fun x hx=>by have:=h.bd x hx;omega⟩
theorem CB.at {c:List Int} {q:Int} (h:CB c q) {i:Int} (hi:i.toNat<4):0<=gI c i/\gI c i<=q:=h.bd _ (by rw [gI,Jv (by rw [h.len];exact hi)];exact List.getElem_mem _)
theorem CB.one {c:List Int} {q:Int} (h:CB c q) (_:0<=q) (op:Int):CB (Fb op c) (q+1):=by
 rw [Fb]
 split
 ·rename_i ho
  have ho':14<=op/\op<=17:=by simpa [YB] using ho
  refine ⟨by rw [UM];exact h.len,fun x hx=>?_⟩
  rcases QJ hx with hx|rfl
  ·have:=h.bd x hx;omega
  ·have:=h.at (i:=op-14) om;omega
 ·exact h.le om
mutual
theorem CB.s:∀(s:Z4) {c:List Int} {q:Int},CB c q->0<=q->CB (Fd s c) (q+s.sz)
 | .mk op num into args kids,c,q,h,hq=>by
  have:=CB.bs kids (h.one hq op) om
  rw [Fd,Z4.sz];exact this.le om
theorem CB.bs:∀(bs:List Z6) {c:List Int} {q:Int},CB c q->0<=q->CB (C2 bs c) (q+YW bs)
 | [],c,q,h,hq=>by rw [C2,YW];exact h.le om
 | b::r,c,q,h,hq=>by
  have:=CB.bs r (CB.b b h hq) om
  rw [C2,YW];exact this.le om
theorem CB.ss:∀(xs:List Z4) {c:List Int} {q:Int},CB c q->0<=q->CB (C3 xs c) (q+Ys xs)
 | [],c,q,h,hq=>by rw [C3,Ys];exact h.le om
 | s::r,c,q,h,hq=>by
  have:=CB.ss r (CB.s s h hq) om
  rw [C3,Ys];exact this.le om
theorem CB.b:∀(b:Z6) {c:List Int} {q:Int},CB c q->0<=q->CB (Fc b c) (q+b.sz)
 | .mk steps result,c,q,h,hq=>by
  have:=CB.ss steps h hq
  rw [Fc,Z6.sz];exact this.le om
end
mutual
def AS:Z4->Prop
 | .mk op _ _ _ kids=>op≠17/\A3 kids
def A3:List Z6->Prop
 | []=>True
 | b::r=>TW b/\A3 r
def A4:List Z4->Prop
 | []=>True
 | s::r=>AS s/\A4 r
def TW:Z6->Prop
 | .mk steps _=>A4 steps
end
theorem BE (s:Z4):AS s↔s.op≠17/\A3 s.kids:=by cases s;rw [AS];rfl
theorem CA (b:Z6):TW b↔A4 b.steps:=by cases b;rw [TW];rfl
theorem CC:∀{xs:List Z4},A4 xs↔∀s∈xs,AS s
 | []=>by simp [A4]
 | s::r=>by rw [A4,CC];simp
theorem E8:∀{xs:List Z6},A3 xs↔∀s∈xs,TW s
 | []=>by simp [A3]
 | s::r=>by rw [A3,E8];simp
theorem Ey:∀{xs:List Z4} {i:Nat} {s:Z4} (t:Z4),xs[i]? = some s->Ys (xs.set i t)+s.sz=Ys xs+t.sz
 | [],_,_,_,h=>by simp at h
 | x::r,0,s,t,h=>by simp at h;subst h;rw [List.set_cons_zero,Ys,Ys];omega
 | x::r,i+1,s,t,h=>by
  have:=Ey (xs:=r) (i:=i) t (by simpa using h)
  rw [List.set_cons_succ,Ys,Ys];omega
theorem Z0w (v:Int) (s:Z4):(TB v s).sz=s.sz:=by cases s;rw [TB,Z4.sz,Z4.sz];rfl
theorem If {xs:List Z4} {x:Int} {many:Nat} (h:¬(V2 xs x<0∨Wm xs many<0)):(V2 xs x).toNat<(Wm xs many).toNat:=by
 obtain ⟨h1,h2,_⟩:=CF (fun z=>h (.inl z))
 obtain ⟨h3,h4,_⟩:=JN (fun z=>h (.inr z))
 omega
theorem Ee {xs:List Z4} {x:Int} {many:Nat} (h:¬(V2 xs x<0∨Wm xs many<0)) {t:Z4} {s:Z4} (hs:xs[(Wm xs many).toNat]? = some s):(xs.set (V2 xs x).toNat t)[(Wm xs many).toNat]? = some s:=by
 have:=If h
 rw [List.getElem?_set_ne om];exact hs
theorem MD {xs:List Z4} {x:Int} {many:Nat} (h:∀s∈xs,YB s.op=true->2<=s.sz):Ys (VR xs x many)<=Ys xs:=by
 rw [VR]
 split
 ·exact X7 _
 ·rename_i hq
  obtain ⟨_,_,s,h3,h4,_⟩:=CF (fun z=>hq (.inl z))
  obtain ⟨_,_,t,h5,_,h6⟩:=JN (fun z=>hq (.inr z))
  have e1:=Ey (Zi 17 x) h3
  have e2:=Ey (TB (1+x) (JV xs (Wm xs many))) (Ee hq (t:=Zi 17 x) h5)
  have h7:=h s (Y6 h3) (by rw [h4];rfl)
  rw [Dh] at e1
  rw [Z0w,h6] at e2
  rw [h6]
  omega
section
variable {ds:List Zf}
theorem Z7k {v:Int} {s:Z4} (h:wS ds s) (h6:s.op=6):wS ds (TB v s):=by
 obtain ⟨h1,h2,h3,h4⟩:=(Ke s).1 h
 exact (Ke _).2 ⟨h1,fun hc=>absurd hc (by show ¬YB s.op=true;rw [h6];decide),h3,h4⟩
theorem Z7h {v:Int}:wS ds (Zi 17 v):=(Ke _).2 ⟨rfl,fun _=>⟨rfl,rfl,rfl,v,rfl⟩,fun e=>absurd e (show (17:Int)≠8 by decide),True.intro⟩
theorem Z7g {xs:List Z4} {x:Int} {many:Nat} (h:Q2 ds xs):Q2 ds (VR xs x many):=by
 rw [VR]
 split
 ·exact h
 ·rename_i hq
  obtain ⟨_,_,t,h5,h7,h6⟩:=JN (fun z=>hq (.inr z))
  rw [Js]
  intro s hs
  rcases List.mem_or_eq_of_mem_set hs with hs|rfl
  ·rcases List.mem_or_eq_of_mem_set hs with hs|rfl
   ·exact Js.1 h s hs
   ·exact Z7h
  ·rw [h6];exact Z7k (Js.1 h t (Y6 h5)) h7.1.1
theorem Z7f {b:Z6} {x:Int} {many:Nat} (h:wB ds b):wB ds (V3 b x many):=by rw [V3,QV];exact Z7g ((QV b).1 h)
variable (hd:Wd ds)
mutual
theorem Z3v:∀(s:Z4) {K:List Int},wS ds s->(TZ ds K s).sz<=s.sz
 | .mk op num into args kids,K,h=>by
  have:=MO kids (K:=K) (op:=op) (num:=num) (args:=args) (k:=0) h.2.2.2
  rw [TZ,Z4.sz,Z4.sz];omega
theorem MO:∀(bs:List Z6) {K:List Int} {op num:Int} {args:List Int} {k:Nat},Jr ds bs->YW (Ue ds K op num args bs k)<=YW bs
 | [],_,_,_,_,_,_=>X7 _
 | b::r,K,op,num,args,k,h=>by
  have h2:=MO r (K:=K) (op:=op) (num:=num) (args:=args) (k:=k+1) h.2
  have key:∀K2:List Int,(V3 (Wo ds K2 b) (gI args 0) (VE ds num k).length).sz<=b.sz:=fun K2=>by
   have h1:=GU b (K:=K2) h.1
   have h3:=MD (xs:=(Wo ds K2 b).steps) (x:=gI args 0) (many:=(VE ds num k).length) (by
    rw [Ef,Eh]
    intro s hs hc
    obtain ⟨t,ht,rfl⟩:=XW.1 hs
    rw [A9] at hc ⊢
    obtain ⟨_,_,a,ha⟩:=EF (Js.1 ((QV b).1 h.1) t ht) hc
    rw [Z4.sz,ha];simp)
   rw [V3,Z6.sz]
   rw [Z6.sz_eq] at h1
   omega
  rw [Ue,YW,YW]
  split
  ·have:=key (if V2 b.steps (gI args 0)<0∨Wm b.steps (VE ds num k).length<0 then K else gI args 0::K)
   omega
  ·have:=GU b (K:=K) h.1
   omega
theorem MQ:∀(xs:List Z4) {K:List Int},Q2 ds xs->Ys (Uf ds K xs)<=Ys xs
 | [],_,_=>X7 _
 | s::r,K,h=>by
  have h1:=Z3v s (K:=K) h.1
  have h2:=MQ r (K:=K) h.2
  rw [Uf,Ys,Ys];omega
theorem GU:∀(b:Z6) {K:List Int},wB ds b->(Wo ds K b).sz<=b.sz
 | .mk steps result,K,h=>by
  have:=MQ steps (K:=K) h
  rw [Wo,Z6.sz,Z6.sz];omega
end
end
theorem Gs:∀{xs:List Z4} {i:Nat} {s t:Z4},xs[i]? = some s->YB t.op=YB s.op->Yr (xs.set i t)=Yr xs
 | [],_,_,_,h,_=>by simp at h
 | x::r,0,s,t,h,e=>by simp at h;subst h;rw [List.set_cons_zero,Yr,Yr,e]
 | x::r,i+1,s,t,h,e=>by
  rw [List.set_cons_succ,Yr,Yr,Gs (xs:=r) (i:=i) (by simpa using h) e]
theorem Z1k {xs:List Z4} {x:Int} {many:Nat}:Yr (VR xs x many)=Yr xs:=by
 rw [VR]
 split
 ·rfl
 ·rename_i hq
  obtain ⟨_,_,s,h3,h4,_⟩:=CF (fun z=>hq (.inl z))
  obtain ⟨_,_,t,h5,_,h6⟩:=JN (fun z=>hq (.inr z))
  rw [Gs (Ee hq (t:=Zi 17 x) h5) (by rw [h6];rfl),Gs h3 (by rw [h4];rfl)]
theorem HU {op x:Int}:∀{xs:List Z4} {k:Int},(∀s∈xs,s.op≠op)->Xy op x xs k=-1
 | [],_,_=>rfl
 | s::r,k,h=>by
  rw [Xy,Za (fun z=>h s (Xe ..) z.1)]
  exact HU fun t ht=>h t (XC _ ht)
theorem HV {op x:Int}:∀{xs:List Z4} {k:Int},0<=k->(∃s∈xs,s.op=op/\gI s.args 0=x)->0<=Xy op x xs k
 | [],_,_,h=>by obtain ⟨s,hs,_⟩:=h;cases hs
 | s::r,k,hk,h=>by
  rw [Xy]
  split
  ·exact hk
  ·rename_i q
   obtain ⟨t,ht,h1⟩:=h
   rcases YP.1 ht with rfl|ht
   ·exact absurd h1 q
   ·exact HV om ⟨t,ht,h1⟩
theorem NN {xs:List Z4} {x:Int} {many:Nat} (hn:A4 xs):0<=Xy 17 x ((VR xs x many).take (Yr (VR xs x many))) 0↔¬(V2 xs x<0∨Wm xs many<0):=by
 rw [Z1k]
 constructor
 ·intro h hq
  rw [VR,Zk hq,HU (fun s hs=>((BE s).1 (CC.1 hn s (TL hs))).1)] at h
  omega
 ·intro hq
  obtain ⟨h1,h2,s,h3,h4,_⟩:=CF (fun z=>hq (.inl z))
  have hap:=If hq
  refine HV (Int.le_refl 0) ⟨Zi 17 x,?_,rfl,rfl⟩
  rw [VR,Za hq]
  refine Y6 (i:=(V2 xs x).toNat) ?_
  rw [List.getElem?_take_of_lt om,List.getElem?_set_ne om,List.getElem?_set_self (XG.1 h3).1]
def A5 (b:Z6):Prop:=∀s∈b.steps,A3 s.kids
theorem AR {b:Z6} (h:TW b):A5 b:=fun s hs=>((BE s).1 (CC.1 ((CA b).1 h) s hs)).2
theorem Z2c {b:Z6} {k j:Nat} {s:Z4} {c:Z6} (h:A5 b) (hs:b.steps[k]? = some s) (hc:s.kids[j]? = some c):TW c:=E8.1 (h s (Y6 hs)) c (Y6 hc)
theorem M5 {b:Z6} {x:Int} {many:Nat} (h:TW b):A5 (V3 b x many):=by
 intro s hs
 have hs:s∈VR b.steps x many:=hs
 rw [VR] at hs
 split at hs
 ·exact AR h s hs
 ·rename_i hq
  obtain ⟨_,_,t,h5,_,h6⟩:=JN (fun z=>hq (.inr z))
  rcases List.mem_or_eq_of_mem_set hs with hs|rfl
  ·rcases List.mem_or_eq_of_mem_set hs with hs|rfl
   ·exact AR h s hs
   ·exact True.intro
  ·rw [h6];exact AR h t (Y6 h5)
theorem Z39 {ds:List Zf} {b:Z6} {x:Int} {many:Nat} (h:wB ds b):(V3 b x many).sz<=b.sz:=by
 have:=MD (xs:=b.steps) (x:=x) (many:=many) fun s hs hc=>by
  have h7:=EP ((QV b).1 h) s hs hc
  rw [h7,Dh];omega
 rw [V3,Z6.sz,b.sz_eq];omega
def KC (ds:List Zf) (r:Yj):Yj:=⟨r.params,r.lent,r.result,Wo ds [] r.body⟩
def Eg (n:Zx):Zx:=⟨n.decls,n.routines.map (KC n.decls)⟩
end Go.Abs
section
namespace Go.Abs
theorem Z1i {xs:List Z4} {k:Nat} {s:Z4} {r:Nat} (h:xs[k]? = some s) (hs:YB s.op=true) (ha:k+Yr (xs.drop k)=r):k+1+Yr (xs.drop (k+1))=r:=by
 rw [Yb h,Yr,Zk hs] at ha;omega
theorem Z1j {xs:List Z4} {k:Nat} {s:Z4} {r:Nat} (h:xs[k]? = some s) (hs:¬YB s.op=true) (ha:k+Yr (xs.drop k)=r):k=r:=by
 rw [Yb h,Yr,Za hs] at ha;omega
theorem Z1h {xs:List Z4} {k:Nat} {r:Nat} (h:xs.length<=k) (ha:k+Yr (xs.drop k)=r):k=r:=by
 rw [Xz h,Yr] at ha;omega
theorem OK {op x:Int} {xs:List Z4} {k:Nat} {s:Z4} {r:Int} (h:xs[k]? = some s) (hs:s.op=op/\gI s.args 0=x) (ha:Xy op x (xs.drop k) k=r):(k:Int)=r:=by
 rw [Yb h,Xy,Zk hs] at ha;exact ha
theorem HT {op x:Int} {xs:List Z4} {k:Nat} {s:Z4} {r:Int} (h:xs[k]? = some s) (hs:¬(s.op=op/\gI s.args 0=x)) (ha:Xy op x (xs.drop k) k=r):Xy op x (xs.drop (k+1)) ((k+1:Nat):Int)=r:=by
 rw [Yb h,Xy,Za hs] at ha;rw [<-ha];congr 1
theorem OJ {op x:Int} {xs:List Z4} {k:Nat} {r:Int} (h:xs.length<=k) (ha:Xy op x (xs.drop k) k=r):-1=r:=by
 rw [Xz h,Xy] at ha;exact ha
theorem P9 {many:Nat} {xs:List Z4} {k:Nat} {s:Z4} {r:Int} (h:xs[k]? = some s) (hs:Q9 many s) (ha:XR many (xs.drop k) k=r):(k:Int)=r:=by
 rw [Yb h,XR,Zk hs] at ha;exact ha
theorem P8 {many:Nat} {xs:List Z4} {k:Nat} {s:Z4} {r:Int} (h:xs[k]? = some s) (hs:¬Q9 many s) (ha:XR many (xs.drop k) k=r):XR many (xs.drop (k+1)) ((k+1:Nat):Int)=r:=by
 rw [Yb h,XR,Za hs] at ha;rw [<-ha];congr 1
theorem P7 {many:Nat} {xs:List Z4} {k:Nat} {r:Int} (h:xs.length<=k) (ha:XR many (xs.drop k) k=r):-1=r:=by
 rw [Xz h,XR] at ha;exact ha
theorem Z3b {xs:List Z4} {x:Int} {many:Nat} (h:V2 xs x<0∨Wm xs many<0):VR xs x many=xs:=Zk h
theorem Z3c {xs:List Z4} {x:Int} {many:Nat} {s:Z4} (h:¬(V2 xs x<0∨Wm xs many<0)) (hs:JV xs (Wm xs many)=s):(xs.set (V2 xs x).toNat (Zi 17 x)).set (Wm xs many).toNat (TB (1+x) s)=VR xs x many:=by
 rw [VR,Za h,hs]
theorem TS (xs:List Z4):(Zl (Zs xs)).length=xs.length*5:=by rw [UR _ (X9 _)];simp
theorem DA (s:Z4) (r:List Z4):Zl (Zs (s::r))=Ye s++Zl (Zs r):=by rw [V8,V8];rfl
theorem IK {xs:List Z4} {k:Nat} {x:Z4} (h:xs[k]? = some x):Zl (Zs (xs.take k))++Zl [Y2 x]=Zl (Zs (xs.take (k+1))):=by
 rw [WQ h,Wx,Tz,DA]
 have:Zl (Zs [])=[]:=by rw [V8];rfl
 rw [this];rfl
theorem IL {xs:List Z4} {i:Nat} {s:Z4} (h:xs[i]? = some s):Zl (Zs xs)=Zl (Zs (xs.take i))++(Ye s++Zl (Zs (xs.drop (i+1)))):=by
 have hi:=(XG.1 h).1
 have e:xs=xs.take i++(s::xs.drop (i+1)):=by rw [<-Yb h,Uy]
 conv=>lhs;rw [e,Wx,Tz,DA]
theorem DB {xs:List Z4} {i:Nat} {s t:Z4} (h:xs[i]? = some s):(Zl (Zs xs)).take (i*5)++Ye t++(Zl (Zs xs)).drop (i*5+(Ye t).length)=Zl (Zs (xs.set i t)):=by
 have hi:=(XG.1 h).1
 have hl:(Zl (Zs (xs.take i))).length=i*5:=by rw [TS,Wv,Vo om]
 rw [IL h,GS (xs:=Ye s) (ys:=Ye t) hl rfl]
 have e:xs.set i t=xs.take i++(t::xs.drop (i+1)):=by rw [CW,Zk hi]
 rw [e,Wx,Tz,DA]
theorem FK {xs:List Z4} {i:Nat} {s:Z4} (h:xs[i]? = some s):((Zl (Zs xs)).drop (i*5)).take (Ye s).length=Ye s:=by
 have hi:=(XG.1 h).1
 have hl:(Zl (Zs (xs.take i))).length=i*5:=by rw [TS,Wv,Vo om]
 rw [IL h]
 exact Z3m hl
structure Qs (xs:List Int) (v:Int) (k:Nat) (acc:List Int) (d:Bool):Prop where
 len:acc.length<=k+(if d=true then 1 else 0)
 sub:∀z∈acc,z∈xs.take k∨z=v
 all:∀z∈xs.take k,z∈acc
 done:d=true->v∈acc
theorem Qs.zero (xs:List Int) (v:Int):Qs xs v 0 [] false:=⟨by simp,by simp,by simp,by simp⟩
theorem Qs.step {xs:List Int} {v:Int} {k:Nat} {acc:List Int} {d:Bool} {x:Int} (h:Qs xs v k acc d) (hx:xs[k]? = some x) {acc2:List Int} {d2:Bool}
  (hc:(acc2=acc++[x]/\d2=d)∨(acc2=(acc++[v])++[x]/\d2=true/\¬d=true)∨(acc2=acc++[x]/\d2=true/\x=v)):Qs xs v (k+1) acc2 d2:=by
 obtain ⟨h1,h2,h3,h4⟩:=h
 have ht:∀z,z∈xs.take (k+1)↔z∈xs.take k∨z=x:=fun z=>by rw [WQ hx];simp
 rcases hc with ⟨rfl,rfl⟩|⟨rfl,rfl,hd⟩|⟨rfl,rfl,rfl⟩
 ·refine ⟨by simp;omega,fun z hz=>?_,fun z hz=>?_,fun q=>List.mem_append_left _ (h4 q)⟩
  ·rw [ht]
   rcases Xa.1 hz with hz|hz
   ·rcases h2 z hz with q|q
    ·exact .inl (.inl q)
    ·exact .inr q
   ·exact .inl (.inr (XJ.1 hz))
  ·rcases (ht z).1 hz with q|q
   ·exact List.mem_append_left _ (h3 z q)
   ·subst q;simp
 ·rw [Za hd] at h1
  refine ⟨by simp;omega,fun z hz=>?_,fun z hz=>?_,fun _=>by simp⟩
  ·rw [ht]
   simp only [Xa,XJ] at hz
   rcases hz with (hz|hz)|hz
   ·rcases h2 z hz with q|q
    ·exact .inl (.inl q)
    ·exact .inr q
   ·exact .inr hz
   ·exact .inl (.inr hz)
  ·rcases (ht z).1 hz with q|q
   ·exact List.mem_append_left _ (List.mem_append_left _ (h3 z q))
   ·subst q;simp
 ·refine ⟨by simp;split at h1<;>omega,fun z hz=>?_,fun z hz=>?_,fun _=>by simp⟩
  ·rw [ht]
   rcases Xa.1 hz with hz|hz
   ·rcases h2 z hz with q|q
    ·exact .inl (.inl q)
    ·exact .inr q
   ·exact .inl (.inr (XJ.1 hz))
  ·rcases (ht z).1 hz with q|q
   ·exact List.mem_append_left _ (h3 z q)
   ·subst q;simp
theorem Qs.fin {xs:List Int} {v:Int} {k:Nat} {acc:List Int} {d:Bool} (h:Qs xs v k acc d) (hk:k=xs.length) :
  (d=true->acc.length<=xs.length+1/\∀z,z∈acc↔z∈xs∨z=v)/\(¬d=true->(acc++[v]).length<=xs.length+1/\∀z,z∈acc++[v]↔z∈xs∨z=v):=by
 obtain ⟨h1,h2,h3,h4⟩:=h
 subst hk
 rw [Vj] at h2 h3
 refine ⟨fun hd=>?_,fun hd=>?_⟩
 ·rw [Zk hd] at h1
  exact ⟨h1,fun z=>⟨h2 z,fun q=>q.elim (h3 z) fun e=>e▸h4 hd⟩⟩
 ·rw [Za hd] at h1
  refine ⟨by simp;omega,fun z=>?_⟩
  rw [Xa,XJ]
  exact ⟨fun q=>q.elim (h2 z) .inr,fun q=>q.elim (fun e=>.inl (h3 z e)) .inr⟩
end Go.Abs
namespace Go.Abs
theorem Qs.go {xs:List Int} {v:Int} {k:Nat} {acc:List Int} {d:Bool} {x:Int} (h:Qs xs v k acc d) (hx:xs[k]? = some x) {acc2:List Int} {d2:Bool}
  (hc:(acc2=acc/\d2=d)∨(acc2=acc++[v]/\d2=true/\¬d=true)∨(acc2=acc/\d2=true/\x=v)):Qs xs v (k+1) (acc2++[x]) d2:=by
 refine h.step hx ?_
 rcases hc with ⟨e1,e2⟩|⟨e1,e2,e3⟩|⟨e1,e2,e3⟩
 ·exact .inl ⟨by rw [e1],e2⟩
 ·exact .inr (.inl ⟨by rw [e1],e2,e3⟩)
 ·exact .inr (.inr ⟨by rw [e1],e2,e3⟩)
section
variable {ds:List Zf} {kept K2:List Int} {op num x:Int} {args:List Int} {j many:Nat} {kd:Z6}
theorem Z3s (h8:op=8) (hx:gI args 0=x) (hk:¬x∈kept) (hm:(VE ds num j).length=many) (hq:¬(V2 kd.steps x<0∨Wm kd.steps many<0)) (hK:∀z,z∈K2↔z∈kept∨z=x):Wo ds K2 (V3 kd x many)=UW ds kept op num args j kd:=by
 subst hx hm
 have e:∀z,z∈K2↔z∈gI args 0::kept:=fun z=>by rw [hK z,YP];exact Or.comm
 rw [UW,Zk ⟨h8,hk⟩,DX,Za hq,ML,GT kd e]
theorem Z3t (h8:op=8) (hx:gI args 0=x) (hk:¬x∈kept) (hm:(VE ds num j).length=many) (hq:V2 kd.steps x<0∨Wm kd.steps many<0):Wo ds kept (V3 kd x many)=UW ds kept op num args j kd:=by
 subst hx hm
 rw [UW,Zk ⟨h8,hk⟩,DX,Zk hq,ML]
theorem MM (h:¬(op=8/\¬gI args 0∈kept)):Wo ds kept kd=UW ds kept op num args j kd:=by rw [UW,Za h]
end
end Go.Abs
namespace Go.Abs
theorem Dc:∀{xs:List Z6} {k:Nat} {b:Z6},xs[k]? = some b->YW (xs.take k)+b.sz<=YW xs
 | [],_,_,h=>by simp at h
 | x::r,0,b,h=>by simp at h;subst h;simp [YW]
 | x::r,k+1,b,h=>by
  have:=Dc (xs:=r) (k:=k) (by simpa using h)
  rw [B7,YW,YW];omega
theorem F8 {xs:List Z6} {k:Nat} (h:xs.length<=k):YW (xs.take k)=YW xs:=by rw [Vb h]
end Go.Abs
end
namespace Go.Abs
theorem Nu {xs:List Z4} {k:Nat} {s:Z4} (h:xs[k]? = some s):Ys (xs.drop k)=s.sz+Ys (xs.drop (k+1)):=by rw [Yb h,Ys]
theorem Nv (xs:List Z4) (k:Nat):Ys (xs.drop k)<=Ys xs:=by
 have h:=Yv Ys (Uy k xs)
 rw [UJ] at h;omega
theorem Db {xs:List Z6} {k:Nat} {b:Z6} (h:xs[k]? = some b):YW (xs.take (k+1))=YW (xs.take k)+b.sz:=by rw [WQ h,C0,YW,YW];rfl
structure CL (ds:List Zf) (nf m:Nat) (xs:List Z4) (d z:Nat):Prop where
 fs:UB ds nf m xs
 dn:YN xs=d
 op:Tc V6 xs
 sz:Ys xs<=z
section
variable {ds:List Zf} {nf m d z:Nat} {xs:List Z4}
theorem CL.nil:CL ds nf m [] 0 0:=⟨True.intro,rfl,True.intro,X7 _⟩
theorem CL.len (h:CL ds nf m xs d z):xs.length<=z:=Vc (Ka xs) h.sz
theorem CL.le (h:CL ds nf m xs d z) {z2:Nat} (hz:z<=z2):CL ds nf m xs d z2:=⟨h.fs,h.dn,h.op,Vc h.sz hz⟩
theorem Rh {op v:Int} (ho:op=14∨op=15) (hv:0<=v/\v<(m:Int)):fS ds nf m (Zi op v):=by
 rw [Zi,fS]
 exact ⟨.inr om,fun a ha=>by rw [XJ.1 ha];exact hv,fun _=>⟨rfl,rfl,rfl,v,rfl⟩,fun h=>by omega,fun h=>by omega,fun h=>by omega,fun h=>by omega,by omega,by omega,by simp,fun _=>rfl,True.intro⟩
theorem Ih {op:Int} (ho:op=14∨op=15):YB op=true:=by simp [YB];omega
theorem CL.cnt (h:CL ds nf m xs d z) {op v:Int} (ho:op=14∨op=15) (hv:0<=v/\v<((m+d:Nat):Int)):CL ds nf m (xs++[Zi op v]) d (z+2):=by
 have hc:YB (Zi op v).op=true:=Ih ho
 refine ⟨Dw h.fs (by rw [h.dn];exact Rh ho hv),?_,Eb h.op ?_,?_⟩
 ·rw [QZ,h.dn,YN,Zk hc];rfl
 ·rw [CE];exact ⟨by show op<=15;omega,True.intro⟩
 ·have:=h.sz
  have e:(Zi op v).sz=2:=rfl
  rw [UJ,Ys,e,Ys];omega
theorem CL.cnts {op:Int} (ho:op=14∨op=15):∀{vs:List Int} {xs:List Z4} {z:Nat},CL ds nf m xs d z->(∀v∈vs,0<=v/\v<((m+d:Nat):Int))->CL ds nf m (xs++vs.map (Zi op)) d (z+2*vs.length)
 | [],xs,z,h,_=>by simpa using h
 | v::r,xs,z,h,hv=>by
  have h1:=CL.cnts ho (vs:=r) (h.cnt ho (hv v (Xe ..))) fun x hx=>hv x (XC _ hx)
  rw [Ug,show xs++Zi op v::r.map (Zi op)=xs++[Zi op v]++r.map (Zi op) by simp]
  exact h1.le (by rw [YQ];omega)
theorem CL.one (h:CL ds nf m xs d z) {s:Z4} (hs:fS ds nf (m+d) s) (hc:YB s.op=false) (ho:TY V6 s):CL ds nf m (xs++[s]) (d+1) (z+s.sz):=by
 refine ⟨Dw h.fs (by rw [h.dn];exact hs),by rw [C6 hc,h.dn],Eb h.op ho,?_⟩
 have:=h.sz
 rw [UJ,Ys,Ys];omega
theorem CL.app (h:CL ds nf m xs d z) {ys:List Z4} {d2 z2:Nat} (h2:CL ds nf (m+d) ys d2 z2):CL ds nf m (xs++ys) (d+d2) (z+z2):=by
 refine ⟨Bq.2 ⟨h.fs,by rw [h.dn];exact h2.fs⟩,by rw [QZ,h.dn,h2.dn],Ea.2 ⟨h.op,h2.op⟩,?_⟩
 have:=h.sz
 have:=h2.sz
 rw [UJ];omega
end
structure KB (ds:List Zf) (nf m:Nat) (b:Z6) (z:Nat):Prop where
 fb:fB ds nf m b
 op:WX V6 b
 sz:b.sz<=z
section
variable {ds:List Zf} {nf m d z:Nat} {xs:List Z4}
theorem CL.block (h:CL ds nf m xs d z) {r:Int} (hr:0<=r/\r<((m+d:Nat):Int)):KB ds nf m ⟨xs,r⟩ (1+z):=by
 refine ⟨by rw [fB,h.dn];exact ⟨h.fs,hr⟩,by rw [WX];exact h.op,?_⟩
 have:=h.sz
 rw [Z6.sz];omega
theorem KB.le {b:Z6} (h:KB ds nf m b z) {z2:Nat} (hz:z<=z2):KB ds nf m b z2:=⟨h.fb,h.op,Vc h.sz hz⟩
theorem KB.cl {b:Z6} (h:KB ds nf m b z):CL ds nf m b.steps (YN b.steps) (z-1)/\0<=b.result/\b.result<((m+YN b.steps:Nat):Int):=by
 obtain ⟨h1,h2⟩:=(Cb b).1 h.fb
 refine ⟨⟨h1,rfl,(E9 b).1 h.op,?_⟩,h2⟩
 have:=h.sz
 have:=b.sz_eq
 omega
theorem KB.put {b:Z6} (h:KB ds nf m b z) {as1 bs:List Int} (ha:∀v∈as1,0<=v/\v<(m:Int)) (hb:∀v∈bs,0<=v/\v<(m:Int)):KB ds nf m ⟨as1.map (Zi 14)++bs.map (Zi 15)++b.steps,b.result⟩ (z+2*as1.length+2*bs.length):=by
 obtain ⟨h1,h2⟩:=h.cl
 have q1:CL ds nf m ([]++as1.map (Zi 14)) 0 (0+2*as1.length):=CL.nil.cnts (.inl rfl) ha
 have q2:=(q1.cnts (op:=15) (.inr rfl) hb).app h1
 have:=h.sz
 have:=b.sz_eq
 rw [B6,WL] at q2
 exact (q2.block h2).le om
end
structure KK (ds:List Zf) (nf:Nat) (sc:Nat->Nat) (ks:List Z6) (z:Nat):Prop where
 fb:T4 ds nf sc 0 ks
 op:TX V6 ks
 sz:YW ks<=z
section
variable {ds:List Zf} {nf m z:Nat} {sc:Nat->Nat}
theorem KK.nil:KK ds nf sc [] 0:=⟨True.intro,True.intro,X7 _⟩
theorem KK.snoc {ks:List Z6} {b:Z6} {j z2:Nat} (h:KK ds nf sc ks z) (hj:ks.length=j) (hb:KB ds nf (sc j) b z2):KK ds nf sc (ks++[b]) (z+z2):=by
 refine ⟨IB h.fb (by rw [hj];exact hb.fb),Me h.op hb.op,?_⟩
 have:=h.sz
 have:=hb.sz
 rw [C0];simp only [YW];omega
theorem KK.le {ks:List Z6} (h:KK ds nf sc ks z) {z2:Nat} (hz:z<=z2):KK ds nf sc ks z2:=⟨h.fb,h.op,Vc h.sz hz⟩
theorem IC {s:Z4} {ks:List Z6} {into:Int} (h:FS ds nf m s) (h11:s.op<=11) (hl:ks.length=s.kids.length) (hi:0<=into/\into<=m) (hk:KK ds nf (Ut ds s.op s.num m) ks z):fS ds nf m ⟨s.op,s.num,into,s.args,ks⟩/\TY V6 ⟨s.op,s.num,into,s.args,ks⟩/\(Z4.mk s.op s.num into s.args ks).sz<=5+z:=by
 refine ⟨?_,?_,?_⟩
 ·rw [fS]
  refine ⟨h.op,h.args,fun q=>by omega,fun q=>by rw [hl];exact h.k7 q,fun q=>by rw [hl];exact h.k8 q,h.one,h.call,h.num,hi,h.alen,fun q=>?_,hk.fb⟩
  have:=h.kn q
  rw [this] at hl
  exact List.eq_nil_of_length_eq_zero hl
 ·rw [TY];exact ⟨by show s.op<=15;omega,hk.op⟩
 ·have:=h.alen
  have:=hk.sz
  rw [Z4.sz];omega
end
structure KT (ds:List Zf) (nf m:Nat) (st:Z4) (z:Nat):Prop where
 fs:fS ds nf m st
 cb:YB st.op=false
 op:TY V6 st
 sz:st.sz<=z
theorem KT.of {ds:List Zf} {nf m z:Nat} {s:Z4} {ks:List Z6} {into:Int} (h:FS ds nf m s) (h11:s.op<=11) (hl:ks.length=s.kids.length) (hi:0<=into/\into<=m) (hk:KK ds nf (Ut ds s.op s.num m) ks z):KT ds nf m ⟨s.op,s.num,into,s.args,ks⟩ (5+z):=by
 obtain ⟨h1,h2,h3⟩:=IC h h11 hl hi hk
 exact ⟨h1,by show YB s.op=false;simp [YB];omega,h2,h3⟩
theorem CL.kt {ds:List Zf} {nf m d z z2:Nat} {xs:List Z4} {st:Z4} (h:CL ds nf m xs d z) (hs:KT ds nf (m+d) st z2):CL ds nf m (xs++[st]) (d+1) (z+z2):=(h.one hs.fs hs.cb hs.op).le (by have:=hs.sz;omega)
theorem FS.few {ds:List Zf} {nf m:Nat} {s:Z4} (h:FS ds nf m s) (hd:Wd ds):s.kids.length<=3:=by
 by_cases h7:s.op=7
 ·have:=h.k7 h7;omega
 ·by_cases h8:s.op=8
  ·have:=h.k8 h8
   have:=GB hd s.num
   omega
  ·rw [h.kn ⟨h7,h8⟩];simp
theorem RF.lend {ds:List Zf} {nf q:Nat} {p:Int->Prop} {r:Yj} {l:List Int} (h:RF ds nf q p r) (h1:l.length<=3) (h2:∀v∈l,0<=v/\v<(r.params.length:Int)):RF ds nf q p ⟨r.params,l,r.result,r.body⟩:=⟨h.sig,⟨h1,h2⟩,h.body,h.op⟩
theorem RF.with {ds:List Zf} {nf q q2:Nat} {p p2:Int->Prop} {r:Yj} {b:Z6} (h:RF ds nf q p r) (h1:fB ds nf r.params.length b) (h2:b.sz<=q2) (h3:WX p2 b):RF ds nf q2 p2 ⟨r.params,r.lent,r.result,b⟩:=⟨h.sig,h.lent,⟨h1,h2⟩,h3⟩
theorem Z6.eta (b:Z6):Z6.mk b.steps b.result=b:=by cases b;rfl
theorem LC.at {n:Zx} {k:Nat} {xs:List (List Int)} {i:Nat} {l:List Int} {r:Yj} (h:LC n k xs) (hl:xs[i]? = some l) (hr:n.routines[i]? = some r):l.length<=3/\∀v∈l,0<=v/\v<(r.params.length:Int):=⟨(h.ok i l hl).1,(h.ok i l hl).2 r hr⟩
theorem Fm:∀{xs:List Z4},(∀s∈xs,TY Wp s)->∀k,k<=xs.length->YN (xs.take k)=k
 | _,_,0,_=>rfl
 | [],_,k+1,h=>absurd h (by simp)
 | x::r,h,k+1,hk=>by
  have h1:=((CE x).1 (h x (Xe ..))).1
  have hc:YB x.op=false:=by have:x.op<=11:=h1;simp [YB];omega
  rw [B7,YN,Za (by rw [hc];simp),Fm (fun s hs=>h s (XC _ hs)) k (by simpa using hk)]
  omega
theorem KB.put1 {ds:List Zf} {nf m z:Nat} {b:Z6} (h:KB ds nf m b z) {op:Int} (ho:op=14∨op=15) {as1:List Int} (ha:∀v∈as1,0<=v/\v<(m:Int)):KB ds nf m ⟨as1.map (Zi op)++b.steps,b.result⟩ (z+2*as1.length):=by
 obtain ⟨h1,h2⟩:=h.cl
 have q1:CL ds nf m ([]++as1.map (Zi op)) 0 (0+2*as1.length):=CL.nil.cnts ho ha
 have q2:=q1.app h1
 have:=h.sz
 have:=b.sz_eq
 rw [B6,WL] at q2
 exact (q2.block h2).le om
theorem FO.fin {n:Zx} {rs:List Yj} {q q2:Nat} {p:Int->Prop} (h:FN n q2) (e:rs.length=n.routines.length) (hr:∀r∈rs,RF n.decls n.routines.length q p r):FO ⟨n.decls,rs⟩ q p/\rs.length=n.routines.length:=
 ⟨FO.all h.decls (by show 1<=rs.length/\rs.length<=4;rw [e];exact h.len) (by show ∀r∈rs,RF n.decls rs.length q p r;rw [e];exact hr),e⟩
theorem KT.le {ds:List Zf} {nf m z z2:Nat} {st:Z4} (h:KT ds nf m st z) (hz:z<=z2):KT ds nf m st z2:=⟨h.fs,h.cb,h.op,Vc h.sz hz⟩
theorem KB.len {ds:List Zf} {nf m z:Nat} {b:Z6} (h:KB ds nf m b z):b.steps.length<=z:=by
 have:=h.sz
 have:=b.sz_eq
 have:=Ka b.steps
 omega
def Ve:List Z4->Int->Nat
 | [],_=>0
 | s::r,v=>(if gI s.args 0=v then 1 else 0)+Ve r v
def V5 (rn:List Z4):List Int->Nat
 | []=>0
 | v::r=>Ve rn v+V5 rn r
theorem Fe:∀(xs ys:List Z4) (v:Int),Ve (xs++ys) v=Ve xs v+Ve ys v
 | [],ys,v=>by simp [Ve]
 | x::r,ys,v=>by rw [Qo,Ve,Ve,Fe r];omega
theorem P3 {xs:List Z4} {k:Nat} {s:Z4} (h:xs[k]? = some s) (v:Int):Ve (xs.take (k+1)) v=Ve (xs.take k) v+(if gI s.args 0=v then 1 else 0):=by
 rw [WQ h,Fe,Ve,Ve];omega
theorem Ib:∀(xs:List Z4) (v:Int),Ve xs v<=xs.length
 | [],v=>X7 _
 | x::r,v=>by have:=Ib r v;rw [Ve,YQ];split<;>omega
theorem P4 (xs:List Z4) (k:Nat) (v:Int):Ve (xs.take k) v<=Ve xs v:=by
 have h:=Yv (Ve · v) (Uy k xs)
 simp only [Fe] at h;omega
theorem Hg (rn:List Z4):∀xs ys:List Int,V5 rn (xs++ys)=V5 rn xs+V5 rn ys
 | [],ys=>by simp [V5]
 | x::r,ys=>by rw [Qo,V5,V5,Hg rn r];omega
theorem Z6p {rn:List Z4} {xs:List Int} {k:Nat} {v:Int} (h:xs[k]? = some v):V5 rn (xs.take (k+1))=V5 rn (xs.take k)+Ve rn v:=by
 rw [WQ h,Hg,V5,V5];rfl
theorem NI (s:Z4) (r:List Z4):∀vs:List Int,Ap vs->V5 (s::r) vs<=1+V5 r vs/\(¬gI s.args 0∈vs->V5 (s::r) vs=V5 r vs)
 | [],_=>by simp [V5]
 | v::vs,h=>by
  obtain ⟨h1,h2⟩:=WR.1 h
  obtain ⟨q1,q2⟩:=NI s r vs h2
  rw [V5,V5,Ve]
  by_cases e:gI s.args 0=v
  ·have hn:¬gI s.args 0∈vs:=fun z=>by have:=h1 _ z;omega
   rw [Zk e,q2 hn]
   exact ⟨by omega,fun z=>absurd (YP.2 (.inl e)) z⟩
  ·rw [Za e]
   exact ⟨by omega,fun z=>by rw [q2 fun y=>z (XC _ y)];omega⟩
theorem NJ:∀(rn:List Z4) {vs:List Int},Ap vs->V5 rn vs<=rn.length
 | [],vs,_=>by
  have:∀xs:List Int,V5 [] xs=0:=fun xs=>by
   induction xs with
   | nil=>rfl
   | cons x r ih=>rw [V5,ih];rfl
  rw [this];exact QW _
 | s::r,vs,h=>by
  have h1:=(NI s r vs h).1
  have h2:=NJ r h
  rw [YQ];omega
theorem Hh (rn:List Z4) (xs:List Int) (k:Nat):V5 rn (xs.take k)<=V5 rn xs:=by
 have h:=Yv (V5 rn) (Uy k xs)
 rw [Hg] at h;omega
def Aq (m:Nat) (rn:List Z4):Prop:=∀s∈rn,∃a,s.args=[a]/\0<=a/\a<(m:Int)
theorem Aq.mono {m q:Nat} {rn:List Z4} (h:Aq m rn) (hm:m<=q):Aq q rn:=fun s hs=>by
 obtain ⟨a,h1,h2⟩:=h s hs
 exact ⟨a,h1,by omega⟩
theorem Aq.one {m k:Nat} {rn:List Z4} (h:Aq m rn) {s:Z4} {a:Int} (hs:rn[k]? = some s) (ha:s.args[0]? = some a):s.args=[a]/\0<=a/\a<(m:Int):=by
 obtain ⟨b,h1,h2⟩:=h s (Y6 hs)
 rw [h1] at ha
 cases ha
 exact ⟨h1,h2⟩
theorem In {xs:List Z4} {k:Nat} {s:Z4} (h:xs[k]? = some s):YN (xs.take (k+1))=YN (xs.take k)+(if YB s.op=true then 0 else 1):=by rw [WQ h,QZ,YN,YN];rfl
theorem KT.eq {ds:List Zf} {nf m z:Nat} {s:Z4} {ks:List Z6} (h:FS ds nf m s) (h11:s.op<=11) (hl:ks.length=s.kids.length) (hk:KK ds nf (Ut ds s.op s.num m) ks z):KT ds nf m ⟨s.op,s.num,s.into,s.args,ks⟩ (1+s.args.length+z):=by
 obtain ⟨h1,h2,h3⟩:=IC h h11 hl h.into hk
 refine ⟨h1,by show YB s.op=false;simp [YB];omega,h2,?_⟩
 have:=hk.sz
 rw [Z4.sz];omega
theorem FS.pair {ds:List Zf} {nf m:Nat} {s:Z4} (h:FS ds nf m s) (hp:s.op=14∨s.op=15):(∃a,s.args=[a]/\0<=a/\a<(m:Int))/\s.sz=2/\YB s.op=true:=by
 obtain ⟨h1,h2,h3,a,h4⟩:=h.cnt om
 have h5:=h.args a (by rw [h4];exact XJ.2 rfl)
 refine ⟨⟨a,h4,h5⟩,?_,Ih hp⟩
 rw [s.sz_eq,h3,h4];rfl
theorem FS.not_pair {ds:List Zf} {nf m:Nat} {s:Z4} (h:FS ds nf m s) (hp:¬(s.op=14∨s.op=15)) (h15:V6 s.op):s.op<=11/\YB s.op=false:=by
 have h1:s.op<=15:=h15
 have h2:=h.op
 exact ⟨by omega,by simp [YB];omega⟩
theorem CL.run {ds:List Zf} {nf m d z:Nat} {xs:List Z4} {D R:List Int} {rn:List Z4} (h:CL ds nf m xs d z) (hr:Aq (m+d) rn) (hD:∀v∈D,∃s∈rn,s.args=[v]) (hR:∀v∈R,∃s∈rn,s.args=[v]):CL ds nf m (xs++(D.map (Zi 14)++R.map (Zi 15))) d (z+2*(D.length+R.length)):=by
 have key:∀(A:List Int),(∀v∈A,∃s∈rn,s.args=[v])->∀v∈A,0<=v/\v<((m+d:Nat):Int):=fun A hA v hv=>by
  obtain ⟨s,hs,e⟩:=hA v hv
  obtain ⟨a,e2,e3⟩:=hr s hs
  rw [e] at e2
  cases e2
  exact e3
 have h2:=(h.cnts (op:=14) (.inl rfl) (key D hD)).cnts (op:=15) (.inr rfl) (key R hR)
 rw [<-TK]
 exact h2.le om
def Wb (xs:List Z4) (i:Nat) (s:Z4):List Z4:=xs.take i++[s]++xs.drop i
theorem CJ {xs:List Z4} (i:Nat) (s:Z4):Ys (Wb xs i s)=Ys xs+s.sz:=by
 have h:=Yv Ys (Uy i xs)
 rw [UJ] at h
 rw [Wb,UJ,UJ,Ys,Ys];omega
theorem Mx {xs:List Z4} {i:Nat} {s:Z4} (h:i<=xs.length):(Wb xs i s).length=xs.length+1:=by
 simp [Wb,Vo h];omega
def Cm (b:Z6) (i j:Nat) (v:Int):Z6:=⟨Wb (Wb b.steps j (Zi 15 v)) i (Zi 14 v),b.result⟩
def withR (n:Zx) (f:Nat) (rt:Yj) (b:Z6):Zx:=⟨n.decls,n.routines.set f ⟨rt.params,rt.lent,rt.result,b⟩⟩
def ES (n n2:Zx):Prop:=n2=n∨∃f rt i j v,n.routines[f]? = some rt/\i<=j/\j<=rt.body.steps.length/\0<=v/\v<((rt.params.length+YN (rt.body.steps.take i):Nat):Int)/\n2=withR n f rt (Cm rt.body i j v)
theorem CL.put {ds:List Zf} {nf m:Nat} {xs:List Z4} {d z:Nat} (h:CL ds nf m xs d z) {i:Nat} {op v:Int} (ho:op=14∨op=15) (hv:0<=v/\v<((m+YN (xs.take i):Nat):Int)):CL ds nf m (Wb xs i (Zi op v)) d (z+2):=by
 have hs:=h.fs
 have hp:=h.op
 have e:=Uy i xs
 rw [<-e] at hs hp
 rw [Bq] at hs
 rw [Ea] at hp
 have h1:CL ds nf m (xs.take i) (YN (xs.take i)) (Ys (xs.take i)):=⟨hs.1,rfl,hp.1,X7 _⟩
 have h2:CL ds nf (m+YN (xs.take i)) (xs.drop i) (YN (xs.drop i)) (Ys (xs.drop i)):=⟨hs.2,rfl,hp.2,X7 _⟩
 have h3:=(h1.cnt ho hv).app h2
 have e1:=Yv Ys e
 have e2:=Yv YN e
 rw [UJ] at e1
 rw [QZ,h.dn] at e2
 have:=h.sz
 rw [e2] at h3
 exact h3.le om
theorem Z34 {xs:List Z4} {i j:Nat} {s:Z4} (h:i<=j) (hj:j<=xs.length):(Wb xs j s).take i=xs.take i:=by
 rw [Wb,TK,List.take_append_of_le_length (by rw [Wv];omega),List.take_take,Vo h]
theorem SM {ds:List Zf} {nf m z:Nat} {b:Z6} (h:KB ds nf m b z) {i j:Nat} {v:Int} (hij:i<=j) (hj:j<=b.steps.length) (hv:0<=v/\v<((m+YN (b.steps.take i):Nat):Int)):KB ds nf m (Cm b i j v) (z+4):=by
 obtain ⟨h1,h2⟩:=h.cl
 have hm:YN (b.steps.take i)<=YN (b.steps.take j):=by
  have e:=Yv YN (Uy i (b.steps.take j))
  rw [QZ,List.take_take,Vo hij] at e;omega
 have h3:=(h1.put (i:=j) (op:=15) (v:=v) (.inr rfl) om).put (i:=i) (op:=14) (v:=v) (.inl rfl) (by rw [Z34 hij hj];exact hv)
 have:=h.sz
 have:=b.sz_eq
 exact (h3.block h2).le om
theorem FO.held {n n2:Zx} {q:Nat} (h:FO n q V6) (hh:ES n n2):FO n2 (q+4) V6:=by
 rcases hh with rfl|⟨f,rt,i,j,v,h1,h2,h3,h4,h5,rfl⟩
 ·exact ⟨⟨h.fn.decls,h.fn.len,h.fn.sigs,h.fn.lent,fun r hr=>⟨(h.fn.body r hr).1,by have:=(h.fn.body r hr).2;omega⟩⟩,h.op⟩
 ·have hr:=h.rf (Y6 h1)
  have hk:KB n.decls n.routines.length rt.params.length (Cm rt.body i j v) (q+4):=SM ⟨hr.body.1,hr.op,hr.body.2⟩ h2 h3 ⟨h4,h5⟩
  refine FO.all h.fn.decls (by show 1<=(n.routines.set _ _).length/\(n.routines.set _ _).length<=4;rw [UM];exact h.fn.len) fun r hm=>?_
  show RF n.decls (n.routines.set _ _).length _ _ r
  rw [UM]
  rcases List.mem_or_eq_of_mem_set hm with hm|rfl
  ·have hq:=h.rf hm
   exact ⟨hq.sig,hq.lent,⟨hq.body.1,by have:=hq.body.2;omega⟩,hq.op⟩
  ·exact ⟨hr.sig,hr.lent,⟨hk.fb,hk.sz⟩,hk.op⟩
structure Wl (ds:List Zf) (b:Z6):Prop where
 w:wB ds b
 nr:TW b
 rng:b.rng
structure T0 (ds:List Zf) (s:Z4):Prop where
 w:wS ds s
 nr:AS s
 rng:s.rng
section
variable {ds:List Zf}
theorem TE:∀{xs:List Z4},Qk xs↔∀s∈xs,s.rng
 | []=>by simp [Qk]
 | s::r=>by rw [Qk,TE];simp
theorem JM:∀{xs:List Z6},TP xs↔∀s∈xs,s.rng
 | []=>by simp [TP]
 | s::r=>by rw [TP,JM];simp
theorem Wl.iff {b:Z6}:Wl ds b↔∀s∈b.steps,T0 ds s:=by
 constructor
 ·intro h s hs
  have h3:=h.rng
  rw [Z6.rng_eq] at h3
  exact ⟨Js.1 ((QV b).1 h.w) s hs,CC.1 ((CA b).1 h.nr) s hs,TE.1 h3 s hs⟩
 ·intro h
  exact ⟨(QV b).2 (Js.2 fun s hs=>(h s hs).w),(CA b).2 (CC.2 fun s hs=>(h s hs).nr),by rw [Z6.rng_eq];exact TE.2 fun s hs=>(h s hs).rng⟩
theorem T0.kid {s:Z4} {b:Z6} (h:T0 ds s) (hb:b∈s.kids):Wl ds b:=by
 have h3:=h.rng
 rw [Z4.rng_eq] at h3
 exact ⟨EE.1 ((Ke s).1 h.w).2.2.2 b hb,E8.1 ((BE s).1 h.nr).2 b hb,JM.1 h3.2 b hb⟩
theorem T0.kids {s:Z4} {ks:List Z6} (h:T0 ds s) (hl:ks.length=s.kids.length) (hk:∀b∈ks,Wl ds b):T0 ds ⟨s.op,s.num,s.into,s.args,ks⟩:=by
 obtain ⟨h1,h2,h3,h4⟩:=(Ke s).1 h.w
 have h5:=h.rng
 rw [Z4.rng_eq] at h5
 refine ⟨(Ke _).2 ⟨h1,fun hc=>?_,fun h8=>⟨(h3 h8).1,hl.trans (h3 h8).2⟩,EE.2 fun b hb=>(hk b hb).w⟩,(BE _).2 ⟨((BE s).1 h.nr).1,E8.2 fun b hb=>(hk b hb).nr⟩,by rw [Z4.rng_eq];exact ⟨h5.1,JM.2 fun b hb=>(hk b hb).rng⟩⟩
 obtain ⟨q1,q2,q3,q4⟩:=h2 hc
 exact ⟨q1,q2,List.eq_nil_of_length_eq_zero (show ks.length=0 by rw [hl,q3];rfl),q4⟩
theorem T0.cnt {op v:Int} (h:op=14∨op=15∨op=16):T0 ds (Zi op v):=⟨Z7i h,(BE _).2 ⟨by show op≠17;omega,True.intro⟩,by rw [Z4.rng_eq];exact ⟨⟨by show (-9223372036854775808:Int)<=0;decide,by show (0:Int)<=_;decide⟩,True.intro⟩⟩
theorem Wl.open {b:Z6} {x q:Int} {fs:List Int} (h:Wl ds b):Wl ds (QY b x fs q):=by
 rw [Wl.iff] at h ⊢
 intro s hs
 have hs:s∈JI b.steps x fs q:=hs
 rw [JI] at hs
 split at hs
 ·simp only [Xa,XW,XJ] at hs
  rcases hs with ((⟨a,_,rfl⟩|rfl)|⟨a,_,rfl⟩)|hs
  ·exact T0.cnt om
  ·exact T0.cnt om
  ·exact T0.cnt om
  ·exact h s (List.mem_of_mem_drop hs)
 ·exact h s hs
theorem N8 {m:Nat} {op num:Int} {args:List Int}:∀{bs:List Z6} {k:Nat},(Tg ds m op num args bs k).length=bs.length
 | [],_=>rfl
 | b::r,k=>by rw [Tg,YQ,YQ,N8 (bs:=r)]
mutual
theorem T0.sp:∀(s:Z4) {m:Nat},T0 ds s->T0 ds (AU ds m s)
 | .mk op num into args kids,m,h=>by
  rw [AU]
  exact h.kids N8 (Wls.sp kids fun b hb=>h.kid hb)
theorem Wls.sp:∀(bs:List Z6) {m:Nat} {op num:Int} {args:List Int} {k:Nat},(∀b∈bs,Wl ds b)->∀b∈Tg ds m op num args bs k,Wl ds b
 | [],_,_,_,_,_,_,b,hb=>by cases hb
 | c::r,m,op,num,args,k,h,b,hb=>by
  rw [Tg] at hb
  rcases YP.1 hb with rfl|hb
  ·split
   ·exact (Wl.sp c (h c (Xe ..))).open
   ·exact Wl.sp c (h c (Xe ..))
  ·exact Wls.sp r (fun x hx=>h x (XC _ hx)) b hb
theorem WlSs.sp:∀(xs:List Z4) {m:Nat},(∀s∈xs,T0 ds s)->∀s∈Uu ds m xs,T0 ds s
 | [],_,_,s,hs=>by cases hs
 | c::r,m,h,s,hs=>by
  rw [Uu] at hs
  rcases YP.1 hs with rfl|hs
  ·exact T0.sp c (h c (Xe ..))
  ·exact WlSs.sp r (fun x hx=>h x (XC _ hx)) s hs
theorem Wl.sp:∀(b:Z6) {m:Nat},Wl ds b->Wl ds (WE ds m b)
 | .mk steps result,m,h=>by
  rw [WE,Wl.iff]
  exact WlSs.sp steps (Wl.iff.1 h)
end
theorem Z3g {b:Z6} {x:Int} {many:Nat} (h:b.rng):(V3 b x many).rng:=by
 rw [Z6.rng_eq] at h
 rw [V3,Z6.rng_eq]
 show Qk (VR b.steps x many)
 rw [VR]
 split
 ·exact h
 ·rename_i hq
  obtain ⟨_,_,t,h5,h7,h6⟩:=JN (fun z=>hq (.inr z))
  rw [TE] at h ⊢
  intro s hs
  rcases List.mem_or_eq_of_mem_set hs with hs|rfl
  ·rcases List.mem_or_eq_of_mem_set hs with hs|rfl
   ·exact h s hs
   ·rw [Z4.rng_eq];exact ⟨⟨by show (-9223372036854775808:Int)<=0;decide,by show (0:Int)<=_;decide⟩,True.intro⟩
  ·have:=h t (Y6 h5)
   rw [h6,TB,Z4.rng_eq]
   rw [Z4.rng_eq] at this
   exact this
mutual
theorem Z3h:∀(s:Z4) {K:List Int},s.rng->(TZ ds K s).rng
 | .mk op num into args kids,K,h=>by
  rw [Z4.rng] at h
  rw [TZ,Z4.rng]
  exact ⟨h.1,MH kids h.2⟩
theorem MH:∀(bs:List Z6) {K:List Int} {op num:Int} {args:List Int} {k:Nat},TP bs->TP (Ue ds K op num args bs k)
 | [],_,_,_,_,_,_=>True.intro
 | b::r,K,op,num,args,k,h=>by
  rw [Ue,TP]
  refine ⟨?_,MH r h.2⟩
  split
  ·exact Z3g (GR b h.1)
  ·exact GR b h.1
theorem MI:∀(xs:List Z4) {K:List Int},Qk xs->Qk (Uf ds K xs)
 | [],_,_=>True.intro
 | s::r,K,h=>⟨Z3h s h.1,MI r h.2⟩
theorem GR:∀(b:Z6) {K:List Int},b.rng->(Wo ds K b).rng
 | .mk steps result,K,h=>by
  rw [Z6.rng] at h
  rw [Wo,Z6.rng]
  exact MI steps h
end
end
mutual
theorem Z2b:∀s:Z4,TY V6 s->AS s
 | .mk op num into args kids,h=>by
  rw [TY] at h
  rw [AS]
  exact ⟨by have:op<=15:=h.1;omega,M3 kids h.2⟩
theorem M3:∀bs:List Z6,TX V6 bs->A3 bs
 | [],_=>True.intro
 | b::r,h=>⟨M2 b h.1,M3 r h.2⟩
theorem M4:∀bs:List Z4,Tc V6 bs->A4 bs
 | [],_=>True.intro
 | b::r,h=>⟨Z2b b h.1,M4 r h.2⟩
theorem M2:∀b:Z6,WX V6 b->TW b
 | .mk steps result,h=>by
  rw [WX] at h
  rw [TW]
  exact M4 steps h
end
structure ZR (q:Nat) (r:Yj):Prop where
 params:r.params.length<=3
 lent:r.lent.length<=10
 body:r.body.sz<=q
 rng:r.body.rng
structure ZN (n:Zx) (q:Nat):Prop where
 decls:AD n.decls
 len:1<=n.routines.length/\n.routines.length<=4
 rt:∀r∈n.routines,ZR q r
theorem ZR.le {q q2:Nat} {r:Yj} (h:ZR q r) (hq:q<=q2):ZR q2 r:=⟨h.params,h.lent,Vc h.body hq,h.rng⟩
theorem ZN.le {n:Zx} {q q2:Nat} (h:ZN n q) (hq:q<=q2):ZN n q2:=⟨h.decls,h.len,fun r hr=>(h.rt r hr).le hq⟩
theorem ZN.sz {n:Zx} {q:Nat} (h:ZN n q) (hq:q<=10000000):Qt n:=
 ⟨⟨by have:=h.decls.1;omega,fun d hd=>by have:=(h.decls.2 d hd).1;omega,fun d hd c hc=>by have:=(h.decls.2 d hd).2 c hc;omega⟩,by have:=h.len;omega,fun r hr=>by have:=(h.rt r hr).params;omega,fun r hr=>by have:=(h.rt r hr).lent;omega,fun r hr=>by have:=(h.rt r hr).body;omega⟩
theorem FO.wl {n:Zx} {q:Nat} (h:FO n q V6) (hq:q<=100000000):∀r∈n.routines,Wl n.decls r.body:=fun r hr=>by
 have h1:=h.rf hr
 have h2:r.params.length<=3:=(UN.bd (f:=⟨r.params,r.result,default⟩) h1.sig).1
 exact ⟨NZ r.body h1.body.1 (by have:=h1.body.2;omega) h.fn.decls.ok,M2 r.body h1.op,GO r.body h1.body.1⟩
theorem FO.zn {n:Zx} {q:Nat} {p:Int->Prop} (h:FO n q p):ZN n q:=
 ⟨h.fn.decls.ad,h.fn.len,fun r hr=>⟨(UN.bd (f:=⟨r.params,r.result,default⟩) (h.fn.sigs r hr)).1,by have:=(h.fn.lent r hr).1;omega,(h.fn.body r hr).2,GO r.body (h.fn.body r hr).1⟩⟩
structure WN (n:Zx) (q:Nat):Prop where
 ok:Xf n
 zn:ZN n q
 wl:∀r∈n.routines,Wl n.decls r.body
theorem FO.wn {n:Zx} {q:Nat} (h:FO n q V6) (hq:q<=100000000):WN n q:=⟨h.fn.ok,h.zn,h.wl hq⟩
theorem WN.sp {n:Zx} {q:Nat} (h:WN n q):WN (Ev n) (9*q):=by
 refine ⟨⟨h.ok.decls,by show (n.routines.map _).length<=4;rw [Am];exact h.ok.len,fun r hr=>?_,fun r hr=>?_⟩,⟨h.zn.decls,by show 1<=(n.routines.map _).length/\(n.routines.map _).length<=4;rw [Am];exact h.zn.len,fun r hr=>?_⟩,fun r hr=>?_⟩
 ·obtain ⟨s,hs,rfl⟩:=XW.1 hr;exact h.ok.params s hs
 ·obtain ⟨s,hs,rfl⟩:=XW.1 hr;exact h.ok.lent s hs
 ·obtain ⟨s,hs,rfl⟩:=XW.1 hr
  have hz:=h.zn.rt s hs
  refine ⟨hz.params,hz.lent,?_,(Wl.sp s.body (h.wl s hs)).rng⟩
  have h1:=Et h.ok.decls s.body (m:=s.params.length) (h.wl s hs).w
  have h2:=s.body.pz_le
  have h3:=hz.body
  show (WE n.decls s.params.length s.body).sz<=9*q
  omega
 ·obtain ⟨s,hs,rfl⟩:=XW.1 hr;exact Wl.sp s.body (h.wl s hs)
theorem WN.ru {n:Zx} {q:Nat} (h:WN n q):ZN (Eg n) q:=by
 refine ⟨h.zn.decls,by show 1<=(n.routines.map _).length/\(n.routines.map _).length<=4;rw [Am];exact h.zn.len,fun r hr=>?_⟩
 obtain ⟨s,hs,rfl⟩:=XW.1 hr
 have hz:=h.zn.rt s hs
 refine ⟨hz.params,hz.lent,?_,GR s.body (h.wl s hs).rng⟩
 have h1:=GU s.body (K:=[]) (h.wl s hs).w
 have h3:=hz.body
 show (Wo n.decls [] s.body).sz<=q
 omega
theorem GJ {xs:List Z4} {i:Nat} {s t:Z4} (h:t∈Wb xs i s):t∈xs∨t=s:=by
 rw [Wb] at h
 simp only [Xa,XJ] at h
 rcases h with (h|h)|h
 ·exact .inl (TL h)
 ·exact .inr h
 ·exact .inl (List.mem_of_mem_drop h)
theorem GQ {op v:Int}:(Zi op v).rng:=by rw [Z4.rng_eq];exact ⟨⟨by show (-9223372036854775808:Int)<=0;decide,by show (0:Int)<=_;decide⟩,True.intro⟩
theorem ZN.withR {n:Zx} {q q2:Nat} {f:Nat} {rt:Yj} {b:Z6} (h:ZN n q) (hr:n.routines[f]? = some rt) (hq:q<=q2) (hb:b.sz<=q2) (hg:b.rng):ZN (withR n f rt b) q2:=by
 refine ⟨h.decls,by show 1<=(n.routines.set _ _).length/\(n.routines.set _ _).length<=4;rw [UM];exact h.len,fun r hm=>?_⟩
 rcases List.mem_or_eq_of_mem_set hm with hm|rfl
 ·exact (h.rt r hm).le hq
 ·have:=h.rt rt (Y6 hr)
  exact ⟨this.params,this.lent,hb,hg⟩
theorem ZN.held {n n2:Zx} {q:Nat} (h:ZN n q) (hh:ES n n2):ZN n2 (q+4):=by
 rcases hh with rfl|⟨f,rt,i,j,v,h1,h2,h3,h4,h5,rfl⟩
 ·exact h.le om
 ·have hz:=h.rt rt (Y6 h1)
  refine h.withR h1 om ?_ ?_
  ·rw [Cm,Z6.sz,CJ,CJ]
   have e1:(Zi 14 v).sz=2:=rfl
   have e2:(Zi 15 v).sz=2:=rfl
   have:=hz.body
   have:=rt.body.sz_eq
   omega
  ·have hg:=hz.rng
   rw [Z6.rng_eq,TE] at hg
   rw [Cm,Z6.rng_eq,TE]
   intro s hs
   rcases GJ hs with hs|rfl
   ·rcases GJ hs with hs|rfl
    ·exact hg s hs
    ·exact GQ
   ·exact GQ
theorem FO.le {n:Zx} {q q2:Nat} {p:Int->Prop} (h:FO n q p) (hq:q<=q2):FO n q2 p:=⟨⟨h.fn.decls,h.fn.len,h.fn.sigs,h.fn.lent,fun r hr=>⟨(h.fn.body r hr).1,Vc (h.fn.body r hr).2 hq⟩⟩,h.op⟩
def Vy (s y:Z4):Prop:=y.sz<=s.sz+1/\y.rng
theorem Vy.refl {s:Z4} (hg:s.rng):Vy s s:=⟨Nat.le_succ _,hg⟩
theorem Vy.of {s:Z4} {op num into:Int} {args:List Int} {kids:List Z6} (hg:s.rng) (hn:num=s.num∨num∈([0,1,2,3,-1,1000]:List Int)) (ha:args.length<=s.args.length+1) (hk:kids=s.kids∨kids=s.kids.drop 1):Vy s ⟨op,num,into,args,kids⟩:=by
 rw [Z4.rng_eq] at hg
 have hs:=s.sz_eq
 have hb:YW kids<=YW s.kids:=by
  rcases hk with rfl|rfl
  ·exact X7 _
  ·have h:=Yv YW (Uy 1 s.kids)
   rw [C0] at h;omega
 refine ⟨by rw [Z4.sz];omega,?_⟩
 rw [Z4.rng]
 refine ⟨?_,JM.2 fun b hbk=>JM.1 hg.2 b ?_⟩
 ·rcases hn with rfl|hn
  ·exact hg.1
  ·have:=(by decide:∀z∈([0,1,2,3,-1,1000]:List Int),-9223372036854775808<=z/\z<=9223372036854775807) num hn
   exact this
 ·rcases hk with rfl|rfl
  ·exact hbk
  ·exact List.mem_of_mem_drop hbk
def Xt (b y:Z6):Prop:=y.sz<=b.sz+2/\y.rng
theorem Xt.result {b:Z6} (hg:b.rng) (z:Int):Xt b ⟨b.steps,z⟩:=⟨by rw [Z6.sz,b.sz_eq];omega,by rw [Z6.rng_eq] at hg;rw [Z6.rng];exact hg⟩
theorem Xt.put {b:Z6} (hg:b.rng) {i:Nat} {op v:Int}:Xt b ⟨Wb b.steps i (Zi op v),b.result⟩:=by
 rw [Z6.rng_eq,TE] at hg
 refine ⟨?_,?_⟩
 ·rw [Z6.sz,CJ,b.sz_eq]
  have e:(Zi op v).sz=2:=rfl
  omega
 ·rw [Z6.rng,TE]
  intro s hs
  rcases GJ hs with hs|rfl
  ·exact hg s hs
  ·exact GQ
theorem Xt.del {b:Z6} (hg:b.rng) {k:Nat}:Xt b ⟨b.steps.take k++b.steps.drop (k+1),b.result⟩:=by
 rw [Z6.rng_eq,TE] at hg
 have h1:=Ql b.steps k
 have h2:=Yv Ys (Uy k b.steps)
 have h3:=Yv Ys (Uy 1 (b.steps.drop k))
 rw [UJ] at h2 h3
 rw [List.drop_drop] at h3
 refine ⟨by rw [Z6.sz,UJ,b.sz_eq];omega,?_⟩
 rw [Z6.rng,TE]
 intro s hs
 rcases Xa.1 hs with hs|hs
 ·exact hg s (TL hs)
 ·exact hg s (List.mem_of_mem_drop hs)
theorem Xt.set {b:Z6} (hg:b.rng) {k:Nat} {s t:Z4} (hs:b.steps[k]? = some s) (ht:t.sz<=s.sz+2/\t.rng):Xt b ⟨b.steps.set k t,b.result⟩:=by
 rw [Z6.rng_eq,TE] at hg
 have h1:=Ey t hs
 refine ⟨by rw [Z6.sz,b.sz_eq];omega,?_⟩
 rw [Z6.rng,TE]
 intro x hx
 rcases List.mem_or_eq_of_mem_set hx with hx|rfl
 ·exact hg x hx
 ·exact ht.2
theorem I4:∀{xs:List Z6} {i:Nat} {s:Z6} (t:Z6),xs[i]? = some s->YW (xs.set i t)+s.sz=YW xs+t.sz
 | [],_,_,_,h=>by simp at h
 | x::r,0,s,t,h=>by simp at h;subst h;rw [List.set_cons_zero,YW,YW];omega
 | x::r,i+1,s,t,h=>by
  have:=I4 (xs:=r) (i:=i) t (by simpa using h)
  rw [List.set_cons_succ,YW,YW];omega
theorem Xt.kid {b:Z6} (hg:b.rng) {k j:Nat} {s:Z4} {c y:Z6} (hs:b.steps[k]? = some s) (hc:s.kids[j]? = some c) (hy:Xt c y):Xt b ⟨b.steps.set k ⟨s.op,s.num,s.into,s.args,s.kids.set j y⟩,b.result⟩:=by
 refine Xt.set hg hs ?_
 have hg2:=hg
 rw [Z6.rng_eq,TE] at hg2
 have h1:=hg2 s (Y6 hs)
 rw [Z4.rng_eq] at h1
 have h2:=I4 y hc
 have h3:=hy.1
 refine ⟨by rw [Z4.sz,s.sz_eq];omega,?_⟩
 rw [Z4.rng]
 refine ⟨h1.1,JM.2 fun x hx=>?_⟩
 rcases List.mem_or_eq_of_mem_set hx with hx|rfl
 ·exact JM.1 h1.2 x hx
 ·exact hy.2
theorem Z3f {b:Z6} (hg:b.rng) {k j:Nat} {s:Z4} {c:Z6} (hs:b.steps[k]? = some s) (hc:s.kids[j]? = some c):c.rng:=by
 rw [Z6.rng_eq,TE] at hg
 have h1:=hg s (Y6 hs)
 rw [Z4.rng_eq] at h1
 exact JM.1 h1.2 c (Y6 hc)
theorem Z3i {b:Z6} (hg:b.rng) {k:Nat} {s:Z4} (hs:b.steps[k]? = some s):s.rng:=by
 rw [Z6.rng_eq,TE] at hg
 exact hg s (Y6 hs)
structure ZS (n:Zx) (q l:Nat):Prop where
 decls:AD n.decls
 len:1<=n.routines.length/\n.routines.length<=4
 rt:∀r∈n.routines,r.params.length<=3/\r.lent.length<=l/\r.body.sz<=q/\r.body.rng
theorem ZN.zs {n:Zx} {q:Nat} (h:ZN n q):ZS n q 10:=⟨h.decls,h.len,fun r hr=>⟨(h.rt r hr).params,(h.rt r hr).lent,(h.rt r hr).body,(h.rt r hr).rng⟩⟩
theorem ZS.le {n:Zx} {q q2 l l2:Nat} (h:ZS n q l) (hq:q<=q2) (hl:l<=l2):ZS n q2 l2:=⟨h.decls,h.len,fun r hr=>by obtain ⟨a,b,c,d⟩:=h.rt r hr;exact ⟨a,by omega,by omega,d⟩⟩
theorem ZS.sz {n:Zx} {q l:Nat} (h:ZS n q l) (hq:q<=10000000) (hl:l<=1000):Qt n:=
 ⟨⟨by have:=h.decls.1;omega,fun d hd=>by have:=(h.decls.2 d hd).1;omega,fun d hd c hc=>by have:=(h.decls.2 d hd).2 c hc;omega⟩,by have:=h.len;omega,fun r hr=>by have:=(h.rt r hr).1;omega,fun r hr=>by have:=(h.rt r hr).2.1;omega,fun r hr=>by have:=(h.rt r hr).2.2.1;omega⟩
theorem ZS.set {n:Zx} {q l q2 l2:Nat} {f:Nat} {rt:Yj} {ls:List Int} {b:Z6} (h:ZS n q l) (hr:n.routines[f]? = some rt) (hq:q<=q2) (hl:l<=l2) (hls:ls.length<=l2) (hb:b.sz<=q2) (hg:b.rng):ZS ⟨n.decls,n.routines.set f ⟨rt.params,ls,rt.result,b⟩⟩ q2 l2:=by
 refine ⟨h.decls,by show 1<=(n.routines.set _ _).length/\(n.routines.set _ _).length<=4;rw [UM];exact h.len,fun r hm=>?_⟩
 rcases List.mem_or_eq_of_mem_set hm with hm|rfl
 ·exact (h.le hq hl).rt r hm
 ·have:=h.rt rt (Y6 hr)
  exact ⟨this.1,hls,hb,hg⟩
theorem ZS.ds {n:Zx} {q l:Nat} {ds:List Zf} (h:ZS n q l) (hd:AD ds):ZS ⟨ds,n.routines⟩ q l:=⟨hd,h.len,h.rt⟩
def BC (g l c m kk:Nat):Value:=.slice (some ⟨g,(if c-m=0 then 0 else m*kk),none⟩) (l-m) (c-m)
def H4 (P:Program) (ops:Array Oper) (F:Fr) (k:Nat):Option (AV × Int × Nat):=
 match (ZC ops k).op with
 | .slice t x (some lo) none none=>match P.underlying t with
  | some (.slice e)=>match P.info? e with
   | some i=>match F.ev lo with
    | .val (.int _ m)=>some (F.ev x,m,i.size)
    | _=>none
   | none=>none
  | _=>none
 | _=>none
section
variable {P:Program} {n:Nat} {ops:Array Oper} {k:Nat} {F:Fr} {h h2:List Res}
theorem Z67 (j:Nat) {g l c m kk:Nat} {ls:List AV} (hi:H4 P ops F k=some (.val (.slice (some ⟨g,0,none⟩) l c),(m:Int),kk)) (hj:h[j]? = some (.row (.slice (some ⟨g,0,none⟩) l c) kk ls)) (hle:m<=l) :
  XD P (ZC ops k) F h [] (.val (BC g l c m kk)):=by
 unfold H4 at hi
 generalize hoo:ZC ops k=o at hi
 obtain ⟨dst,op,type,pos,after,guard⟩:=o
 cases op<;>simp only at hi<;>try (cases hi)
 rename_i t x lo hi' mx
 cases lo with
 | none=>simp at hi
 | some y=>
  cases hi' with
  | some _=>simp at hi
  | none=>
   cases mx with
   | some _=>simp at hi
   | none=>
    simp only at hi
    split at hi
    ·rename_i e ht
     split at hi
     ·rename_i inf hinf
      split at hi
      ·rename_i ik m' hm
       simp only [XX,Prod.mk.injEq] at hi
       obtain ⟨hx,rfl,hkk⟩:=hi
       intro n w G a hF hh
       have v1:=hF.ev x
       rw [hx] at v1
       have v1:=v1.val_inv
       have v2:=hF.ev y
       rw [hm] at v2
       have v2:=v2.val_inv
       have hcap:l<=c:=by
        rcases hh.ok _ (Y6 hj) with ⟨h0,_⟩|⟨g',l',c',cur,el,h0,_,hc,_⟩
        ·cases h0
        ·cases h0;exact hc
       refine ⟨_,.val,fun w' _ _=>?_⟩
       simp only [execOp,v1,v2,Ao,Option.map_none]
       refine Va ?_
       simp only [Instr.sliceAt,Sem.run_bind,VG ht,Result.andThen_ok,Instr.slice]
       have hmm:(Instr.sliceBounds true l c (some (.int ik (m:Int))) none none).run P w'=.ok (m,l,c) w':=by
        have YC:=BM (P:=P) (c:=BoundsCode.sliceB) (v:=.int ik (m:Int)) (y:=l) rfl om om w'
        simp [Instr.sliceBounds,YC]
       rw [hmm]
       simp only [Result.andThen_ok,TD hinf,BC,hkk]
       by_cases h0:c-m=0
       ·have e0:c=m:=by omega
        simp [e0]
       ·have e0:¬c=m:=fun z=>h0 om
        simp [e0,h0,Addr.add]
        exact fun z=>z.symm
      ·cases hi
     ·cases hi
    ·cases hi
theorem Lv (j g l c m kk:Nat) (ls:List AV) (hle:m<=l:=by omega) (hi:H4 P ops F k=some (.val (.slice (some ⟨g,0,none⟩) l c),(m:Int),kk):=by kernel_rfl) (hj:h[j]? = some (.row (.slice (some ⟨g,0,none⟩) l c) kk ls):=by kernel_rfl) :
  XD P (ZC ops k) F h [] (.val (BC g l c m kk)):=Z67 j hi hj hle
theorem Z2r {K:Fr->List Res->Prop} {g len cap i m sz:Nat} {ls:List AV} (hd:WZ n (ZC ops k)=true) (ha:VV P ops F k=some (.val (.slice (some ⟨g,0,none⟩) i cap),.val (BC g len cap m sz),sz))
  (hone:ls.all AV.one=true) (him:i<=m) (hml:m<=len)
  (hK:K (F.put (ZC ops k).dst (.val (.slice (some ⟨g,0,none⟩) (i+(len-m)) cap))) (.row (.slice (some ⟨g,0,none⟩) (i+(len-m)) cap) sz (ls.take (i*sz)++ls.drop (m*sz))::h2)):Wi P n (ZC ops k) F (.row (.slice (some ⟨g,0,none⟩) len cap) sz ls::h2) K:=by
 unfold VV at ha
 generalize hoo:ZC ops k=o at ha hd hK
 obtain ⟨dst,op,type,pos,after,guard⟩:=o
 cases op<;>simp only at ha<;>try (cases ha)
 rename_i c
 obtain ⟨callee,args,tys⟩:=c
 simp only at ha
 split at ha
 case h_2=>cases ha
 rename_i s x t t' hargs htys
 split at ha
 case h_2=>cases ha
 rename_i e htt ht
 have:=VT htt
 subst this
 split at ha
 case h_2=>cases ha
 rename_i inf hinfo
 split at ha
 case h_2=>cases ha
 rename_i z hz
 split at ha
 case h_2=>cases ha
 rename_i hb
 simp only [XQ] at hb
 simp only [XX,Prod.mk.injEq] at ha
 obtain ⟨h3,h4,hk1⟩:=ha
 have e1:args=#[s,x]:=by rw [<-VI (xs:=args),hargs]
 have e2:tys=#[t,t]:=by rw [<-VI (xs:=tys),htys]
 subst e1;subst e2
 intro Q w G a hF hh
 have v1:=hF.ev s
 have v2:=hF.ev x
 rw [h3] at v1
 rw [h4] at v2
 have v1:=v1.val_inv
 have v2:=v2.val_inv
 rcases hh.ok _ (Xe ..) with ⟨h0,_⟩|⟨g',len',cap',cur,el,h0,hrow,hlc,hcur,hll,hcells⟩
 ·cases h0
 ·cases h0
  have q5:len*sz<=cap*sz:=TM _ hlc
  have q6:m*sz<=len*sz:=TM _ hml
  have q7:i*sz<=m*sz:=TM _ him
  have q8:(len-m)*sz=len*sz-m*sz:=Nat.sub_mul ..
  have q9:(i+(len-m))*sz=i*sz+(len-m)*sz:=Tw ..
  have hcl:cur.toList.length=cap*sz:=by rw [Qn,hcur]
  have h1:(cur.toList.take (len*sz)).length=len*sz:=by rw [Wv,hcl,Vo q5]
  have hnl:((cur.toList.take (len*sz)).drop (m*sz)).length=(len-m)*sz:=by rw [Al,h1];omega
  have hr:=Ej (P:=P) w t type e el inf ht hinfo g i cap cur hrow ⟨g,(if cap-m=0 then 0 else m*sz),none⟩ (len-m) (cap-m) ((cur.toList.take (len*sz)).drop (m*sz)) (by rw [hk1];exact hnl)
   (fun j u hj=>by
    have hjl:=(XG.1 hj).1
    rw [hnl] at hjl
    have hne:¬cap-m=0:=fun z=>by
     have:len-m=0:=by omega
     rw [this] at hjl;omega
    rw [Za hne,Qv,cell_of_row w g _ cur el (0,0) hrow]
    rw [Hz,Q3] at hj
    split at hj
    ·simpa using hj
    ·cases hj)
   (fun u hu=>hcells.one_cells hone u (List.mem_of_mem_drop hu)) om (by rw [hk1,hnl,hcur];omega)
  rw [hk1] at hr
  have hti:(cur.toList.take (i*sz)).length=i*sz:=by rw [Wv,hcl,Vo om]
  obtain ⟨j1,j2⟩:=hh.rgrow (ls':=ls.take (i*sz)++ls.drop (m*sz)) (len':=i+(len-m)) (cs':=(cur.toList.take (i*sz)++(cur.toList.take (len*sz)).drop (m*sz)++cur.toList.drop (i*sz+((cur.toList.take (len*sz)).drop (m*sz)).length)).toArray) hrow
   (by simp only [BU,Yu,hti,hnl,Al,hcl,hcur];omega) om hcur (by rw [Yu,Wv,Al,hll,q9,Vo om];omega) (by
    have:(cur.toList.take (i*sz)++(cur.toList.take (len*sz)).drop (m*sz)++cur.toList.drop (i*sz+((cur.toList.take (len*sz)).drop (m*sz)).length)).toArray.toList.take ((i+(len-m))*sz)=cur.toList.take (i*sz)++(cur.toList.take (len*sz)).drop (m*sz):=by
     rw [BV,q9,<-hnl]
     conv=>lhs;arg 1;rw [show i*sz+((cur.toList.take (len*sz)).drop (m*sz)).length=(cur.toList.take (i*sz)++(cur.toList.take (len*sz)).drop (m*sz)).length from by rw [Yu,hti]]
     exact KO
    rw [this]
    have ht1:=hcells.take (i*sz)
    rw [List.take_take,Vo om] at ht1
    exact ht1.append (hcells.drop (m*sz)))
  generalize hW:w.setRow g (cur.toList.take (i*sz)++(cur.toList.take (len*sz)).drop (m*sz)++cur.toList.drop (i*sz+((cur.toList.take (len*sz)).drop (m*sz)).length)).toArray=W at hr j1 j2
  have hrun:(execOp a.eval { dst:=dst,op:=.call { callee:=.builtin .append,args:=#[s,x],argTypes:=#[t,t] },type:=type,pos:=pos,after:=after,guard:=guard }).run P w=.ok (.value (.slice (some ⟨g,0,none⟩) (i+(len-m)) cap)) W:=by
   simp only [execOp,resolve,invoke,builtin,Sem.run_bind,Sem.run_pure,Result.andThen_ok,B5,Ug,B4,v1,v2,BC]
   rw [hr]
   rfl
  unfold Oper.wp
  rw [hrun]
  exact ⟨_,_,G,hK,(hF.mono (j2.agree hh)).put (U6 hd) .val,j1,j2⟩
end
section
variable {P:Program} {n:Nat} {ops:Array Oper} {B:Fr->List Res->Prop} {T:List (Nat × List Nat)} {fuel:Nat} {done:List Nat} {k:Nat} {F:Fr} {h:List Res}
theorem Ij (q j:Nat) (js bs:List Nat) (g len cap i m sz:Nat) (ls:List AV) (hone:ls.all AV.one=true)
  (H:YK P n ops B (T.filter fun t=>!WA ops q t.1) fuel (done++[q]) (F.put (ZC ops q).dst (.val (.slice (some ⟨g,0,none⟩) (i+(len-m)) cap))) (.row (.slice (some ⟨g,0,none⟩) (i+(len-m)) cap) sz (ls.take (i*sz)++ls.drop (m*sz))::XF [j] h)) (him:i<=m:=by omega) (hml:m<=len:=by omega)
  (hk:X1 n ops F q=true:=by kernel_rfl) (ha:VV P ops F q=some (.val (.slice (some ⟨g,0,none⟩) i cap),.val (BC g len cap m sz),sz):=by kernel_rfl) (hp:Wa [j] h=some [.row (.slice (some ⟨g,0,none⟩) len cap) sz ls]:=by kernel_rfl) (ho:Vu ops q T=bs:=by kernel_rfl)
  (hj:js.map (fun z=>(Wk (XF [j] h))[z]?)=bs.map some:=by kernel_rfl):WY P n ops B T fuel done F h q:=
 Qa [j] js bs hk (V9 hp) ho hj (Z2r (h2:=[]) (Vm hk).2.1 ha hone him hml H)
end
theorem R4 (xs:List Yj) (k:Nat) (d:Yj):YL (xs.set k d)=(YL xs).set k (Vd d):=by simp [YL,List.map_set]
theorem Dz (xs:List Yj):(Zl (YL xs)).length=xs.length*5:=by rw [UR (k:=5) _ (U8 xs)];simp
theorem Ro {ds:List Yj} {k:Nat} (d:Yj) (hk:k<ds.length):(Zl (YL ds)).take (k*5)++(Vd d).leaves++(Zl (YL ds)).drop (k*5+5)=Zl (YL (ds.set k d)):=by
 rw [R4];exact DC (y:=Vd d) (U8 ds) rfl (by simpa using hk)
theorem PS (xs:List Z6) (k:Nat) (d:Z6):YH (xs.set k d)=(YH xs).set k (Zq d):=by
 simp [Ul,List.map_set]
theorem Cf (xs:List Z6):(Zl (YH xs)).length=xs.length*2:=by rw [UR (k:=2) _ (T2 xs)];simp
theorem Rl {ds:List Z6} {k:Nat} (d:Z6) (hk:k<ds.length):(Zl (YH ds)).take (k*2)++(Zq d).leaves++(Zl (YH ds)).drop (k*2+2)=Zl (YH (ds.set k d)):=by
 rw [PS];exact DC (y:=Zq d) (T2 ds) (by cases d;rfl) (by simpa using hk)
theorem Zj.frzN {P:Program} {f:FuncId} {as1:List AV} {h0:List Res} {ds:List Zf} {rs:List Yj} {hs:List Res}
  (H:Zj P f as1 h0 (fun r h=>∃g c:Nat,r=.agg [Zd ds,.ms g 0 rs.length c]/\h=.row (.slice (some ⟨g,0,none⟩) rs.length c) 5 (Zl (YL rs))::hs)) :
  Zj P f as1 h0 (fun r h=>r=.agg [Zd ds,X6 rs]/\h=hs):=by
 intro w G vs hv hh
 refine (H w G vs hv hh).mono ?_
 rintro e w' ⟨u,r,h',G',he,⟨gb,c,rfl,rfl⟩,hr,hh',hx⟩
 obtain ⟨G2,h1,h2,h3⟩:=BK hh' (U8 _) om
 have hA:Vp G' w' w' G2:=h2.agree hh'
 refine ⟨u,_,hs,G2,he,⟨rfl,rfl⟩,?_,(h1.perm (List.perm_append_comm (l₁:=[_]))).left,(hx.trans h2).sub' (An _ _)⟩
 cases hr with
 | agg hc=>
  cases hc with
  | cons k1 t1=>
   cases t1 with
   | cons k2 t2=>
    cases t2
    have hv2:=k2.val_inv
    subst hv2
    refine .agg (.cons (k1.mono hA) (.cons ?_ .nil))
    have hw:Zg (.sl (YL rs) (some (.slice (some ⟨gb,0,none⟩) rs.length c))) (X6 rs):=Zg.forget _ _
    exact hw _ _ _ h3
theorem Rt (v:Value) (k:Nat) (ls ks:List AV) (b o:Nat):Res.fp (.row v k ks) b o=Res.fp (.vec v ls) b o:=by
 cases v with
 | slice a _ _=>cases a<;>rfl
 | _=>rfl
theorem Z7b {w:World} {G:Ya} {v:Value} {ls:List AV} {h2:List Res} (hh:Yy w G (.vec v ls::h2)):Yy w G (.row v 1 ls::h2)/\YT w G (.vec v ls::h2) w G (.row v 1 ls::h2):=by
 have hpw:=WR.1 hh.apart
 have hf:∀b o,Res.fp (.row v 1 ls) b o->Res.fp (.vec v ls) b o:=fun b o h=>by rw [Rt v 1 ls ls] at h;exact h
 refine ⟨⟨fun r hr=>?_,WR.2 ⟨fun r hr b o f1 f2=>hpw.1 r hr b o (hf b o f1) f2,hpw.2⟩,fun r hr b o f1 hg=>?_,hh.lt⟩,⟨rfl,rfl,rfl,X7 _,fun _ _ h=>h,fun _ _=>.inl rfl,fun _ _ _ h=>.inl h,fun b o _ ⟨r,hr,f1⟩=>?_⟩⟩
 ·rcases YP.1 hr with rfl|hr
  ·rcases hh.ok _ (Xe ..) with h0|⟨g,cap,cur,e,h0,h1,h3,h4,h5⟩
   ·exact .inl h0
   ·exact .inr ⟨g,ls.length,cap,cur,e,h0,h1,h3,by rw [h4,Kh],by rw [Kh],by rw [Kh];exact h5⟩
  ·exact hh.ok r (XC _ hr)
 ·rcases YP.1 hr with rfl|hr
  ·exact hh.prot _ (Xe ..) b o (hf b o f1) hg
  ·exact hh.prot r (XC _ hr) b o f1 hg
 ·rcases YP.1 hr with rfl|hr
  ·exact ⟨_,Xe ..,hf b o f1⟩
  ·exact ⟨r,XC _ hr,f1⟩
theorem IM:∀xs:List Int,Zl (Z8 xs)=Z8 xs
 | []=>rfl
 | x::r=>Yv (AV.i x::·) (IM r)
section
variable {h:List Res}
theorem KL (j:Nat) (v:Hd) (xs:List Int) (hp:Wa [j] h=some [rV v xs]:=by kernel_rfl):UY h (.row v.v 1 (Zl (Z8 xs))::XF [j] h):=by
 have e:Zl (Z8 xs)=Z8 xs:=IM xs
 rw [e]
 intro w G hh
 have hp':=VQ (V9 hp)
 obtain ⟨a,b⟩:=Z7b (hh.perm hp')
 exact ⟨G,a,b.perm hp'.symm (Tv _)⟩
end
end Go.Abs
