/-
  A part of the proofs of several laws (see the last file): no condition.
-/
import Derived.Test.YtamhpednblociaaGreatYbA
import Derived.Test.YtamhpednblociaaGreatRows
import Derived.Deep.Slices
import Derived.ChangeArms
set_option linter.all false
set_option linter.unusedVariables false
set_option linter.unusedSimpArgs false
set_option linter.unusedSectionVars false
set_option maxRecDepth 10000
set_option maxHeartbeats 4000000
section
namespace Go.Abs
theorem YK.rgrow {w:World} {G:Ym} {h2:List Res} {g len len' cap k:Nat} {ls ls':List AV} (hh:YK w G (.row (.slice (some ⟨g,0,none⟩) len cap) k ls::h2)) {cs cs':Array Value} {e:TypeId}
  (hb:w.heap[g]? = some (.cells cs e (0,0))) (XO:cs'.size=cs.size) (hle:len'<=cap) (hcap:cs.size=cap*k) (hl:ls'.length=len'*k) (hls:YT w G ls' (cs'.toList.take (len'*k))) :
  YK (w.setRow g cs') G (.row (.slice (some ⟨g,0,none⟩) len' cap) k ls'::h2) /\
   X5 w G (.row (.slice (some ⟨g,0,none⟩) len cap) k ls::h2) (w.setRow g cs') G (.row (.slice (some ⟨g,0,none⟩) len' cap) k ls'::h2):=by
 have hmem:Res.row (.slice (some ⟨g,0,none⟩) len cap) k ls∈Res.row (.slice (some ⟨g,0,none⟩) len cap) k ls::h2:=Xa ..
 have hA:VY G w (w.setRow g cs') G:=⟨fun c j hg=>by
  have hne:c≠g:=fun he=>hh.prot _ hmem c j he hg
  simp [World.cell?,VO w g c cs' hne],fun _ _ h=>h⟩
 have e1:X5 w G [.row (.slice (some ⟨g,0,none⟩) len cap) k ls] (w.setRow g cs') G [.row (.slice (some ⟨g,0,none⟩) len' cap) k ls']:=by
  refine ⟨rfl,rfl,rfl,by simp [World.setRow],fun _ _ h=>h,?_,fun _ _ _ h=>.inl h,?_⟩
  ·intro c hc
   by_cases hcb:c=g
   ·subst hcb
    exact .inr ⟨cs,cs',e,(0,0),hb,setRow_heap w c cs cs' e (0,0) hb,XO,fun j hj=>absurd ⟨_,Xa ..,rfl⟩ hj⟩
   ·exact .inl (VO w g c cs' hcb)
  ·rintro c j _ ⟨r,hr,hf⟩
   rw [Xy.1 hr] at hf
   exact ⟨_,Xa ..,hf⟩
 have e2:YK (w.setRow g cs') G [.row (.slice (some ⟨g,0,none⟩) len' cap) k ls']:=by
  refine ⟨fun r hr=>?_,Ej _ _,fun r hr c j hf hg=>?_,fun c j hg=>?_⟩
  ·rw [Xy.1 hr]
   exact .inr ⟨g,len',cap,cs',e,rfl,setRow_heap w g cs cs' e (0,0) hb,hle,XO.trans hcap,hl,hls.mono hA⟩
  ·rw [Xy.1 hr] at hf
   exact hh.prot _ hmem c j hf hg
  ·have:=hh.lt c j hg
   simpa [World.setRow] using this
 exact YK.frame (h:=[.row (.slice (some ⟨g,0,none⟩) len cap) k ls]) (k:=h2) hh e1 e2
section
variable {P:Program} {n:Nat} {ops:Array Oper} {k:Nat} {F:Fr} {h2:List Res}
theorem RE {K:Fr->List Res->Prop} {v:Hd} {sz m:Nat} {ls xs:List AV} {hx:Option Value} (hd:VS n (ZV ops k)=true) (ha:TO P ops F k=some (.val v.v,.sl xs hx,sz))
  (hxs:∀y∈xs,y.leaves.length=sz) (hone:(Zg xs).all AV.one=true) (hm0:ls.length=m*sz) (hk0:0<sz) (hne:xs≠[]) (hbound:m+xs.length<=4294967296)
  (hK:∀v':Hd,K (F.put (ZV ops k).dst (.val v'.v)) (.row v'.v sz (ls++Zg xs)::h2)):WO P n (ZV ops k) F (.row v.v sz ls::h2) K:=by
 unfold TO at ha
 generalize hoo:ZV ops k=o at ha hd hK
 obtain ⟨dst,op,type,pos,after,guard⟩:=o
 cases op<;>simp only at ha<;>try (cases ha)
 rename_i c
 obtain ⟨callee,args,tys⟩:=c
 simp only at ha
 split at ha
 case h_2=>cases ha
 rename_i s x t t' hargs htys
 split at ha
 case h_2=>cases ha
 rename_i e htt ht
 have:=T1 htt
 subst this
 split at ha
 case h_2=>cases ha
 rename_i i hinfo
 split at ha
 case h_2=>cases ha
 rename_i z hz
 split at ha
 case h_2=>cases ha
 rename_i hb
 simp only [Xb] at hb
 simp only [Wp,Prod.mk.injEq] at ha
 obtain ⟨h3,h4,hk1⟩:=ha
 have e1:args=#[s,x]:=by rw [<-UY (xs:=args),hargs]
 have e2:tys=#[t,t]:=by rw [<-UY (xs:=tys),htys]
 subst e1;subst e2
 have hzs:z.cells.size=sz:=by rw [T1 hb.1,hk1]
 have hby:=Vb hb.2
 have hfl:=TE xs hxs
 intro Q w G a hF hh
 have v1:=hF.ev s
 have v2:=hF.ev x
 rw [h3] at v1
 rw [h4] at v2
 have v1:=v1.val_inv
 have v2:=v2.forget
 have finish:∀(v':Hd) w',(Builtin.append_ #[t,t] type #[v.v,a.eval x]).run P w=.ok v'.v w'->YK w' G (.row v'.v sz (ls++Zg xs)::h2)->X5 w G (.row v.v sz ls::h2) w' G (.row v'.v sz (ls++Zg xs)::h2) ->
   ({ dst:=dst,op:=.call { callee:=.builtin .append,args:=#[s,x],argTypes:=#[t,t] },type:=type,pos:=pos,after:=after,guard:=guard }:Oper).wp P a w
    (fun a' w'=>∃F' h' G',K F' h'/\FR w' G' n F' a'/\YK w' G' h'/\X5 w G (.row v.v sz ls::h2) w' G' h') Q:=by
  intro v' w' hr j1 j2
  have hrun:(execOp a.eval { dst:=dst,op:=.call { callee:=.builtin .append,args:=#[s,x],argTypes:=#[t,t] },type:=type,pos:=pos,after:=after,guard:=guard }).run P w=.ok (.value v'.v) w':=by
   simp only [execOp,resolve,invoke,builtin,Sem.run_bind,Sem.run_pure,Result.andThen_ok,FP,Tk,FM,v1,hr]
  unfold Oper.wp
  rw [hrun]
  exact ⟨_,_,G,hK v',(hF.mono (j2.agree hh)).put (TQ hd) .val,j1,j2⟩
 have hrow0:=hh.ok (.row v.v sz ls) (Xa ..)
 have hsub2:∀r:Res,List.Sublist (r::h2) (r::.row v.v sz ls::h2):=fun r=>List.Sublist.cons_cons _ (Ca _ _)
 have grown:∀(olds news:List Value) (old:Nat),YT w G ls olds->YT w G (Zg xs) news ->
   YK (w.drew.alloc (.cells (olds.toArray++news.toArray++Builtin.zeroCells z.cells (grownCap w (m+xs.length) old e-(m+xs.length))) e)) G
    (.row (.slice (some ⟨w.heap.size,0,none⟩) (m+xs.length) (grownCap w (m+xs.length) old e)) sz (ls++Zg xs)::h2) /\
   X5 w G (.row v.v sz ls::h2) (w.drew.alloc (.cells (olds.toArray++news.toArray++Builtin.zeroCells z.cells (grownCap w (m+xs.length) old e-(m+xs.length))) e)) G
    (.row (.slice (some ⟨w.heap.size,0,none⟩) (m+xs.length) (grownCap w (m+xs.length) old e)) sz (ls++Zg xs)::h2):=by
  intro olds news old ho hn
  have Xk:=grownCap_ge w (m+xs.length) old e
  have hol:=ho.length
  have hnl:=hn.length
  have hlen:(ls++Zg xs).length=(m+xs.length)*sz:=by rw [ZX,hm0,hfl,TJ]
  obtain ⟨j1,j2⟩:=hh.drew.alloc_rrow (olds.toArray++news.toArray++Builtin.zeroCells z.cells (grownCap w (m+xs.length) old e-(m+xs.length))) e
   (ls:=ls++Zg xs) (len:=m+xs.length) (cap:=grownCap w (m+xs.length) old e) (k:=sz) Xk
   (by
    have q2:(grownCap w (m+xs.length) old e-(m+xs.length))*sz=grownCap w (m+xs.length) old e*sz-(m+xs.length)*sz:=Nat.sub_mul ..
    have q3:(m+xs.length)*sz<=grownCap w (m+xs.length) old e*sz:=Jo _ Xk
    have q4:(m+xs.length)*sz=m*sz+xs.length*sz:=TJ ..
    simp only [Array.size_append,FQ,size_zeroCells,hzs,hol,hnl,hm0,hfl]
    omega) hlen
   (by
    have:(olds.toArray++news.toArray++Builtin.zeroCells z.cells (grownCap w (m+xs.length) old e-(m+xs.length))).toList.take ((m+xs.length)*sz)=olds++news:=by
     simp only [I8]
     rw [<-hlen,ZX,<-hol,<-hnl,<-ZX]
     exact Jn
    rw [this]
    exact (ho.append hn).mono (Br w G))
  exact ⟨j1.sub (hsub2 _),(X5.drew w G _).trans (j2.sub' (hsub2 _))⟩
 generalize hax:a.eval x=ax at v2 finish
 cases v2 with
 | nil _=>exact absurd rfl hne
 | sl hq hcc hm=>
  rename_i b o' k' c
  have hpos:0<xs.length:=C9.2 hne
  have hfm:=hm.flat_mem
  obtain ⟨news,hn,hnc⟩:=hfm.cells
  have hnl:news.length=xs.length*i.size:=by rw [hn.length,hfl,hk1]
  have hone':=hn.one_cells hone
  have hnews:∀j u,news[j]? = some u->w.cell? ((⟨b,o',none⟩:Addr).add j)=some u:=fun j u hj=>by rw [Jq];exact (hnc j u hj).1
  have hbb:(m+xs.length)*i.bytes<=140737488355328:=by
   have:=Nat.mul_le_mul hbound hby
   omega
  rcases hrow0 with ⟨hv0,hl0⟩|⟨g,len,cap,cur,el,hv0,hrow,hlc,hcur,hll,hcells⟩
  ·subst hl0
   have hm1:m=0:=by
    have:m*sz=0:=by simpa using hm0.symm
    rcases Nat.mul_eq_zero.1 this with h|h
    ·exact h
    ·omega
   subst hm1
   rw [hv0] at finish hh ⊢
   have hr:=run_append_nil (P:=P) w t type e i z ht hinfo hz ⟨b,o',none⟩ xs.length c news hnl hnews hpos om (by simp only [Wj] at hbb;omega)
   obtain ⟨j1,j2⟩:=grown [] news 0 .nil hn
   simp only [Wj,Array.empty_append,Jm] at j1 j2
   rw [hv0] at j2
   exact finish ⟨some ⟨w.heap.size,0,none⟩,xs.length,grownCap w xs.length 0 e⟩ _ hr (by simpa using j1) (by simpa using j2)
  ·have hlm:len=m:=Ia hk0 (hll.symm.trans hm0)
   subst hlm
   rw [hv0] at finish hh ⊢
   have q5:len*sz<=cap*sz:=Jo _ hlc
   have h1:(cur.toList.take (len*sz)).length=len*sz:=by rw [Wi,JT,hcur,Uc q5]
   have hcl:cur.toList.length=cap*sz:=by rw [JT,hcur]
   by_cases hroom:len+xs.length<=cap
   ·have q1:(len+xs.length)*sz<=cap*sz:=Jo _ hroom
    have q2:(len+xs.length)*sz=len*sz+xs.length*sz:=TJ ..
    have hfit:len*i.size+news.length<=cur.size:=by rw [hnl,hcur,hk1];omega
    have hr:=Ms (P:=P) w t type e el i ht hinfo g len cap cur hrow ⟨b,o',none⟩ xs.length c news hnl hnews hone' hroom hfit
    rw [hk1] at hr
    have hnl':news.length=xs.length*sz:=by rw [hnl,hk1]
    obtain ⟨j1,j2⟩:=hh.rgrow (ls':=ls++Zg xs) (len':=len+xs.length) (cs':=(cur.toList.take (len*sz)++news++cur.toList.drop (len*sz+news.length)).toArray) hrow
     (by simp only [FQ,ZX,h1,hnl',FL,hcl,hcur];omega) hroom hcur (by rw [ZX,hll,hfl,q2]) (by
      have:(cur.toList.take (len*sz)++news++cur.toList.drop (len*sz+news.length)).toArray.toList.take ((len+xs.length)*sz)=cur.toList.take (len*sz)++news:=by
       rw [FT,q2,<-hnl']
       conv=>lhs;arg 1;rw [show len*sz+news.length=(cur.toList.take (len*sz)++news).length from by rw [ZX,h1]]
       exact Jn
      rw [this]
      exact hcells.append hn)
    exact finish ⟨some ⟨g,0,none⟩,len+xs.length,cap⟩ _ hr j1 j2
   ·have hr:=run_append_grow (P:=P) w t type e i z ht hinfo hz ⟨g,0,none⟩ len cap (cur.toList.take (len*sz)) (by rw [hk1];exact h1) (fun j u hj=>by
     rw [Jq,cell_of_row w g _ cur el (0,0) hrow]
     rw [Qt] at hj
     split at hj
     ·simpa using hj
     ·cases hj) ⟨b,o',none⟩ xs.length c news hnl hnews om om (growslice_fits om hbb)
    obtain ⟨j1,j2⟩:=grown (cur.toList.take (len*sz)) news cap hcells hn
    rw [hv0] at j2
    exact finish ⟨some ⟨w.heap.size,0,none⟩,len+xs.length,grownCap w (len+xs.length) cap e⟩ _ hr j1 j2
end
section
variable {P:Program} {n:Nat} {ops:Array Oper} {B:Fr->List Res->Prop} {k:Nat} {F:Fr} {h:List Res}
theorem GU (j m:Nat) (v:Hd) (sz:Nat) (ls xs:List AV) (hx:Option Value) (hm0:ls.length=m*sz) (hxs:∀y∈xs,y.leaves.length=sz) (hone:(Zg xs).all AV.one=true) (hne:xs≠[]) (hbound:m+xs.length<=4294967296)
  (hK:∀v':Hd,SI P n ops B (k+1) (F.put (ZV ops k).dst (.h v')) (rK v' sz (ls++Zg xs)::XC [j] h)) (hk0:0<sz:=by omega)
  (hk:Xo n ops F k=true:=by kernel_rfl) (ha:TO P ops F k=some (.h v,.sl xs hx,sz):=by kernel_rfl) (hp:Wb [j] h=some [rK v sz ls]:=by kernel_rfl):SI P n ops B k F h:=
 QC hk (WO.perm (Uo (VM hp)) (RE (UJ hk).2.1 ha hxs hone hm0 hk0 hne hbound hK))
end
end Go.Abs
namespace Go.Abs
section
variable {P:Program} {n:Nat} {ops:Array Oper} {B:Fr->List Res->Prop} {T:List (Nat × List Nat)} {fuel:Nat} {done:List Nat} {F:Fr} {h:List Res}
theorem ID (i j m:Nat) (js bs:List Nat) (v:Hd) (sz:Nat) (ls xs:List AV) (hx:Option Value) (hm0:ls.length=m*sz) (hxs:∀y∈xs,y.leaves.length=sz) (hone:(Zg xs).all AV.one=true) (hne:xs≠[]) (hbound:m+xs.length<=4294967296)
  (hK:∀v':Hd,X7 P n ops B (T.filter fun t=>!Vs ops i t.1) fuel (done++[i]) (F.put (ZV ops i).dst (.h v')) (rK v' sz (ls++Zg xs)::XC [j] h)) (hk0:0<sz:=by omega) (hk:Xo n ops F i=true:=by kernel_rfl)
  (ha:TO P ops F i=some (.h v,.sl xs hx,sz):=by kernel_rfl) (hp:Wb [j] h=some [rK v sz ls]:=by kernel_rfl) (ho:UI ops i T=bs:=by kernel_rfl)
  (hj:js.map (fun q=>(V2 (XC [j] h))[q]?)=bs.map some:=by kernel_rfl):VZ P n ops B T fuel done F h i:=
 Ad [j] js bs hk (VM hp) ho hj (RE (h2:=[]) (UJ hk).2.1 ha hxs hone hm0 hk0 hne hbound hK)
end
theorem WZ.form {P:Program} {f:FuncId} {as1:List AV} {h0:List Res} {T:Hd->AV} {kk m:Nat} {ls:List AV} {hs:List Res} (H:WZ P f as1 h0 (fun r h=>∃v:Hd,r=T v/\h=rK v kk ls::hs)) (hm:ls.length=m*kk) (hk:0<kk) (h1:0<m) :
  WZ P f as1 h0 (fun r h=>∃(g c:Nat),r=T ⟨some ⟨g,0,none⟩,m,c⟩/\h=rK ⟨some ⟨g,0,none⟩,m,c⟩ kk ls::hs):=by
 intro w G vs hv hh
 refine (H w G vs hv hh).mono ?_
 rintro e w' ⟨u,r,h',G',he,⟨v,rfl,rfl⟩,hr,hh',hx⟩
 obtain ⟨g,c,rfl⟩:=Mn (hh'.ok _ (Xa ..)) hm hk h1
 exact ⟨u,_,_,G',he,⟨g,c,rfl,rfl⟩,hr,hh',hx⟩
end Go.Abs
namespace Go.Abs
section
variable {h:List Res}
theorem Zho (j i p:Nat) {u:Value} {kk b:Nat} {es ls:List AV} (hp:Wb [j,i] h=some [.row u kk (Zg es),.obj b ls]) (hes:∀y∈es,y.leaves.length=kk) (hk:0<kk) (hl:ls[p]? = some (.val u)) :
  Vi h (.obj b (ls.set p (.sl es (some u)))::.tail u kk::XC [j,i] h):=by
 intro w G hh
 have hp':=Uo (VM hp)
 have hh':=hh.perm hp'
 obtain ⟨G',h1,h2',h3⟩:=E3 (h2:=.obj b ls::XC [j,i] h) hh' hes hk
 have e:=h2'.perm hp'.symm (TI _)
 have h1:YK w G' (.tail u kk::.obj b ls::XC [j,i] h):=h1
 have perm:(Res.tail u kk::.obj b ls::XC [j,i] h).Perm (.obj b ls::.tail u kk::XC [j,i] h):=List.Perm.swap ..
 have h4:=h1.perm perm
 have e4:=e.perm (TI _) perm
 have hset:∀{w:World} {G:Ym},RV w G (.sl es (some u)) u->QQ w G (.obj b ls)->QQ w G (.obj b (ls.set p (.sl es (some u)))):=by
  intro w G hu hr
  obtain ⟨cs,el,k1,k5⟩:=hr
  refine ⟨cs,el,k1,?_⟩
  obtain ⟨c,c1,c2⟩:=k5.get p _ hl
  have:=c2.val_inv
  subst this
  have h6:=k5.set p hu
  rwa [show cs.toList.set p c=cs.toList from by
   apply List.ext_getElem?
   intro q
   rw [List.getElem?_set]
   split
   ·rename_i hq;subst hq;split
    ·exact c1.symm
    ·rename_i hq2;rw [Kl om]
   ·rfl] at h6
 refine ⟨G',⟨fun r hr=>?_,?_,fun r hr=>?_,h4.lt⟩,⟨e4.os,e4.tape,e4.output,e4.size,e4.sub,e4.same,e4.newG,fun b' o hb ⟨r,hr,hf⟩=>e4.newfp b' o hb ?_⟩⟩
 ·rcases YN.1 hr with rfl|hr
  ·exact hset h3 (h4.ok _ (Xa ..))
  ·exact h4.ok r (Xj _ hr)
 ·have:=Vg.1 h4.apart
  exact Vg.2 ⟨fun r hr b' o f1 f2=>this.1 r hr b' o f1 f2,this.2⟩
 ·rcases YN.1 hr with rfl|hr
  ·exact fun b' o f1 hg=>h4.prot (.obj b ls) (Xa ..) b' o f1 hg
  ·exact h4.prot r (Xj _ hr)
 ·rcases YN.1 hr with rfl|hr
  ·exact ⟨.obj b ls,Xa ..,hf⟩
  ·exact ⟨r,Xj _ hr,hf⟩
theorem Uy (j i p:Nat) (u:Value) (kk b:Nat) (es ls:List AV) (hes:∀y∈es,y.leaves.length=kk) (hl:ls[p]? = some (.val u)) (hk:0<kk:=by omega) (hp:Wb [j,i] h=some [.row u kk (Zg es),.obj b ls]:=by kernel_rfl) :
  Vi h (.obj b (ls.set p (.sl es (some u)))::.tail u kk::XC [j,i] h):=Zho j i p hp hes hk hl
end
end Go.Abs
namespace Go.Abs
section
variable {P:Program} {n:Nat} {ops:Array Oper} {k:Nat} {F:Fr} {h:List Res}
theorem Zh7 (j:Nat) {g l c m kk:Nat} {ls:List AV} (hi:E6 P ops F k=some (.val (.slice (some ⟨g,0,none⟩) l c),(m:Int))) (hj:h[j]? = some (.row (.slice (some ⟨g,0,none⟩) l c) kk ls)) (hle:m<=l) :
  XY P (ZV ops k) F h [] (.val (.slice (some ⟨g,0,none⟩) m c)):=by
 unfold E6 at hi
 generalize hoo:ZV ops k=o at hi
 obtain ⟨dst,op,type,pos,after,guard⟩:=o
 cases op<;>simp only at hi<;>try (cases hi)
 rename_i t x lo hi' mx
 cases lo with
 | some _=>simp at hi
 | none=>
  cases hi' with
  | none=>simp at hi
  | some y=>
   cases mx with
   | some _=>simp at hi
   | none=>
    simp only at hi
    split at hi
    ·rename_i e ht
     split at hi
     ·rename_i inf hinf
      split at hi
      ·rename_i ik m' hm
       simp only [Wp,Prod.mk.injEq] at hi
       obtain ⟨hx,rfl⟩:=hi
       intro n w G a hF hh
       have v1:=hF.ev x
       rw [hx] at v1
       have v1:=v1.val_inv
       have v2:=hF.ev y
       rw [hm] at v2
       have v2:=v2.val_inv
       have hcap:l<=c:=by
        rcases hh.ok _ (Y3 hj) with ⟨h0,_⟩|⟨g',l',c',cur,el,h0,_,hc,_⟩
        ·cases h0
        ·cases h0;exact hc
       refine ⟨_,.val,fun w' _ _=>?_⟩
       simp only [execOp,v1,v2,FV,Option.map_none]
       refine VF ?_
       simp only [Instr.sliceAt,Sem.run_bind,Uq ht,Result.andThen_ok,Instr.slice]
       have hmm:(Instr.sliceBounds true l c none (some (.int ik (m:Int))) none).run P w'=.ok (0,m,c) w':=by
        have ZC:=fun q=>Fz (P:=P) (c:=q) (v:=.int ik (m:Int)) (y:=c) rfl om om w'
        simp [Instr.sliceBounds,ZC]
       rw [hmm]
       have hz:∀a:Addr,a.add 0=a:=fun a=>by simp [Addr.add]
       simp only [Result.andThen_ok,Qq hinf,Nat.zero_mul,hz]
       by_cases h0:c=0<;>simp [h0]
      ·cases hi
     ·cases hi
    ·cases hi
theorem PS (j g l c m kk:Nat) (ls:List AV) (hle:m<=l:=by omega) (hi:E6 P ops F k=some (.val (.slice (some ⟨g,0,none⟩) l c),(m:Int)):=by kernel_rfl) (hj:h[j]? = some (.row (.slice (some ⟨g,0,none⟩) l c) kk ls):=by kernel_rfl) :
  XY P (ZV ops k) F h [] (.val (.slice (some ⟨g,0,none⟩) m c)):=Zh7 j hi hj hle
variable {B:Fr->List Res->Prop}
end
end Go.Abs
end
namespace Go.Abs
theorem Yk {α:Type} {xs:List α} {k:Nat} {x:α} (h:xs[k]? = some x):xs.drop k=x::xs.drop (k+1):=by
 have hk:=(Xh.1 h).1
 rw [MY hk]
 congr 1
 rw [D9 hk] at h
 exact Da h
theorem Xm {α:Type} {xs:List α} {k:Nat} (h:xs.length<=k):xs.drop k=[]:=MZ h
theorem V5 {α:Type} {xs:List α} {k:Nat} {x:α} (h:xs[k]? = some x):xs.take (k+1)=xs.take k++[x]:=by
 rw [List.take_add_one,h];rfl
def YJ:List Zb->Nat
 | []=>0
 | d::ds=>d.cons.length+YJ ds
theorem Di (xs ys:List Zb):YJ (xs++ys)=YJ xs+YJ ys:=by
 induction xs with
 | nil=>simp [YJ]
 | cons d ds ih=>simp [YJ,ih];omega
structure Xr (ds:List Zb):Prop where
 len:ds.length<=4
 cons:∀d∈ds,d.cons.length<=3
 fields:∀d∈ds,∀c∈d.cons,c.fields.length<=3
theorem Z4g {ds:List Zb} {m:Nat} (h:∀d∈ds,d.cons.length<=m):YJ ds<=ds.length*m:=by
 induction ds with
 | nil=>simp [YJ]
 | cons d ds ih=>
  have h1:=h d (by simp)
  have h2:=ih (fun x hx=>h x (by simp [hx]))
  simp only [YJ,Yo,TJ];omega
theorem Xr.sum {ds:List Zb} (h:Xr ds):YJ ds<=12:=by
 have:=Z4g h.cons
 have:=h.len
 have:ds.length*3<=4*3:=Jo 3 h.len
 omega
theorem Xr.take {ds:List Zb} (h:Xr ds) (k:Nat):Xr (ds.take k):=
 ⟨by have:=h.len;simp;omega,fun d hd=>h.cons d (QP hd),fun d hd=>h.fields d (QP hd)⟩
theorem Xr.cons_at {ds:List Zb} (h:Xr ds) {k:Nat} {d:Zb} (hd:ds[k]? = some d):d.cons.length<=3:=h.cons d (Y3 hd)
theorem Xr.fields_at {ds:List Zb} (h:Xr ds) {k j:Nat} {d:Zb} {c:Yd} (hd:ds[k]? = some d) (hc:d.cons[j]? = some c):c.fields.length<=3:=
 h.fields d (Y3 hd) c (Y3 hc)
def Us (c:Int):List Zb->Nat->Nat->Int × LI
 | [],_,_=>(-1,[])
 | d::ds,i,first=>
  if (first:Int)<=c/\c<=((first+d.cons.length:Nat):Int)-1 then ((i:Int)+1,(d.cons[(c-first).toNat]?.map (·.fields)).getD []) else Us c ds (i+1) (first+d.cons.length)
def Wm (ds:List Zb) (c:Int):Int:=(Us c ds 0 0).1
def ZP (ds:List Zb) (c:Int):LI:=(Us c ds 0 0).2
theorem Gh {c:Int}:∀{ds:List Zb} {i first:Nat},(Us c ds i first=(-1,[]) ∨
  ∃k d x,ds[k]? = some d/\(first+YJ (ds.take k):Int)<=c/\c<first+YJ (ds.take k)+d.cons.length/\d.cons[(c-(first+YJ (ds.take k))).toNat]? = some x/\Us c ds i first=((i:Int)+k+1,x.fields))
 | [],_,_=>.inl rfl
 | d::ds,i,first=>by
  rw [Us]
  split
  ·rename_i h
   have hlt:(c-first).toNat<d.cons.length:=by omega
   refine .inr ⟨0,d,d.cons[(c-first).toNat],rfl,by simp [YJ];omega,by simp [YJ];omega,?_,?_⟩
   ·simp [YJ]
   ·rw [D9 hlt];simp
  ·rcases Gh (c:=c) (ds:=ds) (i:=i+1) (first:=first+d.cons.length) with h|⟨k,e,x,h1,h2,h3,h4,h5⟩
   ·exact .inl h
   ·refine .inr ⟨k+1,e,x,by simpa using h1,by simp [YJ];omega,by simp [YJ];omega,?_,?_⟩
    ·rw [<-h4];congr 3;simp [YJ];omega
    ·rw [h5];congr 1;omega
theorem IA {ds:List Zb} {c:Int} (h:¬Wm ds c<1) :
  ∃k d x,ds[k]? = some d/\(YJ (ds.take k):Int)<=c/\d.cons[(c-YJ (ds.take k)).toNat]? = some x/\Wm ds c=(k:Int)+1/\ZP ds c=x.fields:=by
 rcases Gh (c:=c) (ds:=ds) (i:=0) (first:=0) with h1|⟨k,d,x,h1,h2,_,h4,h5⟩
 ·simp [Wm,h1] at h
 ·exact ⟨k,d,x,h1,by simpa using h2,by simpa using h4,by simp [Wm,h5],by simp [ZP,h5]⟩
theorem NI {ds:List Zb} {c:Int} (h:Wm ds c<1):ZP ds c=[]/\Wm ds c=-1:=by
 rcases Gh (c:=c) (ds:=ds) (i:=0) (first:=0) with h1|⟨k,d,x,h1,h2,_,h4,h5⟩
 ·simp [ZP,Wm,h1]
 ·simp [Wm,h5] at h;omega
def VV (first:Int):Nat->LI
 | 0=>[]
 | n+1=>first::VV (first+1) n
theorem Ru (first:Int) (n:Nat):VV first (n+1)=VV first n++[first+n]:=by
 induction n generalizing first with
 | zero=>simp [VV]
 | succ n ih=>rw [VV,ih (first+1),VV];simp;omega
@[simp] theorem Zc9 (first:Int) (n:Nat):(VV first n).length=n:=by
 induction n generalizing first with
 | zero=>rfl
 | succ n ih=>simp [VV,ih]
def ZZ (ds:List Zb) (t:Int):LI:=
 if 1<=t/\t<=ds.length then VV (YJ (ds.take (t-1).toNat)) (((ds[(t-1).toNat]?).map (·.cons.length)).getD 0) else []
def Df (frm to_:Int):List Zb->Nat->Int
 | [],_=>-1
 | d::ds,i=>if d.cons.length=0/\d.frm=frm/\d.to_=to_ then (i:Int)+1 else Df frm to_ ds (i+1)
def A1 (ds:List Zb) (frm to_:Int):Int:=Df frm to_ ds 0
def VU (ds:List Zb) (t:Int):Bool:=decide (1<=t/\t<=ds.length)&&((ds[(t-1).toNat]?).map fun d=>decide (d.cons.length=0)).getD false
theorem PP {ds:List Zb} {t:Int} {x:Zb} (h:1<=t/\t<=ds.length) (hx:ds[(t-1).toNat]? = some x):((x.cons.length:Int)==0)=VU ds t:=by
 rw [VU,hx,Yg];simp [h]
theorem PO {ds:List Zb} {t:Int} (h:¬(1<=t/\t<=ds.length)):false=VU ds t:=by
 rw [VU,Yg];simp only [Bool.false_eq_true,Xb,decide_eq_true_eq,h,false_and]
def Wk (m:Nat) (xs:LI):Bool:=xs.all fun t=>decide (0<=t/\t<=m)
end Go.Abs
section
namespace Go.Abs
section
variable {h:List Res}
end
end Go.Abs
namespace Go.Abs
section
variable {P:Program} {ops:Array Oper} {k:Nat} {F:Fr} {h:List Res}
def M8 (ops:Array Oper) (F:Fr) (k:Nat):Option (Int × Int):=
 match (ZV ops k).op with
 | .call c=>match c.callee,c.args.toList with
  | .builtin .max,[x,y]=>match F.ev x,F.ev y with
   | .val (.int .i64 a),.val (.int .i64 b)=>some (a,b)
   | _,_=>none
  | _,_=>none
 | _=>none
theorem Zh4 {a b:Int} (hl:M8 ops F k=some (a,b)):XY P (ZV ops k) F h [] (.i (max a b)):=by
 unfold M8 at hl
 generalize hoo:ZV ops k=o at hl
 obtain ⟨dst,op,type,pos,after,guard⟩:=o
 cases op<;>simp only at hl<;>try (cases hl)
 rename_i c
 obtain ⟨callee,args,tys⟩:=c
 simp only at hl
 split at hl
 case h_2=>cases hl
 rename_i x y hargs
 split at hl
 case h_2=>cases hl
 rename_i u v hx hy
 cases hl
 have e1:args=#[x,y]:=by rw [<-UY (xs:=args),hargs]
 subst e1
 intro n w G a' hF hh
 have vx:=hF.ev x
 have vy:=hF.ev y
 rw [hx] at vx
 rw [hy] at vy
 have vx:=vx.val_inv
 have vy:=vy.val_inv
 refine ⟨_,.val,fun w' _ _=>?_⟩
 simp only [execOp,resolve,invoke,builtin,Sem.run_bind,Sem.run_pure,Result.andThen_ok,FP,Tk,FM,vx,vy]
 have e:(if b>a then b else a)=max a b:=by
  rw [Int.max_def]
  split<;>split<;>omega
 simp [Builtin.max_,Builtin.max2,Sem.run_pure,List.foldlM,e]
theorem GZ (a b:Int) (ha:M8 ops F k=some (a,b):=by kernel_rfl):XY P (ZV ops k) F h [] (.i (max a b)):=Zh4 ha
end
end Go.Abs
end
namespace Go.Abs
section
variable {P:Program} {n:Nat} {ops:Array Oper} {B:Fr->List Res->Prop} {k:Nat} {F:Fr} {h:List Res} {T:List (Nat × List Nat)} {fuel:Nat} {done:List Nat}
theorem RG {K:Fr->List Res->Prop} {ls:List AV} {len sz:Nat} (hd:VS n (ZV ops k)=true) (ha:Ts P ops F k=some (ls,len,sz)) (hlen:ls.length=len*sz)
  (hK:∀g,K (F.put (ZV ops k).dst (.val (.slice (some ⟨g,0,none⟩) len len))) (.row (.slice (some ⟨g,0,none⟩) len len) sz ls::h)):WO P n (ZV ops k) F h K:=by
 unfold Ts at ha
 generalize hoo:ZV ops k=q at ha hd hK
 obtain ⟨dst,op,type,pos,after,guard⟩:=q
 cases op<;>simp only at ha<;>try (cases ha)
 rename_i t ln parts
 split at ha
 case h_2=>cases ha
 rename_i e ht
 split at ha
 case h_2=>cases ha
 rename_i i hi
 split at ha
 case h_2=>cases ha
 rename_i hc
 simp only [Xb] at hc
 split at ha
 case h_2=>cases ha
 rename_i ls' hf
 simp only [Wp,Prod.mk.injEq] at ha
 obtain ⟨rfl,rfl,XO⟩:=ha
 intro Q w G a hF hh
 obtain ⟨cs,h1,h2⟩:=HD hF parts ht hi rfl hc.1 hc.2 hf
 have hr:(execOp a.eval { dst:=dst,op:=.buildSlice t ln parts,type:=type,pos:=pos,after:=after,guard:=guard }).run P w =
   .ok (.value (.slice (some ⟨w.heap.size,0,none⟩) ln ln)) (w.alloc (.cells cs e)):=by
  simp only [execOp]
  exact VF h2
 unfold Oper.wp
 rw [hr]
 have hlc:=h1.length
 simp only [JT] at hlc
 obtain ⟨j1,j2⟩:=hh.alloc_rrow cs e (ls:=ls') (len:=ln) (cap:=ln) (k:=sz) (X0 _) (by rw [hlc];exact hlen) hlen (by rw [<-hlen,<-hlc];simpa [WI] using h1)
 exact ⟨_,_,G,hK _,(hF.mono (j2.agree hh)).put (TQ hd) .val,j1,j2⟩
theorem UH (es es':List AV) (he:es=es') (len sz:Nat) (hK:∀v,SI P n ops B (k+1) (F.put (ZV ops k).dst (.sl es' (some v))) (.tail v sz::h)) (hk:Xo n ops F k=true:=by kernel_rfl)
  (ha:Ts P ops F k=some (Zg es,len,sz):=by kernel_rfl) (hlen:es.length=len:=by kernel_rfl) (hall:AL es sz=true:=by kernel_rfl):SI P n ops B k F h:=by
 subst he;exact iL es len sz hK hk ha hlen hall
theorem WC (i:Nat) (js bs:List Nat) (es es':List AV) (he:es=es') (len sz:Nat) (hK:∀v,X7 P n ops B (T.filter fun t=>!Vs ops i t.1) fuel (done++[i]) (F.put (ZV ops i).dst (.sl es' (some v))) (.tail v sz::h))
  (hk:Xo n ops F i=true:=by kernel_rfl) (ha:Ts P ops F i=some (Zg es,len,sz):=by kernel_rfl) (hlen:es.length=len:=by kernel_rfl) (hall:AL es sz=true:=by kernel_rfl)
  (ho:UI ops i T=bs:=by kernel_rfl) (hj:js.map (fun j=>(V2 h)[j]?)=bs.map some:=by kernel_rfl):VZ P n ops B T fuel done F h i:=by
 subst he;exact dL i js bs es len sz hK hk ha hlen hall ho hj
theorem iKN (ls:List AV) (len sz:Nat) (hK:∀g,SI P n ops B (k+1) (F.put (ZV ops k).dst (.val (.slice (some ⟨g,0,none⟩) len len))) (.row (.slice (some ⟨g,0,none⟩) len len) sz ls::h)) (hlen:ls.length=len*sz:=by rfl) (hk:Xo n ops F k=true:=by kernel_rfl)
  (ha:Ts P ops F k=some (ls,len,sz):=by kernel_rfl):SI P n ops B k F h:=QC hk (RG (UJ hk).2.1 ha hlen hK)
theorem dKN (i:Nat) (js bs:List Nat) (ls:List AV) (len sz:Nat) (hK:∀g,X7 P n ops B (T.filter fun t=>!Vs ops i t.1) fuel (done++[i]) (F.put (ZV ops i).dst (.val (.slice (some ⟨g,0,none⟩) len len))) (.row (.slice (some ⟨g,0,none⟩) len len) sz ls::h)) (hlen:ls.length=len*sz:=by rfl)
  (hk:Xo n ops F i=true:=by kernel_rfl) (ha:Ts P ops F i=some (ls,len,sz):=by kernel_rfl) (ho:UI ops i T=bs:=by kernel_rfl) (hj:js.map (fun j=>(V2 h)[j]?)=bs.map some:=by kernel_rfl):VZ P n ops B T fuel done F h i:=
 Ad (h1:=[]) (h2:=h) [] js bs hk rfl ho hj (RG (UJ hk).2.1 ha hlen hK)
end
theorem WZ.frz {P:Program} {f:FuncId} {as1:List AV} {h0:List Res} {E:Type} {kk:Nat} {es:E->List AV} {hs:E->List Res} {Q:E->Prop} (H:WZ P f as1 h0 (fun r h=>∃(e:E) (v:Hd),r=.h v/\h=rK v kk (Zg (es e))::hs e/\Q e)) (hes:∀e,∀y∈es e,y.leaves.length=kk) (hk:0<kk) :
  WZ P f as1 h0 (fun r h=>∃(e:E) (v:Value),r=.sl (es e) (some v)/\h=.tail v kk::hs e/\Q e):=by
 intro w G vs hv hh
 refine (H w G vs hv hh).mono ?_
 rintro e w' ⟨u,r,h',G',he,⟨x,v,rfl,rfl,hq⟩,hr,hh',hx⟩
 obtain ⟨G2,h1,h2,h3⟩:=E3 hh' (hes x) hk
 have hrv:=hr.val_inv
 subst hrv
 exact ⟨_,_,_,G2,he,⟨x,v.v,rfl,rfl,hq⟩,h3,h1,hx.trans h2⟩
theorem Lm {es:List AV} {sz k:Nat} {y:AV} (h:∀x∈es,x.leaves.length=sz) (hy:y.leaves.length=sz) (hk:k<es.length):(Zg es).take (k*sz)++y.leaves++(Zg es).drop (k*sz+y.leaves.length)=Zg (es.set k y):=by
 obtain ⟨x,hx⟩:=B1 (xs:=es) (j:=k) hk
 have hxl:=h x (Y3 hx)
 have e1:es=es.take k++(x::es.drop (k+1)):=by rw [<-Yk hx,TA]
 have e2:es.set k y=es.take k++(y::es.drop (k+1)):=by rw [I9,Zk hk]
 have hl:(Zg (es.take k)).length=k*sz:=by rw [TE (k:=sz) _ (fun z hz=>h z (QP hz)),Wi,Uc om]
 have e3:Zg es=Zg (es.take k)++(x.leaves++Zg (es.drop (k+1))):=by
  conv=>lhs;rw [e1,KZ]
  simp [Zg]
 rw [e2,KZ,e3,Mo hl (by rw [hxl,hy])]
 simp [Zg]
theorem Z5c (ds:List Zb) (k:Nat) (d:Zb):YS (ds.set k d)=(YS ds).set k (En d):=by simp [YS,List.map_set]
theorem Cy (xs:List Zb):(Zg (YS xs)).length=xs.length*3:=by rw [TE (k:=3) _ (Qv xs)];simp
theorem GF {ds:List Zb} {k:Nat} (d:Zb) (hk:k<ds.length):(Zg (YS ds)).take (k*3)++BK d++(Zg (YS ds)).drop (k*3+3)=Zg (YS (ds.set k d)):=by
 rw [Z5c];exact Lm (y:=En d) (Qv ds) rfl (by simpa using hk)
theorem Li (xs ys:List Zb):Zg (YS xs)++Zg (YS ys)=Zg (YS (xs++ys)):=by rw [NX,KZ]
section
variable {P:Program} {n:Nat} {ops:Array Oper} {B:Fr->List Res->Prop} {k:Nat} {F:Fr} {h:List Res}
theorem ER (j m:Nat) {v:Hd} {kk:Nat} {ls:List AV} (hm:ls.length=m*kk) (h0:0<m) (H:∀g c',v=⟨some ⟨g,0,none⟩,m,c'⟩->SI P n ops B k F h) (hk:0<kk:=by omega) (hj:h[j]? = some (rK v kk ls):=by kernel_rfl):SI P n ops B k F h:=by
 intro Q w G a hF hh hq
 obtain ⟨g,c',e⟩:=Mn (hh.ok _ (Y3 hj)) hm hk h0
 exact H g c' e Q w G a hF hh hq
end
section
variable {P:Program} {n:Nat} {ops:Array Oper} {B:Fr->List Res->Prop} {k:Nat} {F:Fr} {h:List Res}
def IC (P:Program) (ops:Array Oper) (F:Fr) (k:Nat):Option (IntKind × Int):=
 match (ZV ops k).op with
 | .convert s d x=>match P.underlying s,P.underlying d,F.ev x with
  | some (.int _),some (.int q),.val (.int _ z)=>some (q,z)
  | _,_,_=>none
 | _=>none
theorem kCv (q:IntKind) (z z':Int) (e:q.wrap z=z') (hc:IC P ops F k=some (q,z):=by kernel_rfl):XY P (ZV ops k) F h [] (.val (.int q z')):=by
 unfold IC at hc
 generalize hoo:ZV ops k=o at hc
 obtain ⟨dst,op,type,pos,after,guard⟩:=o
 cases op<;>simp only at hc<;>try (cases hc)
 rename_i s d x
 split at hc
 ·rename_i q1 q2 q3 z2 h1 h2 h3
  cases hc
  intro n w G ac hF hh
  have v1:=hF.ev x
  rw [h3] at v1
  have v1:=v1.val_inv
  refine ⟨_,.val,fun w' _ _=>?_⟩
  simp only [execOp,v1]
  refine VF ?_
  simp [convert,Uq h1,Uq h2,Conv.intToInt,e]
 ·cases hc
theorem MX {z:Int} (h:0<=z/\z<=9223372036854775807):IntKind.i64.wrap z=z:=IntWalk.i64_in _ om
theorem LS (z:Int) (hz:0<=z/\z<=255) (hc:IC P ops F k=some (.i64,z):=by kernel_rfl):XY P (ZV ops k) F h [] (.i z):=kCv .i64 z z (MX om) hc
def Bu (ops:Array Oper) (F:Fr) (k:Nat) (b:BinOp):Option (Int × Int):=
 match (ZV ops k).op with
 | .binOp c _ x y _=>if c==b then match F.ev x,F.ev y with
  | .val (.int .i64 z),.val (.int .i64 u)=>some (z,u)
  | _,_=>none else none
 | _=>none
theorem H0 (a b:Int) (hb:0<b) (ha:0<=a/\a<=9223372036854775807) (hc:Bu ops F k .quo=some (a,b):=by kernel_rfl):XY P (ZV ops k) F h [] (.i (a / b)):=by
 unfold Bu at hc
 generalize hoo:ZV ops k=o at hc
 obtain ⟨dst,op,type,pos,after,guard⟩:=o
 cases op<;>simp only at hc<;>try (cases hc)
 rename_i bop t x y yt
 cases bop<;>simp only [Ze,reduceCtorEq,if_false,if_true] at hc<;>try (cases hc)
 split at hc
 ·rename_i z yk h1 h2
  cases hc
  intro n' w G ac hF hh
  have v1:=hF.ev x
  have v2:=hF.ev y
  rw [h1] at v1
  rw [h2] at v2
  have v1:=v1.val_inv
  have v2:=v2.val_inv
  refine ⟨_,.val,fun w' _ _=>?_⟩
  simp only [execOp,v1,v2]
  refine VF ?_
  have e1:a.tdiv b=a / b:=Int.tdiv_eq_ediv_of_nonneg ha.1
  have e2:IntKind.i64.wrap (a / b)=a / b:=MX ⟨Int.ediv_nonneg ha.1 om,Int.le_trans (Int.ediv_le_self b ha.1) ha.2⟩
  have e3:b≠0:=by omega
  simp [eqGuard,binOp,Op.intDiv,e1,e2,e3]
 ·cases hc
theorem F3 (a b:Int) (hb:0<b) (ha:0<=a) (hc:Bu ops F k .rem=some (a,b):=by kernel_rfl):XY P (ZV ops k) F h [] (.i (a % b)):=by
 unfold Bu at hc
 generalize hoo:ZV ops k=o at hc
 obtain ⟨dst,op,type,pos,after,guard⟩:=o
 cases op<;>simp only at hc<;>try (cases hc)
 rename_i bop t x y yt
 cases bop<;>simp only [Ze,reduceCtorEq,if_false,if_true] at hc<;>try (cases hc)
 split at hc
 ·rename_i z yk h1 h2
  cases hc
  intro n' w G ac hF hh
  have v1:=hF.ev x
  have v2:=hF.ev y
  rw [h1] at v1
  rw [h2] at v2
  have v1:=v1.val_inv
  have v2:=v2.val_inv
  refine ⟨_,.val,fun w' _ _=>?_⟩
  simp only [execOp,v1,v2]
  refine VF ?_
  have e1:a.tmod b=a % b:=Int.tmod_eq_emod_of_nonneg ha
  have e3:b≠0:=by omega
  simp [eqGuard,binOp,Op.intDiv,e1,e3]
 ·cases hc
theorem CI (a b:Nat) (hb:0<b) (ha:a<=9223372036854775807) (hc:Bu ops F k .quo=some ((a:Int),(b:Int)):=by kernel_rfl):XY P (ZV ops k) F h [] (.i (a / b:Nat)):=by
 rw [Int.natCast_ediv];exact H0 a b om om hc
theorem PU (a b:Nat) (hb:0<b) (_ha:a<=9223372036854775807) (hc:Bu ops F k .rem=some ((a:Int),(b:Int)):=by kernel_rfl):XY P (ZV ops k) F h [] (.i (a % b:Nat)):=by
 rw [Int.natCast_emod];exact F3 a b om om hc
def Eh (a b:Int):Int:=IntKind.i64.wrap ((BitVec.ofInt 64 a ^^^ BitVec.ofInt 64 b).toNat:Int)
theorem Z1z {a b:Int} (ha:0<=a/\a<4611686018427387904) (hb:0<=b/\b<4611686018427387904):0<=Eh a b/\Eh a b<4611686018427387904:=by
 obtain ⟨x,rfl⟩:=Int.eq_ofNat_of_zero_le ha.1
 obtain ⟨y,rfl⟩:=Int.eq_ofNat_of_zero_le hb.1
 have h1:(BitVec.ofInt 64 (x:Int) ^^^ BitVec.ofInt 64 (y:Int)).toNat=x ^^^ y:=by
  rw [BitVec.toNat_xor,BitVec.toNat_ofInt,BitVec.toNat_ofInt]
  have e1:((x:Int) % ((2 ^ 64:Nat):Int)).toNat=x:=by omega
  have e2:((y:Int) % ((2 ^ 64:Nat):Int)).toNat=y:=by omega
  rw [e1,e2]
 have h2:x ^^^ y<2 ^ 62:=Nat.xor_lt_two_pow om om
 rw [Eh,h1,MX om]
 omega
theorem Zay (a b:Int) (hc:Bu ops F k .xor=some (a,b):=by kernel_rfl):XY P (ZV ops k) F h [] (.i (Eh a b)):=by
 unfold Bu at hc
 generalize hoo:ZV ops k=o at hc
 obtain ⟨dst,op,type,pos,after,guard⟩:=o
 cases op<;>simp only at hc<;>try (cases hc)
 rename_i bop t x y yt
 cases bop<;>simp only [Ze,reduceCtorEq,if_false,if_true] at hc<;>try (cases hc)
 split at hc
 ·rename_i z yk h1 h2
  cases hc
  intro n' w G ac hF hh
  have v1:=hF.ev x
  have v2:=hF.ev y
  rw [h1] at v1
  rw [h2] at v2
  have v1:=v1.val_inv
  have v2:=v2.val_inv
  refine ⟨_,.val,fun w' _ _=>?_⟩
  simp only [execOp,v1,v2]
  refine VF ?_
  simp [eqGuard,binOp,Op.intBits,IntKind.bits]
  exact Yl (fun z:Nat=>IntKind.i64.wrap (z:Int)) (by rw [BitVec.toNat_xor,BitVec.toNat_ofInt,BitVec.toNat_ofInt];rfl)
 ·cases hc
end
end Go.Abs
section
namespace Go.Abs
inductive Z2 where
 | mk (op num:Int) (kids:List Z2)
namespace Z2
def op:Z2->Int|.mk a _ _=>a
def num:Z2->Int|.mk _ a _=>a
def kids:Z2->List Z2|.mk _ _ a=>a
end Z2
structure Func where
 params:LI
 result:Int
 body:Z2
structure W8 where
 decls:List Zb
 funcs:List Func
instance:Inhabited Z2:=⟨.mk 0 0 []⟩
mutual
def IT:Z2->AV
 | .mk op num kids=>.agg [.i op,.i num,.sl (Yy kids) none]
def Yy:List Z2->List AV
 | []=>[]
 | e::r=>IT e::Yy r
end
abbrev Yb (e:Z2):AV:=.agg [.i e.op,.i e.num,.sl (Yy e.kids) none]
abbrev YY (e:Z2):List AV:=[.i e.op,.i e.num,.sl (Yy e.kids) none]
abbrev XA (xs:List Z2):AV:=.sl (Yy xs) none
abbrev QG (xs:List Z2) (v:Value):AV:=.sl (Yy xs) (some v)
abbrev Eo (f:Func):AV:=.agg [Z4 f.params,.i f.result,.i f.body.op,.i f.body.num,XA f.body.kids]
abbrev H3 (f:Func):List AV:=[Z4 f.params,.i f.result,.i f.body.op,.i f.body.num,XA f.body.kids]
def Xt (xs:List Func):List AV:=xs.map Eo
abbrev Hc (xs:List Func):AV:=.sl (Xt xs) none
abbrev AK (p:W8):AV:=.agg [Ye p.decls,Hc p.funcs]
abbrev LU (p:W8):List AV:=[Ye p.decls,Hc p.funcs]
abbrev Ik (z:Int):AV:=.val (.int .u8 z)
def TR (xs:LI):List AV:=xs.map Ik
abbrev Um (xs:LI):AV:=.sl (TR xs) none
theorem Z5d (e:Z2):IT e=Yb e:=by cases e;rw [IT];rfl
theorem XQ:∀xs:List Z2,Yy xs=xs.map Yb
 | []=>by rw [Yy];rfl
 | s::ss=>by rw [Yy,XQ ss,Z5d];rfl
theorem Dq {xs:List Z2} {j:Nat} {x:Z2} (h:xs[j]? = some x):(Yy xs)[j]? = some (Yb x):=by simp [XQ,h]
theorem Gl {xs:List Func} {j:Nat} {x:Func} (h:xs[j]? = some x):(Xt xs)[j]? = some (Eo x):=by simp [Xt,h]
theorem IN {xs:LI} {j:Nat} {x:Int} (h:xs[j]? = some x):(TR xs)[j]? = some (Ik x):=by simp [TR,h]
@[simp] theorem IU (xs:List Z2):(Yy xs).length=xs.length:=by simp [XQ]
@[simp] theorem Dr (xs:List Func):(Xt xs).length=xs.length:=by simp [Xt]
@[simp] theorem Ct (xs:LI):(TR xs).length=xs.length:=by simp [TR]
theorem Ae (xs ys:List Z2):Yy (xs++ys)=Yy xs++Yy ys:=by simp [XQ]
theorem Z5e (xs ys:List Func):Xt (xs++ys)=Xt xs++Xt ys:=by simp [Xt]
theorem IP (xs:LI) (n:Nat):(TR xs).take n=TR (xs.take n):=by simp [TR]
theorem IM (xs:LI) (n:Nat):(TR xs).drop n=TR (xs.drop n):=by simp [TR]
theorem T7 (xs:List Z2):∀y∈Yy xs,y.leaves.length=3:=by intro y hy;simp only [XQ,XH] at hy;obtain ⟨x,_,rfl⟩:=hy;rfl
theorem Gm (xs:List Func):∀y∈Xt xs,y.leaves.length=5:=by intro y hy;simp only [Xt,XH] at hy;obtain ⟨x,_,rfl⟩:=hy;rfl
theorem Z5a (xs:LI):∀y∈TR xs,y.leaves.length=1:=by intro y hy;simp only [TR,XH] at hy;obtain ⟨x,_,rfl⟩:=hy;rfl
theorem Af (xs:List Z2):(Zg (Yy xs)).all AV.one=true:=J0 fun y hy=>by simp only [XQ,XH] at hy;obtain ⟨x,_,rfl⟩:=hy;rfl
end Go.Abs
end
section
namespace Go.Abs
open Go.Proofs Go.Proofs.YtamhpednblociaaGreat
section
variable {H:Type} {enc:TypeId × Value->H} {w:World}
def GA (w:World):Ym:=fun b _=>b<w.heap.size
abbrev Tr (enc:TypeId × Value->H) (w:World) (n:Nat) (t:TypeId) (cs:List Value) (x:DataW H × List MemPlace):Prop:=DataW.trod enc Tryz.prog w 0 (fun _=>true) true n t cs=some x
theorem Rf {w:World} {a:Addr} {v:Value} (h:w.cell? a=some v):a.block<w.heap.size/\a.spot=none:=by
 unfold World.cell? at h
 split at h
 ·rename_i c e fr hb
  split at h
  ·cases h
  ·rename_i hs
   exact ⟨(UP.1 hb).1,by simpa using hs⟩
 ·cases h
theorem Nz {α:Type} {c:α->Nat}:∀{xs:List α} {ds:List (DataW H)},xs.length=ds.length->(∀(i:Nat) a d,xs[i]? = some a->ds[i]? = some d->c a+1<=Rows.uptoBulk d)->(xs.map fun a=>c a+1).sum<=Rows.uptoBulkAll ds
 | [],[],_,_=>X0 _
 | a::r,d::ds,hl,h=>by
  have h0:=h 0 a d rfl rfl
  have h1:=Nz (c:=c) (xs:=r) (ds:=ds) (by simpa using hl) fun i a d ha hd=>h (i+1) a d (by simpa using ha) (by simpa using hd)
  rw [Tk,List.sum_cons,Rows.uptoBulkAll]
  omega
theorem Sp {α:Type} {f:α->AV} {G:Ym} {k b:Nat} (hf:∀x,(f x).leaves.length=k):∀{xs:List α} {o:Nat},(∀(i:Nat) a,xs[i]? = some a->Wv w G b (o+i*k) (f a).leaves)->Vh w G k b o (xs.map f)
 | [],_,_=>.nil
 | x::r,o,h=>by
  refine .cons (hf x) (by have:=h 0 x rfl;simpa using this) (Sp hf fun i a ha=>?_)
  have:=h (i+1) a (by simpa using ha)
  rw [show o+(i+1)*k=o+k+i*k by rw [TJ];omega] at this
  exact this
theorem Zdw {α:Type} [Inhabited α] {t e k:Nat} (ht:Tryz.prog.underlying t=some (.slice e)) (hk:Tryz.prog.cellsOf e=k) (h0:0<k) (f:α->AV) (hf:∀x,(f x).leaves.length=k) (c:α->Nat) (Q:α->Prop) {n:Nat} {cs:List Value} {x:DataW H × List MemPlace}
  (h:Tr enc w n t cs x) (el:∀m cs y,m<n->Tr enc w m e cs y->∃a:α,YT w (GA w) (f a).leaves cs/\c a+1<=Rows.uptoBulk y.1/\Q a) :
  ∃(v:Value) (xs:List α),cs=[v]/\RV w (GA w) (.sl (xs.map f) none) v/\(xs.map fun a=>c a+1).sum+1<=Rows.uptoBulk x.1/\∀a∈xs,Q a:=by
 rcases DataW.trod_slice ht h with ⟨rfl,rfl⟩|⟨a,len,cap,elems,rest,m,rfl,rfl,rfl,_,hlc,_,hlen,hel,_,_⟩
 ·exact ⟨_,[],rfl,.nil (by simp),by simp [Rows.uptoBulk],by simp⟩
 ·rw [hk] at hel
  have hone:∀i,i<len->∃z:α,∃cs' y,w.cells? 0 (a.add (i*k)) k=some cs'/\elems[i]? = some y/\YT w (GA w) (f z).leaves cs'/\c z+1<=Rows.uptoBulk y.1/\Q z:=by
   intro i hi
   have h1:=hel i hi
   rw [D9 om] at h1
   obtain ⟨cs',h2,h3⟩:=Option.bind_eq_some_iff.1 h1
   obtain ⟨z,hz1,hz2,hz3⟩:=el m cs' _ om h3
   exact ⟨z,cs',_,h2,D9 om,hz1,hz2,hz3⟩
  obtain ⟨V,hV⟩:=Go.Deep.choose_lt hone
  refine ⟨_,(List.range len).map V,rfl,?_,?_,?_⟩
  ·cases hl0:len with
   | zero=>exact .nil (by simp)
   | succ q=>
    have hsp:a.spot=none:=by
     obtain ⟨cs',y,g1,_⟩:=hV 0 om
     obtain ⟨_,g2,g3⟩:=World.cells?_some g1
     have g4:=g3 0 h0
     rw [D9 om] at g4
     have g5:=(Rf g4).2
     simpa [Addr.add] using g5
    obtain ⟨b,o,sp⟩:=a
    simp only at hsp
    subst hsp
    rw [<-hl0]
    have hll:(((List.range len).map V).map f).length=len:=by simp
    have:=RV.sl (w:=w) (G:=GA w) (es:=((List.range len).map V).map f) (hv:=none) (b:=b) (o:=o) (k:=k) (cap:=cap) (by simp) (by rw [hll];exact hlc) (Sp hf fun i z hz=>by
     have hi:i<len:=by have:=(Xh.1 hz).1;simpa using this
     have hz':V i=z:=by simpa [hi] using hz
     obtain ⟨cs',y,g1,_,g2,_⟩:=hV i hi
     rw [hz'] at g2
     obtain ⟨_,g3,g4⟩:=World.cells?_some g1
     refine Wv.of_cells g2 fun j u hj=>?_
     have hjl:j<k:=by have:=(Xh.1 hj).1;omega
     have g5:=(g4 j hjl).trans hj
     rw [Addr.add_lit,Addr.add_lit] at g5
     exact ⟨g5,(Rf g5).1⟩)
    rw [hll] at this
    exact this
  ·have:=Nz (c:=c) (xs:=(List.range len).map V) (ds:=elems.map (·.1)) (by simp [hlen]) fun i z d hz hd=>by
    have hi:i<len:=by have:=(Xh.1 hz).1;simpa using this
    have hz':V i=z:=by simpa [hi] using hz
    obtain ⟨cs',y,_,g1,_,g2,_⟩:=hV i hi
    rw [Jl,g1] at hd
    simp only [FV,Wp] at hd
    rw [<-hd,<-hz']
    exact g2
   simp only [Rows.uptoBulk]
   omega
  ·intro z hz
   obtain ⟨i,hi,rfl⟩:=XH.1 hz
   obtain ⟨_,_,_,_,_,_,g⟩:=hV i (List.mem_range.1 hi)
   exact g
theorem Zdt {n:Nat} {cs:List Value} {x:DataW H × List MemPlace} (h:Tr enc w n 5 cs x):∃z:Int,cs=[.int .u8 z]/\Rows.uptoBulk x.1=1/\0<=z/\z<=255:=by
 obtain ⟨z,rfl,rfl,hw⟩:=DataW.trod_int Tryz.underlying5 h
 refine ⟨z,rfl,rfl,?_⟩
 simpa [Lit.wf,IntKind.min,IntKind.max,IntKind.signed,IntKind.bits] using hw
theorem Zdu {n:Nat} {cs:List Value} {x:DataW H × List MemPlace} (h:Tr enc w n 22 cs x):∃(v:Value) (xs:LI),cs=[v]/\RV w (GA w) (Um xs) v/\∀z∈xs,0<=z/\z<=255:=by
 obtain ⟨v,xs,h1,h2,h3,h4⟩:=Zdw Tryz.underlying22 (k:=1) kr om (fun z:Int=>Ik z) (fun _=>rfl) (fun _=>0) (fun z=>0<=z/\z<=255) h fun m cs y _ hy=>by
  obtain ⟨z,rfl,hb,hz⟩:=Zdt hy
  exact ⟨z,.cons .val .nil,Nat.le_of_eq hb.symm,hz⟩
 exact ⟨v,xs,h1,h2,h4⟩
end
end Go.Abs
end
namespace Go.Abs
structure Sg where
 params:LI
 result:Int
abbrev N6 (f:Sg):AV:=.agg [.sl (Z6 f.params) none,.i f.result,.i 0,.i 0,.sl [] none]
def WD (fs:List Sg):List AV:=fs.map N6
theorem IY {xs:List Sg} {j:Nat} {x:Sg} (h:xs[j]? = some x):(WD xs)[j]? = some (N6 x):=by simp [WD,h]
@[simp] theorem O0 (xs:List Sg):(WD xs).length=xs.length:=by simp [WD]
theorem Gn (xs:List Sg):∀y∈WD xs,y.leaves.length=5:=by intro y hy;simp only [WD,XH] at hy;obtain ⟨x,_,rfl⟩:=hy;rfl
theorem O1 (xs:List Sg):(Zg (WD xs)).all AV.one=true:=J0 fun y hy=>by simp only [WD,XH] at hy;obtain ⟨x,_,rfl⟩:=hy;rfl
mutual
def Z5.sz:Z5->Nat
 | .mk _ _ _ args kids=>1+args.length+YW kids
def Z8.sz:Z8->Nat
 | .mk steps _=>1+Yw steps
def Yw:List Z5->Nat
 | []=>0
 | s::r=>s.sz+Yw r
def YW:List Z8->Nat
 | []=>0
 | b::r=>b.sz+YW r
end
theorem Z5.sz_pos (s:Z5):1<=s.sz:=by cases s;rw [Z5.sz];omega
theorem Z8.sz_pos (b:Z8):1<=b.sz:=by cases b;rw [Z8.sz];omega
theorem Jf (l:List Z5):l.length<=Yw l:=by
 induction l with
 | nil=>simp
 | cons s r ih=>have:=s.sz_pos;simp only [Yo,Yw];omega
theorem Nx (l:List Z8):l.length<=YW l:=by
 induction l with
 | nil=>simp
 | cons s r ih=>have:=s.sz_pos;simp only [Yo,YW];omega
theorem Zgz {l:List Z5} {k:Nat} {s:Z5} (h:l[k]? = some s):s.sz<=Yw l:=by
 induction l generalizing k with
 | nil=>simp at h
 | cons t r ih=>
  cases k with
  | zero=>simp at h;subst h;simp only [Yw];omega
  | succ k=>have:=ih (k:=k) (by simpa using h);simp only [Yw];omega
theorem Nw {l:List Z8} {k:Nat} {s:Z8} (h:l[k]? = some s):s.sz<=YW l:=by
 induction l generalizing k with
 | nil=>simp at h
 | cons t r ih=>
  cases k with
  | zero=>simp at h;subst h;simp only [YW];omega
  | succ k=>have:=ih (k:=k) (by simpa using h);simp only [YW];omega
theorem Z5.sz_eq (s:Z5):s.sz=1+s.args.length+YW s.kids:=by cases s;rw [Z5.sz];rfl
theorem Z8.sz_eq (b:Z8):b.sz=1+Yw b.steps:=by cases b;rw [Z8.sz];rfl
theorem Eb {b:Z8} {k:Nat} {s:Z5} (h:b.steps[k]? = some s):s.sz<b.sz:=by have:=Zgz h;have:=b.sz_eq;omega
theorem Qm {s:Z5} {k:Nat} {b:Z8} (h:s.kids[k]? = some b):b.sz<s.sz:=by have:=Nw h;have:=s.sz_eq;omega
theorem Jr (s:Z5):s.args.length<s.sz:=by have:=s.sz_eq;omega
theorem K6 (s:Z5):s.kids.length<s.sz:=by have:=s.sz_eq;have:=Nx s.kids;omega
theorem Ux (b:Z8):b.steps.length<b.sz:=by have:=b.sz_eq;have:=Jf b.steps;omega
structure TL (ds:List Zb):Prop where
 len:ds.length<=4194304
 cons:∀d∈ds,d.cons.length<=4194304
 fields:∀d∈ds,∀c∈d.cons,c.fields.length<=4194304
theorem TL.cons_at {ds:List Zb} (h:TL ds) {k:Nat} {d:Zb} (hd:ds[k]? = some d):d.cons.length<=4194304:=h.cons d (Y3 hd)
theorem TL.fields_at {ds:List Zb} (h:TL ds) {k j:Nat} {d:Zb} {c:Yd} (hd:ds[k]? = some d) (hc:d.cons[j]? = some c):c.fields.length<=4194304:=
 h.fields d (Y3 hd) c (Y3 hc)
def Js (m:Nat) (c:Yd):Bool:=decide (c.fields.length<=3)&&Wk m c.fields
def QV (d:Zb):List Zb->Bool
 | []=>false
 | e::r=>if e.cons.length=0/\e.frm=d.frm/\e.to_=d.to_ then true else QV d r
def TC (m:Nat):List Yd->Bool
 | []=>true
 | c::r=>if Js m c=true then TC m r else false
def T4 (ds:List Zb) (d:Zb) (i:Nat):Bool:=
 if 0<d.cons.length then (if d.cons.length<=3/\d.frm=0/\d.to_=0 then TC ds.length d.cons else false)
 else if QV d (ds.take i)=true then false else decide (0<=d.frm/\d.frm<=ds.length)&&decide (0<=d.to_/\d.to_<=ds.length)
def Cq (ds:List Zb) (i:Nat):Bool:=(ds[i]?.map fun d=>T4 ds d i).getD false
theorem Ez {ds:List Zb} {i:Nat} {d:Zb} (h:ds[i]? = some d):Cq ds i=T4 ds d i:=by rw [Cq,h];rfl
def T5 (ds:List Zb):List Zb->Nat->Bool
 | [],_=>true
 | _::r,i=>if Cq ds i=true then T5 ds r (i+1) else false
def WM (ds:List Zb):Bool:=decide (ds.length<=4)&&T5 ds ds 0
theorem NK {m:Nat} {cs:List Yd}:TC m cs=true↔∀c∈cs,Js m c=true:=by
 induction cs with
 | nil=>simp [TC]
 | cons c r ih=>
  rw [TC]
  split
  ·rename_i h;simp [ih,h]
  ·rename_i h;simp [h]
theorem II {ds:List Zb}:∀{l:List Zb} {i:Nat},T5 ds l i=true↔∀j<l.length,Cq ds (i+j)=true
 | [],i=>by simp [T5]
 | d::r,i=>by
  rw [T5]
  split
  ·rename_i h
   rw [II (l:=r)]
   constructor
   ·intro hq j hj
    cases j with
    | zero=>exact h
    | succ j=>have:=hq j (by simpa using hj);rwa [show i+(j+1)=i+1+j by omega]
   ·intro hq j hj
    have:=hq (j+1) (by simpa using hj)
    rwa [show i+(j+1)=i+1+j by omega] at this
  ·rename_i h
   simp only [Bool.false_eq_true,false_iff]
   intro hq
   exact h (hq 0 (by simp))
theorem I3 {ds:List Zb} (h:WM ds=true):Xr ds:=by
 simp only [WM,Xb,decide_eq_true_eq] at h
 obtain ⟨h1,h2⟩:=h
 rw [II] at h2
 have key:∀d∈ds,∃i,T4 ds d i=true:=fun d hd=>by
  obtain ⟨i,hi⟩:=List.mem_iff_getElem?.1 hd
  have:=h2 i (Xh.1 hi).1
  rw [Wj,Ez hi] at this
  exact ⟨i,this⟩
 have hc:∀d∈ds,0<d.cons.length->d.cons.length<=3/\TC ds.length d.cons=true:=fun d hd hp=>by
  obtain ⟨i,hi⟩:=key d hd
  rw [T4,Zk hp] at hi
  split at hi
  ·rename_i h;exact ⟨h.1,hi⟩
  ·cases hi
 refine ⟨h1,fun d hd=>?_,fun d hd c hc'=>?_⟩
 ·by_cases hp:0<d.cons.length
  ·exact (hc d hd hp).1
  ·omega
 ·have:=NK.1 (hc d hd (List.length_pos_of_mem hc')).2 c hc'
  simp only [Js,Xb,decide_eq_true_eq] at this
  exact this.1
theorem Xr.sz {ds:List Zb} (h:Xr ds):TL ds:=
 ⟨by have:=h.len;omega,fun d hd=>by have:=h.cons d hd;omega,fun d hd c hc=>by have:=h.fields d hd c hc;omega⟩
def KH (m:Nat) (f:Sg):Bool:=decide (f.params.length<=3)&&(Wk m f.params&&decide (0<=f.result/\f.result<=m))
def Jc (m:Nat):List Sg->Bool
 | []=>true
 | f::r=>if KH m f=true then Jc m r else false
def Gy:List Sg->Bool
 | []=>false
 | f::_=>decide (f.params.length=0)&&decide (f.result=0)
theorem Z6h {fs:List Sg} {x:Sg} (h:fs[0]? = some x):Gy fs=(decide (x.params.length=0)&&decide (x.result=0)):=by
 cases fs with
 | nil=>simp at h
 | cons f r=>simp at h;subst h;rfl
def UO (ds:List Zb) (fs:List Sg):Bool:=
 WM ds&&(decide (1<=fs.length/\fs.length<=4)&&(Jc ds.length fs&&Gy fs))
def QF (ps:LI):LI->Option Int->Bool
 | [],_=>true
 | v::r,prev=>if (0<=v/\v<=(ps.length:Int)-1)/\ps[v.toNat]?≠some 0/\(∀p,prev=some p->p<v) then QF ps r (some v) else false
theorem M1 {ps r:LI} {v:Int} {prev:Option Int} (h:(0<=v/\v<=(ps.length:Int)-1)/\ps[v.toNat]?≠some 0/\(∀p,prev=some p->p<v)):QF ps (v::r) prev=QF ps r (some v):=by
 rw [QF,Zk h]
theorem H8 {ps r:LI} {v:Int} {prev:Option Int} (h:¬((0<=v/\v<=(ps.length:Int)-1)/\ps[v.toNat]?≠some 0/\(∀p,prev=some p->p<v))):QF ps (v::r) prev=false:=by
 rw [QF,Za h]
def Ur (ps ls:LI):Bool:=QF ps ls none
def CM:List YE->Bool
 | []=>true
 | r::rs=>if Ur r.params r.lent=true then CM rs else false
def Q3 (r:YE):Sg:=⟨r.params,r.result⟩
def Ao (n:ZG):Bool:=decide (n.routines.length<=4)&&(UO n.decls (n.routines.map Q3)&&CM n.routines)
end Go.Abs
section
namespace Go.Abs
def V0 {α:Type} (xs:List α) (i:Int):Option α:=if 0<=i/\i<=(xs.length:Int)-1 then xs[i.toNat]? else none
theorem Bt {α:Type} {xs:List α} {i:Int} {x:α} (h:0<=i/\i<=(xs.length:Int)-1) (hx:xs[i.toNat]? = some x):V0 xs i=some x:=by rw [V0,Zk h,hx]
theorem AM {α:Type} {xs:List α} {i:Int} (h:¬(0<=i/\i<=(xs.length:Int)-1)):V0 xs i=none:=by rw [V0,Za h]
theorem Cj {α:Type} {xs:List α} {i:Int} {x:α} (h:V0 xs i=some x):(0<=i/\i<=(xs.length:Int)-1)/\xs[i.toNat]? = some x:=by
 rw [V0] at h
 split at h
 ·rename_i h1;exact ⟨h1,h⟩
 ·cases h
def KO (vars:LI):LI->LI->Bool
 | [],[]=>true
 | a::as1,t::ts=>if V0 vars a=some t then KO vars as1 ts else false
 | _,_=>false
def WY (vars args types:LI):Bool:=KO vars args types
theorem Z1n {vars:LI}:∀{args types:LI},args.length≠types.length->KO vars args types=false
 | [],[],h=>absurd rfl h
 | [],_::_,_=>rfl
 | _::_,[],_=>rfl
 | a::as1,t::ts,h=>by
  rw [KO]
  split
  ·exact Z1n (by simpa using h)
  ·rfl
theorem Zht {vars args types:LI} {k:Nat} {a t:Int} (ha:args[k]? = some a) (ht:types[k]? = some t) (h:V0 vars a=some t) :
  KO vars (args.drop k) (types.drop k)=KO vars (args.drop (k+1)) (types.drop (k+1)):=by
 rw [Yk ha,Yk ht,KO,Zk h]
theorem Z1m {vars args types:LI} {k:Nat} {a t:Int} (ha:args[k]? = some a) (ht:types[k]? = some t) (h:V0 vars a≠some t) :
  KO vars (args.drop k) (types.drop k)=false:=by
 rw [Yk ha,Yk ht,KO,Za h]
theorem Zhs {vars args types:LI} {k:Nat} (ha:args.length<=k) (ht:types.length<=k):KO vars (args.drop k) (types.drop k)=true:=by
 rw [Xm ha,Xm ht];rfl
def Qj (op:Int):Bool:=op==0||(op==6||(op==8||(op==9||op==10)))
def Xf (op:Int):Bool:=decide (0<=op/\op<=11)
def YO (op:Int):Bool:=decide (14<=op/\op<=17)
def Q6 (vars:LI) (op into:Int):Bool:=
 if into=0 then true else if op=6 then ((V0 vars (into-1)).map fun t=>decide (0<t)).getD false else false
def Er (ds:List Zb) (ps:LI) (res:Int):Int:=A1 ds (ps.getLast?.getD 0) res
def BY (ds:List Zb) (vars:LI) (op:Int) (args:LI) (r:YE):Int:=
 if op=9 then (if WY vars args r.params=true then r.result else -1)
 else if r.params.length=0∨0<r.lent.length∨¬WY vars args (r.params.take (r.params.length-1))=true then -1
 else Er ds r.params r.result
def Ke (n:ZG) (vars:LI) (op num:Int) (args:LI):Int:=
 match V0 n.routines num with
 | none=>-1
 | some r=>BY n.decls vars op args r
def KW (ds:List Zb) (vars:LI) (op:Int) (args:LI):Int:=
 match args with
 | [a]=>match V0 vars a with
  | some t=>if t=0 then -1 else if (op≠14/\op≠15)/\VU ds t=true then -1 else 0
  | none=>-1
 | _=>-1
def KU (ds:List Zb) (vars:LI) (args:LI):Int:=
 match args with
 | [a,b]=>match V0 vars a with
  | some t=>if VU ds t=true then
    (match ds[(t-1).toNat]? with
     | some d=>if WY vars [b] [d.frm]=true then d.to_ else -1
     | none=>-1) else -1
  | none=>-1
 | _=>-1
def W0 (ds:List Zb) (op num:Int):List LI:=if op=7 then [[],[]] else (ZZ ds num).map (ZP ds)
mutual
def YZ (n:ZG) (vars:LI):Z5->Int
 | .mk op num into args kids=>
  if (num≠0/\¬Qj op=true)∨¬Q6 vars op into=true∨(0<kids.length/\op≠7/\op≠8) then -1
  else if op=0 then (if args.length=0/\(-999<=num/\num<=999) then 0 else -1)
  else if op=1∨op=2∨op=3∨op=4 then (if WY vars args [0,0]=true then 0 else -1)
  else if op=5 then (if WY vars args [0]=true then 0 else -1)
  else if op=6 then (if 0<Wm n.decls num/\WY vars args (ZP n.decls num)=true then Wm n.decls num else -1)
  else if op=7 then (if WY vars args [0]=true then (if (W0 n.decls op num).length=0∨kids.length≠(W0 n.decls op num).length then -1 else QE n vars kids (W0 n.decls op num) true 0) else -1)
  else if op=8 then (if WY vars args [num]=true then (if (W0 n.decls op num).length=0∨kids.length≠(W0 n.decls op num).length then -1 else QE n vars kids (W0 n.decls op num) true 0) else -1)
  else if op=9∨op=10 then Ke n vars op num args
  else if op=11 then KU n.decls vars args
  else if op=14∨op=15∨op=16∨op=17 then KW n.decls vars op args
  else -1
def QE (n:ZG) (vars:LI):List Z8->List LI->Bool->Int->Int
 | [],_,_,t=>t
 | b::bs,more,first,t=>
  match more with
  | []=>-1
  | m::ms=>if W4 n (vars++m) b<0∨(first=false/\W4 n (vars++m) b≠t) then -1 else QE n vars bs ms false (W4 n (vars++m) b)
def Uw (n:ZG):List Z5->LI->Option LI
 | [],vars=>some vars
 | s::r,vars=>if YZ n vars s<0 then none else Uw n r (if Xf s.op=true then vars++[YZ n vars s] else vars)
def W4 (n:ZG) (vars:LI):Z8->Int
 | .mk steps result=>match Uw n steps vars with
  | none=>-1
  | some vs=>(V0 vs result).getD (-1)
end
def JG (n:ZG) (vars:LI) (op num:Int) (kids:List Z8):Int:=
 if (W0 n.decls op num).length=0∨kids.length≠(W0 n.decls op num).length then -1 else QE n vars kids (W0 n.decls op num) true 0
mutual
def BL:Z5->Int->Int
 | .mk _ _ _ _ kids,left=>Am kids left
def Tg:Z8->Int->Int
 | .mk steps _,left=>JI steps left
def JI:List Z5->Int->Int
 | [],left=>left
 | s::r,left=>if left<1 then -1 else if BL s (left-1)<0 then -1 else JI r (BL s (left-1))
def Am:List Z8->Int->Int
 | [],left=>left
 | b::r,left=>if Tg b left<0 then -1 else Am r (Tg b left)
end
def Bh (b:Z8):Int:=if Tg b 600<0 then -1 else 600-Tg b 600
def Be (n:ZG):List YE->Bool
 | []=>true
 | r::rs=>if ¬Bh r.body<0/\W4 n r.params r.body=r.result then Be n rs else false
def Kj (n:ZG):Bool:=Ao n&&Be n n.routines
theorem R8:(∀(s:Z5) (l:Int),0<=l->BL s l<=l)/\(∀(b:Z8) (l:Int),0<=l->Tg b l<=l):=by
 have key:∀m:Nat,(∀s:Z5,s.sz<=m->∀l:Int,0<=l->BL s l<=l)/\(∀b:Z8,b.sz<=m->∀l:Int,0<=l->Tg b l<=l):=by
  intro m
  induction m with
  | zero=>exact ⟨fun s h=>by have:=s.sz_pos;omega,fun s h=>by have:=s.sz_pos;omega⟩
  | succ m ih=>
   refine ⟨fun s hs l hl=>?_,fun b hb l hl=>?_⟩
   ·cases s with
    | mk op num into args kids=>
     rw [BL]
     have hk:YW kids<=m:=by rw [Z5.sz] at hs;omega
     clear hs
     induction kids generalizing l with
     | nil=>rw [Am];exact Int.le_refl _
     | cons b r ihr=>
      rw [YW] at hk
      have:=ih.2 b om l hl
      rw [Am]
      split
      ·omega
      ·have:=ihr (Tg b l) om om;omega
   ·cases b with
    | mk steps res=>
     rw [Tg]
     have hk:Yw steps<=m:=by rw [Z8.sz] at hb;omega
     clear hb
     induction steps generalizing l with
     | nil=>rw [JI];exact Int.le_refl _
     | cons s r ihr=>
      rw [Yw] at hk
      rw [JI]
      split
      ·omega
      ·have:=ih.1 s om (l-1) om
       split
       ·omega
       ·have:=ihr (BL s (l-1)) om om;omega
 exact ⟨fun s l hl=>(key s.sz).1 s (X0 _) l hl,fun b l hl=>(key b.sz).2 b (X0 _) l hl⟩
end Go.Abs
namespace Go.Abs
theorem Zh0 {l:List Z5} {k:Nat} {s:Z5} (h:l[k]? = some s):k+s.sz<=Yw l:=by
 induction l generalizing k with
 | nil=>simp at h
 | cons t r ih=>
  cases k with
  | zero=>simp at h;subst h;simp only [Yw];omega
  | succ k=>have:=ih (k:=k) (by simpa using h);have:=t.sz_pos;simp only [Yw];omega
theorem D3 {b:Z8} {k:Nat} {s:Z5} (h:b.steps[k]? = some s):k+s.sz<b.sz:=by have:=Zh0 h;have:=b.sz_eq;omega
structure Xu (n:ZG):Prop where
 decls:Xr n.decls
 len:n.routines.length<=4
 params:∀r∈n.routines,r.params.length<=3
 lent:∀r∈n.routines,r.lent.length<=4194304
theorem Xu.params_at {n:ZG} (h:Xu n) {k:Nat} {r:YE} (hr:n.routines[k]? = some r):r.params.length<=3:=h.params r (Y3 hr)
theorem Xu.lent_at {n:ZG} (h:Xu n) {k:Nat} {r:YE} (hr:n.routines[k]? = some r):r.lent.length<=4194304:=h.lent r (Y3 hr)
theorem Z3b {ds:List Zb} {num:Int} {k:Nat} {x:Int} (h:(ZZ ds num)[k]? = some x):(W0 ds 8 num)[k]? = some (ZP ds x):=by
 rw [W0,Za om,Jl,h];rfl
end Go.Abs
namespace Go.Abs
theorem DN {ds:List Zb} (hd:Xr ds) (t:Int):(ZZ ds t).length<=3:=by
 rw [ZZ]
 split
 ·rename_i h
  obtain ⟨d,hd1⟩:=B1 (xs:=ds) (j:=(t-1).toNat) om
  rw [hd1,Zc9]
  exact hd.cons_at hd1
 ·simp
theorem Vj {ds:List Zb} (hd:Xr ds) (c:Int):(ZP ds c).length<=3:=by
 by_cases h:Wm ds c<1
 ·rw [(NI h).1];simp
 ·obtain ⟨k,d,x,h1,_,h3,_,h5⟩:=IA h
  rw [h5];exact hd.fields_at h1 h3
theorem Nj {ds:List Zb} (hd:Xr ds) {op num:Int} {k:Nat} {m:LI} (h:(W0 ds op num)[k]? = some m):m.length<=3:=by
 have hm:=Y3 h
 rw [W0] at hm
 split at hm
 ·simp at hm;subst hm;simp
 ·obtain ⟨c,_,rfl⟩:=XH.1 hm;exact Vj hd c
theorem KV {α:Type} {xs:List α} {x:α} (h:xs.length=1) (hx:xs[0]? = some x):xs=[x]:=by
 cases xs with
 | nil=>simp at h
 | cons a r=>
  cases r with
  | nil=>simp at hx;rw [hx]
  | cons b r=>simp at h
theorem Dk {ds:List Zb} {us args:LI} {op:Int} (h:args.length≠1):KW ds us op args=-1:=by
 cases args with
 | nil=>rfl
 | cons a r=>
  cases r with
  | nil=>simp at h
  | cons b r=>rfl
theorem Dl {ds:List Zb} {us args:LI} {op a:Int} (h:args=[a]) (hi:¬(0<=a/\a<=(us.length:Int)-1)):KW ds us op args=-1:=by
 subst h;rw [KW];simp only [AM hi]
theorem Dj {ds:List Zb} {us args:LI} {op a t:Int} (h:args=[a]) (hi:0<=a/\a<=(us.length:Int)-1) (ht:us[a.toNat]? = some t) :
  KW ds us op args=if t=0 then -1 else if (op≠14/\op≠15)/\VU ds t=true then -1 else 0:=by
 subst h;rw [KW];simp only [Bt hi ht]
theorem Zef {n:ZG} {us args:LI} {op num:Int} {r:YE} (hi:0<=num/\num<=(n.routines.length:Int)-1) (hr:n.routines[num.toNat]? = some r) :
  Ke n us op num args=BY n.decls us op args r:=by
 rw [Ke];simp only [Bt hi hr]
theorem Zeg {n:ZG} {us args:LI} {op num:Int} (hi:¬(0<=num/\num<=(n.routines.length:Int)-1)):Ke n us op num args=-1:=by
 rw [Ke];simp only [AM hi]
theorem Z9h {xs:LI} {x:Int} (h:xs[xs.length-1]? = some x):xs.getLast?.getD 0=x:=by
 rw [List.getLast?_eq_getElem?,h];rfl
theorem Zb7 {n:ZG} {us:LI} {bs:List Z8} {ms:List LI} {b:Z8} {m:LI} {k:Nat} {t:Int} (hb:bs[k]? = some b) (hm:ms[k]? = some m)
  (h:¬(W4 n (us++m) b<0∨(k:Int)>0/\W4 n (us++m) b≠t)) :
  QE n us (bs.drop k) (ms.drop k) (decide (k=0)) t=QE n us (bs.drop (k+1)) (ms.drop (k+1)) (decide (k+1=0)) (W4 n (us++m) b):=by
 rw [Yk hb,Yk hm,QE,Za]
 ·simp
 ·rintro (q|⟨q1,q2⟩)
  ·exact h (.inl q)
  ·exact h (.inr ⟨by simp at q1;omega,q2⟩)
theorem Zb5 {n:ZG} {us:LI} {bs:List Z8} {ms:List LI} {b:Z8} {m:LI} {k:Nat} {t:Int} (hb:bs[k]? = some b) (hm:ms[k]? = some m)
  (h:W4 n (us++m) b<0∨(k:Int)>0/\W4 n (us++m) b≠t) :
  QE n us (bs.drop k) (ms.drop k) (decide (k=0)) t=-1:=by
 rw [Yk hb,Yk hm,QE,Zk]
 rcases h with q|⟨q1,q2⟩
 ·exact .inl q
 ·exact .inr ⟨by simp;omega,q2⟩
theorem Zb6 {n:ZG} {us:LI} {bs:List Z8} {ms:List LI} {k:Nat} {f:Bool} {t:Int} (hb:bs.length<=k):QE n us (bs.drop k) (ms.drop k) f t=t:=by
 rw [Xm hb,QE]
end Go.Abs
end
namespace Go.Abs
theorem MI (n:ZG) (us:LI) (s:Z5):YZ n us s =
  if (s.num≠0/\¬Qj s.op=true)∨¬Q6 us s.op s.into=true∨(0<s.kids.length/\s.op≠7/\s.op≠8) then -1
  else if s.op=0 then (if s.args.length=0/\(-999<=s.num/\s.num<=999) then 0 else -1)
  else if s.op=1∨s.op=2∨s.op=3∨s.op=4 then (if WY us s.args [0,0]=true then 0 else -1)
  else if s.op=5 then (if WY us s.args [0]=true then 0 else -1)
  else if s.op=6 then (if 0<Wm n.decls s.num/\WY us s.args (ZP n.decls s.num)=true then Wm n.decls s.num else -1)
  else if s.op=7 then (if WY us s.args [0]=true then JG n us s.op s.num s.kids else -1)
  else if s.op=8 then (if WY us s.args [s.num]=true then JG n us s.op s.num s.kids else -1)
  else if s.op=9∨s.op=10 then Ke n us s.op s.num s.args
  else if s.op=11 then KU n.decls us s.args
  else if s.op=14∨s.op=15∨s.op=16∨s.op=17 then KW n.decls us s.op s.args
  else -1:=by
 cases s with
 | mk op num into args kids=>rw [YZ];rfl
theorem Iu (n:ZG) (us:LI) (b:Z8):W4 n us b=match Uw n b.steps us with
  | none=>-1
  | some vs=>(V0 vs b.result).getD (-1):=by
 cases b with
 | mk st r=>rw [W4];rfl
theorem Nh {α:Type} {xs:List α} {x:α} (h:xs.length=2) (hx:xs[0]? = some x):∃y,xs=[x,y]:=by
 match xs,h with
 | [a,b],_=>simp at hx;subst hx;exact ⟨b,rfl⟩
theorem UQ {ds:List Zb} {us args:LI} (h:args.length≠2):KU ds us args=-1:=by
 match args,h with
 | [],_=>rfl
 | [_],_=>rfl
 | [_,_],h=>simp at h
 | _::_::_::_,_=>rfl
theorem UR {ds:List Zb} {us args:LI} {a:Int} (hl:args.length=2) (h:args[0]? = some a) (hi:¬(0<=a/\a<=(us.length:Int)-1)):KU ds us args=-1:=by
 obtain ⟨y,rfl⟩:=Nh hl h;rw [KU];simp only [AM hi]
theorem Uz {ds:List Zb} {us args:LI} {a t:Int} (hl:args.length=2) (h:args[0]? = some a) (hi:0<=a/\a<=(us.length:Int)-1) (ht:us[a.toNat]? = some t) :
  KU ds us args=if VU ds t=true then
    (match ds[(t-1).toNat]? with
     | some d=>if WY us (args.drop 1) [d.frm]=true then d.to_ else -1
     | none=>-1) else -1:=by
 obtain ⟨y,rfl⟩:=Nh hl h;rw [KU];simp only [Bt hi ht];rfl
theorem Z34 {ds:List Zb} {us args:LI} {a t:Int} {d:Zb} (hl:args.length=2) (h:args[0]? = some a) (hi:0<=a/\a<=(us.length:Int)-1) (ht:us[a.toNat]? = some t)
  (hA:VU ds t=true) (hd:ds[(t-1).toNat]? = some d):KU ds us args=if WY us (args.drop 1) [d.frm]=true then d.to_ else -1:=by
 rw [Uz hl h hi ht,Zk hA];simp only [hd]
theorem LK {ds:List Zb} {t:Int} (h:VU ds t=true):1<=t/\t<=ds.length:=by
 simp only [VU,Xb,decide_eq_true_eq] at h;exact h.1
theorem Zbo (b:Z8) (l:Int):Tg b l=JI b.steps l:=by cases b;rw [Tg];rfl
theorem R9 (s:Z5) (l:Int):BL s l=Am s.kids l:=by cases s;rw [BL];rfl
structure JW (n:ZG):Prop where
 decls:TL n.decls
 len:n.routines.length<=4194304
 params:∀r∈n.routines,r.params.length<=4194304
 lent:∀r∈n.routines,r.lent.length<=4194304
 body:∀r∈n.routines,r.body.sz<=10000000
theorem HI {m:Nat} {fs:List Sg} (h:Jc m fs=true):∀f∈fs,KH m f=true:=by
 induction fs with
 | nil=>simp
 | cons f r ih=>
  rw [Jc] at h
  split at h
  ·rename_i h1
   intro g hg
   rcases YN.1 hg with rfl|hg
   ·exact h1
   ·exact ih h g hg
  ·cases h
theorem Rp {n:ZG} (hz:JW n) (h:Ao n=true):Xu n:=by
 simp only [Ao,UO,Xb,decide_eq_true_eq] at h
 obtain ⟨h1,⟨h2,h3,h4,h5⟩,h6⟩:=h
 refine ⟨I3 h2,h1,fun r hr=>?_,hz.lent⟩
 have:=HI h4 (Q3 r) (XH.2 ⟨r,hr,rfl⟩)
 simp only [KH,Xb,decide_eq_true_eq] at this
 exact this.1
def gI (xs:LI) (i:Int):Int:=xs[i.toNat]?.getD 0
theorem Te {xs:LI} {i:Int} {x:Int} (h:xs[i.toNat]? = some x):gI xs i=x:=by rw [gI,h];rfl
structure ZK where
 vars:LI
 own:LI
 par:LI
 con:LI
 fst:LI
 tok:LI
def ZK.grow (L:ZK) (t own par:Int):ZK:=⟨L.vars++[t],L.own++[own],L.par++[par],L.con++[-1],L.fst++[-1],L.tok++[-1]⟩
def Q5 (L:ZK) (v:Int):Option ZK:=if gI L.own v<1 then none else some { L with own:=L.own.set v.toNat (gI L.own v-1) }
def QR (own par ln:LI):Nat->Int->Bool
 | 0,_=>false
 | k+1,v=>if gI own v<1/\¬v∈ln then (if gI par v<0 then false else QR own par ln k (gI par v)) else true
def T3 (L:ZK) (ln:LI) (v:Int):Bool:=QR L.own L.par ln (v.toNat+1) v
def Qu:LI->Int->LI->LI
 | own,_,[]=>own
 | own,p,f::r=>Qu (if f≠0 then own.set p.toNat (gI own p+1) else own) (p+1) r
def Ap (ds:List Zb) (L:ZK) (op x:Int):Option ZK:=
 if gI L.con x<0∨(op=17/\0<=gI L.tok x) then none
 else match Q5 L x with
  | none=>none
  | some L1=>some { L1 with
    own:=Qu L1.own (gI L.fst x) (ZP ds (gI L.con x))
    tok:=if op=17 then L.tok.set x.toNat (ZP ds (gI L.con x)).length else L.tok }
def Aa (op:Int):Bool:=op==6||(op==9||(op==10||op==11))
def DK (n:ZG) (op num:Int):LI:=if op=9 then ((n.routines[num.toNat]?).map (·.lent)).getD [] else []
def UU (n:ZG) (op num:Int) (i:Nat):Bool:=decide ((i:Int)∈DK n op num)
def Jt (n:ZG) (vars:LI) (op num a:Int) (i:Nat):Bool:=Aa op&&(gI vars a != 0&&!UU n op num i)
def KA (n:ZG) (op num:Int):LI->Nat->ZK->Option ZK
 | [],_,L=>some L
 | a::r,i,L=>if Jt n L.vars op num a i=true then (match Q5 L a with
   | none=>none
   | some L1=>KA n op num r (i+1) L1) else KA n op num r (i+1) L
def BH (n:ZG) (op num:Int) (ln:LI) (L:ZK):LI->Nat->Bool
 | [],_=>true
 | a::r,i=>if UU n op num i=true/\¬T3 L ln a=true then false else BH n op num ln L r (i+1)
def EO (L:ZK) (into:Int) (m:Nat):Option ZK:=
 if 0<into then (if gI L.tok (into-1)≠m then none else some { L with tok:=L.tok.set (into-1).toNat (-1) }) else some L
def Jy (n:ZG) (ln:LI) (L:ZK) (op num into:Int) (args:LI):Option ZK:=
 match KA n op num args 0 L with
 | none=>none
 | some L1=>if BH n op num ln L1 args 0=true then EO L1 into args.length else none
def C6:LI->LI->Bool
 | o::os,t::ts=>if o≠0∨0<=t then false else C6 os ts
 | _,_=>true
def ZK.take (L:ZK) (m:Nat):ZK:=⟨L.vars.take m,L.own.take m,L.par.take m,L.con.take m,L.fst.take m,L.tok.take m⟩
def Ju (L:ZK) (m:Nat):Option ZK:=if C6 (L.own.drop m) (L.tok.drop m)=true then some (L.take m) else none
def CC (L:ZK) (par:Int):LI->ZK
 | []=>L
 | t::r=>CC (L.grow t 0 par) par r
def Ci (ds:List Zb) (L:ZK) (x c:Int):ZK:=
 CC { L with con:=L.con.set x.toNat c,fst:=L.fst.set x.toNat L.vars.length } x (ZP ds c)
def TF (ds:List Zb) (L:ZK) (op num:Int) (args:LI) (i:Nat):ZK:=
 if op=8 then Ci ds L (gI args 0) (gI (ZZ ds num) i) else L
def Bc (lent:LI):LI->Nat->ZK->ZK
 | [],_,L=>L
 | t::r,i,L=>Bc lent r (i+1) (L.grow t (if t≠0/\¬(i:Int)∈lent then 1 else 0) (-1))
def KG (r:YE):ZK:=Bc r.lent r.params 0 ⟨[],[],[],[],[],[]⟩
def Cr (L:ZK) (ln:LI) (v:Int):Option ZK:=if T3 L ln v=true then some { L with own:=L.own.set v.toNat (gI L.own v+1) } else none
def JO (n:ZG) (ln:LI) (L:ZK) (op num into:Int) (args:LI) (ch:Option ZK):Option ZK:=
 if op=14 then Cr L ln (gI args 0)
 else if op=15 then Q5 L (gI args 0)
 else if op=16∨op=17 then Ap n.decls L op (gI args 0)
 else if op=7∨op=8 then (if op=8/\¬T3 L ln (gI args 0)=true then none else ch)
 else Jy n ln L op num into args
def Aj (L:ZK) (op t:Int) (r:Option ZK):Option ZK:=
 match r with
 | none=>none
 | some L1=>if Xf op=true then some (L1.grow t (if t≠0 then 1 else 0) (-1)) else some L1
def CN (L:ZK) (first:Option ZK) (rest:ZK->Bool):Option ZK:=
 match first with
 | none=>none
 | some one=>if rest one=true then some { L with own:=one.own,tok:=one.tok } else none
def HG (one:ZK) (two:Option ZK) (rest:Bool):Bool:=
 match two with
 | none=>false
 | some two=>if one.own=two.own/\one.tok=two.tok then rest else false
def FH (r:Option ZK) (f:ZK->Option ZK):Option ZK:=match r with|none=>none|some L=>f L
def Ah (m:Nat) (res:Int) (L:ZK):Option ZK:=FH (if gI L.vars res≠0 then Q5 L res else some L) fun L2=>Ju L2 m
mutual
def QK (n:ZG) (ln:LI) (L:ZK):Z5->Option ZK
 | .mk op num into args kids=>Aj L op (YZ n L.vars (.mk op num into args kids)) (JO n ln L op num into args (J5 n ln L op num args kids))
def J5 (n:ZG) (ln:LI) (L:ZK) (op num:Int) (args:LI):List Z8->Option ZK
 | []=>none
 | b::bs=>CN L (U2 n ln (TF n.decls L op num args 0) L.vars.length b) fun one=>JF n ln L op num args one bs 1
def JF (n:ZG) (ln:LI) (L:ZK) (op num:Int) (args:LI) (one:ZK):List Z8->Nat->Bool
 | [],_=>true
 | b::bs,i=>HG one (U2 n ln (TF n.decls L op num args i) L.vars.length b) (JF n ln L op num args one bs (i+1))
def JP (n:ZG) (ln:LI) (L:ZK):List Z5->Option ZK
 | []=>some L
 | s::r=>FH (QK n ln L s) fun L1=>JP n ln L1 r
def U2 (n:ZG) (ln:LI) (L:ZK) (m:Nat):Z8->Option ZK
 | .mk steps result=>FH (JP n ln L steps) (Ah m result)
end
theorem Z18 (n:ZG) (ln:LI) (L:ZK) (s:Z5):QK n ln L s=Aj L s.op (YZ n L.vars s) (JO n ln L s.op s.num s.into s.args (J5 n ln L s.op s.num s.args s.kids)):=by
 cases s with
 | mk op num into args kids=>rw [QK];rfl
theorem It (n:ZG) (ln:LI) (L:ZK) (m:Nat) (b:Z8):U2 n ln L m b=FH (JP n ln L b.steps) (Ah m b.result):=by
 cases b with
 | mk st r=>rw [U2];rfl
def Z3g (n:ZG) (r:YE):Bool:=
 match U2 n r.lent (KG r) r.params.length r.body with
 | none=>false
 | some L=>(Ju L 0).isSome
def Ns (n:ZG):List YE->Bool
 | []=>true
 | r::rs=>if Z3g n r=true then Ns n rs else false
def Z3h (n:ZG):Bool:=Kj n&&Ns n n.routines
structure Tl (L:ZK):Prop where
 own:L.own.length=L.vars.length
 par:L.par.length=L.vars.length
 con:L.con.length=L.vars.length
 fst:L.fst.length=L.vars.length
 tok:L.tok.length=L.vars.length
structure XI (ds:List Zb) (L:ZK) (q:Int):Prop where
 len:Tl L
 down:∀j:Int,0<=j->j<L.vars.length->gI L.par j<j
 arm:∀x:Int,0<=x->x<L.vars.length->0<=gI L.con x->0<=gI L.fst x/\gI L.fst x+(ZP ds (gI L.con x)).length<=L.vars.length
 nn:∀x∈L.own,0<=x
 bd:∀x∈L.own,x<=q
end Go.Abs
section
namespace Go.Abs
end Go.Abs
namespace Go.Abs
theorem Zbp {n:ZG} {op num:Int} {r:YE} (h:op=9) (hr:n.routines[num.toNat]? = some r):DK n op num=r.lent:=by
 rw [DK,Zk h,hr];rfl
end Go.Abs
namespace Go.Abs
theorem Z2q {own par ln:LI} {N:Int} (hd:∀j:Int,0<=j->j<N->gI par j<j):∀(k:Nat) (v:Int),0<=v->v<N->v.toNat+1<=k->QR own par ln k v=QR own par ln (v.toNat+1) v:=by
 intro k
 induction k using Nat.strongRecOn with
 | ind k ih=>
  intro v h0 hN hk
  cases k with
  | zero=>omega
  | succ k=>
   rw [QR,QR]
   split
   ·split
    ·rfl
    ·have hdv:=hd v h0 hN
     rw [ih k om (gI par v) om om om]
     rw [ih v.toNat om (gI par v) om om om]
   ·rfl
theorem Z2s {own par ln:LI} {N j x1 x2:Int} {r:Bool} (h1:gI own j=x1) (h2:gI par j=x2) (hj:0<=j/\j<N) (hx:x1<1/\¬j∈ln) (h0:¬x2<0) (hd:∀i:Int,0<=i->i<N->gI par i<i)
  (h:QR own par ln (j.toNat+1) j=r):QR own par ln (x2.toNat+1) x2=r:=by
 rw [QR,h1,h2,Zk hx,Za h0] at h
 have hdv:=hd j hj.1 hj.2
 rw [<-h,Z2q hd j.toNat x2 om om om]
theorem Z2r {own par ln:LI} {j x1 x2:Int} {r:Bool} (h1:gI own j=x1) (h2:gI par j=x2) (hx:x1<1/\¬j∈ln) (h0:x2<0) (h:QR own par ln (j.toNat+1) j=r):false=r:=by
 rw [QR,h1,h2,Zk hx,Zk h0] at h;exact h
theorem Z2t {own par ln:LI} {j x1:Int} {r:Bool} (h1:gI own j=x1) (hx:¬(x1<1/\¬j∈ln)) (h:QR own par ln (j.toNat+1) j=r):true=r:=by
 rw [QR,h1,Za hx] at h;exact h
end Go.Abs
namespace Go.Abs
theorem JQ {L L':ZK} {v:Int} (h:Q5 L v=some L'):1<=gI L.own v/\L'.vars=L.vars/\L'.par=L.par/\L'.con=L.con/\L'.fst=L.fst/\L'.tok=L.tok/\L'.own=L.own.set v.toNat (gI L.own v-1):=by
 rw [Q5] at h
 split at h
 ·cases h
 ·cases h;exact ⟨by omega,rfl,rfl,rfl,rfl,rfl,rfl⟩
theorem GH {xs:LI} {v:Int} (h:gI xs v≠0):gI xs v∈xs:=by
 rw [gI] at h ⊢
 cases hx:xs[v.toNat]? with
 | none=>rw [hx] at h;exact absurd rfl h
 | some y=>exact Y3 hx
theorem JK {xs:LI} {i:Nat} {a x:Int} (h:x∈xs.set i a):x∈xs∨x=a:=List.mem_or_eq_of_mem_set h
theorem XI.take {ds:List Zb} {L L':ZK} {q v:Int} (hk:XI ds L q) (h:Q5 L v=some L'):XI ds L' q:=by
 obtain ⟨t1,t2,t3,t4,t5,t6,t7⟩:=JQ h
 obtain ⟨f1,f2,f3,f4,f5⟩:=hk.len
 have hm:=GH (xs:=L.own) (v:=v) om
 refine ⟨⟨by rw [t7,t2,VQ];exact f1,by rw [t3,t2];exact f2,by rw [t4,t2];exact f3,by rw [t5,t2];exact f4,by rw [t6,t2];exact f5⟩,?_,?_,?_,?_⟩
 ·rw [t2,t3];exact hk.down
 ·rw [t2,t4,t5];exact hk.arm
 ·rw [t7];intro x hx
  rcases JK hx with hx|rfl
  ·exact hk.nn x hx
  ·omega
 ·rw [t7];intro x hx
  rcases JK hx with hx|rfl
  ·exact hk.bd x hx
  ·have:=hk.bd _ hm;omega
end Go.Abs
end
namespace Go.Abs
theorem MP {us:LI}:∀{args tys:LI},KO us args tys=true->args.length=tys.length/\∀a∈args,0<=a/\a<us.length
 | [],[],_=>⟨rfl,by simp⟩
 | [],_::_,h=>by cases h
 | _::_,[],h=>by cases h
 | a::as1,t::ts,h=>by
  rw [KO] at h
  split at h
  ·rename_i h1
   obtain ⟨q1,q2⟩:=MP h
   refine ⟨by simp [q1],fun x hx=>?_⟩
   rcases YN.1 hx with rfl|hx
   ·have:=(Cj h1).1;omega
   ·exact q2 x hx
  ·cases h
theorem PW {n:ZG} {us:LI}:∀{bs:List Z8} {ms:List LI} {f:Bool} {t:Int},0<=t->0<=QE n us bs ms f t ->
  ∀(i:Nat) (b:Z8) (m:LI),bs[i]? = some b->ms[i]? = some m->0<=W4 n (us++m) b
 | [],_,_,_,_,_,i,b,m,hb,_=>by simp at hb
 | b::bs,[],_,_,_,h,_,_,_,_,hm=>by simp at hm
 | b::bs,m::ms,f,t,ht,h,i,c,l,hc,hl=>by
  rw [QE] at h
  split at h
  ·omega
  ·rename_i hq
   have h0:0<=W4 n (us++m) b:=by
    rcases Int.lt_or_le (W4 n (us++m) b) 0 with q|q
    ·exact absurd (.inl q) hq
    ·exact q
   cases i with
   | zero=>simp at hc hl;subst hc hl;exact h0
   | succ i=>exact PW h0 h i c l (by simpa using hc) (by simpa using hl)
structure Ce (n:ZG) (us:LI) (s:Z5):Prop where
 args:∀a∈s.args,0<=a/\a<us.length
 one:(s.op=7∨s.op=8∨(14<=s.op/\s.op<=17))->∃a,s.args=[a]
 num:s.op=9->0<=s.num/\s.num<n.routines.length
 into:s.into≠0->1<=s.into/\s.into<=us.length
 kids:(s.op=7∨s.op=8)->s.kids.length=(W0 n.decls s.op s.num).length/\(W0 n.decls s.op s.num).length≠0 /\
  ∀(i:Nat) (b:Z8) (m:LI),s.kids[i]? = some b->(W0 n.decls s.op s.num)[i]? = some m->0<=W4 n (us++m) b
theorem Zb4 {n:ZG} {us:LI} {op num:Int} {kids:List Z8} (h:0<=JG n us op num kids) :
  kids.length=(W0 n.decls op num).length/\(W0 n.decls op num).length≠0/\∀(i:Nat) (b:Z8) (m:LI),kids[i]? = some b->(W0 n.decls op num)[i]? = some m->0<=W4 n (us++m) b:=by
 rw [JG] at h
 split at h
 ·omega
 ·rename_i hq
  exact ⟨by omega,by omega,PW (Int.le_refl 0) h⟩
theorem Rc {xs:LI} (h:xs.length=1):∃a,xs=[a]:=by
 match xs,h with
 | [a],_=>exact ⟨a,rfl⟩
theorem Z1a {n:ZG} {us:LI} {s:Z5} (h:0<=YZ n us s):Ce n us s:=by
 rw [MI] at h
 split at h
 ·omega
 rename_i h0
 have hinto:s.into≠0->1<=s.into/\s.into<=us.length:=by
  intro hi
  have hv:Q6 us s.op s.into=true:=by
   cases q:Q6 us s.op s.into with
   | true=>rfl
   | false=>exact absurd (.inr (.inl (by rw [q];simp))) h0
  rw [Q6,Za hi] at hv
  split at hv
  ·cases ha:V0 us (s.into-1) with
   | none=>rw [ha] at hv;cases hv
   | some t=>have:=(Cj ha).1;omega
  ·cases hv
 have mk:(∀a∈s.args,0<=a/\a<us.length)->((s.op=7∨s.op=8∨(14<=s.op/\s.op<=17))->∃a,s.args=[a])->(s.op=9->0<=s.num/\s.num<n.routines.length) ->
   ((s.op=7∨s.op=8)->0<=JG n us s.op s.num s.kids)->Ce n us s:=fun a b c d=>⟨a,b,c,hinto,fun q=>Zb4 (d q)⟩
 have ty:∀{tys},WY us s.args tys=true->s.args.length=tys.length/\∀a∈s.args,0<=a/\a<us.length:=fun q=>MP q
 split at h
 ·rename_i h1
  split at h
  ·rename_i h2
   exact mk (by rw [List.eq_nil_of_length_eq_zero h2.1];simp) om om om
  ·omega
 split at h
 ·split at h
  ·rename_i h1 h2;exact mk (ty h2).2 om om om
  ·omega
 split at h
 ·split at h
  ·rename_i h1 h2;exact mk (ty h2).2 om om om
  ·omega
 split at h
 ·split at h
  ·rename_i h1 h2;exact mk (ty h2.2).2 om om om
  ·omega
 split at h
 ·split at h
  ·rename_i h1 h2;exact mk (ty h2).2 (fun _=>Rc (by simpa using (ty h2).1)) om (fun _=>h)
  ·omega
 split at h
 ·split at h
  ·rename_i h1 h2;exact mk (ty h2).2 (fun _=>Rc (by simpa using (ty h2).1)) om (fun _=>h)
  ·omega
 split at h
 ·rename_i hop
  rw [Ke] at h
  cases hr:V0 n.routines s.num with
  | none=>rw [hr] at h;simp at h
  | some r=>
   rw [hr] at h
   simp only at h
   have hn:=(Cj hr).1
   rw [BY] at h
   split at h
   ·split at h
    ·rename_i h2;exact mk (ty h2).2 om om om
    ·omega
   ·split at h
    ·omega
    ·rename_i h2
     have h3:WY us s.args (r.params.take (r.params.length-1))=true:=by
      cases q:WY us s.args (r.params.take (r.params.length-1)) with
      | true=>rfl
      | false=>exact absurd (.inr (.inr (by rw [q];simp))) h2
     exact mk (ty h3).2 om om om
 split at h
 ·rename_i hop
  rcases he:s.args with _|⟨a,_|⟨b,_|⟨c,r⟩⟩⟩
  ·rw [he,show KU n.decls us []=-1 from rfl] at h;omega
  ·rw [he,show KU n.decls us [a]=-1 from rfl] at h;omega
  ·rw [he,KU] at h
   cases ha:V0 us a with
   | none=>rw [ha] at h;simp at h
   | some t=>
    rw [ha] at h
    simp only at h
    split at h
    ·cases hd:n.decls[(t-1).toNat]? with
     | none=>rw [hd] at h;simp at h
     | some d=>
      rw [hd] at h
      simp only at h
      split at h
      ·rename_i h3
       have h4:=(MP h3).2 b (by simp)
       have h5:=(Cj ha).1
       refine mk (fun x hx=>?_) om om om
       rw [he] at hx
       rcases YN.1 hx with rfl|hx
       ·omega
       ·rw [Xy.1 hx];exact h4
      ·omega
    ·omega
  ·rw [he,show KU n.decls us (a::b::c::r)=-1 from rfl] at h;omega
 split at h
 ·rename_i hop
  rcases he:s.args with _|⟨a,_|⟨b,r⟩⟩
  ·rw [he,show KW n.decls us s.op []=-1 from rfl] at h;omega
  ·rw [he,KW] at h
   cases ha:V0 us a with
   | none=>rw [ha] at h;simp at h
   | some t=>
    have h5:=(Cj ha).1
    refine mk (fun x hx=>?_) (fun _=>⟨a,he⟩) om om
    rw [he] at hx
    rw [Xy.1 hx];omega
  ·rw [he,show KW n.decls us s.op (a::b::r)=-1 from rfl] at h;omega
 ·omega
def Kf (n:ZG) (us:LI) (s:Z5):LI:=if Xf s.op=true then us++[YZ n us s] else us
theorem NW {L L':ZK} {ln:LI} {v:Int} (h:Cr L ln v=some L'):L'.vars=L.vars/\L'.par=L.par/\L'.con=L.con/\L'.fst=L.fst/\L'.tok=L.tok/\L'.own=L.own.set v.toNat (gI L.own v+1):=by
 rw [Cr] at h
 split at h
 ·cases h;exact ⟨rfl,rfl,rfl,rfl,rfl,rfl⟩
 ·cases h
theorem Io:∀(fs:LI) (own:LI) (p:Int),(Qu own p fs).length=own.length
 | [],own,p=>rfl
 | f::r,own,p=>by rw [Qu,Io r];split<;>simp
theorem Lo {xs:LI} {q v:Int} (h:∀x∈xs,x<=q) (hq:0<=q):gI xs v<=q:=by
 by_cases h0:gI xs v=0
 ·omega
 ·exact h _ (GH h0)
theorem Lp {xs:LI} {v:Int} (h:∀x∈xs,0<=x):0<=gI xs v:=by
 by_cases h0:gI xs v=0
 ·omega
 ·exact h _ (GH h0)
theorem Ip:∀(fs:LI) (own:LI) (p:Int),(∀x∈own,0<=x)->∀x∈Qu own p fs,0<=x
 | [],own,p,h=>h
 | f::r,own,p,h=>by
  rw [Qu]
  refine Ip r _ _ fun x hx=>?_
  split at hx
  ·rcases JK hx with hx|rfl
   ·exact h x hx
   ·have:=Lp (v:=p) h;omega
  ·exact h x hx
theorem In:∀(fs:LI) (own:LI) (p q:Int),0<=q->(∀x∈own,x<=q)->∀x∈Qu own p fs,x<=q+fs.length
 | [],own,p,q,hq,h=>by intro x hx;have:=h x hx;simp;omega
 | f::r,own,p,q,hq,h=>by
  intro x hx
  rw [Qu] at hx
  have:=In r _ _ (q+1) om (fun y hy=>by
   split at hy
   ·rcases JK hy with hy|rfl
    ·have:=h y hy;omega
    ·have:=Lo (v:=p) h hq;omega
   ·have:=h y hy;omega) x hx
  simp only [Yo];omega
theorem RM {ds:List Zb} {L L':ZK} {op v:Int} (h:Ap ds L op v=some L'):L'.vars=L.vars/\L'.par=L.par/\L'.con=L.con/\L'.fst=L.fst/\L'.tok.length=L.tok.length /\
  ∃L1,Q5 L v=some L1/\L'.own=Qu L1.own (gI L.fst v) (ZP ds (gI L.con v)):=by
 rw [Ap] at h
 split at h
 ·cases h
 ·cases ht:Q5 L v with
  | none=>rw [ht] at h;cases h
  | some L1=>
   rw [ht] at h
   simp only at h
   obtain ⟨t1,t2,t3,t4,t5,t6,t7⟩:=JQ ht
   cases h
   refine ⟨t2,t3,t4,t5,?_,L1,rfl,rfl⟩
   split
   ·rw [VQ]
   ·rfl
theorem Lw {n:ZG} {op num:Int} {ds:List Zb} {q:Int}:∀{as1:LI} {i:Nat} {L L':ZK},XI ds L q->KA n op num as1 i L=some L'->XI ds L' q/\L'.vars=L.vars/\L'.par=L.par/\L'.con=L.con/\L'.fst=L.fst/\L'.tok=L.tok
 | [],i,L,L',hk,h=>by rw [KA] at h;cases h;exact ⟨hk,rfl,rfl,rfl,rfl,rfl⟩
 | a::r,i,L,L',hk,h=>by
  rw [KA] at h
  split at h
  ·cases ht:Q5 L a with
   | none=>rw [ht] at h;cases h
   | some L1=>
    rw [ht] at h
    obtain ⟨t1,t2,t3,t4,t5,t6,t7⟩:=JQ ht
    obtain ⟨k1,k2,k3,k4,k5,k6⟩:=Lw (hk.take ht) h
    exact ⟨k1,k2.trans t2,k3.trans t3,k4.trans t4,k5.trans t5,k6.trans t6⟩
  ·exact Lw hk h
theorem XI.le {ds:List Zb} {L:ZK} {q q':Int} (h:XI ds L q) (hq:q<=q'):XI ds L q':=⟨h.len,h.down,h.arm,h.nn,fun x hx=>Int.le_trans (h.bd x hx) hq⟩
theorem XI.turn {ds:List Zb} {L L':ZK} {q q':Int} (hk:XI ds L q) (h1:L'.vars=L.vars) (h2:L'.par=L.par) (h3:L'.con=L.con) (h4:L'.fst=L.fst) (h5:L'.tok.length=L.tok.length) (h6:L'.own.length=L.own.length)
  (h7:∀x∈L'.own,0<=x) (h8:∀x∈L'.own,x<=q'):XI ds L' q':=by
 obtain ⟨f1,f2,f3,f4,f5⟩:=hk.len
 refine ⟨⟨by rw [h6,h1];exact f1,by rw [h2,h1];exact f2,by rw [h3,h1];exact f3,by rw [h4,h1];exact f4,by rw [h5,h1];exact f5⟩,?_,?_,h7,h8⟩
 ·rw [h1,h2];exact hk.down
 ·rw [h1,h3,h4];exact hk.arm
theorem DA {xs ys:LI} {j:Int} (h:j.toNat<xs.length):gI (xs++ys) j=gI xs j:=by
 rw [gI,gI,JV h]
theorem P0 {xs:LI} {y:Int} {j:Int} (h:j.toNat=xs.length):gI (xs++[y]) j=y:=by
 rw [gI,h];simp
theorem XI.grow {ds:List Zb} {L:ZK} {q t o p:Int} (hk:XI ds L q) (hp:p<L.vars.length) (ho:0<=o/\o<=q):XI ds (L.grow t o p) q:=by
 obtain ⟨f1,f2,f3,f4,f5⟩:=hk.len
 refine ⟨⟨by simp [ZK.grow,f1],by simp [ZK.grow,f2],by simp [ZK.grow,f3],by simp [ZK.grow,f4],by simp [ZK.grow,f5]⟩,?_,?_,?_,?_⟩
 ·intro j hj hl
  simp only [ZK.grow,ZX,Bk] at hl ⊢
  by_cases hlt:j<L.vars.length
  ·rw [DA om];exact hk.down j hj hlt
  ·rw [P0 om];omega
 ·intro x hx hl
  simp only [ZK.grow,ZX,Bk] at hl ⊢
  by_cases hlt:x<L.vars.length
  ·rw [DA om,DA om]
   intro hc
   have:=hk.arm x hx hlt hc
   exact ⟨this.1,by omega⟩
  ·rw [P0 om];omega
 ·intro x hx
  simp only [ZK.grow,Xl,Xy] at hx
  rcases hx with hx|rfl
  ·exact hk.nn x hx
  ·exact ho.1
 ·intro x hx
  simp only [ZK.grow,Xl,Xy] at hx
  rcases hx with hx|rfl
  ·exact hk.bd x hx
  ·exact ho.2
theorem P1 {xs:LI} {k:Nat} {a:Int} {j:Int} (h:xs.length<=j.toNat/\j.toNat<xs.length+k):gI (xs++List.replicate k a) j=a:=by
 rw [gI,D8 h.1,List.getElem?_replicate,Zk om];rfl
theorem P2 {xs:LI} {x j c:Int} (h:j.toNat=x.toNat) (hl:x.toNat<xs.length):gI (xs.set x.toNat c) j=c:=by
 rw [gI,h,List.getElem?_set_self hl];rfl
theorem P3 {xs:LI} {x j c:Int} (h:j.toNat≠x.toNat):gI (xs.set x.toNat c) j=gI xs j:=by
 rw [gI,gI,List.getElem?_set_ne (fun q=>h q.symm)]
theorem Pn {p:Int}:∀(fs:LI) (L:ZK),CC L p fs=⟨L.vars++fs,L.own++List.replicate fs.length 0,L.par++List.replicate fs.length p,L.con++List.replicate fs.length (-1),
  L.fst++List.replicate fs.length (-1),L.tok++List.replicate fs.length (-1)⟩
 | [],L=>by simp [CC]
 | t::r,L=>by rw [CC,Pn r];simp [ZK.grow,Ek]
theorem Z39 {ds:List Zb} {L:ZK} {q x c:Int} (hk:XI ds L q) (hq:0<=q) (hx:0<=x/\x<L.vars.length):XI ds (Ci ds L x c) q/\(Ci ds L x c).vars=L.vars++ZP ds c:=by
 obtain ⟨f1,f2,f3,f4,f5⟩:=hk.len
 rw [Ci,Pn]
 refine ⟨⟨⟨by simp [f1],by simp [f2],by simp [f3],by simp [f4],by simp [f5]⟩,?_,?_,?_,?_⟩,rfl⟩
 ·intro j hj hl
  simp only [ZX] at hl ⊢
  by_cases hlt:j<L.vars.length
  ·rw [DA om];exact hk.down j hj hlt
  ·rw [P1 om];omega
 ·intro y hy hl
  simp only [ZX] at hl ⊢
  by_cases hlt:y<L.vars.length
  ·rw [DA (by simp;omega),DA (by simp;omega)]
   by_cases he:y.toNat=x.toNat
   ·rw [P2 he om,P2 he om]
    intro _
    exact ⟨by omega,by simp⟩
   ·rw [P3 he,P3 he]
    intro hc
    have:=hk.arm y hy hlt hc
    exact ⟨this.1,by omega⟩
  ·rw [P1 (by simp;omega)];omega
 ·intro y hy
  simp only [Xl,List.mem_replicate] at hy
  rcases hy with hy|⟨_,rfl⟩
  ·exact hk.nn y hy
  ·exact Int.le_refl 0
 ·intro y hy
  simp only [Xl,List.mem_replicate] at hy
  rcases hy with hy|⟨_,rfl⟩
  ·exact hk.bd y hy
  ·exact hq
theorem H2 {n:ZG} {L:ZK} {q:Int} {s:Z5} {i:Nat} {m:LI} (hk:XI n.decls L q) (hq:0<=q) (hf:Ce n L.vars s) (hop:s.op=7∨s.op=8) (hm:(W0 n.decls s.op s.num)[i]? = some m) :
  XI n.decls (TF n.decls L s.op s.num s.args i) q/\(TF n.decls L s.op s.num s.args i).vars=L.vars++m:=by
 rw [TF]
 split
 ·rename_i h8
  obtain ⟨a,ha⟩:=hf.one om
  have hb:=hf.args a (by rw [ha];simp)
  have hg:gI s.args 0=a:=by rw [ha];rfl
  rw [W0,Za om,Jl] at hm
  cases hc:(ZZ n.decls s.num)[i]? with
  | none=>rw [hc] at hm;cases hm
  | some c=>
   rw [hc] at hm
   cases hm
   have hgc:gI (ZZ n.decls s.num) (i:Int)=c:=by rw [gI];simp [hc]
   rw [hg,hgc]
   exact Z39 hk hq hb
 ·rename_i h8
  rw [W0,Zk om] at hm
  have:m=[]:=by
   match i,hm with
   | 0,hm=>simpa using hm.symm
   | 1,hm=>simpa using hm.symm
   | i+2,hm=>simp at hm
  subst this
  exact ⟨hk,by simp⟩
theorem Z1b {n:ZG}:∀{l:List Z5} {us vs:LI},Uw n l us=some vs->us.length<=vs.length
 | [],us,vs,h=>by rw [Uw] at h;cases h;exact X0 _
 | s::r,us,vs,h=>by
  rw [Uw] at h
  split at h
  ·cases h
  ·have:=Z1b h
   split at this
   ·simp only [ZX,Bk] at this;omega
   ·exact this
theorem Po {n:ZG} {ln:LI} {L L':ZK} {op num into q:Int} {args:LI} {ds:List Zb} (hk:XI ds L q) (h:Jy n ln L op num into args=some L'):XI ds L' q/\L'.vars=L.vars:=by
 rw [Jy] at h
 cases ht:KA n op num args 0 L with
 | none=>rw [ht] at h;cases h
 | some L1=>
  rw [ht] at h
  simp only at h
  obtain ⟨k1,k2,k3,k4,k5,k6⟩:=Lw hk ht
  split at h
  ·rw [EO] at h
   split at h
   ·split at h
    ·cases h
    ·cases h
     exact ⟨k1.turn rfl rfl rfl rfl (by simp) rfl k1.nn k1.bd,k2⟩
   ·cases h;exact ⟨k1,k2⟩
  ·cases h
theorem Z4m {L L':ZK} {m:Nat} (h:Ju L m=some L'):L'=L.take m/\C6 (L.own.drop m) (L.tok.drop m)=true:=by
 rw [Ju] at h
 split at h
 ·rename_i hz;cases h;exact ⟨rfl,hz⟩
 ·cases h
theorem MN {r:Option ZK} {f:ZK->Option ZK} {L:ZK} (h:FH r f=some L):∃L1,r=some L1/\f L1=some L:=by
 cases r with
 | none=>cases h
 | some L1=>exact ⟨L1,rfl,h⟩
theorem R7 (n:ZG) (hn:Xu n) (ln:LI):∀m:Nat,
  (∀(s:Z5) (L L':ZK) (q:Int),s.sz<=m->XI n.decls L q->0<=q->0<=YZ n L.vars s->QK n ln L s=some L'->XI n.decls L' (q+4*s.sz)/\L'.vars=Kf n L.vars s) /\
  (∀(b:Z8) (L O:ZK) (q:Int) (k:Nat),b.sz<=m->XI n.decls L q->0<=q->0<=W4 n L.vars b->k<=L.vars.length->U2 n ln L k b=some O ->
   (O.own.length=k/\O.tok.length=k/\(∀x∈O.own,0<=x/\x<=q+4*b.sz))/\Tl O/\O.vars.length=k):=by
 intro m
 induction m with
 | zero=>exact ⟨fun s _ _ _ h=>by have:=s.sz_pos;omega,fun s _ _ _ _ h=>by have:=s.sz_pos;omega⟩
 | succ m ih=>
  have hs:∀(s:Z5) (L L':ZK) (q:Int),s.sz<=m+1->XI n.decls L q->0<=q->0<=YZ n L.vars s->QK n ln L s=some L'->XI n.decls L' (q+4*s.sz)/\L'.vars=Kf n L.vars s:=by
   intro s L L' q XO hk hq hty h
   have hp:=s.sz_pos
   have hf:=Z1a hty
   obtain ⟨f1,f2,f3,f4,f5⟩:=hk.len
   rw [Z18] at h
   unfold Aj at h
   cases hpk:JO n ln L s.op s.num s.into s.args (J5 n ln L s.op s.num s.args s.kids) with
   | none=>rw [hpk] at h;cases h
   | some L1=>
    rw [hpk] at h
    simp only at h
    have key:XI n.decls L1 (q+4*s.sz)/\L1.vars=L.vars:=by
     rw [JO] at hpk
     split at hpk
     ·obtain ⟨d1,d2,d3,d4,d5,d6⟩:=NW hpk
      refine ⟨hk.turn d1 d2 d3 d4 (by rw [d5]) (by rw [d6,VQ]) ?_ ?_,d1⟩
      ·rw [d6];intro x hx
       rcases JK hx with hx|rfl
       ·exact hk.nn x hx
       ·have:=Lp (v:=gI s.args 0) hk.nn;omega
      ·rw [d6];intro x hx
       rcases JK hx with hx|rfl
       ·have:=hk.bd x hx;omega
       ·have:=Lo (v:=gI s.args 0) hk.bd hq;omega
     split at hpk
     ·exact ⟨(hk.take hpk).le om,(JQ hpk).2.1⟩
     split at hpk
     ·rename_i hop
      obtain ⟨d1,d2,d3,d4,d5,Lt,ht,d6⟩:=RM hpk
      have hkt:=hk.take ht
      have h3:=Vj hn.decls (gI L.con (gI s.args 0))
      refine ⟨hk.turn d1 d2 d3 d4 d5 ?_ ?_ ?_,d1⟩
      ·rw [d6,Io,(JQ ht).2.2.2.2.2.2,VQ]
      ·rw [d6];exact Ip _ _ _ hkt.nn
      ·rw [d6];intro x hx
       have:=In _ _ _ q hq hkt.bd x hx;omega
     split at hpk
     ·rename_i hop
      split at hpk
      ·cases hpk
      ·cases hks:s.kids with
       | nil=>rw [hks,J5] at hpk;cases hpk
       | cons b bs=>
        rw [hks,J5] at hpk
        unfold CN at hpk
        cases hb:U2 n ln (TF n.decls L s.op s.num s.args 0) L.vars.length b with
        | none=>rw [hb] at hpk;cases hpk
        | some one=>
         rw [hb] at hpk
         simp only at hpk
         split at hpk
         ·cases hpk
          obtain ⟨q1,q2,q3⟩:=hf.kids hop
          have hks0:s.kids[0]? = some b:=by rw [hks];rfl
          obtain ⟨a0,ha0⟩:=B1 (xs:=W0 n.decls s.op s.num) (j:=0) om
          obtain ⟨k1,k2⟩:=H2 hk hq hf hop ha0
          have hbz:=Qm hks0
          obtain ⟨⟨r1,r2,r3⟩,_⟩:=ih.2 b _ one q L.vars.length om k1 hq (by rw [k2];exact q3 0 b a0 hks0 ha0) (by rw [k2];simp) hb
          refine ⟨hk.turn rfl rfl rfl rfl (by simp only;omega) (by simp only;omega) (fun x hx=>(r3 x hx).1) (fun x hx=>?_),rfl⟩
          have:=(r3 x hx).2;omega
         ·cases hpk
     ·obtain ⟨k1,k2⟩:=Po hk hpk
      exact ⟨k1.le om,k2⟩
    split at h
    ·rename_i hd
     cases h
     refine ⟨key.1.grow om ?_,by rw [Kf,Zk hd];simp [ZK.grow,key.2]⟩
     split<;>omega
    ·rename_i hd
     cases h
     exact ⟨key.1,by rw [Kf,Za hd];exact key.2⟩
  refine ⟨hs,?_⟩
  intro b L O q k XO hk hq hty hkl h
  have hsteps:∀(l:List Z5) (L L':ZK) (q:Int) (vs:LI),Yw l<=m->XI n.decls L q->0<=q->Uw n l L.vars=some vs->JP n ln L l=some L'->XI n.decls L' (q+4*Yw l)/\L'.vars=vs:=by
   intro l
   induction l with
   | nil=>intro L L' q vs _ hk _ h1 h2;rw [Uw] at h1;rw [JP] at h2;cases h1;cases h2;exact ⟨by simpa [Yw] using hk,rfl⟩
   | cons s r ihr=>
    intro L L' q vs hz hk hq h1 h2
    rw [Yw] at hz
    rw [JP] at h2
    obtain ⟨L1,e1,e2⟩:=MN h2
    rw [Uw] at h1
    split at h1
    ·cases h1
    ·rename_i h0
     obtain ⟨k1,k2⟩:=hs s L L1 q om hk hq om e1
     obtain ⟨k3,k4⟩:=ihr L1 L' (q+4*s.sz) vs om k1 om (by rw [k2];exact h1) e2
     exact ⟨k3.le (by rw [Yw];omega),k4⟩
  have hbz:=b.sz_eq
  rw [It] at h
  obtain ⟨L1,e1,e2⟩:=MN h
  rw [Iu] at hty
  cases hv:Uw n b.steps L.vars with
  | none=>rw [hv] at hty;simp at hty
  | some vs=>
   obtain ⟨k1,k2⟩:=hsteps b.steps L L1 q vs om hk hq hv e1
   have hlen:=Z1b hv
   rw [Ah] at e2
   obtain ⟨L2,e3,e4⟩:=MN e2
   have k3:XI n.decls L2 (q+4*Yw b.steps)/\L2.vars=L1.vars:=by
    split at e3
    ·exact ⟨k1.take e3,(JQ e3).2.1⟩
    ·cases e3;exact ⟨k1,rfl⟩
   obtain ⟨rfl,_⟩:=Z4m e4
   obtain ⟨g1,g2,g3,g4,g5⟩:=k3.1.len
   have hl2:L2.vars.length=vs.length:=by rw [k3.2,k2]
   refine ⟨⟨by simp [ZK.take];omega,by simp [ZK.take];omega,fun x hx=>?_⟩,⟨by simp [ZK.take];omega,by simp [ZK.take];omega,by simp [ZK.take];omega,by simp [ZK.take];omega,by simp [ZK.take];omega⟩,by simp [ZK.take];omega⟩
   have hx':x∈L2.own:=QP hx
   have:=k3.1.nn x hx'
   have:=k3.1.bd x hx'
   omega
theorem Z19 {n:ZG} (hn:Xu n) {ln:LI} {s:Z5} {L L':ZK} {q:Int} (hk:XI n.decls L q) (hq:0<=q) (hty:0<=YZ n L.vars s) (h:QK n ln L s=some L'):XI n.decls L' (q+4*s.sz)/\L'.vars=Kf n L.vars s:=
 (R7 n hn ln s.sz).1 s L L' q (X0 _) hk hq hty h
theorem Nu {n:ZG} (hn:Xu n) {ln:LI} {b:Z8} {L O:ZK} {q:Int} {k:Nat} (hk:XI n.decls L q) (hq:0<=q) (hty:0<=W4 n L.vars b) (hkl:k<=L.vars.length) (h:U2 n ln L k b=some O) :
  O.own.length=k/\O.tok.length=k/\(∀x∈O.own,0<=x/\x<=q+4*b.sz):=
 ((R7 n hn ln b.sz).2 b L O q k (X0 _) hk hq hty hkl h).1
theorem Ff {n:ZG} (hn:Xu n) {ln:LI} {s:Z5} {L L1:ZK} {q:Int} (hk:XI n.decls L q) (hq:0<=q) (hf:Ce n L.vars s)
  (hpk:JO n ln L s.op s.num s.into s.args (J5 n ln L s.op s.num s.args s.kids)=some L1):XI n.decls L1 (q+4*s.sz)/\L1.vars=L.vars:=by
 have hp:=s.sz_pos
 obtain ⟨f1,f2,f3,f4,f5⟩:=hk.len
 rw [JO] at hpk
 split at hpk
 ·obtain ⟨d1,d2,d3,d4,d5,d6⟩:=NW hpk
  refine ⟨hk.turn d1 d2 d3 d4 (by rw [d5]) (by rw [d6,VQ]) ?_ ?_,d1⟩
  ·rw [d6];intro x hx
   rcases JK hx with hx|rfl
   ·exact hk.nn x hx
   ·have:=Lp (v:=gI s.args 0) hk.nn;omega
  ·rw [d6];intro x hx
   rcases JK hx with hx|rfl
   ·have:=hk.bd x hx;omega
   ·have:=Lo (v:=gI s.args 0) hk.bd hq;omega
 split at hpk
 ·exact ⟨(hk.take hpk).le om,(JQ hpk).2.1⟩
 split at hpk
 ·rename_i hop
  obtain ⟨d1,d2,d3,d4,d5,Lt,ht,d6⟩:=RM hpk
  have hkt:=hk.take ht
  have h3:=Vj hn.decls (gI L.con (gI s.args 0))
  refine ⟨hk.turn d1 d2 d3 d4 d5 ?_ ?_ ?_,d1⟩
  ·rw [d6,Io,(JQ ht).2.2.2.2.2.2,VQ]
  ·rw [d6];exact Ip _ _ _ hkt.nn
  ·rw [d6];intro x hx
   have:=In _ _ _ q hq hkt.bd x hx;omega
 split at hpk
 ·rename_i hop
  split at hpk
  ·cases hpk
  ·cases hks:s.kids with
   | nil=>rw [hks,J5] at hpk;cases hpk
   | cons b bs=>
    rw [hks,J5] at hpk
    unfold CN at hpk
    cases hb:U2 n ln (TF n.decls L s.op s.num s.args 0) L.vars.length b with
    | none=>rw [hb] at hpk;cases hpk
    | some one=>
     rw [hb] at hpk
     simp only at hpk
     split at hpk
     ·cases hpk
      obtain ⟨q1,q2,q3⟩:=hf.kids hop
      have hks0:s.kids[0]? = some b:=by rw [hks];rfl
      obtain ⟨a0,ha0⟩:=B1 (xs:=W0 n.decls s.op s.num) (j:=0) om
      obtain ⟨k1,k2⟩:=H2 hk hq hf hop ha0
      have hbz:=Qm hks0
      obtain ⟨r1,r2,r3⟩:=Nu hn k1 hq (by rw [k2];exact q3 0 b a0 hks0 ha0) (by rw [k2];simp) hb
      refine ⟨hk.turn rfl rfl rfl rfl (by simp only;omega) (by simp only;omega) (fun x hx=>(r3 x hx).1) (fun x hx=>?_),rfl⟩
      have:=(r3 x hx).2;omega
     ·cases hpk
 ·obtain ⟨k1,k2⟩:=Po hk hpk
  exact ⟨k1.le om,k2⟩
end Go.Abs
section
namespace Go.Abs
theorem Z3a {ds:List Zb} {op num:Int} {i:Nat} {m:LI} (h8:op=8) (h:(W0 ds op num)[i]? = some m):∃c,(ZZ ds num)[i]? = some c/\m=ZP ds c:=by
 rw [W0,Za om,Jl] at h
 cases hc:(ZZ ds num)[i]? with
 | none=>rw [hc] at h;cases h
 | some c=>rw [hc] at h;cases h;exact ⟨c,rfl,rfl⟩
theorem Zb0 {ds:List Zb} {L:ZK} {op num x c:Int} {args:LI} {i:Nat} (h8:op=8) (hx:args[0]? = some x) (hc:(ZZ ds num)[i]? = some c):TF ds L op num args i=Ci ds L x c:=by
 have h1:gI args 0=x:=by rw [gI];simp [hx]
 have h2:gI (ZZ ds num) (i:Int)=c:=by rw [gI];simp [hc]
 rw [TF,Zk h8,h1,h2]
theorem Zb1 {ds:List Zb} {L:ZK} {op num:Int} {args:LI} {i:Nat} (h8:¬op=8):TF ds L op num args i=L:=by rw [TF,Za h8]
theorem Zb2 {n:ZG} {ln:LI} {L:ZK} {op num:Int} {args:LI} {kids:List Z8} {kb:Z8} (h:kids[0]? = some kb) :
  J5 n ln L op num args kids=CN L (U2 n ln (TF n.decls L op num args 0) L.vars.length kb) fun one=>JF n ln L op num args one (kids.drop 1) 1:=by
 cases kids with
 | nil=>simp at h
 | cons b bs=>simp at h;subst h;rw [J5];rfl
theorem Zb3 {n:ZG} {ln:LI} {L one:ZK} {op num:Int} {args:LI} {kids:List Z8} {kb:Z8} {k:Nat} (h:kids[k]? = some kb) :
  JF n ln L op num args one (kids.drop k) k=HG one (U2 n ln (TF n.decls L op num args k) L.vars.length kb) (JF n ln L op num args one (kids.drop (k+1)) (k+1)):=by
 rw [Yk h,JF]
def Cl (n:ZG) (ln:LI) (L:ZK) (s:Z5):Option ZK:=
 if s.op=8/\¬T3 L ln (gI s.args 0)=true then none else J5 n ln L s.op s.num s.args s.kids
theorem Z3z {n:ZG} {ln:LI} {L:ZK} {s:Z5} {kb:Z8} (h:¬(s.op=8/\¬T3 L ln (gI s.args 0)=true)) (hk:s.kids[0]? = some kb) :
  Cl n ln L s=CN L (U2 n ln (TF n.decls L s.op s.num s.args 0) L.vars.length kb) fun one=>JF n ln L s.op s.num s.args one (s.kids.drop 1) 1:=by
 rw [Cl,Za h,Zb2 hk]
theorem Kz {xs:LI} {x:Int} (h:xs[0]? = some x):gI xs 0=x:=by rw [gI];simp [h]
end Go.Abs
namespace Go.Abs
theorem Tl.grow {L:ZK} {t o p:Int} (h:Tl L):Tl (L.grow t o p):=by
 obtain ⟨f1,f2,f3,f4,f5⟩:=h
 exact ⟨by simp [ZK.grow,f1],by simp [ZK.grow,f2],by simp [ZK.grow,f3],by simp [ZK.grow,f4],by simp [ZK.grow,f5]⟩
theorem Tl.arm {L:ZK} {i j:Nat} {c d:Int} (h:Tl L):Tl ⟨L.vars,L.own,L.par,L.con.set i c,L.fst.set j d,L.tok⟩:=by
 obtain ⟨f1,f2,f3,f4,f5⟩:=h
 exact ⟨f1,f2,by simp [f3],by simp [f4],f5⟩
end Go.Abs
namespace Go.Abs
theorem PV {n:ZG} (hn:Xu n) {ln:LI} {L O:ZK} {q:Int} {s:Z5} {i:Nat} {kb:Z8} {m:LI} (hk:XI n.decls L q) (hq:0<=q) (hf:Ce n L.vars s) (hop:s.op=7∨s.op=8)
  (_:s.kids[i]? = some kb) (harm:(W0 n.decls s.op s.num)[i]? = some m) (hbt:0<=W4 n (L.vars++m) kb) (h:U2 n ln (TF n.decls L s.op s.num s.args i) L.vars.length kb=some O) :
  O.own.length=L.vars.length/\O.tok.length=L.vars.length:=by
 obtain ⟨k1,k2⟩:=H2 hk hq hf hop harm
 obtain ⟨r1,r2,_⟩:=Nu hn k1 hq (by rw [k2];exact hbt) (by rw [k2];simp) h
 exact ⟨r1,r2⟩
theorem Zf2 {one two:ZK} {r:Bool} (h:¬(¬one.own=two.own∨¬one.tok=two.tok)):HG one (some two) r=r:=Zk ⟨VP.1 fun q=>h (.inl q),VP.1 fun q=>h (.inr q)⟩
theorem Zf1 {one two:ZK} {r:Bool} (h:¬one.own=two.own∨¬one.tok=two.tok):HG one (some two) r=false:=Za fun q=>h.elim (fun z=>z q.1) fun z=>z q.2
theorem Zby {L one:ZK} {f:ZK->Bool} (h:f one=true):CN L (some one) f=some ⟨L.vars,one.own,L.par,L.con,L.fst,one.tok⟩:=Zk h
theorem Rk {L one:ZK} {f:ZK->Bool} (h:f one=false):CN L (some one) f=none:=Za (by rw [h];simp)
end Go.Abs
namespace Go.Abs
section
variable {n:ZG} {ln:LI} {L:ZK} {s:Z5}
abbrev Aq (n:ZG) (ln:LI) (L:ZK) (s:Z5):Option ZK:=JO n ln L s.op s.num s.into s.args (J5 n ln L s.op s.num s.args s.kids)
theorem RU {x:Int} (h:s.op=14) (hx:gI s.args 0=x):Aq n ln L s=Cr L ln x:=hx▸Zk h
theorem RW {x:Int} (h:s.op=15) (hx:gI s.args 0=x):Aq n ln L s=Q5 L x:=by rw [<-hx,Aq,JO,Za om,Zk h]
theorem RY {x:Int} (h:s.op=16∨s.op=17) (hx:gI s.args 0=x):Aq n ln L s=Ap n.decls L s.op x:=by rw [<-hx,Aq,JO,Za om,Za om,Zk h]
theorem RZ (h:s.op=7∨s.op=8):Aq n ln L s=Cl n ln L s:=by rw [Aq,JO,Za om,Za om,Za om,Zk h,Cl]
theorem S0 (h1:¬s.op=14) (h2:¬s.op=15) (h3:¬(s.op=16∨s.op=17)) (h4:¬(s.op=7∨s.op=8)):Aq n ln L s=Jy n ln L s.op s.num s.into s.args:=by
 rw [Aq,JO,Za h1,Za h2,Za h3,Za h4]
theorem Z57 {v:Int} (h:¬T3 L ln v=true):Cr L ln v=none:=Za h
theorem Z58 {v x:Int} (h:¬¬T3 L ln v=true) (hx:gI L.own v=x):Cr L ln v=some ⟨L.vars,L.own.set v.toNat (x+1),L.par,L.con,L.fst,L.tok⟩:=by rw [Cr,Zk (VP.1 h),hx]
theorem Tj (n:ZG) (ln:LI) (L:ZK) (s:Z5):QK n ln L s=Aj L s.op (YZ n L.vars s) (Aq n ln L s):=Z18 n ln L s
theorem Tb {X:ZK} {op t:Int} (h:Xf op=true/\t≠0):Aj L op t (some X)=some (X.grow t 1 (-1)):=by
 unfold Aj;simp only [h.1,↓reduceIte];rw [Zk h.2]
theorem Tc {X:ZK} {op t:Int} (h:¬(Xf op=true/\t≠0)) (h2:Xf op=true):Aj L op t (some X)=some (X.grow 0 0 (-1)):=by
 have ht:t=0:=VP.1 fun q=>h ⟨h2,q⟩
 subst ht
 unfold Aj;simp only [h2,↓reduceIte];rfl
theorem Td {X:ZK} {op t:Int} (h:¬Xf op=true):Aj L op t (some X)=some X:=by
 unfold Aj;simp only [Za h]
end
end Go.Abs
namespace Go.Abs
theorem Nv {n:ZG} {us:LI} {b:Z8} (h:0<=W4 n us b):∃vs t,Uw n b.steps us=some vs/\V0 vs b.result=some t/\0<=t:=by
 rw [Iu] at h
 cases hv:Uw n b.steps us with
 | none=>rw [hv] at h;simp at h
 | some vs=>
  rw [hv] at h
  simp only at h
  cases ha:V0 vs b.result with
  | none=>rw [ha] at h;simp at h
  | some t=>rw [ha] at h;exact ⟨vs,t,rfl,ha,h⟩
theorem Z1c {n:ZG} {us vs:LI} {s:Z5} {r:List Z5} (h:Uw n (s::r) us=some vs):0<=YZ n us s/\Uw n r (Kf n us s)=some vs:=by
 rw [Uw] at h
 split at h
 ·cases h
 ·exact ⟨by omega,h⟩
theorem Z02 (n:ZG) (us:LI) (s:Z5):us.length<=(Kf n us s).length/\(Kf n us s).length<=us.length+s.sz:=by
 have:=s.sz_pos
 rw [Kf];split
 ·simp only [ZX,Bk];omega
 ·omega
end Go.Abs
namespace Go.Abs
theorem Z5v {X L:ZK} {m:Nat} {r x:Int} (hg:gI L.vars r=x) (h:x≠0) (ht:Q5 L r=some X):Ah m r L=Ju X m:=by rw [Ah,hg,Zk h,ht];rfl
theorem Z5u {L:ZK} {m:Nat} {r x:Int} (hg:gI L.vars r=x) (h:x≠0) (ht:Q5 L r=none):Ah m r L=none:=by rw [Ah,hg,Zk h,ht];rfl
theorem EF {L:ZK} {m:Nat} {r x:Int} (hg:gI L.vars r=x) (h:¬x≠0):Ah m r L=Ju L m:=by rw [Ah,hg,Za h];rfl
end Go.Abs
namespace Go.Abs
theorem RT {ds:List Zb} {lent:LI}:∀{ps:LI} {i:Nat} {L:ZK},XI ds L 1->XI ds (Bc lent ps i L) 1/\(Bc lent ps i L).vars=L.vars++ps
 | [],i,L,hk=>⟨hk,by simp [Bc]⟩
 | t::r,i,L,hk=>by
  rw [Bc]
  obtain ⟨k1,k2⟩:=RT (lent:=lent) (ps:=r) (i:=i+1) (hk.grow (t:=t) (o:=if t≠0/\¬(i:Int)∈lent then 1 else 0) (p:=-1) om (by split<;>omega))
  exact ⟨k1,by rw [k2];simp [ZK.grow]⟩
theorem Zc1 (ds:List Zb) (r:YE):XI ds (KG r) 1/\(KG r).vars=r.params:=by
 have h:XI ds (⟨[],[],[],[],[],[]⟩:ZK) 1:=⟨⟨rfl,rfl,rfl,rfl,rfl⟩,fun j h1 h2=>by simp at h2;omega,fun j h1 h2=>by simp at h2;omega,by simp,by simp⟩
 obtain ⟨k1,k2⟩:=RT (lent:=r.lent) (ps:=r.params) (i:=0) h
 exact ⟨k1,by rw [KG,k2];rfl⟩
end Go.Abs
namespace Go.Abs
theorem SF {n:ZG}:∀{l:List YE},Be n l=true->∀r∈l,¬Bh r.body<0/\W4 n r.params r.body=r.result
 | [],_,r,h=>by simp at h
 | a::l,h,r,hr=>by
  rw [Be] at h
  split at h
  ·rename_i h1
   rcases YN.1 hr with rfl|hr
   ·exact h1
   ·exact SF h r hr
  ·cases h
theorem Zi2 {n:ZG} (hz:JW n) (h:Kj n=true):Xu n/\∀r∈n.routines,0<=W4 n r.params r.body:=by
 simp only [Kj,Xb] at h
 refine ⟨Rp hz h.1,fun r hr=>?_⟩
 rw [(SF h.2 r hr).2]
 have h1:=h.1
 simp only [Ao,UO,Xb] at h1
 have:=HI h1.2.1.2.2.1 (Q3 r) (XH.2 ⟨r,hr,rfl⟩)
 simp only [KH,Xb,decide_eq_true_eq,Q3] at this
 exact (of_decide_eq_true this.2.2).1
end Go.Abs
end
section
namespace Go.Abs
end Go.Abs
namespace Go.Abs
end Go.Abs
namespace Go.Abs
end Go.Abs
end
section
namespace Go.Abs
theorem Z4a {c:Int} {ds:List Zb} {k:Nat} {d:Zb} {r:Int × LI} (h:ds[k]? = some d) (hn:¬(c-YJ (ds.take k)>=0/\c-YJ (ds.take k)<d.cons.length))
  (hr:Us c (ds.drop k) k (YJ (ds.take k))=r):Us c (ds.drop (k+1)) (k+1) (YJ (ds.take (k+1)))=r:=by
 rw [Yk h,Us,Za om] at hr
 rw [V5 h,Di,<-hr];rfl
end Go.Abs
namespace Go.Abs
theorem Z4c {c:Int} {ds:List Zb} {k:Nat} {d:Zb} {x:Yd} (h:ds[k]? = some d) (hn:c-YJ (ds.take k)>=0/\c-YJ (ds.take k)<d.cons.length)
  (hx:d.cons[(c-YJ (ds.take k)).toNat]? = some x):Us c (ds.drop k) k (YJ (ds.take k))=((k:Int)+1,x.fields):=by
 rw [Yk h,Us,Zk om,hx];rfl
def Bm (c:Int) (z:Nat) (v:Int):Prop:=v=c-z∨(c<0/\c-z < -9223372036854775808/\v=c-z+18446744073709551616)
theorem Z3d {c:Int} {z l:Nat} {v:Int} (h:Bm c z v) (hz:z<=100) (hl:l<=3) (hc:-9223372036854775808<=c/\c<=9223372036854775807):Bm c (z+l) (D7 (v-l)):=by
 unfold Bm at *;rw [D7,IntKind.wrap_i64];omega
theorem Z4b {c v:Int} {ds:List Zb} {k:Nat} {d:Zb} {r:Int × LI} (h:ds[k]? = some d) (ha:Bm c (YJ (ds.take k)) v) (hn:¬(v>=0/\v<d.cons.length))
  (hr:Us c (ds.drop k) k (YJ (ds.take k))=r):Us c (ds.drop (k+1)) (k+1) (YJ (ds.take (k+1)))=r:=Z4a h (by unfold Bm at ha;omega) hr
theorem Z4d {c v:Int} {ds:List Zb} {k:Nat} {d:Zb} {x:Yd} (h:ds[k]? = some d) (ha:Bm c (YJ (ds.take k)) v) (hz:YJ (ds.take k)<=100) (hl:d.cons.length<=3) (hc:-9223372036854775808<=c)
  (hn:v>=0/\v<d.cons.length) (hx:d.cons[v.toNat]? = some x):Us c (ds.drop k) k (YJ (ds.take k))=((k:Int)+1,x.fields):=by
 have:v=c-(YJ (ds.take k):Int):=by unfold Bm at ha;omega
 subst this
 exact Z4c h hn hx
end Go.Abs
namespace Go.Abs
abbrev NS (ds:List Zb) (d:Zb):Prop:=
 (((¬(0<=d.frm/\d.frm<=ds.length))∨(¬(0<=d.to_/\d.to_<=ds.length)))∨((d.cons.length:Int)>3))∨(((d.cons.length:Int)>0)/\((d.frm≠0)∨(d.to_≠0)))
theorem Z51 {ds:List Zb} {d:Zb} {i:Nat} (h:NS ds d):T4 ds d i=false:=by
 rw [T4]
 split
 ·rw [Za];rintro ⟨h1,h2,h3⟩
  rcases h with ((h|h)|h)|h<;>omega
 ·split
  ·rfl
  ·rcases h with ((h|h)|h)|h
   ·rw [decide_eq_false h];rfl
   ·rw [decide_eq_false h,Bool.and_false]
   ·omega
   ·omega
theorem Z52 {ds:List Zb} {d:Zb} {i:Nat} (hl:0<d.cons.length) (h:TC ds.length d.cons=false):T4 ds d i=false:=by
 rw [T4,Zk hl];split
 ·exact h
 ·rfl
theorem Z53 {ds:List Zb} {d:Zb} {i:Nat} (hl:d.cons.length=0) (h:QV d (ds.take i)=true):T4 ds d i=false:=by
 rw [T4,Za om,Zk h]
theorem Z54 {ds:List Zb} {d:Zb} {i:Nat} (h1:¬NS ds d) (h2:TC ds.length d.cons=true) (h3:d.cons.length=0->QV d (ds.take i)=false):T4 ds d i=true:=by
 rw [T4]
 have ha:0<=d.frm/\d.frm<=ds.length:=VP.1 fun q=>h1 (.inl (.inl (.inl q)))
 have hb:0<=d.to_/\d.to_<=ds.length:=VP.1 fun q=>h1 (.inl (.inl (.inr q)))
 have hc:¬(d.cons.length:Int)>3:=fun q=>h1 (.inl (.inr q))
 split
 ·rename_i hl
  have hd:¬(d.frm≠0∨d.to_≠0):=fun q=>h1 (.inr ⟨by omega,q⟩)
  rw [Zk ⟨by omega,by omega,by omega⟩];exact h2
 ·rw [Za (by rw [h3 om];simp),decide_eq_true ha,decide_eq_true hb];rfl
theorem MS {ds:List Zb} {k:Nat} {d:Zb} (h:ds[k]? = some d) (hA:T4 ds d k=false) (c:T5 ds (ds.drop k) k=T5 ds ds 0):false=WM ds:=by
 rw [WM,<-c,Yk h,T5,Ez h,hA,Za (by simp),Bool.and_false]
theorem Zi4 {ds:List Zb} {k:Nat} {d:Zb} {r:Bool} (h:ds[k]? = some d) (hA:T4 ds d k=true) (c:T5 ds (ds.drop k) k=r):T5 ds (ds.drop (k+1)) (k+1)=r:=by
 rw [Yk h,T5,Ez h,hA,Zk rfl] at c;exact c
theorem Zi3 {ds:List Zb} {k:Nat} (hl:ds.length<=4) (hk:ds.length<=k) (c:T5 ds (ds.drop k) k=T5 ds ds 0):true=WM ds:=by
 rw [WM,<-c,Xm hk,decide_eq_true hl];rfl
theorem Z4e {m:Nat} {c:Yd} (h:((c.fields.length:Int)>3)∨(¬(Wk m c.fields=true))):Js m c=false:=by
 rw [Js]
 rcases h with h|h
 ·rw [decide_eq_false om];rfl
 ·rw [Q8.2 h,Bool.and_false]
theorem Z4f {m:Nat} {c:Yd} (h:¬(((c.fields.length:Int)>3)∨(¬(Wk m c.fields=true)))):Js m c=true:=by
 rw [Js,VP.1 fun q=>h (.inr q),decide_eq_true (by have:¬(c.fields.length:Int)>3:=fun q=>h (.inl q);omega)];rfl
end Go.Abs
end
section
namespace Go.Abs
structure Vz where
 pms:LI
 lnt:LI
 res:Int
abbrev PX (f:Vz):List AV:=[Z4 f.pms,Z4 f.lnt,.i f.res]
abbrev G3 (f:Vz):AV:=.agg (PX f)
def Ta (fs:List Vz):List AV:=fs.map G3
abbrev KF (xs:List Vz):AV:=.sl (Ta xs) none
abbrev Hh (xs:List Vz) (v:Value):AV:=.sl (Ta xs) (some v)
theorem Du {xs:List Vz} {j:Nat} {x:Vz} (h:xs[j]? = some x):(Ta xs)[j]? = some (G3 x):=by simp [Ta,h]
@[simp] theorem EC (xs:List Vz):(Ta xs).length=xs.length:=by simp [Ta]
theorem NZ (xs:List Vz):∀y∈Ta xs,y.leaves.length=3:=by intro y hy;simp only [Ta,XH] at hy;obtain ⟨x,_,rfl⟩:=hy;rfl
theorem Z5h (xs:List Vz):(Zg (Ta xs)).all AV.one=true:=J0 fun y hy=>by simp only [Ta,XH] at hy;obtain ⟨x,_,rfl⟩:=hy;rfl
def Av (m:Nat) (f:Vz):Bool:=KH m ⟨f.pms,f.res⟩&&Ur f.pms f.lnt
def KI (m:Nat):List Vz->Bool
 | []=>true
 | f::r=>if Av m f=true then KI m r else false
def Lh:List Vz->Bool
 | []=>false
 | f::_=>decide (f.pms.length=0)&&decide (f.res=0)
def Q7 (ds:List Zb) (fs:List Vz):Bool:=WM ds&&(decide (1<=fs.length/\fs.length<=4)&&(Lh fs&&KI ds.length fs))
theorem OJ {fs:List Vz} {x:Vz} (h:fs[0]? = some x):Lh fs=(decide (x.pms.length=0)&&decide (x.res=0)):=by
 cases fs with
 | nil=>simp at h
 | cons f r=>simp at h;subst h;rfl
theorem Rb {ps ls:LI} {j:Nat} {v:Int} {r:Bool} (h:ls[j]? = some v) (hg:(0<=v/\v<=(ps.length:Int)-1)/\ps[v.toNat]?≠some 0/\(∀p,(if j=0 then none else ls[j-1]?)=some p->p<v))
  (hr:QF ps (ls.drop j) (if j=0 then none else ls[j-1]?)=r):QF ps (ls.drop (j+1)) (if j+1=0 then none else ls[j+1-1]?)=r:=by
 rw [Yk h,M1 hg] at hr
 rw [Za om,show j+1-1=j from rfl,h];exact hr
theorem M3 {ps ls:LI} {j:Nat} {v:Int} {r:Bool} (h:ls[j]? = some v) (hg:¬((0<=v/\v<=(ps.length:Int)-1)/\ps[v.toNat]?≠some 0/\(∀p,(if j=0 then none else ls[j-1]?)=some p->p<v)))
  (hr:QF ps (ls.drop j) (if j=0 then none else ls[j-1]?)=r):r=false:=by
 rw [Yk h,H8 hg] at hr;exact hr.symm
theorem HH {m:Nat} {fs:List Vz} {k:Nat} {f:Vz} {r:Bool} (h:fs[k]? = some f) (hb:Av m f=false) (hr:KI m (fs.drop k)=r):r=false:=by
 rw [Yk h,KI,hb,Za (by simp)] at hr;exact hr.symm
theorem Zfa {m:Nat} {fs:List Vz} {k:Nat} {f:Vz} {r:Bool} (h:fs[k]? = some f) (hb:Av m f=true) (hr:KI m (fs.drop k)=r):KI m (fs.drop (k+1))=r:=by
 rw [Yk h,KI,Zk hb] at hr;exact hr
end Go.Abs
namespace Go.Abs
section
variable {ds:List Zb} {fs:List Vz} {x:Vz}
theorem Zi9 (h:((¬(WM ds=true))∨((fs.length:Int)<1))∨((fs.length:Int)>4)):false=Q7 ds fs:=by
 rw [Q7]
 rcases h with (h|h)|h
 ·rw [Q8.2 h];rfl
 ·rw [decide_eq_false (p:=1<=fs.length/\fs.length<=4) om];simp
 ·rw [decide_eq_false (p:=1<=fs.length/\fs.length<=4) om];simp
theorem Z1u (hx:fs[0]? = some x) (h:((x.pms.length:Int)>0)∨x.res≠0):false=Q7 ds fs:=by
 rw [Q7,OJ hx]
 rcases h with h|h
 ·rw [decide_eq_false (p:=x.pms.length=0) om];simp
 ·rw [decide_eq_false (p:=x.res=0) h];simp
theorem I4 (h:KI ds.length fs=false):false=Q7 ds fs:=by rw [Q7,h];simp
theorem Zia (h:¬(((¬(WM ds=true))∨((fs.length:Int)<1))∨((fs.length:Int)>4))) (hx:fs[0]? = some x) (h1:¬((x.pms.length:Int)>0)) (h2:¬x.res≠0) (h3:KI ds.length fs=true) :
  true=Q7 ds fs:=by
 have hv:WM ds=true:=VP.1 fun q=>h (.inl (.inl q))
 have ha:¬(fs.length:Int)<1:=fun q=>h (.inl (.inr q))
 have hb:¬(fs.length:Int)>4:=fun q=>h (.inr q)
 rw [Q7,OJ hx,hv,h3,decide_eq_true (p:=1<=fs.length/\fs.length<=4) om,decide_eq_true (p:=x.pms.length=0) om,decide_eq_true (p:=x.res=0) (VP.1 h2)];rfl
abbrev Z07 (m:Nat) (x:Vz):Prop:=(((x.pms.length:Int)>3)∨(¬(Wk m x.pms=true)))∨(¬(0<=x.res/\x.res<=m))
theorem Zew {m:Nat} (h:Z07 m x):Av m x=false:=by
 rw [Av,KH]
 rcases h with (h|h)|h
 ·rw [decide_eq_false (p:=x.pms.length<=3) om];simp
 ·rw [Q8.2 h];simp
 ·rw [decide_eq_false h];simp
theorem Mt {m:Nat} (h:Ur x.pms x.lnt=false):Av m x=false:=by rw [Av,h,Bool.and_false]
theorem Zex {m:Nat} (h:¬Z07 m x) (hl:Ur x.pms x.lnt=true):Av m x=true:=by
 have h1:¬(x.pms.length:Int)>3:=fun q=>h (.inl (.inl q))
 rw [Av,KH,hl,decide_eq_true (p:=x.pms.length<=3) om,VP.1 fun q=>h (.inl (.inr q)),decide_eq_true (VP.1 fun q=>h (.inr q))];rfl
end
end Go.Abs
end
section
namespace Go.Abs
structure NTy (n:ZG):Prop where
 result:∀r∈n.routines,0<=r.result
 params:∀r∈n.routines,∀p∈r.params,0<=p
 decl:∀d∈n.decls,d.cons.length=0->0<=d.frm/\0<=d.to_
 fields:∀c,∀f∈ZP n.decls c,0<=f
end Go.Abs
namespace Go.Abs
end Go.Abs
namespace Go.Abs
end Go.Abs
namespace Go.Abs
section
variable {S:Option Int} {c:Prop} [Decidable c] {v:Int} {b:Bool}
end
section
variable {n:ZG} {op num:Int} {ts:LI}
end
end Go.Abs
end
namespace Go.Abs
mutual
def Z5.rng:Z5->Prop
 | .mk _ num _ _ kids=>(-9223372036854775808<=num/\num<=9223372036854775807)/\A6 kids
def Z8.rng:Z8->Prop
 | .mk steps _=>Aw steps
def Aw:List Z5->Prop
 | []=>True
 | s::r=>s.rng/\Aw r
def A6:List Z8->Prop
 | []=>True
 | b::r=>b.rng/\A6 r
end
theorem Z5.rng_eq (s:Z5):s.rng=((-9223372036854775808<=s.num/\s.num<=9223372036854775807)/\A6 s.kids):=by cases s;rw [Z5.rng];rfl
theorem Z8.rng_eq (b:Z8):b.rng=Aw b.steps:=by cases b;rw [Z8.rng];rfl
section
variable {n:ZG} {us ts:LI} {s:Z5}
end
theorem Zhf {n:ZG} {us:LI} {s:Z5} (h:0<=YZ n us s):(0<=s.op/\s.op<=11)∨(14<=s.op/\s.op<=17):=by
 rw [MI] at h
 by_cases hq:(0<=s.op/\s.op<=11)∨(14<=s.op/\s.op<=17)
 ·exact hq
 ·exfalso
  split at h
  ·omega
  rw [Za om,Za om,Za om,Za om,Za om,Za om,Za om,Za om,Za om] at h
  omega
theorem NV {n:ZG} {us:LI} {s:Z5} (h:0<=YZ n us s):Xf s.op=!YO s.op:=by
 have:=Zhf h
 rw [Xf,YO,Yg];simp;omega

end Go.Abs
section
namespace Go.Abs
structure Jp where
 mat:Int
 fst:Int
 fds:LI
 chg:Bool
def UF:LI->Int->LI
 | [],_=>[]
 | t::r,p=>if t≠0 then p::UF r (p+1) else UF r (p+1)
theorem Z9k {xs:LI} {k:Nat} {t p:Int} {acc r:LI} (h:xs[k]? = some t) (ha:acc++UF (xs.drop k) (p+k)=r) :
  (if t≠0 then acc++[p+k] else acc)++UF (xs.drop (k+1)) (p+((k+1:Nat):Int))=r:=by
 rw [Yk h,UF] at ha
 rw [show p+((k+1:Nat):Int)=p+k+1 by omega]
 split
 ·rename_i q;rw [Zk q] at ha;rw [XW];exact ha
 ·rename_i q;rw [Za q] at ha;exact ha
theorem Z9j {xs:LI} {k:Nat} {p:Int} {acc r:LI} (h:xs.length<=k) (ha:acc++UF (xs.drop k) (p+k)=r):acc=r:=by
 rw [Xm h,UF,T0] at ha;exact ha
theorem Lz:∀{xs:LI} {p f:Int},f∈UF xs p->p<=f/\f<p+xs.length
 | [],_,_,h=>by simp [UF] at h
 | t::r,p,f,h=>by
  rw [UF] at h
  split at h
  ·rcases YN.1 h with rfl|h
   ·simp only [Yo];omega
   ·have:=Lz h;simp only [Yo];omega
  ·have:=Lz h;simp only [Yo];omega
theorem GM:∀(xs:LI) (p:Int),(UF xs p).length<=xs.length
 | [],_=>by simp [UF]
 | t::r,p=>by
  have:=GM r (p+1)
  rw [UF];split<;>simp<;>omega
def Rw:List Jp->Int->Option Jp
 | [],_=>none
 | a::r,v=>match Rw r v with
  | some x=>some x
  | none=>if a.mat=v then some a else none
structure Zim (ds:List Zb) (L:ZK) (as1:List Jp):Prop where
 rng:∀a∈as1,0<=a.mat/\a.mat<a.fst/\a.fst+a.fds.length<=L.vars.length
 par:∀a∈as1,∀v:Int,a.fst<=v->v<a.fst+a.fds.length->gI L.par v=a.mat
 non:∀v:Int,0<=v->v<L.vars.length->0<=gI L.par v->∃a∈as1,a.fst<=v/\v<a.fst+a.fds.length
 off:∀v:Int,0<=v->v<L.vars.length->match Rw as1 v with
  | none=>gI L.con v<0
  | some a=>0<=gI L.con v/\a.fst=gI L.fst v/\a.fds=ZP ds (gI L.con v)
end Go.Abs
namespace Go.Abs
end Go.Abs
namespace Go.Abs
end Go.Abs
namespace Go.Abs
section
variable {n:ZG} {ln:LI} {L:ZK} {op v:Int} {am:List Jp} {a:Jp}
end
end Go.Abs
namespace Go.Abs
end Go.Abs
end
section
namespace Go.Abs
section
variable {n:ZG} {us:LI} {op num:Int}
end
end Go.Abs
namespace Go.Abs
end Go.Abs
namespace Go.Abs
end Go.Abs
end
section
namespace Go.Abs
section
variable {n:ZG} {ln:LI}
end
end Go.Abs
namespace Go.Abs
theorem Ra {ps:LI}:∀{ls:LI} {prev:Option Int},QF ps ls prev=true->∀v∈ls,(0<=v/\v<=(ps.length:Int)-1)/\ps[v.toNat]?≠some 0
 | [],_,_,v,h=>by cases h
 | x::r,prev,h,v,hv=>by
  rw [QF] at h
  split at h
  ·rename_i q
   rcases YN.1 hv with rfl|hv
   ·exact ⟨q.1,q.2.1⟩
   ·exact Ra h v hv
  ·cases h
end Go.Abs
namespace Go.Abs
end Go.Abs
namespace Go.Abs
section
variable {n:ZG} {ln:LI} {L:ZK} {s:Z5}
end
end Go.Abs
namespace Go.Abs
end Go.Abs
namespace Go.Abs
end Go.Abs
namespace Go.Abs
end Go.Abs
end
section
namespace Go.Abs
end Go.Abs
namespace Go.Abs
end Go.Abs
namespace Go.Abs
end Go.Abs
end
section
namespace Go.Abs
def Z46 (c:Yd):Nat:=c.fields.length
def NM:List Yd->Nat
 | []=>0
 | c::r=>Z46 c+NM r
def Z4h (l:List Yd):Nat:=l.length+NM l
def Z50 (d:Zb):Nat:=Z4h d.cons
def NT:List Zb->Nat
 | []=>0
 | d::r=>Z50 d+NT r
def Z55 (l:List Zb):Nat:=l.length+NT l
end Go.Abs
namespace Go.Abs
end Go.Abs
namespace Go.Abs
end Go.Abs
namespace Go.Abs
end Go.Abs
end
namespace Go.Abs
def Zx (op v:Int):Z5:=.mk op 0 0 [v] []
def Wy (ds:List Zb) (num:Int) (k:Nat):LI:=((ZZ ds num).map (ZP ds))[k]?.getD []
section
variable {ds:List Zb} {am:List Jp} {m:Nat}
end
theorem Lf {ds:List Zb} {num:Int} {k:Nat} {m:LI} (h:((ZZ ds num).map (ZP ds))[k]? = some m):Wy ds num k=m:=by rw [Wy,h];rfl
theorem Gx {ds:List Zb} (hd:Xr ds) (num:Int) (k:Nat):(Wy ds num k).length<=3:=by
 rw [Wy,Jl]
 cases (ZZ ds num)[k]? with
 | none=>simp
 | some c=>exact Vj hd c
theorem HP {xs:List Z5} {k:Nat} {s:Z5} (h:xs[k]? = some s):Yw (xs.take (k+1))=Yw (xs.take k)+s.sz:=by
 induction xs generalizing k with
 | nil=>simp at h
 | cons t r ih=>
  cases k with
  | zero=>simp at h;subst h;simp [Yw]
  | succ k=>rw [AB,AB,Yw,Yw,ih (by simpa using h)];omega
theorem KN (xs:List Z5) (k:Nat):Yw (xs.take k)<=Yw xs:=by
 induction xs generalizing k with
 | nil=>simp
 | cons t r ih=>
  cases k with
  | zero=>simp [Yw]
  | succ k=>have:=ih k;rw [AB,Yw,Yw];omega
theorem Zf8 {n:ZG} {us:LI} {s:Z5} (g:0<=YZ n us s) (h:YO s.op=true):Kf n us s=us:=by rw [Kf,NV g,h];rfl
theorem Zf7 {n:ZG} {us:LI} {s:Z5} (g:0<=YZ n us s) (h:¬YO s.op=true):(Kf n us s).length=us.length+1:=by
 rw [Kf,NV g,Q8.2 h];simp
theorem Zf9 {n:ZG} {us:LI} {s:Z5} (g:0<=YZ n us s):(Kf n us s).length=if YO s.op=true then us.length else us.length+1:=by
 split
 ·rw [Zf8 g (by assumption)]
 ·exact Zf7 g (by assumption)

theorem Q4:∀(xs ys:List Z5),Yw (xs++ys)=Yw xs+Yw ys
 | [],ys=>by simp [Yw]
 | x::r,ys=>by rw [AA,Yw,Yw,Q4 r ys];omega
theorem Gg (op v:Int):(Zx op v).sz=2:=by rw [Zx,Z5.sz];simp [YW]
theorem MF (op:Int):∀l:LI,Yw (l.map (Zx op))=2*l.length
 | []=>by simp [Yw]
 | x::r=>by rw [Tk,Yw,Gg,MF op r,Yo];omega
section
variable {ds:List Zb} (hd:Xr ds)
include hd
end
def XG (n:Nat):LI:=(List.range n).map Int.ofNat
theorem Zca (n:Nat):XG (n+1)=XG n++[(n:Int)]:=by simp [XG,List.range_succ]
theorem DO (n:Nat):(XG n).length=n:=by simp [XG]
theorem Hg (n:Nat):∀f∈XG n,0<=f/\f<=n:=by
 intro f hf
 simp only [XG,XH,List.mem_range] at hf
 obtain ⟨a,ha,rfl⟩:=hf
 show 0<=(a:Int)/\(a:Int)<=n
 omega
def Cm (ds:List Zb) (num:Int) (k:Nat):Int:=gI (ZZ ds num) k
section
variable {ds:List Zb} {cons first:LI}
end
def TB (first:LI):Prop:=∀f∈first,0<=f/\f<=1000000000
theorem TB.snoc {first:LI} (h:TB first):TB (first++[0]):=by
 intro f hf
 rcases Xl.1 hf with hf|hf
 ·exact h f hf
 ·rw [Xy.1 hf];omega
theorem TB.x {first:LI} (h:TB first) {x m k:Nat} (hm:m<=1000000000) (hk:k<=1000000000):TB (first.set x (m:Int)++XG k):=by
 intro f hf
 rcases Xl.1 hf with hf|hf
 ·rcases JK hf with hf|rfl
  ·exact h f hf
  ·omega
 ·have:=Hg k f hf;omega
section
variable {ds:List Zb} (hd:Xr ds)
include hd
end
def XM:List Z5->Nat
 | []=>0
 | s::r=>if s.op=14∨s.op=15 then XM r+1 else 0
def Wq (op:Int):List Z5->LI
 | []=>[]
 | s::r=>if s.op=op then gI s.args 0::Wq op r else Wq op r
def Un:LI->Int->LI->LI->LI × LI
 | [],_,D,R=>(D,R)
 | f::r,q,D,R=>if f≠0/\q∈D then Un r (q+1) (D.erase q) R else if f≠0 then Un r (q+1) D (R++[q]) else Un r (q+1) D R
def J9 (xs:List Z5) (x:Int) (fs:LI) (q:Int):LI × LI:=Un fs q (Wq 14 (xs.take (XM xs))) ((Wq 15 (xs.take (XM xs))).erase x)
def QS (xs:List Z5) (x:Int) (fs:LI) (q:Int):List Z5:=
 if x∈Wq 15 (xs.take (XM xs))/\fs.length≠0 then (J9 xs x fs q).1.map (Zx 14)++[Zx 16 x]++(J9 xs x fs q).2.map (Zx 15)++xs.drop (XM xs) else xs
def Ko (b:Z8) (x:Int) (fs:LI) (q:Int):Z8:=.mk (QS b.steps x fs q) b.result
theorem HC:∀xs:List Z5,XM xs<=xs.length
 | []=>X0 _
 | s::r=>by have:=HC r;rw [XM];split<;>simp<;>omega
theorem SS:∀{xs:List Z5} {s:Z5},s∈xs.take (XM xs)->s.op=14∨s.op=15
 | [],s,h=>by simp [XM] at h
 | t::r,s,h=>by
  rw [XM] at h
  split at h
  ·rename_i q
   rw [AB] at h
   rcases YN.1 h with rfl|h
   ·exact q
   ·exact SS h
  ·simp at h
theorem Is:∀xs:List Z5,(Wq 14 xs).length+(Wq 15 xs).length<=xs.length
 | []=>by simp [Wq]
 | s::r=>by
  have:=Is r
  rw [Wq,Wq]
  by_cases h:s.op=14
  ·rw [Zk h,Za om];simp;omega
  ·rw [Za h];split<;>simp<;>omega
theorem Ho:∀(fs:LI) (q:Int) (D R:LI),(Un fs q D R).1.length+(Un fs q D R).2.length<=D.length+R.length+fs.length
 | [],q,D,R=>by simp [Un]
 | f::r,q,D,R=>by
  rw [Un,Yo]
  split
  ·have:=Ho r (q+1) (D.erase q) R
   have h2:=List.length_erase_le (a:=q) (l:=D)
   omega
  ·split
   ·have:=Ho r (q+1) D (R++[q])
    simp only [ZX,Yo,YC] at this
    omega
   ·have:=Ho r (q+1) D R
    omega
theorem Zcu {xs:List Z5} {x:Int} {fs:LI} {q:Int} (h:x∈Wq 15 (xs.take (XM xs))) (hf:fs.length<=3):(J9 xs x fs q).1.length+(J9 xs x fs q).2.length<=XM xs+2:=by
 have h1:=Ho fs q (Wq 14 (xs.take (XM xs))) ((Wq 15 (xs.take (XM xs))).erase x)
 have h2:=Is (xs.take (XM xs))
 have h3:=List.length_pos_of_mem h
 rw [List.length_erase_of_mem h] at h1
 rw [Wi] at h2
 have h4:=HC xs
 unfold J9
 omega
theorem Zh1 (xs:List Z5) (k:Nat):Yw xs=Yw (xs.take k)+Yw (xs.drop k):=by rw [<-Q4,TA]
theorem Z15:∀xs:List Z5,(∀s∈xs,2<=s.sz)->2*xs.length<=Yw xs
 | [],_=>by simp
 | s::r,h=>by
  have h1:=Z15 r fun t ht=>h t (Xj _ ht)
  have h2:=h s (Xa ..)
  rw [Yw,Yo];omega
theorem Z2x {xs:List Z5} {x:Int} {fs:LI} {q:Int} (hf:fs.length<=3) (h:∀s∈xs,s.op=14∨s.op=15->2<=s.sz):Yw (QS xs x fs q)<=Yw xs+6:=by
 rw [QS]
 split
 ·rename_i hc
  have h1:=Zcu (q:=q) hc.1 hf
  have h2:=Z15 (xs.take (XM xs)) fun s hs=>h s (QP hs) (SS hs)
  have h3:=Zh1 xs (XM xs)
  have h4:=HC xs
  rw [Wi] at h2
  rw [Q4,Q4,Q4,MF,MF,Yw,Yw,Gg]
  omega
 ·omega
def Cn (s:Z5):Prop:=s=Zx s.op (gI s.args 0)
theorem Z2w {xs:List Z5} {m:Int} {fs:LI} {q:Int} (h:¬(m∈Wq 15 (xs.take (XM xs))/\fs.length≠0)):QS xs m fs q=xs:=Za h
end Go.Abs
section
namespace Go.Abs
mutual
def KJ (ds:List Zb) (m:Nat):Z5->Z5
 | .mk op num into args kids=>.mk op num into args (UL ds m op num args kids 0)
def UL (ds:List Zb) (m:Nat) (op num:Int) (args:LI):List Z8->Nat->List Z8
 | [],_=>[]
 | b::r,k=>(if op=8 then Ko (WU ds (m+(Wy ds num k).length) b) (gI args 0) (Wy ds num k) m else WU ds m b)::UL ds m op num args r (k+1)
def VX (ds:List Zb) (m:Nat):List Z5->List Z5
 | []=>[]
 | s::r=>KJ ds m s::VX ds (if YO s.op=true then m else m+1) r
def WU (ds:List Zb) (m:Nat):Z8->Z8
 | .mk steps result=>.mk (VX ds m steps) result
end
def HL (ds:List Zb) (m:Nat) (op num:Int) (args:LI) (k:Nat) (b:Z8):Z8:=if op=8 then Ko (WU ds (m+(Wy ds num k).length) b) (gI args 0) (Wy ds num k) m else WU ds m b
theorem FC (ds:List Zb) (m:Nat) (s:Z5):KJ ds m s=.mk s.op s.num s.into s.args (UL ds m s.op s.num s.args s.kids 0):=by cases s;rw [KJ];rfl
theorem HJ (ds:List Zb) (m:Nat) (b:Z8):WU ds m b=.mk (VX ds m b.steps) b.result:=by cases b;rw [WU];rfl
section
variable {ds:List Zb} {m:Nat}
theorem Zfh {xs acc r:List Z5} {k:Nat} {s:Z5} (h:xs[k]? = some s) (ha:acc++VX ds m (xs.drop k)=r) :
  (acc++[.mk s.op s.num s.into s.args (UL ds m s.op s.num s.args s.kids 0)])++VX ds (if YO s.op=true then m else m+1) (xs.drop (k+1))=r:=by
 rw [Yk h,VX,FC] at ha
 rw [<-ha];simp
theorem Zfg {xs acc r:List Z5} {k:Nat} (h:xs.length<=k) (ha:acc++VX ds m (xs.drop k)=r):acc=r:=by
 rw [Xm h,VX,T0] at ha;exact ha
theorem Z0d {op num:Int} {args:LI} {bs acc r:List Z8} {k:Nat} {b:Z8} (h:bs[k]? = some b) (ha:acc++UL ds m op num args (bs.drop k) k=r) :
  (acc++[HL ds m op num args k b])++UL ds m op num args (bs.drop (k+1)) (k+1)=r:=by
 rw [Yk h,UL] at ha
 rw [<-ha,HL];simp
theorem Zfc {op num:Int} {args:LI} {bs acc r:List Z8} {k j:Nat} (h:bs.length<=k) (ha:acc++UL ds m op num args (bs.drop k) j=r):acc=r:=by
 rw [Xm h,UL,T0] at ha;exact ha
end
mutual
def wS (ds:List Zb):Z5->Prop
 | .mk op num into args kids=>(Xf op=!YO op)/\(YO op=true->num=0/\into=0/\kids=[]/\∃a,args=[a])/\(op=8->(∃a,args=[a]/\0<=a/\a<=900000000)/\kids.length=(ZZ ds num).length)/\Jk ds kids
def Jk (ds:List Zb):List Z8->Prop
 | []=>True
 | b::r=>wB ds b/\Jk ds r
def QO (ds:List Zb):List Z5->Prop
 | []=>True
 | s::r=>wS ds s/\QO ds r
def wB (ds:List Zb):Z8->Prop
 | .mk steps _=>QO ds steps
end
section
variable {ds:List Zb}
theorem JS (s:Z5):wS ds s↔(Xf s.op=!YO s.op)/\(YO s.op=true->s.num=0/\s.into=0/\s.kids=[]/\∃a,s.args=[a])/\(s.op=8->(∃a,s.args=[a]/\0<=a/\a<=900000000)/\s.kids.length=(ZZ ds s.num).length)/\Jk ds s.kids:=by cases s;rw [wS];rfl
theorem Jj (b:Z8):wB ds b↔QO ds b.steps:=by cases b;rw [wB];rfl
theorem Bj:∀{xs:List Z5},QO ds xs↔∀s∈xs,wS ds s
 | []=>by simp [QO]
 | s::r=>by rw [QO,Bj];simp
theorem I5:∀{xs:List Z8},Jk ds xs↔∀s∈xs,wB ds s
 | []=>by simp [Jk]
 | s::r=>by rw [Jk,I5];simp
theorem Z1v {b:Z8} {k:Nat} {s:Z5} (h:wB ds b) (hs:b.steps[k]? = some s):wS ds s:=Bj.1 ((Jj b).1 h) s (Y3 hs)
theorem MV {s:Z5} {k:Nat} {b:Z8} (h:wS ds s) (hb:s.kids[k]? = some b):wB ds b:=I5.1 ((JS s).1 h).2.2.2 b (Y3 hb)
theorem I6 {s:Z5} (h:wS ds s) (hc:YO s.op=true):Cn s/\s.kids=[]/\∃a,s.args=[a]:=by
 obtain ⟨h1,h2,h3,a,h4⟩:=((JS s).1 h).2.1 hc
 refine ⟨?_,h3,a,h4⟩
 cases s with
 | mk op num into args kids=>
  simp only [Z5.num,Z5.into,Z5.kids,Z5.args] at h1 h2 h3 h4
  subst h1 h2 h3 h4
  rfl
theorem Zie {op v:Int} (h:op=14∨op=15∨op=16):wS ds (Zx op v):=(JS _).2 ⟨by show Xf op=!YO op;rcases h with rfl|rfl|rfl<;>rfl,fun _=>⟨rfl,rfl,rfl,v,rfl⟩,fun e=>absurd e (show op≠8 by omega),True.intro⟩
theorem Zif {s:Z5} (h:wS ds s):Xf s.op=!YO s.op:=((JS s).1 h).1
theorem FK {s:Z5} (h:wS ds s) (h8:s.op=8):(∃a,s.args=[a]/\0<=a/\a<=900000000)/\s.kids.length=(ZZ ds s.num).length:=((JS s).1 h).2.2.1 h8
theorem Ic {xs:List Z5} (h:QO ds xs):∀s∈xs,YO s.op=true->Cn s:=fun s hs hc=>(I6 (Bj.1 h s hs) hc).1
end
section
variable {n:ZG}
end
mutual
def Z5.pz:Z5->Nat
 | .mk _ _ _ args kids=>1+args.length+DS kids
def Z8.pz:Z8->Nat
 | .mk steps _=>1+DT steps
def DT:List Z5->Nat
 | []=>0
 | s::r=>s.pz+DT r
def DS:List Z8->Nat
 | []=>0
 | b::r=>b.pz+8+DS r
end
mutual
theorem Z5.pz_le:∀s:Z5,s.pz<=9*s.sz
 | .mk _ _ _ args kids=>by have:=S5 kids;rw [Z5.pz,Z5.sz];omega
theorem Z8.pz_le:∀b:Z8,b.pz+8<=9*b.sz
 | .mk steps _=>by have:=S6 steps;rw [Z8.pz,Z8.sz];omega
theorem S6:∀xs:List Z5,DT xs<=9*Yw xs
 | []=>Q9 _
 | s::r=>by have:=s.pz_le;have:=S6 r;rw [DT,Yw];omega
theorem S5:∀xs:List Z8,DS xs<=9*YW xs
 | []=>Q9 _
 | s::r=>by have:=s.pz_le;have:=S5 r;rw [DS,YW];omega
end
section
variable {ds:List Zb}
theorem Z42 {op:Int} (h:op=14∨op=15):YO op=true:=by rw [YO];simp;omega
theorem Zfi {xs:List Z5}:∀{m:Nat},QO ds xs->∀s∈VX ds m xs,s.op=14∨s.op=15->2<=s.sz:=by
 induction xs with
 | nil=>intro m _ s hs;simp [VX] at hs
 | cons t r ih=>
  intro m h s hs ho
  rw [VX] at hs
  rcases YN.1 hs with rfl|hs
  ·rw [FC] at ho ⊢
   obtain ⟨_,_,a,ha⟩:=I6 h.1 (Z42 ho)
   rw [Z5.sz,ha];simp
  ·exact ih h.2 s hs ho
variable (hd:Xr ds)
include hd
mutual
theorem Zfe:∀(s:Z5) {m:Nat},wS ds s->(KJ ds m s).sz<=s.pz
 | .mk op num into args kids,m,h=>by
  have:=Z0e kids (m:=m) (op:=op) (num:=num) (args:=args) (k:=0) h.2.2.2
  rw [KJ,Z5.sz,Z5.pz];omega
theorem Z0e:∀(bs:List Z8) {m:Nat} {op num:Int} {args:LI} {k:Nat},Jk ds bs->YW (UL ds m op num args bs k)<=DS bs
 | [],_,_,_,_,_,_=>X0 _
 | b::r,m,op,num,args,k,h=>by
  have h2:=Z0e r (m:=m) (op:=op) (num:=num) (args:=args) (k:=k+1) h.2
  rw [UL,YW,DS]
  split
  ·have h1:=HK b (m:=m+(Wy ds num k).length) h.1
   have h3:=Z2x (xs:=(WU ds (m+(Wy ds num k).length) b).steps) (x:=gI args 0) (q:=(m:Int)) (Gx hd num k) (by rw [HJ];exact Zfi ((Jj b).1 h.1))
   rw [Ko,Z8.sz]
   rw [Z8.sz_eq] at h1
   omega
  ·have h1:=HK b (m:=m) h.1
   omega
theorem Z0g:∀(xs:List Z5) {m:Nat},QO ds xs->Yw (VX ds m xs)<=DT xs
 | [],_,_=>X0 _
 | s::r,m,h=>by
  have h1:=Zfe s (m:=m) h.1
  have h2:=Z0g r (m:=if YO s.op=true then m else m+1) h.2
  rw [VX,Yw,DT];omega
theorem HK:∀(b:Z8) {m:Nat},wB ds b->(WU ds m b).sz<=b.pz
 | .mk steps result,m,h=>by
  have:=Z0g steps (m:=m) h
  rw [WU,Z8.sz,Z8.pz];omega
end
end
section
variable {ds:List Zb} {m:Nat}
end
def C2 (ds:List Zb) (r:YE):YE:=⟨r.params,r.lent,r.result,WU ds r.params.length r.body⟩
def D0 (n:ZG):ZG:=⟨n.decls,n.routines.map (C2 n.decls)⟩
end Go.Abs
namespace Go.Abs
theorem Zet {xs:List Z5} {k:Nat} {s:Z5} {r:Nat} (h:xs[k]? = some s) (hs:s.op=14∨s.op=15) (ha:k+XM (xs.drop k)=r):k+1+XM (xs.drop (k+1))=r:=by
 rw [Yk h,XM,Zk hs] at ha;omega
theorem Zeu {xs:List Z5} {k:Nat} {s:Z5} {r:Nat} (h:xs[k]? = some s) (hs:¬(s.op=14∨s.op=15)) (ha:k+XM (xs.drop k)=r):k=r:=by
 rw [Yk h,XM,Za hs] at ha;omega
theorem Zes {xs:List Z5} {k:Nat} {r:Nat} (h:xs.length<=k) (ha:k+XM (xs.drop k)=r):k=r:=by
 rw [Xm h,XM] at ha;omega
theorem Z37 {op:Int} {xs:List Z5} {acc r:LI} {k:Nat} {s:Z5} (h:xs[k]? = some s) (hs:s.op=op) (ha:acc++Wq op (xs.drop k)=r):(acc++[gI s.args 0])++Wq op (xs.drop (k+1))=r:=by
 rw [Yk h,Wq,Zk hs] at ha;rw [<-ha];simp
theorem Z36 {op:Int} {xs:List Z5} {acc r:LI} {k:Nat} {s:Z5} (h:xs[k]? = some s) (hs:¬s.op=op) (ha:acc++Wq op (xs.drop k)=r):acc++Wq op (xs.drop (k+1))=r:=by
 rw [Yk h,Wq,Za hs] at ha;exact ha
theorem Z35 {op:Int} {xs:List Z5} {acc r:LI} {k:Nat} (h:xs.length<=k) (ha:acc++Wq op (xs.drop k)=r):acc=r:=by
 rw [Xm h,Wq,T0] at ha;exact ha
theorem Z5y {xs acc r:LI} {y:Int} {k:Nat} {x:Int} {d:Bool} (h:xs[k]? = some x) (ha:acc++(if d=true then xs.drop k else (xs.drop k).erase y)=r) :
  (if x=y/\¬d=true then acc else acc++[x])++(if ((x==y&&!d)||d)=true then xs.drop (k+1) else (xs.drop (k+1)).erase y)=r:=by
 rw [Yk h] at ha
 rw [<-ha]
 by_cases hd:d=true
 ·simp [hd]
 ·by_cases hx:x=y
  ·simp [hd,hx]
  ·rw [Za (fun z=>hx z.1),Za hd,List.erase_cons_tail (by simpa using hx)]
   simp [hd,hx]
theorem Z5x {xs acc r:LI} {y:Int} {k:Nat} {d:Bool} (h:xs.length<=k) (ha:acc++(if d=true then xs.drop k else (xs.drop k).erase y)=r):acc=r:=by
 rw [Xm h] at ha;simpa using ha
section
variable {fs D R:LI} {q k:Nat} {f:Int} {r:LI × LI}
theorem Zcw (h:fs[k]? = some f) (h0:f≠0) (hm:((q+k:Nat):Int)∈D) (ha:Un (fs.drop k) (q+k) D R=r):Un (fs.drop (k+1)) (q+((k+1:Nat):Int)) (D.erase ((q+k:Nat):Int)) R=r:=by
 rw [Yk h,Un,Zk ⟨h0,by rw [<-Int.natCast_add];exact hm⟩,<-Int.natCast_add] at ha
 rw [<-ha];congr 1
theorem Zcx (h:fs[k]? = some f) (h0:f≠0) (hm:¬((q+k:Nat):Int)∈D) (ha:Un (fs.drop k) (q+k) D R=r):Un (fs.drop (k+1)) (q+((k+1:Nat):Int)) D (R++[((q+k:Nat):Int)])=r:=by
 rw [Yk h,Un,Za (fun z=>hm (by rw [Int.natCast_add];exact z.2)),Zk h0,<-Int.natCast_add] at ha
 rw [<-ha];congr 1
theorem Zcy (h:fs[k]? = some f) (h0:¬f≠0) (ha:Un (fs.drop k) (q+k) D R=r):Un (fs.drop (k+1)) (q+((k+1:Nat):Int)) D R=r:=by
 rw [Yk h,Un,Za (fun z=>h0 z.1),Za h0] at ha
 rw [<-ha];congr 1
theorem Zcv (h:fs.length<=k) (ha:Un (fs.drop k) (q+k) D R=r):r=(D,R):=by
 rw [Xm h,Un] at ha;exact ha.symm
end
theorem Z2y {xs:List Z5} {x:Int} {fs:LI} {q:Int} {D R:LI} (h1:x∈Wq 15 (xs.take (XM xs))) (h2:fs.length≠0) (hr:J9 xs x fs q=(D,R)):D.map (Zx 14)++[Zx 16 x]++R.map (Zx 15)++xs.drop (XM xs)=QS xs x fs q:=by
 rw [QS,Zk ⟨h1,h2⟩,hr]
theorem Zff {ds:List Zb} {xs:List Z5}:∀{m:Nat},QO ds xs->∀s∈VX ds m xs,YO s.op=true->∃a,s.args=[a]:=by
 induction xs with
 | nil=>intro m _ s hs;simp [VX] at hs
 | cons t r ih=>
  intro m h s hs ho
  rw [VX] at hs
  rcases YN.1 hs with rfl|hs
  ·rw [FC] at ho ⊢
   exact (I6 h.1 ho).2.2
  ·exact ih h.2 s hs ho
end Go.Abs
end
namespace Go.Abs
mutual
def Z2.sz:Z2->Nat
 | .mk _ _ kids=>1+Xz kids
def Xz:List Z2->Nat
 | []=>0
 | e::r=>e.sz+Xz r
end
theorem Z2.sz_eq (e:Z2):e.sz=1+Xz e.kids:=by cases e;rw [Z2.sz];rfl
theorem EG:∀xs ys:List Z2,Xz (xs++ys)=Xz xs+Xz ys
 | [],ys=>by simp [Xz]
 | x::r,ys=>by rw [AA,Xz,Xz,EG r];omega
theorem Cw:∀{xs:List Z2} {k:Nat} {e:Z2},xs[k]? = some e->e.sz<=Xz xs
 | [],k,e,h=>by simp at h
 | x::r,0,e,h=>by simp at h;subst h;rw [Xz];omega
 | x::r,k+1,e,h=>by have:=Cw (xs:=r) (k:=k) (by simpa using h);rw [Xz];omega
theorem Ow:∀{xs:List Z2},xs.length<=Xz xs
 | []=>Q9 _
 | x::r=>by have:=Ow (xs:=r);have:=x.sz_eq;rw [Xz,Yo];omega
def AP:Zb:=⟨0,0,[⟨[]⟩,⟨[0,1]⟩]⟩
def AQ:Zb:=⟨0,0,[⟨[]⟩,⟨[3,0,3]⟩]⟩
def NQ:List Zb:=[⟨0,0,[⟨[1,3]⟩]⟩,⟨1,0,[]⟩,⟨0,0,[⟨[1,1,0]⟩,⟨[0]⟩,⟨[3]⟩]⟩,⟨0,1,[]⟩]
def B3:List (List Zb):=[[AP,⟨0,0,[]⟩,AQ],[AP,⟨0,0,[]⟩,AQ,⟨0,0,[⟨[1,3]⟩]⟩],[AP,⟨0,0,[]⟩,AQ,⟨1,0,[]⟩],[AP,⟨0,0,[]⟩,AQ,⟨0,0,[⟨[1,1,0]⟩,⟨[0]⟩,⟨[3]⟩]⟩],[AP,⟨0,0,[]⟩,AQ,⟨0,1,[]⟩]]
def GD (ds:List Zb):Prop:=ds∈B3
theorem GD.ok {ds:List Zb} (h:GD ds):Xr ds:=by
 have k:=(by decide:∀ds∈B3,ds.length<=4/\(∀d∈ds,d.cons.length<=3)/\∀d∈ds,∀c∈d.cons,c.fields.length<=3) ds h
 exact ⟨k.1,k.2.1,k.2.2⟩
theorem GD.len {ds:List Zb} (h:GD ds):3<=ds.length/\ds.length<=4:=by
 exact (by decide:∀ds∈B3,3<=ds.length/\ds.length<=4) ds h
def J8 (t:Int):Prop:=t=0∨t=1∨t=3
instance (t:Int):Decidable (J8 t):=inferInstanceAs (Decidable (_∨_∨_))
theorem GD.low {ds:List Zb} (h:GD ds):ZZ ds 0=[]/\ZZ ds 1=[0,1]/\ZZ ds 2=[]/\ZZ ds 3=[2,3]/\ZP ds 0=[]/\ZP ds 1=[0,1]/\ZP ds 2=[]/\ZP ds 3=[3,0,3]:=
 (by decide:∀ds∈B3,ZZ ds 0=[]/\ZZ ds 1=[0,1]/\ZZ ds 2=[]/\ZZ ds 3=[2,3]/\ZP ds 0=[]/\ZP ds 1=[0,1]/\ZP ds 2=[]/\ZP ds 3=[3,0,3]) ds h
theorem GD.fields {ds:List Zb} (h:GD ds):∀c∈ZZ ds 1++(ZZ ds 3++ZZ ds 4),∀t∈ZP ds c,J8 t:=
 (by decide:∀ds∈B3,∀c∈ZZ ds 1++(ZZ ds 3++ZZ ds 4),∀t∈ZP ds c,J8 t) ds h
theorem GD.cons_cases {ds:List Zb} (h:GD ds) {t:Int} {c:Int} (hc:c∈ZZ ds t):(0<=c/\c<=9)/\(t=1∨t=3∨t=4)/\(ZP ds c).length<=3/\∀u∈ZP ds c,J8 u:=by
 have ht:1<=t/\t<=ds.length:=by
  by_cases q:1<=t/\t<=ds.length
  ·exact q
  ·rw [ZZ,Za q] at hc;cases hc
 have hl:=h.len
 have hlow:=h.low
 have key:∀c∈ZZ ds 1++(ZZ ds 3++ZZ ds 4),0<=c/\c<=9:=
  (by decide:∀ds∈B3,∀c∈ZZ ds 1++(ZZ ds 3++ZZ ds 4),0<=c/\c<=9) ds h
 have h4:t=1∨t=2∨t=3∨t=4:=by omega
 have hf:=h.fields
 have hd:=Vj h.ok c
 rcases h4 with rfl|rfl|rfl|rfl
 ·exact ⟨key c (Xl.2 (.inl hc)),.inl rfl,hd,hf c (Xl.2 (.inl hc))⟩
 ·rw [hlow.2.2.1] at hc;cases hc
 ·exact ⟨key c (Xl.2 (.inr (Xl.2 (.inl hc)))),.inr (.inl rfl),hd,hf c (Xl.2 (.inr (Xl.2 (.inl hc))))⟩
 ·exact ⟨key c (Xl.2 (.inr (Xl.2 (.inr hc)))),.inr (.inr rfl),hd,hf c (Xl.2 (.inr (Xl.2 (.inr hc))))⟩
def JZ:List (LI × Int):=[([],0),([1],0),([1,1],1),([1],1),([1,0],1),([2,1],1),([1,1],0),([3],0),([0],1),([0,1],1),([3,0],3),([3],1),([1,3,0],0),([0],0),([0,0],0),([1,0],0)]
def Tm (f:Func):Prop:=(f.params,f.result)∈JZ
theorem Tm.bd {f:Func} (h:Tm f):f.params.length<=3/\(∀t∈f.params,0<=t/\t<=3)/\J8 f.result:=by
 have key:∀q∈JZ,q.1.length<=3/\(∀t∈q.1,0<=t/\t<=3)/\J8 q.2:=by decide
 exact key _ h
theorem Tm.clo {ds:List Zb} {f:Func} (hd:GD ds) (h:Tm f) (hp:0<A1 ds (gI f.params ((f.params.length:Int)-1)) f.result):∀t∈f.params.dropLast,J8 t:=by
 have key:∀q∈JZ,0<A1 ds (gI q.1 ((q.1.length:Int)-1)) q.2->∀t∈q.1.dropLast,J8 t:=
  (by decide +kernel:∀ds∈B3,∀q∈JZ,0<A1 ds (gI q.1 ((q.1.length:Int)-1)) q.2->∀t∈q.1.dropLast,J8 t) ds hd
 exact key _ h hp
structure GP (p:W8):Prop where
 decls:GD p.decls
 len:1<=p.funcs.length/\p.funcs.length<=4
 sigs:∀f∈p.funcs,Tm f
def Q2 (ds:List Zb) (op num:Int) (m:Nat) (k:Nat):Nat:=
 if op=13 then m+k else if op=8 then (if k=0 then m else m+(ZP ds (gI (ZZ ds num) ((k:Int)-1))).length) else m
mutual
def eW (ds:List Zb) (nf:Nat):Nat->Z2->Prop
 | m,.mk op num kids=>(0<=op/\op<=13)/\(op=12->kids=[]/\0<=num/\num<m)/\(op=13->kids.length=2)/\(op=7->kids.length=3)/\(op=8->kids.length=1+(ZZ ds num).length)/\(op=9->0<=num/\num<nf)/\(-2000<=num/\num<=2000)/\kids.length<=4 /\
  QX ds nf (Q2 ds op num m) 0 kids
def QX (ds:List Zb) (nf:Nat) (sc:Nat->Nat):Nat->List Z2->Prop
 | _,[]=>True
 | k,e::r=>eW ds nf (sc k) e/\QX ds nf sc (k+1) r
end
theorem Z5j {ds:List Zb} {nf m:Nat} (e:Z2):eW ds nf m e↔(0<=e.op/\e.op<=13)/\(e.op=12->e.kids=[]/\0<=e.num/\e.num<m)/\(e.op=13->e.kids.length=2)/\(e.op=7->e.kids.length=3)/\(e.op=8->e.kids.length=1+(ZZ ds e.num).length)/\(e.op=9->0<=e.num/\e.num<nf)/\(-2000<=e.num/\e.num<=2000)/\e.kids.length<=4 /\
  QX ds nf (Q2 ds e.op e.num m) 0 e.kids:=by cases e;rw [eW];rfl
theorem Dv {ds:List Zb} {nf:Nat} {sc:Nat->Nat}:∀{xs:List Z2} {j k:Nat} {e:Z2},QX ds nf sc j xs->xs[k]? = some e->eW ds nf (sc (j+k)) e
 | [],j,k,e,_,h=>by simp at h
 | x::r,j,0,e,hw,h=>by simp at h;subst h;exact hw.1
 | x::r,j,k+1,e,hw,h=>by
  have:=Dv (xs:=r) (j:=j+1) (k:=k) hw.2 (by simpa using h)
  rw [show j+(k+1)=j+1+k by omega];exact this
theorem O4 {ds:List Zb} {nf:Nat} {sc:Nat->Nat}:∀{xs ys:List Z2} {j:Nat},QX ds nf sc j (xs++ys)↔QX ds nf sc j xs/\QX ds nf sc (j+xs.length) ys
 | [],ys,j=>by simp [QX]
 | x::r,ys,j=>by
  rw [AA,QX,QX,O4 (xs:=r),and_assoc,Yo,show j+1+r.length=j+(r.length+1) by omega]
theorem L5 {ds:List Zb} {nf m:Nat} {sc:Nat->Nat} (hs:∀k,sc k=m):∀{xs:List Z2} {j:Nat},(∀e∈xs,eW ds nf m e)->QX ds nf sc j xs
 | [],_,_=>True.intro
 | x::r,j,h=>⟨by rw [hs];exact h x (Xa ..),L5 hs fun e he=>h e (Xj _ he)⟩
theorem Cv {ds:List Zb} {nf m:Nat} {op num:Int} {kids:List Z2} (ho:0<=op/\op<=11/\op≠7/\op≠8) (hc:op=9->0<=num/\num<nf) (hn:-2000<=num/\num<=2000) (hl:kids.length<=4) (hk:∀e∈kids,eW ds nf m e):eW ds nf m (.mk op num kids):=by
 rw [eW]
 refine ⟨by omega,fun h=>by omega,fun h=>by omega,fun h=>by omega,fun h=>by omega,hc,hn,hl,L5 (m:=m) (fun k=>?_) hk⟩
 rw [Q2,Za om,Za om]
theorem Z5k {ds:List Zb} {nf m:Nat} {z:Int} (hz:-2000<=z/\z<=2000):eW ds nf m (.mk 0 z []):=Cv om (fun h=>by omega) hz (by simp) (fun e he=>by cases he)
theorem Z5l {ds:List Zb} {nf m:Nat} {z:Int} (hz:0<=z/\z<m) (hm:m<=2000):eW ds nf m (.mk 12 z []):=by
 rw [eW]
 exact ⟨by omega,fun _=>⟨rfl,hz⟩,fun h=>by omega,fun h=>by omega,fun h=>by omega,fun h=>by omega,by omega,by simp,True.intro⟩
theorem O2 {ds:List Zb} {nf m:Nat} {num:Int} {kids:List Z2} (hn:-2000<=num/\num<=2000) (hl:kids.length=3) (hk:∀e∈kids,eW ds nf m e):eW ds nf m (.mk 7 num kids):=by
 rw [eW]
 refine ⟨by omega,fun h=>by omega,fun h=>by omega,fun _=>hl,fun h=>by omega,fun h=>by omega,hn,by omega,L5 (m:=m) (fun k=>?_) hk⟩
 rw [Q2,Za om,Za om]
theorem O3 {ds:List Zb} {nf m:Nat} {num:Int} {a b:Z2} (hn:-2000<=num/\num<=2000) (ha:eW ds nf m a) (hb:eW ds nf (m+1) b):eW ds nf m (.mk 13 num [a,b]):=by
 rw [eW]
 exact ⟨by omega,fun h=>by omega,fun _=>rfl,fun h=>by omega,fun h=>by omega,fun h=>by omega,hn,by simp,ha,hb,True.intro⟩
theorem L4 {ds:List Zb} {nf m:Nat} {num:Int} {a:Z2} {arms:List Z2} (hn:-2000<=num/\num<=2000) (h3:arms.length<=3) (hl:arms.length=(ZZ ds num).length) (ha:eW ds nf m a) (hk:QX ds nf (Q2 ds 8 num m) 1 arms):eW ds nf m (.mk 8 num (a::arms)):=by
 rw [eW]
 refine ⟨by omega,fun h=>by omega,fun h=>by omega,fun h=>by omega,fun _=>by rw [Yo];omega,fun h=>by omega,hn,by rw [Yo];omega,?_,hk⟩
 rw [Q2,Za om,Zk rfl,Zk rfl]
 exact ha
def bS (b:Nat):Nat:=max 4 (10*b-10)
def bC (b:Nat):Nat:=max 40 (100*b-100)
def Yv:List Z5->Nat
 | []=>0
 | s::r=>(if YO s.op=true then 0 else 1)+Yv r
theorem T6:∀xs ys:List Z5,Yv (xs++ys)=Yv xs+Yv ys
 | [],ys=>by simp [Yv]
 | x::r,ys=>by rw [AA,Yv,Yv,T6 r];omega
theorem AR:∀xs:List Z5,Yv xs<=xs.length
 | []=>X0 _
 | x::r=>by have:=AR r;rw [Yv,Yo];split<;>omega
def WX (ds:List Zb) (op num:Int) (m:Nat) (k:Nat):Nat:=if op=8 then m+(ZP ds (gI (ZZ ds num) k)).length else m
mutual
def fS (ds:List Zb) (nf:Nat):Nat->Z5->Prop
 | m,.mk op num into args kids=>((0<=op/\op<=11)∨(14<=op/\op<=17))/\(∀a∈args,0<=a/\a<m)/\(14<=op->num=0/\into=0/\kids=[]/\∃a,args=[a])/\(op=7->kids.length=2)/\(op=8->kids.length=(ZZ ds num).length)/\(op=7∨op=8->∃a,args=[a]) /\
  (op=9->0<=num/\num<nf)/\(-2000<=num/\num<=2000)/\(0<=into/\into<=m)/\args.length<=4/\(op≠7/\op≠8->kids=[])/\U6 ds nf (WX ds op num m) 0 kids
def U6 (ds:List Zb) (nf:Nat) (sc:Nat->Nat):Nat->List Z8->Prop
 | _,[]=>True
 | k,b::r=>fB ds nf (sc k) b/\U6 ds nf sc (k+1) r
def Wa (ds:List Zb) (nf:Nat):Nat->List Z5->Prop
 | _,[]=>True
 | m,s::r=>fS ds nf m s/\Wa ds nf (if YO s.op=true then m else m+1) r
def fB (ds:List Zb) (nf:Nat):Nat->Z8->Prop
 | m,.mk steps result=>Wa ds nf m steps/\0<=result/\result<(m+Yv steps:Nat)
end
section
variable {ds:List Zb} {nf:Nat}
structure FS (ds:List Zb) (nf m:Nat) (s:Z5):Prop where
 op:(0<=s.op/\s.op<=11)∨(14<=s.op/\s.op<=17)
 args:∀a∈s.args,0<=a/\a<m
 cnt:14<=s.op->s.num=0/\s.into=0/\s.kids=[]/\∃a,s.args=[a]
 k7:s.op=7->s.kids.length=2
 k8:s.op=8->s.kids.length=(ZZ ds s.num).length
 one:s.op=7∨s.op=8->∃a,s.args=[a]
 call:s.op=9->0<=s.num/\s.num<nf
 num:-2000<=s.num/\s.num<=2000
 into:0<=s.into/\s.into<=m
 alen:s.args.length<=4
 kn:s.op≠7/\s.op≠8->s.kids=[]
 kids:U6 ds nf (WX ds s.op s.num m) 0 s.kids
theorem AY {m:Nat} (s:Z5):fS ds nf m s↔FS ds nf m s:=by
 cases s
 rw [fS]
 exact ⟨fun ⟨h1,h2,h3,h4,h5,h6,h7,h8,h9,h10,h11,h12⟩=>⟨h1,h2,h3,h4,h5,h6,h7,h8,h9,h10,h11,h12⟩,fun h=>⟨h.op,h.args,h.cnt,h.k7,h.k8,h.one,h.call,h.num,h.into,h.alen,h.kn,h.kids⟩⟩
theorem KY {m:Nat} (b:Z8):fB ds nf m b↔Wa ds nf m b.steps/\0<=b.result/\b.result<(m+Yv b.steps:Nat):=by cases b;rw [fB];rfl
theorem BD {sc:Nat->Nat}:∀{xs:List Z8} {j k:Nat} {b:Z8},U6 ds nf sc j xs->xs[k]? = some b->fB ds nf (sc (j+k)) b
 | [],j,k,b,_,h=>by simp at h
 | x::r,j,0,b,hw,h=>by simp at h;subst h;exact hw.1
 | x::r,j,k+1,b,hw,h=>by
  have:=BD (xs:=r) (j:=j+1) (k:=k) hw.2 (by simpa using h)
  rw [show j+(k+1)=j+1+k by omega];exact this
theorem Oy {sc:Nat->Nat}:∀{xs ys:List Z8} {j:Nat},U6 ds nf sc j (xs++ys)↔U6 ds nf sc j xs/\U6 ds nf sc (j+xs.length) ys
 | [],ys,j=>by simp [U6]
 | x::r,ys,j=>by
  rw [AA,U6,U6,Oy (xs:=r),and_assoc,Yo,show j+1+r.length=j+(r.length+1) by omega]
theorem OA {sc:Nat->Nat} {xs:List Z8} {b:Z8} (h:U6 ds nf sc 0 xs) (hb:fB ds nf (sc xs.length) b):U6 ds nf sc 0 (xs++[b]):=
 Oy.2 ⟨h,by rw [Wj];exact hb,True.intro⟩
theorem Ai:∀{xs ys:List Z5} {m:Nat},Wa ds nf m (xs++ys)↔Wa ds nf m xs/\Wa ds nf (m+Yv xs) ys
 | [],ys,m=>by simp [Wa,Yv]
 | x::r,ys,m=>by
  rw [AA,Wa,Wa,Ai (xs:=r),and_assoc,Yv]
  by_cases h:YO x.op=true
  ·rw [Zk h,Zk h,Wj]
  ·rw [Za h,Za h,AC]
theorem Gw {xs:List Z5} {s:Z5} {m:Nat} (h:Wa ds nf m xs) (hs:fS ds nf (m+Yv xs) s):Wa ds nf m (xs++[s]):=Ai.2 ⟨h,hs,True.intro⟩
theorem Dx:∀{xs:List Z5} {k m:Nat} {s:Z5},Wa ds nf m xs->xs[k]? = some s->fS ds nf (m+Yv (xs.take k)) s
 | [],k,m,s,_,h=>by simp at h
 | x::r,0,m,s,hw,h=>by simp at h;subst h;exact hw.1
 | x::r,k+1,m,s,hw,h=>by
  have:=Dx (xs:=r) (k:=k) hw.2 (by simpa using h)
  rw [AB,Yv]
  by_cases hc:YO x.op=true
  ·rw [Zk hc] at this ⊢;rw [Wj];exact this
  ·rw [Za hc] at this ⊢;rw [<-AC];exact this
theorem Lc {op v:Int} {m:Nat} (ho:14<=op/\op<=17) (hv:0<=v/\v<m):fS ds nf m (Zx op v):=by
 rw [Zx,fS]
 exact ⟨.inr ho,fun a ha=>by rw [Xy.1 ha];exact hv,fun _=>⟨rfl,rfl,rfl,v,rfl⟩,fun h=>by omega,fun h=>by omega,fun h=>by omega,fun h=>by omega,by omega,by omega,by simp,fun _=>rfl,True.intro⟩
theorem Gv {op:Int} {m:Nat} (ho:14<=op/\op<=17):∀{vs:LI},(∀v∈vs,0<=v/\v<(m:Int))->Wa ds nf m (vs.map (Zx op))/\Yv (vs.map (Zx op))=0
 | [],_=>⟨True.intro,rfl⟩
 | v::r,h=>by
  obtain ⟨h1,h2⟩:=Gv ho (vs:=r) fun x hx=>h x (Xj _ hx)
  have hc:YO op=true:=by simp [YO];omega
  have hc':YO (Zx op v).op=true:=hc
  rw [Tk,Wa,Yv,Zk hc',Zk hc',Wj]
  exact ⟨⟨Lc ho (h v (Xa ..)),h1⟩,h2⟩
mutual
theorem Zih:∀(s:Z5) {m:Nat},fS ds nf m s->m+4*s.sz<=900000000->Xr ds->wS ds s
 | .mk op num into args kids,m,h,hb,hd=>by
  rw [fS] at h
  obtain ⟨h1,h2,h3,h4,h5,h6,h7,h8,h9,h10,h11,h12⟩:=h
  rw [Z5.sz] at hb
  rw [wS]
  refine ⟨?_,fun hc=>h3 (show 14<=op/\op<=17 by simpa [YO] using hc).1,fun h8'=>⟨?_,h5 h8'⟩,Z1w kids h12 (fun k=>?_) hd⟩
  ·rcases h1 with h1|h1
   ·have e1:YO op=false:=by simp [YO];omega
    have e2:Xf op=true:=by simp [Xf];omega
    rw [e1,e2];rfl
   ·have e1:YO op=true:=by simp [YO];omega
    have e2:Xf op=false:=by simp [Xf];omega
    rw [e1,e2];rfl
  ·obtain ⟨a,ha⟩:=h6 (.inr h8')
   have:=h2 a (by rw [ha];exact Xy.2 rfl)
   exact ⟨a,ha,by omega⟩
  ·have hf:=Vj hd (gI (ZZ ds num) k)
   show WX ds op num m k+4*YW kids<=900000003
   rw [WX];split<;>omega
theorem Z1w:∀(bs:List Z8) {sc:Nat->Nat} {k:Nat},U6 ds nf sc k bs->(∀k,sc k+4*YW bs<=900000003)->Xr ds->Jk ds bs
 | [],_,_,_,_,_=>True.intro
 | b::r,sc,k,h,hb,hd=>by
  have hp:=b.sz_eq
  exact ⟨MU b h.1 (by have:=hb k;rw [YW] at this;omega) hd,Z1w r h.2 (fun j=>by have:=hb j;rw [YW] at this;omega) hd⟩
theorem Z1x:∀(xs:List Z5) {m:Nat},Wa ds nf m xs->m+4*Yw xs<=900000000->Xr ds->QO ds xs
 | [],_,_,_,_=>True.intro
 | s::r,m,h,hb,hd=>by
  rw [Yw] at hb
  have hp:=s.sz_pos
  refine ⟨Zih s h.1 om hd,Z1x r h.2 ?_ hd⟩
  split<;>omega
theorem MU:∀(b:Z8) {m:Nat},fB ds nf m b->m+4*b.sz<=900000004->Xr ds->wB ds b
 | .mk steps result,m,h,hb,hd=>by
  rw [Z8.sz] at hb
  rw [fB] at h
  rw [wB]
  exact Z1x steps h.1 om hd
end
mutual
theorem Zec:∀(s:Z5) {m:Nat},fS ds nf m s->s.rng
 | .mk op num into args kids,m,h=>by
  rw [fS] at h
  obtain ⟨h1,h2,h3,h4,h5,h6,h7,h8,h9,h10,h11,h12⟩:=h
  rw [Z5.rng]
  exact ⟨by omega,Sx kids h12⟩
theorem Sx:∀(bs:List Z8) {sc:Nat->Nat} {k:Nat},U6 ds nf sc k bs->A6 bs
 | [],_,_,_=>True.intro
 | b::r,sc,k,h=>⟨Ml b h.1,Sx r h.2⟩
theorem Sy:∀(xs:List Z5) {m:Nat},Wa ds nf m xs->Aw xs
 | [],_,_=>True.intro
 | s::r,m,h=>⟨Zec s h.1,Sy r h.2⟩
theorem Ml:∀(b:Z8) {m:Nat},fB ds nf m b->b.rng
 | .mk steps result,m,h=>by rw [fB] at h;rw [Z8.rng];exact Sy steps h.1
end
end
structure FN (n:ZG) (q:Nat):Prop where
 decls:GD n.decls
 len:1<=n.routines.length/\n.routines.length<=4
 sigs:∀r∈n.routines,(r.params,r.result)∈JZ
 lent:∀r∈n.routines,r.lent.length<=3/\∀i∈r.lent,0<=i/\i<r.params.length
 body:∀r∈n.routines,fB n.decls n.routines.length r.params.length r.body/\r.body.sz<=q
theorem FN.ok {n:ZG} {q:Nat} (h:FN n q):Xu n:=
 ⟨h.decls.ok,h.len.2,fun r hr=>(Tm.bd (f:=⟨r.params,r.result,default⟩) (h.sigs r hr)).1,fun r hr=>by have:=(h.lent r hr).1;omega⟩
def Pk (n k:Int):Prop:=0<=k/\(0<n->k<n)/\(n<=0->k=0)
theorem Pk.lt {n k:Int} (h:Pk n k) (hn:0<n):0<=k/\k<n:=⟨h.1,h.2.1 hn⟩
theorem Pk.zero {n:Int}:Pk n 0:=⟨Int.le_refl _,fun h=>h,fun _=>rfl⟩
theorem Pk.rem {n a:Int} (ha:0<=a) (hn:0<n):Pk n (a % n):=⟨Int.emod_nonneg _ om,fun _=>Int.emod_lt_of_pos _ hn,fun _=>by omega⟩
def AD (ds:List Zb):Prop:=ds.length<=8/\∀d∈ds,d.cons.length<=4/\∀c∈d.cons,c.fields.length<=4
theorem GD.ad {ds:List Zb} (h:GD ds):AD ds:=(by decide:∀ds∈B3,ds.length<=8/\∀d∈ds,d.cons.length<=4/\∀c∈d.cons,c.fields.length<=4) ds h
theorem AD.set {ds:List Zb} (h:AD ds) (k:Nat) {d:Zb} (hd:d.cons.length<=4/\∀c∈d.cons,c.fields.length<=4):AD (ds.set k d):=
 ⟨by rw [VQ];exact h.1,fun x hx=>(List.mem_or_eq_of_mem_set hx).elim (h.2 x) fun e=>by rw [e];exact hd⟩
theorem AD.app {ds es:List Zb} (h:AD ds) (hl:ds.length+es.length<=8) (hd:∀d∈es,d.cons.length<=4/\∀c∈d.cons,c.fields.length<=4):AD (ds++es):=
 ⟨by rw [ZX];exact hl,fun x hx=>(Xl.1 hx).elim (h.2 x) (hd x)⟩
theorem GD.three:GD [AP,⟨0,0,[]⟩,AQ]:=List.Mem.head _
theorem GD.four:∀{k:Nat} {x:Zb},NQ[k]? = some x->GD ([AP,⟨0,0,[]⟩,AQ]++[x])
 | 0,x,h=>by cases h;exact .tail _ (.head _)
 | 1,x,h=>by cases h;exact .tail _ (.tail _ (.head _))
 | 2,x,h=>by cases h;exact .tail _ (.tail _ (.tail _ (.head _)))
 | 3,x,h=>by cases h;exact .tail _ (.tail _ (.tail _ (.tail _ (.head _))))
 | k+4,x,h=>by simp [NQ] at h
theorem BR {l:LI} {z a b:Int} (h:z∈l) (hl:l.all (fun x=>decide (a<=x/\x<=b))=true):a<=z/\z<=b:=by
 have:=JU.1 hl z h
 exact of_decide_eq_true this
def rk (t:Int):Nat:=if J8 t then 0 else 1
theorem Mk (t:Int):rk t<=1:=by rw [rk];split<;>omega
theorem Sw {t:Int} (h:J8 t):rk t=0:=Zk h
def SE (g:W8) (q:Nat) (e:Z2):Prop:=(∀m,eW g.decls g.funcs.length m e)/\e.sz<=q
def GE (g:W8) (m q:Nat) (e:Z2):Prop:=eW g.decls g.funcs.length m e/\e.sz<=q
theorem SE.ge {g:W8} {q q' m:Nat} {e:Z2} (h:SE g q e) (hq:q<=q'):GE g m q' e:=⟨h.1 m,V6 h.2 hq⟩
theorem GE.le {g:W8} {m q q':Nat} {e:Z2} (h:GE g m q e) (hq:q<=q'):GE g m q' e:=⟨h.1,V6 h.2 hq⟩
theorem Gu {m:Nat}:∀{xs:List Z2},(∀e∈xs,e.sz<=m)->Xz xs<=xs.length*m
 | [],_=>Q9 _
 | x::r,h=>by
  have h1:=h x (Xa ..)
  have h2:=Gu (xs:=r) fun e he=>h e (Xj _ he)
  rw [Xz,Yo,TJ];omega
theorem XD {α:Type} {p:α->Prop} {xs:List α} {a:α} (h:∀x∈xs,p x) (ha:p a):∀x∈xs++[a],p x:=fun x hx=>(Xl.1 hx).elim (h x) fun q=>by rw [Xy.1 q];exact ha
theorem SE.int {g:W8} {z:Int} {q:Nat} (hz:-2000<=z/\z<=2000) (hq:1<=q):SE g q (.mk 0 z []):=⟨fun _=>Z5k hz,by simpa [Z2.sz,Xz] using hq⟩
theorem SE.node {g:W8} {op num:Int} {ys:List Z2} {q k:Nat} (ho:op=6∨op=10) (hn:0<=num/\num<=2000) (hy:∀e∈ys,SE g 1 e) (hl:ys.length<=k) (hk:k<=3) (hq:1+k<=q):SE g q (.mk op num ys):=by
 refine ⟨fun m=>Cv om (fun h=>by omega) om om fun e he=>(hy e he).1 m,?_⟩
 have:=Gu (xs:=ys) (m:=1) fun e he=>(hy e he).2
 rw [Z2.sz];omega
def Bq (ds:List Zb) (t c:Int):Prop:=(0<=c/\c<=9)/\(ZP ds c).length<=3*rk t/\∀u∈ZP ds c,J8 u
instance (ds:List Zb) (t c:Int):Decidable (Bq ds t c):=inferInstanceAs (Decidable (_/\_/\_))
theorem Z01 {ds:List Zb} (h:GD ds):∀t∈[(1:Int),2,3,4],∀c∈ZZ ds t,(t∈ZP ds c->∀c0,(ZZ ds t)[0]? = some c0->Bq ds t c0)/\(¬t∈ZP ds c->Bq ds t c):=by
 intro t ht c hc
 have k1:=(by decide:∀ds∈B3,∀t∈[(1:Int),2,3,4],∀c∈ZZ ds t,(t∈ZP ds c->Bq ds t (gI (ZZ ds t) 0))/\(¬t∈ZP ds c->Bq ds t c)) ds h t ht c hc
 refine ⟨fun q c0 h0=>?_,k1.2⟩
 have:=k1.1 q
 rwa [Te (i:=0) h0] at this
theorem NN {ds:List Zb} (h:GD ds) {t c:Int} (hc:c∈ZZ ds t):t∈[(1:Int),2,3,4]:=by
 obtain ⟨_,h2,_⟩:=h.cons_cases hc
 rcases h2 with rfl|rfl|rfl<;>simp
theorem Zf6 {ds:List Zb} (h:GD ds) {t c c0:Int} (hc:c∈ZZ ds t) (ht:t∈ZP ds c) (h0:(ZZ ds t)[0]? = some c0):Bq ds t c0:=(Z01 h t (NN h hc) c hc).1 ht c0 h0
theorem Zf5 {ds:List Zb} (h:GD ds) {t c:Int} (hc:c∈ZZ ds t) (ht:¬t∈ZP ds c):Bq ds t c:=(Z01 h t (NN h hc) c hc).2 ht
theorem Zeb {ds:List Zb} (h:GD ds) {t:Int} (h0:(ZZ ds t).length=0) (ht:0<t):rk t=1:=by
 rw [rk,Za]
 rintro (q|q|q)
 ·omega
 ·rw [q,h.low.2.1] at h0;cases h0
 ·rw [q,h.low.2.2.2.1] at h0;cases h0
def AF (g:W8) (t i:Int):Prop:=0<=i/\∃f,g.funcs[i.toNat]? = some f/\0<f.params.length/\A1 g.decls (gI f.params ((f.params.length:Int)-1)) f.result=t
theorem AF.lt {g:W8} {t i:Int} (h:AF g t i):0<=i/\i<g.funcs.length:=by
 obtain ⟨h1,f,h2,_⟩:=h
 have:=(Xh.1 h2).1
 omega
theorem AF.mk {g:W8} {t x2:Int} {k:Nat} {f:Func} (hf:g.funcs[k]? = some f) (hl:0<f.params.length) (hx:f.params[f.params.length-1]? = some x2) (ha:A1 g.decls x2 f.result=t):AF g t (k:Int):=by
 refine ⟨by omega,f,by simpa using hf,hl,?_⟩
 rw [Te (i:=(f.params.length:Int)-1) (by rw [show ((f.params.length:Int)-1).toNat=f.params.length-1 by omega];exact hx)]
 exact ha
theorem AF.low {g:W8} {t i u:Int} {f:Func} {j:Nat} (hg:GP g) (h:AF g t i) (ht:0<t) (hf:g.funcs[i.toNat]? = some f) (hj:j+1<f.params.length) (hu:f.params[j]? = some u):rk u=0:=by
 obtain ⟨_,f',h2,_,h4⟩:=h
 have e:f'=f:=Da (h2.symm.trans hf)
 subst e
 have h5:=(hg.sigs f' (Y3 hf)).clo hg.decls (by rw [h4];exact ht)
 refine Sw (h5 u ?_)
 rw [List.dropLast_eq_take]
 exact Y3 (i:=j) (by rw [List.getElem?_take_of_lt om];exact hu)
end Go.Abs
section
namespace Go.Abs
theorem A4 (b:Nat):bS b=max 4 (10*b-10):=rfl
theorem A3 (b:Nat):bC b=max 40 (100*b-100):=rfl
theorem F6 {L q b:Nat} (hL:L<=3) (hb:3<=b) (hq:L*q<=b-1):1+L*bS q<=bS b:=by
 rw [A4,A4]
 have:L=0∨L=1∨L=2∨L=3:=by omega
 rcases this with rfl|rfl|rfl|rfl<;>omega
theorem Zbv {L q b:Nat} (hL:L<=3) (hb:3<=b) (hq:L*q<=b-2):5+L*bS q<=bS b:=by
 rw [A4,A4]
 have:L=0∨L=1∨L=2∨L=3:=by omega
 rcases this with rfl|rfl|rfl|rfl<;>omega
theorem Zbr {b:Nat} (hb:3<=b):1+(bS (b / 2)+bS (b / 2))<=bS b:=by rw [A4,A4];omega
theorem Z30 {b:Nat} (hb:3<=b):5+bS (b-2)<=bS b:=by rw [A4,A4];omega
theorem Bb {L q b:Nat} (hL:L<=3) (hb:3<=b) (hq:L*q<=b-1):10+L*bC q<=bC b:=by
 rw [A3,A3]
 have:L=0∨L=1∨L=2∨L=3:=by omega
 rcases this with rfl|rfl|rfl|rfl<;>omega
theorem Zbu {L q b:Nat} (hL:L<=3) (hb:3<=b) (hq:L*q<=b-2):40+L*bC q<=bC b:=by
 rw [A3,A3]
 have:L=0∨L=1∨L=2∨L=3:=by omega
 rcases this with rfl|rfl|rfl|rfl<;>omega
theorem Zbq {b:Nat} (hb:3<=b):10+(bC (b / 2)+bC (b / 2))<=bC b:=by rw [A3,A3];omega
theorem Z2z {b:Nat} (hb:3<=b):40+bC (b-2)<=bC b:=by rw [A3,A3];omega
theorem Nr (b:Nat):4<=bS b:=by rw [A4];omega
theorem Nq (b:Nat):40<=bC b:=by rw [A3];omega
theorem Qa (L b:Nat):L*(b / L)<=b:=Nat.mul_div_le b L
theorem Rm {k L C:Nat} (h:k<L):(k+1)*C=k*C+C/\(k+1)*C<=L*C:=⟨by rw [TJ,Nat.one_mul],Jo C h⟩
theorem E5 {ds:List Zb} {d x:Int} {m k:Nat} (h:(ZZ ds d)[k]? = some x):Q2 ds 8 d m (1+k)=m+(ZP ds x).length:=by
 rw [Q2,Za om,Zk rfl,Za om,Te (i:=((1+k:Nat):Int)-1) (by rw [show (((1+k:Nat):Int)-1).toNat=k by omega];exact h)]
section
variable {g:W8} {m:Nat}
theorem GE.var {z:Int} {q:Nat} (hz:0<=z/\z<m) (hm:m<=2000) (hq:1<=q):GE g m q (.mk 12 z []):=⟨Z5l hz hm,by simpa [Z2.sz,Xz] using hq⟩
theorem GE.list {ys:List Z2} {L s:Nat} (h:∀e∈ys,GE g m s e) (hl:ys.length=L):Xz ys<=L*s:=by rw [<-hl];exact Gu fun e he=>(h e he).2
theorem GE.node {op num:Int} {ys:List Z2} {L s q:Nat} (ho:0<=op/\op<=11/\op≠7/\op≠8) (hc:op=9->0<=num/\num<g.funcs.length) (hn:-2000<=num/\num<=2000) (h:∀e∈ys,GE g m s e) (hl:ys.length=L) (hL:L<=3) (hq:1+L*s<=q):GE g m q (.mk op num ys):=by
 have:=GE.list h hl
 exact ⟨Cv ho hc hn om fun e he=>(h e he).1,by rw [Z2.sz];omega⟩
theorem GE.if_ {num:Int} {ys:List Z2} {s q:Nat} (hn:-2000<=num/\num<=2000) (h:∀e∈ys,GE g m s e) (hl:ys.length=3) (hq:1+3*s<=q):GE g m q (.mk 7 num ys):=by
 have:=GE.list h hl
 exact ⟨O2 hn hl fun e he=>(h e he).1,by rw [Z2.sz];omega⟩
theorem GE.let_ {a b:Z2} {s q:Nat} (ha:GE g m s a) (hb:GE g (m+1) s b) (hq:1+(s+s)<=q):GE g m q (.mk 13 0 [a,b]):=by
 refine ⟨O3 om ha.1 hb.1,?_⟩
 have h1:=ha.2
 have h2:=hb.2
 simp only [Z2.sz,Xz];omega
theorem GE.two {op num:Int} {a b:Z2} {s1 s2 q:Nat} (ho:0<=op/\op<=11/\op≠7/\op≠8/\op≠9) (hn:-2000<=num/\num<=2000) (ha:GE g m s1 a) (hb:GE g m s2 b) (hq:1+(s1+s2)<=q):GE g m q (.mk op num [a,b]):=by
 refine ⟨Cv om (fun h=>by omega) hn (by simp) fun e he=>?_,?_⟩
 ·rcases YN.1 he with rfl|he
  ·exact ha.1
  ·rw [Xy.1 he];exact hb.1
 ·have h1:=ha.2
  have h2:=hb.2
  simp only [Z2.sz,Xz];omega
theorem GE.match_ {d:Int} {e:Z2} {ys:List Z2} {L s q:Nat} (hd:-2000<=d/\d<=2000) (he:GE g m 4 e) (hw:QX g.decls g.funcs.length (Q2 g.decls 8 d m) 1 ys) (hs:∀e∈ys,e.sz<=s) (hl:ys.length=L) (hL:L=(ZZ g.decls d).length) (h3:L<=3) (hq:5+L*s<=q):GE g m q (.mk 8 d (e::ys)):=by
 refine ⟨L4 hd om om he.1 hw,?_⟩
 have h1:=Gu hs
 rw [hl] at h1
 have h2:=he.2
 rw [Z2.sz,Xz];omega
end
def NL (s:Nat) (left w:Int):Prop:=((s:Int)<=left/\w=left-s)∨(left<s/\w=-1)
end Go.Abs
namespace Go.Abs
theorem CO {L b p pp M:Nat} (hL:L<=3) (hb:3<=b) (h:pp<=p+8) (hp:p+(bC b-1)<=M):pp+L*bC ((b-1) / L)<=M:=by
 have:=Bb hL hb (Qa L (b-1))
 omega
end Go.Abs
end
namespace Go.Abs
theorem Z5z (a b:Z2):Xz [a,b]=a.sz+b.sz:=by simp only [Xz];omega
theorem Gt (a b c:Z2):Xz [a,b,c]=a.sz+b.sz+c.sz:=by simp only [Xz];omega
theorem Es:bS 3=20/\bS 4=30/\bS 12=110/\bS 16=150/\bS 18=170/\bC 3=200/\bC 4=300/\bC 16=1500:=by decide
theorem G6 {b:Nat} (h:b<=20):bS b<=190/\bC b<=1900/\(b<=2->bS b<=10):=by rw [A4,A3];omega
section
variable {g:W8} {m:Nat}
theorem SE.ofs {op num:Int} {ys:List Z2} {q:Nat} (ho:0<=op/\op<=11/\op≠7/\op≠8/\op≠9) (hn:-2000<=num/\num<=2000) (hl:ys.length<=4) (hy:∀e∈ys,∃s,SE g s e) (hq:1+Xz ys<=q):SE g q (.mk op num ys):=
 ⟨fun m=>Cv om (fun h=>by omega) hn hl fun e he=>let ⟨_,h⟩:=hy e he;h.1 m,by rw [Z2.sz];exact hq⟩
theorem SE.nil {op num:Int} {q:Nat} (ho:0<=op/\op<=11/\op≠7/\op≠8/\op≠9) (hn:-2000<=num/\num<=2000) (hq:1<=q):SE g q (.mk op num []):=
 SE.ofs ho hn (by simp) (fun e he=>by cases he) (by simpa [Xz] using hq)
theorem SE.two {op num:Int} {a b:Z2} {s1 s2 q:Nat} (ho:0<=op/\op<=11/\op≠7/\op≠8/\op≠9) (hn:-2000<=num/\num<=2000) (ha:SE g s1 a) (hb:SE g s2 b) (hq:1+(s1+s2)<=q):SE g q (.mk op num [a,b]):=by
 refine SE.ofs ho hn (by simp) (fun e he=>?_) ?_
 ·rcases YN.1 he with rfl|he
  ·exact ⟨_,ha⟩
  ·rw [Xy.1 he];exact ⟨_,hb⟩
 ·have h1:=ha.2
  have h2:=hb.2
  rw [Z5z];omega
theorem SE.three {op num:Int} {a b c:Z2} {s1 s2 s3 q:Nat} (ho:0<=op/\op<=11/\op≠7/\op≠8/\op≠9) (hn:-2000<=num/\num<=2000) (ha:SE g s1 a) (hb:SE g s2 b) (hc:SE g s3 c) (hq:1+(s1+s2+s3)<=q):SE g q (.mk op num [a,b,c]):=by
 refine SE.ofs ho hn (by simp) (fun e he=>?_) ?_
 ·rcases YN.1 he with rfl|he
  ·exact ⟨_,ha⟩
  ·rcases YN.1 he with rfl|he
   ·exact ⟨_,hb⟩
   ·rw [Xy.1 he];exact ⟨_,hc⟩
 ·have h1:=ha.2
  have h2:=hb.2
  have h3:=hc.2
  rw [Gt];omega
theorem GE.int {z:Int} {q:Nat} (hz:-2000<=z/\z<=2000) (hq:1<=q):GE g m q (.mk 0 z []):=(SE.int (g:=g) (q:=q) hz hq).ge (X0 _)
theorem GE.three {op num:Int} {a b c:Z2} {s1 s2 s3 q:Nat} (ho:0<=op/\op<=11/\op≠8/\op≠9) (hn:-2000<=num/\num<=2000) (ha:GE g m s1 a) (hb:GE g m s2 b) (hc:GE g m s3 c) (hq:1+(s1+s2+s3)<=q):GE g m q (.mk op num [a,b,c]):=by
 have hk:∀e∈[a,b,c],eW g.decls g.funcs.length m e:=fun e he=>by
  rcases YN.1 he with rfl|he
  ·exact ha.1
  ·rcases YN.1 he with rfl|he
   ·exact hb.1
   ·rw [Xy.1 he];exact hc.1
 refine ⟨?_,?_⟩
 ·by_cases h7:op=7
  ·subst h7;exact O2 hn rfl hk
  ·exact Cv om (fun h=>by omega) hn (by simp) hk
 ·have h1:=ha.2
  have h2:=hb.2
  have h3:=hc.2
  rw [Z2.sz,Gt];omega
theorem GE.one {op num:Int} {a:Z2} {s1 q:Nat} (ho:0<=op/\op<=11/\op≠7/\op≠8/\op≠9) (hn:-2000<=num/\num<=2000) (ha:GE g m s1 a) (hq:1+s1<=q):GE g m q (.mk op num [a]):=by
 refine ⟨Cv om (fun h=>by omega) hn (by simp) fun e he=>?_,?_⟩
 ·rw [Xy.1 he];exact ha.1
 ·have h1:=ha.2
  simp only [Z2.sz,Xz];omega
theorem GE.letS {a b:Z2} {s1 s2 q:Nat} (ha:GE g m s1 a) (hb:GE g (m+1) s2 b) (hq:1+(s1+s2)<=q):GE g m q (.mk 13 0 [a,b]):=by
 refine ⟨O3 om ha.1 hb.1,?_⟩
 have h1:=ha.2
 have h2:=hb.2
 simp only [Z2.sz,Xz];omega
theorem GE.matchL (hg:GP g) {e a b:Z2} {s1 s2 s3 q:Nat} (he:GE g m s1 e) (ha:GE g m s2 a) (hb:GE g (m+2) s3 b) (hq:1+(s1+s2+s3)<=q):GE g m q (.mk 8 1 [e,a,b]):=by
 have hl:=hg.decls.low
 refine ⟨L4 om (by simp) (by rw [hl.2.1];rfl) he.1 ⟨?_,?_,True.intro⟩,?_⟩
 ·rw [E5 (k:=0) (x:=0) (by rw [hl.2.1];rfl),hl.2.2.2.2.1];exact ha.1
 ·rw [E5 (k:=1) (x:=1) (by rw [hl.2.1];rfl),hl.2.2.2.2.2.1];exact hb.1
 ·have h1:=he.2
  have h2:=ha.2
  have h3:=hb.2
  rw [Z2.sz,Gt];omega
theorem GE.matchT (hg:GP g) {e a b:Z2} {s1 s2 s3 q:Nat} (he:GE g m s1 e) (ha:GE g m s2 a) (hb:GE g (m+3) s3 b) (hq:1+(s1+s2+s3)<=q):GE g m q (.mk 8 3 [e,a,b]):=by
 have hl:=hg.decls.low
 refine ⟨L4 om (by simp) (by rw [hl.2.2.2.1];rfl) he.1 ⟨?_,?_,True.intro⟩,?_⟩
 ·rw [E5 (k:=0) (x:=2) (by rw [hl.2.2.2.1];rfl),hl.2.2.2.2.2.2.1];exact ha.1
 ·rw [E5 (k:=1) (x:=3) (by rw [hl.2.2.2.1];rfl),hl.2.2.2.2.2.2.2];exact hb.1
 ·have h1:=he.2
  have h2:=ha.2
  have h3:=hb.2
  rw [Z2.sz,Gt];omega
theorem Ir {α:Type} {p:α->Prop} {a:α} (h:p a):∀x∈[a],p x:=fun x hx=>by rw [Xy.1 hx];exact h
end
structure If (g:W8):Prop where
 gp:GP g
 body:∀f∈g.funcs,eW g.decls g.funcs.length f.params.length f.body/\f.body.sz<=30
structure GL (ds:List Zb) (k j:Nat) (rq:List Func):Prop where
 len:rq.length=4
 sigs:∀f∈rq,Tm f
 zero:∀f,rq[0]? = some f->f.params.length=0
 body:∀i f,j<=i->i<k->rq[i]? = some f->eW ds k f.params.length f.body/\f.body.sz<=30
theorem GL.gp {ds:List Zb} {k j:Nat} {rq:List Func} (h:GL ds k j rq) (hd:GD ds) (hk:1<=k/\k<=4):GP ⟨ds,rq.take k⟩:=
 ⟨hd,by show 1<=(rq.take k).length/\_;rw [Wi,h.len];omega,fun f hf=>h.sigs f (QP hf)⟩
theorem GL.len_take {ds:List Zb} {k j:Nat} {rq:List Func} (h:GL ds k j rq) (hk:k<=4):(rq.take k).length=k:=by rw [Wi,h.len];omega
theorem GL.set {ds:List Zb} {k j:Nat} {rq:List Func} {f:Func} {e:Z2} (h:GL ds k j rq) (hj:1<=j) (hf:rq[j-1]? = some f) (he:eW ds k f.params.length e/\e.sz<=30):GL ds k (j-1) (rq.set (j-1) ⟨f.params,f.result,e⟩):=by
 have hl:=(Xh.1 hf).1
 refine ⟨by rw [VQ];exact h.len,fun x hx=>?_,fun x hx=>?_,fun i x h1 h2 hx=>?_⟩
 ·rcases List.mem_or_eq_of_mem_set hx with hx|rfl
  ·exact h.sigs x hx
  ·exact h.sigs f (Y3 hf)
 ·rw [List.getElem?_set] at hx
  split at hx
  ·rename_i h0
   cases hx
   exact h.zero f (by rw [<-h0];exact hf)
  ·exact h.zero x hx
 ·rw [List.getElem?_set] at hx
  split at hx
  ·cases hx
   exact he
  ·exact h.body i x om h2 hx
theorem GL.done {ds:List Zb} {k:Nat} {rq:List Func} (h:GL ds k 0 rq) (hd:GD ds) (hk:1<=k/\k<=4):If ⟨ds,rq.take k⟩:=by
 refine ⟨h.gp hd hk,fun f hf=>?_⟩
 show eW ds (rq.take k).length _ _/\_
 rw [h.len_take hk.2]
 obtain ⟨i,hi⟩:=List.getElem?_of_mem hf
 have hi2:i<(rq.take k).length:=(Xh.1 hi).1
 rw [h.len_take hk.2] at hi2
 rw [List.getElem?_take_of_lt hi2] at hi
 exact h.body i f om hi2 hi
theorem My {l:List Func} {f:Func} {k:Nat} (h:l[k]? = some f) (hl:l.all (fun f=>decide ((f.params,f.result)∈JZ))=true):Tm f:=show (f.params,f.result)∈JZ from of_decide_eq_true (JU.1 hl f (Y3 h))
theorem GL.start {ds:List Zb} {k:Nat} {e:Z2} {a b c:Func} (ha:Tm a) (hb:Tm b) (hc:Tm c):GL ds k k [⟨[],0,e⟩,a,b,c]:=by
 refine ⟨rfl,fun f hf=>?_,fun f hf=>?_,fun i f h1 h2=>by omega⟩
 ·rcases YN.1 hf with rfl|hf
  ·exact List.Mem.head _
  ·rcases YN.1 hf with rfl|hf
   ·exact ha
   ·rcases YN.1 hf with rfl|hf
    ·exact hb
    ·rw [Xy.1 hf];exact hc
 ·cases hf;rfl
theorem Zcf {l:LI} {k:Nat} {a b:Nat} (h:(k:Int)∈l) (hl:l.all (fun x=>decide ((a:Int)<=x/\x<=b))=true):a<=k/\k<=b:=by
 have:=of_decide_eq_true (JU.1 hl _ h)
 omega
mutual
def Kb (p:Int->Prop):Z5->Prop
 | .mk op _ _ _ kids=>p op/\Ka p kids
def Ka (p:Int->Prop):List Z8->Prop
 | []=>True
 | b::r=>Vq p b/\Ka p r
def TX (p:Int->Prop):List Z5->Prop
 | []=>True
 | s::r=>Kb p s/\TX p r
def Vq (p:Int->Prop):Z8->Prop
 | .mk steps _=>TX p steps
end
section
variable {p q:Int->Prop}
theorem Fc (s:Z5):Kb p s↔p s.op/\Ka p s.kids:=by cases s;rw [Kb];rfl
theorem Hl (b:Z8):Vq p b↔TX p b.steps:=by cases b;rw [Vq];rfl
theorem DP:∀{xs:List Z8},Ka p xs↔∀b∈xs,Vq p b
 | []=>by simp [Ka]
 | b::r=>by rw [Ka,DP];simp
theorem CS:∀{xs:List Z5},TX p xs↔∀b∈xs,Kb p b
 | []=>by simp [TX]
 | b::r=>by rw [TX,CS];simp
theorem Hm {xs ys:List Z5}:TX p (xs++ys)↔TX p xs/\TX p ys:=by simp only [CS,Xl];exact ⟨fun h=>⟨fun b hb=>h b (.inl hb),fun b hb=>h b (.inr hb)⟩,fun h b hb=>hb.elim (h.1 b) (h.2 b)⟩
theorem Ry {xs:List Z8} {b:Z8} (h:Ka p xs) (hb:Vq p b):Ka p (xs++[b]):=DP.2 (XD (DP.1 h) hb)
theorem Hn {xs:List Z5} {b:Z5} (h:TX p xs) (hb:Kb p b):TX p (xs++[b]):=CS.2 (XD (CS.1 h) hb)
end
def WP (op:Int):Prop:=op<=11
def Vy (op:Int):Prop:=op<=15
end Go.Abs
section
namespace Go.Abs
structure LW (ds:List Zb) (nf q:Nat) (e:Z2) (ys:List Z5) (v:Int):Prop where
 fs:Wa ds nf q ys
 v:0<=v/\v<(q+Yv ys:Nat)
 sz:Yw ys<=6*e.sz
 op:TX WP ys
theorem LW.dn {ds:List Zb} {nf q:Nat} {e:Z2} {ys:List Z5} {v:Int} (h:LW ds nf q e ys v):Yv ys<=6*e.sz/\ys.length<=6*e.sz:=by
 have h1:=AR ys
 have h2:=Jf ys
 have h3:=h.sz
 omega
structure LB (ds:List Zb) (nf q:Nat) (e:Z2) (b:Z8):Prop where
 fb:fB ds nf q b
 sz:b.sz<=1+6*e.sz
 op:Vq WP b
section
variable {ds:List Zb} {nf q:Nat}
theorem G8:∀xs ys:List Z8,YW (xs++ys)=YW xs+YW ys
 | [],ys=>by simp [YW]
 | x::r,ys=>by rw [AA,YW,YW,G8 r];omega
theorem LW.block {e:Z2} {ys:List Z5} {v:Int} (h:LW ds nf q e ys v):LB ds nf q e ⟨ys,v⟩:=
 ⟨by rw [fB];exact ⟨h.fs,h.v⟩,by rw [Z8.sz];have:=h.sz;omega,by rw [Vq];exact h.op⟩
theorem LW.var {e:Z2} {v:Int} (hv:0<=v/\v<q):LW ds nf q e [] v:=⟨True.intro,by simpa [Yv] using hv,by simp [Yw],True.intro⟩
theorem LW.let_ {e a b:Z2} {ys zs:List Z5} {v1 v2:Int} (ha:LW ds nf q a ys v1) (hb:LW ds nf (q+Yv ys) b zs v2) (he:a.sz+b.sz<e.sz):LW ds nf q e (ys++zs) v2:=by
 refine ⟨Ai.2 ⟨ha.fs,hb.fs⟩,by rw [T6,<-AC];exact hb.v,?_,Hm.2 ⟨ha.op,hb.op⟩⟩
 have h1:=ha.sz
 have h2:=hb.sz
 rw [Q4];omega
theorem EA {ys:List Z5} {s:Z5} (h:YO s.op=false):Yv (ys++[s])=Yv ys+1:=by
 rw [T6]
 simp [Yv,h]
theorem LW.node {e:Z2} {ys:List Z5} {as1:LI} (ho:0<=e.op/\e.op<=11/\e.op≠7/\e.op≠8) (hc:e.op=9->0<=e.num/\e.num<nf) (hn:-2000<=e.num/\e.num<=2000) (hf:Wa ds nf q ys) (ha:∀a∈as1,0<=a/\a<(q+Yv ys:Nat)) (hl:as1.length<=4) (hs:Yw ys<=6*Xz e.kids) (hop:TX WP ys) :
  LW ds nf q e (ys++[⟨e.op,e.num,0,as1,[]⟩]) ((q+Yv ys:Nat):Int):=by
 have hcb:YO e.op=false:=by simp [YO];omega
 refine ⟨Gw hf ?_,?_,?_,Hn hop (by rw [Kb];exact ⟨by show e.op<=11;omega,True.intro⟩)⟩
 ·rw [fS]
  exact ⟨.inl ⟨by omega,by omega⟩,ha,fun h=>by omega,fun h=>by omega,fun h=>by omega,fun h=>by omega,hc,hn,by omega,hl,fun _=>rfl,True.intro⟩
 ·rw [EA (show YO (Z5.mk e.op e.num 0 as1 []).op=false from hcb)];omega
 ·rw [Q4,e.sz_eq]
  simp only [Yw,Z5.sz,YW]
  omega
theorem LW.branch {e:Z2} {ys:List Z5} {v:Int} {bs:List Z8} {s0 sr:Nat} (ho:e.op=7∨e.op=8) (h7:e.op=7->bs.length=2) (h8:e.op=8->bs.length=(ZZ ds e.num).length) (hn:-2000<=e.num/\e.num<=2000) (hf:Wa ds nf q ys) (hv:0<=v/\v<(q+Yv ys:Nat))
  (hb:U6 ds nf (WX ds e.op e.num (q+Yv ys)) 0 bs) (hl:bs.length<=3) (h0:Yw ys<=6*s0) (h1:YW bs<=bs.length+6*sr) (hs:s0+sr<=Xz e.kids) (hop:TX WP ys) (hob:Ka WP bs):LW ds nf q e (ys++[⟨e.op,e.num,0,[v],bs⟩]) ((q+Yv ys:Nat):Int):=by
 have hcb:YO e.op=false:=by simp [YO];omega
 refine ⟨Gw hf ?_,?_,?_,Hn hop (by rw [Kb];exact ⟨by show e.op<=11;omega,hob⟩)⟩
 ·rw [fS]
  exact ⟨.inl ⟨by omega,by omega⟩,fun a ha=>by rw [Xy.1 ha];exact hv,fun h=>by omega,h7,h8,fun _=>⟨v,rfl⟩,fun h=>by omega,hn,by omega,by simp,fun h=>by omega,hb⟩
 ·rw [EA (show YO (Z5.mk e.op e.num 0 [v] bs).op=false from hcb)];omega
 ·rw [Q4,e.sz_eq]
  simp only [Yw,Z5.sz,Yo,YC]
  omega
theorem SZ {ds:List Zb} {op num:Int} {m k:Nat} (h:op=13):Q2 ds op num m k=m+k:=Zk h
theorem Zf3 {ds:List Zb} {op num:Int} {m:Nat} (h:op≠13):Q2 ds op num m 0=m:=by simp [Q2,h]
theorem Z00 {ds:List Zb} {op num:Int} {m k:Nat} (h:op≠13/\op≠8):Q2 ds op num m k=m:=by simp [Q2,h.1,h.2]
theorem Zf4 {ds:List Zb} {op num x:Int} {m k j:Nat} (h:op=8) (hk:k=j+1) (hx:(ZZ ds num)[j]? = some x):Q2 ds op num m k=m+(ZP ds x).length:=by
 subst h;subst hk;rw [Nat.add_comm j 1];exact E5 hx
theorem Mv {ds:List Zb} {op num x:Int} {m j:Nat} (h:op=8) (hx:(ZZ ds num)[j]? = some x):WX ds op num m j=m+(ZP ds x).length:=by
 rw [WX,Zk h,Te (i:=(j:Int)) (by simpa using hx)]
theorem Mw {ds:List Zb} {op num:Int} {m j:Nat} (h:op≠8):WX ds op num m j=m:=Za h
theorem BC {xs:List Z2} {k:Nat} {e:Z2} (h:xs[k]? = some e):Xz (xs.take (k+1))=Xz (xs.take k)+e.sz:=by rw [V5 h,EG,Xz,Xz];rfl
theorem AX {xs:List Z2} (k:Nat):Xz (xs.take k)<=Xz xs:=by
 have h:=Yl Xz (TA k xs)
 rw [EG] at h;omega
theorem Ox {xs:List Z2} {a b:Z2} (ha:xs[0]? = some a) (hb:xs[1]? = some b):a.sz+b.sz<=Xz xs:=by
 have h1:Xz (xs.take 1)=Xz (xs.take 0)+a.sz:=BC ha
 have h2:Xz (xs.take 2)=Xz (xs.take 1)+b.sz:=BC hb
 have h3:=AX (xs:=xs) 2
 omega
theorem FJ {us:LI} {v:Int} {d:Nat} (hu:∀a∈us,0<=a/\a<(q:Int)) (hv:0<=v/\v<(q+d:Nat)):∀a∈us++[v],0<=a/\a<((q+d:Nat):Int):=
 XD (fun a ha=>by have:=hu a ha;omega) hv
theorem I2 {us:LI} {d:Nat} (hu:∀a∈us,0<=a/\a<(q:Int)):∀a∈us,0<=a/\a<((q+d:Nat):Int):=fun a ha=>by have:=hu a ha;omega
theorem Zi1 {us ns:LI} {d mf:Nat} (hu:∀a∈us,0<=a/\a<(q:Int)) (hn:∀i∈ns,((q+d:Nat):Int)<=i/\i<((q+d:Nat):Int)+mf):∀a∈us++ns,0<=a/\a<((q+d+mf:Nat):Int):=fun a ha=>by
 rcases Xl.1 ha with h|h
 ·have:=hu a h;omega
 ·have:=hn a h;omega
theorem G9:∀bs:List Z8,bs.length<=YW bs
 | []=>X0 _
 | b::r=>by have:=G9 r;have:=b.sz_pos;rw [YW,Yo];omega
end
end Go.Abs
namespace Go.Abs
structure RF (ds:List Zb) (nf q:Nat) (p:Int->Prop) (r:YE):Prop where
 sig:(r.params,r.result)∈JZ
 lent:r.lent.length<=3/\∀i∈r.lent,0<=i/\i<r.params.length
 body:fB ds nf r.params.length r.body/\r.body.sz<=q
 op:Vq p r.body
structure FO (n:ZG) (q:Nat) (p:Int->Prop):Prop where
 fn:FN n q
 op:∀r∈n.routines,Vq p r.body
theorem FO.rf {n:ZG} {q:Nat} {p:Int->Prop} (h:FO n q p) {r:YE} (hr:r∈n.routines):RF n.decls n.routines.length q p r:=⟨h.fn.sigs r hr,h.fn.lent r hr,h.fn.body r hr,h.op r hr⟩
theorem FO.all {n:ZG} {q:Nat} {p:Int->Prop} (hd:GD n.decls) (hl:1<=n.routines.length/\n.routines.length<=4) (h:∀r∈n.routines,RF n.decls n.routines.length q p r):FO n q p:=
 ⟨⟨hd,hl,fun r hr=>(h r hr).sig,fun r hr=>(h r hr).lent,fun r hr=>(h r hr).body⟩,fun r hr=>(h r hr).op⟩
structure RN (ds:List Zb) (nf:Nat) (r:YE):Prop where
 sig:(r.params,r.result)∈JZ
 lent:r.lent=[]
 body:fB ds nf r.params.length r.body/\r.body.sz<=181
 op:Vq WP r.body
theorem RN.all {n:ZG} {q:Nat} (hd:GD n.decls) (hl:1<=n.routines.length/\n.routines.length<=4) (h:∀r∈n.routines,RN n.decls n.routines.length r) (hq:181<=q):FO n q WP:=
 FO.all hd hl fun r hr=>⟨(h r hr).sig,by rw [(h r hr).lent];exact ⟨by simp,fun i hi=>by cases hi⟩,⟨(h r hr).body.1,V6 (h r hr).body.2 hq⟩,(h r hr).op⟩
end Go.Abs
namespace Go.Abs
theorem RN.of {ds:List Zb} {nf:Nat} {ps:LI} {rt:Int} {b:Z8} {e:Z2} (hs:(ps,rt)∈JZ) (h:LB ds nf ps.length e b) (he:e.sz<=30):RN ds nf ⟨ps,[],rt,Z8.mk b.steps b.result⟩:=by
 have e1:Z8.mk b.steps b.result=b:=by cases b;rfl
 rw [e1]
 exact ⟨hs,rfl,⟨h.fb,by have:=h.sz;show b.sz<=181;omega⟩,h.op⟩
end Go.Abs
end
namespace Go.Abs
theorem MG:∀{xs:List Z5} {s:Z5},s∈xs->s.sz<=Yw xs
 | [],s,h=>by cases h
 | x::r,s,h=>by
  rw [Yw]
  rcases YN.1 h with rfl|h
  ·omega
  ·have:=MG h;omega
theorem Iw:∀{xs:List Z8} {b:Z8},b∈xs->b.sz<=YW xs
 | [],b,h=>by cases h
 | x::r,b,h=>by
  rw [YW]
  rcases YN.1 h with rfl|h
  ·omega
  ·have:=Iw h;omega
structure LC (n:ZG) (k:Nat) (xs:List LI):Prop where
 len:xs.length=k
 ok:∀(i:Nat) (l:LI),xs[i]? = some l->l.length<=3/\∀r,n.routines[i]? = some r->∀v∈l,0<=v/\v<(r.params.length:Int)
theorem LC.nil {n:ZG}:LC n 0 []:=⟨rfl,fun i l h=>by simp at h⟩
theorem LC.snoc {n:ZG} {k:Nat} {xs:List LI} {l:LI} (h:LC n k xs) (hl:l.length<=3) (hv:∀r,n.routines[k]? = some r->∀v∈l,0<=v/\v<(r.params.length:Int)):LC n (k+1) (xs++[l]):=by
 refine ⟨by rw [ZX,h.len];rfl,fun i l' hi=>?_⟩
 by_cases hk:i<xs.length
 ·rw [JV hk] at hi
  exact h.ok i l' hi
 ·rw [D8 om] at hi
  have h0:i-xs.length=0:=by
   cases e:i-xs.length with
   | zero=>rfl
   | succ q=>rw [e] at hi;simp at hi
  rw [h0] at hi
  cases hi
  have e:i=k:=by have:=h.len;omega
  subst e
  exact ⟨hl,hv⟩
def Uf:LI->Int->LI
 | [],y=>[y]
 | x::r,y=>if x>y then y::x::r else if x=y then x::r else x::Uf r y
def Qk (d:Bool) (xs:LI) (y:Int):LI:=if d=true then xs else Uf xs y
theorem GY {xs:LI} {y:Int}:Qk true xs y=xs:=rfl
theorem GX {xs:LI} {y:Int}:Qk false xs y=Uf xs y:=rfl
theorem PJ {xs acc r:LI} {y x:Int} {k:Nat} {d:Bool} (hx:xs[k]? = some x) (hd:d=true) (h:acc++Qk d (xs.drop k) y=r):(acc++[x])++Qk d (xs.drop (k+1)) y=r:=by
 subst hd
 rw [GY,Yk hx] at h
 rw [GY,<-h];simp
theorem Zam {xs acc r:LI} {y x:Int} {k:Nat} {d:Bool} (hx:xs[k]? = some x) (hd:¬d=true) (hl:¬x>=y) (h:acc++Qk d (xs.drop k) y=r):(acc++[x])++Qk d (xs.drop (k+1)) y=r:=by
 have hd:=Q8.2 hd
 subst hd
 rw [GX,Yk hx,Uf,Za om,Za om] at h
 rw [GX,<-h];simp
theorem Zan {xs acc r:LI} {y x:Int} {k:Nat} {d:Bool} (hx:xs[k]? = some x) (hd:¬d=true) (hl:x>y) (h:acc++Qk d (xs.drop k) y=r):((acc++[y])++[x])++Qk true (xs.drop (k+1)) y=r:=by
 have hd:=Q8.2 hd
 subst hd
 rw [GX,Yk hx,Uf,Zk hl] at h
 rw [GY,<-h];simp
theorem Zao {xs acc r:LI} {y x:Int} {k:Nat} {d:Bool} (hx:xs[k]? = some x) (hd:¬d=true) (hl:x=y) (h:acc++Qk d (xs.drop k) y=r):(acc++[x])++Qk true (xs.drop (k+1)) y=r:=by
 have hd:=Q8.2 hd
 subst hd
 rw [GX,Yk hx,Uf,Za om,Zk hl] at h
 rw [GY,<-h];simp
theorem Zal {xs acc acc2 r:LI} {y x:Int} {k:Nat} {d d2:Bool} (hx:xs[k]? = some x) (h:acc++Qk d (xs.drop k) y=r)
  (hc:(acc2=acc/\d2=d/\(d=true∨¬x>=y))∨(acc2=acc++[y]/\d2=true/\¬d=true/\x>y)∨(acc2=acc/\d2=true/\¬d=true/\x=y)):(acc2++[x])++Qk d2 (xs.drop (k+1)) y=r:=by
 rcases hc with ⟨rfl,rfl,h3⟩|⟨rfl,rfl,h3,h4⟩|⟨rfl,rfl,h3,h4⟩
 ·rcases h3 with h3|h3
  ·exact PJ hx h3 h
  ·by_cases q:d2=true
   ·exact PJ hx q h
   ·exact Zam hx q h3 h
 ·exact Zan hx h3 h4 h
 ·exact Zao hx h3 h4 h
theorem Zak {xs acc r:LI} {y:Int} {k:Nat} {d:Bool} (hk:xs.length<=k) (h:acc++Qk d (xs.drop k) y=r):(if d=true then acc else acc++[y])=r:=by
 rw [Xm hk] at h
 by_cases q:d=true
 ·rw [Qk,Zk q,T0] at h;rw [Zk q];exact h
 ·rw [Qk,Za q,Uf] at h;rw [Za q];exact h
theorem DG:∀(xs:LI) (y:Int),(Uf xs y).length<=xs.length+1
 | [],y=>X0 _
 | x::r,y=>by
  have:=DG r y
  rw [Uf]
  split
  ·simp
  ·split
   ·simp
   ·simp only [Yo];omega
theorem EW:∀{xs:LI} {y z:Int},z∈Uf xs y↔z∈xs∨z=y
 | [],y,z=>by simp [Uf]
 | x::r,y,z=>by
  rw [Uf]
  split
  ·simp only [YN];exact ⟨fun h=>h.elim .inr .inl,fun h=>h.elim .inr .inl⟩
  ·split
   ·rename_i h;subst h;simp only [YN];exact ⟨fun h=>.inl h,fun h=>h.elim id .inl⟩
   ·simp only [YN,EW (xs:=r)];exact ⟨fun h=>by rcases h with h|h|h<;>simp [h],fun h=>by rcases h with (h|h)|h<;>simp [h]⟩
def Cd (xs:LI):Prop:=xs.Pairwise (·<·)
theorem PI:∀{xs:LI} {y:Int},Cd xs->Cd (Uf xs y)
 | [],y,_=>by simp [Uf,Cd]
 | x::r,y,h=>by
  obtain ⟨h1,h2⟩:=Vg.1 h
  rw [Uf]
  split
  ·rename_i q
   refine Vg.2 ⟨fun z hz=>?_,h⟩
   rcases YN.1 hz with rfl|hz
   ·omega
   ·have:=h1 z hz;omega
  ·split
   ·exact h
   ·refine Vg.2 ⟨fun z hz=>?_,PI h2⟩
    rcases EW.1 hz with hz|rfl
    ·exact h1 z hz
    ·omega
def TY:LI->Int->LI
 | [],_=>[]
 | x::r,y=>if x=y then TY r y else x::TY r y
theorem Fd:∀(xs:LI) (y:Int),(TY xs y).length<=xs.length
 | [],y=>X0 _
 | x::r,y=>by
  have:=Fd r y
  rw [TY]
  split
  ·rw [Yo];omega
  ·rw [Yo,Yo];omega
theorem DR:∀{xs:LI} {y z:Int},z∈TY xs y->z∈xs
 | [],y,z,h=>by rw [TY] at h;exact h
 | x::r,y,z,h=>by
  rw [TY] at h
  split at h
  ·exact Xj _ (DR h)
  ·rcases YN.1 h with rfl|h
   ·exact Xa ..
   ·exact Xj _ (DR h)
theorem Zd0 {xs acc r:LI} {y x:Int} {k:Nat} (hx:xs[k]? = some x) (h:acc++TY (xs.drop k) y=r):(if x≠y then acc++[x] else acc)++TY (xs.drop (k+1)) y=r:=by
 rw [Yk hx,TY] at h
 by_cases q:x=y
 ·rw [Zk q] at h;rw [Za (fun z=>z q)];exact h
 ·rw [Za q] at h;rw [Zk q,<-h];simp
theorem Zcz {xs acc r:LI} {y:Int} {k:Nat} (hk:xs.length<=k) (h:acc++TY (xs.drop k) y=r):acc=r:=by
 rw [Xm hk,TY,T0] at h;exact h
def UN (n:Int) (xs:LI) (a:Int):LI:=if 0<=a/\a<n then Uf xs a else xs
def QM (n:Int):LI->LI->LI
 | [],xs=>xs
 | a::r,xs=>QM n r (UN n xs a)
mutual
def JR (n:Int):Z5->LI->LI
 | .mk op _ _ args kids,xs=>if YO op=true then xs else Jh n kids (QM n args xs)
def Jh (n:Int):List Z8->LI->LI
 | [],xs=>xs
 | b::r,xs=>Jh n r (UW n b xs)
def UX (n:Int):List Z5->LI->LI
 | [],xs=>xs
 | s::r,xs=>UX n r (JR n s xs)
def UW (n:Int):Z8->LI->LI
 | .mk steps result,xs=>UN n (UX n steps xs) result
end
section
variable {n:Int}
theorem Z1r (s:Z5) (xs:LI):JR n s xs=if YO s.op=true then xs else Jh n s.kids (QM n s.args xs):=by cases s;rw [JR];rfl
theorem Z1p (b:Z8) (xs:LI):UW n b xs=UN n (UX n b.steps xs) b.result:=by cases b;rw [UW];rfl
theorem I1 (xs:LI) (a:Int):(UN n xs a).length<=xs.length+1:=by
 rw [UN];split
 ·exact DG xs a
 ·omega
theorem Z1o:∀(as1 xs:LI),(QM n as1 xs).length<=xs.length+as1.length
 | [],xs=>X0 _
 | a::r,xs=>by
  have h1:=Z1o r (UN n xs a)
  have h2:=I1 (n:=n) xs a
  rw [QM,Yo];omega
mutual
theorem Z1s:∀(s:Z5) (xs:LI),(JR n s xs).length<=xs.length+s.sz
 | .mk op num into args kids,xs=>by
  have h1:=Z1q kids (QM n args xs)
  have h2:=Z1o (n:=n) args xs
  rw [JR,Z5.sz];split<;>omega
theorem Z1q:∀(bs:List Z8) (xs:LI),(Jh n bs xs).length<=xs.length+YW bs
 | [],xs=>X0 _
 | b::r,xs=>by
  have h1:=Z1q r (UW n b xs)
  have h2:=I0 b xs
  rw [Jh,YW];omega
theorem MR:∀(bs:List Z5) (xs:LI),(UX n bs xs).length<=xs.length+Yw bs
 | [],xs=>X0 _
 | b::r,xs=>by
  have h1:=MR r (JR n b xs)
  have h2:=Z1s b xs
  rw [UX,Yw];omega
theorem I0:∀(b:Z8) (xs:LI),(UW n b xs).length<=xs.length+b.sz
 | .mk steps result,xs=>by
  have h1:=MR steps xs
  have h2:=I1 (n:=n) (UX n steps xs) result
  rw [UW,Z8.sz];omega
end
theorem Zhw {as1 ys r:LI} {k:Nat} {a:Int} (h:as1[k]? = some a) (ha:QM n (as1.drop k) ys=r):QM n (as1.drop (k+1)) (UN n ys a)=r:=by
 rw [Yk h,QM] at ha;exact ha
theorem Zhy {bs:List Z8} {ys r:LI} {k:Nat} {b:Z8} (h:bs[k]? = some b) (ha:Jh n (bs.drop k) ys=r):Jh n (bs.drop (k+1)) (UW n b ys)=r:=by
 rw [Yk h,Jh] at ha;exact ha
theorem Zi0 {bs:List Z5} {ys r:LI} {k:Nat} {b:Z5} (h:bs[k]? = some b) (ha:UX n (bs.drop k) ys=r):UX n (bs.drop (k+1)) (JR n b ys)=r:=by
 rw [Yk h,UX] at ha;exact ha
theorem Zhv {as1 ys r:LI} {k:Nat} (h:as1.length<=k) (ha:QM n (as1.drop k) ys=r):ys=r:=by rw [Xm h,QM] at ha;exact ha
theorem Zhx {bs:List Z8} {ys r:LI} {k:Nat} (h:bs.length<=k) (ha:Jh n (bs.drop k) ys=r):ys=r:=by rw [Xm h,Jh] at ha;exact ha
theorem Zhz {bs:List Z5} {ys r:LI} {k:Nat} (h:bs.length<=k) (ha:UX n (bs.drop k) ys=r):ys=r:=by rw [Xm h,UX] at ha;exact ha
end
theorem N1 {s:Z5} (h:Cn s):∃a,s.args=[a]:=⟨gI s.args 0,by have:=Yl Z5.args h;exact this⟩
section
variable {xs:LI} {v:Int} {lo hi:Nat}
end
section
variable {m:Int} {xs du dr:List Z5} {lf:LI} {d:Bool} {k:Nat} {s:Z5} {W:List Z5 × List Z5 × LI}
end
def YX:List Z5->Nat
 | []=>0
 | s::r=>if YO s.op=true then YX r+1 else 0
def W9 (op x:Int):List Z5->Int->Int
 | [],_=>-1
 | s::r,k=>if s.op=op/\gI s.args 0=x then k else W9 op x r (k+1)
def Ks (many:Nat) (s:Z5):Prop:=(s.op=6/\s.into=0)/\s.args.length=many
instance (many:Nat) (s:Z5):Decidable (Ks many s):=by unfold Ks;infer_instance
def Ww (many:Nat):List Z5->Int->Int
 | [],_=>-1
 | s::r,k=>if Ks many s then k else Ww many r (k+1)
def BG (xs:List Z5) (i:Int):Z5:=xs[i.toNat]?.getD (Zx 0 0)
def Ql (v:Int) (s:Z5):Z5:=.mk s.op s.num v s.args s.kids
def Vr (xs:List Z5) (x:Int):Int:=W9 16 x (xs.take (YX xs)) 0
def WB (xs:List Z5) (many:Nat):Int:=Ww many (xs.drop (YX xs)) (YX xs)
def VE (xs:List Z5) (x:Int) (many:Nat):List Z5:=
 if Vr xs x<0∨WB xs many<0 then xs else (xs.set (Vr xs x).toNat (Zx 17 x)).set (WB xs many).toNat (Ql (1+x) (BG xs (WB xs many)))
def VN (b:Z8) (x:Int) (many:Nat):Z8:=.mk (VE b.steps x many) b.result
mutual
def Ti (ds:List Zb) (kept:LI):Z5->Z5
 | .mk op num into args kids=>.mk op num into args (VW ds kept op num args kids 0)
def VW (ds:List Zb) (kept:LI) (op num:Int) (args:LI):List Z8->Nat->List Z8
 | [],_=>[]
 | b::r,k=>(if op=8/\¬gI args 0∈kept then VN (Wu ds (if Vr b.steps (gI args 0)<0∨WB b.steps (Wy ds num k).length<0 then kept else gI args 0::kept) b) (gI args 0) (Wy ds num k).length else Wu ds kept b)::VW ds kept op num args r (k+1)
def U8 (ds:List Zb) (kept:LI):List Z5->List Z5
 | []=>[]
 | s::r=>Ti ds kept s::U8 ds kept r
def Wu (ds:List Zb) (kept:LI):Z8->Z8
 | .mk steps result=>.mk (U8 ds kept steps) result
end
def H1 (ds:List Zb) (kept:LI) (num:Int) (args:LI) (k:Nat) (b:Z8):LI:=if Vr b.steps (gI args 0)<0∨WB b.steps (Wy ds num k).length<0 then kept else gI args 0::kept
def Q1 (ds:List Zb) (kept:LI) (op num:Int) (args:LI) (k:Nat) (b:Z8):Z8:=if op=8/\¬gI args 0∈kept then VN (Wu ds (H1 ds kept num args k b) b) (gI args 0) (Wy ds num k).length else Wu ds kept b
theorem Au (ds:List Zb) (kept:LI) (s:Z5):Ti ds kept s=.mk s.op s.num s.into s.args (VW ds kept s.op s.num s.args s.kids 0):=by cases s;rw [Ti];rfl
theorem HA (ds:List Zb) (kept:LI) (b:Z8):Wu ds kept b=.mk (U8 ds kept b.steps) b.result:=by cases b;rw [Wu];rfl
theorem HB (ds:List Zb) (kept:LI):∀xs:List Z5,U8 ds kept xs=xs.map (Ti ds kept)
 | []=>rfl
 | s::r=>by rw [U8,HB ds kept r];rfl
section
variable {ds:List Zb} {kept:LI}
theorem Zer {xs acc r:List Z5} {k:Nat} {s:Z5} (h:xs[k]? = some s) (ha:acc++U8 ds kept (xs.drop k)=r) :
  (acc++[.mk s.op s.num s.into s.args (VW ds kept s.op s.num s.args s.kids 0)])++U8 ds kept (xs.drop (k+1))=r:=by
 rw [Yk h,U8,Au] at ha
 rw [<-ha];simp
theorem Zeq {xs acc r:List Z5} {k:Nat} (h:xs.length<=k) (ha:acc++U8 ds kept (xs.drop k)=r):acc=r:=by
 rw [Xm h,U8,T0] at ha;exact ha
theorem Zel {op num:Int} {args:LI} {bs acc r:List Z8} {k:Nat} {b:Z8} (h:bs[k]? = some b) (ha:acc++VW ds kept op num args (bs.drop k) k=r) :
  (acc++[Q1 ds kept op num args k b])++VW ds kept op num args (bs.drop (k+1)) (k+1)=r:=by
 rw [Yk h,VW] at ha
 rw [<-ha,Q1,H1];simp
theorem Zek {op num:Int} {args:LI} {bs acc r:List Z8} {k j:Nat} (h:bs.length<=k) (ha:acc++VW ds kept op num args (bs.drop k) j=r):acc=r:=by
 rw [Xm h,VW,T0] at ha;exact ha
end
section
variable {ds:List Zb}
mutual
theorem Zeo:∀(s:Z5) {K K':LI},(∀z,z∈K↔z∈K')->Ti ds K s=Ti ds K' s
 | .mk op num into args kids,K,K',h=>by rw [Ti,Ti,SN kids h]
theorem SN:∀(bs:List Z8) {K K':LI} {op num:Int} {args:LI} {k:Nat},(∀z,z∈K↔z∈K')->VW ds K op num args bs k=VW ds K' op num args bs k
 | [],_,_,_,_,_,_,_=>by rw [VW,VW]
 | b::r,K,K',op,num,args,k,h=>by
  have h1:=SN r (op:=op) (num:=num) (args:=args) (k:=k+1) h
  have h2:=Mp b h
  have h3:∀z,z∈(gI args 0::K)↔z∈(gI args 0::K'):=fun z=>by rw [YN,YN,h z]
  have h4:=Mp b h3
  rw [VW,VW,h1,h2]
  congr 1
  by_cases hq:op=8/\¬gI args 0∈K
  ·have hq':op=8/\¬gI args 0∈K':=⟨hq.1,fun z=>hq.2 ((h _).2 z)⟩
   rw [Zk hq,Zk hq']
   congr 1
   split
   ·exact h2
   ·exact h4
  ·have hq':¬(op=8/\¬gI args 0∈K'):=fun z=>hq ⟨z.1,fun y=>z.2 ((h _).1 y)⟩
   rw [Za hq,Za hq']
theorem SP:∀(xs:List Z5) {K K':LI},(∀z,z∈K↔z∈K')->U8 ds K xs=U8 ds K' xs
 | [],_,_,_=>by rw [U8,U8]
 | s::r,K,K',h=>by rw [U8,U8,Zeo s h,SP r h]
theorem Mp:∀(b:Z8) {K K':LI},(∀z,z∈K↔z∈K')->Wu ds K b=Wu ds K' b
 | .mk steps result,K,K',h=>by rw [Wu,Wu,SP steps h]
end
end
theorem F4:∀xs:List Z5,YX xs<=xs.length
 | []=>X0 _
 | s::r=>by have:=F4 r;rw [YX];split<;>simp<;>omega
section
variable {f:Z5->Z5} (hop:∀s,(f s).op=s.op) (hin:∀s,(f s).into=s.into) (har:∀s,(f s).args=s.args)
include hop
theorem LZ:∀xs:List Z5,YX (xs.map f)=YX xs
 | []=>rfl
 | s::r=>by rw [Tk,YX,YX,hop,LZ r]
include har
theorem Nl {op x:Int}:∀(xs:List Z5) (k:Int),W9 op x (xs.map f) k=W9 op x xs k
 | [],_=>rfl
 | s::r,k=>by rw [Tk,W9,W9,hop,har,Nl r]
theorem Zct (xs:List Z5) (x:Int):Vr (xs.map f) x=Vr xs x:=by rw [Vr,LZ hop,<-List.map_take,Nl hop har,Vr]
include hin
theorem NG {many:Nat}:∀(xs:List Z5) (k:Int),Ww many (xs.map f) k=Ww many xs k
 | [],_=>rfl
 | s::r,k=>by
  have e:Ks many (f s)↔Ks many s:=by rw [Ks,Ks,hop,hin,har]
  rw [Tk,Ww,Ww,NG r]
  by_cases h:Ks many s
  ·rw [Zk h,Zk (e.2 h)]
  ·rw [Za h,Za (fun z=>h (e.1 z))]
theorem Z45 (xs:List Z5) (many:Nat):WB (xs.map f) many=WB xs many:=by rw [WB,LZ hop,<-List.map_drop,NG hop hin har,WB]
end
theorem Nk {op x:Int}:∀{xs:List Z5} {k:Int},¬W9 op x xs k<0->0<=k->k<=W9 op x xs k/\W9 op x xs k<k+xs.length/\∃s,xs[(W9 op x xs k-k).toNat]? = some s/\s.op=op/\gI s.args 0=x
 | [],k,h,_=>by simp [W9] at h
 | s::r,k,h,hk=>by
  rw [W9] at h ⊢
  split
  ·rename_i q
   refine ⟨Int.le_refl _,by rw [Yo];omega,s,?_,q⟩
   rw [Int.sub_self];rfl
  ·rename_i q
   rw [Za q] at h
   obtain ⟨h1,h2,t,h3,h4⟩:=Nk (xs:=r) (k:=k+1) h om
   refine ⟨by omega,by rw [Yo];omega,t,?_,h4⟩
   rw [show (W9 op x r (k+1)-k).toNat=(W9 op x r (k+1)-(k+1)).toNat+1 by omega,List.getElem?_cons_succ]
   exact h3
theorem NF {many:Nat}:∀{xs:List Z5} {k:Int},¬Ww many xs k<0->0<=k->k<=Ww many xs k/\Ww many xs k<k+xs.length/\∃s,xs[(Ww many xs k-k).toNat]? = some s/\Ks many s
 | [],k,h,_=>by simp [Ww] at h
 | s::r,k,h,hk=>by
  rw [Ww] at h ⊢
  split
  ·rename_i q
   refine ⟨Int.le_refl _,by rw [Yo];omega,s,?_,q⟩
   rw [Int.sub_self];rfl
  ·rename_i q
   rw [Za q] at h
   obtain ⟨h1,h2,t,h3,h4⟩:=NF (xs:=r) (k:=k+1) h om
   refine ⟨by omega,by rw [Yo];omega,t,?_,h4⟩
   rw [show (Ww many r (k+1)-k).toNat=(Ww many r (k+1)-(k+1)).toNat+1 by omega,List.getElem?_cons_succ]
   exact h3
theorem DQ {xs:List Z5} {x:Int} (h:¬Vr xs x<0):0<=Vr xs x/\Vr xs x<YX xs/\∃s,xs[(Vr xs x).toNat]? = some s/\s.op=16/\gI s.args 0=x:=by
 obtain ⟨h1,h2,s,h3,h4⟩:=Nk h (Int.le_refl 0)
 have hl:=F4 xs
 rw [Wi,Uc hl] at h2
 have h2':Vr xs x<YX xs:=by unfold Vr;omega
 have h1':0<=Vr xs x:=h1
 refine ⟨h1',h2',s,?_,h4⟩
 rw [Int.sub_zero] at h3
 have h5:(Vr xs x).toNat<YX xs:=by omega
 rwa [show W9 16 x (xs.take (YX xs)) 0=Vr xs x from rfl,List.getElem?_take_of_lt h5] at h3
theorem A9 {xs:List Z5} {many:Nat} (h:¬WB xs many<0):(YX xs:Int)<=WB xs many/\WB xs many<xs.length/\∃s,xs[(WB xs many).toNat]? = some s/\Ks many s/\BG xs (WB xs many)=s:=by
 obtain ⟨h1,h2,s,h3,h4⟩:=NF h om
 have hl:=F4 xs
 rw [FL] at h2
 have h1':(YX xs:Int)<=WB xs many:=h1
 have h2':WB xs many<xs.length:=by unfold WB;omega
 rw [List.getElem?_drop,show Ww many (xs.drop (YX xs)) (YX xs)=WB xs many from rfl,show YX xs+(WB xs many-(YX xs:Int)).toNat=(WB xs many).toNat by omega] at h3
 exact ⟨h1',h2',s,h3,h4,by rw [BG,h3];rfl⟩
theorem Ze6 {f:Z5->Z5} (hop:∀s,(f s).op=s.op) (hin:∀s,(f s).into=s.into) (har:∀s,(f s).args=s.args) (hc:∀x,f (Zx 17 x)=Zx 17 x) (hi:∀v s,f (Ql v s)=Ql v (f s)) (xs:List Z5) (x:Int) (many:Nat) :
  VE (xs.map f) x many=(VE xs x many).map f:=by
 rw [VE,Zct hop har,Z45 hop hin har,VE]
 split
 ·rfl
 ·rename_i hq
  obtain ⟨_,_,s,h3,_,h5⟩:=A9 (fun z=>hq (.inr z))
  have e:BG (xs.map f) (WB xs many)=f (BG xs (WB xs many)):=by rw [BG,Jl,h3,h5];rfl
  rw [e,List.map_set,List.map_set,hc,hi]
theorem SK {ds:List Zb} {K:LI} {b:Z8} {x:Int} {many:Nat}:Wu ds K (VN b x many)=VN (Wu ds K b) x many:=by
 rw [VN,Wu,VN,HA,HB,HB]
 show Z8.mk _ _=Z8.mk (VE (b.steps.map (Ti ds K)) x many) b.result
 rw [Ze6 (f:=Ti ds K) (fun s=>by rw [Au];rfl) (fun s=>by rw [Au];rfl) (fun s=>by rw [Au];rfl) (fun x=>by rw [Au];rfl) (fun v s=>by rw [Au,Au];rfl)]
structure CB (c:LI) (q:Int):Prop where
 len:c.length=4
 bd:∀x∈c,0<=x/\x<=q
mutual
def CQ:Z5->Prop
 | .mk op _ _ _ kids=>op≠17/\BN kids
def BN:List Z8->Prop
 | []=>True
 | b::r=>K9 b/\BN r
def BO:List Z5->Prop
 | []=>True
 | s::r=>CQ s/\BO r
def K9:Z8->Prop
 | .mk steps _=>BO steps
end
theorem DM (s:Z5):CQ s↔s.op≠17/\BN s.kids:=by cases s;rw [CQ];rfl
theorem F7 (b:Z8):K9 b↔BO b.steps:=by cases b;rw [K9];rfl
theorem F8:∀{xs:List Z5},BO xs↔∀s∈xs,CQ s
 | []=>by simp [BO]
 | s::r=>by rw [BO,F8];simp
theorem Hf:∀{xs:List Z8},BN xs↔∀s∈xs,K9 s
 | []=>by simp [BN]
 | s::r=>by rw [BN,Hf];simp
theorem MH:∀{xs:List Z5} {i:Nat} {s:Z5} (t:Z5),xs[i]? = some s->Yw (xs.set i t)+s.sz=Yw xs+t.sz
 | [],_,_,_,h=>by simp at h
 | x::r,0,s,t,h=>by simp at h;subst h;rw [List.set_cons_zero,Yw,Yw];omega
 | x::r,i+1,s,t,h=>by
  have:=MH (xs:=r) (i:=i) t (by simpa using h)
  rw [List.set_cons_succ,Yw,Yw];omega
theorem Zap (v:Int) (s:Z5):(Ql v s).sz=s.sz:=by cases s;rw [Ql,Z5.sz,Z5.sz];rfl
theorem NJ {xs:List Z5} {x:Int} {many:Nat} (h:¬(Vr xs x<0∨WB xs many<0)):(Vr xs x).toNat<(WB xs many).toNat:=by
 obtain ⟨h1,h2,_⟩:=DQ (fun z=>h (.inl z))
 obtain ⟨h3,h4,_⟩:=A9 (fun z=>h (.inr z))
 omega
theorem Fv {xs:List Z5} {x:Int} {many:Nat} (h:¬(Vr xs x<0∨WB xs many<0)) {t:Z5} {s:Z5} (hs:xs[(WB xs many).toNat]? = some s):(xs.set (Vr xs x).toNat t)[(WB xs many).toNat]? = some s:=by
 have:=NJ h
 rw [List.getElem?_set_ne om];exact hs
theorem Ss {xs:List Z5} {x:Int} {many:Nat} (h:∀s∈xs,YO s.op=true->2<=s.sz):Yw (VE xs x many)<=Yw xs:=by
 rw [VE]
 split
 ·exact X0 _
 ·rename_i hq
  obtain ⟨_,_,s,h3,h4,_⟩:=DQ (fun z=>hq (.inl z))
  obtain ⟨_,_,t,h5,_,h6⟩:=A9 (fun z=>hq (.inr z))
  have e1:=MH (Zx 17 x) h3
  have e2:=MH (Ql (1+x) (BG xs (WB xs many))) (Fv hq (t:=Zx 17 x) h5)
  have h7:=h s (Y3 h3) (by rw [h4];rfl)
  rw [Gg] at e1
  rw [Zap,h6] at e2
  rw [h6]
  omega
section
variable {ds:List Zb}
theorem Zig {v:Int} {s:Z5} (h:wS ds s) (h6:s.op=6):wS ds (Ql v s):=by
 obtain ⟨h1,h2,h3,h4⟩:=(JS s).1 h
 exact (JS _).2 ⟨h1,fun hc=>absurd hc (by show ¬YO s.op=true;rw [h6];decide),h3,h4⟩
theorem Zid {v:Int}:wS ds (Zx 17 v):=(JS _).2 ⟨rfl,fun _=>⟨rfl,rfl,rfl,v,rfl⟩,fun e=>absurd e (show (17:Int)≠8 by decide),True.intro⟩
theorem Zic {xs:List Z5} {x:Int} {many:Nat} (h:QO ds xs):QO ds (VE xs x many):=by
 rw [VE]
 split
 ·exact h
 ·rename_i hq
  obtain ⟨_,_,t,h5,h7,h6⟩:=A9 (fun z=>hq (.inr z))
  rw [Bj]
  intro s hs
  rcases List.mem_or_eq_of_mem_set hs with hs|rfl
  ·rcases List.mem_or_eq_of_mem_set hs with hs|rfl
   ·exact Bj.1 h s hs
   ·exact Zid
  ·rw [h6];exact Zig (Bj.1 h t (Y3 h5)) h7.1.1
theorem Zib {b:Z8} {x:Int} {many:Nat} (h:wB ds b):wB ds (VN b x many):=by rw [VN,Jj];exact Zic ((Jj b).1 h)
variable (hd:Xr ds)
mutual
theorem Zep:∀(s:Z5) {K:LI},wS ds s->(Ti ds K s).sz<=s.sz
 | .mk op num into args kids,K,h=>by
  have:=SO kids (K:=K) (op:=op) (num:=num) (args:=args) (k:=0) h.2.2.2
  rw [Ti,Z5.sz,Z5.sz];omega
theorem SO:∀(bs:List Z8) {K:LI} {op num:Int} {args:LI} {k:Nat},Jk ds bs->YW (VW ds K op num args bs k)<=YW bs
 | [],_,_,_,_,_,_=>X0 _
 | b::r,K,op,num,args,k,h=>by
  have h2:=SO r (K:=K) (op:=op) (num:=num) (args:=args) (k:=k+1) h.2
  have key:∀K2:LI,(VN (Wu ds K2 b) (gI args 0) (Wy ds num k).length).sz<=b.sz:=fun K2=>by
   have h1:=Mq b (K:=K2) h.1
   have h3:=Ss (xs:=(Wu ds K2 b).steps) (x:=gI args 0) (many:=(Wy ds num k).length) (by
    rw [HA,HB]
    intro s hs hc
    obtain ⟨t,ht,rfl⟩:=XH.1 hs
    rw [Au] at hc ⊢
    obtain ⟨_,_,a,ha⟩:=I6 (Bj.1 ((Jj b).1 h.1) t ht) hc
    rw [Z5.sz,ha];simp)
   rw [VN,Z8.sz]
   rw [Z8.sz_eq] at h1
   omega
  rw [VW,YW,YW]
  split
  ·have:=key (if Vr b.steps (gI args 0)<0∨WB b.steps (Wy ds num k).length<0 then K else gI args 0::K)
   omega
  ·have:=Mq b (K:=K) h.1
   omega
theorem SR:∀(xs:List Z5) {K:LI},QO ds xs->Yw (U8 ds K xs)<=Yw xs
 | [],_,_=>X0 _
 | s::r,K,h=>by
  have h1:=Zep s (K:=K) h.1
  have h2:=SR r (K:=K) h.2
  rw [U8,Yw,Yw];omega
theorem Mq:∀(b:Z8) {K:LI},wB ds b->(Wu ds K b).sz<=b.sz
 | .mk steps result,K,h=>by
  have:=SR steps (K:=K) h
  rw [Wu,Z8.sz,Z8.sz];omega
end
end
theorem M0:∀{xs:List Z5} {i:Nat} {s t:Z5},xs[i]? = some s->YO t.op=YO s.op->YX (xs.set i t)=YX xs
 | [],_,_,_,h,_=>by simp at h
 | x::r,0,s,t,h,e=>by simp at h;subst h;rw [List.set_cons_zero,YX,YX,e]
 | x::r,i+1,s,t,h,e=>by
  rw [List.set_cons_succ,YX,YX,M0 (xs:=r) (i:=i) (by simpa using h) e]
theorem Zbf {xs:List Z5} {x:Int} {many:Nat}:YX (VE xs x many)=YX xs:=by
 rw [VE]
 split
 ·rfl
 ·rename_i hq
  obtain ⟨_,_,s,h3,h4,_⟩:=DQ (fun z=>hq (.inl z))
  obtain ⟨_,_,t,h5,_,h6⟩:=A9 (fun z=>hq (.inr z))
  rw [M0 (Fv hq (t:=Zx 17 x) h5) (by rw [h6];rfl),M0 h3 (by rw [h4];rfl)]
theorem Nn {op x:Int}:∀{xs:List Z5} {k:Int},(∀s∈xs,s.op≠op)->W9 op x xs k=-1
 | [],_,_=>rfl
 | s::r,k,h=>by
  rw [W9,Za (fun z=>h s (Xa ..) z.1)]
  exact Nn fun t ht=>h t (Xj _ ht)
theorem Np {op x:Int}:∀{xs:List Z5} {k:Int},0<=k->(∃s∈xs,s.op=op/\gI s.args 0=x)->0<=W9 op x xs k
 | [],_,_,h=>by obtain ⟨s,hs,_⟩:=h;cases hs
 | s::r,k,hk,h=>by
  rw [W9]
  split
  ·exact hk
  ·rename_i q
   obtain ⟨t,ht,h1⟩:=h
   rcases YN.1 ht with rfl|ht
   ·exact absurd h1 q
   ·exact Np om ⟨t,ht,h1⟩
theorem Z1k {xs:List Z5} {x:Int} {many:Nat} (hn:BO xs):0<=W9 17 x ((VE xs x many).take (YX (VE xs x many))) 0↔¬(Vr xs x<0∨WB xs many<0):=by
 rw [Zbf]
 constructor
 ·intro h hq
  rw [VE,Zk hq,Nn (fun s hs=>((DM s).1 (F8.1 hn s (QP hs))).1)] at h
  omega
 ·intro hq
  obtain ⟨h1,h2,s,h3,h4,_⟩:=DQ (fun z=>hq (.inl z))
  have hap:=NJ hq
  refine Np (Int.le_refl 0) ⟨Zx 17 x,?_,rfl,rfl⟩
  rw [VE,Za hq]
  refine Y3 (i:=(Vr xs x).toNat) ?_
  rw [List.getElem?_take_of_lt om,List.getElem?_set_ne om,List.getElem?_set_self (Xh.1 h3).1]
def BP (b:Z8):Prop:=∀s∈b.steps,BN s.kids
theorem CP {b:Z8} (h:K9 b):BP b:=fun s hs=>((DM s).1 (F8.1 ((F7 b).1 h) s hs)).2
theorem Zc6 {b:Z8} {k j:Nat} {s:Z5} {c:Z8} (h:BP b) (hs:b.steps[k]? = some s) (hc:s.kids[j]? = some c):K9 c:=Hf.1 (h s (Y3 hs)) c (Y3 hc)
theorem Rt {b:Z8} {x:Int} {many:Nat} (h:K9 b):BP (VN b x many):=by
 intro s hs
 have hs:s∈VE b.steps x many:=hs
 rw [VE] at hs
 split at hs
 ·exact CP h s hs
 ·rename_i hq
  obtain ⟨_,_,t,h5,_,h6⟩:=A9 (fun z=>hq (.inr z))
  rcases List.mem_or_eq_of_mem_set hs with hs|rfl
  ·rcases List.mem_or_eq_of_mem_set hs with hs|rfl
   ·exact CP h s hs
   ·exact True.intro
  ·rw [h6];exact CP h t (Y3 h5)
theorem Ze5 {ds:List Zb} {b:Z8} {x:Int} {many:Nat} (h:wB ds b):(VN b x many).sz<=b.sz:=by
 have:=Ss (xs:=b.steps) (x:=x) (many:=many) fun s hs hc=>by
  have h7:=Ic ((Jj b).1 h) s hs hc
  rw [h7,Gg];omega
 rw [VN,Z8.sz,b.sz_eq];omega
def C0 (ds:List Zb) (r:YE):YE:=⟨r.params,r.lent,r.result,Wu ds [] r.body⟩
def CZ (n:ZG):ZG:=⟨n.decls,n.routines.map (C0 n.decls)⟩
end Go.Abs
section
namespace Go.Abs
theorem Zbd {xs:List Z5} {k:Nat} {s:Z5} {r:Nat} (h:xs[k]? = some s) (hs:YO s.op=true) (ha:k+YX (xs.drop k)=r):k+1+YX (xs.drop (k+1))=r:=by
 rw [Yk h,YX,Zk hs] at ha;omega
theorem Zbe {xs:List Z5} {k:Nat} {s:Z5} {r:Nat} (h:xs[k]? = some s) (hs:¬YO s.op=true) (ha:k+YX (xs.drop k)=r):k=r:=by
 rw [Yk h,YX,Za hs] at ha;omega
theorem Zbc {xs:List Z5} {k:Nat} {r:Nat} (h:xs.length<=k) (ha:k+YX (xs.drop k)=r):k=r:=by
 rw [Xm h,YX] at ha;omega
theorem Z3f {op x:Int} {xs:List Z5} {k:Nat} {s:Z5} {r:Int} (h:xs[k]? = some s) (hs:s.op=op/\gI s.args 0=x) (ha:W9 op x (xs.drop k) k=r):(k:Int)=r:=by
 rw [Yk h,W9,Zk hs] at ha;exact ha
theorem Nm {op x:Int} {xs:List Z5} {k:Nat} {s:Z5} {r:Int} (h:xs[k]? = some s) (hs:¬(s.op=op/\gI s.args 0=x)) (ha:W9 op x (xs.drop k) k=r):W9 op x (xs.drop (k+1)) ((k+1:Nat):Int)=r:=by
 rw [Yk h,W9,Za hs] at ha;rw [<-ha];congr 1
theorem Z3e {op x:Int} {xs:List Z5} {k:Nat} {r:Int} (h:xs.length<=k) (ha:W9 op x (xs.drop k) k=r):-1=r:=by
 rw [Xm h,W9] at ha;exact ha
theorem Z49 {many:Nat} {xs:List Z5} {k:Nat} {s:Z5} {r:Int} (h:xs[k]? = some s) (hs:Ks many s) (ha:Ww many (xs.drop k) k=r):(k:Int)=r:=by
 rw [Yk h,Ww,Zk hs] at ha;exact ha
theorem Z48 {many:Nat} {xs:List Z5} {k:Nat} {s:Z5} {r:Int} (h:xs[k]? = some s) (hs:¬Ks many s) (ha:Ww many (xs.drop k) k=r):Ww many (xs.drop (k+1)) ((k+1:Nat):Int)=r:=by
 rw [Yk h,Ww,Za hs] at ha;rw [<-ha];congr 1
theorem Z47 {many:Nat} {xs:List Z5} {k:Nat} {r:Int} (h:xs.length<=k) (ha:Ww many (xs.drop k) k=r):-1=r:=by
 rw [Xm h,Ww] at ha;exact ha
theorem Ze7 {xs:List Z5} {x:Int} {many:Nat} (h:Vr xs x<0∨WB xs many<0):VE xs x many=xs:=Zk h
theorem Ze8 {xs:List Z5} {x:Int} {many:Nat} {s:Z5} (h:¬(Vr xs x<0∨WB xs many<0)) (hs:BG xs (WB xs many)=s):(xs.set (Vr xs x).toNat (Zx 17 x)).set (WB xs many).toNat (Ql (1+x) s)=VE xs x many:=by
 rw [VE,Za h,hs]
theorem Dy (xs:List Z5):(Zg (ZU xs)).length=xs.length*5:=by rw [TE _ (XE _)];simp
theorem Ll (s:Z5) (r:List Z5):Zg (ZU (s::r))=Wd s++Zg (ZU r):=by rw [U5,U5];rfl
theorem Z7d {xs:List Z5} {k:Nat} {x:Z5} (h:xs[k]? = some x):Zg (ZU (xs.take k))++Zg [X4 x]=Zg (ZU (xs.take (k+1))):=by
 rw [V5 h,Vt,KZ,Ll]
 have:Zg (ZU [])=[]:=by rw [U5];rfl
 rw [this];rfl
theorem OX {xs:List Z5} {i:Nat} {s:Z5} (h:xs[i]? = some s):Zg (ZU xs)=Zg (ZU (xs.take i))++(Wd s++Zg (ZU (xs.drop (i+1)))):=by
 have hi:=(Xh.1 h).1
 have e:xs=xs.take i++(s::xs.drop (i+1)):=by rw [<-Yk h,TA]
 conv=>lhs;rw [e,Vt,KZ,Ll]
theorem OW {xs:List Z5} {i:Nat} {s t:Z5} (h:xs[i]? = some s):(Zg (ZU xs)).take (i*5)++Wd t++(Zg (ZU xs)).drop (i*5+(Wd t).length)=Zg (ZU (xs.set i t)):=by
 have hi:=(Xh.1 h).1
 have hl:(Zg (ZU (xs.take i))).length=i*5:=by rw [Dy,Wi,Uc om]
 rw [OX h,Mo (xs:=Wd s) (ys:=Wd t) hl rfl]
 have e:xs.set i t=xs.take i++(t::xs.drop (i+1)):=by rw [I9,Zk hi]
 rw [e,Vt,KZ,Ll]
theorem Z7c {xs:List Z5} {i:Nat} {s:Z5} (h:xs[i]? = some s):((Zg (ZU xs)).drop (i*5)).take (Wd s).length=Wd s:=by
 have hi:=(Xh.1 h).1
 have hl:(Zg (ZU (xs.take i))).length=i*5:=by rw [Dy,Wi,Uc om]
 rw [OX h]
 exact SG hl
structure KR (xs:LI) (v:Int) (k:Nat) (acc:LI) (d:Bool):Prop where
 len:acc.length<=k+(if d=true then 1 else 0)
 sub:∀z∈acc,z∈xs.take k∨z=v
 all:∀z∈xs.take k,z∈acc
 done:d=true->v∈acc
theorem KR.zero (xs:LI) (v:Int):KR xs v 0 [] false:=⟨by simp,by simp,by simp,by simp⟩
theorem KR.step {xs:LI} {v:Int} {k:Nat} {acc:LI} {d:Bool} {x:Int} (h:KR xs v k acc d) (hx:xs[k]? = some x) {acc2:LI} {d2:Bool}
  (hc:(acc2=acc++[x]/\d2=d)∨(acc2=(acc++[v])++[x]/\d2=true/\¬d=true)∨(acc2=acc++[x]/\d2=true/\x=v)):KR xs v (k+1) acc2 d2:=by
 obtain ⟨h1,h2,h3,h4⟩:=h
 have ht:∀z,z∈xs.take (k+1)↔z∈xs.take k∨z=x:=fun z=>by rw [V5 hx];simp
 rcases hc with ⟨rfl,rfl⟩|⟨rfl,rfl,hd⟩|⟨rfl,rfl,rfl⟩
 ·refine ⟨by simp;omega,fun z hz=>?_,fun z hz=>?_,fun q=>List.mem_append_left _ (h4 q)⟩
  ·rw [ht]
   rcases Xl.1 hz with hz|hz
   ·rcases h2 z hz with q|q
    ·exact .inl (.inl q)
    ·exact .inr q
   ·exact .inl (.inr (Xy.1 hz))
  ·rcases (ht z).1 hz with q|q
   ·exact List.mem_append_left _ (h3 z q)
   ·subst q;simp
 ·rw [Za hd] at h1
  refine ⟨by simp;omega,fun z hz=>?_,fun z hz=>?_,fun _=>by simp⟩
  ·rw [ht]
   simp only [Xl,Xy] at hz
   rcases hz with (hz|hz)|hz
   ·rcases h2 z hz with q|q
    ·exact .inl (.inl q)
    ·exact .inr q
   ·exact .inr hz
   ·exact .inl (.inr hz)
  ·rcases (ht z).1 hz with q|q
   ·exact List.mem_append_left _ (List.mem_append_left _ (h3 z q))
   ·subst q;simp
 ·refine ⟨by simp;split at h1<;>omega,fun z hz=>?_,fun z hz=>?_,fun _=>by simp⟩
  ·rw [ht]
   rcases Xl.1 hz with hz|hz
   ·rcases h2 z hz with q|q
    ·exact .inl (.inl q)
    ·exact .inr q
   ·exact .inl (.inr (Xy.1 hz))
  ·rcases (ht z).1 hz with q|q
   ·exact List.mem_append_left _ (h3 z q)
   ·subst q;simp
theorem KR.fin {xs:LI} {v:Int} {k:Nat} {acc:LI} {d:Bool} (h:KR xs v k acc d) (hk:k=xs.length) :
  (d=true->acc.length<=xs.length+1/\∀z,z∈acc↔z∈xs∨z=v)/\(¬d=true->(acc++[v]).length<=xs.length+1/\∀z,z∈acc++[v]↔z∈xs∨z=v):=by
 obtain ⟨h1,h2,h3,h4⟩:=h
 subst hk
 rw [Ub] at h2 h3
 refine ⟨fun hd=>?_,fun hd=>?_⟩
 ·rw [Zk hd] at h1
  exact ⟨h1,fun z=>⟨h2 z,fun q=>q.elim (h3 z) fun e=>e▸h4 hd⟩⟩
 ·rw [Za hd] at h1
  refine ⟨by simp;omega,fun z=>?_⟩
  rw [Xl,Xy]
  exact ⟨fun q=>q.elim (h2 z) .inr,fun q=>q.elim (fun e=>.inl (h3 z e)) .inr⟩
end Go.Abs
namespace Go.Abs
theorem KR.go {xs:LI} {v:Int} {k:Nat} {acc:LI} {d:Bool} {x:Int} (h:KR xs v k acc d) (hx:xs[k]? = some x) {acc2:LI} {d2:Bool}
  (hc:(acc2=acc/\d2=d)∨(acc2=acc++[v]/\d2=true/\¬d=true)∨(acc2=acc/\d2=true/\x=v)):KR xs v (k+1) (acc2++[x]) d2:=by
 refine h.step hx ?_
 rcases hc with ⟨e1,e2⟩|⟨e1,e2,e3⟩|⟨e1,e2,e3⟩
 ·exact .inl ⟨by rw [e1],e2⟩
 ·exact .inr (.inl ⟨by rw [e1],e2,e3⟩)
 ·exact .inr (.inr ⟨by rw [e1],e2,e3⟩)
section
variable {ds:List Zb} {kept K2:LI} {op num x:Int} {args:LI} {j many:Nat} {kd:Z8}
theorem Zem (h8:op=8) (hx:gI args 0=x) (hk:¬x∈kept) (hm:(Wy ds num j).length=many) (hq:¬(Vr kd.steps x<0∨WB kd.steps many<0)) (hK:∀z,z∈K2↔z∈kept∨z=x):Wu ds K2 (VN kd x many)=Q1 ds kept op num args j kd:=by
 subst hx hm
 have e:∀z,z∈K2↔z∈gI args 0::kept:=fun z=>by rw [hK z,YN];exact Or.comm
 rw [Q1,Zk ⟨h8,hk⟩,H1,Za hq,SK,Mp kd e]
theorem Zen (h8:op=8) (hx:gI args 0=x) (hk:¬x∈kept) (hm:(Wy ds num j).length=many) (hq:Vr kd.steps x<0∨WB kd.steps many<0):Wu ds kept (VN kd x many)=Q1 ds kept op num args j kd:=by
 subst hx hm
 rw [Q1,Zk ⟨h8,hk⟩,H1,Zk hq,SK]
theorem SM (h:¬(op=8/\¬gI args 0∈kept)):Wu ds kept kd=Q1 ds kept op num args j kd:=by rw [Q1,Za h]
end
end Go.Abs
namespace Go.Abs
theorem Gc:∀{xs:List Z8} {k:Nat} {b:Z8},xs[k]? = some b->YW (xs.take k)+b.sz<=YW xs
 | [],_,_,h=>by simp at h
 | x::r,0,b,h=>by simp at h;subst h;simp [YW]
 | x::r,k+1,b,h=>by
  have:=Gc (xs:=r) (k:=k) (by simpa using h)
  rw [AB,YW,YW];omega
theorem Ix {xs:List Z8} {k:Nat} (h:xs.length<=k):YW (xs.take k)=YW xs:=by rw [WI h]
end Go.Abs
end
namespace Go.Abs
theorem Z13 {xs:List Z5} {k:Nat} {s:Z5} (h:xs[k]? = some s):Yw (xs.drop k)=s.sz+Yw (xs.drop (k+1)):=by rw [Yk h,Yw]
theorem Z14 (xs:List Z5) (k:Nat):Yw (xs.drop k)<=Yw xs:=by
 have h:=Yl Yw (TA k xs)
 rw [Q4] at h;omega
theorem Ga {xs:List Z8} {k:Nat} {b:Z8} (h:xs[k]? = some b):YW (xs.take (k+1))=YW (xs.take k)+b.sz:=by rw [V5 h,G8,YW,YW];rfl
structure CL (ds:List Zb) (nf m:Nat) (xs:List Z5) (d z:Nat):Prop where
 fs:Wa ds nf m xs
 dn:Yv xs=d
 op:TX Vy xs
 sz:Yw xs<=z
section
variable {ds:List Zb} {nf m d z:Nat} {xs:List Z5}
theorem CL.nil:CL ds nf m [] 0 0:=⟨True.intro,rfl,True.intro,X0 _⟩
theorem CL.len (h:CL ds nf m xs d z):xs.length<=z:=V6 (Jf xs) h.sz
theorem CL.le (h:CL ds nf m xs d z) {z2:Nat} (hz:z<=z2):CL ds nf m xs d z2:=⟨h.fs,h.dn,h.op,V6 h.sz hz⟩
theorem Z64 {op v:Int} (ho:op=14∨op=15) (hv:0<=v/\v<(m:Int)):fS ds nf m (Zx op v):=by
 rw [Zx,fS]
 exact ⟨.inr om,fun a ha=>by rw [Xy.1 ha];exact hv,fun _=>⟨rfl,rfl,rfl,v,rfl⟩,fun h=>by omega,fun h=>by omega,fun h=>by omega,fun h=>by omega,by omega,by omega,by simp,fun _=>rfl,True.intro⟩
theorem NP {op:Int} (ho:op=14∨op=15):YO op=true:=by simp [YO];omega
theorem CL.cnt (h:CL ds nf m xs d z) {op v:Int} (ho:op=14∨op=15) (hv:0<=v/\v<((m+d:Nat):Int)):CL ds nf m (xs++[Zx op v]) d (z+2):=by
 have hc:YO (Zx op v).op=true:=NP ho
 refine ⟨Gw h.fs (by rw [h.dn];exact Z64 ho hv),?_,Hn h.op ?_,?_⟩
 ·rw [T6,h.dn,Yv,Zk hc];rfl
 ·rw [Fc];exact ⟨by show op<=15;omega,True.intro⟩
 ·have:=h.sz
  have e:(Zx op v).sz=2:=rfl
  rw [Q4,Yw,e,Yw];omega
theorem CL.cnts {op:Int} (ho:op=14∨op=15):∀{vs:LI} {xs:List Z5} {z:Nat},CL ds nf m xs d z->(∀v∈vs,0<=v/\v<((m+d:Nat):Int))->CL ds nf m (xs++vs.map (Zx op)) d (z+2*vs.length)
 | [],xs,z,h,_=>by simpa using h
 | v::r,xs,z,h,hv=>by
  have h1:=CL.cnts ho (vs:=r) (h.cnt ho (hv v (Xa ..))) fun x hx=>hv x (Xj _ hx)
  rw [Tk,show xs++Zx op v::r.map (Zx op)=xs++[Zx op v]++r.map (Zx op) by simp]
  exact h1.le (by rw [Yo];omega)
theorem CL.one (h:CL ds nf m xs d z) {s:Z5} (hs:fS ds nf (m+d) s) (hc:YO s.op=false) (ho:Kb Vy s):CL ds nf m (xs++[s]) (d+1) (z+s.sz):=by
 refine ⟨Gw h.fs (by rw [h.dn];exact hs),by rw [EA hc,h.dn],Hn h.op ho,?_⟩
 have:=h.sz
 rw [Q4,Yw,Yw];omega
theorem CL.app (h:CL ds nf m xs d z) {ys:List Z5} {d2 z2:Nat} (h2:CL ds nf (m+d) ys d2 z2):CL ds nf m (xs++ys) (d+d2) (z+z2):=by
 refine ⟨Ai.2 ⟨h.fs,by rw [h.dn];exact h2.fs⟩,by rw [T6,h.dn,h2.dn],Hm.2 ⟨h.op,h2.op⟩,?_⟩
 have:=h.sz
 have:=h2.sz
 rw [Q4];omega
end
structure KB (ds:List Zb) (nf m:Nat) (b:Z8) (z:Nat):Prop where
 fb:fB ds nf m b
 op:Vq Vy b
 sz:b.sz<=z
section
variable {ds:List Zb} {nf m d z:Nat} {xs:List Z5}
theorem CL.block (h:CL ds nf m xs d z) {r:Int} (hr:0<=r/\r<((m+d:Nat):Int)):KB ds nf m ⟨xs,r⟩ (1+z):=by
 refine ⟨by rw [fB,h.dn];exact ⟨h.fs,hr⟩,by rw [Vq];exact h.op,?_⟩
 have:=h.sz
 rw [Z8.sz];omega
theorem KB.le {b:Z8} (h:KB ds nf m b z) {z2:Nat} (hz:z<=z2):KB ds nf m b z2:=⟨h.fb,h.op,V6 h.sz hz⟩
theorem KB.cl {b:Z8} (h:KB ds nf m b z):CL ds nf m b.steps (Yv b.steps) (z-1)/\0<=b.result/\b.result<((m+Yv b.steps:Nat):Int):=by
 obtain ⟨h1,h2⟩:=(KY b).1 h.fb
 refine ⟨⟨h1,rfl,(Hl b).1 h.op,?_⟩,h2⟩
 have:=h.sz
 have:=b.sz_eq
 omega
theorem KB.put {b:Z8} (h:KB ds nf m b z) {as1 bs:LI} (ha:∀v∈as1,0<=v/\v<(m:Int)) (hb:∀v∈bs,0<=v/\v<(m:Int)):KB ds nf m ⟨as1.map (Zx 14)++bs.map (Zx 15)++b.steps,b.result⟩ (z+2*as1.length+2*bs.length):=by
 obtain ⟨h1,h2⟩:=h.cl
 have q1:CL ds nf m ([]++as1.map (Zx 14)) 0 (0+2*as1.length):=CL.nil.cnts (.inl rfl) ha
 have q2:=(q1.cnts (op:=15) (.inr rfl) hb).app h1
 have:=h.sz
 have:=b.sz_eq
 rw [Jm,Wj] at q2
 exact (q2.block h2).le om
end
structure KK (ds:List Zb) (nf:Nat) (sc:Nat->Nat) (ks:List Z8) (z:Nat):Prop where
 fb:U6 ds nf sc 0 ks
 op:Ka Vy ks
 sz:YW ks<=z
section
variable {ds:List Zb} {nf m z:Nat} {sc:Nat->Nat}
theorem KK.nil:KK ds nf sc [] 0:=⟨True.intro,True.intro,X0 _⟩
theorem KK.snoc {ks:List Z8} {b:Z8} {j z2:Nat} (h:KK ds nf sc ks z) (hj:ks.length=j) (hb:KB ds nf (sc j) b z2):KK ds nf sc (ks++[b]) (z+z2):=by
 refine ⟨OA h.fb (by rw [hj];exact hb.fb),Ry h.op hb.op,?_⟩
 have:=h.sz
 have:=hb.sz
 rw [G8];simp only [YW];omega
theorem KK.le {ks:List Z8} (h:KK ds nf sc ks z) {z2:Nat} (hz:z<=z2):KK ds nf sc ks z2:=⟨h.fb,h.op,V6 h.sz hz⟩
theorem OC {s:Z5} {ks:List Z8} {into:Int} (h:FS ds nf m s) (h11:s.op<=11) (hl:ks.length=s.kids.length) (hi:0<=into/\into<=m) (hk:KK ds nf (WX ds s.op s.num m) ks z):fS ds nf m ⟨s.op,s.num,into,s.args,ks⟩/\Kb Vy ⟨s.op,s.num,into,s.args,ks⟩/\(Z5.mk s.op s.num into s.args ks).sz<=5+z:=by
 refine ⟨?_,?_,?_⟩
 ·rw [fS]
  refine ⟨h.op,h.args,fun q=>by omega,fun q=>by rw [hl];exact h.k7 q,fun q=>by rw [hl];exact h.k8 q,h.one,h.call,h.num,hi,h.alen,fun q=>?_,hk.fb⟩
  have:=h.kn q
  rw [this] at hl
  exact List.eq_nil_of_length_eq_zero hl
 ·rw [Kb];exact ⟨by show s.op<=15;omega,hk.op⟩
 ·have:=h.alen
  have:=hk.sz
  rw [Z5.sz];omega
end
structure KT (ds:List Zb) (nf m:Nat) (st:Z5) (z:Nat):Prop where
 fs:fS ds nf m st
 cb:YO st.op=false
 op:Kb Vy st
 sz:st.sz<=z
theorem KT.of {ds:List Zb} {nf m z:Nat} {s:Z5} {ks:List Z8} {into:Int} (h:FS ds nf m s) (h11:s.op<=11) (hl:ks.length=s.kids.length) (hi:0<=into/\into<=m) (hk:KK ds nf (WX ds s.op s.num m) ks z):KT ds nf m ⟨s.op,s.num,into,s.args,ks⟩ (5+z):=by
 obtain ⟨h1,h2,h3⟩:=OC h h11 hl hi hk
 exact ⟨h1,by show YO s.op=false;simp [YO];omega,h2,h3⟩
theorem CL.kt {ds:List Zb} {nf m d z z2:Nat} {xs:List Z5} {st:Z5} (h:CL ds nf m xs d z) (hs:KT ds nf (m+d) st z2):CL ds nf m (xs++[st]) (d+1) (z+z2):=(h.one hs.fs hs.cb hs.op).le (by have:=hs.sz;omega)
theorem FS.few {ds:List Zb} {nf m:Nat} {s:Z5} (h:FS ds nf m s) (hd:Xr ds):s.kids.length<=3:=by
 by_cases h7:s.op=7
 ·have:=h.k7 h7;omega
 ·by_cases h8:s.op=8
  ·have:=h.k8 h8
   have:=DN hd s.num
   omega
  ·rw [h.kn ⟨h7,h8⟩];simp
theorem RF.lend {ds:List Zb} {nf q:Nat} {p:Int->Prop} {r:YE} {l:LI} (h:RF ds nf q p r) (h1:l.length<=3) (h2:∀v∈l,0<=v/\v<(r.params.length:Int)):RF ds nf q p ⟨r.params,l,r.result,r.body⟩:=⟨h.sig,⟨h1,h2⟩,h.body,h.op⟩
theorem RF.with {ds:List Zb} {nf q q2:Nat} {p p2:Int->Prop} {r:YE} {b:Z8} (h:RF ds nf q p r) (h1:fB ds nf r.params.length b) (h2:b.sz<=q2) (h3:Vq p2 b):RF ds nf q2 p2 ⟨r.params,r.lent,r.result,b⟩:=⟨h.sig,h.lent,⟨h1,h2⟩,h3⟩
theorem Z8.eta (b:Z8):Z8.mk b.steps b.result=b:=by cases b;rfl
theorem LC.at {n:ZG} {k:Nat} {xs:List LI} {i:Nat} {l:LI} {r:YE} (h:LC n k xs) (hl:xs[i]? = some l) (hr:n.routines[i]? = some r):l.length<=3/\∀v∈l,0<=v/\v<(r.params.length:Int):=⟨(h.ok i l hl).1,(h.ok i l hl).2 r hr⟩
theorem IJ:∀{xs:List Z5},(∀s∈xs,Kb WP s)->∀k,k<=xs.length->Yv (xs.take k)=k
 | _,_,0,_=>rfl
 | [],_,k+1,h=>absurd h (by simp)
 | x::r,h,k+1,hk=>by
  have h1:=((Fc x).1 (h x (Xa ..))).1
  have hc:YO x.op=false:=by have:x.op<=11:=h1;simp [YO];omega
  rw [AB,Yv,Za (by rw [hc];simp),IJ (fun s hs=>h s (Xj _ hs)) k (by simpa using hk)]
  omega
theorem KB.put1 {ds:List Zb} {nf m z:Nat} {b:Z8} (h:KB ds nf m b z) {op:Int} (ho:op=14∨op=15) {as1:LI} (ha:∀v∈as1,0<=v/\v<(m:Int)):KB ds nf m ⟨as1.map (Zx op)++b.steps,b.result⟩ (z+2*as1.length):=by
 obtain ⟨h1,h2⟩:=h.cl
 have q1:CL ds nf m ([]++as1.map (Zx op)) 0 (0+2*as1.length):=CL.nil.cnts ho ha
 have q2:=q1.app h1
 have:=h.sz
 have:=b.sz_eq
 rw [Jm,Wj] at q2
 exact (q2.block h2).le om
theorem FO.fin {n:ZG} {rs:List YE} {q q2:Nat} {p:Int->Prop} (h:FN n q2) (e:rs.length=n.routines.length) (hr:∀r∈rs,RF n.decls n.routines.length q p r):FO ⟨n.decls,rs⟩ q p/\rs.length=n.routines.length:=
 ⟨FO.all h.decls (by show 1<=rs.length/\rs.length<=4;rw [e];exact h.len) (by show ∀r∈rs,RF n.decls rs.length q p r;rw [e];exact hr),e⟩
theorem KT.le {ds:List Zb} {nf m z z2:Nat} {st:Z5} (h:KT ds nf m st z) (hz:z<=z2):KT ds nf m st z2:=⟨h.fs,h.cb,h.op,V6 h.sz hz⟩
theorem KB.len {ds:List Zb} {nf m z:Nat} {b:Z8} (h:KB ds nf m b z):b.steps.length<=z:=by
 have:=h.sz
 have:=b.sz_eq
 have:=Jf b.steps
 omega
def VI:List Z5->Int->Nat
 | [],_=>0
 | s::r,v=>(if gI s.args 0=v then 1 else 0)+VI r v
def Vw (rn:List Z5):LI->Nat
 | []=>0
 | v::r=>VI rn v+Vw rn r
theorem Iz:∀(xs ys:List Z5) (v:Int),VI (xs++ys) v=VI xs v+VI ys v
 | [],ys,v=>by simp [VI]
 | x::r,ys,v=>by rw [AA,VI,VI,Iz r];omega
theorem Z43 {xs:List Z5} {k:Nat} {s:Z5} (h:xs[k]? = some s) (v:Int):VI (xs.take (k+1)) v=VI (xs.take k) v+(if gI s.args 0=v then 1 else 0):=by
 rw [V5 h,Iz,VI,VI];omega
theorem ND:∀(xs:List Z5) (v:Int),VI xs v<=xs.length
 | [],v=>X0 _
 | x::r,v=>by have:=ND r v;rw [VI,Yo];split<;>omega
theorem Z44 (xs:List Z5) (k:Nat) (v:Int):VI (xs.take k) v<=VI xs v:=by
 have h:=Yl (VI · v) (TA k xs)
 simp only [Iz] at h;omega
theorem MJ (rn:List Z5):∀xs ys:LI,Vw rn (xs++ys)=Vw rn xs+Vw rn ys
 | [],ys=>by simp [Vw]
 | x::r,ys=>by rw [AA,Vw,Vw,MJ rn r];omega
theorem Zhg {rn:List Z5} {xs:LI} {k:Nat} {v:Int} (h:xs[k]? = some v):Vw rn (xs.take (k+1))=Vw rn (xs.take k)+VI rn v:=by
 rw [V5 h,MJ,Vw,Vw];rfl
theorem Z1d (s:Z5) (r:List Z5):∀vs:LI,Cd vs->Vw (s::r) vs<=1+Vw r vs/\(¬gI s.args 0∈vs->Vw (s::r) vs=Vw r vs)
 | [],_=>by simp [Vw]
 | v::vs,h=>by
  obtain ⟨h1,h2⟩:=Vg.1 h
  obtain ⟨q1,q2⟩:=Z1d s r vs h2
  rw [Vw,Vw,VI]
  by_cases e:gI s.args 0=v
  ·have hn:¬gI s.args 0∈vs:=fun z=>by have:=h1 _ z;omega
   rw [Zk e,q2 hn]
   exact ⟨by omega,fun z=>absurd (YN.2 (.inl e)) z⟩
  ·rw [Za e]
   exact ⟨by omega,fun z=>by rw [q2 fun y=>z (Xj _ y)];omega⟩
theorem Z1e:∀(rn:List Z5) {vs:LI},Cd vs->Vw rn vs<=rn.length
 | [],vs,_=>by
  have:∀xs:LI,Vw [] xs=0:=fun xs=>by
   induction xs with
   | nil=>rfl
   | cons x r ih=>rw [Vw,ih];rfl
  rw [this];exact Q9 _
 | s::r,vs,h=>by
  have h1:=(Z1d s r vs h).1
  have h2:=Z1e r h
  rw [Yo];omega
theorem MK (rn:List Z5) (xs:LI) (k:Nat):Vw rn (xs.take k)<=Vw rn xs:=by
 have h:=Yl (Vw rn) (TA k xs)
 rw [MJ] at h;omega
def N5 (m:Nat) (rn:List Z5):Prop:=∀s∈rn,∃a,s.args=[a]/\0<=a/\a<(m:Int)
theorem NU {xs:List Z5} {k:Nat} {s:Z5} (h:xs[k]? = some s):Yv (xs.take (k+1))=Yv (xs.take k)+(if YO s.op=true then 0 else 1):=by rw [V5 h,T6,Yv,Yv];rfl
theorem KT.eq {ds:List Zb} {nf m z:Nat} {s:Z5} {ks:List Z8} (h:FS ds nf m s) (h11:s.op<=11) (hl:ks.length=s.kids.length) (hk:KK ds nf (WX ds s.op s.num m) ks z):KT ds nf m ⟨s.op,s.num,s.into,s.args,ks⟩ (1+s.args.length+z):=by
 obtain ⟨h1,h2,h3⟩:=OC h h11 hl h.into hk
 refine ⟨h1,by show YO s.op=false;simp [YO];omega,h2,?_⟩
 have:=hk.sz
 rw [Z5.sz];omega
theorem FS.pair {ds:List Zb} {nf m:Nat} {s:Z5} (h:FS ds nf m s) (hp:s.op=14∨s.op=15):(∃a,s.args=[a]/\0<=a/\a<(m:Int))/\s.sz=2/\YO s.op=true:=by
 obtain ⟨h1,h2,h3,a,h4⟩:=h.cnt om
 have h5:=h.args a (by rw [h4];exact Xy.2 rfl)
 refine ⟨⟨a,h4,h5⟩,?_,NP hp⟩
 rw [s.sz_eq,h3,h4];rfl
theorem FS.not_pair {ds:List Zb} {nf m:Nat} {s:Z5} (h:FS ds nf m s) (hp:¬(s.op=14∨s.op=15)) (h15:Vy s.op):s.op<=11/\YO s.op=false:=by
 have h1:s.op<=15:=h15
 have h2:=h.op
 exact ⟨by omega,by simp [YO];omega⟩
theorem CL.run {ds:List Zb} {nf m d z:Nat} {xs:List Z5} {D R:LI} {rn:List Z5} (h:CL ds nf m xs d z) (hr:N5 (m+d) rn) (hD:∀v∈D,∃s∈rn,s.args=[v]) (hR:∀v∈R,∃s∈rn,s.args=[v]):CL ds nf m (xs++(D.map (Zx 14)++R.map (Zx 15))) d (z+2*(D.length+R.length)):=by
 have key:∀(A:LI),(∀v∈A,∃s∈rn,s.args=[v])->∀v∈A,0<=v/\v<((m+d:Nat):Int):=fun A hA v hv=>by
  obtain ⟨s,hs,e⟩:=hA v hv
  obtain ⟨a,e2,e3⟩:=hr s hs
  rw [e] at e2
  cases e2
  exact e3
 have h2:=(h.cnts (op:=14) (.inl rfl) (key D hD)).cnts (op:=15) (.inr rfl) (key R hR)
 rw [<-XW]
 exact h2.le om
def WL (xs:List Z5) (i:Nat) (s:Z5):List Z5:=xs.take i++[s]++xs.drop i
theorem Hv {xs:List Z5} (i:Nat) (s:Z5):Yw (WL xs i s)=Yw xs+s.sz:=by
 have h:=Yl Yw (TA i xs)
 rw [Q4] at h
 rw [WL,Q4,Q4,Yw,Yw];omega
theorem S3 {xs:List Z5} {i:Nat} {s:Z5} (h:i<=xs.length):(WL xs i s).length=xs.length+1:=by
 simp [WL,Uc h];omega
def B5 (b:Z8) (i j:Nat) (v:Int):Z8:=⟨WL (WL b.steps j (Zx 15 v)) i (Zx 14 v),b.result⟩
def withR (n:ZG) (f:Nat) (rt:YE) (b:Z8):ZG:=⟨n.decls,n.routines.set f ⟨rt.params,rt.lent,rt.result,b⟩⟩
def FZ (n n2:ZG):Prop:=n2=n∨∃f rt i j v,n.routines[f]? = some rt/\i<=j/\j<=rt.body.steps.length/\0<=v/\v<((rt.params.length+Yv (rt.body.steps.take i):Nat):Int)/\n2=withR n f rt (B5 rt.body i j v)
theorem CL.put {ds:List Zb} {nf m:Nat} {xs:List Z5} {d z:Nat} (h:CL ds nf m xs d z) {i:Nat} {op v:Int} (ho:op=14∨op=15) (hv:0<=v/\v<((m+Yv (xs.take i):Nat):Int)):CL ds nf m (WL xs i (Zx op v)) d (z+2):=by
 have hs:=h.fs
 have hp:=h.op
 have e:=TA i xs
 rw [<-e] at hs hp
 rw [Ai] at hs
 rw [Hm] at hp
 have h1:CL ds nf m (xs.take i) (Yv (xs.take i)) (Yw (xs.take i)):=⟨hs.1,rfl,hp.1,X0 _⟩
 have h2:CL ds nf (m+Yv (xs.take i)) (xs.drop i) (Yv (xs.drop i)) (Yw (xs.drop i)):=⟨hs.2,rfl,hp.2,X0 _⟩
 have h3:=(h1.cnt ho hv).app h2
 have e1:=Yl Yw e
 have e2:=Yl Yv e
 rw [Q4] at e1
 rw [T6,h.dn] at e2
 have:=h.sz
 rw [e2] at h3
 exact h3.le om
theorem S4 {xs:List Z5} {i j:Nat} {s:Z5} (h:i<=j) (hj:j<=xs.length):(WL xs j s).take i=xs.take i:=by
 rw [WL,XW,List.take_append_of_le_length (by rw [Wi];omega),List.take_take,Uc h]
theorem Z9l {ds:List Zb} {nf m z:Nat} {b:Z8} (h:KB ds nf m b z) {i j:Nat} {v:Int} (hij:i<=j) (hj:j<=b.steps.length) (hv:0<=v/\v<((m+Yv (b.steps.take i):Nat):Int)):KB ds nf m (B5 b i j v) (z+4):=by
 obtain ⟨h1,h2⟩:=h.cl
 have hm:Yv (b.steps.take i)<=Yv (b.steps.take j):=by
  have e:=Yl Yv (TA i (b.steps.take j))
  rw [T6,List.take_take,Uc hij] at e;omega
 have h3:=(h1.put (i:=j) (op:=15) (v:=v) (.inr rfl) om).put (i:=i) (op:=14) (v:=v) (.inl rfl) (by rw [S4 hij hj];exact hv)
 have:=h.sz
 have:=b.sz_eq
 exact (h3.block h2).le om
theorem FO.held {n n2:ZG} {q:Nat} (h:FO n q Vy) (hh:FZ n n2):FO n2 (q+4) Vy:=by
 rcases hh with rfl|⟨f,rt,i,j,v,h1,h2,h3,h4,h5,rfl⟩
 ·exact ⟨⟨h.fn.decls,h.fn.len,h.fn.sigs,h.fn.lent,fun r hr=>⟨(h.fn.body r hr).1,by have:=(h.fn.body r hr).2;omega⟩⟩,h.op⟩
 ·have hr:=h.rf (Y3 h1)
  have hk:KB n.decls n.routines.length rt.params.length (B5 rt.body i j v) (q+4):=Z9l ⟨hr.body.1,hr.op,hr.body.2⟩ h2 h3 ⟨h4,h5⟩
  refine FO.all h.fn.decls (by show 1<=(n.routines.set _ _).length/\(n.routines.set _ _).length<=4;rw [VQ];exact h.fn.len) fun r hm=>?_
  show RF n.decls (n.routines.set _ _).length _ _ r
  rw [VQ]
  rcases List.mem_or_eq_of_mem_set hm with hm|rfl
  ·have hq:=h.rf hm
   exact ⟨hq.sig,hq.lent,⟨hq.body.1,by have:=hq.body.2;omega⟩,hq.op⟩
  ·exact ⟨hr.sig,hr.lent,⟨hk.fb,hk.sz⟩,hk.op⟩
mutual
def Z5.rb:Z5->Prop
 | .mk _ _ _ _ kids=>A5 kids
def A5:List Z8->Prop
 | []=>True
 | b::r=>Z8.rb b/\A5 r
def KM:List Z5->Prop
 | []=>True
 | s::r=>Z5.rb s/\KM r
def Z8.rb:Z8->Prop
 | .mk steps result=>KM steps/\-1000000000<=result/\result<=1000000000
end
theorem Z5.rb_eq (s:Z5):s.rb=A5 s.kids:=by cases s;rw [Z5.rb];rfl
theorem Z8.rb_eq (b:Z8):b.rb=(KM b.steps/\-1000000000<=b.result/\b.result<=1000000000):=by cases b;rw [Z8.rb];rfl
theorem E8:∀{xs:List Z5},KM xs↔∀s∈xs,s.rb
 | []=>by simp [KM]
 | s::r=>by rw [KM,E8];simp
section
variable {ds:List Zb} {nf:Nat}
mutual
theorem Zd6:∀(s:Z5) {m:Nat},fS ds nf m s->m+4*s.sz<=900000000->Xr ds->s.rb
 | .mk op num into args kids,m,h,hb,hd=>by
  rw [fS] at h
  obtain ⟨h1,h2,h3,h4,h5,h6,h7,h8,h9,h10,h11,h12⟩:=h
  rw [Z5.sz] at hb
  rw [Z5.rb]
  refine S8 kids h12 (fun k=>?_) hd
  have hf:=Vj hd (gI (ZZ ds num) k)
  show WX ds op num m k+4*YW kids<=900000003
  rw [WX];split<;>omega
theorem S8:∀(bs:List Z8) {sc:Nat->Nat} {k:Nat},U6 ds nf sc k bs->(∀k,sc k+4*YW bs<=900000003)->Xr ds->A5 bs
 | [],_,_,_,_,_=>True.intro
 | b::r,sc,k,h,hb,hd=>by
  have hp:=b.sz_eq
  exact ⟨S7 b h.1 (by have:=hb k;rw [YW] at this;omega) hd,S8 r h.2 (fun j=>by have:=hb j;rw [YW] at this;omega) hd⟩
theorem S9:∀(xs:List Z5) {m:Nat},Wa ds nf m xs->m+4*Yw xs<=900000000->Xr ds->KM xs
 | [],_,_,_,_=>True.intro
 | s::r,m,h,hb,hd=>by
  rw [Yw] at hb
  have hp:=s.sz_pos
  refine ⟨Zd6 s h.1 om hd,S9 r h.2 ?_ hd⟩
  split<;>omega
theorem S7:∀(b:Z8) {m:Nat},fB ds nf m b->m+4*b.sz<=900000004->Xr ds->b.rb
 | .mk steps result,m,h,hb,hd=>by
  rw [Z8.sz] at hb
  rw [fB] at h
  rw [Z8.rb]
  have h1:=AR steps
  have h2:steps.length<=Yw steps:=by
   clear h h1 hb
   induction steps with
   | nil=>simp
   | cons x r ih=>have:=x.sz_pos;rw [Yw,Yo];omega
  exact ⟨S9 steps h.1 om hd,by omega,by omega⟩
end
theorem DU {op v:Int}:(Zx op v).rb:=by rw [Z5.rb_eq];exact True.intro
theorem Zd7 {b:Z8} {x q:Int} {fs:LI} (h:b.rb):(Ko b x fs q).rb:=by
 rw [Z8.rb_eq,E8] at h
 rw [Z8.rb_eq,E8]
 refine ⟨fun s hs=>?_,h.2⟩
 have hs:s∈QS b.steps x fs q:=hs
 rw [QS] at hs
 split at hs
 ·simp only [Xl,XH,Xy] at hs
  rcases hs with ((⟨a,_,rfl⟩|rfl)|⟨a,_,rfl⟩)|hs
  ·exact DU
  ·exact DU
  ·exact DU
  ·exact h.1 s (List.mem_of_mem_drop hs)
 ·exact h.1 s hs
mutual
theorem Zda:∀(s:Z5) {m:Nat},s.rb->(KJ ds m s).rb
 | .mk op num into args kids,m,h=>by
  rw [Z5.rb] at h
  rw [KJ,Z5.rb]
  exact Sc kids h
theorem Sc:∀(bs:List Z8) {m:Nat} {op num:Int} {args:LI} {k:Nat},A5 bs->A5 (UL ds m op num args bs k)
 | [],_,_,_,_,_,_=>by rw [UL];exact True.intro
 | b::r,m,op,num,args,k,h=>by
  rw [UL,A5]
  refine ⟨?_,Sc r h.2⟩
  split
  ·exact Zd7 (Mh b h.1)
  ·exact Mh b h.1
theorem Sd:∀(xs:List Z5) {m:Nat},KM xs->KM (VX ds m xs)
 | [],_,_=>by rw [VX];exact True.intro
 | s::r,m,h=>by rw [VX,KM];exact ⟨Zda s h.1,Sd r h.2⟩
theorem Mh:∀(b:Z8) {m:Nat},b.rb->(WU ds m b).rb
 | .mk steps result,m,h=>by
  rw [Z8.rb] at h
  rw [WU,Z8.rb]
  exact ⟨Sd steps h.1,h.2⟩
end
theorem Zd8 {b:Z8} {x:Int} {many:Nat} (h:b.rb):(VN b x many).rb:=by
 rw [Z8.rb_eq] at h
 rw [VN,Z8.rb_eq]
 refine ⟨?_,h.2⟩
 show KM (VE b.steps x many)
 rw [VE]
 split
 ·exact h.1
 ·rename_i hq
  obtain ⟨_,_,t,h5,h7,h6⟩:=A9 (fun z=>hq (.inr z))
  have h:=h.1
  rw [E8] at h ⊢
  intro s hs
  rcases List.mem_or_eq_of_mem_set hs with hs|rfl
  ·rcases List.mem_or_eq_of_mem_set hs with hs|rfl
   ·exact h s hs
   ·exact DU
  ·have:=h t (Y3 h5)
   rw [h6,Ql,Z5.rb_eq]
   rw [Z5.rb_eq] at this
   exact this
mutual
theorem Zd9:∀(s:Z5) {K:LI},s.rb->(Ti ds K s).rb
 | .mk op num into args kids,K,h=>by
  rw [Z5.rb] at h
  rw [Ti,Z5.rb]
  exact Sa kids h
theorem Sa:∀(bs:List Z8) {K:LI} {op num:Int} {args:LI} {k:Nat},A5 bs->A5 (VW ds K op num args bs k)
 | [],_,_,_,_,_,_=>True.intro
 | b::r,K,op,num,args,k,h=>by
  rw [VW,A5]
  refine ⟨?_,Sa r h.2⟩
  split
  ·exact Zd8 (Mg b h.1)
  ·exact Mg b h.1
theorem Sb:∀(xs:List Z5) {K:LI},KM xs->KM (U8 ds K xs)
 | [],_,_=>True.intro
 | s::r,K,h=>⟨Zd9 s h.1,Sb r h.2⟩
theorem Mg:∀(b:Z8) {K:LI},b.rb->(Wu ds K b).rb
 | .mk steps result,K,h=>by
  rw [Z8.rb] at h
  rw [Wu,Z8.rb]
  exact ⟨Sb steps h.1,h.2⟩
end
end
structure Wl (ds:List Zb) (b:Z8):Prop where
 w:wB ds b
 nr:K9 b
 rng:b.rng
structure TM (ds:List Zb) (s:Z5):Prop where
 w:wS ds s
 nr:CQ s
 rng:s.rng
section
variable {ds:List Zb}
theorem E9:∀{xs:List Z5},Aw xs↔∀s∈xs,s.rng
 | []=>by simp [Aw]
 | s::r=>by rw [Aw,E9];simp
theorem Iv:∀{xs:List Z8},A6 xs↔∀s∈xs,s.rng
 | []=>by simp [A6]
 | s::r=>by rw [A6,Iv];simp
theorem Wl.iff {b:Z8}:Wl ds b↔∀s∈b.steps,TM ds s:=by
 constructor
 ·intro h s hs
  have h3:=h.rng
  rw [Z8.rng_eq] at h3
  exact ⟨Bj.1 ((Jj b).1 h.w) s hs,F8.1 ((F7 b).1 h.nr) s hs,E9.1 h3 s hs⟩
 ·intro h
  exact ⟨(Jj b).2 (Bj.2 fun s hs=>(h s hs).w),(F7 b).2 (F8.2 fun s hs=>(h s hs).nr),by rw [Z8.rng_eq];exact E9.2 fun s hs=>(h s hs).rng⟩
theorem TM.kid {s:Z5} {b:Z8} (h:TM ds s) (hb:b∈s.kids):Wl ds b:=by
 have h3:=h.rng
 rw [Z5.rng_eq] at h3
 exact ⟨I5.1 ((JS s).1 h.w).2.2.2 b hb,Hf.1 ((DM s).1 h.nr).2 b hb,Iv.1 h3.2 b hb⟩
theorem TM.kids {s:Z5} {ks:List Z8} (h:TM ds s) (hl:ks.length=s.kids.length) (hk:∀b∈ks,Wl ds b):TM ds ⟨s.op,s.num,s.into,s.args,ks⟩:=by
 obtain ⟨h1,h2,h3,h4⟩:=(JS s).1 h.w
 have h5:=h.rng
 rw [Z5.rng_eq] at h5
 refine ⟨(JS _).2 ⟨h1,fun hc=>?_,fun h8=>⟨(h3 h8).1,hl.trans (h3 h8).2⟩,I5.2 fun b hb=>(hk b hb).w⟩,(DM _).2 ⟨((DM s).1 h.nr).1,Hf.2 fun b hb=>(hk b hb).nr⟩,by rw [Z5.rng_eq];exact ⟨h5.1,Iv.2 fun b hb=>(hk b hb).rng⟩⟩
 obtain ⟨q1,q2,q3,q4⟩:=h2 hc
 exact ⟨q1,q2,List.eq_nil_of_length_eq_zero (show ks.length=0 by rw [hl,q3];rfl),q4⟩
theorem TM.cnt {op v:Int} (h:op=14∨op=15∨op=16):TM ds (Zx op v):=⟨Zie h,(DM _).2 ⟨by show op≠17;omega,True.intro⟩,by rw [Z5.rng_eq];exact ⟨⟨by show (-9223372036854775808:Int)<=0;decide,by show (0:Int)<=_;decide⟩,True.intro⟩⟩
theorem Wl.open {b:Z8} {x q:Int} {fs:LI} (h:Wl ds b):Wl ds (Ko b x fs q):=by
 rw [Wl.iff] at h ⊢
 intro s hs
 have hs:s∈QS b.steps x fs q:=hs
 rw [QS] at hs
 split at hs
 ·simp only [Xl,XH,Xy] at hs
  rcases hs with ((⟨a,_,rfl⟩|rfl)|⟨a,_,rfl⟩)|hs
  ·exact TM.cnt om
  ·exact TM.cnt om
  ·exact TM.cnt om
  ·exact h s (List.mem_of_mem_drop hs)
 ·exact h s hs
theorem HM {m:Nat} {op num:Int} {args:LI}:∀{bs:List Z8} {k:Nat},(UL ds m op num args bs k).length=bs.length
 | [],_=>rfl
 | b::r,k=>by rw [UL,Yo,Yo,HM (bs:=r)]
mutual
theorem TM.sp:∀(s:Z5) {m:Nat},TM ds s->TM ds (KJ ds m s)
 | .mk op num into args kids,m,h=>by
  rw [KJ]
  exact h.kids HM (Wls.sp kids fun b hb=>h.kid hb)
theorem Wls.sp:∀(bs:List Z8) {m:Nat} {op num:Int} {args:LI} {k:Nat},(∀b∈bs,Wl ds b)->∀b∈UL ds m op num args bs k,Wl ds b
 | [],_,_,_,_,_,_,b,hb=>by cases hb
 | c::r,m,op,num,args,k,h,b,hb=>by
  rw [UL] at hb
  rcases YN.1 hb with rfl|hb
  ·split
   ·exact (Wl.sp c (h c (Xa ..))).open
   ·exact Wl.sp c (h c (Xa ..))
  ·exact Wls.sp r (fun x hx=>h x (Xj _ hx)) b hb
theorem WlSs.sp:∀(xs:List Z5) {m:Nat},(∀s∈xs,TM ds s)->∀s∈VX ds m xs,TM ds s
 | [],_,_,s,hs=>by cases hs
 | c::r,m,h,s,hs=>by
  rw [VX] at hs
  rcases YN.1 hs with rfl|hs
  ·exact TM.sp c (h c (Xa ..))
  ·exact WlSs.sp r (fun x hx=>h x (Xj _ hx)) s hs
theorem Wl.sp:∀(b:Z8) {m:Nat},Wl ds b->Wl ds (WU ds m b)
 | .mk steps result,m,h=>by
  rw [WU,Wl.iff]
  exact WlSs.sp steps (Wl.iff.1 h)
end
theorem Zed {b:Z8} {x:Int} {many:Nat} (h:b.rng):(VN b x many).rng:=by
 rw [Z8.rng_eq] at h
 rw [VN,Z8.rng_eq]
 show Aw (VE b.steps x many)
 rw [VE]
 split
 ·exact h
 ·rename_i hq
  obtain ⟨_,_,t,h5,h7,h6⟩:=A9 (fun z=>hq (.inr z))
  rw [E9] at h ⊢
  intro s hs
  rcases List.mem_or_eq_of_mem_set hs with hs|rfl
  ·rcases List.mem_or_eq_of_mem_set hs with hs|rfl
   ·exact h s hs
   ·rw [Z5.rng_eq];exact ⟨⟨by show (-9223372036854775808:Int)<=0;decide,by show (0:Int)<=_;decide⟩,True.intro⟩
  ·have:=h t (Y3 h5)
   rw [h6,Ql,Z5.rng_eq]
   rw [Z5.rng_eq] at this
   exact this
mutual
theorem Zee:∀(s:Z5) {K:LI},s.rng->(Ti ds K s).rng
 | .mk op num into args kids,K,h=>by
  rw [Z5.rng] at h
  rw [Ti,Z5.rng]
  exact ⟨h.1,SA kids h.2⟩
theorem SA:∀(bs:List Z8) {K:LI} {op num:Int} {args:LI} {k:Nat},A6 bs->A6 (VW ds K op num args bs k)
 | [],_,_,_,_,_,_=>True.intro
 | b::r,K,op,num,args,k,h=>by
  rw [VW,A6]
  refine ⟨?_,SA r h.2⟩
  split
  ·exact Zed (Mm b h.1)
  ·exact Mm b h.1
theorem SB:∀(xs:List Z5) {K:LI},Aw xs->Aw (U8 ds K xs)
 | [],_,_=>True.intro
 | s::r,K,h=>⟨Zee s h.1,SB r h.2⟩
theorem Mm:∀(b:Z8) {K:LI},b.rng->(Wu ds K b).rng
 | .mk steps result,K,h=>by
  rw [Z8.rng] at h
  rw [Wu,Z8.rng]
  exact SB steps h
end
end
mutual
theorem Zc5:∀s:Z5,Kb Vy s->CQ s
 | .mk op num into args kids,h=>by
  rw [Kb] at h
  rw [CQ]
  exact ⟨by have:op<=15:=h.1;omega,Rr kids h.2⟩
theorem Rr:∀bs:List Z8,Ka Vy bs->BN bs
 | [],_=>True.intro
 | b::r,h=>⟨Rq b h.1,Rr r h.2⟩
theorem Rs:∀bs:List Z5,TX Vy bs->BO bs
 | [],_=>True.intro
 | b::r,h=>⟨Zc5 b h.1,Rs r h.2⟩
theorem Rq:∀b:Z8,Vq Vy b->K9 b
 | .mk steps result,h=>by
  rw [Vq] at h
  rw [K9]
  exact Rs steps h
end
structure ZR (q:Nat) (r:YE):Prop where
 params:r.params.length<=3
 lent:r.lent.length<=10
 body:r.body.sz<=q
 rng:r.body.rng
 rb:r.body.rb
structure ZN (n:ZG) (q:Nat):Prop where
 decls:AD n.decls
 len:1<=n.routines.length/\n.routines.length<=4
 rt:∀r∈n.routines,ZR q r
theorem ZR.le {q q2:Nat} {r:YE} (h:ZR q r) (hq:q<=q2):ZR q2 r:=⟨h.params,h.lent,V6 h.body hq,h.rng,h.rb⟩
theorem ZN.le {n:ZG} {q q2:Nat} (h:ZN n q) (hq:q<=q2):ZN n q2:=⟨h.decls,h.len,fun r hr=>(h.rt r hr).le hq⟩
theorem ZN.sz {n:ZG} {q:Nat} (h:ZN n q) (hq:q<=10000000):JW n:=
 ⟨⟨by have:=h.decls.1;omega,fun d hd=>by have:=(h.decls.2 d hd).1;omega,fun d hd c hc=>by have:=(h.decls.2 d hd).2 c hc;omega⟩,by have:=h.len;omega,fun r hr=>by have:=(h.rt r hr).params;omega,fun r hr=>by have:=(h.rt r hr).lent;omega,fun r hr=>by have:=(h.rt r hr).body;omega⟩
theorem FO.wl {n:ZG} {q:Nat} (h:FO n q Vy) (hq:q<=100000000):∀r∈n.routines,Wl n.decls r.body:=fun r hr=>by
 have h1:=h.rf hr
 have h2:r.params.length<=3:=(Tm.bd (f:=⟨r.params,r.result,default⟩) h1.sig).1
 exact ⟨MU r.body h1.body.1 (by have:=h1.body.2;omega) h.fn.decls.ok,Rq r.body h1.op,Ml r.body h1.body.1⟩
theorem FO.zn {n:ZG} {q:Nat} {p:Int->Prop} (h:FO n q p) (hq:q<=100000000:=by omega):ZN n q:=
 ⟨h.fn.decls.ad,h.fn.len,fun r hr=>⟨(Tm.bd (f:=⟨r.params,r.result,default⟩) (h.fn.sigs r hr)).1,by have:=(h.fn.lent r hr).1;omega,(h.fn.body r hr).2,Ml r.body (h.fn.body r hr).1,S7 r.body (h.fn.body r hr).1 (by have h2:r.params.length<=3:=(Tm.bd (f:=⟨r.params,r.result,default⟩) (h.fn.sigs r hr)).1;have:=(h.fn.body r hr).2;omega) h.fn.decls.ok⟩⟩
structure WN (n:ZG) (q:Nat):Prop where
 ok:Xu n
 zn:ZN n q
 wl:∀r∈n.routines,Wl n.decls r.body
theorem FO.wn {n:ZG} {q:Nat} (h:FO n q Vy) (hq:q<=100000000):WN n q:=⟨h.fn.ok,h.zn hq,h.wl hq⟩
theorem WN.sp {n:ZG} {q:Nat} (h:WN n q):WN (D0 n) (9*q):=by
 refine ⟨⟨h.ok.decls,by show (n.routines.map _).length<=4;rw [Km];exact h.ok.len,fun r hr=>?_,fun r hr=>?_⟩,⟨h.zn.decls,by show 1<=(n.routines.map _).length/\(n.routines.map _).length<=4;rw [Km];exact h.zn.len,fun r hr=>?_⟩,fun r hr=>?_⟩
 ·obtain ⟨s,hs,rfl⟩:=XH.1 hr;exact h.ok.params s hs
 ·obtain ⟨s,hs,rfl⟩:=XH.1 hr;exact h.ok.lent s hs
 ·obtain ⟨s,hs,rfl⟩:=XH.1 hr
  have hz:=h.zn.rt s hs
  refine ⟨hz.params,hz.lent,?_,(Wl.sp s.body (h.wl s hs)).rng,Mh s.body hz.rb⟩
  have h1:=HK h.ok.decls s.body (m:=s.params.length) (h.wl s hs).w
  have h2:=s.body.pz_le
  have h3:=hz.body
  show (WU n.decls s.params.length s.body).sz<=9*q
  omega
 ·obtain ⟨s,hs,rfl⟩:=XH.1 hr;exact Wl.sp s.body (h.wl s hs)
theorem WN.ru {n:ZG} {q:Nat} (h:WN n q):ZN (CZ n) q:=by
 refine ⟨h.zn.decls,by show 1<=(n.routines.map _).length/\(n.routines.map _).length<=4;rw [Km];exact h.zn.len,fun r hr=>?_⟩
 obtain ⟨s,hs,rfl⟩:=XH.1 hr
 have hz:=h.zn.rt s hs
 refine ⟨hz.params,hz.lent,?_,Mm s.body (h.wl s hs).rng,Mg s.body hz.rb⟩
 have h1:=Mq s.body (K:=[]) (h.wl s hs).w
 have h3:=hz.body
 show (Wu n.decls [] s.body).sz<=q
 omega
theorem Hu {xs:List Z5} {i:Nat} {s t:Z5} (h:t∈WL xs i s):t∈xs∨t=s:=by
 rw [WL] at h
 simp only [Xl,Xy] at h
 rcases h with (h|h)|h
 ·exact .inl (QP h)
 ·exact .inr h
 ·exact .inl (List.mem_of_mem_drop h)
theorem Sz {op v:Int}:(Zx op v).rng:=by rw [Z5.rng_eq];exact ⟨⟨by show (-9223372036854775808:Int)<=0;decide,by show (0:Int)<=_;decide⟩,True.intro⟩
theorem ZN.withR {n:ZG} {q q2:Nat} {f:Nat} {rt:YE} {b:Z8} (h:ZN n q) (hr:n.routines[f]? = some rt) (hq:q<=q2) (hb:b.sz<=q2) (hg:b.rng) (hbr:b.rb):ZN (withR n f rt b) q2:=by
 refine ⟨h.decls,by show 1<=(n.routines.set _ _).length/\(n.routines.set _ _).length<=4;rw [VQ];exact h.len,fun r hm=>?_⟩
 rcases List.mem_or_eq_of_mem_set hm with hm|rfl
 ·exact (h.rt r hm).le hq
 ·have:=h.rt rt (Y3 hr)
  exact ⟨this.params,this.lent,hb,hg,hbr⟩
theorem ZN.held {n n2:ZG} {q:Nat} (h:ZN n q) (hh:FZ n n2):ZN n2 (q+4):=by
 rcases hh with rfl|⟨f,rt,i,j,v,h1,h2,h3,h4,h5,rfl⟩
 ·exact h.le om
 ·have hz:=h.rt rt (Y3 h1)
  refine h.withR h1 om ?_ ?_ (by have hb:=hz.rb;rw [Z8.rb_eq,E8] at hb;rw [B5,Z8.rb_eq,E8];refine ⟨fun s hs=>?_,hb.2⟩;rcases Hu hs with hs|rfl<;>first|exact DU|(rcases Hu hs with hs|rfl<;>first|exact DU|exact hb.1 s hs))
  ·rw [B5,Z8.sz,Hv,Hv]
   have e1:(Zx 14 v).sz=2:=rfl
   have e2:(Zx 15 v).sz=2:=rfl
   have:=hz.body
   have:=rt.body.sz_eq
   omega
  ·have hg:=hz.rng
   rw [Z8.rng_eq,E9] at hg
   rw [B5,Z8.rng_eq,E9]
   intro s hs
   rcases Hu hs with hs|rfl
   ·rcases Hu hs with hs|rfl
    ·exact hg s hs
    ·exact Sz
   ·exact Sz
theorem FO.le {n:ZG} {q q2:Nat} {p:Int->Prop} (h:FO n q p) (hq:q<=q2):FO n q2 p:=⟨⟨h.fn.decls,h.fn.len,h.fn.sigs,h.fn.lent,fun r hr=>⟨(h.fn.body r hr).1,V6 (h.fn.body r hr).2 hq⟩⟩,h.op⟩
section
variable {ds:List Zb} {nf:Nat}
theorem Z65 {m:Nat} {s:Z5} (h:fS ds nf m s) (hc:YO s.op=true):s.num=0/\s.into=0/\s.kids=[]/\∃a,s.args=[a]/\0<=a/\a<m:=by
 have h1:=(AY s).1 h
 have ho:14<=s.op/\s.op<=17:=of_decide_eq_true hc
 obtain ⟨a1,a2,a3,a,a4⟩:=h1.cnt ho.1
 exact ⟨a1,a2,a3,a,a4,h1.args a (by rw [a4];exact Xy.2 rfl)⟩
theorem SX:∀{xs:List Z5} {m:Nat},Wa ds nf m xs->(∀s∈xs.take (XM xs),0<=gI s.args 0/\gI s.args 0<m)/\Wa ds nf m (xs.drop (XM xs))/\Yv (xs.drop (XM xs))=Yv xs
 | [],m,h=>⟨fun s hs=>by simp [XM] at hs,h,rfl⟩
 | s::r,m,h=>by
  rw [XM]
  by_cases hq:s.op=14∨s.op=15
  ·have hc:YO s.op=true:=by simp [YO];omega
   rw [Zk hq]
   rw [Wa,Zk hc] at h
   obtain ⟨h1,h2,h3⟩:=SX h.2
   obtain ⟨_,_,_,a,ha,hb⟩:=Z65 h.1 hc
   refine ⟨fun t ht=>?_,by rw [List.drop_succ_cons];exact h2,by rw [List.drop_succ_cons,Yv,Zk hc,Wj];exact h3⟩
   rw [AB] at ht
   rcases YN.1 ht with rfl|ht
   ·rw [ha];exact hb
   ·exact h1 t ht
  ·rw [Za hq]
   exact ⟨fun t ht=>by simp at ht,h,rfl⟩
theorem G5 {op:Int} {P:Int->Prop}:∀{xs:List Z5},(∀s∈xs,P (gI s.args 0))->∀a∈Wq op xs,P a
 | [],_,a,h=>by simp [Wq] at h
 | s::r,hp,a,h=>by
  rw [Wq] at h
  split at h
  ·rcases YN.1 h with rfl|h
   ·exact hp s (Xa ..)
   ·exact G5 (fun t ht=>hp t (Xj _ ht)) a h
  ·exact G5 (fun t ht=>hp t (Xj _ ht)) a h
theorem Hp {P:Int->Prop}:∀{fs:LI} {q:Int} {D R:LI},(∀a∈D,P a)->(∀a∈R,P a)->(∀a,q<=a->a<q+fs.length->P a)->(∀a∈(Un fs q D R).1,P a)/\∀a∈(Un fs q D R).2,P a
 | [],q,D,R,hD,hR,_=>⟨hD,hR⟩
 | f::r,q,D,R,hD,hR,hq=>by
  have hq':∀a,q+1<=a->a<q+1+r.length->P a:=fun a h1 h2=>hq a om (by simp only [Yo];omega)
  rw [Un]
  split
  ·exact Hp (fun a ha=>hD a (List.mem_of_mem_erase ha)) hR hq'
  ·split
   ·refine Hp hD (fun a ha=>?_) hq'
    rcases Xl.1 ha with ha|ha
    ·exact hR a ha
    ·rw [Xy.1 ha];exact hq q om (by simp only [Yo];omega)
   ·exact Hp hD hR hq'
theorem Z68 {m q:Nat} {xs:List Z5} {x:Int} {fs:LI} (h:Wa ds nf m xs) (hx:0<=x/\x<m) (hq:q+fs.length<=m):Wa ds nf m (QS xs x fs q)/\Yv (QS xs x fs q)=Yv xs:=by
 rw [QS]
 split
 ·obtain ⟨h1,h2,h3⟩:=SX h
  have hp:(∀a∈(J9 xs x fs q).1,0<=a/\a<(m:Int))/\∀a∈(J9 xs x fs q).2,0<=a/\a<(m:Int):=by
   rw [J9]
   refine Hp (P:=fun a=>0<=a/\a<(m:Int)) (G5 (P:=fun a=>0<=a/\a<(m:Int)) h1) (fun a ha=>G5 (P:=fun a=>0<=a/\a<(m:Int)) h1 a (List.mem_of_mem_erase ha)) (fun a ha hb=>by omega)
  obtain ⟨a1,a2⟩:=Gv (ds:=ds) (nf:=nf) (op:=14) om hp.1
  obtain ⟨b1,b2⟩:=Gv (ds:=ds) (nf:=nf) (op:=16) (m:=m) (vs:=[x]) om (fun v hv=>by rw [Xy.1 hv];exact hx)
  obtain ⟨c1,c2⟩:=Gv (ds:=ds) (nf:=nf) (op:=15) om hp.2
  have b1:Wa ds nf m [Zx 16 x]:=b1
  have b2:Yv [Zx 16 x]=0:=b2
  refine ⟨?_,by rw [T6,T6,T6,a2,b2,c2,h3];omega⟩
  simp only [Ai,T6,a2,b2,c2,Cb]
  exact ⟨⟨⟨a1,b1⟩,c1⟩,h2⟩
 ·exact ⟨h,rfl⟩
theorem Z61 {m q:Nat} {b:Z8} {x:Int} {fs:LI} (h:fB ds nf m b) (hx:0<=x/\x<m) (hq:q+fs.length<=m):fB ds nf m (Ko b x fs q):=by
 rw [KY] at h
 obtain ⟨h1,h2⟩:=Z68 h.1 hx hq
 rw [Ko,KY]
 refine ⟨h1,h.2.1,?_⟩
 show b.result<((m+Yv (QS b.steps x fs q):Nat):Int)
 rw [h2];exact h.2.2
theorem Z0f {m:Nat}:∀{xs:List Z5} {m:Nat},Yv (VX ds m xs)=Yv xs
 | [],_=>rfl
 | s::r,m=>by
  rw [VX,Yv,Yv,Z0f (m:=0) (xs:=r)]
  rw [show (KJ ds m s).op=s.op from by rw [FC];rfl]
theorem Z6g {num:Int} {k:Nat} (h:k<(ZZ ds num).length):(Wy ds num k).length=(ZP ds (gI (ZZ ds num) k)).length:=by
 obtain ⟨x,hx⟩:=B1 (xs:=ZZ ds num) (j:=k) h
 rw [Wy,Jl,hx,Te (i:=(k:Int)) (by simpa using hx)];rfl
mutual
theorem Z67:∀(s:Z5) {m:Nat},fS ds nf m s->fS ds nf m (KJ ds m s)
 | .mk op num into args kids,m,h=>by
  rw [fS] at h
  obtain ⟨h1,h2,h3,h4,h5,h6,h7,h8,h9,h10,h11,h12⟩:=h
  rw [KJ,fS]
  refine ⟨h1,h2,fun ho=>?_,fun ho=>by rw [HM];exact h4 ho,fun ho=>by rw [HM];exact h5 ho,h6,h7,h8,h9,h10,fun ho=>?_,?_⟩
  ·obtain ⟨a1,a2,a3,a4⟩:=h3 ho
   exact ⟨a1,a2,by rw [a3];rfl,a4⟩
  ·rw [h11 ho];rfl
  ·refine OB kids h12 (fun ho=>?_) (fun ho=>?_)
   ·obtain ⟨a,ha⟩:=h6 (.inr ho)
    rw [ha];exact h2 a (by rw [ha];exact Xy.2 rfl)
   ·rw [h5 ho];omega
theorem OB:∀(bs:List Z8) {m:Nat} {op num:Int} {args:LI} {k:Nat},U6 ds nf (WX ds op num m) k bs->(op=8->0<=gI args 0/\gI args 0<m)->(op=8->k+bs.length<=(ZZ ds num).length)->U6 ds nf (WX ds op num m) k (UL ds m op num args bs k)
 | [],_,_,_,_,_,_,_,_=>True.intro
 | b::r,m,op,num,args,k,h,hx,hl=>by
  rw [UL]
  refine ⟨?_,OB r h.2 hx fun ho=>by have:=hl ho;rw [Yo] at this;omega⟩
  by_cases ho:op=8
  ·have hk:=Z6g (ds:=ds) (num:=num) (k:=k) (by have:=hl ho;rw [Yo] at this;omega)
   have hsc:WX ds op num m k=m+(Wy ds num k).length:=by rw [WX,Zk ho,hk]
   rw [Zk ho]
   have h1:=h.1
   rw [hsc] at h1 ⊢
   have Z3:=hx ho
   exact Z61 (Lb b h1) om (X0 _)
  ·have hsc:WX ds op num m k=m:=by rw [WX,Za ho]
   rw [Za ho]
   have h1:=h.1
   rw [hsc] at h1 ⊢
   exact Lb b h1
theorem OF:∀(xs:List Z5) {m:Nat},Wa ds nf m xs->Wa ds nf m (VX ds m xs)
 | [],_,_=>True.intro
 | s::r,m,h=>by
  rw [VX,Wa,show (KJ ds m s).op=s.op from by rw [FC];rfl]
  exact ⟨Z67 s h.1,OF r h.2⟩
theorem Lb:∀(b:Z8) {m:Nat},fB ds nf m b->fB ds nf m (WU ds m b)
 | .mk steps result,m,h=>by
  rw [fB] at h
  rw [WU,fB,Z0f (m:=0)]
  exact ⟨OF steps h.1,h.2⟩
end
theorem IK:∀{xs:List Z5} {i:Nat} {s t:Z5},xs[i]? = some s->YO t.op=YO s.op->Yv (xs.set i t)=Yv xs
 | [],i,s,t,h,_=>by simp at h
 | x::r,0,s,t,h,hc=>by simp at h;subst h;rw [List.set_cons_zero,Yv,Yv,hc]
 | x::r,i+1,s,t,h,hc=>by rw [List.set_cons_succ,Yv,Yv,IK (xs:=r) (by simpa using h) hc]
theorem Ld:∀{xs:List Z5} {i m:Nat} {s t:Z5},Wa ds nf m xs->xs[i]? = some s->YO t.op=YO s.op->fS ds nf (m+Yv (xs.take i)) t->Wa ds nf m (xs.set i t)
 | [],i,m,s,t,_,h,_,_=>by simp at h
 | x::r,0,m,s,t,h,hs,hc,ht=>by
  simp at hs;subst hs
  rw [List.set_cons_zero,Wa,hc]
  exact ⟨by simpa [Yv] using ht,h.2⟩
 | x::r,i+1,m,s,t,h,hs,hc,ht=>by
  rw [List.set_cons_succ,Wa]
  refine ⟨h.1,Ld h.2 (by simpa using hs) hc ?_⟩
  rw [AB,Yv] at ht
  by_cases hx:YO x.op=true
  ·rw [Zk hx] at ht ⊢;rw [Wj] at ht;exact ht
  ·rw [Za hx] at ht ⊢;rw [<-AC] at ht;exact ht
theorem Z69 {m:Nat} {xs:List Z5} {x:Int} {many:Nat} (h:Wa ds nf m xs) (hx:0<=x/\x<m):Wa ds nf m (VE xs x many)/\Yv (VE xs x many)=Yv xs:=by
 rw [VE]
 split
 ·exact ⟨h,rfl⟩
 ·rename_i hq
  obtain ⟨_,_,t,h5,h7,h6⟩:=A9 (fun z=>hq (.inr z))
  obtain ⟨_,_,s,h8,h9,h10⟩:=DQ (fun z=>hq (.inl z))
  have Z9:YO (Zx 17 x).op=YO s.op:=by rw [h9];rfl
  have k1:=Ld (t:=Zx 17 x) h h8 Z9 (Lc om om)
  have k2:=IK (t:=Zx 17 x) h8 Z9
  have k3:=Fv hq (t:=Zx 17 x) h5
  have k4:=(AY t).1 (Dx k1 k3)
  have Zj:YO (Ql (1+x) t).op=YO t.op:=rfl
  rw [h6]
  have ho:t.op=6:=h7.1.1
  refine ⟨Ld k1 k3 Zj ((AY _).2 ⟨k4.op,k4.args,fun z=>?_,k4.k7,k4.k8,k4.one,k4.call,k4.num,?_,k4.alen,k4.kn,k4.kids⟩),by rw [IK k3 Zj,k2]⟩
  ·have z:14<=t.op:=z;omega
  ·show 0<=1+x/\1+x<=((m+_:Nat):Int);omega
theorem Z63 {m:Nat} {b:Z8} {x:Int} {many:Nat} (h:fB ds nf m b) (hx:0<=x/\x<m):fB ds nf m (VN b x many):=by
 rw [KY] at h
 obtain ⟨h1,h2⟩:=Z69 (many:=many) h.1 hx
 rw [VN,KY]
 refine ⟨h1,h.2.1,?_⟩
 show b.result<((m+Yv (VE b.steps x many):Nat):Int)
 rw [h2];exact h.2.2
theorem Le {K:LI} {op num:Int} {args:LI}:∀{bs:List Z8} {k:Nat},(VW ds K op num args bs k).length=bs.length
 | [],_=>rfl
 | b::r,k=>by rw [VW,Yo,Yo,Le (bs:=r)]
theorem SQ {K:LI}:∀{xs:List Z5},Yv (U8 ds K xs)=Yv xs
 | []=>rfl
 | s::r=>by rw [U8,Yv,Yv,SQ (xs:=r),show (Ti ds K s).op=s.op from by rw [Au];rfl]
mutual
theorem Z66:∀(s:Z5) {m:Nat} {K:LI},fS ds nf m s->fS ds nf m (Ti ds K s)
 | .mk op num into args kids,m,K,h=>by
  rw [fS] at h
  obtain ⟨h1,h2,h3,h4,h5,h6,h7,h8,h9,h10,h11,h12⟩:=h
  rw [Ti,fS]
  refine ⟨h1,h2,fun ho=>?_,fun ho=>by rw [Le];exact h4 ho,fun ho=>by rw [Le];exact h5 ho,h6,h7,h8,h9,h10,fun ho=>?_,?_⟩
  ·obtain ⟨a1,a2,a3,a4⟩:=h3 ho
   exact ⟨a1,a2,by rw [a3];rfl,a4⟩
  ·rw [h11 ho];rfl
  ·refine Oz kids h12 (fun ho=>?_)
   obtain ⟨a,ha⟩:=h6 (.inr ho)
   rw [ha];exact h2 a (by rw [ha];exact Xy.2 rfl)
theorem Oz:∀(bs:List Z8) {m:Nat} {K:LI} {op num:Int} {args:LI} {k:Nat},U6 ds nf (WX ds op num m) k bs->(op=8->0<=gI args 0/\gI args 0<m)->U6 ds nf (WX ds op num m) k (VW ds K op num args bs k)
 | [],_,_,_,_,_,_,_,_=>True.intro
 | b::r,m,K,op,num,args,k,h,hx=>by
  rw [VW]
  refine ⟨?_,Oz r h.2 hx⟩
  split
  ·rename_i ho
   have Z3:=hx ho.1
   refine Z63 (La b h.1) ?_
   rw [WX];split<;>omega
  ·exact La b h.1
theorem OE:∀(xs:List Z5) {m:Nat} {K:LI},Wa ds nf m xs->Wa ds nf m (U8 ds K xs)
 | [],_,_,_=>True.intro
 | s::r,m,K,h=>by
  rw [U8,Wa,show (Ti ds K s).op=s.op from by rw [Au];rfl]
  exact ⟨Z66 s h.1,OE r h.2⟩
theorem La:∀(b:Z8) {m:Nat} {K:LI},fB ds nf m b->fB ds nf m (Wu ds K b)
 | .mk steps result,m,K,h=>by
  rw [fB] at h
  rw [Wu,fB,SQ]
  exact ⟨OE steps h.1,h.2⟩
end
theorem OD {m:Nat} {xs:List Z5} {i:Nat} {op v:Int} (h:Wa ds nf m xs) (ho:14<=op/\op<=17) (hv:0<=v/\v<((m+Yv (xs.take i):Nat):Int)):Wa ds nf m (WL xs i (Zx op v))/\Yv (WL xs i (Zx op v))=Yv xs:=by
 have e:=TA i xs
 have h0:Wa ds nf m (xs.take i++xs.drop i):=by rw [e];exact h
 rw [Ai] at h0
 have hc:YO (Zx op v).op=true:=decide_eq_true ho
 have hd:Yv [Zx op v]=0:=by rw [Yv,Zk hc];rfl
 have e2:=Yl Yv e
 rw [T6] at e2
 rw [WL]
 refine ⟨?_,by rw [T6,T6,hd];omega⟩
 rw [Ai,Ai,T6,hd]
 exact ⟨⟨h0.1,Lc ho hv,True.intro⟩,h0.2⟩
theorem Z62 {m:Nat} {b:Z8} {i j:Nat} {v:Int} (h:fB ds nf m b) (hij:i<=j) (hj:j<=b.steps.length) (hv:0<=v/\v<((m+Yv (b.steps.take i):Nat):Int)):fB ds nf m (B5 b i j v):=by
 rw [KY] at h
 have hm:Yv (b.steps.take i)<=Yv (b.steps.take j):=by
  have e:=Yl Yv (TA i (b.steps.take j))
  rw [T6,List.take_take,Uc hij] at e;omega
 obtain ⟨h1,h2⟩:=OD (op:=15) (i:=j) (v:=v) h.1 om om
 obtain ⟨h3,h4⟩:=OD (op:=14) (i:=i) (v:=v) h1 om (by rw [S4 hij hj];exact hv)
 rw [B5,KY]
 refine ⟨h3,h.2.1,?_⟩
 show b.result<((m+Yv (WL (WL b.steps j (Zx 15 v)) i (Zx 14 v)):Nat):Int)
 rw [h4,h2];exact h.2.2
end
theorem FN.sp {n:ZG} {q q2:Nat} (h:FN n q) (hz:ZN (D0 n) q2):FN (D0 n) q2:=by
 refine ⟨h.decls,hz.len,fun r hr=>?_,fun r hr=>?_,fun r hr=>⟨?_,(hz.rt r hr).body⟩⟩
 ·obtain ⟨s,hs,rfl⟩:=XH.1 hr;exact h.sigs s hs
 ·obtain ⟨s,hs,rfl⟩:=XH.1 hr;exact h.lent s hs
 ·obtain ⟨s,hs,rfl⟩:=XH.1 hr
  have e:(D0 n).routines.length=n.routines.length:=Km ..
  rw [e]
  exact Lb _ (h.body s hs).1
theorem FN.ru {n:ZG} {q q2:Nat} (h:FN n q) (hz:ZN (CZ n) q2):FN (CZ n) q2:=by
 refine ⟨h.decls,hz.len,fun r hr=>?_,fun r hr=>?_,fun r hr=>⟨?_,(hz.rt r hr).body⟩⟩
 ·obtain ⟨s,hs,rfl⟩:=XH.1 hr;exact h.sigs s hs
 ·obtain ⟨s,hs,rfl⟩:=XH.1 hr;exact h.lent s hs
 ·obtain ⟨s,hs,rfl⟩:=XH.1 hr
  have e:(CZ n).routines.length=n.routines.length:=Km ..
  rw [e]
  exact La _ (h.body s hs).1
theorem FN.le {n:ZG} {q q2:Nat} (h:FN n q) (hq:q<=q2):FN n q2:=⟨h.decls,h.len,h.sigs,h.lent,fun r hr=>⟨(h.body r hr).1,V6 (h.body r hr).2 hq⟩⟩
theorem FN.held {n n2:ZG} {q q2:Nat} (h:FN n q) (hh:FZ n n2) (hz:ZN n2 q2):FN n2 q2:=by
 rcases hh with rfl|⟨f,rt,i,j,v,h1,h2,h3,h4,h5,rfl⟩
 ·exact ⟨h.decls,h.len,h.sigs,h.lent,fun r hr=>⟨(h.body r hr).1,(hz.rt r hr).body⟩⟩
 ·have hm:=Y3 h1
  have hl:(withR n f rt (B5 rt.body i j v)).routines.length=n.routines.length:=VQ ..
  refine ⟨h.decls,hz.len,fun r hr=>?_,fun r hr=>?_,fun r hr=>⟨?_,(hz.rt r hr).body⟩⟩
  ·rcases List.mem_or_eq_of_mem_set hr with hr|rfl
   ·exact h.sigs r hr
   ·exact h.sigs rt hm
  ·rcases List.mem_or_eq_of_mem_set hr with hr|rfl
   ·exact h.lent r hr
   ·exact h.lent rt hm
  ·rw [hl]
   rcases List.mem_or_eq_of_mem_set hr with hr|rfl
   ·exact (h.body r hr).1
   ·exact Z62 (h.body rt hm).1 h2 h3 ⟨h4,h5⟩
abbrev Mem:=Nat->Nat->Option Value
abbrev Cc:=Nat × Nat
def upd (m:Mem) (a:Cc) (z:Int):Mem:=fun g o=>if g=a.1/\o=a.2 then some (.int .i64 z) else m g o
def wr (m:Mem):List Cc->Int->Mem
 | [],_=>m
 | a::r,k=>wr (upd m a k) r (k+1)
def GO (m:Mem):List Cc->Int->Prop
 | [],_=>True
 | a::r,k=>m a.1 a.2=some (.int .i64 k)/\GO m r (k+1)
def PQ (m:Mem) (a:Cc):Prop:=∃z,m a.1 a.2=some (.int .i64 z)
structure Kp (m m':Mem):Prop where
 i:∀{a:Cc},PQ m a->PQ m' a
 h:∀{g o:Nat} {v:Value},m g o=some v->(∀z,v≠.int .i64 z)->m' g o=some v
section
variable {P:Program} {n:Nat} {ops:Array Oper} {B:Fr->List Res->Prop} {k:Nat} {F:Fr} {h h2:List Res}
end
section
variable {m m':Mem} {B:List Nat}
end
section
variable {m:Mem} {B:List Nat} {g:Nat}
end
section
variable {m:Mem} {B:List Nat}
end
def Zn (g lo hi:Nat) (X:List Nat) (a:Cc):Prop:=(a.1=g/\lo<=a.2/\a.2<hi)∨a.1∈X
structure Nd (g lo hi:Nat) (X:List Nat) (as1:List Cc):Prop where
 nd:(X.Nodup/\g∉X)->as1.Nodup
 zn:∀a∈as1,Zn g lo hi X a
section
variable {m:Mem} {B:List Nat}
end
section
variable {n:ZG} {ln:LI} {L:ZK}
end
structure CR (L:ZK) (cons first:LI):Prop where
 cl:cons.length=L.vars.length
 fl:first.length=L.vars.length
 eq:∀v:Int,0<=v->v<L.vars.length->0<=gI L.con v->gI cons v=gI L.con v/\gI first v=gI L.fst v

section
variable {N:Mem} {g o:Nat} {z:Int}
end


structure Instr where
 op:Int
 dst:Int
 num:Int
 into:Int
 args:LI
 jumps:LI
structure ZT where
 params:LI
 lent:LI
 result:Int
 regs:Int
 code:List Instr
structure YA where
 decls:List Zb
 procs:List ZT
abbrev Ve (x:Instr):List AV:=[.i x.op,.i x.dst,.i x.num,.i x.into,Z4 x.args,Z4 x.jumps]
abbrev T2 (x:Instr):AV:=.agg (Ve x)
def Y9 (xs:List Instr):List AV:=xs.map T2
abbrev K8 (xs:List Instr):AV:=.sl (Y9 xs) none
abbrev F9 (xs:List Instr) (v:Value):AV:=.sl (Y9 xs) (some v)
abbrev Ul (x:ZT):List AV:=[Z4 x.params,Z4 x.lent,.i x.result,.i x.regs,K8 x.code]
abbrev Cg (x:ZT):AV:=.agg (Ul x)
def W5 (xs:List ZT):List AV:=xs.map Cg
abbrev He (xs:List ZT):AV:=.sl (W5 xs) none
abbrev VL (xs:List ZT) (v:Value):AV:=.sl (W5 xs) (some v)
abbrev Vd (x:YA):List AV:=[Ye x.decls,He x.procs]
abbrev V7 (x:YA):AV:=.agg (Vd x)
structure Z23 where
 op:Int
 dst:Int
 num:Int
 into:Int
 args:LI
 av:Value
 jumps:LI
 jv:Value
structure Z25 where
 params:LI
 pv:Value
 lent:LI
 lv:Value
 result:Int
 regs:Int
 code:List Z23
 cv:Value
structure Zin where
 decls:List N3
 dv:Value
 procs:List Z25
 pv:Value
theorem Qw {xs:List Instr} {j:Nat} {x:Instr} (h:xs[j]? = some x):(Y9 xs)[j]? = some (T2 x):=by simp [Y9,h]
@[simp] theorem T8 (xs:List Instr):(Y9 xs).length=xs.length:=by simp [Y9]
theorem Bz (xs ys:List Instr):Y9 (xs++ys)=Y9 xs++Y9 ys:=by simp [Y9]
theorem Jw (xs:List Instr):∀y∈Y9 xs,y.leaves.length=6:=by intro y hy;simp only [Y9,XH] at hy;obtain ⟨x,_,rfl⟩:=hy;rfl
theorem EB (xs:List Instr):(Zg (Y9 xs)).all AV.one=true:=J0 fun y hy=>by simp only [Y9,XH] at hy;obtain ⟨x,_,rfl⟩:=hy;rfl
theorem TD (xs:List Instr):(Zg (Y9 xs)).length=xs.length*6:=by rw [TE _ (Jw _)];simp
theorem Z79 (xs:List Instr) (x:Instr):Zg (Y9 xs)++Zg (Y9 [x])=Zg (Y9 (xs++[x])):=by rw [Bz,KZ]
theorem OU {xs:List Instr} {i:Nat} {s:Instr} (h:xs[i]? = some s):Zg (Y9 xs)=Zg (Y9 (xs.take i))++(Ve s++Zg (Y9 (xs.drop (i+1)))):=by
 have hk:=(Xh.1 h).1
 have hd:xs.drop i=s::xs.drop (i+1):=by
  rw [MY hk]
  congr 1
  rw [D9 hk] at h
  exact Da h
 have e:xs=xs.take i++(s::xs.drop (i+1)):=by rw [<-hd,TA]
 conv=>lhs;rw [e,Bz,KZ]
 rfl
theorem Lk {xs:List Instr} {i:Nat} {s:Instr} (h:xs[i]? = some s):((Zg (Y9 xs)).drop (i*6)).take (Ve s).length=Ve s:=by
 have hi:=(Xh.1 h).1
 have hl:(Zg (Y9 (xs.take i))).length=i*6:=by rw [TD,Wi,Uc om]
 rw [OU h]
 exact SG hl
theorem GG {xs:List Instr} {i:Nat} {s t:Instr} (h:xs[i]? = some s):(Zg (Y9 xs)).take (i*6)++Ve t++(Zg (Y9 xs)).drop (i*6+(Ve t).length)=Zg (Y9 (xs.set i t)):=by
 have hi:=(Xh.1 h).1
 have hl:(Zg (Y9 (xs.take i))).length=i*6:=by rw [TD,Wi,Uc om]
 rw [OU h,Mo (xs:=Ve s) (ys:=Ve t) hl rfl]
 have e:xs.set i t=xs.take i++(t::xs.drop (i+1)):=by rw [I9,Zk hi]
 rw [e,Bz,KZ]
 rfl
theorem Ku {xs:List ZT} {j:Nat} {x:ZT} (h:xs[j]? = some x):(W5 xs)[j]? = some (Cg x):=by simp [W5,h]
@[simp] theorem Qb (xs:List ZT):(W5 xs).length=xs.length:=by simp [W5]
theorem NY (xs ys:List ZT):W5 (xs++ys)=W5 xs++W5 ys:=by simp [W5]
theorem Kv (xs:List ZT):∀y∈W5 xs,y.leaves.length=5:=by intro y hy;simp only [W5,XH] at hy;obtain ⟨x,_,rfl⟩:=hy;rfl
theorem IX (xs:List ZT):(Zg (W5 xs)).all AV.one=true:=J0 fun y hy=>by simp only [W5,XH] at hy;obtain ⟨x,_,rfl⟩:=hy;rfl
def XL (op dst num into:Int) (args:LI):Instr:=⟨op,dst,num,into,args,[]⟩
def Instr.goto (x:Instr) (v:Int):Instr:=⟨x.op,x.dst,v,x.into,x.args,x.jumps⟩
def Instr.fan (x:Instr) (js:LI):Instr:=⟨x.op,x.dst,x.num,x.into,x.args,js⟩
def VH (c:List Instr) (i:Nat):List Instr:=match c[i]? with
 | none=>c
 | some x=>c.set i (x.goto c.length)
def Qg (c:List Instr) (i:Nat) (js:LI):List Instr:=match c[i]? with
 | none=>c
 | some x=>c.set i (x.fan js)
def TN (c:List Instr):List Nat->List Instr
 | []=>c
 | i::r=>TN (VH c i) r
structure AI (E:Type) where
 res:E->Int->LI
 len:E->Nat
 nxt:E->E
 arm:E->Int->Int->Nat->E
def WG (m many:Nat) (x:Int):List Instr:=(List.range many).map fun i=>XL 19 ((m+i:Nat):Int) (i:Int) 0 [x]
def Ep (r:List Z8) (c:List Instr):List Instr:=match r with|[]=>c|_::_=>c++[XL 22 0 0 0 []]
def Ni (r:List Z8) (es:List Nat) (l:Nat):List Nat:=match r with|[]=>es|_::_=>es++[l+1]
section
variable {E:Type} (X:AI E) (ds:List Zb)
mutual
def U7 (e:E):Z5->List Instr->List Instr
 | .mk op num into args kids,c=>
  if op=7 then Qy e args kids c
  else if op=8 then Ud e num (gI args 0) c.length kids 0 (c++[XL 21 0 num 0 args]) [] []
  else if op=14∨op=15 then c++[XL op 0 0 0 args]
  else if op=16∨op=17 then c++[XL op 0 0 0 (args++X.res e (gI args 0))]
  else c++[XL op (X.len e) num into args]
def Qy (e:E) (args:LI):List Z8->List Instr->List Instr
 | b::r,c=>K0 e (c.length) r (flB e b (c++[XL 20 0 0 0 args])++[XL 18 (X.len e) 0 0 [b.result]])
 | [],c=>c
def K0 (e:E) (ZY:Nat):List Z8->List Instr->List Instr
 | b::_,c=>VH (flB e b (VH (c++[XL 22 0 0 0 []]) ZY)++[XL 18 (X.len e) 0 0 [b.result]]) c.length
 | [],c=>c
def Ud (e:E) (num x:Int) (ZY:Nat):List Z8->Nat->List Instr->LI->List Nat->List Instr
 | [],_,c,ts,es=>TN (Qg c ZY ts) es
 | b::r,k,c,ts,es=>
  Ud e num x ZY r (k+1) (Ep r (flB (X.arm e x num k) b (c++WG (X.len e) (Wy ds num k).length x)++[XL 18 (X.len e) 0 0 [b.result]])) (ts++[(c.length:Int)])
   (Ni r es (flB (X.arm e x num k) b (c++WG (X.len e) (Wy ds num k).length x)).length)
def UC (e:E):List Z5->List Instr->List Instr
 | [],c=>c
 | s::r,c=>UC (if YO s.op=true then e else X.nxt e) r (U7 e s c)
def flB (e:E):Z8->List Instr->List Instr
 | .mk steps _,c=>UC e steps c
end
end
def XN (ds:List Zb):AI (LI × LI):=
 ⟨fun e x=>UF (ZP ds (gI e.1 x)) (gI e.2 x),fun e=>e.1.length,fun e=>(e.1++[0],e.2++[0]),
 fun e x num k=>(e.1.set x.toNat (Cm ds num k)++XG (ZP ds (Cm ds num k)).length,e.2.set x.toNat e.1.length++XG (ZP ds (Cm ds num k)).length)⟩
section
variable {ds:List Zb}
end
theorem Bs (c:List Instr) (i:Nat):(VH c i).length=c.length:=by rw [VH];split<;>simp
theorem Cx (c:List Instr) (i:Nat) (js:LI):(Qg c i js).length=c.length:=by rw [Qg];split<;>simp
theorem Nb:∀(es:List Nat) (c:List Instr),(TN c es).length=c.length
 | [],_=>rfl
 | i::r,c=>by rw [TN,Nb r,Bs]
theorem Z04 {c t:List Instr} {i:Nat} {x:Instr} (h:c.length<=i):(c++t).set i x=c++t.set (i-c.length) x:=List.set_append_right _ _ h
theorem Iq {c t:List Instr} {i:Nat} (h:c.length<=i):∃t',VH (c++t) i=c++t'/\t'.length=t.length:=by
 rw [VH]
 split
 ·exact ⟨t,rfl,rfl⟩
 ·exact ⟨_,Z04 h,by simp⟩
theorem Z6d {c t:List Instr} {i:Nat} {js:LI} (h:c.length<=i):∃t',Qg (c++t) i js=c++t'/\t'.length=t.length:=by
 rw [Qg]
 split
 ·exact ⟨t,rfl,rfl⟩
 ·exact ⟨_,Z04 h,by simp⟩
theorem Na {c:List Instr}:∀{es:List Nat} {t:List Instr},(∀i∈es,c.length<=i)->∃t',TN (c++t) es=c++t'/\t'.length=t.length
 | [],t,_=>⟨t,rfl,rfl⟩
 | i::r,t,h=>by
  obtain ⟨t1,e1,l1⟩:=Iq (t:=t) (h i (Xa ..))
  obtain ⟨t2,e2,l2⟩:=Na (es:=r) (t:=t1) fun j hj=>h j (Xj _ hj)
  exact ⟨t2,by rw [TN,e1,e2],by rw [l2,l1]⟩
theorem Z38 (r:List Z8) (c:List Instr):∃t,Ep r c=c++t:=by
 cases r with
 | nil=>exact ⟨[],by rw [T0];rfl⟩
 | cons _ _=>exact ⟨_,rfl⟩
section
variable {E:Type} (X:AI E) (ds:List Zb)
mutual
theorem Z71:∀(s:Z5) (e:E) (c:List Instr),∃t,U7 X ds e s c=c++t
 | .mk op num into args kids,e,c=>by
  rw [U7]
  split
  ·exact Z6t kids e c
  split
  ·obtain ⟨t,h⟩:=OM kids e 0 c [XL 21 0 num 0 args] [] [] (X0 _) (fun i hi=>by cases hi) (num:=num) (x:=gI args 0)
   exact ⟨t,h⟩
  split
  ·exact ⟨_,rfl⟩
  split
  ·exact ⟨_,rfl⟩
  ·exact ⟨_,rfl⟩
theorem Z6t:∀(bs:List Z8) (e:E) (c:List Instr) {args:LI},∃t,Qy X ds e args bs c=c++t
 | [],e,c,_=>⟨[],by rw [Qy,T0]⟩
 | b::r,e,c,args=>by
  rw [Qy]
  obtain ⟨t,h⟩:=EJ b e (c++[XL 20 0 0 0 args])
  rw [h,XW,XW]
  exact Z6p r e c _ (X0 _)
theorem Z6p:∀(bs:List Z8) (e:E) (c t0:List Instr) {a:Nat},c.length<=a->∃t,K0 X ds e a bs (c++t0)=c++t
 | [],e,c,t0,_,_=>⟨t0,by rw [K0]⟩
 | b::r,e,c,t0,a,ha=>by
  rw [K0,XW]
  obtain ⟨t1,h1,_⟩:=Iq (t:=t0++[XL 22 0 0 0 []]) ha
  rw [h1]
  obtain ⟨t2,h2⟩:=EJ b e (c++t1)
  rw [h2,XW,XW]
  obtain ⟨t3,h3,_⟩:=Iq (c:=c) (t:=t1++(t2++[XL 18 (X.len e) 0 0 [b.result]])) (i:=(c++t0).length) (by rw [ZX];exact Nat.le_add_right _ _)
  exact ⟨t3,h3⟩
theorem OM:∀(bs:List Z8) (e:E) (k:Nat) (c t0:List Instr) (ts:LI) (es:List Nat) {num x:Int} {a:Nat},c.length<=a->(∀i∈es,c.length<=i)->∃t,Ud X ds e num x a bs k (c++t0) ts es=c++t
 | [],e,k,c,t0,ts,es,num,x,a,ha,he=>by
  rw [Ud]
  obtain ⟨t1,h1,_⟩:=Z6d (t:=t0) (js:=ts) ha
  obtain ⟨t2,h2,_⟩:=Na (t:=t1) he
  exact ⟨t2,by rw [h1,h2]⟩
 | b::r,e,k,c,t0,ts,es,num,x,a,ha,he=>by
  rw [Ud]
  obtain ⟨t1,h1⟩:=EJ b (X.arm e x num k) ((c++t0)++WG (X.len e) (Wy ds num k).length x)
  rw [h1]
  obtain ⟨t2,h2⟩:=Z38 r ((((c++t0)++WG (X.len e) (Wy ds num k).length x)++t1)++[XL 18 (X.len e) 0 0 [b.result]])
  rw [h2,XW,XW,XW,XW]
  refine OM r e (k+1) c _ _ _ ha fun i hi=>?_
  cases r with
  | nil=>exact he i hi
  | cons _ _=>
   rcases Xl.1 hi with hi|hi
   ·exact he i hi
   ·rw [Xy.1 hi]
    simp only [ZX]
    omega
theorem OR:∀(xs:List Z5) (e:E) (c:List Instr),∃t,UC X ds e xs c=c++t
 | [],e,c=>⟨[],by rw [UC,T0]⟩
 | s::r,e,c=>by
  obtain ⟨t1,h1⟩:=Z71 s e c
  obtain ⟨t2,h2⟩:=OR r (if YO s.op=true then e else X.nxt e) (c++t1)
  exact ⟨t1++t2,by rw [UC,h1,h2,XW]⟩
theorem EJ:∀(b:Z8) (e:E) (c:List Instr),∃t,flB X ds e b c=c++t
 | .mk steps result,e,c=>by rw [flB];exact OR steps e c
end
theorem Z6l {b:Z8} {e:E} {c:List Instr} {i:Nat} (h:i<c.length):(flB X ds e b c)[i]? = c[i]?:=by
 obtain ⟨t,ht⟩:=EJ X ds b e c
 rw [ht,JV h]
variable {ds} (hd:Xr ds)
include hd
mutual
theorem OO:∀(s:Z5) (e:E) (c:List Instr),(U7 X ds e s c).length<=c.length+16*s.sz
 | .mk op num into args kids,e,c=>by
  rw [U7,Z5.sz]
  split
  ·have:=Z6s kids e c (args:=args);omega
  split
  ·have:=OL kids e 0 (c++[XL 21 0 num 0 args]) [] [] (num:=num) (x:=gI args 0) (a:=c.length)
   simp only [ZX,Yo,YC] at this
   omega
  split
  ·simp;omega
  split
  ·simp;omega
  ·simp;omega
theorem Z6s:∀(bs:List Z8) (e:E) (c:List Instr) {args:LI},(Qy X ds e args bs c).length<=c.length+16*YW bs+3
 | [],e,c,_=>by rw [Qy];omega
 | b::r,e,c,args=>by
  have h1:=BE b e (c++[XL 20 0 0 0 args])
  have h2:=Z6o r e (flB X ds e b (c++[XL 20 0 0 0 args])++[XL 18 (X.len e) 0 0 [b.result]]) (a:=c.length)
  rw [Qy,YW]
  simp only [ZX,Yo,YC] at h1 h2
  omega
theorem Z6o:∀(bs:List Z8) (e:E) (c:List Instr) {a:Nat},(K0 X ds e a bs c).length<=c.length+16*YW bs+1
 | [],e,c,_=>by rw [K0];omega
 | b::r,e,c,a=>by
  have h1:=BE b e (VH (c++[XL 22 0 0 0 []]) a)
  rw [K0,Bs,YW]
  rw [Bs] at h1
  simp only [ZX,Yo,YC] at h1 ⊢
  omega
theorem OL:∀(bs:List Z8) (e:E) (k:Nat) (c:List Instr) (ts:LI) (es:List Nat) {num x:Int} {a:Nat},(Ud X ds e num x a bs k c ts es).length<=c.length+16*YW bs
 | [],e,k,c,ts,es,num,x,a=>by rw [Ud,Nb,Cx];simp [YW]
 | b::r,e,k,c,ts,es,num,x,a=>by
  have h1:=BE b (X.arm e x num k) (c++WG (X.len e) (Wy ds num k).length x)
  have h2:=OL r e (k+1) (Ep r (flB X ds (X.arm e x num k) b (c++WG (X.len e) (Wy ds num k).length x)++[XL 18 (X.len e) 0 0 [b.result]])) (ts++[(c.length:Int)])
   (Ni r es (flB X ds (X.arm e x num k) b (c++WG (X.len e) (Wy ds num k).length x)).length) (num:=num) (x:=x) (a:=a)
  have h3:∀c':List Instr,(Ep r c').length<=c'.length+1:=fun c'=>by cases r with
   | nil=>exact Nat.le_succ _
   | cons _ _=>show (c'++[XL 22 0 0 0 []]).length<=_;simp
  have h4:=h3 (flB X ds (X.arm e x num k) b (c++WG (X.len e) (Wy ds num k).length x)++[XL 18 (X.len e) 0 0 [b.result]])
  have h5:=Gx hd num k
  have h6:(WG (X.len e) (Wy ds num k).length x).length=(Wy ds num k).length:=by simp [WG]
  rw [Ud,YW]
  simp only [ZX,Yo,YC,h6] at h1 h2 h4 ⊢
  omega
theorem OQ:∀(xs:List Z5) (e:E) (c:List Instr),(UC X ds e xs c).length<=c.length+16*Yw xs
 | [],e,c=>by rw [UC,Yw];omega
 | s::r,e,c=>by
  have h1:=OO s e c
  have h2:=OQ r (if YO s.op=true then e else X.nxt e) (U7 X ds e s c)
  rw [UC,Yw];omega
theorem BE:∀(b:Z8) (e:E) (c:List Instr),(flB X ds e b c).length+16<=c.length+16*b.sz
 | .mk steps result,e,c=>by
  have:=OQ steps e c
  rw [flB,Z8.sz];omega
end
end
def Kc (m:Int) (x:Instr):Int:=x.args.foldl (fun m a=>max m (a+1)) (max m (x.dst+1))
def Up (m:Int) (c:List Instr):Int:=c.foldl Kc m
structure AJ (x:Instr):Prop where
 dst:0<=x.dst/\x.dst<=1000000000
 len:x.args.length<=10000200
 args:∀a∈x.args,0<=a/\a<=1000000000
 js:x.jumps.length<=300000000
def Rg (c:List Instr):Prop:=∀x∈c,AJ x
theorem Ri:∀{l:LI} {m:Int},(∀a∈l,0<=a/\a<=1000000000)->0<=m/\m<=1000000001->m<=l.foldl (fun m a=>max m (a+1)) m/\l.foldl (fun m a=>max m (a+1)) m<=1000000001
 | [],m,_,h=>⟨Int.le_refl _,h.2⟩
 | a::r,m,ha,h=>by
  have h1:=ha a (Xa ..)
  have h2:=Ri (l:=r) (m:=max m (a+1)) (fun b hb=>ha b (Xj _ hb)) om
  rw [List.foldl_cons]
  omega
theorem Zdx {x:Instr} {m:Int} (hx:AJ x) (h:0<=m/\m<=1000000001):m<=Kc m x/\Kc m x<=1000000001:=by
 have h1:=hx.dst
 have h2:=Ri (m:=max m (x.dst+1)) hx.args om
 rw [Kc];omega
theorem Sk:∀{c:List Instr} {m:Int},Rg c->0<=m/\m<=1000000001->m<=Up m c/\Up m c<=1000000001
 | [],m,_,h=>⟨Int.le_refl _,h.2⟩
 | x::r,m,hc,h=>by
  have h1:=Zdx (hc x (Xa ..)) h
  have h2:=Sk (c:=r) (m:=Kc m x) (fun y hy=>hc y (Xj _ hy)) om
  show m<=Up (Kc m x) r/\_
  exact ⟨by omega,h2.2⟩
theorem Rj:∀(l:LI) (a m:Int),l.foldl (fun m a=>max m (a+1)) (max a m)=max a (l.foldl (fun m a=>max m (a+1)) m)
 | [],_,_=>rfl
 | x::r,a,m=>by rw [List.foldl_cons,List.foldl_cons,<-Rj r];congr 1;omega
theorem Zdy (x:Instr) (a m:Int):Kc (max a m) x=max a (Kc m x):=by
 rw [Kc,Kc,<-Rj];congr 1;omega
theorem Sl:∀(c:List Instr) (a m:Int),Up (max a m) c=max a (Up m c)
 | [],_,_=>rfl
 | x::r,a,m=>by
  show Up (Kc (max a m) x) r=max a (Up (Kc m x) r)
  rw [Zdy,Sl r]
theorem Zdz (c:List Instr) {a:Int} (h:0<=a):Up a c=max a (Up 0 c):=by
 rw [<-Sl];congr 1;omega
theorem Rg.nil:Rg []:=fun _ h=>by cases h
theorem Rg.app {c d:List Instr} (h1:Rg c) (h2:Rg d):Rg (c++d):=fun x hx=>(Xl.1 hx).elim (h1 x) (h2 x)
theorem Rg.one {x:Instr} (h:AJ x):Rg [x]:=fun y hy=>by rw [Xy.1 hy];exact h
theorem Rg.snoc {c:List Instr} {x:Instr} (h1:Rg c) (h2:AJ x):Rg (c++[x]):=h1.app (.one h2)
theorem Rg.set {c:List Instr} {x y:Instr} {i:Nat} (hx:c[i]? = some x) (h:Rg c) (h1:y.dst=x.dst) (h2:y.args=x.args) (h3:y.jumps.length<=300000000):Rg (c.set i y):=fun z hz=>by
 have hr:=h x (Y3 hx)
 rcases List.mem_or_eq_of_mem_set hz with hz|rfl
 ·exact h z hz
 ·exact ⟨by rw [h1];exact hr.dst,by rw [h2];exact hr.len,by rw [h2];exact hr.args,h3⟩
theorem Rg.aim {c:List Instr} (h:Rg c) (i:Nat):Rg (VH c i):=by
 rw [VH]
 split
 ·exact h
 ·rename_i x hx;exact h.set hx rfl rfl (h x (Y3 hx)).js
theorem Rg.fan {c:List Instr} (h:Rg c) (i:Nat) {js:LI} (hj:js.length<=300000000):Rg (Qg c i js):=by
 rw [Qg]
 split
 ·exact h
 ·rename_i x hx;exact h.set hx rfl rfl hj
theorem Rg.aims:∀{es:List Nat} {c:List Instr},Rg c->Rg (TN c es)
 | [],_,h=>h
 | i::r,c,h=>by rw [TN];exact Rg.aims (h.aim i)
theorem AJ.mk' {op dst num into:Int} {args:LI} (h1:0<=dst/\dst<=1000000000) (h2:args.length<=10000200) (h3:∀a∈args,0<=a/\a<=1000000000):AJ (XL op dst num into args):=⟨h1,h2,h3,Q9 _⟩
mutual
def E2:Z5->Prop
 | .mk _ _ _ args kids=>(args.length<=10000100/\∀a∈args,0<=a/\a<=900000000)/\CY kids
def CY:List Z8->Prop
 | []=>True
 | b::r=>E1 b/\CY r
def Fx:List Z5->Prop
 | []=>True
 | s::r=>E2 s/\Fx r
def E1:Z8->Prop
 | .mk steps result=>Fx steps/\0<=result/\result<=900000000
end
theorem Ze9 (s:Z5):E2 s↔(s.args.length<=10000100/\∀a∈s.args,0<=a/\a<=900000000)/\CY s.kids:=by cases s;rw [E2];rfl
theorem Hx (b:Z8):E1 b↔Fx b.steps/\0<=b.result/\b.result<=900000000:=by cases b;rw [E1];rfl
section
variable {n:ZG}
end
structure N2 {E:Type} (X:AI E) (G:E->Nat->Prop):Prop where
 len:∀{e q},G e q->X.len e<=q
 res:∀{e q},G e q->∀x,(∀v∈X.res e x,0<=v/\v<=q+3)/\(X.res e x).length<=3
 nxt:∀{e q},G e q->G (X.nxt e) (q+1)
 up:∀{e q q'},G e q->q<=q'->G e q'
 arm:∀{e q},G e q->∀x num k,G (X.arm e x num k) (q+3)
theorem Z29 {m many:Nat} {x:Int} (hm:many<=3) (h:m<=900000000) (hx:0<=x/\x<=900000000):Rg (WG m many x):=fun y hy=>by
 rw [WG] at hy
 obtain ⟨i,hi,rfl⟩:=XH.1 hy
 have:=List.mem_range.1 hi
 exact .mk' om (by simp) fun a ha=>by rw [Xy.1 ha];omega
theorem Ii {m:Nat} {r:Int} (h:m<=900000000) (hr:0<=r/\r<=900000000):AJ (XL 18 m 0 0 [r]):=.mk' om (by simp) fun a ha=>by rw [Xy.1 ha];omega
theorem N4 {op num:Int}:AJ (XL op 0 num 0 []):=.mk' om (by simp) fun a ha=>by cases ha
theorem G0 {op dst num into:Int} {args:LI} (hd:0<=dst/\dst<=900000000) (h:args.length<=10000100/\∀a∈args,0<=a/\a<=900000000):AJ (XL op dst num into args):=.mk' om om fun a ha=>by have:=h.2 a ha;omega
theorem Z28 {r:List Z8} {c:List Instr} (h:Rg c):Rg (Ep r c):=by
 cases r with
 | nil=>exact h
 | cons _ _=>exact h.snoc N4
section
variable {E:Type} {X:AI E} {ds:List Zb} {G:E->Nat->Prop} (hX:N2 X G) (hd:Xr ds)
include hX hd
mutual
theorem Z72:∀(s:Z5) {e:E} {q:Nat} {c:List Instr},wS ds s->G e q->q+4*s.sz<=900000000->E2 s->Rg c->Rg (U7 X ds e s c)
 | .mk op num into args kids,e,q,c,hw,hg,hq,hs,hc=>by
  have hl:=hX.len hg
  obtain ⟨h1,h2⟩:=(Ze9 _).1 hs
  have h1':args.length<=10000100/\∀a∈args,0<=a/\a<=900000000:=h1
  rw [Z5.sz] at hq
  rw [U7]
  split
  ·exact Z6u kids hw.2.2.2 hg om h2 h1' hc
  split
  ·rename_i h8
   obtain ⟨a,ha,ha2⟩:=(hw.2.2.1 h8).1
   have hkl:=Nx kids
   exact ON kids hw.2.2.2 hg om h2 (by rw [ha];exact ha2) (by rw [YC];omega) (hc.snoc (G0 om h1'))
  split
  ·exact hc.snoc (G0 om h1')
  split
  ·have h3:=hX.res hg (gI args 0)
   refine hc.snoc (.mk' om (by rw [ZX];omega) fun a ha=>?_)
   rcases Xl.1 ha with ha|ha
   ·have:=h1'.2 a ha;omega
   ·have:=h3.1 a ha;omega
  ·exact hc.snoc (G0 om h1')
theorem Z6u:∀(bs:List Z8) {e:E} {q:Nat} {c:List Instr} {args:LI},Jk ds bs->G e q->q+4*YW bs<=900000000->CY bs->args.length<=10000100/\(∀a∈args,0<=a/\a<=900000000)->Rg c->Rg (Qy X ds e args bs c)
 | [],e,q,c,args,_,_,_,_,_,hc=>by rw [Qy];exact hc
 | b::r,e,q,c,args,hw,hg,hq,hs,ha,hc=>by
  rw [YW] at hq
  have hl:=hX.len hg
  rw [Qy]
  exact Z6q r hw.2 hg om hs.2 ((GC b hw.1 hg om hs.1 (hc.snoc (G0 om ha))).snoc (Ii om ((Hx b).1 hs.1).2))
theorem Z6q:∀(bs:List Z8) {e:E} {q:Nat} {c:List Instr} {a:Nat},Jk ds bs->G e q->q+4*YW bs<=900000000->CY bs->Rg c->Rg (K0 X ds e a bs c)
 | [],e,q,c,a,_,_,_,_,hc=>by rw [K0];exact hc
 | b::r,e,q,c,a,hw,hg,hq,hs,hc=>by
  rw [YW] at hq
  have hl:=hX.len hg
  rw [K0]
  exact ((GC b hw.1 hg om hs.1 ((hc.snoc N4).aim a)).snoc (Ii om ((Hx b).1 hs.1).2)).aim _
theorem ON:∀(bs:List Z8) {e:E} {q:Nat} {k:Nat} {c:List Instr} {ts:LI} {es:List Nat} {num x:Int} {a:Nat},Jk ds bs->G e q->q+4*YW bs<=900000000->CY bs->0<=x/\x<=900000000->ts.length+bs.length<=300000000->Rg c->Rg (Ud X ds e num x a bs k c ts es)
 | [],e,q,k,c,ts,es,num,x,a,_,_,_,_,_,ht,hc=>by rw [Ud];exact (hc.fan _ ht).aims
 | b::r,e,q,k,c,ts,es,num,x,a,hw,hg,hq,hs,hx,ht,hc=>by
  rw [Yo] at ht
  rw [YW] at hq
  have hl:=hX.len hg
  have hp:=b.sz_eq
  rw [Ud]
  exact ON r hw.2 hg om hs.2 hx (by rw [ZX,Bk];omega) (Z28 ((GC b hw.1 (hX.arm hg x num k) om hs.1 (hc.app (Z29 (Gx hd num k) om hx))).snoc (Ii om ((Hx b).1 hs.1).2)))
theorem OS:∀(xs:List Z5) {e:E} {q:Nat} {c:List Instr},QO ds xs->G e q->q+4*Yw xs<=900000000->Fx xs->Rg c->Rg (UC X ds e xs c)
 | [],e,q,c,_,_,_,_,hc=>by rw [UC];exact hc
 | s::r,e,q,c,hw,hg,hq,hs,hc=>by
  rw [Yw] at hq
  have hp:=s.sz_pos
  rw [UC]
  refine OS r (q:=q+1) hw.2 ?_ om hs.2 (Z72 s hw.1 hg om hs.1 hc)
  split
  ·exact hX.up hg om
  ·exact hX.nxt hg
theorem GC:∀(b:Z8) {e:E} {q:Nat} {c:List Instr},wB ds b->G e q->q+4*b.sz<=900000004->E1 b->Rg c->Rg (flB X ds e b c)
 | .mk steps result,e,q,c,hw,hg,hq,hs,hc=>by
  rw [Z8.sz] at hq
  rw [flB]
  exact OS steps hw hg om hs.1 hc
end
end
theorem Zfd {ds:List Zb} (hd:Xr ds):N2 (XN ds) (fun e q=>e.1.length<=q/\∀v∈e.2,0<=v/\v<=q):=by
 refine ⟨fun h=>h.1,fun {e q} h x=>?_,fun {e q} h=>⟨by simp [XN];exact h.1,fun v hv=>?_⟩,fun h hq=>⟨by have:=h.1;omega,fun v hv=>by have:=h.2 v hv;omega⟩,fun {e q} h x num k=>⟨?_,fun v hv=>?_⟩⟩
 ·have h1:=Vj hd (gI e.1 x)
  have h2:0<=gI e.2 x/\gI e.2 x<=q:=if z:gI e.2 x=0 then om else h.2 _ (GH z)
  exact ⟨fun v hv=>by have:=Lz hv;omega,V6 (GM _ _) h1⟩
 ·rcases Xl.1 hv with hv|hv
  ·have:=h.2 v hv;omega
  ·rw [Xy.1 hv];omega
 ·have h1:=Vj hd (Cm ds num k)
  have h2:=h.1
  show (e.1.set _ _++XG _).length<=_
  rw [ZX,VQ,DO];omega
 ·have h1:=Vj hd (Cm ds num k)
  have h2:=h.1
  rcases Xl.1 hv with hv|hv
  ·rcases List.mem_or_eq_of_mem_set hv with hv|rfl
   ·have:=h.2 v hv;omega
   ·omega
  ·have:=Hg _ v hv;omega
def GB (B:List Nat):Ym:=fun b _=>b∈B
section
variable {w:World} {G:Ym} {B:List Nat}
end
section
variable {w:World} {G:Ym} {B:List Nat}
def Pp:Value->Hd
 | .slice a l c=>⟨a,l,c⟩
 | _=>⟨none,0,0⟩
abbrev av (y:Z24):AV:=.agg [.h (Pp y.dv),.h (Pp y.rv)]
end
def Z27 (B:List Nat) (m:Mem) (x:AV) (u:Value):Prop:=
 ∀w:World,(∀b∈B,∃cs e,w.heap[b]? = some (.cells cs e (0,0))/\∀o,cs[o]? = m b o)->RV w (GB B) x u
inductive El (bs:List Res):List AV->List AV->Prop
 | nil:El bs [] []
 | same {x as1 xs} (t:El bs as1 xs):El bs (x::as1) (x::xs)
 | gen {B m x a u as1 xs} (h:Res.own B m∈bs) (hr:Z27 B m x u) (ha:∀w G v,RV w G a v->v=u) (t:El bs as1 xs):El bs (a::as1) (x::xs)
section
variable {P:Program} {n:Nat} {ops:Array Oper} {B:Fr->List Res->Prop} {k:Nat} {F:Fr} {h:List Res}
end
section
variable {m m':Mem} {B:List Nat}
end
section
variable {w:World} {G:Ym} {B:List Nat}
end
def Ze4 (r:Int):Instr:=XL 23 0 0 0 [r]
def Ui (ds:List Zb) (rt:YE):List Instr:=flB (XN ds) ds (XG rt.params.length,XG rt.params.length) rt.body []++[Ze4 rt.body.result]
section
variable {ds:List Zb} {b:Bool}
end
section
variable {n:ZG} (hn:Xu n) (hz:JW n) (hbt:∀r∈n.routines,0<=W4 n r.params r.body)
include hn hz hbt
end
section
variable {N:Mem} {g o:Nat} {z:Int}
end
structure Zio (im:YA):Prop where
 decls:Z55 im.decls<=1000000000
 procs:im.procs.length<=4
 params:∀p∈im.procs,p.params.length<=1000000000
 lent:∀p∈im.procs,p.lent.length<=1000000000
 code:∀p∈im.procs,p.code.length<=2000
 args:∀p∈im.procs,∀x∈p.code,x.args.length<=10000200
 jumps:∀p∈im.procs,∀x∈p.code,x.jumps.length<=300000000
section
variable {n:ZG} (hz:JW n) (hB:Z3h n=true)
include hz hB
end
end Go.Abs
section
namespace Go.Abs
def Zr (c:List Instr) (i:Nat):Prop:=∃x,c[i]? = some x/\x.dst=0/\x.into=0
section
variable {c t:List Instr} {i j:Nat}
theorem Zr.lt (h:Zr c i):i<c.length:=by obtain ⟨x,hx,_⟩:=h;exact (Xh.1 hx).1
theorem Zr.new {x:Instr} (h1:x.dst=0) (h2:x.into=0):Zr (c++[x]) c.length:=⟨x,by simp,h1,h2⟩
theorem Zr.app (h:Zr c i):Zr (c++t) i:=by
 obtain ⟨x,hx,h1⟩:=h
 exact ⟨x,by rw [JV ((Xh.1 hx).1)];exact hx,h1⟩
theorem Zr.flB {E:Type} {X:AI E} {ds:List Zb} {e:E} {b:Z8} (h:Zr c i):Zr (flB X ds e b c) i:=by
 obtain ⟨t,ht⟩:=EJ X ds b e c
 rw [ht];exact h.app
theorem Zr.set {x y:Instr} (h:Zr c i) (hx:c[j]? = some x) (h1:y.dst=x.dst) (h2:y.into=x.into):Zr (c.set j y) i:=by
 obtain ⟨z,hz,h3,h4⟩:=h
 by_cases e:j=i
 ·subst e
  rw [hx] at hz
  cases hz
  exact ⟨y,by rw [List.getElem?_set_self (Xh.1 hx).1],h1.trans h3,h2.trans h4⟩
 ·exact ⟨z,by rw [List.getElem?_set_ne e];exact hz,h3,h4⟩
theorem Zr.aim (h:Zr c i):Zr (VH c j) i:=by
 rw [VH]
 split
 ·exact h
 ·rename_i x hx;exact h.set hx rfl rfl
theorem Zr.fan {js:LI} (h:Zr c i):Zr (Qg c j js) i:=by
 rw [Qg]
 split
 ·exact h
 ·rename_i x hx;exact h.set hx rfl rfl
end
theorem EN {c t:List Instr} {i:Nat} {x:Instr} (h:c[i]? = some x):(c++t)[i]? = some x:=by rw [JV (Xh.1 h).1];exact h
theorem Pm {c:List Instr} {i:Nat} {x:Instr} {E:Type} {X:AI E} {ds:List Zb} {e:E} {b:Z8} (h:c[i]? = some x):(flB X ds e b c)[i]? = some x:=by
 rw [Z6l X ds (Xh.1 h).1];exact h
theorem Z2m {c:List Instr} {i:Nat} {x:Instr} (h:c[i]? = some x):VH c i=c.set i (x.goto c.length):=by rw [VH,h]
theorem Z6e {c:List Instr} {i:Nat} {x:Instr} {js:LI} (h:c[i]? = some x):Qg c i js=c.set i (x.fan js):=by rw [Qg,h]
theorem Z2n {c:List Instr} {i:Nat} {x:Instr} (h:c[i]? = some x) (h1:x.dst=0) (h2:x.into=0):c.set i ⟨x.op,0,c.length,0,x.args,x.jumps⟩=VH c i:=by
 rw [Z2m h,Instr.goto,h1,h2]
theorem Z6f {c:List Instr} {i:Nat} {num:Int} {args js:LI} (h:c[i]? = some (XL 21 0 num 0 args)):c.set i ⟨21,0,num,0,args,js⟩=Qg c i js:=by
 rw [Z6e h];rfl
def QH (es:List Nat):LI:=es.map Int.ofNat
theorem Hk (es:List Nat):(QH es).length=es.length:=by simp [QH]
theorem Zcd {es:List Nat} {k e:Nat} (h:es[k]? = some e):(QH es)[k]? = some (e:Int):=by simp [QH,h]
theorem Zce (es:List Nat) (e:Nat):QH es++[(e:Int)]=QH (es++[e]):=by simp [QH]
theorem Re (m k:Nat) (x:Int):WG m (k+1) x=WG m k x++[XL 19 ((m+k:Nat):Int) (k:Int) 0 [x]]:=by simp [WG,List.range_succ]
theorem Ha (m k:Nat) (x:Int):(WG m k x).length=k:=by simp [WG]
theorem Z2p {es:List Nat} {k e:Nat} {c d:List Instr} (h:es[k]? = some e) (ha:TN c (es.drop k)=d):TN (VH c e) (es.drop (k+1))=d:=by rw [Yk h,TN] at ha;exact ha
theorem Z2o {es:List Nat} {k:Nat} {c d:List Instr} (h:es.length<=k) (ha:TN c (es.drop k)=d):c=d:=by rw [Xm h,TN] at ha;exact ha
section
variable {E:Type} {X:AI E} {ds:List Zb} {e:E}
theorem EK (s:Z5) (c:List Instr):U7 X ds e s c=(if s.op=7 then Qy X ds e s.args s.kids c
  else if s.op=8 then Ud X ds e s.num (gI s.args 0) c.length s.kids 0 (c++[XL 21 0 s.num 0 s.args]) [] []
  else if s.op=14∨s.op=15 then c++[XL s.op 0 0 0 s.args]
  else if s.op=16∨s.op=17 then c++[XL s.op 0 0 0 (s.args++X.res e (gI s.args 0))]
  else c++[XL s.op (X.len e) s.num s.into s.args]):=by cases s;rw [U7];rfl
theorem Z6y {s:Z5} {c:List Instr} {k0 k1:Z8} (h:s.op=7) (hk:s.kids=[k0,k1]):U7 X ds e s c =
  VH (flB X ds e k1 (VH ((flB X ds e k0 (c++[XL 20 0 0 0 s.args])++[XL 18 (X.len e) 0 0 [k0.result]])++[XL 22 0 0 0 []]) c.length)++[XL 18 (X.len e) 0 0 [k1.result]]) (flB X ds e k0 (c++[XL 20 0 0 0 s.args])++[XL 18 (X.len e) 0 0 [k0.result]]).length:=by
 rw [EK,Zk h,hk,Qy,K0]
theorem Z6z {s:Z5} {c:List Instr} (h:s.op=8):U7 X ds e s c=Ud X ds e s.num (gI s.args 0) c.length s.kids 0 (c++[XL 21 0 s.num 0 s.args]) [] []:=by
 rw [EK,Za om,Zk h]
theorem Z6v {s:Z5} {c:List Instr} (h:s.op=14∨s.op=15):U7 X ds e s c=c++[XL s.op 0 0 0 s.args]:=by
 rw [EK,Za om,Za om,Zk h]
theorem Z70 {s:Z5} {c:List Instr} (h:s.op=16∨s.op=17):U7 X ds e s c=c++[XL s.op 0 0 0 (s.args++X.res e (gI s.args 0))]:=by
 rw [EK,Za om,Za om,Za om,Zk h]
theorem Z6w {s:Z5} {c:List Instr} (h7:s.op≠7) (h8:s.op≠8) (h1:¬(s.op=14∨s.op=15)) (h2:¬(s.op=16∨s.op=17)):U7 X ds e s c=c++[XL s.op (X.len e) s.num s.into s.args]:=by
 rw [EK,Za h7,Za h8,Za h1,Za h2]
theorem Z6m (b:Z8) (c:List Instr):flB X ds e b c=UC X ds e b.steps c:=by cases b;rw [flB];rfl
theorem OT {xs:List Z5} {k:Nat} {s:Z5} {c d:List Instr} (h:xs[k]? = some s) (ha:UC X ds e (xs.drop k) c=d):UC X ds (if YO s.op=true then e else X.nxt e) (xs.drop (k+1)) (U7 X ds e s c)=d:=by
 rw [Yk h,UC] at ha;exact ha
theorem Z73 {xs:List Z5} {k:Nat} {c d:List Instr} (h:xs.length<=k) (ha:UC X ds e (xs.drop k) c=d):c=d:=by
 rw [Xm h,UC] at ha;exact ha
theorem Z6i {bs:List Z8} {num x:Int} {a k j:Nat} {c d:List Instr} {ts:LI} {es:List Nat} (h:bs.length<=k) (ha:Ud X ds e num x a (bs.drop k) j c ts es=d):TN (Qg c a ts) es=d:=by
 rw [Xm h,Ud] at ha;exact ha
theorem Z6j {bs:List Z8} {b:Z8} {num x:Int} {a k:Nat} {c d:List Instr} {ts:LI} {es:List Nat} (hb:bs[k]? = some b) (hl:k+1<bs.length) (ha:Ud X ds e num x a (bs.drop k) k c ts es=d) :
  Ud X ds e num x a (bs.drop (k+1)) (k+1) ((flB X ds (X.arm e x num k) b (c++WG (X.len e) (Wy ds num k).length x)++[XL 18 (X.len e) 0 0 [b.result]])++[XL 22 0 0 0 []]) (ts++[(c.length:Int)])
   (es++[(flB X ds (X.arm e x num k) b (c++WG (X.len e) (Wy ds num k).length x)++[XL 18 (X.len e) 0 0 [b.result]]).length])=d:=by
 rw [Yk hb,Ud] at ha
 rw [ZX (bs:=[XL 18 (X.len e) 0 0 [b.result]])]
 obtain ⟨y,hy⟩:=B1 (xs:=bs) (j:=k+1) om
 have hd:=Yk hy
 rw [hd] at ha ⊢
 exact ha
theorem Z6k {bs:List Z8} {b:Z8} {num x:Int} {a k:Nat} {c d:List Instr} {ts:LI} {es:List Nat} (hb:bs[k]? = some b) (hl:bs.length=k+1) (ha:Ud X ds e num x a (bs.drop k) k c ts es=d) :
  Ud X ds e num x a (bs.drop (k+1)) (k+1) (flB X ds (X.arm e x num k) b (c++WG (X.len e) (Wy ds num k).length x)++[XL 18 (X.len e) 0 0 [b.result]]) (ts++[(c.length:Int)]) es=d:=by
 rw [Yk hb,Ud] at ha
 rw [Xm om] at ha ⊢
 exact ha
end
end Go.Abs
namespace Go.Abs
theorem Ny:∀{bs:List Z8} {k:Nat} {b:Z8},bs[k]? = some b->YW (bs.take (k+1))=YW (bs.take k)+b.sz/\YW (bs.take k)+b.sz<=YW bs
 | [],_,_,h=>by simp at h
 | x::r,0,b,h=>by simp at h;subst h;simp [YW]
 | x::r,k+1,b,h=>by
  obtain ⟨h1,h2⟩:=Ny (bs:=r) (k:=k) (b:=b) (by simpa using h)
  simp only [AB,YW]
  omega
theorem Ze2 {c:List Instr} {k:Nat} {x:Instr} {m q R:Int} (h:c[k]? = some x) (hq:q=Kc m x) (ha:Up m (c.drop k)=R):Up q (c.drop (k+1))=R:=by
 subst hq;rw [Yk h] at ha;exact ha
theorem Ze1 {c:List Instr} {k:Nat} {m R:Int} (h:c.length<=k) (ha:Up m (c.drop k)=R):m=R:=by rw [Xm h] at ha;exact ha
theorem Zbx {l:LI} {j:Nat} {a m R:Int} (h:l[j]? = some a) (ha:(l.drop j).foldl (fun m a=>max m (a+1)) m=R):(l.drop (j+1)).foldl (fun m a=>max m (a+1)) (max m (a+1))=R:=by
 rw [Yk h] at ha;exact ha
theorem Zbw {l:LI} {j:Nat} {m R:Int} (h:l.length<=j) (ha:(l.drop j).foldl (fun m a=>max m (a+1)) m=R):m=R:=by rw [Xm h] at ha;exact ha
theorem Z21 (k:Nat) (h:k<=1000000000):TB (XG k):=fun f hf=>by have:=Hg k f hf;omega
theorem Ze0 (c:List Instr) (p:Nat):Up (p:Int) c=max (Up 0 c) (p:Int):=by rw [Zdz c om];omega
theorem WH {p:Prop} (h:p:=by first|omega|(simp only [Bs,Cx,ZX,Yo,YC,Ha,Hk,DO,VQ];omega)):p:=h
end Go.Abs
end
namespace Go.Abs
structure NTu (n:ZG):Prop where
 result:∀r∈n.routines,r.result<=(n.decls.length:Int)
 decl:∀d∈n.decls,d.cons.length=0->d.to_<=(n.decls.length:Int)
 fields:∀c,∀f∈ZP n.decls c,f<=(n.decls.length:Int)
section
variable {n:ZG} (hu:NTu n)
include hu
end

theorem Z5w {xs ys:LI} (h:xs.length=ys.length) (ha:∀i,i<xs.length->xs[i]? = ys[i]?):xs=ys:=List.ext_getElem? fun i=>by
 by_cases hi:i<xs.length
 ·exact ha i hi
 ·rw [Kl om,Kl om]

structure ZS (n:ZG) (q l:Nat):Prop where
 decls:AD n.decls
 len:1<=n.routines.length/\n.routines.length<=4
 rt:∀r∈n.routines,r.params.length<=3/\r.lent.length<=l/\r.body.sz<=q/\r.body.rng
 rb:∀r∈n.routines,r.body.rb
section
variable {n n2:ZG} (hd:n2.decls=n.decls) (hr:∀vars op num args,Ke n2 vars op num args=Ke n vars op num args)
include hd hr
end
section
variable {n:ZG}
end
noncomputable instance decBlock:DecidableEq Z8:=fun a b=>Classical.propDecidable (a=b)
noncomputable instance decStep:DecidableEq Z5:=fun a b=>Classical.propDecidable (a=b)
noncomputable instance decDecls:DecidableEq Zb:=fun a b=>Classical.propDecidable (a=b)
noncomputable instance decNormal:DecidableEq ZG:=fun a b=>Classical.propDecidable (a=b)
theorem Gs {α:Type} {xs ys:List α} (h:xs.length=ys.length) (ha:∀i,i<xs.length->xs[i]? = ys[i]?):xs=ys:=List.ext_getElem? fun i=>by
 by_cases hi:i<xs.length
 ·exact ha i hi
 ·rw [Kl om,Kl om]
theorem HZ {α:Type} {xs ys:List α} {k:Nat} {x y:α} (h:∀i,i<k->xs[i]? = ys[i]?) (hx:xs[k]? = some x) (hy:ys[k]? = some y) (e:x=y):∀i,i<k+1->xs[i]? = ys[i]?:=fun i hi=>
 (Nat.lt_succ_iff_lt_or_eq.1 hi).elim (h i) fun z=>by rw [z,hx,hy,e]
theorem HY {α:Type} {xs ys:List α}:∀i,i<0->xs[i]? = ys[i]?:=fun i h=>absurd h om
theorem Dg {α:Type} {xs ys:List α} {k:Nat} {x y:α} (hx:xs[k]? = some x) (hy:ys[k]? = some y) (e:x≠y):xs≠ys:=fun z=>by rw [z,hy] at hx;cases hx;exact e rfl
theorem Yd.ext1 {s t:Yd} (h1:s.fields=t.fields):s=t:=by cases s;cases t;simp at h1;rw [h1]
theorem Zb.ext3 {s t:Zb} (h1:s.frm=t.frm) (h2:s.to_=t.to_) (h3:s.cons=t.cons):s=t:=by cases s;cases t;simp at h1 h2 h3;rw [h1,h2,h3]

section
variable {ds:List Zb}
end
def Zaz (am:List Jp) (x:Int):Bool:=am.any fun o=>o.chg&&(o.mat==x)
def Ro (am:List Jp) (a:Jp) (b:Z8):Prop:=Zaz am a.mat=true∨(Vr b.steps a.mat<0∨WB b.steps a.fds.length<0)
instance (am:List Jp) (a:Jp) (b:Z8):Decidable (Ro am a b):=by unfold Ro;infer_instance

section
variable {ds:List Zb}
end
section
variable {n:ZG}
end
section
variable {ds:List Zb}
end
structure CR2 (c d:LI):Prop where
 l1:c.length=4
 l2:d.length=4
 a:gI c 0=gI d 0
 b:gI c 1=gI d 1
 s:gI c 2+gI c 3=gI d 2+gI d 3
section
variable {ds:List Zb}
end
section
variable {ds:List Zb}
end

structure Zil (n:ZG) (r:YE) (k:Nat) (L:ZK):Prop where
 ok:XI n.decls L (1+4*r.body.sz)
 pre:∃ws,L.vars=r.params++ws
 len:L.vars.length<=r.params.length+r.body.sz
 ty:∀s,r.body.steps[k]? = some s->0<=YZ n L.vars s
end Go.Abs
section
namespace Go.Abs
section
variable {n n2:ZG} (hd:n2.decls=n.decls) (hr:∀vars op num args,Ke n2 vars op num args=Ke n vars op num args) (hl:∀op num,DK n2 op num=DK n op num)
include hd hr hl
omit hd hr in
omit hd hr in
omit hr in
end
end Go.Abs
namespace Go.Abs
end Go.Abs
end
namespace Go.Abs
section
variable {ds:List Zb}
end
section
variable {n:ZG}
end
structure SC (f g:Int->Nat) (same:Prop):Prop where
 a:f 14<=g 14
 c:g 16<=f 16
 d:f 17=g 17
 e:f 16=g 16->same
section
variable {ds:List Zb}
end
def TH (r:Int):LI->Bool
 | []=>true
 | a::t=>if 0<=a/\a<=r-1 then TH r t else false
def Wf (k len:Int):LI->Bool
 | []=>true
 | j::t=>if k+1<=j/\j<=len-1 then Wf k len t else false
def Ty (op:Int):Bool:=decide ((0<=op/\op<=11/\op≠7/\op≠8)∨op=18∨op=19)
def UV (im:YA) (num:Int) (n more:Nat):Bool:=((V0 im.procs num).map fun p=>decide (p.params.length=n+more)).getD false
def Ar (im:YA) (num:Int):Bool:=((V0 im.procs num).map fun p=>decide (p.lent.length=0)).getD false
def We (im:YA) (p:ZT) (k:Nat) (x:Instr):Bool:=
 if x.op=0 then decide (x.args.length=0/\(-999<=x.num/\x.num<=999))
 else if x.op=1∨x.op=2∨x.op=3∨x.op=4∨x.op=11 then decide (x.args.length=2/\x.num=0)
 else if x.op=5∨x.op=14∨x.op=15∨x.op=18∨x.op=23 then decide (x.args.length=1/\x.num=0)
 else if x.op=6 then decide (0<Wm im.decls x.num/\x.args.length=(ZP im.decls x.num).length/\0<=x.into/\x.into<=p.regs)
 else if x.op=9∨x.op=24 then UV im x.num x.args.length 0
 else if x.op=10 then UV im x.num x.args.length 1&&Ar im x.num
 else if x.op=16∨x.op=17 then decide ((1<=x.args.length/\x.args.length<=4)/\x.num=0)
 else if x.op=19 then decide (x.args.length=1/\0<=x.num/\x.num<=2)
 else if x.op=20 then decide (x.args.length=1/\(k:Int)+1<=x.num/\x.num<=(p.code.length:Int)-1)
 else if x.op=22 then decide (x.args.length=0/\(k:Int)+1<=x.num/\x.num<=(p.code.length:Int)-1)
 else if x.op=21 then decide (x.args.length=1/\0<(ZZ im.decls x.num).length/\x.jumps.length=(ZZ im.decls x.num).length)&&Wf k p.code.length x.jumps
 else false
def Ug (im:YA) (p:ZT) (k:Nat) (x:Instr):Bool:=
 TH p.regs x.args&&(decide ((0<=x.dst/\x.dst<=p.regs-1)/\(x.dst=0∨Ty x.op=true)/\(x.into=0∨x.op=6)/\(x.op=21∨x.jumps.length=0))&&We im p k x)
def QD (im:YA) (p:ZT):List Instr->Nat->Bool
 | [],_=>true
 | x::r,k=>if Ug im p k x=true then QD im p r (k+1) else false
def LV (c:List Instr):Bool:=((c.getLast?).map fun x=>decide (x.op=23∨x.op=24)).getD false
def Tu (im:YA) (p:ZT):Bool:=
 Ur p.params p.lent&&(decide ((1<=p.regs/\(p.params.length:Int)<=p.regs/\p.regs<=2000)/\1<=p.code.length/\p.code.length<=2000)&&(QD im p p.code 0&&LV p.code))
def Tv (im:YA):List ZT->Bool
 | []=>true
 | p::r=>if Tu im p=true then Tv im r else false
def Uv (p:ZT):Sg:=⟨p.params,p.result⟩
def VK (im:YA):Bool:=decide (im.procs.length<=4)&&(UO im.decls (im.procs.map Uv)&&Tv im im.procs)
theorem Hs {im:YA}:∀{l:List ZT},Tv im l=true↔∀p∈l,Tu im p=true
 | []=>by simp [Tv]
 | p::r=>by
  rw [Tv]
  split
  ·rename_i h;rw [Hs (l:=r)];simp [h]
  ·rename_i h;simp [h]
theorem PK {im:YA} {p:ZT}:∀{l:List Instr} {k j:Nat} {x:Instr},QD im p l k=true->l[j]? = some x->Ug im p (k+j) x=true
 | [],k,j,x,_,hx=>by simp at hx
 | y::r,k,j,x,h,hx=>by
  rw [QD] at h
  split at h
  ·rename_i h1
   cases j with
   | zero=>simp at hx;subst hx;exact h1
   | succ j=>have:=PK (k:=k+1) h (by simpa using hx);rwa [show k+(j+1)=k+1+j by omega]
  ·cases h
theorem PY {k len:Int}:∀{l:LI},Wf k len l=true↔∀j∈l,k+1<=j/\j<=len-1
 | []=>by simp [Wf]
 | j::t=>by
  rw [Wf]
  split
  ·rename_i h;rw [PY (l:=t)];simp [h]
  ·rename_i h;simp [h]
theorem Sj {r:Int}:∀{l:LI},TH r l=true↔∀a∈l,0<=a/\a<=r-1
 | []=>by simp [TH]
 | j::t=>by
  rw [TH]
  split
  ·rename_i h;rw [Sj (l:=t)];simp [h]
  ·rename_i h;simp [h]
theorem GV {im:YA} (h:VK im=true) {f k:Nat} {p:ZT} {x:Instr} (hp:im.procs[f]? = some p) (hx:p.code[k]? = some x):Tu im p=true/\Ug im p k x=true:=by
 rw [VK,Xb,Xb] at h
 have h1:=Hs.1 h.2.2 p (Y3 hp)
 refine ⟨h1,?_⟩
 rw [Tu,Xb,Xb,Xb] at h1
 have:=PK h1.2.2.1 hx
 rwa [Wj] at this
theorem Zas {im:YA} {p:ZT} {k:Nat} {x:Instr} (h:Ug im p k x=true) (ho:x.op=20∨x.op=22):(k:Int)<x.num/\x.num<p.code.length:=by
 rw [Ug,Xb,Xb] at h
 have h2:=h.2.2
 rcases ho with ho|ho
 ·simp only [We,ho] at h2
  have h2:=of_decide_eq_true (by simpa using h2:decide (x.args.length=1/\(k:Int)+1<=x.num/\x.num<=(p.code.length:Int)-1)=true)
  omega
 ·simp only [We,ho] at h2
  have h2:=of_decide_eq_true (by simpa using h2:decide (x.args.length=0/\(k:Int)+1<=x.num/\x.num<=(p.code.length:Int)-1)=true)
  omega
theorem Zar {im:YA} {p:ZT} {k:Nat} {x:Instr} (h:Ug im p k x=true) {j:Int} (hj:j∈x.jumps):(k:Int)<j/\j<p.code.length:=by
 rw [Ug,Xb,Xb,decide_eq_true_eq] at h
 have h3:=h.2.1.2.2.2
 have ho:x.op=21:=by
  rcases h3 with h3|h3
  ·exact h3
  ·rw [List.eq_nil_of_length_eq_zero h3] at hj;cases hj
 have h2:=h.2.2
 have e:We im p k x=(decide (x.args.length=1/\0<(ZZ im.decls x.num).length/\x.jumps.length=(ZZ im.decls x.num).length)&&Wf k p.code.length x.jumps):=by simp [We,ho]
 rw [e,Xb] at h2
 have:=PY.1 h2.2 j hj
 omega
def Q0 (c:List Instr):Nat->Nat->Int->Bool
 | 0,_,_=>false
 | f+1,k,reg=>match c[k]? with
  | none=>false
  | some i=>if i.op=18/\gI i.args 0=reg then Q0 c f (k+1) i.dst else if i.op=22 then Q0 c f i.num.toNat reg else decide (i.op=23/\gI i.args 0=reg)
def fwd (c:List Instr):Prop:=∀(k:Nat) (i:Instr),c[k]? = some i->i.op=22->(k:Int)<i.num
theorem Hz {c:List Instr} (hf:fwd c):∀(f g k:Nat) (reg:Int),c.length<f+k->c.length<g+k->Q0 c f k reg=Q0 c g k reg
 | 0,0,k,reg,_,_=>rfl
 | 0,g+1,k,reg,h,_=>by rw [Q0,Q0,Kl om]
 | f+1,0,k,reg,_,h=>by rw [Q0,Q0,Kl om]
 | f+1,g+1,k,reg,h,h'=>by
  rw [Q0,Q0]
  cases hc:c[k]? with
  | none=>rfl
  | some i=>
   simp only
   split
   ·exact Hz hf f g (k+1) i.dst om om
   ·split
    ·rename_i h22
     have:=hf k i hc h22
     exact Hz hf f g i.num.toNat reg om om
    ·rfl
def Th (c:List Instr) (k:Nat) (reg:Int):Bool:=Q0 c (c.length+1) k reg
theorem Zej {c:List Instr} (hf:fwd c) {k:Nat} {reg:Int} {i:Instr} (hi:c[k]? = some i) (h:i.op=18/\gI i.args 0=reg):Th c (k+1) i.dst=Th c k reg:=by
 have hl:=(Xh.1 hi).1
 have e:Th c k reg=Q0 c c.length (k+1) i.dst:=by
  rw [Th,Q0,hi]
  simp only [Zk h]
 rw [e]
 exact Hz hf _ _ _ _ om om
theorem SJ {c:List Instr} (hf:fwd c) {k:Nat} {reg:Int} {i:Instr} (hi:c[k]? = some i) (h:i.op=22):Th c i.num.toNat reg=Th c k reg:=by
 have hl:=(Xh.1 hi).1
 have e:Th c k reg=Q0 c c.length i.num.toNat reg:=by
  rw [Th,Q0,hi]
  simp only
  rw [Za om,Zk h]
 rw [e]
 have:=hf k i hi h
 exact Hz hf _ _ _ _ om om
theorem BZ {c:List Instr} {k:Nat} {reg:Int} {i:Instr} (hi:c[k]? = some i) (h1:¬(i.op=18/\gI i.args 0=reg)) (h2:¬i.op=22):decide (i.op=23/\gI i.args 0=reg)=Th c k reg:=by
 rw [Th,Q0,hi]
 simp only [Za h1,Za h2]
theorem Hy {c:List Instr} {k:Nat} {reg:Int} (h:c.length<=k):false=Th c k reg:=by
 rw [Th,Q0,Kl h]
def Ay (c:List Instr) (k:Nat) (x:Instr):Instr:=if x.op=9/\Th c (k+1) x.dst=true then ⟨24,0,x.num,0,x.args,x.jumps⟩ else x
def Jg (c:List Instr):List Instr->Nat->List Instr
 | [],_=>[]
 | x::r,k=>Ay c k x::Jg c r (k+1)
def QL (c:List Instr):List Instr:=Jg c c 0
def Ef (p:ZT):ZT:=⟨p.params,p.lent,p.result,p.regs,QL p.code⟩
def FG (im:YA):YA:=⟨im.decls,im.procs.map Ef⟩
theorem MM (c:List Instr):∀(xs:List Instr) (k:Nat),(Jg c xs k).length=xs.length
 | [],_=>rfl
 | x::r,k=>by rw [Jg,Yo,Yo,MM c r]
theorem Z1h (c:List Instr):(QL c).length=c.length:=MM c c 0
theorem HU {c:List Instr}:∀{xs:List Instr} {k j:Nat},(Jg c xs k)[j]? = (xs[j]?).map (Ay c (k+j))
 | [],k,j=>by simp [Jg]
 | x::r,k,0=>by simp [Jg]
 | x::r,k,j+1=>by
  rw [Jg,List.getElem?_cons_succ,List.getElem?_cons_succ,HU (xs:=r)]
  rw [show k+1+j=k+(j+1) by omega]
theorem Zhk {c:List Instr} {k:Nat}:(QL c)[k]? = (c[k]?).map (Ay c k):=by rw [QL,HU,Wj]
theorem Zhl (c:List Instr) (k:Nat) (x:Instr):Ay c k x=x∨(x.op=9/\Ay c k x=⟨24,0,x.num,0,x.args,x.jumps⟩):=by
 unfold Ay
 split
 ·rename_i h;exact .inr ⟨h.1,rfl⟩
 ·exact .inl rfl
theorem Z1i {c xs:List Instr} {k:Nat} {x:Instr} (h:xs[k]? = some x):Jg c (xs.take k) 0++[Ay c k x]=Jg c (xs.take (k+1)) 0:=by
 apply List.ext_getElem?
 intro j
 have hl:=(Xh.1 h).1
 have hk:(Jg c (xs.take k) 0).length=k:=by rw [MM,Wi];omega
 rw [HU,Wj,V5 h]
 by_cases hj:j<k
 ·rw [JV om,JV (by rw [Wi];omega),HU,Wj]
 ·by_cases e:j=k
  ·subst e
   rw [D8 om,hk,D8 (by rw [Wi];omega)]
   rw [Wi,Uc om]
   simp
  ·rw [Kl (by rw [ZX,hk];simp;omega),Kl (by rw [ZX,Wi];simp;omega)];rfl
end Go.Abs
