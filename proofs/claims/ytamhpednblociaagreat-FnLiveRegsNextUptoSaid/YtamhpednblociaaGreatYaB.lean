/-
  A part of the proofs of several laws (see the last file): no condition.
-/
import Derived.Test.YtamhpednblociaaGreatYaA
import Derived.Test.YtamhpednblociaaGreatRows
import Derived.Deep.Slices
import Derived.ChangeArms
set_option linter.all false
set_option linter.unusedVariables false
set_option linter.unusedSimpArgs false
set_option linter.unusedSectionVars false
set_option maxRecDepth 10000
set_option maxHeartbeats 4000000
section
namespace Go.Abs
theorem YJ.rgrow {w:World} {G:Yl} {h2:List Res} {g len len' cap k:Nat} {ls ls':List AV} (hh:YJ w G (.row (.slice (some ⟨g,0,none⟩) len cap) k ls::h2)) {cs cs':Array Value} {e:TypeId}
  (hb:w.heap[g]? = some (.cells cs e (0,0))) (XT:cs'.size=cs.size) (hle:len'<=cap) (hcap:cs.size=cap*k) (hl:ls'.length=len'*k) (hls:YS w G ls' (cs'.toList.take (len'*k))) :
  YJ (w.setRow g cs') G (.row (.slice (some ⟨g,0,none⟩) len' cap) k ls'::h2) /\
   X7 w G (.row (.slice (some ⟨g,0,none⟩) len cap) k ls::h2) (w.setRow g cs') G (.row (.slice (some ⟨g,0,none⟩) len' cap) k ls'::h2):=by
 have hmem:Res.row (.slice (some ⟨g,0,none⟩) len cap) k ls∈Res.row (.slice (some ⟨g,0,none⟩) len cap) k ls::h2:=Xo ..
 have hA:U5 G w (w.setRow g cs') G:=⟨fun c j hg=>by
  have hne:c≠g:=fun he=>hh.prot _ hmem c j he hg
  simp [World.cell?,VS w g c cs' hne],fun _ _ h=>h⟩
 have e1:X7 w G [.row (.slice (some ⟨g,0,none⟩) len cap) k ls] (w.setRow g cs') G [.row (.slice (some ⟨g,0,none⟩) len' cap) k ls']:=by
  refine ⟨rfl,rfl,rfl,by simp [World.setRow],fun _ _ h=>h,?_,fun _ _ _ h=>.inl h,?_⟩
  ·intro c hc
   by_cases hcb:c=g
   ·subst hcb
    exact .inr ⟨cs,cs',e,(0,0),hb,setRow_heap w c cs cs' e (0,0) hb,XT,fun j hj=>absurd ⟨_,Xo ..,rfl⟩ hj⟩
   ·exact .inl (VS w g c cs' hcb)
  ·rintro c j _ ⟨r,hr,hf⟩
   rw [Xy.1 hr] at hf
   exact ⟨_,Xo ..,hf⟩
 have e2:YJ (w.setRow g cs') G [.row (.slice (some ⟨g,0,none⟩) len' cap) k ls']:=by
  refine ⟨fun r hr=>?_,Ei _ _,fun r hr c j hf hg=>?_,fun c j hg=>?_⟩
  ·rw [Xy.1 hr]
   exact .inr ⟨g,len',cap,cs',e,rfl,setRow_heap w g cs cs' e (0,0) hb,hle,XT.trans hcap,hl,hls.mono hA⟩
  ·rw [Xy.1 hr] at hf
   exact hh.prot _ hmem c j hf hg
  ·have:=hh.lt c j hg
   simpa [World.setRow] using this
 exact YJ.frame (h:=[.row (.slice (some ⟨g,0,none⟩) len cap) k ls]) (k:=h2) hh e1 e2
section
variable {P:Program} {n:Nat} {ops:Array Oper} {k:Nat} {F:Fr} {h2:List Res}
theorem RJ {K:Fr->List Res->Prop} {v:Hd} {sz m:Nat} {ls xs:List AV} {hx:Option Value} (hd:VT n (ZV ops k)=true) (ha:TZ P ops F k=some (.val v.v,.sl xs hx,sz))
  (hxs:∀y∈xs,y.leaves.length=sz) (hone:(Zc xs).all AV.one=true) (hm0:ls.length=m*sz) (hk0:0<sz) (hne:xs≠[]) (hbound:m+xs.length<=4294967296)
  (hK:∀v':Hd,K (F.put (ZV ops k).dst (.val v'.v)) (.row v'.v sz (ls++Zc xs)::h2)):WV P n (ZV ops k) F (.row v.v sz ls::h2) K:=by
 unfold TZ at ha
 generalize hoo:ZV ops k=o at ha hd hK
 obtain ⟨dst,op,type,pos,after,guard⟩:=o
 cases op<;>simp only at ha<;>try (cases ha)
 rename_i c
 obtain ⟨callee,args,tys⟩:=c
 simp only at ha
 split at ha
 case h_2=>cases ha
 rename_i s x t t' hargs htys
 split at ha
 case h_2=>cases ha
 rename_i e htt ht
 have:=T8 htt
 subst this
 split at ha
 case h_2=>cases ha
 rename_i i hinfo
 split at ha
 case h_2=>cases ha
 rename_i z hz
 split at ha
 case h_2=>cases ha
 rename_i hb
 simp only [Xg] at hb
 simp only [WF,Prod.mk.injEq] at ha
 obtain ⟨h3,h4,hk1⟩:=ha
 have e1:args=#[s,x]:=by rw [<-TH (xs:=args),hargs]
 have e2:tys=#[t,t]:=by rw [<-TH (xs:=tys),htys]
 subst e1;subst e2
 have hzs:z.cells.size=sz:=by rw [T8 hb.1,hk1]
 have hby:=Vj hb.2
 have hfl:=TO xs hxs
 intro Q w G a hF hh
 have v1:=hF.ev s
 have v2:=hF.ev x
 rw [h3] at v1
 rw [h4] at v2
 have v1:=v1.val_inv
 have v2:=v2.forget
 have finish:∀(v':Hd) w',(Builtin.append_ #[t,t] type #[v.v,a.eval x]).run P w=.ok v'.v w'->YJ w' G (.row v'.v sz (ls++Zc xs)::h2)->X7 w G (.row v.v sz ls::h2) w' G (.row v'.v sz (ls++Zc xs)::h2) ->
   ({ dst:=dst,op:=.call { callee:=.builtin .append,args:=#[s,x],argTypes:=#[t,t] },type:=type,pos:=pos,after:=after,guard:=guard }:Oper).wp P a w
    (fun a' w'=>∃F' h' G',K F' h'/\FR w' G' n F' a'/\YJ w' G' h'/\X7 w G (.row v.v sz ls::h2) w' G' h') Q:=by
  intro v' w' hr j1 j2
  have hrun:(execOp a.eval { dst:=dst,op:=.call { callee:=.builtin .append,args:=#[s,x],argTypes:=#[t,t] },type:=type,pos:=pos,after:=after,guard:=guard }).run P w=.ok (.value v'.v) w':=by
   simp only [execOp,resolve,invoke,builtin,Sem.run_bind,Sem.run_pure,Result.andThen_ok,Ft,Tu,Fs,v1,hr]
  unfold Oper.wp
  rw [hrun]
  exact ⟨_,_,G,hK v',(hF.mono (j2.agree hh)).put (Q0 hd) .val,j1,j2⟩
 have hrow0:=hh.ok (.row v.v sz ls) (Xo ..)
 have hsub2:∀r:Res,List.Sublist (r::h2) (r::.row v.v sz ls::h2):=fun r=>List.Sublist.cons_cons _ (C8 _ _)
 have grown:∀(olds news:List Value) (old:Nat),YS w G ls olds->YS w G (Zc xs) news ->
   YJ (w.drew.alloc (.cells (olds.toArray++news.toArray++Builtin.zeroCells z.cells (grownCap w (m+xs.length) old e-(m+xs.length))) e)) G
    (.row (.slice (some ⟨w.heap.size,0,none⟩) (m+xs.length) (grownCap w (m+xs.length) old e)) sz (ls++Zc xs)::h2) /\
   X7 w G (.row v.v sz ls::h2) (w.drew.alloc (.cells (olds.toArray++news.toArray++Builtin.zeroCells z.cells (grownCap w (m+xs.length) old e-(m+xs.length))) e)) G
    (.row (.slice (some ⟨w.heap.size,0,none⟩) (m+xs.length) (grownCap w (m+xs.length) old e)) sz (ls++Zc xs)::h2):=by
  intro olds news old ho hn
  have Xp:=grownCap_ge w (m+xs.length) old e
  have hol:=ho.length
  have hnl:=hn.length
  have hlen:(ls++Zc xs).length=(m+xs.length)*sz:=by rw [Yr,hm0,hfl,TV]
  obtain ⟨j1,j2⟩:=hh.drew.alloc_rrow (olds.toArray++news.toArray++Builtin.zeroCells z.cells (grownCap w (m+xs.length) old e-(m+xs.length))) e
   (ls:=ls++Zc xs) (len:=m+xs.length) (cap:=grownCap w (m+xs.length) old e) (k:=sz) Xp
   (by
    have q2:(grownCap w (m+xs.length) old e-(m+xs.length))*sz=grownCap w (m+xs.length) old e*sz-(m+xs.length)*sz:=Nat.sub_mul ..
    have q3:(m+xs.length)*sz<=grownCap w (m+xs.length) old e*sz:=Jl _ Xp
    have q4:(m+xs.length)*sz=m*sz+xs.length*sz:=TV ..
    simp only [Array.size_append,Fu,size_zeroCells,hzs,hol,hnl,hm0,hfl]
    omega) hlen
   (by
    have:(olds.toArray++news.toArray++Builtin.zeroCells z.cells (grownCap w (m+xs.length) old e-(m+xs.length))).toList.take ((m+xs.length)*sz)=olds++news:=by
     simp only [HQ]
     rw [<-hlen,Yr,<-hol,<-hnl,<-Yr]
     exact JQ
    rw [this]
    exact (ho.append hn).mono (Bp w G))
  exact ⟨j1.sub (hsub2 _),(X7.drew w G _).trans (j2.sub' (hsub2 _))⟩
 generalize hax:a.eval x=ax at v2 finish
 cases v2 with
 | nil _=>exact absurd rfl hne
 | sl hq hcc hm=>
  rename_i b o' k' c
  have hpos:0<xs.length:=C7.2 hne
  have hfm:=hm.flat_mem
  obtain ⟨news,hn,hnc⟩:=hfm.cells
  have hnl:news.length=xs.length*i.size:=by rw [hn.length,hfl,hk1]
  have hone':=hn.one_cells hone
  have hnews:∀j u,news[j]? = some u->w.cell? ((⟨b,o',none⟩:Addr).add j)=some u:=fun j u hj=>by rw [Jn];exact (hnc j u hj).1
  have hbb:(m+xs.length)*i.bytes<=140737488355328:=by
   have:=Nat.mul_le_mul hbound hby
   omega
  rcases hrow0 with ⟨hv0,hl0⟩|⟨g,len,cap,cur,el,hv0,hrow,hlc,hcur,hll,hcells⟩
  ·subst hl0
   have hm1:m=0:=by
    have:m*sz=0:=by simpa using hm0.symm
    rcases Nat.mul_eq_zero.1 this with h|h
    ·exact h
    ·omega
   subst hm1
   rw [hv0] at finish hh ⊢
   have hr:=run_append_nil (P:=P) w t type e i z ht hinfo hz ⟨b,o',none⟩ xs.length c news hnl hnews hpos om (by simp only [Wr] at hbb;omega)
   obtain ⟨j1,j2⟩:=grown [] news 0 .nil hn
   simp only [Wr,Array.empty_append,D9] at j1 j2
   rw [hv0] at j2
   exact finish ⟨some ⟨w.heap.size,0,none⟩,xs.length,grownCap w xs.length 0 e⟩ _ hr (by simpa using j1) (by simpa using j2)
  ·have hlm:len=m:=HS hk0 (hll.symm.trans hm0)
   subst hlm
   rw [hv0] at finish hh ⊢
   have q5:len*sz<=cap*sz:=Jl _ hlc
   have h1:(cur.toList.take (len*sz)).length=len*sz:=by rw [Wo,JO,hcur,U4 q5]
   have hcl:cur.toList.length=cap*sz:=by rw [JO,hcur]
   by_cases hroom:len+xs.length<=cap
   ·have q1:(len+xs.length)*sz<=cap*sz:=Jl _ hroom
    have q2:(len+xs.length)*sz=len*sz+xs.length*sz:=TV ..
    have hfit:len*i.size+news.length<=cur.size:=by rw [hnl,hcur,hk1];omega
    have hr:=Ms (P:=P) w t type e el i ht hinfo g len cap cur hrow ⟨b,o',none⟩ xs.length c news hnl hnews hone' hroom hfit
    rw [hk1] at hr
    have hnl':news.length=xs.length*sz:=by rw [hnl,hk1]
    obtain ⟨j1,j2⟩:=hh.rgrow (ls':=ls++Zc xs) (len':=len+xs.length) (cs':=(cur.toList.take (len*sz)++news++cur.toList.drop (len*sz+news.length)).toArray) hrow
     (by simp only [Fu,Yr,h1,hnl',HR,hcl,hcur];omega) hroom hcur (by rw [Yr,hll,hfl,q2]) (by
      have:(cur.toList.take (len*sz)++news++cur.toList.drop (len*sz+news.length)).toArray.toList.take ((len+xs.length)*sz)=cur.toList.take (len*sz)++news:=by
       rw [Fv,q2,<-hnl']
       conv=>lhs;arg 1;rw [show len*sz+news.length=(cur.toList.take (len*sz)++news).length from by rw [Yr,h1]]
       exact JQ
      rw [this]
      exact hcells.append hn)
    exact finish ⟨some ⟨g,0,none⟩,len+xs.length,cap⟩ _ hr j1 j2
   ·have hr:=run_append_grow (P:=P) w t type e i z ht hinfo hz ⟨g,0,none⟩ len cap (cur.toList.take (len*sz)) (by rw [hk1];exact h1) (fun j u hj=>by
     rw [Jn,cell_of_row w g _ cur el (0,0) hrow]
     rw [Qx] at hj
     split at hj
     ·simpa using hj
     ·cases hj) ⟨b,o',none⟩ xs.length c news hnl hnews om om (growslice_fits om hbb)
    obtain ⟨j1,j2⟩:=grown (cur.toList.take (len*sz)) news cap hcells hn
    rw [hv0] at j2
    exact finish ⟨some ⟨w.heap.size,0,none⟩,len+xs.length,grownCap w (len+xs.length) cap e⟩ _ hr j1 j2
end
section
variable {P:Program} {n:Nat} {ops:Array Oper} {B:Fr->List Res->Prop} {k:Nat} {F:Fr} {h:List Res}
theorem Gx (j m:Nat) (v:Hd) (sz:Nat) (ls xs:List AV) (hx:Option Value) (hm0:ls.length=m*sz) (hxs:∀y∈xs,y.leaves.length=sz) (hone:(Zc xs).all AV.one=true) (hne:xs≠[]) (hbound:m+xs.length<=4294967296)
  (hK:∀v':Hd,SI P n ops B (k+1) (F.put (ZV ops k).dst (.h v')) (rK v' sz (ls++Zc xs)::Xx [j] h)) (hk0:0<sz:=by omega)
  (hk:Xq n ops F k=true:=by kernel_rfl) (ha:TZ P ops F k=some (.h v,.sl xs hx,sz):=by kernel_rfl) (hp:W8 [j] h=some [rK v sz ls]:=by kernel_rfl):SI P n ops B k F h:=
 Qo hk (WV.perm (Us (VQ hp)) (RJ (Uz hk).2.1 ha hxs hone hm0 hk0 hne hbound hK))
end
end Go.Abs
namespace Go.Abs
section
variable {P:Program} {n:Nat} {ops:Array Oper} {B:Fr->List Res->Prop} {T:List (Nat × List Nat)} {fuel:Nat} {done:List Nat} {F:Fr} {h:List Res}
theorem Ir (i j m:Nat) (js bs:List Nat) (v:Hd) (sz:Nat) (ls xs:List AV) (hx:Option Value) (hm0:ls.length=m*sz) (hxs:∀y∈xs,y.leaves.length=sz) (hone:(Zc xs).all AV.one=true) (hne:xs≠[]) (hbound:m+xs.length<=4294967296)
  (hK:∀v':Hd,Xa P n ops B (T.filter fun t=>!Vw ops i t.1) fuel (done++[i]) (F.put (ZV ops i).dst (.h v')) (rK v' sz (ls++Zc xs)::Xx [j] h)) (hk0:0<sz:=by omega) (hk:Xq n ops F i=true:=by kernel_rfl)
  (ha:TZ P ops F i=some (.h v,.sl xs hx,sz):=by kernel_rfl) (hp:W8 [j] h=some [rK v sz ls]:=by kernel_rfl) (ho:UO ops i T=bs:=by kernel_rfl)
  (hj:js.map (fun q=>(Va (Xx [j] h))[q]?)=bs.map some:=by kernel_rfl):U6 P n ops B T fuel done F h i:=
 A7 [j] js bs hk (VQ hp) ho hj (RJ (h2:=[]) (Uz hk).2.1 ha hxs hone hm0 hk0 hne hbound hK)
end
theorem V7.form {P:Program} {f:FuncId} {as1:List AV} {h0:List Res} {T:Hd->AV} {kk m:Nat} {ls:List AV} {hs:List Res} (H:V7 P f as1 h0 (fun r h=>∃v:Hd,r=T v/\h=rK v kk ls::hs)) (hm:ls.length=m*kk) (hk:0<kk) (h1:0<m) :
  V7 P f as1 h0 (fun r h=>∃(g c:Nat),r=T ⟨some ⟨g,0,none⟩,m,c⟩/\h=rK ⟨some ⟨g,0,none⟩,m,c⟩ kk ls::hs):=by
 intro w G vs hv hh
 refine (H w G vs hv hh).mono ?_
 rintro e w' ⟨u,r,h',G',he,⟨v,rfl,rfl⟩,hr,hh',hx⟩
 obtain ⟨g,c,rfl⟩:=Mm (hh'.ok _ (Xo ..)) hm hk h1
 exact ⟨u,_,_,G',he,⟨g,c,rfl,rfl⟩,hr,hh',hx⟩
end Go.Abs
namespace Go.Abs
section
variable {h:List Res}
theorem Zhg (j i p:Nat) {u:Value} {kk b:Nat} {es ls:List AV} (hp:W8 [j,i] h=some [.row u kk (Zc es),.obj b ls]) (hes:∀y∈es,y.leaves.length=kk) (hk:0<kk) (hl:ls[p]? = some (.val u)) :
  Vc h (.obj b (ls.set p (.sl es (some u)))::.tail u kk::Xx [j,i] h):=by
 intro w G hh
 have hp':=Us (VQ hp)
 have hh':=hh.perm hp'
 obtain ⟨G',h1,h2',h3⟩:=E1 (h2:=.obj b ls::Xx [j,i] h) hh' hes hk
 have e:=h2'.perm hp'.symm (TI _)
 have h1:YJ w G' (.tail u kk::.obj b ls::Xx [j,i] h):=h1
 have perm:(Res.tail u kk::.obj b ls::Xx [j,i] h).Perm (.obj b ls::.tail u kk::Xx [j,i] h):=List.Perm.swap ..
 have h4:=h1.perm perm
 have e4:=e.perm (TI _) perm
 have hset:∀{w:World} {G:Yl},RV w G (.sl es (some u)) u->QQ w G (.obj b ls)->QQ w G (.obj b (ls.set p (.sl es (some u)))):=by
  intro w G hu hr
  obtain ⟨cs,el,k1,k5⟩:=hr
  refine ⟨cs,el,k1,?_⟩
  obtain ⟨c,c1,c2⟩:=k5.get p _ hl
  have:=c2.val_inv
  subst this
  have h6:=k5.set p hu
  rwa [show cs.toList.set p c=cs.toList from by
   apply List.ext_getElem?
   intro q
   rw [List.getElem?_set]
   split
   ·rename_i hq;subst hq;split
    ·exact c1.symm
    ·rename_i hq2;rw [Jk om]
   ·rfl] at h6
 refine ⟨G',⟨fun r hr=>?_,?_,fun r hr=>?_,h4.lt⟩,⟨e4.os,e4.tape,e4.output,e4.size,e4.sub,e4.same,e4.newG,fun b' o hb ⟨r,hr,hf⟩=>e4.newfp b' o hb ?_⟩⟩
 ·rcases YN.1 hr with rfl|hr
  ·exact hset h3 (h4.ok _ (Xo ..))
  ·exact h4.ok r (Xz _ hr)
 ·have:=Vi.1 h4.apart
  exact Vi.2 ⟨fun r hr b' o f1 f2=>this.1 r hr b' o f1 f2,this.2⟩
 ·rcases YN.1 hr with rfl|hr
  ·exact fun b' o f1 hg=>h4.prot (.obj b ls) (Xo ..) b' o f1 hg
  ·exact h4.prot r (Xz _ hr)
 ·rcases YN.1 hr with rfl|hr
  ·exact ⟨.obj b ls,Xo ..,hf⟩
  ·exact ⟨r,Xz _ hr,hf⟩
theorem UC (j i p:Nat) (u:Value) (kk b:Nat) (es ls:List AV) (hes:∀y∈es,y.leaves.length=kk) (hl:ls[p]? = some (.val u)) (hk:0<kk:=by omega) (hp:W8 [j,i] h=some [.row u kk (Zc es),.obj b ls]:=by kernel_rfl) :
  Vc h (.obj b (ls.set p (.sl es (some u)))::.tail u kk::Xx [j,i] h):=Zhg j i p hp hes hk hl
end
end Go.Abs
namespace Go.Abs
section
variable {P:Program} {n:Nat} {ops:Array Oper} {k:Nat} {F:Fr} {h:List Res}
theorem Zgz (j:Nat) {g l c m kk:Nat} {ls:List AV} (hi:E4 P ops F k=some (.val (.slice (some ⟨g,0,none⟩) l c),(m:Int))) (hj:h[j]? = some (.row (.slice (some ⟨g,0,none⟩) l c) kk ls)) (hle:m<=l) :
  We P (ZV ops k) F h [] (.val (.slice (some ⟨g,0,none⟩) m c)):=by
 unfold E4 at hi
 generalize hoo:ZV ops k=o at hi
 obtain ⟨dst,op,type,pos,after,guard⟩:=o
 cases op<;>simp only at hi<;>try (cases hi)
 rename_i t x lo hi' mx
 cases lo with
 | some _=>simp at hi
 | none=>
  cases hi' with
  | none=>simp at hi
  | some y=>
   cases mx with
   | some _=>simp at hi
   | none=>
    simp only at hi
    split at hi
    ·rename_i e ht
     split at hi
     ·rename_i inf hinf
      split at hi
      ·rename_i ik m' hm
       simp only [WF,Prod.mk.injEq] at hi
       obtain ⟨hx,rfl⟩:=hi
       intro n w G a hF hh
       have v1:=hF.ev x
       rw [hx] at v1
       have v1:=v1.val_inv
       have v2:=hF.ev y
       rw [hm] at v2
       have v2:=v2.val_inv
       have hcap:l<=c:=by
        rcases hh.ok _ (Y3 hj) with ⟨h0,_⟩|⟨g',l',c',cur,el,h0,_,hc,_⟩
        ·cases h0
        ·cases h0;exact hc
       refine ⟨_,.val,fun w' _ _=>?_⟩
       simp only [execOp,v1,v2,Fy,Option.map_none]
       refine VY ?_
       simp only [Instr.sliceAt,Sem.run_bind,T4 ht,Result.andThen_ok,Instr.slice]
       have hmm:(Instr.sliceBounds true l c none (some (.int ik (m:Int))) none).run P w'=.ok (0,m,c) w':=by
        have ZD:=fun q=>Fe (P:=P) (c:=q) (v:=.int ik (m:Int)) (y:=c) rfl om om w'
        simp [Instr.sliceBounds,ZD]
       rw [hmm]
       have hz:∀a:Addr,a.add 0=a:=fun a=>by simp [Addr.add]
       simp only [Result.andThen_ok,Ke hinf,Nat.zero_mul,hz]
       by_cases h0:c=0<;>simp [h0]
      ·cases hi
     ·cases hi
    ·cases hi
theorem PM (j g l c m kk:Nat) (ls:List AV) (hle:m<=l:=by omega) (hi:E4 P ops F k=some (.val (.slice (some ⟨g,0,none⟩) l c),(m:Int)):=by kernel_rfl) (hj:h[j]? = some (.row (.slice (some ⟨g,0,none⟩) l c) kk ls):=by kernel_rfl) :
  We P (ZV ops k) F h [] (.val (.slice (some ⟨g,0,none⟩) m c)):=Zgz j hi hj hle
variable {B:Fr->List Res->Prop}
end
end Go.Abs
end
namespace Go.Abs
theorem Yh {α:Type} {xs:List α} {k:Nat} {x:α} (h:xs[k]? = some x):xs.drop k=x::xs.drop (k+1):=by
 have hk:=(X9.1 h).1
 rw [N5 hk]
 congr 1
 rw [D8 hk] at h
 exact Ax h
theorem Xt {α:Type} {xs:List α} {k:Nat} (h:xs.length<=k):xs.drop k=[]:=N6 h
theorem Vg {α:Type} {xs:List α} {k:Nat} {x:α} (h:xs[k]? = some x):xs.take (k+1)=xs.take k++[x]:=by
 rw [List.take_add_one,h];rfl
def YK:List Zf->Nat
 | []=>0
 | d::ds=>d.cons.length+YK ds
theorem Dg (xs ys:List Zf):YK (xs++ys)=YK xs+YK ys:=by
 induction xs with
 | nil=>simp [YK]
 | cons d ds ih=>simp [YK,ih];omega
structure XF (ds:List Zf):Prop where
 len:ds.length<=4
 cons:∀d∈ds,d.cons.length<=3
 fields:∀d∈ds,∀c∈d.cons,c.fields.length<=3
theorem Z4k {ds:List Zf} {m:Nat} (h:∀d∈ds,d.cons.length<=m):YK ds<=ds.length*m:=by
 induction ds with
 | nil=>simp [YK]
 | cons d ds ih=>
  have h1:=h d (by simp)
  have h2:=ih (fun x hx=>h x (by simp [hx]))
  simp only [YK,Yp,TV];omega
theorem XF.sum {ds:List Zf} (h:XF ds):YK ds<=12:=by
 have:=Z4k h.cons
 have:=h.len
 have:ds.length*3<=4*3:=Jl 3 h.len
 omega
theorem XF.take {ds:List Zf} (h:XF ds) (k:Nat):XF (ds.take k):=
 ⟨by have:=h.len;simp;omega,fun d hd=>h.cons d (QO hd),fun d hd=>h.fields d (QO hd)⟩
theorem XF.cons_at {ds:List Zf} (h:XF ds) {k:Nat} {d:Zf} (hd:ds[k]? = some d):d.cons.length<=3:=h.cons d (Y3 hd)
theorem XF.fields_at {ds:List Zf} (h:XF ds) {k j:Nat} {d:Zf} {c:Yo} (hd:ds[k]? = some d) (hc:d.cons[j]? = some c):c.fields.length<=3:=
 h.fields d (Y3 hd) c (Y3 hc)
def Uw (c:Int):List Zf->Nat->Nat->Int × LI
 | [],_,_=>(-1,[])
 | d::ds,i,first=>
  if (first:Int)<=c/\c<=((first+d.cons.length:Nat):Int)-1 then ((i:Int)+1,(d.cons[(c-first).toNat]?.map (·.fields)).getD []) else Uw c ds (i+1) (first+d.cons.length)
def Ws (ds:List Zf) (c:Int):Int:=(Uw c ds 0 0).1
def ZO (ds:List Zf) (c:Int):LI:=(Uw c ds 0 0).2
theorem FX {c:Int}:∀{ds:List Zf} {i first:Nat},(Uw c ds i first=(-1,[]) ∨
  ∃k d x,ds[k]? = some d/\(first+YK (ds.take k):Int)<=c/\c<first+YK (ds.take k)+d.cons.length/\d.cons[(c-(first+YK (ds.take k))).toNat]? = some x/\Uw c ds i first=((i:Int)+k+1,x.fields))
 | [],_,_=>.inl rfl
 | d::ds,i,first=>by
  rw [Uw]
  split
  ·rename_i h
   have hlt:(c-first).toNat<d.cons.length:=by omega
   refine .inr ⟨0,d,d.cons[(c-first).toNat],rfl,by simp [YK];omega,by simp [YK];omega,?_,?_⟩
   ·simp [YK]
   ·rw [D8 hlt];simp
  ·rcases FX (c:=c) (ds:=ds) (i:=i+1) (first:=first+d.cons.length) with h|⟨k,e,x,h1,h2,h3,h4,h5⟩
   ·exact .inl h
   ·refine .inr ⟨k+1,e,x,by simpa using h1,by simp [YK];omega,by simp [YK];omega,?_,?_⟩
    ·rw [<-h4];congr 3;simp [YK];omega
    ·rw [h5];congr 1;omega
theorem Io {ds:List Zf} {c:Int} (h:¬Ws ds c<1) :
  ∃k d x,ds[k]? = some d/\(YK (ds.take k):Int)<=c/\d.cons[(c-YK (ds.take k)).toNat]? = some x/\Ws ds c=(k:Int)+1/\ZO ds c=x.fields:=by
 rcases FX (c:=c) (ds:=ds) (i:=0) (first:=0) with h1|⟨k,d,x,h1,h2,_,h4,h5⟩
 ·simp [Ws,h1] at h
 ·exact ⟨k,d,x,h1,by simpa using h2,by simpa using h4,by simp [Ws,h5],by simp [ZO,h5]⟩
theorem NP {ds:List Zf} {c:Int} (h:Ws ds c<1):ZO ds c=[]/\Ws ds c=-1:=by
 rcases FX (c:=c) (ds:=ds) (i:=0) (first:=0) with h1|⟨k,d,x,h1,h2,_,h4,h5⟩
 ·simp [ZO,Ws,h1]
 ·simp [Ws,h5] at h;omega
def VW (first:Int):Nat->LI
 | 0=>[]
 | n+1=>first::VW (first+1) n
theorem Rx (first:Int) (n:Nat):VW first (n+1)=VW first n++[first+n]:=by
 induction n generalizing first with
 | zero=>simp [VW]
 | succ n ih=>rw [VW,ih (first+1),VW];simp;omega
@[simp] theorem Zcl (first:Int) (n:Nat):(VW first n).length=n:=by
 induction n generalizing first with
 | zero=>rfl
 | succ n ih=>simp [VW,ih]
def ZW (ds:List Zf) (t:Int):LI:=
 if 1<=t/\t<=ds.length then VW (YK (ds.take (t-1).toNat)) (((ds[(t-1).toNat]?).map (·.cons.length)).getD 0) else []
def Dd (frm to_:Int):List Zf->Nat->Int
 | [],_=>-1
 | d::ds,i=>if d.cons.length=0/\d.frm=frm/\d.to_=to_ then (i:Int)+1 else Dd frm to_ ds (i+1)
def JW (ds:List Zf) (frm to_:Int):Int:=Dd frm to_ ds 0
def VV (ds:List Zf) (t:Int):Bool:=decide (1<=t/\t<=ds.length)&&((ds[(t-1).toNat]?).map fun d=>decide (d.cons.length=0)).getD false
theorem PI {ds:List Zf} {t:Int} {x:Zf} (h:1<=t/\t<=ds.length) (hx:ds[(t-1).toNat]? = some x):((x.cons.length:Int)==0)=VV ds t:=by
 rw [VV,hx,Yd];simp [h]
theorem PH {ds:List Zf} {t:Int} (h:¬(1<=t/\t<=ds.length)):false=VV ds t:=by
 rw [VV,Yd];simp only [Bool.false_eq_true,Xg,decide_eq_true_eq,h,false_and]
def Wu (m:Nat) (xs:LI):Bool:=xs.all fun t=>decide (0<=t/\t<=m)
end Go.Abs
section
namespace Go.Abs
section
variable {h:List Res}
end
end Go.Abs
namespace Go.Abs
section
variable {P:Program} {ops:Array Oper} {k:Nat} {F:Fr} {h:List Res}
def M5 (ops:Array Oper) (F:Fr) (k:Nat):Option (Int × Int):=
 match (ZV ops k).op with
 | .call c=>match c.callee,c.args.toList with
  | .builtin .max,[x,y]=>match F.ev x,F.ev y with
   | .val (.int .i64 a),.val (.int .i64 b)=>some (a,b)
   | _,_=>none
  | _,_=>none
 | _=>none
theorem Zgw {a b:Int} (hl:M5 ops F k=some (a,b)):We P (ZV ops k) F h [] (.i (max a b)):=by
 unfold M5 at hl
 generalize hoo:ZV ops k=o at hl
 obtain ⟨dst,op,type,pos,after,guard⟩:=o
 cases op<;>simp only at hl<;>try (cases hl)
 rename_i c
 obtain ⟨callee,args,tys⟩:=c
 simp only at hl
 split at hl
 case h_2=>cases hl
 rename_i x y hargs
 split at hl
 case h_2=>cases hl
 rename_i u v hx hy
 cases hl
 have e1:args=#[x,y]:=by rw [<-TH (xs:=args),hargs]
 subst e1
 intro n w G a' hF hh
 have vx:=hF.ev x
 have vy:=hF.ev y
 rw [hx] at vx
 rw [hy] at vy
 have vx:=vx.val_inv
 have vy:=vy.val_inv
 refine ⟨_,.val,fun w' _ _=>?_⟩
 simp only [execOp,resolve,invoke,builtin,Sem.run_bind,Sem.run_pure,Result.andThen_ok,Ft,Tu,Fs,vx,vy]
 have e:(if b>a then b else a)=max a b:=by
  rw [Int.max_def]
  split<;>split<;>omega
 simp [Builtin.max_,Builtin.max2,Sem.run_pure,List.foldlM,e]
theorem GJ (a b:Int) (ha:M5 ops F k=some (a,b):=by kernel_rfl):We P (ZV ops k) F h [] (.i (max a b)):=Zgw ha
end
end Go.Abs
end
namespace Go.Abs
section
variable {P:Program} {n:Nat} {ops:Array Oper} {B:Fr->List Res->Prop} {k:Nat} {F:Fr} {h:List Res} {T:List (Nat × List Nat)} {fuel:Nat} {done:List Nat}
theorem RK {K:Fr->List Res->Prop} {ls:List AV} {len sz:Nat} (hd:VT n (ZV ops k)=true) (ha:TC P ops F k=some (ls,len,sz)) (hlen:ls.length=len*sz)
  (hK:∀g,K (F.put (ZV ops k).dst (.val (.slice (some ⟨g,0,none⟩) len len))) (.row (.slice (some ⟨g,0,none⟩) len len) sz ls::h)):WV P n (ZV ops k) F h K:=by
 unfold TC at ha
 generalize hoo:ZV ops k=q at ha hd hK
 obtain ⟨dst,op,type,pos,after,guard⟩:=q
 cases op<;>simp only at ha<;>try (cases ha)
 rename_i t ln parts
 split at ha
 case h_2=>cases ha
 rename_i e ht
 split at ha
 case h_2=>cases ha
 rename_i i hi
 split at ha
 case h_2=>cases ha
 rename_i hc
 simp only [Xg] at hc
 split at ha
 case h_2=>cases ha
 rename_i ls' hf
 simp only [WF,Prod.mk.injEq] at ha
 obtain ⟨rfl,rfl,XT⟩:=ha
 intro Q w G a hF hh
 obtain ⟨cs,h1,h2⟩:=Hr hF parts ht hi rfl hc.1 hc.2 hf
 have hr:(execOp a.eval { dst:=dst,op:=.buildSlice t ln parts,type:=type,pos:=pos,after:=after,guard:=guard }).run P w =
   .ok (.value (.slice (some ⟨w.heap.size,0,none⟩) ln ln)) (w.alloc (.cells cs e)):=by
  simp only [execOp]
  exact VY h2
 unfold Oper.wp
 rw [hr]
 have hlc:=h1.length
 simp only [JO] at hlc
 obtain ⟨j1,j2⟩:=hh.alloc_rrow cs e (ls:=ls') (len:=ln) (cap:=ln) (k:=sz) (Xc _) (by rw [hlc];exact hlen) hlen (by rw [<-hlen,<-hlc];simpa [WR] using h1)
 exact ⟨_,_,G,hK _,(hF.mono (j2.agree hh)).put (Q0 hd) .val,j1,j2⟩
theorem UN (es es':List AV) (he:es=es') (len sz:Nat) (hK:∀v,SI P n ops B (k+1) (F.put (ZV ops k).dst (.sl es' (some v))) (.tail v sz::h)) (hk:Xq n ops F k=true:=by kernel_rfl)
  (ha:TC P ops F k=some (Zc es,len,sz):=by kernel_rfl) (hlen:es.length=len:=by kernel_rfl) (hall:AF es sz=true:=by kernel_rfl):SI P n ops B k F h:=by
 subst he;exact iL es len sz hK hk ha hlen hall
theorem WL (i:Nat) (js bs:List Nat) (es es':List AV) (he:es=es') (len sz:Nat) (hK:∀v,Xa P n ops B (T.filter fun t=>!Vw ops i t.1) fuel (done++[i]) (F.put (ZV ops i).dst (.sl es' (some v))) (.tail v sz::h))
  (hk:Xq n ops F i=true:=by kernel_rfl) (ha:TC P ops F i=some (Zc es,len,sz):=by kernel_rfl) (hlen:es.length=len:=by kernel_rfl) (hall:AF es sz=true:=by kernel_rfl)
  (ho:UO ops i T=bs:=by kernel_rfl) (hj:js.map (fun j=>(Va h)[j]?)=bs.map some:=by kernel_rfl):U6 P n ops B T fuel done F h i:=by
 subst he;exact dL i js bs es len sz hK hk ha hlen hall ho hj
theorem iKN (ls:List AV) (len sz:Nat) (hK:∀g,SI P n ops B (k+1) (F.put (ZV ops k).dst (.val (.slice (some ⟨g,0,none⟩) len len))) (.row (.slice (some ⟨g,0,none⟩) len len) sz ls::h)) (hlen:ls.length=len*sz:=by rfl) (hk:Xq n ops F k=true:=by kernel_rfl)
  (ha:TC P ops F k=some (ls,len,sz):=by kernel_rfl):SI P n ops B k F h:=Qo hk (RK (Uz hk).2.1 ha hlen hK)
theorem dKN (i:Nat) (js bs:List Nat) (ls:List AV) (len sz:Nat) (hK:∀g,Xa P n ops B (T.filter fun t=>!Vw ops i t.1) fuel (done++[i]) (F.put (ZV ops i).dst (.val (.slice (some ⟨g,0,none⟩) len len))) (.row (.slice (some ⟨g,0,none⟩) len len) sz ls::h)) (hlen:ls.length=len*sz:=by rfl)
  (hk:Xq n ops F i=true:=by kernel_rfl) (ha:TC P ops F i=some (ls,len,sz):=by kernel_rfl) (ho:UO ops i T=bs:=by kernel_rfl) (hj:js.map (fun j=>(Va h)[j]?)=bs.map some:=by kernel_rfl):U6 P n ops B T fuel done F h i:=
 A7 (h1:=[]) (h2:=h) [] js bs hk rfl ho hj (RK (Uz hk).2.1 ha hlen hK)
end
theorem V7.frz {P:Program} {f:FuncId} {as1:List AV} {h0:List Res} {E:Type} {kk:Nat} {es:E->List AV} {hs:E->List Res} {Q:E->Prop} (H:V7 P f as1 h0 (fun r h=>∃(e:E) (v:Hd),r=.h v/\h=rK v kk (Zc (es e))::hs e/\Q e)) (hes:∀e,∀y∈es e,y.leaves.length=kk) (hk:0<kk) :
  V7 P f as1 h0 (fun r h=>∃(e:E) (v:Value),r=.sl (es e) (some v)/\h=.tail v kk::hs e/\Q e):=by
 intro w G vs hv hh
 refine (H w G vs hv hh).mono ?_
 rintro e w' ⟨u,r,h',G',he,⟨x,v,rfl,rfl,hq⟩,hr,hh',hx⟩
 obtain ⟨G2,h1,h2,h3⟩:=E1 hh' (hes x) hk
 have hrv:=hr.val_inv
 subst hrv
 exact ⟨_,_,_,G2,he,⟨x,v.v,rfl,rfl,hq⟩,h3,h1,hx.trans h2⟩
theorem L5 {es:List AV} {sz k:Nat} {y:AV} (h:∀x∈es,x.leaves.length=sz) (hy:y.leaves.length=sz) (hk:k<es.length):(Zc es).take (k*sz)++y.leaves++(Zc es).drop (k*sz+y.leaves.length)=Zc (es.set k y):=by
 obtain ⟨x,hx⟩:=Ql (xs:=es) (j:=k) hk
 have hxl:=h x (Y3 hx)
 have e1:es=es.take k++(x::es.drop (k+1)):=by rw [<-Yh hx,TJ]
 have e2:es.set k y=es.take k++(y::es.drop (k+1)):=by rw [Bj,Zb hk]
 have hl:(Zc (es.take k)).length=k*sz:=by rw [TO (k:=sz) _ (fun z hz=>h z (QO hz)),Wo,U4 om]
 have e3:Zc es=Zc (es.take k)++(x.leaves++Zc (es.drop (k+1))):=by
  conv=>lhs;rw [e1,KW]
  simp [Zc]
 rw [e2,KW,e3,Mo hl (by rw [hxl,hy])]
 simp [Zc]
theorem Z5i (ds:List Zf) (k:Nat) (d:Zf):YW (ds.set k d)=(YW ds).set k (El d):=by simp [YW,List.map_set]
theorem Cy (xs:List Zf):(Zc (YW xs)).length=xs.length*3:=by rw [TO (k:=3) _ (Kr xs)];simp
theorem Gj {ds:List Zf} {k:Nat} (d:Zf) (hk:k<ds.length):(Zc (YW ds)).take (k*3)++CM d++(Zc (YW ds)).drop (k*3+3)=Zc (YW (ds.set k d)):=by
 rw [Z5i];exact L5 (y:=El d) (Kr ds) rfl (by simpa using hk)
theorem IX (xs ys:List Zf):Zc (YW xs)++Zc (YW ys)=Zc (YW (xs++ys)):=by rw [Z5h,KW]
section
variable {P:Program} {n:Nat} {ops:Array Oper} {B:Fr->List Res->Prop} {k:Nat} {F:Fr} {h:List Res}
theorem EK (j m:Nat) {v:Hd} {kk:Nat} {ls:List AV} (hm:ls.length=m*kk) (h0:0<m) (H:∀g c',v=⟨some ⟨g,0,none⟩,m,c'⟩->SI P n ops B k F h) (hk:0<kk:=by omega) (hj:h[j]? = some (rK v kk ls):=by kernel_rfl):SI P n ops B k F h:=by
 intro Q w G a hF hh hq
 obtain ⟨g,c',e⟩:=Mm (hh.ok _ (Y3 hj)) hm hk h0
 exact H g c' e Q w G a hF hh hq
end
section
variable {P:Program} {n:Nat} {ops:Array Oper} {B:Fr->List Res->Prop} {k:Nat} {F:Fr} {h:List Res}
def Iq (P:Program) (ops:Array Oper) (F:Fr) (k:Nat):Option (IntKind × Int):=
 match (ZV ops k).op with
 | .convert s d x=>match P.underlying s,P.underlying d,F.ev x with
  | some (.int _),some (.int q),.val (.int _ z)=>some (q,z)
  | _,_,_=>none
 | _=>none
theorem kCv (q:IntKind) (z z':Int) (e:q.wrap z=z') (hc:Iq P ops F k=some (q,z):=by kernel_rfl):We P (ZV ops k) F h [] (.val (.int q z')):=by
 unfold Iq at hc
 generalize hoo:ZV ops k=o at hc
 obtain ⟨dst,op,type,pos,after,guard⟩:=o
 cases op<;>simp only at hc<;>try (cases hc)
 rename_i s d x
 split at hc
 ·rename_i q1 q2 q3 z2 h1 h2 h3
  cases hc
  intro n w G ac hF hh
  have v1:=hF.ev x
  rw [h3] at v1
  have v1:=v1.val_inv
  refine ⟨_,.val,fun w' _ _=>?_⟩
  simp only [execOp,v1]
  refine VY ?_
  simp [convert,T4 h1,T4 h2,Conv.intToInt,e]
 ·cases hc
theorem N4 {z:Int} (h:0<=z/\z<=9223372036854775807):IntKind.i64.wrap z=z:=IntWalk.i64_in _ om
theorem LL (z:Int) (hz:0<=z/\z<=255) (hc:Iq P ops F k=some (.i64,z):=by kernel_rfl):We P (ZV ops k) F h [] (.i z):=kCv .i64 z z (N4 om) hc
def Bs (ops:Array Oper) (F:Fr) (k:Nat) (b:BinOp):Option (Int × Int):=
 match (ZV ops k).op with
 | .binOp c _ x y _=>if c==b then match F.ev x,F.ev y with
  | .val (.int .i64 z),.val (.int .i64 u)=>some (z,u)
  | _,_=>none else none
 | _=>none
theorem PN (a b:Int) (hb:0<b) (ha:0<=a/\a<=9223372036854775807) (hc:Bs ops F k .quo=some (a,b):=by kernel_rfl):We P (ZV ops k) F h [] (.i (a / b)):=by
 unfold Bs at hc
 generalize hoo:ZV ops k=o at hc
 obtain ⟨dst,op,type,pos,after,guard⟩:=o
 cases op<;>simp only at hc<;>try (cases hc)
 rename_i bop t x y yt
 cases bop<;>simp only [Zg,reduceCtorEq,if_false,if_true] at hc<;>try (cases hc)
 split at hc
 ·rename_i z yk h1 h2
  cases hc
  intro n' w G ac hF hh
  have v1:=hF.ev x
  have v2:=hF.ev y
  rw [h1] at v1
  rw [h2] at v2
  have v1:=v1.val_inv
  have v2:=v2.val_inv
  refine ⟨_,.val,fun w' _ _=>?_⟩
  simp only [execOp,v1,v2]
  refine VY ?_
  have e1:a.tdiv b=a / b:=Int.tdiv_eq_ediv_of_nonneg ha.1
  have e2:IntKind.i64.wrap (a / b)=a / b:=N4 ⟨Int.ediv_nonneg ha.1 om,Int.le_trans (Int.ediv_le_self b ha.1) ha.2⟩
  have e3:b≠0:=by omega
  simp [eqGuard,binOp,Op.intDiv,e1,e2,e3]
 ·cases hc
theorem LK (a b:Int) (hb:0<b) (ha:0<=a) (hc:Bs ops F k .rem=some (a,b):=by kernel_rfl):We P (ZV ops k) F h [] (.i (a % b)):=by
 unfold Bs at hc
 generalize hoo:ZV ops k=o at hc
 obtain ⟨dst,op,type,pos,after,guard⟩:=o
 cases op<;>simp only at hc<;>try (cases hc)
 rename_i bop t x y yt
 cases bop<;>simp only [Zg,reduceCtorEq,if_false,if_true] at hc<;>try (cases hc)
 split at hc
 ·rename_i z yk h1 h2
  cases hc
  intro n' w G ac hF hh
  have v1:=hF.ev x
  have v2:=hF.ev y
  rw [h1] at v1
  rw [h2] at v2
  have v1:=v1.val_inv
  have v2:=v2.val_inv
  refine ⟨_,.val,fun w' _ _=>?_⟩
  simp only [execOp,v1,v2]
  refine VY ?_
  have e1:a.tmod b=a % b:=Int.tmod_eq_emod_of_nonneg ha
  have e3:b≠0:=by omega
  simp [eqGuard,binOp,Op.intDiv,e1,e3]
 ·cases hc
theorem DK (a b:Nat) (hb:0<b) (ha:a<=9223372036854775807) (hc:Bs ops F k .quo=some ((a:Int),(b:Int)):=by kernel_rfl):We P (ZV ops k) F h [] (.i (a / b:Nat)):=by
 rw [Int.natCast_ediv];exact PN a b om om hc
theorem PO (a b:Nat) (hb:0<b) (_ha:a<=9223372036854775807) (hc:Bs ops F k .rem=some ((a:Int),(b:Int)):=by kernel_rfl):We P (ZV ops k) F h [] (.i (a % b:Nat)):=by
 rw [Int.natCast_emod];exact LK a b om om hc
def Eg (a b:Int):Int:=IntKind.i64.wrap ((BitVec.ofInt 64 a ^^^ BitVec.ofInt 64 b).toNat:Int)
theorem Z27 {a b:Int} (ha:0<=a/\a<4611686018427387904) (hb:0<=b/\b<4611686018427387904):0<=Eg a b/\Eg a b<4611686018427387904:=by
 obtain ⟨x,rfl⟩:=Int.eq_ofNat_of_zero_le ha.1
 obtain ⟨y,rfl⟩:=Int.eq_ofNat_of_zero_le hb.1
 have h1:(BitVec.ofInt 64 (x:Int) ^^^ BitVec.ofInt 64 (y:Int)).toNat=x ^^^ y:=by
  rw [BitVec.toNat_xor,BitVec.toNat_ofInt,BitVec.toNat_ofInt]
  have e1:((x:Int) % ((2 ^ 64:Nat):Int)).toNat=x:=by omega
  have e2:((y:Int) % ((2 ^ 64:Nat):Int)).toNat=y:=by omega
  rw [e1,e2]
 have h2:x ^^^ y<2 ^ 62:=Nat.xor_lt_two_pow om om
 rw [Eg,h1,N4 om]
 omega
theorem Zay (a b:Int) (hc:Bs ops F k .xor=some (a,b):=by kernel_rfl):We P (ZV ops k) F h [] (.i (Eg a b)):=by
 unfold Bs at hc
 generalize hoo:ZV ops k=o at hc
 obtain ⟨dst,op,type,pos,after,guard⟩:=o
 cases op<;>simp only at hc<;>try (cases hc)
 rename_i bop t x y yt
 cases bop<;>simp only [Zg,reduceCtorEq,if_false,if_true] at hc<;>try (cases hc)
 split at hc
 ·rename_i z yk h1 h2
  cases hc
  intro n' w G ac hF hh
  have v1:=hF.ev x
  have v2:=hF.ev y
  rw [h1] at v1
  rw [h2] at v2
  have v1:=v1.val_inv
  have v2:=v2.val_inv
  refine ⟨_,.val,fun w' _ _=>?_⟩
  simp only [execOp,v1,v2]
  refine VY ?_
  simp [eqGuard,binOp,Op.intBits,IntKind.bits]
  exact Yj (fun z:Nat=>IntKind.i64.wrap (z:Int)) (by rw [BitVec.toNat_xor,BitVec.toNat_ofInt,BitVec.toNat_ofInt];rfl)
 ·cases hc
end
end Go.Abs
section
namespace Go.Abs
inductive Z2 where
 | mk (op num:Int) (kids:List Z2)
namespace Z2
def op:Z2->Int|.mk a _ _=>a
def num:Z2->Int|.mk _ a _=>a
def kids:Z2->List Z2|.mk _ _ a=>a
end Z2
structure Func where
 params:LI
 result:Int
 body:Z2
structure Wd where
 decls:List Zf
 funcs:List Func
instance:Inhabited Z2:=⟨.mk 0 0 []⟩
mutual
def IE:Z2->AV
 | .mk op num kids=>.agg [.i op,.i num,.sl (Yz kids) none]
def Yz:List Z2->List AV
 | []=>[]
 | e::r=>IE e::Yz r
end
abbrev Y9 (e:Z2):AV:=.agg [.i e.op,.i e.num,.sl (Yz e.kids) none]
abbrev X1 (e:Z2):List AV:=[.i e.op,.i e.num,.sl (Yz e.kids) none]
abbrev XH (xs:List Z2):AV:=.sl (Yz xs) none
abbrev QF (xs:List Z2) (v:Value):AV:=.sl (Yz xs) (some v)
abbrev Em (f:Func):AV:=.agg [Z4 f.params,.i f.result,.i f.body.op,.i f.body.num,XH f.body.kids]
abbrev GN (f:Func):List AV:=[Z4 f.params,.i f.result,.i f.body.op,.i f.body.num,XH f.body.kids]
def Xw (xs:List Func):List AV:=xs.map Em
abbrev H1 (xs:List Func):AV:=.sl (Xw xs) none
abbrev AE (p:Wd):AV:=.agg [Yf p.decls,H1 p.funcs]
abbrev LM (p:Wd):List AV:=[Yf p.decls,H1 p.funcs]
abbrev I1 (z:Int):AV:=.val (.int .u8 z)
def Q1 (xs:LI):List AV:=xs.map I1
abbrev Ul (xs:LI):AV:=.sl (Q1 xs) none
theorem Z5j (e:Z2):IE e=Y9 e:=by cases e;rw [IE];rfl
theorem XW:∀xs:List Z2,Yz xs=xs.map Y9
 | []=>by rw [Yz];rfl
 | s::ss=>by rw [Yz,XW ss,Z5j];rfl
theorem Dn {xs:List Z2} {j:Nat} {x:Z2} (h:xs[j]? = some x):(Yz xs)[j]? = some (Y9 x):=by simp [XW,h]
theorem G4 {xs:List Func} {j:Nat} {x:Func} (h:xs[j]? = some x):(Xw xs)[j]? = some (Em x):=by simp [Xw,h]
theorem Iz {xs:LI} {j:Nat} {x:Int} (h:xs[j]? = some x):(Q1 xs)[j]? = some (I1 x):=by simp [Q1,h]
@[simp] theorem IF (xs:List Z2):(Yz xs).length=xs.length:=by simp [XW]
@[simp] theorem Do (xs:List Func):(Xw xs).length=xs.length:=by simp [Xw]
@[simp] theorem Bw (xs:LI):(Q1 xs).length=xs.length:=by simp [Q1]
theorem A8 (xs ys:List Z2):Yz (xs++ys)=Yz xs++Yz ys:=by simp [XW]
theorem Z5k (xs ys:List Func):Xw (xs++ys)=Xw xs++Xw ys:=by simp [Xw]
theorem IA (xs:LI) (n:Nat):(Q1 xs).take n=Q1 (xs.take n):=by simp [Q1]
theorem Iy (xs:LI) (n:Nat):(Q1 xs).drop n=Q1 (xs.drop n):=by simp [Q1]
theorem Td (xs:List Z2):∀y∈Yz xs,y.leaves.length=3:=by intro y hy;simp only [XW,XM] at hy;obtain ⟨x,_,rfl⟩:=hy;rfl
theorem G5 (xs:List Func):∀y∈Xw xs,y.leaves.length=5:=by intro y hy;simp only [Xw,XM] at hy;obtain ⟨x,_,rfl⟩:=hy;rfl
theorem Z5g (xs:LI):∀y∈Q1 xs,y.leaves.length=1:=by intro y hy;simp only [Q1,XM] at hy;obtain ⟨x,_,rfl⟩:=hy;rfl
theorem A9 (xs:List Z2):(Zc (Yz xs)).all AV.one=true:=KX fun y hy=>by simp only [XW,XM] at hy;obtain ⟨x,_,rfl⟩:=hy;rfl
end Go.Abs
end
section
namespace Go.Abs
open Go.Proofs Go.Proofs.YtamhpednblociaaGreat
section
variable {H:Type} {enc:TypeId × Value->H} {w:World}
def GA (w:World):Yl:=fun b _=>b<w.heap.size
abbrev Tr (enc:TypeId × Value->H) (w:World) (n:Nat) (t:TypeId) (cs:List Value) (x:DataW H × List MemPlace):Prop:=DataW.trod enc Tryz.prog w 0 (fun _=>true) true n t cs=some x
theorem Ra {w:World} {a:Addr} {v:Value} (h:w.cell? a=some v):a.block<w.heap.size/\a.spot=none:=by
 unfold World.cell? at h
 split at h
 ·rename_i c e fr hb
  split at h
  ·cases h
  ·rename_i hs
   exact ⟨(UU.1 hb).1,by simpa using hs⟩
 ·cases h
theorem NG {α:Type} {c:α->Nat}:∀{xs:List α} {ds:List (DataW H)},xs.length=ds.length->(∀(i:Nat) a d,xs[i]? = some a->ds[i]? = some d->c a+1<=Rows.uptoBulk d)->(xs.map fun a=>c a+1).sum<=Rows.uptoBulkAll ds
 | [],[],_,_=>Xc _
 | a::r,d::ds,hl,h=>by
  have h0:=h 0 a d rfl rfl
  have h1:=NG (c:=c) (xs:=r) (ds:=ds) (by simpa using hl) fun i a d ha hd=>h (i+1) a d (by simpa using ha) (by simpa using hd)
  rw [Tu,List.sum_cons,Rows.uptoBulkAll]
  omega
theorem Sy {α:Type} {f:α->AV} {G:Yl} {k b:Nat} (hf:∀x,(f x).leaves.length=k):∀{xs:List α} {o:Nat},(∀(i:Nat) a,xs[i]? = some a->WC w G b (o+i*k) (f a).leaves)->Vn w G k b o (xs.map f)
 | [],_,_=>.nil
 | x::r,o,h=>by
  refine .cons (hf x) (by have:=h 0 x rfl;simpa using this) (Sy hf fun i a ha=>?_)
  have:=h (i+1) a (by simpa using ha)
  rw [show o+(i+1)*k=o+k+i*k by rw [TV];omega] at this
  exact this
theorem Zdq {α:Type} [Inhabited α] {t e k:Nat} (ht:Tryz.prog.underlying t=some (.slice e)) (hk:Tryz.prog.cellsOf e=k) (h0:0<k) (f:α->AV) (hf:∀x,(f x).leaves.length=k) (c:α->Nat) (Q:α->Prop) {n:Nat} {cs:List Value} {x:DataW H × List MemPlace}
  (h:Tr enc w n t cs x) (el:∀m cs y,m<n->Tr enc w m e cs y->∃a:α,YS w (GA w) (f a).leaves cs/\c a+1<=Rows.uptoBulk y.1/\Q a) :
  ∃(v:Value) (xs:List α),cs=[v]/\RV w (GA w) (.sl (xs.map f) none) v/\(xs.map fun a=>c a+1).sum+1<=Rows.uptoBulk x.1/\∀a∈xs,Q a:=by
 rcases DataW.trod_slice ht h with ⟨rfl,rfl⟩|⟨a,len,cap,elems,rest,m,rfl,rfl,rfl,_,hlc,_,hlen,hel,_,_⟩
 ·exact ⟨_,[],rfl,.nil (by simp),by simp [Rows.uptoBulk],by simp⟩
 ·rw [hk] at hel
  have hone:∀i,i<len->∃z:α,∃cs' y,w.cells? 0 (a.add (i*k)) k=some cs'/\elems[i]? = some y/\YS w (GA w) (f z).leaves cs'/\c z+1<=Rows.uptoBulk y.1/\Q z:=by
   intro i hi
   have h1:=hel i hi
   rw [D8 om] at h1
   obtain ⟨cs',h2,h3⟩:=Option.bind_eq_some_iff.1 h1
   obtain ⟨z,hz1,hz2,hz3⟩:=el m cs' _ om h3
   exact ⟨z,cs',_,h2,D8 om,hz1,hz2,hz3⟩
  obtain ⟨V,hV⟩:=Go.Deep.choose_lt hone
  refine ⟨_,(List.range len).map V,rfl,?_,?_,?_⟩
  ·cases hl0:len with
   | zero=>exact .nil (by simp)
   | succ q=>
    have hsp:a.spot=none:=by
     obtain ⟨cs',y,g1,_⟩:=hV 0 om
     obtain ⟨_,g2,g3⟩:=World.cells?_some g1
     have g4:=g3 0 h0
     rw [D8 om] at g4
     have g5:=(Ra g4).2
     simpa [Addr.add] using g5
    obtain ⟨b,o,sp⟩:=a
    simp only at hsp
    subst hsp
    rw [<-hl0]
    have hll:(((List.range len).map V).map f).length=len:=by simp
    have:=RV.sl (w:=w) (G:=GA w) (es:=((List.range len).map V).map f) (hv:=none) (b:=b) (o:=o) (k:=k) (cap:=cap) (by simp) (by rw [hll];exact hlc) (Sy hf fun i z hz=>by
     have hi:i<len:=by have:=(X9.1 hz).1;simpa using this
     have hz':V i=z:=by simpa [hi] using hz
     obtain ⟨cs',y,g1,_,g2,_⟩:=hV i hi
     rw [hz'] at g2
     obtain ⟨_,g3,g4⟩:=World.cells?_some g1
     refine WC.of_cells g2 fun j u hj=>?_
     have hjl:j<k:=by have:=(X9.1 hj).1;omega
     have g5:=(g4 j hjl).trans hj
     rw [Addr.add_lit,Addr.add_lit] at g5
     exact ⟨g5,(Ra g5).1⟩)
    rw [hll] at this
    exact this
  ·have:=NG (c:=c) (xs:=(List.range len).map V) (ds:=elems.map (·.1)) (by simp [hlen]) fun i z d hz hd=>by
    have hi:i<len:=by have:=(X9.1 hz).1;simpa using this
    have hz':V i=z:=by simpa [hi] using hz
    obtain ⟨cs',y,_,g1,_,g2,_⟩:=hV i hi
    rw [Qw,g1] at hd
    simp only [Fy,WF] at hd
    rw [<-hd,<-hz']
    exact g2
   simp only [Rows.uptoBulk]
   omega
  ·intro z hz
   obtain ⟨i,hi,rfl⟩:=XM.1 hz
   obtain ⟨_,_,_,_,_,_,g⟩:=hV i (List.mem_range.1 hi)
   exact g
theorem Zdp {n:Nat} {cs:List Value} {x:DataW H × List MemPlace} (h:Tr enc w n 5 cs x):∃z:Int,cs=[.int .u8 z]/\Rows.uptoBulk x.1=1/\0<=z/\z<=255:=by
 obtain ⟨z,rfl,rfl,hw⟩:=DataW.trod_int Tryz.underlying5 h
 refine ⟨z,rfl,rfl,?_⟩
 simpa [Lit.wf,IntKind.min,IntKind.max,IntKind.signed,IntKind.bits] using hw
theorem Sq {n:Nat} {cs:List Value} {x:DataW H × List MemPlace} (h:Tr enc w n 22 cs x):∃(v:Value) (xs:LI),cs=[v]/\RV w (GA w) (Ul xs) v/\∀z∈xs,0<=z/\z<=255:=by
 obtain ⟨v,xs,h1,h2,h3,h4⟩:=Zdq Tryz.underlying22 (k:=1) kr om (fun z:Int=>I1 z) (fun _=>rfl) (fun _=>0) (fun z=>0<=z/\z<=255) h fun m cs y _ hy=>by
  obtain ⟨z,rfl,hb,hz⟩:=Zdp hy
  exact ⟨z,.cons .val .nil,Nat.le_of_eq hb.symm,hz⟩
 exact ⟨v,xs,h1,h2,h4⟩
end
end Go.Abs
end
namespace Go.Abs
structure Sg where
 params:LI
 result:Int
abbrev Nf (f:Sg):AV:=.agg [.sl (Z7 f.params) none,.i f.result,.i 0,.i 0,.sl [] none]
def WM (fs:List Sg):List AV:=fs.map Nf
theorem IJ {xs:List Sg} {j:Nat} {x:Sg} (h:xs[j]? = some x):(WM xs)[j]? = some (Nf x):=by simp [WM,h]
@[simp] theorem O8 (xs:List Sg):(WM xs).length=xs.length:=by simp [WM]
theorem G7 (xs:List Sg):∀y∈WM xs,y.leaves.length=5:=by intro y hy;simp only [WM,XM] at hy;obtain ⟨x,_,rfl⟩:=hy;rfl
theorem O9 (xs:List Sg):(Zc (WM xs)).all AV.one=true:=KX fun y hy=>by simp only [WM,XM] at hy;obtain ⟨x,_,rfl⟩:=hy;rfl
mutual
def Z6.sz:Z6->Nat
 | .mk _ _ _ args kids=>1+args.length+YX kids
def Z8.sz:Z8->Nat
 | .mk steps _=>1+Yx steps
def Yx:List Z6->Nat
 | []=>0
 | s::r=>s.sz+Yx r
def YX:List Z8->Nat
 | []=>0
 | b::r=>b.sz+YX r
end
theorem Z6.sz_pos (s:Z6):1<=s.sz:=by cases s;rw [Z6.sz];omega
theorem Z8.sz_pos (b:Z8):1<=b.sz:=by cases b;rw [Z8.sz];omega
theorem Jd (l:List Z6):l.length<=Yx l:=by
 induction l with
 | nil=>simp
 | cons s r ih=>have:=s.sz_pos;simp only [Yp,Yx];omega
theorem ND (l:List Z8):l.length<=YX l:=by
 induction l with
 | nil=>simp
 | cons s r ih=>have:=s.sz_pos;simp only [Yp,YX];omega
theorem Zgr {l:List Z6} {k:Nat} {s:Z6} (h:l[k]? = some s):s.sz<=Yx l:=by
 induction l generalizing k with
 | nil=>simp at h
 | cons t r ih=>
  cases k with
  | zero=>simp at h;subst h;simp only [Yx];omega
  | succ k=>have:=ih (k:=k) (by simpa using h);simp only [Yx];omega
theorem NC {l:List Z8} {k:Nat} {s:Z8} (h:l[k]? = some s):s.sz<=YX l:=by
 induction l generalizing k with
 | nil=>simp at h
 | cons t r ih=>
  cases k with
  | zero=>simp at h;subst h;simp only [YX];omega
  | succ k=>have:=ih (k:=k) (by simpa using h);simp only [YX];omega
theorem Z6.sz_eq (s:Z6):s.sz=1+s.args.length+YX s.kids:=by cases s;rw [Z6.sz];rfl
theorem Z8.sz_eq (b:Z8):b.sz=1+Yx b.steps:=by cases b;rw [Z8.sz];rfl
theorem Ea {b:Z8} {k:Nat} {s:Z6} (h:b.steps[k]? = some s):s.sz<b.sz:=by have:=Zgr h;have:=b.sz_eq;omega
theorem Qr {s:Z6} {k:Nat} {b:Z8} (h:s.kids[k]? = some b):b.sz<s.sz:=by have:=NC h;have:=s.sz_eq;omega
theorem Jo (s:Z6):s.args.length<s.sz:=by have:=s.sz_eq;omega
theorem K1 (s:Z6):s.kids.length<s.sz:=by have:=s.sz_eq;have:=ND s.kids;omega
theorem UB (b:Z8):b.steps.length<b.sz:=by have:=b.sz_eq;have:=Jd b.steps;omega
structure QP (ds:List Zf):Prop where
 len:ds.length<=4194304
 cons:∀d∈ds,d.cons.length<=4194304
 fields:∀d∈ds,∀c∈d.cons,c.fields.length<=4194304
theorem QP.cons_at {ds:List Zf} (h:QP ds) {k:Nat} {d:Zf} (hd:ds[k]? = some d):d.cons.length<=4194304:=h.cons d (Y3 hd)
theorem QP.fields_at {ds:List Zf} (h:QP ds) {k j:Nat} {d:Zf} {c:Yo} (hd:ds[k]? = some d) (hc:d.cons[j]? = some c):c.fields.length<=4194304:=
 h.fields d (Y3 hd) c (Y3 hc)
def A3 (m:Nat) (c:Yo):Bool:=decide (c.fields.length<=3)&&Wu m c.fields
def QU (d:Zf):List Zf->Bool
 | []=>false
 | e::r=>if e.cons.length=0/\e.frm=d.frm/\e.to_=d.to_ then true else QU d r
def TL (m:Nat):List Yo->Bool
 | []=>true
 | c::r=>if A3 m c=true then TL m r else false
def Tz (ds:List Zf) (d:Zf) (i:Nat):Bool:=
 if 0<d.cons.length then (if d.cons.length<=3/\d.frm=0/\d.to_=0 then TL ds.length d.cons else false)
 else if QU d (ds.take i)=true then false else decide (0<=d.frm/\d.frm<=ds.length)&&decide (0<=d.to_/\d.to_<=ds.length)
def Cp (ds:List Zf) (i:Nat):Bool:=(ds[i]?.map fun d=>Tz ds d i).getD false
theorem G0 {ds:List Zf} {i:Nat} {d:Zf} (h:ds[i]? = some d):Cp ds i=Tz ds d i:=by rw [Cp,h];rfl
def Ta (ds:List Zf):List Zf->Nat->Bool
 | [],_=>true
 | _::r,i=>if Cp ds i=true then Ta ds r (i+1) else false
def V5 (ds:List Zf):Bool:=decide (ds.length<=4)&&Ta ds ds 0
theorem Z4n {m:Nat} {cs:List Yo}:TL m cs=true↔∀c∈cs,A3 m c=true:=by
 induction cs with
 | nil=>simp [TL]
 | cons c r ih=>
  rw [TL]
  split
  ·rename_i h;simp [ih,h]
  ·rename_i h;simp [h]
theorem NY {ds:List Zf}:∀{l:List Zf} {i:Nat},Ta ds l i=true↔∀j<l.length,Cp ds (i+j)=true
 | [],i=>by simp [Ta]
 | d::r,i=>by
  rw [Ta]
  split
  ·rename_i h
   rw [NY (l:=r)]
   constructor
   ·intro hq j hj
    cases j with
    | zero=>exact h
    | succ j=>have:=hq j (by simpa using hj);rwa [show i+(j+1)=i+1+j by omega]
   ·intro hq j hj
    have:=hq (j+1) (by simpa using hj)
    rwa [show i+(j+1)=i+1+j by omega] at this
  ·rename_i h
   simp only [Bool.false_eq_true,false_iff]
   intro hq
   exact h (hq 0 (by simp))
theorem MY {ds:List Zf} (h:V5 ds=true):XF ds:=by
 simp only [V5,Xg,decide_eq_true_eq] at h
 obtain ⟨h1,h2⟩:=h
 rw [NY] at h2
 have key:∀d∈ds,∃i,Tz ds d i=true:=fun d hd=>by
  obtain ⟨i,hi⟩:=List.mem_iff_getElem?.1 hd
  have:=h2 i (X9.1 hi).1
  rw [Wr,G0 hi] at this
  exact ⟨i,this⟩
 have hc:∀d∈ds,0<d.cons.length->d.cons.length<=3/\TL ds.length d.cons=true:=fun d hd hp=>by
  obtain ⟨i,hi⟩:=key d hd
  rw [Tz,Zb hp] at hi
  split at hi
  ·rename_i h;exact ⟨h.1,hi⟩
  ·cases hi
 refine ⟨h1,fun d hd=>?_,fun d hd c hc'=>?_⟩
 ·by_cases hp:0<d.cons.length
  ·exact (hc d hd hp).1
  ·omega
 ·have:=Z4n.1 (hc d hd (List.length_pos_of_mem hc')).2 c hc'
  simp only [A3,Xg,decide_eq_true_eq] at this
  exact this.1
def J9 (m:Nat) (f:Sg):Bool:=decide (f.params.length<=3)&&(Wu m f.params&&decide (0<=f.result/\f.result<=m))
def Ja (m:Nat):List Sg->Bool
 | []=>true
 | f::r=>if J9 m f=true then Ja m r else false
def Ge:List Sg->Bool
 | []=>false
 | f::_=>decide (f.params.length=0)&&decide (f.result=0)
theorem Z6g {fs:List Sg} {x:Sg} (h:fs[0]? = some x):Ge fs=(decide (x.params.length=0)&&decide (x.result=0)):=by
 cases fs with
 | nil=>simp at h
 | cons f r=>simp at h;subst h;rfl
def T7 (ds:List Zf) (fs:List Sg):Bool:=
 V5 ds&&(decide (1<=fs.length/\fs.length<=4)&&(Ja ds.length fs&&Ge fs))
def Kz (ps:LI):LI->Option Int->Bool
 | [],_=>true
 | v::r,prev=>if (0<=v/\v<=(ps.length:Int)-1)/\ps[v.toNat]?≠some 0/\(∀p,prev=some p->p<v) then Kz ps r (some v) else false
theorem LS {ps r:LI} {v:Int} {prev:Option Int} (h:(0<=v/\v<=(ps.length:Int)-1)/\ps[v.toNat]?≠some 0/\(∀p,prev=some p->p<v)):Kz ps (v::r) prev=Kz ps r (some v):=by
 rw [Kz,Zb h]
theorem GT {ps r:LI} {v:Int} {prev:Option Int} (h:¬((0<=v/\v<=(ps.length:Int)-1)/\ps[v.toNat]?≠some 0/\(∀p,prev=some p->p<v))):Kz ps (v::r) prev=false:=by
 rw [Kz,Z5 h]
def Uu (ps ls:LI):Bool:=Kz ps ls none
def CO:List YC->Bool
 | []=>true
 | r::rs=>if Uu r.params r.lent=true then CO rs else false
def Q9 (r:YC):Sg:=⟨r.params,r.result⟩
def Ai (n:ZF):Bool:=decide (n.routines.length<=4)&&(T7 n.decls (n.routines.map Q9)&&CO n.routines)
end Go.Abs
section
namespace Go.Abs
def Vd {α:Type} (xs:List α) (i:Int):Option α:=if 0<=i/\i<=(xs.length:Int)-1 then xs[i.toNat]? else none
theorem Br {α:Type} {xs:List α} {i:Int} {x:α} (h:0<=i/\i<=(xs.length:Int)-1) (hx:xs[i.toNat]? = some x):Vd xs i=some x:=by rw [Vd,Zb h,hx]
theorem AG {α:Type} {xs:List α} {i:Int} (h:¬(0<=i/\i<=(xs.length:Int)-1)):Vd xs i=none:=by rw [Vd,Z5 h]
theorem De {α:Type} {xs:List α} {i:Int} {x:α} (h:Vd xs i=some x):(0<=i/\i<=(xs.length:Int)-1)/\xs[i.toNat]? = some x:=by
 rw [Vd] at h
 split at h
 ·rename_i h1;exact ⟨h1,h⟩
 ·cases h
def KJ (vars:LI):LI->LI->Bool
 | [],[]=>true
 | a::as1,t::ts=>if Vd vars a=some t then KJ vars as1 ts else false
 | _,_=>false
def V4 (vars args types:LI):Bool:=KJ vars args types
theorem Z1t {vars:LI}:∀{args types:LI},args.length≠types.length->KJ vars args types=false
 | [],[],h=>absurd rfl h
 | [],_::_,_=>rfl
 | _::_,[],_=>rfl
 | a::as1,t::ts,h=>by
  rw [KJ]
  split
  ·exact Z1t (by simpa using h)
  ·rfl
theorem Zhk {vars args types:LI} {k:Nat} {a t:Int} (ha:args[k]? = some a) (ht:types[k]? = some t) (h:Vd vars a=some t) :
  KJ vars (args.drop k) (types.drop k)=KJ vars (args.drop (k+1)) (types.drop (k+1)):=by
 rw [Yh ha,Yh ht,KJ,Zb h]
theorem Z1s {vars args types:LI} {k:Nat} {a t:Int} (ha:args[k]? = some a) (ht:types[k]? = some t) (h:Vd vars a≠some t) :
  KJ vars (args.drop k) (types.drop k)=false:=by
 rw [Yh ha,Yh ht,KJ,Z5 h]
theorem Zhj {vars args types:LI} {k:Nat} (ha:args.length<=k) (ht:types.length<=k):KJ vars (args.drop k) (types.drop k)=true:=by
 rw [Xt ha,Xt ht];rfl
def Qm (op:Int):Bool:=op==0||(op==6||(op==8||(op==9||op==10)))
def Xi (op:Int):Bool:=decide (0<=op/\op<=11)
def YQ (op:Int):Bool:=decide (14<=op/\op<=17)
def Qc (vars:LI) (op into:Int):Bool:=
 if into=0 then true else if op=6 then ((Vd vars (into-1)).map fun t=>decide (0<t)).getD false else false
def Eo (ds:List Zf) (ps:LI) (res:Int):Int:=JW ds (ps.getLast?.getD 0) res
def BW (ds:List Zf) (vars:LI) (op:Int) (args:LI) (r:YC):Int:=
 if op=9 then (if V4 vars args r.params=true then r.result else -1)
 else if r.params.length=0∨0<r.lent.length∨¬V4 vars args (r.params.take (r.params.length-1))=true then -1
 else Eo ds r.params r.result
def Kc (n:ZF) (vars:LI) (op num:Int) (args:LI):Int:=
 match Vd n.routines num with
 | none=>-1
 | some r=>BW n.decls vars op args r
def KS (ds:List Zf) (vars:LI) (op:Int) (args:LI):Int:=
 match args with
 | [a]=>match Vd vars a with
  | some t=>if t=0 then -1 else if (op≠14/\op≠15)/\VV ds t=true then -1 else 0
  | none=>-1
 | _=>-1
def KQ (ds:List Zf) (vars:LI) (args:LI):Int:=
 match args with
 | [a,b]=>match Vd vars a with
  | some t=>if VV ds t=true then
    (match ds[(t-1).toNat]? with
     | some d=>if V4 vars [b] [d.frm]=true then d.to_ else -1
     | none=>-1) else -1
  | none=>-1
 | _=>-1
def W6 (ds:List Zf) (op num:Int):List LI:=if op=7 then [[],[]] else (ZW ds num).map (ZO ds)
mutual
def X2 (n:ZF) (vars:LI):Z6->Int
 | .mk op num into args kids=>
  if (num≠0/\¬Qm op=true)∨¬Qc vars op into=true∨(0<kids.length/\op≠7/\op≠8) then -1
  else if op=0 then (if args.length=0/\(-999<=num/\num<=999) then 0 else -1)
  else if op=1∨op=2∨op=3∨op=4 then (if V4 vars args [0,0]=true then 0 else -1)
  else if op=5 then (if V4 vars args [0]=true then 0 else -1)
  else if op=6 then (if 0<Ws n.decls num/\V4 vars args (ZO n.decls num)=true then Ws n.decls num else -1)
  else if op=7 then (if V4 vars args [0]=true then (if (W6 n.decls op num).length=0∨kids.length≠(W6 n.decls op num).length then -1 else QD n vars kids (W6 n.decls op num) true 0) else -1)
  else if op=8 then (if V4 vars args [num]=true then (if (W6 n.decls op num).length=0∨kids.length≠(W6 n.decls op num).length then -1 else QD n vars kids (W6 n.decls op num) true 0) else -1)
  else if op=9∨op=10 then Kc n vars op num args
  else if op=11 then KQ n.decls vars args
  else if op=14∨op=15∨op=16∨op=17 then KS n.decls vars op args
  else -1
def QD (n:ZF) (vars:LI):List Z8->List LI->Bool->Int->Int
 | [],_,_,t=>t
 | b::bs,more,first,t=>
  match more with
  | []=>-1
  | m::ms=>if W9 n (vars++m) b<0∨(first=false/\W9 n (vars++m) b≠t) then -1 else QD n vars bs ms false (W9 n (vars++m) b)
def UA (n:ZF):List Z6->LI->Option LI
 | [],vars=>some vars
 | s::r,vars=>if X2 n vars s<0 then none else UA n r (if Xi s.op=true then vars++[X2 n vars s] else vars)
def W9 (n:ZF) (vars:LI):Z8->Int
 | .mk steps result=>match UA n steps vars with
  | none=>-1
  | some vs=>(Vd vs result).getD (-1)
end
def JA (n:ZF) (vars:LI) (op num:Int) (kids:List Z8):Int:=
 if (W6 n.decls op num).length=0∨kids.length≠(W6 n.decls op num).length then -1 else QD n vars kids (W6 n.decls op num) true 0
mutual
def BI:Z6->Int->Int
 | .mk _ _ _ _ kids,left=>Af kids left
def Tm:Z8->Int->Int
 | .mk steps _,left=>JC steps left
def JC:List Z6->Int->Int
 | [],left=>left
 | s::r,left=>if left<1 then -1 else if BI s (left-1)<0 then -1 else JC r (BI s (left-1))
def Af:List Z8->Int->Int
 | [],left=>left
 | b::r,left=>if Tm b left<0 then -1 else Af r (Tm b left)
end
def Be (b:Z8):Int:=if Tm b 600<0 then -1 else 600-Tm b 600
def Ba (n:ZF):List YC->Bool
 | []=>true
 | r::rs=>if ¬Be r.body<0/\W9 n r.params r.body=r.result then Ba n rs else false
def Ki (n:ZF):Bool:=Ai n&&Ba n n.routines
theorem R5:(∀(s:Z6) (l:Int),0<=l->BI s l<=l)/\(∀(b:Z8) (l:Int),0<=l->Tm b l<=l):=by
 have key:∀m:Nat,(∀s:Z6,s.sz<=m->∀l:Int,0<=l->BI s l<=l)/\(∀b:Z8,b.sz<=m->∀l:Int,0<=l->Tm b l<=l):=by
  intro m
  induction m with
  | zero=>exact ⟨fun s h=>by have:=s.sz_pos;omega,fun s h=>by have:=s.sz_pos;omega⟩
  | succ m ih=>
   refine ⟨fun s hs l hl=>?_,fun b hb l hl=>?_⟩
   ·cases s with
    | mk op num into args kids=>
     rw [BI]
     have hk:YX kids<=m:=by rw [Z6.sz] at hs;omega
     clear hs
     induction kids generalizing l with
     | nil=>rw [Af];exact Int.le_refl _
     | cons b r ihr=>
      rw [YX] at hk
      have:=ih.2 b om l hl
      rw [Af]
      split
      ·omega
      ·have:=ihr (Tm b l) om om;omega
   ·cases b with
    | mk steps res=>
     rw [Tm]
     have hk:Yx steps<=m:=by rw [Z8.sz] at hb;omega
     clear hb
     induction steps generalizing l with
     | nil=>rw [JC];exact Int.le_refl _
     | cons s r ihr=>
      rw [Yx] at hk
      rw [JC]
      split
      ·omega
      ·have:=ih.1 s om (l-1) om
       split
       ·omega
       ·have:=ihr (BI s (l-1)) om om;omega
 exact ⟨fun s l hl=>(key s.sz).1 s (Xc _) l hl,fun b l hl=>(key b.sz).2 b (Xc _) l hl⟩
end Go.Abs
namespace Go.Abs
theorem Zgs {l:List Z6} {k:Nat} {s:Z6} (h:l[k]? = some s):k+s.sz<=Yx l:=by
 induction l generalizing k with
 | nil=>simp at h
 | cons t r ih=>
  cases k with
  | zero=>simp at h;subst h;simp only [Yx];omega
  | succ k=>have:=ih (k:=k) (by simpa using h);have:=t.sz_pos;simp only [Yx];omega
theorem D0 {b:Z8} {k:Nat} {s:Z6} (h:b.steps[k]? = some s):k+s.sz<b.sz:=by have:=Zgs h;have:=b.sz_eq;omega
structure XA (n:ZF):Prop where
 decls:XF n.decls
 len:n.routines.length<=4
 params:∀r∈n.routines,r.params.length<=3
 lent:∀r∈n.routines,r.lent.length<=4194304
theorem XA.params_at {n:ZF} (h:XA n) {k:Nat} {r:YC} (hr:n.routines[k]? = some r):r.params.length<=3:=h.params r (Y3 hr)
theorem XA.lent_at {n:ZF} (h:XA n) {k:Nat} {r:YC} (hr:n.routines[k]? = some r):r.lent.length<=4194304:=h.lent r (Y3 hr)
theorem Z3h {ds:List Zf} {num:Int} {k:Nat} {x:Int} (h:(ZW ds num)[k]? = some x):(W6 ds 8 num)[k]? = some (ZO ds x):=by
 rw [W6,Z5 om,Qw,h];rfl
end Go.Abs
namespace Go.Abs
theorem DQ {ds:List Zf} (hd:XF ds) (t:Int):(ZW ds t).length<=3:=by
 rw [ZW]
 split
 ·rename_i h
  obtain ⟨d,hd1⟩:=Ql (xs:=ds) (j:=(t-1).toNat) om
  rw [hd1,Zcl]
  exact hd.cons_at hd1
 ·simp
theorem Vp {ds:List Zf} (hd:XF ds) (c:Int):(ZO ds c).length<=3:=by
 by_cases h:Ws ds c<1
 ·rw [(NP h).1];simp
 ·obtain ⟨k,d,x,h1,_,h3,_,h5⟩:=Io h
  rw [h5];exact hd.fields_at h1 h3
theorem Np {ds:List Zf} (hd:XF ds) {op num:Int} {k:Nat} {m:LI} (h:(W6 ds op num)[k]? = some m):m.length<=3:=by
 have hm:=Y3 h
 rw [W6] at hm
 split at hm
 ·simp at hm;subst hm;simp
 ·obtain ⟨c,_,rfl⟩:=XM.1 hm;exact Vp hd c
theorem KR {α:Type} {xs:List α} {x:α} (h:xs.length=1) (hx:xs[0]? = some x):xs=[x]:=by
 cases xs with
 | nil=>simp at h
 | cons a r=>
  cases r with
  | nil=>simp at hx;rw [hx]
  | cons b r=>simp at h
theorem Di {ds:List Zf} {us args:LI} {op:Int} (h:args.length≠1):KS ds us op args=-1:=by
 cases args with
 | nil=>rfl
 | cons a r=>
  cases r with
  | nil=>simp at h
  | cons b r=>rfl
theorem Dj {ds:List Zf} {us args:LI} {op a:Int} (h:args=[a]) (hi:¬(0<=a/\a<=(us.length:Int)-1)):KS ds us op args=-1:=by
 subst h;rw [KS];simp only [AG hi]
theorem Dh {ds:List Zf} {us args:LI} {op a t:Int} (h:args=[a]) (hi:0<=a/\a<=(us.length:Int)-1) (ht:us[a.toNat]? = some t) :
  KS ds us op args=if t=0 then -1 else if (op≠14/\op≠15)/\VV ds t=true then -1 else 0:=by
 subst h;rw [KS];simp only [Br hi ht]
theorem Ze9 {n:ZF} {us args:LI} {op num:Int} {r:YC} (hi:0<=num/\num<=(n.routines.length:Int)-1) (hr:n.routines[num.toNat]? = some r) :
  Kc n us op num args=BW n.decls us op args r:=by
 rw [Kc];simp only [Br hi hr]
theorem Zea {n:ZF} {us args:LI} {op num:Int} (hi:¬(0<=num/\num<=(n.routines.length:Int)-1)):Kc n us op num args=-1:=by
 rw [Kc];simp only [AG hi]
theorem Z9f {xs:LI} {x:Int} (h:xs[xs.length-1]? = some x):xs.getLast?.getD 0=x:=by
 rw [List.getLast?_eq_getElem?,h];rfl
theorem Zb7 {n:ZF} {us:LI} {bs:List Z8} {ms:List LI} {b:Z8} {m:LI} {k:Nat} {t:Int} (hb:bs[k]? = some b) (hm:ms[k]? = some m)
  (h:¬(W9 n (us++m) b<0∨(k:Int)>0/\W9 n (us++m) b≠t)) :
  QD n us (bs.drop k) (ms.drop k) (decide (k=0)) t=QD n us (bs.drop (k+1)) (ms.drop (k+1)) (decide (k+1=0)) (W9 n (us++m) b):=by
 rw [Yh hb,Yh hm,QD,Z5]
 ·simp
 ·rintro (q|⟨q1,q2⟩)
  ·exact h (.inl q)
  ·exact h (.inr ⟨by simp at q1;omega,q2⟩)
theorem Zb5 {n:ZF} {us:LI} {bs:List Z8} {ms:List LI} {b:Z8} {m:LI} {k:Nat} {t:Int} (hb:bs[k]? = some b) (hm:ms[k]? = some m)
  (h:W9 n (us++m) b<0∨(k:Int)>0/\W9 n (us++m) b≠t) :
  QD n us (bs.drop k) (ms.drop k) (decide (k=0)) t=-1:=by
 rw [Yh hb,Yh hm,QD,Zb]
 rcases h with q|⟨q1,q2⟩
 ·exact .inl q
 ·exact .inr ⟨by simp;omega,q2⟩
theorem Zb6 {n:ZF} {us:LI} {bs:List Z8} {ms:List LI} {k:Nat} {f:Bool} {t:Int} (hb:bs.length<=k):QD n us (bs.drop k) (ms.drop k) f t=t:=by
 rw [Xt hb,QD]
end Go.Abs
end
namespace Go.Abs
theorem MM (n:ZF) (us:LI) (s:Z6):X2 n us s =
  if (s.num≠0/\¬Qm s.op=true)∨¬Qc us s.op s.into=true∨(0<s.kids.length/\s.op≠7/\s.op≠8) then -1
  else if s.op=0 then (if s.args.length=0/\(-999<=s.num/\s.num<=999) then 0 else -1)
  else if s.op=1∨s.op=2∨s.op=3∨s.op=4 then (if V4 us s.args [0,0]=true then 0 else -1)
  else if s.op=5 then (if V4 us s.args [0]=true then 0 else -1)
  else if s.op=6 then (if 0<Ws n.decls s.num/\V4 us s.args (ZO n.decls s.num)=true then Ws n.decls s.num else -1)
  else if s.op=7 then (if V4 us s.args [0]=true then JA n us s.op s.num s.kids else -1)
  else if s.op=8 then (if V4 us s.args [s.num]=true then JA n us s.op s.num s.kids else -1)
  else if s.op=9∨s.op=10 then Kc n us s.op s.num s.args
  else if s.op=11 then KQ n.decls us s.args
  else if s.op=14∨s.op=15∨s.op=16∨s.op=17 then KS n.decls us s.op s.args
  else -1:=by
 cases s with
 | mk op num into args kids=>rw [X2];rfl
theorem Ie (n:ZF) (us:LI) (b:Z8):W9 n us b=match UA n b.steps us with
  | none=>-1
  | some vs=>(Vd vs b.result).getD (-1):=by
 cases b with
 | mk st r=>rw [W9];rfl
theorem Nm {α:Type} {xs:List α} {x:α} (h:xs.length=2) (hx:xs[0]? = some x):∃y,xs=[x,y]:=by
 match xs,h with
 | [a,b],_=>simp at hx;subst hx;exact ⟨b,rfl⟩
theorem UV {ds:List Zf} {us args:LI} (h:args.length≠2):KQ ds us args=-1:=by
 match args,h with
 | [],_=>rfl
 | [_],_=>rfl
 | [_,_],h=>simp at h
 | _::_::_::_,_=>rfl
theorem UW {ds:List Zf} {us args:LI} {a:Int} (hl:args.length=2) (h:args[0]? = some a) (hi:¬(0<=a/\a<=(us.length:Int)-1)):KQ ds us args=-1:=by
 obtain ⟨y,rfl⟩:=Nm hl h;rw [KQ];simp only [AG hi]
theorem UE {ds:List Zf} {us args:LI} {a t:Int} (hl:args.length=2) (h:args[0]? = some a) (hi:0<=a/\a<=(us.length:Int)-1) (ht:us[a.toNat]? = some t) :
  KQ ds us args=if VV ds t=true then
    (match ds[(t-1).toNat]? with
     | some d=>if V4 us (args.drop 1) [d.frm]=true then d.to_ else -1
     | none=>-1) else -1:=by
 obtain ⟨y,rfl⟩:=Nm hl h;rw [KQ];simp only [Br hi ht];rfl
theorem Z3a {ds:List Zf} {us args:LI} {a t:Int} {d:Zf} (hl:args.length=2) (h:args[0]? = some a) (hi:0<=a/\a<=(us.length:Int)-1) (ht:us[a.toNat]? = some t)
  (hA:VV ds t=true) (hd:ds[(t-1).toNat]? = some d):KQ ds us args=if V4 us (args.drop 1) [d.frm]=true then d.to_ else -1:=by
 rw [UE hl h hi ht,Zb hA];simp only [hd]
theorem Lz {ds:List Zf} {t:Int} (h:VV ds t=true):1<=t/\t<=ds.length:=by
 simp only [VV,Xg,decide_eq_true_eq] at h;exact h.1
theorem Zbn (b:Z8) (l:Int):Tm b l=JC b.steps l:=by cases b;rw [Tm];rfl
theorem R6 (s:Z6) (l:Int):BI s l=Af s.kids l:=by cases s;rw [BI];rfl
structure JR (n:ZF):Prop where
 decls:QP n.decls
 len:n.routines.length<=4194304
 params:∀r∈n.routines,r.params.length<=4194304
 lent:∀r∈n.routines,r.lent.length<=4194304
 body:∀r∈n.routines,r.body.sz<=10000000
theorem MA {m:Nat} {fs:List Sg} (h:Ja m fs=true):∀f∈fs,J9 m f=true:=by
 induction fs with
 | nil=>simp
 | cons f r ih=>
  rw [Ja] at h
  split at h
  ·rename_i h1
   intro g hg
   rcases YN.1 hg with rfl|hg
   ·exact h1
   ·exact ih h g hg
  ·cases h
theorem Rs {n:ZF} (hz:JR n) (h:Ai n=true):XA n:=by
 simp only [Ai,T7,Xg,decide_eq_true_eq] at h
 obtain ⟨h1,⟨h2,h3,h4,h5⟩,h6⟩:=h
 refine ⟨MY h2,h1,fun r hr=>?_,hz.lent⟩
 have:=MA h4 (Q9 r) (XM.2 ⟨r,hr,rfl⟩)
 simp only [J9,Xg,decide_eq_true_eq] at this
 exact this.1
def gI (xs:LI) (i:Int):Int:=xs[i.toNat]?.getD 0
theorem Tj {xs:LI} {i:Int} {x:Int} (h:xs[i.toNat]? = some x):gI xs i=x:=by rw [gI,h];rfl
structure ZM where
 vars:LI
 own:LI
 par:LI
 con:LI
 fst:LI
 tok:LI
def ZM.grow (L:ZM) (t own par:Int):ZM:=⟨L.vars++[t],L.own++[own],L.par++[par],L.con++[-1],L.fst++[-1],L.tok++[-1]⟩
def Qb (L:ZM) (v:Int):Option ZM:=if gI L.own v<1 then none else some { L with own:=L.own.set v.toNat (gI L.own v-1) }
def QR (own par ln:LI):Nat->Int->Bool
 | 0,_=>false
 | k+1,v=>if gI own v<1/\¬v∈ln then (if gI par v<0 then false else QR own par ln k (gI par v)) else true
def T9 (L:ZM) (ln:LI) (v:Int):Bool:=QR L.own L.par ln (v.toNat+1) v
def Qy:LI->Int->LI->LI
 | own,_,[]=>own
 | own,p,f::r=>Qy (if f≠0 then own.set p.toNat (gI own p+1) else own) (p+1) r
def Aj (ds:List Zf) (L:ZM) (op x:Int):Option ZM:=
 if gI L.con x<0∨(op=17/\0<=gI L.tok x) then none
 else match Qb L x with
  | none=>none
  | some L1=>some { L1 with
    own:=Qy L1.own (gI L.fst x) (ZO ds (gI L.con x))
    tok:=if op=17 then L.tok.set x.toNat (ZO ds (gI L.con x)).length else L.tok }
def A5 (op:Int):Bool:=op==6||(op==9||(op==10||op==11))
def DN (n:ZF) (op num:Int):LI:=if op=9 then ((n.routines[num.toNat]?).map (·.lent)).getD [] else []
def T2 (n:ZF) (op num:Int) (i:Nat):Bool:=decide ((i:Int)∈DN n op num)
def Jp (n:ZF) (vars:LI) (op num a:Int) (i:Nat):Bool:=A5 op&&(gI vars a != 0&&!T2 n op num i)
def Kt (n:ZF) (op num:Int):LI->Nat->ZM->Option ZM
 | [],_,L=>some L
 | a::r,i,L=>if Jp n L.vars op num a i=true then (match Qb L a with
   | none=>none
   | some L1=>Kt n op num r (i+1) L1) else Kt n op num r (i+1) L
def BE (n:ZF) (op num:Int) (ln:LI) (L:ZM):LI->Nat->Bool
 | [],_=>true
 | a::r,i=>if T2 n op num i=true/\¬T9 L ln a=true then false else BE n op num ln L r (i+1)
def EG (L:ZM) (into:Int) (m:Nat):Option ZM:=
 if 0<into then (if gI L.tok (into-1)≠m then none else some { L with tok:=L.tok.set (into-1).toNat (-1) }) else some L
def Js (n:ZF) (ln:LI) (L:ZM) (op num into:Int) (args:LI):Option ZM:=
 match Kt n op num args 0 L with
 | none=>none
 | some L1=>if BE n op num ln L1 args 0=true then EG L1 into args.length else none
def C4:LI->LI->Bool
 | o::os,t::ts=>if o≠0∨0<=t then false else C4 os ts
 | _,_=>true
def ZM.take (L:ZM) (m:Nat):ZM:=⟨L.vars.take m,L.own.take m,L.par.take m,L.con.take m,L.fst.take m,L.tok.take m⟩
def Jq (L:ZM) (m:Nat):Option ZM:=if C4 (L.own.drop m) (L.tok.drop m)=true then some (L.take m) else none
def CC (L:ZM) (par:Int):LI->ZM
 | []=>L
 | t::r=>CC (L.grow t 0 par) par r
def Cg (ds:List Zf) (L:ZM) (x c:Int):ZM:=
 CC { L with con:=L.con.set x.toNat c,fst:=L.fst.set x.toNat L.vars.length } x (ZO ds c)
def TR (ds:List Zf) (L:ZM) (op num:Int) (args:LI) (i:Nat):ZM:=
 if op=8 then Cg ds L (gI args 0) (gI (ZW ds num) i) else L
def B8 (lent:LI):LI->Nat->ZM->ZM
 | [],_,L=>L
 | t::r,i,L=>B8 lent r (i+1) (L.grow t (if t≠0/\¬(i:Int)∈lent then 1 else 0) (-1))
def KC (r:YC):ZM:=B8 r.lent r.params 0 ⟨[],[],[],[],[],[]⟩
def Cq (L:ZM) (ln:LI) (v:Int):Option ZM:=if T9 L ln v=true then some { L with own:=L.own.set v.toNat (gI L.own v+1) } else none
def JJ (n:ZF) (ln:LI) (L:ZM) (op num into:Int) (args:LI) (ch:Option ZM):Option ZM:=
 if op=14 then Cq L ln (gI args 0)
 else if op=15 then Qb L (gI args 0)
 else if op=16∨op=17 then Aj n.decls L op (gI args 0)
 else if op=7∨op=8 then (if op=8/\¬T9 L ln (gI args 0)=true then none else ch)
 else Js n ln L op num into args
def Ac (L:ZM) (op t:Int) (r:Option ZM):Option ZM:=
 match r with
 | none=>none
 | some L1=>if Xi op=true then some (L1.grow t (if t≠0 then 1 else 0) (-1)) else some L1
def CP (L:ZM) (first:Option ZM) (rest:ZM->Bool):Option ZM:=
 match first with
 | none=>none
 | some one=>if rest one=true then some { L with own:=one.own,tok:=one.tok } else none
def Hv (one:ZM) (two:Option ZM) (rest:Bool):Bool:=
 match two with
 | none=>false
 | some two=>if one.own=two.own/\one.tok=two.tok then rest else false
def Fm (r:Option ZM) (f:ZM->Option ZM):Option ZM:=match r with|none=>none|some L=>f L
def Aa (m:Nat) (res:Int) (L:ZM):Option ZM:=Fm (if gI L.vars res≠0 then Qb L res else some L) fun L2=>Jq L2 m
mutual
def QI (n:ZF) (ln:LI) (L:ZM):Z6->Option ZM
 | .mk op num into args kids=>Ac L op (X2 n L.vars (.mk op num into args kids)) (JJ n ln L op num into args (J3 n ln L op num args kids))
def J3 (n:ZF) (ln:LI) (L:ZM) (op num:Int) (args:LI):List Z8->Option ZM
 | []=>none
 | b::bs=>CP L (U7 n ln (TR n.decls L op num args 0) L.vars.length b) fun one=>Jz n ln L op num args one bs 1
def Jz (n:ZF) (ln:LI) (L:ZM) (op num:Int) (args:LI) (one:ZM):List Z8->Nat->Bool
 | [],_=>true
 | b::bs,i=>Hv one (U7 n ln (TR n.decls L op num args i) L.vars.length b) (Jz n ln L op num args one bs (i+1))
def JK (n:ZF) (ln:LI) (L:ZM):List Z6->Option ZM
 | []=>some L
 | s::r=>Fm (QI n ln L s) fun L1=>JK n ln L1 r
def U7 (n:ZF) (ln:LI) (L:ZM) (m:Nat):Z8->Option ZM
 | .mk steps result=>Fm (JK n ln L steps) (Aa m result)
end
theorem Z1c (n:ZF) (ln:LI) (L:ZM) (s:Z6):QI n ln L s=Ac L s.op (X2 n L.vars s) (JJ n ln L s.op s.num s.into s.args (J3 n ln L s.op s.num s.args s.kids)):=by
 cases s with
 | mk op num into args kids=>rw [QI];rfl
theorem Ic (n:ZF) (ln:LI) (L:ZM) (m:Nat) (b:Z8):U7 n ln L m b=Fm (JK n ln L b.steps) (Aa m b.result):=by
 cases b with
 | mk st r=>rw [U7];rfl
def Z3m (n:ZF) (r:YC):Bool:=
 match U7 n r.lent (KC r) r.params.length r.body with
 | none=>false
 | some L=>(Jq L 0).isSome
def Nx (n:ZF):List YC->Bool
 | []=>true
 | r::rs=>if Z3m n r=true then Nx n rs else false
def Z3n (n:ZF):Bool:=Ki n&&Nx n n.routines
structure Tv (L:ZM):Prop where
 own:L.own.length=L.vars.length
 par:L.par.length=L.vars.length
 con:L.con.length=L.vars.length
 fst:L.fst.length=L.vars.length
 tok:L.tok.length=L.vars.length
structure XN (ds:List Zf) (L:ZM) (q:Int):Prop where
 len:Tv L
 down:∀j:Int,0<=j->j<L.vars.length->gI L.par j<j
 arm:∀x:Int,0<=x->x<L.vars.length->0<=gI L.con x->0<=gI L.fst x/\gI L.fst x+(ZO ds (gI L.con x)).length<=L.vars.length
 nn:∀x∈L.own,0<=x
 bd:∀x∈L.own,x<=q
end Go.Abs
section
namespace Go.Abs
end Go.Abs
namespace Go.Abs
theorem Zbo {n:ZF} {op num:Int} {r:YC} (h:op=9) (hr:n.routines[num.toNat]? = some r):DN n op num=r.lent:=by
 rw [DN,Zb h,hr];rfl
end Go.Abs
namespace Go.Abs
theorem Z2x {own par ln:LI} {N:Int} (hd:∀j:Int,0<=j->j<N->gI par j<j):∀(k:Nat) (v:Int),0<=v->v<N->v.toNat+1<=k->QR own par ln k v=QR own par ln (v.toNat+1) v:=by
 intro k
 induction k using Nat.strongRecOn with
 | ind k ih=>
  intro v h0 hN hk
  cases k with
  | zero=>omega
  | succ k=>
   rw [QR,QR]
   split
   ·split
    ·rfl
    ·have hdv:=hd v h0 hN
     rw [ih k om (gI par v) om om om]
     rw [ih v.toNat om (gI par v) om om om]
   ·rfl
theorem Z2z {own par ln:LI} {N j x1 x2:Int} {r:Bool} (h1:gI own j=x1) (h2:gI par j=x2) (hj:0<=j/\j<N) (hx:x1<1/\¬j∈ln) (h0:¬x2<0) (hd:∀i:Int,0<=i->i<N->gI par i<i)
  (h:QR own par ln (j.toNat+1) j=r):QR own par ln (x2.toNat+1) x2=r:=by
 rw [QR,h1,h2,Zb hx,Z5 h0] at h
 have hdv:=hd j hj.1 hj.2
 rw [<-h,Z2x hd j.toNat x2 om om om]
theorem Z2y {own par ln:LI} {j x1 x2:Int} {r:Bool} (h1:gI own j=x1) (h2:gI par j=x2) (hx:x1<1/\¬j∈ln) (h0:x2<0) (h:QR own par ln (j.toNat+1) j=r):false=r:=by
 rw [QR,h1,h2,Zb hx,Zb h0] at h;exact h
theorem Z30 {own par ln:LI} {j x1:Int} {r:Bool} (h1:gI own j=x1) (hx:¬(x1<1/\¬j∈ln)) (h:QR own par ln (j.toNat+1) j=r):true=r:=by
 rw [QR,h1,Z5 hx] at h;exact h
end Go.Abs
namespace Go.Abs
theorem JL {L L':ZM} {v:Int} (h:Qb L v=some L'):1<=gI L.own v/\L'.vars=L.vars/\L'.par=L.par/\L'.con=L.con/\L'.fst=L.fst/\L'.tok=L.tok/\L'.own=L.own.set v.toNat (gI L.own v-1):=by
 rw [Qb] at h
 split at h
 ·cases h
 ·cases h;exact ⟨by omega,rfl,rfl,rfl,rfl,rfl,rfl⟩
theorem Gl {xs:LI} {v:Int} (h:gI xs v≠0):gI xs v∈xs:=by
 rw [gI] at h ⊢
 cases hx:xs[v.toNat]? with
 | none=>rw [hx] at h;exact absurd rfl h
 | some y=>exact Y3 hx
theorem JE {xs:LI} {i:Nat} {a x:Int} (h:x∈xs.set i a):x∈xs∨x=a:=List.mem_or_eq_of_mem_set h
theorem XN.take {ds:List Zf} {L L':ZM} {q v:Int} (hk:XN ds L q) (h:Qb L v=some L'):XN ds L' q:=by
 obtain ⟨t1,t2,t3,t4,t5,t6,t7⟩:=JL h
 obtain ⟨f1,f2,f3,f4,f5⟩:=hk.len
 have hm:=Gl (xs:=L.own) (v:=v) om
 refine ⟨⟨by rw [t7,t2,V6];exact f1,by rw [t3,t2];exact f2,by rw [t4,t2];exact f3,by rw [t5,t2];exact f4,by rw [t6,t2];exact f5⟩,?_,?_,?_,?_⟩
 ·rw [t2,t3];exact hk.down
 ·rw [t2,t4,t5];exact hk.arm
 ·rw [t7];intro x hx
  rcases JE hx with hx|rfl
  ·exact hk.nn x hx
  ·omega
 ·rw [t7];intro x hx
  rcases JE hx with hx|rfl
  ·exact hk.bd x hx
  ·have:=hk.bd _ hm;omega
end Go.Abs
end
namespace Go.Abs
theorem MU {us:LI}:∀{args tys:LI},KJ us args tys=true->args.length=tys.length/\∀a∈args,0<=a/\a<us.length
 | [],[],_=>⟨rfl,by simp⟩
 | [],_::_,h=>by cases h
 | _::_,[],h=>by cases h
 | a::as1,t::ts,h=>by
  rw [KJ] at h
  split at h
  ·rename_i h1
   obtain ⟨q1,q2⟩:=MU h
   refine ⟨by simp [q1],fun x hx=>?_⟩
   rcases YN.1 hx with rfl|hx
   ·have:=(De h1).1;omega
   ·exact q2 x hx
  ·cases h
theorem PQ {n:ZF} {us:LI}:∀{bs:List Z8} {ms:List LI} {f:Bool} {t:Int},0<=t->0<=QD n us bs ms f t ->
  ∀(i:Nat) (b:Z8) (m:LI),bs[i]? = some b->ms[i]? = some m->0<=W9 n (us++m) b
 | [],_,_,_,_,_,i,b,m,hb,_=>by simp at hb
 | b::bs,[],_,_,_,h,_,_,_,_,hm=>by simp at hm
 | b::bs,m::ms,f,t,ht,h,i,c,l,hc,hl=>by
  rw [QD] at h
  split at h
  ·omega
  ·rename_i hq
   have h0:0<=W9 n (us++m) b:=by
    rcases Int.lt_or_le (W9 n (us++m) b) 0 with q|q
    ·exact absurd (.inl q) hq
    ·exact q
   cases i with
   | zero=>simp at hc hl;subst hc hl;exact h0
   | succ i=>exact PQ h0 h i c l (by simpa using hc) (by simpa using hl)
structure Cc (n:ZF) (us:LI) (s:Z6):Prop where
 args:∀a∈s.args,0<=a/\a<us.length
 one:(s.op=7∨s.op=8∨(14<=s.op/\s.op<=17))->∃a,s.args=[a]
 num:s.op=9->0<=s.num/\s.num<n.routines.length
 into:s.into≠0->1<=s.into/\s.into<=us.length
 kids:(s.op=7∨s.op=8)->s.kids.length=(W6 n.decls s.op s.num).length/\(W6 n.decls s.op s.num).length≠0 /\
  ∀(i:Nat) (b:Z8) (m:LI),s.kids[i]? = some b->(W6 n.decls s.op s.num)[i]? = some m->0<=W9 n (us++m) b
theorem Zb4 {n:ZF} {us:LI} {op num:Int} {kids:List Z8} (h:0<=JA n us op num kids) :
  kids.length=(W6 n.decls op num).length/\(W6 n.decls op num).length≠0/\∀(i:Nat) (b:Z8) (m:LI),kids[i]? = some b->(W6 n.decls op num)[i]? = some m->0<=W9 n (us++m) b:=by
 rw [JA] at h
 split at h
 ·omega
 ·rename_i hq
  exact ⟨by omega,by omega,PQ (Int.le_refl 0) h⟩
theorem R8 {xs:LI} (h:xs.length=1):∃a,xs=[a]:=by
 match xs,h with
 | [a],_=>exact ⟨a,rfl⟩
theorem Z1e {n:ZF} {us:LI} {s:Z6} (h:0<=X2 n us s):Cc n us s:=by
 rw [MM] at h
 split at h
 ·omega
 rename_i h0
 have hinto:s.into≠0->1<=s.into/\s.into<=us.length:=by
  intro hi
  have hv:Qc us s.op s.into=true:=by
   cases q:Qc us s.op s.into with
   | true=>rfl
   | false=>exact absurd (.inr (.inl (by rw [q];simp))) h0
  rw [Qc,Z5 hi] at hv
  split at hv
  ·cases ha:Vd us (s.into-1) with
   | none=>rw [ha] at hv;cases hv
   | some t=>have:=(De ha).1;omega
  ·cases hv
 have mk:(∀a∈s.args,0<=a/\a<us.length)->((s.op=7∨s.op=8∨(14<=s.op/\s.op<=17))->∃a,s.args=[a])->(s.op=9->0<=s.num/\s.num<n.routines.length) ->
   ((s.op=7∨s.op=8)->0<=JA n us s.op s.num s.kids)->Cc n us s:=fun a b c d=>⟨a,b,c,hinto,fun q=>Zb4 (d q)⟩
 have ty:∀{tys},V4 us s.args tys=true->s.args.length=tys.length/\∀a∈s.args,0<=a/\a<us.length:=fun q=>MU q
 split at h
 ·rename_i h1
  split at h
  ·rename_i h2
   exact mk (by rw [List.eq_nil_of_length_eq_zero h2.1];simp) om om om
  ·omega
 split at h
 ·split at h
  ·rename_i h1 h2;exact mk (ty h2).2 om om om
  ·omega
 split at h
 ·split at h
  ·rename_i h1 h2;exact mk (ty h2).2 om om om
  ·omega
 split at h
 ·split at h
  ·rename_i h1 h2;exact mk (ty h2.2).2 om om om
  ·omega
 split at h
 ·split at h
  ·rename_i h1 h2;exact mk (ty h2).2 (fun _=>R8 (by simpa using (ty h2).1)) om (fun _=>h)
  ·omega
 split at h
 ·split at h
  ·rename_i h1 h2;exact mk (ty h2).2 (fun _=>R8 (by simpa using (ty h2).1)) om (fun _=>h)
  ·omega
 split at h
 ·rename_i hop
  rw [Kc] at h
  cases hr:Vd n.routines s.num with
  | none=>rw [hr] at h;simp at h
  | some r=>
   rw [hr] at h
   simp only at h
   have hn:=(De hr).1
   rw [BW] at h
   split at h
   ·split at h
    ·rename_i h2;exact mk (ty h2).2 om om om
    ·omega
   ·split at h
    ·omega
    ·rename_i h2
     have h3:V4 us s.args (r.params.take (r.params.length-1))=true:=by
      cases q:V4 us s.args (r.params.take (r.params.length-1)) with
      | true=>rfl
      | false=>exact absurd (.inr (.inr (by rw [q];simp))) h2
     exact mk (ty h3).2 om om om
 split at h
 ·rename_i hop
  rcases he:s.args with _|⟨a,_|⟨b,_|⟨c,r⟩⟩⟩
  ·rw [he,show KQ n.decls us []=-1 from rfl] at h;omega
  ·rw [he,show KQ n.decls us [a]=-1 from rfl] at h;omega
  ·rw [he,KQ] at h
   cases ha:Vd us a with
   | none=>rw [ha] at h;simp at h
   | some t=>
    rw [ha] at h
    simp only at h
    split at h
    ·cases hd:n.decls[(t-1).toNat]? with
     | none=>rw [hd] at h;simp at h
     | some d=>
      rw [hd] at h
      simp only at h
      split at h
      ·rename_i h3
       have h4:=(MU h3).2 b (by simp)
       have h5:=(De ha).1
       refine mk (fun x hx=>?_) om om om
       rw [he] at hx
       rcases YN.1 hx with rfl|hx
       ·omega
       ·rw [Xy.1 hx];exact h4
      ·omega
    ·omega
  ·rw [he,show KQ n.decls us (a::b::c::r)=-1 from rfl] at h;omega
 split at h
 ·rename_i hop
  rcases he:s.args with _|⟨a,_|⟨b,r⟩⟩
  ·rw [he,show KS n.decls us s.op []=-1 from rfl] at h;omega
  ·rw [he,KS] at h
   cases ha:Vd us a with
   | none=>rw [ha] at h;simp at h
   | some t=>
    have h5:=(De ha).1
    refine mk (fun x hx=>?_) (fun _=>⟨a,he⟩) om om
    rw [he] at hx
    rw [Xy.1 hx];omega
  ·rw [he,show KS n.decls us s.op (a::b::r)=-1 from rfl] at h;omega
 ·omega
def Kf (n:ZF) (us:LI) (s:Z6):LI:=if Xi s.op=true then us++[X2 n us s] else us
theorem O2 {L L':ZM} {ln:LI} {v:Int} (h:Cq L ln v=some L'):L'.vars=L.vars/\L'.par=L.par/\L'.con=L.con/\L'.fst=L.fst/\L'.tok=L.tok/\L'.own=L.own.set v.toNat (gI L.own v+1):=by
 rw [Cq] at h
 split at h
 ·cases h;exact ⟨rfl,rfl,rfl,rfl,rfl,rfl⟩
 ·cases h
theorem I6:∀(fs:LI) (own:LI) (p:Int),(Qy own p fs).length=own.length
 | [],own,p=>rfl
 | f::r,own,p=>by rw [Qy,I6 r];split<;>simp
theorem L8 {xs:LI} {q v:Int} (h:∀x∈xs,x<=q) (hq:0<=q):gI xs v<=q:=by
 by_cases h0:gI xs v=0
 ·omega
 ·exact h _ (Gl h0)
theorem L9 {xs:LI} {v:Int} (h:∀x∈xs,0<=x):0<=gI xs v:=by
 by_cases h0:gI xs v=0
 ·omega
 ·exact h _ (Gl h0)
theorem I7:∀(fs:LI) (own:LI) (p:Int),(∀x∈own,0<=x)->∀x∈Qy own p fs,0<=x
 | [],own,p,h=>h
 | f::r,own,p,h=>by
  rw [Qy]
  refine I7 r _ _ fun x hx=>?_
  split at hx
  ·rcases JE hx with hx|rfl
   ·exact h x hx
   ·have:=L9 (v:=p) h;omega
  ·exact h x hx
theorem I5:∀(fs:LI) (own:LI) (p q:Int),0<=q->(∀x∈own,x<=q)->∀x∈Qy own p fs,x<=q+fs.length
 | [],own,p,q,hq,h=>by intro x hx;have:=h x hx;simp;omega
 | f::r,own,p,q,hq,h=>by
  intro x hx
  rw [Qy] at hx
  have:=I5 r _ _ (q+1) om (fun y hy=>by
   split at hy
   ·rcases JE hy with hy|rfl
    ·have:=h y hy;omega
    ·have:=L8 (v:=p) h hq;omega
   ·have:=h y hy;omega) x hx
  simp only [Yp];omega
theorem RS {ds:List Zf} {L L':ZM} {op v:Int} (h:Aj ds L op v=some L'):L'.vars=L.vars/\L'.par=L.par/\L'.con=L.con/\L'.fst=L.fst/\L'.tok.length=L.tok.length /\
  ∃L1,Qb L v=some L1/\L'.own=Qy L1.own (gI L.fst v) (ZO ds (gI L.con v)):=by
 rw [Aj] at h
 split at h
 ·cases h
 ·cases ht:Qb L v with
  | none=>rw [ht] at h;cases h
  | some L1=>
   rw [ht] at h
   simp only at h
   obtain ⟨t1,t2,t3,t4,t5,t6,t7⟩:=JL ht
   cases h
   refine ⟨t2,t3,t4,t5,?_,L1,rfl,rfl⟩
   split
   ·rw [V6]
   ·rfl
theorem Lg {n:ZF} {op num:Int} {ds:List Zf} {q:Int}:∀{as1:LI} {i:Nat} {L L':ZM},XN ds L q->Kt n op num as1 i L=some L'->XN ds L' q/\L'.vars=L.vars/\L'.par=L.par/\L'.con=L.con/\L'.fst=L.fst/\L'.tok=L.tok
 | [],i,L,L',hk,h=>by rw [Kt] at h;cases h;exact ⟨hk,rfl,rfl,rfl,rfl,rfl⟩
 | a::r,i,L,L',hk,h=>by
  rw [Kt] at h
  split at h
  ·cases ht:Qb L a with
   | none=>rw [ht] at h;cases h
   | some L1=>
    rw [ht] at h
    obtain ⟨t1,t2,t3,t4,t5,t6,t7⟩:=JL ht
    obtain ⟨k1,k2,k3,k4,k5,k6⟩:=Lg (hk.take ht) h
    exact ⟨k1,k2.trans t2,k3.trans t3,k4.trans t4,k5.trans t5,k6.trans t6⟩
  ·exact Lg hk h
theorem XN.le {ds:List Zf} {L:ZM} {q q':Int} (h:XN ds L q) (hq:q<=q'):XN ds L q':=⟨h.len,h.down,h.arm,h.nn,fun x hx=>Int.le_trans (h.bd x hx) hq⟩
theorem XN.turn {ds:List Zf} {L L':ZM} {q q':Int} (hk:XN ds L q) (h1:L'.vars=L.vars) (h2:L'.par=L.par) (h3:L'.con=L.con) (h4:L'.fst=L.fst) (h5:L'.tok.length=L.tok.length) (h6:L'.own.length=L.own.length)
  (h7:∀x∈L'.own,0<=x) (h8:∀x∈L'.own,x<=q'):XN ds L' q':=by
 obtain ⟨f1,f2,f3,f4,f5⟩:=hk.len
 refine ⟨⟨by rw [h6,h1];exact f1,by rw [h2,h1];exact f2,by rw [h3,h1];exact f3,by rw [h4,h1];exact f4,by rw [h5,h1];exact f5⟩,?_,?_,h7,h8⟩
 ·rw [h1,h2];exact hk.down
 ·rw [h1,h3,h4];exact hk.arm
theorem DB {xs ys:LI} {j:Int} (h:j.toNat<xs.length):gI (xs++ys) j=gI xs j:=by
 rw [gI,gI,JP h]
theorem OQ {xs:LI} {y:Int} {j:Int} (h:j.toNat=xs.length):gI (xs++[y]) j=y:=by
 rw [gI,h];simp
theorem XN.grow {ds:List Zf} {L:ZM} {q t o p:Int} (hk:XN ds L q) (hp:p<L.vars.length) (ho:0<=o/\o<=q):XN ds (L.grow t o p) q:=by
 obtain ⟨f1,f2,f3,f4,f5⟩:=hk.len
 refine ⟨⟨by simp [ZM.grow,f1],by simp [ZM.grow,f2],by simp [ZM.grow,f3],by simp [ZM.grow,f4],by simp [ZM.grow,f5]⟩,?_,?_,?_,?_⟩
 ·intro j hj hl
  simp only [ZM.grow,Yr,Bh] at hl ⊢
  by_cases hlt:j<L.vars.length
  ·rw [DB om];exact hk.down j hj hlt
  ·rw [OQ om];omega
 ·intro x hx hl
  simp only [ZM.grow,Yr,Bh] at hl ⊢
  by_cases hlt:x<L.vars.length
  ·rw [DB om,DB om]
   intro hc
   have:=hk.arm x hx hlt hc
   exact ⟨this.1,by omega⟩
  ·rw [OQ om];omega
 ·intro x hx
  simp only [ZM.grow,Xr,Xy] at hx
  rcases hx with hx|rfl
  ·exact hk.nn x hx
  ·exact ho.1
 ·intro x hx
  simp only [ZM.grow,Xr,Xy] at hx
  rcases hx with hx|rfl
  ·exact hk.bd x hx
  ·exact ho.2
theorem OR {xs:LI} {k:Nat} {a:Int} {j:Int} (h:xs.length<=j.toNat/\j.toNat<xs.length+k):gI (xs++List.replicate k a) j=a:=by
 rw [gI,D7 h.1,List.getElem?_replicate,Zb om];rfl
theorem OS {xs:LI} {x j c:Int} (h:j.toNat=x.toNat) (hl:x.toNat<xs.length):gI (xs.set x.toNat c) j=c:=by
 rw [gI,h,List.getElem?_set_self hl];rfl
theorem OT {xs:LI} {x j c:Int} (h:j.toNat≠x.toNat):gI (xs.set x.toNat c) j=gI xs j:=by
 rw [gI,gI,List.getElem?_set_ne (fun q=>h q.symm)]
theorem Pc {p:Int}:∀(fs:LI) (L:ZM),CC L p fs=⟨L.vars++fs,L.own++List.replicate fs.length 0,L.par++List.replicate fs.length p,L.con++List.replicate fs.length (-1),
  L.fst++List.replicate fs.length (-1),L.tok++List.replicate fs.length (-1)⟩
 | [],L=>by simp [CC]
 | t::r,L=>by rw [CC,Pc r];simp [ZM.grow,Au]
theorem Z3f {ds:List Zf} {L:ZM} {q x c:Int} (hk:XN ds L q) (hq:0<=q) (hx:0<=x/\x<L.vars.length):XN ds (Cg ds L x c) q/\(Cg ds L x c).vars=L.vars++ZO ds c:=by
 obtain ⟨f1,f2,f3,f4,f5⟩:=hk.len
 rw [Cg,Pc]
 refine ⟨⟨⟨by simp [f1],by simp [f2],by simp [f3],by simp [f4],by simp [f5]⟩,?_,?_,?_,?_⟩,rfl⟩
 ·intro j hj hl
  simp only [Yr] at hl ⊢
  by_cases hlt:j<L.vars.length
  ·rw [DB om];exact hk.down j hj hlt
  ·rw [OR om];omega
 ·intro y hy hl
  simp only [Yr] at hl ⊢
  by_cases hlt:y<L.vars.length
  ·rw [DB (by simp;omega),DB (by simp;omega)]
   by_cases he:y.toNat=x.toNat
   ·rw [OS he om,OS he om]
    intro _
    exact ⟨by omega,by simp⟩
   ·rw [OT he,OT he]
    intro hc
    have:=hk.arm y hy hlt hc
    exact ⟨this.1,by omega⟩
  ·rw [OR (by simp;omega)];omega
 ·intro y hy
  simp only [Xr,List.mem_replicate] at hy
  rcases hy with hy|⟨_,rfl⟩
  ·exact hk.nn y hy
  ·exact Int.le_refl 0
 ·intro y hy
  simp only [Xr,List.mem_replicate] at hy
  rcases hy with hy|⟨_,rfl⟩
  ·exact hk.bd y hy
  ·exact hq
theorem GM {n:ZF} {L:ZM} {q:Int} {s:Z6} {i:Nat} {m:LI} (hk:XN n.decls L q) (hq:0<=q) (hf:Cc n L.vars s) (hop:s.op=7∨s.op=8) (hm:(W6 n.decls s.op s.num)[i]? = some m) :
  XN n.decls (TR n.decls L s.op s.num s.args i) q/\(TR n.decls L s.op s.num s.args i).vars=L.vars++m:=by
 rw [TR]
 split
 ·rename_i h8
  obtain ⟨a,ha⟩:=hf.one om
  have hb:=hf.args a (by rw [ha];simp)
  have hg:gI s.args 0=a:=by rw [ha];rfl
  rw [W6,Z5 om,Qw] at hm
  cases hc:(ZW n.decls s.num)[i]? with
  | none=>rw [hc] at hm;cases hm
  | some c=>
   rw [hc] at hm
   cases hm
   have hgc:gI (ZW n.decls s.num) (i:Int)=c:=by rw [gI];simp [hc]
   rw [hg,hgc]
   exact Z3f hk hq hb
 ·rename_i h8
  rw [W6,Zb om] at hm
  have:m=[]:=by
   match i,hm with
   | 0,hm=>simpa using hm.symm
   | 1,hm=>simpa using hm.symm
   | i+2,hm=>simp at hm
  subst this
  exact ⟨hk,by simp⟩
theorem Z1f {n:ZF}:∀{l:List Z6} {us vs:LI},UA n l us=some vs->us.length<=vs.length
 | [],us,vs,h=>by rw [UA] at h;cases h;exact Xc _
 | s::r,us,vs,h=>by
  rw [UA] at h
  split at h
  ·cases h
  ·have:=Z1f h
   split at this
   ·simp only [Yr,Bh] at this;omega
   ·exact this
theorem Pd {n:ZF} {ln:LI} {L L':ZM} {op num into q:Int} {args:LI} {ds:List Zf} (hk:XN ds L q) (h:Js n ln L op num into args=some L'):XN ds L' q/\L'.vars=L.vars:=by
 rw [Js] at h
 cases ht:Kt n op num args 0 L with
 | none=>rw [ht] at h;cases h
 | some L1=>
  rw [ht] at h
  simp only at h
  obtain ⟨k1,k2,k3,k4,k5,k6⟩:=Lg hk ht
  split at h
  ·rw [EG] at h
   split at h
   ·split at h
    ·cases h
    ·cases h
     exact ⟨k1.turn rfl rfl rfl rfl (by simp) rfl k1.nn k1.bd,k2⟩
   ·cases h;exact ⟨k1,k2⟩
  ·cases h
theorem Z4r {L L':ZM} {m:Nat} (h:Jq L m=some L'):L'=L.take m/\C4 (L.own.drop m) (L.tok.drop m)=true:=by
 rw [Jq] at h
 split at h
 ·rename_i hz;cases h;exact ⟨rfl,hz⟩
 ·cases h
theorem MT {r:Option ZM} {f:ZM->Option ZM} {L:ZM} (h:Fm r f=some L):∃L1,r=some L1/\f L1=some L:=by
 cases r with
 | none=>cases h
 | some L1=>exact ⟨L1,rfl,h⟩
theorem R4 (n:ZF) (hn:XA n) (ln:LI):∀m:Nat,
  (∀(s:Z6) (L L':ZM) (q:Int),s.sz<=m->XN n.decls L q->0<=q->0<=X2 n L.vars s->QI n ln L s=some L'->XN n.decls L' (q+4*s.sz)/\L'.vars=Kf n L.vars s) /\
  (∀(b:Z8) (L O:ZM) (q:Int) (k:Nat),b.sz<=m->XN n.decls L q->0<=q->0<=W9 n L.vars b->k<=L.vars.length->U7 n ln L k b=some O ->
   (O.own.length=k/\O.tok.length=k/\(∀x∈O.own,0<=x/\x<=q+4*b.sz))/\Tv O/\O.vars.length=k):=by
 intro m
 induction m with
 | zero=>exact ⟨fun s _ _ _ h=>by have:=s.sz_pos;omega,fun s _ _ _ _ h=>by have:=s.sz_pos;omega⟩
 | succ m ih=>
  have hs:∀(s:Z6) (L L':ZM) (q:Int),s.sz<=m+1->XN n.decls L q->0<=q->0<=X2 n L.vars s->QI n ln L s=some L'->XN n.decls L' (q+4*s.sz)/\L'.vars=Kf n L.vars s:=by
   intro s L L' q XT hk hq hty h
   have hp:=s.sz_pos
   have hf:=Z1e hty
   obtain ⟨f1,f2,f3,f4,f5⟩:=hk.len
   rw [Z1c] at h
   unfold Ac at h
   cases hpk:JJ n ln L s.op s.num s.into s.args (J3 n ln L s.op s.num s.args s.kids) with
   | none=>rw [hpk] at h;cases h
   | some L1=>
    rw [hpk] at h
    simp only at h
    have key:XN n.decls L1 (q+4*s.sz)/\L1.vars=L.vars:=by
     rw [JJ] at hpk
     split at hpk
     ·obtain ⟨d1,d2,d3,d4,d5,d6⟩:=O2 hpk
      refine ⟨hk.turn d1 d2 d3 d4 (by rw [d5]) (by rw [d6,V6]) ?_ ?_,d1⟩
      ·rw [d6];intro x hx
       rcases JE hx with hx|rfl
       ·exact hk.nn x hx
       ·have:=L9 (v:=gI s.args 0) hk.nn;omega
      ·rw [d6];intro x hx
       rcases JE hx with hx|rfl
       ·have:=hk.bd x hx;omega
       ·have:=L8 (v:=gI s.args 0) hk.bd hq;omega
     split at hpk
     ·exact ⟨(hk.take hpk).le om,(JL hpk).2.1⟩
     split at hpk
     ·rename_i hop
      obtain ⟨d1,d2,d3,d4,d5,Lt,ht,d6⟩:=RS hpk
      have hkt:=hk.take ht
      have h3:=Vp hn.decls (gI L.con (gI s.args 0))
      refine ⟨hk.turn d1 d2 d3 d4 d5 ?_ ?_ ?_,d1⟩
      ·rw [d6,I6,(JL ht).2.2.2.2.2.2,V6]
      ·rw [d6];exact I7 _ _ _ hkt.nn
      ·rw [d6];intro x hx
       have:=I5 _ _ _ q hq hkt.bd x hx;omega
     split at hpk
     ·rename_i hop
      split at hpk
      ·cases hpk
      ·cases hks:s.kids with
       | nil=>rw [hks,J3] at hpk;cases hpk
       | cons b bs=>
        rw [hks,J3] at hpk
        unfold CP at hpk
        cases hb:U7 n ln (TR n.decls L s.op s.num s.args 0) L.vars.length b with
        | none=>rw [hb] at hpk;cases hpk
        | some one=>
         rw [hb] at hpk
         simp only at hpk
         split at hpk
         ·cases hpk
          obtain ⟨q1,q2,q3⟩:=hf.kids hop
          have hks0:s.kids[0]? = some b:=by rw [hks];rfl
          obtain ⟨a0,ha0⟩:=Ql (xs:=W6 n.decls s.op s.num) (j:=0) om
          obtain ⟨k1,k2⟩:=GM hk hq hf hop ha0
          have hbz:=Qr hks0
          obtain ⟨⟨r1,r2,r3⟩,_⟩:=ih.2 b _ one q L.vars.length om k1 hq (by rw [k2];exact q3 0 b a0 hks0 ha0) (by rw [k2];simp) hb
          refine ⟨hk.turn rfl rfl rfl rfl (by simp only;omega) (by simp only;omega) (fun x hx=>(r3 x hx).1) (fun x hx=>?_),rfl⟩
          have:=(r3 x hx).2;omega
         ·cases hpk
     ·obtain ⟨k1,k2⟩:=Pd hk hpk
      exact ⟨k1.le om,k2⟩
    split at h
    ·rename_i hd
     cases h
     refine ⟨key.1.grow om ?_,by rw [Kf,Zb hd];simp [ZM.grow,key.2]⟩
     split<;>omega
    ·rename_i hd
     cases h
     exact ⟨key.1,by rw [Kf,Z5 hd];exact key.2⟩
  refine ⟨hs,?_⟩
  intro b L O q k XT hk hq hty hkl h
  have hsteps:∀(l:List Z6) (L L':ZM) (q:Int) (vs:LI),Yx l<=m->XN n.decls L q->0<=q->UA n l L.vars=some vs->JK n ln L l=some L'->XN n.decls L' (q+4*Yx l)/\L'.vars=vs:=by
   intro l
   induction l with
   | nil=>intro L L' q vs _ hk _ h1 h2;rw [UA] at h1;rw [JK] at h2;cases h1;cases h2;exact ⟨by simpa [Yx] using hk,rfl⟩
   | cons s r ihr=>
    intro L L' q vs hz hk hq h1 h2
    rw [Yx] at hz
    rw [JK] at h2
    obtain ⟨L1,e1,e2⟩:=MT h2
    rw [UA] at h1
    split at h1
    ·cases h1
    ·rename_i h0
     obtain ⟨k1,k2⟩:=hs s L L1 q om hk hq om e1
     obtain ⟨k3,k4⟩:=ihr L1 L' (q+4*s.sz) vs om k1 om (by rw [k2];exact h1) e2
     exact ⟨k3.le (by rw [Yx];omega),k4⟩
  have hbz:=b.sz_eq
  rw [Ic] at h
  obtain ⟨L1,e1,e2⟩:=MT h
  rw [Ie] at hty
  cases hv:UA n b.steps L.vars with
  | none=>rw [hv] at hty;simp at hty
  | some vs=>
   obtain ⟨k1,k2⟩:=hsteps b.steps L L1 q vs om hk hq hv e1
   have hlen:=Z1f hv
   rw [Aa] at e2
   obtain ⟨L2,e3,e4⟩:=MT e2
   have k3:XN n.decls L2 (q+4*Yx b.steps)/\L2.vars=L1.vars:=by
    split at e3
    ·exact ⟨k1.take e3,(JL e3).2.1⟩
    ·cases e3;exact ⟨k1,rfl⟩
   obtain ⟨rfl,_⟩:=Z4r e4
   obtain ⟨g1,g2,g3,g4,g5⟩:=k3.1.len
   have hl2:L2.vars.length=vs.length:=by rw [k3.2,k2]
   refine ⟨⟨by simp [ZM.take];omega,by simp [ZM.take];omega,fun x hx=>?_⟩,⟨by simp [ZM.take];omega,by simp [ZM.take];omega,by simp [ZM.take];omega,by simp [ZM.take];omega,by simp [ZM.take];omega⟩,by simp [ZM.take];omega⟩
   have hx':x∈L2.own:=QO hx
   have:=k3.1.nn x hx'
   have:=k3.1.bd x hx'
   omega
theorem Z1d {n:ZF} (hn:XA n) {ln:LI} {s:Z6} {L L':ZM} {q:Int} (hk:XN n.decls L q) (hq:0<=q) (hty:0<=X2 n L.vars s) (h:QI n ln L s=some L'):XN n.decls L' (q+4*s.sz)/\L'.vars=Kf n L.vars s:=
 (R4 n hn ln s.sz).1 s L L' q (Xc _) hk hq hty h
theorem Ny {n:ZF} (hn:XA n) {ln:LI} {b:Z8} {L O:ZM} {q:Int} {k:Nat} (hk:XN n.decls L q) (hq:0<=q) (hty:0<=W9 n L.vars b) (hkl:k<=L.vars.length) (h:U7 n ln L k b=some O) :
  O.own.length=k/\O.tok.length=k/\(∀x∈O.own,0<=x/\x<=q+4*b.sz):=
 ((R4 n hn ln b.sz).2 b L O q k (Xc _) hk hq hty hkl h).1
theorem F5 {n:ZF} (hn:XA n) {ln:LI} {s:Z6} {L L1:ZM} {q:Int} (hk:XN n.decls L q) (hq:0<=q) (hf:Cc n L.vars s)
  (hpk:JJ n ln L s.op s.num s.into s.args (J3 n ln L s.op s.num s.args s.kids)=some L1):XN n.decls L1 (q+4*s.sz)/\L1.vars=L.vars:=by
 have hp:=s.sz_pos
 obtain ⟨f1,f2,f3,f4,f5⟩:=hk.len
 rw [JJ] at hpk
 split at hpk
 ·obtain ⟨d1,d2,d3,d4,d5,d6⟩:=O2 hpk
  refine ⟨hk.turn d1 d2 d3 d4 (by rw [d5]) (by rw [d6,V6]) ?_ ?_,d1⟩
  ·rw [d6];intro x hx
   rcases JE hx with hx|rfl
   ·exact hk.nn x hx
   ·have:=L9 (v:=gI s.args 0) hk.nn;omega
  ·rw [d6];intro x hx
   rcases JE hx with hx|rfl
   ·have:=hk.bd x hx;omega
   ·have:=L8 (v:=gI s.args 0) hk.bd hq;omega
 split at hpk
 ·exact ⟨(hk.take hpk).le om,(JL hpk).2.1⟩
 split at hpk
 ·rename_i hop
  obtain ⟨d1,d2,d3,d4,d5,Lt,ht,d6⟩:=RS hpk
  have hkt:=hk.take ht
  have h3:=Vp hn.decls (gI L.con (gI s.args 0))
  refine ⟨hk.turn d1 d2 d3 d4 d5 ?_ ?_ ?_,d1⟩
  ·rw [d6,I6,(JL ht).2.2.2.2.2.2,V6]
  ·rw [d6];exact I7 _ _ _ hkt.nn
  ·rw [d6];intro x hx
   have:=I5 _ _ _ q hq hkt.bd x hx;omega
 split at hpk
 ·rename_i hop
  split at hpk
  ·cases hpk
  ·cases hks:s.kids with
   | nil=>rw [hks,J3] at hpk;cases hpk
   | cons b bs=>
    rw [hks,J3] at hpk
    unfold CP at hpk
    cases hb:U7 n ln (TR n.decls L s.op s.num s.args 0) L.vars.length b with
    | none=>rw [hb] at hpk;cases hpk
    | some one=>
     rw [hb] at hpk
     simp only at hpk
     split at hpk
     ·cases hpk
      obtain ⟨q1,q2,q3⟩:=hf.kids hop
      have hks0:s.kids[0]? = some b:=by rw [hks];rfl
      obtain ⟨a0,ha0⟩:=Ql (xs:=W6 n.decls s.op s.num) (j:=0) om
      obtain ⟨k1,k2⟩:=GM hk hq hf hop ha0
      have hbz:=Qr hks0
      obtain ⟨r1,r2,r3⟩:=Ny hn k1 hq (by rw [k2];exact q3 0 b a0 hks0 ha0) (by rw [k2];simp) hb
      refine ⟨hk.turn rfl rfl rfl rfl (by simp only;omega) (by simp only;omega) (fun x hx=>(r3 x hx).1) (fun x hx=>?_),rfl⟩
      have:=(r3 x hx).2;omega
     ·cases hpk
 ·obtain ⟨k1,k2⟩:=Pd hk hpk
  exact ⟨k1.le om,k2⟩
end Go.Abs
section
namespace Go.Abs
theorem Z3g {ds:List Zf} {op num:Int} {i:Nat} {m:LI} (h8:op=8) (h:(W6 ds op num)[i]? = some m):∃c,(ZW ds num)[i]? = some c/\m=ZO ds c:=by
 rw [W6,Z5 om,Qw] at h
 cases hc:(ZW ds num)[i]? with
 | none=>rw [hc] at h;cases h
 | some c=>rw [hc] at h;cases h;exact ⟨c,rfl,rfl⟩
theorem Zb0 {ds:List Zf} {L:ZM} {op num x c:Int} {args:LI} {i:Nat} (h8:op=8) (hx:args[0]? = some x) (hc:(ZW ds num)[i]? = some c):TR ds L op num args i=Cg ds L x c:=by
 have h1:gI args 0=x:=by rw [gI];simp [hx]
 have h2:gI (ZW ds num) (i:Int)=c:=by rw [gI];simp [hc]
 rw [TR,Zb h8,h1,h2]
theorem Zb1 {ds:List Zf} {L:ZM} {op num:Int} {args:LI} {i:Nat} (h8:¬op=8):TR ds L op num args i=L:=by rw [TR,Z5 h8]
theorem Zb2 {n:ZF} {ln:LI} {L:ZM} {op num:Int} {args:LI} {kids:List Z8} {kb:Z8} (h:kids[0]? = some kb) :
  J3 n ln L op num args kids=CP L (U7 n ln (TR n.decls L op num args 0) L.vars.length kb) fun one=>Jz n ln L op num args one (kids.drop 1) 1:=by
 cases kids with
 | nil=>simp at h
 | cons b bs=>simp at h;subst h;rw [J3];rfl
theorem Zb3 {n:ZF} {ln:LI} {L one:ZM} {op num:Int} {args:LI} {kids:List Z8} {kb:Z8} {k:Nat} (h:kids[k]? = some kb) :
  Jz n ln L op num args one (kids.drop k) k=Hv one (U7 n ln (TR n.decls L op num args k) L.vars.length kb) (Jz n ln L op num args one (kids.drop (k+1)) (k+1)):=by
 rw [Yh h,Jz]
def Ck (n:ZF) (ln:LI) (L:ZM) (s:Z6):Option ZM:=
 if s.op=8/\¬T9 L ln (gI s.args 0)=true then none else J3 n ln L s.op s.num s.args s.kids
theorem Z44 {n:ZF} {ln:LI} {L:ZM} {s:Z6} {kb:Z8} (h:¬(s.op=8/\¬T9 L ln (gI s.args 0)=true)) (hk:s.kids[0]? = some kb) :
  Ck n ln L s=CP L (U7 n ln (TR n.decls L s.op s.num s.args 0) L.vars.length kb) fun one=>Jz n ln L s.op s.num s.args one (s.kids.drop 1) 1:=by
 rw [Ck,Z5 h,Zb2 hk]
theorem Ks {xs:LI} {x:Int} (h:xs[0]? = some x):gI xs 0=x:=by rw [gI];simp [h]
end Go.Abs
namespace Go.Abs
theorem Tv.grow {L:ZM} {t o p:Int} (h:Tv L):Tv (L.grow t o p):=by
 obtain ⟨f1,f2,f3,f4,f5⟩:=h
 exact ⟨by simp [ZM.grow,f1],by simp [ZM.grow,f2],by simp [ZM.grow,f3],by simp [ZM.grow,f4],by simp [ZM.grow,f5]⟩
theorem Tv.arm {L:ZM} {i j:Nat} {c d:Int} (h:Tv L):Tv ⟨L.vars,L.own,L.par,L.con.set i c,L.fst.set j d,L.tok⟩:=by
 obtain ⟨f1,f2,f3,f4,f5⟩:=h
 exact ⟨f1,f2,by simp [f3],by simp [f4],f5⟩
end Go.Abs
namespace Go.Abs
theorem PP {n:ZF} (hn:XA n) {ln:LI} {L O:ZM} {q:Int} {s:Z6} {i:Nat} {kb:Z8} {m:LI} (hk:XN n.decls L q) (hq:0<=q) (hf:Cc n L.vars s) (hop:s.op=7∨s.op=8)
  (_:s.kids[i]? = some kb) (harm:(W6 n.decls s.op s.num)[i]? = some m) (hbt:0<=W9 n (L.vars++m) kb) (h:U7 n ln (TR n.decls L s.op s.num s.args i) L.vars.length kb=some O) :
  O.own.length=L.vars.length/\O.tok.length=L.vars.length:=by
 obtain ⟨k1,k2⟩:=GM hk hq hf hop harm
 obtain ⟨r1,r2,_⟩:=Ny hn k1 hq (by rw [k2];exact hbt) (by rw [k2];simp) h
 exact ⟨r1,r2⟩
theorem Zev {one two:ZM} {r:Bool} (h:¬(¬one.own=two.own∨¬one.tok=two.tok)):Hv one (some two) r=r:=Zb ⟨UD.1 fun q=>h (.inl q),UD.1 fun q=>h (.inr q)⟩
theorem Zeu {one two:ZM} {r:Bool} (h:¬one.own=two.own∨¬one.tok=two.tok):Hv one (some two) r=false:=Z5 fun q=>h.elim (fun z=>z q.1) fun z=>z q.2
theorem Zc6 {L one:ZM} {f:ZM->Bool} (h:f one=true):CP L (some one) f=some ⟨L.vars,one.own,L.par,L.con,L.fst,one.tok⟩:=Zb h
theorem Rm {L one:ZM} {f:ZM->Bool} (h:f one=false):CP L (some one) f=none:=Z5 (by rw [h];simp)
end Go.Abs
namespace Go.Abs
section
variable {n:ZF} {ln:LI} {L:ZM} {s:Z6}
abbrev Ak (n:ZF) (ln:LI) (L:ZM) (s:Z6):Option ZM:=JJ n ln L s.op s.num s.into s.args (J3 n ln L s.op s.num s.args s.kids)
theorem S4 {x:Int} (h:s.op=14) (hx:gI s.args 0=x):Ak n ln L s=Cq L ln x:=hx▸Zb h
theorem S5 {x:Int} (h:s.op=15) (hx:gI s.args 0=x):Ak n ln L s=Qb L x:=by rw [<-hx,Ak,JJ,Z5 om,Zb h]
theorem S6 {x:Int} (h:s.op=16∨s.op=17) (hx:gI s.args 0=x):Ak n ln L s=Aj n.decls L s.op x:=by rw [<-hx,Ak,JJ,Z5 om,Z5 om,Zb h]
theorem S7 (h:s.op=7∨s.op=8):Ak n ln L s=Ck n ln L s:=by rw [Ak,JJ,Z5 om,Z5 om,Z5 om,Zb h,Ck]
theorem S8 (h1:¬s.op=14) (h2:¬s.op=15) (h3:¬(s.op=16∨s.op=17)) (h4:¬(s.op=7∨s.op=8)):Ak n ln L s=Js n ln L s.op s.num s.into s.args:=by
 rw [Ak,JJ,Z5 h1,Z5 h2,Z5 h3,Z5 h4]
theorem Z5c {v:Int} (h:¬T9 L ln v=true):Cq L ln v=none:=Z5 h
theorem Z5d {v x:Int} (h:¬¬T9 L ln v=true) (hx:gI L.own v=x):Cq L ln v=some ⟨L.vars,L.own.set v.toNat (x+1),L.par,L.con,L.fst,L.tok⟩:=by rw [Cq,Zb (UD.1 h),hx]
theorem Tq (n:ZF) (ln:LI) (L:ZM) (s:Z6):QI n ln L s=Ac L s.op (X2 n L.vars s) (Ak n ln L s):=Z1c n ln L s
theorem Tg {X:ZM} {op t:Int} (h:Xi op=true/\t≠0):Ac L op t (some X)=some (X.grow t 1 (-1)):=by
 unfold Ac;simp only [h.1,↓reduceIte];rw [Zb h.2]
theorem Th {X:ZM} {op t:Int} (h:¬(Xi op=true/\t≠0)) (h2:Xi op=true):Ac L op t (some X)=some (X.grow 0 0 (-1)):=by
 have ht:t=0:=UD.1 fun q=>h ⟨h2,q⟩
 subst ht
 unfold Ac;simp only [h2,↓reduceIte];rfl
theorem Ti {X:ZM} {op t:Int} (h:¬Xi op=true):Ac L op t (some X)=some X:=by
 unfold Ac;simp only [Z5 h]
end
end Go.Abs
namespace Go.Abs
theorem Nz {n:ZF} {us:LI} {b:Z8} (h:0<=W9 n us b):∃vs t,UA n b.steps us=some vs/\Vd vs b.result=some t/\0<=t:=by
 rw [Ie] at h
 cases hv:UA n b.steps us with
 | none=>rw [hv] at h;simp at h
 | some vs=>
  rw [hv] at h
  simp only at h
  cases ha:Vd vs b.result with
  | none=>rw [ha] at h;simp at h
  | some t=>rw [ha] at h;exact ⟨vs,t,rfl,ha,h⟩
theorem Z1g {n:ZF} {us vs:LI} {s:Z6} {r:List Z6} (h:UA n (s::r) us=some vs):0<=X2 n us s/\UA n r (Kf n us s)=some vs:=by
 rw [UA] at h
 split at h
 ·cases h
 ·exact ⟨by omega,h⟩
theorem Z09 (n:ZF) (us:LI) (s:Z6):us.length<=(Kf n us s).length/\(Kf n us s).length<=us.length+s.sz:=by
 have:=s.sz_pos
 rw [Kf];split
 ·simp only [Yr,Bh];omega
 ·omega
end Go.Abs
namespace Go.Abs
theorem Z5u {X L:ZM} {m:Nat} {r x:Int} (hg:gI L.vars r=x) (h:x≠0) (ht:Qb L r=some X):Aa m r L=Jq X m:=by rw [Aa,hg,Zb h,ht];rfl
theorem Z5t {L:ZM} {m:Nat} {r x:Int} (hg:gI L.vars r=x) (h:x≠0) (ht:Qb L r=none):Aa m r L=none:=by rw [Aa,hg,Zb h,ht];rfl
theorem Ey {L:ZM} {m:Nat} {r x:Int} (hg:gI L.vars r=x) (h:¬x≠0):Aa m r L=Jq L m:=by rw [Aa,hg,Z5 h];rfl
end Go.Abs
namespace Go.Abs
theorem S3 {ds:List Zf} {lent:LI}:∀{ps:LI} {i:Nat} {L:ZM},XN ds L 1->XN ds (B8 lent ps i L) 1/\(B8 lent ps i L).vars=L.vars++ps
 | [],i,L,hk=>⟨hk,by simp [B8]⟩
 | t::r,i,L,hk=>by
  rw [B8]
  obtain ⟨k1,k2⟩:=S3 (lent:=lent) (ps:=r) (i:=i+1) (hk.grow (t:=t) (o:=if t≠0/\¬(i:Int)∈lent then 1 else 0) (p:=-1) om (by split<;>omega))
  exact ⟨k1,by rw [k2];simp [ZM.grow]⟩
theorem Zcc (ds:List Zf) (r:YC):XN ds (KC r) 1/\(KC r).vars=r.params:=by
 have h:XN ds (⟨[],[],[],[],[],[]⟩:ZM) 1:=⟨⟨rfl,rfl,rfl,rfl,rfl⟩,fun j h1 h2=>by simp at h2;omega,fun j h1 h2=>by simp at h2;omega,by simp,by simp⟩
 obtain ⟨k1,k2⟩:=S3 (lent:=r.lent) (ps:=r.params) (i:=0) h
 exact ⟨k1,by rw [KC,k2];rfl⟩
end Go.Abs
namespace Go.Abs
theorem SP {n:ZF}:∀{l:List YC},Ba n l=true->∀r∈l,¬Be r.body<0/\W9 n r.params r.body=r.result
 | [],_,r,h=>by simp at h
 | a::l,h,r,hr=>by
  rw [Ba] at h
  split at h
  ·rename_i h1
   rcases YN.1 hr with rfl|hr
   ·exact h1
   ·exact SP h r hr
  ·cases h
theorem Zhs {n:ZF} (hz:JR n) (h:Ki n=true):XA n/\∀r∈n.routines,0<=W9 n r.params r.body:=by
 simp only [Ki,Xg] at h
 refine ⟨Rs hz h.1,fun r hr=>?_⟩
 rw [(SP h.2 r hr).2]
 have h1:=h.1
 simp only [Ai,T7,Xg] at h1
 have:=MA h1.2.1.2.2.1 (Q9 r) (XM.2 ⟨r,hr,rfl⟩)
 simp only [J9,Xg,decide_eq_true_eq,Q9] at this
 exact (of_decide_eq_true this.2.2).1
end Go.Abs
end
section
namespace Go.Abs
end Go.Abs
namespace Go.Abs
end Go.Abs
namespace Go.Abs
end Go.Abs
end
section
namespace Go.Abs
theorem Z4e {c:Int} {ds:List Zf} {k:Nat} {d:Zf} {r:Int × LI} (h:ds[k]? = some d) (hn:¬(c-YK (ds.take k)>=0/\c-YK (ds.take k)<d.cons.length))
  (hr:Uw c (ds.drop k) k (YK (ds.take k))=r):Uw c (ds.drop (k+1)) (k+1) (YK (ds.take (k+1)))=r:=by
 rw [Yh h,Uw,Z5 om] at hr
 rw [Vg h,Dg,<-hr];rfl
end Go.Abs
namespace Go.Abs
theorem Z4g {c:Int} {ds:List Zf} {k:Nat} {d:Zf} {x:Yo} (h:ds[k]? = some d) (hn:c-YK (ds.take k)>=0/\c-YK (ds.take k)<d.cons.length)
  (hx:d.cons[(c-YK (ds.take k)).toNat]? = some x):Uw c (ds.drop k) k (YK (ds.take k))=((k:Int)+1,x.fields):=by
 rw [Yh h,Uw,Zb om,hx];rfl
def Bk (c:Int) (z:Nat) (v:Int):Prop:=v=c-z∨(c<0/\c-z < -9223372036854775808/\v=c-z+18446744073709551616)
theorem Z3j {c:Int} {z l:Nat} {v:Int} (h:Bk c z v) (hz:z<=100) (hl:l<=3) (hc:-9223372036854775808<=c/\c<=9223372036854775807):Bk c (z+l) (D6 (v-l)):=by
 unfold Bk at *;rw [D6,IntKind.wrap_i64];omega
theorem Z4f {c v:Int} {ds:List Zf} {k:Nat} {d:Zf} {r:Int × LI} (h:ds[k]? = some d) (ha:Bk c (YK (ds.take k)) v) (hn:¬(v>=0/\v<d.cons.length))
  (hr:Uw c (ds.drop k) k (YK (ds.take k))=r):Uw c (ds.drop (k+1)) (k+1) (YK (ds.take (k+1)))=r:=Z4e h (by unfold Bk at ha;omega) hr
theorem Z4h {c v:Int} {ds:List Zf} {k:Nat} {d:Zf} {x:Yo} (h:ds[k]? = some d) (ha:Bk c (YK (ds.take k)) v) (hz:YK (ds.take k)<=100) (hl:d.cons.length<=3) (hc:-9223372036854775808<=c)
  (hn:v>=0/\v<d.cons.length) (hx:d.cons[v.toNat]? = some x):Uw c (ds.drop k) k (YK (ds.take k))=((k:Int)+1,x.fields):=by
 have:v=c-(YK (ds.take k):Int):=by unfold Bk at ha;omega
 subst this
 exact Z4g h hn hx
end Go.Abs
namespace Go.Abs
abbrev NX (ds:List Zf) (d:Zf):Prop:=
 (((¬(0<=d.frm/\d.frm<=ds.length))∨(¬(0<=d.to_/\d.to_<=ds.length)))∨((d.cons.length:Int)>3))∨(((d.cons.length:Int)>0)/\((d.frm≠0)∨(d.to_≠0)))
theorem Z56 {ds:List Zf} {d:Zf} {i:Nat} (h:NX ds d):Tz ds d i=false:=by
 rw [Tz]
 split
 ·rw [Z5];rintro ⟨h1,h2,h3⟩
  rcases h with ((h|h)|h)|h<;>omega
 ·split
  ·rfl
  ·rcases h with ((h|h)|h)|h
   ·rw [decide_eq_false h];rfl
   ·rw [decide_eq_false h,Bool.and_false]
   ·omega
   ·omega
theorem Z57 {ds:List Zf} {d:Zf} {i:Nat} (hl:0<d.cons.length) (h:TL ds.length d.cons=false):Tz ds d i=false:=by
 rw [Tz,Zb hl];split
 ·exact h
 ·rfl
theorem Z58 {ds:List Zf} {d:Zf} {i:Nat} (hl:d.cons.length=0) (h:QU d (ds.take i)=true):Tz ds d i=false:=by
 rw [Tz,Z5 om,Zb h]
theorem Z59 {ds:List Zf} {d:Zf} {i:Nat} (h1:¬NX ds d) (h2:TL ds.length d.cons=true) (h3:d.cons.length=0->QU d (ds.take i)=false):Tz ds d i=true:=by
 rw [Tz]
 have ha:0<=d.frm/\d.frm<=ds.length:=UD.1 fun q=>h1 (.inl (.inl (.inl q)))
 have hb:0<=d.to_/\d.to_<=ds.length:=UD.1 fun q=>h1 (.inl (.inl (.inr q)))
 have hc:¬(d.cons.length:Int)>3:=fun q=>h1 (.inl (.inr q))
 split
 ·rename_i hl
  have hd:¬(d.frm≠0∨d.to_≠0):=fun q=>h1 (.inr ⟨by omega,q⟩)
  rw [Zb ⟨by omega,by omega,by omega⟩];exact h2
 ·rw [Z5 (by rw [h3 om];simp),decide_eq_true ha,decide_eq_true hb];rfl
theorem MZ {ds:List Zf} {k:Nat} {d:Zf} (h:ds[k]? = some d) (hA:Tz ds d k=false) (c:Ta ds (ds.drop k) k=Ta ds ds 0):false=V5 ds:=by
 rw [V5,<-c,Yh h,Ta,G0 h,hA,Z5 (by simp),Bool.and_false]
theorem Zhu {ds:List Zf} {k:Nat} {d:Zf} {r:Bool} (h:ds[k]? = some d) (hA:Tz ds d k=true) (c:Ta ds (ds.drop k) k=r):Ta ds (ds.drop (k+1)) (k+1)=r:=by
 rw [Yh h,Ta,G0 h,hA,Zb rfl] at c;exact c
theorem Zht {ds:List Zf} {k:Nat} (hl:ds.length<=4) (hk:ds.length<=k) (c:Ta ds (ds.drop k) k=Ta ds ds 0):true=V5 ds:=by
 rw [V5,<-c,Xt hk,decide_eq_true hl];rfl
theorem Z4i {m:Nat} {c:Yo} (h:((c.fields.length:Int)>3)∨(¬(Wu m c.fields=true))):A3 m c=false:=by
 rw [A3]
 rcases h with h|h
 ·rw [decide_eq_false om];rfl
 ·rw [TU.2 h,Bool.and_false]
theorem Z4j {m:Nat} {c:Yo} (h:¬(((c.fields.length:Int)>3)∨(¬(Wu m c.fields=true)))):A3 m c=true:=by
 rw [A3,UD.1 fun q=>h (.inr q),decide_eq_true (by have:¬(c.fields.length:Int)>3:=fun q=>h (.inl q);omega)];rfl
end Go.Abs
end
section
namespace Go.Abs
structure VD where
 pms:LI
 lnt:LI
 res:Int
abbrev PS (f:VD):List AV:=[Z4 f.pms,Z4 f.lnt,.i f.res]
abbrev FE (f:VD):AV:=.agg (PS f)
def Tf (fs:List VD):List AV:=fs.map FE
abbrev KA (xs:List VD):AV:=.sl (Tf xs) none
abbrev H4 (xs:List VD) (v:Value):AV:=.sl (Tf xs) (some v)
theorem Ds {xs:List VD} {j:Nat} {x:VD} (h:xs[j]? = some x):(Tf xs)[j]? = some (FE x):=by simp [Tf,h]
@[simp] theorem Ex (xs:List VD):(Tf xs).length=xs.length:=by simp [Tf]
theorem O7 (xs:List VD):∀y∈Tf xs,y.leaves.length=3:=by intro y hy;simp only [Tf,XM] at hy;obtain ⟨x,_,rfl⟩:=hy;rfl
theorem Z5o (xs:List VD):(Zc (Tf xs)).all AV.one=true:=KX fun y hy=>by simp only [Tf,XM] at hy;obtain ⟨x,_,rfl⟩:=hy;rfl
def An (m:Nat) (f:VD):Bool:=J9 m ⟨f.pms,f.res⟩&&Uu f.pms f.lnt
def KE (m:Nat):List VD->Bool
 | []=>true
 | f::r=>if An m f=true then KE m r else false
def IW:List VD->Bool
 | []=>false
 | f::_=>decide (f.pms.length=0)&&decide (f.res=0)
def Qd (ds:List Zf) (fs:List VD):Bool:=V5 ds&&(decide (1<=fs.length/\fs.length<=4)&&(IW fs&&KE ds.length fs))
theorem Ow {fs:List VD} {x:VD} (h:fs[0]? = some x):IW fs=(decide (x.pms.length=0)&&decide (x.res=0)):=by
 cases fs with
 | nil=>simp at h
 | cons f r=>simp at h;subst h;rfl
theorem R7 {ps ls:LI} {j:Nat} {v:Int} {r:Bool} (h:ls[j]? = some v) (hg:(0<=v/\v<=(ps.length:Int)-1)/\ps[v.toNat]?≠some 0/\(∀p,(if j=0 then none else ls[j-1]?)=some p->p<v))
  (hr:Kz ps (ls.drop j) (if j=0 then none else ls[j-1]?)=r):Kz ps (ls.drop (j+1)) (if j+1=0 then none else ls[j+1-1]?)=r:=by
 rw [Yh h,LS hg] at hr
 rw [Z5 om,show j+1-1=j from rfl,h];exact hr
theorem LU {ps ls:LI} {j:Nat} {v:Int} {r:Bool} (h:ls[j]? = some v) (hg:¬((0<=v/\v<=(ps.length:Int)-1)/\ps[v.toNat]?≠some 0/\(∀p,(if j=0 then none else ls[j-1]?)=some p->p<v)))
  (hr:Kz ps (ls.drop j) (if j=0 then none else ls[j-1]?)=r):r=false:=by
 rw [Yh h,GT hg] at hr;exact hr.symm
theorem Hw {m:Nat} {fs:List VD} {k:Nat} {f:VD} {r:Bool} (h:fs[k]? = some f) (hb:An m f=false) (hr:KE m (fs.drop k)=r):r=false:=by
 rw [Yh h,KE,hb,Z5 (by simp)] at hr;exact hr.symm
theorem Zf3 {m:Nat} {fs:List VD} {k:Nat} {f:VD} {r:Bool} (h:fs[k]? = some f) (hb:An m f=true) (hr:KE m (fs.drop k)=r):KE m (fs.drop (k+1))=r:=by
 rw [Yh h,KE,Zb hb] at hr;exact hr
end Go.Abs
namespace Go.Abs
section
variable {ds:List Zf} {fs:List VD} {x:VD}
theorem Zhz (h:((¬(V5 ds=true))∨((fs.length:Int)<1))∨((fs.length:Int)>4)):false=Qd ds fs:=by
 rw [Qd]
 rcases h with (h|h)|h
 ·rw [TU.2 h];rfl
 ·rw [decide_eq_false (p:=1<=fs.length/\fs.length<=4) om];simp
 ·rw [decide_eq_false (p:=1<=fs.length/\fs.length<=4) om];simp
theorem Z22 (hx:fs[0]? = some x) (h:((x.pms.length:Int)>0)∨x.res≠0):false=Qd ds fs:=by
 rw [Qd,Ow hx]
 rcases h with h|h
 ·rw [decide_eq_false (p:=x.pms.length=0) om];simp
 ·rw [decide_eq_false (p:=x.res=0) h];simp
theorem HM (h:KE ds.length fs=false):false=Qd ds fs:=by rw [Qd,h];simp
theorem Zi0 (h:¬(((¬(V5 ds=true))∨((fs.length:Int)<1))∨((fs.length:Int)>4))) (hx:fs[0]? = some x) (h1:¬((x.pms.length:Int)>0)) (h2:¬x.res≠0) (h3:KE ds.length fs=true) :
  true=Qd ds fs:=by
 have hv:V5 ds=true:=UD.1 fun q=>h (.inl (.inl q))
 have ha:¬(fs.length:Int)<1:=fun q=>h (.inl (.inr q))
 have hb:¬(fs.length:Int)>4:=fun q=>h (.inr q)
 rw [Qd,Ow hx,hv,h3,decide_eq_true (p:=1<=fs.length/\fs.length<=4) om,decide_eq_true (p:=x.pms.length=0) om,decide_eq_true (p:=x.res=0) (UD.1 h2)];rfl
abbrev Z0e (m:Nat) (x:VD):Prop:=(((x.pms.length:Int)>3)∨(¬(Wu m x.pms=true)))∨(¬(0<=x.res/\x.res<=m))
theorem Zep {m:Nat} (h:Z0e m x):An m x=false:=by
 rw [An,J9]
 rcases h with (h|h)|h
 ·rw [decide_eq_false (p:=x.pms.length<=3) om];simp
 ·rw [TU.2 h];simp
 ·rw [decide_eq_false h];simp
theorem Mt {m:Nat} (h:Uu x.pms x.lnt=false):An m x=false:=by rw [An,h,Bool.and_false]
theorem Zeq {m:Nat} (h:¬Z0e m x) (hl:Uu x.pms x.lnt=true):An m x=true:=by
 have h1:¬(x.pms.length:Int)>3:=fun q=>h (.inl (.inl q))
 rw [An,J9,hl,decide_eq_true (p:=x.pms.length<=3) om,UD.1 fun q=>h (.inl (.inr q)),decide_eq_true (UD.1 fun q=>h (.inr q))];rfl
end
end Go.Abs
end
section
namespace Go.Abs
structure NTy (n:ZF):Prop where
 result:∀r∈n.routines,0<=r.result
 params:∀r∈n.routines,∀p∈r.params,0<=p
 decl:∀d∈n.decls,d.cons.length=0->0<=d.frm/\0<=d.to_
 fields:∀c,∀f∈ZO n.decls c,0<=f
end Go.Abs
namespace Go.Abs
end Go.Abs
namespace Go.Abs
end Go.Abs
namespace Go.Abs
section
variable {S:Option Int} {c:Prop} [Decidable c] {v:Int} {b:Bool}
end
section
variable {n:ZF} {op num:Int} {ts:LI}
end
end Go.Abs
end
namespace Go.Abs
mutual
def Z6.rng:Z6->Prop
 | .mk _ num _ _ kids=>(-9223372036854775808<=num/\num<=9223372036854775807)/\A0 kids
def Z8.rng:Z8->Prop
 | .mk steps _=>Ao steps
def Ao:List Z6->Prop
 | []=>True
 | s::r=>s.rng/\Ao r
def A0:List Z8->Prop
 | []=>True
 | b::r=>b.rng/\A0 r
end
theorem Z6.rng_eq (s:Z6):s.rng=((-9223372036854775808<=s.num/\s.num<=9223372036854775807)/\A0 s.kids):=by cases s;rw [Z6.rng];rfl
theorem Z8.rng_eq (b:Z8):b.rng=Ao b.steps:=by cases b;rw [Z8.rng];rfl
section
variable {n:ZF} {us ts:LI} {s:Z6}
end
theorem Zh7 {n:ZF} {us:LI} {s:Z6} (h:0<=X2 n us s):(0<=s.op/\s.op<=11)∨(14<=s.op/\s.op<=17):=by
 rw [MM] at h
 by_cases hq:(0<=s.op/\s.op<=11)∨(14<=s.op/\s.op<=17)
 ·exact hq
 ·exfalso
  split at h
  ·omega
  rw [Z5 om,Z5 om,Z5 om,Z5 om,Z5 om,Z5 om,Z5 om,Z5 om,Z5 om] at h
  omega
theorem O1 {n:ZF} {us:LI} {s:Z6} (h:0<=X2 n us s):Xi s.op=!YQ s.op:=by
 have:=Zh7 h
 rw [Xi,YQ,Yd];simp;omega

end Go.Abs
section
namespace Go.Abs
structure Jm where
 mat:Int
 fst:Int
 fds:LI
 chg:Bool
def UK:LI->Int->LI
 | [],_=>[]
 | t::r,p=>if t≠0 then p::UK r (p+1) else UK r (p+1)
theorem Z9i {xs:LI} {k:Nat} {t p:Int} {acc r:LI} (h:xs[k]? = some t) (ha:acc++UK (xs.drop k) (p+k)=r) :
  (if t≠0 then acc++[p+k] else acc)++UK (xs.drop (k+1)) (p+((k+1:Nat):Int))=r:=by
 rw [Yh h,UK] at ha
 rw [show p+((k+1:Nat):Int)=p+k+1 by omega]
 split
 ·rename_i q;rw [Zb q] at ha;rw [U3];exact ha
 ·rename_i q;rw [Z5 q] at ha;exact ha
theorem Z9h {xs:LI} {k:Nat} {p:Int} {acc r:LI} (h:xs.length<=k) (ha:acc++UK (xs.drop k) (p+k)=r):acc=r:=by
 rw [Xt h,UK,KL] at ha;exact ha
theorem Lj:∀{xs:LI} {p f:Int},f∈UK xs p->p<=f/\f<p+xs.length
 | [],_,_,h=>by simp [UK] at h
 | t::r,p,f,h=>by
  rw [UK] at h
  split at h
  ·rcases YN.1 h with rfl|h
   ·simp only [Yp];omega
   ·have:=Lj h;simp only [Yp];omega
  ·have:=Lj h;simp only [Yp];omega
theorem Gq:∀(xs:LI) (p:Int),(UK xs p).length<=xs.length
 | [],_=>by simp [UK]
 | t::r,p=>by
  have:=Gq r (p+1)
  rw [UK];split<;>simp<;>omega
def RA:List Jm->Int->Option Jm
 | [],_=>none
 | a::r,v=>match RA r v with
  | some x=>some x
  | none=>if a.mat=v then some a else none
structure Zic (ds:List Zf) (L:ZM) (as1:List Jm):Prop where
 rng:∀a∈as1,0<=a.mat/\a.mat<a.fst/\a.fst+a.fds.length<=L.vars.length
 par:∀a∈as1,∀v:Int,a.fst<=v->v<a.fst+a.fds.length->gI L.par v=a.mat
 non:∀v:Int,0<=v->v<L.vars.length->0<=gI L.par v->∃a∈as1,a.fst<=v/\v<a.fst+a.fds.length
 off:∀v:Int,0<=v->v<L.vars.length->match RA as1 v with
  | none=>gI L.con v<0
  | some a=>0<=gI L.con v/\a.fst=gI L.fst v/\a.fds=ZO ds (gI L.con v)
end Go.Abs
namespace Go.Abs
end Go.Abs
namespace Go.Abs
end Go.Abs
namespace Go.Abs
section
variable {n:ZF} {ln:LI} {L:ZM} {op v:Int} {am:List Jm} {a:Jm}
end
end Go.Abs
namespace Go.Abs
end Go.Abs
end
section
namespace Go.Abs
section
variable {n:ZF} {us:LI} {op num:Int}
end
end Go.Abs
namespace Go.Abs
end Go.Abs
namespace Go.Abs
end Go.Abs
end
section
namespace Go.Abs
section
variable {n:ZF} {ln:LI}
end
end Go.Abs
namespace Go.Abs
end Go.Abs
namespace Go.Abs
end Go.Abs
namespace Go.Abs
section
variable {n:ZF} {ln:LI} {L:ZM} {s:Z6}
end
end Go.Abs
namespace Go.Abs
end Go.Abs
namespace Go.Abs
end Go.Abs
namespace Go.Abs
end Go.Abs
end
section
namespace Go.Abs
end Go.Abs
namespace Go.Abs
end Go.Abs
namespace Go.Abs
end Go.Abs
end
section
namespace Go.Abs
def Z4a (c:Yo):Nat:=c.fields.length
def NR:List Yo->Nat
 | []=>0
 | c::r=>Z4a c+NR r
def Z4m (l:List Yo):Nat:=l.length+NR l
def Z55 (d:Zf):Nat:=Z4m d.cons
def NZ:List Zf->Nat
 | []=>0
 | d::r=>Z55 d+NZ r
def Z5a (l:List Zf):Nat:=l.length+NZ l
end Go.Abs
namespace Go.Abs
end Go.Abs
namespace Go.Abs
end Go.Abs
namespace Go.Abs
end Go.Abs
end
namespace Go.Abs
def Zw (op v:Int):Z6:=.mk op 0 0 [v] []
def WG (ds:List Zf) (num:Int) (k:Nat):LI:=((ZW ds num).map (ZO ds))[k]?.getD []
section
variable {ds:List Zf} {am:List Jm} {m:Nat}
end
theorem IU {ds:List Zf} {num:Int} {k:Nat} {m:LI} (h:((ZW ds num).map (ZO ds))[k]? = some m):WG ds num k=m:=by rw [WG,h];rfl
theorem Gd {ds:List Zf} (hd:XF ds) (num:Int) (k:Nat):(WG ds num k).length<=3:=by
 rw [WG,Qw]
 cases (ZW ds num)[k]? with
 | none=>simp
 | some c=>exact Vp hd c
theorem HD {xs:List Z6} {k:Nat} {s:Z6} (h:xs[k]? = some s):Yx (xs.take (k+1))=Yx (xs.take k)+s.sz:=by
 induction xs generalizing k with
 | nil=>simp at h
 | cons t r ih=>
  cases k with
  | zero=>simp at h;subst h;simp [Yx]
  | succ k=>rw [Av,Av,Yx,Yx,ih (by simpa using h)];omega
theorem KI (xs:List Z6) (k:Nat):Yx (xs.take k)<=Yx xs:=by
 induction xs generalizing k with
 | nil=>simp
 | cons t r ih=>
  cases k with
  | zero=>simp [Yx]
  | succ k=>have:=ih k;rw [Av,Yx,Yx];omega
theorem Zf1 {n:ZF} {us:LI} {s:Z6} (g:0<=X2 n us s) (h:YQ s.op=true):Kf n us s=us:=by rw [Kf,O1 g,h];rfl
theorem Zf0 {n:ZF} {us:LI} {s:Z6} (g:0<=X2 n us s) (h:¬YQ s.op=true):(Kf n us s).length=us.length+1:=by
 rw [Kf,O1 g,TU.2 h];simp
theorem Zf2 {n:ZF} {us:LI} {s:Z6} (g:0<=X2 n us s):(Kf n us s).length=if YQ s.op=true then us.length else us.length+1:=by
 split
 ·rw [Zf1 g (by assumption)]
 ·exact Zf0 g (by assumption)

theorem Qa:∀(xs ys:List Z6),Yx (xs++ys)=Yx xs+Yx ys
 | [],ys=>by simp [Yx]
 | x::r,ys=>by rw [Jj,Yx,Yx,Qa r ys];omega
theorem FW (op v:Int):(Zw op v).sz=2:=by rw [Zw,Z6.sz];simp [YX]
theorem MJ (op:Int):∀l:LI,Yx (l.map (Zw op))=2*l.length
 | []=>by simp [Yx]
 | x::r=>by rw [Tu,Yx,FW,MJ op r,Yp];omega
section
variable {ds:List Zf} (hd:XF ds)
include hd
end
def XL (n:Nat):LI:=(List.range n).map Int.ofNat
theorem Zcm (n:Nat):XL (n+1)=XL n++[(n:Int)]:=by simp [XL,List.range_succ]
theorem DR (n:Nat):(XL n).length=n:=by simp [XL]
theorem H3 (n:Nat):∀f∈XL n,0<=f/\f<=n:=by
 intro f hf
 simp only [XL,XM,List.mem_range] at hf
 obtain ⟨a,ha,rfl⟩:=hf
 show 0<=(a:Int)/\(a:Int)<=n
 omega
def Cl (ds:List Zf) (num:Int) (k:Nat):Int:=gI (ZW ds num) k
section
variable {ds:List Zf} {cons first:LI}
end
def TK (first:LI):Prop:=∀f∈first,0<=f/\f<=1000000000
theorem TK.snoc {first:LI} (h:TK first):TK (first++[0]):=by
 intro f hf
 rcases Xr.1 hf with hf|hf
 ·exact h f hf
 ·rw [Xy.1 hf];omega
theorem TK.x {first:LI} (h:TK first) {x m k:Nat} (hm:m<=1000000000) (hk:k<=1000000000):TK (first.set x (m:Int)++XL k):=by
 intro f hf
 rcases Xr.1 hf with hf|hf
 ·rcases JE hf with hf|rfl
  ·exact h f hf
  ·omega
 ·have:=H3 k f hf;omega
section
variable {ds:List Zf} (hd:XF ds)
include hd
end
def XQ:List Z6->Nat
 | []=>0
 | s::r=>if s.op=14∨s.op=15 then XQ r+1 else 0
def Wv (op:Int):List Z6->LI
 | []=>[]
 | s::r=>if s.op=op then gI s.args 0::Wv op r else Wv op r
def Ur:LI->Int->LI->LI->LI × LI
 | [],_,D,R=>(D,R)
 | f::r,q,D,R=>if f≠0/\q∈D then Ur r (q+1) (D.erase q) R else if f≠0 then Ur r (q+1) D (R++[q]) else Ur r (q+1) D R
def J7 (xs:List Z6) (x:Int) (fs:LI) (q:Int):LI × LI:=Ur fs q (Wv 14 (xs.take (XQ xs))) ((Wv 15 (xs.take (XQ xs))).erase x)
def QS (xs:List Z6) (x:Int) (fs:LI) (q:Int):List Z6:=
 if x∈Wv 15 (xs.take (XQ xs))/\fs.length≠0 then (J7 xs x fs q).1.map (Zw 14)++[Zw 16 x]++(J7 xs x fs q).2.map (Zw 15)++xs.drop (XQ xs) else xs
def Kk (b:Z8) (x:Int) (fs:LI) (q:Int):Z8:=.mk (QS b.steps x fs q) b.result
theorem Hq:∀xs:List Z6,XQ xs<=xs.length
 | []=>Xc _
 | s::r=>by have:=Hq r;rw [XQ];split<;>simp<;>omega
theorem Z01:∀{xs:List Z6} {s:Z6},s∈xs.take (XQ xs)->s.op=14∨s.op=15
 | [],s,h=>by simp [XQ] at h
 | t::r,s,h=>by
  rw [XQ] at h
  split at h
  ·rename_i q
   rw [Av] at h
   rcases YN.1 h with rfl|h
   ·exact q
   ·exact Z01 h
  ·simp at h
theorem Ib:∀xs:List Z6,(Wv 14 xs).length+(Wv 15 xs).length<=xs.length
 | []=>by simp [Wv]
 | s::r=>by
  have:=Ib r
  rw [Wv,Wv]
  by_cases h:s.op=14
  ·rw [Zb h,Z5 om];simp;omega
  ·rw [Z5 h];split<;>simp<;>omega
theorem H9:∀(fs:LI) (q:Int) (D R:LI),(Ur fs q D R).1.length+(Ur fs q D R).2.length<=D.length+R.length+fs.length
 | [],q,D,R=>by simp [Ur]
 | f::r,q,D,R=>by
  rw [Ur,Yp]
  split
  ·have:=H9 r (q+1) (D.erase q) R
   have h2:=List.length_erase_le (a:=q) (l:=D)
   omega
  ·split
   ·have:=H9 r (q+1) D (R++[q])
    simp only [Yr,Yp,YZ] at this
    omega
   ·have:=H9 r (q+1) D R
    omega
theorem Zd7 {xs:List Z6} {x:Int} {fs:LI} {q:Int} (h:x∈Wv 15 (xs.take (XQ xs))) (hf:fs.length<=3):(J7 xs x fs q).1.length+(J7 xs x fs q).2.length<=XQ xs+2:=by
 have h1:=H9 fs q (Wv 14 (xs.take (XQ xs))) ((Wv 15 (xs.take (XQ xs))).erase x)
 have h2:=Ib (xs.take (XQ xs))
 have h3:=List.length_pos_of_mem h
 rw [List.length_erase_of_mem h] at h1
 rw [Wo] at h2
 have h4:=Hq xs
 unfold J7
 omega
theorem Zgt (xs:List Z6) (k:Nat):Yx xs=Yx (xs.take k)+Yx (xs.drop k):=by rw [<-Qa,TJ]
theorem Z19:∀xs:List Z6,(∀s∈xs,2<=s.sz)->2*xs.length<=Yx xs
 | [],_=>by simp
 | s::r,h=>by
  have h1:=Z19 r fun t ht=>h t (Xz _ ht)
  have h2:=h s (Xo ..)
  rw [Yx,Yp];omega
theorem Z33 {xs:List Z6} {x:Int} {fs:LI} {q:Int} (hf:fs.length<=3) (h:∀s∈xs,s.op=14∨s.op=15->2<=s.sz):Yx (QS xs x fs q)<=Yx xs+6:=by
 rw [QS]
 split
 ·rename_i hc
  have h1:=Zd7 (q:=q) hc.1 hf
  have h2:=Z19 (xs.take (XQ xs)) fun s hs=>h s (QO hs) (Z01 hs)
  have h3:=Zgt xs (XQ xs)
  have h4:=Hq xs
  rw [Wo] at h2
  rw [Qa,Qa,Qa,MJ,MJ,Yx,Yx,FW]
  omega
 ·omega
def Cn (s:Z6):Prop:=s=Zw s.op (gI s.args 0)
theorem Z32 {xs:List Z6} {m:Int} {fs:LI} {q:Int} (h:¬(m∈Wv 15 (xs.take (XQ xs))/\fs.length≠0)):QS xs m fs q=xs:=Z5 h
end Go.Abs
section
namespace Go.Abs
mutual
def KF (ds:List Zf) (m:Nat):Z6->Z6
 | .mk op num into args kids=>.mk op num into args (UR ds m op num args kids 0)
def UR (ds:List Zf) (m:Nat) (op num:Int) (args:LI):List Z8->Nat->List Z8
 | [],_=>[]
 | b::r,k=>(if op=8 then Kk (V2 ds (m+(WG ds num k).length) b) (gI args 0) (WG ds num k) m else V2 ds m b)::UR ds m op num args r (k+1)
def U2 (ds:List Zf) (m:Nat):List Z6->List Z6
 | []=>[]
 | s::r=>KF ds m s::U2 ds (if YQ s.op=true then m else m+1) r
def V2 (ds:List Zf) (m:Nat):Z8->Z8
 | .mk steps result=>.mk (U2 ds m steps) result
end
def Hz (ds:List Zf) (m:Nat) (op num:Int) (args:LI) (k:Nat) (b:Z8):Z8:=if op=8 then Kk (V2 ds (m+(WG ds num k).length) b) (gI args 0) (WG ds num k) m else V2 ds m b
theorem Fh (ds:List Zf) (m:Nat) (s:Z6):KF ds m s=.mk s.op s.num s.into s.args (UR ds m s.op s.num s.args s.kids 0):=by cases s;rw [KF];rfl
theorem Hx (ds:List Zf) (m:Nat) (b:Z8):V2 ds m b=.mk (U2 ds m b.steps) b.result:=by cases b;rw [V2];rfl
section
variable {ds:List Zf} {m:Nat}
theorem Zfa {xs acc r:List Z6} {k:Nat} {s:Z6} (h:xs[k]? = some s) (ha:acc++U2 ds m (xs.drop k)=r) :
  (acc++[.mk s.op s.num s.into s.args (UR ds m s.op s.num s.args s.kids 0)])++U2 ds (if YQ s.op=true then m else m+1) (xs.drop (k+1))=r:=by
 rw [Yh h,U2,Fh] at ha
 rw [<-ha];simp
theorem Zf9 {xs acc r:List Z6} {k:Nat} (h:xs.length<=k) (ha:acc++U2 ds m (xs.drop k)=r):acc=r:=by
 rw [Xt h,U2,KL] at ha;exact ha
theorem Z0i {op num:Int} {args:LI} {bs acc r:List Z8} {k:Nat} {b:Z8} (h:bs[k]? = some b) (ha:acc++UR ds m op num args (bs.drop k) k=r) :
  (acc++[Hz ds m op num args k b])++UR ds m op num args (bs.drop (k+1)) (k+1)=r:=by
 rw [Yh h,UR] at ha
 rw [<-ha,Hz];simp
theorem Zf5 {op num:Int} {args:LI} {bs acc r:List Z8} {k j:Nat} (h:bs.length<=k) (ha:acc++UR ds m op num args (bs.drop k) j=r):acc=r:=by
 rw [Xt h,UR,KL] at ha;exact ha
end
mutual
def wS (ds:List Zf):Z6->Prop
 | .mk op num into args kids=>(Xi op=!YQ op)/\(YQ op=true->num=0/\into=0/\kids=[]/\∃a,args=[a])/\(op=8->(∃a,args=[a]/\0<=a/\a<=900000000)/\kids.length=(ZW ds num).length)/\Ji ds kids
def Ji (ds:List Zf):List Z8->Prop
 | []=>True
 | b::r=>wB ds b/\Ji ds r
def QN (ds:List Zf):List Z6->Prop
 | []=>True
 | s::r=>wS ds s/\QN ds r
def wB (ds:List Zf):Z8->Prop
 | .mk steps _=>QN ds steps
end
section
variable {ds:List Zf}
theorem JN (s:Z6):wS ds s↔(Xi s.op=!YQ s.op)/\(YQ s.op=true->s.num=0/\s.into=0/\s.kids=[]/\∃a,s.args=[a])/\(s.op=8->(∃a,s.args=[a]/\0<=a/\a<=900000000)/\s.kids.length=(ZW ds s.num).length)/\Ji ds s.kids:=by cases s;rw [wS];rfl
theorem Jh (b:Z8):wB ds b↔QN ds b.steps:=by cases b;rw [wB];rfl
theorem Bg:∀{xs:List Z6},QN ds xs↔∀s∈xs,wS ds s
 | []=>by simp [QN]
 | s::r=>by rw [QN,Bg];simp
theorem HN:∀{xs:List Z8},Ji ds xs↔∀s∈xs,wB ds s
 | []=>by simp [Ji]
 | s::r=>by rw [Ji,HN];simp
theorem Z23 {b:Z8} {k:Nat} {s:Z6} (h:wB ds b) (hs:b.steps[k]? = some s):wS ds s:=Bg.1 ((Jh b).1 h) s (Y3 hs)
theorem N2 {s:Z6} {k:Nat} {b:Z8} (h:wS ds s) (hb:s.kids[k]? = some b):wB ds b:=HN.1 ((JN s).1 h).2.2.2 b (Y3 hb)
theorem HO {s:Z6} (h:wS ds s) (hc:YQ s.op=true):Cn s/\s.kids=[]/\∃a,s.args=[a]:=by
 obtain ⟨h1,h2,h3,a,h4⟩:=((JN s).1 h).2.1 hc
 refine ⟨?_,h3,a,h4⟩
 cases s with
 | mk op num into args kids=>
  simp only [Z6.num,Z6.into,Z6.kids,Z6.args] at h1 h2 h3 h4
  subst h1 h2 h3 h4
  rfl
theorem Zi4 {op v:Int} (h:op=14∨op=15∨op=16):wS ds (Zw op v):=(JN _).2 ⟨by show Xi op=!YQ op;rcases h with rfl|rfl|rfl<;>rfl,fun _=>⟨rfl,rfl,rfl,v,rfl⟩,fun e=>absurd e (show op≠8 by omega),True.intro⟩
theorem Zi5 {s:Z6} (h:wS ds s):Xi s.op=!YQ s.op:=((JN s).1 h).1
theorem Fq {s:Z6} (h:wS ds s) (h8:s.op=8):(∃a,s.args=[a]/\0<=a/\a<=900000000)/\s.kids.length=(ZW ds s.num).length:=((JN s).1 h).2.2.1 h8
theorem HU {xs:List Z6} (h:QN ds xs):∀s∈xs,YQ s.op=true->Cn s:=fun s hs hc=>(HO (Bg.1 h s hs) hc).1
end
section
variable {n:ZF}
end
mutual
def Z6.pz:Z6->Nat
 | .mk _ _ _ args kids=>1+args.length+DW kids
def Z8.pz:Z8->Nat
 | .mk steps _=>1+DX steps
def DX:List Z6->Nat
 | []=>0
 | s::r=>s.pz+DX r
def DW:List Z8->Nat
 | []=>0
 | b::r=>b.pz+8+DW r
end
mutual
theorem Z6.pz_le:∀s:Z6,s.pz<=9*s.sz
 | .mk _ _ _ args kids=>by have:=Sd kids;rw [Z6.pz,Z6.sz];omega
theorem Z8.pz_le:∀b:Z8,b.pz+8<=9*b.sz
 | .mk steps _=>by have:=Se steps;rw [Z8.pz,Z8.sz];omega
theorem Se:∀xs:List Z6,DX xs<=9*Yx xs
 | []=>Qf _
 | s::r=>by have:=s.pz_le;have:=Se r;rw [DX,Yx];omega
theorem Sd:∀xs:List Z8,DW xs<=9*YX xs
 | []=>Qf _
 | s::r=>by have:=s.pz_le;have:=Sd r;rw [DW,YX];omega
end
section
variable {ds:List Zf}
theorem Z46 {op:Int} (h:op=14∨op=15):YQ op=true:=by rw [YQ];simp;omega
theorem Zfb {xs:List Z6}:∀{m:Nat},QN ds xs->∀s∈U2 ds m xs,s.op=14∨s.op=15->2<=s.sz:=by
 induction xs with
 | nil=>intro m _ s hs;simp [U2] at hs
 | cons t r ih=>
  intro m h s hs ho
  rw [U2] at hs
  rcases YN.1 hs with rfl|hs
  ·rw [Fh] at ho ⊢
   obtain ⟨_,_,a,ha⟩:=HO h.1 (Z46 ho)
   rw [Z6.sz,ha];simp
  ·exact ih h.2 s hs ho
variable (hd:XF ds)
include hd
mutual
theorem Zf7:∀(s:Z6) {m:Nat},wS ds s->(KF ds m s).sz<=s.pz
 | .mk op num into args kids,m,h=>by
  have:=Z0j kids (m:=m) (op:=op) (num:=num) (args:=args) (k:=0) h.2.2.2
  rw [KF,Z6.sz,Z6.pz];omega
theorem Z0j:∀(bs:List Z8) {m:Nat} {op num:Int} {args:LI} {k:Nat},Ji ds bs->YX (UR ds m op num args bs k)<=DW bs
 | [],_,_,_,_,_,_=>Xc _
 | b::r,m,op,num,args,k,h=>by
  have h2:=Z0j r (m:=m) (op:=op) (num:=num) (args:=args) (k:=k+1) h.2
  rw [UR,YX,DW]
  split
  ·have h1:=Hy b (m:=m+(WG ds num k).length) h.1
   have h3:=Z33 (xs:=(V2 ds (m+(WG ds num k).length) b).steps) (x:=gI args 0) (q:=(m:Int)) (Gd hd num k) (by rw [Hx];exact Zfb ((Jh b).1 h.1))
   rw [Kk,Z8.sz]
   rw [Z8.sz_eq] at h1
   omega
  ·have h1:=Hy b (m:=m) h.1
   omega
theorem Z0l:∀(xs:List Z6) {m:Nat},QN ds xs->Yx (U2 ds m xs)<=DX xs
 | [],_,_=>Xc _
 | s::r,m,h=>by
  have h1:=Zf7 s (m:=m) h.1
  have h2:=Z0l r (m:=if YQ s.op=true then m else m+1) h.2
  rw [U2,Yx,DX];omega
theorem Hy:∀(b:Z8) {m:Nat},wB ds b->(V2 ds m b).sz<=b.pz
 | .mk steps result,m,h=>by
  have:=Z0l steps (m:=m) h
  rw [V2,Z8.sz,Z8.pz];omega
end
end
section
variable {ds:List Zf} {m:Nat}
end
def C0 (ds:List Zf) (r:YC):YC:=⟨r.params,r.lent,r.result,V2 ds r.params.length r.body⟩
def CZ (n:ZF):ZF:=⟨n.decls,n.routines.map (C0 n.decls)⟩
end Go.Abs
namespace Go.Abs
theorem Zem {xs:List Z6} {k:Nat} {s:Z6} {r:Nat} (h:xs[k]? = some s) (hs:s.op=14∨s.op=15) (ha:k+XQ (xs.drop k)=r):k+1+XQ (xs.drop (k+1))=r:=by
 rw [Yh h,XQ,Zb hs] at ha;omega
theorem Zen {xs:List Z6} {k:Nat} {s:Z6} {r:Nat} (h:xs[k]? = some s) (hs:¬(s.op=14∨s.op=15)) (ha:k+XQ (xs.drop k)=r):k=r:=by
 rw [Yh h,XQ,Z5 hs] at ha;omega
theorem Zel {xs:List Z6} {k:Nat} {r:Nat} (h:xs.length<=k) (ha:k+XQ (xs.drop k)=r):k=r:=by
 rw [Xt h,XQ] at ha;omega
theorem Z3d {op:Int} {xs:List Z6} {acc r:LI} {k:Nat} {s:Z6} (h:xs[k]? = some s) (hs:s.op=op) (ha:acc++Wv op (xs.drop k)=r):(acc++[gI s.args 0])++Wv op (xs.drop (k+1))=r:=by
 rw [Yh h,Wv,Zb hs] at ha;rw [<-ha];simp
theorem Z3c {op:Int} {xs:List Z6} {acc r:LI} {k:Nat} {s:Z6} (h:xs[k]? = some s) (hs:¬s.op=op) (ha:acc++Wv op (xs.drop k)=r):acc++Wv op (xs.drop (k+1))=r:=by
 rw [Yh h,Wv,Z5 hs] at ha;exact ha
theorem Z3b {op:Int} {xs:List Z6} {acc r:LI} {k:Nat} (h:xs.length<=k) (ha:acc++Wv op (xs.drop k)=r):acc=r:=by
 rw [Xt h,Wv,KL] at ha;exact ha
theorem Z5x {xs acc r:LI} {y:Int} {k:Nat} {x:Int} {d:Bool} (h:xs[k]? = some x) (ha:acc++(if d=true then xs.drop k else (xs.drop k).erase y)=r) :
  (if x=y/\¬d=true then acc else acc++[x])++(if ((x==y&&!d)||d)=true then xs.drop (k+1) else (xs.drop (k+1)).erase y)=r:=by
 rw [Yh h] at ha
 rw [<-ha]
 by_cases hd:d=true
 ·simp [hd]
 ·by_cases hx:x=y
  ·simp [hd,hx]
  ·rw [Z5 (fun z=>hx z.1),Z5 hd,List.erase_cons_tail (by simpa using hx)]
   simp [hd,hx]
theorem Z5w {xs acc r:LI} {y:Int} {k:Nat} {d:Bool} (h:xs.length<=k) (ha:acc++(if d=true then xs.drop k else (xs.drop k).erase y)=r):acc=r:=by
 rw [Xt h] at ha;simpa using ha
section
variable {fs D R:LI} {q k:Nat} {f:Int} {r:LI × LI}
theorem Zd9 (h:fs[k]? = some f) (h0:f≠0) (hm:((q+k:Nat):Int)∈D) (ha:Ur (fs.drop k) (q+k) D R=r):Ur (fs.drop (k+1)) (q+((k+1:Nat):Int)) (D.erase ((q+k:Nat):Int)) R=r:=by
 rw [Yh h,Ur,Zb ⟨h0,by rw [<-Int.natCast_add];exact hm⟩,<-Int.natCast_add] at ha
 rw [<-ha];congr 1
theorem Zda (h:fs[k]? = some f) (h0:f≠0) (hm:¬((q+k:Nat):Int)∈D) (ha:Ur (fs.drop k) (q+k) D R=r):Ur (fs.drop (k+1)) (q+((k+1:Nat):Int)) D (R++[((q+k:Nat):Int)])=r:=by
 rw [Yh h,Ur,Z5 (fun z=>hm (by rw [Int.natCast_add];exact z.2)),Zb h0,<-Int.natCast_add] at ha
 rw [<-ha];congr 1
theorem Zdb (h:fs[k]? = some f) (h0:¬f≠0) (ha:Ur (fs.drop k) (q+k) D R=r):Ur (fs.drop (k+1)) (q+((k+1:Nat):Int)) D R=r:=by
 rw [Yh h,Ur,Z5 (fun z=>h0 z.1),Z5 h0] at ha
 rw [<-ha];congr 1
theorem Zd8 (h:fs.length<=k) (ha:Ur (fs.drop k) (q+k) D R=r):r=(D,R):=by
 rw [Xt h,Ur] at ha;exact ha.symm
end
theorem Z34 {xs:List Z6} {x:Int} {fs:LI} {q:Int} {D R:LI} (h1:x∈Wv 15 (xs.take (XQ xs))) (h2:fs.length≠0) (hr:J7 xs x fs q=(D,R)):D.map (Zw 14)++[Zw 16 x]++R.map (Zw 15)++xs.drop (XQ xs)=QS xs x fs q:=by
 rw [QS,Zb ⟨h1,h2⟩,hr]
theorem Zf8 {ds:List Zf} {xs:List Z6}:∀{m:Nat},QN ds xs->∀s∈U2 ds m xs,YQ s.op=true->∃a,s.args=[a]:=by
 induction xs with
 | nil=>intro m _ s hs;simp [U2] at hs
 | cons t r ih=>
  intro m h s hs ho
  rw [U2] at hs
  rcases YN.1 hs with rfl|hs
  ·rw [Fh] at ho ⊢
   exact (HO h.1 ho).2.2
  ·exact ih h.2 s hs ho
end Go.Abs
end
namespace Go.Abs
mutual
def Z2.sz:Z2->Nat
 | .mk _ _ kids=>1+XG kids
def XG:List Z2->Nat
 | []=>0
 | e::r=>e.sz+XG r
end
theorem Z2.sz_eq (e:Z2):e.sz=1+XG e.kids:=by cases e;rw [Z2.sz];rfl
theorem Ez:∀xs ys:List Z2,XG (xs++ys)=XG xs+XG ys
 | [],ys=>by simp [XG]
 | x::r,ys=>by rw [Jj,XG,XG,Ez r];omega
theorem Cw:∀{xs:List Z2} {k:Nat} {e:Z2},xs[k]? = some e->e.sz<=XG xs
 | [],k,e,h=>by simp at h
 | x::r,0,e,h=>by simp at h;subst h;rw [XG];omega
 | x::r,k+1,e,h=>by have:=Cw (xs:=r) (k:=k) (by simpa using h);rw [XG];omega
theorem Og:∀{xs:List Z2},xs.length<=XG xs
 | []=>Qf _
 | x::r=>by have:=Og (xs:=r);have:=x.sz_eq;rw [XG,Yp];omega
def AJ:Zf:=⟨0,0,[⟨[]⟩,⟨[0,1]⟩]⟩
def AK:Zf:=⟨0,0,[⟨[]⟩,⟨[3,0,3]⟩]⟩
def NV:List Zf:=[⟨0,0,[⟨[1,3]⟩]⟩,⟨1,0,[]⟩,⟨0,0,[⟨[1,1,0]⟩,⟨[0]⟩,⟨[3]⟩]⟩,⟨0,1,[]⟩]
def AW:List (List Zf):=[[AJ,⟨0,0,[]⟩,AK],[AJ,⟨0,0,[]⟩,AK,⟨0,0,[⟨[1,3]⟩]⟩],[AJ,⟨0,0,[]⟩,AK,⟨1,0,[]⟩],[AJ,⟨0,0,[]⟩,AK,⟨0,0,[⟨[1,1,0]⟩,⟨[0]⟩,⟨[3]⟩]⟩],[AJ,⟨0,0,[]⟩,AK,⟨0,1,[]⟩]]
def GD (ds:List Zf):Prop:=ds∈AW
theorem GD.ok {ds:List Zf} (h:GD ds):XF ds:=by
 have k:=(by decide:∀ds∈AW,ds.length<=4/\(∀d∈ds,d.cons.length<=3)/\∀d∈ds,∀c∈d.cons,c.fields.length<=3) ds h
 exact ⟨k.1,k.2.1,k.2.2⟩
theorem GD.len {ds:List Zf} (h:GD ds):3<=ds.length/\ds.length<=4:=by
 exact (by decide:∀ds∈AW,3<=ds.length/\ds.length<=4) ds h
def J6 (t:Int):Prop:=t=0∨t=1∨t=3
instance (t:Int):Decidable (J6 t):=inferInstanceAs (Decidable (_∨_∨_))
theorem GD.low {ds:List Zf} (h:GD ds):ZW ds 0=[]/\ZW ds 1=[0,1]/\ZW ds 2=[]/\ZW ds 3=[2,3]/\ZO ds 0=[]/\ZO ds 1=[0,1]/\ZO ds 2=[]/\ZO ds 3=[3,0,3]:=
 (by decide:∀ds∈AW,ZW ds 0=[]/\ZW ds 1=[0,1]/\ZW ds 2=[]/\ZW ds 3=[2,3]/\ZO ds 0=[]/\ZO ds 1=[0,1]/\ZO ds 2=[]/\ZO ds 3=[3,0,3]) ds h
theorem GD.fields {ds:List Zf} (h:GD ds):∀c∈ZW ds 1++(ZW ds 3++ZW ds 4),∀t∈ZO ds c,J6 t:=
 (by decide:∀ds∈AW,∀c∈ZW ds 1++(ZW ds 3++ZW ds 4),∀t∈ZO ds c,J6 t) ds h
theorem GD.cons_cases {ds:List Zf} (h:GD ds) {t:Int} {c:Int} (hc:c∈ZW ds t):(0<=c/\c<=9)/\(t=1∨t=3∨t=4)/\(ZO ds c).length<=3/\∀u∈ZO ds c,J6 u:=by
 have ht:1<=t/\t<=ds.length:=by
  by_cases q:1<=t/\t<=ds.length
  ·exact q
  ·rw [ZW,Z5 q] at hc;cases hc
 have hl:=h.len
 have hlow:=h.low
 have key:∀c∈ZW ds 1++(ZW ds 3++ZW ds 4),0<=c/\c<=9:=
  (by decide:∀ds∈AW,∀c∈ZW ds 1++(ZW ds 3++ZW ds 4),0<=c/\c<=9) ds h
 have h4:t=1∨t=2∨t=3∨t=4:=by omega
 have hf:=h.fields
 have hd:=Vp h.ok c
 rcases h4 with rfl|rfl|rfl|rfl
 ·exact ⟨key c (Xr.2 (.inl hc)),.inl rfl,hd,hf c (Xr.2 (.inl hc))⟩
 ·rw [hlow.2.2.1] at hc;cases hc
 ·exact ⟨key c (Xr.2 (.inr (Xr.2 (.inl hc)))),.inr (.inl rfl),hd,hf c (Xr.2 (.inr (Xr.2 (.inl hc))))⟩
 ·exact ⟨key c (Xr.2 (.inr (Xr.2 (.inr hc)))),.inr (.inr rfl),hd,hf c (Xr.2 (.inr (Xr.2 (.inr hc))))⟩
def JU:List (LI × Int):=[([],0),([1],0),([1,1],1),([1],1),([1,0],1),([2,1],1),([1,1],0),([3],0),([0],1),([0,1],1),([3,0],3),([3],1),([1,3,0],0),([0],0),([0,0],0),([1,0],0)]
def Tw (f:Func):Prop:=(f.params,f.result)∈JU
theorem Tw.bd {f:Func} (h:Tw f):f.params.length<=3/\(∀t∈f.params,0<=t/\t<=3)/\J6 f.result:=by
 have key:∀q∈JU,q.1.length<=3/\(∀t∈q.1,0<=t/\t<=3)/\J6 q.2:=by decide
 exact key _ h
theorem Tw.clo {ds:List Zf} {f:Func} (hd:GD ds) (h:Tw f) (hp:0<JW ds (gI f.params ((f.params.length:Int)-1)) f.result):∀t∈f.params.dropLast,J6 t:=by
 have key:∀q∈JU,0<JW ds (gI q.1 ((q.1.length:Int)-1)) q.2->∀t∈q.1.dropLast,J6 t:=
  (by decide +kernel:∀ds∈AW,∀q∈JU,0<JW ds (gI q.1 ((q.1.length:Int)-1)) q.2->∀t∈q.1.dropLast,J6 t) ds hd
 exact key _ h hp
structure GP (p:Wd):Prop where
 decls:GD p.decls
 len:1<=p.funcs.length/\p.funcs.length<=4
 sigs:∀f∈p.funcs,Tw f
def Q8 (ds:List Zf) (op num:Int) (m:Nat) (k:Nat):Nat:=
 if op=13 then m+k else if op=8 then (if k=0 then m else m+(ZO ds (gI (ZW ds num) ((k:Int)-1))).length) else m
mutual
def eW (ds:List Zf) (nf:Nat):Nat->Z2->Prop
 | m,.mk op num kids=>(0<=op/\op<=13)/\(op=12->kids=[]/\0<=num/\num<m)/\(op=13->kids.length=2)/\(op=7->kids.length=3)/\(op=8->kids.length=1+(ZW ds num).length)/\(op=9->0<=num/\num<nf)/\(-2000<=num/\num<=2000)/\kids.length<=4 /\
  QX ds nf (Q8 ds op num m) 0 kids
def QX (ds:List Zf) (nf:Nat) (sc:Nat->Nat):Nat->List Z2->Prop
 | _,[]=>True
 | k,e::r=>eW ds nf (sc k) e/\QX ds nf sc (k+1) r
end
theorem Z5q {ds:List Zf} {nf m:Nat} (e:Z2):eW ds nf m e↔(0<=e.op/\e.op<=13)/\(e.op=12->e.kids=[]/\0<=e.num/\e.num<m)/\(e.op=13->e.kids.length=2)/\(e.op=7->e.kids.length=3)/\(e.op=8->e.kids.length=1+(ZW ds e.num).length)/\(e.op=9->0<=e.num/\e.num<nf)/\(-2000<=e.num/\e.num<=2000)/\e.kids.length<=4 /\
  QX ds nf (Q8 ds e.op e.num m) 0 e.kids:=by cases e;rw [eW];rfl
theorem Dt {ds:List Zf} {nf:Nat} {sc:Nat->Nat}:∀{xs:List Z2} {j k:Nat} {e:Z2},QX ds nf sc j xs->xs[k]? = some e->eW ds nf (sc (j+k)) e
 | [],j,k,e,_,h=>by simp at h
 | x::r,j,0,e,hw,h=>by simp at h;subst h;exact hw.1
 | x::r,j,k+1,e,hw,h=>by
  have:=Dt (xs:=r) (j:=j+1) (k:=k) hw.2 (by simpa using h)
  rw [show j+(k+1)=j+1+k by omega];exact this
theorem Oc {ds:List Zf} {nf:Nat} {sc:Nat->Nat}:∀{xs ys:List Z2} {j:Nat},QX ds nf sc j (xs++ys)↔QX ds nf sc j xs/\QX ds nf sc (j+xs.length) ys
 | [],ys,j=>by simp [QX]
 | x::r,ys,j=>by
  rw [Jj,QX,QX,Oc (xs:=r),and_assoc,Yp,show j+1+r.length=j+(r.length+1) by omega]
theorem IM {ds:List Zf} {nf m:Nat} {sc:Nat->Nat} (hs:∀k,sc k=m):∀{xs:List Z2} {j:Nat},(∀e∈xs,eW ds nf m e)->QX ds nf sc j xs
 | [],_,_=>True.intro
 | x::r,j,h=>⟨by rw [hs];exact h x (Xo ..),IM hs fun e he=>h e (Xz _ he)⟩
theorem Cv {ds:List Zf} {nf m:Nat} {op num:Int} {kids:List Z2} (ho:0<=op/\op<=11/\op≠7/\op≠8) (hc:op=9->0<=num/\num<nf) (hn:-2000<=num/\num<=2000) (hl:kids.length<=4) (hk:∀e∈kids,eW ds nf m e):eW ds nf m (.mk op num kids):=by
 rw [eW]
 refine ⟨by omega,fun h=>by omega,fun h=>by omega,fun h=>by omega,fun h=>by omega,hc,hn,hl,IM (m:=m) (fun k=>?_) hk⟩
 rw [Q8,Z5 om,Z5 om]
theorem Z5r {ds:List Zf} {nf m:Nat} {z:Int} (hz:-2000<=z/\z<=2000):eW ds nf m (.mk 0 z []):=Cv om (fun h=>by omega) hz (by simp) (fun e he=>by cases he)
theorem Z5s {ds:List Zf} {nf m:Nat} {z:Int} (hz:0<=z/\z<m) (hm:m<=2000):eW ds nf m (.mk 12 z []):=by
 rw [eW]
 exact ⟨by omega,fun _=>⟨rfl,hz⟩,fun h=>by omega,fun h=>by omega,fun h=>by omega,fun h=>by omega,by omega,by simp,True.intro⟩
theorem Oa {ds:List Zf} {nf m:Nat} {num:Int} {kids:List Z2} (hn:-2000<=num/\num<=2000) (hl:kids.length=3) (hk:∀e∈kids,eW ds nf m e):eW ds nf m (.mk 7 num kids):=by
 rw [eW]
 refine ⟨by omega,fun h=>by omega,fun h=>by omega,fun _=>hl,fun h=>by omega,fun h=>by omega,hn,by omega,IM (m:=m) (fun k=>?_) hk⟩
 rw [Q8,Z5 om,Z5 om]
theorem Ob {ds:List Zf} {nf m:Nat} {num:Int} {a b:Z2} (hn:-2000<=num/\num<=2000) (ha:eW ds nf m a) (hb:eW ds nf (m+1) b):eW ds nf m (.mk 13 num [a,b]):=by
 rw [eW]
 exact ⟨by omega,fun h=>by omega,fun _=>rfl,fun h=>by omega,fun h=>by omega,fun h=>by omega,hn,by simp,ha,hb,True.intro⟩
theorem IL {ds:List Zf} {nf m:Nat} {num:Int} {a:Z2} {arms:List Z2} (hn:-2000<=num/\num<=2000) (h3:arms.length<=3) (hl:arms.length=(ZW ds num).length) (ha:eW ds nf m a) (hk:QX ds nf (Q8 ds 8 num m) 1 arms):eW ds nf m (.mk 8 num (a::arms)):=by
 rw [eW]
 refine ⟨by omega,fun h=>by omega,fun h=>by omega,fun h=>by omega,fun _=>by rw [Yp];omega,fun h=>by omega,hn,by rw [Yp];omega,?_,hk⟩
 rw [Q8,Z5 om,Zb rfl,Zb rfl]
 exact ha
def bS (b:Nat):Nat:=max 4 (10*b-10)
def bC (b:Nat):Nat:=max 40 (100*b-100)
def Yv:List Z6->Nat
 | []=>0
 | s::r=>(if YQ s.op=true then 0 else 1)+Yv r
theorem Tb:∀xs ys:List Z6,Yv (xs++ys)=Yv xs+Yv ys
 | [],ys=>by simp [Yv]
 | x::r,ys=>by rw [Jj,Yv,Yv,Tb r];omega
theorem AL:∀xs:List Z6,Yv xs<=xs.length
 | []=>Xc _
 | x::r=>by have:=AL r;rw [Yv,Yp];split<;>omega
def V3 (ds:List Zf) (op num:Int) (m:Nat) (k:Nat):Nat:=if op=8 then m+(ZO ds (gI (ZW ds num) k)).length else m
mutual
def fS (ds:List Zf) (nf:Nat):Nat->Z6->Prop
 | m,.mk op num into args kids=>((0<=op/\op<=11)∨(14<=op/\op<=17))/\(∀a∈args,0<=a/\a<m)/\(14<=op->num=0/\into=0/\kids=[]/\∃a,args=[a])/\(op=7->kids.length=2)/\(op=8->kids.length=(ZW ds num).length)/\(op=7∨op=8->∃a,args=[a]) /\
  (op=9->0<=num/\num<nf)/\(-2000<=num/\num<=2000)/\(0<=into/\into<=m)/\args.length<=4/\(op≠7/\op≠8->kids=[])/\Uc ds nf (V3 ds op num m) 0 kids
def Uc (ds:List Zf) (nf:Nat) (sc:Nat->Nat):Nat->List Z8->Prop
 | _,[]=>True
 | k,b::r=>fB ds nf (sc k) b/\Uc ds nf sc (k+1) r
def Wg (ds:List Zf) (nf:Nat):Nat->List Z6->Prop
 | _,[]=>True
 | m,s::r=>fS ds nf m s/\Wg ds nf (if YQ s.op=true then m else m+1) r
def fB (ds:List Zf) (nf:Nat):Nat->Z8->Prop
 | m,.mk steps result=>Wg ds nf m steps/\0<=result/\result<(m+Yv steps:Nat)
end
section
variable {ds:List Zf} {nf:Nat}
structure FS (ds:List Zf) (nf m:Nat) (s:Z6):Prop where
 op:(0<=s.op/\s.op<=11)∨(14<=s.op/\s.op<=17)
 args:∀a∈s.args,0<=a/\a<m
 cnt:14<=s.op->s.num=0/\s.into=0/\s.kids=[]/\∃a,s.args=[a]
 k7:s.op=7->s.kids.length=2
 k8:s.op=8->s.kids.length=(ZW ds s.num).length
 one:s.op=7∨s.op=8->∃a,s.args=[a]
 call:s.op=9->0<=s.num/\s.num<nf
 num:-2000<=s.num/\s.num<=2000
 into:0<=s.into/\s.into<=m
 alen:s.args.length<=4
 kn:s.op≠7/\s.op≠8->s.kids=[]
 kids:Uc ds nf (V3 ds s.op s.num m) 0 s.kids
theorem AR {m:Nat} (s:Z6):fS ds nf m s↔FS ds nf m s:=by
 cases s
 rw [fS]
 exact ⟨fun ⟨h1,h2,h3,h4,h5,h6,h7,h8,h9,h10,h11,h12⟩=>⟨h1,h2,h3,h4,h5,h6,h7,h8,h9,h10,h11,h12⟩,fun h=>⟨h.op,h.args,h.cnt,h.k7,h.k8,h.one,h.call,h.num,h.into,h.alen,h.kn,h.kids⟩⟩
theorem KV {m:Nat} (b:Z8):fB ds nf m b↔Wg ds nf m b.steps/\0<=b.result/\b.result<(m+Yv b.steps:Nat):=by cases b;rw [fB];rfl
theorem Bz {sc:Nat->Nat}:∀{xs:List Z8} {j k:Nat} {b:Z8},Uc ds nf sc j xs->xs[k]? = some b->fB ds nf (sc (j+k)) b
 | [],j,k,b,_,h=>by simp at h
 | x::r,j,0,b,hw,h=>by simp at h;subst h;exact hw.1
 | x::r,j,k+1,b,hw,h=>by
  have:=Bz (xs:=r) (j:=j+1) (k:=k) hw.2 (by simpa using h)
  rw [show j+(k+1)=j+1+k by omega];exact this
theorem Oi {sc:Nat->Nat}:∀{xs ys:List Z8} {j:Nat},Uc ds nf sc j (xs++ys)↔Uc ds nf sc j xs/\Uc ds nf sc (j+xs.length) ys
 | [],ys,j=>by simp [Uc]
 | x::r,ys,j=>by
  rw [Jj,Uc,Uc,Oi (xs:=r),and_assoc,Yp,show j+1+r.length=j+(r.length+1) by omega]
theorem Ok {sc:Nat->Nat} {xs:List Z8} {b:Z8} (h:Uc ds nf sc 0 xs) (hb:fB ds nf (sc xs.length) b):Uc ds nf sc 0 (xs++[b]):=
 Oi.2 ⟨h,by rw [Wr];exact hb,True.intro⟩
theorem Ab:∀{xs ys:List Z6} {m:Nat},Wg ds nf m (xs++ys)↔Wg ds nf m xs/\Wg ds nf (m+Yv xs) ys
 | [],ys,m=>by simp [Wg,Yv]
 | x::r,ys,m=>by
  rw [Jj,Wg,Wg,Ab (xs:=r),and_assoc,Yv]
  by_cases h:YQ x.op=true
  ·rw [Zb h,Zb h,Wr]
  ·rw [Z5 h,Z5 h,Aw]
theorem Gc {xs:List Z6} {s:Z6} {m:Nat} (h:Wg ds nf m xs) (hs:fS ds nf (m+Yv xs) s):Wg ds nf m (xs++[s]):=Ab.2 ⟨h,hs,True.intro⟩
theorem Dv:∀{xs:List Z6} {k m:Nat} {s:Z6},Wg ds nf m xs->xs[k]? = some s->fS ds nf (m+Yv (xs.take k)) s
 | [],k,m,s,_,h=>by simp at h
 | x::r,0,m,s,hw,h=>by simp at h;subst h;exact hw.1
 | x::r,k+1,m,s,hw,h=>by
  have:=Dv (xs:=r) (k:=k) hw.2 (by simpa using h)
  rw [Av,Yv]
  by_cases hc:YQ x.op=true
  ·rw [Zb hc] at this ⊢;rw [Wr];exact this
  ·rw [Z5 hc] at this ⊢;rw [<-Aw];exact this
theorem IR {op v:Int} {m:Nat} (ho:14<=op/\op<=17) (hv:0<=v/\v<m):fS ds nf m (Zw op v):=by
 rw [Zw,fS]
 exact ⟨.inr ho,fun a ha=>by rw [Xy.1 ha];exact hv,fun _=>⟨rfl,rfl,rfl,v,rfl⟩,fun h=>by omega,fun h=>by omega,fun h=>by omega,fun h=>by omega,by omega,by omega,by simp,fun _=>rfl,True.intro⟩
theorem Ga {op:Int} {m:Nat} (ho:14<=op/\op<=17):∀{vs:LI},(∀v∈vs,0<=v/\v<(m:Int))->Wg ds nf m (vs.map (Zw op))/\Yv (vs.map (Zw op))=0
 | [],_=>⟨True.intro,rfl⟩
 | v::r,h=>by
  obtain ⟨h1,h2⟩:=Ga ho (vs:=r) fun x hx=>h x (Xz _ hx)
  have hc:YQ op=true:=by simp [YQ];omega
  have hc':YQ (Zw op v).op=true:=hc
  rw [Tu,Wg,Yv,Zb hc',Zb hc',Wr]
  exact ⟨⟨IR ho (h v (Xo ..)),h1⟩,h2⟩
mutual
theorem Zi7:∀(s:Z6) {m:Nat},fS ds nf m s->m+4*s.sz<=900000000->XF ds->wS ds s
 | .mk op num into args kids,m,h,hb,hd=>by
  rw [fS] at h
  obtain ⟨h1,h2,h3,h4,h5,h6,h7,h8,h9,h10,h11,h12⟩:=h
  rw [Z6.sz] at hb
  rw [wS]
  refine ⟨?_,fun hc=>h3 (show 14<=op/\op<=17 by simpa [YQ] using hc).1,fun h8'=>⟨?_,h5 h8'⟩,Z24 kids h12 (fun k=>?_) hd⟩
  ·rcases h1 with h1|h1
   ·have e1:YQ op=false:=by simp [YQ];omega
    have e2:Xi op=true:=by simp [Xi];omega
    rw [e1,e2];rfl
   ·have e1:YQ op=true:=by simp [YQ];omega
    have e2:Xi op=false:=by simp [Xi];omega
    rw [e1,e2];rfl
  ·obtain ⟨a,ha⟩:=h6 (.inr h8')
   have:=h2 a (by rw [ha];exact Xy.2 rfl)
   exact ⟨a,ha,by omega⟩
  ·have hf:=Vp hd (gI (ZW ds num) k)
   show V3 ds op num m k+4*YX kids<=900000003
   rw [V3];split<;>omega
theorem Z24:∀(bs:List Z8) {sc:Nat->Nat} {k:Nat},Uc ds nf sc k bs->(∀k,sc k+4*YX bs<=900000003)->XF ds->Ji ds bs
 | [],_,_,_,_,_=>True.intro
 | b::r,sc,k,h,hb,hd=>by
  have hp:=b.sz_eq
  exact ⟨N1 b h.1 (by have:=hb k;rw [YX] at this;omega) hd,Z24 r h.2 (fun j=>by have:=hb j;rw [YX] at this;omega) hd⟩
theorem Z25:∀(xs:List Z6) {m:Nat},Wg ds nf m xs->m+4*Yx xs<=900000000->XF ds->QN ds xs
 | [],_,_,_,_=>True.intro
 | s::r,m,h,hb,hd=>by
  rw [Yx] at hb
  have hp:=s.sz_pos
  refine ⟨Zi7 s h.1 om hd,Z25 r h.2 ?_ hd⟩
  split<;>omega
theorem N1:∀(b:Z8) {m:Nat},fB ds nf m b->m+4*b.sz<=900000004->XF ds->wB ds b
 | .mk steps result,m,h,hb,hd=>by
  rw [Z8.sz] at hb
  rw [fB] at h
  rw [wB]
  exact Z25 steps h.1 om hd
end
mutual
theorem Ze6:∀(s:Z6) {m:Nat},fS ds nf m s->s.rng
 | .mk op num into args kids,m,h=>by
  rw [fS] at h
  obtain ⟨h1,h2,h3,h4,h5,h6,h7,h8,h9,h10,h11,h12⟩:=h
  rw [Z6.rng]
  exact ⟨by omega,SH kids h12⟩
theorem SH:∀(bs:List Z8) {sc:Nat->Nat} {k:Nat},Uc ds nf sc k bs->A0 bs
 | [],_,_,_=>True.intro
 | b::r,sc,k,h=>⟨Mk b h.1,SH r h.2⟩
theorem SJ:∀(xs:List Z6) {m:Nat},Wg ds nf m xs->Ao xs
 | [],_,_=>True.intro
 | s::r,m,h=>⟨Ze6 s h.1,SJ r h.2⟩
theorem Mk:∀(b:Z8) {m:Nat},fB ds nf m b->b.rng
 | .mk steps result,m,h=>by rw [fB] at h;rw [Z8.rng];exact SJ steps h.1
end
end
structure FN (n:ZF) (q:Nat):Prop where
 decls:GD n.decls
 len:1<=n.routines.length/\n.routines.length<=4
 sigs:∀r∈n.routines,(r.params,r.result)∈JU
 lent:∀r∈n.routines,r.lent.length<=3/\∀i∈r.lent,0<=i/\i<r.params.length
 body:∀r∈n.routines,fB n.decls n.routines.length r.params.length r.body/\r.body.sz<=q
theorem FN.ok {n:ZF} {q:Nat} (h:FN n q):XA n:=
 ⟨h.decls.ok,h.len.2,fun r hr=>(Tw.bd (f:=⟨r.params,r.result,default⟩) (h.sigs r hr)).1,fun r hr=>by have:=(h.lent r hr).1;omega⟩
def Pk (n k:Int):Prop:=0<=k/\(0<n->k<n)/\(n<=0->k=0)
theorem Pk.lt {n k:Int} (h:Pk n k) (hn:0<n):0<=k/\k<n:=⟨h.1,h.2.1 hn⟩
theorem Pk.zero {n:Int}:Pk n 0:=⟨Int.le_refl _,fun h=>h,fun _=>rfl⟩
theorem Pk.rem {n a:Int} (ha:0<=a) (hn:0<n):Pk n (a % n):=⟨Int.emod_nonneg _ om,fun _=>Int.emod_lt_of_pos _ hn,fun _=>by omega⟩
def AD (ds:List Zf):Prop:=ds.length<=8/\∀d∈ds,d.cons.length<=4/\∀c∈d.cons,c.fields.length<=4
theorem GD.ad {ds:List Zf} (h:GD ds):AD ds:=(by decide:∀ds∈AW,ds.length<=8/\∀d∈ds,d.cons.length<=4/\∀c∈d.cons,c.fields.length<=4) ds h
theorem AD.set {ds:List Zf} (h:AD ds) (k:Nat) {d:Zf} (hd:d.cons.length<=4/\∀c∈d.cons,c.fields.length<=4):AD (ds.set k d):=
 ⟨by rw [V6];exact h.1,fun x hx=>(List.mem_or_eq_of_mem_set hx).elim (h.2 x) fun e=>by rw [e];exact hd⟩
theorem AD.app {ds es:List Zf} (h:AD ds) (hl:ds.length+es.length<=8) (hd:∀d∈es,d.cons.length<=4/\∀c∈d.cons,c.fields.length<=4):AD (ds++es):=
 ⟨by rw [Yr];exact hl,fun x hx=>(Xr.1 hx).elim (h.2 x) (hd x)⟩
theorem GD.three:GD [AJ,⟨0,0,[]⟩,AK]:=List.Mem.head _
theorem GD.four:∀{k:Nat} {x:Zf},NV[k]? = some x->GD ([AJ,⟨0,0,[]⟩,AK]++[x])
 | 0,x,h=>by cases h;exact .tail _ (.head _)
 | 1,x,h=>by cases h;exact .tail _ (.tail _ (.head _))
 | 2,x,h=>by cases h;exact .tail _ (.tail _ (.tail _ (.head _)))
 | 3,x,h=>by cases h;exact .tail _ (.tail _ (.tail _ (.tail _ (.head _))))
 | k+4,x,h=>by simp [NV] at h
theorem BP {l:LI} {z a b:Int} (h:z∈l) (hl:l.all (fun x=>decide (a<=x/\x<=b))=true):a<=z/\z<=b:=by
 have:=At.1 hl z h
 exact of_decide_eq_true this
def rk (t:Int):Nat:=if J6 t then 0 else 1
theorem Mj (t:Int):rk t<=1:=by rw [rk];split<;>omega
theorem SG {t:Int} (h:J6 t):rk t=0:=Zb h
def SE (g:Wd) (q:Nat) (e:Z2):Prop:=(∀m,eW g.decls g.funcs.length m e)/\e.sz<=q
def GE (g:Wd) (m q:Nat) (e:Z2):Prop:=eW g.decls g.funcs.length m e/\e.sz<=q
theorem SE.ge {g:Wd} {q q' m:Nat} {e:Z2} (h:SE g q e) (hq:q<=q'):GE g m q' e:=⟨h.1 m,Vm h.2 hq⟩
theorem GE.le {g:Wd} {m q q':Nat} {e:Z2} (h:GE g m q e) (hq:q<=q'):GE g m q' e:=⟨h.1,Vm h.2 hq⟩
theorem G9 {m:Nat}:∀{xs:List Z2},(∀e∈xs,e.sz<=m)->XG xs<=xs.length*m
 | [],_=>Qf _
 | x::r,h=>by
  have h1:=h x (Xo ..)
  have h2:=G9 (xs:=r) fun e he=>h e (Xz _ he)
  rw [XG,Yp,TV];omega
theorem XI {α:Type} {p:α->Prop} {xs:List α} {a:α} (h:∀x∈xs,p x) (ha:p a):∀x∈xs++[a],p x:=fun x hx=>(Xr.1 hx).elim (h x) fun q=>by rw [Xy.1 q];exact ha
theorem SE.int {g:Wd} {z:Int} {q:Nat} (hz:-2000<=z/\z<=2000) (hq:1<=q):SE g q (.mk 0 z []):=⟨fun _=>Z5r hz,by simpa [Z2.sz,XG] using hq⟩
theorem SE.node {g:Wd} {op num:Int} {ys:List Z2} {q k:Nat} (ho:op=6∨op=10) (hn:0<=num/\num<=2000) (hy:∀e∈ys,SE g 1 e) (hl:ys.length<=k) (hk:k<=3) (hq:1+k<=q):SE g q (.mk op num ys):=by
 refine ⟨fun m=>Cv om (fun h=>by omega) om om fun e he=>(hy e he).1 m,?_⟩
 have:=G9 (xs:=ys) (m:=1) fun e he=>(hy e he).2
 rw [Z2.sz];omega
def Bo (ds:List Zf) (t c:Int):Prop:=(0<=c/\c<=9)/\(ZO ds c).length<=3*rk t/\∀u∈ZO ds c,J6 u
instance (ds:List Zf) (t c:Int):Decidable (Bo ds t c):=inferInstanceAs (Decidable (_/\_/\_))
theorem Z08 {ds:List Zf} (h:GD ds):∀t∈[(1:Int),2,3,4],∀c∈ZW ds t,(t∈ZO ds c->∀c0,(ZW ds t)[0]? = some c0->Bo ds t c0)/\(¬t∈ZO ds c->Bo ds t c):=by
 intro t ht c hc
 have k1:=(by decide:∀ds∈AW,∀t∈[(1:Int),2,3,4],∀c∈ZW ds t,(t∈ZO ds c->Bo ds t (gI (ZW ds t) 0))/\(¬t∈ZO ds c->Bo ds t c)) ds h t ht c hc
 refine ⟨fun q c0 h0=>?_,k1.2⟩
 have:=k1.1 q
 rwa [Tj (i:=0) h0] at this
theorem NS {ds:List Zf} (h:GD ds) {t c:Int} (hc:c∈ZW ds t):t∈[(1:Int),2,3,4]:=by
 obtain ⟨_,h2,_⟩:=h.cons_cases hc
 rcases h2 with rfl|rfl|rfl<;>simp
theorem Zez {ds:List Zf} (h:GD ds) {t c c0:Int} (hc:c∈ZW ds t) (ht:t∈ZO ds c) (h0:(ZW ds t)[0]? = some c0):Bo ds t c0:=(Z08 h t (NS h hc) c hc).1 ht c0 h0
theorem Zey {ds:List Zf} (h:GD ds) {t c:Int} (hc:c∈ZW ds t) (ht:¬t∈ZO ds c):Bo ds t c:=(Z08 h t (NS h hc) c hc).2 ht
theorem Ze5 {ds:List Zf} (h:GD ds) {t:Int} (h0:(ZW ds t).length=0) (ht:0<t):rk t=1:=by
 rw [rk,Z5]
 rintro (q|q|q)
 ·omega
 ·rw [q,h.low.2.1] at h0;cases h0
 ·rw [q,h.low.2.2.2.1] at h0;cases h0
def Ay (g:Wd) (t i:Int):Prop:=0<=i/\∃f,g.funcs[i.toNat]? = some f/\0<f.params.length/\JW g.decls (gI f.params ((f.params.length:Int)-1)) f.result=t
theorem Ay.lt {g:Wd} {t i:Int} (h:Ay g t i):0<=i/\i<g.funcs.length:=by
 obtain ⟨h1,f,h2,_⟩:=h
 have:=(X9.1 h2).1
 omega
theorem Ay.mk {g:Wd} {t x2:Int} {k:Nat} {f:Func} (hf:g.funcs[k]? = some f) (hl:0<f.params.length) (hx:f.params[f.params.length-1]? = some x2) (ha:JW g.decls x2 f.result=t):Ay g t (k:Int):=by
 refine ⟨by omega,f,by simpa using hf,hl,?_⟩
 rw [Tj (i:=(f.params.length:Int)-1) (by rw [show ((f.params.length:Int)-1).toNat=f.params.length-1 by omega];exact hx)]
 exact ha
theorem Ay.low {g:Wd} {t i u:Int} {f:Func} {j:Nat} (hg:GP g) (h:Ay g t i) (ht:0<t) (hf:g.funcs[i.toNat]? = some f) (hj:j+1<f.params.length) (hu:f.params[j]? = some u):rk u=0:=by
 obtain ⟨_,f',h2,_,h4⟩:=h
 have e:f'=f:=Ax (h2.symm.trans hf)
 subst e
 have h5:=(hg.sigs f' (Y3 hf)).clo hg.decls (by rw [h4];exact ht)
 refine SG (h5 u ?_)
 rw [List.dropLast_eq_take]
 exact Y3 (i:=j) (by rw [List.getElem?_take_of_lt om];exact hu)
end Go.Abs
section
namespace Go.Abs
theorem JY (b:Nat):bS b=max 4 (10*b-10):=rfl
theorem JX (b:Nat):bC b=max 40 (100*b-100):=rfl
theorem EV {L q b:Nat} (hL:L<=3) (hb:3<=b) (hq:L*q<=b-1):1+L*bS q<=bS b:=by
 rw [JY,JY]
 have:L=0∨L=1∨L=2∨L=3:=by omega
 rcases this with rfl|rfl|rfl|rfl<;>omega
theorem Zc3 {L q b:Nat} (hL:L<=3) (hb:3<=b) (hq:L*q<=b-2):5+L*bS q<=bS b:=by
 rw [JY,JY]
 have:L=0∨L=1∨L=2∨L=3:=by omega
 rcases this with rfl|rfl|rfl|rfl<;>omega
theorem Zbq {b:Nat} (hb:3<=b):1+(bS (b / 2)+bS (b / 2))<=bS b:=by rw [JY,JY];omega
theorem Z36 {b:Nat} (hb:3<=b):5+bS (b-2)<=bS b:=by rw [JY,JY];omega
theorem B7 {L q b:Nat} (hL:L<=3) (hb:3<=b) (hq:L*q<=b-1):10+L*bC q<=bC b:=by
 rw [JX,JX]
 have:L=0∨L=1∨L=2∨L=3:=by omega
 rcases this with rfl|rfl|rfl|rfl<;>omega
theorem Zc2 {L q b:Nat} (hL:L<=3) (hb:3<=b) (hq:L*q<=b-2):40+L*bC q<=bC b:=by
 rw [JX,JX]
 have:L=0∨L=1∨L=2∨L=3:=by omega
 rcases this with rfl|rfl|rfl|rfl<;>omega
theorem Zbp {b:Nat} (hb:3<=b):10+(bC (b / 2)+bC (b / 2))<=bC b:=by rw [JX,JX];omega
theorem Z35 {b:Nat} (hb:3<=b):40+bC (b-2)<=bC b:=by rw [JX,JX];omega
theorem Nw (b:Nat):4<=bS b:=by rw [JY];omega
theorem Nv (b:Nat):40<=bC b:=by rw [JX];omega
theorem Qg (L b:Nat):L*(b / L)<=b:=Nat.mul_div_le b L
theorem Rq {k L C:Nat} (h:k<L):(k+1)*C=k*C+C/\(k+1)*C<=L*C:=⟨by rw [TV,Nat.one_mul],Jl C h⟩
theorem E3 {ds:List Zf} {d x:Int} {m k:Nat} (h:(ZW ds d)[k]? = some x):Q8 ds 8 d m (1+k)=m+(ZO ds x).length:=by
 rw [Q8,Z5 om,Zb rfl,Z5 om,Tj (i:=((1+k:Nat):Int)-1) (by rw [show (((1+k:Nat):Int)-1).toNat=k by omega];exact h)]
section
variable {g:Wd} {m:Nat}
theorem GE.var {z:Int} {q:Nat} (hz:0<=z/\z<m) (hm:m<=2000) (hq:1<=q):GE g m q (.mk 12 z []):=⟨Z5s hz hm,by simpa [Z2.sz,XG] using hq⟩
theorem GE.list {ys:List Z2} {L s:Nat} (h:∀e∈ys,GE g m s e) (hl:ys.length=L):XG ys<=L*s:=by rw [<-hl];exact G9 fun e he=>(h e he).2
theorem GE.node {op num:Int} {ys:List Z2} {L s q:Nat} (ho:0<=op/\op<=11/\op≠7/\op≠8) (hc:op=9->0<=num/\num<g.funcs.length) (hn:-2000<=num/\num<=2000) (h:∀e∈ys,GE g m s e) (hl:ys.length=L) (hL:L<=3) (hq:1+L*s<=q):GE g m q (.mk op num ys):=by
 have:=GE.list h hl
 exact ⟨Cv ho hc hn om fun e he=>(h e he).1,by rw [Z2.sz];omega⟩
theorem GE.if_ {num:Int} {ys:List Z2} {s q:Nat} (hn:-2000<=num/\num<=2000) (h:∀e∈ys,GE g m s e) (hl:ys.length=3) (hq:1+3*s<=q):GE g m q (.mk 7 num ys):=by
 have:=GE.list h hl
 exact ⟨Oa hn hl fun e he=>(h e he).1,by rw [Z2.sz];omega⟩
theorem GE.let_ {a b:Z2} {s q:Nat} (ha:GE g m s a) (hb:GE g (m+1) s b) (hq:1+(s+s)<=q):GE g m q (.mk 13 0 [a,b]):=by
 refine ⟨Ob om ha.1 hb.1,?_⟩
 have h1:=ha.2
 have h2:=hb.2
 simp only [Z2.sz,XG];omega
theorem GE.two {op num:Int} {a b:Z2} {s1 s2 q:Nat} (ho:0<=op/\op<=11/\op≠7/\op≠8/\op≠9) (hn:-2000<=num/\num<=2000) (ha:GE g m s1 a) (hb:GE g m s2 b) (hq:1+(s1+s2)<=q):GE g m q (.mk op num [a,b]):=by
 refine ⟨Cv om (fun h=>by omega) hn (by simp) fun e he=>?_,?_⟩
 ·rcases YN.1 he with rfl|he
  ·exact ha.1
  ·rw [Xy.1 he];exact hb.1
 ·have h1:=ha.2
  have h2:=hb.2
  simp only [Z2.sz,XG];omega
theorem GE.match_ {d:Int} {e:Z2} {ys:List Z2} {L s q:Nat} (hd:-2000<=d/\d<=2000) (he:GE g m 4 e) (hw:QX g.decls g.funcs.length (Q8 g.decls 8 d m) 1 ys) (hs:∀e∈ys,e.sz<=s) (hl:ys.length=L) (hL:L=(ZW g.decls d).length) (h3:L<=3) (hq:5+L*s<=q):GE g m q (.mk 8 d (e::ys)):=by
 refine ⟨IL hd om om he.1 hw,?_⟩
 have h1:=G9 hs
 rw [hl] at h1
 have h2:=he.2
 rw [Z2.sz,XG];omega
end
def NL (s:Nat) (left w:Int):Prop:=((s:Int)<=left/\w=left-s)∨(left<s/\w=-1)
end Go.Abs
namespace Go.Abs
theorem CQ {L b p pp M:Nat} (hL:L<=3) (hb:3<=b) (h:pp<=p+8) (hp:p+(bC b-1)<=M):pp+L*bC ((b-1) / L)<=M:=by
 have:=B7 hL hb (Qg L (b-1))
 omega
end Go.Abs
end
namespace Go.Abs
theorem Z5y (a b:Z2):XG [a,b]=a.sz+b.sz:=by simp only [XG];omega
theorem G8 (a b c:Z2):XG [a,b,c]=a.sz+b.sz+c.sz:=by simp only [XG];omega
theorem Ep:bS 3=20/\bS 4=30/\bS 12=110/\bS 16=150/\bS 18=170/\bC 3=200/\bC 4=300/\bC 16=1500:=by decide
theorem FH {b:Nat} (h:b<=20):bS b<=190/\bC b<=1900/\(b<=2->bS b<=10):=by rw [JY,JX];omega
section
variable {g:Wd} {m:Nat}
theorem SE.ofs {op num:Int} {ys:List Z2} {q:Nat} (ho:0<=op/\op<=11/\op≠7/\op≠8/\op≠9) (hn:-2000<=num/\num<=2000) (hl:ys.length<=4) (hy:∀e∈ys,∃s,SE g s e) (hq:1+XG ys<=q):SE g q (.mk op num ys):=
 ⟨fun m=>Cv om (fun h=>by omega) hn hl fun e he=>let ⟨_,h⟩:=hy e he;h.1 m,by rw [Z2.sz];exact hq⟩
theorem SE.nil {op num:Int} {q:Nat} (ho:0<=op/\op<=11/\op≠7/\op≠8/\op≠9) (hn:-2000<=num/\num<=2000) (hq:1<=q):SE g q (.mk op num []):=
 SE.ofs ho hn (by simp) (fun e he=>by cases he) (by simpa [XG] using hq)
theorem SE.two {op num:Int} {a b:Z2} {s1 s2 q:Nat} (ho:0<=op/\op<=11/\op≠7/\op≠8/\op≠9) (hn:-2000<=num/\num<=2000) (ha:SE g s1 a) (hb:SE g s2 b) (hq:1+(s1+s2)<=q):SE g q (.mk op num [a,b]):=by
 refine SE.ofs ho hn (by simp) (fun e he=>?_) ?_
 ·rcases YN.1 he with rfl|he
  ·exact ⟨_,ha⟩
  ·rw [Xy.1 he];exact ⟨_,hb⟩
 ·have h1:=ha.2
  have h2:=hb.2
  rw [Z5y];omega
theorem SE.three {op num:Int} {a b c:Z2} {s1 s2 s3 q:Nat} (ho:0<=op/\op<=11/\op≠7/\op≠8/\op≠9) (hn:-2000<=num/\num<=2000) (ha:SE g s1 a) (hb:SE g s2 b) (hc:SE g s3 c) (hq:1+(s1+s2+s3)<=q):SE g q (.mk op num [a,b,c]):=by
 refine SE.ofs ho hn (by simp) (fun e he=>?_) ?_
 ·rcases YN.1 he with rfl|he
  ·exact ⟨_,ha⟩
  ·rcases YN.1 he with rfl|he
   ·exact ⟨_,hb⟩
   ·rw [Xy.1 he];exact ⟨_,hc⟩
 ·have h1:=ha.2
  have h2:=hb.2
  have h3:=hc.2
  rw [G8];omega
theorem GE.int {z:Int} {q:Nat} (hz:-2000<=z/\z<=2000) (hq:1<=q):GE g m q (.mk 0 z []):=(SE.int (g:=g) (q:=q) hz hq).ge (Xc _)
theorem GE.three {op num:Int} {a b c:Z2} {s1 s2 s3 q:Nat} (ho:0<=op/\op<=11/\op≠8/\op≠9) (hn:-2000<=num/\num<=2000) (ha:GE g m s1 a) (hb:GE g m s2 b) (hc:GE g m s3 c) (hq:1+(s1+s2+s3)<=q):GE g m q (.mk op num [a,b,c]):=by
 have hk:∀e∈[a,b,c],eW g.decls g.funcs.length m e:=fun e he=>by
  rcases YN.1 he with rfl|he
  ·exact ha.1
  ·rcases YN.1 he with rfl|he
   ·exact hb.1
   ·rw [Xy.1 he];exact hc.1
 refine ⟨?_,?_⟩
 ·by_cases h7:op=7
  ·subst h7;exact Oa hn rfl hk
  ·exact Cv om (fun h=>by omega) hn (by simp) hk
 ·have h1:=ha.2
  have h2:=hb.2
  have h3:=hc.2
  rw [Z2.sz,G8];omega
theorem GE.one {op num:Int} {a:Z2} {s1 q:Nat} (ho:0<=op/\op<=11/\op≠7/\op≠8/\op≠9) (hn:-2000<=num/\num<=2000) (ha:GE g m s1 a) (hq:1+s1<=q):GE g m q (.mk op num [a]):=by
 refine ⟨Cv om (fun h=>by omega) hn (by simp) fun e he=>?_,?_⟩
 ·rw [Xy.1 he];exact ha.1
 ·have h1:=ha.2
  simp only [Z2.sz,XG];omega
theorem GE.letS {a b:Z2} {s1 s2 q:Nat} (ha:GE g m s1 a) (hb:GE g (m+1) s2 b) (hq:1+(s1+s2)<=q):GE g m q (.mk 13 0 [a,b]):=by
 refine ⟨Ob om ha.1 hb.1,?_⟩
 have h1:=ha.2
 have h2:=hb.2
 simp only [Z2.sz,XG];omega
theorem GE.matchL (hg:GP g) {e a b:Z2} {s1 s2 s3 q:Nat} (he:GE g m s1 e) (ha:GE g m s2 a) (hb:GE g (m+2) s3 b) (hq:1+(s1+s2+s3)<=q):GE g m q (.mk 8 1 [e,a,b]):=by
 have hl:=hg.decls.low
 refine ⟨IL om (by simp) (by rw [hl.2.1];rfl) he.1 ⟨?_,?_,True.intro⟩,?_⟩
 ·rw [E3 (k:=0) (x:=0) (by rw [hl.2.1];rfl),hl.2.2.2.2.1];exact ha.1
 ·rw [E3 (k:=1) (x:=1) (by rw [hl.2.1];rfl),hl.2.2.2.2.2.1];exact hb.1
 ·have h1:=he.2
  have h2:=ha.2
  have h3:=hb.2
  rw [Z2.sz,G8];omega
theorem GE.matchT (hg:GP g) {e a b:Z2} {s1 s2 s3 q:Nat} (he:GE g m s1 e) (ha:GE g m s2 a) (hb:GE g (m+3) s3 b) (hq:1+(s1+s2+s3)<=q):GE g m q (.mk 8 3 [e,a,b]):=by
 have hl:=hg.decls.low
 refine ⟨IL om (by simp) (by rw [hl.2.2.2.1];rfl) he.1 ⟨?_,?_,True.intro⟩,?_⟩
 ·rw [E3 (k:=0) (x:=2) (by rw [hl.2.2.2.1];rfl),hl.2.2.2.2.2.2.1];exact ha.1
 ·rw [E3 (k:=1) (x:=3) (by rw [hl.2.2.2.1];rfl),hl.2.2.2.2.2.2.2];exact hb.1
 ·have h1:=he.2
  have h2:=ha.2
  have h3:=hb.2
  rw [Z2.sz,G8];omega
theorem I9 {α:Type} {p:α->Prop} {a:α} (h:p a):∀x∈[a],p x:=fun x hx=>by rw [Xy.1 hx];exact h
end
structure HW (g:Wd):Prop where
 gp:GP g
 body:∀f∈g.funcs,eW g.decls g.funcs.length f.params.length f.body/\f.body.sz<=30
structure GL (ds:List Zf) (k j:Nat) (rq:List Func):Prop where
 len:rq.length=4
 sigs:∀f∈rq,Tw f
 zero:∀f,rq[0]? = some f->f.params.length=0
 body:∀i f,j<=i->i<k->rq[i]? = some f->eW ds k f.params.length f.body/\f.body.sz<=30
theorem GL.gp {ds:List Zf} {k j:Nat} {rq:List Func} (h:GL ds k j rq) (hd:GD ds) (hk:1<=k/\k<=4):GP ⟨ds,rq.take k⟩:=
 ⟨hd,by show 1<=(rq.take k).length/\_;rw [Wo,h.len];omega,fun f hf=>h.sigs f (QO hf)⟩
theorem GL.len_take {ds:List Zf} {k j:Nat} {rq:List Func} (h:GL ds k j rq) (hk:k<=4):(rq.take k).length=k:=by rw [Wo,h.len];omega
theorem GL.set {ds:List Zf} {k j:Nat} {rq:List Func} {f:Func} {e:Z2} (h:GL ds k j rq) (hj:1<=j) (hf:rq[j-1]? = some f) (he:eW ds k f.params.length e/\e.sz<=30):GL ds k (j-1) (rq.set (j-1) ⟨f.params,f.result,e⟩):=by
 have hl:=(X9.1 hf).1
 refine ⟨by rw [V6];exact h.len,fun x hx=>?_,fun x hx=>?_,fun i x h1 h2 hx=>?_⟩
 ·rcases List.mem_or_eq_of_mem_set hx with hx|rfl
  ·exact h.sigs x hx
  ·exact h.sigs f (Y3 hf)
 ·rw [List.getElem?_set] at hx
  split at hx
  ·rename_i h0
   cases hx
   exact h.zero f (by rw [<-h0];exact hf)
  ·exact h.zero x hx
 ·rw [List.getElem?_set] at hx
  split at hx
  ·cases hx
   exact he
  ·exact h.body i x om h2 hx
theorem GL.done {ds:List Zf} {k:Nat} {rq:List Func} (h:GL ds k 0 rq) (hd:GD ds) (hk:1<=k/\k<=4):HW ⟨ds,rq.take k⟩:=by
 refine ⟨h.gp hd hk,fun f hf=>?_⟩
 show eW ds (rq.take k).length _ _/\_
 rw [h.len_take hk.2]
 obtain ⟨i,hi⟩:=List.getElem?_of_mem hf
 have hi2:i<(rq.take k).length:=(X9.1 hi).1
 rw [h.len_take hk.2] at hi2
 rw [List.getElem?_take_of_lt hi2] at hi
 exact h.body i f om hi2 hi
theorem Mz {l:List Func} {f:Func} {k:Nat} (h:l[k]? = some f) (hl:l.all (fun f=>decide ((f.params,f.result)∈JU))=true):Tw f:=show (f.params,f.result)∈JU from of_decide_eq_true (At.1 hl f (Y3 h))
theorem GL.start {ds:List Zf} {k:Nat} {e:Z2} {a b c:Func} (ha:Tw a) (hb:Tw b) (hc:Tw c):GL ds k k [⟨[],0,e⟩,a,b,c]:=by
 refine ⟨rfl,fun f hf=>?_,fun f hf=>?_,fun i f h1 h2=>by omega⟩
 ·rcases YN.1 hf with rfl|hf
  ·exact List.Mem.head _
  ·rcases YN.1 hf with rfl|hf
   ·exact ha
   ·rcases YN.1 hf with rfl|hf
    ·exact hb
    ·rw [Xy.1 hf];exact hc
 ·cases hf;rfl
theorem Zct {l:LI} {k:Nat} {a b:Nat} (h:(k:Int)∈l) (hl:l.all (fun x=>decide ((a:Int)<=x/\x<=b))=true):a<=k/\k<=b:=by
 have:=of_decide_eq_true (At.1 hl _ h)
 omega
mutual
def K9 (p:Int->Prop):Z6->Prop
 | .mk op _ _ _ kids=>p op/\K8 p kids
def K8 (p:Int->Prop):List Z8->Prop
 | []=>True
 | b::r=>Vu p b/\K8 p r
def Q5 (p:Int->Prop):List Z6->Prop
 | []=>True
 | s::r=>K9 p s/\Q5 p r
def Vu (p:Int->Prop):Z8->Prop
 | .mk steps _=>Q5 p steps
end
section
variable {p q:Int->Prop}
theorem F3 (s:Z6):K9 p s↔p s.op/\K8 p s.kids:=by cases s;rw [K9];rfl
theorem H6 (b:Z8):Vu p b↔Q5 p b.steps:=by cases b;rw [Vu];rfl
theorem DT:∀{xs:List Z8},K8 p xs↔∀b∈xs,Vu p b
 | []=>by simp [K8]
 | b::r=>by rw [K8,DT];simp
theorem CU:∀{xs:List Z6},Q5 p xs↔∀b∈xs,K9 p b
 | []=>by simp [Q5]
 | b::r=>by rw [Q5,CU];simp
theorem H7 {xs ys:List Z6}:Q5 p (xs++ys)↔Q5 p xs/\Q5 p ys:=by simp only [CU,Xr];exact ⟨fun h=>⟨fun b hb=>h b (.inl hb),fun b hb=>h b (.inr hb)⟩,fun h b hb=>hb.elim (h.1 b) (h.2 b)⟩
theorem RC {xs:List Z8} {b:Z8} (h:K8 p xs) (hb:Vu p b):K8 p (xs++[b]):=DT.2 (XI (DT.1 h) hb)
theorem H8 {xs:List Z6} {b:Z6} (h:Q5 p xs) (hb:K9 p b):Q5 p (xs++[b]):=CU.2 (XI (CU.1 h) hb)
end
def WW (op:Int):Prop:=op<=11
def VC (op:Int):Prop:=op<=15
end Go.Abs
section
namespace Go.Abs
structure LW (ds:List Zf) (nf q:Nat) (e:Z2) (ys:List Z6) (v:Int):Prop where
 fs:Wg ds nf q ys
 v:0<=v/\v<(q+Yv ys:Nat)
 sz:Yx ys<=6*e.sz
 op:Q5 WW ys
theorem LW.dn {ds:List Zf} {nf q:Nat} {e:Z2} {ys:List Z6} {v:Int} (h:LW ds nf q e ys v):Yv ys<=6*e.sz/\ys.length<=6*e.sz:=by
 have h1:=AL ys
 have h2:=Jd ys
 have h3:=h.sz
 omega
structure LB (ds:List Zf) (nf q:Nat) (e:Z2) (b:Z8):Prop where
 fb:fB ds nf q b
 sz:b.sz<=1+6*e.sz
 op:Vu WW b
section
variable {ds:List Zf} {nf q:Nat}
theorem FL:∀xs ys:List Z8,YX (xs++ys)=YX xs+YX ys
 | [],ys=>by simp [YX]
 | x::r,ys=>by rw [Jj,YX,YX,FL r];omega
theorem LW.block {e:Z2} {ys:List Z6} {v:Int} (h:LW ds nf q e ys v):LB ds nf q e ⟨ys,v⟩:=
 ⟨by rw [fB];exact ⟨h.fs,h.v⟩,by rw [Z8.sz];have:=h.sz;omega,by rw [Vu];exact h.op⟩
theorem LW.var {e:Z2} {v:Int} (hv:0<=v/\v<q):LW ds nf q e [] v:=⟨True.intro,by simpa [Yv] using hv,by simp [Yx],True.intro⟩
theorem LW.let_ {e a b:Z2} {ys zs:List Z6} {v1 v2:Int} (ha:LW ds nf q a ys v1) (hb:LW ds nf (q+Yv ys) b zs v2) (he:a.sz+b.sz<e.sz):LW ds nf q e (ys++zs) v2:=by
 refine ⟨Ab.2 ⟨ha.fs,hb.fs⟩,by rw [Tb,<-Aw];exact hb.v,?_,H7.2 ⟨ha.op,hb.op⟩⟩
 have h1:=ha.sz
 have h2:=hb.sz
 rw [Qa];omega
theorem Eu {ys:List Z6} {s:Z6} (h:YQ s.op=false):Yv (ys++[s])=Yv ys+1:=by
 rw [Tb]
 simp [Yv,h]
theorem LW.node {e:Z2} {ys:List Z6} {as1:LI} (ho:0<=e.op/\e.op<=11/\e.op≠7/\e.op≠8) (hc:e.op=9->0<=e.num/\e.num<nf) (hn:-2000<=e.num/\e.num<=2000) (hf:Wg ds nf q ys) (ha:∀a∈as1,0<=a/\a<(q+Yv ys:Nat)) (hl:as1.length<=4) (hs:Yx ys<=6*XG e.kids) (hop:Q5 WW ys) :
  LW ds nf q e (ys++[⟨e.op,e.num,0,as1,[]⟩]) ((q+Yv ys:Nat):Int):=by
 have hcb:YQ e.op=false:=by simp [YQ];omega
 refine ⟨Gc hf ?_,?_,?_,H8 hop (by rw [K9];exact ⟨by show e.op<=11;omega,True.intro⟩)⟩
 ·rw [fS]
  exact ⟨.inl ⟨by omega,by omega⟩,ha,fun h=>by omega,fun h=>by omega,fun h=>by omega,fun h=>by omega,hc,hn,by omega,hl,fun _=>rfl,True.intro⟩
 ·rw [Eu (show YQ (Z6.mk e.op e.num 0 as1 []).op=false from hcb)];omega
 ·rw [Qa,e.sz_eq]
  simp only [Yx,Z6.sz,YX]
  omega
theorem LW.branch {e:Z2} {ys:List Z6} {v:Int} {bs:List Z8} {s0 sr:Nat} (ho:e.op=7∨e.op=8) (h7:e.op=7->bs.length=2) (h8:e.op=8->bs.length=(ZW ds e.num).length) (hn:-2000<=e.num/\e.num<=2000) (hf:Wg ds nf q ys) (hv:0<=v/\v<(q+Yv ys:Nat))
  (hb:Uc ds nf (V3 ds e.op e.num (q+Yv ys)) 0 bs) (hl:bs.length<=3) (h0:Yx ys<=6*s0) (h1:YX bs<=bs.length+6*sr) (hs:s0+sr<=XG e.kids) (hop:Q5 WW ys) (hob:K8 WW bs):LW ds nf q e (ys++[⟨e.op,e.num,0,[v],bs⟩]) ((q+Yv ys:Nat):Int):=by
 have hcb:YQ e.op=false:=by simp [YQ];omega
 refine ⟨Gc hf ?_,?_,?_,H8 hop (by rw [K9];exact ⟨by show e.op<=11;omega,hob⟩)⟩
 ·rw [fS]
  exact ⟨.inl ⟨by omega,by omega⟩,fun a ha=>by rw [Xy.1 ha];exact hv,fun h=>by omega,h7,h8,fun _=>⟨v,rfl⟩,fun h=>by omega,hn,by omega,by simp,fun h=>by omega,hb⟩
 ·rw [Eu (show YQ (Z6.mk e.op e.num 0 [v] bs).op=false from hcb)];omega
 ·rw [Qa,e.sz_eq]
  simp only [Yx,Z6.sz,Yp,YZ]
  omega
theorem Z06 {ds:List Zf} {op num:Int} {m k:Nat} (h:op=13):Q8 ds op num m k=m+k:=Zb h
theorem Zew {ds:List Zf} {op num:Int} {m:Nat} (h:op≠13):Q8 ds op num m 0=m:=by simp [Q8,h]
theorem Z07 {ds:List Zf} {op num:Int} {m k:Nat} (h:op≠13/\op≠8):Q8 ds op num m k=m:=by simp [Q8,h.1,h.2]
theorem Zex {ds:List Zf} {op num x:Int} {m k j:Nat} (h:op=8) (hk:k=j+1) (hx:(ZW ds num)[j]? = some x):Q8 ds op num m k=m+(ZO ds x).length:=by
 subst h;subst hk;rw [Nat.add_comm j 1];exact E3 hx
theorem Mv {ds:List Zf} {op num x:Int} {m j:Nat} (h:op=8) (hx:(ZW ds num)[j]? = some x):V3 ds op num m j=m+(ZO ds x).length:=by
 rw [V3,Zb h,Tj (i:=(j:Int)) (by simpa using hx)]
theorem Mw {ds:List Zf} {op num:Int} {m j:Nat} (h:op≠8):V3 ds op num m j=m:=Z5 h
theorem By {xs:List Z2} {k:Nat} {e:Z2} (h:xs[k]? = some e):XG (xs.take (k+1))=XG (xs.take k)+e.sz:=by rw [Vg h,Ez,XG,XG];rfl
theorem AQ {xs:List Z2} (k:Nat):XG (xs.take k)<=XG xs:=by
 have h:=Yj XG (TJ k xs)
 rw [Ez] at h;omega
theorem Oh {xs:List Z2} {a b:Z2} (ha:xs[0]? = some a) (hb:xs[1]? = some b):a.sz+b.sz<=XG xs:=by
 have h1:XG (xs.take 1)=XG (xs.take 0)+a.sz:=By ha
 have h2:XG (xs.take 2)=XG (xs.take 1)+b.sz:=By hb
 have h3:=AQ (xs:=xs) 2
 omega
theorem Fp {us:LI} {v:Int} {d:Nat} (hu:∀a∈us,0<=a/\a<(q:Int)) (hv:0<=v/\v<(q+d:Nat)):∀a∈us++[v],0<=a/\a<((q+d:Nat):Int):=
 XI (fun a ha=>by have:=hu a ha;omega) hv
theorem HL {us:LI} {d:Nat} (hu:∀a∈us,0<=a/\a<(q:Int)):∀a∈us,0<=a/\a<((q+d:Nat):Int):=fun a ha=>by have:=hu a ha;omega
theorem Zhr {us ns:LI} {d mf:Nat} (hu:∀a∈us,0<=a/\a<(q:Int)) (hn:∀i∈ns,((q+d:Nat):Int)<=i/\i<((q+d:Nat):Int)+mf):∀a∈us++ns,0<=a/\a<((q+d+mf:Nat):Int):=fun a ha=>by
 rcases Xr.1 ha with h|h
 ·have:=hu a h;omega
 ·have:=hn a h;omega
theorem FM:∀bs:List Z8,bs.length<=YX bs
 | []=>Xc _
 | b::r=>by have:=FM r;have:=b.sz_pos;rw [YX,Yp];omega
end
end Go.Abs
namespace Go.Abs
structure RF (ds:List Zf) (nf q:Nat) (p:Int->Prop) (r:YC):Prop where
 sig:(r.params,r.result)∈JU
 lent:r.lent.length<=3/\∀i∈r.lent,0<=i/\i<r.params.length
 body:fB ds nf r.params.length r.body/\r.body.sz<=q
 op:Vu p r.body
structure FO (n:ZF) (q:Nat) (p:Int->Prop):Prop where
 fn:FN n q
 op:∀r∈n.routines,Vu p r.body
theorem FO.rf {n:ZF} {q:Nat} {p:Int->Prop} (h:FO n q p) {r:YC} (hr:r∈n.routines):RF n.decls n.routines.length q p r:=⟨h.fn.sigs r hr,h.fn.lent r hr,h.fn.body r hr,h.op r hr⟩
theorem FO.all {n:ZF} {q:Nat} {p:Int->Prop} (hd:GD n.decls) (hl:1<=n.routines.length/\n.routines.length<=4) (h:∀r∈n.routines,RF n.decls n.routines.length q p r):FO n q p:=
 ⟨⟨hd,hl,fun r hr=>(h r hr).sig,fun r hr=>(h r hr).lent,fun r hr=>(h r hr).body⟩,fun r hr=>(h r hr).op⟩
structure RN (ds:List Zf) (nf:Nat) (r:YC):Prop where
 sig:(r.params,r.result)∈JU
 lent:r.lent=[]
 body:fB ds nf r.params.length r.body/\r.body.sz<=181
 op:Vu WW r.body
theorem RN.all {n:ZF} {q:Nat} (hd:GD n.decls) (hl:1<=n.routines.length/\n.routines.length<=4) (h:∀r∈n.routines,RN n.decls n.routines.length r) (hq:181<=q):FO n q WW:=
 FO.all hd hl fun r hr=>⟨(h r hr).sig,by rw [(h r hr).lent];exact ⟨by simp,fun i hi=>by cases hi⟩,⟨(h r hr).body.1,Vm (h r hr).body.2 hq⟩,(h r hr).op⟩
end Go.Abs
namespace Go.Abs
theorem RN.of {ds:List Zf} {nf:Nat} {ps:LI} {rt:Int} {b:Z8} {e:Z2} (hs:(ps,rt)∈JU) (h:LB ds nf ps.length e b) (he:e.sz<=30):RN ds nf ⟨ps,[],rt,Z8.mk b.steps b.result⟩:=by
 have e1:Z8.mk b.steps b.result=b:=by cases b;rfl
 rw [e1]
 exact ⟨hs,rfl,⟨h.fb,by have:=h.sz;show b.sz<=181;omega⟩,h.op⟩
end Go.Abs
end
namespace Go.Abs
theorem MK:∀{xs:List Z6} {s:Z6},s∈xs->s.sz<=Yx xs
 | [],s,h=>by cases h
 | x::r,s,h=>by
  rw [Yx]
  rcases YN.1 h with rfl|h
  ·omega
  ·have:=MK h;omega
theorem Ig:∀{xs:List Z8} {b:Z8},b∈xs->b.sz<=YX xs
 | [],b,h=>by cases h
 | x::r,b,h=>by
  rw [YX]
  rcases YN.1 h with rfl|h
  ·omega
  ·have:=Ig h;omega
structure LC (n:ZF) (k:Nat) (xs:List LI):Prop where
 len:xs.length=k
 ok:∀(i:Nat) (l:LI),xs[i]? = some l->l.length<=3/\∀r,n.routines[i]? = some r->∀v∈l,0<=v/\v<(r.params.length:Int)
theorem LC.nil {n:ZF}:LC n 0 []:=⟨rfl,fun i l h=>by simp at h⟩
theorem LC.snoc {n:ZF} {k:Nat} {xs:List LI} {l:LI} (h:LC n k xs) (hl:l.length<=3) (hv:∀r,n.routines[k]? = some r->∀v∈l,0<=v/\v<(r.params.length:Int)):LC n (k+1) (xs++[l]):=by
 refine ⟨by rw [Yr,h.len];rfl,fun i l' hi=>?_⟩
 by_cases hk:i<xs.length
 ·rw [JP hk] at hi
  exact h.ok i l' hi
 ·rw [D7 om] at hi
  have h0:i-xs.length=0:=by
   cases e:i-xs.length with
   | zero=>rfl
   | succ q=>rw [e] at hi;simp at hi
  rw [h0] at hi
  cases hi
  have e:i=k:=by have:=h.len;omega
  subst e
  exact ⟨hl,hv⟩
def Wz:LI->Int->LI
 | [],y=>[y]
 | x::r,y=>if x>y then y::x::r else if x=y then x::r else x::Wz r y
def Qp (d:Bool) (xs:LI) (y:Int):LI:=if d=true then xs else Wz xs y
theorem GI {xs:LI} {y:Int}:Qp true xs y=xs:=rfl
theorem GH {xs:LI} {y:Int}:Qp false xs y=Wz xs y:=rfl
theorem PA {xs acc r:LI} {y x:Int} {k:Nat} {d:Bool} (hx:xs[k]? = some x) (hd:d=true) (h:acc++Qp d (xs.drop k) y=r):(acc++[x])++Qp d (xs.drop (k+1)) y=r:=by
 subst hd
 rw [GI,Yh hx] at h
 rw [GI,<-h];simp
theorem Zan {xs acc r:LI} {y x:Int} {k:Nat} {d:Bool} (hx:xs[k]? = some x) (hd:¬d=true) (hl:¬x>=y) (h:acc++Qp d (xs.drop k) y=r):(acc++[x])++Qp d (xs.drop (k+1)) y=r:=by
 have hd:=TU.2 hd
 subst hd
 rw [GH,Yh hx,Wz,Z5 om,Z5 om] at h
 rw [GH,<-h];simp
theorem Zao {xs acc r:LI} {y x:Int} {k:Nat} {d:Bool} (hx:xs[k]? = some x) (hd:¬d=true) (hl:x>y) (h:acc++Qp d (xs.drop k) y=r):((acc++[y])++[x])++Qp true (xs.drop (k+1)) y=r:=by
 have hd:=TU.2 hd
 subst hd
 rw [GH,Yh hx,Wz,Zb hl] at h
 rw [GI,<-h];simp
theorem Zap {xs acc r:LI} {y x:Int} {k:Nat} {d:Bool} (hx:xs[k]? = some x) (hd:¬d=true) (hl:x=y) (h:acc++Qp d (xs.drop k) y=r):(acc++[x])++Qp true (xs.drop (k+1)) y=r:=by
 have hd:=TU.2 hd
 subst hd
 rw [GH,Yh hx,Wz,Z5 om,Zb hl] at h
 rw [GI,<-h];simp
theorem Zam {xs acc acc2 r:LI} {y x:Int} {k:Nat} {d d2:Bool} (hx:xs[k]? = some x) (h:acc++Qp d (xs.drop k) y=r)
  (hc:(acc2=acc/\d2=d/\(d=true∨¬x>=y))∨(acc2=acc++[y]/\d2=true/\¬d=true/\x>y)∨(acc2=acc/\d2=true/\¬d=true/\x=y)):(acc2++[x])++Qp d2 (xs.drop (k+1)) y=r:=by
 rcases hc with ⟨rfl,rfl,h3⟩|⟨rfl,rfl,h3,h4⟩|⟨rfl,rfl,h3,h4⟩
 ·rcases h3 with h3|h3
  ·exact PA hx h3 h
  ·by_cases q:d2=true
   ·exact PA hx q h
   ·exact Zan hx q h3 h
 ·exact Zao hx h3 h4 h
 ·exact Zap hx h3 h4 h
theorem Zal {xs acc r:LI} {y:Int} {k:Nat} {d:Bool} (hk:xs.length<=k) (h:acc++Qp d (xs.drop k) y=r):(if d=true then acc else acc++[y])=r:=by
 rw [Xt hk] at h
 by_cases q:d=true
 ·rw [Qp,Zb q,KL] at h;rw [Zb q];exact h
 ·rw [Qp,Z5 q,Wz] at h;rw [Z5 q];exact h
theorem Jy:∀(xs:LI) (y:Int),(Wz xs y).length<=xs.length+1
 | [],y=>Xc _
 | x::r,y=>by
  have:=Jy r y
  rw [Wz]
  split
  ·simp
  ·split
   ·simp
   ·simp only [Yp];omega
theorem CJ:∀{xs:LI} {y z:Int},z∈Wz xs y↔z∈xs∨z=y
 | [],y,z=>by simp [Wz]
 | x::r,y,z=>by
  rw [Wz]
  split
  ·simp only [YN];exact ⟨fun h=>h.elim .inr .inl,fun h=>h.elim .inr .inl⟩
  ·split
   ·rename_i h;subst h;simp only [YN];exact ⟨fun h=>.inl h,fun h=>h.elim id .inl⟩
   ·simp only [YN,CJ (xs:=r)];exact ⟨fun h=>by rcases h with h|h|h<;>simp [h],fun h=>by rcases h with (h|h)|h<;>simp [h]⟩
def Cb (xs:LI):Prop:=xs.Pairwise (·<·)
theorem Py:∀{xs:LI} {y:Int},Cb xs->Cb (Wz xs y)
 | [],y,_=>by simp [Wz,Cb]
 | x::r,y,h=>by
  obtain ⟨h1,h2⟩:=Vi.1 h
  rw [Wz]
  split
  ·rename_i q
   refine Vi.2 ⟨fun z hz=>?_,h⟩
   rcases YN.1 hz with rfl|hz
   ·omega
   ·have:=h1 z hz;omega
  ·split
   ·exact h
   ·refine Vi.2 ⟨fun z hz=>?_,Py h2⟩
    rcases CJ.1 hz with hz|rfl
    ·exact h1 z hz
    ·omega
def VA:LI->Int->LI
 | [],_=>[]
 | x::r,y=>if x=y then VA r y else x::VA r y
theorem BR:∀(xs:LI) (y:Int),(VA xs y).length<=xs.length
 | [],y=>Xc _
 | x::r,y=>by
  have:=BR r y
  rw [VA]
  split
  ·rw [Yp];omega
  ·rw [Yp,Yp];omega
theorem DV:∀{xs:LI} {y z:Int},z∈VA xs y->z∈xs
 | [],y,z,h=>by rw [VA] at h;exact h
 | x::r,y,z,h=>by
  rw [VA] at h
  split at h
  ·exact Xz _ (DV h)
  ·rcases YN.1 h with rfl|h
   ·exact Xo ..
   ·exact Xz _ (DV h)
theorem Zde {xs acc r:LI} {y x:Int} {k:Nat} (hx:xs[k]? = some x) (h:acc++VA (xs.drop k) y=r):(if x≠y then acc++[x] else acc)++VA (xs.drop (k+1)) y=r:=by
 rw [Yh hx,VA] at h
 by_cases q:x=y
 ·rw [Zb q] at h;rw [Z5 (fun z=>z q)];exact h
 ·rw [Z5 q] at h;rw [Zb q,<-h];simp
theorem Zdd {xs acc r:LI} {y:Int} {k:Nat} (hk:xs.length<=k) (h:acc++VA (xs.drop k) y=r):acc=r:=by
 rw [Xt hk,VA,KL] at h;exact h
def UT (n:Int) (xs:LI) (a:Int):LI:=if 0<=a/\a<n then Wz xs a else xs
def QK (n:Int):LI->LI->LI
 | [],xs=>xs
 | a::r,xs=>QK n r (UT n xs a)
mutual
def JM (n:Int):Z6->LI->LI
 | .mk op _ _ args kids,xs=>if YQ op=true then xs else Jf n kids (QK n args xs)
def Jf (n:Int):List Z8->LI->LI
 | [],xs=>xs
 | b::r,xs=>Jf n r (T5 n b xs)
def T6 (n:Int):List Z6->LI->LI
 | [],xs=>xs
 | s::r,xs=>T6 n r (JM n s xs)
def T5 (n:Int):Z8->LI->LI
 | .mk steps result,xs=>UT n (T6 n steps xs) result
end
section
variable {n:Int}
theorem Z1x (s:Z6) (xs:LI):JM n s xs=if YQ s.op=true then xs else Jf n s.kids (QK n s.args xs):=by cases s;rw [JM];rfl
theorem Z1v (b:Z8) (xs:LI):T5 n b xs=UT n (T6 n b.steps xs) b.result:=by cases b;rw [T5];rfl
theorem HK (xs:LI) (a:Int):(UT n xs a).length<=xs.length+1:=by
 rw [UT];split
 ·exact Jy xs a
 ·omega
theorem Z1u:∀(as1 xs:LI),(QK n as1 xs).length<=xs.length+as1.length
 | [],xs=>Xc _
 | a::r,xs=>by
  have h1:=Z1u r (UT n xs a)
  have h2:=HK (n:=n) xs a
  rw [QK,Yp];omega
mutual
theorem Z1y:∀(s:Z6) (xs:LI),(JM n s xs).length<=xs.length+s.sz
 | .mk op num into args kids,xs=>by
  have h1:=Z1w kids (QK n args xs)
  have h2:=Z1u (n:=n) args xs
  rw [JM,Z6.sz];split<;>omega
theorem Z1w:∀(bs:List Z8) (xs:LI),(Jf n bs xs).length<=xs.length+YX bs
 | [],xs=>Xc _
 | b::r,xs=>by
  have h1:=Z1w r (T5 n b xs)
  have h2:=HJ b xs
  rw [Jf,YX];omega
theorem MW:∀(bs:List Z6) (xs:LI),(T6 n bs xs).length<=xs.length+Yx bs
 | [],xs=>Xc _
 | b::r,xs=>by
  have h1:=MW r (JM n b xs)
  have h2:=Z1y b xs
  rw [T6,Yx];omega
theorem HJ:∀(b:Z8) (xs:LI),(T5 n b xs).length<=xs.length+b.sz
 | .mk steps result,xs=>by
  have h1:=MW steps xs
  have h2:=HK (n:=n) (T6 n steps xs) result
  rw [T5,Z8.sz];omega
end
theorem Zhm {as1 ys r:LI} {k:Nat} {a:Int} (h:as1[k]? = some a) (ha:QK n (as1.drop k) ys=r):QK n (as1.drop (k+1)) (UT n ys a)=r:=by
 rw [Yh h,QK] at ha;exact ha
theorem Zho {bs:List Z8} {ys r:LI} {k:Nat} {b:Z8} (h:bs[k]? = some b) (ha:Jf n (bs.drop k) ys=r):Jf n (bs.drop (k+1)) (T5 n b ys)=r:=by
 rw [Yh h,Jf] at ha;exact ha
theorem Zhq {bs:List Z6} {ys r:LI} {k:Nat} {b:Z6} (h:bs[k]? = some b) (ha:T6 n (bs.drop k) ys=r):T6 n (bs.drop (k+1)) (JM n b ys)=r:=by
 rw [Yh h,T6] at ha;exact ha
theorem Zhl {as1 ys r:LI} {k:Nat} (h:as1.length<=k) (ha:QK n (as1.drop k) ys=r):ys=r:=by rw [Xt h,QK] at ha;exact ha
theorem Zhn {bs:List Z8} {ys r:LI} {k:Nat} (h:bs.length<=k) (ha:Jf n (bs.drop k) ys=r):ys=r:=by rw [Xt h,Jf] at ha;exact ha
theorem Zhp {bs:List Z6} {ys r:LI} {k:Nat} (h:bs.length<=k) (ha:T6 n (bs.drop k) ys=r):ys=r:=by rw [Xt h,T6] at ha;exact ha
end
theorem N8 {s:Z6} (h:Cn s):∃a,s.args=[a]:=⟨gI s.args 0,by have:=Yj Z6.args h;exact this⟩
section
variable {xs:LI} {v:Int} {lo hi:Nat}
end
section
variable {m:Int} {xs du dr:List Z6} {lf:LI} {d:Bool} {k:Nat} {s:Z6} {W:List Z6 × List Z6 × LI}
end
def X0:List Z6->Nat
 | []=>0
 | s::r=>if YQ s.op=true then X0 r+1 else 0
def Wf (op x:Int):List Z6->Int->Int
 | [],_=>-1
 | s::r,k=>if s.op=op/\gI s.args 0=x then k else Wf op x r (k+1)
def Kn (many:Nat) (s:Z6):Prop:=(s.op=6/\s.into=0)/\s.args.length=many
instance (many:Nat) (s:Z6):Decidable (Kn many s):=by unfold Kn;infer_instance
def WD (many:Nat):List Z6->Int->Int
 | [],_=>-1
 | s::r,k=>if Kn many s then k else WD many r (k+1)
def BD (xs:List Z6) (i:Int):Z6:=xs[i.toNat]?.getD (Zw 0 0)
def Qq (v:Int) (s:Z6):Z6:=.mk s.op s.num v s.args s.kids
def Vv (xs:List Z6) (x:Int):Int:=Wf 16 x (xs.take (X0 xs)) 0
def WK (xs:List Z6) (many:Nat):Int:=WD many (xs.drop (X0 xs)) (X0 xs)
def VK (xs:List Z6) (x:Int) (many:Nat):List Z6:=
 if Vv xs x<0∨WK xs many<0 then xs else (xs.set (Vv xs x).toNat (Zw 17 x)).set (WK xs many).toNat (Qq (1+x) (BD xs (WK xs many)))
def VR (b:Z8) (x:Int) (many:Nat):Z8:=.mk (VK b.steps x many) b.result
mutual
def Tp (ds:List Zf) (kept:LI):Z6->Z6
 | .mk op num into args kids=>.mk op num into args (VX ds kept op num args kids 0)
def VX (ds:List Zf) (kept:LI) (op num:Int) (args:LI):List Z8->Nat->List Z8
 | [],_=>[]
 | b::r,k=>(if op=8/\¬gI args 0∈kept then VR (WB ds (if Vv b.steps (gI args 0)<0∨WK b.steps (WG ds num k).length<0 then kept else gI args 0::kept) b) (gI args 0) (WG ds num k).length else WB ds kept b)::VX ds kept op num args r (k+1)
def Uf (ds:List Zf) (kept:LI):List Z6->List Z6
 | []=>[]
 | s::r=>Tp ds kept s::Uf ds kept r
def WB (ds:List Zf) (kept:LI):Z8->Z8
 | .mk steps result=>.mk (Uf ds kept steps) result
end
def GK (ds:List Zf) (kept:LI) (num:Int) (args:LI) (k:Nat) (b:Z8):LI:=if Vv b.steps (gI args 0)<0∨WK b.steps (WG ds num k).length<0 then kept else gI args 0::kept
def Q7 (ds:List Zf) (kept:LI) (op num:Int) (args:LI) (k:Nat) (b:Z8):Z8:=if op=8/\¬gI args 0∈kept then VR (WB ds (GK ds kept num args k b) b) (gI args 0) (WG ds num k).length else WB ds kept b
theorem Am (ds:List Zf) (kept:LI) (s:Z6):Tp ds kept s=.mk s.op s.num s.into s.args (VX ds kept s.op s.num s.args s.kids 0):=by cases s;rw [Tp];rfl
theorem Ho (ds:List Zf) (kept:LI) (b:Z8):WB ds kept b=.mk (Uf ds kept b.steps) b.result:=by cases b;rw [WB];rfl
theorem Hp (ds:List Zf) (kept:LI):∀xs:List Z6,Uf ds kept xs=xs.map (Tp ds kept)
 | []=>rfl
 | s::r=>by rw [Uf,Hp ds kept r];rfl
section
variable {ds:List Zf} {kept:LI}
theorem Zek {xs acc r:List Z6} {k:Nat} {s:Z6} (h:xs[k]? = some s) (ha:acc++Uf ds kept (xs.drop k)=r) :
  (acc++[.mk s.op s.num s.into s.args (VX ds kept s.op s.num s.args s.kids 0)])++Uf ds kept (xs.drop (k+1))=r:=by
 rw [Yh h,Uf,Am] at ha
 rw [<-ha];simp
theorem Zej {xs acc r:List Z6} {k:Nat} (h:xs.length<=k) (ha:acc++Uf ds kept (xs.drop k)=r):acc=r:=by
 rw [Xt h,Uf,KL] at ha;exact ha
theorem Zee {op num:Int} {args:LI} {bs acc r:List Z8} {k:Nat} {b:Z8} (h:bs[k]? = some b) (ha:acc++VX ds kept op num args (bs.drop k) k=r) :
  (acc++[Q7 ds kept op num args k b])++VX ds kept op num args (bs.drop (k+1)) (k+1)=r:=by
 rw [Yh h,VX] at ha
 rw [<-ha,Q7,GK];simp
theorem Zed {op num:Int} {args:LI} {bs acc r:List Z8} {k j:Nat} (h:bs.length<=k) (ha:acc++VX ds kept op num args (bs.drop k) j=r):acc=r:=by
 rw [Xt h,VX,KL] at ha;exact ha
end
section
variable {ds:List Zf}
mutual
theorem Zeh:∀(s:Z6) {K K':LI},(∀z,z∈K↔z∈K')->Tp ds K s=Tp ds K' s
 | .mk op num into args kids,K,K',h=>by rw [Tp,Tp,SW kids h]
theorem SW:∀(bs:List Z8) {K K':LI} {op num:Int} {args:LI} {k:Nat},(∀z,z∈K↔z∈K')->VX ds K op num args bs k=VX ds K' op num args bs k
 | [],_,_,_,_,_,_,_=>by rw [VX,VX]
 | b::r,K,K',op,num,args,k,h=>by
  have h1:=SW r (op:=op) (num:=num) (args:=args) (k:=k+1) h
  have h2:=Mp b h
  have h3:∀z,z∈(gI args 0::K)↔z∈(gI args 0::K'):=fun z=>by rw [YN,YN,h z]
  have h4:=Mp b h3
  rw [VX,VX,h1,h2]
  congr 1
  by_cases hq:op=8/\¬gI args 0∈K
  ·have hq':op=8/\¬gI args 0∈K':=⟨hq.1,fun z=>hq.2 ((h _).2 z)⟩
   rw [Zb hq,Zb hq']
   congr 1
   split
   ·exact h2
   ·exact h4
  ·have hq':¬(op=8/\¬gI args 0∈K'):=fun z=>hq ⟨z.1,fun y=>z.2 ((h _).1 y)⟩
   rw [Z5 hq,Z5 hq']
theorem SY:∀(xs:List Z6) {K K':LI},(∀z,z∈K↔z∈K')->Uf ds K xs=Uf ds K' xs
 | [],_,_,_=>by rw [Uf,Uf]
 | s::r,K,K',h=>by rw [Uf,Uf,Zeh s h,SY r h]
theorem Mp:∀(b:Z8) {K K':LI},(∀z,z∈K↔z∈K')->WB ds K b=WB ds K' b
 | .mk steps result,K,K',h=>by rw [WB,WB,SY steps h]
end
end
theorem ER:∀xs:List Z6,X0 xs<=xs.length
 | []=>Xc _
 | s::r=>by have:=ER r;rw [X0];split<;>simp<;>omega
section
variable {f:Z6->Z6} (hop:∀s,(f s).op=s.op) (hin:∀s,(f s).into=s.into) (har:∀s,(f s).args=s.args)
include hop
theorem LQ:∀xs:List Z6,X0 (xs.map f)=X0 xs
 | []=>rfl
 | s::r=>by rw [Tu,X0,X0,hop,LQ r]
include har
theorem Nr {op x:Int}:∀(xs:List Z6) (k:Int),Wf op x (xs.map f) k=Wf op x xs k
 | [],_=>rfl
 | s::r,k=>by rw [Tu,Wf,Wf,hop,har,Nr r]
theorem Zd6 (xs:List Z6) (x:Int):Vv (xs.map f) x=Vv xs x:=by rw [Vv,LQ hop,<-List.map_take,Nr hop har,Vv]
include hin
theorem NO {many:Nat}:∀(xs:List Z6) (k:Int),WD many (xs.map f) k=WD many xs k
 | [],_=>rfl
 | s::r,k=>by
  have e:Kn many (f s)↔Kn many s:=by rw [Kn,Kn,hop,hin,har]
  rw [Tu,WD,WD,NO r]
  by_cases h:Kn many s
  ·rw [Zb h,Zb (e.2 h)]
  ·rw [Z5 h,Z5 (fun z=>h (e.1 z))]
theorem Z49 (xs:List Z6) (many:Nat):WK (xs.map f) many=WK xs many:=by rw [WK,LQ hop,<-List.map_drop,NO hop hin har,WK]
end
theorem Nq {op x:Int}:∀{xs:List Z6} {k:Int},¬Wf op x xs k<0->0<=k->k<=Wf op x xs k/\Wf op x xs k<k+xs.length/\∃s,xs[(Wf op x xs k-k).toNat]? = some s/\s.op=op/\gI s.args 0=x
 | [],k,h,_=>by simp [Wf] at h
 | s::r,k,h,hk=>by
  rw [Wf] at h ⊢
  split
  ·rename_i q
   refine ⟨Int.le_refl _,by rw [Yp];omega,s,?_,q⟩
   rw [Int.sub_self];rfl
  ·rename_i q
   rw [Z5 q] at h
   obtain ⟨h1,h2,t,h3,h4⟩:=Nq (xs:=r) (k:=k+1) h om
   refine ⟨by omega,by rw [Yp];omega,t,?_,h4⟩
   rw [show (Wf op x r (k+1)-k).toNat=(Wf op x r (k+1)-(k+1)).toNat+1 by omega,List.getElem?_cons_succ]
   exact h3
theorem NN {many:Nat}:∀{xs:List Z6} {k:Int},¬WD many xs k<0->0<=k->k<=WD many xs k/\WD many xs k<k+xs.length/\∃s,xs[(WD many xs k-k).toNat]? = some s/\Kn many s
 | [],k,h,_=>by simp [WD] at h
 | s::r,k,h,hk=>by
  rw [WD] at h ⊢
  split
  ·rename_i q
   refine ⟨Int.le_refl _,by rw [Yp];omega,s,?_,q⟩
   rw [Int.sub_self];rfl
  ·rename_i q
   rw [Z5 q] at h
   obtain ⟨h1,h2,t,h3,h4⟩:=NN (xs:=r) (k:=k+1) h om
   refine ⟨by omega,by rw [Yp];omega,t,?_,h4⟩
   rw [show (WD many r (k+1)-k).toNat=(WD many r (k+1)-(k+1)).toNat+1 by omega,List.getElem?_cons_succ]
   exact h3
theorem DU {xs:List Z6} {x:Int} (h:¬Vv xs x<0):0<=Vv xs x/\Vv xs x<X0 xs/\∃s,xs[(Vv xs x).toNat]? = some s/\s.op=16/\gI s.args 0=x:=by
 obtain ⟨h1,h2,s,h3,h4⟩:=Nq h (Int.le_refl 0)
 have hl:=ER xs
 rw [Wo,U4 hl] at h2
 have h2':Vv xs x<X0 xs:=by unfold Vv;omega
 have h1':0<=Vv xs x:=h1
 refine ⟨h1',h2',s,?_,h4⟩
 rw [Int.sub_zero] at h3
 have h5:(Vv xs x).toNat<X0 xs:=by omega
 rwa [show Wf 16 x (xs.take (X0 xs)) 0=Vv xs x from rfl,List.getElem?_take_of_lt h5] at h3
theorem A4 {xs:List Z6} {many:Nat} (h:¬WK xs many<0):(X0 xs:Int)<=WK xs many/\WK xs many<xs.length/\∃s,xs[(WK xs many).toNat]? = some s/\Kn many s/\BD xs (WK xs many)=s:=by
 obtain ⟨h1,h2,s,h3,h4⟩:=NN h om
 have hl:=ER xs
 rw [HR] at h2
 have h1':(X0 xs:Int)<=WK xs many:=h1
 have h2':WK xs many<xs.length:=by unfold WK;omega
 rw [List.getElem?_drop,show WD many (xs.drop (X0 xs)) (X0 xs)=WK xs many from rfl,show X0 xs+(WK xs many-(X0 xs:Int)).toNat=(WK xs many).toNat by omega] at h3
 exact ⟨h1',h2',s,h3,h4,by rw [BD,h3];rfl⟩
theorem Ze0 {f:Z6->Z6} (hop:∀s,(f s).op=s.op) (hin:∀s,(f s).into=s.into) (har:∀s,(f s).args=s.args) (hc:∀x,f (Zw 17 x)=Zw 17 x) (hi:∀v s,f (Qq v s)=Qq v (f s)) (xs:List Z6) (x:Int) (many:Nat) :
  VK (xs.map f) x many=(VK xs x many).map f:=by
 rw [VK,Zd6 hop har,Z49 hop hin har,VK]
 split
 ·rfl
 ·rename_i hq
  obtain ⟨_,_,s,h3,_,h5⟩:=A4 (fun z=>hq (.inr z))
  have e:BD (xs.map f) (WK xs many)=f (BD xs (WK xs many)):=by rw [BD,Qw,h3,h5];rfl
  rw [e,List.map_set,List.map_set,hc,hi]
theorem SU {ds:List Zf} {K:LI} {b:Z8} {x:Int} {many:Nat}:WB ds K (VR b x many)=VR (WB ds K b) x many:=by
 rw [VR,WB,VR,Ho,Hp,Hp]
 show Z8.mk _ _=Z8.mk (VK (b.steps.map (Tp ds K)) x many) b.result
 rw [Ze0 (f:=Tp ds K) (fun s=>by rw [Am];rfl) (fun s=>by rw [Am];rfl) (fun s=>by rw [Am];rfl) (fun x=>by rw [Am];rfl) (fun v s=>by rw [Am,Am];rfl)]
structure CB (c:LI) (q:Int):Prop where
 len:c.length=4
 bd:∀x∈c,0<=x/\x<=q
mutual
def CT:Z6->Prop
 | .mk op _ _ _ kids=>op≠17/\BM kids
def BM:List Z8->Prop
 | []=>True
 | b::r=>K7 b/\BM r
def BN:List Z6->Prop
 | []=>True
 | s::r=>CT s/\BN r
def K7:Z8->Prop
 | .mk steps _=>BN steps
end
theorem DP (s:Z6):CT s↔s.op≠17/\BM s.kids:=by cases s;rw [CT];rfl
theorem EW (b:Z8):K7 b↔BN b.steps:=by cases b;rw [K7];rfl
theorem EX:∀{xs:List Z6},BN xs↔∀s∈xs,CT s
 | []=>by simp [BN]
 | s::r=>by rw [BN,EX];simp
theorem H2:∀{xs:List Z8},BM xs↔∀s∈xs,K7 s
 | []=>by simp [BM]
 | s::r=>by rw [BM,H2];simp
theorem ML:∀{xs:List Z6} {i:Nat} {s:Z6} (t:Z6),xs[i]? = some s->Yx (xs.set i t)+s.sz=Yx xs+t.sz
 | [],_,_,_,h=>by simp at h
 | x::r,0,s,t,h=>by simp at h;subst h;rw [List.set_cons_zero,Yx,Yx];omega
 | x::r,i+1,s,t,h=>by
  have:=ML (xs:=r) (i:=i) t (by simpa using h)
  rw [List.set_cons_succ,Yx,Yx];omega
theorem Zaq (v:Int) (s:Z6):(Qq v s).sz=s.sz:=by cases s;rw [Qq,Z6.sz,Z6.sz];rfl
theorem NQ {xs:List Z6} {x:Int} {many:Nat} (h:¬(Vv xs x<0∨WK xs many<0)):(Vv xs x).toNat<(WK xs many).toNat:=by
 obtain ⟨h1,h2,_⟩:=DU (fun z=>h (.inl z))
 obtain ⟨h3,h4,_⟩:=A4 (fun z=>h (.inr z))
 omega
theorem Fb {xs:List Z6} {x:Int} {many:Nat} (h:¬(Vv xs x<0∨WK xs many<0)) {t:Z6} {s:Z6} (hs:xs[(WK xs many).toNat]? = some s):(xs.set (Vv xs x).toNat t)[(WK xs many).toNat]? = some s:=by
 have:=NQ h
 rw [List.getElem?_set_ne om];exact hs
theorem SA {xs:List Z6} {x:Int} {many:Nat} (h:∀s∈xs,YQ s.op=true->2<=s.sz):Yx (VK xs x many)<=Yx xs:=by
 rw [VK]
 split
 ·exact Xc _
 ·rename_i hq
  obtain ⟨_,_,s,h3,h4,_⟩:=DU (fun z=>hq (.inl z))
  obtain ⟨_,_,t,h5,_,h6⟩:=A4 (fun z=>hq (.inr z))
  have e1:=ML (Zw 17 x) h3
  have e2:=ML (Qq (1+x) (BD xs (WK xs many))) (Fb hq (t:=Zw 17 x) h5)
  have h7:=h s (Y3 h3) (by rw [h4];rfl)
  rw [FW] at e1
  rw [Zaq,h6] at e2
  rw [h6]
  omega
section
variable {ds:List Zf}
theorem Zi6 {v:Int} {s:Z6} (h:wS ds s) (h6:s.op=6):wS ds (Qq v s):=by
 obtain ⟨h1,h2,h3,h4⟩:=(JN s).1 h
 exact (JN _).2 ⟨h1,fun hc=>absurd hc (by show ¬YQ s.op=true;rw [h6];decide),h3,h4⟩
theorem Zi3 {v:Int}:wS ds (Zw 17 v):=(JN _).2 ⟨rfl,fun _=>⟨rfl,rfl,rfl,v,rfl⟩,fun e=>absurd e (show (17:Int)≠8 by decide),True.intro⟩
theorem Zi2 {xs:List Z6} {x:Int} {many:Nat} (h:QN ds xs):QN ds (VK xs x many):=by
 rw [VK]
 split
 ·exact h
 ·rename_i hq
  obtain ⟨_,_,t,h5,h7,h6⟩:=A4 (fun z=>hq (.inr z))
  rw [Bg]
  intro s hs
  rcases List.mem_or_eq_of_mem_set hs with hs|rfl
  ·rcases List.mem_or_eq_of_mem_set hs with hs|rfl
   ·exact Bg.1 h s hs
   ·exact Zi3
  ·rw [h6];exact Zi6 (Bg.1 h t (Y3 h5)) h7.1.1
theorem Zi1 {b:Z8} {x:Int} {many:Nat} (h:wB ds b):wB ds (VR b x many):=by rw [VR,Jh];exact Zi2 ((Jh b).1 h)
variable (hd:XF ds)
mutual
theorem Zei:∀(s:Z6) {K:LI},wS ds s->(Tp ds K s).sz<=s.sz
 | .mk op num into args kids,K,h=>by
  have:=SX kids (K:=K) (op:=op) (num:=num) (args:=args) (k:=0) h.2.2.2
  rw [Tp,Z6.sz,Z6.sz];omega
theorem SX:∀(bs:List Z8) {K:LI} {op num:Int} {args:LI} {k:Nat},Ji ds bs->YX (VX ds K op num args bs k)<=YX bs
 | [],_,_,_,_,_,_=>Xc _
 | b::r,K,op,num,args,k,h=>by
  have h2:=SX r (K:=K) (op:=op) (num:=num) (args:=args) (k:=k+1) h.2
  have key:∀K2:LI,(VR (WB ds K2 b) (gI args 0) (WG ds num k).length).sz<=b.sz:=fun K2=>by
   have h1:=Mq b (K:=K2) h.1
   have h3:=SA (xs:=(WB ds K2 b).steps) (x:=gI args 0) (many:=(WG ds num k).length) (by
    rw [Ho,Hp]
    intro s hs hc
    obtain ⟨t,ht,rfl⟩:=XM.1 hs
    rw [Am] at hc ⊢
    obtain ⟨_,_,a,ha⟩:=HO (Bg.1 ((Jh b).1 h.1) t ht) hc
    rw [Z6.sz,ha];simp)
   rw [VR,Z8.sz]
   rw [Z8.sz_eq] at h1
   omega
  rw [VX,YX,YX]
  split
  ·have:=key (if Vv b.steps (gI args 0)<0∨WK b.steps (WG ds num k).length<0 then K else gI args 0::K)
   omega
  ·have:=Mq b (K:=K) h.1
   omega
theorem Z00:∀(xs:List Z6) {K:LI},QN ds xs->Yx (Uf ds K xs)<=Yx xs
 | [],_,_=>Xc _
 | s::r,K,h=>by
  have h1:=Zei s (K:=K) h.1
  have h2:=Z00 r (K:=K) h.2
  rw [Uf,Yx,Yx];omega
theorem Mq:∀(b:Z8) {K:LI},wB ds b->(WB ds K b).sz<=b.sz
 | .mk steps result,K,h=>by
  have:=Z00 steps (K:=K) h
  rw [WB,Z8.sz,Z8.sz];omega
end
end
theorem LR:∀{xs:List Z6} {i:Nat} {s t:Z6},xs[i]? = some s->YQ t.op=YQ s.op->X0 (xs.set i t)=X0 xs
 | [],_,_,_,h,_=>by simp at h
 | x::r,0,s,t,h,e=>by simp at h;subst h;rw [List.set_cons_zero,X0,X0,e]
 | x::r,i+1,s,t,h,e=>by
  rw [List.set_cons_succ,X0,X0,LR (xs:=r) (i:=i) (by simpa using h) e]
theorem Zbe {xs:List Z6} {x:Int} {many:Nat}:X0 (VK xs x many)=X0 xs:=by
 rw [VK]
 split
 ·rfl
 ·rename_i hq
  obtain ⟨_,_,s,h3,h4,_⟩:=DU (fun z=>hq (.inl z))
  obtain ⟨_,_,t,h5,_,h6⟩:=A4 (fun z=>hq (.inr z))
  rw [LR (Fb hq (t:=Zw 17 x) h5) (by rw [h6];rfl),LR h3 (by rw [h4];rfl)]
theorem Nt {op x:Int}:∀{xs:List Z6} {k:Int},(∀s∈xs,s.op≠op)->Wf op x xs k=-1
 | [],_,_=>rfl
 | s::r,k,h=>by
  rw [Wf,Z5 (fun z=>h s (Xo ..) z.1)]
  exact Nt fun t ht=>h t (Xz _ ht)
theorem Nu {op x:Int}:∀{xs:List Z6} {k:Int},0<=k->(∃s∈xs,s.op=op/\gI s.args 0=x)->0<=Wf op x xs k
 | [],_,_,h=>by obtain ⟨s,hs,_⟩:=h;cases hs
 | s::r,k,hk,h=>by
  rw [Wf]
  split
  ·exact hk
  ·rename_i q
   obtain ⟨t,ht,h1⟩:=h
   rcases YN.1 ht with rfl|ht
   ·exact absurd h1 q
   ·exact Nu om ⟨t,ht,h1⟩
theorem Z1p {xs:List Z6} {x:Int} {many:Nat} (hn:BN xs):0<=Wf 17 x ((VK xs x many).take (X0 (VK xs x many))) 0↔¬(Vv xs x<0∨WK xs many<0):=by
 rw [Zbe]
 constructor
 ·intro h hq
  rw [VK,Zb hq,Nt (fun s hs=>((DP s).1 (EX.1 hn s (QO hs))).1)] at h
  omega
 ·intro hq
  obtain ⟨h1,h2,s,h3,h4,_⟩:=DU (fun z=>hq (.inl z))
  have hap:=NQ hq
  refine Nu (Int.le_refl 0) ⟨Zw 17 x,?_,rfl,rfl⟩
  rw [VK,Z5 hq]
  refine Y3 (i:=(Vv xs x).toNat) ?_
  rw [List.getElem?_take_of_lt om,List.getElem?_set_ne om,List.getElem?_set_self (X9.1 h3).1]
def BO (b:Z8):Prop:=∀s∈b.steps,BM s.kids
theorem CS {b:Z8} (h:K7 b):BO b:=fun s hs=>((DP s).1 (EX.1 ((EW b).1 h) s hs)).2
theorem Zch {b:Z8} {k j:Nat} {s:Z6} {c:Z8} (h:BO b) (hs:b.steps[k]? = some s) (hc:s.kids[j]? = some c):K7 c:=H2.1 (h s (Y3 hs)) c (Y3 hc)
theorem Rw {b:Z8} {x:Int} {many:Nat} (h:K7 b):BO (VR b x many):=by
 intro s hs
 have hs:s∈VK b.steps x many:=hs
 rw [VK] at hs
 split at hs
 ·exact CS h s hs
 ·rename_i hq
  obtain ⟨_,_,t,h5,_,h6⟩:=A4 (fun z=>hq (.inr z))
  rcases List.mem_or_eq_of_mem_set hs with hs|rfl
  ·rcases List.mem_or_eq_of_mem_set hs with hs|rfl
   ·exact CS h s hs
   ·exact True.intro
  ·rw [h6];exact CS h t (Y3 h5)
theorem Zdz {ds:List Zf} {b:Z8} {x:Int} {many:Nat} (h:wB ds b):(VR b x many).sz<=b.sz:=by
 have:=SA (xs:=b.steps) (x:=x) (many:=many) fun s hs hc=>by
  have h7:=HU ((Jh b).1 h) s hs hc
  rw [h7,FW];omega
 rw [VR,Z8.sz,b.sz_eq];omega
def BY (ds:List Zf) (r:YC):YC:=⟨r.params,r.lent,r.result,WB ds [] r.body⟩
def CY (n:ZF):ZF:=⟨n.decls,n.routines.map (BY n.decls)⟩
end Go.Abs
section
namespace Go.Abs
theorem Zbc {xs:List Z6} {k:Nat} {s:Z6} {r:Nat} (h:xs[k]? = some s) (hs:YQ s.op=true) (ha:k+X0 (xs.drop k)=r):k+1+X0 (xs.drop (k+1))=r:=by
 rw [Yh h,X0,Zb hs] at ha;omega
theorem Zbd {xs:List Z6} {k:Nat} {s:Z6} {r:Nat} (h:xs[k]? = some s) (hs:¬YQ s.op=true) (ha:k+X0 (xs.drop k)=r):k=r:=by
 rw [Yh h,X0,Z5 hs] at ha;omega
theorem Zbb {xs:List Z6} {k:Nat} {r:Nat} (h:xs.length<=k) (ha:k+X0 (xs.drop k)=r):k=r:=by
 rw [Xt h,X0] at ha;omega
theorem Z3l {op x:Int} {xs:List Z6} {k:Nat} {s:Z6} {r:Int} (h:xs[k]? = some s) (hs:s.op=op/\gI s.args 0=x) (ha:Wf op x (xs.drop k) k=r):(k:Int)=r:=by
 rw [Yh h,Wf,Zb hs] at ha;exact ha
theorem Ns {op x:Int} {xs:List Z6} {k:Nat} {s:Z6} {r:Int} (h:xs[k]? = some s) (hs:¬(s.op=op/\gI s.args 0=x)) (ha:Wf op x (xs.drop k) k=r):Wf op x (xs.drop (k+1)) ((k+1:Nat):Int)=r:=by
 rw [Yh h,Wf,Z5 hs] at ha;rw [<-ha];congr 1
theorem Z3k {op x:Int} {xs:List Z6} {k:Nat} {r:Int} (h:xs.length<=k) (ha:Wf op x (xs.drop k) k=r):-1=r:=by
 rw [Xt h,Wf] at ha;exact ha
theorem Z4d {many:Nat} {xs:List Z6} {k:Nat} {s:Z6} {r:Int} (h:xs[k]? = some s) (hs:Kn many s) (ha:WD many (xs.drop k) k=r):(k:Int)=r:=by
 rw [Yh h,WD,Zb hs] at ha;exact ha
theorem Z4c {many:Nat} {xs:List Z6} {k:Nat} {s:Z6} {r:Int} (h:xs[k]? = some s) (hs:¬Kn many s) (ha:WD many (xs.drop k) k=r):WD many (xs.drop (k+1)) ((k+1:Nat):Int)=r:=by
 rw [Yh h,WD,Z5 hs] at ha;rw [<-ha];congr 1
theorem Z4b {many:Nat} {xs:List Z6} {k:Nat} {r:Int} (h:xs.length<=k) (ha:WD many (xs.drop k) k=r):-1=r:=by
 rw [Xt h,WD] at ha;exact ha
theorem Ze1 {xs:List Z6} {x:Int} {many:Nat} (h:Vv xs x<0∨WK xs many<0):VK xs x many=xs:=Zb h
theorem Ze2 {xs:List Z6} {x:Int} {many:Nat} {s:Z6} (h:¬(Vv xs x<0∨WK xs many<0)) (hs:BD xs (WK xs many)=s):(xs.set (Vv xs x).toNat (Zw 17 x)).set (WK xs many).toNat (Qq (1+x) s)=VK xs x many:=by
 rw [VK,Z5 h,hs]
theorem Dz (xs:List Z6):(Zc (ZQ xs)).length=xs.length*5:=by rw [TO _ (XJ _)];simp
theorem L4 (s:Z6) (r:List Z6):Zc (ZQ (s::r))=Wk s++Zc (ZQ r):=by rw [Ub,Ub];rfl
theorem Z7c {xs:List Z6} {k:Nat} {x:Z6} (h:xs[k]? = some x):Zc (ZQ (xs.take k))++Zc [X6 x]=Zc (ZQ (xs.take (k+1))):=by
 rw [Vg h,Vx,KW,L4]
 have:Zc (ZQ [])=[]:=by rw [Ub];rfl
 rw [this];rfl
theorem ON {xs:List Z6} {i:Nat} {s:Z6} (h:xs[i]? = some s):Zc (ZQ xs)=Zc (ZQ (xs.take i))++(Wk s++Zc (ZQ (xs.drop (i+1)))):=by
 have hi:=(X9.1 h).1
 have e:xs=xs.take i++(s::xs.drop (i+1)):=by rw [<-Yh h,TJ]
 conv=>lhs;rw [e,Vx,KW,L4]
theorem OM {xs:List Z6} {i:Nat} {s t:Z6} (h:xs[i]? = some s):(Zc (ZQ xs)).take (i*5)++Wk t++(Zc (ZQ xs)).drop (i*5+(Wk t).length)=Zc (ZQ (xs.set i t)):=by
 have hi:=(X9.1 h).1
 have hl:(Zc (ZQ (xs.take i))).length=i*5:=by rw [Dz,Wo,U4 om]
 rw [ON h,Mo (xs:=Wk s) (ys:=Wk t) hl rfl]
 have e:xs.set i t=xs.take i++(t::xs.drop (i+1)):=by rw [Bj,Zb hi]
 rw [e,Vx,KW,L4]
theorem Z7b {xs:List Z6} {i:Nat} {s:Z6} (h:xs[i]? = some s):((Zc (ZQ xs)).drop (i*5)).take (Wk s).length=Wk s:=by
 have hi:=(X9.1 h).1
 have hl:(Zc (ZQ (xs.take i))).length=i*5:=by rw [Dz,Wo,U4 om]
 rw [ON h]
 exact SQ hl
structure KO (xs:LI) (v:Int) (k:Nat) (acc:LI) (d:Bool):Prop where
 len:acc.length<=k+(if d=true then 1 else 0)
 sub:∀z∈acc,z∈xs.take k∨z=v
 all:∀z∈xs.take k,z∈acc
 done:d=true->v∈acc
theorem KO.zero (xs:LI) (v:Int):KO xs v 0 [] false:=⟨by simp,by simp,by simp,by simp⟩
theorem KO.step {xs:LI} {v:Int} {k:Nat} {acc:LI} {d:Bool} {x:Int} (h:KO xs v k acc d) (hx:xs[k]? = some x) {acc2:LI} {d2:Bool}
  (hc:(acc2=acc++[x]/\d2=d)∨(acc2=(acc++[v])++[x]/\d2=true/\¬d=true)∨(acc2=acc++[x]/\d2=true/\x=v)):KO xs v (k+1) acc2 d2:=by
 obtain ⟨h1,h2,h3,h4⟩:=h
 have ht:∀z,z∈xs.take (k+1)↔z∈xs.take k∨z=x:=fun z=>by rw [Vg hx];simp
 rcases hc with ⟨rfl,rfl⟩|⟨rfl,rfl,hd⟩|⟨rfl,rfl,rfl⟩
 ·refine ⟨by simp;omega,fun z hz=>?_,fun z hz=>?_,fun q=>List.mem_append_left _ (h4 q)⟩
  ·rw [ht]
   rcases Xr.1 hz with hz|hz
   ·rcases h2 z hz with q|q
    ·exact .inl (.inl q)
    ·exact .inr q
   ·exact .inl (.inr (Xy.1 hz))
  ·rcases (ht z).1 hz with q|q
   ·exact List.mem_append_left _ (h3 z q)
   ·subst q;simp
 ·rw [Z5 hd] at h1
  refine ⟨by simp;omega,fun z hz=>?_,fun z hz=>?_,fun _=>by simp⟩
  ·rw [ht]
   simp only [Xr,Xy] at hz
   rcases hz with (hz|hz)|hz
   ·rcases h2 z hz with q|q
    ·exact .inl (.inl q)
    ·exact .inr q
   ·exact .inr hz
   ·exact .inl (.inr hz)
  ·rcases (ht z).1 hz with q|q
   ·exact List.mem_append_left _ (List.mem_append_left _ (h3 z q))
   ·subst q;simp
 ·refine ⟨by simp;split at h1<;>omega,fun z hz=>?_,fun z hz=>?_,fun _=>by simp⟩
  ·rw [ht]
   rcases Xr.1 hz with hz|hz
   ·rcases h2 z hz with q|q
    ·exact .inl (.inl q)
    ·exact .inr q
   ·exact .inl (.inr (Xy.1 hz))
  ·rcases (ht z).1 hz with q|q
   ·exact List.mem_append_left _ (h3 z q)
   ·subst q;simp
theorem KO.fin {xs:LI} {v:Int} {k:Nat} {acc:LI} {d:Bool} (h:KO xs v k acc d) (hk:k=xs.length) :
  (d=true->acc.length<=xs.length+1/\∀z,z∈acc↔z∈xs∨z=v)/\(¬d=true->(acc++[v]).length<=xs.length+1/\∀z,z∈acc++[v]↔z∈xs∨z=v):=by
 obtain ⟨h1,h2,h3,h4⟩:=h
 subst hk
 rw [Uv] at h2 h3
 refine ⟨fun hd=>?_,fun hd=>?_⟩
 ·rw [Zb hd] at h1
  exact ⟨h1,fun z=>⟨h2 z,fun q=>q.elim (h3 z) fun e=>e▸h4 hd⟩⟩
 ·rw [Z5 hd] at h1
  refine ⟨by simp;omega,fun z=>?_⟩
  rw [Xr,Xy]
  exact ⟨fun q=>q.elim (h2 z) .inr,fun q=>q.elim (fun e=>.inl (h3 z e)) .inr⟩
end Go.Abs
namespace Go.Abs
theorem KO.go {xs:LI} {v:Int} {k:Nat} {acc:LI} {d:Bool} {x:Int} (h:KO xs v k acc d) (hx:xs[k]? = some x) {acc2:LI} {d2:Bool}
  (hc:(acc2=acc/\d2=d)∨(acc2=acc++[v]/\d2=true/\¬d=true)∨(acc2=acc/\d2=true/\x=v)):KO xs v (k+1) (acc2++[x]) d2:=by
 refine h.step hx ?_
 rcases hc with ⟨e1,e2⟩|⟨e1,e2,e3⟩|⟨e1,e2,e3⟩
 ·exact .inl ⟨by rw [e1],e2⟩
 ·exact .inr (.inl ⟨by rw [e1],e2,e3⟩)
 ·exact .inr (.inr ⟨by rw [e1],e2,e3⟩)
section
variable {ds:List Zf} {kept K2:LI} {op num x:Int} {args:LI} {j many:Nat} {kd:Z8}
theorem Zef (h8:op=8) (hx:gI args 0=x) (hk:¬x∈kept) (hm:(WG ds num j).length=many) (hq:¬(Vv kd.steps x<0∨WK kd.steps many<0)) (hK:∀z,z∈K2↔z∈kept∨z=x):WB ds K2 (VR kd x many)=Q7 ds kept op num args j kd:=by
 subst hx hm
 have e:∀z,z∈K2↔z∈gI args 0::kept:=fun z=>by rw [hK z,YN];exact Or.comm
 rw [Q7,Zb ⟨h8,hk⟩,GK,Z5 hq,SU,Mp kd e]
theorem Zeg (h8:op=8) (hx:gI args 0=x) (hk:¬x∈kept) (hm:(WG ds num j).length=many) (hq:Vv kd.steps x<0∨WK kd.steps many<0):WB ds kept (VR kd x many)=Q7 ds kept op num args j kd:=by
 subst hx hm
 rw [Q7,Zb ⟨h8,hk⟩,GK,Zb hq,SU]
theorem SV (h:¬(op=8/\¬gI args 0∈kept)):WB ds kept kd=Q7 ds kept op num args j kd:=by rw [Q7,Z5 h]
end
end Go.Abs
namespace Go.Abs
theorem FQ:∀{xs:List Z8} {k:Nat} {b:Z8},xs[k]? = some b->YX (xs.take k)+b.sz<=YX xs
 | [],_,_,h=>by simp at h
 | x::r,0,b,h=>by simp at h;subst h;simp [YX]
 | x::r,k+1,b,h=>by
  have:=FQ (xs:=r) (k:=k) (by simpa using h)
  rw [Av,YX,YX];omega
theorem Ih {xs:List Z8} {k:Nat} (h:xs.length<=k):YX (xs.take k)=YX xs:=by rw [WR h]
end Go.Abs
end
namespace Go.Abs
theorem Z17 {xs:List Z6} {k:Nat} {s:Z6} (h:xs[k]? = some s):Yx (xs.drop k)=s.sz+Yx (xs.drop (k+1)):=by rw [Yh h,Yx]
theorem Z18 (xs:List Z6) (k:Nat):Yx (xs.drop k)<=Yx xs:=by
 have h:=Yj Yx (TJ k xs)
 rw [Qa] at h;omega
theorem FP {xs:List Z8} {k:Nat} {b:Z8} (h:xs[k]? = some b):YX (xs.take (k+1))=YX (xs.take k)+b.sz:=by rw [Vg h,FL,YX,YX];rfl
structure CL (ds:List Zf) (nf m:Nat) (xs:List Z6) (d z:Nat):Prop where
 fs:Wg ds nf m xs
 dn:Yv xs=d
 op:Q5 VC xs
 sz:Yx xs<=z
section
variable {ds:List Zf} {nf m d z:Nat} {xs:List Z6}
theorem CL.nil:CL ds nf m [] 0 0:=⟨True.intro,rfl,True.intro,Xc _⟩
theorem CL.len (h:CL ds nf m xs d z):xs.length<=z:=Vm (Jd xs) h.sz
theorem CL.le (h:CL ds nf m xs d z) {z2:Nat} (hz:z<=z2):CL ds nf m xs d z2:=⟨h.fs,h.dn,h.op,Vm h.sz hz⟩
theorem Z63 {op v:Int} (ho:op=14∨op=15) (hv:0<=v/\v<(m:Int)):fS ds nf m (Zw op v):=by
 rw [Zw,fS]
 exact ⟨.inr om,fun a ha=>by rw [Xy.1 ha];exact hv,fun _=>⟨rfl,rfl,rfl,v,rfl⟩,fun h=>by omega,fun h=>by omega,fun h=>by omega,fun h=>by omega,by omega,by omega,by simp,fun _=>rfl,True.intro⟩
theorem NU {op:Int} (ho:op=14∨op=15):YQ op=true:=by simp [YQ];omega
theorem CL.cnt (h:CL ds nf m xs d z) {op v:Int} (ho:op=14∨op=15) (hv:0<=v/\v<((m+d:Nat):Int)):CL ds nf m (xs++[Zw op v]) d (z+2):=by
 have hc:YQ (Zw op v).op=true:=NU ho
 refine ⟨Gc h.fs (by rw [h.dn];exact Z63 ho hv),?_,H8 h.op ?_,?_⟩
 ·rw [Tb,h.dn,Yv,Zb hc];rfl
 ·rw [F3];exact ⟨by show op<=15;omega,True.intro⟩
 ·have:=h.sz
  have e:(Zw op v).sz=2:=rfl
  rw [Qa,Yx,e,Yx];omega
theorem CL.cnts {op:Int} (ho:op=14∨op=15):∀{vs:LI} {xs:List Z6} {z:Nat},CL ds nf m xs d z->(∀v∈vs,0<=v/\v<((m+d:Nat):Int))->CL ds nf m (xs++vs.map (Zw op)) d (z+2*vs.length)
 | [],xs,z,h,_=>by simpa using h
 | v::r,xs,z,h,hv=>by
  have h1:=CL.cnts ho (vs:=r) (h.cnt ho (hv v (Xo ..))) fun x hx=>hv x (Xz _ hx)
  rw [Tu,show xs++Zw op v::r.map (Zw op)=xs++[Zw op v]++r.map (Zw op) by simp]
  exact h1.le (by rw [Yp];omega)
theorem CL.one (h:CL ds nf m xs d z) {s:Z6} (hs:fS ds nf (m+d) s) (hc:YQ s.op=false) (ho:K9 VC s):CL ds nf m (xs++[s]) (d+1) (z+s.sz):=by
 refine ⟨Gc h.fs (by rw [h.dn];exact hs),by rw [Eu hc,h.dn],H8 h.op ho,?_⟩
 have:=h.sz
 rw [Qa,Yx,Yx];omega
theorem CL.app (h:CL ds nf m xs d z) {ys:List Z6} {d2 z2:Nat} (h2:CL ds nf (m+d) ys d2 z2):CL ds nf m (xs++ys) (d+d2) (z+z2):=by
 refine ⟨Ab.2 ⟨h.fs,by rw [h.dn];exact h2.fs⟩,by rw [Tb,h.dn,h2.dn],H7.2 ⟨h.op,h2.op⟩,?_⟩
 have:=h.sz
 have:=h2.sz
 rw [Qa];omega
end
structure KB (ds:List Zf) (nf m:Nat) (b:Z8) (z:Nat):Prop where
 fb:fB ds nf m b
 op:Vu VC b
 sz:b.sz<=z
section
variable {ds:List Zf} {nf m d z:Nat} {xs:List Z6}
theorem CL.block (h:CL ds nf m xs d z) {r:Int} (hr:0<=r/\r<((m+d:Nat):Int)):KB ds nf m ⟨xs,r⟩ (1+z):=by
 refine ⟨by rw [fB,h.dn];exact ⟨h.fs,hr⟩,by rw [Vu];exact h.op,?_⟩
 have:=h.sz
 rw [Z8.sz];omega
theorem KB.le {b:Z8} (h:KB ds nf m b z) {z2:Nat} (hz:z<=z2):KB ds nf m b z2:=⟨h.fb,h.op,Vm h.sz hz⟩
theorem KB.cl {b:Z8} (h:KB ds nf m b z):CL ds nf m b.steps (Yv b.steps) (z-1)/\0<=b.result/\b.result<((m+Yv b.steps:Nat):Int):=by
 obtain ⟨h1,h2⟩:=(KV b).1 h.fb
 refine ⟨⟨h1,rfl,(H6 b).1 h.op,?_⟩,h2⟩
 have:=h.sz
 have:=b.sz_eq
 omega
theorem KB.put {b:Z8} (h:KB ds nf m b z) {as1 bs:LI} (ha:∀v∈as1,0<=v/\v<(m:Int)) (hb:∀v∈bs,0<=v/\v<(m:Int)):KB ds nf m ⟨as1.map (Zw 14)++bs.map (Zw 15)++b.steps,b.result⟩ (z+2*as1.length+2*bs.length):=by
 obtain ⟨h1,h2⟩:=h.cl
 have q1:CL ds nf m ([]++as1.map (Zw 14)) 0 (0+2*as1.length):=CL.nil.cnts (.inl rfl) ha
 have q2:=(q1.cnts (op:=15) (.inr rfl) hb).app h1
 have:=h.sz
 have:=b.sz_eq
 rw [D9,Wr] at q2
 exact (q2.block h2).le om
end
structure KK (ds:List Zf) (nf:Nat) (sc:Nat->Nat) (ks:List Z8) (z:Nat):Prop where
 fb:Uc ds nf sc 0 ks
 op:K8 VC ks
 sz:YX ks<=z
section
variable {ds:List Zf} {nf m z:Nat} {sc:Nat->Nat}
theorem KK.nil:KK ds nf sc [] 0:=⟨True.intro,True.intro,Xc _⟩
theorem KK.snoc {ks:List Z8} {b:Z8} {j z2:Nat} (h:KK ds nf sc ks z) (hj:ks.length=j) (hb:KB ds nf (sc j) b z2):KK ds nf sc (ks++[b]) (z+z2):=by
 refine ⟨Ok h.fb (by rw [hj];exact hb.fb),RC h.op hb.op,?_⟩
 have:=h.sz
 have:=hb.sz
 rw [FL];simp only [YX];omega
theorem KK.le {ks:List Z8} (h:KK ds nf sc ks z) {z2:Nat} (hz:z<=z2):KK ds nf sc ks z2:=⟨h.fb,h.op,Vm h.sz hz⟩
theorem Om {s:Z6} {ks:List Z8} {into:Int} (h:FS ds nf m s) (h11:s.op<=11) (hl:ks.length=s.kids.length) (hi:0<=into/\into<=m) (hk:KK ds nf (V3 ds s.op s.num m) ks z):fS ds nf m ⟨s.op,s.num,into,s.args,ks⟩/\K9 VC ⟨s.op,s.num,into,s.args,ks⟩/\(Z6.mk s.op s.num into s.args ks).sz<=5+z:=by
 refine ⟨?_,?_,?_⟩
 ·rw [fS]
  refine ⟨h.op,h.args,fun q=>by omega,fun q=>by rw [hl];exact h.k7 q,fun q=>by rw [hl];exact h.k8 q,h.one,h.call,h.num,hi,h.alen,fun q=>?_,hk.fb⟩
  have:=h.kn q
  rw [this] at hl
  exact List.eq_nil_of_length_eq_zero hl
 ·rw [K9];exact ⟨by show s.op<=15;omega,hk.op⟩
 ·have:=h.alen
  have:=hk.sz
  rw [Z6.sz];omega
end
structure KT (ds:List Zf) (nf m:Nat) (st:Z6) (z:Nat):Prop where
 fs:fS ds nf m st
 cb:YQ st.op=false
 op:K9 VC st
 sz:st.sz<=z
theorem KT.of {ds:List Zf} {nf m z:Nat} {s:Z6} {ks:List Z8} {into:Int} (h:FS ds nf m s) (h11:s.op<=11) (hl:ks.length=s.kids.length) (hi:0<=into/\into<=m) (hk:KK ds nf (V3 ds s.op s.num m) ks z):KT ds nf m ⟨s.op,s.num,into,s.args,ks⟩ (5+z):=by
 obtain ⟨h1,h2,h3⟩:=Om h h11 hl hi hk
 exact ⟨h1,by show YQ s.op=false;simp [YQ];omega,h2,h3⟩
theorem CL.kt {ds:List Zf} {nf m d z z2:Nat} {xs:List Z6} {st:Z6} (h:CL ds nf m xs d z) (hs:KT ds nf (m+d) st z2):CL ds nf m (xs++[st]) (d+1) (z+z2):=(h.one hs.fs hs.cb hs.op).le (by have:=hs.sz;omega)
theorem FS.few {ds:List Zf} {nf m:Nat} {s:Z6} (h:FS ds nf m s) (hd:XF ds):s.kids.length<=3:=by
 by_cases h7:s.op=7
 ·have:=h.k7 h7;omega
 ·by_cases h8:s.op=8
  ·have:=h.k8 h8
   have:=DQ hd s.num
   omega
  ·rw [h.kn ⟨h7,h8⟩];simp
theorem RF.lend {ds:List Zf} {nf q:Nat} {p:Int->Prop} {r:YC} {l:LI} (h:RF ds nf q p r) (h1:l.length<=3) (h2:∀v∈l,0<=v/\v<(r.params.length:Int)):RF ds nf q p ⟨r.params,l,r.result,r.body⟩:=⟨h.sig,⟨h1,h2⟩,h.body,h.op⟩
theorem RF.with {ds:List Zf} {nf q q2:Nat} {p p2:Int->Prop} {r:YC} {b:Z8} (h:RF ds nf q p r) (h1:fB ds nf r.params.length b) (h2:b.sz<=q2) (h3:Vu p2 b):RF ds nf q2 p2 ⟨r.params,r.lent,r.result,b⟩:=⟨h.sig,h.lent,⟨h1,h2⟩,h3⟩
theorem Z8.eta (b:Z8):Z8.mk b.steps b.result=b:=by cases b;rfl
theorem LC.at {n:ZF} {k:Nat} {xs:List LI} {i:Nat} {l:LI} {r:YC} (h:LC n k xs) (hl:xs[i]? = some l) (hr:n.routines[i]? = some r):l.length<=3/\∀v∈l,0<=v/\v<(r.params.length:Int):=⟨(h.ok i l hl).1,(h.ok i l hl).2 r hr⟩
theorem Iv:∀{xs:List Z6},(∀s∈xs,K9 WW s)->∀k,k<=xs.length->Yv (xs.take k)=k
 | _,_,0,_=>rfl
 | [],_,k+1,h=>absurd h (by simp)
 | x::r,h,k+1,hk=>by
  have h1:=((F3 x).1 (h x (Xo ..))).1
  have hc:YQ x.op=false:=by have:x.op<=11:=h1;simp [YQ];omega
  rw [Av,Yv,Z5 (by rw [hc];simp),Iv (fun s hs=>h s (Xz _ hs)) k (by simpa using hk)]
  omega
theorem KB.put1 {ds:List Zf} {nf m z:Nat} {b:Z8} (h:KB ds nf m b z) {op:Int} (ho:op=14∨op=15) {as1:LI} (ha:∀v∈as1,0<=v/\v<(m:Int)):KB ds nf m ⟨as1.map (Zw op)++b.steps,b.result⟩ (z+2*as1.length):=by
 obtain ⟨h1,h2⟩:=h.cl
 have q1:CL ds nf m ([]++as1.map (Zw op)) 0 (0+2*as1.length):=CL.nil.cnts ho ha
 have q2:=q1.app h1
 have:=h.sz
 have:=b.sz_eq
 rw [D9,Wr] at q2
 exact (q2.block h2).le om
theorem FO.fin {n:ZF} {rs:List YC} {q q2:Nat} {p:Int->Prop} (h:FN n q2) (e:rs.length=n.routines.length) (hr:∀r∈rs,RF n.decls n.routines.length q p r):FO ⟨n.decls,rs⟩ q p/\rs.length=n.routines.length:=
 ⟨FO.all h.decls (by show 1<=rs.length/\rs.length<=4;rw [e];exact h.len) (by show ∀r∈rs,RF n.decls rs.length q p r;rw [e];exact hr),e⟩
theorem KT.le {ds:List Zf} {nf m z z2:Nat} {st:Z6} (h:KT ds nf m st z) (hz:z<=z2):KT ds nf m st z2:=⟨h.fs,h.cb,h.op,Vm h.sz hz⟩
theorem KB.len {ds:List Zf} {nf m z:Nat} {b:Z8} (h:KB ds nf m b z):b.steps.length<=z:=by
 have:=h.sz
 have:=b.sz_eq
 have:=Jd b.steps
 omega
def VM:List Z6->Int->Nat
 | [],_=>0
 | s::r,v=>(if gI s.args 0=v then 1 else 0)+VM r v
def VB (rn:List Z6):LI->Nat
 | []=>0
 | v::r=>VM rn v+VB rn r
theorem In:∀(xs ys:List Z6) (v:Int),VM (xs++ys) v=VM xs v+VM ys v
 | [],ys,v=>by simp [VM]
 | x::r,ys,v=>by rw [Jj,VM,VM,In r];omega
theorem Z47 {xs:List Z6} {k:Nat} {s:Z6} (h:xs[k]? = some s) (v:Int):VM (xs.take (k+1)) v=VM (xs.take k) v+(if gI s.args 0=v then 1 else 0):=by
 rw [Vg h,In,VM,VM];omega
theorem NK:∀(xs:List Z6) (v:Int),VM xs v<=xs.length
 | [],v=>Xc _
 | x::r,v=>by have:=NK r v;rw [VM,Yp];split<;>omega
theorem Z48 (xs:List Z6) (k:Nat) (v:Int):VM (xs.take k) v<=VM xs v:=by
 have h:=Yj (VM · v) (TJ k xs)
 simp only [In] at h;omega
theorem MN (rn:List Z6):∀xs ys:LI,VB rn (xs++ys)=VB rn xs+VB rn ys
 | [],ys=>by simp [VB]
 | x::r,ys=>by rw [Jj,VB,VB,MN rn r];omega
theorem Zh8 {rn:List Z6} {xs:LI} {k:Nat} {v:Int} (h:xs[k]? = some v):VB rn (xs.take (k+1))=VB rn (xs.take k)+VM rn v:=by
 rw [Vg h,MN,VB,VB];rfl
theorem Z1h (s:Z6) (r:List Z6):∀vs:LI,Cb vs->VB (s::r) vs<=1+VB r vs/\(¬gI s.args 0∈vs->VB (s::r) vs=VB r vs)
 | [],_=>by simp [VB]
 | v::vs,h=>by
  obtain ⟨h1,h2⟩:=Vi.1 h
  obtain ⟨q1,q2⟩:=Z1h s r vs h2
  rw [VB,VB,VM]
  by_cases e:gI s.args 0=v
  ·have hn:¬gI s.args 0∈vs:=fun z=>by have:=h1 _ z;omega
   rw [Zb e,q2 hn]
   exact ⟨by omega,fun z=>absurd (YN.2 (.inl e)) z⟩
  ·rw [Z5 e]
   exact ⟨by omega,fun z=>by rw [q2 fun y=>z (Xz _ y)];omega⟩
theorem Z1i:∀(rn:List Z6) {vs:LI},Cb vs->VB rn vs<=rn.length
 | [],vs,_=>by
  have:∀xs:LI,VB [] xs=0:=fun xs=>by
   induction xs with
   | nil=>rfl
   | cons x r ih=>rw [VB,ih];rfl
  rw [this];exact Qf _
 | s::r,vs,h=>by
  have h1:=(Z1h s r vs h).1
  have h2:=Z1i r h
  rw [Yp];omega
theorem MO (rn:List Z6) (xs:LI) (k:Nat):VB rn (xs.take k)<=VB rn xs:=by
 have h:=Yj (VB rn) (TJ k xs)
 rw [MN] at h;omega
def Nc (m:Nat) (rn:List Z6):Prop:=∀s∈rn,∃a,s.args=[a]/\0<=a/\a<(m:Int)
theorem O0 {xs:List Z6} {k:Nat} {s:Z6} (h:xs[k]? = some s):Yv (xs.take (k+1))=Yv (xs.take k)+(if YQ s.op=true then 0 else 1):=by rw [Vg h,Tb,Yv,Yv];rfl
theorem KT.eq {ds:List Zf} {nf m z:Nat} {s:Z6} {ks:List Z8} (h:FS ds nf m s) (h11:s.op<=11) (hl:ks.length=s.kids.length) (hk:KK ds nf (V3 ds s.op s.num m) ks z):KT ds nf m ⟨s.op,s.num,s.into,s.args,ks⟩ (1+s.args.length+z):=by
 obtain ⟨h1,h2,h3⟩:=Om h h11 hl h.into hk
 refine ⟨h1,by show YQ s.op=false;simp [YQ];omega,h2,?_⟩
 have:=hk.sz
 rw [Z6.sz];omega
theorem FS.pair {ds:List Zf} {nf m:Nat} {s:Z6} (h:FS ds nf m s) (hp:s.op=14∨s.op=15):(∃a,s.args=[a]/\0<=a/\a<(m:Int))/\s.sz=2/\YQ s.op=true:=by
 obtain ⟨h1,h2,h3,a,h4⟩:=h.cnt om
 have h5:=h.args a (by rw [h4];exact Xy.2 rfl)
 refine ⟨⟨a,h4,h5⟩,?_,NU hp⟩
 rw [s.sz_eq,h3,h4];rfl
theorem FS.not_pair {ds:List Zf} {nf m:Nat} {s:Z6} (h:FS ds nf m s) (hp:¬(s.op=14∨s.op=15)) (h15:VC s.op):s.op<=11/\YQ s.op=false:=by
 have h1:s.op<=15:=h15
 have h2:=h.op
 exact ⟨by omega,by simp [YQ];omega⟩
theorem CL.run {ds:List Zf} {nf m d z:Nat} {xs:List Z6} {D R:LI} {rn:List Z6} (h:CL ds nf m xs d z) (hr:Nc (m+d) rn) (hD:∀v∈D,∃s∈rn,s.args=[v]) (hR:∀v∈R,∃s∈rn,s.args=[v]):CL ds nf m (xs++(D.map (Zw 14)++R.map (Zw 15))) d (z+2*(D.length+R.length)):=by
 have key:∀(A:LI),(∀v∈A,∃s∈rn,s.args=[v])->∀v∈A,0<=v/\v<((m+d:Nat):Int):=fun A hA v hv=>by
  obtain ⟨s,hs,e⟩:=hA v hv
  obtain ⟨a,e2,e3⟩:=hr s hs
  rw [e] at e2
  cases e2
  exact e3
 have h2:=(h.cnts (op:=14) (.inl rfl) (key D hD)).cnts (op:=15) (.inr rfl) (key R hR)
 rw [<-U3]
 exact h2.le om
def WT (xs:List Z6) (i:Nat) (s:Z6):List Z6:=xs.take i++[s]++xs.drop i
theorem Hh {xs:List Z6} (i:Nat) (s:Z6):Yx (WT xs i s)=Yx xs+s.sz:=by
 have h:=Yj Yx (TJ i xs)
 rw [Qa] at h
 rw [WT,Qa,Qa,Yx,Yx];omega
theorem Sb {xs:List Z6} {i:Nat} {s:Z6} (h:i<=xs.length):(WT xs i s).length=xs.length+1:=by
 simp [WT,U4 h];omega
def AY (b:Z8) (i j:Nat) (v:Int):Z8:=⟨WT (WT b.steps j (Zw 15 v)) i (Zw 14 v),b.result⟩
def withR (n:ZF) (f:Nat) (rt:YC) (b:Z8):ZF:=⟨n.decls,n.routines.set f ⟨rt.params,rt.lent,rt.result,b⟩⟩
def FC (n n2:ZF):Prop:=n2=n∨∃f rt i j v,n.routines[f]? = some rt/\i<=j/\j<=rt.body.steps.length/\0<=v/\v<((rt.params.length+Yv (rt.body.steps.take i):Nat):Int)/\n2=withR n f rt (AY rt.body i j v)
theorem CL.put {ds:List Zf} {nf m:Nat} {xs:List Z6} {d z:Nat} (h:CL ds nf m xs d z) {i:Nat} {op v:Int} (ho:op=14∨op=15) (hv:0<=v/\v<((m+Yv (xs.take i):Nat):Int)):CL ds nf m (WT xs i (Zw op v)) d (z+2):=by
 have hs:=h.fs
 have hp:=h.op
 have e:=TJ i xs
 rw [<-e] at hs hp
 rw [Ab] at hs
 rw [H7] at hp
 have h1:CL ds nf m (xs.take i) (Yv (xs.take i)) (Yx (xs.take i)):=⟨hs.1,rfl,hp.1,Xc _⟩
 have h2:CL ds nf (m+Yv (xs.take i)) (xs.drop i) (Yv (xs.drop i)) (Yx (xs.drop i)):=⟨hs.2,rfl,hp.2,Xc _⟩
 have h3:=(h1.cnt ho hv).app h2
 have e1:=Yj Yx e
 have e2:=Yj Yv e
 rw [Qa] at e1
 rw [Tb,h.dn] at e2
 have:=h.sz
 rw [e2] at h3
 exact h3.le om
theorem Sc {xs:List Z6} {i j:Nat} {s:Z6} (h:i<=j) (hj:j<=xs.length):(WT xs j s).take i=xs.take i:=by
 rw [WT,U3,List.take_append_of_le_length (by rw [Wo];omega),List.take_take,U4 h]
theorem Z9j {ds:List Zf} {nf m z:Nat} {b:Z8} (h:KB ds nf m b z) {i j:Nat} {v:Int} (hij:i<=j) (hj:j<=b.steps.length) (hv:0<=v/\v<((m+Yv (b.steps.take i):Nat):Int)):KB ds nf m (AY b i j v) (z+4):=by
 obtain ⟨h1,h2⟩:=h.cl
 have hm:Yv (b.steps.take i)<=Yv (b.steps.take j):=by
  have e:=Yj Yv (TJ i (b.steps.take j))
  rw [Tb,List.take_take,U4 hij] at e;omega
 have h3:=(h1.put (i:=j) (op:=15) (v:=v) (.inr rfl) om).put (i:=i) (op:=14) (v:=v) (.inl rfl) (by rw [Sc hij hj];exact hv)
 have:=h.sz
 have:=b.sz_eq
 exact (h3.block h2).le om
theorem FO.held {n n2:ZF} {q:Nat} (h:FO n q VC) (hh:FC n n2):FO n2 (q+4) VC:=by
 rcases hh with rfl|⟨f,rt,i,j,v,h1,h2,h3,h4,h5,rfl⟩
 ·exact ⟨⟨h.fn.decls,h.fn.len,h.fn.sigs,h.fn.lent,fun r hr=>⟨(h.fn.body r hr).1,by have:=(h.fn.body r hr).2;omega⟩⟩,h.op⟩
 ·have hr:=h.rf (Y3 h1)
  have hk:KB n.decls n.routines.length rt.params.length (AY rt.body i j v) (q+4):=Z9j ⟨hr.body.1,hr.op,hr.body.2⟩ h2 h3 ⟨h4,h5⟩
  refine FO.all h.fn.decls (by show 1<=(n.routines.set _ _).length/\(n.routines.set _ _).length<=4;rw [V6];exact h.fn.len) fun r hm=>?_
  show RF n.decls (n.routines.set _ _).length _ _ r
  rw [V6]
  rcases List.mem_or_eq_of_mem_set hm with hm|rfl
  ·have hq:=h.rf hm
   exact ⟨hq.sig,hq.lent,⟨hq.body.1,by have:=hq.body.2;omega⟩,hq.op⟩
  ·exact ⟨hr.sig,hr.lent,⟨hk.fb,hk.sz⟩,hk.op⟩
mutual
def Z6.rb:Z6->Prop
 | .mk _ _ _ _ kids=>JZ kids
def JZ:List Z8->Prop
 | []=>True
 | b::r=>Z8.rb b/\JZ r
def KH:List Z6->Prop
 | []=>True
 | s::r=>Z6.rb s/\KH r
def Z8.rb:Z8->Prop
 | .mk steps result=>KH steps/\-1000000000<=result/\result<=1000000000
end
theorem Z6.rb_eq (s:Z6):s.rb=JZ s.kids:=by cases s;rw [Z6.rb];rfl
theorem Z8.rb_eq (b:Z8):b.rb=(KH b.steps/\-1000000000<=b.result/\b.result<=1000000000):=by cases b;rw [Z8.rb];rfl
theorem E7:∀{xs:List Z6},KH xs↔∀s∈xs,s.rb
 | []=>by simp [KH]
 | s::r=>by rw [KH,E7];simp
section
variable {ds:List Zf} {nf:Nat}
mutual
theorem Zdk:∀(s:Z6) {m:Nat},fS ds nf m s->m+4*s.sz<=900000000->XF ds->s.rb
 | .mk op num into args kids,m,h,hb,hd=>by
  rw [fS] at h
  obtain ⟨h1,h2,h3,h4,h5,h6,h7,h8,h9,h10,h11,h12⟩:=h
  rw [Z6.sz] at hb
  rw [Z6.rb]
  refine Sh kids h12 (fun k=>?_) hd
  have hf:=Vp hd (gI (ZW ds num) k)
  show V3 ds op num m k+4*YX kids<=900000003
  rw [V3];split<;>omega
theorem Sh:∀(bs:List Z8) {sc:Nat->Nat} {k:Nat},Uc ds nf sc k bs->(∀k,sc k+4*YX bs<=900000003)->XF ds->JZ bs
 | [],_,_,_,_,_=>True.intro
 | b::r,sc,k,h,hb,hd=>by
  have hp:=b.sz_eq
  exact ⟨Sf b h.1 (by have:=hb k;rw [YX] at this;omega) hd,Sh r h.2 (fun j=>by have:=hb j;rw [YX] at this;omega) hd⟩
theorem Si:∀(xs:List Z6) {m:Nat},Wg ds nf m xs->m+4*Yx xs<=900000000->XF ds->KH xs
 | [],_,_,_,_=>True.intro
 | s::r,m,h,hb,hd=>by
  rw [Yx] at hb
  have hp:=s.sz_pos
  refine ⟨Zdk s h.1 om hd,Si r h.2 ?_ hd⟩
  split<;>omega
theorem Sf:∀(b:Z8) {m:Nat},fB ds nf m b->m+4*b.sz<=900000004->XF ds->b.rb
 | .mk steps result,m,h,hb,hd=>by
  rw [Z8.sz] at hb
  rw [fB] at h
  rw [Z8.rb]
  have h1:=AL steps
  have h2:steps.length<=Yx steps:=by
   clear h h1 hb
   induction steps with
   | nil=>simp
   | cons x r ih=>have:=x.sz_pos;rw [Yx,Yp];omega
  exact ⟨Si steps h.1 om hd,by omega,by omega⟩
end
theorem DY {op v:Int}:(Zw op v).rb:=by rw [Z6.rb_eq];exact True.intro
theorem Zdl {b:Z8} {x q:Int} {fs:LI} (h:b.rb):(Kk b x fs q).rb:=by
 rw [Z8.rb_eq,E7] at h
 rw [Z8.rb_eq,E7]
 refine ⟨fun s hs=>?_,h.2⟩
 have hs:s∈QS b.steps x fs q:=hs
 rw [QS] at hs
 split at hs
 ·simp only [Xr,XM,Xy] at hs
  rcases hs with ((⟨a,_,rfl⟩|rfl)|⟨a,_,rfl⟩)|hs
  ·exact DY
  ·exact DY
  ·exact DY
  ·exact h.1 s (List.mem_of_mem_drop hs)
 ·exact h.1 s hs
mutual
theorem Zdo:∀(s:Z6) {m:Nat},s.rb->(KF ds m s).rb
 | .mk op num into args kids,m,h=>by
  rw [Z6.rb] at h
  rw [KF,Z6.rb]
  exact Sl kids h
theorem Sl:∀(bs:List Z8) {m:Nat} {op num:Int} {args:LI} {k:Nat},JZ bs->JZ (UR ds m op num args bs k)
 | [],_,_,_,_,_,_=>by rw [UR];exact True.intro
 | b::r,m,op,num,args,k,h=>by
  rw [UR,JZ]
  refine ⟨?_,Sl r h.2⟩
  split
  ·exact Zdl (Mh b h.1)
  ·exact Mh b h.1
theorem Sm:∀(xs:List Z6) {m:Nat},KH xs->KH (U2 ds m xs)
 | [],_,_=>by rw [U2];exact True.intro
 | s::r,m,h=>by rw [U2,KH];exact ⟨Zdo s h.1,Sm r h.2⟩
theorem Mh:∀(b:Z8) {m:Nat},b.rb->(V2 ds m b).rb
 | .mk steps result,m,h=>by
  rw [Z8.rb] at h
  rw [V2,Z8.rb]
  exact ⟨Sm steps h.1,h.2⟩
end
theorem Zdm {b:Z8} {x:Int} {many:Nat} (h:b.rb):(VR b x many).rb:=by
 rw [Z8.rb_eq] at h
 rw [VR,Z8.rb_eq]
 refine ⟨?_,h.2⟩
 show KH (VK b.steps x many)
 rw [VK]
 split
 ·exact h.1
 ·rename_i hq
  obtain ⟨_,_,t,h5,h7,h6⟩:=A4 (fun z=>hq (.inr z))
  have h:=h.1
  rw [E7] at h ⊢
  intro s hs
  rcases List.mem_or_eq_of_mem_set hs with hs|rfl
  ·rcases List.mem_or_eq_of_mem_set hs with hs|rfl
   ·exact h s hs
   ·exact DY
  ·have:=h t (Y3 h5)
   rw [h6,Qq,Z6.rb_eq]
   rw [Z6.rb_eq] at this
   exact this
mutual
theorem Zdn:∀(s:Z6) {K:LI},s.rb->(Tp ds K s).rb
 | .mk op num into args kids,K,h=>by
  rw [Z6.rb] at h
  rw [Tp,Z6.rb]
  exact Sj kids h
theorem Sj:∀(bs:List Z8) {K:LI} {op num:Int} {args:LI} {k:Nat},JZ bs->JZ (VX ds K op num args bs k)
 | [],_,_,_,_,_,_=>True.intro
 | b::r,K,op,num,args,k,h=>by
  rw [VX,JZ]
  refine ⟨?_,Sj r h.2⟩
  split
  ·exact Zdm (Mg b h.1)
  ·exact Mg b h.1
theorem Sk:∀(xs:List Z6) {K:LI},KH xs->KH (Uf ds K xs)
 | [],_,_=>True.intro
 | s::r,K,h=>⟨Zdn s h.1,Sk r h.2⟩
theorem Mg:∀(b:Z8) {K:LI},b.rb->(WB ds K b).rb
 | .mk steps result,K,h=>by
  rw [Z8.rb] at h
  rw [WB,Z8.rb]
  exact ⟨Sk steps h.1,h.2⟩
end
end
structure Wl (ds:List Zf) (b:Z8):Prop where
 w:wB ds b
 nr:K7 b
 rng:b.rng
structure TX (ds:List Zf) (s:Z6):Prop where
 w:wS ds s
 nr:CT s
 rng:s.rng
section
variable {ds:List Zf}
theorem E8:∀{xs:List Z6},Ao xs↔∀s∈xs,s.rng
 | []=>by simp [Ao]
 | s::r=>by rw [Ao,E8];simp
theorem If:∀{xs:List Z8},A0 xs↔∀s∈xs,s.rng
 | []=>by simp [A0]
 | s::r=>by rw [A0,If];simp
theorem Wl.iff {b:Z8}:Wl ds b↔∀s∈b.steps,TX ds s:=by
 constructor
 ·intro h s hs
  have h3:=h.rng
  rw [Z8.rng_eq] at h3
  exact ⟨Bg.1 ((Jh b).1 h.w) s hs,EX.1 ((EW b).1 h.nr) s hs,E8.1 h3 s hs⟩
 ·intro h
  exact ⟨(Jh b).2 (Bg.2 fun s hs=>(h s hs).w),(EW b).2 (EX.2 fun s hs=>(h s hs).nr),by rw [Z8.rng_eq];exact E8.2 fun s hs=>(h s hs).rng⟩
theorem TX.kid {s:Z6} {b:Z8} (h:TX ds s) (hb:b∈s.kids):Wl ds b:=by
 have h3:=h.rng
 rw [Z6.rng_eq] at h3
 exact ⟨HN.1 ((JN s).1 h.w).2.2.2 b hb,H2.1 ((DP s).1 h.nr).2 b hb,If.1 h3.2 b hb⟩
theorem TX.kids {s:Z6} {ks:List Z8} (h:TX ds s) (hl:ks.length=s.kids.length) (hk:∀b∈ks,Wl ds b):TX ds ⟨s.op,s.num,s.into,s.args,ks⟩:=by
 obtain ⟨h1,h2,h3,h4⟩:=(JN s).1 h.w
 have h5:=h.rng
 rw [Z6.rng_eq] at h5
 refine ⟨(JN _).2 ⟨h1,fun hc=>?_,fun h8=>⟨(h3 h8).1,hl.trans (h3 h8).2⟩,HN.2 fun b hb=>(hk b hb).w⟩,(DP _).2 ⟨((DP s).1 h.nr).1,H2.2 fun b hb=>(hk b hb).nr⟩,by rw [Z6.rng_eq];exact ⟨h5.1,If.2 fun b hb=>(hk b hb).rng⟩⟩
 obtain ⟨q1,q2,q3,q4⟩:=h2 hc
 exact ⟨q1,q2,List.eq_nil_of_length_eq_zero (show ks.length=0 by rw [hl,q3];rfl),q4⟩
theorem TX.cnt {op v:Int} (h:op=14∨op=15∨op=16):TX ds (Zw op v):=⟨Zi4 h,(DP _).2 ⟨by show op≠17;omega,True.intro⟩,by rw [Z6.rng_eq];exact ⟨⟨by show (-9223372036854775808:Int)<=0;decide,by show (0:Int)<=_;decide⟩,True.intro⟩⟩
theorem Wl.open {b:Z8} {x q:Int} {fs:LI} (h:Wl ds b):Wl ds (Kk b x fs q):=by
 rw [Wl.iff] at h ⊢
 intro s hs
 have hs:s∈QS b.steps x fs q:=hs
 rw [QS] at hs
 split at hs
 ·simp only [Xr,XM,Xy] at hs
  rcases hs with ((⟨a,_,rfl⟩|rfl)|⟨a,_,rfl⟩)|hs
  ·exact TX.cnt om
  ·exact TX.cnt om
  ·exact TX.cnt om
  ·exact h s (List.mem_of_mem_drop hs)
 ·exact h s hs
theorem HA {m:Nat} {op num:Int} {args:LI}:∀{bs:List Z8} {k:Nat},(UR ds m op num args bs k).length=bs.length
 | [],_=>rfl
 | b::r,k=>by rw [UR,Yp,Yp,HA (bs:=r)]
mutual
theorem TX.sp:∀(s:Z6) {m:Nat},TX ds s->TX ds (KF ds m s)
 | .mk op num into args kids,m,h=>by
  rw [KF]
  exact h.kids HA (Wls.sp kids fun b hb=>h.kid hb)
theorem Wls.sp:∀(bs:List Z8) {m:Nat} {op num:Int} {args:LI} {k:Nat},(∀b∈bs,Wl ds b)->∀b∈UR ds m op num args bs k,Wl ds b
 | [],_,_,_,_,_,_,b,hb=>by cases hb
 | c::r,m,op,num,args,k,h,b,hb=>by
  rw [UR] at hb
  rcases YN.1 hb with rfl|hb
  ·split
   ·exact (Wl.sp c (h c (Xo ..))).open
   ·exact Wl.sp c (h c (Xo ..))
  ·exact Wls.sp r (fun x hx=>h x (Xz _ hx)) b hb
theorem WlSs.sp:∀(xs:List Z6) {m:Nat},(∀s∈xs,TX ds s)->∀s∈U2 ds m xs,TX ds s
 | [],_,_,s,hs=>by cases hs
 | c::r,m,h,s,hs=>by
  rw [U2] at hs
  rcases YN.1 hs with rfl|hs
  ·exact TX.sp c (h c (Xo ..))
  ·exact WlSs.sp r (fun x hx=>h x (Xz _ hx)) s hs
theorem Wl.sp:∀(b:Z8) {m:Nat},Wl ds b->Wl ds (V2 ds m b)
 | .mk steps result,m,h=>by
  rw [V2,Wl.iff]
  exact WlSs.sp steps (Wl.iff.1 h)
end
theorem Ze7 {b:Z8} {x:Int} {many:Nat} (h:b.rng):(VR b x many).rng:=by
 rw [Z8.rng_eq] at h
 rw [VR,Z8.rng_eq]
 show Ao (VK b.steps x many)
 rw [VK]
 split
 ·exact h
 ·rename_i hq
  obtain ⟨_,_,t,h5,h7,h6⟩:=A4 (fun z=>hq (.inr z))
  rw [E8] at h ⊢
  intro s hs
  rcases List.mem_or_eq_of_mem_set hs with hs|rfl
  ·rcases List.mem_or_eq_of_mem_set hs with hs|rfl
   ·exact h s hs
   ·rw [Z6.rng_eq];exact ⟨⟨by show (-9223372036854775808:Int)<=0;decide,by show (0:Int)<=_;decide⟩,True.intro⟩
  ·have:=h t (Y3 h5)
   rw [h6,Qq,Z6.rng_eq]
   rw [Z6.rng_eq] at this
   exact this
mutual
theorem Ze8:∀(s:Z6) {K:LI},s.rng->(Tp ds K s).rng
 | .mk op num into args kids,K,h=>by
  rw [Z6.rng] at h
  rw [Tp,Z6.rng]
  exact ⟨h.1,SM kids h.2⟩
theorem SM:∀(bs:List Z8) {K:LI} {op num:Int} {args:LI} {k:Nat},A0 bs->A0 (VX ds K op num args bs k)
 | [],_,_,_,_,_,_=>True.intro
 | b::r,K,op,num,args,k,h=>by
  rw [VX,A0]
  refine ⟨?_,SM r h.2⟩
  split
  ·exact Ze7 (Ml b h.1)
  ·exact Ml b h.1
theorem SN:∀(xs:List Z6) {K:LI},Ao xs->Ao (Uf ds K xs)
 | [],_,_=>True.intro
 | s::r,K,h=>⟨Ze8 s h.1,SN r h.2⟩
theorem Ml:∀(b:Z8) {K:LI},b.rng->(WB ds K b).rng
 | .mk steps result,K,h=>by
  rw [Z8.rng] at h
  rw [WB,Z8.rng]
  exact SN steps h
end
end
mutual
theorem Zcg:∀s:Z6,K9 VC s->CT s
 | .mk op num into args kids,h=>by
  rw [K9] at h
  rw [CT]
  exact ⟨by have:op<=15:=h.1;omega,Ru kids h.2⟩
theorem Ru:∀bs:List Z8,K8 VC bs->BM bs
 | [],_=>True.intro
 | b::r,h=>⟨Rt b h.1,Ru r h.2⟩
theorem Rv:∀bs:List Z6,Q5 VC bs->BN bs
 | [],_=>True.intro
 | b::r,h=>⟨Zcg b h.1,Rv r h.2⟩
theorem Rt:∀b:Z8,Vu VC b->K7 b
 | .mk steps result,h=>by
  rw [Vu] at h
  rw [K7]
  exact Rv steps h
end
structure ZR (q:Nat) (r:YC):Prop where
 params:r.params.length<=3
 lent:r.lent.length<=10
 body:r.body.sz<=q
 rng:r.body.rng
 rb:r.body.rb
structure ZN (n:ZF) (q:Nat):Prop where
 decls:AD n.decls
 len:1<=n.routines.length/\n.routines.length<=4
 rt:∀r∈n.routines,ZR q r
theorem ZR.le {q q2:Nat} {r:YC} (h:ZR q r) (hq:q<=q2):ZR q2 r:=⟨h.params,h.lent,Vm h.body hq,h.rng,h.rb⟩
theorem ZN.le {n:ZF} {q q2:Nat} (h:ZN n q) (hq:q<=q2):ZN n q2:=⟨h.decls,h.len,fun r hr=>(h.rt r hr).le hq⟩
theorem ZN.sz {n:ZF} {q:Nat} (h:ZN n q) (hq:q<=10000000):JR n:=
 ⟨⟨by have:=h.decls.1;omega,fun d hd=>by have:=(h.decls.2 d hd).1;omega,fun d hd c hc=>by have:=(h.decls.2 d hd).2 c hc;omega⟩,by have:=h.len;omega,fun r hr=>by have:=(h.rt r hr).params;omega,fun r hr=>by have:=(h.rt r hr).lent;omega,fun r hr=>by have:=(h.rt r hr).body;omega⟩
theorem FO.wl {n:ZF} {q:Nat} (h:FO n q VC) (hq:q<=100000000):∀r∈n.routines,Wl n.decls r.body:=fun r hr=>by
 have h1:=h.rf hr
 have h2:r.params.length<=3:=(Tw.bd (f:=⟨r.params,r.result,default⟩) h1.sig).1
 exact ⟨N1 r.body h1.body.1 (by have:=h1.body.2;omega) h.fn.decls.ok,Rt r.body h1.op,Mk r.body h1.body.1⟩
theorem FO.zn {n:ZF} {q:Nat} {p:Int->Prop} (h:FO n q p) (hq:q<=100000000:=by omega):ZN n q:=
 ⟨h.fn.decls.ad,h.fn.len,fun r hr=>⟨(Tw.bd (f:=⟨r.params,r.result,default⟩) (h.fn.sigs r hr)).1,by have:=(h.fn.lent r hr).1;omega,(h.fn.body r hr).2,Mk r.body (h.fn.body r hr).1,Sf r.body (h.fn.body r hr).1 (by have h2:r.params.length<=3:=(Tw.bd (f:=⟨r.params,r.result,default⟩) (h.fn.sigs r hr)).1;have:=(h.fn.body r hr).2;omega) h.fn.decls.ok⟩⟩
structure WN (n:ZF) (q:Nat):Prop where
 ok:XA n
 zn:ZN n q
 wl:∀r∈n.routines,Wl n.decls r.body
theorem FO.wn {n:ZF} {q:Nat} (h:FO n q VC) (hq:q<=100000000):WN n q:=⟨h.fn.ok,h.zn hq,h.wl hq⟩
theorem WN.sp {n:ZF} {q:Nat} (h:WN n q):WN (CZ n) (9*q):=by
 refine ⟨⟨h.ok.decls,by show (n.routines.map _).length<=4;rw [Tt];exact h.ok.len,fun r hr=>?_,fun r hr=>?_⟩,⟨h.zn.decls,by show 1<=(n.routines.map _).length/\(n.routines.map _).length<=4;rw [Tt];exact h.zn.len,fun r hr=>?_⟩,fun r hr=>?_⟩
 ·obtain ⟨s,hs,rfl⟩:=XM.1 hr;exact h.ok.params s hs
 ·obtain ⟨s,hs,rfl⟩:=XM.1 hr;exact h.ok.lent s hs
 ·obtain ⟨s,hs,rfl⟩:=XM.1 hr
  have hz:=h.zn.rt s hs
  refine ⟨hz.params,hz.lent,?_,(Wl.sp s.body (h.wl s hs)).rng,Mh s.body hz.rb⟩
  have h1:=Hy h.ok.decls s.body (m:=s.params.length) (h.wl s hs).w
  have h2:=s.body.pz_le
  have h3:=hz.body
  show (V2 n.decls s.params.length s.body).sz<=9*q
  omega
 ·obtain ⟨s,hs,rfl⟩:=XM.1 hr;exact Wl.sp s.body (h.wl s hs)
theorem WN.ru {n:ZF} {q:Nat} (h:WN n q):ZN (CY n) q:=by
 refine ⟨h.zn.decls,by show 1<=(n.routines.map _).length/\(n.routines.map _).length<=4;rw [Tt];exact h.zn.len,fun r hr=>?_⟩
 obtain ⟨s,hs,rfl⟩:=XM.1 hr
 have hz:=h.zn.rt s hs
 refine ⟨hz.params,hz.lent,?_,Ml s.body (h.wl s hs).rng,Mg s.body hz.rb⟩
 have h1:=Mq s.body (K:=[]) (h.wl s hs).w
 have h3:=hz.body
 show (WB n.decls [] s.body).sz<=q
 omega
theorem Hg {xs:List Z6} {i:Nat} {s t:Z6} (h:t∈WT xs i s):t∈xs∨t=s:=by
 rw [WT] at h
 simp only [Xr,Xy] at h
 rcases h with (h|h)|h
 ·exact .inl (QO h)
 ·exact .inr h
 ·exact .inl (List.mem_of_mem_drop h)
theorem SK {op v:Int}:(Zw op v).rng:=by rw [Z6.rng_eq];exact ⟨⟨by show (-9223372036854775808:Int)<=0;decide,by show (0:Int)<=_;decide⟩,True.intro⟩
theorem ZN.withR {n:ZF} {q q2:Nat} {f:Nat} {rt:YC} {b:Z8} (h:ZN n q) (hr:n.routines[f]? = some rt) (hq:q<=q2) (hb:b.sz<=q2) (hg:b.rng) (hbr:b.rb):ZN (withR n f rt b) q2:=by
 refine ⟨h.decls,by show 1<=(n.routines.set _ _).length/\(n.routines.set _ _).length<=4;rw [V6];exact h.len,fun r hm=>?_⟩
 rcases List.mem_or_eq_of_mem_set hm with hm|rfl
 ·exact (h.rt r hm).le hq
 ·have:=h.rt rt (Y3 hr)
  exact ⟨this.params,this.lent,hb,hg,hbr⟩
theorem ZN.held {n n2:ZF} {q:Nat} (h:ZN n q) (hh:FC n n2):ZN n2 (q+4):=by
 rcases hh with rfl|⟨f,rt,i,j,v,h1,h2,h3,h4,h5,rfl⟩
 ·exact h.le om
 ·have hz:=h.rt rt (Y3 h1)
  refine h.withR h1 om ?_ ?_ (by have hb:=hz.rb;rw [Z8.rb_eq,E7] at hb;rw [AY,Z8.rb_eq,E7];refine ⟨fun s hs=>?_,hb.2⟩;rcases Hg hs with hs|rfl<;>first|exact DY|(rcases Hg hs with hs|rfl<;>first|exact DY|exact hb.1 s hs))
  ·rw [AY,Z8.sz,Hh,Hh]
   have e1:(Zw 14 v).sz=2:=rfl
   have e2:(Zw 15 v).sz=2:=rfl
   have:=hz.body
   have:=rt.body.sz_eq
   omega
  ·have hg:=hz.rng
   rw [Z8.rng_eq,E8] at hg
   rw [AY,Z8.rng_eq,E8]
   intro s hs
   rcases Hg hs with hs|rfl
   ·rcases Hg hs with hs|rfl
    ·exact hg s hs
    ·exact SK
   ·exact SK
theorem FO.le {n:ZF} {q q2:Nat} {p:Int->Prop} (h:FO n q p) (hq:q<=q2):FO n q2 p:=⟨⟨h.fn.decls,h.fn.len,h.fn.sigs,h.fn.lent,fun r hr=>⟨(h.fn.body r hr).1,Vm (h.fn.body r hr).2 hq⟩⟩,h.op⟩
section
variable {ds:List Zf} {nf:Nat}
theorem Z64 {m:Nat} {s:Z6} (h:fS ds nf m s) (hc:YQ s.op=true):s.num=0/\s.into=0/\s.kids=[]/\∃a,s.args=[a]/\0<=a/\a<m:=by
 have h1:=(AR s).1 h
 have ho:14<=s.op/\s.op<=17:=of_decide_eq_true hc
 obtain ⟨a1,a2,a3,a,a4⟩:=h1.cnt ho.1
 exact ⟨a1,a2,a3,a,a4,h1.args a (by rw [a4];exact Xy.2 rfl)⟩
theorem Z05:∀{xs:List Z6} {m:Nat},Wg ds nf m xs->(∀s∈xs.take (XQ xs),0<=gI s.args 0/\gI s.args 0<m)/\Wg ds nf m (xs.drop (XQ xs))/\Yv (xs.drop (XQ xs))=Yv xs
 | [],m,h=>⟨fun s hs=>by simp [XQ] at hs,h,rfl⟩
 | s::r,m,h=>by
  rw [XQ]
  by_cases hq:s.op=14∨s.op=15
  ·have hc:YQ s.op=true:=by simp [YQ];omega
   rw [Zb hq]
   rw [Wg,Zb hc] at h
   obtain ⟨h1,h2,h3⟩:=Z05 h.2
   obtain ⟨_,_,_,a,ha,hb⟩:=Z64 h.1 hc
   refine ⟨fun t ht=>?_,by rw [List.drop_succ_cons];exact h2,by rw [List.drop_succ_cons,Yv,Zb hc,Wr];exact h3⟩
   rw [Av] at ht
   rcases YN.1 ht with rfl|ht
   ·rw [ha];exact hb
   ·exact h1 t ht
  ·rw [Z5 hq]
   exact ⟨fun t ht=>by simp at ht,h,rfl⟩
theorem FG {op:Int} {P:Int->Prop}:∀{xs:List Z6},(∀s∈xs,P (gI s.args 0))->∀a∈Wv op xs,P a
 | [],_,a,h=>by simp [Wv] at h
 | s::r,hp,a,h=>by
  rw [Wv] at h
  split at h
  ·rcases YN.1 h with rfl|h
   ·exact hp s (Xo ..)
   ·exact FG (fun t ht=>hp t (Xz _ ht)) a h
  ·exact FG (fun t ht=>hp t (Xz _ ht)) a h
theorem Ha {P:Int->Prop}:∀{fs:LI} {q:Int} {D R:LI},(∀a∈D,P a)->(∀a∈R,P a)->(∀a,q<=a->a<q+fs.length->P a)->(∀a∈(Ur fs q D R).1,P a)/\∀a∈(Ur fs q D R).2,P a
 | [],q,D,R,hD,hR,_=>⟨hD,hR⟩
 | f::r,q,D,R,hD,hR,hq=>by
  have hq':∀a,q+1<=a->a<q+1+r.length->P a:=fun a h1 h2=>hq a om (by simp only [Yp];omega)
  rw [Ur]
  split
  ·exact Ha (fun a ha=>hD a (List.mem_of_mem_erase ha)) hR hq'
  ·split
   ·refine Ha hD (fun a ha=>?_) hq'
    rcases Xr.1 ha with ha|ha
    ·exact hR a ha
    ·rw [Xy.1 ha];exact hq q om (by simp only [Yp];omega)
   ·exact Ha hD hR hq'
theorem Z67 {m q:Nat} {xs:List Z6} {x:Int} {fs:LI} (h:Wg ds nf m xs) (hx:0<=x/\x<m) (hq:q+fs.length<=m):Wg ds nf m (QS xs x fs q)/\Yv (QS xs x fs q)=Yv xs:=by
 rw [QS]
 split
 ·obtain ⟨h1,h2,h3⟩:=Z05 h
  have hp:(∀a∈(J7 xs x fs q).1,0<=a/\a<(m:Int))/\∀a∈(J7 xs x fs q).2,0<=a/\a<(m:Int):=by
   rw [J7]
   refine Ha (P:=fun a=>0<=a/\a<(m:Int)) (FG (P:=fun a=>0<=a/\a<(m:Int)) h1) (fun a ha=>FG (P:=fun a=>0<=a/\a<(m:Int)) h1 a (List.mem_of_mem_erase ha)) (fun a ha hb=>by omega)
  obtain ⟨a1,a2⟩:=Ga (ds:=ds) (nf:=nf) (op:=14) om hp.1
  obtain ⟨b1,b2⟩:=Ga (ds:=ds) (nf:=nf) (op:=16) (m:=m) (vs:=[x]) om (fun v hv=>by rw [Xy.1 hv];exact hx)
  obtain ⟨c1,c2⟩:=Ga (ds:=ds) (nf:=nf) (op:=15) om hp.2
  have b1:Wg ds nf m [Zw 16 x]:=b1
  have b2:Yv [Zw 16 x]=0:=b2
  refine ⟨?_,by rw [Tb,Tb,Tb,a2,b2,c2,h3];omega⟩
  simp only [Ab,Tb,a2,b2,c2,C9]
  exact ⟨⟨⟨a1,b1⟩,c1⟩,h2⟩
 ·exact ⟨h,rfl⟩
theorem Z60 {m q:Nat} {b:Z8} {x:Int} {fs:LI} (h:fB ds nf m b) (hx:0<=x/\x<m) (hq:q+fs.length<=m):fB ds nf m (Kk b x fs q):=by
 rw [KV] at h
 obtain ⟨h1,h2⟩:=Z67 h.1 hx hq
 rw [Kk,KV]
 refine ⟨h1,h.2.1,?_⟩
 show b.result<((m+Yv (QS b.steps x fs q):Nat):Int)
 rw [h2];exact h.2.2
theorem Z0k {m:Nat}:∀{xs:List Z6} {m:Nat},Yv (U2 ds m xs)=Yv xs
 | [],_=>rfl
 | s::r,m=>by
  rw [U2,Yv,Yv,Z0k (m:=0) (xs:=r)]
  rw [show (KF ds m s).op=s.op from by rw [Fh];rfl]
theorem Z6f {num:Int} {k:Nat} (h:k<(ZW ds num).length):(WG ds num k).length=(ZO ds (gI (ZW ds num) k)).length:=by
 obtain ⟨x,hx⟩:=Ql (xs:=ZW ds num) (j:=k) h
 rw [WG,Qw,hx,Tj (i:=(k:Int)) (by simpa using hx)];rfl
mutual
theorem Z66:∀(s:Z6) {m:Nat},fS ds nf m s->fS ds nf m (KF ds m s)
 | .mk op num into args kids,m,h=>by
  rw [fS] at h
  obtain ⟨h1,h2,h3,h4,h5,h6,h7,h8,h9,h10,h11,h12⟩:=h
  rw [KF,fS]
  refine ⟨h1,h2,fun ho=>?_,fun ho=>by rw [HA];exact h4 ho,fun ho=>by rw [HA];exact h5 ho,h6,h7,h8,h9,h10,fun ho=>?_,?_⟩
  ·obtain ⟨a1,a2,a3,a4⟩:=h3 ho
   exact ⟨a1,a2,by rw [a3];rfl,a4⟩
  ·rw [h11 ho];rfl
  ·refine Ol kids h12 (fun ho=>?_) (fun ho=>?_)
   ·obtain ⟨a,ha⟩:=h6 (.inr ho)
    rw [ha];exact h2 a (by rw [ha];exact Xy.2 rfl)
   ·rw [h5 ho];omega
theorem Ol:∀(bs:List Z8) {m:Nat} {op num:Int} {args:LI} {k:Nat},Uc ds nf (V3 ds op num m) k bs->(op=8->0<=gI args 0/\gI args 0<m)->(op=8->k+bs.length<=(ZW ds num).length)->Uc ds nf (V3 ds op num m) k (UR ds m op num args bs k)
 | [],_,_,_,_,_,_,_,_=>True.intro
 | b::r,m,op,num,args,k,h,hx,hl=>by
  rw [UR]
  refine ⟨?_,Ol r h.2 hx fun ho=>by have:=hl ho;rw [Yp] at this;omega⟩
  by_cases ho:op=8
  ·have hk:=Z6f (ds:=ds) (num:=num) (k:=k) (by have:=hl ho;rw [Yp] at this;omega)
   have hsc:V3 ds op num m k=m+(WG ds num k).length:=by rw [V3,Zb ho,hk]
   rw [Zb ho]
   have h1:=h.1
   rw [hsc] at h1 ⊢
   have Z3:=hx ho
   exact Z60 (IQ b h1) om (Xc _)
  ·have hsc:V3 ds op num m k=m:=by rw [V3,Z5 ho]
   rw [Z5 ho]
   have h1:=h.1
   rw [hsc] at h1 ⊢
   exact IQ b h1
theorem Oq:∀(xs:List Z6) {m:Nat},Wg ds nf m xs->Wg ds nf m (U2 ds m xs)
 | [],_,_=>True.intro
 | s::r,m,h=>by
  rw [U2,Wg,show (KF ds m s).op=s.op from by rw [Fh];rfl]
  exact ⟨Z66 s h.1,Oq r h.2⟩
theorem IQ:∀(b:Z8) {m:Nat},fB ds nf m b->fB ds nf m (V2 ds m b)
 | .mk steps result,m,h=>by
  rw [fB] at h
  rw [V2,fB,Z0k (m:=0)]
  exact ⟨Oq steps h.1,h.2⟩
end
theorem Iw:∀{xs:List Z6} {i:Nat} {s t:Z6},xs[i]? = some s->YQ t.op=YQ s.op->Yv (xs.set i t)=Yv xs
 | [],i,s,t,h,_=>by simp at h
 | x::r,0,s,t,h,hc=>by simp at h;subst h;rw [List.set_cons_zero,Yv,Yv,hc]
 | x::r,i+1,s,t,h,hc=>by rw [List.set_cons_succ,Yv,Yv,Iw (xs:=r) (by simpa using h) hc]
theorem IS:∀{xs:List Z6} {i m:Nat} {s t:Z6},Wg ds nf m xs->xs[i]? = some s->YQ t.op=YQ s.op->fS ds nf (m+Yv (xs.take i)) t->Wg ds nf m (xs.set i t)
 | [],i,m,s,t,_,h,_,_=>by simp at h
 | x::r,0,m,s,t,h,hs,hc,ht=>by
  simp at hs;subst hs
  rw [List.set_cons_zero,Wg,hc]
  exact ⟨by simpa [Yv] using ht,h.2⟩
 | x::r,i+1,m,s,t,h,hs,hc,ht=>by
  rw [List.set_cons_succ,Wg]
  refine ⟨h.1,IS h.2 (by simpa using hs) hc ?_⟩
  rw [Av,Yv] at ht
  by_cases hx:YQ x.op=true
  ·rw [Zb hx] at ht ⊢;rw [Wr] at ht;exact ht
  ·rw [Z5 hx] at ht ⊢;rw [<-Aw] at ht;exact ht
theorem Z68 {m:Nat} {xs:List Z6} {x:Int} {many:Nat} (h:Wg ds nf m xs) (hx:0<=x/\x<m):Wg ds nf m (VK xs x many)/\Yv (VK xs x many)=Yv xs:=by
 rw [VK]
 split
 ·exact ⟨h,rfl⟩
 ·rename_i hq
  obtain ⟨_,_,t,h5,h7,h6⟩:=A4 (fun z=>hq (.inr z))
  obtain ⟨_,_,s,h8,h9,h10⟩:=DU (fun z=>hq (.inl z))
  have Za:YQ (Zw 17 x).op=YQ s.op:=by rw [h9];rfl
  have k1:=IS (t:=Zw 17 x) h h8 Za (IR om om)
  have k2:=Iw (t:=Zw 17 x) h8 Za
  have k3:=Fb hq (t:=Zw 17 x) h5
  have k4:=(AR t).1 (Dv k1 k3)
  have Zh:YQ (Qq (1+x) t).op=YQ t.op:=rfl
  rw [h6]
  have ho:t.op=6:=h7.1.1
  refine ⟨IS k1 k3 Zh ((AR _).2 ⟨k4.op,k4.args,fun z=>?_,k4.k7,k4.k8,k4.one,k4.call,k4.num,?_,k4.alen,k4.kn,k4.kids⟩),by rw [Iw k3 Zh,k2]⟩
  ·have z:14<=t.op:=z;omega
  ·show 0<=1+x/\1+x<=((m+_:Nat):Int);omega
theorem Z62 {m:Nat} {b:Z8} {x:Int} {many:Nat} (h:fB ds nf m b) (hx:0<=x/\x<m):fB ds nf m (VR b x many):=by
 rw [KV] at h
 obtain ⟨h1,h2⟩:=Z68 (many:=many) h.1 hx
 rw [VR,KV]
 refine ⟨h1,h.2.1,?_⟩
 show b.result<((m+Yv (VK b.steps x many):Nat):Int)
 rw [h2];exact h.2.2
theorem IT {K:LI} {op num:Int} {args:LI}:∀{bs:List Z8} {k:Nat},(VX ds K op num args bs k).length=bs.length
 | [],_=>rfl
 | b::r,k=>by rw [VX,Yp,Yp,IT (bs:=r)]
theorem SZ {K:LI}:∀{xs:List Z6},Yv (Uf ds K xs)=Yv xs
 | []=>rfl
 | s::r=>by rw [Uf,Yv,Yv,SZ (xs:=r),show (Tp ds K s).op=s.op from by rw [Am];rfl]
mutual
theorem Z65:∀(s:Z6) {m:Nat} {K:LI},fS ds nf m s->fS ds nf m (Tp ds K s)
 | .mk op num into args kids,m,K,h=>by
  rw [fS] at h
  obtain ⟨h1,h2,h3,h4,h5,h6,h7,h8,h9,h10,h11,h12⟩:=h
  rw [Tp,fS]
  refine ⟨h1,h2,fun ho=>?_,fun ho=>by rw [IT];exact h4 ho,fun ho=>by rw [IT];exact h5 ho,h6,h7,h8,h9,h10,fun ho=>?_,?_⟩
  ·obtain ⟨a1,a2,a3,a4⟩:=h3 ho
   exact ⟨a1,a2,by rw [a3];rfl,a4⟩
  ·rw [h11 ho];rfl
  ·refine Oj kids h12 (fun ho=>?_)
   obtain ⟨a,ha⟩:=h6 (.inr ho)
   rw [ha];exact h2 a (by rw [ha];exact Xy.2 rfl)
theorem Oj:∀(bs:List Z8) {m:Nat} {K:LI} {op num:Int} {args:LI} {k:Nat},Uc ds nf (V3 ds op num m) k bs->(op=8->0<=gI args 0/\gI args 0<m)->Uc ds nf (V3 ds op num m) k (VX ds K op num args bs k)
 | [],_,_,_,_,_,_,_,_=>True.intro
 | b::r,m,K,op,num,args,k,h,hx=>by
  rw [VX]
  refine ⟨?_,Oj r h.2 hx⟩
  split
  ·rename_i ho
   have Z3:=hx ho.1
   refine Z62 (IP b h.1) ?_
   rw [V3];split<;>omega
  ·exact IP b h.1
theorem Oo:∀(xs:List Z6) {m:Nat} {K:LI},Wg ds nf m xs->Wg ds nf m (Uf ds K xs)
 | [],_,_,_=>True.intro
 | s::r,m,K,h=>by
  rw [Uf,Wg,show (Tp ds K s).op=s.op from by rw [Am];rfl]
  exact ⟨Z65 s h.1,Oo r h.2⟩
theorem IP:∀(b:Z8) {m:Nat} {K:LI},fB ds nf m b->fB ds nf m (WB ds K b)
 | .mk steps result,m,K,h=>by
  rw [fB] at h
  rw [WB,fB,SZ]
  exact ⟨Oo steps h.1,h.2⟩
end
theorem On {m:Nat} {xs:List Z6} {i:Nat} {op v:Int} (h:Wg ds nf m xs) (ho:14<=op/\op<=17) (hv:0<=v/\v<((m+Yv (xs.take i):Nat):Int)):Wg ds nf m (WT xs i (Zw op v))/\Yv (WT xs i (Zw op v))=Yv xs:=by
 have e:=TJ i xs
 have h0:Wg ds nf m (xs.take i++xs.drop i):=by rw [e];exact h
 rw [Ab] at h0
 have hc:YQ (Zw op v).op=true:=decide_eq_true ho
 have hd:Yv [Zw op v]=0:=by rw [Yv,Zb hc];rfl
 have e2:=Yj Yv e
 rw [Tb] at e2
 rw [WT]
 refine ⟨?_,by rw [Tb,Tb,hd];omega⟩
 rw [Ab,Ab,Tb,hd]
 exact ⟨⟨h0.1,IR ho hv,True.intro⟩,h0.2⟩
theorem Z61 {m:Nat} {b:Z8} {i j:Nat} {v:Int} (h:fB ds nf m b) (hij:i<=j) (hj:j<=b.steps.length) (hv:0<=v/\v<((m+Yv (b.steps.take i):Nat):Int)):fB ds nf m (AY b i j v):=by
 rw [KV] at h
 have hm:Yv (b.steps.take i)<=Yv (b.steps.take j):=by
  have e:=Yj Yv (TJ i (b.steps.take j))
  rw [Tb,List.take_take,U4 hij] at e;omega
 obtain ⟨h1,h2⟩:=On (op:=15) (i:=j) (v:=v) h.1 om om
 obtain ⟨h3,h4⟩:=On (op:=14) (i:=i) (v:=v) h1 om (by rw [Sc hij hj];exact hv)
 rw [AY,KV]
 refine ⟨h3,h.2.1,?_⟩
 show b.result<((m+Yv (WT (WT b.steps j (Zw 15 v)) i (Zw 14 v)):Nat):Int)
 rw [h4,h2];exact h.2.2
end
theorem FN.sp {n:ZF} {q q2:Nat} (h:FN n q) (hz:ZN (CZ n) q2):FN (CZ n) q2:=by
 refine ⟨h.decls,hz.len,fun r hr=>?_,fun r hr=>?_,fun r hr=>⟨?_,(hz.rt r hr).body⟩⟩
 ·obtain ⟨s,hs,rfl⟩:=XM.1 hr;exact h.sigs s hs
 ·obtain ⟨s,hs,rfl⟩:=XM.1 hr;exact h.lent s hs
 ·obtain ⟨s,hs,rfl⟩:=XM.1 hr
  have e:(CZ n).routines.length=n.routines.length:=Tt ..
  rw [e]
  exact IQ _ (h.body s hs).1
theorem FN.ru {n:ZF} {q q2:Nat} (h:FN n q) (hz:ZN (CY n) q2):FN (CY n) q2:=by
 refine ⟨h.decls,hz.len,fun r hr=>?_,fun r hr=>?_,fun r hr=>⟨?_,(hz.rt r hr).body⟩⟩
 ·obtain ⟨s,hs,rfl⟩:=XM.1 hr;exact h.sigs s hs
 ·obtain ⟨s,hs,rfl⟩:=XM.1 hr;exact h.lent s hs
 ·obtain ⟨s,hs,rfl⟩:=XM.1 hr
  have e:(CY n).routines.length=n.routines.length:=Tt ..
  rw [e]
  exact IP _ (h.body s hs).1
theorem FN.le {n:ZF} {q q2:Nat} (h:FN n q) (hq:q<=q2):FN n q2:=⟨h.decls,h.len,h.sigs,h.lent,fun r hr=>⟨(h.body r hr).1,Vm (h.body r hr).2 hq⟩⟩
theorem FN.held {n n2:ZF} {q q2:Nat} (h:FN n q) (hh:FC n n2) (hz:ZN n2 q2):FN n2 q2:=by
 rcases hh with rfl|⟨f,rt,i,j,v,h1,h2,h3,h4,h5,rfl⟩
 ·exact ⟨h.decls,h.len,h.sigs,h.lent,fun r hr=>⟨(h.body r hr).1,(hz.rt r hr).body⟩⟩
 ·have hm:=Y3 h1
  have hl:(withR n f rt (AY rt.body i j v)).routines.length=n.routines.length:=V6 ..
  refine ⟨h.decls,hz.len,fun r hr=>?_,fun r hr=>?_,fun r hr=>⟨?_,(hz.rt r hr).body⟩⟩
  ·rcases List.mem_or_eq_of_mem_set hr with hr|rfl
   ·exact h.sigs r hr
   ·exact h.sigs rt hm
  ·rcases List.mem_or_eq_of_mem_set hr with hr|rfl
   ·exact h.lent r hr
   ·exact h.lent rt hm
  ·rw [hl]
   rcases List.mem_or_eq_of_mem_set hr with hr|rfl
   ·exact (h.body r hr).1
   ·exact Z61 (h.body rt hm).1 h2 h3 ⟨h4,h5⟩
abbrev Mem:=Nat->Nat->Option Value
abbrev Ca:=Nat × Nat
def upd (m:Mem) (a:Ca) (z:Int):Mem:=fun g o=>if g=a.1/\o=a.2 then some (.int .i64 z) else m g o
def wr (m:Mem):List Ca->Int->Mem
 | [],_=>m
 | a::r,k=>wr (upd m a k) r (k+1)
def CG (m:Mem):List Ca->Int->Prop
 | [],_=>True
 | a::r,k=>m a.1 a.2=some (.int .i64 k)/\CG m r (k+1)
def PJ (m:Mem) (a:Ca):Prop:=∃z,m a.1 a.2=some (.int .i64 z)
structure Kp (m m':Mem):Prop where
 i:∀{a:Ca},PJ m a->PJ m' a
 h:∀{g o:Nat} {v:Value},m g o=some v->(∀z,v≠.int .i64 z)->m' g o=some v
section
variable {P:Program} {n:Nat} {ops:Array Oper} {B:Fr->List Res->Prop} {k:Nat} {F:Fr} {h h2:List Res}
end
section
variable {m m':Mem} {B:List Nat}
end
section
variable {m:Mem} {B:List Nat} {g:Nat}
end
section
variable {m:Mem} {B:List Nat}
end
def Zn (g lo hi:Nat) (X:List Nat) (a:Ca):Prop:=(a.1=g/\lo<=a.2/\a.2<hi)∨a.1∈X
structure Nd (g lo hi:Nat) (X:List Nat) (as1:List Ca):Prop where
 nd:(X.Nodup/\g∉X)->as1.Nodup
 zn:∀a∈as1,Zn g lo hi X a
section
variable {m:Mem} {B:List Nat}
end
section
variable {n:ZF} {ln:LI} {L:ZM}
end
structure CR (L:ZM) (cons first:LI):Prop where
 cl:cons.length=L.vars.length
 fl:first.length=L.vars.length
 eq:∀v:Int,0<=v->v<L.vars.length->0<=gI L.con v->gI cons v=gI L.con v/\gI first v=gI L.fst v

section
variable {N:Mem} {g o:Nat} {z:Int}
end


structure Instr where
 op:Int
 dst:Int
 num:Int
 into:Int
 args:LI
 jumps:LI
structure ZZ where
 params:LI
 lent:LI
 result:Int
 regs:Int
 code:List Instr
structure YM where
 decls:List Zf
 procs:List ZZ
abbrev V9 (x:Instr):List AV:=[.i x.op,.i x.dst,.i x.num,.i x.into,Z4 x.args,Z4 x.jumps]
abbrev Ty (x:Instr):AV:=.agg (V9 x)
def Ya (xs:List Instr):List AV:=xs.map Ty
abbrev K6 (xs:List Instr):AV:=.sl (Ya xs) none
abbrev M7 (xs:List Instr) (v:Value):AV:=.sl (Ya xs) (some v)
abbrev T1 (x:ZZ):List AV:=[Z4 x.params,Z4 x.lent,.i x.result,.i x.regs,K6 x.code]
abbrev Ce (x:ZZ):AV:=.agg (T1 x)
def Wx (xs:List ZZ):List AV:=xs.map Ce
abbrev M6 (xs:List ZZ):AV:=.sl (Wx xs) none
abbrev Uq (xs:List ZZ) (v:Value):AV:=.sl (Wx xs) (some v)
abbrev VJ (x:YM):List AV:=[Yf x.decls,M6 x.procs]
abbrev VE (x:YM):AV:=.agg (VJ x)
structure Z2b where
 op:Int
 dst:Int
 num:Int
 into:Int
 args:LI
 av:Value
 jumps:LI
 jv:Value
structure Z2d where
 params:LI
 pv:Value
 lent:LI
 lv:Value
 result:Int
 regs:Int
 code:List Z2b
 cv:Value
structure Zid where
 decls:List Na
 dv:Value
 procs:List Z2d
 pv:Value
theorem TA {xs:List Instr} {j:Nat} {x:Instr} (h:xs[j]? = some x):(Ya xs)[j]? = some (Ty x):=by simp [Ya,h]
@[simp] theorem UG (xs:List Instr):(Ya xs).length=xs.length:=by simp [Ya]
theorem Ct (xs ys:List Instr):Ya (xs++ys)=Ya xs++Ya ys:=by simp [Ya]
theorem AM (xs:List Instr):∀y∈Ya xs,y.leaves.length=6:=by intro y hy;simp only [Ya,XM] at hy;obtain ⟨x,_,rfl⟩:=hy;rfl
theorem G6 (xs:List Instr):(Zc (Ya xs)).all AV.one=true:=KX fun y hy=>by simp only [Ya,XM] at hy;obtain ⟨x,_,rfl⟩:=hy;rfl
theorem TN (xs:List Instr):(Zc (Ya xs)).length=xs.length*6:=by rw [TO _ (AM _)];simp
theorem Z78 (xs:List Instr) (x:Instr):Zc (Ya xs)++Zc (Ya [x])=Zc (Ya (xs++[x])):=by rw [Ct,KW]
theorem OK {xs:List Instr} {i:Nat} {s:Instr} (h:xs[i]? = some s):Zc (Ya xs)=Zc (Ya (xs.take i))++(V9 s++Zc (Ya (xs.drop (i+1)))):=by
 have hk:=(X9.1 h).1
 have hd:xs.drop i=s::xs.drop (i+1):=by
  rw [N5 hk]
  congr 1
  rw [D8 hk] at h
  exact Ax h
 have e:xs=xs.take i++(s::xs.drop (i+1)):=by rw [<-hd,TJ]
 conv=>lhs;rw [e,Ct,KW]
 rfl
theorem L0 {xs:List Instr} {i:Nat} {s:Instr} (h:xs[i]? = some s):((Zc (Ya xs)).drop (i*6)).take (V9 s).length=V9 s:=by
 have hi:=(X9.1 h).1
 have hl:(Zc (Ya (xs.take i))).length=i*6:=by rw [TN,Wo,U4 om]
 rw [OK h]
 exact SQ hl
theorem Gk {xs:List Instr} {i:Nat} {s t:Instr} (h:xs[i]? = some s):(Zc (Ya xs)).take (i*6)++V9 t++(Zc (Ya xs)).drop (i*6+(V9 t).length)=Zc (Ya (xs.set i t)):=by
 have hi:=(X9.1 h).1
 have hl:(Zc (Ya (xs.take i))).length=i*6:=by rw [TN,Wo,U4 om]
 rw [OK h,Mo (xs:=V9 s) (ys:=V9 t) hl rfl]
 have e:xs.set i t=xs.take i++(t::xs.drop (i+1)):=by rw [Bj,Zb hi]
 rw [e,Ct,KW]
 rfl
theorem TM {xs:List ZZ} {j:Nat} {x:ZZ} (h:xs[j]? = some x):(Wx xs)[j]? = some (Ce x):=by simp [Wx,h]
@[simp] theorem QW (xs:List ZZ):(Wx xs).length=xs.length:=by simp [Wx]
theorem Z5m (xs ys:List ZZ):Wx (xs++ys)=Wx xs++Wx ys:=by simp [Wx]
theorem Jr (xs:List ZZ):∀y∈Wx xs,y.leaves.length=5:=by intro y hy;simp only [Wx,XM] at hy;obtain ⟨x,_,rfl⟩:=hy;rfl
theorem O6 (xs:List ZZ):(Zc (Wx xs)).all AV.one=true:=KX fun y hy=>by simp only [Wx,XM] at hy;obtain ⟨x,_,rfl⟩:=hy;rfl
def XP (op dst num into:Int) (args:LI):Instr:=⟨op,dst,num,into,args,[]⟩
def Instr.goto (x:Instr) (v:Int):Instr:=⟨x.op,x.dst,v,x.into,x.args,x.jumps⟩
def Instr.fan (x:Instr) (js:LI):Instr:=⟨x.op,x.dst,x.num,x.into,x.args,js⟩
def VL (c:List Instr) (i:Nat):List Instr:=match c[i]? with
 | none=>c
 | some x=>c.set i (x.goto c.length)
def Qi (c:List Instr) (i:Nat) (js:LI):List Instr:=match c[i]? with
 | none=>c
 | some x=>c.set i (x.fan js)
def TY (c:List Instr):List Nat->List Instr
 | []=>c
 | i::r=>TY (VL c i) r
structure AB (E:Type) where
 res:E->Int->LI
 len:E->Nat
 nxt:E->E
 arm:E->Int->Int->Nat->E
def WO (m many:Nat) (x:Int):List Instr:=(List.range many).map fun i=>XP 19 ((m+i:Nat):Int) (i:Int) 0 [x]
def En (r:List Z8) (c:List Instr):List Instr:=match r with|[]=>c|_::_=>c++[XP 22 0 0 0 []]
def Nn (r:List Z8) (es:List Nat) (l:Nat):List Nat:=match r with|[]=>es|_::_=>es++[l+1]
section
variable {E:Type} (X:AB E) (ds:List Zf)
mutual
def Ud (e:E):Z6->List Instr->List Instr
 | .mk op num into args kids,c=>
  if op=7 then QA e args kids c
  else if op=8 then Uj e num (gI args 0) c.length kids 0 (c++[XP 21 0 num 0 args]) [] []
  else if op=14∨op=15 then c++[XP op 0 0 0 args]
  else if op=16∨op=17 then c++[XP op 0 0 0 (args++X.res e (gI args 0))]
  else c++[XP op (X.len e) num into args]
def QA (e:E) (args:LI):List Z8->List Instr->List Instr
 | b::r,c=>QY e (c.length) r (flB e b (c++[XP 20 0 0 0 args])++[XP 18 (X.len e) 0 0 [b.result]])
 | [],c=>c
def QY (e:E) (ZU:Nat):List Z8->List Instr->List Instr
 | b::_,c=>VL (flB e b (VL (c++[XP 22 0 0 0 []]) ZU)++[XP 18 (X.len e) 0 0 [b.result]]) c.length
 | [],c=>c
def Uj (e:E) (num x:Int) (ZU:Nat):List Z8->Nat->List Instr->LI->List Nat->List Instr
 | [],_,c,ts,es=>TY (Qi c ZU ts) es
 | b::r,k,c,ts,es=>
  Uj e num x ZU r (k+1) (En r (flB (X.arm e x num k) b (c++WO (X.len e) (WG ds num k).length x)++[XP 18 (X.len e) 0 0 [b.result]])) (ts++[(c.length:Int)])
   (Nn r es (flB (X.arm e x num k) b (c++WO (X.len e) (WG ds num k).length x)).length)
def UI (e:E):List Z6->List Instr->List Instr
 | [],c=>c
 | s::r,c=>UI (if YQ s.op=true then e else X.nxt e) r (Ud e s c)
def flB (e:E):Z8->List Instr->List Instr
 | .mk steps _,c=>UI e steps c
end
end
def XR (ds:List Zf):AB (LI × LI):=
 ⟨fun e x=>UK (ZO ds (gI e.1 x)) (gI e.2 x),fun e=>e.1.length,fun e=>(e.1++[0],e.2++[0]),
 fun e x num k=>(e.1.set x.toNat (Cl ds num k)++XL (ZO ds (Cl ds num k)).length,e.2.set x.toNat e.1.length++XL (ZO ds (Cl ds num k)).length)⟩
section
variable {ds:List Zf}
end
theorem Bq (c:List Instr) (i:Nat):(VL c i).length=c.length:=by rw [VL];split<;>simp
theorem Cx (c:List Instr) (i:Nat) (js:LI):(Qi c i js).length=c.length:=by rw [Qi];split<;>simp
theorem Nk:∀(es:List Nat) (c:List Instr),(TY c es).length=c.length
 | [],_=>rfl
 | i::r,c=>by rw [TY,Nk r,Bq]
theorem Z0b {c t:List Instr} {i:Nat} {x:Instr} (h:c.length<=i):(c++t).set i x=c++t.set (i-c.length) x:=List.set_append_right _ _ h
theorem I8 {c t:List Instr} {i:Nat} (h:c.length<=i):∃t',VL (c++t) i=c++t'/\t'.length=t.length:=by
 rw [VL]
 split
 ·exact ⟨t,rfl,rfl⟩
 ·exact ⟨_,Z0b h,by simp⟩
theorem Z6c {c t:List Instr} {i:Nat} {js:LI} (h:c.length<=i):∃t',Qi (c++t) i js=c++t'/\t'.length=t.length:=by
 rw [Qi]
 split
 ·exact ⟨t,rfl,rfl⟩
 ·exact ⟨_,Z0b h,by simp⟩
theorem Nj {c:List Instr}:∀{es:List Nat} {t:List Instr},(∀i∈es,c.length<=i)->∃t',TY (c++t) es=c++t'/\t'.length=t.length
 | [],t,_=>⟨t,rfl,rfl⟩
 | i::r,t,h=>by
  obtain ⟨t1,e1,l1⟩:=I8 (t:=t) (h i (Xo ..))
  obtain ⟨t2,e2,l2⟩:=Nj (es:=r) (t:=t1) fun j hj=>h j (Xz _ hj)
  exact ⟨t2,by rw [TY,e1,e2],by rw [l2,l1]⟩
theorem Z3e (r:List Z8) (c:List Instr):∃t,En r c=c++t:=by
 cases r with
 | nil=>exact ⟨[],by rw [KL];rfl⟩
 | cons _ _=>exact ⟨_,rfl⟩
section
variable {E:Type} (X:AB E) (ds:List Zf)
mutual
theorem Z70:∀(s:Z6) (e:E) (c:List Instr),∃t,Ud X ds e s c=c++t
 | .mk op num into args kids,e,c=>by
  rw [Ud]
  split
  ·exact Z6s kids e c
  split
  ·obtain ⟨t,h⟩:=Oz kids e 0 c [XP 21 0 num 0 args] [] [] (Xc _) (fun i hi=>by cases hi) (num:=num) (x:=gI args 0)
   exact ⟨t,h⟩
  split
  ·exact ⟨_,rfl⟩
  split
  ·exact ⟨_,rfl⟩
  ·exact ⟨_,rfl⟩
theorem Z6s:∀(bs:List Z8) (e:E) (c:List Instr) {args:LI},∃t,QA X ds e args bs c=c++t
 | [],e,c,_=>⟨[],by rw [QA,KL]⟩
 | b::r,e,c,args=>by
  rw [QA]
  obtain ⟨t,h⟩:=EC b e (c++[XP 20 0 0 0 args])
  rw [h,U3,U3]
  exact Z6o r e c _ (Xc _)
theorem Z6o:∀(bs:List Z8) (e:E) (c t0:List Instr) {a:Nat},c.length<=a->∃t,QY X ds e a bs (c++t0)=c++t
 | [],e,c,t0,_,_=>⟨t0,by rw [QY]⟩
 | b::r,e,c,t0,a,ha=>by
  rw [QY,U3]
  obtain ⟨t1,h1,_⟩:=I8 (t:=t0++[XP 22 0 0 0 []]) ha
  rw [h1]
  obtain ⟨t2,h2⟩:=EC b e (c++t1)
  rw [h2,U3,U3]
  obtain ⟨t3,h3,_⟩:=I8 (c:=c) (t:=t1++(t2++[XP 18 (X.len e) 0 0 [b.result]])) (i:=(c++t0).length) (by rw [Yr];exact Nat.le_add_right _ _)
  exact ⟨t3,h3⟩
theorem Oz:∀(bs:List Z8) (e:E) (k:Nat) (c t0:List Instr) (ts:LI) (es:List Nat) {num x:Int} {a:Nat},c.length<=a->(∀i∈es,c.length<=i)->∃t,Uj X ds e num x a bs k (c++t0) ts es=c++t
 | [],e,k,c,t0,ts,es,num,x,a,ha,he=>by
  rw [Uj]
  obtain ⟨t1,h1,_⟩:=Z6c (t:=t0) (js:=ts) ha
  obtain ⟨t2,h2,_⟩:=Nj (t:=t1) he
  exact ⟨t2,by rw [h1,h2]⟩
 | b::r,e,k,c,t0,ts,es,num,x,a,ha,he=>by
  rw [Uj]
  obtain ⟨t1,h1⟩:=EC b (X.arm e x num k) ((c++t0)++WO (X.len e) (WG ds num k).length x)
  rw [h1]
  obtain ⟨t2,h2⟩:=Z3e r ((((c++t0)++WO (X.len e) (WG ds num k).length x)++t1)++[XP 18 (X.len e) 0 0 [b.result]])
  rw [h2,U3,U3,U3,U3]
  refine Oz r e (k+1) c _ _ _ ha fun i hi=>?_
  cases r with
  | nil=>exact he i hi
  | cons _ _=>
   rcases Xr.1 hi with hi|hi
   ·exact he i hi
   ·rw [Xy.1 hi]
    simp only [Yr]
    omega
theorem OE:∀(xs:List Z6) (e:E) (c:List Instr),∃t,UI X ds e xs c=c++t
 | [],e,c=>⟨[],by rw [UI,KL]⟩
 | s::r,e,c=>by
  obtain ⟨t1,h1⟩:=Z70 s e c
  obtain ⟨t2,h2⟩:=OE r (if YQ s.op=true then e else X.nxt e) (c++t1)
  exact ⟨t1++t2,by rw [UI,h1,h2,U3]⟩
theorem EC:∀(b:Z8) (e:E) (c:List Instr),∃t,flB X ds e b c=c++t
 | .mk steps result,e,c=>by rw [flB];exact OE steps e c
end
theorem Z6k {b:Z8} {e:E} {c:List Instr} {i:Nat} (h:i<c.length):(flB X ds e b c)[i]? = c[i]?:=by
 obtain ⟨t,ht⟩:=EC X ds b e c
 rw [ht,JP h]
variable {ds} (hd:XF ds)
include hd
mutual
theorem OB:∀(s:Z6) (e:E) (c:List Instr),(Ud X ds e s c).length<=c.length+16*s.sz
 | .mk op num into args kids,e,c=>by
  rw [Ud,Z6.sz]
  split
  ·have:=Z6r kids e c (args:=args);omega
  split
  ·have:=Oy kids e 0 (c++[XP 21 0 num 0 args]) [] [] (num:=num) (x:=gI args 0) (a:=c.length)
   simp only [Yr,Yp,YZ] at this
   omega
  split
  ·simp;omega
  split
  ·simp;omega
  ·simp;omega
theorem Z6r:∀(bs:List Z8) (e:E) (c:List Instr) {args:LI},(QA X ds e args bs c).length<=c.length+16*YX bs+3
 | [],e,c,_=>by rw [QA];omega
 | b::r,e,c,args=>by
  have h1:=BA b e (c++[XP 20 0 0 0 args])
  have h2:=Z6n r e (flB X ds e b (c++[XP 20 0 0 0 args])++[XP 18 (X.len e) 0 0 [b.result]]) (a:=c.length)
  rw [QA,YX]
  simp only [Yr,Yp,YZ] at h1 h2
  omega
theorem Z6n:∀(bs:List Z8) (e:E) (c:List Instr) {a:Nat},(QY X ds e a bs c).length<=c.length+16*YX bs+1
 | [],e,c,_=>by rw [QY];omega
 | b::r,e,c,a=>by
  have h1:=BA b e (VL (c++[XP 22 0 0 0 []]) a)
  rw [QY,Bq,YX]
  rw [Bq] at h1
  simp only [Yr,Yp,YZ] at h1 ⊢
  omega
theorem Oy:∀(bs:List Z8) (e:E) (k:Nat) (c:List Instr) (ts:LI) (es:List Nat) {num x:Int} {a:Nat},(Uj X ds e num x a bs k c ts es).length<=c.length+16*YX bs
 | [],e,k,c,ts,es,num,x,a=>by rw [Uj,Nk,Cx];simp [YX]
 | b::r,e,k,c,ts,es,num,x,a=>by
  have h1:=BA b (X.arm e x num k) (c++WO (X.len e) (WG ds num k).length x)
  have h2:=Oy r e (k+1) (En r (flB X ds (X.arm e x num k) b (c++WO (X.len e) (WG ds num k).length x)++[XP 18 (X.len e) 0 0 [b.result]])) (ts++[(c.length:Int)])
   (Nn r es (flB X ds (X.arm e x num k) b (c++WO (X.len e) (WG ds num k).length x)).length) (num:=num) (x:=x) (a:=a)
  have h3:∀c':List Instr,(En r c').length<=c'.length+1:=fun c'=>by cases r with
   | nil=>exact Nat.le_succ _
   | cons _ _=>show (c'++[XP 22 0 0 0 []]).length<=_;simp
  have h4:=h3 (flB X ds (X.arm e x num k) b (c++WO (X.len e) (WG ds num k).length x)++[XP 18 (X.len e) 0 0 [b.result]])
  have h5:=Gd hd num k
  have h6:(WO (X.len e) (WG ds num k).length x).length=(WG ds num k).length:=by simp [WO]
  rw [Uj,YX]
  simp only [Yr,Yp,YZ,h6] at h1 h2 h4 ⊢
  omega
theorem OD:∀(xs:List Z6) (e:E) (c:List Instr),(UI X ds e xs c).length<=c.length+16*Yx xs
 | [],e,c=>by rw [UI,Yx];omega
 | s::r,e,c=>by
  have h1:=OB s e c
  have h2:=OD r (if YQ s.op=true then e else X.nxt e) (Ud X ds e s c)
  rw [UI,Yx];omega
theorem BA:∀(b:Z8) (e:E) (c:List Instr),(flB X ds e b c).length+16<=c.length+16*b.sz
 | .mk steps result,e,c=>by
  have:=OD steps e c
  rw [flB,Z8.sz];omega
end
end
def Ka (m:Int) (x:Instr):Int:=x.args.foldl (fun m a=>max m (a+1)) (max m (x.dst+1))
def Ut (m:Int) (c:List Instr):Int:=c.foldl Ka m
structure AC (x:Instr):Prop where
 dst:0<=x.dst/\x.dst<=1000000000
 len:x.args.length<=10000200
 args:∀a∈x.args,0<=a/\a<=1000000000
 js:x.jumps.length<=300000000
def Rg (c:List Instr):Prop:=∀x∈c,AC x
theorem Rk:∀{l:LI} {m:Int},(∀a∈l,0<=a/\a<=1000000000)->0<=m/\m<=1000000001->m<=l.foldl (fun m a=>max m (a+1)) m/\l.foldl (fun m a=>max m (a+1)) m<=1000000001
 | [],m,_,h=>⟨Int.le_refl _,h.2⟩
 | a::r,m,ha,h=>by
  have h1:=ha a (Xo ..)
  have h2:=Rk (l:=r) (m:=max m (a+1)) (fun b hb=>ha b (Xz _ hb)) om
  rw [List.foldl_cons]
  omega
theorem Zdr {x:Instr} {m:Int} (hx:AC x) (h:0<=m/\m<=1000000001):m<=Ka m x/\Ka m x<=1000000001:=by
 have h1:=hx.dst
 have h2:=Rk (m:=max m (x.dst+1)) hx.args om
 rw [Ka];omega
theorem St:∀{c:List Instr} {m:Int},Rg c->0<=m/\m<=1000000001->m<=Ut m c/\Ut m c<=1000000001
 | [],m,_,h=>⟨Int.le_refl _,h.2⟩
 | x::r,m,hc,h=>by
  have h1:=Zdr (hc x (Xo ..)) h
  have h2:=St (c:=r) (m:=Ka m x) (fun y hy=>hc y (Xz _ hy)) om
  show m<=Ut (Ka m x) r/\_
  exact ⟨by omega,h2.2⟩
theorem Rl:∀(l:LI) (a m:Int),l.foldl (fun m a=>max m (a+1)) (max a m)=max a (l.foldl (fun m a=>max m (a+1)) m)
 | [],_,_=>rfl
 | x::r,a,m=>by rw [List.foldl_cons,List.foldl_cons,<-Rl r];congr 1;omega
theorem Zds (x:Instr) (a m:Int):Ka (max a m) x=max a (Ka m x):=by
 rw [Ka,Ka,<-Rl];congr 1;omega
theorem Su:∀(c:List Instr) (a m:Int),Ut (max a m) c=max a (Ut m c)
 | [],_,_=>rfl
 | x::r,a,m=>by
  show Ut (Ka (max a m) x) r=max a (Ut (Ka m x) r)
  rw [Zds,Su r]
theorem Zdt (c:List Instr) {a:Int} (h:0<=a):Ut a c=max a (Ut 0 c):=by
 rw [<-Su];congr 1;omega
theorem Rg.nil:Rg []:=fun _ h=>by cases h
theorem Rg.app {c d:List Instr} (h1:Rg c) (h2:Rg d):Rg (c++d):=fun x hx=>(Xr.1 hx).elim (h1 x) (h2 x)
theorem Rg.one {x:Instr} (h:AC x):Rg [x]:=fun y hy=>by rw [Xy.1 hy];exact h
theorem Rg.snoc {c:List Instr} {x:Instr} (h1:Rg c) (h2:AC x):Rg (c++[x]):=h1.app (.one h2)
theorem Rg.set {c:List Instr} {x y:Instr} {i:Nat} (hx:c[i]? = some x) (h:Rg c) (h1:y.dst=x.dst) (h2:y.args=x.args) (h3:y.jumps.length<=300000000):Rg (c.set i y):=fun z hz=>by
 have hr:=h x (Y3 hx)
 rcases List.mem_or_eq_of_mem_set hz with hz|rfl
 ·exact h z hz
 ·exact ⟨by rw [h1];exact hr.dst,by rw [h2];exact hr.len,by rw [h2];exact hr.args,h3⟩
theorem Rg.aim {c:List Instr} (h:Rg c) (i:Nat):Rg (VL c i):=by
 rw [VL]
 split
 ·exact h
 ·rename_i x hx;exact h.set hx rfl rfl (h x (Y3 hx)).js
theorem Rg.fan {c:List Instr} (h:Rg c) (i:Nat) {js:LI} (hj:js.length<=300000000):Rg (Qi c i js):=by
 rw [Qi]
 split
 ·exact h
 ·rename_i x hx;exact h.set hx rfl rfl hj
theorem Rg.aims:∀{es:List Nat} {c:List Instr},Rg c->Rg (TY c es)
 | [],_,h=>h
 | i::r,c,h=>by rw [TY];exact Rg.aims (h.aim i)
theorem AC.mk' {op dst num into:Int} {args:LI} (h1:0<=dst/\dst<=1000000000) (h2:args.length<=10000200) (h3:∀a∈args,0<=a/\a<=1000000000):AC (XP op dst num into args):=⟨h1,h2,h3,Qf _⟩
mutual
def E0:Z6->Prop
 | .mk _ _ _ args kids=>(args.length<=10000100/\∀a∈args,0<=a/\a<=900000000)/\CX kids
def CX:List Z8->Prop
 | []=>True
 | b::r=>DZ b/\CX r
def Fc:List Z6->Prop
 | []=>True
 | s::r=>E0 s/\Fc r
def DZ:Z8->Prop
 | .mk steps result=>Fc steps/\0<=result/\result<=900000000
end
theorem Ze3 (s:Z6):E0 s↔(s.args.length<=10000100/\∀a∈s.args,0<=a/\a<=900000000)/\CX s.kids:=by cases s;rw [E0];rfl
theorem Hl (b:Z8):DZ b↔Fc b.steps/\0<=b.result/\b.result<=900000000:=by cases b;rw [DZ];rfl
section
variable {n:ZF}
end
structure N9 {E:Type} (X:AB E) (G:E->Nat->Prop):Prop where
 len:∀{e q},G e q->X.len e<=q
 res:∀{e q},G e q->∀x,(∀v∈X.res e x,0<=v/\v<=q+3)/\(X.res e x).length<=3
 nxt:∀{e q},G e q->G (X.nxt e) (q+1)
 up:∀{e q q'},G e q->q<=q'->G e q'
 arm:∀{e q},G e q->∀x num k,G (X.arm e x num k) (q+3)
theorem Z2h {m many:Nat} {x:Int} (hm:many<=3) (h:m<=900000000) (hx:0<=x/\x<=900000000):Rg (WO m many x):=fun y hy=>by
 rw [WO] at hy
 obtain ⟨i,hi,rfl⟩:=XM.1 hy
 have:=List.mem_range.1 hi
 exact .mk' om (by simp) fun a ha=>by rw [Xy.1 ha];omega
theorem HZ {m:Nat} {r:Int} (h:m<=900000000) (hr:0<=r/\r<=900000000):AC (XP 18 m 0 0 [r]):=.mk' om (by simp) fun a ha=>by rw [Xy.1 ha];omega
theorem Nb {op num:Int}:AC (XP op 0 num 0 []):=.mk' om (by simp) fun a ha=>by cases ha
theorem FD {op dst num into:Int} {args:LI} (hd:0<=dst/\dst<=900000000) (h:args.length<=10000100/\∀a∈args,0<=a/\a<=900000000):AC (XP op dst num into args):=.mk' om om fun a ha=>by have:=h.2 a ha;omega
theorem Z2g {r:List Z8} {c:List Instr} (h:Rg c):Rg (En r c):=by
 cases r with
 | nil=>exact h
 | cons _ _=>exact h.snoc Nb
section
variable {E:Type} {X:AB E} {ds:List Zf} {G:E->Nat->Prop} (hX:N9 X G) (hd:XF ds)
include hX hd
mutual
theorem Z71:∀(s:Z6) {e:E} {q:Nat} {c:List Instr},wS ds s->G e q->q+4*s.sz<=900000000->E0 s->Rg c->Rg (Ud X ds e s c)
 | .mk op num into args kids,e,q,c,hw,hg,hq,hs,hc=>by
  have hl:=hX.len hg
  obtain ⟨h1,h2⟩:=(Ze3 _).1 hs
  have h1':args.length<=10000100/\∀a∈args,0<=a/\a<=900000000:=h1
  rw [Z6.sz] at hq
  rw [Ud]
  split
  ·exact Z6t kids hw.2.2.2 hg om h2 h1' hc
  split
  ·rename_i h8
   obtain ⟨a,ha,ha2⟩:=(hw.2.2.1 h8).1
   have hkl:=ND kids
   exact OA kids hw.2.2.2 hg om h2 (by rw [ha];exact ha2) (by rw [YZ];omega) (hc.snoc (FD om h1'))
  split
  ·exact hc.snoc (FD om h1')
  split
  ·have h3:=hX.res hg (gI args 0)
   refine hc.snoc (.mk' om (by rw [Yr];omega) fun a ha=>?_)
   rcases Xr.1 ha with ha|ha
   ·have:=h1'.2 a ha;omega
   ·have:=h3.1 a ha;omega
  ·exact hc.snoc (FD om h1')
theorem Z6t:∀(bs:List Z8) {e:E} {q:Nat} {c:List Instr} {args:LI},Ji ds bs->G e q->q+4*YX bs<=900000000->CX bs->args.length<=10000100/\(∀a∈args,0<=a/\a<=900000000)->Rg c->Rg (QA X ds e args bs c)
 | [],e,q,c,args,_,_,_,_,_,hc=>by rw [QA];exact hc
 | b::r,e,q,c,args,hw,hg,hq,hs,ha,hc=>by
  rw [YX] at hq
  have hl:=hX.len hg
  rw [QA]
  exact Z6p r hw.2 hg om hs.2 ((Gg b hw.1 hg om hs.1 (hc.snoc (FD om ha))).snoc (HZ om ((Hl b).1 hs.1).2))
theorem Z6p:∀(bs:List Z8) {e:E} {q:Nat} {c:List Instr} {a:Nat},Ji ds bs->G e q->q+4*YX bs<=900000000->CX bs->Rg c->Rg (QY X ds e a bs c)
 | [],e,q,c,a,_,_,_,_,hc=>by rw [QY];exact hc
 | b::r,e,q,c,a,hw,hg,hq,hs,hc=>by
  rw [YX] at hq
  have hl:=hX.len hg
  rw [QY]
  exact ((Gg b hw.1 hg om hs.1 ((hc.snoc Nb).aim a)).snoc (HZ om ((Hl b).1 hs.1).2)).aim _
theorem OA:∀(bs:List Z8) {e:E} {q:Nat} {k:Nat} {c:List Instr} {ts:LI} {es:List Nat} {num x:Int} {a:Nat},Ji ds bs->G e q->q+4*YX bs<=900000000->CX bs->0<=x/\x<=900000000->ts.length+bs.length<=300000000->Rg c->Rg (Uj X ds e num x a bs k c ts es)
 | [],e,q,k,c,ts,es,num,x,a,_,_,_,_,_,ht,hc=>by rw [Uj];exact (hc.fan _ ht).aims
 | b::r,e,q,k,c,ts,es,num,x,a,hw,hg,hq,hs,hx,ht,hc=>by
  rw [Yp] at ht
  rw [YX] at hq
  have hl:=hX.len hg
  have hp:=b.sz_eq
  rw [Uj]
  exact OA r hw.2 hg om hs.2 hx (by rw [Yr,Bh];omega) (Z2g ((Gg b hw.1 (hX.arm hg x num k) om hs.1 (hc.app (Z2h (Gd hd num k) om hx))).snoc (HZ om ((Hl b).1 hs.1).2)))
theorem OF:∀(xs:List Z6) {e:E} {q:Nat} {c:List Instr},QN ds xs->G e q->q+4*Yx xs<=900000000->Fc xs->Rg c->Rg (UI X ds e xs c)
 | [],e,q,c,_,_,_,_,hc=>by rw [UI];exact hc
 | s::r,e,q,c,hw,hg,hq,hs,hc=>by
  rw [Yx] at hq
  have hp:=s.sz_pos
  rw [UI]
  refine OF r (q:=q+1) hw.2 ?_ om hs.2 (Z71 s hw.1 hg om hs.1 hc)
  split
  ·exact hX.up hg om
  ·exact hX.nxt hg
theorem Gg:∀(b:Z8) {e:E} {q:Nat} {c:List Instr},wB ds b->G e q->q+4*b.sz<=900000004->DZ b->Rg c->Rg (flB X ds e b c)
 | .mk steps result,e,q,c,hw,hg,hq,hs,hc=>by
  rw [Z8.sz] at hq
  rw [flB]
  exact OF steps hw hg om hs.1 hc
end
end
theorem Zf6 {ds:List Zf} (hd:XF ds):N9 (XR ds) (fun e q=>e.1.length<=q/\∀v∈e.2,0<=v/\v<=q):=by
 refine ⟨fun h=>h.1,fun {e q} h x=>?_,fun {e q} h=>⟨by simp [XR];exact h.1,fun v hv=>?_⟩,fun h hq=>⟨by have:=h.1;omega,fun v hv=>by have:=h.2 v hv;omega⟩,fun {e q} h x num k=>⟨?_,fun v hv=>?_⟩⟩
 ·have h1:=Vp hd (gI e.1 x)
  have h2:0<=gI e.2 x/\gI e.2 x<=q:=if z:gI e.2 x=0 then om else h.2 _ (Gl z)
  exact ⟨fun v hv=>by have:=Lj hv;omega,Vm (Gq _ _) h1⟩
 ·rcases Xr.1 hv with hv|hv
  ·have:=h.2 v hv;omega
  ·rw [Xy.1 hv];omega
 ·have h1:=Vp hd (Cl ds num k)
  have h2:=h.1
  show (e.1.set _ _++XL _).length<=_
  rw [Yr,V6,DR];omega
 ·have h1:=Vp hd (Cl ds num k)
  have h2:=h.1
  rcases Xr.1 hv with hv|hv
  ·rcases List.mem_or_eq_of_mem_set hv with hv|rfl
   ·have:=h.2 v hv;omega
   ·omega
  ·have:=H3 _ v hv;omega
def GB (B:List Nat):Yl:=fun b _=>b∈B
section
variable {w:World} {G:Yl} {B:List Nat}
end
section
variable {w:World} {G:Yl} {B:List Nat}
def Pe:Value->Hd
 | .slice a l c=>⟨a,l,c⟩
 | _=>⟨none,0,0⟩
abbrev av (y:Z2c):AV:=.agg [.h (Pe y.dv),.h (Pe y.rv)]
end
def Z2f (B:List Nat) (m:Mem) (x:AV) (u:Value):Prop:=
 ∀w:World,(∀b∈B,∃cs e,w.heap[b]? = some (.cells cs e (0,0))/\∀o,cs[o]? = m b o)->RV w (GB B) x u
inductive Ej (bs:List Res):List AV->List AV->Prop
 | nil:Ej bs [] []
 | same {x as1 xs} (t:Ej bs as1 xs):Ej bs (x::as1) (x::xs)
 | gen {B m x a u as1 xs} (h:Res.own B m∈bs) (hr:Z2f B m x u) (ha:∀w G v,RV w G a v->v=u) (t:Ej bs as1 xs):Ej bs (a::as1) (x::xs)
section
variable {P:Program} {n:Nat} {ops:Array Oper} {B:Fr->List Res->Prop} {k:Nat} {F:Fr} {h:List Res}
end
section
variable {m m':Mem} {B:List Nat}
end
section
variable {w:World} {G:Yl} {B:List Nat}
end
def Zdy (r:Int):Instr:=XP 23 0 0 0 [r]
def Un (ds:List Zf) (rt:YC):List Instr:=flB (XR ds) ds (XL rt.params.length,XL rt.params.length) rt.body []++[Zdy rt.body.result]
section
variable {ds:List Zf} {b:Bool}
end
section
variable {n:ZF} (hn:XA n) (hz:JR n) (hbt:∀r∈n.routines,0<=W9 n r.params r.body)
include hn hz hbt
end
section
variable {N:Mem} {g o:Nat} {z:Int}
end
structure Zie (im:YM):Prop where
 decls:Z5a im.decls<=1000000000
 procs:im.procs.length<=4
 params:∀p∈im.procs,p.params.length<=1000000000
 lent:∀p∈im.procs,p.lent.length<=1000000000
 code:∀p∈im.procs,p.code.length<=2000
 args:∀p∈im.procs,∀x∈p.code,x.args.length<=10000200
 jumps:∀p∈im.procs,∀x∈p.code,x.jumps.length<=300000000
section
variable {n:ZF} (hz:JR n) (hB:Z3n n=true)
include hz hB
end
end Go.Abs
section
namespace Go.Abs
def Zr (c:List Instr) (i:Nat):Prop:=∃x,c[i]? = some x/\x.dst=0/\x.into=0
section
variable {c t:List Instr} {i j:Nat}
theorem Zr.lt (h:Zr c i):i<c.length:=by obtain ⟨x,hx,_⟩:=h;exact (X9.1 hx).1
theorem Zr.new {x:Instr} (h1:x.dst=0) (h2:x.into=0):Zr (c++[x]) c.length:=⟨x,by simp,h1,h2⟩
theorem Zr.app (h:Zr c i):Zr (c++t) i:=by
 obtain ⟨x,hx,h1⟩:=h
 exact ⟨x,by rw [JP ((X9.1 hx).1)];exact hx,h1⟩
theorem Zr.flB {E:Type} {X:AB E} {ds:List Zf} {e:E} {b:Z8} (h:Zr c i):Zr (flB X ds e b c) i:=by
 obtain ⟨t,ht⟩:=EC X ds b e c
 rw [ht];exact h.app
theorem Zr.set {x y:Instr} (h:Zr c i) (hx:c[j]? = some x) (h1:y.dst=x.dst) (h2:y.into=x.into):Zr (c.set j y) i:=by
 obtain ⟨z,hz,h3,h4⟩:=h
 by_cases e:j=i
 ·subst e
  rw [hx] at hz
  cases hz
  exact ⟨y,by rw [List.getElem?_set_self (X9.1 hx).1],h1.trans h3,h2.trans h4⟩
 ·exact ⟨z,by rw [List.getElem?_set_ne e];exact hz,h3,h4⟩
theorem Zr.aim (h:Zr c i):Zr (VL c j) i:=by
 rw [VL]
 split
 ·exact h
 ·rename_i x hx;exact h.set hx rfl rfl
theorem Zr.fan {js:LI} (h:Zr c i):Zr (Qi c j js) i:=by
 rw [Qi]
 split
 ·exact h
 ·rename_i x hx;exact h.set hx rfl rfl
end
theorem EF {c t:List Instr} {i:Nat} {x:Instr} (h:c[i]? = some x):(c++t)[i]? = some x:=by rw [JP (X9.1 h).1];exact h
theorem Pb {c:List Instr} {i:Nat} {x:Instr} {E:Type} {X:AB E} {ds:List Zf} {e:E} {b:Z8} (h:c[i]? = some x):(flB X ds e b c)[i]? = some x:=by
 rw [Z6k X ds (X9.1 h).1];exact h
theorem Z2t {c:List Instr} {i:Nat} {x:Instr} (h:c[i]? = some x):VL c i=c.set i (x.goto c.length):=by rw [VL,h]
theorem Z6d {c:List Instr} {i:Nat} {x:Instr} {js:LI} (h:c[i]? = some x):Qi c i js=c.set i (x.fan js):=by rw [Qi,h]
theorem Z2u {c:List Instr} {i:Nat} {x:Instr} (h:c[i]? = some x) (h1:x.dst=0) (h2:x.into=0):c.set i ⟨x.op,0,c.length,0,x.args,x.jumps⟩=VL c i:=by
 rw [Z2t h,Instr.goto,h1,h2]
theorem Z6e {c:List Instr} {i:Nat} {num:Int} {args js:LI} (h:c[i]? = some (XP 21 0 num 0 args)):c.set i ⟨21,0,num,0,args,js⟩=Qi c i js:=by
 rw [Z6d h];rfl
def QG (es:List Nat):LI:=es.map Int.ofNat
theorem H5 (es:List Nat):(QG es).length=es.length:=by simp [QG]
theorem Zcr {es:List Nat} {k e:Nat} (h:es[k]? = some e):(QG es)[k]? = some (e:Int):=by simp [QG,h]
theorem Zcs (es:List Nat) (e:Nat):QG es++[(e:Int)]=QG (es++[e]):=by simp [QG]
theorem R9 (m k:Nat) (x:Int):WO m (k+1) x=WO m k x++[XP 19 ((m+k:Nat):Int) (k:Int) 0 [x]]:=by simp [WO,List.range_succ]
theorem GV (m k:Nat) (x:Int):(WO m k x).length=k:=by simp [WO]
theorem Z2w {es:List Nat} {k e:Nat} {c d:List Instr} (h:es[k]? = some e) (ha:TY c (es.drop k)=d):TY (VL c e) (es.drop (k+1))=d:=by rw [Yh h,TY] at ha;exact ha
theorem Z2v {es:List Nat} {k:Nat} {c d:List Instr} (h:es.length<=k) (ha:TY c (es.drop k)=d):c=d:=by rw [Xt h,TY] at ha;exact ha
section
variable {E:Type} {X:AB E} {ds:List Zf} {e:E}
theorem ED (s:Z6) (c:List Instr):Ud X ds e s c=(if s.op=7 then QA X ds e s.args s.kids c
  else if s.op=8 then Uj X ds e s.num (gI s.args 0) c.length s.kids 0 (c++[XP 21 0 s.num 0 s.args]) [] []
  else if s.op=14∨s.op=15 then c++[XP s.op 0 0 0 s.args]
  else if s.op=16∨s.op=17 then c++[XP s.op 0 0 0 (s.args++X.res e (gI s.args 0))]
  else c++[XP s.op (X.len e) s.num s.into s.args]):=by cases s;rw [Ud];rfl
theorem Z6x {s:Z6} {c:List Instr} {k0 k1:Z8} (h:s.op=7) (hk:s.kids=[k0,k1]):Ud X ds e s c =
  VL (flB X ds e k1 (VL ((flB X ds e k0 (c++[XP 20 0 0 0 s.args])++[XP 18 (X.len e) 0 0 [k0.result]])++[XP 22 0 0 0 []]) c.length)++[XP 18 (X.len e) 0 0 [k1.result]]) (flB X ds e k0 (c++[XP 20 0 0 0 s.args])++[XP 18 (X.len e) 0 0 [k0.result]]).length:=by
 rw [ED,Zb h,hk,QA,QY]
theorem Z6y {s:Z6} {c:List Instr} (h:s.op=8):Ud X ds e s c=Uj X ds e s.num (gI s.args 0) c.length s.kids 0 (c++[XP 21 0 s.num 0 s.args]) [] []:=by
 rw [ED,Z5 om,Zb h]
theorem Z6u {s:Z6} {c:List Instr} (h:s.op=14∨s.op=15):Ud X ds e s c=c++[XP s.op 0 0 0 s.args]:=by
 rw [ED,Z5 om,Z5 om,Zb h]
theorem Z6z {s:Z6} {c:List Instr} (h:s.op=16∨s.op=17):Ud X ds e s c=c++[XP s.op 0 0 0 (s.args++X.res e (gI s.args 0))]:=by
 rw [ED,Z5 om,Z5 om,Z5 om,Zb h]
theorem Z6v {s:Z6} {c:List Instr} (h7:s.op≠7) (h8:s.op≠8) (h1:¬(s.op=14∨s.op=15)) (h2:¬(s.op=16∨s.op=17)):Ud X ds e s c=c++[XP s.op (X.len e) s.num s.into s.args]:=by
 rw [ED,Z5 h7,Z5 h8,Z5 h1,Z5 h2]
theorem Z6l (b:Z8) (c:List Instr):flB X ds e b c=UI X ds e b.steps c:=by cases b;rw [flB];rfl
theorem OG {xs:List Z6} {k:Nat} {s:Z6} {c d:List Instr} (h:xs[k]? = some s) (ha:UI X ds e (xs.drop k) c=d):UI X ds (if YQ s.op=true then e else X.nxt e) (xs.drop (k+1)) (Ud X ds e s c)=d:=by
 rw [Yh h,UI] at ha;exact ha
theorem Z72 {xs:List Z6} {k:Nat} {c d:List Instr} (h:xs.length<=k) (ha:UI X ds e (xs.drop k) c=d):c=d:=by
 rw [Xt h,UI] at ha;exact ha
theorem Z6h {bs:List Z8} {num x:Int} {a k j:Nat} {c d:List Instr} {ts:LI} {es:List Nat} (h:bs.length<=k) (ha:Uj X ds e num x a (bs.drop k) j c ts es=d):TY (Qi c a ts) es=d:=by
 rw [Xt h,Uj] at ha;exact ha
theorem Z6i {bs:List Z8} {b:Z8} {num x:Int} {a k:Nat} {c d:List Instr} {ts:LI} {es:List Nat} (hb:bs[k]? = some b) (hl:k+1<bs.length) (ha:Uj X ds e num x a (bs.drop k) k c ts es=d) :
  Uj X ds e num x a (bs.drop (k+1)) (k+1) ((flB X ds (X.arm e x num k) b (c++WO (X.len e) (WG ds num k).length x)++[XP 18 (X.len e) 0 0 [b.result]])++[XP 22 0 0 0 []]) (ts++[(c.length:Int)])
   (es++[(flB X ds (X.arm e x num k) b (c++WO (X.len e) (WG ds num k).length x)++[XP 18 (X.len e) 0 0 [b.result]]).length])=d:=by
 rw [Yh hb,Uj] at ha
 rw [Yr (bs:=[XP 18 (X.len e) 0 0 [b.result]])]
 obtain ⟨y,hy⟩:=Ql (xs:=bs) (j:=k+1) om
 have hd:=Yh hy
 rw [hd] at ha ⊢
 exact ha
theorem Z6j {bs:List Z8} {b:Z8} {num x:Int} {a k:Nat} {c d:List Instr} {ts:LI} {es:List Nat} (hb:bs[k]? = some b) (hl:bs.length=k+1) (ha:Uj X ds e num x a (bs.drop k) k c ts es=d) :
  Uj X ds e num x a (bs.drop (k+1)) (k+1) (flB X ds (X.arm e x num k) b (c++WO (X.len e) (WG ds num k).length x)++[XP 18 (X.len e) 0 0 [b.result]]) (ts++[(c.length:Int)]) es=d:=by
 rw [Yh hb,Uj] at ha
 rw [Xt om] at ha ⊢
 exact ha
end
end Go.Abs
namespace Go.Abs
theorem NE:∀{bs:List Z8} {k:Nat} {b:Z8},bs[k]? = some b->YX (bs.take (k+1))=YX (bs.take k)+b.sz/\YX (bs.take k)+b.sz<=YX bs
 | [],_,_,h=>by simp at h
 | x::r,0,b,h=>by simp at h;subst h;simp [YX]
 | x::r,k+1,b,h=>by
  obtain ⟨h1,h2⟩:=NE (bs:=r) (k:=k) (b:=b) (by simpa using h)
  simp only [Av,YX]
  omega
theorem Zdw {c:List Instr} {k:Nat} {x:Instr} {m q R:Int} (h:c[k]? = some x) (hq:q=Ka m x) (ha:Ut m (c.drop k)=R):Ut q (c.drop (k+1))=R:=by
 subst hq;rw [Yh h] at ha;exact ha
theorem Zdv {c:List Instr} {k:Nat} {m R:Int} (h:c.length<=k) (ha:Ut m (c.drop k)=R):m=R:=by rw [Xt h] at ha;exact ha
theorem Zc5 {l:LI} {j:Nat} {a m R:Int} (h:l[j]? = some a) (ha:(l.drop j).foldl (fun m a=>max m (a+1)) m=R):(l.drop (j+1)).foldl (fun m a=>max m (a+1)) (max m (a+1))=R:=by
 rw [Yh h] at ha;exact ha
theorem Zc4 {l:LI} {j:Nat} {m R:Int} (h:l.length<=j) (ha:(l.drop j).foldl (fun m a=>max m (a+1)) m=R):m=R:=by rw [Xt h] at ha;exact ha
theorem Z29 (k:Nat) (h:k<=1000000000):TK (XL k):=fun f hf=>by have:=H3 k f hf;omega
theorem Zdu (c:List Instr) (p:Nat):Ut (p:Int) c=max (Ut 0 c) (p:Int):=by rw [Zdt c om];omega
theorem WP {p:Prop} (h:p:=by first|omega|(simp only [Bq,Cx,Yr,Yp,YZ,GV,H5,DR,V6];omega)):p:=h
end Go.Abs
end
namespace Go.Abs
structure NTu (n:ZF):Prop where
 result:∀r∈n.routines,r.result<=(n.decls.length:Int)
 decl:∀d∈n.decls,d.cons.length=0->d.to_<=(n.decls.length:Int)
 fields:∀c,∀f∈ZO n.decls c,f<=(n.decls.length:Int)
section
variable {n:ZF} (hu:NTu n)
include hu
end

theorem Z5v {xs ys:LI} (h:xs.length=ys.length) (ha:∀i,i<xs.length->xs[i]? = ys[i]?):xs=ys:=List.ext_getElem? fun i=>by
 by_cases hi:i<xs.length
 ·exact ha i hi
 ·rw [Jk om,Jk om]

structure ZS (n:ZF) (q l:Nat):Prop where
 decls:AD n.decls
 len:1<=n.routines.length/\n.routines.length<=4
 rt:∀r∈n.routines,r.params.length<=3/\r.lent.length<=l/\r.body.sz<=q/\r.body.rng
 rb:∀r∈n.routines,r.body.rb
section
variable {n n2:ZF} (hd:n2.decls=n.decls) (hr:∀vars op num args,Kc n2 vars op num args=Kc n vars op num args)
include hd hr
end
section
variable {n:ZF}
end
noncomputable instance decBlock:DecidableEq Z8:=fun a b=>Classical.propDecidable (a=b)
noncomputable instance decStep:DecidableEq Z6:=fun a b=>Classical.propDecidable (a=b)
noncomputable instance decDecls:DecidableEq Zf:=fun a b=>Classical.propDecidable (a=b)
noncomputable instance decNormal:DecidableEq ZF:=fun a b=>Classical.propDecidable (a=b)

section
variable {ds:List Zf}
end
def Zaz (am:List Jm) (x:Int):Bool:=am.any fun o=>o.chg&&(o.mat==x)
def Rr (am:List Jm) (a:Jm) (b:Z8):Prop:=Zaz am a.mat=true∨(Vv b.steps a.mat<0∨WK b.steps a.fds.length<0)
instance (am:List Jm) (a:Jm) (b:Z8):Decidable (Rr am a b):=by unfold Rr;infer_instance

section
variable {ds:List Zf}
end
section
variable {n:ZF}
end
section
variable {ds:List Zf}
end
structure CR2 (c d:LI):Prop where
 l1:c.length=4
 l2:d.length=4
 a:gI c 0=gI d 0
 b:gI c 1=gI d 1
 s:gI c 2+gI c 3=gI d 2+gI d 3
section
variable {ds:List Zf}
end
section
variable {ds:List Zf}
end

structure Zib (n:ZF) (r:YC) (k:Nat) (L:ZM):Prop where
 ok:XN n.decls L (1+4*r.body.sz)
 pre:∃ws,L.vars=r.params++ws
 len:L.vars.length<=r.params.length+r.body.sz
 ty:∀s,r.body.steps[k]? = some s->0<=X2 n L.vars s
end Go.Abs
section
namespace Go.Abs
section
variable {n n2:ZF} (hd:n2.decls=n.decls) (hr:∀vars op num args,Kc n2 vars op num args=Kc n vars op num args) (hl:∀op num,DN n2 op num=DN n op num)
include hd hr hl
omit hd hr in
omit hd hr in
omit hr in
end
end Go.Abs
namespace Go.Abs
end Go.Abs
end
namespace Go.Abs
section
variable {ds:List Zf}
end
section
variable {n:ZF}
end
structure SC (f g:Int->Nat) (same:Prop):Prop where
 a:f 14<=g 14
 c:g 16<=f 16
 d:f 17=g 17
 e:f 16=g 16->same
section
variable {ds:List Zf}
end
def TT (r:Int):LI->Bool
 | []=>true
 | a::t=>if 0<=a/\a<=r-1 then TT r t else false
def Wm (k len:Int):LI->Bool
 | []=>true
 | j::t=>if k+1<=j/\j<=len-1 then Wm k len t else false
def VZ (op:Int):Bool:=decide ((0<=op/\op<=11/\op≠7/\op≠8)∨op=18∨op=19)
def TD (im:YM) (num:Int) (n more:Nat):Bool:=((Vd im.procs num).map fun p=>decide (p.params.length=n+more)).getD false
def Al (im:YM) (num:Int):Bool:=((Vd im.procs num).map fun p=>decide (p.lent.length=0)).getD false
def Wn (im:YM) (p:ZZ) (k:Nat) (x:Instr):Bool:=
 if x.op=0 then decide (x.args.length=0/\(-999<=x.num/\x.num<=999))
 else if x.op=1∨x.op=2∨x.op=3∨x.op=4∨x.op=11 then decide (x.args.length=2/\x.num=0)
 else if x.op=5∨x.op=14∨x.op=15∨x.op=18∨x.op=23 then decide (x.args.length=1/\x.num=0)
 else if x.op=6 then decide (0<Ws im.decls x.num/\x.args.length=(ZO im.decls x.num).length/\0<=x.into/\x.into<=p.regs)
 else if x.op=9∨x.op=24 then TD im x.num x.args.length 0
 else if x.op=10 then TD im x.num x.args.length 1&&Al im x.num
 else if x.op=16∨x.op=17 then decide ((1<=x.args.length/\x.args.length<=4)/\x.num=0)
 else if x.op=19 then decide (x.args.length=1/\0<=x.num/\x.num<=2)
 else if x.op=20 then decide (x.args.length=1/\(k:Int)+1<=x.num/\x.num<=(p.code.length:Int)-1)
 else if x.op=22 then decide (x.args.length=0/\(k:Int)+1<=x.num/\x.num<=(p.code.length:Int)-1)
 else if x.op=21 then decide (x.args.length=1/\0<(ZW im.decls x.num).length/\x.jumps.length=(ZW im.decls x.num).length)&&Wm k p.code.length x.jumps
 else false
def VP (im:YM) (p:ZZ) (k:Nat) (x:Instr):Bool:=
 TT p.regs x.args&&(decide ((0<=x.dst/\x.dst<=p.regs-1)/\(x.dst=0∨VZ x.op=true)/\(x.into=0∨x.op=6)/\(x.op=21∨x.jumps.length=0))&&Wn im p k x)
def QC (im:YM) (p:ZZ):List Instr->Nat->Bool
 | [],_=>true
 | x::r,k=>if VP im p k x=true then QC im p r (k+1) else false
def LN (c:List Instr):Bool:=((c.getLast?).map fun x=>decide (x.op=23∨x.op=24)).getD false
def Tn (im:YM) (p:ZZ):Bool:=
 Uu p.params p.lent&&(decide ((1<=p.regs/\(p.params.length:Int)<=p.regs/\p.regs<=2000)/\1<=p.code.length/\p.code.length<=2000)&&(QC im p p.code 0&&LN p.code))
def TE (im:YM):List ZZ->Bool
 | []=>true
 | p::r=>if Tn im p=true then TE im r else false
def UQ (p:ZZ):Sg:=⟨p.params,p.result⟩
def X4 (im:YM):Bool:=decide (im.procs.length<=4)&&(T7 im.decls (im.procs.map UQ)&&TE im im.procs)
theorem F8 {im:YM}:∀{l:List ZZ},TE im l=true↔∀p∈l,Tn im p=true
 | []=>by simp [TE]
 | p::r=>by
  rw [TE]
  split
  ·rename_i h;rw [F8 (l:=r)];simp [h]
  ·rename_i h;simp [h]
theorem PC {im:YM} {p:ZZ}:∀{l:List Instr} {k j:Nat} {x:Instr},QC im p l k=true->l[j]? = some x->VP im p (k+j) x=true
 | [],k,j,x,_,hx=>by simp at hx
 | y::r,k,j,x,h,hx=>by
  rw [QC] at h
  split at h
  ·rename_i h1
   cases j with
   | zero=>simp at hx;subst hx;exact h1
   | succ j=>have:=PC (k:=k+1) h (by simpa using hx);rwa [show k+(j+1)=k+1+j by omega]
  ·cases h
theorem PT {k len:Int}:∀{l:LI},Wm k len l=true↔∀j∈l,k+1<=j/\j<=len-1
 | []=>by simp [Wm]
 | j::t=>by
  rw [Wm]
  split
  ·rename_i h;rw [PT (l:=t)];simp [h]
  ·rename_i h;simp [h]
theorem Ss {r:Int}:∀{l:LI},TT r l=true↔∀a∈l,0<=a/\a<=r-1
 | []=>by simp [TT]
 | j::t=>by
  rw [TT]
  split
  ·rename_i h;rw [Ss (l:=t)];simp [h]
  ·rename_i h;simp [h]
theorem EN {im:YM} (h:X4 im=true) {f k:Nat} {p:ZZ} {x:Instr} (hp:im.procs[f]? = some p) (hx:p.code[k]? = some x):Tn im p=true/\VP im p k x=true:=by
 rw [X4,Xg,Xg] at h
 have h1:=F8.1 h.2.2 p (Y3 hp)
 refine ⟨h1,?_⟩
 rw [Tn,Xg,Xg,Xg] at h1
 have:=PC h1.2.2.1 hx
 rwa [Wr] at this
theorem PL {im:YM} {p:ZZ} {k:Nat} {x:Instr} (h:VP im p k x=true) (ho:x.op=20∨x.op=22):(k:Int)<x.num/\x.num<p.code.length:=by
 rw [VP,Xg,Xg] at h
 have h2:=h.2.2
 rcases ho with ho|ho
 ·simp only [Wn,ho] at h2
  have h2:=of_decide_eq_true (by simpa using h2:decide (x.args.length=1/\(k:Int)+1<=x.num/\x.num<=(p.code.length:Int)-1)=true)
  omega
 ·simp only [Wn,ho] at h2
  have h2:=of_decide_eq_true (by simpa using h2:decide (x.args.length=0/\(k:Int)+1<=x.num/\x.num<=(p.code.length:Int)-1)=true)
  omega
theorem Zas {im:YM} {p:ZZ} {k:Nat} {x:Instr} (h:VP im p k x=true) {j:Int} (hj:j∈x.jumps):(k:Int)<j/\j<p.code.length:=by
 rw [VP,Xg,Xg,decide_eq_true_eq] at h
 have h3:=h.2.1.2.2.2
 have ho:x.op=21:=by
  rcases h3 with h3|h3
  ·exact h3
  ·rw [List.eq_nil_of_length_eq_zero h3] at hj;cases hj
 have h2:=h.2.2
 have e:Wn im p k x=(decide (x.args.length=1/\0<(ZW im.decls x.num).length/\x.jumps.length=(ZW im.decls x.num).length)&&Wm k p.code.length x.jumps):=by simp [Wn,ho]
 rw [e,Xg] at h2
 have:=PT.1 h2.2 j hj
 omega
def Q6 (c:List Instr):Nat->Nat->Int->Bool
 | 0,_,_=>false
 | f+1,k,reg=>match c[k]? with
  | none=>false
  | some i=>if i.op=18/\gI i.args 0=reg then Q6 c f (k+1) i.dst else if i.op=22 then Q6 c f i.num.toNat reg else decide (i.op=23/\gI i.args 0=reg)
def fwd (c:List Instr):Prop:=∀(k:Nat) (i:Instr),c[k]? = some i->i.op=22->(k:Int)<i.num
theorem Hn {c:List Instr} (hf:fwd c):∀(f g k:Nat) (reg:Int),c.length<f+k->c.length<g+k->Q6 c f k reg=Q6 c g k reg
 | 0,0,k,reg,_,_=>rfl
 | 0,g+1,k,reg,h,_=>by rw [Q6,Q6,Jk om]
 | f+1,0,k,reg,_,h=>by rw [Q6,Q6,Jk om]
 | f+1,g+1,k,reg,h,h'=>by
  rw [Q6,Q6]
  cases hc:c[k]? with
  | none=>rfl
  | some i=>
   simp only
   split
   ·exact Hn hf f g (k+1) i.dst om om
   ·split
    ·rename_i h22
     have:=hf k i hc h22
     exact Hn hf f g i.num.toNat reg om om
    ·rfl
def To (c:List Instr) (k:Nat) (reg:Int):Bool:=Q6 c (c.length+1) k reg
theorem Zec {c:List Instr} (hf:fwd c) {k:Nat} {reg:Int} {i:Instr} (hi:c[k]? = some i) (h:i.op=18/\gI i.args 0=reg):To c (k+1) i.dst=To c k reg:=by
 have hl:=(X9.1 hi).1
 have e:To c k reg=Q6 c c.length (k+1) i.dst:=by
  rw [To,Q6,hi]
  simp only [Zb h]
 rw [e]
 exact Hn hf _ _ _ _ om om
theorem SS {c:List Instr} (hf:fwd c) {k:Nat} {reg:Int} {i:Instr} (hi:c[k]? = some i) (h:i.op=22):To c i.num.toNat reg=To c k reg:=by
 have hl:=(X9.1 hi).1
 have e:To c k reg=Q6 c c.length i.num.toNat reg:=by
  rw [To,Q6,hi]
  simp only
  rw [Z5 om,Zb h]
 rw [e]
 have:=hf k i hi h
 exact Hn hf _ _ _ _ om om
theorem BX {c:List Instr} {k:Nat} {reg:Int} {i:Instr} (hi:c[k]? = some i) (h1:¬(i.op=18/\gI i.args 0=reg)) (h2:¬i.op=22):decide (i.op=23/\gI i.args 0=reg)=To c k reg:=by
 rw [To,Q6,hi]
 simp only [Z5 h1,Z5 h2]
theorem Hm {c:List Instr} {k:Nat} {reg:Int} (h:c.length<=k):false=To c k reg:=by
 rw [To,Q6,Jk h]
def Ap (c:List Instr) (k:Nat) (x:Instr):Instr:=if x.op=9/\To c (k+1) x.dst=true then ⟨24,0,x.num,0,x.args,x.jumps⟩ else x
def Je (c:List Instr):List Instr->Nat->List Instr
 | [],_=>[]
 | x::r,k=>Ap c k x::Je c r (k+1)
def QJ (c:List Instr):List Instr:=Je c c 0
def Ee (p:ZZ):ZZ:=⟨p.params,p.lent,p.result,p.regs,QJ p.code⟩
def Fl (im:YM):YM:=⟨im.decls,im.procs.map Ee⟩
theorem MS (c:List Instr):∀(xs:List Instr) (k:Nat),(Je c xs k).length=xs.length
 | [],_=>rfl
 | x::r,k=>by rw [Je,Yp,Yp,MS c r]
theorem Z1m (c:List Instr):(QJ c).length=c.length:=MS c c 0
theorem HF {c:List Instr}:∀{xs:List Instr} {k j:Nat},(Je c xs k)[j]? = (xs[j]?).map (Ap c (k+j))
 | [],k,j=>by simp [Je]
 | x::r,k,0=>by simp [Je]
 | x::r,k,j+1=>by
  rw [Je,List.getElem?_cons_succ,List.getElem?_cons_succ,HF (xs:=r)]
  rw [show k+1+j=k+(j+1) by omega]
theorem Zhc {c:List Instr} {k:Nat}:(QJ c)[k]? = (c[k]?).map (Ap c k):=by rw [QJ,HF,Wr]
theorem Zhd (c:List Instr) (k:Nat) (x:Instr):Ap c k x=x∨(x.op=9/\Ap c k x=⟨24,0,x.num,0,x.args,x.jumps⟩):=by
 unfold Ap
 split
 ·rename_i h;exact .inr ⟨h.1,rfl⟩
 ·exact .inl rfl
theorem Z1n {c xs:List Instr} {k:Nat} {x:Instr} (h:xs[k]? = some x):Je c (xs.take k) 0++[Ap c k x]=Je c (xs.take (k+1)) 0:=by
 apply List.ext_getElem?
 intro j
 have hl:=(X9.1 h).1
 have hk:(Je c (xs.take k) 0).length=k:=by rw [MS,Wo];omega
 rw [HF,Wr,Vg h]
 by_cases hj:j<k
 ·rw [JP om,JP (by rw [Wo];omega),HF,Wr]
 ·by_cases e:j=k
  ·subst e
   rw [D7 om,hk,D7 (by rw [Wo];omega)]
   rw [Wo,U4 om]
   simp
  ·rw [Jk (by rw [Yr,hk];simp;omega),Jk (by rw [Yr,Wo];simp;omega)];rfl
end Go.Abs
