/-
  A part of the proofs of several laws (see the last file): no condition.
-/
import Derived.Test.YtlcniflebhfdpaaGreatYaA
import Derived.Test.YtlcniflebhfdpaaGreatRows
import Derived.Deep.Slices
import Derived.ChangeArms
set_option linter.all false
set_option linter.unusedVariables false
set_option linter.unusedSimpArgs false
set_option linter.unusedSectionVars false
set_option maxRecDepth 10000
set_option maxHeartbeats 4000000
section
namespace Go.Abs
theorem YL.rgrow {w:World} {G:Yl} {h2:List Res} {g len len' cap k:Nat} {ls ls':List AV} (hh:YL w G (.row (.slice (some ⟨g,0,none⟩) len cap) k ls::h2)) {cs cs':Array Value} {e:TypeId}
  (hb:w.heap[g]? = some (.cells cs e (0,0))) (Xo:cs'.size=cs.size) (hle:len'<=cap) (hcap:cs.size=cap*k) (hl:ls'.length=len'*k) (hls:YT w G ls' (cs'.toList.take (len'*k))) :
  YL (w.setRow g cs') G (.row (.slice (some ⟨g,0,none⟩) len' cap) k ls'::h2) /\
   Xb w G (.row (.slice (some ⟨g,0,none⟩) len cap) k ls::h2) (w.setRow g cs') G (.row (.slice (some ⟨g,0,none⟩) len' cap) k ls'::h2):=by
 have hmem:Res.row (.slice (some ⟨g,0,none⟩) len cap) k ls∈Res.row (.slice (some ⟨g,0,none⟩) len cap) k ls::h2:=Xf ..
 have hA:VZ G w (w.setRow g cs') G:=⟨fun c j hg=>by
  have hne:c≠g:=fun he=>hh.prot _ hmem c j he hg
  simp [World.cell?,VN w g c cs' hne],fun _ _ h=>h⟩
 have e1:Xb w G [.row (.slice (some ⟨g,0,none⟩) len cap) k ls] (w.setRow g cs') G [.row (.slice (some ⟨g,0,none⟩) len' cap) k ls']:=by
  refine ⟨rfl,rfl,rfl,by simp [World.setRow],fun _ _ h=>h,?_,fun _ _ _ h=>.inl h,?_⟩
  ·intro c hc
   by_cases hcb:c=g
   ·subst hcb
    exact .inr ⟨cs,cs',e,(0,0),hb,setRow_heap w c cs cs' e (0,0) hb,Xo,fun j hj=>absurd ⟨_,Xf ..,rfl⟩ hj⟩
   ·exact .inl (VN w g c cs' hcb)
  ·rintro c j _ ⟨r,hr,hf⟩
   rw [Xs.1 hr] at hf
   exact ⟨_,Xf ..,hf⟩
 have e2:YL (w.setRow g cs') G [.row (.slice (some ⟨g,0,none⟩) len' cap) k ls']:=by
  refine ⟨fun r hr=>?_,Em _ _,fun r hr c j hf hg=>?_,fun c j hg=>?_⟩
  ·rw [Xs.1 hr]
   exact .inr ⟨g,len',cap,cs',e,rfl,setRow_heap w g cs cs' e (0,0) hb,hle,Xo.trans hcap,hl,hls.mono hA⟩
  ·rw [Xs.1 hr] at hf
   exact hh.prot _ hmem c j hf hg
  ·have:=hh.lt c j hg
   simpa [World.setRow] using this
 exact YL.frame (h:=[.row (.slice (some ⟨g,0,none⟩) len cap) k ls]) (k:=h2) hh e1 e2
section
variable {P:Program} {n:Nat} {ops:Array Oper} {k:Nat} {F:Fr} {h2:List Res}
theorem Sh {K:Fr->List Res->Prop} {v:Hd} {sz m:Nat} {ls xs:List AV} {hx:Option Value} (hd:VR n (ZL ops k)=true) (ha:TS P ops F k=some (.val v.v,.sl xs hx,sz))
  (hxs:∀y∈xs,y.leaves.length=sz) (hone:(Zu xs).all AV.one=true) (hm0:ls.length=m*sz) (hk0:0<sz) (hne:xs≠[]) (hbound:m+xs.length<=1099511627776)
  (hK:∀v':Hd,K (F.put (ZL ops k).dst (.val v'.v)) (.row v'.v sz (ls++Zu xs)::h2)):WO P n (ZL ops k) F (.row v.v sz ls::h2) K:=by
 unfold TS at ha
 generalize hoo:ZL ops k=o at ha hd hK
 obtain ⟨dst,op,type,pos,after,guard⟩:=o
 cases op<;>simp only at ha<;>try (cases ha)
 rename_i c
 obtain ⟨callee,args,tys⟩:=c
 simp only at ha
 split at ha
 case h_2=>cases ha
 rename_i s x t t' hargs htys
 split at ha
 case h_2=>cases ha
 rename_i e htt ht
 have:=T1 htt
 subst this
 split at ha
 case h_2=>cases ha
 rename_i i hinfo
 split at ha
 case h_2=>cases ha
 rename_i z hz
 split at ha
 case h_2=>cases ha
 rename_i hb
 simp only [X1] at hb
 simp only [Wk,Prod.mk.injEq] at ha
 obtain ⟨h3,h4,hk1⟩:=ha
 have e1:args=#[s,x]:=by rw [<-UZ (xs:=args),hargs]
 have e2:tys=#[t,t]:=by rw [<-UZ (xs:=tys),htys]
 subst e1;subst e2
 have hzs:z.cells.size=sz:=by rw [T1 hb.1,hk1]
 have hby:=Vd hb.2
 have hfl:=TZ xs hxs
 intro Q w G a hF hh
 have v1:=hF.ev s
 have v2:=hF.ev x
 rw [h3] at v1
 rw [h4] at v2
 have v1:=v1.val_inv
 have v2:=v2.forget
 have finish:∀(v':Hd) w',(Builtin.append_ #[t,t] type #[v.v,a.eval x]).run P w=.ok v'.v w'->YL w' G (.row v'.v sz (ls++Zu xs)::h2)->Xb w G (.row v.v sz ls::h2) w' G (.row v'.v sz (ls++Zu xs)::h2) ->
   ({ dst:=dst,op:=.call { callee:=.builtin .append,args:=#[s,x],argTypes:=#[t,t] },type:=type,pos:=pos,after:=after,guard:=guard }:Oper).wp P a w
    (fun a' w'=>∃F' h' G',K F' h'/\FR w' G' n F' a'/\YL w' G' h'/\Xb w G (.row v.v sz ls::h2) w' G' h') Q:=by
  intro v' w' hr j1 j2
  have hrun:(execOp a.eval { dst:=dst,op:=.call { callee:=.builtin .append,args:=#[s,x],argTypes:=#[t,t] },type:=type,pos:=pos,after:=after,guard:=guard }).run P w=.ok (.value v'.v) w':=by
   simp only [execOp,resolve,invoke,builtin,Sem.run_bind,Sem.run_pure,Result.andThen_ok,G4,Tm,G3,v1,hr]
  unfold Oper.wp
  rw [hrun]
  exact ⟨_,_,G,hK v',(hF.mono (j2.agree hh)).put (TT hd) .val,j1,j2⟩
 have hrow0:=hh.ok (.row v.v sz ls) (Xf ..)
 have hsub2:∀r:Res,List.Sublist (r::h2) (r::.row v.v sz ls::h2):=fun r=>List.Sublist.cons_cons _ (Co _ _)
 have grown:∀(olds news:List Value) (old:Nat),YT w G ls olds->YT w G (Zu xs) news ->
   YL (w.drew.alloc (.cells (olds.toArray++news.toArray++Builtin.zeroCells z.cells (grownCap w (m+xs.length) old e-(m+xs.length))) e)) G
    (.row (.slice (some ⟨w.heap.size,0,none⟩) (m+xs.length) (grownCap w (m+xs.length) old e)) sz (ls++Zu xs)::h2) /\
   Xb w G (.row v.v sz ls::h2) (w.drew.alloc (.cells (olds.toArray++news.toArray++Builtin.zeroCells z.cells (grownCap w (m+xs.length) old e-(m+xs.length))) e)) G
    (.row (.slice (some ⟨w.heap.size,0,none⟩) (m+xs.length) (grownCap w (m+xs.length) old e)) sz (ls++Zu xs)::h2):=by
  intro olds news old ho hn
  have Xh:=grownCap_ge w (m+xs.length) old e
  have hol:=ho.length
  have hnl:=hn.length
  have hlen:(ls++Zu xs).length=(m+xs.length)*sz:=by rw [ZH,hm0,hfl,TN]
  obtain ⟨j1,j2⟩:=hh.drew.alloc_rrow (olds.toArray++news.toArray++Builtin.zeroCells z.cells (grownCap w (m+xs.length) old e-(m+xs.length))) e
   (ls:=ls++Zu xs) (len:=m+xs.length) (cap:=grownCap w (m+xs.length) old e) (k:=sz) Xh
   (by
    have q2:(grownCap w (m+xs.length) old e-(m+xs.length))*sz=grownCap w (m+xs.length) old e*sz-(m+xs.length)*sz:=Nat.sub_mul ..
    have q3:(m+xs.length)*sz<=grownCap w (m+xs.length) old e*sz:=Jr _ Xh
    have q4:(m+xs.length)*sz=m*sz+xs.length*sz:=TN ..
    simp only [Array.size_append,G5,size_zeroCells,hzs,hol,hnl,hm0,hfl]
    omega) hlen
   (by
    have:(olds.toArray++news.toArray++Builtin.zeroCells z.cells (grownCap w (m+xs.length) old e-(m+xs.length))).toList.take ((m+xs.length)*sz)=olds++news:=by
     simp only [Ie]
     rw [<-hlen,ZH,<-hol,<-hnl,<-ZH]
     exact Bx
    rw [this]
    exact (ho.append hn).mono (BG w G))
  exact ⟨j1.sub (hsub2 _),(Xb.drew w G _).trans (j2.sub' (hsub2 _))⟩
 generalize hax:a.eval x=ax at v2 finish
 cases v2 with
 | nil _=>exact absurd rfl hne
 | sl hq hcc hm=>
  rename_i b o' k' c
  have hpos:0<xs.length:=El.2 hne
  have hfm:=hm.flat_mem
  obtain ⟨news,hn,hnc⟩:=hfm.cells
  have hnl:news.length=xs.length*i.size:=by rw [hn.length,hfl,hk1]
  have hone':=hn.one_cells hone
  have hnews:∀j u,news[j]? = some u->w.cell? ((⟨b,o',none⟩:Addr).add j)=some u:=fun j u hj=>by rw [Jt];exact (hnc j u hj).1
  have hbb:(m+xs.length)*i.bytes<=140737488355328:=by
   have:=Nat.mul_le_mul hbound hby
   omega
  rcases hrow0 with ⟨hv0,hl0⟩|⟨g,len,cap,cur,el,hv0,hrow,hlc,hcur,hll,hcells⟩
  ·subst hl0
   have hm1:m=0:=by
    have:m*sz=0:=by simpa using hm0.symm
    rcases Nat.mul_eq_zero.1 this with h|h
    ·exact h
    ·omega
   subst hm1
   rw [hv0] at finish hh ⊢
   have hr:=run_append_nil (P:=P) w t type e i z ht hinfo hz ⟨b,o',none⟩ xs.length c news hnl hnews hpos om (by simp only [Wj] at hbb;omega)
   obtain ⟨j1,j2⟩:=grown [] news 0 .nil hn
   simp only [Wj,Array.empty_append,Jq] at j1 j2
   rw [hv0] at j2
   exact finish ⟨some ⟨w.heap.size,0,none⟩,xs.length,grownCap w xs.length 0 e⟩ _ hr (by simpa using j1) (by simpa using j2)
  ·have hlm:len=m:=Ig hk0 (hll.symm.trans hm0)
   subst hlm
   rw [hv0] at finish hh ⊢
   have q5:len*sz<=cap*sz:=Jr _ hlc
   have h1:(cur.toList.take (len*sz)).length=len*sz:=by rw [Vc,JZ,hcur,Qk q5]
   have hcl:cur.toList.length=cap*sz:=by rw [JZ,hcur]
   by_cases hroom:len+xs.length<=cap
   ·have q1:(len+xs.length)*sz<=cap*sz:=Jr _ hroom
    have q2:(len+xs.length)*sz=len*sz+xs.length*sz:=TN ..
    have hfit:len*i.size+news.length<=cur.size:=by rw [hnl,hcur,hk1];omega
    have hr:=ME (P:=P) w t type e el i ht hinfo g len cap cur hrow ⟨b,o',none⟩ xs.length c news hnl hnews hone' hroom hfit
    rw [hk1] at hr
    have hnl':news.length=xs.length*sz:=by rw [hnl,hk1]
    obtain ⟨j1,j2⟩:=hh.rgrow (ls':=ls++Zu xs) (len':=len+xs.length) (cs':=(cur.toList.take (len*sz)++news++cur.toList.drop (len*sz+news.length)).toArray) hrow
     (by simp only [G5,ZH,h1,hnl',Cm,hcl,hcur];omega) hroom hcur (by rw [ZH,hll,hfl,q2]) (by
      have:(cur.toList.take (len*sz)++news++cur.toList.drop (len*sz+news.length)).toArray.toList.take ((len+xs.length)*sz)=cur.toList.take (len*sz)++news:=by
       rw [G6,q2,<-hnl']
       conv=>lhs;arg 1;rw [show len*sz+news.length=(cur.toList.take (len*sz)++news).length from by rw [ZH,h1]]
       exact Bx
      rw [this]
      exact hcells.append hn)
    exact finish ⟨some ⟨g,0,none⟩,len+xs.length,cap⟩ _ hr j1 j2
   ·have hr:=run_append_grow (P:=P) w t type e i z ht hinfo hz ⟨g,0,none⟩ len cap (cur.toList.take (len*sz)) (by rw [hk1];exact h1) (fun j u hj=>by
     rw [Jt,cell_of_row w g _ cur el (0,0) hrow]
     rw [KR] at hj
     split at hj
     ·simpa using hj
     ·cases hj) ⟨b,o',none⟩ xs.length c news hnl hnews om om (growslice_fits om hbb)
    obtain ⟨j1,j2⟩:=grown (cur.toList.take (len*sz)) news cap hcells hn
    rw [hv0] at j2
    exact finish ⟨some ⟨w.heap.size,0,none⟩,len+xs.length,grownCap w (len+xs.length) cap e⟩ _ hr j1 j2
end
section
variable {P:Program} {n:Nat} {ops:Array Oper} {B:Fr->List Res->Prop} {k:Nat} {F:Fr} {h:List Res}
theorem iKA (j m:Nat) (v:Hd) (sz:Nat) (ls xs:List AV) (hx:Option Value) (hm0:ls.length=m*sz) (hxs:∀y∈xs,y.leaves.length=sz) (hone:(Zu xs).all AV.one=true) (hne:xs≠[]) (hbound:m+xs.length<=1099511627776)
  (hK:∀v':Hd,SI P n ops B (k+1) (F.put (ZL ops k).dst (.h v')) (rK v' sz (ls++Zu xs)::Wi [j] h)) (hk0:0<sz:=by omega)
  (hk:Xk n ops F k=true:=by kernel_rfl) (ha:TS P ops F k=some (.h v,.sl xs hx,sz):=by kernel_rfl) (hp:V4 [j] h=some [rK v sz ls]:=by kernel_rfl):SI P n ops B k F h:=
 QG hk (WO.perm (Th (Uc hp)) (Sh (UI hk).2.1 ha hxs hone hm0 hk0 hne hbound hK))
end
end Go.Abs
namespace Go.Abs
section
variable {P:Program} {n:Nat} {ops:Array Oper} {B:Fr->List Res->Prop} {T:List (Nat × List Nat)} {fuel:Nat} {done:List Nat} {F:Fr} {h:List Res}
theorem O2 (i j m:Nat) (js bs:List Nat) (v:Hd) (sz:Nat) (ls xs:List AV) (hx:Option Value) (hm0:ls.length=m*sz) (hxs:∀y∈xs,y.leaves.length=sz) (hone:(Zu xs).all AV.one=true) (hne:xs≠[]) (hbound:m+xs.length<=1099511627776)
  (hK:∀v':Hd,Xa P n ops B (T.filter fun t=>!Vs ops i t.1) fuel (done++[i]) (F.put (ZL ops i).dst (.h v')) (rK v' sz (ls++Zu xs)::Wi [j] h)) (hk0:0<sz:=by omega) (hk:Xk n ops F i=true:=by kernel_rfl)
  (ha:TS P ops F i=some (.h v,.sl xs hx,sz):=by kernel_rfl) (hp:V4 [j] h=some [rK v sz ls]:=by kernel_rfl) (ho:UH ops i T=bs:=by kernel_rfl)
  (hj:js.map (fun q=>(V5 (Wi [j] h))[q]?)=bs.map some:=by kernel_rfl):U0 P n ops B T fuel done F h i:=
 Aj [j] js bs hk (Uc hp) ho hj (Sh (h2:=[]) (UI hk).2.1 ha hxs hone hm0 hk0 hne hbound hK)
end
theorem V1.form {P:Program} {f:FuncId} {as1:List AV} {h0:List Res} {T:Hd->AV} {kk m:Nat} {ls:List AV} {hs:List Res} (H:V1 P f as1 h0 (fun r h=>∃v:Hd,r=T v/\h=rK v kk ls::hs)) (hm:ls.length=m*kk) (hk:0<kk) (h1:0<m) :
  V1 P f as1 h0 (fun r h=>∃(g c:Nat),r=T ⟨some ⟨g,0,none⟩,m,c⟩/\h=rK ⟨some ⟨g,0,none⟩,m,c⟩ kk ls::hs):=by
 intro w G vs hv hh
 refine (H w G vs hv hh).mono ?_
 rintro e w' ⟨u,r,h',G',he,⟨v,rfl,rfl⟩,hr,hh',hx⟩
 obtain ⟨g,c,rfl⟩:=Mz (hh'.ok _ (Xf ..)) hm hk h1
 exact ⟨u,_,_,G',he,⟨g,c,rfl,rfl⟩,hr,hh',hx⟩
end Go.Abs
namespace Go.Abs
section
variable {h:List Res}
theorem Zih (j i p:Nat) {u:Value} {kk b:Nat} {es ls:List AV} (hp:V4 [j,i] h=some [.row u kk (Zu es),.obj b ls]) (hes:∀y∈es,y.leaves.length=kk) (hk:0<kk) (hl:ls[p]? = some (.val u)) :
  A6 h (.obj b (ls.set p (.sl es (some u)))::.tail u kk::Wi [j,i] h):=by
 intro w G hh
 have hp':=Th (Uc hp)
 have hh':=hh.perm hp'
 obtain ⟨G',h1,h2',h3⟩:=FE (h2:=.obj b ls::Wi [j,i] h) hh' hes hk
 have e:=h2'.perm hp'.symm (Jm _)
 have h1:YL w G' (.tail u kk::.obj b ls::Wi [j,i] h):=h1
 have perm:(Res.tail u kk::.obj b ls::Wi [j,i] h).Perm (.obj b ls::.tail u kk::Wi [j,i] h):=List.Perm.swap ..
 have h4:=h1.perm perm
 have e4:=e.perm (Jm _) perm
 have hset:∀{w:World} {G:Yl},RV w G (.sl es (some u)) u->QU w G (.obj b ls)->QU w G (.obj b (ls.set p (.sl es (some u)))):=by
  intro w G hu hr
  obtain ⟨cs,el,k1,k5⟩:=hr
  refine ⟨cs,el,k1,?_⟩
  obtain ⟨c,c1,c2⟩:=k5.get p _ hl
  have:=c2.val_inv
  subst this
  have h6:=k5.set p hu
  rwa [show cs.toList.set p c=cs.toList from by
   apply List.ext_getElem?
   intro q
   rw [List.getElem?_set]
   split
   ·rename_i hq;subst hq;split
    ·exact c1.symm
    ·rename_i hq2;rw [Jn om]
   ·rfl] at h6
 refine ⟨G',⟨fun r hr=>?_,?_,fun r hr=>?_,h4.lt⟩,⟨e4.os,e4.tape,e4.output,e4.size,e4.sub,e4.same,e4.newG,fun b' o hb ⟨r,hr,hf⟩=>e4.newfp b' o hb ?_⟩⟩
 ·rcases X0.1 hr with rfl|hr
  ·exact hset h3 (h4.ok _ (Xf ..))
  ·exact h4.ok r (Xr _ hr)
 ·have:=Uh.1 h4.apart
  exact Uh.2 ⟨fun r hr b' o f1 f2=>this.1 r hr b' o f1 f2,this.2⟩
 ·rcases X0.1 hr with rfl|hr
  ·exact fun b' o f1 hg=>h4.prot (.obj b ls) (Xf ..) b' o f1 hg
  ·exact h4.prot r (Xr _ hr)
 ·rcases X0.1 hr with rfl|hr
  ·exact ⟨.obj b ls,Xf ..,hf⟩
  ·exact ⟨r,Xr _ hr,hf⟩
theorem Z2b (j i p:Nat) (u:Value) (kk b:Nat) (es ls:List AV) (hes:∀y∈es,y.leaves.length=kk) (hl:ls[p]? = some (.val u)) (hk:0<kk:=by omega) (hp:V4 [j,i] h=some [.row u kk (Zu es),.obj b ls]:=by kernel_rfl) :
  A6 h (.obj b (ls.set p (.sl es (some u)))::.tail u kk::Wi [j,i] h):=Zih j i p hp hes hk hl
end
end Go.Abs
namespace Go.Abs
section
variable {P:Program} {n:Nat} {ops:Array Oper} {k:Nat} {F:Fr} {h:List Res}
theorem Zi0 (j:Nat) {g l c m kk:Nat} {ls:List AV} (hi:Eb P ops F k=some (.val (.slice (some ⟨g,0,none⟩) l c),(m:Int))) (hj:h[j]? = some (.row (.slice (some ⟨g,0,none⟩) l c) kk ls)) (hle:m<=l) :
  XS P (ZL ops k) F h [] (.val (.slice (some ⟨g,0,none⟩) m c)):=by
 unfold Eb at hi
 generalize hoo:ZL ops k=o at hi
 obtain ⟨dst,op,type,pos,after,guard⟩:=o
 cases op<;>simp only at hi<;>try (cases hi)
 rename_i t x lo hi' mx
 cases lo with
 | some _=>simp at hi
 | none=>
  cases hi' with
  | none=>simp at hi
  | some y=>
   cases mx with
   | some _=>simp at hi
   | none=>
    simp only at hi
    split at hi
    ·rename_i e ht
     split at hi
     ·rename_i inf hinf
      split at hi
      ·rename_i ik m' hm
       simp only [Wk,Prod.mk.injEq] at hi
       obtain ⟨hx,rfl⟩:=hi
       intro n w G a hF hh
       have v1:=hF.ev x
       rw [hx] at v1
       have v1:=v1.val_inv
       have v2:=hF.ev y
       rw [hm] at v2
       have v2:=v2.val_inv
       have hcap:l<=c:=by
        rcases hh.ok _ (Y4 hj) with ⟨h0,_⟩|⟨g',l',c',cur,el,h0,_,hc,_⟩
        ·cases h0
        ·cases h0;exact hc
       refine ⟨_,.val,fun w' _ _=>?_⟩
       simp only [execOp,v1,v2,G8,Option.map_none]
       refine Vp ?_
       simp only [Instr.sliceAt,Sem.run_bind,U6 ht,Result.andThen_ok,Instr.slice]
       have hmm:(Instr.sliceBounds true l c none (some (.int ik (m:Int))) none).run P w'=.ok (0,m,c) w':=by
        have Zy:=fun q=>FG (P:=P) (c:=q) (v:=.int ik (m:Int)) (y:=c) rfl om om w'
        simp [Instr.sliceBounds,Zy]
       rw [hmm]
       have hz:∀a:Addr,a.add 0=a:=fun a=>by simp [Addr.add]
       simp only [Result.andThen_ok,Qx hinf,Nat.zero_mul,hz]
       by_cases h0:c=0<;>simp [h0]
      ·cases hi
     ·cases hi
    ·cases hi
theorem Zbl (j g l c m kk:Nat) (ls:List AV) (hle:m<=l:=by omega) (hi:Eb P ops F k=some (.val (.slice (some ⟨g,0,none⟩) l c),(m:Int)):=by kernel_rfl) (hj:h[j]? = some (.row (.slice (some ⟨g,0,none⟩) l c) kk ls):=by kernel_rfl) :
  XS P (ZL ops k) F h [] (.val (.slice (some ⟨g,0,none⟩) m c)):=Zi0 j hi hj hle
variable {B:Fr->List Res->Prop}
end
end Go.Abs
end
namespace Go.Abs
theorem Yj {α:Type} {xs:List α} {k:Nat} {x:α} (h:xs[k]? = some x):xs.drop k=x::xs.drop (k+1):=by
 have hk:=(Xu.1 h).1
 rw [Na hk]
 congr 1
 rw [Dh hk] at h
 exact Dj h
theorem Xj {α:Type} {xs:List α} {k:Nat} (h:xs.length<=k):xs.drop k=[]:=Nb h
theorem VO {α:Type} {xs:List α} {k:Nat} {x:α} (h:xs[k]? = some x):xs.take (k+1)=xs.take k++[x]:=by
 rw [List.take_add_one,h];rfl
def YE:List Zc->Nat
 | []=>0
 | d::ds=>d.cons.length+YE ds
theorem Dr (xs ys:List Zc):YE (xs++ys)=YE xs+YE ys:=by
 induction xs with
 | nil=>simp [YE]
 | cons d ds ih=>simp [YE,ih];omega
structure Xl (ds:List Zc):Prop where
 len:ds.length<=4
 cons:∀d∈ds,d.cons.length<=3
 fields:∀d∈ds,∀c∈d.cons,c.fields.length<=3
theorem Z58 {ds:List Zc} {m:Nat} (h:∀d∈ds,d.cons.length<=m):YE ds<=ds.length*m:=by
 induction ds with
 | nil=>simp [YE]
 | cons d ds ih=>
  have h1:=h d (by simp)
  have h2:=ih (fun x hx=>h x (by simp [hx]))
  simp only [YE,Ys,TN];omega
theorem Xl.sum {ds:List Zc} (h:Xl ds):YE ds<=12:=by
 have:=Z58 h.cons
 have:=h.len
 have:ds.length*3<=4*3:=Jr 3 h.len
 omega
theorem Xl.take {ds:List Zc} (h:Xl ds) (k:Nat):Xl (ds.take k):=
 ⟨by have:=h.len;simp;omega,fun d hd=>h.cons d (QA hd),fun d hd=>h.fields d (QA hd)⟩
theorem Xl.cons_at {ds:List Zc} (h:Xl ds) {k:Nat} {d:Zc} (hd:ds[k]? = some d):d.cons.length<=3:=h.cons d (Y4 hd)
theorem Xl.fields_at {ds:List Zc} (h:Xl ds) {k j:Nat} {d:Zc} {c:YK} (hd:ds[k]? = some d) (hc:d.cons[j]? = some c):c.fields.length<=3:=
 h.fields d (Y4 hd) c (Y4 hc)
def Up (c:Int):List Zc->Nat->Nat->Int × LI
 | [],_,_=>(-1,[])
 | d::ds,i,first=>
  if (first:Int)<=c/\c<=((first+d.cons.length:Nat):Int)-1 then ((i:Int)+1,(d.cons[(c-first).toNat]?.map (·.fields)).getD []) else Up c ds (i+1) (first+d.cons.length)
def Wd (ds:List Zc) (c:Int):Int:=(Up c ds 0 0).1
def ZO (ds:List Zc) (c:Int):LI:=(Up c ds 0 0).2
theorem Gt {c:Int}:∀{ds:List Zc} {i first:Nat},(Up c ds i first=(-1,[]) ∨
  ∃k d x,ds[k]? = some d/\(first+YE (ds.take k):Int)<=c/\c<first+YE (ds.take k)+d.cons.length/\d.cons[(c-(first+YE (ds.take k))).toNat]? = some x/\Up c ds i first=((i:Int)+k+1,x.fields))
 | [],_,_=>.inl rfl
 | d::ds,i,first=>by
  rw [Up]
  split
  ·rename_i h
   have hlt:(c-first).toNat<d.cons.length:=by omega
   refine .inr ⟨0,d,d.cons[(c-first).toNat],rfl,by simp [YE];omega,by simp [YE];omega,?_,?_⟩
   ·simp [YE]
   ·rw [Dh hlt];simp
  ·rcases Gt (c:=c) (ds:=ds) (i:=i+1) (first:=first+d.cons.length) with h|⟨k,e,x,h1,h2,h3,h4,h5⟩
   ·exact .inl h
   ·refine .inr ⟨k+1,e,x,by simpa using h1,by simp [YE];omega,by simp [YE];omega,?_,?_⟩
    ·rw [<-h4];congr 3;simp [YE];omega
    ·rw [h5];congr 1;omega
theorem IQ {ds:List Zc} {c:Int} (h:¬Wd ds c<1) :
  ∃k d x,ds[k]? = some d/\(YE (ds.take k):Int)<=c/\d.cons[(c-YE (ds.take k)).toNat]? = some x/\Wd ds c=(k:Int)+1/\ZO ds c=x.fields:=by
 rcases Gt (c:=c) (ds:=ds) (i:=0) (first:=0) with h1|⟨k,d,x,h1,h2,_,h4,h5⟩
 ·simp [Wd,h1] at h
 ·exact ⟨k,d,x,h1,by simpa using h2,by simpa using h4,by simp [Wd,h5],by simp [ZO,h5]⟩
theorem NW {ds:List Zc} {c:Int} (h:Wd ds c<1):ZO ds c=[]/\Wd ds c=-1:=by
 rcases Gt (c:=c) (ds:=ds) (i:=0) (first:=0) with h1|⟨k,d,x,h1,h2,_,h4,h5⟩
 ·simp [ZO,Wd,h1]
 ·simp [Wd,h5] at h;omega
def VW (first:Int):Nat->LI
 | 0=>[]
 | n+1=>first::VW (first+1) n
theorem S8 (first:Int) (n:Nat):VW first (n+1)=VW first n++[first+n]:=by
 induction n generalizing first with
 | zero=>simp [VW]
 | succ n ih=>rw [VW,ih (first+1),VW];simp;omega
@[simp] theorem Zcy (first:Int) (n:Nat):(VW first n).length=n:=by
 induction n generalizing first with
 | zero=>rfl
 | succ n ih=>simp [VW,ih]
def ZU (ds:List Zc) (t:Int):LI:=
 if 1<=t/\t<=ds.length then VW (YE (ds.take (t-1).toNat)) (((ds[(t-1).toNat]?).map (·.cons.length)).getD 0) else []
def Dn (frm to_:Int):List Zc->Nat->Int
 | [],_=>-1
 | d::ds,i=>if d.cons.length=0/\d.frm=frm/\d.to_=to_ then (i:Int)+1 else Dn frm to_ ds (i+1)
def A9 (ds:List Zc) (frm to_:Int):Int:=Dn frm to_ ds 0
def VU (ds:List Zc) (t:Int):Bool:=decide (1<=t/\t<=ds.length)&&((ds[(t-1).toNat]?).map fun d=>decide (d.cons.length=0)).getD false
theorem Rl {ds:List Zc} {t:Int} {x:Zc} (h:1<=t/\t<=ds.length) (hx:ds[(t-1).toNat]? = some x):((x.cons.length:Int)==0)=VU ds t:=by
 rw [VU,hx,Ye];simp [h]
theorem Rk {ds:List Zc} {t:Int} (h:¬(1<=t/\t<=ds.length)):false=VU ds t:=by
 rw [VU,Ye];simp only [Bool.false_eq_true,X1,decide_eq_true_eq,h,false_and]
def Wc (m:Nat) (xs:LI):Bool:=xs.all fun t=>decide (0<=t/\t<=m)
end Go.Abs
section
namespace Go.Abs
section
variable {h:List Res}
end
end Go.Abs
namespace Go.Abs
section
variable {P:Program} {ops:Array Oper} {k:Nat} {F:Fr} {h:List Res}
def Mh (ops:Array Oper) (F:Fr) (k:Nat):Option (Int × Int):=
 match (ZL ops k).op with
 | .call c=>match c.callee,c.args.toList with
  | .builtin .max,[x,y]=>match F.ev x,F.ev y with
   | .val (.int .i64 a),.val (.int .i64 b)=>some (a,b)
   | _,_=>none
  | _,_=>none
 | _=>none
theorem Zhx {a b:Int} (hl:Mh ops F k=some (a,b)):XS P (ZL ops k) F h [] (.i (max a b)):=by
 unfold Mh at hl
 generalize hoo:ZL ops k=o at hl
 obtain ⟨dst,op,type,pos,after,guard⟩:=o
 cases op<;>simp only at hl<;>try (cases hl)
 rename_i c
 obtain ⟨callee,args,tys⟩:=c
 simp only at hl
 split at hl
 case h_2=>cases hl
 rename_i x y hargs
 split at hl
 case h_2=>cases hl
 rename_i u v hx hy
 cases hl
 have e1:args=#[x,y]:=by rw [<-UZ (xs:=args),hargs]
 subst e1
 intro n w G a' hF hh
 have vx:=hF.ev x
 have vy:=hF.ev y
 rw [hx] at vx
 rw [hy] at vy
 have vx:=vx.val_inv
 have vy:=vy.val_inv
 refine ⟨_,.val,fun w' _ _=>?_⟩
 simp only [execOp,resolve,invoke,builtin,Sem.run_bind,Sem.run_pure,Result.andThen_ok,G4,Tm,G3,vx,vy]
 have e:(if b>a then b else a)=max a b:=by
  rw [Int.max_def]
  split<;>split<;>omega
 simp [Builtin.max_,Builtin.max2,Sem.run_pure,List.foldlM,e]
theorem Hb (a b:Int) (ha:Mh ops F k=some (a,b):=by kernel_rfl):XS P (ZL ops k) F h [] (.i (max a b)):=Zhx ha
end
end Go.Abs
end
namespace Go.Abs
section
variable {P:Program} {n:Nat} {ops:Array Oper} {B:Fr->List Res->Prop} {k:Nat} {F:Fr} {h:List Res} {T:List (Nat × List Nat)} {fuel:Nat} {done:List Nat}
theorem Si {K:Fr->List Res->Prop} {ls:List AV} {len sz:Nat} (hd:VR n (ZL ops k)=true) (ha:Tx P ops F k=some (ls,len,sz)) (hlen:ls.length=len*sz)
  (hK:∀g,K (F.put (ZL ops k).dst (.val (.slice (some ⟨g,0,none⟩) len len))) (.row (.slice (some ⟨g,0,none⟩) len len) sz ls::h)):WO P n (ZL ops k) F h K:=by
 unfold Tx at ha
 generalize hoo:ZL ops k=q at ha hd hK
 obtain ⟨dst,op,type,pos,after,guard⟩:=q
 cases op<;>simp only at ha<;>try (cases ha)
 rename_i t ln parts
 split at ha
 case h_2=>cases ha
 rename_i e ht
 split at ha
 case h_2=>cases ha
 rename_i i hi
 split at ha
 case h_2=>cases ha
 rename_i hc
 simp only [X1] at hc
 split at ha
 case h_2=>cases ha
 rename_i ls' hf
 simp only [Wk,Prod.mk.injEq] at ha
 obtain ⟨rfl,rfl,Xo⟩:=ha
 intro Q w G a hF hh
 obtain ⟨cs,h1,h2⟩:=HM hF parts ht hi rfl hc.1 hc.2 hf
 have hr:(execOp a.eval { dst:=dst,op:=.buildSlice t ln parts,type:=type,pos:=pos,after:=after,guard:=guard }).run P w =
   .ok (.value (.slice (some ⟨w.heap.size,0,none⟩) ln ln)) (w.alloc (.cells cs e)):=by
  simp only [execOp]
  exact Vp h2
 unfold Oper.wp
 rw [hr]
 have hlc:=h1.length
 simp only [JZ] at hlc
 obtain ⟨j1,j2⟩:=hh.alloc_rrow cs e (ls:=ls') (len:=ln) (cap:=ln) (k:=sz) (X2 _) (by rw [hlc];exact hlen) hlen (by rw [<-hlen,<-hlc];simpa [U8] using h1)
 exact ⟨_,_,G,hK _,(hF.mono (j2.agree hh)).put (TT hd) .val,j1,j2⟩
theorem UG (es es':List AV) (he:es=es') (len sz:Nat) (hK:∀v,SI P n ops B (k+1) (F.put (ZL ops k).dst (.sl es' (some v))) (.tail v sz::h)) (hk:Xk n ops F k=true:=by kernel_rfl)
  (ha:Tx P ops F k=some (Zu es,len,sz):=by kernel_rfl) (hlen:es.length=len:=by kernel_rfl) (hall:B0 es sz=true:=by kernel_rfl):SI P n ops B k F h:=by
 subst he;exact iL es len sz hK hk ha hlen hall
theorem WB (i:Nat) (js bs:List Nat) (es es':List AV) (he:es=es') (len sz:Nat) (hK:∀v,Xa P n ops B (T.filter fun t=>!Vs ops i t.1) fuel (done++[i]) (F.put (ZL ops i).dst (.sl es' (some v))) (.tail v sz::h))
  (hk:Xk n ops F i=true:=by kernel_rfl) (ha:Tx P ops F i=some (Zu es,len,sz):=by kernel_rfl) (hlen:es.length=len:=by kernel_rfl) (hall:B0 es sz=true:=by kernel_rfl)
  (ho:UH ops i T=bs:=by kernel_rfl) (hj:js.map (fun j=>(V5 h)[j]?)=bs.map some:=by kernel_rfl):U0 P n ops B T fuel done F h i:=by
 subst he;exact dL i js bs es len sz hK hk ha hlen hall ho hj
theorem iKN (ls:List AV) (len sz:Nat) (hK:∀g,SI P n ops B (k+1) (F.put (ZL ops k).dst (.val (.slice (some ⟨g,0,none⟩) len len))) (.row (.slice (some ⟨g,0,none⟩) len len) sz ls::h)) (hlen:ls.length=len*sz:=by rfl) (hk:Xk n ops F k=true:=by kernel_rfl)
  (ha:Tx P ops F k=some (ls,len,sz):=by kernel_rfl):SI P n ops B k F h:=QG hk (Si (UI hk).2.1 ha hlen hK)
theorem dKN (i:Nat) (js bs:List Nat) (ls:List AV) (len sz:Nat) (hK:∀g,Xa P n ops B (T.filter fun t=>!Vs ops i t.1) fuel (done++[i]) (F.put (ZL ops i).dst (.val (.slice (some ⟨g,0,none⟩) len len))) (.row (.slice (some ⟨g,0,none⟩) len len) sz ls::h)) (hlen:ls.length=len*sz:=by rfl)
  (hk:Xk n ops F i=true:=by kernel_rfl) (ha:Tx P ops F i=some (ls,len,sz):=by kernel_rfl) (ho:UH ops i T=bs:=by kernel_rfl) (hj:js.map (fun j=>(V5 h)[j]?)=bs.map some:=by kernel_rfl):U0 P n ops B T fuel done F h i:=
 Aj (h1:=[]) (h2:=h) [] js bs hk rfl ho hj (Si (UI hk).2.1 ha hlen hK)
end
theorem V1.frz {P:Program} {f:FuncId} {as1:List AV} {h0:List Res} {E:Type} {kk:Nat} {es:E->List AV} {hs:E->List Res} {Q:E->Prop} (H:V1 P f as1 h0 (fun r h=>∃(e:E) (v:Hd),r=.h v/\h=rK v kk (Zu (es e))::hs e/\Q e)) (hes:∀e,∀y∈es e,y.leaves.length=kk) (hk:0<kk) :
  V1 P f as1 h0 (fun r h=>∃(e:E) (v:Value),r=.sl (es e) (some v)/\h=.tail v kk::hs e/\Q e):=by
 intro w G vs hv hh
 refine (H w G vs hv hh).mono ?_
 rintro e w' ⟨u,r,h',G',he,⟨x,v,rfl,rfl,hq⟩,hr,hh',hx⟩
 obtain ⟨G2,h1,h2,h3⟩:=FE hh' (hes x) hk
 have hrv:=hr.val_inv
 subst hrv
 exact ⟨_,_,_,G2,he,⟨x,v.v,rfl,rfl,hq⟩,h3,h1,hx.trans h2⟩
theorem Pl {es:List AV} {sz k:Nat} {y:AV} (h:∀x∈es,x.leaves.length=sz) (hy:y.leaves.length=sz) (hk:k<es.length):(Zu es).take (k*sz)++y.leaves++(Zu es).drop (k*sz+y.leaves.length)=Zu (es.set k y):=by
 obtain ⟨x,hx⟩:=BZ (xs:=es) (j:=k) hk
 have hxl:=h x (Y4 hx)
 have e1:es=es.take k++(x::es.drop (k+1)):=by rw [<-Yj hx,Qj]
 have e2:es.set k y=es.take k++(y::es.drop (k+1)):=by rw [If,Zf hk]
 have hl:(Zu (es.take k)).length=k*sz:=by rw [TZ (k:=sz) _ (fun z hz=>h z (QA hz)),Vc,Qk om]
 have e3:Zu es=Zu (es.take k)++(x.leaves++Zu (es.drop (k+1))):=by
  conv=>lhs;rw [e1,As]
  simp [Zu]
 rw [e2,As,e3,MA hl (by rw [hxl,hy])]
 simp [Zu]
theorem Z7y (xs ys:List Zc):Zu (Xn xs)++Zu (Xn ys)=Zu (Xn (xs++ys)):=by rw [L9,As]
section
variable {P:Program} {n:Nat} {ops:Array Oper} {B:Fr->List Res->Prop} {k:Nat} {F:Fr} {h:List Res}
theorem Za8 (j m:Nat) {v:Hd} {kk:Nat} {ls:List AV} (hm:ls.length=m*kk) (h0:0<m) (H:∀g c',v=⟨some ⟨g,0,none⟩,m,c'⟩->SI P n ops B k F h) (hk:0<kk:=by omega) (hj:h[j]? = some (rK v kk ls):=by kernel_rfl):SI P n ops B k F h:=by
 intro Q w G a hF hh hq
 obtain ⟨g,c',e⟩:=Mz (hh.ok _ (Y4 hj)) hm hk h0
 exact H g c' e Q w G a hF hh hq
end
section
variable {P:Program} {n:Nat} {ops:Array Oper} {B:Fr->List Res->Prop} {k:Nat} {F:Fr} {h:List Res}
def IS (P:Program) (ops:Array Oper) (F:Fr) (k:Nat):Option (IntKind × Int):=
 match (ZL ops k).op with
 | .convert s d x=>match P.underlying s,P.underlying d,F.ev x with
  | some (.int _),some (.int q),.val (.int _ z)=>some (q,z)
  | _,_,_=>none
 | _=>none
theorem kCv (q:IntKind) (z z':Int) (e:q.wrap z=z') (hc:IS P ops F k=some (q,z):=by kernel_rfl):XS P (ZL ops k) F h [] (.val (.int q z')):=by
 unfold IS at hc
 generalize hoo:ZL ops k=o at hc
 obtain ⟨dst,op,type,pos,after,guard⟩:=o
 cases op<;>simp only at hc<;>try (cases hc)
 rename_i s d x
 split at hc
 ·rename_i q1 q2 q3 z2 h1 h2 h3
  cases hc
  intro n w G ac hF hh
  have v1:=hF.ev x
  rw [h3] at v1
  have v1:=v1.val_inv
  refine ⟨_,.val,fun w' _ _=>?_⟩
  simp only [execOp,v1]
  refine Vp ?_
  simp [convert,U6 h1,U6 h2,Conv.intToInt,e]
 ·cases hc
theorem N9 {z:Int} (h:0<=z/\z<=9223372036854775807):IntKind.i64.wrap z=z:=IntWalk.i64_in _ om
theorem LZ (z:Int) (hz:0<=z/\z<=255) (hc:IS P ops F k=some (.i64,z):=by kernel_rfl):XS P (ZL ops k) F h [] (.i z):=kCv .i64 z z (N9 om) hc
def BJ (ops:Array Oper) (F:Fr) (k:Nat) (b:BinOp):Option (Int × Int):=
 match (ZL ops k).op with
 | .binOp c _ x y _=>if c==b then match F.ev x,F.ev y with
  | .val (.int .i64 z),.val (.int .i64 u)=>some (z,u)
  | _,_=>none else none
 | _=>none
theorem Hc (a b:Int) (hb:0<b) (ha:0<=a/\a<=9223372036854775807) (hc:BJ ops F k .quo=some (a,b):=by kernel_rfl):XS P (ZL ops k) F h [] (.i (a / b)):=by
 unfold BJ at hc
 generalize hoo:ZL ops k=o at hc
 obtain ⟨dst,op,type,pos,after,guard⟩:=o
 cases op<;>simp only at hc<;>try (cases hc)
 rename_i bop t x y yt
 cases bop<;>simp only [Zg,reduceCtorEq,if_false,if_true] at hc<;>try (cases hc)
 split at hc
 ·rename_i z yk h1 h2
  cases hc
  intro n' w G ac hF hh
  have v1:=hF.ev x
  have v2:=hF.ev y
  rw [h1] at v1
  rw [h2] at v2
  have v1:=v1.val_inv
  have v2:=v2.val_inv
  refine ⟨_,.val,fun w' _ _=>?_⟩
  simp only [execOp,v1,v2]
  refine Vp ?_
  have e1:a.tdiv b=a / b:=Int.tdiv_eq_ediv_of_nonneg ha.1
  have e2:IntKind.i64.wrap (a / b)=a / b:=N9 ⟨Int.ediv_nonneg ha.1 om,Int.le_trans (Int.ediv_le_self b ha.1) ha.2⟩
  have e3:b≠0:=by omega
  simp [eqGuard,binOp,Op.intDiv,e1,e2,e3]
 ·cases hc
theorem F5 (a b:Int) (hb:0<b) (ha:0<=a) (hc:BJ ops F k .rem=some (a,b):=by kernel_rfl):XS P (ZL ops k) F h [] (.i (a % b)):=by
 unfold BJ at hc
 generalize hoo:ZL ops k=o at hc
 obtain ⟨dst,op,type,pos,after,guard⟩:=o
 cases op<;>simp only at hc<;>try (cases hc)
 rename_i bop t x y yt
 cases bop<;>simp only [Zg,reduceCtorEq,if_false,if_true] at hc<;>try (cases hc)
 split at hc
 ·rename_i z yk h1 h2
  cases hc
  intro n' w G ac hF hh
  have v1:=hF.ev x
  have v2:=hF.ev y
  rw [h1] at v1
  rw [h2] at v2
  have v1:=v1.val_inv
  have v2:=v2.val_inv
  refine ⟨_,.val,fun w' _ _=>?_⟩
  simp only [execOp,v1,v2]
  refine Vp ?_
  have e1:a.tmod b=a % b:=Int.tmod_eq_emod_of_nonneg ha
  have e3:b≠0:=by omega
  simp [eqGuard,binOp,Op.intDiv,e1,e3]
 ·cases hc
theorem CS (a b:Nat) (hb:0<b) (ha:a<=9223372036854775807) (hc:BJ ops F k .quo=some ((a:Int),(b:Int)):=by kernel_rfl):XS P (ZL ops k) F h [] (.i (a / b:Nat)):=by
 rw [Int.natCast_ediv];exact Hc a b om om hc
theorem Rs (a b:Nat) (hb:0<b) (_ha:a<=9223372036854775807) (hc:BJ ops F k .rem=some ((a:Int),(b:Int)):=by kernel_rfl):XS P (ZL ops k) F h [] (.i (a % b:Nat)):=by
 rw [Int.natCast_emod];exact F5 a b om om hc
def Ei (a b:Int):Int:=IntKind.i64.wrap ((BitVec.ofInt 64 a ^^^ BitVec.ofInt 64 b).toNat:Int)
theorem Z2w {a b:Int} (ha:0<=a/\a<4611686018427387904) (hb:0<=b/\b<4611686018427387904):0<=Ei a b/\Ei a b<4611686018427387904:=by
 obtain ⟨x,rfl⟩:=Int.eq_ofNat_of_zero_le ha.1
 obtain ⟨y,rfl⟩:=Int.eq_ofNat_of_zero_le hb.1
 have h1:(BitVec.ofInt 64 (x:Int) ^^^ BitVec.ofInt 64 (y:Int)).toNat=x ^^^ y:=by
  rw [BitVec.toNat_xor,BitVec.toNat_ofInt,BitVec.toNat_ofInt]
  have e1:((x:Int) % ((2 ^ 64:Nat):Int)).toNat=x:=by omega
  have e2:((y:Int) % ((2 ^ 64:Nat):Int)).toNat=y:=by omega
  rw [e1,e2]
 have h2:x ^^^ y<2 ^ 62:=Nat.xor_lt_two_pow om om
 rw [Ei,h1,N9 om]
 omega
theorem Zbn (a b:Int) (hc:BJ ops F k .xor=some (a,b):=by kernel_rfl):XS P (ZL ops k) F h [] (.i (Ei a b)):=by
 unfold BJ at hc
 generalize hoo:ZL ops k=o at hc
 obtain ⟨dst,op,type,pos,after,guard⟩:=o
 cases op<;>simp only at hc<;>try (cases hc)
 rename_i bop t x y yt
 cases bop<;>simp only [Zg,reduceCtorEq,if_false,if_true] at hc<;>try (cases hc)
 split at hc
 ·rename_i z yk h1 h2
  cases hc
  intro n' w G ac hF hh
  have v1:=hF.ev x
  have v2:=hF.ev y
  rw [h1] at v1
  rw [h2] at v2
  have v1:=v1.val_inv
  have v2:=v2.val_inv
  refine ⟨_,.val,fun w' _ _=>?_⟩
  simp only [execOp,v1,v2]
  refine Vp ?_
  simp [eqGuard,binOp,Op.intBits,IntKind.bits]
  exact Yn (fun z:Nat=>IntKind.i64.wrap (z:Int)) (by rw [BitVec.toNat_xor,BitVec.toNat_ofInt,BitVec.toNat_ofInt];rfl)
 ·cases hc
end
end Go.Abs
section
namespace Go.Abs
inductive Z2 where
 | mk (op num:Int) (kids:List Z2)
namespace Z2
def op:Z2->Int|.mk a _ _=>a
def num:Z2->Int|.mk _ a _=>a
def kids:Z2->List Z2|.mk _ _ a=>a
end Z2
structure Func where
 params:LI
 result:Int
 body:Z2
structure W5 where
 decls:List Zc
 funcs:List Func
instance:Inhabited Z2:=⟨.mk 0 0 []⟩
mutual
def La:Z2->AV
 | .mk op num kids=>.agg [.i op,.i num,.sl (Yv kids) none]
def Yv:List Z2->List AV
 | []=>[]
 | e::r=>La e::Yv r
end
abbrev Yb (e:Z2):AV:=.agg [.i e.op,.i e.num,.sl (Yv e.kids) none]
abbrev YY (e:Z2):List AV:=[.i e.op,.i e.num,.sl (Yv e.kids) none]
abbrev Xz (xs:List Z2):AV:=.sl (Yv xs) none
abbrev QJ (xs:List Z2) (v:Value):AV:=.sl (Yv xs) (some v)
abbrev Et (f:Func):AV:=.agg [Z4 f.params,.i f.result,.i f.body.op,.i f.body.num,Xz f.body.kids]
abbrev Hg (f:Func):List AV:=[Z4 f.params,.i f.result,.i f.body.op,.i f.body.num,Xz f.body.kids]
def Xt (xs:List Func):List AV:=xs.map Et
abbrev Hr (xs:List Func):AV:=.sl (Xt xs) none
abbrev AY (p:W5):AV:=.agg [Yu p.decls,Hr p.funcs]
abbrev M1 (p:W5):List AV:=[Yu p.decls,Hr p.funcs]
abbrev Ir (z:Int):AV:=.val (.int .u8 z)
def TV (xs:LI):List AV:=xs.map Ir
abbrev Uv (xs:LI):AV:=.sl (TV xs) none
theorem Z64 (e:Z2):La e=Yb e:=by cases e;rw [La];rfl
theorem XO:∀xs:List Z2,Yv xs=xs.map Yb
 | []=>by rw [Yv];rfl
 | s::ss=>by rw [Yv,XO ss,Z64];rfl
theorem DB {xs:List Z2} {j:Nat} {x:Z2} (h:xs[j]? = some x):(Yv xs)[j]? = some (Yb x):=by simp [XO,h]
theorem Gy {xs:List Func} {j:Nat} {x:Func} (h:xs[j]? = some x):(Xt xs)[j]? = some (Et x):=by simp [Xt,h]
theorem L6 {xs:LI} {j:Nat} {x:Int} (h:xs[j]? = some x):(TV xs)[j]? = some (Ir x):=by simp [TV,h]
@[simp] theorem Lb (xs:List Z2):(Yv xs).length=xs.length:=by simp [XO]
@[simp] theorem DC (xs:List Func):(Xt xs).length=xs.length:=by simp [Xt]
@[simp] theorem BP (xs:LI):(TV xs).length=xs.length:=by simp [TV]
theorem Am (xs ys:List Z2):Yv (xs++ys)=Yv xs++Yv ys:=by simp [XO]
theorem Z65 (xs ys:List Func):Xt (xs++ys)=Xt xs++Xt ys:=by simp [Xt]
theorem L7 (xs:LI) (n:Nat):(TV xs).take n=TV (xs.take n):=by simp [TV]
theorem L5 (xs:LI) (n:Nat):(TV xs).drop n=TV (xs.drop n):=by simp [TV]
theorem T7 (xs:List Z2):∀y∈Yv xs,y.leaves.length=3:=by intro y hy;simp only [XO,XA] at hy;obtain ⟨x,_,rfl⟩:=hy;rfl
theorem Gz (xs:List Func):∀y∈Xt xs,y.leaves.length=5:=by intro y hy;simp only [Xt,XA] at hy;obtain ⟨x,_,rfl⟩:=hy;rfl
theorem Z63 (xs:LI):∀y∈TV xs,y.leaves.length=1:=by intro y hy;simp only [TV,XA] at hy;obtain ⟨x,_,rfl⟩:=hy;rfl
theorem An (xs:List Z2):(Zu (Yv xs)).all AV.one=true:=J4 fun y hy=>by simp only [XO,XA] at hy;obtain ⟨x,_,rfl⟩:=hy;rfl
end Go.Abs
end
section
namespace Go.Abs
open Go.Proofs Go.Proofs.YtlcniflebhfdpaaGreat
section
variable {H:Type} {enc:TypeId × Value->H} {w:World}
def GA (w:World):Yl:=fun b _=>b<w.heap.size
abbrev Tr (enc:TypeId × Value->H) (w:World) (n:Nat) (t:TypeId) (cs:List Value) (x:DataW H × List MemPlace):Prop:=DataW.trod enc Tryz.prog w 0 (fun _=>true) true n t cs=some x
theorem RR {w:World} {a:Addr} {v:Value} (h:w.cell? a=some v):a.block<w.heap.size/\a.spot=none:=by
 unfold World.cell? at h
 split at h
 ·rename_i c e fr hb
  split at h
  ·cases h
  ·rename_i hs
   exact ⟨(UM.1 hb).1,by simpa using hs⟩
 ·cases h
theorem NO {α:Type} {c:α->Nat}:∀{xs:List α} {ds:List (DataW H)},xs.length=ds.length->(∀(i:Nat) a d,xs[i]? = some a->ds[i]? = some d->c a+1<=Rows.uptoBulk d)->(xs.map fun a=>c a+1).sum<=Rows.uptoBulkAll ds
 | [],[],_,_=>X2 _
 | a::r,d::ds,hl,h=>by
  have h0:=h 0 a d rfl rfl
  have h1:=NO (c:=c) (xs:=r) (ds:=ds) (by simpa using hl) fun i a d ha hd=>h (i+1) a d (by simpa using ha) (by simpa using hd)
  rw [Tm,List.sum_cons,Rows.uptoBulkAll]
  omega
theorem Z07 {α:Type} {f:α->AV} {G:Yl} {k b:Nat} (hf:∀x,(f x).leaves.length=k):∀{xs:List α} {o:Nat},(∀(i:Nat) a,xs[i]? = some a->Wu w G b (o+i*k) (f a).leaves)->Vg w G k b o (xs.map f)
 | [],_,_=>.nil
 | x::r,o,h=>by
  refine .cons (hf x) (by have:=h 0 x rfl;simpa using this) (Z07 hf fun i a ha=>?_)
  have:=h (i+1) a (by simpa using ha)
  rw [show o+(i+1)*k=o+k+i*k by rw [TN];omega] at this
  exact this
theorem Zeo {α:Type} [Inhabited α] {t e k:Nat} (ht:Tryz.prog.underlying t=some (.slice e)) (hk:Tryz.prog.cellsOf e=k) (h0:0<k) (f:α->AV) (hf:∀x,(f x).leaves.length=k) (c:α->Nat) (Q:α->Prop) {n:Nat} {cs:List Value} {x:DataW H × List MemPlace}
  (h:Tr enc w n t cs x) (el:∀m cs y,m<n->Tr enc w m e cs y->∃a:α,YT w (GA w) (f a).leaves cs/\c a+1<=Rows.uptoBulk y.1/\Q a) :
  ∃(v:Value) (xs:List α),cs=[v]/\RV w (GA w) (.sl (xs.map f) none) v/\(xs.map fun a=>c a+1).sum+1<=Rows.uptoBulk x.1/\∀a∈xs,Q a:=by
 rcases DataW.trod_slice ht h with ⟨rfl,rfl⟩|⟨a,len,cap,elems,rest,m,rfl,rfl,rfl,_,hlc,_,hlen,hel,_,_⟩
 ·exact ⟨_,[],rfl,.nil (by simp),by simp [Rows.uptoBulk],by simp⟩
 ·rw [hk] at hel
  have hone:∀i,i<len->∃z:α,∃cs' y,w.cells? 0 (a.add (i*k)) k=some cs'/\elems[i]? = some y/\YT w (GA w) (f z).leaves cs'/\c z+1<=Rows.uptoBulk y.1/\Q z:=by
   intro i hi
   have h1:=hel i hi
   rw [Dh om] at h1
   obtain ⟨cs',h2,h3⟩:=Option.bind_eq_some_iff.1 h1
   obtain ⟨z,hz1,hz2,hz3⟩:=el m cs' _ om h3
   exact ⟨z,cs',_,h2,Dh om,hz1,hz2,hz3⟩
  obtain ⟨V,hV⟩:=Go.Deep.choose_lt hone
  refine ⟨_,(List.range len).map V,rfl,?_,?_,?_⟩
  ·cases hl0:len with
   | zero=>exact .nil (by simp)
   | succ q=>
    have hsp:a.spot=none:=by
     obtain ⟨cs',y,g1,_⟩:=hV 0 om
     obtain ⟨_,g2,g3⟩:=World.cells?_some g1
     have g4:=g3 0 h0
     rw [Dh om] at g4
     have g5:=(RR g4).2
     simpa [Addr.add] using g5
    obtain ⟨b,o,sp⟩:=a
    simp only at hsp
    subst hsp
    rw [<-hl0]
    have hll:(((List.range len).map V).map f).length=len:=by simp
    have:=RV.sl (w:=w) (G:=GA w) (es:=((List.range len).map V).map f) (hv:=none) (b:=b) (o:=o) (k:=k) (cap:=cap) (by simp) (by rw [hll];exact hlc) (Z07 hf fun i z hz=>by
     have hi:i<len:=by have:=(Xu.1 hz).1;simpa using this
     have hz':V i=z:=by simpa [hi] using hz
     obtain ⟨cs',y,g1,_,g2,_⟩:=hV i hi
     rw [hz'] at g2
     obtain ⟨_,g3,g4⟩:=World.cells?_some g1
     refine Wu.of_cells g2 fun j u hj=>?_
     have hjl:j<k:=by have:=(Xu.1 hj).1;omega
     have g5:=(g4 j hjl).trans hj
     rw [Addr.add_lit,Addr.add_lit] at g5
     exact ⟨g5,(RR g5).1⟩)
    rw [hll] at this
    exact this
  ·have:=NO (c:=c) (xs:=(List.range len).map V) (ds:=elems.map (·.1)) (by simp [hlen]) fun i z d hz hd=>by
    have hi:i<len:=by have:=(Xu.1 hz).1;simpa using this
    have hz':V i=z:=by simpa [hi] using hz
    obtain ⟨cs',y,_,g1,_,g2,_⟩:=hV i hi
    rw [Jo,g1] at hd
    simp only [G8,Wk] at hd
    rw [<-hd,<-hz']
    exact g2
   simp only [Rows.uptoBulk]
   omega
  ·intro z hz
   obtain ⟨i,hi,rfl⟩:=XA.1 hz
   obtain ⟨_,_,_,_,_,_,g⟩:=hV i (List.mem_range.1 hi)
   exact g
theorem Zem {n:Nat} {cs:List Value} {x:DataW H × List MemPlace} (h:Tr enc w n 5 cs x):∃z:Int,cs=[.int .u8 z]/\Rows.uptoBulk x.1=1/\0<=z/\z<=255:=by
 obtain ⟨z,rfl,rfl,hw⟩:=DataW.trod_int Tryz.underlying5 h
 refine ⟨z,rfl,rfl,?_⟩
 simpa [Lit.wf,IntKind.min,IntKind.max,IntKind.signed,IntKind.bits] using hw
theorem SZ {n:Nat} {cs:List Value} {x:DataW H × List MemPlace} (h:Tr enc w n 22 cs x):∃(v:Value) (xs:LI),cs=[v]/\RV w (GA w) (Uv xs) v/\∀z∈xs,0<=z/\z<=255:=by
 obtain ⟨v,xs,h1,h2,h3,h4⟩:=Zeo Tryz.underlying22 (k:=1) kr om (fun z:Int=>Ir z) (fun _=>rfl) (fun _=>0) (fun z=>0<=z/\z<=255) h fun m cs y _ hy=>by
  obtain ⟨z,rfl,hb,hz⟩:=Zem hy
  exact ⟨z,.cons .val .nil,Nat.le_of_eq hb.symm,hz⟩
 exact ⟨v,xs,h1,h2,h4⟩
end
end Go.Abs
end
namespace Go.Abs
structure Sg where
 params:LI
 result:Int
abbrev Nk (f:Sg):AV:=.agg [.sl (Z6 f.params) none,.i f.result,.i 0,.i 0,.sl [] none]
def WC (fs:List Sg):List AV:=fs.map Nk
theorem Lf {xs:List Sg} {j:Nat} {x:Sg} (h:xs[j]? = some x):(WC xs)[j]? = some (Nk x):=by simp [WC,h]
@[simp] theorem Of (xs:List Sg):(WC xs).length=xs.length:=by simp [WC]
theorem GF (xs:List Sg):∀y∈WC xs,y.leaves.length=5:=by intro y hy;simp only [WC,XA] at hy;obtain ⟨x,_,rfl⟩:=hy;rfl
theorem Og (xs:List Sg):(Zu (WC xs)).all AV.one=true:=J4 fun y hy=>by simp only [WC,XA] at hy;obtain ⟨x,_,rfl⟩:=hy;rfl
mutual
def Z5.sz:Z5->Nat
 | .mk _ _ _ args kids=>1+args.length+YV kids
def Z7.sz:Z7->Nat
 | .mk steps _=>1+Yr steps
def Yr:List Z5->Nat
 | []=>0
 | s::r=>s.sz+Yr r
def YV:List Z7->Nat
 | []=>0
 | b::r=>b.sz+YV r
end
theorem Z5.sz_pos (s:Z5):1<=s.sz:=by cases s;rw [Z5.sz];omega
theorem Z7.sz_pos (b:Z7):1<=b.sz:=by cases b;rw [Z7.sz];omega
theorem Jg (l:List Z5):l.length<=Yr l:=by
 induction l with
 | nil=>simp
 | cons s r ih=>have:=s.sz_pos;simp only [Ys,Yr];omega
theorem NM (l:List Z7):l.length<=YV l:=by
 induction l with
 | nil=>simp
 | cons s r ih=>have:=s.sz_pos;simp only [Ys,YV];omega
theorem Zhs {l:List Z5} {k:Nat} {s:Z5} (h:l[k]? = some s):s.sz<=Yr l:=by
 induction l generalizing k with
 | nil=>simp at h
 | cons t r ih=>
  cases k with
  | zero=>simp at h;subst h;simp only [Yr];omega
  | succ k=>have:=ih (k:=k) (by simpa using h);simp only [Yr];omega
theorem IH {l:List Z7} {k:Nat} {s:Z7} (h:l[k]? = some s):s.sz<=YV l:=by
 induction l generalizing k with
 | nil=>simp at h
 | cons t r ih=>
  cases k with
  | zero=>simp at h;subst h;simp only [YV];omega
  | succ k=>have:=ih (k:=k) (by simpa using h);simp only [YV];omega
theorem Z5.sz_eq (s:Z5):s.sz=1+s.args.length+YV s.kids:=by cases s;rw [Z5.sz];rfl
theorem Z7.sz_eq (b:Z7):b.sz=1+Yr b.steps:=by cases b;rw [Z7.sz];rfl
theorem Eg {b:Z7} {k:Nat} {s:Z5} (h:b.steps[k]? = some s):s.sz<b.sz:=by have:=Zhs h;have:=b.sz_eq;omega
theorem Qs {s:Z5} {k:Nat} {b:Z7} (h:s.kids[k]? = some b):b.sz<s.sz:=by have:=IH h;have:=s.sz_eq;omega
theorem Jv (s:Z5):s.args.length<s.sz:=by have:=s.sz_eq;omega
theorem K9 (s:Z5):s.kids.length<s.sz:=by have:=s.sz_eq;have:=NM s.kids;omega
theorem Ux (b:Z7):b.steps.length<b.sz:=by have:=b.sz_eq;have:=Jg b.steps;omega
structure TB (ds:List Zc):Prop where
 len:ds.length<=1100000000
 cons:∀d∈ds,d.cons.length<=1100000000
 fields:∀d∈ds,∀c∈d.cons,c.fields.length<=1100000000
theorem TB.cons_at {ds:List Zc} (h:TB ds) {k:Nat} {d:Zc} (hd:ds[k]? = some d):d.cons.length<=1100000000:=h.cons d (Y4 hd)
theorem TB.fields_at {ds:List Zc} (h:TB ds) {k j:Nat} {d:Zc} {c:YK} (hd:ds[k]? = some d) (hc:d.cons[j]? = some c):c.fields.length<=1100000000:=
 h.fields d (Y4 hd) c (Y4 hc)
def Jw (m:Nat) (c:YK):Bool:=decide (c.fields.length<=3)&&Wc m c.fields
def QZ (d:Zc):List Zc->Bool
 | []=>false
 | e::r=>if e.cons.length=0/\e.frm=d.frm/\e.to_=d.to_ then true else QZ d r
def TE (m:Nat):List YK->Bool
 | []=>true
 | c::r=>if Jw m c=true then TE m r else false
def T4 (ds:List Zc) (d:Zc) (i:Nat):Bool:=
 if 0<d.cons.length then (if d.cons.length<=3/\d.frm=0/\d.to_=0 then TE ds.length d.cons else false)
 else if QZ d (ds.take i)=true then false else decide (0<=d.frm/\d.frm<=ds.length)&&decide (0<=d.to_/\d.to_<=ds.length)
def CA (ds:List Zc) (i:Nat):Bool:=(ds[i]?.map fun d=>T4 ds d i).getD false
theorem EB {ds:List Zc} {i:Nat} {d:Zc} (h:ds[i]? = some d):CA ds i=T4 ds d i:=by rw [CA,h];rfl
def T5 (ds:List Zc):List Zc->Nat->Bool
 | [],_=>true
 | _::r,i=>if CA ds i=true then T5 ds r (i+1) else false
def WM (ds:List Zc):Bool:=decide (ds.length<=4)&&T5 ds ds 0
theorem NY {m:Nat} {cs:List YK}:TE m cs=true↔∀c∈cs,Jw m c=true:=by
 induction cs with
 | nil=>simp [TE]
 | cons c r ih=>
  rw [TE]
  split
  ·rename_i h;simp [ih,h]
  ·rename_i h;simp [h]
theorem IW {ds:List Zc}:∀{l:List Zc} {i:Nat},T5 ds l i=true↔∀j<l.length,CA ds (i+j)=true
 | [],i=>by simp [T5]
 | d::r,i=>by
  rw [T5]
  split
  ·rename_i h
   rw [IW (l:=r)]
   constructor
   ·intro hq j hj
    cases j with
    | zero=>exact h
    | succ j=>have:=hq j (by simpa using hj);rwa [show i+(j+1)=i+1+j by omega]
   ·intro hq j hj
    have:=hq (j+1) (by simpa using hj)
    rwa [show i+(j+1)=i+1+j by omega] at this
  ·rename_i h
   simp only [Bool.false_eq_true,false_iff]
   intro hq
   exact h (hq 0 (by simp))
theorem I8 {ds:List Zc} (h:WM ds=true):Xl ds:=by
 simp only [WM,X1,decide_eq_true_eq] at h
 obtain ⟨h1,h2⟩:=h
 rw [IW] at h2
 have key:∀d∈ds,∃i,T4 ds d i=true:=fun d hd=>by
  obtain ⟨i,hi⟩:=List.mem_iff_getElem?.1 hd
  have:=h2 i (Xu.1 hi).1
  rw [Wj,EB hi] at this
  exact ⟨i,this⟩
 have hc:∀d∈ds,0<d.cons.length->d.cons.length<=3/\TE ds.length d.cons=true:=fun d hd hp=>by
  obtain ⟨i,hi⟩:=key d hd
  rw [T4,Zf hp] at hi
  split at hi
  ·rename_i h;exact ⟨h.1,hi⟩
  ·cases hi
 refine ⟨h1,fun d hd=>?_,fun d hd c hc'=>?_⟩
 ·by_cases hp:0<d.cons.length
  ·exact (hc d hd hp).1
  ·omega
 ·have:=NY.1 (hc d hd (List.length_pos_of_mem hc')).2 c hc'
  simp only [Jw,X1,decide_eq_true_eq] at this
  exact this.1
theorem Xl.sz {ds:List Zc} (h:Xl ds):TB ds:=
 ⟨by have:=h.len;omega,fun d hd=>by have:=h.cons d hd;omega,fun d hd c hc=>by have:=h.fields d hd c hc;omega⟩
def Kn (m:Nat) (f:Sg):Bool:=decide (f.params.length<=3)&&(Wc m f.params&&decide (0<=f.result/\f.result<=m))
def Jd (m:Nat):List Sg->Bool
 | []=>true
 | f::r=>if Kn m f=true then Jd m r else false
def GR:List Sg->Bool
 | []=>false
 | f::_=>decide (f.params.length=0)&&decide (f.result=0)
theorem Z77 {fs:List Sg} {x:Sg} (h:fs[0]? = some x):GR fs=(decide (x.params.length=0)&&decide (x.result=0)):=by
 cases fs with
 | nil=>simp at h
 | cons f r=>simp at h;subst h;rfl
def Ug (ds:List Zc) (fs:List Sg):Bool:=
 WM ds&&(decide (1<=fs.length/\fs.length<=4)&&(Jd ds.length fs&&GR fs))
def Q3 (ps:LI):LI->Option Int->Bool
 | [],_=>true
 | v::r,prev=>if (0<=v/\v<=(ps.length:Int)-1)/\ps[v.toNat]?≠some 0/\(∀p,prev=some p->p<v) then Q3 ps r (some v) else false
theorem M7 {ps r:LI} {v:Int} {prev:Option Int} (h:(0<=v/\v<=(ps.length:Int)-1)/\ps[v.toNat]?≠some 0/\(∀p,prev=some p->p<v)):Q3 ps (v::r) prev=Q3 ps r (some v):=by
 rw [Q3,Zf h]
theorem Hn {ps r:LI} {v:Int} {prev:Option Int} (h:¬((0<=v/\v<=(ps.length:Int)-1)/\ps[v.toNat]?≠some 0/\(∀p,prev=some p->p<v))):Q3 ps (v::r) prev=false:=by
 rw [Q3,Za h]
def Uf (ps ls:LI):Bool:=Q3 ps ls none
def CU:List Yz->Bool
 | []=>true
 | r::rs=>if Uf r.params r.lent=true then CU rs else false
def Qe (r:Yz):Sg:=⟨r.params,r.result⟩
def Ay (n:ZF):Bool:=decide (n.routines.length<=4)&&(Ug n.decls (n.routines.map Qe)&&CU n.routines)
end Go.Abs
section
namespace Go.Abs
def WY {α:Type} (xs:List α) (i:Int):Option α:=if 0<=i/\i<=(xs.length:Int)-1 then xs[i.toNat]? else none
theorem BH {α:Type} {xs:List α} {i:Int} {x:α} (h:0<=i/\i<=(xs.length:Int)-1) (hx:xs[i.toNat]? = some x):WY xs i=some x:=by rw [WY,Zf h,hx]
theorem B1 {α:Type} {xs:List α} {i:Int} (h:¬(0<=i/\i<=(xs.length:Int)-1)):WY xs i=none:=by rw [WY,Za h]
theorem BI {α:Type} {xs:List α} {i:Int} {x:α} (h:WY xs i=some x):(0<=i/\i<=(xs.length:Int)-1)/\xs[i.toNat]? = some x:=by
 rw [WY] at h
 split at h
 ·rename_i h1;exact ⟨h1,h⟩
 ·cases h
def KQ (vars:LI):LI->LI->Bool
 | [],[]=>true
 | a::as1,t::ts=>if WY vars a=some t then KQ vars as1 ts else false
 | _,_=>false
def V0 (vars args types:LI):Bool:=KQ vars args types
theorem Z2h {vars:LI}:∀{args types:LI},args.length≠types.length->KQ vars args types=false
 | [],[],h=>absurd rfl h
 | [],_::_,_=>rfl
 | _::_,[],_=>rfl
 | a::as1,t::ts,h=>by
  rw [KQ]
  split
  ·exact Z2h (by simpa using h)
  ·rfl
theorem Zil {vars args types:LI} {k:Nat} {a t:Int} (ha:args[k]? = some a) (ht:types[k]? = some t) (h:WY vars a=some t) :
  KQ vars (args.drop k) (types.drop k)=KQ vars (args.drop (k+1)) (types.drop (k+1)):=by
 rw [Yj ha,Yj ht,KQ,Zf h]
theorem Z2g {vars args types:LI} {k:Nat} {a t:Int} (ha:args[k]? = some a) (ht:types[k]? = some t) (h:WY vars a≠some t) :
  KQ vars (args.drop k) (types.drop k)=false:=by
 rw [Yj ha,Yj ht,KQ,Za h]
theorem Zik {vars args types:LI} {k:Nat} (ha:args.length<=k) (ht:types.length<=k):KQ vars (args.drop k) (types.drop k)=true:=by
 rw [Xj ha,Xj ht];rfl
def Qo (op:Int):Bool:=op==0||(op==6||(op==8||(op==9||op==10)))
def Xd (op:Int):Bool:=decide (0<=op/\op<=11)
def YM (op:Int):Bool:=decide (14<=op/\op<=17)
def Qh (vars:LI) (op into:Int):Bool:=
 if into=0 then true else if op=6 then ((WY vars (into-1)).map fun t=>decide (0<t)).getD false else false
def Ev (ds:List Zc) (ps:LI) (res:Int):Int:=A9 ds (ps.getLast?.getD 0) res
def Cc (ds:List Zc) (vars:LI) (op:Int) (args:LI) (r:Yz):Int:=
 if op=9 then (if V0 vars args r.params=true then r.result else -1)
 else if r.params.length=0∨0<r.lent.length∨¬V0 vars args (r.params.take (r.params.length-1))=true then -1
 else Ev ds r.params r.result
def Kl (n:ZF) (vars:LI) (op num:Int) (args:LI):Int:=
 match WY n.routines num with
 | none=>-1
 | some r=>Cc n.decls vars op args r
def KZ (ds:List Zc) (vars:LI) (op:Int) (args:LI):Int:=
 match args with
 | [a]=>match WY vars a with
  | some t=>if t=0 then -1 else if (op≠14/\op≠15)/\VU ds t=true then -1 else 0
  | none=>-1
 | _=>-1
def KX (ds:List Zc) (vars:LI) (args:LI):Int:=
 match args with
 | [a,b]=>match WY vars a with
  | some t=>if VU ds t=true then
    (match ds[(t-1).toNat]? with
     | some d=>if V0 vars [b] [d.frm]=true then d.to_ else -1
     | none=>-1) else -1
  | none=>-1
 | _=>-1
def W1 (ds:List Zc) (op num:Int):List LI:=if op=7 then [[],[]] else (ZU ds num).map (ZO ds)
mutual
def YZ (n:ZF) (vars:LI):Z5->Int
 | .mk op num into args kids=>
  if (num≠0/\¬Qo op=true)∨¬Qh vars op into=true∨(0<kids.length/\op≠7/\op≠8) then -1
  else if op=0 then (if args.length=0/\(-999<=num/\num<=999) then 0 else -1)
  else if op=1∨op=2∨op=3∨op=4 then (if V0 vars args [0,0]=true then 0 else -1)
  else if op=5 then (if V0 vars args [0]=true then 0 else -1)
  else if op=6 then (if 0<Wd n.decls num/\V0 vars args (ZO n.decls num)=true then Wd n.decls num else -1)
  else if op=7 then (if V0 vars args [0]=true then (if (W1 n.decls op num).length=0∨kids.length≠(W1 n.decls op num).length then -1 else QI n vars kids (W1 n.decls op num) true 0) else -1)
  else if op=8 then (if V0 vars args [num]=true then (if (W1 n.decls op num).length=0∨kids.length≠(W1 n.decls op num).length then -1 else QI n vars kids (W1 n.decls op num) true 0) else -1)
  else if op=9∨op=10 then Kl n vars op num args
  else if op=11 then KX n.decls vars args
  else if op=14∨op=15∨op=16∨op=17 then KZ n.decls vars op args
  else -1
def QI (n:ZF) (vars:LI):List Z7->List LI->Bool->Int->Int
 | [],_,_,t=>t
 | b::bs,more,first,t=>
  match more with
  | []=>-1
  | m::ms=>if W2 n (vars++m) b<0∨(first=false/\W2 n (vars++m) b≠t) then -1 else QI n vars bs ms false (W2 n (vars++m) b)
def Uw (n:ZF):List Z5->LI->Option LI
 | [],vars=>some vars
 | s::r,vars=>if YZ n vars s<0 then none else Uw n r (if Xd s.op=true then vars++[YZ n vars s] else vars)
def W2 (n:ZF) (vars:LI):Z7->Int
 | .mk steps result=>match Uw n steps vars with
  | none=>-1
  | some vs=>(WY vs result).getD (-1)
end
def JK (n:ZF) (vars:LI) (op num:Int) (kids:List Z7):Int:=
 if (W1 n.decls op num).length=0∨kids.length≠(W1 n.decls op num).length then -1 else QI n vars kids (W1 n.decls op num) true 0
mutual
def C3:Z5->Int->Int
 | .mk _ _ _ _ kids,left=>Aw kids left
def Tg:Z7->Int->Int
 | .mk steps _,left=>JM steps left
def JM:List Z5->Int->Int
 | [],left=>left
 | s::r,left=>if left<1 then -1 else if C3 s (left-1)<0 then -1 else JM r (C3 s (left-1))
def Aw:List Z7->Int->Int
 | [],left=>left
 | b::r,left=>if Tg b left<0 then -1 else Aw r (Tg b left)
end
def Bs (b:Z7):Int:=if Tg b 600<0 then -1 else 600-Tg b 600
def Bq (n:ZF):List Yz->Bool
 | []=>true
 | r::rs=>if ¬Bs r.body<0/\W2 n r.params r.body=r.result then Bq n rs else false
def Ks (n:ZF):Bool:=Ay n&&Bq n n.routines
theorem RH:(∀(s:Z5) (l:Int),0<=l->C3 s l<=l)/\(∀(b:Z7) (l:Int),0<=l->Tg b l<=l):=by
 have key:∀m:Nat,(∀s:Z5,s.sz<=m->∀l:Int,0<=l->C3 s l<=l)/\(∀b:Z7,b.sz<=m->∀l:Int,0<=l->Tg b l<=l):=by
  intro m
  induction m with
  | zero=>exact ⟨fun s h=>by have:=s.sz_pos;omega,fun s h=>by have:=s.sz_pos;omega⟩
  | succ m ih=>
   refine ⟨fun s hs l hl=>?_,fun b hb l hl=>?_⟩
   ·cases s with
    | mk op num into args kids=>
     rw [C3]
     have hk:YV kids<=m:=by rw [Z5.sz] at hs;omega
     clear hs
     induction kids generalizing l with
     | nil=>rw [Aw];exact Int.le_refl _
     | cons b r ihr=>
      rw [YV] at hk
      have:=ih.2 b om l hl
      rw [Aw]
      split
      ·omega
      ·have:=ihr (Tg b l) om om;omega
   ·cases b with
    | mk steps res=>
     rw [Tg]
     have hk:Yr steps<=m:=by rw [Z7.sz] at hb;omega
     clear hb
     induction steps generalizing l with
     | nil=>rw [JM];exact Int.le_refl _
     | cons s r ihr=>
      rw [Yr] at hk
      rw [JM]
      split
      ·omega
      ·have:=ih.1 s om (l-1) om
       split
       ·omega
       ·have:=ihr (C3 s (l-1)) om om;omega
 exact ⟨fun s l hl=>(key s.sz).1 s (X2 _) l hl,fun b l hl=>(key b.sz).2 b (X2 _) l hl⟩
end Go.Abs
namespace Go.Abs
theorem Zht {l:List Z5} {k:Nat} {s:Z5} (h:l[k]? = some s):k+s.sz<=Yr l:=by
 induction l generalizing k with
 | nil=>simp at h
 | cons t r ih=>
  cases k with
  | zero=>simp at h;subst h;simp only [Yr];omega
  | succ k=>have:=ih (k:=k) (by simpa using h);have:=t.sz_pos;simp only [Yr];omega
theorem Dc {b:Z7} {k:Nat} {s:Z5} (h:b.steps[k]? = some s):k+s.sz<b.sz:=by have:=Zht h;have:=b.sz_eq;omega
structure Xv (n:ZF):Prop where
 decls:Xl n.decls
 len:n.routines.length<=4
 params:∀r∈n.routines,r.params.length<=3
 lent:∀r∈n.routines,r.lent.length<=4194304
theorem Xv.params_at {n:ZF} (h:Xv n) {k:Nat} {r:Yz} (hr:n.routines[k]? = some r):r.params.length<=3:=h.params r (Y4 hr)
theorem Xv.lent_at {n:ZF} (h:Xv n) {k:Nat} {r:Yz} (hr:n.routines[k]? = some r):r.lent.length<=4194304:=h.lent r (Y4 hr)
theorem Z47 {ds:List Zc} {num:Int} {k:Nat} {x:Int} (h:(ZU ds num)[k]? = some x):(W1 ds 8 num)[k]? = some (ZO ds x):=by
 rw [W1,Za om,Jo,h];rfl
end Go.Abs
namespace Go.Abs
theorem D0 {ds:List Zc} (hd:Xl ds) (t:Int):(ZU ds t).length<=3:=by
 rw [ZU]
 split
 ·rename_i h
  obtain ⟨d,hd1⟩:=BZ (xs:=ds) (j:=(t-1).toNat) om
  rw [hd1,Zcy]
  exact hd.cons_at hd1
 ·simp
theorem V8 {ds:List Zc} (hd:Xl ds) (c:Int):(ZO ds c).length<=3:=by
 by_cases h:Wd ds c<1
 ·rw [(NW h).1];simp
 ·obtain ⟨k,d,x,h1,_,h3,_,h5⟩:=IQ h
  rw [h5];exact hd.fields_at h1 h3
theorem Nx {ds:List Zc} (hd:Xl ds) {op num:Int} {k:Nat} {m:LI} (h:(W1 ds op num)[k]? = some m):m.length<=3:=by
 have hm:=Y4 h
 rw [W1] at hm
 split at hm
 ·simp at hm;subst hm;simp
 ·obtain ⟨c,_,rfl⟩:=XA.1 hm;exact V8 hd c
theorem KY {α:Type} {xs:List α} {x:α} (h:xs.length=1) (hx:xs[0]? = some x):xs=[x]:=by
 cases xs with
 | nil=>simp at h
 | cons a r=>
  cases r with
  | nil=>simp at hx;rw [hx]
  | cons b r=>simp at h
theorem Dt {ds:List Zc} {us args:LI} {op:Int} (h:args.length≠1):KZ ds us op args=-1:=by
 cases args with
 | nil=>rfl
 | cons a r=>
  cases r with
  | nil=>simp at h
  | cons b r=>rfl
theorem Du {ds:List Zc} {us args:LI} {op a:Int} (h:args=[a]) (hi:¬(0<=a/\a<=(us.length:Int)-1)):KZ ds us op args=-1:=by
 subst h;rw [KZ];simp only [B1 hi]
theorem Ds {ds:List Zc} {us args:LI} {op a t:Int} (h:args=[a]) (hi:0<=a/\a<=(us.length:Int)-1) (ht:us[a.toNat]? = some t) :
  KZ ds us op args=if t=0 then -1 else if (op≠14/\op≠15)/\VU ds t=true then -1 else 0:=by
 subst h;rw [KZ];simp only [BH hi ht]
theorem Zf7 {n:ZF} {us args:LI} {op num:Int} {r:Yz} (hi:0<=num/\num<=(n.routines.length:Int)-1) (hr:n.routines[num.toNat]? = some r) :
  Kl n us op num args=Cc n.decls us op args r:=by
 rw [Kl];simp only [BH hi hr]
theorem Zf8 {n:ZF} {us args:LI} {op num:Int} (hi:¬(0<=num/\num<=(n.routines.length:Int)-1)):Kl n us op num args=-1:=by
 rw [Kl];simp only [B1 hi]
theorem Za3 {xs:LI} {x:Int} (h:xs[xs.length-1]? = some x):xs.getLast?.getD 0=x:=by
 rw [List.getLast?_eq_getElem?,h];rfl
theorem Zbw {n:ZF} {us:LI} {bs:List Z7} {ms:List LI} {b:Z7} {m:LI} {k:Nat} {t:Int} (hb:bs[k]? = some b) (hm:ms[k]? = some m)
  (h:¬(W2 n (us++m) b<0∨(k:Int)>0/\W2 n (us++m) b≠t)) :
  QI n us (bs.drop k) (ms.drop k) (decide (k=0)) t=QI n us (bs.drop (k+1)) (ms.drop (k+1)) (decide (k+1=0)) (W2 n (us++m) b):=by
 rw [Yj hb,Yj hm,QI,Za]
 ·simp
 ·rintro (q|⟨q1,q2⟩)
  ·exact h (.inl q)
  ·exact h (.inr ⟨by simp at q1;omega,q2⟩)
theorem Zbu {n:ZF} {us:LI} {bs:List Z7} {ms:List LI} {b:Z7} {m:LI} {k:Nat} {t:Int} (hb:bs[k]? = some b) (hm:ms[k]? = some m)
  (h:W2 n (us++m) b<0∨(k:Int)>0/\W2 n (us++m) b≠t) :
  QI n us (bs.drop k) (ms.drop k) (decide (k=0)) t=-1:=by
 rw [Yj hb,Yj hm,QI,Zf]
 rcases h with q|⟨q1,q2⟩
 ·exact .inl q
 ·exact .inr ⟨by simp;omega,q2⟩
theorem Zbv {n:ZF} {us:LI} {bs:List Z7} {ms:List LI} {k:Nat} {f:Bool} {t:Int} (hb:bs.length<=k):QI n us (bs.drop k) (ms.drop k) f t=t:=by
 rw [Xj hb,QI]
end Go.Abs
end
namespace Go.Abs
theorem MU (n:ZF) (us:LI) (s:Z5):YZ n us s =
  if (s.num≠0/\¬Qo s.op=true)∨¬Qh us s.op s.into=true∨(0<s.kids.length/\s.op≠7/\s.op≠8) then -1
  else if s.op=0 then (if s.args.length=0/\(-999<=s.num/\s.num<=999) then 0 else -1)
  else if s.op=1∨s.op=2∨s.op=3∨s.op=4 then (if V0 us s.args [0,0]=true then 0 else -1)
  else if s.op=5 then (if V0 us s.args [0]=true then 0 else -1)
  else if s.op=6 then (if 0<Wd n.decls s.num/\V0 us s.args (ZO n.decls s.num)=true then Wd n.decls s.num else -1)
  else if s.op=7 then (if V0 us s.args [0]=true then JK n us s.op s.num s.kids else -1)
  else if s.op=8 then (if V0 us s.args [s.num]=true then JK n us s.op s.num s.kids else -1)
  else if s.op=9∨s.op=10 then Kl n us s.op s.num s.args
  else if s.op=11 then KX n.decls us s.args
  else if s.op=14∨s.op=15∨s.op=16∨s.op=17 then KZ n.decls us s.op s.args
  else -1:=by
 cases s with
 | mk op num into args kids=>rw [YZ];rfl
theorem IE (n:ZF) (us:LI) (b:Z7):W2 n us b=match Uw n b.steps us with
  | none=>-1
  | some vs=>(WY vs b.result).getD (-1):=by
 cases b with
 | mk st r=>rw [W2];rfl
theorem Nv {α:Type} {xs:List α} {x:α} (h:xs.length=2) (hx:xs[0]? = some x):∃y,xs=[x,y]:=by
 match xs,h with
 | [a,b],_=>simp at hx;subst hx;exact ⟨b,rfl⟩
theorem UO {ds:List Zc} {us args:LI} (h:args.length≠2):KX ds us args=-1:=by
 match args,h with
 | [],_=>rfl
 | [_],_=>rfl
 | [_,_],h=>simp at h
 | _::_::_::_,_=>rfl
theorem UP {ds:List Zc} {us args:LI} {a:Int} (hl:args.length=2) (h:args[0]? = some a) (hi:¬(0<=a/\a<=(us.length:Int)-1)):KX ds us args=-1:=by
 obtain ⟨y,rfl⟩:=Nv hl h;rw [KX];simp only [B1 hi]
theorem Uz {ds:List Zc} {us args:LI} {a t:Int} (hl:args.length=2) (h:args[0]? = some a) (hi:0<=a/\a<=(us.length:Int)-1) (ht:us[a.toNat]? = some t) :
  KX ds us args=if VU ds t=true then
    (match ds[(t-1).toNat]? with
     | some d=>if V0 us (args.drop 1) [d.frm]=true then d.to_ else -1
     | none=>-1) else -1:=by
 obtain ⟨y,rfl⟩:=Nv hl h;rw [KX];simp only [BH hi ht];rfl
theorem Z3z {ds:List Zc} {us args:LI} {a t:Int} {d:Zc} (hl:args.length=2) (h:args[0]? = some a) (hi:0<=a/\a<=(us.length:Int)-1) (ht:us[a.toNat]? = some t)
  (hA:VU ds t=true) (hd:ds[(t-1).toNat]? = some d):KX ds us args=if V0 us (args.drop 1) [d.frm]=true then d.to_ else -1:=by
 rw [Uz hl h hi ht,Zf hA];simp only [hd]
theorem LU {ds:List Zc} {t:Int} (h:VU ds t=true):1<=t/\t<=ds.length:=by
 simp only [VU,X1,decide_eq_true_eq] at h;exact h.1
theorem Zce (b:Z7) (l:Int):Tg b l=JM b.steps l:=by cases b;rw [Tg];rfl
theorem RJ (s:Z5) (l:Int):C3 s l=Aw s.kids l:=by cases s;rw [C3];rfl
structure A4 (n:ZF):Prop where
 decls:TB n.decls
 len:n.routines.length<=4194304
 params:∀r∈n.routines,r.params.length<=4194304
 lent:∀r∈n.routines,r.lent.length<=4194304
 body:∀r∈n.routines,r.body.sz<=10000000
theorem FK {m:Nat} {fs:List Sg} (h:Jd m fs=true):∀f∈fs,Kn m f=true:=by
 induction fs with
 | nil=>simp
 | cons f r ih=>
  rw [Jd] at h
  split at h
  ·rename_i h1
   intro g hg
   rcases X0.1 hg with rfl|hg
   ·exact h1
   ·exact ih h g hg
  ·cases h
theorem S2 {n:ZF} (hz:A4 n) (h:Ay n=true):Xv n:=by
 simp only [Ay,Ug,X1,decide_eq_true_eq] at h
 obtain ⟨h1,⟨h2,h3,h4,h5⟩,h6⟩:=h
 refine ⟨I8 h2,h1,fun r hr=>?_,hz.lent⟩
 have:=FK h4 (Qe r) (XA.2 ⟨r,hr,rfl⟩)
 simp only [Kn,X1,decide_eq_true_eq] at this
 exact this.1
def gI (xs:LI) (i:Int):Int:=xs[i.toNat]?.getD 0
theorem Te {xs:LI} {i:Int} {x:Int} (h:xs[i.toNat]? = some x):gI xs i=x:=by rw [gI,h];rfl
structure ZK where
 vars:LI
 own:LI
 par:LI
 con:LI
 fst:LI
 tok:LI
def ZK.grow (L:ZK) (t own par:Int):ZK:=⟨L.vars++[t],L.own++[own],L.par++[par],L.con++[-1],L.fst++[-1],L.tok++[-1]⟩
def Qg (L:ZK) (v:Int):Option ZK:=if gI L.own v<1 then none else some { L with own:=L.own.set v.toNat (gI L.own v-1) }
def QV (own par ln:LI):Nat->Int->Bool
 | 0,_=>false
 | k+1,v=>if gI own v<1/\¬v∈ln then (if gI par v<0 then false else QV own par ln k (gI par v)) else true
def T3 (L:ZK) (ln:LI) (v:Int):Bool:=QV L.own L.par ln (v.toNat+1) v
def QB:LI->Int->LI->LI
 | own,_,[]=>own
 | own,p,f::r=>QB (if f≠0 then own.set p.toNat (gI own p+1) else own) (p+1) r
def Az (ds:List Zc) (L:ZK) (op x:Int):Option ZK:=
 if gI L.con x<0∨(op=17/\0<=gI L.tok x) then none
 else match Qg L x with
  | none=>none
  | some L1=>some { L1 with
    own:=QB L1.own (gI L.fst x) (ZO ds (gI L.con x))
    tok:=if op=17 then L.tok.set x.toNat (ZO ds (gI L.con x)).length else L.tok }
def Ah (op:Int):Bool:=op==6||(op==9||(op==10||op==11))
def DV (n:ZF) (op num:Int):LI:=if op=9 then ((n.routines[num.toNat]?).map (·.lent)).getD [] else []
def UU (n:ZF) (op num:Int) (i:Nat):Bool:=decide ((i:Int)∈DV n op num)
def Jx (n:ZF) (vars:LI) (op num a:Int) (i:Nat):Bool:=Ah op&&(gI vars a != 0&&!UU n op num i)
def KD (n:ZF) (op num:Int):LI->Nat->ZK->Option ZK
 | [],_,L=>some L
 | a::r,i,L=>if Jx n L.vars op num a i=true then (match Qg L a with
   | none=>none
   | some L1=>KD n op num r (i+1) L1) else KD n op num r (i+1) L
def C0 (n:ZF) (op num:Int) (ln:LI) (L:ZK):LI->Nat->Bool
 | [],_=>true
 | a::r,i=>if UU n op num i=true/\¬T3 L ln a=true then false else C0 n op num ln L r (i+1)
def ER (L:ZK) (into:Int) (m:Nat):Option ZK:=
 if 0<into then (if gI L.tok (into-1)≠m then none else some { L with tok:=L.tok.set (into-1).toNat (-1) }) else some L
def JB (n:ZF) (ln:LI) (L:ZK) (op num into:Int) (args:LI):Option ZK:=
 match KD n op num args 0 L with
 | none=>none
 | some L1=>if C0 n op num ln L1 args 0=true then ER L1 into args.length else none
def Ck:LI->LI->Bool
 | o::os,t::ts=>if o≠0∨0<=t then false else Ck os ts
 | _,_=>true
def ZK.take (L:ZK) (m:Nat):ZK:=⟨L.vars.take m,L.own.take m,L.par.take m,L.con.take m,L.fst.take m,L.tok.take m⟩
def Jy (L:ZK) (m:Nat):Option ZK:=if Ck (L.own.drop m) (L.tok.drop m)=true then some (L.take m) else none
def CJ (L:ZK) (par:Int):LI->ZK
 | []=>L
 | t::r=>CJ (L.grow t 0 par) par r
def Cx (ds:List Zc) (L:ZK) (x c:Int):ZK:=
 CJ { L with con:=L.con.set x.toNat c,fst:=L.fst.set x.toNat L.vars.length } x (ZO ds c)
def TJ (ds:List Zc) (L:ZK) (op num:Int) (args:LI) (i:Nat):ZK:=
 if op=8 then Cx ds L (gI args 0) (gI (ZU ds num) i) else L
def Bm (lent:LI):LI->Nat->ZK->ZK
 | [],_,L=>L
 | t::r,i,L=>Bm lent r (i+1) (L.grow t (if t≠0/\¬(i:Int)∈lent then 1 else 0) (-1))
def KI (r:Yz):ZK:=Bm r.lent r.params 0 ⟨[],[],[],[],[],[]⟩
def CC (L:ZK) (ln:LI) (v:Int):Option ZK:=if T3 L ln v=true then some { L with own:=L.own.set v.toNat (gI L.own v+1) } else none
def JT (n:ZF) (ln:LI) (L:ZK) (op num into:Int) (args:LI) (ch:Option ZK):Option ZK:=
 if op=14 then CC L ln (gI args 0)
 else if op=15 then Qg L (gI args 0)
 else if op=16∨op=17 then Az n.decls L op (gI args 0)
 else if op=7∨op=8 then (if op=8/\¬T3 L ln (gI args 0)=true then none else ch)
 else JB n ln L op num into args
def Aq (L:ZK) (op t:Int) (r:Option ZK):Option ZK:=
 match r with
 | none=>none
 | some L1=>if Xd op=true then some (L1.grow t (if t≠0 then 1 else 0) (-1)) else some L1
def CV (L:ZK) (first:Option ZK) (rest:ZK->Bool):Option ZK:=
 match first with
 | none=>none
 | some one=>if rest one=true then some { L with own:=one.own,tok:=one.tok } else none
def HP (one:ZK) (two:Option ZK) (rest:Bool):Bool:=
 match two with
 | none=>false
 | some two=>if one.own=two.own/\one.tok=two.tok then rest else false
def FW (r:Option ZK) (f:ZK->Option ZK):Option ZK:=match r with|none=>none|some L=>f L
def Ao (m:Nat) (res:Int) (L:ZK):Option ZK:=FW (if gI L.vars res≠0 then Qg L res else some L) fun L2=>Jy L2 m
mutual
def QO (n:ZF) (ln:LI) (L:ZK):Z5->Option ZK
 | .mk op num into args kids=>Aq L op (YZ n L.vars (.mk op num into args kids)) (JT n ln L op num into args (J8 n ln L op num args kids))
def J8 (n:ZF) (ln:LI) (L:ZK) (op num:Int) (args:LI):List Z7->Option ZK
 | []=>none
 | b::bs=>CV L (U1 n ln (TJ n.decls L op num args 0) L.vars.length b) fun one=>JJ n ln L op num args one bs 1
def JJ (n:ZF) (ln:LI) (L:ZK) (op num:Int) (args:LI) (one:ZK):List Z7->Nat->Bool
 | [],_=>true
 | b::bs,i=>HP one (U1 n ln (TJ n.decls L op num args i) L.vars.length b) (JJ n ln L op num args one bs (i+1))
def JU (n:ZF) (ln:LI) (L:ZK):List Z5->Option ZK
 | []=>some L
 | s::r=>FW (QO n ln L s) fun L1=>JU n ln L1 r
def U1 (n:ZF) (ln:LI) (L:ZK) (m:Nat):Z7->Option ZK
 | .mk steps result=>FW (JU n ln L steps) (Ao m result)
end
theorem Z24 (n:ZF) (ln:LI) (L:ZK) (s:Z5):QO n ln L s=Aq L s.op (YZ n L.vars s) (JT n ln L s.op s.num s.into s.args (J8 n ln L s.op s.num s.args s.kids)):=by
 cases s with
 | mk op num into args kids=>rw [QO];rfl
theorem ID (n:ZF) (ln:LI) (L:ZK) (m:Nat) (b:Z7):U1 n ln L m b=FW (JU n ln L b.steps) (Ao m b.result):=by
 cases b with
 | mk st r=>rw [U1];rfl
def Z4c (n:ZF) (r:Yz):Bool:=
 match U1 n r.lent (KI r) r.params.length r.body with
 | none=>false
 | some L=>(Jy L 0).isSome
def NF (n:ZF):List Yz->Bool
 | []=>true
 | r::rs=>if Z4c n r=true then NF n rs else false
def Z4d (n:ZF):Bool:=Ks n&&NF n n.routines
structure Tn (L:ZK):Prop where
 own:L.own.length=L.vars.length
 par:L.par.length=L.vars.length
 con:L.con.length=L.vars.length
 fst:L.fst.length=L.vars.length
 tok:L.tok.length=L.vars.length
structure XH (ds:List Zc) (L:ZK) (q:Int):Prop where
 len:Tn L
 down:∀j:Int,0<=j->j<L.vars.length->gI L.par j<j
 arm:∀x:Int,0<=x->x<L.vars.length->0<=gI L.con x->0<=gI L.fst x/\gI L.fst x+(ZO ds (gI L.con x)).length<=L.vars.length
 nn:∀x∈L.own,0<=x
 bd:∀x∈L.own,x<=q
end Go.Abs
section
namespace Go.Abs
end Go.Abs
namespace Go.Abs
theorem Zcg {n:ZF} {op num:Int} {r:Yz} (h:op=9) (hr:n.routines[num.toNat]? = some r):DV n op num=r.lent:=by
 rw [DV,Zf h,hr];rfl
end Go.Abs
namespace Go.Abs
theorem Z3m {own par ln:LI} {N:Int} (hd:∀j:Int,0<=j->j<N->gI par j<j):∀(k:Nat) (v:Int),0<=v->v<N->v.toNat+1<=k->QV own par ln k v=QV own par ln (v.toNat+1) v:=by
 intro k
 induction k using Nat.strongRecOn with
 | ind k ih=>
  intro v h0 hN hk
  cases k with
  | zero=>omega
  | succ k=>
   rw [QV,QV]
   split
   ·split
    ·rfl
    ·have hdv:=hd v h0 hN
     rw [ih k om (gI par v) om om om]
     rw [ih v.toNat om (gI par v) om om om]
   ·rfl
theorem Z3o {own par ln:LI} {N j x1 x2:Int} {r:Bool} (h1:gI own j=x1) (h2:gI par j=x2) (hj:0<=j/\j<N) (hx:x1<1/\¬j∈ln) (h0:¬x2<0) (hd:∀i:Int,0<=i->i<N->gI par i<i)
  (h:QV own par ln (j.toNat+1) j=r):QV own par ln (x2.toNat+1) x2=r:=by
 rw [QV,h1,h2,Zf hx,Za h0] at h
 have hdv:=hd j hj.1 hj.2
 rw [<-h,Z3m hd j.toNat x2 om om om]
theorem Z3n {own par ln:LI} {j x1 x2:Int} {r:Bool} (h1:gI own j=x1) (h2:gI par j=x2) (hx:x1<1/\¬j∈ln) (h0:x2<0) (h:QV own par ln (j.toNat+1) j=r):false=r:=by
 rw [QV,h1,h2,Zf hx,Zf h0] at h;exact h
theorem Z3p {own par ln:LI} {j x1:Int} {r:Bool} (h1:gI own j=x1) (hx:¬(x1<1/\¬j∈ln)) (h:QV own par ln (j.toNat+1) j=r):true=r:=by
 rw [QV,h1,Za hx] at h;exact h
end Go.Abs
namespace Go.Abs
theorem JV {L L':ZK} {v:Int} (h:Qg L v=some L'):1<=gI L.own v/\L'.vars=L.vars/\L'.par=L.par/\L'.con=L.con/\L'.fst=L.fst/\L'.tok=L.tok/\L'.own=L.own.set v.toNat (gI L.own v-1):=by
 rw [Qg] at h
 split at h
 ·cases h
 ·cases h;exact ⟨by omega,rfl,rfl,rfl,rfl,rfl,rfl⟩
theorem GV {xs:LI} {v:Int} (h:gI xs v≠0):gI xs v∈xs:=by
 rw [gI] at h ⊢
 cases hx:xs[v.toNat]? with
 | none=>rw [hx] at h;exact absurd rfl h
 | some y=>exact Y4 hx
theorem JP {xs:LI} {i:Nat} {a x:Int} (h:x∈xs.set i a):x∈xs∨x=a:=List.mem_or_eq_of_mem_set h
theorem XH.take {ds:List Zc} {L L':ZK} {q v:Int} (hk:XH ds L q) (h:Qg L v=some L'):XH ds L' q:=by
 obtain ⟨t1,t2,t3,t4,t5,t6,t7⟩:=JV h
 obtain ⟨f1,f2,f3,f4,f5⟩:=hk.len
 have hm:=GV (xs:=L.own) (v:=v) om
 refine ⟨⟨by rw [t7,t2,TM];exact f1,by rw [t3,t2];exact f2,by rw [t4,t2];exact f3,by rw [t5,t2];exact f4,by rw [t6,t2];exact f5⟩,?_,?_,?_,?_⟩
 ·rw [t2,t3];exact hk.down
 ·rw [t2,t4,t5];exact hk.arm
 ·rw [t7];intro x hx
  rcases JP hx with hx|rfl
  ·exact hk.nn x hx
  ·omega
 ·rw [t7];intro x hx
  rcases JP hx with hx|rfl
  ·exact hk.bd x hx
  ·have:=hk.bd _ hm;omega
end Go.Abs
end
namespace Go.Abs
theorem N0 {us:LI}:∀{args tys:LI},KQ us args tys=true->args.length=tys.length/\∀a∈args,0<=a/\a<us.length
 | [],[],_=>⟨rfl,by simp⟩
 | [],_::_,h=>by cases h
 | _::_,[],h=>by cases h
 | a::as1,t::ts,h=>by
  rw [KQ] at h
  split at h
  ·rename_i h1
   obtain ⟨q1,q2⟩:=N0 h
   refine ⟨by simp [q1],fun x hx=>?_⟩
   rcases X0.1 hx with rfl|hx
   ·have:=(BI h1).1;omega
   ·exact q2 x hx
  ·cases h
theorem Ru {n:ZF} {us:LI}:∀{bs:List Z7} {ms:List LI} {f:Bool} {t:Int},0<=t->0<=QI n us bs ms f t ->
  ∀(i:Nat) (b:Z7) (m:LI),bs[i]? = some b->ms[i]? = some m->0<=W2 n (us++m) b
 | [],_,_,_,_,_,i,b,m,hb,_=>by simp at hb
 | b::bs,[],_,_,_,h,_,_,_,_,hm=>by simp at hm
 | b::bs,m::ms,f,t,ht,h,i,c,l,hc,hl=>by
  rw [QI] at h
  split at h
  ·omega
  ·rename_i hq
   have h0:0<=W2 n (us++m) b:=by
    rcases Int.lt_or_le (W2 n (us++m) b) 0 with q|q
    ·exact absurd (.inl q) hq
    ·exact q
   cases i with
   | zero=>simp at hc hl;subst hc hl;exact h0
   | succ i=>exact Ru h0 h i c l (by simpa using hc) (by simpa using hl)
structure Cs (n:ZF) (us:LI) (s:Z5):Prop where
 args:∀a∈s.args,0<=a/\a<us.length
 one:(s.op=7∨s.op=8∨(14<=s.op/\s.op<=17))->∃a,s.args=[a]
 num:s.op=9->0<=s.num/\s.num<n.routines.length
 into:s.into≠0->1<=s.into/\s.into<=us.length
 kids:(s.op=7∨s.op=8)->s.kids.length=(W1 n.decls s.op s.num).length/\(W1 n.decls s.op s.num).length≠0 /\
  ∀(i:Nat) (b:Z7) (m:LI),s.kids[i]? = some b->(W1 n.decls s.op s.num)[i]? = some m->0<=W2 n (us++m) b
theorem Zbt {n:ZF} {us:LI} {op num:Int} {kids:List Z7} (h:0<=JK n us op num kids) :
  kids.length=(W1 n.decls op num).length/\(W1 n.decls op num).length≠0/\∀(i:Nat) (b:Z7) (m:LI),kids[i]? = some b->(W1 n.decls op num)[i]? = some m->0<=W2 n (us++m) b:=by
 rw [JK] at h
 split at h
 ·omega
 ·rename_i hq
  exact ⟨by omega,by omega,Ru (Int.le_refl 0) h⟩
theorem RQ {xs:LI} (h:xs.length=1):∃a,xs=[a]:=by
 match xs,h with
 | [a],_=>exact ⟨a,rfl⟩
theorem Z26 {n:ZF} {us:LI} {s:Z5} (h:0<=YZ n us s):Cs n us s:=by
 rw [MU] at h
 split at h
 ·omega
 rename_i h0
 have hinto:s.into≠0->1<=s.into/\s.into<=us.length:=by
  intro hi
  have hv:Qh us s.op s.into=true:=by
   cases q:Qh us s.op s.into with
   | true=>rfl
   | false=>exact absurd (.inr (.inl (by rw [q];simp))) h0
  rw [Qh,Za hi] at hv
  split at hv
  ·cases ha:WY us (s.into-1) with
   | none=>rw [ha] at hv;cases hv
   | some t=>have:=(BI ha).1;omega
  ·cases hv
 have mk:(∀a∈s.args,0<=a/\a<us.length)->((s.op=7∨s.op=8∨(14<=s.op/\s.op<=17))->∃a,s.args=[a])->(s.op=9->0<=s.num/\s.num<n.routines.length) ->
   ((s.op=7∨s.op=8)->0<=JK n us s.op s.num s.kids)->Cs n us s:=fun a b c d=>⟨a,b,c,hinto,fun q=>Zbt (d q)⟩
 have ty:∀{tys},V0 us s.args tys=true->s.args.length=tys.length/\∀a∈s.args,0<=a/\a<us.length:=fun q=>N0 q
 split at h
 ·rename_i h1
  split at h
  ·rename_i h2
   exact mk (by rw [List.eq_nil_of_length_eq_zero h2.1];simp) om om om
  ·omega
 split at h
 ·split at h
  ·rename_i h1 h2;exact mk (ty h2).2 om om om
  ·omega
 split at h
 ·split at h
  ·rename_i h1 h2;exact mk (ty h2).2 om om om
  ·omega
 split at h
 ·split at h
  ·rename_i h1 h2;exact mk (ty h2.2).2 om om om
  ·omega
 split at h
 ·split at h
  ·rename_i h1 h2;exact mk (ty h2).2 (fun _=>RQ (by simpa using (ty h2).1)) om (fun _=>h)
  ·omega
 split at h
 ·split at h
  ·rename_i h1 h2;exact mk (ty h2).2 (fun _=>RQ (by simpa using (ty h2).1)) om (fun _=>h)
  ·omega
 split at h
 ·rename_i hop
  rw [Kl] at h
  cases hr:WY n.routines s.num with
  | none=>rw [hr] at h;simp at h
  | some r=>
   rw [hr] at h
   simp only at h
   have hn:=(BI hr).1
   rw [Cc] at h
   split at h
   ·split at h
    ·rename_i h2;exact mk (ty h2).2 om om om
    ·omega
   ·split at h
    ·omega
    ·rename_i h2
     have h3:V0 us s.args (r.params.take (r.params.length-1))=true:=by
      cases q:V0 us s.args (r.params.take (r.params.length-1)) with
      | true=>rfl
      | false=>exact absurd (.inr (.inr (by rw [q];simp))) h2
     exact mk (ty h3).2 om om om
 split at h
 ·rename_i hop
  rcases he:s.args with _|⟨a,_|⟨b,_|⟨c,r⟩⟩⟩
  ·rw [he,show KX n.decls us []=-1 from rfl] at h;omega
  ·rw [he,show KX n.decls us [a]=-1 from rfl] at h;omega
  ·rw [he,KX] at h
   cases ha:WY us a with
   | none=>rw [ha] at h;simp at h
   | some t=>
    rw [ha] at h
    simp only at h
    split at h
    ·cases hd:n.decls[(t-1).toNat]? with
     | none=>rw [hd] at h;simp at h
     | some d=>
      rw [hd] at h
      simp only at h
      split at h
      ·rename_i h3
       have h4:=(N0 h3).2 b (by simp)
       have h5:=(BI ha).1
       refine mk (fun x hx=>?_) om om om
       rw [he] at hx
       rcases X0.1 hx with rfl|hx
       ·omega
       ·rw [Xs.1 hx];exact h4
      ·omega
    ·omega
  ·rw [he,show KX n.decls us (a::b::c::r)=-1 from rfl] at h;omega
 split at h
 ·rename_i hop
  rcases he:s.args with _|⟨a,_|⟨b,r⟩⟩
  ·rw [he,show KZ n.decls us s.op []=-1 from rfl] at h;omega
  ·rw [he,KZ] at h
   cases ha:WY us a with
   | none=>rw [ha] at h;simp at h
   | some t=>
    have h5:=(BI ha).1
    refine mk (fun x hx=>?_) (fun _=>⟨a,he⟩) om om
    rw [he] at hx
    rw [Xs.1 hx];omega
  ·rw [he,show KZ n.decls us s.op (a::b::r)=-1 from rfl] at h;omega
 ·omega
def Km (n:ZF) (us:LI) (s:Z5):LI:=if Xd s.op=true then us++[YZ n us s] else us
theorem Oc {L L':ZK} {ln:LI} {v:Int} (h:CC L ln v=some L'):L'.vars=L.vars/\L'.par=L.par/\L'.con=L.con/\L'.fst=L.fst/\L'.tok=L.tok/\L'.own=L.own.set v.toNat (gI L.own v+1):=by
 rw [CC] at h
 split at h
 ·cases h;exact ⟨rfl,rfl,rfl,rfl,rfl,rfl⟩
 ·cases h
theorem Iw:∀(fs:LI) (own:LI) (p:Int),(QB own p fs).length=own.length
 | [],own,p=>rfl
 | f::r,own,p=>by rw [QB,Iw r];split<;>simp
theorem LA {xs:LI} {q v:Int} (h:∀x∈xs,x<=q) (hq:0<=q):gI xs v<=q:=by
 by_cases h0:gI xs v=0
 ·omega
 ·exact h _ (GV h0)
theorem LD {xs:LI} {v:Int} (h:∀x∈xs,0<=x):0<=gI xs v:=by
 by_cases h0:gI xs v=0
 ·omega
 ·exact h _ (GV h0)
theorem Ix:∀(fs:LI) (own:LI) (p:Int),(∀x∈own,0<=x)->∀x∈QB own p fs,0<=x
 | [],own,p,h=>h
 | f::r,own,p,h=>by
  rw [QB]
  refine Ix r _ _ fun x hx=>?_
  split at hx
  ·rcases JP hx with hx|rfl
   ·exact h x hx
   ·have:=LD (v:=p) h;omega
  ·exact h x hx
theorem Iv:∀(fs:LI) (own:LI) (p q:Int),0<=q->(∀x∈own,x<=q)->∀x∈QB own p fs,x<=q+fs.length
 | [],own,p,q,hq,h=>by intro x hx;have:=h x hx;simp;omega
 | f::r,own,p,q,hq,h=>by
  intro x hx
  rw [QB] at hx
  have:=Iv r _ _ (q+1) om (fun y hy=>by
   split at hy
   ·rcases JP hy with hy|rfl
    ·have:=h y hy;omega
    ·have:=LA (v:=p) h hq;omega
   ·have:=h y hy;omega) x hx
  simp only [Ys];omega
theorem Sn {ds:List Zc} {L L':ZK} {op v:Int} (h:Az ds L op v=some L'):L'.vars=L.vars/\L'.par=L.par/\L'.con=L.con/\L'.fst=L.fst/\L'.tok.length=L.tok.length /\
  ∃L1,Qg L v=some L1/\L'.own=QB L1.own (gI L.fst v) (ZO ds (gI L.con v)):=by
 rw [Az] at h
 split at h
 ·cases h
 ·cases ht:Qg L v with
  | none=>rw [ht] at h;cases h
  | some L1=>
   rw [ht] at h
   simp only at h
   obtain ⟨t1,t2,t3,t4,t5,t6,t7⟩:=JV ht
   cases h
   refine ⟨t2,t3,t4,t5,?_,L1,rfl,rfl⟩
   split
   ·rw [TM]
   ·rfl
theorem LJ {n:ZF} {op num:Int} {ds:List Zc} {q:Int}:∀{as1:LI} {i:Nat} {L L':ZK},XH ds L q->KD n op num as1 i L=some L'->XH ds L' q/\L'.vars=L.vars/\L'.par=L.par/\L'.con=L.con/\L'.fst=L.fst/\L'.tok=L.tok
 | [],i,L,L',hk,h=>by rw [KD] at h;cases h;exact ⟨hk,rfl,rfl,rfl,rfl,rfl⟩
 | a::r,i,L,L',hk,h=>by
  rw [KD] at h
  split at h
  ·cases ht:Qg L a with
   | none=>rw [ht] at h;cases h
   | some L1=>
    rw [ht] at h
    obtain ⟨t1,t2,t3,t4,t5,t6,t7⟩:=JV ht
    obtain ⟨k1,k2,k3,k4,k5,k6⟩:=LJ (hk.take ht) h
    exact ⟨k1,k2.trans t2,k3.trans t3,k4.trans t4,k5.trans t5,k6.trans t6⟩
  ·exact LJ hk h
theorem XH.le {ds:List Zc} {L:ZK} {q q':Int} (h:XH ds L q) (hq:q<=q'):XH ds L q':=⟨h.len,h.down,h.arm,h.nn,fun x hx=>Int.le_trans (h.bd x hx) hq⟩
theorem XH.turn {ds:List Zc} {L L':ZK} {q q':Int} (hk:XH ds L q) (h1:L'.vars=L.vars) (h2:L'.par=L.par) (h3:L'.con=L.con) (h4:L'.fst=L.fst) (h5:L'.tok.length=L.tok.length) (h6:L'.own.length=L.own.length)
  (h7:∀x∈L'.own,0<=x) (h8:∀x∈L'.own,x<=q'):XH ds L' q':=by
 obtain ⟨f1,f2,f3,f4,f5⟩:=hk.len
 refine ⟨⟨by rw [h6,h1];exact f1,by rw [h2,h1];exact f2,by rw [h3,h1];exact f3,by rw [h4,h1];exact f4,by rw [h5,h1];exact f5⟩,?_,?_,h7,h8⟩
 ·rw [h1,h2];exact hk.down
 ·rw [h1,h3,h4];exact hk.arm
theorem DM {xs ys:LI} {j:Int} (h:j.toNat<xs.length):gI (xs++ys) j=gI xs j:=by
 rw [gI,gI,A1 h]
theorem Pn {xs:LI} {y:Int} {j:Int} (h:j.toNat=xs.length):gI (xs++[y]) j=y:=by
 rw [gI,h];simp
theorem XH.grow {ds:List Zc} {L:ZK} {q t o p:Int} (hk:XH ds L q) (hp:p<L.vars.length) (ho:0<=o/\o<=q):XH ds (L.grow t o p) q:=by
 obtain ⟨f1,f2,f3,f4,f5⟩:=hk.len
 refine ⟨⟨by simp [ZK.grow,f1],by simp [ZK.grow,f2],by simp [ZK.grow,f3],by simp [ZK.grow,f4],by simp [ZK.grow,f5]⟩,?_,?_,?_,?_⟩
 ·intro j hj hl
  simp only [ZK.grow,ZH,Jp] at hl ⊢
  by_cases hlt:j<L.vars.length
  ·rw [DM om];exact hk.down j hj hlt
  ·rw [Pn om];omega
 ·intro x hx hl
  simp only [ZK.grow,ZH,Jp] at hl ⊢
  by_cases hlt:x<L.vars.length
  ·rw [DM om,DM om]
   intro hc
   have:=hk.arm x hx hlt hc
   exact ⟨this.1,by omega⟩
  ·rw [Pn om];omega
 ·intro x hx
  simp only [ZK.grow,Xg,Xs] at hx
  rcases hx with hx|rfl
  ·exact hk.nn x hx
  ·exact ho.1
 ·intro x hx
  simp only [ZK.grow,Xg,Xs] at hx
  rcases hx with hx|rfl
  ·exact hk.bd x hx
  ·exact ho.2
theorem Po {xs:LI} {k:Nat} {a:Int} {j:Int} (h:xs.length<=j.toNat/\j.toNat<xs.length+k):gI (xs++List.replicate k a) j=a:=by
 rw [gI,Ek h.1,List.getElem?_replicate,Zf om];rfl
theorem Pp {xs:LI} {x j c:Int} (h:j.toNat=x.toNat) (hl:x.toNat<xs.length):gI (xs.set x.toNat c) j=c:=by
 rw [gI,h,List.getElem?_set_self hl];rfl
theorem Pq {xs:LI} {x j c:Int} (h:j.toNat≠x.toNat):gI (xs.set x.toNat c) j=gI xs j:=by
 rw [gI,gI,List.getElem?_set_ne (fun q=>h q.symm)]
theorem PK {p:Int}:∀(fs:LI) (L:ZK),CJ L p fs=⟨L.vars++fs,L.own++List.replicate fs.length 0,L.par++List.replicate fs.length p,L.con++List.replicate fs.length (-1),
  L.fst++List.replicate fs.length (-1),L.tok++List.replicate fs.length (-1)⟩
 | [],L=>by simp [CJ]
 | t::r,L=>by rw [CJ,PK r];simp [ZK.grow,En]
theorem Z45 {ds:List Zc} {L:ZK} {q x c:Int} (hk:XH ds L q) (hq:0<=q) (hx:0<=x/\x<L.vars.length):XH ds (Cx ds L x c) q/\(Cx ds L x c).vars=L.vars++ZO ds c:=by
 obtain ⟨f1,f2,f3,f4,f5⟩:=hk.len
 rw [Cx,PK]
 refine ⟨⟨⟨by simp [f1],by simp [f2],by simp [f3],by simp [f4],by simp [f5]⟩,?_,?_,?_,?_⟩,rfl⟩
 ·intro j hj hl
  simp only [ZH] at hl ⊢
  by_cases hlt:j<L.vars.length
  ·rw [DM om];exact hk.down j hj hlt
  ·rw [Po om];omega
 ·intro y hy hl
  simp only [ZH] at hl ⊢
  by_cases hlt:y<L.vars.length
  ·rw [DM (by simp;omega),DM (by simp;omega)]
   by_cases he:y.toNat=x.toNat
   ·rw [Pp he om,Pp he om]
    intro _
    exact ⟨by omega,by simp⟩
   ·rw [Pq he,Pq he]
    intro hc
    have:=hk.arm y hy hlt hc
    exact ⟨this.1,by omega⟩
  ·rw [Po (by simp;omega)];omega
 ·intro y hy
  simp only [Xg,List.mem_replicate] at hy
  rcases hy with hy|⟨_,rfl⟩
  ·exact hk.nn y hy
  ·exact Int.le_refl 0
 ·intro y hy
  simp only [Xg,List.mem_replicate] at hy
  rcases hy with hy|⟨_,rfl⟩
  ·exact hk.bd y hy
  ·exact hq
theorem Hf {n:ZF} {L:ZK} {q:Int} {s:Z5} {i:Nat} {m:LI} (hk:XH n.decls L q) (hq:0<=q) (hf:Cs n L.vars s) (hop:s.op=7∨s.op=8) (hm:(W1 n.decls s.op s.num)[i]? = some m) :
  XH n.decls (TJ n.decls L s.op s.num s.args i) q/\(TJ n.decls L s.op s.num s.args i).vars=L.vars++m:=by
 rw [TJ]
 split
 ·rename_i h8
  obtain ⟨a,ha⟩:=hf.one om
  have hb:=hf.args a (by rw [ha];simp)
  have hg:gI s.args 0=a:=by rw [ha];rfl
  rw [W1,Za om,Jo] at hm
  cases hc:(ZU n.decls s.num)[i]? with
  | none=>rw [hc] at hm;cases hm
  | some c=>
   rw [hc] at hm
   cases hm
   have hgc:gI (ZU n.decls s.num) (i:Int)=c:=by rw [gI];simp [hc]
   rw [hg,hgc]
   exact Z45 hk hq hb
 ·rename_i h8
  rw [W1,Zf om] at hm
  have:m=[]:=by
   match i,hm with
   | 0,hm=>simpa using hm.symm
   | 1,hm=>simpa using hm.symm
   | i+2,hm=>simp at hm
  subst this
  exact ⟨hk,by simp⟩
theorem Z27 {n:ZF}:∀{l:List Z5} {us vs:LI},Uw n l us=some vs->us.length<=vs.length
 | [],us,vs,h=>by rw [Uw] at h;cases h;exact X2 _
 | s::r,us,vs,h=>by
  rw [Uw] at h
  split at h
  ·cases h
  ·have:=Z27 h
   split at this
   ·simp only [ZH,Jp] at this;omega
   ·exact this
theorem PL {n:ZF} {ln:LI} {L L':ZK} {op num into q:Int} {args:LI} {ds:List Zc} (hk:XH ds L q) (h:JB n ln L op num into args=some L'):XH ds L' q/\L'.vars=L.vars:=by
 rw [JB] at h
 cases ht:KD n op num args 0 L with
 | none=>rw [ht] at h;cases h
 | some L1=>
  rw [ht] at h
  simp only at h
  obtain ⟨k1,k2,k3,k4,k5,k6⟩:=LJ hk ht
  split at h
  ·rw [ER] at h
   split at h
   ·split at h
    ·cases h
    ·cases h
     exact ⟨k1.turn rfl rfl rfl rfl (by simp) rfl k1.nn k1.bd,k2⟩
   ·cases h;exact ⟨k1,k2⟩
  ·cases h
theorem Z5c {L L':ZK} {m:Nat} (h:Jy L m=some L'):L'=L.take m/\Ck (L.own.drop m) (L.tok.drop m)=true:=by
 rw [Jy] at h
 split at h
 ·rename_i hz;cases h;exact ⟨rfl,hz⟩
 ·cases h
theorem MZ {r:Option ZK} {f:ZK->Option ZK} {L:ZK} (h:FW r f=some L):∃L1,r=some L1/\f L1=some L:=by
 cases r with
 | none=>cases h
 | some L1=>exact ⟨L1,rfl,h⟩
theorem RG (n:ZF) (hn:Xv n) (ln:LI):∀m:Nat,
  (∀(s:Z5) (L L':ZK) (q:Int),s.sz<=m->XH n.decls L q->0<=q->0<=YZ n L.vars s->QO n ln L s=some L'->XH n.decls L' (q+4*s.sz)/\L'.vars=Km n L.vars s) /\
  (∀(b:Z7) (L O:ZK) (q:Int) (k:Nat),b.sz<=m->XH n.decls L q->0<=q->0<=W2 n L.vars b->k<=L.vars.length->U1 n ln L k b=some O ->
   (O.own.length=k/\O.tok.length=k/\(∀x∈O.own,0<=x/\x<=q+4*b.sz))/\Tn O/\O.vars.length=k):=by
 intro m
 induction m with
 | zero=>exact ⟨fun s _ _ _ h=>by have:=s.sz_pos;omega,fun s _ _ _ _ h=>by have:=s.sz_pos;omega⟩
 | succ m ih=>
  have hs:∀(s:Z5) (L L':ZK) (q:Int),s.sz<=m+1->XH n.decls L q->0<=q->0<=YZ n L.vars s->QO n ln L s=some L'->XH n.decls L' (q+4*s.sz)/\L'.vars=Km n L.vars s:=by
   intro s L L' q Xo hk hq hty h
   have hp:=s.sz_pos
   have hf:=Z26 hty
   obtain ⟨f1,f2,f3,f4,f5⟩:=hk.len
   rw [Z24] at h
   unfold Aq at h
   cases hpk:JT n ln L s.op s.num s.into s.args (J8 n ln L s.op s.num s.args s.kids) with
   | none=>rw [hpk] at h;cases h
   | some L1=>
    rw [hpk] at h
    simp only at h
    have key:XH n.decls L1 (q+4*s.sz)/\L1.vars=L.vars:=by
     rw [JT] at hpk
     split at hpk
     ·obtain ⟨d1,d2,d3,d4,d5,d6⟩:=Oc hpk
      refine ⟨hk.turn d1 d2 d3 d4 (by rw [d5]) (by rw [d6,TM]) ?_ ?_,d1⟩
      ·rw [d6];intro x hx
       rcases JP hx with hx|rfl
       ·exact hk.nn x hx
       ·have:=LD (v:=gI s.args 0) hk.nn;omega
      ·rw [d6];intro x hx
       rcases JP hx with hx|rfl
       ·have:=hk.bd x hx;omega
       ·have:=LA (v:=gI s.args 0) hk.bd hq;omega
     split at hpk
     ·exact ⟨(hk.take hpk).le om,(JV hpk).2.1⟩
     split at hpk
     ·rename_i hop
      obtain ⟨d1,d2,d3,d4,d5,Lt,ht,d6⟩:=Sn hpk
      have hkt:=hk.take ht
      have h3:=V8 hn.decls (gI L.con (gI s.args 0))
      refine ⟨hk.turn d1 d2 d3 d4 d5 ?_ ?_ ?_,d1⟩
      ·rw [d6,Iw,(JV ht).2.2.2.2.2.2,TM]
      ·rw [d6];exact Ix _ _ _ hkt.nn
      ·rw [d6];intro x hx
       have:=Iv _ _ _ q hq hkt.bd x hx;omega
     split at hpk
     ·rename_i hop
      split at hpk
      ·cases hpk
      ·cases hks:s.kids with
       | nil=>rw [hks,J8] at hpk;cases hpk
       | cons b bs=>
        rw [hks,J8] at hpk
        unfold CV at hpk
        cases hb:U1 n ln (TJ n.decls L s.op s.num s.args 0) L.vars.length b with
        | none=>rw [hb] at hpk;cases hpk
        | some one=>
         rw [hb] at hpk
         simp only at hpk
         split at hpk
         ·cases hpk
          obtain ⟨q1,q2,q3⟩:=hf.kids hop
          have hks0:s.kids[0]? = some b:=by rw [hks];rfl
          obtain ⟨a0,ha0⟩:=BZ (xs:=W1 n.decls s.op s.num) (j:=0) om
          obtain ⟨k1,k2⟩:=Hf hk hq hf hop ha0
          have hbz:=Qs hks0
          obtain ⟨⟨r1,r2,r3⟩,_⟩:=ih.2 b _ one q L.vars.length om k1 hq (by rw [k2];exact q3 0 b a0 hks0 ha0) (by rw [k2];simp) hb
          refine ⟨hk.turn rfl rfl rfl rfl (by simp only;omega) (by simp only;omega) (fun x hx=>(r3 x hx).1) (fun x hx=>?_),rfl⟩
          have:=(r3 x hx).2;omega
         ·cases hpk
     ·obtain ⟨k1,k2⟩:=PL hk hpk
      exact ⟨k1.le om,k2⟩
    split at h
    ·rename_i hd
     cases h
     refine ⟨key.1.grow om ?_,by rw [Km,Zf hd];simp [ZK.grow,key.2]⟩
     split<;>omega
    ·rename_i hd
     cases h
     exact ⟨key.1,by rw [Km,Za hd];exact key.2⟩
  refine ⟨hs,?_⟩
  intro b L O q k Xo hk hq hty hkl h
  have hsteps:∀(l:List Z5) (L L':ZK) (q:Int) (vs:LI),Yr l<=m->XH n.decls L q->0<=q->Uw n l L.vars=some vs->JU n ln L l=some L'->XH n.decls L' (q+4*Yr l)/\L'.vars=vs:=by
   intro l
   induction l with
   | nil=>intro L L' q vs _ hk _ h1 h2;rw [Uw] at h1;rw [JU] at h2;cases h1;cases h2;exact ⟨by simpa [Yr] using hk,rfl⟩
   | cons s r ihr=>
    intro L L' q vs hz hk hq h1 h2
    rw [Yr] at hz
    rw [JU] at h2
    obtain ⟨L1,e1,e2⟩:=MZ h2
    rw [Uw] at h1
    split at h1
    ·cases h1
    ·rename_i h0
     obtain ⟨k1,k2⟩:=hs s L L1 q om hk hq om e1
     obtain ⟨k3,k4⟩:=ihr L1 L' (q+4*s.sz) vs om k1 om (by rw [k2];exact h1) e2
     exact ⟨k3.le (by rw [Yr];omega),k4⟩
  have hbz:=b.sz_eq
  rw [ID] at h
  obtain ⟨L1,e1,e2⟩:=MZ h
  rw [IE] at hty
  cases hv:Uw n b.steps L.vars with
  | none=>rw [hv] at hty;simp at hty
  | some vs=>
   obtain ⟨k1,k2⟩:=hsteps b.steps L L1 q vs om hk hq hv e1
   have hlen:=Z27 hv
   rw [Ao] at e2
   obtain ⟨L2,e3,e4⟩:=MZ e2
   have k3:XH n.decls L2 (q+4*Yr b.steps)/\L2.vars=L1.vars:=by
    split at e3
    ·exact ⟨k1.take e3,(JV e3).2.1⟩
    ·cases e3;exact ⟨k1,rfl⟩
   obtain ⟨rfl,_⟩:=Z5c e4
   obtain ⟨g1,g2,g3,g4,g5⟩:=k3.1.len
   have hl2:L2.vars.length=vs.length:=by rw [k3.2,k2]
   refine ⟨⟨by simp [ZK.take];omega,by simp [ZK.take];omega,fun x hx=>?_⟩,⟨by simp [ZK.take];omega,by simp [ZK.take];omega,by simp [ZK.take];omega,by simp [ZK.take];omega,by simp [ZK.take];omega⟩,by simp [ZK.take];omega⟩
   have hx':x∈L2.own:=QA hx
   have:=k3.1.nn x hx'
   have:=k3.1.bd x hx'
   omega
theorem Z25 {n:ZF} (hn:Xv n) {ln:LI} {s:Z5} {L L':ZK} {q:Int} (hk:XH n.decls L q) (hq:0<=q) (hty:0<=YZ n L.vars s) (h:QO n ln L s=some L'):XH n.decls L' (q+4*s.sz)/\L'.vars=Km n L.vars s:=
 (RG n hn ln s.sz).1 s L L' q (X2 _) hk hq hty h
theorem NH {n:ZF} (hn:Xv n) {ln:LI} {b:Z7} {L O:ZK} {q:Int} {k:Nat} (hk:XH n.decls L q) (hq:0<=q) (hty:0<=W2 n L.vars b) (hkl:k<=L.vars.length) (h:U1 n ln L k b=some O) :
  O.own.length=k/\O.tok.length=k/\(∀x∈O.own,0<=x/\x<=q+4*b.sz):=
 ((RG n hn ln b.sz).2 b L O q k (X2 _) hk hq hty hkl h).1
theorem Fh {n:ZF} (hn:Xv n) {ln:LI} {s:Z5} {L L1:ZK} {q:Int} (hk:XH n.decls L q) (hq:0<=q) (hf:Cs n L.vars s)
  (hpk:JT n ln L s.op s.num s.into s.args (J8 n ln L s.op s.num s.args s.kids)=some L1):XH n.decls L1 (q+4*s.sz)/\L1.vars=L.vars:=by
 have hp:=s.sz_pos
 obtain ⟨f1,f2,f3,f4,f5⟩:=hk.len
 rw [JT] at hpk
 split at hpk
 ·obtain ⟨d1,d2,d3,d4,d5,d6⟩:=Oc hpk
  refine ⟨hk.turn d1 d2 d3 d4 (by rw [d5]) (by rw [d6,TM]) ?_ ?_,d1⟩
  ·rw [d6];intro x hx
   rcases JP hx with hx|rfl
   ·exact hk.nn x hx
   ·have:=LD (v:=gI s.args 0) hk.nn;omega
  ·rw [d6];intro x hx
   rcases JP hx with hx|rfl
   ·have:=hk.bd x hx;omega
   ·have:=LA (v:=gI s.args 0) hk.bd hq;omega
 split at hpk
 ·exact ⟨(hk.take hpk).le om,(JV hpk).2.1⟩
 split at hpk
 ·rename_i hop
  obtain ⟨d1,d2,d3,d4,d5,Lt,ht,d6⟩:=Sn hpk
  have hkt:=hk.take ht
  have h3:=V8 hn.decls (gI L.con (gI s.args 0))
  refine ⟨hk.turn d1 d2 d3 d4 d5 ?_ ?_ ?_,d1⟩
  ·rw [d6,Iw,(JV ht).2.2.2.2.2.2,TM]
  ·rw [d6];exact Ix _ _ _ hkt.nn
  ·rw [d6];intro x hx
   have:=Iv _ _ _ q hq hkt.bd x hx;omega
 split at hpk
 ·rename_i hop
  split at hpk
  ·cases hpk
  ·cases hks:s.kids with
   | nil=>rw [hks,J8] at hpk;cases hpk
   | cons b bs=>
    rw [hks,J8] at hpk
    unfold CV at hpk
    cases hb:U1 n ln (TJ n.decls L s.op s.num s.args 0) L.vars.length b with
    | none=>rw [hb] at hpk;cases hpk
    | some one=>
     rw [hb] at hpk
     simp only at hpk
     split at hpk
     ·cases hpk
      obtain ⟨q1,q2,q3⟩:=hf.kids hop
      have hks0:s.kids[0]? = some b:=by rw [hks];rfl
      obtain ⟨a0,ha0⟩:=BZ (xs:=W1 n.decls s.op s.num) (j:=0) om
      obtain ⟨k1,k2⟩:=Hf hk hq hf hop ha0
      have hbz:=Qs hks0
      obtain ⟨r1,r2,r3⟩:=NH hn k1 hq (by rw [k2];exact q3 0 b a0 hks0 ha0) (by rw [k2];simp) hb
      refine ⟨hk.turn rfl rfl rfl rfl (by simp only;omega) (by simp only;omega) (fun x hx=>(r3 x hx).1) (fun x hx=>?_),rfl⟩
      have:=(r3 x hx).2;omega
     ·cases hpk
 ·obtain ⟨k1,k2⟩:=PL hk hpk
  exact ⟨k1.le om,k2⟩
end Go.Abs
section
namespace Go.Abs
theorem Z46 {ds:List Zc} {op num:Int} {i:Nat} {m:LI} (h8:op=8) (h:(W1 ds op num)[i]? = some m):∃c,(ZU ds num)[i]? = some c/\m=ZO ds c:=by
 rw [W1,Za om,Jo] at h
 cases hc:(ZU ds num)[i]? with
 | none=>rw [hc] at h;cases h
 | some c=>rw [hc] at h;cases h;exact ⟨c,rfl,rfl⟩
theorem Zbp {ds:List Zc} {L:ZK} {op num x c:Int} {args:LI} {i:Nat} (h8:op=8) (hx:args[0]? = some x) (hc:(ZU ds num)[i]? = some c):TJ ds L op num args i=Cx ds L x c:=by
 have h1:gI args 0=x:=by rw [gI];simp [hx]
 have h2:gI (ZU ds num) (i:Int)=c:=by rw [gI];simp [hc]
 rw [TJ,Zf h8,h1,h2]
theorem Zbq {ds:List Zc} {L:ZK} {op num:Int} {args:LI} {i:Nat} (h8:¬op=8):TJ ds L op num args i=L:=by rw [TJ,Za h8]
theorem Zbr {n:ZF} {ln:LI} {L:ZK} {op num:Int} {args:LI} {kids:List Z7} {kb:Z7} (h:kids[0]? = some kb) :
  J8 n ln L op num args kids=CV L (U1 n ln (TJ n.decls L op num args 0) L.vars.length kb) fun one=>JJ n ln L op num args one (kids.drop 1) 1:=by
 cases kids with
 | nil=>simp at h
 | cons b bs=>simp at h;subst h;rw [J8];rfl
theorem Zbs {n:ZF} {ln:LI} {L one:ZK} {op num:Int} {args:LI} {kids:List Z7} {kb:Z7} {k:Nat} (h:kids[k]? = some kb) :
  JJ n ln L op num args one (kids.drop k) k=HP one (U1 n ln (TJ n.decls L op num args k) L.vars.length kb) (JJ n ln L op num args one (kids.drop (k+1)) (k+1)):=by
 rw [Yj h,JJ]
def Cy (n:ZF) (ln:LI) (L:ZK) (s:Z5):Option ZK:=
 if s.op=8/\¬T3 L ln (gI s.args 0)=true then none else J8 n ln L s.op s.num s.args s.kids
theorem Z4r {n:ZF} {ln:LI} {L:ZK} {s:Z5} {kb:Z7} (h:¬(s.op=8/\¬T3 L ln (gI s.args 0)=true)) (hk:s.kids[0]? = some kb) :
  Cy n ln L s=CV L (U1 n ln (TJ n.decls L s.op s.num s.args 0) L.vars.length kb) fun one=>JJ n ln L s.op s.num s.args one (s.kids.drop 1) 1:=by
 rw [Cy,Za h,Zbr hk]
theorem KC {xs:LI} {x:Int} (h:xs[0]? = some x):gI xs 0=x:=by rw [gI];simp [h]
end Go.Abs
namespace Go.Abs
theorem Tn.grow {L:ZK} {t o p:Int} (h:Tn L):Tn (L.grow t o p):=by
 obtain ⟨f1,f2,f3,f4,f5⟩:=h
 exact ⟨by simp [ZK.grow,f1],by simp [ZK.grow,f2],by simp [ZK.grow,f3],by simp [ZK.grow,f4],by simp [ZK.grow,f5]⟩
theorem Tn.arm {L:ZK} {i j:Nat} {c d:Int} (h:Tn L):Tn ⟨L.vars,L.own,L.par,L.con.set i c,L.fst.set j d,L.tok⟩:=by
 obtain ⟨f1,f2,f3,f4,f5⟩:=h
 exact ⟨f1,f2,by simp [f3],by simp [f4],f5⟩
end Go.Abs
namespace Go.Abs
theorem Rt {n:ZF} (hn:Xv n) {ln:LI} {L O:ZK} {q:Int} {s:Z5} {i:Nat} {kb:Z7} {m:LI} (hk:XH n.decls L q) (hq:0<=q) (hf:Cs n L.vars s) (hop:s.op=7∨s.op=8)
  (_:s.kids[i]? = some kb) (harm:(W1 n.decls s.op s.num)[i]? = some m) (hbt:0<=W2 n (L.vars++m) kb) (h:U1 n ln (TJ n.decls L s.op s.num s.args i) L.vars.length kb=some O) :
  O.own.length=L.vars.length/\O.tok.length=L.vars.length:=by
 obtain ⟨k1,k2⟩:=Hf hk hq hf hop harm
 obtain ⟨r1,r2,_⟩:=NH hn k1 hq (by rw [k2];exact hbt) (by rw [k2];simp) h
 exact ⟨r1,r2⟩
theorem Zft {one two:ZK} {r:Bool} (h:¬(¬one.own=two.own∨¬one.tok=two.tok)):HP one (some two) r=r:=Zf ⟨Vy.1 fun q=>h (.inl q),Vy.1 fun q=>h (.inr q)⟩
theorem Zfs {one two:ZK} {r:Bool} (h:¬one.own=two.own∨¬one.tok=two.tok):HP one (some two) r=false:=Za fun q=>h.elim (fun z=>z q.1) fun z=>z q.2
theorem Zcn {L one:ZK} {f:ZK->Bool} (h:f one=true):CV L (some one) f=some ⟨L.vars,one.own,L.par,L.con,L.fst,one.tok⟩:=Zf h
theorem RW {L one:ZK} {f:ZK->Bool} (h:f one=false):CV L (some one) f=none:=Za (by rw [h];simp)
end Go.Abs
namespace Go.Abs
section
variable {n:ZF} {ln:LI} {L:ZK} {s:Z5}
abbrev AA (n:ZF) (ln:LI) (L:ZK) (s:Z5):Option ZK:=JT n ln L s.op s.num s.into s.args (J8 n ln L s.op s.num s.args s.kids)
theorem Sq {x:Int} (h:s.op=14) (hx:gI s.args 0=x):AA n ln L s=CC L ln x:=hx▸Zf h
theorem Sr {x:Int} (h:s.op=15) (hx:gI s.args 0=x):AA n ln L s=Qg L x:=by rw [<-hx,AA,JT,Za om,Zf h]
theorem Ss {x:Int} (h:s.op=16∨s.op=17) (hx:gI s.args 0=x):AA n ln L s=Az n.decls L s.op x:=by rw [<-hx,AA,JT,Za om,Za om,Zf h]
theorem St (h:s.op=7∨s.op=8):AA n ln L s=Cy n ln L s:=by rw [AA,JT,Za om,Za om,Za om,Zf h,Cy]
theorem Su (h1:¬s.op=14) (h2:¬s.op=15) (h3:¬(s.op=16∨s.op=17)) (h4:¬(s.op=7∨s.op=8)):AA n ln L s=JB n ln L s.op s.num s.into s.args:=by
 rw [AA,JT,Za h1,Za h2,Za h3,Za h4]
theorem Z60 {v:Int} (h:¬T3 L ln v=true):CC L ln v=none:=Za h
theorem Z61 {v x:Int} (h:¬¬T3 L ln v=true) (hx:gI L.own v=x):CC L ln v=some ⟨L.vars,L.own.set v.toNat (x+1),L.par,L.con,L.fst,L.tok⟩:=by rw [CC,Zf (Vy.1 h),hx]
theorem Tl (n:ZF) (ln:LI) (L:ZK) (s:Z5):QO n ln L s=Aq L s.op (YZ n L.vars s) (AA n ln L s):=Z24 n ln L s
theorem Tb {X:ZK} {op t:Int} (h:Xd op=true/\t≠0):Aq L op t (some X)=some (X.grow t 1 (-1)):=by
 unfold Aq;simp only [h.1,↓reduceIte];rw [Zf h.2]
theorem Tc {X:ZK} {op t:Int} (h:¬(Xd op=true/\t≠0)) (h2:Xd op=true):Aq L op t (some X)=some (X.grow 0 0 (-1)):=by
 have ht:t=0:=Vy.1 fun q=>h ⟨h2,q⟩
 subst ht
 unfold Aq;simp only [h2,↓reduceIte];rfl
theorem Td {X:ZK} {op t:Int} (h:¬Xd op=true):Aq L op t (some X)=some X:=by
 unfold Aq;simp only [Za h]
end
end Go.Abs
namespace Go.Abs
theorem NI {n:ZF} {us:LI} {b:Z7} (h:0<=W2 n us b):∃vs t,Uw n b.steps us=some vs/\WY vs b.result=some t/\0<=t:=by
 rw [IE] at h
 cases hv:Uw n b.steps us with
 | none=>rw [hv] at h;simp at h
 | some vs=>
  rw [hv] at h
  simp only at h
  cases ha:WY vs b.result with
  | none=>rw [ha] at h;simp at h
  | some t=>rw [ha] at h;exact ⟨vs,t,rfl,ha,h⟩
theorem Z28 {n:ZF} {us vs:LI} {s:Z5} {r:List Z5} (h:Uw n (s::r) us=some vs):0<=YZ n us s/\Uw n r (Km n us s)=some vs:=by
 rw [Uw] at h
 split at h
 ·cases h
 ·exact ⟨by omega,h⟩
theorem Z10 (n:ZF) (us:LI) (s:Z5):us.length<=(Km n us s).length/\(Km n us s).length<=us.length+s.sz:=by
 have:=s.sz_pos
 rw [Km];split
 ·simp only [ZH,Jp];omega
 ·omega
end Go.Abs
namespace Go.Abs
theorem Z6l {X L:ZK} {m:Nat} {r x:Int} (hg:gI L.vars r=x) (h:x≠0) (ht:Qg L r=some X):Ao m r L=Jy X m:=by rw [Ao,hg,Zf h,ht];rfl
theorem Z6k {L:ZK} {m:Nat} {r x:Int} (hg:gI L.vars r=x) (h:x≠0) (ht:Qg L r=none):Ao m r L=none:=by rw [Ao,hg,Zf h,ht];rfl
theorem EH {L:ZK} {m:Nat} {r x:Int} (hg:gI L.vars r=x) (h:¬x≠0):Ao m r L=Jy L m:=by rw [Ao,hg,Za h];rfl
end Go.Abs
namespace Go.Abs
theorem Sp {ds:List Zc} {lent:LI}:∀{ps:LI} {i:Nat} {L:ZK},XH ds L 1->XH ds (Bm lent ps i L) 1/\(Bm lent ps i L).vars=L.vars++ps
 | [],i,L,hk=>⟨hk,by simp [Bm]⟩
 | t::r,i,L,hk=>by
  rw [Bm]
  obtain ⟨k1,k2⟩:=Sp (lent:=lent) (ps:=r) (i:=i+1) (hk.grow (t:=t) (o:=if t≠0/\¬(i:Int)∈lent then 1 else 0) (p:=-1) om (by split<;>omega))
  exact ⟨k1,by rw [k2];simp [ZK.grow]⟩
theorem Zcq (ds:List Zc) (r:Yz):XH ds (KI r) 1/\(KI r).vars=r.params:=by
 have h:XH ds (⟨[],[],[],[],[],[]⟩:ZK) 1:=⟨⟨rfl,rfl,rfl,rfl,rfl⟩,fun j h1 h2=>by simp at h2;omega,fun j h1 h2=>by simp at h2;omega,by simp,by simp⟩
 obtain ⟨k1,k2⟩:=Sp (lent:=r.lent) (ps:=r.params) (i:=0) h
 exact ⟨k1,by rw [KI,k2];rfl⟩
end Go.Abs
namespace Go.Abs
theorem Z0i {n:ZF}:∀{l:List Yz},Bq n l=true->∀r∈l,¬Bs r.body<0/\W2 n r.params r.body=r.result
 | [],_,r,h=>by simp at h
 | a::l,h,r,hr=>by
  rw [Bq] at h
  split at h
  ·rename_i h1
   rcases X0.1 hr with rfl|hr
   ·exact h1
   ·exact Z0i h r hr
  ·cases h
theorem Ziu {n:ZF} (hz:A4 n) (h:Ks n=true):Xv n/\∀r∈n.routines,0<=W2 n r.params r.body:=by
 simp only [Ks,X1] at h
 refine ⟨S2 hz h.1,fun r hr=>?_⟩
 rw [(Z0i h.2 r hr).2]
 have h1:=h.1
 simp only [Ay,Ug,X1] at h1
 have:=FK h1.2.1.2.2.1 (Qe r) (XA.2 ⟨r,hr,rfl⟩)
 simp only [Kn,X1,decide_eq_true_eq,Qe] at this
 exact (of_decide_eq_true this.2.2).1
end Go.Abs
end
section
namespace Go.Abs
end Go.Abs
namespace Go.Abs
end Go.Abs
namespace Go.Abs
end Go.Abs
end
section
namespace Go.Abs
theorem Z52 {c:Int} {ds:List Zc} {k:Nat} {d:Zc} {r:Int × LI} (h:ds[k]? = some d) (hn:¬(c-YE (ds.take k)>=0/\c-YE (ds.take k)<d.cons.length))
  (hr:Up c (ds.drop k) k (YE (ds.take k))=r):Up c (ds.drop (k+1)) (k+1) (YE (ds.take (k+1)))=r:=by
 rw [Yj h,Up,Za om] at hr
 rw [VO h,Dr,<-hr];rfl
end Go.Abs
namespace Go.Abs
theorem Z54 {c:Int} {ds:List Zc} {k:Nat} {d:Zc} {x:YK} (h:ds[k]? = some d) (hn:c-YE (ds.take k)>=0/\c-YE (ds.take k)<d.cons.length)
  (hx:d.cons[(c-YE (ds.take k)).toNat]? = some x):Up c (ds.drop k) k (YE (ds.take k))=((k:Int)+1,x.fields):=by
 rw [Yj h,Up,Zf om,hx];rfl
def By (c:Int) (z:Nat) (v:Int):Prop:=v=c-z∨(c<0/\c-z < -9223372036854775808/\v=c-z+18446744073709551616)
theorem Z49 {c:Int} {z l:Nat} {v:Int} (h:By c z v) (hz:z<=100) (hl:l<=3) (hc:-9223372036854775808<=c/\c<=9223372036854775807):By c (z+l) (Dg (v-l)):=by
 unfold By at *;rw [Dg,IntKind.wrap_i64];omega
theorem Z53 {c v:Int} {ds:List Zc} {k:Nat} {d:Zc} {r:Int × LI} (h:ds[k]? = some d) (ha:By c (YE (ds.take k)) v) (hn:¬(v>=0/\v<d.cons.length))
  (hr:Up c (ds.drop k) k (YE (ds.take k))=r):Up c (ds.drop (k+1)) (k+1) (YE (ds.take (k+1)))=r:=Z52 h (by unfold By at ha;omega) hr
theorem Z55 {c v:Int} {ds:List Zc} {k:Nat} {d:Zc} {x:YK} (h:ds[k]? = some d) (ha:By c (YE (ds.take k)) v) (hz:YE (ds.take k)<=100) (hl:d.cons.length<=3) (hc:-9223372036854775808<=c)
  (hn:v>=0/\v<d.cons.length) (hx:d.cons[v.toNat]? = some x):Up c (ds.drop k) k (YE (ds.take k))=((k:Int)+1,x.fields):=by
 have:v=c-(YE (ds.take k):Int):=by unfold By at ha;omega
 subst this
 exact Z54 h hn hx
end Go.Abs
namespace Go.Abs
abbrev O8 (ds:List Zc) (d:Zc):Prop:=
 (((¬(0<=d.frm/\d.frm<=ds.length))∨(¬(0<=d.to_/\d.to_<=ds.length)))∨((d.cons.length:Int)>3))∨(((d.cons.length:Int)>0)/\((d.frm≠0)∨(d.to_≠0)))
theorem Z5u {ds:List Zc} {d:Zc} {i:Nat} (h:O8 ds d):T4 ds d i=false:=by
 rw [T4]
 split
 ·rw [Za];rintro ⟨h1,h2,h3⟩
  rcases h with ((h|h)|h)|h<;>omega
 ·split
  ·rfl
  ·rcases h with ((h|h)|h)|h
   ·rw [decide_eq_false h];rfl
   ·rw [decide_eq_false h,Bool.and_false]
   ·omega
   ·omega
theorem Z5v {ds:List Zc} {d:Zc} {i:Nat} (hl:0<d.cons.length) (h:TE ds.length d.cons=false):T4 ds d i=false:=by
 rw [T4,Zf hl];split
 ·exact h
 ·rfl
theorem Z5w {ds:List Zc} {d:Zc} {i:Nat} (hl:d.cons.length=0) (h:QZ d (ds.take i)=true):T4 ds d i=false:=by
 rw [T4,Za om,Zf h]
theorem Z5x {ds:List Zc} {d:Zc} {i:Nat} (h1:¬O8 ds d) (h2:TE ds.length d.cons=true) (h3:d.cons.length=0->QZ d (ds.take i)=false):T4 ds d i=true:=by
 rw [T4]
 have ha:0<=d.frm/\d.frm<=ds.length:=Vy.1 fun q=>h1 (.inl (.inl (.inl q)))
 have hb:0<=d.to_/\d.to_<=ds.length:=Vy.1 fun q=>h1 (.inl (.inl (.inr q)))
 have hc:¬(d.cons.length:Int)>3:=fun q=>h1 (.inl (.inr q))
 split
 ·rename_i hl
  have hd:¬(d.frm≠0∨d.to_≠0):=fun q=>h1 (.inr ⟨by omega,q⟩)
  rw [Zf ⟨by omega,by omega,by omega⟩];exact h2
 ·rw [Za (by rw [h3 om];simp),decide_eq_true ha,decide_eq_true hb];rfl
theorem N2 {ds:List Zc} {k:Nat} {d:Zc} (h:ds[k]? = some d) (hA:T4 ds d k=false) (c:T5 ds (ds.drop k) k=T5 ds ds 0):false=WM ds:=by
 rw [WM,<-c,Yj h,T5,EB h,hA,Za (by simp),Bool.and_false]
theorem Ziw {ds:List Zc} {k:Nat} {d:Zc} {r:Bool} (h:ds[k]? = some d) (hA:T4 ds d k=true) (c:T5 ds (ds.drop k) k=r):T5 ds (ds.drop (k+1)) (k+1)=r:=by
 rw [Yj h,T5,EB h,hA,Zf rfl] at c;exact c
theorem Ziv {ds:List Zc} {k:Nat} (hl:ds.length<=4) (hk:ds.length<=k) (c:T5 ds (ds.drop k) k=T5 ds ds 0):true=WM ds:=by
 rw [WM,<-c,Xj hk,decide_eq_true hl];rfl
theorem Z56 {m:Nat} {c:YK} (h:((c.fields.length:Int)>3)∨(¬(Wc m c.fields=true))):Jw m c=false:=by
 rw [Jw]
 rcases h with h|h
 ·rw [decide_eq_false om];rfl
 ·rw [Uy.2 h,Bool.and_false]
theorem Z57 {m:Nat} {c:YK} (h:¬(((c.fields.length:Int)>3)∨(¬(Wc m c.fields=true)))):Jw m c=true:=by
 rw [Jw,Vy.1 fun q=>h (.inr q),decide_eq_true (by have:¬(c.fields.length:Int)>3:=fun q=>h (.inl q);omega)];rfl
end Go.Abs
end
section
namespace Go.Abs
structure VA where
 pms:LI
 lnt:LI
 res:Int
abbrev Rw (f:VA):List AV:=[Z4 f.pms,Z4 f.lnt,.i f.res]
abbrev Gg (f:VA):AV:=.agg (Rw f)
def T9 (fs:List VA):List AV:=fs.map Gg
abbrev KH (xs:List VA):AV:=.sl (T9 xs) none
abbrev Hu (xs:List VA) (v:Value):AV:=.sl (T9 xs) (some v)
theorem DF {xs:List VA} {j:Nat} {x:VA} (h:xs[j]? = some x):(T9 xs)[j]? = some (Gg x):=by simp [T9,h]
@[simp] theorem EE (xs:List VA):(T9 xs).length=xs.length:=by simp [T9]
theorem Oe (xs:List VA):∀y∈T9 xs,y.leaves.length=3:=by intro y hy;simp only [T9,XA] at hy;obtain ⟨x,_,rfl⟩:=hy;rfl
theorem Z68 (xs:List VA):(Zu (T9 xs)).all AV.one=true:=J4 fun y hy=>by simp only [T9,XA] at hy;obtain ⟨x,_,rfl⟩:=hy;rfl
def AL (m:Nat) (f:VA):Bool:=Kn m ⟨f.pms,f.res⟩&&Uf f.pms f.lnt
def KL (m:Nat):List VA->Bool
 | []=>true
 | f::r=>if AL m f=true then KL m r else false
def Lv:List VA->Bool
 | []=>false
 | f::_=>decide (f.pms.length=0)&&decide (f.res=0)
def Qi (ds:List Zc) (fs:List VA):Bool:=WM ds&&(decide (1<=fs.length/\fs.length<=4)&&(Lv fs&&KL ds.length fs))
theorem P2 {fs:List VA} {x:VA} (h:fs[0]? = some x):Lv fs=(decide (x.pms.length=0)&&decide (x.res=0)):=by
 cases fs with
 | nil=>simp at h
 | cons f r=>simp at h;subst h;rfl
theorem RO {ps ls:LI} {j:Nat} {v:Int} {r:Bool} (h:ls[j]? = some v) (hg:(0<=v/\v<=(ps.length:Int)-1)/\ps[v.toNat]?≠some 0/\(∀p,(if j=0 then none else ls[j-1]?)=some p->p<v))
  (hr:Q3 ps (ls.drop j) (if j=0 then none else ls[j-1]?)=r):Q3 ps (ls.drop (j+1)) (if j+1=0 then none else ls[j+1-1]?)=r:=by
 rw [Yj h,M7 hg] at hr
 rw [Za om,show j+1-1=j from rfl,h];exact hr
theorem M9 {ps ls:LI} {j:Nat} {v:Int} {r:Bool} (h:ls[j]? = some v) (hg:¬((0<=v/\v<=(ps.length:Int)-1)/\ps[v.toNat]?≠some 0/\(∀p,(if j=0 then none else ls[j-1]?)=some p->p<v)))
  (hr:Q3 ps (ls.drop j) (if j=0 then none else ls[j-1]?)=r):r=false:=by
 rw [Yj h,Hn hg] at hr;exact hr.symm
theorem HQ {m:Nat} {fs:List VA} {k:Nat} {f:VA} {r:Bool} (h:fs[k]? = some f) (hb:AL m f=false) (hr:KL m (fs.drop k)=r):r=false:=by
 rw [Yj h,KL,hb,Za (by simp)] at hr;exact hr.symm
theorem Zg1 {m:Nat} {fs:List VA} {k:Nat} {f:VA} {r:Bool} (h:fs[k]? = some f) (hb:AL m f=true) (hr:KL m (fs.drop k)=r):KL m (fs.drop (k+1))=r:=by
 rw [Yj h,KL,Zf hb] at hr;exact hr
end Go.Abs
namespace Go.Abs
section
variable {ds:List Zc} {fs:List VA} {x:VA}
theorem Zj0 (h:((¬(WM ds=true))∨((fs.length:Int)<1))∨((fs.length:Int)>4)):false=Qi ds fs:=by
 rw [Qi]
 rcases h with (h|h)|h
 ·rw [Uy.2 h];rfl
 ·rw [decide_eq_false (p:=1<=fs.length/\fs.length<=4) om];simp
 ·rw [decide_eq_false (p:=1<=fs.length/\fs.length<=4) om];simp
theorem Z2o (hx:fs[0]? = some x) (h:((x.pms.length:Int)>0)∨x.res≠0):false=Qi ds fs:=by
 rw [Qi,P2 hx]
 rcases h with h|h
 ·rw [decide_eq_false (p:=x.pms.length=0) om];simp
 ·rw [decide_eq_false (p:=x.res=0) h];simp
theorem I9 (h:KL ds.length fs=false):false=Qi ds fs:=by rw [Qi,h];simp
theorem Zj1 (h:¬(((¬(WM ds=true))∨((fs.length:Int)<1))∨((fs.length:Int)>4))) (hx:fs[0]? = some x) (h1:¬((x.pms.length:Int)>0)) (h2:¬x.res≠0) (h3:KL ds.length fs=true) :
  true=Qi ds fs:=by
 have hv:WM ds=true:=Vy.1 fun q=>h (.inl (.inl q))
 have ha:¬(fs.length:Int)<1:=fun q=>h (.inl (.inr q))
 have hb:¬(fs.length:Int)>4:=fun q=>h (.inr q)
 rw [Qi,P2 hx,hv,h3,decide_eq_true (p:=1<=fs.length/\fs.length<=4) om,decide_eq_true (p:=x.pms.length=0) om,decide_eq_true (p:=x.res=0) (Vy.1 h2)];rfl
abbrev Z15 (m:Nat) (x:VA):Prop:=(((x.pms.length:Int)>3)∨(¬(Wc m x.pms=true)))∨(¬(0<=x.res/\x.res<=m))
theorem Zfn {m:Nat} (h:Z15 m x):AL m x=false:=by
 rw [AL,Kn]
 rcases h with (h|h)|h
 ·rw [decide_eq_false (p:=x.pms.length<=3) om];simp
 ·rw [Uy.2 h];simp
 ·rw [decide_eq_false h];simp
theorem MF {m:Nat} (h:Uf x.pms x.lnt=false):AL m x=false:=by rw [AL,h,Bool.and_false]
theorem Zfo {m:Nat} (h:¬Z15 m x) (hl:Uf x.pms x.lnt=true):AL m x=true:=by
 have h1:¬(x.pms.length:Int)>3:=fun q=>h (.inl (.inl q))
 rw [AL,Kn,hl,decide_eq_true (p:=x.pms.length<=3) om,Vy.1 fun q=>h (.inl (.inr q)),decide_eq_true (Vy.1 fun q=>h (.inr q))];rfl
end
end Go.Abs
end
section
namespace Go.Abs
structure NTy (n:ZF):Prop where
 result:∀r∈n.routines,0<=r.result
 params:∀r∈n.routines,∀p∈r.params,0<=p
 decl:∀d∈n.decls,d.cons.length=0->0<=d.frm/\0<=d.to_
 fields:∀c,∀f∈ZO n.decls c,0<=f
end Go.Abs
namespace Go.Abs
end Go.Abs
namespace Go.Abs
end Go.Abs
namespace Go.Abs
section
variable {S:Option Int} {c:Prop} [Decidable c] {v:Int} {b:Bool}
end
section
variable {n:ZF} {op num:Int} {ts:LI}
end
end Go.Abs
end
namespace Go.Abs
mutual
def Z5.rng:Z5->Prop
 | .mk _ num _ _ kids=>(-9223372036854775808<=num/\num<=9223372036854775807)/\Ad kids
def Z7.rng:Z7->Prop
 | .mk steps _=>AN steps
def AN:List Z5->Prop
 | []=>True
 | s::r=>s.rng/\AN r
def Ad:List Z7->Prop
 | []=>True
 | b::r=>b.rng/\Ad r
end
theorem Z5.rng_eq (s:Z5):s.rng=((-9223372036854775808<=s.num/\s.num<=9223372036854775807)/\Ad s.kids):=by cases s;rw [Z5.rng];rfl
theorem Z7.rng_eq (b:Z7):b.rng=AN b.steps:=by cases b;rw [Z7.rng];rfl
section
variable {n:ZF} {us ts:LI} {s:Z5}
end
theorem Zi8 {n:ZF} {us:LI} {s:Z5} (h:0<=YZ n us s):(0<=s.op/\s.op<=11)∨(14<=s.op/\s.op<=17):=by
 rw [MU] at h
 by_cases hq:(0<=s.op/\s.op<=11)∨(14<=s.op/\s.op<=17)
 ·exact hq
 ·exfalso
  split at h
  ·omega
  rw [Za om,Za om,Za om,Za om,Za om,Za om,Za om,Za om,Za om] at h
  omega
theorem Ob {n:ZF} {us:LI} {s:Z5} (h:0<=YZ n us s):Xd s.op=!YM s.op:=by
 have:=Zi8 h
 rw [Xd,YM,Ye];simp;omega

end Go.Abs
section
namespace Go.Abs
structure Js where
 mat:Int
 fst:Int
 fds:LI
 chg:Bool
def UE:LI->Int->LI
 | [],_=>[]
 | t::r,p=>if t≠0 then p::UE r (p+1) else UE r (p+1)
theorem Za6 {xs:LI} {k:Nat} {t p:Int} {acc r:LI} (h:xs[k]? = some t) (ha:acc++UE (xs.drop k) (p+k)=r) :
  (if t≠0 then acc++[p+k] else acc)++UE (xs.drop (k+1)) (p+((k+1:Nat):Int))=r:=by
 rw [Yj h,UE] at ha
 rw [show p+((k+1:Nat):Int)=p+k+1 by omega]
 split
 ·rename_i q;rw [Zf q] at ha;rw [XM];exact ha
 ·rename_i q;rw [Za q] at ha;exact ha
theorem Za5 {xs:LI} {k:Nat} {p:Int} {acc r:LI} (h:xs.length<=k) (ha:acc++UE (xs.drop k) (p+k)=r):acc=r:=by
 rw [Xj h,UE,UN] at ha;exact ha
theorem LM:∀{xs:LI} {p f:Int},f∈UE xs p->p<=f/\f<p+xs.length
 | [],_,_,h=>by simp [UE] at h
 | t::r,p,f,h=>by
  rw [UE] at h
  split at h
  ·rcases X0.1 h with rfl|h
   ·simp only [Ys];omega
   ·have:=LM h;simp only [Ys];omega
  ·have:=LM h;simp only [Ys];omega
theorem GZ:∀(xs:LI) (p:Int),(UE xs p).length<=xs.length
 | [],_=>by simp [UE]
 | t::r,p=>by
  have:=GZ r (p+1)
  rw [UE];split<;>simp<;>omega
def Sa:List Js->Int->Option Js
 | [],_=>none
 | a::r,v=>match Sa r v with
  | some x=>some x
  | none=>if a.mat=v then some a else none
structure Zjh (ds:List Zc) (L:ZK) (as1:List Js):Prop where
 rng:∀a∈as1,0<=a.mat/\a.mat<a.fst/\a.fst+a.fds.length<=L.vars.length
 par:∀a∈as1,∀v:Int,a.fst<=v->v<a.fst+a.fds.length->gI L.par v=a.mat
 non:∀v:Int,0<=v->v<L.vars.length->0<=gI L.par v->∃a∈as1,a.fst<=v/\v<a.fst+a.fds.length
 off:∀v:Int,0<=v->v<L.vars.length->match Sa as1 v with
  | none=>gI L.con v<0
  | some a=>0<=gI L.con v/\a.fst=gI L.fst v/\a.fds=ZO ds (gI L.con v)
end Go.Abs
namespace Go.Abs
end Go.Abs
namespace Go.Abs
end Go.Abs
namespace Go.Abs
section
variable {n:ZF} {ln:LI} {L:ZK} {op v:Int} {am:List Js} {a:Js}
end
end Go.Abs
namespace Go.Abs
end Go.Abs
end
section
namespace Go.Abs
section
variable {n:ZF} {us:LI} {op num:Int}
end
end Go.Abs
namespace Go.Abs
end Go.Abs
namespace Go.Abs
end Go.Abs
end
section
namespace Go.Abs
section
variable {n:ZF} {ln:LI}
end
end Go.Abs
namespace Go.Abs
theorem RM {ps:LI}:∀{ls:LI} {prev:Option Int},Q3 ps ls prev=true->∀v∈ls,(0<=v/\v<=(ps.length:Int)-1)/\ps[v.toNat]?≠some 0
 | [],_,_,v,h=>by cases h
 | x::r,prev,h,v,hv=>by
  rw [Q3] at h
  split at h
  ·rename_i q
   rcases X0.1 hv with rfl|hv
   ·exact ⟨q.1,q.2.1⟩
   ·exact RM h v hv
  ·cases h
end Go.Abs
namespace Go.Abs
end Go.Abs
namespace Go.Abs
section
variable {n:ZF} {ln:LI} {L:ZK} {s:Z5}
end
end Go.Abs
namespace Go.Abs
end Go.Abs
namespace Go.Abs
end Go.Abs
namespace Go.Abs
end Go.Abs
end
section
namespace Go.Abs
end Go.Abs
namespace Go.Abs
end Go.Abs
namespace Go.Abs
end Go.Abs
end
section
namespace Go.Abs
def Z4y (c:YK):Nat:=c.fields.length
def NZ:List YK->Nat
 | []=>0
 | c::r=>Z4y c+NZ r
def Z59 (l:List YK):Nat:=l.length+NZ l
def Z5t (d:Zc):Nat:=Z59 d.cons
def O9:List Zc->Nat
 | []=>0
 | d::r=>Z5t d+O9 r
def Z5y (l:List Zc):Nat:=l.length+O9 l
end Go.Abs
namespace Go.Abs
end Go.Abs
namespace Go.Abs
end Go.Abs
namespace Go.Abs
end Go.Abs
end
namespace Go.Abs
def Zx (op v:Int):Z5:=.mk op 0 0 [v] []
def Wo (ds:List Zc) (num:Int) (k:Nat):LI:=((ZU ds num).map (ZO ds))[k]?.getD []
section
variable {ds:List Zc} {am:List Js} {m:Nat}
end
theorem Ls {ds:List Zc} {num:Int} {k:Nat} {m:LI} (h:((ZU ds num).map (ZO ds))[k]? = some m):Wo ds num k=m:=by rw [Wo,h];rfl
theorem GQ {ds:List Zc} (hd:Xl ds) (num:Int) (k:Nat):(Wo ds num k).length<=3:=by
 rw [Wo,Jo]
 cases (ZU ds num)[k]? with
 | none=>simp
 | some c=>exact V8 hd c
theorem HX {xs:List Z5} {k:Nat} {s:Z5} (h:xs[k]? = some s):Yr (xs.take (k+1))=Yr (xs.take k)+s.sz:=by
 induction xs generalizing k with
 | nil=>simp at h
 | cons t r ih=>
  cases k with
  | zero=>simp at h;subst h;simp [Yr]
  | succ k=>rw [AR,AR,Yr,Yr,ih (by simpa using h)];omega
theorem KP (xs:List Z5) (k:Nat):Yr (xs.take k)<=Yr xs:=by
 induction xs generalizing k with
 | nil=>simp
 | cons t r ih=>
  cases k with
  | zero=>simp [Yr]
  | succ k=>have:=ih k;rw [AR,Yr,Yr];omega
theorem Zfz {n:ZF} {us:LI} {s:Z5} (g:0<=YZ n us s) (h:YM s.op=true):Km n us s=us:=by rw [Km,Ob g,h];rfl
theorem Zfy {n:ZF} {us:LI} {s:Z5} (g:0<=YZ n us s) (h:¬YM s.op=true):(Km n us s).length=us.length+1:=by
 rw [Km,Ob g,Uy.2 h];simp
theorem Zg0 {n:ZF} {us:LI} {s:Z5} (g:0<=YZ n us s):(Km n us s).length=if YM s.op=true then us.length else us.length+1:=by
 split
 ·rw [Zfz g (by assumption)]
 ·exact Zfy g (by assumption)

theorem Qf:∀(xs ys:List Z5),Yr (xs++ys)=Yr xs+Yr ys
 | [],ys=>by simp [Yr]
 | x::r,ys=>by rw [Bu,Yr,Yr,Qf r ys];omega
theorem Gs (op v:Int):(Zx op v).sz=2:=by rw [Zx,Z5.sz];simp [YV]
theorem MR (op:Int):∀l:LI,Yr (l.map (Zx op))=2*l.length
 | []=>by simp [Yr]
 | x::r=>by rw [Tm,Yr,Gs,MR op r,Ys];omega
section
variable {ds:List Zc} (hd:Xl ds)
include hd
end
def XG (n:Nat):LI:=(List.range n).map Int.ofNat
theorem Zcz (n:Nat):XG (n+1)=XG n++[(n:Int)]:=by simp [XG,List.range_succ]
theorem DY (n:Nat):(XG n).length=n:=by simp [XG]
theorem Ht (n:Nat):∀f∈XG n,0<=f/\f<=n:=by
 intro f hf
 simp only [XG,XA,List.mem_range] at hf
 obtain ⟨a,ha,rfl⟩:=hf
 show 0<=(a:Int)/\(a:Int)<=n
 omega
def Cz (ds:List Zc) (num:Int) (k:Nat):Int:=gI (ZU ds num) k
section
variable {ds:List Zc} {cons first:LI}
end
def TC (first:LI):Prop:=∀f∈first,0<=f/\f<=1000000000
theorem TC.snoc {first:LI} (h:TC first):TC (first++[0]):=by
 intro f hf
 rcases Xg.1 hf with hf|hf
 ·exact h f hf
 ·rw [Xs.1 hf];omega
theorem TC.x {first:LI} (h:TC first) {x m k:Nat} (hm:m<=1000000000) (hk:k<=1000000000):TC (first.set x (m:Int)++XG k):=by
 intro f hf
 rcases Xg.1 hf with hf|hf
 ·rcases JP hf with hf|rfl
  ·exact h f hf
  ·omega
 ·have:=Ht k f hf;omega
section
variable {ds:List Zc} (hd:Xl ds)
include hd
end
def XJ:List Z5->Nat
 | []=>0
 | s::r=>if s.op=14∨s.op=15 then XJ r+1 else 0
def Wm (op:Int):List Z5->LI
 | []=>[]
 | s::r=>if s.op=op then gI s.args 0::Wm op r else Wm op r
def Un:LI->Int->LI->LI->LI × LI
 | [],_,D,R=>(D,R)
 | f::r,q,D,R=>if f≠0/\q∈D then Un r (q+1) (D.erase q) R else if f≠0 then Un r (q+1) D (R++[q]) else Un r (q+1) D R
def Jb (xs:List Z5) (x:Int) (fs:LI) (q:Int):LI × LI:=Un fs q (Wm 14 (xs.take (XJ xs))) ((Wm 15 (xs.take (XJ xs))).erase x)
def QW (xs:List Z5) (x:Int) (fs:LI) (q:Int):List Z5:=
 if x∈Wm 15 (xs.take (XJ xs))/\fs.length≠0 then (Jb xs x fs q).1.map (Zx 14)++[Zx 16 x]++(Jb xs x fs q).2.map (Zx 15)++xs.drop (XJ xs) else xs
def Kv (b:Z7) (x:Int) (fs:LI) (q:Int):Z7:=.mk (QW b.steps x fs q) b.result
theorem HL:∀xs:List Z5,XJ xs<=xs.length
 | []=>X2 _
 | s::r=>by have:=HL r;rw [XJ];split<;>simp<;>omega
theorem Z0s:∀{xs:List Z5} {s:Z5},s∈xs.take (XJ xs)->s.op=14∨s.op=15
 | [],s,h=>by simp [XJ] at h
 | t::r,s,h=>by
  rw [XJ] at h
  split at h
  ·rename_i q
   rw [AR] at h
   rcases X0.1 h with rfl|h
   ·exact q
   ·exact Z0s h
  ·simp at h
theorem IC:∀xs:List Z5,(Wm 14 xs).length+(Wm 15 xs).length<=xs.length
 | []=>by simp [Wm]
 | s::r=>by
  have:=IC r
  rw [Wm,Wm]
  by_cases h:s.op=14
  ·rw [Zf h,Za om];simp;omega
  ·rw [Za h];split<;>simp<;>omega
theorem Hz:∀(fs:LI) (q:Int) (D R:LI),(Un fs q D R).1.length+(Un fs q D R).2.length<=D.length+R.length+fs.length
 | [],q,D,R=>by simp [Un]
 | f::r,q,D,R=>by
  rw [Un,Ys]
  split
  ·have:=Hz r (q+1) (D.erase q) R
   have h2:=List.length_erase_le (a:=q) (l:=D)
   omega
  ·split
   ·have:=Hz r (q+1) D (R++[q])
    simp only [ZH,Ys,YF] at this
    omega
   ·have:=Hz r (q+1) D R
    omega
theorem Zdj {xs:List Z5} {x:Int} {fs:LI} {q:Int} (h:x∈Wm 15 (xs.take (XJ xs))) (hf:fs.length<=3):(Jb xs x fs q).1.length+(Jb xs x fs q).2.length<=XJ xs+2:=by
 have h1:=Hz fs q (Wm 14 (xs.take (XJ xs))) ((Wm 15 (xs.take (XJ xs))).erase x)
 have h2:=IC (xs.take (XJ xs))
 have h3:=List.length_pos_of_mem h
 rw [List.length_erase_of_mem h] at h1
 rw [Vc] at h2
 have h4:=HL xs
 unfold Jb
 omega
theorem Zhu (xs:List Z5) (k:Nat):Yr xs=Yr (xs.take k)+Yr (xs.drop k):=by rw [<-Qf,Qj]
theorem Z21:∀xs:List Z5,(∀s∈xs,2<=s.sz)->2*xs.length<=Yr xs
 | [],_=>by simp
 | s::r,h=>by
  have h1:=Z21 r fun t ht=>h t (Xr _ ht)
  have h2:=h s (Xf ..)
  rw [Yr,Ys];omega
theorem Z3s {xs:List Z5} {x:Int} {fs:LI} {q:Int} (hf:fs.length<=3) (h:∀s∈xs,s.op=14∨s.op=15->2<=s.sz):Yr (QW xs x fs q)<=Yr xs+6:=by
 rw [QW]
 split
 ·rename_i hc
  have h1:=Zdj (q:=q) hc.1 hf
  have h2:=Z21 (xs.take (XJ xs)) fun s hs=>h s (QA hs) (Z0s hs)
  have h3:=Zhu xs (XJ xs)
  have h4:=HL xs
  rw [Vc] at h2
  rw [Qf,Qf,Qf,MR,MR,Yr,Yr,Gs]
  omega
 ·omega
def Cn (s:Z5):Prop:=s=Zx s.op (gI s.args 0)
theorem Z3r {xs:List Z5} {m:Int} {fs:LI} {q:Int} (h:¬(m∈Wm 15 (xs.take (XJ xs))/\fs.length≠0)):QW xs m fs q=xs:=Za h
end Go.Abs
section
namespace Go.Abs
mutual
def KM (ds:List Zc) (m:Nat):Z5->Z5
 | .mk op num into args kids=>.mk op num into args (UJ ds m op num args kids 0)
def UJ (ds:List Zc) (m:Nat) (op num:Int) (args:LI):List Z7->Nat->List Z7
 | [],_=>[]
 | b::r,k=>(if op=8 then Kv (WV ds (m+(Wo ds num k).length) b) (gI args 0) (Wo ds num k) m else WV ds m b)::UJ ds m op num args r (k+1)
def VY (ds:List Zc) (m:Nat):List Z5->List Z5
 | []=>[]
 | s::r=>KM ds m s::VY ds (if YM s.op=true then m else m+1) r
def WV (ds:List Zc) (m:Nat):Z7->Z7
 | .mk steps result=>.mk (VY ds m steps) result
end
def HT (ds:List Zc) (m:Nat) (op num:Int) (args:LI) (k:Nat) (b:Z7):Z7:=if op=8 then Kv (WV ds (m+(Wo ds num k).length) b) (gI args 0) (Wo ds num k) m else WV ds m b
theorem FL (ds:List Zc) (m:Nat) (s:Z5):KM ds m s=.mk s.op s.num s.into s.args (UJ ds m s.op s.num s.args s.kids 0):=by cases s;rw [KM];rfl
theorem HR (ds:List Zc) (m:Nat) (b:Z7):WV ds m b=.mk (VY ds m b.steps) b.result:=by cases b;rw [WV];rfl
section
variable {ds:List Zc} {m:Nat}
theorem Zg8 {xs acc r:List Z5} {k:Nat} {s:Z5} (h:xs[k]? = some s) (ha:acc++VY ds m (xs.drop k)=r) :
  (acc++[.mk s.op s.num s.into s.args (UJ ds m s.op s.num s.args s.kids 0)])++VY ds (if YM s.op=true then m else m+1) (xs.drop (k+1))=r:=by
 rw [Yj h,VY,FL] at ha
 rw [<-ha];simp
theorem Zg7 {xs acc r:List Z5} {k:Nat} (h:xs.length<=k) (ha:acc++VY ds m (xs.drop k)=r):acc=r:=by
 rw [Xj h,VY,UN] at ha;exact ha
theorem Z1a {op num:Int} {args:LI} {bs acc r:List Z7} {k:Nat} {b:Z7} (h:bs[k]? = some b) (ha:acc++UJ ds m op num args (bs.drop k) k=r) :
  (acc++[HT ds m op num args k b])++UJ ds m op num args (bs.drop (k+1)) (k+1)=r:=by
 rw [Yj h,UJ] at ha
 rw [<-ha,HT];simp
theorem Zg3 {op num:Int} {args:LI} {bs acc r:List Z7} {k j:Nat} (h:bs.length<=k) (ha:acc++UJ ds m op num args (bs.drop k) j=r):acc=r:=by
 rw [Xj h,UJ,UN] at ha;exact ha
end
mutual
def wS (ds:List Zc):Z5->Prop
 | .mk op num into args kids=>(Xd op=!YM op)/\(YM op=true->num=0/\into=0/\kids=[]/\∃a,args=[a])/\(op=8->(∃a,args=[a]/\0<=a/\a<=900000000)/\kids.length=(ZU ds num).length)/\Jl ds kids
def Jl (ds:List Zc):List Z7->Prop
 | []=>True
 | b::r=>wB ds b/\Jl ds r
def QR (ds:List Zc):List Z5->Prop
 | []=>True
 | s::r=>wS ds s/\QR ds r
def wB (ds:List Zc):Z7->Prop
 | .mk steps _=>QR ds steps
end
section
variable {ds:List Zc}
theorem JY (s:Z5):wS ds s↔(Xd s.op=!YM s.op)/\(YM s.op=true->s.num=0/\s.into=0/\s.kids=[]/\∃a,s.args=[a])/\(s.op=8->(∃a,s.args=[a]/\0<=a/\a<=900000000)/\s.kids.length=(ZU ds s.num).length)/\Jl ds s.kids:=by cases s;rw [wS];rfl
theorem Jk (b:Z7):wB ds b↔QR ds b.steps:=by cases b;rw [wB];rfl
theorem Bt:∀{xs:List Z5},QR ds xs↔∀s∈xs,wS ds s
 | []=>by simp [QR]
 | s::r=>by rw [QR,Bt];simp
theorem Ia:∀{xs:List Z7},Jl ds xs↔∀s∈xs,wB ds s
 | []=>by simp [Jl]
 | s::r=>by rw [Jl,Ia];simp
theorem Z2p {b:Z7} {k:Nat} {s:Z5} (h:wB ds b) (hs:b.steps[k]? = some s):wS ds s:=Bt.1 ((Jk b).1 h) s (Y4 hs)
theorem N7 {s:Z5} {k:Nat} {b:Z7} (h:wS ds s) (hb:s.kids[k]? = some b):wB ds b:=Ia.1 ((JY s).1 h).2.2.2 b (Y4 hb)
theorem Ib {s:Z5} (h:wS ds s) (hc:YM s.op=true):Cn s/\s.kids=[]/\∃a,s.args=[a]:=by
 obtain ⟨h1,h2,h3,a,h4⟩:=((JY s).1 h).2.1 hc
 refine ⟨?_,h3,a,h4⟩
 cases s with
 | mk op num into args kids=>
  simp only [Z5.num,Z5.into,Z5.kids,Z5.args] at h1 h2 h3 h4
  subst h1 h2 h3 h4
  rfl
theorem Zj8 {op v:Int} (h:op=14∨op=15∨op=16):wS ds (Zx op v):=(JY _).2 ⟨by show Xd op=!YM op;rcases h with rfl|rfl|rfl<;>rfl,fun _=>⟨rfl,rfl,rfl,v,rfl⟩,fun e=>absurd e (show op≠8 by omega),True.intro⟩
theorem Zj9 {s:Z5} (h:wS ds s):Xd s.op=!YM s.op:=((JY s).1 h).1
theorem G0 {s:Z5} (h:wS ds s) (h8:s.op=8):(∃a,s.args=[a]/\0<=a/\a<=900000000)/\s.kids.length=(ZU ds s.num).length:=((JY s).1 h).2.2.1 h8
theorem Ii {xs:List Z5} (h:QR ds xs):∀s∈xs,YM s.op=true->Cn s:=fun s hs hc=>(Ib (Bt.1 h s hs) hc).1
end
section
variable {n:ZF}
end
mutual
def Z5.pz:Z5->Nat
 | .mk _ _ _ args kids=>1+args.length+E2 kids
def Z7.pz:Z7->Nat
 | .mk steps _=>1+E3 steps
def E3:List Z5->Nat
 | []=>0
 | s::r=>s.pz+E3 r
def E2:List Z7->Nat
 | []=>0
 | b::r=>b.pz+8+E2 r
end
mutual
theorem Z5.pz_le:∀s:Z5,s.pz<=9*s.sz
 | .mk _ _ _ args kids=>by have:=Sz kids;rw [Z5.pz,Z5.sz];omega
theorem Z7.pz_le:∀b:Z7,b.pz+8<=9*b.sz
 | .mk steps _=>by have:=SA steps;rw [Z7.pz,Z7.sz];omega
theorem SA:∀xs:List Z5,E3 xs<=9*Yr xs
 | []=>T2 _
 | s::r=>by have:=s.pz_le;have:=SA r;rw [E3,Yr];omega
theorem Sz:∀xs:List Z7,E2 xs<=9*YV xs
 | []=>T2 _
 | s::r=>by have:=s.pz_le;have:=Sz r;rw [E2,YV];omega
end
section
variable {ds:List Zc}
theorem Z4t {op:Int} (h:op=14∨op=15):YM op=true:=by rw [YM];simp;omega
theorem Zg9 {xs:List Z5}:∀{m:Nat},QR ds xs->∀s∈VY ds m xs,s.op=14∨s.op=15->2<=s.sz:=by
 induction xs with
 | nil=>intro m _ s hs;simp [VY] at hs
 | cons t r ih=>
  intro m h s hs ho
  rw [VY] at hs
  rcases X0.1 hs with rfl|hs
  ·rw [FL] at ho ⊢
   obtain ⟨_,_,a,ha⟩:=Ib h.1 (Z4t ho)
   rw [Z5.sz,ha];simp
  ·exact ih h.2 s hs ho
variable (hd:Xl ds)
include hd
mutual
theorem Zg5:∀(s:Z5) {m:Nat},wS ds s->(KM ds m s).sz<=s.pz
 | .mk op num into args kids,m,h=>by
  have:=Z1b kids (m:=m) (op:=op) (num:=num) (args:=args) (k:=0) h.2.2.2
  rw [KM,Z5.sz,Z5.pz];omega
theorem Z1b:∀(bs:List Z7) {m:Nat} {op num:Int} {args:LI} {k:Nat},Jl ds bs->YV (UJ ds m op num args bs k)<=E2 bs
 | [],_,_,_,_,_,_=>X2 _
 | b::r,m,op,num,args,k,h=>by
  have h2:=Z1b r (m:=m) (op:=op) (num:=num) (args:=args) (k:=k+1) h.2
  rw [UJ,YV,E2]
  split
  ·have h1:=HS b (m:=m+(Wo ds num k).length) h.1
   have h3:=Z3s (xs:=(WV ds (m+(Wo ds num k).length) b).steps) (x:=gI args 0) (q:=(m:Int)) (GQ hd num k) (by rw [HR];exact Zg9 ((Jk b).1 h.1))
   rw [Kv,Z7.sz]
   rw [Z7.sz_eq] at h1
   omega
  ·have h1:=HS b (m:=m) h.1
   omega
theorem Z1d:∀(xs:List Z5) {m:Nat},QR ds xs->Yr (VY ds m xs)<=E3 xs
 | [],_,_=>X2 _
 | s::r,m,h=>by
  have h1:=Zg5 s (m:=m) h.1
  have h2:=Z1d r (m:=if YM s.op=true then m else m+1) h.2
  rw [VY,Yr,E3];omega
theorem HS:∀(b:Z7) {m:Nat},wB ds b->(WV ds m b).sz<=b.pz
 | .mk steps result,m,h=>by
  have:=Z1d steps (m:=m) h
  rw [WV,Z7.sz,Z7.pz];omega
end
end
section
variable {ds:List Zc} {m:Nat}
end
def Cg (ds:List Zc) (r:Yz):Yz:=⟨r.params,r.lent,r.result,WV ds r.params.length r.body⟩
def Da (n:ZF):ZF:=⟨n.decls,n.routines.map (Cg n.decls)⟩
end Go.Abs
namespace Go.Abs
theorem Zfk {xs:List Z5} {k:Nat} {s:Z5} {r:Nat} (h:xs[k]? = some s) (hs:s.op=14∨s.op=15) (ha:k+XJ (xs.drop k)=r):k+1+XJ (xs.drop (k+1))=r:=by
 rw [Yj h,XJ,Zf hs] at ha;omega
theorem Zfl {xs:List Z5} {k:Nat} {s:Z5} {r:Nat} (h:xs[k]? = some s) (hs:¬(s.op=14∨s.op=15)) (ha:k+XJ (xs.drop k)=r):k=r:=by
 rw [Yj h,XJ,Za hs] at ha;omega
theorem Zfj {xs:List Z5} {k:Nat} {r:Nat} (h:xs.length<=k) (ha:k+XJ (xs.drop k)=r):k=r:=by
 rw [Xj h,XJ] at ha;omega
theorem Z42 {op:Int} {xs:List Z5} {acc r:LI} {k:Nat} {s:Z5} (h:xs[k]? = some s) (hs:s.op=op) (ha:acc++Wm op (xs.drop k)=r):(acc++[gI s.args 0])++Wm op (xs.drop (k+1))=r:=by
 rw [Yj h,Wm,Zf hs] at ha;rw [<-ha];simp
theorem Z41 {op:Int} {xs:List Z5} {acc r:LI} {k:Nat} {s:Z5} (h:xs[k]? = some s) (hs:¬s.op=op) (ha:acc++Wm op (xs.drop k)=r):acc++Wm op (xs.drop (k+1))=r:=by
 rw [Yj h,Wm,Za hs] at ha;exact ha
theorem Z40 {op:Int} {xs:List Z5} {acc r:LI} {k:Nat} (h:xs.length<=k) (ha:acc++Wm op (xs.drop k)=r):acc=r:=by
 rw [Xj h,Wm,UN] at ha;exact ha
theorem Z6o {xs acc r:LI} {y:Int} {k:Nat} {x:Int} {d:Bool} (h:xs[k]? = some x) (ha:acc++(if d=true then xs.drop k else (xs.drop k).erase y)=r) :
  (if x=y/\¬d=true then acc else acc++[x])++(if ((x==y&&!d)||d)=true then xs.drop (k+1) else (xs.drop (k+1)).erase y)=r:=by
 rw [Yj h] at ha
 rw [<-ha]
 by_cases hd:d=true
 ·simp [hd]
 ·by_cases hx:x=y
  ·simp [hd,hx]
  ·rw [Za (fun z=>hx z.1),Za hd,List.erase_cons_tail (by simpa using hx)]
   simp [hd,hx]
theorem Z6n {xs acc r:LI} {y:Int} {k:Nat} {d:Bool} (h:xs.length<=k) (ha:acc++(if d=true then xs.drop k else (xs.drop k).erase y)=r):acc=r:=by
 rw [Xj h] at ha;simpa using ha
section
variable {fs D R:LI} {q k:Nat} {f:Int} {r:LI × LI}
theorem Zdl (h:fs[k]? = some f) (h0:f≠0) (hm:((q+k:Nat):Int)∈D) (ha:Un (fs.drop k) (q+k) D R=r):Un (fs.drop (k+1)) (q+((k+1:Nat):Int)) (D.erase ((q+k:Nat):Int)) R=r:=by
 rw [Yj h,Un,Zf ⟨h0,by rw [<-Int.natCast_add];exact hm⟩,<-Int.natCast_add] at ha
 rw [<-ha];congr 1
theorem Zdm (h:fs[k]? = some f) (h0:f≠0) (hm:¬((q+k:Nat):Int)∈D) (ha:Un (fs.drop k) (q+k) D R=r):Un (fs.drop (k+1)) (q+((k+1:Nat):Int)) D (R++[((q+k:Nat):Int)])=r:=by
 rw [Yj h,Un,Za (fun z=>hm (by rw [Int.natCast_add];exact z.2)),Zf h0,<-Int.natCast_add] at ha
 rw [<-ha];congr 1
theorem Zdn (h:fs[k]? = some f) (h0:¬f≠0) (ha:Un (fs.drop k) (q+k) D R=r):Un (fs.drop (k+1)) (q+((k+1:Nat):Int)) D R=r:=by
 rw [Yj h,Un,Za (fun z=>h0 z.1),Za h0] at ha
 rw [<-ha];congr 1
theorem Zdk (h:fs.length<=k) (ha:Un (fs.drop k) (q+k) D R=r):r=(D,R):=by
 rw [Xj h,Un] at ha;exact ha.symm
end
theorem Z3t {xs:List Z5} {x:Int} {fs:LI} {q:Int} {D R:LI} (h1:x∈Wm 15 (xs.take (XJ xs))) (h2:fs.length≠0) (hr:Jb xs x fs q=(D,R)):D.map (Zx 14)++[Zx 16 x]++R.map (Zx 15)++xs.drop (XJ xs)=QW xs x fs q:=by
 rw [QW,Zf ⟨h1,h2⟩,hr]
theorem Zg6 {ds:List Zc} {xs:List Z5}:∀{m:Nat},QR ds xs->∀s∈VY ds m xs,YM s.op=true->∃a,s.args=[a]:=by
 induction xs with
 | nil=>intro m _ s hs;simp [VY] at hs
 | cons t r ih=>
  intro m h s hs ho
  rw [VY] at hs
  rcases X0.1 hs with rfl|hs
  ·rw [FL] at ho ⊢
   exact (Ib h.1 ho).2.2
  ·exact ih h.2 s hs ho
end Go.Abs
end
namespace Go.Abs
mutual
def Z2.sz:Z2->Nat
 | .mk _ _ kids=>1+Xx kids
def Xx:List Z2->Nat
 | []=>0
 | e::r=>e.sz+Xx r
end
theorem Z2.sz_eq (e:Z2):e.sz=1+Xx e.kids:=by cases e;rw [Z2.sz];rfl
theorem EJ:∀xs ys:List Z2,Xx (xs++ys)=Xx xs+Xx ys
 | [],ys=>by simp [Xx]
 | x::r,ys=>by rw [Bu,Xx,Xx,EJ r];omega
theorem CG:∀{xs:List Z2} {k:Nat} {e:Z2},xs[k]? = some e->e.sz<=Xx xs
 | [],k,e,h=>by simp at h
 | x::r,0,e,h=>by simp at h;subst h;rw [Xx];omega
 | x::r,k+1,e,h=>by have:=CG (xs:=r) (k:=k) (by simpa using h);rw [Xx];omega
theorem OP:∀{xs:List Z2},xs.length<=Xx xs
 | []=>T2 _
 | x::r=>by have:=OP (xs:=r);have:=x.sz_eq;rw [Xx,Ys];omega
def B4:Zc:=⟨0,0,[⟨[]⟩,⟨[0,1]⟩]⟩
def B5:Zc:=⟨0,0,[⟨[]⟩,⟨[3,0,3]⟩]⟩
def O3:List Zc:=[⟨0,0,[⟨[1,3]⟩]⟩,⟨1,0,[]⟩,⟨0,0,[⟨[1,1,0]⟩,⟨[0]⟩,⟨[3]⟩]⟩,⟨0,1,[]⟩]
def At:List (List Zc):=[[B4,⟨0,0,[]⟩,B5],[B4,⟨0,0,[]⟩,B5,⟨0,0,[⟨[1,3]⟩]⟩],[B4,⟨0,0,[]⟩,B5,⟨1,0,[]⟩],[B4,⟨0,0,[]⟩,B5,⟨0,0,[⟨[1,1,0]⟩,⟨[0]⟩,⟨[3]⟩]⟩],[B4,⟨0,0,[]⟩,B5,⟨0,1,[]⟩]]
def GD (ds:List Zc):Prop:=ds∈At
theorem GD.ok {ds:List Zc} (h:GD ds):Xl ds:=by
 have k:=(by decide:∀ds∈At,ds.length<=4/\(∀d∈ds,d.cons.length<=3)/\∀d∈ds,∀c∈d.cons,c.fields.length<=3) ds h
 exact ⟨k.1,k.2.1,k.2.2⟩
theorem GD.len {ds:List Zc} (h:GD ds):3<=ds.length/\ds.length<=4:=by
 exact (by decide:∀ds∈At,3<=ds.length/\ds.length<=4) ds h
def Ja (t:Int):Prop:=t=0∨t=1∨t=3
instance (t:Int):Decidable (Ja t):=inferInstanceAs (Decidable (_∨_∨_))
theorem GD.low {ds:List Zc} (h:GD ds):ZU ds 0=[]/\ZU ds 1=[0,1]/\ZU ds 2=[]/\ZU ds 3=[2,3]/\ZO ds 0=[]/\ZO ds 1=[0,1]/\ZO ds 2=[]/\ZO ds 3=[3,0,3]:=
 (by decide:∀ds∈At,ZU ds 0=[]/\ZU ds 1=[0,1]/\ZU ds 2=[]/\ZU ds 3=[2,3]/\ZO ds 0=[]/\ZO ds 1=[0,1]/\ZO ds 2=[]/\ZO ds 3=[3,0,3]) ds h
theorem GD.fields {ds:List Zc} (h:GD ds):∀c∈ZU ds 1++(ZU ds 3++ZU ds 4),∀t∈ZO ds c,Ja t:=
 (by decide:∀ds∈At,∀c∈ZU ds 1++(ZU ds 3++ZU ds 4),∀t∈ZO ds c,Ja t) ds h
theorem GD.cons_cases {ds:List Zc} (h:GD ds) {t:Int} {c:Int} (hc:c∈ZU ds t):(0<=c/\c<=9)/\(t=1∨t=3∨t=4)/\(ZO ds c).length<=3/\∀u∈ZO ds c,Ja u:=by
 have ht:1<=t/\t<=ds.length:=by
  by_cases q:1<=t/\t<=ds.length
  ·exact q
  ·rw [ZU,Za q] at hc;cases hc
 have hl:=h.len
 have hlow:=h.low
 have key:∀c∈ZU ds 1++(ZU ds 3++ZU ds 4),0<=c/\c<=9:=
  (by decide:∀ds∈At,∀c∈ZU ds 1++(ZU ds 3++ZU ds 4),0<=c/\c<=9) ds h
 have h4:t=1∨t=2∨t=3∨t=4:=by omega
 have hf:=h.fields
 have hd:=V8 h.ok c
 rcases h4 with rfl|rfl|rfl|rfl
 ·exact ⟨key c (Xg.2 (.inl hc)),.inl rfl,hd,hf c (Xg.2 (.inl hc))⟩
 ·rw [hlow.2.2.1] at hc;cases hc
 ·exact ⟨key c (Xg.2 (.inr (Xg.2 (.inl hc)))),.inr (.inl rfl),hd,hf c (Xg.2 (.inr (Xg.2 (.inl hc))))⟩
 ·exact ⟨key c (Xg.2 (.inr (Xg.2 (.inr hc)))),.inr (.inr rfl),hd,hf c (Xg.2 (.inr (Xg.2 (.inr hc))))⟩
def Ju:List (LI × Int):=[([],0),([1],0),([1,1],1),([1],1),([1,0],1),([2,1],1),([1,1],0),([3],0),([0],1),([0,1],1),([3,0],3),([3],1),([1,3,0],0),([0],0),([0,0],0),([1,0],0)]
def To (f:Func):Prop:=(f.params,f.result)∈Ju
theorem To.bd {f:Func} (h:To f):f.params.length<=3/\(∀t∈f.params,0<=t/\t<=3)/\Ja f.result:=by
 have key:∀q∈Ju,q.1.length<=3/\(∀t∈q.1,0<=t/\t<=3)/\Ja q.2:=by decide
 exact key _ h
theorem To.clo {ds:List Zc} {f:Func} (hd:GD ds) (h:To f) (hp:0<A9 ds (gI f.params ((f.params.length:Int)-1)) f.result):∀t∈f.params.dropLast,Ja t:=by
 have key:∀q∈Ju,0<A9 ds (gI q.1 ((q.1.length:Int)-1)) q.2->∀t∈q.1.dropLast,Ja t:=
  (by decide +kernel:∀ds∈At,∀q∈Ju,0<A9 ds (gI q.1 ((q.1.length:Int)-1)) q.2->∀t∈q.1.dropLast,Ja t) ds hd
 exact key _ h hp
structure GP (p:W5):Prop where
 decls:GD p.decls
 len:1<=p.funcs.length/\p.funcs.length<=4
 sigs:∀f∈p.funcs,To f
def Qd (ds:List Zc) (op num:Int) (m:Nat) (k:Nat):Nat:=
 if op=13 then m+k else if op=8 then (if k=0 then m else m+(ZO ds (gI (ZU ds num) ((k:Int)-1))).length) else m
mutual
def eW (ds:List Zc) (nf:Nat):Nat->Z2->Prop
 | m,.mk op num kids=>(0<=op/\op<=13)/\(op=12->kids=[]/\0<=num/\num<m)/\(op=13->kids.length=2)/\(op=7->kids.length=3)/\(op=8->kids.length=1+(ZU ds num).length)/\(op=9->0<=num/\num<nf)/\(-2000<=num/\num<=2000)/\kids.length<=4 /\
  K3 ds nf (Qd ds op num m) 0 kids
def K3 (ds:List Zc) (nf:Nat) (sc:Nat->Nat):Nat->List Z2->Prop
 | _,[]=>True
 | k,e::r=>eW ds nf (sc k) e/\K3 ds nf sc (k+1) r
end
theorem Z6a {ds:List Zc} {nf m:Nat} (e:Z2):eW ds nf m e↔(0<=e.op/\e.op<=13)/\(e.op=12->e.kids=[]/\0<=e.num/\e.num<m)/\(e.op=13->e.kids.length=2)/\(e.op=7->e.kids.length=3)/\(e.op=8->e.kids.length=1+(ZU ds e.num).length)/\(e.op=9->0<=e.num/\e.num<nf)/\(-2000<=e.num/\e.num<=2000)/\e.kids.length<=4 /\
  K3 ds nf (Qd ds e.op e.num m) 0 e.kids:=by cases e;rw [eW];rfl
theorem DG {ds:List Zc} {nf:Nat} {sc:Nat->Nat}:∀{xs:List Z2} {j k:Nat} {e:Z2},K3 ds nf sc j xs->xs[k]? = some e->eW ds nf (sc (j+k)) e
 | [],j,k,e,_,h=>by simp at h
 | x::r,j,0,e,hw,h=>by simp at h;subst h;exact hw.1
 | x::r,j,k+1,e,hw,h=>by
  have:=DG (xs:=r) (j:=j+1) (k:=k) hw.2 (by simpa using h)
  rw [show j+(k+1)=j+1+k by omega];exact this
theorem Oj {ds:List Zc} {nf:Nat} {sc:Nat->Nat}:∀{xs ys:List Z2} {j:Nat},K3 ds nf sc j (xs++ys)↔K3 ds nf sc j xs/\K3 ds nf sc (j+xs.length) ys
 | [],ys,j=>by simp [K3]
 | x::r,ys,j=>by
  rw [Bu,K3,K3,Oj (xs:=r),and_assoc,Ys,show j+1+r.length=j+(r.length+1) by omega]
theorem Li {ds:List Zc} {nf m:Nat} {sc:Nat->Nat} (hs:∀k,sc k=m):∀{xs:List Z2} {j:Nat},(∀e∈xs,eW ds nf m e)->K3 ds nf sc j xs
 | [],_,_=>True.intro
 | x::r,j,h=>⟨by rw [hs];exact h x (Xf ..),Li hs fun e he=>h e (Xr _ he)⟩
theorem CF {ds:List Zc} {nf m:Nat} {op num:Int} {kids:List Z2} (ho:0<=op/\op<=11/\op≠7/\op≠8) (hc:op=9->0<=num/\num<nf) (hn:-2000<=num/\num<=2000) (hl:kids.length<=4) (hk:∀e∈kids,eW ds nf m e):eW ds nf m (.mk op num kids):=by
 rw [eW]
 refine ⟨by omega,fun h=>by omega,fun h=>by omega,fun h=>by omega,fun h=>by omega,hc,hn,hl,Li (m:=m) (fun k=>?_) hk⟩
 rw [Qd,Za om,Za om]
theorem Z6b {ds:List Zc} {nf m:Nat} {z:Int} (hz:-2000<=z/\z<=2000):eW ds nf m (.mk 0 z []):=CF om (fun h=>by omega) hz (by simp) (fun e he=>by cases he)
theorem Z6c {ds:List Zc} {nf m:Nat} {z:Int} (hz:0<=z/\z<m) (hm:m<=2000):eW ds nf m (.mk 12 z []):=by
 rw [eW]
 exact ⟨by omega,fun _=>⟨rfl,hz⟩,fun h=>by omega,fun h=>by omega,fun h=>by omega,fun h=>by omega,by omega,by simp,True.intro⟩
theorem Oh {ds:List Zc} {nf m:Nat} {num:Int} {kids:List Z2} (hn:-2000<=num/\num<=2000) (hl:kids.length=3) (hk:∀e∈kids,eW ds nf m e):eW ds nf m (.mk 7 num kids):=by
 rw [eW]
 refine ⟨by omega,fun h=>by omega,fun h=>by omega,fun _=>hl,fun h=>by omega,fun h=>by omega,hn,by omega,Li (m:=m) (fun k=>?_) hk⟩
 rw [Qd,Za om,Za om]
theorem Oi {ds:List Zc} {nf m:Nat} {num:Int} {a b:Z2} (hn:-2000<=num/\num<=2000) (ha:eW ds nf m a) (hb:eW ds nf (m+1) b):eW ds nf m (.mk 13 num [a,b]):=by
 rw [eW]
 exact ⟨by omega,fun h=>by omega,fun _=>rfl,fun h=>by omega,fun h=>by omega,fun h=>by omega,hn,by simp,ha,hb,True.intro⟩
theorem Lh {ds:List Zc} {nf m:Nat} {num:Int} {a:Z2} {arms:List Z2} (hn:-2000<=num/\num<=2000) (h3:arms.length<=3) (hl:arms.length=(ZU ds num).length) (ha:eW ds nf m a) (hk:K3 ds nf (Qd ds 8 num m) 1 arms):eW ds nf m (.mk 8 num (a::arms)):=by
 rw [eW]
 refine ⟨by omega,fun h=>by omega,fun h=>by omega,fun h=>by omega,fun _=>by rw [Ys];omega,fun h=>by omega,hn,by rw [Ys];omega,?_,hk⟩
 rw [Qd,Za om,Zf rfl,Zf rfl]
 exact ha
def bS (b:Nat):Nat:=max 4 (10*b-10)
def bC (b:Nat):Nat:=max 40 (100*b-100)
def Yp:List Z5->Nat
 | []=>0
 | s::r=>(if YM s.op=true then 0 else 1)+Yp r
theorem T6:∀xs ys:List Z5,Yp (xs++ys)=Yp xs+Yp ys
 | [],ys=>by simp [Yp]
 | x::r,ys=>by rw [Bu,Yp,Yp,T6 r];omega
theorem B6:∀xs:List Z5,Yp xs<=xs.length
 | []=>X2 _
 | x::r=>by have:=B6 r;rw [Yp,Ys];split<;>omega
def WK (ds:List Zc) (op num:Int) (m:Nat) (k:Nat):Nat:=if op=8 then m+(ZO ds (gI (ZU ds num) k)).length else m
mutual
def fS (ds:List Zc) (nf:Nat):Nat->Z5->Prop
 | m,.mk op num into args kids=>((0<=op/\op<=11)∨(14<=op/\op<=17))/\(∀a∈args,0<=a/\a<m)/\(14<=op->num=0/\into=0/\kids=[]/\∃a,args=[a])/\(op=7->kids.length=2)/\(op=8->kids.length=(ZU ds num).length)/\(op=7∨op=8->∃a,args=[a]) /\
  (op=9->0<=num/\num<nf)/\(-2000<=num/\num<=2000)/\(0<=into/\into<=m)/\args.length<=4/\(op≠7/\op≠8->kids=[])/\VB ds nf (WK ds op num m) 0 kids
def VB (ds:List Zc) (nf:Nat) (sc:Nat->Nat):Nat->List Z7->Prop
 | _,[]=>True
 | k,b::r=>fB ds nf (sc k) b/\VB ds nf sc (k+1) r
def W3 (ds:List Zc) (nf:Nat):Nat->List Z5->Prop
 | _,[]=>True
 | m,s::r=>fS ds nf m s/\W3 ds nf (if YM s.op=true then m else m+1) r
def fB (ds:List Zc) (nf:Nat):Nat->Z7->Prop
 | m,.mk steps result=>W3 ds nf m steps/\0<=result/\result<(m+Yp steps:Nat)
end
section
variable {ds:List Zc} {nf:Nat}
structure FS (ds:List Zc) (nf m:Nat) (s:Z5):Prop where
 op:(0<=s.op/\s.op<=11)∨(14<=s.op/\s.op<=17)
 args:∀a∈s.args,0<=a/\a<m
 cnt:14<=s.op->s.num=0/\s.into=0/\s.kids=[]/\∃a,s.args=[a]
 k7:s.op=7->s.kids.length=2
 k8:s.op=8->s.kids.length=(ZU ds s.num).length
 one:s.op=7∨s.op=8->∃a,s.args=[a]
 call:s.op=9->0<=s.num/\s.num<nf
 num:-2000<=s.num/\s.num<=2000
 into:0<=s.into/\s.into<=m
 alen:s.args.length<=4
 kn:s.op≠7/\s.op≠8->s.kids=[]
 kids:VB ds nf (WK ds s.op s.num m) 0 s.kids
theorem Bb {m:Nat} (s:Z5):fS ds nf m s↔FS ds nf m s:=by
 cases s
 rw [fS]
 exact ⟨fun ⟨h1,h2,h3,h4,h5,h6,h7,h8,h9,h10,h11,h12⟩=>⟨h1,h2,h3,h4,h5,h6,h7,h8,h9,h10,h11,h12⟩,fun h=>⟨h.op,h.args,h.cnt,h.k7,h.k8,h.one,h.call,h.num,h.into,h.alen,h.kn,h.kids⟩⟩
theorem J3 {m:Nat} (b:Z7):fB ds nf m b↔W3 ds nf m b.steps/\0<=b.result/\b.result<(m+Yp b.steps:Nat):=by cases b;rw [fB];rfl
theorem BT {sc:Nat->Nat}:∀{xs:List Z7} {j k:Nat} {b:Z7},VB ds nf sc j xs->xs[k]? = some b->fB ds nf (sc (j+k)) b
 | [],j,k,b,_,h=>by simp at h
 | x::r,j,0,b,hw,h=>by simp at h;subst h;exact hw.1
 | x::r,j,k+1,b,hw,h=>by
  have:=BT (xs:=r) (j:=j+1) (k:=k) hw.2 (by simpa using h)
  rw [show j+(k+1)=j+1+k by omega];exact this
theorem OR {sc:Nat->Nat}:∀{xs ys:List Z7} {j:Nat},VB ds nf sc j (xs++ys)↔VB ds nf sc j xs/\VB ds nf sc (j+xs.length) ys
 | [],ys,j=>by simp [VB]
 | x::r,ys,j=>by
  rw [Bu,VB,VB,OR (xs:=r),and_assoc,Ys,show j+1+r.length=j+(r.length+1) by omega]
theorem OT {sc:Nat->Nat} {xs:List Z7} {b:Z7} (h:VB ds nf sc 0 xs) (hb:fB ds nf (sc xs.length) b):VB ds nf sc 0 (xs++[b]):=
 OR.2 ⟨h,by rw [Wj];exact hb,True.intro⟩
theorem Ap:∀{xs ys:List Z5} {m:Nat},W3 ds nf m (xs++ys)↔W3 ds nf m xs/\W3 ds nf (m+Yp xs) ys
 | [],ys,m=>by simp [W3,Yp]
 | x::r,ys,m=>by
  rw [Bu,W3,W3,Ap (xs:=r),and_assoc,Yp]
  by_cases h:YM x.op=true
  ·rw [Zf h,Zf h,Wj]
  ·rw [Za h,Za h,AS]
theorem GO {xs:List Z5} {s:Z5} {m:Nat} (h:W3 ds nf m xs) (hs:fS ds nf (m+Yp xs) s):W3 ds nf m (xs++[s]):=Ap.2 ⟨h,hs,True.intro⟩
theorem DI:∀{xs:List Z5} {k m:Nat} {s:Z5},W3 ds nf m xs->xs[k]? = some s->fS ds nf (m+Yp (xs.take k)) s
 | [],k,m,s,_,h=>by simp at h
 | x::r,0,m,s,hw,h=>by simp at h;subst h;exact hw.1
 | x::r,k+1,m,s,hw,h=>by
  have:=DI (xs:=r) (k:=k) hw.2 (by simpa using h)
  rw [AR,Yp]
  by_cases hc:YM x.op=true
  ·rw [Zf hc] at this ⊢;rw [Wj];exact this
  ·rw [Za hc] at this ⊢;rw [<-AS];exact this
theorem Lp {op v:Int} {m:Nat} (ho:14<=op/\op<=17) (hv:0<=v/\v<m):fS ds nf m (Zx op v):=by
 rw [Zx,fS]
 exact ⟨.inr ho,fun a ha=>by rw [Xs.1 ha];exact hv,fun _=>⟨rfl,rfl,rfl,v,rfl⟩,fun h=>by omega,fun h=>by omega,fun h=>by omega,fun h=>by omega,by omega,by omega,by simp,fun _=>rfl,True.intro⟩
theorem GN {op:Int} {m:Nat} (ho:14<=op/\op<=17):∀{vs:LI},(∀v∈vs,0<=v/\v<(m:Int))->W3 ds nf m (vs.map (Zx op))/\Yp (vs.map (Zx op))=0
 | [],_=>⟨True.intro,rfl⟩
 | v::r,h=>by
  obtain ⟨h1,h2⟩:=GN ho (vs:=r) fun x hx=>h x (Xr _ hx)
  have hc:YM op=true:=by simp [YM];omega
  have hc':YM (Zx op v).op=true:=hc
  rw [Tm,W3,Yp,Zf hc',Zf hc',Wj]
  exact ⟨⟨Lp ho (h v (Xf ..)),h1⟩,h2⟩
mutual
theorem Zjb:∀(s:Z5) {m:Nat},fS ds nf m s->m+4*s.sz<=900000000->Xl ds->wS ds s
 | .mk op num into args kids,m,h,hb,hd=>by
  rw [fS] at h
  obtain ⟨h1,h2,h3,h4,h5,h6,h7,h8,h9,h10,h11,h12⟩:=h
  rw [Z5.sz] at hb
  rw [wS]
  refine ⟨?_,fun hc=>h3 (show 14<=op/\op<=17 by simpa [YM] using hc).1,fun h8'=>⟨?_,h5 h8'⟩,Z2q kids h12 (fun k=>?_) hd⟩
  ·rcases h1 with h1|h1
   ·have e1:YM op=false:=by simp [YM];omega
    have e2:Xd op=true:=by simp [Xd];omega
    rw [e1,e2];rfl
   ·have e1:YM op=true:=by simp [YM];omega
    have e2:Xd op=false:=by simp [Xd];omega
    rw [e1,e2];rfl
  ·obtain ⟨a,ha⟩:=h6 (.inr h8')
   have:=h2 a (by rw [ha];exact Xs.2 rfl)
   exact ⟨a,ha,by omega⟩
  ·have hf:=V8 hd (gI (ZU ds num) k)
   show WK ds op num m k+4*YV kids<=900000003
   rw [WK];split<;>omega
theorem Z2q:∀(bs:List Z7) {sc:Nat->Nat} {k:Nat},VB ds nf sc k bs->(∀k,sc k+4*YV bs<=900000003)->Xl ds->Jl ds bs
 | [],_,_,_,_,_=>True.intro
 | b::r,sc,k,h,hb,hd=>by
  have hp:=b.sz_eq
  exact ⟨N4 b h.1 (by have:=hb k;rw [YV] at this;omega) hd,Z2q r h.2 (fun j=>by have:=hb j;rw [YV] at this;omega) hd⟩
theorem Z2t:∀(xs:List Z5) {m:Nat},W3 ds nf m xs->m+4*Yr xs<=900000000->Xl ds->QR ds xs
 | [],_,_,_,_=>True.intro
 | s::r,m,h,hb,hd=>by
  rw [Yr] at hb
  have hp:=s.sz_pos
  refine ⟨Zjb s h.1 om hd,Z2t r h.2 ?_ hd⟩
  split<;>omega
theorem N4:∀(b:Z7) {m:Nat},fB ds nf m b->m+4*b.sz<=900000004->Xl ds->wB ds b
 | .mk steps result,m,h,hb,hd=>by
  rw [Z7.sz] at hb
  rw [fB] at h
  rw [wB]
  exact Z2t steps h.1 om hd
end
mutual
theorem Zf4:∀(s:Z5) {m:Nat},fS ds nf m s->s.rng
 | .mk op num into args kids,m,h=>by
  rw [fS] at h
  obtain ⟨h1,h2,h3,h4,h5,h6,h7,h8,h9,h10,h11,h12⟩:=h
  rw [Z5.rng]
  exact ⟨by omega,Z0d kids h12⟩
theorem Z0d:∀(bs:List Z7) {sc:Nat->Nat} {k:Nat},VB ds nf sc k bs->Ad bs
 | [],_,_,_=>True.intro
 | b::r,sc,k,h=>⟨Mx b h.1,Z0d r h.2⟩
theorem Z0e:∀(xs:List Z5) {m:Nat},W3 ds nf m xs->AN xs
 | [],_,_=>True.intro
 | s::r,m,h=>⟨Zf4 s h.1,Z0e r h.2⟩
theorem Mx:∀(b:Z7) {m:Nat},fB ds nf m b->b.rng
 | .mk steps result,m,h=>by rw [fB] at h;rw [Z7.rng];exact Z0e steps h.1
end
end
structure FN (n:ZF) (q:Nat):Prop where
 decls:GD n.decls
 len:1<=n.routines.length/\n.routines.length<=4
 sigs:∀r∈n.routines,(r.params,r.result)∈Ju
 lent:∀r∈n.routines,r.lent.length<=3/\∀i∈r.lent,0<=i/\i<r.params.length
 body:∀r∈n.routines,fB n.decls n.routines.length r.params.length r.body/\r.body.sz<=q
theorem FN.ok {n:ZF} {q:Nat} (h:FN n q):Xv n:=
 ⟨h.decls.ok,h.len.2,fun r hr=>(To.bd (f:=⟨r.params,r.result,default⟩) (h.sigs r hr)).1,fun r hr=>by have:=(h.lent r hr).1;omega⟩
def Pk (n k:Int):Prop:=0<=k/\(0<n->k<n)/\(n<=0->k=0)
theorem Pk.lt {n k:Int} (h:Pk n k) (hn:0<n):0<=k/\k<n:=⟨h.1,h.2.1 hn⟩
theorem Pk.zero {n:Int}:Pk n 0:=⟨Int.le_refl _,fun h=>h,fun _=>rfl⟩
theorem Pk.rem {n a:Int} (ha:0<=a) (hn:0<n):Pk n (a % n):=⟨Int.emod_nonneg _ om,fun _=>Int.emod_lt_of_pos _ hn,fun _=>by omega⟩
def AD (ds:List Zc):Prop:=ds.length<=8/\∀d∈ds,d.cons.length<=4/\∀c∈d.cons,c.fields.length<=4
theorem GD.ad {ds:List Zc} (h:GD ds):AD ds:=(by decide:∀ds∈At,ds.length<=8/\∀d∈ds,d.cons.length<=4/\∀c∈d.cons,c.fields.length<=4) ds h
theorem GD.three:GD [B4,⟨0,0,[]⟩,B5]:=List.Mem.head _
theorem GD.four:∀{k:Nat} {x:Zc},O3[k]? = some x->GD ([B4,⟨0,0,[]⟩,B5]++[x])
 | 0,x,h=>by cases h;exact .tail _ (.head _)
 | 1,x,h=>by cases h;exact .tail _ (.tail _ (.head _))
 | 2,x,h=>by cases h;exact .tail _ (.tail _ (.tail _ (.head _)))
 | 3,x,h=>by cases h;exact .tail _ (.tail _ (.tail _ (.tail _ (.head _))))
 | k+4,x,h=>by simp [O3] at h
theorem C8 {l:LI} {z a b:Int} (h:z∈l) (hl:l.all (fun x=>decide (a<=x/\x<=b))=true):a<=z/\z<=b:=by
 have:=A0.1 hl z h
 exact of_decide_eq_true this
def rk (t:Int):Nat:=if Ja t then 0 else 1
theorem Mw (t:Int):rk t<=1:=by rw [rk];split<;>omega
theorem Z0c {t:Int} (h:Ja t):rk t=0:=Zf h
def SE (g:W5) (q:Nat) (e:Z2):Prop:=(∀m,eW g.decls g.funcs.length m e)/\e.sz<=q
def GE (g:W5) (m q:Nat) (e:Z2):Prop:=eW g.decls g.funcs.length m e/\e.sz<=q
theorem SE.ge {g:W5} {q q' m:Nat} {e:Z2} (h:SE g q e) (hq:q<=q'):GE g m q' e:=⟨h.1 m,V7 h.2 hq⟩
theorem GE.le {g:W5} {m q q':Nat} {e:Z2} (h:GE g m q e) (hq:q<=q'):GE g m q' e:=⟨h.1,V7 h.2 hq⟩
theorem GM {m:Nat}:∀{xs:List Z2},(∀e∈xs,e.sz<=m)->Xx xs<=xs.length*m
 | [],_=>T2 _
 | x::r,h=>by
  have h1:=h x (Xf ..)
  have h2:=GM (xs:=r) fun e he=>h e (Xr _ he)
  rw [Xx,Ys,TN];omega
theorem XC {α:Type} {p:α->Prop} {xs:List α} {a:α} (h:∀x∈xs,p x) (ha:p a):∀x∈xs++[a],p x:=fun x hx=>(Xg.1 hx).elim (h x) fun q=>by rw [Xs.1 q];exact ha
theorem SE.int {g:W5} {z:Int} {q:Nat} (hz:-2000<=z/\z<=2000) (hq:1<=q):SE g q (.mk 0 z []):=⟨fun _=>Z6b hz,by simpa [Z2.sz,Xx] using hq⟩
theorem SE.node {g:W5} {op num:Int} {ys:List Z2} {q k:Nat} (ho:op=6∨op=10) (hn:0<=num/\num<=2000) (hy:∀e∈ys,SE g 1 e) (hl:ys.length<=k) (hk:k<=3) (hq:1+k<=q):SE g q (.mk op num ys):=by
 refine ⟨fun m=>CF om (fun h=>by omega) om om fun e he=>(hy e he).1 m,?_⟩
 have:=GM (xs:=ys) (m:=1) fun e he=>(hy e he).2
 rw [Z2.sz];omega
def BF (ds:List Zc) (t c:Int):Prop:=(0<=c/\c<=9)/\(ZO ds c).length<=3*rk t/\∀u∈ZO ds c,Ja u
instance (ds:List Zc) (t c:Int):Decidable (BF ds t c):=inferInstanceAs (Decidable (_/\_/\_))
theorem Z0z {ds:List Zc} (h:GD ds):∀t∈[(1:Int),2,3,4],∀c∈ZU ds t,(t∈ZO ds c->∀c0,(ZU ds t)[0]? = some c0->BF ds t c0)/\(¬t∈ZO ds c->BF ds t c):=by
 intro t ht c hc
 have k1:=(by decide:∀ds∈At,∀t∈[(1:Int),2,3,4],∀c∈ZU ds t,(t∈ZO ds c->BF ds t (gI (ZU ds t) 0))/\(¬t∈ZO ds c->BF ds t c)) ds h t ht c hc
 refine ⟨fun q c0 h0=>?_,k1.2⟩
 have:=k1.1 q
 rwa [Te (i:=0) h0] at this
theorem O0 {ds:List Zc} (h:GD ds) {t c:Int} (hc:c∈ZU ds t):t∈[(1:Int),2,3,4]:=by
 obtain ⟨_,h2,_⟩:=h.cons_cases hc
 rcases h2 with rfl|rfl|rfl<;>simp
theorem Zfx {ds:List Zc} (h:GD ds) {t c c0:Int} (hc:c∈ZU ds t) (ht:t∈ZO ds c) (h0:(ZU ds t)[0]? = some c0):BF ds t c0:=(Z0z h t (O0 h hc) c hc).1 ht c0 h0
theorem Zfw {ds:List Zc} (h:GD ds) {t c:Int} (hc:c∈ZU ds t) (ht:¬t∈ZO ds c):BF ds t c:=(Z0z h t (O0 h hc) c hc).2 ht
theorem Zf3 {ds:List Zc} (h:GD ds) {t:Int} (h0:(ZU ds t).length=0) (ht:0<t):rk t=1:=by
 rw [rk,Za]
 rintro (q|q|q)
 ·omega
 ·rw [q,h.low.2.1] at h0;cases h0
 ·rw [q,h.low.2.2.2.1] at h0;cases h0
def AT (g:W5) (t i:Int):Prop:=0<=i/\∃f,g.funcs[i.toNat]? = some f/\0<f.params.length/\A9 g.decls (gI f.params ((f.params.length:Int)-1)) f.result=t
theorem AT.lt {g:W5} {t i:Int} (h:AT g t i):0<=i/\i<g.funcs.length:=by
 obtain ⟨h1,f,h2,_⟩:=h
 have:=(Xu.1 h2).1
 omega
theorem AT.mk {g:W5} {t x2:Int} {k:Nat} {f:Func} (hf:g.funcs[k]? = some f) (hl:0<f.params.length) (hx:f.params[f.params.length-1]? = some x2) (ha:A9 g.decls x2 f.result=t):AT g t (k:Int):=by
 refine ⟨by omega,f,by simpa using hf,hl,?_⟩
 rw [Te (i:=(f.params.length:Int)-1) (by rw [show ((f.params.length:Int)-1).toNat=f.params.length-1 by omega];exact hx)]
 exact ha
theorem AT.low {g:W5} {t i u:Int} {f:Func} {j:Nat} (hg:GP g) (h:AT g t i) (ht:0<t) (hf:g.funcs[i.toNat]? = some f) (hj:j+1<f.params.length) (hu:f.params[j]? = some u):rk u=0:=by
 obtain ⟨_,f',h2,_,h4⟩:=h
 have e:f'=f:=Dj (h2.symm.trans hf)
 subst e
 have h5:=(hg.sigs f' (Y4 hf)).clo hg.decls (by rw [h4];exact ht)
 refine Z0c (h5 u ?_)
 rw [List.dropLast_eq_take]
 exact Y4 (i:=j) (by rw [List.getElem?_take_of_lt om];exact hu)
end Go.Abs
section
namespace Go.Abs
theorem Ab (b:Nat):bS b=max 4 (10*b-10):=rfl
theorem Aa (b:Nat):bC b=max 40 (100*b-100):=rfl
theorem F9 {L q b:Nat} (hL:L<=3) (hb:3<=b) (hq:L*q<=b-1):1+L*bS q<=bS b:=by
 rw [Ab,Ab]
 have:L=0∨L=1∨L=2∨L=3:=by omega
 rcases this with rfl|rfl|rfl|rfl<;>omega
theorem Zck {L q b:Nat} (hL:L<=3) (hb:3<=b) (hq:L*q<=b-2):5+L*bS q<=bS b:=by
 rw [Ab,Ab]
 have:L=0∨L=1∨L=2∨L=3:=by omega
 rcases this with rfl|rfl|rfl|rfl<;>omega
theorem Zci {b:Nat} (hb:3<=b):1+(bS (b / 2)+bS (b / 2))<=bS b:=by rw [Ab,Ab];omega
theorem Z3v {b:Nat} (hb:3<=b):5+bS (b-2)<=bS b:=by rw [Ab,Ab];omega
theorem Bl {L q b:Nat} (hL:L<=3) (hb:3<=b) (hq:L*q<=b-1):10+L*bC q<=bC b:=by
 rw [Aa,Aa]
 have:L=0∨L=1∨L=2∨L=3:=by omega
 rcases this with rfl|rfl|rfl|rfl<;>omega
theorem Zcj {L q b:Nat} (hL:L<=3) (hb:3<=b) (hq:L*q<=b-2):40+L*bC q<=bC b:=by
 rw [Aa,Aa]
 have:L=0∨L=1∨L=2∨L=3:=by omega
 rcases this with rfl|rfl|rfl|rfl<;>omega
theorem Zch {b:Nat} (hb:3<=b):10+(bC (b / 2)+bC (b / 2))<=bC b:=by rw [Aa,Aa];omega
theorem Z3u {b:Nat} (hb:3<=b):40+bC (b-2)<=bC b:=by rw [Aa,Aa];omega
theorem NE (b:Nat):4<=bS b:=by rw [Ab];omega
theorem ND (b:Nat):40<=bC b:=by rw [Aa];omega
theorem Ql (L b:Nat):L*(b / L)<=b:=Nat.mul_div_le b L
theorem RZ {k L C:Nat} (h:k<L):(k+1)*C=k*C+C/\(k+1)*C<=L*C:=⟨by rw [TN,Nat.one_mul],Jr C h⟩
theorem Ea {ds:List Zc} {d x:Int} {m k:Nat} (h:(ZU ds d)[k]? = some x):Qd ds 8 d m (1+k)=m+(ZO ds x).length:=by
 rw [Qd,Za om,Zf rfl,Za om,Te (i:=((1+k:Nat):Int)-1) (by rw [show (((1+k:Nat):Int)-1).toNat=k by omega];exact h)]
section
variable {g:W5} {m:Nat}
theorem GE.var {z:Int} {q:Nat} (hz:0<=z/\z<m) (hm:m<=2000) (hq:1<=q):GE g m q (.mk 12 z []):=⟨Z6c hz hm,by simpa [Z2.sz,Xx] using hq⟩
theorem GE.list {ys:List Z2} {L s:Nat} (h:∀e∈ys,GE g m s e) (hl:ys.length=L):Xx ys<=L*s:=by rw [<-hl];exact GM fun e he=>(h e he).2
theorem GE.node {op num:Int} {ys:List Z2} {L s q:Nat} (ho:0<=op/\op<=11/\op≠7/\op≠8) (hc:op=9->0<=num/\num<g.funcs.length) (hn:-2000<=num/\num<=2000) (h:∀e∈ys,GE g m s e) (hl:ys.length=L) (hL:L<=3) (hq:1+L*s<=q):GE g m q (.mk op num ys):=by
 have:=GE.list h hl
 exact ⟨CF ho hc hn om fun e he=>(h e he).1,by rw [Z2.sz];omega⟩
theorem GE.if_ {num:Int} {ys:List Z2} {s q:Nat} (hn:-2000<=num/\num<=2000) (h:∀e∈ys,GE g m s e) (hl:ys.length=3) (hq:1+3*s<=q):GE g m q (.mk 7 num ys):=by
 have:=GE.list h hl
 exact ⟨Oh hn hl fun e he=>(h e he).1,by rw [Z2.sz];omega⟩
theorem GE.let_ {a b:Z2} {s q:Nat} (ha:GE g m s a) (hb:GE g (m+1) s b) (hq:1+(s+s)<=q):GE g m q (.mk 13 0 [a,b]):=by
 refine ⟨Oi om ha.1 hb.1,?_⟩
 have h1:=ha.2
 have h2:=hb.2
 simp only [Z2.sz,Xx];omega
theorem GE.two {op num:Int} {a b:Z2} {s1 s2 q:Nat} (ho:0<=op/\op<=11/\op≠7/\op≠8/\op≠9) (hn:-2000<=num/\num<=2000) (ha:GE g m s1 a) (hb:GE g m s2 b) (hq:1+(s1+s2)<=q):GE g m q (.mk op num [a,b]):=by
 refine ⟨CF om (fun h=>by omega) hn (by simp) fun e he=>?_,?_⟩
 ·rcases X0.1 he with rfl|he
  ·exact ha.1
  ·rw [Xs.1 he];exact hb.1
 ·have h1:=ha.2
  have h2:=hb.2
  simp only [Z2.sz,Xx];omega
theorem GE.match_ {d:Int} {e:Z2} {ys:List Z2} {L s q:Nat} (hd:-2000<=d/\d<=2000) (he:GE g m 4 e) (hw:K3 g.decls g.funcs.length (Qd g.decls 8 d m) 1 ys) (hs:∀e∈ys,e.sz<=s) (hl:ys.length=L) (hL:L=(ZU g.decls d).length) (h3:L<=3) (hq:5+L*s<=q):GE g m q (.mk 8 d (e::ys)):=by
 refine ⟨Lh hd om om he.1 hw,?_⟩
 have h1:=GM hs
 rw [hl] at h1
 have h2:=he.2
 rw [Z2.sz,Xx];omega
end
def NL (s:Nat) (left w:Int):Prop:=((s:Int)<=left/\w=left-s)∨(left<s/\w=-1)
end Go.Abs
namespace Go.Abs
theorem CX {L b p pp M:Nat} (hL:L<=3) (hb:3<=b) (h:pp<=p+8) (hp:p+(bC b-1)<=M):pp+L*bC ((b-1) / L)<=M:=by
 have:=Bl hL hb (Ql L (b-1))
 omega
end Go.Abs
end
namespace Go.Abs
theorem Z6p (a b:Z2):Xx [a,b]=a.sz+b.sz:=by simp only [Xx];omega
theorem GK (a b c:Z2):Xx [a,b,c]=a.sz+b.sz+c.sz:=by simp only [Xx];omega
theorem Ew:bS 3=20/\bS 4=30/\bS 12=110/\bS 16=150/\bS 18=170/\bC 3=200/\bC 4=300/\bC 16=1500:=by decide
theorem Gi {b:Nat} (h:b<=20):bS b<=190/\bC b<=1900/\(b<=2->bS b<=10):=by rw [Ab,Aa];omega
section
variable {g:W5} {m:Nat}
theorem SE.ofs {op num:Int} {ys:List Z2} {q:Nat} (ho:0<=op/\op<=11/\op≠7/\op≠8/\op≠9) (hn:-2000<=num/\num<=2000) (hl:ys.length<=4) (hy:∀e∈ys,∃s,SE g s e) (hq:1+Xx ys<=q):SE g q (.mk op num ys):=
 ⟨fun m=>CF om (fun h=>by omega) hn hl fun e he=>let ⟨_,h⟩:=hy e he;h.1 m,by rw [Z2.sz];exact hq⟩
theorem SE.nil {op num:Int} {q:Nat} (ho:0<=op/\op<=11/\op≠7/\op≠8/\op≠9) (hn:-2000<=num/\num<=2000) (hq:1<=q):SE g q (.mk op num []):=
 SE.ofs ho hn (by simp) (fun e he=>by cases he) (by simpa [Xx] using hq)
theorem SE.two {op num:Int} {a b:Z2} {s1 s2 q:Nat} (ho:0<=op/\op<=11/\op≠7/\op≠8/\op≠9) (hn:-2000<=num/\num<=2000) (ha:SE g s1 a) (hb:SE g s2 b) (hq:1+(s1+s2)<=q):SE g q (.mk op num [a,b]):=by
 refine SE.ofs ho hn (by simp) (fun e he=>?_) ?_
 ·rcases X0.1 he with rfl|he
  ·exact ⟨_,ha⟩
  ·rw [Xs.1 he];exact ⟨_,hb⟩
 ·have h1:=ha.2
  have h2:=hb.2
  rw [Z6p];omega
theorem SE.three {op num:Int} {a b c:Z2} {s1 s2 s3 q:Nat} (ho:0<=op/\op<=11/\op≠7/\op≠8/\op≠9) (hn:-2000<=num/\num<=2000) (ha:SE g s1 a) (hb:SE g s2 b) (hc:SE g s3 c) (hq:1+(s1+s2+s3)<=q):SE g q (.mk op num [a,b,c]):=by
 refine SE.ofs ho hn (by simp) (fun e he=>?_) ?_
 ·rcases X0.1 he with rfl|he
  ·exact ⟨_,ha⟩
  ·rcases X0.1 he with rfl|he
   ·exact ⟨_,hb⟩
   ·rw [Xs.1 he];exact ⟨_,hc⟩
 ·have h1:=ha.2
  have h2:=hb.2
  have h3:=hc.2
  rw [GK];omega
theorem GE.int {z:Int} {q:Nat} (hz:-2000<=z/\z<=2000) (hq:1<=q):GE g m q (.mk 0 z []):=(SE.int (g:=g) (q:=q) hz hq).ge (X2 _)
theorem GE.three {op num:Int} {a b c:Z2} {s1 s2 s3 q:Nat} (ho:0<=op/\op<=11/\op≠8/\op≠9) (hn:-2000<=num/\num<=2000) (ha:GE g m s1 a) (hb:GE g m s2 b) (hc:GE g m s3 c) (hq:1+(s1+s2+s3)<=q):GE g m q (.mk op num [a,b,c]):=by
 have hk:∀e∈[a,b,c],eW g.decls g.funcs.length m e:=fun e he=>by
  rcases X0.1 he with rfl|he
  ·exact ha.1
  ·rcases X0.1 he with rfl|he
   ·exact hb.1
   ·rw [Xs.1 he];exact hc.1
 refine ⟨?_,?_⟩
 ·by_cases h7:op=7
  ·subst h7;exact Oh hn rfl hk
  ·exact CF om (fun h=>by omega) hn (by simp) hk
 ·have h1:=ha.2
  have h2:=hb.2
  have h3:=hc.2
  rw [Z2.sz,GK];omega
theorem GE.one {op num:Int} {a:Z2} {s1 q:Nat} (ho:0<=op/\op<=11/\op≠7/\op≠8/\op≠9) (hn:-2000<=num/\num<=2000) (ha:GE g m s1 a) (hq:1+s1<=q):GE g m q (.mk op num [a]):=by
 refine ⟨CF om (fun h=>by omega) hn (by simp) fun e he=>?_,?_⟩
 ·rw [Xs.1 he];exact ha.1
 ·have h1:=ha.2
  simp only [Z2.sz,Xx];omega
theorem GE.letS {a b:Z2} {s1 s2 q:Nat} (ha:GE g m s1 a) (hb:GE g (m+1) s2 b) (hq:1+(s1+s2)<=q):GE g m q (.mk 13 0 [a,b]):=by
 refine ⟨Oi om ha.1 hb.1,?_⟩
 have h1:=ha.2
 have h2:=hb.2
 simp only [Z2.sz,Xx];omega
theorem GE.matchL (hg:GP g) {e a b:Z2} {s1 s2 s3 q:Nat} (he:GE g m s1 e) (ha:GE g m s2 a) (hb:GE g (m+2) s3 b) (hq:1+(s1+s2+s3)<=q):GE g m q (.mk 8 1 [e,a,b]):=by
 have hl:=hg.decls.low
 refine ⟨Lh om (by simp) (by rw [hl.2.1];rfl) he.1 ⟨?_,?_,True.intro⟩,?_⟩
 ·rw [Ea (k:=0) (x:=0) (by rw [hl.2.1];rfl),hl.2.2.2.2.1];exact ha.1
 ·rw [Ea (k:=1) (x:=1) (by rw [hl.2.1];rfl),hl.2.2.2.2.2.1];exact hb.1
 ·have h1:=he.2
  have h2:=ha.2
  have h3:=hb.2
  rw [Z2.sz,GK];omega
theorem GE.matchT (hg:GP g) {e a b:Z2} {s1 s2 s3 q:Nat} (he:GE g m s1 e) (ha:GE g m s2 a) (hb:GE g (m+3) s3 b) (hq:1+(s1+s2+s3)<=q):GE g m q (.mk 8 3 [e,a,b]):=by
 have hl:=hg.decls.low
 refine ⟨Lh om (by simp) (by rw [hl.2.2.2.1];rfl) he.1 ⟨?_,?_,True.intro⟩,?_⟩
 ·rw [Ea (k:=0) (x:=2) (by rw [hl.2.2.2.1];rfl),hl.2.2.2.2.2.2.1];exact ha.1
 ·rw [Ea (k:=1) (x:=3) (by rw [hl.2.2.2.1];rfl),hl.2.2.2.2.2.2.2];exact hb.1
 ·have h1:=he.2
  have h2:=ha.2
  have h3:=hb.2
  rw [Z2.sz,GK];omega
theorem Iz {α:Type} {p:α->Prop} {a:α} (h:p a):∀x∈[a],p x:=fun x hx=>by rw [Xs.1 hx];exact h
end
structure Il (g:W5):Prop where
 gp:GP g
 body:∀f∈g.funcs,eW g.decls g.funcs.length f.params.length f.body/\f.body.sz<=30
structure GL (ds:List Zc) (k j:Nat) (rq:List Func):Prop where
 len:rq.length=4
 sigs:∀f∈rq,To f
 zero:∀f,rq[0]? = some f->f.params.length=0
 body:∀i f,j<=i->i<k->rq[i]? = some f->eW ds k f.params.length f.body/\f.body.sz<=30
theorem GL.gp {ds:List Zc} {k j:Nat} {rq:List Func} (h:GL ds k j rq) (hd:GD ds) (hk:1<=k/\k<=4):GP ⟨ds,rq.take k⟩:=
 ⟨hd,by show 1<=(rq.take k).length/\_;rw [Vc,h.len];omega,fun f hf=>h.sigs f (QA hf)⟩
theorem GL.len_take {ds:List Zc} {k j:Nat} {rq:List Func} (h:GL ds k j rq) (hk:k<=4):(rq.take k).length=k:=by rw [Vc,h.len];omega
theorem GL.set {ds:List Zc} {k j:Nat} {rq:List Func} {f:Func} {e:Z2} (h:GL ds k j rq) (hj:1<=j) (hf:rq[j-1]? = some f) (he:eW ds k f.params.length e/\e.sz<=30):GL ds k (j-1) (rq.set (j-1) ⟨f.params,f.result,e⟩):=by
 have hl:=(Xu.1 hf).1
 refine ⟨by rw [TM];exact h.len,fun x hx=>?_,fun x hx=>?_,fun i x h1 h2 hx=>?_⟩
 ·rcases List.mem_or_eq_of_mem_set hx with hx|rfl
  ·exact h.sigs x hx
  ·exact h.sigs f (Y4 hf)
 ·rw [List.getElem?_set] at hx
  split at hx
  ·rename_i h0
   cases hx
   exact h.zero f (by rw [<-h0];exact hf)
  ·exact h.zero x hx
 ·rw [List.getElem?_set] at hx
  split at hx
  ·cases hx
   exact he
  ·exact h.body i x om h2 hx
theorem GL.done {ds:List Zc} {k:Nat} {rq:List Func} (h:GL ds k 0 rq) (hd:GD ds) (hk:1<=k/\k<=4):Il ⟨ds,rq.take k⟩:=by
 refine ⟨h.gp hd hk,fun f hf=>?_⟩
 show eW ds (rq.take k).length _ _/\_
 rw [h.len_take hk.2]
 obtain ⟨i,hi⟩:=List.getElem?_of_mem hf
 have hi2:i<(rq.take k).length:=(Xu.1 hi).1
 rw [h.len_take hk.2] at hi2
 rw [List.getElem?_take_of_lt hi2] at hi
 exact h.body i f om hi2 hi
theorem MK {l:List Func} {f:Func} {k:Nat} (h:l[k]? = some f) (hl:l.all (fun f=>decide ((f.params,f.result)∈Ju))=true):To f:=show (f.params,f.result)∈Ju from of_decide_eq_true (A0.1 hl f (Y4 h))
theorem GL.start {ds:List Zc} {k:Nat} {e:Z2} {a b c:Func} (ha:To a) (hb:To b) (hc:To c):GL ds k k [⟨[],0,e⟩,a,b,c]:=by
 refine ⟨rfl,fun f hf=>?_,fun f hf=>?_,fun i f h1 h2=>by omega⟩
 ·rcases X0.1 hf with rfl|hf
  ·exact List.Mem.head _
  ·rcases X0.1 hf with rfl|hf
   ·exact ha
   ·rcases X0.1 hf with rfl|hf
    ·exact hb
    ·rw [Xs.1 hf];exact hc
 ·cases hf;rfl
theorem Zd4 {l:LI} {k:Nat} {a b:Nat} (h:(k:Int)∈l) (hl:l.all (fun x=>decide ((a:Int)<=x/\x<=b))=true):a<=k/\k<=b:=by
 have:=of_decide_eq_true (A0.1 hl _ h)
 omega
mutual
def Kd (p:Int->Prop):Z5->Prop
 | .mk op _ _ _ kids=>p op/\Kc p kids
def Kc (p:Int->Prop):List Z7->Prop
 | []=>True
 | b::r=>Vm p b/\Kc p r
def Q6 (p:Int->Prop):List Z5->Prop
 | []=>True
 | s::r=>Kd p s/\Q6 p r
def Vm (p:Int->Prop):Z7->Prop
 | .mk steps _=>Q6 p steps
end
section
variable {p q:Int->Prop}
theorem Fe (s:Z5):Kd p s↔p s.op/\Kc p s.kids:=by cases s;rw [Kd];rfl
theorem Hw (b:Z7):Vm p b↔Q6 p b.steps:=by cases b;rw [Vm];rfl
theorem DZ:∀{xs:List Z7},Kc p xs↔∀b∈xs,Vm p b
 | []=>by simp [Kc]
 | b::r=>by rw [Kc,DZ];simp
theorem D5:∀{xs:List Z5},Q6 p xs↔∀b∈xs,Kd p b
 | []=>by simp [Q6]
 | b::r=>by rw [Q6,D5];simp
theorem Hx {xs ys:List Z5}:Q6 p (xs++ys)↔Q6 p xs/\Q6 p ys:=by simp only [D5,Xg];exact ⟨fun h=>⟨fun b hb=>h b (.inl hb),fun b hb=>h b (.inr hb)⟩,fun h b hb=>hb.elim (h.1 b) (h.2 b)⟩
theorem Sc {xs:List Z7} {b:Z7} (h:Kc p xs) (hb:Vm p b):Kc p (xs++[b]):=DZ.2 (XC (DZ.1 h) hb)
theorem Hy {xs:List Z5} {b:Z5} (h:Q6 p xs) (hb:Kd p b):Q6 p (xs++[b]):=D5.2 (XC (D5.1 h) hb)
end
def WQ (op:Int):Prop:=op<=11
def Vz (op:Int):Prop:=op<=15
end Go.Abs
section
namespace Go.Abs
structure LW (ds:List Zc) (nf q:Nat) (e:Z2) (ys:List Z5) (v:Int):Prop where
 fs:W3 ds nf q ys
 v:0<=v/\v<(q+Yp ys:Nat)
 sz:Yr ys<=6*e.sz
 op:Q6 WQ ys
theorem LW.dn {ds:List Zc} {nf q:Nat} {e:Z2} {ys:List Z5} {v:Int} (h:LW ds nf q e ys v):Yp ys<=6*e.sz/\ys.length<=6*e.sz:=by
 have h1:=B6 ys
 have h2:=Jg ys
 have h3:=h.sz
 omega
structure LB (ds:List Zc) (nf q:Nat) (e:Z2) (b:Z7):Prop where
 fb:fB ds nf q b
 sz:b.sz<=1+6*e.sz
 op:Vm WQ b
section
variable {ds:List Zc} {nf q:Nat}
theorem Gk:∀xs ys:List Z7,YV (xs++ys)=YV xs+YV ys
 | [],ys=>by simp [YV]
 | x::r,ys=>by rw [Bu,YV,YV,Gk r];omega
theorem LW.block {e:Z2} {ys:List Z5} {v:Int} (h:LW ds nf q e ys v):LB ds nf q e ⟨ys,v⟩:=
 ⟨by rw [fB];exact ⟨h.fs,h.v⟩,by rw [Z7.sz];have:=h.sz;omega,by rw [Vm];exact h.op⟩
theorem LW.var {e:Z2} {v:Int} (hv:0<=v/\v<q):LW ds nf q e [] v:=⟨True.intro,by simpa [Yp] using hv,by simp [Yr],True.intro⟩
theorem LW.let_ {e a b:Z2} {ys zs:List Z5} {v1 v2:Int} (ha:LW ds nf q a ys v1) (hb:LW ds nf (q+Yp ys) b zs v2) (he:a.sz+b.sz<e.sz):LW ds nf q e (ys++zs) v2:=by
 refine ⟨Ap.2 ⟨ha.fs,hb.fs⟩,by rw [T6,<-AS];exact hb.v,?_,Hx.2 ⟨ha.op,hb.op⟩⟩
 have h1:=ha.sz
 have h2:=hb.sz
 rw [Qf];omega
theorem EC {ys:List Z5} {s:Z5} (h:YM s.op=false):Yp (ys++[s])=Yp ys+1:=by
 rw [T6]
 simp [Yp,h]
theorem LW.node {e:Z2} {ys:List Z5} {as1:LI} (ho:0<=e.op/\e.op<=11/\e.op≠7/\e.op≠8) (hc:e.op=9->0<=e.num/\e.num<nf) (hn:-2000<=e.num/\e.num<=2000) (hf:W3 ds nf q ys) (ha:∀a∈as1,0<=a/\a<(q+Yp ys:Nat)) (hl:as1.length<=4) (hs:Yr ys<=6*Xx e.kids) (hop:Q6 WQ ys) :
  LW ds nf q e (ys++[⟨e.op,e.num,0,as1,[]⟩]) ((q+Yp ys:Nat):Int):=by
 have hcb:YM e.op=false:=by simp [YM];omega
 refine ⟨GO hf ?_,?_,?_,Hy hop (by rw [Kd];exact ⟨by show e.op<=11;omega,True.intro⟩)⟩
 ·rw [fS]
  exact ⟨.inl ⟨by omega,by omega⟩,ha,fun h=>by omega,fun h=>by omega,fun h=>by omega,fun h=>by omega,hc,hn,by omega,hl,fun _=>rfl,True.intro⟩
 ·rw [EC (show YM (Z5.mk e.op e.num 0 as1 []).op=false from hcb)];omega
 ·rw [Qf,e.sz_eq]
  simp only [Yr,Z5.sz,YV]
  omega
theorem LW.branch {e:Z2} {ys:List Z5} {v:Int} {bs:List Z7} {s0 sr:Nat} (ho:e.op=7∨e.op=8) (h7:e.op=7->bs.length=2) (h8:e.op=8->bs.length=(ZU ds e.num).length) (hn:-2000<=e.num/\e.num<=2000) (hf:W3 ds nf q ys) (hv:0<=v/\v<(q+Yp ys:Nat))
  (hb:VB ds nf (WK ds e.op e.num (q+Yp ys)) 0 bs) (hl:bs.length<=3) (h0:Yr ys<=6*s0) (h1:YV bs<=bs.length+6*sr) (hs:s0+sr<=Xx e.kids) (hop:Q6 WQ ys) (hob:Kc WQ bs):LW ds nf q e (ys++[⟨e.op,e.num,0,[v],bs⟩]) ((q+Yp ys:Nat):Int):=by
 have hcb:YM e.op=false:=by simp [YM];omega
 refine ⟨GO hf ?_,?_,?_,Hy hop (by rw [Kd];exact ⟨by show e.op<=11;omega,hob⟩)⟩
 ·rw [fS]
  exact ⟨.inl ⟨by omega,by omega⟩,fun a ha=>by rw [Xs.1 ha];exact hv,fun h=>by omega,h7,h8,fun _=>⟨v,rfl⟩,fun h=>by omega,hn,by omega,by simp,fun h=>by omega,hb⟩
 ·rw [EC (show YM (Z5.mk e.op e.num 0 [v] bs).op=false from hcb)];omega
 ·rw [Qf,e.sz_eq]
  simp only [Yr,Z5.sz,Ys,YF]
  omega
theorem Z0x {ds:List Zc} {op num:Int} {m k:Nat} (h:op=13):Qd ds op num m k=m+k:=Zf h
theorem Zfu {ds:List Zc} {op num:Int} {m:Nat} (h:op≠13):Qd ds op num m 0=m:=by simp [Qd,h]
theorem Z0y {ds:List Zc} {op num:Int} {m k:Nat} (h:op≠13/\op≠8):Qd ds op num m k=m:=by simp [Qd,h.1,h.2]
theorem Zfv {ds:List Zc} {op num x:Int} {m k j:Nat} (h:op=8) (hk:k=j+1) (hx:(ZU ds num)[j]? = some x):Qd ds op num m k=m+(ZO ds x).length:=by
 subst h;subst hk;rw [Nat.add_comm j 1];exact Ea hx
theorem MH {ds:List Zc} {op num x:Int} {m j:Nat} (h:op=8) (hx:(ZU ds num)[j]? = some x):WK ds op num m j=m+(ZO ds x).length:=by
 rw [WK,Zf h,Te (i:=(j:Int)) (by simpa using hx)]
theorem MI {ds:List Zc} {op num:Int} {m j:Nat} (h:op≠8):WK ds op num m j=m:=Za h
theorem BS {xs:List Z2} {k:Nat} {e:Z2} (h:xs[k]? = some e):Xx (xs.take (k+1))=Xx (xs.take k)+e.sz:=by rw [VO h,EJ,Xx,Xx];rfl
theorem Ba {xs:List Z2} (k:Nat):Xx (xs.take k)<=Xx xs:=by
 have h:=Yn Xx (Qj k xs)
 rw [EJ] at h;omega
theorem OQ {xs:List Z2} {a b:Z2} (ha:xs[0]? = some a) (hb:xs[1]? = some b):a.sz+b.sz<=Xx xs:=by
 have h1:Xx (xs.take 1)=Xx (xs.take 0)+a.sz:=BS ha
 have h2:Xx (xs.take 2)=Xx (xs.take 1)+b.sz:=BS hb
 have h3:=Ba (xs:=xs) 2
 omega
theorem FZ {us:LI} {v:Int} {d:Nat} (hu:∀a∈us,0<=a/\a<(q:Int)) (hv:0<=v/\v<(q+d:Nat)):∀a∈us++[v],0<=a/\a<((q+d:Nat):Int):=
 XC (fun a ha=>by have:=hu a ha;omega) hv
theorem I6 {us:LI} {d:Nat} (hu:∀a∈us,0<=a/\a<(q:Int)):∀a∈us,0<=a/\a<((q+d:Nat):Int):=fun a ha=>by have:=hu a ha;omega
theorem Zit {us ns:LI} {d mf:Nat} (hu:∀a∈us,0<=a/\a<(q:Int)) (hn:∀i∈ns,((q+d:Nat):Int)<=i/\i<((q+d:Nat):Int)+mf):∀a∈us++ns,0<=a/\a<((q+d+mf:Nat):Int):=fun a ha=>by
 rcases Xg.1 ha with h|h
 ·have:=hu a h;omega
 ·have:=hn a h;omega
theorem Gl:∀bs:List Z7,bs.length<=YV bs
 | []=>X2 _
 | b::r=>by have:=Gl r;have:=b.sz_pos;rw [YV,Ys];omega
end
end Go.Abs
namespace Go.Abs
structure RF (ds:List Zc) (nf q:Nat) (p:Int->Prop) (r:Yz):Prop where
 sig:(r.params,r.result)∈Ju
 lent:r.lent.length<=3/\∀i∈r.lent,0<=i/\i<r.params.length
 body:fB ds nf r.params.length r.body/\r.body.sz<=q
 op:Vm p r.body
structure FO (n:ZF) (q:Nat) (p:Int->Prop):Prop where
 fn:FN n q
 op:∀r∈n.routines,Vm p r.body
theorem FO.rf {n:ZF} {q:Nat} {p:Int->Prop} (h:FO n q p) {r:Yz} (hr:r∈n.routines):RF n.decls n.routines.length q p r:=⟨h.fn.sigs r hr,h.fn.lent r hr,h.fn.body r hr,h.op r hr⟩
theorem FO.all {n:ZF} {q:Nat} {p:Int->Prop} (hd:GD n.decls) (hl:1<=n.routines.length/\n.routines.length<=4) (h:∀r∈n.routines,RF n.decls n.routines.length q p r):FO n q p:=
 ⟨⟨hd,hl,fun r hr=>(h r hr).sig,fun r hr=>(h r hr).lent,fun r hr=>(h r hr).body⟩,fun r hr=>(h r hr).op⟩
structure RN (ds:List Zc) (nf:Nat) (r:Yz):Prop where
 sig:(r.params,r.result)∈Ju
 lent:r.lent=[]
 body:fB ds nf r.params.length r.body/\r.body.sz<=181
 op:Vm WQ r.body
theorem RN.all {n:ZF} {q:Nat} (hd:GD n.decls) (hl:1<=n.routines.length/\n.routines.length<=4) (h:∀r∈n.routines,RN n.decls n.routines.length r) (hq:181<=q):FO n q WQ:=
 FO.all hd hl fun r hr=>⟨(h r hr).sig,by rw [(h r hr).lent];exact ⟨by simp,fun i hi=>by cases hi⟩,⟨(h r hr).body.1,V7 (h r hr).body.2 hq⟩,(h r hr).op⟩
end Go.Abs
namespace Go.Abs
theorem RN.of {ds:List Zc} {nf:Nat} {ps:LI} {rt:Int} {b:Z7} {e:Z2} (hs:(ps,rt)∈Ju) (h:LB ds nf ps.length e b) (he:e.sz<=30):RN ds nf ⟨ps,[],rt,Z7.mk b.steps b.result⟩:=by
 have e1:Z7.mk b.steps b.result=b:=by cases b;rfl
 rw [e1]
 exact ⟨hs,rfl,⟨h.fb,by have:=h.sz;show b.sz<=181;omega⟩,h.op⟩
end Go.Abs
end
namespace Go.Abs
theorem MS:∀{xs:List Z5} {s:Z5},s∈xs->s.sz<=Yr xs
 | [],s,h=>by cases h
 | x::r,s,h=>by
  rw [Yr]
  rcases X0.1 h with rfl|h
  ·omega
  ·have:=MS h;omega
theorem II:∀{xs:List Z7} {b:Z7},b∈xs->b.sz<=YV xs
 | [],b,h=>by cases h
 | x::r,b,h=>by
  rw [YV]
  rcases X0.1 h with rfl|h
  ·omega
  ·have:=II h;omega
structure LC (n:ZF) (k:Nat) (xs:List LI):Prop where
 len:xs.length=k
 ok:∀(i:Nat) (l:LI),xs[i]? = some l->l.length<=3/\∀r,n.routines[i]? = some r->∀v∈l,0<=v/\v<(r.params.length:Int)
theorem LC.nil {n:ZF}:LC n 0 []:=⟨rfl,fun i l h=>by simp at h⟩
theorem LC.snoc {n:ZF} {k:Nat} {xs:List LI} {l:LI} (h:LC n k xs) (hl:l.length<=3) (hv:∀r,n.routines[k]? = some r->∀v∈l,0<=v/\v<(r.params.length:Int)):LC n (k+1) (xs++[l]):=by
 refine ⟨by rw [ZH,h.len];rfl,fun i l' hi=>?_⟩
 by_cases hk:i<xs.length
 ·rw [A1 hk] at hi
  exact h.ok i l' hi
 ·rw [Ek om] at hi
  have h0:i-xs.length=0:=by
   cases e:i-xs.length with
   | zero=>rfl
   | succ q=>rw [e] at hi;simp at hi
  rw [h0] at hi
  cases hi
  have e:i=k:=by have:=h.len;omega
  subst e
  exact ⟨hl,hv⟩
def Ub:LI->Int->LI
 | [],y=>[y]
 | x::r,y=>if x>y then y::x::r else if x=y then x::r else x::Ub r y
def Qq (d:Bool) (xs:LI) (y:Int):LI:=if d=true then xs else Ub xs y
theorem H9 {xs:LI} {y:Int}:Qq true xs y=xs:=rfl
theorem H8 {xs:LI} {y:Int}:Qq false xs y=Ub xs y:=rfl
theorem Re {xs acc r:LI} {y x:Int} {k:Nat} {d:Bool} (hx:xs[k]? = some x) (hd:d=true) (h:acc++Qq d (xs.drop k) y=r):(acc++[x])++Qq d (xs.drop (k+1)) y=r:=by
 subst hd
 rw [H9,Yj hx] at h
 rw [H9,<-h];simp
theorem Zb7 {xs acc r:LI} {y x:Int} {k:Nat} {d:Bool} (hx:xs[k]? = some x) (hd:¬d=true) (hl:¬x>=y) (h:acc++Qq d (xs.drop k) y=r):(acc++[x])++Qq d (xs.drop (k+1)) y=r:=by
 have hd:=Uy.2 hd
 subst hd
 rw [H8,Yj hx,Ub,Za om,Za om] at h
 rw [H8,<-h];simp
theorem Zb8 {xs acc r:LI} {y x:Int} {k:Nat} {d:Bool} (hx:xs[k]? = some x) (hd:¬d=true) (hl:x>y) (h:acc++Qq d (xs.drop k) y=r):((acc++[y])++[x])++Qq true (xs.drop (k+1)) y=r:=by
 have hd:=Uy.2 hd
 subst hd
 rw [H8,Yj hx,Ub,Zf hl] at h
 rw [H9,<-h];simp
theorem Zb9 {xs acc r:LI} {y x:Int} {k:Nat} {d:Bool} (hx:xs[k]? = some x) (hd:¬d=true) (hl:x=y) (h:acc++Qq d (xs.drop k) y=r):(acc++[x])++Qq true (xs.drop (k+1)) y=r:=by
 have hd:=Uy.2 hd
 subst hd
 rw [H8,Yj hx,Ub,Za om,Zf hl] at h
 rw [H9,<-h];simp
theorem Zb6 {xs acc acc2 r:LI} {y x:Int} {k:Nat} {d d2:Bool} (hx:xs[k]? = some x) (h:acc++Qq d (xs.drop k) y=r)
  (hc:(acc2=acc/\d2=d/\(d=true∨¬x>=y))∨(acc2=acc++[y]/\d2=true/\¬d=true/\x>y)∨(acc2=acc/\d2=true/\¬d=true/\x=y)):(acc2++[x])++Qq d2 (xs.drop (k+1)) y=r:=by
 rcases hc with ⟨rfl,rfl,h3⟩|⟨rfl,rfl,h3,h4⟩|⟨rfl,rfl,h3,h4⟩
 ·rcases h3 with h3|h3
  ·exact Re hx h3 h
  ·by_cases q:d2=true
   ·exact Re hx q h
   ·exact Zb7 hx q h3 h
 ·exact Zb8 hx h3 h4 h
 ·exact Zb9 hx h3 h4 h
theorem Zb5 {xs acc r:LI} {y:Int} {k:Nat} {d:Bool} (hk:xs.length<=k) (h:acc++Qq d (xs.drop k) y=r):(if d=true then acc else acc++[y])=r:=by
 rw [Xj hk] at h
 by_cases q:d=true
 ·rw [Qq,Zf q,UN] at h;rw [Zf q];exact h
 ·rw [Qq,Za q,Ub] at h;rw [Za q];exact h
theorem DQ:∀(xs:LI) (y:Int),(Ub xs y).length<=xs.length+1
 | [],y=>X2 _
 | x::r,y=>by
  have:=DQ r y
  rw [Ub]
  split
  ·simp
  ·split
   ·simp
   ·simp only [Ys];omega
theorem EY:∀{xs:LI} {y z:Int},z∈Ub xs y↔z∈xs∨z=y
 | [],y,z=>by simp [Ub]
 | x::r,y,z=>by
  rw [Ub]
  split
  ·simp only [X0];exact ⟨fun h=>h.elim .inr .inl,fun h=>h.elim .inr .inl⟩
  ·split
   ·rename_i h;subst h;simp only [X0];exact ⟨fun h=>.inl h,fun h=>h.elim id .inl⟩
   ·simp only [X0,EY (xs:=r)];exact ⟨fun h=>by rcases h with h|h|h<;>simp [h],fun h=>by rcases h with (h|h)|h<;>simp [h]⟩
def Cr (xs:LI):Prop:=xs.Pairwise (·<·)
theorem Rc:∀{xs:LI} {y:Int},Cr xs->Cr (Ub xs y)
 | [],y,_=>by simp [Ub,Cr]
 | x::r,y,h=>by
  obtain ⟨h1,h2⟩:=Uh.1 h
  rw [Ub]
  split
  ·rename_i q
   refine Uh.2 ⟨fun z hz=>?_,h⟩
   rcases X0.1 hz with rfl|hz
   ·omega
   ·have:=h1 z hz;omega
  ·split
   ·exact h
   ·refine Uh.2 ⟨fun z hz=>?_,Rc h2⟩
    rcases EY.1 hz with hz|rfl
    ·exact h1 z hz
    ·omega
def Q7:LI->Int->LI
 | [],_=>[]
 | x::r,y=>if x=y then Q7 r y else x::Q7 r y
theorem Ff:∀(xs:LI) (y:Int),(Q7 xs y).length<=xs.length
 | [],y=>X2 _
 | x::r,y=>by
  have:=Ff r y
  rw [Q7]
  split
  ·rw [Ys];omega
  ·rw [Ys,Ys];omega
theorem E1:∀{xs:LI} {y z:Int},z∈Q7 xs y->z∈xs
 | [],y,z,h=>by rw [Q7] at h;exact h
 | x::r,y,z,h=>by
  rw [Q7] at h
  split at h
  ·exact Xr _ (E1 h)
  ·rcases X0.1 h with rfl|h
   ·exact Xf ..
   ·exact Xr _ (E1 h)
theorem Zdp {xs acc r:LI} {y x:Int} {k:Nat} (hx:xs[k]? = some x) (h:acc++Q7 (xs.drop k) y=r):(if x≠y then acc++[x] else acc)++Q7 (xs.drop (k+1)) y=r:=by
 rw [Yj hx,Q7] at h
 by_cases q:x=y
 ·rw [Zf q] at h;rw [Za (fun z=>z q)];exact h
 ·rw [Za q] at h;rw [Zf q,<-h];simp
theorem Zdo {xs acc r:LI} {y:Int} {k:Nat} (hk:xs.length<=k) (h:acc++Q7 (xs.drop k) y=r):acc=r:=by
 rw [Xj hk,Q7,UN] at h;exact h
def UL (n:Int) (xs:LI) (a:Int):LI:=if 0<=a/\a<n then Ub xs a else xs
def QP (n:Int):LI->LI->LI
 | [],xs=>xs
 | a::r,xs=>QP n r (UL n xs a)
mutual
def JX (n:Int):Z5->LI->LI
 | .mk op _ _ args kids,xs=>if YM op=true then xs else Ji n kids (QP n args xs)
def Ji (n:Int):List Z7->LI->LI
 | [],xs=>xs
 | b::r,xs=>Ji n r (UX n b xs)
def UY (n:Int):List Z5->LI->LI
 | [],xs=>xs
 | s::r,xs=>UY n r (JX n s xs)
def UX (n:Int):Z7->LI->LI
 | .mk steps result,xs=>UL n (UY n steps xs) result
end
section
variable {n:Int}
theorem Z2l (s:Z5) (xs:LI):JX n s xs=if YM s.op=true then xs else Ji n s.kids (QP n s.args xs):=by cases s;rw [JX];rfl
theorem Z2j (b:Z7) (xs:LI):UX n b xs=UL n (UY n b.steps xs) b.result:=by cases b;rw [UX];rfl
theorem I5 (xs:LI) (a:Int):(UL n xs a).length<=xs.length+1:=by
 rw [UL];split
 ·exact DQ xs a
 ·omega
theorem Z2i:∀(as1 xs:LI),(QP n as1 xs).length<=xs.length+as1.length
 | [],xs=>X2 _
 | a::r,xs=>by
  have h1:=Z2i r (UL n xs a)
  have h2:=I5 (n:=n) xs a
  rw [QP,Ys];omega
mutual
theorem Z2m:∀(s:Z5) (xs:LI),(JX n s xs).length<=xs.length+s.sz
 | .mk op num into args kids,xs=>by
  have h1:=Z2k kids (QP n args xs)
  have h2:=Z2i (n:=n) args xs
  rw [JX,Z5.sz];split<;>omega
theorem Z2k:∀(bs:List Z7) (xs:LI),(Ji n bs xs).length<=xs.length+YV bs
 | [],xs=>X2 _
 | b::r,xs=>by
  have h1:=Z2k r (UX n b xs)
  have h2:=I4 b xs
  rw [Ji,YV];omega
theorem N1:∀(bs:List Z5) (xs:LI),(UY n bs xs).length<=xs.length+Yr bs
 | [],xs=>X2 _
 | b::r,xs=>by
  have h1:=N1 r (JX n b xs)
  have h2:=Z2m b xs
  rw [UY,Yr];omega
theorem I4:∀(b:Z7) (xs:LI),(UX n b xs).length<=xs.length+b.sz
 | .mk steps result,xs=>by
  have h1:=N1 steps xs
  have h2:=I5 (n:=n) (UY n steps xs) result
  rw [UX,Z7.sz];omega
end
theorem Zio {as1 ys r:LI} {k:Nat} {a:Int} (h:as1[k]? = some a) (ha:QP n (as1.drop k) ys=r):QP n (as1.drop (k+1)) (UL n ys a)=r:=by
 rw [Yj h,QP] at ha;exact ha
theorem Ziq {bs:List Z7} {ys r:LI} {k:Nat} {b:Z7} (h:bs[k]? = some b) (ha:Ji n (bs.drop k) ys=r):Ji n (bs.drop (k+1)) (UX n b ys)=r:=by
 rw [Yj h,Ji] at ha;exact ha
theorem Zis {bs:List Z5} {ys r:LI} {k:Nat} {b:Z5} (h:bs[k]? = some b) (ha:UY n (bs.drop k) ys=r):UY n (bs.drop (k+1)) (JX n b ys)=r:=by
 rw [Yj h,UY] at ha;exact ha
theorem Zin {as1 ys r:LI} {k:Nat} (h:as1.length<=k) (ha:QP n (as1.drop k) ys=r):ys=r:=by rw [Xj h,QP] at ha;exact ha
theorem Zip {bs:List Z7} {ys r:LI} {k:Nat} (h:bs.length<=k) (ha:Ji n (bs.drop k) ys=r):ys=r:=by rw [Xj h,Ji] at ha;exact ha
theorem Zir {bs:List Z5} {ys r:LI} {k:Nat} (h:bs.length<=k) (ha:UY n (bs.drop k) ys=r):ys=r:=by rw [Xj h,UY] at ha;exact ha
end
theorem Nf {s:Z5} (h:Cn s):∃a,s.args=[a]:=⟨gI s.args 0,by have:=Yn Z5.args h;exact this⟩
section
variable {xs:LI} {v:Int} {lo hi:Nat}
end
section
variable {m:Int} {xs du dr:List Z5} {lf:LI} {d:Bool} {k:Nat} {s:Z5} {W:List Z5 × List Z5 × LI}
end
def YX:List Z5->Nat
 | []=>0
 | s::r=>if YM s.op=true then YX r+1 else 0
def W6 (op x:Int):List Z5->Int->Int
 | [],_=>-1
 | s::r,k=>if s.op=op/\gI s.args 0=x then k else W6 op x r (k+1)
def Ky (many:Nat) (s:Z5):Prop:=(s.op=6/\s.into=0)/\s.args.length=many
instance (many:Nat) (s:Z5):Decidable (Ky many s):=by unfold Ky;infer_instance
def Wv (many:Nat):List Z5->Int->Int
 | [],_=>-1
 | s::r,k=>if Ky many s then k else Wv many r (k+1)
def BX (xs:List Z5) (i:Int):Z5:=xs[i.toNat]?.getD (Zx 0 0)
def Qr (v:Int) (s:Z5):Z5:=.mk s.op s.num v s.args s.kids
def Vn (xs:List Z5) (x:Int):Int:=W6 16 x (xs.take (YX xs)) 0
def WA (xs:List Z5) (many:Nat):Int:=Wv many (xs.drop (YX xs)) (YX xs)
def VF (xs:List Z5) (x:Int) (many:Nat):List Z5:=
 if Vn xs x<0∨WA xs many<0 then xs else (xs.set (Vn xs x).toNat (Zx 17 x)).set (WA xs many).toNat (Qr (1+x) (BX xs (WA xs many)))
def VM (b:Z7) (x:Int) (many:Nat):Z7:=.mk (VF b.steps x many) b.result
mutual
def Tk (ds:List Zc) (kept:LI):Z5->Z5
 | .mk op num into args kids=>.mk op num into args (VX ds kept op num args kids 0)
def VX (ds:List Zc) (kept:LI) (op num:Int) (args:LI):List Z7->Nat->List Z7
 | [],_=>[]
 | b::r,k=>(if op=8/\¬gI args 0∈kept then VM (Ws ds (if Vn b.steps (gI args 0)<0∨WA b.steps (Wo ds num k).length<0 then kept else gI args 0::kept) b) (gI args 0) (Wo ds num k).length else Ws ds kept b)::VX ds kept op num args r (k+1)
def U5 (ds:List Zc) (kept:LI):List Z5->List Z5
 | []=>[]
 | s::r=>Tk ds kept s::U5 ds kept r
def Ws (ds:List Zc) (kept:LI):Z7->Z7
 | .mk steps result=>.mk (U5 ds kept steps) result
end
def He (ds:List Zc) (kept:LI) (num:Int) (args:LI) (k:Nat) (b:Z7):LI:=if Vn b.steps (gI args 0)<0∨WA b.steps (Wo ds num k).length<0 then kept else gI args 0::kept
def Qc (ds:List Zc) (kept:LI) (op num:Int) (args:LI) (k:Nat) (b:Z7):Z7:=if op=8/\¬gI args 0∈kept then VM (Ws ds (He ds kept num args k b) b) (gI args 0) (Wo ds num k).length else Ws ds kept b
theorem AK (ds:List Zc) (kept:LI) (s:Z5):Tk ds kept s=.mk s.op s.num s.into s.args (VX ds kept s.op s.num s.args s.kids 0):=by cases s;rw [Tk];rfl
theorem HJ (ds:List Zc) (kept:LI) (b:Z7):Ws ds kept b=.mk (U5 ds kept b.steps) b.result:=by cases b;rw [Ws];rfl
theorem HK (ds:List Zc) (kept:LI):∀xs:List Z5,U5 ds kept xs=xs.map (Tk ds kept)
 | []=>rfl
 | s::r=>by rw [U5,HK ds kept r];rfl
section
variable {ds:List Zc} {kept:LI}
theorem Zfi {xs acc r:List Z5} {k:Nat} {s:Z5} (h:xs[k]? = some s) (ha:acc++U5 ds kept (xs.drop k)=r) :
  (acc++[.mk s.op s.num s.into s.args (VX ds kept s.op s.num s.args s.kids 0)])++U5 ds kept (xs.drop (k+1))=r:=by
 rw [Yj h,U5,AK] at ha
 rw [<-ha];simp
theorem Zfh {xs acc r:List Z5} {k:Nat} (h:xs.length<=k) (ha:acc++U5 ds kept (xs.drop k)=r):acc=r:=by
 rw [Xj h,U5,UN] at ha;exact ha
theorem Zfc {op num:Int} {args:LI} {bs acc r:List Z7} {k:Nat} {b:Z7} (h:bs[k]? = some b) (ha:acc++VX ds kept op num args (bs.drop k) k=r) :
  (acc++[Qc ds kept op num args k b])++VX ds kept op num args (bs.drop (k+1)) (k+1)=r:=by
 rw [Yj h,VX] at ha
 rw [<-ha,Qc,He];simp
theorem Zfb {op num:Int} {args:LI} {bs acc r:List Z7} {k j:Nat} (h:bs.length<=k) (ha:acc++VX ds kept op num args (bs.drop k) j=r):acc=r:=by
 rw [Xj h,VX,UN] at ha;exact ha
end
section
variable {ds:List Zc}
mutual
theorem Zff:∀(s:Z5) {K K':LI},(∀z,z∈K↔z∈K')->Tk ds K s=Tk ds K' s
 | .mk op num into args kids,K,K',h=>by rw [Tk,Tk,Z0n kids h]
theorem Z0n:∀(bs:List Z7) {K K':LI} {op num:Int} {args:LI} {k:Nat},(∀z,z∈K↔z∈K')->VX ds K op num args bs k=VX ds K' op num args bs k
 | [],_,_,_,_,_,_,_=>by rw [VX,VX]
 | b::r,K,K',op,num,args,k,h=>by
  have h1:=Z0n r (op:=op) (num:=num) (args:=args) (k:=k+1) h
  have h2:=MB b h
  have h3:∀z,z∈(gI args 0::K)↔z∈(gI args 0::K'):=fun z=>by rw [X0,X0,h z]
  have h4:=MB b h3
  rw [VX,VX,h1,h2]
  congr 1
  by_cases hq:op=8/\¬gI args 0∈K
  ·have hq':op=8/\¬gI args 0∈K':=⟨hq.1,fun z=>hq.2 ((h _).2 z)⟩
   rw [Zf hq,Zf hq']
   congr 1
   split
   ·exact h2
   ·exact h4
  ·have hq':¬(op=8/\¬gI args 0∈K'):=fun z=>hq ⟨z.1,fun y=>z.2 ((h _).1 y)⟩
   rw [Za hq,Za hq']
theorem Z0p:∀(xs:List Z5) {K K':LI},(∀z,z∈K↔z∈K')->U5 ds K xs=U5 ds K' xs
 | [],_,_,_=>by rw [U5,U5]
 | s::r,K,K',h=>by rw [U5,U5,Zff s h,Z0p r h]
theorem MB:∀(b:Z7) {K K':LI},(∀z,z∈K↔z∈K')->Ws ds K b=Ws ds K' b
 | .mk steps result,K,K',h=>by rw [Ws,Ws,Z0p steps h]
end
end
theorem F6:∀xs:List Z5,YX xs<=xs.length
 | []=>X2 _
 | s::r=>by have:=F6 r;rw [YX];split<;>simp<;>omega
section
variable {f:Z5->Z5} (hop:∀s,(f s).op=s.op) (hin:∀s,(f s).into=s.into) (har:∀s,(f s).args=s.args)
include hop
theorem M5:∀xs:List Z5,YX (xs.map f)=YX xs
 | []=>rfl
 | s::r=>by rw [Tm,YX,YX,hop,M5 r]
include har
theorem Nz {op x:Int}:∀(xs:List Z5) (k:Int),W6 op x (xs.map f) k=W6 op x xs k
 | [],_=>rfl
 | s::r,k=>by rw [Tm,W6,W6,hop,har,Nz r]
theorem Zdi (xs:List Z5) (x:Int):Vn (xs.map f) x=Vn xs x:=by rw [Vn,M5 hop,<-List.map_take,Nz hop har,Vn]
include hin
theorem NU {many:Nat}:∀(xs:List Z5) (k:Int),Wv many (xs.map f) k=Wv many xs k
 | [],_=>rfl
 | s::r,k=>by
  have e:Ky many (f s)↔Ky many s:=by rw [Ky,Ky,hop,hin,har]
  rw [Tm,Wv,Wv,NU r]
  by_cases h:Ky many s
  ·rw [Zf h,Zf (e.2 h)]
  ·rw [Za h,Za (fun z=>h (e.1 z))]
theorem Z4x (xs:List Z5) (many:Nat):WA (xs.map f) many=WA xs many:=by rw [WA,M5 hop,<-List.map_drop,NU hop hin har,WA]
end
theorem Ny {op x:Int}:∀{xs:List Z5} {k:Int},¬W6 op x xs k<0->0<=k->k<=W6 op x xs k/\W6 op x xs k<k+xs.length/\∃s,xs[(W6 op x xs k-k).toNat]? = some s/\s.op=op/\gI s.args 0=x
 | [],k,h,_=>by simp [W6] at h
 | s::r,k,h,hk=>by
  rw [W6] at h ⊢
  split
  ·rename_i q
   refine ⟨Int.le_refl _,by rw [Ys];omega,s,?_,q⟩
   rw [Int.sub_self];rfl
  ·rename_i q
   rw [Za q] at h
   obtain ⟨h1,h2,t,h3,h4⟩:=Ny (xs:=r) (k:=k+1) h om
   refine ⟨by omega,by rw [Ys];omega,t,?_,h4⟩
   rw [show (W6 op x r (k+1)-k).toNat=(W6 op x r (k+1)-(k+1)).toNat+1 by omega,List.getElem?_cons_succ]
   exact h3
theorem NT {many:Nat}:∀{xs:List Z5} {k:Int},¬Wv many xs k<0->0<=k->k<=Wv many xs k/\Wv many xs k<k+xs.length/\∃s,xs[(Wv many xs k-k).toNat]? = some s/\Ky many s
 | [],k,h,_=>by simp [Wv] at h
 | s::r,k,h,hk=>by
  rw [Wv] at h ⊢
  split
  ·rename_i q
   refine ⟨Int.le_refl _,by rw [Ys];omega,s,?_,q⟩
   rw [Int.sub_self];rfl
  ·rename_i q
   rw [Za q] at h
   obtain ⟨h1,h2,t,h3,h4⟩:=NT (xs:=r) (k:=k+1) h om
   refine ⟨by omega,by rw [Ys];omega,t,?_,h4⟩
   rw [show (Wv many r (k+1)-k).toNat=(Wv many r (k+1)-(k+1)).toNat+1 by omega,List.getElem?_cons_succ]
   exact h3
theorem E0 {xs:List Z5} {x:Int} (h:¬Vn xs x<0):0<=Vn xs x/\Vn xs x<YX xs/\∃s,xs[(Vn xs x).toNat]? = some s/\s.op=16/\gI s.args 0=x:=by
 obtain ⟨h1,h2,s,h3,h4⟩:=Ny h (Int.le_refl 0)
 have hl:=F6 xs
 rw [Vc,Qk hl] at h2
 have h2':Vn xs x<YX xs:=by unfold Vn;omega
 have h1':0<=Vn xs x:=h1
 refine ⟨h1',h2',s,?_,h4⟩
 rw [Int.sub_zero] at h3
 have h5:(Vn xs x).toNat<YX xs:=by omega
 rwa [show W6 16 x (xs.take (YX xs)) 0=Vn xs x from rfl,List.getElem?_take_of_lt h5] at h3
theorem Ag {xs:List Z5} {many:Nat} (h:¬WA xs many<0):(YX xs:Int)<=WA xs many/\WA xs many<xs.length/\∃s,xs[(WA xs many).toNat]? = some s/\Ky many s/\BX xs (WA xs many)=s:=by
 obtain ⟨h1,h2,s,h3,h4⟩:=NT h om
 have hl:=F6 xs
 rw [Cm] at h2
 have h1':(YX xs:Int)<=WA xs many:=h1
 have h2':WA xs many<xs.length:=by unfold WA;omega
 rw [List.getElem?_drop,show Wv many (xs.drop (YX xs)) (YX xs)=WA xs many from rfl,show YX xs+(WA xs many-(YX xs:Int)).toNat=(WA xs many).toNat by omega] at h3
 exact ⟨h1',h2',s,h3,h4,by rw [BX,h3];rfl⟩
theorem Zey {f:Z5->Z5} (hop:∀s,(f s).op=s.op) (hin:∀s,(f s).into=s.into) (har:∀s,(f s).args=s.args) (hc:∀x,f (Zx 17 x)=Zx 17 x) (hi:∀v s,f (Qr v s)=Qr v (f s)) (xs:List Z5) (x:Int) (many:Nat) :
  VF (xs.map f) x many=(VF xs x many).map f:=by
 rw [VF,Zdi hop har,Z4x hop hin har,VF]
 split
 ·rfl
 ·rename_i hq
  obtain ⟨_,_,s,h3,_,h5⟩:=Ag (fun z=>hq (.inr z))
  have e:BX (xs.map f) (WA xs many)=f (BX xs (WA xs many)):=by rw [BX,Jo,h3,h5];rfl
  rw [e,List.map_set,List.map_set,hc,hi]
theorem Z0l {ds:List Zc} {K:LI} {b:Z7} {x:Int} {many:Nat}:Ws ds K (VM b x many)=VM (Ws ds K b) x many:=by
 rw [VM,Ws,VM,HJ,HK,HK]
 show Z7.mk _ _=Z7.mk (VF (b.steps.map (Tk ds K)) x many) b.result
 rw [Zey (f:=Tk ds K) (fun s=>by rw [AK];rfl) (fun s=>by rw [AK];rfl) (fun s=>by rw [AK];rfl) (fun x=>by rw [AK];rfl) (fun v s=>by rw [AK,AK];rfl)]
structure CB (c:LI) (q:Int):Prop where
 len:c.length=4
 bd:∀x∈c,0<=x/\x<=q
mutual
def CZ:Z5->Prop
 | .mk op _ _ _ kids=>op≠17/\C5 kids
def C5:List Z7->Prop
 | []=>True
 | b::r=>Kb b/\C5 r
def C6:List Z5->Prop
 | []=>True
 | s::r=>CZ s/\C6 r
def Kb:Z7->Prop
 | .mk steps _=>C6 steps
end
theorem DX (s:Z5):CZ s↔s.op≠17/\C5 s.kids:=by cases s;rw [CZ];rfl
theorem Fa (b:Z7):Kb b↔C6 b.steps:=by cases b;rw [Kb];rfl
theorem Fb:∀{xs:List Z5},C6 xs↔∀s∈xs,CZ s
 | []=>by simp [C6]
 | s::r=>by rw [C6,Fb];simp
theorem Hs:∀{xs:List Z7},C5 xs↔∀s∈xs,Kb s
 | []=>by simp [C5]
 | s::r=>by rw [C5,Hs];simp
theorem MT:∀{xs:List Z5} {i:Nat} {s:Z5} (t:Z5),xs[i]? = some s->Yr (xs.set i t)+s.sz=Yr xs+t.sz
 | [],_,_,_,h=>by simp at h
 | x::r,0,s,t,h=>by simp at h;subst h;rw [List.set_cons_zero,Yr,Yr];omega
 | x::r,i+1,s,t,h=>by
  have:=MT (xs:=r) (i:=i) t (by simpa using h)
  rw [List.set_cons_succ,Yr,Yr];omega
theorem Zbb (v:Int) (s:Z5):(Qr v s).sz=s.sz:=by cases s;rw [Qr,Z5.sz,Z5.sz];rfl
theorem NX {xs:List Z5} {x:Int} {many:Nat} (h:¬(Vn xs x<0∨WA xs many<0)):(Vn xs x).toNat<(WA xs many).toNat:=by
 obtain ⟨h1,h2,_⟩:=E0 (fun z=>h (.inl z))
 obtain ⟨h3,h4,_⟩:=Ag (fun z=>h (.inr z))
 omega
theorem FC {xs:List Z5} {x:Int} {many:Nat} (h:¬(Vn xs x<0∨WA xs many<0)) {t:Z5} {s:Z5} (hs:xs[(WA xs many).toNat]? = some s):(xs.set (Vn xs x).toNat t)[(WA xs many).toNat]? = some s:=by
 have:=NX h
 rw [List.getElem?_set_ne om];exact hs
theorem Z08 {xs:List Z5} {x:Int} {many:Nat} (h:∀s∈xs,YM s.op=true->2<=s.sz):Yr (VF xs x many)<=Yr xs:=by
 rw [VF]
 split
 ·exact X2 _
 ·rename_i hq
  obtain ⟨_,_,s,h3,h4,_⟩:=E0 (fun z=>hq (.inl z))
  obtain ⟨_,_,t,h5,_,h6⟩:=Ag (fun z=>hq (.inr z))
  have e1:=MT (Zx 17 x) h3
  have e2:=MT (Qr (1+x) (BX xs (WA xs many))) (FC hq (t:=Zx 17 x) h5)
  have h7:=h s (Y4 h3) (by rw [h4];rfl)
  rw [Gs] at e1
  rw [Zbb,h6] at e2
  rw [h6]
  omega
section
variable {ds:List Zc}
theorem Zja {v:Int} {s:Z5} (h:wS ds s) (h6:s.op=6):wS ds (Qr v s):=by
 obtain ⟨h1,h2,h3,h4⟩:=(JY s).1 h
 exact (JY _).2 ⟨h1,fun hc=>absurd hc (by show ¬YM s.op=true;rw [h6];decide),h3,h4⟩
theorem Zj7 {v:Int}:wS ds (Zx 17 v):=(JY _).2 ⟨rfl,fun _=>⟨rfl,rfl,rfl,v,rfl⟩,fun e=>absurd e (show (17:Int)≠8 by decide),True.intro⟩
theorem Zj5 {xs:List Z5} {x:Int} {many:Nat} (h:QR ds xs):QR ds (VF xs x many):=by
 rw [VF]
 split
 ·exact h
 ·rename_i hq
  obtain ⟨_,_,t,h5,h7,h6⟩:=Ag (fun z=>hq (.inr z))
  rw [Bt]
  intro s hs
  rcases List.mem_or_eq_of_mem_set hs with hs|rfl
  ·rcases List.mem_or_eq_of_mem_set hs with hs|rfl
   ·exact Bt.1 h s hs
   ·exact Zj7
  ·rw [h6];exact Zja (Bt.1 h t (Y4 h5)) h7.1.1
theorem Zj3 {b:Z7} {x:Int} {many:Nat} (h:wB ds b):wB ds (VM b x many):=by rw [VM,Jk];exact Zj5 ((Jk b).1 h)
variable (hd:Xl ds)
mutual
theorem Zfg:∀(s:Z5) {K:LI},wS ds s->(Tk ds K s).sz<=s.sz
 | .mk op num into args kids,K,h=>by
  have:=Z0o kids (K:=K) (op:=op) (num:=num) (args:=args) (k:=0) h.2.2.2
  rw [Tk,Z5.sz,Z5.sz];omega
theorem Z0o:∀(bs:List Z7) {K:LI} {op num:Int} {args:LI} {k:Nat},Jl ds bs->YV (VX ds K op num args bs k)<=YV bs
 | [],_,_,_,_,_,_=>X2 _
 | b::r,K,op,num,args,k,h=>by
  have h2:=Z0o r (K:=K) (op:=op) (num:=num) (args:=args) (k:=k+1) h.2
  have key:∀K2:LI,(VM (Ws ds K2 b) (gI args 0) (Wo ds num k).length).sz<=b.sz:=fun K2=>by
   have h1:=MC b (K:=K2) h.1
   have h3:=Z08 (xs:=(Ws ds K2 b).steps) (x:=gI args 0) (many:=(Wo ds num k).length) (by
    rw [HJ,HK]
    intro s hs hc
    obtain ⟨t,ht,rfl⟩:=XA.1 hs
    rw [AK] at hc ⊢
    obtain ⟨_,_,a,ha⟩:=Ib (Bt.1 ((Jk b).1 h.1) t ht) hc
    rw [Z5.sz,ha];simp)
   rw [VM,Z7.sz]
   rw [Z7.sz_eq] at h1
   omega
  rw [VX,YV,YV]
  split
  ·have:=key (if Vn b.steps (gI args 0)<0∨WA b.steps (Wo ds num k).length<0 then K else gI args 0::K)
   omega
  ·have:=MC b (K:=K) h.1
   omega
theorem Z0r:∀(xs:List Z5) {K:LI},QR ds xs->Yr (U5 ds K xs)<=Yr xs
 | [],_,_=>X2 _
 | s::r,K,h=>by
  have h1:=Zfg s (K:=K) h.1
  have h2:=Z0r r (K:=K) h.2
  rw [U5,Yr,Yr];omega
theorem MC:∀(b:Z7) {K:LI},wB ds b->(Ws ds K b).sz<=b.sz
 | .mk steps result,K,h=>by
  have:=Z0r steps (K:=K) h
  rw [Ws,Z7.sz,Z7.sz];omega
end
end
theorem M6:∀{xs:List Z5} {i:Nat} {s t:Z5},xs[i]? = some s->YM t.op=YM s.op->YX (xs.set i t)=YX xs
 | [],_,_,_,h,_=>by simp at h
 | x::r,0,s,t,h,e=>by simp at h;subst h;rw [List.set_cons_zero,YX,YX,e]
 | x::r,i+1,s,t,h,e=>by
  rw [List.set_cons_succ,YX,YX,M6 (xs:=r) (i:=i) (by simpa using h) e]
theorem Zc5 {xs:List Z5} {x:Int} {many:Nat}:YX (VF xs x many)=YX xs:=by
 rw [VF]
 split
 ·rfl
 ·rename_i hq
  obtain ⟨_,_,s,h3,h4,_⟩:=E0 (fun z=>hq (.inl z))
  obtain ⟨_,_,t,h5,_,h6⟩:=Ag (fun z=>hq (.inr z))
  rw [M6 (FC hq (t:=Zx 17 x) h5) (by rw [h6];rfl),M6 h3 (by rw [h4];rfl)]
theorem NB {op x:Int}:∀{xs:List Z5} {k:Int},(∀s∈xs,s.op≠op)->W6 op x xs k=-1
 | [],_,_=>rfl
 | s::r,k,h=>by
  rw [W6,Za (fun z=>h s (Xf ..) z.1)]
  exact NB fun t ht=>h t (Xr _ ht)
theorem NC {op x:Int}:∀{xs:List Z5} {k:Int},0<=k->(∃s∈xs,s.op=op/\gI s.args 0=x)->0<=W6 op x xs k
 | [],_,_,h=>by obtain ⟨s,hs,_⟩:=h;cases hs
 | s::r,k,hk,h=>by
  rw [W6]
  split
  ·exact hk
  ·rename_i q
   obtain ⟨t,ht,h1⟩:=h
   rcases X0.1 ht with rfl|ht
   ·exact absurd h1 q
   ·exact NC om ⟨t,ht,h1⟩
theorem Z2f {xs:List Z5} {x:Int} {many:Nat} (hn:C6 xs):0<=W6 17 x ((VF xs x many).take (YX (VF xs x many))) 0↔¬(Vn xs x<0∨WA xs many<0):=by
 rw [Zc5]
 constructor
 ·intro h hq
  rw [VF,Zf hq,NB (fun s hs=>((DX s).1 (Fb.1 hn s (QA hs))).1)] at h
  omega
 ·intro hq
  obtain ⟨h1,h2,s,h3,h4,_⟩:=E0 (fun z=>hq (.inl z))
  have hap:=NX hq
  refine NC (Int.le_refl 0) ⟨Zx 17 x,?_,rfl,rfl⟩
  rw [VF,Za hq]
  refine Y4 (i:=(Vn xs x).toNat) ?_
  rw [List.getElem?_take_of_lt om,List.getElem?_set_ne om,List.getElem?_set_self (Xu.1 h3).1]
def C7 (b:Z7):Prop:=∀s∈b.steps,C5 s.kids
theorem CY {b:Z7} (h:Kb b):C7 b:=fun s hs=>((DX s).1 (Fb.1 ((Fa b).1 h) s hs)).2
theorem Zcw {b:Z7} {k j:Nat} {s:Z5} {c:Z7} (h:C7 b) (hs:b.steps[k]? = some s) (hc:s.kids[j]? = some c):Kb c:=Hs.1 (h s (Y4 hs)) c (Y4 hc)
theorem S6 {b:Z7} {x:Int} {many:Nat} (h:Kb b):C7 (VM b x many):=by
 intro s hs
 have hs:s∈VF b.steps x many:=hs
 rw [VF] at hs
 split at hs
 ·exact CY h s hs
 ·rename_i hq
  obtain ⟨_,_,t,h5,_,h6⟩:=Ag (fun z=>hq (.inr z))
  rcases List.mem_or_eq_of_mem_set hs with hs|rfl
  ·rcases List.mem_or_eq_of_mem_set hs with hs|rfl
   ·exact CY h s hs
   ·exact True.intro
  ·rw [h6];exact CY h t (Y4 h5)
theorem Zex {ds:List Zc} {b:Z7} {x:Int} {many:Nat} (h:wB ds b):(VM b x many).sz<=b.sz:=by
 have:=Z08 (xs:=b.steps) (x:=x) (many:=many) fun s hs hc=>by
  have h7:=Ii ((Jk b).1 h) s hs hc
  rw [h7,Gs];omega
 rw [VM,Z7.sz,b.sz_eq];omega
def Ce (ds:List Zc) (r:Yz):Yz:=⟨r.params,r.lent,r.result,Ws ds [] r.body⟩
def D9 (n:ZF):ZF:=⟨n.decls,n.routines.map (Ce n.decls)⟩
end Go.Abs
section
namespace Go.Abs
theorem Zc3 {xs:List Z5} {k:Nat} {s:Z5} {r:Nat} (h:xs[k]? = some s) (hs:YM s.op=true) (ha:k+YX (xs.drop k)=r):k+1+YX (xs.drop (k+1))=r:=by
 rw [Yj h,YX,Zf hs] at ha;omega
theorem Zc4 {xs:List Z5} {k:Nat} {s:Z5} {r:Nat} (h:xs[k]? = some s) (hs:¬YM s.op=true) (ha:k+YX (xs.drop k)=r):k=r:=by
 rw [Yj h,YX,Za hs] at ha;omega
theorem Zc2 {xs:List Z5} {k:Nat} {r:Nat} (h:xs.length<=k) (ha:k+YX (xs.drop k)=r):k=r:=by
 rw [Xj h,YX] at ha;omega
theorem Z4b {op x:Int} {xs:List Z5} {k:Nat} {s:Z5} {r:Int} (h:xs[k]? = some s) (hs:s.op=op/\gI s.args 0=x) (ha:W6 op x (xs.drop k) k=r):(k:Int)=r:=by
 rw [Yj h,W6,Zf hs] at ha;exact ha
theorem NA {op x:Int} {xs:List Z5} {k:Nat} {s:Z5} {r:Int} (h:xs[k]? = some s) (hs:¬(s.op=op/\gI s.args 0=x)) (ha:W6 op x (xs.drop k) k=r):W6 op x (xs.drop (k+1)) ((k+1:Nat):Int)=r:=by
 rw [Yj h,W6,Za hs] at ha;rw [<-ha];congr 1
theorem Z4a {op x:Int} {xs:List Z5} {k:Nat} {r:Int} (h:xs.length<=k) (ha:W6 op x (xs.drop k) k=r):-1=r:=by
 rw [Xj h,W6] at ha;exact ha
theorem Z51 {many:Nat} {xs:List Z5} {k:Nat} {s:Z5} {r:Int} (h:xs[k]? = some s) (hs:Ky many s) (ha:Wv many (xs.drop k) k=r):(k:Int)=r:=by
 rw [Yj h,Wv,Zf hs] at ha;exact ha
theorem Z50 {many:Nat} {xs:List Z5} {k:Nat} {s:Z5} {r:Int} (h:xs[k]? = some s) (hs:¬Ky many s) (ha:Wv many (xs.drop k) k=r):Wv many (xs.drop (k+1)) ((k+1:Nat):Int)=r:=by
 rw [Yj h,Wv,Za hs] at ha;rw [<-ha];congr 1
theorem Z4z {many:Nat} {xs:List Z5} {k:Nat} {r:Int} (h:xs.length<=k) (ha:Wv many (xs.drop k) k=r):-1=r:=by
 rw [Xj h,Wv] at ha;exact ha
theorem Zez {xs:List Z5} {x:Int} {many:Nat} (h:Vn xs x<0∨WA xs many<0):VF xs x many=xs:=Zf h
theorem Zf0 {xs:List Z5} {x:Int} {many:Nat} {s:Z5} (h:¬(Vn xs x<0∨WA xs many<0)) (hs:BX xs (WA xs many)=s):(xs.set (Vn xs x).toNat (Zx 17 x)).set (WA xs many).toNat (Qr (1+x) s)=VF xs x many:=by
 rw [VF,Za h,hs]
theorem DK (xs:List Z5):(Zu (ZQ xs)).length=xs.length*5:=by rw [TZ _ (XD _)];simp
theorem Lx (s:Z5) (r:List Z5):Zu (ZQ (s::r))=W7 s++Zu (ZQ r):=by rw [U4,U4];rfl
theorem Z87 {xs:List Z5} {k:Nat} {x:Z5} (h:xs[k]? = some x):Zu (ZQ (xs.take k))++Zu [X3 x]=Zu (ZQ (xs.take (k+1))):=by
 rw [VO h,Vt,As,Lx]
 have:Zu (ZQ [])=[]:=by rw [U4];rfl
 rw [this];rfl
theorem Pj {xs:List Z5} {i:Nat} {s:Z5} (h:xs[i]? = some s):Zu (ZQ xs)=Zu (ZQ (xs.take i))++(W7 s++Zu (ZQ (xs.drop (i+1)))):=by
 have hi:=(Xu.1 h).1
 have e:xs=xs.take i++(s::xs.drop (i+1)):=by rw [<-Yj h,Qj]
 conv=>lhs;rw [e,Vt,As,Lx]
theorem Pi {xs:List Z5} {i:Nat} {s t:Z5} (h:xs[i]? = some s):(Zu (ZQ xs)).take (i*5)++W7 t++(Zu (ZQ xs)).drop (i*5+(W7 t).length)=Zu (ZQ (xs.set i t)):=by
 have hi:=(Xu.1 h).1
 have hl:(Zu (ZQ (xs.take i))).length=i*5:=by rw [DK,Vc,Qk om]
 rw [Pj h,MA (xs:=W7 s) (ys:=W7 t) hl rfl]
 have e:xs.set i t=xs.take i++(t::xs.drop (i+1)):=by rw [If,Zf hi]
 rw [e,Vt,As,Lx]
theorem Z86 {xs:List Z5} {i:Nat} {s:Z5} (h:xs[i]? = some s):((Zu (ZQ xs)).drop (i*5)).take (W7 s).length=W7 s:=by
 have hi:=(Xu.1 h).1
 have hl:(Zu (ZQ (xs.take i))).length=i*5:=by rw [DK,Vc,Qk om]
 rw [Pj h]
 exact Z0j hl
structure KV (xs:LI) (v:Int) (k:Nat) (acc:LI) (d:Bool):Prop where
 len:acc.length<=k+(if d=true then 1 else 0)
 sub:∀z∈acc,z∈xs.take k∨z=v
 all:∀z∈xs.take k,z∈acc
 done:d=true->v∈acc
theorem KV.zero (xs:LI) (v:Int):KV xs v 0 [] false:=⟨by simp,by simp,by simp,by simp⟩
theorem KV.step {xs:LI} {v:Int} {k:Nat} {acc:LI} {d:Bool} {x:Int} (h:KV xs v k acc d) (hx:xs[k]? = some x) {acc2:LI} {d2:Bool}
  (hc:(acc2=acc++[x]/\d2=d)∨(acc2=(acc++[v])++[x]/\d2=true/\¬d=true)∨(acc2=acc++[x]/\d2=true/\x=v)):KV xs v (k+1) acc2 d2:=by
 obtain ⟨h1,h2,h3,h4⟩:=h
 have ht:∀z,z∈xs.take (k+1)↔z∈xs.take k∨z=x:=fun z=>by rw [VO hx];simp
 rcases hc with ⟨rfl,rfl⟩|⟨rfl,rfl,hd⟩|⟨rfl,rfl,rfl⟩
 ·refine ⟨by simp;omega,fun z hz=>?_,fun z hz=>?_,fun q=>List.mem_append_left _ (h4 q)⟩
  ·rw [ht]
   rcases Xg.1 hz with hz|hz
   ·rcases h2 z hz with q|q
    ·exact .inl (.inl q)
    ·exact .inr q
   ·exact .inl (.inr (Xs.1 hz))
  ·rcases (ht z).1 hz with q|q
   ·exact List.mem_append_left _ (h3 z q)
   ·subst q;simp
 ·rw [Za hd] at h1
  refine ⟨by simp;omega,fun z hz=>?_,fun z hz=>?_,fun _=>by simp⟩
  ·rw [ht]
   simp only [Xg,Xs] at hz
   rcases hz with (hz|hz)|hz
   ·rcases h2 z hz with q|q
    ·exact .inl (.inl q)
    ·exact .inr q
   ·exact .inr hz
   ·exact .inl (.inr hz)
  ·rcases (ht z).1 hz with q|q
   ·exact List.mem_append_left _ (List.mem_append_left _ (h3 z q))
   ·subst q;simp
 ·refine ⟨by simp;split at h1<;>omega,fun z hz=>?_,fun z hz=>?_,fun _=>by simp⟩
  ·rw [ht]
   rcases Xg.1 hz with hz|hz
   ·rcases h2 z hz with q|q
    ·exact .inl (.inl q)
    ·exact .inr q
   ·exact .inl (.inr (Xs.1 hz))
  ·rcases (ht z).1 hz with q|q
   ·exact List.mem_append_left _ (h3 z q)
   ·subst q;simp
theorem KV.fin {xs:LI} {v:Int} {k:Nat} {acc:LI} {d:Bool} (h:KV xs v k acc d) (hk:k=xs.length) :
  (d=true->acc.length<=xs.length+1/\∀z,z∈acc↔z∈xs∨z=v)/\(¬d=true->(acc++[v]).length<=xs.length+1/\∀z,z∈acc++[v]↔z∈xs∨z=v):=by
 obtain ⟨h1,h2,h3,h4⟩:=h
 subst hk
 rw [U7] at h2 h3
 refine ⟨fun hd=>?_,fun hd=>?_⟩
 ·rw [Zf hd] at h1
  exact ⟨h1,fun z=>⟨h2 z,fun q=>q.elim (h3 z) fun e=>e▸h4 hd⟩⟩
 ·rw [Za hd] at h1
  refine ⟨by simp;omega,fun z=>?_⟩
  rw [Xg,Xs]
  exact ⟨fun q=>q.elim (h2 z) .inr,fun q=>q.elim (fun e=>.inl (h3 z e)) .inr⟩
end Go.Abs
namespace Go.Abs
theorem KV.go {xs:LI} {v:Int} {k:Nat} {acc:LI} {d:Bool} {x:Int} (h:KV xs v k acc d) (hx:xs[k]? = some x) {acc2:LI} {d2:Bool}
  (hc:(acc2=acc/\d2=d)∨(acc2=acc++[v]/\d2=true/\¬d=true)∨(acc2=acc/\d2=true/\x=v)):KV xs v (k+1) (acc2++[x]) d2:=by
 refine h.step hx ?_
 rcases hc with ⟨e1,e2⟩|⟨e1,e2,e3⟩|⟨e1,e2,e3⟩
 ·exact .inl ⟨by rw [e1],e2⟩
 ·exact .inr (.inl ⟨by rw [e1],e2,e3⟩)
 ·exact .inr (.inr ⟨by rw [e1],e2,e3⟩)
section
variable {ds:List Zc} {kept K2:LI} {op num x:Int} {args:LI} {j many:Nat} {kd:Z7}
theorem Zfd (h8:op=8) (hx:gI args 0=x) (hk:¬x∈kept) (hm:(Wo ds num j).length=many) (hq:¬(Vn kd.steps x<0∨WA kd.steps many<0)) (hK:∀z,z∈K2↔z∈kept∨z=x):Ws ds K2 (VM kd x many)=Qc ds kept op num args j kd:=by
 subst hx hm
 have e:∀z,z∈K2↔z∈gI args 0::kept:=fun z=>by rw [hK z,X0];exact Or.comm
 rw [Qc,Zf ⟨h8,hk⟩,He,Za hq,Z0l,MB kd e]
theorem Zfe (h8:op=8) (hx:gI args 0=x) (hk:¬x∈kept) (hm:(Wo ds num j).length=many) (hq:Vn kd.steps x<0∨WA kd.steps many<0):Ws ds kept (VM kd x many)=Qc ds kept op num args j kd:=by
 subst hx hm
 rw [Qc,Zf ⟨h8,hk⟩,He,Zf hq,Z0l]
theorem Z0m (h:¬(op=8/\¬gI args 0∈kept)):Ws ds kept kd=Qc ds kept op num args j kd:=by rw [Qc,Za h]
end
end Go.Abs
namespace Go.Abs
theorem Gn:∀{xs:List Z7} {k:Nat} {b:Z7},xs[k]? = some b->YV (xs.take k)+b.sz<=YV xs
 | [],_,_,h=>by simp at h
 | x::r,0,b,h=>by simp at h;subst h;simp [YV]
 | x::r,k+1,b,h=>by
  have:=Gn (xs:=r) (k:=k) (by simpa using h)
  rw [AR,YV,YV];omega
theorem IJ {xs:List Z7} {k:Nat} (h:xs.length<=k):YV (xs.take k)=YV xs:=by rw [U8 h]
end Go.Abs
end
namespace Go.Abs
theorem Z1z {xs:List Z5} {k:Nat} {s:Z5} (h:xs[k]? = some s):Yr (xs.drop k)=s.sz+Yr (xs.drop (k+1)):=by rw [Yj h,Yr]
theorem Z20 (xs:List Z5) (k:Nat):Yr (xs.drop k)<=Yr xs:=by
 have h:=Yn Yr (Qj k xs)
 rw [Qf] at h;omega
theorem Gm {xs:List Z7} {k:Nat} {b:Z7} (h:xs[k]? = some b):YV (xs.take (k+1))=YV (xs.take k)+b.sz:=by rw [VO h,Gk,YV,YV];rfl
structure CL (ds:List Zc) (nf m:Nat) (xs:List Z5) (d z:Nat):Prop where
 fs:W3 ds nf m xs
 dn:Yp xs=d
 op:Q6 Vz xs
 sz:Yr xs<=z
section
variable {ds:List Zc} {nf m d z:Nat} {xs:List Z5}
theorem CL.nil:CL ds nf m [] 0 0:=⟨True.intro,rfl,True.intro,X2 _⟩
theorem CL.len (h:CL ds nf m xs d z):xs.length<=z:=V7 (Jg xs) h.sz
theorem CL.le (h:CL ds nf m xs d z) {z2:Nat} (hz:z<=z2):CL ds nf m xs d z2:=⟨h.fs,h.dn,h.op,V7 h.sz hz⟩
theorem Z6u {op v:Int} (ho:op=14∨op=15) (hv:0<=v/\v<(m:Int)):fS ds nf m (Zx op v):=by
 rw [Zx,fS]
 exact ⟨.inr om,fun a ha=>by rw [Xs.1 ha];exact hv,fun _=>⟨rfl,rfl,rfl,v,rfl⟩,fun h=>by omega,fun h=>by omega,fun h=>by omega,fun h=>by omega,by omega,by omega,by simp,fun _=>rfl,True.intro⟩
theorem O1 {op:Int} (ho:op=14∨op=15):YM op=true:=by simp [YM];omega
theorem CL.cnt (h:CL ds nf m xs d z) {op v:Int} (ho:op=14∨op=15) (hv:0<=v/\v<((m+d:Nat):Int)):CL ds nf m (xs++[Zx op v]) d (z+2):=by
 have hc:YM (Zx op v).op=true:=O1 ho
 refine ⟨GO h.fs (by rw [h.dn];exact Z6u ho hv),?_,Hy h.op ?_,?_⟩
 ·rw [T6,h.dn,Yp,Zf hc];rfl
 ·rw [Fe];exact ⟨by show op<=15;omega,True.intro⟩
 ·have:=h.sz
  have e:(Zx op v).sz=2:=rfl
  rw [Qf,Yr,e,Yr];omega
theorem CL.cnts {op:Int} (ho:op=14∨op=15):∀{vs:LI} {xs:List Z5} {z:Nat},CL ds nf m xs d z->(∀v∈vs,0<=v/\v<((m+d:Nat):Int))->CL ds nf m (xs++vs.map (Zx op)) d (z+2*vs.length)
 | [],xs,z,h,_=>by simpa using h
 | v::r,xs,z,h,hv=>by
  have h1:=CL.cnts ho (vs:=r) (h.cnt ho (hv v (Xf ..))) fun x hx=>hv x (Xr _ hx)
  rw [Tm,show xs++Zx op v::r.map (Zx op)=xs++[Zx op v]++r.map (Zx op) by simp]
  exact h1.le (by rw [Ys];omega)
theorem CL.one (h:CL ds nf m xs d z) {s:Z5} (hs:fS ds nf (m+d) s) (hc:YM s.op=false) (ho:Kd Vz s):CL ds nf m (xs++[s]) (d+1) (z+s.sz):=by
 refine ⟨GO h.fs (by rw [h.dn];exact hs),by rw [EC hc,h.dn],Hy h.op ho,?_⟩
 have:=h.sz
 rw [Qf,Yr,Yr];omega
theorem CL.app (h:CL ds nf m xs d z) {ys:List Z5} {d2 z2:Nat} (h2:CL ds nf (m+d) ys d2 z2):CL ds nf m (xs++ys) (d+d2) (z+z2):=by
 refine ⟨Ap.2 ⟨h.fs,by rw [h.dn];exact h2.fs⟩,by rw [T6,h.dn,h2.dn],Hx.2 ⟨h.op,h2.op⟩,?_⟩
 have:=h.sz
 have:=h2.sz
 rw [Qf];omega
end
structure KB (ds:List Zc) (nf m:Nat) (b:Z7) (z:Nat):Prop where
 fb:fB ds nf m b
 op:Vm Vz b
 sz:b.sz<=z
section
variable {ds:List Zc} {nf m d z:Nat} {xs:List Z5}
theorem CL.block (h:CL ds nf m xs d z) {r:Int} (hr:0<=r/\r<((m+d:Nat):Int)):KB ds nf m ⟨xs,r⟩ (1+z):=by
 refine ⟨by rw [fB,h.dn];exact ⟨h.fs,hr⟩,by rw [Vm];exact h.op,?_⟩
 have:=h.sz
 rw [Z7.sz];omega
theorem KB.le {b:Z7} (h:KB ds nf m b z) {z2:Nat} (hz:z<=z2):KB ds nf m b z2:=⟨h.fb,h.op,V7 h.sz hz⟩
theorem KB.cl {b:Z7} (h:KB ds nf m b z):CL ds nf m b.steps (Yp b.steps) (z-1)/\0<=b.result/\b.result<((m+Yp b.steps:Nat):Int):=by
 obtain ⟨h1,h2⟩:=(J3 b).1 h.fb
 refine ⟨⟨h1,rfl,(Hw b).1 h.op,?_⟩,h2⟩
 have:=h.sz
 have:=b.sz_eq
 omega
theorem KB.put {b:Z7} (h:KB ds nf m b z) {as1 bs:LI} (ha:∀v∈as1,0<=v/\v<(m:Int)) (hb:∀v∈bs,0<=v/\v<(m:Int)):KB ds nf m ⟨as1.map (Zx 14)++bs.map (Zx 15)++b.steps,b.result⟩ (z+2*as1.length+2*bs.length):=by
 obtain ⟨h1,h2⟩:=h.cl
 have q1:CL ds nf m ([]++as1.map (Zx 14)) 0 (0+2*as1.length):=CL.nil.cnts (.inl rfl) ha
 have q2:=(q1.cnts (op:=15) (.inr rfl) hb).app h1
 have:=h.sz
 have:=b.sz_eq
 rw [Jq,Wj] at q2
 exact (q2.block h2).le om
end
structure KK (ds:List Zc) (nf:Nat) (sc:Nat->Nat) (ks:List Z7) (z:Nat):Prop where
 fb:VB ds nf sc 0 ks
 op:Kc Vz ks
 sz:YV ks<=z
section
variable {ds:List Zc} {nf m z:Nat} {sc:Nat->Nat}
theorem KK.nil:KK ds nf sc [] 0:=⟨True.intro,True.intro,X2 _⟩
theorem KK.snoc {ks:List Z7} {b:Z7} {j z2:Nat} (h:KK ds nf sc ks z) (hj:ks.length=j) (hb:KB ds nf (sc j) b z2):KK ds nf sc (ks++[b]) (z+z2):=by
 refine ⟨OT h.fb (by rw [hj];exact hb.fb),Sc h.op hb.op,?_⟩
 have:=h.sz
 have:=hb.sz
 rw [Gk];simp only [YV];omega
theorem KK.le {ks:List Z7} (h:KK ds nf sc ks z) {z2:Nat} (hz:z<=z2):KK ds nf sc ks z2:=⟨h.fb,h.op,V7 h.sz hz⟩
theorem OV {s:Z5} {ks:List Z7} {into:Int} (h:FS ds nf m s) (h11:s.op<=11) (hl:ks.length=s.kids.length) (hi:0<=into/\into<=m) (hk:KK ds nf (WK ds s.op s.num m) ks z):fS ds nf m ⟨s.op,s.num,into,s.args,ks⟩/\Kd Vz ⟨s.op,s.num,into,s.args,ks⟩/\(Z5.mk s.op s.num into s.args ks).sz<=5+z:=by
 refine ⟨?_,?_,?_⟩
 ·rw [fS]
  refine ⟨h.op,h.args,fun q=>by omega,fun q=>by rw [hl];exact h.k7 q,fun q=>by rw [hl];exact h.k8 q,h.one,h.call,h.num,hi,h.alen,fun q=>?_,hk.fb⟩
  have:=h.kn q
  rw [this] at hl
  exact List.eq_nil_of_length_eq_zero hl
 ·rw [Kd];exact ⟨by show s.op<=15;omega,hk.op⟩
 ·have:=h.alen
  have:=hk.sz
  rw [Z5.sz];omega
end
structure KT (ds:List Zc) (nf m:Nat) (st:Z5) (z:Nat):Prop where
 fs:fS ds nf m st
 cb:YM st.op=false
 op:Kd Vz st
 sz:st.sz<=z
theorem KT.of {ds:List Zc} {nf m z:Nat} {s:Z5} {ks:List Z7} {into:Int} (h:FS ds nf m s) (h11:s.op<=11) (hl:ks.length=s.kids.length) (hi:0<=into/\into<=m) (hk:KK ds nf (WK ds s.op s.num m) ks z):KT ds nf m ⟨s.op,s.num,into,s.args,ks⟩ (5+z):=by
 obtain ⟨h1,h2,h3⟩:=OV h h11 hl hi hk
 exact ⟨h1,by show YM s.op=false;simp [YM];omega,h2,h3⟩
theorem CL.kt {ds:List Zc} {nf m d z z2:Nat} {xs:List Z5} {st:Z5} (h:CL ds nf m xs d z) (hs:KT ds nf (m+d) st z2):CL ds nf m (xs++[st]) (d+1) (z+z2):=(h.one hs.fs hs.cb hs.op).le (by have:=hs.sz;omega)
theorem FS.few {ds:List Zc} {nf m:Nat} {s:Z5} (h:FS ds nf m s) (hd:Xl ds):s.kids.length<=3:=by
 by_cases h7:s.op=7
 ·have:=h.k7 h7;omega
 ·by_cases h8:s.op=8
  ·have:=h.k8 h8
   have:=D0 hd s.num
   omega
  ·rw [h.kn ⟨h7,h8⟩];simp
theorem RF.lend {ds:List Zc} {nf q:Nat} {p:Int->Prop} {r:Yz} {l:LI} (h:RF ds nf q p r) (h1:l.length<=3) (h2:∀v∈l,0<=v/\v<(r.params.length:Int)):RF ds nf q p ⟨r.params,l,r.result,r.body⟩:=⟨h.sig,⟨h1,h2⟩,h.body,h.op⟩
theorem RF.with {ds:List Zc} {nf q q2:Nat} {p p2:Int->Prop} {r:Yz} {b:Z7} (h:RF ds nf q p r) (h1:fB ds nf r.params.length b) (h2:b.sz<=q2) (h3:Vm p2 b):RF ds nf q2 p2 ⟨r.params,r.lent,r.result,b⟩:=⟨h.sig,h.lent,⟨h1,h2⟩,h3⟩
theorem Z7.eta (b:Z7):Z7.mk b.steps b.result=b:=by cases b;rfl
theorem LC.at {n:ZF} {k:Nat} {xs:List LI} {i:Nat} {l:LI} {r:Yz} (h:LC n k xs) (hl:xs[i]? = some l) (hr:n.routines[i]? = some r):l.length<=3/\∀v∈l,0<=v/\v<(r.params.length:Int):=⟨(h.ok i l hl).1,(h.ok i l hl).2 r hr⟩
theorem IX:∀{xs:List Z5},(∀s∈xs,Kd WQ s)->∀k,k<=xs.length->Yp (xs.take k)=k
 | _,_,0,_=>rfl
 | [],_,k+1,h=>absurd h (by simp)
 | x::r,h,k+1,hk=>by
  have h1:=((Fe x).1 (h x (Xf ..))).1
  have hc:YM x.op=false:=by have:x.op<=11:=h1;simp [YM];omega
  rw [AR,Yp,Za (by rw [hc];simp),IX (fun s hs=>h s (Xr _ hs)) k (by simpa using hk)]
  omega
theorem KB.put1 {ds:List Zc} {nf m z:Nat} {b:Z7} (h:KB ds nf m b z) {op:Int} (ho:op=14∨op=15) {as1:LI} (ha:∀v∈as1,0<=v/\v<(m:Int)):KB ds nf m ⟨as1.map (Zx op)++b.steps,b.result⟩ (z+2*as1.length):=by
 obtain ⟨h1,h2⟩:=h.cl
 have q1:CL ds nf m ([]++as1.map (Zx op)) 0 (0+2*as1.length):=CL.nil.cnts ho ha
 have q2:=q1.app h1
 have:=h.sz
 have:=b.sz_eq
 rw [Jq,Wj] at q2
 exact (q2.block h2).le om
theorem FO.fin {n:ZF} {rs:List Yz} {q q2:Nat} {p:Int->Prop} (h:FN n q2) (e:rs.length=n.routines.length) (hr:∀r∈rs,RF n.decls n.routines.length q p r):FO ⟨n.decls,rs⟩ q p/\rs.length=n.routines.length:=
 ⟨FO.all h.decls (by show 1<=rs.length/\rs.length<=4;rw [e];exact h.len) (by show ∀r∈rs,RF n.decls rs.length q p r;rw [e];exact hr),e⟩
theorem KT.le {ds:List Zc} {nf m z z2:Nat} {st:Z5} (h:KT ds nf m st z) (hz:z<=z2):KT ds nf m st z2:=⟨h.fs,h.cb,h.op,V7 h.sz hz⟩
theorem KB.len {ds:List Zc} {nf m z:Nat} {b:Z7} (h:KB ds nf m b z):b.steps.length<=z:=by
 have:=h.sz
 have:=b.sz_eq
 have:=Jg b.steps
 omega
def VH:List Z5->Int->Nat
 | [],_=>0
 | s::r,v=>(if gI s.args 0=v then 1 else 0)+VH r v
def Vx (rn:List Z5):LI->Nat
 | []=>0
 | v::r=>VH rn v+Vx rn r
theorem IN:∀(xs ys:List Z5) (v:Int),VH (xs++ys) v=VH xs v+VH ys v
 | [],ys,v=>by simp [VH]
 | x::r,ys,v=>by rw [Bu,VH,VH,IN r];omega
theorem Z4u {xs:List Z5} {k:Nat} {s:Z5} (h:xs[k]? = some s) (v:Int):VH (xs.take (k+1)) v=VH (xs.take k) v+(if gI s.args 0=v then 1 else 0):=by
 rw [VO h,IN,VH,VH];omega
theorem NS:∀(xs:List Z5) (v:Int),VH xs v<=xs.length
 | [],v=>X2 _
 | x::r,v=>by have:=NS r v;rw [VH,Ys];split<;>omega
theorem Z4v (xs:List Z5) (k:Nat) (v:Int):VH (xs.take k) v<=VH xs v:=by
 have h:=Yn (VH · v) (Qj k xs)
 simp only [IN] at h;omega
theorem MV (rn:List Z5):∀xs ys:LI,Vx rn (xs++ys)=Vx rn xs+Vx rn ys
 | [],ys=>by simp [Vx]
 | x::r,ys=>by rw [Bu,Vx,Vx,MV rn r];omega
theorem Zi9 {rn:List Z5} {xs:LI} {k:Nat} {v:Int} (h:xs[k]? = some v):Vx rn (xs.take (k+1))=Vx rn (xs.take k)+VH rn v:=by
 rw [VO h,MV,Vx,Vx];rfl
theorem Z29 (s:Z5) (r:List Z5):∀vs:LI,Cr vs->Vx (s::r) vs<=1+Vx r vs/\(¬gI s.args 0∈vs->Vx (s::r) vs=Vx r vs)
 | [],_=>by simp [Vx]
 | v::vs,h=>by
  obtain ⟨h1,h2⟩:=Uh.1 h
  obtain ⟨q1,q2⟩:=Z29 s r vs h2
  rw [Vx,Vx,VH]
  by_cases e:gI s.args 0=v
  ·have hn:¬gI s.args 0∈vs:=fun z=>by have:=h1 _ z;omega
   rw [Zf e,q2 hn]
   exact ⟨by omega,fun z=>absurd (X0.2 (.inl e)) z⟩
  ·rw [Za e]
   exact ⟨by omega,fun z=>by rw [q2 fun y=>z (Xr _ y)];omega⟩
theorem Z2a:∀(rn:List Z5) {vs:LI},Cr vs->Vx rn vs<=rn.length
 | [],vs,_=>by
  have:∀xs:LI,Vx [] xs=0:=fun xs=>by
   induction xs with
   | nil=>rfl
   | cons x r ih=>rw [Vx,ih];rfl
  rw [this];exact T2 _
 | s::r,vs,h=>by
  have h1:=(Z29 s r vs h).1
  have h2:=Z2a r h
  rw [Ys];omega
theorem MW (rn:List Z5) (xs:LI) (k:Nat):Vx rn (xs.take k)<=Vx rn xs:=by
 have h:=Yn (Vx rn) (Qj k xs)
 rw [MV] at h;omega
def Nj (m:Nat) (rn:List Z5):Prop:=∀s∈rn,∃a,s.args=[a]/\0<=a/\a<(m:Int)
theorem Oa {xs:List Z5} {k:Nat} {s:Z5} (h:xs[k]? = some s):Yp (xs.take (k+1))=Yp (xs.take k)+(if YM s.op=true then 0 else 1):=by rw [VO h,T6,Yp,Yp];rfl
theorem KT.eq {ds:List Zc} {nf m z:Nat} {s:Z5} {ks:List Z7} (h:FS ds nf m s) (h11:s.op<=11) (hl:ks.length=s.kids.length) (hk:KK ds nf (WK ds s.op s.num m) ks z):KT ds nf m ⟨s.op,s.num,s.into,s.args,ks⟩ (1+s.args.length+z):=by
 obtain ⟨h1,h2,h3⟩:=OV h h11 hl h.into hk
 refine ⟨h1,by show YM s.op=false;simp [YM];omega,h2,?_⟩
 have:=hk.sz
 rw [Z5.sz];omega
theorem FS.pair {ds:List Zc} {nf m:Nat} {s:Z5} (h:FS ds nf m s) (hp:s.op=14∨s.op=15):(∃a,s.args=[a]/\0<=a/\a<(m:Int))/\s.sz=2/\YM s.op=true:=by
 obtain ⟨h1,h2,h3,a,h4⟩:=h.cnt om
 have h5:=h.args a (by rw [h4];exact Xs.2 rfl)
 refine ⟨⟨a,h4,h5⟩,?_,O1 hp⟩
 rw [s.sz_eq,h3,h4];rfl
theorem FS.not_pair {ds:List Zc} {nf m:Nat} {s:Z5} (h:FS ds nf m s) (hp:¬(s.op=14∨s.op=15)) (h15:Vz s.op):s.op<=11/\YM s.op=false:=by
 have h1:s.op<=15:=h15
 have h2:=h.op
 exact ⟨by omega,by simp [YM];omega⟩
theorem CL.run {ds:List Zc} {nf m d z:Nat} {xs:List Z5} {D R:LI} {rn:List Z5} (h:CL ds nf m xs d z) (hr:Nj (m+d) rn) (hD:∀v∈D,∃s∈rn,s.args=[v]) (hR:∀v∈R,∃s∈rn,s.args=[v]):CL ds nf m (xs++(D.map (Zx 14)++R.map (Zx 15))) d (z+2*(D.length+R.length)):=by
 have key:∀(A:LI),(∀v∈A,∃s∈rn,s.args=[v])->∀v∈A,0<=v/\v<((m+d:Nat):Int):=fun A hA v hv=>by
  obtain ⟨s,hs,e⟩:=hA v hv
  obtain ⟨a,e2,e3⟩:=hr s hs
  rw [e] at e2
  cases e2
  exact e3
 have h2:=(h.cnts (op:=14) (.inl rfl) (key D hD)).cnts (op:=15) (.inr rfl) (key R hR)
 rw [<-XM]
 exact h2.le om
def WJ (xs:List Z5) (i:Nat) (s:Z5):List Z5:=xs.take i++[s]++xs.drop i
theorem HE {xs:List Z5} (i:Nat) (s:Z5):Yr (WJ xs i s)=Yr xs+s.sz:=by
 have h:=Yn Yr (Qj i xs)
 rw [Qf] at h
 rw [WJ,Qf,Qf,Yr,Yr];omega
theorem Sx {xs:List Z5} {i:Nat} {s:Z5} (h:i<=xs.length):(WJ xs i s).length=xs.length+1:=by
 simp [WJ,Qk h];omega
def Bg (b:Z7) (i j:Nat) (v:Int):Z7:=⟨WJ (WJ b.steps j (Zx 15 v)) i (Zx 14 v),b.result⟩
def withR (n:ZF) (f:Nat) (rt:Yz) (b:Z7):ZF:=⟨n.decls,n.routines.set f ⟨rt.params,rt.lent,rt.result,b⟩⟩
def Gd (n n2:ZF):Prop:=n2=n∨∃f rt i j v,n.routines[f]? = some rt/\i<=j/\j<=rt.body.steps.length/\0<=v/\v<((rt.params.length+Yp (rt.body.steps.take i):Nat):Int)/\n2=withR n f rt (Bg rt.body i j v)
theorem CL.put {ds:List Zc} {nf m:Nat} {xs:List Z5} {d z:Nat} (h:CL ds nf m xs d z) {i:Nat} {op v:Int} (ho:op=14∨op=15) (hv:0<=v/\v<((m+Yp (xs.take i):Nat):Int)):CL ds nf m (WJ xs i (Zx op v)) d (z+2):=by
 have hs:=h.fs
 have hp:=h.op
 have e:=Qj i xs
 rw [<-e] at hs hp
 rw [Ap] at hs
 rw [Hx] at hp
 have h1:CL ds nf m (xs.take i) (Yp (xs.take i)) (Yr (xs.take i)):=⟨hs.1,rfl,hp.1,X2 _⟩
 have h2:CL ds nf (m+Yp (xs.take i)) (xs.drop i) (Yp (xs.drop i)) (Yr (xs.drop i)):=⟨hs.2,rfl,hp.2,X2 _⟩
 have h3:=(h1.cnt ho hv).app h2
 have e1:=Yn Yr e
 have e2:=Yn Yp e
 rw [Qf] at e1
 rw [T6,h.dn] at e2
 have:=h.sz
 rw [e2] at h3
 exact h3.le om
theorem Sy {xs:List Z5} {i j:Nat} {s:Z5} (h:i<=j) (hj:j<=xs.length):(WJ xs j s).take i=xs.take i:=by
 rw [WJ,XM,List.take_append_of_le_length (by rw [Vc];omega),List.take_take,Qk h]
theorem Za7 {ds:List Zc} {nf m z:Nat} {b:Z7} (h:KB ds nf m b z) {i j:Nat} {v:Int} (hij:i<=j) (hj:j<=b.steps.length) (hv:0<=v/\v<((m+Yp (b.steps.take i):Nat):Int)):KB ds nf m (Bg b i j v) (z+4):=by
 obtain ⟨h1,h2⟩:=h.cl
 have hm:Yp (b.steps.take i)<=Yp (b.steps.take j):=by
  have e:=Yn Yp (Qj i (b.steps.take j))
  rw [T6,List.take_take,Qk hij] at e;omega
 have h3:=(h1.put (i:=j) (op:=15) (v:=v) (.inr rfl) om).put (i:=i) (op:=14) (v:=v) (.inl rfl) (by rw [Sy hij hj];exact hv)
 have:=h.sz
 have:=b.sz_eq
 exact (h3.block h2).le om
theorem FO.held {n n2:ZF} {q:Nat} (h:FO n q Vz) (hh:Gd n n2):FO n2 (q+4) Vz:=by
 rcases hh with rfl|⟨f,rt,i,j,v,h1,h2,h3,h4,h5,rfl⟩
 ·exact ⟨⟨h.fn.decls,h.fn.len,h.fn.sigs,h.fn.lent,fun r hr=>⟨(h.fn.body r hr).1,by have:=(h.fn.body r hr).2;omega⟩⟩,h.op⟩
 ·have hr:=h.rf (Y4 h1)
  have hk:KB n.decls n.routines.length rt.params.length (Bg rt.body i j v) (q+4):=Za7 ⟨hr.body.1,hr.op,hr.body.2⟩ h2 h3 ⟨h4,h5⟩
  refine FO.all h.fn.decls (by show 1<=(n.routines.set _ _).length/\(n.routines.set _ _).length<=4;rw [TM];exact h.fn.len) fun r hm=>?_
  show RF n.decls (n.routines.set _ _).length _ _ r
  rw [TM]
  rcases List.mem_or_eq_of_mem_set hm with hm|rfl
  ·have hq:=h.rf hm
   exact ⟨hq.sig,hq.lent,⟨hq.body.1,by have:=hq.body.2;omega⟩,hq.op⟩
  ·exact ⟨hr.sig,hr.lent,⟨hk.fb,hk.sz⟩,hk.op⟩
mutual
def Z5.rb:Z5->Prop
 | .mk _ _ _ _ kids=>Ac kids
def Ac:List Z7->Prop
 | []=>True
 | b::r=>Z7.rb b/\Ac r
def KO:List Z5->Prop
 | []=>True
 | s::r=>Z5.rb s/\KO r
def Z7.rb:Z7->Prop
 | .mk steps result=>KO steps/\-1000000000<=result/\result<=1000000000
end
theorem Z5.rb_eq (s:Z5):s.rb=Ac s.kids:=by cases s;rw [Z5.rb];rfl
theorem Z7.rb_eq (b:Z7):b.rb=(KO b.steps/\-1000000000<=b.result/\b.result<=1000000000):=by cases b;rw [Z7.rb];rfl
theorem Ed:∀{xs:List Z5},KO xs↔∀s∈xs,s.rb
 | []=>by simp [KO]
 | s::r=>by rw [KO,Ed];simp
section
variable {ds:List Zc} {nf:Nat}
mutual
theorem Zdq:∀(s:Z5) {m:Nat},fS ds nf m s->m+4*s.sz<=900000000->Xl ds->s.rb
 | .mk op num into args kids,m,h,hb,hd=>by
  rw [fS] at h
  obtain ⟨h1,h2,h3,h4,h5,h6,h7,h8,h9,h10,h11,h12⟩:=h
  rw [Z5.sz] at hb
  rw [Z5.rb]
  refine SD kids h12 (fun k=>?_) hd
  have hf:=V8 hd (gI (ZU ds num) k)
  show WK ds op num m k+4*YV kids<=900000003
  rw [WK];split<;>omega
theorem SD:∀(bs:List Z7) {sc:Nat->Nat} {k:Nat},VB ds nf sc k bs->(∀k,sc k+4*YV bs<=900000003)->Xl ds->Ac bs
 | [],_,_,_,_,_=>True.intro
 | b::r,sc,k,h,hb,hd=>by
  have hp:=b.sz_eq
  exact ⟨SB b h.1 (by have:=hb k;rw [YV] at this;omega) hd,SD r h.2 (fun j=>by have:=hb j;rw [YV] at this;omega) hd⟩
theorem SF:∀(xs:List Z5) {m:Nat},W3 ds nf m xs->m+4*Yr xs<=900000000->Xl ds->KO xs
 | [],_,_,_,_=>True.intro
 | s::r,m,h,hb,hd=>by
  rw [Yr] at hb
  have hp:=s.sz_pos
  refine ⟨Zdq s h.1 om hd,SF r h.2 ?_ hd⟩
  split<;>omega
theorem SB:∀(b:Z7) {m:Nat},fB ds nf m b->m+4*b.sz<=900000004->Xl ds->b.rb
 | .mk steps result,m,h,hb,hd=>by
  rw [Z7.sz] at hb
  rw [fB] at h
  rw [Z7.rb]
  have h1:=B6 steps
  have h2:steps.length<=Yr steps:=by
   clear h h1 hb
   induction steps with
   | nil=>simp
   | cons x r ih=>have:=x.sz_pos;rw [Yr,Ys];omega
  exact ⟨SF steps h.1 om hd,by omega,by omega⟩
end
theorem E4 {op v:Int}:(Zx op v).rb:=by rw [Z5.rb_eq];exact True.intro
theorem Zdr {b:Z7} {x q:Int} {fs:LI} (h:b.rb):(Kv b x fs q).rb:=by
 rw [Z7.rb_eq,Ed] at h
 rw [Z7.rb_eq,Ed]
 refine ⟨fun s hs=>?_,h.2⟩
 have hs:s∈QW b.steps x fs q:=hs
 rw [QW] at hs
 split at hs
 ·simp only [Xg,XA,Xs] at hs
  rcases hs with ((⟨a,_,rfl⟩|rfl)|⟨a,_,rfl⟩)|hs
  ·exact E4
  ·exact E4
  ·exact E4
  ·exact h.1 s (List.mem_of_mem_drop hs)
 ·exact h.1 s hs
mutual
theorem Zdu:∀(s:Z5) {m:Nat},s.rb->(KM ds m s).rb
 | .mk op num into args kids,m,h=>by
  rw [Z5.rb] at h
  rw [KM,Z5.rb]
  exact SJ kids h
theorem SJ:∀(bs:List Z7) {m:Nat} {op num:Int} {args:LI} {k:Nat},Ac bs->Ac (UJ ds m op num args bs k)
 | [],_,_,_,_,_,_=>by rw [UJ];exact True.intro
 | b::r,m,op,num,args,k,h=>by
  rw [UJ,Ac]
  refine ⟨?_,SJ r h.2⟩
  split
  ·exact Zdr (Mp b h.1)
  ·exact Mp b h.1
theorem SK:∀(xs:List Z5) {m:Nat},KO xs->KO (VY ds m xs)
 | [],_,_=>by rw [VY];exact True.intro
 | s::r,m,h=>by rw [VY,KO];exact ⟨Zdu s h.1,SK r h.2⟩
theorem Mp:∀(b:Z7) {m:Nat},b.rb->(WV ds m b).rb
 | .mk steps result,m,h=>by
  rw [Z7.rb] at h
  rw [WV,Z7.rb]
  exact ⟨SK steps h.1,h.2⟩
end
theorem Zds {b:Z7} {x:Int} {many:Nat} (h:b.rb):(VM b x many).rb:=by
 rw [Z7.rb_eq] at h
 rw [VM,Z7.rb_eq]
 refine ⟨?_,h.2⟩
 show KO (VF b.steps x many)
 rw [VF]
 split
 ·exact h.1
 ·rename_i hq
  obtain ⟨_,_,t,h5,h7,h6⟩:=Ag (fun z=>hq (.inr z))
  have h:=h.1
  rw [Ed] at h ⊢
  intro s hs
  rcases List.mem_or_eq_of_mem_set hs with hs|rfl
  ·rcases List.mem_or_eq_of_mem_set hs with hs|rfl
   ·exact h s hs
   ·exact E4
  ·have:=h t (Y4 h5)
   rw [h6,Qr,Z5.rb_eq]
   rw [Z5.rb_eq] at this
   exact this
mutual
theorem Zdt:∀(s:Z5) {K:LI},s.rb->(Tk ds K s).rb
 | .mk op num into args kids,K,h=>by
  rw [Z5.rb] at h
  rw [Tk,Z5.rb]
  exact SG kids h
theorem SG:∀(bs:List Z7) {K:LI} {op num:Int} {args:LI} {k:Nat},Ac bs->Ac (VX ds K op num args bs k)
 | [],_,_,_,_,_,_=>True.intro
 | b::r,K,op,num,args,k,h=>by
  rw [VX,Ac]
  refine ⟨?_,SG r h.2⟩
  split
  ·exact Zds (Mo b h.1)
  ·exact Mo b h.1
theorem SH:∀(xs:List Z5) {K:LI},KO xs->KO (U5 ds K xs)
 | [],_,_=>True.intro
 | s::r,K,h=>⟨Zdt s h.1,SH r h.2⟩
theorem Mo:∀(b:Z7) {K:LI},b.rb->(Ws ds K b).rb
 | .mk steps result,K,h=>by
  rw [Z7.rb] at h
  rw [Ws,Z7.rb]
  exact ⟨SH steps h.1,h.2⟩
end
end
structure Wl (ds:List Zc) (b:Z7):Prop where
 w:wB ds b
 nr:Kb b
 rng:b.rng
structure TR (ds:List Zc) (s:Z5):Prop where
 w:wS ds s
 nr:CZ s
 rng:s.rng
section
variable {ds:List Zc}
theorem Ee:∀{xs:List Z5},AN xs↔∀s∈xs,s.rng
 | []=>by simp [AN]
 | s::r=>by rw [AN,Ee];simp
theorem IF:∀{xs:List Z7},Ad xs↔∀s∈xs,s.rng
 | []=>by simp [Ad]
 | s::r=>by rw [Ad,IF];simp
theorem Wl.iff {b:Z7}:Wl ds b↔∀s∈b.steps,TR ds s:=by
 constructor
 ·intro h s hs
  have h3:=h.rng
  rw [Z7.rng_eq] at h3
  exact ⟨Bt.1 ((Jk b).1 h.w) s hs,Fb.1 ((Fa b).1 h.nr) s hs,Ee.1 h3 s hs⟩
 ·intro h
  exact ⟨(Jk b).2 (Bt.2 fun s hs=>(h s hs).w),(Fa b).2 (Fb.2 fun s hs=>(h s hs).nr),by rw [Z7.rng_eq];exact Ee.2 fun s hs=>(h s hs).rng⟩
theorem TR.kid {s:Z5} {b:Z7} (h:TR ds s) (hb:b∈s.kids):Wl ds b:=by
 have h3:=h.rng
 rw [Z5.rng_eq] at h3
 exact ⟨Ia.1 ((JY s).1 h.w).2.2.2 b hb,Hs.1 ((DX s).1 h.nr).2 b hb,IF.1 h3.2 b hb⟩
theorem TR.kids {s:Z5} {ks:List Z7} (h:TR ds s) (hl:ks.length=s.kids.length) (hk:∀b∈ks,Wl ds b):TR ds ⟨s.op,s.num,s.into,s.args,ks⟩:=by
 obtain ⟨h1,h2,h3,h4⟩:=(JY s).1 h.w
 have h5:=h.rng
 rw [Z5.rng_eq] at h5
 refine ⟨(JY _).2 ⟨h1,fun hc=>?_,fun h8=>⟨(h3 h8).1,hl.trans (h3 h8).2⟩,Ia.2 fun b hb=>(hk b hb).w⟩,(DX _).2 ⟨((DX s).1 h.nr).1,Hs.2 fun b hb=>(hk b hb).nr⟩,by rw [Z5.rng_eq];exact ⟨h5.1,IF.2 fun b hb=>(hk b hb).rng⟩⟩
 obtain ⟨q1,q2,q3,q4⟩:=h2 hc
 exact ⟨q1,q2,List.eq_nil_of_length_eq_zero (show ks.length=0 by rw [hl,q3];rfl),q4⟩
theorem TR.cnt {op v:Int} (h:op=14∨op=15∨op=16):TR ds (Zx op v):=⟨Zj8 h,(DX _).2 ⟨by show op≠17;omega,True.intro⟩,by rw [Z5.rng_eq];exact ⟨⟨by show (-9223372036854775808:Int)<=0;decide,by show (0:Int)<=_;decide⟩,True.intro⟩⟩
theorem Wl.open {b:Z7} {x q:Int} {fs:LI} (h:Wl ds b):Wl ds (Kv b x fs q):=by
 rw [Wl.iff] at h ⊢
 intro s hs
 have hs:s∈QW b.steps x fs q:=hs
 rw [QW] at hs
 split at hs
 ·simp only [Xg,XA,Xs] at hs
  rcases hs with ((⟨a,_,rfl⟩|rfl)|⟨a,_,rfl⟩)|hs
  ·exact TR.cnt om
  ·exact TR.cnt om
  ·exact TR.cnt om
  ·exact h s (List.mem_of_mem_drop hs)
 ·exact h s hs
theorem HU {m:Nat} {op num:Int} {args:LI}:∀{bs:List Z7} {k:Nat},(UJ ds m op num args bs k).length=bs.length
 | [],_=>rfl
 | b::r,k=>by rw [UJ,Ys,Ys,HU (bs:=r)]
mutual
theorem TR.sp:∀(s:Z5) {m:Nat},TR ds s->TR ds (KM ds m s)
 | .mk op num into args kids,m,h=>by
  rw [KM]
  exact h.kids HU (Wls.sp kids fun b hb=>h.kid hb)
theorem Wls.sp:∀(bs:List Z7) {m:Nat} {op num:Int} {args:LI} {k:Nat},(∀b∈bs,Wl ds b)->∀b∈UJ ds m op num args bs k,Wl ds b
 | [],_,_,_,_,_,_,b,hb=>by cases hb
 | c::r,m,op,num,args,k,h,b,hb=>by
  rw [UJ] at hb
  rcases X0.1 hb with rfl|hb
  ·split
   ·exact (Wl.sp c (h c (Xf ..))).open
   ·exact Wl.sp c (h c (Xf ..))
  ·exact Wls.sp r (fun x hx=>h x (Xr _ hx)) b hb
theorem WlSs.sp:∀(xs:List Z5) {m:Nat},(∀s∈xs,TR ds s)->∀s∈VY ds m xs,TR ds s
 | [],_,_,s,hs=>by cases hs
 | c::r,m,h,s,hs=>by
  rw [VY] at hs
  rcases X0.1 hs with rfl|hs
  ·exact TR.sp c (h c (Xf ..))
  ·exact WlSs.sp r (fun x hx=>h x (Xr _ hx)) s hs
theorem Wl.sp:∀(b:Z7) {m:Nat},Wl ds b->Wl ds (WV ds m b)
 | .mk steps result,m,h=>by
  rw [WV,Wl.iff]
  exact WlSs.sp steps (Wl.iff.1 h)
end
theorem Zf5 {b:Z7} {x:Int} {many:Nat} (h:b.rng):(VM b x many).rng:=by
 rw [Z7.rng_eq] at h
 rw [VM,Z7.rng_eq]
 show AN (VF b.steps x many)
 rw [VF]
 split
 ·exact h
 ·rename_i hq
  obtain ⟨_,_,t,h5,h7,h6⟩:=Ag (fun z=>hq (.inr z))
  rw [Ee] at h ⊢
  intro s hs
  rcases List.mem_or_eq_of_mem_set hs with hs|rfl
  ·rcases List.mem_or_eq_of_mem_set hs with hs|rfl
   ·exact h s hs
   ·rw [Z5.rng_eq];exact ⟨⟨by show (-9223372036854775808:Int)<=0;decide,by show (0:Int)<=_;decide⟩,True.intro⟩
  ·have:=h t (Y4 h5)
   rw [h6,Qr,Z5.rng_eq]
   rw [Z5.rng_eq] at this
   exact this
mutual
theorem Zf6:∀(s:Z5) {K:LI},s.rng->(Tk ds K s).rng
 | .mk op num into args kids,K,h=>by
  rw [Z5.rng] at h
  rw [Tk,Z5.rng]
  exact ⟨h.1,Z0g kids h.2⟩
theorem Z0g:∀(bs:List Z7) {K:LI} {op num:Int} {args:LI} {k:Nat},Ad bs->Ad (VX ds K op num args bs k)
 | [],_,_,_,_,_,_=>True.intro
 | b::r,K,op,num,args,k,h=>by
  rw [VX,Ad]
  refine ⟨?_,Z0g r h.2⟩
  split
  ·exact Zf5 (My b h.1)
  ·exact My b h.1
theorem Z0h:∀(xs:List Z5) {K:LI},AN xs->AN (U5 ds K xs)
 | [],_,_=>True.intro
 | s::r,K,h=>⟨Zf6 s h.1,Z0h r h.2⟩
theorem My:∀(b:Z7) {K:LI},b.rng->(Ws ds K b).rng
 | .mk steps result,K,h=>by
  rw [Z7.rng] at h
  rw [Ws,Z7.rng]
  exact Z0h steps h
end
end
mutual
theorem Zcv:∀s:Z5,Kd Vz s->CZ s
 | .mk op num into args kids,h=>by
  rw [Kd] at h
  rw [CZ]
  exact ⟨by have:op<=15:=h.1;omega,S4 kids h.2⟩
theorem S4:∀bs:List Z7,Kc Vz bs->C5 bs
 | [],_=>True.intro
 | b::r,h=>⟨S3 b h.1,S4 r h.2⟩
theorem S5:∀bs:List Z5,Q6 Vz bs->C6 bs
 | [],_=>True.intro
 | b::r,h=>⟨Zcv b h.1,S5 r h.2⟩
theorem S3:∀b:Z7,Vm Vz b->Kb b
 | .mk steps result,h=>by
  rw [Vm] at h
  rw [Kb]
  exact S5 steps h
end
structure ZR (q:Nat) (r:Yz):Prop where
 params:r.params.length<=3
 lent:r.lent.length<=10
 body:r.body.sz<=q
 rng:r.body.rng
 rb:r.body.rb
structure ZN (n:ZF) (q:Nat):Prop where
 decls:AD n.decls
 len:1<=n.routines.length/\n.routines.length<=4
 rt:∀r∈n.routines,ZR q r
theorem ZR.le {q q2:Nat} {r:Yz} (h:ZR q r) (hq:q<=q2):ZR q2 r:=⟨h.params,h.lent,V7 h.body hq,h.rng,h.rb⟩
theorem ZN.le {n:ZF} {q q2:Nat} (h:ZN n q) (hq:q<=q2):ZN n q2:=⟨h.decls,h.len,fun r hr=>(h.rt r hr).le hq⟩
theorem ZN.sz {n:ZF} {q:Nat} (h:ZN n q) (hq:q<=10000000):A4 n:=
 ⟨⟨by have:=h.decls.1;omega,fun d hd=>by have:=(h.decls.2 d hd).1;omega,fun d hd c hc=>by have:=(h.decls.2 d hd).2 c hc;omega⟩,by have:=h.len;omega,fun r hr=>by have:=(h.rt r hr).params;omega,fun r hr=>by have:=(h.rt r hr).lent;omega,fun r hr=>by have:=(h.rt r hr).body;omega⟩
theorem FO.wl {n:ZF} {q:Nat} (h:FO n q Vz) (hq:q<=100000000):∀r∈n.routines,Wl n.decls r.body:=fun r hr=>by
 have h1:=h.rf hr
 have h2:r.params.length<=3:=(To.bd (f:=⟨r.params,r.result,default⟩) h1.sig).1
 exact ⟨N4 r.body h1.body.1 (by have:=h1.body.2;omega) h.fn.decls.ok,S3 r.body h1.op,Mx r.body h1.body.1⟩
theorem FO.zn {n:ZF} {q:Nat} {p:Int->Prop} (h:FO n q p) (hq:q<=100000000:=by omega):ZN n q:=
 ⟨h.fn.decls.ad,h.fn.len,fun r hr=>⟨(To.bd (f:=⟨r.params,r.result,default⟩) (h.fn.sigs r hr)).1,by have:=(h.fn.lent r hr).1;omega,(h.fn.body r hr).2,Mx r.body (h.fn.body r hr).1,SB r.body (h.fn.body r hr).1 (by have h2:r.params.length<=3:=(To.bd (f:=⟨r.params,r.result,default⟩) (h.fn.sigs r hr)).1;have:=(h.fn.body r hr).2;omega) h.fn.decls.ok⟩⟩
structure WN (n:ZF) (q:Nat):Prop where
 ok:Xv n
 zn:ZN n q
 wl:∀r∈n.routines,Wl n.decls r.body
theorem FO.wn {n:ZF} {q:Nat} (h:FO n q Vz) (hq:q<=100000000):WN n q:=⟨h.fn.ok,h.zn hq,h.wl hq⟩
theorem WN.sp {n:ZF} {q:Nat} (h:WN n q):WN (Da n) (9*q):=by
 refine ⟨⟨h.ok.decls,by show (n.routines.map _).length<=4;rw [QT];exact h.ok.len,fun r hr=>?_,fun r hr=>?_⟩,⟨h.zn.decls,by show 1<=(n.routines.map _).length/\(n.routines.map _).length<=4;rw [QT];exact h.zn.len,fun r hr=>?_⟩,fun r hr=>?_⟩
 ·obtain ⟨s,hs,rfl⟩:=XA.1 hr;exact h.ok.params s hs
 ·obtain ⟨s,hs,rfl⟩:=XA.1 hr;exact h.ok.lent s hs
 ·obtain ⟨s,hs,rfl⟩:=XA.1 hr
  have hz:=h.zn.rt s hs
  refine ⟨hz.params,hz.lent,?_,(Wl.sp s.body (h.wl s hs)).rng,Mp s.body hz.rb⟩
  have h1:=HS h.ok.decls s.body (m:=s.params.length) (h.wl s hs).w
  have h2:=s.body.pz_le
  have h3:=hz.body
  show (WV n.decls s.params.length s.body).sz<=9*q
  omega
 ·obtain ⟨s,hs,rfl⟩:=XA.1 hr;exact Wl.sp s.body (h.wl s hs)
theorem WN.ru {n:ZF} {q:Nat} (h:WN n q):ZN (D9 n) q:=by
 refine ⟨h.zn.decls,by show 1<=(n.routines.map _).length/\(n.routines.map _).length<=4;rw [QT];exact h.zn.len,fun r hr=>?_⟩
 obtain ⟨s,hs,rfl⟩:=XA.1 hr
 have hz:=h.zn.rt s hs
 refine ⟨hz.params,hz.lent,?_,My s.body (h.wl s hs).rng,Mo s.body hz.rb⟩
 have h1:=MC s.body (K:=[]) (h.wl s hs).w
 have h3:=hz.body
 show (Ws n.decls [] s.body).sz<=q
 omega
theorem HD {xs:List Z5} {i:Nat} {s t:Z5} (h:t∈WJ xs i s):t∈xs∨t=s:=by
 rw [WJ] at h
 simp only [Xg,Xs] at h
 rcases h with (h|h)|h
 ·exact .inl (QA h)
 ·exact .inr h
 ·exact .inl (List.mem_of_mem_drop h)
theorem Z0f {op v:Int}:(Zx op v).rng:=by rw [Z5.rng_eq];exact ⟨⟨by show (-9223372036854775808:Int)<=0;decide,by show (0:Int)<=_;decide⟩,True.intro⟩
theorem ZN.withR {n:ZF} {q q2:Nat} {f:Nat} {rt:Yz} {b:Z7} (h:ZN n q) (hr:n.routines[f]? = some rt) (hq:q<=q2) (hb:b.sz<=q2) (hg:b.rng) (hbr:b.rb):ZN (withR n f rt b) q2:=by
 refine ⟨h.decls,by show 1<=(n.routines.set _ _).length/\(n.routines.set _ _).length<=4;rw [TM];exact h.len,fun r hm=>?_⟩
 rcases List.mem_or_eq_of_mem_set hm with hm|rfl
 ·exact (h.rt r hm).le hq
 ·have:=h.rt rt (Y4 hr)
  exact ⟨this.params,this.lent,hb,hg,hbr⟩
theorem ZN.held {n n2:ZF} {q:Nat} (h:ZN n q) (hh:Gd n n2):ZN n2 (q+4):=by
 rcases hh with rfl|⟨f,rt,i,j,v,h1,h2,h3,h4,h5,rfl⟩
 ·exact h.le om
 ·have hz:=h.rt rt (Y4 h1)
  refine h.withR h1 om ?_ ?_ (by have hb:=hz.rb;rw [Z7.rb_eq,Ed] at hb;rw [Bg,Z7.rb_eq,Ed];refine ⟨fun s hs=>?_,hb.2⟩;rcases HD hs with hs|rfl<;>first|exact E4|(rcases HD hs with hs|rfl<;>first|exact E4|exact hb.1 s hs))
  ·rw [Bg,Z7.sz,HE,HE]
   have e1:(Zx 14 v).sz=2:=rfl
   have e2:(Zx 15 v).sz=2:=rfl
   have:=hz.body
   have:=rt.body.sz_eq
   omega
  ·have hg:=hz.rng
   rw [Z7.rng_eq,Ee] at hg
   rw [Bg,Z7.rng_eq,Ee]
   intro s hs
   rcases HD hs with hs|rfl
   ·rcases HD hs with hs|rfl
    ·exact hg s hs
    ·exact Z0f
   ·exact Z0f
theorem FO.le {n:ZF} {q q2:Nat} {p:Int->Prop} (h:FO n q p) (hq:q<=q2):FO n q2 p:=⟨⟨h.fn.decls,h.fn.len,h.fn.sigs,h.fn.lent,fun r hr=>⟨(h.fn.body r hr).1,V7 (h.fn.body r hr).2 hq⟩⟩,h.op⟩
section
variable {ds:List Zc} {nf:Nat}
theorem Z6v {m:Nat} {s:Z5} (h:fS ds nf m s) (hc:YM s.op=true):s.num=0/\s.into=0/\s.kids=[]/\∃a,s.args=[a]/\0<=a/\a<m:=by
 have h1:=(Bb s).1 h
 have ho:14<=s.op/\s.op<=17:=of_decide_eq_true hc
 obtain ⟨a1,a2,a3,a,a4⟩:=h1.cnt ho.1
 exact ⟨a1,a2,a3,a,a4,h1.args a (by rw [a4];exact Xs.2 rfl)⟩
theorem Z0w:∀{xs:List Z5} {m:Nat},W3 ds nf m xs->(∀s∈xs.take (XJ xs),0<=gI s.args 0/\gI s.args 0<m)/\W3 ds nf m (xs.drop (XJ xs))/\Yp (xs.drop (XJ xs))=Yp xs
 | [],m,h=>⟨fun s hs=>by simp [XJ] at hs,h,rfl⟩
 | s::r,m,h=>by
  rw [XJ]
  by_cases hq:s.op=14∨s.op=15
  ·have hc:YM s.op=true:=by simp [YM];omega
   rw [Zf hq]
   rw [W3,Zf hc] at h
   obtain ⟨h1,h2,h3⟩:=Z0w h.2
   obtain ⟨_,_,_,a,ha,hb⟩:=Z6v h.1 hc
   refine ⟨fun t ht=>?_,by rw [List.drop_succ_cons];exact h2,by rw [List.drop_succ_cons,Yp,Zf hc,Wj];exact h3⟩
   rw [AR] at ht
   rcases X0.1 ht with rfl|ht
   ·rw [ha];exact hb
   ·exact h1 t ht
  ·rw [Za hq]
   exact ⟨fun t ht=>by simp at ht,h,rfl⟩
theorem Gh {op:Int} {P:Int->Prop}:∀{xs:List Z5},(∀s∈xs,P (gI s.args 0))->∀a∈Wm op xs,P a
 | [],_,a,h=>by simp [Wm] at h
 | s::r,hp,a,h=>by
  rw [Wm] at h
  split at h
  ·rcases X0.1 h with rfl|h
   ·exact hp s (Xf ..)
   ·exact Gh (fun t ht=>hp t (Xr _ ht)) a h
  ·exact Gh (fun t ht=>hp t (Xr _ ht)) a h
theorem HA {P:Int->Prop}:∀{fs:LI} {q:Int} {D R:LI},(∀a∈D,P a)->(∀a∈R,P a)->(∀a,q<=a->a<q+fs.length->P a)->(∀a∈(Un fs q D R).1,P a)/\∀a∈(Un fs q D R).2,P a
 | [],q,D,R,hD,hR,_=>⟨hD,hR⟩
 | f::r,q,D,R,hD,hR,hq=>by
  have hq':∀a,q+1<=a->a<q+1+r.length->P a:=fun a h1 h2=>hq a om (by simp only [Ys];omega)
  rw [Un]
  split
  ·exact HA (fun a ha=>hD a (List.mem_of_mem_erase ha)) hR hq'
  ·split
   ·refine HA hD (fun a ha=>?_) hq'
    rcases Xg.1 ha with ha|ha
    ·exact hR a ha
    ·rw [Xs.1 ha];exact hq q om (by simp only [Ys];omega)
   ·exact HA hD hR hq'
theorem Z6y {m q:Nat} {xs:List Z5} {x:Int} {fs:LI} (h:W3 ds nf m xs) (hx:0<=x/\x<m) (hq:q+fs.length<=m):W3 ds nf m (QW xs x fs q)/\Yp (QW xs x fs q)=Yp xs:=by
 rw [QW]
 split
 ·obtain ⟨h1,h2,h3⟩:=Z0w h
  have hp:(∀a∈(Jb xs x fs q).1,0<=a/\a<(m:Int))/\∀a∈(Jb xs x fs q).2,0<=a/\a<(m:Int):=by
   rw [Jb]
   refine HA (P:=fun a=>0<=a/\a<(m:Int)) (Gh (P:=fun a=>0<=a/\a<(m:Int)) h1) (fun a ha=>Gh (P:=fun a=>0<=a/\a<(m:Int)) h1 a (List.mem_of_mem_erase ha)) (fun a ha hb=>by omega)
  obtain ⟨a1,a2⟩:=GN (ds:=ds) (nf:=nf) (op:=14) om hp.1
  obtain ⟨b1,b2⟩:=GN (ds:=ds) (nf:=nf) (op:=16) (m:=m) (vs:=[x]) om (fun v hv=>by rw [Xs.1 hv];exact hx)
  obtain ⟨c1,c2⟩:=GN (ds:=ds) (nf:=nf) (op:=15) om hp.2
  have b1:W3 ds nf m [Zx 16 x]:=b1
  have b2:Yp [Zx 16 x]=0:=b2
  refine ⟨?_,by rw [T6,T6,T6,a2,b2,c2,h3];omega⟩
  simp only [Ap,T6,a2,b2,c2,Cp]
  exact ⟨⟨⟨a1,b1⟩,c1⟩,h2⟩
 ·exact ⟨h,rfl⟩
theorem Z6r {m q:Nat} {b:Z7} {x:Int} {fs:LI} (h:fB ds nf m b) (hx:0<=x/\x<m) (hq:q+fs.length<=m):fB ds nf m (Kv b x fs q):=by
 rw [J3] at h
 obtain ⟨h1,h2⟩:=Z6y h.1 hx hq
 rw [Kv,J3]
 refine ⟨h1,h.2.1,?_⟩
 show b.result<((m+Yp (QW b.steps x fs q):Nat):Int)
 rw [h2];exact h.2.2
theorem Z1c {m:Nat}:∀{xs:List Z5} {m:Nat},Yp (VY ds m xs)=Yp xs
 | [],_=>rfl
 | s::r,m=>by
  rw [VY,Yp,Yp,Z1c (m:=0) (xs:=r)]
  rw [show (KM ds m s).op=s.op from by rw [FL];rfl]
theorem Z76 {num:Int} {k:Nat} (h:k<(ZU ds num).length):(Wo ds num k).length=(ZO ds (gI (ZU ds num) k)).length:=by
 obtain ⟨x,hx⟩:=BZ (xs:=ZU ds num) (j:=k) h
 rw [Wo,Jo,hx,Te (i:=(k:Int)) (by simpa using hx)];rfl
mutual
theorem Z6x:∀(s:Z5) {m:Nat},fS ds nf m s->fS ds nf m (KM ds m s)
 | .mk op num into args kids,m,h=>by
  rw [fS] at h
  obtain ⟨h1,h2,h3,h4,h5,h6,h7,h8,h9,h10,h11,h12⟩:=h
  rw [KM,fS]
  refine ⟨h1,h2,fun ho=>?_,fun ho=>by rw [HU];exact h4 ho,fun ho=>by rw [HU];exact h5 ho,h6,h7,h8,h9,h10,fun ho=>?_,?_⟩
  ·obtain ⟨a1,a2,a3,a4⟩:=h3 ho
   exact ⟨a1,a2,by rw [a3];rfl,a4⟩
  ·rw [h11 ho];rfl
  ·refine OU kids h12 (fun ho=>?_) (fun ho=>?_)
   ·obtain ⟨a,ha⟩:=h6 (.inr ho)
    rw [ha];exact h2 a (by rw [ha];exact Xs.2 rfl)
   ·rw [h5 ho];omega
theorem OU:∀(bs:List Z7) {m:Nat} {op num:Int} {args:LI} {k:Nat},VB ds nf (WK ds op num m) k bs->(op=8->0<=gI args 0/\gI args 0<m)->(op=8->k+bs.length<=(ZU ds num).length)->VB ds nf (WK ds op num m) k (UJ ds m op num args bs k)
 | [],_,_,_,_,_,_,_,_=>True.intro
 | b::r,m,op,num,args,k,h,hx,hl=>by
  rw [UJ]
  refine ⟨?_,OU r h.2 hx fun ho=>by have:=hl ho;rw [Ys] at this;omega⟩
  by_cases ho:op=8
  ·have hk:=Z76 (ds:=ds) (num:=num) (k:=k) (by have:=hl ho;rw [Ys] at this;omega)
   have hsc:WK ds op num m k=m+(Wo ds num k).length:=by rw [WK,Zf ho,hk]
   rw [Zf ho]
   have h1:=h.1
   rw [hsc] at h1 ⊢
   have Z3:=hx ho
   exact Z6r (Lo b h1) om (X2 _)
  ·have hsc:WK ds op num m k=m:=by rw [WK,Za ho]
   rw [Za ho]
   have h1:=h.1
   rw [hsc] at h1 ⊢
   exact Lo b h1
theorem OY:∀(xs:List Z5) {m:Nat},W3 ds nf m xs->W3 ds nf m (VY ds m xs)
 | [],_,_=>True.intro
 | s::r,m,h=>by
  rw [VY,W3,show (KM ds m s).op=s.op from by rw [FL];rfl]
  exact ⟨Z6x s h.1,OY r h.2⟩
theorem Lo:∀(b:Z7) {m:Nat},fB ds nf m b->fB ds nf m (WV ds m b)
 | .mk steps result,m,h=>by
  rw [fB] at h
  rw [WV,fB,Z1c (m:=0)]
  exact ⟨OY steps h.1,h.2⟩
end
theorem L0:∀{xs:List Z5} {i:Nat} {s t:Z5},xs[i]? = some s->YM t.op=YM s.op->Yp (xs.set i t)=Yp xs
 | [],i,s,t,h,_=>by simp at h
 | x::r,0,s,t,h,hc=>by simp at h;subst h;rw [List.set_cons_zero,Yp,Yp,hc]
 | x::r,i+1,s,t,h,hc=>by rw [List.set_cons_succ,Yp,Yp,L0 (xs:=r) (by simpa using h) hc]
theorem Lq:∀{xs:List Z5} {i m:Nat} {s t:Z5},W3 ds nf m xs->xs[i]? = some s->YM t.op=YM s.op->fS ds nf (m+Yp (xs.take i)) t->W3 ds nf m (xs.set i t)
 | [],i,m,s,t,_,h,_,_=>by simp at h
 | x::r,0,m,s,t,h,hs,hc,ht=>by
  simp at hs;subst hs
  rw [List.set_cons_zero,W3,hc]
  exact ⟨by simpa [Yp] using ht,h.2⟩
 | x::r,i+1,m,s,t,h,hs,hc,ht=>by
  rw [List.set_cons_succ,W3]
  refine ⟨h.1,Lq h.2 (by simpa using hs) hc ?_⟩
  rw [AR,Yp] at ht
  by_cases hx:YM x.op=true
  ·rw [Zf hx] at ht ⊢;rw [Wj] at ht;exact ht
  ·rw [Za hx] at ht ⊢;rw [<-AS] at ht;exact ht
theorem Z6z {m:Nat} {xs:List Z5} {x:Int} {many:Nat} (h:W3 ds nf m xs) (hx:0<=x/\x<m):W3 ds nf m (VF xs x many)/\Yp (VF xs x many)=Yp xs:=by
 rw [VF]
 split
 ·exact ⟨h,rfl⟩
 ·rename_i hq
  obtain ⟨_,_,t,h5,h7,h6⟩:=Ag (fun z=>hq (.inr z))
  obtain ⟨_,_,s,h8,h9,h10⟩:=E0 (fun z=>hq (.inl z))
  have Z9:YM (Zx 17 x).op=YM s.op:=by rw [h9];rfl
  have k1:=Lq (t:=Zx 17 x) h h8 Z9 (Lp om om)
  have k2:=L0 (t:=Zx 17 x) h8 Z9
  have k3:=FC hq (t:=Zx 17 x) h5
  have k4:=(Bb t).1 (DI k1 k3)
  have Zh:YM (Qr (1+x) t).op=YM t.op:=rfl
  rw [h6]
  have ho:t.op=6:=h7.1.1
  refine ⟨Lq k1 k3 Zh ((Bb _).2 ⟨k4.op,k4.args,fun z=>?_,k4.k7,k4.k8,k4.one,k4.call,k4.num,?_,k4.alen,k4.kn,k4.kids⟩),by rw [L0 k3 Zh,k2]⟩
  ·have z:14<=t.op:=z;omega
  ·show 0<=1+x/\1+x<=((m+_:Nat):Int);omega
theorem Z6t {m:Nat} {b:Z7} {x:Int} {many:Nat} (h:fB ds nf m b) (hx:0<=x/\x<m):fB ds nf m (VM b x many):=by
 rw [J3] at h
 obtain ⟨h1,h2⟩:=Z6z (many:=many) h.1 hx
 rw [VM,J3]
 refine ⟨h1,h.2.1,?_⟩
 show b.result<((m+Yp (VF b.steps x many):Nat):Int)
 rw [h2];exact h.2.2
theorem Lr {K:LI} {op num:Int} {args:LI}:∀{bs:List Z7} {k:Nat},(VX ds K op num args bs k).length=bs.length
 | [],_=>rfl
 | b::r,k=>by rw [VX,Ys,Ys,Lr (bs:=r)]
theorem Z0q {K:LI}:∀{xs:List Z5},Yp (U5 ds K xs)=Yp xs
 | []=>rfl
 | s::r=>by rw [U5,Yp,Yp,Z0q (xs:=r),show (Tk ds K s).op=s.op from by rw [AK];rfl]
mutual
theorem Z6w:∀(s:Z5) {m:Nat} {K:LI},fS ds nf m s->fS ds nf m (Tk ds K s)
 | .mk op num into args kids,m,K,h=>by
  rw [fS] at h
  obtain ⟨h1,h2,h3,h4,h5,h6,h7,h8,h9,h10,h11,h12⟩:=h
  rw [Tk,fS]
  refine ⟨h1,h2,fun ho=>?_,fun ho=>by rw [Lr];exact h4 ho,fun ho=>by rw [Lr];exact h5 ho,h6,h7,h8,h9,h10,fun ho=>?_,?_⟩
  ·obtain ⟨a1,a2,a3,a4⟩:=h3 ho
   exact ⟨a1,a2,by rw [a3];rfl,a4⟩
  ·rw [h11 ho];rfl
  ·refine OS kids h12 (fun ho=>?_)
   obtain ⟨a,ha⟩:=h6 (.inr ho)
   rw [ha];exact h2 a (by rw [ha];exact Xs.2 rfl)
theorem OS:∀(bs:List Z7) {m:Nat} {K:LI} {op num:Int} {args:LI} {k:Nat},VB ds nf (WK ds op num m) k bs->(op=8->0<=gI args 0/\gI args 0<m)->VB ds nf (WK ds op num m) k (VX ds K op num args bs k)
 | [],_,_,_,_,_,_,_,_=>True.intro
 | b::r,m,K,op,num,args,k,h,hx=>by
  rw [VX]
  refine ⟨?_,OS r h.2 hx⟩
  split
  ·rename_i ho
   have Z3:=hx ho.1
   refine Z6t (Ln b h.1) ?_
   rw [WK];split<;>omega
  ·exact Ln b h.1
theorem OX:∀(xs:List Z5) {m:Nat} {K:LI},W3 ds nf m xs->W3 ds nf m (U5 ds K xs)
 | [],_,_,_=>True.intro
 | s::r,m,K,h=>by
  rw [U5,W3,show (Tk ds K s).op=s.op from by rw [AK];rfl]
  exact ⟨Z6w s h.1,OX r h.2⟩
theorem Ln:∀(b:Z7) {m:Nat} {K:LI},fB ds nf m b->fB ds nf m (Ws ds K b)
 | .mk steps result,m,K,h=>by
  rw [fB] at h
  rw [Ws,fB,Z0q]
  exact ⟨OX steps h.1,h.2⟩
end
theorem OW {m:Nat} {xs:List Z5} {i:Nat} {op v:Int} (h:W3 ds nf m xs) (ho:14<=op/\op<=17) (hv:0<=v/\v<((m+Yp (xs.take i):Nat):Int)):W3 ds nf m (WJ xs i (Zx op v))/\Yp (WJ xs i (Zx op v))=Yp xs:=by
 have e:=Qj i xs
 have h0:W3 ds nf m (xs.take i++xs.drop i):=by rw [e];exact h
 rw [Ap] at h0
 have hc:YM (Zx op v).op=true:=decide_eq_true ho
 have hd:Yp [Zx op v]=0:=by rw [Yp,Zf hc];rfl
 have e2:=Yn Yp e
 rw [T6] at e2
 rw [WJ]
 refine ⟨?_,by rw [T6,T6,hd];omega⟩
 rw [Ap,Ap,T6,hd]
 exact ⟨⟨h0.1,Lp ho hv,True.intro⟩,h0.2⟩
theorem Z6s {m:Nat} {b:Z7} {i j:Nat} {v:Int} (h:fB ds nf m b) (hij:i<=j) (hj:j<=b.steps.length) (hv:0<=v/\v<((m+Yp (b.steps.take i):Nat):Int)):fB ds nf m (Bg b i j v):=by
 rw [J3] at h
 have hm:Yp (b.steps.take i)<=Yp (b.steps.take j):=by
  have e:=Yn Yp (Qj i (b.steps.take j))
  rw [T6,List.take_take,Qk hij] at e;omega
 obtain ⟨h1,h2⟩:=OW (op:=15) (i:=j) (v:=v) h.1 om om
 obtain ⟨h3,h4⟩:=OW (op:=14) (i:=i) (v:=v) h1 om (by rw [Sy hij hj];exact hv)
 rw [Bg,J3]
 refine ⟨h3,h.2.1,?_⟩
 show b.result<((m+Yp (WJ (WJ b.steps j (Zx 15 v)) i (Zx 14 v)):Nat):Int)
 rw [h4,h2];exact h.2.2
end
theorem FN.sp {n:ZF} {q q2:Nat} (h:FN n q) (hz:ZN (Da n) q2):FN (Da n) q2:=by
 refine ⟨h.decls,hz.len,fun r hr=>?_,fun r hr=>?_,fun r hr=>⟨?_,(hz.rt r hr).body⟩⟩
 ·obtain ⟨s,hs,rfl⟩:=XA.1 hr;exact h.sigs s hs
 ·obtain ⟨s,hs,rfl⟩:=XA.1 hr;exact h.lent s hs
 ·obtain ⟨s,hs,rfl⟩:=XA.1 hr
  have e:(Da n).routines.length=n.routines.length:=QT ..
  rw [e]
  exact Lo _ (h.body s hs).1
theorem FN.ru {n:ZF} {q q2:Nat} (h:FN n q) (hz:ZN (D9 n) q2):FN (D9 n) q2:=by
 refine ⟨h.decls,hz.len,fun r hr=>?_,fun r hr=>?_,fun r hr=>⟨?_,(hz.rt r hr).body⟩⟩
 ·obtain ⟨s,hs,rfl⟩:=XA.1 hr;exact h.sigs s hs
 ·obtain ⟨s,hs,rfl⟩:=XA.1 hr;exact h.lent s hs
 ·obtain ⟨s,hs,rfl⟩:=XA.1 hr
  have e:(D9 n).routines.length=n.routines.length:=QT ..
  rw [e]
  exact Ln _ (h.body s hs).1
theorem FN.le {n:ZF} {q q2:Nat} (h:FN n q) (hq:q<=q2):FN n q2:=⟨h.decls,h.len,h.sigs,h.lent,fun r hr=>⟨(h.body r hr).1,V7 (h.body r hr).2 hq⟩⟩
theorem FN.held {n n2:ZF} {q q2:Nat} (h:FN n q) (hh:Gd n n2) (hz:ZN n2 q2):FN n2 q2:=by
 rcases hh with rfl|⟨f,rt,i,j,v,h1,h2,h3,h4,h5,rfl⟩
 ·exact ⟨h.decls,h.len,h.sigs,h.lent,fun r hr=>⟨(h.body r hr).1,(hz.rt r hr).body⟩⟩
 ·have hm:=Y4 h1
  have hl:(withR n f rt (Bg rt.body i j v)).routines.length=n.routines.length:=TM ..
  refine ⟨h.decls,hz.len,fun r hr=>?_,fun r hr=>?_,fun r hr=>⟨?_,(hz.rt r hr).body⟩⟩
  ·rcases List.mem_or_eq_of_mem_set hr with hr|rfl
   ·exact h.sigs r hr
   ·exact h.sigs rt hm
  ·rcases List.mem_or_eq_of_mem_set hr with hr|rfl
   ·exact h.lent r hr
   ·exact h.lent rt hm
  ·rw [hl]
   rcases List.mem_or_eq_of_mem_set hr with hr|rfl
   ·exact (h.body r hr).1
   ·exact Z6s (h.body rt hm).1 h2 h3 ⟨h4,h5⟩
abbrev Mem:=Nat->Nat->Option Value
abbrev Cq:=Nat × Nat
def upd (m:Mem) (a:Cq) (z:Int):Mem:=fun g o=>if g=a.1/\o=a.2 then some (.int .i64 z) else m g o
def wr (m:Mem):List Cq->Int->Mem
 | [],_=>m
 | a::r,k=>wr (upd m a k) r (k+1)
def CM (m:Mem):List Cq->Int->Prop
 | [],_=>True
 | a::r,k=>m a.1 a.2=some (.int .i64 k)/\CM m r (k+1)
def Rm (m:Mem) (a:Cq):Prop:=∃z,m a.1 a.2=some (.int .i64 z)
structure Kp (m m':Mem):Prop where
 i:∀{a:Cq},Rm m a->Rm m' a
 h:∀{g o:Nat} {v:Value},m g o=some v->(∀z,v≠.int .i64 z)->m' g o=some v
section
variable {P:Program} {n:Nat} {ops:Array Oper} {B:Fr->List Res->Prop} {k:Nat} {F:Fr} {h h2:List Res}
end
section
variable {m m':Mem} {B:List Nat}
end
section
variable {m:Mem} {B:List Nat} {g:Nat}
end
section
variable {m:Mem} {B:List Nat}
end
def Zn (g lo hi:Nat) (X:List Nat) (a:Cq):Prop:=(a.1=g/\lo<=a.2/\a.2<hi)∨a.1∈X
structure Nd (g lo hi:Nat) (X:List Nat) (as1:List Cq):Prop where
 nd:(X.Nodup/\g∉X)->as1.Nodup
 zn:∀a∈as1,Zn g lo hi X a
section
variable {m:Mem} {B:List Nat}
end
section
variable {n:ZF} {ln:LI} {L:ZK}
end
structure CR (L:ZK) (cons first:LI):Prop where
 cl:cons.length=L.vars.length
 fl:first.length=L.vars.length
 eq:∀v:Int,0<=v->v<L.vars.length->0<=gI L.con v->gI cons v=gI L.con v/\gI first v=gI L.fst v

section
variable {N:Mem} {g o:Nat} {z:Int}
end


structure Instr where
 op:Int
 dst:Int
 num:Int
 into:Int
 args:LI
 jumps:LI
structure YB where
 params:LI
 lent:LI
 result:Int
 regs:Int
 code:List Instr
structure Yx where
 decls:List Zc
 procs:List YB
abbrev Uu (x:Instr):List AV:=[.i x.op,.i x.dst,.i x.num,.i x.into,Z4 x.args,Z4 x.jumps]
abbrev Ku (x:Instr):AV:=.agg (Uu x)
def YH (xs:List Instr):List AV:=xs.map Ku
abbrev Ka (xs:List Instr):AV:=.sl (YH xs) none
abbrev D4 (xs:List Instr) (v:Value):AV:=.sl (YH xs) (some v)
abbrev UT (x:YB):List AV:=[Z4 x.params,Z4 x.lent,.i x.result,.i x.regs,Ka x.code]
abbrev Cu (x:YB):AV:=.agg (UT x)
def We (xs:List YB):List AV:=xs.map Cu
abbrev F8 (xs:List YB):AV:=.sl (We xs) none
abbrev Q5 (xs:List YB) (v:Value):AV:=.sl (We xs) (some v)
abbrev VV (x:Yx):List AV:=[Yu x.decls,F8 x.procs]
abbrev Ui (x:Yx):AV:=.agg (VV x)
structure Z30 where
 op:Int
 dst:Int
 num:Int
 into:Int
 args:LI
 av:Value
 jumps:LI
 jv:Value
structure Z32 where
 params:LI
 pv:Value
 lent:LI
 lv:Value
 result:Int
 regs:Int
 code:List Z30
 cv:Value
structure Zji where
 decls:List Nh
 dv:Value
 procs:List Z32
 pv:Value
theorem K1 {xs:List Instr} {j:Nat} {x:Instr} (h:xs[j]? = some x):(YH xs)[j]? = some (Ku x):=by simp [YH,h]
@[simp] theorem Ts (xs:List Instr):(YH xs).length=xs.length:=by simp [YH]
theorem CE (xs ys:List Instr):YH (xs++ys)=YH xs++YH ys:=by simp [YH]
theorem Jz (xs:List Instr):∀y∈YH xs,y.leaves.length=6:=by intro y hy;simp only [YH,XA] at hy;obtain ⟨x,_,rfl⟩:=hy;rfl
theorem ED (xs:List Instr):(Zu (YH xs)).all AV.one=true:=J4 fun y hy=>by simp only [YH,XA] at hy;obtain ⟨x,_,rfl⟩:=hy;rfl
theorem Ar (xs:List Instr):(Zu (YH xs)).length=xs.length*6:=by rw [TZ _ (Jz _)];simp
theorem Z84 (xs:List Instr) (x:Instr):Zu (YH xs)++Zu (YH [x])=Zu (YH (xs++[x])):=by rw [CE,As]
theorem Pg {xs:List Instr} {i:Nat} {s:Instr} (h:xs[i]? = some s):Zu (YH xs)=Zu (YH (xs.take i))++(Uu s++Zu (YH (xs.drop (i+1)))):=by
 have hk:=(Xu.1 h).1
 have hd:xs.drop i=s::xs.drop (i+1):=by
  rw [Na hk]
  congr 1
  rw [Dh hk] at h
  exact Dj h
 have e:xs=xs.take i++(s::xs.drop (i+1)):=by rw [<-hd,Qj]
 conv=>lhs;rw [e,CE,As]
 rfl
theorem Z83 {xs:List Instr} {i:Nat} {s:Instr} (h:xs[i]? = some s):((Zu (YH xs)).drop (i*6)).take (Uu s).length=Uu s:=by
 have hi:=(Xu.1 h).1
 have hl:(Zu (YH (xs.take i))).length=i*6:=by rw [Ar,Vc,Qk om]
 rw [Pg h]
 exact Z0j hl
theorem Pf {xs:List Instr} {i:Nat} {s t:Instr} (h:xs[i]? = some s):(Zu (YH xs)).take (i*6)++Uu t++(Zu (YH xs)).drop (i*6+(Uu t).length)=Zu (YH (xs.set i t)):=by
 have hi:=(Xu.1 h).1
 have hl:(Zu (YH (xs.take i))).length=i*6:=by rw [Ar,Vc,Qk om]
 rw [Pg h,MA (xs:=Uu s) (ys:=Uu t) hl rfl]
 have e:xs.set i t=xs.take i++(t::xs.drop (i+1)):=by rw [If,Zf hi]
 rw [e,CE,As]
 rfl
theorem J2 {xs:List YB} {j:Nat} {x:YB} (h:xs[j]? = some x):(We xs)[j]? = some (Cu x):=by simp [We,h]
@[simp] theorem QC (xs:List YB):(We xs).length=xs.length:=by simp [We]
theorem Le (xs ys:List YB):We (xs++ys)=We xs++We ys:=by simp [We]
theorem BQ (xs:List YB):∀y∈We xs,y.leaves.length=5:=by intro y hy;simp only [We,XA] at hy;obtain ⟨x,_,rfl⟩:=hy;rfl
theorem GC (xs:List YB):(Zu (We xs)).all AV.one=true:=J4 fun y hy=>by simp only [We,XA] at hy;obtain ⟨x,_,rfl⟩:=hy;rfl
def XF (op dst num into:Int) (args:LI):Instr:=⟨op,dst,num,into,args,[]⟩
def Instr.goto (x:Instr) (v:Int):Instr:=⟨x.op,x.dst,v,x.into,x.args,x.jumps⟩
def Instr.fan (x:Instr) (js:LI):Instr:=⟨x.op,x.dst,x.num,x.into,x.args,js⟩
def Vr (c:List Instr) (i:Nat):List Instr:=match c[i]? with
 | none=>c
 | some x=>c.set i (x.goto c.length)
def TH (c:List Instr) (i:Nat) (js:LI):List Instr:=match c[i]? with
 | none=>c
 | some x=>c.set i (x.fan js)
def Tq (c:List Instr):List Nat->List Instr
 | []=>c
 | i::r=>Tq (Vr c i) r
structure A3 (E:Type) where
 res:E->Int->LI
 len:E->Nat
 nxt:E->E
 arm:E->Int->Int->Nat->E
def Wg (m many:Nat) (x:Int):List Instr:=(List.range many).map fun i=>XF 19 ((m+i:Nat):Int) (i:Int) 0 [x]
def Cw (r:List Z7) (c:List Instr):List Instr:=match r with|[]=>c|_::_=>c++[XF 22 0 0 0 []]
def Nw (r:List Z7) (es:List Nat) (l:Nat):List Nat:=match r with|[]=>es|_::_=>es++[l+1]
section
variable {E:Type} (X:A3 E) (ds:List Zc)
mutual
def VL (e:E):Z5->List Instr->List Instr
 | .mk op num into args kids,c=>
  if op=7 then TI e args kids c
  else if op=8 then VK e num (gI args 0) c.length kids 0 (c++[XF 21 0 num 0 args]) [] []
  else if op=14∨op=15 then c++[XF op 0 0 0 args]
  else if op=16∨op=17 then c++[XF op 0 0 0 (args++X.res e (gI args 0))]
  else c++[XF op (X.len e) num into args]
def TI (e:E) (args:LI):List Z7->List Instr->List Instr
 | b::r,c=>TY e (c.length) r (flB e b (c++[XF 20 0 0 0 args])++[XF 18 (X.len e) 0 0 [b.result]])
 | [],c=>c
def TY (e:E) (Yc:Nat):List Z7->List Instr->List Instr
 | b::_,c=>Vr (flB e b (Vr (c++[XF 22 0 0 0 []]) Yc)++[XF 18 (X.len e) 0 0 [b.result]]) c.length
 | [],c=>c
def VK (e:E) (num x:Int) (Yc:Nat):List Z7->Nat->List Instr->LI->List Nat->List Instr
 | [],_,c,ts,es=>Tq (TH c Yc ts) es
 | b::r,k,c,ts,es=>
  VK e num x Yc r (k+1) (Cw r (flB (X.arm e x num k) b (c++Wg (X.len e) (Wo ds num k).length x)++[XF 18 (X.len e) 0 0 [b.result]])) (ts++[(c.length:Int)])
   (Nw r es (flB (X.arm e x num k) b (c++Wg (X.len e) (Wo ds num k).length x)).length)
def U9 (e:E):List Z5->List Instr->List Instr
 | [],c=>c
 | s::r,c=>U9 (if YM s.op=true then e else X.nxt e) r (VL e s c)
def flB (e:E):Z7->List Instr->List Instr
 | .mk steps _,c=>U9 e steps c
end
end
def XK (ds:List Zc):A3 (LI × LI):=
 ⟨fun e x=>UE (ZO ds (gI e.1 x)) (gI e.2 x),fun e=>e.1.length,fun e=>(e.1++[0],e.2++[0]),
 fun e x num k=>(e.1.set x.toNat (Cz ds num k)++XG (ZO ds (Cz ds num k)).length,e.2.set x.toNat e.1.length++XG (ZO ds (Cz ds num k)).length)⟩
section
variable {ds:List Zc}
end
theorem AZ (c:List Instr) (i:Nat):(Vr c i).length=c.length:=by rw [Vr];split<;>simp
theorem BU (c:List Instr) (i:Nat) (js:LI):(TH c i js).length=c.length:=by rw [TH];split<;>simp
theorem Nr:∀(es:List Nat) (c:List Instr),(Tq c es).length=c.length
 | [],_=>rfl
 | i::r,c=>by rw [Tq,Nr r,AZ]
theorem Z12 {c t:List Instr} {i:Nat} {x:Instr} (h:c.length<=i):(c++t).set i x=c++t.set (i-c.length) x:=List.set_append_right _ _ h
theorem Iy {c t:List Instr} {i:Nat} (h:c.length<=i):∃t',Vr (c++t) i=c++t'/\t'.length=t.length:=by
 rw [Vr]
 split
 ·exact ⟨t,rfl,rfl⟩
 ·exact ⟨_,Z12 h,by simp⟩
theorem Z73 {c t:List Instr} {i:Nat} {js:LI} (h:c.length<=i):∃t',TH (c++t) i js=c++t'/\t'.length=t.length:=by
 rw [TH]
 split
 ·exact ⟨t,rfl,rfl⟩
 ·exact ⟨_,Z12 h,by simp⟩
theorem Nq {c:List Instr}:∀{es:List Nat} {t:List Instr},(∀i∈es,c.length<=i)->∃t',Tq (c++t) es=c++t'/\t'.length=t.length
 | [],t,_=>⟨t,rfl,rfl⟩
 | i::r,t,h=>by
  obtain ⟨t1,e1,l1⟩:=Iy (t:=t) (h i (Xf ..))
  obtain ⟨t2,e2,l2⟩:=Nq (es:=r) (t:=t1) fun j hj=>h j (Xr _ hj)
  exact ⟨t2,by rw [Tq,e1,e2],by rw [l2,l1]⟩
theorem Z43 (r:List Z7) (c:List Instr):∃t,Cw r c=c++t:=by
 cases r with
 | nil=>exact ⟨[],by rw [UN];rfl⟩
 | cons _ _=>exact ⟨_,rfl⟩
section
variable {E:Type} (X:A3 E) (ds:List Zc)
mutual
theorem Z7u:∀(s:Z5) (e:E) (c:List Instr),∃t,VL X ds e s c=c++t
 | .mk op num into args kids,e,c=>by
  rw [VL]
  split
  ·exact Z7l kids e c
  split
  ·obtain ⟨t,h⟩:=P5 kids e 0 c [XF 21 0 num 0 args] [] [] (X2 _) (fun i hi=>by cases hi) (num:=num) (x:=gI args 0)
   exact ⟨t,h⟩
  split
  ·exact ⟨_,rfl⟩
  split
  ·exact ⟨_,rfl⟩
  ·exact ⟨_,rfl⟩
theorem Z7l:∀(bs:List Z7) (e:E) (c:List Instr) {args:LI},∃t,TI X ds e args bs c=c++t
 | [],e,c,_=>⟨[],by rw [TI,UN]⟩
 | b::r,e,c,args=>by
  rw [TI]
  obtain ⟨t,h⟩:=DJ b e (c++[XF 20 0 0 0 args])
  rw [h,XM,XM]
  exact Z7g r e c _ (X2 _)
theorem Z7g:∀(bs:List Z7) (e:E) (c t0:List Instr) {a:Nat},c.length<=a->∃t,TY X ds e a bs (c++t0)=c++t
 | [],e,c,t0,_,_=>⟨t0,by rw [TY]⟩
 | b::r,e,c,t0,a,ha=>by
  rw [TY,XM]
  obtain ⟨t1,h1,_⟩:=Iy (t:=t0++[XF 22 0 0 0 []]) ha
  rw [h1]
  obtain ⟨t2,h2⟩:=DJ b e (c++t1)
  rw [h2,XM,XM]
  obtain ⟨t3,h3,_⟩:=Iy (c:=c) (t:=t1++(t2++[XF 18 (X.len e) 0 0 [b.result]])) (i:=(c++t0).length) (by rw [ZH];exact Nat.le_add_right _ _)
  exact ⟨t3,h3⟩
theorem P5:∀(bs:List Z7) (e:E) (k:Nat) (c t0:List Instr) (ts:LI) (es:List Nat) {num x:Int} {a:Nat},c.length<=a->(∀i∈es,c.length<=i)->∃t,VK X ds e num x a bs k (c++t0) ts es=c++t
 | [],e,k,c,t0,ts,es,num,x,a,ha,he=>by
  rw [VK]
  obtain ⟨t1,h1,_⟩:=Z73 (t:=t0) (js:=ts) ha
  obtain ⟨t2,h2,_⟩:=Nq (t:=t1) he
  exact ⟨t2,by rw [h1,h2]⟩
 | b::r,e,k,c,t0,ts,es,num,x,a,ha,he=>by
  rw [VK]
  obtain ⟨t1,h1⟩:=DJ b (X.arm e x num k) ((c++t0)++Wg (X.len e) (Wo ds num k).length x)
  rw [h1]
  obtain ⟨t2,h2⟩:=Z43 r ((((c++t0)++Wg (X.len e) (Wo ds num k).length x)++t1)++[XF 18 (X.len e) 0 0 [b.result]])
  rw [h2,XM,XM,XM,XM]
  refine P5 r e (k+1) c _ _ _ ha fun i hi=>?_
  cases r with
  | nil=>exact he i hi
  | cons _ _=>
   rcases Xg.1 hi with hi|hi
   ·exact he i hi
   ·rw [Xs.1 hi]
    simp only [ZH]
    omega
theorem Pb:∀(xs:List Z5) (e:E) (c:List Instr),∃t,U9 X ds e xs c=c++t
 | [],e,c=>⟨[],by rw [U9,UN]⟩
 | s::r,e,c=>by
  obtain ⟨t1,h1⟩:=Z7u s e c
  obtain ⟨t2,h2⟩:=Pb r (if YM s.op=true then e else X.nxt e) (c++t1)
  exact ⟨t1++t2,by rw [U9,h1,h2,XM]⟩
theorem DJ:∀(b:Z7) (e:E) (c:List Instr),∃t,flB X ds e b c=c++t
 | .mk steps result,e,c=>by rw [flB];exact Pb steps e c
end
theorem Z7b {b:Z7} {e:E} {c:List Instr} {i:Nat} (h:i<c.length):(flB X ds e b c)[i]? = c[i]?:=by
 obtain ⟨t,ht⟩:=DJ X ds b e c
 rw [ht,A1 h]
theorem Z7d {b:Z7} {e:E} {c:List Instr}:c.length<=(flB X ds e b c).length:=by
 obtain ⟨t,ht⟩:=DJ X ds b e c
 rw [ht,ZH];omega
variable {ds} (hd:Xl ds)
include hd
mutual
theorem P8:∀(s:Z5) (e:E) (c:List Instr),(VL X ds e s c).length<=c.length+16*s.sz
 | .mk op num into args kids,e,c=>by
  rw [VL,Z5.sz]
  split
  ·have:=Z7k kids e c (args:=args);omega
  split
  ·have:=P4 kids e 0 (c++[XF 21 0 num 0 args]) [] [] (num:=num) (x:=gI args 0) (a:=c.length)
   simp only [ZH,Ys,YF] at this
   omega
  split
  ·simp;omega
  split
  ·simp;omega
  ·simp;omega
theorem Z7k:∀(bs:List Z7) (e:E) (c:List Instr) {args:LI},(TI X ds e args bs c).length<=c.length+16*YV bs+3
 | [],e,c,_=>by rw [TI];omega
 | b::r,e,c,args=>by
  have h1:=BV b e (c++[XF 20 0 0 0 args])
  have h2:=Z7f r e (flB X ds e b (c++[XF 20 0 0 0 args])++[XF 18 (X.len e) 0 0 [b.result]]) (a:=c.length)
  rw [TI,YV]
  simp only [ZH,Ys,YF] at h1 h2
  omega
theorem Z7f:∀(bs:List Z7) (e:E) (c:List Instr) {a:Nat},(TY X ds e a bs c).length<=c.length+16*YV bs+1
 | [],e,c,_=>by rw [TY];omega
 | b::r,e,c,a=>by
  have h1:=BV b e (Vr (c++[XF 22 0 0 0 []]) a)
  rw [TY,AZ,YV]
  rw [AZ] at h1
  simp only [ZH,Ys,YF] at h1 ⊢
  omega
theorem P4:∀(bs:List Z7) (e:E) (k:Nat) (c:List Instr) (ts:LI) (es:List Nat) {num x:Int} {a:Nat},(VK X ds e num x a bs k c ts es).length<=c.length+16*YV bs
 | [],e,k,c,ts,es,num,x,a=>by rw [VK,Nr,BU];simp [YV]
 | b::r,e,k,c,ts,es,num,x,a=>by
  have h1:=BV b (X.arm e x num k) (c++Wg (X.len e) (Wo ds num k).length x)
  have h2:=P4 r e (k+1) (Cw r (flB X ds (X.arm e x num k) b (c++Wg (X.len e) (Wo ds num k).length x)++[XF 18 (X.len e) 0 0 [b.result]])) (ts++[(c.length:Int)])
   (Nw r es (flB X ds (X.arm e x num k) b (c++Wg (X.len e) (Wo ds num k).length x)).length) (num:=num) (x:=x) (a:=a)
  have h3:∀c':List Instr,(Cw r c').length<=c'.length+1:=fun c'=>by cases r with
   | nil=>exact Nat.le_succ _
   | cons _ _=>show (c'++[XF 22 0 0 0 []]).length<=_;simp
  have h4:=h3 (flB X ds (X.arm e x num k) b (c++Wg (X.len e) (Wo ds num k).length x)++[XF 18 (X.len e) 0 0 [b.result]])
  have h5:=GQ hd num k
  have h6:(Wg (X.len e) (Wo ds num k).length x).length=(Wo ds num k).length:=by simp [Wg]
  rw [VK,YV]
  simp only [ZH,Ys,YF,h6] at h1 h2 h4 ⊢
  omega
theorem Pa:∀(xs:List Z5) (e:E) (c:List Instr),(U9 X ds e xs c).length<=c.length+16*Yr xs
 | [],e,c=>by rw [U9,Yr];omega
 | s::r,e,c=>by
  have h1:=P8 s e c
  have h2:=Pa r (if YM s.op=true then e else X.nxt e) (VL X ds e s c)
  rw [U9,Yr];omega
theorem BV:∀(b:Z7) (e:E) (c:List Instr),(flB X ds e b c).length+16<=c.length+16*b.sz
 | .mk steps result,e,c=>by
  have:=Pa steps e c
  rw [flB,Z7.sz];omega
end
end
def Kj (m:Int) (x:Instr):Int:=x.args.foldl (fun m a=>max m (a+1)) (max m (x.dst+1))
def Uo (m:Int) (c:List Instr):Int:=c.foldl Kj m
structure AX (x:Instr):Prop where
 dst:0<=x.dst/\x.dst<=1000000000
 len:x.args.length<=10000200
 args:∀a∈x.args,0<=a/\a<=1000000000
 js:x.jumps.length<=300000000
def Rg (c:List Instr):Prop:=∀x∈c,AX x
theorem RT:∀{l:LI} {m:Int},(∀a∈l,0<=a/\a<=1000000000)->0<=m/\m<=1000000001->m<=l.foldl (fun m a=>max m (a+1)) m/\l.foldl (fun m a=>max m (a+1)) m<=1000000001
 | [],m,_,h=>⟨Int.le_refl _,h.2⟩
 | a::r,m,ha,h=>by
  have h1:=ha a (Xf ..)
  have h2:=RT (l:=r) (m:=max m (a+1)) (fun b hb=>ha b (Xr _ hb)) om
  rw [List.foldl_cons]
  omega
theorem Zep {x:Instr} {m:Int} (hx:AX x) (h:0<=m/\m<=1000000001):m<=Kj m x/\Kj m x<=1000000001:=by
 have h1:=hx.dst
 have h2:=RT (m:=max m (x.dst+1)) hx.args om
 rw [Kj];omega
theorem Z02:∀{c:List Instr} {m:Int},Rg c->0<=m/\m<=1000000001->m<=Uo m c/\Uo m c<=1000000001
 | [],m,_,h=>⟨Int.le_refl _,h.2⟩
 | x::r,m,hc,h=>by
  have h1:=Zep (hc x (Xf ..)) h
  have h2:=Z02 (c:=r) (m:=Kj m x) (fun y hy=>hc y (Xr _ hy)) om
  show m<=Uo (Kj m x) r/\_
  exact ⟨by omega,h2.2⟩
theorem RU:∀(l:LI) (a m:Int),l.foldl (fun m a=>max m (a+1)) (max a m)=max a (l.foldl (fun m a=>max m (a+1)) m)
 | [],_,_=>rfl
 | x::r,a,m=>by rw [List.foldl_cons,List.foldl_cons,<-RU r];congr 1;omega
theorem Zeq (x:Instr) (a m:Int):Kj (max a m) x=max a (Kj m x):=by
 rw [Kj,Kj,<-RU];congr 1;omega
theorem Z03:∀(c:List Instr) (a m:Int),Uo (max a m) c=max a (Uo m c)
 | [],_,_=>rfl
 | x::r,a,m=>by
  show Uo (Kj (max a m) x) r=max a (Uo (Kj m x) r)
  rw [Zeq,Z03 r]
theorem Zer (c:List Instr) {a:Int} (h:0<=a):Uo a c=max a (Uo 0 c):=by
 rw [<-Z03];congr 1;omega
theorem Rg.nil:Rg []:=fun _ h=>by cases h
theorem Rg.app {c d:List Instr} (h1:Rg c) (h2:Rg d):Rg (c++d):=fun x hx=>(Xg.1 hx).elim (h1 x) (h2 x)
theorem Rg.one {x:Instr} (h:AX x):Rg [x]:=fun y hy=>by rw [Xs.1 hy];exact h
theorem Rg.snoc {c:List Instr} {x:Instr} (h1:Rg c) (h2:AX x):Rg (c++[x]):=h1.app (.one h2)
theorem Rg.set {c:List Instr} {x y:Instr} {i:Nat} (hx:c[i]? = some x) (h:Rg c) (h1:y.dst=x.dst) (h2:y.args=x.args) (h3:y.jumps.length<=300000000):Rg (c.set i y):=fun z hz=>by
 have hr:=h x (Y4 hx)
 rcases List.mem_or_eq_of_mem_set hz with hz|rfl
 ·exact h z hz
 ·exact ⟨by rw [h1];exact hr.dst,by rw [h2];exact hr.len,by rw [h2];exact hr.args,h3⟩
theorem Rg.aim {c:List Instr} (h:Rg c) (i:Nat):Rg (Vr c i):=by
 rw [Vr]
 split
 ·exact h
 ·rename_i x hx;exact h.set hx rfl rfl (h x (Y4 hx)).js
theorem Rg.fan {c:List Instr} (h:Rg c) (i:Nat) {js:LI} (hj:js.length<=300000000):Rg (TH c i js):=by
 rw [TH]
 split
 ·exact h
 ·rename_i x hx;exact h.set hx rfl rfl hj
theorem Rg.aims:∀{es:List Nat} {c:List Instr},Rg c->Rg (Tq c es)
 | [],_,h=>h
 | i::r,c,h=>by rw [Tq];exact Rg.aims (h.aim i)
theorem AX.mk' {op dst num into:Int} {args:LI} (h1:0<=dst/\dst<=1000000000) (h2:args.length<=10000200) (h3:∀a∈args,0<=a/\a<=1000000000):AX (XF op dst num into args):=⟨h1,h2,h3,T2 _⟩
mutual
def E8:Z5->Prop
 | .mk _ _ _ args kids=>(args.length<=10000100/\∀a∈args,0<=a/\a<=900000000)/\D8 kids
def D8:List Z7->Prop
 | []=>True
 | b::r=>E7 b/\D8 r
def FD:List Z5->Prop
 | []=>True
 | s::r=>E8 s/\FD r
def E7:Z7->Prop
 | .mk steps result=>FD steps/\0<=result/\result<=900000000
end
theorem Zf1 (s:Z5):E8 s↔(s.args.length<=10000100/\∀a∈s.args,0<=a/\a<=900000000)/\D8 s.kids:=by cases s;rw [E8];rfl
theorem HG (b:Z7):E7 b↔FD b.steps/\0<=b.result/\b.result<=900000000:=by cases b;rw [E7];rfl
section
variable {n:ZF}
end
structure Ng {E:Type} (X:A3 E) (G:E->Nat->Prop):Prop where
 len:∀{e q},G e q->X.len e<=q
 res:∀{e q},G e q->∀x,(∀v∈X.res e x,0<=v/\v<=q+3)/\(X.res e x).length<=3
 nxt:∀{e q},G e q->G (X.nxt e) (q+1)
 up:∀{e q q'},G e q->q<=q'->G e q'
 arm:∀{e q},G e q->∀x num k,G (X.arm e x num k) (q+3)
theorem Z36 {m many:Nat} {x:Int} (hm:many<=3) (h:m<=900000000) (hx:0<=x/\x<=900000000):Rg (Wg m many x):=fun y hy=>by
 rw [Wg] at hy
 obtain ⟨i,hi,rfl⟩:=XA.1 hy
 have:=List.mem_range.1 hi
 exact .mk' om (by simp) fun a ha=>by rw [Xs.1 ha];omega
theorem Io {m:Nat} {r:Int} (h:m<=900000000) (hr:0<=r/\r<=900000000):AX (XF 18 m 0 0 [r]):=.mk' om (by simp) fun a ha=>by rw [Xs.1 ha];omega
theorem Ni {op num:Int}:AX (XF op 0 num 0 []):=.mk' om (by simp) fun a ha=>by cases ha
theorem Ge {op dst num into:Int} {args:LI} (hd:0<=dst/\dst<=900000000) (h:args.length<=10000100/\∀a∈args,0<=a/\a<=900000000):AX (XF op dst num into args):=.mk' om om fun a ha=>by have:=h.2 a ha;omega
theorem Z35 {r:List Z7} {c:List Instr} (h:Rg c):Rg (Cw r c):=by
 cases r with
 | nil=>exact h
 | cons _ _=>exact h.snoc Ni
section
variable {E:Type} {X:A3 E} {ds:List Zc} {G:E->Nat->Prop} (hX:Ng X G) (hd:Xl ds)
include hX hd
mutual
theorem Z7v:∀(s:Z5) {e:E} {q:Nat} {c:List Instr},wS ds s->G e q->q+4*s.sz<=900000000->E8 s->Rg c->Rg (VL X ds e s c)
 | .mk op num into args kids,e,q,c,hw,hg,hq,hs,hc=>by
  have hl:=hX.len hg
  obtain ⟨h1,h2⟩:=(Zf1 _).1 hs
  have h1':args.length<=10000100/\∀a∈args,0<=a/\a<=900000000:=h1
  rw [Z5.sz] at hq
  rw [VL]
  split
  ·exact Z7m kids hw.2.2.2 hg om h2 h1' hc
  split
  ·rename_i h8
   obtain ⟨a,ha,ha2⟩:=(hw.2.2.1 h8).1
   have hkl:=NM kids
   exact P6 kids hw.2.2.2 hg om h2 (by rw [ha];exact ha2) (by rw [YF];omega) (hc.snoc (Ge om h1'))
  split
  ·exact hc.snoc (Ge om h1')
  split
  ·have h3:=hX.res hg (gI args 0)
   refine hc.snoc (.mk' om (by rw [ZH];omega) fun a ha=>?_)
   rcases Xg.1 ha with ha|ha
   ·have:=h1'.2 a ha;omega
   ·have:=h3.1 a ha;omega
  ·exact hc.snoc (Ge om h1')
theorem Z7m:∀(bs:List Z7) {e:E} {q:Nat} {c:List Instr} {args:LI},Jl ds bs->G e q->q+4*YV bs<=900000000->D8 bs->args.length<=10000100/\(∀a∈args,0<=a/\a<=900000000)->Rg c->Rg (TI X ds e args bs c)
 | [],e,q,c,args,_,_,_,_,_,hc=>by rw [TI];exact hc
 | b::r,e,q,c,args,hw,hg,hq,hs,ha,hc=>by
  rw [YV] at hq
  have hl:=hX.len hg
  rw [TI]
  exact Z7h r hw.2 hg om hs.2 ((GT b hw.1 hg om hs.1 (hc.snoc (Ge om ha))).snoc (Io om ((HG b).1 hs.1).2))
theorem Z7h:∀(bs:List Z7) {e:E} {q:Nat} {c:List Instr} {a:Nat},Jl ds bs->G e q->q+4*YV bs<=900000000->D8 bs->Rg c->Rg (TY X ds e a bs c)
 | [],e,q,c,a,_,_,_,_,hc=>by rw [TY];exact hc
 | b::r,e,q,c,a,hw,hg,hq,hs,hc=>by
  rw [YV] at hq
  have hl:=hX.len hg
  rw [TY]
  exact ((GT b hw.1 hg om hs.1 ((hc.snoc Ni).aim a)).snoc (Io om ((HG b).1 hs.1).2)).aim _
theorem P6:∀(bs:List Z7) {e:E} {q:Nat} {k:Nat} {c:List Instr} {ts:LI} {es:List Nat} {num x:Int} {a:Nat},Jl ds bs->G e q->q+4*YV bs<=900000000->D8 bs->0<=x/\x<=900000000->ts.length+bs.length<=300000000->Rg c->Rg (VK X ds e num x a bs k c ts es)
 | [],e,q,k,c,ts,es,num,x,a,_,_,_,_,_,ht,hc=>by rw [VK];exact (hc.fan _ ht).aims
 | b::r,e,q,k,c,ts,es,num,x,a,hw,hg,hq,hs,hx,ht,hc=>by
  rw [Ys] at ht
  rw [YV] at hq
  have hl:=hX.len hg
  have hp:=b.sz_eq
  rw [VK]
  exact P6 r hw.2 hg om hs.2 hx (by rw [ZH,Jp];omega) (Z35 ((GT b hw.1 (hX.arm hg x num k) om hs.1 (hc.app (Z36 (GQ hd num k) om hx))).snoc (Io om ((HG b).1 hs.1).2)))
theorem Pc:∀(xs:List Z5) {e:E} {q:Nat} {c:List Instr},QR ds xs->G e q->q+4*Yr xs<=900000000->FD xs->Rg c->Rg (U9 X ds e xs c)
 | [],e,q,c,_,_,_,_,hc=>by rw [U9];exact hc
 | s::r,e,q,c,hw,hg,hq,hs,hc=>by
  rw [Yr] at hq
  have hp:=s.sz_pos
  rw [U9]
  refine Pc r (q:=q+1) hw.2 ?_ om hs.2 (Z7v s hw.1 hg om hs.1 hc)
  split
  ·exact hX.up hg om
  ·exact hX.nxt hg
theorem GT:∀(b:Z7) {e:E} {q:Nat} {c:List Instr},wB ds b->G e q->q+4*b.sz<=900000004->E7 b->Rg c->Rg (flB X ds e b c)
 | .mk steps result,e,q,c,hw,hg,hq,hs,hc=>by
  rw [Z7.sz] at hq
  rw [flB]
  exact Pc steps hw hg om hs.1 hc
end
end
theorem Zg4 {ds:List Zc} (hd:Xl ds):Ng (XK ds) (fun e q=>e.1.length<=q/\∀v∈e.2,0<=v/\v<=q):=by
 refine ⟨fun h=>h.1,fun {e q} h x=>?_,fun {e q} h=>⟨by simp [XK];exact h.1,fun v hv=>?_⟩,fun h hq=>⟨by have:=h.1;omega,fun v hv=>by have:=h.2 v hv;omega⟩,fun {e q} h x num k=>⟨?_,fun v hv=>?_⟩⟩
 ·have h1:=V8 hd (gI e.1 x)
  have h2:0<=gI e.2 x/\gI e.2 x<=q:=if z:gI e.2 x=0 then om else h.2 _ (GV z)
  exact ⟨fun v hv=>by have:=LM hv;omega,V7 (GZ _ _) h1⟩
 ·rcases Xg.1 hv with hv|hv
  ·have:=h.2 v hv;omega
  ·rw [Xs.1 hv];omega
 ·have h1:=V8 hd (Cz ds num k)
  have h2:=h.1
  show (e.1.set _ _++XG _).length<=_
  rw [ZH,TM,DY];omega
 ·have h1:=V8 hd (Cz ds num k)
  have h2:=h.1
  rcases Xg.1 hv with hv|hv
  ·rcases List.mem_or_eq_of_mem_set hv with hv|rfl
   ·have:=h.2 v hv;omega
   ·omega
  ·have:=Ht _ v hv;omega
def GB (B:List Nat):Yl:=fun b _=>b∈B
section
variable {w:World} {G:Yl} {B:List Nat}
end
section
variable {w:World} {G:Yl} {B:List Nat}
def PM:Value->Hd
 | .slice a l c=>⟨a,l,c⟩
 | _=>⟨none,0,0⟩
abbrev av (y:Z31):AV:=.agg [.h (PM y.dv),.h (PM y.rv)]
end
def Z34 (B:List Nat) (m:Mem) (x:AV) (u:Value):Prop:=
 ∀w:World,(∀b∈B,∃cs e,w.heap[b]? = some (.cells cs e (0,0))/\∀o,cs[o]? = m b o)->RV w (GB B) x u
inductive Eo (bs:List Res):List AV->List AV->Prop
 | nil:Eo bs [] []
 | same {x as1 xs} (t:Eo bs as1 xs):Eo bs (x::as1) (x::xs)
 | gen {B m x a u as1 xs} (h:Res.own B m∈bs) (hr:Z34 B m x u) (ha:∀w G v,RV w G a v->v=u) (t:Eo bs as1 xs):Eo bs (a::as1) (x::xs)
section
variable {P:Program} {n:Nat} {ops:Array Oper} {B:Fr->List Res->Prop} {k:Nat} {F:Fr} {h:List Res}
def NJ (P:Program) (ops:Array Oper) (F:Fr) (k:Nat):Option (Bool × Bool):=
 match (ZL ops k).op with
 | .binOp .neq t x y _=>match P.underlying t with
  | some .bool=>match F.ev x,F.ev y with
   | .val (.bool a),.val (.bool b)=>some (a,b)
   | _,_=>none
  | _=>none
 | _=>none
theorem Rp (a b:Bool) (hb:NJ P ops F k=some (a,b):=by kernel_rfl):XS P (ZL ops k) F h [] (.b (a != b)):=by
 unfold NJ at hb
 generalize hoo:ZL ops k=o at hb
 obtain ⟨dst,op,type,pos,after,guard⟩:=o
 cases op<;>simp only at hb<;>try (cases hb)
 rename_i bop t x y yt
 cases bop<;>simp only at hb<;>try (cases hb)
 split at hb
 ·rename_i ht
  split at hb
  ·rename_i a' b' h1 h2
   cases hb
   intro n w G ac hF hh
   have v1:=hF.ev x
   have v2:=hF.ev y
   rw [h1] at v1
   rw [h2] at v2
   have v1:=v1.val_inv
   have v2:=v2.val_inv
   refine ⟨_,.val,fun w' _ _=>?_⟩
   simp only [execOp,v1,v2]
   have he:(Op.equalIn (9999+1) t (.bool a) (.bool b)).run P w'=.ok (a==b) w':=by
    rw [Op.equalIn]
    simp [Sem.run_bind,U6 ht]
   refine Vp ?_
   simp only [eqGuard,binOp,Op.equal,Op.maxDepth]
   have he2:(Op.equalIn 10000 t (.bool a) (.bool b)).run P w'=.ok (a==b) w':=he
   simp [Sem.run_bind,he2,bne]
  ·cases hb
 ·cases hb
end
section
variable {m m':Mem} {B:List Nat}
end
section
variable {w:World} {G:Yl} {B:List Nat}
end
def Zew (r:Int):Instr:=XF 23 0 0 0 [r]
def VQ (ds:List Zc) (rt:Yz):List Instr:=flB (XK ds) ds (XG rt.params.length,XG rt.params.length) rt.body []++[Zew rt.body.result]
def CW:Yx:=⟨[],[]⟩
section
variable {ds:List Zc} {b:Bool}
end
section
variable {n:ZF} (hn:Xv n) (hz:A4 n) (hbt:∀r∈n.routines,0<=W2 n r.params r.body)
include hn hz hbt
end
section
variable {N:Mem} {g o:Nat} {z:Int}
end
structure Zjj (im:Yx):Prop where
 decls:Z5y im.decls<=1000000000
 procs:im.procs.length<=4
 params:∀p∈im.procs,p.params.length<=1000000000
 lent:∀p∈im.procs,p.lent.length<=1000000000
 code:∀p∈im.procs,p.code.length<=2000
 args:∀p∈im.procs,∀x∈p.code,x.args.length<=10000200
 jumps:∀p∈im.procs,∀x∈p.code,x.jumps.length<=300000000
section
variable {n:ZF} (hz:A4 n) (hB:Z4d n=true)
include hz hB
end
end Go.Abs
section
namespace Go.Abs
def Zr (c:List Instr) (i:Nat):Prop:=∃x,c[i]? = some x/\x.dst=0/\x.into=0
section
variable {c t:List Instr} {i j:Nat}
theorem Zr.lt (h:Zr c i):i<c.length:=by obtain ⟨x,hx,_⟩:=h;exact (Xu.1 hx).1
theorem Zr.new {x:Instr} (h1:x.dst=0) (h2:x.into=0):Zr (c++[x]) c.length:=⟨x,by simp,h1,h2⟩
theorem Zr.app (h:Zr c i):Zr (c++t) i:=by
 obtain ⟨x,hx,h1⟩:=h
 exact ⟨x,by rw [A1 ((Xu.1 hx).1)];exact hx,h1⟩
theorem Zr.flB {E:Type} {X:A3 E} {ds:List Zc} {e:E} {b:Z7} (h:Zr c i):Zr (flB X ds e b c) i:=by
 obtain ⟨t,ht⟩:=DJ X ds b e c
 rw [ht];exact h.app
theorem Zr.set {x y:Instr} (h:Zr c i) (hx:c[j]? = some x) (h1:y.dst=x.dst) (h2:y.into=x.into):Zr (c.set j y) i:=by
 obtain ⟨z,hz,h3,h4⟩:=h
 by_cases e:j=i
 ·subst e
  rw [hx] at hz
  cases hz
  exact ⟨y,by rw [List.getElem?_set_self (Xu.1 hx).1],h1.trans h3,h2.trans h4⟩
 ·exact ⟨z,by rw [List.getElem?_set_ne e];exact hz,h3,h4⟩
theorem Zr.aim (h:Zr c i):Zr (Vr c j) i:=by
 rw [Vr]
 split
 ·exact h
 ·rename_i x hx;exact h.set hx rfl rfl
theorem Zr.fan {js:LI} (h:Zr c i):Zr (TH c j js) i:=by
 rw [TH]
 split
 ·exact h
 ·rename_i x hx;exact h.set hx rfl rfl
end
theorem EQ {c t:List Instr} {i:Nat} {x:Instr} (h:c[i]? = some x):(c++t)[i]? = some x:=by rw [A1 (Xu.1 h).1];exact h
theorem PJ {c:List Instr} {i:Nat} {x:Instr} {E:Type} {X:A3 E} {ds:List Zc} {e:E} {b:Z7} (h:c[i]? = some x):(flB X ds e b c)[i]? = some x:=by
 rw [Z7b X ds (Xu.1 h).1];exact h
theorem Z3i {c:List Instr} {i:Nat} {x:Instr} (h:c[i]? = some x):Vr c i=c.set i (x.goto c.length):=by rw [Vr,h]
theorem Z74 {c:List Instr} {i:Nat} {x:Instr} {js:LI} (h:c[i]? = some x):TH c i js=c.set i (x.fan js):=by rw [TH,h]
theorem Z3j {c:List Instr} {i:Nat} {x:Instr} (h:c[i]? = some x) (h1:x.dst=0) (h2:x.into=0):c.set i ⟨x.op,0,c.length,0,x.args,x.jumps⟩=Vr c i:=by
 rw [Z3i h,Instr.goto,h1,h2]
theorem Z75 {c:List Instr} {i:Nat} {num:Int} {args js:LI} (h:c[i]? = some (XF 21 0 num 0 args)):c.set i ⟨21,0,num,0,args,js⟩=TH c i js:=by
 rw [Z74 h];rfl
def QK (es:List Nat):LI:=es.map Int.ofNat
theorem Hv (es:List Nat):(QK es).length=es.length:=by simp [QK]
theorem Zd2 {es:List Nat} {k e:Nat} (h:es[k]? = some e):(QK es)[k]? = some (e:Int):=by simp [QK,h]
theorem Zd3 (es:List Nat) (e:Nat):QK es++[(e:Int)]=QK (es++[e]):=by simp [QK]
theorem Md (m k:Nat) (x:Int):Wg m (k+1) x=Wg m k x++[XF 19 ((m+k:Nat):Int) (k:Int) 0 [x]]:=by simp [Wg,List.range_succ]
theorem Hp (m k:Nat) (x:Int):(Wg m k x).length=k:=by simp [Wg]
theorem Z3l {es:List Nat} {k e:Nat} {c d:List Instr} (h:es[k]? = some e) (ha:Tq c (es.drop k)=d):Tq (Vr c e) (es.drop (k+1))=d:=by rw [Yj h,Tq] at ha;exact ha
theorem Z3k {es:List Nat} {k:Nat} {c d:List Instr} (h:es.length<=k) (ha:Tq c (es.drop k)=d):c=d:=by rw [Xj h,Tq] at ha;exact ha
section
variable {E:Type} {X:A3 E} {ds:List Zc} {e:E}
theorem EM (s:Z5) (c:List Instr):VL X ds e s c=(if s.op=7 then TI X ds e s.args s.kids c
  else if s.op=8 then VK X ds e s.num (gI s.args 0) c.length s.kids 0 (c++[XF 21 0 s.num 0 s.args]) [] []
  else if s.op=14∨s.op=15 then c++[XF s.op 0 0 0 s.args]
  else if s.op=16∨s.op=17 then c++[XF s.op 0 0 0 (s.args++X.res e (gI s.args 0))]
  else c++[XF s.op (X.len e) s.num s.into s.args]):=by cases s;rw [VL];rfl
theorem Z7r {s:Z5} {c:List Instr} {k0 k1:Z7} (h:s.op=7) (hk:s.kids=[k0,k1]):VL X ds e s c =
  Vr (flB X ds e k1 (Vr ((flB X ds e k0 (c++[XF 20 0 0 0 s.args])++[XF 18 (X.len e) 0 0 [k0.result]])++[XF 22 0 0 0 []]) c.length)++[XF 18 (X.len e) 0 0 [k1.result]]) (flB X ds e k0 (c++[XF 20 0 0 0 s.args])++[XF 18 (X.len e) 0 0 [k0.result]]).length:=by
 rw [EM,Zf h,hk,TI,TY]
theorem Z7s {s:Z5} {c:List Instr} (h:s.op=8):VL X ds e s c=VK X ds e s.num (gI s.args 0) c.length s.kids 0 (c++[XF 21 0 s.num 0 s.args]) [] []:=by
 rw [EM,Za om,Zf h]
theorem Z7o {s:Z5} {c:List Instr} (h:s.op=14∨s.op=15):VL X ds e s c=c++[XF s.op 0 0 0 s.args]:=by
 rw [EM,Za om,Za om,Zf h]
theorem Z7t {s:Z5} {c:List Instr} (h:s.op=16∨s.op=17):VL X ds e s c=c++[XF s.op 0 0 0 (s.args++X.res e (gI s.args 0))]:=by
 rw [EM,Za om,Za om,Za om,Zf h]
theorem Z7p {s:Z5} {c:List Instr} (h7:s.op≠7) (h8:s.op≠8) (h1:¬(s.op=14∨s.op=15)) (h2:¬(s.op=16∨s.op=17)):VL X ds e s c=c++[XF s.op (X.len e) s.num s.into s.args]:=by
 rw [EM,Za h7,Za h8,Za h1,Za h2]
theorem Z7c (b:Z7) (c:List Instr):flB X ds e b c=U9 X ds e b.steps c:=by cases b;rw [flB];rfl
theorem Pe {xs:List Z5} {k:Nat} {s:Z5} {c d:List Instr} (h:xs[k]? = some s) (ha:U9 X ds e (xs.drop k) c=d):U9 X ds (if YM s.op=true then e else X.nxt e) (xs.drop (k+1)) (VL X ds e s c)=d:=by
 rw [Yj h,U9] at ha;exact ha
theorem Z7x {xs:List Z5} {k:Nat} {c d:List Instr} (h:xs.length<=k) (ha:U9 X ds e (xs.drop k) c=d):c=d:=by
 rw [Xj h,U9] at ha;exact ha
theorem Z78 {bs:List Z7} {num x:Int} {a k j:Nat} {c d:List Instr} {ts:LI} {es:List Nat} (h:bs.length<=k) (ha:VK X ds e num x a (bs.drop k) j c ts es=d):Tq (TH c a ts) es=d:=by
 rw [Xj h,VK] at ha;exact ha
theorem Z79 {bs:List Z7} {b:Z7} {num x:Int} {a k:Nat} {c d:List Instr} {ts:LI} {es:List Nat} (hb:bs[k]? = some b) (hl:k+1<bs.length) (ha:VK X ds e num x a (bs.drop k) k c ts es=d) :
  VK X ds e num x a (bs.drop (k+1)) (k+1) ((flB X ds (X.arm e x num k) b (c++Wg (X.len e) (Wo ds num k).length x)++[XF 18 (X.len e) 0 0 [b.result]])++[XF 22 0 0 0 []]) (ts++[(c.length:Int)])
   (es++[(flB X ds (X.arm e x num k) b (c++Wg (X.len e) (Wo ds num k).length x)++[XF 18 (X.len e) 0 0 [b.result]]).length])=d:=by
 rw [Yj hb,VK] at ha
 rw [ZH (bs:=[XF 18 (X.len e) 0 0 [b.result]])]
 obtain ⟨y,hy⟩:=BZ (xs:=bs) (j:=k+1) om
 have hd:=Yj hy
 rw [hd] at ha ⊢
 exact ha
theorem Z7a {bs:List Z7} {b:Z7} {num x:Int} {a k:Nat} {c d:List Instr} {ts:LI} {es:List Nat} (hb:bs[k]? = some b) (hl:bs.length=k+1) (ha:VK X ds e num x a (bs.drop k) k c ts es=d) :
  VK X ds e num x a (bs.drop (k+1)) (k+1) (flB X ds (X.arm e x num k) b (c++Wg (X.len e) (Wo ds num k).length x)++[XF 18 (X.len e) 0 0 [b.result]]) (ts++[(c.length:Int)]) es=d:=by
 rw [Yj hb,VK] at ha
 rw [Xj om] at ha ⊢
 exact ha
end
end Go.Abs
namespace Go.Abs
theorem NN:∀{bs:List Z7} {k:Nat} {b:Z7},bs[k]? = some b->YV (bs.take (k+1))=YV (bs.take k)+b.sz/\YV (bs.take k)+b.sz<=YV bs
 | [],_,_,h=>by simp at h
 | x::r,0,b,h=>by simp at h;subst h;simp [YV]
 | x::r,k+1,b,h=>by
  obtain ⟨h1,h2⟩:=NN (bs:=r) (k:=k) (b:=b) (by simpa using h)
  simp only [AR,YV]
  omega
theorem Zeu {c:List Instr} {k:Nat} {x:Instr} {m q R:Int} (h:c[k]? = some x) (hq:q=Kj m x) (ha:Uo m (c.drop k)=R):Uo q (c.drop (k+1))=R:=by
 subst hq;rw [Yj h] at ha;exact ha
theorem Zet {c:List Instr} {k:Nat} {m R:Int} (h:c.length<=k) (ha:Uo m (c.drop k)=R):m=R:=by rw [Xj h] at ha;exact ha
theorem Zcm {l:LI} {j:Nat} {a m R:Int} (h:l[j]? = some a) (ha:(l.drop j).foldl (fun m a=>max m (a+1)) m=R):(l.drop (j+1)).foldl (fun m a=>max m (a+1)) (max m (a+1))=R:=by
 rw [Yj h] at ha;exact ha
theorem Zcl {l:LI} {j:Nat} {m R:Int} (h:l.length<=j) (ha:(l.drop j).foldl (fun m a=>max m (a+1)) m=R):m=R:=by rw [Xj h] at ha;exact ha
theorem Z2y (k:Nat) (h:k<=1000000000):TC (XG k):=fun f hf=>by have:=Ht k f hf;omega
theorem Zes (c:List Instr) (p:Nat):Uo (p:Int) c=max (Uo 0 c) (p:Int):=by rw [Zer c om];omega
theorem WE {p:Prop} (h:p:=by first|omega|(simp only [AZ,BU,ZH,Ys,YF,Hp,Hv,DY,TM];omega)):p:=h
end Go.Abs
end
namespace Go.Abs
structure NTu (n:ZF):Prop where
 result:∀r∈n.routines,r.result<=(n.decls.length:Int)
 decl:∀d∈n.decls,d.cons.length=0->d.to_<=(n.decls.length:Int)
 fields:∀c,∀f∈ZO n.decls c,f<=(n.decls.length:Int)
section
variable {n:ZF} (hu:NTu n)
include hu
end

theorem Z6m {xs ys:LI} (h:xs.length=ys.length) (ha:∀i,i<xs.length->xs[i]? = ys[i]?):xs=ys:=List.ext_getElem? fun i=>by
 by_cases hi:i<xs.length
 ·exact ha i hi
 ·rw [Jn om,Jn om]

structure ZS (n:ZF) (q l:Nat):Prop where
 decls:AD n.decls
 len:1<=n.routines.length/\n.routines.length<=4
 rt:∀r∈n.routines,r.params.length<=3/\r.lent.length<=l/\r.body.sz<=q/\r.body.rng
 rb:∀r∈n.routines,r.body.rb
section
variable {n n2:ZF} (hd:n2.decls=n.decls) (hr:∀vars op num args,Kl n2 vars op num args=Kl n vars op num args)
include hd hr
end
section
variable {n:ZF}
end
noncomputable instance decBlock:DecidableEq Z7:=fun a b=>Classical.propDecidable (a=b)
noncomputable instance decStep:DecidableEq Z5:=fun a b=>Classical.propDecidable (a=b)
noncomputable instance decDecls:DecidableEq Zc:=fun a b=>Classical.propDecidable (a=b)
noncomputable instance decNormal:DecidableEq ZF:=fun a b=>Classical.propDecidable (a=b)
theorem EI {α:Type} {xs ys:List α} (h:xs.length=ys.length) (ha:∀i,i<xs.length->xs[i]? = ys[i]?):xs=ys:=List.ext_getElem? fun i=>by
 by_cases hi:i<xs.length
 ·exact ha i hi
 ·rw [Jn om,Jn om]
theorem FY {α:Type} {xs ys:List α} {k:Nat} {x y:α} (h:∀i,i<k->xs[i]? = ys[i]?) (hx:xs[k]? = some x) (hy:ys[k]? = some y) (e:x=y):∀i,i<k+1->xs[i]? = ys[i]?:=fun i hi=>
 (Nat.lt_succ_iff_lt_or_eq.1 hi).elim (h i) fun z=>by rw [z,hx,hy,e]
theorem FX {α:Type} {xs ys:List α}:∀i,i<0->xs[i]? = ys[i]?:=fun i h=>absurd h om
theorem Do {α:Type} {xs ys:List α} {k:Nat} {x y:α} (hx:xs[k]? = some x) (hy:ys[k]? = some y) (e:x≠y):xs≠ys:=fun z=>by rw [z,hy] at hx;cases hx;exact e rfl
theorem YK.ext1 {s t:YK} (h1:s.fields=t.fields):s=t:=by cases s;cases t;simp at h1;rw [h1]
theorem Zc.ext3 {s t:Zc} (h1:s.frm=t.frm) (h2:s.to_=t.to_) (h3:s.cons=t.cons):s=t:=by cases s;cases t;simp at h1 h2 h3;rw [h1,h2,h3]

section
variable {ds:List Zc}
end
def Zbo (am:List Js) (x:Int):Bool:=am.any fun o=>o.chg&&(o.mat==x)
def S1 (am:List Js) (a:Js) (b:Z7):Prop:=Zbo am a.mat=true∨(Vn b.steps a.mat<0∨WA b.steps a.fds.length<0)
instance (am:List Js) (a:Js) (b:Z7):Decidable (S1 am a b):=by unfold S1;infer_instance

section
variable {ds:List Zc}
end
section
variable {n:ZF}
end
section
variable {ds:List Zc}
end
structure CR2 (c d:LI):Prop where
 l1:c.length=4
 l2:d.length=4
 a:gI c 0=gI d 0
 b:gI c 1=gI d 1
 s:gI c 2+gI c 3=gI d 2+gI d 3
section
variable {ds:List Zc}
end
section
variable {ds:List Zc}
end

structure Zjg (n:ZF) (r:Yz) (k:Nat) (L:ZK):Prop where
 ok:XH n.decls L (1+4*r.body.sz)
 pre:∃ws,L.vars=r.params++ws
 len:L.vars.length<=r.params.length+r.body.sz
 ty:∀s,r.body.steps[k]? = some s->0<=YZ n L.vars s
end Go.Abs
section
namespace Go.Abs
section
variable {n n2:ZF} (hd:n2.decls=n.decls) (hr:∀vars op num args,Kl n2 vars op num args=Kl n vars op num args) (hl:∀op num,DV n2 op num=DV n op num)
include hd hr hl
omit hd hr in
omit hd hr in
omit hr in
end
end Go.Abs
namespace Go.Abs
end Go.Abs
end
namespace Go.Abs
section
variable {ds:List Zc}
end
section
variable {n:ZF}
end
structure SC (f g:Int->Nat) (same:Prop):Prop where
 a:f 14<=g 14
 c:g 16<=f 16
 d:f 17=g 17
 e:f 16=g 16->same
section
variable {ds:List Zc}
end
def TK (r:Int):LI->Bool
 | []=>true
 | a::t=>if 0<=a/\a<=r-1 then TK r t else false
def W9 (k len:Int):LI->Bool
 | []=>true
 | j::t=>if k+1<=j/\j<=len-1 then W9 k len t else false
def TL (op:Int):Bool:=decide ((0<=op/\op<=11/\op≠7/\op≠8)∨op=18∨op=19)
def UW (im:Yx) (num:Int) (n more:Nat):Bool:=((WY im.procs num).map fun p=>decide (p.params.length=n+more)).getD false
def AC (im:Yx) (num:Int):Bool:=((WY im.procs num).map fun p=>decide (p.lent.length=0)).getD false
def W8 (im:Yx) (p:YB) (k:Nat) (x:Instr):Bool:=
 if x.op=0 then decide (x.args.length=0/\(-999<=x.num/\x.num<=999))
 else if x.op=1∨x.op=2∨x.op=3∨x.op=4∨x.op=11 then decide (x.args.length=2/\x.num=0)
 else if x.op=5∨x.op=14∨x.op=15∨x.op=18∨x.op=23 then decide (x.args.length=1/\x.num=0)
 else if x.op=6 then decide (0<Wd im.decls x.num/\x.args.length=(ZO im.decls x.num).length/\0<=x.into/\x.into<=p.regs)
 else if x.op=9∨x.op=24 then UW im x.num x.args.length 0
 else if x.op=10 then UW im x.num x.args.length 1&&AC im x.num
 else if x.op=16∨x.op=17 then decide ((1<=x.args.length/\x.args.length<=4)/\x.num=0)
 else if x.op=19 then decide (x.args.length=1/\0<=x.num/\x.num<=2)
 else if x.op=20 then decide (x.args.length=1/\(k:Int)+1<=x.num/\x.num<=(p.code.length:Int)-1)
 else if x.op=22 then decide (x.args.length=0/\(k:Int)+1<=x.num/\x.num<=(p.code.length:Int)-1)
 else if x.op=21 then decide (x.args.length=1/\0<(ZU im.decls x.num).length/\x.jumps.length=(ZU im.decls x.num).length)&&W9 k p.code.length x.jumps
 else false
def VT (im:Yx) (p:YB) (k:Nat) (x:Instr):Bool:=
 TK p.regs x.args&&(decide ((0<=x.dst/\x.dst<=p.regs-1)/\(x.dst=0∨TL x.op=true)/\(x.into=0∨x.op=6)/\(x.op=21∨x.jumps.length=0))&&W8 im p k x)
def QH (im:Yx) (p:YB):List Instr->Nat->Bool
 | [],_=>true
 | x::r,k=>if VT im p k x=true then QH im p r (k+1) else false
def M2 (c:List Instr):Bool:=((c.getLast?).map fun x=>decide (x.op=23∨x.op=24)).getD false
def Ti (im:Yx) (p:YB):Bool:=
 Uf p.params p.lent&&(decide ((1<=p.regs/\(p.params.length:Int)<=p.regs/\p.regs<=2000)/\1<=p.code.length/\p.code.length<=2000)&&(QH im p p.code 0&&M2 p.code))
def Ty (im:Yx):List YB->Bool
 | []=>true
 | p::r=>if Ti im p=true then Ty im r else false
def Ud (p:YB):Sg:=⟨p.params,p.result⟩
def Wr (im:Yx):Bool:=decide (im.procs.length<=4)&&(Ug im.decls (im.procs.map Ud)&&Ty im im.procs)
theorem Fl {im:Yx}:∀{l:List YB},Ty im l=true↔∀p∈l,Ti im p=true
 | []=>by simp [Ty]
 | p::r=>by
  rw [Ty]
  split
  ·rename_i h;rw [Fl (l:=r)];simp [h]
  ·rename_i h;simp [h]
theorem Rf {im:Yx} {p:YB}:∀{l:List Instr} {k j:Nat} {x:Instr},QH im p l k=true->l[j]? = some x->VT im p (k+j) x=true
 | [],k,j,x,_,hx=>by simp at hx
 | y::r,k,j,x,h,hx=>by
  rw [QH] at h
  split at h
  ·rename_i h1
   cases j with
   | zero=>simp at hx;subst hx;exact h1
   | succ j=>have:=Rf (k:=k+1) h (by simpa using hx);rwa [show k+(j+1)=k+1+j by omega]
  ·cases h
theorem Rx {k len:Int}:∀{l:LI},W9 k len l=true↔∀j∈l,k+1<=j/\j<=len-1
 | []=>by simp [W9]
 | j::t=>by
  rw [W9]
  split
  ·rename_i h;rw [Rx (l:=t)];simp [h]
  ·rename_i h;simp [h]
theorem Z01 {r:Int}:∀{l:LI},TK r l=true↔∀a∈l,0<=a/\a<=r-1
 | []=>by simp [TK]
 | j::t=>by
  rw [TK]
  split
  ·rename_i h;rw [Z01 (l:=t)];simp [h]
  ·rename_i h;simp [h]
theorem EW {im:Yx} (h:Wr im=true) {f k:Nat} {p:YB} {x:Instr} (hp:im.procs[f]? = some p) (hx:p.code[k]? = some x):Ti im p=true/\VT im p k x=true:=by
 rw [Wr,X1,X1] at h
 have h1:=Fl.1 h.2.2 p (Y4 hp)
 refine ⟨h1,?_⟩
 rw [Ti,X1,X1,X1] at h1
 have:=Rf h1.2.2.1 hx
 rwa [Wj] at this
theorem Zbe {im:Yx} {p:YB} {k:Nat} {x:Instr} (h:VT im p k x=true) (ho:x.op=20∨x.op=22):(k:Int)<x.num/\x.num<p.code.length:=by
 rw [VT,X1,X1] at h
 have h2:=h.2.2
 rcases ho with ho|ho
 ·simp only [W8,ho] at h2
  have h2:=of_decide_eq_true (by simpa using h2:decide (x.args.length=1/\(k:Int)+1<=x.num/\x.num<=(p.code.length:Int)-1)=true)
  omega
 ·simp only [W8,ho] at h2
  have h2:=of_decide_eq_true (by simpa using h2:decide (x.args.length=0/\(k:Int)+1<=x.num/\x.num<=(p.code.length:Int)-1)=true)
  omega
theorem Zbd {im:Yx} {p:YB} {k:Nat} {x:Instr} (h:VT im p k x=true) {j:Int} (hj:j∈x.jumps):(k:Int)<j/\j<p.code.length:=by
 rw [VT,X1,X1,decide_eq_true_eq] at h
 have h3:=h.2.1.2.2.2
 have ho:x.op=21:=by
  rcases h3 with h3|h3
  ·exact h3
  ·rw [List.eq_nil_of_length_eq_zero h3] at hj;cases hj
 have h2:=h.2.2
 have e:W8 im p k x=(decide (x.args.length=1/\0<(ZU im.decls x.num).length/\x.jumps.length=(ZU im.decls x.num).length)&&W9 k p.code.length x.jumps):=by simp [W8,ho]
 rw [e,X1] at h2
 have:=Rx.1 h2.2 j hj
 omega
def Qb (c:List Instr):Nat->Nat->Int->Bool
 | 0,_,_=>false
 | f+1,k,reg=>match c[k]? with
  | none=>false
  | some i=>if i.op=18/\gI i.args 0=reg then Qb c f (k+1) i.dst else if i.op=22 then Qb c f i.num.toNat reg else decide (i.op=23/\gI i.args 0=reg)
def fwd (c:List Instr):Prop:=∀(k:Nat) (i:Instr),c[k]? = some i->i.op=22->(k:Int)<i.num
theorem HI {c:List Instr} (hf:fwd c):∀(f g k:Nat) (reg:Int),c.length<f+k->c.length<g+k->Qb c f k reg=Qb c g k reg
 | 0,0,k,reg,_,_=>rfl
 | 0,g+1,k,reg,h,_=>by rw [Qb,Qb,Jn om]
 | f+1,0,k,reg,_,h=>by rw [Qb,Qb,Jn om]
 | f+1,g+1,k,reg,h,h'=>by
  rw [Qb,Qb]
  cases hc:c[k]? with
  | none=>rfl
  | some i=>
   simp only
   split
   ·exact HI hf f g (k+1) i.dst om om
   ·split
    ·rename_i h22
     have:=hf k i hc h22
     exact HI hf f g i.num.toNat reg om om
    ·rfl
def Tj (c:List Instr) (k:Nat) (reg:Int):Bool:=Qb c (c.length+1) k reg
theorem Zfa {c:List Instr} (hf:fwd c) {k:Nat} {reg:Int} {i:Instr} (hi:c[k]? = some i) (h:i.op=18/\gI i.args 0=reg):Tj c (k+1) i.dst=Tj c k reg:=by
 have hl:=(Xu.1 hi).1
 have e:Tj c k reg=Qb c c.length (k+1) i.dst:=by
  rw [Tj,Qb,hi]
  simp only [Zf h]
 rw [e]
 exact HI hf _ _ _ _ om om
theorem Z0k {c:List Instr} (hf:fwd c) {k:Nat} {reg:Int} {i:Instr} (hi:c[k]? = some i) (h:i.op=22):Tj c i.num.toNat reg=Tj c k reg:=by
 have hl:=(Xu.1 hi).1
 have e:Tj c k reg=Qb c c.length i.num.toNat reg:=by
  rw [Tj,Qb,hi]
  simp only
  rw [Za om,Zf h]
 rw [e]
 have:=hf k i hi h
 exact HI hf _ _ _ _ om om
theorem Cd {c:List Instr} {k:Nat} {reg:Int} {i:Instr} (hi:c[k]? = some i) (h1:¬(i.op=18/\gI i.args 0=reg)) (h2:¬i.op=22):decide (i.op=23/\gI i.args 0=reg)=Tj c k reg:=by
 rw [Tj,Qb,hi]
 simp only [Za h1,Za h2]
theorem HH {c:List Instr} {k:Nat} {reg:Int} (h:c.length<=k):false=Tj c k reg:=by
 rw [Tj,Qb,Jn h]
def JW (c:List Instr) (k:Nat) (x:Instr):Instr:=if x.op=9/\Tj c (k+1) x.dst=true then ⟨24,0,x.num,0,x.args,x.jumps⟩ else x
def Jh (c:List Instr):List Instr->Nat->List Instr
 | [],_=>[]
 | x::r,k=>JW c k x::Jh c r (k+1)
def Kr (c:List Instr):List Instr:=Jh c c 0
def I1 (p:YB):YB:=⟨p.params,p.lent,p.result,p.regs,Kr p.code⟩
def FV (im:Yx):Yx:=⟨im.decls,im.procs.map I1⟩
theorem MY (c:List Instr):∀(xs:List Instr) (k:Nat),(Jh c xs k).length=xs.length
 | [],_=>rfl
 | x::r,k=>by rw [Jh,Ys,Ys,MY c r]
theorem Zie (c:List Instr):(Kr c).length=c.length:=MY c c 0
theorem I0 {c:List Instr}:∀{xs:List Instr} {k j:Nat},(Jh c xs k)[j]? = (xs[j]?).map (JW c (k+j))
 | [],k,j=>by simp [Jh]
 | x::r,k,0=>by simp [Jh]
 | x::r,k,j+1=>by
  rw [Jh,List.getElem?_cons_succ,List.getElem?_cons_succ,I0 (xs:=r)]
  rw [show k+1+j=k+(j+1) by omega]
theorem Zid {c:List Instr} {k:Nat}:(Kr c)[k]? = (c[k]?).map (JW c k):=by rw [Kr,I0,Wj]
theorem Zif (c:List Instr) (k:Nat) (x:Instr):JW c k x=x∨(x.op=9/\JW c k x=⟨24,0,x.num,0,x.args,x.jumps⟩):=by
 unfold JW
 split
 ·rename_i h;exact .inr ⟨h.1,rfl⟩
 ·exact .inl rfl
theorem Z2d {c xs:List Instr} {k:Nat} {x:Instr} (h:xs[k]? = some x):Jh c (xs.take k) 0++[JW c k x]=Jh c (xs.take (k+1)) 0:=by
 apply List.ext_getElem?
 intro j
 have hl:=(Xu.1 h).1
 have hk:(Jh c (xs.take k) 0).length=k:=by rw [MY,Vc];omega
 rw [I0,Wj,VO h]
 by_cases hj:j<k
 ·rw [A1 om,A1 (by rw [Vc];omega),I0,Wj]
 ·by_cases e:j=k
  ·subst e
   rw [Ek om,hk,Ek (by rw [Vc];omega)]
   rw [Vc,Qk om]
   simp
  ·rw [Jn (by rw [ZH,hk];simp;omega),Jn (by rw [ZH,Vc];simp;omega)];rfl
end Go.Abs
