/-
  A part of the proof of FnLastUseUptoSaid (see the last file): no condition.
-/
import Derived.Test.YtjmahledcmocoaaGreatLusA
import Derived.Test.YtjmahledcmocoaaGreatRows
import Derived.Deep.Slices
import Derived.ChangeArms
import Derived.Lib.SlicesCompact
import Derived.Test.YtjmahledcmocoaaGreatProg
set_option linter.all false
set_option linter.unusedVariables false
set_option linter.unusedSimpArgs false
set_option linter.unusedSectionVars false
set_option maxRecDepth 10000
set_option maxHeartbeats 4000000
section
namespace Go.Abs
theorem Yj.rgrow {w:World} {G:ZY} {h2:List Res} {g len len' cap k:Nat} {ls ls':List AV} (hh:Yj w G (.row (.slice (some ⟨g,0,none⟩) len cap) k ls::h2)) {cs cs':Array Value} {e:TypeId}
  (hb:w.heap[g]? = some (.cells cs e (0,0))) (X6:cs'.size=cs.size) (hle:len'<=cap) (hcap:cs.size=cap*k) (hl:ls'.length=len'*k) (hls:Yz w G ls' (cs'.toList.take (len'*k))) :
  Yj (w.setRow g cs') G (.row (.slice (some ⟨g,0,none⟩) len' cap) k ls'::h2) /\
   YO w G (.row (.slice (some ⟨g,0,none⟩) len cap) k ls::h2) (w.setRow g cs') G (.row (.slice (some ⟨g,0,none⟩) len' cap) k ls'::h2):=by
 have hmem:Res.row (.slice (some ⟨g,0,none⟩) len cap) k ls∈Res.row (.slice (some ⟨g,0,none⟩) len cap) k ls::h2:=YZ ..
 have hA:V1 G w (w.setRow g cs') G:=⟨fun c j hg=>by
  have hne:c≠g:=fun he=>hh.prot _ hmem c j he hg
  simp [World.cell?,WR w g c cs' hne],fun _ _ h=>h⟩
 have e1:YO w G [.row (.slice (some ⟨g,0,none⟩) len cap) k ls] (w.setRow g cs') G [.row (.slice (some ⟨g,0,none⟩) len' cap) k ls']:=by
  refine ⟨rfl,rfl,rfl,by simp [World.setRow],fun _ _ h=>h,?_,fun _ _ _ h=>.inl h,?_⟩
  ·intro c hc
   by_cases hcb:c=g
   ·subst hcb
    exact .inr ⟨cs,cs',e,(0,0),hb,setRow_heap w c cs cs' e (0,0) hb,X6,fun j hj=>absurd ⟨_,YZ ..,rfl⟩ hj⟩
   ·exact .inl (WR w g c cs' hcb)
  ·rintro c j _ ⟨r,hr,hf⟩
   rw [Xp.1 hr] at hf
   exact ⟨_,YZ ..,hf⟩
 have e2:Yj (w.setRow g cs') G [.row (.slice (some ⟨g,0,none⟩) len' cap) k ls']:=by
  refine ⟨fun r hr=>?_,JL _ _,fun r hr c j hf hg=>?_,fun c j hg=>?_⟩
  ·rw [Xp.1 hr]
   exact .inr ⟨g,len',cap,cs',e,rfl,setRow_heap w g cs cs' e (0,0) hb,hle,X6.trans hcap,hl,hls.mono hA⟩
  ·rw [Xp.1 hr] at hf
   exact hh.prot _ hmem c j hf hg
  ·have:=hh.lt c j hg
   simpa [World.setRow] using this
 exact Yj.frame (h:=[.row (.slice (some ⟨g,0,none⟩) len cap) k ls]) (k:=h2) hh e1 e2
section
variable {P:Program} {n:Nat} {ops:Array Oper} {k:Nat} {F:Fr} {h2:List Res}
theorem LA {K:Fr->List Res->Prop} {v:Hd} {sz m:Nat} {ls xs:List AV} {hx:Option Value} (hd:WV n (ZB ops k)=true) (ha:VB P ops F k=some (.val v.v,.sl xs hx,sz))
  (hxs:∀y∈xs,y.leaves.length=sz) (hone:(Zc xs).all AV.one=true) (hm0:ls.length=m*sz) (hk0:0<sz) (hne:xs≠[]) (hbound:m+xs.length<=4294967296)
  (hK:∀v':Hd,K (F.put (ZB ops k).dst (.val v'.v)) (.row v'.v sz (ls++Zc xs)::h2)):Wc P n (ZB ops k) F (.row v.v sz ls::h2) K:=by
 unfold VB at ha
 generalize hoo:ZB ops k=o at ha hd hK
 obtain ⟨dst,op,type,pos,after,guard⟩:=o
 cases op<;>simp only at ha<;>try (cases ha)
 rename_i c
 obtain ⟨callee,args,tys⟩:=c
 simp only at ha
 split at ha
 case h_2=>cases ha
 rename_i s x t t' hargs htys
 split at ha
 case h_2=>cases ha
 rename_i e htt ht
 have:=VW htt
 subst this
 split at ha
 case h_2=>cases ha
 rename_i i hinfo
 split at ha
 case h_2=>cases ha
 rename_i z hz
 split at ha
 case h_2=>cases ha
 rename_i hb
 simp only [Wn] at hb
 simp only [XQ,Prod.mk.injEq] at ha
 obtain ⟨h3,h4,hk1⟩:=ha
 have e1:args=#[s,x]:=by rw [<-Ue (xs:=args),hargs]
 have e2:tys=#[t,t]:=by rw [<-Ue (xs:=tys),htys]
 subst e1;subst e2
 have hzs:z.cells.size=sz:=by rw [VW hb.1,hk1]
 have hby:=Wx hb.2
 have hfl:=Ur xs hxs
 intro Q w G a hF hh
 have v1:=hF.ev s
 have v2:=hF.ev x
 rw [h3] at v1
 rw [h4] at v2
 have v1:=v1.val_inv
 have v2:=v2.forget
 have finish:∀(v':Hd) w',(Builtin.append_ #[t,t] type #[v.v,a.eval x]).run P w=.ok v'.v w'->Yj w' G (.row v'.v sz (ls++Zc xs)::h2)->YO w G (.row v.v sz ls::h2) w' G (.row v'.v sz (ls++Zc xs)::h2) ->
   ({ dst:=dst,op:=.call { callee:=.builtin .append,args:=#[s,x],argTypes:=#[t,t] },type:=type,pos:=pos,after:=after,guard:=guard }:Oper).wp P a w
    (fun a' w'=>∃F' h' G',K F' h'/\FR w' G' n F' a'/\Yj w' G' h'/\YO w G (.row v.v sz ls::h2) w' G' h') Q:=by
  intro v' w' hr j1 j2
  have hrun:(execOp a.eval { dst:=dst,op:=.call { callee:=.builtin .append,args:=#[s,x],argTypes:=#[t,t] },type:=type,pos:=pos,after:=after,guard:=guard }).run P w=.ok (.value v'.v) w':=by
   simp only [execOp,resolve,invoke,builtin,Sem.run_bind,Sem.run_pure,Result.andThen_ok,Cz,Uf,Cy,v1,hr]
  unfold Oper.wp
  rw [hrun]
  exact ⟨_,_,G,hK v',(hF.mono (j2.agree hh)).put (Ux hd) .val,j1,j2⟩
 have hrow0:=hh.ok (.row v.v sz ls) (YZ ..)
 have hsub2:∀r:Res,List.Sublist (r::h2) (r::.row v.v sz ls::h2):=fun r=>List.Sublist.cons_cons _ (JM _ _)
 have grown:∀(olds news:List Value) (old:Nat),Yz w G ls olds->Yz w G (Zc xs) news ->
   Yj (w.drew.alloc (.cells (olds.toArray++news.toArray++Builtin.zeroCells z.cells (grownCap w (m+xs.length) old e-(m+xs.length))) e)) G
    (.row (.slice (some ⟨w.heap.size,0,none⟩) (m+xs.length) (grownCap w (m+xs.length) old e)) sz (ls++Zc xs)::h2) /\
   YO w G (.row v.v sz ls::h2) (w.drew.alloc (.cells (olds.toArray++news.toArray++Builtin.zeroCells z.cells (grownCap w (m+xs.length) old e-(m+xs.length))) e)) G
    (.row (.slice (some ⟨w.heap.size,0,none⟩) (m+xs.length) (grownCap w (m+xs.length) old e)) sz (ls++Zc xs)::h2):=by
  intro olds news old ho hn
  have X2:=grownCap_ge w (m+xs.length) old e
  have hol:=ho.length
  have hnl:=hn.length
  have hlen:(ls++Zc xs).length=(m+xs.length)*sz:=by rw [Yk,hm0,hfl,T6]
  obtain ⟨j1,j2⟩:=hh.drew.alloc_rrow (olds.toArray++news.toArray++Builtin.zeroCells z.cells (grownCap w (m+xs.length) old e-(m+xs.length))) e
   (ls:=ls++Zc xs) (len:=m+xs.length) (cap:=grownCap w (m+xs.length) old e) (k:=sz) X2
   (by
    have q2:(grownCap w (m+xs.length) old e-(m+xs.length))*sz=grownCap w (m+xs.length) old e*sz-(m+xs.length)*sz:=Nat.sub_mul ..
    have q3:(m+xs.length)*sz<=grownCap w (m+xs.length) old e*sz:=Tt _ X2
    have q4:(m+xs.length)*sz=m*sz+xs.length*sz:=T6 ..
    simp only [Array.size_append,Bs,size_zeroCells,hzs,hol,hnl,hm0,hfl]
    omega) hlen
   (by
    have:(olds.toArray++news.toArray++Builtin.zeroCells z.cells (grownCap w (m+xs.length) old e-(m+xs.length))).toList.take ((m+xs.length)*sz)=olds++news:=by
     simp only [Ea]
     rw [<-hlen,Yk,<-hol,<-hnl,<-Yk]
     exact Kl
    rw [this]
    exact (ho.append hn).mono (Jg w G))
  exact ⟨j1.sub (hsub2 _),(YO.drew w G _).trans (j2.sub' (hsub2 _))⟩
 generalize hax:a.eval x=ax at v2 finish
 cases v2 with
 | nil _=>exact absurd rfl hne
 | sl hq hcc hm=>
  rename_i b o' k' c
  have hpos:0<xs.length:=Ed.2 hne
  have hfm:=hm.flat_mem
  obtain ⟨news,hn,hnc⟩:=hfm.cells
  have hnl:news.length=xs.length*i.size:=by rw [hn.length,hfl,hk1]
  have hone':=hn.one_cells hone
  have hnews:∀j u,news[j]? = some u->w.cell? ((⟨b,o',none⟩:Addr).add j)=some u:=fun j u hj=>by rw [Qa];exact (hnc j u hj).1
  have hbb:(m+xs.length)*i.bytes<=140737488355328:=by
   have:=Nat.mul_le_mul hbound hby
   omega
  rcases hrow0 with ⟨hv0,hl0⟩|⟨g,len,cap,cur,el,hv0,hrow,hlc,hcur,hll,hcells⟩
  ·subst hl0
   have hm1:m=0:=by
    have:m*sz=0:=by simpa using hm0.symm
    rcases Nat.mul_eq_zero.1 this with h|h
    ·exact h
    ·omega
   subst hm1
   rw [hv0] at finish hh ⊢
   have hr:=run_append_nil (P:=P) w t type e i z ht hinfo hz ⟨b,o',none⟩ xs.length c news hnl hnews hpos om (by simp only [Wv] at hbb;omega)
   obtain ⟨j1,j2⟩:=grown [] news 0 .nil hn
   simp only [Wv,Array.empty_append,Kj] at j1 j2
   rw [hv0] at j2
   exact finish ⟨some ⟨w.heap.size,0,none⟩,xs.length,grownCap w xs.length 0 e⟩ _ hr (by simpa using j1) (by simpa using j2)
  ·have hlm:len=m:=Ee hk0 (hll.symm.trans hm0)
   subst hlm
   rw [hv0] at finish hh ⊢
   have q5:len*sz<=cap*sz:=Tt _ hlc
   have h1:(cur.toList.take (len*sz)).length=len*sz:=by rw [Wr,Qs,hcur,Vb q5]
   have hcl:cur.toList.length=cap*sz:=by rw [Qs,hcur]
   by_cases hroom:len+xs.length<=cap
   ·have q1:(len+xs.length)*sz<=cap*sz:=Tt _ hroom
    have q2:(len+xs.length)*sz=len*sz+xs.length*sz:=T6 ..
    have hfit:len*i.size+news.length<=cur.size:=by rw [hnl,hcur,hk1];omega
    have hr:=DM (P:=P) w t type e el i ht hinfo g len cap cur hrow ⟨b,o',none⟩ xs.length c news hnl hnews hone' hroom hfit
    rw [hk1] at hr
    have hnl':news.length=xs.length*sz:=by rw [hnl,hk1]
    obtain ⟨j1,j2⟩:=hh.rgrow (ls':=ls++Zc xs) (len':=len+xs.length) (cs':=(cur.toList.take (len*sz)++news++cur.toList.drop (len*sz+news.length)).toArray) hrow
     (by simp only [Bs,Yk,h1,hnl',Ki,hcl,hcur];omega) hroom hcur (by rw [Yk,hll,hfl,q2]) (by
      have:(cur.toList.take (len*sz)++news++cur.toList.drop (len*sz+news.length)).toArray.toList.take ((len+xs.length)*sz)=cur.toList.take (len*sz)++news:=by
       rw [Bt,q2,<-hnl']
       conv=>lhs;arg 1;rw [show len*sz+news.length=(cur.toList.take (len*sz)++news).length from by rw [Yk,h1]]
       exact Kl
      rw [this]
      exact hcells.append hn)
    exact finish ⟨some ⟨g,0,none⟩,len+xs.length,cap⟩ _ hr j1 j2
   ·have hr:=run_append_grow (P:=P) w t type e i z ht hinfo hz ⟨g,0,none⟩ len cap (cur.toList.take (len*sz)) (by rw [hk1];exact h1) (fun j u hj=>by
     rw [Qa,cell_of_row w g _ cur el (0,0) hrow]
     rw [T5] at hj
     split at hj
     ·simpa using hj
     ·cases hj) ⟨b,o',none⟩ xs.length c news hnl hnews om om (growslice_fits om hbb)
    obtain ⟨j1,j2⟩:=grown (cur.toList.take (len*sz)) news cap hcells hn
    rw [hv0] at j2
    exact finish ⟨some ⟨w.heap.size,0,none⟩,len+xs.length,grownCap w (len+xs.length) cap e⟩ _ hr j1 j2
end
section
variable {P:Program} {n:Nat} {ops:Array Oper} {B:Fr->List Res->Prop} {k:Nat} {F:Fr} {h:List Res}
theorem Dh (j m:Nat) (v:Hd) (sz:Nat) (ls xs:List AV) (hx:Option Value) (hm0:ls.length=m*sz) (hxs:∀y∈xs,y.leaves.length=sz) (hone:(Zc xs).all AV.one=true) (hne:xs≠[]) (hbound:m+xs.length<=4294967296)
  (hK:∀v':Hd,SI P n ops B (k+1) (F.put (ZB ops k).dst (.h v')) (rK v' sz (ls++Zc xs)::Xq [j] h)) (hk0:0<sz:=by omega)
  (hk:YY n ops F k=true:=by kernel_rfl) (ha:VB P ops F k=some (.h v,.sl xs hx,sz):=by kernel_rfl) (hp:XU [j] h=some [rK v sz ls]:=by kernel_rfl):SI P n ops B k F h:=
 Tf hk (Wc.perm (Vq (WI hp)) (LA (Vo hk).2.1 ha hxs hone hm0 hk0 hne hbound hK))
end
end Go.Abs
namespace Go.Abs
section
variable {P:Program} {n:Nat} {ops:Array Oper} {B:Fr->List Res->Prop} {T:List (Nat × List Nat)} {fuel:Nat} {done:List Nat} {F:Fr} {h:List Res}
theorem EG (i j m:Nat) (js bs:List Nat) (v:Hd) (sz:Nat) (ls xs:List AV) (hx:Option Value) (hm0:ls.length=m*sz) (hxs:∀y∈xs,y.leaves.length=sz) (hone:(Zc xs).all AV.one=true) (hne:xs≠[]) (hbound:m+xs.length<=4294967296)
  (hK:∀v':Hd,YJ P n ops B (T.filter fun t=>!Wt ops i t.1) fuel (done++[i]) (F.put (ZB ops i).dst (.h v')) (rK v' sz (ls++Zc xs)::Xq [j] h)) (hk0:0<sz:=by omega) (hk:YY n ops F i=true:=by kernel_rfl)
  (ha:VB P ops F i=some (.h v,.sl xs hx,sz):=by kernel_rfl) (hp:XU [j] h=some [rK v sz ls]:=by kernel_rfl) (ho:Vf ops i T=bs:=by kernel_rfl)
  (hj:js.map (fun q=>(Wa (Xq [j] h))[q]?)=bs.map some:=by kernel_rfl):WL P n ops B T fuel done F h i:=
 Qf [j] js bs hk (WI hp) ho hj (LA (h2:=[]) (Vo hk).2.1 ha hxs hone hm0 hk0 hne hbound hK)
end
theorem W3.form {P:Program} {f:FuncId} {as1:List AV} {h0:List Res} {T:Hd->AV} {kk m:Nat} {ls:List AV} {hs:List Res} (H:W3 P f as1 h0 (fun r h=>∃v:Hd,r=T v/\h=rK v kk ls::hs)) (hm:ls.length=m*kk) (hk:0<kk) (h1:0<m) :
  W3 P f as1 h0 (fun r h=>∃(g c:Nat),r=T ⟨some ⟨g,0,none⟩,m,c⟩/\h=rK ⟨some ⟨g,0,none⟩,m,c⟩ kk ls::hs):=by
 intro w G vs hv hh
 refine (H w G vs hv hh).mono ?_
 rintro e w' ⟨u,r,h',G',he,⟨v,rfl,rfl⟩,hr,hh',hx⟩
 obtain ⟨g,c,rfl⟩:=Mf (hh'.ok _ (YZ ..)) hm hk h1
 exact ⟨u,_,_,G',he,⟨g,c,rfl,rfl⟩,hr,hh',hx⟩
end Go.Abs
namespace Go.Abs
section
variable {h:List Res}
theorem Z5d (j i p:Nat) {u:Value} {kk b:Nat} {es ls:List AV} (hp:XU [j,i] h=some [.row u kk (Zc es),.obj b ls]) (hes:∀y∈es,y.leaves.length=kk) (hk:0<kk) (hl:ls[p]? = some (.val u)) :
  UK h (.obj b (ls.set p (.sl es (some u)))::.tail u kk::Xq [j,i] h):=by
 intro w G hh
 have hp':=Vq (WI hp)
 have hh':=hh.perm hp'
 obtain ⟨G',h1,h2',h3⟩:=Bf (h2:=.obj b ls::Xq [j,i] h) hh' hes hk
 have e:=h2'.perm hp'.symm (T3 _)
 have h1:Yj w G' (.tail u kk::.obj b ls::Xq [j,i] h):=h1
 have perm:(Res.tail u kk::.obj b ls::Xq [j,i] h).Perm (.obj b ls::.tail u kk::Xq [j,i] h):=List.Perm.swap ..
 have h4:=h1.perm perm
 have e4:=e.perm (T3 _) perm
 have hset:∀{w:World} {G:ZY},RV w G (.sl es (some u)) u->Tu w G (.obj b ls)->Tu w G (.obj b (ls.set p (.sl es (some u)))):=by
  intro w G hu hr
  obtain ⟨cs,el,k1,k5⟩:=hr
  refine ⟨cs,el,k1,?_⟩
  obtain ⟨c,c1,c2⟩:=k5.get p _ hl
  have:=c2.val_inv
  subst this
  have h6:=k5.set p hu
  rwa [show cs.toList.set p c=cs.toList from by
   apply List.ext_getElem?
   intro q
   rw [List.getElem?_set]
   split
   ·rename_i hq;subst hq;split
    ·exact c1.symm
    ·rename_i hq2;rw [GU om]
   ·rfl] at h6
 refine ⟨G',⟨fun r hr=>?_,?_,fun r hr=>?_,h4.lt⟩,⟨e4.os,e4.tape,e4.output,e4.size,e4.sub,e4.same,e4.newG,fun b' o hb ⟨r,hr,hf⟩=>e4.newfp b' o hb ?_⟩⟩
 ·rcases Yr.1 hr with rfl|hr
  ·exact hset h3 (h4.ok _ (YZ ..))
  ·exact h4.ok r (Xr _ hr)
 ·have:=Wb.1 h4.apart
  exact Wb.2 ⟨fun r hr b' o f1 f2=>this.1 r hr b' o f1 f2,this.2⟩
 ·rcases Yr.1 hr with rfl|hr
  ·exact fun b' o f1 hg=>h4.prot (.obj b ls) (YZ ..) b' o f1 hg
  ·exact h4.prot r (Xr _ hr)
 ·rcases Yr.1 hr with rfl|hr
  ·exact ⟨.obj b ls,YZ ..,hf⟩
  ·exact ⟨r,Xr _ hr,hf⟩
theorem Ud (j i p:Nat) (u:Value) (kk b:Nat) (es ls:List AV) (hes:∀y∈es,y.leaves.length=kk) (hl:ls[p]? = some (.val u)) (hk:0<kk:=by omega) (hp:XU [j,i] h=some [.row u kk (Zc es),.obj b ls]:=by kernel_rfl) :
  UK h (.obj b (ls.set p (.sl es (some u)))::.tail u kk::Xq [j,i] h):=Z5d j i p hp hes hk hl
end
end Go.Abs
namespace Go.Abs
section
variable {P:Program} {n:Nat} {ops:Array Oper} {k:Nat} {F:Fr} {h:List Res}
theorem Z54 (j:Nat) {g l c m kk:Nat} {ls:List AV} (hi:Bk P ops F k=some (.val (.slice (some ⟨g,0,none⟩) l c),(m:Int))) (hj:h[j]? = some (.row (.slice (some ⟨g,0,none⟩) l c) kk ls)) (hle:m<=l) :
  XP P (ZB ops k) F h [] (.val (.slice (some ⟨g,0,none⟩) m c)):=by
 unfold Bk at hi
 generalize hoo:ZB ops k=o at hi
 obtain ⟨dst,op,type,pos,after,guard⟩:=o
 cases op<;>simp only at hi<;>try (cases hi)
 rename_i t x lo hi' mx
 cases lo with
 | some _=>simp at hi
 | none=>
  cases hi' with
  | none=>simp at hi
  | some y=>
   cases mx with
   | some _=>simp at hi
   | none=>
    simp only at hi
    split at hi
    ·rename_i e ht
     split at hi
     ·rename_i inf hinf
      split at hi
      ·rename_i ik m' hm
       simp only [XQ,Prod.mk.injEq] at hi
       obtain ⟨hx,rfl⟩:=hi
       intro n w G a hF hh
       have v1:=hF.ev x
       rw [hx] at v1
       have v1:=v1.val_inv
       have v2:=hF.ev y
       rw [hm] at v2
       have v2:=v2.val_inv
       have hcap:l<=c:=by
        rcases hh.ok _ (ZW hj) with ⟨h0,_⟩|⟨g',l',c',cur,el,h0,_,hc,_⟩
        ·cases h0
        ·cases h0;exact hc
       refine ⟨_,.val,fun w' _ _=>?_⟩
       simp only [execOp,v1,v2,Bu,Option.map_none]
       refine WY ?_
       simp only [Instr.sliceAt,Sem.run_bind,VJ ht,Result.andThen_ok,Instr.slice]
       have hmm:(Instr.sliceBounds true l c none (some (.int ik (m:Int))) none).run P w'=.ok (0,m,c) w':=by
        have ZP:=fun q=>Bh (P:=P) (c:=q) (v:=.int ik (m:Int)) (y:=c) rfl om om w'
        simp [Instr.sliceBounds,ZP]
       rw [hmm]
       have hz:∀a:Addr,a.add 0=a:=fun a=>by simp [Addr.add]
       simp only [Result.andThen_ok,Tl hinf,Nat.zero_mul,hz]
       by_cases h0:c=0<;>simp [h0]
      ·cases hi
     ·cases hi
    ·cases hi
theorem Fy (j g l c m kk:Nat) (ls:List AV) (hle:m<=l:=by omega) (hi:Bk P ops F k=some (.val (.slice (some ⟨g,0,none⟩) l c),(m:Int)):=by kernel_rfl) (hj:h[j]? = some (.row (.slice (some ⟨g,0,none⟩) l c) kk ls):=by kernel_rfl) :
  XP P (ZB ops k) F h [] (.val (.slice (some ⟨g,0,none⟩) m c)):=Z54 j hi hj hle
variable {B:Fr->List Res->Prop}
end
end Go.Abs
end
namespace Go.Abs
theorem Yo {α:Type} {xs:List α} {k:Nat} {x:α} (h:xs[k]? = some x):xs.drop k=x::xs.drop (k+1):=by
 have hk:=(XA.1 h).1
 rw [NE hk]
 congr 1
 rw [TM hk] at h
 exact Ay h
theorem Xz {α:Type} {xs:List α} {k:Nat} (h:xs.length<=k):xs.drop k=[]:=Eb h
theorem Vh {α:Type} {xs:List α} {k:Nat} {x:α} (h:xs[k]? = some x):xs.take (k+1)=xs.take k++[x]:=by
 rw [List.take_add_one,h];rfl
def Xi:List Zd->Nat
 | []=>0
 | d::ds=>d.cons.length+Xi ds
theorem Ht (xs ys:List Zd):Xi (xs++ys)=Xi xs+Xi ys:=by
 induction xs with
 | nil=>simp [Xi]
 | cons d ds ih=>simp [Xi,ih];omega
structure Wh (ds:List Zd):Prop where
 len:ds.length<=4
 cons:∀d∈ds,d.cons.length<=3
 fields:∀d∈ds,∀c∈d.cons,c.fields.length<=3
theorem P3 {ds:List Zd} {m:Nat} (h:∀d∈ds,d.cons.length<=m):Xi ds<=ds.length*m:=by
 induction ds with
 | nil=>simp [Xi]
 | cons d ds ih=>
  have h1:=h d (by simp)
  have h2:=ih (fun x hx=>h x (by simp [hx]))
  simp only [Xi,YD,T6];omega
theorem Wh.sum {ds:List Zd} (h:Wh ds):Xi ds<=12:=by
 have:=P3 h.cons
 have:=h.len
 have:ds.length*3<=4*3:=Tt 3 h.len
 omega
theorem Wh.take {ds:List Zd} (h:Wh ds) (k:Nat):Wh (ds.take k):=
 ⟨by have:=h.len;simp;omega,fun d hd=>h.cons d (Ts hd),fun d hd=>h.fields d (Ts hd)⟩
theorem Wh.cons_at {ds:List Zd} (h:Wh ds) {k:Nat} {d:Zd} (hd:ds[k]? = some d):d.cons.length<=3:=h.cons d (ZW hd)
theorem Wh.fields_at {ds:List Zd} (h:Wh ds) {k j:Nat} {d:Zd} {c:Y7} (hd:ds[k]? = some d) (hc:d.cons[j]? = some c):c.fields.length<=3:=
 h.fields d (ZW hd) c (ZW hc)
def Kv (c:Int):List Zd->Nat->Nat->Int × LI
 | [],_,_=>(-1,[])
 | d::ds,i,first=>
  if (first:Int)<=c/\c<=((first+d.cons.length:Nat):Int)-1 then ((i:Int)+1,(d.cons[(c-first).toNat]?.map (·.fields)).getD []) else Kv c ds (i+1) (first+d.cons.length)
def Ve (ds:List Zd) (c:Int):Int:=(Kv c ds 0 0).1
def Y4 (ds:List Zd) (c:Int):LI:=(Kv c ds 0 0).2
theorem EE {c:Int}:∀{ds:List Zd} {i first:Nat},(Kv c ds i first=(-1,[]) ∨
  ∃k d x,ds[k]? = some d/\(first+Xi (ds.take k):Int)<=c/\c<first+Xi (ds.take k)+d.cons.length/\d.cons[(c-(first+Xi (ds.take k))).toNat]? = some x/\Kv c ds i first=((i:Int)+k+1,x.fields))
 | [],_,_=>.inl rfl
 | d::ds,i,first=>by
  rw [Kv]
  split
  ·rename_i h
   have hlt:(c-first).toNat<d.cons.length:=by omega
   refine .inr ⟨0,d,d.cons[(c-first).toNat],rfl,by simp [Xi];omega,by simp [Xi];omega,?_,?_⟩
   ·simp [Xi]
   ·rw [TM hlt];simp
  ·rcases EE (c:=c) (ds:=ds) (i:=i+1) (first:=first+d.cons.length) with h|⟨k,e,x,h1,h2,h3,h4,h5⟩
   ·exact .inl h
   ·refine .inr ⟨k+1,e,x,by simpa using h1,by simp [Xi];omega,by simp [Xi];omega,?_,?_⟩
    ·rw [<-h4];congr 3;simp [Xi];omega
    ·rw [h5];congr 1;omega
theorem Hv {ds:List Zd} {c:Int} (h:¬Ve ds c<1) :
  ∃k d x,ds[k]? = some d/\(Xi (ds.take k):Int)<=c/\d.cons[(c-Xi (ds.take k)).toNat]? = some x/\Ve ds c=(k:Int)+1/\Y4 ds c=x.fields:=by
 rcases EE (c:=c) (ds:=ds) (i:=0) (first:=0) with h1|⟨k,d,x,h1,h2,_,h4,h5⟩
 ·simp [Ve,h1] at h
 ·exact ⟨k,d,x,h1,by simpa using h2,by simpa using h4,by simp [Ve,h5],by simp [Y4,h5]⟩
theorem Hu {ds:List Zd} {c:Int} (h:Ve ds c<1):Y4 ds c=[]/\Ve ds c=-1:=by
 rcases EE (c:=c) (ds:=ds) (i:=0) (first:=0) with h1|⟨k,d,x,h1,h2,_,h4,h5⟩
 ·simp [Y4,Ve,h1]
 ·simp [Ve,h5] at h;omega
def VH (first:Int):Nat->LI
 | 0=>[]
 | n+1=>first::VH (first+1) n
theorem Z1i (first:Int) (n:Nat):VH first (n+1)=VH first n++[first+n]:=by
 induction n generalizing first with
 | zero=>simp [VH]
 | succ n ih=>rw [VH,ih (first+1),VH];simp;omega
@[simp] theorem Z1h (first:Int) (n:Nat):(VH first n).length=n:=by
 induction n generalizing first with
 | zero=>rfl
 | succ n ih=>simp [VH,ih]
def Y2 (ds:List Zd) (t:Int):LI:=
 if 1<=t/\t<=ds.length then VH (Xi (ds.take (t-1).toNat)) (((ds[(t-1).toNat]?).map (·.cons.length)).getD 0) else []
def AE (frm to_:Int):List Zd->Nat->Int
 | [],_=>-1
 | d::ds,i=>if d.cons.length=0/\d.frm=frm/\d.to_=to_ then (i:Int)+1 else AE frm to_ ds (i+1)
def QP (ds:List Zd) (frm to_:Int):Int:=AE frm to_ ds 0
def WX (ds:List Zd) (t:Int):Bool:=decide (1<=t/\t<=ds.length)&&((ds[(t-1).toNat]?).map fun d=>decide (d.cons.length=0)).getD false
theorem IM {ds:List Zd} {t:Int} {x:Zd} (h:1<=t/\t<=ds.length) (hx:ds[(t-1).toNat]? = some x):((x.cons.length:Int)==0)=WX ds t:=by
 rw [WX,hx,Xc];simp [h]
theorem IL {ds:List Zd} {t:Int} (h:¬(1<=t/\t<=ds.length)):false=WX ds t:=by
 rw [WX,Xc];simp only [Bool.false_eq_true,Wn,decide_eq_true_eq,h,false_and]
def VY (m:Nat) (xs:LI):Bool:=xs.all fun t=>decide (0<=t/\t<=m)
end Go.Abs
section
namespace Go.Abs
section
variable {h:List Res}
end
end Go.Abs
namespace Go.Abs
section
variable {P:Program} {ops:Array Oper} {k:Nat} {F:Fr} {h:List Res}
end
end Go.Abs
end
namespace Go.Abs
section
variable {P:Program} {n:Nat} {ops:Array Oper} {B:Fr->List Res->Prop} {k:Nat} {F:Fr} {h:List Res} {T:List (Nat × List Nat)} {fuel:Nat} {done:List Nat}
theorem LD {K:Fr->List Res->Prop} {ls:List AV} {len sz:Nat} (hd:WV n (ZB ops k)=true) (ha:Um P ops F k=some (ls,len,sz)) (hlen:ls.length=len*sz)
  (hK:∀g,K (F.put (ZB ops k).dst (.val (.slice (some ⟨g,0,none⟩) len len))) (.row (.slice (some ⟨g,0,none⟩) len len) sz ls::h)):Wc P n (ZB ops k) F h K:=by
 unfold Um at ha
 generalize hoo:ZB ops k=q at ha hd hK
 obtain ⟨dst,op,type,pos,after,guard⟩:=q
 cases op<;>simp only at ha<;>try (cases ha)
 rename_i t ln parts
 split at ha
 case h_2=>cases ha
 rename_i e ht
 split at ha
 case h_2=>cases ha
 rename_i i hi
 split at ha
 case h_2=>cases ha
 rename_i hc
 simp only [Wn] at hc
 split at ha
 case h_2=>cases ha
 rename_i ls' hf
 simp only [XQ,Prod.mk.injEq] at ha
 obtain ⟨rfl,rfl,X6⟩:=ha
 intro Q w G a hF hh
 obtain ⟨cs,h1,h2⟩:=DN hF parts ht hi rfl hc.1 hc.2 hf
 have hr:(execOp a.eval { dst:=dst,op:=.buildSlice t ln parts,type:=type,pos:=pos,after:=after,guard:=guard }).run P w =
   .ok (.value (.slice (some ⟨w.heap.size,0,none⟩) ln ln)) (w.alloc (.cells cs e)):=by
  simp only [execOp]
  exact WY h2
 unfold Oper.wp
 rw [hr]
 have hlc:=h1.length
 simp only [Qs] at hlc
 obtain ⟨j1,j2⟩:=hh.alloc_rrow cs e (ls:=ls') (len:=ln) (cap:=ln) (k:=sz) (YQ _) (by rw [hlc];exact hlen) hlen (by rw [<-hlen,<-hlc];simpa [WT] using h1)
 exact ⟨_,_,G,hK _,(hF.mono (j2.agree hh)).put (Ux hd) .val,j1,j2⟩
theorem VF (es es':List AV) (he:es=es') (len sz:Nat) (hK:∀v,SI P n ops B (k+1) (F.put (ZB ops k).dst (.sl es' (some v))) (.tail v sz::h)) (hk:YY n ops F k=true:=by kernel_rfl)
  (ha:Um P ops F k=some (Zc es,len,sz):=by kernel_rfl) (hlen:es.length=len:=by kernel_rfl) (hall:Kr es sz=true:=by kernel_rfl):SI P n ops B k F h:=by
 subst he;exact iL es len sz hK hk ha hlen hall
theorem W5 (i:Nat) (js bs:List Nat) (es es':List AV) (he:es=es') (len sz:Nat) (hK:∀v,YJ P n ops B (T.filter fun t=>!Wt ops i t.1) fuel (done++[i]) (F.put (ZB ops i).dst (.sl es' (some v))) (.tail v sz::h))
  (hk:YY n ops F i=true:=by kernel_rfl) (ha:Um P ops F i=some (Zc es,len,sz):=by kernel_rfl) (hlen:es.length=len:=by kernel_rfl) (hall:Kr es sz=true:=by kernel_rfl)
  (ho:Vf ops i T=bs:=by kernel_rfl) (hj:js.map (fun j=>(Wa h)[j]?)=bs.map some:=by kernel_rfl):WL P n ops B T fuel done F h i:=by
 subst he;exact dL i js bs es len sz hK hk ha hlen hall ho hj
theorem Sy (ls:List AV) (len sz:Nat) (hK:∀g,SI P n ops B (k+1) (F.put (ZB ops k).dst (.val (.slice (some ⟨g,0,none⟩) len len))) (.row (.slice (some ⟨g,0,none⟩) len len) sz ls::h)) (hlen:ls.length=len*sz:=by rfl) (hk:YY n ops F k=true:=by kernel_rfl)
  (ha:Um P ops F k=some (ls,len,sz):=by kernel_rfl):SI P n ops B k F h:=Tf hk (LD (Vo hk).2.1 ha hlen hK)
theorem Pd (i:Nat) (js bs:List Nat) (ls:List AV) (len sz:Nat) (hK:∀g,YJ P n ops B (T.filter fun t=>!Wt ops i t.1) fuel (done++[i]) (F.put (ZB ops i).dst (.val (.slice (some ⟨g,0,none⟩) len len))) (.row (.slice (some ⟨g,0,none⟩) len len) sz ls::h)) (hlen:ls.length=len*sz:=by rfl)
  (hk:YY n ops F i=true:=by kernel_rfl) (ha:Um P ops F i=some (ls,len,sz):=by kernel_rfl) (ho:Vf ops i T=bs:=by kernel_rfl) (hj:js.map (fun j=>(Wa h)[j]?)=bs.map some:=by kernel_rfl):WL P n ops B T fuel done F h i:=
 Qf (h1:=[]) (h2:=h) [] js bs hk rfl ho hj (LD (Vo hk).2.1 ha hlen hK)
end
theorem W3.frz {P:Program} {f:FuncId} {as1:List AV} {h0:List Res} {E:Type} {kk:Nat} {es:E->List AV} {hs:E->List Res} {Q:E->Prop} (H:W3 P f as1 h0 (fun r h=>∃(e:E) (v:Hd),r=.h v/\h=rK v kk (Zc (es e))::hs e/\Q e)) (hes:∀e,∀y∈es e,y.leaves.length=kk) (hk:0<kk) :
  W3 P f as1 h0 (fun r h=>∃(e:E) (v:Value),r=.sl (es e) (some v)/\h=.tail v kk::hs e/\Q e):=by
 intro w G vs hv hh
 refine (H w G vs hv hh).mono ?_
 rintro e w' ⟨u,r,h',G',he,⟨x,v,rfl,rfl,hq⟩,hr,hh',hx⟩
 obtain ⟨G2,h1,h2,h3⟩:=Bf hh' (hes x) hk
 have hrv:=hr.val_inv
 subst hrv
 exact ⟨_,_,_,G2,he,⟨x,v.v,rfl,rfl,hq⟩,h3,h1,hx.trans h2⟩
theorem D8 {es:List AV} {sz k:Nat} {y:AV} (h:∀x∈es,x.leaves.length=sz) (hy:y.leaves.length=sz) (hk:k<es.length):(Zc es).take (k*sz)++y.leaves++(Zc es).drop (k*sz+y.leaves.length)=Zc (es.set k y):=by
 obtain ⟨x,hx⟩:=AZ (xs:=es) (j:=k) hk
 have hxl:=h x (ZW hx)
 have e1:es=es.take k++(x::es.drop (k+1)):=by rw [<-Yo hx,Uo]
 have e2:es.set k y=es.take k++(y::es.drop (k+1)):=by rw [CA,Zw hk]
 have hl:(Zc (es.take k)).length=k*sz:=by rw [Ur (k:=sz) _ (fun z hz=>h z (Ts hz)),Wr,Vb om]
 have e3:Zc es=Zc (es.take k)++(x.leaves++Zc (es.drop (k+1))):=by
  conv=>lhs;rw [e1,Tc]
  simp [Zc]
 rw [e2,Tc,e3,Gd hl (by rw [hxl,hy])]
 simp [Zc]
theorem PD (ds:List Zd) (k:Nat) (d:Zd):X0 (ds.set k d)=(X0 ds).set k (By d):=by simp [X0,List.map_set]
theorem A5 (xs:List Zd):(Zc (X0 xs)).length=xs.length*3:=by rw [Ur (k:=3) _ (KE xs)];simp
theorem D4 {ds:List Zd} {k:Nat} (d:Zd) (hk:k<ds.length):(Zc (X0 ds)).take (k*3)++FE d++(Zc (X0 ds)).drop (k*3+3)=Zc (X0 (ds.set k d)):=by
 rw [PD];exact D8 (y:=By d) (KE ds) rfl (by simpa using hk)
theorem F7 (xs ys:List Zd):Zc (X0 xs)++Zc (X0 ys)=Zc (X0 (xs++ys)):=by rw [PC,Tc]
section
variable {P:Program} {n:Nat} {ops:Array Oper} {B:Fr->List Res->Prop} {k:Nat} {F:Fr} {h:List Res}
theorem Dg (j m:Nat) {v:Hd} {kk:Nat} {ls:List AV} (hm:ls.length=m*kk) (h0:0<m) (H:∀g c',v=⟨some ⟨g,0,none⟩,m,c'⟩->SI P n ops B k F h) (hk:0<kk:=by omega) (hj:h[j]? = some (rK v kk ls):=by kernel_rfl):SI P n ops B k F h:=by
 intro Q w G a hF hh hq
 obtain ⟨g,c',e⟩:=Mf (hh.ok _ (ZW hj)) hm hk h0
 exact H g c' e Q w G a hF hh hq
end
section
variable {P:Program} {n:Nat} {ops:Array Oper} {B:Fr->List Res->Prop} {k:Nat} {F:Fr} {h:List Res}
def EF (P:Program) (ops:Array Oper) (F:Fr) (k:Nat):Option (IntKind × Int):=
 match (ZB ops k).op with
 | .convert s d x=>match P.underlying s,P.underlying d,F.ev x with
  | some (.int _),some (.int q),.val (.int _ z)=>some (q,z)
  | _,_,_=>none
 | _=>none
theorem kCv (q:IntKind) (z z':Int) (e:q.wrap z=z') (hc:EF P ops F k=some (q,z):=by kernel_rfl):XP P (ZB ops k) F h [] (.val (.int q z')):=by
 unfold EF at hc
 generalize hoo:ZB ops k=o at hc
 obtain ⟨dst,op,type,pos,after,guard⟩:=o
 cases op<;>simp only at hc<;>try (cases hc)
 rename_i s d x
 split at hc
 ·rename_i q1 q2 q3 z2 h1 h2 h3
  cases hc
  intro n w G ac hF hh
  have v1:=hF.ev x
  rw [h3] at v1
  have v1:=v1.val_inv
  refine ⟨_,.val,fun w' _ _=>?_⟩
  simp only [execOp,v1]
  refine WY ?_
  simp [convert,VJ h1,VJ h2,Conv.intToInt,e]
 ·cases hc
theorem GS {z:Int} (h:0<=z/\z<=9223372036854775807):IntKind.i64.wrap z=z:=IntWalk.i64_in _ om
theorem B5 (z:Int) (hz:0<=z/\z<=255) (hc:EF P ops F k=some (.i64,z):=by kernel_rfl):XP P (ZB ops k) F h [] (.i z):=kCv .i64 z z (GS om) hc
def Ji (ops:Array Oper) (F:Fr) (k:Nat) (b:BinOp):Option (Int × Int):=
 match (ZB ops k).op with
 | .binOp c _ x y _=>if c==b then match F.ev x,F.ev y with
  | .val (.int .i64 z),.val (.int .i64 u)=>some (z,u)
  | _,_=>none else none
 | _=>none
theorem Fz (a b:Int) (hb:0<b) (ha:0<=a/\a<=9223372036854775807) (hc:Ji ops F k .quo=some (a,b):=by kernel_rfl):XP P (ZB ops k) F h [] (.i (a / b)):=by
 unfold Ji at hc
 generalize hoo:ZB ops k=o at hc
 obtain ⟨dst,op,type,pos,after,guard⟩:=o
 cases op<;>simp only at hc<;>try (cases hc)
 rename_i bop t x y yt
 cases bop<;>simp only [Zz,reduceCtorEq,if_false,if_true] at hc<;>try (cases hc)
 split at hc
 ·rename_i z yk h1 h2
  cases hc
  intro n' w G ac hF hh
  have v1:=hF.ev x
  have v2:=hF.ev y
  rw [h1] at v1
  rw [h2] at v2
  have v1:=v1.val_inv
  have v2:=v2.val_inv
  refine ⟨_,.val,fun w' _ _=>?_⟩
  simp only [execOp,v1,v2]
  refine WY ?_
  have e1:a.tdiv b=a / b:=Int.tdiv_eq_ediv_of_nonneg ha.1
  have e2:IntKind.i64.wrap (a / b)=a / b:=GS ⟨Int.ediv_nonneg ha.1 om,Int.le_trans (Int.ediv_le_self b ha.1) ha.2⟩
  have e3:b≠0:=by omega
  simp [eqGuard,binOp,Op.intDiv,e1,e2,e3]
 ·cases hc
theorem BY (a b:Int) (hb:0<b) (ha:0<=a) (hc:Ji ops F k .rem=some (a,b):=by kernel_rfl):XP P (ZB ops k) F h [] (.i (a % b)):=by
 unfold Ji at hc
 generalize hoo:ZB ops k=o at hc
 obtain ⟨dst,op,type,pos,after,guard⟩:=o
 cases op<;>simp only at hc<;>try (cases hc)
 rename_i bop t x y yt
 cases bop<;>simp only [Zz,reduceCtorEq,if_false,if_true] at hc<;>try (cases hc)
 split at hc
 ·rename_i z yk h1 h2
  cases hc
  intro n' w G ac hF hh
  have v1:=hF.ev x
  have v2:=hF.ev y
  rw [h1] at v1
  rw [h2] at v2
  have v1:=v1.val_inv
  have v2:=v2.val_inv
  refine ⟨_,.val,fun w' _ _=>?_⟩
  simp only [execOp,v1,v2]
  refine WY ?_
  have e1:a.tmod b=a % b:=Int.tmod_eq_emod_of_nonneg ha
  have e3:b≠0:=by omega
  simp [eqGuard,binOp,Op.intDiv,e1,e3]
 ·cases hc
theorem Af (a b:Nat) (hb:0<b) (ha:a<=9223372036854775807) (hc:Ji ops F k .quo=some ((a:Int),(b:Int)):=by kernel_rfl):XP P (ZB ops k) F h [] (.i (a / b:Nat)):=by
 rw [Int.natCast_ediv];exact Fz a b om om hc
theorem Dm (a b:Nat) (hb:0<b) (_ha:a<=9223372036854775807) (hc:Ji ops F k .rem=some ((a:Int),(b:Int)):=by kernel_rfl):XP P (ZB ops k) F h [] (.i (a % b:Nat)):=by
 rw [Int.natCast_emod];exact BY a b om om hc
def J6 (a b:Int):Int:=IntKind.i64.wrap ((BitVec.ofInt 64 a ^^^ BitVec.ofInt 64 b).toNat:Int)
theorem E9 {a b:Int} (ha:0<=a/\a<4611686018427387904) (hb:0<=b/\b<4611686018427387904):0<=J6 a b/\J6 a b<4611686018427387904:=by
 obtain ⟨x,rfl⟩:=Int.eq_ofNat_of_zero_le ha.1
 obtain ⟨y,rfl⟩:=Int.eq_ofNat_of_zero_le hb.1
 have h1:(BitVec.ofInt 64 (x:Int) ^^^ BitVec.ofInt 64 (y:Int)).toNat=x ^^^ y:=by
  rw [BitVec.toNat_xor,BitVec.toNat_ofInt,BitVec.toNat_ofInt]
  have e1:((x:Int) % ((2 ^ 64:Nat):Int)).toNat=x:=by omega
  have e2:((y:Int) % ((2 ^ 64:Nat):Int)).toNat=y:=by omega
  rw [e1,e2]
 have h2:x ^^^ y<2 ^ 62:=Nat.xor_lt_two_pow om om
 rw [J6,h1,GS om]
 omega
theorem IQ (a b:Int) (hc:Ji ops F k .xor=some (a,b):=by kernel_rfl):XP P (ZB ops k) F h [] (.i (J6 a b)):=by
 unfold Ji at hc
 generalize hoo:ZB ops k=o at hc
 obtain ⟨dst,op,type,pos,after,guard⟩:=o
 cases op<;>simp only at hc<;>try (cases hc)
 rename_i bop t x y yt
 cases bop<;>simp only [Zz,reduceCtorEq,if_false,if_true] at hc<;>try (cases hc)
 split at hc
 ·rename_i z yk h1 h2
  cases hc
  intro n' w G ac hF hh
  have v1:=hF.ev x
  have v2:=hF.ev y
  rw [h1] at v1
  rw [h2] at v2
  have v1:=v1.val_inv
  have v2:=v2.val_inv
  refine ⟨_,.val,fun w' _ _=>?_⟩
  simp only [execOp,v1,v2]
  refine WY ?_
  simp [eqGuard,binOp,Op.intBits,IntKind.bits]
  exact Ys (fun z:Nat=>IntKind.i64.wrap (z:Int)) (by rw [BitVec.toNat_xor,BitVec.toNat_ofInt,BitVec.toNat_ofInt];rfl)
 ·cases hc
end
end Go.Abs
section
namespace Go.Abs
inductive Z0 where
 | mk (op num:Int) (kids:List Z0)
namespace Z0
def op:Z0->Int|.mk a _ _=>a
def num:Z0->Int|.mk _ a _=>a
def kids:Z0->List Z0|.mk _ _ a=>a
end Z0
structure Func where
 params:LI
 result:Int
 body:Z0
structure XJ where
 decls:List Zd
 funcs:List Func
instance:Inhabited Z0:=⟨.mk 0 0 []⟩
mutual
def EU:Z0->AV
 | .mk op num kids=>.agg [.i op,.i num,.sl (Yb kids) none]
def Yb:List Z0->List AV
 | []=>[]
 | e::r=>EU e::Yb r
end
abbrev ZO (e:Z0):AV:=.agg [.i e.op,.i e.num,.sl (Yb e.kids) none]
abbrev YE (e:Z0):List AV:=[.i e.op,.i e.num,.sl (Yb e.kids) none]
abbrev Xb (xs:List Z0):AV:=.sl (Yb xs) none
abbrev Tj (xs:List Z0) (v:Value):AV:=.sl (Yb xs) (some v)
abbrev Bz (f:Func):AV:=.agg [Z6 f.params,.i f.result,.i f.body.op,.i f.body.num,Xb f.body.kids]
abbrev Dq (f:Func):List AV:=[Z6 f.params,.i f.result,.i f.body.op,.i f.body.num,Xb f.body.kids]
def X5 (xs:List Func):List AV:=xs.map Bz
abbrev Dy (xs:List Func):AV:=.sl (X5 xs) none
abbrev Kq (p:XJ):AV:=.agg [YM p.decls,Dy p.funcs]
abbrev FF (p:XJ):List AV:=[YM p.decls,Dy p.funcs]
abbrev El (z:Int):AV:=.val (.int .u8 z)
def Uz (xs:LI):List AV:=xs.map El
abbrev V7 (xs:LI):AV:=.sl (Uz xs) none
theorem PE (e:Z0):EU e=ZO e:=by cases e;rw [EU];rfl
theorem Xt:∀xs:List Z0,Yb xs=xs.map ZO
 | []=>by rw [Yb];rfl
 | s::ss=>by rw [Yb,Xt ss,PE];rfl
theorem AP {xs:List Z0} {j:Nat} {x:Z0} (h:xs[j]? = some x):(Yb xs)[j]? = some (ZO x):=by simp [Xt,h]
theorem CV {xs:List Func} {j:Nat} {x:Func} (h:xs[j]? = some x):(X5 xs)[j]? = some (Bz x):=by simp [X5,h]
theorem AO {xs:LI} {j:Nat} {x:Int} (h:xs[j]? = some x):(Uz xs)[j]? = some (El x):=by simp [Uz,h]
@[simp] theorem EV (xs:List Z0):(Yb xs).length=xs.length:=by simp [Xt]
@[simp] theorem AQ (xs:List Func):(X5 xs).length=xs.length:=by simp [X5]
@[simp] theorem Qg (xs:LI):(Uz xs).length=xs.length:=by simp [Uz]
theorem QY (xs ys:List Z0):Yb (xs++ys)=Yb xs++Yb ys:=by simp [Xt]
theorem PF (xs ys:List Func):X5 (xs++ys)=X5 xs++X5 ys:=by simp [X5]
theorem EQ (xs:LI) (n:Nat):(Uz xs).take n=Uz (xs.take n):=by simp [Uz]
theorem EP (xs:LI) (n:Nat):(Uz xs).drop n=Uz (xs.drop n):=by simp [Uz]
theorem U2 (xs:List Z0):∀y∈Yb xs,y.leaves.length=3:=by intro y hy;simp only [Xt,Wg] at hy;obtain ⟨x,_,rfl⟩:=hy;rfl
theorem CW (xs:List Func):∀y∈X5 xs,y.leaves.length=5:=by intro y hy;simp only [X5,Wg] at hy;obtain ⟨x,_,rfl⟩:=hy;rfl
theorem PA (xs:LI):∀y∈Uz xs,y.leaves.length=1:=by intro y hy;simp only [Uz,Wg] at hy;obtain ⟨x,_,rfl⟩:=hy;rfl
theorem QZ (xs:List Z0):(Zc (Yb xs)).all AV.one=true:=KI fun y hy=>by simp only [Xt,Wg] at hy;obtain ⟨x,_,rfl⟩:=hy;rfl
end Go.Abs
end
section
namespace Go.Abs
open Go.Proofs Go.Proofs.YtjmahledcmocoaaGreat
section
variable {H:Type} {enc:TypeId × Value->H} {w:World}
def GA (w:World):ZY:=fun b _=>b<w.heap.size
abbrev Tr (enc:TypeId × Value->H) (w:World) (n:Nat) (t:TypeId) (cs:List Value) (x:DataW H × List MemPlace):Prop:=DataW.trod enc Tryz.prog w 0 (fun _=>true) true n t cs=some x
theorem Lf {w:World} {a:Addr} {v:Value} (h:w.cell? a=some v):a.block<w.heap.size/\a.spot=none:=by
 unfold World.cell? at h
 split at h
 ·rename_i c e fr hb
  split at h
  ·cases h
  ·rename_i hs
   exact ⟨(Vs.1 hb).1,by simpa using hs⟩
 ·cases h
theorem Hk {α:Type} {c:α->Nat}:∀{xs:List α} {ds:List (DataW H)},xs.length=ds.length->(∀(i:Nat) a d,xs[i]? = some a->ds[i]? = some d->c a+1<=Rows.uptoBulk d)->(xs.map fun a=>c a+1).sum<=Rows.uptoBulkAll ds
 | [],[],_,_=>YQ _
 | a::r,d::ds,hl,h=>by
  have h0:=h 0 a d rfl rfl
  have h1:=Hk (c:=c) (xs:=r) (ds:=ds) (by simpa using hl) fun i a d ha hd=>h (i+1) a d (by simpa using ha) (by simpa using hd)
  rw [Uf,List.sum_cons,Rows.uptoBulkAll]
  omega
theorem M6 {α:Type} {f:α->AV} {G:ZY} {k b:Nat} (hf:∀x,(f x).leaves.length=k):∀{xs:List α} {o:Nat},(∀(i:Nat) a,xs[i]? = some a->XY w G b (o+i*k) (f a).leaves)->Wy w G k b o (xs.map f)
 | [],_,_=>.nil
 | x::r,o,h=>by
  refine .cons (hf x) (by have:=h 0 x rfl;simpa using this) (M6 hf fun i a ha=>?_)
  have:=h (i+1) a (by simpa using ha)
  rw [show o+(i+1)*k=o+k+i*k by rw [T6];omega] at this
  exact this
theorem Z2e {α:Type} [Inhabited α] {t e k:Nat} (ht:Tryz.prog.underlying t=some (.slice e)) (hk:Tryz.prog.cellsOf e=k) (h0:0<k) (f:α->AV) (hf:∀x,(f x).leaves.length=k) (c:α->Nat) (Q:α->Prop) {n:Nat} {cs:List Value} {x:DataW H × List MemPlace}
  (h:Tr enc w n t cs x) (el:∀m cs y,m<n->Tr enc w m e cs y->∃a:α,Yz w (GA w) (f a).leaves cs/\c a+1<=Rows.uptoBulk y.1/\Q a) :
  ∃(v:Value) (xs:List α),cs=[v]/\RV w (GA w) (.sl (xs.map f) none) v/\(xs.map fun a=>c a+1).sum+1<=Rows.uptoBulk x.1/\∀a∈xs,Q a:=by
 rcases DataW.trod_slice ht h with ⟨rfl,rfl⟩|⟨a,len,cap,elems,rest,m,rfl,rfl,rfl,_,hlc,_,hlen,hel,_,_⟩
 ·exact ⟨_,[],rfl,.nil (by simp),by simp [Rows.uptoBulk],by simp⟩
 ·rw [hk] at hel
  have hone:∀i,i<len->∃z:α,∃cs' y,w.cells? 0 (a.add (i*k)) k=some cs'/\elems[i]? = some y/\Yz w (GA w) (f z).leaves cs'/\c z+1<=Rows.uptoBulk y.1/\Q z:=by
   intro i hi
   have h1:=hel i hi
   rw [TM om] at h1
   obtain ⟨cs',h2,h3⟩:=Option.bind_eq_some_iff.1 h1
   obtain ⟨z,hz1,hz2,hz3⟩:=el m cs' _ om h3
   exact ⟨z,cs',_,h2,TM om,hz1,hz2,hz3⟩
  obtain ⟨V,hV⟩:=Go.Deep.choose_lt hone
  refine ⟨_,(List.range len).map V,rfl,?_,?_,?_⟩
  ·cases hl0:len with
   | zero=>exact .nil (by simp)
   | succ q=>
    have hsp:a.spot=none:=by
     obtain ⟨cs',y,g1,_⟩:=hV 0 om
     obtain ⟨_,g2,g3⟩:=World.cells?_some g1
     have g4:=g3 0 h0
     rw [TM om] at g4
     have g5:=(Lf g4).2
     simpa [Addr.add] using g5
    obtain ⟨b,o,sp⟩:=a
    simp only at hsp
    subst hsp
    rw [<-hl0]
    have hll:(((List.range len).map V).map f).length=len:=by simp
    have:=RV.sl (w:=w) (G:=GA w) (es:=((List.range len).map V).map f) (hv:=none) (b:=b) (o:=o) (k:=k) (cap:=cap) (by simp) (by rw [hll];exact hlc) (M6 hf fun i z hz=>by
     have hi:i<len:=by have:=(XA.1 hz).1;simpa using this
     have hz':V i=z:=by simpa [hi] using hz
     obtain ⟨cs',y,g1,_,g2,_⟩:=hV i hi
     rw [hz'] at g2
     obtain ⟨_,g3,g4⟩:=World.cells?_some g1
     refine XY.of_cells g2 fun j u hj=>?_
     have hjl:j<k:=by have:=(XA.1 hj).1;omega
     have g5:=(g4 j hjl).trans hj
     rw [Addr.add_lit,Addr.add_lit] at g5
     exact ⟨g5,(Lf g5).1⟩)
    rw [hll] at this
    exact this
  ·have:=Hk (c:=c) (xs:=(List.range len).map V) (ds:=elems.map (·.1)) (by simp [hlen]) fun i z d hz hd=>by
    have hi:i<len:=by have:=(XA.1 hz).1;simpa using this
    have hz':V i=z:=by simpa [hi] using hz
    obtain ⟨cs',y,_,g1,_,g2,_⟩:=hV i hi
    rw [QL,g1] at hd
    simp only [Bu,XQ] at hd
    rw [<-hd,<-hz']
    exact g2
   simp only [Rows.uptoBulk]
   omega
  ·intro z hz
   obtain ⟨i,hi,rfl⟩:=Wg.1 hz
   obtain ⟨_,_,_,_,_,_,g⟩:=hV i (List.mem_range.1 hi)
   exact g
theorem Z2c {n:Nat} {cs:List Value} {x:DataW H × List MemPlace} (h:Tr enc w n 5 cs x):∃z:Int,cs=[.int .u8 z]/\Rows.uptoBulk x.1=1/\0<=z/\z<=255:=by
 obtain ⟨z,rfl,rfl,hw⟩:=DataW.trod_int Tryz.underlying5 h
 refine ⟨z,rfl,rfl,?_⟩
 simpa [Lit.wf,IntKind.min,IntKind.max,IntKind.signed,IntKind.bits] using hw
theorem Z2d {n:Nat} {cs:List Value} {x:DataW H × List MemPlace} (h:Tr enc w n 22 cs x):∃(v:Value) (xs:LI),cs=[v]/\RV w (GA w) (V7 xs) v/\∀z∈xs,0<=z/\z<=255:=by
 obtain ⟨v,xs,h1,h2,h3,h4⟩:=Z2e Tryz.underlying22 (k:=1) kr om (fun z:Int=>El z) (fun _=>rfl) (fun _=>0) (fun z=>0<=z/\z<=255) h fun m cs y _ hy=>by
  obtain ⟨z,rfl,hb,hz⟩:=Z2c hy
  exact ⟨z,.cons .val .nil,Nat.le_of_eq hb.symm,hz⟩
 exact ⟨v,xs,h1,h2,h4⟩
end
end Go.Abs
end
namespace Go.Abs
structure Sg where
 params:LI
 result:Int
abbrev GZ (f:Sg):AV:=.agg [.sl (Z7 f.params) none,.i f.result,.i 0,.i 0,.sl [] none]
def Vl (fs:List Sg):List AV:=fs.map GZ
theorem EY {xs:List Sg} {j:Nat} {x:Sg} (h:xs[j]? = some x):(Vl xs)[j]? = some (GZ x):=by simp [Vl,h]
@[simp] theorem HI (xs:List Sg):(Vl xs).length=xs.length:=by simp [Vl]
theorem HH (xs:List Sg):∀y∈Vl xs,y.leaves.length=5:=by intro y hy;simp only [Vl,Wg] at hy;obtain ⟨x,_,rfl⟩:=hy;rfl
theorem PI (xs:List Sg):(Zc (Vl xs)).all AV.one=true:=KI fun y hy=>by simp only [Vl,Wg] at hy;obtain ⟨x,_,rfl⟩:=hy;rfl
mutual
def Z3.sz:Z3->Nat
 | .mk _ _ _ args kids=>1+args.length+YK kids
def Z4.sz:Z4->Nat
 | .mk steps _=>1+Y5 steps
def Y5:List Z3->Nat
 | []=>0
 | s::r=>s.sz+Y5 r
def YK:List Z4->Nat
 | []=>0
 | b::r=>b.sz+YK r
end
theorem Z3.sz_pos (s:Z3):1<=s.sz:=by cases s;rw [Z3.sz];omega
theorem Z4.sz_pos (b:Z4):1<=b.sz:=by cases b;rw [Z4.sz];omega
theorem QG (l:List Z3):l.length<=Y5 l:=by
 induction l with
 | nil=>simp
 | cons s r ih=>have:=s.sz_pos;simp only [YD,Y5];omega
theorem Ow (l:List Z4):l.length<=YK l:=by
 induction l with
 | nil=>simp
 | cons s r ih=>have:=s.sz_pos;simp only [YD,YK];omega
theorem Z4w {l:List Z3} {k:Nat} {s:Z3} (h:l[k]? = some s):s.sz<=Y5 l:=by
 induction l generalizing k with
 | nil=>simp at h
 | cons t r ih=>
  cases k with
  | zero=>simp at h;subst h;simp only [Y5];omega
  | succ k=>have:=ih (k:=k) (by simpa using h);simp only [Y5];omega
theorem Ov {l:List Z4} {k:Nat} {s:Z4} (h:l[k]? = some s):s.sz<=YK l:=by
 induction l generalizing k with
 | nil=>simp at h
 | cons t r ih=>
  cases k with
  | zero=>simp at h;subst h;simp only [YK];omega
  | succ k=>have:=ih (k:=k) (by simpa using h);simp only [YK];omega
theorem Z3.sz_eq (s:Z3):s.sz=1+s.args.length+YK s.kids:=by cases s;rw [Z3.sz];rfl
theorem Z4.sz_eq (b:Z4):b.sz=1+Y5 b.steps:=by cases b;rw [Z4.sz];rfl
theorem UZ {b:Z4} {k:Nat} {s:Z3} (h:b.steps[k]? = some s):s.sz<b.sz:=by have:=Z4w h;have:=b.sz_eq;omega
theorem VS {s:Z3} {k:Nat} {b:Z4} (h:s.kids[k]? = some b):b.sz<s.sz:=by have:=Ov h;have:=s.sz_eq;omega
theorem T9 (s:Z3):s.args.length<s.sz:=by have:=s.sz_eq;omega
theorem U8 (s:Z3):s.kids.length<s.sz:=by have:=s.sz_eq;have:=Ow s.kids;omega
theorem WS (b:Z4):b.steps.length<b.sz:=by have:=b.sz_eq;have:=QG b.steps;omega
structure JQ (ds:List Zd):Prop where
 len:ds.length<=4194304
 cons:∀d∈ds,d.cons.length<=4194304
 fields:∀d∈ds,∀c∈d.cons,c.fields.length<=4194304
theorem JQ.cons_at {ds:List Zd} (h:JQ ds) {k:Nat} {d:Zd} (hd:ds[k]? = some d):d.cons.length<=4194304:=h.cons d (ZW hd)
def AJ (m:Nat) (c:Y7):Bool:=decide (c.fields.length<=3)&&VY m c.fields
def JY (d:Zd):List Zd->Bool
 | []=>false
 | e::r=>if e.cons.length=0/\e.frm=d.frm/\e.to_=d.to_ then true else JY d r
def Qv (m:Nat):List Y7->Bool
 | []=>true
 | c::r=>if AJ m c=true then Qv m r else false
def KC (ds:List Zd) (d:Zd) (i:Nat):Bool:=
 if 0<d.cons.length then (if d.cons.length<=3/\d.frm=0/\d.to_=0 then Qv ds.length d.cons else false)
 else if JY d (ds.take i)=true then false else decide (0<=d.frm/\d.frm<=ds.length)&&decide (0<=d.to_/\d.to_<=ds.length)
def JX (ds:List Zd) (i:Nat):Bool:=(ds[i]?.map fun d=>KC ds d i).getD false
theorem HC {ds:List Zd} {i:Nat} {d:Zd} (h:ds[i]? = some d):JX ds i=KC ds d i:=by rw [JX,h];rfl
def QW (ds:List Zd):List Zd->Nat->Bool
 | [],_=>true
 | _::r,i=>if JX ds i=true then QW ds r (i+1) else false
def Q6 (ds:List Zd):Bool:=decide (ds.length<=4)&&QW ds ds 0
theorem P4 {m:Nat} {cs:List Y7}:Qv m cs=true↔∀c∈cs,AJ m c=true:=by
 induction cs with
 | nil=>simp [Qv]
 | cons c r ih=>
  rw [Qv]
  split
  ·rename_i h;simp [ih,h]
  ·rename_i h;simp [h]
theorem HD {ds:List Zd}:∀{l:List Zd} {i:Nat},QW ds l i=true↔∀j<l.length,JX ds (i+j)=true
 | [],i=>by simp [QW]
 | d::r,i=>by
  rw [QW]
  split
  ·rename_i h
   rw [HD (l:=r)]
   constructor
   ·intro hq j hj
    cases j with
    | zero=>exact h
    | succ j=>have:=hq j (by simpa using hj);rwa [show i+(j+1)=i+1+j by omega]
   ·intro hq j hj
    have:=hq (j+1) (by simpa using hj)
    rwa [show i+(j+1)=i+1+j by omega] at this
  ·rename_i h
   simp only [Bool.false_eq_true,false_iff]
   intro hq
   exact h (hq 0 (by simp))
theorem Z61 {ds:List Zd} (h:Q6 ds=true):Wh ds:=by
 simp only [Q6,Wn,decide_eq_true_eq] at h
 obtain ⟨h1,h2⟩:=h
 rw [HD] at h2
 have key:∀d∈ds,∃i,KC ds d i=true:=fun d hd=>by
  obtain ⟨i,hi⟩:=List.mem_iff_getElem?.1 hd
  have:=h2 i (XA.1 hi).1
  rw [Wv,HC hi] at this
  exact ⟨i,this⟩
 have hc:∀d∈ds,0<d.cons.length->d.cons.length<=3/\Qv ds.length d.cons=true:=fun d hd hp=>by
  obtain ⟨i,hi⟩:=key d hd
  rw [KC,Zw hp] at hi
  split at hi
  ·rename_i h;exact ⟨h.1,hi⟩
  ·cases hi
 refine ⟨h1,fun d hd=>?_,fun d hd c hc'=>?_⟩
 ·by_cases hp:0<d.cons.length
  ·exact (hc d hd hp).1
  ·omega
 ·have:=P4.1 (hc d hd (List.length_pos_of_mem hc')).2 c hc'
  simp only [AJ,Wn,decide_eq_true_eq] at this
  exact this.1
def Ap (m:Nat) (f:Sg):Bool:=decide (f.params.length<=3)&&(VY m f.params&&decide (0<=f.result/\f.result<=m))
def J2 (m:Nat):List Sg->Bool
 | []=>true
 | f::r=>if Ap m f=true then J2 m r else false
def HX:List Sg->Bool
 | []=>false
 | f::_=>decide (f.params.length=0)&&decide (f.result=0)
theorem PV {fs:List Sg} {x:Sg} (h:fs[0]? = some x):HX fs=(decide (x.params.length=0)&&decide (x.result=0)):=by
 cases fs with
 | nil=>simp at h
 | cons f r=>simp at h;subst h;rfl
def QJ (ds:List Zd) (fs:List Sg):Bool:=
 Q6 ds&&(decide (1<=fs.length/\fs.length<=4)&&(J2 ds.length fs&&HX fs))
def KU (ps:LI):LI->Option Int->Bool
 | [],_=>true
 | v::r,prev=>if (0<=v/\v<=(ps.length:Int)-1)/\ps[v.toNat]?≠some 0/\(∀p,prev=some p->p<v) then KU ps r (some v) else false
theorem Ld {ps r:LI} {v:Int} {prev:Option Int} (h:(0<=v/\v<=(ps.length:Int)-1)/\ps[v.toNat]?≠some 0/\(∀p,prev=some p->p<v)):KU ps (v::r) prev=KU ps r (some v):=by
 rw [KU,Zw h]
theorem FL {ps r:LI} {v:Int} {prev:Option Int} (h:¬((0<=v/\v<=(ps.length:Int)-1)/\ps[v.toNat]?≠some 0/\(∀p,prev=some p->p<v))):KU ps (v::r) prev=false:=by
 rw [KU,Zp h]
def Cr (ps ls:LI):Bool:=KU ps ls none
def Ah:List Y8->Bool
 | []=>true
 | r::rs=>if Cr r.params r.lent=true then Ah rs else false
def UH (r:Y8):Sg:=⟨r.params,r.result⟩
def K6 (n:Zx):Bool:=decide (n.routines.length<=4)&&(QJ n.decls (n.routines.map UH)&&Ah n.routines)
end Go.Abs
section
namespace Go.Abs
def Vt {α:Type} (xs:List α) (i:Int):Option α:=if 0<=i/\i<=(xs.length:Int)-1 then xs[i.toNat]? else none
theorem Jh {α:Type} {xs:List α} {i:Int} {x:α} (h:0<=i/\i<=(xs.length:Int)-1) (hx:xs[i.toNat]? = some x):Vt xs i=some x:=by rw [Vt,Zw h,hx]
theorem Ks {α:Type} {xs:List α} {i:Int} (h:¬(0<=i/\i<=(xs.length:Int)-1)):Vt xs i=none:=by rw [Vt,Zp h]
theorem AF {α:Type} {xs:List α} {i:Int} {x:α} (h:Vt xs i=some x):(0<=i/\i<=(xs.length:Int)-1)/\xs[i.toNat]? = some x:=by
 rw [Vt] at h
 split at h
 ·rename_i h1;exact ⟨h1,h⟩
 ·cases h
def Q4 (vars:LI):LI->LI->Bool
 | [],[]=>true
 | a::as1,t::ts=>if Vt vars a=some t then Q4 vars as1 ts else false
 | _,_=>false
def Wm (vars args types:LI):Bool:=Q4 vars args types
theorem Nh {vars:LI}:∀{args types:LI},args.length≠types.length->Q4 vars args types=false
 | [],[],h=>absurd rfl h
 | [],_::_,_=>rfl
 | _::_,[],_=>rfl
 | a::as1,t::ts,h=>by
  rw [Q4]
  split
  ·exact Nh (by simpa using h)
  ·rfl
theorem Z5j {vars args types:LI} {k:Nat} {a t:Int} (ha:args[k]? = some a) (ht:types[k]? = some t) (h:Vt vars a=some t) :
  Q4 vars (args.drop k) (types.drop k)=Q4 vars (args.drop (k+1)) (types.drop (k+1)):=by
 rw [Yo ha,Yo ht,Q4,Zw h]
theorem Ng {vars args types:LI} {k:Nat} {a t:Int} (ha:args[k]? = some a) (ht:types[k]? = some t) (h:Vt vars a≠some t) :
  Q4 vars (args.drop k) (types.drop k)=false:=by
 rw [Yo ha,Yo ht,Q4,Zp h]
theorem Z5i {vars args types:LI} {k:Nat} (ha:args.length<=k) (ht:types.length<=k):Q4 vars (args.drop k) (types.drop k)=true:=by
 rw [Xz ha,Xz ht];rfl
def UR (op:Int):Bool:=op==0||(op==6||(op==8||(op==9||op==10)))
def XF (op:Int):Bool:=decide (0<=op/\op<=11)
def YP (op:Int):Bool:=decide (14<=op/\op<=17)
def UJ (vars:LI) (op into:Int):Bool:=
 if into=0 then true else if op=6 then ((Vt vars (into-1)).map fun t=>decide (0<t)).getD false else false
def BA (ds:List Zd) (ps:LI) (res:Int):Int:=QP ds (ps.getLast?.getD 0) res
def JB (ds:List Zd) (vars:LI) (op:Int) (args:LI) (r:Y8):Int:=
 if op=9 then (if Wm vars args r.params=true then r.result else -1)
 else if r.params.length=0∨0<r.lent.length∨¬Wm vars args (r.params.take (r.params.length-1))=true then -1
 else BA ds r.params r.result
def Ka (n:Zx) (vars:LI) (op num:Int) (args:LI):Int:=
 match Vt n.routines num with
 | none=>-1
 | some r=>JB n.decls vars op args r
def Qe (ds:List Zd) (vars:LI) (op:Int) (args:LI):Int:=
 match args with
 | [a]=>match Vt vars a with
  | some t=>if t=0 then -1 else if (op≠14/\op≠15)/\WX ds t=true then -1 else 0
  | none=>-1
 | _=>-1
def Qb (ds:List Zd) (vars:LI) (args:LI):Int:=
 match args with
 | [a,b]=>match Vt vars a with
  | some t=>if WX ds t=true then
    (match ds[(t-1).toNat]? with
     | some d=>if Wm vars [b] [d.frm]=true then d.to_ else -1
     | none=>-1) else -1
  | none=>-1
 | _=>-1
def XE (ds:List Zd) (op num:Int):List LI:=if op=7 then [[],[]] else (Y2 ds num).map (Y4 ds)
mutual
def YF (n:Zx) (vars:LI):Z3->Int
 | .mk op num into args kids=>
  if (num≠0/\¬UR op=true)∨¬UJ vars op into=true∨(0<kids.length/\op≠7/\op≠8) then -1
  else if op=0 then (if args.length=0/\(-999<=num/\num<=999) then 0 else -1)
  else if op=1∨op=2∨op=3∨op=4 then (if Wm vars args [0,0]=true then 0 else -1)
  else if op=5 then (if Wm vars args [0]=true then 0 else -1)
  else if op=6 then (if 0<Ve n.decls num/\Wm vars args (Y4 n.decls num)=true then Ve n.decls num else -1)
  else if op=7 then (if Wm vars args [0]=true then (if (XE n.decls op num).length=0∨kids.length≠(XE n.decls op num).length then -1 else Th n vars kids (XE n.decls op num) true 0) else -1)
  else if op=8 then (if Wm vars args [num]=true then (if (XE n.decls op num).length=0∨kids.length≠(XE n.decls op num).length then -1 else Th n vars kids (XE n.decls op num) true 0) else -1)
  else if op=9∨op=10 then Ka n vars op num args
  else if op=11 then Qb n.decls vars args
  else if op=14∨op=15∨op=16∨op=17 then Qe n.decls vars op args
  else -1
def Th (n:Zx) (vars:LI):List Z4->List LI->Bool->Int->Int
 | [],_,_,t=>t
 | b::bs,more,first,t=>
  match more with
  | []=>-1
  | m::ms=>if XL n (vars++m) b<0∨(first=false/\XL n (vars++m) b≠t) then -1 else Th n vars bs ms false (XL n (vars++m) b)
def Vz (n:Zx):List Z3->LI->Option LI
 | [],vars=>some vars
 | s::r,vars=>if YF n vars s<0 then none else Vz n r (if XF s.op=true then vars++[YF n vars s] else vars)
def XL (n:Zx) (vars:LI):Z4->Int
 | .mk steps result=>match Vz n steps vars with
  | none=>-1
  | some vs=>(Vt vs result).getD (-1)
end
def QD (n:Zx) (vars:LI) (op num:Int) (kids:List Z4):Int:=
 if (XE n.decls op num).length=0∨kids.length≠(XE n.decls op num).length then -1 else Th n vars kids (XE n.decls op num) true 0
mutual
def Ju:Z3->Int->Int
 | .mk _ _ _ _ kids,left=>UX kids left
def W9:Z4->Int->Int
 | .mk steps _,left=>UC steps left
def UC:List Z3->Int->Int
 | [],left=>left
 | s::r,left=>if left<1 then -1 else if Ju s (left-1)<0 then -1 else UC r (Ju s (left-1))
def UX:List Z4->Int->Int
 | [],left=>left
 | b::r,left=>if W9 b left<0 then -1 else UX r (W9 b left)
end
def WF (b:Z4):Int:=if W9 b 600<0 then -1 else 600-W9 b 600
def J1 (n:Zx):List Y8->Bool
 | []=>true
 | r::rs=>if ¬WF r.body<0/\XL n r.params r.body=r.result then J1 n rs else false
def Q5 (n:Zx):Bool:=K6 n&&J1 n n.routines
theorem FK:(∀(s:Z3) (l:Int),0<=l->Ju s l<=l)/\(∀(b:Z4) (l:Int),0<=l->W9 b l<=l):=by
 have key:∀m:Nat,(∀s:Z3,s.sz<=m->∀l:Int,0<=l->Ju s l<=l)/\(∀b:Z4,b.sz<=m->∀l:Int,0<=l->W9 b l<=l):=by
  intro m
  induction m with
  | zero=>exact ⟨fun s h=>by have:=s.sz_pos;omega,fun s h=>by have:=s.sz_pos;omega⟩
  | succ m ih=>
   refine ⟨fun s hs l hl=>?_,fun b hb l hl=>?_⟩
   ·cases s with
    | mk op num into args kids=>
     rw [Ju]
     have hk:YK kids<=m:=by rw [Z3.sz] at hs;omega
     clear hs
     induction kids generalizing l with
     | nil=>rw [UX];exact Int.le_refl _
     | cons b r ihr=>
      rw [YK] at hk
      have:=ih.2 b om l hl
      rw [UX]
      split
      ·omega
      ·have:=ihr (W9 b l) om om;omega
   ·cases b with
    | mk steps res=>
     rw [W9]
     have hk:Y5 steps<=m:=by rw [Z4.sz] at hb;omega
     clear hb
     induction steps generalizing l with
     | nil=>rw [UC];exact Int.le_refl _
     | cons s r ihr=>
      rw [Y5] at hk
      rw [UC]
      split
      ·omega
      ·have:=ih.1 s om (l-1) om
       split
       ·omega
       ·have:=ihr (Ju s (l-1)) om om;omega
 exact ⟨fun s l hl=>(key s.sz).1 s (YQ _) l hl,fun b l hl=>(key b.sz).2 b (YQ _) l hl⟩
end Go.Abs
namespace Go.Abs
theorem Z4x {l:List Z3} {k:Nat} {s:Z3} (h:l[k]? = some s):k+s.sz<=Y5 l:=by
 induction l generalizing k with
 | nil=>simp at h
 | cons t r ih=>
  cases k with
  | zero=>simp at h;subst h;simp only [Y5];omega
  | succ k=>have:=ih (k:=k) (by simpa using h);have:=t.sz_pos;simp only [Y5];omega
theorem Bm {b:Z4} {k:Nat} {s:Z3} (h:b.steps[k]? = some s):k+s.sz<b.sz:=by have:=Z4x h;have:=b.sz_eq;omega
structure Xk (n:Zx):Prop where
 decls:Wh n.decls
 len:n.routines.length<=4
 params:∀r∈n.routines,r.params.length<=3
 lent:∀r∈n.routines,r.lent.length<=4194304
theorem Xk.params_at {n:Zx} (h:Xk n) {k:Nat} {r:Y8} (hr:n.routines[k]? = some r):r.params.length<=3:=h.params r (ZW hr)
theorem Xk.lent_at {n:Zx} (h:Xk n) {k:Nat} {r:Y8} (hr:n.routines[k]? = some r):r.lent.length<=4194304:=h.lent r (ZW hr)
theorem Oi {ds:List Zd} {num:Int} {k:Nat} {x:Int} (h:(Y2 ds num)[k]? = some x):(XE ds 8 num)[k]? = some (Y4 ds x):=by
 rw [XE,Zp om,QL,h];rfl
end Go.Abs
namespace Go.Abs
theorem Lq {ds:List Zd} (hd:Wh ds) (t:Int):(Y2 ds t).length<=3:=by
 rw [Y2]
 split
 ·rename_i h
  obtain ⟨d,hd1⟩:=AZ (xs:=ds) (j:=(t-1).toNat) om
  rw [hd1,Z1h]
  exact hd.cons_at hd1
 ·simp
theorem VD {ds:List Zd} (hd:Wh ds) (c:Int):(Y4 ds c).length<=3:=by
 by_cases h:Ve ds c<1
 ·rw [(Hu h).1];simp
 ·obtain ⟨k,d,x,h1,_,h3,_,h5⟩:=Hv h
  rw [h5];exact hd.fields_at h1 h3
theorem H5 {ds:List Zd} (hd:Wh ds) {op num:Int} {k:Nat} {m:LI} (h:(XE ds op num)[k]? = some m):m.length<=3:=by
 have hm:=ZW h
 rw [XE] at hm
 split at hm
 ·simp at hm;subst hm;simp
 ·obtain ⟨c,_,rfl⟩:=Wg.1 hm;exact VD hd c
theorem Qc {α:Type} {xs:List α} {x:α} (h:xs.length=1) (hx:xs[0]? = some x):xs=[x]:=by
 cases xs with
 | nil=>simp at h
 | cons a r=>
  cases r with
  | nil=>simp at hx;rw [hx]
  | cons b r=>simp at h
theorem AL {ds:List Zd} {us args:LI} {op:Int} (h:args.length≠1):Qe ds us op args=-1:=by
 cases args with
 | nil=>rfl
 | cons a r=>
  cases r with
  | nil=>simp at h
  | cons b r=>rfl
theorem AM {ds:List Zd} {us args:LI} {op a:Int} (h:args=[a]) (hi:¬(0<=a/\a<=(us.length:Int)-1)):Qe ds us op args=-1:=by
 subst h;rw [Qe];simp only [Ks hi]
theorem AK {ds:List Zd} {us args:LI} {op a t:Int} (h:args=[a]) (hi:0<=a/\a<=(us.length:Int)-1) (ht:us[a.toNat]? = some t) :
  Qe ds us op args=if t=0 then -1 else if (op≠14/\op≠15)/\WX ds t=true then -1 else 0:=by
 subst h;rw [Qe];simp only [Jh hi ht]
theorem Z2q {n:Zx} {us args:LI} {op num:Int} {r:Y8} (hi:0<=num/\num<=(n.routines.length:Int)-1) (hr:n.routines[num.toNat]? = some r) :
  Ka n us op num args=JB n.decls us op args r:=by
 rw [Ka];simp only [Jh hi hr]
theorem Z2r {n:Zx} {us args:LI} {op num:Int} (hi:¬(0<=num/\num<=(n.routines.length:Int)-1)):Ka n us op num args=-1:=by
 rw [Ka];simp only [Ks hi]
theorem So {xs:LI} {x:Int} (h:xs[xs.length-1]? = some x):xs.getLast?.getD 0=x:=by
 rw [List.getLast?_eq_getElem?,h];rfl
theorem Z0l {n:Zx} {us:LI} {bs:List Z4} {ms:List LI} {b:Z4} {m:LI} {k:Nat} {t:Int} (hb:bs[k]? = some b) (hm:ms[k]? = some m)
  (h:¬(XL n (us++m) b<0∨(k:Int)>0/\XL n (us++m) b≠t)) :
  Th n us (bs.drop k) (ms.drop k) (decide (k=0)) t=Th n us (bs.drop (k+1)) (ms.drop (k+1)) (decide (k+1=0)) (XL n (us++m) b):=by
 rw [Yo hb,Yo hm,Th,Zp]
 ·simp
 ·rintro (q|⟨q1,q2⟩)
  ·exact h (.inl q)
  ·exact h (.inr ⟨by simp at q1;omega,q2⟩)
theorem Z0j {n:Zx} {us:LI} {bs:List Z4} {ms:List LI} {b:Z4} {m:LI} {k:Nat} {t:Int} (hb:bs[k]? = some b) (hm:ms[k]? = some m)
  (h:XL n (us++m) b<0∨(k:Int)>0/\XL n (us++m) b≠t) :
  Th n us (bs.drop k) (ms.drop k) (decide (k=0)) t=-1:=by
 rw [Yo hb,Yo hm,Th,Zw]
 rcases h with q|⟨q1,q2⟩
 ·exact .inl q
 ·exact .inr ⟨by simp;omega,q2⟩
theorem Z0k {n:Zx} {us:LI} {bs:List Z4} {ms:List LI} {k:Nat} {f:Bool} {t:Int} (hb:bs.length<=k):Th n us (bs.drop k) (ms.drop k) f t=t:=by
 rw [Xz hb,Th]
end Go.Abs
end
namespace Go.Abs
theorem Gx (n:Zx) (us:LI) (s:Z3):YF n us s =
  if (s.num≠0/\¬UR s.op=true)∨¬UJ us s.op s.into=true∨(0<s.kids.length/\s.op≠7/\s.op≠8) then -1
  else if s.op=0 then (if s.args.length=0/\(-999<=s.num/\s.num<=999) then 0 else -1)
  else if s.op=1∨s.op=2∨s.op=3∨s.op=4 then (if Wm us s.args [0,0]=true then 0 else -1)
  else if s.op=5 then (if Wm us s.args [0]=true then 0 else -1)
  else if s.op=6 then (if 0<Ve n.decls s.num/\Wm us s.args (Y4 n.decls s.num)=true then Ve n.decls s.num else -1)
  else if s.op=7 then (if Wm us s.args [0]=true then QD n us s.op s.num s.kids else -1)
  else if s.op=8 then (if Wm us s.args [s.num]=true then QD n us s.op s.num s.kids else -1)
  else if s.op=9∨s.op=10 then Ka n us s.op s.num s.args
  else if s.op=11 then Qb n.decls us s.args
  else if s.op=14∨s.op=15∨s.op=16∨s.op=17 then Qe n.decls us s.op s.args
  else -1:=by
 cases s with
 | mk op num into args kids=>rw [YF];rfl
theorem Ex (n:Zx) (us:LI) (b:Z4):XL n us b=match Vz n b.steps us with
  | none=>-1
  | some vs=>(Vt vs b.result).getD (-1):=by
 cases b with
 | mk st r=>rw [XL];rfl
theorem H4 {α:Type} {xs:List α} {x:α} (h:xs.length=2) (hx:xs[0]? = some x):∃y,xs=[x,y]:=by
 match xs,h with
 | [a,b],_=>simp at hx;subst hx;exact ⟨b,rfl⟩
theorem VO {ds:List Zd} {us args:LI} (h:args.length≠2):Qb ds us args=-1:=by
 match args,h with
 | [],_=>rfl
 | [_],_=>rfl
 | [_,_],h=>simp at h
 | _::_::_::_,_=>rfl
theorem VP {ds:List Zd} {us args:LI} {a:Int} (hl:args.length=2) (h:args[0]? = some a) (hi:¬(0<=a/\a<=(us.length:Int)-1)):Qb ds us args=-1:=by
 obtain ⟨y,rfl⟩:=H4 hl h;rw [Qb];simp only [Ks hi]
theorem VC {ds:List Zd} {us args:LI} {a t:Int} (hl:args.length=2) (h:args[0]? = some a) (hi:0<=a/\a<=(us.length:Int)-1) (ht:us[a.toNat]? = some t) :
  Qb ds us args=if WX ds t=true then
    (match ds[(t-1).toNat]? with
     | some d=>if Wm us (args.drop 1) [d.frm]=true then d.to_ else -1
     | none=>-1) else -1:=by
 obtain ⟨y,rfl⟩:=H4 hl h;rw [Qb];simp only [Jh hi ht];rfl
theorem Oc {ds:List Zd} {us args:LI} {a t:Int} {d:Zd} (hl:args.length=2) (h:args[0]? = some a) (hi:0<=a/\a<=(us.length:Int)-1) (ht:us[a.toNat]? = some t)
  (hA:WX ds t=true) (hd:ds[(t-1).toNat]? = some d):Qb ds us args=if Wm us (args.drop 1) [d.frm]=true then d.to_ else -1:=by
 rw [VC hl h hi ht,Zw hA];simp only [hd]
theorem Fu {ds:List Zd} {t:Int} (h:WX ds t=true):1<=t/\t<=ds.length:=by
 simp only [WX,Wn,decide_eq_true_eq] at h;exact h.1
theorem Lb (b:Z4) (l:Int):W9 b l=UC b.steps l:=by cases b;rw [W9];rfl
theorem Du (s:Z3) (l:Int):Ju s l=UX s.kids l:=by cases s;rw [Ju];rfl
structure Jc (n:Zx):Prop where
 decls:JQ n.decls
 len:n.routines.length<=4194304
 params:∀r∈n.routines,r.params.length<=4194304
 lent:∀r∈n.routines,r.lent.length<=4194304
 body:∀r∈n.routines,r.body.sz<=10000000
theorem MB {m:Nat} {fs:List Sg} (h:J2 m fs=true):∀f∈fs,Ap m f=true:=by
 induction fs with
 | nil=>simp
 | cons f r ih=>
  rw [J2] at h
  split at h
  ·rename_i h1
   intro g hg
   rcases Yr.1 hg with rfl|hg
   ·exact h1
   ·exact ih h g hg
  ·cases h
theorem Ll {n:Zx} (hz:Jc n) (h:K6 n=true):Xk n:=by
 simp only [K6,QJ,Wn,decide_eq_true_eq] at h
 obtain ⟨h1,⟨h2,h3,h4,h5⟩,h6⟩:=h
 refine ⟨Z61 h2,h1,fun r hr=>?_,hz.lent⟩
 have:=MB h4 (UH r) (Wg.2 ⟨r,hr,rfl⟩)
 simp only [Ap,Wn,decide_eq_true_eq] at this
 exact this.1
def gI (xs:LI) (i:Int):Int:=xs[i.toNat]?.getD 0
theorem UN {xs:LI} {i:Int} {x:Int} (h:xs[i.toNat]? = some x):gI xs i=x:=by rw [gI,h];rfl
structure Zy where
 vars:LI
 own:LI
 par:LI
 con:LI
 fst:LI
 tok:LI
def Zy.grow (L:Zy) (t own par:Int):Zy:=⟨L.vars++[t],L.own++[own],L.par++[par],L.con++[-1],L.fst++[-1],L.tok++[-1]⟩
def UI (L:Zy) (v:Int):Option Zy:=if gI L.own v<1 then none else some { L with own:=L.own.set v.toNat (gI L.own v-1) }
def Tv (own par ln:LI):Nat->Int->Bool
 | 0,_=>false
 | k+1,v=>if gI own v<1/\¬v∈ln then (if gI par v<0 then false else Tv own par ln k (gI par v)) else true
def VX (L:Zy) (ln:LI) (v:Int):Bool:=Tv L.own L.par ln (v.toNat+1) v
def T8:LI->Int->LI->LI
 | own,_,[]=>own
 | own,p,f::r=>T8 (if f≠0 then own.set p.toNat (gI own p+1) else own) (p+1) r
def K8 (ds:List Zd) (L:Zy) (op x:Int):Option Zy:=
 if gI L.con x<0∨(op=17/\0<=gI L.tok x) then none
 else match UI L x with
  | none=>none
  | some L1=>some { L1 with
    own:=T8 L1.own (gI L.fst x) (Y4 ds (gI L.con x))
    tok:=if op=17 then L.tok.set x.toNat (Y4 ds (gI L.con x)).length else L.tok }
def QT (op:Int):Bool:=op==6||(op==9||(op==10||op==11))
def Dv (n:Zx) (op num:Int):LI:=if op=9 then ((n.routines[num.toNat]?).map (·.lent)).getD [] else []
def VT (n:Zx) (op num:Int) (i:Nat):Bool:=decide ((i:Int)∈Dv n op num)
def Qu (n:Zx) (vars:LI) (op num a:Int) (i:Nat):Bool:=QT op&&(gI vars a != 0&&!VT n op num i)
def TT (n:Zx) (op num:Int):LI->Nat->Zy->Option Zy
 | [],_,L=>some L
 | a::r,i,L=>if Qu n L.vars op num a i=true then (match UI L a with
   | none=>none
   | some L1=>TT n op num r (i+1) L1) else TT n op num r (i+1) L
def Jq (n:Zx) (op num:Int) (ln:LI) (L:Zy):LI->Nat->Bool
 | [],_=>true
 | a::r,i=>if VT n op num i=true/\¬VX L ln a=true then false else Jq n op num ln L r (i+1)
def BQ (L:Zy) (into:Int) (m:Nat):Option Zy:=
 if 0<into then (if gI L.tok (into-1)≠m then none else some { L with tok:=L.tok.set (into-1).toNat (-1) }) else some L
def Qx (n:Zx) (ln:LI) (L:Zy) (op num into:Int) (args:LI):Option Zy:=
 match TT n op num args 0 L with
 | none=>none
 | some L1=>if Jq n op num ln L1 args 0=true then BQ L1 into args.length else none
def JJ:LI->LI->Bool
 | o::os,t::ts=>if o≠0∨0<=t then false else JJ os ts
 | _,_=>true
def Zy.take (L:Zy) (m:Nat):Zy:=⟨L.vars.take m,L.own.take m,L.par.take m,L.con.take m,L.fst.take m,L.tok.take m⟩
def QU (L:Zy) (m:Nat):Option Zy:=if JJ (L.own.drop m) (L.tok.drop m)=true then some (L.take m) else none
def A9 (L:Zy) (par:Int):LI->Zy
 | []=>L
 | t::r=>A9 (L.grow t 0 par) par r
def JU (ds:List Zd) (L:Zy) (x c:Int):Zy:=
 A9 { L with con:=L.con.set x.toNat c,fst:=L.fst.set x.toNat L.vars.length } x (Y4 ds c)
def Ut (ds:List Zd) (L:Zy) (op num:Int) (args:LI) (i:Nat):Zy:=
 if op=8 then JU ds L (gI args 0) (gI (Y2 ds num) i) else L
def KY (lent:LI):LI->Nat->Zy->Zy
 | [],_,L=>L
 | t::r,i,L=>KY lent r (i+1) (L.grow t (if t≠0/\¬(i:Int)∈lent then 1 else 0) (-1))
def Qn (r:Y8):Zy:=KY r.lent r.params 0 ⟨[],[],[],[],[],[]⟩
def JZ (L:Zy) (ln:LI) (v:Int):Option Zy:=if VX L ln v=true then some { L with own:=L.own.set v.toNat (gI L.own v+1) } else none
def QF (n:Zx) (ln:LI) (L:Zy) (op num into:Int) (args:LI) (ch:Option Zy):Option Zy:=
 if op=14 then JZ L ln (gI args 0)
 else if op=15 then UI L (gI args 0)
 else if op=16∨op=17 then K8 n.decls L op (gI args 0)
 else if op=7∨op=8 then (if op=8/\¬VX L ln (gI args 0)=true then none else ch)
 else Qx n ln L op num into args
def K1 (L:Zy) (op t:Int) (r:Option Zy):Option Zy:=
 match r with
 | none=>none
 | some L1=>if XF op=true then some (L1.grow t (if t≠0 then 1 else 0) (-1)) else some L1
def Ai (L:Zy) (first:Option Zy) (rest:Zy->Bool):Option Zy:=
 match first with
 | none=>none
 | some one=>if rest one=true then some { L with own:=one.own,tok:=one.tok } else none
def DS (one:Zy) (two:Option Zy) (rest:Bool):Bool:=
 match two with
 | none=>false
 | some two=>if one.own=two.own/\one.tok=two.tok then rest else false
def Cm (r:Option Zy) (f:Zy->Option Zy):Option Zy:=match r with|none=>none|some L=>f L
def K0 (m:Nat) (res:Int) (L:Zy):Option Zy:=Cm (if gI L.vars res≠0 then UI L res else some L) fun L2=>QU L2 m
mutual
def To (n:Zx) (ln:LI) (L:Zy):Z3->Option Zy
 | .mk op num into args kids=>K1 L op (YF n L.vars (.mk op num into args kids)) (QF n ln L op num into args (Qk n ln L op num args kids))
def Qk (n:Zx) (ln:LI) (L:Zy) (op num:Int) (args:LI):List Z4->Option Zy
 | []=>none
 | b::bs=>Ai L (Vd n ln (Ut n.decls L op num args 0) L.vars.length b) fun one=>QC n ln L op num args one bs 1
def QC (n:Zx) (ln:LI) (L:Zy) (op num:Int) (args:LI) (one:Zy):List Z4->Nat->Bool
 | [],_=>true
 | b::bs,i=>DS one (Vd n ln (Ut n.decls L op num args i) L.vars.length b) (QC n ln L op num args one bs (i+1))
def QH (n:Zx) (ln:LI) (L:Zy):List Z3->Option Zy
 | []=>some L
 | s::r=>Cm (To n ln L s) fun L1=>QH n ln L1 r
def Vd (n:Zx) (ln:LI) (L:Zy) (m:Nat):Z4->Option Zy
 | .mk steps result=>Cm (QH n ln L steps) (K0 m result)
end
theorem N1 (n:Zx) (ln:LI) (L:Zy) (s:Z3):To n ln L s=K1 L s.op (YF n L.vars s) (QF n ln L s.op s.num s.into s.args (Qk n ln L s.op s.num s.args s.kids)):=by
 cases s with
 | mk op num into args kids=>rw [To];rfl
theorem Ew (n:Zx) (ln:LI) (L:Zy) (m:Nat) (b:Z4):Vd n ln L m b=Cm (QH n ln L b.steps) (K0 m b.result):=by
 cases b with
 | mk st r=>rw [Vd];rfl
structure Uh (L:Zy):Prop where
 own:L.own.length=L.vars.length
 par:L.par.length=L.vars.length
 con:L.con.length=L.vars.length
 fst:L.fst.length=L.vars.length
 tok:L.tok.length=L.vars.length
structure Xn (ds:List Zd) (L:Zy) (q:Int):Prop where
 len:Uh L
 down:∀j:Int,0<=j->j<L.vars.length->gI L.par j<j
 arm:∀x:Int,0<=x->x<L.vars.length->0<=gI L.con x->0<=gI L.fst x/\gI L.fst x+(Y4 ds (gI L.con x)).length<=L.vars.length
 nn:∀x∈L.own,0<=x
 bd:∀x∈L.own,x<=q
end Go.Abs
section
namespace Go.Abs
end Go.Abs
namespace Go.Abs
theorem Z0z {n:Zx} {op num:Int} {r:Y8} (h:op=9) (hr:n.routines[num.toNat]? = some r):Dv n op num=r.lent:=by
 rw [Dv,Zw h,hr];rfl
end Go.Abs
namespace Go.Abs
theorem NY {own par ln:LI} {N:Int} (hd:∀j:Int,0<=j->j<N->gI par j<j):∀(k:Nat) (v:Int),0<=v->v<N->v.toNat+1<=k->Tv own par ln k v=Tv own par ln (v.toNat+1) v:=by
 intro k
 induction k using Nat.strongRecOn with
 | ind k ih=>
  intro v h0 hN hk
  cases k with
  | zero=>omega
  | succ k=>
   rw [Tv,Tv]
   split
   ·split
    ·rfl
    ·have hdv:=hd v h0 hN
     rw [ih k om (gI par v) om om om]
     rw [ih v.toNat om (gI par v) om om om]
   ·rfl
theorem O0 {own par ln:LI} {N j x1 x2:Int} {r:Bool} (h1:gI own j=x1) (h2:gI par j=x2) (hj:0<=j/\j<N) (hx:x1<1/\¬j∈ln) (h0:¬x2<0) (hd:∀i:Int,0<=i->i<N->gI par i<i)
  (h:Tv own par ln (j.toNat+1) j=r):Tv own par ln (x2.toNat+1) x2=r:=by
 rw [Tv,h1,h2,Zw hx,Zp h0] at h
 have hdv:=hd j hj.1 hj.2
 rw [<-h,NY hd j.toNat x2 om om om]
theorem NZ {own par ln:LI} {j x1 x2:Int} {r:Bool} (h1:gI own j=x1) (h2:gI par j=x2) (hx:x1<1/\¬j∈ln) (h0:x2<0) (h:Tv own par ln (j.toNat+1) j=r):false=r:=by
 rw [Tv,h1,h2,Zw hx,Zw h0] at h;exact h
theorem O1 {own par ln:LI} {j x1:Int} {r:Bool} (h1:gI own j=x1) (hx:¬(x1<1/\¬j∈ln)) (h:Tv own par ln (j.toNat+1) j=r):true=r:=by
 rw [Tv,h1,Zp hx] at h;exact h
end Go.Abs
namespace Go.Abs
theorem QI {L L':Zy} {v:Int} (h:UI L v=some L'):1<=gI L.own v/\L'.vars=L.vars/\L'.par=L.par/\L'.con=L.con/\L'.fst=L.fst/\L'.tok=L.tok/\L'.own=L.own.set v.toNat (gI L.own v-1):=by
 rw [UI] at h
 split at h
 ·cases h
 ·cases h;exact ⟨by omega,rfl,rfl,rfl,rfl,rfl,rfl⟩
theorem Fd {xs:LI} {v:Int} (h:gI xs v≠0):gI xs v∈xs:=by
 rw [gI] at h ⊢
 cases hx:xs[v.toNat]? with
 | none=>rw [hx] at h;exact absurd rfl h
 | some y=>exact ZW hx
theorem K5 {xs:LI} {i:Nat} {a x:Int} (h:x∈xs.set i a):x∈xs∨x=a:=List.mem_or_eq_of_mem_set h
theorem Xn.take {ds:List Zd} {L L':Zy} {q v:Int} (hk:Xn ds L q) (h:UI L v=some L'):Xn ds L' q:=by
 obtain ⟨t1,t2,t3,t4,t5,t6,t7⟩:=QI h
 obtain ⟨f1,f2,f3,f4,f5⟩:=hk.len
 have hm:=Fd (xs:=L.own) (v:=v) om
 refine ⟨⟨by rw [t7,t2,Uu];exact f1,by rw [t3,t2];exact f2,by rw [t4,t2];exact f3,by rw [t5,t2];exact f4,by rw [t6,t2];exact f5⟩,?_,?_,?_,?_⟩
 ·rw [t2,t3];exact hk.down
 ·rw [t2,t4,t5];exact hk.arm
 ·rw [t7];intro x hx
  rcases K5 hx with hx|rfl
  ·exact hk.nn x hx
  ·omega
 ·rw [t7];intro x hx
  rcases K5 hx with hx|rfl
  ·exact hk.bd x hx
  ·have:=hk.bd _ hm;omega
end Go.Abs
end
namespace Go.Abs
theorem GJ {us:LI}:∀{args tys:LI},Q4 us args tys=true->args.length=tys.length/\∀a∈args,0<=a/\a<us.length
 | [],[],_=>⟨rfl,by simp⟩
 | [],_::_,h=>by cases h
 | _::_,[],h=>by cases h
 | a::as1,t::ts,h=>by
  rw [Q4] at h
  split at h
  ·rename_i h1
   obtain ⟨q1,q2⟩:=GJ h
   refine ⟨by simp [q1],fun x hx=>?_⟩
   rcases Yr.1 hx with rfl|hx
   ·have:=(AF h1).1;omega
   ·exact q2 x hx
  ·cases h
theorem IZ {n:Zx} {us:LI}:∀{bs:List Z4} {ms:List LI} {f:Bool} {t:Int},0<=t->0<=Th n us bs ms f t ->
  ∀(i:Nat) (b:Z4) (m:LI),bs[i]? = some b->ms[i]? = some m->0<=XL n (us++m) b
 | [],_,_,_,_,_,i,b,m,hb,_=>by simp at hb
 | b::bs,[],_,_,_,h,_,_,_,_,hm=>by simp at hm
 | b::bs,m::ms,f,t,ht,h,i,c,l,hc,hl=>by
  rw [Th] at h
  split at h
  ·omega
  ·rename_i hq
   have h0:0<=XL n (us++m) b:=by
    rcases Int.lt_or_le (XL n (us++m) b) 0 with q|q
    ·exact absurd (.inl q) hq
    ·exact q
   cases i with
   | zero=>simp at hc hl;subst hc hl;exact h0
   | succ i=>exact IZ h0 h i c l (by simpa using hc) (by simpa using hl)
structure JR (n:Zx) (us:LI) (s:Z3):Prop where
 args:∀a∈s.args,0<=a/\a<us.length
 one:(s.op=7∨s.op=8∨(14<=s.op/\s.op<=17))->∃a,s.args=[a]
 num:s.op=9->0<=s.num/\s.num<n.routines.length
 into:s.into≠0->1<=s.into/\s.into<=us.length
 kids:(s.op=7∨s.op=8)->s.kids.length=(XE n.decls s.op s.num).length/\(XE n.decls s.op s.num).length≠0 /\
  ∀(i:Nat) (b:Z4) (m:LI),s.kids[i]? = some b->(XE n.decls s.op s.num)[i]? = some m->0<=XL n (us++m) b
theorem Z0i {n:Zx} {us:LI} {op num:Int} {kids:List Z4} (h:0<=QD n us op num kids) :
  kids.length=(XE n.decls op num).length/\(XE n.decls op num).length≠0/\∀(i:Nat) (b:Z4) (m:LI),kids[i]? = some b->(XE n.decls op num)[i]? = some m->0<=XL n (us++m) b:=by
 rw [QD] at h
 split at h
 ·omega
 ·rename_i hq
  exact ⟨by omega,by omega,IZ (Int.le_refl 0) h⟩
theorem Le {xs:LI} (h:xs.length=1):∃a,xs=[a]:=by
 match xs,h with
 | [a],_=>exact ⟨a,rfl⟩
theorem N3 {n:Zx} {us:LI} {s:Z3} (h:0<=YF n us s):JR n us s:=by
 rw [Gx] at h
 split at h
 ·omega
 rename_i h0
 have hinto:s.into≠0->1<=s.into/\s.into<=us.length:=by
  intro hi
  have hv:UJ us s.op s.into=true:=by
   cases q:UJ us s.op s.into with
   | true=>rfl
   | false=>exact absurd (.inr (.inl (by rw [q];simp))) h0
  rw [UJ,Zp hi] at hv
  split at hv
  ·cases ha:Vt us (s.into-1) with
   | none=>rw [ha] at hv;cases hv
   | some t=>have:=(AF ha).1;omega
  ·cases hv
 have mk:(∀a∈s.args,0<=a/\a<us.length)->((s.op=7∨s.op=8∨(14<=s.op/\s.op<=17))->∃a,s.args=[a])->(s.op=9->0<=s.num/\s.num<n.routines.length) ->
   ((s.op=7∨s.op=8)->0<=QD n us s.op s.num s.kids)->JR n us s:=fun a b c d=>⟨a,b,c,hinto,fun q=>Z0i (d q)⟩
 have ty:∀{tys},Wm us s.args tys=true->s.args.length=tys.length/\∀a∈s.args,0<=a/\a<us.length:=fun q=>GJ q
 split at h
 ·rename_i h1
  split at h
  ·rename_i h2
   exact mk (by rw [List.eq_nil_of_length_eq_zero h2.1];simp) om om om
  ·omega
 split at h
 ·split at h
  ·rename_i h1 h2;exact mk (ty h2).2 om om om
  ·omega
 split at h
 ·split at h
  ·rename_i h1 h2;exact mk (ty h2).2 om om om
  ·omega
 split at h
 ·split at h
  ·rename_i h1 h2;exact mk (ty h2.2).2 om om om
  ·omega
 split at h
 ·split at h
  ·rename_i h1 h2;exact mk (ty h2).2 (fun _=>Le (by simpa using (ty h2).1)) om (fun _=>h)
  ·omega
 split at h
 ·split at h
  ·rename_i h1 h2;exact mk (ty h2).2 (fun _=>Le (by simpa using (ty h2).1)) om (fun _=>h)
  ·omega
 split at h
 ·rename_i hop
  rw [Ka] at h
  cases hr:Vt n.routines s.num with
  | none=>rw [hr] at h;simp at h
  | some r=>
   rw [hr] at h
   simp only at h
   have hn:=(AF hr).1
   rw [JB] at h
   split at h
   ·split at h
    ·rename_i h2;exact mk (ty h2).2 om om om
    ·omega
   ·split at h
    ·omega
    ·rename_i h2
     have h3:Wm us s.args (r.params.take (r.params.length-1))=true:=by
      cases q:Wm us s.args (r.params.take (r.params.length-1)) with
      | true=>rfl
      | false=>exact absurd (.inr (.inr (by rw [q];simp))) h2
     exact mk (ty h3).2 om om om
 split at h
 ·rename_i hop
  rcases he:s.args with _|⟨a,_|⟨b,_|⟨c,r⟩⟩⟩
  ·rw [he,show Qb n.decls us []=-1 from rfl] at h;omega
  ·rw [he,show Qb n.decls us [a]=-1 from rfl] at h;omega
  ·rw [he,Qb] at h
   cases ha:Vt us a with
   | none=>rw [ha] at h;simp at h
   | some t=>
    rw [ha] at h
    simp only at h
    split at h
    ·cases hd:n.decls[(t-1).toNat]? with
     | none=>rw [hd] at h;simp at h
     | some d=>
      rw [hd] at h
      simp only at h
      split at h
      ·rename_i h3
       have h4:=(GJ h3).2 b (by simp)
       have h5:=(AF ha).1
       refine mk (fun x hx=>?_) om om om
       rw [he] at hx
       rcases Yr.1 hx with rfl|hx
       ·omega
       ·rw [Xp.1 hx];exact h4
      ·omega
    ·omega
  ·rw [he,show Qb n.decls us (a::b::c::r)=-1 from rfl] at h;omega
 split at h
 ·rename_i hop
  rcases he:s.args with _|⟨a,_|⟨b,r⟩⟩
  ·rw [he,show Qe n.decls us s.op []=-1 from rfl] at h;omega
  ·rw [he,Qe] at h
   cases ha:Vt us a with
   | none=>rw [ha] at h;simp at h
   | some t=>
    have h5:=(AF ha).1
    refine mk (fun x hx=>?_) (fun _=>⟨a,he⟩) om om
    rw [he] at hx
    rw [Xp.1 hx];omega
  ·rw [he,show Qe n.decls us s.op (a::b::r)=-1 from rfl] at h;omega
 ·omega
def TH (n:Zx) (us:LI) (s:Z3):LI:=if XF s.op=true then us++[YF n us s] else us
theorem HG {L L':Zy} {ln:LI} {v:Int} (h:JZ L ln v=some L'):L'.vars=L.vars/\L'.par=L.par/\L'.con=L.con/\L'.fst=L.fst/\L'.tok=L.tok/\L'.own=L.own.set v.toNat (gI L.own v+1):=by
 rw [JZ] at h
 split at h
 ·cases h;exact ⟨rfl,rfl,rfl,rfl,rfl,rfl⟩
 ·cases h
theorem Er:∀(fs:LI) (own:LI) (p:Int),(T8 own p fs).length=own.length
 | [],own,p=>rfl
 | f::r,own,p=>by rw [T8,Er r];split<;>simp
theorem Fc {xs:LI} {q v:Int} (h:∀x∈xs,x<=q) (hq:0<=q):gI xs v<=q:=by
 by_cases h0:gI xs v=0
 ·omega
 ·exact h _ (Fd h0)
theorem Fe {xs:LI} {v:Int} (h:∀x∈xs,0<=x):0<=gI xs v:=by
 by_cases h0:gI xs v=0
 ·omega
 ·exact h _ (Fd h0)
theorem Es:∀(fs:LI) (own:LI) (p:Int),(∀x∈own,0<=x)->∀x∈T8 own p fs,0<=x
 | [],own,p,h=>h
 | f::r,own,p,h=>by
  rw [T8]
  refine Es r _ _ fun x hx=>?_
  split at hx
  ·rcases K5 hx with hx|rfl
   ·exact h x hx
   ·have:=Fe (v:=p) h;omega
  ·exact h x hx
theorem Ep:∀(fs:LI) (own:LI) (p q:Int),0<=q->(∀x∈own,x<=q)->∀x∈T8 own p fs,x<=q+fs.length
 | [],own,p,q,hq,h=>by intro x hx;have:=h x hx;simp;omega
 | f::r,own,p,q,hq,h=>by
  intro x hx
  rw [T8] at hx
  have:=Ep r _ _ (q+1) om (fun y hy=>by
   split at hy
   ·rcases K5 hy with hy|rfl
    ·have:=h y hy;omega
    ·have:=Fc (v:=p) h hq;omega
   ·have:=h y hy;omega) x hx
  simp only [YD];omega
theorem LJ {ds:List Zd} {L L':Zy} {op v:Int} (h:K8 ds L op v=some L'):L'.vars=L.vars/\L'.par=L.par/\L'.con=L.con/\L'.fst=L.fst/\L'.tok.length=L.tok.length /\
  ∃L1,UI L v=some L1/\L'.own=T8 L1.own (gI L.fst v) (Y4 ds (gI L.con v)):=by
 rw [K8] at h
 split at h
 ·cases h
 ·cases ht:UI L v with
  | none=>rw [ht] at h;cases h
  | some L1=>
   rw [ht] at h
   simp only at h
   obtain ⟨t1,t2,t3,t4,t5,t6,t7⟩:=QI ht
   cases h
   refine ⟨t2,t3,t4,t5,?_,L1,rfl,rfl⟩
   split
   ·rw [Uu]
   ·rfl
theorem Fk {n:Zx} {op num:Int} {ds:List Zd} {q:Int}:∀{as1:LI} {i:Nat} {L L':Zy},Xn ds L q->TT n op num as1 i L=some L'->Xn ds L' q/\L'.vars=L.vars/\L'.par=L.par/\L'.con=L.con/\L'.fst=L.fst/\L'.tok=L.tok
 | [],i,L,L',hk,h=>by rw [TT] at h;cases h;exact ⟨hk,rfl,rfl,rfl,rfl,rfl⟩
 | a::r,i,L,L',hk,h=>by
  rw [TT] at h
  split at h
  ·cases ht:UI L a with
   | none=>rw [ht] at h;cases h
   | some L1=>
    rw [ht] at h
    obtain ⟨t1,t2,t3,t4,t5,t6,t7⟩:=QI ht
    obtain ⟨k1,k2,k3,k4,k5,k6⟩:=Fk (hk.take ht) h
    exact ⟨k1,k2.trans t2,k3.trans t3,k4.trans t4,k5.trans t5,k6.trans t6⟩
  ·exact Fk hk h
theorem Xn.le {ds:List Zd} {L:Zy} {q q':Int} (h:Xn ds L q) (hq:q<=q'):Xn ds L q':=⟨h.len,h.down,h.arm,h.nn,fun x hx=>Int.le_trans (h.bd x hx) hq⟩
theorem Xn.turn {ds:List Zd} {L L':Zy} {q q':Int} (hk:Xn ds L q) (h1:L'.vars=L.vars) (h2:L'.par=L.par) (h3:L'.con=L.con) (h4:L'.fst=L.fst) (h5:L'.tok.length=L.tok.length) (h6:L'.own.length=L.own.length)
  (h7:∀x∈L'.own,0<=x) (h8:∀x∈L'.own,x<=q'):Xn ds L' q':=by
 obtain ⟨f1,f2,f3,f4,f5⟩:=hk.len
 refine ⟨⟨by rw [h6,h1];exact f1,by rw [h2,h1];exact f2,by rw [h3,h1];exact f3,by rw [h4,h1];exact f4,by rw [h5,h1];exact f5⟩,?_,?_,h7,h8⟩
 ·rw [h1,h2];exact hk.down
 ·rw [h1,h3,h4];exact hk.arm
theorem AX {xs ys:LI} {j:Int} (h:j.toNat<xs.length):gI (xs++ys) j=gI xs j:=by
 rw [gI,gI,Cv h]
theorem I4 {xs:LI} {y:Int} {j:Int} (h:j.toNat=xs.length):gI (xs++[y]) j=y:=by
 rw [gI,h];simp
theorem Xn.grow {ds:List Zd} {L:Zy} {q t o p:Int} (hk:Xn ds L q) (hp:p<L.vars.length) (ho:0<=o/\o<=q):Xn ds (L.grow t o p) q:=by
 obtain ⟨f1,f2,f3,f4,f5⟩:=hk.len
 refine ⟨⟨by simp [Zy.grow,f1],by simp [Zy.grow,f2],by simp [Zy.grow,f3],by simp [Zy.grow,f4],by simp [Zy.grow,f5]⟩,?_,?_,?_,?_⟩
 ·intro j hj hl
  simp only [Zy.grow,Yk,Cx] at hl ⊢
  by_cases hlt:j<L.vars.length
  ·rw [AX om];exact hk.down j hj hlt
  ·rw [I4 om];omega
 ·intro x hx hl
  simp only [Zy.grow,Yk,Cx] at hl ⊢
  by_cases hlt:x<L.vars.length
  ·rw [AX om,AX om]
   intro hc
   have:=hk.arm x hx hlt hc
   exact ⟨this.1,by omega⟩
  ·rw [I4 om];omega
 ·intro x hx
  simp only [Zy.grow,YU,Xp] at hx
  rcases hx with hx|rfl
  ·exact hk.nn x hx
  ·exact ho.1
 ·intro x hx
  simp only [Zy.grow,YU,Xp] at hx
  rcases hx with hx|rfl
  ·exact hk.bd x hx
  ·exact ho.2
theorem I5 {xs:LI} {k:Nat} {a:Int} {j:Int} (h:xs.length<=j.toNat/\j.toNat<xs.length+k):gI (xs++List.replicate k a) j=a:=by
 rw [gI,Ec h.1,List.getElem?_replicate,Zw om];rfl
theorem I6 {xs:LI} {x j c:Int} (h:j.toNat=x.toNat) (hl:x.toNat<xs.length):gI (xs.set x.toNat c) j=c:=by
 rw [gI,h,List.getElem?_set_self hl];rfl
theorem I7 {xs:LI} {x j c:Int} (h:j.toNat≠x.toNat):gI (xs.set x.toNat c) j=gI xs j:=by
 rw [gI,gI,List.getElem?_set_ne (fun q=>h q.symm)]
theorem Is {p:Int}:∀(fs:LI) (L:Zy),A9 L p fs=⟨L.vars++fs,L.own++List.replicate fs.length 0,L.par++List.replicate fs.length p,L.con++List.replicate fs.length (-1),
  L.fst++List.replicate fs.length (-1),L.tok++List.replicate fs.length (-1)⟩
 | [],L=>by simp [A9]
 | t::r,L=>by rw [A9,Is r];simp [Zy.grow,NF]
theorem Og {ds:List Zd} {L:Zy} {q x c:Int} (hk:Xn ds L q) (hq:0<=q) (hx:0<=x/\x<L.vars.length):Xn ds (JU ds L x c) q/\(JU ds L x c).vars=L.vars++Y4 ds c:=by
 obtain ⟨f1,f2,f3,f4,f5⟩:=hk.len
 rw [JU,Is]
 refine ⟨⟨⟨by simp [f1],by simp [f2],by simp [f3],by simp [f4],by simp [f5]⟩,?_,?_,?_,?_⟩,rfl⟩
 ·intro j hj hl
  simp only [Yk] at hl ⊢
  by_cases hlt:j<L.vars.length
  ·rw [AX om];exact hk.down j hj hlt
  ·rw [I5 om];omega
 ·intro y hy hl
  simp only [Yk] at hl ⊢
  by_cases hlt:y<L.vars.length
  ·rw [AX (by simp;omega),AX (by simp;omega)]
   by_cases he:y.toNat=x.toNat
   ·rw [I6 he om,I6 he om]
    intro _
    exact ⟨by omega,by simp⟩
   ·rw [I7 he,I7 he]
    intro hc
    have:=hk.arm y hy hlt hc
    exact ⟨this.1,by omega⟩
  ·rw [I5 (by simp;omega)];omega
 ·intro y hy
  simp only [YU,List.mem_replicate] at hy
  rcases hy with hy|⟨_,rfl⟩
  ·exact hk.nn y hy
  ·exact Int.le_refl 0
 ·intro y hy
  simp only [YU,List.mem_replicate] at hy
  rcases hy with hy|⟨_,rfl⟩
  ·exact hk.bd y hy
  ·exact hq
theorem Do {n:Zx} {L:Zy} {q:Int} {s:Z3} {i:Nat} {m:LI} (hk:Xn n.decls L q) (hq:0<=q) (hf:JR n L.vars s) (hop:s.op=7∨s.op=8) (hm:(XE n.decls s.op s.num)[i]? = some m) :
  Xn n.decls (Ut n.decls L s.op s.num s.args i) q/\(Ut n.decls L s.op s.num s.args i).vars=L.vars++m:=by
 rw [Ut]
 split
 ·rename_i h8
  obtain ⟨a,ha⟩:=hf.one om
  have hb:=hf.args a (by rw [ha];simp)
  have hg:gI s.args 0=a:=by rw [ha];rfl
  rw [XE,Zp om,QL] at hm
  cases hc:(Y2 n.decls s.num)[i]? with
  | none=>rw [hc] at hm;cases hm
  | some c=>
   rw [hc] at hm
   cases hm
   have hgc:gI (Y2 n.decls s.num) (i:Int)=c:=by rw [gI];simp [hc]
   rw [hg,hgc]
   exact Og hk hq hb
 ·rename_i h8
  rw [XE,Zw om] at hm
  have:m=[]:=by
   match i,hm with
   | 0,hm=>simpa using hm.symm
   | 1,hm=>simpa using hm.symm
   | i+2,hm=>simp at hm
  subst this
  exact ⟨hk,by simp⟩
theorem N4 {n:Zx}:∀{l:List Z3} {us vs:LI},Vz n l us=some vs->us.length<=vs.length
 | [],us,vs,h=>by rw [Vz] at h;cases h;exact YQ _
 | s::r,us,vs,h=>by
  rw [Vz] at h
  split at h
  ·cases h
  ·have:=N4 h
   split at this
   ·simp only [Yk,Cx] at this;omega
   ·exact this
theorem It {n:Zx} {ln:LI} {L L':Zy} {op num into q:Int} {args:LI} {ds:List Zd} (hk:Xn ds L q) (h:Qx n ln L op num into args=some L'):Xn ds L' q/\L'.vars=L.vars:=by
 rw [Qx] at h
 cases ht:TT n op num args 0 L with
 | none=>rw [ht] at h;cases h
 | some L1=>
  rw [ht] at h
  simp only at h
  obtain ⟨k1,k2,k3,k4,k5,k6⟩:=Fk hk ht
  split at h
  ·rw [BQ] at h
   split at h
   ·split at h
    ·cases h
    ·cases h
     exact ⟨k1.turn rfl rfl rfl rfl (by simp) rfl k1.nn k1.bd,k2⟩
   ·cases h;exact ⟨k1,k2⟩
  ·cases h
theorem Pc {L L':Zy} {m:Nat} (h:QU L m=some L'):L'=L.take m/\JJ (L.own.drop m) (L.tok.drop m)=true:=by
 rw [QU] at h
 split at h
 ·rename_i hz;cases h;exact ⟨rfl,hz⟩
 ·cases h
theorem GI {r:Option Zy} {f:Zy->Option Zy} {L:Zy} (h:Cm r f=some L):∃L1,r=some L1/\f L1=some L:=by
 cases r with
 | none=>cases h
 | some L1=>exact ⟨L1,rfl,h⟩
theorem La (n:Zx) (hn:Xk n) (ln:LI):∀m:Nat,
  (∀(s:Z3) (L L':Zy) (q:Int),s.sz<=m->Xn n.decls L q->0<=q->0<=YF n L.vars s->To n ln L s=some L'->Xn n.decls L' (q+4*s.sz)/\L'.vars=TH n L.vars s) /\
  (∀(b:Z4) (L O:Zy) (q:Int) (k:Nat),b.sz<=m->Xn n.decls L q->0<=q->0<=XL n L.vars b->k<=L.vars.length->Vd n ln L k b=some O ->
   (O.own.length=k/\O.tok.length=k/\(∀x∈O.own,0<=x/\x<=q+4*b.sz))/\Uh O/\O.vars.length=k):=by
 intro m
 induction m with
 | zero=>exact ⟨fun s _ _ _ h=>by have:=s.sz_pos;omega,fun s _ _ _ _ h=>by have:=s.sz_pos;omega⟩
 | succ m ih=>
  have hs:∀(s:Z3) (L L':Zy) (q:Int),s.sz<=m+1->Xn n.decls L q->0<=q->0<=YF n L.vars s->To n ln L s=some L'->Xn n.decls L' (q+4*s.sz)/\L'.vars=TH n L.vars s:=by
   intro s L L' q X6 hk hq hty h
   have hp:=s.sz_pos
   have hf:=N3 hty
   obtain ⟨f1,f2,f3,f4,f5⟩:=hk.len
   rw [N1] at h
   unfold K1 at h
   cases hpk:QF n ln L s.op s.num s.into s.args (Qk n ln L s.op s.num s.args s.kids) with
   | none=>rw [hpk] at h;cases h
   | some L1=>
    rw [hpk] at h
    simp only at h
    have key:Xn n.decls L1 (q+4*s.sz)/\L1.vars=L.vars:=by
     rw [QF] at hpk
     split at hpk
     ·obtain ⟨d1,d2,d3,d4,d5,d6⟩:=HG hpk
      refine ⟨hk.turn d1 d2 d3 d4 (by rw [d5]) (by rw [d6,Uu]) ?_ ?_,d1⟩
      ·rw [d6];intro x hx
       rcases K5 hx with hx|rfl
       ·exact hk.nn x hx
       ·have:=Fe (v:=gI s.args 0) hk.nn;omega
      ·rw [d6];intro x hx
       rcases K5 hx with hx|rfl
       ·have:=hk.bd x hx;omega
       ·have:=Fc (v:=gI s.args 0) hk.bd hq;omega
     split at hpk
     ·exact ⟨(hk.take hpk).le om,(QI hpk).2.1⟩
     split at hpk
     ·rename_i hop
      obtain ⟨d1,d2,d3,d4,d5,Lt,ht,d6⟩:=LJ hpk
      have hkt:=hk.take ht
      have h3:=VD hn.decls (gI L.con (gI s.args 0))
      refine ⟨hk.turn d1 d2 d3 d4 d5 ?_ ?_ ?_,d1⟩
      ·rw [d6,Er,(QI ht).2.2.2.2.2.2,Uu]
      ·rw [d6];exact Es _ _ _ hkt.nn
      ·rw [d6];intro x hx
       have:=Ep _ _ _ q hq hkt.bd x hx;omega
     split at hpk
     ·rename_i hop
      split at hpk
      ·cases hpk
      ·cases hks:s.kids with
       | nil=>rw [hks,Qk] at hpk;cases hpk
       | cons b bs=>
        rw [hks,Qk] at hpk
        unfold Ai at hpk
        cases hb:Vd n ln (Ut n.decls L s.op s.num s.args 0) L.vars.length b with
        | none=>rw [hb] at hpk;cases hpk
        | some one=>
         rw [hb] at hpk
         simp only at hpk
         split at hpk
         ·cases hpk
          obtain ⟨q1,q2,q3⟩:=hf.kids hop
          have hks0:s.kids[0]? = some b:=by rw [hks];rfl
          obtain ⟨a0,ha0⟩:=AZ (xs:=XE n.decls s.op s.num) (j:=0) om
          obtain ⟨k1,k2⟩:=Do hk hq hf hop ha0
          have hbz:=VS hks0
          obtain ⟨⟨r1,r2,r3⟩,_⟩:=ih.2 b _ one q L.vars.length om k1 hq (by rw [k2];exact q3 0 b a0 hks0 ha0) (by rw [k2];simp) hb
          refine ⟨hk.turn rfl rfl rfl rfl (by simp only;omega) (by simp only;omega) (fun x hx=>(r3 x hx).1) (fun x hx=>?_),rfl⟩
          have:=(r3 x hx).2;omega
         ·cases hpk
     ·obtain ⟨k1,k2⟩:=It hk hpk
      exact ⟨k1.le om,k2⟩
    split at h
    ·rename_i hd
     cases h
     refine ⟨key.1.grow om ?_,by rw [TH,Zw hd];simp [Zy.grow,key.2]⟩
     split<;>omega
    ·rename_i hd
     cases h
     exact ⟨key.1,by rw [TH,Zp hd];exact key.2⟩
  refine ⟨hs,?_⟩
  intro b L O q k X6 hk hq hty hkl h
  have hsteps:∀(l:List Z3) (L L':Zy) (q:Int) (vs:LI),Y5 l<=m->Xn n.decls L q->0<=q->Vz n l L.vars=some vs->QH n ln L l=some L'->Xn n.decls L' (q+4*Y5 l)/\L'.vars=vs:=by
   intro l
   induction l with
   | nil=>intro L L' q vs _ hk _ h1 h2;rw [Vz] at h1;rw [QH] at h2;cases h1;cases h2;exact ⟨by simpa [Y5] using hk,rfl⟩
   | cons s r ihr=>
    intro L L' q vs hz hk hq h1 h2
    rw [Y5] at hz
    rw [QH] at h2
    obtain ⟨L1,e1,e2⟩:=GI h2
    rw [Vz] at h1
    split at h1
    ·cases h1
    ·rename_i h0
     obtain ⟨k1,k2⟩:=hs s L L1 q om hk hq om e1
     obtain ⟨k3,k4⟩:=ihr L1 L' (q+4*s.sz) vs om k1 om (by rw [k2];exact h1) e2
     exact ⟨k3.le (by rw [Y5];omega),k4⟩
  have hbz:=b.sz_eq
  rw [Ew] at h
  obtain ⟨L1,e1,e2⟩:=GI h
  rw [Ex] at hty
  cases hv:Vz n b.steps L.vars with
  | none=>rw [hv] at hty;simp at hty
  | some vs=>
   obtain ⟨k1,k2⟩:=hsteps b.steps L L1 q vs om hk hq hv e1
   have hlen:=N4 hv
   rw [K0] at e2
   obtain ⟨L2,e3,e4⟩:=GI e2
   have k3:Xn n.decls L2 (q+4*Y5 b.steps)/\L2.vars=L1.vars:=by
    split at e3
    ·exact ⟨k1.take e3,(QI e3).2.1⟩
    ·cases e3;exact ⟨k1,rfl⟩
   obtain ⟨rfl,_⟩:=Pc e4
   obtain ⟨g1,g2,g3,g4,g5⟩:=k3.1.len
   have hl2:L2.vars.length=vs.length:=by rw [k3.2,k2]
   refine ⟨⟨by simp [Zy.take];omega,by simp [Zy.take];omega,fun x hx=>?_⟩,⟨by simp [Zy.take];omega,by simp [Zy.take];omega,by simp [Zy.take];omega,by simp [Zy.take];omega,by simp [Zy.take];omega⟩,by simp [Zy.take];omega⟩
   have hx':x∈L2.own:=Ts hx
   have:=k3.1.nn x hx'
   have:=k3.1.bd x hx'
   omega
theorem N2 {n:Zx} (hn:Xk n) {ln:LI} {s:Z3} {L L':Zy} {q:Int} (hk:Xn n.decls L q) (hq:0<=q) (hty:0<=YF n L.vars s) (h:To n ln L s=some L'):Xn n.decls L' (q+4*s.sz)/\L'.vars=TH n L.vars s:=
 (La n hn ln s.sz).1 s L L' q (YQ _) hk hq hty h
theorem Hf {n:Zx} (hn:Xk n) {ln:LI} {b:Z4} {L O:Zy} {q:Int} {k:Nat} (hk:Xn n.decls L q) (hq:0<=q) (hty:0<=XL n L.vars b) (hkl:k<=L.vars.length) (h:Vd n ln L k b=some O) :
  O.own.length=k/\O.tok.length=k/\(∀x∈O.own,0<=x/\x<=q+4*b.sz):=
 ((La n hn ln b.sz).2 b L O q k (YQ _) hk hq hty hkl h).1
theorem Cd {n:Zx} (hn:Xk n) {ln:LI} {s:Z3} {L L1:Zy} {q:Int} (hk:Xn n.decls L q) (hq:0<=q) (hf:JR n L.vars s)
  (hpk:QF n ln L s.op s.num s.into s.args (Qk n ln L s.op s.num s.args s.kids)=some L1):Xn n.decls L1 (q+4*s.sz)/\L1.vars=L.vars:=by
 have hp:=s.sz_pos
 obtain ⟨f1,f2,f3,f4,f5⟩:=hk.len
 rw [QF] at hpk
 split at hpk
 ·obtain ⟨d1,d2,d3,d4,d5,d6⟩:=HG hpk
  refine ⟨hk.turn d1 d2 d3 d4 (by rw [d5]) (by rw [d6,Uu]) ?_ ?_,d1⟩
  ·rw [d6];intro x hx
   rcases K5 hx with hx|rfl
   ·exact hk.nn x hx
   ·have:=Fe (v:=gI s.args 0) hk.nn;omega
  ·rw [d6];intro x hx
   rcases K5 hx with hx|rfl
   ·have:=hk.bd x hx;omega
   ·have:=Fc (v:=gI s.args 0) hk.bd hq;omega
 split at hpk
 ·exact ⟨(hk.take hpk).le om,(QI hpk).2.1⟩
 split at hpk
 ·rename_i hop
  obtain ⟨d1,d2,d3,d4,d5,Lt,ht,d6⟩:=LJ hpk
  have hkt:=hk.take ht
  have h3:=VD hn.decls (gI L.con (gI s.args 0))
  refine ⟨hk.turn d1 d2 d3 d4 d5 ?_ ?_ ?_,d1⟩
  ·rw [d6,Er,(QI ht).2.2.2.2.2.2,Uu]
  ·rw [d6];exact Es _ _ _ hkt.nn
  ·rw [d6];intro x hx
   have:=Ep _ _ _ q hq hkt.bd x hx;omega
 split at hpk
 ·rename_i hop
  split at hpk
  ·cases hpk
  ·cases hks:s.kids with
   | nil=>rw [hks,Qk] at hpk;cases hpk
   | cons b bs=>
    rw [hks,Qk] at hpk
    unfold Ai at hpk
    cases hb:Vd n ln (Ut n.decls L s.op s.num s.args 0) L.vars.length b with
    | none=>rw [hb] at hpk;cases hpk
    | some one=>
     rw [hb] at hpk
     simp only at hpk
     split at hpk
     ·cases hpk
      obtain ⟨q1,q2,q3⟩:=hf.kids hop
      have hks0:s.kids[0]? = some b:=by rw [hks];rfl
      obtain ⟨a0,ha0⟩:=AZ (xs:=XE n.decls s.op s.num) (j:=0) om
      obtain ⟨k1,k2⟩:=Do hk hq hf hop ha0
      have hbz:=VS hks0
      obtain ⟨r1,r2,r3⟩:=Hf hn k1 hq (by rw [k2];exact q3 0 b a0 hks0 ha0) (by rw [k2];simp) hb
      refine ⟨hk.turn rfl rfl rfl rfl (by simp only;omega) (by simp only;omega) (fun x hx=>(r3 x hx).1) (fun x hx=>?_),rfl⟩
      have:=(r3 x hx).2;omega
     ·cases hpk
 ·obtain ⟨k1,k2⟩:=It hk hpk
  exact ⟨k1.le om,k2⟩
end Go.Abs
section
namespace Go.Abs
theorem Oh {ds:List Zd} {op num:Int} {i:Nat} {m:LI} (h8:op=8) (h:(XE ds op num)[i]? = some m):∃c,(Y2 ds num)[i]? = some c/\m=Y4 ds c:=by
 rw [XE,Zp om,QL] at h
 cases hc:(Y2 ds num)[i]? with
 | none=>rw [hc] at h;cases h
 | some c=>rw [hc] at h;cases h;exact ⟨c,rfl,rfl⟩
theorem Z0b {ds:List Zd} {L:Zy} {op num x c:Int} {args:LI} {i:Nat} (h8:op=8) (hx:args[0]? = some x) (hc:(Y2 ds num)[i]? = some c):Ut ds L op num args i=JU ds L x c:=by
 have h1:gI args 0=x:=by rw [gI];simp [hx]
 have h2:gI (Y2 ds num) (i:Int)=c:=by rw [gI];simp [hc]
 rw [Ut,Zw h8,h1,h2]
theorem Z0c {ds:List Zd} {L:Zy} {op num:Int} {args:LI} {i:Nat} (h8:¬op=8):Ut ds L op num args i=L:=by rw [Ut,Zp h8]
theorem Z0g {n:Zx} {ln:LI} {L:Zy} {op num:Int} {args:LI} {kids:List Z4} {kb:Z4} (h:kids[0]? = some kb) :
  Qk n ln L op num args kids=Ai L (Vd n ln (Ut n.decls L op num args 0) L.vars.length kb) fun one=>QC n ln L op num args one (kids.drop 1) 1:=by
 cases kids with
 | nil=>simp at h
 | cons b bs=>simp at h;subst h;rw [Qk];rfl
theorem Z0h {n:Zx} {ln:LI} {L one:Zy} {op num:Int} {args:LI} {kids:List Z4} {kb:Z4} {k:Nat} (h:kids[k]? = some kb) :
  QC n ln L op num args one (kids.drop k) k=DS one (Vd n ln (Ut n.decls L op num args k) L.vars.length kb) (QC n ln L op num args one (kids.drop (k+1)) (k+1)):=by
 rw [Yo h,QC]
def JV (n:Zx) (ln:LI) (L:Zy) (s:Z3):Option Zy:=
 if s.op=8/\¬VX L ln (gI s.args 0)=true then none else Qk n ln L s.op s.num s.args s.kids
theorem OO {n:Zx} {ln:LI} {L:Zy} {s:Z3} {kb:Z4} (h:¬(s.op=8/\¬VX L ln (gI s.args 0)=true)) (hk:s.kids[0]? = some kb) :
  JV n ln L s=Ai L (Vd n ln (Ut n.decls L s.op s.num s.args 0) L.vars.length kb) fun one=>QC n ln L s.op s.num s.args one (s.kids.drop 1) 1:=by
 rw [JV,Zp h,Z0g hk]
theorem KJ {xs:LI} {x:Int} (h:xs[0]? = some x):gI xs 0=x:=by rw [gI];simp [h]
end Go.Abs
namespace Go.Abs
theorem Uh.grow {L:Zy} {t o p:Int} (h:Uh L):Uh (L.grow t o p):=by
 obtain ⟨f1,f2,f3,f4,f5⟩:=h
 exact ⟨by simp [Zy.grow,f1],by simp [Zy.grow,f2],by simp [Zy.grow,f3],by simp [Zy.grow,f4],by simp [Zy.grow,f5]⟩
theorem Uh.arm {L:Zy} {i j:Nat} {c d:Int} (h:Uh L):Uh ⟨L.vars,L.own,L.par,L.con.set i c,L.fst.set j d,L.tok⟩:=by
 obtain ⟨f1,f2,f3,f4,f5⟩:=h
 exact ⟨f1,f2,by simp [f3],by simp [f4],f5⟩
end Go.Abs
namespace Go.Abs
theorem IX {n:Zx} (hn:Xk n) {ln:LI} {L O:Zy} {q:Int} {s:Z3} {i:Nat} {kb:Z4} {m:LI} (hk:Xn n.decls L q) (hq:0<=q) (hf:JR n L.vars s) (hop:s.op=7∨s.op=8)
  (_:s.kids[i]? = some kb) (harm:(XE n.decls s.op s.num)[i]? = some m) (hbt:0<=XL n (L.vars++m) kb) (h:Vd n ln (Ut n.decls L s.op s.num s.args i) L.vars.length kb=some O) :
  O.own.length=L.vars.length/\O.tok.length=L.vars.length:=by
 obtain ⟨k1,k2⟩:=Do hk hq hf hop harm
 obtain ⟨r1,r2,_⟩:=Hf hn k1 hq (by rw [k2];exact hbt) (by rw [k2];simp) h
 exact ⟨r1,r2⟩
theorem Z3c {one two:Zy} {r:Bool} (h:¬(¬one.own=two.own∨¬one.tok=two.tok)):DS one (some two) r=r:=Zw ⟨Cu.1 fun q=>h (.inl q),Cu.1 fun q=>h (.inr q)⟩
theorem Z3b {one two:Zy} {r:Bool} (h:¬one.own=two.own∨¬one.tok=two.tok):DS one (some two) r=false:=Zp fun q=>h.elim (fun z=>z q.1) fun z=>z q.2
theorem Z16 {L one:Zy} {f:Zy->Bool} (h:f one=true):Ai L (some one) f=some ⟨L.vars,one.own,L.par,L.con,L.fst,one.tok⟩:=Zw h
theorem Lh {L one:Zy} {f:Zy->Bool} (h:f one=false):Ai L (some one) f=none:=Zp (by rw [h];simp)
end Go.Abs
namespace Go.Abs
section
variable {n:Zx} {ln:LI} {L:Zy} {s:Z3}
abbrev K9 (n:Zx) (ln:LI) (L:Zy) (s:Z3):Option Zy:=QF n ln L s.op s.num s.into s.args (Qk n ln L s.op s.num s.args s.kids)
theorem LM {x:Int} (h:s.op=14) (hx:gI s.args 0=x):K9 n ln L s=JZ L ln x:=hx▸Zw h
theorem LN {x:Int} (h:s.op=15) (hx:gI s.args 0=x):K9 n ln L s=UI L x:=by rw [<-hx,K9,QF,Zp om,Zw h]
theorem LO {x:Int} (h:s.op=16∨s.op=17) (hx:gI s.args 0=x):K9 n ln L s=K8 n.decls L s.op x:=by rw [<-hx,K9,QF,Zp om,Zp om,Zw h]
theorem LP (h:s.op=7∨s.op=8):K9 n ln L s=JV n ln L s:=by rw [K9,QF,Zp om,Zp om,Zp om,Zw h,JV]
theorem LQ (h1:¬s.op=14) (h2:¬s.op=15) (h3:¬(s.op=16∨s.op=17)) (h4:¬(s.op=7∨s.op=8)):K9 n ln L s=Qx n ln L s.op s.num s.into s.args:=by
 rw [K9,QF,Zp h1,Zp h2,Zp h3,Zp h4]
theorem Pw {v:Int} (h:¬VX L ln v=true):JZ L ln v=none:=Zp h
theorem Px {v x:Int} (h:¬¬VX L ln v=true) (hx:gI L.own v=x):JZ L ln v=some ⟨L.vars,L.own.set v.toNat (x+1),L.par,L.con,L.fst,L.tok⟩:=by rw [JZ,Zw (Cu.1 h),hx]
theorem Uc (n:Zx) (ln:LI) (L:Zy) (s:Z3):To n ln L s=K1 L s.op (YF n L.vars s) (K9 n ln L s):=N1 n ln L s
theorem U4 {X:Zy} {op t:Int} (h:XF op=true/\t≠0):K1 L op t (some X)=some (X.grow t 1 (-1)):=by
 unfold K1;simp only [h.1,↓reduceIte];rw [Zw h.2]
theorem U5 {X:Zy} {op t:Int} (h:¬(XF op=true/\t≠0)) (h2:XF op=true):K1 L op t (some X)=some (X.grow 0 0 (-1)):=by
 have ht:t=0:=Cu.1 fun q=>h ⟨h2,q⟩
 subst ht
 unfold K1;simp only [h2,↓reduceIte];rfl
theorem U6 {X:Zy} {op t:Int} (h:¬XF op=true):K1 L op t (some X)=some X:=by
 unfold K1;simp only [Zp h]
end
end Go.Abs
namespace Go.Abs
theorem Hg {n:Zx} {us:LI} {b:Z4} (h:0<=XL n us b):∃vs t,Vz n b.steps us=some vs/\Vt vs b.result=some t/\0<=t:=by
 rw [Ex] at h
 cases hv:Vz n b.steps us with
 | none=>rw [hv] at h;simp at h
 | some vs=>
  rw [hv] at h
  simp only at h
  cases ha:Vt vs b.result with
  | none=>rw [ha] at h;simp at h
  | some t=>rw [ha] at h;exact ⟨vs,t,rfl,ha,h⟩
theorem N5 {n:Zx} {us vs:LI} {s:Z3} {r:List Z3} (h:Vz n (s::r) us=some vs):0<=YF n us s/\Vz n r (TH n us s)=some vs:=by
 rw [Vz] at h
 split at h
 ·cases h
 ·exact ⟨by omega,h⟩
theorem Mu (n:Zx) (us:LI) (s:Z3):us.length<=(TH n us s).length/\(TH n us s).length<=us.length+s.sz:=by
 have:=s.sz_pos
 rw [TH];split
 ·simp only [Yk,Cx];omega
 ·omega
end Go.Abs
namespace Go.Abs
theorem PO {X L:Zy} {m:Nat} {r x:Int} (hg:gI L.vars r=x) (h:x≠0) (ht:UI L r=some X):K0 m r L=QU X m:=by rw [K0,hg,Zw h,ht];rfl
theorem PN {L:Zy} {m:Nat} {r x:Int} (hg:gI L.vars r=x) (h:x≠0) (ht:UI L r=none):K0 m r L=none:=by rw [K0,hg,Zw h,ht];rfl
theorem BG {L:Zy} {m:Nat} {r x:Int} (hg:gI L.vars r=x) (h:¬x≠0):K0 m r L=QU L m:=by rw [K0,hg,Zp h];rfl
end Go.Abs
namespace Go.Abs
theorem LL {ds:List Zd} {lent:LI}:∀{ps:LI} {i:Nat} {L:Zy},Xn ds L 1->Xn ds (KY lent ps i L) 1/\(KY lent ps i L).vars=L.vars++ps
 | [],i,L,hk=>⟨hk,by simp [KY]⟩
 | t::r,i,L,hk=>by
  rw [KY]
  obtain ⟨k1,k2⟩:=LL (lent:=lent) (ps:=r) (i:=i+1) (hk.grow (t:=t) (o:=if t≠0/\¬(i:Int)∈lent then 1 else 0) (p:=-1) om (by split<;>omega))
  exact ⟨k1,by rw [k2];simp [Zy.grow]⟩
theorem Z1a (ds:List Zd) (r:Y8):Xn ds (Qn r) 1/\(Qn r).vars=r.params:=by
 have h:Xn ds (⟨[],[],[],[],[],[]⟩:Zy) 1:=⟨⟨rfl,rfl,rfl,rfl,rfl⟩,fun j h1 h2=>by simp at h2;omega,fun j h1 h2=>by simp at h2;omega,by simp,by simp⟩
 obtain ⟨k1,k2⟩:=LL (lent:=r.lent) (ps:=r.params) (i:=0) h
 exact ⟨k1,by rw [Qn,k2];rfl⟩
end Go.Abs
namespace Go.Abs
theorem Me {n:Zx}:∀{l:List Y8},J1 n l=true->∀r∈l,¬WF r.body<0/\XL n r.params r.body=r.result
 | [],_,r,h=>by simp at h
 | a::l,h,r,hr=>by
  rw [J1] at h
  split at h
  ·rename_i h1
   rcases Yr.1 hr with rfl|hr
   ·exact h1
   ·exact Me h r hr
  ·cases h
theorem Z60 {n:Zx} (hz:Jc n) (h:Q5 n=true):Xk n/\∀r∈n.routines,0<=XL n r.params r.body:=by
 simp only [Q5,Wn] at h
 refine ⟨Ll hz h.1,fun r hr=>?_⟩
 rw [(Me h.2 r hr).2]
 have h1:=h.1
 simp only [K6,QJ,Wn] at h1
 have:=MB h1.2.1.2.2.1 (UH r) (Wg.2 ⟨r,hr,rfl⟩)
 simp only [Ap,Wn,decide_eq_true_eq,UH] at this
 exact (of_decide_eq_true this.2.2).1
end Go.Abs
end
section
namespace Go.Abs
end Go.Abs
namespace Go.Abs
end Go.Abs
namespace Go.Abs
end Go.Abs
end
section
namespace Go.Abs
end Go.Abs
namespace Go.Abs
end Go.Abs
namespace Go.Abs
end Go.Abs
end
section
namespace Go.Abs
structure GY where
 pms:LI
 lnt:LI
 res:Int
end Go.Abs
namespace Go.Abs
section
variable {ds:List Zd} {fs:List GY} {x:GY}
end
end Go.Abs
end
section
namespace Go.Abs
structure NTy (n:Zx):Prop where
 result:∀r∈n.routines,0<=r.result
 params:∀r∈n.routines,∀p∈r.params,0<=p
 decl:∀d∈n.decls,d.cons.length=0->0<=d.frm/\0<=d.to_
 fields:∀c,∀f∈Y4 n.decls c,0<=f
end Go.Abs
namespace Go.Abs
end Go.Abs
namespace Go.Abs
end Go.Abs
namespace Go.Abs
section
variable {S:Option Int} {c:Prop} [Decidable c] {v:Int} {b:Bool}
end
section
variable {n:Zx} {op num:Int} {ts:LI}
end
end Go.Abs
end
namespace Go.Abs
mutual
def Z3.rng:Z3->Prop
 | .mk _ num _ _ kids=>(-9223372036854775808<=num/\num<=9223372036854775807)/\QS kids
def Z4.rng:Z4->Prop
 | .mk steps _=>Kd steps
def Kd:List Z3->Prop
 | []=>True
 | s::r=>s.rng/\Kd r
def QS:List Z4->Prop
 | []=>True
 | b::r=>b.rng/\QS r
end
theorem Z3.rng_eq (s:Z3):s.rng=((-9223372036854775808<=s.num/\s.num<=9223372036854775807)/\QS s.kids):=by cases s;rw [Z3.rng];rfl
theorem Z4.rng_eq (b:Z4):b.rng=Kd b.steps:=by cases b;rw [Z4.rng];rfl
section
variable {n:Zx} {us ts:LI} {s:Z3}
end
theorem Z5b {n:Zx} {us:LI} {s:Z3} (h:0<=YF n us s):(0<=s.op/\s.op<=11)∨(14<=s.op/\s.op<=17):=by
 rw [Gx] at h
 by_cases hq:(0<=s.op/\s.op<=11)∨(14<=s.op/\s.op<=17)
 ·exact hq
 ·exfalso
  split at h
  ·omega
  rw [Zp om,Zp om,Zp om,Zp om,Zp om,Zp om,Zp om,Zp om,Zp om] at h
  omega
theorem HF {n:Zx} {us:LI} {s:Z3} (h:0<=YF n us s):XF s.op=!YP s.op:=by
 have:=Z5b h
 rw [XF,YP,Xc];simp;omega

end Go.Abs
section
namespace Go.Abs
structure Az where
 mat:Int
 fst:Int
 fds:LI
 chg:Bool
def Ls:List Az->Int->Option Az
 | [],_=>none
 | a::r,v=>match Ls r v with
  | some x=>some x
  | none=>if a.mat=v then some a else none
structure Z6o (ds:List Zd) (L:Zy) (as1:List Az):Prop where
 rng:∀a∈as1,0<=a.mat/\a.mat<a.fst/\a.fst+a.fds.length<=L.vars.length
 par:∀a∈as1,∀v:Int,a.fst<=v->v<a.fst+a.fds.length->gI L.par v=a.mat
 non:∀v:Int,0<=v->v<L.vars.length->0<=gI L.par v->∃a∈as1,a.fst<=v/\v<a.fst+a.fds.length
 off:∀v:Int,0<=v->v<L.vars.length->match Ls as1 v with
  | none=>gI L.con v<0
  | some a=>0<=gI L.con v/\a.fst=gI L.fst v/\a.fds=Y4 ds (gI L.con v)
end Go.Abs
namespace Go.Abs
end Go.Abs
namespace Go.Abs
end Go.Abs
namespace Go.Abs
section
variable {n:Zx} {ln:LI} {L:Zy} {op v:Int} {am:List Az} {a:Az}
end
end Go.Abs
namespace Go.Abs
end Go.Abs
end
section
namespace Go.Abs
section
variable {n:Zx} {us:LI} {op num:Int}
end
end Go.Abs
namespace Go.Abs
end Go.Abs
namespace Go.Abs
end Go.Abs
end
section
namespace Go.Abs
section
variable {n:Zx} {ln:LI}
end
end Go.Abs
namespace Go.Abs
end Go.Abs
namespace Go.Abs
end Go.Abs
namespace Go.Abs
section
variable {n:Zx} {ln:LI} {L:Zy} {s:Z3}
end
end Go.Abs
namespace Go.Abs
end Go.Abs
namespace Go.Abs
end Go.Abs
namespace Go.Abs
end Go.Abs
end
section
namespace Go.Abs
end Go.Abs
namespace Go.Abs
end Go.Abs
namespace Go.Abs
end Go.Abs
end
section
namespace Go.Abs
end Go.Abs
namespace Go.Abs
end Go.Abs
namespace Go.Abs
end Go.Abs
namespace Go.Abs
end Go.Abs
end
namespace Go.Abs
def Zl (op v:Int):Z3:=.mk op 0 0 [v] []
def VR (ds:List Zd) (num:Int) (k:Nat):LI:=((Y2 ds num).map (Y4 ds))[k]?.getD []
section
variable {ds:List Zd} {am:List Az} {m:Nat}
end
theorem HV {ds:List Zd} {num:Int} {k:Nat} {m:LI} (h:((Y2 ds num).map (Y4 ds))[k]? = some m):VR ds num k=m:=by rw [VR,h];rfl
theorem PU {ds:List Zd} (hd:Wh ds) (num:Int) (k:Nat):(VR ds num k).length<=3:=by
 rw [VR,QL]
 cases (Y2 ds num)[k]? with
 | none=>simp
 | some c=>exact VD hd c
theorem Gw {xs:List Z3} {k:Nat} {s:Z3} (h:xs[k]? = some s):Y5 (xs.take (k+1))=Y5 (xs.take k)+s.sz:=by
 induction xs generalizing k with
 | nil=>simp at h
 | cons t r ih=>
  cases k with
  | zero=>simp at h;subst h;simp [Y5]
  | succ k=>rw [Ax,Ax,Y5,Y5,ih (by simpa using h)];omega
theorem Q3 (xs:List Z3) (k:Nat):Y5 (xs.take k)<=Y5 xs:=by
 induction xs generalizing k with
 | nil=>simp
 | cons t r ih=>
  cases k with
  | zero=>simp [Y5]
  | succ k=>have:=ih k;rw [Ax,Y5,Y5];omega
theorem Z3i {n:Zx} {us:LI} {s:Z3} (g:0<=YF n us s) (h:YP s.op=true):TH n us s=us:=by rw [TH,HF g,h];rfl
theorem Z3h {n:Zx} {us:LI} {s:Z3} (g:0<=YF n us s) (h:¬YP s.op=true):(TH n us s).length=us.length+1:=by
 rw [TH,HF g,Ct.2 h];simp
theorem Z3j {n:Zx} {us:LI} {s:Z3} (g:0<=YF n us s):(TH n us s).length=if YP s.op=true then us.length else us.length+1:=by
 split
 ·rw [Z3i g (by assumption)]
 ·exact Z3h g (by assumption)

theorem Un:∀(xs ys:List Z3),Y5 (xs++ys)=Y5 xs+Y5 ys
 | [],ys=>by simp [Y5]
 | x::r,ys=>by rw [TK,Y5,Y5,Un r ys];omega
theorem CN (op v:Int):(Zl op v).sz=2:=by rw [Zl,Z3.sz];simp [YK]
theorem Gu (op:Int):∀l:LI,Y5 (l.map (Zl op))=2*l.length
 | []=>by simp [Y5]
 | x::r=>by rw [Uf,Y5,CN,Gu op r,YD];omega
section
variable {ds:List Zd} (hd:Wh ds)
include hd
end
section
variable {ds:List Zd} {cons first:LI}
end
section
variable {ds:List Zd} (hd:Wh ds)
include hd
end
def Xy:List Z3->Nat
 | []=>0
 | s::r=>if s.op=14∨s.op=15 then Xy r+1 else 0
def W4 (op:Int):List Z3->LI
 | []=>[]
 | s::r=>if s.op=op then gI s.args 0::W4 op r else W4 op r
def VU:LI->Int->LI->LI->LI × LI
 | [],_,D,R=>(D,R)
 | f::r,q,D,R=>if f≠0/\q∈D then VU r (q+1) (D.erase q) R else if f≠0 then VU r (q+1) D (R++[q]) else VU r (q+1) D R
def KX (xs:List Z3) (x:Int) (fs:LI) (q:Int):LI × LI:=VU fs q (W4 14 (xs.take (Xy xs))) ((W4 15 (xs.take (Xy xs))).erase x)
def QO (xs:List Z3) (x:Int) (fs:LI) (q:Int):List Z3:=
 if x∈W4 15 (xs.take (Xy xs))/\fs.length≠0 then (KX xs x fs q).1.map (Zl 14)++[Zl 16 x]++(KX xs x fs q).2.map (Zl 15)++xs.drop (Xy xs) else xs
def Qt (b:Z4) (x:Int) (fs:LI) (q:Int):Z4:=.mk (QO b.steps x fs q) b.result
theorem DL:∀xs:List Z3,Xy xs<=xs.length
 | []=>YQ _
 | s::r=>by have:=DL r;rw [Xy];split<;>simp<;>omega
theorem Mm:∀{xs:List Z3} {s:Z3},s∈xs.take (Xy xs)->s.op=14∨s.op=15
 | [],s,h=>by simp [Xy] at h
 | t::r,s,h=>by
  rw [Xy] at h
  split at h
  ·rename_i q
   rw [Ax] at h
   rcases Yr.1 h with rfl|h
   ·exact q
   ·exact Mm h
  ·simp at h
theorem Eu:∀xs:List Z3,(W4 14 xs).length+(W4 15 xs).length<=xs.length
 | []=>by simp [W4]
 | s::r=>by
  have:=Eu r
  rw [W4,W4]
  by_cases h:s.op=14
  ·rw [Zw h,Zp om];simp;omega
  ·rw [Zp h];split<;>simp<;>omega
theorem DF:∀(fs:LI) (q:Int) (D R:LI),(VU fs q D R).1.length+(VU fs q D R).2.length<=D.length+R.length+fs.length
 | [],q,D,R=>by simp [VU]
 | f::r,q,D,R=>by
  rw [VU,YD]
  split
  ·have:=DF r (q+1) (D.erase q) R
   have h2:=List.length_erase_le (a:=q) (l:=D)
   omega
  ·split
   ·have:=DF r (q+1) D (R++[q])
    simp only [Yk,YD,X8] at this
    omega
   ·have:=DF r (q+1) D R
    omega
theorem Z1x {xs:List Z3} {x:Int} {fs:LI} {q:Int} (h:x∈W4 15 (xs.take (Xy xs))) (hf:fs.length<=3):(KX xs x fs q).1.length+(KX xs x fs q).2.length<=Xy xs+2:=by
 have h1:=DF fs q (W4 14 (xs.take (Xy xs))) ((W4 15 (xs.take (Xy xs))).erase x)
 have h2:=Eu (xs.take (Xy xs))
 have h3:=List.length_pos_of_mem h
 rw [List.length_erase_of_mem h] at h1
 rw [Wr] at h2
 have h4:=DL xs
 unfold KX
 omega
theorem Z4y (xs:List Z3) (k:Nat):Y5 xs=Y5 (xs.take k)+Y5 (xs.drop k):=by rw [<-Un,Uo]
theorem MX:∀xs:List Z3,(∀s∈xs,2<=s.sz)->2*xs.length<=Y5 xs
 | [],_=>by simp
 | s::r,h=>by
  have h1:=MX r fun t ht=>h t (Xr _ ht)
  have h2:=h s (YZ ..)
  rw [Y5,YD];omega
theorem O5 {xs:List Z3} {x:Int} {fs:LI} {q:Int} (hf:fs.length<=3) (h:∀s∈xs,s.op=14∨s.op=15->2<=s.sz):Y5 (QO xs x fs q)<=Y5 xs+6:=by
 rw [QO]
 split
 ·rename_i hc
  have h1:=Z1x (q:=q) hc.1 hf
  have h2:=MX (xs.take (Xy xs)) fun s hs=>h s (Ts hs) (Mm hs)
  have h3:=Z4y xs (Xy xs)
  have h4:=DL xs
  rw [Wr] at h2
  rw [Un,Un,Un,Gu,Gu,Y5,Y5,CN]
  omega
 ·omega
def Cn (s:Z3):Prop:=s=Zl s.op (gI s.args 0)
theorem O4 {xs:List Z3} {m:Int} {fs:LI} {q:Int} (h:¬(m∈W4 15 (xs.take (Xy xs))/\fs.length≠0)):QO xs m fs q=xs:=Zp h
end Go.Abs
section
namespace Go.Abs
mutual
def J3 (ds:List Zd) (m:Nat):Z3->Z3
 | .mk op num into args kids=>.mk op num into args (Ua ds m op num args kids 0)
def Ua (ds:List Zd) (m:Nat) (op num:Int) (args:LI):List Z4->Nat->List Z4
 | [],_=>[]
 | b::r,k=>(if op=8 then Qt (Wq ds (m+(VR ds num k).length) b) (gI args 0) (VR ds num k) m else Wq ds m b)::Ua ds m op num args r (k+1)
def Vy (ds:List Zd) (m:Nat):List Z3->List Z3
 | []=>[]
 | s::r=>J3 ds m s::Vy ds (if YP s.op=true then m else m+1) r
def Wq (ds:List Zd) (m:Nat):Z4->Z4
 | .mk steps result=>.mk (Vy ds m steps) result
end
def DV (ds:List Zd) (m:Nat) (op num:Int) (args:LI) (k:Nat) (b:Z4):Z4:=if op=8 then Qt (Wq ds (m+(VR ds num k).length) b) (gI args 0) (VR ds num k) m else Wq ds m b
theorem Gn (ds:List Zd) (m:Nat) (s:Z3):J3 ds m s=.mk s.op s.num s.into s.args (Ua ds m s.op s.num s.args s.kids 0):=by cases s;rw [J3];rfl
theorem DT (ds:List Zd) (m:Nat) (b:Z4):Wq ds m b=.mk (Vy ds m b.steps) b.result:=by cases b;rw [Wq];rfl
section
variable {ds:List Zd} {m:Nat}
theorem Z3t {xs acc r:List Z3} {k:Nat} {s:Z3} (h:xs[k]? = some s) (ha:acc++Vy ds m (xs.drop k)=r) :
  (acc++[.mk s.op s.num s.into s.args (Ua ds m s.op s.num s.args s.kids 0)])++Vy ds (if YP s.op=true then m else m+1) (xs.drop (k+1))=r:=by
 rw [Yo h,Vy,Gn] at ha
 rw [<-ha];simp
theorem Z3s {xs acc r:List Z3} {k:Nat} (h:xs.length<=k) (ha:acc++Vy ds m (xs.drop k)=r):acc=r:=by
 rw [Xz h,Vy,T4] at ha;exact ha
theorem MC {op num:Int} {args:LI} {bs acc r:List Z4} {k:Nat} {b:Z4} (h:bs[k]? = some b) (ha:acc++Ua ds m op num args (bs.drop k) k=r) :
  (acc++[DV ds m op num args k b])++Ua ds m op num args (bs.drop (k+1)) (k+1)=r:=by
 rw [Yo h,Ua] at ha
 rw [<-ha,DV];simp
theorem Z3p {op num:Int} {args:LI} {bs acc r:List Z4} {k j:Nat} (h:bs.length<=k) (ha:acc++Ua ds m op num args (bs.drop k) j=r):acc=r:=by
 rw [Xz h,Ua,T4] at ha;exact ha
end
mutual
def wS (ds:List Zd):Z3->Prop
 | .mk op num into args kids=>(XF op=!YP op)/\(YP op=true->num=0/\into=0/\kids=[]/\∃a,args=[a])/\(op=8->(∃a,args=[a]/\0<=a/\a<=900000000)/\kids.length=(Y2 ds num).length)/\J4 ds kids
def J4 (ds:List Zd):List Z4->Prop
 | []=>True
 | b::r=>wB ds b/\J4 ds r
def TJ (ds:List Zd):List Z3->Prop
 | []=>True
 | s::r=>wS ds s/\TJ ds r
def wB (ds:List Zd):Z4->Prop
 | .mk steps _=>TJ ds steps
end
section
variable {ds:List Zd}
theorem QK (s:Z3):wS ds s↔(XF s.op=!YP s.op)/\(YP s.op=true->s.num=0/\s.into=0/\s.kids=[]/\∃a,s.args=[a])/\(s.op=8->(∃a,s.args=[a]/\0<=a/\a<=900000000)/\s.kids.length=(Y2 ds s.num).length)/\J4 ds s.kids:=by cases s;rw [wS];rfl
theorem Qr (b:Z4):wB ds b↔TJ ds b.steps:=by cases b;rw [wB];rfl
theorem J5:∀{xs:List Z3},TJ ds xs↔∀s∈xs,wS ds s
 | []=>by simp [TJ]
 | s::r=>by rw [TJ,J5];simp
theorem E7:∀{xs:List Z4},J4 ds xs↔∀s∈xs,wB ds s
 | []=>by simp [J4]
 | s::r=>by rw [J4,E7];simp
theorem Ny {b:Z4} {k:Nat} {s:Z3} (h:wB ds b) (hs:b.steps[k]? = some s):wS ds s:=J5.1 ((Qr b).1 h) s (ZW hs)
theorem GQ {s:Z3} {k:Nat} {b:Z4} (h:wS ds s) (hb:s.kids[k]? = some b):wB ds b:=E7.1 ((QK s).1 h).2.2.2 b (ZW hb)
theorem E8 {s:Z3} (h:wS ds s) (hc:YP s.op=true):Cn s/\s.kids=[]/\∃a,s.args=[a]:=by
 obtain ⟨h1,h2,h3,a,h4⟩:=((QK s).1 h).2.1 hc
 refine ⟨?_,h3,a,h4⟩
 cases s with
 | mk op num into args kids=>
  simp only [Z3.num,Z3.into,Z3.kids,Z3.args] at h1 h2 h3 h4
  subst h1 h2 h3 h4
  rfl
theorem Z6h {op v:Int} (h:op=14∨op=15∨op=16):wS ds (Zl op v):=(QK _).2 ⟨by show XF op=!YP op;rcases h with rfl|rfl|rfl<;>rfl,fun _=>⟨rfl,rfl,rfl,v,rfl⟩,fun e=>absurd e (show op≠8 by omega),True.intro⟩
theorem Z6i {s:Z3} (h:wS ds s):XF s.op=!YP s.op:=((QK s).1 h).1
theorem Cs {s:Z3} (h:wS ds s) (h8:s.op=8):(∃a,s.args=[a]/\0<=a/\a<=900000000)/\s.kids.length=(Y2 ds s.num).length:=((QK s).1 h).2.2.1 h8
theorem Ef {xs:List Z3} (h:TJ ds xs):∀s∈xs,YP s.op=true->Cn s:=fun s hs hc=>(E8 (J5.1 h s hs) hc).1
end
section
variable {n:Zx}
end
mutual
def Z3.pz:Z3->Nat
 | .mk _ _ _ args kids=>1+args.length+Bd kids
def Z4.pz:Z4->Nat
 | .mk steps _=>1+Be steps
def Be:List Z3->Nat
 | []=>0
 | s::r=>s.pz+Be r
def Bd:List Z4->Nat
 | []=>0
 | b::r=>b.pz+8+Bd r
end
mutual
theorem Z3.pz_le:∀s:Z3,s.pz<=9*s.sz
 | .mk _ _ _ args kids=>by have:=LT kids;rw [Z3.pz,Z3.sz];omega
theorem Z4.pz_le:∀b:Z4,b.pz+8<=9*b.sz
 | .mk steps _=>by have:=LU steps;rw [Z4.pz,Z4.sz];omega
theorem LU:∀xs:List Z3,Be xs<=9*Y5 xs
 | []=>T7 _
 | s::r=>by have:=s.pz_le;have:=LU r;rw [Be,Y5];omega
theorem LT:∀xs:List Z4,Bd xs<=9*YK xs
 | []=>T7 _
 | s::r=>by have:=s.pz_le;have:=LT r;rw [Bd,YK];omega
end
section
variable {ds:List Zd}
theorem OS {op:Int} (h:op=14∨op=15):YP op=true:=by rw [YP];simp;omega
theorem Z3u {xs:List Z3}:∀{m:Nat},TJ ds xs->∀s∈Vy ds m xs,s.op=14∨s.op=15->2<=s.sz:=by
 induction xs with
 | nil=>intro m _ s hs;simp [Vy] at hs
 | cons t r ih=>
  intro m h s hs ho
  rw [Vy] at hs
  rcases Yr.1 hs with rfl|hs
  ·rw [Gn] at ho ⊢
   obtain ⟨_,_,a,ha⟩:=E8 h.1 (OS ho)
   rw [Z3.sz,ha];simp
  ·exact ih h.2 s hs ho
variable (hd:Wh ds)
include hd
mutual
theorem Z3q:∀(s:Z3) {m:Nat},wS ds s->(J3 ds m s).sz<=s.pz
 | .mk op num into args kids,m,h=>by
  have:=ME kids (m:=m) (op:=op) (num:=num) (args:=args) (k:=0) h.2.2.2
  rw [J3,Z3.sz,Z3.pz];omega
theorem ME:∀(bs:List Z4) {m:Nat} {op num:Int} {args:LI} {k:Nat},J4 ds bs->YK (Ua ds m op num args bs k)<=Bd bs
 | [],_,_,_,_,_,_=>YQ _
 | b::r,m,op,num,args,k,h=>by
  have h2:=ME r (m:=m) (op:=op) (num:=num) (args:=args) (k:=k+1) h.2
  rw [Ua,YK,Bd]
  split
  ·have h1:=DU b (m:=m+(VR ds num k).length) h.1
   have h3:=O5 (xs:=(Wq ds (m+(VR ds num k).length) b).steps) (x:=gI args 0) (q:=(m:Int)) (PU hd num k) (by rw [DT];exact Z3u ((Qr b).1 h.1))
   rw [Qt,Z4.sz]
   rw [Z4.sz_eq] at h1
   omega
  ·have h1:=DU b (m:=m) h.1
   omega
theorem MF:∀(xs:List Z3) {m:Nat},TJ ds xs->Y5 (Vy ds m xs)<=Be xs
 | [],_,_=>YQ _
 | s::r,m,h=>by
  have h1:=Z3q s (m:=m) h.1
  have h2:=MF r (m:=if YP s.op=true then m else m+1) h.2
  rw [Vy,Y5,Be];omega
theorem DU:∀(b:Z4) {m:Nat},wB ds b->(Wq ds m b).sz<=b.pz
 | .mk steps result,m,h=>by
  have:=MF steps (m:=m) h
  rw [Wq,Z4.sz,Z4.pz];omega
end
end
section
variable {ds:List Zd} {m:Nat}
end
def JF (ds:List Zd) (r:Y8):Y8:=⟨r.params,r.lent,r.result,Wq ds r.params.length r.body⟩
def DW (n:Zx):Zx:=⟨n.decls,n.routines.map (JF n.decls)⟩
end Go.Abs
namespace Go.Abs
theorem Z35 {xs:List Z3} {k:Nat} {s:Z3} {r:Nat} (h:xs[k]? = some s) (hs:s.op=14∨s.op=15) (ha:k+Xy (xs.drop k)=r):k+1+Xy (xs.drop (k+1))=r:=by
 rw [Yo h,Xy,Zw hs] at ha;omega
theorem Z36 {xs:List Z3} {k:Nat} {s:Z3} {r:Nat} (h:xs[k]? = some s) (hs:¬(s.op=14∨s.op=15)) (ha:k+Xy (xs.drop k)=r):k=r:=by
 rw [Yo h,Xy,Zp hs] at ha;omega
theorem Z34 {xs:List Z3} {k:Nat} {r:Nat} (h:xs.length<=k) (ha:k+Xy (xs.drop k)=r):k=r:=by
 rw [Xz h,Xy] at ha;omega
theorem Of {op:Int} {xs:List Z3} {acc r:LI} {k:Nat} {s:Z3} (h:xs[k]? = some s) (hs:s.op=op) (ha:acc++W4 op (xs.drop k)=r):(acc++[gI s.args 0])++W4 op (xs.drop (k+1))=r:=by
 rw [Yo h,W4,Zw hs] at ha;rw [<-ha];simp
theorem Oe {op:Int} {xs:List Z3} {acc r:LI} {k:Nat} {s:Z3} (h:xs[k]? = some s) (hs:¬s.op=op) (ha:acc++W4 op (xs.drop k)=r):acc++W4 op (xs.drop (k+1))=r:=by
 rw [Yo h,W4,Zp hs] at ha;exact ha
theorem Od {op:Int} {xs:List Z3} {acc r:LI} {k:Nat} (h:xs.length<=k) (ha:acc++W4 op (xs.drop k)=r):acc=r:=by
 rw [Xz h,W4,T4] at ha;exact ha
theorem PQ {xs acc r:LI} {y:Int} {k:Nat} {x:Int} {d:Bool} (h:xs[k]? = some x) (ha:acc++(if d=true then xs.drop k else (xs.drop k).erase y)=r) :
  (if x=y/\¬d=true then acc else acc++[x])++(if ((x==y&&!d)||d)=true then xs.drop (k+1) else (xs.drop (k+1)).erase y)=r:=by
 rw [Yo h] at ha
 rw [<-ha]
 by_cases hd:d=true
 ·simp [hd]
 ·by_cases hx:x=y
  ·simp [hd,hx]
  ·rw [Zp (fun z=>hx z.1),Zp hd,List.erase_cons_tail (by simpa using hx)]
   simp [hd,hx]
theorem PP {xs acc r:LI} {y:Int} {k:Nat} {d:Bool} (h:xs.length<=k) (ha:acc++(if d=true then xs.drop k else (xs.drop k).erase y)=r):acc=r:=by
 rw [Xz h] at ha;simpa using ha
section
variable {fs D R:LI} {q k:Nat} {f:Int} {r:LI × LI}
theorem Z1z (h:fs[k]? = some f) (h0:f≠0) (hm:((q+k:Nat):Int)∈D) (ha:VU (fs.drop k) (q+k) D R=r):VU (fs.drop (k+1)) (q+((k+1:Nat):Int)) (D.erase ((q+k:Nat):Int)) R=r:=by
 rw [Yo h,VU,Zw ⟨h0,by rw [<-Int.natCast_add];exact hm⟩,<-Int.natCast_add] at ha
 rw [<-ha];congr 1
theorem Z20 (h:fs[k]? = some f) (h0:f≠0) (hm:¬((q+k:Nat):Int)∈D) (ha:VU (fs.drop k) (q+k) D R=r):VU (fs.drop (k+1)) (q+((k+1:Nat):Int)) D (R++[((q+k:Nat):Int)])=r:=by
 rw [Yo h,VU,Zp (fun z=>hm (by rw [Int.natCast_add];exact z.2)),Zw h0,<-Int.natCast_add] at ha
 rw [<-ha];congr 1
theorem Z21 (h:fs[k]? = some f) (h0:¬f≠0) (ha:VU (fs.drop k) (q+k) D R=r):VU (fs.drop (k+1)) (q+((k+1:Nat):Int)) D R=r:=by
 rw [Yo h,VU,Zp (fun z=>h0 z.1),Zp h0] at ha
 rw [<-ha];congr 1
theorem Z1y (h:fs.length<=k) (ha:VU (fs.drop k) (q+k) D R=r):r=(D,R):=by
 rw [Xz h,VU] at ha;exact ha.symm
end
theorem O6 {xs:List Z3} {x:Int} {fs:LI} {q:Int} {D R:LI} (h1:x∈W4 15 (xs.take (Xy xs))) (h2:fs.length≠0) (hr:KX xs x fs q=(D,R)):D.map (Zl 14)++[Zl 16 x]++R.map (Zl 15)++xs.drop (Xy xs)=QO xs x fs q:=by
 rw [QO,Zw ⟨h1,h2⟩,hr]
theorem Z3r {ds:List Zd} {xs:List Z3}:∀{m:Nat},TJ ds xs->∀s∈Vy ds m xs,YP s.op=true->∃a,s.args=[a]:=by
 induction xs with
 | nil=>intro m _ s hs;simp [Vy] at hs
 | cons t r ih=>
  intro m h s hs ho
  rw [Vy] at hs
  rcases Yr.1 hs with rfl|hs
  ·rw [Gn] at ho ⊢
   exact (E8 h.1 ho).2.2
  ·exact ih h.2 s hs ho
end Go.Abs
end
namespace Go.Abs
mutual
def Z0.sz:Z0->Nat
 | .mk _ _ kids=>1+Xa kids
def Xa:List Z0->Nat
 | []=>0
 | e::r=>e.sz+Xa r
end
theorem Z0.sz_eq (e:Z0):e.sz=1+Xa e.kids:=by cases e;rw [Z0.sz];rfl
theorem BH:∀xs ys:List Z0,Xa (xs++ys)=Xa xs+Xa ys
 | [],ys=>by simp [Xa]
 | x::r,ys=>by rw [TK,Xa,Xa,BH r];omega
theorem A4:∀{xs:List Z0} {k:Nat} {e:Z0},xs[k]? = some e->e.sz<=Xa xs
 | [],k,e,h=>by simp at h
 | x::r,0,e,h=>by simp at h;subst h;rw [Xa];omega
 | x::r,k+1,e,h=>by have:=A4 (xs:=r) (k:=k) (by simpa using h);rw [Xa];omega
theorem HP:∀{xs:List Z0},xs.length<=Xa xs
 | []=>T7 _
 | x::r=>by have:=HP (xs:=r);have:=x.sz_eq;rw [Xa,YD];omega
def Kz:Zd:=⟨0,0,[⟨[]⟩,⟨[0,1]⟩]⟩
def KA:Zd:=⟨0,0,[⟨[]⟩,⟨[3,0,3]⟩]⟩
def HA:List Zd:=[⟨0,0,[⟨[1,3]⟩]⟩,⟨1,0,[]⟩,⟨0,0,[⟨[1,1,0]⟩,⟨[0]⟩,⟨[3]⟩]⟩,⟨0,1,[]⟩]
def KM:List (List Zd):=[[Kz,⟨0,0,[]⟩,KA],[Kz,⟨0,0,[]⟩,KA,⟨0,0,[⟨[1,3]⟩]⟩],[Kz,⟨0,0,[]⟩,KA,⟨1,0,[]⟩],[Kz,⟨0,0,[]⟩,KA,⟨0,0,[⟨[1,1,0]⟩,⟨[0]⟩,⟨[3]⟩]⟩],[Kz,⟨0,0,[]⟩,KA,⟨0,1,[]⟩]]
def GD (ds:List Zd):Prop:=ds∈KM
theorem GD.ok {ds:List Zd} (h:GD ds):Wh ds:=by
 have k:=(by decide:∀ds∈KM,ds.length<=4/\(∀d∈ds,d.cons.length<=3)/\∀d∈ds,∀c∈d.cons,c.fields.length<=3) ds h
 exact ⟨k.1,k.2.1,k.2.2⟩
theorem GD.len {ds:List Zd} (h:GD ds):3<=ds.length/\ds.length<=4:=by
 exact (by decide:∀ds∈KM,3<=ds.length/\ds.length<=4) ds h
def Ql (t:Int):Prop:=t=0∨t=1∨t=3
instance (t:Int):Decidable (Ql t):=inferInstanceAs (Decidable (_∨_∨_))
theorem GD.low {ds:List Zd} (h:GD ds):Y2 ds 0=[]/\Y2 ds 1=[0,1]/\Y2 ds 2=[]/\Y2 ds 3=[2,3]/\Y4 ds 0=[]/\Y4 ds 1=[0,1]/\Y4 ds 2=[]/\Y4 ds 3=[3,0,3]:=
 (by decide:∀ds∈KM,Y2 ds 0=[]/\Y2 ds 1=[0,1]/\Y2 ds 2=[]/\Y2 ds 3=[2,3]/\Y4 ds 0=[]/\Y4 ds 1=[0,1]/\Y4 ds 2=[]/\Y4 ds 3=[3,0,3]) ds h
theorem GD.fields {ds:List Zd} (h:GD ds):∀c∈Y2 ds 1++(Y2 ds 3++Y2 ds 4),∀t∈Y4 ds c,Ql t:=
 (by decide:∀ds∈KM,∀c∈Y2 ds 1++(Y2 ds 3++Y2 ds 4),∀t∈Y4 ds c,Ql t) ds h
theorem GD.cons_cases {ds:List Zd} (h:GD ds) {t:Int} {c:Int} (hc:c∈Y2 ds t):(0<=c/\c<=9)/\(t=1∨t=3∨t=4)/\(Y4 ds c).length<=3/\∀u∈Y4 ds c,Ql u:=by
 have ht:1<=t/\t<=ds.length:=by
  by_cases q:1<=t/\t<=ds.length
  ·exact q
  ·rw [Y2,Zp q] at hc;cases hc
 have hl:=h.len
 have hlow:=h.low
 have key:∀c∈Y2 ds 1++(Y2 ds 3++Y2 ds 4),0<=c/\c<=9:=
  (by decide:∀ds∈KM,∀c∈Y2 ds 1++(Y2 ds 3++Y2 ds 4),0<=c/\c<=9) ds h
 have h4:t=1∨t=2∨t=3∨t=4:=by omega
 have hf:=h.fields
 have hd:=VD h.ok c
 rcases h4 with rfl|rfl|rfl|rfl
 ·exact ⟨key c (YU.2 (.inl hc)),.inl rfl,hd,hf c (YU.2 (.inl hc))⟩
 ·rw [hlow.2.2.1] at hc;cases hc
 ·exact ⟨key c (YU.2 (.inr (YU.2 (.inl hc)))),.inr (.inl rfl),hd,hf c (YU.2 (.inr (YU.2 (.inl hc))))⟩
 ·exact ⟨key c (YU.2 (.inr (YU.2 (.inr hc)))),.inr (.inr rfl),hd,hf c (YU.2 (.inr (YU.2 (.inr hc))))⟩
def QN:List (LI × Int):=[([],0),([1],0),([1,1],1),([1],1),([1,0],1),([2,1],1),([1,1],0),([3],0),([0],1),([0,1],1),([3,0],3),([3],1),([1,3,0],0),([0],0),([0,0],0),([1,0],0)]
def Ui (f:Func):Prop:=(f.params,f.result)∈QN
theorem Ui.bd {f:Func} (h:Ui f):f.params.length<=3/\(∀t∈f.params,0<=t/\t<=3)/\Ql f.result:=by
 have key:∀q∈QN,q.1.length<=3/\(∀t∈q.1,0<=t/\t<=3)/\Ql q.2:=by decide
 exact key _ h
theorem Ui.clo {ds:List Zd} {f:Func} (hd:GD ds) (h:Ui f) (hp:0<QP ds (gI f.params ((f.params.length:Int)-1)) f.result):∀t∈f.params.dropLast,Ql t:=by
 have key:∀q∈QN,0<QP ds (gI q.1 ((q.1.length:Int)-1)) q.2->∀t∈q.1.dropLast,Ql t:=
  (by decide +kernel:∀ds∈KM,∀q∈QN,0<QP ds (gI q.1 ((q.1.length:Int)-1)) q.2->∀t∈q.1.dropLast,Ql t) ds hd
 exact key _ h hp
structure GP (p:XJ):Prop where
 decls:GD p.decls
 len:1<=p.funcs.length/\p.funcs.length<=4
 sigs:∀f∈p.funcs,Ui f
def UG (ds:List Zd) (op num:Int) (m:Nat) (k:Nat):Nat:=
 if op=13 then m+k else if op=8 then (if k=0 then m else m+(Y4 ds (gI (Y2 ds num) ((k:Int)-1))).length) else m
mutual
def eW (ds:List Zd) (nf:Nat):Nat->Z0->Prop
 | m,.mk op num kids=>(0<=op/\op<=13)/\(op=12->kids=[]/\0<=num/\num<m)/\(op=13->kids.length=2)/\(op=7->kids.length=3)/\(op=8->kids.length=1+(Y2 ds num).length)/\(op=9->0<=num/\num<nf)/\(-2000<=num/\num<=2000)/\kids.length<=4 /\
  Tx ds nf (UG ds op num m) 0 kids
def Tx (ds:List Zd) (nf:Nat) (sc:Nat->Nat):Nat->List Z0->Prop
 | _,[]=>True
 | k,e::r=>eW ds nf (sc k) e/\Tx ds nf sc (k+1) r
end
theorem PK {ds:List Zd} {nf m:Nat} (e:Z0):eW ds nf m e↔(0<=e.op/\e.op<=13)/\(e.op=12->e.kids=[]/\0<=e.num/\e.num<m)/\(e.op=13->e.kids.length=2)/\(e.op=7->e.kids.length=3)/\(e.op=8->e.kids.length=1+(Y2 ds e.num).length)/\(e.op=9->0<=e.num/\e.num<nf)/\(-2000<=e.num/\e.num<=2000)/\e.kids.length<=4 /\
  Tx ds nf (UG ds e.op e.num m) 0 e.kids:=by cases e;rw [eW];rfl
theorem AT {ds:List Zd} {nf:Nat} {sc:Nat->Nat}:∀{xs:List Z0} {j k:Nat} {e:Z0},Tx ds nf sc j xs->xs[k]? = some e->eW ds nf (sc (j+k)) e
 | [],j,k,e,_,h=>by simp at h
 | x::r,j,0,e,hw,h=>by simp at h;subst h;exact hw.1
 | x::r,j,k+1,e,hw,h=>by
  have:=AT (xs:=r) (j:=j+1) (k:=k) hw.2 (by simpa using h)
  rw [show j+(k+1)=j+1+k by omega];exact this
theorem HL {ds:List Zd} {nf:Nat} {sc:Nat->Nat}:∀{xs ys:List Z0} {j:Nat},Tx ds nf sc j (xs++ys)↔Tx ds nf sc j xs/\Tx ds nf sc (j+xs.length) ys
 | [],ys,j=>by simp [Tx]
 | x::r,ys,j=>by
  rw [TK,Tx,Tx,HL (xs:=r),and_assoc,YD,show j+1+r.length=j+(r.length+1) by omega]
theorem F4 {ds:List Zd} {nf m:Nat} {sc:Nat->Nat} (hs:∀k,sc k=m):∀{xs:List Z0} {j:Nat},(∀e∈xs,eW ds nf m e)->Tx ds nf sc j xs
 | [],_,_=>True.intro
 | x::r,j,h=>⟨by rw [hs];exact h x (YZ ..),F4 hs fun e he=>h e (Xr _ he)⟩
theorem A3 {ds:List Zd} {nf m:Nat} {op num:Int} {kids:List Z0} (ho:0<=op/\op<=11/\op≠7/\op≠8) (hc:op=9->0<=num/\num<nf) (hn:-2000<=num/\num<=2000) (hl:kids.length<=4) (hk:∀e∈kids,eW ds nf m e):eW ds nf m (.mk op num kids):=by
 rw [eW]
 refine ⟨by omega,fun h=>by omega,fun h=>by omega,fun h=>by omega,fun h=>by omega,hc,hn,hl,F4 (m:=m) (fun k=>?_) hk⟩
 rw [UG,Zp om,Zp om]
theorem PL {ds:List Zd} {nf m:Nat} {z:Int} (hz:-2000<=z/\z<=2000):eW ds nf m (.mk 0 z []):=A3 om (fun h=>by omega) hz (by simp) (fun e he=>by cases he)
theorem PM {ds:List Zd} {nf m:Nat} {z:Int} (hz:0<=z/\z<m) (hm:m<=2000):eW ds nf m (.mk 12 z []):=by
 rw [eW]
 exact ⟨by omega,fun _=>⟨rfl,hz⟩,fun h=>by omega,fun h=>by omega,fun h=>by omega,fun h=>by omega,by omega,by simp,True.intro⟩
theorem HJ {ds:List Zd} {nf m:Nat} {num:Int} {kids:List Z0} (hn:-2000<=num/\num<=2000) (hl:kids.length=3) (hk:∀e∈kids,eW ds nf m e):eW ds nf m (.mk 7 num kids):=by
 rw [eW]
 refine ⟨by omega,fun h=>by omega,fun h=>by omega,fun _=>hl,fun h=>by omega,fun h=>by omega,hn,by omega,F4 (m:=m) (fun k=>?_) hk⟩
 rw [UG,Zp om,Zp om]
theorem HK {ds:List Zd} {nf m:Nat} {num:Int} {a b:Z0} (hn:-2000<=num/\num<=2000) (ha:eW ds nf m a) (hb:eW ds nf (m+1) b):eW ds nf m (.mk 13 num [a,b]):=by
 rw [eW]
 exact ⟨by omega,fun h=>by omega,fun _=>rfl,fun h=>by omega,fun h=>by omega,fun h=>by omega,hn,by simp,ha,hb,True.intro⟩
theorem F3 {ds:List Zd} {nf m:Nat} {num:Int} {a:Z0} {arms:List Z0} (hn:-2000<=num/\num<=2000) (h3:arms.length<=3) (hl:arms.length=(Y2 ds num).length) (ha:eW ds nf m a) (hk:Tx ds nf (UG ds 8 num m) 1 arms):eW ds nf m (.mk 8 num (a::arms)):=by
 rw [eW]
 refine ⟨by omega,fun h=>by omega,fun h=>by omega,fun h=>by omega,fun _=>by rw [YD];omega,fun h=>by omega,hn,by rw [YD];omega,?_,hk⟩
 rw [UG,Zp om,Zw rfl,Zw rfl]
 exact ha
def bS (b:Nat):Nat:=max 4 (10*b-10)
def bC (b:Nat):Nat:=max 40 (100*b-100)
def YH:List Z3->Nat
 | []=>0
 | s::r=>(if YP s.op=true then 0 else 1)+YH r
theorem Qw:∀xs ys:List Z3,YH (xs++ys)=YH xs+YH ys
 | [],ys=>by simp [YH]
 | x::r,ys=>by rw [TK,YH,YH,Qw r];omega
theorem Jl:∀xs:List Z3,YH xs<=xs.length
 | []=>YQ _
 | x::r=>by have:=Jl r;rw [YH,YD];split<;>omega
def VK (ds:List Zd) (op num:Int) (m:Nat) (k:Nat):Nat:=if op=8 then m+(Y4 ds (gI (Y2 ds num) k)).length else m
mutual
def fS (ds:List Zd) (nf:Nat):Nat->Z3->Prop
 | m,.mk op num into args kids=>((0<=op/\op<=11)∨(14<=op/\op<=17))/\(∀a∈args,0<=a/\a<m)/\(14<=op->num=0/\into=0/\kids=[]/\∃a,args=[a])/\(op=7->kids.length=2)/\(op=8->kids.length=(Y2 ds num).length)/\(op=7∨op=8->∃a,args=[a]) /\
  (op=9->0<=num/\num<nf)/\(-2000<=num/\num<=2000)/\(0<=into/\into<=m)/\args.length<=4/\(op≠7/\op≠8->kids=[])/\Uq ds nf (VK ds op num m) 0 kids
def Uq (ds:List Zd) (nf:Nat) (sc:Nat->Nat):Nat->List Z4->Prop
 | _,[]=>True
 | k,b::r=>fB ds nf (sc k) b/\Uq ds nf sc (k+1) r
def U3 (ds:List Zd) (nf:Nat):Nat->List Z3->Prop
 | _,[]=>True
 | m,s::r=>fS ds nf m s/\U3 ds nf (if YP s.op=true then m else m+1) r
def fB (ds:List Zd) (nf:Nat):Nat->Z4->Prop
 | m,.mk steps result=>U3 ds nf m steps/\0<=result/\result<(m+YH steps:Nat)
end
section
variable {ds:List Zd} {nf:Nat}
structure FS (ds:List Zd) (nf m:Nat) (s:Z3):Prop where
 op:(0<=s.op/\s.op<=11)∨(14<=s.op/\s.op<=17)
 args:∀a∈s.args,0<=a/\a<m
 cnt:14<=s.op->s.num=0/\s.into=0/\s.kids=[]/\∃a,s.args=[a]
 k7:s.op=7->s.kids.length=2
 k8:s.op=8->s.kids.length=(Y2 ds s.num).length
 one:s.op=7∨s.op=8->∃a,s.args=[a]
 call:s.op=9->0<=s.num/\s.num<nf
 num:-2000<=s.num/\s.num<=2000
 into:0<=s.into/\s.into<=m
 alen:s.args.length<=4
 kn:s.op≠7/\s.op≠8->s.kids=[]
 kids:Uq ds nf (VK ds s.op s.num m) 0 s.kids
theorem D0 {m:Nat} (s:Z3):fS ds nf m s↔FS ds nf m s:=by
 cases s
 rw [fS]
 exact ⟨fun ⟨h1,h2,h3,h4,h5,h6,h7,h8,h9,h10,h11,h12⟩=>⟨h1,h2,h3,h4,h5,h6,h7,h8,h9,h10,h11,h12⟩,fun h=>⟨h.op,h.args,h.cnt,h.k7,h.k8,h.one,h.call,h.num,h.into,h.alen,h.kn,h.kids⟩⟩
theorem BJ {m:Nat} (b:Z4):fB ds nf m b↔U3 ds nf m b.steps/\0<=b.result/\b.result<(m+YH b.steps:Nat):=by cases b;rw [fB];rfl
theorem BK {sc:Nat->Nat}:∀{xs:List Z4} {j k:Nat} {b:Z4},Uq ds nf sc j xs->xs[k]? = some b->fB ds nf (sc (j+k)) b
 | [],j,k,b,_,h=>by simp at h
 | x::r,j,0,b,hw,h=>by simp at h;subst h;exact hw.1
 | x::r,j,k+1,b,hw,h=>by
  have:=BK (xs:=r) (j:=j+1) (k:=k) hw.2 (by simpa using h)
  rw [show j+(k+1)=j+1+k by omega];exact this
theorem HR {sc:Nat->Nat}:∀{xs ys:List Z4} {j:Nat},Uq ds nf sc j (xs++ys)↔Uq ds nf sc j xs/\Uq ds nf sc (j+xs.length) ys
 | [],ys,j=>by simp [Uq]
 | x::r,ys,j=>by
  rw [TK,Uq,Uq,HR (xs:=r),and_assoc,YD,show j+1+r.length=j+(r.length+1) by omega]
theorem HS {sc:Nat->Nat} {xs:List Z4} {b:Z4} (h:Uq ds nf sc 0 xs) (hb:fB ds nf (sc xs.length) b):Uq ds nf sc 0 (xs++[b]):=
 HR.2 ⟨h,by rw [Wv];exact hb,True.intro⟩
theorem AU:∀{xs ys:List Z3} {m:Nat},U3 ds nf m (xs++ys)↔U3 ds nf m xs/\U3 ds nf (m+YH xs) ys
 | [],ys,m=>by simp [U3,YH]
 | x::r,ys,m=>by
  rw [TK,U3,U3,AU (xs:=r),and_assoc,YH]
  by_cases h:YP x.op=true
  ·rw [Zw h,Zw h,Wv]
  ·rw [Zp h,Zp h,J7]
theorem D3 {xs:List Z3} {s:Z3} {m:Nat} (h:U3 ds nf m xs) (hs:fS ds nf (m+YH xs) s):U3 ds nf m (xs++[s]):=AU.2 ⟨h,hs,True.intro⟩
theorem BL:∀{xs:List Z3} {k m:Nat} {s:Z3},U3 ds nf m xs->xs[k]? = some s->fS ds nf (m+YH (xs.take k)) s
 | [],k,m,s,_,h=>by simp at h
 | x::r,0,m,s,hw,h=>by simp at h;subst h;exact hw.1
 | x::r,k+1,m,s,hw,h=>by
  have:=BL (xs:=r) (k:=k) hw.2 (by simpa using h)
  rw [Ax,YH]
  by_cases hc:YP x.op=true
  ·rw [Zw hc] at this ⊢;rw [Wv];exact this
  ·rw [Zp hc] at this ⊢;rw [<-J7];exact this
mutual
theorem Z6k:∀(s:Z3) {m:Nat},fS ds nf m s->m+4*s.sz<=900000000->Wh ds->wS ds s
 | .mk op num into args kids,m,h,hb,hd=>by
  rw [fS] at h
  obtain ⟨h1,h2,h3,h4,h5,h6,h7,h8,h9,h10,h11,h12⟩:=h
  rw [Z3.sz] at hb
  rw [wS]
  refine ⟨?_,fun hc=>h3 (show 14<=op/\op<=17 by simpa [YP] using hc).1,fun h8'=>⟨?_,h5 h8'⟩,NA kids h12 (fun k=>?_) hd⟩
  ·rcases h1 with h1|h1
   ·have e1:YP op=false:=by simp [YP];omega
    have e2:XF op=true:=by simp [XF];omega
    rw [e1,e2];rfl
   ·have e1:YP op=true:=by simp [YP];omega
    have e2:XF op=false:=by simp [XF];omega
    rw [e1,e2];rfl
  ·obtain ⟨a,ha⟩:=h6 (.inr h8')
   have:=h2 a (by rw [ha];exact Xp.2 rfl)
   exact ⟨a,ha,by omega⟩
  ·have hf:=VD hd (gI (Y2 ds num) k)
   show VK ds op num m k+4*YK kids<=900000003
   rw [VK];split<;>omega
theorem NA:∀(bs:List Z4) {sc:Nat->Nat} {k:Nat},Uq ds nf sc k bs->(∀k,sc k+4*YK bs<=900000003)->Wh ds->J4 ds bs
 | [],_,_,_,_,_=>True.intro
 | b::r,sc,k,h,hb,hd=>by
  have hp:=b.sz_eq
  exact ⟨Nz b h.1 (by have:=hb k;rw [YK] at this;omega) hd,NA r h.2 (fun j=>by have:=hb j;rw [YK] at this;omega) hd⟩
theorem NB:∀(xs:List Z3) {m:Nat},U3 ds nf m xs->m+4*Y5 xs<=900000000->Wh ds->TJ ds xs
 | [],_,_,_,_=>True.intro
 | s::r,m,h,hb,hd=>by
  rw [Y5] at hb
  have hp:=s.sz_pos
  refine ⟨Z6k s h.1 om hd,NB r h.2 ?_ hd⟩
  split<;>omega
theorem Nz:∀(b:Z4) {m:Nat},fB ds nf m b->m+4*b.sz<=900000004->Wh ds->wB ds b
 | .mk steps result,m,h,hb,hd=>by
  rw [Z4.sz] at hb
  rw [fB] at h
  rw [wB]
  exact NB steps h.1 om hd
end
mutual
theorem Z2m:∀(s:Z3) {m:Nat},fS ds nf m s->s.rng
 | .mk op num into args kids,m,h=>by
  rw [fS] at h
  obtain ⟨h1,h2,h3,h4,h5,h6,h7,h8,h9,h10,h11,h12⟩:=h
  rw [Z3.rng]
  exact ⟨by omega,M9 kids h12⟩
theorem M9:∀(bs:List Z4) {sc:Nat->Nat} {k:Nat},Uq ds nf sc k bs->QS bs
 | [],_,_,_=>True.intro
 | b::r,sc,k,h=>⟨G9 b h.1,M9 r h.2⟩
theorem Ma:∀(xs:List Z3) {m:Nat},U3 ds nf m xs->Kd xs
 | [],_,_=>True.intro
 | s::r,m,h=>⟨Z2m s h.1,Ma r h.2⟩
theorem G9:∀(b:Z4) {m:Nat},fB ds nf m b->b.rng
 | .mk steps result,m,h=>by rw [fB] at h;rw [Z4.rng];exact Ma steps h.1
end
end
structure FN (n:Zx) (q:Nat):Prop where
 decls:GD n.decls
 len:1<=n.routines.length/\n.routines.length<=4
 sigs:∀r∈n.routines,(r.params,r.result)∈QN
 lent:∀r∈n.routines,r.lent.length<=3/\∀i∈r.lent,0<=i/\i<r.params.length
 body:∀r∈n.routines,fB n.decls n.routines.length r.params.length r.body/\r.body.sz<=q
theorem FN.ok {n:Zx} {q:Nat} (h:FN n q):Xk n:=
 ⟨h.decls.ok,h.len.2,fun r hr=>(Ui.bd (f:=⟨r.params,r.result,default⟩) (h.sigs r hr)).1,fun r hr=>by have:=(h.lent r hr).1;omega⟩
def Pk (n k:Int):Prop:=0<=k/\(0<n->k<n)/\(n<=0->k=0)
theorem Pk.lt {n k:Int} (h:Pk n k) (hn:0<n):0<=k/\k<n:=⟨h.1,h.2.1 hn⟩
theorem Pk.zero {n:Int}:Pk n 0:=⟨Int.le_refl _,fun h=>h,fun _=>rfl⟩
theorem Pk.rem {n a:Int} (ha:0<=a) (hn:0<n):Pk n (a % n):=⟨Int.emod_nonneg _ om,fun _=>Int.emod_lt_of_pos _ hn,fun _=>by omega⟩
def AD (ds:List Zd):Prop:=ds.length<=8/\∀d∈ds,d.cons.length<=4/\∀c∈d.cons,c.fields.length<=4
theorem GD.ad {ds:List Zd} (h:GD ds):AD ds:=(by decide:∀ds∈KM,ds.length<=8/\∀d∈ds,d.cons.length<=4/\∀c∈d.cons,c.fields.length<=4) ds h
theorem AD.set {ds:List Zd} (h:AD ds) (k:Nat) {d:Zd} (hd:d.cons.length<=4/\∀c∈d.cons,c.fields.length<=4):AD (ds.set k d):=
 ⟨by rw [Uu];exact h.1,fun x hx=>(List.mem_or_eq_of_mem_set hx).elim (h.2 x) fun e=>by rw [e];exact hd⟩
theorem AD.app {ds es:List Zd} (h:AD ds) (hl:ds.length+es.length<=8) (hd:∀d∈es,d.cons.length<=4/\∀c∈d.cons,c.fields.length<=4):AD (ds++es):=
 ⟨by rw [Yk];exact hl,fun x hx=>(YU.1 hx).elim (h.2 x) (hd x)⟩
theorem GD.three:GD [Kz,⟨0,0,[]⟩,KA]:=List.Mem.head _
theorem GD.four:∀{k:Nat} {x:Zd},HA[k]? = some x->GD ([Kz,⟨0,0,[]⟩,KA]++[x])
 | 0,x,h=>by cases h;exact .tail _ (.head _)
 | 1,x,h=>by cases h;exact .tail _ (.tail _ (.head _))
 | 2,x,h=>by cases h;exact .tail _ (.tail _ (.tail _ (.head _)))
 | 3,x,h=>by cases h;exact .tail _ (.tail _ (.tail _ (.tail _ (.head _))))
 | k+4,x,h=>by simp [HA] at h
theorem Jz {l:LI} {z a b:Int} (h:z∈l) (hl:l.all (fun x=>decide (a<=x/\x<=b))=true):a<=z/\z<=b:=by
 have:=Kh.1 hl z h
 exact of_decide_eq_true this
def rk (t:Int):Nat:=if Ql t then 0 else 1
theorem G8 (t:Int):rk t<=1:=by rw [rk];split<;>omega
theorem M8 {t:Int} (h:Ql t):rk t=0:=Zw h
def SE (g:XJ) (q:Nat) (e:Z0):Prop:=(∀m,eW g.decls g.funcs.length m e)/\e.sz<=q
def GE (g:XJ) (m q:Nat) (e:Z0):Prop:=eW g.decls g.funcs.length m e/\e.sz<=q
theorem SE.ge {g:XJ} {q q' m:Nat} {e:Z0} (h:SE g q e) (hq:q<=q'):GE g m q' e:=⟨h.1 m,WK h.2 hq⟩
theorem GE.le {g:XJ} {m q q':Nat} {e:Z0} (h:GE g m q e) (hq:q<=q'):GE g m q' e:=⟨h.1,WK h.2 hq⟩
theorem CY {m:Nat}:∀{xs:List Z0},(∀e∈xs,e.sz<=m)->Xa xs<=xs.length*m
 | [],_=>T7 _
 | x::r,h=>by
  have h1:=h x (YZ ..)
  have h2:=CY (xs:=r) fun e he=>h e (Xr _ he)
  rw [Xa,YD,T6];omega
theorem Xe {α:Type} {p:α->Prop} {xs:List α} {a:α} (h:∀x∈xs,p x) (ha:p a):∀x∈xs++[a],p x:=fun x hx=>(YU.1 hx).elim (h x) fun q=>by rw [Xp.1 q];exact ha
theorem SE.int {g:XJ} {z:Int} {q:Nat} (hz:-2000<=z/\z<=2000) (hq:1<=q):SE g q (.mk 0 z []):=⟨fun _=>PL hz,by simpa [Z0.sz,Xa] using hq⟩
theorem SE.node {g:XJ} {op num:Int} {ys:List Z0} {q k:Nat} (ho:op=6∨op=10) (hn:0<=num/\num<=2000) (hy:∀e∈ys,SE g 1 e) (hl:ys.length<=k) (hk:k<=3) (hq:1+k<=q):SE g q (.mk op num ys):=by
 refine ⟨fun m=>A3 om (fun h=>by omega) om om fun e he=>(hy e he).1 m,?_⟩
 have:=CY (xs:=ys) (m:=1) fun e he=>(hy e he).2
 rw [Z0.sz];omega
def Je (ds:List Zd) (t c:Int):Prop:=(0<=c/\c<=9)/\(Y4 ds c).length<=3*rk t/\∀u∈Y4 ds c,Ql u
instance (ds:List Zd) (t c:Int):Decidable (Je ds t c):=inferInstanceAs (Decidable (_/\_/\_))
theorem Mt {ds:List Zd} (h:GD ds):∀t∈[(1:Int),2,3,4],∀c∈Y2 ds t,(t∈Y4 ds c->∀c0,(Y2 ds t)[0]? = some c0->Je ds t c0)/\(¬t∈Y4 ds c->Je ds t c):=by
 intro t ht c hc
 have k1:=(by decide:∀ds∈KM,∀t∈[(1:Int),2,3,4],∀c∈Y2 ds t,(t∈Y4 ds c->Je ds t (gI (Y2 ds t) 0))/\(¬t∈Y4 ds c->Je ds t c)) ds h t ht c hc
 refine ⟨fun q c0 h0=>?_,k1.2⟩
 have:=k1.1 q
 rwa [UN (i:=0) h0] at this
theorem Hx {ds:List Zd} (h:GD ds) {t c:Int} (hc:c∈Y2 ds t):t∈[(1:Int),2,3,4]:=by
 obtain ⟨_,h2,_⟩:=h.cons_cases hc
 rcases h2 with rfl|rfl|rfl<;>simp
theorem Z3g {ds:List Zd} (h:GD ds) {t c c0:Int} (hc:c∈Y2 ds t) (ht:t∈Y4 ds c) (h0:(Y2 ds t)[0]? = some c0):Je ds t c0:=(Mt h t (Hx h hc) c hc).1 ht c0 h0
theorem Z3f {ds:List Zd} (h:GD ds) {t c:Int} (hc:c∈Y2 ds t) (ht:¬t∈Y4 ds c):Je ds t c:=(Mt h t (Hx h hc) c hc).2 ht
theorem Z2l {ds:List Zd} (h:GD ds) {t:Int} (h0:(Y2 ds t).length=0) (ht:0<t):rk t=1:=by
 rw [rk,Zp]
 rintro (q|q|q)
 ·omega
 ·rw [q,h.low.2.1] at h0;cases h0
 ·rw [q,h.low.2.2.2.1] at h0;cases h0
def Km (g:XJ) (t i:Int):Prop:=0<=i/\∃f,g.funcs[i.toNat]? = some f/\0<f.params.length/\QP g.decls (gI f.params ((f.params.length:Int)-1)) f.result=t
theorem Km.lt {g:XJ} {t i:Int} (h:Km g t i):0<=i/\i<g.funcs.length:=by
 obtain ⟨h1,f,h2,_⟩:=h
 have:=(XA.1 h2).1
 omega
theorem Km.mk {g:XJ} {t x2:Int} {k:Nat} {f:Func} (hf:g.funcs[k]? = some f) (hl:0<f.params.length) (hx:f.params[f.params.length-1]? = some x2) (ha:QP g.decls x2 f.result=t):Km g t (k:Int):=by
 refine ⟨by omega,f,by simpa using hf,hl,?_⟩
 rw [UN (i:=(f.params.length:Int)-1) (by rw [show ((f.params.length:Int)-1).toNat=f.params.length-1 by omega];exact hx)]
 exact ha
theorem Km.low {g:XJ} {t i u:Int} {f:Func} {j:Nat} (hg:GP g) (h:Km g t i) (ht:0<t) (hf:g.funcs[i.toNat]? = some f) (hj:j+1<f.params.length) (hu:f.params[j]? = some u):rk u=0:=by
 obtain ⟨_,f',h2,_,h4⟩:=h
 have e:f'=f:=Ay (h2.symm.trans hf)
 subst e
 have h5:=(hg.sigs f' (ZW hf)).clo hg.decls (by rw [h4];exact ht)
 refine M8 (h5 u ?_)
 rw [List.dropLast_eq_take]
 exact ZW (i:=j) (by rw [List.getElem?_take_of_lt om];exact hu)
end Go.Abs
section
namespace Go.Abs
theorem QR (b:Nat):bS b=max 4 (10*b-10):=rfl
theorem QQ (b:Nat):bC b=max 40 (100*b-100):=rfl
theorem C4 {L q b:Nat} (hL:L<=3) (hb:3<=b) (hq:L*q<=b-1):1+L*bS q<=bS b:=by
 rw [QR,QR]
 have:L=0∨L=1∨L=2∨L=3:=by omega
 rcases this with rfl|rfl|rfl|rfl<;>omega
theorem Z15 {L q b:Nat} (hL:L<=3) (hb:3<=b) (hq:L*q<=b-2):5+L*bS q<=bS b:=by
 rw [QR,QR]
 have:L=0∨L=1∨L=2∨L=3:=by omega
 rcases this with rfl|rfl|rfl|rfl<;>omega
theorem Z11 {b:Nat} (hb:3<=b):1+(bS (b / 2)+bS (b / 2))<=bS b:=by rw [QR,QR];omega
theorem O8 {b:Nat} (hb:3<=b):5+bS (b-2)<=bS b:=by rw [QR,QR];omega
theorem KW {L q b:Nat} (hL:L<=3) (hb:3<=b) (hq:L*q<=b-1):10+L*bC q<=bC b:=by
 rw [QQ,QQ]
 have:L=0∨L=1∨L=2∨L=3:=by omega
 rcases this with rfl|rfl|rfl|rfl<;>omega
theorem Z14 {L q b:Nat} (hL:L<=3) (hb:3<=b) (hq:L*q<=b-2):40+L*bC q<=bC b:=by
 rw [QQ,QQ]
 have:L=0∨L=1∨L=2∨L=3:=by omega
 rcases this with rfl|rfl|rfl|rfl<;>omega
theorem Z10 {b:Nat} (hb:3<=b):10+(bC (b / 2)+bC (b / 2))<=bC b:=by rw [QQ,QQ];omega
theorem O7 {b:Nat} (hb:3<=b):40+bC (b-2)<=bC b:=by rw [QQ,QQ];omega
theorem He (b:Nat):4<=bS b:=by rw [QR];omega
theorem Hc (b:Nat):40<=bC b:=by rw [QQ];omega
theorem UL (L b:Nat):L*(b / L)<=b:=Nat.mul_div_le b L
theorem Lk {k L C:Nat} (h:k<L):(k+1)*C=k*C+C/\(k+1)*C<=L*C:=⟨by rw [T6,Nat.one_mul],Tt C h⟩
theorem Bi {ds:List Zd} {d x:Int} {m k:Nat} (h:(Y2 ds d)[k]? = some x):UG ds 8 d m (1+k)=m+(Y4 ds x).length:=by
 rw [UG,Zp om,Zw rfl,Zp om,UN (i:=((1+k:Nat):Int)-1) (by rw [show (((1+k:Nat):Int)-1).toNat=k by omega];exact h)]
section
variable {g:XJ} {m:Nat}
theorem GE.var {z:Int} {q:Nat} (hz:0<=z/\z<m) (hm:m<=2000) (hq:1<=q):GE g m q (.mk 12 z []):=⟨PM hz hm,by simpa [Z0.sz,Xa] using hq⟩
theorem GE.list {ys:List Z0} {L s:Nat} (h:∀e∈ys,GE g m s e) (hl:ys.length=L):Xa ys<=L*s:=by rw [<-hl];exact CY fun e he=>(h e he).2
theorem GE.node {op num:Int} {ys:List Z0} {L s q:Nat} (ho:0<=op/\op<=11/\op≠7/\op≠8) (hc:op=9->0<=num/\num<g.funcs.length) (hn:-2000<=num/\num<=2000) (h:∀e∈ys,GE g m s e) (hl:ys.length=L) (hL:L<=3) (hq:1+L*s<=q):GE g m q (.mk op num ys):=by
 have:=GE.list h hl
 exact ⟨A3 ho hc hn om fun e he=>(h e he).1,by rw [Z0.sz];omega⟩
theorem GE.if_ {num:Int} {ys:List Z0} {s q:Nat} (hn:-2000<=num/\num<=2000) (h:∀e∈ys,GE g m s e) (hl:ys.length=3) (hq:1+3*s<=q):GE g m q (.mk 7 num ys):=by
 have:=GE.list h hl
 exact ⟨HJ hn hl fun e he=>(h e he).1,by rw [Z0.sz];omega⟩
theorem GE.let_ {a b:Z0} {s q:Nat} (ha:GE g m s a) (hb:GE g (m+1) s b) (hq:1+(s+s)<=q):GE g m q (.mk 13 0 [a,b]):=by
 refine ⟨HK om ha.1 hb.1,?_⟩
 have h1:=ha.2
 have h2:=hb.2
 simp only [Z0.sz,Xa];omega
theorem GE.two {op num:Int} {a b:Z0} {s1 s2 q:Nat} (ho:0<=op/\op<=11/\op≠7/\op≠8/\op≠9) (hn:-2000<=num/\num<=2000) (ha:GE g m s1 a) (hb:GE g m s2 b) (hq:1+(s1+s2)<=q):GE g m q (.mk op num [a,b]):=by
 refine ⟨A3 om (fun h=>by omega) hn (by simp) fun e he=>?_,?_⟩
 ·rcases Yr.1 he with rfl|he
  ·exact ha.1
  ·rw [Xp.1 he];exact hb.1
 ·have h1:=ha.2
  have h2:=hb.2
  simp only [Z0.sz,Xa];omega
theorem GE.match_ {d:Int} {e:Z0} {ys:List Z0} {L s q:Nat} (hd:-2000<=d/\d<=2000) (he:GE g m 4 e) (hw:Tx g.decls g.funcs.length (UG g.decls 8 d m) 1 ys) (hs:∀e∈ys,e.sz<=s) (hl:ys.length=L) (hL:L=(Y2 g.decls d).length) (h3:L<=3) (hq:5+L*s<=q):GE g m q (.mk 8 d (e::ys)):=by
 refine ⟨F3 hd om om he.1 hw,?_⟩
 have h1:=CY hs
 rw [hl] at h1
 have h2:=he.2
 rw [Z0.sz,Xa];omega
end
def NL (s:Nat) (left w:Int):Prop:=((s:Int)<=left/\w=left-s)∨(left<s/\w=-1)
end Go.Abs
namespace Go.Abs
theorem Aj {L b p pp M:Nat} (hL:L<=3) (hb:3<=b) (h:pp<=p+8) (hp:p+(bC b-1)<=M):pp+L*bC ((b-1) / L)<=M:=by
 have:=KW hL hb (UL L (b-1))
 omega
end Go.Abs
end
namespace Go.Abs
theorem PR (a b:Z0):Xa [a,b]=a.sz+b.sz:=by simp only [Xa];omega
theorem CX (a b c:Z0):Xa [a,b,c]=a.sz+b.sz+c.sz:=by simp only [Xa];omega
theorem BB:bS 3=20/\bS 4=30/\bS 12=110/\bS 16=150/\bS 18=170/\bC 3=200/\bC 4=300/\bC 16=1500:=by decide
theorem CF {b:Nat} (h:b<=20):bS b<=190/\bC b<=1900/\(b<=2->bS b<=10):=by rw [QR,QQ];omega
section
variable {g:XJ} {m:Nat}
theorem SE.ofs {op num:Int} {ys:List Z0} {q:Nat} (ho:0<=op/\op<=11/\op≠7/\op≠8/\op≠9) (hn:-2000<=num/\num<=2000) (hl:ys.length<=4) (hy:∀e∈ys,∃s,SE g s e) (hq:1+Xa ys<=q):SE g q (.mk op num ys):=
 ⟨fun m=>A3 om (fun h=>by omega) hn hl fun e he=>let ⟨_,h⟩:=hy e he;h.1 m,by rw [Z0.sz];exact hq⟩
theorem SE.nil {op num:Int} {q:Nat} (ho:0<=op/\op<=11/\op≠7/\op≠8/\op≠9) (hn:-2000<=num/\num<=2000) (hq:1<=q):SE g q (.mk op num []):=
 SE.ofs ho hn (by simp) (fun e he=>by cases he) (by simpa [Xa] using hq)
theorem SE.two {op num:Int} {a b:Z0} {s1 s2 q:Nat} (ho:0<=op/\op<=11/\op≠7/\op≠8/\op≠9) (hn:-2000<=num/\num<=2000) (ha:SE g s1 a) (hb:SE g s2 b) (hq:1+(s1+s2)<=q):SE g q (.mk op num [a,b]):=by
 refine SE.ofs ho hn (by simp) (fun e he=>?_) ?_
 ·rcases Yr.1 he with rfl|he
  ·exact ⟨_,ha⟩
  ·rw [Xp.1 he];exact ⟨_,hb⟩
 ·have h1:=ha.2
  have h2:=hb.2
  rw [PR];omega
theorem SE.three {op num:Int} {a b c:Z0} {s1 s2 s3 q:Nat} (ho:0<=op/\op<=11/\op≠7/\op≠8/\op≠9) (hn:-2000<=num/\num<=2000) (ha:SE g s1 a) (hb:SE g s2 b) (hc:SE g s3 c) (hq:1+(s1+s2+s3)<=q):SE g q (.mk op num [a,b,c]):=by
 refine SE.ofs ho hn (by simp) (fun e he=>?_) ?_
 ·rcases Yr.1 he with rfl|he
  ·exact ⟨_,ha⟩
  ·rcases Yr.1 he with rfl|he
   ·exact ⟨_,hb⟩
   ·rw [Xp.1 he];exact ⟨_,hc⟩
 ·have h1:=ha.2
  have h2:=hb.2
  have h3:=hc.2
  rw [CX];omega
theorem GE.int {z:Int} {q:Nat} (hz:-2000<=z/\z<=2000) (hq:1<=q):GE g m q (.mk 0 z []):=(SE.int (g:=g) (q:=q) hz hq).ge (YQ _)
theorem GE.three {op num:Int} {a b c:Z0} {s1 s2 s3 q:Nat} (ho:0<=op/\op<=11/\op≠8/\op≠9) (hn:-2000<=num/\num<=2000) (ha:GE g m s1 a) (hb:GE g m s2 b) (hc:GE g m s3 c) (hq:1+(s1+s2+s3)<=q):GE g m q (.mk op num [a,b,c]):=by
 have hk:∀e∈[a,b,c],eW g.decls g.funcs.length m e:=fun e he=>by
  rcases Yr.1 he with rfl|he
  ·exact ha.1
  ·rcases Yr.1 he with rfl|he
   ·exact hb.1
   ·rw [Xp.1 he];exact hc.1
 refine ⟨?_,?_⟩
 ·by_cases h7:op=7
  ·subst h7;exact HJ hn rfl hk
  ·exact A3 om (fun h=>by omega) hn (by simp) hk
 ·have h1:=ha.2
  have h2:=hb.2
  have h3:=hc.2
  rw [Z0.sz,CX];omega
theorem GE.one {op num:Int} {a:Z0} {s1 q:Nat} (ho:0<=op/\op<=11/\op≠7/\op≠8/\op≠9) (hn:-2000<=num/\num<=2000) (ha:GE g m s1 a) (hq:1+s1<=q):GE g m q (.mk op num [a]):=by
 refine ⟨A3 om (fun h=>by omega) hn (by simp) fun e he=>?_,?_⟩
 ·rw [Xp.1 he];exact ha.1
 ·have h1:=ha.2
  simp only [Z0.sz,Xa];omega
theorem GE.letS {a b:Z0} {s1 s2 q:Nat} (ha:GE g m s1 a) (hb:GE g (m+1) s2 b) (hq:1+(s1+s2)<=q):GE g m q (.mk 13 0 [a,b]):=by
 refine ⟨HK om ha.1 hb.1,?_⟩
 have h1:=ha.2
 have h2:=hb.2
 simp only [Z0.sz,Xa];omega
theorem GE.matchL (hg:GP g) {e a b:Z0} {s1 s2 s3 q:Nat} (he:GE g m s1 e) (ha:GE g m s2 a) (hb:GE g (m+2) s3 b) (hq:1+(s1+s2+s3)<=q):GE g m q (.mk 8 1 [e,a,b]):=by
 have hl:=hg.decls.low
 refine ⟨F3 om (by simp) (by rw [hl.2.1];rfl) he.1 ⟨?_,?_,True.intro⟩,?_⟩
 ·rw [Bi (k:=0) (x:=0) (by rw [hl.2.1];rfl),hl.2.2.2.2.1];exact ha.1
 ·rw [Bi (k:=1) (x:=1) (by rw [hl.2.1];rfl),hl.2.2.2.2.2.1];exact hb.1
 ·have h1:=he.2
  have h2:=ha.2
  have h3:=hb.2
  rw [Z0.sz,CX];omega
theorem GE.matchT (hg:GP g) {e a b:Z0} {s1 s2 s3 q:Nat} (he:GE g m s1 e) (ha:GE g m s2 a) (hb:GE g (m+3) s3 b) (hq:1+(s1+s2+s3)<=q):GE g m q (.mk 8 3 [e,a,b]):=by
 have hl:=hg.decls.low
 refine ⟨F3 om (by simp) (by rw [hl.2.2.2.1];rfl) he.1 ⟨?_,?_,True.intro⟩,?_⟩
 ·rw [Bi (k:=0) (x:=2) (by rw [hl.2.2.2.1];rfl),hl.2.2.2.2.2.2.1];exact ha.1
 ·rw [Bi (k:=1) (x:=3) (by rw [hl.2.2.2.1];rfl),hl.2.2.2.2.2.2.2];exact hb.1
 ·have h1:=he.2
  have h2:=ha.2
  have h3:=hb.2
  rw [Z0.sz,CX];omega
theorem Et {α:Type} {p:α->Prop} {a:α} (h:p a):∀x∈[a],p x:=fun x hx=>by rw [Xp.1 hx];exact h
end
structure Eh (g:XJ):Prop where
 gp:GP g
 body:∀f∈g.funcs,eW g.decls g.funcs.length f.params.length f.body/\f.body.sz<=30
structure GL (ds:List Zd) (k j:Nat) (rq:List Func):Prop where
 len:rq.length=4
 sigs:∀f∈rq,Ui f
 zero:∀f,rq[0]? = some f->f.params.length=0
 body:∀i f,j<=i->i<k->rq[i]? = some f->eW ds k f.params.length f.body/\f.body.sz<=30
theorem GL.gp {ds:List Zd} {k j:Nat} {rq:List Func} (h:GL ds k j rq) (hd:GD ds) (hk:1<=k/\k<=4):GP ⟨ds,rq.take k⟩:=
 ⟨hd,by show 1<=(rq.take k).length/\_;rw [Wr,h.len];omega,fun f hf=>h.sigs f (Ts hf)⟩
theorem GL.len_take {ds:List Zd} {k j:Nat} {rq:List Func} (h:GL ds k j rq) (hk:k<=4):(rq.take k).length=k:=by rw [Wr,h.len];omega
theorem GL.set {ds:List Zd} {k j:Nat} {rq:List Func} {f:Func} {e:Z0} (h:GL ds k j rq) (hj:1<=j) (hf:rq[j-1]? = some f) (he:eW ds k f.params.length e/\e.sz<=30):GL ds k (j-1) (rq.set (j-1) ⟨f.params,f.result,e⟩):=by
 have hl:=(XA.1 hf).1
 refine ⟨by rw [Uu];exact h.len,fun x hx=>?_,fun x hx=>?_,fun i x h1 h2 hx=>?_⟩
 ·rcases List.mem_or_eq_of_mem_set hx with hx|rfl
  ·exact h.sigs x hx
  ·exact h.sigs f (ZW hf)
 ·rw [List.getElem?_set] at hx
  split at hx
  ·rename_i h0
   cases hx
   exact h.zero f (by rw [<-h0];exact hf)
  ·exact h.zero x hx
 ·rw [List.getElem?_set] at hx
  split at hx
  ·cases hx
   exact he
  ·exact h.body i x om h2 hx
theorem GL.done {ds:List Zd} {k:Nat} {rq:List Func} (h:GL ds k 0 rq) (hd:GD ds) (hk:1<=k/\k<=4):Eh ⟨ds,rq.take k⟩:=by
 refine ⟨h.gp hd hk,fun f hf=>?_⟩
 show eW ds (rq.take k).length _ _/\_
 rw [h.len_take hk.2]
 obtain ⟨i,hi⟩:=List.getElem?_of_mem hf
 have hi2:i<(rq.take k).length:=(XA.1 hi).1
 rw [h.len_take hk.2] at hi2
 rw [List.getElem?_take_of_lt hi2] at hi
 exact h.body i f om hi2 hi
theorem Gk {l:List Func} {f:Func} {k:Nat} (h:l[k]? = some f) (hl:l.all (fun f=>decide ((f.params,f.result)∈QN))=true):Ui f:=show (f.params,f.result)∈QN from of_decide_eq_true (Kh.1 hl f (ZW h))
theorem GL.start {ds:List Zd} {k:Nat} {e:Z0} {a b c:Func} (ha:Ui a) (hb:Ui b) (hc:Ui c):GL ds k k [⟨[],0,e⟩,a,b,c]:=by
 refine ⟨rfl,fun f hf=>?_,fun f hf=>?_,fun i f h1 h2=>by omega⟩
 ·rcases Yr.1 hf with rfl|hf
  ·exact List.Mem.head _
  ·rcases Yr.1 hf with rfl|hf
   ·exact ha
   ·rcases Yr.1 hf with rfl|hf
    ·exact hb
    ·rw [Xp.1 hf];exact hc
 ·cases hf;rfl
theorem Z1k {l:LI} {k:Nat} {a b:Nat} (h:(k:Int)∈l) (hl:l.all (fun x=>decide ((a:Int)<=x/\x<=b))=true):a<=k/\k<=b:=by
 have:=of_decide_eq_true (Kh.1 hl _ h)
 omega
mutual
def TF (p:Int->Prop):Z3->Prop
 | .mk op _ _ _ kids=>p op/\TE p kids
def TE (p:Int->Prop):List Z4->Prop
 | []=>True
 | b::r=>WE p b/\TE p r
def UD (p:Int->Prop):List Z3->Prop
 | []=>True
 | s::r=>TF p s/\UD p r
def WE (p:Int->Prop):Z4->Prop
 | .mk steps _=>UD p steps
end
section
variable {p q:Int->Prop}
theorem C9 (s:Z3):TF p s↔p s.op/\TE p s.kids:=by cases s;rw [TF];rfl
theorem DB (b:Z4):WE p b↔UD p b.steps:=by cases b;rw [WE];rfl
theorem Ba:∀{xs:List Z4},TE p xs↔∀b∈xs,WE p b
 | []=>by simp [TE]
 | b::r=>by rw [TE,Ba];simp
theorem Am:∀{xs:List Z3},UD p xs↔∀b∈xs,TF p b
 | []=>by simp [UD]
 | b::r=>by rw [UD,Am];simp
theorem DC {xs ys:List Z3}:UD p (xs++ys)↔UD p xs/\UD p ys:=by simp only [Am,YU];exact ⟨fun h=>⟨fun b hb=>h b (.inl hb),fun b hb=>h b (.inr hb)⟩,fun h b hb=>hb.elim (h.1 b) (h.2 b)⟩
theorem Lw {xs:List Z4} {b:Z4} (h:TE p xs) (hb:WE p b):TE p (xs++[b]):=Ba.2 (Xe (Ba.1 h) hb)
theorem DD {xs:List Z3} {b:Z3} (h:UD p xs) (hb:TF p b):UD p (xs++[b]):=Am.2 (Xe (Am.1 h) hb)
end
def Wd (op:Int):Prop:=op<=11
def WM (op:Int):Prop:=op<=15
end Go.Abs
section
namespace Go.Abs
structure LW (ds:List Zd) (nf q:Nat) (e:Z0) (ys:List Z3) (v:Int):Prop where
 fs:U3 ds nf q ys
 v:0<=v/\v<(q+YH ys:Nat)
 sz:Y5 ys<=6*e.sz
 op:UD Wd ys
theorem LW.dn {ds:List Zd} {nf q:Nat} {e:Z0} {ys:List Z3} {v:Int} (h:LW ds nf q e ys v):YH ys<=6*e.sz/\ys.length<=6*e.sz:=by
 have h1:=Jl ys
 have h2:=QG ys
 have h3:=h.sz
 omega
structure LB (ds:List Zd) (nf q:Nat) (e:Z0) (b:Z4):Prop where
 fb:fB ds nf q b
 sz:b.sz<=1+6*e.sz
 op:WE Wd b
section
variable {ds:List Zd} {nf q:Nat}
theorem BC:∀xs ys:List Z4,YK (xs++ys)=YK xs+YK ys
 | [],ys=>by simp [YK]
 | x::r,ys=>by rw [TK,YK,YK,BC r];omega
theorem LW.block {e:Z0} {ys:List Z3} {v:Int} (h:LW ds nf q e ys v):LB ds nf q e ⟨ys,v⟩:=
 ⟨by rw [fB];exact ⟨h.fs,h.v⟩,by rw [Z4.sz];have:=h.sz;omega,by rw [WE];exact h.op⟩
theorem LW.var {e:Z0} {v:Int} (hv:0<=v/\v<q):LW ds nf q e [] v:=⟨True.intro,by simpa [YH] using hv,by simp [Y5],True.intro⟩
theorem LW.let_ {e a b:Z0} {ys zs:List Z3} {v1 v2:Int} (ha:LW ds nf q a ys v1) (hb:LW ds nf (q+YH ys) b zs v2) (he:a.sz+b.sz<e.sz):LW ds nf q e (ys++zs) v2:=by
 refine ⟨AU.2 ⟨ha.fs,hb.fs⟩,by rw [Qw,<-J7];exact hb.v,?_,DC.2 ⟨ha.op,hb.op⟩⟩
 have h1:=ha.sz
 have h2:=hb.sz
 rw [Un];omega
theorem BF {ys:List Z3} {s:Z3} (h:YP s.op=false):YH (ys++[s])=YH ys+1:=by
 rw [Qw]
 simp [YH,h]
theorem LW.node {e:Z0} {ys:List Z3} {as1:LI} (ho:0<=e.op/\e.op<=11/\e.op≠7/\e.op≠8) (hc:e.op=9->0<=e.num/\e.num<nf) (hn:-2000<=e.num/\e.num<=2000) (hf:U3 ds nf q ys) (ha:∀a∈as1,0<=a/\a<(q+YH ys:Nat)) (hl:as1.length<=4) (hs:Y5 ys<=6*Xa e.kids) (hop:UD Wd ys) :
  LW ds nf q e (ys++[⟨e.op,e.num,0,as1,[]⟩]) ((q+YH ys:Nat):Int):=by
 have hcb:YP e.op=false:=by simp [YP];omega
 refine ⟨D3 hf ?_,?_,?_,DD hop (by rw [TF];exact ⟨by show e.op<=11;omega,True.intro⟩)⟩
 ·rw [fS]
  exact ⟨.inl ⟨by omega,by omega⟩,ha,fun h=>by omega,fun h=>by omega,fun h=>by omega,fun h=>by omega,hc,hn,by omega,hl,fun _=>rfl,True.intro⟩
 ·rw [BF (show YP (Z3.mk e.op e.num 0 as1 []).op=false from hcb)];omega
 ·rw [Un,e.sz_eq]
  simp only [Y5,Z3.sz,YK]
  omega
theorem LW.branch {e:Z0} {ys:List Z3} {v:Int} {bs:List Z4} {s0 sr:Nat} (ho:e.op=7∨e.op=8) (h7:e.op=7->bs.length=2) (h8:e.op=8->bs.length=(Y2 ds e.num).length) (hn:-2000<=e.num/\e.num<=2000) (hf:U3 ds nf q ys) (hv:0<=v/\v<(q+YH ys:Nat))
  (hb:Uq ds nf (VK ds e.op e.num (q+YH ys)) 0 bs) (hl:bs.length<=3) (h0:Y5 ys<=6*s0) (h1:YK bs<=bs.length+6*sr) (hs:s0+sr<=Xa e.kids) (hop:UD Wd ys) (hob:TE Wd bs):LW ds nf q e (ys++[⟨e.op,e.num,0,[v],bs⟩]) ((q+YH ys:Nat):Int):=by
 have hcb:YP e.op=false:=by simp [YP];omega
 refine ⟨D3 hf ?_,?_,?_,DD hop (by rw [TF];exact ⟨by show e.op<=11;omega,hob⟩)⟩
 ·rw [fS]
  exact ⟨.inl ⟨by omega,by omega⟩,fun a ha=>by rw [Xp.1 ha];exact hv,fun h=>by omega,h7,h8,fun _=>⟨v,rfl⟩,fun h=>by omega,hn,by omega,by simp,fun h=>by omega,hb⟩
 ·rw [BF (show YP (Z3.mk e.op e.num 0 [v] bs).op=false from hcb)];omega
 ·rw [Un,e.sz_eq]
  simp only [Y5,Z3.sz,YD,X8]
  omega
theorem Mr {ds:List Zd} {op num:Int} {m k:Nat} (h:op=13):UG ds op num m k=m+k:=Zw h
theorem Z3d {ds:List Zd} {op num:Int} {m:Nat} (h:op≠13):UG ds op num m 0=m:=by simp [UG,h]
theorem Ms {ds:List Zd} {op num:Int} {m k:Nat} (h:op≠13/\op≠8):UG ds op num m k=m:=by simp [UG,h.1,h.2]
theorem Z3e {ds:List Zd} {op num x:Int} {m k j:Nat} (h:op=8) (hk:k=j+1) (hx:(Y2 ds num)[j]? = some x):UG ds op num m k=m+(Y4 ds x).length:=by
 subst h;subst hk;rw [Nat.add_comm j 1];exact Bi hx
theorem Gi {ds:List Zd} {op num x:Int} {m j:Nat} (h:op=8) (hx:(Y2 ds num)[j]? = some x):VK ds op num m j=m+(Y4 ds x).length:=by
 rw [VK,Zw h,UN (i:=(j:Int)) (by simpa using hx)]
theorem Gj {ds:List Zd} {op num:Int} {m j:Nat} (h:op≠8):VK ds op num m j=m:=Zp h
theorem Jn {xs:List Z0} {k:Nat} {e:Z0} (h:xs[k]? = some e):Xa (xs.take (k+1))=Xa (xs.take k)+e.sz:=by rw [Vh h,BH,Xa,Xa];rfl
theorem KG {xs:List Z0} (k:Nat):Xa (xs.take k)<=Xa xs:=by
 have h:=Ys Xa (Uo k xs)
 rw [BH] at h;omega
theorem HQ {xs:List Z0} {a b:Z0} (ha:xs[0]? = some a) (hb:xs[1]? = some b):a.sz+b.sz<=Xa xs:=by
 have h1:Xa (xs.take 1)=Xa (xs.take 0)+a.sz:=Jn ha
 have h2:Xa (xs.take 2)=Xa (xs.take 1)+b.sz:=Jn hb
 have h3:=KG (xs:=xs) 2
 omega
theorem Cp {us:LI} {v:Int} {d:Nat} (hu:∀a∈us,0<=a/\a<(q:Int)) (hv:0<=v/\v<(q+d:Nat)):∀a∈us++[v],0<=a/\a<((q+d:Nat):Int):=
 Xe (fun a ha=>by have:=hu a ha;omega) hv
theorem E4 {us:LI} {d:Nat} (hu:∀a∈us,0<=a/\a<(q:Int)):∀a∈us,0<=a/\a<((q+d:Nat):Int):=fun a ha=>by have:=hu a ha;omega
theorem Z5v {us ns:LI} {d mf:Nat} (hu:∀a∈us,0<=a/\a<(q:Int)) (hn:∀i∈ns,((q+d:Nat):Int)<=i/\i<((q+d:Nat):Int)+mf):∀a∈us++ns,0<=a/\a<((q+d+mf:Nat):Int):=fun a ha=>by
 rcases YU.1 ha with h|h
 ·have:=hu a h;omega
 ·have:=hn a h;omega
theorem CH:∀bs:List Z4,bs.length<=YK bs
 | []=>YQ _
 | b::r=>by have:=CH r;have:=b.sz_pos;rw [YK,YD];omega
end
end Go.Abs
namespace Go.Abs
structure RF (ds:List Zd) (nf q:Nat) (p:Int->Prop) (r:Y8):Prop where
 sig:(r.params,r.result)∈QN
 lent:r.lent.length<=3/\∀i∈r.lent,0<=i/\i<r.params.length
 body:fB ds nf r.params.length r.body/\r.body.sz<=q
 op:WE p r.body
structure FO (n:Zx) (q:Nat) (p:Int->Prop):Prop where
 fn:FN n q
 op:∀r∈n.routines,WE p r.body
theorem FO.rf {n:Zx} {q:Nat} {p:Int->Prop} (h:FO n q p) {r:Y8} (hr:r∈n.routines):RF n.decls n.routines.length q p r:=⟨h.fn.sigs r hr,h.fn.lent r hr,h.fn.body r hr,h.op r hr⟩
theorem FO.all {n:Zx} {q:Nat} {p:Int->Prop} (hd:GD n.decls) (hl:1<=n.routines.length/\n.routines.length<=4) (h:∀r∈n.routines,RF n.decls n.routines.length q p r):FO n q p:=
 ⟨⟨hd,hl,fun r hr=>(h r hr).sig,fun r hr=>(h r hr).lent,fun r hr=>(h r hr).body⟩,fun r hr=>(h r hr).op⟩
structure RN (ds:List Zd) (nf:Nat) (r:Y8):Prop where
 sig:(r.params,r.result)∈QN
 lent:r.lent=[]
 body:fB ds nf r.params.length r.body/\r.body.sz<=181
 op:WE Wd r.body
theorem RN.all {n:Zx} {q:Nat} (hd:GD n.decls) (hl:1<=n.routines.length/\n.routines.length<=4) (h:∀r∈n.routines,RN n.decls n.routines.length r) (hq:181<=q):FO n q Wd:=
 FO.all hd hl fun r hr=>⟨(h r hr).sig,by rw [(h r hr).lent];exact ⟨by simp,fun i hi=>by cases hi⟩,⟨(h r hr).body.1,WK (h r hr).body.2 hq⟩,(h r hr).op⟩
end Go.Abs
namespace Go.Abs
theorem RN.of {ds:List Zd} {nf:Nat} {ps:LI} {rt:Int} {b:Z4} {e:Z0} (hs:(ps,rt)∈QN) (h:LB ds nf ps.length e b) (he:e.sz<=30):RN ds nf ⟨ps,[],rt,Z4.mk b.steps b.result⟩:=by
 have e1:Z4.mk b.steps b.result=b:=by cases b;rfl
 rw [e1]
 exact ⟨hs,rfl,⟨h.fb,by have:=h.sz;show b.sz<=181;omega⟩,h.op⟩
end Go.Abs
end
namespace Go.Abs
theorem Gv:∀{xs:List Z3} {s:Z3},s∈xs->s.sz<=Y5 xs
 | [],s,h=>by cases h
 | x::r,s,h=>by
  rw [Y5]
  rcases Yr.1 h with rfl|h
  ·omega
  ·have:=Gv h;omega
theorem Ez:∀{xs:List Z4} {b:Z4},b∈xs->b.sz<=YK xs
 | [],b,h=>by cases h
 | x::r,b,h=>by
  rw [YK]
  rcases Yr.1 h with rfl|h
  ·omega
  ·have:=Ez h;omega
structure LC (n:Zx) (k:Nat) (xs:List LI):Prop where
 len:xs.length=k
 ok:∀(i:Nat) (l:LI),xs[i]? = some l->l.length<=3/\∀r,n.routines[i]? = some r->∀v∈l,0<=v/\v<(r.params.length:Int)
theorem LC.nil {n:Zx}:LC n 0 []:=⟨rfl,fun i l h=>by simp at h⟩
theorem LC.snoc {n:Zx} {k:Nat} {xs:List LI} {l:LI} (h:LC n k xs) (hl:l.length<=3) (hv:∀r,n.routines[k]? = some r->∀v∈l,0<=v/\v<(r.params.length:Int)):LC n (k+1) (xs++[l]):=by
 refine ⟨by rw [Yk,h.len];rfl,fun i l' hi=>?_⟩
 by_cases hk:i<xs.length
 ·rw [Cv hk] at hi
  exact h.ok i l' hi
 ·rw [Ec om] at hi
  have h0:i-xs.length=0:=by
   cases e:i-xs.length with
   | zero=>rfl
   | succ q=>rw [e] at hi;simp at hi
  rw [h0] at hi
  cases hi
  have e:i=k:=by have:=h.len;omega
  subst e
  exact ⟨hl,hv⟩
def WC:LI->Int->LI
 | [],y=>[y]
 | x::r,y=>if x>y then y::x::r else if x=y then x::r else x::WC r y
def UW (d:Bool) (xs:LI) (y:Int):LI:=if d=true then xs else WC xs y
theorem Dl {xs:LI} {y:Int}:UW true xs y=xs:=rfl
theorem Dk {xs:LI} {y:Int}:UW false xs y=WC xs y:=rfl
theorem IJ {xs acc r:LI} {y x:Int} {k:Nat} {d:Bool} (hx:xs[k]? = some x) (hd:d=true) (h:acc++UW d (xs.drop k) y=r):(acc++[x])++UW d (xs.drop (k+1)) y=r:=by
 subst hd
 rw [Dl,Yo hx] at h
 rw [Dl,<-h];simp
theorem Z00 {xs acc r:LI} {y x:Int} {k:Nat} {d:Bool} (hx:xs[k]? = some x) (hd:¬d=true) (hl:¬x>=y) (h:acc++UW d (xs.drop k) y=r):(acc++[x])++UW d (xs.drop (k+1)) y=r:=by
 have hd:=Ct.2 hd
 subst hd
 rw [Dk,Yo hx,WC,Zp om,Zp om] at h
 rw [Dk,<-h];simp
theorem Z01 {xs acc r:LI} {y x:Int} {k:Nat} {d:Bool} (hx:xs[k]? = some x) (hd:¬d=true) (hl:x>y) (h:acc++UW d (xs.drop k) y=r):((acc++[y])++[x])++UW true (xs.drop (k+1)) y=r:=by
 have hd:=Ct.2 hd
 subst hd
 rw [Dk,Yo hx,WC,Zw hl] at h
 rw [Dl,<-h];simp
theorem Z02 {xs acc r:LI} {y x:Int} {k:Nat} {d:Bool} (hx:xs[k]? = some x) (hd:¬d=true) (hl:x=y) (h:acc++UW d (xs.drop k) y=r):(acc++[x])++UW true (xs.drop (k+1)) y=r:=by
 have hd:=Ct.2 hd
 subst hd
 rw [Dk,Yo hx,WC,Zp om,Zw hl] at h
 rw [Dl,<-h];simp
theorem SZ {xs acc acc2 r:LI} {y x:Int} {k:Nat} {d d2:Bool} (hx:xs[k]? = some x) (h:acc++UW d (xs.drop k) y=r)
  (hc:(acc2=acc/\d2=d/\(d=true∨¬x>=y))∨(acc2=acc++[y]/\d2=true/\¬d=true/\x>y)∨(acc2=acc/\d2=true/\¬d=true/\x=y)):(acc2++[x])++UW d2 (xs.drop (k+1)) y=r:=by
 rcases hc with ⟨rfl,rfl,h3⟩|⟨rfl,rfl,h3,h4⟩|⟨rfl,rfl,h3,h4⟩
 ·rcases h3 with h3|h3
  ·exact IJ hx h3 h
  ·by_cases q:d2=true
   ·exact IJ hx q h
   ·exact Z00 hx q h3 h
 ·exact Z01 hx h3 h4 h
 ·exact Z02 hx h3 h4 h
theorem SY {xs acc r:LI} {y:Int} {k:Nat} {d:Bool} (hk:xs.length<=k) (h:acc++UW d (xs.drop k) y=r):(if d=true then acc else acc++[y])=r:=by
 rw [Xz hk] at h
 by_cases q:d=true
 ·rw [UW,Zw q,T4] at h;rw [Zw q];exact h
 ·rw [UW,Zp q,WC] at h;rw [Zp q];exact h
theorem B3:∀(xs:LI) (y:Int),(WC xs y).length<=xs.length+1
 | [],y=>YQ _
 | x::r,y=>by
  have:=B3 r y
  rw [WC]
  split
  ·simp
  ·split
   ·simp
   ·simp only [YD];omega
theorem BV:∀{xs:LI} {y z:Int},z∈WC xs y↔z∈xs∨z=y
 | [],y,z=>by simp [WC]
 | x::r,y,z=>by
  rw [WC]
  split
  ·simp only [Yr];exact ⟨fun h=>h.elim .inr .inl,fun h=>h.elim .inr .inl⟩
  ·split
   ·rename_i h;subst h;simp only [Yr];exact ⟨fun h=>.inl h,fun h=>h.elim id .inl⟩
   ·simp only [Yr,BV (xs:=r)];exact ⟨fun h=>by rcases h with h|h|h<;>simp [h],fun h=>by rcases h with (h|h)|h<;>simp [h]⟩
def JP (xs:LI):Prop:=xs.Pairwise (·<·)
theorem IH:∀{xs:LI} {y:Int},JP xs->JP (WC xs y)
 | [],y,_=>by simp [WC,JP]
 | x::r,y,h=>by
  obtain ⟨h1,h2⟩:=Wb.1 h
  rw [WC]
  split
  ·rename_i q
   refine Wb.2 ⟨fun z hz=>?_,h⟩
   rcases Yr.1 hz with rfl|hz
   ·omega
   ·have:=h1 z hz;omega
  ·split
   ·exact h
   ·refine Wb.2 ⟨fun z hz=>?_,IH h2⟩
    rcases BV.1 hz with hz|rfl
    ·exact h1 z hz
    ·omega
def UE:LI->Int->LI
 | [],_=>[]
 | x::r,y=>if x=y then UE r y else x::UE r y
theorem Cb:∀(xs:LI) (y:Int),(UE xs y).length<=xs.length
 | [],y=>YQ _
 | x::r,y=>by
  have:=Cb r y
  rw [UE]
  split
  ·rw [YD];omega
  ·rw [YD,YD];omega
theorem Bb:∀{xs:LI} {y z:Int},z∈UE xs y->z∈xs
 | [],y,z,h=>by rw [UE] at h;exact h
 | x::r,y,z,h=>by
  rw [UE] at h
  split at h
  ·exact Xr _ (Bb h)
  ·rcases Yr.1 h with rfl|h
   ·exact YZ ..
   ·exact Xr _ (Bb h)
theorem Z23 {xs acc r:LI} {y x:Int} {k:Nat} (hx:xs[k]? = some x) (h:acc++UE (xs.drop k) y=r):(if x≠y then acc++[x] else acc)++UE (xs.drop (k+1)) y=r:=by
 rw [Yo hx,UE] at h
 by_cases q:x=y
 ·rw [Zw q] at h;rw [Zp (fun z=>z q)];exact h
 ·rw [Zp q] at h;rw [Zw q,<-h];simp
theorem Z22 {xs acc r:LI} {y:Int} {k:Nat} (hk:xs.length<=k) (h:acc++UE (xs.drop k) y=r):acc=r:=by
 rw [Xz hk,UE,T4] at h;exact h
def WZ (n:Int) (xs:LI) (a:Int):LI:=if 0<=a/\a<n then WC xs a else xs
def VM (n:Int):LI->LI->LI
 | [],xs=>xs
 | a::r,xs=>VM n r (WZ n xs a)
mutual
def Tp (n:Int):Z3->LI->LI
 | .mk op _ _ args kids,xs=>if YP op=true then xs else T1 n kids (VM n args xs)
def T1 (n:Int):List Z4->LI->LI
 | [],xs=>xs
 | b::r,xs=>T1 n r (Vi n b xs)
def V0 (n:Int):List Z3->LI->LI
 | [],xs=>xs
 | s::r,xs=>V0 n r (Tp n s xs)
def Vi (n:Int):Z4->LI->LI
 | .mk steps result,xs=>WZ n (V0 n steps xs) result
end
section
variable {n:Int}
theorem Nr (s:Z3) (xs:LI):Tp n s xs=if YP s.op=true then xs else T1 n s.kids (VM n s.args xs):=by cases s;rw [Tp];rfl
theorem Nn (b:Z4) (xs:LI):Vi n b xs=WZ n (V0 n b.steps xs) b.result:=by cases b;rw [Vi];rfl
theorem Co (xs:LI) (a:Int):(WZ n xs a).length<=xs.length+1:=by
 rw [WZ];split
 ·exact B3 xs a
 ·omega
theorem Nl:∀(as1 xs:LI),(VM n as1 xs).length<=xs.length+as1.length
 | [],xs=>YQ _
 | a::r,xs=>by
  have h1:=Nl r (WZ n xs a)
  have h2:=Co (n:=n) xs a
  rw [VM,YD];omega
mutual
theorem Ns:∀(s:Z3) (xs:LI),(Tp n s xs).length<=xs.length+s.sz
 | .mk op num into args kids,xs=>by
  have h1:=Np kids (VM n args xs)
  have h2:=Nl (n:=n) args xs
  rw [Tp,Z3.sz];split<;>omega
theorem Np:∀(bs:List Z4) (xs:LI),(T1 n bs xs).length<=xs.length+YK bs
 | [],xs=>YQ _
 | b::r,xs=>by
  have h1:=Np r (Vi n b xs)
  have h2:=E1 b xs
  rw [T1,YK];omega
theorem E2:∀(bs:List Z3) (xs:LI),(V0 n bs xs).length<=xs.length+Y5 bs
 | [],xs=>YQ _
 | b::r,xs=>by
  have h1:=E2 r (Tp n b xs)
  have h2:=Ns b xs
  rw [V0,Y5];omega
theorem E1:∀(b:Z4) (xs:LI),(Vi n b xs).length<=xs.length+b.sz
 | .mk steps result,xs=>by
  have h1:=E2 steps xs
  have h2:=Co (n:=n) (V0 n steps xs) result
  rw [Vi,Z4.sz];omega
end
theorem Z5o {as1 ys r:LI} {k:Nat} {a:Int} (h:as1[k]? = some a) (ha:VM n (as1.drop k) ys=r):VM n (as1.drop (k+1)) (WZ n ys a)=r:=by
 rw [Yo h,VM] at ha;exact ha
theorem Z5r {bs:List Z4} {ys r:LI} {k:Nat} {b:Z4} (h:bs[k]? = some b) (ha:T1 n (bs.drop k) ys=r):T1 n (bs.drop (k+1)) (Vi n b ys)=r:=by
 rw [Yo h,T1] at ha;exact ha
theorem Z5u {bs:List Z3} {ys r:LI} {k:Nat} {b:Z3} (h:bs[k]? = some b) (ha:V0 n (bs.drop k) ys=r):V0 n (bs.drop (k+1)) (Tp n b ys)=r:=by
 rw [Yo h,V0] at ha;exact ha
theorem Z5n {as1 ys r:LI} {k:Nat} (h:as1.length<=k) (ha:VM n (as1.drop k) ys=r):ys=r:=by rw [Xz h,VM] at ha;exact ha
theorem Z5q {bs:List Z4} {ys r:LI} {k:Nat} (h:bs.length<=k) (ha:T1 n (bs.drop k) ys=r):ys=r:=by rw [Xz h,T1] at ha;exact ha
theorem Z5t {bs:List Z3} {ys r:LI} {k:Nat} (h:bs.length<=k) (ha:V0 n (bs.drop k) ys=r):ys=r:=by rw [Xz h,V0] at ha;exact ha
end
theorem GW {s:Z3} (h:Cn s):∃a,s.args=[a]:=⟨gI s.args 0,by have:=Ys Z3.args h;exact this⟩
section
variable {xs:LI} {v:Int} {lo hi:Nat}
end
section
variable {m:Int} {xs du dr:List Z3} {lf:LI} {d:Bool} {k:Nat} {s:Z3} {W:List Z3 × List Z3 × LI}
end
def YC:List Z3->Nat
 | []=>0
 | s::r=>if YP s.op=true then YC r+1 else 0
def XK (op x:Int):List Z3->Int->Int
 | [],_=>-1
 | s::r,k=>if s.op=op/\gI s.args 0=x then k else XK op x r (k+1)
def TS (many:Nat) (s:Z3):Prop:=(s.op=6/\s.into=0)/\s.args.length=many
instance (many:Nat) (s:Z3):Decidable (TS many s):=by unfold TS;infer_instance
def W0 (many:Nat):List Z3->Int->Int
 | [],_=>-1
 | s::r,k=>if TS many s then k else W0 many r (k+1)
def Jp (xs:List Z3) (i:Int):Z3:=xs[i.toNat]?.getD (Zl 0 0)
def Tg (v:Int) (s:Z3):Z3:=.mk s.op s.num v s.args s.kids
def WH (xs:List Z3) (x:Int):Int:=XK 16 x (xs.take (YC xs)) 0
def W7 (xs:List Z3) (many:Nat):Int:=W0 many (xs.drop (YC xs)) (YC xs)
def Vg (xs:List Z3) (x:Int) (many:Nat):List Z3:=
 if WH xs x<0∨W7 xs many<0 then xs else (xs.set (WH xs x).toNat (Zl 17 x)).set (W7 xs many).toNat (Tg (1+x) (Jp xs (W7 xs many)))
def V8 (b:Z4) (x:Int) (many:Nat):Z4:=.mk (Vg b.steps x many) b.result
mutual
def UY (ds:List Zd) (kept:LI):Z3->Z3
 | .mk op num into args kids=>.mk op num into args (Vw ds kept op num args kids 0)
def Vw (ds:List Zd) (kept:LI) (op num:Int) (args:LI):List Z4->Nat->List Z4
 | [],_=>[]
 | b::r,k=>(if op=8/\¬gI args 0∈kept then V8 (W2 ds (if WH b.steps (gI args 0)<0∨W7 b.steps (VR ds num k).length<0 then kept else gI args 0::kept) b) (gI args 0) (VR ds num k).length else W2 ds kept b)::Vw ds kept op num args r (k+1)
def VI (ds:List Zd) (kept:LI):List Z3->List Z3
 | []=>[]
 | s::r=>UY ds kept s::VI ds kept r
def W2 (ds:List Zd) (kept:LI):Z4->Z4
 | .mk steps result=>.mk (VI ds kept steps) result
end
def Dn (ds:List Zd) (kept:LI) (num:Int) (args:LI) (k:Nat) (b:Z4):LI:=if WH b.steps (gI args 0)<0∨W7 b.steps (VR ds num k).length<0 then kept else gI args 0::kept
def UF (ds:List Zd) (kept:LI) (op num:Int) (args:LI) (k:Nat) (b:Z4):Z4:=if op=8/\¬gI args 0∈kept then V8 (W2 ds (Dn ds kept num args k b) b) (gI args 0) (VR ds num k).length else W2 ds kept b
theorem JD (ds:List Zd) (kept:LI) (s:Z3):UY ds kept s=.mk s.op s.num s.into s.args (Vw ds kept s.op s.num s.args s.kids 0):=by cases s;rw [UY];rfl
theorem DI (ds:List Zd) (kept:LI) (b:Z4):W2 ds kept b=.mk (VI ds kept b.steps) b.result:=by cases b;rw [W2];rfl
theorem DK (ds:List Zd) (kept:LI):∀xs:List Z3,VI ds kept xs=xs.map (UY ds kept)
 | []=>rfl
 | s::r=>by rw [VI,DK ds kept r];rfl
section
variable {ds:List Zd} {kept:LI}
theorem Z33 {xs acc r:List Z3} {k:Nat} {s:Z3} (h:xs[k]? = some s) (ha:acc++VI ds kept (xs.drop k)=r) :
  (acc++[.mk s.op s.num s.into s.args (Vw ds kept s.op s.num s.args s.kids 0)])++VI ds kept (xs.drop (k+1))=r:=by
 rw [Yo h,VI,JD] at ha
 rw [<-ha];simp
theorem Z32 {xs acc r:List Z3} {k:Nat} (h:xs.length<=k) (ha:acc++VI ds kept (xs.drop k)=r):acc=r:=by
 rw [Xz h,VI,T4] at ha;exact ha
theorem Z2x {op num:Int} {args:LI} {bs acc r:List Z4} {k:Nat} {b:Z4} (h:bs[k]? = some b) (ha:acc++Vw ds kept op num args (bs.drop k) k=r) :
  (acc++[UF ds kept op num args k b])++Vw ds kept op num args (bs.drop (k+1)) (k+1)=r:=by
 rw [Yo h,Vw] at ha
 rw [<-ha,UF,Dn];simp
theorem Z2w {op num:Int} {args:LI} {bs acc r:List Z4} {k j:Nat} (h:bs.length<=k) (ha:acc++Vw ds kept op num args (bs.drop k) j=r):acc=r:=by
 rw [Xz h,Vw,T4] at ha;exact ha
end
section
variable {ds:List Zd}
mutual
theorem Z30:∀(s:Z3) {K K':LI},(∀z,z∈K↔z∈K')->UY ds K s=UY ds K' s
 | .mk op num into args kids,K,K',h=>by rw [UY,UY,Mi kids h]
theorem Mi:∀(bs:List Z4) {K K':LI} {op num:Int} {args:LI} {k:Nat},(∀z,z∈K↔z∈K')->Vw ds K op num args bs k=Vw ds K' op num args bs k
 | [],_,_,_,_,_,_,_=>by rw [Vw,Vw]
 | b::r,K,K',op,num,args,k,h=>by
  have h1:=Mi r (op:=op) (num:=num) (args:=args) (k:=k+1) h
  have h2:=Ge b h
  have h3:∀z,z∈(gI args 0::K)↔z∈(gI args 0::K'):=fun z=>by rw [Yr,Yr,h z]
  have h4:=Ge b h3
  rw [Vw,Vw,h1,h2]
  congr 1
  by_cases hq:op=8/\¬gI args 0∈K
  ·have hq':op=8/\¬gI args 0∈K':=⟨hq.1,fun z=>hq.2 ((h _).2 z)⟩
   rw [Zw hq,Zw hq']
   congr 1
   split
   ·exact h2
   ·exact h4
  ·have hq':¬(op=8/\¬gI args 0∈K'):=fun z=>hq ⟨z.1,fun y=>z.2 ((h _).1 y)⟩
   rw [Zp hq,Zp hq']
theorem Mk:∀(xs:List Z3) {K K':LI},(∀z,z∈K↔z∈K')->VI ds K xs=VI ds K' xs
 | [],_,_,_=>by rw [VI,VI]
 | s::r,K,K',h=>by rw [VI,VI,Z30 s h,Mk r h]
theorem Ge:∀(b:Z4) {K K':LI},(∀z,z∈K↔z∈K')->W2 ds K b=W2 ds K' b
 | .mk steps result,K,K',h=>by rw [W2,W2,Mk steps h]
end
end
theorem C1:∀xs:List Z3,YC xs<=xs.length
 | []=>YQ _
 | s::r=>by have:=C1 r;rw [YC];split<;>simp<;>omega
section
variable {f:Z3->Z3} (hop:∀s,(f s).op=s.op) (hin:∀s,(f s).into=s.into) (har:∀s,(f s).args=s.args)
include hop
theorem FH:∀xs:List Z3,YC (xs.map f)=YC xs
 | []=>rfl
 | s::r=>by rw [Uf,YC,YC,hop,FH r]
include har
theorem H8 {op x:Int}:∀(xs:List Z3) (k:Int),XK op x (xs.map f) k=XK op x xs k
 | [],_=>rfl
 | s::r,k=>by rw [Uf,XK,XK,hop,har,H8 r]
theorem Z1w (xs:List Z3) (x:Int):WH (xs.map f) x=WH xs x:=by rw [WH,FH hop,<-List.map_take,H8 hop har,WH]
include hin
theorem Hs {many:Nat}:∀(xs:List Z3) (k:Int),W0 many (xs.map f) k=W0 many xs k
 | [],_=>rfl
 | s::r,k=>by
  have e:TS many (f s)↔TS many s:=by rw [TS,TS,hop,hin,har]
  rw [Uf,W0,W0,Hs r]
  by_cases h:TS many s
  ·rw [Zw h,Zw (e.2 h)]
  ·rw [Zp h,Zp (fun z=>h (e.1 z))]
theorem OZ (xs:List Z3) (many:Nat):W7 (xs.map f) many=W7 xs many:=by rw [W7,FH hop,<-List.map_drop,Hs hop hin har,W7]
end
theorem H7 {op x:Int}:∀{xs:List Z3} {k:Int},¬XK op x xs k<0->0<=k->k<=XK op x xs k/\XK op x xs k<k+xs.length/\∃s,xs[(XK op x xs k-k).toNat]? = some s/\s.op=op/\gI s.args 0=x
 | [],k,h,_=>by simp [XK] at h
 | s::r,k,h,hk=>by
  rw [XK] at h ⊢
  split
  ·rename_i q
   refine ⟨Int.le_refl _,by rw [YD];omega,s,?_,q⟩
   rw [Int.sub_self];rfl
  ·rename_i q
   rw [Zp q] at h
   obtain ⟨h1,h2,t,h3,h4⟩:=H7 (xs:=r) (k:=k+1) h om
   refine ⟨by omega,by rw [YD];omega,t,?_,h4⟩
   rw [show (XK op x r (k+1)-k).toNat=(XK op x r (k+1)-(k+1)).toNat+1 by omega,List.getElem?_cons_succ]
   exact h3
theorem Hr {many:Nat}:∀{xs:List Z3} {k:Int},¬W0 many xs k<0->0<=k->k<=W0 many xs k/\W0 many xs k<k+xs.length/\∃s,xs[(W0 many xs k-k).toNat]? = some s/\TS many s
 | [],k,h,_=>by simp [W0] at h
 | s::r,k,h,hk=>by
  rw [W0] at h ⊢
  split
  ·rename_i q
   refine ⟨Int.le_refl _,by rw [YD];omega,s,?_,q⟩
   rw [Int.sub_self];rfl
  ·rename_i q
   rw [Zp q] at h
   obtain ⟨h1,h2,t,h3,h4⟩:=Hr (xs:=r) (k:=k+1) h om
   refine ⟨by omega,by rw [YD];omega,t,?_,h4⟩
   rw [show (W0 many r (k+1)-k).toNat=(W0 many r (k+1)-(k+1)).toNat+1 by omega,List.getElem?_cons_succ]
   exact h3
theorem Ca {xs:List Z3} {x:Int} (h:¬WH xs x<0):0<=WH xs x/\WH xs x<YC xs/\∃s,xs[(WH xs x).toNat]? = some s/\s.op=16/\gI s.args 0=x:=by
 obtain ⟨h1,h2,s,h3,h4⟩:=H7 h (Int.le_refl 0)
 have hl:=C1 xs
 rw [Wr,Vb hl] at h2
 have h2':WH xs x<YC xs:=by unfold WH;omega
 have h1':0<=WH xs x:=h1
 refine ⟨h1',h2',s,?_,h4⟩
 rw [Int.sub_zero] at h3
 have h5:(WH xs x).toNat<YC xs:=by omega
 rwa [show XK 16 x (xs.take (YC xs)) 0=WH xs x from rfl,List.getElem?_take_of_lt h5] at h3
theorem Kw {xs:List Z3} {many:Nat} (h:¬W7 xs many<0):(YC xs:Int)<=W7 xs many/\W7 xs many<xs.length/\∃s,xs[(W7 xs many).toNat]? = some s/\TS many s/\Jp xs (W7 xs many)=s:=by
 obtain ⟨h1,h2,s,h3,h4⟩:=Hr h om
 have hl:=C1 xs
 rw [Ki] at h2
 have h1':(YC xs:Int)<=W7 xs many:=h1
 have h2':W7 xs many<xs.length:=by unfold W7;omega
 rw [Aw,show W0 many (xs.drop (YC xs)) (YC xs)=W7 xs many from rfl,show YC xs+(W7 xs many-(YC xs:Int)).toNat=(W7 xs many).toNat by omega] at h3
 exact ⟨h1',h2',s,h3,h4,by rw [Jp,h3];rfl⟩
theorem Z2h {f:Z3->Z3} (hop:∀s,(f s).op=s.op) (hin:∀s,(f s).into=s.into) (har:∀s,(f s).args=s.args) (hc:∀x,f (Zl 17 x)=Zl 17 x) (hi:∀v s,f (Tg v s)=Tg v (f s)) (xs:List Z3) (x:Int) (many:Nat) :
  Vg (xs.map f) x many=(Vg xs x many).map f:=by
 rw [Vg,Z1w hop har,OZ hop hin har,Vg]
 split
 ·rfl
 ·rename_i hq
  obtain ⟨_,_,s,h3,_,h5⟩:=Kw (fun z=>hq (.inr z))
  have e:Jp (xs.map f) (W7 xs many)=f (Jp xs (W7 xs many)):=by rw [Jp,QL,h3,h5];rfl
  rw [e,List.map_set,List.map_set,hc,hi]
theorem Mg {ds:List Zd} {K:LI} {b:Z4} {x:Int} {many:Nat}:W2 ds K (V8 b x many)=V8 (W2 ds K b) x many:=by
 rw [V8,W2,V8,DI,DK,DK]
 show Z4.mk _ _=Z4.mk (Vg (b.steps.map (UY ds K)) x many) b.result
 rw [Z2h (f:=UY ds K) (fun s=>by rw [JD];rfl) (fun s=>by rw [JD];rfl) (fun s=>by rw [JD];rfl) (fun x=>by rw [JD];rfl) (fun v s=>by rw [JD,JD];rfl)]
structure CB (c:LI) (q:Int):Prop where
 len:c.length=4
 bd:∀x∈c,0<=x/\x<=q
mutual
def Al:Z3->Prop
 | .mk op _ _ _ kids=>op≠17/\Jw kids
def Jw:List Z4->Prop
 | []=>True
 | b::r=>TD b/\Jw r
def Jx:List Z3->Prop
 | []=>True
 | s::r=>Al s/\Jx r
def TD:Z4->Prop
 | .mk steps _=>Jx steps
end
theorem B9 (s:Z3):Al s↔s.op≠17/\Jw s.kids:=by cases s;rw [Al];rfl
theorem C5 (b:Z4):TD b↔Jx b.steps:=by cases b;rw [TD];rfl
theorem C6:∀{xs:List Z3},Jx xs↔∀s∈xs,Al s
 | []=>by simp [Jx]
 | s::r=>by rw [Jx,C6];simp
theorem Dz:∀{xs:List Z4},Jw xs↔∀s∈xs,TD s
 | []=>by simp [Jw]
 | s::r=>by rw [Jw,Dz];simp
theorem DZ:∀{xs:List Z3} {i:Nat} {s:Z3} (t:Z3),xs[i]? = some s->Y5 (xs.set i t)+s.sz=Y5 xs+t.sz
 | [],_,_,_,h=>by simp at h
 | x::r,0,s,t,h=>by simp at h;subst h;rw [List.set_cons_zero,Y5,Y5];omega
 | x::r,i+1,s,t,h=>by
  have:=DZ (xs:=r) (i:=i) t (by simpa using h)
  rw [List.set_cons_succ,Y5,Y5];omega
theorem Z03 (v:Int) (s:Z3):(Tg v s).sz=s.sz:=by cases s;rw [Tg,Z3.sz,Z3.sz];rfl
theorem Hw {xs:List Z3} {x:Int} {many:Nat} (h:¬(WH xs x<0∨W7 xs many<0)):(WH xs x).toNat<(W7 xs many).toNat:=by
 obtain ⟨h1,h2,_⟩:=Ca (fun z=>h (.inl z))
 obtain ⟨h3,h4,_⟩:=Kw (fun z=>h (.inr z))
 omega
theorem DH {xs:List Z3} {x:Int} {many:Nat} (h:¬(WH xs x<0∨W7 xs many<0)) {t:Z3} {s:Z3} (hs:xs[(W7 xs many).toNat]? = some s):(xs.set (WH xs x).toNat t)[(W7 xs many).toNat]? = some s:=by
 have:=Hw h
 rw [List.getElem?_set_ne om];exact hs
theorem M7 {xs:List Z3} {x:Int} {many:Nat} (h:∀s∈xs,YP s.op=true->2<=s.sz):Y5 (Vg xs x many)<=Y5 xs:=by
 rw [Vg]
 split
 ·exact YQ _
 ·rename_i hq
  obtain ⟨_,_,s,h3,h4,_⟩:=Ca (fun z=>hq (.inl z))
  obtain ⟨_,_,t,h5,_,h6⟩:=Kw (fun z=>hq (.inr z))
  have e1:=DZ (Zl 17 x) h3
  have e2:=DZ (Tg (1+x) (Jp xs (W7 xs many))) (DH hq (t:=Zl 17 x) h5)
  have h7:=h s (ZW h3) (by rw [h4];rfl)
  rw [CN] at e1
  rw [Z03,h6] at e2
  rw [h6]
  omega
section
variable {ds:List Zd}
theorem Z6j {v:Int} {s:Z3} (h:wS ds s) (h6:s.op=6):wS ds (Tg v s):=by
 obtain ⟨h1,h2,h3,h4⟩:=(QK s).1 h
 exact (QK _).2 ⟨h1,fun hc=>absurd hc (by show ¬YP s.op=true;rw [h6];decide),h3,h4⟩
theorem Z6g {v:Int}:wS ds (Zl 17 v):=(QK _).2 ⟨rfl,fun _=>⟨rfl,rfl,rfl,v,rfl⟩,fun e=>absurd e (show (17:Int)≠8 by decide),True.intro⟩
theorem Z6f {xs:List Z3} {x:Int} {many:Nat} (h:TJ ds xs):TJ ds (Vg xs x many):=by
 rw [Vg]
 split
 ·exact h
 ·rename_i hq
  obtain ⟨_,_,t,h5,h7,h6⟩:=Kw (fun z=>hq (.inr z))
  rw [J5]
  intro s hs
  rcases List.mem_or_eq_of_mem_set hs with hs|rfl
  ·rcases List.mem_or_eq_of_mem_set hs with hs|rfl
   ·exact J5.1 h s hs
   ·exact Z6g
  ·rw [h6];exact Z6j (J5.1 h t (ZW h5)) h7.1.1
theorem Z6e {b:Z4} {x:Int} {many:Nat} (h:wB ds b):wB ds (V8 b x many):=by rw [V8,Qr];exact Z6f ((Qr b).1 h)
variable (hd:Wh ds)
mutual
theorem Z31:∀(s:Z3) {K:LI},wS ds s->(UY ds K s).sz<=s.sz
 | .mk op num into args kids,K,h=>by
  have:=Mj kids (K:=K) (op:=op) (num:=num) (args:=args) (k:=0) h.2.2.2
  rw [UY,Z3.sz,Z3.sz];omega
theorem Mj:∀(bs:List Z4) {K:LI} {op num:Int} {args:LI} {k:Nat},J4 ds bs->YK (Vw ds K op num args bs k)<=YK bs
 | [],_,_,_,_,_,_=>YQ _
 | b::r,K,op,num,args,k,h=>by
  have h2:=Mj r (K:=K) (op:=op) (num:=num) (args:=args) (k:=k+1) h.2
  have key:∀K2:LI,(V8 (W2 ds K2 b) (gI args 0) (VR ds num k).length).sz<=b.sz:=fun K2=>by
   have h1:=Gf b (K:=K2) h.1
   have h3:=M7 (xs:=(W2 ds K2 b).steps) (x:=gI args 0) (many:=(VR ds num k).length) (by
    rw [DI,DK]
    intro s hs hc
    obtain ⟨t,ht,rfl⟩:=Wg.1 hs
    rw [JD] at hc ⊢
    obtain ⟨_,_,a,ha⟩:=E8 (J5.1 ((Qr b).1 h.1) t ht) hc
    rw [Z3.sz,ha];simp)
   rw [V8,Z4.sz]
   rw [Z4.sz_eq] at h1
   omega
  rw [Vw,YK,YK]
  split
  ·have:=key (if WH b.steps (gI args 0)<0∨W7 b.steps (VR ds num k).length<0 then K else gI args 0::K)
   omega
  ·have:=Gf b (K:=K) h.1
   omega
theorem Ml:∀(xs:List Z3) {K:LI},TJ ds xs->Y5 (VI ds K xs)<=Y5 xs
 | [],_,_=>YQ _
 | s::r,K,h=>by
  have h1:=Z31 s (K:=K) h.1
  have h2:=Ml r (K:=K) h.2
  rw [VI,Y5,Y5];omega
theorem Gf:∀(b:Z4) {K:LI},wB ds b->(W2 ds K b).sz<=b.sz
 | .mk steps result,K,h=>by
  have:=Ml steps (K:=K) h
  rw [W2,Z4.sz,Z4.sz];omega
end
end
theorem FI:∀{xs:List Z3} {i:Nat} {s t:Z3},xs[i]? = some s->YP t.op=YP s.op->YC (xs.set i t)=YC xs
 | [],_,_,_,h,_=>by simp at h
 | x::r,0,s,t,h,e=>by simp at h;subst h;rw [List.set_cons_zero,YC,YC,e]
 | x::r,i+1,s,t,h,e=>by
  rw [List.set_cons_succ,YC,YC,FI (xs:=r) (i:=i) (by simpa using h) e]
theorem Z0q {xs:List Z3} {x:Int} {many:Nat}:YC (Vg xs x many)=YC xs:=by
 rw [Vg]
 split
 ·rfl
 ·rename_i hq
  obtain ⟨_,_,s,h3,h4,_⟩:=Ca (fun z=>hq (.inl z))
  obtain ⟨_,_,t,h5,_,h6⟩:=Kw (fun z=>hq (.inr z))
  rw [FI (DH hq (t:=Zl 17 x) h5) (by rw [h6];rfl),FI h3 (by rw [h4];rfl)]
theorem Ha {op x:Int}:∀{xs:List Z3} {k:Int},(∀s∈xs,s.op≠op)->XK op x xs k=-1
 | [],_,_=>rfl
 | s::r,k,h=>by
  rw [XK,Zp (fun z=>h s (YZ ..) z.1)]
  exact Ha fun t ht=>h t (Xr _ ht)
theorem Hb {op x:Int}:∀{xs:List Z3} {k:Int},0<=k->(∃s∈xs,s.op=op/\gI s.args 0=x)->0<=XK op x xs k
 | [],_,_,h=>by obtain ⟨s,hs,_⟩:=h;cases hs
 | s::r,k,hk,h=>by
  rw [XK]
  split
  ·exact hk
  ·rename_i q
   obtain ⟨t,ht,h1⟩:=h
   rcases Yr.1 ht with rfl|ht
   ·exact absurd h1 q
   ·exact Hb om ⟨t,ht,h1⟩
theorem Nb {xs:List Z3} {x:Int} {many:Nat} (hn:Jx xs):0<=XK 17 x ((Vg xs x many).take (YC (Vg xs x many))) 0↔¬(WH xs x<0∨W7 xs many<0):=by
 rw [Z0q]
 constructor
 ·intro h hq
  rw [Vg,Zw hq,Ha (fun s hs=>((B9 s).1 (C6.1 hn s (Ts hs))).1)] at h
  omega
 ·intro hq
  obtain ⟨h1,h2,s,h3,h4,_⟩:=Ca (fun z=>hq (.inl z))
  have hap:=Hw hq
  refine Hb (Int.le_refl 0) ⟨Zl 17 x,?_,rfl,rfl⟩
  rw [Vg,Zp hq]
  refine ZW (i:=(WH xs x).toNat) ?_
  rw [List.getElem?_take_of_lt om,List.getElem?_set_ne om,List.getElem?_set_self (XA.1 h3).1]
def Jy (b:Z4):Prop:=∀s∈b.steps,Jw s.kids
theorem Ak {b:Z4} (h:TD b):Jy b:=fun s hs=>((B9 s).1 (C6.1 ((C5 b).1 h) s hs)).2
theorem Z1f {b:Z4} {k j:Nat} {s:Z3} {c:Z4} (h:Jy b) (hs:b.steps[k]? = some s) (hc:s.kids[j]? = some c):TD c:=Dz.1 (h s (ZW hs)) c (ZW hc)
theorem Lp {b:Z4} {x:Int} {many:Nat} (h:TD b):Jy (V8 b x many):=by
 intro s hs
 have hs:s∈Vg b.steps x many:=hs
 rw [Vg] at hs
 split at hs
 ·exact Ak h s hs
 ·rename_i hq
  obtain ⟨_,_,t,h5,_,h6⟩:=Kw (fun z=>hq (.inr z))
  rcases List.mem_or_eq_of_mem_set hs with hs|rfl
  ·rcases List.mem_or_eq_of_mem_set hs with hs|rfl
   ·exact Ak h s hs
   ·exact True.intro
  ·rw [h6];exact Ak h t (ZW h5)
theorem Z2g {ds:List Zd} {b:Z4} {x:Int} {many:Nat} (h:wB ds b):(V8 b x many).sz<=b.sz:=by
 have:=M7 (xs:=b.steps) (x:=x) (many:=many) fun s hs hc=>by
  have h7:=Ef ((Qr b).1 h) s hs hc
  rw [h7,CN];omega
 rw [V8,Z4.sz,b.sz_eq];omega
def JC (ds:List Zd) (r:Y8):Y8:=⟨r.params,r.lent,r.result,W2 ds [] r.body⟩
def DJ (n:Zx):Zx:=⟨n.decls,n.routines.map (JC n.decls)⟩
end Go.Abs
section
namespace Go.Abs
theorem Z0o {xs:List Z3} {k:Nat} {s:Z3} {r:Nat} (h:xs[k]? = some s) (hs:YP s.op=true) (ha:k+YC (xs.drop k)=r):k+1+YC (xs.drop (k+1))=r:=by
 rw [Yo h,YC,Zw hs] at ha;omega
theorem Z0p {xs:List Z3} {k:Nat} {s:Z3} {r:Nat} (h:xs[k]? = some s) (hs:¬YP s.op=true) (ha:k+YC (xs.drop k)=r):k=r:=by
 rw [Yo h,YC,Zp hs] at ha;omega
theorem Z0n {xs:List Z3} {k:Nat} {r:Nat} (h:xs.length<=k) (ha:k+YC (xs.drop k)=r):k=r:=by
 rw [Xz h,YC] at ha;omega
theorem Ol {op x:Int} {xs:List Z3} {k:Nat} {s:Z3} {r:Int} (h:xs[k]? = some s) (hs:s.op=op/\gI s.args 0=x) (ha:XK op x (xs.drop k) k=r):(k:Int)=r:=by
 rw [Yo h,XK,Zw hs] at ha;exact ha
theorem H9 {op x:Int} {xs:List Z3} {k:Nat} {s:Z3} {r:Int} (h:xs[k]? = some s) (hs:¬(s.op=op/\gI s.args 0=x)) (ha:XK op x (xs.drop k) k=r):XK op x (xs.drop (k+1)) ((k+1:Nat):Int)=r:=by
 rw [Yo h,XK,Zp hs] at ha;rw [<-ha];congr 1
theorem Ok {op x:Int} {xs:List Z3} {k:Nat} {r:Int} (h:xs.length<=k) (ha:XK op x (xs.drop k) k=r):-1=r:=by
 rw [Xz h,XK] at ha;exact ha
theorem P2 {many:Nat} {xs:List Z3} {k:Nat} {s:Z3} {r:Int} (h:xs[k]? = some s) (hs:TS many s) (ha:W0 many (xs.drop k) k=r):(k:Int)=r:=by
 rw [Yo h,W0,Zw hs] at ha;exact ha
theorem P1 {many:Nat} {xs:List Z3} {k:Nat} {s:Z3} {r:Int} (h:xs[k]? = some s) (hs:¬TS many s) (ha:W0 many (xs.drop k) k=r):W0 many (xs.drop (k+1)) ((k+1:Nat):Int)=r:=by
 rw [Yo h,W0,Zp hs] at ha;rw [<-ha];congr 1
theorem P0 {many:Nat} {xs:List Z3} {k:Nat} {r:Int} (h:xs.length<=k) (ha:W0 many (xs.drop k) k=r):-1=r:=by
 rw [Xz h,W0] at ha;exact ha
theorem Z2i {xs:List Z3} {x:Int} {many:Nat} (h:WH xs x<0∨W7 xs many<0):Vg xs x many=xs:=Zw h
theorem Z2j {xs:List Z3} {x:Int} {many:Nat} {s:Z3} (h:¬(WH xs x<0∨W7 xs many<0)) (hs:Jp xs (W7 xs many)=s):(xs.set (WH xs x).toNat (Zl 17 x)).set (W7 xs many).toNat (Tg (1+x) s)=Vg xs x many:=by
 rw [Vg,Zp h,hs]
theorem Tz (xs:List Z3):(Zc (Zj xs)).length=xs.length*5:=by rw [Ur _ (X1 _)];simp
theorem D6 (s:Z3) (r:List Z3):Zc (Zj (s::r))=Xf s++Zc (Zj r):=by rw [WO,WO];rfl
theorem I0 {xs:List Z3} {k:Nat} {x:Z3} (h:xs[k]? = some x):Zc (Zj (xs.take k))++Zc [Ym x]=Zc (Zj (xs.take (k+1))):=by
 rw [Vh h,Wj,Tc,D6]
 have:Zc (Zj [])=[]:=by rw [WO];rfl
 rw [this];rfl
theorem I1 {xs:List Z3} {i:Nat} {s:Z3} (h:xs[i]? = some s):Zc (Zj xs)=Zc (Zj (xs.take i))++(Xf s++Zc (Zj (xs.drop (i+1)))):=by
 have hi:=(XA.1 h).1
 have e:xs=xs.take i++(s::xs.drop (i+1)):=by rw [<-Yo h,Uo]
 conv=>lhs;rw [e,Wj,Tc,D6]
theorem D7 {xs:List Z3} {i:Nat} {s t:Z3} (h:xs[i]? = some s):(Zc (Zj xs)).take (i*5)++Xf t++(Zc (Zj xs)).drop (i*5+(Xf t).length)=Zc (Zj (xs.set i t)):=by
 have hi:=(XA.1 h).1
 have hl:(Zc (Zj (xs.take i))).length=i*5:=by rw [Tz,Wr,Vb om]
 rw [I1 h,Gd (xs:=Xf s) (ys:=Xf t) hl rfl]
 have e:xs.set i t=xs.take i++(t::xs.drop (i+1)):=by rw [CA,Zw hi]
 rw [e,Wj,Tc,D6]
theorem Fa {xs:List Z3} {i:Nat} {s:Z3} (h:xs[i]? = some s):((Zc (Zj xs)).drop (i*5)).take (Xf s).length=Xf s:=by
 have hi:=(XA.1 h).1
 have hl:(Zc (Zj (xs.take i))).length=i*5:=by rw [Tz,Wr,Vb om]
 rw [I1 h]
 exact Z2s hl
structure Q8 (xs:LI) (v:Int) (k:Nat) (acc:LI) (d:Bool):Prop where
 len:acc.length<=k+(if d=true then 1 else 0)
 sub:∀z∈acc,z∈xs.take k∨z=v
 all:∀z∈xs.take k,z∈acc
 done:d=true->v∈acc
theorem Q8.zero (xs:LI) (v:Int):Q8 xs v 0 [] false:=⟨by simp,by simp,by simp,by simp⟩
theorem Q8.step {xs:LI} {v:Int} {k:Nat} {acc:LI} {d:Bool} {x:Int} (h:Q8 xs v k acc d) (hx:xs[k]? = some x) {acc2:LI} {d2:Bool}
  (hc:(acc2=acc++[x]/\d2=d)∨(acc2=(acc++[v])++[x]/\d2=true/\¬d=true)∨(acc2=acc++[x]/\d2=true/\x=v)):Q8 xs v (k+1) acc2 d2:=by
 obtain ⟨h1,h2,h3,h4⟩:=h
 have ht:∀z,z∈xs.take (k+1)↔z∈xs.take k∨z=x:=fun z=>by rw [Vh hx];simp
 rcases hc with ⟨rfl,rfl⟩|⟨rfl,rfl,hd⟩|⟨rfl,rfl,rfl⟩
 ·refine ⟨by simp;omega,fun z hz=>?_,fun z hz=>?_,fun q=>List.mem_append_left _ (h4 q)⟩
  ·rw [ht]
   rcases YU.1 hz with hz|hz
   ·rcases h2 z hz with q|q
    ·exact .inl (.inl q)
    ·exact .inr q
   ·exact .inl (.inr (Xp.1 hz))
  ·rcases (ht z).1 hz with q|q
   ·exact List.mem_append_left _ (h3 z q)
   ·subst q;simp
 ·rw [Zp hd] at h1
  refine ⟨by simp;omega,fun z hz=>?_,fun z hz=>?_,fun _=>by simp⟩
  ·rw [ht]
   simp only [YU,Xp] at hz
   rcases hz with (hz|hz)|hz
   ·rcases h2 z hz with q|q
    ·exact .inl (.inl q)
    ·exact .inr q
   ·exact .inr hz
   ·exact .inl (.inr hz)
  ·rcases (ht z).1 hz with q|q
   ·exact List.mem_append_left _ (List.mem_append_left _ (h3 z q))
   ·subst q;simp
 ·refine ⟨by simp;split at h1<;>omega,fun z hz=>?_,fun z hz=>?_,fun _=>by simp⟩
  ·rw [ht]
   rcases YU.1 hz with hz|hz
   ·rcases h2 z hz with q|q
    ·exact .inl (.inl q)
    ·exact .inr q
   ·exact .inl (.inr (Xp.1 hz))
  ·rcases (ht z).1 hz with q|q
   ·exact List.mem_append_left _ (h3 z q)
   ·subst q;simp
theorem Q8.fin {xs:LI} {v:Int} {k:Nat} {acc:LI} {d:Bool} (h:Q8 xs v k acc d) (hk:k=xs.length) :
  (d=true->acc.length<=xs.length+1/\∀z,z∈acc↔z∈xs∨z=v)/\(¬d=true->(acc++[v]).length<=xs.length+1/\∀z,z∈acc++[v]↔z∈xs∨z=v):=by
 obtain ⟨h1,h2,h3,h4⟩:=h
 subst hk
 rw [Va] at h2 h3
 refine ⟨fun hd=>?_,fun hd=>?_⟩
 ·rw [Zw hd] at h1
  exact ⟨h1,fun z=>⟨h2 z,fun q=>q.elim (h3 z) fun e=>e▸h4 hd⟩⟩
 ·rw [Zp hd] at h1
  refine ⟨by simp;omega,fun z=>?_⟩
  rw [YU,Xp]
  exact ⟨fun q=>q.elim (h2 z) .inr,fun q=>q.elim (fun e=>.inl (h3 z e)) .inr⟩
end Go.Abs
namespace Go.Abs
theorem Q8.go {xs:LI} {v:Int} {k:Nat} {acc:LI} {d:Bool} {x:Int} (h:Q8 xs v k acc d) (hx:xs[k]? = some x) {acc2:LI} {d2:Bool}
  (hc:(acc2=acc/\d2=d)∨(acc2=acc++[v]/\d2=true/\¬d=true)∨(acc2=acc/\d2=true/\x=v)):Q8 xs v (k+1) (acc2++[x]) d2:=by
 refine h.step hx ?_
 rcases hc with ⟨e1,e2⟩|⟨e1,e2,e3⟩|⟨e1,e2,e3⟩
 ·exact .inl ⟨by rw [e1],e2⟩
 ·exact .inr (.inl ⟨by rw [e1],e2,e3⟩)
 ·exact .inr (.inr ⟨by rw [e1],e2,e3⟩)
section
variable {ds:List Zd} {kept K2:LI} {op num x:Int} {args:LI} {j many:Nat} {kd:Z4}
theorem Z2y (h8:op=8) (hx:gI args 0=x) (hk:¬x∈kept) (hm:(VR ds num j).length=many) (hq:¬(WH kd.steps x<0∨W7 kd.steps many<0)) (hK:∀z,z∈K2↔z∈kept∨z=x):W2 ds K2 (V8 kd x many)=UF ds kept op num args j kd:=by
 subst hx hm
 have e:∀z,z∈K2↔z∈gI args 0::kept:=fun z=>by rw [hK z,Yr];exact Or.comm
 rw [UF,Zw ⟨h8,hk⟩,Dn,Zp hq,Mg,Ge kd e]
theorem Z2z (h8:op=8) (hx:gI args 0=x) (hk:¬x∈kept) (hm:(VR ds num j).length=many) (hq:WH kd.steps x<0∨W7 kd.steps many<0):W2 ds kept (V8 kd x many)=UF ds kept op num args j kd:=by
 subst hx hm
 rw [UF,Zw ⟨h8,hk⟩,Dn,Zw hq,Mg]
theorem Mh (h:¬(op=8/\¬gI args 0∈kept)):W2 ds kept kd=UF ds kept op num args j kd:=by rw [UF,Zp h]
end
end Go.Abs
namespace Go.Abs
theorem CJ:∀{xs:List Z4} {k:Nat} {b:Z4},xs[k]? = some b->YK (xs.take k)+b.sz<=YK xs
 | [],_,_,h=>by simp at h
 | x::r,0,b,h=>by simp at h;subst h;simp [YK]
 | x::r,k+1,b,h=>by
  have:=CJ (xs:=r) (k:=k) (by simpa using h)
  rw [Ax,YK,YK];omega
theorem EA {xs:List Z4} {k:Nat} (h:xs.length<=k):YK (xs.take k)=YK xs:=by rw [WT h]
end Go.Abs
end
namespace Go.Abs
theorem Cl {xs:List Z3} {k:Nat} {s:Z3} (h:xs[k]? = some s):Y5 (xs.drop k)=s.sz+Y5 (xs.drop (k+1)):=by rw [Yo h,Y5]
theorem Ar (xs:List Z3) (k:Nat):Y5 (xs.drop k)<=Y5 xs:=by
 have h:=Ys Y5 (Uo k xs)
 rw [Un] at h;omega
theorem CI {xs:List Z4} {k:Nat} {b:Z4} (h:xs[k]? = some b):YK (xs.take (k+1))=YK (xs.take k)+b.sz:=by rw [Vh h,BC,YK,YK];rfl
structure CL (ds:List Zd) (nf m:Nat) (xs:List Z3) (d z:Nat):Prop where
 fs:U3 ds nf m xs
 dn:YH xs=d
 op:UD WM xs
 sz:Y5 xs<=z
section
variable {ds:List Zd} {nf m d z:Nat} {xs:List Z3}
theorem CL.nil:CL ds nf m [] 0 0:=⟨True.intro,rfl,True.intro,YQ _⟩
theorem CL.len (h:CL ds nf m xs d z):xs.length<=z:=WK (QG xs) h.sz
theorem CL.le (h:CL ds nf m xs d z) {z2:Nat} (hz:z<=z2):CL ds nf m xs d z2:=⟨h.fs,h.dn,h.op,WK h.sz hz⟩
theorem PT {op v:Int} (ho:op=14∨op=15) (hv:0<=v/\v<(m:Int)):fS ds nf m (Zl op v):=by
 rw [Zl,fS]
 exact ⟨.inr om,fun a ha=>by rw [Xp.1 ha];exact hv,fun _=>⟨rfl,rfl,rfl,v,rfl⟩,fun h=>by omega,fun h=>by omega,fun h=>by omega,fun h=>by omega,by omega,by omega,by simp,fun _=>rfl,True.intro⟩
theorem Hy {op:Int} (ho:op=14∨op=15):YP op=true:=by simp [YP];omega
theorem CL.cnt (h:CL ds nf m xs d z) {op v:Int} (ho:op=14∨op=15) (hv:0<=v/\v<((m+d:Nat):Int)):CL ds nf m (xs++[Zl op v]) d (z+2):=by
 have hc:YP (Zl op v).op=true:=Hy ho
 refine ⟨D3 h.fs (by rw [h.dn];exact PT ho hv),?_,DD h.op ?_,?_⟩
 ·rw [Qw,h.dn,YH,Zw hc];rfl
 ·rw [C9];exact ⟨by show op<=15;omega,True.intro⟩
 ·have:=h.sz
  have e:(Zl op v).sz=2:=rfl
  rw [Un,Y5,e,Y5];omega
theorem CL.cnts {op:Int} (ho:op=14∨op=15):∀{vs:LI} {xs:List Z3} {z:Nat},CL ds nf m xs d z->(∀v∈vs,0<=v/\v<((m+d:Nat):Int))->CL ds nf m (xs++vs.map (Zl op)) d (z+2*vs.length)
 | [],xs,z,h,_=>by simpa using h
 | v::r,xs,z,h,hv=>by
  have h1:=CL.cnts ho (vs:=r) (h.cnt ho (hv v (YZ ..))) fun x hx=>hv x (Xr _ hx)
  rw [Uf,show xs++Zl op v::r.map (Zl op)=xs++[Zl op v]++r.map (Zl op) by simp]
  exact h1.le (by rw [YD];omega)
theorem CL.one (h:CL ds nf m xs d z) {s:Z3} (hs:fS ds nf (m+d) s) (hc:YP s.op=false) (ho:TF WM s):CL ds nf m (xs++[s]) (d+1) (z+s.sz):=by
 refine ⟨D3 h.fs (by rw [h.dn];exact hs),by rw [BF hc,h.dn],DD h.op ho,?_⟩
 have:=h.sz
 rw [Un,Y5,Y5];omega
theorem CL.app (h:CL ds nf m xs d z) {ys:List Z3} {d2 z2:Nat} (h2:CL ds nf (m+d) ys d2 z2):CL ds nf m (xs++ys) (d+d2) (z+z2):=by
 refine ⟨AU.2 ⟨h.fs,by rw [h.dn];exact h2.fs⟩,by rw [Qw,h.dn,h2.dn],DC.2 ⟨h.op,h2.op⟩,?_⟩
 have:=h.sz
 have:=h2.sz
 rw [Un];omega
end
structure KB (ds:List Zd) (nf m:Nat) (b:Z4) (z:Nat):Prop where
 fb:fB ds nf m b
 op:WE WM b
 sz:b.sz<=z
section
variable {ds:List Zd} {nf m d z:Nat} {xs:List Z3}
theorem CL.block (h:CL ds nf m xs d z) {r:Int} (hr:0<=r/\r<((m+d:Nat):Int)):KB ds nf m ⟨xs,r⟩ (1+z):=by
 refine ⟨by rw [fB,h.dn];exact ⟨h.fs,hr⟩,by rw [WE];exact h.op,?_⟩
 have:=h.sz
 rw [Z4.sz];omega
theorem KB.le {b:Z4} (h:KB ds nf m b z) {z2:Nat} (hz:z<=z2):KB ds nf m b z2:=⟨h.fb,h.op,WK h.sz hz⟩
theorem KB.cl {b:Z4} (h:KB ds nf m b z):CL ds nf m b.steps (YH b.steps) (z-1)/\0<=b.result/\b.result<((m+YH b.steps:Nat):Int):=by
 obtain ⟨h1,h2⟩:=(BJ b).1 h.fb
 refine ⟨⟨h1,rfl,(DB b).1 h.op,?_⟩,h2⟩
 have:=h.sz
 have:=b.sz_eq
 omega
theorem KB.put {b:Z4} (h:KB ds nf m b z) {as1 bs:LI} (ha:∀v∈as1,0<=v/\v<(m:Int)) (hb:∀v∈bs,0<=v/\v<(m:Int)):KB ds nf m ⟨as1.map (Zl 14)++bs.map (Zl 15)++b.steps,b.result⟩ (z+2*as1.length+2*bs.length):=by
 obtain ⟨h1,h2⟩:=h.cl
 have q1:CL ds nf m ([]++as1.map (Zl 14)) 0 (0+2*as1.length):=CL.nil.cnts (.inl rfl) ha
 have q2:=(q1.cnts (op:=15) (.inr rfl) hb).app h1
 have:=h.sz
 have:=b.sz_eq
 rw [Kj,Wv] at q2
 exact (q2.block h2).le om
end
structure KK (ds:List Zd) (nf:Nat) (sc:Nat->Nat) (ks:List Z4) (z:Nat):Prop where
 fb:Uq ds nf sc 0 ks
 op:TE WM ks
 sz:YK ks<=z
section
variable {ds:List Zd} {nf m z:Nat} {sc:Nat->Nat}
theorem KK.nil:KK ds nf sc [] 0:=⟨True.intro,True.intro,YQ _⟩
theorem KK.snoc {ks:List Z4} {b:Z4} {j z2:Nat} (h:KK ds nf sc ks z) (hj:ks.length=j) (hb:KB ds nf (sc j) b z2):KK ds nf sc (ks++[b]) (z+z2):=by
 refine ⟨HS h.fb (by rw [hj];exact hb.fb),Lw h.op hb.op,?_⟩
 have:=h.sz
 have:=hb.sz
 rw [BC];simp only [YK];omega
theorem KK.le {ks:List Z4} (h:KK ds nf sc ks z) {z2:Nat} (hz:z<=z2):KK ds nf sc ks z2:=⟨h.fb,h.op,WK h.sz hz⟩
theorem HT {s:Z3} {ks:List Z4} {into:Int} (h:FS ds nf m s) (h11:s.op<=11) (hl:ks.length=s.kids.length) (hi:0<=into/\into<=m) (hk:KK ds nf (VK ds s.op s.num m) ks z):fS ds nf m ⟨s.op,s.num,into,s.args,ks⟩/\TF WM ⟨s.op,s.num,into,s.args,ks⟩/\(Z3.mk s.op s.num into s.args ks).sz<=5+z:=by
 refine ⟨?_,?_,?_⟩
 ·rw [fS]
  refine ⟨h.op,h.args,fun q=>by omega,fun q=>by rw [hl];exact h.k7 q,fun q=>by rw [hl];exact h.k8 q,h.one,h.call,h.num,hi,h.alen,fun q=>?_,hk.fb⟩
  have:=h.kn q
  rw [this] at hl
  exact List.eq_nil_of_length_eq_zero hl
 ·rw [TF];exact ⟨by show s.op<=15;omega,hk.op⟩
 ·have:=h.alen
  have:=hk.sz
  rw [Z3.sz];omega
end
structure KT (ds:List Zd) (nf m:Nat) (st:Z3) (z:Nat):Prop where
 fs:fS ds nf m st
 cb:YP st.op=false
 op:TF WM st
 sz:st.sz<=z
theorem KT.of {ds:List Zd} {nf m z:Nat} {s:Z3} {ks:List Z4} {into:Int} (h:FS ds nf m s) (h11:s.op<=11) (hl:ks.length=s.kids.length) (hi:0<=into/\into<=m) (hk:KK ds nf (VK ds s.op s.num m) ks z):KT ds nf m ⟨s.op,s.num,into,s.args,ks⟩ (5+z):=by
 obtain ⟨h1,h2,h3⟩:=HT h h11 hl hi hk
 exact ⟨h1,by show YP s.op=false;simp [YP];omega,h2,h3⟩
theorem CL.kt {ds:List Zd} {nf m d z z2:Nat} {xs:List Z3} {st:Z3} (h:CL ds nf m xs d z) (hs:KT ds nf (m+d) st z2):CL ds nf m (xs++[st]) (d+1) (z+z2):=(h.one hs.fs hs.cb hs.op).le (by have:=hs.sz;omega)
theorem FS.few {ds:List Zd} {nf m:Nat} {s:Z3} (h:FS ds nf m s) (hd:Wh ds):s.kids.length<=3:=by
 by_cases h7:s.op=7
 ·have:=h.k7 h7;omega
 ·by_cases h8:s.op=8
  ·have:=h.k8 h8
   have:=Lq hd s.num
   omega
  ·rw [h.kn ⟨h7,h8⟩];simp
theorem RF.lend {ds:List Zd} {nf q:Nat} {p:Int->Prop} {r:Y8} {l:LI} (h:RF ds nf q p r) (h1:l.length<=3) (h2:∀v∈l,0<=v/\v<(r.params.length:Int)):RF ds nf q p ⟨r.params,l,r.result,r.body⟩:=⟨h.sig,⟨h1,h2⟩,h.body,h.op⟩
theorem RF.with {ds:List Zd} {nf q q2:Nat} {p p2:Int->Prop} {r:Y8} {b:Z4} (h:RF ds nf q p r) (h1:fB ds nf r.params.length b) (h2:b.sz<=q2) (h3:WE p2 b):RF ds nf q2 p2 ⟨r.params,r.lent,r.result,b⟩:=⟨h.sig,h.lent,⟨h1,h2⟩,h3⟩
theorem Z4.eta (b:Z4):Z4.mk b.steps b.result=b:=by cases b;rfl
theorem LC.at {n:Zx} {k:Nat} {xs:List LI} {i:Nat} {l:LI} {r:Y8} (h:LC n k xs) (hl:xs[i]? = some l) (hr:n.routines[i]? = some r):l.length<=3/\∀v∈l,0<=v/\v<(r.params.length:Int):=⟨(h.ok i l hl).1,(h.ok i l hl).2 r hr⟩
theorem EL:∀{xs:List Z3},(∀s∈xs,TF Wd s)->∀k,k<=xs.length->YH (xs.take k)=k
 | _,_,0,_=>rfl
 | [],_,k+1,h=>absurd h (by simp)
 | x::r,h,k+1,hk=>by
  have h1:=((C9 x).1 (h x (YZ ..))).1
  have hc:YP x.op=false:=by have:x.op<=11:=h1;simp [YP];omega
  rw [Ax,YH,Zp (by rw [hc];simp),EL (fun s hs=>h s (Xr _ hs)) k (by simpa using hk)]
  omega
theorem KB.put1 {ds:List Zd} {nf m z:Nat} {b:Z4} (h:KB ds nf m b z) {op:Int} (ho:op=14∨op=15) {as1:LI} (ha:∀v∈as1,0<=v/\v<(m:Int)):KB ds nf m ⟨as1.map (Zl op)++b.steps,b.result⟩ (z+2*as1.length):=by
 obtain ⟨h1,h2⟩:=h.cl
 have q1:CL ds nf m ([]++as1.map (Zl op)) 0 (0+2*as1.length):=CL.nil.cnts ho ha
 have q2:=q1.app h1
 have:=h.sz
 have:=b.sz_eq
 rw [Kj,Wv] at q2
 exact (q2.block h2).le om
theorem FO.fin {n:Zx} {rs:List Y8} {q q2:Nat} {p:Int->Prop} (h:FN n q2) (e:rs.length=n.routines.length) (hr:∀r∈rs,RF n.decls n.routines.length q p r):FO ⟨n.decls,rs⟩ q p/\rs.length=n.routines.length:=
 ⟨FO.all h.decls (by show 1<=rs.length/\rs.length<=4;rw [e];exact h.len) (by show ∀r∈rs,RF n.decls rs.length q p r;rw [e];exact hr),e⟩
theorem KT.le {ds:List Zd} {nf m z z2:Nat} {st:Z3} (h:KT ds nf m st z) (hz:z<=z2):KT ds nf m st z2:=⟨h.fs,h.cb,h.op,WK h.sz hz⟩
theorem KB.len {ds:List Zd} {nf m z:Nat} {b:Z4} (h:KB ds nf m b z):b.steps.length<=z:=by
 have:=h.sz
 have:=b.sz_eq
 have:=QG b.steps
 omega
mutual
def vS:Z3->LI
 | .mk op _ _ args kids=>if YP op=true then [] else args++Ww kids
def Ww:List Z4->LI
 | []=>[]
 | b::r=>vB b++Ww r
def Xj:List Z3->LI
 | []=>[]
 | s::r=>vS s++Xj r
def vB:Z4->LI
 | .mk steps result=>Xj steps++[result]
end
theorem Bp (s:Z3):vS s=if YP s.op=true then [] else s.args++Ww s.kids:=by cases s;rw [vS];rfl
theorem At (b:Z4):vB b=Xj b.steps++[b.result]:=by cases b;rw [vB];rfl
mutual
theorem E5:∀(s:Z3),(vS s).length<=s.sz
 | .mk op num into args kids=>by
  have h1:=Nu kids
  rw [vS,Z3.sz];split
  ·simp
  ·rw [Yk];omega
theorem Nu:∀(bs:List Z4),(Ww bs).length<=YK bs
 | []=>YQ _
 | b::r=>by
  have h1:=Nu r
  have h2:=Cq b
  rw [Ww,YK,Yk];omega
theorem E6:∀(bs:List Z3),(Xj bs).length<=Y5 bs
 | []=>YQ _
 | b::r=>by
  have h1:=E6 r
  have h2:=E5 b
  rw [Xj,Y5,Yk];omega
theorem Cq:∀(b:Z4),(vB b).length<=b.sz
 | .mk steps result=>by
  have h1:=E6 steps
  rw [vB,Z4.sz,Yk,Cx];omega
end
theorem Z5z {ss:List Z3} {xs acc r:LI} {k:Nat} {s:Z3} (h:ss[k]? = some s) (ha:acc++Xj (ss.drop k)=r):(acc++vS s)++Xj (ss.drop (k+1))=r:=by
 rw [Yo h,Xj] at ha;rw [<-ha];simp
theorem Z5x {ss:List Z4} {acc r:LI} {k:Nat} {s:Z4} (h:ss[k]? = some s) (ha:acc++Ww (ss.drop k)=r):(acc++vB s)++Ww (ss.drop (k+1))=r:=by
 rw [Yo h,Ww] at ha;rw [<-ha];simp
theorem Z5y {ss:List Z3} {acc r:LI} {k:Nat} (h:ss.length<=k) (ha:acc++Xj (ss.drop k)=r):acc=r:=by
 rw [Xz h,Xj,T4] at ha;exact ha
theorem Z5w {ss:List Z4} {acc r:LI} {k:Nat} (h:ss.length<=k) (ha:acc++Ww (ss.drop k)=r):acc=r:=by
 rw [Xz h,Ww,T4] at ha;exact ha
def Uw:LI->Int->LI
 | [],_=>[]
 | x::r,n=>if 0<=x/\x<n then x::Uw r n else Uw r n
theorem Ot {xs acc r:LI} {n x:Int} {k:Nat} (hx:xs[k]? = some x) (h:acc++Uw (xs.drop k) n=r):(if 0<=x/\x<n then acc++[x] else acc)++Uw (xs.drop (k+1)) n=r:=by
 rw [Yo hx,Uw] at h
 by_cases q:0<=x/\x<n
 ·rw [Zw q] at h ⊢;rw [<-h];simp
 ·rw [Zp q] at h ⊢;exact h
theorem Oq {xs acc r:LI} {n:Int} {k:Nat} (hk:xs.length<=k) (h:acc++Uw (xs.drop k) n=r):acc=r:=by
 rw [Xz hk,Uw,T4] at h;exact h
theorem Ev:∀(xs:LI) (n:Int),Uw xs n=xs.filter (fun x=>decide (0<=x/\x<n))
 | [],_=>rfl
 | x::r,n=>by
  rw [Uw,List.filter_cons,Ev r n]
  by_cases q:0<=x/\x<n
  ·rw [Zw q,Zw (by simpa using q)]
  ·rw [Zp q,Zp (by simpa using q)]
theorem Z18 {xs:LI} {n z:Int}:z∈Uw xs n↔z∈xs/\0<=z/\z<n:=by rw [Ev];simp
theorem Ou {xs:LI} {n:Int} (h:xs.Pairwise (·<·)):(Uw xs n).Pairwise (·<·):=by rw [Ev];exact h.filter _
theorem H6:∀{xs ys:LI},xs.Pairwise (·<·)->ys.Pairwise (·<·)->(∀z,z∈xs↔z∈ys)->xs=ys
 | [],[],_,_,_=>rfl
 | [],y::r,_,_,h=>by have:=(h y).2 (YZ ..);cases this
 | x::r,[],_,_,h=>by have:=(h x).1 (YZ ..);cases this
 | x::r,y::s,hx,hy,h=>by
  have h1:=Wb.1 hx
  have h2:=Wb.1 hy
  have e:x=y:=by
   rcases Yr.1 ((h x).1 (YZ ..)) with e|e
   ·exact e
   ·rcases Yr.1 ((h y).2 (YZ ..)) with e2|e2
    ·exact e2.symm
    ·have:=h1.1 y e2;have:=h2.1 x e;omega
  subst e
  rw [H6 h1.2 h2.2 fun z=>⟨fun hz=>by
    rcases Yr.1 ((h z).1 (Xr _ hz)) with e|e
    ·subst e;have:=h1.1 _ hz;omega
    ·exact e,fun hz=>by
    rcases Yr.1 ((h z).2 (Xr _ hz)) with e|e
    ·subst e;have:=h2.1 _ hz;omega
    ·exact e⟩]
theorem FW:∀{xs:LI} {y z:Int},z∈WC xs y↔z=y∨z∈xs
 | [],y,z=>by rw [WC];simp
 | x::r,y,z=>by
  rw [WC]
  split
  ·simp
  ·split
   ·rename_i h;subst h;simp
   ·rw [Yr,FW,Yr]
    constructor
    ·rintro (h|h|h)
     ·exact .inr (.inl h)
     ·exact .inl h
     ·exact .inr (.inr h)
    ·rintro (h|h|h)
     ·exact .inr (.inl h)
     ·exact .inl h
     ·exact .inr (.inr h)
theorem II:∀{xs:LI} {y:Int},xs.Pairwise (·<·)->(WC xs y).Pairwise (·<·)
 | [],y,_=>by rw [WC];simp
 | x::r,y,h=>by
  have h1:=Wb.1 h
  rw [WC]
  split
  ·rename_i q
   refine Wb.2 ⟨fun z hz=>?_,h⟩
   rcases Yr.1 hz with rfl|hz
   ·exact q
   ·have:=h1.1 z hz;omega
  ·split
   ·exact h
   ·refine Wb.2 ⟨fun z hz=>?_,II h1.2⟩
    rcases FW.1 hz with rfl|hz
    ·omega
    ·exact h1.1 z hz
theorem FY {n:Int} {xs:LI} {a z:Int}:z∈WZ n xs a↔z∈xs∨(z=a/\0<=z/\z<n):=by
 rw [WZ]
 split
 ·rw [FW]
  constructor
  ·rintro (h|h)
   ·exact .inr ⟨h,by omega⟩
   ·exact .inl h
  ·rintro (h|h)
   ·exact .inr h
   ·exact .inl h.1
 ·constructor
  ·exact .inl
  ·rintro (h|h)
   ·exact h
   ·omega
theorem GM {n:Int} {xs:LI} {a:Int} (h:xs.Pairwise (·<·)):(WZ n xs a).Pairwise (·<·):=by
 rw [WZ];split
 ·exact II h
 ·exact h
theorem Li {n z:Int}:∀{as1 xs:LI},z∈VM n as1 xs↔z∈xs∨(z∈as1/\0<=z/\z<n)
 | [],xs=>by rw [VM];simp
 | a::r,xs=>by
  rw [VM,Li,FY,Yr]
  constructor
  ·rintro ((h|h)|h)
   ·exact .inl h
   ·exact .inr ⟨.inl h.1,h.2⟩
   ·exact .inr ⟨.inr h.1,h.2⟩
  ·rintro (h|⟨h|h,q⟩)
   ·exact .inl (.inl h)
   ·exact .inl (.inr ⟨h,q⟩)
   ·exact .inr ⟨h,q⟩
theorem Nm {n:Int}:∀{as1 xs:LI},xs.Pairwise (·<·)->(VM n as1 xs).Pairwise (·<·)
 | [],xs,h=>by rw [VM];exact h
 | a::r,xs,h=>by rw [VM];exact Nm (GM h)
mutual
theorem Z5s (n:Int):∀(s:Z3) (xs:LI),((xs.Pairwise (·<·))->(Tp n s xs).Pairwise (·<·))/\∀z,z∈Tp n s xs↔z∈xs∨(z∈vS s/\0<=z/\z<n)
 | .mk op num into args kids,xs=>by
  have ih:=Nq n kids (VM n args xs)
  rw [Tp,vS]
  split
  ·exact ⟨id,fun z=>by simp⟩
  ·refine ⟨fun h=>ih.1 (Nm h),fun z=>?_⟩
   rw [ih.2,Li,YU]
   constructor
   ·rintro ((h|h)|h)
    ·exact .inl h
    ·exact .inr ⟨.inl h.1,h.2⟩
    ·exact .inr ⟨.inr h.1,h.2⟩
   ·rintro (h|⟨h|h,q⟩)
    ·exact .inl (.inl h)
    ·exact .inl (.inr ⟨h,q⟩)
    ·exact .inr ⟨h,q⟩
theorem Nq (n:Int):∀(bs:List Z4) (xs:LI),((xs.Pairwise (·<·))->(T1 n bs xs).Pairwise (·<·))/\∀z,z∈T1 n bs xs↔z∈xs∨(z∈Ww bs/\0<=z/\z<n)
 | [],xs=>by rw [T1,Ww];exact ⟨id,fun z=>by simp⟩
 | b::r,xs=>by
  have h1:=Z5p n b xs
  have h2:=Nq n r (Vi n b xs)
  rw [T1,Ww]
  refine ⟨fun h=>h2.1 (h1.1 h),fun z=>?_⟩
  rw [h2.2,h1.2,YU]
  constructor
  ·rintro ((h|h)|h)
   ·exact .inl h
   ·exact .inr ⟨.inl h.1,h.2⟩
   ·exact .inr ⟨.inr h.1,h.2⟩
  ·rintro (h|⟨h|h,q⟩)
   ·exact .inl (.inl h)
   ·exact .inl (.inr ⟨h,q⟩)
   ·exact .inr ⟨h,q⟩
theorem E3 (n:Int):∀(bs:List Z3) (xs:LI),((xs.Pairwise (·<·))->(V0 n bs xs).Pairwise (·<·))/\∀z,z∈V0 n bs xs↔z∈xs∨(z∈Xj bs/\0<=z/\z<n)
 | [],xs=>by rw [V0,Xj];exact ⟨id,fun z=>by simp⟩
 | b::r,xs=>by
  have h1:=Z5s n b xs
  have h2:=E3 n r (Tp n b xs)
  rw [V0,Xj]
  refine ⟨fun h=>h2.1 (h1.1 h),fun z=>?_⟩
  rw [h2.2,h1.2,YU]
  constructor
  ·rintro ((h|h)|h)
   ·exact .inl h
   ·exact .inr ⟨.inl h.1,h.2⟩
   ·exact .inr ⟨.inr h.1,h.2⟩
  ·rintro (h|⟨h|h,q⟩)
   ·exact .inl (.inl h)
   ·exact .inl (.inr ⟨h,q⟩)
   ·exact .inr ⟨h,q⟩
theorem Z5p (n:Int):∀(b:Z4) (xs:LI),((xs.Pairwise (·<·))->(Vi n b xs).Pairwise (·<·))/\∀z,z∈Vi n b xs↔z∈xs∨(z∈vB b/\0<=z/\z<n)
 | .mk steps result,xs=>by
  have h1:=E3 n steps xs
  rw [Vi,vB]
  refine ⟨fun h=>GM (h1.1 h),fun z=>?_⟩
  rw [FY,h1.2,YU,Xp]
  constructor
  ·rintro ((h|h)|h)
   ·exact .inl h
   ·exact .inr ⟨.inl h.1,h.2⟩
   ·exact .inr ⟨.inr h.1,h.2⟩
  ·rintro (h|⟨h|h,q⟩)
   ·exact .inl (.inl h)
   ·exact .inl (.inr ⟨h,q⟩)
   ·exact .inr ⟨h,q⟩
end
theorem Hq (zs:LI) (hs:zs.Pairwise (·<=·)):∀m,m<=zs.length->(Lib.compactUpTo zs.toArray m).Pairwise (·<·)/\∀z,z∈Lib.compactUpTo zs.toArray m↔∃j,j<m/\zs[j]? = some z
 | 0,_=>by simp [Lib.compactUpTo]
 | m+1,hm=>by
  obtain ⟨h1,h2⟩:=Hq zs hs m om
  have hg:∀j (h:j<zs.length),zs.toArray[j]! = zs[j]:=fun j h=>by simp [h]
  have hle:∀i j (hj:j<zs.length),(hij:i<=j)->zs[i]'om<=zs[j]:=fun i j hj hij=>by
   rcases J8 i j with h|h
   ·exact (List.pairwise_iff_getElem.1 hs) i j om hj h
   ·have:i=j:=by omega
    subst this;exact Int.le_refl _
  rw [Lib.compactUpTo_succ]
  cases hk:Lib.keeps zs.toArray m with
  | true=>
   rw [Zw rfl,hg m om]
   have hlt:∀z∈Lib.compactUpTo zs.toArray m,z<zs[m]:=by
    intro z hz
    obtain ⟨j,hj,hjz⟩:=(h2 z).1 hz
    obtain ⟨hjl,rfl⟩:=XA.1 hjz
    have a1:=hle j (m-1) om om
    have a2:=hle (m-1) m om om
    have a3:zs[m]≠zs[m-1]'om:=fun e=>by
     have:=Lib.keeps_neg (d:=zs.toArray) (m:=m) om (by rw [hg m om,hg (m-1) om];exact e)
     rw [hk] at this;cases this
    omega
   refine ⟨Kk.2 ⟨h1,JL _ _,fun a ha b hb=>by rw [Xp.1 hb];exact hlt a ha⟩,fun z=>?_⟩
   rw [YU,Xp,h2]
   constructor
   ·rintro (⟨j,hj,e⟩|rfl)
    ·exact ⟨j,by omega,e⟩
    ·exact ⟨m,by omega,TM om⟩
   ·rintro ⟨j,hj,e⟩
    rcases J8 j m with h|h
    ·exact .inl ⟨j,h,e⟩
    ·have:j=m:=by omega
     subst this
     rw [TM om] at e
     exact .inr (Ay e).symm
  | false=>
   rw [Zp (by simp),T4]
   refine ⟨h1,fun z=>?_⟩
   rw [h2]
   constructor
   ·rintro ⟨j,hj,e⟩;exact ⟨j,by omega,e⟩
   ·rintro ⟨j,hj,e⟩
    rcases J8 j m with h|h
    ·exact ⟨j,h,e⟩
    ·have:j=m:=by omega
     subst this
     have hj0:0<j:=by
      rcases Nat.eq_zero_or_pos j with h0|h0
      ·subst h0;have:=Lib.keeps_lt_one zs.toArray 0 om;rw [hk] at this;cases this
      ·exact h0
     have he:zs.toArray[j]! = zs.toArray[j-1]!:=by
      rcases Decidable.em (zs.toArray[j]! = zs.toArray[j-1]!) with q|q
      ·exact q
      ·have:=Lib.keeps_pos q;rw [hk] at this;cases this
     rw [hg j om,hg (j-1) om] at he
     rw [TM om,he] at e
     exact ⟨j-1,by omega,by rw [TM om];exact e⟩
theorem OW (xs:LI):(Lib.compact (xs.mergeSort fun x y=>decide (x<=y))).Pairwise (·<·)/\∀z,z∈Lib.compact (xs.mergeSort fun x y=>decide (x<=y))↔z∈xs:=by
 have hs:(xs.mergeSort fun x y=>decide (x<=y)).Pairwise (·<=·):=by
  have:=List.pairwise_mergeSort (le:=fun x y:Int=>decide (x<=y)) (fun a b c h1 h2=>by simp only [decide_eq_true_eq] at *;omega) (fun a b=>by simp only [Bool.or_eq_true,decide_eq_true_eq];omega) xs
  exact this.imp fun h=>by simpa using h
 obtain ⟨h1,h2⟩:=Hq _ hs _ (YQ _)
 refine ⟨h1,fun z=>?_⟩
 unfold Lib.compact
 rw [h2]
 constructor
 ·rintro ⟨j,_,e⟩
  exact List.mem_mergeSort.1 (ZW e)
 ·intro hz
  obtain ⟨j,hj,e⟩:=List.getElem_of_mem (List.mem_mergeSort (le:=fun x y:Int=>decide (x<=y)).2 hz)
  exact ⟨j,hj,by rw [TM hj,e]⟩
def uF (n:Int) (b:Z4) (k:Nat):LI:=WZ n (V0 n (b.steps.drop k) []) b.result
theorem Z5k (n:Int) (b:Z4) (k:Nat):(uF n b k).Pairwise (·<·):=GM ((E3 n _ _).1 .nil)
theorem FX {n:Int} {b:Z4} {k:Nat} {z:Int}:z∈uF n b k↔z∈Xj (b.steps.drop k)++[b.result]/\0<=z/\z<n:=by
 rw [uF,FY,(E3 n _ _).2,YU,Xp]
 constructor
 ·rintro ((h|h)|h)
  ·cases h
  ·exact ⟨.inl h.1,h.2⟩
  ·exact ⟨.inr h.1,h.2⟩
 ·rintro ⟨h|h,q⟩
  ·exact .inl (.inr ⟨h,q⟩)
  ·exact .inr ⟨h,q⟩
theorem Z3m (n:Int) (b:Z4) (k:Nat):Uw (Lib.compact ((Xj (b.steps.drop k)++[b.result]).mergeSort fun x y=>decide (x<=y))) n=uF n b k:=by
 obtain ⟨h1,h2⟩:=OW (Xj (b.steps.drop k)++[b.result])
 refine H6 (Ou h1) (Z5k n b k) fun z=>?_
 rw [Z18,h2,FX]
theorem OX (xs:LI):(Lib.compact xs).length<=xs.length:=by
 have:=List.length_filter_le (Lib.keeps xs.toArray) (List.range xs.length)
 simpa [Lib.compact,Lib.compactUpTo] using this
theorem Ni (n:Int) (b:Z4) (k:Nat):(uF n b k).length<=b.sz:=by
 have h1:=Co (n:=n) (V0 n (b.steps.drop k) []) b.result
 have h2:=E2 (n:=n) (b.steps.drop k) []
 have h3:=Ar b.steps k
 have h4:=b.sz_eq
 rw [uF];simp at h2;omega
structure NK (n:Zx):Prop where
 result:∀r∈n.routines,r.result<=(n.decls.length:Int)
 decl:∀d∈n.decls,d.cons.length=0->d.to_<=(n.decls.length:Int)
 fields:∀c,∀f∈Y4 n.decls c,f<=(n.decls.length:Int)
section
variable {n:Zx} (hu:NK n)
include hu
end
theorem Lc:∀{xs:List Z3},xs.length<=Y5 xs
 | []=>T7 _
 | x::r=>by have:=Lc (xs:=r);have:=x.sz_pos;rw [Y5,YD];omega
theorem C3 (b:Z4):b.steps.length<=b.sz:=by have:=b.sz_eq;have:=Lc (xs:=b.steps);omega


def WP:List Z3->Int->Nat
 | [],_=>0
 | s::r,v=>(if gI s.args 0=v then 1 else 0)+WP r v
def WJ (rn:List Z3):LI->Nat
 | []=>0
 | v::r=>WP rn v+WJ rn r
theorem ED:∀(xs ys:List Z3) (v:Int),WP (xs++ys) v=WP xs v+WP ys v
 | [],ys,v=>by simp [WP]
 | x::r,ys,v=>by rw [TK,WP,WP,ED r];omega
theorem OT {xs:List Z3} {k:Nat} {s:Z3} (h:xs[k]? = some s) (v:Int):WP (xs.take (k+1)) v=WP (xs.take k) v+(if gI s.args 0=v then 1 else 0):=by
 rw [Vh h,ED,WP,WP];omega
theorem Hn:∀(xs:List Z3) (v:Int),WP xs v<=xs.length
 | [],v=>YQ _
 | x::r,v=>by have:=Hn r v;rw [WP,YD];split<;>omega
theorem OU (xs:List Z3) (k:Nat) (v:Int):WP (xs.take k) v<=WP xs v:=by
 have h:=Ys (WP · v) (Uo k xs)
 simp only [ED] at h;omega
theorem Gy (rn:List Z3):∀xs ys:LI,WJ rn (xs++ys)=WJ rn xs+WJ rn ys
 | [],ys=>by simp [WJ]
 | x::r,ys=>by rw [TK,WJ,WJ,Gy rn r];omega
theorem Z5c {rn:List Z3} {xs:LI} {k:Nat} {v:Int} (h:xs[k]? = some v):WJ rn (xs.take (k+1))=WJ rn (xs.take k)+WP rn v:=by
 rw [Vh h,Gy,WJ,WJ];rfl
theorem N6 (s:Z3) (r:List Z3):∀vs:LI,JP vs->WJ (s::r) vs<=1+WJ r vs/\(¬gI s.args 0∈vs->WJ (s::r) vs=WJ r vs)
 | [],_=>by simp [WJ]
 | v::vs,h=>by
  obtain ⟨h1,h2⟩:=Wb.1 h
  obtain ⟨q1,q2⟩:=N6 s r vs h2
  rw [WJ,WJ,WP]
  by_cases e:gI s.args 0=v
  ·have hn:¬gI s.args 0∈vs:=fun z=>by have:=h1 _ z;omega
   rw [Zw e,q2 hn]
   exact ⟨by omega,fun z=>absurd (Yr.2 (.inl e)) z⟩
  ·rw [Zp e]
   exact ⟨by omega,fun z=>by rw [q2 fun y=>z (Xr _ y)];omega⟩
theorem N7:∀(rn:List Z3) {vs:LI},JP vs->WJ rn vs<=rn.length
 | [],vs,_=>by
  have:∀xs:LI,WJ [] xs=0:=fun xs=>by
   induction xs with
   | nil=>rfl
   | cons x r ih=>rw [WJ,ih];rfl
  rw [this];exact T7 _
 | s::r,vs,h=>by
  have h1:=(N6 s r vs h).1
  have h2:=N7 r h
  rw [YD];omega
theorem Gz (rn:List Z3) (xs:LI) (k:Nat):WJ rn (xs.take k)<=WJ rn xs:=by
 have h:=Ys (WJ rn) (Uo k xs)
 rw [Gy] at h;omega
def GX (m:Nat) (rn:List Z3):Prop:=∀s∈rn,∃a,s.args=[a]/\0<=a/\a<(m:Int)
theorem HE {xs:List Z3} {k:Nat} {s:Z3} (h:xs[k]? = some s):YH (xs.take (k+1))=YH (xs.take k)+(if YP s.op=true then 0 else 1):=by rw [Vh h,Qw,YH,YH];rfl
theorem KT.eq {ds:List Zd} {nf m z:Nat} {s:Z3} {ks:List Z4} (h:FS ds nf m s) (h11:s.op<=11) (hl:ks.length=s.kids.length) (hk:KK ds nf (VK ds s.op s.num m) ks z):KT ds nf m ⟨s.op,s.num,s.into,s.args,ks⟩ (1+s.args.length+z):=by
 obtain ⟨h1,h2,h3⟩:=HT h h11 hl h.into hk
 refine ⟨h1,by show YP s.op=false;simp [YP];omega,h2,?_⟩
 have:=hk.sz
 rw [Z3.sz];omega
theorem FS.pair {ds:List Zd} {nf m:Nat} {s:Z3} (h:FS ds nf m s) (hp:s.op=14∨s.op=15):(∃a,s.args=[a]/\0<=a/\a<(m:Int))/\s.sz=2/\YP s.op=true:=by
 obtain ⟨h1,h2,h3,a,h4⟩:=h.cnt om
 have h5:=h.args a (by rw [h4];exact Xp.2 rfl)
 refine ⟨⟨a,h4,h5⟩,?_,Hy hp⟩
 rw [s.sz_eq,h3,h4];rfl
theorem FS.not_pair {ds:List Zd} {nf m:Nat} {s:Z3} (h:FS ds nf m s) (hp:¬(s.op=14∨s.op=15)) (h15:WM s.op):s.op<=11/\YP s.op=false:=by
 have h1:s.op<=15:=h15
 have h2:=h.op
 exact ⟨by omega,by simp [YP];omega⟩
theorem CL.run {ds:List Zd} {nf m d z:Nat} {xs:List Z3} {D R:LI} {rn:List Z3} (h:CL ds nf m xs d z) (hr:GX (m+d) rn) (hD:∀v∈D,∃s∈rn,s.args=[v]) (hR:∀v∈R,∃s∈rn,s.args=[v]):CL ds nf m (xs++(D.map (Zl 14)++R.map (Zl 15))) d (z+2*(D.length+R.length)):=by
 have key:∀(A:LI),(∀v∈A,∃s∈rn,s.args=[v])->∀v∈A,0<=v/\v<((m+d:Nat):Int):=fun A hA v hv=>by
  obtain ⟨s,hs,e⟩:=hA v hv
  obtain ⟨a,e2,e3⟩:=hr s hs
  rw [e] at e2
  cases e2
  exact e3
 have h2:=(h.cnts (op:=14) (.inl rfl) (key D hD)).cnts (op:=15) (.inr rfl) (key R hR)
 rw [<-VN]
 exact h2.le om
def W1 (xs:List Z3) (i:Nat) (s:Z3):List Z3:=xs.take i++[s]++xs.drop i
theorem Cf {xs:List Z3} (i:Nat) (s:Z3):Y5 (W1 xs i s)=Y5 xs+s.sz:=by
 have h:=Ys Y5 (Uo i xs)
 rw [Un] at h
 rw [W1,Un,Un,Y5,Y5];omega
theorem LR {xs:List Z3} {i:Nat} {s:Z3} (h:i<=xs.length):(W1 xs i s).length=xs.length+1:=by
 simp [W1,Vb h];omega
def B1 (b:Z4) (i j:Nat) (v:Int):Z4:=⟨W1 (W1 b.steps j (Zl 15 v)) i (Zl 14 v),b.result⟩
def withR (n:Zx) (f:Nat) (rt:Y8) (b:Z4):Zx:=⟨n.decls,n.routines.set f ⟨rt.params,rt.lent,rt.result,b⟩⟩
def Ej (n n2:Zx):Prop:=n2=n∨∃f rt i j v,n.routines[f]? = some rt/\i<=j/\j<=rt.body.steps.length/\0<=v/\v<((rt.params.length+YH (rt.body.steps.take i):Nat):Int)/\n2=withR n f rt (B1 rt.body i j v)
theorem CL.put {ds:List Zd} {nf m:Nat} {xs:List Z3} {d z:Nat} (h:CL ds nf m xs d z) {i:Nat} {op v:Int} (ho:op=14∨op=15) (hv:0<=v/\v<((m+YH (xs.take i):Nat):Int)):CL ds nf m (W1 xs i (Zl op v)) d (z+2):=by
 have hs:=h.fs
 have hp:=h.op
 have e:=Uo i xs
 rw [<-e] at hs hp
 rw [AU] at hs
 rw [DC] at hp
 have h1:CL ds nf m (xs.take i) (YH (xs.take i)) (Y5 (xs.take i)):=⟨hs.1,rfl,hp.1,YQ _⟩
 have h2:CL ds nf (m+YH (xs.take i)) (xs.drop i) (YH (xs.drop i)) (Y5 (xs.drop i)):=⟨hs.2,rfl,hp.2,YQ _⟩
 have h3:=(h1.cnt ho hv).app h2
 have e1:=Ys Y5 e
 have e2:=Ys YH e
 rw [Un] at e1
 rw [Qw,h.dn] at e2
 have:=h.sz
 rw [e2] at h3
 exact h3.le om
theorem Z26 {xs:List Z3} {i j:Nat} {s:Z3} (h:i<=j) (hj:j<=xs.length):(W1 xs j s).take i=xs.take i:=by
 rw [W1,VN,List.take_append_of_le_length (by rw [Wr];omega),List.take_take,Vb h]
theorem Su {ds:List Zd} {nf m z:Nat} {b:Z4} (h:KB ds nf m b z) {i j:Nat} {v:Int} (hij:i<=j) (hj:j<=b.steps.length) (hv:0<=v/\v<((m+YH (b.steps.take i):Nat):Int)):KB ds nf m (B1 b i j v) (z+4):=by
 obtain ⟨h1,h2⟩:=h.cl
 have hm:YH (b.steps.take i)<=YH (b.steps.take j):=by
  have e:=Ys YH (Uo i (b.steps.take j))
  rw [Qw,List.take_take,Vb hij] at e;omega
 have h3:=(h1.put (i:=j) (op:=15) (v:=v) (.inr rfl) om).put (i:=i) (op:=14) (v:=v) (.inl rfl) (by rw [Z26 hij hj];exact hv)
 have:=h.sz
 have:=b.sz_eq
 exact (h3.block h2).le om
theorem FO.held {n n2:Zx} {q:Nat} (h:FO n q WM) (hh:Ej n n2):FO n2 (q+4) WM:=by
 rcases hh with rfl|⟨f,rt,i,j,v,h1,h2,h3,h4,h5,rfl⟩
 ·exact ⟨⟨h.fn.decls,h.fn.len,h.fn.sigs,h.fn.lent,fun r hr=>⟨(h.fn.body r hr).1,by have:=(h.fn.body r hr).2;omega⟩⟩,h.op⟩
 ·have hr:=h.rf (ZW h1)
  have hk:KB n.decls n.routines.length rt.params.length (B1 rt.body i j v) (q+4):=Su ⟨hr.body.1,hr.op,hr.body.2⟩ h2 h3 ⟨h4,h5⟩
  refine FO.all h.fn.decls (by show 1<=(n.routines.set _ _).length/\(n.routines.set _ _).length<=4;rw [Uu];exact h.fn.len) fun r hm=>?_
  show RF n.decls (n.routines.set _ _).length _ _ r
  rw [Uu]
  rcases List.mem_or_eq_of_mem_set hm with hm|rfl
  ·have hq:=h.rf hm
   exact ⟨hq.sig,hq.lent,⟨hq.body.1,by have:=hq.body.2;omega⟩,hq.op⟩
  ·exact ⟨hr.sig,hr.lent,⟨hk.fb,hk.sz⟩,hk.op⟩
mutual
def Z3.rb:Z3->Prop
 | .mk _ _ _ _ kids=>TQ kids
def TQ:List Z4->Prop
 | []=>True
 | b::r=>Z4.rb b/\TQ r
def Q2:List Z3->Prop
 | []=>True
 | s::r=>Z3.rb s/\Q2 r
def Z4.rb:Z4->Prop
 | .mk steps result=>Q2 steps/\-1000000000<=result/\result<=1000000000
end
theorem Z3.rb_eq (s:Z3):s.rb=TQ s.kids:=by cases s;rw [Z3.rb];rfl
theorem Z4.rb_eq (b:Z4):b.rb=(Q2 b.steps/\-1000000000<=b.result/\b.result<=1000000000):=by cases b;rw [Z4.rb];rfl
theorem Tm:∀{xs:List Z3},Q2 xs↔∀s∈xs,s.rb
 | []=>by simp [Q2]
 | s::r=>by rw [Q2,Tm];simp
theorem AG:∀{xs:List Z4},TQ xs↔∀s∈xs,s.rb
 | []=>by simp [TQ]
 | s::r=>by rw [TQ,AG];simp
section
variable {ds:List Zd} {nf:Nat}
mutual
theorem Z27:∀(s:Z3) {m:Nat},fS ds nf m s->m+4*s.sz<=900000000->Wh ds->s.rb
 | .mk op num into args kids,m,h,hb,hd=>by
  rw [fS] at h
  obtain ⟨h1,h2,h3,h4,h5,h6,h7,h8,h9,h10,h11,h12⟩:=h
  rw [Z3.sz] at hb
  rw [Z3.rb]
  refine LX kids h12 (fun k=>?_) hd
  have hf:=VD hd (gI (Y2 ds num) k)
  show VK ds op num m k+4*YK kids<=900000003
  rw [VK];split<;>omega
theorem LX:∀(bs:List Z4) {sc:Nat->Nat} {k:Nat},Uq ds nf sc k bs->(∀k,sc k+4*YK bs<=900000003)->Wh ds->TQ bs
 | [],_,_,_,_,_=>True.intro
 | b::r,sc,k,h,hb,hd=>by
  have hp:=b.sz_eq
  exact ⟨LV b h.1 (by have:=hb k;rw [YK] at this;omega) hd,LX r h.2 (fun j=>by have:=hb j;rw [YK] at this;omega) hd⟩
theorem LY:∀(xs:List Z3) {m:Nat},U3 ds nf m xs->m+4*Y5 xs<=900000000->Wh ds->Q2 xs
 | [],_,_,_,_=>True.intro
 | s::r,m,h,hb,hd=>by
  rw [Y5] at hb
  have hp:=s.sz_pos
  refine ⟨Z27 s h.1 om hd,LY r h.2 ?_ hd⟩
  split<;>omega
theorem LV:∀(b:Z4) {m:Nat},fB ds nf m b->m+4*b.sz<=900000004->Wh ds->b.rb
 | .mk steps result,m,h,hb,hd=>by
  rw [Z4.sz] at hb
  rw [fB] at h
  rw [Z4.rb]
  have h1:=Jl steps
  have h2:steps.length<=Y5 steps:=by
   clear h h1 hb
   induction steps with
   | nil=>simp
   | cons x r ih=>have:=x.sz_pos;rw [Y5,YD];omega
  exact ⟨LY steps h.1 om hd,by omega,by omega⟩
end
theorem Ao {op v:Int}:(Zl op v).rb:=by rw [Z3.rb_eq];exact True.intro
theorem Z28 {b:Z4} {x q:Int} {fs:LI} (h:b.rb):(Qt b x fs q).rb:=by
 rw [Z4.rb_eq,Tm] at h
 rw [Z4.rb_eq,Tm]
 refine ⟨fun s hs=>?_,h.2⟩
 have hs:s∈QO b.steps x fs q:=hs
 rw [QO] at hs
 split at hs
 ·simp only [YU,Wg,Xp] at hs
  rcases hs with ((⟨a,_,rfl⟩|rfl)|⟨a,_,rfl⟩)|hs
  ·exact Ao
  ·exact Ao
  ·exact Ao
  ·exact h.1 s (List.mem_of_mem_drop hs)
 ·exact h.1 s hs
mutual
theorem Z2b:∀(s:Z3) {m:Nat},s.rb->(J3 ds m s).rb
 | .mk op num into args kids,m,h=>by
  rw [Z3.rb] at h
  rw [J3,Z3.rb]
  exact M1 kids h
theorem M1:∀(bs:List Z4) {m:Nat} {op num:Int} {args:LI} {k:Nat},TQ bs->TQ (Ua ds m op num args bs k)
 | [],_,_,_,_,_,_=>by rw [Ua];exact True.intro
 | b::r,m,op,num,args,k,h=>by
  rw [Ua,TQ]
  refine ⟨?_,M1 r h.2⟩
  split
  ·exact Z28 (G5 b h.1)
  ·exact G5 b h.1
theorem M2:∀(xs:List Z3) {m:Nat},Q2 xs->Q2 (Vy ds m xs)
 | [],_,_=>by rw [Vy];exact True.intro
 | s::r,m,h=>by rw [Vy,Q2];exact ⟨Z2b s h.1,M2 r h.2⟩
theorem G5:∀(b:Z4) {m:Nat},b.rb->(Wq ds m b).rb
 | .mk steps result,m,h=>by
  rw [Z4.rb] at h
  rw [Wq,Z4.rb]
  exact ⟨M2 steps h.1,h.2⟩
end
theorem Z29 {b:Z4} {x:Int} {many:Nat} (h:b.rb):(V8 b x many).rb:=by
 rw [Z4.rb_eq] at h
 rw [V8,Z4.rb_eq]
 refine ⟨?_,h.2⟩
 show Q2 (Vg b.steps x many)
 rw [Vg]
 split
 ·exact h.1
 ·rename_i hq
  obtain ⟨_,_,t,h5,h7,h6⟩:=Kw (fun z=>hq (.inr z))
  have h:=h.1
  rw [Tm] at h ⊢
  intro s hs
  rcases List.mem_or_eq_of_mem_set hs with hs|rfl
  ·rcases List.mem_or_eq_of_mem_set hs with hs|rfl
   ·exact h s hs
   ·exact Ao
  ·have:=h t (ZW h5)
   rw [h6,Tg,Z3.rb_eq]
   rw [Z3.rb_eq] at this
   exact this
mutual
theorem Z2a:∀(s:Z3) {K:LI},s.rb->(UY ds K s).rb
 | .mk op num into args kids,K,h=>by
  rw [Z3.rb] at h
  rw [UY,Z3.rb]
  exact LZ kids h
theorem LZ:∀(bs:List Z4) {K:LI} {op num:Int} {args:LI} {k:Nat},TQ bs->TQ (Vw ds K op num args bs k)
 | [],_,_,_,_,_,_=>True.intro
 | b::r,K,op,num,args,k,h=>by
  rw [Vw,TQ]
  refine ⟨?_,LZ r h.2⟩
  split
  ·exact Z29 (G4 b h.1)
  ·exact G4 b h.1
theorem M0:∀(xs:List Z3) {K:LI},Q2 xs->Q2 (VI ds K xs)
 | [],_,_=>True.intro
 | s::r,K,h=>⟨Z2a s h.1,M0 r h.2⟩
theorem G4:∀(b:Z4) {K:LI},b.rb->(W2 ds K b).rb
 | .mk steps result,K,h=>by
  rw [Z4.rb] at h
  rw [W2,Z4.rb]
  exact ⟨M0 steps h.1,h.2⟩
end
end
structure Wl (ds:List Zd) (b:Z4):Prop where
 w:wB ds b
 nr:TD b
 rng:b.rng
structure Uv (ds:List Zd) (s:Z3):Prop where
 w:wS ds s
 nr:Al s
 rng:s.rng
section
variable {ds:List Zd}
theorem Tn:∀{xs:List Z3},Kd xs↔∀s∈xs,s.rng
 | []=>by simp [Kd]
 | s::r=>by rw [Kd,Tn];simp
theorem Jj:∀{xs:List Z4},QS xs↔∀s∈xs,s.rng
 | []=>by simp [QS]
 | s::r=>by rw [QS,Jj];simp
theorem Wl.iff {b:Z4}:Wl ds b↔∀s∈b.steps,Uv ds s:=by
 constructor
 ·intro h s hs
  have h3:=h.rng
  rw [Z4.rng_eq] at h3
  exact ⟨J5.1 ((Qr b).1 h.w) s hs,C6.1 ((C5 b).1 h.nr) s hs,Tn.1 h3 s hs⟩
 ·intro h
  exact ⟨(Qr b).2 (J5.2 fun s hs=>(h s hs).w),(C5 b).2 (C6.2 fun s hs=>(h s hs).nr),by rw [Z4.rng_eq];exact Tn.2 fun s hs=>(h s hs).rng⟩
theorem Uv.kid {s:Z3} {b:Z4} (h:Uv ds s) (hb:b∈s.kids):Wl ds b:=by
 have h3:=h.rng
 rw [Z3.rng_eq] at h3
 exact ⟨E7.1 ((QK s).1 h.w).2.2.2 b hb,Dz.1 ((B9 s).1 h.nr).2 b hb,Jj.1 h3.2 b hb⟩
theorem Uv.kids {s:Z3} {ks:List Z4} (h:Uv ds s) (hl:ks.length=s.kids.length) (hk:∀b∈ks,Wl ds b):Uv ds ⟨s.op,s.num,s.into,s.args,ks⟩:=by
 obtain ⟨h1,h2,h3,h4⟩:=(QK s).1 h.w
 have h5:=h.rng
 rw [Z3.rng_eq] at h5
 refine ⟨(QK _).2 ⟨h1,fun hc=>?_,fun h8=>⟨(h3 h8).1,hl.trans (h3 h8).2⟩,E7.2 fun b hb=>(hk b hb).w⟩,(B9 _).2 ⟨((B9 s).1 h.nr).1,Dz.2 fun b hb=>(hk b hb).nr⟩,by rw [Z3.rng_eq];exact ⟨h5.1,Jj.2 fun b hb=>(hk b hb).rng⟩⟩
 obtain ⟨q1,q2,q3,q4⟩:=h2 hc
 exact ⟨q1,q2,List.eq_nil_of_length_eq_zero (show ks.length=0 by rw [hl,q3];rfl),q4⟩
theorem Uv.cnt {op v:Int} (h:op=14∨op=15∨op=16):Uv ds (Zl op v):=⟨Z6h h,(B9 _).2 ⟨by show op≠17;omega,True.intro⟩,by rw [Z3.rng_eq];exact ⟨⟨by show (-9223372036854775808:Int)<=0;decide,by show (0:Int)<=_;decide⟩,True.intro⟩⟩
theorem Wl.open {b:Z4} {x q:Int} {fs:LI} (h:Wl ds b):Wl ds (Qt b x fs q):=by
 rw [Wl.iff] at h ⊢
 intro s hs
 have hs:s∈QO b.steps x fs q:=hs
 rw [QO] at hs
 split at hs
 ·simp only [YU,Wg,Xp] at hs
  rcases hs with ((⟨a,_,rfl⟩|rfl)|⟨a,_,rfl⟩)|hs
  ·exact Uv.cnt om
  ·exact Uv.cnt om
  ·exact Uv.cnt om
  ·exact h s (List.mem_of_mem_drop hs)
 ·exact h s hs
theorem MD {m:Nat} {op num:Int} {args:LI}:∀{bs:List Z4} {k:Nat},(Ua ds m op num args bs k).length=bs.length
 | [],_=>rfl
 | b::r,k=>by rw [Ua,YD,YD,MD (bs:=r)]
mutual
theorem Uv.sp:∀(s:Z3) {m:Nat},Uv ds s->Uv ds (J3 ds m s)
 | .mk op num into args kids,m,h=>by
  rw [J3]
  exact h.kids MD (Wls.sp kids fun b hb=>h.kid hb)
theorem Wls.sp:∀(bs:List Z4) {m:Nat} {op num:Int} {args:LI} {k:Nat},(∀b∈bs,Wl ds b)->∀b∈Ua ds m op num args bs k,Wl ds b
 | [],_,_,_,_,_,_,b,hb=>by cases hb
 | c::r,m,op,num,args,k,h,b,hb=>by
  rw [Ua] at hb
  rcases Yr.1 hb with rfl|hb
  ·split
   ·exact (Wl.sp c (h c (YZ ..))).open
   ·exact Wl.sp c (h c (YZ ..))
  ·exact Wls.sp r (fun x hx=>h x (Xr _ hx)) b hb
theorem WlSs.sp:∀(xs:List Z3) {m:Nat},(∀s∈xs,Uv ds s)->∀s∈Vy ds m xs,Uv ds s
 | [],_,_,s,hs=>by cases hs
 | c::r,m,h,s,hs=>by
  rw [Vy] at hs
  rcases Yr.1 hs with rfl|hs
  ·exact Uv.sp c (h c (YZ ..))
  ·exact WlSs.sp r (fun x hx=>h x (Xr _ hx)) s hs
theorem Wl.sp:∀(b:Z4) {m:Nat},Wl ds b->Wl ds (Wq ds m b)
 | .mk steps result,m,h=>by
  rw [Wq,Wl.iff]
  exact WlSs.sp steps (Wl.iff.1 h)
end
theorem Z2n {b:Z4} {x:Int} {many:Nat} (h:b.rng):(V8 b x many).rng:=by
 rw [Z4.rng_eq] at h
 rw [V8,Z4.rng_eq]
 show Kd (Vg b.steps x many)
 rw [Vg]
 split
 ·exact h
 ·rename_i hq
  obtain ⟨_,_,t,h5,h7,h6⟩:=Kw (fun z=>hq (.inr z))
  rw [Tn] at h ⊢
  intro s hs
  rcases List.mem_or_eq_of_mem_set hs with hs|rfl
  ·rcases List.mem_or_eq_of_mem_set hs with hs|rfl
   ·exact h s hs
   ·rw [Z3.rng_eq];exact ⟨⟨by show (-9223372036854775808:Int)<=0;decide,by show (0:Int)<=_;decide⟩,True.intro⟩
  ·have:=h t (ZW h5)
   rw [h6,Tg,Z3.rng_eq]
   rw [Z3.rng_eq] at this
   exact this
mutual
theorem Z2o:∀(s:Z3) {K:LI},s.rng->(UY ds K s).rng
 | .mk op num into args kids,K,h=>by
  rw [Z3.rng] at h
  rw [UY,Z3.rng]
  exact ⟨h.1,Mc kids h.2⟩
theorem Mc:∀(bs:List Z4) {K:LI} {op num:Int} {args:LI} {k:Nat},QS bs->QS (Vw ds K op num args bs k)
 | [],_,_,_,_,_,_=>True.intro
 | b::r,K,op,num,args,k,h=>by
  rw [Vw,QS]
  refine ⟨?_,Mc r h.2⟩
  split
  ·exact Z2n (Gc b h.1)
  ·exact Gc b h.1
theorem Md:∀(xs:List Z3) {K:LI},Kd xs->Kd (VI ds K xs)
 | [],_,_=>True.intro
 | s::r,K,h=>⟨Z2o s h.1,Md r h.2⟩
theorem Gc:∀(b:Z4) {K:LI},b.rng->(W2 ds K b).rng
 | .mk steps result,K,h=>by
  rw [Z4.rng] at h
  rw [W2,Z4.rng]
  exact Md steps h
end
end
mutual
theorem Z1e:∀s:Z3,TF WM s->Al s
 | .mk op num into args kids,h=>by
  rw [TF] at h
  rw [Al]
  exact ⟨by have:op<=15:=h.1;omega,Ln kids h.2⟩
theorem Ln:∀bs:List Z4,TE WM bs->Jw bs
 | [],_=>True.intro
 | b::r,h=>⟨Lm b h.1,Ln r h.2⟩
theorem Lo:∀bs:List Z3,UD WM bs->Jx bs
 | [],_=>True.intro
 | b::r,h=>⟨Z1e b h.1,Lo r h.2⟩
theorem Lm:∀b:Z4,WE WM b->TD b
 | .mk steps result,h=>by
  rw [WE] at h
  rw [TD]
  exact Lo steps h
end
structure ZR (q:Nat) (r:Y8):Prop where
 params:r.params.length<=3
 lent:r.lent.length<=10
 body:r.body.sz<=q
 rng:r.body.rng
 rb:r.body.rb
structure ZN (n:Zx) (q:Nat):Prop where
 decls:AD n.decls
 len:1<=n.routines.length/\n.routines.length<=4
 rt:∀r∈n.routines,ZR q r
theorem ZR.le {q q2:Nat} {r:Y8} (h:ZR q r) (hq:q<=q2):ZR q2 r:=⟨h.params,h.lent,WK h.body hq,h.rng,h.rb⟩
theorem ZN.le {n:Zx} {q q2:Nat} (h:ZN n q) (hq:q<=q2):ZN n q2:=⟨h.decls,h.len,fun r hr=>(h.rt r hr).le hq⟩
theorem ZN.sz {n:Zx} {q:Nat} (h:ZN n q) (hq:q<=10000000):Jc n:=
 ⟨⟨by have:=h.decls.1;omega,fun d hd=>by have:=(h.decls.2 d hd).1;omega,fun d hd c hc=>by have:=(h.decls.2 d hd).2 c hc;omega⟩,by have:=h.len;omega,fun r hr=>by have:=(h.rt r hr).params;omega,fun r hr=>by have:=(h.rt r hr).lent;omega,fun r hr=>by have:=(h.rt r hr).body;omega⟩
theorem FO.wl {n:Zx} {q:Nat} (h:FO n q WM) (hq:q<=100000000):∀r∈n.routines,Wl n.decls r.body:=fun r hr=>by
 have h1:=h.rf hr
 have h2:r.params.length<=3:=(Ui.bd (f:=⟨r.params,r.result,default⟩) h1.sig).1
 exact ⟨Nz r.body h1.body.1 (by have:=h1.body.2;omega) h.fn.decls.ok,Lm r.body h1.op,G9 r.body h1.body.1⟩
theorem FO.zn {n:Zx} {q:Nat} {p:Int->Prop} (h:FO n q p) (hq:q<=100000000:=by omega):ZN n q:=
 ⟨h.fn.decls.ad,h.fn.len,fun r hr=>⟨(Ui.bd (f:=⟨r.params,r.result,default⟩) (h.fn.sigs r hr)).1,by have:=(h.fn.lent r hr).1;omega,(h.fn.body r hr).2,G9 r.body (h.fn.body r hr).1,LV r.body (h.fn.body r hr).1 (by have h2:r.params.length<=3:=(Ui.bd (f:=⟨r.params,r.result,default⟩) (h.fn.sigs r hr)).1;have:=(h.fn.body r hr).2;omega) h.fn.decls.ok⟩⟩
structure WN (n:Zx) (q:Nat):Prop where
 ok:Xk n
 zn:ZN n q
 wl:∀r∈n.routines,Wl n.decls r.body
theorem FO.wn {n:Zx} {q:Nat} (h:FO n q WM) (hq:q<=100000000):WN n q:=⟨h.fn.ok,h.zn hq,h.wl hq⟩
theorem WN.sp {n:Zx} {q:Nat} (h:WN n q):WN (DW n) (9*q):=by
 refine ⟨⟨h.ok.decls,by show (n.routines.map _).length<=4;rw [Cw];exact h.ok.len,fun r hr=>?_,fun r hr=>?_⟩,⟨h.zn.decls,by show 1<=(n.routines.map _).length/\(n.routines.map _).length<=4;rw [Cw];exact h.zn.len,fun r hr=>?_⟩,fun r hr=>?_⟩
 ·obtain ⟨s,hs,rfl⟩:=Wg.1 hr;exact h.ok.params s hs
 ·obtain ⟨s,hs,rfl⟩:=Wg.1 hr;exact h.ok.lent s hs
 ·obtain ⟨s,hs,rfl⟩:=Wg.1 hr
  have hz:=h.zn.rt s hs
  refine ⟨hz.params,hz.lent,?_,(Wl.sp s.body (h.wl s hs)).rng,G5 s.body hz.rb⟩
  have h1:=DU h.ok.decls s.body (m:=s.params.length) (h.wl s hs).w
  have h2:=s.body.pz_le
  have h3:=hz.body
  show (Wq n.decls s.params.length s.body).sz<=9*q
  omega
 ·obtain ⟨s,hs,rfl⟩:=Wg.1 hr;exact Wl.sp s.body (h.wl s hs)
theorem WN.ru {n:Zx} {q:Nat} (h:WN n q):ZN (DJ n) q:=by
 refine ⟨h.zn.decls,by show 1<=(n.routines.map _).length/\(n.routines.map _).length<=4;rw [Cw];exact h.zn.len,fun r hr=>?_⟩
 obtain ⟨s,hs,rfl⟩:=Wg.1 hr
 have hz:=h.zn.rt s hs
 refine ⟨hz.params,hz.lent,?_,Gc s.body (h.wl s hs).rng,G4 s.body hz.rb⟩
 have h1:=Gf s.body (K:=[]) (h.wl s hs).w
 have h3:=hz.body
 show (W2 n.decls [] s.body).sz<=q
 omega
theorem Bc {xs:List Z3} {i:Nat} {s t:Z3} (h:t∈W1 xs i s):t∈xs∨t=s:=by
 rw [W1] at h
 simp only [YU,Xp] at h
 rcases h with (h|h)|h
 ·exact .inl (Ts h)
 ·exact .inr h
 ·exact .inl (List.mem_of_mem_drop h)
theorem Ga {op v:Int}:(Zl op v).rng:=by rw [Z3.rng_eq];exact ⟨⟨by show (-9223372036854775808:Int)<=0;decide,by show (0:Int)<=_;decide⟩,True.intro⟩
theorem ZN.withR {n:Zx} {q q2:Nat} {f:Nat} {rt:Y8} {b:Z4} (h:ZN n q) (hr:n.routines[f]? = some rt) (hq:q<=q2) (hb:b.sz<=q2) (hg:b.rng) (hbr:b.rb):ZN (withR n f rt b) q2:=by
 refine ⟨h.decls,by show 1<=(n.routines.set _ _).length/\(n.routines.set _ _).length<=4;rw [Uu];exact h.len,fun r hm=>?_⟩
 rcases List.mem_or_eq_of_mem_set hm with hm|rfl
 ·exact (h.rt r hm).le hq
 ·have:=h.rt rt (ZW hr)
  exact ⟨this.params,this.lent,hb,hg,hbr⟩
theorem ZN.held {n n2:Zx} {q:Nat} (h:ZN n q) (hh:Ej n n2):ZN n2 (q+4):=by
 rcases hh with rfl|⟨f,rt,i,j,v,h1,h2,h3,h4,h5,rfl⟩
 ·exact h.le om
 ·have hz:=h.rt rt (ZW h1)
  refine h.withR h1 om ?_ ?_ (by have hb:=hz.rb;rw [Z4.rb_eq,Tm] at hb;rw [B1,Z4.rb_eq,Tm];refine ⟨fun s hs=>?_,hb.2⟩;rcases Bc hs with hs|rfl<;>first|exact Ao|(rcases Bc hs with hs|rfl<;>first|exact Ao|exact hb.1 s hs))
  ·rw [B1,Z4.sz,Cf,Cf]
   have e1:(Zl 14 v).sz=2:=rfl
   have e2:(Zl 15 v).sz=2:=rfl
   have:=hz.body
   have:=rt.body.sz_eq
   omega
  ·have hg:=hz.rng
   rw [Z4.rng_eq,Tn] at hg
   rw [B1,Z4.rng_eq,Tn]
   intro s hs
   rcases Bc hs with hs|rfl
   ·rcases Bc hs with hs|rfl
    ·exact hg s hs
    ·exact Ga
   ·exact Ga
theorem FO.le {n:Zx} {q q2:Nat} {p:Int->Prop} (h:FO n q p) (hq:q<=q2):FO n q2 p:=⟨⟨h.fn.decls,h.fn.len,h.fn.sigs,h.fn.lent,fun r hr=>⟨(h.fn.body r hr).1,WK (h.fn.body r hr).2 hq⟩⟩,h.op⟩
abbrev Z3.rgb (s:Z3):Prop:=s.rng/\s.rb
abbrev Z4.rgb (b:Z4):Prop:=b.rng/\b.rb
def Vc (s y:Z3):Prop:=y.sz<=s.sz+1/\y.rgb
theorem Vc.refl {s:Z3} (hg:s.rgb):Vc s s:=⟨Nat.le_succ _,hg⟩
theorem Vc.of {s:Z3} {op num into:Int} {args:LI} {kids:List Z4} (hgb:s.rgb) (hn:num=s.num∨num∈([0,1,2,3,-1,1000]:LI)) (ha:args.length<=s.args.length+1) (hk:kids=s.kids∨kids=s.kids.drop 1):Vc s ⟨op,num,into,args,kids⟩:=by
 obtain ⟨hg,hrb⟩:=hgb
 rw [Z3.rng_eq] at hg
 rw [Z3.rb_eq] at hrb
 have hs:=s.sz_eq
 have hb:YK kids<=YK s.kids:=by
  rcases hk with rfl|rfl
  ·exact YQ _
  ·have h:=Ys YK (Uo 1 s.kids)
   rw [BC] at h;omega
 refine ⟨by rw [Z3.sz];omega,?_,by rw [Z3.rb];exact AG.2 fun b hbk=>AG.1 hrb b (by rcases hk with rfl|rfl;exact hbk;exact List.mem_of_mem_drop hbk)⟩
 rw [Z3.rng]
 refine ⟨?_,Jj.2 fun b hbk=>Jj.1 hg.2 b ?_⟩
 ·rcases hn with rfl|hn
  ·exact hg.1
  ·have:=(by decide:∀z∈([0,1,2,3,-1,1000]:LI),-9223372036854775808<=z/\z<=9223372036854775807) num hn
   exact this
 ·rcases hk with rfl|rfl
  ·exact hbk
  ·exact List.mem_of_mem_drop hbk
def Xg (b y:Z4):Prop:=y.sz<=b.sz+2/\y.rgb
theorem Xg.result {b:Z4} (hg:b.rgb) (z:Int) (hz:-1000000000<=z/\z<=1000000000:=by omega):Xg b ⟨b.steps,z⟩:=⟨by rw [Z4.sz,b.sz_eq];omega,by have h:=hg.1;rw [Z4.rng_eq] at h;rw [Z4.rng];exact h,by have h:=hg.2;rw [Z4.rb_eq] at h;rw [Z4.rb];exact ⟨h.1,hz⟩⟩
theorem Xg.put {b:Z4} (hgb:b.rgb) {i:Nat} {op v:Int}:Xg b ⟨W1 b.steps i (Zl op v),b.result⟩:=by
 obtain ⟨hg,hrb⟩:=hgb
 rw [Z4.rng_eq,Tn] at hg
 rw [Z4.rb_eq,Tm] at hrb
 refine ⟨?_,?_,?_⟩
 ·rw [Z4.sz,Cf,b.sz_eq]
  have e:(Zl op v).sz=2:=rfl
  omega
 ·rw [Z4.rng,Tn]
  intro s hs
  rcases Bc hs with hs|rfl
  ·exact hg s hs
  ·exact Ga
 ·rw [Z4.rb,Tm]
  refine ⟨fun s hs=>?_,hrb.2⟩
  rcases Bc hs with hs|rfl
  ·exact hrb.1 s hs
  ·exact Ao
theorem Xg.del {b:Z4} (hgb:b.rgb) {k:Nat}:Xg b ⟨b.steps.take k++b.steps.drop (k+1),b.result⟩:=by
 obtain ⟨hg,hrb⟩:=hgb
 rw [Z4.rng_eq,Tn] at hg
 rw [Z4.rb_eq,Tm] at hrb
 have h1:=Q3 b.steps k
 have h2:=Ys Y5 (Uo k b.steps)
 have h3:=Ys Y5 (Uo 1 (b.steps.drop k))
 rw [Un] at h2 h3
 rw [List.drop_drop] at h3
 refine ⟨by rw [Z4.sz,Un,b.sz_eq];omega,?_,by rw [Z4.rb,Tm];refine ⟨fun s hs=>?_,hrb.2⟩;rcases YU.1 hs with hs|hs;exact hrb.1 s (Ts hs);exact hrb.1 s (List.mem_of_mem_drop hs)⟩
 rw [Z4.rng,Tn]
 intro s hs
 rcases YU.1 hs with hs|hs
 ·exact hg s (Ts hs)
 ·exact hg s (List.mem_of_mem_drop hs)
theorem Xg.set {b:Z4} (hgb:b.rgb) {k:Nat} {s t:Z3} (hs:b.steps[k]? = some s) (ht:t.sz<=s.sz+2/\t.rgb):Xg b ⟨b.steps.set k t,b.result⟩:=by
 obtain ⟨hg,hrb⟩:=hgb
 rw [Z4.rng_eq,Tn] at hg
 rw [Z4.rb_eq,Tm] at hrb
 have h1:=DZ t hs
 refine ⟨by rw [Z4.sz,b.sz_eq];omega,?_,by rw [Z4.rb,Tm];refine ⟨fun s hs=>?_,hrb.2⟩;rcases List.mem_or_eq_of_mem_set hs with hs|rfl;exact hrb.1 s hs;exact ht.2.2⟩
 rw [Z4.rng,Tn]
 intro x hx
 rcases List.mem_or_eq_of_mem_set hx with hx|rfl
 ·exact hg x hx
 ·exact ht.2.1
theorem Hh:∀{xs:List Z4} {i:Nat} {s:Z4} (t:Z4),xs[i]? = some s->YK (xs.set i t)+s.sz=YK xs+t.sz
 | [],_,_,_,h=>by simp at h
 | x::r,0,s,t,h=>by simp at h;subst h;rw [List.set_cons_zero,YK,YK];omega
 | x::r,i+1,s,t,h=>by
  have:=Hh (xs:=r) (i:=i) t (by simpa using h)
  rw [List.set_cons_succ,YK,YK];omega
theorem Xg.kid {b:Z4} (hg:b.rgb) {k j:Nat} {s:Z3} {c y:Z4} (hs:b.steps[k]? = some s) (hc:s.kids[j]? = some c) (hy:Xg c y):Xg b ⟨b.steps.set k ⟨s.op,s.num,s.into,s.args,s.kids.set j y⟩,b.result⟩:=by
 refine Xg.set hg hs ?_
 have hg2:=hg.1
 have hr2:=hg.2
 rw [Z4.rng_eq,Tn] at hg2
 rw [Z4.rb_eq,Tm] at hr2
 have h4:=hr2.1 s (ZW hs)
 rw [Z3.rb_eq] at h4
 have h1:=hg2 s (ZW hs)
 rw [Z3.rng_eq] at h1
 have h2:=Hh y hc
 have h3:=hy.1
 refine ⟨by rw [Z3.sz,s.sz_eq];omega,?_,by rw [Z3.rb];refine AG.2 fun x hx=>?_;rcases List.mem_or_eq_of_mem_set hx with hx|rfl;exact AG.1 h4 x hx;exact hy.2.2⟩
 rw [Z3.rng]
 refine ⟨h1.1,Jj.2 fun x hx=>?_⟩
 rcases List.mem_or_eq_of_mem_set hx with hx|rfl
 ·exact Jj.1 h1.2 x hx
 ·exact hy.2.1
theorem Mb {b:Z4} (hg:b.rng) {k j:Nat} {s:Z3} {c:Z4} (hs:b.steps[k]? = some s) (hc:s.kids[j]? = some c):c.rng:=by
 rw [Z4.rng_eq,Tn] at hg
 have h1:=hg s (ZW hs)
 rw [Z3.rng_eq] at h1
 exact Jj.1 h1.2 c (ZW hc)
theorem G7 {b:Z4} (hg:b.rgb) {k j:Nat} {s:Z3} {c:Z4} (hs:b.steps[k]? = some s) (hc:s.kids[j]? = some c):c.rgb:=by
 refine ⟨Mb hg.1 hs hc,?_⟩
 have h:=hg.2
 rw [Z4.rb_eq,Tm] at h
 have h1:=h.1 s (ZW hs)
 rw [Z3.rb_eq] at h1
 exact AG.1 h1 c (ZW hc)
theorem Z2p {b:Z4} (hg:b.rng) {k:Nat} {s:Z3} (hs:b.steps[k]? = some s):s.rng:=by
 rw [Z4.rng_eq,Tn] at hg
 exact hg s (ZW hs)
theorem Z2k {b:Z4} (hg:b.rgb) {k:Nat} {s:Z3} (hs:b.steps[k]? = some s):s.rgb:=by
 refine ⟨Z2p hg.1 hs,?_⟩
 have h:=hg.2
 rw [Z4.rb_eq,Tm] at h
 exact h.1 s (ZW hs)
structure ZS (n:Zx) (q l:Nat):Prop where
 decls:AD n.decls
 len:1<=n.routines.length/\n.routines.length<=4
 rt:∀r∈n.routines,r.params.length<=3/\r.lent.length<=l/\r.body.sz<=q/\r.body.rng
 rb:∀r∈n.routines,r.body.rb
theorem ZN.zs {n:Zx} {q:Nat} (h:ZN n q):ZS n q 10:=⟨h.decls,h.len,fun r hr=>⟨(h.rt r hr).params,(h.rt r hr).lent,(h.rt r hr).body,(h.rt r hr).rng⟩,fun r hr=>(h.rt r hr).rb⟩
theorem ZS.le {n:Zx} {q q2 l l2:Nat} (h:ZS n q l) (hq:q<=q2) (hl:l<=l2):ZS n q2 l2:=⟨h.decls,h.len,fun r hr=>by obtain ⟨a,b,c,d⟩:=h.rt r hr;exact ⟨a,by omega,by omega,d⟩,h.rb⟩
theorem ZS.set {n:Zx} {q l q2 l2:Nat} {f:Nat} {rt:Y8} {ls:LI} {b:Z4} (h:ZS n q l) (hr:n.routines[f]? = some rt) (hq:q<=q2) (hl:l<=l2) (hls:ls.length<=l2) (hb:b.sz<=q2) (hg:b.rgb):ZS ⟨n.decls,n.routines.set f ⟨rt.params,ls,rt.result,b⟩⟩ q2 l2:=by
 refine ⟨h.decls,by show 1<=(n.routines.set _ _).length/\(n.routines.set _ _).length<=4;rw [Uu];exact h.len,fun r hm=>?_,fun r hm=>?_⟩
 ·rcases List.mem_or_eq_of_mem_set hm with hm|rfl
  ·exact (h.le hq hl).rt r hm
  ·have:=h.rt rt (ZW hr)
   exact ⟨this.1,hls,hb,hg.1⟩
 ·rcases List.mem_or_eq_of_mem_set hm with hm|rfl
  ·exact h.rb r hm
  ·exact hg.2
theorem ZS.ds {n:Zx} {q l:Nat} {ds:List Zd} (h:ZS n q l) (hd:AD ds):ZS ⟨ds,n.routines⟩ q l:=⟨hd,h.len,h.rt,h.rb⟩
theorem Ey {xs:List Z4} {k:Nat} {b:Z4} (h:xs[k]? = some b):YK (xs.drop k)=b.sz+YK (xs.drop (k+1)):=by rw [Yo h,YK]
theorem Z1g {xs:LI} {k:Nat} {n x:Int} (hx:xs[k]? = some x) (h:n∉xs.take k) (hn:¬x=n):n∉xs.take (k+1):=by
 rw [List.take_add_one,hx,Option.toList_some,YU,Xp]
 exact fun q=>q.elim h fun q=>hn q.symm
theorem IY {b:Z4} {q k j:Nat} {s:Z3} {c:Z4} (h:b.sz<=q/\b.rng) (hs:b.steps[k]? = some s) (hc:s.kids[j]? = some c):c.sz<=q/\c.rng:=by
 have h1:=UZ hs
 have h2:=VS hc
 have h3:=U8 s
 exact ⟨by omega,Mb h.2 hs hc⟩
abbrev JE (xs:LI):LI:=xs.mergeSort fun x y=>decide (x<=y)
abbrev Bj (b:Z4) (k:Nat):LI:=Lib.compact (JE (Xj (b.steps.drop k)++[b.result]))
theorem Z3k (b:Z4) (k:Nat):(Bj b k).length<=b.sz:=by
 have h1:=OX (JE (Xj (b.steps.drop k)++[b.result]))
 have h2:=E6 (b.steps.drop k)
 have h3:=Ar b.steps k
 have h4:=b.sz_eq
 have h0:(JE (Xj (b.steps.drop k)++[b.result])).length=(Xj (b.steps.drop k)).length+1:=(List.length_mergeSort _).trans (by simp)
 rw [h0] at h1
 exact WK h1 om
theorem Z3n {xs:LI} (h:xs≠[]):JE xs≠[]:=fun q=>h (by have:=Ys List.length q;simp only [JE,List.length_mergeSort,X8] at this;exact List.length_eq_zero_iff.1 this)
def Nk (b:Z4) (n:Int):LI:=if WF b<0 then [] else uF n b 0
def T0 (b:Z4) (n k:Int):LI:=if WF b<0∨k<0∨k>(b.steps.length:Int) then [] else uF n b k.toNat
theorem Z5l (b:Z4) (n:Int):(Nk b n).length<=b.sz:=by
 rw [Nk];split
 ·simp
 ·exact Ni _ _ _
theorem Nj (b:Z4) (n k:Int):(T0 b n k).length<=b.sz:=by
 rw [T0];split
 ·simp
 ·exact Ni _ _ _
def XB (v:Int):LI->Nat
 | []=>0
 | x::r=>(if x=v then 1 else 0)+XB v r
theorem CO {v:Int}:∀{xs ys:LI},XB v (xs++ys)=XB v xs+XB v ys
 | [],ys=>by rw [Kj,XB];omega
 | x::r,ys=>by rw [TK,XB,XB,CO];omega
theorem AI {v:Int}:∀{xs:LI},XB v xs<=xs.length
 | []=>YQ _
 | x::r=>by have:=AI (v:=v) (xs:=r);rw [XB,YD];split<;>omega
theorem Ho {v:Int}:∀{xs:LI},0<XB v xs↔v∈xs
 | []=>by rw [XB];simp
 | x::r=>by
  rw [XB,Yr,<-Ho]
  split
  ·rename_i h;exact ⟨fun _=>.inl h.symm,fun _=>by omega⟩
  ·rename_i h
   constructor
   ·intro q;exact .inr om
   ·rintro (q|q)
    ·exact absurd q.symm h
    ·omega
theorem OV {v x:Int}:XB v [x]=if x=v then 1 else 0:=by rw [XB,XB,JN]
theorem Hp {v x:Int} {xs:LI}:XB v (xs++[x])=XB v xs+(if x=v then 1 else 0):=by rw [CO,OV]
theorem Nx {ss:List Z3} {k:Nat} {s:Z3} (h:ss[k]? = some s):Xj (ss.take (k+1))=Xj (ss.take k)++vS s:=by
 have key:∀(xs:List Z3) (s:Z3),Xj (xs++[s])=Xj xs++vS s:=by
  intro xs s
  induction xs with
  | nil=>rw [Kj,Xj,Xj,Xj];simp
  | cons x r ih=>rw [TK,Xj,ih,Xj,VN]
 rw [List.take_add_one,h,Option.toList_some,key]
theorem Nv {ss:List Z4} {k:Nat} {s:Z4} (h:ss[k]? = some s):Ww (ss.take (k+1))=Ww (ss.take k)++vB s:=by
 have key:∀(xs:List Z4) (s:Z4),Ww (xs++[s])=Ww xs++vB s:=by
  intro xs s
  induction xs with
  | nil=>rw [Kj,Ww,Ww,Ww];simp
  | cons x r ih=>rw [TK,Ww,ih,Ww,VN]
 rw [List.take_add_one,h,Option.toList_some,key]
def GK (b:Z4) (v:Int):Int:=if WF b<0 then -1 else ((XB v (vB b):Nat):Int)
theorem Z5m (b:Z4) (v:Int):-1<=GK b v/\GK b v<=b.sz:=by
 rw [GK]
 have h1:=AI (v:=v) (xs:=vB b)
 have h2:=Cq b
 split<;>omega
def VG (xs:List Z3) (v:Int):Nat->Int
 | 0=>-1
 | k+1=>match xs[k]? with
  | some s=>if v∈vS s then (k:Int) else VG xs v k
  | none=>VG xs v k
theorem L4 {xs:List Z3} {v:Int} {k:Nat} {s:Z3} (h:xs[k]? = some s):VG xs v (k+1)=if v∈vS s then (k:Int) else VG xs v k:=by rw [VG,h]
theorem L5 {xs:List Z3} {v:Int}:∀{k:Nat},-1<=VG xs v k/\VG xs v k<k
 | 0=>by rw [VG];omega
 | k+1=>by
  have ih:=L5 (xs:=xs) (v:=v) (k:=k)
  rw [VG]
  split
  ·split<;>omega
  ·omega
def YT (b:Z4) (v:Int):Int:=if WF b<0 then -1 else if b.result=v then (b.steps.length:Int) else VG b.steps v b.steps.length
theorem FT (b:Z4) (v:Int):-1<=YT b v/\YT b v<=b.steps.length:=by
 have:=L5 (xs:=b.steps) (v:=v) (k:=b.steps.length)
 rw [YT];split
 ·omega
 ·split<;>omega
theorem Nw {xs:List Z3} {v:Int}:v∈Xj xs↔∃s∈xs,v∈vS s:=by
 induction xs with
 | nil=>rw [Xj];simp
 | cons x r ih=>rw [Xj,YU,ih];simp
theorem FG {xs:List Z3} {v:Int}:∀{k:Nat},k<=xs.length->(0<=VG xs v k->∃s,xs[(VG xs v k).toNat]? = some s/\v∈vS s)/\∀(i:Nat) (s:Z3),VG xs v k<i->i<k->xs[i]? = some s->¬v∈vS s
 | 0,_=>⟨fun h=>by rw [VG] at h;omega,fun i s _ h=>by omega⟩
 | k+1,hk=>by
  obtain ⟨h1,h2⟩:=FG (xs:=xs) (v:=v) (k:=k) om
  obtain ⟨s,hs⟩:=AZ (xs:=xs) (j:=k) om
  rw [L4 hs]
  split
  ·rename_i hv
   exact ⟨fun _=>⟨s,by simpa using hs,hv⟩,fun i s' hi hik=>by omega⟩
  ·rename_i hv
   refine ⟨h1,fun i s' hi hik hs'=>?_⟩
   rcases J8 i k with q|q
   ·exact h2 i s' hi q hs'
   ·have:i=k:=by omega
    subst this
    rw [hs] at hs';cases hs'
    exact hv
theorem FU {b:Z4} {v:Int} (h0:0<=v) (h:¬YT b v<0):v∈T0 b (v+1) (YT b v):=by
 have hs:¬WF b<0:=fun q=>by rw [YT,Zw q] at h;omega
 have hb:=FT b v
 rw [T0,Zp om,FX]
 refine ⟨?_,by omega⟩
 rw [YT,Zp hs] at h ⊢
 split
 ·rename_i hr;exact YU.2 (.inr (Xp.2 hr.symm))
 ·rename_i hr
  rw [Zp hr] at h
  obtain ⟨s,h1,h2⟩:=(FG (xs:=b.steps) (v:=v) (YQ _)).1 om
  refine YU.2 (.inl (Nw.2 ⟨s,?_,h2⟩))
  exact ZW (i:=0) (by rw [Aw];simpa using h1)
theorem FV {b:Z4} {v:Int} (h:¬YT b v<0) (hl:YT b v≠b.steps.length):¬v∈T0 b (v+1) (YT b v+1):=by
 have hs:¬WF b<0:=fun q=>by rw [YT,Zw q] at h;omega
 have hb:=FT b v
 rw [T0,Zp om,FX]
 rintro ⟨hm,_⟩
 rw [YT,Zp hs] at h hl hm
 split at hl
 ·exact hl rfl
 ·rename_i hr
  rw [Zp hr] at hm h
  rcases YU.1 hm with hm|hm
  ·obtain ⟨s,h1,h2⟩:=Nw.1 hm
   obtain ⟨j,hj,e⟩:=List.getElem_of_mem h1
   have hj2:(b.steps.drop (VG b.steps v b.steps.length+1).toNat)[j]? = some s:=by rw [TM hj,e]
   rw [Aw] at hj2
   have hlt:=(XA.1 hj2).1
   exact (FG (xs:=b.steps) (v:=v) (YQ _)).2 _ s om hlt hj2 h2
  ·exact hr (Xp.1 hm).symm
theorem OI {xs:LI} {j:Nat} {x v c c2:Int} (h:xs[j]? = some x) (e:c2=c+((XB v (xs.take j):Nat):Int)):(if x=v then c2+1 else c2)=c+((XB v (xs.take (j+1)):Nat):Int):=by
 rw [Vh h,Hp,e];split<;>omega
theorem OH {as1:LI} {ks:List Z4} {i:Nat} {b:Z4} {v c c3:Int} (h:ks[i]? = some b) (e:c3=c+((XB v (as1++Ww (ks.take i)):Nat):Int)):c3+((XB v (Xj (b.steps.drop 0)++[b.result]):Nat):Int)=c+((XB v (as1++Ww (ks.take (i+1))):Nat):Int):=by
 rw [Nv h,<-VN,CO (ys:=vB b),e,TL,At];omega
theorem OJ {ss:List Z3} {j:Nat} {s:Z3} {v c c2:Int} (h:ss[j]? = some s) (e:c2=c+((XB v (Xj (ss.take j)):Nat):Int)):c2+((XB v (vS s):Nat):Int)=c+((XB v (Xj (ss.take (j+1))):Nat):Int):=by
 rw [Nx h,CO,e];omega
theorem OL {xs:LI} {j:Nat} {x v:Int} {c c2:Bool} (h:xs[j]? = some x) (e:c2=(c||decide (v∈xs.take j))):(c2||(x==v))=(c||decide (v∈xs.take (j+1))):=by
 rw [Vh h,e,Bool.or_assoc];congr 1
 rw [Xc];simp only [Bool.or_eq_true,Zz,decide_eq_true_eq,YU,Xp];exact ⟨fun h=>h.imp id Eq.symm,fun h=>h.imp id Eq.symm⟩
theorem OK {as1:LI} {ks:List Z4} {i:Nat} {b:Z4} {v:Int} {c c3:Bool} (h:ks[i]? = some b) (e:c3=(c||decide (v∈as1++Ww (ks.take i)))):(c3||decide (v∈Xj (b.steps.drop 0)++[b.result]))=(c||decide (v∈as1++Ww (ks.take (i+1)))):=by
 rw [Nv h,<-VN,e,TL,<-At,Bool.or_assoc];congr 1
 rw [Xc];simp [or_assoc]
theorem OM {ss:List Z3} {j:Nat} {s:Z3} {v:Int} {c c2:Bool} (h:ss[j]? = some s) (e:c2=(c||decide (v∈Xj (ss.take j)))):(c2||decide (v∈vS s))=(c||decide (v∈Xj (ss.take (j+1)))):=by
 rw [Nx h,e,Bool.or_assoc];congr 1
 rw [Xc];simp
theorem Dr {xs:List Z3} {v:Int} {k:Nat} {s:Z3} (hk:0<k) (hx:xs[((k:Int)-1).toNat]? = some s):VG xs v k=if v∈vS s then (k:Int)-1 else VG xs v (k-1):=by
 have e:((k:Int)-1).toNat=k-1:=by omega
 rw [e] at hx
 have h:=L4 (v:=v) hx
 rw [show k-1+1=k by omega] at h
 rw [h];split
 ·omega
 ·rfl
theorem CP {v:Int} {xs:LI}:(((XB v xs:Nat):Int)>0)↔v∈xs:=by rw [<-Ho];omega
theorem Lg {b:Z4} {v:Int} (h1:¬WF b<0) (h2:¬b.result=v):YT b v=VG b.steps v b.steps.length:=by rw [YT,Zp h1,Zp h2]
def B7 (g l c m kk:Nat):Value:=.slice (some ⟨g,(if c-m=0 then 0 else m*kk),none⟩) (l-m) (c-m)
def Gm (P:Program) (ops:Array Oper) (F:Fr) (k:Nat):Option (AV × Int × Nat):=
 match (ZB ops k).op with
 | .slice t x (some lo) none none=>match P.underlying t with
  | some (.slice e)=>match P.info? e with
   | some i=>match F.ev lo with
    | .val (.int _ m)=>some (F.ev x,m,i.size)
    | _=>none
   | none=>none
  | _=>none
 | _=>none
section
variable {P:Program} {n:Nat} {ops:Array Oper} {k:Nat} {F:Fr} {h h2:List Res}
theorem Z51 (j:Nat) {g l c m kk:Nat} {ls:List AV} (hi:Gm P ops F k=some (.val (.slice (some ⟨g,0,none⟩) l c),(m:Int),kk)) (hj:h[j]? = some (.row (.slice (some ⟨g,0,none⟩) l c) kk ls)) (hle:m<=l) :
  XP P (ZB ops k) F h [] (.val (B7 g l c m kk)):=by
 unfold Gm at hi
 generalize hoo:ZB ops k=o at hi
 obtain ⟨dst,op,type,pos,after,guard⟩:=o
 cases op<;>simp only at hi<;>try (cases hi)
 rename_i t x lo hi' mx
 cases lo with
 | none=>simp at hi
 | some y=>
  cases hi' with
  | some _=>simp at hi
  | none=>
   cases mx with
   | some _=>simp at hi
   | none=>
    simp only at hi
    split at hi
    ·rename_i e ht
     split at hi
     ·rename_i inf hinf
      split at hi
      ·rename_i ik m' hm
       simp only [XQ,Prod.mk.injEq] at hi
       obtain ⟨hx,rfl,hkk⟩:=hi
       intro n w G a hF hh
       have v1:=hF.ev x
       rw [hx] at v1
       have v1:=v1.val_inv
       have v2:=hF.ev y
       rw [hm] at v2
       have v2:=v2.val_inv
       have hcap:l<=c:=by
        rcases hh.ok _ (ZW hj) with ⟨h0,_⟩|⟨g',l',c',cur,el,h0,_,hc,_⟩
        ·cases h0
        ·cases h0;exact hc
       refine ⟨_,.val,fun w' _ _=>?_⟩
       simp only [execOp,v1,v2,Bu,Option.map_none]
       refine WY ?_
       simp only [Instr.sliceAt,Sem.run_bind,VJ ht,Result.andThen_ok,Instr.slice]
       have hmm:(Instr.sliceBounds true l c (some (.int ik (m:Int))) none none).run P w'=.ok (m,l,c) w':=by
        have YW:=Bh (P:=P) (c:=BoundsCode.sliceB) (v:=.int ik (m:Int)) (y:=l) rfl om om w'
        simp [Instr.sliceBounds,YW]
       rw [hmm]
       simp only [Result.andThen_ok,Tl hinf,B7,hkk]
       by_cases h0:c-m=0
       ·have e0:c=m:=by omega
        simp [e0]
       ·have e0:¬c=m:=fun z=>h0 om
        simp [e0,h0,Addr.add]
        exact fun z=>z.symm
      ·cases hi
     ·cases hi
    ·cases hi
theorem IP (j g l c m kk:Nat) (ls:List AV) (hle:m<=l:=by omega) (hi:Gm P ops F k=some (.val (.slice (some ⟨g,0,none⟩) l c),(m:Int),kk):=by kernel_rfl) (hj:h[j]? = some (.row (.slice (some ⟨g,0,none⟩) l c) kk ls):=by kernel_rfl) :
  XP P (ZB ops k) F h [] (.val (B7 g l c m kk)):=Z51 j hi hj hle
theorem Z1t {K:Fr->List Res->Prop} {g len cap i m sz:Nat} {ls:List AV} (hd:WV n (ZB ops k)=true) (ha:VB P ops F k=some (.val (.slice (some ⟨g,0,none⟩) i cap),.val (B7 g len cap m sz),sz))
  (hone:ls.all AV.one=true) (him:i<=m) (hml:m<=len)
  (hK:K (F.put (ZB ops k).dst (.val (.slice (some ⟨g,0,none⟩) (i+(len-m)) cap))) (.row (.slice (some ⟨g,0,none⟩) (i+(len-m)) cap) sz (ls.take (i*sz)++ls.drop (m*sz))::h2)):Wc P n (ZB ops k) F (.row (.slice (some ⟨g,0,none⟩) len cap) sz ls::h2) K:=by
 unfold VB at ha
 generalize hoo:ZB ops k=o at ha hd hK
 obtain ⟨dst,op,type,pos,after,guard⟩:=o
 cases op<;>simp only at ha<;>try (cases ha)
 rename_i c
 obtain ⟨callee,args,tys⟩:=c
 simp only at ha
 split at ha
 case h_2=>cases ha
 rename_i s x t t' hargs htys
 split at ha
 case h_2=>cases ha
 rename_i e htt ht
 have:=VW htt
 subst this
 split at ha
 case h_2=>cases ha
 rename_i inf hinfo
 split at ha
 case h_2=>cases ha
 rename_i z hz
 split at ha
 case h_2=>cases ha
 rename_i hb
 simp only [Wn] at hb
 simp only [XQ,Prod.mk.injEq] at ha
 obtain ⟨h3,h4,hk1⟩:=ha
 have e1:args=#[s,x]:=by rw [<-Ue (xs:=args),hargs]
 have e2:tys=#[t,t]:=by rw [<-Ue (xs:=tys),htys]
 subst e1;subst e2
 intro Q w G a hF hh
 have v1:=hF.ev s
 have v2:=hF.ev x
 rw [h3] at v1
 rw [h4] at v2
 have v1:=v1.val_inv
 have v2:=v2.val_inv
 rcases hh.ok _ (YZ ..) with ⟨h0,_⟩|⟨g',len',cap',cur,el,h0,hrow,hlc,hcur,hll,hcells⟩
 ·cases h0
 ·cases h0
  have q5:len*sz<=cap*sz:=Tt _ hlc
  have q6:m*sz<=len*sz:=Tt _ hml
  have q7:i*sz<=m*sz:=Tt _ him
  have q8:(len-m)*sz=len*sz-m*sz:=Nat.sub_mul ..
  have q9:(i+(len-m))*sz=i*sz+(len-m)*sz:=T6 ..
  have hcl:cur.toList.length=cap*sz:=by rw [Qs,hcur]
  have h1:(cur.toList.take (len*sz)).length=len*sz:=by rw [Wr,hcl,Vb q5]
  have hnl:((cur.toList.take (len*sz)).drop (m*sz)).length=(len-m)*sz:=by rw [Ki,h1];omega
  have hr:=DM (P:=P) w t type e el inf ht hinfo g i cap cur hrow ⟨g,(if cap-m=0 then 0 else m*sz),none⟩ (len-m) (cap-m) ((cur.toList.take (len*sz)).drop (m*sz)) (by rw [hk1];exact hnl)
   (fun j u hj=>by
    have hjl:=(XA.1 hj).1
    rw [hnl] at hjl
    have hne:¬cap-m=0:=fun z=>by
     have:len-m=0:=by omega
     rw [this] at hjl;omega
    rw [Zp hne,Qa,cell_of_row w g _ cur el (0,0) hrow]
    rw [Aw,T5] at hj
    split at hj
    ·simpa using hj
    ·cases hj)
   (fun u hu=>hcells.one_cells hone u (List.mem_of_mem_drop hu)) om (by rw [hk1,hnl,hcur];omega)
  rw [hk1] at hr
  have hti:(cur.toList.take (i*sz)).length=i*sz:=by rw [Wr,hcl,Vb om]
  obtain ⟨j1,j2⟩:=hh.rgrow (ls':=ls.take (i*sz)++ls.drop (m*sz)) (len':=i+(len-m)) (cs':=(cur.toList.take (i*sz)++(cur.toList.take (len*sz)).drop (m*sz)++cur.toList.drop (i*sz+((cur.toList.take (len*sz)).drop (m*sz)).length)).toArray) hrow
   (by simp only [Bs,Yk,hti,hnl,Ki,hcl,hcur];omega) om hcur (by rw [Yk,Wr,Ki,hll,q9,Vb om];omega) (by
    have:(cur.toList.take (i*sz)++(cur.toList.take (len*sz)).drop (m*sz)++cur.toList.drop (i*sz+((cur.toList.take (len*sz)).drop (m*sz)).length)).toArray.toList.take ((i+(len-m))*sz)=cur.toList.take (i*sz)++(cur.toList.take (len*sz)).drop (m*sz):=by
     rw [Bt,q9,<-hnl]
     conv=>lhs;arg 1;rw [show i*sz+((cur.toList.take (len*sz)).drop (m*sz)).length=(cur.toList.take (i*sz)++(cur.toList.take (len*sz)).drop (m*sz)).length from by rw [Yk,hti]]
     exact Kl
    rw [this]
    have ht1:=hcells.take (i*sz)
    rw [List.take_take,Vb om] at ht1
    exact ht1.append (hcells.drop (m*sz)))
  generalize hW:w.setRow g (cur.toList.take (i*sz)++(cur.toList.take (len*sz)).drop (m*sz)++cur.toList.drop (i*sz+((cur.toList.take (len*sz)).drop (m*sz)).length)).toArray=W at hr j1 j2
  have hrun:(execOp a.eval { dst:=dst,op:=.call { callee:=.builtin .append,args:=#[s,x],argTypes:=#[t,t] },type:=type,pos:=pos,after:=after,guard:=guard }).run P w=.ok (.value (.slice (some ⟨g,0,none⟩) (i+(len-m)) cap)) W:=by
   simp only [execOp,resolve,invoke,builtin,Sem.run_bind,Sem.run_pure,Result.andThen_ok,Cz,Uf,Cy,v1,v2,B7]
   rw [hr]
   rfl
  unfold Oper.wp
  rw [hrun]
  exact ⟨_,_,G,hK,(hF.mono (j2.agree hh)).put (Ux hd) .val,j1,j2⟩
end
section
variable {P:Program} {n:Nat} {ops:Array Oper} {B:Fr->List Res->Prop} {T:List (Nat × List Nat)} {fuel:Nat} {done:List Nat} {k:Nat} {F:Fr} {h:List Res}
theorem Hz (q j:Nat) (js bs:List Nat) (g len cap i m sz:Nat) (ls:List AV) (hone:ls.all AV.one=true)
  (H:YJ P n ops B (T.filter fun t=>!Wt ops q t.1) fuel (done++[q]) (F.put (ZB ops q).dst (.val (.slice (some ⟨g,0,none⟩) (i+(len-m)) cap))) (.row (.slice (some ⟨g,0,none⟩) (i+(len-m)) cap) sz (ls.take (i*sz)++ls.drop (m*sz))::Xq [j] h)) (him:i<=m:=by omega) (hml:m<=len:=by omega)
  (hk:YY n ops F q=true:=by kernel_rfl) (ha:VB P ops F q=some (.val (.slice (some ⟨g,0,none⟩) i cap),.val (B7 g len cap m sz),sz):=by kernel_rfl) (hp:XU [j] h=some [.row (.slice (some ⟨g,0,none⟩) len cap) sz ls]:=by kernel_rfl) (ho:Vf ops q T=bs:=by kernel_rfl)
  (hj:js.map (fun z=>(Wa (Xq [j] h))[z]?)=bs.map some:=by kernel_rfl):WL P n ops B T fuel done F h q:=
 Qf [j] js bs hk (WI hp) ho hj (Z1t (h2:=[]) (Vo hk).2.1 ha hone him hml H)
end
theorem PH (xs:List Y8) (k:Nat) (d:Y8):Yx (xs.set k d)=(Yx xs).set k (TP d):=by simp [Yx,List.map_set]
theorem D5 (xs:List Y8):(Zc (Yx xs)).length=xs.length*5:=by rw [Ur (k:=5) _ (VQ xs)];simp
theorem R3 {ds:List Y8} {k:Nat} (d:Y8) (hk:k<ds.length):(Zc (Yx ds)).take (k*5)++(TP d).leaves++(Zc (Yx ds)).drop (k*5+5)=Zc (Yx (ds.set k d)):=by
 rw [PH];exact D8 (y:=TP d) (VQ ds) rfl (by simpa using hk)
theorem Pz (xs:List Z4) (k:Nat) (d:Z4):Yu (xs.set k d)=(Yu xs).set k (ZC d):=by
 simp [U0,List.map_set]
theorem BN (xs:List Z4):(Zc (Yu xs)).length=xs.length*2:=by rw [Ur (k:=2) _ (Uy xs)];simp
theorem PY {ds:List Z4} {k:Nat} (d:Z4) (hk:k<ds.length):(Zc (Yu ds)).take (k*2)++(ZC d).leaves++(Zc (Yu ds)).drop (k*2+2)=Zc (Yu (ds.set k d)):=by
 rw [Pz];exact D8 (y:=ZC d) (Uy ds) (by cases d;rfl) (by simpa using hk)
theorem W3.frzN {P:Program} {f:FuncId} {as1:List AV} {h0:List Res} {ds:List Zd} {rs:List Y8} {hs:List Res}
  (H:W3 P f as1 h0 (fun r h=>∃g c:Nat,r=.agg [YM ds,.ms g 0 rs.length c]/\h=.row (.slice (some ⟨g,0,none⟩) rs.length c) 5 (Zc (Yx rs))::hs)) :
  W3 P f as1 h0 (fun r h=>r=.agg [YM ds,TY rs]/\h=hs):=by
 intro w G vs hv hh
 refine (H w G vs hv hh).mono ?_
 rintro e w' ⟨u,r,h',G',he,⟨gb,c,rfl,rfl⟩,hr,hh',hx⟩
 obtain ⟨G2,h1,h2,h3⟩:=Bf hh' (VQ _) om
 have hA:V1 G' w' w' G2:=h2.agree hh'
 refine ⟨u,_,hs,G2,he,⟨rfl,rfl⟩,?_,(h1.perm (List.perm_append_comm (l₁:=[_]))).left,(hx.trans h2).sub' (JM _ _)⟩
 cases hr with
 | agg hc=>
  cases hc with
  | cons k1 t1=>
   cases t1 with
   | cons k2 t2=>
    cases t2
    have hv2:=k2.val_inv
    subst hv2
    refine .agg (.cons (k1.mono hA) (.cons ?_ .nil))
    have hw:Ze (.sl (Yx rs) (some (.slice (some ⟨gb,0,none⟩) rs.length c))) (TY rs):=Ze.forget _ _
    exact hw _ _ _ h3
theorem R9 (v:Value) (k:Nat) (ls ks:List AV) (b o:Nat):Res.fp (.row v k ks) b o=Res.fp (.vec v ls) b o:=by
 cases v with
 | slice a _ _=>cases a<;>rfl
 | _=>rfl
theorem Z64 {w:World} {G:ZY} {v:Value} {ls:List AV} {h2:List Res} (hh:Yj w G (.vec v ls::h2)):Yj w G (.row v 1 ls::h2)/\YO w G (.vec v ls::h2) w G (.row v 1 ls::h2):=by
 have hpw:=Wb.1 hh.apart
 have hf:∀b o,Res.fp (.row v 1 ls) b o->Res.fp (.vec v ls) b o:=fun b o h=>by rw [R9 v 1 ls ls] at h;exact h
 refine ⟨⟨fun r hr=>?_,Wb.2 ⟨fun r hr b o f1 f2=>hpw.1 r hr b o (hf b o f1) f2,hpw.2⟩,fun r hr b o f1 hg=>?_,hh.lt⟩,⟨rfl,rfl,rfl,YQ _,fun _ _ h=>h,fun _ _=>.inl rfl,fun _ _ _ h=>.inl h,fun b o _ ⟨r,hr,f1⟩=>?_⟩⟩
 ·rcases Yr.1 hr with rfl|hr
  ·rcases hh.ok _ (YZ ..) with h0|⟨g,cap,cur,e,h0,h1,h3,h4,h5⟩
   ·exact .inl h0
   ·exact .inr ⟨g,ls.length,cap,cur,e,h0,h1,h3,by rw [h4,J9],by rw [J9],by rw [J9];exact h5⟩
  ·exact hh.ok r (Xr _ hr)
 ·rcases Yr.1 hr with rfl|hr
  ·exact hh.prot _ (YZ ..) b o (hf b o f1) hg
  ·exact hh.prot r (Xr _ hr) b o f1 hg
 ·rcases Yr.1 hr with rfl|hr
  ·exact ⟨_,YZ ..,hf b o f1⟩
  ·exact ⟨r,Xr _ hr,f1⟩
theorem I2:∀xs:LI,Zc (Z7 xs)=Z7 xs
 | []=>rfl
 | x::r=>Ys (AV.i x::·) (I2 r)
section
variable {h:List Res}
theorem Kf (j:Nat) (v:Hd) (xs:LI) (hp:XU [j] h=some [rV v xs]:=by kernel_rfl):UK h (.row v.v 1 (Zc (Z7 xs))::Xq [j] h):=by
 have e:Zc (Z7 xs)=Z7 xs:=I2 xs
 rw [e]
 intro w G hh
 have hp':=Vq (WI hp)
 obtain ⟨a,b⟩:=Z64 (hh.perm hp')
 exact ⟨G,a,b.perm hp'.symm (T3 _)⟩
end
def KZ (bs:LI) (p:Nat) (mx:Int):Int:=
 if mx<1∨bs.length=0 then 0 else if p<bs.length then (bs[p]?).getD 0 % mx else
  J6 ((((bs[p % bs.length]?).getD 0*131+(bs[(p*7+3) % bs.length]?).getD 0*1117)+((p*29:Nat):Int))+(((p / bs.length:Nat):Int)*53))
   (((((bs[p % bs.length]?).getD 0*131+(bs[(p*7+3) % bs.length]?).getD 0*1117)+((p*29:Nat):Int))+(((p / bs.length:Nat):Int)*53)) / 64) % mx
theorem Z25 {bs:LI} {p:Nat} {mx:Int} (h:0<mx):0<=KZ bs p mx/\KZ bs p mx<mx:=by
 rw [KZ]
 split
 ·omega
 ·split
  ·exact ⟨Int.emod_nonneg _ om,Int.emod_lt_of_pos _ h⟩
  ·exact ⟨Int.emod_nonneg _ om,Int.emod_lt_of_pos _ h⟩
theorem PX {xs:List Z4} {k:Nat} {b:Z4} (h:xs[k]? = some b):Zc (Yu (xs.take k))++Zc [ZC b]=Zc (Yu (xs.take (k+1))):=by
 rw [Vh h,KD,Tc]
 congr 1
 rw [U0];rfl
def C0 (s:Z3) (u:Value):List AV:=[.i s.op,.i s.num,.i s.into,Z6 s.args,.val u]
def BO (b:Z4) (k:Nat):Z3:=(b.steps[k]?).getD (Zl 0 0)
theorem D9 {b:Z4} {k:Nat} {s:Z3} (h:b.steps[k]? = some s):BO b k=s:=by rw [BO,h];rfl
def Wk (b:Z4) (kk:Nat) (u:Value) (k:Nat):List AV:=if k<=kk then Zc (Zj (b.steps.take k)) else Zc (Zj (b.steps.take kk))++(C0 (BO b kk) u++Zc (Zj ((b.steps.take k).drop (kk+1))))
def U7 (b:Z4) (kk k:Nat):List AV:=if k<=kk then [] else Zc (Yu (BO b kk).kids)
theorem IT {b:Z4} {kk:Nat} {u:Value}:Wk b kk u 0=[]:=by rw [Wk,Zw (T7 _),List.take_zero,WO];rfl
theorem IW {b:Z4} {kk:Nat}:U7 b kk 0=[]:=Zw (T7 _)
theorem FC {b:Z4} {kk k:Nat} {u:Value} (h:k<=b.steps.length):(Wk b kk u k).length=k*5:=by
 rw [Wk]
 split
 ·rw [Tz,Wr,Vb h]
 ·rename_i q
  have e:(C0 (BO b kk) u).length=5:=rfl
  rw [Yk,Yk,Tz,Tz,Ki,Wr,Wr,e,Vb h,Vb om]
  omega
theorem IR {b:Z4} {kk k:Nat} {u:Value} {s:Z3} (hs:b.steps[k]? = some s) (hk:¬k=kk):Wk b kk u k++Zc [Ym s]=Wk b kk u (k+1):=by
 have hkl:=(XA.1 hs).1
 by_cases q:k<=kk
 ·rw [Wk,Zw q,Wk,Zw om]
  exact I0 hs
 ·rw [Wk,Zp q,Wk,Zp om,VN,VN]
  congr 2
  rw [Vh hs,List.drop_append_of_le_length (by rw [Wr];omega),Wj,Tc]
  congr 1
  rw [WO];rfl
theorem IU {b:Z4} {kk k:Nat} (hk:¬k=kk):U7 b kk k=U7 b kk (k+1):=by
 by_cases q:k<=kk
 ·rw [U7,Zw q,U7,Zw om]
 ·rw [U7,Zp q,U7,Zp om]
theorem IS {b:Z4} {kk:Nat} {u u2:Value} {s:Z3} (hs:b.steps[kk]? = some s):Wk b kk u kk++C0 s u2=Wk b kk u2 (kk+1):=by
 rw [Wk,Zw (YQ _),Wk,Zp om,D9 hs,Eb (by rw [Wr];omega),WO]
 show _=_++(C0 s u2++Zc [])
 rw [R6,T4]
theorem IV {b:Z4} {kk:Nat} {s:Z3} (hs:b.steps[kk]? = some s):Zc (Yu s.kids)=U7 b kk (kk+1):=by
 rw [U7,Zp om,D9 hs]
theorem Mw {α:Type}:∀(A X:List α) (m:Nat) (y:α),(A++X).set (A.length+m) y=A++X.set m y
 | [],X,m,y=>by simp
 | a::r,X,m,y=>by
  have:=Mw r X m y
  rw [TK,YD,show r.length+1+m=(r.length+m)+1 by omega,List.set_cons_succ,this,TK]
theorem Sp {α:Type} (A X:List α) (m:Nat):(A++X)[A.length+m]? = X[m]?:=by
 rw [Ec om];congr 1;omega
section
variable {b:Z4} {kk:Nat} {u:Value} {s:Z3}
theorem FB (hs:b.steps[kk]? = some s):Wk b kk u b.steps.length=Zc (Zj (b.steps.take kk))++(C0 s u++Zc (Zj (b.steps.drop (kk+1)))):=by
 have hk:=(XA.1 hs).1
 rw [Wk,Zp om,D9 hs,Va]
theorem FA (hs:b.steps[kk]? = some s):(Zc (Zj (b.steps.take kk))).length=kk*5:=by
 have hk:=(XA.1 hs).1
 rw [Tz,Wr,Vb om]
theorem Z0d (hs:b.steps[kk]? = some s):(Wk b kk u b.steps.length)[kk*5+4]? = some (.val u):=by
 rw [FB hs,<-FA hs,Sp];rfl
theorem Dp (hs:b.steps[kk]? = some s):((Wk b kk u b.steps.length).drop (kk*5+4)).take 1=[.val u]:=by
 rw [FB hs,<-FA hs,<-List.drop_drop,List.drop_left];rfl
theorem R5 {xs:List Z3} {k:Nat} {t:Z3} (hk:k<xs.length):Zc (Zj (xs.set k t))=Zc (Zj (xs.take k))++(Xf t++Zc (Zj (xs.drop (k+1)))):=by
 rw [CA,Zw hk,Wj,Tc,D6]
theorem Z0e (hs:b.steps[kk]? = some s) (ks:List Z4):(Wk b kk u b.steps.length).set (kk*5+4) (.sl (Yu ks) none)=Zc (Zj (b.steps.set kk ⟨s.op,s.num,s.into,s.args,ks⟩)):=by
 have hk:=(XA.1 hs).1
 rw [FB hs,<-FA hs,Mw,R5 hk];rfl
theorem FD (hs:b.steps[kk]? = some s):U7 b kk b.steps.length=Zc (Yu s.kids):=by
 have hk:=(XA.1 hs).1
 rw [U7,Zp om,D9 hs]
theorem Z0f (hs:b.steps[kk]? = some s):b.steps.set kk ⟨s.op,s.num,s.into,s.args,s.kids⟩=b.steps:=by
 have e:Z3.mk s.op s.num s.into s.args s.kids=s:=by cases s;rfl
 rw [e]
 apply List.ext_getElem?
 intro i
 rw [List.getElem?_set]
 split
 ·rename_i q;subst q;rw [Zw (XA.1 hs).1];exact hs.symm
 ·rfl
end
theorem V2.set:∀(ls:List AV) (p:Nat) {x y:AV},Ze x y->V2 (ls.set p x) (ls.set p y)
 | [],_,_,_,_=>.nil
 | a::r,0,_,_,h=>.cons h (V2.refl r)
 | a::r,p+1,_,_,h=>.cons (Ze.refl a) (V2.set r p h)
theorem V2.len:∀{xs ys:List AV},V2 xs ys->ys.length=xs.length
 | _,_,.nil=>rfl
 | _,_,.cons _ t=>by rw [YD,YD,t.len]
theorem R8 (v:Value) (k:Nat) (ls ks:List AV):Res.fp (.row v k ks)=Res.fp (.row v k ls):=by
 cases v with
 | slice a _ _=>cases a<;>rfl
 | _=>rfl
theorem Z2t {w:World} {G:ZY} {v:Value} {k:Nat} {ls ls':List AV} {h2:List Res} (hle:V2 ls ls') (hh:Yj w G (.row v k ls::h2)):Yj w G (.row v k ls'::h2)/\YO w G (.row v k ls::h2) w G (.row v k ls'::h2):=by
 have hpw:=Wb.1 hh.apart
 have hf:∀b o,Res.fp (.row v k ls') b o->Res.fp (.row v k ls) b o:=fun b o h=>by rw [R8 v k ls ls'] at h;exact h
 refine ⟨⟨fun r hr=>?_,Wb.2 ⟨fun r hr b o f1 f2=>hpw.1 r hr b o (hf b o f1) f2,hpw.2⟩,fun r hr b o f1 hg=>?_,hh.lt⟩,⟨rfl,rfl,rfl,YQ _,fun _ _ h=>h,fun _ _=>.inl rfl,fun _ _ _ h=>.inl h,fun b o _ ⟨r,hr,f1⟩=>?_⟩⟩
 ·rcases Yr.1 hr with rfl|hr
  ·rcases hh.ok _ (YZ ..) with ⟨h0,h1⟩|⟨g,len,cap,cur,e,h0,h1,h3,h4,h5,h6⟩
   ·subst h1;cases hle;exact .inl ⟨h0,rfl⟩
   ·exact .inr ⟨g,len,cap,cur,e,h0,h1,h3,h4,by rw [hle.len];exact h5,hle.cs h6⟩
  ·exact hh.ok r (Xr _ hr)
 ·rcases Yr.1 hr with rfl|hr
  ·exact hh.prot _ (YZ ..) b o (hf b o f1) hg
  ·exact hh.prot r (Xr _ hr) b o f1 hg
 ·rcases Yr.1 hr with rfl|hr
  ·exact ⟨_,YZ ..,hf b o f1⟩
  ·exact ⟨r,Xr _ hr,f1⟩
section
variable {h:List Res}
theorem N8 (j i:Nat) (b:Z4) (kk:Nat) (s:Z3) (ks:List Z4) (u v:Value) (hs:b.steps[kk]? = some s) (hp:XU [j,i] h=some [.row u 2 (Zc (Yu ks)),.row v 5 (Wk b kk u b.steps.length)]:=by kernel_rfl) :
  UK h (.row v 5 (Zc (Zj (b.steps.set kk ⟨s.op,s.num,s.into,s.args,ks⟩)))::.tail u 2::Xq [j,i] h):=by
 intro w G hh
 obtain ⟨G',a1,a2⟩:=Z5e j i (kk*5+4) hp (Uy ks) om (Z0d hs) w G hh
 obtain ⟨b1,b2⟩:=Z2t (V2.set _ (kk*5+4) (Ze.forget (Yu ks) (some u))) a1
 rw [Z0e hs] at b1 b2
 exact ⟨G',b1,a2.trans b2⟩
theorem GC (j i:Nat) (b:Z4) (kk:Nat) (s:Z3) (u v:Value) (hs:b.steps[kk]? = some s) (hp:XU [j,i] h=some [.row u 2 (U7 b kk b.steps.length),.row v 5 (Wk b kk u b.steps.length)]:=by kernel_rfl) :
  UK h (.row v 5 (Zc (Zj b.steps))::.tail u 2::Xq [j,i] h):=by
 have Y9:XU [j,i] h=some [.row u 2 (Zc (Yu s.kids)),.row v 5 (Wk b kk u b.steps.length)]:=by rw [hp,FD hs]
 have:=N8 j i b kk s s.kids u v hs Y9
 rwa [Z0f hs] at this
end
theorem HZ {xs:List Z3} {k:Nat} (hk:k<xs.length):(Zc (Zj xs)).take (k*5)++(Zc (Zj xs)).drop ((k+1)*5)=Zc (Zj (xs.take k++xs.drop (k+1))):=by
 have h1:(Zc (Zj (xs.take k))).length=k*5:=by rw [Tz,Wr,Vb om]
 have h2:(Zc (Zj (xs.take (k+1)))).length=(k+1)*5:=by rw [Tz,Wr,Vb om]
 have e1:Zc (Zj xs)=Zc (Zj (xs.take k))++Zc (Zj (xs.drop k)):=by rw [<-Tc,<-Wj,Uo]
 have e2:Zc (Zj xs)=Zc (Zj (xs.take (k+1)))++Zc (Zj (xs.drop (k+1))):=by rw [<-Tc,<-Wj,Uo]
 rw [Wj,Tc]
 congr 1
 ·rw [e1,<-h1,Kl]
 ·conv=>lhs;rw [e2,<-h2,List.drop_left]
theorem PW {xs:List Z4} {i:Nat} {s:Z4} (h:xs[i]? = some s):((Zc (Yu xs)).drop (i*2)).take 2=YI s:=by
 have hi:=(XA.1 h).1
 have h1:(Zc (Yu (xs.take i))).length=i*2:=by rw [BN,Wr,Vb om]
 have e1:Zc (Yu xs)=Zc (Yu (xs.take i))++Zc (Yu (xs.drop i)):=by rw [<-Tc,<-KD,Uo]
 rw [e1,<-h1,List.drop_left,Yo h,U0,Uf]
 rfl
section
variable {rs:List Y8} {k:Nat} {r:Y8}
theorem F9 (hk:k<rs.length) (r:Y8):Zc (Yx (rs.set k r))=Zc (Yx (rs.take k))++((TP r).leaves++Zc (Yx (rs.drop (k+1)))):=by
 rw [CA,Zw hk,A1,Tc];rfl
theorem HY (hk:k<rs.length):(Zc (Yx (rs.take k))).length=k*5:=by rw [D5,Wr,Vb om]
theorem R0 (hk:k<rs.length) (r:Y8):((Zc (Yx (rs.set k r))).drop (k*5+1)).take 1=[Z6 r.lent]:=by
 rw [F9 hk,<-HY hk,<-List.drop_drop,List.drop_left];rfl
theorem R4 (hk:k<rs.length) (r:Y8) (l:LI):(Zc (Yx (rs.set k r))).take (k*5+1)++[Z6 l]++(Zc (Yx (rs.set k r))).drop (k*5+1+1)=Zc (Yx (rs.set k ⟨r.params,l,r.result,r.body⟩)):=by
 have hl:=HY hk
 rw [F9 hk,F9 hk]
 have e:(TP r).leaves=[Z6 r.params]++([Z6 r.lent]++[.i r.result,.sl (Zj r.body.steps) none,.i r.body.result]):=rfl
 have e2:(TP ⟨r.params,l,r.result,r.body⟩).leaves=[Z6 r.params]++([Z6 l]++[.i r.result,.sl (Zj r.body.steps) none,.i r.body.result]):=rfl
 rw [e,e2]
 have q:=Gd (A:=Zc (Yx (rs.take k))++[Z6 r.params]) (xs:=[Z6 r.lent]) (ys:=[Z6 l]) (B:=[.i r.result,.sl (Zj r.body.steps) none,.i r.body.result]++Zc (Yx (rs.drop (k+1)))) (o:=k*5+1) (by rw [Yk,hl];rfl) rfl
 simpa [VN] using q
end
end Go.Abs
section
namespace Go.Abs
theorem VE {rs fs:List Func} (hp:fs <+: rs) {i:Nat} {f:Func} (hx:fs[i]? = some f) (c:Nat) {zs:List AV} (hz:((Dq f).drop c).take zs.length=zs) (hl:c+zs.length<=5):((Zc (X5 rs)).drop (i*5+c)).take zs.length=zs:=by
 obtain ⟨ys,rfl⟩:=hp
 have h1:(fs++ys)[i]? = some f:=by rw [Cv (XA.1 hx).1];exact hx
 have e1:=(Uo i (fs++ys)).symm
 rw [Yo h1] at e1
 have hl2:(Zc (X5 ((fs++ys).take i))).length=i*5:=by
  rw [Ur (k:=5) _ (CW _),AQ,Wr,Vb (by have:=(XA.1 h1).1;omega)]
 have e2:Zc (X5 (fs++ys))=Zc (X5 ((fs++ys).take i))++(Dq f++Zc (X5 ((fs++ys).drop (i+1)))):=by
  conv=>lhs;rw [e1]
  simp only [X5,Zc,List.map_append,Uf,List.flatMap_append,JK]
  rfl
 rw [e2,List.drop_append,List.drop_of_length_le om,Kj,hl2,Nat.add_sub_cancel_left,List.drop_append_of_le_length (by show c<=5;omega),List.take_append_of_le_length (by rw [Ki];show zs.length<=5-c;omega)]
 exact hz
theorem F8 (rs:List Func):(Zc (X5 rs)).length=rs.length*5:=by rw [Ur (k:=5) _ (CW _),AQ]
end Go.Abs
namespace Go.Abs
abbrev XX (g:XJ) (gb:Nat):List AV:=[YM g.decls,.ms gb 0 g.funcs.length 4]
abbrev Xu (gb:Nat) (rs:List Func):Res:=.row (.slice (some ⟨gb,0,none⟩) 4 4) 5 (Zc (X5 rs))
abbrev Yc (rd:Nat) (bs:LI) (p:Nat):Res:=.obj rd [V7 bs,.i p]

end Go.Abs
end
namespace Go.Abs
theorem Z2v {w:World} {G:ZY} {g len cap k m:Nat} {ls:List AV} {h2:List Res} (hh:Yj w G (.row (.slice (some ⟨g,0,none⟩) len cap) k ls::h2)) (hle:m<=len) :
  Yj w G (.row (.slice (some ⟨g,0,none⟩) m cap) k (ls.take (m*k))::h2)/\YO w G (.row (.slice (some ⟨g,0,none⟩) len cap) k ls::h2) w G (.row (.slice (some ⟨g,0,none⟩) m cap) k (ls.take (m*k))::h2):=by
 have hpw:=Wb.1 hh.apart
 have hfp:∀b o,Res.fp (.row (.slice (some ⟨g,0,none⟩) m cap) k (ls.take (m*k))) b o->Res.fp (.row (.slice (some ⟨g,0,none⟩) len cap) k ls) b o:=fun b o hf=>hf
 refine ⟨⟨fun r hr=>?_,Wb.2 ⟨fun r hr b o h1 h2=>hpw.1 r hr b o (hfp b o h1) h2,hpw.2⟩,fun r hr b o hf hg=>?_,hh.lt⟩,⟨rfl,rfl,rfl,YQ _,fun _ _ h=>h,fun _ _=>.inl rfl,fun _ _ _ h=>.inl h,fun b o _ hf=>?_⟩⟩
 ·rcases Yr.1 hr with rfl|hr
  ·rcases hh.ok _ (YZ ..) with ⟨h0,_⟩|⟨g',len',cap',cur,e,hv,h1,h3,h4,h5,h6⟩
   ·cases h0
   ·cases hv
    have hmk:m*k<=len*k:=Tt k hle
    refine .inr ⟨g,m,cap,cur,e,rfl,h1,by omega,h4,by rw [Wr,h5];omega,?_⟩
    have:=h6.take (m*k)
    rw [List.take_take,Vb hmk] at this
    exact this
  ·exact hh.ok r (Xr _ hr)
 ·rcases Yr.1 hr with rfl|hr
  ·exact hh.prot _ (YZ ..) b o (hfp b o hf) hg
  ·exact hh.prot r (Xr _ hr) b o hf hg
 ·obtain ⟨r,hr,hf⟩:=hf
  rcases Yr.1 hr with rfl|hr
  ·exact ⟨_,YZ ..,hfp b o hf⟩
  ·exact ⟨r,Xr _ hr,hf⟩
theorem PZ {rs:List Func} {k:Nat} (f:Func) (hk:k<rs.length):(Zc (X5 rs)).take (k*5)++Dq f++(Zc (X5 rs)).drop (k*5+5)=Zc (X5 (rs.set k f)):=by
 rw [show X5 (rs.set k f)=(X5 rs).set k (Bz f) by simp [X5,List.map_set]]
 exact D8 (y:=Bz f) (CW rs) rfl (by simpa using hk)
theorem W3.frzP {P:Program} {f:FuncId} {as1:List AV} {h0:List Res} {E:Type} {ds:E->List Zd} {rs:E->List Func} {m:E->Nat} {hs:E->List Res} {Q:E->Prop}
  (H:W3 P f as1 h0 (fun r h=>∃(e:E) (gb:Nat),r=.agg [YM (ds e),.ms gb 0 (m e) 4]/\h=.row (.slice (some ⟨gb,0,none⟩) 4 4) 5 (Zc (X5 (rs e)))::hs e/\Q e)) (hm:∀e,Q e->m e<=4/\(rs e).length=4) :
  W3 P f as1 h0 (fun r h=>∃e:E,r=.agg [YM (ds e),Dy ((rs e).take (m e))]/\h=hs e/\Q e):=by
 intro w G vs hv hh
 refine (H w G vs hv hh).mono ?_
 rintro e w' ⟨u,r,h',G',he,⟨x,gb,rfl,rfl,hq⟩,hr,hh',hx⟩
 obtain ⟨hm4,hr4⟩:=hm x hq
 obtain ⟨j1,j2⟩:=Z2v hh' hm4
 have hft:(Zc (X5 (rs x))).take (m x*5)=Zc (X5 ((rs x).take (m x))):=by
  have e1:rs x=(rs x).take (m x)++(rs x).drop (m x):=(Uo _ _).symm
  have e2:Zc (X5 (rs x))=Zc (X5 ((rs x).take (m x)))++Zc (X5 ((rs x).drop (m x))):=by
   conv=>lhs;rw [e1]
   rw [PF,Tc]
  rw [e2,List.take_append_of_le_length (by rw [F8,Wr,show min (m x) (rs x).length=m x by omega];exact YQ _),WT (by rw [F8,Wr];exact Tt 5 (Nat.min_le_left _ _))]
 rw [hft] at j1 j2
 obtain ⟨G2,h1,h2,h3⟩:=Bf j1 (CW _) om
 have hA:V1 G' w' w' G2:=h2.agree j1
 refine ⟨u,_,hs x,G2,he,⟨x,rfl,rfl,hq⟩,?_,(h1.perm (List.perm_append_comm (l₁:=[_]))).left,((hx.trans j2).trans h2).sub' (JM _ _)⟩
 cases hr with
 | agg hc=>
  cases hc with
  | cons k1 t1=>
   cases t1 with
   | cons k2 t2=>
    cases t2
    have hv2:=k2.val_inv
    subst hv2
    refine .agg (.cons (k1.mono hA) (.cons ?_ .nil))
    have hw:Ze (.sl (X5 ((rs x).take (m x))) (some (.slice (some ⟨gb,0,none⟩) (m x) 4))) (Dy ((rs x).take (m x))):=Ze.forget _ _
    exact hw _ _ _ h3
open Go.Proofs
abbrev Zf:=@W3 Tryz.prog
theorem Z1d {xs:LI} {k:Nat} {n x:Int} (h:n∉xs.take k) (hx:xs[k]? = some x) (hn:¬x=n):n∉xs.take (k+1):=by
 rw [List.take_add_one,hx]
 simp only [Option.toList_some,YU,Xp]
 exact fun q=>q.elim h fun q=>hn q.symm
theorem Z19 {xs:LI} {k:Nat} {n x:Int} (hx:xs[k]? = some x) (hn:x=n):n∈xs:=hn▸ZW hx
theorem Ub (n:Int) (low:Int) (high:Int) :Zf 84 [.i n,.i low,.i high] [] (fun r h=>r=.b (decide (low<=n/\n<=high))/\h=[]):=by
 refine ZD 15 Tryz.func84 (Ya (ar (WQ 8 [] [(14,.b ((decide (low<=n))&&(decide (n<=high))))] (fun gz=>gz) ?_ (fun hj1=>?_))))
 ·exact Zs (Y3 (.b ((decide (low<=n))&&(decide (n<=high)))) (lb (by rw [Xc];simp)))
 refine Z2 4 (ib (b:=(decide (low<=n))) 10 (fun Zb=>?_) (fun Zb=>?_))
 ·have ZX:low<=n:=(dq).1 Zb
  exact Z2 4 (Xm (wk [] (ZM (decide (n<=high)) Zb fl)) hj1)
 have Y9:¬(low<=n):=YS dq Zb
 exact Z2 4 (Xm (wk [] (ZM false Zb fl)) hj1)
theorem VL (xs:LI) (n:Int) (hlen:xs.length<=4294967296:=by exact ob):Zf 132 [Z6 xs,.i n] [] (Yt (.b (decide (n∈xs)))):=by
 refine ZD 18 Tryz.func132 (Ya (Y1 (ab 0 (Y0 (fun fz gz m F h=>∃(k:Nat),(k<=xs.length)/\(n∉xs.take k)/\F=sF [0,1] fz [(5,.i k)]/\h=gz/\m=xs.length-k) _ _ _ ⟨0,ob,ob,rfl,rfl,rfl⟩ (wk [] (Yd fl)) ?_))))
 rintro m F h ⟨k,Yf,Zi,rfl,rfl,rfl⟩
 refine X4 2 (iw (Ye xs) (ZT ((k:Int)<(xs.length:Int)) (fun Z9=>?_) (fun Z9=>?_)))
 ·refine ak (aq (ab 1 (Yg 2 ?_)))
  obtain ⟨x1,Z5⟩:=Zq xs k om
  refine Zm (Zh none (k:Int) 1 (ZZ Z5)) (YR (x1==n) Zz (fun Zg=>?_) (fun Zg=>?_))
  ·exact ar (Zs (Y3 (.b true) (lb (by rw [eq_comm,dq];exact Z19 Z5 Zg))))
  exact ak (az (Z2 1 (ZG k (Z1 (ZI ⟨k+1,ob,(Z1d Zi Z5 Zg),rfl,rfl,rfl⟩ (wk [] (ZL k fl)))))))
 refine ax 0 (Ya ?_)
 have hke:k=xs.length:=by omega
 exact ZK (Y3 (.b false) (lb (by rw [eq_comm,decide_eq_false_iff_not];rw [hke,Va] at Zi;exact Zi)))
theorem Vr (xs:LI) (hlen:xs.length<=4294967296:=by exact ob):Zf 82 [Z6 xs] [] (fun r h=>∃(v:Value),r=ZQ xs v/\h=[.tail v 1]):=by
 exact ZD 6 Tryz.func82 (Ya (ar (iL (Z7 []) 0 1 fun v1=>Z2 1 (ip 0 (Z7 xs) (Z7 []) (Z7 xs) v1 none 1 (Yw _) (Yw _) (XT _) (by simp<;>omega) (by simp [Z7]) fun v2=>Zs (r1 [0] ⟨v2,rfl,rfl⟩)))))
theorem Gq (ds:List Zd) (n:Nat) (hd:Wh ds:=by exact ob) (hn:n<=ds.length:=by exact ob):Zf 249 [YM ds,.i n] [] (Yt (.i ((Xi (ds.take n):Nat):Int))):=by
 refine ZD 21 Tryz.func249 (Ya (Ya (Y1 (ab 0 (Y0 (fun fz gz m F h=>∃(k:Nat),(k<=n)/\F=sF [0,1] fz [(5,.i ((Xi (ds.take k):Nat):Int)),(6,.i k)]/\h=gz/\m=n-k) _ _ _ ⟨0,ob,rfl,rfl,rfl⟩ (wk [] (Yd (Yd fl))) ?_)))))
 rintro m F h ⟨k,Yf,rfl,rfl,rfl⟩
 refine X7 (ZT ((k:Int)<(n:Int)) (fun Z9=>?_) (fun Z9=>?_))
 ·refine ak (aq (ab 1 (az (Z2 3 ?_))))
  obtain ⟨x1,Z5⟩:=Zq ds k om
  refine Zm (Zh none (k:Int) 3 (U1 Z5)) (Z2 2 (iw (QX x1.cons) (ia ((((Xi (ds.take k))+x1.cons.length:Nat):Int)) ((((Xi (ds.take k):Nat):Int))+((x1.cons.length:Int))) (hb:=(by have h1:=hd.cons_at Z5;have h2:=(hd.take k).sum;omega)) (Z1 (az (Z2 1 (ZG k (hb:=(by have:=hd.len;omega)) (Z1 ?_))))))))
  have hsn:Xi (ds.take (k+1))=Xi (ds.take k)+x1.cons.length:=by rw [Vh Z5,Ht];simp [Xi]
  exact ZI ⟨k+1,ob,rfl,rfl,rfl⟩ (wk [] (fc (x:=.i (((Xi (ds.take k))+x1.cons.length:Nat):Int)) li (ZL k fl)))
 refine ax 0 (Ya ?_)
 have hke:k=n:=by omega
 subst hke
 exact ZK (Y3 (.i ((Xi (ds.take k):Nat):Int)) li)
theorem Gp (ds:List Zd) (c:Int) (hd:Wh ds:=by exact ob):Zf 213 [YM ds,.i c] [] (Yt (.i (Ve ds c))):=by
 refine ZD 30 Tryz.func213 (Ya (Y1 (ab 0 (Y0 (fun fz gz m F h=>∃(k:Nat),(k<=ds.length)/\((Kv c (ds.drop k) k (Xi (ds.take k))).1=Ve ds c)/\F=sF [0,1] fz [(5,.i k)]/\h=gz/\m=ds.length-k) _ _ _ ⟨0,ob,(by rfl),rfl,rfl,rfl⟩ (wk [] (Yd fl)) ?_))))
 rintro m F h ⟨k,Yf,Zi,rfl,rfl,rfl⟩
 refine X4 2 (iw (Tw ds) (ZT ((k:Int)<(ds.length:Int)) (fun Z9=>?_) (fun Z9=>?_)))
 ·refine ak (aq (ab 1 (Yg 2 (Zu [] (Gq ds k) (Z1 (Yg 5 ?_))))))
  obtain ⟨x1,Z5⟩:=Zq ds k om
  refine Zm (Zh none (k:Int) 3 (U1 Z5)) (Z2 2 (iw (QX x1.cons) (ia ((((Xi (ds.take k))+x1.cons.length:Nat):Int)) ((((Xi (ds.take k):Nat):Int))+((x1.cons.length:Int))) (hb:=(by have h1:=hd.cons_at Z5;have h2:=(hd.take k).sum;omega)) (ia (((((Xi (ds.take k))+x1.cons.length:Nat):Int)-1)) (((((Xi (ds.take k))+x1.cons.length:Nat):Int))-(1)) (hb:=(by have h1:=hd.cons_at Z5;have h2:=(hd.take k).sum;omega)) (Zu [] (Ub c ((Xi (ds.take k):Nat):Int) ((((Xi (ds.take k))+x1.cons.length:Nat):Int)-1)) (ie (VA (((Xi (ds.take k):Nat):Int)<=c/\c<=((((Xi (ds.take k))+x1.cons.length:Nat):Int)-1)) (fun Zg=>?_) (fun Zg=>?_))))))))
  ·exact Yg 1 (ZG k (hb:=(by have h2:=hd.len;omega)) (Zs (Y3 (.i (k+1:Nat)) (li (by rw [<-Zi,Yo Z5,Kv,Zw Zg];rfl)))))
  refine ak (az (Z2 1 (ZG k (hb:=(by have h2:=hd.len;omega)) (Z1 ?_))))
  have hdr:=Yo Z5
  exact ZI ⟨k+1,ob,(by rw [hdr] at Zi;rw [<-Zi,Kv,Zp Zg,Vh Z5,Ht];rfl),rfl,rfl,rfl⟩ (wk [] (ZL k fl))
 exact ax 0 (ar (Zs (Y3 (.i (-1)) (li (by rw [<-Zi,Xz om];rfl)))))
theorem Q0 (ds:List Zd) (c:Int) (hd:Wh ds:=by exact ob):Zf 197 [YM ds,.i c] [] (Yt (Z6 (Y4 ds c))):=by
 refine ZD 27 Tryz.func197 (Ya (Yg 2 (Zu [] (Gp ds c) (Z1 (X7 (ZT ((Ve ds c)<1) (fun Z9=>?_) (fun Z9=>?_)))))))
 ·exact ar (iL (Z7 []) 0 1 fun v1=>Zs (Y3 (ZQ [] v1) (Ze.sl _ (Ys Z7 (by rw [(Hu Z9).1])))))
 obtain ⟨k,d,x,hk1,hk2,hk3,hk4,hk5⟩:=Hv Z9
 have hkl:=(XA.1 hk1).1
 have hxl:=(XA.1 hk3).1
 have hsm:=(hd.take k).sum
 have hdl:=hd.cons_at hk1
 have hdn:=hd.len
 refine ak (aD 16 (Zk 14 16 [0,1] (da 2 ((k:Int)) ((Ve ds c)-(1)) (hb:=(by have:=hd.len;omega)) ?_)))
 obtain ⟨x1,Z5⟩:=Zq ds k om
 have hxe:x1=d:=by rw [hk1] at Z5;exact (Ay Z5).symm
 subst hxe
 refine dx 3 (Zh none (k:Int) 3 (U1 Z5)) (Zk 7 12 [4,5,6,7,8] (da 9 ((k:Int)) ((Ve ds c)-(1)) (hb:=(by have:=hd.len;omega)) (Z8 10 (Yp 10 [] [] [] (Gq ds k) (da 11 ((c-((Xi (ds.take k):Nat):Int))) ((c)-(((Xi (ds.take k):Nat):Int))) ?_)))))
 obtain ⟨x2,Zv⟩:=Zq x1.cons ((c-((Xi (ds.take k):Nat):Int)).toNat) om
 have hxe:x2=x:=by rw [show (c - ↑(Xi (ds.take k))).toNat=(c-Xi (ds.take k)).toNat from rfl,hk3] at Zv;exact (Ay Zv).symm
 subst hxe
 exact dx 12 (Zh none (c-((Xi (ds.take k):Nat):Int)) 1 (CT Zv)) (Zk 0 3 [13,14,15] (de (ZK (Y3 (Z6 x2.fields) (Ze.sl _ (Ys Z7 hk5.symm))))))
theorem Kb (ds:List Zd) (t:Int) (hd:Wh ds:=by exact ob):Zf 196 [YM ds,.i t] [] (fun r h=>∃(v:Value),r=ZQ (Y2 ds t) v/\h=[.tail v 1]):=by
 have hdn:=hd.len
 refine ZD 35 Tryz.func196 (Ya (ar (iL (Z7 []) 0 1 fun v1=>Z1 (X4 2 (iw (Tw ds) (Zu [] (Ub t 1 (ds.length:Int)) (YR (!(decide (1<=t/\t<=(ds.length:Int)))) (p:=¬(1<=t/\t<=(ds.length:Int))) (Xh dq) (fun Z9=>?_) (fun Z9=>?_))))))))
 ·exact ar (Zs (r2 [0] [ZQ [] v1] ⟨v1,rfl,rfl⟩ (Ze.slh _ (Ys Z7 (by simp [Y2];omega)))))
 have Z9:1<=t/\t<=ds.length:=by simpa using Z9
 obtain ⟨d,hd1⟩:=Zq ds ((t-1).toNat) om
 have hdc:=hd.cons_at hd1
 have hsm:=(hd.take (t-1).toNat).sum
 refine ak (Y1 (ab 0 (Y0 (fun fz gz m F h=>∃(k:Nat) (v:Value),(k<=d.cons.length)/\F=sF [0,1] fz [(5,ZQ (VH (Xi (ds.take (t-1).toNat)) k) v),(6,.i k)]/\h=[.tail v 1]/\m=d.cons.length-k) _ _ _ ⟨0,v1,(by first|omega|rfl|(simp<;>omega)|grind [Y2,VH]),rfl,rfl,rfl⟩ (wk [0] (fc (x:=ZQ [] v1) (Ze.slh _ (Ys Z7 (by first|omega|rfl|(simp<;>omega)|grind [Y2,VH]))) (fc (x:=.i 0) (li (by first|omega|rfl|(simp<;>omega)|grind [Y2,VH])) fl))) ?_)))
 rintro m F h ⟨k,v,Yf,rfl,rfl,rfl⟩
 refine X4 3 (ia ((((t-1).toNat:Nat):Int)) ((t)-(1)) (Zm (Zh none (((t-1).toNat:Nat):Int) 3 (U1 hd1)) (Z2 2 (iw (QX d.cons) (ZT ((k:Int)<(d.cons.length:Int)) (fun Zg=>?_) (fun Zg=>?_))))))
 ·exact ak (aq (ab 1 (az (Z2 3 (ia ((((t-1).toNat:Nat):Int)) ((t)-(1)) (Zu [] (Gq ds ((t-1).toNat) (hd:=(by first|omega|rfl|(simp<;>omega)|grind [Y2,VH])) (hn:=(by first|omega|rfl|(simp<;>omega)|grind [Y2,VH]))) (Z2 1 (ia ((((Xi (ds.take ((t-1).toNat)))+k:Nat):Int)) ((((Xi (ds.take ((t-1).toNat)):Nat):Int))+((k:Int))) (iL (Z7 [(((Xi (ds.take ((t-1).toNat)))+k:Nat):Int)]) 1 1 fun v2=>ZE 0 [(32,Z6 [(((Xi (ds.take ((t-1).toNat)))+k:Nat):Int)])] (ip 1 (Z7 (VH (Xi (ds.take (t-1).toNat)) k++[(((Xi (ds.take ((t-1).toNat)))+k:Nat):Int)])) (Z7 (VH (Xi (ds.take (t-1).toNat)) k)) (Z7 [(((Xi (ds.take ((t-1).toNat)))+k:Nat):Int)]) v none 1 (Yw _) (Yw _) (XT _) (by simp<;>omega) (by simp [XR,Z7]) fun v3=>Z1 (az (Z2 1 (ZG k (Z1 (⟨_,_,_,(by first|omega|rfl|(simp<;>omega)|grind [Y2,VH]),⟨k+1,v3,(by first|omega|rfl|(simp<;>omega)|grind [Y2,VH]),rfl,rfl,rfl⟩,(wk [0] (fc (x:=ZQ (VH (Xi (ds.take (t-1).toNat)) k++[(((Xi (ds.take ((t-1).toNat)))+k:Nat):Int)]) v3) (Ze.slh _ (Ys Z7 (Z1i _ _).symm)) (fc (x:=.i (k+1:Nat)) (li (by first|omega|rfl|(simp<;>omega)|grind [Y2,VH])) fl)))⟩)))))))))))))))
 exact ax 0 (ar (Zs (r2 [0] [ZQ (VH (Xi (ds.take (t-1).toNat)) k) v] ⟨v,rfl,rfl⟩ (Ze.slh _ (Ys Z7 (by rw [Y2,Zw Z9,hd1,show k=d.cons.length by omega];rfl))))))
theorem MK (ds:List Zd) (frm:Int) (to_:Int) (hl_ds:ds.length<=4294967296:=by exact ob):Zf 265 [YM ds,.i frm,.i to_] [] (Yt (.i (QP ds frm to_))):=by
 refine ZD 41 Tryz.func265 (Ya (Y1 (ab 0 (Y0 (fun fz gz m F h=>∃(k:Nat),(k<=ds.length)/\(AE frm to_ (ds.drop k) k=QP ds frm to_)/\F=sF [0,1,2] fz [(7,.i k)]/\h=gz/\m=ds.length-k) _ _ _ ⟨0,ob,ob,rfl,rfl,rfl⟩ (wk [] (Yd fl)) ?_))))
 rintro m F h ⟨k,Yf,Zi,rfl,rfl,rfl⟩
 refine X4 2 (iw (Tw ds) (ZT ((k:Int)<(ds.length:Int)) (fun Z9=>?_) (fun Z9=>?_)))
 ·refine ak (aq (ab 1 (Yg 2 ?_)))
  obtain ⟨x1,Z5⟩:=Zq ds k om
  refine Zm (Zh none (k:Int) 3 (U1 Z5)) (Z2 2 (iw (QX x1.cons) (WQ 16 [0,1,2,7] [(29,.b (((x1.cons.length:Int)==0)&&(x1.frm==frm)))] (fun gz=>gz) ?_ (fun hj1=>?_))))
  ·refine XM [0,1,2,7] [(38,.b ((((x1.cons.length:Int)==0)&&(x1.frm==frm))&&(x1.to_==to_)))] (fun gz=>gz) ?_ ?_
   ·refine Z2 1 (ib (b:=(((x1.cons.length:Int)==0)&&(x1.frm==frm))) 30 (fun Zb=>?_) (fun Zb=>?_))
    ·have ZX:((x1.cons.length:Int)=0)/\(x1.frm=frm):=((Xv Zz Zz)).1 Zb
     exact Z2 2 (Zm (Zh none (k:Int) 3 (U1 Z5)) (Z1 (wk [] (ZM (x1.to_==to_) Zb fl))))
    have Y9:¬(((x1.cons.length:Int)=0)/\(x1.frm=frm)):=YS (Xv Zz Zz) Zb
    exact Z1 (wk [] (ZM false Zb fl))
   refine ac ((((x1.cons.length:Int)==0)&&(x1.frm==frm))&&(x1.to_==to_)) (p:=(((x1.cons.length:Int)=0)/\(x1.frm=frm))/\(x1.to_=to_)) (Xv (Xv Zz Zz) Zz) (fun Zg=>?_) (fun Zg=>?_)
   ·refine Yg 1 (ZG k (Z1 ?_))
    rw [Yo Z5] at Zi
    exact ZK (Y3 (.i (k+1:Nat)) (li (by clear Z5;first|rfl|omega|grind [AE])))
   refine ak (az (Z2 1 (ZG k (Z1 ?_))))
   have hdr:=Yo Z5
   exact ZI ⟨k+1,ob,(by rw [hdr] at Zi;clear hdr Z5;grind [AE]),rfl,rfl,rfl⟩ (wk [] (ZL k fl))
  refine Z2 2 (ib (b:=((x1.cons.length:Int)==0)) 21 (fun ZP=>?_) (fun ZP=>?_))
  ·have YL:(x1.cons.length:Int)=0:=(Zz).1 ZP
   exact Z2 2 (Zm (Zh none (k:Int) 3 (U1 Z5)) (Z2 5 (Xm (wk [] (ZM (x1.frm==frm) ZP fl)) hj1)))
  have YX:¬((x1.cons.length:Int)=0):=YS Zz ZP
  exact Z2 8 (Xm (wk [] (ZM false ZP fl)) hj1)
 refine ax 0 (Ya ?_)
 try rw [Xz (xs:=ds) (k:=k) om] at Zi
 exact ZK (Y3 (.i (-1)) (li (by first|rfl|omega|grind [AE])))
theorem Cj (ds:List Zd) (t:Int) (hd:Wh ds:=by exact ob):Zf 216 [YM ds,.i t] [] (Yt (.b (WX ds t))):=by
 have hdn:=hd.len
 refine ZD 19 Tryz.func216 (Ya (Yg 2 (iw (Tw ds) (Zu [] (Ub t 1 (ds.length:Int)) (Z2 1 (ib (b:=(decide (1<=t/\t<=(ds.length:Int)))) 9 (fun Zb=>?_) (fun Zb=>?_)))))))
 ·have ZX:1<=t/\t<=(ds.length:Int):=(dq).1 Zb
  refine Z2 2 (ia ((t-1)) ((t)-(1)) ?_)
  obtain ⟨x1,Z5⟩:=Zq ds ((t-1).toNat) om
  exact Zm (Zh none (t-1) 3 (U1 Z5)) (Z2 2 (iw (QX x1.cons) (Zs (Y3 (.b ((x1.cons.length:Int)==0)) (lb (by first|omega|rfl|(rw [IM ZX Z5])|exact IL Y9))))))
 have Y9:¬(1<=t/\t<=(ds.length:Int)):=YS dq Zb
 exact Zs (Y3 (.b false) (lb (by first|omega|rfl|(rw [IM ZX Z5])|exact IL Y9)))
theorem TI (xs:LI) (ys:LI) (hl:xs.length+ys.length<=4294967296:=by exact ob):Zf 264 [Z6 xs,Z6 ys] [] (fun r h=>∃(v:Value),r=ZQ (xs++ys) v/\h=[.tail v 1]):=by
 refine ZD 9 Tryz.func264 (Ya (Yg 1 (ic [] (Vr xs) ?_)))
 rintro _ _ ⟨v1,rfl,rfl⟩
 exact Z2 1 (ip 0 (Z7 (xs++ys)) (Z7 xs) (Z7 ys) v1 none 1 (Yw _) (Yw _) (XT _) (by simp<;>omega) (by simp [XR,Z7]) fun v2=>Zs (r1 [0] ⟨v2,rfl,rfl⟩))
theorem MI (ds:List Zd) (xs:LI) (hl_ds:ds.length<=4294967296:=by exact ob) (hl_xs:xs.length<=4294967296:=by exact ob):Zf 223 [YM ds,Z6 xs] [] (Yt (.b (VY ds.length xs))):=by
 refine ZD 20 Tryz.func223 (Ya (Y1 (ab 0 (Y0 (fun fz gz m F h=>∃(k:Nat),(k<=xs.length)/\(VY ds.length (xs.drop k)=VY ds.length xs)/\F=sF [0,1] fz [(5,.i k)]/\h=gz/\m=xs.length-k) _ _ _ ⟨0,ob,ob,rfl,rfl,rfl⟩ (wk [] (Yd fl)) ?_))))
 rintro m F h ⟨k,Yf,Zi,rfl,rfl,rfl⟩
 refine X4 2 (iw (Ye xs) (ZT ((k:Int)<(xs.length:Int)) (fun Z9=>?_) (fun Z9=>?_)))
 ·refine ak (aq (ab 1 (Yg 2 ?_)))
  obtain ⟨x1,Z5⟩:=Zq xs k om
  refine Zm (Zh none (k:Int) 1 (ZZ Z5)) (Z2 2 (iw (Tw ds) (Zu [] (Ub x1 0 (ds.length:Int)) (YR (!(decide (0<=x1/\x1<=(ds.length:Int)))) (p:=¬(0<=x1/\x1<=(ds.length:Int))) (Xh dq) (fun Zg=>?_) (fun Zg=>?_)))))
  ·refine Ya ?_
   rw [Yo Z5] at Zi
   exact ZK (Y3 (.b false) (lb (by clear Z5;first|rfl|omega|grind [VY])))
  refine ak (az (Z2 1 (ZG k (Z1 ?_))))
  have hdr:=Yo Z5
  exact ZI ⟨k+1,ob,(by rw [hdr] at Zi;clear hdr Z5;grind [VY]),rfl,rfl,rfl⟩ (wk [] (ZL k fl))
 refine ax 0 (Ya ?_)
 try rw [Xz (xs:=xs) (k:=k) om] at Zi
 exact ZK (Y3 (.b true) (lb (by first|rfl|omega|grind [VY])))
end Go.Abs
