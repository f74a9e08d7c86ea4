/-
  A part of the proof of FnUsesOfUptoSaid (see the last file): no condition.
-/
import Derived.Test.YtjmahledcmocoaaGreatUsoA
import Derived.Test.YtjmahledcmocoaaGreatRows
import Derived.Deep.Slices
import Derived.ChangeArms
import Derived.Lib.SlicesCompact
import Derived.Test.YtjmahledcmocoaaGreatProg
set_option linter.all false
set_option linter.unusedVariables false
set_option linter.unusedSimpArgs false
set_option linter.unusedSectionVars false
set_option maxRecDepth 10000
set_option maxHeartbeats 4000000
section
namespace Go.Abs
theorem Yj.rgrow {w:World} {G:ZY} {h2:List Res} {g len len' cap k:Nat} {ls ls':List AV} (hh:Yj w G (.row (.slice (some ⟨g,0,none⟩) len cap) k ls::h2)) {cs cs':Array Value} {e:TypeId}
  (hb:w.heap[g]? = some (.cells cs e (0,0))) (X5:cs'.size=cs.size) (hle:len'<=cap) (hcap:cs.size=cap*k) (hl:ls'.length=len'*k) (hls:Yz w G ls' (cs'.toList.take (len'*k))) :
  Yj (w.setRow g cs') G (.row (.slice (some ⟨g,0,none⟩) len' cap) k ls'::h2) /\
   YO w G (.row (.slice (some ⟨g,0,none⟩) len cap) k ls::h2) (w.setRow g cs') G (.row (.slice (some ⟨g,0,none⟩) len' cap) k ls'::h2):=by
 have hmem:Res.row (.slice (some ⟨g,0,none⟩) len cap) k ls∈Res.row (.slice (some ⟨g,0,none⟩) len cap) k ls::h2:=YV ..
 have hA:WZ G w (w.setRow g cs') G:=⟨fun c j hg=>by
  have hne:c≠g:=fun he=>hh.prot _ hmem c j he hg
  simp [World.cell?,WQ w g c cs' hne],fun _ _ h=>h⟩
 have e1:YO w G [.row (.slice (some ⟨g,0,none⟩) len cap) k ls] (w.setRow g cs') G [.row (.slice (some ⟨g,0,none⟩) len' cap) k ls']:=by
  refine ⟨rfl,rfl,rfl,by simp [World.setRow],fun _ _ h=>h,?_,fun _ _ _ h=>.inl h,?_⟩
  ·intro c hc
   by_cases hcb:c=g
   ·subst hcb
    exact .inr ⟨cs,cs',e,(0,0),hb,setRow_heap w c cs cs' e (0,0) hb,X5,fun j hj=>absurd ⟨_,YV ..,rfl⟩ hj⟩
   ·exact .inl (WQ w g c cs' hcb)
  ·rintro c j _ ⟨r,hr,hf⟩
   rw [Xx.1 hr] at hf
   exact ⟨_,YV ..,hf⟩
 have e2:Yj (w.setRow g cs') G [.row (.slice (some ⟨g,0,none⟩) len' cap) k ls']:=by
  refine ⟨fun r hr=>?_,JK _ _,fun r hr c j hf hg=>?_,fun c j hg=>?_⟩
  ·rw [Xx.1 hr]
   exact .inr ⟨g,len',cap,cs',e,rfl,setRow_heap w g cs cs' e (0,0) hb,hle,X5.trans hcap,hl,hls.mono hA⟩
  ·rw [Xx.1 hr] at hf
   exact hh.prot _ hmem c j hf hg
  ·have:=hh.lt c j hg
   simpa [World.setRow] using this
 exact Yj.frame (h:=[.row (.slice (some ⟨g,0,none⟩) len cap) k ls]) (k:=h2) hh e1 e2
section
variable {P:Program} {n:Nat} {ops:Array Oper} {k:Nat} {F:Fr} {h2:List Res}
theorem Lu {K:Fr->List Res->Prop} {v:Hd} {sz m:Nat} {ls xs:List AV} {hx:Option Value} (hd:WU n (Zz ops k)=true) (ha:Vz P ops F k=some (.val v.v,.sl xs hx,sz))
  (hxs:∀y∈xs,y.leaves.length=sz) (hone:(Zb xs).all AV.one=true) (hm0:ls.length=m*sz) (hk0:0<sz) (hne:xs≠[]) (hbound:m+xs.length<=4294967296)
  (hK:∀v':Hd,K (F.put (Zz ops k).dst (.val v'.v)) (.row v'.v sz (ls++Zb xs)::h2)):Wb P n (Zz ops k) F (.row v.v sz ls::h2) K:=by
 unfold Vz at ha
 generalize hoo:Zz ops k=o at ha hd hK
 obtain ⟨dst,op,type,pos,after,guard⟩:=o
 cases op<;>simp only at ha<;>try (cases ha)
 rename_i c
 obtain ⟨callee,args,tys⟩:=c
 simp only at ha
 split at ha
 case h_2=>cases ha
 rename_i s x t t' hargs htys
 split at ha
 case h_2=>cases ha
 rename_i e htt ht
 have:=VU htt
 subst this
 split at ha
 case h_2=>cases ha
 rename_i i hinfo
 split at ha
 case h_2=>cases ha
 rename_i z hz
 split at ha
 case h_2=>cases ha
 rename_i hb
 simp only [Wm] at hb
 simp only [XP,Prod.mk.injEq] at ha
 obtain ⟨h3,h4,hk1⟩:=ha
 have e1:args=#[s,x]:=by rw [<-Ud (xs:=args),hargs]
 have e2:tys=#[t,t]:=by rw [<-Ud (xs:=tys),htys]
 subst e1;subst e2
 have hzs:z.cells.size=sz:=by rw [VU hb.1,hk1]
 have hby:=Wv hb.2
 have hfl:=Uq xs hxs
 intro Q w G a hF hh
 have v1:=hF.ev s
 have v2:=hF.ev x
 rw [h3] at v1
 rw [h4] at v2
 have v1:=v1.val_inv
 have v2:=v2.forget
 have finish:∀(v':Hd) w',(Builtin.append_ #[t,t] type #[v.v,a.eval x]).run P w=.ok v'.v w'->Yj w' G (.row v'.v sz (ls++Zb xs)::h2)->YO w G (.row v.v sz ls::h2) w' G (.row v'.v sz (ls++Zb xs)::h2) ->
   ({ dst:=dst,op:=.call { callee:=.builtin .append,args:=#[s,x],argTypes:=#[t,t] },type:=type,pos:=pos,after:=after,guard:=guard }:Oper).wp P a w
    (fun a' w'=>∃F' h' G',K F' h'/\FR w' G' n F' a'/\Yj w' G' h'/\YO w G (.row v.v sz ls::h2) w' G' h') Q:=by
  intro v' w' hr j1 j2
  have hrun:(execOp a.eval { dst:=dst,op:=.call { callee:=.builtin .append,args:=#[s,x],argTypes:=#[t,t] },type:=type,pos:=pos,after:=after,guard:=guard }).run P w=.ok (.value v'.v) w':=by
   simp only [execOp,resolve,invoke,builtin,Sem.run_bind,Sem.run_pure,Result.andThen_ok,Cz,Ue,Cy,v1,hr]
  unfold Oper.wp
  rw [hrun]
  exact ⟨_,_,G,hK v',(hF.mono (j2.agree hh)).put (Uy hd) .val,j1,j2⟩
 have hrow0:=hh.ok (.row v.v sz ls) (YV ..)
 have hsub2:∀r:Res,List.Sublist (r::h2) (r::.row v.v sz ls::h2):=fun r=>List.Sublist.cons_cons _ (JL _ _)
 have grown:∀(olds news:List Value) (old:Nat),Yz w G ls olds->Yz w G (Zb xs) news ->
   Yj (w.drew.alloc (.cells (olds.toArray++news.toArray++Builtin.zeroCells z.cells (grownCap w (m+xs.length) old e-(m+xs.length))) e)) G
    (.row (.slice (some ⟨w.heap.size,0,none⟩) (m+xs.length) (grownCap w (m+xs.length) old e)) sz (ls++Zb xs)::h2) /\
   YO w G (.row v.v sz ls::h2) (w.drew.alloc (.cells (olds.toArray++news.toArray++Builtin.zeroCells z.cells (grownCap w (m+xs.length) old e-(m+xs.length))) e)) G
    (.row (.slice (some ⟨w.heap.size,0,none⟩) (m+xs.length) (grownCap w (m+xs.length) old e)) sz (ls++Zb xs)::h2):=by
  intro olds news old ho hn
  have YY:=grownCap_ge w (m+xs.length) old e
  have hol:=ho.length
  have hnl:=hn.length
  have hlen:(ls++Zb xs).length=(m+xs.length)*sz:=by rw [Yk,hm0,hfl,T5]
  obtain ⟨j1,j2⟩:=hh.drew.alloc_rrow (olds.toArray++news.toArray++Builtin.zeroCells z.cells (grownCap w (m+xs.length) old e-(m+xs.length))) e
   (ls:=ls++Zb xs) (len:=m+xs.length) (cap:=grownCap w (m+xs.length) old e) (k:=sz) YY
   (by
    have q2:(grownCap w (m+xs.length) old e-(m+xs.length))*sz=grownCap w (m+xs.length) old e*sz-(m+xs.length)*sz:=Nat.sub_mul ..
    have q3:(m+xs.length)*sz<=grownCap w (m+xs.length) old e*sz:=Tq _ YY
    have q4:(m+xs.length)*sz=m*sz+xs.length*sz:=T5 ..
    simp only [Array.size_append,Bp,size_zeroCells,hzs,hol,hnl,hm0,hfl]
    omega) hlen
   (by
    have:(olds.toArray++news.toArray++Builtin.zeroCells z.cells (grownCap w (m+xs.length) old e-(m+xs.length))).toList.take ((m+xs.length)*sz)=olds++news:=by
     simp only [E8]
     rw [<-hlen,Yk,<-hol,<-hnl,<-Yk]
     exact Kk
    rw [this]
    exact (ho.append hn).mono (Je w G))
  exact ⟨j1.sub (hsub2 _),(YO.drew w G _).trans (j2.sub' (hsub2 _))⟩
 generalize hax:a.eval x=ax at v2 finish
 cases v2 with
 | nil _=>exact absurd rfl hne
 | sl hq hcc hm=>
  rename_i b o' k' c
  have hpos:0<xs.length:=Eb.2 hne
  have hfm:=hm.flat_mem
  obtain ⟨news,hn,hnc⟩:=hfm.cells
  have hnl:news.length=xs.length*i.size:=by rw [hn.length,hfl,hk1]
  have hone':=hn.one_cells hone
  have hnews:∀j u,news[j]? = some u->w.cell? ((⟨b,o',none⟩:Addr).add j)=some u:=fun j u hj=>by rw [Q8];exact (hnc j u hj).1
  have hbb:(m+xs.length)*i.bytes<=140737488355328:=by
   have:=Nat.mul_le_mul hbound hby
   omega
  rcases hrow0 with ⟨hv0,hl0⟩|⟨g,len,cap,cur,el,hv0,hrow,hlc,hcur,hll,hcells⟩
  ·subst hl0
   have hm1:m=0:=by
    have:m*sz=0:=by simpa using hm0.symm
    rcases Nat.mul_eq_zero.1 this with h|h
    ·exact h
    ·omega
   subst hm1
   rw [hv0] at finish hh ⊢
   have hr:=run_append_nil (P:=P) w t type e i z ht hinfo hz ⟨b,o',none⟩ xs.length c news hnl hnews hpos om (by simp only [Wt] at hbb;omega)
   obtain ⟨j1,j2⟩:=grown [] news 0 .nil hn
   simp only [Wt,Array.empty_append,Ki] at j1 j2
   rw [hv0] at j2
   exact finish ⟨some ⟨w.heap.size,0,none⟩,xs.length,grownCap w xs.length 0 e⟩ _ hr (by simpa using j1) (by simpa using j2)
  ·have hlm:len=m:=Ec hk0 (hll.symm.trans hm0)
   subst hlm
   rw [hv0] at finish hh ⊢
   have q5:len*sz<=cap*sz:=Tq _ hlc
   have h1:(cur.toList.take (len*sz)).length=len*sz:=by rw [Wq,Qq,hcur,V8 q5]
   have hcl:cur.toList.length=cap*sz:=by rw [Qq,hcur]
   by_cases hroom:len+xs.length<=cap
   ·have q1:(len+xs.length)*sz<=cap*sz:=Tq _ hroom
    have q2:(len+xs.length)*sz=len*sz+xs.length*sz:=T5 ..
    have hfit:len*i.size+news.length<=cur.size:=by rw [hnl,hcur,hk1];omega
    have hr:=DK (P:=P) w t type e el i ht hinfo g len cap cur hrow ⟨b,o',none⟩ xs.length c news hnl hnews hone' hroom hfit
    rw [hk1] at hr
    have hnl':news.length=xs.length*sz:=by rw [hnl,hk1]
    obtain ⟨j1,j2⟩:=hh.rgrow (ls':=ls++Zb xs) (len':=len+xs.length) (cs':=(cur.toList.take (len*sz)++news++cur.toList.drop (len*sz+news.length)).toArray) hrow
     (by simp only [Bp,Yk,h1,hnl',Kh,hcl,hcur];omega) hroom hcur (by rw [Yk,hll,hfl,q2]) (by
      have:(cur.toList.take (len*sz)++news++cur.toList.drop (len*sz+news.length)).toArray.toList.take ((len+xs.length)*sz)=cur.toList.take (len*sz)++news:=by
       rw [Bq,q2,<-hnl']
       conv=>lhs;arg 1;rw [show len*sz+news.length=(cur.toList.take (len*sz)++news).length from by rw [Yk,h1]]
       exact Kk
      rw [this]
      exact hcells.append hn)
    exact finish ⟨some ⟨g,0,none⟩,len+xs.length,cap⟩ _ hr j1 j2
   ·have hr:=run_append_grow (P:=P) w t type e i z ht hinfo hz ⟨g,0,none⟩ len cap (cur.toList.take (len*sz)) (by rw [hk1];exact h1) (fun j u hj=>by
     rw [Q8,cell_of_row w g _ cur el (0,0) hrow]
     rw [T4] at hj
     split at hj
     ·simpa using hj
     ·cases hj) ⟨b,o',none⟩ xs.length c news hnl hnews om om (growslice_fits om hbb)
    obtain ⟨j1,j2⟩:=grown (cur.toList.take (len*sz)) news cap hcells hn
    rw [hv0] at j2
    exact finish ⟨some ⟨w.heap.size,0,none⟩,len+xs.length,grownCap w (len+xs.length) cap e⟩ _ hr j1 j2
end
section
variable {P:Program} {n:Nat} {ops:Array Oper} {B:Fr->List Res->Prop} {k:Nat} {F:Fr} {h:List Res}
theorem Dg (j m:Nat) (v:Hd) (sz:Nat) (ls xs:List AV) (hx:Option Value) (hm0:ls.length=m*sz) (hxs:∀y∈xs,y.leaves.length=sz) (hone:(Zb xs).all AV.one=true) (hne:xs≠[]) (hbound:m+xs.length<=4294967296)
  (hK:∀v':Hd,SI P n ops B (k+1) (F.put (Zz ops k).dst (.h v')) (rK v' sz (ls++Zb xs)::Xn [j] h)) (hk0:0<sz:=by omega)
  (hk:YU n ops F k=true:=by kernel_rfl) (ha:Vz P ops F k=some (.h v,.sl xs hx,sz):=by kernel_rfl) (hp:XU [j] h=some [rK v sz ls]:=by kernel_rfl):SI P n ops B k F h:=
 Td hk (Wb.perm (Vo (WG hp)) (Lu (Vm hk).2.1 ha hxs hone hm0 hk0 hne hbound hK))
end
end Go.Abs
namespace Go.Abs
section
variable {P:Program} {n:Nat} {ops:Array Oper} {B:Fr->List Res->Prop} {T:List (Nat × List Nat)} {fuel:Nat} {done:List Nat} {F:Fr} {h:List Res}
theorem EF (i j m:Nat) (js bs:List Nat) (v:Hd) (sz:Nat) (ls xs:List AV) (hx:Option Value) (hm0:ls.length=m*sz) (hxs:∀y∈xs,y.leaves.length=sz) (hone:(Zb xs).all AV.one=true) (hne:xs≠[]) (hbound:m+xs.length<=4294967296)
  (hK:∀v':Hd,YJ P n ops B (T.filter fun t=>!Ws ops i t.1) fuel (done++[i]) (F.put (Zz ops i).dst (.h v')) (rK v' sz (ls++Zb xs)::Xn [j] h)) (hk0:0<sz:=by omega) (hk:YU n ops F i=true:=by kernel_rfl)
  (ha:Vz P ops F i=some (.h v,.sl xs hx,sz):=by kernel_rfl) (hp:XU [j] h=some [rK v sz ls]:=by kernel_rfl) (ho:Ve ops i T=bs:=by kernel_rfl)
  (hj:js.map (fun q=>(W9 (Xn [j] h))[q]?)=bs.map some:=by kernel_rfl):WK P n ops B T fuel done F h i:=
 Qd [j] js bs hk (WG hp) ho hj (Lu (h2:=[]) (Vm hk).2.1 ha hxs hone hm0 hk0 hne hbound hK)
end
theorem W3.form {P:Program} {f:FuncId} {as1:List AV} {h0:List Res} {T:Hd->AV} {kk m:Nat} {ls:List AV} {hs:List Res} (H:W3 P f as1 h0 (fun r h=>∃v:Hd,r=T v/\h=rK v kk ls::hs)) (hm:ls.length=m*kk) (hk:0<kk) (h1:0<m) :
  W3 P f as1 h0 (fun r h=>∃(g c:Nat),r=T ⟨some ⟨g,0,none⟩,m,c⟩/\h=rK ⟨some ⟨g,0,none⟩,m,c⟩ kk ls::hs):=by
 intro w G vs hv hh
 refine (H w G vs hv hh).mono ?_
 rintro e w' ⟨u,r,h',G',he,⟨v,rfl,rfl⟩,hr,hh',hx⟩
 obtain ⟨g,c,rfl⟩:=M9 (hh'.ok _ (YV ..)) hm hk h1
 exact ⟨u,_,_,G',he,⟨g,c,rfl,rfl⟩,hr,hh',hx⟩
end Go.Abs
namespace Go.Abs
section
variable {h:List Res}
theorem Z51 (j i p:Nat) {u:Value} {kk b:Nat} {es ls:List AV} (hp:XU [j,i] h=some [.row u kk (Zb es),.obj b ls]) (hes:∀y∈es,y.leaves.length=kk) (hk:0<kk) (hl:ls[p]? = some (.val u)) :
  UL h (.obj b (ls.set p (.sl es (some u)))::.tail u kk::Xn [j,i] h):=by
 intro w G hh
 have hp':=Vo (WG hp)
 have hh':=hh.perm hp'
 obtain ⟨G',h1,h2',h3⟩:=Bd (h2:=.obj b ls::Xn [j,i] h) hh' hes hk
 have e:=h2'.perm hp'.symm (T2 _)
 have h1:Yj w G' (.tail u kk::.obj b ls::Xn [j,i] h):=h1
 have perm:(Res.tail u kk::.obj b ls::Xn [j,i] h).Perm (.obj b ls::.tail u kk::Xn [j,i] h):=List.Perm.swap ..
 have h4:=h1.perm perm
 have e4:=e.perm (T2 _) perm
 have hset:∀{w:World} {G:ZY},RV w G (.sl es (some u)) u->Ts w G (.obj b ls)->Ts w G (.obj b (ls.set p (.sl es (some u)))):=by
  intro w G hu hr
  obtain ⟨cs,el,k1,k5⟩:=hr
  refine ⟨cs,el,k1,?_⟩
  obtain ⟨c,c1,c2⟩:=k5.get p _ hl
  have:=c2.val_inv
  subst this
  have h6:=k5.set p hu
  rwa [show cs.toList.set p c=cs.toList from by
   apply List.ext_getElem?
   intro q
   rw [List.getElem?_set]
   split
   ·rename_i hq;subst hq;split
    ·exact c1.symm
    ·rename_i hq2;rw [GN om]
   ·rfl] at h6
 refine ⟨G',⟨fun r hr=>?_,?_,fun r hr=>?_,h4.lt⟩,⟨e4.os,e4.tape,e4.output,e4.size,e4.sub,e4.same,e4.newG,fun b' o hb ⟨r,hr,hf⟩=>e4.newfp b' o hb ?_⟩⟩
 ·rcases Yq.1 hr with rfl|hr
  ·exact hset h3 (h4.ok _ (YV ..))
  ·exact h4.ok r (Xo _ hr)
 ·have:=Wa.1 h4.apart
  exact Wa.2 ⟨fun r hr b' o f1 f2=>this.1 r hr b' o f1 f2,this.2⟩
 ·rcases Yq.1 hr with rfl|hr
  ·exact fun b' o f1 hg=>h4.prot (.obj b ls) (YV ..) b' o f1 hg
  ·exact h4.prot r (Xo _ hr)
 ·rcases Yq.1 hr with rfl|hr
  ·exact ⟨.obj b ls,YV ..,hf⟩
  ·exact ⟨r,Xo _ hr,hf⟩
theorem Uc (j i p:Nat) (u:Value) (kk b:Nat) (es ls:List AV) (hes:∀y∈es,y.leaves.length=kk) (hl:ls[p]? = some (.val u)) (hk:0<kk:=by omega) (hp:XU [j,i] h=some [.row u kk (Zb es),.obj b ls]:=by kernel_rfl) :
  UL h (.obj b (ls.set p (.sl es (some u)))::.tail u kk::Xn [j,i] h):=Z51 j i p hp hes hk hl
end
end Go.Abs
namespace Go.Abs
section
variable {P:Program} {n:Nat} {ops:Array Oper} {k:Nat} {F:Fr} {h:List Res}
theorem Z4s (j:Nat) {g l c m kk:Nat} {ls:List AV} (hi:Bh P ops F k=some (.val (.slice (some ⟨g,0,none⟩) l c),(m:Int))) (hj:h[j]? = some (.row (.slice (some ⟨g,0,none⟩) l c) kk ls)) (hle:m<=l) :
  XM P (Zz ops k) F h [] (.val (.slice (some ⟨g,0,none⟩) m c)):=by
 unfold Bh at hi
 generalize hoo:Zz ops k=o at hi
 obtain ⟨dst,op,type,pos,after,guard⟩:=o
 cases op<;>simp only at hi<;>try (cases hi)
 rename_i t x lo hi' mx
 cases lo with
 | some _=>simp at hi
 | none=>
  cases hi' with
  | none=>simp at hi
  | some y=>
   cases mx with
   | some _=>simp at hi
   | none=>
    simp only at hi
    split at hi
    ·rename_i e ht
     split at hi
     ·rename_i inf hinf
      split at hi
      ·rename_i ik m' hm
       simp only [XP,Prod.mk.injEq] at hi
       obtain ⟨hx,rfl⟩:=hi
       intro n w G a hF hh
       have v1:=hF.ev x
       rw [hx] at v1
       have v1:=v1.val_inv
       have v2:=hF.ev y
       rw [hm] at v2
       have v2:=v2.val_inv
       have hcap:l<=c:=by
        rcases hh.ok _ (ZW hj) with ⟨h0,_⟩|⟨g',l',c',cur,el,h0,_,hc,_⟩
        ·cases h0
        ·cases h0;exact hc
       refine ⟨_,.val,fun w' _ _=>?_⟩
       simp only [execOp,v1,v2,Br,Option.map_none]
       refine WP ?_
       simp only [Instr.sliceAt,Sem.run_bind,Vw ht,Result.andThen_ok,Instr.slice]
       have hmm:(Instr.sliceBounds true l c none (some (.int ik (m:Int))) none).run P w'=.ok (0,m,c) w':=by
        have ZU:=fun q=>Bf (P:=P) (c:=q) (v:=.int ik (m:Int)) (y:=c) rfl om om w'
        simp [Instr.sliceBounds,ZU]
       rw [hmm]
       have hz:∀a:Addr,a.add 0=a:=fun a=>by simp [Addr.add]
       simp only [Result.andThen_ok,Tj hinf,Nat.zero_mul,hz]
       by_cases h0:c=0<;>simp [h0]
      ·cases hi
     ·cases hi
    ·cases hi
theorem Fx (j g l c m kk:Nat) (ls:List AV) (hle:m<=l:=by omega) (hi:Bh P ops F k=some (.val (.slice (some ⟨g,0,none⟩) l c),(m:Int)):=by kernel_rfl) (hj:h[j]? = some (.row (.slice (some ⟨g,0,none⟩) l c) kk ls):=by kernel_rfl) :
  XM P (Zz ops k) F h [] (.val (.slice (some ⟨g,0,none⟩) m c)):=Z4s j hi hj hle
variable {B:Fr->List Res->Prop}
end
end Go.Abs
end
namespace Go.Abs
theorem Yn {α:Type} {xs:List α} {k:Nat} {x:α} (h:xs[k]? = some x):xs.drop k=x::xs.drop (k+1):=by
 have hk:=(XC.1 h).1
 rw [Nw hk]
 congr 1
 rw [Q4 hk] at h
 exact Ax h
theorem Xz {α:Type} {xs:List α} {k:Nat} (h:xs.length<=k):xs.drop k=[]:=E9 h
theorem Vq {α:Type} {xs:List α} {k:Nat} {x:α} (h:xs[k]? = some x):xs.take (k+1)=xs.take k++[x]:=by
 rw [List.take_add_one,h];rfl
def Xf:List Zc->Nat
 | []=>0
 | d::ds=>d.cons.length+Xf ds
theorem Hq (xs ys:List Zc):Xf (xs++ys)=Xf xs+Xf ys:=by
 induction xs with
 | nil=>simp [Xf]
 | cons d ds ih=>simp [Xf,ih];omega
structure Wg (ds:List Zc):Prop where
 len:ds.length<=4
 cons:∀d∈ds,d.cons.length<=3
 fields:∀d∈ds,∀c∈d.cons,c.fields.length<=3
theorem OP {ds:List Zc} {m:Nat} (h:∀d∈ds,d.cons.length<=m):Xf ds<=ds.length*m:=by
 induction ds with
 | nil=>simp [Xf]
 | cons d ds ih=>
  have h1:=h d (by simp)
  have h2:=ih (fun x hx=>h x (by simp [hx]))
  simp only [Xf,YD,T5];omega
theorem Wg.sum {ds:List Zc} (h:Wg ds):Xf ds<=12:=by
 have:=OP h.cons
 have:=h.len
 have:ds.length*3<=4*3:=Tq 3 h.len
 omega
theorem Wg.take {ds:List Zc} (h:Wg ds) (k:Nat):Wg (ds.take k):=
 ⟨by have:=h.len;simp;omega,fun d hd=>h.cons d (Tp hd),fun d hd=>h.fields d (Tp hd)⟩
theorem Wg.cons_at {ds:List Zc} (h:Wg ds) {k:Nat} {d:Zc} (hd:ds[k]? = some d):d.cons.length<=3:=h.cons d (ZW hd)
theorem Wg.fields_at {ds:List Zc} (h:Wg ds) {k j:Nat} {d:Zc} {c:Y6} (hd:ds[k]? = some d) (hc:d.cons[j]? = some c):c.fields.length<=3:=
 h.fields d (ZW hd) c (ZW hc)
def Ku (c:Int):List Zc->Nat->Nat->Int × LI
 | [],_,_=>(-1,[])
 | d::ds,i,first=>
  if (first:Int)<=c/\c<=((first+d.cons.length:Nat):Int)-1 then ((i:Int)+1,(d.cons[(c-first).toNat]?.map (·.fields)).getD []) else Ku c ds (i+1) (first+d.cons.length)
def Vb (ds:List Zc) (c:Int):Int:=(Ku c ds 0 0).1
def Y5 (ds:List Zc) (c:Int):LI:=(Ku c ds 0 0).2
theorem ED {c:Int}:∀{ds:List Zc} {i first:Nat},(Ku c ds i first=(-1,[]) ∨
  ∃k d x,ds[k]? = some d/\(first+Xf (ds.take k):Int)<=c/\c<first+Xf (ds.take k)+d.cons.length/\d.cons[(c-(first+Xf (ds.take k))).toNat]? = some x/\Ku c ds i first=((i:Int)+k+1,x.fields))
 | [],_,_=>.inl rfl
 | d::ds,i,first=>by
  rw [Ku]
  split
  ·rename_i h
   have hlt:(c-first).toNat<d.cons.length:=by omega
   refine .inr ⟨0,d,d.cons[(c-first).toNat],rfl,by simp [Xf];omega,by simp [Xf];omega,?_,?_⟩
   ·simp [Xf]
   ·rw [Q4 hlt];simp
  ·rcases ED (c:=c) (ds:=ds) (i:=i+1) (first:=first+d.cons.length) with h|⟨k,e,x,h1,h2,h3,h4,h5⟩
   ·exact .inl h
   ·refine .inr ⟨k+1,e,x,by simpa using h1,by simp [Xf];omega,by simp [Xf];omega,?_,?_⟩
    ·rw [<-h4];congr 3;simp [Xf];omega
    ·rw [h5];congr 1;omega
theorem Hs {ds:List Zc} {c:Int} (h:¬Vb ds c<1) :
  ∃k d x,ds[k]? = some d/\(Xf (ds.take k):Int)<=c/\d.cons[(c-Xf (ds.take k)).toNat]? = some x/\Vb ds c=(k:Int)+1/\Y5 ds c=x.fields:=by
 rcases ED (c:=c) (ds:=ds) (i:=0) (first:=0) with h1|⟨k,d,x,h1,h2,_,h4,h5⟩
 ·simp [Vb,h1] at h
 ·exact ⟨k,d,x,h1,by simpa using h2,by simpa using h4,by simp [Vb,h5],by simp [Y5,h5]⟩
theorem Hr {ds:List Zc} {c:Int} (h:Vb ds c<1):Y5 ds c=[]/\Vb ds c=-1:=by
 rcases ED (c:=c) (ds:=ds) (i:=0) (first:=0) with h1|⟨k,d,x,h1,h2,_,h4,h5⟩
 ·simp [Y5,Vb,h1]
 ·simp [Vb,h5] at h;omega
def VE (first:Int):Nat->LI
 | 0=>[]
 | n+1=>first::VE (first+1) n
theorem Z16 (first:Int) (n:Nat):VE first (n+1)=VE first n++[first+n]:=by
 induction n generalizing first with
 | zero=>simp [VE]
 | succ n ih=>rw [VE,ih (first+1),VE];simp;omega
@[simp] theorem Z15 (first:Int) (n:Nat):(VE first n).length=n:=by
 induction n generalizing first with
 | zero=>rfl
 | succ n ih=>simp [VE,ih]
def Y2 (ds:List Zc) (t:Int):LI:=
 if 1<=t/\t<=ds.length then VE (Xf (ds.take (t-1).toNat)) (((ds[(t-1).toNat]?).map (·.cons.length)).getD 0) else []
def AC (frm to_:Int):List Zc->Nat->Int
 | [],_=>-1
 | d::ds,i=>if d.cons.length=0/\d.frm=frm/\d.to_=to_ then (i:Int)+1 else AC frm to_ ds (i+1)
def QN (ds:List Zc) (frm to_:Int):Int:=AC frm to_ ds 0
def WW (ds:List Zc) (t:Int):Bool:=decide (1<=t/\t<=ds.length)&&((ds[(t-1).toNat]?).map fun d=>decide (d.cons.length=0)).getD false
theorem II {ds:List Zc} {t:Int} {x:Zc} (h:1<=t/\t<=ds.length) (hx:ds[(t-1).toNat]? = some x):((x.cons.length:Int)==0)=WW ds t:=by
 rw [WW,hx,Xl];simp [h]
theorem IH {ds:List Zc} {t:Int} (h:¬(1<=t/\t<=ds.length)):false=WW ds t:=by
 rw [WW,Xl];simp only [Bool.false_eq_true,Wm,decide_eq_true_eq,h,false_and]
def VW (m:Nat) (xs:LI):Bool:=xs.all fun t=>decide (0<=t/\t<=m)
end Go.Abs
section
namespace Go.Abs
section
variable {h:List Res}
end
end Go.Abs
namespace Go.Abs
section
variable {P:Program} {ops:Array Oper} {k:Nat} {F:Fr} {h:List Res}
end
end Go.Abs
end
namespace Go.Abs
section
variable {P:Program} {n:Nat} {ops:Array Oper} {B:Fr->List Res->Prop} {k:Nat} {F:Fr} {h:List Res} {T:List (Nat × List Nat)} {fuel:Nat} {done:List Nat}
theorem Lv {K:Fr->List Res->Prop} {ls:List AV} {len sz:Nat} (hd:WU n (Zz ops k)=true) (ha:Ul P ops F k=some (ls,len,sz)) (hlen:ls.length=len*sz)
  (hK:∀g,K (F.put (Zz ops k).dst (.val (.slice (some ⟨g,0,none⟩) len len))) (.row (.slice (some ⟨g,0,none⟩) len len) sz ls::h)):Wb P n (Zz ops k) F h K:=by
 unfold Ul at ha
 generalize hoo:Zz ops k=q at ha hd hK
 obtain ⟨dst,op,type,pos,after,guard⟩:=q
 cases op<;>simp only at ha<;>try (cases ha)
 rename_i t ln parts
 split at ha
 case h_2=>cases ha
 rename_i e ht
 split at ha
 case h_2=>cases ha
 rename_i i hi
 split at ha
 case h_2=>cases ha
 rename_i hc
 simp only [Wm] at hc
 split at ha
 case h_2=>cases ha
 rename_i ls' hf
 simp only [XP,Prod.mk.injEq] at ha
 obtain ⟨rfl,rfl,X5⟩:=ha
 intro Q w G a hF hh
 obtain ⟨cs,h1,h2⟩:=DL hF parts ht hi rfl hc.1 hc.2 hf
 have hr:(execOp a.eval { dst:=dst,op:=.buildSlice t ln parts,type:=type,pos:=pos,after:=after,guard:=guard }).run P w =
   .ok (.value (.slice (some ⟨w.heap.size,0,none⟩) ln ln)) (w.alloc (.cells cs e)):=by
  simp only [execOp]
  exact WP h2
 unfold Oper.wp
 rw [hr]
 have hlc:=h1.length
 simp only [Qq] at hlc
 obtain ⟨j1,j2⟩:=hh.alloc_rrow cs e (ls:=ls') (len:=ln) (cap:=ln) (k:=sz) (YQ _) (by rw [hlc];exact hlen) hlen (by rw [<-hlen,<-hlc];simpa [WS] using h1)
 exact ⟨_,_,G,hK _,(hF.mono (j2.agree hh)).put (Uy hd) .val,j1,j2⟩
theorem VD (es es':List AV) (he:es=es') (len sz:Nat) (hK:∀v,SI P n ops B (k+1) (F.put (Zz ops k).dst (.sl es' (some v))) (.tail v sz::h)) (hk:YU n ops F k=true:=by kernel_rfl)
  (ha:Ul P ops F k=some (Zb es,len,sz):=by kernel_rfl) (hlen:es.length=len:=by kernel_rfl) (hall:Kq es sz=true:=by kernel_rfl):SI P n ops B k F h:=by
 subst he;exact iL es len sz hK hk ha hlen hall
theorem W5 (i:Nat) (js bs:List Nat) (es es':List AV) (he:es=es') (len sz:Nat) (hK:∀v,YJ P n ops B (T.filter fun t=>!Ws ops i t.1) fuel (done++[i]) (F.put (Zz ops i).dst (.sl es' (some v))) (.tail v sz::h))
  (hk:YU n ops F i=true:=by kernel_rfl) (ha:Ul P ops F i=some (Zb es,len,sz):=by kernel_rfl) (hlen:es.length=len:=by kernel_rfl) (hall:Kq es sz=true:=by kernel_rfl)
  (ho:Ve ops i T=bs:=by kernel_rfl) (hj:js.map (fun j=>(W9 h)[j]?)=bs.map some:=by kernel_rfl):WK P n ops B T fuel done F h i:=by
 subst he;exact dL i js bs es len sz hK hk ha hlen hall ho hj
theorem Sj (ls:List AV) (len sz:Nat) (hK:∀g,SI P n ops B (k+1) (F.put (Zz ops k).dst (.val (.slice (some ⟨g,0,none⟩) len len))) (.row (.slice (some ⟨g,0,none⟩) len len) sz ls::h)) (hlen:ls.length=len*sz:=by rfl) (hk:YU n ops F k=true:=by kernel_rfl)
  (ha:Ul P ops F k=some (ls,len,sz):=by kernel_rfl):SI P n ops B k F h:=Td hk (Lv (Vm hk).2.1 ha hlen hK)
theorem OZ (i:Nat) (js bs:List Nat) (ls:List AV) (len sz:Nat) (hK:∀g,YJ P n ops B (T.filter fun t=>!Ws ops i t.1) fuel (done++[i]) (F.put (Zz ops i).dst (.val (.slice (some ⟨g,0,none⟩) len len))) (.row (.slice (some ⟨g,0,none⟩) len len) sz ls::h)) (hlen:ls.length=len*sz:=by rfl)
  (hk:YU n ops F i=true:=by kernel_rfl) (ha:Ul P ops F i=some (ls,len,sz):=by kernel_rfl) (ho:Ve ops i T=bs:=by kernel_rfl) (hj:js.map (fun j=>(W9 h)[j]?)=bs.map some:=by kernel_rfl):WK P n ops B T fuel done F h i:=
 Qd (h1:=[]) (h2:=h) [] js bs hk rfl ho hj (Lv (Vm hk).2.1 ha hlen hK)
end
theorem W3.frz {P:Program} {f:FuncId} {as1:List AV} {h0:List Res} {E:Type} {kk:Nat} {es:E->List AV} {hs:E->List Res} {Q:E->Prop} (H:W3 P f as1 h0 (fun r h=>∃(e:E) (v:Hd),r=.h v/\h=rK v kk (Zb (es e))::hs e/\Q e)) (hes:∀e,∀y∈es e,y.leaves.length=kk) (hk:0<kk) :
  W3 P f as1 h0 (fun r h=>∃(e:E) (v:Value),r=.sl (es e) (some v)/\h=.tail v kk::hs e/\Q e):=by
 intro w G vs hv hh
 refine (H w G vs hv hh).mono ?_
 rintro e w' ⟨u,r,h',G',he,⟨x,v,rfl,rfl,hq⟩,hr,hh',hx⟩
 obtain ⟨G2,h1,h2,h3⟩:=Bd hh' (hes x) hk
 have hrv:=hr.val_inv
 subst hrv
 exact ⟨_,_,_,G2,he,⟨x,v.v,rfl,rfl,hq⟩,h3,h1,hx.trans h2⟩
theorem D7 {es:List AV} {sz k:Nat} {y:AV} (h:∀x∈es,x.leaves.length=sz) (hy:y.leaves.length=sz) (hk:k<es.length):(Zb es).take (k*sz)++y.leaves++(Zb es).drop (k*sz+y.leaves.length)=Zb (es.set k y):=by
 obtain ⟨x,hx⟩:=BN (xs:=es) (j:=k) hk
 have hxl:=h x (ZW hx)
 have e1:es=es.take k++(x::es.drop (k+1)):=by rw [<-Yn hx,Un]
 have e2:es.set k y=es.take k++(y::es.drop (k+1)):=by rw [CA,Zw hk]
 have hl:(Zb (es.take k)).length=k*sz:=by rw [Uq (k:=sz) _ (fun z hz=>h z (Tp hz)),Wq,V8 om]
 have e3:Zb es=Zb (es.take k)++(x.leaves++Zb (es.drop (k+1))):=by
  conv=>lhs;rw [e1,Ta]
  simp [Zb]
 rw [e2,Ta,e3,G7 hl (by rw [hxl,hy])]
 simp [Zb]
theorem Pp (ds:List Zc) (k:Nat) (d:Zc):YW (ds.set k d)=(YW ds).set k (Bv d):=by simp [YW,List.map_set]
theorem A5 (xs:List Zc):(Zb (YW xs)).length=xs.length*3:=by rw [Uq (k:=3) _ (KD xs)];simp
theorem D3 {ds:List Zc} {k:Nat} (d:Zc) (hk:k<ds.length):(Zb (YW ds)).take (k*3)++FD d++(Zb (YW ds)).drop (k*3+3)=Zb (YW (ds.set k d)):=by
 rw [Pp];exact D7 (y:=Bv d) (KD ds) rfl (by simpa using hk)
theorem F6 (xs ys:List Zc):Zb (YW xs)++Zb (YW ys)=Zb (YW (xs++ys)):=by rw [Po,Ta]
section
variable {P:Program} {n:Nat} {ops:Array Oper} {B:Fr->List Res->Prop} {k:Nat} {F:Fr} {h:List Res}
theorem Df (j m:Nat) {v:Hd} {kk:Nat} {ls:List AV} (hm:ls.length=m*kk) (h0:0<m) (H:∀g c',v=⟨some ⟨g,0,none⟩,m,c'⟩->SI P n ops B k F h) (hk:0<kk:=by omega) (hj:h[j]? = some (rK v kk ls):=by kernel_rfl):SI P n ops B k F h:=by
 intro Q w G a hF hh hq
 obtain ⟨g,c',e⟩:=M9 (hh.ok _ (ZW hj)) hm hk h0
 exact H g c' e Q w G a hF hh hq
end
section
variable {P:Program} {n:Nat} {ops:Array Oper} {B:Fr->List Res->Prop} {k:Nat} {F:Fr} {h:List Res}
def EE (P:Program) (ops:Array Oper) (F:Fr) (k:Nat):Option (IntKind × Int):=
 match (Zz ops k).op with
 | .convert s d x=>match P.underlying s,P.underlying d,F.ev x with
  | some (.int _),some (.int q),.val (.int _ z)=>some (q,z)
  | _,_,_=>none
 | _=>none
theorem SU (q:IntKind) (z z':Int) (e:q.wrap z=z') (hc:EE P ops F k=some (q,z):=by kernel_rfl):XM P (Zz ops k) F h [] (.val (.int q z')):=by
 unfold EE at hc
 generalize hoo:Zz ops k=o at hc
 obtain ⟨dst,op,type,pos,after,guard⟩:=o
 cases op<;>simp only at hc<;>try (cases hc)
 rename_i s d x
 split at hc
 ·rename_i q1 q2 q3 z2 h1 h2 h3
  cases hc
  intro n w G ac hF hh
  have v1:=hF.ev x
  rw [h3] at v1
  have v1:=v1.val_inv
  refine ⟨_,.val,fun w' _ _=>?_⟩
  simp only [execOp,v1]
  refine WP ?_
  simp [convert,Vw h1,Vw h2,Conv.intToInt,e]
 ·cases hc
theorem GK {z:Int} (h:0<=z/\z<=9223372036854775807):IntKind.i64.wrap z=z:=IntWalk.i64_in _ om
theorem B3 (z:Int) (hz:0<=z/\z<=255) (hc:EE P ops F k=some (.i64,z):=by kernel_rfl):XM P (Zz ops k) F h [] (.i z):=SU .i64 z z (GK om) hc
def Jg (ops:Array Oper) (F:Fr) (k:Nat) (b:BinOp):Option (Int × Int):=
 match (Zz ops k).op with
 | .binOp c _ x y _=>if c==b then match F.ev x,F.ev y with
  | .val (.int .i64 z),.val (.int .i64 u)=>some (z,u)
  | _,_=>none else none
 | _=>none
theorem Fy (a b:Int) (hb:0<b) (ha:0<=a/\a<=9223372036854775807) (hc:Jg ops F k .quo=some (a,b):=by kernel_rfl):XM P (Zz ops k) F h [] (.i (a / b)):=by
 unfold Jg at hc
 generalize hoo:Zz ops k=o at hc
 obtain ⟨dst,op,type,pos,after,guard⟩:=o
 cases op<;>simp only at hc<;>try (cases hc)
 rename_i bop t x y yt
 cases bop<;>simp only [ZB,reduceCtorEq,if_false,if_true] at hc<;>try (cases hc)
 split at hc
 ·rename_i z yk h1 h2
  cases hc
  intro n' w G ac hF hh
  have v1:=hF.ev x
  have v2:=hF.ev y
  rw [h1] at v1
  rw [h2] at v2
  have v1:=v1.val_inv
  have v2:=v2.val_inv
  refine ⟨_,.val,fun w' _ _=>?_⟩
  simp only [execOp,v1,v2]
  refine WP ?_
  have e1:a.tdiv b=a / b:=Int.tdiv_eq_ediv_of_nonneg ha.1
  have e2:IntKind.i64.wrap (a / b)=a / b:=GK ⟨Int.ediv_nonneg ha.1 om,Int.le_trans (Int.ediv_le_self b ha.1) ha.2⟩
  have e3:b≠0:=by omega
  simp [eqGuard,binOp,Op.intDiv,e1,e2,e3]
 ·cases hc
theorem BW (a b:Int) (hb:0<b) (ha:0<=a) (hc:Jg ops F k .rem=some (a,b):=by kernel_rfl):XM P (Zz ops k) F h [] (.i (a % b)):=by
 unfold Jg at hc
 generalize hoo:Zz ops k=o at hc
 obtain ⟨dst,op,type,pos,after,guard⟩:=o
 cases op<;>simp only at hc<;>try (cases hc)
 rename_i bop t x y yt
 cases bop<;>simp only [ZB,reduceCtorEq,if_false,if_true] at hc<;>try (cases hc)
 split at hc
 ·rename_i z yk h1 h2
  cases hc
  intro n' w G ac hF hh
  have v1:=hF.ev x
  have v2:=hF.ev y
  rw [h1] at v1
  rw [h2] at v2
  have v1:=v1.val_inv
  have v2:=v2.val_inv
  refine ⟨_,.val,fun w' _ _=>?_⟩
  simp only [execOp,v1,v2]
  refine WP ?_
  have e1:a.tmod b=a % b:=Int.tmod_eq_emod_of_nonneg ha
  have e3:b≠0:=by omega
  simp [eqGuard,binOp,Op.intDiv,e1,e3]
 ·cases hc
theorem Af (a b:Nat) (hb:0<b) (ha:a<=9223372036854775807) (hc:Jg ops F k .quo=some ((a:Int),(b:Int)):=by kernel_rfl):XM P (Zz ops k) F h [] (.i (a / b:Nat)):=by
 rw [Int.natCast_ediv];exact Fy a b om om hc
theorem Dl (a b:Nat) (hb:0<b) (_ha:a<=9223372036854775807) (hc:Jg ops F k .rem=some ((a:Int),(b:Int)):=by kernel_rfl):XM P (Zz ops k) F h [] (.i (a % b:Nat)):=by
 rw [Int.natCast_emod];exact BW a b om om hc
def J5 (a b:Int):Int:=IntKind.i64.wrap ((BitVec.ofInt 64 a ^^^ BitVec.ofInt 64 b).toNat:Int)
theorem E7 {a b:Int} (ha:0<=a/\a<4611686018427387904) (hb:0<=b/\b<4611686018427387904):0<=J5 a b/\J5 a b<4611686018427387904:=by
 obtain ⟨x,rfl⟩:=Int.eq_ofNat_of_zero_le ha.1
 obtain ⟨y,rfl⟩:=Int.eq_ofNat_of_zero_le hb.1
 have h1:(BitVec.ofInt 64 (x:Int) ^^^ BitVec.ofInt 64 (y:Int)).toNat=x ^^^ y:=by
  rw [BitVec.toNat_xor,BitVec.toNat_ofInt,BitVec.toNat_ofInt]
  have e1:((x:Int) % ((2 ^ 64:Nat):Int)).toNat=x:=by omega
  have e2:((y:Int) % ((2 ^ 64:Nat):Int)).toNat=y:=by omega
  rw [e1,e2]
 have h2:x ^^^ y<2 ^ 62:=Nat.xor_lt_two_pow om om
 rw [J5,h1,GK om]
 omega
theorem IL (a b:Int) (hc:Jg ops F k .xor=some (a,b):=by kernel_rfl):XM P (Zz ops k) F h [] (.i (J5 a b)):=by
 unfold Jg at hc
 generalize hoo:Zz ops k=o at hc
 obtain ⟨dst,op,type,pos,after,guard⟩:=o
 cases op<;>simp only at hc<;>try (cases hc)
 rename_i bop t x y yt
 cases bop<;>simp only [ZB,reduceCtorEq,if_false,if_true] at hc<;>try (cases hc)
 split at hc
 ·rename_i z yk h1 h2
  cases hc
  intro n' w G ac hF hh
  have v1:=hF.ev x
  have v2:=hF.ev y
  rw [h1] at v1
  rw [h2] at v2
  have v1:=v1.val_inv
  have v2:=v2.val_inv
  refine ⟨_,.val,fun w' _ _=>?_⟩
  simp only [execOp,v1,v2]
  refine WP ?_
  simp [eqGuard,binOp,Op.intBits,IntKind.bits]
  exact Yr (fun z:Nat=>IntKind.i64.wrap (z:Int)) (by rw [BitVec.toNat_xor,BitVec.toNat_ofInt,BitVec.toNat_ofInt];rfl)
 ·cases hc
end
end Go.Abs
section
namespace Go.Abs
inductive Z0 where
 | mk (op num:Int) (kids:List Z0)
namespace Z0
def op:Z0->Int|.mk a _ _=>a
def num:Z0->Int|.mk _ a _=>a
def kids:Z0->List Z0|.mk _ _ a=>a
end Z0
structure Func where
 params:LI
 result:Int
 body:Z0
structure XI where
 decls:List Zc
 funcs:List Func
instance:Inhabited Z0:=⟨.mk 0 0 []⟩
mutual
def ET:Z0->AV
 | .mk op num kids=>.agg [.i op,.i num,.sl (Ya kids) none]
def Ya:List Z0->List AV
 | []=>[]
 | e::r=>ET e::Ya r
end
abbrev ZM (e:Z0):AV:=.agg [.i e.op,.i e.num,.sl (Ya e.kids) none]
abbrev YE (e:Z0):List AV:=[.i e.op,.i e.num,.sl (Ya e.kids) none]
abbrev X9 (xs:List Z0):AV:=.sl (Ya xs) none
abbrev Th (xs:List Z0) (v:Value):AV:=.sl (Ya xs) (some v)
abbrev Bw (f:Func):AV:=.agg [Z6 f.params,.i f.result,.i f.body.op,.i f.body.num,X9 f.body.kids]
abbrev Dp (f:Func):List AV:=[Z6 f.params,.i f.result,.i f.body.op,.i f.body.num,X9 f.body.kids]
def X3 (xs:List Func):List AV:=xs.map Bw
abbrev Dw (xs:List Func):AV:=.sl (X3 xs) none
abbrev Ko (p:XI):AV:=.agg [YL p.decls,Dw p.funcs]
abbrev FE (p:XI):List AV:=[YL p.decls,Dw p.funcs]
abbrev Ej (z:Int):AV:=.val (.int .u8 z)
def UA (xs:LI):List AV:=xs.map Ej
abbrev Vd (xs:LI):AV:=.sl (UA xs) none
theorem Pq (e:Z0):ET e=ZM e:=by cases e;rw [ET];rfl
theorem Xp:∀xs:List Z0,Ya xs=xs.map ZM
 | []=>by rw [Ya];rfl
 | s::ss=>by rw [Ya,Xp ss,Pq];rfl
theorem AO {xs:List Z0} {j:Nat} {x:Z0} (h:xs[j]? = some x):(Ya xs)[j]? = some (ZM x):=by simp [Xp,h]
theorem CU {xs:List Func} {j:Nat} {x:Func} (h:xs[j]? = some x):(X3 xs)[j]? = some (Bw x):=by simp [X3,h]
theorem AN {xs:LI} {j:Nat} {x:Int} (h:xs[j]? = some x):(UA xs)[j]? = some (Ej x):=by simp [UA,h]
@[simp] theorem EU (xs:List Z0):(Ya xs).length=xs.length:=by simp [Xp]
@[simp] theorem AP (xs:List Func):(X3 xs).length=xs.length:=by simp [X3]
@[simp] theorem Qe (xs:LI):(UA xs).length=xs.length:=by simp [UA]
theorem QW (xs ys:List Z0):Ya (xs++ys)=Ya xs++Ya ys:=by simp [Xp]
theorem Pr (xs ys:List Func):X3 (xs++ys)=X3 xs++X3 ys:=by simp [X3]
theorem EP (xs:LI) (n:Nat):(UA xs).take n=UA (xs.take n):=by simp [UA]
theorem EO (xs:LI) (n:Nat):(UA xs).drop n=UA (xs.drop n):=by simp [UA]
theorem U0 (xs:List Z0):∀y∈Ya xs,y.leaves.length=3:=by intro y hy;simp only [Xp,Wf] at hy;obtain ⟨x,_,rfl⟩:=hy;rfl
theorem CV (xs:List Func):∀y∈X3 xs,y.leaves.length=5:=by intro y hy;simp only [X3,Wf] at hy;obtain ⟨x,_,rfl⟩:=hy;rfl
theorem Pm (xs:LI):∀y∈UA xs,y.leaves.length=1:=by intro y hy;simp only [UA,Wf] at hy;obtain ⟨x,_,rfl⟩:=hy;rfl
theorem QX (xs:List Z0):(Zb (Ya xs)).all AV.one=true:=KH fun y hy=>by simp only [Xp,Wf] at hy;obtain ⟨x,_,rfl⟩:=hy;rfl
end Go.Abs
end
section
namespace Go.Abs
open Go.Proofs Go.Proofs.YtjmahledcmocoaaGreat
section
variable {H:Type} {enc:TypeId × Value->H} {w:World}
def GA (w:World):ZY:=fun b _=>b<w.heap.size
abbrev Tr (enc:TypeId × Value->H) (w:World) (n:Nat) (t:TypeId) (cs:List Value) (x:DataW H × List MemPlace):Prop:=DataW.trod enc Tryz.prog w 0 (fun _=>true) true n t cs=some x
theorem L9 {w:World} {a:Addr} {v:Value} (h:w.cell? a=some v):a.block<w.heap.size/\a.spot=none:=by
 unfold World.cell? at h
 split at h
 ·rename_i c e fr hb
  split at h
  ·cases h
  ·rename_i hs
   exact ⟨(Vr.1 hb).1,by simpa using hs⟩
 ·cases h
theorem Hc {α:Type} {c:α->Nat}:∀{xs:List α} {ds:List (DataW H)},xs.length=ds.length->(∀(i:Nat) a d,xs[i]? = some a->ds[i]? = some d->c a+1<=Rows.uptoBulk d)->(xs.map fun a=>c a+1).sum<=Rows.uptoBulkAll ds
 | [],[],_,_=>YQ _
 | a::r,d::ds,hl,h=>by
  have h0:=h 0 a d rfl rfl
  have h1:=Hc (c:=c) (xs:=r) (ds:=ds) (by simpa using hl) fun i a d ha hd=>h (i+1) a d (by simpa using ha) (by simpa using hd)
  rw [Ue,List.sum_cons,Rows.uptoBulkAll]
  omega
theorem M0 {α:Type} {f:α->AV} {G:ZY} {k b:Nat} (hf:∀x,(f x).leaves.length=k):∀{xs:List α} {o:Nat},(∀(i:Nat) a,xs[i]? = some a->XY w G b (o+i*k) (f a).leaves)->Ww w G k b o (xs.map f)
 | [],_,_=>.nil
 | x::r,o,h=>by
  refine .cons (hf x) (by have:=h 0 x rfl;simpa using this) (M0 hf fun i a ha=>?_)
  have:=h (i+1) a (by simpa using ha)
  rw [show o+(i+1)*k=o+k+i*k by rw [T5];omega] at this
  exact this
theorem Z22 {α:Type} [Inhabited α] {t e k:Nat} (ht:Tryz.prog.underlying t=some (.slice e)) (hk:Tryz.prog.cellsOf e=k) (h0:0<k) (f:α->AV) (hf:∀x,(f x).leaves.length=k) (c:α->Nat) (Q:α->Prop) {n:Nat} {cs:List Value} {x:DataW H × List MemPlace}
  (h:Tr enc w n t cs x) (el:∀m cs y,m<n->Tr enc w m e cs y->∃a:α,Yz w (GA w) (f a).leaves cs/\c a+1<=Rows.uptoBulk y.1/\Q a) :
  ∃(v:Value) (xs:List α),cs=[v]/\RV w (GA w) (.sl (xs.map f) none) v/\(xs.map fun a=>c a+1).sum+1<=Rows.uptoBulk x.1/\∀a∈xs,Q a:=by
 rcases DataW.trod_slice ht h with ⟨rfl,rfl⟩|⟨a,len,cap,elems,rest,m,rfl,rfl,rfl,_,hlc,_,hlen,hel,_,_⟩
 ·exact ⟨_,[],rfl,.nil (by simp),by simp [Rows.uptoBulk],by simp⟩
 ·rw [hk] at hel
  have hone:∀i,i<len->∃z:α,∃cs' y,w.cells? 0 (a.add (i*k)) k=some cs'/\elems[i]? = some y/\Yz w (GA w) (f z).leaves cs'/\c z+1<=Rows.uptoBulk y.1/\Q z:=by
   intro i hi
   have h1:=hel i hi
   rw [Q4 om] at h1
   obtain ⟨cs',h2,h3⟩:=Option.bind_eq_some_iff.1 h1
   obtain ⟨z,hz1,hz2,hz3⟩:=el m cs' _ om h3
   exact ⟨z,cs',_,h2,Q4 om,hz1,hz2,hz3⟩
  obtain ⟨V,hV⟩:=Go.Deep.choose_lt hone
  refine ⟨_,(List.range len).map V,rfl,?_,?_,?_⟩
  ·cases hl0:len with
   | zero=>exact .nil (by simp)
   | succ q=>
    have hsp:a.spot=none:=by
     obtain ⟨cs',y,g1,_⟩:=hV 0 om
     obtain ⟨_,g2,g3⟩:=World.cells?_some g1
     have g4:=g3 0 h0
     rw [Q4 om] at g4
     have g5:=(L9 g4).2
     simpa [Addr.add] using g5
    obtain ⟨b,o,sp⟩:=a
    simp only at hsp
    subst hsp
    rw [<-hl0]
    have hll:(((List.range len).map V).map f).length=len:=by simp
    have:=RV.sl (w:=w) (G:=GA w) (es:=((List.range len).map V).map f) (hv:=none) (b:=b) (o:=o) (k:=k) (cap:=cap) (by simp) (by rw [hll];exact hlc) (M0 hf fun i z hz=>by
     have hi:i<len:=by have:=(XC.1 hz).1;simpa using this
     have hz':V i=z:=by simpa [hi] using hz
     obtain ⟨cs',y,g1,_,g2,_⟩:=hV i hi
     rw [hz'] at g2
     obtain ⟨_,g3,g4⟩:=World.cells?_some g1
     refine XY.of_cells g2 fun j u hj=>?_
     have hjl:j<k:=by have:=(XC.1 hj).1;omega
     have g5:=(g4 j hjl).trans hj
     rw [Addr.add_lit,Addr.add_lit] at g5
     exact ⟨g5,(L9 g5).1⟩)
    rw [hll] at this
    exact this
  ·have:=Hc (c:=c) (xs:=(List.range len).map V) (ds:=elems.map (·.1)) (by simp [hlen]) fun i z d hz hd=>by
    have hi:i<len:=by have:=(XC.1 hz).1;simpa using this
    have hz':V i=z:=by simpa [hi] using hz
    obtain ⟨cs',y,_,g1,_,g2,_⟩:=hV i hi
    rw [QJ,g1] at hd
    simp only [Br,XP] at hd
    rw [<-hd,<-hz']
    exact g2
   simp only [Rows.uptoBulk]
   omega
  ·intro z hz
   obtain ⟨i,hi,rfl⟩:=Wf.1 hz
   obtain ⟨_,_,_,_,_,_,g⟩:=hV i (List.mem_range.1 hi)
   exact g
theorem Z20 {n:Nat} {cs:List Value} {x:DataW H × List MemPlace} (h:Tr enc w n 5 cs x):∃z:Int,cs=[.int .u8 z]/\Rows.uptoBulk x.1=1/\0<=z/\z<=255:=by
 obtain ⟨z,rfl,rfl,hw⟩:=DataW.trod_int Tryz.underlying5 h
 refine ⟨z,rfl,rfl,?_⟩
 simpa [Lit.wf,IntKind.min,IntKind.max,IntKind.signed,IntKind.bits] using hw
theorem Z21 {n:Nat} {cs:List Value} {x:DataW H × List MemPlace} (h:Tr enc w n 22 cs x):∃(v:Value) (xs:LI),cs=[v]/\RV w (GA w) (Vd xs) v/\∀z∈xs,0<=z/\z<=255:=by
 obtain ⟨v,xs,h1,h2,h3,h4⟩:=Z22 Tryz.underlying22 (k:=1) kr om (fun z:Int=>Ej z) (fun _=>rfl) (fun _=>0) (fun z=>0<=z/\z<=255) h fun m cs y _ hy=>by
  obtain ⟨z,rfl,hb,hz⟩:=Z20 hy
  exact ⟨z,.cons .val .nil,Nat.le_of_eq hb.symm,hz⟩
 exact ⟨v,xs,h1,h2,h4⟩
end
end Go.Abs
end
namespace Go.Abs
structure Sg where
 params:LI
 result:Int
abbrev GT (f:Sg):AV:=.agg [.sl (Z7 f.params) none,.i f.result,.i 0,.i 0,.sl [] none]
def Vj (fs:List Sg):List AV:=fs.map GT
theorem EX {xs:List Sg} {j:Nat} {x:Sg} (h:xs[j]? = some x):(Vj xs)[j]? = some (GT x):=by simp [Vj,h]
@[simp] theorem HF (xs:List Sg):(Vj xs).length=xs.length:=by simp [Vj]
theorem HE (xs:List Sg):∀y∈Vj xs,y.leaves.length=5:=by intro y hy;simp only [Vj,Wf] at hy;obtain ⟨x,_,rfl⟩:=hy;rfl
theorem Pu (xs:List Sg):(Zb (Vj xs)).all AV.one=true:=KH fun y hy=>by simp only [Vj,Wf] at hy;obtain ⟨x,_,rfl⟩:=hy;rfl
mutual
def Z4.sz:Z4->Nat
 | .mk _ _ _ args kids=>1+args.length+YH kids
def Z3.sz:Z3->Nat
 | .mk steps _=>1+Y3 steps
def Y3:List Z4->Nat
 | []=>0
 | s::r=>s.sz+Y3 r
def YH:List Z3->Nat
 | []=>0
 | b::r=>b.sz+YH r
end
theorem Z4.sz_pos (s:Z4):1<=s.sz:=by cases s;rw [Z4.sz];omega
theorem Z3.sz_pos (b:Z3):1<=b.sz:=by cases b;rw [Z3.sz];omega
theorem QE (l:List Z4):l.length<=Y3 l:=by
 induction l with
 | nil=>simp
 | cons s r ih=>have:=s.sz_pos;simp only [YD,Y3];omega
theorem Ol (l:List Z3):l.length<=YH l:=by
 induction l with
 | nil=>simp
 | cons s r ih=>have:=s.sz_pos;simp only [YD,YH];omega
theorem Z4k {l:List Z4} {k:Nat} {s:Z4} (h:l[k]? = some s):s.sz<=Y3 l:=by
 induction l generalizing k with
 | nil=>simp at h
 | cons t r ih=>
  cases k with
  | zero=>simp at h;subst h;simp only [Y3];omega
  | succ k=>have:=ih (k:=k) (by simpa using h);simp only [Y3];omega
theorem Ok {l:List Z3} {k:Nat} {s:Z3} (h:l[k]? = some s):s.sz<=YH l:=by
 induction l generalizing k with
 | nil=>simp at h
 | cons t r ih=>
  cases k with
  | zero=>simp at h;subst h;simp only [YH];omega
  | succ k=>have:=ih (k:=k) (by simpa using h);simp only [YH];omega
theorem Z4.sz_eq (s:Z4):s.sz=1+s.args.length+YH s.kids:=by cases s;rw [Z4.sz];rfl
theorem Z3.sz_eq (b:Z3):b.sz=1+Y3 b.steps:=by cases b;rw [Z3.sz];rfl
theorem TH {b:Z3} {k:Nat} {s:Z4} (h:b.steps[k]? = some s):s.sz<b.sz:=by have:=Z4k h;have:=b.sz_eq;omega
theorem VP {s:Z4} {k:Nat} {b:Z3} (h:s.kids[k]? = some b):b.sz<s.sz:=by have:=Ok h;have:=s.sz_eq;omega
theorem T7 (s:Z4):s.args.length<s.sz:=by have:=s.sz_eq;omega
theorem U6 (s:Z4):s.kids.length<s.sz:=by have:=s.sz_eq;have:=Ol s.kids;omega
theorem WR (b:Z3):b.steps.length<b.sz:=by have:=b.sz_eq;have:=QE b.steps;omega
structure JQ (ds:List Zc):Prop where
 len:ds.length<=4194304
 cons:∀d∈ds,d.cons.length<=4194304
 fields:∀d∈ds,∀c∈d.cons,c.fields.length<=4194304
theorem JQ.cons_at {ds:List Zc} (h:JQ ds) {k:Nat} {d:Zc} (hd:ds[k]? = some d):d.cons.length<=4194304:=h.cons d (ZW hd)
def AI (m:Nat) (c:Y6):Bool:=decide (c.fields.length<=3)&&VW m c.fields
def JY (d:Zc):List Zc->Bool
 | []=>false
 | e::r=>if e.cons.length=0/\e.frm=d.frm/\e.to_=d.to_ then true else JY d r
def Qt (m:Nat):List Y6->Bool
 | []=>true
 | c::r=>if AI m c=true then Qt m r else false
def KA (ds:List Zc) (d:Zc) (i:Nat):Bool:=
 if 0<d.cons.length then (if d.cons.length<=3/\d.frm=0/\d.to_=0 then Qt ds.length d.cons else false)
 else if JY d (ds.take i)=true then false else decide (0<=d.frm/\d.frm<=ds.length)&&decide (0<=d.to_/\d.to_<=ds.length)
def JX (ds:List Zc) (i:Nat):Bool:=(ds[i]?.map fun d=>KA ds d i).getD false
theorem Hz {ds:List Zc} {i:Nat} {d:Zc} (h:ds[i]? = some d):JX ds i=KA ds d i:=by rw [JX,h];rfl
def QU (ds:List Zc):List Zc->Nat->Bool
 | [],_=>true
 | _::r,i=>if JX ds i=true then QU ds r (i+1) else false
def Q3 (ds:List Zc):Bool:=decide (ds.length<=4)&&QU ds ds 0
theorem OQ {m:Nat} {cs:List Y6}:Qt m cs=true↔∀c∈cs,AI m c=true:=by
 induction cs with
 | nil=>simp [Qt]
 | cons c r ih=>
  rw [Qt]
  split
  ·rename_i h;simp [ih,h]
  ·rename_i h;simp [h]
theorem HA {ds:List Zc}:∀{l:List Zc} {i:Nat},QU ds l i=true↔∀j<l.length,JX ds (i+j)=true
 | [],i=>by simp [QU]
 | d::r,i=>by
  rw [QU]
  split
  ·rename_i h
   rw [HA (l:=r)]
   constructor
   ·intro hq j hj
    cases j with
    | zero=>exact h
    | succ j=>have:=hq j (by simpa using hj);rwa [show i+(j+1)=i+1+j by omega]
   ·intro hq j hj
    have:=hq (j+1) (by simpa using hj)
    rwa [show i+(j+1)=i+1+j by omega] at this
  ·rename_i h
   simp only [Bool.false_eq_true,false_iff]
   intro hq
   exact h (hq 0 (by simp))
theorem Z5r {ds:List Zc} (h:Q3 ds=true):Wg ds:=by
 simp only [Q3,Wm,decide_eq_true_eq] at h
 obtain ⟨h1,h2⟩:=h
 rw [HA] at h2
 have key:∀d∈ds,∃i,KA ds d i=true:=fun d hd=>by
  obtain ⟨i,hi⟩:=List.mem_iff_getElem?.1 hd
  have:=h2 i (XC.1 hi).1
  rw [Wt,Hz hi] at this
  exact ⟨i,this⟩
 have hc:∀d∈ds,0<d.cons.length->d.cons.length<=3/\Qt ds.length d.cons=true:=fun d hd hp=>by
  obtain ⟨i,hi⟩:=key d hd
  rw [KA,Zw hp] at hi
  split at hi
  ·rename_i h;exact ⟨h.1,hi⟩
  ·cases hi
 refine ⟨h1,fun d hd=>?_,fun d hd c hc'=>?_⟩
 ·by_cases hp:0<d.cons.length
  ·exact (hc d hd hp).1
  ·omega
 ·have:=OQ.1 (hc d hd (List.length_pos_of_mem hc')).2 c hc'
  simp only [AI,Wm,decide_eq_true_eq] at this
  exact this.1
def Aq (m:Nat) (f:Sg):Bool:=decide (f.params.length<=3)&&(VW m f.params&&decide (0<=f.result/\f.result<=m))
def J1 (m:Nat):List Sg->Bool
 | []=>true
 | f::r=>if Aq m f=true then J1 m r else false
def HU:List Sg->Bool
 | []=>false
 | f::_=>decide (f.params.length=0)&&decide (f.result=0)
theorem PH {fs:List Sg} {x:Sg} (h:fs[0]? = some x):HU fs=(decide (x.params.length=0)&&decide (x.result=0)):=by
 cases fs with
 | nil=>simp at h
 | cons f r=>simp at h;subst h;rfl
def QH (ds:List Zc) (fs:List Sg):Bool:=
 Q3 ds&&(decide (1<=fs.length/\fs.length<=4)&&(J1 ds.length fs&&HU fs))
def KS (ps:LI):LI->Option Int->Bool
 | [],_=>true
 | v::r,prev=>if (0<=v/\v<=(ps.length:Int)-1)/\ps[v.toNat]?≠some 0/\(∀p,prev=some p->p<v) then KS ps r (some v) else false
theorem L7 {ps r:LI} {v:Int} {prev:Option Int} (h:(0<=v/\v<=(ps.length:Int)-1)/\ps[v.toNat]?≠some 0/\(∀p,prev=some p->p<v)):KS ps (v::r) prev=KS ps r (some v):=by
 rw [KS,Zw h]
theorem FK {ps r:LI} {v:Int} {prev:Option Int} (h:¬((0<=v/\v<=(ps.length:Int)-1)/\ps[v.toNat]?≠some 0/\(∀p,prev=some p->p<v))):KS ps (v::r) prev=false:=by
 rw [KS,Zr h]
def Cq (ps ls:LI):Bool:=KS ps ls none
def Ai:List Y8->Bool
 | []=>true
 | r::rs=>if Cq r.params r.lent=true then Ai rs else false
def UI (r:Y8):Sg:=⟨r.params,r.result⟩
def K4 (n:Zx):Bool:=decide (n.routines.length<=4)&&(QH n.decls (n.routines.map UI)&&Ai n.routines)
end Go.Abs
section
namespace Go.Abs
def Vs {α:Type} (xs:List α) (i:Int):Option α:=if 0<=i/\i<=(xs.length:Int)-1 then xs[i.toNat]? else none
theorem Jf {α:Type} {xs:List α} {i:Int} {x:α} (h:0<=i/\i<=(xs.length:Int)-1) (hx:xs[i.toNat]? = some x):Vs xs i=some x:=by rw [Vs,Zw h,hx]
theorem Kr {α:Type} {xs:List α} {i:Int} (h:¬(0<=i/\i<=(xs.length:Int)-1)):Vs xs i=none:=by rw [Vs,Zr h]
theorem AE {α:Type} {xs:List α} {i:Int} {x:α} (h:Vs xs i=some x):(0<=i/\i<=(xs.length:Int)-1)/\xs[i.toNat]? = some x:=by
 rw [Vs] at h
 split at h
 ·rename_i h1;exact ⟨h1,h⟩
 ·cases h
def Q1 (vars:LI):LI->LI->Bool
 | [],[]=>true
 | a::as1,t::ts=>if Vs vars a=some t then Q1 vars as1 ts else false
 | _,_=>false
def Wk (vars args types:LI):Bool:=Q1 vars args types
theorem N9 {vars:LI}:∀{args types:LI},args.length≠types.length->Q1 vars args types=false
 | [],[],h=>absurd rfl h
 | [],_::_,_=>rfl
 | _::_,[],_=>rfl
 | a::as1,t::ts,h=>by
  rw [Q1]
  split
  ·exact N9 (by simpa using h)
  ·rfl
theorem Z57 {vars args types:LI} {k:Nat} {a t:Int} (ha:args[k]? = some a) (ht:types[k]? = some t) (h:Vs vars a=some t) :
  Q1 vars (args.drop k) (types.drop k)=Q1 vars (args.drop (k+1)) (types.drop (k+1)):=by
 rw [Yn ha,Yn ht,Q1,Zw h]
theorem N8 {vars args types:LI} {k:Nat} {a t:Int} (ha:args[k]? = some a) (ht:types[k]? = some t) (h:Vs vars a≠some t) :
  Q1 vars (args.drop k) (types.drop k)=false:=by
 rw [Yn ha,Yn ht,Q1,Zr h]
theorem Z56 {vars args types:LI} {k:Nat} (ha:args.length<=k) (ht:types.length<=k):Q1 vars (args.drop k) (types.drop k)=true:=by
 rw [Xz ha,Xz ht];rfl
def US (op:Int):Bool:=op==0||(op==6||(op==8||(op==9||op==10)))
def XE (op:Int):Bool:=decide (0<=op/\op<=11)
def YP (op:Int):Bool:=decide (14<=op/\op<=17)
def UK (vars:LI) (op into:Int):Bool:=
 if into=0 then true else if op=6 then ((Vs vars (into-1)).map fun t=>decide (0<t)).getD false else false
def Bx (ds:List Zc) (ps:LI) (res:Int):Int:=QN ds (ps.getLast?.getD 0) res
def Jz (ds:List Zc) (vars:LI) (op:Int) (args:LI) (r:Y8):Int:=
 if op=9 then (if Wk vars args r.params=true then r.result else -1)
 else if r.params.length=0∨0<r.lent.length∨¬Wk vars args (r.params.take (r.params.length-1))=true then -1
 else Bx ds r.params r.result
def K8 (n:Zx) (vars:LI) (op num:Int) (args:LI):Int:=
 match Vs n.routines num with
 | none=>-1
 | some r=>Jz n.decls vars op args r
def Qc (ds:List Zc) (vars:LI) (op:Int) (args:LI):Int:=
 match args with
 | [a]=>match Vs vars a with
  | some t=>if t=0 then -1 else if (op≠14/\op≠15)/\WW ds t=true then -1 else 0
  | none=>-1
 | _=>-1
def Q9 (ds:List Zc) (vars:LI) (args:LI):Int:=
 match args with
 | [a,b]=>match Vs vars a with
  | some t=>if WW ds t=true then
    (match ds[(t-1).toNat]? with
     | some d=>if Wk vars [b] [d.frm]=true then d.to_ else -1
     | none=>-1) else -1
  | none=>-1
 | _=>-1
def XD (ds:List Zc) (op num:Int):List LI:=if op=7 then [[],[]] else (Y2 ds num).map (Y5 ds)
mutual
def YF (n:Zx) (vars:LI):Z4->Int
 | .mk op num into args kids=>
  if (num≠0/\¬US op=true)∨¬UK vars op into=true∨(0<kids.length/\op≠7/\op≠8) then -1
  else if op=0 then (if args.length=0/\(-999<=num/\num<=999) then 0 else -1)
  else if op=1∨op=2∨op=3∨op=4 then (if Wk vars args [0,0]=true then 0 else -1)
  else if op=5 then (if Wk vars args [0]=true then 0 else -1)
  else if op=6 then (if 0<Vb n.decls num/\Wk vars args (Y5 n.decls num)=true then Vb n.decls num else -1)
  else if op=7 then (if Wk vars args [0]=true then (if (XD n.decls op num).length=0∨kids.length≠(XD n.decls op num).length then -1 else Tf n vars kids (XD n.decls op num) true 0) else -1)
  else if op=8 then (if Wk vars args [num]=true then (if (XD n.decls op num).length=0∨kids.length≠(XD n.decls op num).length then -1 else Tf n vars kids (XD n.decls op num) true 0) else -1)
  else if op=9∨op=10 then K8 n vars op num args
  else if op=11 then Q9 n.decls vars args
  else if op=14∨op=15∨op=16∨op=17 then Qc n.decls vars op args
  else -1
def Tf (n:Zx) (vars:LI):List Z3->List LI->Bool->Int->Int
 | [],_,_,t=>t
 | b::bs,more,first,t=>
  match more with
  | []=>-1
  | m::ms=>if XK n (vars++m) b<0∨(first=false/\XK n (vars++m) b≠t) then -1 else Tf n vars bs ms false (XK n (vars++m) b)
def Vy (n:Zx):List Z4->LI->Option LI
 | [],vars=>some vars
 | s::r,vars=>if YF n vars s<0 then none else Vy n r (if XE s.op=true then vars++[YF n vars s] else vars)
def XK (n:Zx) (vars:LI):Z3->Int
 | .mk steps result=>match Vy n steps vars with
  | none=>-1
  | some vs=>(Vs vs result).getD (-1)
end
def QB (n:Zx) (vars:LI) (op num:Int) (kids:List Z3):Int:=
 if (XD n.decls op num).length=0∨kids.length≠(XD n.decls op num).length then -1 else Tf n vars kids (XD n.decls op num) true 0
mutual
def Js:Z4->Int->Int
 | .mk _ _ _ _ kids,left=>UY kids left
def W8:Z3->Int->Int
 | .mk steps _,left=>UD steps left
def UD:List Z4->Int->Int
 | [],left=>left
 | s::r,left=>if left<1 then -1 else if Js s (left-1)<0 then -1 else UD r (Js s (left-1))
def UY:List Z3->Int->Int
 | [],left=>left
 | b::r,left=>if W8 b left<0 then -1 else UY r (W8 b left)
end
def Ub (b:Z3):Int:=if W8 b 600<0 then -1 else 600-W8 b 600
def J0 (n:Zx):List Y8->Bool
 | []=>true
 | r::rs=>if ¬Ub r.body<0/\XK n r.params r.body=r.result then J0 n rs else false
def Q2 (n:Zx):Bool:=K4 n&&J0 n n.routines
theorem FI:(∀(s:Z4) (l:Int),0<=l->Js s l<=l)/\(∀(b:Z3) (l:Int),0<=l->W8 b l<=l):=by
 have key:∀m:Nat,(∀s:Z4,s.sz<=m->∀l:Int,0<=l->Js s l<=l)/\(∀b:Z3,b.sz<=m->∀l:Int,0<=l->W8 b l<=l):=by
  intro m
  induction m with
  | zero=>exact ⟨fun s h=>by have:=s.sz_pos;omega,fun s h=>by have:=s.sz_pos;omega⟩
  | succ m ih=>
   refine ⟨fun s hs l hl=>?_,fun b hb l hl=>?_⟩
   ·cases s with
    | mk op num into args kids=>
     rw [Js]
     have hk:YH kids<=m:=by rw [Z4.sz] at hs;omega
     clear hs
     induction kids generalizing l with
     | nil=>rw [UY];exact Int.le_refl _
     | cons b r ihr=>
      rw [YH] at hk
      have:=ih.2 b om l hl
      rw [UY]
      split
      ·omega
      ·have:=ihr (W8 b l) om om;omega
   ·cases b with
    | mk steps res=>
     rw [W8]
     have hk:Y3 steps<=m:=by rw [Z3.sz] at hb;omega
     clear hb
     induction steps generalizing l with
     | nil=>rw [UD];exact Int.le_refl _
     | cons s r ihr=>
      rw [Y3] at hk
      rw [UD]
      split
      ·omega
      ·have:=ih.1 s om (l-1) om
       split
       ·omega
       ·have:=ihr (Js s (l-1)) om om;omega
 exact ⟨fun s l hl=>(key s.sz).1 s (YQ _) l hl,fun b l hl=>(key b.sz).2 b (YQ _) l hl⟩
end Go.Abs
namespace Go.Abs
theorem Z4l {l:List Z4} {k:Nat} {s:Z4} (h:l[k]? = some s):k+s.sz<=Y3 l:=by
 induction l generalizing k with
 | nil=>simp at h
 | cons t r ih=>
  cases k with
  | zero=>simp at h;subst h;simp only [Y3];omega
  | succ k=>have:=ih (k:=k) (by simpa using h);have:=t.sz_pos;simp only [Y3];omega
theorem Bj {b:Z3} {k:Nat} {s:Z4} (h:b.steps[k]? = some s):k+s.sz<b.sz:=by have:=Z4l h;have:=b.sz_eq;omega
structure Xh (n:Zx):Prop where
 decls:Wg n.decls
 len:n.routines.length<=4
 params:∀r∈n.routines,r.params.length<=3
 lent:∀r∈n.routines,r.lent.length<=4194304
theorem Xh.params_at {n:Zx} (h:Xh n) {k:Nat} {r:Y8} (hr:n.routines[k]? = some r):r.params.length<=3:=h.params r (ZW hr)
theorem Xh.lent_at {n:Zx} (h:Xh n) {k:Nat} {r:Y8} (hr:n.routines[k]? = some r):r.lent.length<=4194304:=h.lent r (ZW hr)
theorem Oa {ds:List Zc} {num:Int} {k:Nat} {x:Int} (h:(Y2 ds num)[k]? = some x):(XD ds 8 num)[k]? = some (Y5 ds x):=by
 rw [XD,Zr om,QJ,h];rfl
end Go.Abs
namespace Go.Abs
theorem Lk {ds:List Zc} (hd:Wg ds) (t:Int):(Y2 ds t).length<=3:=by
 rw [Y2]
 split
 ·rename_i h
  obtain ⟨d,hd1⟩:=BN (xs:=ds) (j:=(t-1).toNat) om
  rw [hd1,Z15]
  exact hd.cons_at hd1
 ·simp
theorem VB {ds:List Zc} (hd:Wg ds) (c:Int):(Y5 ds c).length<=3:=by
 by_cases h:Vb ds c<1
 ·rw [(Hr h).1];simp
 ·obtain ⟨k,d,x,h1,_,h3,_,h5⟩:=Hs h
  rw [h5];exact hd.fields_at h1 h3
theorem GZ {ds:List Zc} (hd:Wg ds) {op num:Int} {k:Nat} {m:LI} (h:(XD ds op num)[k]? = some m):m.length<=3:=by
 have hm:=ZW h
 rw [XD] at hm
 split at hm
 ·simp at hm;subst hm;simp
 ·obtain ⟨c,_,rfl⟩:=Wf.1 hm;exact VB hd c
theorem Qa {α:Type} {xs:List α} {x:α} (h:xs.length=1) (hx:xs[0]? = some x):xs=[x]:=by
 cases xs with
 | nil=>simp at h
 | cons a r=>
  cases r with
  | nil=>simp at hx;rw [hx]
  | cons b r=>simp at h
theorem AK {ds:List Zc} {us args:LI} {op:Int} (h:args.length≠1):Qc ds us op args=-1:=by
 cases args with
 | nil=>rfl
 | cons a r=>
  cases r with
  | nil=>simp at h
  | cons b r=>rfl
theorem AL {ds:List Zc} {us args:LI} {op a:Int} (h:args=[a]) (hi:¬(0<=a/\a<=(us.length:Int)-1)):Qc ds us op args=-1:=by
 subst h;rw [Qc];simp only [Kr hi]
theorem AJ {ds:List Zc} {us args:LI} {op a t:Int} (h:args=[a]) (hi:0<=a/\a<=(us.length:Int)-1) (ht:us[a.toNat]? = some t) :
  Qc ds us op args=if t=0 then -1 else if (op≠14/\op≠15)/\WW ds t=true then -1 else 0:=by
 subst h;rw [Qc];simp only [Jf hi ht]
theorem Z2e {n:Zx} {us args:LI} {op num:Int} {r:Y8} (hi:0<=num/\num<=(n.routines.length:Int)-1) (hr:n.routines[num.toNat]? = some r) :
  K8 n us op num args=Jz n.decls us op args r:=by
 rw [K8];simp only [Jf hi hr]
theorem Z2f {n:Zx} {us args:LI} {op num:Int} (hi:¬(0<=num/\num<=(n.routines.length:Int)-1)):K8 n us op num args=-1:=by
 rw [K8];simp only [Kr hi]
theorem S8 {xs:LI} {x:Int} (h:xs[xs.length-1]? = some x):xs.getLast?.getD 0=x:=by
 rw [List.getLast?_eq_getElem?,h];rfl
theorem Z07 {n:Zx} {us:LI} {bs:List Z3} {ms:List LI} {b:Z3} {m:LI} {k:Nat} {t:Int} (hb:bs[k]? = some b) (hm:ms[k]? = some m)
  (h:¬(XK n (us++m) b<0∨(k:Int)>0/\XK n (us++m) b≠t)) :
  Tf n us (bs.drop k) (ms.drop k) (decide (k=0)) t=Tf n us (bs.drop (k+1)) (ms.drop (k+1)) (decide (k+1=0)) (XK n (us++m) b):=by
 rw [Yn hb,Yn hm,Tf,Zr]
 ·simp
 ·rintro (q|⟨q1,q2⟩)
  ·exact h (.inl q)
  ·exact h (.inr ⟨by simp at q1;omega,q2⟩)
theorem Z05 {n:Zx} {us:LI} {bs:List Z3} {ms:List LI} {b:Z3} {m:LI} {k:Nat} {t:Int} (hb:bs[k]? = some b) (hm:ms[k]? = some m)
  (h:XK n (us++m) b<0∨(k:Int)>0/\XK n (us++m) b≠t) :
  Tf n us (bs.drop k) (ms.drop k) (decide (k=0)) t=-1:=by
 rw [Yn hb,Yn hm,Tf,Zw]
 rcases h with q|⟨q1,q2⟩
 ·exact .inl q
 ·exact .inr ⟨by simp;omega,q2⟩
theorem Z06 {n:Zx} {us:LI} {bs:List Z3} {ms:List LI} {k:Nat} {f:Bool} {t:Int} (hb:bs.length<=k):Tf n us (bs.drop k) (ms.drop k) f t=t:=by
 rw [Xz hb,Tf]
end Go.Abs
end
namespace Go.Abs
theorem Gs (n:Zx) (us:LI) (s:Z4):YF n us s =
  if (s.num≠0/\¬US s.op=true)∨¬UK us s.op s.into=true∨(0<s.kids.length/\s.op≠7/\s.op≠8) then -1
  else if s.op=0 then (if s.args.length=0/\(-999<=s.num/\s.num<=999) then 0 else -1)
  else if s.op=1∨s.op=2∨s.op=3∨s.op=4 then (if Wk us s.args [0,0]=true then 0 else -1)
  else if s.op=5 then (if Wk us s.args [0]=true then 0 else -1)
  else if s.op=6 then (if 0<Vb n.decls s.num/\Wk us s.args (Y5 n.decls s.num)=true then Vb n.decls s.num else -1)
  else if s.op=7 then (if Wk us s.args [0]=true then QB n us s.op s.num s.kids else -1)
  else if s.op=8 then (if Wk us s.args [s.num]=true then QB n us s.op s.num s.kids else -1)
  else if s.op=9∨s.op=10 then K8 n us s.op s.num s.args
  else if s.op=11 then Q9 n.decls us s.args
  else if s.op=14∨s.op=15∨s.op=16∨s.op=17 then Qc n.decls us s.op s.args
  else -1:=by
 cases s with
 | mk op num into args kids=>rw [YF];rfl
theorem Ev (n:Zx) (us:LI) (b:Z3):XK n us b=match Vy n b.steps us with
  | none=>-1
  | some vs=>(Vs vs b.result).getD (-1):=by
 cases b with
 | mk st r=>rw [XK];rfl
theorem GY {α:Type} {xs:List α} {x:α} (h:xs.length=2) (hx:xs[0]? = some x):∃y,xs=[x,y]:=by
 match xs,h with
 | [a,b],_=>simp at hx;subst hx;exact ⟨b,rfl⟩
theorem VL {ds:List Zc} {us args:LI} (h:args.length≠2):Q9 ds us args=-1:=by
 match args,h with
 | [],_=>rfl
 | [_],_=>rfl
 | [_,_],h=>simp at h
 | _::_::_::_,_=>rfl
theorem VM {ds:List Zc} {us args:LI} {a:Int} (hl:args.length=2) (h:args[0]? = some a) (hi:¬(0<=a/\a<=(us.length:Int)-1)):Q9 ds us args=-1:=by
 obtain ⟨y,rfl⟩:=GY hl h;rw [Q9];simp only [Kr hi]
theorem VA {ds:List Zc} {us args:LI} {a t:Int} (hl:args.length=2) (h:args[0]? = some a) (hi:0<=a/\a<=(us.length:Int)-1) (ht:us[a.toNat]? = some t) :
  Q9 ds us args=if WW ds t=true then
    (match ds[(t-1).toNat]? with
     | some d=>if Wk us (args.drop 1) [d.frm]=true then d.to_ else -1
     | none=>-1) else -1:=by
 obtain ⟨y,rfl⟩:=GY hl h;rw [Q9];simp only [Jf hi ht];rfl
theorem O4 {ds:List Zc} {us args:LI} {a t:Int} {d:Zc} (hl:args.length=2) (h:args[0]? = some a) (hi:0<=a/\a<=(us.length:Int)-1) (ht:us[a.toNat]? = some t)
  (hA:WW ds t=true) (hd:ds[(t-1).toNat]? = some d):Q9 ds us args=if Wk us (args.drop 1) [d.frm]=true then d.to_ else -1:=by
 rw [VA hl h hi ht,Zw hA];simp only [hd]
theorem Ft {ds:List Zc} {t:Int} (h:WW ds t=true):1<=t/\t<=ds.length:=by
 simp only [WW,Wm,decide_eq_true_eq] at h;exact h.1
theorem L5 (b:Z3) (l:Int):W8 b l=UD b.steps l:=by cases b;rw [W8];rfl
theorem Ds (s:Z4) (l:Int):Js s l=UY s.kids l:=by cases s;rw [Js];rfl
structure Ja (n:Zx):Prop where
 decls:JQ n.decls
 len:n.routines.length<=4194304
 params:∀r∈n.routines,r.params.length<=4194304
 lent:∀r∈n.routines,r.lent.length<=4194304
 body:∀r∈n.routines,r.body.sz<=10000000
theorem Mv {m:Nat} {fs:List Sg} (h:J1 m fs=true):∀f∈fs,Aq m f=true:=by
 induction fs with
 | nil=>simp
 | cons f r ih=>
  rw [J1] at h
  split at h
  ·rename_i h1
   intro g hg
   rcases Yq.1 hg with rfl|hg
   ·exact h1
   ·exact ih h g hg
  ·cases h
theorem Lf {n:Zx} (hz:Ja n) (h:K4 n=true):Xh n:=by
 simp only [K4,QH,Wm,decide_eq_true_eq] at h
 obtain ⟨h1,⟨h2,h3,h4,h5⟩,h6⟩:=h
 refine ⟨Z5r h2,h1,fun r hr=>?_,hz.lent⟩
 have:=Mv h4 (UI r) (Wf.2 ⟨r,hr,rfl⟩)
 simp only [Aq,Wm,decide_eq_true_eq] at this
 exact this.1
def gI (xs:LI) (i:Int):Int:=xs[i.toNat]?.getD 0
theorem UO {xs:LI} {i:Int} {x:Int} (h:xs[i.toNat]? = some x):gI xs i=x:=by rw [gI,h];rfl
structure Zy where
 vars:LI
 own:LI
 par:LI
 con:LI
 fst:LI
 tok:LI
def Zy.grow (L:Zy) (t own par:Int):Zy:=⟨L.vars++[t],L.own++[own],L.par++[par],L.con++[-1],L.fst++[-1],L.tok++[-1]⟩
def UJ (L:Zy) (v:Int):Option Zy:=if gI L.own v<1 then none else some { L with own:=L.own.set v.toNat (gI L.own v-1) }
def Tt (own par ln:LI):Nat->Int->Bool
 | 0,_=>false
 | k+1,v=>if gI own v<1/\¬v∈ln then (if gI par v<0 then false else Tt own par ln k (gI par v)) else true
def VV (L:Zy) (ln:LI) (v:Int):Bool:=Tt L.own L.par ln (v.toNat+1) v
def T6:LI->Int->LI->LI
 | own,_,[]=>own
 | own,p,f::r=>T6 (if f≠0 then own.set p.toNat (gI own p+1) else own) (p+1) r
def K6 (ds:List Zc) (L:Zy) (op x:Int):Option Zy:=
 if gI L.con x<0∨(op=17/\0<=gI L.tok x) then none
 else match UJ L x with
  | none=>none
  | some L1=>some { L1 with
    own:=T6 L1.own (gI L.fst x) (Y5 ds (gI L.con x))
    tok:=if op=17 then L.tok.set x.toNat (Y5 ds (gI L.con x)).length else L.tok }
def QR (op:Int):Bool:=op==6||(op==9||(op==10||op==11))
def Dt (n:Zx) (op num:Int):LI:=if op=9 then ((n.routines[num.toNat]?).map (·.lent)).getD [] else []
def VQ (n:Zx) (op num:Int) (i:Nat):Bool:=decide ((i:Int)∈Dt n op num)
def Qs (n:Zx) (vars:LI) (op num a:Int) (i:Nat):Bool:=QR op&&(gI vars a != 0&&!VQ n op num i)
def TQ (n:Zx) (op num:Int):LI->Nat->Zy->Option Zy
 | [],_,L=>some L
 | a::r,i,L=>if Qs n L.vars op num a i=true then (match UJ L a with
   | none=>none
   | some L1=>TQ n op num r (i+1) L1) else TQ n op num r (i+1) L
def Jo (n:Zx) (op num:Int) (ln:LI) (L:Zy):LI->Nat->Bool
 | [],_=>true
 | a::r,i=>if VQ n op num i=true/\¬VV L ln a=true then false else Jo n op num ln L r (i+1)
def BO (L:Zy) (into:Int) (m:Nat):Option Zy:=
 if 0<into then (if gI L.tok (into-1)≠m then none else some { L with tok:=L.tok.set (into-1).toNat (-1) }) else some L
def Qv (n:Zx) (ln:LI) (L:Zy) (op num into:Int) (args:LI):Option Zy:=
 match TQ n op num args 0 L with
 | none=>none
 | some L1=>if Jo n op num ln L1 args 0=true then BO L1 into args.length else none
def JI:LI->LI->Bool
 | o::os,t::ts=>if o≠0∨0<=t then false else JI os ts
 | _,_=>true
def Zy.take (L:Zy) (m:Nat):Zy:=⟨L.vars.take m,L.own.take m,L.par.take m,L.con.take m,L.fst.take m,L.tok.take m⟩
def QS (L:Zy) (m:Nat):Option Zy:=if JI (L.own.drop m) (L.tok.drop m)=true then some (L.take m) else none
def A9 (L:Zy) (par:Int):LI->Zy
 | []=>L
 | t::r=>A9 (L.grow t 0 par) par r
def JU (ds:List Zc) (L:Zy) (x c:Int):Zy:=
 A9 { L with con:=L.con.set x.toNat c,fst:=L.fst.set x.toNat L.vars.length } x (Y5 ds c)
def Us (ds:List Zc) (L:Zy) (op num:Int) (args:LI) (i:Nat):Zy:=
 if op=8 then JU ds L (gI args 0) (gI (Y2 ds num) i) else L
def KX (lent:LI):LI->Nat->Zy->Zy
 | [],_,L=>L
 | t::r,i,L=>KX lent r (i+1) (L.grow t (if t≠0/\¬(i:Int)∈lent then 1 else 0) (-1))
def Ql (r:Y8):Zy:=KX r.lent r.params 0 ⟨[],[],[],[],[],[]⟩
def JZ (L:Zy) (ln:LI) (v:Int):Option Zy:=if VV L ln v=true then some { L with own:=L.own.set v.toNat (gI L.own v+1) } else none
def QD (n:Zx) (ln:LI) (L:Zy) (op num into:Int) (args:LI) (ch:Option Zy):Option Zy:=
 if op=14 then JZ L ln (gI args 0)
 else if op=15 then UJ L (gI args 0)
 else if op=16∨op=17 then K6 n.decls L op (gI args 0)
 else if op=7∨op=8 then (if op=8/\¬VV L ln (gI args 0)=true then none else ch)
 else Qv n ln L op num into args
def QZ (L:Zy) (op t:Int) (r:Option Zy):Option Zy:=
 match r with
 | none=>none
 | some L1=>if XE op=true then some (L1.grow t (if t≠0 then 1 else 0) (-1)) else some L1
def Aj (L:Zy) (first:Option Zy) (rest:Zy->Bool):Option Zy:=
 match first with
 | none=>none
 | some one=>if rest one=true then some { L with own:=one.own,tok:=one.tok } else none
def DQ (one:Zy) (two:Option Zy) (rest:Bool):Bool:=
 match two with
 | none=>false
 | some two=>if one.own=two.own/\one.tok=two.tok then rest else false
def Cl (r:Option Zy) (f:Zy->Option Zy):Option Zy:=match r with|none=>none|some L=>f L
def QY (m:Nat) (res:Int) (L:Zy):Option Zy:=Cl (if gI L.vars res≠0 then UJ L res else some L) fun L2=>QS L2 m
mutual
def Tm (n:Zx) (ln:LI) (L:Zy):Z4->Option Zy
 | .mk op num into args kids=>QZ L op (YF n L.vars (.mk op num into args kids)) (QD n ln L op num into args (Qi n ln L op num args kids))
def Qi (n:Zx) (ln:LI) (L:Zy) (op num:Int) (args:LI):List Z3->Option Zy
 | []=>none
 | b::bs=>Aj L (Va n ln (Us n.decls L op num args 0) L.vars.length b) fun one=>QA n ln L op num args one bs 1
def QA (n:Zx) (ln:LI) (L:Zy) (op num:Int) (args:LI) (one:Zy):List Z3->Nat->Bool
 | [],_=>true
 | b::bs,i=>DQ one (Va n ln (Us n.decls L op num args i) L.vars.length b) (QA n ln L op num args one bs (i+1))
def QF (n:Zx) (ln:LI) (L:Zy):List Z4->Option Zy
 | []=>some L
 | s::r=>Cl (Tm n ln L s) fun L1=>QF n ln L1 r
def Va (n:Zx) (ln:LI) (L:Zy) (m:Nat):Z3->Option Zy
 | .mk steps result=>Cl (QF n ln L steps) (QY m result)
end
theorem MV (n:Zx) (ln:LI) (L:Zy) (s:Z4):Tm n ln L s=QZ L s.op (YF n L.vars s) (QD n ln L s.op s.num s.into s.args (Qi n ln L s.op s.num s.args s.kids)):=by
 cases s with
 | mk op num into args kids=>rw [Tm];rfl
theorem Eu (n:Zx) (ln:LI) (L:Zy) (m:Nat) (b:Z3):Va n ln L m b=Cl (QF n ln L b.steps) (QY m b.result):=by
 cases b with
 | mk st r=>rw [Va];rfl
structure Ug (L:Zy):Prop where
 own:L.own.length=L.vars.length
 par:L.par.length=L.vars.length
 con:L.con.length=L.vars.length
 fst:L.fst.length=L.vars.length
 tok:L.tok.length=L.vars.length
structure Xk (ds:List Zc) (L:Zy) (q:Int):Prop where
 len:Ug L
 down:∀j:Int,0<=j->j<L.vars.length->gI L.par j<j
 arm:∀x:Int,0<=x->x<L.vars.length->0<=gI L.con x->0<=gI L.fst x/\gI L.fst x+(Y5 ds (gI L.con x)).length<=L.vars.length
 nn:∀x∈L.own,0<=x
 bd:∀x∈L.own,x<=q
end Go.Abs
section
namespace Go.Abs
end Go.Abs
namespace Go.Abs
theorem Z0m {n:Zx} {op num:Int} {r:Y8} (h:op=9) (hr:n.routines[num.toNat]? = some r):Dt n op num=r.lent:=by
 rw [Dt,Zw h,hr];rfl
end Go.Abs
namespace Go.Abs
theorem NQ {own par ln:LI} {N:Int} (hd:∀j:Int,0<=j->j<N->gI par j<j):∀(k:Nat) (v:Int),0<=v->v<N->v.toNat+1<=k->Tt own par ln k v=Tt own par ln (v.toNat+1) v:=by
 intro k
 induction k using Nat.strongRecOn with
 | ind k ih=>
  intro v h0 hN hk
  cases k with
  | zero=>omega
  | succ k=>
   rw [Tt,Tt]
   split
   ·split
    ·rfl
    ·have hdv:=hd v h0 hN
     rw [ih k om (gI par v) om om om]
     rw [ih v.toNat om (gI par v) om om om]
   ·rfl
theorem NS {own par ln:LI} {N j x1 x2:Int} {r:Bool} (h1:gI own j=x1) (h2:gI par j=x2) (hj:0<=j/\j<N) (hx:x1<1/\¬j∈ln) (h0:¬x2<0) (hd:∀i:Int,0<=i->i<N->gI par i<i)
  (h:Tt own par ln (j.toNat+1) j=r):Tt own par ln (x2.toNat+1) x2=r:=by
 rw [Tt,h1,h2,Zw hx,Zr h0] at h
 have hdv:=hd j hj.1 hj.2
 rw [<-h,NQ hd j.toNat x2 om om om]
theorem NR {own par ln:LI} {j x1 x2:Int} {r:Bool} (h1:gI own j=x1) (h2:gI par j=x2) (hx:x1<1/\¬j∈ln) (h0:x2<0) (h:Tt own par ln (j.toNat+1) j=r):false=r:=by
 rw [Tt,h1,h2,Zw hx,Zw h0] at h;exact h
theorem NT {own par ln:LI} {j x1:Int} {r:Bool} (h1:gI own j=x1) (hx:¬(x1<1/\¬j∈ln)) (h:Tt own par ln (j.toNat+1) j=r):true=r:=by
 rw [Tt,h1,Zr hx] at h;exact h
end Go.Abs
namespace Go.Abs
theorem QG {L L':Zy} {v:Int} (h:UJ L v=some L'):1<=gI L.own v/\L'.vars=L.vars/\L'.par=L.par/\L'.con=L.con/\L'.fst=L.fst/\L'.tok=L.tok/\L'.own=L.own.set v.toNat (gI L.own v-1):=by
 rw [UJ] at h
 split at h
 ·cases h
 ·cases h;exact ⟨by omega,rfl,rfl,rfl,rfl,rfl,rfl⟩
theorem Fc {xs:LI} {v:Int} (h:gI xs v≠0):gI xs v∈xs:=by
 rw [gI] at h ⊢
 cases hx:xs[v.toNat]? with
 | none=>rw [hx] at h;exact absurd rfl h
 | some y=>exact ZW hx
theorem K3 {xs:LI} {i:Nat} {a x:Int} (h:x∈xs.set i a):x∈xs∨x=a:=List.mem_or_eq_of_mem_set h
theorem Xk.take {ds:List Zc} {L L':Zy} {q v:Int} (hk:Xk ds L q) (h:UJ L v=some L'):Xk ds L' q:=by
 obtain ⟨t1,t2,t3,t4,t5,t6,t7⟩:=QG h
 obtain ⟨f1,f2,f3,f4,f5⟩:=hk.len
 have hm:=Fc (xs:=L.own) (v:=v) om
 refine ⟨⟨by rw [t7,t2,Uu];exact f1,by rw [t3,t2];exact f2,by rw [t4,t2];exact f3,by rw [t5,t2];exact f4,by rw [t6,t2];exact f5⟩,?_,?_,?_,?_⟩
 ·rw [t2,t3];exact hk.down
 ·rw [t2,t4,t5];exact hk.arm
 ·rw [t7];intro x hx
  rcases K3 hx with hx|rfl
  ·exact hk.nn x hx
  ·omega
 ·rw [t7];intro x hx
  rcases K3 hx with hx|rfl
  ·exact hk.bd x hx
  ·have:=hk.bd _ hm;omega
end Go.Abs
end
namespace Go.Abs
theorem GC {us:LI}:∀{args tys:LI},Q1 us args tys=true->args.length=tys.length/\∀a∈args,0<=a/\a<us.length
 | [],[],_=>⟨rfl,by simp⟩
 | [],_::_,h=>by cases h
 | _::_,[],h=>by cases h
 | a::as1,t::ts,h=>by
  rw [Q1] at h
  split at h
  ·rename_i h1
   obtain ⟨q1,q2⟩:=GC h
   refine ⟨by simp [q1],fun x hx=>?_⟩
   rcases Yq.1 hx with rfl|hx
   ·have:=(AE h1).1;omega
   ·exact q2 x hx
  ·cases h
theorem IV {n:Zx} {us:LI}:∀{bs:List Z3} {ms:List LI} {f:Bool} {t:Int},0<=t->0<=Tf n us bs ms f t ->
  ∀(i:Nat) (b:Z3) (m:LI),bs[i]? = some b->ms[i]? = some m->0<=XK n (us++m) b
 | [],_,_,_,_,_,i,b,m,hb,_=>by simp at hb
 | b::bs,[],_,_,_,h,_,_,_,_,hm=>by simp at hm
 | b::bs,m::ms,f,t,ht,h,i,c,l,hc,hl=>by
  rw [Tf] at h
  split at h
  ·omega
  ·rename_i hq
   have h0:0<=XK n (us++m) b:=by
    rcases Int.lt_or_le (XK n (us++m) b) 0 with q|q
    ·exact absurd (.inl q) hq
    ·exact q
   cases i with
   | zero=>simp at hc hl;subst hc hl;exact h0
   | succ i=>exact IV h0 h i c l (by simpa using hc) (by simpa using hl)
structure JR (n:Zx) (us:LI) (s:Z4):Prop where
 args:∀a∈s.args,0<=a/\a<us.length
 one:(s.op=7∨s.op=8∨(14<=s.op/\s.op<=17))->∃a,s.args=[a]
 num:s.op=9->0<=s.num/\s.num<n.routines.length
 into:s.into≠0->1<=s.into/\s.into<=us.length
 kids:(s.op=7∨s.op=8)->s.kids.length=(XD n.decls s.op s.num).length/\(XD n.decls s.op s.num).length≠0 /\
  ∀(i:Nat) (b:Z3) (m:LI),s.kids[i]? = some b->(XD n.decls s.op s.num)[i]? = some m->0<=XK n (us++m) b
theorem Z04 {n:Zx} {us:LI} {op num:Int} {kids:List Z3} (h:0<=QB n us op num kids) :
  kids.length=(XD n.decls op num).length/\(XD n.decls op num).length≠0/\∀(i:Nat) (b:Z3) (m:LI),kids[i]? = some b->(XD n.decls op num)[i]? = some m->0<=XK n (us++m) b:=by
 rw [QB] at h
 split at h
 ·omega
 ·rename_i hq
  exact ⟨by omega,by omega,IV (Int.le_refl 0) h⟩
theorem L8 {xs:LI} (h:xs.length=1):∃a,xs=[a]:=by
 match xs,h with
 | [a],_=>exact ⟨a,rfl⟩
theorem MX {n:Zx} {us:LI} {s:Z4} (h:0<=YF n us s):JR n us s:=by
 rw [Gs] at h
 split at h
 ·omega
 rename_i h0
 have hinto:s.into≠0->1<=s.into/\s.into<=us.length:=by
  intro hi
  have hv:UK us s.op s.into=true:=by
   cases q:UK us s.op s.into with
   | true=>rfl
   | false=>exact absurd (.inr (.inl (by rw [q];simp))) h0
  rw [UK,Zr hi] at hv
  split at hv
  ·cases ha:Vs us (s.into-1) with
   | none=>rw [ha] at hv;cases hv
   | some t=>have:=(AE ha).1;omega
  ·cases hv
 have mk:(∀a∈s.args,0<=a/\a<us.length)->((s.op=7∨s.op=8∨(14<=s.op/\s.op<=17))->∃a,s.args=[a])->(s.op=9->0<=s.num/\s.num<n.routines.length) ->
   ((s.op=7∨s.op=8)->0<=QB n us s.op s.num s.kids)->JR n us s:=fun a b c d=>⟨a,b,c,hinto,fun q=>Z04 (d q)⟩
 have ty:∀{tys},Wk us s.args tys=true->s.args.length=tys.length/\∀a∈s.args,0<=a/\a<us.length:=fun q=>GC q
 split at h
 ·rename_i h1
  split at h
  ·rename_i h2
   exact mk (by rw [List.eq_nil_of_length_eq_zero h2.1];simp) om om om
  ·omega
 split at h
 ·split at h
  ·rename_i h1 h2;exact mk (ty h2).2 om om om
  ·omega
 split at h
 ·split at h
  ·rename_i h1 h2;exact mk (ty h2).2 om om om
  ·omega
 split at h
 ·split at h
  ·rename_i h1 h2;exact mk (ty h2.2).2 om om om
  ·omega
 split at h
 ·split at h
  ·rename_i h1 h2;exact mk (ty h2).2 (fun _=>L8 (by simpa using (ty h2).1)) om (fun _=>h)
  ·omega
 split at h
 ·split at h
  ·rename_i h1 h2;exact mk (ty h2).2 (fun _=>L8 (by simpa using (ty h2).1)) om (fun _=>h)
  ·omega
 split at h
 ·rename_i hop
  rw [K8] at h
  cases hr:Vs n.routines s.num with
  | none=>rw [hr] at h;simp at h
  | some r=>
   rw [hr] at h
   simp only at h
   have hn:=(AE hr).1
   rw [Jz] at h
   split at h
   ·split at h
    ·rename_i h2;exact mk (ty h2).2 om om om
    ·omega
   ·split at h
    ·omega
    ·rename_i h2
     have h3:Wk us s.args (r.params.take (r.params.length-1))=true:=by
      cases q:Wk us s.args (r.params.take (r.params.length-1)) with
      | true=>rfl
      | false=>exact absurd (.inr (.inr (by rw [q];simp))) h2
     exact mk (ty h3).2 om om om
 split at h
 ·rename_i hop
  rcases he:s.args with _|⟨a,_|⟨b,_|⟨c,r⟩⟩⟩
  ·rw [he,show Q9 n.decls us []=-1 from rfl] at h;omega
  ·rw [he,show Q9 n.decls us [a]=-1 from rfl] at h;omega
  ·rw [he,Q9] at h
   cases ha:Vs us a with
   | none=>rw [ha] at h;simp at h
   | some t=>
    rw [ha] at h
    simp only at h
    split at h
    ·cases hd:n.decls[(t-1).toNat]? with
     | none=>rw [hd] at h;simp at h
     | some d=>
      rw [hd] at h
      simp only at h
      split at h
      ·rename_i h3
       have h4:=(GC h3).2 b (by simp)
       have h5:=(AE ha).1
       refine mk (fun x hx=>?_) om om om
       rw [he] at hx
       rcases Yq.1 hx with rfl|hx
       ·omega
       ·rw [Xx.1 hx];exact h4
      ·omega
    ·omega
  ·rw [he,show Q9 n.decls us (a::b::c::r)=-1 from rfl] at h;omega
 split at h
 ·rename_i hop
  rcases he:s.args with _|⟨a,_|⟨b,r⟩⟩
  ·rw [he,show Qc n.decls us s.op []=-1 from rfl] at h;omega
  ·rw [he,Qc] at h
   cases ha:Vs us a with
   | none=>rw [ha] at h;simp at h
   | some t=>
    have h5:=(AE ha).1
    refine mk (fun x hx=>?_) (fun _=>⟨a,he⟩) om om
    rw [he] at hx
    rw [Xx.1 hx];omega
  ·rw [he,show Qc n.decls us s.op (a::b::r)=-1 from rfl] at h;omega
 ·omega
def TF (n:Zx) (us:LI) (s:Z4):LI:=if XE s.op=true then us++[YF n us s] else us
theorem HD {L L':Zy} {ln:LI} {v:Int} (h:JZ L ln v=some L'):L'.vars=L.vars/\L'.par=L.par/\L'.con=L.con/\L'.fst=L.fst/\L'.tok=L.tok/\L'.own=L.own.set v.toNat (gI L.own v+1):=by
 rw [JZ] at h
 split at h
 ·cases h;exact ⟨rfl,rfl,rfl,rfl,rfl,rfl⟩
 ·cases h
theorem Eo:∀(fs:LI) (own:LI) (p:Int),(T6 own p fs).length=own.length
 | [],own,p=>rfl
 | f::r,own,p=>by rw [T6,Eo r];split<;>simp
theorem Fb {xs:LI} {q v:Int} (h:∀x∈xs,x<=q) (hq:0<=q):gI xs v<=q:=by
 by_cases h0:gI xs v=0
 ·omega
 ·exact h _ (Fc h0)
theorem Fd {xs:LI} {v:Int} (h:∀x∈xs,0<=x):0<=gI xs v:=by
 by_cases h0:gI xs v=0
 ·omega
 ·exact h _ (Fc h0)
theorem Ep:∀(fs:LI) (own:LI) (p:Int),(∀x∈own,0<=x)->∀x∈T6 own p fs,0<=x
 | [],own,p,h=>h
 | f::r,own,p,h=>by
  rw [T6]
  refine Ep r _ _ fun x hx=>?_
  split at hx
  ·rcases K3 hx with hx|rfl
   ·exact h x hx
   ·have:=Fd (v:=p) h;omega
  ·exact h x hx
theorem En:∀(fs:LI) (own:LI) (p q:Int),0<=q->(∀x∈own,x<=q)->∀x∈T6 own p fs,x<=q+fs.length
 | [],own,p,q,hq,h=>by intro x hx;have:=h x hx;simp;omega
 | f::r,own,p,q,hq,h=>by
  intro x hx
  rw [T6] at hx
  have:=En r _ _ (q+1) om (fun y hy=>by
   split at hy
   ·rcases K3 hy with hy|rfl
    ·have:=h y hy;omega
    ·have:=Fb (v:=p) h hq;omega
   ·have:=h y hy;omega) x hx
  simp only [YD];omega
theorem LA {ds:List Zc} {L L':Zy} {op v:Int} (h:K6 ds L op v=some L'):L'.vars=L.vars/\L'.par=L.par/\L'.con=L.con/\L'.fst=L.fst/\L'.tok.length=L.tok.length /\
  ∃L1,UJ L v=some L1/\L'.own=T6 L1.own (gI L.fst v) (Y5 ds (gI L.con v)):=by
 rw [K6] at h
 split at h
 ·cases h
 ·cases ht:UJ L v with
  | none=>rw [ht] at h;cases h
  | some L1=>
   rw [ht] at h
   simp only at h
   obtain ⟨t1,t2,t3,t4,t5,t6,t7⟩:=QG ht
   cases h
   refine ⟨t2,t3,t4,t5,?_,L1,rfl,rfl⟩
   split
   ·rw [Uu]
   ·rfl
theorem Fj {n:Zx} {op num:Int} {ds:List Zc} {q:Int}:∀{as1:LI} {i:Nat} {L L':Zy},Xk ds L q->TQ n op num as1 i L=some L'->Xk ds L' q/\L'.vars=L.vars/\L'.par=L.par/\L'.con=L.con/\L'.fst=L.fst/\L'.tok=L.tok
 | [],i,L,L',hk,h=>by rw [TQ] at h;cases h;exact ⟨hk,rfl,rfl,rfl,rfl,rfl⟩
 | a::r,i,L,L',hk,h=>by
  rw [TQ] at h
  split at h
  ·cases ht:UJ L a with
   | none=>rw [ht] at h;cases h
   | some L1=>
    rw [ht] at h
    obtain ⟨t1,t2,t3,t4,t5,t6,t7⟩:=QG ht
    obtain ⟨k1,k2,k3,k4,k5,k6⟩:=Fj (hk.take ht) h
    exact ⟨k1,k2.trans t2,k3.trans t3,k4.trans t4,k5.trans t5,k6.trans t6⟩
  ·exact Fj hk h
theorem Xk.le {ds:List Zc} {L:Zy} {q q':Int} (h:Xk ds L q) (hq:q<=q'):Xk ds L q':=⟨h.len,h.down,h.arm,h.nn,fun x hx=>Int.le_trans (h.bd x hx) hq⟩
theorem Xk.turn {ds:List Zc} {L L':Zy} {q q':Int} (hk:Xk ds L q) (h1:L'.vars=L.vars) (h2:L'.par=L.par) (h3:L'.con=L.con) (h4:L'.fst=L.fst) (h5:L'.tok.length=L.tok.length) (h6:L'.own.length=L.own.length)
  (h7:∀x∈L'.own,0<=x) (h8:∀x∈L'.own,x<=q'):Xk ds L' q':=by
 obtain ⟨f1,f2,f3,f4,f5⟩:=hk.len
 refine ⟨⟨by rw [h6,h1];exact f1,by rw [h2,h1];exact f2,by rw [h3,h1];exact f3,by rw [h4,h1];exact f4,by rw [h5,h1];exact f5⟩,?_,?_,h7,h8⟩
 ·rw [h1,h2];exact hk.down
 ·rw [h1,h3,h4];exact hk.arm
theorem AW {xs ys:LI} {j:Int} (h:j.toNat<xs.length):gI (xs++ys) j=gI xs j:=by
 rw [gI,gI,Cu h]
theorem I1 {xs:LI} {y:Int} {j:Int} (h:j.toNat=xs.length):gI (xs++[y]) j=y:=by
 rw [gI,h];simp
theorem Xk.grow {ds:List Zc} {L:Zy} {q t o p:Int} (hk:Xk ds L q) (hp:p<L.vars.length) (ho:0<=o/\o<=q):Xk ds (L.grow t o p) q:=by
 obtain ⟨f1,f2,f3,f4,f5⟩:=hk.len
 refine ⟨⟨by simp [Zy.grow,f1],by simp [Zy.grow,f2],by simp [Zy.grow,f3],by simp [Zy.grow,f4],by simp [Zy.grow,f5]⟩,?_,?_,?_,?_⟩
 ·intro j hj hl
  simp only [Zy.grow,Yk,Cx] at hl ⊢
  by_cases hlt:j<L.vars.length
  ·rw [AW om];exact hk.down j hj hlt
  ·rw [I1 om];omega
 ·intro x hx hl
  simp only [Zy.grow,Yk,Cx] at hl ⊢
  by_cases hlt:x<L.vars.length
  ·rw [AW om,AW om]
   intro hc
   have:=hk.arm x hx hlt hc
   exact ⟨this.1,by omega⟩
  ·rw [I1 om];omega
 ·intro x hx
  simp only [Zy.grow,X2,Xx] at hx
  rcases hx with hx|rfl
  ·exact hk.nn x hx
  ·exact ho.1
 ·intro x hx
  simp only [Zy.grow,X2,Xx] at hx
  rcases hx with hx|rfl
  ·exact hk.bd x hx
  ·exact ho.2
theorem I2 {xs:LI} {k:Nat} {a:Int} {j:Int} (h:xs.length<=j.toNat/\j.toNat<xs.length+k):gI (xs++List.replicate k a) j=a:=by
 rw [gI,Ea h.1,List.getElem?_replicate,Zw om];rfl
theorem I3 {xs:LI} {x j c:Int} (h:j.toNat=x.toNat) (hl:x.toNat<xs.length):gI (xs.set x.toNat c) j=c:=by
 rw [gI,h,List.getElem?_set_self hl];rfl
theorem I4 {xs:LI} {x j c:Int} (h:j.toNat≠x.toNat):gI (xs.set x.toNat c) j=gI xs j:=by
 rw [gI,gI,List.getElem?_set_ne (fun q=>h q.symm)]
theorem Ip {p:Int}:∀(fs:LI) (L:Zy),A9 L p fs=⟨L.vars++fs,L.own++List.replicate fs.length 0,L.par++List.replicate fs.length p,L.con++List.replicate fs.length (-1),
  L.fst++List.replicate fs.length (-1),L.tok++List.replicate fs.length (-1)⟩
 | [],L=>by simp [A9]
 | t::r,L=>by rw [A9,Ip r];simp [Zy.grow,Nx]
theorem O8 {ds:List Zc} {L:Zy} {q x c:Int} (hk:Xk ds L q) (hq:0<=q) (hx:0<=x/\x<L.vars.length):Xk ds (JU ds L x c) q/\(JU ds L x c).vars=L.vars++Y5 ds c:=by
 obtain ⟨f1,f2,f3,f4,f5⟩:=hk.len
 rw [JU,Ip]
 refine ⟨⟨⟨by simp [f1],by simp [f2],by simp [f3],by simp [f4],by simp [f5]⟩,?_,?_,?_,?_⟩,rfl⟩
 ·intro j hj hl
  simp only [Yk] at hl ⊢
  by_cases hlt:j<L.vars.length
  ·rw [AW om];exact hk.down j hj hlt
  ·rw [I2 om];omega
 ·intro y hy hl
  simp only [Yk] at hl ⊢
  by_cases hlt:y<L.vars.length
  ·rw [AW (by simp;omega),AW (by simp;omega)]
   by_cases he:y.toNat=x.toNat
   ·rw [I3 he om,I3 he om]
    intro _
    exact ⟨by omega,by simp⟩
   ·rw [I4 he,I4 he]
    intro hc
    have:=hk.arm y hy hlt hc
    exact ⟨this.1,by omega⟩
  ·rw [I2 (by simp;omega)];omega
 ·intro y hy
  simp only [X2,List.mem_replicate] at hy
  rcases hy with hy|⟨_,rfl⟩
  ·exact hk.nn y hy
  ·exact Int.le_refl 0
 ·intro y hy
  simp only [X2,List.mem_replicate] at hy
  rcases hy with hy|⟨_,rfl⟩
  ·exact hk.bd y hy
  ·exact hq
theorem Dn {n:Zx} {L:Zy} {q:Int} {s:Z4} {i:Nat} {m:LI} (hk:Xk n.decls L q) (hq:0<=q) (hf:JR n L.vars s) (hop:s.op=7∨s.op=8) (hm:(XD n.decls s.op s.num)[i]? = some m) :
  Xk n.decls (Us n.decls L s.op s.num s.args i) q/\(Us n.decls L s.op s.num s.args i).vars=L.vars++m:=by
 rw [Us]
 split
 ·rename_i h8
  obtain ⟨a,ha⟩:=hf.one om
  have hb:=hf.args a (by rw [ha];simp)
  have hg:gI s.args 0=a:=by rw [ha];rfl
  rw [XD,Zr om,QJ] at hm
  cases hc:(Y2 n.decls s.num)[i]? with
  | none=>rw [hc] at hm;cases hm
  | some c=>
   rw [hc] at hm
   cases hm
   have hgc:gI (Y2 n.decls s.num) (i:Int)=c:=by rw [gI];simp [hc]
   rw [hg,hgc]
   exact O8 hk hq hb
 ·rename_i h8
  rw [XD,Zw om] at hm
  have:m=[]:=by
   match i,hm with
   | 0,hm=>simpa using hm.symm
   | 1,hm=>simpa using hm.symm
   | i+2,hm=>simp at hm
  subst this
  exact ⟨hk,by simp⟩
theorem MY {n:Zx}:∀{l:List Z4} {us vs:LI},Vy n l us=some vs->us.length<=vs.length
 | [],us,vs,h=>by rw [Vy] at h;cases h;exact YQ _
 | s::r,us,vs,h=>by
  rw [Vy] at h
  split at h
  ·cases h
  ·have:=MY h
   split at this
   ·simp only [Yk,Cx] at this;omega
   ·exact this
theorem Iq {n:Zx} {ln:LI} {L L':Zy} {op num into q:Int} {args:LI} {ds:List Zc} (hk:Xk ds L q) (h:Qv n ln L op num into args=some L'):Xk ds L' q/\L'.vars=L.vars:=by
 rw [Qv] at h
 cases ht:TQ n op num args 0 L with
 | none=>rw [ht] at h;cases h
 | some L1=>
  rw [ht] at h
  simp only at h
  obtain ⟨k1,k2,k3,k4,k5,k6⟩:=Fj hk ht
  split at h
  ·rw [BO] at h
   split at h
   ·split at h
    ·cases h
    ·cases h
     exact ⟨k1.turn rfl rfl rfl rfl (by simp) rfl k1.nn k1.bd,k2⟩
   ·cases h;exact ⟨k1,k2⟩
  ·cases h
theorem OY {L L':Zy} {m:Nat} (h:QS L m=some L'):L'=L.take m/\JI (L.own.drop m) (L.tok.drop m)=true:=by
 rw [QS] at h
 split at h
 ·rename_i hz;cases h;exact ⟨rfl,hz⟩
 ·cases h
theorem Gz {r:Option Zy} {f:Zy->Option Zy} {L:Zy} (h:Cl r f=some L):∃L1,r=some L1/\f L1=some L:=by
 cases r with
 | none=>cases h
 | some L1=>exact ⟨L1,rfl,h⟩
theorem L4 (n:Zx) (hn:Xh n) (ln:LI):∀m:Nat,
  (∀(s:Z4) (L L':Zy) (q:Int),s.sz<=m->Xk n.decls L q->0<=q->0<=YF n L.vars s->Tm n ln L s=some L'->Xk n.decls L' (q+4*s.sz)/\L'.vars=TF n L.vars s) /\
  (∀(b:Z3) (L O:Zy) (q:Int) (k:Nat),b.sz<=m->Xk n.decls L q->0<=q->0<=XK n L.vars b->k<=L.vars.length->Va n ln L k b=some O ->
   (O.own.length=k/\O.tok.length=k/\(∀x∈O.own,0<=x/\x<=q+4*b.sz))/\Ug O/\O.vars.length=k):=by
 intro m
 induction m with
 | zero=>exact ⟨fun s _ _ _ h=>by have:=s.sz_pos;omega,fun s _ _ _ _ h=>by have:=s.sz_pos;omega⟩
 | succ m ih=>
  have hs:∀(s:Z4) (L L':Zy) (q:Int),s.sz<=m+1->Xk n.decls L q->0<=q->0<=YF n L.vars s->Tm n ln L s=some L'->Xk n.decls L' (q+4*s.sz)/\L'.vars=TF n L.vars s:=by
   intro s L L' q X5 hk hq hty h
   have hp:=s.sz_pos
   have hf:=MX hty
   obtain ⟨f1,f2,f3,f4,f5⟩:=hk.len
   rw [MV] at h
   unfold QZ at h
   cases hpk:QD n ln L s.op s.num s.into s.args (Qi n ln L s.op s.num s.args s.kids) with
   | none=>rw [hpk] at h;cases h
   | some L1=>
    rw [hpk] at h
    simp only at h
    have key:Xk n.decls L1 (q+4*s.sz)/\L1.vars=L.vars:=by
     rw [QD] at hpk
     split at hpk
     ·obtain ⟨d1,d2,d3,d4,d5,d6⟩:=HD hpk
      refine ⟨hk.turn d1 d2 d3 d4 (by rw [d5]) (by rw [d6,Uu]) ?_ ?_,d1⟩
      ·rw [d6];intro x hx
       rcases K3 hx with hx|rfl
       ·exact hk.nn x hx
       ·have:=Fd (v:=gI s.args 0) hk.nn;omega
      ·rw [d6];intro x hx
       rcases K3 hx with hx|rfl
       ·have:=hk.bd x hx;omega
       ·have:=Fb (v:=gI s.args 0) hk.bd hq;omega
     split at hpk
     ·exact ⟨(hk.take hpk).le om,(QG hpk).2.1⟩
     split at hpk
     ·rename_i hop
      obtain ⟨d1,d2,d3,d4,d5,Lt,ht,d6⟩:=LA hpk
      have hkt:=hk.take ht
      have h3:=VB hn.decls (gI L.con (gI s.args 0))
      refine ⟨hk.turn d1 d2 d3 d4 d5 ?_ ?_ ?_,d1⟩
      ·rw [d6,Eo,(QG ht).2.2.2.2.2.2,Uu]
      ·rw [d6];exact Ep _ _ _ hkt.nn
      ·rw [d6];intro x hx
       have:=En _ _ _ q hq hkt.bd x hx;omega
     split at hpk
     ·rename_i hop
      split at hpk
      ·cases hpk
      ·cases hks:s.kids with
       | nil=>rw [hks,Qi] at hpk;cases hpk
       | cons b bs=>
        rw [hks,Qi] at hpk
        unfold Aj at hpk
        cases hb:Va n ln (Us n.decls L s.op s.num s.args 0) L.vars.length b with
        | none=>rw [hb] at hpk;cases hpk
        | some one=>
         rw [hb] at hpk
         simp only at hpk
         split at hpk
         ·cases hpk
          obtain ⟨q1,q2,q3⟩:=hf.kids hop
          have hks0:s.kids[0]? = some b:=by rw [hks];rfl
          obtain ⟨a0,ha0⟩:=BN (xs:=XD n.decls s.op s.num) (j:=0) om
          obtain ⟨k1,k2⟩:=Dn hk hq hf hop ha0
          have hbz:=VP hks0
          obtain ⟨⟨r1,r2,r3⟩,_⟩:=ih.2 b _ one q L.vars.length om k1 hq (by rw [k2];exact q3 0 b a0 hks0 ha0) (by rw [k2];simp) hb
          refine ⟨hk.turn rfl rfl rfl rfl (by simp only;omega) (by simp only;omega) (fun x hx=>(r3 x hx).1) (fun x hx=>?_),rfl⟩
          have:=(r3 x hx).2;omega
         ·cases hpk
     ·obtain ⟨k1,k2⟩:=Iq hk hpk
      exact ⟨k1.le om,k2⟩
    split at h
    ·rename_i hd
     cases h
     refine ⟨key.1.grow om ?_,by rw [TF,Zw hd];simp [Zy.grow,key.2]⟩
     split<;>omega
    ·rename_i hd
     cases h
     exact ⟨key.1,by rw [TF,Zr hd];exact key.2⟩
  refine ⟨hs,?_⟩
  intro b L O q k X5 hk hq hty hkl h
  have hsteps:∀(l:List Z4) (L L':Zy) (q:Int) (vs:LI),Y3 l<=m->Xk n.decls L q->0<=q->Vy n l L.vars=some vs->QF n ln L l=some L'->Xk n.decls L' (q+4*Y3 l)/\L'.vars=vs:=by
   intro l
   induction l with
   | nil=>intro L L' q vs _ hk _ h1 h2;rw [Vy] at h1;rw [QF] at h2;cases h1;cases h2;exact ⟨by simpa [Y3] using hk,rfl⟩
   | cons s r ihr=>
    intro L L' q vs hz hk hq h1 h2
    rw [Y3] at hz
    rw [QF] at h2
    obtain ⟨L1,e1,e2⟩:=Gz h2
    rw [Vy] at h1
    split at h1
    ·cases h1
    ·rename_i h0
     obtain ⟨k1,k2⟩:=hs s L L1 q om hk hq om e1
     obtain ⟨k3,k4⟩:=ihr L1 L' (q+4*s.sz) vs om k1 om (by rw [k2];exact h1) e2
     exact ⟨k3.le (by rw [Y3];omega),k4⟩
  have hbz:=b.sz_eq
  rw [Eu] at h
  obtain ⟨L1,e1,e2⟩:=Gz h
  rw [Ev] at hty
  cases hv:Vy n b.steps L.vars with
  | none=>rw [hv] at hty;simp at hty
  | some vs=>
   obtain ⟨k1,k2⟩:=hsteps b.steps L L1 q vs om hk hq hv e1
   have hlen:=MY hv
   rw [QY] at e2
   obtain ⟨L2,e3,e4⟩:=Gz e2
   have k3:Xk n.decls L2 (q+4*Y3 b.steps)/\L2.vars=L1.vars:=by
    split at e3
    ·exact ⟨k1.take e3,(QG e3).2.1⟩
    ·cases e3;exact ⟨k1,rfl⟩
   obtain ⟨rfl,_⟩:=OY e4
   obtain ⟨g1,g2,g3,g4,g5⟩:=k3.1.len
   have hl2:L2.vars.length=vs.length:=by rw [k3.2,k2]
   refine ⟨⟨by simp [Zy.take];omega,by simp [Zy.take];omega,fun x hx=>?_⟩,⟨by simp [Zy.take];omega,by simp [Zy.take];omega,by simp [Zy.take];omega,by simp [Zy.take];omega,by simp [Zy.take];omega⟩,by simp [Zy.take];omega⟩
   have hx':x∈L2.own:=Tp hx
   have:=k3.1.nn x hx'
   have:=k3.1.bd x hx'
   omega
theorem MW {n:Zx} (hn:Xh n) {ln:LI} {s:Z4} {L L':Zy} {q:Int} (hk:Xk n.decls L q) (hq:0<=q) (hty:0<=YF n L.vars s) (h:Tm n ln L s=some L'):Xk n.decls L' (q+4*s.sz)/\L'.vars=TF n L.vars s:=
 (L4 n hn ln s.sz).1 s L L' q (YQ _) hk hq hty h
theorem H8 {n:Zx} (hn:Xh n) {ln:LI} {b:Z3} {L O:Zy} {q:Int} {k:Nat} (hk:Xk n.decls L q) (hq:0<=q) (hty:0<=XK n L.vars b) (hkl:k<=L.vars.length) (h:Va n ln L k b=some O) :
  O.own.length=k/\O.tok.length=k/\(∀x∈O.own,0<=x/\x<=q+4*b.sz):=
 ((L4 n hn ln b.sz).2 b L O q k (YQ _) hk hq hty hkl h).1
theorem Cb {n:Zx} (hn:Xh n) {ln:LI} {s:Z4} {L L1:Zy} {q:Int} (hk:Xk n.decls L q) (hq:0<=q) (hf:JR n L.vars s)
  (hpk:QD n ln L s.op s.num s.into s.args (Qi n ln L s.op s.num s.args s.kids)=some L1):Xk n.decls L1 (q+4*s.sz)/\L1.vars=L.vars:=by
 have hp:=s.sz_pos
 obtain ⟨f1,f2,f3,f4,f5⟩:=hk.len
 rw [QD] at hpk
 split at hpk
 ·obtain ⟨d1,d2,d3,d4,d5,d6⟩:=HD hpk
  refine ⟨hk.turn d1 d2 d3 d4 (by rw [d5]) (by rw [d6,Uu]) ?_ ?_,d1⟩
  ·rw [d6];intro x hx
   rcases K3 hx with hx|rfl
   ·exact hk.nn x hx
   ·have:=Fd (v:=gI s.args 0) hk.nn;omega
  ·rw [d6];intro x hx
   rcases K3 hx with hx|rfl
   ·have:=hk.bd x hx;omega
   ·have:=Fb (v:=gI s.args 0) hk.bd hq;omega
 split at hpk
 ·exact ⟨(hk.take hpk).le om,(QG hpk).2.1⟩
 split at hpk
 ·rename_i hop
  obtain ⟨d1,d2,d3,d4,d5,Lt,ht,d6⟩:=LA hpk
  have hkt:=hk.take ht
  have h3:=VB hn.decls (gI L.con (gI s.args 0))
  refine ⟨hk.turn d1 d2 d3 d4 d5 ?_ ?_ ?_,d1⟩
  ·rw [d6,Eo,(QG ht).2.2.2.2.2.2,Uu]
  ·rw [d6];exact Ep _ _ _ hkt.nn
  ·rw [d6];intro x hx
   have:=En _ _ _ q hq hkt.bd x hx;omega
 split at hpk
 ·rename_i hop
  split at hpk
  ·cases hpk
  ·cases hks:s.kids with
   | nil=>rw [hks,Qi] at hpk;cases hpk
   | cons b bs=>
    rw [hks,Qi] at hpk
    unfold Aj at hpk
    cases hb:Va n ln (Us n.decls L s.op s.num s.args 0) L.vars.length b with
    | none=>rw [hb] at hpk;cases hpk
    | some one=>
     rw [hb] at hpk
     simp only at hpk
     split at hpk
     ·cases hpk
      obtain ⟨q1,q2,q3⟩:=hf.kids hop
      have hks0:s.kids[0]? = some b:=by rw [hks];rfl
      obtain ⟨a0,ha0⟩:=BN (xs:=XD n.decls s.op s.num) (j:=0) om
      obtain ⟨k1,k2⟩:=Dn hk hq hf hop ha0
      have hbz:=VP hks0
      obtain ⟨r1,r2,r3⟩:=H8 hn k1 hq (by rw [k2];exact q3 0 b a0 hks0 ha0) (by rw [k2];simp) hb
      refine ⟨hk.turn rfl rfl rfl rfl (by simp only;omega) (by simp only;omega) (fun x hx=>(r3 x hx).1) (fun x hx=>?_),rfl⟩
      have:=(r3 x hx).2;omega
     ·cases hpk
 ·obtain ⟨k1,k2⟩:=Iq hk hpk
  exact ⟨k1.le om,k2⟩
end Go.Abs
section
namespace Go.Abs
theorem O9 {ds:List Zc} {op num:Int} {i:Nat} {m:LI} (h8:op=8) (h:(XD ds op num)[i]? = some m):∃c,(Y2 ds num)[i]? = some c/\m=Y5 ds c:=by
 rw [XD,Zr om,QJ] at h
 cases hc:(Y2 ds num)[i]? with
 | none=>rw [hc] at h;cases h
 | some c=>rw [hc] at h;cases h;exact ⟨c,rfl,rfl⟩
theorem SX {ds:List Zc} {L:Zy} {op num x c:Int} {args:LI} {i:Nat} (h8:op=8) (hx:args[0]? = some x) (hc:(Y2 ds num)[i]? = some c):Us ds L op num args i=JU ds L x c:=by
 have h1:gI args 0=x:=by rw [gI];simp [hx]
 have h2:gI (Y2 ds num) (i:Int)=c:=by rw [gI];simp [hc]
 rw [Us,Zw h8,h1,h2]
theorem SY {ds:List Zc} {L:Zy} {op num:Int} {args:LI} {i:Nat} (h8:¬op=8):Us ds L op num args i=L:=by rw [Us,Zr h8]
theorem Z02 {n:Zx} {ln:LI} {L:Zy} {op num:Int} {args:LI} {kids:List Z3} {kb:Z3} (h:kids[0]? = some kb) :
  Qi n ln L op num args kids=Aj L (Va n ln (Us n.decls L op num args 0) L.vars.length kb) fun one=>QA n ln L op num args one (kids.drop 1) 1:=by
 cases kids with
 | nil=>simp at h
 | cons b bs=>simp at h;subst h;rw [Qi];rfl
theorem Z03 {n:Zx} {ln:LI} {L one:Zy} {op num:Int} {args:LI} {kids:List Z3} {kb:Z3} {k:Nat} (h:kids[k]? = some kb) :
  QA n ln L op num args one (kids.drop k) k=DQ one (Va n ln (Us n.decls L op num args k) L.vars.length kb) (QA n ln L op num args one (kids.drop (k+1)) (k+1)):=by
 rw [Yn h,QA]
def JV (n:Zx) (ln:LI) (L:Zy) (s:Z4):Option Zy:=
 if s.op=8/\¬VV L ln (gI s.args 0)=true then none else Qi n ln L s.op s.num s.args s.kids
theorem OA {n:Zx} {ln:LI} {L:Zy} {s:Z4} {kb:Z3} (h:¬(s.op=8/\¬VV L ln (gI s.args 0)=true)) (hk:s.kids[0]? = some kb) :
  JV n ln L s=Aj L (Va n ln (Us n.decls L s.op s.num s.args 0) L.vars.length kb) fun one=>QA n ln L s.op s.num s.args one (s.kids.drop 1) 1:=by
 rw [JV,Zr h,Z02 hk]
theorem KI {xs:LI} {x:Int} (h:xs[0]? = some x):gI xs 0=x:=by rw [gI];simp [h]
end Go.Abs
namespace Go.Abs
theorem Ug.grow {L:Zy} {t o p:Int} (h:Ug L):Ug (L.grow t o p):=by
 obtain ⟨f1,f2,f3,f4,f5⟩:=h
 exact ⟨by simp [Zy.grow,f1],by simp [Zy.grow,f2],by simp [Zy.grow,f3],by simp [Zy.grow,f4],by simp [Zy.grow,f5]⟩
theorem Ug.arm {L:Zy} {i j:Nat} {c d:Int} (h:Ug L):Ug ⟨L.vars,L.own,L.par,L.con.set i c,L.fst.set j d,L.tok⟩:=by
 obtain ⟨f1,f2,f3,f4,f5⟩:=h
 exact ⟨f1,f2,by simp [f3],by simp [f4],f5⟩
end Go.Abs
namespace Go.Abs
theorem IT {n:Zx} (hn:Xh n) {ln:LI} {L O:Zy} {q:Int} {s:Z4} {i:Nat} {kb:Z3} {m:LI} (hk:Xk n.decls L q) (hq:0<=q) (hf:JR n L.vars s) (hop:s.op=7∨s.op=8)
  (_:s.kids[i]? = some kb) (harm:(XD n.decls s.op s.num)[i]? = some m) (hbt:0<=XK n (L.vars++m) kb) (h:Va n ln (Us n.decls L s.op s.num s.args i) L.vars.length kb=some O) :
  O.own.length=L.vars.length/\O.tok.length=L.vars.length:=by
 obtain ⟨k1,k2⟩:=Dn hk hq hf hop harm
 obtain ⟨r1,r2,_⟩:=H8 hn k1 hq (by rw [k2];exact hbt) (by rw [k2];simp) h
 exact ⟨r1,r2⟩
theorem Z30 {one two:Zy} {r:Bool} (h:¬(¬one.own=two.own∨¬one.tok=two.tok)):DQ one (some two) r=r:=Zw ⟨Ct.1 fun q=>h (.inl q),Ct.1 fun q=>h (.inr q)⟩
theorem Z2z {one two:Zy} {r:Bool} (h:¬one.own=two.own∨¬one.tok=two.tok):DQ one (some two) r=false:=Zr fun q=>h.elim (fun z=>z q.1) fun z=>z q.2
theorem Z0u {L one:Zy} {f:Zy->Bool} (h:f one=true):Aj L (some one) f=some ⟨L.vars,one.own,L.par,L.con,L.fst,one.tok⟩:=Zw h
theorem La {L one:Zy} {f:Zy->Bool} (h:f one=false):Aj L (some one) f=none:=Zr (by rw [h];simp)
end Go.Abs
namespace Go.Abs
section
variable {n:Zx} {ln:LI} {L:Zy} {s:Z4}
abbrev K7 (n:Zx) (ln:LI) (L:Zy) (s:Z4):Option Zy:=QD n ln L s.op s.num s.into s.args (Qi n ln L s.op s.num s.args s.kids)
theorem LF {x:Int} (h:s.op=14) (hx:gI s.args 0=x):K7 n ln L s=JZ L ln x:=hx▸Zw h
theorem LG {x:Int} (h:s.op=15) (hx:gI s.args 0=x):K7 n ln L s=UJ L x:=by rw [<-hx,K7,QD,Zr om,Zw h]
theorem LH {x:Int} (h:s.op=16∨s.op=17) (hx:gI s.args 0=x):K7 n ln L s=K6 n.decls L s.op x:=by rw [<-hx,K7,QD,Zr om,Zr om,Zw h]
theorem LJ (h:s.op=7∨s.op=8):K7 n ln L s=JV n ln L s:=by rw [K7,QD,Zr om,Zr om,Zr om,Zw h,JV]
theorem LK (h1:¬s.op=14) (h2:¬s.op=15) (h3:¬(s.op=16∨s.op=17)) (h4:¬(s.op=7∨s.op=8)):K7 n ln L s=Qv n ln L s.op s.num s.into s.args:=by
 rw [K7,QD,Zr h1,Zr h2,Zr h3,Zr h4]
theorem Ph {v:Int} (h:¬VV L ln v=true):JZ L ln v=none:=Zr h
theorem Pi {v x:Int} (h:¬¬VV L ln v=true) (hx:gI L.own v=x):JZ L ln v=some ⟨L.vars,L.own.set v.toNat (x+1),L.par,L.con,L.fst,L.tok⟩:=by rw [JZ,Zw (Ct.1 h),hx]
theorem Ua (n:Zx) (ln:LI) (L:Zy) (s:Z4):Tm n ln L s=QZ L s.op (YF n L.vars s) (K7 n ln L s):=MV n ln L s
theorem U2 {X:Zy} {op t:Int} (h:XE op=true/\t≠0):QZ L op t (some X)=some (X.grow t 1 (-1)):=by
 unfold QZ;simp only [h.1,↓reduceIte];rw [Zw h.2]
theorem U3 {X:Zy} {op t:Int} (h:¬(XE op=true/\t≠0)) (h2:XE op=true):QZ L op t (some X)=some (X.grow 0 0 (-1)):=by
 have ht:t=0:=Ct.1 fun q=>h ⟨h2,q⟩
 subst ht
 unfold QZ;simp only [h2,↓reduceIte];rfl
theorem U4 {X:Zy} {op t:Int} (h:¬XE op=true):QZ L op t (some X)=some X:=by
 unfold QZ;simp only [Zr h]
end
end Go.Abs
namespace Go.Abs
theorem H9 {n:Zx} {us:LI} {b:Z3} (h:0<=XK n us b):∃vs t,Vy n b.steps us=some vs/\Vs vs b.result=some t/\0<=t:=by
 rw [Ev] at h
 cases hv:Vy n b.steps us with
 | none=>rw [hv] at h;simp at h
 | some vs=>
  rw [hv] at h
  simp only at h
  cases ha:Vs vs b.result with
  | none=>rw [ha] at h;simp at h
  | some t=>rw [ha] at h;exact ⟨vs,t,rfl,ha,h⟩
theorem MZ {n:Zx} {us vs:LI} {s:Z4} {r:List Z4} (h:Vy n (s::r) us=some vs):0<=YF n us s/\Vy n r (TF n us s)=some vs:=by
 rw [Vy] at h
 split at h
 ·cases h
 ·exact ⟨by omega,h⟩
theorem Mo (n:Zx) (us:LI) (s:Z4):us.length<=(TF n us s).length/\(TF n us s).length<=us.length+s.sz:=by
 have:=s.sz_pos
 rw [TF];split
 ·simp only [Yk,Cx];omega
 ·omega
end Go.Abs
namespace Go.Abs
theorem PA {X L:Zy} {m:Nat} {r x:Int} (hg:gI L.vars r=x) (h:x≠0) (ht:UJ L r=some X):QY m r L=QS X m:=by rw [QY,hg,Zw h,ht];rfl
theorem Pz {L:Zy} {m:Nat} {r x:Int} (hg:gI L.vars r=x) (h:x≠0) (ht:UJ L r=none):QY m r L=none:=by rw [QY,hg,Zw h,ht];rfl
theorem BD {L:Zy} {m:Nat} {r x:Int} (hg:gI L.vars r=x) (h:¬x≠0):QY m r L=QS L m:=by rw [QY,hg,Zr h];rfl
end Go.Abs
namespace Go.Abs
theorem LE {ds:List Zc} {lent:LI}:∀{ps:LI} {i:Nat} {L:Zy},Xk ds L 1->Xk ds (KX lent ps i L) 1/\(KX lent ps i L).vars=L.vars++ps
 | [],i,L,hk=>⟨hk,by simp [KX]⟩
 | t::r,i,L,hk=>by
  rw [KX]
  obtain ⟨k1,k2⟩:=LE (lent:=lent) (ps:=r) (i:=i+1) (hk.grow (t:=t) (o:=if t≠0/\¬(i:Int)∈lent then 1 else 0) (p:=-1) om (by split<;>omega))
  exact ⟨k1,by rw [k2];simp [Zy.grow]⟩
theorem Z0y (ds:List Zc) (r:Y8):Xk ds (Ql r) 1/\(Ql r).vars=r.params:=by
 have h:Xk ds (⟨[],[],[],[],[],[]⟩:Zy) 1:=⟨⟨rfl,rfl,rfl,rfl,rfl⟩,fun j h1 h2=>by simp at h2;omega,fun j h1 h2=>by simp at h2;omega,by simp,by simp⟩
 obtain ⟨k1,k2⟩:=LE (lent:=r.lent) (ps:=r.params) (i:=0) h
 exact ⟨k1,by rw [Ql,k2];rfl⟩
end Go.Abs
namespace Go.Abs
theorem M8 {n:Zx}:∀{l:List Y8},J0 n l=true->∀r∈l,¬Ub r.body<0/\XK n r.params r.body=r.result
 | [],_,r,h=>by simp at h
 | a::l,h,r,hr=>by
  rw [J0] at h
  split at h
  ·rename_i h1
   rcases Yq.1 hr with rfl|hr
   ·exact h1
   ·exact M8 h r hr
  ·cases h
theorem Z5q {n:Zx} (hz:Ja n) (h:Q2 n=true):Xh n/\∀r∈n.routines,0<=XK n r.params r.body:=by
 simp only [Q2,Wm] at h
 refine ⟨Lf hz h.1,fun r hr=>?_⟩
 rw [(M8 h.2 r hr).2]
 have h1:=h.1
 simp only [K4,QH,Wm] at h1
 have:=Mv h1.2.1.2.2.1 (UI r) (Wf.2 ⟨r,hr,rfl⟩)
 simp only [Aq,Wm,decide_eq_true_eq,UI] at this
 exact (of_decide_eq_true this.2.2).1
end Go.Abs
end
section
namespace Go.Abs
end Go.Abs
namespace Go.Abs
end Go.Abs
namespace Go.Abs
end Go.Abs
end
section
namespace Go.Abs
end Go.Abs
namespace Go.Abs
end Go.Abs
namespace Go.Abs
end Go.Abs
end
section
namespace Go.Abs
structure GS where
 pms:LI
 lnt:LI
 res:Int
end Go.Abs
namespace Go.Abs
section
variable {ds:List Zc} {fs:List GS} {x:GS}
end
end Go.Abs
end
section
namespace Go.Abs
structure NTy (n:Zx):Prop where
 result:∀r∈n.routines,0<=r.result
 params:∀r∈n.routines,∀p∈r.params,0<=p
 decl:∀d∈n.decls,d.cons.length=0->0<=d.frm/\0<=d.to_
 fields:∀c,∀f∈Y5 n.decls c,0<=f
end Go.Abs
namespace Go.Abs
end Go.Abs
namespace Go.Abs
end Go.Abs
namespace Go.Abs
section
variable {S:Option Int} {c:Prop} [Decidable c] {v:Int} {b:Bool}
end
section
variable {n:Zx} {op num:Int} {ts:LI}
end
end Go.Abs
end
namespace Go.Abs
mutual
def Z4.rng:Z4->Prop
 | .mk _ num _ _ kids=>(-9223372036854775808<=num/\num<=9223372036854775807)/\QQ kids
def Z3.rng:Z3->Prop
 | .mk steps _=>Kb steps
def Kb:List Z4->Prop
 | []=>True
 | s::r=>s.rng/\Kb r
def QQ:List Z3->Prop
 | []=>True
 | b::r=>b.rng/\QQ r
end
theorem Z4.rng_eq (s:Z4):s.rng=((-9223372036854775808<=s.num/\s.num<=9223372036854775807)/\QQ s.kids):=by cases s;rw [Z4.rng];rfl
theorem Z3.rng_eq (b:Z3):b.rng=Kb b.steps:=by cases b;rw [Z3.rng];rfl
section
variable {n:Zx} {us ts:LI} {s:Z4}
end
theorem Z4z {n:Zx} {us:LI} {s:Z4} (h:0<=YF n us s):(0<=s.op/\s.op<=11)∨(14<=s.op/\s.op<=17):=by
 rw [Gs] at h
 by_cases hq:(0<=s.op/\s.op<=11)∨(14<=s.op/\s.op<=17)
 ·exact hq
 ·exfalso
  split at h
  ·omega
  rw [Zr om,Zr om,Zr om,Zr om,Zr om,Zr om,Zr om,Zr om,Zr om] at h
  omega
theorem HC {n:Zx} {us:LI} {s:Z4} (h:0<=YF n us s):XE s.op=!YP s.op:=by
 have:=Z4z h
 rw [XE,YP,Xl];simp;omega

end Go.Abs
section
namespace Go.Abs
structure Ay where
 mat:Int
 fst:Int
 fds:LI
 chg:Bool
def Lm:List Ay->Int->Option Ay
 | [],_=>none
 | a::r,v=>match Lm r v with
  | some x=>some x
  | none=>if a.mat=v then some a else none
structure Z6e (ds:List Zc) (L:Zy) (as1:List Ay):Prop where
 rng:∀a∈as1,0<=a.mat/\a.mat<a.fst/\a.fst+a.fds.length<=L.vars.length
 par:∀a∈as1,∀v:Int,a.fst<=v->v<a.fst+a.fds.length->gI L.par v=a.mat
 non:∀v:Int,0<=v->v<L.vars.length->0<=gI L.par v->∃a∈as1,a.fst<=v/\v<a.fst+a.fds.length
 off:∀v:Int,0<=v->v<L.vars.length->match Lm as1 v with
  | none=>gI L.con v<0
  | some a=>0<=gI L.con v/\a.fst=gI L.fst v/\a.fds=Y5 ds (gI L.con v)
end Go.Abs
namespace Go.Abs
end Go.Abs
namespace Go.Abs
end Go.Abs
namespace Go.Abs
section
variable {n:Zx} {ln:LI} {L:Zy} {op v:Int} {am:List Ay} {a:Ay}
end
end Go.Abs
namespace Go.Abs
end Go.Abs
end
section
namespace Go.Abs
section
variable {n:Zx} {us:LI} {op num:Int}
end
end Go.Abs
namespace Go.Abs
end Go.Abs
namespace Go.Abs
end Go.Abs
end
section
namespace Go.Abs
section
variable {n:Zx} {ln:LI}
end
end Go.Abs
namespace Go.Abs
end Go.Abs
namespace Go.Abs
end Go.Abs
namespace Go.Abs
section
variable {n:Zx} {ln:LI} {L:Zy} {s:Z4}
end
end Go.Abs
namespace Go.Abs
end Go.Abs
namespace Go.Abs
end Go.Abs
namespace Go.Abs
end Go.Abs
end
section
namespace Go.Abs
end Go.Abs
namespace Go.Abs
end Go.Abs
namespace Go.Abs
end Go.Abs
end
section
namespace Go.Abs
end Go.Abs
namespace Go.Abs
end Go.Abs
namespace Go.Abs
end Go.Abs
namespace Go.Abs
end Go.Abs
end
namespace Go.Abs
def Zl (op v:Int):Z4:=.mk op 0 0 [v] []
def VO (ds:List Zc) (num:Int) (k:Nat):LI:=((Y2 ds num).map (Y5 ds))[k]?.getD []
section
variable {ds:List Zc} {am:List Ay} {m:Nat}
end
theorem HS {ds:List Zc} {num:Int} {k:Nat} {m:LI} (h:((Y2 ds num).map (Y5 ds))[k]? = some m):VO ds num k=m:=by rw [VO,h];rfl
theorem PG {ds:List Zc} (hd:Wg ds) (num:Int) (k:Nat):(VO ds num k).length<=3:=by
 rw [VO,QJ]
 cases (Y2 ds num)[k]? with
 | none=>simp
 | some c=>exact VB hd c
theorem Gr {xs:List Z4} {k:Nat} {s:Z4} (h:xs[k]? = some s):Y3 (xs.take (k+1))=Y3 (xs.take k)+s.sz:=by
 induction xs generalizing k with
 | nil=>simp at h
 | cons t r ih=>
  cases k with
  | zero=>simp at h;subst h;simp [Y3]
  | succ k=>rw [Aw,Aw,Y3,Y3,ih (by simpa using h)];omega
theorem Q0 (xs:List Z4) (k:Nat):Y3 (xs.take k)<=Y3 xs:=by
 induction xs generalizing k with
 | nil=>simp
 | cons t r ih=>
  cases k with
  | zero=>simp [Y3]
  | succ k=>have:=ih k;rw [Aw,Y3,Y3];omega
theorem Z36 {n:Zx} {us:LI} {s:Z4} (g:0<=YF n us s) (h:YP s.op=true):TF n us s=us:=by rw [TF,HC g,h];rfl
theorem Z35 {n:Zx} {us:LI} {s:Z4} (g:0<=YF n us s) (h:¬YP s.op=true):(TF n us s).length=us.length+1:=by
 rw [TF,HC g,Cs.2 h];simp
theorem Z37 {n:Zx} {us:LI} {s:Z4} (g:0<=YF n us s):(TF n us s).length=if YP s.op=true then us.length else us.length+1:=by
 split
 ·rw [Z36 g (by assumption)]
 ·exact Z35 g (by assumption)

theorem Um:∀(xs ys:List Z4),Y3 (xs++ys)=Y3 xs+Y3 ys
 | [],ys=>by simp [Y3]
 | x::r,ys=>by rw [TJ,Y3,Y3,Um r ys];omega
theorem CN (op v:Int):(Zl op v).sz=2:=by rw [Zl,Z4.sz];simp [YH]
theorem Gp (op:Int):∀l:LI,Y3 (l.map (Zl op))=2*l.length
 | []=>by simp [Y3]
 | x::r=>by rw [Ue,Y3,CN,Gp op r,YD];omega
section
variable {ds:List Zc} (hd:Wg ds)
include hd
end
section
variable {ds:List Zc} {cons first:LI}
end
section
variable {ds:List Zc} (hd:Wg ds)
include hd
end
def Xw:List Z4->Nat
 | []=>0
 | s::r=>if s.op=14∨s.op=15 then Xw r+1 else 0
def W4 (op:Int):List Z4->LI
 | []=>[]
 | s::r=>if s.op=op then gI s.args 0::W4 op r else W4 op r
def VR:LI->Int->LI->LI->LI × LI
 | [],_,D,R=>(D,R)
 | f::r,q,D,R=>if f≠0/\q∈D then VR r (q+1) (D.erase q) R else if f≠0 then VR r (q+1) D (R++[q]) else VR r (q+1) D R
def KW (xs:List Z4) (x:Int) (fs:LI) (q:Int):LI × LI:=VR fs q (W4 14 (xs.take (Xw xs))) ((W4 15 (xs.take (Xw xs))).erase x)
def QM (xs:List Z4) (x:Int) (fs:LI) (q:Int):List Z4:=
 if x∈W4 15 (xs.take (Xw xs))/\fs.length≠0 then (KW xs x fs q).1.map (Zl 14)++[Zl 16 x]++(KW xs x fs q).2.map (Zl 15)++xs.drop (Xw xs) else xs
def Qr (b:Z3) (x:Int) (fs:LI) (q:Int):Z3:=.mk (QM b.steps x fs q) b.result
theorem DJ:∀xs:List Z4,Xw xs<=xs.length
 | []=>YQ _
 | s::r=>by have:=DJ r;rw [Xw];split<;>simp<;>omega
theorem Mg:∀{xs:List Z4} {s:Z4},s∈xs.take (Xw xs)->s.op=14∨s.op=15
 | [],s,h=>by simp [Xw] at h
 | t::r,s,h=>by
  rw [Xw] at h
  split at h
  ·rename_i q
   rw [Aw] at h
   rcases Yq.1 h with rfl|h
   ·exact q
   ·exact Mg h
  ·simp at h
theorem Es:∀xs:List Z4,(W4 14 xs).length+(W4 15 xs).length<=xs.length
 | []=>by simp [W4]
 | s::r=>by
  have:=Es r
  rw [W4,W4]
  by_cases h:s.op=14
  ·rw [Zw h,Zr om];simp;omega
  ·rw [Zr h];split<;>simp<;>omega
theorem DD:∀(fs:LI) (q:Int) (D R:LI),(VR fs q D R).1.length+(VR fs q D R).2.length<=D.length+R.length+fs.length
 | [],q,D,R=>by simp [VR]
 | f::r,q,D,R=>by
  rw [VR,YD]
  split
  ·have:=DD r (q+1) (D.erase q) R
   have h2:=List.length_erase_le (a:=q) (l:=D)
   omega
  ·split
   ·have:=DD r (q+1) D (R++[q])
    simp only [Yk,YD,X6] at this
    omega
   ·have:=DD r (q+1) D R
    omega
theorem Z1l {xs:List Z4} {x:Int} {fs:LI} {q:Int} (h:x∈W4 15 (xs.take (Xw xs))) (hf:fs.length<=3):(KW xs x fs q).1.length+(KW xs x fs q).2.length<=Xw xs+2:=by
 have h1:=DD fs q (W4 14 (xs.take (Xw xs))) ((W4 15 (xs.take (Xw xs))).erase x)
 have h2:=Es (xs.take (Xw xs))
 have h3:=List.length_pos_of_mem h
 rw [List.length_erase_of_mem h] at h1
 rw [Wq] at h2
 have h4:=DJ xs
 unfold KW
 omega
theorem Z4m (xs:List Z4) (k:Nat):Y3 xs=Y3 (xs.take k)+Y3 (xs.drop k):=by rw [<-Um,Un]
theorem MR:∀xs:List Z4,(∀s∈xs,2<=s.sz)->2*xs.length<=Y3 xs
 | [],_=>by simp
 | s::r,h=>by
  have h1:=MR r fun t ht=>h t (Xo _ ht)
  have h2:=h s (YV ..)
  rw [Y3,YD];omega
theorem NX {xs:List Z4} {x:Int} {fs:LI} {q:Int} (hf:fs.length<=3) (h:∀s∈xs,s.op=14∨s.op=15->2<=s.sz):Y3 (QM xs x fs q)<=Y3 xs+6:=by
 rw [QM]
 split
 ·rename_i hc
  have h1:=Z1l (q:=q) hc.1 hf
  have h2:=MR (xs.take (Xw xs)) fun s hs=>h s (Tp hs) (Mg hs)
  have h3:=Z4m xs (Xw xs)
  have h4:=DJ xs
  rw [Wq] at h2
  rw [Um,Um,Um,Gp,Gp,Y3,Y3,CN]
  omega
 ·omega
def Cn (s:Z4):Prop:=s=Zl s.op (gI s.args 0)
theorem NW {xs:List Z4} {m:Int} {fs:LI} {q:Int} (h:¬(m∈W4 15 (xs.take (Xw xs))/\fs.length≠0)):QM xs m fs q=xs:=Zr h
end Go.Abs
section
namespace Go.Abs
mutual
def J2 (ds:List Zc) (m:Nat):Z4->Z4
 | .mk op num into args kids=>.mk op num into args (U8 ds m op num args kids 0)
def U8 (ds:List Zc) (m:Nat) (op num:Int) (args:LI):List Z3->Nat->List Z3
 | [],_=>[]
 | b::r,k=>(if op=8 then Qr (Wp ds (m+(VO ds num k).length) b) (gI args 0) (VO ds num k) m else Wp ds m b)::U8 ds m op num args r (k+1)
def Vx (ds:List Zc) (m:Nat):List Z4->List Z4
 | []=>[]
 | s::r=>J2 ds m s::Vx ds (if YP s.op=true then m else m+1) r
def Wp (ds:List Zc) (m:Nat):Z3->Z3
 | .mk steps result=>.mk (Vx ds m steps) result
end
def DT (ds:List Zc) (m:Nat) (op num:Int) (args:LI) (k:Nat) (b:Z3):Z3:=if op=8 then Qr (Wp ds (m+(VO ds num k).length) b) (gI args 0) (VO ds num k) m else Wp ds m b
theorem Gi (ds:List Zc) (m:Nat) (s:Z4):J2 ds m s=.mk s.op s.num s.into s.args (U8 ds m s.op s.num s.args s.kids 0):=by cases s;rw [J2];rfl
theorem DR (ds:List Zc) (m:Nat) (b:Z3):Wp ds m b=.mk (Vx ds m b.steps) b.result:=by cases b;rw [Wp];rfl
section
variable {ds:List Zc} {m:Nat}
theorem Z3h {xs acc r:List Z4} {k:Nat} {s:Z4} (h:xs[k]? = some s) (ha:acc++Vx ds m (xs.drop k)=r) :
  (acc++[.mk s.op s.num s.into s.args (U8 ds m s.op s.num s.args s.kids 0)])++Vx ds (if YP s.op=true then m else m+1) (xs.drop (k+1))=r:=by
 rw [Yn h,Vx,Gi] at ha
 rw [<-ha];simp
theorem Z3g {xs acc r:List Z4} {k:Nat} (h:xs.length<=k) (ha:acc++Vx ds m (xs.drop k)=r):acc=r:=by
 rw [Xz h,Vx,T3] at ha;exact ha
theorem Mw {op num:Int} {args:LI} {bs acc r:List Z3} {k:Nat} {b:Z3} (h:bs[k]? = some b) (ha:acc++U8 ds m op num args (bs.drop k) k=r) :
  (acc++[DT ds m op num args k b])++U8 ds m op num args (bs.drop (k+1)) (k+1)=r:=by
 rw [Yn h,U8] at ha
 rw [<-ha,DT];simp
theorem Z3d {op num:Int} {args:LI} {bs acc r:List Z3} {k j:Nat} (h:bs.length<=k) (ha:acc++U8 ds m op num args (bs.drop k) j=r):acc=r:=by
 rw [Xz h,U8,T3] at ha;exact ha
end
mutual
def wS (ds:List Zc):Z4->Prop
 | .mk op num into args kids=>(XE op=!YP op)/\(YP op=true->num=0/\into=0/\kids=[]/\∃a,args=[a])/\(op=8->(∃a,args=[a]/\0<=a/\a<=900000000)/\kids.length=(Y2 ds num).length)/\J3 ds kids
def J3 (ds:List Zc):List Z3->Prop
 | []=>True
 | b::r=>wB ds b/\J3 ds r
def TI (ds:List Zc):List Z4->Prop
 | []=>True
 | s::r=>wS ds s/\TI ds r
def wB (ds:List Zc):Z3->Prop
 | .mk steps _=>TI ds steps
end
section
variable {ds:List Zc}
theorem QI (s:Z4):wS ds s↔(XE s.op=!YP s.op)/\(YP s.op=true->s.num=0/\s.into=0/\s.kids=[]/\∃a,s.args=[a])/\(s.op=8->(∃a,s.args=[a]/\0<=a/\a<=900000000)/\s.kids.length=(Y2 ds s.num).length)/\J3 ds s.kids:=by cases s;rw [wS];rfl
theorem Qp (b:Z3):wB ds b↔TI ds b.steps:=by cases b;rw [wB];rfl
theorem J4:∀{xs:List Z4},TI ds xs↔∀s∈xs,wS ds s
 | []=>by simp [TI]
 | s::r=>by rw [TI,J4];simp
theorem E5:∀{xs:List Z3},J3 ds xs↔∀s∈xs,wB ds s
 | []=>by simp [J3]
 | s::r=>by rw [J3,E5];simp
theorem Nq {b:Z3} {k:Nat} {s:Z4} (h:wB ds b) (hs:b.steps[k]? = some s):wS ds s:=J4.1 ((Qp b).1 h) s (ZW hs)
theorem GI {s:Z4} {k:Nat} {b:Z3} (h:wS ds s) (hb:s.kids[k]? = some b):wB ds b:=E5.1 ((QI s).1 h).2.2.2 b (ZW hb)
theorem E6 {s:Z4} (h:wS ds s) (hc:YP s.op=true):Cn s/\s.kids=[]/\∃a,s.args=[a]:=by
 obtain ⟨h1,h2,h3,a,h4⟩:=((QI s).1 h).2.1 hc
 refine ⟨?_,h3,a,h4⟩
 cases s with
 | mk op num into args kids=>
  simp only [Z4.num,Z4.into,Z4.kids,Z4.args] at h1 h2 h3 h4
  subst h1 h2 h3 h4
  rfl
theorem Z67 {op v:Int} (h:op=14∨op=15∨op=16):wS ds (Zl op v):=(QI _).2 ⟨by show XE op=!YP op;rcases h with rfl|rfl|rfl<;>rfl,fun _=>⟨rfl,rfl,rfl,v,rfl⟩,fun e=>absurd e (show op≠8 by omega),True.intro⟩
theorem Z68 {s:Z4} (h:wS ds s):XE s.op=!YP s.op:=((QI s).1 h).1
theorem Cr {s:Z4} (h:wS ds s) (h8:s.op=8):(∃a,s.args=[a]/\0<=a/\a<=900000000)/\s.kids.length=(Y2 ds s.num).length:=((QI s).1 h).2.2.1 h8
theorem Ed {xs:List Z4} (h:TI ds xs):∀s∈xs,YP s.op=true->Cn s:=fun s hs hc=>(E6 (J4.1 h s hs) hc).1
end
section
variable {n:Zx}
end
mutual
def Z4.pz:Z4->Nat
 | .mk _ _ _ args kids=>1+args.length+Bb kids
def Z3.pz:Z3->Nat
 | .mk steps _=>1+Bc steps
def Bc:List Z4->Nat
 | []=>0
 | s::r=>s.pz+Bc r
def Bb:List Z3->Nat
 | []=>0
 | b::r=>b.pz+8+Bb r
end
mutual
theorem Z4.pz_le:∀s:Z4,s.pz<=9*s.sz
 | .mk _ _ _ args kids=>by have:=LN kids;rw [Z4.pz,Z4.sz];omega
theorem Z3.pz_le:∀b:Z3,b.pz+8<=9*b.sz
 | .mk steps _=>by have:=LO steps;rw [Z3.pz,Z3.sz];omega
theorem LO:∀xs:List Z4,Bc xs<=9*Y3 xs
 | []=>Uv _
 | s::r=>by have:=s.pz_le;have:=LO r;rw [Bc,Y3];omega
theorem LN:∀xs:List Z3,Bb xs<=9*YH xs
 | []=>Uv _
 | s::r=>by have:=s.pz_le;have:=LN r;rw [Bb,YH];omega
end
section
variable {ds:List Zc}
theorem OE {op:Int} (h:op=14∨op=15):YP op=true:=by rw [YP];simp;omega
theorem Z3i {xs:List Z4}:∀{m:Nat},TI ds xs->∀s∈Vx ds m xs,s.op=14∨s.op=15->2<=s.sz:=by
 induction xs with
 | nil=>intro m _ s hs;simp [Vx] at hs
 | cons t r ih=>
  intro m h s hs ho
  rw [Vx] at hs
  rcases Yq.1 hs with rfl|hs
  ·rw [Gi] at ho ⊢
   obtain ⟨_,_,a,ha⟩:=E6 h.1 (OE ho)
   rw [Z4.sz,ha];simp
  ·exact ih h.2 s hs ho
variable (hd:Wg ds)
include hd
mutual
theorem Z3e:∀(s:Z4) {m:Nat},wS ds s->(J2 ds m s).sz<=s.pz
 | .mk op num into args kids,m,h=>by
  have:=My kids (m:=m) (op:=op) (num:=num) (args:=args) (k:=0) h.2.2.2
  rw [J2,Z4.sz,Z4.pz];omega
theorem My:∀(bs:List Z3) {m:Nat} {op num:Int} {args:LI} {k:Nat},J3 ds bs->YH (U8 ds m op num args bs k)<=Bb bs
 | [],_,_,_,_,_,_=>YQ _
 | b::r,m,op,num,args,k,h=>by
  have h2:=My r (m:=m) (op:=op) (num:=num) (args:=args) (k:=k+1) h.2
  rw [U8,YH,Bb]
  split
  ·have h1:=DS b (m:=m+(VO ds num k).length) h.1
   have h3:=NX (xs:=(Wp ds (m+(VO ds num k).length) b).steps) (x:=gI args 0) (q:=(m:Int)) (PG hd num k) (by rw [DR];exact Z3i ((Qp b).1 h.1))
   rw [Qr,Z3.sz]
   rw [Z3.sz_eq] at h1
   omega
  ·have h1:=DS b (m:=m) h.1
   omega
theorem Mz:∀(xs:List Z4) {m:Nat},TI ds xs->Y3 (Vx ds m xs)<=Bc xs
 | [],_,_=>YQ _
 | s::r,m,h=>by
  have h1:=Z3e s (m:=m) h.1
  have h2:=Mz r (m:=if YP s.op=true then m else m+1) h.2
  rw [Vx,Y3,Bc];omega
theorem DS:∀(b:Z3) {m:Nat},wB ds b->(Wp ds m b).sz<=b.pz
 | .mk steps result,m,h=>by
  have:=Mz steps (m:=m) h
  rw [Wp,Z3.sz,Z3.pz];omega
end
end
section
variable {ds:List Zc} {m:Nat}
end
def JD (ds:List Zc) (r:Y8):Y8:=⟨r.params,r.lent,r.result,Wp ds r.params.length r.body⟩
def DU (n:Zx):Zx:=⟨n.decls,n.routines.map (JD n.decls)⟩
end Go.Abs
namespace Go.Abs
theorem Z2t {xs:List Z4} {k:Nat} {s:Z4} {r:Nat} (h:xs[k]? = some s) (hs:s.op=14∨s.op=15) (ha:k+Xw (xs.drop k)=r):k+1+Xw (xs.drop (k+1))=r:=by
 rw [Yn h,Xw,Zw hs] at ha;omega
theorem Z2u {xs:List Z4} {k:Nat} {s:Z4} {r:Nat} (h:xs[k]? = some s) (hs:¬(s.op=14∨s.op=15)) (ha:k+Xw (xs.drop k)=r):k=r:=by
 rw [Yn h,Xw,Zr hs] at ha;omega
theorem Z2s {xs:List Z4} {k:Nat} {r:Nat} (h:xs.length<=k) (ha:k+Xw (xs.drop k)=r):k=r:=by
 rw [Xz h,Xw] at ha;omega
theorem O7 {op:Int} {xs:List Z4} {acc r:LI} {k:Nat} {s:Z4} (h:xs[k]? = some s) (hs:s.op=op) (ha:acc++W4 op (xs.drop k)=r):(acc++[gI s.args 0])++W4 op (xs.drop (k+1))=r:=by
 rw [Yn h,W4,Zw hs] at ha;rw [<-ha];simp
theorem O6 {op:Int} {xs:List Z4} {acc r:LI} {k:Nat} {s:Z4} (h:xs[k]? = some s) (hs:¬s.op=op) (ha:acc++W4 op (xs.drop k)=r):acc++W4 op (xs.drop (k+1))=r:=by
 rw [Yn h,W4,Zr hs] at ha;exact ha
theorem O5 {op:Int} {xs:List Z4} {acc r:LI} {k:Nat} (h:xs.length<=k) (ha:acc++W4 op (xs.drop k)=r):acc=r:=by
 rw [Xz h,W4,T3] at ha;exact ha
theorem PC {xs acc r:LI} {y:Int} {k:Nat} {x:Int} {d:Bool} (h:xs[k]? = some x) (ha:acc++(if d=true then xs.drop k else (xs.drop k).erase y)=r) :
  (if x=y/\¬d=true then acc else acc++[x])++(if ((x==y&&!d)||d)=true then xs.drop (k+1) else (xs.drop (k+1)).erase y)=r:=by
 rw [Yn h] at ha
 rw [<-ha]
 by_cases hd:d=true
 ·simp [hd]
 ·by_cases hx:x=y
  ·simp [hd,hx]
  ·rw [Zr (fun z=>hx z.1),Zr hd,List.erase_cons_tail (by simpa using hx)]
   simp [hd,hx]
theorem PB {xs acc r:LI} {y:Int} {k:Nat} {d:Bool} (h:xs.length<=k) (ha:acc++(if d=true then xs.drop k else (xs.drop k).erase y)=r):acc=r:=by
 rw [Xz h] at ha;simpa using ha
section
variable {fs D R:LI} {q k:Nat} {f:Int} {r:LI × LI}
theorem Z1n (h:fs[k]? = some f) (h0:f≠0) (hm:((q+k:Nat):Int)∈D) (ha:VR (fs.drop k) (q+k) D R=r):VR (fs.drop (k+1)) (q+((k+1:Nat):Int)) (D.erase ((q+k:Nat):Int)) R=r:=by
 rw [Yn h,VR,Zw ⟨h0,by rw [<-Int.natCast_add];exact hm⟩,<-Int.natCast_add] at ha
 rw [<-ha];congr 1
theorem Z1o (h:fs[k]? = some f) (h0:f≠0) (hm:¬((q+k:Nat):Int)∈D) (ha:VR (fs.drop k) (q+k) D R=r):VR (fs.drop (k+1)) (q+((k+1:Nat):Int)) D (R++[((q+k:Nat):Int)])=r:=by
 rw [Yn h,VR,Zr (fun z=>hm (by rw [Int.natCast_add];exact z.2)),Zw h0,<-Int.natCast_add] at ha
 rw [<-ha];congr 1
theorem Z1p (h:fs[k]? = some f) (h0:¬f≠0) (ha:VR (fs.drop k) (q+k) D R=r):VR (fs.drop (k+1)) (q+((k+1:Nat):Int)) D R=r:=by
 rw [Yn h,VR,Zr (fun z=>h0 z.1),Zr h0] at ha
 rw [<-ha];congr 1
theorem Z1m (h:fs.length<=k) (ha:VR (fs.drop k) (q+k) D R=r):r=(D,R):=by
 rw [Xz h,VR] at ha;exact ha.symm
end
theorem NY {xs:List Z4} {x:Int} {fs:LI} {q:Int} {D R:LI} (h1:x∈W4 15 (xs.take (Xw xs))) (h2:fs.length≠0) (hr:KW xs x fs q=(D,R)):D.map (Zl 14)++[Zl 16 x]++R.map (Zl 15)++xs.drop (Xw xs)=QM xs x fs q:=by
 rw [QM,Zw ⟨h1,h2⟩,hr]
theorem Z3f {ds:List Zc} {xs:List Z4}:∀{m:Nat},TI ds xs->∀s∈Vx ds m xs,YP s.op=true->∃a,s.args=[a]:=by
 induction xs with
 | nil=>intro m _ s hs;simp [Vx] at hs
 | cons t r ih=>
  intro m h s hs ho
  rw [Vx] at hs
  rcases Yq.1 hs with rfl|hs
  ·rw [Gi] at ho ⊢
   exact (E6 h.1 ho).2.2
  ·exact ih h.2 s hs ho
end Go.Abs
end
namespace Go.Abs
mutual
def Z0.sz:Z0->Nat
 | .mk _ _ kids=>1+X8 kids
def X8:List Z0->Nat
 | []=>0
 | e::r=>e.sz+X8 r
end
theorem Z0.sz_eq (e:Z0):e.sz=1+X8 e.kids:=by cases e;rw [Z0.sz];rfl
theorem BE:∀xs ys:List Z0,X8 (xs++ys)=X8 xs+X8 ys
 | [],ys=>by simp [X8]
 | x::r,ys=>by rw [TJ,X8,X8,BE r];omega
theorem A4:∀{xs:List Z0} {k:Nat} {e:Z0},xs[k]? = some e->e.sz<=X8 xs
 | [],k,e,h=>by simp at h
 | x::r,0,e,h=>by simp at h;subst h;rw [X8];omega
 | x::r,k+1,e,h=>by have:=A4 (xs:=r) (k:=k) (by simpa using h);rw [X8];omega
theorem HM:∀{xs:List Z0},xs.length<=X8 xs
 | []=>Uv _
 | x::r=>by have:=HM (xs:=r);have:=x.sz_eq;rw [X8,YD];omega
def Ky:Zc:=⟨0,0,[⟨[]⟩,⟨[0,1]⟩]⟩
def Kz:Zc:=⟨0,0,[⟨[]⟩,⟨[3,0,3]⟩]⟩
def Hx:List Zc:=[⟨0,0,[⟨[1,3]⟩]⟩,⟨1,0,[]⟩,⟨0,0,[⟨[1,1,0]⟩,⟨[0]⟩,⟨[3]⟩]⟩,⟨0,1,[]⟩]
def KL:List (List Zc):=[[Ky,⟨0,0,[]⟩,Kz],[Ky,⟨0,0,[]⟩,Kz,⟨0,0,[⟨[1,3]⟩]⟩],[Ky,⟨0,0,[]⟩,Kz,⟨1,0,[]⟩],[Ky,⟨0,0,[]⟩,Kz,⟨0,0,[⟨[1,1,0]⟩,⟨[0]⟩,⟨[3]⟩]⟩],[Ky,⟨0,0,[]⟩,Kz,⟨0,1,[]⟩]]
def GD (ds:List Zc):Prop:=ds∈KL
theorem GD.ok {ds:List Zc} (h:GD ds):Wg ds:=by
 have k:=(by decide:∀ds∈KL,ds.length<=4/\(∀d∈ds,d.cons.length<=3)/\∀d∈ds,∀c∈d.cons,c.fields.length<=3) ds h
 exact ⟨k.1,k.2.1,k.2.2⟩
theorem GD.len {ds:List Zc} (h:GD ds):3<=ds.length/\ds.length<=4:=by
 exact (by decide:∀ds∈KL,3<=ds.length/\ds.length<=4) ds h
def Qj (t:Int):Prop:=t=0∨t=1∨t=3
instance (t:Int):Decidable (Qj t):=inferInstanceAs (Decidable (_∨_∨_))
theorem GD.low {ds:List Zc} (h:GD ds):Y2 ds 0=[]/\Y2 ds 1=[0,1]/\Y2 ds 2=[]/\Y2 ds 3=[2,3]/\Y5 ds 0=[]/\Y5 ds 1=[0,1]/\Y5 ds 2=[]/\Y5 ds 3=[3,0,3]:=
 (by decide:∀ds∈KL,Y2 ds 0=[]/\Y2 ds 1=[0,1]/\Y2 ds 2=[]/\Y2 ds 3=[2,3]/\Y5 ds 0=[]/\Y5 ds 1=[0,1]/\Y5 ds 2=[]/\Y5 ds 3=[3,0,3]) ds h
theorem GD.fields {ds:List Zc} (h:GD ds):∀c∈Y2 ds 1++(Y2 ds 3++Y2 ds 4),∀t∈Y5 ds c,Qj t:=
 (by decide:∀ds∈KL,∀c∈Y2 ds 1++(Y2 ds 3++Y2 ds 4),∀t∈Y5 ds c,Qj t) ds h
theorem GD.cons_cases {ds:List Zc} (h:GD ds) {t:Int} {c:Int} (hc:c∈Y2 ds t):(0<=c/\c<=9)/\(t=1∨t=3∨t=4)/\(Y5 ds c).length<=3/\∀u∈Y5 ds c,Qj u:=by
 have ht:1<=t/\t<=ds.length:=by
  by_cases q:1<=t/\t<=ds.length
  ·exact q
  ·rw [Y2,Zr q] at hc;cases hc
 have hl:=h.len
 have hlow:=h.low
 have key:∀c∈Y2 ds 1++(Y2 ds 3++Y2 ds 4),0<=c/\c<=9:=
  (by decide:∀ds∈KL,∀c∈Y2 ds 1++(Y2 ds 3++Y2 ds 4),0<=c/\c<=9) ds h
 have h4:t=1∨t=2∨t=3∨t=4:=by omega
 have hf:=h.fields
 have hd:=VB h.ok c
 rcases h4 with rfl|rfl|rfl|rfl
 ·exact ⟨key c (X2.2 (.inl hc)),.inl rfl,hd,hf c (X2.2 (.inl hc))⟩
 ·rw [hlow.2.2.1] at hc;cases hc
 ·exact ⟨key c (X2.2 (.inr (X2.2 (.inl hc)))),.inr (.inl rfl),hd,hf c (X2.2 (.inr (X2.2 (.inl hc))))⟩
 ·exact ⟨key c (X2.2 (.inr (X2.2 (.inr hc)))),.inr (.inr rfl),hd,hf c (X2.2 (.inr (X2.2 (.inr hc))))⟩
def QL:List (LI × Int):=[([],0),([1],0),([1,1],1),([1],1),([1,0],1),([2,1],1),([1,1],0),([3],0),([0],1),([0,1],1),([3,0],3),([3],1),([1,3,0],0),([0],0),([0,0],0),([1,0],0)]
def Uh (f:Func):Prop:=(f.params,f.result)∈QL
theorem Uh.bd {f:Func} (h:Uh f):f.params.length<=3/\(∀t∈f.params,0<=t/\t<=3)/\Qj f.result:=by
 have key:∀q∈QL,q.1.length<=3/\(∀t∈q.1,0<=t/\t<=3)/\Qj q.2:=by decide
 exact key _ h
theorem Uh.clo {ds:List Zc} {f:Func} (hd:GD ds) (h:Uh f) (hp:0<QN ds (gI f.params ((f.params.length:Int)-1)) f.result):∀t∈f.params.dropLast,Qj t:=by
 have key:∀q∈QL,0<QN ds (gI q.1 ((q.1.length:Int)-1)) q.2->∀t∈q.1.dropLast,Qj t:=
  (by decide +kernel:∀ds∈KL,∀q∈QL,0<QN ds (gI q.1 ((q.1.length:Int)-1)) q.2->∀t∈q.1.dropLast,Qj t) ds hd
 exact key _ h hp
structure GP (p:XI):Prop where
 decls:GD p.decls
 len:1<=p.funcs.length/\p.funcs.length<=4
 sigs:∀f∈p.funcs,Uh f
def UH (ds:List Zc) (op num:Int) (m:Nat) (k:Nat):Nat:=
 if op=13 then m+k else if op=8 then (if k=0 then m else m+(Y5 ds (gI (Y2 ds num) ((k:Int)-1))).length) else m
mutual
def eW (ds:List Zc) (nf:Nat):Nat->Z0->Prop
 | m,.mk op num kids=>(0<=op/\op<=13)/\(op=12->kids=[]/\0<=num/\num<m)/\(op=13->kids.length=2)/\(op=7->kids.length=3)/\(op=8->kids.length=1+(Y2 ds num).length)/\(op=9->0<=num/\num<nf)/\(-2000<=num/\num<=2000)/\kids.length<=4 /\
  Tv ds nf (UH ds op num m) 0 kids
def Tv (ds:List Zc) (nf:Nat) (sc:Nat->Nat):Nat->List Z0->Prop
 | _,[]=>True
 | k,e::r=>eW ds nf (sc k) e/\Tv ds nf sc (k+1) r
end
theorem Pw {ds:List Zc} {nf m:Nat} (e:Z0):eW ds nf m e↔(0<=e.op/\e.op<=13)/\(e.op=12->e.kids=[]/\0<=e.num/\e.num<m)/\(e.op=13->e.kids.length=2)/\(e.op=7->e.kids.length=3)/\(e.op=8->e.kids.length=1+(Y2 ds e.num).length)/\(e.op=9->0<=e.num/\e.num<nf)/\(-2000<=e.num/\e.num<=2000)/\e.kids.length<=4 /\
  Tv ds nf (UH ds e.op e.num m) 0 e.kids:=by cases e;rw [eW];rfl
theorem AS {ds:List Zc} {nf:Nat} {sc:Nat->Nat}:∀{xs:List Z0} {j k:Nat} {e:Z0},Tv ds nf sc j xs->xs[k]? = some e->eW ds nf (sc (j+k)) e
 | [],j,k,e,_,h=>by simp at h
 | x::r,j,0,e,hw,h=>by simp at h;subst h;exact hw.1
 | x::r,j,k+1,e,hw,h=>by
  have:=AS (xs:=r) (j:=j+1) (k:=k) hw.2 (by simpa using h)
  rw [show j+(k+1)=j+1+k by omega];exact this
theorem HI {ds:List Zc} {nf:Nat} {sc:Nat->Nat}:∀{xs ys:List Z0} {j:Nat},Tv ds nf sc j (xs++ys)↔Tv ds nf sc j xs/\Tv ds nf sc (j+xs.length) ys
 | [],ys,j=>by simp [Tv]
 | x::r,ys,j=>by
  rw [TJ,Tv,Tv,HI (xs:=r),and_assoc,YD,show j+1+r.length=j+(r.length+1) by omega]
theorem F3 {ds:List Zc} {nf m:Nat} {sc:Nat->Nat} (hs:∀k,sc k=m):∀{xs:List Z0} {j:Nat},(∀e∈xs,eW ds nf m e)->Tv ds nf sc j xs
 | [],_,_=>True.intro
 | x::r,j,h=>⟨by rw [hs];exact h x (YV ..),F3 hs fun e he=>h e (Xo _ he)⟩
theorem A3 {ds:List Zc} {nf m:Nat} {op num:Int} {kids:List Z0} (ho:0<=op/\op<=11/\op≠7/\op≠8) (hc:op=9->0<=num/\num<nf) (hn:-2000<=num/\num<=2000) (hl:kids.length<=4) (hk:∀e∈kids,eW ds nf m e):eW ds nf m (.mk op num kids):=by
 rw [eW]
 refine ⟨by omega,fun h=>by omega,fun h=>by omega,fun h=>by omega,fun h=>by omega,hc,hn,hl,F3 (m:=m) (fun k=>?_) hk⟩
 rw [UH,Zr om,Zr om]
theorem Px {ds:List Zc} {nf m:Nat} {z:Int} (hz:-2000<=z/\z<=2000):eW ds nf m (.mk 0 z []):=A3 om (fun h=>by omega) hz (by simp) (fun e he=>by cases he)
theorem Py {ds:List Zc} {nf m:Nat} {z:Int} (hz:0<=z/\z<m) (hm:m<=2000):eW ds nf m (.mk 12 z []):=by
 rw [eW]
 exact ⟨by omega,fun _=>⟨rfl,hz⟩,fun h=>by omega,fun h=>by omega,fun h=>by omega,fun h=>by omega,by omega,by simp,True.intro⟩
theorem HG {ds:List Zc} {nf m:Nat} {num:Int} {kids:List Z0} (hn:-2000<=num/\num<=2000) (hl:kids.length=3) (hk:∀e∈kids,eW ds nf m e):eW ds nf m (.mk 7 num kids):=by
 rw [eW]
 refine ⟨by omega,fun h=>by omega,fun h=>by omega,fun _=>hl,fun h=>by omega,fun h=>by omega,hn,by omega,F3 (m:=m) (fun k=>?_) hk⟩
 rw [UH,Zr om,Zr om]
theorem HH {ds:List Zc} {nf m:Nat} {num:Int} {a b:Z0} (hn:-2000<=num/\num<=2000) (ha:eW ds nf m a) (hb:eW ds nf (m+1) b):eW ds nf m (.mk 13 num [a,b]):=by
 rw [eW]
 exact ⟨by omega,fun h=>by omega,fun _=>rfl,fun h=>by omega,fun h=>by omega,fun h=>by omega,hn,by simp,ha,hb,True.intro⟩
theorem EZ {ds:List Zc} {nf m:Nat} {num:Int} {a:Z0} {arms:List Z0} (hn:-2000<=num/\num<=2000) (h3:arms.length<=3) (hl:arms.length=(Y2 ds num).length) (ha:eW ds nf m a) (hk:Tv ds nf (UH ds 8 num m) 1 arms):eW ds nf m (.mk 8 num (a::arms)):=by
 rw [eW]
 refine ⟨by omega,fun h=>by omega,fun h=>by omega,fun h=>by omega,fun _=>by rw [YD];omega,fun h=>by omega,hn,by rw [YD];omega,?_,hk⟩
 rw [UH,Zr om,Zw rfl,Zw rfl]
 exact ha
def bS (b:Nat):Nat:=max 4 (10*b-10)
def bC (b:Nat):Nat:=max 40 (100*b-100)
def YI:List Z4->Nat
 | []=>0
 | s::r=>(if YP s.op=true then 0 else 1)+YI r
theorem Qu:∀xs ys:List Z4,YI (xs++ys)=YI xs+YI ys
 | [],ys=>by simp [YI]
 | x::r,ys=>by rw [TJ,YI,YI,Qu r];omega
theorem Jj:∀xs:List Z4,YI xs<=xs.length
 | []=>YQ _
 | x::r=>by have:=Jj r;rw [YI,YD];split<;>omega
def VH (ds:List Zc) (op num:Int) (m:Nat) (k:Nat):Nat:=if op=8 then m+(Y5 ds (gI (Y2 ds num) k)).length else m
mutual
def fS (ds:List Zc) (nf:Nat):Nat->Z4->Prop
 | m,.mk op num into args kids=>((0<=op/\op<=11)∨(14<=op/\op<=17))/\(∀a∈args,0<=a/\a<m)/\(14<=op->num=0/\into=0/\kids=[]/\∃a,args=[a])/\(op=7->kids.length=2)/\(op=8->kids.length=(Y2 ds num).length)/\(op=7∨op=8->∃a,args=[a]) /\
  (op=9->0<=num/\num<nf)/\(-2000<=num/\num<=2000)/\(0<=into/\into<=m)/\args.length<=4/\(op≠7/\op≠8->kids=[])/\Up ds nf (VH ds op num m) 0 kids
def Up (ds:List Zc) (nf:Nat) (sc:Nat->Nat):Nat->List Z3->Prop
 | _,[]=>True
 | k,b::r=>fB ds nf (sc k) b/\Up ds nf sc (k+1) r
def U1 (ds:List Zc) (nf:Nat):Nat->List Z4->Prop
 | _,[]=>True
 | m,s::r=>fS ds nf m s/\U1 ds nf (if YP s.op=true then m else m+1) r
def fB (ds:List Zc) (nf:Nat):Nat->Z3->Prop
 | m,.mk steps result=>U1 ds nf m steps/\0<=result/\result<(m+YI steps:Nat)
end
section
variable {ds:List Zc} {nf:Nat}
structure FS (ds:List Zc) (nf m:Nat) (s:Z4):Prop where
 op:(0<=s.op/\s.op<=11)∨(14<=s.op/\s.op<=17)
 args:∀a∈s.args,0<=a/\a<m
 cnt:14<=s.op->s.num=0/\s.into=0/\s.kids=[]/\∃a,s.args=[a]
 k7:s.op=7->s.kids.length=2
 k8:s.op=8->s.kids.length=(Y2 ds s.num).length
 one:s.op=7∨s.op=8->∃a,s.args=[a]
 call:s.op=9->0<=s.num/\s.num<nf
 num:-2000<=s.num/\s.num<=2000
 into:0<=s.into/\s.into<=m
 alen:s.args.length<=4
 kn:s.op≠7/\s.op≠8->s.kids=[]
 kids:Up ds nf (VH ds s.op s.num m) 0 s.kids
theorem CZ {m:Nat} (s:Z4):fS ds nf m s↔FS ds nf m s:=by
 cases s
 rw [fS]
 exact ⟨fun ⟨h1,h2,h3,h4,h5,h6,h7,h8,h9,h10,h11,h12⟩=>⟨h1,h2,h3,h4,h5,h6,h7,h8,h9,h10,h11,h12⟩,fun h=>⟨h.op,h.args,h.cnt,h.k7,h.k8,h.one,h.call,h.num,h.into,h.alen,h.kn,h.kids⟩⟩
theorem BG {m:Nat} (b:Z3):fB ds nf m b↔U1 ds nf m b.steps/\0<=b.result/\b.result<(m+YI b.steps:Nat):=by cases b;rw [fB];rfl
theorem BH {sc:Nat->Nat}:∀{xs:List Z3} {j k:Nat} {b:Z3},Up ds nf sc j xs->xs[k]? = some b->fB ds nf (sc (j+k)) b
 | [],j,k,b,_,h=>by simp at h
 | x::r,j,0,b,hw,h=>by simp at h;subst h;exact hw.1
 | x::r,j,k+1,b,hw,h=>by
  have:=BH (xs:=r) (j:=j+1) (k:=k) hw.2 (by simpa using h)
  rw [show j+(k+1)=j+1+k by omega];exact this
theorem HO {sc:Nat->Nat}:∀{xs ys:List Z3} {j:Nat},Up ds nf sc j (xs++ys)↔Up ds nf sc j xs/\Up ds nf sc (j+xs.length) ys
 | [],ys,j=>by simp [Up]
 | x::r,ys,j=>by
  rw [TJ,Up,Up,HO (xs:=r),and_assoc,YD,show j+1+r.length=j+(r.length+1) by omega]
theorem HP {sc:Nat->Nat} {xs:List Z3} {b:Z3} (h:Up ds nf sc 0 xs) (hb:fB ds nf (sc xs.length) b):Up ds nf sc 0 (xs++[b]):=
 HO.2 ⟨h,by rw [Wt];exact hb,True.intro⟩
theorem AT:∀{xs ys:List Z4} {m:Nat},U1 ds nf m (xs++ys)↔U1 ds nf m xs/\U1 ds nf (m+YI xs) ys
 | [],ys,m=>by simp [U1,YI]
 | x::r,ys,m=>by
  rw [TJ,U1,U1,AT (xs:=r),and_assoc,YI]
  by_cases h:YP x.op=true
  ·rw [Zw h,Zw h,Wt]
  ·rw [Zr h,Zr h,J6]
theorem D0 {xs:List Z4} {s:Z4} {m:Nat} (h:U1 ds nf m xs) (hs:fS ds nf (m+YI xs) s):U1 ds nf m (xs++[s]):=AT.2 ⟨h,hs,True.intro⟩
theorem BI:∀{xs:List Z4} {k m:Nat} {s:Z4},U1 ds nf m xs->xs[k]? = some s->fS ds nf (m+YI (xs.take k)) s
 | [],k,m,s,_,h=>by simp at h
 | x::r,0,m,s,hw,h=>by simp at h;subst h;exact hw.1
 | x::r,k+1,m,s,hw,h=>by
  have:=BI (xs:=r) (k:=k) hw.2 (by simpa using h)
  rw [Aw,YI]
  by_cases hc:YP x.op=true
  ·rw [Zw hc] at this ⊢;rw [Wt];exact this
  ·rw [Zr hc] at this ⊢;rw [<-J6];exact this
mutual
theorem Z6a:∀(s:Z4) {m:Nat},fS ds nf m s->m+4*s.sz<=900000000->Wg ds->wS ds s
 | .mk op num into args kids,m,h,hb,hd=>by
  rw [fS] at h
  obtain ⟨h1,h2,h3,h4,h5,h6,h7,h8,h9,h10,h11,h12⟩:=h
  rw [Z4.sz] at hb
  rw [wS]
  refine ⟨?_,fun hc=>h3 (show 14<=op/\op<=17 by simpa [YP] using hc).1,fun h8'=>⟨?_,h5 h8'⟩,Ns kids h12 (fun k=>?_) hd⟩
  ·rcases h1 with h1|h1
   ·have e1:YP op=false:=by simp [YP];omega
    have e2:XE op=true:=by simp [XE];omega
    rw [e1,e2];rfl
   ·have e1:YP op=true:=by simp [YP];omega
    have e2:XE op=false:=by simp [XE];omega
    rw [e1,e2];rfl
  ·obtain ⟨a,ha⟩:=h6 (.inr h8')
   have:=h2 a (by rw [ha];exact Xx.2 rfl)
   exact ⟨a,ha,by omega⟩
  ·have hf:=VB hd (gI (Y2 ds num) k)
   show VH ds op num m k+4*YH kids<=900000003
   rw [VH];split<;>omega
theorem Ns:∀(bs:List Z3) {sc:Nat->Nat} {k:Nat},Up ds nf sc k bs->(∀k,sc k+4*YH bs<=900000003)->Wg ds->J3 ds bs
 | [],_,_,_,_,_=>True.intro
 | b::r,sc,k,h,hb,hd=>by
  have hp:=b.sz_eq
  exact ⟨Nr b h.1 (by have:=hb k;rw [YH] at this;omega) hd,Ns r h.2 (fun j=>by have:=hb j;rw [YH] at this;omega) hd⟩
theorem Nt:∀(xs:List Z4) {m:Nat},U1 ds nf m xs->m+4*Y3 xs<=900000000->Wg ds->TI ds xs
 | [],_,_,_,_=>True.intro
 | s::r,m,h,hb,hd=>by
  rw [Y3] at hb
  have hp:=s.sz_pos
  refine ⟨Z6a s h.1 om hd,Nt r h.2 ?_ hd⟩
  split<;>omega
theorem Nr:∀(b:Z3) {m:Nat},fB ds nf m b->m+4*b.sz<=900000004->Wg ds->wB ds b
 | .mk steps result,m,h,hb,hd=>by
  rw [Z3.sz] at hb
  rw [fB] at h
  rw [wB]
  exact Nt steps h.1 om hd
end
mutual
theorem Z2a:∀(s:Z4) {m:Nat},fS ds nf m s->s.rng
 | .mk op num into args kids,m,h=>by
  rw [fS] at h
  obtain ⟨h1,h2,h3,h4,h5,h6,h7,h8,h9,h10,h11,h12⟩:=h
  rw [Z4.rng]
  exact ⟨by omega,M3 kids h12⟩
theorem M3:∀(bs:List Z3) {sc:Nat->Nat} {k:Nat},Up ds nf sc k bs->QQ bs
 | [],_,_,_=>True.intro
 | b::r,sc,k,h=>⟨G4 b h.1,M3 r h.2⟩
theorem M4:∀(xs:List Z4) {m:Nat},U1 ds nf m xs->Kb xs
 | [],_,_=>True.intro
 | s::r,m,h=>⟨Z2a s h.1,M4 r h.2⟩
theorem G4:∀(b:Z3) {m:Nat},fB ds nf m b->b.rng
 | .mk steps result,m,h=>by rw [fB] at h;rw [Z3.rng];exact M4 steps h.1
end
end
structure FN (n:Zx) (q:Nat):Prop where
 decls:GD n.decls
 len:1<=n.routines.length/\n.routines.length<=4
 sigs:∀r∈n.routines,(r.params,r.result)∈QL
 lent:∀r∈n.routines,r.lent.length<=3/\∀i∈r.lent,0<=i/\i<r.params.length
 body:∀r∈n.routines,fB n.decls n.routines.length r.params.length r.body/\r.body.sz<=q
theorem FN.ok {n:Zx} {q:Nat} (h:FN n q):Xh n:=
 ⟨h.decls.ok,h.len.2,fun r hr=>(Uh.bd (f:=⟨r.params,r.result,default⟩) (h.sigs r hr)).1,fun r hr=>by have:=(h.lent r hr).1;omega⟩
def Pk (n k:Int):Prop:=0<=k/\(0<n->k<n)/\(n<=0->k=0)
theorem Pk.lt {n k:Int} (h:Pk n k) (hn:0<n):0<=k/\k<n:=⟨h.1,h.2.1 hn⟩
theorem Pk.zero {n:Int}:Pk n 0:=⟨Int.le_refl _,fun h=>h,fun _=>rfl⟩
theorem Pk.rem {n a:Int} (ha:0<=a) (hn:0<n):Pk n (a % n):=⟨Int.emod_nonneg _ om,fun _=>Int.emod_lt_of_pos _ hn,fun _=>by omega⟩
def AD (ds:List Zc):Prop:=ds.length<=8/\∀d∈ds,d.cons.length<=4/\∀c∈d.cons,c.fields.length<=4
theorem GD.ad {ds:List Zc} (h:GD ds):AD ds:=(by decide:∀ds∈KL,ds.length<=8/\∀d∈ds,d.cons.length<=4/\∀c∈d.cons,c.fields.length<=4) ds h
theorem AD.set {ds:List Zc} (h:AD ds) (k:Nat) {d:Zc} (hd:d.cons.length<=4/\∀c∈d.cons,c.fields.length<=4):AD (ds.set k d):=
 ⟨by rw [Uu];exact h.1,fun x hx=>(List.mem_or_eq_of_mem_set hx).elim (h.2 x) fun e=>by rw [e];exact hd⟩
theorem AD.app {ds es:List Zc} (h:AD ds) (hl:ds.length+es.length<=8) (hd:∀d∈es,d.cons.length<=4/\∀c∈d.cons,c.fields.length<=4):AD (ds++es):=
 ⟨by rw [Yk];exact hl,fun x hx=>(X2.1 hx).elim (h.2 x) (hd x)⟩
theorem GD.three:GD [Ky,⟨0,0,[]⟩,Kz]:=List.Mem.head _
theorem GD.four:∀{k:Nat} {x:Zc},Hx[k]? = some x->GD ([Ky,⟨0,0,[]⟩,Kz]++[x])
 | 0,x,h=>by cases h;exact .tail _ (.head _)
 | 1,x,h=>by cases h;exact .tail _ (.tail _ (.head _))
 | 2,x,h=>by cases h;exact .tail _ (.tail _ (.tail _ (.head _)))
 | 3,x,h=>by cases h;exact .tail _ (.tail _ (.tail _ (.tail _ (.head _))))
 | k+4,x,h=>by simp [Hx] at h
theorem Jx {l:LI} {z a b:Int} (h:z∈l) (hl:l.all (fun x=>decide (a<=x/\x<=b))=true):a<=z/\z<=b:=by
 have:=Kg.1 hl z h
 exact of_decide_eq_true this
def rk (t:Int):Nat:=if Qj t then 0 else 1
theorem G3 (t:Int):rk t<=1:=by rw [rk];split<;>omega
theorem M2 {t:Int} (h:Qj t):rk t=0:=Zw h
def SE (g:XI) (q:Nat) (e:Z0):Prop:=(∀m,eW g.decls g.funcs.length m e)/\e.sz<=q
def GE (g:XI) (m q:Nat) (e:Z0):Prop:=eW g.decls g.funcs.length m e/\e.sz<=q
theorem SE.ge {g:XI} {q q' m:Nat} {e:Z0} (h:SE g q e) (hq:q<=q'):GE g m q' e:=⟨h.1 m,WJ h.2 hq⟩
theorem GE.le {g:XI} {m q q':Nat} {e:Z0} (h:GE g m q e) (hq:q<=q'):GE g m q' e:=⟨h.1,WJ h.2 hq⟩
theorem CX {m:Nat}:∀{xs:List Z0},(∀e∈xs,e.sz<=m)->X8 xs<=xs.length*m
 | [],_=>Uv _
 | x::r,h=>by
  have h1:=h x (YV ..)
  have h2:=CX (xs:=r) fun e he=>h e (Xo _ he)
  rw [X8,YD,T5];omega
theorem Xb {α:Type} {p:α->Prop} {xs:List α} {a:α} (h:∀x∈xs,p x) (ha:p a):∀x∈xs++[a],p x:=fun x hx=>(X2.1 hx).elim (h x) fun q=>by rw [Xx.1 q];exact ha
theorem SE.int {g:XI} {z:Int} {q:Nat} (hz:-2000<=z/\z<=2000) (hq:1<=q):SE g q (.mk 0 z []):=⟨fun _=>Px hz,by simpa [Z0.sz,X8] using hq⟩
theorem SE.node {g:XI} {op num:Int} {ys:List Z0} {q k:Nat} (ho:op=6∨op=10) (hn:0<=num/\num<=2000) (hy:∀e∈ys,SE g 1 e) (hl:ys.length<=k) (hk:k<=3) (hq:1+k<=q):SE g q (.mk op num ys):=by
 refine ⟨fun m=>A3 om (fun h=>by omega) om om fun e he=>(hy e he).1 m,?_⟩
 have:=CX (xs:=ys) (m:=1) fun e he=>(hy e he).2
 rw [Z0.sz];omega
def Jc (ds:List Zc) (t c:Int):Prop:=(0<=c/\c<=9)/\(Y5 ds c).length<=3*rk t/\∀u∈Y5 ds c,Qj u
instance (ds:List Zc) (t c:Int):Decidable (Jc ds t c):=inferInstanceAs (Decidable (_/\_/\_))
theorem Mn {ds:List Zc} (h:GD ds):∀t∈[(1:Int),2,3,4],∀c∈Y2 ds t,(t∈Y5 ds c->∀c0,(Y2 ds t)[0]? = some c0->Jc ds t c0)/\(¬t∈Y5 ds c->Jc ds t c):=by
 intro t ht c hc
 have k1:=(by decide:∀ds∈KL,∀t∈[(1:Int),2,3,4],∀c∈Y2 ds t,(t∈Y5 ds c->Jc ds t (gI (Y2 ds t) 0))/\(¬t∈Y5 ds c->Jc ds t c)) ds h t ht c hc
 refine ⟨fun q c0 h0=>?_,k1.2⟩
 have:=k1.1 q
 rwa [UO (i:=0) h0] at this
theorem Hu {ds:List Zc} (h:GD ds) {t c:Int} (hc:c∈Y2 ds t):t∈[(1:Int),2,3,4]:=by
 obtain ⟨_,h2,_⟩:=h.cons_cases hc
 rcases h2 with rfl|rfl|rfl<;>simp
theorem Z34 {ds:List Zc} (h:GD ds) {t c c0:Int} (hc:c∈Y2 ds t) (ht:t∈Y5 ds c) (h0:(Y2 ds t)[0]? = some c0):Jc ds t c0:=(Mn h t (Hu h hc) c hc).1 ht c0 h0
theorem Z33 {ds:List Zc} (h:GD ds) {t c:Int} (hc:c∈Y2 ds t) (ht:¬t∈Y5 ds c):Jc ds t c:=(Mn h t (Hu h hc) c hc).2 ht
theorem Z29 {ds:List Zc} (h:GD ds) {t:Int} (h0:(Y2 ds t).length=0) (ht:0<t):rk t=1:=by
 rw [rk,Zr]
 rintro (q|q|q)
 ·omega
 ·rw [q,h.low.2.1] at h0;cases h0
 ·rw [q,h.low.2.2.2.1] at h0;cases h0
def Kl (g:XI) (t i:Int):Prop:=0<=i/\∃f,g.funcs[i.toNat]? = some f/\0<f.params.length/\QN g.decls (gI f.params ((f.params.length:Int)-1)) f.result=t
theorem Kl.lt {g:XI} {t i:Int} (h:Kl g t i):0<=i/\i<g.funcs.length:=by
 obtain ⟨h1,f,h2,_⟩:=h
 have:=(XC.1 h2).1
 omega
theorem Kl.mk {g:XI} {t x2:Int} {k:Nat} {f:Func} (hf:g.funcs[k]? = some f) (hl:0<f.params.length) (hx:f.params[f.params.length-1]? = some x2) (ha:QN g.decls x2 f.result=t):Kl g t (k:Int):=by
 refine ⟨by omega,f,by simpa using hf,hl,?_⟩
 rw [UO (i:=(f.params.length:Int)-1) (by rw [show ((f.params.length:Int)-1).toNat=f.params.length-1 by omega];exact hx)]
 exact ha
theorem Kl.low {g:XI} {t i u:Int} {f:Func} {j:Nat} (hg:GP g) (h:Kl g t i) (ht:0<t) (hf:g.funcs[i.toNat]? = some f) (hj:j+1<f.params.length) (hu:f.params[j]? = some u):rk u=0:=by
 obtain ⟨_,f',h2,_,h4⟩:=h
 have e:f'=f:=Ax (h2.symm.trans hf)
 subst e
 have h5:=(hg.sigs f' (ZW hf)).clo hg.decls (by rw [h4];exact ht)
 refine M2 (h5 u ?_)
 rw [List.dropLast_eq_take]
 exact ZW (i:=j) (by rw [List.getElem?_take_of_lt om];exact hu)
end Go.Abs
section
namespace Go.Abs
theorem QP (b:Nat):bS b=max 4 (10*b-10):=rfl
theorem QO (b:Nat):bC b=max 40 (100*b-100):=rfl
theorem C2 {L q b:Nat} (hL:L<=3) (hb:3<=b) (hq:L*q<=b-1):1+L*bS q<=bS b:=by
 rw [QP,QP]
 have:L=0∨L=1∨L=2∨L=3:=by omega
 rcases this with rfl|rfl|rfl|rfl<;>omega
theorem Z0t {L q b:Nat} (hL:L<=3) (hb:3<=b) (hq:L*q<=b-2):5+L*bS q<=bS b:=by
 rw [QP,QP]
 have:L=0∨L=1∨L=2∨L=3:=by omega
 rcases this with rfl|rfl|rfl|rfl<;>omega
theorem Z0o {b:Nat} (hb:3<=b):1+(bS (b / 2)+bS (b / 2))<=bS b:=by rw [QP,QP];omega
theorem O0 {b:Nat} (hb:3<=b):5+bS (b-2)<=bS b:=by rw [QP,QP];omega
theorem KV {L q b:Nat} (hL:L<=3) (hb:3<=b) (hq:L*q<=b-1):10+L*bC q<=bC b:=by
 rw [QO,QO]
 have:L=0∨L=1∨L=2∨L=3:=by omega
 rcases this with rfl|rfl|rfl|rfl<;>omega
theorem Z0s {L q b:Nat} (hL:L<=3) (hb:3<=b) (hq:L*q<=b-2):40+L*bC q<=bC b:=by
 rw [QO,QO]
 have:L=0∨L=1∨L=2∨L=3:=by omega
 rcases this with rfl|rfl|rfl|rfl<;>omega
theorem Z0n {b:Nat} (hb:3<=b):10+(bC (b / 2)+bC (b / 2))<=bC b:=by rw [QO,QO];omega
theorem NZ {b:Nat} (hb:3<=b):40+bC (b-2)<=bC b:=by rw [QO,QO];omega
theorem H7 (b:Nat):4<=bS b:=by rw [QP];omega
theorem H6 (b:Nat):40<=bC b:=by rw [QO];omega
theorem UM (L b:Nat):L*(b / L)<=b:=Nat.mul_div_le b L
theorem Le {k L C:Nat} (h:k<L):(k+1)*C=k*C+C/\(k+1)*C<=L*C:=⟨by rw [T5,Nat.one_mul],Tq C h⟩
theorem Bg {ds:List Zc} {d x:Int} {m k:Nat} (h:(Y2 ds d)[k]? = some x):UH ds 8 d m (1+k)=m+(Y5 ds x).length:=by
 rw [UH,Zr om,Zw rfl,Zr om,UO (i:=((1+k:Nat):Int)-1) (by rw [show (((1+k:Nat):Int)-1).toNat=k by omega];exact h)]
section
variable {g:XI} {m:Nat}
theorem GE.var {z:Int} {q:Nat} (hz:0<=z/\z<m) (hm:m<=2000) (hq:1<=q):GE g m q (.mk 12 z []):=⟨Py hz hm,by simpa [Z0.sz,X8] using hq⟩
theorem GE.list {ys:List Z0} {L s:Nat} (h:∀e∈ys,GE g m s e) (hl:ys.length=L):X8 ys<=L*s:=by rw [<-hl];exact CX fun e he=>(h e he).2
theorem GE.node {op num:Int} {ys:List Z0} {L s q:Nat} (ho:0<=op/\op<=11/\op≠7/\op≠8) (hc:op=9->0<=num/\num<g.funcs.length) (hn:-2000<=num/\num<=2000) (h:∀e∈ys,GE g m s e) (hl:ys.length=L) (hL:L<=3) (hq:1+L*s<=q):GE g m q (.mk op num ys):=by
 have:=GE.list h hl
 exact ⟨A3 ho hc hn om fun e he=>(h e he).1,by rw [Z0.sz];omega⟩
theorem GE.if_ {num:Int} {ys:List Z0} {s q:Nat} (hn:-2000<=num/\num<=2000) (h:∀e∈ys,GE g m s e) (hl:ys.length=3) (hq:1+3*s<=q):GE g m q (.mk 7 num ys):=by
 have:=GE.list h hl
 exact ⟨HG hn hl fun e he=>(h e he).1,by rw [Z0.sz];omega⟩
theorem GE.let_ {a b:Z0} {s q:Nat} (ha:GE g m s a) (hb:GE g (m+1) s b) (hq:1+(s+s)<=q):GE g m q (.mk 13 0 [a,b]):=by
 refine ⟨HH om ha.1 hb.1,?_⟩
 have h1:=ha.2
 have h2:=hb.2
 simp only [Z0.sz,X8];omega
theorem GE.two {op num:Int} {a b:Z0} {s1 s2 q:Nat} (ho:0<=op/\op<=11/\op≠7/\op≠8/\op≠9) (hn:-2000<=num/\num<=2000) (ha:GE g m s1 a) (hb:GE g m s2 b) (hq:1+(s1+s2)<=q):GE g m q (.mk op num [a,b]):=by
 refine ⟨A3 om (fun h=>by omega) hn (by simp) fun e he=>?_,?_⟩
 ·rcases Yq.1 he with rfl|he
  ·exact ha.1
  ·rw [Xx.1 he];exact hb.1
 ·have h1:=ha.2
  have h2:=hb.2
  simp only [Z0.sz,X8];omega
theorem GE.match_ {d:Int} {e:Z0} {ys:List Z0} {L s q:Nat} (hd:-2000<=d/\d<=2000) (he:GE g m 4 e) (hw:Tv g.decls g.funcs.length (UH g.decls 8 d m) 1 ys) (hs:∀e∈ys,e.sz<=s) (hl:ys.length=L) (hL:L=(Y2 g.decls d).length) (h3:L<=3) (hq:5+L*s<=q):GE g m q (.mk 8 d (e::ys)):=by
 refine ⟨EZ hd om om he.1 hw,?_⟩
 have h1:=CX hs
 rw [hl] at h1
 have h2:=he.2
 rw [Z0.sz,X8];omega
end
def NL (s:Nat) (left w:Int):Prop:=((s:Int)<=left/\w=left-s)∨(left<s/\w=-1)
end Go.Abs
namespace Go.Abs
theorem Ak {L b p pp M:Nat} (hL:L<=3) (hb:3<=b) (h:pp<=p+8) (hp:p+(bC b-1)<=M):pp+L*bC ((b-1) / L)<=M:=by
 have:=KV hL hb (UM L (b-1))
 omega
end Go.Abs
end
namespace Go.Abs
theorem PD (a b:Z0):X8 [a,b]=a.sz+b.sz:=by simp only [X8];omega
theorem CW (a b c:Z0):X8 [a,b,c]=a.sz+b.sz+c.sz:=by simp only [X8];omega
theorem By:bS 3=20/\bS 4=30/\bS 12=110/\bS 16=150/\bS 18=170/\bC 3=200/\bC 4=300/\bC 16=1500:=by decide
theorem CF {b:Nat} (h:b<=20):bS b<=190/\bC b<=1900/\(b<=2->bS b<=10):=by rw [QP,QO];omega
section
variable {g:XI} {m:Nat}
theorem SE.ofs {op num:Int} {ys:List Z0} {q:Nat} (ho:0<=op/\op<=11/\op≠7/\op≠8/\op≠9) (hn:-2000<=num/\num<=2000) (hl:ys.length<=4) (hy:∀e∈ys,∃s,SE g s e) (hq:1+X8 ys<=q):SE g q (.mk op num ys):=
 ⟨fun m=>A3 om (fun h=>by omega) hn hl fun e he=>let ⟨_,h⟩:=hy e he;h.1 m,by rw [Z0.sz];exact hq⟩
theorem SE.nil {op num:Int} {q:Nat} (ho:0<=op/\op<=11/\op≠7/\op≠8/\op≠9) (hn:-2000<=num/\num<=2000) (hq:1<=q):SE g q (.mk op num []):=
 SE.ofs ho hn (by simp) (fun e he=>by cases he) (by simpa [X8] using hq)
theorem SE.two {op num:Int} {a b:Z0} {s1 s2 q:Nat} (ho:0<=op/\op<=11/\op≠7/\op≠8/\op≠9) (hn:-2000<=num/\num<=2000) (ha:SE g s1 a) (hb:SE g s2 b) (hq:1+(s1+s2)<=q):SE g q (.mk op num [a,b]):=by
 refine SE.ofs ho hn (by simp) (fun e he=>?_) ?_
 ·rcases Yq.1 he with rfl|he
  ·exact ⟨_,ha⟩
  ·rw [Xx.1 he];exact ⟨_,hb⟩
 ·have h1:=ha.2
  have h2:=hb.2
  rw [PD];omega
theorem SE.three {op num:Int} {a b c:Z0} {s1 s2 s3 q:Nat} (ho:0<=op/\op<=11/\op≠7/\op≠8/\op≠9) (hn:-2000<=num/\num<=2000) (ha:SE g s1 a) (hb:SE g s2 b) (hc:SE g s3 c) (hq:1+(s1+s2+s3)<=q):SE g q (.mk op num [a,b,c]):=by
 refine SE.ofs ho hn (by simp) (fun e he=>?_) ?_
 ·rcases Yq.1 he with rfl|he
  ·exact ⟨_,ha⟩
  ·rcases Yq.1 he with rfl|he
   ·exact ⟨_,hb⟩
   ·rw [Xx.1 he];exact ⟨_,hc⟩
 ·have h1:=ha.2
  have h2:=hb.2
  have h3:=hc.2
  rw [CW];omega
theorem GE.int {z:Int} {q:Nat} (hz:-2000<=z/\z<=2000) (hq:1<=q):GE g m q (.mk 0 z []):=(SE.int (g:=g) (q:=q) hz hq).ge (YQ _)
theorem GE.three {op num:Int} {a b c:Z0} {s1 s2 s3 q:Nat} (ho:0<=op/\op<=11/\op≠8/\op≠9) (hn:-2000<=num/\num<=2000) (ha:GE g m s1 a) (hb:GE g m s2 b) (hc:GE g m s3 c) (hq:1+(s1+s2+s3)<=q):GE g m q (.mk op num [a,b,c]):=by
 have hk:∀e∈[a,b,c],eW g.decls g.funcs.length m e:=fun e he=>by
  rcases Yq.1 he with rfl|he
  ·exact ha.1
  ·rcases Yq.1 he with rfl|he
   ·exact hb.1
   ·rw [Xx.1 he];exact hc.1
 refine ⟨?_,?_⟩
 ·by_cases h7:op=7
  ·subst h7;exact HG hn rfl hk
  ·exact A3 om (fun h=>by omega) hn (by simp) hk
 ·have h1:=ha.2
  have h2:=hb.2
  have h3:=hc.2
  rw [Z0.sz,CW];omega
theorem GE.one {op num:Int} {a:Z0} {s1 q:Nat} (ho:0<=op/\op<=11/\op≠7/\op≠8/\op≠9) (hn:-2000<=num/\num<=2000) (ha:GE g m s1 a) (hq:1+s1<=q):GE g m q (.mk op num [a]):=by
 refine ⟨A3 om (fun h=>by omega) hn (by simp) fun e he=>?_,?_⟩
 ·rw [Xx.1 he];exact ha.1
 ·have h1:=ha.2
  simp only [Z0.sz,X8];omega
theorem GE.letS {a b:Z0} {s1 s2 q:Nat} (ha:GE g m s1 a) (hb:GE g (m+1) s2 b) (hq:1+(s1+s2)<=q):GE g m q (.mk 13 0 [a,b]):=by
 refine ⟨HH om ha.1 hb.1,?_⟩
 have h1:=ha.2
 have h2:=hb.2
 simp only [Z0.sz,X8];omega
theorem GE.matchL (hg:GP g) {e a b:Z0} {s1 s2 s3 q:Nat} (he:GE g m s1 e) (ha:GE g m s2 a) (hb:GE g (m+2) s3 b) (hq:1+(s1+s2+s3)<=q):GE g m q (.mk 8 1 [e,a,b]):=by
 have hl:=hg.decls.low
 refine ⟨EZ om (by simp) (by rw [hl.2.1];rfl) he.1 ⟨?_,?_,True.intro⟩,?_⟩
 ·rw [Bg (k:=0) (x:=0) (by rw [hl.2.1];rfl),hl.2.2.2.2.1];exact ha.1
 ·rw [Bg (k:=1) (x:=1) (by rw [hl.2.1];rfl),hl.2.2.2.2.2.1];exact hb.1
 ·have h1:=he.2
  have h2:=ha.2
  have h3:=hb.2
  rw [Z0.sz,CW];omega
theorem GE.matchT (hg:GP g) {e a b:Z0} {s1 s2 s3 q:Nat} (he:GE g m s1 e) (ha:GE g m s2 a) (hb:GE g (m+3) s3 b) (hq:1+(s1+s2+s3)<=q):GE g m q (.mk 8 3 [e,a,b]):=by
 have hl:=hg.decls.low
 refine ⟨EZ om (by simp) (by rw [hl.2.2.2.1];rfl) he.1 ⟨?_,?_,True.intro⟩,?_⟩
 ·rw [Bg (k:=0) (x:=2) (by rw [hl.2.2.2.1];rfl),hl.2.2.2.2.2.2.1];exact ha.1
 ·rw [Bg (k:=1) (x:=3) (by rw [hl.2.2.2.1];rfl),hl.2.2.2.2.2.2.2];exact hb.1
 ·have h1:=he.2
  have h2:=ha.2
  have h3:=hb.2
  rw [Z0.sz,CW];omega
theorem Er {α:Type} {p:α->Prop} {a:α} (h:p a):∀x∈[a],p x:=fun x hx=>by rw [Xx.1 hx];exact h
end
structure Ef (g:XI):Prop where
 gp:GP g
 body:∀f∈g.funcs,eW g.decls g.funcs.length f.params.length f.body/\f.body.sz<=30
structure GL (ds:List Zc) (k j:Nat) (rq:List Func):Prop where
 len:rq.length=4
 sigs:∀f∈rq,Uh f
 zero:∀f,rq[0]? = some f->f.params.length=0
 body:∀i f,j<=i->i<k->rq[i]? = some f->eW ds k f.params.length f.body/\f.body.sz<=30
theorem GL.gp {ds:List Zc} {k j:Nat} {rq:List Func} (h:GL ds k j rq) (hd:GD ds) (hk:1<=k/\k<=4):GP ⟨ds,rq.take k⟩:=
 ⟨hd,by show 1<=(rq.take k).length/\_;rw [Wq,h.len];omega,fun f hf=>h.sigs f (Tp hf)⟩
theorem GL.len_take {ds:List Zc} {k j:Nat} {rq:List Func} (h:GL ds k j rq) (hk:k<=4):(rq.take k).length=k:=by rw [Wq,h.len];omega
theorem GL.set {ds:List Zc} {k j:Nat} {rq:List Func} {f:Func} {e:Z0} (h:GL ds k j rq) (hj:1<=j) (hf:rq[j-1]? = some f) (he:eW ds k f.params.length e/\e.sz<=30):GL ds k (j-1) (rq.set (j-1) ⟨f.params,f.result,e⟩):=by
 have hl:=(XC.1 hf).1
 refine ⟨by rw [Uu];exact h.len,fun x hx=>?_,fun x hx=>?_,fun i x h1 h2 hx=>?_⟩
 ·rcases List.mem_or_eq_of_mem_set hx with hx|rfl
  ·exact h.sigs x hx
  ·exact h.sigs f (ZW hf)
 ·rw [List.getElem?_set] at hx
  split at hx
  ·rename_i h0
   cases hx
   exact h.zero f (by rw [<-h0];exact hf)
  ·exact h.zero x hx
 ·rw [List.getElem?_set] at hx
  split at hx
  ·cases hx
   exact he
  ·exact h.body i x om h2 hx
theorem GL.done {ds:List Zc} {k:Nat} {rq:List Func} (h:GL ds k 0 rq) (hd:GD ds) (hk:1<=k/\k<=4):Ef ⟨ds,rq.take k⟩:=by
 refine ⟨h.gp hd hk,fun f hf=>?_⟩
 show eW ds (rq.take k).length _ _/\_
 rw [h.len_take hk.2]
 obtain ⟨i,hi⟩:=List.getElem?_of_mem hf
 have hi2:i<(rq.take k).length:=(XC.1 hi).1
 rw [h.len_take hk.2] at hi2
 rw [List.getElem?_take_of_lt hi2] at hi
 exact h.body i f om hi2 hi
theorem Gf {l:List Func} {f:Func} {k:Nat} (h:l[k]? = some f) (hl:l.all (fun f=>decide ((f.params,f.result)∈QL))=true):Uh f:=show (f.params,f.result)∈QL from of_decide_eq_true (Kg.1 hl f (ZW h))
theorem GL.start {ds:List Zc} {k:Nat} {e:Z0} {a b c:Func} (ha:Uh a) (hb:Uh b) (hc:Uh c):GL ds k k [⟨[],0,e⟩,a,b,c]:=by
 refine ⟨rfl,fun f hf=>?_,fun f hf=>?_,fun i f h1 h2=>by omega⟩
 ·rcases Yq.1 hf with rfl|hf
  ·exact List.Mem.head _
  ·rcases Yq.1 hf with rfl|hf
   ·exact ha
   ·rcases Yq.1 hf with rfl|hf
    ·exact hb
    ·rw [Xx.1 hf];exact hc
 ·cases hf;rfl
theorem Z18 {l:LI} {k:Nat} {a b:Nat} (h:(k:Int)∈l) (hl:l.all (fun x=>decide ((a:Int)<=x/\x<=b))=true):a<=k/\k<=b:=by
 have:=of_decide_eq_true (Kg.1 hl _ h)
 omega
mutual
def TD (p:Int->Prop):Z4->Prop
 | .mk op _ _ _ kids=>p op/\TC p kids
def TC (p:Int->Prop):List Z3->Prop
 | []=>True
 | b::r=>WD p b/\TC p r
def UE (p:Int->Prop):List Z4->Prop
 | []=>True
 | s::r=>TD p s/\UE p r
def WD (p:Int->Prop):Z3->Prop
 | .mk steps _=>UE p steps
end
section
variable {p q:Int->Prop}
theorem C7 (s:Z4):TD p s↔p s.op/\TC p s.kids:=by cases s;rw [TD];rfl
theorem Dz (b:Z3):WD p b↔UE p b.steps:=by cases b;rw [WD];rfl
theorem B8:∀{xs:List Z3},TC p xs↔∀b∈xs,WD p b
 | []=>by simp [TC]
 | b::r=>by rw [TC,B8];simp
theorem An:∀{xs:List Z4},UE p xs↔∀b∈xs,TD p b
 | []=>by simp [UE]
 | b::r=>by rw [UE,An];simp
theorem DA {xs ys:List Z4}:UE p (xs++ys)↔UE p xs/\UE p ys:=by simp only [An,X2];exact ⟨fun h=>⟨fun b hb=>h b (.inl hb),fun b hb=>h b (.inr hb)⟩,fun h b hb=>hb.elim (h.1 b) (h.2 b)⟩
theorem Lp {xs:List Z3} {b:Z3} (h:TC p xs) (hb:WD p b):TC p (xs++[b]):=B8.2 (Xb (B8.1 h) hb)
theorem DB {xs:List Z4} {b:Z4} (h:UE p xs) (hb:TD p b):UE p (xs++[b]):=An.2 (Xb (An.1 h) hb)
end
def Wc (op:Int):Prop:=op<=11
def WL (op:Int):Prop:=op<=15
end Go.Abs
section
namespace Go.Abs
structure LW (ds:List Zc) (nf q:Nat) (e:Z0) (ys:List Z4) (v:Int):Prop where
 fs:U1 ds nf q ys
 v:0<=v/\v<(q+YI ys:Nat)
 sz:Y3 ys<=6*e.sz
 op:UE Wc ys
theorem LW.dn {ds:List Zc} {nf q:Nat} {e:Z0} {ys:List Z4} {v:Int} (h:LW ds nf q e ys v):YI ys<=6*e.sz/\ys.length<=6*e.sz:=by
 have h1:=Jj ys
 have h2:=QE ys
 have h3:=h.sz
 omega
structure LB (ds:List Zc) (nf q:Nat) (e:Z0) (b:Z3):Prop where
 fb:fB ds nf q b
 sz:b.sz<=1+6*e.sz
 op:WD Wc b
section
variable {ds:List Zc} {nf q:Nat}
theorem Bz:∀xs ys:List Z3,YH (xs++ys)=YH xs+YH ys
 | [],ys=>by simp [YH]
 | x::r,ys=>by rw [TJ,YH,YH,Bz r];omega
theorem LW.block {e:Z0} {ys:List Z4} {v:Int} (h:LW ds nf q e ys v):LB ds nf q e ⟨ys,v⟩:=
 ⟨by rw [fB];exact ⟨h.fs,h.v⟩,by rw [Z3.sz];have:=h.sz;omega,by rw [WD];exact h.op⟩
theorem LW.var {e:Z0} {v:Int} (hv:0<=v/\v<q):LW ds nf q e [] v:=⟨True.intro,by simpa [YI] using hv,by simp [Y3],True.intro⟩
theorem LW.let_ {e a b:Z0} {ys zs:List Z4} {v1 v2:Int} (ha:LW ds nf q a ys v1) (hb:LW ds nf (q+YI ys) b zs v2) (he:a.sz+b.sz<e.sz):LW ds nf q e (ys++zs) v2:=by
 refine ⟨AT.2 ⟨ha.fs,hb.fs⟩,by rw [Qu,<-J6];exact hb.v,?_,DA.2 ⟨ha.op,hb.op⟩⟩
 have h1:=ha.sz
 have h2:=hb.sz
 rw [Um];omega
theorem BC {ys:List Z4} {s:Z4} (h:YP s.op=false):YI (ys++[s])=YI ys+1:=by
 rw [Qu]
 simp [YI,h]
theorem LW.node {e:Z0} {ys:List Z4} {as1:LI} (ho:0<=e.op/\e.op<=11/\e.op≠7/\e.op≠8) (hc:e.op=9->0<=e.num/\e.num<nf) (hn:-2000<=e.num/\e.num<=2000) (hf:U1 ds nf q ys) (ha:∀a∈as1,0<=a/\a<(q+YI ys:Nat)) (hl:as1.length<=4) (hs:Y3 ys<=6*X8 e.kids) (hop:UE Wc ys) :
  LW ds nf q e (ys++[⟨e.op,e.num,0,as1,[]⟩]) ((q+YI ys:Nat):Int):=by
 have hcb:YP e.op=false:=by simp [YP];omega
 refine ⟨D0 hf ?_,?_,?_,DB hop (by rw [TD];exact ⟨by show e.op<=11;omega,True.intro⟩)⟩
 ·rw [fS]
  exact ⟨.inl ⟨by omega,by omega⟩,ha,fun h=>by omega,fun h=>by omega,fun h=>by omega,fun h=>by omega,hc,hn,by omega,hl,fun _=>rfl,True.intro⟩
 ·rw [BC (show YP (Z4.mk e.op e.num 0 as1 []).op=false from hcb)];omega
 ·rw [Um,e.sz_eq]
  simp only [Y3,Z4.sz,YH]
  omega
theorem LW.branch {e:Z0} {ys:List Z4} {v:Int} {bs:List Z3} {s0 sr:Nat} (ho:e.op=7∨e.op=8) (h7:e.op=7->bs.length=2) (h8:e.op=8->bs.length=(Y2 ds e.num).length) (hn:-2000<=e.num/\e.num<=2000) (hf:U1 ds nf q ys) (hv:0<=v/\v<(q+YI ys:Nat))
  (hb:Up ds nf (VH ds e.op e.num (q+YI ys)) 0 bs) (hl:bs.length<=3) (h0:Y3 ys<=6*s0) (h1:YH bs<=bs.length+6*sr) (hs:s0+sr<=X8 e.kids) (hop:UE Wc ys) (hob:TC Wc bs):LW ds nf q e (ys++[⟨e.op,e.num,0,[v],bs⟩]) ((q+YI ys:Nat):Int):=by
 have hcb:YP e.op=false:=by simp [YP];omega
 refine ⟨D0 hf ?_,?_,?_,DB hop (by rw [TD];exact ⟨by show e.op<=11;omega,hob⟩)⟩
 ·rw [fS]
  exact ⟨.inl ⟨by omega,by omega⟩,fun a ha=>by rw [Xx.1 ha];exact hv,fun h=>by omega,h7,h8,fun _=>⟨v,rfl⟩,fun h=>by omega,hn,by omega,by simp,fun h=>by omega,hb⟩
 ·rw [BC (show YP (Z4.mk e.op e.num 0 [v] bs).op=false from hcb)];omega
 ·rw [Um,e.sz_eq]
  simp only [Y3,Z4.sz,YD,X6]
  omega
theorem Ml {ds:List Zc} {op num:Int} {m k:Nat} (h:op=13):UH ds op num m k=m+k:=Zw h
theorem Z31 {ds:List Zc} {op num:Int} {m:Nat} (h:op≠13):UH ds op num m 0=m:=by simp [UH,h]
theorem Mm {ds:List Zc} {op num:Int} {m k:Nat} (h:op≠13/\op≠8):UH ds op num m k=m:=by simp [UH,h.1,h.2]
theorem Z32 {ds:List Zc} {op num x:Int} {m k j:Nat} (h:op=8) (hk:k=j+1) (hx:(Y2 ds num)[j]? = some x):UH ds op num m k=m+(Y5 ds x).length:=by
 subst h;subst hk;rw [Nat.add_comm j 1];exact Bg hx
theorem Gd {ds:List Zc} {op num x:Int} {m j:Nat} (h:op=8) (hx:(Y2 ds num)[j]? = some x):VH ds op num m j=m+(Y5 ds x).length:=by
 rw [VH,Zw h,UO (i:=(j:Int)) (by simpa using hx)]
theorem Ge {ds:List Zc} {op num:Int} {m j:Nat} (h:op≠8):VH ds op num m j=m:=Zr h
theorem Jl {xs:List Z0} {k:Nat} {e:Z0} (h:xs[k]? = some e):X8 (xs.take (k+1))=X8 (xs.take k)+e.sz:=by rw [Vq h,BE,X8,X8];rfl
theorem KF {xs:List Z0} (k:Nat):X8 (xs.take k)<=X8 xs:=by
 have h:=Yr X8 (Un k xs)
 rw [BE] at h;omega
theorem HN {xs:List Z0} {a b:Z0} (ha:xs[0]? = some a) (hb:xs[1]? = some b):a.sz+b.sz<=X8 xs:=by
 have h1:X8 (xs.take 1)=X8 (xs.take 0)+a.sz:=Jl ha
 have h2:X8 (xs.take 2)=X8 (xs.take 1)+b.sz:=Jl hb
 have h3:=KF (xs:=xs) 2
 omega
theorem Co {us:LI} {v:Int} {d:Nat} (hu:∀a∈us,0<=a/\a<(q:Int)) (hv:0<=v/\v<(q+d:Nat)):∀a∈us++[v],0<=a/\a<((q+d:Nat):Int):=
 Xb (fun a ha=>by have:=hu a ha;omega) hv
theorem E2 {us:LI} {d:Nat} (hu:∀a∈us,0<=a/\a<(q:Int)):∀a∈us,0<=a/\a<((q+d:Nat):Int):=fun a ha=>by have:=hu a ha;omega
theorem Z5j {us ns:LI} {d mf:Nat} (hu:∀a∈us,0<=a/\a<(q:Int)) (hn:∀i∈ns,((q+d:Nat):Int)<=i/\i<((q+d:Nat):Int)+mf):∀a∈us++ns,0<=a/\a<((q+d+mf:Nat):Int):=fun a ha=>by
 rcases X2.1 ha with h|h
 ·have:=hu a h;omega
 ·have:=hn a h;omega
theorem CH:∀bs:List Z3,bs.length<=YH bs
 | []=>YQ _
 | b::r=>by have:=CH r;have:=b.sz_pos;rw [YH,YD];omega
end
end Go.Abs
namespace Go.Abs
structure RF (ds:List Zc) (nf q:Nat) (p:Int->Prop) (r:Y8):Prop where
 sig:(r.params,r.result)∈QL
 lent:r.lent.length<=3/\∀i∈r.lent,0<=i/\i<r.params.length
 body:fB ds nf r.params.length r.body/\r.body.sz<=q
 op:WD p r.body
structure FO (n:Zx) (q:Nat) (p:Int->Prop):Prop where
 fn:FN n q
 op:∀r∈n.routines,WD p r.body
theorem FO.rf {n:Zx} {q:Nat} {p:Int->Prop} (h:FO n q p) {r:Y8} (hr:r∈n.routines):RF n.decls n.routines.length q p r:=⟨h.fn.sigs r hr,h.fn.lent r hr,h.fn.body r hr,h.op r hr⟩
theorem FO.all {n:Zx} {q:Nat} {p:Int->Prop} (hd:GD n.decls) (hl:1<=n.routines.length/\n.routines.length<=4) (h:∀r∈n.routines,RF n.decls n.routines.length q p r):FO n q p:=
 ⟨⟨hd,hl,fun r hr=>(h r hr).sig,fun r hr=>(h r hr).lent,fun r hr=>(h r hr).body⟩,fun r hr=>(h r hr).op⟩
structure RN (ds:List Zc) (nf:Nat) (r:Y8):Prop where
 sig:(r.params,r.result)∈QL
 lent:r.lent=[]
 body:fB ds nf r.params.length r.body/\r.body.sz<=181
 op:WD Wc r.body
theorem RN.all {n:Zx} {q:Nat} (hd:GD n.decls) (hl:1<=n.routines.length/\n.routines.length<=4) (h:∀r∈n.routines,RN n.decls n.routines.length r) (hq:181<=q):FO n q Wc:=
 FO.all hd hl fun r hr=>⟨(h r hr).sig,by rw [(h r hr).lent];exact ⟨by simp,fun i hi=>by cases hi⟩,⟨(h r hr).body.1,WJ (h r hr).body.2 hq⟩,(h r hr).op⟩
end Go.Abs
namespace Go.Abs
theorem RN.of {ds:List Zc} {nf:Nat} {ps:LI} {rt:Int} {b:Z3} {e:Z0} (hs:(ps,rt)∈QL) (h:LB ds nf ps.length e b) (he:e.sz<=30):RN ds nf ⟨ps,[],rt,Z3.mk b.steps b.result⟩:=by
 have e1:Z3.mk b.steps b.result=b:=by cases b;rfl
 rw [e1]
 exact ⟨hs,rfl,⟨h.fb,by have:=h.sz;show b.sz<=181;omega⟩,h.op⟩
end Go.Abs
end
namespace Go.Abs
theorem Gq:∀{xs:List Z4} {s:Z4},s∈xs->s.sz<=Y3 xs
 | [],s,h=>by cases h
 | x::r,s,h=>by
  rw [Y3]
  rcases Yq.1 h with rfl|h
  ·omega
  ·have:=Gq h;omega
theorem Ex:∀{xs:List Z3} {b:Z3},b∈xs->b.sz<=YH xs
 | [],b,h=>by cases h
 | x::r,b,h=>by
  rw [YH]
  rcases Yq.1 h with rfl|h
  ·omega
  ·have:=Ex h;omega
structure LC (n:Zx) (k:Nat) (xs:List LI):Prop where
 len:xs.length=k
 ok:∀(i:Nat) (l:LI),xs[i]? = some l->l.length<=3/\∀r,n.routines[i]? = some r->∀v∈l,0<=v/\v<(r.params.length:Int)
theorem LC.nil {n:Zx}:LC n 0 []:=⟨rfl,fun i l h=>by simp at h⟩
theorem LC.snoc {n:Zx} {k:Nat} {xs:List LI} {l:LI} (h:LC n k xs) (hl:l.length<=3) (hv:∀r,n.routines[k]? = some r->∀v∈l,0<=v/\v<(r.params.length:Int)):LC n (k+1) (xs++[l]):=by
 refine ⟨by rw [Yk,h.len];rfl,fun i l' hi=>?_⟩
 by_cases hk:i<xs.length
 ·rw [Cu hk] at hi
  exact h.ok i l' hi
 ·rw [Ea om] at hi
  have h0:i-xs.length=0:=by
   cases e:i-xs.length with
   | zero=>rfl
   | succ q=>rw [e] at hi;simp at hi
  rw [h0] at hi
  cases hi
  have e:i=k:=by have:=h.len;omega
  subst e
  exact ⟨hl,hv⟩
def WB:LI->Int->LI
 | [],y=>[y]
 | x::r,y=>if x>y then y::x::r else if x=y then x::r else x::WB r y
def UX (d:Bool) (xs:LI) (y:Int):LI:=if d=true then xs else WB xs y
theorem Dk {xs:LI} {y:Int}:UX true xs y=xs:=rfl
theorem Dj {xs:LI} {y:Int}:UX false xs y=WB xs y:=rfl
theorem IF {xs acc r:LI} {y x:Int} {k:Nat} {d:Bool} (hx:xs[k]? = some x) (hd:d=true) (h:acc++UX d (xs.drop k) y=r):(acc++[x])++UX d (xs.drop (k+1)) y=r:=by
 subst hd
 rw [Dk,Yn hx] at h
 rw [Dk,<-h];simp
theorem SH {xs acc r:LI} {y x:Int} {k:Nat} {d:Bool} (hx:xs[k]? = some x) (hd:¬d=true) (hl:¬x>=y) (h:acc++UX d (xs.drop k) y=r):(acc++[x])++UX d (xs.drop (k+1)) y=r:=by
 have hd:=Cs.2 hd
 subst hd
 rw [Dj,Yn hx,WB,Zr om,Zr om] at h
 rw [Dj,<-h];simp
theorem SJ {xs acc r:LI} {y x:Int} {k:Nat} {d:Bool} (hx:xs[k]? = some x) (hd:¬d=true) (hl:x>y) (h:acc++UX d (xs.drop k) y=r):((acc++[y])++[x])++UX true (xs.drop (k+1)) y=r:=by
 have hd:=Cs.2 hd
 subst hd
 rw [Dj,Yn hx,WB,Zw hl] at h
 rw [Dk,<-h];simp
theorem SK {xs acc r:LI} {y x:Int} {k:Nat} {d:Bool} (hx:xs[k]? = some x) (hd:¬d=true) (hl:x=y) (h:acc++UX d (xs.drop k) y=r):(acc++[x])++UX true (xs.drop (k+1)) y=r:=by
 have hd:=Cs.2 hd
 subst hd
 rw [Dj,Yn hx,WB,Zr om,Zw hl] at h
 rw [Dk,<-h];simp
theorem SG {xs acc acc2 r:LI} {y x:Int} {k:Nat} {d d2:Bool} (hx:xs[k]? = some x) (h:acc++UX d (xs.drop k) y=r)
  (hc:(acc2=acc/\d2=d/\(d=true∨¬x>=y))∨(acc2=acc++[y]/\d2=true/\¬d=true/\x>y)∨(acc2=acc/\d2=true/\¬d=true/\x=y)):(acc2++[x])++UX d2 (xs.drop (k+1)) y=r:=by
 rcases hc with ⟨rfl,rfl,h3⟩|⟨rfl,rfl,h3,h4⟩|⟨rfl,rfl,h3,h4⟩
 ·rcases h3 with h3|h3
  ·exact IF hx h3 h
  ·by_cases q:d2=true
   ·exact IF hx q h
   ·exact SH hx q h3 h
 ·exact SJ hx h3 h4 h
 ·exact SK hx h3 h4 h
theorem SF {xs acc r:LI} {y:Int} {k:Nat} {d:Bool} (hk:xs.length<=k) (h:acc++UX d (xs.drop k) y=r):(if d=true then acc else acc++[y])=r:=by
 rw [Xz hk] at h
 by_cases q:d=true
 ·rw [UX,Zw q,T3] at h;rw [Zw q];exact h
 ·rw [UX,Zr q,WB] at h;rw [Zr q];exact h
theorem B0:∀(xs:LI) (y:Int),(WB xs y).length<=xs.length+1
 | [],y=>YQ _
 | x::r,y=>by
  have:=B0 r y
  rw [WB]
  split
  ·simp
  ·split
   ·simp
   ·simp only [YD];omega
theorem BT:∀{xs:LI} {y z:Int},z∈WB xs y↔z∈xs∨z=y
 | [],y,z=>by simp [WB]
 | x::r,y,z=>by
  rw [WB]
  split
  ·simp only [Yq];exact ⟨fun h=>h.elim .inr .inl,fun h=>h.elim .inr .inl⟩
  ·split
   ·rename_i h;subst h;simp only [Yq];exact ⟨fun h=>.inl h,fun h=>h.elim id .inl⟩
   ·simp only [Yq,BT (xs:=r)];exact ⟨fun h=>by rcases h with h|h|h<;>simp [h],fun h=>by rcases h with (h|h)|h<;>simp [h]⟩
def JP (xs:LI):Prop:=xs.Pairwise (·<·)
theorem ID:∀{xs:LI} {y:Int},JP xs->JP (WB xs y)
 | [],y,_=>by simp [WB,JP]
 | x::r,y,h=>by
  obtain ⟨h1,h2⟩:=Wa.1 h
  rw [WB]
  split
  ·rename_i q
   refine Wa.2 ⟨fun z hz=>?_,h⟩
   rcases Yq.1 hz with rfl|hz
   ·omega
   ·have:=h1 z hz;omega
  ·split
   ·exact h
   ·refine Wa.2 ⟨fun z hz=>?_,ID h2⟩
    rcases BT.1 hz with hz|rfl
    ·exact h1 z hz
    ·omega
def UF:LI->Int->LI
 | [],_=>[]
 | x::r,y=>if x=y then UF r y else x::UF r y
theorem C9:∀(xs:LI) (y:Int),(UF xs y).length<=xs.length
 | [],y=>YQ _
 | x::r,y=>by
  have:=C9 r y
  rw [UF]
  split
  ·rw [YD];omega
  ·rw [YD,YD];omega
theorem B9:∀{xs:LI} {y z:Int},z∈UF xs y->z∈xs
 | [],y,z,h=>by rw [UF] at h;exact h
 | x::r,y,z,h=>by
  rw [UF] at h
  split at h
  ·exact Xo _ (B9 h)
  ·rcases Yq.1 h with rfl|h
   ·exact YV ..
   ·exact Xo _ (B9 h)
theorem Z1r {xs acc r:LI} {y x:Int} {k:Nat} (hx:xs[k]? = some x) (h:acc++UF (xs.drop k) y=r):(if x≠y then acc++[x] else acc)++UF (xs.drop (k+1)) y=r:=by
 rw [Yn hx,UF] at h
 by_cases q:x=y
 ·rw [Zw q] at h;rw [Zr (fun z=>z q)];exact h
 ·rw [Zr q] at h;rw [Zw q,<-h];simp
theorem Z1q {xs acc r:LI} {y:Int} {k:Nat} (hk:xs.length<=k) (h:acc++UF (xs.drop k) y=r):acc=r:=by
 rw [Xz hk,UF,T3] at h;exact h
def WX (n:Int) (xs:LI) (a:Int):LI:=if 0<=a/\a<n then WB xs a else xs
def VK (n:Int):LI->LI->LI
 | [],xs=>xs
 | a::r,xs=>VK n r (WX n xs a)
mutual
def Tn (n:Int):Z4->LI->LI
 | .mk op _ _ args kids,xs=>if YP op=true then xs else T0 n kids (VK n args xs)
def T0 (n:Int):List Z3->LI->LI
 | [],xs=>xs
 | b::r,xs=>T0 n r (Vg n b xs)
def WY (n:Int):List Z4->LI->LI
 | [],xs=>xs
 | s::r,xs=>WY n r (Tn n s xs)
def Vg (n:Int):Z3->LI->LI
 | .mk steps result,xs=>WX n (WY n steps xs) result
end
section
variable {n:Int}
theorem Nl (s:Z4) (xs:LI):Tn n s xs=if YP s.op=true then xs else T0 n s.kids (VK n s.args xs):=by cases s;rw [Tn];rfl
theorem Ni (b:Z3) (xs:LI):Vg n b xs=WX n (WY n b.steps xs) b.result:=by cases b;rw [Vg];rfl
theorem Cm (xs:LI) (a:Int):(WX n xs a).length<=xs.length+1:=by
 rw [WX];split
 ·exact B0 xs a
 ·omega
theorem Ng:∀(as1 xs:LI),(VK n as1 xs).length<=xs.length+as1.length
 | [],xs=>YQ _
 | a::r,xs=>by
  have h1:=Ng r (WX n xs a)
  have h2:=Cm (n:=n) xs a
  rw [VK,YD];omega
mutual
theorem Nm:∀(s:Z4) (xs:LI),(Tn n s xs).length<=xs.length+s.sz
 | .mk op num into args kids,xs=>by
  have h1:=Nj kids (VK n args xs)
  have h2:=Ng (n:=n) args xs
  rw [Tn,Z4.sz];split<;>omega
theorem Nj:∀(bs:List Z3) (xs:LI),(T0 n bs xs).length<=xs.length+YH bs
 | [],xs=>YQ _
 | b::r,xs=>by
  have h1:=Nj r (Vg n b xs)
  have h2:=DZ b xs
  rw [T0,YH];omega
theorem E0:∀(bs:List Z4) (xs:LI),(WY n bs xs).length<=xs.length+Y3 bs
 | [],xs=>YQ _
 | b::r,xs=>by
  have h1:=E0 r (Tn n b xs)
  have h2:=Nm b xs
  rw [WY,Y3];omega
theorem DZ:∀(b:Z3) (xs:LI),(Vg n b xs).length<=xs.length+b.sz
 | .mk steps result,xs=>by
  have h1:=E0 steps xs
  have h2:=Cm (n:=n) (WY n steps xs) result
  rw [Vg,Z3.sz];omega
end
theorem Z5c {as1 ys r:LI} {k:Nat} {a:Int} (h:as1[k]? = some a) (ha:VK n (as1.drop k) ys=r):VK n (as1.drop (k+1)) (WX n ys a)=r:=by
 rw [Yn h,VK] at ha;exact ha
theorem Z5f {bs:List Z3} {ys r:LI} {k:Nat} {b:Z3} (h:bs[k]? = some b) (ha:T0 n (bs.drop k) ys=r):T0 n (bs.drop (k+1)) (Vg n b ys)=r:=by
 rw [Yn h,T0] at ha;exact ha
theorem Z5i {bs:List Z4} {ys r:LI} {k:Nat} {b:Z4} (h:bs[k]? = some b) (ha:WY n (bs.drop k) ys=r):WY n (bs.drop (k+1)) (Tn n b ys)=r:=by
 rw [Yn h,WY] at ha;exact ha
theorem Z5b {as1 ys r:LI} {k:Nat} (h:as1.length<=k) (ha:VK n (as1.drop k) ys=r):ys=r:=by rw [Xz h,VK] at ha;exact ha
theorem Z5e {bs:List Z3} {ys r:LI} {k:Nat} (h:bs.length<=k) (ha:T0 n (bs.drop k) ys=r):ys=r:=by rw [Xz h,T0] at ha;exact ha
theorem Z5h {bs:List Z4} {ys r:LI} {k:Nat} (h:bs.length<=k) (ha:WY n (bs.drop k) ys=r):ys=r:=by rw [Xz h,WY] at ha;exact ha
end
theorem GQ {s:Z4} (h:Cn s):∃a,s.args=[a]:=⟨gI s.args 0,by have:=Yr Z4.args h;exact this⟩
section
variable {xs:LI} {v:Int} {lo hi:Nat}
end
section
variable {m:Int} {xs du dr:List Z4} {lf:LI} {d:Bool} {k:Nat} {s:Z4} {W:List Z4 × List Z4 × LI}
end
def YC:List Z4->Nat
 | []=>0
 | s::r=>if YP s.op=true then YC r+1 else 0
def XJ (op x:Int):List Z4->Int->Int
 | [],_=>-1
 | s::r,k=>if s.op=op/\gI s.args 0=x then k else XJ op x r (k+1)
def TP (many:Nat) (s:Z4):Prop:=(s.op=6/\s.into=0)/\s.args.length=many
instance (many:Nat) (s:Z4):Decidable (TP many s):=by unfold TP;infer_instance
def W0 (many:Nat):List Z4->Int->Int
 | [],_=>-1
 | s::r,k=>if TP many s then k else W0 many r (k+1)
def Jn (xs:List Z4) (i:Int):Z4:=xs[i.toNat]?.getD (Zl 0 0)
def Te (v:Int) (s:Z4):Z4:=.mk s.op s.num v s.args s.kids
def WF (xs:List Z4) (x:Int):Int:=XJ 16 x (xs.take (YC xs)) 0
def W7 (xs:List Z4) (many:Nat):Int:=W0 many (xs.drop (YC xs)) (YC xs)
def Vf (xs:List Z4) (x:Int) (many:Nat):List Z4:=
 if WF xs x<0∨W7 xs many<0 then xs else (xs.set (WF xs x).toNat (Zl 17 x)).set (W7 xs many).toNat (Te (1+x) (Jn xs (W7 xs many)))
def V5 (b:Z3) (x:Int) (many:Nat):Z3:=.mk (Vf b.steps x many) b.result
mutual
def UZ (ds:List Zc) (kept:LI):Z4->Z4
 | .mk op num into args kids=>.mk op num into args (Vv ds kept op num args kids 0)
def Vv (ds:List Zc) (kept:LI) (op num:Int) (args:LI):List Z3->Nat->List Z3
 | [],_=>[]
 | b::r,k=>(if op=8/\¬gI args 0∈kept then V5 (W2 ds (if WF b.steps (gI args 0)<0∨W7 b.steps (VO ds num k).length<0 then kept else gI args 0::kept) b) (gI args 0) (VO ds num k).length else W2 ds kept b)::Vv ds kept op num args r (k+1)
def VF (ds:List Zc) (kept:LI):List Z4->List Z4
 | []=>[]
 | s::r=>UZ ds kept s::VF ds kept r
def W2 (ds:List Zc) (kept:LI):Z3->Z3
 | .mk steps result=>.mk (VF ds kept steps) result
end
def Dm (ds:List Zc) (kept:LI) (num:Int) (args:LI) (k:Nat) (b:Z3):LI:=if WF b.steps (gI args 0)<0∨W7 b.steps (VO ds num k).length<0 then kept else gI args 0::kept
def UG (ds:List Zc) (kept:LI) (op num:Int) (args:LI) (k:Nat) (b:Z3):Z3:=if op=8/\¬gI args 0∈kept then V5 (W2 ds (Dm ds kept num args k b) b) (gI args 0) (VO ds num k).length else W2 ds kept b
theorem JB (ds:List Zc) (kept:LI) (s:Z4):UZ ds kept s=.mk s.op s.num s.into s.args (Vv ds kept s.op s.num s.args s.kids 0):=by cases s;rw [UZ];rfl
theorem DG (ds:List Zc) (kept:LI) (b:Z3):W2 ds kept b=.mk (VF ds kept b.steps) b.result:=by cases b;rw [W2];rfl
theorem DI (ds:List Zc) (kept:LI):∀xs:List Z4,VF ds kept xs=xs.map (UZ ds kept)
 | []=>rfl
 | s::r=>by rw [VF,DI ds kept r];rfl
section
variable {ds:List Zc} {kept:LI}
theorem Z2r {xs acc r:List Z4} {k:Nat} {s:Z4} (h:xs[k]? = some s) (ha:acc++VF ds kept (xs.drop k)=r) :
  (acc++[.mk s.op s.num s.into s.args (Vv ds kept s.op s.num s.args s.kids 0)])++VF ds kept (xs.drop (k+1))=r:=by
 rw [Yn h,VF,JB] at ha
 rw [<-ha];simp
theorem Z2q {xs acc r:List Z4} {k:Nat} (h:xs.length<=k) (ha:acc++VF ds kept (xs.drop k)=r):acc=r:=by
 rw [Xz h,VF,T3] at ha;exact ha
theorem Z2l {op num:Int} {args:LI} {bs acc r:List Z3} {k:Nat} {b:Z3} (h:bs[k]? = some b) (ha:acc++Vv ds kept op num args (bs.drop k) k=r) :
  (acc++[UG ds kept op num args k b])++Vv ds kept op num args (bs.drop (k+1)) (k+1)=r:=by
 rw [Yn h,Vv] at ha
 rw [<-ha,UG,Dm];simp
theorem Z2k {op num:Int} {args:LI} {bs acc r:List Z3} {k j:Nat} (h:bs.length<=k) (ha:acc++Vv ds kept op num args (bs.drop k) j=r):acc=r:=by
 rw [Xz h,Vv,T3] at ha;exact ha
end
section
variable {ds:List Zc}
mutual
theorem Z2o:∀(s:Z4) {K K':LI},(∀z,z∈K↔z∈K')->UZ ds K s=UZ ds K' s
 | .mk op num into args kids,K,K',h=>by rw [UZ,UZ,Mc kids h]
theorem Mc:∀(bs:List Z3) {K K':LI} {op num:Int} {args:LI} {k:Nat},(∀z,z∈K↔z∈K')->Vv ds K op num args bs k=Vv ds K' op num args bs k
 | [],_,_,_,_,_,_,_=>by rw [Vv,Vv]
 | b::r,K,K',op,num,args,k,h=>by
  have h1:=Mc r (op:=op) (num:=num) (args:=args) (k:=k+1) h
  have h2:=G8 b h
  have h3:∀z,z∈(gI args 0::K)↔z∈(gI args 0::K'):=fun z=>by rw [Yq,Yq,h z]
  have h4:=G8 b h3
  rw [Vv,Vv,h1,h2]
  congr 1
  by_cases hq:op=8/\¬gI args 0∈K
  ·have hq':op=8/\¬gI args 0∈K':=⟨hq.1,fun z=>hq.2 ((h _).2 z)⟩
   rw [Zw hq,Zw hq']
   congr 1
   split
   ·exact h2
   ·exact h4
  ·have hq':¬(op=8/\¬gI args 0∈K'):=fun z=>hq ⟨z.1,fun y=>z.2 ((h _).1 y)⟩
   rw [Zr hq,Zr hq']
theorem Me:∀(xs:List Z4) {K K':LI},(∀z,z∈K↔z∈K')->VF ds K xs=VF ds K' xs
 | [],_,_,_=>by rw [VF,VF]
 | s::r,K,K',h=>by rw [VF,VF,Z2o s h,Me r h]
theorem G8:∀(b:Z3) {K K':LI},(∀z,z∈K↔z∈K')->W2 ds K b=W2 ds K' b
 | .mk steps result,K,K',h=>by rw [W2,W2,Me steps h]
end
end
theorem BZ:∀xs:List Z4,YC xs<=xs.length
 | []=>YQ _
 | s::r=>by have:=BZ r;rw [YC];split<;>simp<;>omega
section
variable {f:Z4->Z4} (hop:∀s,(f s).op=s.op) (hin:∀s,(f s).into=s.into) (har:∀s,(f s).args=s.args)
include hop
theorem FF:∀xs:List Z4,YC (xs.map f)=YC xs
 | []=>rfl
 | s::r=>by rw [Ue,YC,YC,hop,FF r]
include har
theorem H2 {op x:Int}:∀(xs:List Z4) (k:Int),XJ op x (xs.map f) k=XJ op x xs k
 | [],_=>rfl
 | s::r,k=>by rw [Ue,XJ,XJ,hop,har,H2 r]
theorem Z1k (xs:List Z4) (x:Int):WF (xs.map f) x=WF xs x:=by rw [WF,FF hop,<-List.map_take,H2 hop har,WF]
include hin
theorem Hp {many:Nat}:∀(xs:List Z4) (k:Int),W0 many (xs.map f) k=W0 many xs k
 | [],_=>rfl
 | s::r,k=>by
  have e:TP many (f s)↔TP many s:=by rw [TP,TP,hop,hin,har]
  rw [Ue,W0,W0,Hp r]
  by_cases h:TP many s
  ·rw [Zw h,Zw (e.2 h)]
  ·rw [Zr h,Zr (fun z=>h (e.1 z))]
theorem OL (xs:List Z4) (many:Nat):W7 (xs.map f) many=W7 xs many:=by rw [W7,FF hop,<-List.map_drop,Hp hop hin har,W7]
end
theorem H1 {op x:Int}:∀{xs:List Z4} {k:Int},¬XJ op x xs k<0->0<=k->k<=XJ op x xs k/\XJ op x xs k<k+xs.length/\∃s,xs[(XJ op x xs k-k).toNat]? = some s/\s.op=op/\gI s.args 0=x
 | [],k,h,_=>by simp [XJ] at h
 | s::r,k,h,hk=>by
  rw [XJ] at h ⊢
  split
  ·rename_i q
   refine ⟨Int.le_refl _,by rw [YD];omega,s,?_,q⟩
   rw [Int.sub_self];rfl
  ·rename_i q
   rw [Zr q] at h
   obtain ⟨h1,h2,t,h3,h4⟩:=H1 (xs:=r) (k:=k+1) h om
   refine ⟨by omega,by rw [YD];omega,t,?_,h4⟩
   rw [show (XJ op x r (k+1)-k).toNat=(XJ op x r (k+1)-(k+1)).toNat+1 by omega,List.getElem?_cons_succ]
   exact h3
theorem Ho {many:Nat}:∀{xs:List Z4} {k:Int},¬W0 many xs k<0->0<=k->k<=W0 many xs k/\W0 many xs k<k+xs.length/\∃s,xs[(W0 many xs k-k).toNat]? = some s/\TP many s
 | [],k,h,_=>by simp [W0] at h
 | s::r,k,h,hk=>by
  rw [W0] at h ⊢
  split
  ·rename_i q
   refine ⟨Int.le_refl _,by rw [YD];omega,s,?_,q⟩
   rw [Int.sub_self];rfl
  ·rename_i q
   rw [Zr q] at h
   obtain ⟨h1,h2,t,h3,h4⟩:=Ho (xs:=r) (k:=k+1) h om
   refine ⟨by omega,by rw [YD];omega,t,?_,h4⟩
   rw [show (W0 many r (k+1)-k).toNat=(W0 many r (k+1)-(k+1)).toNat+1 by omega,List.getElem?_cons_succ]
   exact h3
theorem C8 {xs:List Z4} {x:Int} (h:¬WF xs x<0):0<=WF xs x/\WF xs x<YC xs/\∃s,xs[(WF xs x).toNat]? = some s/\s.op=16/\gI s.args 0=x:=by
 obtain ⟨h1,h2,s,h3,h4⟩:=H1 h (Int.le_refl 0)
 have hl:=BZ xs
 rw [Wq,V8 hl] at h2
 have h2':WF xs x<YC xs:=by unfold WF;omega
 have h1':0<=WF xs x:=h1
 refine ⟨h1',h2',s,?_,h4⟩
 rw [Int.sub_zero] at h3
 have h5:(WF xs x).toNat<YC xs:=by omega
 rwa [show XJ 16 x (xs.take (YC xs)) 0=WF xs x from rfl,List.getElem?_take_of_lt h5] at h3
theorem Kv {xs:List Z4} {many:Nat} (h:¬W7 xs many<0):(YC xs:Int)<=W7 xs many/\W7 xs many<xs.length/\∃s,xs[(W7 xs many).toNat]? = some s/\TP many s/\Jn xs (W7 xs many)=s:=by
 obtain ⟨h1,h2,s,h3,h4⟩:=Ho h om
 have hl:=BZ xs
 rw [Kh] at h2
 have h1':(YC xs:Int)<=W7 xs many:=h1
 have h2':W7 xs many<xs.length:=by unfold W7;omega
 rw [Cv,show W0 many (xs.drop (YC xs)) (YC xs)=W7 xs many from rfl,show YC xs+(W7 xs many-(YC xs:Int)).toNat=(W7 xs many).toNat by omega] at h3
 exact ⟨h1',h2',s,h3,h4,by rw [Jn,h3];rfl⟩
theorem Z25 {f:Z4->Z4} (hop:∀s,(f s).op=s.op) (hin:∀s,(f s).into=s.into) (har:∀s,(f s).args=s.args) (hc:∀x,f (Zl 17 x)=Zl 17 x) (hi:∀v s,f (Te v s)=Te v (f s)) (xs:List Z4) (x:Int) (many:Nat) :
  Vf (xs.map f) x many=(Vf xs x many).map f:=by
 rw [Vf,Z1k hop har,OL hop hin har,Vf]
 split
 ·rfl
 ·rename_i hq
  obtain ⟨_,_,s,h3,_,h5⟩:=Kv (fun z=>hq (.inr z))
  have e:Jn (xs.map f) (W7 xs many)=f (Jn xs (W7 xs many)):=by rw [Jn,QJ,h3,h5];rfl
  rw [e,List.map_set,List.map_set,hc,hi]
theorem Ma {ds:List Zc} {K:LI} {b:Z3} {x:Int} {many:Nat}:W2 ds K (V5 b x many)=V5 (W2 ds K b) x many:=by
 rw [V5,W2,V5,DG,DI,DI]
 show Z3.mk _ _=Z3.mk (Vf (b.steps.map (UZ ds K)) x many) b.result
 rw [Z25 (f:=UZ ds K) (fun s=>by rw [JB];rfl) (fun s=>by rw [JB];rfl) (fun s=>by rw [JB];rfl) (fun x=>by rw [JB];rfl) (fun v s=>by rw [JB,JB];rfl)]
structure CB (c:LI) (q:Int):Prop where
 len:c.length=4
 bd:∀x∈c,0<=x/\x<=q
mutual
def Am:Z4->Prop
 | .mk op _ _ _ kids=>op≠17/\Ju kids
def Ju:List Z3->Prop
 | []=>True
 | b::r=>TB b/\Ju r
def Jv:List Z4->Prop
 | []=>True
 | s::r=>Am s/\Jv r
def TB:Z3->Prop
 | .mk steps _=>Jv steps
end
theorem B7 (s:Z4):Am s↔s.op≠17/\Ju s.kids:=by cases s;rw [Am];rfl
theorem C3 (b:Z3):TB b↔Jv b.steps:=by cases b;rw [TB];rfl
theorem C4:∀{xs:List Z4},Jv xs↔∀s∈xs,Am s
 | []=>by simp [Jv]
 | s::r=>by rw [Jv,C4];simp
theorem Dx:∀{xs:List Z3},Ju xs↔∀s∈xs,TB s
 | []=>by simp [Ju]
 | s::r=>by rw [Ju,Dx];simp
theorem DX:∀{xs:List Z4} {i:Nat} {s:Z4} (t:Z4),xs[i]? = some s->Y3 (xs.set i t)+s.sz=Y3 xs+t.sz
 | [],_,_,_,h=>by simp at h
 | x::r,0,s,t,h=>by simp at h;subst h;rw [List.set_cons_zero,Y3,Y3];omega
 | x::r,i+1,s,t,h=>by
  have:=DX (xs:=r) (i:=i) t (by simpa using h)
  rw [List.set_cons_succ,Y3,Y3];omega
theorem SM (v:Int) (s:Z4):(Te v s).sz=s.sz:=by cases s;rw [Te,Z4.sz,Z4.sz];rfl
theorem Ht {xs:List Z4} {x:Int} {many:Nat} (h:¬(WF xs x<0∨W7 xs many<0)):(WF xs x).toNat<(W7 xs many).toNat:=by
 obtain ⟨h1,h2,_⟩:=C8 (fun z=>h (.inl z))
 obtain ⟨h3,h4,_⟩:=Kv (fun z=>h (.inr z))
 omega
theorem DF {xs:List Z4} {x:Int} {many:Nat} (h:¬(WF xs x<0∨W7 xs many<0)) {t:Z4} {s:Z4} (hs:xs[(W7 xs many).toNat]? = some s):(xs.set (WF xs x).toNat t)[(W7 xs many).toNat]? = some s:=by
 have:=Ht h
 rw [List.getElem?_set_ne om];exact hs
theorem M1 {xs:List Z4} {x:Int} {many:Nat} (h:∀s∈xs,YP s.op=true->2<=s.sz):Y3 (Vf xs x many)<=Y3 xs:=by
 rw [Vf]
 split
 ·exact YQ _
 ·rename_i hq
  obtain ⟨_,_,s,h3,h4,_⟩:=C8 (fun z=>hq (.inl z))
  obtain ⟨_,_,t,h5,_,h6⟩:=Kv (fun z=>hq (.inr z))
  have e1:=DX (Zl 17 x) h3
  have e2:=DX (Te (1+x) (Jn xs (W7 xs many))) (DF hq (t:=Zl 17 x) h5)
  have h7:=h s (ZW h3) (by rw [h4];rfl)
  rw [CN] at e1
  rw [SM,h6] at e2
  rw [h6]
  omega
section
variable {ds:List Zc}
theorem Z69 {v:Int} {s:Z4} (h:wS ds s) (h6:s.op=6):wS ds (Te v s):=by
 obtain ⟨h1,h2,h3,h4⟩:=(QI s).1 h
 exact (QI _).2 ⟨h1,fun hc=>absurd hc (by show ¬YP s.op=true;rw [h6];decide),h3,h4⟩
theorem Z66 {v:Int}:wS ds (Zl 17 v):=(QI _).2 ⟨rfl,fun _=>⟨rfl,rfl,rfl,v,rfl⟩,fun e=>absurd e (show (17:Int)≠8 by decide),True.intro⟩
theorem Z65 {xs:List Z4} {x:Int} {many:Nat} (h:TI ds xs):TI ds (Vf xs x many):=by
 rw [Vf]
 split
 ·exact h
 ·rename_i hq
  obtain ⟨_,_,t,h5,h7,h6⟩:=Kv (fun z=>hq (.inr z))
  rw [J4]
  intro s hs
  rcases List.mem_or_eq_of_mem_set hs with hs|rfl
  ·rcases List.mem_or_eq_of_mem_set hs with hs|rfl
   ·exact J4.1 h s hs
   ·exact Z66
  ·rw [h6];exact Z69 (J4.1 h t (ZW h5)) h7.1.1
theorem Z64 {b:Z3} {x:Int} {many:Nat} (h:wB ds b):wB ds (V5 b x many):=by rw [V5,Qp];exact Z65 ((Qp b).1 h)
variable (hd:Wg ds)
mutual
theorem Z2p:∀(s:Z4) {K:LI},wS ds s->(UZ ds K s).sz<=s.sz
 | .mk op num into args kids,K,h=>by
  have:=Md kids (K:=K) (op:=op) (num:=num) (args:=args) (k:=0) h.2.2.2
  rw [UZ,Z4.sz,Z4.sz];omega
theorem Md:∀(bs:List Z3) {K:LI} {op num:Int} {args:LI} {k:Nat},J3 ds bs->YH (Vv ds K op num args bs k)<=YH bs
 | [],_,_,_,_,_,_=>YQ _
 | b::r,K,op,num,args,k,h=>by
  have h2:=Md r (K:=K) (op:=op) (num:=num) (args:=args) (k:=k+1) h.2
  have key:∀K2:LI,(V5 (W2 ds K2 b) (gI args 0) (VO ds num k).length).sz<=b.sz:=fun K2=>by
   have h1:=G9 b (K:=K2) h.1
   have h3:=M1 (xs:=(W2 ds K2 b).steps) (x:=gI args 0) (many:=(VO ds num k).length) (by
    rw [DG,DI]
    intro s hs hc
    obtain ⟨t,ht,rfl⟩:=Wf.1 hs
    rw [JB] at hc ⊢
    obtain ⟨_,_,a,ha⟩:=E6 (J4.1 ((Qp b).1 h.1) t ht) hc
    rw [Z4.sz,ha];simp)
   rw [V5,Z3.sz]
   rw [Z3.sz_eq] at h1
   omega
  rw [Vv,YH,YH]
  split
  ·have:=key (if WF b.steps (gI args 0)<0∨W7 b.steps (VO ds num k).length<0 then K else gI args 0::K)
   omega
  ·have:=G9 b (K:=K) h.1
   omega
theorem Mf:∀(xs:List Z4) {K:LI},TI ds xs->Y3 (VF ds K xs)<=Y3 xs
 | [],_,_=>YQ _
 | s::r,K,h=>by
  have h1:=Z2p s (K:=K) h.1
  have h2:=Mf r (K:=K) h.2
  rw [VF,Y3,Y3];omega
theorem G9:∀(b:Z3) {K:LI},wB ds b->(W2 ds K b).sz<=b.sz
 | .mk steps result,K,h=>by
  have:=Mf steps (K:=K) h
  rw [W2,Z3.sz,Z3.sz];omega
end
end
theorem FG:∀{xs:List Z4} {i:Nat} {s t:Z4},xs[i]? = some s->YP t.op=YP s.op->YC (xs.set i t)=YC xs
 | [],_,_,_,h,_=>by simp at h
 | x::r,0,s,t,h,e=>by simp at h;subst h;rw [List.set_cons_zero,YC,YC,e]
 | x::r,i+1,s,t,h,e=>by
  rw [List.set_cons_succ,YC,YC,FG (xs:=r) (i:=i) (by simpa using h) e]
theorem Z0d {xs:List Z4} {x:Int} {many:Nat}:YC (Vf xs x many)=YC xs:=by
 rw [Vf]
 split
 ·rfl
 ·rename_i hq
  obtain ⟨_,_,s,h3,h4,_⟩:=C8 (fun z=>hq (.inl z))
  obtain ⟨_,_,t,h5,_,h6⟩:=Kv (fun z=>hq (.inr z))
  rw [FG (DF hq (t:=Zl 17 x) h5) (by rw [h6];rfl),FG h3 (by rw [h4];rfl)]
theorem H4 {op x:Int}:∀{xs:List Z4} {k:Int},(∀s∈xs,s.op≠op)->XJ op x xs k=-1
 | [],_,_=>rfl
 | s::r,k,h=>by
  rw [XJ,Zr (fun z=>h s (YV ..) z.1)]
  exact H4 fun t ht=>h t (Xo _ ht)
theorem H5 {op x:Int}:∀{xs:List Z4} {k:Int},0<=k->(∃s∈xs,s.op=op/\gI s.args 0=x)->0<=XJ op x xs k
 | [],_,_,h=>by obtain ⟨s,hs,_⟩:=h;cases hs
 | s::r,k,hk,h=>by
  rw [XJ]
  split
  ·exact hk
  ·rename_i q
   obtain ⟨t,ht,h1⟩:=h
   rcases Yq.1 ht with rfl|ht
   ·exact absurd h1 q
   ·exact H5 om ⟨t,ht,h1⟩
theorem N5 {xs:List Z4} {x:Int} {many:Nat} (hn:Jv xs):0<=XJ 17 x ((Vf xs x many).take (YC (Vf xs x many))) 0↔¬(WF xs x<0∨W7 xs many<0):=by
 rw [Z0d]
 constructor
 ·intro h hq
  rw [Vf,Zw hq,H4 (fun s hs=>((B7 s).1 (C4.1 hn s (Tp hs))).1)] at h
  omega
 ·intro hq
  obtain ⟨h1,h2,s,h3,h4,_⟩:=C8 (fun z=>hq (.inl z))
  have hap:=Ht hq
  refine H5 (Int.le_refl 0) ⟨Zl 17 x,?_,rfl,rfl⟩
  rw [Vf,Zr hq]
  refine ZW (i:=(WF xs x).toNat) ?_
  rw [List.getElem?_take_of_lt om,List.getElem?_set_ne om,List.getElem?_set_self (XC.1 h3).1]
def Jw (b:Z3):Prop:=∀s∈b.steps,Ju s.kids
theorem Al {b:Z3} (h:TB b):Jw b:=fun s hs=>((B7 s).1 (C4.1 ((C3 b).1 h) s hs)).2
theorem Z13 {b:Z3} {k j:Nat} {s:Z4} {c:Z3} (h:Jw b) (hs:b.steps[k]? = some s) (hc:s.kids[j]? = some c):TB c:=Dx.1 (h s (ZW hs)) c (ZW hc)
theorem Lj {b:Z3} {x:Int} {many:Nat} (h:TB b):Jw (V5 b x many):=by
 intro s hs
 have hs:s∈Vf b.steps x many:=hs
 rw [Vf] at hs
 split at hs
 ·exact Al h s hs
 ·rename_i hq
  obtain ⟨_,_,t,h5,_,h6⟩:=Kv (fun z=>hq (.inr z))
  rcases List.mem_or_eq_of_mem_set hs with hs|rfl
  ·rcases List.mem_or_eq_of_mem_set hs with hs|rfl
   ·exact Al h s hs
   ·exact True.intro
  ·rw [h6];exact Al h t (ZW h5)
theorem Z24 {ds:List Zc} {b:Z3} {x:Int} {many:Nat} (h:wB ds b):(V5 b x many).sz<=b.sz:=by
 have:=M1 (xs:=b.steps) (x:=x) (many:=many) fun s hs hc=>by
  have h7:=Ed ((Qp b).1 h) s hs hc
  rw [h7,CN];omega
 rw [V5,Z3.sz,b.sz_eq];omega
def JA (ds:List Zc) (r:Y8):Y8:=⟨r.params,r.lent,r.result,W2 ds [] r.body⟩
def DH (n:Zx):Zx:=⟨n.decls,n.routines.map (JA n.decls)⟩
end Go.Abs
section
namespace Go.Abs
theorem Z0b {xs:List Z4} {k:Nat} {s:Z4} {r:Nat} (h:xs[k]? = some s) (hs:YP s.op=true) (ha:k+YC (xs.drop k)=r):k+1+YC (xs.drop (k+1))=r:=by
 rw [Yn h,YC,Zw hs] at ha;omega
theorem Z0c {xs:List Z4} {k:Nat} {s:Z4} {r:Nat} (h:xs[k]? = some s) (hs:¬YP s.op=true) (ha:k+YC (xs.drop k)=r):k=r:=by
 rw [Yn h,YC,Zr hs] at ha;omega
theorem Z0a {xs:List Z4} {k:Nat} {r:Nat} (h:xs.length<=k) (ha:k+YC (xs.drop k)=r):k=r:=by
 rw [Xz h,YC] at ha;omega
theorem Od {op x:Int} {xs:List Z4} {k:Nat} {s:Z4} {r:Int} (h:xs[k]? = some s) (hs:s.op=op/\gI s.args 0=x) (ha:XJ op x (xs.drop k) k=r):(k:Int)=r:=by
 rw [Yn h,XJ,Zw hs] at ha;exact ha
theorem H3 {op x:Int} {xs:List Z4} {k:Nat} {s:Z4} {r:Int} (h:xs[k]? = some s) (hs:¬(s.op=op/\gI s.args 0=x)) (ha:XJ op x (xs.drop k) k=r):XJ op x (xs.drop (k+1)) ((k+1:Nat):Int)=r:=by
 rw [Yn h,XJ,Zr hs] at ha;rw [<-ha];congr 1
theorem Oc {op x:Int} {xs:List Z4} {k:Nat} {r:Int} (h:xs.length<=k) (ha:XJ op x (xs.drop k) k=r):-1=r:=by
 rw [Xz h,XJ] at ha;exact ha
theorem OO {many:Nat} {xs:List Z4} {k:Nat} {s:Z4} {r:Int} (h:xs[k]? = some s) (hs:TP many s) (ha:W0 many (xs.drop k) k=r):(k:Int)=r:=by
 rw [Yn h,W0,Zw hs] at ha;exact ha
theorem ON {many:Nat} {xs:List Z4} {k:Nat} {s:Z4} {r:Int} (h:xs[k]? = some s) (hs:¬TP many s) (ha:W0 many (xs.drop k) k=r):W0 many (xs.drop (k+1)) ((k+1:Nat):Int)=r:=by
 rw [Yn h,W0,Zr hs] at ha;rw [<-ha];congr 1
theorem OM {many:Nat} {xs:List Z4} {k:Nat} {r:Int} (h:xs.length<=k) (ha:W0 many (xs.drop k) k=r):-1=r:=by
 rw [Xz h,W0] at ha;exact ha
theorem Z26 {xs:List Z4} {x:Int} {many:Nat} (h:WF xs x<0∨W7 xs many<0):Vf xs x many=xs:=Zw h
theorem Z27 {xs:List Z4} {x:Int} {many:Nat} {s:Z4} (h:¬(WF xs x<0∨W7 xs many<0)) (hs:Jn xs (W7 xs many)=s):(xs.set (WF xs x).toNat (Zl 17 x)).set (W7 xs many).toNat (Te (1+x) s)=Vf xs x many:=by
 rw [Vf,Zr h,hs]
theorem Tx (xs:List Z4):(Zb (Zi xs)).length=xs.length*5:=by rw [Uq _ (YX _)];simp
theorem D5 (s:Z4) (r:List Z4):Zb (Zi (s::r))=Xg s++Zb (Zi r):=by rw [WM,WM];rfl
theorem HX {xs:List Z4} {k:Nat} {x:Z4} (h:xs[k]? = some x):Zb (Zi (xs.take k))++Zb [Yp x]=Zb (Zi (xs.take (k+1))):=by
 rw [Vq h,Wi,Ta,D5]
 have:Zb (Zi [])=[]:=by rw [WM];rfl
 rw [this];rfl
theorem HY {xs:List Z4} {i:Nat} {s:Z4} (h:xs[i]? = some s):Zb (Zi xs)=Zb (Zi (xs.take i))++(Xg s++Zb (Zi (xs.drop (i+1)))):=by
 have hi:=(XC.1 h).1
 have e:xs=xs.take i++(s::xs.drop (i+1)):=by rw [<-Yn h,Un]
 conv=>lhs;rw [e,Wi,Ta,D5]
theorem D6 {xs:List Z4} {i:Nat} {s t:Z4} (h:xs[i]? = some s):(Zb (Zi xs)).take (i*5)++Xg t++(Zb (Zi xs)).drop (i*5+(Xg t).length)=Zb (Zi (xs.set i t)):=by
 have hi:=(XC.1 h).1
 have hl:(Zb (Zi (xs.take i))).length=i*5:=by rw [Tx,Wq,V8 om]
 rw [HY h,G7 (xs:=Xg s) (ys:=Xg t) hl rfl]
 have e:xs.set i t=xs.take i++(t::xs.drop (i+1)):=by rw [CA,Zw hi]
 rw [e,Wi,Ta,D5]
theorem F9 {xs:List Z4} {i:Nat} {s:Z4} (h:xs[i]? = some s):((Zb (Zi xs)).drop (i*5)).take (Xg s).length=Xg s:=by
 have hi:=(XC.1 h).1
 have hl:(Zb (Zi (xs.take i))).length=i*5:=by rw [Tx,Wq,V8 om]
 rw [HY h]
 exact Z2g hl
structure Q6 (xs:LI) (v:Int) (k:Nat) (acc:LI) (d:Bool):Prop where
 len:acc.length<=k+(if d=true then 1 else 0)
 sub:∀z∈acc,z∈xs.take k∨z=v
 all:∀z∈xs.take k,z∈acc
 done:d=true->v∈acc
theorem Q6.zero (xs:LI) (v:Int):Q6 xs v 0 [] false:=⟨by simp,by simp,by simp,by simp⟩
theorem Q6.step {xs:LI} {v:Int} {k:Nat} {acc:LI} {d:Bool} {x:Int} (h:Q6 xs v k acc d) (hx:xs[k]? = some x) {acc2:LI} {d2:Bool}
  (hc:(acc2=acc++[x]/\d2=d)∨(acc2=(acc++[v])++[x]/\d2=true/\¬d=true)∨(acc2=acc++[x]/\d2=true/\x=v)):Q6 xs v (k+1) acc2 d2:=by
 obtain ⟨h1,h2,h3,h4⟩:=h
 have ht:∀z,z∈xs.take (k+1)↔z∈xs.take k∨z=x:=fun z=>by rw [Vq hx];simp
 rcases hc with ⟨rfl,rfl⟩|⟨rfl,rfl,hd⟩|⟨rfl,rfl,rfl⟩
 ·refine ⟨by simp;omega,fun z hz=>?_,fun z hz=>?_,fun q=>List.mem_append_left _ (h4 q)⟩
  ·rw [ht]
   rcases X2.1 hz with hz|hz
   ·rcases h2 z hz with q|q
    ·exact .inl (.inl q)
    ·exact .inr q
   ·exact .inl (.inr (Xx.1 hz))
  ·rcases (ht z).1 hz with q|q
   ·exact List.mem_append_left _ (h3 z q)
   ·subst q;simp
 ·rw [Zr hd] at h1
  refine ⟨by simp;omega,fun z hz=>?_,fun z hz=>?_,fun _=>by simp⟩
  ·rw [ht]
   simp only [X2,Xx] at hz
   rcases hz with (hz|hz)|hz
   ·rcases h2 z hz with q|q
    ·exact .inl (.inl q)
    ·exact .inr q
   ·exact .inr hz
   ·exact .inl (.inr hz)
  ·rcases (ht z).1 hz with q|q
   ·exact List.mem_append_left _ (List.mem_append_left _ (h3 z q))
   ·subst q;simp
 ·refine ⟨by simp;split at h1<;>omega,fun z hz=>?_,fun z hz=>?_,fun _=>by simp⟩
  ·rw [ht]
   rcases X2.1 hz with hz|hz
   ·rcases h2 z hz with q|q
    ·exact .inl (.inl q)
    ·exact .inr q
   ·exact .inl (.inr (Xx.1 hz))
  ·rcases (ht z).1 hz with q|q
   ·exact List.mem_append_left _ (h3 z q)
   ·subst q;simp
theorem Q6.fin {xs:LI} {v:Int} {k:Nat} {acc:LI} {d:Bool} (h:Q6 xs v k acc d) (hk:k=xs.length) :
  (d=true->acc.length<=xs.length+1/\∀z,z∈acc↔z∈xs∨z=v)/\(¬d=true->(acc++[v]).length<=xs.length+1/\∀z,z∈acc++[v]↔z∈xs∨z=v):=by
 obtain ⟨h1,h2,h3,h4⟩:=h
 subst hk
 rw [V7] at h2 h3
 refine ⟨fun hd=>?_,fun hd=>?_⟩
 ·rw [Zw hd] at h1
  exact ⟨h1,fun z=>⟨h2 z,fun q=>q.elim (h3 z) fun e=>e▸h4 hd⟩⟩
 ·rw [Zr hd] at h1
  refine ⟨by simp;omega,fun z=>?_⟩
  rw [X2,Xx]
  exact ⟨fun q=>q.elim (h2 z) .inr,fun q=>q.elim (fun e=>.inl (h3 z e)) .inr⟩
end Go.Abs
namespace Go.Abs
theorem Q6.go {xs:LI} {v:Int} {k:Nat} {acc:LI} {d:Bool} {x:Int} (h:Q6 xs v k acc d) (hx:xs[k]? = some x) {acc2:LI} {d2:Bool}
  (hc:(acc2=acc/\d2=d)∨(acc2=acc++[v]/\d2=true/\¬d=true)∨(acc2=acc/\d2=true/\x=v)):Q6 xs v (k+1) (acc2++[x]) d2:=by
 refine h.step hx ?_
 rcases hc with ⟨e1,e2⟩|⟨e1,e2,e3⟩|⟨e1,e2,e3⟩
 ·exact .inl ⟨by rw [e1],e2⟩
 ·exact .inr (.inl ⟨by rw [e1],e2,e3⟩)
 ·exact .inr (.inr ⟨by rw [e1],e2,e3⟩)
section
variable {ds:List Zc} {kept K2:LI} {op num x:Int} {args:LI} {j many:Nat} {kd:Z3}
theorem Z2m (h8:op=8) (hx:gI args 0=x) (hk:¬x∈kept) (hm:(VO ds num j).length=many) (hq:¬(WF kd.steps x<0∨W7 kd.steps many<0)) (hK:∀z,z∈K2↔z∈kept∨z=x):W2 ds K2 (V5 kd x many)=UG ds kept op num args j kd:=by
 subst hx hm
 have e:∀z,z∈K2↔z∈gI args 0::kept:=fun z=>by rw [hK z,Yq];exact Or.comm
 rw [UG,Zw ⟨h8,hk⟩,Dm,Zr hq,Ma,G8 kd e]
theorem Z2n (h8:op=8) (hx:gI args 0=x) (hk:¬x∈kept) (hm:(VO ds num j).length=many) (hq:WF kd.steps x<0∨W7 kd.steps many<0):W2 ds kept (V5 kd x many)=UG ds kept op num args j kd:=by
 subst hx hm
 rw [UG,Zw ⟨h8,hk⟩,Dm,Zw hq,Ma]
theorem Mb (h:¬(op=8/\¬gI args 0∈kept)):W2 ds kept kd=UG ds kept op num args j kd:=by rw [UG,Zr h]
end
end Go.Abs
namespace Go.Abs
theorem CJ:∀{xs:List Z3} {k:Nat} {b:Z3},xs[k]? = some b->YH (xs.take k)+b.sz<=YH xs
 | [],_,_,h=>by simp at h
 | x::r,0,b,h=>by simp at h;subst h;simp [YH]
 | x::r,k+1,b,h=>by
  have:=CJ (xs:=r) (k:=k) (by simpa using h)
  rw [Aw,YH,YH];omega
theorem Ey {xs:List Z3} {k:Nat} (h:xs.length<=k):YH (xs.take k)=YH xs:=by rw [WS h]
end Go.Abs
end
namespace Go.Abs
theorem Ck {xs:List Z4} {k:Nat} {s:Z4} (h:xs[k]? = some s):Y3 (xs.drop k)=s.sz+Y3 (xs.drop (k+1)):=by rw [Yn h,Y3]
theorem As (xs:List Z4) (k:Nat):Y3 (xs.drop k)<=Y3 xs:=by
 have h:=Yr Y3 (Un k xs)
 rw [Um] at h;omega
theorem CI {xs:List Z3} {k:Nat} {b:Z3} (h:xs[k]? = some b):YH (xs.take (k+1))=YH (xs.take k)+b.sz:=by rw [Vq h,Bz,YH,YH];rfl
structure CL (ds:List Zc) (nf m:Nat) (xs:List Z4) (d z:Nat):Prop where
 fs:U1 ds nf m xs
 dn:YI xs=d
 op:UE WL xs
 sz:Y3 xs<=z
section
variable {ds:List Zc} {nf m d z:Nat} {xs:List Z4}
theorem CL.nil:CL ds nf m [] 0 0:=⟨True.intro,rfl,True.intro,YQ _⟩
theorem CL.len (h:CL ds nf m xs d z):xs.length<=z:=WJ (QE xs) h.sz
theorem CL.le (h:CL ds nf m xs d z) {z2:Nat} (hz:z<=z2):CL ds nf m xs d z2:=⟨h.fs,h.dn,h.op,WJ h.sz hz⟩
theorem PF {op v:Int} (ho:op=14∨op=15) (hv:0<=v/\v<(m:Int)):fS ds nf m (Zl op v):=by
 rw [Zl,fS]
 exact ⟨.inr om,fun a ha=>by rw [Xx.1 ha];exact hv,fun _=>⟨rfl,rfl,rfl,v,rfl⟩,fun h=>by omega,fun h=>by omega,fun h=>by omega,fun h=>by omega,by omega,by omega,by simp,fun _=>rfl,True.intro⟩
theorem Hv {op:Int} (ho:op=14∨op=15):YP op=true:=by simp [YP];omega
theorem CL.cnt (h:CL ds nf m xs d z) {op v:Int} (ho:op=14∨op=15) (hv:0<=v/\v<((m+d:Nat):Int)):CL ds nf m (xs++[Zl op v]) d (z+2):=by
 have hc:YP (Zl op v).op=true:=Hv ho
 refine ⟨D0 h.fs (by rw [h.dn];exact PF ho hv),?_,DB h.op ?_,?_⟩
 ·rw [Qu,h.dn,YI,Zw hc];rfl
 ·rw [C7];exact ⟨by show op<=15;omega,True.intro⟩
 ·have:=h.sz
  have e:(Zl op v).sz=2:=rfl
  rw [Um,Y3,e,Y3];omega
theorem CL.cnts {op:Int} (ho:op=14∨op=15):∀{vs:LI} {xs:List Z4} {z:Nat},CL ds nf m xs d z->(∀v∈vs,0<=v/\v<((m+d:Nat):Int))->CL ds nf m (xs++vs.map (Zl op)) d (z+2*vs.length)
 | [],xs,z,h,_=>by simpa using h
 | v::r,xs,z,h,hv=>by
  have h1:=CL.cnts ho (vs:=r) (h.cnt ho (hv v (YV ..))) fun x hx=>hv x (Xo _ hx)
  rw [Ue,show xs++Zl op v::r.map (Zl op)=xs++[Zl op v]++r.map (Zl op) by simp]
  exact h1.le (by rw [YD];omega)
theorem CL.one (h:CL ds nf m xs d z) {s:Z4} (hs:fS ds nf (m+d) s) (hc:YP s.op=false) (ho:TD WL s):CL ds nf m (xs++[s]) (d+1) (z+s.sz):=by
 refine ⟨D0 h.fs (by rw [h.dn];exact hs),by rw [BC hc,h.dn],DB h.op ho,?_⟩
 have:=h.sz
 rw [Um,Y3,Y3];omega
theorem CL.app (h:CL ds nf m xs d z) {ys:List Z4} {d2 z2:Nat} (h2:CL ds nf (m+d) ys d2 z2):CL ds nf m (xs++ys) (d+d2) (z+z2):=by
 refine ⟨AT.2 ⟨h.fs,by rw [h.dn];exact h2.fs⟩,by rw [Qu,h.dn,h2.dn],DA.2 ⟨h.op,h2.op⟩,?_⟩
 have:=h.sz
 have:=h2.sz
 rw [Um];omega
end
structure KB (ds:List Zc) (nf m:Nat) (b:Z3) (z:Nat):Prop where
 fb:fB ds nf m b
 op:WD WL b
 sz:b.sz<=z
section
variable {ds:List Zc} {nf m d z:Nat} {xs:List Z4}
theorem CL.block (h:CL ds nf m xs d z) {r:Int} (hr:0<=r/\r<((m+d:Nat):Int)):KB ds nf m ⟨xs,r⟩ (1+z):=by
 refine ⟨by rw [fB,h.dn];exact ⟨h.fs,hr⟩,by rw [WD];exact h.op,?_⟩
 have:=h.sz
 rw [Z3.sz];omega
theorem KB.le {b:Z3} (h:KB ds nf m b z) {z2:Nat} (hz:z<=z2):KB ds nf m b z2:=⟨h.fb,h.op,WJ h.sz hz⟩
theorem KB.cl {b:Z3} (h:KB ds nf m b z):CL ds nf m b.steps (YI b.steps) (z-1)/\0<=b.result/\b.result<((m+YI b.steps:Nat):Int):=by
 obtain ⟨h1,h2⟩:=(BG b).1 h.fb
 refine ⟨⟨h1,rfl,(Dz b).1 h.op,?_⟩,h2⟩
 have:=h.sz
 have:=b.sz_eq
 omega
theorem KB.put {b:Z3} (h:KB ds nf m b z) {as1 bs:LI} (ha:∀v∈as1,0<=v/\v<(m:Int)) (hb:∀v∈bs,0<=v/\v<(m:Int)):KB ds nf m ⟨as1.map (Zl 14)++bs.map (Zl 15)++b.steps,b.result⟩ (z+2*as1.length+2*bs.length):=by
 obtain ⟨h1,h2⟩:=h.cl
 have q1:CL ds nf m ([]++as1.map (Zl 14)) 0 (0+2*as1.length):=CL.nil.cnts (.inl rfl) ha
 have q2:=(q1.cnts (op:=15) (.inr rfl) hb).app h1
 have:=h.sz
 have:=b.sz_eq
 rw [Ki,Wt] at q2
 exact (q2.block h2).le om
end
structure KK (ds:List Zc) (nf:Nat) (sc:Nat->Nat) (ks:List Z3) (z:Nat):Prop where
 fb:Up ds nf sc 0 ks
 op:TC WL ks
 sz:YH ks<=z
section
variable {ds:List Zc} {nf m z:Nat} {sc:Nat->Nat}
theorem KK.nil:KK ds nf sc [] 0:=⟨True.intro,True.intro,YQ _⟩
theorem KK.snoc {ks:List Z3} {b:Z3} {j z2:Nat} (h:KK ds nf sc ks z) (hj:ks.length=j) (hb:KB ds nf (sc j) b z2):KK ds nf sc (ks++[b]) (z+z2):=by
 refine ⟨HP h.fb (by rw [hj];exact hb.fb),Lp h.op hb.op,?_⟩
 have:=h.sz
 have:=hb.sz
 rw [Bz];simp only [YH];omega
theorem KK.le {ks:List Z3} (h:KK ds nf sc ks z) {z2:Nat} (hz:z<=z2):KK ds nf sc ks z2:=⟨h.fb,h.op,WJ h.sz hz⟩
theorem HQ {s:Z4} {ks:List Z3} {into:Int} (h:FS ds nf m s) (h11:s.op<=11) (hl:ks.length=s.kids.length) (hi:0<=into/\into<=m) (hk:KK ds nf (VH ds s.op s.num m) ks z):fS ds nf m ⟨s.op,s.num,into,s.args,ks⟩/\TD WL ⟨s.op,s.num,into,s.args,ks⟩/\(Z4.mk s.op s.num into s.args ks).sz<=5+z:=by
 refine ⟨?_,?_,?_⟩
 ·rw [fS]
  refine ⟨h.op,h.args,fun q=>by omega,fun q=>by rw [hl];exact h.k7 q,fun q=>by rw [hl];exact h.k8 q,h.one,h.call,h.num,hi,h.alen,fun q=>?_,hk.fb⟩
  have:=h.kn q
  rw [this] at hl
  exact List.eq_nil_of_length_eq_zero hl
 ·rw [TD];exact ⟨by show s.op<=15;omega,hk.op⟩
 ·have:=h.alen
  have:=hk.sz
  rw [Z4.sz];omega
end
structure KT (ds:List Zc) (nf m:Nat) (st:Z4) (z:Nat):Prop where
 fs:fS ds nf m st
 cb:YP st.op=false
 op:TD WL st
 sz:st.sz<=z
theorem KT.of {ds:List Zc} {nf m z:Nat} {s:Z4} {ks:List Z3} {into:Int} (h:FS ds nf m s) (h11:s.op<=11) (hl:ks.length=s.kids.length) (hi:0<=into/\into<=m) (hk:KK ds nf (VH ds s.op s.num m) ks z):KT ds nf m ⟨s.op,s.num,into,s.args,ks⟩ (5+z):=by
 obtain ⟨h1,h2,h3⟩:=HQ h h11 hl hi hk
 exact ⟨h1,by show YP s.op=false;simp [YP];omega,h2,h3⟩
theorem CL.kt {ds:List Zc} {nf m d z z2:Nat} {xs:List Z4} {st:Z4} (h:CL ds nf m xs d z) (hs:KT ds nf (m+d) st z2):CL ds nf m (xs++[st]) (d+1) (z+z2):=(h.one hs.fs hs.cb hs.op).le (by have:=hs.sz;omega)
theorem FS.few {ds:List Zc} {nf m:Nat} {s:Z4} (h:FS ds nf m s) (hd:Wg ds):s.kids.length<=3:=by
 by_cases h7:s.op=7
 ·have:=h.k7 h7;omega
 ·by_cases h8:s.op=8
  ·have:=h.k8 h8
   have:=Lk hd s.num
   omega
  ·rw [h.kn ⟨h7,h8⟩];simp
theorem RF.lend {ds:List Zc} {nf q:Nat} {p:Int->Prop} {r:Y8} {l:LI} (h:RF ds nf q p r) (h1:l.length<=3) (h2:∀v∈l,0<=v/\v<(r.params.length:Int)):RF ds nf q p ⟨r.params,l,r.result,r.body⟩:=⟨h.sig,⟨h1,h2⟩,h.body,h.op⟩
theorem RF.with {ds:List Zc} {nf q q2:Nat} {p p2:Int->Prop} {r:Y8} {b:Z3} (h:RF ds nf q p r) (h1:fB ds nf r.params.length b) (h2:b.sz<=q2) (h3:WD p2 b):RF ds nf q2 p2 ⟨r.params,r.lent,r.result,b⟩:=⟨h.sig,h.lent,⟨h1,h2⟩,h3⟩
theorem Z3.eta (b:Z3):Z3.mk b.steps b.result=b:=by cases b;rfl
theorem LC.at {n:Zx} {k:Nat} {xs:List LI} {i:Nat} {l:LI} {r:Y8} (h:LC n k xs) (hl:xs[i]? = some l) (hr:n.routines[i]? = some r):l.length<=3/\∀v∈l,0<=v/\v<(r.params.length:Int):=⟨(h.ok i l hl).1,(h.ok i l hl).2 r hr⟩
theorem EK:∀{xs:List Z4},(∀s∈xs,TD Wc s)->∀k,k<=xs.length->YI (xs.take k)=k
 | _,_,0,_=>rfl
 | [],_,k+1,h=>absurd h (by simp)
 | x::r,h,k+1,hk=>by
  have h1:=((C7 x).1 (h x (YV ..))).1
  have hc:YP x.op=false:=by have:x.op<=11:=h1;simp [YP];omega
  rw [Aw,YI,Zr (by rw [hc];simp),EK (fun s hs=>h s (Xo _ hs)) k (by simpa using hk)]
  omega
theorem KB.put1 {ds:List Zc} {nf m z:Nat} {b:Z3} (h:KB ds nf m b z) {op:Int} (ho:op=14∨op=15) {as1:LI} (ha:∀v∈as1,0<=v/\v<(m:Int)):KB ds nf m ⟨as1.map (Zl op)++b.steps,b.result⟩ (z+2*as1.length):=by
 obtain ⟨h1,h2⟩:=h.cl
 have q1:CL ds nf m ([]++as1.map (Zl op)) 0 (0+2*as1.length):=CL.nil.cnts ho ha
 have q2:=q1.app h1
 have:=h.sz
 have:=b.sz_eq
 rw [Ki,Wt] at q2
 exact (q2.block h2).le om
theorem FO.fin {n:Zx} {rs:List Y8} {q q2:Nat} {p:Int->Prop} (h:FN n q2) (e:rs.length=n.routines.length) (hr:∀r∈rs,RF n.decls n.routines.length q p r):FO ⟨n.decls,rs⟩ q p/\rs.length=n.routines.length:=
 ⟨FO.all h.decls (by show 1<=rs.length/\rs.length<=4;rw [e];exact h.len) (by show ∀r∈rs,RF n.decls rs.length q p r;rw [e];exact hr),e⟩
theorem KT.le {ds:List Zc} {nf m z z2:Nat} {st:Z4} (h:KT ds nf m st z) (hz:z<=z2):KT ds nf m st z2:=⟨h.fs,h.cb,h.op,WJ h.sz hz⟩
theorem KB.len {ds:List Zc} {nf m z:Nat} {b:Z3} (h:KB ds nf m b z):b.steps.length<=z:=by
 have:=h.sz
 have:=b.sz_eq
 have:=QE b.steps
 omega
mutual
def vS:Z4->LI
 | .mk op _ _ args kids=>if YP op=true then [] else args++WI kids
def WI:List Z3->LI
 | []=>[]
 | b::r=>vB b++WI r
def Xt:List Z4->LI
 | []=>[]
 | s::r=>vS s++Xt r
def vB:Z3->LI
 | .mk steps result=>Xt steps++[result]
end
theorem Bm (s:Z4):vS s=if YP s.op=true then [] else s.args++WI s.kids:=by cases s;rw [vS];rfl
theorem JH (b:Z3):vB b=Xt b.steps++[b.result]:=by cases b;rw [vB];rfl
mutual
theorem E3:∀(s:Z4),(vS s).length<=s.sz
 | .mk op num into args kids=>by
  have h1:=Np kids
  rw [vS,Z4.sz];split
  ·simp
  ·rw [Yk];omega
theorem Np:∀(bs:List Z3),(WI bs).length<=YH bs
 | []=>YQ _
 | b::r=>by
  have h1:=Np r
  have h2:=Cp b
  rw [WI,YH,Yk];omega
theorem E4:∀(bs:List Z4),(Xt bs).length<=Y3 bs
 | []=>YQ _
 | b::r=>by
  have h1:=E4 r
  have h2:=E3 b
  rw [Xt,Y3,Yk];omega
theorem Cp:∀(b:Z3),(vB b).length<=b.sz
 | .mk steps result=>by
  have h1:=E4 steps
  rw [vB,Z3.sz,Yk,Cx];omega
end
theorem Z5o {ss:List Z4} {xs acc r:LI} {k:Nat} {s:Z4} (h:ss[k]? = some s) (ha:acc++Xt (ss.drop k)=r):(acc++vS s)++Xt (ss.drop (k+1))=r:=by
 rw [Yn h,Xt] at ha;rw [<-ha];simp
theorem Z5l {ss:List Z3} {acc r:LI} {k:Nat} {s:Z3} (h:ss[k]? = some s) (ha:acc++WI (ss.drop k)=r):(acc++vB s)++WI (ss.drop (k+1))=r:=by
 rw [Yn h,WI] at ha;rw [<-ha];simp
theorem Z5n {ss:List Z4} {acc r:LI} {k:Nat} (h:ss.length<=k) (ha:acc++Xt (ss.drop k)=r):acc=r:=by
 rw [Xz h,Xt,T3] at ha;exact ha
theorem Z5k {ss:List Z3} {acc r:LI} {k:Nat} (h:ss.length<=k) (ha:acc++WI (ss.drop k)=r):acc=r:=by
 rw [Xz h,WI,T3] at ha;exact ha
def Ux:LI->Int->LI
 | [],_=>[]
 | x::r,n=>if 0<=x/\x<n then x::Ux r n else Ux r n
theorem Oi {xs acc r:LI} {n x:Int} {k:Nat} (hx:xs[k]? = some x) (h:acc++Ux (xs.drop k) n=r):(if 0<=x/\x<n then acc++[x] else acc)++Ux (xs.drop (k+1)) n=r:=by
 rw [Yn hx,Ux] at h
 by_cases q:0<=x/\x<n
 ·rw [Zw q] at h ⊢;rw [<-h];simp
 ·rw [Zr q] at h ⊢;exact h
theorem Oh {xs acc r:LI} {n:Int} {k:Nat} (hk:xs.length<=k) (h:acc++Ux (xs.drop k) n=r):acc=r:=by
 rw [Xz hk,Ux,T3] at h;exact h
theorem Et:∀(xs:LI) (n:Int),Ux xs n=xs.filter (fun x=>decide (0<=x/\x<n))
 | [],_=>rfl
 | x::r,n=>by
  rw [Ux,List.filter_cons,Et r n]
  by_cases q:0<=x/\x<n
  ·rw [Zw q,Zw (by simpa using q)]
  ·rw [Zr q,Zr (by simpa using q)]
theorem Z0w {xs:LI} {n z:Int}:z∈Ux xs n↔z∈xs/\0<=z/\z<n:=by rw [Et];simp
theorem Oj {xs:LI} {n:Int} (h:xs.Pairwise (·<·)):(Ux xs n).Pairwise (·<·):=by rw [Et];exact h.filter _
theorem H0:∀{xs ys:LI},xs.Pairwise (·<·)->ys.Pairwise (·<·)->(∀z,z∈xs↔z∈ys)->xs=ys
 | [],[],_,_,_=>rfl
 | [],y::r,_,_,h=>by have:=(h y).2 (YV ..);cases this
 | x::r,[],_,_,h=>by have:=(h x).1 (YV ..);cases this
 | x::r,y::s,hx,hy,h=>by
  have h1:=Wa.1 hx
  have h2:=Wa.1 hy
  have e:x=y:=by
   rcases Yq.1 ((h x).1 (YV ..)) with e|e
   ·exact e
   ·rcases Yq.1 ((h y).2 (YV ..)) with e2|e2
    ·exact e2.symm
    ·have:=h1.1 y e2;have:=h2.1 x e;omega
  subst e
  rw [H0 h1.2 h2.2 fun z=>⟨fun hz=>by
    rcases Yq.1 ((h z).1 (Xo _ hz)) with e|e
    ·subst e;have:=h1.1 _ hz;omega
    ·exact e,fun hz=>by
    rcases Yq.1 ((h z).2 (Xo _ hz)) with e|e
    ·subst e;have:=h2.1 _ hz;omega
    ·exact e⟩]
theorem FQ:∀{xs:LI} {y z:Int},z∈WB xs y↔z=y∨z∈xs
 | [],y,z=>by rw [WB];simp
 | x::r,y,z=>by
  rw [WB]
  split
  ·simp
  ·split
   ·rename_i h;subst h;simp
   ·rw [Yq,FQ,Yq]
    constructor
    ·rintro (h|h|h)
     ·exact .inr (.inl h)
     ·exact .inl h
     ·exact .inr (.inr h)
    ·rintro (h|h|h)
     ·exact .inr (.inl h)
     ·exact .inl h
     ·exact .inr (.inr h)
theorem IE:∀{xs:LI} {y:Int},xs.Pairwise (·<·)->(WB xs y).Pairwise (·<·)
 | [],y,_=>by rw [WB];simp
 | x::r,y,h=>by
  have h1:=Wa.1 h
  rw [WB]
  split
  ·rename_i q
   refine Wa.2 ⟨fun z hz=>?_,h⟩
   rcases Yq.1 hz with rfl|hz
   ·exact q
   ·have:=h1.1 z hz;omega
  ·split
   ·exact h
   ·refine Wa.2 ⟨fun z hz=>?_,IE h1.2⟩
    rcases FQ.1 hz with rfl|hz
    ·omega
    ·exact h1.1 z hz
theorem FT {n:Int} {xs:LI} {a z:Int}:z∈WX n xs a↔z∈xs∨(z=a/\0<=z/\z<n):=by
 rw [WX]
 split
 ·rw [FQ]
  constructor
  ·rintro (h|h)
   ·exact .inr ⟨h,by omega⟩
   ·exact .inl h
  ·rintro (h|h)
   ·exact .inr h
   ·exact .inl h.1
 ·constructor
  ·exact .inl
  ·rintro (h|h)
   ·exact h
   ·omega
theorem GF {n:Int} {xs:LI} {a:Int} (h:xs.Pairwise (·<·)):(WX n xs a).Pairwise (·<·):=by
 rw [WX];split
 ·exact IE h
 ·exact h
theorem Lc {n z:Int}:∀{as1 xs:LI},z∈VK n as1 xs↔z∈xs∨(z∈as1/\0<=z/\z<n)
 | [],xs=>by rw [VK];simp
 | a::r,xs=>by
  rw [VK,Lc,FT,Yq]
  constructor
  ·rintro ((h|h)|h)
   ·exact .inl h
   ·exact .inr ⟨.inl h.1,h.2⟩
   ·exact .inr ⟨.inr h.1,h.2⟩
  ·rintro (h|⟨h|h,q⟩)
   ·exact .inl (.inl h)
   ·exact .inl (.inr ⟨h,q⟩)
   ·exact .inr ⟨h,q⟩
theorem Nh {n:Int}:∀{as1 xs:LI},xs.Pairwise (·<·)->(VK n as1 xs).Pairwise (·<·)
 | [],xs,h=>by rw [VK];exact h
 | a::r,xs,h=>by rw [VK];exact Nh (GF h)
mutual
theorem Z5g (n:Int):∀(s:Z4) (xs:LI),((xs.Pairwise (·<·))->(Tn n s xs).Pairwise (·<·))/\∀z,z∈Tn n s xs↔z∈xs∨(z∈vS s/\0<=z/\z<n)
 | .mk op num into args kids,xs=>by
  have ih:=Nk n kids (VK n args xs)
  rw [Tn,vS]
  split
  ·exact ⟨id,fun z=>by simp⟩
  ·refine ⟨fun h=>ih.1 (Nh h),fun z=>?_⟩
   rw [ih.2,Lc,X2]
   constructor
   ·rintro ((h|h)|h)
    ·exact .inl h
    ·exact .inr ⟨.inl h.1,h.2⟩
    ·exact .inr ⟨.inr h.1,h.2⟩
   ·rintro (h|⟨h|h,q⟩)
    ·exact .inl (.inl h)
    ·exact .inl (.inr ⟨h,q⟩)
    ·exact .inr ⟨h,q⟩
theorem Nk (n:Int):∀(bs:List Z3) (xs:LI),((xs.Pairwise (·<·))->(T0 n bs xs).Pairwise (·<·))/\∀z,z∈T0 n bs xs↔z∈xs∨(z∈WI bs/\0<=z/\z<n)
 | [],xs=>by rw [T0,WI];exact ⟨id,fun z=>by simp⟩
 | b::r,xs=>by
  have h1:=Z5d n b xs
  have h2:=Nk n r (Vg n b xs)
  rw [T0,WI]
  refine ⟨fun h=>h2.1 (h1.1 h),fun z=>?_⟩
  rw [h2.2,h1.2,X2]
  constructor
  ·rintro ((h|h)|h)
   ·exact .inl h
   ·exact .inr ⟨.inl h.1,h.2⟩
   ·exact .inr ⟨.inr h.1,h.2⟩
  ·rintro (h|⟨h|h,q⟩)
   ·exact .inl (.inl h)
   ·exact .inl (.inr ⟨h,q⟩)
   ·exact .inr ⟨h,q⟩
theorem E1 (n:Int):∀(bs:List Z4) (xs:LI),((xs.Pairwise (·<·))->(WY n bs xs).Pairwise (·<·))/\∀z,z∈WY n bs xs↔z∈xs∨(z∈Xt bs/\0<=z/\z<n)
 | [],xs=>by rw [WY,Xt];exact ⟨id,fun z=>by simp⟩
 | b::r,xs=>by
  have h1:=Z5g n b xs
  have h2:=E1 n r (Tn n b xs)
  rw [WY,Xt]
  refine ⟨fun h=>h2.1 (h1.1 h),fun z=>?_⟩
  rw [h2.2,h1.2,X2]
  constructor
  ·rintro ((h|h)|h)
   ·exact .inl h
   ·exact .inr ⟨.inl h.1,h.2⟩
   ·exact .inr ⟨.inr h.1,h.2⟩
  ·rintro (h|⟨h|h,q⟩)
   ·exact .inl (.inl h)
   ·exact .inl (.inr ⟨h,q⟩)
   ·exact .inr ⟨h,q⟩
theorem Z5d (n:Int):∀(b:Z3) (xs:LI),((xs.Pairwise (·<·))->(Vg n b xs).Pairwise (·<·))/\∀z,z∈Vg n b xs↔z∈xs∨(z∈vB b/\0<=z/\z<n)
 | .mk steps result,xs=>by
  have h1:=E1 n steps xs
  rw [Vg,vB]
  refine ⟨fun h=>GF (h1.1 h),fun z=>?_⟩
  rw [FT,h1.2,X2,Xx]
  constructor
  ·rintro ((h|h)|h)
   ·exact .inl h
   ·exact .inr ⟨.inl h.1,h.2⟩
   ·exact .inr ⟨.inr h.1,h.2⟩
  ·rintro (h|⟨h|h,q⟩)
   ·exact .inl (.inl h)
   ·exact .inl (.inr ⟨h,q⟩)
   ·exact .inr ⟨h,q⟩
end
theorem Hn (zs:LI) (hs:zs.Pairwise (·<=·)):∀m,m<=zs.length->(Lib.compactUpTo zs.toArray m).Pairwise (·<·)/\∀z,z∈Lib.compactUpTo zs.toArray m↔∃j,j<m/\zs[j]? = some z
 | 0,_=>by simp [Lib.compactUpTo]
 | m+1,hm=>by
  obtain ⟨h1,h2⟩:=Hn zs hs m om
  have hg:∀j (h:j<zs.length),zs.toArray[j]! = zs[j]:=fun j h=>by simp [h]
  have hle:∀i j (hj:j<zs.length),(hij:i<=j)->zs[i]'om<=zs[j]:=fun i j hj hij=>by
   rcases JN i j with h|h
   ·exact (List.pairwise_iff_getElem.1 hs) i j om hj h
   ·have:i=j:=by omega
    subst this;exact Int.le_refl _
  rw [Lib.compactUpTo_succ]
  cases hk:Lib.keeps zs.toArray m with
  | true=>
   rw [Zw rfl,hg m om]
   have hlt:∀z∈Lib.compactUpTo zs.toArray m,z<zs[m]:=by
    intro z hz
    obtain ⟨j,hj,hjz⟩:=(h2 z).1 hz
    obtain ⟨hjl,rfl⟩:=XC.1 hjz
    have a1:=hle j (m-1) om om
    have a2:=hle (m-1) m om om
    have a3:zs[m]≠zs[m-1]'om:=fun e=>by
     have:=Lib.keeps_neg (d:=zs.toArray) (m:=m) om (by rw [hg m om,hg (m-1) om];exact e)
     rw [hk] at this;cases this
    omega
   refine ⟨Kj.2 ⟨h1,JK _ _,fun a ha b hb=>by rw [Xx.1 hb];exact hlt a ha⟩,fun z=>?_⟩
   rw [X2,Xx,h2]
   constructor
   ·rintro (⟨j,hj,e⟩|rfl)
    ·exact ⟨j,by omega,e⟩
    ·exact ⟨m,by omega,Q4 om⟩
   ·rintro ⟨j,hj,e⟩
    rcases JN j m with h|h
    ·exact .inl ⟨j,h,e⟩
    ·have:j=m:=by omega
     subst this
     rw [Q4 om] at e
     exact .inr (Ax e).symm
  | false=>
   rw [Zr (by simp),T3]
   refine ⟨h1,fun z=>?_⟩
   rw [h2]
   constructor
   ·rintro ⟨j,hj,e⟩;exact ⟨j,by omega,e⟩
   ·rintro ⟨j,hj,e⟩
    rcases JN j m with h|h
    ·exact ⟨j,h,e⟩
    ·have:j=m:=by omega
     subst this
     have hj0:0<j:=by
      rcases Nat.eq_zero_or_pos j with h0|h0
      ·subst h0;have:=Lib.keeps_lt_one zs.toArray 0 om;rw [hk] at this;cases this
      ·exact h0
     have he:zs.toArray[j]! = zs.toArray[j-1]!:=by
      rcases Decidable.em (zs.toArray[j]! = zs.toArray[j-1]!) with q|q
      ·exact q
      ·have:=Lib.keeps_pos q;rw [hk] at this;cases this
     rw [hg j om,hg (j-1) om] at he
     rw [Q4 om,he] at e
     exact ⟨j-1,by omega,by rw [Q4 om];exact e⟩
theorem OI (xs:LI):(Lib.compact (xs.mergeSort fun x y=>decide (x<=y))).Pairwise (·<·)/\∀z,z∈Lib.compact (xs.mergeSort fun x y=>decide (x<=y))↔z∈xs:=by
 have hs:(xs.mergeSort fun x y=>decide (x<=y)).Pairwise (·<=·):=by
  have:=List.pairwise_mergeSort (le:=fun x y:Int=>decide (x<=y)) (fun a b c h1 h2=>by simp only [decide_eq_true_eq] at *;omega) (fun a b=>by simp only [Bool.or_eq_true,decide_eq_true_eq];omega) xs
  exact this.imp fun h=>by simpa using h
 obtain ⟨h1,h2⟩:=Hn _ hs _ (YQ _)
 refine ⟨h1,fun z=>?_⟩
 unfold Lib.compact
 rw [h2]
 constructor
 ·rintro ⟨j,_,e⟩
  exact List.mem_mergeSort.1 (ZW e)
 ·intro hz
  obtain ⟨j,hj,e⟩:=List.getElem_of_mem (List.mem_mergeSort (le:=fun x y:Int=>decide (x<=y)).2 hz)
  exact ⟨j,hj,by rw [Q4 hj,e]⟩
def uF (n:Int) (b:Z3) (k:Nat):LI:=WX n (WY n (b.steps.drop k) []) b.result
theorem Z58 (n:Int) (b:Z3) (k:Nat):(uF n b k).Pairwise (·<·):=GF ((E1 n _ _).1 .nil)
theorem Lb {n:Int} {b:Z3} {k:Nat} {z:Int}:z∈uF n b k↔z∈Xt (b.steps.drop k)++[b.result]/\0<=z/\z<n:=by
 rw [uF,FT,(E1 n _ _).2,X2,Xx]
 constructor
 ·rintro ((h|h)|h)
  ·cases h
  ·exact ⟨.inl h.1,h.2⟩
  ·exact ⟨.inr h.1,h.2⟩
 ·rintro ⟨h|h,q⟩
  ·exact .inl (.inr ⟨h,q⟩)
  ·exact .inr ⟨h,q⟩
theorem Z3a (n:Int) (b:Z3) (k:Nat):Ux (Lib.compact ((Xt (b.steps.drop k)++[b.result]).mergeSort fun x y=>decide (x<=y))) n=uF n b k:=by
 obtain ⟨h1,h2⟩:=OI (Xt (b.steps.drop k)++[b.result])
 refine H0 (Oj h1) (Z58 n b k) fun z=>?_
 rw [Z0w,h2,Lb]
theorem OJ (xs:LI):(Lib.compact xs).length<=xs.length:=by
 have:=List.length_filter_le (Lib.keeps xs.toArray) (List.range xs.length)
 simpa [Lib.compact,Lib.compactUpTo] using this
theorem Na (n:Int) (b:Z3) (k:Nat):(uF n b k).length<=b.sz:=by
 have h1:=Cm (n:=n) (WY n (b.steps.drop k) []) b.result
 have h2:=E0 (n:=n) (b.steps.drop k) []
 have h3:=As b.steps k
 have h4:=b.sz_eq
 rw [uF];simp at h2;omega
structure NC (n:Zx):Prop where
 result:∀r∈n.routines,r.result<=(n.decls.length:Int)
 decl:∀d∈n.decls,d.cons.length=0->d.to_<=(n.decls.length:Int)
 fields:∀c,∀f∈Y5 n.decls c,f<=(n.decls.length:Int)
section
variable {n:Zx} (hu:NC n)
include hu
end
theorem L6:∀{xs:List Z4},xs.length<=Y3 xs
 | []=>Uv _
 | x::r=>by have:=L6 (xs:=r);have:=x.sz_pos;rw [Y3,YD];omega
theorem FJ (b:Z3):b.steps.length<=b.sz:=by have:=b.sz_eq;have:=L6 (xs:=b.steps);omega


def WO:List Z4->Int->Nat
 | [],_=>0
 | s::r,v=>(if gI s.args 0=v then 1 else 0)+WO r v
def WH (rn:List Z4):LI->Nat
 | []=>0
 | v::r=>WO rn v+WH rn r
theorem EB:∀(xs ys:List Z4) (v:Int),WO (xs++ys) v=WO xs v+WO ys v
 | [],ys,v=>by simp [WO]
 | x::r,ys,v=>by rw [TJ,WO,WO,EB r];omega
theorem OF {xs:List Z4} {k:Nat} {s:Z4} (h:xs[k]? = some s) (v:Int):WO (xs.take (k+1)) v=WO (xs.take k) v+(if gI s.args 0=v then 1 else 0):=by
 rw [Vq h,EB,WO,WO];omega
theorem Hl:∀(xs:List Z4) (v:Int),WO xs v<=xs.length
 | [],v=>YQ _
 | x::r,v=>by have:=Hl r v;rw [WO,YD];split<;>omega
theorem OG (xs:List Z4) (k:Nat) (v:Int):WO (xs.take k) v<=WO xs v:=by
 have h:=Yr (WO · v) (Un k xs)
 simp only [EB] at h;omega
theorem Gt (rn:List Z4):∀xs ys:LI,WH rn (xs++ys)=WH rn xs+WH rn ys
 | [],ys=>by simp [WH]
 | x::r,ys=>by rw [TJ,WH,WH,Gt rn r];omega
theorem Z50 {rn:List Z4} {xs:LI} {k:Nat} {v:Int} (h:xs[k]? = some v):WH rn (xs.take (k+1))=WH rn (xs.take k)+WO rn v:=by
 rw [Vq h,Gt,WH,WH];rfl
theorem N0 (s:Z4) (r:List Z4):∀vs:LI,JP vs->WH (s::r) vs<=1+WH r vs/\(¬gI s.args 0∈vs->WH (s::r) vs=WH r vs)
 | [],_=>by simp [WH]
 | v::vs,h=>by
  obtain ⟨h1,h2⟩:=Wa.1 h
  obtain ⟨q1,q2⟩:=N0 s r vs h2
  rw [WH,WH,WO]
  by_cases e:gI s.args 0=v
  ·have hn:¬gI s.args 0∈vs:=fun z=>by have:=h1 _ z;omega
   rw [Zw e,q2 hn]
   exact ⟨by omega,fun z=>absurd (Yq.2 (.inl e)) z⟩
  ·rw [Zr e]
   exact ⟨by omega,fun z=>by rw [q2 fun y=>z (Xo _ y)];omega⟩
theorem N1:∀(rn:List Z4) {vs:LI},JP vs->WH rn vs<=rn.length
 | [],vs,_=>by
  have:∀xs:LI,WH [] xs=0:=fun xs=>by
   induction xs with
   | nil=>rfl
   | cons x r ih=>rw [WH,ih];rfl
  rw [this];exact Uv _
 | s::r,vs,h=>by
  have h1:=(N0 s r vs h).1
  have h2:=N1 r h
  rw [YD];omega
theorem Gu (rn:List Z4) (xs:LI) (k:Nat):WH rn (xs.take k)<=WH rn xs:=by
 have h:=Yr (WH rn) (Un k xs)
 rw [Gt] at h;omega
def GR (m:Nat) (rn:List Z4):Prop:=∀s∈rn,∃a,s.args=[a]/\0<=a/\a<(m:Int)
theorem HB {xs:List Z4} {k:Nat} {s:Z4} (h:xs[k]? = some s):YI (xs.take (k+1))=YI (xs.take k)+(if YP s.op=true then 0 else 1):=by rw [Vq h,Qu,YI,YI];rfl
theorem KT.eq {ds:List Zc} {nf m z:Nat} {s:Z4} {ks:List Z3} (h:FS ds nf m s) (h11:s.op<=11) (hl:ks.length=s.kids.length) (hk:KK ds nf (VH ds s.op s.num m) ks z):KT ds nf m ⟨s.op,s.num,s.into,s.args,ks⟩ (1+s.args.length+z):=by
 obtain ⟨h1,h2,h3⟩:=HQ h h11 hl h.into hk
 refine ⟨h1,by show YP s.op=false;simp [YP];omega,h2,?_⟩
 have:=hk.sz
 rw [Z4.sz];omega
theorem FS.pair {ds:List Zc} {nf m:Nat} {s:Z4} (h:FS ds nf m s) (hp:s.op=14∨s.op=15):(∃a,s.args=[a]/\0<=a/\a<(m:Int))/\s.sz=2/\YP s.op=true:=by
 obtain ⟨h1,h2,h3,a,h4⟩:=h.cnt om
 have h5:=h.args a (by rw [h4];exact Xx.2 rfl)
 refine ⟨⟨a,h4,h5⟩,?_,Hv hp⟩
 rw [s.sz_eq,h3,h4];rfl
theorem FS.not_pair {ds:List Zc} {nf m:Nat} {s:Z4} (h:FS ds nf m s) (hp:¬(s.op=14∨s.op=15)) (h15:WL s.op):s.op<=11/\YP s.op=false:=by
 have h1:s.op<=15:=h15
 have h2:=h.op
 exact ⟨by omega,by simp [YP];omega⟩
theorem CL.run {ds:List Zc} {nf m d z:Nat} {xs:List Z4} {D R:LI} {rn:List Z4} (h:CL ds nf m xs d z) (hr:GR (m+d) rn) (hD:∀v∈D,∃s∈rn,s.args=[v]) (hR:∀v∈R,∃s∈rn,s.args=[v]):CL ds nf m (xs++(D.map (Zl 14)++R.map (Zl 15))) d (z+2*(D.length+R.length)):=by
 have key:∀(A:LI),(∀v∈A,∃s∈rn,s.args=[v])->∀v∈A,0<=v/\v<((m+d:Nat):Int):=fun A hA v hv=>by
  obtain ⟨s,hs,e⟩:=hA v hv
  obtain ⟨a,e2,e3⟩:=hr s hs
  rw [e] at e2
  cases e2
  exact e3
 have h2:=(h.cnts (op:=14) (.inl rfl) (key D hD)).cnts (op:=15) (.inr rfl) (key R hR)
 rw [<-VT]
 exact h2.le om
def W1 (xs:List Z4) (i:Nat) (s:Z4):List Z4:=xs.take i++[s]++xs.drop i
theorem Cd {xs:List Z4} (i:Nat) (s:Z4):Y3 (W1 xs i s)=Y3 xs+s.sz:=by
 have h:=Yr Y3 (Un i xs)
 rw [Um] at h
 rw [W1,Um,Um,Y3,Y3];omega
theorem LL {xs:List Z4} {i:Nat} {s:Z4} (h:i<=xs.length):(W1 xs i s).length=xs.length+1:=by
 simp [W1,V8 h];omega
def AZ (b:Z3) (i j:Nat) (v:Int):Z3:=⟨W1 (W1 b.steps j (Zl 15 v)) i (Zl 14 v),b.result⟩
def withR (n:Zx) (f:Nat) (rt:Y8) (b:Z3):Zx:=⟨n.decls,n.routines.set f ⟨rt.params,rt.lent,rt.result,b⟩⟩
def Eh (n n2:Zx):Prop:=n2=n∨∃f rt i j v,n.routines[f]? = some rt/\i<=j/\j<=rt.body.steps.length/\0<=v/\v<((rt.params.length+YI (rt.body.steps.take i):Nat):Int)/\n2=withR n f rt (AZ rt.body i j v)
theorem CL.put {ds:List Zc} {nf m:Nat} {xs:List Z4} {d z:Nat} (h:CL ds nf m xs d z) {i:Nat} {op v:Int} (ho:op=14∨op=15) (hv:0<=v/\v<((m+YI (xs.take i):Nat):Int)):CL ds nf m (W1 xs i (Zl op v)) d (z+2):=by
 have hs:=h.fs
 have hp:=h.op
 have e:=Un i xs
 rw [<-e] at hs hp
 rw [AT] at hs
 rw [DA] at hp
 have h1:CL ds nf m (xs.take i) (YI (xs.take i)) (Y3 (xs.take i)):=⟨hs.1,rfl,hp.1,YQ _⟩
 have h2:CL ds nf (m+YI (xs.take i)) (xs.drop i) (YI (xs.drop i)) (Y3 (xs.drop i)):=⟨hs.2,rfl,hp.2,YQ _⟩
 have h3:=(h1.cnt ho hv).app h2
 have e1:=Yr Y3 e
 have e2:=Yr YI e
 rw [Um] at e1
 rw [Qu,h.dn] at e2
 have:=h.sz
 rw [e2] at h3
 exact h3.le om
theorem Z1u {xs:List Z4} {i j:Nat} {s:Z4} (h:i<=j) (hj:j<=xs.length):(W1 xs j s).take i=xs.take i:=by
 rw [W1,VT,List.take_append_of_le_length (by rw [Wq];omega),List.take_take,V8 h]
theorem Se {ds:List Zc} {nf m z:Nat} {b:Z3} (h:KB ds nf m b z) {i j:Nat} {v:Int} (hij:i<=j) (hj:j<=b.steps.length) (hv:0<=v/\v<((m+YI (b.steps.take i):Nat):Int)):KB ds nf m (AZ b i j v) (z+4):=by
 obtain ⟨h1,h2⟩:=h.cl
 have hm:YI (b.steps.take i)<=YI (b.steps.take j):=by
  have e:=Yr YI (Un i (b.steps.take j))
  rw [Qu,List.take_take,V8 hij] at e;omega
 have h3:=(h1.put (i:=j) (op:=15) (v:=v) (.inr rfl) om).put (i:=i) (op:=14) (v:=v) (.inl rfl) (by rw [Z1u hij hj];exact hv)
 have:=h.sz
 have:=b.sz_eq
 exact (h3.block h2).le om
theorem FO.held {n n2:Zx} {q:Nat} (h:FO n q WL) (hh:Eh n n2):FO n2 (q+4) WL:=by
 rcases hh with rfl|⟨f,rt,i,j,v,h1,h2,h3,h4,h5,rfl⟩
 ·exact ⟨⟨h.fn.decls,h.fn.len,h.fn.sigs,h.fn.lent,fun r hr=>⟨(h.fn.body r hr).1,by have:=(h.fn.body r hr).2;omega⟩⟩,h.op⟩
 ·have hr:=h.rf (ZW h1)
  have hk:KB n.decls n.routines.length rt.params.length (AZ rt.body i j v) (q+4):=Se ⟨hr.body.1,hr.op,hr.body.2⟩ h2 h3 ⟨h4,h5⟩
  refine FO.all h.fn.decls (by show 1<=(n.routines.set _ _).length/\(n.routines.set _ _).length<=4;rw [Uu];exact h.fn.len) fun r hm=>?_
  show RF n.decls (n.routines.set _ _).length _ _ r
  rw [Uu]
  rcases List.mem_or_eq_of_mem_set hm with hm|rfl
  ·have hq:=h.rf hm
   exact ⟨hq.sig,hq.lent,⟨hq.body.1,by have:=hq.body.2;omega⟩,hq.op⟩
  ·exact ⟨hr.sig,hr.lent,⟨hk.fb,hk.sz⟩,hk.op⟩
mutual
def Z4.rb:Z4->Prop
 | .mk _ _ _ _ kids=>TN kids
def TN:List Z3->Prop
 | []=>True
 | b::r=>Z3.rb b/\TN r
def TZ:List Z4->Prop
 | []=>True
 | s::r=>Z4.rb s/\TZ r
def Z3.rb:Z3->Prop
 | .mk steps result=>TZ steps/\-1000000000<=result/\result<=1000000000
end
theorem Z4.rb_eq (s:Z4):s.rb=TN s.kids:=by cases s;rw [Z4.rb];rfl
theorem Z3.rb_eq (b:Z3):b.rb=(TZ b.steps/\-1000000000<=b.result/\b.result<=1000000000):=by cases b;rw [Z3.rb];rfl
theorem Tk:∀{xs:List Z4},TZ xs↔∀s∈xs,s.rb
 | []=>by simp [TZ]
 | s::r=>by rw [TZ,Tk];simp
theorem AF:∀{xs:List Z3},TN xs↔∀s∈xs,s.rb
 | []=>by simp [TN]
 | s::r=>by rw [TN,AF];simp
section
variable {ds:List Zc} {nf:Nat}
mutual
theorem Z1v:∀(s:Z4) {m:Nat},fS ds nf m s->m+4*s.sz<=900000000->Wg ds->s.rb
 | .mk op num into args kids,m,h,hb,hd=>by
  rw [fS] at h
  obtain ⟨h1,h2,h3,h4,h5,h6,h7,h8,h9,h10,h11,h12⟩:=h
  rw [Z4.sz] at hb
  rw [Z4.rb]
  refine LQ kids h12 (fun k=>?_) hd
  have hf:=VB hd (gI (Y2 ds num) k)
  show VH ds op num m k+4*YH kids<=900000003
  rw [VH];split<;>omega
theorem LQ:∀(bs:List Z3) {sc:Nat->Nat} {k:Nat},Up ds nf sc k bs->(∀k,sc k+4*YH bs<=900000003)->Wg ds->TN bs
 | [],_,_,_,_,_=>True.intro
 | b::r,sc,k,h,hb,hd=>by
  have hp:=b.sz_eq
  exact ⟨LP b h.1 (by have:=hb k;rw [YH] at this;omega) hd,LQ r h.2 (fun j=>by have:=hb j;rw [YH] at this;omega) hd⟩
theorem LR:∀(xs:List Z4) {m:Nat},U1 ds nf m xs->m+4*Y3 xs<=900000000->Wg ds->TZ xs
 | [],_,_,_,_=>True.intro
 | s::r,m,h,hb,hd=>by
  rw [Y3] at hb
  have hp:=s.sz_pos
  refine ⟨Z1v s h.1 om hd,LR r h.2 ?_ hd⟩
  split<;>omega
theorem LP:∀(b:Z3) {m:Nat},fB ds nf m b->m+4*b.sz<=900000004->Wg ds->b.rb
 | .mk steps result,m,h,hb,hd=>by
  rw [Z3.sz] at hb
  rw [fB] at h
  rw [Z3.rb]
  have h1:=Jj steps
  have h2:steps.length<=Y3 steps:=by
   clear h h1 hb
   induction steps with
   | nil=>simp
   | cons x r ih=>have:=x.sz_pos;rw [Y3,YD];omega
  exact ⟨LR steps h.1 om hd,by omega,by omega⟩
end
theorem Ap {op v:Int}:(Zl op v).rb:=by rw [Z4.rb_eq];exact True.intro
theorem Z1w {b:Z3} {x q:Int} {fs:LI} (h:b.rb):(Qr b x fs q).rb:=by
 rw [Z3.rb_eq,Tk] at h
 rw [Z3.rb_eq,Tk]
 refine ⟨fun s hs=>?_,h.2⟩
 have hs:s∈QM b.steps x fs q:=hs
 rw [QM] at hs
 split at hs
 ·simp only [X2,Wf,Xx] at hs
  rcases hs with ((⟨a,_,rfl⟩|rfl)|⟨a,_,rfl⟩)|hs
  ·exact Ap
  ·exact Ap
  ·exact Ap
  ·exact h.1 s (List.mem_of_mem_drop hs)
 ·exact h.1 s hs
mutual
theorem Z1z:∀(s:Z4) {m:Nat},s.rb->(J2 ds m s).rb
 | .mk op num into args kids,m,h=>by
  rw [Z4.rb] at h
  rw [J2,Z4.rb]
  exact LU kids h
theorem LU:∀(bs:List Z3) {m:Nat} {op num:Int} {args:LI} {k:Nat},TN bs->TN (U8 ds m op num args bs k)
 | [],_,_,_,_,_,_=>by rw [U8];exact True.intro
 | b::r,m,op,num,args,k,h=>by
  rw [U8,TN]
  refine ⟨?_,LU r h.2⟩
  split
  ·exact Z1w (FY b h.1)
  ·exact FY b h.1
theorem LV:∀(xs:List Z4) {m:Nat},TZ xs->TZ (Vx ds m xs)
 | [],_,_=>by rw [Vx];exact True.intro
 | s::r,m,h=>by rw [Vx,TZ];exact ⟨Z1z s h.1,LV r h.2⟩
theorem FY:∀(b:Z3) {m:Nat},b.rb->(Wp ds m b).rb
 | .mk steps result,m,h=>by
  rw [Z3.rb] at h
  rw [Wp,Z3.rb]
  exact ⟨LV steps h.1,h.2⟩
end
theorem Z1x {b:Z3} {x:Int} {many:Nat} (h:b.rb):(V5 b x many).rb:=by
 rw [Z3.rb_eq] at h
 rw [V5,Z3.rb_eq]
 refine ⟨?_,h.2⟩
 show TZ (Vf b.steps x many)
 rw [Vf]
 split
 ·exact h.1
 ·rename_i hq
  obtain ⟨_,_,t,h5,h7,h6⟩:=Kv (fun z=>hq (.inr z))
  have h:=h.1
  rw [Tk] at h ⊢
  intro s hs
  rcases List.mem_or_eq_of_mem_set hs with hs|rfl
  ·rcases List.mem_or_eq_of_mem_set hs with hs|rfl
   ·exact h s hs
   ·exact Ap
  ·have:=h t (ZW h5)
   rw [h6,Te,Z4.rb_eq]
   rw [Z4.rb_eq] at this
   exact this
mutual
theorem Z1y:∀(s:Z4) {K:LI},s.rb->(UZ ds K s).rb
 | .mk op num into args kids,K,h=>by
  rw [Z4.rb] at h
  rw [UZ,Z4.rb]
  exact LS kids h
theorem LS:∀(bs:List Z3) {K:LI} {op num:Int} {args:LI} {k:Nat},TN bs->TN (Vv ds K op num args bs k)
 | [],_,_,_,_,_,_=>True.intro
 | b::r,K,op,num,args,k,h=>by
  rw [Vv,TN]
  refine ⟨?_,LS r h.2⟩
  split
  ·exact Z1x (FX b h.1)
  ·exact FX b h.1
theorem LT:∀(xs:List Z4) {K:LI},TZ xs->TZ (VF ds K xs)
 | [],_,_=>True.intro
 | s::r,K,h=>⟨Z1y s h.1,LT r h.2⟩
theorem FX:∀(b:Z3) {K:LI},b.rb->(W2 ds K b).rb
 | .mk steps result,K,h=>by
  rw [Z3.rb] at h
  rw [W2,Z3.rb]
  exact ⟨LT steps h.1,h.2⟩
end
end
structure Wl (ds:List Zc) (b:Z3):Prop where
 w:wB ds b
 nr:TB b
 rng:b.rng
structure Uw (ds:List Zc) (s:Z4):Prop where
 w:wS ds s
 nr:Am s
 rng:s.rng
section
variable {ds:List Zc}
theorem Tl:∀{xs:List Z4},Kb xs↔∀s∈xs,s.rng
 | []=>by simp [Kb]
 | s::r=>by rw [Kb,Tl];simp
theorem Jh:∀{xs:List Z3},QQ xs↔∀s∈xs,s.rng
 | []=>by simp [QQ]
 | s::r=>by rw [QQ,Jh];simp
theorem Wl.iff {b:Z3}:Wl ds b↔∀s∈b.steps,Uw ds s:=by
 constructor
 ·intro h s hs
  have h3:=h.rng
  rw [Z3.rng_eq] at h3
  exact ⟨J4.1 ((Qp b).1 h.w) s hs,C4.1 ((C3 b).1 h.nr) s hs,Tl.1 h3 s hs⟩
 ·intro h
  exact ⟨(Qp b).2 (J4.2 fun s hs=>(h s hs).w),(C3 b).2 (C4.2 fun s hs=>(h s hs).nr),by rw [Z3.rng_eq];exact Tl.2 fun s hs=>(h s hs).rng⟩
theorem Uw.kid {s:Z4} {b:Z3} (h:Uw ds s) (hb:b∈s.kids):Wl ds b:=by
 have h3:=h.rng
 rw [Z4.rng_eq] at h3
 exact ⟨E5.1 ((QI s).1 h.w).2.2.2 b hb,Dx.1 ((B7 s).1 h.nr).2 b hb,Jh.1 h3.2 b hb⟩
theorem Uw.kids {s:Z4} {ks:List Z3} (h:Uw ds s) (hl:ks.length=s.kids.length) (hk:∀b∈ks,Wl ds b):Uw ds ⟨s.op,s.num,s.into,s.args,ks⟩:=by
 obtain ⟨h1,h2,h3,h4⟩:=(QI s).1 h.w
 have h5:=h.rng
 rw [Z4.rng_eq] at h5
 refine ⟨(QI _).2 ⟨h1,fun hc=>?_,fun h8=>⟨(h3 h8).1,hl.trans (h3 h8).2⟩,E5.2 fun b hb=>(hk b hb).w⟩,(B7 _).2 ⟨((B7 s).1 h.nr).1,Dx.2 fun b hb=>(hk b hb).nr⟩,by rw [Z4.rng_eq];exact ⟨h5.1,Jh.2 fun b hb=>(hk b hb).rng⟩⟩
 obtain ⟨q1,q2,q3,q4⟩:=h2 hc
 exact ⟨q1,q2,List.eq_nil_of_length_eq_zero (show ks.length=0 by rw [hl,q3];rfl),q4⟩
theorem Uw.cnt {op v:Int} (h:op=14∨op=15∨op=16):Uw ds (Zl op v):=⟨Z67 h,(B7 _).2 ⟨by show op≠17;omega,True.intro⟩,by rw [Z4.rng_eq];exact ⟨⟨by show (-9223372036854775808:Int)<=0;decide,by show (0:Int)<=_;decide⟩,True.intro⟩⟩
theorem Wl.open {b:Z3} {x q:Int} {fs:LI} (h:Wl ds b):Wl ds (Qr b x fs q):=by
 rw [Wl.iff] at h ⊢
 intro s hs
 have hs:s∈QM b.steps x fs q:=hs
 rw [QM] at hs
 split at hs
 ·simp only [X2,Wf,Xx] at hs
  rcases hs with ((⟨a,_,rfl⟩|rfl)|⟨a,_,rfl⟩)|hs
  ·exact Uw.cnt om
  ·exact Uw.cnt om
  ·exact Uw.cnt om
  ·exact h s (List.mem_of_mem_drop hs)
 ·exact h s hs
theorem Mx {m:Nat} {op num:Int} {args:LI}:∀{bs:List Z3} {k:Nat},(U8 ds m op num args bs k).length=bs.length
 | [],_=>rfl
 | b::r,k=>by rw [U8,YD,YD,Mx (bs:=r)]
mutual
theorem Uw.sp:∀(s:Z4) {m:Nat},Uw ds s->Uw ds (J2 ds m s)
 | .mk op num into args kids,m,h=>by
  rw [J2]
  exact h.kids Mx (Wls.sp kids fun b hb=>h.kid hb)
theorem Wls.sp:∀(bs:List Z3) {m:Nat} {op num:Int} {args:LI} {k:Nat},(∀b∈bs,Wl ds b)->∀b∈U8 ds m op num args bs k,Wl ds b
 | [],_,_,_,_,_,_,b,hb=>by cases hb
 | c::r,m,op,num,args,k,h,b,hb=>by
  rw [U8] at hb
  rcases Yq.1 hb with rfl|hb
  ·split
   ·exact (Wl.sp c (h c (YV ..))).open
   ·exact Wl.sp c (h c (YV ..))
  ·exact Wls.sp r (fun x hx=>h x (Xo _ hx)) b hb
theorem WlSs.sp:∀(xs:List Z4) {m:Nat},(∀s∈xs,Uw ds s)->∀s∈Vx ds m xs,Uw ds s
 | [],_,_,s,hs=>by cases hs
 | c::r,m,h,s,hs=>by
  rw [Vx] at hs
  rcases Yq.1 hs with rfl|hs
  ·exact Uw.sp c (h c (YV ..))
  ·exact WlSs.sp r (fun x hx=>h x (Xo _ hx)) s hs
theorem Wl.sp:∀(b:Z3) {m:Nat},Wl ds b->Wl ds (Wp ds m b)
 | .mk steps result,m,h=>by
  rw [Wp,Wl.iff]
  exact WlSs.sp steps (Wl.iff.1 h)
end
theorem Z2b {b:Z3} {x:Int} {many:Nat} (h:b.rng):(V5 b x many).rng:=by
 rw [Z3.rng_eq] at h
 rw [V5,Z3.rng_eq]
 show Kb (Vf b.steps x many)
 rw [Vf]
 split
 ·exact h
 ·rename_i hq
  obtain ⟨_,_,t,h5,h7,h6⟩:=Kv (fun z=>hq (.inr z))
  rw [Tl] at h ⊢
  intro s hs
  rcases List.mem_or_eq_of_mem_set hs with hs|rfl
  ·rcases List.mem_or_eq_of_mem_set hs with hs|rfl
   ·exact h s hs
   ·rw [Z4.rng_eq];exact ⟨⟨by show (-9223372036854775808:Int)<=0;decide,by show (0:Int)<=_;decide⟩,True.intro⟩
  ·have:=h t (ZW h5)
   rw [h6,Te,Z4.rng_eq]
   rw [Z4.rng_eq] at this
   exact this
mutual
theorem Z2c:∀(s:Z4) {K:LI},s.rng->(UZ ds K s).rng
 | .mk op num into args kids,K,h=>by
  rw [Z4.rng] at h
  rw [UZ,Z4.rng]
  exact ⟨h.1,M6 kids h.2⟩
theorem M6:∀(bs:List Z3) {K:LI} {op num:Int} {args:LI} {k:Nat},QQ bs->QQ (Vv ds K op num args bs k)
 | [],_,_,_,_,_,_=>True.intro
 | b::r,K,op,num,args,k,h=>by
  rw [Vv,QQ]
  refine ⟨?_,M6 r h.2⟩
  split
  ·exact Z2b (G6 b h.1)
  ·exact G6 b h.1
theorem M7:∀(xs:List Z4) {K:LI},Kb xs->Kb (VF ds K xs)
 | [],_,_=>True.intro
 | s::r,K,h=>⟨Z2c s h.1,M7 r h.2⟩
theorem G6:∀(b:Z3) {K:LI},b.rng->(W2 ds K b).rng
 | .mk steps result,K,h=>by
  rw [Z3.rng] at h
  rw [W2,Z3.rng]
  exact M7 steps h
end
end
mutual
theorem Z12:∀s:Z4,TD WL s->Am s
 | .mk op num into args kids,h=>by
  rw [TD] at h
  rw [Am]
  exact ⟨by have:op<=15:=h.1;omega,Lh kids h.2⟩
theorem Lh:∀bs:List Z3,TC WL bs->Ju bs
 | [],_=>True.intro
 | b::r,h=>⟨Lg b h.1,Lh r h.2⟩
theorem Li:∀bs:List Z4,UE WL bs->Jv bs
 | [],_=>True.intro
 | b::r,h=>⟨Z12 b h.1,Li r h.2⟩
theorem Lg:∀b:Z3,WD WL b->TB b
 | .mk steps result,h=>by
  rw [WD] at h
  rw [TB]
  exact Li steps h
end
structure ZR (q:Nat) (r:Y8):Prop where
 params:r.params.length<=3
 lent:r.lent.length<=10
 body:r.body.sz<=q
 rng:r.body.rng
 rb:r.body.rb
structure ZN (n:Zx) (q:Nat):Prop where
 decls:AD n.decls
 len:1<=n.routines.length/\n.routines.length<=4
 rt:∀r∈n.routines,ZR q r
theorem ZR.le {q q2:Nat} {r:Y8} (h:ZR q r) (hq:q<=q2):ZR q2 r:=⟨h.params,h.lent,WJ h.body hq,h.rng,h.rb⟩
theorem ZN.le {n:Zx} {q q2:Nat} (h:ZN n q) (hq:q<=q2):ZN n q2:=⟨h.decls,h.len,fun r hr=>(h.rt r hr).le hq⟩
theorem ZN.sz {n:Zx} {q:Nat} (h:ZN n q) (hq:q<=10000000):Ja n:=
 ⟨⟨by have:=h.decls.1;omega,fun d hd=>by have:=(h.decls.2 d hd).1;omega,fun d hd c hc=>by have:=(h.decls.2 d hd).2 c hc;omega⟩,by have:=h.len;omega,fun r hr=>by have:=(h.rt r hr).params;omega,fun r hr=>by have:=(h.rt r hr).lent;omega,fun r hr=>by have:=(h.rt r hr).body;omega⟩
theorem FO.wl {n:Zx} {q:Nat} (h:FO n q WL) (hq:q<=100000000):∀r∈n.routines,Wl n.decls r.body:=fun r hr=>by
 have h1:=h.rf hr
 have h2:r.params.length<=3:=(Uh.bd (f:=⟨r.params,r.result,default⟩) h1.sig).1
 exact ⟨Nr r.body h1.body.1 (by have:=h1.body.2;omega) h.fn.decls.ok,Lg r.body h1.op,G4 r.body h1.body.1⟩
theorem FO.zn {n:Zx} {q:Nat} {p:Int->Prop} (h:FO n q p) (hq:q<=100000000:=by omega):ZN n q:=
 ⟨h.fn.decls.ad,h.fn.len,fun r hr=>⟨(Uh.bd (f:=⟨r.params,r.result,default⟩) (h.fn.sigs r hr)).1,by have:=(h.fn.lent r hr).1;omega,(h.fn.body r hr).2,G4 r.body (h.fn.body r hr).1,LP r.body (h.fn.body r hr).1 (by have h2:r.params.length<=3:=(Uh.bd (f:=⟨r.params,r.result,default⟩) (h.fn.sigs r hr)).1;have:=(h.fn.body r hr).2;omega) h.fn.decls.ok⟩⟩
structure WN (n:Zx) (q:Nat):Prop where
 ok:Xh n
 zn:ZN n q
 wl:∀r∈n.routines,Wl n.decls r.body
theorem FO.wn {n:Zx} {q:Nat} (h:FO n q WL) (hq:q<=100000000):WN n q:=⟨h.fn.ok,h.zn hq,h.wl hq⟩
theorem WN.sp {n:Zx} {q:Nat} (h:WN n q):WN (DU n) (9*q):=by
 refine ⟨⟨h.ok.decls,by show (n.routines.map _).length<=4;rw [Cw];exact h.ok.len,fun r hr=>?_,fun r hr=>?_⟩,⟨h.zn.decls,by show 1<=(n.routines.map _).length/\(n.routines.map _).length<=4;rw [Cw];exact h.zn.len,fun r hr=>?_⟩,fun r hr=>?_⟩
 ·obtain ⟨s,hs,rfl⟩:=Wf.1 hr;exact h.ok.params s hs
 ·obtain ⟨s,hs,rfl⟩:=Wf.1 hr;exact h.ok.lent s hs
 ·obtain ⟨s,hs,rfl⟩:=Wf.1 hr
  have hz:=h.zn.rt s hs
  refine ⟨hz.params,hz.lent,?_,(Wl.sp s.body (h.wl s hs)).rng,FY s.body hz.rb⟩
  have h1:=DS h.ok.decls s.body (m:=s.params.length) (h.wl s hs).w
  have h2:=s.body.pz_le
  have h3:=hz.body
  show (Wp n.decls s.params.length s.body).sz<=9*q
  omega
 ·obtain ⟨s,hs,rfl⟩:=Wf.1 hr;exact Wl.sp s.body (h.wl s hs)
theorem WN.ru {n:Zx} {q:Nat} (h:WN n q):ZN (DH n) q:=by
 refine ⟨h.zn.decls,by show 1<=(n.routines.map _).length/\(n.routines.map _).length<=4;rw [Cw];exact h.zn.len,fun r hr=>?_⟩
 obtain ⟨s,hs,rfl⟩:=Wf.1 hr
 have hz:=h.zn.rt s hs
 refine ⟨hz.params,hz.lent,?_,G6 s.body (h.wl s hs).rng,FX s.body hz.rb⟩
 have h1:=G9 s.body (K:=[]) (h.wl s hs).w
 have h3:=hz.body
 show (W2 n.decls [] s.body).sz<=q
 omega
theorem Ba {xs:List Z4} {i:Nat} {s t:Z4} (h:t∈W1 xs i s):t∈xs∨t=s:=by
 rw [W1] at h
 simp only [X2,Xx] at h
 rcases h with (h|h)|h
 ·exact .inl (Tp h)
 ·exact .inr h
 ·exact .inl (List.mem_of_mem_drop h)
theorem G5 {op v:Int}:(Zl op v).rng:=by rw [Z4.rng_eq];exact ⟨⟨by show (-9223372036854775808:Int)<=0;decide,by show (0:Int)<=_;decide⟩,True.intro⟩
theorem ZN.withR {n:Zx} {q q2:Nat} {f:Nat} {rt:Y8} {b:Z3} (h:ZN n q) (hr:n.routines[f]? = some rt) (hq:q<=q2) (hb:b.sz<=q2) (hg:b.rng) (hbr:b.rb):ZN (withR n f rt b) q2:=by
 refine ⟨h.decls,by show 1<=(n.routines.set _ _).length/\(n.routines.set _ _).length<=4;rw [Uu];exact h.len,fun r hm=>?_⟩
 rcases List.mem_or_eq_of_mem_set hm with hm|rfl
 ·exact (h.rt r hm).le hq
 ·have:=h.rt rt (ZW hr)
  exact ⟨this.params,this.lent,hb,hg,hbr⟩
theorem ZN.held {n n2:Zx} {q:Nat} (h:ZN n q) (hh:Eh n n2):ZN n2 (q+4):=by
 rcases hh with rfl|⟨f,rt,i,j,v,h1,h2,h3,h4,h5,rfl⟩
 ·exact h.le om
 ·have hz:=h.rt rt (ZW h1)
  refine h.withR h1 om ?_ ?_ (by have hb:=hz.rb;rw [Z3.rb_eq,Tk] at hb;rw [AZ,Z3.rb_eq,Tk];refine ⟨fun s hs=>?_,hb.2⟩;rcases Ba hs with hs|rfl<;>first|exact Ap|(rcases Ba hs with hs|rfl<;>first|exact Ap|exact hb.1 s hs))
  ·rw [AZ,Z3.sz,Cd,Cd]
   have e1:(Zl 14 v).sz=2:=rfl
   have e2:(Zl 15 v).sz=2:=rfl
   have:=hz.body
   have:=rt.body.sz_eq
   omega
  ·have hg:=hz.rng
   rw [Z3.rng_eq,Tl] at hg
   rw [AZ,Z3.rng_eq,Tl]
   intro s hs
   rcases Ba hs with hs|rfl
   ·rcases Ba hs with hs|rfl
    ·exact hg s hs
    ·exact G5
   ·exact G5
theorem FO.le {n:Zx} {q q2:Nat} {p:Int->Prop} (h:FO n q p) (hq:q<=q2):FO n q2 p:=⟨⟨h.fn.decls,h.fn.len,h.fn.sigs,h.fn.lent,fun r hr=>⟨(h.fn.body r hr).1,WJ (h.fn.body r hr).2 hq⟩⟩,h.op⟩
abbrev Z4.rgb (s:Z4):Prop:=s.rng/\s.rb
abbrev Z3.rgb (b:Z3):Prop:=b.rng/\b.rb
def V9 (s y:Z4):Prop:=y.sz<=s.sz+1/\y.rgb
theorem V9.refl {s:Z4} (hg:s.rgb):V9 s s:=⟨Nat.le_succ _,hg⟩
theorem V9.of {s:Z4} {op num into:Int} {args:LI} {kids:List Z3} (hgb:s.rgb) (hn:num=s.num∨num∈([0,1,2,3,-1,1000]:LI)) (ha:args.length<=s.args.length+1) (hk:kids=s.kids∨kids=s.kids.drop 1):V9 s ⟨op,num,into,args,kids⟩:=by
 obtain ⟨hg,hrb⟩:=hgb
 rw [Z4.rng_eq] at hg
 rw [Z4.rb_eq] at hrb
 have hs:=s.sz_eq
 have hb:YH kids<=YH s.kids:=by
  rcases hk with rfl|rfl
  ·exact YQ _
  ·have h:=Yr YH (Un 1 s.kids)
   rw [Bz] at h;omega
 refine ⟨by rw [Z4.sz];omega,?_,by rw [Z4.rb];exact AF.2 fun b hbk=>AF.1 hrb b (by rcases hk with rfl|rfl;exact hbk;exact List.mem_of_mem_drop hbk)⟩
 rw [Z4.rng]
 refine ⟨?_,Jh.2 fun b hbk=>Jh.1 hg.2 b ?_⟩
 ·rcases hn with rfl|hn
  ·exact hg.1
  ·have:=(by decide:∀z∈([0,1,2,3,-1,1000]:LI),-9223372036854775808<=z/\z<=9223372036854775807) num hn
   exact this
 ·rcases hk with rfl|rfl
  ·exact hbk
  ·exact List.mem_of_mem_drop hbk
def Xe (b y:Z3):Prop:=y.sz<=b.sz+2/\y.rgb
theorem Xe.result {b:Z3} (hg:b.rgb) (z:Int) (hz:-1000000000<=z/\z<=1000000000:=by omega):Xe b ⟨b.steps,z⟩:=⟨by rw [Z3.sz,b.sz_eq];omega,by have h:=hg.1;rw [Z3.rng_eq] at h;rw [Z3.rng];exact h,by have h:=hg.2;rw [Z3.rb_eq] at h;rw [Z3.rb];exact ⟨h.1,hz⟩⟩
theorem Xe.put {b:Z3} (hgb:b.rgb) {i:Nat} {op v:Int}:Xe b ⟨W1 b.steps i (Zl op v),b.result⟩:=by
 obtain ⟨hg,hrb⟩:=hgb
 rw [Z3.rng_eq,Tl] at hg
 rw [Z3.rb_eq,Tk] at hrb
 refine ⟨?_,?_,?_⟩
 ·rw [Z3.sz,Cd,b.sz_eq]
  have e:(Zl op v).sz=2:=rfl
  omega
 ·rw [Z3.rng,Tl]
  intro s hs
  rcases Ba hs with hs|rfl
  ·exact hg s hs
  ·exact G5
 ·rw [Z3.rb,Tk]
  refine ⟨fun s hs=>?_,hrb.2⟩
  rcases Ba hs with hs|rfl
  ·exact hrb.1 s hs
  ·exact Ap
theorem Xe.del {b:Z3} (hgb:b.rgb) {k:Nat}:Xe b ⟨b.steps.take k++b.steps.drop (k+1),b.result⟩:=by
 obtain ⟨hg,hrb⟩:=hgb
 rw [Z3.rng_eq,Tl] at hg
 rw [Z3.rb_eq,Tk] at hrb
 have h1:=Q0 b.steps k
 have h2:=Yr Y3 (Un k b.steps)
 have h3:=Yr Y3 (Un 1 (b.steps.drop k))
 rw [Um] at h2 h3
 rw [List.drop_drop] at h3
 refine ⟨by rw [Z3.sz,Um,b.sz_eq];omega,?_,by rw [Z3.rb,Tk];refine ⟨fun s hs=>?_,hrb.2⟩;rcases X2.1 hs with hs|hs;exact hrb.1 s (Tp hs);exact hrb.1 s (List.mem_of_mem_drop hs)⟩
 rw [Z3.rng,Tl]
 intro s hs
 rcases X2.1 hs with hs|hs
 ·exact hg s (Tp hs)
 ·exact hg s (List.mem_of_mem_drop hs)
theorem Xe.set {b:Z3} (hgb:b.rgb) {k:Nat} {s t:Z4} (hs:b.steps[k]? = some s) (ht:t.sz<=s.sz+2/\t.rgb):Xe b ⟨b.steps.set k t,b.result⟩:=by
 obtain ⟨hg,hrb⟩:=hgb
 rw [Z3.rng_eq,Tl] at hg
 rw [Z3.rb_eq,Tk] at hrb
 have h1:=DX t hs
 refine ⟨by rw [Z3.sz,b.sz_eq];omega,?_,by rw [Z3.rb,Tk];refine ⟨fun s hs=>?_,hrb.2⟩;rcases List.mem_or_eq_of_mem_set hs with hs|rfl;exact hrb.1 s hs;exact ht.2.2⟩
 rw [Z3.rng,Tl]
 intro x hx
 rcases List.mem_or_eq_of_mem_set hx with hx|rfl
 ·exact hg x hx
 ·exact ht.2.1
theorem Hb:∀{xs:List Z3} {i:Nat} {s:Z3} (t:Z3),xs[i]? = some s->YH (xs.set i t)+s.sz=YH xs+t.sz
 | [],_,_,_,h=>by simp at h
 | x::r,0,s,t,h=>by simp at h;subst h;rw [List.set_cons_zero,YH,YH];omega
 | x::r,i+1,s,t,h=>by
  have:=Hb (xs:=r) (i:=i) t (by simpa using h)
  rw [List.set_cons_succ,YH,YH];omega
theorem Xe.kid {b:Z3} (hg:b.rgb) {k j:Nat} {s:Z4} {c y:Z3} (hs:b.steps[k]? = some s) (hc:s.kids[j]? = some c) (hy:Xe c y):Xe b ⟨b.steps.set k ⟨s.op,s.num,s.into,s.args,s.kids.set j y⟩,b.result⟩:=by
 refine Xe.set hg hs ?_
 have hg2:=hg.1
 have hr2:=hg.2
 rw [Z3.rng_eq,Tl] at hg2
 rw [Z3.rb_eq,Tk] at hr2
 have h4:=hr2.1 s (ZW hs)
 rw [Z4.rb_eq] at h4
 have h1:=hg2 s (ZW hs)
 rw [Z4.rng_eq] at h1
 have h2:=Hb y hc
 have h3:=hy.1
 refine ⟨by rw [Z4.sz,s.sz_eq];omega,?_,by rw [Z4.rb];refine AF.2 fun x hx=>?_;rcases List.mem_or_eq_of_mem_set hx with hx|rfl;exact AF.1 h4 x hx;exact hy.2.2⟩
 rw [Z4.rng]
 refine ⟨h1.1,Jh.2 fun x hx=>?_⟩
 rcases List.mem_or_eq_of_mem_set hx with hx|rfl
 ·exact Jh.1 h1.2 x hx
 ·exact hy.2.1
theorem M5 {b:Z3} (hg:b.rng) {k j:Nat} {s:Z4} {c:Z3} (hs:b.steps[k]? = some s) (hc:s.kids[j]? = some c):c.rng:=by
 rw [Z3.rng_eq,Tl] at hg
 have h1:=hg s (ZW hs)
 rw [Z4.rng_eq] at h1
 exact Jh.1 h1.2 c (ZW hc)
theorem G0 {b:Z3} (hg:b.rgb) {k j:Nat} {s:Z4} {c:Z3} (hs:b.steps[k]? = some s) (hc:s.kids[j]? = some c):c.rgb:=by
 refine ⟨M5 hg.1 hs hc,?_⟩
 have h:=hg.2
 rw [Z3.rb_eq,Tk] at h
 have h1:=h.1 s (ZW hs)
 rw [Z4.rb_eq] at h1
 exact AF.1 h1 c (ZW hc)
theorem Z2d {b:Z3} (hg:b.rng) {k:Nat} {s:Z4} (hs:b.steps[k]? = some s):s.rng:=by
 rw [Z3.rng_eq,Tl] at hg
 exact hg s (ZW hs)
theorem Z28 {b:Z3} (hg:b.rgb) {k:Nat} {s:Z4} (hs:b.steps[k]? = some s):s.rgb:=by
 refine ⟨Z2d hg.1 hs,?_⟩
 have h:=hg.2
 rw [Z3.rb_eq,Tk] at h
 exact h.1 s (ZW hs)
structure ZS (n:Zx) (q l:Nat):Prop where
 decls:AD n.decls
 len:1<=n.routines.length/\n.routines.length<=4
 rt:∀r∈n.routines,r.params.length<=3/\r.lent.length<=l/\r.body.sz<=q/\r.body.rng
 rb:∀r∈n.routines,r.body.rb
theorem ZN.zs {n:Zx} {q:Nat} (h:ZN n q):ZS n q 10:=⟨h.decls,h.len,fun r hr=>⟨(h.rt r hr).params,(h.rt r hr).lent,(h.rt r hr).body,(h.rt r hr).rng⟩,fun r hr=>(h.rt r hr).rb⟩
theorem ZS.le {n:Zx} {q q2 l l2:Nat} (h:ZS n q l) (hq:q<=q2) (hl:l<=l2):ZS n q2 l2:=⟨h.decls,h.len,fun r hr=>by obtain ⟨a,b,c,d⟩:=h.rt r hr;exact ⟨a,by omega,by omega,d⟩,h.rb⟩
theorem ZS.set {n:Zx} {q l q2 l2:Nat} {f:Nat} {rt:Y8} {ls:LI} {b:Z3} (h:ZS n q l) (hr:n.routines[f]? = some rt) (hq:q<=q2) (hl:l<=l2) (hls:ls.length<=l2) (hb:b.sz<=q2) (hg:b.rgb):ZS ⟨n.decls,n.routines.set f ⟨rt.params,ls,rt.result,b⟩⟩ q2 l2:=by
 refine ⟨h.decls,by show 1<=(n.routines.set _ _).length/\(n.routines.set _ _).length<=4;rw [Uu];exact h.len,fun r hm=>?_,fun r hm=>?_⟩
 ·rcases List.mem_or_eq_of_mem_set hm with hm|rfl
  ·exact (h.le hq hl).rt r hm
  ·have:=h.rt rt (ZW hr)
   exact ⟨this.1,hls,hb,hg.1⟩
 ·rcases List.mem_or_eq_of_mem_set hm with hm|rfl
  ·exact h.rb r hm
  ·exact hg.2
theorem ZS.ds {n:Zx} {q l:Nat} {ds:List Zc} (h:ZS n q l) (hd:AD ds):ZS ⟨ds,n.routines⟩ q l:=⟨hd,h.len,h.rt,h.rb⟩
theorem Ew {xs:List Z3} {k:Nat} {b:Z3} (h:xs[k]? = some b):YH (xs.drop k)=b.sz+YH (xs.drop (k+1)):=by rw [Yn h,YH]
theorem Z14 {xs:LI} {k:Nat} {n x:Int} (hx:xs[k]? = some x) (h:n∉xs.take k) (hn:¬x=n):n∉xs.take (k+1):=by
 rw [List.take_add_one,hx,Option.toList_some,X2,Xx]
 exact fun q=>q.elim h fun q=>hn q.symm
theorem IU {b:Z3} {q k j:Nat} {s:Z4} {c:Z3} (h:b.sz<=q/\b.rng) (hs:b.steps[k]? = some s) (hc:s.kids[j]? = some c):c.sz<=q/\c.rng:=by
 have h1:=TH hs
 have h2:=VP hc
 have h3:=U6 s
 exact ⟨by omega,M5 h.2 hs hc⟩
abbrev JC (xs:LI):LI:=xs.mergeSort fun x y=>decide (x<=y)
abbrev Ch (b:Z3) (k:Nat):LI:=Lib.compact (JC (Xt (b.steps.drop k)++[b.result]))
theorem Z38 (b:Z3) (k:Nat):(Ch b k).length<=b.sz:=by
 have h1:=OJ (JC (Xt (b.steps.drop k)++[b.result]))
 have h2:=E4 (b.steps.drop k)
 have h3:=As b.steps k
 have h4:=b.sz_eq
 have h0:(JC (Xt (b.steps.drop k)++[b.result])).length=(Xt (b.steps.drop k)).length+1:=(List.length_mergeSort _).trans (by simp)
 rw [h0] at h1
 exact WJ h1 om
theorem Z3b {xs:LI} (h:xs≠[]):JC xs≠[]:=fun q=>h (by have:=Yr List.length q;simp only [JC,List.length_mergeSort,X6] at this;exact List.length_eq_zero_iff.1 this)
def Ke (b:Z3) (n:Int):LI:=if Ub b<0 then [] else uF n b 0
def Nb (b:Z3) (n k:Int):LI:=if Ub b<0∨k<0∨k>(b.steps.length:Int) then [] else uF n b k.toNat
theorem Z59 (b:Z3) (n:Int):(Ke b n).length<=b.sz:=by
 rw [Ke];split
 ·simp
 ·exact Na _ _ _
theorem Nc (b:Z3) (n k:Int):(Nb b n k).length<=b.sz:=by
 rw [Nb];split
 ·simp
 ·exact Na _ _ _
def Xc (v:Int):LI->Nat
 | []=>0
 | x::r=>(if x=v then 1 else 0)+Xc v r
theorem CO {v:Int}:∀{xs ys:LI},Xc v (xs++ys)=Xc v xs+Xc v ys
 | [],ys=>by rw [Ki,Xc];omega
 | x::r,ys=>by rw [TJ,Xc,Xc,CO];omega
theorem AH {v:Int}:∀{xs:LI},Xc v xs<=xs.length
 | []=>YQ _
 | x::r=>by have:=AH (v:=v) (xs:=r);rw [Xc,YD];split<;>omega
theorem Hm {v:Int}:∀{xs:LI},0<Xc v xs↔v∈xs
 | []=>by rw [Xc];simp
 | x::r=>by
  rw [Xc,Yq,<-Hm]
  split
  ·rename_i h;exact ⟨fun _=>.inl h.symm,fun _=>by omega⟩
  ·rename_i h
   constructor
   ·intro q;exact .inr om
   ·rintro (q|q)
    ·exact absurd q.symm h
    ·omega
theorem OH {v x:Int}:Xc v [x]=if x=v then 1 else 0:=by rw [Xc,Xc,JM]
theorem EC {v x:Int} {xs:LI}:Xc v (xs++[x])=Xc v xs+(if x=v then 1 else 0):=by rw [CO,OH]
theorem Z5p {ss:List Z4} {k:Nat} {s:Z4} (h:ss[k]? = some s):Xt (ss.take (k+1))=Xt (ss.take k)++vS s:=by
 have key:∀(xs:List Z4) (s:Z4),Xt (xs++[s])=Xt xs++vS s:=by
  intro xs s
  induction xs with
  | nil=>rw [Ki,Xt,Xt,Xt];simp
  | cons x r ih=>rw [TJ,Xt,ih,Xt,VT]
 rw [List.take_add_one,h,Option.toList_some,key]
theorem Z5m {ss:List Z3} {k:Nat} {s:Z3} (h:ss[k]? = some s):WI (ss.take (k+1))=WI (ss.take k)++vB s:=by
 have key:∀(xs:List Z3) (s:Z3),WI (xs++[s])=WI xs++vB s:=by
  intro xs s
  induction xs with
  | nil=>rw [Ki,WI,WI,WI];simp
  | cons x r ih=>rw [TJ,WI,ih,WI,VT]
 rw [List.take_add_one,h,Option.toList_some,key]
def XO (b:Z3) (v:Int):Int:=if Ub b<0 then -1 else ((Xc v (vB b):Nat):Int)
theorem Z5a (b:Z3) (v:Int):-1<=XO b v/\XO b v<=b.sz:=by
 rw [XO]
 have h1:=AH (v:=v) (xs:=vB b)
 have h2:=Cp b
 split<;>omega
theorem Nf {b:Z3} {v:Int} (h0:0<=v) (h:¬XO b v<0):decide (XO b v>0)=decide (v∈Ke b (v+1)):=by
 have hs:¬Ub b<0:=fun q=>by rw [XO,Zw q] at h;omega
 rw [XO,Zr hs,Ke,Zr hs]
 have key:((Xc v (vB b):Nat):Int)>0↔v∈uF (v+1) b 0:=by
  rw [Lb,Ut,<-JH,<-Hm]
  omega
 exact decide_eq_decide.2 key
def Ah (xs:List Z4) (v:Int):Nat->Int
 | 0=>-1
 | k+1=>match xs[k]? with
  | some s=>if v∈vS s then (k:Int) else Ah xs v k
  | none=>Ah xs v k
theorem IX {xs:List Z4} {v:Int}:∀{k:Nat},-1<=Ah xs v k/\Ah xs v k<k
 | 0=>by rw [Ah];omega
 | k+1=>by
  have ih:=IX (xs:=xs) (v:=v) (k:=k)
  rw [Ah]
  split
  ·split<;>omega
  ·omega
def C1 (b:Z3) (v:Int):Int:=if Ub b<0 then -1 else if b.result=v then (b.steps.length:Int) else Ah b.steps v b.steps.length
theorem Z0r (b:Z3) (v:Int):-1<=C1 b v/\C1 b v<=b.steps.length:=by
 have:=IX (xs:=b.steps) (v:=v) (k:=b.steps.length)
 rw [C1];split
 ·omega
 ·split<;>omega
theorem Hh {xs:LI} {j:Nat} {x v c c2:Int} (h:xs[j]? = some x) (e:c2=c+((Xc v (xs.take j):Nat):Int)):(if x=v then c2+1 else c2)=c+((Xc v (xs.take (j+1)):Nat):Int):=by
 rw [Vq h,EC,e];split<;>omega
theorem Hg {as1:LI} {ks:List Z3} {i:Nat} {b:Z3} {v c c3:Int} (h:ks[i]? = some b) (e:c3=c+((Xc v (as1++WI (ks.take i)):Nat):Int)):c3+((Xc v (Xt (b.steps.drop 0)++[b.result]):Nat):Int)=c+((Xc v (as1++WI (ks.take (i+1))):Nat):Int):=by
 rw [Z5m h,<-VT,CO (ys:=vB b),e,Ut,JH];omega
theorem Hk {ss:List Z4} {j:Nat} {s:Z4} {v c c2:Int} (h:ss[j]? = some s) (e:c2=c+((Xc v (Xt (ss.take j)):Nat):Int)):c2+((Xc v (vS s):Nat):Int)=c+((Xc v (Xt (ss.take (j+1))):Nat):Int):=by
 rw [Z5p h,CO,e];omega

def B5 (g l c m kk:Nat):Value:=.slice (some ⟨g,(if c-m=0 then 0 else m*kk),none⟩) (l-m) (c-m)
def Gh (P:Program) (ops:Array Oper) (F:Fr) (k:Nat):Option (AV × Int × Nat):=
 match (Zz ops k).op with
 | .slice t x (some lo) none none=>match P.underlying t with
  | some (.slice e)=>match P.info? e with
   | some i=>match F.ev lo with
    | .val (.int _ m)=>some (F.ev x,m,i.size)
    | _=>none
   | none=>none
  | _=>none
 | _=>none
section
variable {P:Program} {n:Nat} {ops:Array Oper} {k:Nat} {F:Fr} {h h2:List Res}
theorem Z4p (j:Nat) {g l c m kk:Nat} {ls:List AV} (hi:Gh P ops F k=some (.val (.slice (some ⟨g,0,none⟩) l c),(m:Int),kk)) (hj:h[j]? = some (.row (.slice (some ⟨g,0,none⟩) l c) kk ls)) (hle:m<=l) :
  XM P (Zz ops k) F h [] (.val (B5 g l c m kk)):=by
 unfold Gh at hi
 generalize hoo:Zz ops k=o at hi
 obtain ⟨dst,op,type,pos,after,guard⟩:=o
 cases op<;>simp only at hi<;>try (cases hi)
 rename_i t x lo hi' mx
 cases lo with
 | none=>simp at hi
 | some y=>
  cases hi' with
  | some _=>simp at hi
  | none=>
   cases mx with
   | some _=>simp at hi
   | none=>
    simp only at hi
    split at hi
    ·rename_i e ht
     split at hi
     ·rename_i inf hinf
      split at hi
      ·rename_i ik m' hm
       simp only [XP,Prod.mk.injEq] at hi
       obtain ⟨hx,rfl,hkk⟩:=hi
       intro n w G a hF hh
       have v1:=hF.ev x
       rw [hx] at v1
       have v1:=v1.val_inv
       have v2:=hF.ev y
       rw [hm] at v2
       have v2:=v2.val_inv
       have hcap:l<=c:=by
        rcases hh.ok _ (ZW hj) with ⟨h0,_⟩|⟨g',l',c',cur,el,h0,_,hc,_⟩
        ·cases h0
        ·cases h0;exact hc
       refine ⟨_,.val,fun w' _ _=>?_⟩
       simp only [execOp,v1,v2,Br,Option.map_none]
       refine WP ?_
       simp only [Instr.sliceAt,Sem.run_bind,Vw ht,Result.andThen_ok,Instr.slice]
       have hmm:(Instr.sliceBounds true l c (some (.int ik (m:Int))) none none).run P w'=.ok (m,l,c) w':=by
        have X4:=Bf (P:=P) (c:=BoundsCode.sliceB) (v:=.int ik (m:Int)) (y:=l) rfl om om w'
        simp [Instr.sliceBounds,X4]
       rw [hmm]
       simp only [Result.andThen_ok,Tj hinf,B5,hkk]
       by_cases h0:c-m=0
       ·have e0:c=m:=by omega
        simp [e0]
       ·have e0:¬c=m:=fun z=>h0 om
        simp [e0,h0,Addr.add]
        exact fun z=>z.symm
      ·cases hi
     ·cases hi
    ·cases hi
theorem IK (j g l c m kk:Nat) (ls:List AV) (hle:m<=l:=by omega) (hi:Gh P ops F k=some (.val (.slice (some ⟨g,0,none⟩) l c),(m:Int),kk):=by kernel_rfl) (hj:h[j]? = some (.row (.slice (some ⟨g,0,none⟩) l c) kk ls):=by kernel_rfl) :
  XM P (Zz ops k) F h [] (.val (B5 g l c m kk)):=Z4p j hi hj hle
theorem Z1h {K:Fr->List Res->Prop} {g len cap i m sz:Nat} {ls:List AV} (hd:WU n (Zz ops k)=true) (ha:Vz P ops F k=some (.val (.slice (some ⟨g,0,none⟩) i cap),.val (B5 g len cap m sz),sz))
  (hone:ls.all AV.one=true) (him:i<=m) (hml:m<=len)
  (hK:K (F.put (Zz ops k).dst (.val (.slice (some ⟨g,0,none⟩) (i+(len-m)) cap))) (.row (.slice (some ⟨g,0,none⟩) (i+(len-m)) cap) sz (ls.take (i*sz)++ls.drop (m*sz))::h2)):Wb P n (Zz ops k) F (.row (.slice (some ⟨g,0,none⟩) len cap) sz ls::h2) K:=by
 unfold Vz at ha
 generalize hoo:Zz ops k=o at ha hd hK
 obtain ⟨dst,op,type,pos,after,guard⟩:=o
 cases op<;>simp only at ha<;>try (cases ha)
 rename_i c
 obtain ⟨callee,args,tys⟩:=c
 simp only at ha
 split at ha
 case h_2=>cases ha
 rename_i s x t t' hargs htys
 split at ha
 case h_2=>cases ha
 rename_i e htt ht
 have:=VU htt
 subst this
 split at ha
 case h_2=>cases ha
 rename_i inf hinfo
 split at ha
 case h_2=>cases ha
 rename_i z hz
 split at ha
 case h_2=>cases ha
 rename_i hb
 simp only [Wm] at hb
 simp only [XP,Prod.mk.injEq] at ha
 obtain ⟨h3,h4,hk1⟩:=ha
 have e1:args=#[s,x]:=by rw [<-Ud (xs:=args),hargs]
 have e2:tys=#[t,t]:=by rw [<-Ud (xs:=tys),htys]
 subst e1;subst e2
 intro Q w G a hF hh
 have v1:=hF.ev s
 have v2:=hF.ev x
 rw [h3] at v1
 rw [h4] at v2
 have v1:=v1.val_inv
 have v2:=v2.val_inv
 rcases hh.ok _ (YV ..) with ⟨h0,_⟩|⟨g',len',cap',cur,el,h0,hrow,hlc,hcur,hll,hcells⟩
 ·cases h0
 ·cases h0
  have q5:len*sz<=cap*sz:=Tq _ hlc
  have q6:m*sz<=len*sz:=Tq _ hml
  have q7:i*sz<=m*sz:=Tq _ him
  have q8:(len-m)*sz=len*sz-m*sz:=Nat.sub_mul ..
  have q9:(i+(len-m))*sz=i*sz+(len-m)*sz:=T5 ..
  have hcl:cur.toList.length=cap*sz:=by rw [Qq,hcur]
  have h1:(cur.toList.take (len*sz)).length=len*sz:=by rw [Wq,hcl,V8 q5]
  have hnl:((cur.toList.take (len*sz)).drop (m*sz)).length=(len-m)*sz:=by rw [Kh,h1];omega
  have hr:=DK (P:=P) w t type e el inf ht hinfo g i cap cur hrow ⟨g,(if cap-m=0 then 0 else m*sz),none⟩ (len-m) (cap-m) ((cur.toList.take (len*sz)).drop (m*sz)) (by rw [hk1];exact hnl)
   (fun j u hj=>by
    have hjl:=(XC.1 hj).1
    rw [hnl] at hjl
    have hne:¬cap-m=0:=fun z=>by
     have:len-m=0:=by omega
     rw [this] at hjl;omega
    rw [Zr hne,Q8,cell_of_row w g _ cur el (0,0) hrow]
    rw [Cv,T4] at hj
    split at hj
    ·simpa using hj
    ·cases hj)
   (fun u hu=>hcells.one_cells hone u (List.mem_of_mem_drop hu)) om (by rw [hk1,hnl,hcur];omega)
  rw [hk1] at hr
  have hti:(cur.toList.take (i*sz)).length=i*sz:=by rw [Wq,hcl,V8 om]
  obtain ⟨j1,j2⟩:=hh.rgrow (ls':=ls.take (i*sz)++ls.drop (m*sz)) (len':=i+(len-m)) (cs':=(cur.toList.take (i*sz)++(cur.toList.take (len*sz)).drop (m*sz)++cur.toList.drop (i*sz+((cur.toList.take (len*sz)).drop (m*sz)).length)).toArray) hrow
   (by simp only [Bp,Yk,hti,hnl,Kh,hcl,hcur];omega) om hcur (by rw [Yk,Wq,Kh,hll,q9,V8 om];omega) (by
    have:(cur.toList.take (i*sz)++(cur.toList.take (len*sz)).drop (m*sz)++cur.toList.drop (i*sz+((cur.toList.take (len*sz)).drop (m*sz)).length)).toArray.toList.take ((i+(len-m))*sz)=cur.toList.take (i*sz)++(cur.toList.take (len*sz)).drop (m*sz):=by
     rw [Bq,q9,<-hnl]
     conv=>lhs;arg 1;rw [show i*sz+((cur.toList.take (len*sz)).drop (m*sz)).length=(cur.toList.take (i*sz)++(cur.toList.take (len*sz)).drop (m*sz)).length from by rw [Yk,hti]]
     exact Kk
    rw [this]
    have ht1:=hcells.take (i*sz)
    rw [List.take_take,V8 om] at ht1
    exact ht1.append (hcells.drop (m*sz)))
  generalize hW:w.setRow g (cur.toList.take (i*sz)++(cur.toList.take (len*sz)).drop (m*sz)++cur.toList.drop (i*sz+((cur.toList.take (len*sz)).drop (m*sz)).length)).toArray=W at hr j1 j2
  have hrun:(execOp a.eval { dst:=dst,op:=.call { callee:=.builtin .append,args:=#[s,x],argTypes:=#[t,t] },type:=type,pos:=pos,after:=after,guard:=guard }).run P w=.ok (.value (.slice (some ⟨g,0,none⟩) (i+(len-m)) cap)) W:=by
   simp only [execOp,resolve,invoke,builtin,Sem.run_bind,Sem.run_pure,Result.andThen_ok,Cz,Ue,Cy,v1,v2,B5]
   rw [hr]
   rfl
  unfold Oper.wp
  rw [hrun]
  exact ⟨_,_,G,hK,(hF.mono (j2.agree hh)).put (Uy hd) .val,j1,j2⟩
end
section
variable {P:Program} {n:Nat} {ops:Array Oper} {B:Fr->List Res->Prop} {T:List (Nat × List Nat)} {fuel:Nat} {done:List Nat} {k:Nat} {F:Fr} {h:List Res}
theorem Hw (q j:Nat) (js bs:List Nat) (g len cap i m sz:Nat) (ls:List AV) (hone:ls.all AV.one=true)
  (H:YJ P n ops B (T.filter fun t=>!Ws ops q t.1) fuel (done++[q]) (F.put (Zz ops q).dst (.val (.slice (some ⟨g,0,none⟩) (i+(len-m)) cap))) (.row (.slice (some ⟨g,0,none⟩) (i+(len-m)) cap) sz (ls.take (i*sz)++ls.drop (m*sz))::Xn [j] h)) (him:i<=m:=by omega) (hml:m<=len:=by omega)
  (hk:YU n ops F q=true:=by kernel_rfl) (ha:Vz P ops F q=some (.val (.slice (some ⟨g,0,none⟩) i cap),.val (B5 g len cap m sz),sz):=by kernel_rfl) (hp:XU [j] h=some [.row (.slice (some ⟨g,0,none⟩) len cap) sz ls]:=by kernel_rfl) (ho:Ve ops q T=bs:=by kernel_rfl)
  (hj:js.map (fun z=>(W9 (Xn [j] h))[z]?)=bs.map some:=by kernel_rfl):WK P n ops B T fuel done F h q:=
 Qd [j] js bs hk (WG hp) ho hj (Z1h (h2:=[]) (Vm hk).2.1 ha hone him hml H)
end
theorem Pt (xs:List Y8) (k:Nat) (d:Y8):Yx (xs.set k d)=(Yx xs).set k (TM d):=by simp [Yx,List.map_set]
theorem D4 (xs:List Y8):(Zb (Yx xs)).length=xs.length*5:=by rw [Uq (k:=5) _ (VN xs)];simp
theorem PN {ds:List Y8} {k:Nat} (d:Y8) (hk:k<ds.length):(Zb (Yx ds)).take (k*5)++(TM d).leaves++(Zb (Yx ds)).drop (k*5+5)=Zb (Yx (ds.set k d)):=by
 rw [Pt];exact D7 (y:=TM d) (VN ds) rfl (by simpa using hk)
theorem Pl (xs:List Z3) (k:Nat) (d:Z3):Ys (xs.set k d)=(Ys xs).set k (ZC d):=by
 simp [VY,List.map_set]
theorem BK (xs:List Z3):(Zb (Ys xs)).length=xs.length*2:=by rw [Uq (k:=2) _ (Uz xs)];simp
theorem PK {ds:List Z3} {k:Nat} (d:Z3) (hk:k<ds.length):(Zb (Ys ds)).take (k*2)++(ZC d).leaves++(Zb (Ys ds)).drop (k*2+2)=Zb (Ys (ds.set k d)):=by
 rw [Pl];exact D7 (y:=ZC d) (Uz ds) (by cases d;rfl) (by simpa using hk)
theorem W3.frzN {P:Program} {f:FuncId} {as1:List AV} {h0:List Res} {ds:List Zc} {rs:List Y8} {hs:List Res}
  (H:W3 P f as1 h0 (fun r h=>∃g c:Nat,r=.agg [YL ds,.ms g 0 rs.length c]/\h=.row (.slice (some ⟨g,0,none⟩) rs.length c) 5 (Zb (Yx rs))::hs)) :
  W3 P f as1 h0 (fun r h=>r=.agg [YL ds,TV rs]/\h=hs):=by
 intro w G vs hv hh
 refine (H w G vs hv hh).mono ?_
 rintro e w' ⟨u,r,h',G',he,⟨gb,c,rfl,rfl⟩,hr,hh',hx⟩
 obtain ⟨G2,h1,h2,h3⟩:=Bd hh' (VN _) om
 have hA:WZ G' w' w' G2:=h2.agree hh'
 refine ⟨u,_,hs,G2,he,⟨rfl,rfl⟩,?_,(h1.perm (List.perm_append_comm (l₁:=[_]))).left,(hx.trans h2).sub' (JL _ _)⟩
 cases hr with
 | agg hc=>
  cases hc with
  | cons k1 t1=>
   cases t1 with
   | cons k2 t2=>
    cases t2
    have hv2:=k2.val_inv
    subst hv2
    refine .agg (.cons (k1.mono hA) (.cons ?_ .nil))
    have hw:Zd (.sl (Yx rs) (some (.slice (some ⟨gb,0,none⟩) rs.length c))) (TV rs):=Zd.forget _ _
    exact hw _ _ _ h3
theorem PT (v:Value) (k:Nat) (ls ks:List AV) (b o:Nat):Res.fp (.row v k ks) b o=Res.fp (.vec v ls) b o:=by
 cases v with
 | slice a _ _=>cases a<;>rfl
 | _=>rfl
theorem Z5u {w:World} {G:ZY} {v:Value} {ls:List AV} {h2:List Res} (hh:Yj w G (.vec v ls::h2)):Yj w G (.row v 1 ls::h2)/\YO w G (.vec v ls::h2) w G (.row v 1 ls::h2):=by
 have hpw:=Wa.1 hh.apart
 have hf:∀b o,Res.fp (.row v 1 ls) b o->Res.fp (.vec v ls) b o:=fun b o h=>by rw [PT v 1 ls ls] at h;exact h
 refine ⟨⟨fun r hr=>?_,Wa.2 ⟨fun r hr b o f1 f2=>hpw.1 r hr b o (hf b o f1) f2,hpw.2⟩,fun r hr b o f1 hg=>?_,hh.lt⟩,⟨rfl,rfl,rfl,YQ _,fun _ _ h=>h,fun _ _=>.inl rfl,fun _ _ _ h=>.inl h,fun b o _ ⟨r,hr,f1⟩=>?_⟩⟩
 ·rcases Yq.1 hr with rfl|hr
  ·rcases hh.ok _ (YV ..) with h0|⟨g,cap,cur,e,h0,h1,h3,h4,h5⟩
   ·exact .inl h0
   ·exact .inr ⟨g,ls.length,cap,cur,e,h0,h1,h3,by rw [h4,J7],by rw [J7],by rw [J7];exact h5⟩
  ·exact hh.ok r (Xo _ hr)
 ·rcases Yq.1 hr with rfl|hr
  ·exact hh.prot _ (YV ..) b o (hf b o f1) hg
  ·exact hh.prot r (Xo _ hr) b o f1 hg
 ·rcases Yq.1 hr with rfl|hr
  ·exact ⟨_,YV ..,hf b o f1⟩
  ·exact ⟨r,Xo _ hr,f1⟩
theorem HZ:∀xs:LI,Zb (Z7 xs)=Z7 xs
 | []=>rfl
 | x::r=>Yr (AV.i x::·) (HZ r)
section
variable {h:List Res}
theorem Kd (j:Nat) (v:Hd) (xs:LI) (hp:XU [j] h=some [rV v xs]:=by kernel_rfl):UL h (.row v.v 1 (Zb (Z7 xs))::Xn [j] h):=by
 have e:Zb (Z7 xs)=Z7 xs:=HZ xs
 rw [e]
 intro w G hh
 have hp':=Vo (WG hp)
 obtain ⟨a,b⟩:=Z5u (hh.perm hp')
 exact ⟨G,a,b.perm hp'.symm (T2 _)⟩
end
def KY (bs:LI) (p:Nat) (mx:Int):Int:=
 if mx<1∨bs.length=0 then 0 else if p<bs.length then (bs[p]?).getD 0 % mx else
  J5 ((((bs[p % bs.length]?).getD 0*131+(bs[(p*7+3) % bs.length]?).getD 0*1117)+((p*29:Nat):Int))+(((p / bs.length:Nat):Int)*53))
   (((((bs[p % bs.length]?).getD 0*131+(bs[(p*7+3) % bs.length]?).getD 0*1117)+((p*29:Nat):Int))+(((p / bs.length:Nat):Int)*53)) / 64) % mx
theorem Z1t {bs:LI} {p:Nat} {mx:Int} (h:0<mx):0<=KY bs p mx/\KY bs p mx<mx:=by
 rw [KY]
 split
 ·omega
 ·split
  ·exact ⟨Int.emod_nonneg _ om,Int.emod_lt_of_pos _ h⟩
  ·exact ⟨Int.emod_nonneg _ om,Int.emod_lt_of_pos _ h⟩
theorem PJ {xs:List Z3} {k:Nat} {b:Z3} (h:xs[k]? = some b):Zb (Ys (xs.take k))++Zb [ZC b]=Zb (Ys (xs.take (k+1))):=by
 rw [Vq h,KC,Ta]
 congr 1
 rw [VY];rfl
def BY (s:Z4) (u:Value):List AV:=[.i s.op,.i s.num,.i s.into,Z6 s.args,.val u]
def BL (b:Z3) (k:Nat):Z4:=(b.steps[k]?).getD (Zl 0 0)
theorem D8 {b:Z3} {k:Nat} {s:Z4} (h:b.steps[k]? = some s):BL b k=s:=by rw [BL,h];rfl
def Wj (b:Z3) (kk:Nat) (u:Value) (k:Nat):List AV:=if k<=kk then Zb (Zi (b.steps.take k)) else Zb (Zi (b.steps.take kk))++(BY (BL b kk) u++Zb (Zi ((b.steps.take k).drop (kk+1))))
def U5 (b:Z3) (kk k:Nat):List AV:=if k<=kk then [] else Zb (Ys (BL b kk).kids)
theorem IP {b:Z3} {kk:Nat} {u:Value}:Wj b kk u 0=[]:=by rw [Wj,Zw (Uv _),List.take_zero,WM];rfl
theorem IS {b:Z3} {kk:Nat}:U5 b kk 0=[]:=Zw (Uv _)
theorem FB {b:Z3} {kk k:Nat} {u:Value} (h:k<=b.steps.length):(Wj b kk u k).length=k*5:=by
 rw [Wj]
 split
 ·rw [Tx,Wq,V8 h]
 ·rename_i q
  have e:(BY (BL b kk) u).length=5:=rfl
  rw [Yk,Yk,Tx,Tx,Kh,Wq,Wq,e,V8 h,V8 om]
  omega
theorem IM {b:Z3} {kk k:Nat} {u:Value} {s:Z4} (hs:b.steps[k]? = some s) (hk:¬k=kk):Wj b kk u k++Zb [Yp s]=Wj b kk u (k+1):=by
 have hkl:=(XC.1 hs).1
 by_cases q:k<=kk
 ·rw [Wj,Zw q,Wj,Zw om]
  exact HX hs
 ·rw [Wj,Zr q,Wj,Zr om,VT,VT]
  congr 2
  rw [Vq hs,List.drop_append_of_le_length (by rw [Wq];omega),Wi,Ta]
  congr 1
  rw [WM];rfl
theorem IQ {b:Z3} {kk k:Nat} (hk:¬k=kk):U5 b kk k=U5 b kk (k+1):=by
 by_cases q:k<=kk
 ·rw [U5,Zw q,U5,Zw om]
 ·rw [U5,Zr q,U5,Zr om]
theorem IN {b:Z3} {kk:Nat} {u u2:Value} {s:Z4} (hs:b.steps[kk]? = some s):Wj b kk u kk++BY s u2=Wj b kk u2 (kk+1):=by
 rw [Wj,Zw (YQ _),Wj,Zr om,D8 hs,E9 (by rw [Wq];omega),WM]
 show _=_++(BY s u2++Zb [])
 rw [PQ,T3]
theorem IR {b:Z3} {kk:Nat} {s:Z4} (hs:b.steps[kk]? = some s):Zb (Ys s.kids)=U5 b kk (kk+1):=by
 rw [U5,Zr om,D8 hs]
theorem Mq {α:Type}:∀(A X:List α) (m:Nat) (y:α),(A++X).set (A.length+m) y=A++X.set m y
 | [],X,m,y=>by simp
 | a::r,X,m,y=>by
  have:=Mq r X m y
  rw [TJ,YD,show r.length+1+m=(r.length+m)+1 by omega,List.set_cons_succ,this,TJ]
theorem S9 {α:Type} (A X:List α) (m:Nat):(A++X)[A.length+m]? = X[m]?:=by
 rw [Ea om];congr 1;omega
section
variable {b:Z3} {kk:Nat} {u:Value} {s:Z4}
theorem FA (hs:b.steps[kk]? = some s):Wj b kk u b.steps.length=Zb (Zi (b.steps.take kk))++(BY s u++Zb (Zi (b.steps.drop (kk+1)))):=by
 have hk:=(XC.1 hs).1
 rw [Wj,Zr om,D8 hs,V7]
theorem Fz (hs:b.steps[kk]? = some s):(Zb (Zi (b.steps.take kk))).length=kk*5:=by
 have hk:=(XC.1 hs).1
 rw [Tx,Wq,V8 om]
theorem SZ (hs:b.steps[kk]? = some s):(Wj b kk u b.steps.length)[kk*5+4]? = some (.val u):=by
 rw [FA hs,<-Fz hs,S9];rfl
theorem Do (hs:b.steps[kk]? = some s):((Wj b kk u b.steps.length).drop (kk*5+4)).take 1=[.val u]:=by
 rw [FA hs,<-Fz hs,<-List.drop_drop,List.drop_left];rfl
theorem PP {xs:List Z4} {k:Nat} {t:Z4} (hk:k<xs.length):Zb (Zi (xs.set k t))=Zb (Zi (xs.take k))++(Xg t++Zb (Zi (xs.drop (k+1)))):=by
 rw [CA,Zw hk,Wi,Ta,D5]
theorem Z00 (hs:b.steps[kk]? = some s) (ks:List Z3):(Wj b kk u b.steps.length).set (kk*5+4) (.sl (Ys ks) none)=Zb (Zi (b.steps.set kk ⟨s.op,s.num,s.into,s.args,ks⟩)):=by
 have hk:=(XC.1 hs).1
 rw [FA hs,<-Fz hs,Mq,PP hk];rfl
theorem FC (hs:b.steps[kk]? = some s):U5 b kk b.steps.length=Zb (Ys s.kids):=by
 have hk:=(XC.1 hs).1
 rw [U5,Zr om,D8 hs]
theorem Z01 (hs:b.steps[kk]? = some s):b.steps.set kk ⟨s.op,s.num,s.into,s.args,s.kids⟩=b.steps:=by
 have e:Z4.mk s.op s.num s.into s.args s.kids=s:=by cases s;rfl
 rw [e]
 apply List.ext_getElem?
 intro i
 rw [List.getElem?_set]
 split
 ·rename_i q;subst q;rw [Zw (XC.1 hs).1];exact hs.symm
 ·rfl
end
theorem V0.set:∀(ls:List AV) (p:Nat) {x y:AV},Zd x y->V0 (ls.set p x) (ls.set p y)
 | [],_,_,_,_=>.nil
 | a::r,0,_,_,h=>.cons h (V0.refl r)
 | a::r,p+1,_,_,h=>.cons (Zd.refl a) (V0.set r p h)
theorem V0.len:∀{xs ys:List AV},V0 xs ys->ys.length=xs.length
 | _,_,.nil=>rfl
 | _,_,.cons _ t=>by rw [YD,YD,t.len]
theorem PS (v:Value) (k:Nat) (ls ks:List AV):Res.fp (.row v k ks)=Res.fp (.row v k ls):=by
 cases v with
 | slice a _ _=>cases a<;>rfl
 | _=>rfl
theorem Z2h {w:World} {G:ZY} {v:Value} {k:Nat} {ls ls':List AV} {h2:List Res} (hle:V0 ls ls') (hh:Yj w G (.row v k ls::h2)):Yj w G (.row v k ls'::h2)/\YO w G (.row v k ls::h2) w G (.row v k ls'::h2):=by
 have hpw:=Wa.1 hh.apart
 have hf:∀b o,Res.fp (.row v k ls') b o->Res.fp (.row v k ls) b o:=fun b o h=>by rw [PS v k ls ls'] at h;exact h
 refine ⟨⟨fun r hr=>?_,Wa.2 ⟨fun r hr b o f1 f2=>hpw.1 r hr b o (hf b o f1) f2,hpw.2⟩,fun r hr b o f1 hg=>?_,hh.lt⟩,⟨rfl,rfl,rfl,YQ _,fun _ _ h=>h,fun _ _=>.inl rfl,fun _ _ _ h=>.inl h,fun b o _ ⟨r,hr,f1⟩=>?_⟩⟩
 ·rcases Yq.1 hr with rfl|hr
  ·rcases hh.ok _ (YV ..) with ⟨h0,h1⟩|⟨g,len,cap,cur,e,h0,h1,h3,h4,h5,h6⟩
   ·subst h1;cases hle;exact .inl ⟨h0,rfl⟩
   ·exact .inr ⟨g,len,cap,cur,e,h0,h1,h3,h4,by rw [hle.len];exact h5,hle.cs h6⟩
  ·exact hh.ok r (Xo _ hr)
 ·rcases Yq.1 hr with rfl|hr
  ·exact hh.prot _ (YV ..) b o (hf b o f1) hg
  ·exact hh.prot r (Xo _ hr) b o f1 hg
 ·rcases Yq.1 hr with rfl|hr
  ·exact ⟨_,YV ..,hf b o f1⟩
  ·exact ⟨r,Xo _ hr,f1⟩
section
variable {h:List Res}
theorem N2 (j i:Nat) (b:Z3) (kk:Nat) (s:Z4) (ks:List Z3) (u v:Value) (hs:b.steps[kk]? = some s) (hp:XU [j,i] h=some [.row u 2 (Zb (Ys ks)),.row v 5 (Wj b kk u b.steps.length)]:=by kernel_rfl) :
  UL h (.row v 5 (Zb (Zi (b.steps.set kk ⟨s.op,s.num,s.into,s.args,ks⟩)))::.tail u 2::Xn [j,i] h):=by
 intro w G hh
 obtain ⟨G',a1,a2⟩:=Z52 j i (kk*5+4) hp (Uz ks) om (SZ hs) w G hh
 obtain ⟨b1,b2⟩:=Z2h (V0.set _ (kk*5+4) (Zd.forget (Ys ks) (some u))) a1
 rw [Z00 hs] at b1 b2
 exact ⟨G',b1,a2.trans b2⟩
theorem Gv (j i:Nat) (b:Z3) (kk:Nat) (s:Z4) (u v:Value) (hs:b.steps[kk]? = some s) (hp:XU [j,i] h=some [.row u 2 (U5 b kk b.steps.length),.row v 5 (Wj b kk u b.steps.length)]:=by kernel_rfl) :
  UL h (.row v 5 (Zb (Zi b.steps))::.tail u 2::Xn [j,i] h):=by
 have Yc:XU [j,i] h=some [.row u 2 (Zb (Ys s.kids)),.row v 5 (Wj b kk u b.steps.length)]:=by rw [hp,FC hs]
 have:=N2 j i b kk s s.kids u v hs Yc
 rwa [Z01 hs] at this
end
theorem HW {xs:List Z4} {k:Nat} (hk:k<xs.length):(Zb (Zi xs)).take (k*5)++(Zb (Zi xs)).drop ((k+1)*5)=Zb (Zi (xs.take k++xs.drop (k+1))):=by
 have h1:(Zb (Zi (xs.take k))).length=k*5:=by rw [Tx,Wq,V8 om]
 have h2:(Zb (Zi (xs.take (k+1)))).length=(k+1)*5:=by rw [Tx,Wq,V8 om]
 have e1:Zb (Zi xs)=Zb (Zi (xs.take k))++Zb (Zi (xs.drop k)):=by rw [<-Ta,<-Wi,Un]
 have e2:Zb (Zi xs)=Zb (Zi (xs.take (k+1)))++Zb (Zi (xs.drop (k+1))):=by rw [<-Ta,<-Wi,Un]
 rw [Wi,Ta]
 congr 1
 ·rw [e1,<-h1,Kk]
 ·conv=>lhs;rw [e2,<-h2,List.drop_left]
theorem PI {xs:List Z3} {i:Nat} {s:Z3} (h:xs[i]? = some s):((Zb (Ys xs)).drop (i*2)).take 2=YK s:=by
 have hi:=(XC.1 h).1
 have h1:(Zb (Ys (xs.take i))).length=i*2:=by rw [BK,Wq,V8 om]
 have e1:Zb (Ys xs)=Zb (Ys (xs.take i))++Zb (Ys (xs.drop i)):=by rw [<-Ta,<-KC,Un]
 rw [e1,<-h1,List.drop_left,Yn h,VY,Ue]
 rfl
section
variable {rs:List Y8} {k:Nat} {r:Y8}
theorem F8 (hk:k<rs.length) (r:Y8):Zb (Yx (rs.set k r))=Zb (Yx (rs.take k))++((TM r).leaves++Zb (Yx (rs.drop (k+1)))):=by
 rw [CA,Zw hk,A1,Ta];rfl
theorem HV (hk:k<rs.length):(Zb (Yx (rs.take k))).length=k*5:=by rw [D4,Wq,V8 om]
theorem PM (hk:k<rs.length) (r:Y8):((Zb (Yx (rs.set k r))).drop (k*5+1)).take 1=[Z6 r.lent]:=by
 rw [F8 hk,<-HV hk,<-List.drop_drop,List.drop_left];rfl
theorem PO (hk:k<rs.length) (r:Y8) (l:LI):(Zb (Yx (rs.set k r))).take (k*5+1)++[Z6 l]++(Zb (Yx (rs.set k r))).drop (k*5+1+1)=Zb (Yx (rs.set k ⟨r.params,l,r.result,r.body⟩)):=by
 have hl:=HV hk
 rw [F8 hk,F8 hk]
 have e:(TM r).leaves=[Z6 r.params]++([Z6 r.lent]++[.i r.result,.sl (Zi r.body.steps) none,.i r.body.result]):=rfl
 have e2:(TM ⟨r.params,l,r.result,r.body⟩).leaves=[Z6 r.params]++([Z6 l]++[.i r.result,.sl (Zi r.body.steps) none,.i r.body.result]):=rfl
 rw [e,e2]
 have q:=G7 (A:=Zb (Yx (rs.take k))++[Z6 r.params]) (xs:=[Z6 r.lent]) (ys:=[Z6 l]) (B:=[.i r.result,.sl (Zi r.body.steps) none,.i r.body.result]++Zb (Yx (rs.drop (k+1)))) (o:=k*5+1) (by rw [Yk,hl];rfl) rfl
 simpa [VT] using q
end
end Go.Abs
section
namespace Go.Abs
theorem VC {rs fs:List Func} (hp:fs <+: rs) {i:Nat} {f:Func} (hx:fs[i]? = some f) (c:Nat) {zs:List AV} (hz:((Dp f).drop c).take zs.length=zs) (hl:c+zs.length<=5):((Zb (X3 rs)).drop (i*5+c)).take zs.length=zs:=by
 obtain ⟨ys,rfl⟩:=hp
 have h1:(fs++ys)[i]? = some f:=by rw [Cu (XC.1 hx).1];exact hx
 have e1:=(Un i (fs++ys)).symm
 rw [Yn h1] at e1
 have hl2:(Zb (X3 ((fs++ys).take i))).length=i*5:=by
  rw [Uq (k:=5) _ (CV _),AP,Wq,V8 (by have:=(XC.1 h1).1;omega)]
 have e2:Zb (X3 (fs++ys))=Zb (X3 ((fs++ys).take i))++(Dp f++Zb (X3 ((fs++ys).drop (i+1)))):=by
  conv=>lhs;rw [e1]
  simp only [X3,Zb,List.map_append,Ue,List.flatMap_append,JJ]
  rfl
 rw [e2,List.drop_append,List.drop_of_length_le om,Ki,hl2,Nat.add_sub_cancel_left,List.drop_append_of_le_length (by show c<=5;omega),List.take_append_of_le_length (by rw [Kh];show zs.length<=5-c;omega)]
 exact hz
theorem F7 (rs:List Func):(Zb (X3 rs)).length=rs.length*5:=by rw [Uq (k:=5) _ (CV _),AP]
end Go.Abs
namespace Go.Abs
abbrev XW (g:XI) (gb:Nat):List AV:=[YL g.decls,.ms gb 0 g.funcs.length 4]
abbrev Xq (gb:Nat) (rs:List Func):Res:=.row (.slice (some ⟨gb,0,none⟩) 4 4) 5 (Zb (X3 rs))
abbrev Yb (rd:Nat) (bs:LI) (p:Nat):Res:=.obj rd [Vd bs,.i p]

end Go.Abs
end
namespace Go.Abs
theorem Z2j {w:World} {G:ZY} {g len cap k m:Nat} {ls:List AV} {h2:List Res} (hh:Yj w G (.row (.slice (some ⟨g,0,none⟩) len cap) k ls::h2)) (hle:m<=len) :
  Yj w G (.row (.slice (some ⟨g,0,none⟩) m cap) k (ls.take (m*k))::h2)/\YO w G (.row (.slice (some ⟨g,0,none⟩) len cap) k ls::h2) w G (.row (.slice (some ⟨g,0,none⟩) m cap) k (ls.take (m*k))::h2):=by
 have hpw:=Wa.1 hh.apart
 have hfp:∀b o,Res.fp (.row (.slice (some ⟨g,0,none⟩) m cap) k (ls.take (m*k))) b o->Res.fp (.row (.slice (some ⟨g,0,none⟩) len cap) k ls) b o:=fun b o hf=>hf
 refine ⟨⟨fun r hr=>?_,Wa.2 ⟨fun r hr b o h1 h2=>hpw.1 r hr b o (hfp b o h1) h2,hpw.2⟩,fun r hr b o hf hg=>?_,hh.lt⟩,⟨rfl,rfl,rfl,YQ _,fun _ _ h=>h,fun _ _=>.inl rfl,fun _ _ _ h=>.inl h,fun b o _ hf=>?_⟩⟩
 ·rcases Yq.1 hr with rfl|hr
  ·rcases hh.ok _ (YV ..) with ⟨h0,_⟩|⟨g',len',cap',cur,e,hv,h1,h3,h4,h5,h6⟩
   ·cases h0
   ·cases hv
    have hmk:m*k<=len*k:=Tq k hle
    refine .inr ⟨g,m,cap,cur,e,rfl,h1,by omega,h4,by rw [Wq,h5];omega,?_⟩
    have:=h6.take (m*k)
    rw [List.take_take,V8 hmk] at this
    exact this
  ·exact hh.ok r (Xo _ hr)
 ·rcases Yq.1 hr with rfl|hr
  ·exact hh.prot _ (YV ..) b o (hfp b o hf) hg
  ·exact hh.prot r (Xo _ hr) b o hf hg
 ·obtain ⟨r,hr,hf⟩:=hf
  rcases Yq.1 hr with rfl|hr
  ·exact ⟨_,YV ..,hfp b o hf⟩
  ·exact ⟨r,Xo _ hr,hf⟩
theorem PL {rs:List Func} {k:Nat} (f:Func) (hk:k<rs.length):(Zb (X3 rs)).take (k*5)++Dp f++(Zb (X3 rs)).drop (k*5+5)=Zb (X3 (rs.set k f)):=by
 rw [show X3 (rs.set k f)=(X3 rs).set k (Bw f) by simp [X3,List.map_set]]
 exact D7 (y:=Bw f) (CV rs) rfl (by simpa using hk)
theorem W3.frzP {P:Program} {f:FuncId} {as1:List AV} {h0:List Res} {E:Type} {ds:E->List Zc} {rs:E->List Func} {m:E->Nat} {hs:E->List Res} {Q:E->Prop}
  (H:W3 P f as1 h0 (fun r h=>∃(e:E) (gb:Nat),r=.agg [YL (ds e),.ms gb 0 (m e) 4]/\h=.row (.slice (some ⟨gb,0,none⟩) 4 4) 5 (Zb (X3 (rs e)))::hs e/\Q e)) (hm:∀e,Q e->m e<=4/\(rs e).length=4) :
  W3 P f as1 h0 (fun r h=>∃e:E,r=.agg [YL (ds e),Dw ((rs e).take (m e))]/\h=hs e/\Q e):=by
 intro w G vs hv hh
 refine (H w G vs hv hh).mono ?_
 rintro e w' ⟨u,r,h',G',he,⟨x,gb,rfl,rfl,hq⟩,hr,hh',hx⟩
 obtain ⟨hm4,hr4⟩:=hm x hq
 obtain ⟨j1,j2⟩:=Z2j hh' hm4
 have hft:(Zb (X3 (rs x))).take (m x*5)=Zb (X3 ((rs x).take (m x))):=by
  have e1:rs x=(rs x).take (m x)++(rs x).drop (m x):=(Un _ _).symm
  have e2:Zb (X3 (rs x))=Zb (X3 ((rs x).take (m x)))++Zb (X3 ((rs x).drop (m x))):=by
   conv=>lhs;rw [e1]
   rw [Pr,Ta]
  rw [e2,List.take_append_of_le_length (by rw [F7,Wq,show min (m x) (rs x).length=m x by omega];exact YQ _),WS (by rw [F7,Wq];exact Tq 5 (Nat.min_le_left _ _))]
 rw [hft] at j1 j2
 obtain ⟨G2,h1,h2,h3⟩:=Bd j1 (CV _) om
 have hA:WZ G' w' w' G2:=h2.agree j1
 refine ⟨u,_,hs x,G2,he,⟨x,rfl,rfl,hq⟩,?_,(h1.perm (List.perm_append_comm (l₁:=[_]))).left,((hx.trans j2).trans h2).sub' (JL _ _)⟩
 cases hr with
 | agg hc=>
  cases hc with
  | cons k1 t1=>
   cases t1 with
   | cons k2 t2=>
    cases t2
    have hv2:=k2.val_inv
    subst hv2
    refine .agg (.cons (k1.mono hA) (.cons ?_ .nil))
    have hw:Zd (.sl (X3 ((rs x).take (m x))) (some (.slice (some ⟨gb,0,none⟩) (m x) 4))) (Dw ((rs x).take (m x))):=Zd.forget _ _
    exact hw _ _ _ h3
open Go.Proofs
abbrev Zf:=@W3 Tryz.prog
theorem Z11 {xs:LI} {k:Nat} {n x:Int} (h:n∉xs.take k) (hx:xs[k]? = some x) (hn:¬x=n):n∉xs.take (k+1):=by
 rw [List.take_add_one,hx]
 simp only [Option.toList_some,X2,Xx]
 exact fun q=>q.elim h fun q=>hn q.symm
theorem Z0x {xs:LI} {k:Nat} {n x:Int} (hx:xs[k]? = some x) (hn:x=n):n∈xs:=hn▸ZW hx
theorem U9 (n:Int) (low:Int) (high:Int) :Zf 84 [.i n,.i low,.i high] [] (fun r h=>r=.b (decide (low<=n/\n<=high))/\h=[]):=by
 refine ZD 15 Tryz.func84 (Y9 (ar (Vc 8 [] [(14,.b ((decide (low<=n))&&(decide (n<=high))))] (fun gz=>gz) ?_ (fun hj1=>?_))))
 ·exact Zt (Y4 (.b ((decide (low<=n))&&(decide (n<=high)))) (lb (by rw [Xl];simp)))
 refine Z2 4 (ib (b:=(decide (low<=n))) 10 (fun Ze=>?_) (fun Ze=>?_))
 ·have ZX:low<=n:=(dq).1 Ze
  exact Z2 4 (Xy (wk [] (ZP (decide (n<=high)) Ze fl)) hj1)
 have Yc:¬(low<=n):=YT dq Ze
 exact Z2 4 (Xy (wk [] (ZP false Ze fl)) hj1)
theorem VI (xs:LI) (n:Int) (hlen:xs.length<=4294967296:=by exact ob):Zf 132 [Z6 xs,.i n] [] (Yu (.b (decide (n∈xs)))):=by
 refine ZD 18 Tryz.func132 (Y9 (Y0 (ab 0 (Y1 (fun fz gz m F h=>∃(k:Nat),(k<=xs.length)/\(n∉xs.take k)/\F=sF [0,1] fz [(5,.i k)]/\h=gz/\m=xs.length-k) _ _ _ ⟨0,ob,ob,rfl,rfl,rfl⟩ (wk [] (Yd fl)) ?_))))
 rintro m F h ⟨k,Yf,Zj,rfl,rfl,rfl⟩
 refine X1 2 (iw (Ye xs) (ZQ ((k:Int)<(xs.length:Int)) (fun Z9=>?_) (fun Z9=>?_)))
 ·refine ak (aq (ab 1 (Yg 2 ?_)))
  obtain ⟨x1,Z5⟩:=Zq xs k om
  refine Zm (Zh none (k:Int) 1 (ZZ Z5)) (YR (x1==n) ZB (fun Zg=>?_) (fun Zg=>?_))
  ·exact ar (Zt (Y4 (.b true) (lb (by rw [eq_comm,dq];exact Z0x Z5 Zg))))
  exact ak (az (Z2 1 (ZF k (Z1 (ZI ⟨k+1,ob,(Z11 Zj Z5 Zg),rfl,rfl,rfl⟩ (wk [] (ZL k fl)))))))
 refine ax 0 (Y9 ?_)
 have hke:k=xs.length:=by omega
 exact ZJ (Y4 (.b false) (lb (by rw [eq_comm,decide_eq_false_iff_not];rw [hke,V7] at Zj;exact Zj)))
theorem Vp (xs:LI) (hlen:xs.length<=4294967296:=by exact ob):Zf 82 [Z6 xs] [] (fun r h=>∃(v:Value),r=ZO xs v/\h=[.tail v 1]):=by
 exact ZD 6 Tryz.func82 (Y9 (ar (iL (Z7 []) 0 1 fun v1=>Z2 1 (ip 0 (Z7 xs) (Z7 []) (Z7 xs) v1 none 1 (Yw _) (Yw _) (XT _) (by simp<;>omega) (by simp [Z7]) fun v2=>Zt (r1 [0] ⟨v2,rfl,rfl⟩)))))
theorem Gk (ds:List Zc) (n:Nat) (hd:Wg ds:=by exact ob) (hn:n<=ds.length:=by exact ob):Zf 249 [YL ds,.i n] [] (Yu (.i ((Xf (ds.take n):Nat):Int))):=by
 refine ZD 21 Tryz.func249 (Y9 (Y9 (Y0 (ab 0 (Y1 (fun fz gz m F h=>∃(k:Nat),(k<=n)/\F=sF [0,1] fz [(5,.i ((Xf (ds.take k):Nat):Int)),(6,.i k)]/\h=gz/\m=n-k) _ _ _ ⟨0,ob,rfl,rfl,rfl⟩ (wk [] (Yd (Yd fl))) ?_)))))
 rintro m F h ⟨k,Yf,rfl,rfl,rfl⟩
 refine Xd (ZQ ((k:Int)<(n:Int)) (fun Z9=>?_) (fun Z9=>?_))
 ·refine ak (aq (ab 1 (az (Z2 3 ?_))))
  obtain ⟨x1,Z5⟩:=Zq ds k om
  refine Zm (Zh none (k:Int) 3 (VZ Z5)) (Z2 2 (iw (QV x1.cons) (ia ((((Xf (ds.take k))+x1.cons.length:Nat):Int)) ((((Xf (ds.take k):Nat):Int))+((x1.cons.length:Int))) (hb:=(by have h1:=hd.cons_at Z5;have h2:=(hd.take k).sum;omega)) (Z1 (az (Z2 1 (ZF k (hb:=(by have:=hd.len;omega)) (Z1 ?_))))))))
  have hsn:Xf (ds.take (k+1))=Xf (ds.take k)+x1.cons.length:=by rw [Vq Z5,Hq];simp [Xf]
  exact ZI ⟨k+1,ob,rfl,rfl,rfl⟩ (wk [] (fc (x:=.i (((Xf (ds.take k))+x1.cons.length:Nat):Int)) li (ZL k fl)))
 refine ax 0 (Y9 ?_)
 have hke:k=n:=by omega
 subst hke
 exact ZJ (Y4 (.i ((Xf (ds.take k):Nat):Int)) li)
theorem Gj (ds:List Zc) (c:Int) (hd:Wg ds:=by exact ob):Zf 213 [YL ds,.i c] [] (Yu (.i (Vb ds c))):=by
 refine ZD 30 Tryz.func213 (Y9 (Y0 (ab 0 (Y1 (fun fz gz m F h=>∃(k:Nat),(k<=ds.length)/\((Ku c (ds.drop k) k (Xf (ds.take k))).1=Vb ds c)/\F=sF [0,1] fz [(5,.i k)]/\h=gz/\m=ds.length-k) _ _ _ ⟨0,ob,(by rfl),rfl,rfl,rfl⟩ (wk [] (Yd fl)) ?_))))
 rintro m F h ⟨k,Yf,Zj,rfl,rfl,rfl⟩
 refine X1 2 (iw (Tu ds) (ZQ ((k:Int)<(ds.length:Int)) (fun Z9=>?_) (fun Z9=>?_)))
 ·refine ak (aq (ab 1 (Yg 2 (Zv [] (Gk ds k) (Z1 (Yg 5 ?_))))))
  obtain ⟨x1,Z5⟩:=Zq ds k om
  refine Zm (Zh none (k:Int) 3 (VZ Z5)) (Z2 2 (iw (QV x1.cons) (ia ((((Xf (ds.take k))+x1.cons.length:Nat):Int)) ((((Xf (ds.take k):Nat):Int))+((x1.cons.length:Int))) (hb:=(by have h1:=hd.cons_at Z5;have h2:=(hd.take k).sum;omega)) (ia (((((Xf (ds.take k))+x1.cons.length:Nat):Int)-1)) (((((Xf (ds.take k))+x1.cons.length:Nat):Int))-(1)) (hb:=(by have h1:=hd.cons_at Z5;have h2:=(hd.take k).sum;omega)) (Zv [] (U9 c ((Xf (ds.take k):Nat):Int) ((((Xf (ds.take k))+x1.cons.length:Nat):Int)-1)) (ie (VJ (((Xf (ds.take k):Nat):Int)<=c/\c<=((((Xf (ds.take k))+x1.cons.length:Nat):Int)-1)) (fun Zg=>?_) (fun Zg=>?_))))))))
  ·exact Yg 1 (ZF k (hb:=(by have h2:=hd.len;omega)) (Zt (Y4 (.i (k+1:Nat)) (li (by rw [<-Zj,Yn Z5,Ku,Zw Zg];rfl)))))
  refine ak (az (Z2 1 (ZF k (hb:=(by have h2:=hd.len;omega)) (Z1 ?_))))
  have hdr:=Yn Z5
  exact ZI ⟨k+1,ob,(by rw [hdr] at Zj;rw [<-Zj,Ku,Zr Zg,Vq Z5,Hq];rfl),rfl,rfl,rfl⟩ (wk [] (ZL k fl))
 exact ax 0 (ar (Zt (Y4 (.i (-1)) (li (by rw [<-Zj,Xz om];rfl)))))
theorem TX (ds:List Zc) (c:Int) (hd:Wg ds:=by exact ob):Zf 197 [YL ds,.i c] [] (Yu (Z6 (Y5 ds c))):=by
 refine ZD 27 Tryz.func197 (Y9 (Yg 2 (Zv [] (Gj ds c) (Z1 (Xd (ZQ ((Vb ds c)<1) (fun Z9=>?_) (fun Z9=>?_)))))))
 ·exact ar (iL (Z7 []) 0 1 fun v1=>Zt (Y4 (ZO [] v1) (Zd.sl _ (Yr Z7 (by rw [(Hr Z9).1])))))
 obtain ⟨k,d,x,hk1,hk2,hk3,hk4,hk5⟩:=Hs Z9
 have hkl:=(XC.1 hk1).1
 have hxl:=(XC.1 hk3).1
 have hsm:=(hd.take k).sum
 have hdl:=hd.cons_at hk1
 have hdn:=hd.len
 refine ak (aD 16 (Zk 14 16 [0,1] (da 2 ((k:Int)) ((Vb ds c)-(1)) (hb:=(by have:=hd.len;omega)) ?_)))
 obtain ⟨x1,Z5⟩:=Zq ds k om
 have hxe:x1=d:=by rw [hk1] at Z5;exact (Ax Z5).symm
 subst hxe
 refine dx 3 (Zh none (k:Int) 3 (VZ Z5)) (Zk 7 12 [4,5,6,7,8] (da 9 ((k:Int)) ((Vb ds c)-(1)) (hb:=(by have:=hd.len;omega)) (Z8 10 (Yo 10 [] [] [] (Gk ds k) (da 11 ((c-((Xf (ds.take k):Nat):Int))) ((c)-(((Xf (ds.take k):Nat):Int))) ?_)))))
 obtain ⟨x2,Zu⟩:=Zq x1.cons ((c-((Xf (ds.take k):Nat):Int)).toNat) om
 have hxe:x2=x:=by rw [show (c - ↑(Xf (ds.take k))).toNat=(c-Xf (ds.take k)).toNat from rfl,hk3] at Zu;exact (Ax Zu).symm
 subst hxe
 exact dx 12 (Zh none (c-((Xf (ds.take k):Nat):Int)) 1 (CS Zu)) (Zk 0 3 [13,14,15] (de (ZJ (Y4 (Z6 x2.fields) (Zd.sl _ (Yr Z7 hk5.symm))))))
theorem K9 (ds:List Zc) (t:Int) (hd:Wg ds:=by exact ob):Zf 196 [YL ds,.i t] [] (fun r h=>∃(v:Value),r=ZO (Y2 ds t) v/\h=[.tail v 1]):=by
 have hdn:=hd.len
 refine ZD 35 Tryz.func196 (Y9 (ar (iL (Z7 []) 0 1 fun v1=>Z1 (X1 2 (iw (Tu ds) (Zv [] (U9 t 1 (ds.length:Int)) (YR (!(decide (1<=t/\t<=(ds.length:Int)))) (p:=¬(1<=t/\t<=(ds.length:Int))) (Xi dq) (fun Z9=>?_) (fun Z9=>?_))))))))
 ·exact ar (Zt (r2 [0] [ZO [] v1] ⟨v1,rfl,rfl⟩ (Zd.slh _ (Yr Z7 (by simp [Y2];omega)))))
 have Z9:1<=t/\t<=ds.length:=by simpa using Z9
 obtain ⟨d,hd1⟩:=Zq ds ((t-1).toNat) om
 have hdc:=hd.cons_at hd1
 have hsm:=(hd.take (t-1).toNat).sum
 refine ak (Y0 (ab 0 (Y1 (fun fz gz m F h=>∃(k:Nat) (v:Value),(k<=d.cons.length)/\F=sF [0,1] fz [(5,ZO (VE (Xf (ds.take (t-1).toNat)) k) v),(6,.i k)]/\h=[.tail v 1]/\m=d.cons.length-k) _ _ _ ⟨0,v1,(by first|omega|rfl|(simp<;>omega)|grind [Y2,VE]),rfl,rfl,rfl⟩ (wk [0] (fc (x:=ZO [] v1) (Zd.slh _ (Yr Z7 (by first|omega|rfl|(simp<;>omega)|grind [Y2,VE]))) (fc (x:=.i 0) (li (by first|omega|rfl|(simp<;>omega)|grind [Y2,VE])) fl))) ?_)))
 rintro m F h ⟨k,v,Yf,rfl,rfl,rfl⟩
 refine X1 3 (ia ((((t-1).toNat:Nat):Int)) ((t)-(1)) (Zm (Zh none (((t-1).toNat:Nat):Int) 3 (VZ hd1)) (Z2 2 (iw (QV d.cons) (ZQ ((k:Int)<(d.cons.length:Int)) (fun Zg=>?_) (fun Zg=>?_))))))
 ·exact ak (aq (ab 1 (az (Z2 3 (ia ((((t-1).toNat:Nat):Int)) ((t)-(1)) (Zv [] (Gk ds ((t-1).toNat) (hd:=(by first|omega|rfl|(simp<;>omega)|grind [Y2,VE])) (hn:=(by first|omega|rfl|(simp<;>omega)|grind [Y2,VE]))) (Z2 1 (ia ((((Xf (ds.take ((t-1).toNat)))+k:Nat):Int)) ((((Xf (ds.take ((t-1).toNat)):Nat):Int))+((k:Int))) (iL (Z7 [(((Xf (ds.take ((t-1).toNat)))+k:Nat):Int)]) 1 1 fun v2=>ZE 0 [(32,Z6 [(((Xf (ds.take ((t-1).toNat)))+k:Nat):Int)])] (ip 1 (Z7 (VE (Xf (ds.take (t-1).toNat)) k++[(((Xf (ds.take ((t-1).toNat)))+k:Nat):Int)])) (Z7 (VE (Xf (ds.take (t-1).toNat)) k)) (Z7 [(((Xf (ds.take ((t-1).toNat)))+k:Nat):Int)]) v none 1 (Yw _) (Yw _) (XT _) (by simp<;>omega) (by simp [XQ,Z7]) fun v3=>Z1 (az (Z2 1 (ZF k (Z1 (⟨_,_,_,(by first|omega|rfl|(simp<;>omega)|grind [Y2,VE]),⟨k+1,v3,(by first|omega|rfl|(simp<;>omega)|grind [Y2,VE]),rfl,rfl,rfl⟩,(wk [0] (fc (x:=ZO (VE (Xf (ds.take (t-1).toNat)) k++[(((Xf (ds.take ((t-1).toNat)))+k:Nat):Int)]) v3) (Zd.slh _ (Yr Z7 (Z16 _ _).symm)) (fc (x:=.i (k+1:Nat)) (li (by first|omega|rfl|(simp<;>omega)|grind [Y2,VE])) fl)))⟩)))))))))))))))
 exact ax 0 (ar (Zt (r2 [0] [ZO (VE (Xf (ds.take (t-1).toNat)) k) v] ⟨v,rfl,rfl⟩ (Zd.slh _ (Yr Z7 (by rw [Y2,Zw Z9,hd1,show k=d.cons.length by omega];rfl))))))
theorem ME (ds:List Zc) (frm:Int) (to_:Int) (hl_ds:ds.length<=4294967296:=by exact ob):Zf 265 [YL ds,.i frm,.i to_] [] (Yu (.i (QN ds frm to_))):=by
 refine ZD 41 Tryz.func265 (Y9 (Y0 (ab 0 (Y1 (fun fz gz m F h=>∃(k:Nat),(k<=ds.length)/\(AC frm to_ (ds.drop k) k=QN ds frm to_)/\F=sF [0,1,2] fz [(7,.i k)]/\h=gz/\m=ds.length-k) _ _ _ ⟨0,ob,ob,rfl,rfl,rfl⟩ (wk [] (Yd fl)) ?_))))
 rintro m F h ⟨k,Yf,Zj,rfl,rfl,rfl⟩
 refine X1 2 (iw (Tu ds) (ZQ ((k:Int)<(ds.length:Int)) (fun Z9=>?_) (fun Z9=>?_)))
 ·refine ak (aq (ab 1 (Yg 2 ?_)))
  obtain ⟨x1,Z5⟩:=Zq ds k om
  refine Zm (Zh none (k:Int) 3 (VZ Z5)) (Z2 2 (iw (QV x1.cons) (Vc 16 [0,1,2,7] [(29,.b (((x1.cons.length:Int)==0)&&(x1.frm==frm)))] (fun gz=>gz) ?_ (fun hj1=>?_))))
  ·refine XN [0,1,2,7] [(38,.b ((((x1.cons.length:Int)==0)&&(x1.frm==frm))&&(x1.to_==to_)))] (fun gz=>gz) ?_ ?_
   ·refine Z2 1 (ib (b:=(((x1.cons.length:Int)==0)&&(x1.frm==frm))) 30 (fun Ze=>?_) (fun Ze=>?_))
    ·have ZX:((x1.cons.length:Int)=0)/\(x1.frm=frm):=((Xr ZB ZB)).1 Ze
     exact Z2 2 (Zm (Zh none (k:Int) 3 (VZ Z5)) (Z1 (wk [] (ZP (x1.to_==to_) Ze fl))))
    have Yc:¬(((x1.cons.length:Int)=0)/\(x1.frm=frm)):=YT (Xr ZB ZB) Ze
    exact Z1 (wk [] (ZP false Ze fl))
   refine ac ((((x1.cons.length:Int)==0)&&(x1.frm==frm))&&(x1.to_==to_)) (p:=(((x1.cons.length:Int)=0)/\(x1.frm=frm))/\(x1.to_=to_)) (Xr (Xr ZB ZB) ZB) (fun Zg=>?_) (fun Zg=>?_)
   ·refine Yg 1 (ZF k (Z1 ?_))
    rw [Yn Z5] at Zj
    exact ZJ (Y4 (.i (k+1:Nat)) (li (by clear Z5;first|rfl|omega|grind [AC])))
   refine ak (az (Z2 1 (ZF k (Z1 ?_))))
   have hdr:=Yn Z5
   exact ZI ⟨k+1,ob,(by rw [hdr] at Zj;clear hdr Z5;grind [AC]),rfl,rfl,rfl⟩ (wk [] (ZL k fl))
  refine Z2 2 (ib (b:=((x1.cons.length:Int)==0)) 21 (fun ZU=>?_) (fun ZU=>?_))
  ·have YM:(x1.cons.length:Int)=0:=(ZB).1 ZU
   exact Z2 2 (Zm (Zh none (k:Int) 3 (VZ Z5)) (Z2 5 (Xy (wk [] (ZP (x1.frm==frm) ZU fl)) hj1)))
  have YZ:¬((x1.cons.length:Int)=0):=YT ZB ZU
  exact Z2 8 (Xy (wk [] (ZP false ZU fl)) hj1)
 refine ax 0 (Y9 ?_)
 try rw [Xz (xs:=ds) (k:=k) om] at Zj
 exact ZJ (Y4 (.i (-1)) (li (by first|rfl|omega|grind [AC])))
theorem Ci (ds:List Zc) (t:Int) (hd:Wg ds:=by exact ob):Zf 216 [YL ds,.i t] [] (Yu (.b (WW ds t))):=by
 have hdn:=hd.len
 refine ZD 19 Tryz.func216 (Y9 (Yg 2 (iw (Tu ds) (Zv [] (U9 t 1 (ds.length:Int)) (Z2 1 (ib (b:=(decide (1<=t/\t<=(ds.length:Int)))) 9 (fun Ze=>?_) (fun Ze=>?_)))))))
 ·have ZX:1<=t/\t<=(ds.length:Int):=(dq).1 Ze
  refine Z2 2 (ia ((t-1)) ((t)-(1)) ?_)
  obtain ⟨x1,Z5⟩:=Zq ds ((t-1).toNat) om
  exact Zm (Zh none (t-1) 3 (VZ Z5)) (Z2 2 (iw (QV x1.cons) (Zt (Y4 (.b ((x1.cons.length:Int)==0)) (lb (by first|omega|rfl|(rw [II ZX Z5])|exact IH Yc))))))
 have Yc:¬(1<=t/\t<=(ds.length:Int)):=YT dq Ze
 exact Zt (Y4 (.b false) (lb (by first|omega|rfl|(rw [II ZX Z5])|exact IH Yc)))
theorem TG (xs:LI) (ys:LI) (hl:xs.length+ys.length<=4294967296:=by exact ob):Zf 264 [Z6 xs,Z6 ys] [] (fun r h=>∃(v:Value),r=ZO (xs++ys) v/\h=[.tail v 1]):=by
 refine ZD 9 Tryz.func264 (Y9 (Yg 1 (ic [] (Vp xs) ?_)))
 rintro _ _ ⟨v1,rfl,rfl⟩
 exact Z2 1 (ip 0 (Z7 (xs++ys)) (Z7 xs) (Z7 ys) v1 none 1 (Yw _) (Yw _) (XT _) (by simp<;>omega) (by simp [XQ,Z7]) fun v2=>Zt (r1 [0] ⟨v2,rfl,rfl⟩))
theorem MC (ds:List Zc) (xs:LI) (hl_ds:ds.length<=4294967296:=by exact ob) (hl_xs:xs.length<=4294967296:=by exact ob):Zf 223 [YL ds,Z6 xs] [] (Yu (.b (VW ds.length xs))):=by
 refine ZD 20 Tryz.func223 (Y9 (Y0 (ab 0 (Y1 (fun fz gz m F h=>∃(k:Nat),(k<=xs.length)/\(VW ds.length (xs.drop k)=VW ds.length xs)/\F=sF [0,1] fz [(5,.i k)]/\h=gz/\m=xs.length-k) _ _ _ ⟨0,ob,ob,rfl,rfl,rfl⟩ (wk [] (Yd fl)) ?_))))
 rintro m F h ⟨k,Yf,Zj,rfl,rfl,rfl⟩
 refine X1 2 (iw (Ye xs) (ZQ ((k:Int)<(xs.length:Int)) (fun Z9=>?_) (fun Z9=>?_)))
 ·refine ak (aq (ab 1 (Yg 2 ?_)))
  obtain ⟨x1,Z5⟩:=Zq xs k om
  refine Zm (Zh none (k:Int) 1 (ZZ Z5)) (Z2 2 (iw (Tu ds) (Zv [] (U9 x1 0 (ds.length:Int)) (YR (!(decide (0<=x1/\x1<=(ds.length:Int)))) (p:=¬(0<=x1/\x1<=(ds.length:Int))) (Xi dq) (fun Zg=>?_) (fun Zg=>?_)))))
  ·refine Y9 ?_
   rw [Yn Z5] at Zj
   exact ZJ (Y4 (.b false) (lb (by clear Z5;first|rfl|omega|grind [VW])))
  refine ak (az (Z2 1 (ZF k (Z1 ?_))))
  have hdr:=Yn Z5
  exact ZI ⟨k+1,ob,(by rw [hdr] at Zj;clear hdr Z5;grind [VW]),rfl,rfl,rfl⟩ (wk [] (ZL k fl))
 refine ax 0 (Y9 ?_)
 try rw [Xz (xs:=xs) (k:=k) om] at Zj
 exact ZJ (Y4 (.b true) (lb (by first|rfl|omega|grind [VW])))
end Go.Abs
