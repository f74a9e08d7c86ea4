/-
  A part of the proofs of several laws (see the last file): no condition.
-/
import Derived.Test.YtamhpednblociaaGreatYcA
import Derived.Test.YtamhpednblociaaGreatRows
import Derived.Deep.Slices
import Derived.ChangeArms
set_option linter.all false
set_option linter.unusedVariables false
set_option linter.unusedSimpArgs false
set_option linter.unusedSectionVars false
set_option maxRecDepth 10000
set_option maxHeartbeats 4000000
section
namespace Go.Abs
theorem YI.rgrow {w:World} {G:Yk} {h2:List Res} {g len len' cap k:Nat} {ls ls':List AV} (hh:YI w G (.row (.slice (some ⟨g,0,none⟩) len cap) k ls::h2)) {cs cs':Array Value} {e:TypeId}
  (hb:w.heap[g]? = some (.cells cs e (0,0))) (Xx:cs'.size=cs.size) (hle:len'<=cap) (hcap:cs.size=cap*k) (hl:ls'.length=len'*k) (hls:YV w G ls' (cs'.toList.take (len'*k))) :
  YI (w.setRow g cs') G (.row (.slice (some ⟨g,0,none⟩) len' cap) k ls'::h2) /\
   X3 w G (.row (.slice (some ⟨g,0,none⟩) len cap) k ls::h2) (w.setRow g cs') G (.row (.slice (some ⟨g,0,none⟩) len' cap) k ls'::h2):=by
 have hmem:Res.row (.slice (some ⟨g,0,none⟩) len cap) k ls∈Res.row (.slice (some ⟨g,0,none⟩) len cap) k ls::h2:=Xp ..
 have hA:VR G w (w.setRow g cs') G:=⟨fun c j hg=>by
  have hne:c≠g:=fun he=>hh.prot _ hmem c j he hg
  simp [World.cell?,VI w g c cs' hne],fun _ _ h=>h⟩
 have e1:X3 w G [.row (.slice (some ⟨g,0,none⟩) len cap) k ls] (w.setRow g cs') G [.row (.slice (some ⟨g,0,none⟩) len' cap) k ls']:=by
  refine ⟨rfl,rfl,rfl,by simp [World.setRow],fun _ _ h=>h,?_,fun _ _ _ h=>.inl h,?_⟩
  ·intro c hc
   by_cases hcb:c=g
   ·subst hcb
    exact .inr ⟨cs,cs',e,(0,0),hb,setRow_heap w c cs cs' e (0,0) hb,Xx,fun j hj=>absurd ⟨_,Xp ..,rfl⟩ hj⟩
   ·exact .inl (VI w g c cs' hcb)
  ·rintro c j _ ⟨r,hr,hf⟩
   rw [Xr.1 hr] at hf
   exact ⟨_,Xp ..,hf⟩
 have e2:YI (w.setRow g cs') G [.row (.slice (some ⟨g,0,none⟩) len' cap) k ls']:=by
  refine ⟨fun r hr=>?_,DV _ _,fun r hr c j hf hg=>?_,fun c j hg=>?_⟩
  ·rw [Xr.1 hr]
   exact .inr ⟨g,len',cap,cs',e,rfl,setRow_heap w g cs cs' e (0,0) hb,hle,Xx.trans hcap,hl,hls.mono hA⟩
  ·rw [Xr.1 hr] at hf
   exact hh.prot _ hmem c j hf hg
  ·have:=hh.lt c j hg
   simpa [World.setRow] using this
 exact YI.frame (h:=[.row (.slice (some ⟨g,0,none⟩) len cap) k ls]) (k:=h2) hh e1 e2
section
variable {P:Program} {n:Nat} {ops:Array Oper} {k:Nat} {F:Fr} {h2:List Res}
theorem PJ {K:Fr->List Res->Prop} {v:Hd} {sz m:Nat} {ls xs:List AV} {hx:Option Value} (hd:VC n (ZI ops k)=true) (ha:TH P ops F k=some (.val v.v,.sl xs hx,sz))
  (hxs:∀y∈xs,y.leaves.length=sz) (hone:(Zg xs).all AV.one=true) (hm0:ls.length=m*sz) (hk0:0<sz) (hne:xs≠[]) (hbound:m+xs.length<=4294967296)
  (hK:∀v':Hd,K (F.put (ZI ops k).dst (.val v'.v)) (.row v'.v sz (ls++Zg xs)::h2)):WE P n (ZI ops k) F (.row v.v sz ls::h2) K:=by
 unfold TH at ha
 generalize hoo:ZI ops k=o at ha hd hK
 obtain ⟨dst,op,type,pos,after,guard⟩:=o
 cases op<;>simp only at ha<;>try (cases ha)
 rename_i c
 obtain ⟨callee,args,tys⟩:=c
 simp only at ha
 split at ha
 case h_2=>cases ha
 rename_i s x t t' hargs htys
 split at ha
 case h_2=>cases ha
 rename_i e htt ht
 have:=UT htt
 subst this
 split at ha
 case h_2=>cases ha
 rename_i i hinfo
 split at ha
 case h_2=>cases ha
 rename_i z hz
 split at ha
 case h_2=>cases ha
 rename_i hb
 simp only [Xb] at hb
 simp only [Wt,Prod.mk.injEq] at ha
 obtain ⟨h3,h4,hk1⟩:=ha
 have e1:args=#[s,x]:=by rw [<-UH (xs:=args),hargs]
 have e2:tys=#[t,t]:=by rw [<-UH (xs:=tys),htys]
 subst e1;subst e2
 have hzs:z.cells.size=sz:=by rw [UT hb.1,hk1]
 have hby:=V6 hb.2
 have hfl:=Ty xs hxs
 intro Q w G a hF hh
 have v1:=hF.ev s
 have v2:=hF.ev x
 rw [h3] at v1
 rw [h4] at v2
 have v1:=v1.val_inv
 have v2:=v2.forget
 have finish:∀(v':Hd) w',(Builtin.append_ #[t,t] type #[v.v,a.eval x]).run P w=.ok v'.v w'->YI w' G (.row v'.v sz (ls++Zg xs)::h2)->X3 w G (.row v.v sz ls::h2) w' G (.row v'.v sz (ls++Zg xs)::h2) ->
   ({ dst:=dst,op:=.call { callee:=.builtin .append,args:=#[s,x],argTypes:=#[t,t] },type:=type,pos:=pos,after:=after,guard:=guard }:Oper).wp P a w
    (fun a' w'=>∃F' h' G',K F' h'/\FR w' G' n F' a'/\YI w' G' h'/\X3 w G (.row v.v sz ls::h2) w' G' h') Q:=by
  intro v' w' hr j1 j2
  have hrun:(execOp a.eval { dst:=dst,op:=.call { callee:=.builtin .append,args:=#[s,x],argTypes:=#[t,t] },type:=type,pos:=pos,after:=after,guard:=guard }).run P w=.ok (.value v'.v) w':=by
   simp only [execOp,resolve,invoke,builtin,Sem.run_bind,Sem.run_pure,Result.andThen_ok,F8,Td,F7,v1,hr]
  unfold Oper.wp
  rw [hrun]
  exact ⟨_,_,G,hK v',(hF.mono (j2.agree hh)).put (Tk hd) .val,j1,j2⟩
 have hrow0:=hh.ok (.row v.v sz ls) (Xp ..)
 have hsub2:∀r:Res,List.Sublist (r::h2) (r::.row v.v sz ls::h2):=fun r=>List.Sublist.cons_cons _ (BP _ _)
 have grown:∀(olds news:List Value) (old:Nat),YV w G ls olds->YV w G (Zg xs) news ->
   YI (w.drew.alloc (.cells (olds.toArray++news.toArray++Builtin.zeroCells z.cells (grownCap w (m+xs.length) old e-(m+xs.length))) e)) G
    (.row (.slice (some ⟨w.heap.size,0,none⟩) (m+xs.length) (grownCap w (m+xs.length) old e)) sz (ls++Zg xs)::h2) /\
   X3 w G (.row v.v sz ls::h2) (w.drew.alloc (.cells (olds.toArray++news.toArray++Builtin.zeroCells z.cells (grownCap w (m+xs.length) old e-(m+xs.length))) e)) G
    (.row (.slice (some ⟨w.heap.size,0,none⟩) (m+xs.length) (grownCap w (m+xs.length) old e)) sz (ls++Zg xs)::h2):=by
  intro olds news old ho hn
  have Xk:=grownCap_ge w (m+xs.length) old e
  have hol:=ho.length
  have hnl:=hn.length
  have hlen:(ls++Zg xs).length=(m+xs.length)*sz:=by rw [Ys,hm0,hfl,Qu]
  obtain ⟨j1,j2⟩:=hh.drew.alloc_rrow (olds.toArray++news.toArray++Builtin.zeroCells z.cells (grownCap w (m+xs.length) old e-(m+xs.length))) e
   (ls:=ls++Zg xs) (len:=m+xs.length) (cap:=grownCap w (m+xs.length) old e) (k:=sz) Xk
   (by
    have q2:(grownCap w (m+xs.length) old e-(m+xs.length))*sz=grownCap w (m+xs.length) old e*sz-(m+xs.length)*sz:=Nat.sub_mul ..
    have q3:(m+xs.length)*sz<=grownCap w (m+xs.length) old e*sz:=J3 _ Xk
    have q4:(m+xs.length)*sz=m*sz+xs.length*sz:=Qu ..
    simp only [Array.size_append,F9,size_zeroCells,hzs,hol,hnl,hm0,hfl]
    omega) hlen
   (by
    have:(olds.toArray++news.toArray++Builtin.zeroCells z.cells (grownCap w (m+xs.length) old e-(m+xs.length))).toList.take ((m+xs.length)*sz)=olds++news:=by
     simp only [Hr]
     rw [<-hlen,Ys,<-hol,<-hnl,<-Ys]
     exact JD
    rw [this]
    exact (ho.append hn).mono (Bc w G))
  exact ⟨j1.sub (hsub2 _),(X3.drew w G _).trans (j2.sub' (hsub2 _))⟩
 generalize hax:a.eval x=ax at v2 finish
 cases v2 with
 | nil _=>exact absurd rfl hne
 | sl hq hcc hm=>
  rename_i b o' k' c
  have hpos:0<xs.length:=BO.2 hne
  have hfm:=hm.flat_mem
  obtain ⟨news,hn,hnc⟩:=hfm.cells
  have hnl:news.length=xs.length*i.size:=by rw [hn.length,hfl,hk1]
  have hone':=hn.one_cells hone
  have hnews:∀j u,news[j]? = some u->w.cell? ((⟨b,o',none⟩:Addr).add j)=some u:=fun j u hj=>by rw [J5];exact (hnc j u hj).1
  have hbb:(m+xs.length)*i.bytes<=140737488355328:=by
   have:=Nat.mul_le_mul hbound hby
   omega
  rcases hrow0 with ⟨hv0,hl0⟩|⟨g,len,cap,cur,el,hv0,hrow,hlc,hcur,hll,hcells⟩
  ·subst hl0
   have hm1:m=0:=by
    have:m*sz=0:=by simpa using hm0.symm
    rcases Nat.mul_eq_zero.1 this with h|h
    ·exact h
    ·omega
   subst hm1
   rw [hv0] at finish hh ⊢
   have hr:=run_append_nil (P:=P) w t type e i z ht hinfo hz ⟨b,o',none⟩ xs.length c news hnl hnews hpos om (by simp only [Wk] at hbb;omega)
   obtain ⟨j1,j2⟩:=grown [] news 0 .nil hn
   simp only [Wk,Array.empty_append,CK] at j1 j2
   rw [hv0] at j2
   exact finish ⟨some ⟨w.heap.size,0,none⟩,xs.length,grownCap w xs.length 0 e⟩ _ hr (by simpa using j1) (by simpa using j2)
  ·have hlm:len=m:=Hu hk0 (hll.symm.trans hm0)
   subst hlm
   rw [hv0] at finish hh ⊢
   have q5:len*sz<=cap*sz:=J3 _ hlc
   have h1:(cur.toList.take (len*sz)).length=len*sz:=by rw [Wh,JA,hcur,VQ q5]
   have hcl:cur.toList.length=cap*sz:=by rw [JA,hcur]
   by_cases hroom:len+xs.length<=cap
   ·have q1:(len+xs.length)*sz<=cap*sz:=J3 _ hroom
    have q2:(len+xs.length)*sz=len*sz+xs.length*sz:=Qu ..
    have hfit:len*i.size+news.length<=cur.size:=by rw [hnl,hcur,hk1];omega
    have hr:=LO (P:=P) w t type e el i ht hinfo g len cap cur hrow ⟨b,o',none⟩ xs.length c news hnl hnews hone' hroom hfit
    rw [hk1] at hr
    have hnl':news.length=xs.length*sz:=by rw [hnl,hk1]
    obtain ⟨j1,j2⟩:=hh.rgrow (ls':=ls++Zg xs) (len':=len+xs.length) (cs':=(cur.toList.take (len*sz)++news++cur.toList.drop (len*sz+news.length)).toArray) hrow
     (by simp only [F9,Ys,h1,hnl',Hs,hcl,hcur];omega) hroom hcur (by rw [Ys,hll,hfl,q2]) (by
      have:(cur.toList.take (len*sz)++news++cur.toList.drop (len*sz+news.length)).toArray.toList.take ((len+xs.length)*sz)=cur.toList.take (len*sz)++news:=by
       rw [Fa,q2,<-hnl']
       conv=>lhs;arg 1;rw [show len*sz+news.length=(cur.toList.take (len*sz)++news).length from by rw [Ys,h1]]
       exact JD
      rw [this]
      exact hcells.append hn)
    exact finish ⟨some ⟨g,0,none⟩,len+xs.length,cap⟩ _ hr j1 j2
   ·have hr:=run_append_grow (P:=P) w t type e i z ht hinfo hz ⟨g,0,none⟩ len cap (cur.toList.take (len*sz)) (by rw [hk1];exact h1) (fun j u hj=>by
     rw [J5,cell_of_row w g _ cur el (0,0) hrow]
     rw [Qe] at hj
     split at hj
     ·simpa using hj
     ·cases hj) ⟨b,o',none⟩ xs.length c news hnl hnews om om (growslice_fits om hbb)
    obtain ⟨j1,j2⟩:=grown (cur.toList.take (len*sz)) news cap hcells hn
    rw [hv0] at j2
    exact finish ⟨some ⟨w.heap.size,0,none⟩,len+xs.length,grownCap w (len+xs.length) cap e⟩ _ hr j1 j2
end
section
variable {P:Program} {n:Nat} {ops:Array Oper} {B:Fr->List Res->Prop} {k:Nat} {F:Fr} {h:List Res}
theorem G9 (j m:Nat) (v:Hd) (sz:Nat) (ls xs:List AV) (hx:Option Value) (hm0:ls.length=m*sz) (hxs:∀y∈xs,y.leaves.length=sz) (hone:(Zg xs).all AV.one=true) (hne:xs≠[]) (hbound:m+xs.length<=4294967296)
  (hK:∀v':Hd,SI P n ops B (k+1) (F.put (ZI ops k).dst (.h v')) (rK v' sz (ls++Zg xs)::XC [j] h)) (hk0:0<sz:=by omega)
  (hk:Xj n ops F k=true:=by kernel_rfl) (ha:TH P ops F k=some (.h v,.sl xs hx,sz):=by kernel_rfl) (hp:W8 [j] h=some [rK v sz ls]:=by kernel_rfl):SI P n ops B k F h:=
 Q4 hk (WE.perm (Uh (VG hp)) (PJ (Uf hk).2.1 ha hxs hone hm0 hk0 hne hbound hK))
end
end Go.Abs
namespace Go.Abs
section
variable {P:Program} {n:Nat} {ops:Array Oper} {B:Fr->List Res->Prop} {T:List (Nat × List Nat)} {fuel:Nat} {done:List Nat} {F:Fr} {h:List Res}
theorem HX (i j m:Nat) (js bs:List Nat) (v:Hd) (sz:Nat) (ls xs:List AV) (hx:Option Value) (hm0:ls.length=m*sz) (hxs:∀y∈xs,y.leaves.length=sz) (hone:(Zg xs).all AV.one=true) (hne:xs≠[]) (hbound:m+xs.length<=4294967296)
  (hK:∀v':Hd,X5 P n ops B (T.filter fun t=>!V8 ops i t.1) fuel (done++[i]) (F.put (ZI ops i).dst (.h v')) (rK v' sz (ls++Zg xs)::XC [j] h)) (hk0:0<sz:=by omega) (hk:Xj n ops F i=true:=by kernel_rfl)
  (ha:TH P ops F i=some (.h v,.sl xs hx,sz):=by kernel_rfl) (hp:W8 [j] h=some [rK v sz ls]:=by kernel_rfl) (ho:Ue ops i T=bs:=by kernel_rfl)
  (hj:js.map (fun q=>(WM (XC [j] h))[q]?)=bs.map some:=by kernel_rfl):Vc P n ops B T fuel done F h i:=
 J9 [j] js bs hk (VG hp) ho hj (PJ (h2:=[]) (Uf hk).2.1 ha hxs hone hm0 hk0 hne hbound hK)
end
theorem WU.form {P:Program} {f:FuncId} {as1:List AV} {h0:List Res} {T:Hd->AV} {kk m:Nat} {ls:List AV} {hs:List Res} (H:WU P f as1 h0 (fun r h=>∃v:Hd,r=T v/\h=rK v kk ls::hs)) (hm:ls.length=m*kk) (hk:0<kk) (h1:0<m) :
  WU P f as1 h0 (fun r h=>∃(g c:Nat),r=T ⟨some ⟨g,0,none⟩,m,c⟩/\h=rK ⟨some ⟨g,0,none⟩,m,c⟩ kk ls::hs):=by
 intro w G vs hv hh
 refine (H w G vs hv hh).mono ?_
 rintro e w' ⟨u,r,h',G',he,⟨v,rfl,rfl⟩,hr,hh',hx⟩
 obtain ⟨g,c,rfl⟩:=LJ (hh'.ok _ (Xp ..)) hm hk h1
 exact ⟨u,_,_,G',he,⟨g,c,rfl,rfl⟩,hr,hh',hx⟩
end Go.Abs
namespace Go.Abs
section
variable {h:List Res}
theorem Zfr (j i p:Nat) {u:Value} {kk b:Nat} {es ls:List AV} (hp:W8 [j,i] h=some [.row u kk (Zg es),.obj b ls]) (hes:∀y∈es,y.leaves.length=kk) (hk:0<kk) (hl:ls[p]? = some (.val u)) :
  Vm h (.obj b (ls.set p (.sl es (some u)))::.tail u kk::XC [j,i] h):=by
 intro w G hh
 have hp':=Uh (VG hp)
 have hh':=hh.perm hp'
 obtain ⟨G',h1,h2',h3⟩:=DE (h2:=.obj b ls::XC [j,i] h) hh' hes hk
 have e:=h2'.perm hp'.symm (TB _)
 have h1:YI w G' (.tail u kk::.obj b ls::XC [j,i] h):=h1
 have perm:(Res.tail u kk::.obj b ls::XC [j,i] h).Perm (.obj b ls::.tail u kk::XC [j,i] h):=List.Perm.swap ..
 have h4:=h1.perm perm
 have e4:=e.perm (TB _) perm
 have hset:∀{w:World} {G:Yk},RV w G (.sl es (some u)) u->Qx w G (.obj b ls)->Qx w G (.obj b (ls.set p (.sl es (some u)))):=by
  intro w G hu hr
  obtain ⟨cs,el,k1,k5⟩:=hr
  refine ⟨cs,el,k1,?_⟩
  obtain ⟨c,c1,c2⟩:=k5.get p _ hl
  have:=c2.val_inv
  subst this
  have h6:=k5.set p hu
  rwa [show cs.toList.set p c=cs.toList from by
   apply List.ext_getElem?
   intro q
   rw [List.getElem?_set]
   split
   ·rename_i hq;subst hq;split
    ·exact c1.symm
    ·rename_i hq2;rw [J0 om]
   ·rfl] at h6
 refine ⟨G',⟨fun r hr=>?_,?_,fun r hr=>?_,h4.lt⟩,⟨e4.os,e4.tape,e4.output,e4.size,e4.sub,e4.same,e4.newG,fun b' o hb ⟨r,hr,hf⟩=>e4.newfp b' o hb ?_⟩⟩
 ·rcases YM.1 hr with rfl|hr
  ·exact hset h3 (h4.ok _ (Xp ..))
  ·exact h4.ok r (XG _ hr)
 ·have:=Va.1 h4.apart
  exact Va.2 ⟨fun r hr b' o f1 f2=>this.1 r hr b' o f1 f2,this.2⟩
 ·rcases YM.1 hr with rfl|hr
  ·exact fun b' o f1 hg=>h4.prot (.obj b ls) (Xp ..) b' o f1 hg
  ·exact h4.prot r (XG _ hr)
 ·rcases YM.1 hr with rfl|hr
  ·exact ⟨.obj b ls,Xp ..,hf⟩
  ·exact ⟨r,XG _ hr,hf⟩
theorem Uo (j i p:Nat) (u:Value) (kk b:Nat) (es ls:List AV) (hes:∀y∈es,y.leaves.length=kk) (hl:ls[p]? = some (.val u)) (hk:0<kk:=by omega) (hp:W8 [j,i] h=some [.row u kk (Zg es),.obj b ls]:=by kernel_rfl) :
  Vm h (.obj b (ls.set p (.sl es (some u)))::.tail u kk::XC [j,i] h):=Zfr j i p hp hes hk hl
end
end Go.Abs
namespace Go.Abs
section
variable {P:Program} {n:Nat} {ops:Array Oper} {k:Nat} {F:Fr} {h:List Res}
theorem Zfa (j:Nat) {g l c m kk:Nat} {ls:List AV} (hi:DH P ops F k=some (.val (.slice (some ⟨g,0,none⟩) l c),(m:Int))) (hj:h[j]? = some (.row (.slice (some ⟨g,0,none⟩) l c) kk ls)) (hle:m<=l) :
  XW P (ZI ops k) F h [] (.val (.slice (some ⟨g,0,none⟩) m c)):=by
 unfold DH at hi
 generalize hoo:ZI ops k=o at hi
 obtain ⟨dst,op,type,pos,after,guard⟩:=o
 cases op<;>simp only at hi<;>try (cases hi)
 rename_i t x lo hi' mx
 cases lo with
 | some _=>simp at hi
 | none=>
  cases hi' with
  | none=>simp at hi
  | some y=>
   cases mx with
   | some _=>simp at hi
   | none=>
    simp only at hi
    split at hi
    ·rename_i e ht
     split at hi
     ·rename_i inf hinf
      split at hi
      ·rename_i ik m' hm
       simp only [Wt,Prod.mk.injEq] at hi
       obtain ⟨hx,rfl⟩:=hi
       intro n w G a hF hh
       have v1:=hF.ev x
       rw [hx] at v1
       have v1:=v1.val_inv
       have v2:=hF.ev y
       rw [hm] at v2
       have v2:=v2.val_inv
       have hcap:l<=c:=by
        rcases hh.ok _ (Y4 hj) with ⟨h0,_⟩|⟨g',l',c',cur,el,h0,_,hc,_⟩
        ·cases h0
        ·cases h0;exact hc
       refine ⟨_,.val,fun w' _ _=>?_⟩
       simp only [execOp,v1,v2,Fc,Option.map_none]
       refine Vr ?_
       simp only [Instr.sliceAt,Sem.run_bind,VZ ht,Result.andThen_ok,Instr.slice]
       have hmm:(Instr.sliceBounds true l c none (some (.int ik (m:Int))) none).run P w'=.ok (0,m,c) w':=by
        have ZA:=fun q=>EU (P:=P) (c:=q) (v:=.int ik (m:Int)) (y:=c) rfl om om w'
        simp [Instr.sliceBounds,ZA]
       rw [hmm]
       have hz:∀a:Addr,a.add 0=a:=fun a=>by simp [Addr.add]
       simp only [Result.andThen_ok,Qn hinf,Nat.zero_mul,hz]
       by_cases h0:c=0<;>simp [h0]
      ·cases hi
     ·cases hi
    ·cases hi
theorem OZ (j g l c m kk:Nat) (ls:List AV) (hle:m<=l:=by omega) (hi:DH P ops F k=some (.val (.slice (some ⟨g,0,none⟩) l c),(m:Int)):=by kernel_rfl) (hj:h[j]? = some (.row (.slice (some ⟨g,0,none⟩) l c) kk ls):=by kernel_rfl) :
  XW P (ZI ops k) F h [] (.val (.slice (some ⟨g,0,none⟩) m c)):=Zfa j hi hj hle
variable {B:Fr->List Res->Prop}
end
end Go.Abs
end
namespace Go.Abs
theorem Yo {α:Type} {xs:List α} {k:Nat} {x:α} (h:xs[k]? = some x):xs.drop k=x::xs.drop (k+1):=by
 have hk:=(Xc.1 h).1
 rw [Mp hk]
 congr 1
 rw [CJ hk] at h
 exact Ko h
theorem Xt {α:Type} {xs:List α} {k:Nat} (h:xs.length<=k):xs.drop k=[]:=Mq h
theorem V9 {α:Type} {xs:List α} {k:Nat} {x:α} (h:xs[k]? = some x):xs.take (k+1)=xs.take k++[x]:=by
 rw [List.take_add_one,h];rfl
def YH:List Ze->Nat
 | []=>0
 | d::ds=>d.cons.length+YH ds
theorem CT (xs ys:List Ze):YH (xs++ys)=YH xs+YH ys:=by
 induction xs with
 | nil=>simp [YH]
 | cons d ds ih=>simp [YH,ih];omega
structure Xy (ds:List Ze):Prop where
 len:ds.length<=4
 cons:∀d∈ds,d.cons.length<=3
 fields:∀d∈ds,∀c∈d.cons,c.fields.length<=3
theorem Z2v {ds:List Ze} {m:Nat} (h:∀d∈ds,d.cons.length<=m):YH ds<=ds.length*m:=by
 induction ds with
 | nil=>simp [YH]
 | cons d ds ih=>
  have h1:=h d (by simp)
  have h2:=ih (fun x hx=>h x (by simp [hx]))
  simp only [YH,Yx,Qu];omega
theorem Xy.sum {ds:List Ze} (h:Xy ds):YH ds<=12:=by
 have:=Z2v h.cons
 have:=h.len
 have:ds.length*3<=4*3:=J3 3 h.len
 omega
theorem Xy.take {ds:List Ze} (h:Xy ds) (k:Nat):Xy (ds.take k):=
 ⟨by have:=h.len;simp;omega,fun d hd=>h.cons d (Qt hd),fun d hd=>h.fields d (Qt hd)⟩
theorem Xy.cons_at {ds:List Ze} (h:Xy ds) {k:Nat} {d:Ze} (hd:ds[k]? = some d):d.cons.length<=3:=h.cons d (Y4 hd)
theorem Xy.fields_at {ds:List Ze} (h:Xy ds) {k j:Nat} {d:Ze} {c:Yp} (hd:ds[k]? = some d) (hc:d.cons[j]? = some c):c.fields.length<=3:=
 h.fields d (Y4 hd) c (Y4 hc)
def Ul (c:Int):List Ze->Nat->Nat->Int × LI
 | [],_,_=>(-1,[])
 | d::ds,i,first=>
  if (first:Int)<=c/\c<=((first+d.cons.length:Nat):Int)-1 then ((i:Int)+1,(d.cons[(c-first).toNat]?.map (·.fields)).getD []) else Ul c ds (i+1) (first+d.cons.length)
def Wi (ds:List Ze) (c:Int):Int:=(Ul c ds 0 0).1
def ZQ (ds:List Ze) (c:Int):LI:=(Ul c ds 0 0).2
theorem FA {c:Int}:∀{ds:List Ze} {i first:Nat},(Ul c ds i first=(-1,[]) ∨
  ∃k d x,ds[k]? = some d/\(first+YH (ds.take k):Int)<=c/\c<first+YH (ds.take k)+d.cons.length/\d.cons[(c-(first+YH (ds.take k))).toNat]? = some x/\Ul c ds i first=((i:Int)+k+1,x.fields))
 | [],_,_=>.inl rfl
 | d::ds,i,first=>by
  rw [Ul]
  split
  ·rename_i h
   have hlt:(c-first).toNat<d.cons.length:=by omega
   refine .inr ⟨0,d,d.cons[(c-first).toNat],rfl,by simp [YH];omega,by simp [YH];omega,?_,?_⟩
   ·simp [YH]
   ·rw [CJ hlt];simp
  ·rcases FA (c:=c) (ds:=ds) (i:=i+1) (first:=first+d.cons.length) with h|⟨k,e,x,h1,h2,h3,h4,h5⟩
   ·exact .inl h
   ·refine .inr ⟨k+1,e,x,by simpa using h1,by simp [YH];omega,by simp [YH];omega,?_,?_⟩
    ·rw [<-h4];congr 3;simp [YH];omega
    ·rw [h5];congr 1;omega
theorem HV {ds:List Ze} {c:Int} (h:¬Wi ds c<1) :
  ∃k d x,ds[k]? = some d/\(YH (ds.take k):Int)<=c/\d.cons[(c-YH (ds.take k)).toNat]? = some x/\Wi ds c=(k:Int)+1/\ZQ ds c=x.fields:=by
 rcases FA (c:=c) (ds:=ds) (i:=0) (first:=0) with h1|⟨k,d,x,h1,h2,_,h4,h5⟩
 ·simp [Wi,h1] at h
 ·exact ⟨k,d,x,h1,by simpa using h2,by simpa using h4,by simp [Wi,h5],by simp [ZQ,h5]⟩
theorem N5 {ds:List Ze} {c:Int} (h:Wi ds c<1):ZQ ds c=[]/\Wi ds c=-1:=by
 rcases FA (c:=c) (ds:=ds) (i:=0) (first:=0) with h1|⟨k,d,x,h1,h2,_,h4,h5⟩
 ·simp [ZQ,Wi,h1]
 ·simp [Wi,h5] at h;omega
def VM (first:Int):Nat->LI
 | 0=>[]
 | n+1=>first::VM (first+1) n
theorem Pw (first:Int) (n:Nat):VM first (n+1)=VM first n++[first+n]:=by
 induction n generalizing first with
 | zero=>simp [VM]
 | succ n ih=>rw [VM,ih (first+1),VM];simp;omega
@[simp] theorem Zaq (first:Int) (n:Nat):(VM first n).length=n:=by
 induction n generalizing first with
 | zero=>rfl
 | succ n ih=>simp [VM,ih]
def ZX (ds:List Ze) (t:Int):LI:=
 if 1<=t/\t<=ds.length then VM (YH (ds.take (t-1).toNat)) (((ds[(t-1).toNat]?).map (·.cons.length)).getD 0) else []
def CP (frm to_:Int):List Ze->Nat->Int
 | [],_=>-1
 | d::ds,i=>if d.cons.length=0/\d.frm=frm/\d.to_=to_ then (i:Int)+1 else CP frm to_ ds (i+1)
def JL (ds:List Ze) (frm to_:Int):Int:=CP frm to_ ds 0
def VL (ds:List Ze) (t:Int):Bool:=decide (1<=t/\t<=ds.length)&&((ds[(t-1).toNat]?).map fun d=>decide (d.cons.length=0)).getD false
theorem OT {ds:List Ze} {t:Int} {x:Ze} (h:1<=t/\t<=ds.length) (hx:ds[(t-1).toNat]? = some x):((x.cons.length:Int)==0)=VL ds t:=by
 rw [VL,hx,Yb];simp [h]
theorem OS {ds:List Ze} {t:Int} (h:¬(1<=t/\t<=ds.length)):false=VL ds t:=by
 rw [VL,Yb];simp only [Bool.false_eq_true,Xb,decide_eq_true_eq,h,false_and]
def Wm (m:Nat) (xs:LI):Bool:=xs.all fun t=>decide (0<=t/\t<=m)
end Go.Abs
section
namespace Go.Abs
section
variable {h:List Res}
end
end Go.Abs
namespace Go.Abs
section
variable {P:Program} {ops:Array Oper} {k:Nat} {F:Fr} {h:List Res}
def Lm (ops:Array Oper) (F:Fr) (k:Nat):Option (Int × Int):=
 match (ZI ops k).op with
 | .call c=>match c.callee,c.args.toList with
  | .builtin .max,[x,y]=>match F.ev x,F.ev y with
   | .val (.int .i64 a),.val (.int .i64 b)=>some (a,b)
   | _,_=>none
  | _,_=>none
 | _=>none
theorem Zf7 {a b:Int} (hl:Lm ops F k=some (a,b)):XW P (ZI ops k) F h [] (.i (max a b)):=by
 unfold Lm at hl
 generalize hoo:ZI ops k=o at hl
 obtain ⟨dst,op,type,pos,after,guard⟩:=o
 cases op<;>simp only at hl<;>try (cases hl)
 rename_i c
 obtain ⟨callee,args,tys⟩:=c
 simp only at hl
 split at hl
 case h_2=>cases hl
 rename_i x y hargs
 split at hl
 case h_2=>cases hl
 rename_i u v hx hy
 cases hl
 have e1:args=#[x,y]:=by rw [<-UH (xs:=args),hargs]
 subst e1
 intro n w G a' hF hh
 have vx:=hF.ev x
 have vy:=hF.ev y
 rw [hx] at vx
 rw [hy] at vy
 have vx:=vx.val_inv
 have vy:=vy.val_inv
 refine ⟨_,.val,fun w' _ _=>?_⟩
 simp only [execOp,resolve,invoke,builtin,Sem.run_bind,Sem.run_pure,Result.andThen_ok,F8,Td,F7,vx,vy]
 have e:(if b>a then b else a)=max a b:=by
  rw [Int.max_def]
  split<;>split<;>omega
 simp [Builtin.max_,Builtin.max2,Sem.run_pure,List.foldlM,e]
theorem Ge (a b:Int) (ha:Lm ops F k=some (a,b):=by kernel_rfl):XW P (ZI ops k) F h [] (.i (max a b)):=Zf7 ha
end
end Go.Abs
end
namespace Go.Abs
section
variable {P:Program} {n:Nat} {ops:Array Oper} {B:Fr->List Res->Prop} {k:Nat} {F:Fr} {h:List Res} {T:List (Nat × List Nat)} {fuel:Nat} {done:List Nat}
theorem PK {K:Fr->List Res->Prop} {ls:List AV} {len sz:Nat} (hd:VC n (ZI ops k)=true) (ha:To P ops F k=some (ls,len,sz)) (hlen:ls.length=len*sz)
  (hK:∀g,K (F.put (ZI ops k).dst (.val (.slice (some ⟨g,0,none⟩) len len))) (.row (.slice (some ⟨g,0,none⟩) len len) sz ls::h)):WE P n (ZI ops k) F h K:=by
 unfold To at ha
 generalize hoo:ZI ops k=q at ha hd hK
 obtain ⟨dst,op,type,pos,after,guard⟩:=q
 cases op<;>simp only at ha<;>try (cases ha)
 rename_i t ln parts
 split at ha
 case h_2=>cases ha
 rename_i e ht
 split at ha
 case h_2=>cases ha
 rename_i i hi
 split at ha
 case h_2=>cases ha
 rename_i hc
 simp only [Xb] at hc
 split at ha
 case h_2=>cases ha
 rename_i ls' hf
 simp only [Wt,Prod.mk.injEq] at ha
 obtain ⟨rfl,rfl,Xx⟩:=ha
 intro Q w G a hF hh
 obtain ⟨cs,h1,h2⟩:=GU hF parts ht hi rfl hc.1 hc.2 hf
 have hr:(execOp a.eval { dst:=dst,op:=.buildSlice t ln parts,type:=type,pos:=pos,after:=after,guard:=guard }).run P w =
   .ok (.value (.slice (some ⟨w.heap.size,0,none⟩) ln ln)) (w.alloc (.cells cs e)):=by
  simp only [execOp]
  exact Vr h2
 unfold Oper.wp
 rw [hr]
 have hlc:=h1.length
 simp only [JA] at hlc
 obtain ⟨j1,j2⟩:=hh.alloc_rrow cs e (ls:=ls') (len:=ln) (cap:=ln) (k:=sz) (X9 _) (by rw [hlc];exact hlen) hlen (by rw [<-hlen,<-hlc];simpa [WT] using h1)
 exact ⟨_,_,G,hK _,(hF.mono (j2.agree hh)).put (Tk hd) .val,j1,j2⟩
theorem UA (es es':List AV) (he:es=es') (len sz:Nat) (hK:∀v,SI P n ops B (k+1) (F.put (ZI ops k).dst (.sl es' (some v))) (.tail v sz::h)) (hk:Xj n ops F k=true:=by kernel_rfl)
  (ha:To P ops F k=some (Zg es,len,sz):=by kernel_rfl) (hlen:es.length=len:=by kernel_rfl) (hall:Aq es sz=true:=by kernel_rfl):SI P n ops B k F h:=by
 subst he;exact iL es len sz hK hk ha hlen hall
theorem Wz (i:Nat) (js bs:List Nat) (es es':List AV) (he:es=es') (len sz:Nat) (hK:∀v,X5 P n ops B (T.filter fun t=>!V8 ops i t.1) fuel (done++[i]) (F.put (ZI ops i).dst (.sl es' (some v))) (.tail v sz::h))
  (hk:Xj n ops F i=true:=by kernel_rfl) (ha:To P ops F i=some (Zg es,len,sz):=by kernel_rfl) (hlen:es.length=len:=by kernel_rfl) (hall:Aq es sz=true:=by kernel_rfl)
  (ho:Ue ops i T=bs:=by kernel_rfl) (hj:js.map (fun j=>(WM h)[j]?)=bs.map some:=by kernel_rfl):Vc P n ops B T fuel done F h i:=by
 subst he;exact dL i js bs es len sz hK hk ha hlen hall ho hj
theorem iKN (ls:List AV) (len sz:Nat) (hK:∀g,SI P n ops B (k+1) (F.put (ZI ops k).dst (.val (.slice (some ⟨g,0,none⟩) len len))) (.row (.slice (some ⟨g,0,none⟩) len len) sz ls::h)) (hlen:ls.length=len*sz:=by rfl) (hk:Xj n ops F k=true:=by kernel_rfl)
  (ha:To P ops F k=some (ls,len,sz):=by kernel_rfl):SI P n ops B k F h:=Q4 hk (PK (Uf hk).2.1 ha hlen hK)
theorem dKN (i:Nat) (js bs:List Nat) (ls:List AV) (len sz:Nat) (hK:∀g,X5 P n ops B (T.filter fun t=>!V8 ops i t.1) fuel (done++[i]) (F.put (ZI ops i).dst (.val (.slice (some ⟨g,0,none⟩) len len))) (.row (.slice (some ⟨g,0,none⟩) len len) sz ls::h)) (hlen:ls.length=len*sz:=by rfl)
  (hk:Xj n ops F i=true:=by kernel_rfl) (ha:To P ops F i=some (ls,len,sz):=by kernel_rfl) (ho:Ue ops i T=bs:=by kernel_rfl) (hj:js.map (fun j=>(WM h)[j]?)=bs.map some:=by kernel_rfl):Vc P n ops B T fuel done F h i:=
 J9 (h1:=[]) (h2:=h) [] js bs hk rfl ho hj (PK (Uf hk).2.1 ha hlen hK)
end
theorem WU.frz {P:Program} {f:FuncId} {as1:List AV} {h0:List Res} {E:Type} {kk:Nat} {es:E->List AV} {hs:E->List Res} {Q:E->Prop} (H:WU P f as1 h0 (fun r h=>∃(e:E) (v:Hd),r=.h v/\h=rK v kk (Zg (es e))::hs e/\Q e)) (hes:∀e,∀y∈es e,y.leaves.length=kk) (hk:0<kk) :
  WU P f as1 h0 (fun r h=>∃(e:E) (v:Value),r=.sl (es e) (some v)/\h=.tail v kk::hs e/\Q e):=by
 intro w G vs hv hh
 refine (H w G vs hv hh).mono ?_
 rintro e w' ⟨u,r,h',G',he,⟨x,v,rfl,rfl,hq⟩,hr,hh',hx⟩
 obtain ⟨G2,h1,h2,h3⟩:=DE hh' (hes x) hk
 have hrv:=hr.val_inv
 subst hrv
 exact ⟨_,_,_,G2,he,⟨x,v.v,rfl,rfl,hq⟩,h3,h1,hx.trans h2⟩
theorem Iw {es:List AV} {sz k:Nat} {y:AV} (h:∀x∈es,x.leaves.length=sz) (hy:y.leaves.length=sz) (hk:k<es.length):(Zg es).take (k*sz)++y.leaves++(Zg es).drop (k*sz+y.leaves.length)=Zg (es.set k y):=by
 obtain ⟨x,hx⟩:=AH (xs:=es) (j:=k) hk
 have hxl:=h x (Y4 hx)
 have e1:es=es.take k++(x::es.drop (k+1)):=by rw [<-Yo hx,Tu]
 have e2:es.set k y=es.take k++(y::es.drop (k+1)):=by rw [Ht,Zl hk]
 have hl:(Zg (es.take k)).length=k*sz:=by rw [Ty (k:=sz) _ (fun z hz=>h z (Qt hz)),Wh,VQ om]
 have e3:Zg es=Zg (es.take k)++(x.leaves++Zg (es.drop (k+1))):=by
  conv=>lhs;rw [e1,KA]
  simp [Zg]
 rw [e2,KA,e3,LK hl (by rw [hxl,hy])]
 simp [Zg]
theorem Z3v (ds:List Ze) (k:Nat) (d:Ze):YU (ds.set k d)=(YU ds).set k (DY d):=by simp [YU,List.map_set]
theorem Ch (xs:List Ze):(Zg (YU xs)).length=xs.length*3:=by rw [Ty (k:=3) _ (K4 xs)];simp
theorem FV {ds:List Ze} {k:Nat} (d:Ze) (hk:k<ds.length):(Zg (YU ds)).take (k*3)++Cq d++(Zg (YU ds)).drop (k*3+3)=Zg (YU (ds.set k d)):=by
 rw [Z3v];exact Iw (y:=DY d) (K4 ds) rfl (by simpa using hk)
theorem Is (xs ys:List Ze):Zg (YU xs)++Zg (YU ys)=Zg (YU (xs++ys)):=by rw [Z3u,KA]
section
variable {P:Program} {n:Nat} {ops:Array Oper} {B:Fr->List Res->Prop} {k:Nat} {F:Fr} {h:List Res}
theorem Eo (j m:Nat) {v:Hd} {kk:Nat} {ls:List AV} (hm:ls.length=m*kk) (h0:0<m) (H:∀g c',v=⟨some ⟨g,0,none⟩,m,c'⟩->SI P n ops B k F h) (hk:0<kk:=by omega) (hj:h[j]? = some (rK v kk ls):=by kernel_rfl):SI P n ops B k F h:=by
 intro Q w G a hF hh hq
 obtain ⟨g,c',e⟩:=LJ (hh.ok _ (Y4 hj)) hm hk h0
 exact H g c' e Q w G a hF hh hq
end
section
variable {P:Program} {n:Nat} {ops:Array Oper} {B:Fr->List Res->Prop} {k:Nat} {F:Fr} {h:List Res}
def HW (P:Program) (ops:Array Oper) (F:Fr) (k:Nat):Option (IntKind × Int):=
 match (ZI ops k).op with
 | .convert s d x=>match P.underlying s,P.underlying d,F.ev x with
  | some (.int _),some (.int q),.val (.int _ z)=>some (q,z)
  | _,_,_=>none
 | _=>none
theorem kCv (q:IntKind) (z z':Int) (e:q.wrap z=z') (hc:HW P ops F k=some (q,z):=by kernel_rfl):XW P (ZI ops k) F h [] (.val (.int q z')):=by
 unfold HW at hc
 generalize hoo:ZI ops k=o at hc
 obtain ⟨dst,op,type,pos,after,guard⟩:=o
 cases op<;>simp only at hc<;>try (cases hc)
 rename_i s d x
 split at hc
 ·rename_i q1 q2 q3 z2 h1 h2 h3
  cases hc
  intro n w G ac hF hh
  have v1:=hF.ev x
  rw [h3] at v1
  have v1:=v1.val_inv
  refine ⟨_,.val,fun w' _ _=>?_⟩
  simp only [execOp,v1]
  refine Vr ?_
  simp [convert,VZ h1,VZ h2,Conv.intToInt,e]
 ·cases hc
theorem Mo {z:Int} (h:0<=z/\z<=9223372036854775807):IntKind.i64.wrap z=z:=IntWalk.i64_in _ om
theorem L8 (z:Int) (hz:0<=z/\z<=255) (hc:HW P ops F k=some (.i64,z):=by kernel_rfl):XW P (ZI ops k) F h [] (.i z):=kCv .i64 z z (Mo om) hc
def Bf (ops:Array Oper) (F:Fr) (k:Nat) (b:BinOp):Option (Int × Int):=
 match (ZI ops k).op with
 | .binOp c _ x y _=>if c==b then match F.ev x,F.ev y with
  | .val (.int .i64 z),.val (.int .i64 u)=>some (z,u)
  | _,_=>none else none
 | _=>none
theorem P0 (a b:Int) (hb:0<b) (ha:0<=a/\a<=9223372036854775807) (hc:Bf ops F k .quo=some (a,b):=by kernel_rfl):XW P (ZI ops k) F h [] (.i (a / b)):=by
 unfold Bf at hc
 generalize hoo:ZI ops k=o at hc
 obtain ⟨dst,op,type,pos,after,guard⟩:=o
 cases op<;>simp only at hc<;>try (cases hc)
 rename_i bop t x y yt
 cases bop<;>simp only [Zb,reduceCtorEq,if_false,if_true] at hc<;>try (cases hc)
 split at hc
 ·rename_i z yk h1 h2
  cases hc
  intro n' w G ac hF hh
  have v1:=hF.ev x
  have v2:=hF.ev y
  rw [h1] at v1
  rw [h2] at v2
  have v1:=v1.val_inv
  have v2:=v2.val_inv
  refine ⟨_,.val,fun w' _ _=>?_⟩
  simp only [execOp,v1,v2]
  refine Vr ?_
  have e1:a.tdiv b=a / b:=Int.tdiv_eq_ediv_of_nonneg ha.1
  have e2:IntKind.i64.wrap (a / b)=a / b:=Mo ⟨Int.ediv_nonneg ha.1 om,Int.le_trans (Int.ediv_le_self b ha.1) ha.2⟩
  have e3:b≠0:=by omega
  simp [eqGuard,binOp,Op.intDiv,e1,e2,e3]
 ·cases hc
theorem L7 (a b:Int) (hb:0<b) (ha:0<=a) (hc:Bf ops F k .rem=some (a,b):=by kernel_rfl):XW P (ZI ops k) F h [] (.i (a % b)):=by
 unfold Bf at hc
 generalize hoo:ZI ops k=o at hc
 obtain ⟨dst,op,type,pos,after,guard⟩:=o
 cases op<;>simp only at hc<;>try (cases hc)
 rename_i bop t x y yt
 cases bop<;>simp only [Zb,reduceCtorEq,if_false,if_true] at hc<;>try (cases hc)
 split at hc
 ·rename_i z yk h1 h2
  cases hc
  intro n' w G ac hF hh
  have v1:=hF.ev x
  have v2:=hF.ev y
  rw [h1] at v1
  rw [h2] at v2
  have v1:=v1.val_inv
  have v2:=v2.val_inv
  refine ⟨_,.val,fun w' _ _=>?_⟩
  simp only [execOp,v1,v2]
  refine Vr ?_
  have e1:a.tmod b=a % b:=Int.tmod_eq_emod_of_nonneg ha
  have e3:b≠0:=by omega
  simp [eqGuard,binOp,Op.intDiv,e1,e3]
 ·cases hc
theorem Dn (a b:Nat) (hb:0<b) (ha:a<=9223372036854775807) (hc:Bf ops F k .quo=some ((a:Int),(b:Int)):=by kernel_rfl):XW P (ZI ops k) F h [] (.i (a / b:Nat)):=by
 rw [Int.natCast_ediv];exact P0 a b om om hc
theorem P1 (a b:Nat) (hb:0<b) (_ha:a<=9223372036854775807) (hc:Bf ops F k .rem=some ((a:Int),(b:Int)):=by kernel_rfl):XW P (ZI ops k) F h [] (.i (a % b:Nat)):=by
 rw [Int.natCast_emod];exact L7 a b om om hc
def DS (a b:Int):Int:=IntKind.i64.wrap ((BitVec.ofInt 64 a ^^^ BitVec.ofInt 64 b).toNat:Int)
theorem Z0g {a b:Int} (ha:0<=a/\a<4611686018427387904) (hb:0<=b/\b<4611686018427387904):0<=DS a b/\DS a b<4611686018427387904:=by
 obtain ⟨x,rfl⟩:=Int.eq_ofNat_of_zero_le ha.1
 obtain ⟨y,rfl⟩:=Int.eq_ofNat_of_zero_le hb.1
 have h1:(BitVec.ofInt 64 (x:Int) ^^^ BitVec.ofInt 64 (y:Int)).toNat=x ^^^ y:=by
  rw [BitVec.toNat_xor,BitVec.toNat_ofInt,BitVec.toNat_ofInt]
  have e1:((x:Int) % ((2 ^ 64:Nat):Int)).toNat=x:=by omega
  have e2:((y:Int) % ((2 ^ 64:Nat):Int)).toNat=y:=by omega
  rw [e1,e2]
 have h2:x ^^^ y<2 ^ 62:=Nat.xor_lt_two_pow om om
 rw [DS,h1,Mo om]
 omega
theorem Z9d (a b:Int) (hc:Bf ops F k .xor=some (a,b):=by kernel_rfl):XW P (ZI ops k) F h [] (.i (DS a b)):=by
 unfold Bf at hc
 generalize hoo:ZI ops k=o at hc
 obtain ⟨dst,op,type,pos,after,guard⟩:=o
 cases op<;>simp only at hc<;>try (cases hc)
 rename_i bop t x y yt
 cases bop<;>simp only [Zb,reduceCtorEq,if_false,if_true] at hc<;>try (cases hc)
 split at hc
 ·rename_i z yk h1 h2
  cases hc
  intro n' w G ac hF hh
  have v1:=hF.ev x
  have v2:=hF.ev y
  rw [h1] at v1
  rw [h2] at v2
  have v1:=v1.val_inv
  have v2:=v2.val_inv
  refine ⟨_,.val,fun w' _ _=>?_⟩
  simp only [execOp,v1,v2]
  refine Vr ?_
  simp [eqGuard,binOp,Op.intBits,IntKind.bits]
  exact Yj (fun z:Nat=>IntKind.i64.wrap (z:Int)) (by rw [BitVec.toNat_xor,BitVec.toNat_ofInt,BitVec.toNat_ofInt];rfl)
 ·cases hc
end
end Go.Abs
section
namespace Go.Abs
inductive Z2 where
 | mk (op num:Int) (kids:List Z2)
namespace Z2
def op:Z2->Int|.mk a _ _=>a
def num:Z2->Int|.mk _ a _=>a
def kids:Z2->List Z2|.mk _ _ a=>a
end Z2
structure Func where
 params:LI
 result:Int
 body:Z2
structure W4 where
 decls:List Ze
 funcs:List Func
instance:Inhabited Z2:=⟨.mk 0 0 []⟩
mutual
def Ia:Z2->AV
 | .mk op num kids=>.agg [.i op,.i num,.sl (Yw kids) none]
def Yw:List Z2->List AV
 | []=>[]
 | e::r=>Ia e::Yw r
end
abbrev Y8 (e:Z2):AV:=.agg [.i e.op,.i e.num,.sl (Yw e.kids) none]
abbrev YZ (e:Z2):List AV:=[.i e.op,.i e.num,.sl (Yw e.kids) none]
abbrev XA (xs:List Z2):AV:=.sl (Yw xs) none
abbrev Qk (xs:List Z2) (v:Value):AV:=.sl (Yw xs) (some v)
abbrev DZ (f:Func):AV:=.agg [Z3 f.params,.i f.result,.i f.body.op,.i f.body.num,XA f.body.kids]
abbrev Gh (f:Func):List AV:=[Z3 f.params,.i f.result,.i f.body.op,.i f.body.num,XA f.body.kids]
def Xq (xs:List Func):List AV:=xs.map DZ
abbrev Gr (xs:List Func):AV:=.sl (Xq xs) none
abbrev Ap (p:W4):AV:=.agg [Yd p.decls,Gr p.funcs]
abbrev La (p:W4):List AV:=[Yd p.decls,Gr p.funcs]
abbrev HD (z:Int):AV:=.val (.int .u8 z)
def TI (xs:LI):List AV:=xs.map HD
abbrev Uc (xs:LI):AV:=.sl (TI xs) none
theorem Z3w (e:Z2):Ia e=Y8 e:=by cases e;rw [Ia];rfl
theorem XQ:∀xs:List Z2,Yw xs=xs.map Y8
 | []=>by rw [Yw];rfl
 | s::ss=>by rw [Yw,XQ ss,Z3w];rfl
theorem D0 {xs:List Z2} {j:Nat} {x:Z2} (h:xs[j]? = some x):(Yw xs)[j]? = some (Y8 x):=by simp [XQ,h]
theorem FF {xs:List Func} {j:Nat} {x:Func} (h:xs[j]? = some x):(Xq xs)[j]? = some (DZ x):=by simp [Xq,h]
theorem I6 {xs:LI} {j:Nat} {x:Int} (h:xs[j]? = some x):(TI xs)[j]? = some (HD x):=by simp [TI,h]
@[simp] theorem Ib (xs:List Z2):(Yw xs).length=xs.length:=by simp [XQ]
@[simp] theorem D3 (xs:List Func):(Xq xs).length=xs.length:=by simp [Xq]
@[simp] theorem C9 (xs:LI):(TI xs).length=xs.length:=by simp [TI]
theorem JW (xs ys:List Z2):Yw (xs++ys)=Yw xs++Yw ys:=by simp [XQ]
theorem Z3x (xs ys:List Func):Xq (xs++ys)=Xq xs++Xq ys:=by simp [Xq]
theorem I7 (xs:LI) (n:Nat):(TI xs).take n=TI (xs.take n):=by simp [TI]
theorem I5 (xs:LI) (n:Nat):(TI xs).drop n=TI (xs.drop n):=by simp [TI]
theorem UZ (xs:List Z2):∀y∈Yw xs,y.leaves.length=3:=by intro y hy;simp only [XQ,XN] at hy;obtain ⟨x,_,rfl⟩:=hy;rfl
theorem FG (xs:List Func):∀y∈Xq xs,y.leaves.length=5:=by intro y hy;simp only [Xq,XN] at hy;obtain ⟨x,_,rfl⟩:=hy;rfl
theorem Z3t (xs:LI):∀y∈TI xs,y.leaves.length=1:=by intro y hy;simp only [TI,XN] at hy;obtain ⟨x,_,rfl⟩:=hy;rfl
theorem JX (xs:List Z2):(Zg (Yw xs)).all AV.one=true:=KC fun y hy=>by simp only [XQ,XN] at hy;obtain ⟨x,_,rfl⟩:=hy;rfl
end Go.Abs
end
section
namespace Go.Abs
open Go.Proofs Go.Proofs.YtamhpednblociaaGreat
section
variable {H:Type} {enc:TypeId × Value->H} {w:World}
def GA (w:World):Yk:=fun b _=>b<w.heap.size
abbrev Tr (enc:TypeId × Value->H) (w:World) (n:Nat) (t:TypeId) (cs:List Value) (x:DataW H × List MemPlace):Prop:=DataW.trod enc Tryz.prog w 0 (fun _=>true) true n t cs=some x
theorem Pj {w:World} {a:Addr} {v:Value} (h:w.cell? a=some v):a.block<w.heap.size/\a.spot=none:=by
 unfold World.cell? at h
 split at h
 ·rename_i c e fr hb
  split at h
  ·cases h
  ·rename_i hs
   exact ⟨(UG.1 hb).1,by simpa using hs⟩
 ·cases h
theorem MY {α:Type} {c:α->Nat}:∀{xs:List α} {ds:List (DataW H)},xs.length=ds.length->(∀(i:Nat) a d,xs[i]? = some a->ds[i]? = some d->c a+1<=Rows.uptoBulk d)->(xs.map fun a=>c a+1).sum<=Rows.uptoBulkAll ds
 | [],[],_,_=>X9 _
 | a::r,d::ds,hl,h=>by
  have h0:=h 0 a d rfl rfl
  have h1:=MY (c:=c) (xs:=r) (ds:=ds) (by simpa using hl) fun i a d ha hd=>h (i+1) a d (by simpa using ha) (by simpa using hd)
  rw [Td,List.sum_cons,Rows.uptoBulkAll]
  omega
theorem Rp {α:Type} {f:α->AV} {G:Yk} {k b:Nat} (hf:∀x,(f x).leaves.length=k):∀{xs:List α} {o:Nat},(∀(i:Nat) a,xs[i]? = some a->Wu w G b (o+i*k) (f a).leaves)->Vd w G k b o (xs.map f)
 | [],_,_=>.nil
 | x::r,o,h=>by
  refine .cons (hf x) (by have:=h 0 x rfl;simpa using this) (Rp hf fun i a ha=>?_)
  have:=h (i+1) a (by simpa using ha)
  rw [show o+(i+1)*k=o+k+i*k by rw [Qu];omega] at this
  exact this
theorem Zbu {α:Type} [Inhabited α] {t e k:Nat} (ht:Tryz.prog.underlying t=some (.slice e)) (hk:Tryz.prog.cellsOf e=k) (h0:0<k) (f:α->AV) (hf:∀x,(f x).leaves.length=k) (c:α->Nat) (Q:α->Prop) {n:Nat} {cs:List Value} {x:DataW H × List MemPlace}
  (h:Tr enc w n t cs x) (el:∀m cs y,m<n->Tr enc w m e cs y->∃a:α,YV w (GA w) (f a).leaves cs/\c a+1<=Rows.uptoBulk y.1/\Q a) :
  ∃(v:Value) (xs:List α),cs=[v]/\RV w (GA w) (.sl (xs.map f) none) v/\(xs.map fun a=>c a+1).sum+1<=Rows.uptoBulk x.1/\∀a∈xs,Q a:=by
 rcases DataW.trod_slice ht h with ⟨rfl,rfl⟩|⟨a,len,cap,elems,rest,m,rfl,rfl,rfl,_,hlc,_,hlen,hel,_,_⟩
 ·exact ⟨_,[],rfl,.nil (by simp),by simp [Rows.uptoBulk],by simp⟩
 ·rw [hk] at hel
  have hone:∀i,i<len->∃z:α,∃cs' y,w.cells? 0 (a.add (i*k)) k=some cs'/\elems[i]? = some y/\YV w (GA w) (f z).leaves cs'/\c z+1<=Rows.uptoBulk y.1/\Q z:=by
   intro i hi
   have h1:=hel i hi
   rw [CJ om] at h1
   obtain ⟨cs',h2,h3⟩:=Option.bind_eq_some_iff.1 h1
   obtain ⟨z,hz1,hz2,hz3⟩:=el m cs' _ om h3
   exact ⟨z,cs',_,h2,CJ om,hz1,hz2,hz3⟩
  obtain ⟨V,hV⟩:=Go.Deep.choose_lt hone
  refine ⟨_,(List.range len).map V,rfl,?_,?_,?_⟩
  ·cases hl0:len with
   | zero=>exact .nil (by simp)
   | succ q=>
    have hsp:a.spot=none:=by
     obtain ⟨cs',y,g1,_⟩:=hV 0 om
     obtain ⟨_,g2,g3⟩:=World.cells?_some g1
     have g4:=g3 0 h0
     rw [CJ om] at g4
     have g5:=(Pj g4).2
     simpa [Addr.add] using g5
    obtain ⟨b,o,sp⟩:=a
    simp only at hsp
    subst hsp
    rw [<-hl0]
    have hll:(((List.range len).map V).map f).length=len:=by simp
    have:=RV.sl (w:=w) (G:=GA w) (es:=((List.range len).map V).map f) (hv:=none) (b:=b) (o:=o) (k:=k) (cap:=cap) (by simp) (by rw [hll];exact hlc) (Rp hf fun i z hz=>by
     have hi:i<len:=by have:=(Xc.1 hz).1;simpa using this
     have hz':V i=z:=by simpa [hi] using hz
     obtain ⟨cs',y,g1,_,g2,_⟩:=hV i hi
     rw [hz'] at g2
     obtain ⟨_,g3,g4⟩:=World.cells?_some g1
     refine Wu.of_cells g2 fun j u hj=>?_
     have hjl:j<k:=by have:=(Xc.1 hj).1;omega
     have g5:=(g4 j hjl).trans hj
     rw [Addr.add_lit,Addr.add_lit] at g5
     exact ⟨g5,(Pj g5).1⟩)
    rw [hll] at this
    exact this
  ·have:=MY (c:=c) (xs:=(List.range len).map V) (ds:=elems.map (·.1)) (by simp [hlen]) fun i z d hz hd=>by
    have hi:i<len:=by have:=(Xc.1 hz).1;simpa using this
    have hz':V i=z:=by simpa [hi] using hz
    obtain ⟨cs',y,_,g1,_,g2,_⟩:=hV i hi
    rw [J1,g1] at hd
    simp only [Fc,Wt] at hd
    rw [<-hd,<-hz']
    exact g2
   simp only [Rows.uptoBulk]
   omega
  ·intro z hz
   obtain ⟨i,hi,rfl⟩:=XN.1 hz
   obtain ⟨_,_,_,_,_,_,g⟩:=hV i (List.mem_range.1 hi)
   exact g
theorem Zbs {n:Nat} {cs:List Value} {x:DataW H × List MemPlace} (h:Tr enc w n 5 cs x):∃z:Int,cs=[.int .u8 z]/\Rows.uptoBulk x.1=1/\0<=z/\z<=255:=by
 obtain ⟨z,rfl,rfl,hw⟩:=DataW.trod_int Tryz.underlying5 h
 refine ⟨z,rfl,rfl,?_⟩
 simpa [Lit.wf,IntKind.min,IntKind.max,IntKind.signed,IntKind.bits] using hw
theorem Zbt {n:Nat} {cs:List Value} {x:DataW H × List MemPlace} (h:Tr enc w n 22 cs x):∃(v:Value) (xs:LI),cs=[v]/\RV w (GA w) (Uc xs) v/\∀z∈xs,0<=z/\z<=255:=by
 obtain ⟨v,xs,h1,h2,h3,h4⟩:=Zbu Tryz.underlying22 (k:=1) kr om (fun z:Int=>HD z) (fun _=>rfl) (fun _=>0) (fun z=>0<=z/\z<=255) h fun m cs y _ hy=>by
  obtain ⟨z,rfl,hb,hz⟩:=Zbs hy
  exact ⟨z,.cons .val .nil,Nat.le_of_eq hb.symm,hz⟩
 exact ⟨v,xs,h1,h2,h4⟩
end
end Go.Abs
end
namespace Go.Abs
section
variable {P:Program} {n:Nat} {ops:Array Oper} {k:Nat} {F:Fr} {h:List Res}
def Nb (P:Program) (ops:Array Oper) (F:Fr) (k:Nat):Option (TypeId × List AV × Option Value × Option Value):=
 match (ZI ops k).op with
 | .call c=>match c.callee,c.args.toList,c.argTypes.toList with
  | .builtin .copy,[x,y],[t,_]=>match P.underlying t,F.ev x,F.ev y with
   | some (.slice e),.sl es hv,.sl [] hw=>some (e,es,hv,hw)
   | _,_,_=>none
  | _,_,_=>none
 | _=>none
def SS (P:Program) (t:TypeId):Bool:=match P.info? t with|some _=>true|none=>false
theorem OY (e:TypeId) (es:List AV) (hv hw:Option Value) (hc:Nb P ops F k=some (e,es,hv,hw):=by kernel_rfl) (hs:SS P e=true:=by kernel_rfl):XW P (ZI ops k) F h [] (.i 0):=by
 unfold Nb at hc
 generalize hoo:ZI ops k=o at hc
 obtain ⟨dst,op,type,pos,after,guard⟩:=o
 cases op<;>simp only at hc<;>try (cases hc)
 rename_i c
 obtain ⟨callee,args,argTypes⟩:=c
 simp only at hc
 split at hc
 ·rename_i x y t t2 hargs htys
  have ha:args=#[x,y]:=by rw [<-UH (xs:=args),hargs]
  have ht:argTypes=#[t,t2]:=by rw [<-UH (xs:=argTypes),htys]
  subst ha;subst ht
  split at hc
  ·rename_i e' es' hv' hw' hu hx hy
   simp only [Wt,Prod.mk.injEq] at hc
   obtain ⟨rfl,rfl,rfl,rfl⟩:=hc
   intro n' w G ac hF hh
   have v1:=hF.ev x
   have v2:=hF.ev y
   rw [hx] at v1
   rw [hy] at v2
   generalize h1:ac.eval x=u1 at v1
   generalize h2:ac.eval y=u2 at v2
   obtain ⟨a1,l1,c1,rfl⟩:∃a l c,u1=.slice a l c:=by cases v1<;>exact ⟨_,_,_,rfl⟩
   obtain ⟨a2,c2,rfl⟩:∃a c,u2=.slice a 0 c:=by
    cases v2 with
    | nil hx=>exact ⟨_,_,rfl⟩
    | sl hx hc hm=>exact ⟨_,_,rfl⟩
   unfold SS at hs
   cases hi:P.info? e' with
   | none=>rw [hi] at hs;cases hs
   | some i=>
    refine ⟨_,.val,fun w' _ _=>?_⟩
    cases a2<;>cases a1<;>simp [execOp,resolve,invoke,builtin,h1,h2,Builtin.copy_,Builtin.lenOf,Builtin.firstCells,VZ hu,Qn hi,loadCells,loadCellsFrom,storeCells,goInt]
  ·cases hc
 ·cases hc
end
structure Sg where
 params:LI
 result:Int
abbrev My (f:Sg):AV:=.agg [.sl (Z6 f.params) none,.i f.result,.i 0,.i 0,.sl [] none]
def WA (fs:List Sg):List AV:=fs.map My
theorem If {xs:List Sg} {j:Nat} {x:Sg} (h:xs[j]? = some x):(WA xs)[j]? = some (My x):=by simp [WA,h]
@[simp] theorem Nr (xs:List Sg):(WA xs).length=xs.length:=by simp [WA]
theorem FI (xs:List Sg):∀y∈WA xs,y.leaves.length=5:=by intro y hy;simp only [WA,XN] at hy;obtain ⟨x,_,rfl⟩:=hy;rfl
theorem Ns (xs:List Sg):(Zg (WA xs)).all AV.one=true:=KC fun y hy=>by simp only [WA,XN] at hy;obtain ⟨x,_,rfl⟩:=hy;rfl
mutual
def Z5.sz:Z5->Nat
 | .mk _ _ _ args kids=>1+args.length+YW kids
def Z7.sz:Z7->Nat
 | .mk steps _=>1+Yu steps
def Yu:List Z5->Nat
 | []=>0
 | s::r=>s.sz+Yu r
def YW:List Z7->Nat
 | []=>0
 | b::r=>b.sz+YW r
end
theorem Z5.sz_pos (s:Z5):1<=s.sz:=by cases s;rw [Z5.sz];omega
theorem Z7.sz_pos (b:Z7):1<=b.sz:=by cases b;rw [Z7.sz];omega
theorem KU (l:List Z5):l.length<=Yu l:=by
 induction l with
 | nil=>simp
 | cons s r ih=>have:=s.sz_pos;simp only [Yx,Yu];omega
theorem MW (l:List Z7):l.length<=YW l:=by
 induction l with
 | nil=>simp
 | cons s r ih=>have:=s.sz_pos;simp only [Yx,YW];omega
theorem Zf2 {l:List Z5} {k:Nat} {s:Z5} (h:l[k]? = some s):s.sz<=Yu l:=by
 induction l generalizing k with
 | nil=>simp at h
 | cons t r ih=>
  cases k with
  | zero=>simp at h;subst h;simp only [Yu];omega
  | succ k=>have:=ih (k:=k) (by simpa using h);simp only [Yu];omega
theorem MV {l:List Z7} {k:Nat} {s:Z7} (h:l[k]? = some s):s.sz<=YW l:=by
 induction l generalizing k with
 | nil=>simp at h
 | cons t r ih=>
  cases k with
  | zero=>simp at h;subst h;simp only [YW];omega
  | succ k=>have:=ih (k:=k) (by simpa using h);simp only [YW];omega
theorem Z5.sz_eq (s:Z5):s.sz=1+s.args.length+YW s.kids:=by cases s;rw [Z5.sz];rfl
theorem Z7.sz_eq (b:Z7):b.sz=1+Yu b.steps:=by cases b;rw [Z7.sz];rfl
theorem DM {b:Z7} {k:Nat} {s:Z5} (h:b.steps[k]? = some s):s.sz<b.sz:=by have:=Zf2 h;have:=b.sz_eq;omega
theorem Q7 {s:Z5} {k:Nat} {b:Z7} (h:s.kids[k]? = some b):b.sz<s.sz:=by have:=MV h;have:=s.sz_eq;omega
theorem J6 (s:Z5):s.args.length<s.sz:=by have:=s.sz_eq;omega
theorem QK (s:Z5):s.kids.length<s.sz:=by have:=s.sz_eq;have:=MW s.kids;omega
theorem Un (b:Z7):b.steps.length<b.sz:=by have:=b.sz_eq;have:=KU b.steps;omega
structure Qv (ds:List Ze):Prop where
 len:ds.length<=4194304
 cons:∀d∈ds,d.cons.length<=4194304
 fields:∀d∈ds,∀c∈d.cons,c.fields.length<=4194304
theorem Qv.cons_at {ds:List Ze} (h:Qv ds) {k:Nat} {d:Ze} (hd:ds[k]? = some d):d.cons.length<=4194304:=h.cons d (Y4 hd)
theorem Qv.fields_at {ds:List Ze} (h:Qv ds) {k j:Nat} {d:Ze} {c:Yp} (hd:ds[k]? = some d) (hc:d.cons[j]? = some c):c.fields.length<=4194304:=
 h.fields d (Y4 hd) c (Y4 hc)
def JR (m:Nat) (c:Yp):Bool:=decide (c.fields.length<=3)&&Wm m c.fields
def QB (d:Ze):List Ze->Bool
 | []=>false
 | e::r=>if e.cons.length=0/\e.frm=d.frm/\e.to_=d.to_ then true else QB d r
def Tw (m:Nat):List Yp->Bool
 | []=>true
 | c::r=>if JR m c=true then Tw m r else false
def Tj (ds:List Ze) (d:Ze) (i:Nat):Bool:=
 if 0<d.cons.length then (if d.cons.length<=3/\d.frm=0/\d.to_=0 then Tw ds.length d.cons else false)
 else if QB d (ds.take i)=true then false else decide (0<=d.frm/\d.frm<=ds.length)&&decide (0<=d.to_/\d.to_<=ds.length)
def C6 (ds:List Ze) (i:Nat):Bool:=(ds[i]?.map fun d=>Tj ds d i).getD false
theorem FD {ds:List Ze} {i:Nat} {d:Ze} (h:ds[i]? = some d):C6 ds i=Tj ds d i:=by rw [C6,h];rfl
def UW (ds:List Ze):List Ze->Nat->Bool
 | [],_=>true
 | _::r,i=>if C6 ds i=true then UW ds r (i+1) else false
def WS (ds:List Ze):Bool:=decide (ds.length<=4)&&UW ds ds 0
theorem Z2y {m:Nat} {cs:List Yp}:Tw m cs=true↔∀c∈cs,JR m c=true:=by
 induction cs with
 | nil=>simp [Tw]
 | cons c r ih=>
  rw [Tw]
  split
  ·rename_i h;simp [ih,h]
  ·rename_i h;simp [h]
theorem Ng {ds:List Ze}:∀{l:List Ze} {i:Nat},UW ds l i=true↔∀j<l.length,C6 ds (i+j)=true
 | [],i=>by simp [UW]
 | d::r,i=>by
  rw [UW]
  split
  ·rename_i h
   rw [Ng (l:=r)]
   constructor
   ·intro hq j hj
    cases j with
    | zero=>exact h
    | succ j=>have:=hq j (by simpa using hj);rwa [show i+(j+1)=i+1+j by omega]
   ·intro hq j hj
    have:=hq (j+1) (by simpa using hj)
    rwa [show i+(j+1)=i+1+j by omega] at this
  ·rename_i h
   simp only [Bool.false_eq_true,false_iff]
   intro hq
   exact h (hq 0 (by simp))
theorem Mi {ds:List Ze} (h:WS ds=true):Xy ds:=by
 simp only [WS,Xb,decide_eq_true_eq] at h
 obtain ⟨h1,h2⟩:=h
 rw [Ng] at h2
 have key:∀d∈ds,∃i,Tj ds d i=true:=fun d hd=>by
  obtain ⟨i,hi⟩:=List.mem_iff_getElem?.1 hd
  have:=h2 i (Xc.1 hi).1
  rw [Wk,FD hi] at this
  exact ⟨i,this⟩
 have hc:∀d∈ds,0<d.cons.length->d.cons.length<=3/\Tw ds.length d.cons=true:=fun d hd hp=>by
  obtain ⟨i,hi⟩:=key d hd
  rw [Tj,Zl hp] at hi
  split at hi
  ·rename_i h;exact ⟨h.1,hi⟩
  ·cases hi
 refine ⟨h1,fun d hd=>?_,fun d hd c hc'=>?_⟩
 ·by_cases hp:0<d.cons.length
  ·exact (hc d hd hp).1
  ·omega
 ·have:=Z2y.1 (hc d hd (List.length_pos_of_mem hc')).2 c hc'
  simp only [JR,Xb,decide_eq_true_eq] at this
  exact this.1
def KP (m:Nat) (f:Sg):Bool:=decide (f.params.length<=3)&&(Wm m f.params&&decide (0<=f.result/\f.result<=m))
def KQ (m:Nat):List Sg->Bool
 | []=>true
 | f::r=>if KP m f=true then KQ m r else false
def FQ:List Sg->Bool
 | []=>false
 | f::_=>decide (f.params.length=0)&&decide (f.result=0)
theorem Z4u {fs:List Sg} {x:Sg} (h:fs[0]? = some x):FQ fs=(decide (x.params.length=0)&&decide (x.result=0)):=by
 cases fs with
 | nil=>simp at h
 | cons f r=>simp at h;subst h;rfl
def US (ds:List Ze) (fs:List Sg):Bool:=
 WS ds&&(decide (1<=fs.length/\fs.length<=4)&&(KQ ds.length fs&&FQ fs))
def Kb (ps:LI):LI->Option Int->Bool
 | [],_=>true
 | v::r,prev=>if (0<=v/\v<=(ps.length:Int)-1)/\ps[v.toNat]?≠some 0/\(∀p,prev=some p->p<v) then Kb ps r (some v) else false
theorem Lg {ps r:LI} {v:Int} {prev:Option Int} (h:(0<=v/\v<=(ps.length:Int)-1)/\ps[v.toNat]?≠some 0/\(∀p,prev=some p->p<v)):Kb ps (v::r) prev=Kb ps r (some v):=by
 rw [Kb,Zl h]
theorem Gm {ps r:LI} {v:Int} {prev:Option Int} (h:¬((0<=v/\v<=(ps.length:Int)-1)/\ps[v.toNat]?≠some 0/\(∀p,prev=some p->p<v))):Kb ps (v::r) prev=false:=by
 rw [Kb,Zd h]
def Uj (ps ls:LI):Bool:=Kb ps ls none
def Cs:List YA->Bool
 | []=>true
 | r::rs=>if Uj r.params r.lent=true then Cs rs else false
def TT (r:YA):Sg:=⟨r.params,r.result⟩
def A6 (n:ZF):Bool:=decide (n.routines.length<=4)&&(US n.decls (n.routines.map TT)&&Cs n.routines)
end Go.Abs
section
namespace Go.Abs
def V1 {α:Type} (xs:List α) (i:Int):Option α:=if 0<=i/\i<=(xs.length:Int)-1 then xs[i.toNat]? else none
theorem Be {α:Type} {xs:List α} {i:Int} {x:α} (h:0<=i/\i<=(xs.length:Int)-1) (hx:xs[i.toNat]? = some x):V1 xs i=some x:=by rw [V1,Zl h,hx]
theorem Ar {α:Type} {xs:List α} {i:Int} (h:¬(0<=i/\i<=(xs.length:Int)-1)):V1 xs i=none:=by rw [V1,Zd h]
theorem CQ {α:Type} {xs:List α} {i:Int} {x:α} (h:V1 xs i=some x):(0<=i/\i<=(xs.length:Int)-1)/\xs[i.toNat]? = some x:=by
 rw [V1] at h
 split at h
 ·rename_i h1;exact ⟨h1,h⟩
 ·cases h
def Kn (vars:LI):LI->LI->Bool
 | [],[]=>true
 | a::as1,t::ts=>if V1 vars a=some t then Kn vars as1 ts else false
 | _,_=>false
def WR (vars args types:LI):Bool:=Kn vars args types
theorem Z02 {vars:LI}:∀{args types:LI},args.length≠types.length->Kn vars args types=false
 | [],[],h=>absurd rfl h
 | [],_::_,_=>rfl
 | _::_,[],_=>rfl
 | a::as1,t::ts,h=>by
  rw [Kn]
  split
  ·exact Z02 (by simpa using h)
  ·rfl
theorem Zfw {vars args types:LI} {k:Nat} {a t:Int} (ha:args[k]? = some a) (ht:types[k]? = some t) (h:V1 vars a=some t) :
  Kn vars (args.drop k) (types.drop k)=Kn vars (args.drop (k+1)) (types.drop (k+1)):=by
 rw [Yo ha,Yo ht,Kn,Zl h]
theorem Z01 {vars args types:LI} {k:Nat} {a t:Int} (ha:args[k]? = some a) (ht:types[k]? = some t) (h:V1 vars a≠some t) :
  Kn vars (args.drop k) (types.drop k)=false:=by
 rw [Yo ha,Yo ht,Kn,Zd h]
theorem Zfv {vars args types:LI} {k:Nat} (ha:args.length<=k) (ht:types.length<=k):Kn vars (args.drop k) (types.drop k)=true:=by
 rw [Xt ha,Xt ht];rfl
def Q3 (op:Int):Bool:=op==0||(op==6||(op==8||(op==9||op==10)))
def Xg (op:Int):Bool:=decide (0<=op/\op<=11)
def YN (op:Int):Bool:=decide (14<=op/\op<=17)
def TW (vars:LI) (op into:Int):Bool:=
 if into=0 then true else if op=6 then ((V1 vars (into-1)).map fun t=>decide (0<t)).getD false else false
def E1 (ds:List Ze) (ps:LI) (res:Int):Int:=JL ds (ps.getLast?.getD 0) res
def BC (ds:List Ze) (vars:LI) (op:Int) (args:LI) (r:YA):Int:=
 if op=9 then (if WR vars args r.params=true then r.result else -1)
 else if r.params.length=0∨0<r.lent.length∨¬WR vars args (r.params.take (r.params.length-1))=true then -1
 else E1 ds r.params r.result
def QS (n:ZF) (vars:LI) (op num:Int) (args:LI):Int:=
 match V1 n.routines num with
 | none=>-1
 | some r=>BC n.decls vars op args r
def Kw (ds:List Ze) (vars:LI) (op:Int) (args:LI):Int:=
 match args with
 | [a]=>match V1 vars a with
  | some t=>if t=0 then -1 else if (op≠14/\op≠15)/\VL ds t=true then -1 else 0
  | none=>-1
 | _=>-1
def Ku (ds:List Ze) (vars:LI) (args:LI):Int:=
 match args with
 | [a,b]=>match V1 vars a with
  | some t=>if VL ds t=true then
    (match ds[(t-1).toNat]? with
     | some d=>if WR vars [b] [d.frm]=true then d.to_ else -1
     | none=>-1) else -1
  | none=>-1
 | _=>-1
def XY (ds:List Ze) (op num:Int):List LI:=if op=7 then [[],[]] else (ZX ds num).map (ZQ ds)
mutual
def X0 (n:ZF) (vars:LI):Z5->Int
 | .mk op num into args kids=>
  if (num≠0/\¬Q3 op=true)∨¬TW vars op into=true∨(0<kids.length/\op≠7/\op≠8) then -1
  else if op=0 then (if args.length=0/\(-999<=num/\num<=999) then 0 else -1)
  else if op=1∨op=2∨op=3∨op=4 then (if WR vars args [0,0]=true then 0 else -1)
  else if op=5 then (if WR vars args [0]=true then 0 else -1)
  else if op=6 then (if 0<Wi n.decls num/\WR vars args (ZQ n.decls num)=true then Wi n.decls num else -1)
  else if op=7 then (if WR vars args [0]=true then (if (XY n.decls op num).length=0∨kids.length≠(XY n.decls op num).length then -1 else Qj n vars kids (XY n.decls op num) true 0) else -1)
  else if op=8 then (if WR vars args [num]=true then (if (XY n.decls op num).length=0∨kids.length≠(XY n.decls op num).length then -1 else Qj n vars kids (XY n.decls op num) true 0) else -1)
  else if op=9∨op=10 then QS n vars op num args
  else if op=11 then Ku n.decls vars args
  else if op=14∨op=15∨op=16∨op=17 then Kw n.decls vars op args
  else -1
def Qj (n:ZF) (vars:LI):List Z7->List LI->Bool->Int->Int
 | [],_,_,t=>t
 | b::bs,more,first,t=>
  match more with
  | []=>-1
  | m::ms=>if W1 n (vars++m) b<0∨(first=false/\W1 n (vars++m) b≠t) then -1 else Qj n vars bs ms false (W1 n (vars++m) b)
def Um (n:ZF):List Z5->LI->Option LI
 | [],vars=>some vars
 | s::r,vars=>if X0 n vars s<0 then none else Um n r (if Xg s.op=true then vars++[X0 n vars s] else vars)
def W1 (n:ZF) (vars:LI):Z7->Int
 | .mk steps result=>match Um n steps vars with
  | none=>-1
  | some vs=>(V1 vs result).getD (-1)
end
def Jn (n:ZF) (vars:LI) (op num:Int) (kids:List Z7):Int:=
 if (XY n.decls op num).length=0∨kids.length≠(XY n.decls op num).length then -1 else Qj n vars kids (XY n.decls op num) true 0
mutual
def Bq:Z5->Int->Int
 | .mk _ _ _ _ kids,left=>A4 kids left
def T7:Z7->Int->Int
 | .mk steps _,left=>Jp steps left
def Jp:List Z5->Int->Int
 | [],left=>left
 | s::r,left=>if left<1 then -1 else if Bq s (left-1)<0 then -1 else Jp r (Bq s (left-1))
def A4:List Z7->Int->Int
 | [],left=>left
 | b::r,left=>if T7 b left<0 then -1 else A4 r (T7 b left)
end
def AZ (b:Z7):Int:=if T7 b 600<0 then -1 else 600-T7 b 600
def AU (n:ZF):List YA->Bool
 | []=>true
 | r::rs=>if ¬AZ r.body<0/\W1 n r.params r.body=r.result then AU n rs else false
def QW (n:ZF):Bool:=A6 n&&AU n n.routines
theorem Pe:(∀(s:Z5) (l:Int),0<=l->Bq s l<=l)/\(∀(b:Z7) (l:Int),0<=l->T7 b l<=l):=by
 have key:∀m:Nat,(∀s:Z5,s.sz<=m->∀l:Int,0<=l->Bq s l<=l)/\(∀b:Z7,b.sz<=m->∀l:Int,0<=l->T7 b l<=l):=by
  intro m
  induction m with
  | zero=>exact ⟨fun s h=>by have:=s.sz_pos;omega,fun s h=>by have:=s.sz_pos;omega⟩
  | succ m ih=>
   refine ⟨fun s hs l hl=>?_,fun b hb l hl=>?_⟩
   ·cases s with
    | mk op num into args kids=>
     rw [Bq]
     have hk:YW kids<=m:=by rw [Z5.sz] at hs;omega
     clear hs
     induction kids generalizing l with
     | nil=>rw [A4];exact Int.le_refl _
     | cons b r ihr=>
      rw [YW] at hk
      have:=ih.2 b om l hl
      rw [A4]
      split
      ·omega
      ·have:=ihr (T7 b l) om om;omega
   ·cases b with
    | mk steps res=>
     rw [T7]
     have hk:Yu steps<=m:=by rw [Z7.sz] at hb;omega
     clear hb
     induction steps generalizing l with
     | nil=>rw [Jp];exact Int.le_refl _
     | cons s r ihr=>
      rw [Yu] at hk
      rw [Jp]
      split
      ·omega
      ·have:=ih.1 s om (l-1) om
       split
       ·omega
       ·have:=ihr (Bq s (l-1)) om om;omega
 exact ⟨fun s l hl=>(key s.sz).1 s (X9 _) l hl,fun b l hl=>(key b.sz).2 b (X9 _) l hl⟩
end Go.Abs
namespace Go.Abs
theorem Zf3 {l:List Z5} {k:Nat} {s:Z5} (h:l[k]? = some s):k+s.sz<=Yu l:=by
 induction l generalizing k with
 | nil=>simp at h
 | cons t r ih=>
  cases k with
  | zero=>simp at h;subst h;simp only [Yu];omega
  | succ k=>have:=ih (k:=k) (by simpa using h);have:=t.sz_pos;simp only [Yu];omega
theorem CE {b:Z7} {k:Nat} {s:Z5} (h:b.steps[k]? = some s):k+s.sz<b.sz:=by have:=Zf3 h;have:=b.sz_eq;omega
structure Xs (n:ZF):Prop where
 decls:Xy n.decls
 len:n.routines.length<=4
 params:∀r∈n.routines,r.params.length<=3
 lent:∀r∈n.routines,r.lent.length<=4194304
theorem Xs.params_at {n:ZF} (h:Xs n) {k:Nat} {r:YA} (hr:n.routines[k]? = some r):r.params.length<=3:=h.params r (Y4 hr)
theorem Xs.lent_at {n:ZF} (h:Xs n) {k:Nat} {r:YA} (hr:n.routines[k]? = some r):r.lent.length<=4194304:=h.lent r (Y4 hr)
theorem Z1r {ds:List Ze} {num:Int} {k:Nat} {x:Int} (h:(ZX ds num)[k]? = some x):(XY ds 8 num)[k]? = some (ZQ ds x):=by
 rw [XY,Zd om,J1,h];rfl
end Go.Abs
namespace Go.Abs
theorem Dt {ds:List Ze} (hd:Xy ds) (t:Int):(ZX ds t).length<=3:=by
 rw [ZX]
 split
 ·rename_i h
  obtain ⟨d,hd1⟩:=AH (xs:=ds) (j:=(t-1).toNat) om
  rw [hd1,Zaq]
  exact hd.cons_at hd1
 ·simp
theorem Ve {ds:List Ze} (hd:Xy ds) (c:Int):(ZQ ds c).length<=3:=by
 by_cases h:Wi ds c<1
 ·rw [(N5 h).1];simp
 ·obtain ⟨k,d,x,h1,_,h3,_,h5⟩:=HV h
  rw [h5];exact hd.fields_at h1 h3
theorem MH {ds:List Ze} (hd:Xy ds) {op num:Int} {k:Nat} {m:LI} (h:(XY ds op num)[k]? = some m):m.length<=3:=by
 have hm:=Y4 h
 rw [XY] at hm
 split at hm
 ·simp at hm;subst hm;simp
 ·obtain ⟨c,_,rfl⟩:=XN.1 hm;exact Ve hd c
theorem Kv {α:Type} {xs:List α} {x:α} (h:xs.length=1) (hx:xs[0]? = some x):xs=[x]:=by
 cases xs with
 | nil=>simp at h
 | cons a r=>
  cases r with
  | nil=>simp at hx;rw [hx]
  | cons b r=>simp at h
theorem CV {ds:List Ze} {us args:LI} {op:Int} (h:args.length≠1):Kw ds us op args=-1:=by
 cases args with
 | nil=>rfl
 | cons a r=>
  cases r with
  | nil=>simp at h
  | cons b r=>rfl
theorem CW {ds:List Ze} {us args:LI} {op a:Int} (h:args=[a]) (hi:¬(0<=a/\a<=(us.length:Int)-1)):Kw ds us op args=-1:=by
 subst h;rw [Kw];simp only [Ar hi]
theorem CU {ds:List Ze} {us args:LI} {op a t:Int} (h:args=[a]) (hi:0<=a/\a<=(us.length:Int)-1) (ht:us[a.toNat]? = some t) :
  Kw ds us op args=if t=0 then -1 else if (op≠14/\op≠15)/\VL ds t=true then -1 else 0:=by
 subst h;rw [Kw];simp only [Be hi ht]
theorem Zce {n:ZF} {us args:LI} {op num:Int} {r:YA} (hi:0<=num/\num<=(n.routines.length:Int)-1) (hr:n.routines[num.toNat]? = some r) :
  QS n us op num args=BC n.decls us op args r:=by
 rw [QS];simp only [Be hi hr]
theorem Zcf {n:ZF} {us args:LI} {op num:Int} (hi:¬(0<=num/\num<=(n.routines.length:Int)-1)):QS n us op num args=-1:=by
 rw [QS];simp only [Ar hi]
theorem Z7s {xs:LI} {x:Int} (h:xs[xs.length-1]? = some x):xs.getLast?.getD 0=x:=by
 rw [List.getLast?_eq_getElem?,h];rfl
theorem Z9m {n:ZF} {us:LI} {bs:List Z7} {ms:List LI} {b:Z7} {m:LI} {k:Nat} {t:Int} (hb:bs[k]? = some b) (hm:ms[k]? = some m)
  (h:¬(W1 n (us++m) b<0∨(k:Int)>0/\W1 n (us++m) b≠t)) :
  Qj n us (bs.drop k) (ms.drop k) (decide (k=0)) t=Qj n us (bs.drop (k+1)) (ms.drop (k+1)) (decide (k+1=0)) (W1 n (us++m) b):=by
 rw [Yo hb,Yo hm,Qj,Zd]
 ·simp
 ·rintro (q|⟨q1,q2⟩)
  ·exact h (.inl q)
  ·exact h (.inr ⟨by simp at q1;omega,q2⟩)
theorem Z9k {n:ZF} {us:LI} {bs:List Z7} {ms:List LI} {b:Z7} {m:LI} {k:Nat} {t:Int} (hb:bs[k]? = some b) (hm:ms[k]? = some m)
  (h:W1 n (us++m) b<0∨(k:Int)>0/\W1 n (us++m) b≠t) :
  Qj n us (bs.drop k) (ms.drop k) (decide (k=0)) t=-1:=by
 rw [Yo hb,Yo hm,Qj,Zl]
 rcases h with q|⟨q1,q2⟩
 ·exact .inl q
 ·exact .inr ⟨by simp;omega,q2⟩
theorem Z9l {n:ZF} {us:LI} {bs:List Z7} {ms:List LI} {k:Nat} {f:Bool} {t:Int} (hb:bs.length<=k):Qj n us (bs.drop k) (ms.drop k) f t=t:=by
 rw [Xt hb,Qj]
end Go.Abs
end
namespace Go.Abs
theorem M7 (n:ZF) (us:LI) (s:Z5):X0 n us s =
  if (s.num≠0/\¬Q3 s.op=true)∨¬TW us s.op s.into=true∨(0<s.kids.length/\s.op≠7/\s.op≠8) then -1
  else if s.op=0 then (if s.args.length=0/\(-999<=s.num/\s.num<=999) then 0 else -1)
  else if s.op=1∨s.op=2∨s.op=3∨s.op=4 then (if WR us s.args [0,0]=true then 0 else -1)
  else if s.op=5 then (if WR us s.args [0]=true then 0 else -1)
  else if s.op=6 then (if 0<Wi n.decls s.num/\WR us s.args (ZQ n.decls s.num)=true then Wi n.decls s.num else -1)
  else if s.op=7 then (if WR us s.args [0]=true then Jn n us s.op s.num s.kids else -1)
  else if s.op=8 then (if WR us s.args [s.num]=true then Jn n us s.op s.num s.kids else -1)
  else if s.op=9∨s.op=10 then QS n us s.op s.num s.args
  else if s.op=11 then Ku n.decls us s.args
  else if s.op=14∨s.op=15∨s.op=16∨s.op=17 then Kw n.decls us s.op s.args
  else -1:=by
 cases s with
 | mk op num into args kids=>rw [X0];rfl
theorem HO (n:ZF) (us:LI) (b:Z7):W1 n us b=match Um n b.steps us with
  | none=>-1
  | some vs=>(V1 vs b.result).getD (-1):=by
 cases b with
 | mk st r=>rw [W1];rfl
theorem MF {α:Type} {xs:List α} {x:α} (h:xs.length=2) (hx:xs[0]? = some x):∃y,xs=[x,y]:=by
 match xs,h with
 | [a,b],_=>simp at hx;subst hx;exact ⟨b,rfl⟩
theorem UI {ds:List Ze} {us args:LI} (h:args.length≠2):Ku ds us args=-1:=by
 match args,h with
 | [],_=>rfl
 | [_],_=>rfl
 | [_,_],h=>simp at h
 | _::_::_::_,_=>rfl
theorem UJ {ds:List Ze} {us args:LI} {a:Int} (hl:args.length=2) (h:args[0]? = some a) (hi:¬(0<=a/\a<=(us.length:Int)-1)):Ku ds us args=-1:=by
 obtain ⟨y,rfl⟩:=MF hl h;rw [Ku];simp only [Ar hi]
theorem Uq {ds:List Ze} {us args:LI} {a t:Int} (hl:args.length=2) (h:args[0]? = some a) (hi:0<=a/\a<=(us.length:Int)-1) (ht:us[a.toNat]? = some t) :
  Ku ds us args=if VL ds t=true then
    (match ds[(t-1).toNat]? with
     | some d=>if WR us (args.drop 1) [d.frm]=true then d.to_ else -1
     | none=>-1) else -1:=by
 obtain ⟨y,rfl⟩:=MF hl h;rw [Ku];simp only [Be hi ht];rfl
theorem Z1k {ds:List Ze} {us args:LI} {a t:Int} {d:Ze} (hl:args.length=2) (h:args[0]? = some a) (hi:0<=a/\a<=(us.length:Int)-1) (ht:us[a.toNat]? = some t)
  (hA:VL ds t=true) (hd:ds[(t-1).toNat]? = some d):Ku ds us args=if WR us (args.drop 1) [d.frm]=true then d.to_ else -1:=by
 rw [Uq hl h hi ht,Zl hA];simp only [hd]
theorem IV {ds:List Ze} {t:Int} (h:VL ds t=true):1<=t/\t<=ds.length:=by
 simp only [VL,Xb,decide_eq_true_eq] at h;exact h.1
theorem Za4 (b:Z7) (l:Int):T7 b l=Jp b.steps l:=by cases b;rw [T7];rfl
theorem Pf (s:Z5) (l:Int):Bq s l=A4 s.kids l:=by cases s;rw [Bq];rfl
structure JF (n:ZF):Prop where
 decls:Qv n.decls
 len:n.routines.length<=4194304
 params:∀r∈n.routines,r.params.length<=4194304
 lent:∀r∈n.routines,r.lent.length<=4194304
 body:∀r∈n.routines,r.body.sz<=10000000
theorem LV {m:Nat} {fs:List Sg} (h:KQ m fs=true):∀f∈fs,KP m f=true:=by
 induction fs with
 | nil=>simp
 | cons f r ih=>
  rw [KQ] at h
  split at h
  ·rename_i h1
   intro g hg
   rcases YM.1 hg with rfl|hg
   ·exact h1
   ·exact ih h g hg
  ·cases h
theorem Pr {n:ZF} (hz:JF n) (h:A6 n=true):Xs n:=by
 simp only [A6,US,Xb,decide_eq_true_eq] at h
 obtain ⟨h1,⟨h2,h3,h4,h5⟩,h6⟩:=h
 refine ⟨Mi h2,h1,fun r hr=>?_,hz.lent⟩
 have:=LV h4 (TT r) (XN.2 ⟨r,hr,rfl⟩)
 simp only [KP,Xb,decide_eq_true_eq] at this
 exact this.1
def gI (xs:LI) (i:Int):Int:=xs[i.toNat]?.getD 0
theorem T5 {xs:LI} {i:Int} {x:Int} (h:xs[i.toNat]? = some x):gI xs i=x:=by rw [gI,h];rfl
structure ZO where
 vars:LI
 own:LI
 par:LI
 con:LI
 fst:LI
 tok:LI
def ZO.grow (L:ZO) (t own par:Int):ZO:=⟨L.vars++[t],L.own++[own],L.par++[par],L.con++[-1],L.fst++[-1],L.tok++[-1]⟩
def TV (L:ZO) (v:Int):Option ZO:=if gI L.own v<1 then none else some { L with own:=L.own.set v.toNat (gI L.own v-1) }
def Qy (own par ln:LI):Nat->Int->Bool
 | 0,_=>false
 | k+1,v=>if gI own v<1/\¬v∈ln then (if gI par v<0 then false else Qy own par ln k (gI par v)) else true
def UV (L:ZO) (ln:LI) (v:Int):Bool:=Qy L.own L.par ln (v.toNat+1) v
def Qf:LI->Int->LI->LI
 | own,_,[]=>own
 | own,p,f::r=>Qf (if f≠0 then own.set p.toNat (gI own p+1) else own) (p+1) r
def A7 (ds:List Ze) (L:ZO) (op x:Int):Option ZO:=
 if gI L.con x<0∨(op=17/\0<=gI L.tok x) then none
 else match TV L x with
  | none=>none
  | some L1=>some { L1 with
    own:=Qf L1.own (gI L.fst x) (ZQ ds (gI L.con x))
    tok:=if op=17 then L.tok.set x.toNat (ZQ ds (gI L.con x)).length else L.tok }
def JT (op:Int):Bool:=op==6||(op==9||(op==10||op==11))
def Dq (n:ZF) (op num:Int):LI:=if op=9 then ((n.routines[num.toNat]?).map (·.lent)).getD [] else []
def UP (n:ZF) (op num:Int) (i:Nat):Bool:=decide ((i:Int)∈Dq n op num)
def J7 (n:ZF) (vars:LI) (op num a:Int) (i:Nat):Bool:=JT op&&(gI vars a != 0&&!UP n op num i)
def K7 (n:ZF) (op num:Int):LI->Nat->ZO->Option ZO
 | [],_,L=>some L
 | a::r,i,L=>if J7 n L.vars op num a i=true then (match TV L a with
   | none=>none
   | some L1=>K7 n op num r (i+1) L1) else K7 n op num r (i+1) L
def Bn (n:ZF) (op num:Int) (ln:LI) (L:ZO):LI->Nat->Bool
 | [],_=>true
 | a::r,i=>if UP n op num i=true/\¬UV L ln a=true then false else Bn n op num ln L r (i+1)
def Ej (L:ZO) (into:Int) (m:Nat):Option ZO:=
 if 0<into then (if gI L.tok (into-1)≠m then none else some { L with tok:=L.tok.set (into-1).toNat (-1) }) else some L
def Jf (n:ZF) (ln:LI) (L:ZO) (op num into:Int) (args:LI):Option ZO:=
 match K7 n op num args 0 L with
 | none=>none
 | some L1=>if Bn n op num ln L1 args 0=true then Ej L1 into args.length else none
def BL:LI->LI->Bool
 | o::os,t::ts=>if o≠0∨0<=t then false else BL os ts
 | _,_=>true
def ZO.take (L:ZO) (m:Nat):ZO:=⟨L.vars.take m,L.own.take m,L.par.take m,L.con.take m,L.fst.take m,L.tok.take m⟩
def J8 (L:ZO) (m:Nat):Option ZO:=if BL (L.own.drop m) (L.tok.drop m)=true then some (L.take m) else none
def Ck (L:ZO) (par:Int):LI->ZO
 | []=>L
 | t::r=>Ck (L.grow t 0 par) par r
def BX (ds:List Ze) (L:ZO) (x c:Int):ZO:=
 Ck { L with con:=L.con.set x.toNat c,fst:=L.fst.set x.toNat L.vars.length } x (ZQ ds c)
def Tz (ds:List Ze) (L:ZO) (op num:Int) (args:LI) (i:Nat):ZO:=
 if op=8 then BX ds L (gI args 0) (gI (ZX ds num) i) else L
def AS (lent:LI):LI->Nat->ZO->ZO
 | [],_,L=>L
 | t::r,i,L=>AS lent r (i+1) (L.grow t (if t≠0/\¬(i:Int)∈lent then 1 else 0) (-1))
def Kd (r:YA):ZO:=AS r.lent r.params 0 ⟨[],[],[],[],[],[]⟩
def C7 (L:ZO) (ln:LI) (v:Int):Option ZO:=if UV L ln v=true then some { L with own:=L.own.set v.toNat (gI L.own v+1) } else none
def Jv (n:ZF) (ln:LI) (L:ZO) (op num into:Int) (args:LI) (ch:Option ZO):Option ZO:=
 if op=14 then C7 L ln (gI args 0)
 else if op=15 then TV L (gI args 0)
 else if op=16∨op=17 then A7 n.decls L op (gI args 0)
 else if op=7∨op=8 then (if op=8/\¬UV L ln (gI args 0)=true then none else ch)
 else Jf n ln L op num into args
def A1 (L:ZO) (op t:Int) (r:Option ZO):Option ZO:=
 match r with
 | none=>none
 | some L1=>if Xg op=true then some (L1.grow t (if t≠0 then 1 else 0) (-1)) else some L1
def Cu (L:ZO) (first:Option ZO) (rest:ZO->Bool):Option ZO:=
 match first with
 | none=>none
 | some one=>if rest one=true then some { L with own:=one.own,tok:=one.tok } else none
def GY (one:ZO) (two:Option ZO) (rest:Bool):Bool:=
 match two with
 | none=>false
 | some two=>if one.own=two.own/\one.tok=two.tok then rest else false
def F3 (r:Option ZO) (f:ZO->Option ZO):Option ZO:=match r with|none=>none|some L=>f L
def JZ (m:Nat) (res:Int) (L:ZO):Option ZO:=F3 (if gI L.vars res≠0 then TV L res else some L) fun L2=>J8 L2 m
mutual
def Qo (n:ZF) (ln:LI) (L:ZO):Z5->Option ZO
 | .mk op num into args kids=>A1 L op (X0 n L.vars (.mk op num into args kids)) (Jv n ln L op num into args (KH n ln L op num args kids))
def KH (n:ZF) (ln:LI) (L:ZO) (op num:Int) (args:LI):List Z7->Option ZO
 | []=>none
 | b::bs=>Cu L (VS n ln (Tz n.decls L op num args 0) L.vars.length b) fun one=>Jm n ln L op num args one bs 1
def Jm (n:ZF) (ln:LI) (L:ZO) (op num:Int) (args:LI) (one:ZO):List Z7->Nat->Bool
 | [],_=>true
 | b::bs,i=>GY one (VS n ln (Tz n.decls L op num args i) L.vars.length b) (Jm n ln L op num args one bs (i+1))
def Jw (n:ZF) (ln:LI) (L:ZO):List Z5->Option ZO
 | []=>some L
 | s::r=>F3 (Qo n ln L s) fun L1=>Jw n ln L1 r
def VS (n:ZF) (ln:LI) (L:ZO) (m:Nat):Z7->Option ZO
 | .mk steps result=>F3 (Jw n ln L steps) (JZ m result)
end
theorem SK (n:ZF) (ln:LI) (L:ZO) (s:Z5):Qo n ln L s=A1 L s.op (X0 n L.vars s) (Jv n ln L s.op s.num s.into s.args (KH n ln L s.op s.num s.args s.kids)):=by
 cases s with
 | mk op num into args kids=>rw [Qo];rfl
theorem HN (n:ZF) (ln:LI) (L:ZO) (m:Nat) (b:Z7):VS n ln L m b=F3 (Jw n ln L b.steps) (JZ m b.result):=by
 cases b with
 | mk st r=>rw [VS];rfl
def Z1w (n:ZF) (r:YA):Bool:=
 match VS n r.lent (Kd r) r.params.length r.body with
 | none=>false
 | some L=>(J8 L 0).isSome
def MQ (n:ZF):List YA->Bool
 | []=>true
 | r::rs=>if Z1w n r=true then MQ n rs else false
def Z1x (n:ZF):Bool:=QW n&&MQ n n.routines
structure Tf (L:ZO):Prop where
 own:L.own.length=L.vars.length
 par:L.par.length=L.vars.length
 con:L.con.length=L.vars.length
 fst:L.fst.length=L.vars.length
 tok:L.tok.length=L.vars.length
structure XH (ds:List Ze) (L:ZO) (q:Int):Prop where
 len:Tf L
 down:∀j:Int,0<=j->j<L.vars.length->gI L.par j<j
 arm:∀x:Int,0<=x->x<L.vars.length->0<=gI L.con x->0<=gI L.fst x/\gI L.fst x+(ZQ ds (gI L.con x)).length<=L.vars.length
 nn:∀x∈L.own,0<=x
 bd:∀x∈L.own,x<=q
end Go.Abs
section
namespace Go.Abs
end Go.Abs
namespace Go.Abs
theorem Za5 {n:ZF} {op num:Int} {r:YA} (h:op=9) (hr:n.routines[num.toNat]? = some r):Dq n op num=r.lent:=by
 rw [Dq,Zl h,hr];rfl
end Go.Abs
namespace Go.Abs
theorem Z16 {own par ln:LI} {N:Int} (hd:∀j:Int,0<=j->j<N->gI par j<j):∀(k:Nat) (v:Int),0<=v->v<N->v.toNat+1<=k->Qy own par ln k v=Qy own par ln (v.toNat+1) v:=by
 intro k
 induction k using Nat.strongRecOn with
 | ind k ih=>
  intro v h0 hN hk
  cases k with
  | zero=>omega
  | succ k=>
   rw [Qy,Qy]
   split
   ·split
    ·rfl
    ·have hdv:=hd v h0 hN
     rw [ih k om (gI par v) om om om]
     rw [ih v.toNat om (gI par v) om om om]
   ·rfl
theorem Z18 {own par ln:LI} {N j x1 x2:Int} {r:Bool} (h1:gI own j=x1) (h2:gI par j=x2) (hj:0<=j/\j<N) (hx:x1<1/\¬j∈ln) (h0:¬x2<0) (hd:∀i:Int,0<=i->i<N->gI par i<i)
  (h:Qy own par ln (j.toNat+1) j=r):Qy own par ln (x2.toNat+1) x2=r:=by
 rw [Qy,h1,h2,Zl hx,Zd h0] at h
 have hdv:=hd j hj.1 hj.2
 rw [<-h,Z16 hd j.toNat x2 om om om]
theorem Z17 {own par ln:LI} {j x1 x2:Int} {r:Bool} (h1:gI own j=x1) (h2:gI par j=x2) (hx:x1<1/\¬j∈ln) (h0:x2<0) (h:Qy own par ln (j.toNat+1) j=r):false=r:=by
 rw [Qy,h1,h2,Zl hx,Zl h0] at h;exact h
theorem Z19 {own par ln:LI} {j x1:Int} {r:Bool} (h1:gI own j=x1) (hx:¬(x1<1/\¬j∈ln)) (h:Qy own par ln (j.toNat+1) j=r):true=r:=by
 rw [Qy,h1,Zd hx] at h;exact h
end Go.Abs
namespace Go.Abs
theorem Jx {L L':ZO} {v:Int} (h:TV L v=some L'):1<=gI L.own v/\L'.vars=L.vars/\L'.par=L.par/\L'.con=L.con/\L'.fst=L.fst/\L'.tok=L.tok/\L'.own=L.own.set v.toNat (gI L.own v-1):=by
 rw [TV] at h
 split at h
 ·cases h
 ·cases h;exact ⟨by omega,rfl,rfl,rfl,rfl,rfl,rfl⟩
theorem FX {xs:LI} {v:Int} (h:gI xs v≠0):gI xs v∈xs:=by
 rw [gI] at h ⊢
 cases hx:xs[v.toNat]? with
 | none=>rw [hx] at h;exact absurd rfl h
 | some y=>exact Y4 hx
theorem Jr {xs:LI} {i:Nat} {a x:Int} (h:x∈xs.set i a):x∈xs∨x=a:=List.mem_or_eq_of_mem_set h
theorem XH.take {ds:List Ze} {L L':ZO} {q v:Int} (hk:XH ds L q) (h:TV L v=some L'):XH ds L' q:=by
 obtain ⟨t1,t2,t3,t4,t5,t6,t7⟩:=Jx h
 obtain ⟨f1,f2,f3,f4,f5⟩:=hk.len
 have hm:=FX (xs:=L.own) (v:=v) om
 refine ⟨⟨by rw [t7,t2,VJ];exact f1,by rw [t3,t2];exact f2,by rw [t4,t2];exact f3,by rw [t5,t2];exact f4,by rw [t6,t2];exact f5⟩,?_,?_,?_,?_⟩
 ·rw [t2,t3];exact hk.down
 ·rw [t2,t4,t5];exact hk.arm
 ·rw [t7];intro x hx
  rcases Jr hx with hx|rfl
  ·exact hk.nn x hx
  ·omega
 ·rw [t7];intro x hx
  rcases Jr hx with hx|rfl
  ·exact hk.bd x hx
  ·have:=hk.bd _ hm;omega
end Go.Abs
end
namespace Go.Abs
theorem Mf {us:LI}:∀{args tys:LI},Kn us args tys=true->args.length=tys.length/\∀a∈args,0<=a/\a<us.length
 | [],[],_=>⟨rfl,by simp⟩
 | [],_::_,h=>by cases h
 | _::_,[],h=>by cases h
 | a::as1,t::ts,h=>by
  rw [Kn] at h
  split at h
  ·rename_i h1
   obtain ⟨q1,q2⟩:=Mf h
   refine ⟨by simp [q1],fun x hx=>?_⟩
   rcases YM.1 hx with rfl|hx
   ·have:=(CQ h1).1;omega
   ·exact q2 x hx
  ·cases h
theorem P3 {n:ZF} {us:LI}:∀{bs:List Z7} {ms:List LI} {f:Bool} {t:Int},0<=t->0<=Qj n us bs ms f t ->
  ∀(i:Nat) (b:Z7) (m:LI),bs[i]? = some b->ms[i]? = some m->0<=W1 n (us++m) b
 | [],_,_,_,_,_,i,b,m,hb,_=>by simp at hb
 | b::bs,[],_,_,_,h,_,_,_,_,hm=>by simp at hm
 | b::bs,m::ms,f,t,ht,h,i,c,l,hc,hl=>by
  rw [Qj] at h
  split at h
  ·omega
  ·rename_i hq
   have h0:0<=W1 n (us++m) b:=by
    rcases Int.lt_or_le (W1 n (us++m) b) 0 with q|q
    ·exact absurd (.inl q) hq
    ·exact q
   cases i with
   | zero=>simp at hc hl;subst hc hl;exact h0
   | succ i=>exact P3 h0 h i c l (by simpa using hc) (by simpa using hl)
structure BT (n:ZF) (us:LI) (s:Z5):Prop where
 args:∀a∈s.args,0<=a/\a<us.length
 one:(s.op=7∨s.op=8∨(14<=s.op/\s.op<=17))->∃a,s.args=[a]
 num:s.op=9->0<=s.num/\s.num<n.routines.length
 into:s.into≠0->1<=s.into/\s.into<=us.length
 kids:(s.op=7∨s.op=8)->s.kids.length=(XY n.decls s.op s.num).length/\(XY n.decls s.op s.num).length≠0 /\
  ∀(i:Nat) (b:Z7) (m:LI),s.kids[i]? = some b->(XY n.decls s.op s.num)[i]? = some m->0<=W1 n (us++m) b
theorem Z9j {n:ZF} {us:LI} {op num:Int} {kids:List Z7} (h:0<=Jn n us op num kids) :
  kids.length=(XY n.decls op num).length/\(XY n.decls op num).length≠0/\∀(i:Nat) (b:Z7) (m:LI),kids[i]? = some b->(XY n.decls op num)[i]? = some m->0<=W1 n (us++m) b:=by
 rw [Jn] at h
 split at h
 ·omega
 ·rename_i hq
  exact ⟨by omega,by omega,P3 (Int.le_refl 0) h⟩
theorem Ph {xs:LI} (h:xs.length=1):∃a,xs=[a]:=by
 match xs,h with
 | [a],_=>exact ⟨a,rfl⟩
theorem SN {n:ZF} {us:LI} {s:Z5} (h:0<=X0 n us s):BT n us s:=by
 rw [M7] at h
 split at h
 ·omega
 rename_i h0
 have hinto:s.into≠0->1<=s.into/\s.into<=us.length:=by
  intro hi
  have hv:TW us s.op s.into=true:=by
   cases q:TW us s.op s.into with
   | true=>rfl
   | false=>exact absurd (.inr (.inl (by rw [q];simp))) h0
  rw [TW,Zd hi] at hv
  split at hv
  ·cases ha:V1 us (s.into-1) with
   | none=>rw [ha] at hv;cases hv
   | some t=>have:=(CQ ha).1;omega
  ·cases hv
 have mk:(∀a∈s.args,0<=a/\a<us.length)->((s.op=7∨s.op=8∨(14<=s.op/\s.op<=17))->∃a,s.args=[a])->(s.op=9->0<=s.num/\s.num<n.routines.length) ->
   ((s.op=7∨s.op=8)->0<=Jn n us s.op s.num s.kids)->BT n us s:=fun a b c d=>⟨a,b,c,hinto,fun q=>Z9j (d q)⟩
 have ty:∀{tys},WR us s.args tys=true->s.args.length=tys.length/\∀a∈s.args,0<=a/\a<us.length:=fun q=>Mf q
 split at h
 ·rename_i h1
  split at h
  ·rename_i h2
   exact mk (by rw [List.eq_nil_of_length_eq_zero h2.1];simp) om om om
  ·omega
 split at h
 ·split at h
  ·rename_i h1 h2;exact mk (ty h2).2 om om om
  ·omega
 split at h
 ·split at h
  ·rename_i h1 h2;exact mk (ty h2).2 om om om
  ·omega
 split at h
 ·split at h
  ·rename_i h1 h2;exact mk (ty h2.2).2 om om om
  ·omega
 split at h
 ·split at h
  ·rename_i h1 h2;exact mk (ty h2).2 (fun _=>Ph (by simpa using (ty h2).1)) om (fun _=>h)
  ·omega
 split at h
 ·split at h
  ·rename_i h1 h2;exact mk (ty h2).2 (fun _=>Ph (by simpa using (ty h2).1)) om (fun _=>h)
  ·omega
 split at h
 ·rename_i hop
  rw [QS] at h
  cases hr:V1 n.routines s.num with
  | none=>rw [hr] at h;simp at h
  | some r=>
   rw [hr] at h
   simp only at h
   have hn:=(CQ hr).1
   rw [BC] at h
   split at h
   ·split at h
    ·rename_i h2;exact mk (ty h2).2 om om om
    ·omega
   ·split at h
    ·omega
    ·rename_i h2
     have h3:WR us s.args (r.params.take (r.params.length-1))=true:=by
      cases q:WR us s.args (r.params.take (r.params.length-1)) with
      | true=>rfl
      | false=>exact absurd (.inr (.inr (by rw [q];simp))) h2
     exact mk (ty h3).2 om om om
 split at h
 ·rename_i hop
  rcases he:s.args with _|⟨a,_|⟨b,_|⟨c,r⟩⟩⟩
  ·rw [he,show Ku n.decls us []=-1 from rfl] at h;omega
  ·rw [he,show Ku n.decls us [a]=-1 from rfl] at h;omega
  ·rw [he,Ku] at h
   cases ha:V1 us a with
   | none=>rw [ha] at h;simp at h
   | some t=>
    rw [ha] at h
    simp only at h
    split at h
    ·cases hd:n.decls[(t-1).toNat]? with
     | none=>rw [hd] at h;simp at h
     | some d=>
      rw [hd] at h
      simp only at h
      split at h
      ·rename_i h3
       have h4:=(Mf h3).2 b (by simp)
       have h5:=(CQ ha).1
       refine mk (fun x hx=>?_) om om om
       rw [he] at hx
       rcases YM.1 hx with rfl|hx
       ·omega
       ·rw [Xr.1 hx];exact h4
      ·omega
    ·omega
  ·rw [he,show Ku n.decls us (a::b::c::r)=-1 from rfl] at h;omega
 split at h
 ·rename_i hop
  rcases he:s.args with _|⟨a,_|⟨b,r⟩⟩
  ·rw [he,show Kw n.decls us s.op []=-1 from rfl] at h;omega
  ·rw [he,Kw] at h
   cases ha:V1 us a with
   | none=>rw [ha] at h;simp at h
   | some t=>
    have h5:=(CQ ha).1
    refine mk (fun x hx=>?_) (fun _=>⟨a,he⟩) om om
    rw [he] at hx
    rw [Xr.1 hx];omega
  ·rw [he,show Kw n.decls us s.op (a::b::r)=-1 from rfl] at h;omega
 ·omega
def QT (n:ZF) (us:LI) (s:Z5):LI:=if Xg s.op=true then us++[X0 n us s] else us
theorem Nk {L L':ZO} {ln:LI} {v:Int} (h:C7 L ln v=some L'):L'.vars=L.vars/\L'.par=L.par/\L'.con=L.con/\L'.fst=L.fst/\L'.tok=L.tok/\L'.own=L.own.set v.toNat (gI L.own v+1):=by
 rw [C7] at h
 split at h
 ·cases h;exact ⟨rfl,rfl,rfl,rfl,rfl,rfl⟩
 ·cases h
theorem HI:∀(fs:LI) (own:LI) (p:Int),(Qf own p fs).length=own.length
 | [],own,p=>rfl
 | f::r,own,p=>by rw [Qf,HI r];split<;>simp
theorem Iy {xs:LI} {q v:Int} (h:∀x∈xs,x<=q) (hq:0<=q):gI xs v<=q:=by
 by_cases h0:gI xs v=0
 ·omega
 ·exact h _ (FX h0)
theorem Iz {xs:LI} {v:Int} (h:∀x∈xs,0<=x):0<=gI xs v:=by
 by_cases h0:gI xs v=0
 ·omega
 ·exact h _ (FX h0)
theorem HJ:∀(fs:LI) (own:LI) (p:Int),(∀x∈own,0<=x)->∀x∈Qf own p fs,0<=x
 | [],own,p,h=>h
 | f::r,own,p,h=>by
  rw [Qf]
  refine HJ r _ _ fun x hx=>?_
  split at hx
  ·rcases Jr hx with hx|rfl
   ·exact h x hx
   ·have:=Iz (v:=p) h;omega
  ·exact h x hx
theorem HH:∀(fs:LI) (own:LI) (p q:Int),0<=q->(∀x∈own,x<=q)->∀x∈Qf own p fs,x<=q+fs.length
 | [],own,p,q,hq,h=>by intro x hx;have:=h x hx;simp;omega
 | f::r,own,p,q,hq,h=>by
  intro x hx
  rw [Qf] at hx
  have:=HH r _ _ (q+1) om (fun y hy=>by
   split at hy
   ·rcases Jr hy with hy|rfl
    ·have:=h y hy;omega
    ·have:=Iy (v:=p) h hq;omega
   ·have:=h y hy;omega) x hx
  simp only [Yx];omega
theorem PO {ds:List Ze} {L L':ZO} {op v:Int} (h:A7 ds L op v=some L'):L'.vars=L.vars/\L'.par=L.par/\L'.con=L.con/\L'.fst=L.fst/\L'.tok.length=L.tok.length /\
  ∃L1,TV L v=some L1/\L'.own=Qf L1.own (gI L.fst v) (ZQ ds (gI L.con v)):=by
 rw [A7] at h
 split at h
 ·cases h
 ·cases ht:TV L v with
  | none=>rw [ht] at h;cases h
  | some L1=>
   rw [ht] at h
   simp only at h
   obtain ⟨t1,t2,t3,t4,t5,t6,t7⟩:=Jx ht
   cases h
   refine ⟨t2,t3,t4,t5,?_,L1,rfl,rfl⟩
   split
   ·rw [VJ]
   ·rfl
theorem IH {n:ZF} {op num:Int} {ds:List Ze} {q:Int}:∀{as1:LI} {i:Nat} {L L':ZO},XH ds L q->K7 n op num as1 i L=some L'->XH ds L' q/\L'.vars=L.vars/\L'.par=L.par/\L'.con=L.con/\L'.fst=L.fst/\L'.tok=L.tok
 | [],i,L,L',hk,h=>by rw [K7] at h;cases h;exact ⟨hk,rfl,rfl,rfl,rfl,rfl⟩
 | a::r,i,L,L',hk,h=>by
  rw [K7] at h
  split at h
  ·cases ht:TV L a with
   | none=>rw [ht] at h;cases h
   | some L1=>
    rw [ht] at h
    obtain ⟨t1,t2,t3,t4,t5,t6,t7⟩:=Jx ht
    obtain ⟨k1,k2,k3,k4,k5,k6⟩:=IH (hk.take ht) h
    exact ⟨k1,k2.trans t2,k3.trans t3,k4.trans t4,k5.trans t5,k6.trans t6⟩
  ·exact IH hk h
theorem XH.le {ds:List Ze} {L:ZO} {q q':Int} (h:XH ds L q) (hq:q<=q'):XH ds L q':=⟨h.len,h.down,h.arm,h.nn,fun x hx=>Int.le_trans (h.bd x hx) hq⟩
theorem XH.turn {ds:List Ze} {L L':ZO} {q q':Int} (hk:XH ds L q) (h1:L'.vars=L.vars) (h2:L'.par=L.par) (h3:L'.con=L.con) (h4:L'.fst=L.fst) (h5:L'.tok.length=L.tok.length) (h6:L'.own.length=L.own.length)
  (h7:∀x∈L'.own,0<=x) (h8:∀x∈L'.own,x<=q'):XH ds L' q':=by
 obtain ⟨f1,f2,f3,f4,f5⟩:=hk.len
 refine ⟨⟨by rw [h6,h1];exact f1,by rw [h2,h1];exact f2,by rw [h3,h1];exact f3,by rw [h4,h1];exact f4,by rw [h5,h1];exact f5⟩,?_,?_,h7,h8⟩
 ·rw [h1,h2];exact hk.down
 ·rw [h1,h3,h4];exact hk.arm
theorem Dd {xs ys:LI} {j:Int} (h:j.toNat<xs.length):gI (xs++ys) j=gI xs j:=by
 rw [gI,gI,Ah h]
theorem O6 {xs:LI} {y:Int} {j:Int} (h:j.toNat=xs.length):gI (xs++[y]) j=y:=by
 rw [gI,h];simp
theorem XH.grow {ds:List Ze} {L:ZO} {q t o p:Int} (hk:XH ds L q) (hp:p<L.vars.length) (ho:0<=o/\o<=q):XH ds (L.grow t o p) q:=by
 obtain ⟨f1,f2,f3,f4,f5⟩:=hk.len
 refine ⟨⟨by simp [ZO.grow,f1],by simp [ZO.grow,f2],by simp [ZO.grow,f3],by simp [ZO.grow,f4],by simp [ZO.grow,f5]⟩,?_,?_,?_,?_⟩
 ·intro j hj hl
  simp only [ZO.grow,Ys,B4] at hl ⊢
  by_cases hlt:j<L.vars.length
  ·rw [Dd om];exact hk.down j hj hlt
  ·rw [O6 om];omega
 ·intro x hx hl
  simp only [ZO.grow,Ys,B4] at hl ⊢
  by_cases hlt:x<L.vars.length
  ·rw [Dd om,Dd om]
   intro hc
   have:=hk.arm x hx hlt hc
   exact ⟨this.1,by omega⟩
  ·rw [O6 om];omega
 ·intro x hx
  simp only [ZO.grow,Xm,Xr] at hx
  rcases hx with hx|rfl
  ·exact hk.nn x hx
  ·exact ho.1
 ·intro x hx
  simp only [ZO.grow,Xm,Xr] at hx
  rcases hx with hx|rfl
  ·exact hk.bd x hx
  ·exact ho.2
theorem O7 {xs:LI} {k:Nat} {a:Int} {j:Int} (h:xs.length<=j.toNat/\j.toNat<xs.length+k):gI (xs++List.replicate k a) j=a:=by
 rw [gI,DU h.1,List.getElem?_replicate,Zl om];rfl
theorem O8 {xs:LI} {x j c:Int} (h:j.toNat=x.toNat) (hl:x.toNat<xs.length):gI (xs.set x.toNat c) j=c:=by
 rw [gI,h,List.getElem?_set_self hl];rfl
theorem O9 {xs:LI} {x j c:Int} (h:j.toNat≠x.toNat):gI (xs.set x.toNat c) j=gI xs j:=by
 rw [gI,gI,List.getElem?_set_ne (fun q=>h q.symm)]
theorem Ov {p:Int}:∀(fs:LI) (L:ZO),Ck L p fs=⟨L.vars++fs,L.own++List.replicate fs.length 0,L.par++List.replicate fs.length p,L.con++List.replicate fs.length (-1),
  L.fst++List.replicate fs.length (-1),L.tok++List.replicate fs.length (-1)⟩
 | [],L=>by simp [Ck]
 | t::r,L=>by rw [Ck,Ov r];simp [ZO.grow,Mr]
theorem Z1p {ds:List Ze} {L:ZO} {q x c:Int} (hk:XH ds L q) (hq:0<=q) (hx:0<=x/\x<L.vars.length):XH ds (BX ds L x c) q/\(BX ds L x c).vars=L.vars++ZQ ds c:=by
 obtain ⟨f1,f2,f3,f4,f5⟩:=hk.len
 rw [BX,Ov]
 refine ⟨⟨⟨by simp [f1],by simp [f2],by simp [f3],by simp [f4],by simp [f5]⟩,?_,?_,?_,?_⟩,rfl⟩
 ·intro j hj hl
  simp only [Ys] at hl ⊢
  by_cases hlt:j<L.vars.length
  ·rw [Dd om];exact hk.down j hj hlt
  ·rw [O7 om];omega
 ·intro y hy hl
  simp only [Ys] at hl ⊢
  by_cases hlt:y<L.vars.length
  ·rw [Dd (by simp;omega),Dd (by simp;omega)]
   by_cases he:y.toNat=x.toNat
   ·rw [O8 he om,O8 he om]
    intro _
    exact ⟨by omega,by simp⟩
   ·rw [O9 he,O9 he]
    intro hc
    have:=hk.arm y hy hlt hc
    exact ⟨this.1,by omega⟩
  ·rw [O7 (by simp;omega)];omega
 ·intro y hy
  simp only [Xm,List.mem_replicate] at hy
  rcases hy with hy|⟨_,rfl⟩
  ·exact hk.nn y hy
  ·exact Int.le_refl 0
 ·intro y hy
  simp only [Xm,List.mem_replicate] at hy
  rcases hy with hy|⟨_,rfl⟩
  ·exact hk.bd y hy
  ·exact hq
theorem Gg {n:ZF} {L:ZO} {q:Int} {s:Z5} {i:Nat} {m:LI} (hk:XH n.decls L q) (hq:0<=q) (hf:BT n L.vars s) (hop:s.op=7∨s.op=8) (hm:(XY n.decls s.op s.num)[i]? = some m) :
  XH n.decls (Tz n.decls L s.op s.num s.args i) q/\(Tz n.decls L s.op s.num s.args i).vars=L.vars++m:=by
 rw [Tz]
 split
 ·rename_i h8
  obtain ⟨a,ha⟩:=hf.one om
  have hb:=hf.args a (by rw [ha];simp)
  have hg:gI s.args 0=a:=by rw [ha];rfl
  rw [XY,Zd om,J1] at hm
  cases hc:(ZX n.decls s.num)[i]? with
  | none=>rw [hc] at hm;cases hm
  | some c=>
   rw [hc] at hm
   cases hm
   have hgc:gI (ZX n.decls s.num) (i:Int)=c:=by rw [gI];simp [hc]
   rw [hg,hgc]
   exact Z1p hk hq hb
 ·rename_i h8
  rw [XY,Zl om] at hm
  have:m=[]:=by
   match i,hm with
   | 0,hm=>simpa using hm.symm
   | 1,hm=>simpa using hm.symm
   | i+2,hm=>simp at hm
  subst this
  exact ⟨hk,by simp⟩
theorem SO {n:ZF}:∀{l:List Z5} {us vs:LI},Um n l us=some vs->us.length<=vs.length
 | [],us,vs,h=>by rw [Um] at h;cases h;exact X9 _
 | s::r,us,vs,h=>by
  rw [Um] at h
  split at h
  ·cases h
  ·have:=SO h
   split at this
   ·simp only [Ys,B4] at this;omega
   ·exact this
theorem Ow {n:ZF} {ln:LI} {L L':ZO} {op num into q:Int} {args:LI} {ds:List Ze} (hk:XH ds L q) (h:Jf n ln L op num into args=some L'):XH ds L' q/\L'.vars=L.vars:=by
 rw [Jf] at h
 cases ht:K7 n op num args 0 L with
 | none=>rw [ht] at h;cases h
 | some L1=>
  rw [ht] at h
  simp only at h
  obtain ⟨k1,k2,k3,k4,k5,k6⟩:=IH hk ht
  split at h
  ·rw [Ej] at h
   split at h
   ·split at h
    ·cases h
    ·cases h
     exact ⟨k1.turn rfl rfl rfl rfl (by simp) rfl k1.nn k1.bd,k2⟩
   ·cases h;exact ⟨k1,k2⟩
  ·cases h
theorem Z34 {L L':ZO} {m:Nat} (h:J8 L m=some L'):L'=L.take m/\BL (L.own.drop m) (L.tok.drop m)=true:=by
 rw [J8] at h
 split at h
 ·rename_i hz;cases h;exact ⟨rfl,hz⟩
 ·cases h
theorem Me {r:Option ZO} {f:ZO->Option ZO} {L:ZO} (h:F3 r f=some L):∃L1,r=some L1/\f L1=some L:=by
 cases r with
 | none=>cases h
 | some L1=>exact ⟨L1,rfl,h⟩
theorem Pd (n:ZF) (hn:Xs n) (ln:LI):∀m:Nat,
  (∀(s:Z5) (L L':ZO) (q:Int),s.sz<=m->XH n.decls L q->0<=q->0<=X0 n L.vars s->Qo n ln L s=some L'->XH n.decls L' (q+4*s.sz)/\L'.vars=QT n L.vars s) /\
  (∀(b:Z7) (L O:ZO) (q:Int) (k:Nat),b.sz<=m->XH n.decls L q->0<=q->0<=W1 n L.vars b->k<=L.vars.length->VS n ln L k b=some O ->
   (O.own.length=k/\O.tok.length=k/\(∀x∈O.own,0<=x/\x<=q+4*b.sz))/\Tf O/\O.vars.length=k):=by
 intro m
 induction m with
 | zero=>exact ⟨fun s _ _ _ h=>by have:=s.sz_pos;omega,fun s _ _ _ _ h=>by have:=s.sz_pos;omega⟩
 | succ m ih=>
  have hs:∀(s:Z5) (L L':ZO) (q:Int),s.sz<=m+1->XH n.decls L q->0<=q->0<=X0 n L.vars s->Qo n ln L s=some L'->XH n.decls L' (q+4*s.sz)/\L'.vars=QT n L.vars s:=by
   intro s L L' q Xx hk hq hty h
   have hp:=s.sz_pos
   have hf:=SN hty
   obtain ⟨f1,f2,f3,f4,f5⟩:=hk.len
   rw [SK] at h
   unfold A1 at h
   cases hpk:Jv n ln L s.op s.num s.into s.args (KH n ln L s.op s.num s.args s.kids) with
   | none=>rw [hpk] at h;cases h
   | some L1=>
    rw [hpk] at h
    simp only at h
    have key:XH n.decls L1 (q+4*s.sz)/\L1.vars=L.vars:=by
     rw [Jv] at hpk
     split at hpk
     ·obtain ⟨d1,d2,d3,d4,d5,d6⟩:=Nk hpk
      refine ⟨hk.turn d1 d2 d3 d4 (by rw [d5]) (by rw [d6,VJ]) ?_ ?_,d1⟩
      ·rw [d6];intro x hx
       rcases Jr hx with hx|rfl
       ·exact hk.nn x hx
       ·have:=Iz (v:=gI s.args 0) hk.nn;omega
      ·rw [d6];intro x hx
       rcases Jr hx with hx|rfl
       ·have:=hk.bd x hx;omega
       ·have:=Iy (v:=gI s.args 0) hk.bd hq;omega
     split at hpk
     ·exact ⟨(hk.take hpk).le om,(Jx hpk).2.1⟩
     split at hpk
     ·rename_i hop
      obtain ⟨d1,d2,d3,d4,d5,Lt,ht,d6⟩:=PO hpk
      have hkt:=hk.take ht
      have h3:=Ve hn.decls (gI L.con (gI s.args 0))
      refine ⟨hk.turn d1 d2 d3 d4 d5 ?_ ?_ ?_,d1⟩
      ·rw [d6,HI,(Jx ht).2.2.2.2.2.2,VJ]
      ·rw [d6];exact HJ _ _ _ hkt.nn
      ·rw [d6];intro x hx
       have:=HH _ _ _ q hq hkt.bd x hx;omega
     split at hpk
     ·rename_i hop
      split at hpk
      ·cases hpk
      ·cases hks:s.kids with
       | nil=>rw [hks,KH] at hpk;cases hpk
       | cons b bs=>
        rw [hks,KH] at hpk
        unfold Cu at hpk
        cases hb:VS n ln (Tz n.decls L s.op s.num s.args 0) L.vars.length b with
        | none=>rw [hb] at hpk;cases hpk
        | some one=>
         rw [hb] at hpk
         simp only at hpk
         split at hpk
         ·cases hpk
          obtain ⟨q1,q2,q3⟩:=hf.kids hop
          have hks0:s.kids[0]? = some b:=by rw [hks];rfl
          obtain ⟨a0,ha0⟩:=AH (xs:=XY n.decls s.op s.num) (j:=0) om
          obtain ⟨k1,k2⟩:=Gg hk hq hf hop ha0
          have hbz:=Q7 hks0
          obtain ⟨⟨r1,r2,r3⟩,_⟩:=ih.2 b _ one q L.vars.length om k1 hq (by rw [k2];exact q3 0 b a0 hks0 ha0) (by rw [k2];simp) hb
          refine ⟨hk.turn rfl rfl rfl rfl (by simp only;omega) (by simp only;omega) (fun x hx=>(r3 x hx).1) (fun x hx=>?_),rfl⟩
          have:=(r3 x hx).2;omega
         ·cases hpk
     ·obtain ⟨k1,k2⟩:=Ow hk hpk
      exact ⟨k1.le om,k2⟩
    split at h
    ·rename_i hd
     cases h
     refine ⟨key.1.grow om ?_,by rw [QT,Zl hd];simp [ZO.grow,key.2]⟩
     split<;>omega
    ·rename_i hd
     cases h
     exact ⟨key.1,by rw [QT,Zd hd];exact key.2⟩
  refine ⟨hs,?_⟩
  intro b L O q k Xx hk hq hty hkl h
  have hsteps:∀(l:List Z5) (L L':ZO) (q:Int) (vs:LI),Yu l<=m->XH n.decls L q->0<=q->Um n l L.vars=some vs->Jw n ln L l=some L'->XH n.decls L' (q+4*Yu l)/\L'.vars=vs:=by
   intro l
   induction l with
   | nil=>intro L L' q vs _ hk _ h1 h2;rw [Um] at h1;rw [Jw] at h2;cases h1;cases h2;exact ⟨by simpa [Yu] using hk,rfl⟩
   | cons s r ihr=>
    intro L L' q vs hz hk hq h1 h2
    rw [Yu] at hz
    rw [Jw] at h2
    obtain ⟨L1,e1,e2⟩:=Me h2
    rw [Um] at h1
    split at h1
    ·cases h1
    ·rename_i h0
     obtain ⟨k1,k2⟩:=hs s L L1 q om hk hq om e1
     obtain ⟨k3,k4⟩:=ihr L1 L' (q+4*s.sz) vs om k1 om (by rw [k2];exact h1) e2
     exact ⟨k3.le (by rw [Yu];omega),k4⟩
  have hbz:=b.sz_eq
  rw [HN] at h
  obtain ⟨L1,e1,e2⟩:=Me h
  rw [HO] at hty
  cases hv:Um n b.steps L.vars with
  | none=>rw [hv] at hty;simp at hty
  | some vs=>
   obtain ⟨k1,k2⟩:=hsteps b.steps L L1 q vs om hk hq hv e1
   have hlen:=SO hv
   rw [JZ] at e2
   obtain ⟨L2,e3,e4⟩:=Me e2
   have k3:XH n.decls L2 (q+4*Yu b.steps)/\L2.vars=L1.vars:=by
    split at e3
    ·exact ⟨k1.take e3,(Jx e3).2.1⟩
    ·cases e3;exact ⟨k1,rfl⟩
   obtain ⟨rfl,_⟩:=Z34 e4
   obtain ⟨g1,g2,g3,g4,g5⟩:=k3.1.len
   have hl2:L2.vars.length=vs.length:=by rw [k3.2,k2]
   refine ⟨⟨by simp [ZO.take];omega,by simp [ZO.take];omega,fun x hx=>?_⟩,⟨by simp [ZO.take];omega,by simp [ZO.take];omega,by simp [ZO.take];omega,by simp [ZO.take];omega,by simp [ZO.take];omega⟩,by simp [ZO.take];omega⟩
   have hx':x∈L2.own:=Qt hx
   have:=k3.1.nn x hx'
   have:=k3.1.bd x hx'
   omega
theorem SM {n:ZF} (hn:Xs n) {ln:LI} {s:Z5} {L L':ZO} {q:Int} (hk:XH n.decls L q) (hq:0<=q) (hty:0<=X0 n L.vars s) (h:Qo n ln L s=some L'):XH n.decls L' (q+4*s.sz)/\L'.vars=QT n L.vars s:=
 (Pd n hn ln s.sz).1 s L L' q (X9 _) hk hq hty h
theorem MR {n:ZF} (hn:Xs n) {ln:LI} {b:Z7} {L O:ZO} {q:Int} {k:Nat} (hk:XH n.decls L q) (hq:0<=q) (hty:0<=W1 n L.vars b) (hkl:k<=L.vars.length) (h:VS n ln L k b=some O) :
  O.own.length=k/\O.tok.length=k/\(∀x∈O.own,0<=x/\x<=q+4*b.sz):=
 ((Pd n hn ln b.sz).2 b L O q k (X9 _) hk hq hty hkl h).1
theorem EL {n:ZF} (hn:Xs n) {ln:LI} {s:Z5} {L L1:ZO} {q:Int} (hk:XH n.decls L q) (hq:0<=q) (hf:BT n L.vars s)
  (hpk:Jv n ln L s.op s.num s.into s.args (KH n ln L s.op s.num s.args s.kids)=some L1):XH n.decls L1 (q+4*s.sz)/\L1.vars=L.vars:=by
 have hp:=s.sz_pos
 obtain ⟨f1,f2,f3,f4,f5⟩:=hk.len
 rw [Jv] at hpk
 split at hpk
 ·obtain ⟨d1,d2,d3,d4,d5,d6⟩:=Nk hpk
  refine ⟨hk.turn d1 d2 d3 d4 (by rw [d5]) (by rw [d6,VJ]) ?_ ?_,d1⟩
  ·rw [d6];intro x hx
   rcases Jr hx with hx|rfl
   ·exact hk.nn x hx
   ·have:=Iz (v:=gI s.args 0) hk.nn;omega
  ·rw [d6];intro x hx
   rcases Jr hx with hx|rfl
   ·have:=hk.bd x hx;omega
   ·have:=Iy (v:=gI s.args 0) hk.bd hq;omega
 split at hpk
 ·exact ⟨(hk.take hpk).le om,(Jx hpk).2.1⟩
 split at hpk
 ·rename_i hop
  obtain ⟨d1,d2,d3,d4,d5,Lt,ht,d6⟩:=PO hpk
  have hkt:=hk.take ht
  have h3:=Ve hn.decls (gI L.con (gI s.args 0))
  refine ⟨hk.turn d1 d2 d3 d4 d5 ?_ ?_ ?_,d1⟩
  ·rw [d6,HI,(Jx ht).2.2.2.2.2.2,VJ]
  ·rw [d6];exact HJ _ _ _ hkt.nn
  ·rw [d6];intro x hx
   have:=HH _ _ _ q hq hkt.bd x hx;omega
 split at hpk
 ·rename_i hop
  split at hpk
  ·cases hpk
  ·cases hks:s.kids with
   | nil=>rw [hks,KH] at hpk;cases hpk
   | cons b bs=>
    rw [hks,KH] at hpk
    unfold Cu at hpk
    cases hb:VS n ln (Tz n.decls L s.op s.num s.args 0) L.vars.length b with
    | none=>rw [hb] at hpk;cases hpk
    | some one=>
     rw [hb] at hpk
     simp only at hpk
     split at hpk
     ·cases hpk
      obtain ⟨q1,q2,q3⟩:=hf.kids hop
      have hks0:s.kids[0]? = some b:=by rw [hks];rfl
      obtain ⟨a0,ha0⟩:=AH (xs:=XY n.decls s.op s.num) (j:=0) om
      obtain ⟨k1,k2⟩:=Gg hk hq hf hop ha0
      have hbz:=Q7 hks0
      obtain ⟨r1,r2,r3⟩:=MR hn k1 hq (by rw [k2];exact q3 0 b a0 hks0 ha0) (by rw [k2];simp) hb
      refine ⟨hk.turn rfl rfl rfl rfl (by simp only;omega) (by simp only;omega) (fun x hx=>(r3 x hx).1) (fun x hx=>?_),rfl⟩
      have:=(r3 x hx).2;omega
     ·cases hpk
 ·obtain ⟨k1,k2⟩:=Ow hk hpk
  exact ⟨k1.le om,k2⟩
end Go.Abs
section
namespace Go.Abs
theorem Z1q {ds:List Ze} {op num:Int} {i:Nat} {m:LI} (h8:op=8) (h:(XY ds op num)[i]? = some m):∃c,(ZX ds num)[i]? = some c/\m=ZQ ds c:=by
 rw [XY,Zd om,J1] at h
 cases hc:(ZX ds num)[i]? with
 | none=>rw [hc] at h;cases h
 | some c=>rw [hc] at h;cases h;exact ⟨c,rfl,rfl⟩
theorem Z9f {ds:List Ze} {L:ZO} {op num x c:Int} {args:LI} {i:Nat} (h8:op=8) (hx:args[0]? = some x) (hc:(ZX ds num)[i]? = some c):Tz ds L op num args i=BX ds L x c:=by
 have h1:gI args 0=x:=by rw [gI];simp [hx]
 have h2:gI (ZX ds num) (i:Int)=c:=by rw [gI];simp [hc]
 rw [Tz,Zl h8,h1,h2]
theorem Z9g {ds:List Ze} {L:ZO} {op num:Int} {args:LI} {i:Nat} (h8:¬op=8):Tz ds L op num args i=L:=by rw [Tz,Zd h8]
theorem Z9h {n:ZF} {ln:LI} {L:ZO} {op num:Int} {args:LI} {kids:List Z7} {kb:Z7} (h:kids[0]? = some kb) :
  KH n ln L op num args kids=Cu L (VS n ln (Tz n.decls L op num args 0) L.vars.length kb) fun one=>Jm n ln L op num args one (kids.drop 1) 1:=by
 cases kids with
 | nil=>simp at h
 | cons b bs=>simp at h;subst h;rw [KH];rfl
theorem Z9i {n:ZF} {ln:LI} {L one:ZO} {op num:Int} {args:LI} {kids:List Z7} {kb:Z7} {k:Nat} (h:kids[k]? = some kb) :
  Jm n ln L op num args one (kids.drop k) k=GY one (VS n ln (Tz n.decls L op num args k) L.vars.length kb) (Jm n ln L op num args one (kids.drop (k+1)) (k+1)):=by
 rw [Yo h,Jm]
def C1 (n:ZF) (ln:LI) (L:ZO) (s:Z5):Option ZO:=
 if s.op=8/\¬UV L ln (gI s.args 0)=true then none else KH n ln L s.op s.num s.args s.kids
theorem Z2d {n:ZF} {ln:LI} {L:ZO} {s:Z5} {kb:Z7} (h:¬(s.op=8/\¬UV L ln (gI s.args 0)=true)) (hk:s.kids[0]? = some kb) :
  C1 n ln L s=Cu L (VS n ln (Tz n.decls L s.op s.num s.args 0) L.vars.length kb) fun one=>Jm n ln L s.op s.num s.args one (s.kids.drop 1) 1:=by
 rw [C1,Zd h,Z9h hk]
theorem K6 {xs:LI} {x:Int} (h:xs[0]? = some x):gI xs 0=x:=by rw [gI];simp [h]
end Go.Abs
namespace Go.Abs
theorem Tf.grow {L:ZO} {t o p:Int} (h:Tf L):Tf (L.grow t o p):=by
 obtain ⟨f1,f2,f3,f4,f5⟩:=h
 exact ⟨by simp [ZO.grow,f1],by simp [ZO.grow,f2],by simp [ZO.grow,f3],by simp [ZO.grow,f4],by simp [ZO.grow,f5]⟩
theorem Tf.arm {L:ZO} {i j:Nat} {c d:Int} (h:Tf L):Tf ⟨L.vars,L.own,L.par,L.con.set i c,L.fst.set j d,L.tok⟩:=by
 obtain ⟨f1,f2,f3,f4,f5⟩:=h
 exact ⟨f1,f2,by simp [f3],by simp [f4],f5⟩
end Go.Abs
namespace Go.Abs
theorem P2 {n:ZF} (hn:Xs n) {ln:LI} {L O:ZO} {q:Int} {s:Z5} {i:Nat} {kb:Z7} {m:LI} (hk:XH n.decls L q) (hq:0<=q) (hf:BT n L.vars s) (hop:s.op=7∨s.op=8)
  (_:s.kids[i]? = some kb) (harm:(XY n.decls s.op s.num)[i]? = some m) (hbt:0<=W1 n (L.vars++m) kb) (h:VS n ln (Tz n.decls L s.op s.num s.args i) L.vars.length kb=some O) :
  O.own.length=L.vars.length/\O.tok.length=L.vars.length:=by
 obtain ⟨k1,k2⟩:=Gg hk hq hf hop harm
 obtain ⟨r1,r2,_⟩:=MR hn k1 hq (by rw [k2];exact hbt) (by rw [k2];simp) h
 exact ⟨r1,r2⟩
theorem Zd3 {one two:ZO} {r:Bool} (h:¬(¬one.own=two.own∨¬one.tok=two.tok)):GY one (some two) r=r:=Zl ⟨Up.1 fun q=>h (.inl q),Up.1 fun q=>h (.inr q)⟩
theorem Zd2 {one two:ZO} {r:Bool} (h:¬one.own=two.own∨¬one.tok=two.tok):GY one (some two) r=false:=Zd fun q=>h.elim (fun z=>z q.1) fun z=>z q.2
theorem Zaf {L one:ZO} {f:ZO->Bool} (h:f one=true):Cu L (some one) f=some ⟨L.vars,one.own,L.par,L.con,L.fst,one.tok⟩:=Zl h
theorem Pn {L one:ZO} {f:ZO->Bool} (h:f one=false):Cu L (some one) f=none:=Zd (by rw [h];simp)
end Go.Abs
namespace Go.Abs
section
variable {n:ZF} {ln:LI} {L:ZO} {s:Z5}
abbrev A8 (n:ZF) (ln:LI) (L:ZO) (s:Z5):Option ZO:=Jv n ln L s.op s.num s.into s.args (KH n ln L s.op s.num s.args s.kids)
theorem PU {x:Int} (h:s.op=14) (hx:gI s.args 0=x):A8 n ln L s=C7 L ln x:=hx▸Zl h
theorem PV {x:Int} (h:s.op=15) (hx:gI s.args 0=x):A8 n ln L s=TV L x:=by rw [<-hx,A8,Jv,Zd om,Zl h]
theorem PW {x:Int} (h:s.op=16∨s.op=17) (hx:gI s.args 0=x):A8 n ln L s=A7 n.decls L s.op x:=by rw [<-hx,A8,Jv,Zd om,Zd om,Zl h]
theorem PX (h:s.op=7∨s.op=8):A8 n ln L s=C1 n ln L s:=by rw [A8,Jv,Zd om,Zd om,Zd om,Zl h,C1]
theorem PY (h1:¬s.op=14) (h2:¬s.op=15) (h3:¬(s.op=16∨s.op=17)) (h4:¬(s.op=7∨s.op=8)):A8 n ln L s=Jf n ln L s.op s.num s.into s.args:=by
 rw [A8,Jv,Zd h1,Zd h2,Zd h3,Zd h4]
theorem Z3q {v:Int} (h:¬UV L ln v=true):C7 L ln v=none:=Zd h
theorem Z3r {v x:Int} (h:¬¬UV L ln v=true) (hx:gI L.own v=x):C7 L ln v=some ⟨L.vars,L.own.set v.toNat (x+1),L.par,L.con,L.fst,L.tok⟩:=by rw [C7,Zl (Up.1 h),hx]
theorem Tb (n:ZF) (ln:LI) (L:ZO) (s:Z5):Qo n ln L s=A1 L s.op (X0 n L.vars s) (A8 n ln L s):=SK n ln L s
theorem T2 {X:ZO} {op t:Int} (h:Xg op=true/\t≠0):A1 L op t (some X)=some (X.grow t 1 (-1)):=by
 unfold A1;simp only [h.1,↓reduceIte];rw [Zl h.2]
theorem T3 {X:ZO} {op t:Int} (h:¬(Xg op=true/\t≠0)) (h2:Xg op=true):A1 L op t (some X)=some (X.grow 0 0 (-1)):=by
 have ht:t=0:=Up.1 fun q=>h ⟨h2,q⟩
 subst ht
 unfold A1;simp only [h2,↓reduceIte];rfl
theorem T4 {X:ZO} {op t:Int} (h:¬Xg op=true):A1 L op t (some X)=some X:=by
 unfold A1;simp only [Zd h]
end
end Go.Abs
namespace Go.Abs
theorem MS {n:ZF} {us:LI} {b:Z7} (h:0<=W1 n us b):∃vs t,Um n b.steps us=some vs/\V1 vs b.result=some t/\0<=t:=by
 rw [HO] at h
 cases hv:Um n b.steps us with
 | none=>rw [hv] at h;simp at h
 | some vs=>
  rw [hv] at h
  simp only at h
  cases ha:V1 vs b.result with
  | none=>rw [ha] at h;simp at h
  | some t=>rw [ha] at h;exact ⟨vs,t,rfl,ha,h⟩
theorem SP {n:ZF} {us vs:LI} {s:Z5} {r:List Z5} (h:Um n (s::r) us=some vs):0<=X0 n us s/\Um n r (QT n us s)=some vs:=by
 rw [Um] at h
 split at h
 ·cases h
 ·exact ⟨by omega,h⟩
theorem S3 (n:ZF) (us:LI) (s:Z5):us.length<=(QT n us s).length/\(QT n us s).length<=us.length+s.sz:=by
 have:=s.sz_pos
 rw [QT];split
 ·simp only [Ys,B4];omega
 ·omega
end Go.Abs
namespace Go.Abs
theorem Z48 {X L:ZO} {m:Nat} {r x:Int} (hg:gI L.vars r=x) (h:x≠0) (ht:TV L r=some X):JZ m r L=J8 X m:=by rw [JZ,hg,Zl h,ht];rfl
theorem Z47 {L:ZO} {m:Nat} {r x:Int} (hg:gI L.vars r=x) (h:x≠0) (ht:TV L r=none):JZ m r L=none:=by rw [JZ,hg,Zl h,ht];rfl
theorem Eb {L:ZO} {m:Nat} {r x:Int} (hg:gI L.vars r=x) (h:¬x≠0):JZ m r L=J8 L m:=by rw [JZ,hg,Zd h];rfl
end Go.Abs
namespace Go.Abs
theorem PT {ds:List Ze} {lent:LI}:∀{ps:LI} {i:Nat} {L:ZO},XH ds L 1->XH ds (AS lent ps i L) 1/\(AS lent ps i L).vars=L.vars++ps
 | [],i,L,hk=>⟨hk,by simp [AS]⟩
 | t::r,i,L,hk=>by
  rw [AS]
  obtain ⟨k1,k2⟩:=PT (lent:=lent) (ps:=r) (i:=i+1) (hk.grow (t:=t) (o:=if t≠0/\¬(i:Int)∈lent then 1 else 0) (p:=-1) om (by split<;>omega))
  exact ⟨k1,by rw [k2];simp [ZO.grow]⟩
theorem Zai (ds:List Ze) (r:YA):XH ds (Kd r) 1/\(Kd r).vars=r.params:=by
 have h:XH ds (⟨[],[],[],[],[],[]⟩:ZO) 1:=⟨⟨rfl,rfl,rfl,rfl,rfl⟩,fun j h1 h2=>by simp at h2;omega,fun j h1 h2=>by simp at h2;omega,by simp,by simp⟩
 obtain ⟨k1,k2⟩:=PT (lent:=r.lent) (ps:=r.params) (i:=0) h
 exact ⟨k1,by rw [Kd,k2];rfl⟩
end Go.Abs
namespace Go.Abs
theorem RB {n:ZF}:∀{l:List YA},AU n l=true->∀r∈l,¬AZ r.body<0/\W1 n r.params r.body=r.result
 | [],_,r,h=>by simp at h
 | a::l,h,r,hr=>by
  rw [AU] at h
  split at h
  ·rename_i h1
   rcases YM.1 hr with rfl|hr
   ·exact h1
   ·exact RB h r hr
  ·cases h
theorem Zg4 {n:ZF} (hz:JF n) (h:QW n=true):Xs n/\∀r∈n.routines,0<=W1 n r.params r.body:=by
 simp only [QW,Xb] at h
 refine ⟨Pr hz h.1,fun r hr=>?_⟩
 rw [(RB h.2 r hr).2]
 have h1:=h.1
 simp only [A6,US,Xb] at h1
 have:=LV h1.2.1.2.2.1 (TT r) (XN.2 ⟨r,hr,rfl⟩)
 simp only [KP,Xb,decide_eq_true_eq,TT] at this
 exact (of_decide_eq_true this.2.2).1
end Go.Abs
end
section
namespace Go.Abs
theorem Z3y {xs:LI} (h:Z6 xs=[]):xs=[]:=by cases xs with|nil=>rfl|cons x r=>cases h
end Go.Abs
namespace Go.Abs
end Go.Abs
namespace Go.Abs
end Go.Abs
end
section
namespace Go.Abs
theorem Z2p {c:Int} {ds:List Ze} {k:Nat} {d:Ze} {r:Int × LI} (h:ds[k]? = some d) (hn:¬(c-YH (ds.take k)>=0/\c-YH (ds.take k)<d.cons.length))
  (hr:Ul c (ds.drop k) k (YH (ds.take k))=r):Ul c (ds.drop (k+1)) (k+1) (YH (ds.take (k+1)))=r:=by
 rw [Yo h,Ul,Zd om] at hr
 rw [V9 h,CT,<-hr];rfl
end Go.Abs
namespace Go.Abs
theorem Z2r {c:Int} {ds:List Ze} {k:Nat} {d:Ze} {x:Yp} (h:ds[k]? = some d) (hn:c-YH (ds.take k)>=0/\c-YH (ds.take k)<d.cons.length)
  (hx:d.cons[(c-YH (ds.take k)).toNat]? = some x):Ul c (ds.drop k) k (YH (ds.take k))=((k:Int)+1,x.fields):=by
 rw [Yo h,Ul,Zl om,hx];rfl
def B6 (c:Int) (z:Nat) (v:Int):Prop:=v=c-z∨(c<0/\c-z < -9223372036854775808/\v=c-z+18446744073709551616)
theorem Z1t {c:Int} {z l:Nat} {v:Int} (h:B6 c z v) (hz:z<=100) (hl:l<=3) (hc:-9223372036854775808<=c/\c<=9223372036854775807):B6 c (z+l) (CI (v-l)):=by
 unfold B6 at *;rw [CI,IntKind.wrap_i64];omega
theorem Z2q {c v:Int} {ds:List Ze} {k:Nat} {d:Ze} {r:Int × LI} (h:ds[k]? = some d) (ha:B6 c (YH (ds.take k)) v) (hn:¬(v>=0/\v<d.cons.length))
  (hr:Ul c (ds.drop k) k (YH (ds.take k))=r):Ul c (ds.drop (k+1)) (k+1) (YH (ds.take (k+1)))=r:=Z2p h (by unfold B6 at ha;omega) hr
theorem Z2s {c v:Int} {ds:List Ze} {k:Nat} {d:Ze} {x:Yp} (h:ds[k]? = some d) (ha:B6 c (YH (ds.take k)) v) (hz:YH (ds.take k)<=100) (hl:d.cons.length<=3) (hc:-9223372036854775808<=c)
  (hn:v>=0/\v<d.cons.length) (hx:d.cons[v.toNat]? = some x):Ul c (ds.drop k) k (YH (ds.take k))=((k:Int)+1,x.fields):=by
 have:v=c-(YH (ds.take k):Int):=by unfold B6 at ha;omega
 subst this
 exact Z2r h hn hx
end Go.Abs
namespace Go.Abs
abbrev Nf (ds:List Ze) (d:Ze):Prop:=
 (((¬(0<=d.frm/\d.frm<=ds.length))∨(¬(0<=d.to_/\d.to_<=ds.length)))∨((d.cons.length:Int)>3))∨(((d.cons.length:Int)>0)/\((d.frm≠0)∨(d.to_≠0)))
theorem Z3k {ds:List Ze} {d:Ze} {i:Nat} (h:Nf ds d):Tj ds d i=false:=by
 rw [Tj]
 split
 ·rw [Zd];rintro ⟨h1,h2,h3⟩
  rcases h with ((h|h)|h)|h<;>omega
 ·split
  ·rfl
  ·rcases h with ((h|h)|h)|h
   ·rw [decide_eq_false h];rfl
   ·rw [decide_eq_false h,Bool.and_false]
   ·omega
   ·omega
theorem Z3l {ds:List Ze} {d:Ze} {i:Nat} (hl:0<d.cons.length) (h:Tw ds.length d.cons=false):Tj ds d i=false:=by
 rw [Tj,Zl hl];split
 ·exact h
 ·rfl
theorem Z3m {ds:List Ze} {d:Ze} {i:Nat} (hl:d.cons.length=0) (h:QB d (ds.take i)=true):Tj ds d i=false:=by
 rw [Tj,Zd om,Zl h]
theorem Z3n {ds:List Ze} {d:Ze} {i:Nat} (h1:¬Nf ds d) (h2:Tw ds.length d.cons=true) (h3:d.cons.length=0->QB d (ds.take i)=false):Tj ds d i=true:=by
 rw [Tj]
 have ha:0<=d.frm/\d.frm<=ds.length:=Up.1 fun q=>h1 (.inl (.inl (.inl q)))
 have hb:0<=d.to_/\d.to_<=ds.length:=Up.1 fun q=>h1 (.inl (.inl (.inr q)))
 have hc:¬(d.cons.length:Int)>3:=fun q=>h1 (.inl (.inr q))
 split
 ·rename_i hl
  have hd:¬(d.frm≠0∨d.to_≠0):=fun q=>h1 (.inr ⟨by omega,q⟩)
  rw [Zl ⟨by omega,by omega,by omega⟩];exact h2
 ·rw [Zd (by rw [h3 om];simp),decide_eq_true ha,decide_eq_true hb];rfl
theorem Mj {ds:List Ze} {k:Nat} {d:Ze} (h:ds[k]? = some d) (hA:Tj ds d k=false) (c:UW ds (ds.drop k) k=UW ds ds 0):false=WS ds:=by
 rw [WS,<-c,Yo h,UW,FD h,hA,Zd (by simp),Bool.and_false]
theorem Zg6 {ds:List Ze} {k:Nat} {d:Ze} {r:Bool} (h:ds[k]? = some d) (hA:Tj ds d k=true) (c:UW ds (ds.drop k) k=r):UW ds (ds.drop (k+1)) (k+1)=r:=by
 rw [Yo h,UW,FD h,hA,Zl rfl] at c;exact c
theorem Zg5 {ds:List Ze} {k:Nat} (hl:ds.length<=4) (hk:ds.length<=k) (c:UW ds (ds.drop k) k=UW ds ds 0):true=WS ds:=by
 rw [WS,<-c,Xt hk,decide_eq_true hl];rfl
theorem Z2t {m:Nat} {c:Yp} (h:((c.fields.length:Int)>3)∨(¬(Wm m c.fields=true))):JR m c=false:=by
 rw [JR]
 rcases h with h|h
 ·rw [decide_eq_false om];rfl
 ·rw [Qd.2 h,Bool.and_false]
theorem Z2u {m:Nat} {c:Yp} (h:¬(((c.fields.length:Int)>3)∨(¬(Wm m c.fields=true)))):JR m c=true:=by
 rw [JR,Up.1 fun q=>h (.inr q),decide_eq_true (by have:¬(c.fields.length:Int)>3:=fun q=>h (.inl q);omega)];rfl
end Go.Abs
end
section
namespace Go.Abs
structure Vv where
 pms:LI
 lnt:LI
 res:Int
abbrev P5 (f:Vv):List AV:=[Z3 f.pms,Z3 f.lnt,.i f.res]
abbrev Fk (f:Vv):AV:=.agg (P5 f)
def T1 (fs:List Vv):List AV:=fs.map Fk
abbrev Kc (xs:List Vv):AV:=.sl (T1 xs) none
abbrev Gv (xs:List Vv) (v:Value):AV:=.sl (T1 xs) (some v)
theorem D7 {xs:List Vv} {j:Nat} {x:Vv} (h:xs[j]? = some x):(T1 xs)[j]? = some (Fk x):=by simp [T1,h]
@[simp] theorem Ea (xs:List Vv):(T1 xs).length=xs.length:=by simp [T1]
theorem Nq (xs:List Vv):∀y∈T1 xs,y.leaves.length=3:=by intro y hy;simp only [T1,XN] at hy;obtain ⟨x,_,rfl⟩:=hy;rfl
theorem Z42 (xs:List Vv):(Zg (T1 xs)).all AV.one=true:=KC fun y hy=>by simp only [T1,XN] at hy;obtain ⟨x,_,rfl⟩:=hy;rfl
def Ab (m:Nat) (f:Vv):Bool:=KP m ⟨f.pms,f.res⟩&&Uj f.pms f.lnt
def Kh (m:Nat):List Vv->Bool
 | []=>true
 | f::r=>if Ab m f=true then Kh m r else false
def Ir:List Vv->Bool
 | []=>false
 | f::_=>decide (f.pms.length=0)&&decide (f.res=0)
def TX (ds:List Ze) (fs:List Vv):Bool:=WS ds&&(decide (1<=fs.length/\fs.length<=4)&&(Ir fs&&Kh ds.length fs))
theorem NP {fs:List Vv} {x:Vv} (h:fs[0]? = some x):Ir fs=(decide (x.pms.length=0)&&decide (x.res=0)):=by
 cases fs with
 | nil=>simp at h
 | cons f r=>simp at h;subst h;rfl
theorem Pg {ps ls:LI} {j:Nat} {v:Int} {r:Bool} (h:ls[j]? = some v) (hg:(0<=v/\v<=(ps.length:Int)-1)/\ps[v.toNat]?≠some 0/\(∀p,(if j=0 then none else ls[j-1]?)=some p->p<v))
  (hr:Kb ps (ls.drop j) (if j=0 then none else ls[j-1]?)=r):Kb ps (ls.drop (j+1)) (if j+1=0 then none else ls[j+1-1]?)=r:=by
 rw [Yo h,Lg hg] at hr
 rw [Zd om,show j+1-1=j from rfl,h];exact hr
theorem Li {ps ls:LI} {j:Nat} {v:Int} {r:Bool} (h:ls[j]? = some v) (hg:¬((0<=v/\v<=(ps.length:Int)-1)/\ps[v.toNat]?≠some 0/\(∀p,(if j=0 then none else ls[j-1]?)=some p->p<v)))
  (hr:Kb ps (ls.drop j) (if j=0 then none else ls[j-1]?)=r):r=false:=by
 rw [Yo h,Gm hg] at hr;exact hr.symm
theorem GZ {m:Nat} {fs:List Vv} {k:Nat} {f:Vv} {r:Bool} (h:fs[k]? = some f) (hb:Ab m f=false) (hr:Kh m (fs.drop k)=r):r=false:=by
 rw [Yo h,Kh,hb,Zd (by simp)] at hr;exact hr.symm
theorem Zdb {m:Nat} {fs:List Vv} {k:Nat} {f:Vv} {r:Bool} (h:fs[k]? = some f) (hb:Ab m f=true) (hr:Kh m (fs.drop k)=r):Kh m (fs.drop (k+1))=r:=by
 rw [Yo h,Kh,Zl hb] at hr;exact hr
end Go.Abs
namespace Go.Abs
section
variable {ds:List Ze} {fs:List Vv} {x:Vv}
theorem Zgb (h:((¬(WS ds=true))∨((fs.length:Int)<1))∨((fs.length:Int)>4)):false=TX ds fs:=by
 rw [TX]
 rcases h with (h|h)|h
 ·rw [Qd.2 h];rfl
 ·rw [decide_eq_false (p:=1<=fs.length/\fs.length<=4) om];simp
 ·rw [decide_eq_false (p:=1<=fs.length/\fs.length<=4) om];simp
theorem Z0b (hx:fs[0]? = some x) (h:((x.pms.length:Int)>0)∨x.res≠0):false=TX ds fs:=by
 rw [TX,NP hx]
 rcases h with h|h
 ·rw [decide_eq_false (p:=x.pms.length=0) om];simp
 ·rw [decide_eq_false (p:=x.res=0) h];simp
theorem Hm (h:Kh ds.length fs=false):false=TX ds fs:=by rw [TX,h];simp
theorem Zgc (h:¬(((¬(WS ds=true))∨((fs.length:Int)<1))∨((fs.length:Int)>4))) (hx:fs[0]? = some x) (h1:¬((x.pms.length:Int)>0)) (h2:¬x.res≠0) (h3:Kh ds.length fs=true) :
  true=TX ds fs:=by
 have hv:WS ds=true:=Up.1 fun q=>h (.inl (.inl q))
 have ha:¬(fs.length:Int)<1:=fun q=>h (.inl (.inr q))
 have hb:¬(fs.length:Int)>4:=fun q=>h (.inr q)
 rw [TX,NP hx,hv,h3,decide_eq_true (p:=1<=fs.length/\fs.length<=4) om,decide_eq_true (p:=x.pms.length=0) om,decide_eq_true (p:=x.res=0) (Up.1 h2)];rfl
abbrev S8 (m:Nat) (x:Vv):Prop:=(((x.pms.length:Int)>3)∨(¬(Wm m x.pms=true)))∨(¬(0<=x.res/\x.res<=m))
theorem Zcx {m:Nat} (h:S8 m x):Ab m x=false:=by
 rw [Ab,KP]
 rcases h with (h|h)|h
 ·rw [decide_eq_false (p:=x.pms.length<=3) om];simp
 ·rw [Qd.2 h];simp
 ·rw [decide_eq_false h];simp
theorem LP {m:Nat} (h:Uj x.pms x.lnt=false):Ab m x=false:=by rw [Ab,h,Bool.and_false]
theorem Zcy {m:Nat} (h:¬S8 m x) (hl:Uj x.pms x.lnt=true):Ab m x=true:=by
 have h1:¬(x.pms.length:Int)>3:=fun q=>h (.inl (.inl q))
 rw [Ab,KP,hl,decide_eq_true (p:=x.pms.length<=3) om,Up.1 fun q=>h (.inl (.inr q)),decide_eq_true (Up.1 fun q=>h (.inr q))];rfl
end
end Go.Abs
end
section
namespace Go.Abs
structure NTy (n:ZF):Prop where
 result:∀r∈n.routines,0<=r.result
 params:∀r∈n.routines,∀p∈r.params,0<=p
 decl:∀d∈n.decls,d.cons.length=0->0<=d.frm/\0<=d.to_
 fields:∀c,∀f∈ZQ n.decls c,0<=f
end Go.Abs
namespace Go.Abs
end Go.Abs
namespace Go.Abs
end Go.Abs
namespace Go.Abs
section
variable {S:Option Int} {c:Prop} [Decidable c] {v:Int} {b:Bool}
end
section
variable {n:ZF} {op num:Int} {ts:LI}
end
end Go.Abs
end
namespace Go.Abs
mutual
def Z5.rng:Z5->Prop
 | .mk _ num _ _ kids=>(-9223372036854775808<=num/\num<=9223372036854775807)/\JP kids
def Z7.rng:Z7->Prop
 | .mk steps _=>Ac steps
def Ac:List Z5->Prop
 | []=>True
 | s::r=>s.rng/\Ac r
def JP:List Z7->Prop
 | []=>True
 | b::r=>b.rng/\JP r
end
theorem Z5.rng_eq (s:Z5):s.rng=((-9223372036854775808<=s.num/\s.num<=9223372036854775807)/\JP s.kids):=by cases s;rw [Z5.rng];rfl
theorem Z7.rng_eq (b:Z7):b.rng=Ac b.steps:=by cases b;rw [Z7.rng];rfl
section
variable {n:ZF} {us ts:LI} {s:Z5}
end
theorem Zfi {n:ZF} {us:LI} {s:Z5} (h:0<=X0 n us s):(0<=s.op/\s.op<=11)∨(14<=s.op/\s.op<=17):=by
 rw [M7] at h
 by_cases hq:(0<=s.op/\s.op<=11)∨(14<=s.op/\s.op<=17)
 ·exact hq
 ·exfalso
  split at h
  ·omega
  rw [Zd om,Zd om,Zd om,Zd om,Zd om,Zd om,Zd om,Zd om,Zd om] at h
  omega
theorem Nj {n:ZF} {us:LI} {s:Z5} (h:0<=X0 n us s):Xg s.op=!YN s.op:=by
 have:=Zfi h
 rw [Xg,YN,Yb];simp;omega

end Go.Abs
section
namespace Go.Abs
structure J4 where
 mat:Int
 fst:Int
 fds:LI
 chg:Bool
def Ux:LI->Int->LI
 | [],_=>[]
 | t::r,p=>if t≠0 then p::Ux r (p+1) else Ux r (p+1)
theorem Z7v {xs:LI} {k:Nat} {t p:Int} {acc r:LI} (h:xs[k]? = some t) (ha:acc++Ux (xs.drop k) (p+k)=r) :
  (if t≠0 then acc++[p+k] else acc)++Ux (xs.drop (k+1)) (p+((k+1:Nat):Int))=r:=by
 rw [Yo h,Ux] at ha
 rw [show p+((k+1:Nat):Int)=p+k+1 by omega]
 split
 ·rename_i q;rw [Zl q] at ha;rw [VP];exact ha
 ·rename_i q;rw [Zd q] at ha;exact ha
theorem Z7u {xs:LI} {k:Nat} {p:Int} {acc r:LI} (h:xs.length<=k) (ha:acc++Ux (xs.drop k) (p+k)=r):acc=r:=by
 rw [Xt h,Ux,JC] at ha;exact ha
theorem IK:∀{xs:LI} {p f:Int},f∈Ux xs p->p<=f/\f<p+xs.length
 | [],_,_,h=>by simp [Ux] at h
 | t::r,p,f,h=>by
  rw [Ux] at h
  split at h
  ·rcases YM.1 h with rfl|h
   ·simp only [Yx];omega
   ·have:=IK h;simp only [Yx];omega
  ·have:=IK h;simp only [Yx];omega
theorem G3:∀(xs:LI) (p:Int),(Ux xs p).length<=xs.length
 | [],_=>by simp [Ux]
 | t::r,p=>by
  have:=G3 r (p+1)
  rw [Ux];split<;>simp<;>omega
def PA:List J4->Int->Option J4
 | [],_=>none
 | a::r,v=>match PA r v with
  | some x=>some x
  | none=>if a.mat=v then some a else none
structure Zgo (ds:List Ze) (L:ZO) (as1:List J4):Prop where
 rng:∀a∈as1,0<=a.mat/\a.mat<a.fst/\a.fst+a.fds.length<=L.vars.length
 par:∀a∈as1,∀v:Int,a.fst<=v->v<a.fst+a.fds.length->gI L.par v=a.mat
 non:∀v:Int,0<=v->v<L.vars.length->0<=gI L.par v->∃a∈as1,a.fst<=v/\v<a.fst+a.fds.length
 off:∀v:Int,0<=v->v<L.vars.length->match PA as1 v with
  | none=>gI L.con v<0
  | some a=>0<=gI L.con v/\a.fst=gI L.fst v/\a.fds=ZQ ds (gI L.con v)
end Go.Abs
namespace Go.Abs
end Go.Abs
namespace Go.Abs
end Go.Abs
namespace Go.Abs
section
variable {n:ZF} {ln:LI} {L:ZO} {op v:Int} {am:List J4} {a:J4}
end
end Go.Abs
namespace Go.Abs
end Go.Abs
end
section
namespace Go.Abs
section
variable {n:ZF} {us:LI} {op num:Int}
end
end Go.Abs
namespace Go.Abs
end Go.Abs
namespace Go.Abs
end Go.Abs
end
section
namespace Go.Abs
section
variable {n:ZF} {ln:LI}
end
end Go.Abs
namespace Go.Abs
end Go.Abs
namespace Go.Abs
end Go.Abs
namespace Go.Abs
section
variable {n:ZF} {ln:LI} {L:ZO} {s:Z5}
end
end Go.Abs
namespace Go.Abs
end Go.Abs
namespace Go.Abs
end Go.Abs
namespace Go.Abs
end Go.Abs
end
section
namespace Go.Abs
end Go.Abs
namespace Go.Abs
end Go.Abs
namespace Go.Abs
end Go.Abs
end
section
namespace Go.Abs
def Z2l (c:Yp):Nat:=c.fields.length
def N7:List Yp->Nat
 | []=>0
 | c::r=>Z2l c+N7 r
def Z2x (l:List Yp):Nat:=l.length+N7 l
def Z3j (d:Ze):Nat:=Z2x d.cons
def Nh:List Ze->Nat
 | []=>0
 | d::r=>Z3j d+Nh r
def Z3o (l:List Ze):Nat:=l.length+Nh l
end Go.Abs
namespace Go.Abs
end Go.Abs
namespace Go.Abs
end Go.Abs
namespace Go.Abs
end Go.Abs
end
namespace Go.Abs
def Zx (op v:Int):Z5:=.mk op 0 0 [v] []
def Ww (ds:List Ze) (num:Int) (k:Nat):LI:=((ZX ds num).map (ZQ ds))[k]?.getD []
section
variable {ds:List Ze} {am:List J4} {m:Nat}
end
theorem Ip {ds:List Ze} {num:Int} {k:Nat} {m:LI} (h:((ZX ds num).map (ZQ ds))[k]? = some m):Ww ds num k=m:=by rw [Ww,h];rfl
theorem FP {ds:List Ze} (hd:Xy ds) (num:Int) (k:Nat):(Ww ds num k).length<=3:=by
 rw [Ww,J1]
 cases (ZX ds num)[k]? with
 | none=>simp
 | some c=>exact Ve hd c
theorem H8 {xs:List Z5} {k:Nat} {s:Z5} (h:xs[k]? = some s):Yu (xs.take (k+1))=Yu (xs.take k)+s.sz:=by
 induction xs generalizing k with
 | nil=>simp at h
 | cons t r ih=>
  cases k with
  | zero=>simp at h;subst h;simp [Yu]
  | succ k=>rw [Ai,Ai,Yu,Yu,ih (by simpa using h)];omega
theorem Kl (xs:List Z5) (k:Nat):Yu (xs.take k)<=Yu xs:=by
 induction xs generalizing k with
 | nil=>simp
 | cons t r ih=>
  cases k with
  | zero=>simp [Yu]
  | succ k=>have:=ih k;rw [Ai,Yu,Yu];omega
theorem Zd9 {n:ZF} {us:LI} {s:Z5} (g:0<=X0 n us s) (h:YN s.op=true):QT n us s=us:=by rw [QT,Nj g,h];rfl
theorem Zd8 {n:ZF} {us:LI} {s:Z5} (g:0<=X0 n us s) (h:¬YN s.op=true):(QT n us s).length=us.length+1:=by
 rw [QT,Nj g,Qd.2 h];simp
theorem Zda {n:ZF} {us:LI} {s:Z5} (g:0<=X0 n us s):(QT n us s).length=if YN s.op=true then us.length else us.length+1:=by
 split
 ·rw [Zd9 g (by assumption)]
 ·exact Zd8 g (by assumption)

theorem TU:∀(xs ys:List Z5),Yu (xs++ys)=Yu xs+Yu ys
 | [],ys=>by simp [Yu]
 | x::r,ys=>by rw [Ag,Yu,Yu,TU r ys];omega
theorem Fz (op v:Int):(Zx op v).sz=2:=by rw [Zx,Z5.sz];simp [YW]
theorem M4 (op:Int):∀l:LI,Yu (l.map (Zx op))=2*l.length
 | []=>by simp [Yu]
 | x::r=>by rw [Td,Yu,Fz,M4 op r,Yx];omega
section
variable {ds:List Ze} (hd:Xy ds)
include hd
end
def XF (n:Nat):LI:=(List.range n).map Int.ofNat
theorem Zar (n:Nat):XF (n+1)=XF n++[(n:Int)]:=by simp [XF,List.range_succ]
theorem Du (n:Nat):(XF n).length=n:=by simp [XF]
theorem Gt (n:Nat):∀f∈XF n,0<=f/\f<=n:=by
 intro f hf
 simp only [XF,XN,List.mem_range] at hf
 obtain ⟨a,ha,rfl⟩:=hf
 show 0<=(a:Int)/\(a:Int)<=n
 omega
def C2 (ds:List Ze) (num:Int) (k:Nat):Int:=gI (ZX ds num) k
section
variable {ds:List Ze} {cons first:LI}
end
def Tv (first:LI):Prop:=∀f∈first,0<=f/\f<=1000000000
theorem Tv.snoc {first:LI} (h:Tv first):Tv (first++[0]):=by
 intro f hf
 rcases Xm.1 hf with hf|hf
 ·exact h f hf
 ·rw [Xr.1 hf];omega
theorem Tv.x {first:LI} (h:Tv first) {x m k:Nat} (hm:m<=1000000000) (hk:k<=1000000000):Tv (first.set x (m:Int)++XF k):=by
 intro f hf
 rcases Xm.1 hf with hf|hf
 ·rcases Jr hf with hf|rfl
  ·exact h f hf
  ·omega
 ·have:=Gt k f hf;omega
section
variable {ds:List Ze} (hd:Xy ds)
include hd
end
def XL:List Z5->Nat
 | []=>0
 | s::r=>if s.op=14∨s.op=15 then XL r+1 else 0
def Wn (op:Int):List Z5->LI
 | []=>[]
 | s::r=>if s.op=op then gI s.args 0::Wn op r else Wn op r
def Ug:LI->Int->LI->LI->LI × LI
 | [],_,D,R=>(D,R)
 | f::r,q,D,R=>if f≠0/\q∈D then Ug r (q+1) (D.erase q) R else if f≠0 then Ug r (q+1) D (R++[q]) else Ug r (q+1) D R
def KN (xs:List Z5) (x:Int) (fs:LI) (q:Int):LI × LI:=Ug fs q (Wn 14 (xs.take (XL xs))) ((Wn 15 (xs.take (XL xs))).erase x)
def Qz (xs:List Z5) (x:Int) (fs:LI) (q:Int):List Z5:=
 if x∈Wn 15 (xs.take (XL xs))/\fs.length≠0 then (KN xs x fs q).1.map (Zx 14)++[Zx 16 x]++(KN xs x fs q).2.map (Zx 15)++xs.drop (XL xs) else xs
def QY (b:Z7) (x:Int) (fs:LI) (q:Int):Z7:=.mk (Qz b.steps x fs q) b.result
theorem GT:∀xs:List Z5,XL xs<=xs.length
 | []=>X9 _
 | s::r=>by have:=GT r;rw [XL];split<;>simp<;>omega
theorem RS:∀{xs:List Z5} {s:Z5},s∈xs.take (XL xs)->s.op=14∨s.op=15
 | [],s,h=>by simp [XL] at h
 | t::r,s,h=>by
  rw [XL] at h
  split at h
  ·rename_i q
   rw [Ai] at h
   rcases YM.1 h with rfl|h
   ·exact q
   ·exact RS h
  ·simp at h
theorem HM:∀xs:List Z5,(Wn 14 xs).length+(Wn 15 xs).length<=xs.length
 | []=>by simp [Wn]
 | s::r=>by
  have:=HM r
  rw [Wn,Wn]
  by_cases h:s.op=14
  ·rw [Zl h,Zd om];simp;omega
  ·rw [Zd h];split<;>simp<;>omega
theorem GC:∀(fs:LI) (q:Int) (D R:LI),(Ug fs q D R).1.length+(Ug fs q D R).2.length<=D.length+R.length+fs.length
 | [],q,D,R=>by simp [Ug]
 | f::r,q,D,R=>by
  rw [Ug,Yx]
  split
  ·have:=GC r (q+1) (D.erase q) R
   have h2:=List.length_erase_le (a:=q) (l:=D)
   omega
  ·split
   ·have:=GC r (q+1) D (R++[q])
    simp only [Ys,Yx,X7] at this
    omega
   ·have:=GC r (q+1) D R
    omega
theorem Zbb {xs:List Z5} {x:Int} {fs:LI} {q:Int} (h:x∈Wn 15 (xs.take (XL xs))) (hf:fs.length<=3):(KN xs x fs q).1.length+(KN xs x fs q).2.length<=XL xs+2:=by
 have h1:=GC fs q (Wn 14 (xs.take (XL xs))) ((Wn 15 (xs.take (XL xs))).erase x)
 have h2:=HM (xs.take (XL xs))
 have h3:=List.length_pos_of_mem h
 rw [List.length_erase_of_mem h] at h1
 rw [Wh] at h2
 have h4:=GT xs
 unfold KN
 omega
theorem Zf4 (xs:List Z5) (k:Nat):Yu xs=Yu (xs.take k)+Yu (xs.drop k):=by rw [<-TU,Tu]
theorem SG:∀xs:List Z5,(∀s∈xs,2<=s.sz)->2*xs.length<=Yu xs
 | [],_=>by simp
 | s::r,h=>by
  have h1:=SG r fun t ht=>h t (XG _ ht)
  have h2:=h s (Xp ..)
  rw [Yu,Yx];omega
theorem Z1d {xs:List Z5} {x:Int} {fs:LI} {q:Int} (hf:fs.length<=3) (h:∀s∈xs,s.op=14∨s.op=15->2<=s.sz):Yu (Qz xs x fs q)<=Yu xs+6:=by
 rw [Qz]
 split
 ·rename_i hc
  have h1:=Zbb (q:=q) hc.1 hf
  have h2:=SG (xs.take (XL xs)) fun s hs=>h s (Qt hs) (RS hs)
  have h3:=Zf4 xs (XL xs)
  have h4:=GT xs
  rw [Wh] at h2
  rw [TU,TU,TU,M4,M4,Yu,Yu,Fz]
  omega
 ·omega
def Cn (s:Z5):Prop:=s=Zx s.op (gI s.args 0)
theorem Z1c {xs:List Z5} {m:Int} {fs:LI} {q:Int} (h:¬(m∈Wn 15 (xs.take (XL xs))/\fs.length≠0)):Qz xs m fs q=xs:=Zd h
end Go.Abs
section
namespace Go.Abs
mutual
def Ki (ds:List Ze) (m:Nat):Z5->Z5
 | .mk op num into args kids=>.mk op num into args (UD ds m op num args kids 0)
def UD (ds:List Ze) (m:Nat) (op num:Int) (args:LI):List Z7->Nat->List Z7
 | [],_=>[]
 | b::r,k=>(if op=8 then QY (WO ds (m+(Ww ds num k).length) b) (gI args 0) (Ww ds num k) m else WO ds m b)::UD ds m op num args r (k+1)
def VO (ds:List Ze) (m:Nat):List Z5->List Z5
 | []=>[]
 | s::r=>Ki ds m s::VO ds (if YN s.op=true then m else m+1) r
def WO (ds:List Ze) (m:Nat):Z7->Z7
 | .mk steps result=>.mk (VO ds m steps) result
end
def H2 (ds:List Ze) (m:Nat) (op num:Int) (args:LI) (k:Nat) (b:Z7):Z7:=if op=8 then QY (WO ds (m+(Ww ds num k).length) b) (gI args 0) (Ww ds num k) m else WO ds m b
theorem EW (ds:List Ze) (m:Nat) (s:Z5):Ki ds m s=.mk s.op s.num s.into s.args (UD ds m s.op s.num s.args s.kids 0):=by cases s;rw [Ki];rfl
theorem H0 (ds:List Ze) (m:Nat) (b:Z7):WO ds m b=.mk (VO ds m b.steps) b.result:=by cases b;rw [WO];rfl
section
variable {ds:List Ze} {m:Nat}
theorem Zdi {xs acc r:List Z5} {k:Nat} {s:Z5} (h:xs[k]? = some s) (ha:acc++VO ds m (xs.drop k)=r) :
  (acc++[.mk s.op s.num s.into s.args (UD ds m s.op s.num s.args s.kids 0)])++VO ds (if YN s.op=true then m else m+1) (xs.drop (k+1))=r:=by
 rw [Yo h,VO,EW] at ha
 rw [<-ha];simp
theorem Zdh {xs acc r:List Z5} {k:Nat} (h:xs.length<=k) (ha:acc++VO ds m (xs.drop k)=r):acc=r:=by
 rw [Xt h,VO,JC] at ha;exact ha
theorem Sc {op num:Int} {args:LI} {bs acc r:List Z7} {k:Nat} {b:Z7} (h:bs[k]? = some b) (ha:acc++UD ds m op num args (bs.drop k) k=r) :
  (acc++[H2 ds m op num args k b])++UD ds m op num args (bs.drop (k+1)) (k+1)=r:=by
 rw [Yo h,UD] at ha
 rw [<-ha,H2];simp
theorem Zdd {op num:Int} {args:LI} {bs acc r:List Z7} {k j:Nat} (h:bs.length<=k) (ha:acc++UD ds m op num args (bs.drop k) j=r):acc=r:=by
 rw [Xt h,UD,JC] at ha;exact ha
end
mutual
def wS (ds:List Ze):Z5->Prop
 | .mk op num into args kids=>(Xg op=!YN op)/\(YN op=true->num=0/\into=0/\kids=[]/\∃a,args=[a])/\(op=8->(∃a,args=[a]/\0<=a/\a<=900000000)/\kids.length=(ZX ds num).length)/\KZ ds kids
def KZ (ds:List Ze):List Z7->Prop
 | []=>True
 | b::r=>wB ds b/\KZ ds r
def Qs (ds:List Ze):List Z5->Prop
 | []=>True
 | s::r=>wS ds s/\Qs ds r
def wB (ds:List Ze):Z7->Prop
 | .mk steps _=>Qs ds steps
end
section
variable {ds:List Ze}
theorem Jz (s:Z5):wS ds s↔(Xg s.op=!YN s.op)/\(YN s.op=true->s.num=0/\s.into=0/\s.kids=[]/\∃a,s.args=[a])/\(s.op=8->(∃a,s.args=[a]/\0<=a/\a<=900000000)/\s.kids.length=(ZX ds s.num).length)/\KZ ds s.kids:=by cases s;rw [wS];rfl
theorem KY (b:Z7):wB ds b↔Qs ds b.steps:=by cases b;rw [wB];rfl
theorem B1:∀{xs:List Z5},Qs ds xs↔∀s∈xs,wS ds s
 | []=>by simp [Qs]
 | s::r=>by rw [Qs,B1];simp
theorem Hn:∀{xs:List Z7},KZ ds xs↔∀s∈xs,wB ds s
 | []=>by simp [KZ]
 | s::r=>by rw [KZ,Hn];simp
theorem Z0c {b:Z7} {k:Nat} {s:Z5} (h:wB ds b) (hs:b.steps[k]? = some s):wS ds s:=B1.1 ((KY b).1 h) s (Y4 hs)
theorem Mm {s:Z5} {k:Nat} {b:Z7} (h:wS ds s) (hb:s.kids[k]? = some b):wB ds b:=Hn.1 ((Jz s).1 h).2.2.2 b (Y4 hb)
theorem Ho {s:Z5} (h:wS ds s) (hc:YN s.op=true):Cn s/\s.kids=[]/\∃a,s.args=[a]:=by
 obtain ⟨h1,h2,h3,a,h4⟩:=((Jz s).1 h).2.1 hc
 refine ⟨?_,h3,a,h4⟩
 cases s with
 | mk op num into args kids=>
  simp only [Z5.num,Z5.into,Z5.kids,Z5.args] at h1 h2 h3 h4
  subst h1 h2 h3 h4
  rfl
theorem Zgg {op v:Int} (h:op=14∨op=15∨op=16):wS ds (Zx op v):=(Jz _).2 ⟨by show Xg op=!YN op;rcases h with rfl|rfl|rfl<;>rfl,fun _=>⟨rfl,rfl,rfl,v,rfl⟩,fun e=>absurd e (show op≠8 by omega),True.intro⟩
theorem Zgh {s:Z5} (h:wS ds s):Xg s.op=!YN s.op:=((Jz s).1 h).1
theorem F6 {s:Z5} (h:wS ds s) (h8:s.op=8):(∃a,s.args=[a]/\0<=a/\a<=900000000)/\s.kids.length=(ZX ds s.num).length:=((Jz s).1 h).2.2.1 h8
theorem Hw {xs:List Z5} (h:Qs ds xs):∀s∈xs,YN s.op=true->Cn s:=fun s hs hc=>(Ho (B1.1 h s hs) hc).1
end
section
variable {n:ZF}
end
mutual
def Z5.pz:Z5->Nat
 | .mk _ _ _ args kids=>1+args.length+Dz kids
def Z7.pz:Z7->Nat
 | .mk steps _=>1+DA steps
def DA:List Z5->Nat
 | []=>0
 | s::r=>s.pz+DA r
def Dz:List Z7->Nat
 | []=>0
 | b::r=>b.pz+8+Dz r
end
mutual
theorem Z5.pz_le:∀s:Z5,s.pz<=9*s.sz
 | .mk _ _ _ args kids=>by have:=R6 kids;rw [Z5.pz,Z5.sz];omega
theorem Z7.pz_le:∀b:Z7,b.pz+8<=9*b.sz
 | .mk steps _=>by have:=R7 steps;rw [Z7.pz,Z7.sz];omega
theorem R7:∀xs:List Z5,DA xs<=9*Yu xs
 | []=>Te _
 | s::r=>by have:=s.pz_le;have:=R7 r;rw [DA,Yu];omega
theorem R6:∀xs:List Z7,Dz xs<=9*YW xs
 | []=>Te _
 | s::r=>by have:=s.pz_le;have:=R6 r;rw [Dz,YW];omega
end
section
variable {ds:List Ze}
theorem Z2h {op:Int} (h:op=14∨op=15):YN op=true:=by rw [YN];simp;omega
theorem Zdj {xs:List Z5}:∀{m:Nat},Qs ds xs->∀s∈VO ds m xs,s.op=14∨s.op=15->2<=s.sz:=by
 induction xs with
 | nil=>intro m _ s hs;simp [VO] at hs
 | cons t r ih=>
  intro m h s hs ho
  rw [VO] at hs
  rcases YM.1 hs with rfl|hs
  ·rw [EW] at ho ⊢
   obtain ⟨_,_,a,ha⟩:=Ho h.1 (Z2h ho)
   rw [Z5.sz,ha];simp
  ·exact ih h.2 s hs ho
variable (hd:Xy ds)
include hd
mutual
theorem Zdf:∀(s:Z5) {m:Nat},wS ds s->(Ki ds m s).sz<=s.pz
 | .mk op num into args kids,m,h=>by
  have:=Sd kids (m:=m) (op:=op) (num:=num) (args:=args) (k:=0) h.2.2.2
  rw [Ki,Z5.sz,Z5.pz];omega
theorem Sd:∀(bs:List Z7) {m:Nat} {op num:Int} {args:LI} {k:Nat},KZ ds bs->YW (UD ds m op num args bs k)<=Dz bs
 | [],_,_,_,_,_,_=>X9 _
 | b::r,m,op,num,args,k,h=>by
  have h2:=Sd r (m:=m) (op:=op) (num:=num) (args:=args) (k:=k+1) h.2
  rw [UD,YW,Dz]
  split
  ·have h1:=H1 b (m:=m+(Ww ds num k).length) h.1
   have h3:=Z1d (xs:=(WO ds (m+(Ww ds num k).length) b).steps) (x:=gI args 0) (q:=(m:Int)) (FP hd num k) (by rw [H0];exact Zdj ((KY b).1 h.1))
   rw [QY,Z7.sz]
   rw [Z7.sz_eq] at h1
   omega
  ·have h1:=H1 b (m:=m) h.1
   omega
theorem Sf:∀(xs:List Z5) {m:Nat},Qs ds xs->Yu (VO ds m xs)<=DA xs
 | [],_,_=>X9 _
 | s::r,m,h=>by
  have h1:=Zdf s (m:=m) h.1
  have h2:=Sf r (m:=if YN s.op=true then m else m+1) h.2
  rw [VO,Yu,DA];omega
theorem H1:∀(b:Z7) {m:Nat},wB ds b->(WO ds m b).sz<=b.pz
 | .mk steps result,m,h=>by
  have:=Sf steps (m:=m) h
  rw [WO,Z7.sz,Z7.pz];omega
end
end
section
variable {ds:List Ze} {m:Nat}
end
def BG (ds:List Ze) (r:YA):YA:=⟨r.params,r.lent,r.result,WO ds r.params.length r.body⟩
def CD (n:ZF):ZF:=⟨n.decls,n.routines.map (BG n.decls)⟩
end Go.Abs
namespace Go.Abs
theorem Zcs {xs:List Z5} {k:Nat} {s:Z5} {r:Nat} (h:xs[k]? = some s) (hs:s.op=14∨s.op=15) (ha:k+XL (xs.drop k)=r):k+1+XL (xs.drop (k+1))=r:=by
 rw [Yo h,XL,Zl hs] at ha;omega
theorem Zct {xs:List Z5} {k:Nat} {s:Z5} {r:Nat} (h:xs[k]? = some s) (hs:¬(s.op=14∨s.op=15)) (ha:k+XL (xs.drop k)=r):k=r:=by
 rw [Yo h,XL,Zd hs] at ha;omega
theorem Zcr {xs:List Z5} {k:Nat} {r:Nat} (h:xs.length<=k) (ha:k+XL (xs.drop k)=r):k=r:=by
 rw [Xt h,XL] at ha;omega
theorem Z1n {op:Int} {xs:List Z5} {acc r:LI} {k:Nat} {s:Z5} (h:xs[k]? = some s) (hs:s.op=op) (ha:acc++Wn op (xs.drop k)=r):(acc++[gI s.args 0])++Wn op (xs.drop (k+1))=r:=by
 rw [Yo h,Wn,Zl hs] at ha;rw [<-ha];simp
theorem Z1m {op:Int} {xs:List Z5} {acc r:LI} {k:Nat} {s:Z5} (h:xs[k]? = some s) (hs:¬s.op=op) (ha:acc++Wn op (xs.drop k)=r):acc++Wn op (xs.drop (k+1))=r:=by
 rw [Yo h,Wn,Zd hs] at ha;exact ha
theorem Z1l {op:Int} {xs:List Z5} {acc r:LI} {k:Nat} (h:xs.length<=k) (ha:acc++Wn op (xs.drop k)=r):acc=r:=by
 rw [Xt h,Wn,JC] at ha;exact ha
theorem Z4b {xs acc r:LI} {y:Int} {k:Nat} {x:Int} {d:Bool} (h:xs[k]? = some x) (ha:acc++(if d=true then xs.drop k else (xs.drop k).erase y)=r) :
  (if x=y/\¬d=true then acc else acc++[x])++(if ((x==y&&!d)||d)=true then xs.drop (k+1) else (xs.drop (k+1)).erase y)=r:=by
 rw [Yo h] at ha
 rw [<-ha]
 by_cases hd:d=true
 ·simp [hd]
 ·by_cases hx:x=y
  ·simp [hd,hx]
  ·rw [Zd (fun z=>hx z.1),Zd hd,List.erase_cons_tail (by simpa using hx)]
   simp [hd,hx]
theorem Z4a {xs acc r:LI} {y:Int} {k:Nat} {d:Bool} (h:xs.length<=k) (ha:acc++(if d=true then xs.drop k else (xs.drop k).erase y)=r):acc=r:=by
 rw [Xt h] at ha;simpa using ha
section
variable {fs D R:LI} {q k:Nat} {f:Int} {r:LI × LI}
theorem Zbd (h:fs[k]? = some f) (h0:f≠0) (hm:((q+k:Nat):Int)∈D) (ha:Ug (fs.drop k) (q+k) D R=r):Ug (fs.drop (k+1)) (q+((k+1:Nat):Int)) (D.erase ((q+k:Nat):Int)) R=r:=by
 rw [Yo h,Ug,Zl ⟨h0,by rw [<-Int.natCast_add];exact hm⟩,<-Int.natCast_add] at ha
 rw [<-ha];congr 1
theorem Zbe (h:fs[k]? = some f) (h0:f≠0) (hm:¬((q+k:Nat):Int)∈D) (ha:Ug (fs.drop k) (q+k) D R=r):Ug (fs.drop (k+1)) (q+((k+1:Nat):Int)) D (R++[((q+k:Nat):Int)])=r:=by
 rw [Yo h,Ug,Zd (fun z=>hm (by rw [Int.natCast_add];exact z.2)),Zl h0,<-Int.natCast_add] at ha
 rw [<-ha];congr 1
theorem Zbf (h:fs[k]? = some f) (h0:¬f≠0) (ha:Ug (fs.drop k) (q+k) D R=r):Ug (fs.drop (k+1)) (q+((k+1:Nat):Int)) D R=r:=by
 rw [Yo h,Ug,Zd (fun z=>h0 z.1),Zd h0] at ha
 rw [<-ha];congr 1
theorem Zbc (h:fs.length<=k) (ha:Ug (fs.drop k) (q+k) D R=r):r=(D,R):=by
 rw [Xt h,Ug] at ha;exact ha.symm
end
theorem Z1e {xs:List Z5} {x:Int} {fs:LI} {q:Int} {D R:LI} (h1:x∈Wn 15 (xs.take (XL xs))) (h2:fs.length≠0) (hr:KN xs x fs q=(D,R)):D.map (Zx 14)++[Zx 16 x]++R.map (Zx 15)++xs.drop (XL xs)=Qz xs x fs q:=by
 rw [Qz,Zl ⟨h1,h2⟩,hr]
theorem Zdg {ds:List Ze} {xs:List Z5}:∀{m:Nat},Qs ds xs->∀s∈VO ds m xs,YN s.op=true->∃a,s.args=[a]:=by
 induction xs with
 | nil=>intro m _ s hs;simp [VO] at hs
 | cons t r ih=>
  intro m h s hs ho
  rw [VO] at hs
  rcases YM.1 hs with rfl|hs
  ·rw [EW] at ho ⊢
   exact (Ho h.1 ho).2.2
  ·exact ih h.2 s hs ho
end Go.Abs
end
namespace Go.Abs
mutual
def Z2.sz:Z2->Nat
 | .mk _ _ kids=>1+Xz kids
def Xz:List Z2->Nat
 | []=>0
 | e::r=>e.sz+Xz r
end
theorem Z2.sz_eq (e:Z2):e.sz=1+Xz e.kids:=by cases e;rw [Z2.sz];rfl
theorem Ec:∀xs ys:List Z2,Xz (xs++ys)=Xz xs+Xz ys
 | [],ys=>by simp [Xz]
 | x::r,ys=>by rw [Ag,Xz,Xz,Ec r];omega
theorem Cf:∀{xs:List Z2} {k:Nat} {e:Z2},xs[k]? = some e->e.sz<=Xz xs
 | [],k,e,h=>by simp at h
 | x::r,0,e,h=>by simp at h;subst h;rw [Xz];omega
 | x::r,k+1,e,h=>by have:=Cf (xs:=r) (k:=k) (by simpa using h);rw [Xz];omega
theorem NA:∀{xs:List Z2},xs.length<=Xz xs
 | []=>Te _
 | x::r=>by have:=NA (xs:=r);have:=x.sz_eq;rw [Xz,Yx];omega
def Av:Ze:=⟨0,0,[⟨[]⟩,⟨[0,1]⟩]⟩
def Aw:Ze:=⟨0,0,[⟨[]⟩,⟨[3,0,3]⟩]⟩
def Nc:List Ze:=[⟨0,0,[⟨[1,3]⟩]⟩,⟨1,0,[]⟩,⟨0,0,[⟨[1,1,0]⟩,⟨[0]⟩,⟨[3]⟩]⟩,⟨0,1,[]⟩]
def AI:List (List Ze):=[[Av,⟨0,0,[]⟩,Aw],[Av,⟨0,0,[]⟩,Aw,⟨0,0,[⟨[1,3]⟩]⟩],[Av,⟨0,0,[]⟩,Aw,⟨1,0,[]⟩],[Av,⟨0,0,[]⟩,Aw,⟨0,0,[⟨[1,1,0]⟩,⟨[0]⟩,⟨[3]⟩]⟩],[Av,⟨0,0,[]⟩,Aw,⟨0,1,[]⟩]]
def GD (ds:List Ze):Prop:=ds∈AI
theorem GD.ok {ds:List Ze} (h:GD ds):Xy ds:=by
 have k:=(by decide:∀ds∈AI,ds.length<=4/\(∀d∈ds,d.cons.length<=3)/\∀d∈ds,∀c∈d.cons,c.fields.length<=3) ds h
 exact ⟨k.1,k.2.1,k.2.2⟩
theorem GD.len {ds:List Ze} (h:GD ds):3<=ds.length/\ds.length<=4:=by
 exact (by decide:∀ds∈AI,3<=ds.length/\ds.length<=4) ds h
def KL (t:Int):Prop:=t=0∨t=1∨t=3
instance (t:Int):Decidable (KL t):=inferInstanceAs (Decidable (_∨_∨_))
theorem GD.low {ds:List Ze} (h:GD ds):ZX ds 0=[]/\ZX ds 1=[0,1]/\ZX ds 2=[]/\ZX ds 3=[2,3]/\ZQ ds 0=[]/\ZQ ds 1=[0,1]/\ZQ ds 2=[]/\ZQ ds 3=[3,0,3]:=
 (by decide:∀ds∈AI,ZX ds 0=[]/\ZX ds 1=[0,1]/\ZX ds 2=[]/\ZX ds 3=[2,3]/\ZQ ds 0=[]/\ZQ ds 1=[0,1]/\ZQ ds 2=[]/\ZQ ds 3=[3,0,3]) ds h
theorem GD.fields {ds:List Ze} (h:GD ds):∀c∈ZX ds 1++(ZX ds 3++ZX ds 4),∀t∈ZQ ds c,KL t:=
 (by decide:∀ds∈AI,∀c∈ZX ds 1++(ZX ds 3++ZX ds 4),∀t∈ZQ ds c,KL t) ds h
theorem GD.cons_cases {ds:List Ze} (h:GD ds) {t:Int} {c:Int} (hc:c∈ZX ds t):(0<=c/\c<=9)/\(t=1∨t=3∨t=4)/\(ZQ ds c).length<=3/\∀u∈ZQ ds c,KL u:=by
 have ht:1<=t/\t<=ds.length:=by
  by_cases q:1<=t/\t<=ds.length
  ·exact q
  ·rw [ZX,Zd q] at hc;cases hc
 have hl:=h.len
 have hlow:=h.low
 have key:∀c∈ZX ds 1++(ZX ds 3++ZX ds 4),0<=c/\c<=9:=
  (by decide:∀ds∈AI,∀c∈ZX ds 1++(ZX ds 3++ZX ds 4),0<=c/\c<=9) ds h
 have h4:t=1∨t=2∨t=3∨t=4:=by omega
 have hf:=h.fields
 have hd:=Ve h.ok c
 rcases h4 with rfl|rfl|rfl|rfl
 ·exact ⟨key c (Xm.2 (.inl hc)),.inl rfl,hd,hf c (Xm.2 (.inl hc))⟩
 ·rw [hlow.2.2.1] at hc;cases hc
 ·exact ⟨key c (Xm.2 (.inr (Xm.2 (.inl hc)))),.inr (.inl rfl),hd,hf c (Xm.2 (.inr (Xm.2 (.inl hc))))⟩
 ·exact ⟨key c (Xm.2 (.inr (Xm.2 (.inr hc)))),.inr (.inr rfl),hd,hf c (Xm.2 (.inr (Xm.2 (.inr hc))))⟩
def JJ:List (LI × Int):=[([],0),([1],0),([1,1],1),([1],1),([1,0],1),([2,1],1),([1,1],0),([3],0),([0],1),([0,1],1),([3,0],3),([3],1),([1,3,0],0),([0],0),([0,0],0),([1,0],0)]
def Th (f:Func):Prop:=(f.params,f.result)∈JJ
theorem Th.bd {f:Func} (h:Th f):f.params.length<=3/\(∀t∈f.params,0<=t/\t<=3)/\KL f.result:=by
 have key:∀q∈JJ,q.1.length<=3/\(∀t∈q.1,0<=t/\t<=3)/\KL q.2:=by decide
 exact key _ h
theorem Th.clo {ds:List Ze} {f:Func} (hd:GD ds) (h:Th f) (hp:0<JL ds (gI f.params ((f.params.length:Int)-1)) f.result):∀t∈f.params.dropLast,KL t:=by
 have key:∀q∈JJ,0<JL ds (gI q.1 ((q.1.length:Int)-1)) q.2->∀t∈q.1.dropLast,KL t:=
  (by decide +kernel:∀ds∈AI,∀q∈JJ,0<JL ds (gI q.1 ((q.1.length:Int)-1)) q.2->∀t∈q.1.dropLast,KL t) ds hd
 exact key _ h hp
structure GP (p:W4):Prop where
 decls:GD p.decls
 len:1<=p.funcs.length/\p.funcs.length<=4
 sigs:∀f∈p.funcs,Th f
def TS (ds:List Ze) (op num:Int) (m:Nat) (k:Nat):Nat:=
 if op=13 then m+k else if op=8 then (if k=0 then m else m+(ZQ ds (gI (ZX ds num) ((k:Int)-1))).length) else m
mutual
def eW (ds:List Ze) (nf:Nat):Nat->Z2->Prop
 | m,.mk op num kids=>(0<=op/\op<=13)/\(op=12->kids=[]/\0<=num/\num<m)/\(op=13->kids.length=2)/\(op=7->kids.length=3)/\(op=8->kids.length=1+(ZX ds num).length)/\(op=9->0<=num/\num<nf)/\(-2000<=num/\num<=2000)/\kids.length<=4 /\
  QE ds nf (TS ds op num m) 0 kids
def QE (ds:List Ze) (nf:Nat) (sc:Nat->Nat):Nat->List Z2->Prop
 | _,[]=>True
 | k,e::r=>eW ds nf (sc k) e/\QE ds nf sc (k+1) r
end
theorem Z44 {ds:List Ze} {nf m:Nat} (e:Z2):eW ds nf m e↔(0<=e.op/\e.op<=13)/\(e.op=12->e.kids=[]/\0<=e.num/\e.num<m)/\(e.op=13->e.kids.length=2)/\(e.op=7->e.kids.length=3)/\(e.op=8->e.kids.length=1+(ZX ds e.num).length)/\(e.op=9->0<=e.num/\e.num<nf)/\(-2000<=e.num/\e.num<=2000)/\e.kids.length<=4 /\
  QE ds nf (TS ds e.op e.num m) 0 e.kids:=by cases e;rw [eW];rfl
theorem D8 {ds:List Ze} {nf:Nat} {sc:Nat->Nat}:∀{xs:List Z2} {j k:Nat} {e:Z2},QE ds nf sc j xs->xs[k]? = some e->eW ds nf (sc (j+k)) e
 | [],j,k,e,_,h=>by simp at h
 | x::r,j,0,e,hw,h=>by simp at h;subst h;exact hw.1
 | x::r,j,k+1,e,hw,h=>by
  have:=D8 (xs:=r) (j:=j+1) (k:=k) hw.2 (by simpa using h)
  rw [show j+(k+1)=j+1+k by omega];exact this
theorem Nv {ds:List Ze} {nf:Nat} {sc:Nat->Nat}:∀{xs ys:List Z2} {j:Nat},QE ds nf sc j (xs++ys)↔QE ds nf sc j xs/\QE ds nf sc (j+xs.length) ys
 | [],ys,j=>by simp [QE]
 | x::r,ys,j=>by
  rw [Ag,QE,QE,Nv (xs:=r),and_assoc,Yx,show j+1+r.length=j+(r.length+1) by omega]
theorem Ii {ds:List Ze} {nf m:Nat} {sc:Nat->Nat} (hs:∀k,sc k=m):∀{xs:List Z2} {j:Nat},(∀e∈xs,eW ds nf m e)->QE ds nf sc j xs
 | [],_,_=>True.intro
 | x::r,j,h=>⟨by rw [hs];exact h x (Xp ..),Ii hs fun e he=>h e (XG _ he)⟩
theorem Ce {ds:List Ze} {nf m:Nat} {op num:Int} {kids:List Z2} (ho:0<=op/\op<=11/\op≠7/\op≠8) (hc:op=9->0<=num/\num<nf) (hn:-2000<=num/\num<=2000) (hl:kids.length<=4) (hk:∀e∈kids,eW ds nf m e):eW ds nf m (.mk op num kids):=by
 rw [eW]
 refine ⟨by omega,fun h=>by omega,fun h=>by omega,fun h=>by omega,fun h=>by omega,hc,hn,hl,Ii (m:=m) (fun k=>?_) hk⟩
 rw [TS,Zd om,Zd om]
theorem Z45 {ds:List Ze} {nf m:Nat} {z:Int} (hz:-2000<=z/\z<=2000):eW ds nf m (.mk 0 z []):=Ce om (fun h=>by omega) hz (by simp) (fun e he=>by cases he)
theorem Z46 {ds:List Ze} {nf m:Nat} {z:Int} (hz:0<=z/\z<m) (hm:m<=2000):eW ds nf m (.mk 12 z []):=by
 rw [eW]
 exact ⟨by omega,fun _=>⟨rfl,hz⟩,fun h=>by omega,fun h=>by omega,fun h=>by omega,fun h=>by omega,by omega,by simp,True.intro⟩
theorem Nt {ds:List Ze} {nf m:Nat} {num:Int} {kids:List Z2} (hn:-2000<=num/\num<=2000) (hl:kids.length=3) (hk:∀e∈kids,eW ds nf m e):eW ds nf m (.mk 7 num kids):=by
 rw [eW]
 refine ⟨by omega,fun h=>by omega,fun h=>by omega,fun _=>hl,fun h=>by omega,fun h=>by omega,hn,by omega,Ii (m:=m) (fun k=>?_) hk⟩
 rw [TS,Zd om,Zd om]
theorem Nu {ds:List Ze} {nf m:Nat} {num:Int} {a b:Z2} (hn:-2000<=num/\num<=2000) (ha:eW ds nf m a) (hb:eW ds nf (m+1) b):eW ds nf m (.mk 13 num [a,b]):=by
 rw [eW]
 exact ⟨by omega,fun h=>by omega,fun _=>rfl,fun h=>by omega,fun h=>by omega,fun h=>by omega,hn,by simp,ha,hb,True.intro⟩
theorem Ih {ds:List Ze} {nf m:Nat} {num:Int} {a:Z2} {arms:List Z2} (hn:-2000<=num/\num<=2000) (h3:arms.length<=3) (hl:arms.length=(ZX ds num).length) (ha:eW ds nf m a) (hk:QE ds nf (TS ds 8 num m) 1 arms):eW ds nf m (.mk 8 num (a::arms)):=by
 rw [eW]
 refine ⟨by omega,fun h=>by omega,fun h=>by omega,fun h=>by omega,fun _=>by rw [Yx];omega,fun h=>by omega,hn,by rw [Yx];omega,?_,hk⟩
 rw [TS,Zd om,Zl rfl,Zl rfl]
 exact ha
def bS (b:Nat):Nat:=max 4 (10*b-10)
def bC (b:Nat):Nat:=max 40 (100*b-100)
def Yt:List Z5->Nat
 | []=>0
 | s::r=>(if YN s.op=true then 0 else 1)+Yt r
theorem UX:∀xs ys:List Z5,Yt (xs++ys)=Yt xs+Yt ys
 | [],ys=>by simp [Yt]
 | x::r,ys=>by rw [Ag,Yt,Yt,UX r];omega
theorem Ax:∀xs:List Z5,Yt xs<=xs.length
 | []=>X9 _
 | x::r=>by have:=Ax r;rw [Yt,Yx];split<;>omega
def WQ (ds:List Ze) (op num:Int) (m:Nat) (k:Nat):Nat:=if op=8 then m+(ZQ ds (gI (ZX ds num) k)).length else m
mutual
def fS (ds:List Ze) (nf:Nat):Nat->Z5->Prop
 | m,.mk op num into args kids=>((0<=op/\op<=11)∨(14<=op/\op<=17))/\(∀a∈args,0<=a/\a<m)/\(14<=op->num=0/\into=0/\kids=[]/\∃a,args=[a])/\(op=7->kids.length=2)/\(op=8->kids.length=(ZX ds num).length)/\(op=7∨op=8->∃a,args=[a]) /\
  (op=9->0<=num/\num<nf)/\(-2000<=num/\num<=2000)/\(0<=into/\into<=m)/\args.length<=4/\(op≠7/\op≠8->kids=[])/\VW ds nf (WQ ds op num m) 0 kids
def VW (ds:List Ze) (nf:Nat) (sc:Nat->Nat):Nat->List Z7->Prop
 | _,[]=>True
 | k,b::r=>fB ds nf (sc k) b/\VW ds nf sc (k+1) r
def W7 (ds:List Ze) (nf:Nat):Nat->List Z5->Prop
 | _,[]=>True
 | m,s::r=>fS ds nf m s/\W7 ds nf (if YN s.op=true then m else m+1) r
def fB (ds:List Ze) (nf:Nat):Nat->Z7->Prop
 | m,.mk steps result=>W7 ds nf m steps/\0<=result/\result<(m+Yt steps:Nat)
end
section
variable {ds:List Ze} {nf:Nat}
structure FS (ds:List Ze) (nf m:Nat) (s:Z5):Prop where
 op:(0<=s.op/\s.op<=11)∨(14<=s.op/\s.op<=17)
 args:∀a∈s.args,0<=a/\a<m
 cnt:14<=s.op->s.num=0/\s.into=0/\s.kids=[]/\∃a,s.args=[a]
 k7:s.op=7->s.kids.length=2
 k8:s.op=8->s.kids.length=(ZX ds s.num).length
 one:s.op=7∨s.op=8->∃a,s.args=[a]
 call:s.op=9->0<=s.num/\s.num<nf
 num:-2000<=s.num/\s.num<=2000
 into:0<=s.into/\s.into<=m
 alen:s.args.length<=4
 kn:s.op≠7/\s.op≠8->s.kids=[]
 kids:VW ds nf (WQ ds s.op s.num m) 0 s.kids
theorem AE {m:Nat} (s:Z5):fS ds nf m s↔FS ds nf m s:=by
 cases s
 rw [fS]
 exact ⟨fun ⟨h1,h2,h3,h4,h5,h6,h7,h8,h9,h10,h11,h12⟩=>⟨h1,h2,h3,h4,h5,h6,h7,h8,h9,h10,h11,h12⟩,fun h=>⟨h.op,h.args,h.cnt,h.k7,h.k8,h.one,h.call,h.num,h.into,h.alen,h.kn,h.kids⟩⟩
theorem Kz {m:Nat} (b:Z7):fB ds nf m b↔W7 ds nf m b.steps/\0<=b.result/\b.result<(m+Yt b.steps:Nat):=by cases b;rw [fB];rfl
theorem Bj {sc:Nat->Nat}:∀{xs:List Z7} {j k:Nat} {b:Z7},VW ds nf sc j xs->xs[k]? = some b->fB ds nf (sc (j+k)) b
 | [],j,k,b,_,h=>by simp at h
 | x::r,j,0,b,hw,h=>by simp at h;subst h;exact hw.1
 | x::r,j,k+1,b,hw,h=>by
  have:=Bj (xs:=r) (j:=j+1) (k:=k) hw.2 (by simpa using h)
  rw [show j+(k+1)=j+1+k by omega];exact this
theorem ND {sc:Nat->Nat}:∀{xs ys:List Z7} {j:Nat},VW ds nf sc j (xs++ys)↔VW ds nf sc j xs/\VW ds nf sc (j+xs.length) ys
 | [],ys,j=>by simp [VW]
 | x::r,ys,j=>by
  rw [Ag,VW,VW,ND (xs:=r),and_assoc,Yx,show j+1+r.length=j+(r.length+1) by omega]
theorem NF {sc:Nat->Nat} {xs:List Z7} {b:Z7} (h:VW ds nf sc 0 xs) (hb:fB ds nf (sc xs.length) b):VW ds nf sc 0 (xs++[b]):=
 ND.2 ⟨h,by rw [Wk];exact hb,True.intro⟩
theorem A0:∀{xs ys:List Z5} {m:Nat},W7 ds nf m (xs++ys)↔W7 ds nf m xs/\W7 ds nf (m+Yt xs) ys
 | [],ys,m=>by simp [W7,Yt]
 | x::r,ys,m=>by
  rw [Ag,W7,W7,A0 (xs:=r),and_assoc,Yt]
  by_cases h:YN x.op=true
  ·rw [Zl h,Zl h,Wk]
  ·rw [Zd h,Zd h,Aj]
theorem FM {xs:List Z5} {s:Z5} {m:Nat} (h:W7 ds nf m xs) (hs:fS ds nf (m+Yt xs) s):W7 ds nf m (xs++[s]):=A0.2 ⟨h,hs,True.intro⟩
theorem Da:∀{xs:List Z5} {k m:Nat} {s:Z5},W7 ds nf m xs->xs[k]? = some s->fS ds nf (m+Yt (xs.take k)) s
 | [],k,m,s,_,h=>by simp at h
 | x::r,0,m,s,hw,h=>by simp at h;subst h;exact hw.1
 | x::r,k+1,m,s,hw,h=>by
  have:=Da (xs:=r) (k:=k) hw.2 (by simpa using h)
  rw [Ai,Yt]
  by_cases hc:YN x.op=true
  ·rw [Zl hc] at this ⊢;rw [Wk];exact this
  ·rw [Zd hc] at this ⊢;rw [<-Aj];exact this
theorem Im {op v:Int} {m:Nat} (ho:14<=op/\op<=17) (hv:0<=v/\v<m):fS ds nf m (Zx op v):=by
 rw [Zx,fS]
 exact ⟨.inr ho,fun a ha=>by rw [Xr.1 ha];exact hv,fun _=>⟨rfl,rfl,rfl,v,rfl⟩,fun h=>by omega,fun h=>by omega,fun h=>by omega,fun h=>by omega,by omega,by omega,by simp,fun _=>rfl,True.intro⟩
theorem FL {op:Int} {m:Nat} (ho:14<=op/\op<=17):∀{vs:LI},(∀v∈vs,0<=v/\v<(m:Int))->W7 ds nf m (vs.map (Zx op))/\Yt (vs.map (Zx op))=0
 | [],_=>⟨True.intro,rfl⟩
 | v::r,h=>by
  obtain ⟨h1,h2⟩:=FL ho (vs:=r) fun x hx=>h x (XG _ hx)
  have hc:YN op=true:=by simp [YN];omega
  have hc':YN (Zx op v).op=true:=hc
  rw [Td,W7,Yt,Zl hc',Zl hc',Wk]
  exact ⟨⟨Im ho (h v (Xp ..)),h1⟩,h2⟩
mutual
theorem Zgj:∀(s:Z5) {m:Nat},fS ds nf m s->m+4*s.sz<=900000000->Xy ds->wS ds s
 | .mk op num into args kids,m,h,hb,hd=>by
  rw [fS] at h
  obtain ⟨h1,h2,h3,h4,h5,h6,h7,h8,h9,h10,h11,h12⟩:=h
  rw [Z5.sz] at hb
  rw [wS]
  refine ⟨?_,fun hc=>h3 (show 14<=op/\op<=17 by simpa [YN] using hc).1,fun h8'=>⟨?_,h5 h8'⟩,Z0d kids h12 (fun k=>?_) hd⟩
  ·rcases h1 with h1|h1
   ·have e1:YN op=false:=by simp [YN];omega
    have e2:Xg op=true:=by simp [Xg];omega
    rw [e1,e2];rfl
   ·have e1:YN op=true:=by simp [YN];omega
    have e2:Xg op=false:=by simp [Xg];omega
    rw [e1,e2];rfl
  ·obtain ⟨a,ha⟩:=h6 (.inr h8')
   have:=h2 a (by rw [ha];exact Xr.2 rfl)
   exact ⟨a,ha,by omega⟩
  ·have hf:=Ve hd (gI (ZX ds num) k)
   show WQ ds op num m k+4*YW kids<=900000003
   rw [WQ];split<;>omega
theorem Z0d:∀(bs:List Z7) {sc:Nat->Nat} {k:Nat},VW ds nf sc k bs->(∀k,sc k+4*YW bs<=900000003)->Xy ds->KZ ds bs
 | [],_,_,_,_,_=>True.intro
 | b::r,sc,k,h,hb,hd=>by
  have hp:=b.sz_eq
  exact ⟨Ml b h.1 (by have:=hb k;rw [YW] at this;omega) hd,Z0d r h.2 (fun j=>by have:=hb j;rw [YW] at this;omega) hd⟩
theorem Z0e:∀(xs:List Z5) {m:Nat},W7 ds nf m xs->m+4*Yu xs<=900000000->Xy ds->Qs ds xs
 | [],_,_,_,_=>True.intro
 | s::r,m,h,hb,hd=>by
  rw [Yu] at hb
  have hp:=s.sz_pos
  refine ⟨Zgj s h.1 om hd,Z0e r h.2 ?_ hd⟩
  split<;>omega
theorem Ml:∀(b:Z7) {m:Nat},fB ds nf m b->m+4*b.sz<=900000004->Xy ds->wB ds b
 | .mk steps result,m,h,hb,hd=>by
  rw [Z7.sz] at hb
  rw [fB] at h
  rw [wB]
  exact Z0e steps h.1 om hd
end
mutual
theorem Zcb:∀(s:Z5) {m:Nat},fS ds nf m s->s.rng
 | .mk op num into args kids,m,h=>by
  rw [fS] at h
  obtain ⟨h1,h2,h3,h4,h5,h6,h7,h8,h9,h10,h11,h12⟩:=h
  rw [Z5.rng]
  exact ⟨by omega,Rv kids h12⟩
theorem Rv:∀(bs:List Z7) {sc:Nat->Nat} {k:Nat},VW ds nf sc k bs->JP bs
 | [],_,_,_=>True.intro
 | b::r,sc,k,h=>⟨LG b h.1,Rv r h.2⟩
theorem Rw:∀(xs:List Z5) {m:Nat},W7 ds nf m xs->Ac xs
 | [],_,_=>True.intro
 | s::r,m,h=>⟨Zcb s h.1,Rw r h.2⟩
theorem LG:∀(b:Z7) {m:Nat},fB ds nf m b->b.rng
 | .mk steps result,m,h=>by rw [fB] at h;rw [Z7.rng];exact Rw steps h.1
end
end
structure FN (n:ZF) (q:Nat):Prop where
 decls:GD n.decls
 len:1<=n.routines.length/\n.routines.length<=4
 sigs:∀r∈n.routines,(r.params,r.result)∈JJ
 lent:∀r∈n.routines,r.lent.length<=3/\∀i∈r.lent,0<=i/\i<r.params.length
 body:∀r∈n.routines,fB n.decls n.routines.length r.params.length r.body/\r.body.sz<=q
theorem FN.ok {n:ZF} {q:Nat} (h:FN n q):Xs n:=
 ⟨h.decls.ok,h.len.2,fun r hr=>(Th.bd (f:=⟨r.params,r.result,default⟩) (h.sigs r hr)).1,fun r hr=>by have:=(h.lent r hr).1;omega⟩
def Pk (n k:Int):Prop:=0<=k/\(0<n->k<n)/\(n<=0->k=0)
theorem Pk.lt {n k:Int} (h:Pk n k) (hn:0<n):0<=k/\k<n:=⟨h.1,h.2.1 hn⟩
theorem Pk.zero {n:Int}:Pk n 0:=⟨Int.le_refl _,fun h=>h,fun _=>rfl⟩
theorem Pk.rem {n a:Int} (ha:0<=a) (hn:0<n):Pk n (a % n):=⟨Int.emod_nonneg _ om,fun _=>Int.emod_lt_of_pos _ hn,fun _=>by omega⟩
def AD (ds:List Ze):Prop:=ds.length<=8/\∀d∈ds,d.cons.length<=4/\∀c∈d.cons,c.fields.length<=4
theorem GD.ad {ds:List Ze} (h:GD ds):AD ds:=(by decide:∀ds∈AI,ds.length<=8/\∀d∈ds,d.cons.length<=4/\∀c∈d.cons,c.fields.length<=4) ds h
theorem AD.set {ds:List Ze} (h:AD ds) (k:Nat) {d:Ze} (hd:d.cons.length<=4/\∀c∈d.cons,c.fields.length<=4):AD (ds.set k d):=
 ⟨by rw [VJ];exact h.1,fun x hx=>(List.mem_or_eq_of_mem_set hx).elim (h.2 x) fun e=>by rw [e];exact hd⟩
theorem AD.app {ds es:List Ze} (h:AD ds) (hl:ds.length+es.length<=8) (hd:∀d∈es,d.cons.length<=4/\∀c∈d.cons,c.fields.length<=4):AD (ds++es):=
 ⟨by rw [Ys];exact hl,fun x hx=>(Xm.1 hx).elim (h.2 x) (hd x)⟩
theorem GD.three:GD [Av,⟨0,0,[]⟩,Aw]:=List.Mem.head _
theorem GD.four:∀{k:Nat} {x:Ze},Nc[k]? = some x->GD ([Av,⟨0,0,[]⟩,Aw]++[x])
 | 0,x,h=>by cases h;exact .tail _ (.head _)
 | 1,x,h=>by cases h;exact .tail _ (.tail _ (.head _))
 | 2,x,h=>by cases h;exact .tail _ (.tail _ (.tail _ (.head _)))
 | 3,x,h=>by cases h;exact .tail _ (.tail _ (.tail _ (.tail _ (.head _))))
 | k+4,x,h=>by simp [Nc] at h
theorem Bv {l:LI} {z a b:Int} (h:z∈l) (hl:l.all (fun x=>decide (a<=x/\x<=b))=true):a<=z/\z<=b:=by
 have:=Af.1 hl z h
 exact of_decide_eq_true this
def rk (t:Int):Nat:=if KL t then 0 else 1
theorem LF (t:Int):rk t<=1:=by rw [rk];split<;>omega
theorem Ru {t:Int} (h:KL t):rk t=0:=Zl h
def SE (g:W4) (q:Nat) (e:Z2):Prop:=(∀m,eW g.decls g.funcs.length m e)/\e.sz<=q
def GE (g:W4) (m q:Nat) (e:Z2):Prop:=eW g.decls g.funcs.length m e/\e.sz<=q
theorem SE.ge {g:W4} {q q' m:Nat} {e:Z2} (h:SE g q e) (hq:q<=q'):GE g m q' e:=⟨h.1 m,Vb h.2 hq⟩
theorem GE.le {g:W4} {m q q':Nat} {e:Z2} (h:GE g m q e) (hq:q<=q'):GE g m q' e:=⟨h.1,Vb h.2 hq⟩
theorem FK {m:Nat}:∀{xs:List Z2},(∀e∈xs,e.sz<=m)->Xz xs<=xs.length*m
 | [],_=>Te _
 | x::r,h=>by
  have h1:=h x (Xp ..)
  have h2:=FK (xs:=r) fun e he=>h e (XG _ he)
  rw [Xz,Yx,Qu];omega
theorem XD {α:Type} {p:α->Prop} {xs:List α} {a:α} (h:∀x∈xs,p x) (ha:p a):∀x∈xs++[a],p x:=fun x hx=>(Xm.1 hx).elim (h x) fun q=>by rw [Xr.1 q];exact ha
theorem SE.int {g:W4} {z:Int} {q:Nat} (hz:-2000<=z/\z<=2000) (hq:1<=q):SE g q (.mk 0 z []):=⟨fun _=>Z45 hz,by simpa [Z2.sz,Xz] using hq⟩
theorem SE.node {g:W4} {op num:Int} {ys:List Z2} {q k:Nat} (ho:op=6∨op=10) (hn:0<=num/\num<=2000) (hy:∀e∈ys,SE g 1 e) (hl:ys.length<=k) (hk:k<=3) (hq:1+k<=q):SE g q (.mk op num ys):=by
 refine ⟨fun m=>Ce om (fun h=>by omega) om om fun e he=>(hy e he).1 m,?_⟩
 have:=FK (xs:=ys) (m:=1) fun e he=>(hy e he).2
 rw [Z2.sz];omega
def Ba (ds:List Ze) (t c:Int):Prop:=(0<=c/\c<=9)/\(ZQ ds c).length<=3*rk t/\∀u∈ZQ ds c,KL u
instance (ds:List Ze) (t c:Int):Decidable (Ba ds t c):=inferInstanceAs (Decidable (_/\_/\_))
theorem S2 {ds:List Ze} (h:GD ds):∀t∈[(1:Int),2,3,4],∀c∈ZX ds t,(t∈ZQ ds c->∀c0,(ZX ds t)[0]? = some c0->Ba ds t c0)/\(¬t∈ZQ ds c->Ba ds t c):=by
 intro t ht c hc
 have k1:=(by decide:∀ds∈AI,∀t∈[(1:Int),2,3,4],∀c∈ZX ds t,(t∈ZQ ds c->Ba ds t (gI (ZX ds t) 0))/\(¬t∈ZQ ds c->Ba ds t c)) ds h t ht c hc
 refine ⟨fun q c0 h0=>?_,k1.2⟩
 have:=k1.1 q
 rwa [T5 (i:=0) h0] at this
theorem N8 {ds:List Ze} (h:GD ds) {t c:Int} (hc:c∈ZX ds t):t∈[(1:Int),2,3,4]:=by
 obtain ⟨_,h2,_⟩:=h.cons_cases hc
 rcases h2 with rfl|rfl|rfl<;>simp
theorem Zd7 {ds:List Ze} (h:GD ds) {t c c0:Int} (hc:c∈ZX ds t) (ht:t∈ZQ ds c) (h0:(ZX ds t)[0]? = some c0):Ba ds t c0:=(S2 h t (N8 h hc) c hc).1 ht c0 h0
theorem Zd6 {ds:List Ze} (h:GD ds) {t c:Int} (hc:c∈ZX ds t) (ht:¬t∈ZQ ds c):Ba ds t c:=(S2 h t (N8 h hc) c hc).2 ht
theorem Zca {ds:List Ze} (h:GD ds) {t:Int} (h0:(ZX ds t).length=0) (ht:0<t):rk t=1:=by
 rw [rk,Zd]
 rintro (q|q|q)
 ·omega
 ·rw [q,h.low.2.1] at h0;cases h0
 ·rw [q,h.low.2.2.2.1] at h0;cases h0
def Ak (g:W4) (t i:Int):Prop:=0<=i/\∃f,g.funcs[i.toNat]? = some f/\0<f.params.length/\JL g.decls (gI f.params ((f.params.length:Int)-1)) f.result=t
theorem Ak.lt {g:W4} {t i:Int} (h:Ak g t i):0<=i/\i<g.funcs.length:=by
 obtain ⟨h1,f,h2,_⟩:=h
 have:=(Xc.1 h2).1
 omega
theorem Ak.mk {g:W4} {t x2:Int} {k:Nat} {f:Func} (hf:g.funcs[k]? = some f) (hl:0<f.params.length) (hx:f.params[f.params.length-1]? = some x2) (ha:JL g.decls x2 f.result=t):Ak g t (k:Int):=by
 refine ⟨by omega,f,by simpa using hf,hl,?_⟩
 rw [T5 (i:=(f.params.length:Int)-1) (by rw [show ((f.params.length:Int)-1).toNat=f.params.length-1 by omega];exact hx)]
 exact ha
theorem Ak.low {g:W4} {t i u:Int} {f:Func} {j:Nat} (hg:GP g) (h:Ak g t i) (ht:0<t) (hf:g.funcs[i.toNat]? = some f) (hj:j+1<f.params.length) (hu:f.params[j]? = some u):rk u=0:=by
 obtain ⟨_,f',h2,_,h4⟩:=h
 have e:f'=f:=Ko (h2.symm.trans hf)
 subst e
 have h5:=(hg.sigs f' (Y4 hf)).clo hg.decls (by rw [h4];exact ht)
 refine Ru (h5 u ?_)
 rw [List.dropLast_eq_take]
 exact Y4 (i:=j) (by rw [List.getElem?_take_of_lt om];exact hu)
end Go.Abs
section
namespace Go.Abs
theorem JN (b:Nat):bS b=max 4 (10*b-10):=rfl
theorem JM (b:Nat):bC b=max 40 (100*b-100):=rfl
theorem ED {L q b:Nat} (hL:L<=3) (hb:3<=b) (hq:L*q<=b-1):1+L*bS q<=bS b:=by
 rw [JN,JN]
 have:L=0∨L=1∨L=2∨L=3:=by omega
 rcases this with rfl|rfl|rfl|rfl<;>omega
theorem Zac {L q b:Nat} (hL:L<=3) (hb:3<=b) (hq:L*q<=b-2):5+L*bS q<=bS b:=by
 rw [JN,JN]
 have:L=0∨L=1∨L=2∨L=3:=by omega
 rcases this with rfl|rfl|rfl|rfl<;>omega
theorem Za7 {b:Nat} (hb:3<=b):1+(bS (b / 2)+bS (b / 2))<=bS b:=by rw [JN,JN];omega
theorem Z1g {b:Nat} (hb:3<=b):5+bS (b-2)<=bS b:=by rw [JN,JN];omega
theorem AR {L q b:Nat} (hL:L<=3) (hb:3<=b) (hq:L*q<=b-1):10+L*bC q<=bC b:=by
 rw [JM,JM]
 have:L=0∨L=1∨L=2∨L=3:=by omega
 rcases this with rfl|rfl|rfl|rfl<;>omega
theorem Zab {L q b:Nat} (hL:L<=3) (hb:3<=b) (hq:L*q<=b-2):40+L*bC q<=bC b:=by
 rw [JM,JM]
 have:L=0∨L=1∨L=2∨L=3:=by omega
 rcases this with rfl|rfl|rfl|rfl<;>omega
theorem Za6 {b:Nat} (hb:3<=b):10+(bC (b / 2)+bC (b / 2))<=bC b:=by rw [JM,JM];omega
theorem Z1f {b:Nat} (hb:3<=b):40+bC (b-2)<=bC b:=by rw [JM,JM];omega
theorem MP (b:Nat):4<=bS b:=by rw [JN];omega
theorem MO (b:Nat):40<=bC b:=by rw [JM];omega
theorem TY (L b:Nat):L*(b / L)<=b:=Nat.mul_div_le b L
theorem Pp {k L C:Nat} (h:k<L):(k+1)*C=k*C+C/\(k+1)*C<=L*C:=⟨by rw [Qu,Nat.one_mul],J3 C h⟩
theorem DG {ds:List Ze} {d x:Int} {m k:Nat} (h:(ZX ds d)[k]? = some x):TS ds 8 d m (1+k)=m+(ZQ ds x).length:=by
 rw [TS,Zd om,Zl rfl,Zd om,T5 (i:=((1+k:Nat):Int)-1) (by rw [show (((1+k:Nat):Int)-1).toNat=k by omega];exact h)]
section
variable {g:W4} {m:Nat}
theorem GE.var {z:Int} {q:Nat} (hz:0<=z/\z<m) (hm:m<=2000) (hq:1<=q):GE g m q (.mk 12 z []):=⟨Z46 hz hm,by simpa [Z2.sz,Xz] using hq⟩
theorem GE.list {ys:List Z2} {L s:Nat} (h:∀e∈ys,GE g m s e) (hl:ys.length=L):Xz ys<=L*s:=by rw [<-hl];exact FK fun e he=>(h e he).2
theorem GE.node {op num:Int} {ys:List Z2} {L s q:Nat} (ho:0<=op/\op<=11/\op≠7/\op≠8) (hc:op=9->0<=num/\num<g.funcs.length) (hn:-2000<=num/\num<=2000) (h:∀e∈ys,GE g m s e) (hl:ys.length=L) (hL:L<=3) (hq:1+L*s<=q):GE g m q (.mk op num ys):=by
 have:=GE.list h hl
 exact ⟨Ce ho hc hn om fun e he=>(h e he).1,by rw [Z2.sz];omega⟩
theorem GE.if_ {num:Int} {ys:List Z2} {s q:Nat} (hn:-2000<=num/\num<=2000) (h:∀e∈ys,GE g m s e) (hl:ys.length=3) (hq:1+3*s<=q):GE g m q (.mk 7 num ys):=by
 have:=GE.list h hl
 exact ⟨Nt hn hl fun e he=>(h e he).1,by rw [Z2.sz];omega⟩
theorem GE.let_ {a b:Z2} {s q:Nat} (ha:GE g m s a) (hb:GE g (m+1) s b) (hq:1+(s+s)<=q):GE g m q (.mk 13 0 [a,b]):=by
 refine ⟨Nu om ha.1 hb.1,?_⟩
 have h1:=ha.2
 have h2:=hb.2
 simp only [Z2.sz,Xz];omega
theorem GE.two {op num:Int} {a b:Z2} {s1 s2 q:Nat} (ho:0<=op/\op<=11/\op≠7/\op≠8/\op≠9) (hn:-2000<=num/\num<=2000) (ha:GE g m s1 a) (hb:GE g m s2 b) (hq:1+(s1+s2)<=q):GE g m q (.mk op num [a,b]):=by
 refine ⟨Ce om (fun h=>by omega) hn (by simp) fun e he=>?_,?_⟩
 ·rcases YM.1 he with rfl|he
  ·exact ha.1
  ·rw [Xr.1 he];exact hb.1
 ·have h1:=ha.2
  have h2:=hb.2
  simp only [Z2.sz,Xz];omega
theorem GE.match_ {d:Int} {e:Z2} {ys:List Z2} {L s q:Nat} (hd:-2000<=d/\d<=2000) (he:GE g m 4 e) (hw:QE g.decls g.funcs.length (TS g.decls 8 d m) 1 ys) (hs:∀e∈ys,e.sz<=s) (hl:ys.length=L) (hL:L=(ZX g.decls d).length) (h3:L<=3) (hq:5+L*s<=q):GE g m q (.mk 8 d (e::ys)):=by
 refine ⟨Ih hd om om he.1 hw,?_⟩
 have h1:=FK hs
 rw [hl] at h1
 have h2:=he.2
 rw [Z2.sz,Xz];omega
end
def NL (s:Nat) (left w:Int):Prop:=((s:Int)<=left/\w=left-s)∨(left<s/\w=-1)
end Go.Abs
namespace Go.Abs
theorem Cv {L b p pp M:Nat} (hL:L<=3) (hb:3<=b) (h:pp<=p+8) (hp:p+(bC b-1)<=M):pp+L*bC ((b-1) / L)<=M:=by
 have:=AR hL hb (TY L (b-1))
 omega
end Go.Abs
end
namespace Go.Abs
theorem Z4c (a b:Z2):Xz [a,b]=a.sz+b.sz:=by simp only [Xz];omega
theorem FJ (a b c:Z2):Xz [a,b,c]=a.sz+b.sz+c.sz:=by simp only [Xz];omega
theorem E2:bS 3=20/\bS 4=30/\bS 12=110/\bS 16=150/\bS 18=170/\bC 3=200/\bC 4=300/\bC 16=1500:=by decide
theorem Fo {b:Nat} (h:b<=20):bS b<=190/\bC b<=1900/\(b<=2->bS b<=10):=by rw [JN,JM];omega
section
variable {g:W4} {m:Nat}
theorem SE.ofs {op num:Int} {ys:List Z2} {q:Nat} (ho:0<=op/\op<=11/\op≠7/\op≠8/\op≠9) (hn:-2000<=num/\num<=2000) (hl:ys.length<=4) (hy:∀e∈ys,∃s,SE g s e) (hq:1+Xz ys<=q):SE g q (.mk op num ys):=
 ⟨fun m=>Ce om (fun h=>by omega) hn hl fun e he=>let ⟨_,h⟩:=hy e he;h.1 m,by rw [Z2.sz];exact hq⟩
theorem SE.nil {op num:Int} {q:Nat} (ho:0<=op/\op<=11/\op≠7/\op≠8/\op≠9) (hn:-2000<=num/\num<=2000) (hq:1<=q):SE g q (.mk op num []):=
 SE.ofs ho hn (by simp) (fun e he=>by cases he) (by simpa [Xz] using hq)
theorem SE.two {op num:Int} {a b:Z2} {s1 s2 q:Nat} (ho:0<=op/\op<=11/\op≠7/\op≠8/\op≠9) (hn:-2000<=num/\num<=2000) (ha:SE g s1 a) (hb:SE g s2 b) (hq:1+(s1+s2)<=q):SE g q (.mk op num [a,b]):=by
 refine SE.ofs ho hn (by simp) (fun e he=>?_) ?_
 ·rcases YM.1 he with rfl|he
  ·exact ⟨_,ha⟩
  ·rw [Xr.1 he];exact ⟨_,hb⟩
 ·have h1:=ha.2
  have h2:=hb.2
  rw [Z4c];omega
theorem SE.three {op num:Int} {a b c:Z2} {s1 s2 s3 q:Nat} (ho:0<=op/\op<=11/\op≠7/\op≠8/\op≠9) (hn:-2000<=num/\num<=2000) (ha:SE g s1 a) (hb:SE g s2 b) (hc:SE g s3 c) (hq:1+(s1+s2+s3)<=q):SE g q (.mk op num [a,b,c]):=by
 refine SE.ofs ho hn (by simp) (fun e he=>?_) ?_
 ·rcases YM.1 he with rfl|he
  ·exact ⟨_,ha⟩
  ·rcases YM.1 he with rfl|he
   ·exact ⟨_,hb⟩
   ·rw [Xr.1 he];exact ⟨_,hc⟩
 ·have h1:=ha.2
  have h2:=hb.2
  have h3:=hc.2
  rw [FJ];omega
theorem GE.int {z:Int} {q:Nat} (hz:-2000<=z/\z<=2000) (hq:1<=q):GE g m q (.mk 0 z []):=(SE.int (g:=g) (q:=q) hz hq).ge (X9 _)
theorem GE.three {op num:Int} {a b c:Z2} {s1 s2 s3 q:Nat} (ho:0<=op/\op<=11/\op≠8/\op≠9) (hn:-2000<=num/\num<=2000) (ha:GE g m s1 a) (hb:GE g m s2 b) (hc:GE g m s3 c) (hq:1+(s1+s2+s3)<=q):GE g m q (.mk op num [a,b,c]):=by
 have hk:∀e∈[a,b,c],eW g.decls g.funcs.length m e:=fun e he=>by
  rcases YM.1 he with rfl|he
  ·exact ha.1
  ·rcases YM.1 he with rfl|he
   ·exact hb.1
   ·rw [Xr.1 he];exact hc.1
 refine ⟨?_,?_⟩
 ·by_cases h7:op=7
  ·subst h7;exact Nt hn rfl hk
  ·exact Ce om (fun h=>by omega) hn (by simp) hk
 ·have h1:=ha.2
  have h2:=hb.2
  have h3:=hc.2
  rw [Z2.sz,FJ];omega
theorem GE.one {op num:Int} {a:Z2} {s1 q:Nat} (ho:0<=op/\op<=11/\op≠7/\op≠8/\op≠9) (hn:-2000<=num/\num<=2000) (ha:GE g m s1 a) (hq:1+s1<=q):GE g m q (.mk op num [a]):=by
 refine ⟨Ce om (fun h=>by omega) hn (by simp) fun e he=>?_,?_⟩
 ·rw [Xr.1 he];exact ha.1
 ·have h1:=ha.2
  simp only [Z2.sz,Xz];omega
theorem GE.letS {a b:Z2} {s1 s2 q:Nat} (ha:GE g m s1 a) (hb:GE g (m+1) s2 b) (hq:1+(s1+s2)<=q):GE g m q (.mk 13 0 [a,b]):=by
 refine ⟨Nu om ha.1 hb.1,?_⟩
 have h1:=ha.2
 have h2:=hb.2
 simp only [Z2.sz,Xz];omega
theorem GE.matchL (hg:GP g) {e a b:Z2} {s1 s2 s3 q:Nat} (he:GE g m s1 e) (ha:GE g m s2 a) (hb:GE g (m+2) s3 b) (hq:1+(s1+s2+s3)<=q):GE g m q (.mk 8 1 [e,a,b]):=by
 have hl:=hg.decls.low
 refine ⟨Ih om (by simp) (by rw [hl.2.1];rfl) he.1 ⟨?_,?_,True.intro⟩,?_⟩
 ·rw [DG (k:=0) (x:=0) (by rw [hl.2.1];rfl),hl.2.2.2.2.1];exact ha.1
 ·rw [DG (k:=1) (x:=1) (by rw [hl.2.1];rfl),hl.2.2.2.2.2.1];exact hb.1
 ·have h1:=he.2
  have h2:=ha.2
  have h3:=hb.2
  rw [Z2.sz,FJ];omega
theorem GE.matchT (hg:GP g) {e a b:Z2} {s1 s2 s3 q:Nat} (he:GE g m s1 e) (ha:GE g m s2 a) (hb:GE g (m+3) s3 b) (hq:1+(s1+s2+s3)<=q):GE g m q (.mk 8 3 [e,a,b]):=by
 have hl:=hg.decls.low
 refine ⟨Ih om (by simp) (by rw [hl.2.2.2.1];rfl) he.1 ⟨?_,?_,True.intro⟩,?_⟩
 ·rw [DG (k:=0) (x:=2) (by rw [hl.2.2.2.1];rfl),hl.2.2.2.2.2.2.1];exact ha.1
 ·rw [DG (k:=1) (x:=3) (by rw [hl.2.2.2.1];rfl),hl.2.2.2.2.2.2.2];exact hb.1
 ·have h1:=he.2
  have h2:=ha.2
  have h3:=hb.2
  rw [Z2.sz,FJ];omega
theorem HL {α:Type} {p:α->Prop} {a:α} (h:p a):∀x∈[a],p x:=fun x hx=>by rw [Xr.1 hx];exact h
end
structure Hy (g:W4):Prop where
 gp:GP g
 body:∀f∈g.funcs,eW g.decls g.funcs.length f.params.length f.body/\f.body.sz<=30
structure GL (ds:List Ze) (k j:Nat) (rq:List Func):Prop where
 len:rq.length=4
 sigs:∀f∈rq,Th f
 zero:∀f,rq[0]? = some f->f.params.length=0
 body:∀i f,j<=i->i<k->rq[i]? = some f->eW ds k f.params.length f.body/\f.body.sz<=30
theorem GL.gp {ds:List Ze} {k j:Nat} {rq:List Func} (h:GL ds k j rq) (hd:GD ds) (hk:1<=k/\k<=4):GP ⟨ds,rq.take k⟩:=
 ⟨hd,by show 1<=(rq.take k).length/\_;rw [Wh,h.len];omega,fun f hf=>h.sigs f (Qt hf)⟩
theorem GL.len_take {ds:List Ze} {k j:Nat} {rq:List Func} (h:GL ds k j rq) (hk:k<=4):(rq.take k).length=k:=by rw [Wh,h.len];omega
theorem GL.set {ds:List Ze} {k j:Nat} {rq:List Func} {f:Func} {e:Z2} (h:GL ds k j rq) (hj:1<=j) (hf:rq[j-1]? = some f) (he:eW ds k f.params.length e/\e.sz<=30):GL ds k (j-1) (rq.set (j-1) ⟨f.params,f.result,e⟩):=by
 have hl:=(Xc.1 hf).1
 refine ⟨by rw [VJ];exact h.len,fun x hx=>?_,fun x hx=>?_,fun i x h1 h2 hx=>?_⟩
 ·rcases List.mem_or_eq_of_mem_set hx with hx|rfl
  ·exact h.sigs x hx
  ·exact h.sigs f (Y4 hf)
 ·rw [List.getElem?_set] at hx
  split at hx
  ·rename_i h0
   cases hx
   exact h.zero f (by rw [<-h0];exact hf)
  ·exact h.zero x hx
 ·rw [List.getElem?_set] at hx
  split at hx
  ·cases hx
   exact he
  ·exact h.body i x om h2 hx
theorem GL.done {ds:List Ze} {k:Nat} {rq:List Func} (h:GL ds k 0 rq) (hd:GD ds) (hk:1<=k/\k<=4):Hy ⟨ds,rq.take k⟩:=by
 refine ⟨h.gp hd hk,fun f hf=>?_⟩
 show eW ds (rq.take k).length _ _/\_
 rw [h.len_take hk.2]
 obtain ⟨i,hi⟩:=List.getElem?_of_mem hf
 have hi2:i<(rq.take k).length:=(Xc.1 hi).1
 rw [h.len_take hk.2] at hi2
 rw [List.getElem?_take_of_lt hi2] at hi
 exact h.body i f om hi2 hi
theorem LU {l:List Func} {f:Func} {k:Nat} (h:l[k]? = some f) (hl:l.all (fun f=>decide ((f.params,f.result)∈JJ))=true):Th f:=show (f.params,f.result)∈JJ from of_decide_eq_true (Af.1 hl f (Y4 h))
theorem GL.start {ds:List Ze} {k:Nat} {e:Z2} {a b c:Func} (ha:Th a) (hb:Th b) (hc:Th c):GL ds k k [⟨[],0,e⟩,a,b,c]:=by
 refine ⟨rfl,fun f hf=>?_,fun f hf=>?_,fun i f h1 h2=>by omega⟩
 ·rcases YM.1 hf with rfl|hf
  ·exact List.Mem.head _
  ·rcases YM.1 hf with rfl|hf
   ·exact ha
   ·rcases YM.1 hf with rfl|hf
    ·exact hb
    ·rw [Xr.1 hf];exact hc
 ·cases hf;rfl
theorem Zaw {l:LI} {k:Nat} {a b:Nat} (h:(k:Int)∈l) (hl:l.all (fun x=>decide ((a:Int)<=x/\x<=b))=true):a<=k/\k<=b:=by
 have:=of_decide_eq_true (Af.1 hl _ h)
 omega
mutual
def QP (p:Int->Prop):Z5->Prop
 | .mk op _ _ _ kids=>p op/\QO p kids
def QO (p:Int->Prop):List Z7->Prop
 | []=>True
 | b::r=>Vk p b/\QO p r
def TN (p:Int->Prop):List Z5->Prop
 | []=>True
 | s::r=>QP p s/\TN p r
def Vk (p:Int->Prop):Z7->Prop
 | .mk steps _=>TN p steps
end
section
variable {p q:Int->Prop}
theorem EI (s:Z5):QP p s↔p s.op/\QO p s.kids:=by cases s;rw [QP];rfl
theorem Gx (b:Z7):Vk p b↔TN p b.steps:=by cases b;rw [Vk];rfl
theorem Dw:∀{xs:List Z7},QO p xs↔∀b∈xs,Vk p b
 | []=>by simp [QO]
 | b::r=>by rw [QO,Dw];simp
theorem Cy:∀{xs:List Z5},TN p xs↔∀b∈xs,QP p b
 | []=>by simp [TN]
 | b::r=>by rw [TN,Cy];simp
theorem Gy {xs ys:List Z5}:TN p (xs++ys)↔TN p xs/\TN p ys:=by simp only [Cy,Xm];exact ⟨fun h=>⟨fun b hb=>h b (.inl hb),fun b hb=>h b (.inr hb)⟩,fun h b hb=>hb.elim (h.1 b) (h.2 b)⟩
theorem PD {xs:List Z7} {b:Z7} (h:QO p xs) (hb:Vk p b):QO p (xs++[b]):=Dw.2 (XD (Dw.1 h) hb)
theorem Gz {xs:List Z5} {b:Z5} (h:TN p xs) (hb:QP p b):TN p (xs++[b]):=Cy.2 (XD (Cy.1 h) hb)
end
def WJ (op:Int):Prop:=op<=11
def Vu (op:Int):Prop:=op<=15
end Go.Abs
section
namespace Go.Abs
structure LW (ds:List Ze) (nf q:Nat) (e:Z2) (ys:List Z5) (v:Int):Prop where
 fs:W7 ds nf q ys
 v:0<=v/\v<(q+Yt ys:Nat)
 sz:Yu ys<=6*e.sz
 op:TN WJ ys
theorem LW.dn {ds:List Ze} {nf q:Nat} {e:Z2} {ys:List Z5} {v:Int} (h:LW ds nf q e ys v):Yt ys<=6*e.sz/\ys.length<=6*e.sz:=by
 have h1:=Ax ys
 have h2:=KU ys
 have h3:=h.sz
 omega
structure LB (ds:List Ze) (nf q:Nat) (e:Z2) (b:Z7):Prop where
 fb:fB ds nf q b
 sz:b.sz<=1+6*e.sz
 op:Vk WJ b
section
variable {ds:List Ze} {nf q:Nat}
theorem Fq:∀xs ys:List Z7,YW (xs++ys)=YW xs+YW ys
 | [],ys=>by simp [YW]
 | x::r,ys=>by rw [Ag,YW,YW,Fq r];omega
theorem LW.block {e:Z2} {ys:List Z5} {v:Int} (h:LW ds nf q e ys v):LB ds nf q e ⟨ys,v⟩:=
 ⟨by rw [fB];exact ⟨h.fs,h.v⟩,by rw [Z7.sz];have:=h.sz;omega,by rw [Vk];exact h.op⟩
theorem LW.var {e:Z2} {v:Int} (hv:0<=v/\v<q):LW ds nf q e [] v:=⟨True.intro,by simpa [Yt] using hv,by simp [Yu],True.intro⟩
theorem LW.let_ {e a b:Z2} {ys zs:List Z5} {v1 v2:Int} (ha:LW ds nf q a ys v1) (hb:LW ds nf (q+Yt ys) b zs v2) (he:a.sz+b.sz<e.sz):LW ds nf q e (ys++zs) v2:=by
 refine ⟨A0.2 ⟨ha.fs,hb.fs⟩,by rw [UX,<-Aj];exact hb.v,?_,Gy.2 ⟨ha.op,hb.op⟩⟩
 have h1:=ha.sz
 have h2:=hb.sz
 rw [TU];omega
theorem E6 {ys:List Z5} {s:Z5} (h:YN s.op=false):Yt (ys++[s])=Yt ys+1:=by
 rw [UX]
 simp [Yt,h]
theorem LW.node {e:Z2} {ys:List Z5} {as1:LI} (ho:0<=e.op/\e.op<=11/\e.op≠7/\e.op≠8) (hc:e.op=9->0<=e.num/\e.num<nf) (hn:-2000<=e.num/\e.num<=2000) (hf:W7 ds nf q ys) (ha:∀a∈as1,0<=a/\a<(q+Yt ys:Nat)) (hl:as1.length<=4) (hs:Yu ys<=6*Xz e.kids) (hop:TN WJ ys) :
  LW ds nf q e (ys++[⟨e.op,e.num,0,as1,[]⟩]) ((q+Yt ys:Nat):Int):=by
 have hcb:YN e.op=false:=by simp [YN];omega
 refine ⟨FM hf ?_,?_,?_,Gz hop (by rw [QP];exact ⟨by show e.op<=11;omega,True.intro⟩)⟩
 ·rw [fS]
  exact ⟨.inl ⟨by omega,by omega⟩,ha,fun h=>by omega,fun h=>by omega,fun h=>by omega,fun h=>by omega,hc,hn,by omega,hl,fun _=>rfl,True.intro⟩
 ·rw [E6 (show YN (Z5.mk e.op e.num 0 as1 []).op=false from hcb)];omega
 ·rw [TU,e.sz_eq]
  simp only [Yu,Z5.sz,YW]
  omega
theorem LW.branch {e:Z2} {ys:List Z5} {v:Int} {bs:List Z7} {s0 sr:Nat} (ho:e.op=7∨e.op=8) (h7:e.op=7->bs.length=2) (h8:e.op=8->bs.length=(ZX ds e.num).length) (hn:-2000<=e.num/\e.num<=2000) (hf:W7 ds nf q ys) (hv:0<=v/\v<(q+Yt ys:Nat))
  (hb:VW ds nf (WQ ds e.op e.num (q+Yt ys)) 0 bs) (hl:bs.length<=3) (h0:Yu ys<=6*s0) (h1:YW bs<=bs.length+6*sr) (hs:s0+sr<=Xz e.kids) (hop:TN WJ ys) (hob:QO WJ bs):LW ds nf q e (ys++[⟨e.op,e.num,0,[v],bs⟩]) ((q+Yt ys:Nat):Int):=by
 have hcb:YN e.op=false:=by simp [YN];omega
 refine ⟨FM hf ?_,?_,?_,Gz hop (by rw [QP];exact ⟨by show e.op<=11;omega,hob⟩)⟩
 ·rw [fS]
  exact ⟨.inl ⟨by omega,by omega⟩,fun a ha=>by rw [Xr.1 ha];exact hv,fun h=>by omega,h7,h8,fun _=>⟨v,rfl⟩,fun h=>by omega,hn,by omega,by simp,fun h=>by omega,hb⟩
 ·rw [E6 (show YN (Z5.mk e.op e.num 0 [v] bs).op=false from hcb)];omega
 ·rw [TU,e.sz_eq]
  simp only [Yu,Z5.sz,Yx,X7]
  omega
theorem S0 {ds:List Ze} {op num:Int} {m k:Nat} (h:op=13):TS ds op num m k=m+k:=Zl h
theorem Zd4 {ds:List Ze} {op num:Int} {m:Nat} (h:op≠13):TS ds op num m 0=m:=by simp [TS,h]
theorem S1 {ds:List Ze} {op num:Int} {m k:Nat} (h:op≠13/\op≠8):TS ds op num m k=m:=by simp [TS,h.1,h.2]
theorem Zd5 {ds:List Ze} {op num x:Int} {m k j:Nat} (h:op=8) (hk:k=j+1) (hx:(ZX ds num)[j]? = some x):TS ds op num m k=m+(ZQ ds x).length:=by
 subst h;subst hk;rw [Nat.add_comm j 1];exact DG hx
theorem LR {ds:List Ze} {op num x:Int} {m j:Nat} (h:op=8) (hx:(ZX ds num)[j]? = some x):WQ ds op num m j=m+(ZQ ds x).length:=by
 rw [WQ,Zl h,T5 (i:=(j:Int)) (by simpa using hx)]
theorem LS {ds:List Ze} {op num:Int} {m j:Nat} (h:op≠8):WQ ds op num m j=m:=Zd h
theorem Bi {xs:List Z2} {k:Nat} {e:Z2} (h:xs[k]? = some e):Xz (xs.take (k+1))=Xz (xs.take k)+e.sz:=by rw [V9 h,Ec,Xz,Xz];rfl
theorem AC {xs:List Z2} (k:Nat):Xz (xs.take k)<=Xz xs:=by
 have h:=Yj Xz (Tu k xs)
 rw [Ec] at h;omega
theorem NC {xs:List Z2} {a b:Z2} (ha:xs[0]? = some a) (hb:xs[1]? = some b):a.sz+b.sz<=Xz xs:=by
 have h1:Xz (xs.take 1)=Xz (xs.take 0)+a.sz:=Bi ha
 have h2:Xz (xs.take 2)=Xz (xs.take 1)+b.sz:=Bi hb
 have h3:=AC (xs:=xs) 2
 omega
theorem F5 {us:LI} {v:Int} {d:Nat} (hu:∀a∈us,0<=a/\a<(q:Int)) (hv:0<=v/\v<(q+d:Nat)):∀a∈us++[v],0<=a/\a<((q+d:Nat):Int):=
 XD (fun a ha=>by have:=hu a ha;omega) hv
theorem Hk {us:LI} {d:Nat} (hu:∀a∈us,0<=a/\a<(q:Int)):∀a∈us,0<=a/\a<((q+d:Nat):Int):=fun a ha=>by have:=hu a ha;omega
theorem Zg3 {us ns:LI} {d mf:Nat} (hu:∀a∈us,0<=a/\a<(q:Int)) (hn:∀i∈ns,((q+d:Nat):Int)<=i/\i<((q+d:Nat):Int)+mf):∀a∈us++ns,0<=a/\a<((q+d+mf:Nat):Int):=fun a ha=>by
 rcases Xm.1 ha with h|h
 ·have:=hu a h;omega
 ·have:=hn a h;omega
theorem Fs:∀bs:List Z7,bs.length<=YW bs
 | []=>X9 _
 | b::r=>by have:=Fs r;have:=b.sz_pos;rw [YW,Yx];omega
end
end Go.Abs
namespace Go.Abs
structure RF (ds:List Ze) (nf q:Nat) (p:Int->Prop) (r:YA):Prop where
 sig:(r.params,r.result)∈JJ
 lent:r.lent.length<=3/\∀i∈r.lent,0<=i/\i<r.params.length
 body:fB ds nf r.params.length r.body/\r.body.sz<=q
 op:Vk p r.body
structure FO (n:ZF) (q:Nat) (p:Int->Prop):Prop where
 fn:FN n q
 op:∀r∈n.routines,Vk p r.body
theorem FO.rf {n:ZF} {q:Nat} {p:Int->Prop} (h:FO n q p) {r:YA} (hr:r∈n.routines):RF n.decls n.routines.length q p r:=⟨h.fn.sigs r hr,h.fn.lent r hr,h.fn.body r hr,h.op r hr⟩
theorem FO.all {n:ZF} {q:Nat} {p:Int->Prop} (hd:GD n.decls) (hl:1<=n.routines.length/\n.routines.length<=4) (h:∀r∈n.routines,RF n.decls n.routines.length q p r):FO n q p:=
 ⟨⟨hd,hl,fun r hr=>(h r hr).sig,fun r hr=>(h r hr).lent,fun r hr=>(h r hr).body⟩,fun r hr=>(h r hr).op⟩
structure RN (ds:List Ze) (nf:Nat) (r:YA):Prop where
 sig:(r.params,r.result)∈JJ
 lent:r.lent=[]
 body:fB ds nf r.params.length r.body/\r.body.sz<=181
 op:Vk WJ r.body
theorem RN.all {n:ZF} {q:Nat} (hd:GD n.decls) (hl:1<=n.routines.length/\n.routines.length<=4) (h:∀r∈n.routines,RN n.decls n.routines.length r) (hq:181<=q):FO n q WJ:=
 FO.all hd hl fun r hr=>⟨(h r hr).sig,by rw [(h r hr).lent];exact ⟨by simp,fun i hi=>by cases hi⟩,⟨(h r hr).body.1,Vb (h r hr).body.2 hq⟩,(h r hr).op⟩
end Go.Abs
namespace Go.Abs
theorem RN.of {ds:List Ze} {nf:Nat} {ps:LI} {rt:Int} {b:Z7} {e:Z2} (hs:(ps,rt)∈JJ) (h:LB ds nf ps.length e b) (he:e.sz<=30):RN ds nf ⟨ps,[],rt,Z7.mk b.steps b.result⟩:=by
 have e1:Z7.mk b.steps b.result=b:=by cases b;rfl
 rw [e1]
 exact ⟨hs,rfl,⟨h.fb,by have:=h.sz;show b.sz<=181;omega⟩,h.op⟩
end Go.Abs
end
namespace Go.Abs
theorem M5:∀{xs:List Z5} {s:Z5},s∈xs->s.sz<=Yu xs
 | [],s,h=>by cases h
 | x::r,s,h=>by
  rw [Yu]
  rcases YM.1 h with rfl|h
  ·omega
  ·have:=M5 h;omega
theorem HQ:∀{xs:List Z7} {b:Z7},b∈xs->b.sz<=YW xs
 | [],b,h=>by cases h
 | x::r,b,h=>by
  rw [YW]
  rcases YM.1 h with rfl|h
  ·omega
  ·have:=HQ h;omega
structure LC (n:ZF) (k:Nat) (xs:List LI):Prop where
 len:xs.length=k
 ok:∀(i:Nat) (l:LI),xs[i]? = some l->l.length<=3/\∀r,n.routines[i]? = some r->∀v∈l,0<=v/\v<(r.params.length:Int)
theorem LC.nil {n:ZF}:LC n 0 []:=⟨rfl,fun i l h=>by simp at h⟩
theorem LC.snoc {n:ZF} {k:Nat} {xs:List LI} {l:LI} (h:LC n k xs) (hl:l.length<=3) (hv:∀r,n.routines[k]? = some r->∀v∈l,0<=v/\v<(r.params.length:Int)):LC n (k+1) (xs++[l]):=by
 refine ⟨by rw [Ys,h.len];rfl,fun i l' hi=>?_⟩
 by_cases hk:i<xs.length
 ·rw [Ah hk] at hi
  exact h.ok i l' hi
 ·rw [DU om] at hi
  have h0:i-xs.length=0:=by
   cases e:i-xs.length with
   | zero=>rfl
   | succ q=>rw [e] at hi;simp at hi
  rw [h0] at hi
  cases hi
  have e:i=k:=by have:=h.len;omega
  subst e
  exact ⟨hl,hv⟩
def U6:LI->Int->LI
 | [],y=>[y]
 | x::r,y=>if x>y then y::x::r else if x=y then x::r else x::U6 r y
def Q5 (d:Bool) (xs:LI) (y:Int):LI:=if d=true then xs else U6 xs y
theorem Gd {xs:LI} {y:Int}:Q5 true xs y=xs:=rfl
theorem Gc {xs:LI} {y:Int}:Q5 false xs y=U6 xs y:=rfl
theorem ON {xs acc r:LI} {y x:Int} {k:Nat} {d:Bool} (hx:xs[k]? = some x) (hd:d=true) (h:acc++Q5 d (xs.drop k) y=r):(acc++[x])++Q5 d (xs.drop (k+1)) y=r:=by
 subst hd
 rw [Gd,Yo hx] at h
 rw [Gd,<-h];simp
theorem Z91 {xs acc r:LI} {y x:Int} {k:Nat} {d:Bool} (hx:xs[k]? = some x) (hd:¬d=true) (hl:¬x>=y) (h:acc++Q5 d (xs.drop k) y=r):(acc++[x])++Q5 d (xs.drop (k+1)) y=r:=by
 have hd:=Qd.2 hd
 subst hd
 rw [Gc,Yo hx,U6,Zd om,Zd om] at h
 rw [Gc,<-h];simp
theorem Z92 {xs acc r:LI} {y x:Int} {k:Nat} {d:Bool} (hx:xs[k]? = some x) (hd:¬d=true) (hl:x>y) (h:acc++Q5 d (xs.drop k) y=r):((acc++[y])++[x])++Q5 true (xs.drop (k+1)) y=r:=by
 have hd:=Qd.2 hd
 subst hd
 rw [Gc,Yo hx,U6,Zl hl] at h
 rw [Gd,<-h];simp
theorem Z93 {xs acc r:LI} {y x:Int} {k:Nat} {d:Bool} (hx:xs[k]? = some x) (hd:¬d=true) (hl:x=y) (h:acc++Q5 d (xs.drop k) y=r):(acc++[x])++Q5 true (xs.drop (k+1)) y=r:=by
 have hd:=Qd.2 hd
 subst hd
 rw [Gc,Yo hx,U6,Zd om,Zl hl] at h
 rw [Gd,<-h];simp
theorem Z90 {xs acc acc2 r:LI} {y x:Int} {k:Nat} {d d2:Bool} (hx:xs[k]? = some x) (h:acc++Q5 d (xs.drop k) y=r)
  (hc:(acc2=acc/\d2=d/\(d=true∨¬x>=y))∨(acc2=acc++[y]/\d2=true/\¬d=true/\x>y)∨(acc2=acc/\d2=true/\¬d=true/\x=y)):(acc2++[x])++Q5 d2 (xs.drop (k+1)) y=r:=by
 rcases hc with ⟨rfl,rfl,h3⟩|⟨rfl,rfl,h3,h4⟩|⟨rfl,rfl,h3,h4⟩
 ·rcases h3 with h3|h3
  ·exact ON hx h3 h
  ·by_cases q:d2=true
   ·exact ON hx q h
   ·exact Z91 hx q h3 h
 ·exact Z92 hx h3 h4 h
 ·exact Z93 hx h3 h4 h
theorem Z8z {xs acc r:LI} {y:Int} {k:Nat} {d:Bool} (hk:xs.length<=k) (h:acc++Q5 d (xs.drop k) y=r):(if d=true then acc else acc++[y])=r:=by
 rw [Xt hk] at h
 by_cases q:d=true
 ·rw [Q5,Zl q,JC] at h;rw [Zl q];exact h
 ·rw [Q5,Zd q,U6] at h;rw [Zd q];exact h
theorem Dk:∀(xs:LI) (y:Int),(U6 xs y).length<=xs.length+1
 | [],y=>X9 _
 | x::r,y=>by
  have:=Dk r y
  rw [U6]
  split
  ·simp
  ·split
   ·simp
   ·simp only [Yx];omega
theorem Ev:∀{xs:LI} {y z:Int},z∈U6 xs y↔z∈xs∨z=y
 | [],y,z=>by simp [U6]
 | x::r,y,z=>by
  rw [U6]
  split
  ·simp only [YM];exact ⟨fun h=>h.elim .inr .inl,fun h=>h.elim .inr .inl⟩
  ·split
   ·rename_i h;subst h;simp only [YM];exact ⟨fun h=>.inl h,fun h=>h.elim id .inl⟩
   ·simp only [YM,Ev (xs:=r)];exact ⟨fun h=>by rcases h with h|h|h<;>simp [h],fun h=>by rcases h with (h|h)|h<;>simp [h]⟩
def BS (xs:LI):Prop:=xs.Pairwise (·<·)
theorem OM:∀{xs:LI} {y:Int},BS xs->BS (U6 xs y)
 | [],y,_=>by simp [U6,BS]
 | x::r,y,h=>by
  obtain ⟨h1,h2⟩:=Va.1 h
  rw [U6]
  split
  ·rename_i q
   refine Va.2 ⟨fun z hz=>?_,h⟩
   rcases YM.1 hz with rfl|hz
   ·omega
   ·have:=h1 z hz;omega
  ·split
   ·exact h
   ·refine Va.2 ⟨fun z hz=>?_,OM h2⟩
    rcases Ev.1 hz with hz|rfl
    ·exact h1 z hz
    ·omega
def TO:LI->Int->LI
 | [],_=>[]
 | x::r,y=>if x=y then TO r y else x::TO r y
theorem EJ:∀(xs:LI) (y:Int),(TO xs y).length<=xs.length
 | [],y=>X9 _
 | x::r,y=>by
  have:=EJ r y
  rw [TO]
  split
  ·rw [Yx];omega
  ·rw [Yx,Yx];omega
theorem Dy:∀{xs:LI} {y z:Int},z∈TO xs y->z∈xs
 | [],y,z,h=>by rw [TO] at h;exact h
 | x::r,y,z,h=>by
  rw [TO] at h
  split at h
  ·exact XG _ (Dy h)
  ·rcases YM.1 h with rfl|h
   ·exact Xp ..
   ·exact XG _ (Dy h)
theorem Zbh {xs acc r:LI} {y x:Int} {k:Nat} (hx:xs[k]? = some x) (h:acc++TO (xs.drop k) y=r):(if x≠y then acc++[x] else acc)++TO (xs.drop (k+1)) y=r:=by
 rw [Yo hx,TO] at h
 by_cases q:x=y
 ·rw [Zl q] at h;rw [Zd (fun z=>z q)];exact h
 ·rw [Zd q] at h;rw [Zl q,<-h];simp
theorem Zbg {xs acc r:LI} {y:Int} {k:Nat} (hk:xs.length<=k) (h:acc++TO (xs.drop k) y=r):acc=r:=by
 rw [Xt hk,TO,JC] at h;exact h
def UF (n:Int) (xs:LI) (a:Int):LI:=if 0<=a/\a<n then U6 xs a else xs
def Qq (n:Int):LI->LI->LI
 | [],xs=>xs
 | a::r,xs=>Qq n r (UF n xs a)
mutual
def Jy (n:Int):Z5->LI->LI
 | .mk op _ _ args kids,xs=>if YN op=true then xs else KW n kids (Qq n args xs)
def KW (n:Int):List Z7->LI->LI
 | [],xs=>xs
 | b::r,xs=>KW n r (UQ n b xs)
def UR (n:Int):List Z5->LI->LI
 | [],xs=>xs
 | s::r,xs=>UR n r (Jy n s xs)
def UQ (n:Int):Z7->LI->LI
 | .mk steps result,xs=>UF n (UR n steps xs) result
end
section
variable {n:Int}
theorem Z08 (s:Z5) (xs:LI):Jy n s xs=if YN s.op=true then xs else KW n s.kids (Qq n s.args xs):=by cases s;rw [Jy];rfl
theorem Z06 (b:Z7) (xs:LI):UQ n b xs=UF n (UR n b.steps xs) b.result:=by cases b;rw [UQ];rfl
theorem Hh (xs:LI) (a:Int):(UF n xs a).length<=xs.length+1:=by
 rw [UF];split
 ·exact Dk xs a
 ·omega
theorem Z05:∀(as1 xs:LI),(Qq n as1 xs).length<=xs.length+as1.length
 | [],xs=>X9 _
 | a::r,xs=>by
  have h1:=Z05 r (UF n xs a)
  have h2:=Hh (n:=n) xs a
  rw [Qq,Yx];omega
mutual
theorem Z09:∀(s:Z5) (xs:LI),(Jy n s xs).length<=xs.length+s.sz
 | .mk op num into args kids,xs=>by
  have h1:=Z07 kids (Qq n args xs)
  have h2:=Z05 (n:=n) args xs
  rw [Jy,Z5.sz];split<;>omega
theorem Z07:∀(bs:List Z7) (xs:LI),(KW n bs xs).length<=xs.length+YW bs
 | [],xs=>X9 _
 | b::r,xs=>by
  have h1:=Z07 r (UQ n b xs)
  have h2:=Hg b xs
  rw [KW,YW];omega
theorem Mh:∀(bs:List Z5) (xs:LI),(UR n bs xs).length<=xs.length+Yu bs
 | [],xs=>X9 _
 | b::r,xs=>by
  have h1:=Mh r (Jy n b xs)
  have h2:=Z09 b xs
  rw [UR,Yu];omega
theorem Hg:∀(b:Z7) (xs:LI),(UQ n b xs).length<=xs.length+b.sz
 | .mk steps result,xs=>by
  have h1:=Mh steps xs
  have h2:=Hh (n:=n) (UR n steps xs) result
  rw [UQ,Z7.sz];omega
end
theorem Zfy {as1 ys r:LI} {k:Nat} {a:Int} (h:as1[k]? = some a) (ha:Qq n (as1.drop k) ys=r):Qq n (as1.drop (k+1)) (UF n ys a)=r:=by
 rw [Yo h,Qq] at ha;exact ha
theorem Zg0 {bs:List Z7} {ys r:LI} {k:Nat} {b:Z7} (h:bs[k]? = some b) (ha:KW n (bs.drop k) ys=r):KW n (bs.drop (k+1)) (UQ n b ys)=r:=by
 rw [Yo h,KW] at ha;exact ha
theorem Zg2 {bs:List Z5} {ys r:LI} {k:Nat} {b:Z5} (h:bs[k]? = some b) (ha:UR n (bs.drop k) ys=r):UR n (bs.drop (k+1)) (Jy n b ys)=r:=by
 rw [Yo h,UR] at ha;exact ha
theorem Zfx {as1 ys r:LI} {k:Nat} (h:as1.length<=k) (ha:Qq n (as1.drop k) ys=r):ys=r:=by rw [Xt h,Qq] at ha;exact ha
theorem Zfz {bs:List Z7} {ys r:LI} {k:Nat} (h:bs.length<=k) (ha:KW n (bs.drop k) ys=r):ys=r:=by rw [Xt h,KW] at ha;exact ha
theorem Zg1 {bs:List Z5} {ys r:LI} {k:Nat} (h:bs.length<=k) (ha:UR n (bs.drop k) ys=r):ys=r:=by rw [Xt h,UR] at ha;exact ha
end
theorem Mt {s:Z5} (h:Cn s):∃a,s.args=[a]:=⟨gI s.args 0,by have:=Yj Z5.args h;exact this⟩
section
variable {xs:LI} {v:Int} {lo hi:Nat}
end
section
variable {m:Int} {xs du dr:List Z5} {lf:LI} {d:Bool} {k:Nat} {s:Z5} {W:List Z5 × List Z5 × LI}
end
def YY:List Z5->Nat
 | []=>0
 | s::r=>if YN s.op=true then YY r+1 else 0
def W5 (op x:Int):List Z5->Int->Int
 | [],_=>-1
 | s::r,k=>if s.op=op/\gI s.args 0=x then k else W5 op x r (k+1)
def K1 (many:Nat) (s:Z5):Prop:=(s.op=6/\s.into=0)/\s.args.length=many
instance (many:Nat) (s:Z5):Decidable (K1 many s):=by unfold K1;infer_instance
def Wv (many:Nat):List Z5->Int->Int
 | [],_=>-1
 | s::r,k=>if K1 many s then k else Wv many r (k+1)
def Bm (xs:List Z5) (i:Int):Z5:=xs[i.toNat]?.getD (Zx 0 0)
def Q6 (v:Int) (s:Z5):Z5:=.mk s.op s.num v s.args s.kids
def Vl (xs:List Z5) (x:Int):Int:=W5 16 x (xs.take (YY xs)) 0
def Wy (xs:List Z5) (many:Nat):Int:=Wv many (xs.drop (YY xs)) (YY xs)
def Vz (xs:List Z5) (x:Int) (many:Nat):List Z5:=
 if Vl xs x<0∨Wy xs many<0 then xs else (xs.set (Vl xs x).toNat (Zx 17 x)).set (Wy xs many).toNat (Q6 (1+x) (Bm xs (Wy xs many)))
def VH (b:Z7) (x:Int) (many:Nat):Z7:=.mk (Vz b.steps x many) b.result
mutual
def Ta (ds:List Ze) (kept:LI):Z5->Z5
 | .mk op num into args kids=>.mk op num into args (VN ds kept op num args kids 0)
def VN (ds:List Ze) (kept:LI) (op num:Int) (args:LI):List Z7->Nat->List Z7
 | [],_=>[]
 | b::r,k=>(if op=8/\¬gI args 0∈kept then VH (Ws ds (if Vl b.steps (gI args 0)<0∨Wy b.steps (Ww ds num k).length<0 then kept else gI args 0::kept) b) (gI args 0) (Ww ds num k).length else Ws ds kept b)::VN ds kept op num args r (k+1)
def VY (ds:List Ze) (kept:LI):List Z5->List Z5
 | []=>[]
 | s::r=>Ta ds kept s::VY ds kept r
def Ws (ds:List Ze) (kept:LI):Z7->Z7
 | .mk steps result=>.mk (VY ds kept steps) result
end
def Gf (ds:List Ze) (kept:LI) (num:Int) (args:LI) (k:Nat) (b:Z7):LI:=if Vl b.steps (gI args 0)<0∨Wy b.steps (Ww ds num k).length<0 then kept else gI args 0::kept
def TR (ds:List Ze) (kept:LI) (op num:Int) (args:LI) (k:Nat) (b:Z7):Z7:=if op=8/\¬gI args 0∈kept then VH (Ws ds (Gf ds kept num args k b) b) (gI args 0) (Ww ds num k).length else Ws ds kept b
theorem Aa (ds:List Ze) (kept:LI) (s:Z5):Ta ds kept s=.mk s.op s.num s.into s.args (VN ds kept s.op s.num s.args s.kids 0):=by cases s;rw [Ta];rfl
theorem GR (ds:List Ze) (kept:LI) (b:Z7):Ws ds kept b=.mk (VY ds kept b.steps) b.result:=by cases b;rw [Ws];rfl
theorem GS (ds:List Ze) (kept:LI):∀xs:List Z5,VY ds kept xs=xs.map (Ta ds kept)
 | []=>rfl
 | s::r=>by rw [VY,GS ds kept r];rfl
section
variable {ds:List Ze} {kept:LI}
theorem Zcq {xs acc r:List Z5} {k:Nat} {s:Z5} (h:xs[k]? = some s) (ha:acc++VY ds kept (xs.drop k)=r) :
  (acc++[.mk s.op s.num s.into s.args (VN ds kept s.op s.num s.args s.kids 0)])++VY ds kept (xs.drop (k+1))=r:=by
 rw [Yo h,VY,Aa] at ha
 rw [<-ha];simp
theorem Zcp {xs acc r:List Z5} {k:Nat} (h:xs.length<=k) (ha:acc++VY ds kept (xs.drop k)=r):acc=r:=by
 rw [Xt h,VY,JC] at ha;exact ha
theorem Zck {op num:Int} {args:LI} {bs acc r:List Z7} {k:Nat} {b:Z7} (h:bs[k]? = some b) (ha:acc++VN ds kept op num args (bs.drop k) k=r) :
  (acc++[TR ds kept op num args k b])++VN ds kept op num args (bs.drop (k+1)) (k+1)=r:=by
 rw [Yo h,VN] at ha
 rw [<-ha,TR,Gf];simp
theorem Zcj {op num:Int} {args:LI} {bs acc r:List Z7} {k j:Nat} (h:bs.length<=k) (ha:acc++VN ds kept op num args (bs.drop k) j=r):acc=r:=by
 rw [Xt h,VN,JC] at ha;exact ha
end
section
variable {ds:List Ze}
mutual
theorem Zcn:∀(s:Z5) {K K':LI},(∀z,z∈K↔z∈K')->Ta ds K s=Ta ds K' s
 | .mk op num into args kids,K,K',h=>by rw [Ta,Ta,RK kids h]
theorem RK:∀(bs:List Z7) {K K':LI} {op num:Int} {args:LI} {k:Nat},(∀z,z∈K↔z∈K')->VN ds K op num args bs k=VN ds K' op num args bs k
 | [],_,_,_,_,_,_,_=>by rw [VN,VN]
 | b::r,K,K',op,num,args,k,h=>by
  have h1:=RK r (op:=op) (num:=num) (args:=args) (k:=k+1) h
  have h2:=LL b h
  have h3:∀z,z∈(gI args 0::K)↔z∈(gI args 0::K'):=fun z=>by rw [YM,YM,h z]
  have h4:=LL b h3
  rw [VN,VN,h1,h2]
  congr 1
  by_cases hq:op=8/\¬gI args 0∈K
  ·have hq':op=8/\¬gI args 0∈K':=⟨hq.1,fun z=>hq.2 ((h _).2 z)⟩
   rw [Zl hq,Zl hq']
   congr 1
   split
   ·exact h2
   ·exact h4
  ·have hq':¬(op=8/\¬gI args 0∈K'):=fun z=>hq ⟨z.1,fun y=>z.2 ((h _).1 y)⟩
   rw [Zd hq,Zd hq']
theorem RO:∀(xs:List Z5) {K K':LI},(∀z,z∈K↔z∈K')->VY ds K xs=VY ds K' xs
 | [],_,_,_=>by rw [VY,VY]
 | s::r,K,K',h=>by rw [VY,VY,Zcn s h,RO r h]
theorem LL:∀(b:Z7) {K K':LI},(∀z,z∈K↔z∈K')->Ws ds K b=Ws ds K' b
 | .mk steps result,K,K',h=>by rw [Ws,Ws,RO steps h]
end
end
theorem EA:∀xs:List Z5,YY xs<=xs.length
 | []=>X9 _
 | s::r=>by have:=EA r;rw [YY];split<;>simp<;>omega
section
variable {f:Z5->Z5} (hop:∀s,(f s).op=s.op) (hin:∀s,(f s).into=s.into) (har:∀s,(f s).args=s.args)
include hop
theorem Le:∀xs:List Z5,YY (xs.map f)=YY xs
 | []=>rfl
 | s::r=>by rw [Td,YY,YY,hop,Le r]
include har
theorem MJ {op x:Int}:∀(xs:List Z5) (k:Int),W5 op x (xs.map f) k=W5 op x xs k
 | [],_=>rfl
 | s::r,k=>by rw [Td,W5,W5,hop,har,MJ r]
theorem Zba (xs:List Z5) (x:Int):Vl (xs.map f) x=Vl xs x:=by rw [Vl,Le hop,<-List.map_take,MJ hop har,Vl]
include hin
theorem N4 {many:Nat}:∀(xs:List Z5) (k:Int),Wv many (xs.map f) k=Wv many xs k
 | [],_=>rfl
 | s::r,k=>by
  have e:K1 many (f s)↔K1 many s:=by rw [K1,K1,hop,hin,har]
  rw [Td,Wv,Wv,N4 r]
  by_cases h:K1 many s
  ·rw [Zl h,Zl (e.2 h)]
  ·rw [Zd h,Zd (fun z=>h (e.1 z))]
theorem Z2k (xs:List Z5) (many:Nat):Wy (xs.map f) many=Wy xs many:=by rw [Wy,Le hop,<-List.map_drop,N4 hop hin har,Wy]
end
theorem MI {op x:Int}:∀{xs:List Z5} {k:Int},¬W5 op x xs k<0->0<=k->k<=W5 op x xs k/\W5 op x xs k<k+xs.length/\∃s,xs[(W5 op x xs k-k).toNat]? = some s/\s.op=op/\gI s.args 0=x
 | [],k,h,_=>by simp [W5] at h
 | s::r,k,h,hk=>by
  rw [W5] at h ⊢
  split
  ·rename_i q
   refine ⟨Int.le_refl _,by rw [Yx];omega,s,?_,q⟩
   rw [Int.sub_self];rfl
  ·rename_i q
   rw [Zd q] at h
   obtain ⟨h1,h2,t,h3,h4⟩:=MI (xs:=r) (k:=k+1) h om
   refine ⟨by omega,by rw [Yx];omega,t,?_,h4⟩
   rw [show (W5 op x r (k+1)-k).toNat=(W5 op x r (k+1)-(k+1)).toNat+1 by omega,List.getElem?_cons_succ]
   exact h3
theorem N3 {many:Nat}:∀{xs:List Z5} {k:Int},¬Wv many xs k<0->0<=k->k<=Wv many xs k/\Wv many xs k<k+xs.length/\∃s,xs[(Wv many xs k-k).toNat]? = some s/\K1 many s
 | [],k,h,_=>by simp [Wv] at h
 | s::r,k,h,hk=>by
  rw [Wv] at h ⊢
  split
  ·rename_i q
   refine ⟨Int.le_refl _,by rw [Yx];omega,s,?_,q⟩
   rw [Int.sub_self];rfl
  ·rename_i q
   rw [Zd q] at h
   obtain ⟨h1,h2,t,h3,h4⟩:=N3 (xs:=r) (k:=k+1) h om
   refine ⟨by omega,by rw [Yx];omega,t,?_,h4⟩
   rw [show (Wv many r (k+1)-k).toNat=(Wv many r (k+1)-(k+1)).toNat+1 by omega,List.getElem?_cons_succ]
   exact h3
theorem Dx {xs:List Z5} {x:Int} (h:¬Vl xs x<0):0<=Vl xs x/\Vl xs x<YY xs/\∃s,xs[(Vl xs x).toNat]? = some s/\s.op=16/\gI s.args 0=x:=by
 obtain ⟨h1,h2,s,h3,h4⟩:=MI h (Int.le_refl 0)
 have hl:=EA xs
 rw [Wh,VQ hl] at h2
 have h2':Vl xs x<YY xs:=by unfold Vl;omega
 have h1':0<=Vl xs x:=h1
 refine ⟨h1',h2',s,?_,h4⟩
 rw [Int.sub_zero] at h3
 have h5:(Vl xs x).toNat<YY xs:=by omega
 rwa [show W5 16 x (xs.take (YY xs)) 0=Vl xs x from rfl,List.getElem?_take_of_lt h5] at h3
theorem JS {xs:List Z5} {many:Nat} (h:¬Wy xs many<0):(YY xs:Int)<=Wy xs many/\Wy xs many<xs.length/\∃s,xs[(Wy xs many).toNat]? = some s/\K1 many s/\Bm xs (Wy xs many)=s:=by
 obtain ⟨h1,h2,s,h3,h4⟩:=N3 h om
 have hl:=EA xs
 rw [Hs] at h2
 have h1':(YY xs:Int)<=Wy xs many:=h1
 have h2':Wy xs many<xs.length:=by unfold Wy;omega
 rw [List.getElem?_drop,show Wv many (xs.drop (YY xs)) (YY xs)=Wy xs many from rfl,show YY xs+(Wy xs many-(YY xs:Int)).toNat=(Wy xs many).toNat by omega] at h3
 exact ⟨h1',h2',s,h3,h4,by rw [Bm,h3];rfl⟩
theorem Zc4 {f:Z5->Z5} (hop:∀s,(f s).op=s.op) (hin:∀s,(f s).into=s.into) (har:∀s,(f s).args=s.args) (hc:∀x,f (Zx 17 x)=Zx 17 x) (hi:∀v s,f (Q6 v s)=Q6 v (f s)) (xs:List Z5) (x:Int) (many:Nat) :
  Vz (xs.map f) x many=(Vz xs x many).map f:=by
 rw [Vz,Zba hop har,Z2k hop hin har,Vz]
 split
 ·rfl
 ·rename_i hq
  obtain ⟨_,_,s,h3,_,h5⟩:=JS (fun z=>hq (.inr z))
  have e:Bm (xs.map f) (Wy xs many)=f (Bm xs (Wy xs many)):=by rw [Bm,J1,h3,h5];rfl
  rw [e,List.map_set,List.map_set,hc,hi]
theorem RH {ds:List Ze} {K:LI} {b:Z7} {x:Int} {many:Nat}:Ws ds K (VH b x many)=VH (Ws ds K b) x many:=by
 rw [VH,Ws,VH,GR,GS,GS]
 show Z7.mk _ _=Z7.mk (Vz (b.steps.map (Ta ds K)) x many) b.result
 rw [Zc4 (f:=Ta ds K) (fun s=>by rw [Aa];rfl) (fun s=>by rw [Aa];rfl) (fun s=>by rw [Aa];rfl) (fun x=>by rw [Aa];rfl) (fun v s=>by rw [Aa,Aa];rfl)]
structure CB (c:LI) (q:Int):Prop where
 len:c.length=4
 bd:∀x∈c,0<=x/\x<=q
mutual
def Cx:Z5->Prop
 | .mk op _ _ _ kids=>op≠17/\Bs kids
def Bs:List Z7->Prop
 | []=>True
 | b::r=>QN b/\Bs r
def Bt:List Z5->Prop
 | []=>True
 | s::r=>Cx s/\Bt r
def QN:Z7->Prop
 | .mk steps _=>Bt steps
end
theorem Ds (s:Z5):Cx s↔s.op≠17/\Bs s.kids:=by cases s;rw [Cx];rfl
theorem EE (b:Z7):QN b↔Bt b.steps:=by cases b;rw [QN];rfl
theorem EF:∀{xs:List Z5},Bt xs↔∀s∈xs,Cx s
 | []=>by simp [Bt]
 | s::r=>by rw [Bt,EF];simp
theorem Gs:∀{xs:List Z7},Bs xs↔∀s∈xs,QN s
 | []=>by simp [Bs]
 | s::r=>by rw [Bs,Gs];simp
theorem M6:∀{xs:List Z5} {i:Nat} {s:Z5} (t:Z5),xs[i]? = some s->Yu (xs.set i t)+s.sz=Yu xs+t.sz
 | [],_,_,_,h=>by simp at h
 | x::r,0,s,t,h=>by simp at h;subst h;rw [List.set_cons_zero,Yu,Yu];omega
 | x::r,i+1,s,t,h=>by
  have:=M6 (xs:=r) (i:=i) t (by simpa using h)
  rw [List.set_cons_succ,Yu,Yu];omega
theorem Z94 (v:Int) (s:Z5):(Q6 v s).sz=s.sz:=by cases s;rw [Q6,Z5.sz,Z5.sz];rfl
theorem N6 {xs:List Z5} {x:Int} {many:Nat} (h:¬(Vl xs x<0∨Wy xs many<0)):(Vl xs x).toNat<(Wy xs many).toNat:=by
 obtain ⟨h1,h2,_⟩:=Dx (fun z=>h (.inl z))
 obtain ⟨h3,h4,_⟩:=JS (fun z=>h (.inr z))
 omega
theorem ER {xs:List Z5} {x:Int} {many:Nat} (h:¬(Vl xs x<0∨Wy xs many<0)) {t:Z5} {s:Z5} (hs:xs[(Wy xs many).toNat]? = some s):(xs.set (Vl xs x).toNat t)[(Wy xs many).toNat]? = some s:=by
 have:=N6 h
 rw [List.getElem?_set_ne om];exact hs
theorem Rq {xs:List Z5} {x:Int} {many:Nat} (h:∀s∈xs,YN s.op=true->2<=s.sz):Yu (Vz xs x many)<=Yu xs:=by
 rw [Vz]
 split
 ·exact X9 _
 ·rename_i hq
  obtain ⟨_,_,s,h3,h4,_⟩:=Dx (fun z=>hq (.inl z))
  obtain ⟨_,_,t,h5,_,h6⟩:=JS (fun z=>hq (.inr z))
  have e1:=M6 (Zx 17 x) h3
  have e2:=M6 (Q6 (1+x) (Bm xs (Wy xs many))) (ER hq (t:=Zx 17 x) h5)
  have h7:=h s (Y4 h3) (by rw [h4];rfl)
  rw [Fz] at e1
  rw [Z94,h6] at e2
  rw [h6]
  omega
section
variable {ds:List Ze}
theorem Zgi {v:Int} {s:Z5} (h:wS ds s) (h6:s.op=6):wS ds (Q6 v s):=by
 obtain ⟨h1,h2,h3,h4⟩:=(Jz s).1 h
 exact (Jz _).2 ⟨h1,fun hc=>absurd hc (by show ¬YN s.op=true;rw [h6];decide),h3,h4⟩
theorem Zgf {v:Int}:wS ds (Zx 17 v):=(Jz _).2 ⟨rfl,fun _=>⟨rfl,rfl,rfl,v,rfl⟩,fun e=>absurd e (show (17:Int)≠8 by decide),True.intro⟩
theorem Zge {xs:List Z5} {x:Int} {many:Nat} (h:Qs ds xs):Qs ds (Vz xs x many):=by
 rw [Vz]
 split
 ·exact h
 ·rename_i hq
  obtain ⟨_,_,t,h5,h7,h6⟩:=JS (fun z=>hq (.inr z))
  rw [B1]
  intro s hs
  rcases List.mem_or_eq_of_mem_set hs with hs|rfl
  ·rcases List.mem_or_eq_of_mem_set hs with hs|rfl
   ·exact B1.1 h s hs
   ·exact Zgf
  ·rw [h6];exact Zgi (B1.1 h t (Y4 h5)) h7.1.1
theorem Zgd {b:Z7} {x:Int} {many:Nat} (h:wB ds b):wB ds (VH b x many):=by rw [VH,KY];exact Zge ((KY b).1 h)
variable (hd:Xy ds)
mutual
theorem Zco:∀(s:Z5) {K:LI},wS ds s->(Ta ds K s).sz<=s.sz
 | .mk op num into args kids,K,h=>by
  have:=RM kids (K:=K) (op:=op) (num:=num) (args:=args) (k:=0) h.2.2.2
  rw [Ta,Z5.sz,Z5.sz];omega
theorem RM:∀(bs:List Z7) {K:LI} {op num:Int} {args:LI} {k:Nat},KZ ds bs->YW (VN ds K op num args bs k)<=YW bs
 | [],_,_,_,_,_,_=>X9 _
 | b::r,K,op,num,args,k,h=>by
  have h2:=RM r (K:=K) (op:=op) (num:=num) (args:=args) (k:=k+1) h.2
  have key:∀K2:LI,(VH (Ws ds K2 b) (gI args 0) (Ww ds num k).length).sz<=b.sz:=fun K2=>by
   have h1:=LM b (K:=K2) h.1
   have h3:=Rq (xs:=(Ws ds K2 b).steps) (x:=gI args 0) (many:=(Ww ds num k).length) (by
    rw [GR,GS]
    intro s hs hc
    obtain ⟨t,ht,rfl⟩:=XN.1 hs
    rw [Aa] at hc ⊢
    obtain ⟨_,_,a,ha⟩:=Ho (B1.1 ((KY b).1 h.1) t ht) hc
    rw [Z5.sz,ha];simp)
   rw [VH,Z7.sz]
   rw [Z7.sz_eq] at h1
   omega
  rw [VN,YW,YW]
  split
  ·have:=key (if Vl b.steps (gI args 0)<0∨Wy b.steps (Ww ds num k).length<0 then K else gI args 0::K)
   omega
  ·have:=LM b (K:=K) h.1
   omega
theorem RR:∀(xs:List Z5) {K:LI},Qs ds xs->Yu (VY ds K xs)<=Yu xs
 | [],_,_=>X9 _
 | s::r,K,h=>by
  have h1:=Zco s (K:=K) h.1
  have h2:=RR r (K:=K) h.2
  rw [VY,Yu,Yu];omega
theorem LM:∀(b:Z7) {K:LI},wB ds b->(Ws ds K b).sz<=b.sz
 | .mk steps result,K,h=>by
  have:=RR steps (K:=K) h
  rw [Ws,Z7.sz,Z7.sz];omega
end
end
theorem Lf:∀{xs:List Z5} {i:Nat} {s t:Z5},xs[i]? = some s->YN t.op=YN s.op->YY (xs.set i t)=YY xs
 | [],_,_,_,h,_=>by simp at h
 | x::r,0,s,t,h,e=>by simp at h;subst h;rw [List.set_cons_zero,YY,YY,e]
 | x::r,i+1,s,t,h,e=>by
  rw [List.set_cons_succ,YY,YY,Lf (xs:=r) (i:=i) (by simpa using h) e]
theorem Z9v {xs:List Z5} {x:Int} {many:Nat}:YY (Vz xs x many)=YY xs:=by
 rw [Vz]
 split
 ·rfl
 ·rename_i hq
  obtain ⟨_,_,s,h3,h4,_⟩:=Dx (fun z=>hq (.inl z))
  obtain ⟨_,_,t,h5,_,h6⟩:=JS (fun z=>hq (.inr z))
  rw [Lf (ER hq (t:=Zx 17 x) h5) (by rw [h6];rfl),Lf h3 (by rw [h4];rfl)]
theorem ML {op x:Int}:∀{xs:List Z5} {k:Int},(∀s∈xs,s.op≠op)->W5 op x xs k=-1
 | [],_,_=>rfl
 | s::r,k,h=>by
  rw [W5,Zd (fun z=>h s (Xp ..) z.1)]
  exact ML fun t ht=>h t (XG _ ht)
theorem MM {op x:Int}:∀{xs:List Z5} {k:Int},0<=k->(∃s∈xs,s.op=op/\gI s.args 0=x)->0<=W5 op x xs k
 | [],_,_,h=>by obtain ⟨s,hs,_⟩:=h;cases hs
 | s::r,k,hk,h=>by
  rw [W5]
  split
  ·exact hk
  ·rename_i q
   obtain ⟨t,ht,h1⟩:=h
   rcases YM.1 ht with rfl|ht
   ·exact absurd h1 q
   ·exact MM om ⟨t,ht,h1⟩
theorem SZ {xs:List Z5} {x:Int} {many:Nat} (hn:Bt xs):0<=W5 17 x ((Vz xs x many).take (YY (Vz xs x many))) 0↔¬(Vl xs x<0∨Wy xs many<0):=by
 rw [Z9v]
 constructor
 ·intro h hq
  rw [Vz,Zl hq,ML (fun s hs=>((Ds s).1 (EF.1 hn s (Qt hs))).1)] at h
  omega
 ·intro hq
  obtain ⟨h1,h2,s,h3,h4,_⟩:=Dx (fun z=>hq (.inl z))
  have hap:=N6 hq
  refine MM (Int.le_refl 0) ⟨Zx 17 x,?_,rfl,rfl⟩
  rw [Vz,Zd hq]
  refine Y4 (i:=(Vl xs x).toNat) ?_
  rw [List.getElem?_take_of_lt om,List.getElem?_set_ne om,List.getElem?_set_self (Xc.1 h3).1]
def Bu (b:Z7):Prop:=∀s∈b.steps,Bs s.kids
theorem Cw {b:Z7} (h:QN b):Bu b:=fun s hs=>((Ds s).1 (EF.1 ((EE b).1 h) s hs)).2
theorem Zan {b:Z7} {k j:Nat} {s:Z5} {c:Z7} (h:Bu b) (hs:b.steps[k]? = some s) (hc:s.kids[j]? = some c):QN c:=Gs.1 (h s (Y4 hs)) c (Y4 hc)
theorem Pv {b:Z7} {x:Int} {many:Nat} (h:QN b):Bu (VH b x many):=by
 intro s hs
 have hs:s∈Vz b.steps x many:=hs
 rw [Vz] at hs
 split at hs
 ·exact Cw h s hs
 ·rename_i hq
  obtain ⟨_,_,t,h5,_,h6⟩:=JS (fun z=>hq (.inr z))
  rcases List.mem_or_eq_of_mem_set hs with hs|rfl
  ·rcases List.mem_or_eq_of_mem_set hs with hs|rfl
   ·exact Cw h s hs
   ·exact True.intro
  ·rw [h6];exact Cw h t (Y4 h5)
theorem Zc3 {ds:List Ze} {b:Z7} {x:Int} {many:Nat} (h:wB ds b):(VH b x many).sz<=b.sz:=by
 have:=Rq (xs:=b.steps) (x:=x) (many:=many) fun s hs hc=>by
  have h7:=Hw ((KY b).1 h) s hs hc
  rw [h7,Fz];omega
 rw [VH,Z7.sz,b.sz_eq];omega
def BE (ds:List Ze) (r:YA):YA:=⟨r.params,r.lent,r.result,Ws ds [] r.body⟩
def CC (n:ZF):ZF:=⟨n.decls,n.routines.map (BE n.decls)⟩
end Go.Abs
section
namespace Go.Abs
theorem Z9t {xs:List Z5} {k:Nat} {s:Z5} {r:Nat} (h:xs[k]? = some s) (hs:YN s.op=true) (ha:k+YY (xs.drop k)=r):k+1+YY (xs.drop (k+1))=r:=by
 rw [Yo h,YY,Zl hs] at ha;omega
theorem Z9u {xs:List Z5} {k:Nat} {s:Z5} {r:Nat} (h:xs[k]? = some s) (hs:¬YN s.op=true) (ha:k+YY (xs.drop k)=r):k=r:=by
 rw [Yo h,YY,Zd hs] at ha;omega
theorem Z9s {xs:List Z5} {k:Nat} {r:Nat} (h:xs.length<=k) (ha:k+YY (xs.drop k)=r):k=r:=by
 rw [Xt h,YY] at ha;omega
theorem Z1v {op x:Int} {xs:List Z5} {k:Nat} {s:Z5} {r:Int} (h:xs[k]? = some s) (hs:s.op=op/\gI s.args 0=x) (ha:W5 op x (xs.drop k) k=r):(k:Int)=r:=by
 rw [Yo h,W5,Zl hs] at ha;exact ha
theorem MK {op x:Int} {xs:List Z5} {k:Nat} {s:Z5} {r:Int} (h:xs[k]? = some s) (hs:¬(s.op=op/\gI s.args 0=x)) (ha:W5 op x (xs.drop k) k=r):W5 op x (xs.drop (k+1)) ((k+1:Nat):Int)=r:=by
 rw [Yo h,W5,Zd hs] at ha;rw [<-ha];congr 1
theorem Z1u {op x:Int} {xs:List Z5} {k:Nat} {r:Int} (h:xs.length<=k) (ha:W5 op x (xs.drop k) k=r):-1=r:=by
 rw [Xt h,W5] at ha;exact ha
theorem Z2o {many:Nat} {xs:List Z5} {k:Nat} {s:Z5} {r:Int} (h:xs[k]? = some s) (hs:K1 many s) (ha:Wv many (xs.drop k) k=r):(k:Int)=r:=by
 rw [Yo h,Wv,Zl hs] at ha;exact ha
theorem Z2n {many:Nat} {xs:List Z5} {k:Nat} {s:Z5} {r:Int} (h:xs[k]? = some s) (hs:¬K1 many s) (ha:Wv many (xs.drop k) k=r):Wv many (xs.drop (k+1)) ((k+1:Nat):Int)=r:=by
 rw [Yo h,Wv,Zd hs] at ha;rw [<-ha];congr 1
theorem Z2m {many:Nat} {xs:List Z5} {k:Nat} {r:Int} (h:xs.length<=k) (ha:Wv many (xs.drop k) k=r):-1=r:=by
 rw [Xt h,Wv] at ha;exact ha
theorem Zc5 {xs:List Z5} {x:Int} {many:Nat} (h:Vl xs x<0∨Wy xs many<0):Vz xs x many=xs:=Zl h
theorem Zc6 {xs:List Z5} {x:Int} {many:Nat} {s:Z5} (h:¬(Vl xs x<0∨Wy xs many<0)) (hs:Bm xs (Wy xs many)=s):(xs.set (Vl xs x).toNat (Zx 17 x)).set (Wy xs many).toNat (Q6 (1+x) s)=Vz xs x many:=by
 rw [Vz,Zd h,hs]
theorem Db (xs:List Z5):(Zg (ZT xs)).length=xs.length*5:=by rw [Ty _ (XE _)];simp
theorem Iv (s:Z5) (r:List Z5):Zg (ZT (s::r))=Wb s++Zg (ZT r):=by rw [VV,VV];rfl
theorem Z5n {xs:List Z5} {k:Nat} {x:Z5} (h:xs[k]? = some x):Zg (ZT (xs.take k))++Zg [X4 x]=Zg (ZT (xs.take (k+1))):=by
 rw [V9 h,Vo,KA,Iv]
 have:Zg (ZT [])=[]:=by rw [VV];rfl
 rw [this];rfl
theorem O3 {xs:List Z5} {i:Nat} {s:Z5} (h:xs[i]? = some s):Zg (ZT xs)=Zg (ZT (xs.take i))++(Wb s++Zg (ZT (xs.drop (i+1)))):=by
 have hi:=(Xc.1 h).1
 have e:xs=xs.take i++(s::xs.drop (i+1)):=by rw [<-Yo h,Tu]
 conv=>lhs;rw [e,Vo,KA,Iv]
theorem O2 {xs:List Z5} {i:Nat} {s t:Z5} (h:xs[i]? = some s):(Zg (ZT xs)).take (i*5)++Wb t++(Zg (ZT xs)).drop (i*5+(Wb t).length)=Zg (ZT (xs.set i t)):=by
 have hi:=(Xc.1 h).1
 have hl:(Zg (ZT (xs.take i))).length=i*5:=by rw [Db,Wh,VQ om]
 rw [O3 h,LK (xs:=Wb s) (ys:=Wb t) hl rfl]
 have e:xs.set i t=xs.take i++(t::xs.drop (i+1)):=by rw [Ht,Zl hi]
 rw [e,Vo,KA,Iv]
theorem Z5m {xs:List Z5} {i:Nat} {s:Z5} (h:xs[i]? = some s):((Zg (ZT xs)).drop (i*5)).take (Wb s).length=Wb s:=by
 have hi:=(Xc.1 h).1
 have hl:(Zg (ZT (xs.take i))).length=i*5:=by rw [Db,Wh,VQ om]
 rw [O3 h]
 exact RC hl
structure Ks (xs:LI) (v:Int) (k:Nat) (acc:LI) (d:Bool):Prop where
 len:acc.length<=k+(if d=true then 1 else 0)
 sub:∀z∈acc,z∈xs.take k∨z=v
 all:∀z∈xs.take k,z∈acc
 done:d=true->v∈acc
theorem Ks.zero (xs:LI) (v:Int):Ks xs v 0 [] false:=⟨by simp,by simp,by simp,by simp⟩
theorem Ks.step {xs:LI} {v:Int} {k:Nat} {acc:LI} {d:Bool} {x:Int} (h:Ks xs v k acc d) (hx:xs[k]? = some x) {acc2:LI} {d2:Bool}
  (hc:(acc2=acc++[x]/\d2=d)∨(acc2=(acc++[v])++[x]/\d2=true/\¬d=true)∨(acc2=acc++[x]/\d2=true/\x=v)):Ks xs v (k+1) acc2 d2:=by
 obtain ⟨h1,h2,h3,h4⟩:=h
 have ht:∀z,z∈xs.take (k+1)↔z∈xs.take k∨z=x:=fun z=>by rw [V9 hx];simp
 rcases hc with ⟨rfl,rfl⟩|⟨rfl,rfl,hd⟩|⟨rfl,rfl,rfl⟩
 ·refine ⟨by simp;omega,fun z hz=>?_,fun z hz=>?_,fun q=>List.mem_append_left _ (h4 q)⟩
  ·rw [ht]
   rcases Xm.1 hz with hz|hz
   ·rcases h2 z hz with q|q
    ·exact .inl (.inl q)
    ·exact .inr q
   ·exact .inl (.inr (Xr.1 hz))
  ·rcases (ht z).1 hz with q|q
   ·exact List.mem_append_left _ (h3 z q)
   ·subst q;simp
 ·rw [Zd hd] at h1
  refine ⟨by simp;omega,fun z hz=>?_,fun z hz=>?_,fun _=>by simp⟩
  ·rw [ht]
   simp only [Xm,Xr] at hz
   rcases hz with (hz|hz)|hz
   ·rcases h2 z hz with q|q
    ·exact .inl (.inl q)
    ·exact .inr q
   ·exact .inr hz
   ·exact .inl (.inr hz)
  ·rcases (ht z).1 hz with q|q
   ·exact List.mem_append_left _ (List.mem_append_left _ (h3 z q))
   ·subst q;simp
 ·refine ⟨by simp;split at h1<;>omega,fun z hz=>?_,fun z hz=>?_,fun _=>by simp⟩
  ·rw [ht]
   rcases Xm.1 hz with hz|hz
   ·rcases h2 z hz with q|q
    ·exact .inl (.inl q)
    ·exact .inr q
   ·exact .inl (.inr (Xr.1 hz))
  ·rcases (ht z).1 hz with q|q
   ·exact List.mem_append_left _ (h3 z q)
   ·subst q;simp
theorem Ks.fin {xs:LI} {v:Int} {k:Nat} {acc:LI} {d:Bool} (h:Ks xs v k acc d) (hk:k=xs.length) :
  (d=true->acc.length<=xs.length+1/\∀z,z∈acc↔z∈xs∨z=v)/\(¬d=true->(acc++[v]).length<=xs.length+1/\∀z,z∈acc++[v]↔z∈xs∨z=v):=by
 obtain ⟨h1,h2,h3,h4⟩:=h
 subst hk
 rw [Uk] at h2 h3
 refine ⟨fun hd=>?_,fun hd=>?_⟩
 ·rw [Zl hd] at h1
  exact ⟨h1,fun z=>⟨h2 z,fun q=>q.elim (h3 z) fun e=>e▸h4 hd⟩⟩
 ·rw [Zd hd] at h1
  refine ⟨by simp;omega,fun z=>?_⟩
  rw [Xm,Xr]
  exact ⟨fun q=>q.elim (h2 z) .inr,fun q=>q.elim (fun e=>.inl (h3 z e)) .inr⟩
end Go.Abs
namespace Go.Abs
theorem Ks.go {xs:LI} {v:Int} {k:Nat} {acc:LI} {d:Bool} {x:Int} (h:Ks xs v k acc d) (hx:xs[k]? = some x) {acc2:LI} {d2:Bool}
  (hc:(acc2=acc/\d2=d)∨(acc2=acc++[v]/\d2=true/\¬d=true)∨(acc2=acc/\d2=true/\x=v)):Ks xs v (k+1) (acc2++[x]) d2:=by
 refine h.step hx ?_
 rcases hc with ⟨e1,e2⟩|⟨e1,e2,e3⟩|⟨e1,e2,e3⟩
 ·exact .inl ⟨by rw [e1],e2⟩
 ·exact .inr (.inl ⟨by rw [e1],e2,e3⟩)
 ·exact .inr (.inr ⟨by rw [e1],e2,e3⟩)
section
variable {ds:List Ze} {kept K2:LI} {op num x:Int} {args:LI} {j many:Nat} {kd:Z7}
theorem Zcl (h8:op=8) (hx:gI args 0=x) (hk:¬x∈kept) (hm:(Ww ds num j).length=many) (hq:¬(Vl kd.steps x<0∨Wy kd.steps many<0)) (hK:∀z,z∈K2↔z∈kept∨z=x):Ws ds K2 (VH kd x many)=TR ds kept op num args j kd:=by
 subst hx hm
 have e:∀z,z∈K2↔z∈gI args 0::kept:=fun z=>by rw [hK z,YM];exact Or.comm
 rw [TR,Zl ⟨h8,hk⟩,Gf,Zd hq,RH,LL kd e]
theorem Zcm (h8:op=8) (hx:gI args 0=x) (hk:¬x∈kept) (hm:(Ww ds num j).length=many) (hq:Vl kd.steps x<0∨Wy kd.steps many<0):Ws ds kept (VH kd x many)=TR ds kept op num args j kd:=by
 subst hx hm
 rw [TR,Zl ⟨h8,hk⟩,Gf,Zl hq,RH]
theorem RJ (h:¬(op=8/\¬gI args 0∈kept)):Ws ds kept kd=TR ds kept op num args j kd:=by rw [TR,Zd h]
end
end Go.Abs
namespace Go.Abs
theorem Fu:∀{xs:List Z7} {k:Nat} {b:Z7},xs[k]? = some b->YW (xs.take k)+b.sz<=YW xs
 | [],_,_,h=>by simp at h
 | x::r,0,b,h=>by simp at h;subst h;simp [YW]
 | x::r,k+1,b,h=>by
  have:=Fu (xs:=r) (k:=k) (by simpa using h)
  rw [Ai,YW,YW];omega
theorem HR {xs:List Z7} {k:Nat} (h:xs.length<=k):YW (xs.take k)=YW xs:=by rw [WT h]
end Go.Abs
end
namespace Go.Abs
theorem SD {xs:List Z5} {k:Nat} {s:Z5} (h:xs[k]? = some s):Yu (xs.drop k)=s.sz+Yu (xs.drop (k+1)):=by rw [Yo h,Yu]
theorem SF (xs:List Z5) (k:Nat):Yu (xs.drop k)<=Yu xs:=by
 have h:=Yj Yu (Tu k xs)
 rw [TU] at h;omega
theorem Ft {xs:List Z7} {k:Nat} {b:Z7} (h:xs[k]? = some b):YW (xs.take (k+1))=YW (xs.take k)+b.sz:=by rw [V9 h,Fq,YW,YW];rfl
structure CL (ds:List Ze) (nf m:Nat) (xs:List Z5) (d z:Nat):Prop where
 fs:W7 ds nf m xs
 dn:Yt xs=d
 op:TN Vu xs
 sz:Yu xs<=z
section
variable {ds:List Ze} {nf m d z:Nat} {xs:List Z5}
theorem CL.nil:CL ds nf m [] 0 0:=⟨True.intro,rfl,True.intro,X9 _⟩
theorem CL.len (h:CL ds nf m xs d z):xs.length<=z:=Vb (KU xs) h.sz
theorem CL.le (h:CL ds nf m xs d z) {z2:Nat} (hz:z<=z2):CL ds nf m xs d z2:=⟨h.fs,h.dn,h.op,Vb h.sz hz⟩
theorem Z4h {op v:Int} (ho:op=14∨op=15) (hv:0<=v/\v<(m:Int)):fS ds nf m (Zx op v):=by
 rw [Zx,fS]
 exact ⟨.inr om,fun a ha=>by rw [Xr.1 ha];exact hv,fun _=>⟨rfl,rfl,rfl,v,rfl⟩,fun h=>by omega,fun h=>by omega,fun h=>by omega,fun h=>by omega,by omega,by omega,by simp,fun _=>rfl,True.intro⟩
theorem Na {op:Int} (ho:op=14∨op=15):YN op=true:=by simp [YN];omega
theorem CL.cnt (h:CL ds nf m xs d z) {op v:Int} (ho:op=14∨op=15) (hv:0<=v/\v<((m+d:Nat):Int)):CL ds nf m (xs++[Zx op v]) d (z+2):=by
 have hc:YN (Zx op v).op=true:=Na ho
 refine ⟨FM h.fs (by rw [h.dn];exact Z4h ho hv),?_,Gz h.op ?_,?_⟩
 ·rw [UX,h.dn,Yt,Zl hc];rfl
 ·rw [EI];exact ⟨by show op<=15;omega,True.intro⟩
 ·have:=h.sz
  have e:(Zx op v).sz=2:=rfl
  rw [TU,Yu,e,Yu];omega
theorem CL.cnts {op:Int} (ho:op=14∨op=15):∀{vs:LI} {xs:List Z5} {z:Nat},CL ds nf m xs d z->(∀v∈vs,0<=v/\v<((m+d:Nat):Int))->CL ds nf m (xs++vs.map (Zx op)) d (z+2*vs.length)
 | [],xs,z,h,_=>by simpa using h
 | v::r,xs,z,h,hv=>by
  have h1:=CL.cnts ho (vs:=r) (h.cnt ho (hv v (Xp ..))) fun x hx=>hv x (XG _ hx)
  rw [Td,show xs++Zx op v::r.map (Zx op)=xs++[Zx op v]++r.map (Zx op) by simp]
  exact h1.le (by rw [Yx];omega)
theorem CL.one (h:CL ds nf m xs d z) {s:Z5} (hs:fS ds nf (m+d) s) (hc:YN s.op=false) (ho:QP Vu s):CL ds nf m (xs++[s]) (d+1) (z+s.sz):=by
 refine ⟨FM h.fs (by rw [h.dn];exact hs),by rw [E6 hc,h.dn],Gz h.op ho,?_⟩
 have:=h.sz
 rw [TU,Yu,Yu];omega
theorem CL.app (h:CL ds nf m xs d z) {ys:List Z5} {d2 z2:Nat} (h2:CL ds nf (m+d) ys d2 z2):CL ds nf m (xs++ys) (d+d2) (z+z2):=by
 refine ⟨A0.2 ⟨h.fs,by rw [h.dn];exact h2.fs⟩,by rw [UX,h.dn,h2.dn],Gy.2 ⟨h.op,h2.op⟩,?_⟩
 have:=h.sz
 have:=h2.sz
 rw [TU];omega
end
structure KB (ds:List Ze) (nf m:Nat) (b:Z7) (z:Nat):Prop where
 fb:fB ds nf m b
 op:Vk Vu b
 sz:b.sz<=z
section
variable {ds:List Ze} {nf m d z:Nat} {xs:List Z5}
theorem CL.block (h:CL ds nf m xs d z) {r:Int} (hr:0<=r/\r<((m+d:Nat):Int)):KB ds nf m ⟨xs,r⟩ (1+z):=by
 refine ⟨by rw [fB,h.dn];exact ⟨h.fs,hr⟩,by rw [Vk];exact h.op,?_⟩
 have:=h.sz
 rw [Z7.sz];omega
theorem KB.le {b:Z7} (h:KB ds nf m b z) {z2:Nat} (hz:z<=z2):KB ds nf m b z2:=⟨h.fb,h.op,Vb h.sz hz⟩
theorem KB.cl {b:Z7} (h:KB ds nf m b z):CL ds nf m b.steps (Yt b.steps) (z-1)/\0<=b.result/\b.result<((m+Yt b.steps:Nat):Int):=by
 obtain ⟨h1,h2⟩:=(Kz b).1 h.fb
 refine ⟨⟨h1,rfl,(Gx b).1 h.op,?_⟩,h2⟩
 have:=h.sz
 have:=b.sz_eq
 omega
theorem KB.put {b:Z7} (h:KB ds nf m b z) {as1 bs:LI} (ha:∀v∈as1,0<=v/\v<(m:Int)) (hb:∀v∈bs,0<=v/\v<(m:Int)):KB ds nf m ⟨as1.map (Zx 14)++bs.map (Zx 15)++b.steps,b.result⟩ (z+2*as1.length+2*bs.length):=by
 obtain ⟨h1,h2⟩:=h.cl
 have q1:CL ds nf m ([]++as1.map (Zx 14)) 0 (0+2*as1.length):=CL.nil.cnts (.inl rfl) ha
 have q2:=(q1.cnts (op:=15) (.inr rfl) hb).app h1
 have:=h.sz
 have:=b.sz_eq
 rw [CK,Wk] at q2
 exact (q2.block h2).le om
end
structure KK (ds:List Ze) (nf:Nat) (sc:Nat->Nat) (ks:List Z7) (z:Nat):Prop where
 fb:VW ds nf sc 0 ks
 op:QO Vu ks
 sz:YW ks<=z
section
variable {ds:List Ze} {nf m z:Nat} {sc:Nat->Nat}
theorem KK.nil:KK ds nf sc [] 0:=⟨True.intro,True.intro,X9 _⟩
theorem KK.snoc {ks:List Z7} {b:Z7} {j z2:Nat} (h:KK ds nf sc ks z) (hj:ks.length=j) (hb:KB ds nf (sc j) b z2):KK ds nf sc (ks++[b]) (z+z2):=by
 refine ⟨NF h.fb (by rw [hj];exact hb.fb),PD h.op hb.op,?_⟩
 have:=h.sz
 have:=hb.sz
 rw [Fq];simp only [YW];omega
theorem KK.le {ks:List Z7} (h:KK ds nf sc ks z) {z2:Nat} (hz:z<=z2):KK ds nf sc ks z2:=⟨h.fb,h.op,Vb h.sz hz⟩
theorem NH {s:Z5} {ks:List Z7} {into:Int} (h:FS ds nf m s) (h11:s.op<=11) (hl:ks.length=s.kids.length) (hi:0<=into/\into<=m) (hk:KK ds nf (WQ ds s.op s.num m) ks z):fS ds nf m ⟨s.op,s.num,into,s.args,ks⟩/\QP Vu ⟨s.op,s.num,into,s.args,ks⟩/\(Z5.mk s.op s.num into s.args ks).sz<=5+z:=by
 refine ⟨?_,?_,?_⟩
 ·rw [fS]
  refine ⟨h.op,h.args,fun q=>by omega,fun q=>by rw [hl];exact h.k7 q,fun q=>by rw [hl];exact h.k8 q,h.one,h.call,h.num,hi,h.alen,fun q=>?_,hk.fb⟩
  have:=h.kn q
  rw [this] at hl
  exact List.eq_nil_of_length_eq_zero hl
 ·rw [QP];exact ⟨by show s.op<=15;omega,hk.op⟩
 ·have:=h.alen
  have:=hk.sz
  rw [Z5.sz];omega
end
structure KT (ds:List Ze) (nf m:Nat) (st:Z5) (z:Nat):Prop where
 fs:fS ds nf m st
 cb:YN st.op=false
 op:QP Vu st
 sz:st.sz<=z
theorem KT.of {ds:List Ze} {nf m z:Nat} {s:Z5} {ks:List Z7} {into:Int} (h:FS ds nf m s) (h11:s.op<=11) (hl:ks.length=s.kids.length) (hi:0<=into/\into<=m) (hk:KK ds nf (WQ ds s.op s.num m) ks z):KT ds nf m ⟨s.op,s.num,into,s.args,ks⟩ (5+z):=by
 obtain ⟨h1,h2,h3⟩:=NH h h11 hl hi hk
 exact ⟨h1,by show YN s.op=false;simp [YN];omega,h2,h3⟩
theorem CL.kt {ds:List Ze} {nf m d z z2:Nat} {xs:List Z5} {st:Z5} (h:CL ds nf m xs d z) (hs:KT ds nf (m+d) st z2):CL ds nf m (xs++[st]) (d+1) (z+z2):=(h.one hs.fs hs.cb hs.op).le (by have:=hs.sz;omega)
theorem FS.few {ds:List Ze} {nf m:Nat} {s:Z5} (h:FS ds nf m s) (hd:Xy ds):s.kids.length<=3:=by
 by_cases h7:s.op=7
 ·have:=h.k7 h7;omega
 ·by_cases h8:s.op=8
  ·have:=h.k8 h8
   have:=Dt hd s.num
   omega
  ·rw [h.kn ⟨h7,h8⟩];simp
theorem RF.lend {ds:List Ze} {nf q:Nat} {p:Int->Prop} {r:YA} {l:LI} (h:RF ds nf q p r) (h1:l.length<=3) (h2:∀v∈l,0<=v/\v<(r.params.length:Int)):RF ds nf q p ⟨r.params,l,r.result,r.body⟩:=⟨h.sig,⟨h1,h2⟩,h.body,h.op⟩
theorem RF.with {ds:List Ze} {nf q q2:Nat} {p p2:Int->Prop} {r:YA} {b:Z7} (h:RF ds nf q p r) (h1:fB ds nf r.params.length b) (h2:b.sz<=q2) (h3:Vk p2 b):RF ds nf q2 p2 ⟨r.params,r.lent,r.result,b⟩:=⟨h.sig,h.lent,⟨h1,h2⟩,h3⟩
theorem Z7.eta (b:Z7):Z7.mk b.steps b.result=b:=by cases b;rfl
theorem LC.at {n:ZF} {k:Nat} {xs:List LI} {i:Nat} {l:LI} {r:YA} (h:LC n k xs) (hl:xs[i]? = some l) (hr:n.routines[i]? = some r):l.length<=3/\∀v∈l,0<=v/\v<(r.params.length:Int):=⟨(h.ok i l hl).1,(h.ok i l hl).2 r hr⟩
theorem I2:∀{xs:List Z5},(∀s∈xs,QP WJ s)->∀k,k<=xs.length->Yt (xs.take k)=k
 | _,_,0,_=>rfl
 | [],_,k+1,h=>absurd h (by simp)
 | x::r,h,k+1,hk=>by
  have h1:=((EI x).1 (h x (Xp ..))).1
  have hc:YN x.op=false:=by have:x.op<=11:=h1;simp [YN];omega
  rw [Ai,Yt,Zd (by rw [hc];simp),I2 (fun s hs=>h s (XG _ hs)) k (by simpa using hk)]
  omega
theorem KB.put1 {ds:List Ze} {nf m z:Nat} {b:Z7} (h:KB ds nf m b z) {op:Int} (ho:op=14∨op=15) {as1:LI} (ha:∀v∈as1,0<=v/\v<(m:Int)):KB ds nf m ⟨as1.map (Zx op)++b.steps,b.result⟩ (z+2*as1.length):=by
 obtain ⟨h1,h2⟩:=h.cl
 have q1:CL ds nf m ([]++as1.map (Zx op)) 0 (0+2*as1.length):=CL.nil.cnts ho ha
 have q2:=q1.app h1
 have:=h.sz
 have:=b.sz_eq
 rw [CK,Wk] at q2
 exact (q2.block h2).le om
theorem FO.fin {n:ZF} {rs:List YA} {q q2:Nat} {p:Int->Prop} (h:FN n q2) (e:rs.length=n.routines.length) (hr:∀r∈rs,RF n.decls n.routines.length q p r):FO ⟨n.decls,rs⟩ q p/\rs.length=n.routines.length:=
 ⟨FO.all h.decls (by show 1<=rs.length/\rs.length<=4;rw [e];exact h.len) (by show ∀r∈rs,RF n.decls rs.length q p r;rw [e];exact hr),e⟩
theorem KT.le {ds:List Ze} {nf m z z2:Nat} {st:Z5} (h:KT ds nf m st z) (hz:z<=z2):KT ds nf m st z2:=⟨h.fs,h.cb,h.op,Vb h.sz hz⟩
theorem KB.len {ds:List Ze} {nf m z:Nat} {b:Z7} (h:KB ds nf m b z):b.steps.length<=z:=by
 have:=h.sz
 have:=b.sz_eq
 have:=KU b.steps
 omega
def VB:List Z5->Int->Nat
 | [],_=>0
 | s::r,v=>(if gI s.args 0=v then 1 else 0)+VB r v
def Vs (rn:List Z5):LI->Nat
 | []=>0
 | v::r=>VB rn v+Vs rn r
theorem HU:∀(xs ys:List Z5) (v:Int),VB (xs++ys) v=VB xs v+VB ys v
 | [],ys,v=>by simp [VB]
 | x::r,ys,v=>by rw [Ag,VB,VB,HU r];omega
theorem Z2i {xs:List Z5} {k:Nat} {s:Z5} (h:xs[k]? = some s) (v:Int):VB (xs.take (k+1)) v=VB (xs.take k) v+(if gI s.args 0=v then 1 else 0):=by
 rw [V9 h,HU,VB,VB];omega
theorem N1:∀(xs:List Z5) (v:Int),VB xs v<=xs.length
 | [],v=>X9 _
 | x::r,v=>by have:=N1 r v;rw [VB,Yx];split<;>omega
theorem Z2j (xs:List Z5) (k:Nat) (v:Int):VB (xs.take k) v<=VB xs v:=by
 have h:=Yj (VB · v) (Tu k xs)
 simp only [HU] at h;omega
theorem M8 (rn:List Z5):∀xs ys:LI,Vs rn (xs++ys)=Vs rn xs+Vs rn ys
 | [],ys=>by simp [Vs]
 | x::r,ys=>by rw [Ag,Vs,Vs,M8 rn r];omega
theorem Zfj {rn:List Z5} {xs:LI} {k:Nat} {v:Int} (h:xs[k]? = some v):Vs rn (xs.take (k+1))=Vs rn (xs.take k)+VB rn v:=by
 rw [V9 h,M8,Vs,Vs];rfl
theorem SQ (s:Z5) (r:List Z5):∀vs:LI,BS vs->Vs (s::r) vs<=1+Vs r vs/\(¬gI s.args 0∈vs->Vs (s::r) vs=Vs r vs)
 | [],_=>by simp [Vs]
 | v::vs,h=>by
  obtain ⟨h1,h2⟩:=Va.1 h
  obtain ⟨q1,q2⟩:=SQ s r vs h2
  rw [Vs,Vs,VB]
  by_cases e:gI s.args 0=v
  ·have hn:¬gI s.args 0∈vs:=fun z=>by have:=h1 _ z;omega
   rw [Zl e,q2 hn]
   exact ⟨by omega,fun z=>absurd (YM.2 (.inl e)) z⟩
  ·rw [Zd e]
   exact ⟨by omega,fun z=>by rw [q2 fun y=>z (XG _ y)];omega⟩
theorem SR:∀(rn:List Z5) {vs:LI},BS vs->Vs rn vs<=rn.length
 | [],vs,_=>by
  have:∀xs:LI,Vs [] xs=0:=fun xs=>by
   induction xs with
   | nil=>rfl
   | cons x r ih=>rw [Vs,ih];rfl
  rw [this];exact Te _
 | s::r,vs,h=>by
  have h1:=(SQ s r vs h).1
  have h2:=SR r h
  rw [Yx];omega
theorem M9 (rn:List Z5) (xs:LI) (k:Nat):Vs rn (xs.take k)<=Vs rn xs:=by
 have h:=Yj (Vs rn) (Tu k xs)
 rw [M8] at h;omega
def Mx (m:Nat) (rn:List Z5):Prop:=∀s∈rn,∃a,s.args=[a]/\0<=a/\a<(m:Int)
theorem Ni {xs:List Z5} {k:Nat} {s:Z5} (h:xs[k]? = some s):Yt (xs.take (k+1))=Yt (xs.take k)+(if YN s.op=true then 0 else 1):=by rw [V9 h,UX,Yt,Yt];rfl
theorem KT.eq {ds:List Ze} {nf m z:Nat} {s:Z5} {ks:List Z7} (h:FS ds nf m s) (h11:s.op<=11) (hl:ks.length=s.kids.length) (hk:KK ds nf (WQ ds s.op s.num m) ks z):KT ds nf m ⟨s.op,s.num,s.into,s.args,ks⟩ (1+s.args.length+z):=by
 obtain ⟨h1,h2,h3⟩:=NH h h11 hl h.into hk
 refine ⟨h1,by show YN s.op=false;simp [YN];omega,h2,?_⟩
 have:=hk.sz
 rw [Z5.sz];omega
theorem FS.pair {ds:List Ze} {nf m:Nat} {s:Z5} (h:FS ds nf m s) (hp:s.op=14∨s.op=15):(∃a,s.args=[a]/\0<=a/\a<(m:Int))/\s.sz=2/\YN s.op=true:=by
 obtain ⟨h1,h2,h3,a,h4⟩:=h.cnt om
 have h5:=h.args a (by rw [h4];exact Xr.2 rfl)
 refine ⟨⟨a,h4,h5⟩,?_,Na hp⟩
 rw [s.sz_eq,h3,h4];rfl
theorem FS.not_pair {ds:List Ze} {nf m:Nat} {s:Z5} (h:FS ds nf m s) (hp:¬(s.op=14∨s.op=15)) (h15:Vu s.op):s.op<=11/\YN s.op=false:=by
 have h1:s.op<=15:=h15
 have h2:=h.op
 exact ⟨by omega,by simp [YN];omega⟩
theorem CL.run {ds:List Ze} {nf m d z:Nat} {xs:List Z5} {D R:LI} {rn:List Z5} (h:CL ds nf m xs d z) (hr:Mx (m+d) rn) (hD:∀v∈D,∃s∈rn,s.args=[v]) (hR:∀v∈R,∃s∈rn,s.args=[v]):CL ds nf m (xs++(D.map (Zx 14)++R.map (Zx 15))) d (z+2*(D.length+R.length)):=by
 have key:∀(A:LI),(∀v∈A,∃s∈rn,s.args=[v])->∀v∈A,0<=v/\v<((m+d:Nat):Int):=fun A hA v hv=>by
  obtain ⟨s,hs,e⟩:=hA v hv
  obtain ⟨a,e2,e3⟩:=hr s hs
  rw [e] at e2
  cases e2
  exact e3
 have h2:=(h.cnts (op:=14) (.inl rfl) (key D hD)).cnts (op:=15) (.inr rfl) (key R hR)
 rw [<-VP]
 exact h2.le om
def WH (xs:List Z5) (i:Nat) (s:Z5):List Z5:=xs.take i++[s]++xs.drop i
theorem GK {xs:List Z5} (i:Nat) (s:Z5):Yu (WH xs i s)=Yu xs+s.sz:=by
 have h:=Yj Yu (Tu i xs)
 rw [TU] at h
 rw [WH,TU,TU,Yu,Yu];omega
theorem R4 {xs:List Z5} {i:Nat} {s:Z5} (h:i<=xs.length):(WH xs i s).length=xs.length+1:=by
 simp [WH,VQ h];omega
def AK (b:Z7) (i j:Nat) (v:Int):Z7:=⟨WH (WH b.steps j (Zx 15 v)) i (Zx 14 v),b.result⟩
def withR (n:ZF) (f:Nat) (rt:YA) (b:Z7):ZF:=⟨n.decls,n.routines.set f ⟨rt.params,rt.lent,rt.result,b⟩⟩
def Fg (n n2:ZF):Prop:=n2=n∨∃f rt i j v,n.routines[f]? = some rt/\i<=j/\j<=rt.body.steps.length/\0<=v/\v<((rt.params.length+Yt (rt.body.steps.take i):Nat):Int)/\n2=withR n f rt (AK rt.body i j v)
theorem CL.put {ds:List Ze} {nf m:Nat} {xs:List Z5} {d z:Nat} (h:CL ds nf m xs d z) {i:Nat} {op v:Int} (ho:op=14∨op=15) (hv:0<=v/\v<((m+Yt (xs.take i):Nat):Int)):CL ds nf m (WH xs i (Zx op v)) d (z+2):=by
 have hs:=h.fs
 have hp:=h.op
 have e:=Tu i xs
 rw [<-e] at hs hp
 rw [A0] at hs
 rw [Gy] at hp
 have h1:CL ds nf m (xs.take i) (Yt (xs.take i)) (Yu (xs.take i)):=⟨hs.1,rfl,hp.1,X9 _⟩
 have h2:CL ds nf (m+Yt (xs.take i)) (xs.drop i) (Yt (xs.drop i)) (Yu (xs.drop i)):=⟨hs.2,rfl,hp.2,X9 _⟩
 have h3:=(h1.cnt ho hv).app h2
 have e1:=Yj Yu e
 have e2:=Yj Yt e
 rw [TU] at e1
 rw [UX,h.dn] at e2
 have:=h.sz
 rw [e2] at h3
 exact h3.le om
theorem R5 {xs:List Z5} {i j:Nat} {s:Z5} (h:i<=j) (hj:j<=xs.length):(WH xs j s).take i=xs.take i:=by
 rw [WH,VP,List.take_append_of_le_length (by rw [Wh];omega),List.take_take,VQ h]
theorem Z7w {ds:List Ze} {nf m z:Nat} {b:Z7} (h:KB ds nf m b z) {i j:Nat} {v:Int} (hij:i<=j) (hj:j<=b.steps.length) (hv:0<=v/\v<((m+Yt (b.steps.take i):Nat):Int)):KB ds nf m (AK b i j v) (z+4):=by
 obtain ⟨h1,h2⟩:=h.cl
 have hm:Yt (b.steps.take i)<=Yt (b.steps.take j):=by
  have e:=Yj Yt (Tu i (b.steps.take j))
  rw [UX,List.take_take,VQ hij] at e;omega
 have h3:=(h1.put (i:=j) (op:=15) (v:=v) (.inr rfl) om).put (i:=i) (op:=14) (v:=v) (.inl rfl) (by rw [R5 hij hj];exact hv)
 have:=h.sz
 have:=b.sz_eq
 exact (h3.block h2).le om
theorem FO.held {n n2:ZF} {q:Nat} (h:FO n q Vu) (hh:Fg n n2):FO n2 (q+4) Vu:=by
 rcases hh with rfl|⟨f,rt,i,j,v,h1,h2,h3,h4,h5,rfl⟩
 ·exact ⟨⟨h.fn.decls,h.fn.len,h.fn.sigs,h.fn.lent,fun r hr=>⟨(h.fn.body r hr).1,by have:=(h.fn.body r hr).2;omega⟩⟩,h.op⟩
 ·have hr:=h.rf (Y4 h1)
  have hk:KB n.decls n.routines.length rt.params.length (AK rt.body i j v) (q+4):=Z7w ⟨hr.body.1,hr.op,hr.body.2⟩ h2 h3 ⟨h4,h5⟩
  refine FO.all h.fn.decls (by show 1<=(n.routines.set _ _).length/\(n.routines.set _ _).length<=4;rw [VJ];exact h.fn.len) fun r hm=>?_
  show RF n.decls (n.routines.set _ _).length _ _ r
  rw [VJ]
  rcases List.mem_or_eq_of_mem_set hm with hm|rfl
  ·have hq:=h.rf hm
   exact ⟨hq.sig,hq.lent,⟨hq.body.1,by have:=hq.body.2;omega⟩,hq.op⟩
  ·exact ⟨hr.sig,hr.lent,⟨hk.fb,hk.sz⟩,hk.op⟩
mutual
def Z5.rb:Z5->Prop
 | .mk _ _ _ _ kids=>JO kids
def JO:List Z7->Prop
 | []=>True
 | b::r=>Z7.rb b/\JO r
def Kk:List Z5->Prop
 | []=>True
 | s::r=>Z5.rb s/\Kk r
def Z7.rb:Z7->Prop
 | .mk steps result=>Kk steps/\-1000000000<=result/\result<=1000000000
end
theorem Z5.rb_eq (s:Z5):s.rb=JO s.kids:=by cases s;rw [Z5.rb];rfl
theorem Z7.rb_eq (b:Z7):b.rb=(Kk b.steps/\-1000000000<=b.result/\b.result<=1000000000):=by cases b;rw [Z7.rb];rfl
theorem DJ:∀{xs:List Z5},Kk xs↔∀s∈xs,s.rb
 | []=>by simp [Kk]
 | s::r=>by rw [Kk,DJ];simp
section
variable {ds:List Ze} {nf:Nat}
mutual
theorem Zbn:∀(s:Z5) {m:Nat},fS ds nf m s->m+4*s.sz<=900000000->Xy ds->s.rb
 | .mk op num into args kids,m,h,hb,hd=>by
  rw [fS] at h
  obtain ⟨h1,h2,h3,h4,h5,h6,h7,h8,h9,h10,h11,h12⟩:=h
  rw [Z5.sz] at hb
  rw [Z5.rb]
  refine R9 kids h12 (fun k=>?_) hd
  have hf:=Ve hd (gI (ZX ds num) k)
  show WQ ds op num m k+4*YW kids<=900000003
  rw [WQ];split<;>omega
theorem R9:∀(bs:List Z7) {sc:Nat->Nat} {k:Nat},VW ds nf sc k bs->(∀k,sc k+4*YW bs<=900000003)->Xy ds->JO bs
 | [],_,_,_,_,_=>True.intro
 | b::r,sc,k,h,hb,hd=>by
  have hp:=b.sz_eq
  exact ⟨R8 b h.1 (by have:=hb k;rw [YW] at this;omega) hd,R9 r h.2 (fun j=>by have:=hb j;rw [YW] at this;omega) hd⟩
theorem Ra:∀(xs:List Z5) {m:Nat},W7 ds nf m xs->m+4*Yu xs<=900000000->Xy ds->Kk xs
 | [],_,_,_,_=>True.intro
 | s::r,m,h,hb,hd=>by
  rw [Yu] at hb
  have hp:=s.sz_pos
  refine ⟨Zbn s h.1 om hd,Ra r h.2 ?_ hd⟩
  split<;>omega
theorem R8:∀(b:Z7) {m:Nat},fB ds nf m b->m+4*b.sz<=900000004->Xy ds->b.rb
 | .mk steps result,m,h,hb,hd=>by
  rw [Z7.sz] at hb
  rw [fB] at h
  rw [Z7.rb]
  have h1:=Ax steps
  have h2:steps.length<=Yu steps:=by
   clear h h1 hb
   induction steps with
   | nil=>simp
   | cons x r ih=>have:=x.sz_pos;rw [Yu,Yx];omega
  exact ⟨Ra steps h.1 om hd,by omega,by omega⟩
end
theorem DB {op v:Int}:(Zx op v).rb:=by rw [Z5.rb_eq];exact True.intro
theorem Zbo {b:Z7} {x q:Int} {fs:LI} (h:b.rb):(QY b x fs q).rb:=by
 rw [Z7.rb_eq,DJ] at h
 rw [Z7.rb_eq,DJ]
 refine ⟨fun s hs=>?_,h.2⟩
 have hs:s∈Qz b.steps x fs q:=hs
 rw [Qz] at hs
 split at hs
 ·simp only [Xm,XN,Xr] at hs
  rcases hs with ((⟨a,_,rfl⟩|rfl)|⟨a,_,rfl⟩)|hs
  ·exact DB
  ·exact DB
  ·exact DB
  ·exact h.1 s (List.mem_of_mem_drop hs)
 ·exact h.1 s hs
mutual
theorem Zbr:∀(s:Z5) {m:Nat},s.rb->(Ki ds m s).rb
 | .mk op num into args kids,m,h=>by
  rw [Z5.rb] at h
  rw [Ki,Z5.rb]
  exact Rd kids h
theorem Rd:∀(bs:List Z7) {m:Nat} {op num:Int} {args:LI} {k:Nat},JO bs->JO (UD ds m op num args bs k)
 | [],_,_,_,_,_,_=>by rw [UD];exact True.intro
 | b::r,m,op,num,args,k,h=>by
  rw [UD,JO]
  refine ⟨?_,Rd r h.2⟩
  split
  ·exact Zbo (LA b h.1)
  ·exact LA b h.1
theorem Re:∀(xs:List Z5) {m:Nat},Kk xs->Kk (VO ds m xs)
 | [],_,_=>by rw [VO];exact True.intro
 | s::r,m,h=>by rw [VO,Kk];exact ⟨Zbr s h.1,Re r h.2⟩
theorem LA:∀(b:Z7) {m:Nat},b.rb->(WO ds m b).rb
 | .mk steps result,m,h=>by
  rw [Z7.rb] at h
  rw [WO,Z7.rb]
  exact ⟨Re steps h.1,h.2⟩
end
theorem Zbp {b:Z7} {x:Int} {many:Nat} (h:b.rb):(VH b x many).rb:=by
 rw [Z7.rb_eq] at h
 rw [VH,Z7.rb_eq]
 refine ⟨?_,h.2⟩
 show Kk (Vz b.steps x many)
 rw [Vz]
 split
 ·exact h.1
 ·rename_i hq
  obtain ⟨_,_,t,h5,h7,h6⟩:=JS (fun z=>hq (.inr z))
  have h:=h.1
  rw [DJ] at h ⊢
  intro s hs
  rcases List.mem_or_eq_of_mem_set hs with hs|rfl
  ·rcases List.mem_or_eq_of_mem_set hs with hs|rfl
   ·exact h s hs
   ·exact DB
  ·have:=h t (Y4 h5)
   rw [h6,Q6,Z5.rb_eq]
   rw [Z5.rb_eq] at this
   exact this
mutual
theorem Zbq:∀(s:Z5) {K:LI},s.rb->(Ta ds K s).rb
 | .mk op num into args kids,K,h=>by
  rw [Z5.rb] at h
  rw [Ta,Z5.rb]
  exact Rb kids h
theorem Rb:∀(bs:List Z7) {K:LI} {op num:Int} {args:LI} {k:Nat},JO bs->JO (VN ds K op num args bs k)
 | [],_,_,_,_,_,_=>True.intro
 | b::r,K,op,num,args,k,h=>by
  rw [VN,JO]
  refine ⟨?_,Rb r h.2⟩
  split
  ·exact Zbp (Lz b h.1)
  ·exact Lz b h.1
theorem Rc:∀(xs:List Z5) {K:LI},Kk xs->Kk (VY ds K xs)
 | [],_,_=>True.intro
 | s::r,K,h=>⟨Zbq s h.1,Rc r h.2⟩
theorem Lz:∀(b:Z7) {K:LI},b.rb->(Ws ds K b).rb
 | .mk steps result,K,h=>by
  rw [Z7.rb] at h
  rw [Ws,Z7.rb]
  exact ⟨Rc steps h.1,h.2⟩
end
end
structure Wl (ds:List Ze) (b:Z7):Prop where
 w:wB ds b
 nr:QN b
 rng:b.rng
structure TD (ds:List Ze) (s:Z5):Prop where
 w:wS ds s
 nr:Cx s
 rng:s.rng
section
variable {ds:List Ze}
theorem DK:∀{xs:List Z5},Ac xs↔∀s∈xs,s.rng
 | []=>by simp [Ac]
 | s::r=>by rw [Ac,DK];simp
theorem HP:∀{xs:List Z7},JP xs↔∀s∈xs,s.rng
 | []=>by simp [JP]
 | s::r=>by rw [JP,HP];simp
theorem Wl.iff {b:Z7}:Wl ds b↔∀s∈b.steps,TD ds s:=by
 constructor
 ·intro h s hs
  have h3:=h.rng
  rw [Z7.rng_eq] at h3
  exact ⟨B1.1 ((KY b).1 h.w) s hs,EF.1 ((EE b).1 h.nr) s hs,DK.1 h3 s hs⟩
 ·intro h
  exact ⟨(KY b).2 (B1.2 fun s hs=>(h s hs).w),(EE b).2 (EF.2 fun s hs=>(h s hs).nr),by rw [Z7.rng_eq];exact DK.2 fun s hs=>(h s hs).rng⟩
theorem TD.kid {s:Z5} {b:Z7} (h:TD ds s) (hb:b∈s.kids):Wl ds b:=by
 have h3:=h.rng
 rw [Z5.rng_eq] at h3
 exact ⟨Hn.1 ((Jz s).1 h.w).2.2.2 b hb,Gs.1 ((Ds s).1 h.nr).2 b hb,HP.1 h3.2 b hb⟩
theorem TD.kids {s:Z5} {ks:List Z7} (h:TD ds s) (hl:ks.length=s.kids.length) (hk:∀b∈ks,Wl ds b):TD ds ⟨s.op,s.num,s.into,s.args,ks⟩:=by
 obtain ⟨h1,h2,h3,h4⟩:=(Jz s).1 h.w
 have h5:=h.rng
 rw [Z5.rng_eq] at h5
 refine ⟨(Jz _).2 ⟨h1,fun hc=>?_,fun h8=>⟨(h3 h8).1,hl.trans (h3 h8).2⟩,Hn.2 fun b hb=>(hk b hb).w⟩,(Ds _).2 ⟨((Ds s).1 h.nr).1,Gs.2 fun b hb=>(hk b hb).nr⟩,by rw [Z5.rng_eq];exact ⟨h5.1,HP.2 fun b hb=>(hk b hb).rng⟩⟩
 obtain ⟨q1,q2,q3,q4⟩:=h2 hc
 exact ⟨q1,q2,List.eq_nil_of_length_eq_zero (show ks.length=0 by rw [hl,q3];rfl),q4⟩
theorem TD.cnt {op v:Int} (h:op=14∨op=15∨op=16):TD ds (Zx op v):=⟨Zgg h,(Ds _).2 ⟨by show op≠17;omega,True.intro⟩,by rw [Z5.rng_eq];exact ⟨⟨by show (-9223372036854775808:Int)<=0;decide,by show (0:Int)<=_;decide⟩,True.intro⟩⟩
theorem Wl.open {b:Z7} {x q:Int} {fs:LI} (h:Wl ds b):Wl ds (QY b x fs q):=by
 rw [Wl.iff] at h ⊢
 intro s hs
 have hs:s∈Qz b.steps x fs q:=hs
 rw [Qz] at hs
 split at hs
 ·simp only [Xm,XN,Xr] at hs
  rcases hs with ((⟨a,_,rfl⟩|rfl)|⟨a,_,rfl⟩)|hs
  ·exact TD.cnt om
  ·exact TD.cnt om
  ·exact TD.cnt om
  ·exact h s (List.mem_of_mem_drop hs)
 ·exact h s hs
theorem H3 {m:Nat} {op num:Int} {args:LI}:∀{bs:List Z7} {k:Nat},(UD ds m op num args bs k).length=bs.length
 | [],_=>rfl
 | b::r,k=>by rw [UD,Yx,Yx,H3 (bs:=r)]
mutual
theorem TD.sp:∀(s:Z5) {m:Nat},TD ds s->TD ds (Ki ds m s)
 | .mk op num into args kids,m,h=>by
  rw [Ki]
  exact h.kids H3 (Wls.sp kids fun b hb=>h.kid hb)
theorem Wls.sp:∀(bs:List Z7) {m:Nat} {op num:Int} {args:LI} {k:Nat},(∀b∈bs,Wl ds b)->∀b∈UD ds m op num args bs k,Wl ds b
 | [],_,_,_,_,_,_,b,hb=>by cases hb
 | c::r,m,op,num,args,k,h,b,hb=>by
  rw [UD] at hb
  rcases YM.1 hb with rfl|hb
  ·split
   ·exact (Wl.sp c (h c (Xp ..))).open
   ·exact Wl.sp c (h c (Xp ..))
  ·exact Wls.sp r (fun x hx=>h x (XG _ hx)) b hb
theorem WlSs.sp:∀(xs:List Z5) {m:Nat},(∀s∈xs,TD ds s)->∀s∈VO ds m xs,TD ds s
 | [],_,_,s,hs=>by cases hs
 | c::r,m,h,s,hs=>by
  rw [VO] at hs
  rcases YM.1 hs with rfl|hs
  ·exact TD.sp c (h c (Xp ..))
  ·exact WlSs.sp r (fun x hx=>h x (XG _ hx)) s hs
theorem Wl.sp:∀(b:Z7) {m:Nat},Wl ds b->Wl ds (WO ds m b)
 | .mk steps result,m,h=>by
  rw [WO,Wl.iff]
  exact WlSs.sp steps (Wl.iff.1 h)
end
theorem Zcc {b:Z7} {x:Int} {many:Nat} (h:b.rng):(VH b x many).rng:=by
 rw [Z7.rng_eq] at h
 rw [VH,Z7.rng_eq]
 show Ac (Vz b.steps x many)
 rw [Vz]
 split
 ·exact h
 ·rename_i hq
  obtain ⟨_,_,t,h5,h7,h6⟩:=JS (fun z=>hq (.inr z))
  rw [DK] at h ⊢
  intro s hs
  rcases List.mem_or_eq_of_mem_set hs with hs|rfl
  ·rcases List.mem_or_eq_of_mem_set hs with hs|rfl
   ·exact h s hs
   ·rw [Z5.rng_eq];exact ⟨⟨by show (-9223372036854775808:Int)<=0;decide,by show (0:Int)<=_;decide⟩,True.intro⟩
  ·have:=h t (Y4 h5)
   rw [h6,Q6,Z5.rng_eq]
   rw [Z5.rng_eq] at this
   exact this
mutual
theorem Zcd:∀(s:Z5) {K:LI},s.rng->(Ta ds K s).rng
 | .mk op num into args kids,K,h=>by
  rw [Z5.rng] at h
  rw [Ta,Z5.rng]
  exact ⟨h.1,Ry kids h.2⟩
theorem Ry:∀(bs:List Z7) {K:LI} {op num:Int} {args:LI} {k:Nat},JP bs->JP (VN ds K op num args bs k)
 | [],_,_,_,_,_,_=>True.intro
 | b::r,K,op,num,args,k,h=>by
  rw [VN,JP]
  refine ⟨?_,Ry r h.2⟩
  split
  ·exact Zcc (LH b h.1)
  ·exact LH b h.1
theorem Rz:∀(xs:List Z5) {K:LI},Ac xs->Ac (VY ds K xs)
 | [],_,_=>True.intro
 | s::r,K,h=>⟨Zcd s h.1,Rz r h.2⟩
theorem LH:∀(b:Z7) {K:LI},b.rng->(Ws ds K b).rng
 | .mk steps result,K,h=>by
  rw [Z7.rng] at h
  rw [Ws,Z7.rng]
  exact Rz steps h
end
end
mutual
theorem Zam:∀s:Z5,QP Vu s->Cx s
 | .mk op num into args kids,h=>by
  rw [QP] at h
  rw [Cx]
  exact ⟨by have:op<=15:=h.1;omega,Pt kids h.2⟩
theorem Pt:∀bs:List Z7,QO Vu bs->Bs bs
 | [],_=>True.intro
 | b::r,h=>⟨Ps b h.1,Pt r h.2⟩
theorem Pu:∀bs:List Z5,TN Vu bs->Bt bs
 | [],_=>True.intro
 | b::r,h=>⟨Zam b h.1,Pu r h.2⟩
theorem Ps:∀b:Z7,Vk Vu b->QN b
 | .mk steps result,h=>by
  rw [Vk] at h
  rw [QN]
  exact Pu steps h
end
structure ZR (q:Nat) (r:YA):Prop where
 params:r.params.length<=3
 lent:r.lent.length<=10
 body:r.body.sz<=q
 rng:r.body.rng
 rb:r.body.rb
structure ZN (n:ZF) (q:Nat):Prop where
 decls:AD n.decls
 len:1<=n.routines.length/\n.routines.length<=4
 rt:∀r∈n.routines,ZR q r
theorem ZR.le {q q2:Nat} {r:YA} (h:ZR q r) (hq:q<=q2):ZR q2 r:=⟨h.params,h.lent,Vb h.body hq,h.rng,h.rb⟩
theorem ZN.le {n:ZF} {q q2:Nat} (h:ZN n q) (hq:q<=q2):ZN n q2:=⟨h.decls,h.len,fun r hr=>(h.rt r hr).le hq⟩
theorem ZN.sz {n:ZF} {q:Nat} (h:ZN n q) (hq:q<=10000000):JF n:=
 ⟨⟨by have:=h.decls.1;omega,fun d hd=>by have:=(h.decls.2 d hd).1;omega,fun d hd c hc=>by have:=(h.decls.2 d hd).2 c hc;omega⟩,by have:=h.len;omega,fun r hr=>by have:=(h.rt r hr).params;omega,fun r hr=>by have:=(h.rt r hr).lent;omega,fun r hr=>by have:=(h.rt r hr).body;omega⟩
theorem FO.wl {n:ZF} {q:Nat} (h:FO n q Vu) (hq:q<=100000000):∀r∈n.routines,Wl n.decls r.body:=fun r hr=>by
 have h1:=h.rf hr
 have h2:r.params.length<=3:=(Th.bd (f:=⟨r.params,r.result,default⟩) h1.sig).1
 exact ⟨Ml r.body h1.body.1 (by have:=h1.body.2;omega) h.fn.decls.ok,Ps r.body h1.op,LG r.body h1.body.1⟩
theorem FO.zn {n:ZF} {q:Nat} {p:Int->Prop} (h:FO n q p) (hq:q<=100000000:=by omega):ZN n q:=
 ⟨h.fn.decls.ad,h.fn.len,fun r hr=>⟨(Th.bd (f:=⟨r.params,r.result,default⟩) (h.fn.sigs r hr)).1,by have:=(h.fn.lent r hr).1;omega,(h.fn.body r hr).2,LG r.body (h.fn.body r hr).1,R8 r.body (h.fn.body r hr).1 (by have h2:r.params.length<=3:=(Th.bd (f:=⟨r.params,r.result,default⟩) (h.fn.sigs r hr)).1;have:=(h.fn.body r hr).2;omega) h.fn.decls.ok⟩⟩
structure WN (n:ZF) (q:Nat):Prop where
 ok:Xs n
 zn:ZN n q
 wl:∀r∈n.routines,Wl n.decls r.body
theorem FO.wn {n:ZF} {q:Nat} (h:FO n q Vu) (hq:q<=100000000):WN n q:=⟨h.fn.ok,h.zn hq,h.wl hq⟩
theorem WN.sp {n:ZF} {q:Nat} (h:WN n q):WN (CD n) (9*q):=by
 refine ⟨⟨h.ok.decls,by show (n.routines.map _).length<=4;rw [J2];exact h.ok.len,fun r hr=>?_,fun r hr=>?_⟩,⟨h.zn.decls,by show 1<=(n.routines.map _).length/\(n.routines.map _).length<=4;rw [J2];exact h.zn.len,fun r hr=>?_⟩,fun r hr=>?_⟩
 ·obtain ⟨s,hs,rfl⟩:=XN.1 hr;exact h.ok.params s hs
 ·obtain ⟨s,hs,rfl⟩:=XN.1 hr;exact h.ok.lent s hs
 ·obtain ⟨s,hs,rfl⟩:=XN.1 hr
  have hz:=h.zn.rt s hs
  refine ⟨hz.params,hz.lent,?_,(Wl.sp s.body (h.wl s hs)).rng,LA s.body hz.rb⟩
  have h1:=H1 h.ok.decls s.body (m:=s.params.length) (h.wl s hs).w
  have h2:=s.body.pz_le
  have h3:=hz.body
  show (WO n.decls s.params.length s.body).sz<=9*q
  omega
 ·obtain ⟨s,hs,rfl⟩:=XN.1 hr;exact Wl.sp s.body (h.wl s hs)
theorem WN.ru {n:ZF} {q:Nat} (h:WN n q):ZN (CC n) q:=by
 refine ⟨h.zn.decls,by show 1<=(n.routines.map _).length/\(n.routines.map _).length<=4;rw [J2];exact h.zn.len,fun r hr=>?_⟩
 obtain ⟨s,hs,rfl⟩:=XN.1 hr
 have hz:=h.zn.rt s hs
 refine ⟨hz.params,hz.lent,?_,LH s.body (h.wl s hs).rng,Lz s.body hz.rb⟩
 have h1:=LM s.body (K:=[]) (h.wl s hs).w
 have h3:=hz.body
 show (Ws n.decls [] s.body).sz<=q
 omega
theorem GJ {xs:List Z5} {i:Nat} {s t:Z5} (h:t∈WH xs i s):t∈xs∨t=s:=by
 rw [WH] at h
 simp only [Xm,Xr] at h
 rcases h with (h|h)|h
 ·exact .inl (Qt h)
 ·exact .inr h
 ·exact .inl (List.mem_of_mem_drop h)
theorem Rx {op v:Int}:(Zx op v).rng:=by rw [Z5.rng_eq];exact ⟨⟨by show (-9223372036854775808:Int)<=0;decide,by show (0:Int)<=_;decide⟩,True.intro⟩
theorem ZN.withR {n:ZF} {q q2:Nat} {f:Nat} {rt:YA} {b:Z7} (h:ZN n q) (hr:n.routines[f]? = some rt) (hq:q<=q2) (hb:b.sz<=q2) (hg:b.rng) (hbr:b.rb):ZN (withR n f rt b) q2:=by
 refine ⟨h.decls,by show 1<=(n.routines.set _ _).length/\(n.routines.set _ _).length<=4;rw [VJ];exact h.len,fun r hm=>?_⟩
 rcases List.mem_or_eq_of_mem_set hm with hm|rfl
 ·exact (h.rt r hm).le hq
 ·have:=h.rt rt (Y4 hr)
  exact ⟨this.params,this.lent,hb,hg,hbr⟩
theorem ZN.held {n n2:ZF} {q:Nat} (h:ZN n q) (hh:Fg n n2):ZN n2 (q+4):=by
 rcases hh with rfl|⟨f,rt,i,j,v,h1,h2,h3,h4,h5,rfl⟩
 ·exact h.le om
 ·have hz:=h.rt rt (Y4 h1)
  refine h.withR h1 om ?_ ?_ (by have hb:=hz.rb;rw [Z7.rb_eq,DJ] at hb;rw [AK,Z7.rb_eq,DJ];refine ⟨fun s hs=>?_,hb.2⟩;rcases GJ hs with hs|rfl<;>first|exact DB|(rcases GJ hs with hs|rfl<;>first|exact DB|exact hb.1 s hs))
  ·rw [AK,Z7.sz,GK,GK]
   have e1:(Zx 14 v).sz=2:=rfl
   have e2:(Zx 15 v).sz=2:=rfl
   have:=hz.body
   have:=rt.body.sz_eq
   omega
  ·have hg:=hz.rng
   rw [Z7.rng_eq,DK] at hg
   rw [AK,Z7.rng_eq,DK]
   intro s hs
   rcases GJ hs with hs|rfl
   ·rcases GJ hs with hs|rfl
    ·exact hg s hs
    ·exact Rx
   ·exact Rx
theorem FO.le {n:ZF} {q q2:Nat} {p:Int->Prop} (h:FO n q p) (hq:q<=q2):FO n q2 p:=⟨⟨h.fn.decls,h.fn.len,h.fn.sigs,h.fn.lent,fun r hr=>⟨(h.fn.body r hr).1,Vb (h.fn.body r hr).2 hq⟩⟩,h.op⟩
section
variable {ds:List Ze} {nf:Nat}
theorem Z4i {m:Nat} {s:Z5} (h:fS ds nf m s) (hc:YN s.op=true):s.num=0/\s.into=0/\s.kids=[]/\∃a,s.args=[a]/\0<=a/\a<m:=by
 have h1:=(AE s).1 h
 have ho:14<=s.op/\s.op<=17:=of_decide_eq_true hc
 obtain ⟨a1,a2,a3,a,a4⟩:=h1.cnt ho.1
 exact ⟨a1,a2,a3,a,a4,h1.args a (by rw [a4];exact Xr.2 rfl)⟩
theorem RY:∀{xs:List Z5} {m:Nat},W7 ds nf m xs->(∀s∈xs.take (XL xs),0<=gI s.args 0/\gI s.args 0<m)/\W7 ds nf m (xs.drop (XL xs))/\Yt (xs.drop (XL xs))=Yt xs
 | [],m,h=>⟨fun s hs=>by simp [XL] at hs,h,rfl⟩
 | s::r,m,h=>by
  rw [XL]
  by_cases hq:s.op=14∨s.op=15
  ·have hc:YN s.op=true:=by simp [YN];omega
   rw [Zl hq]
   rw [W7,Zl hc] at h
   obtain ⟨h1,h2,h3⟩:=RY h.2
   obtain ⟨_,_,_,a,ha,hb⟩:=Z4i h.1 hc
   refine ⟨fun t ht=>?_,by rw [List.drop_succ_cons];exact h2,by rw [List.drop_succ_cons,Yt,Zl hc,Wk];exact h3⟩
   rw [Ai] at ht
   rcases YM.1 ht with rfl|ht
   ·rw [ha];exact hb
   ·exact h1 t ht
  ·rw [Zd hq]
   exact ⟨fun t ht=>by simp at ht,h,rfl⟩
theorem Fm {op:Int} {P:Int->Prop}:∀{xs:List Z5},(∀s∈xs,P (gI s.args 0))->∀a∈Wn op xs,P a
 | [],_,a,h=>by simp [Wn] at h
 | s::r,hp,a,h=>by
  rw [Wn] at h
  split at h
  ·rcases YM.1 h with rfl|h
   ·exact hp s (Xp ..)
   ·exact Fm (fun t ht=>hp t (XG _ ht)) a h
  ·exact Fm (fun t ht=>hp t (XG _ ht)) a h
theorem GF {P:Int->Prop}:∀{fs:LI} {q:Int} {D R:LI},(∀a∈D,P a)->(∀a∈R,P a)->(∀a,q<=a->a<q+fs.length->P a)->(∀a∈(Ug fs q D R).1,P a)/\∀a∈(Ug fs q D R).2,P a
 | [],q,D,R,hD,hR,_=>⟨hD,hR⟩
 | f::r,q,D,R,hD,hR,hq=>by
  have hq':∀a,q+1<=a->a<q+1+r.length->P a:=fun a h1 h2=>hq a om (by simp only [Yx];omega)
  rw [Ug]
  split
  ·exact GF (fun a ha=>hD a (List.mem_of_mem_erase ha)) hR hq'
  ·split
   ·refine GF hD (fun a ha=>?_) hq'
    rcases Xm.1 ha with ha|ha
    ·exact hR a ha
    ·rw [Xr.1 ha];exact hq q om (by simp only [Yx];omega)
   ·exact GF hD hR hq'
theorem Z4l {m q:Nat} {xs:List Z5} {x:Int} {fs:LI} (h:W7 ds nf m xs) (hx:0<=x/\x<m) (hq:q+fs.length<=m):W7 ds nf m (Qz xs x fs q)/\Yt (Qz xs x fs q)=Yt xs:=by
 rw [Qz]
 split
 ·obtain ⟨h1,h2,h3⟩:=RY h
  have hp:(∀a∈(KN xs x fs q).1,0<=a/\a<(m:Int))/\∀a∈(KN xs x fs q).2,0<=a/\a<(m:Int):=by
   rw [KN]
   refine GF (P:=fun a=>0<=a/\a<(m:Int)) (Fm (P:=fun a=>0<=a/\a<(m:Int)) h1) (fun a ha=>Fm (P:=fun a=>0<=a/\a<(m:Int)) h1 a (List.mem_of_mem_erase ha)) (fun a ha hb=>by omega)
  obtain ⟨a1,a2⟩:=FL (ds:=ds) (nf:=nf) (op:=14) om hp.1
  obtain ⟨b1,b2⟩:=FL (ds:=ds) (nf:=nf) (op:=16) (m:=m) (vs:=[x]) om (fun v hv=>by rw [Xr.1 hv];exact hx)
  obtain ⟨c1,c2⟩:=FL (ds:=ds) (nf:=nf) (op:=15) om hp.2
  have b1:W7 ds nf m [Zx 16 x]:=b1
  have b2:Yt [Zx 16 x]=0:=b2
  refine ⟨?_,by rw [UX,UX,UX,a2,b2,c2,h3];omega⟩
  simp only [A0,UX,a2,b2,c2,BQ]
  exact ⟨⟨⟨a1,b1⟩,c1⟩,h2⟩
 ·exact ⟨h,rfl⟩
theorem Z4e {m q:Nat} {b:Z7} {x:Int} {fs:LI} (h:fB ds nf m b) (hx:0<=x/\x<m) (hq:q+fs.length<=m):fB ds nf m (QY b x fs q):=by
 rw [Kz] at h
 obtain ⟨h1,h2⟩:=Z4l h.1 hx hq
 rw [QY,Kz]
 refine ⟨h1,h.2.1,?_⟩
 show b.result<((m+Yt (Qz b.steps x fs q):Nat):Int)
 rw [h2];exact h.2.2
theorem Se {m:Nat}:∀{xs:List Z5} {m:Nat},Yt (VO ds m xs)=Yt xs
 | [],_=>rfl
 | s::r,m=>by
  rw [VO,Yt,Yt,Se (m:=0) (xs:=r)]
  rw [show (Ki ds m s).op=s.op from by rw [EW];rfl]
theorem Z4t {num:Int} {k:Nat} (h:k<(ZX ds num).length):(Ww ds num k).length=(ZQ ds (gI (ZX ds num) k)).length:=by
 obtain ⟨x,hx⟩:=AH (xs:=ZX ds num) (j:=k) h
 rw [Ww,J1,hx,T5 (i:=(k:Int)) (by simpa using hx)];rfl
mutual
theorem Z4k:∀(s:Z5) {m:Nat},fS ds nf m s->fS ds nf m (Ki ds m s)
 | .mk op num into args kids,m,h=>by
  rw [fS] at h
  obtain ⟨h1,h2,h3,h4,h5,h6,h7,h8,h9,h10,h11,h12⟩:=h
  rw [Ki,fS]
  refine ⟨h1,h2,fun ho=>?_,fun ho=>by rw [H3];exact h4 ho,fun ho=>by rw [H3];exact h5 ho,h6,h7,h8,h9,h10,fun ho=>?_,?_⟩
  ·obtain ⟨a1,a2,a3,a4⟩:=h3 ho
   exact ⟨a1,a2,by rw [a3];rfl,a4⟩
  ·rw [h11 ho];rfl
  ·refine NG kids h12 (fun ho=>?_) (fun ho=>?_)
   ·obtain ⟨a,ha⟩:=h6 (.inr ho)
    rw [ha];exact h2 a (by rw [ha];exact Xr.2 rfl)
   ·rw [h5 ho];omega
theorem NG:∀(bs:List Z7) {m:Nat} {op num:Int} {args:LI} {k:Nat},VW ds nf (WQ ds op num m) k bs->(op=8->0<=gI args 0/\gI args 0<m)->(op=8->k+bs.length<=(ZX ds num).length)->VW ds nf (WQ ds op num m) k (UD ds m op num args bs k)
 | [],_,_,_,_,_,_,_,_=>True.intro
 | b::r,m,op,num,args,k,h,hx,hl=>by
  rw [UD]
  refine ⟨?_,NG r h.2 hx fun ho=>by have:=hl ho;rw [Yx] at this;omega⟩
  by_cases ho:op=8
  ·have hk:=Z4t (ds:=ds) (num:=num) (k:=k) (by have:=hl ho;rw [Yx] at this;omega)
   have hsc:WQ ds op num m k=m+(Ww ds num k).length:=by rw [WQ,Zl ho,hk]
   rw [Zl ho]
   have h1:=h.1
   rw [hsc] at h1 ⊢
   have Z4:=hx ho
   exact Z4e (Il b h1) om (X9 _)
  ·have hsc:WQ ds op num m k=m:=by rw [WQ,Zd ho]
   rw [Zd ho]
   have h1:=h.1
   rw [hsc] at h1 ⊢
   exact Il b h1
theorem NK:∀(xs:List Z5) {m:Nat},W7 ds nf m xs->W7 ds nf m (VO ds m xs)
 | [],_,_=>True.intro
 | s::r,m,h=>by
  rw [VO,W7,show (Ki ds m s).op=s.op from by rw [EW];rfl]
  exact ⟨Z4k s h.1,NK r h.2⟩
theorem Il:∀(b:Z7) {m:Nat},fB ds nf m b->fB ds nf m (WO ds m b)
 | .mk steps result,m,h=>by
  rw [fB] at h
  rw [WO,fB,Se (m:=0)]
  exact ⟨NK steps h.1,h.2⟩
end
theorem I3:∀{xs:List Z5} {i:Nat} {s t:Z5},xs[i]? = some s->YN t.op=YN s.op->Yt (xs.set i t)=Yt xs
 | [],i,s,t,h,_=>by simp at h
 | x::r,0,s,t,h,hc=>by simp at h;subst h;rw [List.set_cons_zero,Yt,Yt,hc]
 | x::r,i+1,s,t,h,hc=>by rw [List.set_cons_succ,Yt,Yt,I3 (xs:=r) (by simpa using h) hc]
theorem In:∀{xs:List Z5} {i m:Nat} {s t:Z5},W7 ds nf m xs->xs[i]? = some s->YN t.op=YN s.op->fS ds nf (m+Yt (xs.take i)) t->W7 ds nf m (xs.set i t)
 | [],i,m,s,t,_,h,_,_=>by simp at h
 | x::r,0,m,s,t,h,hs,hc,ht=>by
  simp at hs;subst hs
  rw [List.set_cons_zero,W7,hc]
  exact ⟨by simpa [Yt] using ht,h.2⟩
 | x::r,i+1,m,s,t,h,hs,hc,ht=>by
  rw [List.set_cons_succ,W7]
  refine ⟨h.1,In h.2 (by simpa using hs) hc ?_⟩
  rw [Ai,Yt] at ht
  by_cases hx:YN x.op=true
  ·rw [Zl hx] at ht ⊢;rw [Wk] at ht;exact ht
  ·rw [Zd hx] at ht ⊢;rw [<-Aj] at ht;exact ht
theorem Z4m {m:Nat} {xs:List Z5} {x:Int} {many:Nat} (h:W7 ds nf m xs) (hx:0<=x/\x<m):W7 ds nf m (Vz xs x many)/\Yt (Vz xs x many)=Yt xs:=by
 rw [Vz]
 split
 ·exact ⟨h,rfl⟩
 ·rename_i hq
  obtain ⟨_,_,t,h5,h7,h6⟩:=JS (fun z=>hq (.inr z))
  obtain ⟨_,_,s,h8,h9,h10⟩:=Dx (fun z=>hq (.inl z))
  have Z9:YN (Zx 17 x).op=YN s.op:=by rw [h9];rfl
  have k1:=In (t:=Zx 17 x) h h8 Z9 (Im om om)
  have k2:=I3 (t:=Zx 17 x) h8 Z9
  have k3:=ER hq (t:=Zx 17 x) h5
  have k4:=(AE t).1 (Da k1 k3)
  have Zh:YN (Q6 (1+x) t).op=YN t.op:=rfl
  rw [h6]
  have ho:t.op=6:=h7.1.1
  refine ⟨In k1 k3 Zh ((AE _).2 ⟨k4.op,k4.args,fun z=>?_,k4.k7,k4.k8,k4.one,k4.call,k4.num,?_,k4.alen,k4.kn,k4.kids⟩),by rw [I3 k3 Zh,k2]⟩
  ·have z:14<=t.op:=z;omega
  ·show 0<=1+x/\1+x<=((m+_:Nat):Int);omega
theorem Z4g {m:Nat} {b:Z7} {x:Int} {many:Nat} (h:fB ds nf m b) (hx:0<=x/\x<m):fB ds nf m (VH b x many):=by
 rw [Kz] at h
 obtain ⟨h1,h2⟩:=Z4m (many:=many) h.1 hx
 rw [VH,Kz]
 refine ⟨h1,h.2.1,?_⟩
 show b.result<((m+Yt (Vz b.steps x many):Nat):Int)
 rw [h2];exact h.2.2
theorem Io {K:LI} {op num:Int} {args:LI}:∀{bs:List Z7} {k:Nat},(VN ds K op num args bs k).length=bs.length
 | [],_=>rfl
 | b::r,k=>by rw [VN,Yx,Yx,Io (bs:=r)]
theorem RQ {K:LI}:∀{xs:List Z5},Yt (VY ds K xs)=Yt xs
 | []=>rfl
 | s::r=>by rw [VY,Yt,Yt,RQ (xs:=r),show (Ta ds K s).op=s.op from by rw [Aa];rfl]
mutual
theorem Z4j:∀(s:Z5) {m:Nat} {K:LI},fS ds nf m s->fS ds nf m (Ta ds K s)
 | .mk op num into args kids,m,K,h=>by
  rw [fS] at h
  obtain ⟨h1,h2,h3,h4,h5,h6,h7,h8,h9,h10,h11,h12⟩:=h
  rw [Ta,fS]
  refine ⟨h1,h2,fun ho=>?_,fun ho=>by rw [Io];exact h4 ho,fun ho=>by rw [Io];exact h5 ho,h6,h7,h8,h9,h10,fun ho=>?_,?_⟩
  ·obtain ⟨a1,a2,a3,a4⟩:=h3 ho
   exact ⟨a1,a2,by rw [a3];rfl,a4⟩
  ·rw [h11 ho];rfl
  ·refine NE kids h12 (fun ho=>?_)
   obtain ⟨a,ha⟩:=h6 (.inr ho)
   rw [ha];exact h2 a (by rw [ha];exact Xr.2 rfl)
theorem NE:∀(bs:List Z7) {m:Nat} {K:LI} {op num:Int} {args:LI} {k:Nat},VW ds nf (WQ ds op num m) k bs->(op=8->0<=gI args 0/\gI args 0<m)->VW ds nf (WQ ds op num m) k (VN ds K op num args bs k)
 | [],_,_,_,_,_,_,_,_=>True.intro
 | b::r,m,K,op,num,args,k,h,hx=>by
  rw [VN]
  refine ⟨?_,NE r h.2 hx⟩
  split
  ·rename_i ho
   have Z4:=hx ho.1
   refine Z4g (Ik b h.1) ?_
   rw [WQ];split<;>omega
  ·exact Ik b h.1
theorem NJ:∀(xs:List Z5) {m:Nat} {K:LI},W7 ds nf m xs->W7 ds nf m (VY ds K xs)
 | [],_,_,_=>True.intro
 | s::r,m,K,h=>by
  rw [VY,W7,show (Ta ds K s).op=s.op from by rw [Aa];rfl]
  exact ⟨Z4j s h.1,NJ r h.2⟩
theorem Ik:∀(b:Z7) {m:Nat} {K:LI},fB ds nf m b->fB ds nf m (Ws ds K b)
 | .mk steps result,m,K,h=>by
  rw [fB] at h
  rw [Ws,fB,RQ]
  exact ⟨NJ steps h.1,h.2⟩
end
theorem NI {m:Nat} {xs:List Z5} {i:Nat} {op v:Int} (h:W7 ds nf m xs) (ho:14<=op/\op<=17) (hv:0<=v/\v<((m+Yt (xs.take i):Nat):Int)):W7 ds nf m (WH xs i (Zx op v))/\Yt (WH xs i (Zx op v))=Yt xs:=by
 have e:=Tu i xs
 have h0:W7 ds nf m (xs.take i++xs.drop i):=by rw [e];exact h
 rw [A0] at h0
 have hc:YN (Zx op v).op=true:=decide_eq_true ho
 have hd:Yt [Zx op v]=0:=by rw [Yt,Zl hc];rfl
 have e2:=Yj Yt e
 rw [UX] at e2
 rw [WH]
 refine ⟨?_,by rw [UX,UX,hd];omega⟩
 rw [A0,A0,UX,hd]
 exact ⟨⟨h0.1,Im ho hv,True.intro⟩,h0.2⟩
theorem Z4f {m:Nat} {b:Z7} {i j:Nat} {v:Int} (h:fB ds nf m b) (hij:i<=j) (hj:j<=b.steps.length) (hv:0<=v/\v<((m+Yt (b.steps.take i):Nat):Int)):fB ds nf m (AK b i j v):=by
 rw [Kz] at h
 have hm:Yt (b.steps.take i)<=Yt (b.steps.take j):=by
  have e:=Yj Yt (Tu i (b.steps.take j))
  rw [UX,List.take_take,VQ hij] at e;omega
 obtain ⟨h1,h2⟩:=NI (op:=15) (i:=j) (v:=v) h.1 om om
 obtain ⟨h3,h4⟩:=NI (op:=14) (i:=i) (v:=v) h1 om (by rw [R5 hij hj];exact hv)
 rw [AK,Kz]
 refine ⟨h3,h.2.1,?_⟩
 show b.result<((m+Yt (WH (WH b.steps j (Zx 15 v)) i (Zx 14 v)):Nat):Int)
 rw [h4,h2];exact h.2.2
end
theorem FN.sp {n:ZF} {q q2:Nat} (h:FN n q) (hz:ZN (CD n) q2):FN (CD n) q2:=by
 refine ⟨h.decls,hz.len,fun r hr=>?_,fun r hr=>?_,fun r hr=>⟨?_,(hz.rt r hr).body⟩⟩
 ·obtain ⟨s,hs,rfl⟩:=XN.1 hr;exact h.sigs s hs
 ·obtain ⟨s,hs,rfl⟩:=XN.1 hr;exact h.lent s hs
 ·obtain ⟨s,hs,rfl⟩:=XN.1 hr
  have e:(CD n).routines.length=n.routines.length:=J2 ..
  rw [e]
  exact Il _ (h.body s hs).1
theorem FN.ru {n:ZF} {q q2:Nat} (h:FN n q) (hz:ZN (CC n) q2):FN (CC n) q2:=by
 refine ⟨h.decls,hz.len,fun r hr=>?_,fun r hr=>?_,fun r hr=>⟨?_,(hz.rt r hr).body⟩⟩
 ·obtain ⟨s,hs,rfl⟩:=XN.1 hr;exact h.sigs s hs
 ·obtain ⟨s,hs,rfl⟩:=XN.1 hr;exact h.lent s hs
 ·obtain ⟨s,hs,rfl⟩:=XN.1 hr
  have e:(CC n).routines.length=n.routines.length:=J2 ..
  rw [e]
  exact Ik _ (h.body s hs).1
theorem FN.le {n:ZF} {q q2:Nat} (h:FN n q) (hq:q<=q2):FN n q2:=⟨h.decls,h.len,h.sigs,h.lent,fun r hr=>⟨(h.body r hr).1,Vb (h.body r hr).2 hq⟩⟩
theorem FN.held {n n2:ZF} {q q2:Nat} (h:FN n q) (hh:Fg n n2) (hz:ZN n2 q2):FN n2 q2:=by
 rcases hh with rfl|⟨f,rt,i,j,v,h1,h2,h3,h4,h5,rfl⟩
 ·exact ⟨h.decls,h.len,h.sigs,h.lent,fun r hr=>⟨(h.body r hr).1,(hz.rt r hr).body⟩⟩
 ·have hm:=Y4 h1
  have hl:(withR n f rt (AK rt.body i j v)).routines.length=n.routines.length:=VJ ..
  refine ⟨h.decls,hz.len,fun r hr=>?_,fun r hr=>?_,fun r hr=>⟨?_,(hz.rt r hr).body⟩⟩
  ·rcases List.mem_or_eq_of_mem_set hr with hr|rfl
   ·exact h.sigs r hr
   ·exact h.sigs rt hm
  ·rcases List.mem_or_eq_of_mem_set hr with hr|rfl
   ·exact h.lent r hr
   ·exact h.lent rt hm
  ·rw [hl]
   rcases List.mem_or_eq_of_mem_set hr with hr|rfl
   ·exact (h.body r hr).1
   ·exact Z4f (h.body rt hm).1 h2 h3 ⟨h4,h5⟩
abbrev Mem:=Nat->Nat->Option Value
abbrev BR:=Nat × Nat
def upd (m:Mem) (a:BR) (z:Int):Mem:=fun g o=>if g=a.1/\o=a.2 then some (.int .i64 z) else m g o
def wr (m:Mem):List BR->Int->Mem
 | [],_=>m
 | a::r,k=>wr (upd m a k) r (k+1)
def G5 (m:Mem):List BR->Int->Prop
 | [],_=>True
 | a::r,k=>m a.1 a.2=some (.int .i64 k)/\G5 m r (k+1)
def OU (m:Mem) (a:BR):Prop:=∃z,m a.1 a.2=some (.int .i64 z)
structure Kp (m m':Mem):Prop where
 i:∀{a:BR},OU m a->OU m' a
 h:∀{g o:Nat} {v:Value},m g o=some v->(∀z,v≠.int .i64 z)->m' g o=some v
section
variable {P:Program} {n:Nat} {ops:Array Oper} {B:Fr->List Res->Prop} {k:Nat} {F:Fr} {h h2:List Res}
end
section
variable {m m':Mem} {B:List Nat}
end
section
variable {m:Mem} {B:List Nat} {g:Nat}
end
section
variable {m:Mem} {B:List Nat}
end
def Zn (g lo hi:Nat) (X:List Nat) (a:BR):Prop:=(a.1=g/\lo<=a.2/\a.2<hi)∨a.1∈X
structure Nd (g lo hi:Nat) (X:List Nat) (as1:List BR):Prop where
 nd:(X.Nodup/\g∉X)->as1.Nodup
 zn:∀a∈as1,Zn g lo hi X a
section
variable {m:Mem} {B:List Nat}
end
section
variable {n:ZF} {ln:LI} {L:ZO}
end
structure CR (L:ZO) (cons first:LI):Prop where
 cl:cons.length=L.vars.length
 fl:first.length=L.vars.length
 eq:∀v:Int,0<=v->v<L.vars.length->0<=gI L.con v->gI cons v=gI L.con v/\gI first v=gI L.fst v

section
variable {N:Mem} {g o:Nat} {z:Int}
end


structure Instr where
 op:Int
 dst:Int
 num:Int
 into:Int
 args:LI
 jumps:LI
structure ZZ where
 params:LI
 lent:LI
 result:Int
 regs:Int
 code:List Instr
structure YG where
 decls:List Ze
 procs:List ZZ
abbrev VF (x:Instr):List AV:=[.i x.op,.i x.dst,.i x.num,.i x.into,Z3 x.args,Z3 x.jumps]
abbrev TE (x:Instr):AV:=.agg (VF x)
def Y9 (xs:List Instr):List AV:=xs.map TE
abbrev KM (xs:List Instr):AV:=.sl (Y9 xs) none
abbrev Lq (xs:List Instr) (v:Value):AV:=.sl (Y9 xs) (some v)
abbrev UO (x:ZZ):List AV:=[Z3 x.params,Z3 x.lent,.i x.result,.i x.regs,KM x.code]
abbrev BV (x:ZZ):AV:=.agg (UO x)
def Wp (xs:List ZZ):List AV:=xs.map BV
abbrev Lo (xs:List ZZ):AV:=.sl (Wp xs) none
abbrev Ud (xs:List ZZ) (v:Value):AV:=.sl (Wp xs) (some v)
abbrev V4 (x:YG):List AV:=[Yd x.decls,Lo x.procs]
abbrev V0 (x:YG):AV:=.agg (V4 x)
structure Z0k where
 op:Int
 dst:Int
 num:Int
 into:Int
 args:LI
 av:Value
 jumps:LI
 jv:Value
structure Z0m where
 params:LI
 pv:Value
 lent:LI
 lv:Value
 result:Int
 regs:Int
 code:List Z0k
 cv:Value
structure Zgp where
 decls:List Mv
 dv:Value
 procs:List Z0m
 pv:Value
theorem Ja {xs:List Instr} {j:Nat} {x:Instr} (h:xs[j]? = some x):(Y9 xs)[j]? = some (TE x):=by simp [Y9,h]
@[simp] theorem QD (xs:List Instr):(Y9 xs).length=xs.length:=by simp [Y9]
theorem Cb (xs ys:List Instr):Y9 (xs++ys)=Y9 xs++Y9 ys:=by simp [Y9]
theorem Ay (xs:List Instr):∀y∈Y9 xs,y.leaves.length=6:=by intro y hy;simp only [Y9,XN] at hy;obtain ⟨x,_,rfl⟩:=hy;rfl
theorem FH (xs:List Instr):(Zg (Y9 xs)).all AV.one=true:=KC fun y hy=>by simp only [Y9,XN] at hy;obtain ⟨x,_,rfl⟩:=hy;rfl
theorem Tx (xs:List Instr):(Zg (Y9 xs)).length=xs.length*6:=by rw [Ty _ (Ay _)];simp
theorem Z5j (xs:List Instr) (x:Instr):Zg (Y9 xs)++Zg (Y9 [x])=Zg (Y9 (xs++[x])):=by rw [Cb,KA]
theorem O0 {xs:List Instr} {i:Nat} {s:Instr} (h:xs[i]? = some s):Zg (Y9 xs)=Zg (Y9 (xs.take i))++(VF s++Zg (Y9 (xs.drop (i+1)))):=by
 have hk:=(Xc.1 h).1
 have hd:xs.drop i=s::xs.drop (i+1):=by
  rw [Mp hk]
  congr 1
  rw [CJ hk] at h
  exact Ko h
 have e:xs=xs.take i++(s::xs.drop (i+1)):=by rw [<-hd,Tu]
 conv=>lhs;rw [e,Cb,KA]
 rfl
theorem Iu {xs:List Instr} {i:Nat} {s:Instr} (h:xs[i]? = some s):((Zg (Y9 xs)).drop (i*6)).take (VF s).length=VF s:=by
 have hi:=(Xc.1 h).1
 have hl:(Zg (Y9 (xs.take i))).length=i*6:=by rw [Tx,Wh,VQ om]
 rw [O0 h]
 exact RC hl
theorem FW {xs:List Instr} {i:Nat} {s t:Instr} (h:xs[i]? = some s):(Zg (Y9 xs)).take (i*6)++VF t++(Zg (Y9 xs)).drop (i*6+(VF t).length)=Zg (Y9 (xs.set i t)):=by
 have hi:=(Xc.1 h).1
 have hl:(Zg (Y9 (xs.take i))).length=i*6:=by rw [Tx,Wh,VQ om]
 rw [O0 h,LK (xs:=VF s) (ys:=VF t) hl rfl]
 have e:xs.set i t=xs.take i++(t::xs.drop (i+1)):=by rw [Ht,Zl hi]
 rw [e,Cb,KA]
 rfl
theorem Ky {xs:List ZZ} {j:Nat} {x:ZZ} (h:xs[j]? = some x):(Wp xs)[j]? = some (BV x):=by simp [Wp,h]
@[simp] theorem JY (xs:List ZZ):(Wp xs).length=xs.length:=by simp [Wp]
theorem Z40 (xs ys:List ZZ):Wp (xs++ys)=Wp xs++Wp ys:=by simp [Wp]
theorem Jd (xs:List ZZ):∀y∈Wp xs,y.leaves.length=5:=by intro y hy;simp only [Wp,XN] at hy;obtain ⟨x,_,rfl⟩:=hy;rfl
theorem Np (xs:List ZZ):(Zg (Wp xs)).all AV.one=true:=KC fun y hy=>by simp only [Wp,XN] at hy;obtain ⟨x,_,rfl⟩:=hy;rfl
def XK (op dst num into:Int) (args:LI):Instr:=⟨op,dst,num,into,args,[]⟩
def Instr.goto (x:Instr) (v:Int):Instr:=⟨x.op,x.dst,v,x.into,x.args,x.jumps⟩
def Instr.fan (x:Instr) (js:LI):Instr:=⟨x.op,x.dst,x.num,x.into,x.args,js⟩
def VA (c:List Instr) (i:Nat):List Instr:=match c[i]? with
 | none=>c
 | some x=>c.set i (x.goto c.length)
def Q0 (c:List Instr) (i:Nat) (js:LI):List Instr:=match c[i]? with
 | none=>c
 | some x=>c.set i (x.fan js)
def TF (c:List Instr):List Nat->List Instr
 | []=>c
 | i::r=>TF (VA c i) r
structure An (E:Type) where
 res:E->Int->LI
 len:E->Nat
 nxt:E->E
 arm:E->Int->Int->Nat->E
def WC (m many:Nat) (x:Int):List Instr:=(List.range many).map fun i=>XK 19 ((m+i:Nat):Int) (i:Int) 0 [x]
def E0 (r:List Z7) (c:List Instr):List Instr:=match r with|[]=>c|_::_=>c++[XK 22 0 0 0 []]
def MG (r:List Z7) (es:List Nat) (l:Nat):List Nat:=match r with|[]=>es|_::_=>es++[l+1]
section
variable {E:Type} (X:An E) (ds:List Ze)
mutual
def VX (e:E):Z5->List Instr->List Instr
 | .mk op num into args kids,c=>
  if op=7 then Qh e args kids c
  else if op=8 then U4 e num (gI args 0) c.length kids 0 (c++[XK 21 0 num 0 args]) [] []
  else if op=14∨op=15 then c++[XK op 0 0 0 args]
  else if op=16∨op=17 then c++[XK op 0 0 0 (args++X.res e (gI args 0))]
  else c++[XK op (X.len e) num into args]
def Qh (e:E) (args:LI):List Z7->List Instr->List Instr
 | b::r,c=>QF e (c.length) r (flB e b (c++[XK 20 0 0 0 args])++[XK 18 (X.len e) 0 0 [b.result]])
 | [],c=>c
def QF (e:E) (at_:Nat):List Z7->List Instr->List Instr
 | b::_,c=>VA (flB e b (VA (c++[XK 22 0 0 0 []]) at_)++[XK 18 (X.len e) 0 0 [b.result]]) c.length
 | [],c=>c
def U4 (e:E) (num x:Int) (at_:Nat):List Z7->Nat->List Instr->LI->List Nat->List Instr
 | [],_,c,ts,es=>TF (Q0 c at_ ts) es
 | b::r,k,c,ts,es=>
  U4 e num x at_ r (k+1) (E0 r (flB (X.arm e x num k) b (c++WC (X.len e) (Ww ds num k).length x)++[XK 18 (X.len e) 0 0 [b.result]])) (ts++[(c.length:Int)])
   (MG r es (flB (X.arm e x num k) b (c++WC (X.len e) (Ww ds num k).length x)).length)
def Uu (e:E):List Z5->List Instr->List Instr
 | [],c=>c
 | s::r,c=>Uu (if YN s.op=true then e else X.nxt e) r (VX e s c)
def flB (e:E):Z7->List Instr->List Instr
 | .mk steps _,c=>Uu e steps c
end
end
def XM (ds:List Ze):An (LI × LI):=
 ⟨fun e x=>Ux (ZQ ds (gI e.1 x)) (gI e.2 x),fun e=>e.1.length,fun e=>(e.1++[0],e.2++[0]),
 fun e x num k=>(e.1.set x.toNat (C2 ds num k)++XF (ZQ ds (C2 ds num k)).length,e.2.set x.toNat e.1.length++XF (ZQ ds (C2 ds num k)).length)⟩
section
variable {ds:List Ze}
end
theorem Bd (c:List Instr) (i:Nat):(VA c i).length=c.length:=by rw [VA];split<;>simp
theorem Cg (c:List Instr) (i:Nat) (js:LI):(Q0 c i js).length=c.length:=by rw [Q0];split<;>simp
theorem MD:∀(es:List Nat) (c:List Instr),(TF c es).length=c.length
 | [],_=>rfl
 | i::r,c=>by rw [TF,MD r,Bd]
theorem S5 {c t:List Instr} {i:Nat} {x:Instr} (h:c.length<=i):(c++t).set i x=c++t.set (i-c.length) x:=List.set_append_right _ _ h
theorem HK {c t:List Instr} {i:Nat} (h:c.length<=i):∃t',VA (c++t) i=c++t'/\t'.length=t.length:=by
 rw [VA]
 split
 ·exact ⟨t,rfl,rfl⟩
 ·exact ⟨_,S5 h,by simp⟩
theorem Z4q {c t:List Instr} {i:Nat} {js:LI} (h:c.length<=i):∃t',Q0 (c++t) i js=c++t'/\t'.length=t.length:=by
 rw [Q0]
 split
 ·exact ⟨t,rfl,rfl⟩
 ·exact ⟨_,S5 h,by simp⟩
theorem MC {c:List Instr}:∀{es:List Nat} {t:List Instr},(∀i∈es,c.length<=i)->∃t',TF (c++t) es=c++t'/\t'.length=t.length
 | [],t,_=>⟨t,rfl,rfl⟩
 | i::r,t,h=>by
  obtain ⟨t1,e1,l1⟩:=HK (t:=t) (h i (Xp ..))
  obtain ⟨t2,e2,l2⟩:=MC (es:=r) (t:=t1) fun j hj=>h j (XG _ hj)
  exact ⟨t2,by rw [TF,e1,e2],by rw [l2,l1]⟩
theorem Z1o (r:List Z7) (c:List Instr):∃t,E0 r c=c++t:=by
 cases r with
 | nil=>exact ⟨[],by rw [JC];rfl⟩
 | cons _ _=>exact ⟨_,rfl⟩
section
variable {E:Type} (X:An E) (ds:List Ze)
mutual
theorem Z5e:∀(s:Z5) (e:E) (c:List Instr),∃t,VX X ds e s c=c++t
 | .mk op num into args kids,e,c=>by
  rw [VX]
  split
  ·exact Z56 kids e c
  split
  ·obtain ⟨t,h⟩:=NS kids e 0 c [XK 21 0 num 0 args] [] [] (X9 _) (fun i hi=>by cases hi) (num:=num) (x:=gI args 0)
   exact ⟨t,h⟩
  split
  ·exact ⟨_,rfl⟩
  split
  ·exact ⟨_,rfl⟩
  ·exact ⟨_,rfl⟩
theorem Z56:∀(bs:List Z7) (e:E) (c:List Instr) {args:LI},∃t,Qh X ds e args bs c=c++t
 | [],e,c,_=>⟨[],by rw [Qh,JC]⟩
 | b::r,e,c,args=>by
  rw [Qh]
  obtain ⟨t,h⟩:=Ef b e (c++[XK 20 0 0 0 args])
  rw [h,VP,VP]
  exact Z52 r e c _ (X9 _)
theorem Z52:∀(bs:List Z7) (e:E) (c t0:List Instr) {a:Nat},c.length<=a->∃t,QF X ds e a bs (c++t0)=c++t
 | [],e,c,t0,_,_=>⟨t0,by rw [QF]⟩
 | b::r,e,c,t0,a,ha=>by
  rw [QF,VP]
  obtain ⟨t1,h1,_⟩:=HK (t:=t0++[XK 22 0 0 0 []]) ha
  rw [h1]
  obtain ⟨t2,h2⟩:=Ef b e (c++t1)
  rw [h2,VP,VP]
  obtain ⟨t3,h3,_⟩:=HK (c:=c) (t:=t1++(t2++[XK 18 (X.len e) 0 0 [b.result]])) (i:=(c++t0).length) (by rw [Ys];exact Nat.le_add_right _ _)
  exact ⟨t3,h3⟩
theorem NS:∀(bs:List Z7) (e:E) (k:Nat) (c t0:List Instr) (ts:LI) (es:List Nat) {num x:Int} {a:Nat},c.length<=a->(∀i∈es,c.length<=i)->∃t,U4 X ds e num x a bs k (c++t0) ts es=c++t
 | [],e,k,c,t0,ts,es,num,x,a,ha,he=>by
  rw [U4]
  obtain ⟨t1,h1,_⟩:=Z4q (t:=t0) (js:=ts) ha
  obtain ⟨t2,h2,_⟩:=MC (t:=t1) he
  exact ⟨t2,by rw [h1,h2]⟩
 | b::r,e,k,c,t0,ts,es,num,x,a,ha,he=>by
  rw [U4]
  obtain ⟨t1,h1⟩:=Ef b (X.arm e x num k) ((c++t0)++WC (X.len e) (Ww ds num k).length x)
  rw [h1]
  obtain ⟨t2,h2⟩:=Z1o r ((((c++t0)++WC (X.len e) (Ww ds num k).length x)++t1)++[XK 18 (X.len e) 0 0 [b.result]])
  rw [h2,VP,VP,VP,VP]
  refine NS r e (k+1) c _ _ _ ha fun i hi=>?_
  cases r with
  | nil=>exact he i hi
  | cons _ _=>
   rcases Xm.1 hi with hi|hi
   ·exact he i hi
   ·rw [Xr.1 hi]
    simp only [Ys]
    omega
theorem NX:∀(xs:List Z5) (e:E) (c:List Instr),∃t,Uu X ds e xs c=c++t
 | [],e,c=>⟨[],by rw [Uu,JC]⟩
 | s::r,e,c=>by
  obtain ⟨t1,h1⟩:=Z5e s e c
  obtain ⟨t2,h2⟩:=NX r (if YN s.op=true then e else X.nxt e) (c++t1)
  exact ⟨t1++t2,by rw [Uu,h1,h2,VP]⟩
theorem Ef:∀(b:Z7) (e:E) (c:List Instr),∃t,flB X ds e b c=c++t
 | .mk steps result,e,c=>by rw [flB];exact NX steps e c
end
theorem Z4y {b:Z7} {e:E} {c:List Instr} {i:Nat} (h:i<c.length):(flB X ds e b c)[i]? = c[i]?:=by
 obtain ⟨t,ht⟩:=Ef X ds b e c
 rw [ht,Ah h]
variable {ds} (hd:Xy ds)
include hd
mutual
theorem NU:∀(s:Z5) (e:E) (c:List Instr),(VX X ds e s c).length<=c.length+16*s.sz
 | .mk op num into args kids,e,c=>by
  rw [VX,Z5.sz]
  split
  ·have:=Z55 kids e c (args:=args);omega
  split
  ·have:=NR kids e 0 (c++[XK 21 0 num 0 args]) [] [] (num:=num) (x:=gI args 0) (a:=c.length)
   simp only [Ys,Yx,X7] at this
   omega
  split
  ·simp;omega
  split
  ·simp;omega
  ·simp;omega
theorem Z55:∀(bs:List Z7) (e:E) (c:List Instr) {args:LI},(Qh X ds e args bs c).length<=c.length+16*YW bs+3
 | [],e,c,_=>by rw [Qh];omega
 | b::r,e,c,args=>by
  have h1:=Bk b e (c++[XK 20 0 0 0 args])
  have h2:=Z51 r e (flB X ds e b (c++[XK 20 0 0 0 args])++[XK 18 (X.len e) 0 0 [b.result]]) (a:=c.length)
  rw [Qh,YW]
  simp only [Ys,Yx,X7] at h1 h2
  omega
theorem Z51:∀(bs:List Z7) (e:E) (c:List Instr) {a:Nat},(QF X ds e a bs c).length<=c.length+16*YW bs+1
 | [],e,c,_=>by rw [QF];omega
 | b::r,e,c,a=>by
  have h1:=Bk b e (VA (c++[XK 22 0 0 0 []]) a)
  rw [QF,Bd,YW]
  rw [Bd] at h1
  simp only [Ys,Yx,X7] at h1 ⊢
  omega
theorem NR:∀(bs:List Z7) (e:E) (k:Nat) (c:List Instr) (ts:LI) (es:List Nat) {num x:Int} {a:Nat},(U4 X ds e num x a bs k c ts es).length<=c.length+16*YW bs
 | [],e,k,c,ts,es,num,x,a=>by rw [U4,MD,Cg];simp [YW]
 | b::r,e,k,c,ts,es,num,x,a=>by
  have h1:=Bk b (X.arm e x num k) (c++WC (X.len e) (Ww ds num k).length x)
  have h2:=NR r e (k+1) (E0 r (flB X ds (X.arm e x num k) b (c++WC (X.len e) (Ww ds num k).length x)++[XK 18 (X.len e) 0 0 [b.result]])) (ts++[(c.length:Int)])
   (MG r es (flB X ds (X.arm e x num k) b (c++WC (X.len e) (Ww ds num k).length x)).length) (num:=num) (x:=x) (a:=a)
  have h3:∀c':List Instr,(E0 r c').length<=c'.length+1:=fun c'=>by cases r with
   | nil=>exact Nat.le_succ _
   | cons _ _=>show (c'++[XK 22 0 0 0 []]).length<=_;simp
  have h4:=h3 (flB X ds (X.arm e x num k) b (c++WC (X.len e) (Ww ds num k).length x)++[XK 18 (X.len e) 0 0 [b.result]])
  have h5:=FP hd num k
  have h6:(WC (X.len e) (Ww ds num k).length x).length=(Ww ds num k).length:=by simp [WC]
  rw [U4,YW]
  simp only [Ys,Yx,X7,h6] at h1 h2 h4 ⊢
  omega
theorem NW:∀(xs:List Z5) (e:E) (c:List Instr),(Uu X ds e xs c).length<=c.length+16*Yu xs
 | [],e,c=>by rw [Uu,Yu];omega
 | s::r,e,c=>by
  have h1:=NU s e c
  have h2:=NW r (if YN s.op=true then e else X.nxt e) (VX X ds e s c)
  rw [Uu,Yu];omega
theorem Bk:∀(b:Z7) (e:E) (c:List Instr),(flB X ds e b c).length+16<=c.length+16*b.sz
 | .mk steps result,e,c=>by
  have:=NW steps e c
  rw [flB,Z7.sz];omega
end
end
def QQ (m:Int) (x:Instr):Int:=x.args.foldl (fun m a=>max m (a+1)) (max m (x.dst+1))
def Ui (m:Int) (c:List Instr):Int:=c.foldl QQ m
structure Ao (x:Instr):Prop where
 dst:0<=x.dst/\x.dst<=1000000000
 len:x.args.length<=10000200
 args:∀a∈x.args,0<=a/\a<=1000000000
 js:x.jumps.length<=300000000
def Rg (c:List Instr):Prop:=∀x∈c,Ao x
theorem Pl:∀{l:LI} {m:Int},(∀a∈l,0<=a/\a<=1000000000)->0<=m/\m<=1000000001->m<=l.foldl (fun m a=>max m (a+1)) m/\l.foldl (fun m a=>max m (a+1)) m<=1000000001
 | [],m,_,h=>⟨Int.le_refl _,h.2⟩
 | a::r,m,ha,h=>by
  have h1:=ha a (Xp ..)
  have h2:=Pl (l:=r) (m:=max m (a+1)) (fun b hb=>ha b (XG _ hb)) om
  rw [List.foldl_cons]
  omega
theorem Zbv {x:Instr} {m:Int} (hx:Ao x) (h:0<=m/\m<=1000000001):m<=QQ m x/\QQ m x<=1000000001:=by
 have h1:=hx.dst
 have h2:=Pl (m:=max m (x.dst+1)) hx.args om
 rw [QQ];omega
theorem Rk:∀{c:List Instr} {m:Int},Rg c->0<=m/\m<=1000000001->m<=Ui m c/\Ui m c<=1000000001
 | [],m,_,h=>⟨Int.le_refl _,h.2⟩
 | x::r,m,hc,h=>by
  have h1:=Zbv (hc x (Xp ..)) h
  have h2:=Rk (c:=r) (m:=QQ m x) (fun y hy=>hc y (XG _ hy)) om
  show m<=Ui (QQ m x) r/\_
  exact ⟨by omega,h2.2⟩
theorem Pm:∀(l:LI) (a m:Int),l.foldl (fun m a=>max m (a+1)) (max a m)=max a (l.foldl (fun m a=>max m (a+1)) m)
 | [],_,_=>rfl
 | x::r,a,m=>by rw [List.foldl_cons,List.foldl_cons,<-Pm r];congr 1;omega
theorem Zbw (x:Instr) (a m:Int):QQ (max a m) x=max a (QQ m x):=by
 rw [QQ,QQ,<-Pm];congr 1;omega
theorem Rl:∀(c:List Instr) (a m:Int),Ui (max a m) c=max a (Ui m c)
 | [],_,_=>rfl
 | x::r,a,m=>by
  show Ui (QQ (max a m) x) r=max a (Ui (QQ m x) r)
  rw [Zbw,Rl r]
theorem Zbx (c:List Instr) {a:Int} (h:0<=a):Ui a c=max a (Ui 0 c):=by
 rw [<-Rl];congr 1;omega
theorem Rg.nil:Rg []:=fun _ h=>by cases h
theorem Rg.app {c d:List Instr} (h1:Rg c) (h2:Rg d):Rg (c++d):=fun x hx=>(Xm.1 hx).elim (h1 x) (h2 x)
theorem Rg.one {x:Instr} (h:Ao x):Rg [x]:=fun y hy=>by rw [Xr.1 hy];exact h
theorem Rg.snoc {c:List Instr} {x:Instr} (h1:Rg c) (h2:Ao x):Rg (c++[x]):=h1.app (.one h2)
theorem Rg.set {c:List Instr} {x y:Instr} {i:Nat} (hx:c[i]? = some x) (h:Rg c) (h1:y.dst=x.dst) (h2:y.args=x.args) (h3:y.jumps.length<=300000000):Rg (c.set i y):=fun z hz=>by
 have hr:=h x (Y4 hx)
 rcases List.mem_or_eq_of_mem_set hz with hz|rfl
 ·exact h z hz
 ·exact ⟨by rw [h1];exact hr.dst,by rw [h2];exact hr.len,by rw [h2];exact hr.args,h3⟩
theorem Rg.aim {c:List Instr} (h:Rg c) (i:Nat):Rg (VA c i):=by
 rw [VA]
 split
 ·exact h
 ·rename_i x hx;exact h.set hx rfl rfl (h x (Y4 hx)).js
theorem Rg.fan {c:List Instr} (h:Rg c) (i:Nat) {js:LI} (hj:js.length<=300000000):Rg (Q0 c i js):=by
 rw [Q0]
 split
 ·exact h
 ·rename_i x hx;exact h.set hx rfl rfl hj
theorem Rg.aims:∀{es:List Nat} {c:List Instr},Rg c->Rg (TF c es)
 | [],_,h=>h
 | i::r,c,h=>by rw [TF];exact Rg.aims (h.aim i)
theorem Ao.mk' {op dst num into:Int} {args:LI} (h1:0<=dst/\dst<=1000000000) (h2:args.length<=10000200) (h3:∀a∈args,0<=a/\a<=1000000000):Ao (XK op dst num into args):=⟨h1,h2,h3,Te _⟩
mutual
def DD:Z5->Prop
 | .mk _ _ _ args kids=>(args.length<=10000100/\∀a∈args,0<=a/\a<=900000000)/\CA kids
def CA:List Z7->Prop
 | []=>True
 | b::r=>DC b/\CA r
def ES:List Z5->Prop
 | []=>True
 | s::r=>DD s/\ES r
def DC:Z7->Prop
 | .mk steps result=>ES steps/\0<=result/\result<=900000000
end
theorem Zc8 (s:Z5):DD s↔(s.args.length<=10000100/\∀a∈s.args,0<=a/\a<=900000000)/\CA s.kids:=by cases s;rw [DD];rfl
theorem GN (b:Z7):DC b↔ES b.steps/\0<=b.result/\b.result<=900000000:=by cases b;rw [DC];rfl
section
variable {n:ZF}
end
structure Mu {E:Type} (X:An E) (G:E->Nat->Prop):Prop where
 len:∀{e q},G e q->X.len e<=q
 res:∀{e q},G e q->∀x,(∀v∈X.res e x,0<=v/\v<=q+3)/\(X.res e x).length<=3
 nxt:∀{e q},G e q->G (X.nxt e) (q+1)
 up:∀{e q q'},G e q->q<=q'->G e q'
 arm:∀{e q},G e q->∀x num k,G (X.arm e x num k) (q+3)
theorem Z0q {m many:Nat} {x:Int} (hm:many<=3) (h:m<=900000000) (hx:0<=x/\x<=900000000):Rg (WC m many x):=fun y hy=>by
 rw [WC] at hy
 obtain ⟨i,hi,rfl⟩:=XN.1 hy
 have:=List.mem_range.1 hi
 exact .mk' om (by simp) fun a ha=>by rw [Xr.1 ha];omega
theorem HA {m:Nat} {r:Int} (h:m<=900000000) (hr:0<=r/\r<=900000000):Ao (XK 18 m 0 0 [r]):=.mk' om (by simp) fun a ha=>by rw [Xr.1 ha];omega
theorem Mw {op num:Int}:Ao (XK op 0 num 0 []):=.mk' om (by simp) fun a ha=>by cases ha
theorem Fh {op dst num into:Int} {args:LI} (hd:0<=dst/\dst<=900000000) (h:args.length<=10000100/\∀a∈args,0<=a/\a<=900000000):Ao (XK op dst num into args):=.mk' om om fun a ha=>by have:=h.2 a ha;omega
theorem Z0p {r:List Z7} {c:List Instr} (h:Rg c):Rg (E0 r c):=by
 cases r with
 | nil=>exact h
 | cons _ _=>exact h.snoc Mw
section
variable {E:Type} {X:An E} {ds:List Ze} {G:E->Nat->Prop} (hX:Mu X G) (hd:Xy ds)
include hX hd
mutual
theorem Z5f:∀(s:Z5) {e:E} {q:Nat} {c:List Instr},wS ds s->G e q->q+4*s.sz<=900000000->DD s->Rg c->Rg (VX X ds e s c)
 | .mk op num into args kids,e,q,c,hw,hg,hq,hs,hc=>by
  have hl:=hX.len hg
  obtain ⟨h1,h2⟩:=(Zc8 _).1 hs
  have h1':args.length<=10000100/\∀a∈args,0<=a/\a<=900000000:=h1
  rw [Z5.sz] at hq
  rw [VX]
  split
  ·exact Z57 kids hw.2.2.2 hg om h2 h1' hc
  split
  ·rename_i h8
   obtain ⟨a,ha,ha2⟩:=(hw.2.2.1 h8).1
   have hkl:=MW kids
   exact NT kids hw.2.2.2 hg om h2 (by rw [ha];exact ha2) (by rw [X7];omega) (hc.snoc (Fh om h1'))
  split
  ·exact hc.snoc (Fh om h1')
  split
  ·have h3:=hX.res hg (gI args 0)
   refine hc.snoc (.mk' om (by rw [Ys];omega) fun a ha=>?_)
   rcases Xm.1 ha with ha|ha
   ·have:=h1'.2 a ha;omega
   ·have:=h3.1 a ha;omega
  ·exact hc.snoc (Fh om h1')
theorem Z57:∀(bs:List Z7) {e:E} {q:Nat} {c:List Instr} {args:LI},KZ ds bs->G e q->q+4*YW bs<=900000000->CA bs->args.length<=10000100/\(∀a∈args,0<=a/\a<=900000000)->Rg c->Rg (Qh X ds e args bs c)
 | [],e,q,c,args,_,_,_,_,_,hc=>by rw [Qh];exact hc
 | b::r,e,q,c,args,hw,hg,hq,hs,ha,hc=>by
  rw [YW] at hq
  have hl:=hX.len hg
  rw [Qh]
  exact Z53 r hw.2 hg om hs.2 ((FU b hw.1 hg om hs.1 (hc.snoc (Fh om ha))).snoc (HA om ((GN b).1 hs.1).2))
theorem Z53:∀(bs:List Z7) {e:E} {q:Nat} {c:List Instr} {a:Nat},KZ ds bs->G e q->q+4*YW bs<=900000000->CA bs->Rg c->Rg (QF X ds e a bs c)
 | [],e,q,c,a,_,_,_,_,hc=>by rw [QF];exact hc
 | b::r,e,q,c,a,hw,hg,hq,hs,hc=>by
  rw [YW] at hq
  have hl:=hX.len hg
  rw [QF]
  exact ((FU b hw.1 hg om hs.1 ((hc.snoc Mw).aim a)).snoc (HA om ((GN b).1 hs.1).2)).aim _
theorem NT:∀(bs:List Z7) {e:E} {q:Nat} {k:Nat} {c:List Instr} {ts:LI} {es:List Nat} {num x:Int} {a:Nat},KZ ds bs->G e q->q+4*YW bs<=900000000->CA bs->0<=x/\x<=900000000->ts.length+bs.length<=300000000->Rg c->Rg (U4 X ds e num x a bs k c ts es)
 | [],e,q,k,c,ts,es,num,x,a,_,_,_,_,_,ht,hc=>by rw [U4];exact (hc.fan _ ht).aims
 | b::r,e,q,k,c,ts,es,num,x,a,hw,hg,hq,hs,hx,ht,hc=>by
  rw [Yx] at ht
  rw [YW] at hq
  have hl:=hX.len hg
  have hp:=b.sz_eq
  rw [U4]
  exact NT r hw.2 hg om hs.2 hx (by rw [Ys,B4];omega) (Z0p ((FU b hw.1 (hX.arm hg x num k) om hs.1 (hc.app (Z0q (FP hd num k) om hx))).snoc (HA om ((GN b).1 hs.1).2)))
theorem NY:∀(xs:List Z5) {e:E} {q:Nat} {c:List Instr},Qs ds xs->G e q->q+4*Yu xs<=900000000->ES xs->Rg c->Rg (Uu X ds e xs c)
 | [],e,q,c,_,_,_,_,hc=>by rw [Uu];exact hc
 | s::r,e,q,c,hw,hg,hq,hs,hc=>by
  rw [Yu] at hq
  have hp:=s.sz_pos
  rw [Uu]
  refine NY r (q:=q+1) hw.2 ?_ om hs.2 (Z5f s hw.1 hg om hs.1 hc)
  split
  ·exact hX.up hg om
  ·exact hX.nxt hg
theorem FU:∀(b:Z7) {e:E} {q:Nat} {c:List Instr},wB ds b->G e q->q+4*b.sz<=900000004->DC b->Rg c->Rg (flB X ds e b c)
 | .mk steps result,e,q,c,hw,hg,hq,hs,hc=>by
  rw [Z7.sz] at hq
  rw [flB]
  exact NY steps hw hg om hs.1 hc
end
end
theorem Zde {ds:List Ze} (hd:Xy ds):Mu (XM ds) (fun e q=>e.1.length<=q/\∀v∈e.2,0<=v/\v<=q):=by
 refine ⟨fun h=>h.1,fun {e q} h x=>?_,fun {e q} h=>⟨by simp [XM];exact h.1,fun v hv=>?_⟩,fun h hq=>⟨by have:=h.1;omega,fun v hv=>by have:=h.2 v hv;omega⟩,fun {e q} h x num k=>⟨?_,fun v hv=>?_⟩⟩
 ·have h1:=Ve hd (gI e.1 x)
  have h2:0<=gI e.2 x/\gI e.2 x<=q:=if z:gI e.2 x=0 then om else h.2 _ (FX z)
  exact ⟨fun v hv=>by have:=IK hv;omega,Vb (G3 _ _) h1⟩
 ·rcases Xm.1 hv with hv|hv
  ·have:=h.2 v hv;omega
  ·rw [Xr.1 hv];omega
 ·have h1:=Ve hd (C2 ds num k)
  have h2:=h.1
  show (e.1.set _ _++XF _).length<=_
  rw [Ys,VJ,Du];omega
 ·have h1:=Ve hd (C2 ds num k)
  have h2:=h.1
  rcases Xm.1 hv with hv|hv
  ·rcases List.mem_or_eq_of_mem_set hv with hv|rfl
   ·have:=h.2 v hv;omega
   ·omega
  ·have:=Gt _ v hv;omega
def GB (B:List Nat):Yk:=fun b _=>b∈B
section
variable {w:World} {G:Yk} {B:List Nat}
end
section
variable {w:World} {G:Yk} {B:List Nat}
def Ox:Value->Hd
 | .slice a l c=>⟨a,l,c⟩
 | _=>⟨none,0,0⟩
abbrev av (y:Z0l):AV:=.agg [.h (Ox y.dv),.h (Ox y.rv)]
end
def Z0o (B:List Nat) (m:Mem) (x:AV) (u:Value):Prop:=
 ∀w:World,(∀b∈B,∃cs e,w.heap[b]? = some (.cells cs e (0,0))/\∀o,cs[o]? = m b o)->RV w (GB B) x u
inductive DW (bs:List Res):List AV->List AV->Prop
 | nil:DW bs [] []
 | same {x as1 xs} (t:DW bs as1 xs):DW bs (x::as1) (x::xs)
 | gen {B m x a u as1 xs} (h:Res.own B m∈bs) (hr:Z0o B m x u) (ha:∀w G v,RV w G a v->v=u) (t:DW bs as1 xs):DW bs (a::as1) (x::xs)
section
variable {P:Program} {n:Nat} {ops:Array Oper} {B:Fr->List Res->Prop} {k:Nat} {F:Fr} {h:List Res}
def MT (P:Program) (ops:Array Oper) (F:Fr) (k:Nat):Option (Bool × Bool):=
 match (ZI ops k).op with
 | .binOp .neq t x y _=>match P.underlying t with
  | some .bool=>match F.ev x,F.ev y with
   | .val (.bool a),.val (.bool b)=>some (a,b)
   | _,_=>none
  | _=>none
 | _=>none
theorem OX (a b:Bool) (hb:MT P ops F k=some (a,b):=by kernel_rfl):XW P (ZI ops k) F h [] (.b (a != b)):=by
 unfold MT at hb
 generalize hoo:ZI ops k=o at hb
 obtain ⟨dst,op,type,pos,after,guard⟩:=o
 cases op<;>simp only at hb<;>try (cases hb)
 rename_i bop t x y yt
 cases bop<;>simp only at hb<;>try (cases hb)
 split at hb
 ·rename_i ht
  split at hb
  ·rename_i a' b' h1 h2
   cases hb
   intro n w G ac hF hh
   have v1:=hF.ev x
   have v2:=hF.ev y
   rw [h1] at v1
   rw [h2] at v2
   have v1:=v1.val_inv
   have v2:=v2.val_inv
   refine ⟨_,.val,fun w' _ _=>?_⟩
   simp only [execOp,v1,v2]
   have he:(Op.equalIn (9999+1) t (.bool a) (.bool b)).run P w'=.ok (a==b) w':=by
    rw [Op.equalIn]
    simp [Sem.run_bind,VZ ht]
   refine Vr ?_
   simp only [eqGuard,binOp,Op.equal,Op.maxDepth]
   have he2:(Op.equalIn 10000 t (.bool a) (.bool b)).run P w'=.ok (a==b) w':=he
   simp [Sem.run_bind,he2,bne]
  ·cases hb
 ·cases hb
end
section
variable {m m':Mem} {B:List Nat}
end
section
variable {w:World} {G:Yk} {B:List Nat}
end
def Zc2 (r:Int):Instr:=XK 23 0 0 0 [r]
def U9 (ds:List Ze) (rt:YA):List Instr:=flB (XM ds) ds (XF rt.params.length,XF rt.params.length) rt.body []++[Zc2 rt.body.result]
section
variable {ds:List Ze} {b:Bool}
end
section
variable {n:ZF} (hn:Xs n) (hz:JF n) (hbt:∀r∈n.routines,0<=W1 n r.params r.body)
include hn hz hbt
end
section
variable {N:Mem} {g o:Nat} {z:Int}
end
structure Zgq (im:YG):Prop where
 decls:Z3o im.decls<=1000000000
 procs:im.procs.length<=4
 params:∀p∈im.procs,p.params.length<=1000000000
 lent:∀p∈im.procs,p.lent.length<=1000000000
 code:∀p∈im.procs,p.code.length<=2000
 args:∀p∈im.procs,∀x∈p.code,x.args.length<=10000200
 jumps:∀p∈im.procs,∀x∈p.code,x.jumps.length<=300000000
section
variable {n:ZF} (hz:JF n) (hB:Z1x n=true)
include hz hB
end
end Go.Abs
section
namespace Go.Abs
def Zr (c:List Instr) (i:Nat):Prop:=∃x,c[i]? = some x/\x.dst=0/\x.into=0
section
variable {c t:List Instr} {i j:Nat}
theorem Zr.lt (h:Zr c i):i<c.length:=by obtain ⟨x,hx,_⟩:=h;exact (Xc.1 hx).1
theorem Zr.new {x:Instr} (h1:x.dst=0) (h2:x.into=0):Zr (c++[x]) c.length:=⟨x,by simp,h1,h2⟩
theorem Zr.app (h:Zr c i):Zr (c++t) i:=by
 obtain ⟨x,hx,h1⟩:=h
 exact ⟨x,by rw [Ah ((Xc.1 hx).1)];exact hx,h1⟩
theorem Zr.flB {E:Type} {X:An E} {ds:List Ze} {e:E} {b:Z7} (h:Zr c i):Zr (flB X ds e b c) i:=by
 obtain ⟨t,ht⟩:=Ef X ds b e c
 rw [ht];exact h.app
theorem Zr.set {x y:Instr} (h:Zr c i) (hx:c[j]? = some x) (h1:y.dst=x.dst) (h2:y.into=x.into):Zr (c.set j y) i:=by
 obtain ⟨z,hz,h3,h4⟩:=h
 by_cases e:j=i
 ·subst e
  rw [hx] at hz
  cases hz
  exact ⟨y,by rw [List.getElem?_set_self (Xc.1 hx).1],h1.trans h3,h2.trans h4⟩
 ·exact ⟨z,by rw [List.getElem?_set_ne e];exact hz,h3,h4⟩
theorem Zr.aim (h:Zr c i):Zr (VA c j) i:=by
 rw [VA]
 split
 ·exact h
 ·rename_i x hx;exact h.set hx rfl rfl
theorem Zr.fan {js:LI} (h:Zr c i):Zr (Q0 c j js) i:=by
 rw [Q0]
 split
 ·exact h
 ·rename_i x hx;exact h.set hx rfl rfl
end
theorem Ei {c t:List Instr} {i:Nat} {x:Instr} (h:c[i]? = some x):(c++t)[i]? = some x:=by rw [Ah (Xc.1 h).1];exact h
theorem Ou {c:List Instr} {i:Nat} {x:Instr} {E:Type} {X:An E} {ds:List Ze} {e:E} {b:Z7} (h:c[i]? = some x):(flB X ds e b c)[i]? = some x:=by
 rw [Z4y X ds (Xc.1 h).1];exact h
theorem Z12 {c:List Instr} {i:Nat} {x:Instr} (h:c[i]? = some x):VA c i=c.set i (x.goto c.length):=by rw [VA,h]
theorem Z4r {c:List Instr} {i:Nat} {x:Instr} {js:LI} (h:c[i]? = some x):Q0 c i js=c.set i (x.fan js):=by rw [Q0,h]
theorem Z13 {c:List Instr} {i:Nat} {x:Instr} (h:c[i]? = some x) (h1:x.dst=0) (h2:x.into=0):c.set i ⟨x.op,0,c.length,0,x.args,x.jumps⟩=VA c i:=by
 rw [Z12 h,Instr.goto,h1,h2]
theorem Z4s {c:List Instr} {i:Nat} {num:Int} {args js:LI} (h:c[i]? = some (XK 21 0 num 0 args)):c.set i ⟨21,0,num,0,args,js⟩=Q0 c i js:=by
 rw [Z4r h];rfl
def Ql (es:List Nat):LI:=es.map Int.ofNat
theorem Gw (es:List Nat):(Ql es).length=es.length:=by simp [Ql]
theorem Zau {es:List Nat} {k e:Nat} (h:es[k]? = some e):(Ql es)[k]? = some (e:Int):=by simp [Ql,h]
theorem Zav (es:List Nat) (e:Nat):Ql es++[(e:Int)]=Ql (es++[e]):=by simp [Ql]
theorem Pi (m k:Nat) (x:Int):WC m (k+1) x=WC m k x++[XK 19 ((m+k:Nat):Int) (k:Int) 0 [x]]:=by simp [WC,List.range_succ]
theorem Gp (m k:Nat) (x:Int):(WC m k x).length=k:=by simp [WC]
theorem Z15 {es:List Nat} {k e:Nat} {c d:List Instr} (h:es[k]? = some e) (ha:TF c (es.drop k)=d):TF (VA c e) (es.drop (k+1))=d:=by rw [Yo h,TF] at ha;exact ha
theorem Z14 {es:List Nat} {k:Nat} {c d:List Instr} (h:es.length<=k) (ha:TF c (es.drop k)=d):c=d:=by rw [Xt h,TF] at ha;exact ha
section
variable {E:Type} {X:An E} {ds:List Ze} {e:E}
theorem Eg (s:Z5) (c:List Instr):VX X ds e s c=(if s.op=7 then Qh X ds e s.args s.kids c
  else if s.op=8 then U4 X ds e s.num (gI s.args 0) c.length s.kids 0 (c++[XK 21 0 s.num 0 s.args]) [] []
  else if s.op=14∨s.op=15 then c++[XK s.op 0 0 0 s.args]
  else if s.op=16∨s.op=17 then c++[XK s.op 0 0 0 (s.args++X.res e (gI s.args 0))]
  else c++[XK s.op (X.len e) s.num s.into s.args]):=by cases s;rw [VX];rfl
theorem Z5b {s:Z5} {c:List Instr} {k0 k1:Z7} (h:s.op=7) (hk:s.kids=[k0,k1]):VX X ds e s c =
  VA (flB X ds e k1 (VA ((flB X ds e k0 (c++[XK 20 0 0 0 s.args])++[XK 18 (X.len e) 0 0 [k0.result]])++[XK 22 0 0 0 []]) c.length)++[XK 18 (X.len e) 0 0 [k1.result]]) (flB X ds e k0 (c++[XK 20 0 0 0 s.args])++[XK 18 (X.len e) 0 0 [k0.result]]).length:=by
 rw [Eg,Zl h,hk,Qh,QF]
theorem Z5c {s:Z5} {c:List Instr} (h:s.op=8):VX X ds e s c=U4 X ds e s.num (gI s.args 0) c.length s.kids 0 (c++[XK 21 0 s.num 0 s.args]) [] []:=by
 rw [Eg,Zd om,Zl h]
theorem Z58 {s:Z5} {c:List Instr} (h:s.op=14∨s.op=15):VX X ds e s c=c++[XK s.op 0 0 0 s.args]:=by
 rw [Eg,Zd om,Zd om,Zl h]
theorem Z5d {s:Z5} {c:List Instr} (h:s.op=16∨s.op=17):VX X ds e s c=c++[XK s.op 0 0 0 (s.args++X.res e (gI s.args 0))]:=by
 rw [Eg,Zd om,Zd om,Zd om,Zl h]
theorem Z59 {s:Z5} {c:List Instr} (h7:s.op≠7) (h8:s.op≠8) (h1:¬(s.op=14∨s.op=15)) (h2:¬(s.op=16∨s.op=17)):VX X ds e s c=c++[XK s.op (X.len e) s.num s.into s.args]:=by
 rw [Eg,Zd h7,Zd h8,Zd h1,Zd h2]
theorem Z4z (b:Z7) (c:List Instr):flB X ds e b c=Uu X ds e b.steps c:=by cases b;rw [flB];rfl
theorem NZ {xs:List Z5} {k:Nat} {s:Z5} {c d:List Instr} (h:xs[k]? = some s) (ha:Uu X ds e (xs.drop k) c=d):Uu X ds (if YN s.op=true then e else X.nxt e) (xs.drop (k+1)) (VX X ds e s c)=d:=by
 rw [Yo h,Uu] at ha;exact ha
theorem Z5g {xs:List Z5} {k:Nat} {c d:List Instr} (h:xs.length<=k) (ha:Uu X ds e (xs.drop k) c=d):c=d:=by
 rw [Xt h,Uu] at ha;exact ha
theorem Z4v {bs:List Z7} {num x:Int} {a k j:Nat} {c d:List Instr} {ts:LI} {es:List Nat} (h:bs.length<=k) (ha:U4 X ds e num x a (bs.drop k) j c ts es=d):TF (Q0 c a ts) es=d:=by
 rw [Xt h,U4] at ha;exact ha
theorem Z4w {bs:List Z7} {b:Z7} {num x:Int} {a k:Nat} {c d:List Instr} {ts:LI} {es:List Nat} (hb:bs[k]? = some b) (hl:k+1<bs.length) (ha:U4 X ds e num x a (bs.drop k) k c ts es=d) :
  U4 X ds e num x a (bs.drop (k+1)) (k+1) ((flB X ds (X.arm e x num k) b (c++WC (X.len e) (Ww ds num k).length x)++[XK 18 (X.len e) 0 0 [b.result]])++[XK 22 0 0 0 []]) (ts++[(c.length:Int)])
   (es++[(flB X ds (X.arm e x num k) b (c++WC (X.len e) (Ww ds num k).length x)++[XK 18 (X.len e) 0 0 [b.result]]).length])=d:=by
 rw [Yo hb,U4] at ha
 rw [Ys (bs:=[XK 18 (X.len e) 0 0 [b.result]])]
 obtain ⟨y,hy⟩:=AH (xs:=bs) (j:=k+1) om
 have hd:=Yo hy
 rw [hd] at ha ⊢
 exact ha
theorem Z4x {bs:List Z7} {b:Z7} {num x:Int} {a k:Nat} {c d:List Instr} {ts:LI} {es:List Nat} (hb:bs[k]? = some b) (hl:bs.length=k+1) (ha:U4 X ds e num x a (bs.drop k) k c ts es=d) :
  U4 X ds e num x a (bs.drop (k+1)) (k+1) (flB X ds (X.arm e x num k) b (c++WC (X.len e) (Ww ds num k).length x)++[XK 18 (X.len e) 0 0 [b.result]]) (ts++[(c.length:Int)]) es=d:=by
 rw [Yo hb,U4] at ha
 rw [Xt om] at ha ⊢
 exact ha
end
end Go.Abs
namespace Go.Abs
theorem MX:∀{bs:List Z7} {k:Nat} {b:Z7},bs[k]? = some b->YW (bs.take (k+1))=YW (bs.take k)+b.sz/\YW (bs.take k)+b.sz<=YW bs
 | [],_,_,h=>by simp at h
 | x::r,0,b,h=>by simp at h;subst h;simp [YW]
 | x::r,k+1,b,h=>by
  obtain ⟨h1,h2⟩:=MX (bs:=r) (k:=k) (b:=b) (by simpa using h)
  simp only [Ai,YW]
  omega
theorem Zc0 {c:List Instr} {k:Nat} {x:Instr} {m q R:Int} (h:c[k]? = some x) (hq:q=QQ m x) (ha:Ui m (c.drop k)=R):Ui q (c.drop (k+1))=R:=by
 subst hq;rw [Yo h] at ha;exact ha
theorem Zbz {c:List Instr} {k:Nat} {m R:Int} (h:c.length<=k) (ha:Ui m (c.drop k)=R):m=R:=by rw [Xt h] at ha;exact ha
theorem Zae {l:LI} {j:Nat} {a m R:Int} (h:l[j]? = some a) (ha:(l.drop j).foldl (fun m a=>max m (a+1)) m=R):(l.drop (j+1)).foldl (fun m a=>max m (a+1)) (max m (a+1))=R:=by
 rw [Yo h] at ha;exact ha
theorem Zad {l:LI} {j:Nat} {m R:Int} (h:l.length<=j) (ha:(l.drop j).foldl (fun m a=>max m (a+1)) m=R):m=R:=by rw [Xt h] at ha;exact ha
theorem Z0i (k:Nat) (h:k<=1000000000):Tv (XF k):=fun f hf=>by have:=Gt k f hf;omega
theorem Zby (c:List Instr) (p:Nat):Ui (p:Int) c=max (Ui 0 c) (p:Int):=by rw [Zbx c om];omega
theorem WD {p:Prop} (h:p:=by first|omega|(simp only [Bd,Cg,Ys,Yx,X7,Gp,Gw,Du,VJ];omega)):p:=h
end Go.Abs
end
namespace Go.Abs
structure NTu (n:ZF):Prop where
 result:∀r∈n.routines,r.result<=(n.decls.length:Int)
 decl:∀d∈n.decls,d.cons.length=0->d.to_<=(n.decls.length:Int)
 fields:∀c,∀f∈ZQ n.decls c,f<=(n.decls.length:Int)
section
variable {n:ZF} (hu:NTu n)
include hu
end

theorem Z49 {xs ys:LI} (h:xs.length=ys.length) (ha:∀i,i<xs.length->xs[i]? = ys[i]?):xs=ys:=List.ext_getElem? fun i=>by
 by_cases hi:i<xs.length
 ·exact ha i hi
 ·rw [J0 om,J0 om]

structure ZS (n:ZF) (q l:Nat):Prop where
 decls:AD n.decls
 len:1<=n.routines.length/\n.routines.length<=4
 rt:∀r∈n.routines,r.params.length<=3/\r.lent.length<=l/\r.body.sz<=q/\r.body.rng
 rb:∀r∈n.routines,r.body.rb
section
variable {n n2:ZF} (hd:n2.decls=n.decls) (hr:∀vars op num args,QS n2 vars op num args=QS n vars op num args)
include hd hr
end
section
variable {n:ZF}
end
noncomputable instance decBlock:DecidableEq Z7:=fun a b=>Classical.propDecidable (a=b)
noncomputable instance decStep:DecidableEq Z5:=fun a b=>Classical.propDecidable (a=b)
noncomputable instance decDecls:DecidableEq Ze:=fun a b=>Classical.propDecidable (a=b)
noncomputable instance decNormal:DecidableEq ZF:=fun a b=>Classical.propDecidable (a=b)
theorem Ny {α:Type} {xs ys:List α} (h:xs.length=ys.length) (ha:∀i,i<xs.length->xs[i]? = ys[i]?):xs=ys:=List.ext_getElem? fun i=>by
 by_cases hi:i<xs.length
 ·exact ha i hi
 ·rw [J0 om,J0 om]
theorem Z04 {α:Type} {xs ys:List α} {k:Nat} {x y:α} (h:∀i,i<k->xs[i]? = ys[i]?) (hx:xs[k]? = some x) (hy:ys[k]? = some y) (e:x=y):∀i,i<k+1->xs[i]? = ys[i]?:=fun i hi=>
 (Nat.lt_succ_iff_lt_or_eq.1 hi).elim (h i) fun z=>by rw [z,hx,hy,e]
theorem Z03 {α:Type} {xs ys:List α}:∀i,i<0->xs[i]? = ys[i]?:=fun i h=>absurd h om
theorem MN {α:Type} {xs ys:List α} {k:Nat} {x y:α} (hx:xs[k]? = some x) (hy:ys[k]? = some y) (e:x≠y):xs≠ys:=fun z=>by rw [z,hy] at hx;cases hx;exact e rfl

section
variable {ds:List Ze}
end
def Z9e (am:List J4) (x:Int):Bool:=am.any fun o=>o.chg&&(o.mat==x)
def Pq (am:List J4) (a:J4) (b:Z7):Prop:=Z9e am a.mat=true∨(Vl b.steps a.mat<0∨Wy b.steps a.fds.length<0)
instance (am:List J4) (a:J4) (b:Z7):Decidable (Pq am a b):=by unfold Pq;infer_instance

section
variable {ds:List Ze}
end
section
variable {n:ZF}
end
section
variable {ds:List Ze}
end
structure CR2 (c d:LI):Prop where
 l1:c.length=4
 l2:d.length=4
 a:gI c 0=gI d 0
 b:gI c 1=gI d 1
 s:gI c 2+gI c 3=gI d 2+gI d 3
section
variable {ds:List Ze}
end
section
variable {ds:List Ze}
end

structure Zgn (n:ZF) (r:YA) (k:Nat) (L:ZO):Prop where
 ok:XH n.decls L (1+4*r.body.sz)
 pre:∃ws,L.vars=r.params++ws
 len:L.vars.length<=r.params.length+r.body.sz
 ty:∀s,r.body.steps[k]? = some s->0<=X0 n L.vars s
end Go.Abs
section
namespace Go.Abs
section
variable {n n2:ZF} (hd:n2.decls=n.decls) (hr:∀vars op num args,QS n2 vars op num args=QS n vars op num args) (hl:∀op num,Dq n2 op num=Dq n op num)
include hd hr hl
omit hd hr in
omit hd hr in
omit hr in
end
end Go.Abs
namespace Go.Abs
end Go.Abs
end
namespace Go.Abs
section
variable {ds:List Ze}
end
section
variable {n:ZF}
end
structure SC (f g:Int->Nat) (same:Prop):Prop where
 a:f 14<=g 14
 c:g 16<=f 16
 d:f 17=g 17
 e:f 16=g 16->same
section
variable {ds:List Ze}
end
def TA (r:Int):LI->Bool
 | []=>true
 | a::t=>if 0<=a/\a<=r-1 then TA r t else false
def Wd (k len:Int):LI->Bool
 | []=>true
 | j::t=>if k+1<=j/\j<=len-1 then Wd k len t else false
def Ts (op:Int):Bool:=decide ((0<=op/\op<=11/\op≠7/\op≠8)∨op=18∨op=19)
def Tp (im:YG) (num:Int) (n more:Nat):Bool:=((V1 im.procs num).map fun p=>decide (p.params.length=n+more)).getD false
def A9 (im:YG) (num:Int):Bool:=((V1 im.procs num).map fun p=>decide (p.lent.length=0)).getD false
def We (im:YG) (p:ZZ) (k:Nat) (x:Instr):Bool:=
 if x.op=0 then decide (x.args.length=0/\(-999<=x.num/\x.num<=999))
 else if x.op=1∨x.op=2∨x.op=3∨x.op=4∨x.op=11 then decide (x.args.length=2/\x.num=0)
 else if x.op=5∨x.op=14∨x.op=15∨x.op=18∨x.op=23 then decide (x.args.length=1/\x.num=0)
 else if x.op=6 then decide (0<Wi im.decls x.num/\x.args.length=(ZQ im.decls x.num).length/\0<=x.into/\x.into<=p.regs)
 else if x.op=9∨x.op=24 then Tp im x.num x.args.length 0
 else if x.op=10 then Tp im x.num x.args.length 1&&A9 im x.num
 else if x.op=16∨x.op=17 then decide ((1<=x.args.length/\x.args.length<=4)/\x.num=0)
 else if x.op=19 then decide (x.args.length=1/\0<=x.num/\x.num<=2)
 else if x.op=20 then decide (x.args.length=1/\(k:Int)+1<=x.num/\x.num<=(p.code.length:Int)-1)
 else if x.op=22 then decide (x.args.length=0/\(k:Int)+1<=x.num/\x.num<=(p.code.length:Int)-1)
 else if x.op=21 then decide (x.args.length=1/\0<(ZX im.decls x.num).length/\x.jumps.length=(ZX im.decls x.num).length)&&Wd k p.code.length x.jumps
 else false
def VE (im:YG) (p:ZZ) (k:Nat) (x:Instr):Bool:=
 TA p.regs x.args&&(decide ((0<=x.dst/\x.dst<=p.regs-1)/\(x.dst=0∨Ts x.op=true)/\(x.into=0∨x.op=6)/\(x.op=21∨x.jumps.length=0))&&We im p k x)
def Qi (im:YG) (p:ZZ):List Instr->Nat->Bool
 | [],_=>true
 | x::r,k=>if VE im p k x=true then Qi im p r (k+1) else false
def Lb (c:List Instr):Bool:=((c.getLast?).map fun x=>decide (x.op=23∨x.op=24)).getD false
def T8 (im:YG) (p:ZZ):Bool:=
 Uj p.params p.lent&&(decide ((1<=p.regs/\(p.params.length:Int)<=p.regs/\p.regs<=2000)/\1<=p.code.length/\p.code.length<=2000)&&(Qi im p p.code 0&&Lb p.code))
def Tq (im:YG):List ZZ->Bool
 | []=>true
 | p::r=>if T8 im p=true then Tq im r else false
def UC (p:ZZ):Sg:=⟨p.params,p.result⟩
def XJ (im:YG):Bool:=decide (im.procs.length<=4)&&(US im.decls (im.procs.map UC)&&Tq im im.procs)
theorem EO {im:YG}:∀{l:List ZZ},Tq im l=true↔∀p∈l,T8 im p=true
 | []=>by simp [Tq]
 | p::r=>by
  rw [Tq]
  split
  ·rename_i h;rw [EO (l:=r)];simp [h]
  ·rename_i h;simp [h]
theorem OO {im:YG} {p:ZZ}:∀{l:List Instr} {k j:Nat} {x:Instr},Qi im p l k=true->l[j]? = some x->VE im p (k+j) x=true
 | [],k,j,x,_,hx=>by simp at hx
 | y::r,k,j,x,h,hx=>by
  rw [Qi] at h
  split at h
  ·rename_i h1
   cases j with
   | zero=>simp at hx;subst hx;exact h1
   | succ j=>have:=OO (k:=k+1) h (by simpa using hx);rwa [show k+(j+1)=k+1+j by omega]
  ·cases h
theorem P6 {k len:Int}:∀{l:LI},Wd k len l=true↔∀j∈l,k+1<=j/\j<=len-1
 | []=>by simp [Wd]
 | j::t=>by
  rw [Wd]
  split
  ·rename_i h;rw [P6 (l:=t)];simp [h]
  ·rename_i h;simp [h]
theorem Rj {r:Int}:∀{l:LI},TA r l=true↔∀a∈l,0<=a/\a<=r-1
 | []=>by simp [TA]
 | j::t=>by
  rw [TA]
  split
  ·rename_i h;rw [Rj (l:=t)];simp [h]
  ·rename_i h;simp [h]
theorem Et {im:YG} (h:XJ im=true) {f k:Nat} {p:ZZ} {x:Instr} (hp:im.procs[f]? = some p) (hx:p.code[k]? = some x):T8 im p=true/\VE im p k x=true:=by
 rw [XJ,Xb,Xb] at h
 have h1:=EO.1 h.2.2 p (Y4 hp)
 refine ⟨h1,?_⟩
 rw [T8,Xb,Xb,Xb] at h1
 have:=OO h1.2.2.1 hx
 rwa [Wk] at this
theorem OW {im:YG} {p:ZZ} {k:Nat} {x:Instr} (h:VE im p k x=true) (ho:x.op=20∨x.op=22):(k:Int)<x.num/\x.num<p.code.length:=by
 rw [VE,Xb,Xb] at h
 have h2:=h.2.2
 rcases ho with ho|ho
 ·simp only [We,ho] at h2
  have h2:=of_decide_eq_true (by simpa using h2:decide (x.args.length=1/\(k:Int)+1<=x.num/\x.num<=(p.code.length:Int)-1)=true)
  omega
 ·simp only [We,ho] at h2
  have h2:=of_decide_eq_true (by simpa using h2:decide (x.args.length=0/\(k:Int)+1<=x.num/\x.num<=(p.code.length:Int)-1)=true)
  omega
theorem Z96 {im:YG} {p:ZZ} {k:Nat} {x:Instr} (h:VE im p k x=true) {j:Int} (hj:j∈x.jumps):(k:Int)<j/\j<p.code.length:=by
 rw [VE,Xb,Xb,decide_eq_true_eq] at h
 have h3:=h.2.1.2.2.2
 have ho:x.op=21:=by
  rcases h3 with h3|h3
  ·exact h3
  ·rw [List.eq_nil_of_length_eq_zero h3] at hj;cases hj
 have h2:=h.2.2
 have e:We im p k x=(decide (x.args.length=1/\0<(ZX im.decls x.num).length/\x.jumps.length=(ZX im.decls x.num).length)&&Wd k p.code.length x.jumps):=by simp [We,ho]
 rw [e,Xb] at h2
 have:=P6.1 h2.2 j hj
 omega
def TQ (c:List Instr):Nat->Nat->Int->Bool
 | 0,_,_=>false
 | f+1,k,reg=>match c[k]? with
  | none=>false
  | some i=>if i.op=18/\gI i.args 0=reg then TQ c f (k+1) i.dst else if i.op=22 then TQ c f i.num.toNat reg else decide (i.op=23/\gI i.args 0=reg)
def fwd (c:List Instr):Prop:=∀(k:Nat) (i:Instr),c[k]? = some i->i.op=22->(k:Int)<i.num
theorem GQ {c:List Instr} (hf:fwd c):∀(f g k:Nat) (reg:Int),c.length<f+k->c.length<g+k->TQ c f k reg=TQ c g k reg
 | 0,0,k,reg,_,_=>rfl
 | 0,g+1,k,reg,h,_=>by rw [TQ,TQ,J0 om]
 | f+1,0,k,reg,_,h=>by rw [TQ,TQ,J0 om]
 | f+1,g+1,k,reg,h,h'=>by
  rw [TQ,TQ]
  cases hc:c[k]? with
  | none=>rfl
  | some i=>
   simp only
   split
   ·exact GQ hf f g (k+1) i.dst om om
   ·split
    ·rename_i h22
     have:=hf k i hc h22
     exact GQ hf f g i.num.toNat reg om om
    ·rfl
def T9 (c:List Instr) (k:Nat) (reg:Int):Bool:=TQ c (c.length+1) k reg
theorem Zci {c:List Instr} (hf:fwd c) {k:Nat} {reg:Int} {i:Instr} (hi:c[k]? = some i) (h:i.op=18/\gI i.args 0=reg):T9 c (k+1) i.dst=T9 c k reg:=by
 have hl:=(Xc.1 hi).1
 have e:T9 c k reg=TQ c c.length (k+1) i.dst:=by
  rw [T9,TQ,hi]
  simp only [Zl h]
 rw [e]
 exact GQ hf _ _ _ _ om om
theorem RG {c:List Instr} (hf:fwd c) {k:Nat} {reg:Int} {i:Instr} (hi:c[k]? = some i) (h:i.op=22):T9 c i.num.toNat reg=T9 c k reg:=by
 have hl:=(Xc.1 hi).1
 have e:T9 c k reg=TQ c c.length i.num.toNat reg:=by
  rw [T9,TQ,hi]
  simp only
  rw [Zd om,Zl h]
 rw [e]
 have:=hf k i hi h
 exact GQ hf _ _ _ _ om om
theorem BD {c:List Instr} {k:Nat} {reg:Int} {i:Instr} (hi:c[k]? = some i) (h1:¬(i.op=18/\gI i.args 0=reg)) (h2:¬i.op=22):decide (i.op=23/\gI i.args 0=reg)=T9 c k reg:=by
 rw [T9,TQ,hi]
 simp only [Zd h1,Zd h2]
theorem GO {c:List Instr} {k:Nat} {reg:Int} (h:c.length<=k):false=T9 c k reg:=by
 rw [T9,TQ,J0 h]
def Ad (c:List Instr) (k:Nat) (x:Instr):Instr:=if x.op=9/\T9 c (k+1) x.dst=true then ⟨24,0,x.num,0,x.args,x.jumps⟩ else x
def KV (c:List Instr):List Instr->Nat->List Instr
 | [],_=>[]
 | x::r,k=>Ad c k x::KV c r (k+1)
def Qp (c:List Instr):List Instr:=KV c c 0
def DQ (p:ZZ):ZZ:=⟨p.params,p.lent,p.result,p.regs,Qp p.code⟩
def EZ (im:YG):YG:=⟨im.decls,im.procs.map DQ⟩
theorem Md (c:List Instr):∀(xs:List Instr) (k:Nat),(KV c xs k).length=xs.length
 | [],_=>rfl
 | x::r,k=>by rw [KV,Yx,Yx,Md c r]
theorem SW (c:List Instr):(Qp c).length=c.length:=Md c c 0
theorem Hb {c:List Instr}:∀{xs:List Instr} {k j:Nat},(KV c xs k)[j]? = (xs[j]?).map (Ad c (k+j))
 | [],k,j=>by simp [KV]
 | x::r,k,0=>by simp [KV]
 | x::r,k,j+1=>by
  rw [KV,List.getElem?_cons_succ,List.getElem?_cons_succ,Hb (xs:=r)]
  rw [show k+1+j=k+(j+1) by omega]
theorem Zfn {c:List Instr} {k:Nat}:(Qp c)[k]? = (c[k]?).map (Ad c k):=by rw [Qp,Hb,Wk]
theorem Zfo (c:List Instr) (k:Nat) (x:Instr):Ad c k x=x∨(x.op=9/\Ad c k x=⟨24,0,x.num,0,x.args,x.jumps⟩):=by
 unfold Ad
 split
 ·rename_i h;exact .inr ⟨h.1,rfl⟩
 ·exact .inl rfl
theorem SX {c xs:List Instr} {k:Nat} {x:Instr} (h:xs[k]? = some x):KV c (xs.take k) 0++[Ad c k x]=KV c (xs.take (k+1)) 0:=by
 apply List.ext_getElem?
 intro j
 have hl:=(Xc.1 h).1
 have hk:(KV c (xs.take k) 0).length=k:=by rw [Md,Wh];omega
 rw [Hb,Wk,V9 h]
 by_cases hj:j<k
 ·rw [Ah om,Ah (by rw [Wh];omega),Hb,Wk]
 ·by_cases e:j=k
  ·subst e
   rw [DU om,hk,DU (by rw [Wh];omega)]
   rw [Wh,VQ om]
   simp
  ·rw [J0 (by rw [Ys,hk];simp;omega),J0 (by rw [Ys,Wh];simp;omega)];rfl
end Go.Abs
