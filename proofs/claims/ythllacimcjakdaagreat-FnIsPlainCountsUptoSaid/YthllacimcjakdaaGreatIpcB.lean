/-
  A part of the proof of FnIsPlainCountsUptoSaid (see the last file): no condition.
-/
import Derived.Test.YthllacimcjakdaaGreatIpcA
import Derived.Test.YthllacimcjakdaaGreatRows
import Derived.Deep.Slices
import Derived.ChangeArms
set_option linter.all false
set_option linter.unusedVariables false
set_option linter.unusedSimpArgs false
set_option linter.unusedSectionVars false
set_option maxRecDepth 10000
set_option maxHeartbeats 4000000
section
namespace Go.Abs
structure Ot where
 fields:List Int
 fv:Value
structure Ou where
 frm:Int
 to_:Int
 cons:List Ot
 cv:Value
mutual
inductive F5 where
 | mk (op num into:Int) (args:List Int) (av:Value) (kids:List Da) (kv:Value)
inductive Da where
 | mk (steps:List F5) (sv:Value) (result:Int)
end
namespace F5
end F5
namespace Da
end Da
structure Ow where
 params:List Int
 pv:Value
 lent:List Int
 lv:Value
 result:Int
 body:Da
structure Ov where
 decls:List Ou
 dv:Value
 routines:List Ow
 rv:Value
inductive F3:List AV->List AV->Prop
 | nil:F3 [] []
 | cons {x y:AV} {xs ys:List AV} (hl:x.leaves.length=y.leaves.length) (h:Vu x.leaves y.leaves) (t:F3 xs ys):F3 (x::xs) (y::ys)
theorem TJ {es:List AV} {k:Nat} (h:es.all (fun y=>Nat.beq y.leaves.length k)=true):∀y∈es,y.leaves.length=k:=fun y hy=>U0 (Kq.1 h y hy)
abbrev rK (g:Hd) (k:Nat) (ls:List AV):Res:=.row g.v k ls
section
variable {P:Program} {n:Nat} {c:Code} {A:Vc} {F:Fr} {h:List Res} {ops:Array Oper} {B:Fr->List Res->Prop} {k:Nat}
variable {T:List (Nat × List Nat)} {fuel:Nat} {done:List Nat}
theorem rr {v:Value} {q:Nat} {ls ls':List AV} {t t':List Res} (h:ls=ls') (e:t=t'):Res.row v q ls::t=.row v q ls'::t':=h▸e▸rfl
theorem Z2h (j m:Nat) (v:Hd) (kk:Nat) (ls:List AV) (hm:ls.length=m*kk) (hk:0<kk:=by omega) (hl:BI P ops F k=some (.h v):=by kernel_rfl) (hj:h[j]? = some (rK v kk ls):=by kernel_rfl):Xy P (ZB ops k) F h [] (.i m):=
 Z7x j hl hj hm hk
theorem W4 (b l c' q sz:Nat) (j:Int) (hq:j=(q:Int)/\q<l:=by omega) (hi:A5 P ops F k=some (.val (.slice (some ⟨b,0,none⟩) l c'),j,sz):=by kernel_rfl):Xy P (ZB ops k) F h [] (.val (.pointer (some ⟨b,q*sz,none⟩))):=by
 have:=NX (P:=P) (F:=F) (h:=h) hi om om
 rw [hq.1,VR,WQ] at this
 exact this
theorem WY (j g len cap kk o:Nat) (ls zs:List AV) (t:TypeId) (y:AV) (hz:(ls.drop o).take zs.length=zs) (hl:GM ops F k=some (t,.val (.pointer (some ⟨g,o,none⟩))):=by kernel_rfl) (hj:h[j]? = some (.row (.slice (some ⟨g,0,none⟩) len cap) kk ls):=by kernel_rfl)
  (hy:Jq P t zs=some y:=by kernel_rfl):Xy P (ZB ops k) F h [g] y:=Z7y j hl hj hz hy
theorem Cw (j g len cap kk o:Nat) (xs ls:List AV) (ls':List AV) (hlt:o+xs.length<=ls.length) (he:ls.take o++xs++ls.drop (o+xs.length)=ls') (H:SI P n ops B (k+1) F (.row (.slice (some ⟨g,0,none⟩) len cap) kk ls'::XC [j] h)) (hk:YY n ops F k=true:=by kernel_rfl)
  (hs:storeAt P ops F k=some (g,o,xs):=by kernel_rfl) (hp:W8 [j] h=some [.row (.slice (some ⟨g,0,none⟩) len cap) kk ls]:=by kernel_rfl):SI P n ops B k F h:=
 UO hk (We.perm (VN (V7 hp)) (Mu hs hlt (by rw [he];exact H)))
theorem AJ (i j:Nat) (js bs:List Nat) (g len cap kk o:Nat) (xs ls:List AV) (ls':List AV) (hlt:o+xs.length<=ls.length) (he:ls.take o++xs++ls.drop (o+xs.length)=ls')
  (H:YM P n ops B (T.filter fun t=>!WA ops i t.1) fuel (done++[i]) F (.row (.slice (some ⟨g,0,none⟩) len cap) kk ls'::XC [j] h)) (hk:YY n ops F i=true:=by kernel_rfl)
  (hs:storeAt P ops F i=some (g,o,xs):=by kernel_rfl) (hp:W8 [j] h=some [.row (.slice (some ⟨g,0,none⟩) len cap) kk ls]:=by kernel_rfl) (ho:Vz ops i T=bs:=by kernel_rfl)
  (hj:js.map (fun q=>(Wm (XC [j] h))[q]?)=bs.map some:=by kernel_rfl):V2 P n ops B T fuel done F h i:=
 Ql [j] js bs hk (V7 hp) ho hj (Mu (h2:=[]) hs hlt (by rw [he];exact H))
theorem DT (sz:Nat) (hK:∀g,SI P n ops B (k+1) (F.put (ZB ops k).dst (.val (.slice (some ⟨g,0,none⟩) 0 0))) (.row (.slice (some ⟨g,0,none⟩) 0 0) sz []::h)) (hk:YY n ops F k=true:=by kernel_rfl)
  (ha:UQ P ops F k=some ([],0,sz):=by kernel_rfl):SI P n ops B k F h:=UO hk (Z41 (Ve hk).2.1 ha hK)
theorem iKC (j g sz:Nat) (xs:List AV) (hx:Option Value) (hxs:∀y∈xs,y.leaves.length=sz) (hbound:xs.length<=4294967296) (hK:∀v:Hd,SI P n ops B (k+1) (F.put (ZB ops k).dst (.h v)) (rK v sz (Zl xs)::XC [j] h))
  (hk:YY n ops F k=true:=by kernel_rfl) (ha:U1 P ops F k=some (.val (.slice (some ⟨g,0,none⟩) 0 0),.sl xs hx,sz):=by kernel_rfl) (hp:W8 [j] h=some [.row (.slice (some ⟨g,0,none⟩) 0 0) sz []]:=by kernel_rfl):SI P n ops B k F h:=
 UO hk (We.perm (VN (V7 hp)) (Z3z (Ve hk).2.1 ha hxs hbound hK))
theorem Z2g (t j:Nat) {v:Hd} {kk:Nat} (es:List AV) (hes:∀y∈es,y.leaves.length=kk) (H:X1 P n c A ((t,.sl es (some v.v))::F) (.tail v.v kk::XC [j] h)) (hk:0<kk:=by omega) (hF':F.get t=.h v:=by kernel_rfl)
  (hp:W8 [j] h=some [rK v kk (Zl es)]:=by kernel_rfl):X1 P n c A F h:=OF t j hF' hp hes hk H
theorem H0 {A xs ys B:List AV} {o:Nat} (hA:A.length=o) (hl:xs.length=ys.length):(A++(xs++B)).take o++ys++(A++(xs++B)).drop (o+ys.length)=A++(ys++B):=by
 subst hA
 rw [KX,<-hl,<-List.drop_drop,List.drop_left,List.drop_left,TA]
theorem Z57 {A xs B:List AV} {o:Nat} (hA:A.length=o):((A++(xs++B)).drop o).take xs.length=xs:=by
 subst hA
 rw [List.drop_left,KX]
theorem TG (xs ys:List AV):Zl (xs++ys)=Zl xs++Zl ys:=by simp [Zl]
theorem S1:Zl []=[]:=rfl
theorem Hr (j:Nat) (v:Value) (q:Nat) (ls ls':List AV) (e:ls=ls') (hp:W8 [j] h=some [.row v q ls]:=by kernel_rfl):T4 h (.row v q ls'::XC [j] h):=by
 subst e
 intro w G hh
 have hp':=VN (V7 hp)
 exact ⟨G,hh.perm hp',(YU.refl w G h).perm (Tz _) hp'⟩
end
end Go.Abs
end
section
namespace Go.Abs
theorem YB.rgrow {w:World} {G:Yc} {h2:List Res} {g len len' cap k:Nat} {ls ls':List AV} (hh:YB w G (.row (.slice (some ⟨g,0,none⟩) len cap) k ls::h2)) {cs cs':Array Value} {e:TypeId}
  (hb:w.heap[g]? = some (.cells cs e (0,0))) (Xq:cs'.size=cs.size) (hle:len'<=cap) (hcap:cs.size=cap*k) (hl:ls'.length=len'*k) (hls:YP w G ls' (cs'.toList.take (len'*k))) :
  YB (w.setRow g cs') G (.row (.slice (some ⟨g,0,none⟩) len' cap) k ls'::h2) /\
   YU w G (.row (.slice (some ⟨g,0,none⟩) len cap) k ls::h2) (w.setRow g cs') G (.row (.slice (some ⟨g,0,none⟩) len' cap) k ls'::h2):=by
 have hmem:Res.row (.slice (some ⟨g,0,none⟩) len cap) k ls∈Res.row (.slice (some ⟨g,0,none⟩) len cap) k ls::h2:=Xh ..
 have hA:Vt G w (w.setRow g cs') G:=⟨fun c j hg=>by
  have hne:c≠g:=fun he=>hh.prot _ hmem c j he hg
  simp [World.cell?,Vn w g c cs' hne],fun _ _ h=>h⟩
 have e1:YU w G [.row (.slice (some ⟨g,0,none⟩) len cap) k ls] (w.setRow g cs') G [.row (.slice (some ⟨g,0,none⟩) len' cap) k ls']:=by
  refine ⟨rfl,rfl,rfl,by simp [World.setRow],fun _ _ h=>h,?_,fun _ _ _ h=>.inl h,?_⟩
  ·intro c hc
   by_cases hcb:c=g
   ·subst hcb
    exact .inr ⟨cs,cs',e,(0,0),hb,setRow_heap w c cs cs' e (0,0) hb,Xq,fun j hj=>absurd ⟨_,Xh ..,rfl⟩ hj⟩
   ·exact .inl (Vn w g c cs' hcb)
  ·rintro c j _ ⟨r,hr,hf⟩
   rw [W3.1 hr] at hf
   exact ⟨_,Xh ..,hf⟩
 have e2:YB (w.setRow g cs') G [.row (.slice (some ⟨g,0,none⟩) len' cap) k ls']:=by
  refine ⟨fun r hr=>?_,C0 _ _,fun r hr c j hf hg=>?_,fun c j hg=>?_⟩
  ·rw [W3.1 hr]
   exact .inr ⟨g,len',cap,cs',e,rfl,setRow_heap w g cs cs' e (0,0) hb,hle,Xq.trans hcap,hl,hls.mono hA⟩
  ·rw [W3.1 hr] at hf
   exact hh.prot _ hmem c j hf hg
  ·have:=hh.lt c j hg
   simpa [World.setRow] using this
 exact YB.frame (h:=[.row (.slice (some ⟨g,0,none⟩) len cap) k ls]) (k:=h2) hh e1 e2
section
variable {P:Program} {n:Nat} {ops:Array Oper} {k:Nat} {F:Fr} {h2:List Res}
theorem Ms {K:Fr->List Res->Prop} {v:Hd} {sz m:Nat} {ls xs:List AV} {hx:Option Value} (hd:WW n (ZB ops k)=true) (ha:U1 P ops F k=some (.val v.v,.sl xs hx,sz))
  (hxs:∀y∈xs,y.leaves.length=sz) (hone:(Zl xs).all AV.one=true) (hm0:ls.length=m*sz) (hk0:0<sz) (hne:xs≠[]) (hbound:m+xs.length<=4294967296)
  (hK:∀v':Hd,K (F.put (ZB ops k).dst (.val v'.v)) (.row v'.v sz (ls++Zl xs)::h2)):We P n (ZB ops k) F (.row v.v sz ls::h2) K:=by
 unfold U1 at ha
 generalize hoo:ZB ops k=o at ha hd hK
 obtain ⟨dst,op,type,pos,after,guard⟩:=o
 cases op<;>simp only at ha<;>try (cases ha)
 rename_i c
 obtain ⟨callee,args,tys⟩:=c
 simp only at ha
 split at ha
 case h_2=>cases ha
 rename_i s x t t' hargs htys
 split at ha
 case h_2=>cases ha
 rename_i e htt ht
 have:=U0 htt
 subst this
 split at ha
 case h_2=>cases ha
 rename_i i hinfo
 split at ha
 case h_2=>cases ha
 rename_i z hz
 split at ha
 case h_2=>cases ha
 rename_i hb
 simp only [XL] at hb
 simp only [XV,Prod.mk.injEq] at ha
 obtain ⟨h3,h4,hk1⟩:=ha
 have e1:args=#[s,x]:=by rw [<-VJ (xs:=args),hargs]
 have e2:tys=#[t,t]:=by rw [<-VJ (xs:=tys),htys]
 subst e1;subst e2
 have hzs:z.cells.size=sz:=by rw [U0 hb.1,hk1]
 have hby:=WF hb.2
 have hfl:=UZ xs hxs
 intro Q w G a hF hh
 have v1:=hF.ev s
 have v2:=hF.ev x
 rw [h3] at v1
 rw [h4] at v2
 have v1:=v1.val_inv
 have v2:=v2.forget
 have finish:∀(v':Hd) w',(Builtin.append_ #[t,t] type #[v.v,a.eval x]).run P w=.ok v'.v w'->YB w' G (.row v'.v sz (ls++Zl xs)::h2)->YU w G (.row v.v sz ls::h2) w' G (.row v'.v sz (ls++Zl xs)::h2) ->
   ({ dst:=dst,op:=.call { callee:=.builtin .append,args:=#[s,x],argTypes:=#[t,t] },type:=type,pos:=pos,after:=after,guard:=guard }:Oper).wp P a w
    (fun a' w'=>∃F' h' G',K F' h'/\FR w' G' n F' a'/\YB w' G' h'/\YU w G (.row v.v sz ls::h2) w' G' h') Q:=by
  intro v' w' hr j1 j2
  have hrun:(execOp a.eval { dst:=dst,op:=.call { callee:=.builtin .append,args:=#[s,x],argTypes:=#[t,t] },type:=type,pos:=pos,after:=after,guard:=guard }).run P w=.ok (.value v'.v) w':=by
   simp only [execOp,resolve,invoke,builtin,Sem.run_bind,Sem.run_pure,Result.andThen_ok,Bc,Un,Bb,v1,hr]
  unfold Oper.wp
  rw [hrun]
  exact ⟨_,_,G,hK v',(hF.mono (j2.agree hh)).put (U4 hd) .val,j1,j2⟩
 have hrow0:=hh.ok (.row v.v sz ls) (Xh ..)
 have hsub2:∀r:Res,List.Sublist (r::h2) (r::.row v.v sz ls::h2):=fun r=>List.Sublist.cons_cons _ (Aw _ _)
 have grown:∀(olds news:List Value) (old:Nat),YP w G ls olds->YP w G (Zl xs) news ->
   YB (w.drew.alloc (.cells (olds.toArray++news.toArray++Builtin.zeroCells z.cells (grownCap w (m+xs.length) old e-(m+xs.length))) e)) G
    (.row (.slice (some ⟨w.heap.size,0,none⟩) (m+xs.length) (grownCap w (m+xs.length) old e)) sz (ls++Zl xs)::h2) /\
   YU w G (.row v.v sz ls::h2) (w.drew.alloc (.cells (olds.toArray++news.toArray++Builtin.zeroCells z.cells (grownCap w (m+xs.length) old e-(m+xs.length))) e)) G
    (.row (.slice (some ⟨w.heap.size,0,none⟩) (m+xs.length) (grownCap w (m+xs.length) old e)) sz (ls++Zl xs)::h2):=by
  intro olds news old ho hn
  have X2:=grownCap_ge w (m+xs.length) old e
  have hol:=ho.length
  have hnl:=hn.length
  have hlen:(ls++Zl xs).length=(m+xs.length)*sz:=by rw [Yz,hm0,hfl,TB]
  obtain ⟨j1,j2⟩:=hh.drew.alloc_rrow (olds.toArray++news.toArray++Builtin.zeroCells z.cells (grownCap w (m+xs.length) old e-(m+xs.length))) e
   (ls:=ls++Zl xs) (len:=m+xs.length) (cap:=grownCap w (m+xs.length) old e) (k:=sz) X2
   (by
    have q2:(grownCap w (m+xs.length) old e-(m+xs.length))*sz=grownCap w (m+xs.length) old e*sz-(m+xs.length)*sz:=Nat.sub_mul ..
    have q3:(m+xs.length)*sz<=grownCap w (m+xs.length) old e*sz:=TS _ X2
    have q4:(m+xs.length)*sz=m*sz+xs.length*sz:=TB ..
    simp only [Array.size_append,C1,size_zeroCells,hzs,hol,hnl,hm0,hfl]
    omega) hlen
   (by
    have:(olds.toArray++news.toArray++Builtin.zeroCells z.cells (grownCap w (m+xs.length) old e-(m+xs.length))).toList.take ((m+xs.length)*sz)=olds++news:=by
     simp only [BZ]
     rw [<-hlen,Yz,<-hol,<-hnl,<-Yz]
     exact KX
    rw [this]
    exact (ho.append hn).mono (JL w G))
  exact ⟨j1.sub (hsub2 _),(YU.drew w G _).trans (j2.sub' (hsub2 _))⟩
 generalize hax:a.eval x=ax at v2 finish
 cases v2 with
 | nil _=>exact absurd rfl hne
 | sl hq hcc hm=>
  rename_i b o' k' c
  have hpos:0<xs.length:=EW.2 hne
  have hfm:=hm.flat_mem
  obtain ⟨news,hn,hnc⟩:=hfm.cells
  have hnl:news.length=xs.length*i.size:=by rw [hn.length,hfl,hk1]
  have hone':=hn.one_cells hone
  have hnews:∀j u,news[j]? = some u->w.cell? ((⟨b,o',none⟩:Addr).add j)=some u:=fun j u hj=>by rw [QA];exact (hnc j u hj).1
  have hbb:(m+xs.length)*i.bytes<=140737488355328:=by
   have:=Nat.mul_le_mul hbound hby
   omega
  rcases hrow0 with ⟨hv0,hl0⟩|⟨g,len,cap,cur,el,hv0,hrow,hlc,hcur,hll,hcells⟩
  ·subst hl0
   have hm1:m=0:=by
    have:m*sz=0:=by simpa using hm0.symm
    rcases Nat.mul_eq_zero.1 this with h|h
    ·exact h
    ·omega
   subst hm1
   rw [hv0] at finish hh ⊢
   have hr:=run_append_nil (P:=P) w t type e i z ht hinfo hz ⟨b,o',none⟩ xs.length c news hnl hnews hpos om (by simp only [WQ] at hbb;omega)
   obtain ⟨j1,j2⟩:=grown [] news 0 .nil hn
   simp only [WQ,Array.empty_append,Av] at j1 j2
   rw [hv0] at j2
   exact finish ⟨some ⟨w.heap.size,0,none⟩,xs.length,grownCap w xs.length 0 e⟩ _ hr (by simpa using j1) (by simpa using j2)
  ·have hlm:len=m:=EY hk0 (hll.symm.trans hm0)
   subst hlm
   rw [hv0] at finish hh ⊢
   have q5:len*sz<=cap*sz:=TS _ hlc
   have h1:(cur.toList.take (len*sz)).length=len*sz:=by rw [Ww,Qv,hcur,Vq q5]
   have hcl:cur.toList.length=cap*sz:=by rw [Qv,hcur]
   by_cases hroom:len+xs.length<=cap
   ·have q1:(len+xs.length)*sz<=cap*sz:=TS _ hroom
    have q2:(len+xs.length)*sz=len*sz+xs.length*sz:=TB ..
    have hfit:len*i.size+news.length<=cur.size:=by rw [hnl,hcur,hk1];omega
    have hr:=Er (P:=P) w t type e el i ht hinfo g len cap cur hrow ⟨b,o',none⟩ xs.length c news hnl hnews hone' hroom hfit
    rw [hk1] at hr
    have hnl':news.length=xs.length*sz:=by rw [hnl,hk1]
    obtain ⟨j1,j2⟩:=hh.rgrow (ls':=ls++Zl xs) (len':=len+xs.length) (cs':=(cur.toList.take (len*sz)++news++cur.toList.drop (len*sz+news.length)).toArray) hrow
     (by simp only [C1,Yz,h1,hnl',At,hcl,hcur];omega) hroom hcur (by rw [Yz,hll,hfl,q2]) (by
      have:(cur.toList.take (len*sz)++news++cur.toList.drop (len*sz+news.length)).toArray.toList.take ((len+xs.length)*sz)=cur.toList.take (len*sz)++news:=by
       rw [C2,q2,<-hnl']
       conv=>lhs;arg 1;rw [show len*sz+news.length=(cur.toList.take (len*sz)++news).length from by rw [Yz,h1]]
       exact KX
      rw [this]
      exact hcells.append hn)
    exact finish ⟨some ⟨g,0,none⟩,len+xs.length,cap⟩ _ hr j1 j2
   ·have hr:=run_append_grow (P:=P) w t type e i z ht hinfo hz ⟨g,0,none⟩ len cap (cur.toList.take (len*sz)) (by rw [hk1];exact h1) (fun j u hj=>by
     rw [QA,cell_of_row w g _ cur el (0,0) hrow]
     rw [Qd] at hj
     split at hj
     ·simpa using hj
     ·cases hj) ⟨b,o',none⟩ xs.length c news hnl hnews om om (growslice_fits om hbb)
    obtain ⟨j1,j2⟩:=grown (cur.toList.take (len*sz)) news cap hcells hn
    rw [hv0] at j2
    exact finish ⟨some ⟨w.heap.size,0,none⟩,len+xs.length,grownCap w (len+xs.length) cap e⟩ _ hr j1 j2
end
section
variable {P:Program} {n:Nat} {ops:Array Oper} {B:Fr->List Res->Prop} {k:Nat} {F:Fr} {h:List Res}
theorem DS (j m:Nat) (v:Hd) (sz:Nat) (ls xs:List AV) (hx:Option Value) (hm0:ls.length=m*sz) (hxs:∀y∈xs,y.leaves.length=sz) (hone:(Zl xs).all AV.one=true) (hne:xs≠[]) (hbound:m+xs.length<=4294967296)
  (hK:∀v':Hd,SI P n ops B (k+1) (F.put (ZB ops k).dst (.h v')) (rK v' sz (ls++Zl xs)::XC [j] h)) (hk0:0<sz:=by omega)
  (hk:YY n ops F k=true:=by kernel_rfl) (ha:U1 P ops F k=some (.h v,.sl xs hx,sz):=by kernel_rfl) (hp:W8 [j] h=some [rK v sz ls]:=by kernel_rfl):SI P n ops B k F h:=
 UO hk (We.perm (VN (V7 hp)) (Ms (Ve hk).2.1 ha hxs hone hm0 hk0 hne hbound hK))
end
end Go.Abs
namespace Go.Abs
section
variable {P:Program} {n:Nat} {ops:Array Oper} {B:Fr->List Res->Prop} {T:List (Nat × List Nat)} {fuel:Nat} {done:List Nat} {F:Fr} {h:List Res}
theorem Fs (i j m:Nat) (js bs:List Nat) (v:Hd) (sz:Nat) (ls xs:List AV) (hx:Option Value) (hm0:ls.length=m*sz) (hxs:∀y∈xs,y.leaves.length=sz) (hone:(Zl xs).all AV.one=true) (hne:xs≠[]) (hbound:m+xs.length<=4294967296)
  (hK:∀v':Hd,YM P n ops B (T.filter fun t=>!WA ops i t.1) fuel (done++[i]) (F.put (ZB ops i).dst (.h v')) (rK v' sz (ls++Zl xs)::XC [j] h)) (hk0:0<sz:=by omega) (hk:YY n ops F i=true:=by kernel_rfl)
  (ha:U1 P ops F i=some (.h v,.sl xs hx,sz):=by kernel_rfl) (hp:W8 [j] h=some [rK v sz ls]:=by kernel_rfl) (ho:Vz ops i T=bs:=by kernel_rfl)
  (hj:js.map (fun q=>(Wm (XC [j] h))[q]?)=bs.map some:=by kernel_rfl):V2 P n ops B T fuel done F h i:=
 Ql [j] js bs hk (V7 hp) ho hj (Ms (h2:=[]) (Ve hk).2.1 ha hxs hone hm0 hk0 hne hbound hK)
end
theorem Zi.form {P:Program} {f:FuncId} {as1:List AV} {h0:List Res} {T:Hd->AV} {kk m:Nat} {ls:List AV} {hs:List Res} (H:Zi P f as1 h0 (fun r h=>∃v:Hd,r=T v/\h=rK v kk ls::hs)) (hm:ls.length=m*kk) (hk:0<kk) (h1:0<m) :
  Zi P f as1 h0 (fun r h=>∃(g c:Nat),r=T ⟨some ⟨g,0,none⟩,m,c⟩/\h=rK ⟨some ⟨g,0,none⟩,m,c⟩ kk ls::hs):=by
 intro w G vs hv hh
 refine (H w G vs hv hh).mono ?_
 rintro e w' ⟨u,r,h',G',he,⟨v,rfl,rfl⟩,hr,hh',hx⟩
 obtain ⟨g,c,rfl⟩:=N3 (hh'.ok _ (Xh ..)) hm hk h1
 exact ⟨u,_,_,G',he,⟨g,c,rfl,rfl⟩,hr,hh',hx⟩
end Go.Abs
namespace Go.Abs
section
variable {h:List Res}
theorem Z8e (j i p:Nat) {u:Value} {kk b:Nat} {es ls:List AV} (hp:W8 [j,i] h=some [.row u kk (Zl es),.obj b ls]) (hes:∀y∈es,y.leaves.length=kk) (hk:0<kk) (hl:ls[p]? = some (.val u)) :
  T4 h (.obj b (ls.set p (.sl es (some u)))::.tail u kk::XC [j,i] h):=by
 intro w G hh
 have hp':=VN (V7 hp)
 have hh':=hh.perm hp'
 obtain ⟨G',h1,h2',h3⟩:=BS (h2:=.obj b ls::XC [j,i] h) hh' hes hk
 have e:=h2'.perm hp'.symm (Tz _)
 have h1:YB w G' (.tail u kk::.obj b ls::XC [j,i] h):=h1
 have perm:(Res.tail u kk::.obj b ls::XC [j,i] h).Perm (.obj b ls::.tail u kk::XC [j,i] h):=List.Perm.swap ..
 have h4:=h1.perm perm
 have e4:=e.perm (Tz _) perm
 have hset:∀{w:World} {G:Yc},RV w G (.sl es (some u)) u->TT w G (.obj b ls)->TT w G (.obj b (ls.set p (.sl es (some u)))):=by
  intro w G hu hr
  obtain ⟨cs,el,k1,k5⟩:=hr
  refine ⟨cs,el,k1,?_⟩
  obtain ⟨c,c1,c2⟩:=k5.get p _ hl
  have:=c2.val_inv
  subst this
  have h6:=k5.set p hu
  rwa [show cs.toList.set p c=cs.toList from by
   apply List.ext_getElem?
   intro q
   rw [List.getElem?_set]
   split
   ·rename_i hq;subst hq;split
    ·exact c1.symm
    ·rename_i hq2;rw [EV om]
   ·rfl] at h6
 refine ⟨G',⟨fun r hr=>?_,?_,fun r hr=>?_,h4.lt⟩,⟨e4.os,e4.tape,e4.output,e4.size,e4.sub,e4.same,e4.newG,fun b' o hb ⟨r,hr,hf⟩=>e4.newfp b' o hb ?_⟩⟩
 ·rcases YQ.1 hr with rfl|hr
  ·exact hset h3 (h4.ok _ (Xh ..))
  ·exact h4.ok r (XG _ hr)
 ·have:=WP.1 h4.apart
  exact WP.2 ⟨fun r hr b' o f1 f2=>this.1 r hr b' o f1 f2,this.2⟩
 ·rcases YQ.1 hr with rfl|hr
  ·exact fun b' o f1 hg=>h4.prot (.obj b ls) (Xh ..) b' o f1 hg
  ·exact h4.prot r (XG _ hr)
 ·rcases YQ.1 hr with rfl|hr
  ·exact ⟨.obj b ls,Xh ..,hf⟩
  ·exact ⟨r,XG _ hr,hf⟩
theorem UE (j i p:Nat) (u:Value) (kk b:Nat) (es ls:List AV) (hes:∀y∈es,y.leaves.length=kk) (hl:ls[p]? = some (.val u)) (hk:0<kk:=by omega) (hp:W8 [j,i] h=some [.row u kk (Zl es),.obj b ls]:=by kernel_rfl) :
  T4 h (.obj b (ls.set p (.sl es (some u)))::.tail u kk::XC [j,i] h):=Z8e j i p hp hes hk hl
end
end Go.Abs
namespace Go.Abs
section
variable {P:Program} {n:Nat} {ops:Array Oper} {k:Nat} {F:Fr} {h:List Res}
theorem Z7z (j:Nat) {g l c m kk:Nat} {ls:List AV} (hi:BW P ops F k=some (.val (.slice (some ⟨g,0,none⟩) l c),(m:Int))) (hj:h[j]? = some (.row (.slice (some ⟨g,0,none⟩) l c) kk ls)) (hle:m<=l) :
  Xy P (ZB ops k) F h [] (.val (.slice (some ⟨g,0,none⟩) m c)):=by
 unfold BW at hi
 generalize hoo:ZB ops k=o at hi
 obtain ⟨dst,op,type,pos,after,guard⟩:=o
 cases op<;>simp only at hi<;>try (cases hi)
 rename_i t x lo hi' mx
 cases lo with
 | some _=>simp at hi
 | none=>
  cases hi' with
  | none=>simp at hi
  | some y=>
   cases mx with
   | some _=>simp at hi
   | none=>
    simp only at hi
    split at hi
    ·rename_i e ht
     split at hi
     ·rename_i inf hinf
      split at hi
      ·rename_i ik m' hm
       simp only [XV,Prod.mk.injEq] at hi
       obtain ⟨hx,rfl⟩:=hi
       intro n w G a hF hh
       have v1:=hF.ev x
       rw [hx] at v1
       have v1:=v1.val_inv
       have v2:=hF.ev y
       rw [hm] at v2
       have v2:=v2.val_inv
       have hcap:l<=c:=by
        rcases hh.ok _ (Y7 hj) with ⟨h0,_⟩|⟨g',l',c',cur,el,h0,_,hc,_⟩
        ·cases h0
        ·cases h0;exact hc
       refine ⟨_,.val,fun w' _ _=>?_⟩
       simp only [execOp,v1,v2,Ax,Option.map_none]
       refine V0 ?_
       simp only [Instr.sliceAt,Sem.run_bind,Vs ht,Result.andThen_ok,Instr.slice]
       have hmm:(Instr.sliceBounds true l c none (some (.int ik (m:Int))) none).run P w'=.ok (0,m,c) w':=by
        have Zz:=fun q=>BU (P:=P) (c:=q) (v:=.int ik (m:Int)) (y:=c) rfl om om w'
        simp [Instr.sliceBounds,Zz]
       rw [hmm]
       have hz:∀a:Addr,a.add 0=a:=fun a=>by simp [Addr.add]
       simp only [Result.andThen_ok,TL hinf,Nat.zero_mul,hz]
       by_cases h0:c=0<;>simp [h0]
      ·cases hi
     ·cases hi
    ·cases hi
theorem Gt (j g l c m kk:Nat) (ls:List AV) (hle:m<=l:=by omega) (hi:BW P ops F k=some (.val (.slice (some ⟨g,0,none⟩) l c),(m:Int)):=by kernel_rfl) (hj:h[j]? = some (.row (.slice (some ⟨g,0,none⟩) l c) kk ls):=by kernel_rfl) :
  Xy P (ZB ops k) F h [] (.val (.slice (some ⟨g,0,none⟩) m c)):=Z7z j hi hj hle
variable {B:Fr->List Res->Prop}
theorem iVM (l:Nat) (hK:∀v:Hd,SI P n ops B (k+1) (F.put (ZB ops k).dst (.h v)) (rV v (List.replicate l 0)::h)) (hl:l<=4294967296:=by omega) (hk:YY n ops F k=true:=by kernel_rfl)
  (hm:A8 P ops F k=some ((l:Int),(l:Int),.i 0):=by kernel_rfl):SI P n ops B k F h:=
 Z18 (Z8 (List.replicate l 0)) hk hm (X6 _) hl (by simp [Z8]) fun v'=>Ex fun g hg=>by subst hg;exact hK g
end
end Go.Abs
end
namespace Go.Abs
theorem Y8 {α:Type} {xs:List α} {k:Nat} {x:α} (h:xs[k]? = some x):xs.drop k=x::xs.drop (k+1):=by
 have hk:=(XM.1 h).1
 rw [Oq hk]
 congr 1
 rw [JB hk] at h
 exact JE h
theorem Xb {α:Type} {xs:List α} {k:Nat} (h:xs.length<=k):xs.drop k=[]:=ES h
theorem WM {α:Type} {xs:List α} {k:Nat} {x:α} (h:xs[k]? = some x):xs.take (k+1)=xs.take k++[x]:=by
 rw [List.take_add_one,h];rfl
def Ys:List Zf->Nat
 | []=>0
 | d::ds=>d.cons.length+Ys ds
theorem Cc (xs ys:List Zf):Ys (xs++ys)=Ys xs+Ys ys:=by
 induction xs with
 | nil=>simp [Ys]
 | cons d ds ih=>simp [Ys,ih];omega
structure Wn (ds:List Zf):Prop where
 len:ds.length<=4
 cons:∀d∈ds,d.cons.length<=3
 fields:∀d∈ds,∀c∈d.cons,c.fields.length<=3
theorem PM {ds:List Zf} {m:Nat} (h:∀d∈ds,d.cons.length<=m):Ys ds<=ds.length*m:=by
 induction ds with
 | nil=>simp [Ys]
 | cons d ds ih=>
  have h1:=h d (by simp)
  have h2:=ih (fun x hx=>h x (by simp [hx]))
  simp only [Ys,YS,TB];omega
theorem Wn.sum {ds:List Zf} (h:Wn ds):Ys ds<=12:=by
 have:=PM h.cons
 have:=h.len
 have:ds.length*3<=4*3:=TS 3 h.len
 omega
theorem Wn.take {ds:List Zf} (h:Wn ds) (k:Nat):Wn (ds.take k):=
 ⟨by have:=h.len;simp;omega,fun d hd=>h.cons d (TR hd),fun d hd=>h.fields d (TR hd)⟩
theorem Wn.cons_at {ds:List Zf} (h:Wn ds) {k:Nat} {d:Zf} (hd:ds[k]? = some d):d.cons.length<=3:=h.cons d (Y7 hd)
theorem Wn.fields_at {ds:List Zf} (h:Wn ds) {k j:Nat} {d:Zf} {c:Y5} (hd:ds[k]? = some d) (hc:d.cons[j]? = some c):c.fields.length<=3:=
 h.fields d (Y7 hd) c (Y7 hc)
def Up (c:Int):List Zf->Nat->Nat->Int × List Int
 | [],_,_=>(-1,[])
 | d::ds,i,first=>
  if (first:Int)<=c/\c<=((first+d.cons.length:Nat):Int)-1 then ((i:Int)+1,(d.cons[(c-first).toNat]?.map (·.fields)).getD []) else Up c ds (i+1) (first+d.cons.length)
def Xt (ds:List Zf) (c:Int):Int:=(Up c ds 0 0).1
def ZC (ds:List Zf) (c:Int):List Int:=(Up c ds 0 0).2
theorem Fo {c:Int}:∀{ds:List Zf} {i first:Nat},(Up c ds i first=(-1,[]) ∨
  ∃k d x,ds[k]? = some d/\(first+Ys (ds.take k):Int)<=c/\c<first+Ys (ds.take k)+d.cons.length/\d.cons[(c-(first+Ys (ds.take k))).toNat]? = some x/\Up c ds i first=((i:Int)+k+1,x.fields))
 | [],_,_=>.inl rfl
 | d::ds,i,first=>by
  rw [Up]
  split
  ·rename_i h
   have hlt:(c-first).toNat<d.cons.length:=by omega
   refine .inr ⟨0,d,d.cons[(c-first).toNat],rfl,by simp [Ys];omega,by simp [Ys];omega,?_,?_⟩
   ·simp [Ys]
   ·rw [JB hlt];simp
  ·rcases Fo (c:=c) (ds:=ds) (i:=i+1) (first:=first+d.cons.length) with h|⟨k,e,x,h1,h2,h3,h4,h5⟩
   ·exact .inl h
   ·refine .inr ⟨k+1,e,x,by simpa using h1,by simp [Ys];omega,by simp [Ys];omega,?_,?_⟩
    ·rw [<-h4];congr 3;simp [Ys];omega
    ·rw [h5];congr 1;omega
theorem Fp {ds:List Zf} {c:Int} (h:¬Xt ds c<1) :
  ∃k d x,ds[k]? = some d/\(Ys (ds.take k):Int)<=c/\d.cons[(c-Ys (ds.take k)).toNat]? = some x/\Xt ds c=(k:Int)+1/\ZC ds c=x.fields:=by
 rcases Fo (c:=c) (ds:=ds) (i:=0) (first:=0) with h1|⟨k,d,x,h1,h2,_,h4,h5⟩
 ·simp [Xt,h1] at h
 ·exact ⟨k,d,x,h1,by simpa using h2,by simpa using h4,by simp [Xt,h5],by simp [ZC,h5]⟩
theorem Dp {ds:List Zf} {c:Int} (h:Xt ds c<1):ZC ds c=[]/\Xt ds c=-1:=by
 rcases Fo (c:=c) (ds:=ds) (i:=0) (first:=0) with h1|⟨k,d,x,h1,h2,_,h4,h5⟩
 ·simp [ZC,Xt,h1]
 ·simp [Xt,h5] at h;omega
def Wv (first:Int):Nat->List Int
 | 0=>[]
 | n+1=>first::Wv (first+1) n
theorem Mh (first:Int) (n:Nat):Wv first (n+1)=Wv first n++[first+n]:=by
 induction n generalizing first with
 | zero=>simp [Wv]
 | succ n ih=>rw [Wv,ih (first+1),Wv];simp;omega
@[simp] theorem Z3n (first:Int) (n:Nat):(Wv first n).length=n:=by
 induction n generalizing first with
 | zero=>rfl
 | succ n ih=>simp [Wv,ih]
def Zw (ds:List Zf) (t:Int):List Int:=
 if 1<=t/\t<=ds.length then Wv (Ys (ds.take (t-1).toNat)) (((ds[(t-1).toNat]?).map (·.cons.length)).getD 0) else []
def Qh (frm to_:Int):List Zf->Nat->Int
 | [],_=>-1
 | d::ds,i=>if d.cons.length=0/\d.frm=frm/\d.to_=to_ then (i:Int)+1 else Qh frm to_ ds (i+1)
def WV (ds:List Zf) (frm to_:Int):Int:=Qh frm to_ ds 0
def X5 (ds:List Zf) (t:Int):Bool:=decide (1<=t/\t<=ds.length)&&((ds[(t-1).toNat]?).map fun d=>decide (d.cons.length=0)).getD false
theorem E0 {ds:List Zf} {t:Int} {x:Zf} (h:1<=t/\t<=ds.length) (hx:ds[(t-1).toNat]? = some x):((x.cons.length:Int)==0)=X5 ds t:=by
 rw [X5,hx,Xl];simp [h]
theorem Gn {ds:List Zf} {t:Int} (h:¬(1<=t/\t<=ds.length)):false=X5 ds t:=by
 rw [X5,Xl];simp only [Bool.false_eq_true,XL,decide_eq_true_eq,h,false_and]
def XJ (m:Nat) (xs:List Int):Bool:=xs.all fun t=>decide (0<=t/\t<=m)
end Go.Abs
section
namespace Go.Abs
section
variable {h:List Res}
end
end Go.Abs
namespace Go.Abs
section
variable {P:Program} {ops:Array Oper} {k:Nat} {F:Fr} {h:List Res}
end
end Go.Abs
end
namespace Go.Abs
section
variable {P:Program} {n:Nat} {ops:Array Oper} {B:Fr->List Res->Prop} {k:Nat} {F:Fr} {h:List Res} {T:List (Nat × List Nat)} {fuel:Nat} {done:List Nat}
theorem Mt {K:Fr->List Res->Prop} {ls:List AV} {len sz:Nat} (hd:WW n (ZB ops k)=true) (ha:UQ P ops F k=some (ls,len,sz)) (hlen:ls.length=len*sz)
  (hK:∀g,K (F.put (ZB ops k).dst (.val (.slice (some ⟨g,0,none⟩) len len))) (.row (.slice (some ⟨g,0,none⟩) len len) sz ls::h)):We P n (ZB ops k) F h K:=by
 unfold UQ at ha
 generalize hoo:ZB ops k=q at ha hd hK
 obtain ⟨dst,op,type,pos,after,guard⟩:=q
 cases op<;>simp only at ha<;>try (cases ha)
 rename_i t ln parts
 split at ha
 case h_2=>cases ha
 rename_i e ht
 split at ha
 case h_2=>cases ha
 rename_i i hi
 split at ha
 case h_2=>cases ha
 rename_i hc
 simp only [XL] at hc
 split at ha
 case h_2=>cases ha
 rename_i ls' hf
 simp only [XV,Prod.mk.injEq] at ha
 obtain ⟨rfl,rfl,Xq⟩:=ha
 intro Q w G a hF hh
 obtain ⟨cs,h1,h2⟩:=Es hF parts ht hi rfl hc.1 hc.2 hf
 have hr:(execOp a.eval { dst:=dst,op:=.buildSlice t ln parts,type:=type,pos:=pos,after:=after,guard:=guard }).run P w =
   .ok (.value (.slice (some ⟨w.heap.size,0,none⟩) ln ln)) (w.alloc (.cells cs e)):=by
  simp only [execOp]
  exact V0 h2
 unfold Oper.wp
 rw [hr]
 have hlc:=h1.length
 simp only [Qv] at hlc
 obtain ⟨j1,j2⟩:=hh.alloc_rrow cs e (ls:=ls') (len:=ln) (cap:=ln) (k:=sz) (X6 _) (by rw [hlc];exact hlen) hlen (by rw [<-hlen,<-hlc];simpa [Vg] using h1)
 exact ⟨_,_,G,hK _,(hF.mono (j2.agree hh)).put (U4 hd) .val,j1,j2⟩
theorem U7 (es es':List AV) (he:es=es') (len sz:Nat) (hK:∀v,SI P n ops B (k+1) (F.put (ZB ops k).dst (.sl es' (some v))) (.tail v sz::h)) (hk:YY n ops F k=true:=by kernel_rfl)
  (ha:UQ P ops F k=some (Zl es,len,sz):=by kernel_rfl) (hlen:es.length=len:=by kernel_rfl) (hall:J3 es sz=true:=by kernel_rfl):SI P n ops B k F h:=by
 subst he;exact iL es len sz hK hk ha hlen hall
theorem Wj (i:Nat) (js bs:List Nat) (es es':List AV) (he:es=es') (len sz:Nat) (hK:∀v,YM P n ops B (T.filter fun t=>!WA ops i t.1) fuel (done++[i]) (F.put (ZB ops i).dst (.sl es' (some v))) (.tail v sz::h))
  (hk:YY n ops F i=true:=by kernel_rfl) (ha:UQ P ops F i=some (Zl es,len,sz):=by kernel_rfl) (hlen:es.length=len:=by kernel_rfl) (hall:J3 es sz=true:=by kernel_rfl)
  (ho:Vz ops i T=bs:=by kernel_rfl) (hj:js.map (fun j=>(Wm h)[j]?)=bs.map some:=by kernel_rfl):V2 P n ops B T fuel done F h i:=by
 subst he;exact dL i js bs es len sz hK hk ha hlen hall ho hj
theorem iKN (ls:List AV) (len sz:Nat) (hK:∀g,SI P n ops B (k+1) (F.put (ZB ops k).dst (.val (.slice (some ⟨g,0,none⟩) len len))) (.row (.slice (some ⟨g,0,none⟩) len len) sz ls::h)) (hlen:ls.length=len*sz:=by rfl) (hk:YY n ops F k=true:=by kernel_rfl)
  (ha:UQ P ops F k=some (ls,len,sz):=by kernel_rfl):SI P n ops B k F h:=UO hk (Mt (Ve hk).2.1 ha hlen hK)
theorem PY (i:Nat) (js bs:List Nat) (ls:List AV) (len sz:Nat) (hK:∀g,YM P n ops B (T.filter fun t=>!WA ops i t.1) fuel (done++[i]) (F.put (ZB ops i).dst (.val (.slice (some ⟨g,0,none⟩) len len))) (.row (.slice (some ⟨g,0,none⟩) len len) sz ls::h)) (hlen:ls.length=len*sz:=by rfl)
  (hk:YY n ops F i=true:=by kernel_rfl) (ha:UQ P ops F i=some (ls,len,sz):=by kernel_rfl) (ho:Vz ops i T=bs:=by kernel_rfl) (hj:js.map (fun j=>(Wm h)[j]?)=bs.map some:=by kernel_rfl):V2 P n ops B T fuel done F h i:=
 Ql (h1:=[]) (h2:=h) [] js bs hk rfl ho hj (Mt (Ve hk).2.1 ha hlen hK)
end
theorem Zi.frz {P:Program} {f:FuncId} {as1:List AV} {h0:List Res} {E:Type} {kk:Nat} {es:E->List AV} {hs:E->List Res} {Q:E->Prop} (H:Zi P f as1 h0 (fun r h=>∃(e:E) (v:Hd),r=.h v/\h=rK v kk (Zl (es e))::hs e/\Q e)) (hes:∀e,∀y∈es e,y.leaves.length=kk) (hk:0<kk) :
  Zi P f as1 h0 (fun r h=>∃(e:E) (v:Value),r=.sl (es e) (some v)/\h=.tail v kk::hs e/\Q e):=by
 intro w G vs hv hh
 refine (H w G vs hv hh).mono ?_
 rintro e w' ⟨u,r,h',G',he,⟨x,v,rfl,rfl,hq⟩,hr,hh',hx⟩
 obtain ⟨G2,h1,h2,h3⟩:=BS hh' (hes x) hk
 have hrv:=hr.val_inv
 subst hrv
 exact ⟨_,_,_,G2,he,⟨x,v.v,rfl,rfl,hq⟩,h3,h1,hx.trans h2⟩
theorem DH {es:List AV} {sz k:Nat} {y:AV} (h:∀x∈es,x.leaves.length=sz) (hy:y.leaves.length=sz) (hk:k<es.length):(Zl es).take (k*sz)++y.leaves++(Zl es).drop (k*sz+y.leaves.length)=Zl (es.set k y):=by
 obtain ⟨x,hx⟩:=Zr (xs:=es) (j:=k) hk
 have hxl:=h x (Y7 hx)
 have e1:es=es.take k++(x::es.drop (k+1)):=by rw [<-Y8 hx,UF]
 have e2:es.set k y=es.take k++(y::es.drop (k+1)):=by rw [D6,Zo hk]
 have hl:(Zl (es.take k)).length=k*sz:=by rw [UZ (k:=sz) _ (fun z hz=>h z (TR hz)),Ww,Vq om]
 have e3:Zl es=Zl (es.take k)++(x.leaves++Zl (es.drop (k+1))):=by
  conv=>lhs;rw [e1,TG]
  simp [Zl]
 rw [e2,TG,e3,H0 hl (by rw [hxl,hy])]
 simp [Zl]
theorem Rt (ds:List Zf) (k:Nat) (d:Zf):YW (ds.set k d)=(YW ds).set k (Uo d):=by simp [YW,List.map_set]
theorem AP (xs:List Zf):(Zl (YW xs)).length=xs.length*3:=by rw [UZ (k:=3) _ (Ka xs)];simp
theorem DD {ds:List Zf} {k:Nat} (d:Zf) (hk:k<ds.length):(Zl (YW ds)).take (k*3)++Wt d++(Zl (YW ds)).drop (k*3+3)=Zl (YW (ds.set k d)):=by
 rw [Rt];exact DH (y:=Uo d) (Ka ds) rfl (by simpa using hk)
theorem FW (xs ys:List Zf):Zl (YW xs)++Zl (YW ys)=Zl (YW (xs++ys)):=by rw [Rs,TG]
section
variable {P:Program} {n:Nat} {ops:Array Oper} {B:Fr->List Res->Prop} {k:Nat} {F:Fr} {h:List Res}
theorem DR (j m:Nat) {v:Hd} {kk:Nat} {ls:List AV} (hm:ls.length=m*kk) (h0:0<m) (H:∀g c',v=⟨some ⟨g,0,none⟩,m,c'⟩->SI P n ops B k F h) (hk:0<kk:=by omega) (hj:h[j]? = some (rK v kk ls):=by kernel_rfl):SI P n ops B k F h:=by
 intro Q w G a hF hh hq
 obtain ⟨g,c',e⟩:=N3 (hh.ok _ (Y7 hj)) hm hk h0
 exact H g c' e Q w G a hF hh hq
end
section
variable {P:Program} {n:Nat} {ops:Array Oper} {B:Fr->List Res->Prop} {k:Nat} {F:Fr} {h:List Res}
def Fq (P:Program) (ops:Array Oper) (F:Fr) (k:Nat):Option (IntKind × Int):=
 match (ZB ops k).op with
 | .convert s d x=>match P.underlying s,P.underlying d,F.ev x with
  | some (.int _),some (.int q),.val (.int _ z)=>some (q,z)
  | _,_,_=>none
 | _=>none
theorem kCv (q:IntKind) (z z':Int) (e:q.wrap z=z') (hc:Fq P ops F k=some (q,z):=by kernel_rfl):Xy P (ZB ops k) F h [] (.val (.int q z')):=by
 unfold Fq at hc
 generalize hoo:ZB ops k=o at hc
 obtain ⟨dst,op,type,pos,after,guard⟩:=o
 cases op<;>simp only at hc<;>try (cases hc)
 rename_i s d x
 split at hc
 ·rename_i q1 q2 q3 z2 h1 h2 h3
  cases hc
  intro n w G ac hF hh
  have v1:=hF.ev x
  rw [h3] at v1
  have v1:=v1.val_inv
  refine ⟨_,.val,fun w' _ _=>?_⟩
  simp only [execOp,v1]
  refine V0 ?_
  simp [convert,Vs h1,Vs h2,Conv.intToInt,e]
 ·cases hc
theorem HE {z:Int} (h:0<=z/\z<=9223372036854775807):IntKind.i64.wrap z=z:=IntWalk.i64_in _ om
theorem BG (z:Int) (hz:0<=z/\z<=255) (hc:Fq P ops F k=some (.i64,z):=by kernel_rfl):Xy P (ZB ops k) F h [] (.i z):=kCv .i64 z z (HE om) hc
def JP (ops:Array Oper) (F:Fr) (k:Nat) (b:BinOp):Option (Int × Int):=
 match (ZB ops k).op with
 | .binOp c _ x y _=>if c==b then match F.ev x,F.ev y with
  | .val (.int .i64 z),.val (.int .i64 u)=>some (z,u)
  | _,_=>none else none
 | _=>none
theorem Gu (a b:Int) (hb:0<b) (ha:0<=a/\a<=9223372036854775807) (hc:JP ops F k .quo=some (a,b):=by kernel_rfl):Xy P (ZB ops k) F h [] (.i (a / b)):=by
 unfold JP at hc
 generalize hoo:ZB ops k=o at hc
 obtain ⟨dst,op,type,pos,after,guard⟩:=o
 cases op<;>simp only at hc<;>try (cases hc)
 rename_i bop t x y yt
 cases bop<;>simp only [Zh,reduceCtorEq,if_false,if_true] at hc<;>try (cases hc)
 split at hc
 ·rename_i z yk h1 h2
  cases hc
  intro n' w G ac hF hh
  have v1:=hF.ev x
  have v2:=hF.ev y
  rw [h1] at v1
  rw [h2] at v2
  have v1:=v1.val_inv
  have v2:=v2.val_inv
  refine ⟨_,.val,fun w' _ _=>?_⟩
  simp only [execOp,v1,v2]
  refine V0 ?_
  have e1:a.tdiv b=a / b:=Int.tdiv_eq_ediv_of_nonneg ha.1
  have e2:IntKind.i64.wrap (a / b)=a / b:=HE ⟨Int.ediv_nonneg ha.1 om,Int.le_trans (Int.ediv_le_self b ha.1) ha.2⟩
  have e3:b≠0:=by omega
  simp [eqGuard,binOp,Op.intDiv,e1,e2,e3]
 ·cases hc
theorem CC (a b:Int) (hb:0<b) (ha:0<=a) (hc:JP ops F k .rem=some (a,b):=by kernel_rfl):Xy P (ZB ops k) F h [] (.i (a % b)):=by
 unfold JP at hc
 generalize hoo:ZB ops k=o at hc
 obtain ⟨dst,op,type,pos,after,guard⟩:=o
 cases op<;>simp only at hc<;>try (cases hc)
 rename_i bop t x y yt
 cases bop<;>simp only [Zh,reduceCtorEq,if_false,if_true] at hc<;>try (cases hc)
 split at hc
 ·rename_i z yk h1 h2
  cases hc
  intro n' w G ac hF hh
  have v1:=hF.ev x
  have v2:=hF.ev y
  rw [h1] at v1
  rw [h2] at v2
  have v1:=v1.val_inv
  have v2:=v2.val_inv
  refine ⟨_,.val,fun w' _ _=>?_⟩
  simp only [execOp,v1,v2]
  refine V0 ?_
  have e1:a.tmod b=a % b:=Int.tmod_eq_emod_of_nonneg ha
  have e3:b≠0:=by omega
  simp [eqGuard,binOp,Op.intDiv,e1,e3]
 ·cases hc
theorem AZ (a b:Nat) (hb:0<b) (ha:a<=9223372036854775807) (hc:JP ops F k .quo=some ((a:Int),(b:Int)):=by kernel_rfl):Xy P (ZB ops k) F h [] (.i (a / b:Nat)):=by
 rw [Int.natCast_ediv];exact Gu a b om om hc
theorem E1 (a b:Nat) (hb:0<b) (_ha:a<=9223372036854775807) (hc:JP ops F k .rem=some ((a:Int),(b:Int)):=by kernel_rfl):Xy P (ZB ops k) F h [] (.i (a % b:Nat)):=by
 rw [Int.natCast_emod];exact CC a b om om hc
def TQ (a b:Int):Int:=IntKind.i64.wrap ((BitVec.ofInt 64 a ^^^ BitVec.ofInt 64 b).toNat:Int)
theorem EP {a b:Int} (ha:0<=a/\a<4611686018427387904) (hb:0<=b/\b<4611686018427387904):0<=TQ a b/\TQ a b<4611686018427387904:=by
 obtain ⟨x,rfl⟩:=Int.eq_ofNat_of_zero_le ha.1
 obtain ⟨y,rfl⟩:=Int.eq_ofNat_of_zero_le hb.1
 have h1:(BitVec.ofInt 64 (x:Int) ^^^ BitVec.ofInt 64 (y:Int)).toNat=x ^^^ y:=by
  rw [BitVec.toNat_xor,BitVec.toNat_ofInt,BitVec.toNat_ofInt]
  have e1:((x:Int) % ((2 ^ 64:Nat):Int)).toNat=x:=by omega
  have e2:((y:Int) % ((2 ^ 64:Nat):Int)).toNat=y:=by omega
  rw [e1,e2]
 have h2:x ^^^ y<2 ^ 62:=Nat.xor_lt_two_pow om om
 rw [TQ,h1,HE om]
 omega
theorem LJ (a b:Int) (hc:JP ops F k .xor=some (a,b):=by kernel_rfl):Xy P (ZB ops k) F h [] (.i (TQ a b)):=by
 unfold JP at hc
 generalize hoo:ZB ops k=o at hc
 obtain ⟨dst,op,type,pos,after,guard⟩:=o
 cases op<;>simp only at hc<;>try (cases hc)
 rename_i bop t x y yt
 cases bop<;>simp only [Zh,reduceCtorEq,if_false,if_true] at hc<;>try (cases hc)
 split at hc
 ·rename_i z yk h1 h2
  cases hc
  intro n' w G ac hF hh
  have v1:=hF.ev x
  have v2:=hF.ev y
  rw [h1] at v1
  rw [h2] at v2
  have v1:=v1.val_inv
  have v2:=v2.val_inv
  refine ⟨_,.val,fun w' _ _=>?_⟩
  simp only [execOp,v1,v2]
  refine V0 ?_
  simp [eqGuard,binOp,Op.intBits,IntKind.bits]
  exact Yx (fun z:Nat=>IntKind.i64.wrap (z:Int)) (by rw [BitVec.toNat_xor,BitVec.toNat_ofInt,BitVec.toNat_ofInt];rfl)
 ·cases hc
end
end Go.Abs
section
namespace Go.Abs
inductive Z2 where
 | mk (op num:Int) (kids:List Z2)
namespace Z2
def op:Z2->Int|.mk a _ _=>a
def num:Z2->Int|.mk _ a _=>a
def kids:Z2->List Z2|.mk _ _ a=>a
end Z2
structure Func where
 params:List Int
 result:Int
 body:Z2
structure XU where
 decls:List Zf
 funcs:List Func
instance:Inhabited Z2:=⟨.mk 0 0 []⟩
mutual
def FI:Z2->AV
 | .mk op num kids=>.agg [.i op,.i num,.sl (Yr kids) none]
def Yr:List Z2->List AV
 | []=>[]
 | e::r=>FI e::Yr r
end
abbrev ZH (e:Z2):AV:=.agg [.i e.op,.i e.num,.sl (Yr e.kids) none]
abbrev YA (e:Z2):List AV:=[.i e.op,.i e.num,.sl (Yr e.kids) none]
abbrev X3 (xs:List Z2):AV:=.sl (Yr xs) none
abbrev XR (xs:List Z2) (v:Value):AV:=.sl (Yr xs) (some v)
abbrev J2 (f:Func):AV:=.agg [Z0 f.params,.i f.result,.i f.body.op,.i f.body.num,X3 f.body.kids]
abbrev CD (f:Func):List AV:=[Z0 f.params,.i f.result,.i f.body.op,.i f.body.num,X3 f.body.kids]
def Xc (xs:List Func):List AV:=xs.map J2
abbrev BK (xs:List Func):AV:=.sl (Xc xs) none
abbrev Js (xs:List Func) (v:Value):AV:=.sl (Xc xs) (some v)
abbrev Tk (p:XU):AV:=.agg [Zd p.decls,BK p.funcs]
abbrev Jp (p:XU):List AV:=[Zd p.decls,BK p.funcs]
abbrev F8 (z:Int):AV:=.val (.int .u8 z)
def T8 (xs:List Int):List AV:=xs.map F8
abbrev X9 (xs:List Int):AV:=.sl (T8 xs) none
theorem Ru (e:Z2):FI e=ZH e:=by cases e;rw [FI];rfl
theorem XD:∀xs:List Z2,Yr xs=xs.map ZH
 | []=>by rw [Yr];rfl
 | s::ss=>by rw [Yr,XD ss,Ru];rfl
theorem Br {xs:List Z2} {j:Nat} {x:Z2} (h:xs[j]? = some x):(Yr xs)[j]? = some (ZH x):=by simp [XD,h]
theorem Dt {xs:List Func} {j:Nat} {x:Func} (h:xs[j]? = some x):(Xc xs)[j]? = some (J2 x):=by simp [Xc,h]
theorem Bn {xs:List Int} {j:Nat} {x:Int} (h:xs[j]? = some x):(T8 xs)[j]? = some (F8 x):=by simp [T8,h]
@[simp] theorem FJ (xs:List Z2):(Yr xs).length=xs.length:=by simp [XD]
@[simp] theorem Bs (xs:List Func):(Xc xs).length=xs.length:=by simp [Xc]
@[simp] theorem QG (xs:List Int):(T8 xs).length=xs.length:=by simp [T8]
theorem KA (xs ys:List Z2):Yr (xs++ys)=Yr xs++Yr ys:=by simp [XD]
theorem Rv (xs ys:List Func):Xc (xs++ys)=Xc xs++Xc ys:=by simp [Xc]
theorem FE (xs:List Int) (n:Nat):(T8 xs).take n=T8 (xs.take n):=by simp [T8]
theorem FD (xs:List Int) (n:Nat):(T8 xs).drop n=T8 (xs.drop n):=by simp [T8]
theorem Us (xs:List Z2):∀y∈Yr xs,y.leaves.length=3:=by intro y hy;simp only [XD,W6] at hy;obtain ⟨x,_,rfl⟩:=hy;rfl
theorem Du (xs:List Func):∀y∈Xc xs,y.leaves.length=5:=by intro y hy;simp only [Xc,W6] at hy;obtain ⟨x,_,rfl⟩:=hy;rfl
theorem Rq (xs:List Int):∀y∈T8 xs,y.leaves.length=1:=by intro y hy;simp only [T8,W6] at hy;obtain ⟨x,_,rfl⟩:=hy;rfl
theorem KC (xs:List Z2):(Zl (Yr xs)).all AV.one=true:=KG fun y hy=>by simp only [XD,W6] at hy;obtain ⟨x,_,rfl⟩:=hy;rfl
end Go.Abs
end
section
namespace Go.Abs
open Go.Proofs Go.Proofs.YthllacimcjakdaaGreat
section
variable {H:Type} {enc:TypeId × Value->H} {w:World}
def GA (w:World):Yc:=fun b _=>b<w.heap.size
abbrev Tr (enc:TypeId × Value->H) (w:World) (n:Nat) (t:TypeId) (cs:List Value) (x:DataW H × List MemPlace):Prop:=DataW.trod enc Tryz.prog w 0 (fun _=>true) true n t cs=some x
theorem M5 {w:World} {a:Addr} {v:Value} (h:w.cell? a=some v):a.block<w.heap.size/\a.spot=none:=by
 unfold World.cell? at h
 split at h
 ·rename_i c e fr hb
  split at h
  ·cases h
  ·rename_i hs
   exact ⟨(Ua.1 hb).1,by simpa using hs⟩
 ·cases h
theorem Ib {α:Type} {c:α->Nat}:∀{xs:List α} {ds:List (DataW H)},xs.length=ds.length->(∀(i:Nat) a d,xs[i]? = some a->ds[i]? = some d->c a+1<=Rows.uptoBulk d)->(xs.map fun a=>c a+1).sum<=Rows.uptoBulkAll ds
 | [],[],_,_=>X6 _
 | a::r,d::ds,hl,h=>by
  have h0:=h 0 a d rfl rfl
  have h1:=Ib (c:=c) (xs:=r) (ds:=ds) (by simpa using hl) fun i a d ha hd=>h (i+1) a d (by simpa using ha) (by simpa using hd)
  rw [Un,List.sum_cons,Rows.uptoBulkAll]
  omega
theorem MV {α:Type} {f:α->AV} {G:Yc} {k b:Nat} (hf:∀x,(f x).leaves.length=k):∀{xs:List α} {o:Nat},(∀(i:Nat) a,xs[i]? = some a->Wf w G b (o+i*k) (f a).leaves)->WR w G k b o (xs.map f)
 | [],_,_=>.nil
 | x::r,o,h=>by
  refine .cons (hf x) (by have:=h 0 x rfl;simpa using this) (MV hf fun i a ha=>?_)
  have:=h (i+1) a (by simpa using ha)
  rw [show o+(i+1)*k=o+k+i*k by rw [TB];omega] at this
  exact this
theorem Z4t {α:Type} [Inhabited α] {t e k:Nat} (ht:Tryz.prog.underlying t=some (.slice e)) (hk:Tryz.prog.cellsOf e=k) (h0:0<k) (f:α->AV) (hf:∀x,(f x).leaves.length=k) (c:α->Nat) (Q:α->Prop) {n:Nat} {cs:List Value} {x:DataW H × List MemPlace}
  (h:Tr enc w n t cs x) (el:∀m cs y,m<n->Tr enc w m e cs y->∃a:α,YP w (GA w) (f a).leaves cs/\c a+1<=Rows.uptoBulk y.1/\Q a) :
  ∃(v:Value) (xs:List α),cs=[v]/\RV w (GA w) (.sl (xs.map f) none) v/\(xs.map fun a=>c a+1).sum+1<=Rows.uptoBulk x.1/\∀a∈xs,Q a:=by
 rcases DataW.trod_slice ht h with ⟨rfl,rfl⟩|⟨a,len,cap,elems,rest,m,rfl,rfl,rfl,_,hlc,_,hlen,hel,_,_⟩
 ·exact ⟨_,[],rfl,.nil (by simp),by simp [Rows.uptoBulk],by simp⟩
 ·rw [hk] at hel
  have hone:∀i,i<len->∃z:α,∃cs' y,w.cells? 0 (a.add (i*k)) k=some cs'/\elems[i]? = some y/\YP w (GA w) (f z).leaves cs'/\c z+1<=Rows.uptoBulk y.1/\Q z:=by
   intro i hi
   have h1:=hel i hi
   rw [JB om] at h1
   obtain ⟨cs',h2,h3⟩:=Option.bind_eq_some_iff.1 h1
   obtain ⟨z,hz1,hz2,hz3⟩:=el m cs' _ om h3
   exact ⟨z,cs',_,h2,JB om,hz1,hz2,hz3⟩
  obtain ⟨V,hV⟩:=Go.Deep.choose_lt hone
  refine ⟨_,(List.range len).map V,rfl,?_,?_,?_⟩
  ·cases hl0:len with
   | zero=>exact .nil (by simp)
   | succ q=>
    have hsp:a.spot=none:=by
     obtain ⟨cs',y,g1,_⟩:=hV 0 om
     obtain ⟨_,g2,g3⟩:=World.cells?_some g1
     have g4:=g3 0 h0
     rw [JB om] at g4
     have g5:=(M5 g4).2
     simpa [Addr.add] using g5
    obtain ⟨b,o,sp⟩:=a
    simp only at hsp
    subst hsp
    rw [<-hl0]
    have hll:(((List.range len).map V).map f).length=len:=by simp
    have:=RV.sl (w:=w) (G:=GA w) (es:=((List.range len).map V).map f) (hv:=none) (b:=b) (o:=o) (k:=k) (cap:=cap) (by simp) (by rw [hll];exact hlc) (MV hf fun i z hz=>by
     have hi:i<len:=by have:=(XM.1 hz).1;simpa using this
     have hz':V i=z:=by simpa [hi] using hz
     obtain ⟨cs',y,g1,_,g2,_⟩:=hV i hi
     rw [hz'] at g2
     obtain ⟨_,g3,g4⟩:=World.cells?_some g1
     refine Wf.of_cells g2 fun j u hj=>?_
     have hjl:j<k:=by have:=(XM.1 hj).1;omega
     have g5:=(g4 j hjl).trans hj
     rw [Addr.add_lit,Addr.add_lit] at g5
     exact ⟨g5,(M5 g5).1⟩)
    rw [hll] at this
    exact this
  ·have:=Ib (c:=c) (xs:=(List.range len).map V) (ds:=elems.map (·.1)) (by simp [hlen]) fun i z d hz hd=>by
    have hi:i<len:=by have:=(XM.1 hz).1;simpa using this
    have hz':V i=z:=by simpa [hi] using hz
    obtain ⟨cs',y,_,g1,_,g2,_⟩:=hV i hi
    rw [Kr,g1] at hd
    simp only [Ax,XV] at hd
    rw [<-hd,<-hz']
    exact g2
   simp only [Rows.uptoBulk]
   omega
  ·intro z hz
   obtain ⟨i,hi,rfl⟩:=W6.1 hz
   obtain ⟨_,_,_,_,_,_,g⟩:=hV i (List.mem_range.1 hi)
   exact g
theorem Z4r {n:Nat} {cs:List Value} {x:DataW H × List MemPlace} (h:Tr enc w n 5 cs x):∃z:Int,cs=[.int .u8 z]/\Rows.uptoBulk x.1=1/\0<=z/\z<=255:=by
 obtain ⟨z,rfl,rfl,hw⟩:=DataW.trod_int Tryz.underlying5 h
 refine ⟨z,rfl,rfl,?_⟩
 simpa [Lit.wf,IntKind.min,IntKind.max,IntKind.signed,IntKind.bits] using hw
theorem Z4s {n:Nat} {cs:List Value} {x:DataW H × List MemPlace} (h:Tr enc w n 22 cs x):∃(v:Value) (xs:List Int),cs=[v]/\RV w (GA w) (X9 xs) v/\∀z∈xs,0<=z/\z<=255:=by
 obtain ⟨v,xs,h1,h2,h3,h4⟩:=Z4t Tryz.underlying22 (k:=1) kr om (fun z:Int=>F8 z) (fun _=>rfl) (fun _=>0) (fun z=>0<=z/\z<=255) h fun m cs y _ hy=>by
  obtain ⟨z,rfl,hb,hz⟩:=Z4r hy
  exact ⟨z,.cons .val .nil,Nat.le_of_eq hb.symm,hz⟩
 exact ⟨v,xs,h1,h2,h4⟩
end
end Go.Abs
end
namespace Go.Abs
structure Sg where
 params:List Int
 result:Int
abbrev HK (f:Sg):AV:=.agg [.sl (Z8 f.params) none,.i f.result,.i 0,.i 0,.sl [] none]
def Wp (fs:List Sg):List AV:=fs.map HK
theorem FL {xs:List Sg} {j:Nat} {x:Sg} (h:xs[j]? = some x):(Wp xs)[j]? = some (HK x):=by simp [Wp,h]
@[simp] theorem Iy (xs:List Sg):(Wp xs).length=xs.length:=by simp [Wp]
theorem Ix (xs:List Sg):∀y∈Wp xs,y.leaves.length=5:=by intro y hy;simp only [Wp,W6] at hy;obtain ⟨x,_,rfl⟩:=hy;rfl
theorem RB (xs:List Sg):(Zl (Wp xs)).all AV.one=true:=KG fun y hy=>by simp only [Wp,W6] at hy;obtain ⟨x,_,rfl⟩:=hy;rfl
mutual
def Z4.sz:Z4->Nat
 | .mk _ _ _ args kids=>1+args.length+YR kids
def Z6.sz:Z6->Nat
 | .mk steps _=>1+Yp steps
def Yp:List Z4->Nat
 | []=>0
 | s::r=>s.sz+Yp r
def YR:List Z6->Nat
 | []=>0
 | b::r=>b.sz+YR r
end
theorem Z4.sz_pos (s:Z4):1<=s.sz:=by cases s;rw [Z4.sz];omega
theorem Z6.sz_pos (b:Z6):1<=b.sz:=by cases b;rw [Z6.sz];omega
theorem Kk (l:List Z4):l.length<=Yp l:=by
 induction l with
 | nil=>simp
 | cons s r ih=>have:=s.sz_pos;simp only [YS,Yp];omega
theorem I8 (l:List Z6):l.length<=YR l:=by
 induction l with
 | nil=>simp
 | cons s r ih=>have:=s.sz_pos;simp only [YS,YR];omega
theorem Z7j {l:List Z4} {k:Nat} {s:Z4} (h:l[k]? = some s):s.sz<=Yp l:=by
 induction l generalizing k with
 | nil=>simp at h
 | cons t r ih=>
  cases k with
  | zero=>simp at h;subst h;simp only [Yp];omega
  | succ k=>have:=ih (k:=k) (by simpa using h);simp only [Yp];omega
theorem P8 {l:List Z6} {k:Nat} {s:Z6} (h:l[k]? = some s):s.sz<=YR l:=by
 induction l generalizing k with
 | nil=>simp at h
 | cons t r ih=>
  cases k with
  | zero=>simp at h;subst h;simp only [YR];omega
  | succ k=>have:=ih (k:=k) (by simpa using h);simp only [YR];omega
theorem Z4.sz_eq (s:Z4):s.sz=1+s.args.length+YR s.kids:=by cases s;rw [Z4.sz];rfl
theorem Z6.sz_eq (b:Z6):b.sz=1+Yp b.steps:=by cases b;rw [Z6.sz];rfl
theorem QY {b:Z6} {k:Nat} {s:Z4} (h:b.steps[k]? = some s):s.sz<b.sz:=by have:=Z7j h;have:=b.sz_eq;omega
theorem Uy {s:Z4} {k:Nat} {b:Z6} (h:s.kids[k]? = some b):b.sz<s.sz:=by have:=P8 h;have:=s.sz_eq;omega
theorem Qg (s:Z4):s.args.length<s.sz:=by have:=s.sz_eq;omega
theorem Uz (s:Z4):s.kids.length<s.sz:=by have:=s.sz_eq;have:=I8 s.kids;omega
theorem Vf (b:Z6):b.steps.length<b.sz:=by have:=b.sz_eq;have:=Kk b.steps;omega
structure J1 (ds:List Zf):Prop where
 len:ds.length<=4194304
 cons:∀d∈ds,d.cons.length<=4194304
 fields:∀d∈ds,∀c∈d.cons,c.fields.length<=4194304
theorem J1.cons_at {ds:List Zf} (h:J1 ds) {k:Nat} {d:Zf} (hd:ds[k]? = some d):d.cons.length<=4194304:=h.cons d (Y7 hd)
def K8 (m:Nat) (c:Y5):Bool:=decide (c.fields.length<=3)&&XJ m c.fields
def TX (d:Zf):List Zf->Bool
 | []=>false
 | e::r=>if e.cons.length=0/\e.frm=d.frm/\e.to_=d.to_ then true else TX d r
def UY (m:Nat):List Y5->Bool
 | []=>true
 | c::r=>if K8 m c=true then UY m r else false
def U3 (ds:List Zf) (d:Zf) (i:Nat):Bool:=
 if 0<d.cons.length then (if d.cons.length<=3/\d.frm=0/\d.to_=0 then UY ds.length d.cons else false)
 else if TX d (ds.take i)=true then false else decide (0<=d.frm/\d.frm<=ds.length)&&decide (0<=d.to_/\d.to_<=ds.length)
def JV (ds:List Zf) (i:Nat):Bool:=(ds[i]?.map fun d=>U3 ds d i).getD false
theorem Cd {ds:List Zf} {i:Nat} {d:Zf} (h:ds[i]? = some d):JV ds i=U3 ds d i:=by rw [JV,h];rfl
def Uq (ds:List Zf):List Zf->Nat->Bool
 | [],_=>true
 | _::r,i=>if JV ds i=true then Uq ds r (i+1) else false
def Wh (ds:List Zf):Bool:=decide (ds.length<=4)&&Uq ds ds 0
theorem Im {m:Nat} {cs:List Y5}:UY m cs=true↔∀c∈cs,K8 m c=true:=by
 induction cs with
 | nil=>simp [UY]
 | cons c r ih=>
  rw [UY]
  split
  ·rename_i h;simp [ih,h]
  ·rename_i h;simp [h]
theorem Fx {ds:List Zf}:∀{l:List Zf} {i:Nat},Uq ds l i=true↔∀j<l.length,JV ds (i+j)=true
 | [],i=>by simp [Uq]
 | d::r,i=>by
  rw [Uq]
  split
  ·rename_i h
   rw [Fx (l:=r)]
   constructor
   ·intro hq j hj
    cases j with
    | zero=>exact h
    | succ j=>have:=hq j (by simpa using hj);rwa [show i+(j+1)=i+1+j by omega]
   ·intro hq j hj
    have:=hq (j+1) (by simpa using hj)
    rwa [show i+(j+1)=i+1+j by omega] at this
  ·rename_i h
   simp only [Bool.false_eq_true,false_iff]
   intro hq
   exact h (hq 0 (by simp))
theorem Z8s {ds:List Zf} (h:Wh ds=true):Wn ds:=by
 simp only [Wh,XL,decide_eq_true_eq] at h
 obtain ⟨h1,h2⟩:=h
 rw [Fx] at h2
 have key:∀d∈ds,∃i,U3 ds d i=true:=fun d hd=>by
  obtain ⟨i,hi⟩:=List.mem_iff_getElem?.1 hd
  have:=h2 i (XM.1 hi).1
  rw [WQ,Cd hi] at this
  exact ⟨i,this⟩
 have hc:∀d∈ds,0<d.cons.length->d.cons.length<=3/\UY ds.length d.cons=true:=fun d hd hp=>by
  obtain ⟨i,hi⟩:=key d hd
  rw [U3,Zo hp] at hi
  split at hi
  ·rename_i h;exact ⟨h.1,hi⟩
  ·cases hi
 refine ⟨h1,fun d hd=>?_,fun d hd c hc'=>?_⟩
 ·by_cases hp:0<d.cons.length
  ·exact (hc d hd hp).1
  ·omega
 ·have:=Im.1 (hc d hd (List.length_pos_of_mem hc')).2 c hc'
  simp only [K8,XL,decide_eq_true_eq] at this
  exact this.1
def QU (m:Nat) (f:Sg):Bool:=decide (f.params.length<=3)&&(XJ m f.params&&decide (0<=f.result/\f.result<=m))
def QV (m:Nat):List Sg->Bool
 | []=>true
 | f::r=>if QU m f=true then QV m r else false
def DC:List Sg->Bool
 | []=>false
 | f::_=>decide (f.params.length=0)&&decide (f.result=0)
theorem RR {fs:List Sg} {x:Sg} (h:fs[0]? = some x):DC fs=(decide (x.params.length=0)&&decide (x.result=0)):=by
 cases fs with
 | nil=>simp at h
 | cons f r=>simp at h;subst h;rfl
def Qb (ds:List Zf) (fs:List Sg):Bool:=
 Wh ds&&(decide (1<=fs.length/\fs.length<=4)&&(QV ds.length fs&&DC fs))
def Qp (ps:List Int):List Int->Option Int->Bool
 | [],_=>true
 | v::r,prev=>if (0<=v/\v<=(ps.length:Int)-1)/\ps[v.toNat]?≠some 0/\(∀p,prev=some p->p<v) then Qp ps r (some v) else false
theorem GI {ps r:List Int} {v:Int} {prev:Option Int} (h:(0<=v/\v<=(ps.length:Int)-1)/\ps[v.toNat]?≠some 0/\(∀p,prev=some p->p<v)):Qp ps (v::r) prev=Qp ps r (some v):=by
 rw [Qp,Zo h]
theorem E8 {ps r:List Int} {v:Int} {prev:Option Int} (h:¬((0<=v/\v<=(ps.length:Int)-1)/\ps[v.toNat]?≠some 0/\(∀p,prev=some p->p<v))):Qp ps (v::r) prev=false:=by
 rw [Qp,Zc h]
def K1 (ps ls:List Int):Bool:=Qp ps ls none
def KJ:List Yb->Bool
 | []=>true
 | r::rs=>if K1 r.params r.lent=true then KJ rs else false
def VA (r:Yb):Sg:=⟨r.params,r.result⟩
def VL (n:Zx):Bool:=decide (n.routines.length<=4)&&(Qb n.decls (n.routines.map VA)&&KJ n.routines)
end Go.Abs
section
namespace Go.Abs
def Xw {α:Type} (xs:List α) (i:Int):Option α:=if 0<=i/\i<=(xs.length:Int)-1 then xs[i.toNat]? else none
theorem TF {α:Type} {xs:List α} {i:Int} {x:α} (h:0<=i/\i<=(xs.length:Int)-1) (hx:xs[i.toNat]? = some x):Xw xs i=some x:=by rw [Xw,Zo h,hx]
theorem Qi {α:Type} {xs:List α} {i:Int} (h:¬(0<=i/\i<=(xs.length:Int)-1)):Xw xs i=none:=by rw [Xw,Zc h]
theorem JO {α:Type} {xs:List α} {i:Int} {x:α} (h:Xw xs i=some x):(0<=i/\i<=(xs.length:Int)-1)/\xs[i.toNat]? = some x:=by
 rw [Xw] at h
 split at h
 ·rename_i h1;exact ⟨h1,h⟩
 ·cases h
def UT (vars:List Int):List Int->List Int->Bool
 | [],[]=>true
 | a::as1,t::ts=>if Xw vars a=some t then UT vars as1 ts else false
 | _,_=>false
def XS (vars args types:List Int):Bool:=UT vars args types
theorem Oa {vars:List Int}:∀{args types:List Int},args.length≠types.length->UT vars args types=false
 | [],[],h=>absurd rfl h
 | [],_::_,_=>rfl
 | _::_,[],_=>rfl
 | a::as1,t::ts,h=>by
  rw [UT]
  split
  ·exact Oa (by simpa using h)
  ·rfl
theorem Z8k {vars args types:List Int} {k:Nat} {a t:Int} (ha:args[k]? = some a) (ht:types[k]? = some t) (h:Xw vars a=some t) :
  UT vars (args.drop k) (types.drop k)=UT vars (args.drop (k+1)) (types.drop (k+1)):=by
 rw [Y8 ha,Y8 ht,UT,Zo h]
theorem O9 {vars args types:List Int} {k:Nat} {a t:Int} (ha:args[k]? = some a) (ht:types[k]? = some t) (h:Xw vars a≠some t) :
  UT vars (args.drop k) (types.drop k)=false:=by
 rw [Y8 ha,Y8 ht,UT,Zc h]
theorem Z8j {vars args types:List Int} {k:Nat} (ha:args.length<=k) (ht:types.length<=k):UT vars (args.drop k) (types.drop k)=true:=by
 rw [Xb ha,Xb ht];rfl
def WO (op:Int):Bool:=op==0||(op==6||(op==8||(op==9||op==10)))
def Xe (op:Int):Bool:=decide (0<=op/\op<=11)
def Yf (op:Int):Bool:=decide (14<=op/\op<=17)
def VQ (vars:List Int) (op into:Int):Bool:=
 if into=0 then true else if op=6 then ((Xw vars (into-1)).map fun t=>decide (0<t)).getD false else false
def QC (ds:List Zf) (ps:List Int) (res:Int):Int:=WV ds (ps.getLast?.getD 0) res
def QS (ds:List Zf) (vars:List Int) (op:Int) (args:List Int) (r:Yb):Int:=
 if op=9 then (if XS vars args r.params=true then r.result else -1)
 else if r.params.length=0∨0<r.lent.length∨¬XS vars args (r.params.take (r.params.length-1))=true then -1
 else QC ds r.params r.result
def TK (n:Zx) (vars:List Int) (op num:Int) (args:List Int):Int:=
 match Xw n.routines num with
 | none=>-1
 | some r=>QS n.decls vars op args r
def To (ds:List Zf) (vars:List Int) (op:Int) (args:List Int):Int:=
 match args with
 | [a]=>match Xw vars a with
  | some t=>if t=0 then -1 else if (op≠14/\op≠15)/\X5 ds t=true then -1 else 0
  | none=>-1
 | _=>-1
def TV (ds:List Zf) (vars:List Int) (args:List Int):Int:=
 match args with
 | [a,b]=>match Xw vars a with
  | some t=>if X5 ds t=true then
    (match ds[(t-1).toNat]? with
     | some d=>if XS vars [b] [d.frm]=true then d.to_ else -1
     | none=>-1) else -1
  | none=>-1
 | _=>-1
def X7 (ds:List Zf) (op num:Int):List (List Int):=if op=7 then [[],[]] else (Zw ds num).map (ZC ds)
mutual
def ZV (n:Zx) (vars:List Int):Z4->Int
 | .mk op num into args kids=>
  if (num≠0/\¬WO op=true)∨¬VQ vars op into=true∨(0<kids.length/\op≠7/\op≠8) then -1
  else if op=0 then (if args.length=0/\(-999<=num/\num<=999) then 0 else -1)
  else if op=1∨op=2∨op=3∨op=4 then (if XS vars args [0,0]=true then 0 else -1)
  else if op=5 then (if XS vars args [0]=true then 0 else -1)
  else if op=6 then (if 0<Xt n.decls num/\XS vars args (ZC n.decls num)=true then Xt n.decls num else -1)
  else if op=7 then (if XS vars args [0]=true then (if (X7 n.decls op num).length=0∨kids.length≠(X7 n.decls op num).length then -1 else Wi n vars kids (X7 n.decls op num) true 0) else -1)
  else if op=8 then (if XS vars args [num]=true then (if (X7 n.decls op num).length=0∨kids.length≠(X7 n.decls op num).length then -1 else Wi n vars kids (X7 n.decls op num) true 0) else -1)
  else if op=9∨op=10 then TK n vars op num args
  else if op=11 then TV n.decls vars args
  else if op=14∨op=15∨op=16∨op=17 then To n.decls vars op args
  else -1
def Wi (n:Zx) (vars:List Int):List Z6->List (List Int)->Bool->Int->Int
 | [],_,_,t=>t
 | b::bs,more,first,t=>
  match more with
  | []=>-1
  | m::ms=>if YV n (vars++m) b<0∨(first=false/\YV n (vars++m) b≠t) then -1 else Wi n vars bs ms false (YV n (vars++m) b)
def V9 (n:Zx):List Z4->List Int->Option (List Int)
 | [],vars=>some vars
 | s::r,vars=>if ZV n vars s<0 then none else V9 n r (if Xe s.op=true then vars++[ZV n vars s] else vars)
def YV (n:Zx) (vars:List Int):Z6->Int
 | .mk steps result=>match V9 n steps vars with
  | none=>-1
  | some vs=>(Xw vs result).getD (-1)
end
def Ui (n:Zx) (vars:List Int) (op num:Int) (kids:List Z6):Int:=
 if (X7 n.decls op num).length=0∨kids.length≠(X7 n.decls op num).length then -1 else Wi n vars kids (X7 n.decls op num) true 0
mutual
def A6:Z4->Int->Int
 | .mk _ _ _ _ kids,left=>Tw kids left
def W1:Z6->Int->Int
 | .mk steps _,left=>Td steps left
def Td:List Z4->Int->Int
 | [],left=>left
 | s::r,left=>if left<1 then -1 else if A6 s (left-1)<0 then -1 else Td r (A6 s (left-1))
def Tw:List Z6->Int->Int
 | [],left=>left
 | b::r,left=>if W1 b left<0 then -1 else Tw r (W1 b left)
end
def U9 (b:Z6):Int:=if W1 b 600<0 then -1 else 600-W1 b 600
def Q6 (n:Zx):List Yb->Bool
 | []=>true
 | r::rs=>if ¬U9 r.body<0/\YV n r.params r.body=r.result then Q6 n rs else false
def Wd (n:Zx):Bool:=VL n&&Q6 n n.routines
theorem GH:(∀(s:Z4) (l:Int),0<=l->A6 s l<=l)/\(∀(b:Z6) (l:Int),0<=l->W1 b l<=l):=by
 have key:∀m:Nat,(∀s:Z4,s.sz<=m->∀l:Int,0<=l->A6 s l<=l)/\(∀b:Z6,b.sz<=m->∀l:Int,0<=l->W1 b l<=l):=by
  intro m
  induction m with
  | zero=>exact ⟨fun s h=>by have:=s.sz_pos;omega,fun s h=>by have:=s.sz_pos;omega⟩
  | succ m ih=>
   refine ⟨fun s hs l hl=>?_,fun b hb l hl=>?_⟩
   ·cases s with
    | mk op num into args kids=>
     rw [A6]
     have hk:YR kids<=m:=by rw [Z4.sz] at hs;omega
     clear hs
     induction kids generalizing l with
     | nil=>rw [Tw];exact Int.le_refl _
     | cons b r ihr=>
      rw [YR] at hk
      have:=ih.2 b om l hl
      rw [Tw]
      split
      ·omega
      ·have:=ihr (W1 b l) om om;omega
   ·cases b with
    | mk steps res=>
     rw [W1]
     have hk:Yp steps<=m:=by rw [Z6.sz] at hb;omega
     clear hb
     induction steps generalizing l with
     | nil=>rw [Td];exact Int.le_refl _
     | cons s r ihr=>
      rw [Yp] at hk
      rw [Td]
      split
      ·omega
      ·have:=ih.1 s om (l-1) om
       split
       ·omega
       ·have:=ihr (A6 s (l-1)) om om;omega
 exact ⟨fun s l hl=>(key s.sz).1 s (X6 _) l hl,fun b l hl=>(key b.sz).2 b (X6 _) l hl⟩
end Go.Abs
namespace Go.Abs
theorem Z7k {l:List Z4} {k:Nat} {s:Z4} (h:l[k]? = some s):k+s.sz<=Yp l:=by
 induction l generalizing k with
 | nil=>simp at h
 | cons t r ih=>
  cases k with
  | zero=>simp at h;subst h;simp only [Yp];omega
  | succ k=>have:=ih (k:=k) (by simpa using h);have:=t.sz_pos;simp only [Yp];omega
theorem An {b:Z6} {k:Nat} {s:Z4} (h:b.steps[k]? = some s):k+s.sz<b.sz:=by have:=Z7k h;have:=b.sz_eq;omega
structure Xd (n:Zx):Prop where
 decls:Wn n.decls
 len:n.routines.length<=4
 params:∀r∈n.routines,r.params.length<=3
 lent:∀r∈n.routines,r.lent.length<=4194304
theorem Xd.params_at {n:Zx} (h:Xd n) {k:Nat} {r:Yb} (hr:n.routines[k]? = some r):r.params.length<=3:=h.params r (Y7 hr)
theorem Xd.lent_at {n:Zx} (h:Xd n) {k:Nat} {r:Yb} (hr:n.routines[k]? = some r):r.lent.length<=4194304:=h.lent r (Y7 hr)
theorem P2 {ds:List Zf} {num:Int} {k:Nat} {x:Int} (h:(Zw ds num)[k]? = some x):(X7 ds 8 num)[k]? = some (ZC ds x):=by
 rw [X7,Zc om,Kr,h];rfl
end Go.Abs
namespace Go.Abs
theorem GQ {ds:List Zf} (hd:Wn ds) (t:Int):(Zw ds t).length<=3:=by
 rw [Zw]
 split
 ·rename_i h
  obtain ⟨d,hd1⟩:=Zr (xs:=ds) (j:=(t-1).toNat) om
  rw [hd1,Z3n]
  exact hd.cons_at hd1
 ·simp
theorem VK {ds:List Zf} (hd:Wn ds) (c:Int):(ZC ds c).length<=3:=by
 by_cases h:Xt ds c<1
 ·rw [(Dp h).1];simp
 ·obtain ⟨k,d,x,h1,_,h3,_,h5⟩:=Fp h
  rw [h5];exact hd.fields_at h1 h3
theorem HU {ds:List Zf} (hd:Wn ds) {op num:Int} {k:Nat} {m:List Int} (h:(X7 ds op num)[k]? = some m):m.length<=3:=by
 have hm:=Y7 h
 rw [X7] at hm
 split at hm
 ·simp at hm;subst hm;simp
 ·obtain ⟨c,_,rfl⟩:=W6.1 hm;exact VK hd c
theorem QB {α:Type} {xs:List α} {x:α} (h:xs.length=1) (hx:xs[0]? = some x):xs=[x]:=by
 cases xs with
 | nil=>simp at h
 | cons a r=>
  cases r with
  | nil=>simp at hx;rw [hx]
  | cons b r=>simp at h
theorem Bl {ds:List Zf} {us args:List Int} {op:Int} (h:args.length≠1):To ds us op args=-1:=by
 cases args with
 | nil=>rfl
 | cons a r=>
  cases r with
  | nil=>simp at h
  | cons b r=>rfl
theorem Bm {ds:List Zf} {us args:List Int} {op a:Int} (h:args=[a]) (hi:¬(0<=a/\a<=(us.length:Int)-1)):To ds us op args=-1:=by
 subst h;rw [To];simp only [Qi hi]
theorem Bk {ds:List Zf} {us args:List Int} {op a t:Int} (h:args=[a]) (hi:0<=a/\a<=(us.length:Int)-1) (ht:us[a.toNat]? = some t) :
  To ds us op args=if t=0 then -1 else if (op≠14/\op≠15)/\X5 ds t=true then -1 else 0:=by
 subst h;rw [To];simp only [TF hi ht]
theorem Z55 {n:Zx} {us args:List Int} {op num:Int} {r:Yb} (hi:0<=num/\num<=(n.routines.length:Int)-1) (hr:n.routines[num.toNat]? = some r) :
  TK n us op num args=QS n.decls us op args r:=by
 rw [TK];simp only [TF hi hr]
theorem Z56 {n:Zx} {us args:List Int} {op num:Int} (hi:¬(0<=num/\num<=(n.routines.length:Int)-1)):TK n us op num args=-1:=by
 rw [TK];simp only [Qi hi]
theorem Ln {xs:List Int} {x:Int} (h:xs[xs.length-1]? = some x):xs.getLast?.getD 0=x:=by
 rw [List.getLast?_eq_getElem?,h];rfl
theorem LU {n:Zx} {us:List Int} {bs:List Z6} {ms:List (List Int)} {b:Z6} {m:List Int} {k:Nat} {t:Int} (hb:bs[k]? = some b) (hm:ms[k]? = some m)
  (h:¬(YV n (us++m) b<0∨(k:Int)>0/\YV n (us++m) b≠t)) :
  Wi n us (bs.drop k) (ms.drop k) (decide (k=0)) t=Wi n us (bs.drop (k+1)) (ms.drop (k+1)) (decide (k+1=0)) (YV n (us++m) b):=by
 rw [Y8 hb,Y8 hm,Wi,Zc]
 ·simp
 ·rintro (q|⟨q1,q2⟩)
  ·exact h (.inl q)
  ·exact h (.inr ⟨by simp at q1;omega,q2⟩)
theorem LS {n:Zx} {us:List Int} {bs:List Z6} {ms:List (List Int)} {b:Z6} {m:List Int} {k:Nat} {t:Int} (hb:bs[k]? = some b) (hm:ms[k]? = some m)
  (h:YV n (us++m) b<0∨(k:Int)>0/\YV n (us++m) b≠t) :
  Wi n us (bs.drop k) (ms.drop k) (decide (k=0)) t=-1:=by
 rw [Y8 hb,Y8 hm,Wi,Zo]
 rcases h with q|⟨q1,q2⟩
 ·exact .inl q
 ·exact .inr ⟨by simp;omega,q2⟩
theorem LT {n:Zx} {us:List Int} {bs:List Z6} {ms:List (List Int)} {k:Nat} {f:Bool} {t:Int} (hb:bs.length<=k):Wi n us (bs.drop k) (ms.drop k) f t=t:=by
 rw [Xb hb,Wi]
end Go.Abs
end
namespace Go.Abs
theorem B8 (n:Zx) (us:List Int) (s:Z4):ZV n us s =
  if (s.num≠0/\¬WO s.op=true)∨¬VQ us s.op s.into=true∨(0<s.kids.length/\s.op≠7/\s.op≠8) then -1
  else if s.op=0 then (if s.args.length=0/\(-999<=s.num/\s.num<=999) then 0 else -1)
  else if s.op=1∨s.op=2∨s.op=3∨s.op=4 then (if XS us s.args [0,0]=true then 0 else -1)
  else if s.op=5 then (if XS us s.args [0]=true then 0 else -1)
  else if s.op=6 then (if 0<Xt n.decls s.num/\XS us s.args (ZC n.decls s.num)=true then Xt n.decls s.num else -1)
  else if s.op=7 then (if XS us s.args [0]=true then Ui n us s.op s.num s.kids else -1)
  else if s.op=8 then (if XS us s.args [s.num]=true then Ui n us s.op s.num s.kids else -1)
  else if s.op=9∨s.op=10 then TK n us s.op s.num s.args
  else if s.op=11 then TV n.decls us s.args
  else if s.op=14∨s.op=15∨s.op=16∨s.op=17 then To n.decls us s.op s.args
  else -1:=by
 cases s with
 | mk op num into args kids=>rw [ZV];rfl
theorem Dh (n:Zx) (us:List Int) (b:Z6):YV n us b=match V9 n b.steps us with
  | none=>-1
  | some vs=>(Xw vs b.result).getD (-1):=by
 cases b with
 | mk st r=>rw [YV];rfl
theorem HT {α:Type} {xs:List α} {x:α} (h:xs.length=2) (hx:xs[0]? = some x):∃y,xs=[x,y]:=by
 match xs,h with
 | [a,b],_=>simp at hx;subst hx;exact ⟨b,rfl⟩
theorem Ub {ds:List Zf} {us args:List Int} (h:args.length≠2):TV ds us args=-1:=by
 match args,h with
 | [],_=>rfl
 | [_],_=>rfl
 | [_,_],h=>simp at h
 | _::_::_::_,_=>rfl
theorem Uc {ds:List Zf} {us args:List Int} {a:Int} (hl:args.length=2) (h:args[0]? = some a) (hi:¬(0<=a/\a<=(us.length:Int)-1)):TV ds us args=-1:=by
 obtain ⟨y,rfl⟩:=HT hl h;rw [TV];simp only [Qi hi]
theorem U2 {ds:List Zf} {us args:List Int} {a t:Int} (hl:args.length=2) (h:args[0]? = some a) (hi:0<=a/\a<=(us.length:Int)-1) (ht:us[a.toNat]? = some t) :
  TV ds us args=if X5 ds t=true then
    (match ds[(t-1).toNat]? with
     | some d=>if XS us (args.drop 1) [d.frm]=true then d.to_ else -1
     | none=>-1) else -1:=by
 obtain ⟨y,rfl⟩:=HT hl h;rw [TV];simp only [TF hi ht];rfl
theorem OV {ds:List Zf} {us args:List Int} {a t:Int} {d:Zf} (hl:args.length=2) (h:args[0]? = some a) (hi:0<=a/\a<=(us.length:Int)-1) (ht:us[a.toNat]? = some t)
  (hA:X5 ds t=true) (hd:ds[(t-1).toNat]? = some d):TV ds us args=if XS us (args.drop 1) [d.frm]=true then d.to_ else -1:=by
 rw [U2 hl h hi ht,Zo hA];simp only [hd]
theorem Gp {ds:List Zf} {t:Int} (h:X5 ds t=true):1<=t/\t<=ds.length:=by
 simp only [X5,XL,decide_eq_true_eq] at h;exact h.1
theorem M1 (b:Z6) (l:Int):W1 b l=Td b.steps l:=by cases b;rw [W1];rfl
theorem E7 (s:Z4) (l:Int):A6 s l=Tw s.kids l:=by cases s;rw [A6];rfl
structure TC (n:Zx):Prop where
 decls:J1 n.decls
 len:n.routines.length<=4194304
 params:∀r∈n.routines,r.params.length<=4194304
 lent:∀r∈n.routines,r.lent.length<=4194304
 body:∀r∈n.routines,r.body.sz<=10000000
theorem Ha {m:Nat} {fs:List Sg} (h:QV m fs=true):∀f∈fs,QU m f=true:=by
 induction fs with
 | nil=>simp
 | cons f r ih=>
  rw [QV] at h
  split at h
  ·rename_i h1
   intro g hg
   rcases YQ.1 hg with rfl|hg
   ·exact h1
   ·exact ih h g hg
  ·cases h
theorem GO {n:Zx} (hz:TC n) (h:VL n=true):Xd n:=by
 simp only [VL,Qb,XL,decide_eq_true_eq] at h
 obtain ⟨h1,⟨h2,h3,h4,h5⟩,h6⟩:=h
 refine ⟨Z8s h2,h1,fun r hr=>?_,hz.lent⟩
 have:=Ha h4 (VA r) (W6.2 ⟨r,hr,rfl⟩)
 simp only [QU,XL,decide_eq_true_eq] at this
 exact this.1
def gI (xs:List Int) (i:Int):Int:=xs[i.toNat]?.getD 0
theorem UK {xs:List Int} {i:Int} {x:Int} (h:xs[i.toNat]? = some x):gI xs i=x:=by rw [gI,h];rfl
structure ZJ where
 vars:List Int
 own:List Int
 par:List Int
 con:List Int
 fst:List Int
 tok:List Int
def ZJ.grow (L:ZJ) (t own par:Int):ZJ:=⟨L.vars++[t],L.own++[own],L.par++[par],L.con++[-1],L.fst++[-1],L.tok++[-1]⟩
def Ti (L:ZJ) (v:Int):Option ZJ:=if gI L.own v<1 then none else some { L with own:=L.own.set v.toNat (gI L.own v-1) }
def TU (own par ln:List Int):Nat->Int->Bool
 | 0,_=>false
 | k+1,v=>if gI own v<1/\¬v∈ln then (if gI par v<0 then false else TU own par ln k (gI par v)) else true
def VD (L:ZJ) (ln:List Int) (v:Int):Bool:=TU L.own L.par ln (v.toNat+1) v
def TE:List Int->Int->List Int->List Int
 | own,_,[]=>own
 | own,p,f::r=>TE (if f≠0 then own.set p.toNat (gI own p+1) else own) (p+1) r
def KL (ds:List Zf) (L:ZJ) (op x:Int):Option ZJ:=
 if gI L.con x<0∨(op=17/\0<=gI L.tok x) then none
 else match Ti L x with
  | none=>none
  | some L1=>some { L1 with
    own:=TE L1.own (gI L.fst x) (ZC ds (gI L.con x))
    tok:=if op=17 then L.tok.set x.toNat (ZC ds (gI L.con x)).length else L.tok }
def T6 (op:Int):Bool:=op==6||(op==9||(op==10||op==11))
def E9 (n:Zx) (op num:Int):List Int:=if op=9 then ((n.routines[num.toNat]?).map (·.lent)).getD [] else []
def WK (n:Zx) (op num:Int) (i:Nat):Bool:=decide ((i:Int)∈E9 n op num)
def UX (n:Zx) (vars:List Int) (op num a:Int) (i:Nat):Bool:=T6 op&&(gI vars a != 0&&!WK n op num i)
def Qm (n:Zx) (op num:Int):List Int->Nat->ZJ->Option ZJ
 | [],_,L=>some L
 | a::r,i,L=>if UX n L.vars op num a i=true then (match Ti L a with
   | none=>none
   | some L1=>Qm n op num r (i+1) L1) else Qm n op num r (i+1) L
def A1 (n:Zx) (op num:Int) (ln:List Int) (L:ZJ):List Int->Nat->Bool
 | [],_=>true
 | a::r,i=>if WK n op num i=true/\¬VD L ln a=true then false else A1 n op num ln L r (i+1)
def Cr (L:ZJ) (into:Int) (m:Nat):Option ZJ:=
 if 0<into then (if gI L.tok (into-1)≠m then none else some { L with tok:=L.tok.set (into-1).toNat (-1) }) else some L
def Kb (n:Zx) (ln:List Int) (L:ZJ) (op num into:Int) (args:List Int):Option ZJ:=
 match Qm n op num args 0 L with
 | none=>none
 | some L1=>if A1 n op num ln L1 args 0=true then Cr L1 into args.length else none
def Ar:List Int->List Int->Bool
 | o::os,t::ts=>if o≠0∨0<=t then false else Ar os ts
 | _,_=>true
def ZJ.take (L:ZJ) (m:Nat):ZJ:=⟨L.vars.take m,L.own.take m,L.par.take m,L.con.take m,L.fst.take m,L.tok.take m⟩
def Ky (L:ZJ) (m:Nat):Option ZJ:=if Ar (L.own.drop m) (L.tok.drop m)=true then some (L.take m) else none
def AS (L:ZJ) (par:Int):List Int->ZJ
 | []=>L
 | t::r=>AS (L.grow t 0 par) par r
def AF (ds:List Zf) (L:ZJ) (x c:Int):ZJ:=
 AS { L with con:=L.con.set x.toNat c,fst:=L.fst.set x.toNat L.vars.length } x (ZC ds c)
def T1 (ds:List Zf) (L:ZJ) (op num:Int) (args:List Int) (i:Nat):ZJ:=
 if op=8 then AF ds L (gI args 0) (gI (Zw ds num) i) else L
def Ju (lent:List Int):List Int->Nat->ZJ->ZJ
 | [],_,L=>L
 | t::r,i,L=>Ju lent r (i+1) (L.grow t (if t≠0/\¬(i:Int)∈lent then 1 else 0) (-1))
def QP (r:Yb):ZJ:=Ju r.lent r.params 0 ⟨[],[],[],[],[],[]⟩
def AL (L:ZJ) (ln:List Int) (v:Int):Option ZJ:=if VD L ln v=true then some { L with own:=L.own.set v.toNat (gI L.own v+1) } else none
def Ki (n:Zx) (ln:List Int) (L:ZJ) (op num into:Int) (args:List Int) (ch:Option ZJ):Option ZJ:=
 if op=14 then AL L ln (gI args 0)
 else if op=15 then Ti L (gI args 0)
 else if op=16∨op=17 then KL n.decls L op (gI args 0)
 else if op=7∨op=8 then (if op=8/\¬VD L ln (gI args 0)=true then none else ch)
 else Kb n ln L op num into args
def KF (L:ZJ) (op t:Int) (r:Option ZJ):Option ZJ:=
 match r with
 | none=>none
 | some L1=>if Xe op=true then some (L1.grow t (if t≠0 then 1 else 0) (-1)) else some L1
def B0 (L:ZJ) (first:Option ZJ) (rest:ZJ->Bool):Option ZJ:=
 match first with
 | none=>none
 | some one=>if rest one=true then some { L with own:=one.own,tok:=one.tok } else none
def Ew (one:ZJ) (two:Option ZJ) (rest:Bool):Bool:=
 match two with
 | none=>false
 | some two=>if one.own=two.own/\one.tok=two.tok then rest else false
def CZ (r:Option ZJ) (f:ZJ->Option ZJ):Option ZJ:=match r with|none=>none|some L=>f L
def KE (m:Nat) (res:Int) (L:ZJ):Option ZJ:=CZ (if gI L.vars res≠0 then Ti L res else some L) fun L2=>Ky L2 m
mutual
def TN (n:Zx) (ln:List Int) (L:ZJ):Z4->Option ZJ
 | .mk op num into args kids=>KF L op (ZV n L.vars (.mk op num into args kids)) (Ki n ln L op num into args (QN n ln L op num args kids))
def QN (n:Zx) (ln:List Int) (L:ZJ) (op num:Int) (args:List Int):List Z6->Option ZJ
 | []=>none
 | b::bs=>B0 L (VE n ln (T1 n.decls L op num args 0) L.vars.length b) fun one=>Ke n ln L op num args one bs 1
def Ke (n:Zx) (ln:List Int) (L:ZJ) (op num:Int) (args:List Int) (one:ZJ):List Z6->Nat->Bool
 | [],_=>true
 | b::bs,i=>Ew one (VE n ln (T1 n.decls L op num args i) L.vars.length b) (Ke n ln L op num args one bs (i+1))
def Km (n:Zx) (ln:List Int) (L:ZJ):List Z4->Option ZJ
 | []=>some L
 | s::r=>CZ (TN n ln L s) fun L1=>Km n ln L1 r
def VE (n:Zx) (ln:List Int) (L:ZJ) (m:Nat):Z6->Option ZJ
 | .mk steps result=>CZ (Km n ln L steps) (KE m result)
end
theorem NY (n:Zx) (ln:List Int) (L:ZJ) (s:Z4):TN n ln L s=KF L s.op (ZV n L.vars s) (Ki n ln L s.op s.num s.into s.args (QN n ln L s.op s.num s.args s.kids)):=by
 cases s with
 | mk op num into args kids=>rw [TN];rfl
theorem Fi (n:Zx) (ln:List Int) (L:ZJ) (m:Nat) (b:Z6):VE n ln L m b=CZ (Km n ln L b.steps) (KE m b.result):=by
 cases b with
 | mk st r=>rw [VE];rfl
structure UH (L:ZJ):Prop where
 own:L.own.length=L.vars.length
 par:L.par.length=L.vars.length
 con:L.con.length=L.vars.length
 fst:L.fst.length=L.vars.length
 tok:L.tok.length=L.vars.length
structure Xx (ds:List Zf) (L:ZJ) (q:Int):Prop where
 len:UH L
 down:∀j:Int,0<=j->j<L.vars.length->gI L.par j<j
 arm:∀x:Int,0<=x->x<L.vars.length->0<=gI L.con x->0<=gI L.fst x/\gI L.fst x+(ZC ds (gI L.con x)).length<=L.vars.length
 nn:∀x∈L.own,0<=x
 bd:∀x∈L.own,x<=q
end Go.Abs
section
namespace Go.Abs
end Go.Abs
namespace Go.Abs
theorem Z35 {n:Zx} {op num:Int} {r:Yb} (h:op=9) (hr:n.routines[num.toNat]? = some r):E9 n op num=r.lent:=by
 rw [E9,Zo h,hr];rfl
end Go.Abs
namespace Go.Abs
theorem OH {own par ln:List Int} {N:Int} (hd:∀j:Int,0<=j->j<N->gI par j<j):∀(k:Nat) (v:Int),0<=v->v<N->v.toNat+1<=k->TU own par ln k v=TU own par ln (v.toNat+1) v:=by
 intro k
 induction k using Nat.strongRecOn with
 | ind k ih=>
  intro v h0 hN hk
  cases k with
  | zero=>omega
  | succ k=>
   rw [TU,TU]
   split
   ·split
    ·rfl
    ·have hdv:=hd v h0 hN
     rw [ih k om (gI par v) om om om]
     rw [ih v.toNat om (gI par v) om om om]
   ·rfl
theorem OJ {own par ln:List Int} {N j x1 x2:Int} {r:Bool} (h1:gI own j=x1) (h2:gI par j=x2) (hj:0<=j/\j<N) (hx:x1<1/\¬j∈ln) (h0:¬x2<0) (hd:∀i:Int,0<=i->i<N->gI par i<i)
  (h:TU own par ln (j.toNat+1) j=r):TU own par ln (x2.toNat+1) x2=r:=by
 rw [TU,h1,h2,Zo hx,Zc h0] at h
 have hdv:=hd j hj.1 hj.2
 rw [<-h,OH hd j.toNat x2 om om om]
theorem OI {own par ln:List Int} {j x1 x2:Int} {r:Bool} (h1:gI own j=x1) (h2:gI par j=x2) (hx:x1<1/\¬j∈ln) (h0:x2<0) (h:TU own par ln (j.toNat+1) j=r):false=r:=by
 rw [TU,h1,h2,Zo hx,Zo h0] at h;exact h
theorem OK {own par ln:List Int} {j x1:Int} {r:Bool} (h1:gI own j=x1) (hx:¬(x1<1/\¬j∈ln)) (h:TU own par ln (j.toNat+1) j=r):true=r:=by
 rw [TU,h1,Zc hx] at h;exact h
end Go.Abs
namespace Go.Abs
theorem Kn {L L':ZJ} {v:Int} (h:Ti L v=some L'):1<=gI L.own v/\L'.vars=L.vars/\L'.par=L.par/\L'.con=L.con/\L'.fst=L.fst/\L'.tok=L.tok/\L'.own=L.own.set v.toNat (gI L.own v-1):=by
 rw [Ti] at h
 split at h
 ·cases h
 ·cases h;exact ⟨by omega,rfl,rfl,rfl,rfl,rfl,rfl⟩
theorem G5 {xs:List Int} {v:Int} (h:gI xs v≠0):gI xs v∈xs:=by
 rw [gI] at h ⊢
 cases hx:xs[v.toNat]? with
 | none=>rw [hx] at h;exact absurd rfl h
 | some y=>exact Y7 hx
theorem Kg {xs:List Int} {i:Nat} {a x:Int} (h:x∈xs.set i a):x∈xs∨x=a:=List.mem_or_eq_of_mem_set h
theorem Xx.take {ds:List Zf} {L L':ZJ} {q v:Int} (hk:Xx ds L q) (h:Ti L v=some L'):Xx ds L' q:=by
 obtain ⟨t1,t2,t3,t4,t5,t6,t7⟩:=Kn h
 obtain ⟨f1,f2,f3,f4,f5⟩:=hk.len
 have hm:=G5 (xs:=L.own) (v:=v) om
 refine ⟨⟨by rw [t7,t2,UU];exact f1,by rw [t3,t2];exact f2,by rw [t4,t2];exact f3,by rw [t5,t2];exact f4,by rw [t6,t2];exact f5⟩,?_,?_,?_,?_⟩
 ·rw [t2,t3];exact hk.down
 ·rw [t2,t4,t5];exact hk.arm
 ·rw [t7];intro x hx
  rcases Kg hx with hx|rfl
  ·exact hk.nn x hx
  ·omega
 ·rw [t7];intro x hx
  rcases Kg hx with hx|rfl
  ·exact hk.bd x hx
  ·have:=hk.bd _ hm;omega
end Go.Abs
end
namespace Go.Abs
theorem Hw {us:List Int}:∀{args tys:List Int},UT us args tys=true->args.length=tys.length/\∀a∈args,0<=a/\a<us.length
 | [],[],_=>⟨rfl,by simp⟩
 | [],_::_,h=>by cases h
 | _::_,[],h=>by cases h
 | a::as1,t::ts,h=>by
  rw [UT] at h
  split at h
  ·rename_i h1
   obtain ⟨q1,q2⟩:=Hw h
   refine ⟨by simp [q1],fun x hx=>?_⟩
   rcases YQ.1 hx with rfl|hx
   ·have:=(JO h1).1;omega
   ·exact q2 x hx
  ·cases h
theorem LR {n:Zx} {us:List Int}:∀{bs:List Z6} {ms:List (List Int)} {f:Bool} {t:Int},0<=t->0<=Wi n us bs ms f t ->
  ∀(i:Nat) (b:Z6) (m:List Int),bs[i]? = some b->ms[i]? = some m->0<=YV n (us++m) b
 | [],_,_,_,_,_,i,b,m,hb,_=>by simp at hb
 | b::bs,[],_,_,_,h,_,_,_,_,hm=>by simp at hm
 | b::bs,m::ms,f,t,ht,h,i,c,l,hc,hl=>by
  rw [Wi] at h
  split at h
  ·omega
  ·rename_i hq
   have h0:0<=YV n (us++m) b:=by
    rcases Int.lt_or_le (YV n (us++m) b) 0 with q|q
    ·exact absurd (.inl q) hq
    ·exact q
   cases i with
   | zero=>simp at hc hl;subst hc hl;exact h0
   | succ i=>exact LR h0 h i c l (by simpa using hc) (by simpa using hl)
structure AA (n:Zx) (us:List Int) (s:Z4):Prop where
 args:∀a∈s.args,0<=a/\a<us.length
 one:(s.op=7∨s.op=8∨(14<=s.op/\s.op<=17))->∃a,s.args=[a]
 num:s.op=9->0<=s.num/\s.num<n.routines.length
 into:s.into≠0->1<=s.into/\s.into<=us.length
 kids:(s.op=7∨s.op=8)->s.kids.length=(X7 n.decls s.op s.num).length/\(X7 n.decls s.op s.num).length≠0 /\
  ∀(i:Nat) (b:Z6) (m:List Int),s.kids[i]? = some b->(X7 n.decls s.op s.num)[i]? = some m->0<=YV n (us++m) b
theorem Z2p {n:Zx} {us:List Int} {op num:Int} {kids:List Z6} (h:0<=Ui n us op num kids) :
  kids.length=(X7 n.decls op num).length/\(X7 n.decls op num).length≠0/\∀(i:Nat) (b:Z6) (m:List Int),kids[i]? = some b->(X7 n.decls op num)[i]? = some m->0<=YV n (us++m) b:=by
 rw [Ui] at h
 split at h
 ·omega
 ·rename_i hq
  exact ⟨by omega,by omega,LR (Int.le_refl 0) h⟩
theorem M3 {xs:List Int} (h:xs.length=1):∃a,xs=[a]:=by
 match xs,h with
 | [a],_=>exact ⟨a,rfl⟩
theorem O0 {n:Zx} {us:List Int} {s:Z4} (h:0<=ZV n us s):AA n us s:=by
 rw [B8] at h
 split at h
 ·omega
 rename_i h0
 have hinto:s.into≠0->1<=s.into/\s.into<=us.length:=by
  intro hi
  have hv:VQ us s.op s.into=true:=by
   cases q:VQ us s.op s.into with
   | true=>rfl
   | false=>exact absurd (.inr (.inl (by rw [q];simp))) h0
  rw [VQ,Zc hi] at hv
  split at hv
  ·cases ha:Xw us (s.into-1) with
   | none=>rw [ha] at hv;cases hv
   | some t=>have:=(JO ha).1;omega
  ·cases hv
 have mk:(∀a∈s.args,0<=a/\a<us.length)->((s.op=7∨s.op=8∨(14<=s.op/\s.op<=17))->∃a,s.args=[a])->(s.op=9->0<=s.num/\s.num<n.routines.length) ->
   ((s.op=7∨s.op=8)->0<=Ui n us s.op s.num s.kids)->AA n us s:=fun a b c d=>⟨a,b,c,hinto,fun q=>Z2p (d q)⟩
 have ty:∀{tys},XS us s.args tys=true->s.args.length=tys.length/\∀a∈s.args,0<=a/\a<us.length:=fun q=>Hw q
 split at h
 ·rename_i h1
  split at h
  ·rename_i h2
   exact mk (by rw [List.eq_nil_of_length_eq_zero h2.1];simp) om om om
  ·omega
 split at h
 ·split at h
  ·rename_i h1 h2;exact mk (ty h2).2 om om om
  ·omega
 split at h
 ·split at h
  ·rename_i h1 h2;exact mk (ty h2).2 om om om
  ·omega
 split at h
 ·split at h
  ·rename_i h1 h2;exact mk (ty h2.2).2 om om om
  ·omega
 split at h
 ·split at h
  ·rename_i h1 h2;exact mk (ty h2).2 (fun _=>M3 (by simpa using (ty h2).1)) om (fun _=>h)
  ·omega
 split at h
 ·split at h
  ·rename_i h1 h2;exact mk (ty h2).2 (fun _=>M3 (by simpa using (ty h2).1)) om (fun _=>h)
  ·omega
 split at h
 ·rename_i hop
  rw [TK] at h
  cases hr:Xw n.routines s.num with
  | none=>rw [hr] at h;simp at h
  | some r=>
   rw [hr] at h
   simp only at h
   have hn:=(JO hr).1
   rw [QS] at h
   split at h
   ·split at h
    ·rename_i h2;exact mk (ty h2).2 om om om
    ·omega
   ·split at h
    ·omega
    ·rename_i h2
     have h3:XS us s.args (r.params.take (r.params.length-1))=true:=by
      cases q:XS us s.args (r.params.take (r.params.length-1)) with
      | true=>rfl
      | false=>exact absurd (.inr (.inr (by rw [q];simp))) h2
     exact mk (ty h3).2 om om om
 split at h
 ·rename_i hop
  rcases he:s.args with _|⟨a,_|⟨b,_|⟨c,r⟩⟩⟩
  ·rw [he,show TV n.decls us []=-1 from rfl] at h;omega
  ·rw [he,show TV n.decls us [a]=-1 from rfl] at h;omega
  ·rw [he,TV] at h
   cases ha:Xw us a with
   | none=>rw [ha] at h;simp at h
   | some t=>
    rw [ha] at h
    simp only at h
    split at h
    ·cases hd:n.decls[(t-1).toNat]? with
     | none=>rw [hd] at h;simp at h
     | some d=>
      rw [hd] at h
      simp only at h
      split at h
      ·rename_i h3
       have h4:=(Hw h3).2 b (by simp)
       have h5:=(JO ha).1
       refine mk (fun x hx=>?_) om om om
       rw [he] at hx
       rcases YQ.1 hx with rfl|hx
       ·omega
       ·rw [W3.1 hx];exact h4
      ·omega
    ·omega
  ·rw [he,show TV n.decls us (a::b::c::r)=-1 from rfl] at h;omega
 split at h
 ·rename_i hop
  rcases he:s.args with _|⟨a,_|⟨b,r⟩⟩
  ·rw [he,show To n.decls us s.op []=-1 from rfl] at h;omega
  ·rw [he,To] at h
   cases ha:Xw us a with
   | none=>rw [ha] at h;simp at h
   | some t=>
    have h5:=(JO ha).1
    refine mk (fun x hx=>?_) (fun _=>⟨a,he⟩) om om
    rw [he] at hx
    rw [W3.1 hx];omega
  ·rw [he,show To n.decls us s.op (a::b::r)=-1 from rfl] at h;omega
 ·omega
def Q8 (n:Zx) (us:List Int) (s:Z4):List Int:=if Xe s.op=true then us++[ZV n us s] else us
theorem Iv {L L':ZJ} {ln:List Int} {v:Int} (h:AL L ln v=some L'):L'.vars=L.vars/\L'.par=L.par/\L'.con=L.con/\L'.fst=L.fst/\L'.tok=L.tok/\L'.own=L.own.set v.toNat (gI L.own v+1):=by
 rw [AL] at h
 split at h
 ·cases h;exact ⟨rfl,rfl,rfl,rfl,rfl,rfl⟩
 ·cases h
theorem Fd:∀(fs:List Int) (own:List Int) (p:Int),(TE own p fs).length=own.length
 | [],own,p=>rfl
 | f::r,own,p=>by rw [TE,Fd r];split<;>simp
theorem G4 {xs:List Int} {q v:Int} (h:∀x∈xs,x<=q) (hq:0<=q):gI xs v<=q:=by
 by_cases h0:gI xs v=0
 ·omega
 ·exact h _ (G5 h0)
theorem G6 {xs:List Int} {v:Int} (h:∀x∈xs,0<=x):0<=gI xs v:=by
 by_cases h0:gI xs v=0
 ·omega
 ·exact h _ (G5 h0)
theorem Fe:∀(fs:List Int) (own:List Int) (p:Int),(∀x∈own,0<=x)->∀x∈TE own p fs,0<=x
 | [],own,p,h=>h
 | f::r,own,p,h=>by
  rw [TE]
  refine Fe r _ _ fun x hx=>?_
  split at hx
  ·rcases Kg hx with hx|rfl
   ·exact h x hx
   ·have:=G6 (v:=p) h;omega
  ·exact h x hx
theorem Fc:∀(fs:List Int) (own:List Int) (p q:Int),0<=q->(∀x∈own,x<=q)->∀x∈TE own p fs,x<=q+fs.length
 | [],own,p,q,hq,h=>by intro x hx;have:=h x hx;simp;omega
 | f::r,own,p,q,hq,h=>by
  intro x hx
  rw [TE] at hx
  have:=Fc r _ _ (q+1) om (fun y hy=>by
   split at hy
   ·rcases Kg hy with hy|rfl
    ·have:=h y hy;omega
    ·have:=G4 (v:=p) h hq;omega
   ·have:=h y hy;omega) x hx
  simp only [YS];omega
theorem My {ds:List Zf} {L L':ZJ} {op v:Int} (h:KL ds L op v=some L'):L'.vars=L.vars/\L'.par=L.par/\L'.con=L.con/\L'.fst=L.fst/\L'.tok.length=L.tok.length /\
  ∃L1,Ti L v=some L1/\L'.own=TE L1.own (gI L.fst v) (ZC ds (gI L.con v)):=by
 rw [KL] at h
 split at h
 ·cases h
 ·cases ht:Ti L v with
  | none=>rw [ht] at h;cases h
  | some L1=>
   rw [ht] at h
   simp only at h
   obtain ⟨t1,t2,t3,t4,t5,t6,t7⟩:=Kn ht
   cases h
   refine ⟨t2,t3,t4,t5,?_,L1,rfl,rfl⟩
   split
   ·rw [UU]
   ·rfl
theorem Gf {n:Zx} {op num:Int} {ds:List Zf} {q:Int}:∀{as1:List Int} {i:Nat} {L L':ZJ},Xx ds L q->Qm n op num as1 i L=some L'->Xx ds L' q/\L'.vars=L.vars/\L'.par=L.par/\L'.con=L.con/\L'.fst=L.fst/\L'.tok=L.tok
 | [],i,L,L',hk,h=>by rw [Qm] at h;cases h;exact ⟨hk,rfl,rfl,rfl,rfl,rfl⟩
 | a::r,i,L,L',hk,h=>by
  rw [Qm] at h
  split at h
  ·cases ht:Ti L a with
   | none=>rw [ht] at h;cases h
   | some L1=>
    rw [ht] at h
    obtain ⟨t1,t2,t3,t4,t5,t6,t7⟩:=Kn ht
    obtain ⟨k1,k2,k3,k4,k5,k6⟩:=Gf (hk.take ht) h
    exact ⟨k1,k2.trans t2,k3.trans t3,k4.trans t4,k5.trans t5,k6.trans t6⟩
  ·exact Gf hk h
theorem Xx.le {ds:List Zf} {L:ZJ} {q q':Int} (h:Xx ds L q) (hq:q<=q'):Xx ds L q':=⟨h.len,h.down,h.arm,h.nn,fun x hx=>Int.le_trans (h.bd x hx) hq⟩
theorem Xx.turn {ds:List Zf} {L L':ZJ} {q q':Int} (hk:Xx ds L q) (h1:L'.vars=L.vars) (h2:L'.par=L.par) (h3:L'.con=L.con) (h4:L'.fst=L.fst) (h5:L'.tok.length=L.tok.length) (h6:L'.own.length=L.own.length)
  (h7:∀x∈L'.own,0<=x) (h8:∀x∈L'.own,x<=q'):Xx ds L' q':=by
 obtain ⟨f1,f2,f3,f4,f5⟩:=hk.len
 refine ⟨⟨by rw [h6,h1];exact f1,by rw [h2,h1];exact f2,by rw [h3,h1];exact f3,by rw [h4,h1];exact f4,by rw [h5,h1];exact f5⟩,?_,?_,h7,h8⟩
 ·rw [h1,h2];exact hk.down
 ·rw [h1,h3,h4];exact hk.arm
theorem By {xs ys:List Int} {j:Int} (h:j.toNat<xs.length):gI (xs++ys) j=gI xs j:=by
 rw [gI,gI,D5 h]
theorem IX {xs:List Int} {y:Int} {j:Int} (h:j.toNat=xs.length):gI (xs++[y]) j=y:=by
 rw [gI,h];simp
theorem Xx.grow {ds:List Zf} {L:ZJ} {q t o p:Int} (hk:Xx ds L q) (hp:p<L.vars.length) (ho:0<=o/\o<=q):Xx ds (L.grow t o p) q:=by
 obtain ⟨f1,f2,f3,f4,f5⟩:=hk.len
 refine ⟨⟨by simp [ZJ.grow,f1],by simp [ZJ.grow,f2],by simp [ZJ.grow,f3],by simp [ZJ.grow,f4],by simp [ZJ.grow,f5]⟩,?_,?_,?_,?_⟩
 ·intro j hj hl
  simp only [ZJ.grow,Yz,EX] at hl ⊢
  by_cases hlt:j<L.vars.length
  ·rw [By om];exact hk.down j hj hlt
  ·rw [IX om];omega
 ·intro x hx hl
  simp only [ZJ.grow,Yz,EX] at hl ⊢
  by_cases hlt:x<L.vars.length
  ·rw [By om,By om]
   intro hc
   have:=hk.arm x hx hlt hc
   exact ⟨this.1,by omega⟩
  ·rw [IX om];omega
 ·intro x hx
  simp only [ZJ.grow,Xr,W3] at hx
  rcases hx with hx|rfl
  ·exact hk.nn x hx
  ·exact ho.1
 ·intro x hx
  simp only [ZJ.grow,Xr,W3] at hx
  rcases hx with hx|rfl
  ·exact hk.bd x hx
  ·exact ho.2
theorem IZ {xs:List Int} {k:Nat} {a:Int} {j:Int} (h:xs.length<=j.toNat/\j.toNat<xs.length+k):gI (xs++List.replicate k a) j=a:=by
 rw [gI,EU h.1,List.getElem?_replicate,Zo om];rfl
theorem L0 {xs:List Int} {x j c:Int} (h:j.toNat=x.toNat) (hl:x.toNat<xs.length):gI (xs.set x.toNat c) j=c:=by
 rw [gI,h,List.getElem?_set_self hl];rfl
theorem L4 {xs:List Int} {x j c:Int} (h:j.toNat≠x.toNat):gI (xs.set x.toNat c) j=gI xs j:=by
 rw [gI,gI,List.getElem?_set_ne (fun q=>h q.symm)]
theorem Lo {p:Int}:∀(fs:List Int) (L:ZJ),AS L p fs=⟨L.vars++fs,L.own++List.replicate fs.length 0,L.par++List.replicate fs.length p,L.con++List.replicate fs.length (-1),
  L.fst++List.replicate fs.length (-1),L.tok++List.replicate fs.length (-1)⟩
 | [],L=>by simp [AS]
 | t::r,L=>by rw [AS,Lo r];simp [ZJ.grow,HG]
theorem P0 {ds:List Zf} {L:ZJ} {q x c:Int} (hk:Xx ds L q) (hq:0<=q) (hx:0<=x/\x<L.vars.length):Xx ds (AF ds L x c) q/\(AF ds L x c).vars=L.vars++ZC ds c:=by
 obtain ⟨f1,f2,f3,f4,f5⟩:=hk.len
 rw [AF,Lo]
 refine ⟨⟨⟨by simp [f1],by simp [f2],by simp [f3],by simp [f4],by simp [f5]⟩,?_,?_,?_,?_⟩,rfl⟩
 ·intro j hj hl
  simp only [Yz] at hl ⊢
  by_cases hlt:j<L.vars.length
  ·rw [By om];exact hk.down j hj hlt
  ·rw [IZ om];omega
 ·intro y hy hl
  simp only [Yz] at hl ⊢
  by_cases hlt:y<L.vars.length
  ·rw [By (by simp;omega),By (by simp;omega)]
   by_cases he:y.toNat=x.toNat
   ·rw [L0 he om,L0 he om]
    intro _
    exact ⟨by omega,by simp⟩
   ·rw [L4 he,L4 he]
    intro hc
    have:=hk.arm y hy hlt hc
    exact ⟨this.1,by omega⟩
  ·rw [IZ (by simp;omega)];omega
 ·intro y hy
  simp only [Xr,List.mem_replicate] at hy
  rcases hy with hy|⟨_,rfl⟩
  ·exact hk.nn y hy
  ·exact Int.le_refl 0
 ·intro y hy
  simp only [Xr,List.mem_replicate] at hy
  rcases hy with hy|⟨_,rfl⟩
  ·exact hk.bd y hy
  ·exact hq
theorem E3 {n:Zx} {L:ZJ} {q:Int} {s:Z4} {i:Nat} {m:List Int} (hk:Xx n.decls L q) (hq:0<=q) (hf:AA n L.vars s) (hop:s.op=7∨s.op=8) (hm:(X7 n.decls s.op s.num)[i]? = some m) :
  Xx n.decls (T1 n.decls L s.op s.num s.args i) q/\(T1 n.decls L s.op s.num s.args i).vars=L.vars++m:=by
 rw [T1]
 split
 ·rename_i h8
  obtain ⟨a,ha⟩:=hf.one om
  have hb:=hf.args a (by rw [ha];simp)
  have hg:gI s.args 0=a:=by rw [ha];rfl
  rw [X7,Zc om,Kr] at hm
  cases hc:(Zw n.decls s.num)[i]? with
  | none=>rw [hc] at hm;cases hm
  | some c=>
   rw [hc] at hm
   cases hm
   have hgc:gI (Zw n.decls s.num) (i:Int)=c:=by rw [gI];simp [hc]
   rw [hg,hgc]
   exact P0 hk hq hb
 ·rename_i h8
  rw [X7,Zo om] at hm
  have:m=[]:=by
   match i,hm with
   | 0,hm=>simpa using hm.symm
   | 1,hm=>simpa using hm.symm
   | i+2,hm=>simp at hm
  subst this
  exact ⟨hk,by simp⟩
theorem O1 {n:Zx}:∀{l:List Z4} {us vs:List Int},V9 n l us=some vs->us.length<=vs.length
 | [],us,vs,h=>by rw [V9] at h;cases h;exact X6 _
 | s::r,us,vs,h=>by
  rw [V9] at h
  split at h
  ·cases h
  ·have:=O1 h
   split at this
   ·simp only [Yz,EX] at this;omega
   ·exact this
theorem Lp {n:Zx} {ln:List Int} {L L':ZJ} {op num into q:Int} {args:List Int} {ds:List Zf} (hk:Xx ds L q) (h:Kb n ln L op num into args=some L'):Xx ds L' q/\L'.vars=L.vars:=by
 rw [Kb] at h
 cases ht:Qm n op num args 0 L with
 | none=>rw [ht] at h;cases h
 | some L1=>
  rw [ht] at h
  simp only at h
  obtain ⟨k1,k2,k3,k4,k5,k6⟩:=Gf hk ht
  split at h
  ·rw [Cr] at h
   split at h
   ·split at h
    ·cases h
    ·cases h
     exact ⟨k1.turn rfl rfl rfl rfl (by simp) rfl k1.nn k1.bd,k2⟩
   ·cases h;exact ⟨k1,k2⟩
  ·cases h
theorem PX {L L':ZJ} {m:Nat} (h:Ky L m=some L'):L'=L.take m/\Ar (L.own.drop m) (L.tok.drop m)=true:=by
 rw [Ky] at h
 split at h
 ·rename_i hz;cases h;exact ⟨rfl,hz⟩
 ·cases h
theorem Hv {r:Option ZJ} {f:ZJ->Option ZJ} {L:ZJ} (h:CZ r f=some L):∃L1,r=some L1/\f L1=some L:=by
 cases r with
 | none=>cases h
 | some L1=>exact ⟨L1,rfl,h⟩
theorem M0 (n:Zx) (hn:Xd n) (ln:List Int):∀m:Nat,
  (∀(s:Z4) (L L':ZJ) (q:Int),s.sz<=m->Xx n.decls L q->0<=q->0<=ZV n L.vars s->TN n ln L s=some L'->Xx n.decls L' (q+4*s.sz)/\L'.vars=Q8 n L.vars s) /\
  (∀(b:Z6) (L O:ZJ) (q:Int) (k:Nat),b.sz<=m->Xx n.decls L q->0<=q->0<=YV n L.vars b->k<=L.vars.length->VE n ln L k b=some O ->
   (O.own.length=k/\O.tok.length=k/\(∀x∈O.own,0<=x/\x<=q+4*b.sz))/\UH O/\O.vars.length=k):=by
 intro m
 induction m with
 | zero=>exact ⟨fun s _ _ _ h=>by have:=s.sz_pos;omega,fun s _ _ _ _ h=>by have:=s.sz_pos;omega⟩
 | succ m ih=>
  have hs:∀(s:Z4) (L L':ZJ) (q:Int),s.sz<=m+1->Xx n.decls L q->0<=q->0<=ZV n L.vars s->TN n ln L s=some L'->Xx n.decls L' (q+4*s.sz)/\L'.vars=Q8 n L.vars s:=by
   intro s L L' q Xq hk hq hty h
   have hp:=s.sz_pos
   have hf:=O0 hty
   obtain ⟨f1,f2,f3,f4,f5⟩:=hk.len
   rw [NY] at h
   unfold KF at h
   cases hpk:Ki n ln L s.op s.num s.into s.args (QN n ln L s.op s.num s.args s.kids) with
   | none=>rw [hpk] at h;cases h
   | some L1=>
    rw [hpk] at h
    simp only at h
    have key:Xx n.decls L1 (q+4*s.sz)/\L1.vars=L.vars:=by
     rw [Ki] at hpk
     split at hpk
     ·obtain ⟨d1,d2,d3,d4,d5,d6⟩:=Iv hpk
      refine ⟨hk.turn d1 d2 d3 d4 (by rw [d5]) (by rw [d6,UU]) ?_ ?_,d1⟩
      ·rw [d6];intro x hx
       rcases Kg hx with hx|rfl
       ·exact hk.nn x hx
       ·have:=G6 (v:=gI s.args 0) hk.nn;omega
      ·rw [d6];intro x hx
       rcases Kg hx with hx|rfl
       ·have:=hk.bd x hx;omega
       ·have:=G4 (v:=gI s.args 0) hk.bd hq;omega
     split at hpk
     ·exact ⟨(hk.take hpk).le om,(Kn hpk).2.1⟩
     split at hpk
     ·rename_i hop
      obtain ⟨d1,d2,d3,d4,d5,Lt,ht,d6⟩:=My hpk
      have hkt:=hk.take ht
      have h3:=VK hn.decls (gI L.con (gI s.args 0))
      refine ⟨hk.turn d1 d2 d3 d4 d5 ?_ ?_ ?_,d1⟩
      ·rw [d6,Fd,(Kn ht).2.2.2.2.2.2,UU]
      ·rw [d6];exact Fe _ _ _ hkt.nn
      ·rw [d6];intro x hx
       have:=Fc _ _ _ q hq hkt.bd x hx;omega
     split at hpk
     ·rename_i hop
      split at hpk
      ·cases hpk
      ·cases hks:s.kids with
       | nil=>rw [hks,QN] at hpk;cases hpk
       | cons b bs=>
        rw [hks,QN] at hpk
        unfold B0 at hpk
        cases hb:VE n ln (T1 n.decls L s.op s.num s.args 0) L.vars.length b with
        | none=>rw [hb] at hpk;cases hpk
        | some one=>
         rw [hb] at hpk
         simp only at hpk
         split at hpk
         ·cases hpk
          obtain ⟨q1,q2,q3⟩:=hf.kids hop
          have hks0:s.kids[0]? = some b:=by rw [hks];rfl
          obtain ⟨a0,ha0⟩:=Zr (xs:=X7 n.decls s.op s.num) (j:=0) om
          obtain ⟨k1,k2⟩:=E3 hk hq hf hop ha0
          have hbz:=Uy hks0
          obtain ⟨⟨r1,r2,r3⟩,_⟩:=ih.2 b _ one q L.vars.length om k1 hq (by rw [k2];exact q3 0 b a0 hks0 ha0) (by rw [k2];simp) hb
          refine ⟨hk.turn rfl rfl rfl rfl (by simp only;omega) (by simp only;omega) (fun x hx=>(r3 x hx).1) (fun x hx=>?_),rfl⟩
          have:=(r3 x hx).2;omega
         ·cases hpk
     ·obtain ⟨k1,k2⟩:=Lp hk hpk
      exact ⟨k1.le om,k2⟩
    split at h
    ·rename_i hd
     cases h
     refine ⟨key.1.grow om ?_,by rw [Q8,Zo hd];simp [ZJ.grow,key.2]⟩
     split<;>omega
    ·rename_i hd
     cases h
     exact ⟨key.1,by rw [Q8,Zc hd];exact key.2⟩
  refine ⟨hs,?_⟩
  intro b L O q k Xq hk hq hty hkl h
  have hsteps:∀(l:List Z4) (L L':ZJ) (q:Int) (vs:List Int),Yp l<=m->Xx n.decls L q->0<=q->V9 n l L.vars=some vs->Km n ln L l=some L'->Xx n.decls L' (q+4*Yp l)/\L'.vars=vs:=by
   intro l
   induction l with
   | nil=>intro L L' q vs _ hk _ h1 h2;rw [V9] at h1;rw [Km] at h2;cases h1;cases h2;exact ⟨by simpa [Yp] using hk,rfl⟩
   | cons s r ihr=>
    intro L L' q vs hz hk hq h1 h2
    rw [Yp] at hz
    rw [Km] at h2
    obtain ⟨L1,e1,e2⟩:=Hv h2
    rw [V9] at h1
    split at h1
    ·cases h1
    ·rename_i h0
     obtain ⟨k1,k2⟩:=hs s L L1 q om hk hq om e1
     obtain ⟨k3,k4⟩:=ihr L1 L' (q+4*s.sz) vs om k1 om (by rw [k2];exact h1) e2
     exact ⟨k3.le (by rw [Yp];omega),k4⟩
  have hbz:=b.sz_eq
  rw [Fi] at h
  obtain ⟨L1,e1,e2⟩:=Hv h
  rw [Dh] at hty
  cases hv:V9 n b.steps L.vars with
  | none=>rw [hv] at hty;simp at hty
  | some vs=>
   obtain ⟨k1,k2⟩:=hsteps b.steps L L1 q vs om hk hq hv e1
   have hlen:=O1 hv
   rw [KE] at e2
   obtain ⟨L2,e3,e4⟩:=Hv e2
   have k3:Xx n.decls L2 (q+4*Yp b.steps)/\L2.vars=L1.vars:=by
    split at e3
    ·exact ⟨k1.take e3,(Kn e3).2.1⟩
    ·cases e3;exact ⟨k1,rfl⟩
   obtain ⟨rfl,_⟩:=PX e4
   obtain ⟨g1,g2,g3,g4,g5⟩:=k3.1.len
   have hl2:L2.vars.length=vs.length:=by rw [k3.2,k2]
   refine ⟨⟨by simp [ZJ.take];omega,by simp [ZJ.take];omega,fun x hx=>?_⟩,⟨by simp [ZJ.take];omega,by simp [ZJ.take];omega,by simp [ZJ.take];omega,by simp [ZJ.take];omega,by simp [ZJ.take];omega⟩,by simp [ZJ.take];omega⟩
   have hx':x∈L2.own:=TR hx
   have:=k3.1.nn x hx'
   have:=k3.1.bd x hx'
   omega
theorem NZ {n:Zx} (hn:Xd n) {ln:List Int} {s:Z4} {L L':ZJ} {q:Int} (hk:Xx n.decls L q) (hq:0<=q) (hty:0<=ZV n L.vars s) (h:TN n ln L s=some L'):Xx n.decls L' (q+4*s.sz)/\L'.vars=Q8 n L.vars s:=
 (M0 n hn ln s.sz).1 s L L' q (X6 _) hk hq hty h
theorem I2 {n:Zx} (hn:Xd n) {ln:List Int} {b:Z6} {L O:ZJ} {q:Int} {k:Nat} (hk:Xx n.decls L q) (hq:0<=q) (hty:0<=YV n L.vars b) (hkl:k<=L.vars.length) (h:VE n ln L k b=some O) :
  O.own.length=k/\O.tok.length=k/\(∀x∈O.own,0<=x/\x<=q+4*b.sz):=
 ((M0 n hn ln b.sz).2 b L O q k (X6 _) hk hq hty hkl h).1
theorem CP {n:Zx} (hn:Xd n) {ln:List Int} {s:Z4} {L L1:ZJ} {q:Int} (hk:Xx n.decls L q) (hq:0<=q) (hf:AA n L.vars s)
  (hpk:Ki n ln L s.op s.num s.into s.args (QN n ln L s.op s.num s.args s.kids)=some L1):Xx n.decls L1 (q+4*s.sz)/\L1.vars=L.vars:=by
 have hp:=s.sz_pos
 obtain ⟨f1,f2,f3,f4,f5⟩:=hk.len
 rw [Ki] at hpk
 split at hpk
 ·obtain ⟨d1,d2,d3,d4,d5,d6⟩:=Iv hpk
  refine ⟨hk.turn d1 d2 d3 d4 (by rw [d5]) (by rw [d6,UU]) ?_ ?_,d1⟩
  ·rw [d6];intro x hx
   rcases Kg hx with hx|rfl
   ·exact hk.nn x hx
   ·have:=G6 (v:=gI s.args 0) hk.nn;omega
  ·rw [d6];intro x hx
   rcases Kg hx with hx|rfl
   ·have:=hk.bd x hx;omega
   ·have:=G4 (v:=gI s.args 0) hk.bd hq;omega
 split at hpk
 ·exact ⟨(hk.take hpk).le om,(Kn hpk).2.1⟩
 split at hpk
 ·rename_i hop
  obtain ⟨d1,d2,d3,d4,d5,Lt,ht,d6⟩:=My hpk
  have hkt:=hk.take ht
  have h3:=VK hn.decls (gI L.con (gI s.args 0))
  refine ⟨hk.turn d1 d2 d3 d4 d5 ?_ ?_ ?_,d1⟩
  ·rw [d6,Fd,(Kn ht).2.2.2.2.2.2,UU]
  ·rw [d6];exact Fe _ _ _ hkt.nn
  ·rw [d6];intro x hx
   have:=Fc _ _ _ q hq hkt.bd x hx;omega
 split at hpk
 ·rename_i hop
  split at hpk
  ·cases hpk
  ·cases hks:s.kids with
   | nil=>rw [hks,QN] at hpk;cases hpk
   | cons b bs=>
    rw [hks,QN] at hpk
    unfold B0 at hpk
    cases hb:VE n ln (T1 n.decls L s.op s.num s.args 0) L.vars.length b with
    | none=>rw [hb] at hpk;cases hpk
    | some one=>
     rw [hb] at hpk
     simp only at hpk
     split at hpk
     ·cases hpk
      obtain ⟨q1,q2,q3⟩:=hf.kids hop
      have hks0:s.kids[0]? = some b:=by rw [hks];rfl
      obtain ⟨a0,ha0⟩:=Zr (xs:=X7 n.decls s.op s.num) (j:=0) om
      obtain ⟨k1,k2⟩:=E3 hk hq hf hop ha0
      have hbz:=Uy hks0
      obtain ⟨r1,r2,r3⟩:=I2 hn k1 hq (by rw [k2];exact q3 0 b a0 hks0 ha0) (by rw [k2];simp) hb
      refine ⟨hk.turn rfl rfl rfl rfl (by simp only;omega) (by simp only;omega) (fun x hx=>(r3 x hx).1) (fun x hx=>?_),rfl⟩
      have:=(r3 x hx).2;omega
     ·cases hpk
 ·obtain ⟨k1,k2⟩:=Lp hk hpk
  exact ⟨k1.le om,k2⟩
end Go.Abs
section
namespace Go.Abs
theorem P1 {ds:List Zf} {op num:Int} {i:Nat} {m:List Int} (h8:op=8) (h:(X7 ds op num)[i]? = some m):∃c,(Zw ds num)[i]? = some c/\m=ZC ds c:=by
 rw [X7,Zc om,Kr] at h
 cases hc:(Zw ds num)[i]? with
 | none=>rw [hc] at h;cases h
 | some c=>rw [hc] at h;cases h;exact ⟨c,rfl,rfl⟩
theorem Z2i {ds:List Zf} {L:ZJ} {op num x c:Int} {args:List Int} {i:Nat} (h8:op=8) (hx:args[0]? = some x) (hc:(Zw ds num)[i]? = some c):T1 ds L op num args i=AF ds L x c:=by
 have h1:gI args 0=x:=by rw [gI];simp [hx]
 have h2:gI (Zw ds num) (i:Int)=c:=by rw [gI];simp [hc]
 rw [T1,Zo h8,h1,h2]
theorem Z2j {ds:List Zf} {L:ZJ} {op num:Int} {args:List Int} {i:Nat} (h8:¬op=8):T1 ds L op num args i=L:=by rw [T1,Zc h8]
theorem Z2n {n:Zx} {ln:List Int} {L:ZJ} {op num:Int} {args:List Int} {kids:List Z6} {kb:Z6} (h:kids[0]? = some kb) :
  QN n ln L op num args kids=B0 L (VE n ln (T1 n.decls L op num args 0) L.vars.length kb) fun one=>Ke n ln L op num args one (kids.drop 1) 1:=by
 cases kids with
 | nil=>simp at h
 | cons b bs=>simp at h;subst h;rw [QN];rfl
theorem Z2o {n:Zx} {ln:List Int} {L one:ZJ} {op num:Int} {args:List Int} {kids:List Z6} {kb:Z6} {k:Nat} (h:kids[k]? = some kb) :
  Ke n ln L op num args one (kids.drop k) k=Ew one (VE n ln (T1 n.decls L op num args k) L.vars.length kb) (Ke n ln L op num args one (kids.drop (k+1)) (k+1)):=by
 rw [Y8 h,Ke]
def AH (n:Zx) (ln:List Int) (L:ZJ) (s:Z4):Option ZJ:=
 if s.op=8/\¬VD L ln (gI s.args 0)=true then none else QN n ln L s.op s.num s.args s.kids
theorem Pj {n:Zx} {ln:List Int} {L:ZJ} {s:Z4} {kb:Z6} (h:¬(s.op=8/\¬VD L ln (gI s.args 0)=true)) (hk:s.kids[0]? = some kb) :
  AH n ln L s=B0 L (VE n ln (T1 n.decls L s.op s.num s.args 0) L.vars.length kb) fun one=>Ke n ln L s.op s.num s.args one (s.kids.drop 1) 1:=by
 rw [AH,Zc h,Z2n hk]
theorem Jf {xs:List Int} {x:Int} (h:xs[0]? = some x):gI xs 0=x:=by rw [gI];simp [h]
end Go.Abs
namespace Go.Abs
theorem UH.grow {L:ZJ} {t o p:Int} (h:UH L):UH (L.grow t o p):=by
 obtain ⟨f1,f2,f3,f4,f5⟩:=h
 exact ⟨by simp [ZJ.grow,f1],by simp [ZJ.grow,f2],by simp [ZJ.grow,f3],by simp [ZJ.grow,f4],by simp [ZJ.grow,f5]⟩
theorem UH.arm {L:ZJ} {i j:Nat} {c d:Int} (h:UH L):UH ⟨L.vars,L.own,L.par,L.con.set i c,L.fst.set j d,L.tok⟩:=by
 obtain ⟨f1,f2,f3,f4,f5⟩:=h
 exact ⟨f1,f2,by simp [f3],by simp [f4],f5⟩
end Go.Abs
namespace Go.Abs
theorem LQ {n:Zx} (hn:Xd n) {ln:List Int} {L O:ZJ} {q:Int} {s:Z4} {i:Nat} {kb:Z6} {m:List Int} (hk:Xx n.decls L q) (hq:0<=q) (hf:AA n L.vars s) (hop:s.op=7∨s.op=8)
  (_:s.kids[i]? = some kb) (harm:(X7 n.decls s.op s.num)[i]? = some m) (hbt:0<=YV n (L.vars++m) kb) (h:VE n ln (T1 n.decls L s.op s.num s.args i) L.vars.length kb=some O) :
  O.own.length=L.vars.length/\O.tok.length=L.vars.length:=by
 obtain ⟨k1,k2⟩:=E3 hk hq hf hop harm
 obtain ⟨r1,r2,_⟩:=I2 hn k1 hq (by rw [k2];exact hbt) (by rw [k2];simp) h
 exact ⟨r1,r2⟩
theorem Z5u {one two:ZJ} {r:Bool} (h:¬(¬one.own=two.own∨¬one.tok=two.tok)):Ew one (some two) r=r:=Zo ⟨V1.1 fun q=>h (.inl q),V1.1 fun q=>h (.inr q)⟩
theorem Z5t {one two:ZJ} {r:Bool} (h:¬one.own=two.own∨¬one.tok=two.tok):Ew one (some two) r=false:=Zc fun q=>h.elim (fun z=>z q.1) fun z=>z q.2
theorem Z3d {L one:ZJ} {f:ZJ->Bool} (h:f one=true):B0 L (some one) f=some ⟨L.vars,one.own,L.par,L.con,L.fst,one.tok⟩:=Zo h
theorem M7 {L one:ZJ} {f:ZJ->Bool} (h:f one=false):B0 L (some one) f=none:=Zc (by rw [h];simp)
end Go.Abs
namespace Go.Abs
section
variable {n:Zx} {ln:List Int} {L:ZJ} {s:Z4}
abbrev KM (n:Zx) (ln:List Int) (L:ZJ) (s:Z4):Option ZJ:=Ki n ln L s.op s.num s.into s.args (QN n ln L s.op s.num s.args s.kids)
theorem MB {x:Int} (h:s.op=14) (hx:gI s.args 0=x):KM n ln L s=AL L ln x:=hx▸Zo h
theorem MC {x:Int} (h:s.op=15) (hx:gI s.args 0=x):KM n ln L s=Ti L x:=by rw [<-hx,KM,Ki,Zc om,Zo h]
theorem MD {x:Int} (h:s.op=16∨s.op=17) (hx:gI s.args 0=x):KM n ln L s=KL n.decls L s.op x:=by rw [<-hx,KM,Ki,Zc om,Zc om,Zo h]
theorem ME (h:s.op=7∨s.op=8):KM n ln L s=AH n ln L s:=by rw [KM,Ki,Zc om,Zc om,Zc om,Zo h,AH]
theorem MF (h1:¬s.op=14) (h2:¬s.op=15) (h3:¬(s.op=16∨s.op=17)) (h4:¬(s.op=7∨s.op=8)):KM n ln L s=Kb n ln L s.op s.num s.into s.args:=by
 rw [KM,Ki,Zc h1,Zc h2,Zc h3,Zc h4]
theorem Rm {v:Int} (h:¬VD L ln v=true):AL L ln v=none:=Zc h
theorem Rn {v x:Int} (h:¬¬VD L ln v=true) (hx:gI L.own v=x):AL L ln v=some ⟨L.vars,L.own.set v.toNat (x+1),L.par,L.con,L.fst,L.tok⟩:=by rw [AL,Zo (V1.1 h),hx]
theorem UD (n:Zx) (ln:List Int) (L:ZJ) (s:Z4):TN n ln L s=KF L s.op (ZV n L.vars s) (KM n ln L s):=NY n ln L s
theorem Ut {X:ZJ} {op t:Int} (h:Xe op=true/\t≠0):KF L op t (some X)=some (X.grow t 1 (-1)):=by
 unfold KF;simp only [h.1,↓reduceIte];rw [Zo h.2]
theorem Uu {X:ZJ} {op t:Int} (h:¬(Xe op=true/\t≠0)) (h2:Xe op=true):KF L op t (some X)=some (X.grow 0 0 (-1)):=by
 have ht:t=0:=V1.1 fun q=>h ⟨h2,q⟩
 subst ht
 unfold KF;simp only [h2,↓reduceIte];rfl
theorem Uv {X:ZJ} {op t:Int} (h:¬Xe op=true):KF L op t (some X)=some X:=by
 unfold KF;simp only [Zc h]
end
end Go.Abs
namespace Go.Abs
theorem I3 {n:Zx} {us:List Int} {b:Z6} (h:0<=YV n us b):∃vs t,V9 n b.steps us=some vs/\Xw vs b.result=some t/\0<=t:=by
 rw [Dh] at h
 cases hv:V9 n b.steps us with
 | none=>rw [hv] at h;simp at h
 | some vs=>
  rw [hv] at h
  simp only at h
  cases ha:Xw vs b.result with
  | none=>rw [ha] at h;simp at h
  | some t=>rw [ha] at h;exact ⟨vs,t,rfl,ha,h⟩
theorem O2 {n:Zx} {us vs:List Int} {s:Z4} {r:List Z4} (h:V9 n (s::r) us=some vs):0<=ZV n us s/\V9 n r (Q8 n us s)=some vs:=by
 rw [V9] at h
 split at h
 ·cases h
 ·exact ⟨by omega,h⟩
theorem Nl (n:Zx) (us:List Int) (s:Z4):us.length<=(Q8 n us s).length/\(Q8 n us s).length<=us.length+s.sz:=by
 have:=s.sz_pos
 rw [Q8];split
 ·simp only [Yz,EX];omega
 ·omega
end Go.Abs
namespace Go.Abs
theorem RI {X L:ZJ} {m:Nat} {r x:Int} (hg:gI L.vars r=x) (h:x≠0) (ht:Ti L r=some X):KE m r L=Ky X m:=by rw [KE,hg,Zo h,ht];rfl
theorem RH {L:ZJ} {m:Nat} {r x:Int} (hg:gI L.vars r=x) (h:x≠0) (ht:Ti L r=none):KE m r L=none:=by rw [KE,hg,Zo h,ht];rfl
theorem Cg {L:ZJ} {m:Nat} {r x:Int} (hg:gI L.vars r=x) (h:¬x≠0):KE m r L=Ky L m:=by rw [KE,hg,Zc h];rfl
end Go.Abs
namespace Go.Abs
theorem MA {ds:List Zf} {lent:List Int}:∀{ps:List Int} {i:Nat} {L:ZJ},Xx ds L 1->Xx ds (Ju lent ps i L) 1/\(Ju lent ps i L).vars=L.vars++ps
 | [],i,L,hk=>⟨hk,by simp [Ju]⟩
 | t::r,i,L,hk=>by
  rw [Ju]
  obtain ⟨k1,k2⟩:=MA (lent:=lent) (ps:=r) (i:=i+1) (hk.grow (t:=t) (o:=if t≠0/\¬(i:Int)∈lent then 1 else 0) (p:=-1) om (by split<;>omega))
  exact ⟨k1,by rw [k2];simp [ZJ.grow]⟩
theorem Z3g (ds:List Zf) (r:Yb):Xx ds (QP r) 1/\(QP r).vars=r.params:=by
 have h:Xx ds (⟨[],[],[],[],[],[]⟩:ZJ) 1:=⟨⟨rfl,rfl,rfl,rfl,rfl⟩,fun j h1 h2=>by simp at h2;omega,fun j h1 h2=>by simp at h2;omega,by simp,by simp⟩
 obtain ⟨k1,k2⟩:=MA (lent:=r.lent) (ps:=r.params) (i:=0) h
 exact ⟨k1,by rw [QP,k2];rfl⟩
end Go.Abs
namespace Go.Abs
theorem N2 {n:Zx}:∀{l:List Yb},Q6 n l=true->∀r∈l,¬U9 r.body<0/\YV n r.params r.body=r.result
 | [],_,r,h=>by simp at h
 | a::l,h,r,hr=>by
  rw [Q6] at h
  split at h
  ·rename_i h1
   rcases YQ.1 hr with rfl|hr
   ·exact h1
   ·exact N2 h r hr
  ·cases h
theorem Og {n:Zx} (hz:TC n) (h:Wd n=true):Xd n/\∀r∈n.routines,0<=YV n r.params r.body:=by
 simp only [Wd,XL] at h
 refine ⟨GO hz h.1,fun r hr=>?_⟩
 rw [(N2 h.2 r hr).2]
 have h1:=h.1
 simp only [VL,Qb,XL] at h1
 have:=Ha h1.2.1.2.2.1 (VA r) (W6.2 ⟨r,hr,rfl⟩)
 simp only [QU,XL,decide_eq_true_eq,VA] at this
 exact (of_decide_eq_true this.2.2).1
end Go.Abs
end
section
namespace Go.Abs
theorem Rw {xs:List Int} (h:Z8 xs=[]):xs=[]:=by cases xs with|nil=>rfl|cons x r=>cases h
end Go.Abs
namespace Go.Abs
theorem IV (xss:List (List Int)) (k:Nat):(xss.take k).flatten.length<=xss.flatten.length:=by
 conv=>rhs;rw [<-UF k xss,List.flatten_append,Yz]
 omega
end Go.Abs
namespace Go.Abs
theorem G0 {xss:List (List Int)} {k:Nat} {x:List Int} (h:xss[k]? = some x):(xss.take (k+1)).flatten=(xss.take k).flatten++x:=by rw [WM h,List.flatten_append];simp
theorem IU {xss:List (List Int)} {k:Nat} {x:List Int} (h:xss[k]? = some x):(xss.take k).flatten.length+x.length<=xss.flatten.length:=by
 have:=IV xss (k+1)
 rw [G0 h,Yz] at this
 exact this
end Go.Abs
end
section
namespace Go.Abs
theorem PG {c:Int} {ds:List Zf} {k:Nat} {d:Zf} {r:Int × List Int} (h:ds[k]? = some d) (hn:¬(c-Ys (ds.take k)>=0/\c-Ys (ds.take k)<d.cons.length))
  (hr:Up c (ds.drop k) k (Ys (ds.take k))=r):Up c (ds.drop (k+1)) (k+1) (Ys (ds.take (k+1)))=r:=by
 rw [Y8 h,Up,Zc om] at hr
 rw [WM h,Cc,<-hr];rfl
end Go.Abs
namespace Go.Abs
theorem PI {c:Int} {ds:List Zf} {k:Nat} {d:Zf} {x:Y5} (h:ds[k]? = some d) (hn:c-Ys (ds.take k)>=0/\c-Ys (ds.take k)<d.cons.length)
  (hx:d.cons[(c-Ys (ds.take k)).toNat]? = some x):Up c (ds.drop k) k (Ys (ds.take k))=((k:Int)+1,x.fields):=by
 rw [Y8 h,Up,Zo om,hx];rfl
def JF (c:Int) (z:Nat) (v:Int):Prop:=v=c-z∨(c<0/\c-z < -9223372036854775808/\v=c-z+18446744073709551616)
theorem P4 {c:Int} {z l:Nat} {v:Int} (h:JF c z v) (hz:z<=100) (hl:l<=3) (hc:-9223372036854775808<=c/\c<=9223372036854775807):JF c (z+l) (Aq (v-l)):=by
 unfold JF at *;rw [Aq,IntKind.wrap_i64];omega
theorem PH {c v:Int} {ds:List Zf} {k:Nat} {d:Zf} {r:Int × List Int} (h:ds[k]? = some d) (ha:JF c (Ys (ds.take k)) v) (hn:¬(v>=0/\v<d.cons.length))
  (hr:Up c (ds.drop k) k (Ys (ds.take k))=r):Up c (ds.drop (k+1)) (k+1) (Ys (ds.take (k+1)))=r:=PG h (by unfold JF at ha;omega) hr
theorem PJ {c v:Int} {ds:List Zf} {k:Nat} {d:Zf} {x:Y5} (h:ds[k]? = some d) (ha:JF c (Ys (ds.take k)) v) (hz:Ys (ds.take k)<=100) (hl:d.cons.length<=3) (hc:-9223372036854775808<=c)
  (hn:v>=0/\v<d.cons.length) (hx:d.cons[v.toNat]? = some x):Up c (ds.drop k) k (Ys (ds.take k))=((k:Int)+1,x.fields):=by
 have:v=c-(Ys (ds.take k):Int):=by unfold JF at ha;omega
 subst this
 exact PI h hn hx
def Ws (ds:List Zf) (t:Int):Zf:=if X5 ds t=true then (ds[(t-1).toNat]?).getD ⟨0,0,[]⟩ else ⟨0,0,[]⟩
end Go.Abs
namespace Go.Abs
abbrev It (ds:List Zf) (d:Zf):Prop:=
 (((¬(0<=d.frm/\d.frm<=ds.length))∨(¬(0<=d.to_/\d.to_<=ds.length)))∨((d.cons.length:Int)>3))∨(((d.cons.length:Int)>0)/\((d.frm≠0)∨(d.to_≠0)))
theorem Rg {ds:List Zf} {d:Zf} {i:Nat} (h:It ds d):U3 ds d i=false:=by
 rw [U3]
 split
 ·rw [Zc];rintro ⟨h1,h2,h3⟩
  rcases h with ((h|h)|h)|h<;>omega
 ·split
  ·rfl
  ·rcases h with ((h|h)|h)|h
   ·rw [decide_eq_false h];rfl
   ·rw [decide_eq_false h,Bool.and_false]
   ·omega
   ·omega
theorem Rh {ds:List Zf} {d:Zf} {i:Nat} (hl:0<d.cons.length) (h:UY ds.length d.cons=false):U3 ds d i=false:=by
 rw [U3,Zo hl];split
 ·exact h
 ·rfl
theorem Ri {ds:List Zf} {d:Zf} {i:Nat} (hl:d.cons.length=0) (h:TX d (ds.take i)=true):U3 ds d i=false:=by
 rw [U3,Zc om,Zo h]
theorem Rj {ds:List Zf} {d:Zf} {i:Nat} (h1:¬It ds d) (h2:UY ds.length d.cons=true) (h3:d.cons.length=0->TX d (ds.take i)=false):U3 ds d i=true:=by
 rw [U3]
 have ha:0<=d.frm/\d.frm<=ds.length:=V1.1 fun q=>h1 (.inl (.inl (.inl q)))
 have hb:0<=d.to_/\d.to_<=ds.length:=V1.1 fun q=>h1 (.inl (.inl (.inr q)))
 have hc:¬(d.cons.length:Int)>3:=fun q=>h1 (.inl (.inr q))
 split
 ·rename_i hl
  have hd:¬(d.frm≠0∨d.to_≠0):=fun q=>h1 (.inr ⟨by omega,q⟩)
  rw [Zo ⟨by omega,by omega,by omega⟩];exact h2
 ·rw [Zc (by rw [h3 om];simp),decide_eq_true ha,decide_eq_true hb];rfl
theorem HA {ds:List Zf} {k:Nat} {d:Zf} (h:ds[k]? = some d) (hA:U3 ds d k=false) (c:Uq ds (ds.drop k) k=Uq ds ds 0):false=Wh ds:=by
 rw [Wh,<-c,Y8 h,Uq,Cd h,hA,Zc (by simp),Bool.and_false]
theorem Z8u {ds:List Zf} {k:Nat} {d:Zf} {r:Bool} (h:ds[k]? = some d) (hA:U3 ds d k=true) (c:Uq ds (ds.drop k) k=r):Uq ds (ds.drop (k+1)) (k+1)=r:=by
 rw [Y8 h,Uq,Cd h,hA,Zo rfl] at c;exact c
theorem Z8t {ds:List Zf} {k:Nat} (hl:ds.length<=4) (hk:ds.length<=k) (c:Uq ds (ds.drop k) k=Uq ds ds 0):true=Wh ds:=by
 rw [Wh,<-c,Xb hk,decide_eq_true hl];rfl
theorem PK {m:Nat} {c:Y5} (h:((c.fields.length:Int)>3)∨(¬(XJ m c.fields=true))):K8 m c=false:=by
 rw [K8]
 rcases h with h|h
 ·rw [decide_eq_false om];rfl
 ·rw [Ty.2 h,Bool.and_false]
theorem PL {m:Nat} {c:Y5} (h:¬(((c.fields.length:Int)>3)∨(¬(XJ m c.fields=true)))):K8 m c=true:=by
 rw [K8,V1.1 fun q=>h (.inr q),decide_eq_true (by have:¬(c.fields.length:Int)>3:=fun q=>h (.inl q);omega)];rfl
end Go.Abs
end
section
namespace Go.Abs
structure WG where
 pms:List Int
 lnt:List Int
 res:Int
abbrev BH (f:WG):List AV:=[Z0 f.pms,Z0 f.lnt,.i f.res]
abbrev Db (f:WG):AV:=.agg (BH f)
def UI (fs:List WG):List AV:=fs.map Db
abbrev Vm (xs:List WG):AV:=.sl (UI xs) none
abbrev BM (xs:List WG) (v:Value):AV:=.sl (UI xs) (some v)
theorem Bt {xs:List WG} {j:Nat} {x:WG} (h:xs[j]? = some x):(UI xs)[j]? = some (Db x):=by simp [UI,h]
@[simp] theorem Cf (xs:List WG):(UI xs).length=xs.length:=by simp [UI]
theorem Iw (xs:List WG):∀y∈UI xs,y.leaves.length=3:=by intro y hy;simp only [UI,W6] at hy;obtain ⟨x,_,rfl⟩:=hy;rfl
theorem RA (xs:List WG):(Zl (UI xs)).all AV.one=true:=KG fun y hy=>by simp only [UI,W6] at hy;obtain ⟨x,_,rfl⟩:=hy;rfl
def XA (r:Yb):WG:=⟨r.params,r.lent,r.result⟩
def KQ (m:Nat) (f:WG):Bool:=QU m ⟨f.pms,f.res⟩&&K1 f.pms f.lnt
def Qq (m:Nat):List WG->Bool
 | []=>true
 | f::r=>if KQ m f=true then Qq m r else false
def FV:List WG->Bool
 | []=>false
 | f::_=>decide (f.pms.length=0)&&decide (f.res=0)
def Qu (ds:List Zf) (fs:List WG):Bool:=Wh ds&&(decide (1<=fs.length/\fs.length<=4)&&(FV fs&&Qq ds.length fs))
theorem IN {fs:List WG} {x:WG} (h:fs[0]? = some x):FV fs=(decide (x.pms.length=0)&&decide (x.res=0)):=by
 cases fs with
 | nil=>simp at h
 | cons f r=>simp at h;subst h;rfl
theorem Nt (m:Nat):∀rs:List Yb,Qq m (rs.map XA)=(QV m (rs.map VA)&&KJ rs)
 | []=>rfl
 | r::rs=>by
  simp only [Un,Qq,QV,KJ,KQ,Nt m rs]
  simp only [XA,VA]
  by_cases h1:QU m { params:=r.params,result:=r.result }=true<;>by_cases h2:K1 r.params r.lent=true<;>simp [h1,h2]
theorem Mb (n:Zx):VL n=(decide (n.routines.length<=4)&&Qu n.decls (n.routines.map XA)):=by
 have hf:FV (n.routines.map XA)=DC (n.routines.map VA):=by
  cases n.routines with
  | nil=>rfl
  | cons r rs=>rfl
 rw [VL,Qu,Qb,Nt,hf]
 simp only [Au]
 cases decide (n.routines.length<=4)<;>cases Wh n.decls<;>cases decide (1<=n.routines.length/\n.routines.length<=4)<;>cases QV n.decls.length (n.routines.map VA) <;>
  cases DC (n.routines.map VA)<;>cases KJ n.routines<;>rfl
theorem Ey {rs:List Yb} {j:Nat} {x:WG} (h:(rs.map XA)[j]? = some x):∃r,rs[j]? = some r/\x=XA r:=by
 rw [Kr] at h
 cases hr:rs[j]? with
 | none=>rw [hr] at h;cases h
 | some r=>rw [hr] at h;cases h;exact ⟨r,rfl,rfl⟩
theorem M2 {ps ls:List Int} {j:Nat} {v:Int} {r:Bool} (h:ls[j]? = some v) (hg:(0<=v/\v<=(ps.length:Int)-1)/\ps[v.toNat]?≠some 0/\(∀p,(if j=0 then none else ls[j-1]?)=some p->p<v))
  (hr:Qp ps (ls.drop j) (if j=0 then none else ls[j-1]?)=r):Qp ps (ls.drop (j+1)) (if j+1=0 then none else ls[j+1-1]?)=r:=by
 rw [Y8 h,GI hg] at hr
 rw [Zc om,show j+1-1=j from rfl,h];exact hr
theorem GJ {ps ls:List Int} {j:Nat} {v:Int} {r:Bool} (h:ls[j]? = some v) (hg:¬((0<=v/\v<=(ps.length:Int)-1)/\ps[v.toNat]?≠some 0/\(∀p,(if j=0 then none else ls[j-1]?)=some p->p<v)))
  (hr:Qp ps (ls.drop j) (if j=0 then none else ls[j-1]?)=r):r=false:=by
 rw [Y8 h,E8 hg] at hr;exact hr.symm
theorem Ez {m:Nat} {fs:List WG} {k:Nat} {f:WG} {r:Bool} (h:fs[k]? = some f) (hb:KQ m f=false) (hr:Qq m (fs.drop k)=r):r=false:=by
 rw [Y8 h,Qq,hb,Zc (by simp)] at hr;exact hr.symm
theorem Z68 {m:Nat} {fs:List WG} {k:Nat} {f:WG} {r:Bool} (h:fs[k]? = some f) (hb:KQ m f=true) (hr:Qq m (fs.drop k)=r):Qq m (fs.drop (k+1))=r:=by
 rw [Y8 h,Qq,Zo hb] at hr;exact hr
end Go.Abs
namespace Go.Abs
section
variable {ds:List Zf} {fs:List WG} {x:WG}
theorem Z8z (h:((¬(Wh ds=true))∨((fs.length:Int)<1))∨((fs.length:Int)>4)):false=Qu ds fs:=by
 rw [Qu]
 rcases h with (h|h)|h
 ·rw [Ty.2 h];rfl
 ·rw [decide_eq_false (p:=1<=fs.length/\fs.length<=4) om];simp
 ·rw [decide_eq_false (p:=1<=fs.length/\fs.length<=4) om];simp
theorem Oi (hx:fs[0]? = some x) (h:((x.pms.length:Int)>0)∨x.res≠0):false=Qu ds fs:=by
 rw [Qu,IN hx]
 rcases h with h|h
 ·rw [decide_eq_false (p:=x.pms.length=0) om];simp
 ·rw [decide_eq_false (p:=x.res=0) h];simp
theorem EM (h:Qq ds.length fs=false):false=Qu ds fs:=by rw [Qu,h];simp
theorem Z90 (h:¬(((¬(Wh ds=true))∨((fs.length:Int)<1))∨((fs.length:Int)>4))) (hx:fs[0]? = some x) (h1:¬((x.pms.length:Int)>0)) (h2:¬x.res≠0) (h3:Qq ds.length fs=true) :
  true=Qu ds fs:=by
 have hv:Wh ds=true:=V1.1 fun q=>h (.inl (.inl q))
 have ha:¬(fs.length:Int)<1:=fun q=>h (.inl (.inr q))
 have hb:¬(fs.length:Int)>4:=fun q=>h (.inr q)
 rw [Qu,IN hx,hv,h3,decide_eq_true (p:=1<=fs.length/\fs.length<=4) om,decide_eq_true (p:=x.pms.length=0) om,decide_eq_true (p:=x.res=0) (V1.1 h2)];rfl
abbrev Ns (m:Nat) (x:WG):Prop:=(((x.pms.length:Int)>3)∨(¬(XJ m x.pms=true)))∨(¬(0<=x.res/\x.res<=m))
theorem Z5o {m:Nat} (h:Ns m x):KQ m x=false:=by
 rw [KQ,QU]
 rcases h with (h|h)|h
 ·rw [decide_eq_false (p:=x.pms.length<=3) om];simp
 ·rw [Ty.2 h];simp
 ·rw [decide_eq_false h];simp
theorem H4 {m:Nat} (h:K1 x.pms x.lnt=false):KQ m x=false:=by rw [KQ,h,Bool.and_false]
theorem Z5p {m:Nat} (h:¬Ns m x) (hl:K1 x.pms x.lnt=true):KQ m x=true:=by
 have h1:¬(x.pms.length:Int)>3:=fun q=>h (.inl (.inl q))
 rw [KQ,QU,hl,decide_eq_true (p:=x.pms.length<=3) om,V1.1 fun q=>h (.inl (.inr q)),decide_eq_true (V1.1 fun q=>h (.inr q))];rfl
end
end Go.Abs
namespace Go.Abs
abbrev Xk (n:Zx):AV:=Vm (n.routines.map XA)
end Go.Abs
end
section
namespace Go.Abs
def W0 (us:List Int):List Int->Option (List Int)
 | []=>some []
 | a::r=>match Xw us a with
  | none=>none
  | some t=>match W0 us r with
   | none=>none
   | some ts=>some (t::ts)
theorem Hx {us:List Int}:∀{args ts:List Int},W0 us args=some ts->∀tys,XS us args tys=true↔ts=tys
 | [],ts,h,tys=>by
  rw [W0] at h;cases h
  cases tys with
  | nil=>simp [XS,UT]
  | cons t r=>simp [XS,UT]
 | a::r,ts,h,tys=>by
  rw [W0] at h
  cases ha:Xw us a with
  | none=>rw [ha] at h;cases h
  | some t=>
   rw [ha] at h
   cases hr:W0 us r with
   | none=>rw [hr] at h;cases h
   | some tr=>
    rw [hr] at h;cases h
    cases tys with
    | nil=>simp [XS,UT]
    | cons t2 r2=>
     rw [XS,UT,ha]
     have:=Hx hr r2
     rw [XS] at this
     by_cases he:t=t2
     ·subst he;simp [this]
     ·rw [Zc (fun q=>he (JE q))];simp [he]
theorem HR {us:List Int}:∀{args ts:List Int},W0 us args=some ts->ts.length=args.length
 | [],ts,h=>by rw [W0] at h;cases h;rfl
 | a::r,ts,h=>by
  rw [W0] at h
  cases ha:Xw us a with
  | none=>rw [ha] at h;cases h
  | some t=>
   rw [ha] at h
   cases hr:W0 us r with
   | none=>rw [hr] at h;cases h
   | some tr=>rw [hr] at h;cases h;simp [HR hr]
theorem HS {us:List Int} {b t:Int}:∀{xs ts:List Int},W0 us xs=some ts->Xw us b=some t->W0 us (xs++[b])=some (ts++[t])
 | [],ts,h,hb=>by rw [W0] at h;cases h;simp [W0,hb]
 | a::r,ts,h,hb=>by
  rw [W0] at h
  cases ha:Xw us a with
  | none=>rw [ha] at h;cases h
  | some u=>
   rw [ha] at h
   cases hr:W0 us r with
   | none=>rw [hr] at h;cases h
   | some tr=>
    rw [hr] at h;cases h
    rw [Qw,W0,ha,HS hr hb];rfl
def C6 (n:Zx) (num:Int):List Int->Option Int
 | [a,b]=>if X5 n.decls a=true/\b=(Ws n.decls a).frm/\num=0 then some (Ws n.decls a).to_ else none
 | _=>none
def Xv (n:Zx) (op num:Int) (ts:List Int):Option Int:=
 if op=0 then (if (-999<=num/\num<=999)/\ts.length=0 then some 0 else none)
 else if op=1∨op=2∨op=3∨op=4 then (if num=0/\ts=[0,0] then some 0 else none)
 else if op=5 then (if num=0/\ts=[0] then some 0 else none)
 else if op=11 then C6 n num ts
 else if op=6 then (if 0<=Xt n.decls num/\ts=ZC n.decls num then some (Xt n.decls num) else none)
 else if op=9 then (match Xw n.routines num with
  | none=>none
  | some r=>if ts=r.params then some r.result else none)
 else if op=10 then (match Xw n.routines num with
  | none=>none
  | some r=>if r.params.length≠0/\0<=QC n.decls r.params r.result/\ts=r.params.take (r.params.length-1) then some (QC n.decls r.params r.result) else none)
 else none
theorem De {n:Zx} {num:Int} {ts:List Int} (h:ts.length≠2):C6 n num ts=none:=by
 match ts,h with
 | [],_=>rfl
 | [_],_=>rfl
 | [_,_],h=>simp at h
 | _::_::_::_,_=>rfl
structure Bg (n:Zx):Prop where
 result:∀r∈n.routines,0<=r.result
 params:∀r∈n.routines,∀p∈r.params,0<=p
 decl:∀d∈n.decls,d.cons.length=0->0<=d.frm/\0<=d.to_
 fields:∀c,∀f∈ZC n.decls c,0<=f
abbrev LF (us:List Int) (s:Z4):Prop:=s.into≠0/\(((s.op≠6∨s.into<1)∨s.into>us.length)∨gI us (s.into-1)=0)
theorem Z27 {us:List Int} {op into:Int} (hnn:∀t∈us,0<=t) (h:¬(into≠0/\(((op≠6∨into<1)∨into>us.length)∨gI us (into-1)=0))):VQ us op into=true:=by
 rw [VQ]
 split
 ·rfl
 ·rename_i h0
  have h1:¬(((op≠6∨into<1)∨into>us.length)∨gI us (into-1)=0):=fun q=>h ⟨h0,q⟩
  have h2:op=6:=V1.1 fun q=>h1 (.inl (.inl (.inl q)))
  have h3:¬into<1:=fun q=>h1 (.inl (.inl (.inr q)))
  have h4:¬into>us.length:=fun q=>h1 (.inl (.inr q))
  have h5:¬gI us (into-1)=0:=fun q=>h1 (.inr q)
  obtain ⟨t,ht⟩:=Zr (xs:=us) (j:=(into-1).toNat) om
  rw [Zo h2,TF om ht]
  rw [UK ht] at h5
  have:=hnn t (Y7 ht)
  simp;omega
theorem Z26 {us:List Int} {op into:Int} (h:into≠0/\(((op≠6∨into<1)∨into>us.length)∨gI us (into-1)=0)):VQ us op into=false:=by
 obtain ⟨h0,h⟩:=h
 rw [VQ,Zc h0]
 split
 ·rename_i h6
  cases ha:Xw us (into-1) with
  | none=>rfl
  | some t=>
   obtain ⟨a1,a2⟩:=JO ha
   rcases h with ((h|h)|h)|h
   ·exact absurd h6 h
   ·omega
   ·omega
   ·rw [UK a2] at h;subst h;rfl
 ·rfl
theorem Z89 {n:Zx} {us:List Int} {s:Z4} (h:LF us s):ZV n us s=-1:=by
 rw [B8,Zo (.inr (.inl (by rw [Z26 h];simp)))]
end Go.Abs
namespace Go.Abs
theorem Z28 {α:Type} {c:Prop} [Decidable c] {v:α}:(if c then some v else none).isSome=decide c:=by split<;>simp_all
theorem Z69 {n:Zx} (hty:Bg n) {op num:Int} {ts:List Int} {x:Int} (h:Xv n op num ts=some x):0<=x:=by
 unfold Xv at h
 split at h
 ·split at h<;>cases h;exact Int.le_refl 0
 split at h
 ·split at h<;>cases h;exact Int.le_refl 0
 split at h
 ·split at h<;>cases h;exact Int.le_refl 0
 split at h
 ·rcases ts with _|⟨a,_|⟨b,_|⟨c,r⟩⟩⟩
  ·cases h
  ·cases h
  ·rw [C6] at h
   split at h
   ·rename_i hq
    cases h
    rw [Ws,Zo hq.1]
    have hA:=hq.1
    simp only [X5,XL,decide_eq_true_eq] at hA
    cases hd:n.decls[(a-1).toNat]? with
    | none=>rw [hd] at hA;simp at hA
    | some d=>
     rw [hd] at hA
     exact (hty.decl d (Y7 hd) (by simpa using hA.2)).2
   ·cases h
  ·cases h
 split at h
 ·split at h
  ·rename_i hq;cases h;exact hq.1
  ·cases h
 split at h
 ·cases ha:Xw n.routines num with
  | none=>rw [ha] at h;cases h
  | some r=>
   rw [ha] at h
   simp only at h
   split at h
   ·cases h;exact hty.result r (Y7 (JO ha).2)
   ·cases h
 split at h
 ·cases ha:Xw n.routines num with
  | none=>rw [ha] at h;cases h
  | some r=>
   rw [ha] at h
   simp only at h
   split at h
   ·rename_i hq;cases h;exact hq.2.1
   ·cases h
 ·cases h
def QX (n:Zx) (us:List Int) (s:Z4) (ts:List Int):Int:=
 if Yf s.op=true then (match ts with
  | [t]=>if t≠0/\s.num=0/\s.kids.length=0/\¬((s.op=16∨s.op=17)/\X5 n.decls t=true) then 0 else -1
  | _=>-1)
 else if s.op=7 then (if ts=[0]/\s.num=0 then Ui n us s.op s.num s.kids else -1)
 else if s.op=8 then (if ts=[s.num] then Ui n us s.op s.num s.kids else -1)
 else if 0<s.kids.length∨(s.op=10/\0<(((Xw n.routines s.num).map (·.lent)).getD []).length) then -1
 else (Xv n s.op s.num ts).getD (-1)
theorem LH {p q:Prop} [Decidable p] [Decidable q] {a b:Int} (h:p↔q):ite p a b=ite q a b:=by
 by_cases hp:p
 ·rw [Zo hp,Zo (h.1 hp)]
 ·rw [Zc hp,Zc (fun z=>hp (h.2 z))]
theorem Am {n:Zx} {us:List Int} {s:Z4} {ts:List Int} (hnn:∀t∈us,0<=t) (hts:W0 us s.args=some ts) (hi:¬LF us s):ZV n us s=QX n us s ts:=by
 have hv:=Z27 hnn hi
 have ht:=Hx hts
 have hl:=HR hts
 have hfirst:((s.num≠0/\¬WO s.op=true)∨¬VQ us s.op s.into=true∨(0<s.kids.length/\s.op≠7/\s.op≠8))↔((s.num≠0/\¬WO s.op=true)∨(0<s.kids.length/\s.op≠7/\s.op≠8)):=by
  rw [hv];simp
 rw [B8,LH hfirst]
 unfold QX
 by_cases hc:Yf s.op=true
 ·have hop:14<=s.op/\s.op<=17:=by simpa [Yf] using hc
  have hnum:WO s.op=false:=by simp [WO];omega
  rw [Zo hc]
  by_cases hb:s.num≠0∨0<s.kids.length
  ·rw [Zo (by rcases hb with hb|hb;exact .inl ⟨hb,by rw [hnum];simp⟩;exact .inr ⟨hb,by omega,by omega⟩)]
   split
   ·rw [Zc];rintro ⟨h1,h2,h3,h4⟩;omega
   ·rfl
  ·rw [Zc (by rintro (⟨h1,_⟩|⟨h1,_⟩)<;>exact hb (by first|exact .inl h1|exact .inr h1)),Zc om,Zc om,Zc om,Zc om,Zc om,Zc om,Zc om,Zc om,Zo om]
   have Za:s.num=0:=V1.1 fun q=>hb (.inl q)
   have Zz:s.kids.length=0:=by have:¬0<s.kids.length:=fun q=>hb (.inr q);omega
   rcases he:s.args with _|⟨a,_|⟨b,r⟩⟩
   ·rw [he] at hts;rw [W0] at hts;cases hts;rfl
   ·rw [he] at hts
    rw [W0] at hts
    cases ha:Xw us a with
    | none=>rw [ha] at hts;cases hts
    | some t=>
     rw [ha,W0] at hts;cases hts
     rw [To,ha]
     simp only
     by_cases ht0:t=0
     ·rw [Zo ht0,Zc (fun q=>q.1 ht0)]
     ·rw [Zc ht0]
      by_cases hA:X5 n.decls t=true
      ·by_cases h16:s.op=16∨s.op=17
       ·rw [Zo ⟨by omega,hA⟩,Zc (fun q=>q.2.2.2 ⟨h16,hA⟩)]
       ·rw [Zc (by rintro ⟨q,_⟩;omega),Zo ⟨ht0,Za,Zz,fun q=>h16 q.1⟩]
      ·rw [Zc (fun q=>hA q.2),Zo ⟨ht0,Za,Zz,fun q=>hA q.2⟩]
   ·rw [he] at hl
    rw [show To n.decls us s.op (a::b::r)=-1 from rfl]
    match ts,hl with
    | [t],hl=>simp at hl
    | [],hl=>simp at hl
    | _::_::_,_=>rfl
 have hop:¬(14<=s.op/\s.op<=17):=by simpa [Yf] using hc
 by_cases h7:s.op=7
 ·have hnum:WO s.op=false:=by simp [WO];omega
  conv=>rhs;rw [Zc hc,Zo h7]
  by_cases hb:s.num=0
  ·rw [Zc (fun q=>q.elim (fun z=>z.1 hb) fun z=>z.2.1 h7),Zc om,Zc om,Zc om,Zc om,Zo h7]
   by_cases hq:ts=[0]
   ·rw [Zo ((ht _).2 hq),Zo ⟨hq,hb⟩]
   ·rw [Zc (fun q=>hq ((ht _).1 q)),Zc (fun q=>hq q.1)]
  ·rw [Zo (.inl ⟨hb,by rw [hnum];simp⟩),Zc (fun q=>hb q.2)]
 by_cases h8:s.op=8
 ·have hnum:WO s.op=true:=by simp [WO,h8]
  conv=>rhs;rw [Zc hc,Zc h7,Zo h8]
  rw [Zc (fun q=>q.elim (fun z=>z.2 hnum) fun z=>z.2.2 h8),Zc om,Zc om,Zc om,Zc om,Zc h7,Zo h8]
  by_cases hq:ts=[s.num]
  ·rw [Zo ((ht _).2 hq),Zo hq]
  ·rw [Zc (fun q=>hq ((ht _).1 q)),Zc hq]
 conv=>rhs;rw [Zc hc,Zc h7,Zc h8]
 by_cases hk:0<s.kids.length
 ·rw [Zo (.inr ⟨hk,h7,h8⟩),Zo (.inl hk)]
 by_cases hlent:s.op=10/\0<(((Xw n.routines s.num).map (·.lent)).getD []).length
 ·conv=>rhs;rw [Zo (.inr hlent)]
  have hnum:WO s.op=true:=by simp [WO,hlent.1]
  have h10:=hlent.1
  rw [Zc (fun q=>q.elim (fun z=>z.2 hnum) fun z=>hk z.1),Zc om,Zc om,Zc om,Zc om,Zc h7,Zc h8,Zo (.inr h10),TK]
  cases ha:Xw n.routines s.num with
  | none=>rfl
  | some r=>
   have h2:=hlent.2
   rw [ha] at h2
   simp only [Ax,Option.getD_some] at h2
   simp only
   rw [QS,Zc om,Zo (.inr (.inl h2))]
 conv=>rhs;rw [Zc (fun q=>Or.elim q hk hlent)]
 have sf:∀{X:Option Int},Xv n s.op s.num ts=X->ZV n us s=X.getD (-1)->ZV n us s=(Xv n s.op s.num ts).getD (-1):=fun a b=>by rw [a];exact b
 have hL:=B8 n us s
 rw [LH hfirst] at hL
 rw [<-hL]
 by_cases hnb:s.num≠0/\¬WO s.op=true
 ·have hnn2:¬(s.op=0∨(s.op=6∨(s.op=8∨(s.op=9∨s.op=10)))):=fun q=>hnb.2 (by simpa [WO] using q)
  refine sf (X:=none) ?_ (by rw [hL,Zo (.inl hnb)];rfl)
  unfold Xv
  rw [Zc om]
  split
  ·rw [Zc (fun q=>hnb.1 q.1)]
  split
  ·rw [Zc (fun q=>hnb.1 q.1)]
  split
  ·by_cases hl2:ts.length=2
   ·match ts,hl2 with
    | [a,b],_=>exact Zc fun q=>hnb.1 q.2.2
   ·exact De hl2
  rw [Zc om,Zc om,Zc om]
 rw [Zc (fun q=>q.elim hnb fun z=>hk z.1)] at hL
 have hnumf:¬(s.op=0∨(s.op=6∨(s.op=8∨(s.op=9∨s.op=10))))->s.num=0:=fun q=>V1.1 fun z=>hnb ⟨z,fun y=>q (by simpa [WO] using y)⟩
 by_cases h0:s.op=0
 ·rw [Zo h0] at hL
  by_cases hq:s.args.length=0/\(-999<=s.num/\s.num<=999)
  ·exact sf (by unfold Xv;rw [Zo h0,Zo ⟨hq.2,by omega⟩]) (by rw [hL,Zo hq];rfl)
  ·exact sf (by unfold Xv;rw [Zo h0,Zc (fun q=>hq ⟨by omega,q.1⟩)]) (by rw [hL,Zc hq];rfl)
 rw [Zc h0] at hL
 by_cases h1:s.op=1∨s.op=2∨s.op=3∨s.op=4
 ·rw [Zo h1] at hL
  by_cases hq:ts=[0,0]
  ·exact sf (by unfold Xv;rw [Zc h0,Zo h1,Zo ⟨hnumf om,hq⟩]) (by rw [hL,Zo ((ht _).2 hq)];rfl)
  ·exact sf (by unfold Xv;rw [Zc h0,Zo h1,Zc (fun q=>hq q.2)]) (by rw [hL,Zc (fun q=>hq ((ht _).1 q))];rfl)
 rw [Zc h1] at hL
 by_cases h5:s.op=5
 ·rw [Zo h5] at hL
  by_cases hq:ts=[0]
  ·exact sf (by unfold Xv;rw [Zc h0,Zc h1,Zo h5,Zo ⟨hnumf om,hq⟩]) (by rw [hL,Zo ((ht _).2 hq)];rfl)
  ·exact sf (by unfold Xv;rw [Zc h0,Zc h1,Zo h5,Zc (fun q=>hq q.2)]) (by rw [hL,Zc (fun q=>hq ((ht _).1 q))];rfl)
 rw [Zc h5] at hL
 by_cases h6:s.op=6
 ·rw [Zo h6] at hL
  have hct:0<Xt n.decls s.num↔0<=Xt n.decls s.num:=by
   rcases Int.lt_or_le (Xt n.decls s.num) 1 with q|q
   ·have:=(Dp q).2;omega
   ·omega
  by_cases hq:0<=Xt n.decls s.num/\ts=ZC n.decls s.num
  ·exact sf (by unfold Xv;rw [Zc h0,Zc h1,Zc h5,Zc om,Zo h6,Zo hq]) (by rw [hL,Zo ⟨hct.2 hq.1,(ht _).2 hq.2⟩];rfl)
  ·exact sf (by unfold Xv;rw [Zc h0,Zc h1,Zc h5,Zc om,Zo h6,Zc hq]) (by rw [hL,Zc (fun q=>hq ⟨hct.1 q.1,(ht _).1 q.2⟩)];rfl)
 rw [Zc h6,Zc h7,Zc h8] at hL
 by_cases h9:s.op=9
 ·rw [Zo (.inl h9),TK] at hL
  cases ha:Xw n.routines s.num with
  | none=>exact sf (by unfold Xv;rw [Zc h0,Zc h1,Zc h5,Zc om,Zc h6,Zo h9,ha]) (by rw [hL,ha];rfl)
  | some r=>
   rw [ha] at hL
   simp only at hL
   rw [QS,Zo h9] at hL
   have hF:∀{X:Option Int},(if ts=r.params then some r.result else none)=X->Xv n s.op s.num ts=X:=fun q=>by
    unfold Xv;rw [Zc h0,Zc h1,Zc h5,Zc om,Zc h6,Zo h9,ha];exact q
   by_cases hq:ts=r.params
   ·exact sf (hF (Zo hq)) (by rw [hL,Zo ((ht _).2 hq)];rfl)
   ·exact sf (hF (Zc hq)) (by rw [hL,Zc (fun q=>hq ((ht _).1 q))];rfl)
 by_cases h10:s.op=10
 ·rw [Zo (.inr h10),TK] at hL
  cases ha:Xw n.routines s.num with
  | none=>exact sf (by unfold Xv;rw [Zc h0,Zc h1,Zc h5,Zc om,Zc h6,Zc h9,Zo h10,ha]) (by rw [hL,ha];rfl)
  | some r=>
   rw [ha] at hL hlent
   simp only [Ax,Option.getD_some] at hL hlent
   rw [QS,Zc h9] at hL
   have hF:∀{X:Option Int},(if r.params.length≠0/\0<=QC n.decls r.params r.result/\ts=r.params.take (r.params.length-1) then some (QC n.decls r.params r.result) else none)=X->Xv n s.op s.num ts=X:=fun q=>by
    unfold Xv;rw [Zc h0,Zc h1,Zc h5,Zc om,Zc h6,Zc h9,Zo h10,ha];exact q
   by_cases hp:r.params.length=0
   ·exact sf (hF (Zc fun q=>q.1 hp)) (by rw [hL,Zo (.inl hp)];rfl)
   by_cases hq:ts=r.params.take (r.params.length-1)
   ·rw [Zc (fun z=>z.elim hp fun z=>z.elim (fun z=>hlent ⟨h10,z⟩) fun z=>z ((ht _).2 hq))] at hL
    by_cases har:0<=QC n.decls r.params r.result
    ·exact sf (hF (Zo ⟨hp,har,hq⟩)) hL
    ·refine sf (hF (Zc fun q=>har q.2.1)) ?_
     have key:∀(l:List Zf) (i:Nat) (f t:Int),¬0<=Qh f t l i->Qh f t l i=-1:=by
      intro l
      induction l with
      | nil=>intro i f t _;rfl
      | cons d r ih=>
       intro i f t hn
       rw [Qh] at hn ⊢
       split
       ·rename_i hh;rw [Zo hh] at hn;omega
       ·rename_i hh;rw [Zc hh] at hn;exact ih _ _ _ hn
     exact hL.trans (key _ _ _ _ har)
   ·exact sf (hF (Zc fun q=>hq q.2.2)) (by rw [hL,Zo (.inr (.inr fun q=>hq ((ht _).1 q)))];rfl)
 rw [Zc om] at hL
 by_cases h11:s.op=11
 ·rw [Zo h11] at hL
  have hn0:=hnumf om
  have hF:∀{X:Option Int},C6 n s.num ts=X->Xv n s.op s.num ts=X:=fun q=>by
   unfold Xv;rw [Zc h0,Zc h1,Zc h5,Zo h11];exact q
  rcases he:s.args with _|⟨a,_|⟨b,_|⟨c,r⟩⟩⟩
  ·rw [he] at hts hL;rw [W0] at hts;cases hts;exact sf (hF rfl) hL
  ·rw [he] at hl hL
   exact sf (hF (De (by simp at hl;omega))) hL
  ·rw [he] at hts hL
   rw [W0] at hts
   cases ha:Xw us a with
   | none=>rw [ha] at hts;cases hts
   | some t=>
    rw [ha,W0] at hts
    cases hb:Xw us b with
    | none=>rw [hb] at hts;cases hts
    | some t2=>
     rw [hb,W0] at hts;cases hts
     rw [TV,ha] at hL
     simp only at hL
     by_cases hA:X5 n.decls t=true
     ·rw [Zo hA] at hL
      have hA2:=hA
      simp only [X5,XL,decide_eq_true_eq] at hA2
      cases hd:n.decls[(t-1).toNat]? with
      | none=>rw [hd] at hA2;simp at hA2
      | some d=>
       rw [hd] at hL
       simp only at hL
       have hD:Ws n.decls t=d:=by rw [Ws,Zo hA,hd];rfl
       have h2:=Hx (us:=us) (args:=[b]) (ts:=[t2]) (by rw [W0,hb,W0]) [d.frm]
       by_cases hq:t2=d.frm
       ·exact sf (hF (Zo ⟨hA,by rw [hD];exact hq,hn0⟩)) (by rw [hL,Zo (h2.2 (by rw [hq])),hD];rfl)
       ·exact sf (hF (Zc fun q=>hq (by rw [hD] at q;exact q.2.1))) (by rw [hL,Zc (fun q=>hq (by simpa using h2.1 q))];rfl)
     ·exact sf (hF (Zc fun q=>hA q.1)) (by rw [hL,Zc hA];rfl)
  ·rw [he] at hl hL
   exact sf (hF (De (by simp at hl;omega))) hL
 rw [Zc h11,Zc om] at hL
 exact sf (X:=none) (by unfold Xv;rw [Zc h0,Zc h1,Zc h5,Zc h11,Zc h6,Zc h9,Zc h10]) hL
end Go.Abs
namespace Go.Abs
theorem Mg:∀(n:Nat) (f:Int) (k:Nat) (x:Int),(Wv f n)[k]? = some x->x=f+k/\k<n
 | 0,f,k,x,h=>by simp [Wv] at h
 | n+1,f,k,x,h=>by
  rw [Wv] at h
  cases k with
  | zero=>simp at h;subst h;exact ⟨by omega,by omega⟩
  | succ k=>have:=Mg n (f+1) k x (by simpa using h);exact ⟨by omega,by omega⟩
theorem PN {ds:List Zf} (hd:Wn ds) {t:Int} {k:Nat} {x:Int} (h:(Zw ds t)[k]? = some x):0<=x/\x<=100:=by
 rw [Zw] at h
 split at h
 ·rename_i ht
  obtain ⟨d,hd1⟩:=Zr (xs:=ds) (j:=(t-1).toNat) om
  rw [hd1] at h
  have:=Mg _ _ _ _ h
  have h3:=hd.cons_at hd1
  have h4:=(hd.take (t-1).toNat).sum
  simp only [Ax,Option.getD_some] at this
  omega
 ·simp at h
end Go.Abs
namespace Go.Abs
section
variable {S:Option Int} {c:Prop} [Decidable c] {v:Int} {b:Bool}
theorem Ag (h:S=if c then some v else none) (hb:b=true↔c):b=S.isSome:=by rw [h,Z28,Xl,hb,decide_eq_true_iff]
theorem Ah (h:S=if c then some v else none):∀x,S=some x->v=x:=by
 intro x hx;rw [h] at hx;split at hx
 ·exact JE hx
 ·cases hx
theorem CU (h:S=none):false=S.isSome:=by rw [h];rfl
theorem CV (h:S=none):∀x,S=some x->v=x:=by intro x hx;rw [h] at hx;cases hx
end
section
variable {n:Zx} {op num:Int} {ts:List Int}
theorem sf0 (h:op=0):Xv n op num ts=if (-999<=num/\num<=999)/\ts.length=0 then some 0 else none:=by unfold Xv;rw [Zo h]
theorem sf1 (h:op=1∨op=2∨op=3∨op=4):Xv n op num ts=if num=0/\ts=[0,0] then some 0 else none:=by unfold Xv;rw [Zc om,Zo h]
theorem sf5 (h:op=5):Xv n op num ts=if num=0/\ts=[0] then some 0 else none:=by unfold Xv;rw [Zc om,Zc om,Zo h]
theorem Nr (h:op=11):Xv n op num ts=C6 n num ts:=by unfold Xv;rw [Zc om,Zc om,Zc om,Zo h]
theorem Z65 (h:op=11) (hl:(ts.length:Int)≠2):Xv n op num ts=none:=(Nr h).trans (De om)
theorem H8 (h:op=11) {a b:Int} (hl:¬(ts.length:Int)≠2) (ha:ts[0]? = some a) (hb:ts[1]? = some b) :
  Xv n op num ts=if X5 n.decls a=true/\b=(Ws n.decls a).frm/\num=0 then some (Ws n.decls a).to_ else none:=by
 rw [Nr h]
 match ts,hl,ha,hb with
 | [x,y],_,ha,hb=>simp at ha hb;subst ha;subst hb;rfl
 | [],hl,_,_=>simp at hl
 | [_],hl,_,_=>simp at hl
 | _::_::_::_,hl,_,_=>simp at hl;omega
theorem Z64 (h:op=11) {a:Int} (hl:¬(ts.length:Int)≠2) (ha:ts[0]? = some a) (hn:¬X5 n.decls a=true):Xv n op num ts=none:=by
 obtain ⟨b,hb⟩:=Zr (xs:=ts) (j:=1) om
 rw [H8 h hl ha hb,Zc fun q=>hn q.1]
theorem sf6 (h:op=6):Xv n op num ts=if 0<=Xt n.decls num/\ts=ZC n.decls num then some (Xt n.decls num) else none:=by
 unfold Xv;rw [Zc om,Zc om,Zc om,Zc om,Zo h]
theorem Z66 (h:op=9∨op=10) (hr:num<0∨num>=(((n.routines.map XA).length:Nat):Int)):Xv n op num ts=none:=by
 have ha:Xw n.routines num=none:=Qi (by simp at hr;omega)
 unfold Xv
 rw [Zc om,Zc om,Zc om,Zc om,Zc om]
 rcases h with h|h
 ·rw [Zo h,ha]
 ·rw [Zc om,Zo h,ha]
theorem sf9 (h:op=9) {x:WG} (hr:¬(num<0∨num>=(((n.routines.map XA).length:Nat):Int))) (hx:(n.routines.map XA)[num.toNat]? = some x) :
  Xv n op num ts=if ts=x.pms then some x.res else none:=by
 obtain ⟨r,h1,rfl⟩:=Ey hx
 have ha:Xw n.routines num=some r:=TF (by simp at hr;omega) h1
 unfold Xv
 rw [Zc om,Zc om,Zc om,Zc om,Zc om,Zo h,ha];rfl
theorem Z63 (h:op=10) {x:WG} (hr:¬(num<0∨num>=(((n.routines.map XA).length:Nat):Int))) (hx:(n.routines.map XA)[num.toNat]? = some x) (hp:(x.pms.length:Int)-1<0) :
  Xv n op num ts=none:=by
 obtain ⟨r,h1,rfl⟩:=Ey hx
 have ha:Xw n.routines num=some r:=TF (by simp at hr;omega) h1
 have hp':r.params.length=0:=by simp only [XA] at hp;omega
 unfold Xv
 rw [Zc om,Zc om,Zc om,Zc om,Zc om,Zc om,Zo h,ha]
 exact Zc fun q=>q.1 hp'
theorem Z62 (h:op=10) {x:WG} {l:Int} (hr:¬(num<0∨num>=(((n.routines.map XA).length:Nat):Int))) (hx:(n.routines.map XA)[num.toNat]? = some x) (hp:¬(x.pms.length:Int)-1<0)
  (hl:x.pms[((x.pms.length:Int)-1).toNat]? = some l) :
  Xv n op num ts=if 0<=WV n.decls l x.res/\ts=x.pms.take ((x.pms.length:Int)-1).toNat then some (WV n.decls l x.res) else none:=by
 obtain ⟨r,h1,rfl⟩:=Ey hx
 have ha:Xw n.routines num=some r:=TF (by simp at hr;omega) h1
 simp only [XA] at hp hl ⊢
 have hq:((r.params.length:Int)-1).toNat=r.params.length-1:=by omega
 have ht:r.params.take ((r.params.length:Int)-1).toNat=r.params.take (r.params.length-1):=Yx (fun k=>r.params.take k) hq
 have hl':r.params[r.params.length-1]? = some l:=by rw [<-hl];exact Yx (fun k=>r.params[k]?) hq.symm
 have hlast:QC n.decls r.params r.result=WV n.decls l r.result:=by rw [QC,Ln hl']
 unfold Xv
 rw [Zc om,Zc om,Zc om,Zc om,Zc om,Zc om,Zo h,ha]
 simp only [hlast]
 by_cases hc:0<=WV n.decls l r.result/\ts=r.params.take (r.params.length-1)
 ·rw [Zo ⟨by omega,hc⟩]
  exact (Zo ⟨hc.1,hc.2.trans ht.symm⟩).symm
 ·rw [Zc fun q=>hc q.2]
  exact (Zc (fun q=>hc ⟨q.1,q.2.trans ht⟩)).symm
theorem sfd (h0:¬op=0) (h1:¬(op=1∨op=2∨op=3∨op=4)) (h5:¬op=5) (h11:¬op=11) (h6:¬op=6) (h9:¬(op=9∨op=10)):Xv n op num ts=none:=by
 unfold Xv;rw [Zc h0,Zc h1,Zc h5,Zc h11,Zc h6,Zc om,Zc om]
end
end Go.Abs
end
namespace Go.Abs
mutual
def Z4.rng:Z4->Prop
 | .mk _ num _ _ kids=>(-9223372036854775808<=num/\num<=9223372036854775807)/\TW kids
def Z6.rng:Z6->Prop
 | .mk steps _=>Qt steps
def Qt:List Z4->Prop
 | []=>True
 | s::r=>s.rng/\Qt r
def TW:List Z6->Prop
 | []=>True
 | b::r=>b.rng/\TW r
end
theorem Z4.rng_eq (s:Z4):s.rng=((-9223372036854775808<=s.num/\s.num<=9223372036854775807)/\TW s.kids):=by cases s;rw [Z4.rng];rfl
theorem Z6.rng_eq (b:Z6):b.rng=Qt b.steps:=by cases b;rw [Z6.rng];rfl
theorem NQ:∀{xs:List Z4} {k:Nat} {s:Z4},Qt xs->xs[k]? = some s->s.rng
 | [],k,s,_,h=>by simp at h
 | x::r,0,s,hr,h=>by rw [Qt] at hr;simp at h;subst h;exact hr.1
 | x::r,k+1,s,hr,h=>by rw [Qt] at hr;exact NQ (k:=k) hr.2 (by simpa using h)
theorem I6:∀{xs:List Z6} {k:Nat} {b:Z6},TW xs->xs[k]? = some b->b.rng
 | [],k,s,_,h=>by simp at h
 | x::r,0,s,hr,h=>by rw [TW] at hr;simp at h;subst h;exact hr.1
 | x::r,k+1,s,hr,h=>by rw [TW] at hr;exact I6 (k:=k) hr.2 (by simpa using h)
theorem Hy {us:List Int}:∀{args:List Int},W0 us args=none->∀tys,XS us args tys=false
 | [],h,tys=>by rw [W0] at h;cases h
 | a::r,h,tys=>by
  cases tys with
  | nil=>simp [XS,UT]
  | cons t ts=>
   rw [W0] at h
   rw [XS,UT]
   cases ha:Xw us a with
   | none=>simp
   | some u=>
    rw [ha] at h
    cases hr:W0 us r with
    | none=>
     have:=Hy hr ts
     rw [XS] at this
     by_cases he:u=t
     ·subst he;simpa using this
     ·rw [Zc (fun q=>he (JE q))]
    | some tr=>rw [hr] at h;cases h
theorem Z88 {n:Zx} {us:List Int} {s:Z4} (h:W0 us s.args=none):ZV n us s=-1:=by
 have ht:=Hy h
 rw [B8]
 split
 ·rfl
 split
 ·rw [Zc];rintro ⟨q,_⟩
  have:s.args=[]:=List.length_eq_zero_iff.1 q
  rw [this,W0] at h;cases h
 split
 ·rw [Zc (by rw [ht];simp)]
 split
 ·rw [Zc (by rw [ht];simp)]
 split
 ·rw [Zc (by rw [ht];simp)]
 split
 ·rw [Zc (by rw [ht];simp)]
 split
 ·rw [Zc (by rw [ht];simp)]
 split
 ·rw [TK]
  cases Xw n.routines s.num with
  | none=>rfl
  | some r=>
   simp only
   rw [QS]
   split
   ·rw [Zc (by rw [ht];simp)]
   ·rw [Zo (.inr (.inr (by rw [ht];simp)))]
 split
 ·match hA:s.args with
  | []=>rfl
  | [_]=>rfl
  | [a,b]=>
   rw [TV]
   rw [hA,W0] at h
   cases ha:Xw us a with
   | none=>rfl
   | some t=>
    rw [ha] at h
    simp only at h ⊢
    split
    ·cases n.decls[(t-1).toNat]? with
     | none=>rfl
     | some d=>
      simp only
      rw [Zc]
      cases hb:W0 us [b] with
      | none=>rw [Hy hb];simp
      | some tr=>rw [hb] at h;cases h
    ·rfl
  | _::_::_::_=>rfl
 split
 ·match hA:s.args with
  | []=>rfl
  | [a]=>
   rw [To]
   rw [hA,W0] at h
   cases ha:Xw us a with
   | none=>rfl
   | some t=>rw [ha,W0] at h;cases h
  | _::_::_=>rfl
 ·rfl
theorem HQ {us:List Int} {a:Int}:∀{xs:List Int} {k:Nat},xs[k]? = some a->Xw us a=none->W0 us xs=none
 | [],k,h,_=>by simp at h
 | x::r,0,h,ha=>by simp at h;subst h;rw [W0,ha]
 | x::r,k+1,h,ha=>by
  have:=HQ (xs:=r) (k:=k) (by simpa using h) ha
  rw [W0]
  cases Xw us x with
  | none=>rfl
  | some t=>simp only [this]
theorem Z2q {n:Zx} {us:List Int} {ks:List Z6} {ms:List (List Int)} (h:0<ks.length) (t:Int) :
  Wi n us (ks.drop 0) (ms.drop 0) (decide (0=0)) t=Wi n us ks ms true 0:=by
 cases ks with
 | nil=>simp at h
 | cons b bs=>
  cases ms with
  | nil=>rw [Jz,Jz,Wi,Wi]
  | cons m r=>
   simp only [Jz,decide_true]
   rw [Wi,Wi];simp
theorem I9 {b:Z6}:∀{ks:List Z6} {k:Nat},ks[k]? = some b->b.sz<=YR ks
 | [],k,h=>by simp at h
 | x::r,0,h=>by simp at h;subst h;rw [YR];omega
 | x::r,k+1,h=>by have:=I9 (ks:=r) (k:=k) (by simpa using h);rw [YR];omega
theorem D0 (us m:List Int):[us,m].flatten=us++m:=by simp
theorem IY {xs:List Int} {i:Int} (h:i.toNat<xs.length):xs[i.toNat]? = some (gI xs i):=by rw [gI,JB h];rfl
theorem DI {xs:List Int} (h:0<xs.length):xs[0]? = some (gI xs 0):=IY (i:=0) h
def Tg (n:Zx) (num:Int):WG:=((n.routines.map XA)[num.toNat]?).getD ⟨[],[],0⟩
theorem Z67 {n:Zx} {i:Int} (h:i.toNat<(n.routines.map XA).length):(n.routines.map XA)[i.toNat]? = some (Tg n i):=by rw [Tg,JB h];rfl
theorem Ma {us m:List Int} (h1:∀t∈us,0<=t) (h2:∀t∈m,0<=t):∀t∈us++m,0<=t:=fun t h=>(Xr.1 h).elim (h1 t) (h2 t)
theorem JN {us:List Int} {args ts:List Int} {k:Nat} (h:W0 us (args.take k)=some ts) (hk:args.length<=k):W0 us args=some ts:=by
 rw [Vg hk] at h;exact h
theorem OW {us:List Int} {args ts:List Int} {k:Nat} {a t:Int} (h:W0 us (args.take k)=some ts) (ha:args[k]? = some a) (ht:Xw us a=some t):W0 us (args.take (k+1))=some (ts++[t]):=by
 rw [WM ha];exact HS h ht
theorem Mk {ts:List Int} (h:(ts.length:Int)=1):ts=[gI ts 0]:=by
 match ts,h with
 | [a],_=>rfl
section
variable {n:Zx} {us ts:List Int} {s:Z4}
theorem Jn {p1 p2 p3 p4 p5:Prop}:(p1/\(p2∨(p3∨(p4∨p5))))↔(p1/\(((p2∨p3)∨p4)∨p5)):=by simp only [or_assoc]
def Dn (n:Zx) (s:Z4) (ts:List Int):Int:=match ts with
  | [t]=>if t≠0/\s.num=0/\s.kids.length=0/\¬((s.op=16∨s.op=17)/\X5 n.decls t=true) then 0 else -1
  | _=>-1
theorem Al:QX n us s ts =
 if Yf s.op=true then Dn n s ts
 else if s.op=7 then (if ts=[0]/\s.num=0 then Ui n us s.op s.num s.kids else -1)
 else if s.op=8 then (if ts=[s.num] then Ui n us s.op s.num s.kids else -1)
 else if 0<s.kids.length∨(s.op=10/\0<(((Xw n.routines s.num).map (·.lent)).getD []).length) then -1
 else (Xv n s.op s.num ts).getD (-1):=by unfold QX Dn;rfl
theorem Ii (h:(ts.length:Int)=1):Dn n s ts=if gI ts 0≠0/\s.num=0/\s.kids.length=0/\¬((s.op=16∨s.op=17)/\X5 n.decls (gI ts 0)=true) then 0 else -1:=by
 match ts,h with
 | [a],_=>rfl
theorem PB (h:(ts.length:Int)≠1):Dn n s ts=-1:=by
 match ts,h with
 | [],_=>rfl
 | [a],h=>exact absurd rfl h
 | _::_::_,_=>rfl
theorem Z7q (hS:ZV n us s=QX n us s ts) (hc:Yf s.op=true)
  (h:((((ts.length:Int)=1/\gI ts 0≠0)/\s.num=0)/\(s.kids.length:Int)=0)/\(s.op=16∨s.op=17)) :
  (!X5 n.decls (gI ts 0))=decide (0<=ZV n us s):=by
 obtain ⟨⟨⟨⟨h1,h2⟩,h3⟩,h4⟩,h5⟩:=h
 have h4':s.kids.length=0:=by omega
 rw [hS,Al,Zo hc,Ii h1]
 cases hA:X5 n.decls (gI ts 0)
 ·rw [Zo ⟨h2,h3,h4',by simp⟩];rfl
 ·rw [Zc (fun q=>q.2.2.2 ⟨h5,rfl⟩)];rfl
theorem Z7r (hS:ZV n us s=QX n us s ts) (hc:Yf s.op=true)
  (h:¬(((((ts.length:Int)=1/\gI ts 0≠0)/\s.num=0)/\(s.kids.length:Int)=0)/\(s.op=16∨s.op=17))) :
  ((((((ts.length:Int)==1)&&(gI ts 0 != 0))&&(s.num==0))&&((s.kids.length:Int)==0)))=decide (0<=ZV n us s):=by
 rw [hS,Al,Zo hc]
 by_cases h1:(ts.length:Int)=1
 ·rw [Ii h1]
  by_cases h2:(gI ts 0≠0/\s.num=0)/\(s.kids.length:Int)=0
  ·obtain ⟨⟨h2,h3⟩,h4⟩:=h2
   have h4':s.kids.length=0:=by omega
   rw [Zo ⟨h2,h3,h4',fun q=>h ⟨⟨⟨⟨h1,h2⟩,h3⟩,h4⟩,q.1⟩⟩,Zh.2 h1,Yi.2 h2,Zh.2 h3,Zh.2 h4];rfl
  ·rw [Zc (fun q=>h2 ⟨⟨q.1,q.2.1⟩,by have:=q.2.2.1;omega⟩)]
   show _=false
   rw [Ty];intro q
   obtain ⟨⟨⟨_,q1⟩,q2⟩,q3⟩:=(YD (YD (YD Zh Yi) Zh) Zh).1 q
   exact h2 ⟨⟨q1,q2⟩,q3⟩
 ·rw [PB h1]
  show _=false
  rw [Ty];intro q
  obtain ⟨⟨⟨q1,_⟩,_⟩,_⟩:=(YD (YD (YD Zh Yi) Zh) Zh).1 q
  exact h1 q1
theorem Z7m (hS:ZV n us s=QX n us s ts) (hc:¬Yf s.op=true) (h7:s.op=7)
  (h:(((ts.length:Int)≠1∨gI ts 0≠0)∨s.num≠0)∨(s.kids.length:Int)≠2):ZV n us s=-1:=by
 rw [hS,Al,Zc hc,Zo h7]
 split
 ·rename_i q
  obtain ⟨q1,q2⟩:=q
  rw [q1] at h
  rw [Ui,Zo]
  right
  rw [X7,Zo h7]
  have:gI [0] 0=0:=rfl
  simp [this] at h
  show s.kids.length≠2
  omega
 ·rfl
theorem Z7n (hS:ZV n us s=QX n us s ts) (hc:¬Yf s.op=true) (h7:s.op=7)
  (h:¬((((ts.length:Int)≠1∨gI ts 0≠0)∨s.num≠0)∨(s.kids.length:Int)≠2)):ZV n us s=Wi n us s.kids (List.replicate 2 []) true 0:=by
 have h1:(ts.length:Int)=1:=V1.1 fun q=>h (.inl (.inl (.inl q)))
 have h2:gI ts 0=0:=V1.1 fun q=>h (.inl (.inl (.inr q)))
 have h3:s.num=0:=V1.1 fun q=>h (.inl (.inr q))
 have h4:(s.kids.length:Int)=2:=V1.1 fun q=>h (.inr q)
 rw [hS,Al,Zc hc,Zo h7,Zo ⟨by rw [Mk h1,h2],h3⟩,Ui,Zc]
 ·rw [X7,Zo h7];rfl
 ·rw [X7,Zo h7];simp;omega
theorem Z7o (hS:ZV n us s=QX n us s ts) (hc:¬Yf s.op=true) (h7:¬s.op=7) (h8:s.op=8)
  (h:(ts.length:Int)≠1∨(gI ts 0≠s.num∨(((((Zw n.decls s.num).map (ZC n.decls)).length:Nat):Int)=0∨(s.kids.length:Int)≠((((Zw n.decls s.num).map (ZC n.decls)).length:Nat):Int)))):ZV n us s=-1:=by
 rw [hS,Al,Zc hc,Zc h7,Zo h8]
 split
 ·rename_i q
  have hg:gI ts 0=s.num:=by rw [q];rfl
  have hl:(ts.length:Int)=1:=by rw [q];rfl
  rw [Ui,Zo]
  rw [X7,Zc h7]
  omega
 ·rfl
theorem Z7p (hS:ZV n us s=QX n us s ts) (hc:¬Yf s.op=true) (h7:¬s.op=7) (h8:s.op=8)
  (h:¬((ts.length:Int)≠1∨(gI ts 0≠s.num∨(((((Zw n.decls s.num).map (ZC n.decls)).length:Nat):Int)=0∨(s.kids.length:Int)≠((((Zw n.decls s.num).map (ZC n.decls)).length:Nat):Int))))) :
  ZV n us s=Wi n us s.kids ((Zw n.decls s.num).map (ZC n.decls)) true 0:=by
 have h1:(ts.length:Int)=1:=V1.1 fun q=>h (.inl q)
 have h2:gI ts 0=s.num:=V1.1 fun q=>h (.inr (.inl q))
 rw [hS,Al,Zc hc,Zc h7,Zo h8,Zo (by rw [Mk h1,h2]),Ui,Zc]
 ·rw [X7,Zc h7]
 ·rw [X7,Zc h7];omega
theorem Z39 {n:Zx} {num:Int}:(((Xw n.routines num).map (·.lent)).getD []).length=if 0<=num/\num<(((n.routines.map XA).length:Nat):Int) then (Tg n num).lnt.length else 0:=by
 split
 ·rename_i h
  rw [Au] at h
  obtain ⟨r,hr⟩:=Zr (xs:=n.routines) (j:=num.toNat) om
  rw [TF om hr,Tg,Kr,hr];rfl
 ·rename_i h
  rw [Au] at h
  rw [Qi om];rfl
theorem NU:(0<s.kids.length∨(s.op=10/\0<(((Xw n.routines s.num).map (·.lent)).getD []).length)) ↔
  ((s.kids.length:Int)>0∨(s.op=10/\(s.num>=0/\(s.num<(((n.routines.map XA).length:Nat):Int)/\((((Tg n s.num).lnt).length:Nat):Int)>0)))):=by
 rw [Z39]
 by_cases hq:0<=s.num/\s.num<(((n.routines.map XA).length:Nat):Int)
 ·rw [Zo hq];omega
 ·rw [Zc hq];omega
theorem stB (hS:ZV n us s=QX n us s ts) (hc:¬Yf s.op=true) (h7:¬s.op=7) (h8:¬s.op=8)
  (h:((s.kids.length:Int)>0∨(s.op=10/\(s.num>=0/\(s.num<(((n.routines.map XA).length:Nat):Int)/\((((Tg n s.num).lnt).length:Nat):Int)>0))))):ZV n us s=-1:=by
 rw [hS,Al,Zc hc,Zc h7,Zc h8,Zo (NU.2 h)]
theorem stS (hS:ZV n us s=QX n us s ts) (hc:¬Yf s.op=true) (h7:¬s.op=7) (h8:¬s.op=8)
  (h:¬((s.kids.length:Int)>0∨(s.op=10/\(s.num>=0/\(s.num<(((n.routines.map XA).length:Nat):Int)/\((((Tg n s.num).lnt).length:Nat):Int)>0))))):ZV n us s=(Xv n s.op s.num ts).getD (-1):=by
 rw [hS,Al,Zc hc,Zc h7,Zc h8,Zc (fun q=>h (NU.1 q))]
theorem Z7s (hty:Bg n) (h:ZV n us s=(Xv n s.op s.num ts).getD (-1)):(Xv n s.op s.num ts).isSome=decide (0<=ZV n us s):=by
 rw [h]
 cases hs:Xv n s.op s.num ts with
 | none=>rfl
 | some x=>have:=Z69 hty hs;simp [this]
theorem Z7t {t:Int} (h:ZV n us s=(Xv n s.op s.num ts).getD (-1)) (hp:∀x,Xv n s.op s.num ts=some x->t=x):¬Yf s.op=true->0<=ZV n us s->t=ZV n us s:=by
 intro _ h0
 rw [h] at h0 ⊢
 cases hs:Xv n s.op s.num ts with
 | none=>rw [hs] at h0;exact absurd h0 (by decide)
 | some x=>exact hp x hs
end
theorem Z87 {n:Zx} {us:List Int} {s:Z4} (h:0<=ZV n us s):(0<=s.op/\s.op<=11)∨(14<=s.op/\s.op<=17):=by
 rw [B8] at h
 by_cases hq:(0<=s.op/\s.op<=11)∨(14<=s.op/\s.op<=17)
 ·exact hq
 ·exfalso
  split at h
  ·omega
  rw [Zc om,Zc om,Zc om,Zc om,Zc om,Zc om,Zc om,Zc om,Zc om] at h
  omega
theorem Fz {n:Zx} {us:List Int} {s:Z4} (h:0<=ZV n us s):Xe s.op=!Yf s.op:=by
 have:=Z87 h
 rw [Xe,Yf,Xl];simp;omega
theorem Z8a {n:Zx} {xs:List Z4} {vs:List Int} {k:Nat} {s:Z4} {t:Int} {r:Option (List Int)} (hs:xs[k]? = some s) (h:0<=ZV n vs s) (ht:¬Yf s.op=true->0<=ZV n vs s->t=ZV n vs s)
  (hr:V9 n (xs.drop k) vs=r):V9 n (xs.drop (k+1)) (if Yf s.op=true then vs else vs++[t])=r:=by
 rw [Y8 hs,V9,Zc om] at hr
 rw [<-hr,Fz h]
 by_cases hc:Yf s.op=true
 ·rw [Zo hc,hc];rfl
 ·rw [Zc hc,Zo (by simpa using hc),ht hc h]
theorem Z8b {n:Zx} {xs:List Z4} {vs:List Int} {k:Nat} {s:Z4} {r:Option (List Int)} (hs:xs[k]? = some s) (h:¬0<=ZV n vs s) (hr:V9 n (xs.drop k) vs=r):r=none:=by
 rw [Y8 hs,V9,Zo om] at hr;exact hr.symm
theorem Z3h {c:Prop} [Decidable c] {vs:List Int} {t:Int} (h:∀x∈vs,0<=x) (ht:¬c->0<=t):∀x∈(if c then vs else vs++[t]),0<=x:=by
 split
 ·exact h
 ·rename_i hc
  exact Ma h (fun x hx=>by rw [W3.1 hx];exact ht hc)
theorem HO {m:Nat} {xs:List Int} (h:XJ m xs=true):∀x∈xs,0<=x/\x<=m:=by
 rw [XJ,Kq] at h
 exact fun x hx=>of_decide_eq_true (h x hx)
theorem Z3i {n:Zx} (h:VL n=true):Bg n:=by
 simp only [VL,Qb,XL,decide_eq_true_eq] at h
 obtain ⟨h1,⟨h2,h3,h4,h5⟩,h6⟩:=h
 have hs:∀r∈n.routines,XJ n.decls.length r.params=true/\0<=r.result:=fun r hr=>by
  have:=Ha h4 (VA r) (W6.2 ⟨r,hr,rfl⟩)
  simp only [QU,XL,decide_eq_true_eq] at this
  exact ⟨this.2.1,this.2.2.1⟩
 simp only [Wh,XL,decide_eq_true_eq] at h2
 obtain ⟨h2a,h2b⟩:=h2
 rw [Fx] at h2b
 have key:∀(i:Nat) (d:Zf),n.decls[i]? = some d->U3 n.decls d i=true:=fun i d hi=>by
  have:=h2b i (XM.1 hi).1
  rwa [WQ,Cd hi] at this
 refine ⟨fun r hr=>(hs r hr).2,fun r hr p hp=>(HO (hs r hr).1 p hp).1,fun d hd h0=>?_,fun c f hf=>?_⟩
 ·obtain ⟨i,hi⟩:=List.mem_iff_getElem?.1 hd
  have:=key i d hi
  rw [U3,Zc om] at this
  split at this
  ·cases this
  ·simp only [XL,decide_eq_true_eq] at this;omega
 ·by_cases hc:Xt n.decls c<1
  ·rw [(Dp hc).1] at hf;cases hf
  ·obtain ⟨k,d,x,q1,q2,q3,q4,q5⟩:=Fp hc
   rw [q5] at hf
   have:=key k d q1
   have hp:0<d.cons.length:=by have:=(XM.1 q3).1;omega
   rw [U3,Zo hp] at this
   split at this
   ·have:=Im.1 this x (Y7 q3)
    simp only [K8,XL] at this
    exact (HO this.2 f hf).1
   ·cases this
structure Ox (n:Zx):Prop where
 result:∀r∈n.routines,r.result<=(n.decls.length:Int)
 decl:∀d∈n.decls,d.cons.length=0->d.to_<=(n.decls.length:Int)
 fields:∀c,∀f∈ZC n.decls c,f<=(n.decls.length:Int)
section
variable {n:Zx} (hu:Ox n)
include hu
end
end Go.Abs
section
namespace Go.Abs
structure Bf where
 mat:Int
 fst:Int
 fds:List Int
 chg:Bool
def Mj:List Bf->Int->Option Bf
 | [],_=>none
 | a::r,v=>match Mj r v with
  | some x=>some x
  | none=>if a.mat=v then some a else none
structure Z9b (ds:List Zf) (L:ZJ) (as1:List Bf):Prop where
 rng:∀a∈as1,0<=a.mat/\a.mat<a.fst/\a.fst+a.fds.length<=L.vars.length
 par:∀a∈as1,∀v:Int,a.fst<=v->v<a.fst+a.fds.length->gI L.par v=a.mat
 non:∀v:Int,0<=v->v<L.vars.length->0<=gI L.par v->∃a∈as1,a.fst<=v/\v<a.fst+a.fds.length
 off:∀v:Int,0<=v->v<L.vars.length->match Mj as1 v with
  | none=>gI L.con v<0
  | some a=>0<=gI L.con v/\a.fst=gI L.fst v/\a.fds=ZC ds (gI L.con v)
end Go.Abs
namespace Go.Abs
end Go.Abs
namespace Go.Abs
end Go.Abs
namespace Go.Abs
section
variable {n:Zx} {ln:List Int} {L:ZJ} {op v:Int} {am:List Bf} {a:Bf}
end
end Go.Abs
namespace Go.Abs
end Go.Abs
end
section
namespace Go.Abs
section
variable {n:Zx} {us:List Int} {op num:Int}
end
end Go.Abs
namespace Go.Abs
end Go.Abs
namespace Go.Abs
end Go.Abs
end
section
namespace Go.Abs
section
variable {n:Zx} {ln:List Int}
end
end Go.Abs
namespace Go.Abs
end Go.Abs
namespace Go.Abs
end Go.Abs
namespace Go.Abs
section
variable {n:Zx} {ln:List Int} {L:ZJ} {s:Z4}
end
end Go.Abs
namespace Go.Abs
end Go.Abs
namespace Go.Abs
end Go.Abs
namespace Go.Abs
end Go.Abs
end
namespace Go.Abs

end Go.Abs
section
namespace Go.Abs
end Go.Abs
namespace Go.Abs
end Go.Abs
namespace Go.Abs
end Go.Abs
end
section
namespace Go.Abs
end Go.Abs
namespace Go.Abs
end Go.Abs
namespace Go.Abs
end Go.Abs
namespace Go.Abs
end Go.Abs
end
namespace Go.Abs
def Zj (op v:Int):Z4:=.mk op 0 0 [v] []
def Uf (ds:List Zf) (num:Int) (k:Nat):List Int:=((Zw ds num).map (ZC ds))[k]?.getD []
section
variable {ds:List Zf} {am:List Bf} {m:Nat}
end
theorem IL {ds:List Zf} {num:Int} {k:Nat} {m:List Int} (h:((Zw ds num).map (ZC ds))[k]? = some m):Uf ds num k=m:=by rw [Uf,h];rfl
theorem RQ {ds:List Zf} (hd:Wn ds) (num:Int) (k:Nat):(Uf ds num k).length<=3:=by
 rw [Uf,Kr]
 cases (Zw ds num)[k]? with
 | none=>simp
 | some c=>exact VK hd c
theorem EH {xs:List Z4} {k:Nat} {s:Z4} (h:xs[k]? = some s):Yp (xs.take (k+1))=Yp (xs.take k)+s.sz:=by
 induction xs generalizing k with
 | nil=>simp at h
 | cons t r ih=>
  cases k with
  | zero=>simp at h;subst h;simp [Yp]
  | succ k=>rw [Bd,Bd,Yp,Yp,ih (by simpa using h)];omega
theorem Qa (xs:List Z4) (k:Nat):Yp (xs.take k)<=Yp xs:=by
 induction xs generalizing k with
 | nil=>simp
 | cons t r ih=>
  cases k with
  | zero=>simp [Yp]
  | succ k=>have:=ih k;rw [Bd,Yp,Yp];omega
theorem Z60 {n:Zx} {us:List Int} {s:Z4} (g:0<=ZV n us s) (h:Yf s.op=true):Q8 n us s=us:=by rw [Q8,Fz g,h];rfl
theorem Z5z {n:Zx} {us:List Int} {s:Z4} (g:0<=ZV n us s) (h:¬Yf s.op=true):(Q8 n us s).length=us.length+1:=by
 rw [Q8,Fz g,Ty.2 h];simp
theorem Z61 {n:Zx} {us:List Int} {s:Z4} (g:0<=ZV n us s):(Q8 n us s).length=if Yf s.op=true then us.length else us.length+1:=by
 split
 ·rw [Z60 g (by assumption)]
 ·exact Z5z g (by assumption)

theorem US:∀(xs ys:List Z4),Yp (xs++ys)=Yp xs+Yp ys
 | [],ys=>by simp [Yp]
 | x::r,ys=>by rw [Qw,Yp,Yp,US r ys];omega
theorem Do (op v:Int):(Zj op v).sz=2:=by rw [Zj,Z4.sz];simp [YR]
theorem Hm (op:Int):∀l:List Int,Yp (l.map (Zj op))=2*l.length
 | []=>by simp [Yp]
 | x::r=>by rw [Un,Yp,Do,Hm op r,YS];omega
section
variable {ds:List Zf} (hd:Wn ds)
include hd
end
section
variable {ds:List Zf} {cons first:List Int}
end
section
variable {ds:List Zf} (hd:Wn ds)
include hd
end
def YX:List Z4->Nat
 | []=>0
 | s::r=>if s.op=14∨s.op=15 then YX r+1 else 0
def XN (op:Int):List Z4->List Int
 | []=>[]
 | s::r=>if s.op=op then gI s.args 0::XN op r else XN op r
def Uk:List Int->Int->List Int->List Int->List Int × List Int
 | [],_,D,R=>(D,R)
 | f::r,q,D,R=>if f≠0/\q∈D then Uk r (q+1) (D.erase q) R else if f≠0 then Uk r (q+1) D (R++[q]) else Uk r (q+1) D R
def Jt (xs:List Z4) (x:Int) (fs:List Int) (q:Int):List Int × List Int:=Uk fs q (XN 14 (xs.take (YX xs))) ((XN 15 (xs.take (YX xs))).erase x)
def JM (xs:List Z4) (x:Int) (fs:List Int) (q:Int):List Z4:=
 if x∈XN 15 (xs.take (YX xs))/\fs.length≠0 then (Jt xs x fs q).1.map (Zj 14)++[Zj 16 x]++(Jt xs x fs q).2.map (Zj 15)++xs.drop (YX xs) else xs
def K6 (b:Z6) (x:Int) (fs:List Int) (q:Int):Z6:=.mk (JM b.steps x fs q) b.result
theorem Ep:∀xs:List Z4,YX xs<=xs.length
 | []=>X6 _
 | s::r=>by have:=Ep r;rw [YX];split<;>simp<;>omega
theorem Na:∀{xs:List Z4} {s:Z4},s∈xs.take (YX xs)->s.op=14∨s.op=15
 | [],s,h=>by simp [YX] at h
 | t::r,s,h=>by
  rw [YX] at h
  split at h
  ·rename_i q
   rw [Bd] at h
   rcases YQ.1 h with rfl|h
   ·exact q
   ·exact Na h
  ·simp at h
theorem Fh:∀xs:List Z4,(XN 14 xs).length+(XN 15 xs).length<=xs.length
 | []=>by simp [XN]
 | s::r=>by
  have:=Fh r
  rw [XN,XN]
  by_cases h:s.op=14
  ·rw [Zo h,Zc om];simp;omega
  ·rw [Zc h];split<;>simp<;>omega
theorem Eh:∀(fs:List Int) (q:Int) (D R:List Int),(Uk fs q D R).1.length+(Uk fs q D R).2.length<=D.length+R.length+fs.length
 | [],q,D,R=>by simp [Uk]
 | f::r,q,D,R=>by
  rw [Uk,YS]
  split
  ·have:=Eh r (q+1) (D.erase q) R
   have h2:=List.length_erase_le (a:=q) (l:=D)
   omega
  ·split
   ·have:=Eh r (q+1) D (R++[q])
    simp only [Yz,YS,Xm] at this
    omega
   ·have:=Eh r (q+1) D R
    omega
theorem Z45 {xs:List Z4} {x:Int} {fs:List Int} {q:Int} (h:x∈XN 15 (xs.take (YX xs))) (hf:fs.length<=3):(Jt xs x fs q).1.length+(Jt xs x fs q).2.length<=YX xs+2:=by
 have h1:=Eh fs q (XN 14 (xs.take (YX xs))) ((XN 15 (xs.take (YX xs))).erase x)
 have h2:=Fh (xs.take (YX xs))
 have h3:=List.length_pos_of_mem h
 rw [List.length_erase_of_mem h] at h1
 rw [Ww] at h2
 have h4:=Ep xs
 unfold Jt
 omega
theorem Z7l (xs:List Z4) (k:Nat):Yp xs=Yp (xs.take k)+Yp (xs.drop k):=by rw [<-US,UF]
theorem NT:∀xs:List Z4,(∀s∈xs,2<=s.sz)->2*xs.length<=Yp xs
 | [],_=>by simp
 | s::r,h=>by
  have h1:=NT r fun t ht=>h t (XG _ ht)
  have h2:=h s (Xh ..)
  rw [Yp,YS];omega
theorem OO {xs:List Z4} {x:Int} {fs:List Int} {q:Int} (hf:fs.length<=3) (h:∀s∈xs,s.op=14∨s.op=15->2<=s.sz):Yp (JM xs x fs q)<=Yp xs+6:=by
 rw [JM]
 split
 ·rename_i hc
  have h1:=Z45 (q:=q) hc.1 hf
  have h2:=NT (xs.take (YX xs)) fun s hs=>h s (TR hs) (Na hs)
  have h3:=Z7l xs (YX xs)
  have h4:=Ep xs
  rw [Ww] at h2
  rw [US,US,US,Hm,Hm,Yp,Yp,Do]
  omega
 ·omega
def Cn (s:Z4):Prop:=s=Zj s.op (gI s.args 0)
theorem ON {xs:List Z4} {m:Int} {fs:List Int} {q:Int} (h:¬(m∈XN 15 (xs.take (YX xs))/\fs.length≠0)):JM xs m fs q=xs:=Zc h
end Go.Abs
section
namespace Go.Abs
mutual
def B6 (ds:List Zf) (m:Nat):Z4->Z4
 | .mk op num into args kids=>.mk op num into args (Th ds m op num args kids 0)
def Th (ds:List Zf) (m:Nat) (op num:Int) (args:List Int):List Z6->Nat->List Z6
 | [],_=>[]
 | b::r,k=>(if op=8 then K6 (WE ds (m+(Uf ds num k).length) b) (gI args 0) (Uf ds num k) m else WE ds m b)::Th ds m op num args r (k+1)
def UB (ds:List Zf) (m:Nat):List Z4->List Z4
 | []=>[]
 | s::r=>B6 ds m s::UB ds (if Yf s.op=true then m else m+1) r
def WE (ds:List Zf) (m:Nat):Z6->Z6
 | .mk steps result=>.mk (UB ds m steps) result
end
def EC (ds:List Zf) (m:Nat) (op num:Int) (args:List Int) (k:Nat) (b:Z6):Z6:=if op=8 then K6 (WE ds (m+(Uf ds num k).length) b) (gI args 0) (Uf ds num k) m else WE ds m b
theorem He (ds:List Zf) (m:Nat) (s:Z4):B6 ds m s=.mk s.op s.num s.into s.args (Th ds m s.op s.num s.args s.kids 0):=by cases s;rw [B6];rfl
theorem EA (ds:List Zf) (m:Nat) (b:Z6):WE ds m b=.mk (UB ds m b.steps) b.result:=by cases b;rw [WE];rfl
section
variable {ds:List Zf} {m:Nat}
theorem Z6g {xs acc r:List Z4} {k:Nat} {s:Z4} (h:xs[k]? = some s) (ha:acc++UB ds m (xs.drop k)=r) :
  (acc++[.mk s.op s.num s.into s.args (Th ds m s.op s.num s.args s.kids 0)])++UB ds (if Yf s.op=true then m else m+1) (xs.drop (k+1))=r:=by
 rw [Y8 h,UB,He] at ha
 rw [<-ha];simp
theorem Z6f {xs acc r:List Z4} {k:Nat} (h:xs.length<=k) (ha:acc++UB ds m (xs.drop k)=r):acc=r:=by
 rw [Xb h,UB,As] at ha;exact ha
theorem Nu {op num:Int} {args:List Int} {bs acc r:List Z6} {k:Nat} {b:Z6} (h:bs[k]? = some b) (ha:acc++Th ds m op num args (bs.drop k) k=r) :
  (acc++[EC ds m op num args k b])++Th ds m op num args (bs.drop (k+1)) (k+1)=r:=by
 rw [Y8 h,Th] at ha
 rw [<-ha,EC];simp
theorem Z6c {op num:Int} {args:List Int} {bs acc r:List Z6} {k j:Nat} (h:bs.length<=k) (ha:acc++Th ds m op num args (bs.drop k) j=r):acc=r:=by
 rw [Xb h,Th,As] at ha;exact ha
end
mutual
def wS (ds:List Zf):Z4->Prop
 | .mk op num into args kids=>(Xe op=!Yf op)/\(Yf op=true->num=0/\into=0/\kids=[]/\∃a,args=[a])/\(op=8->(∃a,args=[a]/\0<=a/\a<=900000000)/\kids.length=(Zw ds num).length)/\Jx ds kids
def Jx (ds:List Zf):List Z6->Prop
 | []=>True
 | b::r=>wB ds b/\Jx ds r
def Qc (ds:List Zf):List Z4->Prop
 | []=>True
 | s::r=>wS ds s/\Qc ds r
def wB (ds:List Zf):Z6->Prop
 | .mk steps _=>Qc ds steps
end
section
variable {ds:List Zf}
theorem Ko (s:Z4):wS ds s↔(Xe s.op=!Yf s.op)/\(Yf s.op=true->s.num=0/\s.into=0/\s.kids=[]/\∃a,s.args=[a])/\(s.op=8->(∃a,s.args=[a]/\0<=a/\a<=900000000)/\s.kids.length=(Zw ds s.num).length)/\Jx ds s.kids:=by cases s;rw [wS];rfl
theorem K4 (b:Z6):wB ds b↔Qc ds b.steps:=by cases b;rw [wB];rfl
theorem Jy:∀{xs:List Z4},Qc ds xs↔∀s∈xs,wS ds s
 | []=>by simp [Qc]
 | s::r=>by rw [Qc,Jy];simp
theorem EN:∀{xs:List Z6},Jx ds xs↔∀s∈xs,wB ds s
 | []=>by simp [Jx]
 | s::r=>by rw [Jx,EN];simp
theorem Oj {b:Z6} {k:Nat} {s:Z4} (h:wB ds b) (hs:b.steps[k]? = some s):wS ds s:=Jy.1 ((K4 b).1 h) s (Y7 hs)
theorem HC {s:Z4} {k:Nat} {b:Z6} (h:wS ds s) (hb:s.kids[k]? = some b):wB ds b:=EN.1 ((Ko s).1 h).2.2.2 b (Y7 hb)
theorem EO {s:Z4} (h:wS ds s) (hc:Yf s.op=true):Cn s/\s.kids=[]/\∃a,s.args=[a]:=by
 obtain ⟨h1,h2,h3,a,h4⟩:=((Ko s).1 h).2.1 hc
 refine ⟨?_,h3,a,h4⟩
 cases s with
 | mk op num into args kids=>
  simp only [Z4.num,Z4.into,Z4.kids,Z4.args] at h1 h2 h3 h4
  subst h1 h2 h3 h4
  rfl
theorem Z94 {op v:Int} (h:op=14∨op=15∨op=16):wS ds (Zj op v):=(Ko _).2 ⟨by show Xe op=!Yf op;rcases h with rfl|rfl|rfl<;>rfl,fun _=>⟨rfl,rfl,rfl,v,rfl⟩,fun e=>absurd e (show op≠8 by omega),True.intro⟩
theorem Z95 {s:Z4} (h:wS ds s):Xe s.op=!Yf s.op:=((Ko s).1 h).1
theorem D4 {s:Z4} (h:wS ds s) (h8:s.op=8):(∃a,s.args=[a]/\0<=a/\a<=900000000)/\s.kids.length=(Zw ds s.num).length:=((Ko s).1 h).2.2.1 h8
theorem EZ {xs:List Z4} (h:Qc ds xs):∀s∈xs,Yf s.op=true->Cn s:=fun s hs hc=>(EO (Jy.1 h s hs) hc).1
end
section
variable {n:Zx}
end
mutual
def Z4.pz:Z4->Nat
 | .mk _ _ _ args kids=>1+args.length+BQ kids
def Z6.pz:Z6->Nat
 | .mk steps _=>1+BR steps
def BR:List Z4->Nat
 | []=>0
 | s::r=>s.pz+BR r
def BQ:List Z6->Nat
 | []=>0
 | b::r=>b.pz+8+BQ r
end
mutual
theorem Z4.pz_le:∀s:Z4,s.pz<=9*s.sz
 | .mk _ _ _ args kids=>by have:=MR kids;rw [Z4.pz,Z4.sz];omega
theorem Z6.pz_le:∀b:Z6,b.pz+8<=9*b.sz
 | .mk steps _=>by have:=MS steps;rw [Z6.pz,Z6.sz];omega
theorem MS:∀xs:List Z4,BR xs<=9*Yp xs
 | []=>K5 _
 | s::r=>by have:=s.pz_le;have:=MS r;rw [BR,Yp];omega
theorem MR:∀xs:List Z6,BQ xs<=9*YR xs
 | []=>K5 _
 | s::r=>by have:=s.pz_le;have:=MR r;rw [BQ,YR];omega
end
section
variable {ds:List Zf}
theorem Py {op:Int} (h:op=14∨op=15):Yf op=true:=by rw [Yf];simp;omega
theorem Z6h {xs:List Z4}:∀{m:Nat},Qc ds xs->∀s∈UB ds m xs,s.op=14∨s.op=15->2<=s.sz:=by
 induction xs with
 | nil=>intro m _ s hs;simp [UB] at hs
 | cons t r ih=>
  intro m h s hs ho
  rw [UB] at hs
  rcases YQ.1 hs with rfl|hs
  ·rw [He] at ho ⊢
   obtain ⟨_,_,a,ha⟩:=EO h.1 (Py ho)
   rw [Z4.sz,ha];simp
  ·exact ih h.2 s hs ho
variable (hd:Wn ds)
include hd
mutual
theorem Z6d:∀(s:Z4) {m:Nat},wS ds s->(B6 ds m s).sz<=s.pz
 | .mk op num into args kids,m,h=>by
  have:=Nw kids (m:=m) (op:=op) (num:=num) (args:=args) (k:=0) h.2.2.2
  rw [B6,Z4.sz,Z4.pz];omega
theorem Nw:∀(bs:List Z6) {m:Nat} {op num:Int} {args:List Int} {k:Nat},Jx ds bs->YR (Th ds m op num args bs k)<=BQ bs
 | [],_,_,_,_,_,_=>X6 _
 | b::r,m,op,num,args,k,h=>by
  have h2:=Nw r (m:=m) (op:=op) (num:=num) (args:=args) (k:=k+1) h.2
  rw [Th,YR,BQ]
  split
  ·have h1:=EB b (m:=m+(Uf ds num k).length) h.1
   have h3:=OO (xs:=(WE ds (m+(Uf ds num k).length) b).steps) (x:=gI args 0) (q:=(m:Int)) (RQ hd num k) (by rw [EA];exact Z6h ((K4 b).1 h.1))
   rw [K6,Z6.sz]
   rw [Z6.sz_eq] at h1
   omega
  ·have h1:=EB b (m:=m) h.1
   omega
theorem Nx:∀(xs:List Z4) {m:Nat},Qc ds xs->Yp (UB ds m xs)<=BR xs
 | [],_,_=>X6 _
 | s::r,m,h=>by
  have h1:=Z6d s (m:=m) h.1
  have h2:=Nx r (m:=if Yf s.op=true then m else m+1) h.2
  rw [UB,Yp,BR];omega
theorem EB:∀(b:Z6) {m:Nat},wB ds b->(WE ds m b).sz<=b.pz
 | .mk steps result,m,h=>by
  have:=Nx steps (m:=m) h
  rw [WE,Z6.sz,Z6.pz];omega
end
end
section
variable {ds:List Zf} {m:Nat}
end
def KR (ds:List Zf) (r:Yb):Yb:=⟨r.params,r.lent,r.result,WE ds r.params.length r.body⟩
def ED (n:Zx):Zx:=⟨n.decls,n.routines.map (KR n.decls)⟩
end Go.Abs
namespace Go.Abs
theorem Z5k {xs:List Z4} {k:Nat} {s:Z4} {r:Nat} (h:xs[k]? = some s) (hs:s.op=14∨s.op=15) (ha:k+YX (xs.drop k)=r):k+1+YX (xs.drop (k+1))=r:=by
 rw [Y8 h,YX,Zo hs] at ha;omega
theorem Z5l {xs:List Z4} {k:Nat} {s:Z4} {r:Nat} (h:xs[k]? = some s) (hs:¬(s.op=14∨s.op=15)) (ha:k+YX (xs.drop k)=r):k=r:=by
 rw [Y8 h,YX,Zc hs] at ha;omega
theorem Z5j {xs:List Z4} {k:Nat} {r:Nat} (h:xs.length<=k) (ha:k+YX (xs.drop k)=r):k=r:=by
 rw [Xb h,YX] at ha;omega
theorem OZ {op:Int} {xs:List Z4} {acc r:List Int} {k:Nat} {s:Z4} (h:xs[k]? = some s) (hs:s.op=op) (ha:acc++XN op (xs.drop k)=r):(acc++[gI s.args 0])++XN op (xs.drop (k+1))=r:=by
 rw [Y8 h,XN,Zo hs] at ha;rw [<-ha];simp
theorem OY {op:Int} {xs:List Z4} {acc r:List Int} {k:Nat} {s:Z4} (h:xs[k]? = some s) (hs:¬s.op=op) (ha:acc++XN op (xs.drop k)=r):acc++XN op (xs.drop (k+1))=r:=by
 rw [Y8 h,XN,Zc hs] at ha;exact ha
theorem OX {op:Int} {xs:List Z4} {acc r:List Int} {k:Nat} (h:xs.length<=k) (ha:acc++XN op (xs.drop k)=r):acc=r:=by
 rw [Xb h,XN,As] at ha;exact ha
theorem RL {xs acc r:List Int} {y:Int} {k:Nat} {x:Int} {d:Bool} (h:xs[k]? = some x) (ha:acc++(if d=true then xs.drop k else (xs.drop k).erase y)=r) :
  (if x=y/\¬d=true then acc else acc++[x])++(if ((x==y&&!d)||d)=true then xs.drop (k+1) else (xs.drop (k+1)).erase y)=r:=by
 rw [Y8 h] at ha
 rw [<-ha]
 by_cases hd:d=true
 ·simp [hd]
 ·by_cases hx:x=y
  ·simp [hd,hx]
  ·rw [Zc (fun z=>hx z.1),Zc hd,List.erase_cons_tail (by simpa using hx)]
   simp [hd,hx]
theorem RK {xs acc r:List Int} {y:Int} {k:Nat} {d:Bool} (h:xs.length<=k) (ha:acc++(if d=true then xs.drop k else (xs.drop k).erase y)=r):acc=r:=by
 rw [Xb h] at ha;simpa using ha
section
variable {fs D R:List Int} {q k:Nat} {f:Int} {r:List Int × List Int}
theorem Z47 (h:fs[k]? = some f) (h0:f≠0) (hm:((q+k:Nat):Int)∈D) (ha:Uk (fs.drop k) (q+k) D R=r):Uk (fs.drop (k+1)) (q+((k+1:Nat):Int)) (D.erase ((q+k:Nat):Int)) R=r:=by
 rw [Y8 h,Uk,Zo ⟨h0,by rw [<-Int.natCast_add];exact hm⟩,<-Int.natCast_add] at ha
 rw [<-ha];congr 1
theorem Z48 (h:fs[k]? = some f) (h0:f≠0) (hm:¬((q+k:Nat):Int)∈D) (ha:Uk (fs.drop k) (q+k) D R=r):Uk (fs.drop (k+1)) (q+((k+1:Nat):Int)) D (R++[((q+k:Nat):Int)])=r:=by
 rw [Y8 h,Uk,Zc (fun z=>hm (by rw [Int.natCast_add];exact z.2)),Zo h0,<-Int.natCast_add] at ha
 rw [<-ha];congr 1
theorem Z49 (h:fs[k]? = some f) (h0:¬f≠0) (ha:Uk (fs.drop k) (q+k) D R=r):Uk (fs.drop (k+1)) (q+((k+1:Nat):Int)) D R=r:=by
 rw [Y8 h,Uk,Zc (fun z=>h0 z.1),Zc h0] at ha
 rw [<-ha];congr 1
theorem Z46 (h:fs.length<=k) (ha:Uk (fs.drop k) (q+k) D R=r):r=(D,R):=by
 rw [Xb h,Uk] at ha;exact ha.symm
end
theorem OP {xs:List Z4} {x:Int} {fs:List Int} {q:Int} {D R:List Int} (h1:x∈XN 15 (xs.take (YX xs))) (h2:fs.length≠0) (hr:Jt xs x fs q=(D,R)):D.map (Zj 14)++[Zj 16 x]++R.map (Zj 15)++xs.drop (YX xs)=JM xs x fs q:=by
 rw [JM,Zo ⟨h1,h2⟩,hr]
theorem Z6e {ds:List Zf} {xs:List Z4}:∀{m:Nat},Qc ds xs->∀s∈UB ds m xs,Yf s.op=true->∃a,s.args=[a]:=by
 induction xs with
 | nil=>intro m _ s hs;simp [UB] at hs
 | cons t r ih=>
  intro m h s hs ho
  rw [UB] at hs
  rcases YQ.1 hs with rfl|hs
  ·rw [He] at ho ⊢
   exact (EO h.1 ho).2.2
  ·exact ih h.2 s hs ho
end Go.Abs
end
namespace Go.Abs
theorem HI {s:Z4} (h:Cn s):∃a,s.args=[a]:=⟨gI s.args 0,by have:=Yx Z4.args h;exact this⟩
section
variable {xs:List Int} {v:Int} {lo hi:Nat}
end
section
variable {m:Int} {xs du dr:List Z4} {lf:List Int} {d:Bool} {k:Nat} {s:Z4} {W:List Z4 × List Z4 × List Int}
end
def Yt:List Z4->Nat
 | []=>0
 | s::r=>if Yf s.op=true then Yt r+1 else 0
def Xz (op x:Int):List Z4->Int->Int
 | [],_=>-1
 | s::r,k=>if s.op=op/\gI s.args 0=x then k else Xz op x r (k+1)
def Qk (many:Nat) (s:Z4):Prop:=(s.op=6/\s.into=0)/\s.args.length=many
instance (many:Nat) (s:Z4):Decidable (Qk many s):=by unfold Qk;infer_instance
def XO (many:Nat):List Z4->Int->Int
 | [],_=>-1
 | s::r,k=>if Qk many s then k else XO many r (k+1)
def A0 (xs:List Z4) (i:Int):Z4:=xs[i.toNat]?.getD (Zj 0 0)
def TI (v:Int) (s:Z4):Z4:=.mk s.op s.num v s.args s.kids
def V6 (xs:List Z4) (x:Int):Int:=Xz 16 x (xs.take (Yt xs)) 0
def Wo (xs:List Z4) (many:Nat):Int:=XO many (xs.drop (Yt xs)) (Yt xs)
def VY (xs:List Z4) (x:Int) (many:Nat):List Z4:=
 if V6 xs x<0∨Wo xs many<0 then xs else (xs.set (V6 xs x).toNat (Zj 17 x)).set (Wo xs many).toNat (TI (1+x) (A0 xs (Wo xs many)))
def V8 (b:Z6) (x:Int) (many:Nat):Z6:=.mk (VY b.steps x many) b.result
mutual
def Q7 (ds:List Zf) (kept:List Int):Z4->Z4
 | .mk op num into args kids=>.mk op num into args (Ul ds kept op num args kids 0)
def Ul (ds:List Zf) (kept:List Int) (op num:Int) (args:List Int):List Z6->Nat->List Z6
 | [],_=>[]
 | b::r,k=>(if op=8/\¬gI args 0∈kept then V8 (Wq ds (if V6 b.steps (gI args 0)<0∨Wo b.steps (Uf ds num k).length<0 then kept else gI args 0::kept) b) (gI args 0) (Uf ds num k).length else Wq ds kept b)::Ul ds kept op num args r (k+1)
def Um (ds:List Zf) (kept:List Int):List Z4->List Z4
 | []=>[]
 | s::r=>Q7 ds kept s::Um ds kept r
def Wq (ds:List Zf) (kept:List Int):Z6->Z6
 | .mk steps result=>.mk (Um ds kept steps) result
end
def E2 (ds:List Zf) (kept:List Int) (num:Int) (args:List Int) (k:Nat) (b:Z6):List Int:=if V6 b.steps (gI args 0)<0∨Wo b.steps (Uf ds num k).length<0 then kept else gI args 0::kept
def T3 (ds:List Zf) (kept:List Int) (op num:Int) (args:List Int) (k:Nat) (b:Z6):Z6:=if op=8/\¬gI args 0∈kept then V8 (Wq ds (E2 ds kept num args k b) b) (gI args 0) (Uf ds num k).length else Wq ds kept b
theorem Af (ds:List Zf) (kept:List Int) (s:Z4):Q7 ds kept s=.mk s.op s.num s.into s.args (Ul ds kept s.op s.num s.args s.kids 0):=by cases s;rw [Q7];rfl
theorem Em (ds:List Zf) (kept:List Int) (b:Z6):Wq ds kept b=.mk (Um ds kept b.steps) b.result:=by cases b;rw [Wq];rfl
theorem Eo (ds:List Zf) (kept:List Int):∀xs:List Z4,Um ds kept xs=xs.map (Q7 ds kept)
 | []=>rfl
 | s::r=>by rw [Um,Eo ds kept r];rfl
section
variable {ds:List Zf} {kept:List Int}
theorem Z5i {xs acc r:List Z4} {k:Nat} {s:Z4} (h:xs[k]? = some s) (ha:acc++Um ds kept (xs.drop k)=r) :
  (acc++[.mk s.op s.num s.into s.args (Ul ds kept s.op s.num s.args s.kids 0)])++Um ds kept (xs.drop (k+1))=r:=by
 rw [Y8 h,Um,Af] at ha
 rw [<-ha];simp
theorem Z5h {xs acc r:List Z4} {k:Nat} (h:xs.length<=k) (ha:acc++Um ds kept (xs.drop k)=r):acc=r:=by
 rw [Xb h,Um,As] at ha;exact ha
theorem Z5c {op num:Int} {args:List Int} {bs acc r:List Z6} {k:Nat} {b:Z6} (h:bs[k]? = some b) (ha:acc++Ul ds kept op num args (bs.drop k) k=r) :
  (acc++[T3 ds kept op num args k b])++Ul ds kept op num args (bs.drop (k+1)) (k+1)=r:=by
 rw [Y8 h,Ul] at ha
 rw [<-ha,T3,E2];simp
theorem Z5b {op num:Int} {args:List Int} {bs acc r:List Z6} {k j:Nat} (h:bs.length<=k) (ha:acc++Ul ds kept op num args (bs.drop k) j=r):acc=r:=by
 rw [Xb h,Ul,As] at ha;exact ha
end
section
variable {ds:List Zf}
mutual
theorem Z5f:∀(s:Z4) {K K':List Int},(∀z,z∈K↔z∈K')->Q7 ds K s=Q7 ds K' s
 | .mk op num into args kids,K,K',h=>by rw [Q7,Q7,N6 kids h]
theorem N6:∀(bs:List Z6) {K K':List Int} {op num:Int} {args:List Int} {k:Nat},(∀z,z∈K↔z∈K')->Ul ds K op num args bs k=Ul ds K' op num args bs k
 | [],_,_,_,_,_,_,_=>by rw [Ul,Ul]
 | b::r,K,K',op,num,args,k,h=>by
  have h1:=N6 r (op:=op) (num:=num) (args:=args) (k:=k+1) h
  have h2:=H1 b h
  have h3:∀z,z∈(gI args 0::K)↔z∈(gI args 0::K'):=fun z=>by rw [YQ,YQ,h z]
  have h4:=H1 b h3
  rw [Ul,Ul,h1,h2]
  congr 1
  by_cases hq:op=8/\¬gI args 0∈K
  ·have hq':op=8/\¬gI args 0∈K':=⟨hq.1,fun z=>hq.2 ((h _).2 z)⟩
   rw [Zo hq,Zo hq']
   congr 1
   split
   ·exact h2
   ·exact h4
  ·have hq':¬(op=8/\¬gI args 0∈K'):=fun z=>hq ⟨z.1,fun y=>z.2 ((h _).1 y)⟩
   rw [Zc hq,Zc hq']
theorem N8:∀(xs:List Z4) {K K':List Int},(∀z,z∈K↔z∈K')->Um ds K xs=Um ds K' xs
 | [],_,_,_=>by rw [Um,Um]
 | s::r,K,K',h=>by rw [Um,Um,Z5f s h,N8 r h]
theorem H1:∀(b:Z6) {K K':List Int},(∀z,z∈K↔z∈K')->Wq ds K b=Wq ds K' b
 | .mk steps result,K,K',h=>by rw [Wq,Wq,N8 steps h]
end
end
theorem CF:∀xs:List Z4,Yt xs<=xs.length
 | []=>X6 _
 | s::r=>by have:=CF r;rw [Yt];split<;>simp<;>omega
section
variable {f:Z4->Z4} (hop:∀s,(f s).op=s.op) (hin:∀s,(f s).into=s.into) (har:∀s,(f s).args=s.args)
include hop
theorem GC:∀xs:List Z4,Yt (xs.map f)=Yt xs
 | []=>rfl
 | s::r=>by rw [Un,Yt,Yt,hop,GC r]
include har
theorem HW {op x:Int}:∀(xs:List Z4) (k:Int),Xz op x (xs.map f) k=Xz op x xs k
 | [],_=>rfl
 | s::r,k=>by rw [Un,Xz,Xz,hop,har,HW r]
theorem Z44 (xs:List Z4) (x:Int):V6 (xs.map f) x=V6 xs x:=by rw [V6,GC hop,<-List.map_take,HW hop har,V6]
include hin
theorem Ik {many:Nat}:∀(xs:List Z4) (k:Int),XO many (xs.map f) k=XO many xs k
 | [],_=>rfl
 | s::r,k=>by
  have e:Qk many (f s)↔Qk many s:=by rw [Qk,Qk,hop,hin,har]
  rw [Un,XO,XO,Ik r]
  by_cases h:Qk many s
  ·rw [Zo h,Zo (e.2 h)]
  ·rw [Zc h,Zc (fun z=>h (e.1 z))]
theorem PC (xs:List Z4) (many:Nat):Wo (xs.map f) many=Wo xs many:=by rw [Wo,GC hop,<-List.map_drop,Ik hop hin har,Wo]
end
theorem HV {op x:Int}:∀{xs:List Z4} {k:Int},¬Xz op x xs k<0->0<=k->k<=Xz op x xs k/\Xz op x xs k<k+xs.length/\∃s,xs[(Xz op x xs k-k).toNat]? = some s/\s.op=op/\gI s.args 0=x
 | [],k,h,_=>by simp [Xz] at h
 | s::r,k,h,hk=>by
  rw [Xz] at h ⊢
  split
  ·rename_i q
   refine ⟨Int.le_refl _,by rw [YS];omega,s,?_,q⟩
   rw [Int.sub_self];rfl
  ·rename_i q
   rw [Zc q] at h
   obtain ⟨h1,h2,t,h3,h4⟩:=HV (xs:=r) (k:=k+1) h om
   refine ⟨by omega,by rw [YS];omega,t,?_,h4⟩
   rw [show (Xz op x r (k+1)-k).toNat=(Xz op x r (k+1)-(k+1)).toNat+1 by omega,List.getElem?_cons_succ]
   exact h3
theorem Ij {many:Nat}:∀{xs:List Z4} {k:Int},¬XO many xs k<0->0<=k->k<=XO many xs k/\XO many xs k<k+xs.length/\∃s,xs[(XO many xs k-k).toNat]? = some s/\Qk many s
 | [],k,h,_=>by simp [XO] at h
 | s::r,k,h,hk=>by
  rw [XO] at h ⊢
  split
  ·rename_i q
   refine ⟨Int.le_refl _,by rw [YS];omega,s,?_,q⟩
   rw [Int.sub_self];rfl
  ·rename_i q
   rw [Zc q] at h
   obtain ⟨h1,h2,t,h3,h4⟩:=Ij (xs:=r) (k:=k+1) h om
   refine ⟨by omega,by rw [YS];omega,t,?_,h4⟩
   rw [show (XO many r (k+1)-k).toNat=(XO many r (k+1)-(k+1)).toNat+1 by omega,List.getElem?_cons_succ]
   exact h3
theorem CN {xs:List Z4} {x:Int} (h:¬V6 xs x<0):0<=V6 xs x/\V6 xs x<Yt xs/\∃s,xs[(V6 xs x).toNat]? = some s/\s.op=16/\gI s.args 0=x:=by
 obtain ⟨h1,h2,s,h3,h4⟩:=HV h (Int.le_refl 0)
 have hl:=CF xs
 rw [Ww,Vq hl] at h2
 have h2':V6 xs x<Yt xs:=by unfold V6;omega
 have h1':0<=V6 xs x:=h1
 refine ⟨h1',h2',s,?_,h4⟩
 rw [Int.sub_zero] at h3
 have h5:(V6 xs x).toNat<Yt xs:=by omega
 rwa [show Xz 16 x (xs.take (Yt xs)) 0=V6 xs x from rfl,List.getElem?_take_of_lt h5] at h3
theorem JS {xs:List Z4} {many:Nat} (h:¬Wo xs many<0):(Yt xs:Int)<=Wo xs many/\Wo xs many<xs.length/\∃s,xs[(Wo xs many).toNat]? = some s/\Qk many s/\A0 xs (Wo xs many)=s:=by
 obtain ⟨h1,h2,s,h3,h4⟩:=Ij h om
 have hl:=CF xs
 rw [At] at h2
 have h1':(Yt xs:Int)<=Wo xs many:=h1
 have h2':Wo xs many<xs.length:=by unfold Wo;omega
 rw [HF,show XO many (xs.drop (Yt xs)) (Yt xs)=Wo xs many from rfl,show Yt xs+(Wo xs many-(Yt xs:Int)).toNat=(Wo xs many).toNat by omega] at h3
 exact ⟨h1',h2',s,h3,h4,by rw [A0,h3];rfl⟩
theorem Z4w {f:Z4->Z4} (hop:∀s,(f s).op=s.op) (hin:∀s,(f s).into=s.into) (har:∀s,(f s).args=s.args) (hc:∀x,f (Zj 17 x)=Zj 17 x) (hi:∀v s,f (TI v s)=TI v (f s)) (xs:List Z4) (x:Int) (many:Nat) :
  VY (xs.map f) x many=(VY xs x many).map f:=by
 rw [VY,Z44 hop har,PC hop hin har,VY]
 split
 ·rfl
 ·rename_i hq
  obtain ⟨_,_,s,h3,_,h5⟩:=JS (fun z=>hq (.inr z))
  have e:A0 (xs.map f) (Wo xs many)=f (A0 xs (Wo xs many)):=by rw [A0,Kr,h3,h5];rfl
  rw [e,List.map_set,List.map_set,hc,hi]
theorem N4 {ds:List Zf} {K:List Int} {b:Z6} {x:Int} {many:Nat}:Wq ds K (V8 b x many)=V8 (Wq ds K b) x many:=by
 rw [V8,Wq,V8,Em,Eo,Eo]
 show Z6.mk _ _=Z6.mk (VY (b.steps.map (Q7 ds K)) x many) b.result
 rw [Z4w (f:=Q7 ds K) (fun s=>by rw [Af];rfl) (fun s=>by rw [Af];rfl) (fun s=>by rw [Af];rfl) (fun x=>by rw [Af];rfl) (fun v s=>by rw [Af,Af];rfl)]
def QF (op:Int) (c:List Int):List Int:=if Yf op=true then c.set (op-14).toNat (gI c (op-14)+1) else c
mutual
def AI:Z4->List Int->List Int
 | .mk op _ _ _ kids,c=>UW kids (QF op c)
def UW:List Z6->List Int->List Int
 | [],c=>c
 | b::r,c=>UW r (Tm b c)
def Tn:List Z4->List Int->List Int
 | [],c=>c
 | s::r,c=>Tn r (AI s c)
def Tm:Z6->List Int->List Int
 | .mk steps _,c=>Tn steps c
end
theorem Pw (s:Z4) (c:List Int):AI s c=UW s.kids (QF s.op c):=by cases s;rw [AI];rfl
theorem Pr (b:Z6) (c:List Int):Tm b c=Tn b.steps c:=by cases b;rw [Tm];rfl
theorem Px {xs:List Z4} {k:Nat} {s:Z4} {c r:List Int} (h:xs[k]? = some s) (ha:Tn (xs.drop k) c=r):Tn (xs.drop (k+1)) (UW s.kids (QF s.op c))=r:=by
 rw [Y8 h,Tn,Pw] at ha;exact ha
theorem Pv {xs:List Z4} {k:Nat} {c r:List Int} (h:xs.length<=k) (ha:Tn (xs.drop k) c=r):c=r:=by
 rw [Xb h,Tn] at ha;exact ha
theorem Ps {xs:List Z6} {k:Nat} {s:Z6} {c r:List Int} (h:xs[k]? = some s) (ha:UW (xs.drop k) c=r):UW (xs.drop (k+1)) (Tm s c)=r:=by
 rw [Y8 h,UW] at ha;exact ha
theorem Pq {xs:List Z6} {k:Nat} {c r:List Int} (h:xs.length<=k) (ha:UW (xs.drop k) c=r):c=r:=by
 rw [Xb h,UW] at ha;exact ha
structure CB (c:List Int) (q:Int):Prop where
 len:c.length=4
 bd:∀x∈c,0<=x/\x<=q
theorem CB.le {c:List Int} {q p:Int} (h:CB c q) (hq:q<=p):CB c p:=⟨h.len,fun x hx=>by have:=h.bd x hx;omega⟩
theorem CB.at {c:List Int} {q:Int} (h:CB c q) {i:Int} (hi:i.toNat<4):0<=gI c i/\gI c i<=q:=h.bd _ (by rw [gI,JB (by rw [h.len];exact hi)];exact List.getElem_mem _)
theorem CB.one {c:List Int} {q:Int} (h:CB c q) (_:0<=q) (op:Int):CB (QF op c) (q+1):=by
 rw [QF]
 split
 ·rename_i ho
  have ho':14<=op/\op<=17:=by simpa [Yf] using ho
  refine ⟨by rw [UU];exact h.len,fun x hx=>?_⟩
  rcases Kg hx with hx|rfl
  ·have:=h.bd x hx;omega
  ·have:=h.at (i:=op-14) om;omega
 ·exact h.le om
mutual
theorem CB.s:∀(s:Z4) {c:List Int} {q:Int},CB c q->0<=q->CB (AI s c) (q+s.sz)
 | .mk op num into args kids,c,q,h,hq=>by
  have:=CB.bs kids (h.one hq op) om
  rw [AI,Z4.sz];exact this.le om
theorem CB.bs:∀(bs:List Z6) {c:List Int} {q:Int},CB c q->0<=q->CB (UW bs c) (q+YR bs)
 | [],c,q,h,hq=>by rw [UW,YR];exact h.le om
 | b::r,c,q,h,hq=>by
  have:=CB.bs r (CB.b b h hq) om
  rw [UW,YR];exact this.le om
theorem CB.ss:∀(xs:List Z4) {c:List Int} {q:Int},CB c q->0<=q->CB (Tn xs c) (q+Yp xs)
 | [],c,q,h,hq=>by rw [Tn,Yp];exact h.le om
 | s::r,c,q,h,hq=>by
  have:=CB.ss r (CB.s s h hq) om
  rw [Tn,Yp];exact this.le om
theorem CB.b:∀(b:Z6) {c:List Int} {q:Int},CB c q->0<=q->CB (Tm b c) (q+b.sz)
 | .mk steps result,c,q,h,hq=>by
  have:=CB.ss steps h hq
  rw [Tm,Z6.sz];exact this.le om
end
mutual
def B4:Z4->Prop
 | .mk op _ _ _ kids=>op≠17/\A9 kids
def A9:List Z6->Prop
 | []=>True
 | b::r=>Q3 b/\A9 r
def Aa:List Z4->Prop
 | []=>True
 | s::r=>B4 s/\Aa r
def Q3:Z6->Prop
 | .mk steps _=>Aa steps
end
theorem BL (s:Z4):B4 s↔s.op≠17/\A9 s.kids:=by cases s;rw [B4];rfl
theorem CI (b:Z6):Q3 b↔Aa b.steps:=by cases b;rw [Q3];rfl
theorem CJ:∀{xs:List Z4},Aa xs↔∀s∈xs,B4 s
 | []=>by simp [Aa]
 | s::r=>by rw [Aa,CJ];simp
theorem Ec:∀{xs:List Z6},A9 xs↔∀s∈xs,Q3 s
 | []=>by simp [A9]
 | s::r=>by rw [A9,Ec];simp
def K7:List Yb->List Int->List Int
 | [],c=>c
 | r::rs,c=>K7 rs (Tm r.body c)
theorem Pu {xs:List Yb} {k:Nat} {s:Yb} {c r:List Int} (h:xs[k]? = some s) (ha:K7 (xs.drop k) c=r):K7 (xs.drop (k+1)) (Tm s.body c)=r:=by
 rw [Y8 h,K7] at ha;exact ha
theorem Pt {xs:List Yb} {k:Nat} {c r:List Int} (h:xs.length<=k) (ha:K7 (xs.drop k) c=r):c=r:=by
 rw [Xb h,K7] at ha;exact ha
def JR (n:Zx):List Int:=K7 n.routines [0,0,0,0]
theorem EG:∀{xs:List Z4} {i:Nat} {s:Z4} (t:Z4),xs[i]? = some s->Yp (xs.set i t)+s.sz=Yp xs+t.sz
 | [],_,_,_,h=>by simp at h
 | x::r,0,s,t,h=>by simp at h;subst h;rw [List.set_cons_zero,Yp,Yp];omega
 | x::r,i+1,s,t,h=>by
  have:=EG (xs:=r) (i:=i) t (by simpa using h)
  rw [List.set_cons_succ,Yp,Yp];omega
theorem Z25 (v:Int) (s:Z4):(TI v s).sz=s.sz:=by cases s;rw [TI,Z4.sz,Z4.sz];rfl
theorem Il {xs:List Z4} {x:Int} {many:Nat} (h:¬(V6 xs x<0∨Wo xs many<0)):(V6 xs x).toNat<(Wo xs many).toNat:=by
 obtain ⟨h1,h2,_⟩:=CN (fun z=>h (.inl z))
 obtain ⟨h3,h4,_⟩:=JS (fun z=>h (.inr z))
 omega
theorem El {xs:List Z4} {x:Int} {many:Nat} (h:¬(V6 xs x<0∨Wo xs many<0)) {t:Z4} {s:Z4} (hs:xs[(Wo xs many).toNat]? = some s):(xs.set (V6 xs x).toNat t)[(Wo xs many).toNat]? = some s:=by
 have:=Il h
 rw [List.getElem?_set_ne om];exact hs
theorem MW {xs:List Z4} {x:Int} {many:Nat} (h:∀s∈xs,Yf s.op=true->2<=s.sz):Yp (VY xs x many)<=Yp xs:=by
 rw [VY]
 split
 ·exact X6 _
 ·rename_i hq
  obtain ⟨_,_,s,h3,h4,_⟩:=CN (fun z=>hq (.inl z))
  obtain ⟨_,_,t,h5,_,h6⟩:=JS (fun z=>hq (.inr z))
  have e1:=EG (Zj 17 x) h3
  have e2:=EG (TI (1+x) (A0 xs (Wo xs many))) (El hq (t:=Zj 17 x) h5)
  have h7:=h s (Y7 h3) (by rw [h4];rfl)
  rw [Do] at e1
  rw [Z25,h6] at e2
  rw [h6]
  omega
section
variable {ds:List Zf}
theorem Z96 {v:Int} {s:Z4} (h:wS ds s) (h6:s.op=6):wS ds (TI v s):=by
 obtain ⟨h1,h2,h3,h4⟩:=(Ko s).1 h
 exact (Ko _).2 ⟨h1,fun hc=>absurd hc (by show ¬Yf s.op=true;rw [h6];decide),h3,h4⟩
theorem Z93 {v:Int}:wS ds (Zj 17 v):=(Ko _).2 ⟨rfl,fun _=>⟨rfl,rfl,rfl,v,rfl⟩,fun e=>absurd e (show (17:Int)≠8 by decide),True.intro⟩
theorem Z92 {xs:List Z4} {x:Int} {many:Nat} (h:Qc ds xs):Qc ds (VY xs x many):=by
 rw [VY]
 split
 ·exact h
 ·rename_i hq
  obtain ⟨_,_,t,h5,h7,h6⟩:=JS (fun z=>hq (.inr z))
  rw [Jy]
  intro s hs
  rcases List.mem_or_eq_of_mem_set hs with hs|rfl
  ·rcases List.mem_or_eq_of_mem_set hs with hs|rfl
   ·exact Jy.1 h s hs
   ·exact Z93
  ·rw [h6];exact Z96 (Jy.1 h t (Y7 h5)) h7.1.1
theorem Z91 {b:Z6} {x:Int} {many:Nat} (h:wB ds b):wB ds (V8 b x many):=by rw [V8,K4];exact Z92 ((K4 b).1 h)
variable (hd:Wn ds)
mutual
theorem Z5g:∀(s:Z4) {K:List Int},wS ds s->(Q7 ds K s).sz<=s.sz
 | .mk op num into args kids,K,h=>by
  have:=N7 kids (K:=K) (op:=op) (num:=num) (args:=args) (k:=0) h.2.2.2
  rw [Q7,Z4.sz,Z4.sz];omega
theorem N7:∀(bs:List Z6) {K:List Int} {op num:Int} {args:List Int} {k:Nat},Jx ds bs->YR (Ul ds K op num args bs k)<=YR bs
 | [],_,_,_,_,_,_=>X6 _
 | b::r,K,op,num,args,k,h=>by
  have h2:=N7 r (K:=K) (op:=op) (num:=num) (args:=args) (k:=k+1) h.2
  have key:∀K2:List Int,(V8 (Wq ds K2 b) (gI args 0) (Uf ds num k).length).sz<=b.sz:=fun K2=>by
   have h1:=H2 b (K:=K2) h.1
   have h3:=MW (xs:=(Wq ds K2 b).steps) (x:=gI args 0) (many:=(Uf ds num k).length) (by
    rw [Em,Eo]
    intro s hs hc
    obtain ⟨t,ht,rfl⟩:=W6.1 hs
    rw [Af] at hc ⊢
    obtain ⟨_,_,a,ha⟩:=EO (Jy.1 ((K4 b).1 h.1) t ht) hc
    rw [Z4.sz,ha];simp)
   rw [V8,Z6.sz]
   rw [Z6.sz_eq] at h1
   omega
  rw [Ul,YR,YR]
  split
  ·have:=key (if V6 b.steps (gI args 0)<0∨Wo b.steps (Uf ds num k).length<0 then K else gI args 0::K)
   omega
  ·have:=H2 b (K:=K) h.1
   omega
theorem N9:∀(xs:List Z4) {K:List Int},Qc ds xs->Yp (Um ds K xs)<=Yp xs
 | [],_,_=>X6 _
 | s::r,K,h=>by
  have h1:=Z5g s (K:=K) h.1
  have h2:=N9 r (K:=K) h.2
  rw [Um,Yp,Yp];omega
theorem H2:∀(b:Z6) {K:List Int},wB ds b->(Wq ds K b).sz<=b.sz
 | .mk steps result,K,h=>by
  have:=N9 steps (K:=K) h
  rw [Wq,Z6.sz,Z6.sz];omega
end
end
theorem GF:∀{xs:List Z4} {i:Nat} {s t:Z4},xs[i]? = some s->Yf t.op=Yf s.op->Yt (xs.set i t)=Yt xs
 | [],_,_,_,h,_=>by simp at h
 | x::r,0,s,t,h,e=>by simp at h;subst h;rw [List.set_cons_zero,Yt,Yt,e]
 | x::r,i+1,s,t,h,e=>by
  rw [List.set_cons_succ,Yt,Yt,GF (xs:=r) (i:=i) (by simpa using h) e]
theorem Z2w {xs:List Z4} {x:Int} {many:Nat}:Yt (VY xs x many)=Yt xs:=by
 rw [VY]
 split
 ·rfl
 ·rename_i hq
  obtain ⟨_,_,s,h3,h4,_⟩:=CN (fun z=>hq (.inl z))
  obtain ⟨_,_,t,h5,_,h6⟩:=JS (fun z=>hq (.inr z))
  rw [GF (El hq (t:=Zj 17 x) h5) (by rw [h6];rfl),GF h3 (by rw [h4];rfl)]
theorem HY {op x:Int}:∀{xs:List Z4} {k:Int},(∀s∈xs,s.op≠op)->Xz op x xs k=-1
 | [],_,_=>rfl
 | s::r,k,h=>by
  rw [Xz,Zc (fun z=>h s (Xh ..) z.1)]
  exact HY fun t ht=>h t (XG _ ht)
theorem HZ {op x:Int}:∀{xs:List Z4} {k:Int},0<=k->(∃s∈xs,s.op=op/\gI s.args 0=x)->0<=Xz op x xs k
 | [],_,_,h=>by obtain ⟨s,hs,_⟩:=h;cases hs
 | s::r,k,hk,h=>by
  rw [Xz]
  split
  ·exact hk
  ·rename_i q
   obtain ⟨t,ht,h1⟩:=h
   rcases YQ.1 ht with rfl|ht
   ·exact absurd h1 q
   ·exact HZ om ⟨t,ht,h1⟩
theorem O7 {xs:List Z4} {x:Int} {many:Nat} (hn:Aa xs):0<=Xz 17 x ((VY xs x many).take (Yt (VY xs x many))) 0↔¬(V6 xs x<0∨Wo xs many<0):=by
 rw [Z2w]
 constructor
 ·intro h hq
  rw [VY,Zo hq,HY (fun s hs=>((BL s).1 (CJ.1 hn s (TR hs))).1)] at h
  omega
 ·intro hq
  obtain ⟨h1,h2,s,h3,h4,_⟩:=CN (fun z=>hq (.inl z))
  have hap:=Il hq
  refine HZ (Int.le_refl 0) ⟨Zj 17 x,?_,rfl,rfl⟩
  rw [VY,Zc hq]
  refine Y7 (i:=(V6 xs x).toNat) ?_
  rw [List.getElem?_take_of_lt om,List.getElem?_set_ne om,List.getElem?_set_self (XM.1 h3).1]
def Ab (b:Z6):Prop:=∀s∈b.steps,A9 s.kids
theorem B3 {b:Z6} (h:Q3 b):Ab b:=fun s hs=>((BL s).1 (CJ.1 ((CI b).1 h) s hs)).2
theorem Z3m {b:Z6} {k j:Nat} {s:Z4} {c:Z6} (h:Ab b) (hs:b.steps[k]? = some s) (hc:s.kids[j]? = some c):Q3 c:=Ec.1 (h s (Y7 hs)) c (Y7 hc)
theorem Mf {b:Z6} {x:Int} {many:Nat} (h:Q3 b):Ab (V8 b x many):=by
 intro s hs
 have hs:s∈VY b.steps x many:=hs
 rw [VY] at hs
 split at hs
 ·exact B3 h s hs
 ·rename_i hq
  obtain ⟨_,_,t,h5,_,h6⟩:=JS (fun z=>hq (.inr z))
  rcases List.mem_or_eq_of_mem_set hs with hs|rfl
  ·rcases List.mem_or_eq_of_mem_set hs with hs|rfl
   ·exact B3 h s hs
   ·exact True.intro
  ·rw [h6];exact B3 h t (Y7 h5)
theorem Z4v {ds:List Zf} {b:Z6} {x:Int} {many:Nat} (h:wB ds b):(V8 b x many).sz<=b.sz:=by
 have:=MW (xs:=b.steps) (x:=x) (many:=many) fun s hs hc=>by
  have h7:=EZ ((K4 b).1 h) s hs hc
  rw [h7,Do];omega
 rw [V8,Z6.sz,b.sz_eq];omega
def KN (ds:List Zf) (r:Yb):Yb:=⟨r.params,r.lent,r.result,Wq ds [] r.body⟩
def En (n:Zx):Zx:=⟨n.decls,n.routines.map (KN n.decls)⟩
mutual
def BP:Z4->Bool
 | .mk op _ into _ kids=>(!Yf op&&into==0)&&VO kids
def WL:Z6->Bool
 | .mk steps _=>VX steps
def VX:List Z4->Bool
 | []=>true
 | s::r=>BP s&&VX r
def VO:List Z6->Bool
 | []=>true
 | b::r=>WL b&&VO r
end
theorem Ei (b:Z6):WL b=VX b.steps:=by cases b;rw [WL];rfl
theorem MG (s:Z4):BP s=((!Yf s.op&&s.into==0)&&VO s.kids):=by cases s;rw [BP];rfl
def Tx:List Yb->Bool
 | []=>true
 | r::rs=>WL r.body&&Tx rs
def XY (n:Zx):Bool:=Wd n&&Tx n.routines
mutual
theorem Z4g:∀(s:Z4) {c:List Int},BP s=true->AI s c=c
 | .mk op _ into _ kids,c,h=>by
  rw [BP,XL,XL] at h
  rw [AI,QF,Zc (by simpa using h.1.1),MI kids h.2]
theorem MH:∀(b:Z6) {c:List Int},WL b=true->Tm b c=c
 | .mk steps _,c,h=>by rw [WL] at h;rw [Tm,MK steps h]
theorem MK:∀(xs:List Z4) {c:List Int},VX xs=true->Tn xs c=c
 | [],c,_=>by rw [Tn]
 | s::r,c,h=>by rw [VX,XL] at h;rw [Tn,Z4g s h.1,MK r h.2]
theorem MI:∀(xs:List Z6) {c:List Int},VO xs=true->UW xs c=c
 | [],c,_=>by rw [UW]
 | s::r,c,h=>by rw [VO,XL] at h;rw [UW,MH s h.1,MI r h.2]
end
theorem MJ:∀{xs:List Yb} {c:List Int},Tx xs=true->K7 xs c=c
 | [],c,_=>by rw [K7]
 | s::r,c,h=>by rw [Tx,XL] at h;rw [K7,MH _ h.1,MJ h.2]
theorem ML {n:Zx} (h:XY n=true):(if Wd n=true then JR n else [])=[0,0,0,0]:=by
 rw [XY,XL] at h
 rw [Zo h.1,JR,MJ h.2]
theorem Z4f {xs:List Z4} {k:Nat} {s:Z4} {v w:Bool} (h:xs[k]? = some s) (ha:(v&&VX (xs.drop k))=w):((v&&BP s)&&VX (xs.drop (k+1)))=w:=by
 rw [Y8 h,VX] at ha;rw [Bool.and_assoc];exact ha
theorem Z4e {xs:List Z4} {k:Nat} {v w:Bool} (h:xs.length<=k) (ha:(v&&VX (xs.drop k))=w):v=w:=by
 rw [Xb h,VX,Bool.and_true] at ha;exact ha
theorem Z4i {xs:List Z6} {k:Nat} {s:Z6} {v w:Bool} (h:xs[k]? = some s) (ha:(v&&VO (xs.drop k))=w):((v&&WL s)&&VO (xs.drop (k+1)))=w:=by
 rw [Y8 h,VO] at ha;rw [Bool.and_assoc];exact ha
theorem Z4h {xs:List Z6} {k:Nat} {v w:Bool} (h:xs.length<=k) (ha:(v&&VO (xs.drop k))=w):v=w:=by
 rw [Xb h,VO,Bool.and_true] at ha;exact ha
theorem MO {xs:List Yb} {k:Nat} {s:Yb} (h:xs[k]? = some s):Tx (xs.drop k)=(WL s.body&&Tx (xs.drop (k+1))):=by rw [Y8 h,Tx]
theorem MP {xs:List Yb} {k:Nat} {s:Yb} {w:Bool} (h:xs[k]? = some s) (hs:WL s.body=true) (ha:Tx (xs.drop k)=w):Tx (xs.drop (k+1))=w:=by
 rw [MO h,hs,Bool.true_and] at ha;exact ha
theorem MN {xs:List Yb} {k:Nat} {w:Bool} (h:xs.length<=k) (ha:Tx (xs.drop k)=w):true=w:=by
 rw [Xb h,Tx] at ha;exact ha
theorem MM {xs:List Yb} {k:Nat} {s:Yb} {w:Bool} (h:xs[k]? = some s) (hs:¬WL s.body=true) (ha:Tx (xs.drop k)=w):false=w:=by
 rw [MO h,Ty.2 hs,Bool.false_and] at ha;exact ha
theorem GS {xs:List Z4} {k:Nat} {s:Z4} (h:xs[k]? = some s):VX (xs.drop k)=(((!Yf s.op&&s.into==0)&&VO s.kids)&&VX (xs.drop (k+1))):=by rw [Y8 h,VX,MG]
theorem Z4m {xs:List Z4} {k:Nat} {s:Z4} {w:Bool} (h:xs[k]? = some s) (hs:Yf s.op=true∨s.into≠0) (ha:VX (xs.drop k)=w):false=w:=by
 rw [GS h] at ha
 rw [<-ha]
 rcases hs with hs|hs
 ·rw [hs];rfl
 ·rw [show (s.into==0)=false by simpa using hs];simp
theorem Z4n {xs:List Z4} {k:Nat} {s:Z4} {w:Bool} (h:xs[k]? = some s) (hs:VO s.kids=false) (ha:VX (xs.drop k)=w):false=w:=by
 rw [GS h,hs] at ha;simpa using ha
theorem Z4p {xs:List Z4} {k:Nat} {s:Z4} {w:Bool} (h:xs[k]? = some s) (h1:¬(Yf s.op=true∨s.into≠0)) (h2:VO s.kids=true) (ha:VX (xs.drop k)=w):VX (xs.drop (k+1))=w:=by
 rw [GS h,h2,Ty.2 (fun z=>h1 (.inl z)),show (s.into==0)=true by simpa using fun z=>h1 (.inr z)] at ha
 simpa using ha
theorem Z4o {xs:List Z4} {k:Nat} {w:Bool} (h:xs.length<=k) (ha:VX (xs.drop k)=w):true=w:=by
 rw [Xb h,VX] at ha;exact ha
theorem Z4j {xs:List Z6} {k:Nat} {s:Z6} {w:Bool} (h:xs[k]? = some s) (hs:¬WL s=true) (ha:VO (xs.drop k)=w):w=false:=by
 rw [Y8 h,VO,Ty.2 hs] at ha;exact ha.symm
theorem Z4l {xs:List Z6} {k:Nat} {s:Z6} {w:Bool} (h:xs[k]? = some s) (hs:WL s=true) (ha:VO (xs.drop k)=w):VO (xs.drop (k+1))=w:=by
 rw [Y8 h,VO,hs,Bool.true_and] at ha;exact ha
theorem Z4k {xs:List Z6} {k:Nat} {w:Bool} (h:xs.length<=k) (ha:VO (xs.drop k)=w):w=true:=by
 rw [Xb h,VO] at ha;exact ha.symm
theorem RJ {xs ys:List Int} (h:xs.length=ys.length) (ha:∀i,i<xs.length->xs[i]? = ys[i]?):xs=ys:=List.ext_getElem? fun i=>by
 by_cases hi:i<xs.length
 ·exact ha i hi
 ·rw [EV om,EV om]
end Go.Abs
section
namespace Go.Abs
theorem Z2u {xs:List Z4} {k:Nat} {s:Z4} {r:Nat} (h:xs[k]? = some s) (hs:Yf s.op=true) (ha:k+Yt (xs.drop k)=r):k+1+Yt (xs.drop (k+1))=r:=by
 rw [Y8 h,Yt,Zo hs] at ha;omega
theorem Z2v {xs:List Z4} {k:Nat} {s:Z4} {r:Nat} (h:xs[k]? = some s) (hs:¬Yf s.op=true) (ha:k+Yt (xs.drop k)=r):k=r:=by
 rw [Y8 h,Yt,Zc hs] at ha;omega
theorem Z2t {xs:List Z4} {k:Nat} {r:Nat} (h:xs.length<=k) (ha:k+Yt (xs.drop k)=r):k=r:=by
 rw [Xb h,Yt] at ha;omega
theorem P6 {op x:Int} {xs:List Z4} {k:Nat} {s:Z4} {r:Int} (h:xs[k]? = some s) (hs:s.op=op/\gI s.args 0=x) (ha:Xz op x (xs.drop k) k=r):(k:Int)=r:=by
 rw [Y8 h,Xz,Zo hs] at ha;exact ha
theorem HX {op x:Int} {xs:List Z4} {k:Nat} {s:Z4} {r:Int} (h:xs[k]? = some s) (hs:¬(s.op=op/\gI s.args 0=x)) (ha:Xz op x (xs.drop k) k=r):Xz op x (xs.drop (k+1)) ((k+1:Nat):Int)=r:=by
 rw [Y8 h,Xz,Zc hs] at ha;rw [<-ha];congr 1
theorem P5 {op x:Int} {xs:List Z4} {k:Nat} {r:Int} (h:xs.length<=k) (ha:Xz op x (xs.drop k) k=r):-1=r:=by
 rw [Xb h,Xz] at ha;exact ha
theorem PF {many:Nat} {xs:List Z4} {k:Nat} {s:Z4} {r:Int} (h:xs[k]? = some s) (hs:Qk many s) (ha:XO many (xs.drop k) k=r):(k:Int)=r:=by
 rw [Y8 h,XO,Zo hs] at ha;exact ha
theorem PE {many:Nat} {xs:List Z4} {k:Nat} {s:Z4} {r:Int} (h:xs[k]? = some s) (hs:¬Qk many s) (ha:XO many (xs.drop k) k=r):XO many (xs.drop (k+1)) ((k+1:Nat):Int)=r:=by
 rw [Y8 h,XO,Zc hs] at ha;rw [<-ha];congr 1
theorem PD {many:Nat} {xs:List Z4} {k:Nat} {r:Int} (h:xs.length<=k) (ha:XO many (xs.drop k) k=r):-1=r:=by
 rw [Xb h,XO] at ha;exact ha
theorem Z4x {xs:List Z4} {x:Int} {many:Nat} (h:V6 xs x<0∨Wo xs many<0):VY xs x many=xs:=Zo h
theorem Z4y {xs:List Z4} {x:Int} {many:Nat} {s:Z4} (h:¬(V6 xs x<0∨Wo xs many<0)) (hs:A0 xs (Wo xs many)=s):(xs.set (V6 xs x).toNat (Zj 17 x)).set (Wo xs many).toNat (TI (1+x) s)=VY xs x many:=by
 rw [VY,Zc h,hs]
theorem TZ (xs:List Z4):(Zl (Zv xs)).length=xs.length*5:=by rw [UZ _ (X8 _)];simp
theorem DF (s:Z4) (r:List Z4):Zl (Zv (s::r))=Yg s++Zl (Zv r):=by rw [Vd,Vd];rfl
theorem IR {xs:List Z4} {k:Nat} {x:Z4} (h:xs[k]? = some x):Zl (Zv (xs.take k))++Zl [Y3 x]=Zl (Zv (xs.take (k+1))):=by
 rw [WM h,Wy,TG,DF]
 have:Zl (Zv [])=[]:=by rw [Vd];rfl
 rw [this];rfl
theorem IS {xs:List Z4} {i:Nat} {s:Z4} (h:xs[i]? = some s):Zl (Zv xs)=Zl (Zv (xs.take i))++(Yg s++Zl (Zv (xs.drop (i+1)))):=by
 have hi:=(XM.1 h).1
 have e:xs=xs.take i++(s::xs.drop (i+1)):=by rw [<-Y8 h,UF]
 conv=>lhs;rw [e,Wy,TG,DF]
theorem DG {xs:List Z4} {i:Nat} {s t:Z4} (h:xs[i]? = some s):(Zl (Zv xs)).take (i*5)++Yg t++(Zl (Zv xs)).drop (i*5+(Yg t).length)=Zl (Zv (xs.set i t)):=by
 have hi:=(XM.1 h).1
 have hl:(Zl (Zv (xs.take i))).length=i*5:=by rw [TZ,Ww,Vq om]
 rw [IS h,H0 (xs:=Yg s) (ys:=Yg t) hl rfl]
 have e:xs.set i t=xs.take i++(t::xs.drop (i+1)):=by rw [D6,Zo hi]
 rw [e,Wy,TG,DF]
theorem FZ {xs:List Z4} {i:Nat} {s:Z4} (h:xs[i]? = some s):((Zl (Zv xs)).drop (i*5)).take (Yg s).length=Yg s:=by
 have hi:=(XM.1 h).1
 have hl:(Zl (Zv (xs.take i))).length=i*5:=by rw [TZ,Ww,Vq om]
 rw [IS h]
 exact Z57 hl
structure Qy (xs:List Int) (v:Int) (k:Nat) (acc:List Int) (d:Bool):Prop where
 len:acc.length<=k+(if d=true then 1 else 0)
 sub:∀z∈acc,z∈xs.take k∨z=v
 all:∀z∈xs.take k,z∈acc
 done:d=true->v∈acc
theorem Qy.zero (xs:List Int) (v:Int):Qy xs v 0 [] false:=⟨by simp,by simp,by simp,by simp⟩
theorem Qy.step {xs:List Int} {v:Int} {k:Nat} {acc:List Int} {d:Bool} {x:Int} (h:Qy xs v k acc d) (hx:xs[k]? = some x) {acc2:List Int} {d2:Bool}
  (hc:(acc2=acc++[x]/\d2=d)∨(acc2=(acc++[v])++[x]/\d2=true/\¬d=true)∨(acc2=acc++[x]/\d2=true/\x=v)):Qy xs v (k+1) acc2 d2:=by
 obtain ⟨h1,h2,h3,h4⟩:=h
 have ht:∀z,z∈xs.take (k+1)↔z∈xs.take k∨z=x:=fun z=>by rw [WM hx];simp
 rcases hc with ⟨rfl,rfl⟩|⟨rfl,rfl,hd⟩|⟨rfl,rfl,rfl⟩
 ·refine ⟨by simp;omega,fun z hz=>?_,fun z hz=>?_,fun q=>List.mem_append_left _ (h4 q)⟩
  ·rw [ht]
   rcases Xr.1 hz with hz|hz
   ·rcases h2 z hz with q|q
    ·exact .inl (.inl q)
    ·exact .inr q
   ·exact .inl (.inr (W3.1 hz))
  ·rcases (ht z).1 hz with q|q
   ·exact List.mem_append_left _ (h3 z q)
   ·subst q;simp
 ·rw [Zc hd] at h1
  refine ⟨by simp;omega,fun z hz=>?_,fun z hz=>?_,fun _=>by simp⟩
  ·rw [ht]
   simp only [Xr,W3] at hz
   rcases hz with (hz|hz)|hz
   ·rcases h2 z hz with q|q
    ·exact .inl (.inl q)
    ·exact .inr q
   ·exact .inr hz
   ·exact .inl (.inr hz)
  ·rcases (ht z).1 hz with q|q
   ·exact List.mem_append_left _ (List.mem_append_left _ (h3 z q))
   ·subst q;simp
 ·refine ⟨by simp;split at h1<;>omega,fun z hz=>?_,fun z hz=>?_,fun _=>by simp⟩
  ·rw [ht]
   rcases Xr.1 hz with hz|hz
   ·rcases h2 z hz with q|q
    ·exact .inl (.inl q)
    ·exact .inr q
   ·exact .inl (.inr (W3.1 hz))
  ·rcases (ht z).1 hz with q|q
   ·exact List.mem_append_left _ (h3 z q)
   ·subst q;simp
theorem Qy.fin {xs:List Int} {v:Int} {k:Nat} {acc:List Int} {d:Bool} (h:Qy xs v k acc d) (hk:k=xs.length) :
  (d=true->acc.length<=xs.length+1/\∀z,z∈acc↔z∈xs∨z=v)/\(¬d=true->(acc++[v]).length<=xs.length+1/\∀z,z∈acc++[v]↔z∈xs∨z=v):=by
 obtain ⟨h1,h2,h3,h4⟩:=h
 subst hk
 rw [Vp] at h2 h3
 refine ⟨fun hd=>?_,fun hd=>?_⟩
 ·rw [Zo hd] at h1
  exact ⟨h1,fun z=>⟨h2 z,fun q=>q.elim (h3 z) fun e=>e▸h4 hd⟩⟩
 ·rw [Zc hd] at h1
  refine ⟨by simp;omega,fun z=>?_⟩
  rw [Xr,W3]
  exact ⟨fun q=>q.elim (h2 z) .inr,fun q=>q.elim (fun e=>.inl (h3 z e)) .inr⟩
end Go.Abs
namespace Go.Abs
theorem Qy.go {xs:List Int} {v:Int} {k:Nat} {acc:List Int} {d:Bool} {x:Int} (h:Qy xs v k acc d) (hx:xs[k]? = some x) {acc2:List Int} {d2:Bool}
  (hc:(acc2=acc/\d2=d)∨(acc2=acc++[v]/\d2=true/\¬d=true)∨(acc2=acc/\d2=true/\x=v)):Qy xs v (k+1) (acc2++[x]) d2:=by
 refine h.step hx ?_
 rcases hc with ⟨e1,e2⟩|⟨e1,e2,e3⟩|⟨e1,e2,e3⟩
 ·exact .inl ⟨by rw [e1],e2⟩
 ·exact .inr (.inl ⟨by rw [e1],e2,e3⟩)
 ·exact .inr (.inr ⟨by rw [e1],e2,e3⟩)
section
variable {ds:List Zf} {kept K2:List Int} {op num x:Int} {args:List Int} {j many:Nat} {kd:Z6}
theorem Z5d (h8:op=8) (hx:gI args 0=x) (hk:¬x∈kept) (hm:(Uf ds num j).length=many) (hq:¬(V6 kd.steps x<0∨Wo kd.steps many<0)) (hK:∀z,z∈K2↔z∈kept∨z=x):Wq ds K2 (V8 kd x many)=T3 ds kept op num args j kd:=by
 subst hx hm
 have e:∀z,z∈K2↔z∈gI args 0::kept:=fun z=>by rw [hK z,YQ];exact Or.comm
 rw [T3,Zo ⟨h8,hk⟩,E2,Zc hq,N4,H1 kd e]
theorem Z5e (h8:op=8) (hx:gI args 0=x) (hk:¬x∈kept) (hm:(Uf ds num j).length=many) (hq:V6 kd.steps x<0∨Wo kd.steps many<0):Wq ds kept (V8 kd x many)=T3 ds kept op num args j kd:=by
 subst hx hm
 rw [T3,Zo ⟨h8,hk⟩,E2,Zo hq,N4]
theorem N5 (h:¬(op=8/\¬gI args 0∈kept)):Wq ds kept kd=T3 ds kept op num args j kd:=by rw [T3,Zc h]
end
theorem Pp {op:Int} {c:List Int} (h:Yf op=true):QF op c=c.set (op-14).toNat (gI c (op-14)+1):=Zo h
theorem Po {op:Int} {c:List Int} (h:¬Yf op=true):QF op c=c:=Zc h
theorem PV {op:Int} (h:Yf op=true):14<=op/\op<=17:=by simpa [Yf] using h
end Go.Abs
namespace Go.Abs
theorem I7:∀(xs:List Z6) (b:Z6),YR (xs++[b])=YR xs+b.sz
 | [],b=>by rw [Av,YR,YR,YR];omega
 | x::r,b=>by rw [Qw,YR,YR,I7 r b];omega
theorem C9:∀{xs:List Z6} {k:Nat} {b:Z6},xs[k]? = some b->YR (xs.take k)+b.sz<=YR xs
 | [],_,_,h=>by simp at h
 | x::r,0,b,h=>by simp at h;subst h;simp [YR]
 | x::r,k+1,b,h=>by
  have:=C9 (xs:=r) (k:=k) (by simpa using h)
  rw [Bd,YR,YR];omega
theorem Dk {xs:List Z6} {k:Nat} (h:xs.length<=k):YR (xs.take k)=YR xs:=by rw [Vg h]
end Go.Abs
end
namespace Go.Abs
mutual
def Z2.sz:Z2->Nat
 | .mk _ _ kids=>1+Xn kids
def Xn:List Z2->Nat
 | []=>0
 | e::r=>e.sz+Xn r
end
theorem Z2.sz_eq (e:Z2):e.sz=1+Xn e.kids:=by cases e;rw [Z2.sz];rfl
theorem Ch:∀xs ys:List Z2,Xn (xs++ys)=Xn xs+Xn ys
 | [],ys=>by simp [Xn]
 | x::r,ys=>by rw [Qw,Xn,Xn,Ch r];omega
theorem AO:∀{xs:List Z2} {k:Nat} {e:Z2},xs[k]? = some e->e.sz<=Xn xs
 | [],k,e,h=>by simp at h
 | x::r,0,e,h=>by simp at h;subst h;rw [Xn];omega
 | x::r,k+1,e,h=>by have:=AO (xs:=r) (k:=k) (by simpa using h);rw [Xn];omega
theorem IF:∀{xs:List Z2},xs.length<=Xn xs
 | []=>K5 _
 | x::r=>by have:=IF (xs:=r);have:=x.sz_eq;rw [Xn,YS];omega
def J5:Zf:=⟨0,0,[⟨[]⟩,⟨[0,1]⟩]⟩
def J6:Zf:=⟨0,0,[⟨[]⟩,⟨[3,0,3]⟩]⟩
def Ir:List Zf:=[⟨0,0,[⟨[1,3]⟩]⟩,⟨1,0,[]⟩,⟨0,0,[⟨[1,1,0]⟩,⟨[0]⟩,⟨[3]⟩]⟩,⟨0,1,[]⟩]
def Jh:List (List Zf):=[[J5,⟨0,0,[]⟩,J6],[J5,⟨0,0,[]⟩,J6,⟨0,0,[⟨[1,3]⟩]⟩],[J5,⟨0,0,[]⟩,J6,⟨1,0,[]⟩],[J5,⟨0,0,[]⟩,J6,⟨0,0,[⟨[1,1,0]⟩,⟨[0]⟩,⟨[3]⟩]⟩],[J5,⟨0,0,[]⟩,J6,⟨0,1,[]⟩]]
def GD (ds:List Zf):Prop:=ds∈Jh
theorem GD.ok {ds:List Zf} (h:GD ds):Wn ds:=by
 have k:=(by decide:∀ds∈Jh,ds.length<=4/\(∀d∈ds,d.cons.length<=3)/\∀d∈ds,∀c∈d.cons,c.fields.length<=3) ds h
 exact ⟨k.1,k.2.1,k.2.2⟩
theorem GD.len {ds:List Zf} (h:GD ds):3<=ds.length/\ds.length<=4:=by
 exact (by decide:∀ds∈Jh,3<=ds.length/\ds.length<=4) ds h
def QO (t:Int):Prop:=t=0∨t=1∨t=3
instance (t:Int):Decidable (QO t):=inferInstanceAs (Decidable (_∨_∨_))
theorem GD.low {ds:List Zf} (h:GD ds):Zw ds 0=[]/\Zw ds 1=[0,1]/\Zw ds 2=[]/\Zw ds 3=[2,3]/\ZC ds 0=[]/\ZC ds 1=[0,1]/\ZC ds 2=[]/\ZC ds 3=[3,0,3]:=
 (by decide:∀ds∈Jh,Zw ds 0=[]/\Zw ds 1=[0,1]/\Zw ds 2=[]/\Zw ds 3=[2,3]/\ZC ds 0=[]/\ZC ds 1=[0,1]/\ZC ds 2=[]/\ZC ds 3=[3,0,3]) ds h
theorem GD.fields {ds:List Zf} (h:GD ds):∀c∈Zw ds 1++(Zw ds 3++Zw ds 4),∀t∈ZC ds c,QO t:=
 (by decide:∀ds∈Jh,∀c∈Zw ds 1++(Zw ds 3++Zw ds 4),∀t∈ZC ds c,QO t) ds h
theorem GD.cons_cases {ds:List Zf} (h:GD ds) {t:Int} {c:Int} (hc:c∈Zw ds t):(0<=c/\c<=9)/\(t=1∨t=3∨t=4)/\(ZC ds c).length<=3/\∀u∈ZC ds c,QO u:=by
 have ht:1<=t/\t<=ds.length:=by
  by_cases q:1<=t/\t<=ds.length
  ·exact q
  ·rw [Zw,Zc q] at hc;cases hc
 have hl:=h.len
 have hlow:=h.low
 have key:∀c∈Zw ds 1++(Zw ds 3++Zw ds 4),0<=c/\c<=9:=
  (by decide:∀ds∈Jh,∀c∈Zw ds 1++(Zw ds 3++Zw ds 4),0<=c/\c<=9) ds h
 have h4:t=1∨t=2∨t=3∨t=4:=by omega
 have hf:=h.fields
 have hd:=VK h.ok c
 rcases h4 with rfl|rfl|rfl|rfl
 ·exact ⟨key c (Xr.2 (.inl hc)),.inl rfl,hd,hf c (Xr.2 (.inl hc))⟩
 ·rw [hlow.2.2.1] at hc;cases hc
 ·exact ⟨key c (Xr.2 (.inr (Xr.2 (.inl hc)))),.inr (.inl rfl),hd,hf c (Xr.2 (.inr (Xr.2 (.inl hc))))⟩
 ·exact ⟨key c (Xr.2 (.inr (Xr.2 (.inr hc)))),.inr (.inr rfl),hd,hf c (Xr.2 (.inr (Xr.2 (.inr hc))))⟩
def Ku:List (List Int × Int):=[([],0),([1],0),([1,1],1),([1],1),([1,0],1),([2,1],1),([1,1],0),([3],0),([0],1),([0,1],1),([3,0],3),([3],1),([1,3,0],0),([0],0),([0,0],0),([1,0],0)]
def UV (f:Func):Prop:=(f.params,f.result)∈Ku
theorem UV.bd {f:Func} (h:UV f):f.params.length<=3/\(∀t∈f.params,0<=t/\t<=3)/\QO f.result:=by
 have key:∀q∈Ku,q.1.length<=3/\(∀t∈q.1,0<=t/\t<=3)/\QO q.2:=by decide
 exact key _ h
theorem UV.clo {ds:List Zf} {f:Func} (hd:GD ds) (h:UV f) (hp:0<WV ds (gI f.params ((f.params.length:Int)-1)) f.result):∀t∈f.params.dropLast,QO t:=by
 have key:∀q∈Ku,0<WV ds (gI q.1 ((q.1.length:Int)-1)) q.2->∀t∈q.1.dropLast,QO t:=
  (by decide +kernel:∀ds∈Jh,∀q∈Ku,0<WV ds (gI q.1 ((q.1.length:Int)-1)) q.2->∀t∈q.1.dropLast,QO t) ds hd
 exact key _ h hp
structure GP (p:XU):Prop where
 decls:GD p.decls
 len:1<=p.funcs.length/\p.funcs.length<=4
 sigs:∀f∈p.funcs,UV f
def Tf (ds:List Zf) (op num:Int) (m:Nat) (k:Nat):Nat:=
 if op=13 then m+k else if op=8 then (if k=0 then m else m+(ZC ds (gI (Zw ds num) ((k:Int)-1))).length) else m
mutual
def eW (ds:List Zf) (nf:Nat):Nat->Z2->Prop
 | m,.mk op num kids=>(0<=op/\op<=13)/\(op=12->kids=[]/\0<=num/\num<m)/\(op=13->kids.length=2)/\(op=7->kids.length=3)/\(op=8->kids.length=1+(Zw ds num).length)/\(op=9->0<=num/\num<nf)/\(-2000<=num/\num<=2000)/\kids.length<=4 /\
  TY ds nf (Tf ds op num m) 0 kids
def TY (ds:List Zf) (nf:Nat) (sc:Nat->Nat):Nat->List Z2->Prop
 | _,[]=>True
 | k,e::r=>eW ds nf (sc k) e/\TY ds nf sc (k+1) r
end
theorem RD {ds:List Zf} {nf m:Nat} (e:Z2):eW ds nf m e↔(0<=e.op/\e.op<=13)/\(e.op=12->e.kids=[]/\0<=e.num/\e.num<m)/\(e.op=13->e.kids.length=2)/\(e.op=7->e.kids.length=3)/\(e.op=8->e.kids.length=1+(Zw ds e.num).length)/\(e.op=9->0<=e.num/\e.num<nf)/\(-2000<=e.num/\e.num<=2000)/\e.kids.length<=4 /\
  TY ds nf (Tf ds e.op e.num m) 0 e.kids:=by cases e;rw [eW];rfl
theorem Bu {ds:List Zf} {nf:Nat} {sc:Nat->Nat}:∀{xs:List Z2} {j k:Nat} {e:Z2},TY ds nf sc j xs->xs[k]? = some e->eW ds nf (sc (j+k)) e
 | [],j,k,e,_,h=>by simp at h
 | x::r,j,0,e,hw,h=>by simp at h;subst h;exact hw.1
 | x::r,j,k+1,e,hw,h=>by
  have:=Bu (xs:=r) (j:=j+1) (k:=k) hw.2 (by simpa using h)
  rw [show j+(k+1)=j+1+k by omega];exact this
theorem IB {ds:List Zf} {nf:Nat} {sc:Nat->Nat}:∀{xs ys:List Z2} {j:Nat},TY ds nf sc j (xs++ys)↔TY ds nf sc j xs/\TY ds nf sc (j+xs.length) ys
 | [],ys,j=>by simp [TY]
 | x::r,ys,j=>by
  rw [Qw,TY,TY,IB (xs:=r),and_assoc,YS,show j+1+r.length=j+(r.length+1) by omega]
theorem FQ {ds:List Zf} {nf m:Nat} {sc:Nat->Nat} (hs:∀k,sc k=m):∀{xs:List Z2} {j:Nat},(∀e∈xs,eW ds nf m e)->TY ds nf sc j xs
 | [],_,_=>True.intro
 | x::r,j,h=>⟨by rw [hs];exact h x (Xh ..),FQ hs fun e he=>h e (XG _ he)⟩
theorem AN {ds:List Zf} {nf m:Nat} {op num:Int} {kids:List Z2} (ho:0<=op/\op<=11/\op≠7/\op≠8) (hc:op=9->0<=num/\num<nf) (hn:-2000<=num/\num<=2000) (hl:kids.length<=4) (hk:∀e∈kids,eW ds nf m e):eW ds nf m (.mk op num kids):=by
 rw [eW]
 refine ⟨by omega,fun h=>by omega,fun h=>by omega,fun h=>by omega,fun h=>by omega,hc,hn,hl,FQ (m:=m) (fun k=>?_) hk⟩
 rw [Tf,Zc om,Zc om]
theorem RE {ds:List Zf} {nf m:Nat} {z:Int} (hz:-2000<=z/\z<=2000):eW ds nf m (.mk 0 z []):=AN om (fun h=>by omega) hz (by simp) (fun e he=>by cases he)
theorem RG {ds:List Zf} {nf m:Nat} {z:Int} (hz:0<=z/\z<m) (hm:m<=2000):eW ds nf m (.mk 12 z []):=by
 rw [eW]
 exact ⟨by omega,fun _=>⟨rfl,hz⟩,fun h=>by omega,fun h=>by omega,fun h=>by omega,fun h=>by omega,by omega,by simp,True.intro⟩
theorem Iz {ds:List Zf} {nf m:Nat} {num:Int} {kids:List Z2} (hn:-2000<=num/\num<=2000) (hl:kids.length=3) (hk:∀e∈kids,eW ds nf m e):eW ds nf m (.mk 7 num kids):=by
 rw [eW]
 refine ⟨by omega,fun h=>by omega,fun h=>by omega,fun _=>hl,fun h=>by omega,fun h=>by omega,hn,by omega,FQ (m:=m) (fun k=>?_) hk⟩
 rw [Tf,Zc om,Zc om]
theorem IA {ds:List Zf} {nf m:Nat} {num:Int} {a b:Z2} (hn:-2000<=num/\num<=2000) (ha:eW ds nf m a) (hb:eW ds nf (m+1) b):eW ds nf m (.mk 13 num [a,b]):=by
 rw [eW]
 exact ⟨by omega,fun h=>by omega,fun _=>rfl,fun h=>by omega,fun h=>by omega,fun h=>by omega,hn,by simp,ha,hb,True.intro⟩
theorem FP {ds:List Zf} {nf m:Nat} {num:Int} {a:Z2} {arms:List Z2} (hn:-2000<=num/\num<=2000) (h3:arms.length<=3) (hl:arms.length=(Zw ds num).length) (ha:eW ds nf m a) (hk:TY ds nf (Tf ds 8 num m) 1 arms):eW ds nf m (.mk 8 num (a::arms)):=by
 rw [eW]
 refine ⟨by omega,fun h=>by omega,fun h=>by omega,fun h=>by omega,fun _=>by rw [YS];omega,fun h=>by omega,hn,by rw [YS];omega,?_,hk⟩
 rw [Tf,Zc om,Zo rfl,Zo rfl]
 exact ha
def bS (b:Nat):Nat:=max 4 (10*b-10)
def bC (b:Nat):Nat:=max 40 (100*b-100)
def YO:List Z4->Nat
 | []=>0
 | s::r=>(if Yf s.op=true then 0 else 1)+YO r
theorem K9:∀xs ys:List Z4,YO (xs++ys)=YO xs+YO ys
 | [],ys=>by simp [YO]
 | x::r,ys=>by rw [Qw,YO,YO,K9 r];omega
theorem AK:∀xs:List Z4,YO xs<=xs.length
 | []=>X6 _
 | x::r=>by have:=AK r;rw [YO,YS];split<;>omega
def UA (ds:List Zf) (op num:Int) (m:Nat) (k:Nat):Nat:=if op=8 then m+(ZC ds (gI (Zw ds num) k)).length else m
mutual
def fS (ds:List Zf) (nf:Nat):Nat->Z4->Prop
 | m,.mk op num into args kids=>((0<=op/\op<=11)∨(14<=op/\op<=17))/\(∀a∈args,0<=a/\a<m)/\(14<=op->num=0/\into=0/\kids=[]/\∃a,args=[a])/\(op=7->kids.length=2)/\(op=8->kids.length=(Zw ds num).length)/\(op=7∨op=8->∃a,args=[a]) /\
  (op=9->0<=num/\num<nf)/\(-2000<=num/\num<=2000)/\(0<=into/\into<=m)/\args.length<=4/\(op≠7/\op≠8->kids=[])/\T9 ds nf (UA ds op num m) 0 kids
def T9 (ds:List Zf) (nf:Nat) (sc:Nat->Nat):Nat->List Z6->Prop
 | _,[]=>True
 | k,b::r=>fB ds nf (sc k) b/\T9 ds nf sc (k+1) r
def UJ (ds:List Zf) (nf:Nat):Nat->List Z4->Prop
 | _,[]=>True
 | m,s::r=>fS ds nf m s/\UJ ds nf (if Yf s.op=true then m else m+1) r
def fB (ds:List Zf) (nf:Nat):Nat->Z6->Prop
 | m,.mk steps result=>UJ ds nf m steps/\0<=result/\result<(m+YO steps:Nat)
end
section
variable {ds:List Zf} {nf:Nat}
structure FS (ds:List Zf) (nf m:Nat) (s:Z4):Prop where
 op:(0<=s.op/\s.op<=11)∨(14<=s.op/\s.op<=17)
 args:∀a∈s.args,0<=a/\a<m
 cnt:14<=s.op->s.num=0/\s.into=0/\s.kids=[]/\∃a,s.args=[a]
 k7:s.op=7->s.kids.length=2
 k8:s.op=8->s.kids.length=(Zw ds s.num).length
 one:s.op=7∨s.op=8->∃a,s.args=[a]
 call:s.op=9->0<=s.num/\s.num<nf
 num:-2000<=s.num/\s.num<=2000
 into:0<=s.into/\s.into<=m
 alen:s.args.length<=4
 kn:s.op≠7/\s.op≠8->s.kids=[]
 kids:T9 ds nf (UA ds s.op s.num m) 0 s.kids
theorem DA {m:Nat} (s:Z4):fS ds nf m s↔FS ds nf m s:=by
 cases s
 rw [fS]
 exact ⟨fun ⟨h1,h2,h3,h4,h5,h6,h7,h8,h9,h10,h11,h12⟩=>⟨h1,h2,h3,h4,h5,h6,h7,h8,h9,h10,h11,h12⟩,fun h=>⟨h.op,h.args,h.cnt,h.k7,h.k8,h.one,h.call,h.num,h.into,h.alen,h.kn,h.kids⟩⟩
theorem Cj {m:Nat} (b:Z6):fB ds nf m b↔UJ ds nf m b.steps/\0<=b.result/\b.result<(m+YO b.steps:Nat):=by cases b;rw [fB];rfl
theorem Ck {sc:Nat->Nat}:∀{xs:List Z6} {j k:Nat} {b:Z6},T9 ds nf sc j xs->xs[k]? = some b->fB ds nf (sc (j+k)) b
 | [],j,k,b,_,h=>by simp at h
 | x::r,j,0,b,hw,h=>by simp at h;subst h;exact hw.1
 | x::r,j,k+1,b,hw,h=>by
  have:=Ck (xs:=r) (j:=j+1) (k:=k) hw.2 (by simpa using h)
  rw [show j+(k+1)=j+1+k by omega];exact this
theorem IH {sc:Nat->Nat}:∀{xs ys:List Z6} {j:Nat},T9 ds nf sc j (xs++ys)↔T9 ds nf sc j xs/\T9 ds nf sc (j+xs.length) ys
 | [],ys,j=>by simp [T9]
 | x::r,ys,j=>by
  rw [Qw,T9,T9,IH (xs:=r),and_assoc,YS,show j+1+r.length=j+(r.length+1) by omega]
theorem II {sc:Nat->Nat} {xs:List Z6} {b:Z6} (h:T9 ds nf sc 0 xs) (hb:fB ds nf (sc xs.length) b):T9 ds nf sc 0 (xs++[b]):=
 IH.2 ⟨h,by rw [WQ];exact hb,True.intro⟩
theorem Bw:∀{xs ys:List Z4} {m:Nat},UJ ds nf m (xs++ys)↔UJ ds nf m xs/\UJ ds nf (m+YO xs) ys
 | [],ys,m=>by simp [UJ,YO]
 | x::r,ys,m=>by
  rw [Qw,UJ,UJ,Bw (xs:=r),and_assoc,YO]
  by_cases h:Yf x.op=true
  ·rw [Zo h,Zo h,WQ]
  ·rw [Zc h,Zc h,JD]
theorem DB {xs:List Z4} {s:Z4} {m:Nat} (h:UJ ds nf m xs) (hs:fS ds nf (m+YO xs) s):UJ ds nf m (xs++[s]):=Bw.2 ⟨h,hs,True.intro⟩
theorem Cl:∀{xs:List Z4} {k m:Nat} {s:Z4},UJ ds nf m xs->xs[k]? = some s->fS ds nf (m+YO (xs.take k)) s
 | [],k,m,s,_,h=>by simp at h
 | x::r,0,m,s,hw,h=>by simp at h;subst h;exact hw.1
 | x::r,k+1,m,s,hw,h=>by
  have:=Cl (xs:=r) (k:=k) hw.2 (by simpa using h)
  rw [Bd,YO]
  by_cases hc:Yf x.op=true
  ·rw [Zo hc] at this ⊢;rw [WQ];exact this
  ·rw [Zc hc] at this ⊢;rw [<-JD];exact this
mutual
theorem Z97:∀(s:Z4) {m:Nat},fS ds nf m s->m+4*s.sz<=900000000->Wn ds->wS ds s
 | .mk op num into args kids,m,h,hb,hd=>by
  rw [fS] at h
  obtain ⟨h1,h2,h3,h4,h5,h6,h7,h8,h9,h10,h11,h12⟩:=h
  rw [Z4.sz] at hb
  rw [wS]
  refine ⟨?_,fun hc=>h3 (show 14<=op/\op<=17 by simpa [Yf] using hc).1,fun h8'=>⟨?_,h5 h8'⟩,Ol kids h12 (fun k=>?_) hd⟩
  ·rcases h1 with h1|h1
   ·have e1:Yf op=false:=by simp [Yf];omega
    have e2:Xe op=true:=by simp [Xe];omega
    rw [e1,e2];rfl
   ·have e1:Yf op=true:=by simp [Yf];omega
    have e2:Xe op=false:=by simp [Xe];omega
    rw [e1,e2];rfl
  ·obtain ⟨a,ha⟩:=h6 (.inr h8')
   have:=h2 a (by rw [ha];exact W3.2 rfl)
   exact ⟨a,ha,by omega⟩
  ·have hf:=VK hd (gI (Zw ds num) k)
   show UA ds op num m k+4*YR kids<=900000003
   rw [UA];split<;>omega
theorem Ol:∀(bs:List Z6) {sc:Nat->Nat} {k:Nat},T9 ds nf sc k bs->(∀k,sc k+4*YR bs<=900000003)->Wn ds->Jx ds bs
 | [],_,_,_,_,_=>True.intro
 | b::r,sc,k,h,hb,hd=>by
  have hp:=b.sz_eq
  exact ⟨Ok b h.1 (by have:=hb k;rw [YR] at this;omega) hd,Ol r h.2 (fun j=>by have:=hb j;rw [YR] at this;omega) hd⟩
theorem Om:∀(xs:List Z4) {m:Nat},UJ ds nf m xs->m+4*Yp xs<=900000000->Wn ds->Qc ds xs
 | [],_,_,_,_=>True.intro
 | s::r,m,h,hb,hd=>by
  rw [Yp] at hb
  have hp:=s.sz_pos
  refine ⟨Z97 s h.1 om hd,Om r h.2 ?_ hd⟩
  split<;>omega
theorem Ok:∀(b:Z6) {m:Nat},fB ds nf m b->m+4*b.sz<=900000004->Wn ds->wB ds b
 | .mk steps result,m,h,hb,hd=>by
  rw [Z6.sz] at hb
  rw [fB] at h
  rw [wB]
  exact Om steps h.1 om hd
end
mutual
theorem Z50:∀(s:Z4) {m:Nat},fS ds nf m s->s.rng
 | .mk op num into args kids,m,h=>by
  rw [fS] at h
  obtain ⟨h1,h2,h3,h4,h5,h6,h7,h8,h9,h10,h11,h12⟩:=h
  rw [Z4.rng]
  exact ⟨by omega,MY kids h12⟩
theorem MY:∀(bs:List Z6) {sc:Nat->Nat} {k:Nat},T9 ds nf sc k bs->TW bs
 | [],_,_,_=>True.intro
 | b::r,sc,k,h=>⟨GX b h.1,MY r h.2⟩
theorem MZ:∀(xs:List Z4) {m:Nat},UJ ds nf m xs->Qt xs
 | [],_,_=>True.intro
 | s::r,m,h=>⟨Z50 s h.1,MZ r h.2⟩
theorem GX:∀(b:Z6) {m:Nat},fB ds nf m b->b.rng
 | .mk steps result,m,h=>by rw [fB] at h;rw [Z6.rng];exact MZ steps h.1
end
end
structure FN (n:Zx) (q:Nat):Prop where
 decls:GD n.decls
 len:1<=n.routines.length/\n.routines.length<=4
 sigs:∀r∈n.routines,(r.params,r.result)∈Ku
 lent:∀r∈n.routines,r.lent.length<=3/\∀i∈r.lent,0<=i/\i<r.params.length
 body:∀r∈n.routines,fB n.decls n.routines.length r.params.length r.body/\r.body.sz<=q
theorem FN.ok {n:Zx} {q:Nat} (h:FN n q):Xd n:=
 ⟨h.decls.ok,h.len.2,fun r hr=>(UV.bd (f:=⟨r.params,r.result,default⟩) (h.sigs r hr)).1,fun r hr=>by have:=(h.lent r hr).1;omega⟩
def Pk (n k:Int):Prop:=0<=k/\(0<n->k<n)/\(n<=0->k=0)
theorem Pk.lt {n k:Int} (h:Pk n k) (hn:0<n):0<=k/\k<n:=⟨h.1,h.2.1 hn⟩
theorem Pk.zero {n:Int}:Pk n 0:=⟨Int.le_refl _,fun h=>h,fun _=>rfl⟩
theorem Pk.rem {n a:Int} (ha:0<=a) (hn:0<n):Pk n (a % n):=⟨Int.emod_nonneg _ om,fun _=>Int.emod_lt_of_pos _ hn,fun _=>by omega⟩
def AD (ds:List Zf):Prop:=ds.length<=8/\∀d∈ds,d.cons.length<=4/\∀c∈d.cons,c.fields.length<=4
theorem GD.ad {ds:List Zf} (h:GD ds):AD ds:=(by decide:∀ds∈Jh,ds.length<=8/\∀d∈ds,d.cons.length<=4/\∀c∈d.cons,c.fields.length<=4) ds h
theorem AD.set {ds:List Zf} (h:AD ds) (k:Nat) {d:Zf} (hd:d.cons.length<=4/\∀c∈d.cons,c.fields.length<=4):AD (ds.set k d):=
 ⟨by rw [UU];exact h.1,fun x hx=>(List.mem_or_eq_of_mem_set hx).elim (h.2 x) fun e=>by rw [e];exact hd⟩
theorem AD.app {ds es:List Zf} (h:AD ds) (hl:ds.length+es.length<=8) (hd:∀d∈es,d.cons.length<=4/\∀c∈d.cons,c.fields.length<=4):AD (ds++es):=
 ⟨by rw [Yz];exact hl,fun x hx=>(Xr.1 hx).elim (h.2 x) (hd x)⟩
theorem GD.three:GD [J5,⟨0,0,[]⟩,J6]:=List.Mem.head _
theorem GD.four:∀{k:Nat} {x:Zf},Ir[k]? = some x->GD ([J5,⟨0,0,[]⟩,J6]++[x])
 | 0,x,h=>by cases h;exact .tail _ (.head _)
 | 1,x,h=>by cases h;exact .tail _ (.tail _ (.head _))
 | 2,x,h=>by cases h;exact .tail _ (.tail _ (.tail _ (.head _)))
 | 3,x,h=>by cases h;exact .tail _ (.tail _ (.tail _ (.tail _ (.head _))))
 | k+4,x,h=>by simp [Ir] at h
theorem Ac {l:List Int} {z a b:Int} (h:z∈l) (hl:l.all (fun x=>decide (a<=x/\x<=b))=true):a<=z/\z<=b:=by
 have:=Kq.1 hl z h
 exact of_decide_eq_true this
def rk (t:Int):Nat:=if QO t then 0 else 1
theorem GW (t:Int):rk t<=1:=by rw [rk];split<;>omega
theorem MX {t:Int} (h:QO t):rk t=0:=Zo h
def SE (g:XU) (q:Nat) (e:Z2):Prop:=(∀m,eW g.decls g.funcs.length m e)/\e.sz<=q
def GE (g:XU) (m q:Nat) (e:Z2):Prop:=eW g.decls g.funcs.length m e/\e.sz<=q
theorem SE.ge {g:XU} {q q' m:Nat} {e:Z2} (h:SE g q e) (hq:q<=q'):GE g m q' e:=⟨h.1 m,Vh h.2 hq⟩
theorem GE.le {g:XU} {m q q':Nat} {e:Z2} (h:GE g m q e) (hq:q<=q'):GE g m q' e:=⟨h.1,Vh h.2 hq⟩
theorem Dz {m:Nat}:∀{xs:List Z2},(∀e∈xs,e.sz<=m)->Xn xs<=xs.length*m
 | [],_=>K5 _
 | x::r,h=>by
  have h1:=h x (Xh ..)
  have h2:=Dz (xs:=r) fun e he=>h e (XG _ he)
  rw [Xn,YS,TB];omega
theorem Xp {α:Type} {p:α->Prop} {xs:List α} {a:α} (h:∀x∈xs,p x) (ha:p a):∀x∈xs++[a],p x:=fun x hx=>(Xr.1 hx).elim (h x) fun q=>by rw [W3.1 q];exact ha
theorem SE.int {g:XU} {z:Int} {q:Nat} (hz:-2000<=z/\z<=2000) (hq:1<=q):SE g q (.mk 0 z []):=⟨fun _=>RE hz,by simpa [Z2.sz,Xn] using hq⟩
theorem SE.node {g:XU} {op num:Int} {ys:List Z2} {q k:Nat} (ho:op=6∨op=10) (hn:0<=num/\num<=2000) (hy:∀e∈ys,SE g 1 e) (hl:ys.length<=k) (hk:k<=3) (hq:1+k<=q):SE g q (.mk op num ys):=by
 refine ⟨fun m=>AN om (fun h=>by omega) om om fun e he=>(hy e he).1 m,?_⟩
 have:=Dz (xs:=ys) (m:=1) fun e he=>(hy e he).2
 rw [Z2.sz];omega
def JI (ds:List Zf) (t c:Int):Prop:=(0<=c/\c<=9)/\(ZC ds c).length<=3*rk t/\∀u∈ZC ds c,QO u
instance (ds:List Zf) (t c:Int):Decidable (JI ds t c):=inferInstanceAs (Decidable (_/\_/\_))
theorem Nk {ds:List Zf} (h:GD ds):∀t∈[(1:Int),2,3,4],∀c∈Zw ds t,(t∈ZC ds c->∀c0,(Zw ds t)[0]? = some c0->JI ds t c0)/\(¬t∈ZC ds c->JI ds t c):=by
 intro t ht c hc
 have k1:=(by decide:∀ds∈Jh,∀t∈[(1:Int),2,3,4],∀c∈Zw ds t,(t∈ZC ds c->JI ds t (gI (Zw ds t) 0))/\(¬t∈ZC ds c->JI ds t c)) ds h t ht c hc
 refine ⟨fun q c0 h0=>?_,k1.2⟩
 have:=k1.1 q
 rwa [UK (i:=0) h0] at this
theorem In {ds:List Zf} (h:GD ds) {t c:Int} (hc:c∈Zw ds t):t∈[(1:Int),2,3,4]:=by
 obtain ⟨_,h2,_⟩:=h.cons_cases hc
 rcases h2 with rfl|rfl|rfl<;>simp
theorem Z5y {ds:List Zf} (h:GD ds) {t c c0:Int} (hc:c∈Zw ds t) (ht:t∈ZC ds c) (h0:(Zw ds t)[0]? = some c0):JI ds t c0:=(Nk h t (In h hc) c hc).1 ht c0 h0
theorem Z5x {ds:List Zf} (h:GD ds) {t c:Int} (hc:c∈Zw ds t) (ht:¬t∈ZC ds c):JI ds t c:=(Nk h t (In h hc) c hc).2 ht
theorem Z4z {ds:List Zf} (h:GD ds) {t:Int} (h0:(Zw ds t).length=0) (ht:0<t):rk t=1:=by
 rw [rk,Zc]
 rintro (q|q|q)
 ·omega
 ·rw [q,h.low.2.1] at h0;cases h0
 ·rw [q,h.low.2.2.2.1] at h0;cases h0
def KY (g:XU) (t i:Int):Prop:=0<=i/\∃f,g.funcs[i.toNat]? = some f/\0<f.params.length/\WV g.decls (gI f.params ((f.params.length:Int)-1)) f.result=t
theorem KY.lt {g:XU} {t i:Int} (h:KY g t i):0<=i/\i<g.funcs.length:=by
 obtain ⟨h1,f,h2,_⟩:=h
 have:=(XM.1 h2).1
 omega
theorem KY.mk {g:XU} {t x2:Int} {k:Nat} {f:Func} (hf:g.funcs[k]? = some f) (hl:0<f.params.length) (hx:f.params[f.params.length-1]? = some x2) (ha:WV g.decls x2 f.result=t):KY g t (k:Int):=by
 refine ⟨by omega,f,by simpa using hf,hl,?_⟩
 rw [UK (i:=(f.params.length:Int)-1) (by rw [show ((f.params.length:Int)-1).toNat=f.params.length-1 by omega];exact hx)]
 exact ha
theorem KY.low {g:XU} {t i u:Int} {f:Func} {j:Nat} (hg:GP g) (h:KY g t i) (ht:0<t) (hf:g.funcs[i.toNat]? = some f) (hj:j+1<f.params.length) (hu:f.params[j]? = some u):rk u=0:=by
 obtain ⟨_,f',h2,_,h4⟩:=h
 have e:f'=f:=JE (h2.symm.trans hf)
 subst e
 have h5:=(hg.sigs f' (Y7 hf)).clo hg.decls (by rw [h4];exact ht)
 refine MX (h5 u ?_)
 rw [List.dropLast_eq_take]
 exact Y7 (i:=j) (by rw [List.getElem?_take_of_lt om];exact hu)
end Go.Abs
section
namespace Go.Abs
theorem Kx (b:Nat):bS b=max 4 (10*b-10):=rfl
theorem Kw (b:Nat):bC b=max 40 (100*b-100):=rfl
theorem CH {L q b:Nat} (hL:L<=3) (hb:3<=b) (hq:L*q<=b-1):1+L*bS q<=bS b:=by
 rw [Kx,Kx]
 have:L=0∨L=1∨L=2∨L=3:=by omega
 rcases this with rfl|rfl|rfl|rfl<;>omega
theorem Z3c {L q b:Nat} (hL:L<=3) (hb:3<=b) (hq:L*q<=b-2):5+L*bS q<=bS b:=by
 rw [Kx,Kx]
 have:L=0∨L=1∨L=2∨L=3:=by omega
 rcases this with rfl|rfl|rfl|rfl<;>omega
theorem Z37 {b:Nat} (hb:3<=b):1+(bS (b / 2)+bS (b / 2))<=bS b:=by rw [Kx,Kx];omega
theorem OR {b:Nat} (hb:3<=b):5+bS (b-2)<=bS b:=by rw [Kx,Kx];omega
theorem Jr {L q b:Nat} (hL:L<=3) (hb:3<=b) (hq:L*q<=b-1):10+L*bC q<=bC b:=by
 rw [Kw,Kw]
 have:L=0∨L=1∨L=2∨L=3:=by omega
 rcases this with rfl|rfl|rfl|rfl<;>omega
theorem Z3b {L q b:Nat} (hL:L<=3) (hb:3<=b) (hq:L*q<=b-2):40+L*bC q<=bC b:=by
 rw [Kw,Kw]
 have:L=0∨L=1∨L=2∨L=3:=by omega
 rcases this with rfl|rfl|rfl|rfl<;>omega
theorem Z36 {b:Nat} (hb:3<=b):10+(bC (b / 2)+bC (b / 2))<=bC b:=by rw [Kw,Kw];omega
theorem OQ {b:Nat} (hb:3<=b):40+bC (b-2)<=bC b:=by rw [Kw,Kw];omega
theorem I1 (b:Nat):4<=bS b:=by rw [Kx];omega
theorem I0 (b:Nat):40<=bC b:=by rw [Kw];omega
theorem Tp (L b:Nat):L*(b / L)<=b:=Nat.mul_div_le b L
theorem M9 {k L C:Nat} (h:k<L):(k+1)*C=k*C+C/\(k+1)*C<=L*C:=⟨by rw [TB,Nat.one_mul],TS C h⟩
theorem BV {ds:List Zf} {d x:Int} {m k:Nat} (h:(Zw ds d)[k]? = some x):Tf ds 8 d m (1+k)=m+(ZC ds x).length:=by
 rw [Tf,Zc om,Zo rfl,Zc om,UK (i:=((1+k:Nat):Int)-1) (by rw [show (((1+k:Nat):Int)-1).toNat=k by omega];exact h)]
section
variable {g:XU} {m:Nat}
theorem GE.var {z:Int} {q:Nat} (hz:0<=z/\z<m) (hm:m<=2000) (hq:1<=q):GE g m q (.mk 12 z []):=⟨RG hz hm,by simpa [Z2.sz,Xn] using hq⟩
theorem GE.list {ys:List Z2} {L s:Nat} (h:∀e∈ys,GE g m s e) (hl:ys.length=L):Xn ys<=L*s:=by rw [<-hl];exact Dz fun e he=>(h e he).2
theorem GE.node {op num:Int} {ys:List Z2} {L s q:Nat} (ho:0<=op/\op<=11/\op≠7/\op≠8) (hc:op=9->0<=num/\num<g.funcs.length) (hn:-2000<=num/\num<=2000) (h:∀e∈ys,GE g m s e) (hl:ys.length=L) (hL:L<=3) (hq:1+L*s<=q):GE g m q (.mk op num ys):=by
 have:=GE.list h hl
 exact ⟨AN ho hc hn om fun e he=>(h e he).1,by rw [Z2.sz];omega⟩
theorem GE.if_ {num:Int} {ys:List Z2} {s q:Nat} (hn:-2000<=num/\num<=2000) (h:∀e∈ys,GE g m s e) (hl:ys.length=3) (hq:1+3*s<=q):GE g m q (.mk 7 num ys):=by
 have:=GE.list h hl
 exact ⟨Iz hn hl fun e he=>(h e he).1,by rw [Z2.sz];omega⟩
theorem GE.let_ {a b:Z2} {s q:Nat} (ha:GE g m s a) (hb:GE g (m+1) s b) (hq:1+(s+s)<=q):GE g m q (.mk 13 0 [a,b]):=by
 refine ⟨IA om ha.1 hb.1,?_⟩
 have h1:=ha.2
 have h2:=hb.2
 simp only [Z2.sz,Xn];omega
theorem GE.two {op num:Int} {a b:Z2} {s1 s2 q:Nat} (ho:0<=op/\op<=11/\op≠7/\op≠8/\op≠9) (hn:-2000<=num/\num<=2000) (ha:GE g m s1 a) (hb:GE g m s2 b) (hq:1+(s1+s2)<=q):GE g m q (.mk op num [a,b]):=by
 refine ⟨AN om (fun h=>by omega) hn (by simp) fun e he=>?_,?_⟩
 ·rcases YQ.1 he with rfl|he
  ·exact ha.1
  ·rw [W3.1 he];exact hb.1
 ·have h1:=ha.2
  have h2:=hb.2
  simp only [Z2.sz,Xn];omega
theorem GE.match_ {d:Int} {e:Z2} {ys:List Z2} {L s q:Nat} (hd:-2000<=d/\d<=2000) (he:GE g m 4 e) (hw:TY g.decls g.funcs.length (Tf g.decls 8 d m) 1 ys) (hs:∀e∈ys,e.sz<=s) (hl:ys.length=L) (hL:L=(Zw g.decls d).length) (h3:L<=3) (hq:5+L*s<=q):GE g m q (.mk 8 d (e::ys)):=by
 refine ⟨FP hd om om he.1 hw,?_⟩
 have h1:=Dz hs
 rw [hl] at h1
 have h2:=he.2
 rw [Z2.sz,Xn];omega
end
def NL (s:Nat) (left w:Int):Prop:=((s:Int)<=left/\w=left-s)∨(left<s/\w=-1)
end Go.Abs
namespace Go.Abs
theorem B1 {L b p pp M:Nat} (hL:L<=3) (hb:3<=b) (h:pp<=p+8) (hp:p+(bC b-1)<=M):pp+L*bC ((b-1) / L)<=M:=by
 have:=Jr hL hb (Tp L (b-1))
 omega
end Go.Abs
end
namespace Go.Abs
theorem RM (a b:Z2):Xn [a,b]=a.sz+b.sz:=by simp only [Xn];omega
theorem Dy (a b c:Z2):Xn [a,b,c]=a.sz+b.sz+c.sz:=by simp only [Xn];omega
theorem C7:bS 3=20/\bS 4=30/\bS 12=110/\bS 16=150/\bS 18=170/\bC 3=200/\bC 4=300/\bC 16=1500:=by decide
theorem Df {b:Nat} (h:b<=20):bS b<=190/\bC b<=1900/\(b<=2->bS b<=10):=by rw [Kx,Kw];omega
section
variable {g:XU} {m:Nat}
theorem SE.ofs {op num:Int} {ys:List Z2} {q:Nat} (ho:0<=op/\op<=11/\op≠7/\op≠8/\op≠9) (hn:-2000<=num/\num<=2000) (hl:ys.length<=4) (hy:∀e∈ys,∃s,SE g s e) (hq:1+Xn ys<=q):SE g q (.mk op num ys):=
 ⟨fun m=>AN om (fun h=>by omega) hn hl fun e he=>let ⟨_,h⟩:=hy e he;h.1 m,by rw [Z2.sz];exact hq⟩
theorem SE.nil {op num:Int} {q:Nat} (ho:0<=op/\op<=11/\op≠7/\op≠8/\op≠9) (hn:-2000<=num/\num<=2000) (hq:1<=q):SE g q (.mk op num []):=
 SE.ofs ho hn (by simp) (fun e he=>by cases he) (by simpa [Xn] using hq)
theorem SE.two {op num:Int} {a b:Z2} {s1 s2 q:Nat} (ho:0<=op/\op<=11/\op≠7/\op≠8/\op≠9) (hn:-2000<=num/\num<=2000) (ha:SE g s1 a) (hb:SE g s2 b) (hq:1+(s1+s2)<=q):SE g q (.mk op num [a,b]):=by
 refine SE.ofs ho hn (by simp) (fun e he=>?_) ?_
 ·rcases YQ.1 he with rfl|he
  ·exact ⟨_,ha⟩
  ·rw [W3.1 he];exact ⟨_,hb⟩
 ·have h1:=ha.2
  have h2:=hb.2
  rw [RM];omega
theorem SE.three {op num:Int} {a b c:Z2} {s1 s2 s3 q:Nat} (ho:0<=op/\op<=11/\op≠7/\op≠8/\op≠9) (hn:-2000<=num/\num<=2000) (ha:SE g s1 a) (hb:SE g s2 b) (hc:SE g s3 c) (hq:1+(s1+s2+s3)<=q):SE g q (.mk op num [a,b,c]):=by
 refine SE.ofs ho hn (by simp) (fun e he=>?_) ?_
 ·rcases YQ.1 he with rfl|he
  ·exact ⟨_,ha⟩
  ·rcases YQ.1 he with rfl|he
   ·exact ⟨_,hb⟩
   ·rw [W3.1 he];exact ⟨_,hc⟩
 ·have h1:=ha.2
  have h2:=hb.2
  have h3:=hc.2
  rw [Dy];omega
theorem GE.int {z:Int} {q:Nat} (hz:-2000<=z/\z<=2000) (hq:1<=q):GE g m q (.mk 0 z []):=(SE.int (g:=g) (q:=q) hz hq).ge (X6 _)
theorem GE.three {op num:Int} {a b c:Z2} {s1 s2 s3 q:Nat} (ho:0<=op/\op<=11/\op≠8/\op≠9) (hn:-2000<=num/\num<=2000) (ha:GE g m s1 a) (hb:GE g m s2 b) (hc:GE g m s3 c) (hq:1+(s1+s2+s3)<=q):GE g m q (.mk op num [a,b,c]):=by
 have hk:∀e∈[a,b,c],eW g.decls g.funcs.length m e:=fun e he=>by
  rcases YQ.1 he with rfl|he
  ·exact ha.1
  ·rcases YQ.1 he with rfl|he
   ·exact hb.1
   ·rw [W3.1 he];exact hc.1
 refine ⟨?_,?_⟩
 ·by_cases h7:op=7
  ·subst h7;exact Iz hn rfl hk
  ·exact AN om (fun h=>by omega) hn (by simp) hk
 ·have h1:=ha.2
  have h2:=hb.2
  have h3:=hc.2
  rw [Z2.sz,Dy];omega
theorem GE.one {op num:Int} {a:Z2} {s1 q:Nat} (ho:0<=op/\op<=11/\op≠7/\op≠8/\op≠9) (hn:-2000<=num/\num<=2000) (ha:GE g m s1 a) (hq:1+s1<=q):GE g m q (.mk op num [a]):=by
 refine ⟨AN om (fun h=>by omega) hn (by simp) fun e he=>?_,?_⟩
 ·rw [W3.1 he];exact ha.1
 ·have h1:=ha.2
  simp only [Z2.sz,Xn];omega
theorem GE.letS {a b:Z2} {s1 s2 q:Nat} (ha:GE g m s1 a) (hb:GE g (m+1) s2 b) (hq:1+(s1+s2)<=q):GE g m q (.mk 13 0 [a,b]):=by
 refine ⟨IA om ha.1 hb.1,?_⟩
 have h1:=ha.2
 have h2:=hb.2
 simp only [Z2.sz,Xn];omega
theorem GE.matchL (hg:GP g) {e a b:Z2} {s1 s2 s3 q:Nat} (he:GE g m s1 e) (ha:GE g m s2 a) (hb:GE g (m+2) s3 b) (hq:1+(s1+s2+s3)<=q):GE g m q (.mk 8 1 [e,a,b]):=by
 have hl:=hg.decls.low
 refine ⟨FP om (by simp) (by rw [hl.2.1];rfl) he.1 ⟨?_,?_,True.intro⟩,?_⟩
 ·rw [BV (k:=0) (x:=0) (by rw [hl.2.1];rfl),hl.2.2.2.2.1];exact ha.1
 ·rw [BV (k:=1) (x:=1) (by rw [hl.2.1];rfl),hl.2.2.2.2.2.1];exact hb.1
 ·have h1:=he.2
  have h2:=ha.2
  have h3:=hb.2
  rw [Z2.sz,Dy];omega
theorem GE.matchT (hg:GP g) {e a b:Z2} {s1 s2 s3 q:Nat} (he:GE g m s1 e) (ha:GE g m s2 a) (hb:GE g (m+3) s3 b) (hq:1+(s1+s2+s3)<=q):GE g m q (.mk 8 3 [e,a,b]):=by
 have hl:=hg.decls.low
 refine ⟨FP om (by simp) (by rw [hl.2.2.2.1];rfl) he.1 ⟨?_,?_,True.intro⟩,?_⟩
 ·rw [BV (k:=0) (x:=2) (by rw [hl.2.2.2.1];rfl),hl.2.2.2.2.2.2.1];exact ha.1
 ·rw [BV (k:=1) (x:=3) (by rw [hl.2.2.2.1];rfl),hl.2.2.2.2.2.2.2];exact hb.1
 ·have h1:=he.2
  have h2:=ha.2
  have h3:=hb.2
  rw [Z2.sz,Dy];omega
theorem Ff {α:Type} {p:α->Prop} {a:α} (h:p a):∀x∈[a],p x:=fun x hx=>by rw [W3.1 hx];exact h
end
structure F4 (g:XU):Prop where
 gp:GP g
 body:∀f∈g.funcs,eW g.decls g.funcs.length f.params.length f.body/\f.body.sz<=30
structure GL (ds:List Zf) (k j:Nat) (rq:List Func):Prop where
 len:rq.length=4
 sigs:∀f∈rq,UV f
 zero:∀f,rq[0]? = some f->f.params.length=0
 body:∀i f,j<=i->i<k->rq[i]? = some f->eW ds k f.params.length f.body/\f.body.sz<=30
theorem GL.gp {ds:List Zf} {k j:Nat} {rq:List Func} (h:GL ds k j rq) (hd:GD ds) (hk:1<=k/\k<=4):GP ⟨ds,rq.take k⟩:=
 ⟨hd,by show 1<=(rq.take k).length/\_;rw [Ww,h.len];omega,fun f hf=>h.sigs f (TR hf)⟩
theorem GL.len_take {ds:List Zf} {k j:Nat} {rq:List Func} (h:GL ds k j rq) (hk:k<=4):(rq.take k).length=k:=by rw [Ww,h.len];omega
theorem GL.set {ds:List Zf} {k j:Nat} {rq:List Func} {f:Func} {e:Z2} (h:GL ds k j rq) (hj:1<=j) (hf:rq[j-1]? = some f) (he:eW ds k f.params.length e/\e.sz<=30):GL ds k (j-1) (rq.set (j-1) ⟨f.params,f.result,e⟩):=by
 have hl:=(XM.1 hf).1
 refine ⟨by rw [UU];exact h.len,fun x hx=>?_,fun x hx=>?_,fun i x h1 h2 hx=>?_⟩
 ·rcases List.mem_or_eq_of_mem_set hx with hx|rfl
  ·exact h.sigs x hx
  ·exact h.sigs f (Y7 hf)
 ·rw [List.getElem?_set] at hx
  split at hx
  ·rename_i h0
   cases hx
   exact h.zero f (by rw [<-h0];exact hf)
  ·exact h.zero x hx
 ·rw [List.getElem?_set] at hx
  split at hx
  ·cases hx
   exact he
  ·exact h.body i x om h2 hx
theorem GL.done {ds:List Zf} {k:Nat} {rq:List Func} (h:GL ds k 0 rq) (hd:GD ds) (hk:1<=k/\k<=4):F4 ⟨ds,rq.take k⟩:=by
 refine ⟨h.gp hd hk,fun f hf=>?_⟩
 show eW ds (rq.take k).length _ _/\_
 rw [h.len_take hk.2]
 obtain ⟨i,hi⟩:=List.getElem?_of_mem hf
 have hi2:i<(rq.take k).length:=(XM.1 hi).1
 rw [h.len_take hk.2] at hi2
 rw [List.getElem?_take_of_lt hi2] at hi
 exact h.body i f om hi2 hi
theorem H9 {l:List Func} {f:Func} {k:Nat} (h:l[k]? = some f) (hl:l.all (fun f=>decide ((f.params,f.result)∈Ku))=true):UV f:=show (f.params,f.result)∈Ku from of_decide_eq_true (Kq.1 hl f (Y7 h))
theorem GL.start {ds:List Zf} {k:Nat} {e:Z2} {a b c:Func} (ha:UV a) (hb:UV b) (hc:UV c):GL ds k k [⟨[],0,e⟩,a,b,c]:=by
 refine ⟨rfl,fun f hf=>?_,fun f hf=>?_,fun i f h1 h2=>by omega⟩
 ·rcases YQ.1 hf with rfl|hf
  ·exact List.Mem.head _
  ·rcases YQ.1 hf with rfl|hf
   ·exact ha
   ·rcases YQ.1 hf with rfl|hf
    ·exact hb
    ·rw [W3.1 hf];exact hc
 ·cases hf;rfl
theorem Z3p {l:List Int} {k:Nat} {a b:Nat} (h:(k:Int)∈l) (hl:l.all (fun x=>decide ((a:Int)<=x/\x<=b))=true):a<=k/\k<=b:=by
 have:=of_decide_eq_true (Kq.1 hl _ h)
 omega
mutual
def Q5 (p:Int->Prop):Z4->Prop
 | .mk op _ _ _ kids=>p op/\Q4 p kids
def Q4 (p:Int->Prop):List Z6->Prop
 | []=>True
 | b::r=>WZ p b/\Q4 p r
def Te (p:Int->Prop):List Z4->Prop
 | []=>True
 | s::r=>Q5 p s/\Te p r
def WZ (p:Int->Prop):Z6->Prop
 | .mk steps _=>Te p steps
end
section
variable {p q:Int->Prop}
theorem CM (s:Z4):Q5 p s↔p s.op/\Q4 p s.kids:=by cases s;rw [Q5];rfl
theorem Ed (b:Z6):WZ p b↔Te p b.steps:=by cases b;rw [WZ];rfl
theorem BN:∀{xs:List Z6},Q4 p xs↔∀b∈xs,WZ p b
 | []=>by simp [Q4]
 | b::r=>by rw [Q4,BN];simp
theorem B5:∀{xs:List Z4},Te p xs↔∀b∈xs,Q5 p b
 | []=>by simp [Te]
 | b::r=>by rw [Te,B5];simp
theorem Ee {xs ys:List Z4}:Te p (xs++ys)↔Te p xs/\Te p ys:=by simp only [B5,Xr];exact ⟨fun h=>⟨fun b hb=>h b (.inl hb),fun b hb=>h b (.inr hb)⟩,fun h b hb=>hb.elim (h.1 b) (h.2 b)⟩
theorem Mn {xs:List Z6} {b:Z6} (h:Q4 p xs) (hb:WZ p b):Q4 p (xs++[b]):=BN.2 (Xp (BN.1 h) hb)
theorem Ef {xs:List Z4} {b:Z4} (h:Te p xs) (hb:Q5 p b):Te p (xs++[b]):=B5.2 (Xp (B5.1 h) hb)
end
def Wr (op:Int):Prop:=op<=11
def Vb (op:Int):Prop:=op<=15
end Go.Abs
section
namespace Go.Abs
structure LW (ds:List Zf) (nf q:Nat) (e:Z2) (ys:List Z4) (v:Int):Prop where
 fs:UJ ds nf q ys
 v:0<=v/\v<(q+YO ys:Nat)
 sz:Yp ys<=6*e.sz
 op:Te Wr ys
theorem LW.dn {ds:List Zf} {nf q:Nat} {e:Z2} {ys:List Z4} {v:Int} (h:LW ds nf q e ys v):YO ys<=6*e.sz/\ys.length<=6*e.sz:=by
 have h1:=AK ys
 have h2:=Kk ys
 have h3:=h.sz
 omega
structure LB (ds:List Zf) (nf q:Nat) (e:Z2) (b:Z6):Prop where
 fb:fB ds nf q b
 sz:b.sz<=1+6*e.sz
 op:WZ Wr b
section
variable {ds:List Zf} {nf q:Nat}
theorem C8:∀xs ys:List Z6,YR (xs++ys)=YR xs+YR ys
 | [],ys=>by simp [YR]
 | x::r,ys=>by rw [Qw,YR,YR,C8 r];omega
theorem LW.block {e:Z2} {ys:List Z4} {v:Int} (h:LW ds nf q e ys v):LB ds nf q e ⟨ys,v⟩:=
 ⟨by rw [fB];exact ⟨h.fs,h.v⟩,by rw [Z6.sz];have:=h.sz;omega,by rw [WZ];exact h.op⟩
theorem LW.var {e:Z2} {v:Int} (hv:0<=v/\v<q):LW ds nf q e [] v:=⟨True.intro,by simpa [YO] using hv,by simp [Yp],True.intro⟩
theorem LW.let_ {e a b:Z2} {ys zs:List Z4} {v1 v2:Int} (ha:LW ds nf q a ys v1) (hb:LW ds nf (q+YO ys) b zs v2) (he:a.sz+b.sz<e.sz):LW ds nf q e (ys++zs) v2:=by
 refine ⟨Bw.2 ⟨ha.fs,hb.fs⟩,by rw [K9,<-JD];exact hb.v,?_,Ee.2 ⟨ha.op,hb.op⟩⟩
 have h1:=ha.sz
 have h2:=hb.sz
 rw [US];omega
theorem Ce {ys:List Z4} {s:Z4} (h:Yf s.op=false):YO (ys++[s])=YO ys+1:=by
 rw [K9]
 simp [YO,h]
theorem LW.node {e:Z2} {ys:List Z4} {as1:List Int} (ho:0<=e.op/\e.op<=11/\e.op≠7/\e.op≠8) (hc:e.op=9->0<=e.num/\e.num<nf) (hn:-2000<=e.num/\e.num<=2000) (hf:UJ ds nf q ys) (ha:∀a∈as1,0<=a/\a<(q+YO ys:Nat)) (hl:as1.length<=4) (hs:Yp ys<=6*Xn e.kids) (hop:Te Wr ys) :
  LW ds nf q e (ys++[⟨e.op,e.num,0,as1,[]⟩]) ((q+YO ys:Nat):Int):=by
 have hcb:Yf e.op=false:=by simp [Yf];omega
 refine ⟨DB hf ?_,?_,?_,Ef hop (by rw [Q5];exact ⟨by show e.op<=11;omega,True.intro⟩)⟩
 ·rw [fS]
  exact ⟨.inl ⟨by omega,by omega⟩,ha,fun h=>by omega,fun h=>by omega,fun h=>by omega,fun h=>by omega,hc,hn,by omega,hl,fun _=>rfl,True.intro⟩
 ·rw [Ce (show Yf (Z4.mk e.op e.num 0 as1 []).op=false from hcb)];omega
 ·rw [US,e.sz_eq]
  simp only [Yp,Z4.sz,YR]
  omega
theorem LW.branch {e:Z2} {ys:List Z4} {v:Int} {bs:List Z6} {s0 sr:Nat} (ho:e.op=7∨e.op=8) (h7:e.op=7->bs.length=2) (h8:e.op=8->bs.length=(Zw ds e.num).length) (hn:-2000<=e.num/\e.num<=2000) (hf:UJ ds nf q ys) (hv:0<=v/\v<(q+YO ys:Nat))
  (hb:T9 ds nf (UA ds e.op e.num (q+YO ys)) 0 bs) (hl:bs.length<=3) (h0:Yp ys<=6*s0) (h1:YR bs<=bs.length+6*sr) (hs:s0+sr<=Xn e.kids) (hop:Te Wr ys) (hob:Q4 Wr bs):LW ds nf q e (ys++[⟨e.op,e.num,0,[v],bs⟩]) ((q+YO ys:Nat):Int):=by
 have hcb:Yf e.op=false:=by simp [Yf];omega
 refine ⟨DB hf ?_,?_,?_,Ef hop (by rw [Q5];exact ⟨by show e.op<=11;omega,hob⟩)⟩
 ·rw [fS]
  exact ⟨.inl ⟨by omega,by omega⟩,fun a ha=>by rw [W3.1 ha];exact hv,fun h=>by omega,h7,h8,fun _=>⟨v,rfl⟩,fun h=>by omega,hn,by omega,by simp,fun h=>by omega,hb⟩
 ·rw [Ce (show Yf (Z4.mk e.op e.num 0 [v] bs).op=false from hcb)];omega
 ·rw [US,e.sz_eq]
  simp only [Yp,Z4.sz,YS,Xm]
  omega
theorem Ni {ds:List Zf} {op num:Int} {m k:Nat} (h:op=13):Tf ds op num m k=m+k:=Zo h
theorem Z5v {ds:List Zf} {op num:Int} {m:Nat} (h:op≠13):Tf ds op num m 0=m:=by simp [Tf,h]
theorem Nj {ds:List Zf} {op num:Int} {m k:Nat} (h:op≠13/\op≠8):Tf ds op num m k=m:=by simp [Tf,h.1,h.2]
theorem Z5w {ds:List Zf} {op num x:Int} {m k j:Nat} (h:op=8) (hk:k=j+1) (hx:(Zw ds num)[j]? = some x):Tf ds op num m k=m+(ZC ds x).length:=by
 subst h;subst hk;rw [Nat.add_comm j 1];exact BV hx
theorem H6 {ds:List Zf} {op num x:Int} {m j:Nat} (h:op=8) (hx:(Zw ds num)[j]? = some x):UA ds op num m j=m+(ZC ds x).length:=by
 rw [UA,Zo h,UK (i:=(j:Int)) (by simpa using hx)]
theorem H7 {ds:List Zf} {op num:Int} {m j:Nat} (h:op≠8):UA ds op num m j=m:=Zc h
theorem JY {xs:List Z2} {k:Nat} {e:Z2} (h:xs[k]? = some e):Xn (xs.take (k+1))=Xn (xs.take k)+e.sz:=by rw [WM h,Ch,Xn,Xn];rfl
theorem Jd {xs:List Z2} (k:Nat):Xn (xs.take k)<=Xn xs:=by
 have h:=Yx Xn (UF k xs)
 rw [Ch] at h;omega
theorem IG {xs:List Z2} {a b:Z2} (ha:xs[0]? = some a) (hb:xs[1]? = some b):a.sz+b.sz<=Xn xs:=by
 have h1:Xn (xs.take 1)=Xn (xs.take 0)+a.sz:=JY ha
 have h2:Xn (xs.take 2)=Xn (xs.take 1)+b.sz:=JY hb
 have h3:=Jd (xs:=xs) 2
 omega
theorem D3 {us:List Int} {v:Int} {d:Nat} (hu:∀a∈us,0<=a/\a<(q:Int)) (hv:0<=v/\v<(q+d:Nat)):∀a∈us++[v],0<=a/\a<((q+d:Nat):Int):=
 Xp (fun a ha=>by have:=hu a ha;omega) hv
theorem EL {us:List Int} {d:Nat} (hu:∀a∈us,0<=a/\a<(q:Int)):∀a∈us,0<=a/\a<((q+d:Nat):Int):=fun a ha=>by have:=hu a ha;omega
theorem Z8r {us ns:List Int} {d mf:Nat} (hu:∀a∈us,0<=a/\a<(q:Int)) (hn:∀i∈ns,((q+d:Nat):Int)<=i/\i<((q+d:Nat):Int)+mf):∀a∈us++ns,0<=a/\a<((q+d+mf:Nat):Int):=fun a ha=>by
 rcases Xr.1 ha with h|h
 ·have:=hu a h;omega
 ·have:=hn a h;omega
theorem Di:∀bs:List Z6,bs.length<=YR bs
 | []=>X6 _
 | b::r=>by have:=Di r;have:=b.sz_pos;rw [YR,YS];omega
end
end Go.Abs
namespace Go.Abs
structure RF (ds:List Zf) (nf q:Nat) (p:Int->Prop) (r:Yb):Prop where
 sig:(r.params,r.result)∈Ku
 lent:r.lent.length<=3/\∀i∈r.lent,0<=i/\i<r.params.length
 body:fB ds nf r.params.length r.body/\r.body.sz<=q
 op:WZ p r.body
structure FO (n:Zx) (q:Nat) (p:Int->Prop):Prop where
 fn:FN n q
 op:∀r∈n.routines,WZ p r.body
theorem FO.rf {n:Zx} {q:Nat} {p:Int->Prop} (h:FO n q p) {r:Yb} (hr:r∈n.routines):RF n.decls n.routines.length q p r:=⟨h.fn.sigs r hr,h.fn.lent r hr,h.fn.body r hr,h.op r hr⟩
theorem FO.all {n:Zx} {q:Nat} {p:Int->Prop} (hd:GD n.decls) (hl:1<=n.routines.length/\n.routines.length<=4) (h:∀r∈n.routines,RF n.decls n.routines.length q p r):FO n q p:=
 ⟨⟨hd,hl,fun r hr=>(h r hr).sig,fun r hr=>(h r hr).lent,fun r hr=>(h r hr).body⟩,fun r hr=>(h r hr).op⟩
structure RN (ds:List Zf) (nf:Nat) (r:Yb):Prop where
 sig:(r.params,r.result)∈Ku
 lent:r.lent=[]
 body:fB ds nf r.params.length r.body/\r.body.sz<=181
 op:WZ Wr r.body
theorem RN.all {n:Zx} {q:Nat} (hd:GD n.decls) (hl:1<=n.routines.length/\n.routines.length<=4) (h:∀r∈n.routines,RN n.decls n.routines.length r) (hq:181<=q):FO n q Wr:=
 FO.all hd hl fun r hr=>⟨(h r hr).sig,by rw [(h r hr).lent];exact ⟨by simp,fun i hi=>by cases hi⟩,⟨(h r hr).body.1,Vh (h r hr).body.2 hq⟩,(h r hr).op⟩
end Go.Abs
namespace Go.Abs
theorem RN.of {ds:List Zf} {nf:Nat} {ps:List Int} {rt:Int} {b:Z6} {e:Z2} (hs:(ps,rt)∈Ku) (h:LB ds nf ps.length e b) (he:e.sz<=30):RN ds nf ⟨ps,[],rt,Z6.mk b.steps b.result⟩:=by
 have e1:Z6.mk b.steps b.result=b:=by cases b;rfl
 rw [e1]
 exact ⟨hs,rfl,⟨h.fb,by have:=h.sz;show b.sz<=181;omega⟩,h.op⟩
end Go.Abs
end
namespace Go.Abs
theorem Hn:∀{xs:List Z4} {s:Z4},s∈xs->s.sz<=Yp xs
 | [],s,h=>by cases h
 | x::r,s,h=>by
  rw [Yp]
  rcases YQ.1 h with rfl|h
  ·omega
  ·have:=Hn h;omega
theorem Fj:∀{xs:List Z6} {b:Z6},b∈xs->b.sz<=YR xs
 | [],b,h=>by cases h
 | x::r,b,h=>by
  rw [YR]
  rcases YQ.1 h with rfl|h
  ·omega
  ·have:=Fj h;omega
structure LC (n:Zx) (k:Nat) (xs:List (List Int)):Prop where
 len:xs.length=k
 ok:∀(i:Nat) (l:List Int),xs[i]? = some l->l.length<=3/\∀r,n.routines[i]? = some r->∀v∈l,0<=v/\v<(r.params.length:Int)
theorem LC.nil {n:Zx}:LC n 0 []:=⟨rfl,fun i l h=>by simp at h⟩
theorem LC.snoc {n:Zx} {k:Nat} {xs:List (List Int)} {l:List Int} (h:LC n k xs) (hl:l.length<=3) (hv:∀r,n.routines[k]? = some r->∀v∈l,0<=v/\v<(r.params.length:Int)):LC n (k+1) (xs++[l]):=by
 refine ⟨by rw [Yz,h.len];rfl,fun i l' hi=>?_⟩
 by_cases hk:i<xs.length
 ·rw [D5 hk] at hi
  exact h.ok i l' hi
 ·rw [EU om] at hi
  have h0:i-xs.length=0:=by
   cases e:i-xs.length with
   | zero=>rfl
   | succ q=>rw [e] at hi;simp at hi
  rw [h0] at hi
  cases hi
  have e:i=k:=by have:=h.len;omega
  subst e
  exact ⟨hl,hv⟩
def V5:List Int->Int->List Int
 | [],y=>[y]
 | x::r,y=>if x>y then y::x::r else if x=y then x::r else x::V5 r y
def Tv (d:Bool) (xs:List Int) (y:Int):List Int:=if d=true then xs else V5 xs y
theorem DZ {xs:List Int} {y:Int}:Tv true xs y=xs:=rfl
theorem DY {xs:List Int} {y:Int}:Tv false xs y=V5 xs y:=rfl
theorem LE {xs acc r:List Int} {y x:Int} {k:Nat} {d:Bool} (hx:xs[k]? = some x) (hd:d=true) (h:acc++Tv d (xs.drop k) y=r):(acc++[x])++Tv d (xs.drop (k+1)) y=r:=by
 subst hd
 rw [DZ,Y8 hx] at h
 rw [DZ,<-h];simp
theorem Z22 {xs acc r:List Int} {y x:Int} {k:Nat} {d:Bool} (hx:xs[k]? = some x) (hd:¬d=true) (hl:¬x>=y) (h:acc++Tv d (xs.drop k) y=r):(acc++[x])++Tv d (xs.drop (k+1)) y=r:=by
 have hd:=Ty.2 hd
 subst hd
 rw [DY,Y8 hx,V5,Zc om,Zc om] at h
 rw [DY,<-h];simp
theorem Z23 {xs acc r:List Int} {y x:Int} {k:Nat} {d:Bool} (hx:xs[k]? = some x) (hd:¬d=true) (hl:x>y) (h:acc++Tv d (xs.drop k) y=r):((acc++[y])++[x])++Tv true (xs.drop (k+1)) y=r:=by
 have hd:=Ty.2 hd
 subst hd
 rw [DY,Y8 hx,V5,Zo hl] at h
 rw [DZ,<-h];simp
theorem Z24 {xs acc r:List Int} {y x:Int} {k:Nat} {d:Bool} (hx:xs[k]? = some x) (hd:¬d=true) (hl:x=y) (h:acc++Tv d (xs.drop k) y=r):(acc++[x])++Tv true (xs.drop (k+1)) y=r:=by
 have hd:=Ty.2 hd
 subst hd
 rw [DY,Y8 hx,V5,Zc om,Zo hl] at h
 rw [DZ,<-h];simp
theorem Z21 {xs acc acc2 r:List Int} {y x:Int} {k:Nat} {d d2:Bool} (hx:xs[k]? = some x) (h:acc++Tv d (xs.drop k) y=r)
  (hc:(acc2=acc/\d2=d/\(d=true∨¬x>=y))∨(acc2=acc++[y]/\d2=true/\¬d=true/\x>y)∨(acc2=acc/\d2=true/\¬d=true/\x=y)):(acc2++[x])++Tv d2 (xs.drop (k+1)) y=r:=by
 rcases hc with ⟨rfl,rfl,h3⟩|⟨rfl,rfl,h3,h4⟩|⟨rfl,rfl,h3,h4⟩
 ·rcases h3 with h3|h3
  ·exact LE hx h3 h
  ·by_cases q:d2=true
   ·exact LE hx q h
   ·exact Z22 hx q h3 h
 ·exact Z23 hx h3 h4 h
 ·exact Z24 hx h3 h4 h
theorem Z20 {xs acc r:List Int} {y:Int} {k:Nat} {d:Bool} (hk:xs.length<=k) (h:acc++Tv d (xs.drop k) y=r):(if d=true then acc else acc++[y])=r:=by
 rw [Xb hk] at h
 by_cases q:d=true
 ·rw [Tv,Zo q,As] at h;rw [Zo q];exact h
 ·rw [Tv,Zc q,V5] at h;rw [Zc q];exact h
theorem BE:∀(xs:List Int) (y:Int),(V5 xs y).length<=xs.length+1
 | [],y=>X6 _
 | x::r,y=>by
  have:=BE r y
  rw [V5]
  split
  ·simp
  ·split
   ·simp
   ·simp only [YS];omega
theorem Cy:∀{xs:List Int} {y z:Int},z∈V5 xs y↔z∈xs∨z=y
 | [],y,z=>by simp [V5]
 | x::r,y,z=>by
  rw [V5]
  split
  ·simp only [YQ];exact ⟨fun h=>h.elim .inr .inl,fun h=>h.elim .inr .inl⟩
  ·split
   ·rename_i h;subst h;simp only [YQ];exact ⟨fun h=>.inl h,fun h=>h.elim id .inl⟩
   ·simp only [YQ,Cy (xs:=r)];exact ⟨fun h=>by rcases h with h|h|h<;>simp [h],fun h=>by rcases h with (h|h)|h<;>simp [h]⟩
def Az (xs:List Int):Prop:=xs.Pairwise (·<·)
theorem LD:∀{xs:List Int} {y:Int},Az xs->Az (V5 xs y)
 | [],y,_=>by simp [V5,Az]
 | x::r,y,h=>by
  obtain ⟨h1,h2⟩:=WP.1 h
  rw [V5]
  split
  ·rename_i q
   refine WP.2 ⟨fun z hz=>?_,h⟩
   rcases YQ.1 hz with rfl|hz
   ·omega
   ·have:=h1 z hz;omega
  ·split
   ·exact h
   ·refine WP.2 ⟨fun z hz=>?_,LD h2⟩
    rcases Cy.1 hz with hz|rfl
    ·exact h1 z hz
    ·omega
def UR:List Int->Int->List Int
 | [],_=>[]
 | x::r,y=>if x=y then UR r y else x::UR r y
theorem CO:∀(xs:List Int) (y:Int),(UR xs y).length<=xs.length
 | [],y=>X6 _
 | x::r,y=>by
  have:=CO r y
  rw [UR]
  split
  ·rw [YS];omega
  ·rw [YS,YS];omega
theorem BO:∀{xs:List Int} {y z:Int},z∈UR xs y->z∈xs
 | [],y,z,h=>by rw [UR] at h;exact h
 | x::r,y,z,h=>by
  rw [UR] at h
  split at h
  ·exact XG _ (BO h)
  ·rcases YQ.1 h with rfl|h
   ·exact Xh ..
   ·exact XG _ (BO h)
theorem Z4b {xs acc r:List Int} {y x:Int} {k:Nat} (hx:xs[k]? = some x) (h:acc++UR (xs.drop k) y=r):(if x≠y then acc++[x] else acc)++UR (xs.drop (k+1)) y=r:=by
 rw [Y8 hx,UR] at h
 by_cases q:x=y
 ·rw [Zo q] at h;rw [Zc (fun z=>z q)];exact h
 ·rw [Zc q] at h;rw [Zo q,<-h];simp
theorem Z4a {xs acc r:List Int} {y:Int} {k:Nat} (hk:xs.length<=k) (h:acc++UR (xs.drop k) y=r):acc=r:=by
 rw [Xb hk,UR,As] at h;exact h
def VB (n:Int) (xs:List Int) (a:Int):List Int:=if 0<=a/\a<n then V5 xs a else xs
def TO (n:Int):List Int->List Int->List Int
 | [],xs=>xs
 | a::r,xs=>TO n r (VB n xs a)
mutual
def K0 (n:Int):Z4->List Int->List Int
 | .mk op _ _ args kids,xs=>if Yf op=true then xs else QZ n kids (TO n args xs)
def QZ (n:Int):List Z6->List Int->List Int
 | [],xs=>xs
 | b::r,xs=>QZ n r (XZ n b xs)
def VZ (n:Int):List Z4->List Int->List Int
 | [],xs=>xs
 | s::r,xs=>VZ n r (K0 n s xs)
def XZ (n:Int):Z6->List Int->List Int
 | .mk steps result,xs=>VB n (VZ n steps xs) result
end
section
variable {n:Int}
theorem Oe (s:Z4) (xs:List Int):K0 n s xs=if Yf s.op=true then xs else QZ n s.kids (TO n s.args xs):=by cases s;rw [K0];rfl
theorem Oc (b:Z6) (xs:List Int):XZ n b xs=VB n (VZ n b.steps xs) b.result:=by cases b;rw [XZ];rfl
theorem EK (xs:List Int) (a:Int):(VB n xs a).length<=xs.length+1:=by
 rw [VB];split
 ·exact BE xs a
 ·omega
theorem Ob:∀(as1 xs:List Int),(TO n as1 xs).length<=xs.length+as1.length
 | [],xs=>X6 _
 | a::r,xs=>by
  have h1:=Ob r (VB n xs a)
  have h2:=EK (n:=n) xs a
  rw [TO,YS];omega
mutual
theorem Of:∀(s:Z4) (xs:List Int),(K0 n s xs).length<=xs.length+s.sz
 | .mk op num into args kids,xs=>by
  have h1:=Od kids (TO n args xs)
  have h2:=Ob (n:=n) args xs
  rw [K0,Z4.sz];split<;>omega
theorem Od:∀(bs:List Z6) (xs:List Int),(QZ n bs xs).length<=xs.length+YR bs
 | [],xs=>X6 _
 | b::r,xs=>by
  have h1:=Od r (XZ n b xs)
  have h2:=EJ b xs
  rw [QZ,YR];omega
theorem Hz:∀(bs:List Z4) (xs:List Int),(VZ n bs xs).length<=xs.length+Yp bs
 | [],xs=>X6 _
 | b::r,xs=>by
  have h1:=Hz r (K0 n b xs)
  have h2:=Of b xs
  rw [VZ,Yp];omega
theorem EJ:∀(b:Z6) (xs:List Int),(XZ n b xs).length<=xs.length+b.sz
 | .mk steps result,xs=>by
  have h1:=Hz steps xs
  have h2:=EK (n:=n) (VZ n steps xs) result
  rw [XZ,Z6.sz];omega
end
theorem Z8m {as1 ys r:List Int} {k:Nat} {a:Int} (h:as1[k]? = some a) (ha:TO n (as1.drop k) ys=r):TO n (as1.drop (k+1)) (VB n ys a)=r:=by
 rw [Y8 h,TO] at ha;exact ha
theorem Z8o {bs:List Z6} {ys r:List Int} {k:Nat} {b:Z6} (h:bs[k]? = some b) (ha:QZ n (bs.drop k) ys=r):QZ n (bs.drop (k+1)) (XZ n b ys)=r:=by
 rw [Y8 h,QZ] at ha;exact ha
theorem Z8q {bs:List Z4} {ys r:List Int} {k:Nat} {b:Z4} (h:bs[k]? = some b) (ha:VZ n (bs.drop k) ys=r):VZ n (bs.drop (k+1)) (K0 n b ys)=r:=by
 rw [Y8 h,VZ] at ha;exact ha
theorem Z8l {as1 ys r:List Int} {k:Nat} (h:as1.length<=k) (ha:TO n (as1.drop k) ys=r):ys=r:=by rw [Xb h,TO] at ha;exact ha
theorem Z8n {bs:List Z6} {ys r:List Int} {k:Nat} (h:bs.length<=k) (ha:QZ n (bs.drop k) ys=r):ys=r:=by rw [Xb h,QZ] at ha;exact ha
theorem Z8p {bs:List Z4} {ys r:List Int} {k:Nat} (h:bs.length<=k) (ha:VZ n (bs.drop k) ys=r):ys=r:=by rw [Xb h,VZ] at ha;exact ha
end
theorem NR {xs:List Z4} {k:Nat} {s:Z4} (h:xs[k]? = some s):Yp (xs.drop k)=s.sz+Yp (xs.drop (k+1)):=by rw [Y8 h,Yp]
theorem NS (xs:List Z4) (k:Nat):Yp (xs.drop k)<=Yp xs:=by
 have h:=Yx Yp (UF k xs)
 rw [US] at h;omega
theorem Dj {xs:List Z6} {k:Nat} {b:Z6} (h:xs[k]? = some b):YR (xs.take (k+1))=YR (xs.take k)+b.sz:=by rw [WM h,C8,YR,YR];rfl
structure CL (ds:List Zf) (nf m:Nat) (xs:List Z4) (d z:Nat):Prop where
 fs:UJ ds nf m xs
 dn:YO xs=d
 op:Te Vb xs
 sz:Yp xs<=z
section
variable {ds:List Zf} {nf m d z:Nat} {xs:List Z4}
theorem CL.nil:CL ds nf m [] 0 0:=⟨True.intro,rfl,True.intro,X6 _⟩
theorem CL.len (h:CL ds nf m xs d z):xs.length<=z:=Vh (Kk xs) h.sz
theorem CL.le (h:CL ds nf m xs d z) {z2:Nat} (hz:z<=z2):CL ds nf m xs d z2:=⟨h.fs,h.dn,h.op,Vh h.sz hz⟩
theorem RP {op v:Int} (ho:op=14∨op=15) (hv:0<=v/\v<(m:Int)):fS ds nf m (Zj op v):=by
 rw [Zj,fS]
 exact ⟨.inr om,fun a ha=>by rw [W3.1 ha];exact hv,fun _=>⟨rfl,rfl,rfl,v,rfl⟩,fun h=>by omega,fun h=>by omega,fun h=>by omega,fun h=>by omega,by omega,by omega,by simp,fun _=>rfl,True.intro⟩
theorem Io {op:Int} (ho:op=14∨op=15):Yf op=true:=by simp [Yf];omega
theorem CL.cnt (h:CL ds nf m xs d z) {op v:Int} (ho:op=14∨op=15) (hv:0<=v/\v<((m+d:Nat):Int)):CL ds nf m (xs++[Zj op v]) d (z+2):=by
 have hc:Yf (Zj op v).op=true:=Io ho
 refine ⟨DB h.fs (by rw [h.dn];exact RP ho hv),?_,Ef h.op ?_,?_⟩
 ·rw [K9,h.dn,YO,Zo hc];rfl
 ·rw [CM];exact ⟨by show op<=15;omega,True.intro⟩
 ·have:=h.sz
  have e:(Zj op v).sz=2:=rfl
  rw [US,Yp,e,Yp];omega
theorem CL.cnts {op:Int} (ho:op=14∨op=15):∀{vs:List Int} {xs:List Z4} {z:Nat},CL ds nf m xs d z->(∀v∈vs,0<=v/\v<((m+d:Nat):Int))->CL ds nf m (xs++vs.map (Zj op)) d (z+2*vs.length)
 | [],xs,z,h,_=>by simpa using h
 | v::r,xs,z,h,hv=>by
  have h1:=CL.cnts ho (vs:=r) (h.cnt ho (hv v (Xh ..))) fun x hx=>hv x (XG _ hx)
  rw [Un,show xs++Zj op v::r.map (Zj op)=xs++[Zj op v]++r.map (Zj op) by simp]
  exact h1.le (by rw [YS];omega)
theorem CL.one (h:CL ds nf m xs d z) {s:Z4} (hs:fS ds nf (m+d) s) (hc:Yf s.op=false) (ho:Q5 Vb s):CL ds nf m (xs++[s]) (d+1) (z+s.sz):=by
 refine ⟨DB h.fs (by rw [h.dn];exact hs),by rw [Ce hc,h.dn],Ef h.op ho,?_⟩
 have:=h.sz
 rw [US,Yp,Yp];omega
theorem CL.app (h:CL ds nf m xs d z) {ys:List Z4} {d2 z2:Nat} (h2:CL ds nf (m+d) ys d2 z2):CL ds nf m (xs++ys) (d+d2) (z+z2):=by
 refine ⟨Bw.2 ⟨h.fs,by rw [h.dn];exact h2.fs⟩,by rw [K9,h.dn,h2.dn],Ee.2 ⟨h.op,h2.op⟩,?_⟩
 have:=h.sz
 have:=h2.sz
 rw [US];omega
end
structure KB (ds:List Zf) (nf m:Nat) (b:Z6) (z:Nat):Prop where
 fb:fB ds nf m b
 op:WZ Vb b
 sz:b.sz<=z
section
variable {ds:List Zf} {nf m d z:Nat} {xs:List Z4}
theorem CL.block (h:CL ds nf m xs d z) {r:Int} (hr:0<=r/\r<((m+d:Nat):Int)):KB ds nf m ⟨xs,r⟩ (1+z):=by
 refine ⟨by rw [fB,h.dn];exact ⟨h.fs,hr⟩,by rw [WZ];exact h.op,?_⟩
 have:=h.sz
 rw [Z6.sz];omega
theorem KB.le {b:Z6} (h:KB ds nf m b z) {z2:Nat} (hz:z<=z2):KB ds nf m b z2:=⟨h.fb,h.op,Vh h.sz hz⟩
theorem KB.cl {b:Z6} (h:KB ds nf m b z):CL ds nf m b.steps (YO b.steps) (z-1)/\0<=b.result/\b.result<((m+YO b.steps:Nat):Int):=by
 obtain ⟨h1,h2⟩:=(Cj b).1 h.fb
 refine ⟨⟨h1,rfl,(Ed b).1 h.op,?_⟩,h2⟩
 have:=h.sz
 have:=b.sz_eq
 omega
theorem KB.put {b:Z6} (h:KB ds nf m b z) {as1 bs:List Int} (ha:∀v∈as1,0<=v/\v<(m:Int)) (hb:∀v∈bs,0<=v/\v<(m:Int)):KB ds nf m ⟨as1.map (Zj 14)++bs.map (Zj 15)++b.steps,b.result⟩ (z+2*as1.length+2*bs.length):=by
 obtain ⟨h1,h2⟩:=h.cl
 have q1:CL ds nf m ([]++as1.map (Zj 14)) 0 (0+2*as1.length):=CL.nil.cnts (.inl rfl) ha
 have q2:=(q1.cnts (op:=15) (.inr rfl) hb).app h1
 have:=h.sz
 have:=b.sz_eq
 rw [Av,WQ] at q2
 exact (q2.block h2).le om
end
structure KK (ds:List Zf) (nf:Nat) (sc:Nat->Nat) (ks:List Z6) (z:Nat):Prop where
 fb:T9 ds nf sc 0 ks
 op:Q4 Vb ks
 sz:YR ks<=z
section
variable {ds:List Zf} {nf m z:Nat} {sc:Nat->Nat}
theorem KK.nil:KK ds nf sc [] 0:=⟨True.intro,True.intro,X6 _⟩
theorem KK.snoc {ks:List Z6} {b:Z6} {j z2:Nat} (h:KK ds nf sc ks z) (hj:ks.length=j) (hb:KB ds nf (sc j) b z2):KK ds nf sc (ks++[b]) (z+z2):=by
 refine ⟨II h.fb (by rw [hj];exact hb.fb),Mn h.op hb.op,?_⟩
 have:=h.sz
 have:=hb.sz
 rw [C8];simp only [YR];omega
theorem KK.le {ks:List Z6} (h:KK ds nf sc ks z) {z2:Nat} (hz:z<=z2):KK ds nf sc ks z2:=⟨h.fb,h.op,Vh h.sz hz⟩
theorem IJ {s:Z4} {ks:List Z6} {into:Int} (h:FS ds nf m s) (h11:s.op<=11) (hl:ks.length=s.kids.length) (hi:0<=into/\into<=m) (hk:KK ds nf (UA ds s.op s.num m) ks z):fS ds nf m ⟨s.op,s.num,into,s.args,ks⟩/\Q5 Vb ⟨s.op,s.num,into,s.args,ks⟩/\(Z4.mk s.op s.num into s.args ks).sz<=5+z:=by
 refine ⟨?_,?_,?_⟩
 ·rw [fS]
  refine ⟨h.op,h.args,fun q=>by omega,fun q=>by rw [hl];exact h.k7 q,fun q=>by rw [hl];exact h.k8 q,h.one,h.call,h.num,hi,h.alen,fun q=>?_,hk.fb⟩
  have:=h.kn q
  rw [this] at hl
  exact List.eq_nil_of_length_eq_zero hl
 ·rw [Q5];exact ⟨by show s.op<=15;omega,hk.op⟩
 ·have:=h.alen
  have:=hk.sz
  rw [Z4.sz];omega
end
structure KT (ds:List Zf) (nf m:Nat) (st:Z4) (z:Nat):Prop where
 fs:fS ds nf m st
 cb:Yf st.op=false
 op:Q5 Vb st
 sz:st.sz<=z
theorem KT.of {ds:List Zf} {nf m z:Nat} {s:Z4} {ks:List Z6} {into:Int} (h:FS ds nf m s) (h11:s.op<=11) (hl:ks.length=s.kids.length) (hi:0<=into/\into<=m) (hk:KK ds nf (UA ds s.op s.num m) ks z):KT ds nf m ⟨s.op,s.num,into,s.args,ks⟩ (5+z):=by
 obtain ⟨h1,h2,h3⟩:=IJ h h11 hl hi hk
 exact ⟨h1,by show Yf s.op=false;simp [Yf];omega,h2,h3⟩
theorem CL.kt {ds:List Zf} {nf m d z z2:Nat} {xs:List Z4} {st:Z4} (h:CL ds nf m xs d z) (hs:KT ds nf (m+d) st z2):CL ds nf m (xs++[st]) (d+1) (z+z2):=(h.one hs.fs hs.cb hs.op).le (by have:=hs.sz;omega)
theorem FS.few {ds:List Zf} {nf m:Nat} {s:Z4} (h:FS ds nf m s) (hd:Wn ds):s.kids.length<=3:=by
 by_cases h7:s.op=7
 ·have:=h.k7 h7;omega
 ·by_cases h8:s.op=8
  ·have:=h.k8 h8
   have:=GQ hd s.num
   omega
  ·rw [h.kn ⟨h7,h8⟩];simp
theorem RF.lend {ds:List Zf} {nf q:Nat} {p:Int->Prop} {r:Yb} {l:List Int} (h:RF ds nf q p r) (h1:l.length<=3) (h2:∀v∈l,0<=v/\v<(r.params.length:Int)):RF ds nf q p ⟨r.params,l,r.result,r.body⟩:=⟨h.sig,⟨h1,h2⟩,h.body,h.op⟩
theorem RF.with {ds:List Zf} {nf q q2:Nat} {p p2:Int->Prop} {r:Yb} {b:Z6} (h:RF ds nf q p r) (h1:fB ds nf r.params.length b) (h2:b.sz<=q2) (h3:WZ p2 b):RF ds nf q2 p2 ⟨r.params,r.lent,r.result,b⟩:=⟨h.sig,h.lent,⟨h1,h2⟩,h3⟩
theorem Z6.eta (b:Z6):Z6.mk b.steps b.result=b:=by cases b;rfl
theorem LC.at {n:Zx} {k:Nat} {xs:List (List Int)} {i:Nat} {l:List Int} {r:Yb} (h:LC n k xs) (hl:xs[i]? = some l) (hr:n.routines[i]? = some r):l.length<=3/\∀v∈l,0<=v/\v<(r.params.length:Int):=⟨(h.ok i l hl).1,(h.ok i l hl).2 r hr⟩
theorem Fy:∀{xs:List Z4},(∀s∈xs,Q5 Wr s)->∀k,k<=xs.length->YO (xs.take k)=k
 | _,_,0,_=>rfl
 | [],_,k+1,h=>absurd h (by simp)
 | x::r,h,k+1,hk=>by
  have h1:=((CM x).1 (h x (Xh ..))).1
  have hc:Yf x.op=false:=by have:x.op<=11:=h1;simp [Yf];omega
  rw [Bd,YO,Zc (by rw [hc];simp),Fy (fun s hs=>h s (XG _ hs)) k (by simpa using hk)]
  omega
theorem KB.put1 {ds:List Zf} {nf m z:Nat} {b:Z6} (h:KB ds nf m b z) {op:Int} (ho:op=14∨op=15) {as1:List Int} (ha:∀v∈as1,0<=v/\v<(m:Int)):KB ds nf m ⟨as1.map (Zj op)++b.steps,b.result⟩ (z+2*as1.length):=by
 obtain ⟨h1,h2⟩:=h.cl
 have q1:CL ds nf m ([]++as1.map (Zj op)) 0 (0+2*as1.length):=CL.nil.cnts ho ha
 have q2:=q1.app h1
 have:=h.sz
 have:=b.sz_eq
 rw [Av,WQ] at q2
 exact (q2.block h2).le om
theorem FO.fin {n:Zx} {rs:List Yb} {q q2:Nat} {p:Int->Prop} (h:FN n q2) (e:rs.length=n.routines.length) (hr:∀r∈rs,RF n.decls n.routines.length q p r):FO ⟨n.decls,rs⟩ q p/\rs.length=n.routines.length:=
 ⟨FO.all h.decls (by show 1<=rs.length/\rs.length<=4;rw [e];exact h.len) (by show ∀r∈rs,RF n.decls rs.length q p r;rw [e];exact hr),e⟩
theorem KT.le {ds:List Zf} {nf m z z2:Nat} {st:Z4} (h:KT ds nf m st z) (hz:z<=z2):KT ds nf m st z2:=⟨h.fs,h.cb,h.op,Vh h.sz hz⟩
theorem KB.len {ds:List Zf} {nf m z:Nat} {b:Z6} (h:KB ds nf m b z):b.steps.length<=z:=by
 have:=h.sz
 have:=b.sz_eq
 have:=Kk b.steps
 omega
def Vi:List Z4->Int->Nat
 | [],_=>0
 | s::r,v=>(if gI s.args 0=v then 1 else 0)+Vi r v
def Va (rn:List Z4):List Int->Nat
 | []=>0
 | v::r=>Vi rn v+Va rn r
theorem Fm:∀(xs ys:List Z4) (v:Int),Vi (xs++ys) v=Vi xs v+Vi ys v
 | [],ys,v=>by simp [Vi]
 | x::r,ys,v=>by rw [Qw,Vi,Vi,Fm r];omega
theorem Pz {xs:List Z4} {k:Nat} {s:Z4} (h:xs[k]? = some s) (v:Int):Vi (xs.take (k+1)) v=Vi (xs.take k) v+(if gI s.args 0=v then 1 else 0):=by
 rw [WM h,Fm,Vi,Vi];omega
theorem Ih:∀(xs:List Z4) (v:Int),Vi xs v<=xs.length
 | [],v=>X6 _
 | x::r,v=>by have:=Ih r v;rw [Vi,YS];split<;>omega
theorem PA (xs:List Z4) (k:Nat) (v:Int):Vi (xs.take k) v<=Vi xs v:=by
 have h:=Yx (Vi · v) (UF k xs)
 simp only [Fm] at h;omega
theorem Ho (rn:List Z4):∀xs ys:List Int,Va rn (xs++ys)=Va rn xs+Va rn ys
 | [],ys=>by simp [Va]
 | x::r,ys=>by rw [Qw,Va,Va,Ho rn r];omega
theorem Z8c {rn:List Z4} {xs:List Int} {k:Nat} {v:Int} (h:xs[k]? = some v):Va rn (xs.take (k+1))=Va rn (xs.take k)+Vi rn v:=by
 rw [WM h,Ho,Va,Va];rfl
theorem O3 (s:Z4) (r:List Z4):∀vs:List Int,Az vs->Va (s::r) vs<=1+Va r vs/\(¬gI s.args 0∈vs->Va (s::r) vs=Va r vs)
 | [],_=>by simp [Va]
 | v::vs,h=>by
  obtain ⟨h1,h2⟩:=WP.1 h
  obtain ⟨q1,q2⟩:=O3 s r vs h2
  rw [Va,Va,Vi]
  by_cases e:gI s.args 0=v
  ·have hn:¬gI s.args 0∈vs:=fun z=>by have:=h1 _ z;omega
   rw [Zo e,q2 hn]
   exact ⟨by omega,fun z=>absurd (YQ.2 (.inl e)) z⟩
  ·rw [Zc e]
   exact ⟨by omega,fun z=>by rw [q2 fun y=>z (XG _ y)];omega⟩
theorem O4:∀(rn:List Z4) {vs:List Int},Az vs->Va rn vs<=rn.length
 | [],vs,_=>by
  have:∀xs:List Int,Va [] xs=0:=fun xs=>by
   induction xs with
   | nil=>rfl
   | cons x r ih=>rw [Va,ih];rfl
  rw [this];exact K5 _
 | s::r,vs,h=>by
  have h1:=(O3 s r vs h).1
  have h2:=O4 r h
  rw [YS];omega
theorem Hp (rn:List Z4) (xs:List Int) (k:Nat):Va rn (xs.take k)<=Va rn xs:=by
 have h:=Yx (Va rn) (UF k xs)
 rw [Ho] at h;omega
def HJ (m:Nat) (rn:List Z4):Prop:=∀s∈rn,∃a,s.args=[a]/\0<=a/\a<(m:Int)
theorem Iu {xs:List Z4} {k:Nat} {s:Z4} (h:xs[k]? = some s):YO (xs.take (k+1))=YO (xs.take k)+(if Yf s.op=true then 0 else 1):=by rw [WM h,K9,YO,YO];rfl
theorem KT.eq {ds:List Zf} {nf m z:Nat} {s:Z4} {ks:List Z6} (h:FS ds nf m s) (h11:s.op<=11) (hl:ks.length=s.kids.length) (hk:KK ds nf (UA ds s.op s.num m) ks z):KT ds nf m ⟨s.op,s.num,s.into,s.args,ks⟩ (1+s.args.length+z):=by
 obtain ⟨h1,h2,h3⟩:=IJ h h11 hl h.into hk
 refine ⟨h1,by show Yf s.op=false;simp [Yf];omega,h2,?_⟩
 have:=hk.sz
 rw [Z4.sz];omega
theorem FS.pair {ds:List Zf} {nf m:Nat} {s:Z4} (h:FS ds nf m s) (hp:s.op=14∨s.op=15):(∃a,s.args=[a]/\0<=a/\a<(m:Int))/\s.sz=2/\Yf s.op=true:=by
 obtain ⟨h1,h2,h3,a,h4⟩:=h.cnt om
 have h5:=h.args a (by rw [h4];exact W3.2 rfl)
 refine ⟨⟨a,h4,h5⟩,?_,Io hp⟩
 rw [s.sz_eq,h3,h4];rfl
theorem FS.not_pair {ds:List Zf} {nf m:Nat} {s:Z4} (h:FS ds nf m s) (hp:¬(s.op=14∨s.op=15)) (h15:Vb s.op):s.op<=11/\Yf s.op=false:=by
 have h1:s.op<=15:=h15
 have h2:=h.op
 exact ⟨by omega,by simp [Yf];omega⟩
theorem CL.run {ds:List Zf} {nf m d z:Nat} {xs:List Z4} {D R:List Int} {rn:List Z4} (h:CL ds nf m xs d z) (hr:HJ (m+d) rn) (hD:∀v∈D,∃s∈rn,s.args=[v]) (hR:∀v∈R,∃s∈rn,s.args=[v]):CL ds nf m (xs++(D.map (Zj 14)++R.map (Zj 15))) d (z+2*(D.length+R.length)):=by
 have key:∀(A:List Int),(∀v∈A,∃s∈rn,s.args=[v])->∀v∈A,0<=v/\v<((m+d:Nat):Int):=fun A hA v hv=>by
  obtain ⟨s,hs,e⟩:=hA v hv
  obtain ⟨a,e2,e3⟩:=hr s hs
  rw [e] at e2
  cases e2
  exact e3
 have h2:=(h.cnts (op:=14) (.inl rfl) (key D hD)).cnts (op:=15) (.inr rfl) (key R hR)
 rw [<-TA]
 exact h2.le om
def Wc (xs:List Z4) (i:Nat) (s:Z4):List Z4:=xs.take i++[s]++xs.drop i
theorem CR {xs:List Z4} (i:Nat) (s:Z4):Yp (Wc xs i s)=Yp xs+s.sz:=by
 have h:=Yx Yp (UF i xs)
 rw [US] at h
 rw [Wc,US,US,Yp,Yp];omega
theorem MQ {xs:List Z4} {i:Nat} {s:Z4} (h:i<=xs.length):(Wc xs i s).length=xs.length+1:=by
 simp [Wc,Vq h];omega
def Cv (b:Z6) (i j:Nat) (v:Int):Z6:=⟨Wc (Wc b.steps j (Zj 15 v)) i (Zj 14 v),b.result⟩
def withR (n:Zx) (f:Nat) (rt:Yb) (b:Z6):Zx:=⟨n.decls,n.routines.set f ⟨rt.params,rt.lent,rt.result,b⟩⟩
def F6 (n n2:Zx):Prop:=n2=n∨∃f rt i j v,n.routines[f]? = some rt/\i<=j/\j<=rt.body.steps.length/\0<=v/\v<((rt.params.length+YO (rt.body.steps.take i):Nat):Int)/\n2=withR n f rt (Cv rt.body i j v)
theorem CL.put {ds:List Zf} {nf m:Nat} {xs:List Z4} {d z:Nat} (h:CL ds nf m xs d z) {i:Nat} {op v:Int} (ho:op=14∨op=15) (hv:0<=v/\v<((m+YO (xs.take i):Nat):Int)):CL ds nf m (Wc xs i (Zj op v)) d (z+2):=by
 have hs:=h.fs
 have hp:=h.op
 have e:=UF i xs
 rw [<-e] at hs hp
 rw [Bw] at hs
 rw [Ee] at hp
 have h1:CL ds nf m (xs.take i) (YO (xs.take i)) (Yp (xs.take i)):=⟨hs.1,rfl,hp.1,X6 _⟩
 have h2:CL ds nf (m+YO (xs.take i)) (xs.drop i) (YO (xs.drop i)) (Yp (xs.drop i)):=⟨hs.2,rfl,hp.2,X6 _⟩
 have h3:=(h1.cnt ho hv).app h2
 have e1:=Yx Yp e
 have e2:=Yx YO e
 rw [US] at e1
 rw [K9,h.dn] at e2
 have:=h.sz
 rw [e2] at h3
 exact h3.le om
theorem Z4q {xs:List Z4} {i j:Nat} {s:Z4} (h:i<=j) (hj:j<=xs.length):(Wc xs j s).take i=xs.take i:=by
 rw [Wc,TA,List.take_append_of_le_length (by rw [Ww];omega),List.take_take,Vq h]
theorem Z0m {ds:List Zf} {nf m z:Nat} {b:Z6} (h:KB ds nf m b z) {i j:Nat} {v:Int} (hij:i<=j) (hj:j<=b.steps.length) (hv:0<=v/\v<((m+YO (b.steps.take i):Nat):Int)):KB ds nf m (Cv b i j v) (z+4):=by
 obtain ⟨h1,h2⟩:=h.cl
 have hm:YO (b.steps.take i)<=YO (b.steps.take j):=by
  have e:=Yx YO (UF i (b.steps.take j))
  rw [K9,List.take_take,Vq hij] at e;omega
 have h3:=(h1.put (i:=j) (op:=15) (v:=v) (.inr rfl) om).put (i:=i) (op:=14) (v:=v) (.inl rfl) (by rw [Z4q hij hj];exact hv)
 have:=h.sz
 have:=b.sz_eq
 exact (h3.block h2).le om
theorem FO.held {n n2:Zx} {q:Nat} (h:FO n q Vb) (hh:F6 n n2):FO n2 (q+4) Vb:=by
 rcases hh with rfl|⟨f,rt,i,j,v,h1,h2,h3,h4,h5,rfl⟩
 ·exact ⟨⟨h.fn.decls,h.fn.len,h.fn.sigs,h.fn.lent,fun r hr=>⟨(h.fn.body r hr).1,by have:=(h.fn.body r hr).2;omega⟩⟩,h.op⟩
 ·have hr:=h.rf (Y7 h1)
  have hk:KB n.decls n.routines.length rt.params.length (Cv rt.body i j v) (q+4):=Z0m ⟨hr.body.1,hr.op,hr.body.2⟩ h2 h3 ⟨h4,h5⟩
  refine FO.all h.fn.decls (by show 1<=(n.routines.set _ _).length/\(n.routines.set _ _).length<=4;rw [UU];exact h.fn.len) fun r hm=>?_
  show RF n.decls (n.routines.set _ _).length _ _ r
  rw [UU]
  rcases List.mem_or_eq_of_mem_set hm with hm|rfl
  ·have hq:=h.rf hm
   exact ⟨hq.sig,hq.lent,⟨hq.body.1,by have:=hq.body.2;omega⟩,hq.op⟩
  ·exact ⟨hr.sig,hr.lent,⟨hk.fb,hk.sz⟩,hk.op⟩
structure Wl (ds:List Zf) (b:Z6):Prop where
 w:wB ds b
 nr:Q3 b
 rng:b.rng
structure T5 (ds:List Zf) (s:Z4):Prop where
 w:wS ds s
 nr:B4 s
 rng:s.rng
section
variable {ds:List Zf}
theorem TM:∀{xs:List Z4},Qt xs↔∀s∈xs,s.rng
 | []=>by simp [Qt]
 | s::r=>by rw [Qt,TM];simp
theorem JQ:∀{xs:List Z6},TW xs↔∀s∈xs,s.rng
 | []=>by simp [TW]
 | s::r=>by rw [TW,JQ];simp
theorem Wl.iff {b:Z6}:Wl ds b↔∀s∈b.steps,T5 ds s:=by
 constructor
 ·intro h s hs
  have h3:=h.rng
  rw [Z6.rng_eq] at h3
  exact ⟨Jy.1 ((K4 b).1 h.w) s hs,CJ.1 ((CI b).1 h.nr) s hs,TM.1 h3 s hs⟩
 ·intro h
  exact ⟨(K4 b).2 (Jy.2 fun s hs=>(h s hs).w),(CI b).2 (CJ.2 fun s hs=>(h s hs).nr),by rw [Z6.rng_eq];exact TM.2 fun s hs=>(h s hs).rng⟩
theorem T5.kid {s:Z4} {b:Z6} (h:T5 ds s) (hb:b∈s.kids):Wl ds b:=by
 have h3:=h.rng
 rw [Z4.rng_eq] at h3
 exact ⟨EN.1 ((Ko s).1 h.w).2.2.2 b hb,Ec.1 ((BL s).1 h.nr).2 b hb,JQ.1 h3.2 b hb⟩
theorem T5.kids {s:Z4} {ks:List Z6} (h:T5 ds s) (hl:ks.length=s.kids.length) (hk:∀b∈ks,Wl ds b):T5 ds ⟨s.op,s.num,s.into,s.args,ks⟩:=by
 obtain ⟨h1,h2,h3,h4⟩:=(Ko s).1 h.w
 have h5:=h.rng
 rw [Z4.rng_eq] at h5
 refine ⟨(Ko _).2 ⟨h1,fun hc=>?_,fun h8=>⟨(h3 h8).1,hl.trans (h3 h8).2⟩,EN.2 fun b hb=>(hk b hb).w⟩,(BL _).2 ⟨((BL s).1 h.nr).1,Ec.2 fun b hb=>(hk b hb).nr⟩,by rw [Z4.rng_eq];exact ⟨h5.1,JQ.2 fun b hb=>(hk b hb).rng⟩⟩
 obtain ⟨q1,q2,q3,q4⟩:=h2 hc
 exact ⟨q1,q2,List.eq_nil_of_length_eq_zero (show ks.length=0 by rw [hl,q3];rfl),q4⟩
theorem T5.cnt {op v:Int} (h:op=14∨op=15∨op=16):T5 ds (Zj op v):=⟨Z94 h,(BL _).2 ⟨by show op≠17;omega,True.intro⟩,by rw [Z4.rng_eq];exact ⟨⟨by show (-9223372036854775808:Int)<=0;decide,by show (0:Int)<=_;decide⟩,True.intro⟩⟩
theorem Wl.open {b:Z6} {x q:Int} {fs:List Int} (h:Wl ds b):Wl ds (K6 b x fs q):=by
 rw [Wl.iff] at h ⊢
 intro s hs
 have hs:s∈JM b.steps x fs q:=hs
 rw [JM] at hs
 split at hs
 ·simp only [Xr,W6,W3] at hs
  rcases hs with ((⟨a,_,rfl⟩|rfl)|⟨a,_,rfl⟩)|hs
  ·exact T5.cnt om
  ·exact T5.cnt om
  ·exact T5.cnt om
  ·exact h s (List.mem_of_mem_drop hs)
 ·exact h s hs
theorem Nv {m:Nat} {op num:Int} {args:List Int}:∀{bs:List Z6} {k:Nat},(Th ds m op num args bs k).length=bs.length
 | [],_=>rfl
 | b::r,k=>by rw [Th,YS,YS,Nv (bs:=r)]
mutual
theorem T5.sp:∀(s:Z4) {m:Nat},T5 ds s->T5 ds (B6 ds m s)
 | .mk op num into args kids,m,h=>by
  rw [B6]
  exact h.kids Nv (Wls.sp kids fun b hb=>h.kid hb)
theorem Wls.sp:∀(bs:List Z6) {m:Nat} {op num:Int} {args:List Int} {k:Nat},(∀b∈bs,Wl ds b)->∀b∈Th ds m op num args bs k,Wl ds b
 | [],_,_,_,_,_,_,b,hb=>by cases hb
 | c::r,m,op,num,args,k,h,b,hb=>by
  rw [Th] at hb
  rcases YQ.1 hb with rfl|hb
  ·split
   ·exact (Wl.sp c (h c (Xh ..))).open
   ·exact Wl.sp c (h c (Xh ..))
  ·exact Wls.sp r (fun x hx=>h x (XG _ hx)) b hb
theorem WlSs.sp:∀(xs:List Z4) {m:Nat},(∀s∈xs,T5 ds s)->∀s∈UB ds m xs,T5 ds s
 | [],_,_,s,hs=>by cases hs
 | c::r,m,h,s,hs=>by
  rw [UB] at hs
  rcases YQ.1 hs with rfl|hs
  ·exact T5.sp c (h c (Xh ..))
  ·exact WlSs.sp r (fun x hx=>h x (XG _ hx)) s hs
theorem Wl.sp:∀(b:Z6) {m:Nat},Wl ds b->Wl ds (WE ds m b)
 | .mk steps result,m,h=>by
  rw [WE,Wl.iff]
  exact WlSs.sp steps (Wl.iff.1 h)
end
theorem Z52 {b:Z6} {x:Int} {many:Nat} (h:b.rng):(V8 b x many).rng:=by
 rw [Z6.rng_eq] at h
 rw [V8,Z6.rng_eq]
 show Qt (VY b.steps x many)
 rw [VY]
 split
 ·exact h
 ·rename_i hq
  obtain ⟨_,_,t,h5,h7,h6⟩:=JS (fun z=>hq (.inr z))
  rw [TM] at h ⊢
  intro s hs
  rcases List.mem_or_eq_of_mem_set hs with hs|rfl
  ·rcases List.mem_or_eq_of_mem_set hs with hs|rfl
   ·exact h s hs
   ·rw [Z4.rng_eq];exact ⟨⟨by show (-9223372036854775808:Int)<=0;decide,by show (0:Int)<=_;decide⟩,True.intro⟩
  ·have:=h t (Y7 h5)
   rw [h6,TI,Z4.rng_eq]
   rw [Z4.rng_eq] at this
   exact this
mutual
theorem Z53:∀(s:Z4) {K:List Int},s.rng->(Q7 ds K s).rng
 | .mk op num into args kids,K,h=>by
  rw [Z4.rng] at h
  rw [Q7,Z4.rng]
  exact ⟨h.1,N0 kids h.2⟩
theorem N0:∀(bs:List Z6) {K:List Int} {op num:Int} {args:List Int} {k:Nat},TW bs->TW (Ul ds K op num args bs k)
 | [],_,_,_,_,_,_=>True.intro
 | b::r,K,op,num,args,k,h=>by
  rw [Ul,TW]
  refine ⟨?_,N0 r h.2⟩
  split
  ·exact Z52 (GZ b h.1)
  ·exact GZ b h.1
theorem N1:∀(xs:List Z4) {K:List Int},Qt xs->Qt (Um ds K xs)
 | [],_,_=>True.intro
 | s::r,K,h=>⟨Z53 s h.1,N1 r h.2⟩
theorem GZ:∀(b:Z6) {K:List Int},b.rng->(Wq ds K b).rng
 | .mk steps result,K,h=>by
  rw [Z6.rng] at h
  rw [Wq,Z6.rng]
  exact N1 steps h
end
end
mutual
theorem Z3l:∀s:Z4,Q5 Vb s->B4 s
 | .mk op num into args kids,h=>by
  rw [Q5] at h
  rw [B4]
  exact ⟨by have:op<=15:=h.1;omega,Md kids h.2⟩
theorem Md:∀bs:List Z6,Q4 Vb bs->A9 bs
 | [],_=>True.intro
 | b::r,h=>⟨Mc b h.1,Md r h.2⟩
theorem Me:∀bs:List Z4,Te Vb bs->Aa bs
 | [],_=>True.intro
 | b::r,h=>⟨Z3l b h.1,Me r h.2⟩
theorem Mc:∀b:Z6,WZ Vb b->Q3 b
 | .mk steps result,h=>by
  rw [WZ] at h
  rw [Q3]
  exact Me steps h
end
structure ZR (q:Nat) (r:Yb):Prop where
 params:r.params.length<=3
 lent:r.lent.length<=10
 body:r.body.sz<=q
 rng:r.body.rng
structure ZN (n:Zx) (q:Nat):Prop where
 decls:AD n.decls
 len:1<=n.routines.length/\n.routines.length<=4
 rt:∀r∈n.routines,ZR q r
theorem ZR.le {q q2:Nat} {r:Yb} (h:ZR q r) (hq:q<=q2):ZR q2 r:=⟨h.params,h.lent,Vh h.body hq,h.rng⟩
theorem ZN.le {n:Zx} {q q2:Nat} (h:ZN n q) (hq:q<=q2):ZN n q2:=⟨h.decls,h.len,fun r hr=>(h.rt r hr).le hq⟩
theorem ZN.sz {n:Zx} {q:Nat} (h:ZN n q) (hq:q<=10000000):TC n:=
 ⟨⟨by have:=h.decls.1;omega,fun d hd=>by have:=(h.decls.2 d hd).1;omega,fun d hd c hc=>by have:=(h.decls.2 d hd).2 c hc;omega⟩,by have:=h.len;omega,fun r hr=>by have:=(h.rt r hr).params;omega,fun r hr=>by have:=(h.rt r hr).lent;omega,fun r hr=>by have:=(h.rt r hr).body;omega⟩
theorem FO.wl {n:Zx} {q:Nat} (h:FO n q Vb) (hq:q<=100000000):∀r∈n.routines,Wl n.decls r.body:=fun r hr=>by
 have h1:=h.rf hr
 have h2:r.params.length<=3:=(UV.bd (f:=⟨r.params,r.result,default⟩) h1.sig).1
 exact ⟨Ok r.body h1.body.1 (by have:=h1.body.2;omega) h.fn.decls.ok,Mc r.body h1.op,GX r.body h1.body.1⟩
theorem FO.zn {n:Zx} {q:Nat} {p:Int->Prop} (h:FO n q p):ZN n q:=
 ⟨h.fn.decls.ad,h.fn.len,fun r hr=>⟨(UV.bd (f:=⟨r.params,r.result,default⟩) (h.fn.sigs r hr)).1,by have:=(h.fn.lent r hr).1;omega,(h.fn.body r hr).2,GX r.body (h.fn.body r hr).1⟩⟩
structure WN (n:Zx) (q:Nat):Prop where
 ok:Xd n
 zn:ZN n q
 wl:∀r∈n.routines,Wl n.decls r.body
theorem FO.wn {n:Zx} {q:Nat} (h:FO n q Vb) (hq:q<=100000000):WN n q:=⟨h.fn.ok,h.zn,h.wl hq⟩
theorem WN.sp {n:Zx} {q:Nat} (h:WN n q):WN (ED n) (9*q):=by
 refine ⟨⟨h.ok.decls,by show (n.routines.map _).length<=4;rw [Au];exact h.ok.len,fun r hr=>?_,fun r hr=>?_⟩,⟨h.zn.decls,by show 1<=(n.routines.map _).length/\(n.routines.map _).length<=4;rw [Au];exact h.zn.len,fun r hr=>?_⟩,fun r hr=>?_⟩
 ·obtain ⟨s,hs,rfl⟩:=W6.1 hr;exact h.ok.params s hs
 ·obtain ⟨s,hs,rfl⟩:=W6.1 hr;exact h.ok.lent s hs
 ·obtain ⟨s,hs,rfl⟩:=W6.1 hr
  have hz:=h.zn.rt s hs
  refine ⟨hz.params,hz.lent,?_,(Wl.sp s.body (h.wl s hs)).rng⟩
  have h1:=EB h.ok.decls s.body (m:=s.params.length) (h.wl s hs).w
  have h2:=s.body.pz_le
  have h3:=hz.body
  show (WE n.decls s.params.length s.body).sz<=9*q
  omega
 ·obtain ⟨s,hs,rfl⟩:=W6.1 hr;exact Wl.sp s.body (h.wl s hs)
theorem WN.ru {n:Zx} {q:Nat} (h:WN n q):ZN (En n) q:=by
 refine ⟨h.zn.decls,by show 1<=(n.routines.map _).length/\(n.routines.map _).length<=4;rw [Au];exact h.zn.len,fun r hr=>?_⟩
 obtain ⟨s,hs,rfl⟩:=W6.1 hr
 have hz:=h.zn.rt s hs
 refine ⟨hz.params,hz.lent,?_,GZ s.body (h.wl s hs).rng⟩
 have h1:=H2 s.body (K:=[]) (h.wl s hs).w
 have h3:=hz.body
 show (Wq n.decls [] s.body).sz<=q
 omega
theorem GU {xs:List Z4} {i:Nat} {s t:Z4} (h:t∈Wc xs i s):t∈xs∨t=s:=by
 rw [Wc] at h
 simp only [Xr,W3] at h
 rcases h with (h|h)|h
 ·exact .inl (TR h)
 ·exact .inr h
 ·exact .inl (List.mem_of_mem_drop h)
theorem GY {op v:Int}:(Zj op v).rng:=by rw [Z4.rng_eq];exact ⟨⟨by show (-9223372036854775808:Int)<=0;decide,by show (0:Int)<=_;decide⟩,True.intro⟩
theorem ZN.withR {n:Zx} {q q2:Nat} {f:Nat} {rt:Yb} {b:Z6} (h:ZN n q) (hr:n.routines[f]? = some rt) (hq:q<=q2) (hb:b.sz<=q2) (hg:b.rng):ZN (withR n f rt b) q2:=by
 refine ⟨h.decls,by show 1<=(n.routines.set _ _).length/\(n.routines.set _ _).length<=4;rw [UU];exact h.len,fun r hm=>?_⟩
 rcases List.mem_or_eq_of_mem_set hm with hm|rfl
 ·exact (h.rt r hm).le hq
 ·have:=h.rt rt (Y7 hr)
  exact ⟨this.params,this.lent,hb,hg⟩
theorem ZN.held {n n2:Zx} {q:Nat} (h:ZN n q) (hh:F6 n n2):ZN n2 (q+4):=by
 rcases hh with rfl|⟨f,rt,i,j,v,h1,h2,h3,h4,h5,rfl⟩
 ·exact h.le om
 ·have hz:=h.rt rt (Y7 h1)
  refine h.withR h1 om ?_ ?_
  ·rw [Cv,Z6.sz,CR,CR]
   have e1:(Zj 14 v).sz=2:=rfl
   have e2:(Zj 15 v).sz=2:=rfl
   have:=hz.body
   have:=rt.body.sz_eq
   omega
  ·have hg:=hz.rng
   rw [Z6.rng_eq,TM] at hg
   rw [Cv,Z6.rng_eq,TM]
   intro s hs
   rcases GU hs with hs|rfl
   ·rcases GU hs with hs|rfl
    ·exact hg s hs
    ·exact GY
   ·exact GY
theorem FO.le {n:Zx} {q q2:Nat} {p:Int->Prop} (h:FO n q p) (hq:q<=q2):FO n q2 p:=⟨⟨h.fn.decls,h.fn.len,h.fn.sigs,h.fn.lent,fun r hr=>⟨(h.fn.body r hr).1,Vh (h.fn.body r hr).2 hq⟩⟩,h.op⟩
def VC (s y:Z4):Prop:=y.sz<=s.sz+1/\y.rng
theorem VC.refl {s:Z4} (hg:s.rng):VC s s:=⟨Nat.le_succ _,hg⟩
theorem VC.of {s:Z4} {op num into:Int} {args:List Int} {kids:List Z6} (hg:s.rng) (hn:num=s.num∨num∈([0,1,2,3,-1,1000]:List Int)) (ha:args.length<=s.args.length+1) (hk:kids=s.kids∨kids=s.kids.drop 1):VC s ⟨op,num,into,args,kids⟩:=by
 rw [Z4.rng_eq] at hg
 have hs:=s.sz_eq
 have hb:YR kids<=YR s.kids:=by
  rcases hk with rfl|rfl
  ·exact X6 _
  ·have h:=Yx YR (UF 1 s.kids)
   rw [C8] at h;omega
 refine ⟨by rw [Z4.sz];omega,?_⟩
 rw [Z4.rng]
 refine ⟨?_,JQ.2 fun b hbk=>JQ.1 hg.2 b ?_⟩
 ·rcases hn with rfl|hn
  ·exact hg.1
  ·have:=(by decide:∀z∈([0,1,2,3,-1,1000]:List Int),-9223372036854775808<=z/\z<=9223372036854775807) num hn
   exact this
 ·rcases hk with rfl|rfl
  ·exact hbk
  ·exact List.mem_of_mem_drop hbk
def Xs (b y:Z6):Prop:=y.sz<=b.sz+2/\y.rng
theorem Xs.result {b:Z6} (hg:b.rng) (z:Int):Xs b ⟨b.steps,z⟩:=⟨by rw [Z6.sz,b.sz_eq];omega,by rw [Z6.rng_eq] at hg;rw [Z6.rng];exact hg⟩
theorem Xs.put {b:Z6} (hg:b.rng) {i:Nat} {op v:Int}:Xs b ⟨Wc b.steps i (Zj op v),b.result⟩:=by
 rw [Z6.rng_eq,TM] at hg
 refine ⟨?_,?_⟩
 ·rw [Z6.sz,CR,b.sz_eq]
  have e:(Zj op v).sz=2:=rfl
  omega
 ·rw [Z6.rng,TM]
  intro s hs
  rcases GU hs with hs|rfl
  ·exact hg s hs
  ·exact GY
theorem Xs.del {b:Z6} (hg:b.rng) {k:Nat}:Xs b ⟨b.steps.take k++b.steps.drop (k+1),b.result⟩:=by
 rw [Z6.rng_eq,TM] at hg
 have h1:=Qa b.steps k
 have h2:=Yx Yp (UF k b.steps)
 have h3:=Yx Yp (UF 1 (b.steps.drop k))
 rw [US] at h2 h3
 rw [List.drop_drop] at h3
 refine ⟨by rw [Z6.sz,US,b.sz_eq];omega,?_⟩
 rw [Z6.rng,TM]
 intro s hs
 rcases Xr.1 hs with hs|hs
 ·exact hg s (TR hs)
 ·exact hg s (List.mem_of_mem_drop hs)
theorem Xs.set {b:Z6} (hg:b.rng) {k:Nat} {s t:Z4} (hs:b.steps[k]? = some s) (ht:t.sz<=s.sz+2/\t.rng):Xs b ⟨b.steps.set k t,b.result⟩:=by
 rw [Z6.rng_eq,TM] at hg
 have h1:=EG t hs
 refine ⟨by rw [Z6.sz,b.sz_eq];omega,?_⟩
 rw [Z6.rng,TM]
 intro x hx
 rcases List.mem_or_eq_of_mem_set hx with hx|rfl
 ·exact hg x hx
 ·exact ht.2
theorem Ia:∀{xs:List Z6} {i:Nat} {s:Z6} (t:Z6),xs[i]? = some s->YR (xs.set i t)+s.sz=YR xs+t.sz
 | [],_,_,_,h=>by simp at h
 | x::r,0,s,t,h=>by simp at h;subst h;rw [List.set_cons_zero,YR,YR];omega
 | x::r,i+1,s,t,h=>by
  have:=Ia (xs:=r) (i:=i) t (by simpa using h)
  rw [List.set_cons_succ,YR,YR];omega
theorem Xs.kid {b:Z6} (hg:b.rng) {k j:Nat} {s:Z4} {c y:Z6} (hs:b.steps[k]? = some s) (hc:s.kids[j]? = some c) (hy:Xs c y):Xs b ⟨b.steps.set k ⟨s.op,s.num,s.into,s.args,s.kids.set j y⟩,b.result⟩:=by
 refine Xs.set hg hs ?_
 have hg2:=hg
 rw [Z6.rng_eq,TM] at hg2
 have h1:=hg2 s (Y7 hs)
 rw [Z4.rng_eq] at h1
 have h2:=Ia y hc
 have h3:=hy.1
 refine ⟨by rw [Z4.sz,s.sz_eq];omega,?_⟩
 rw [Z4.rng]
 refine ⟨h1.1,JQ.2 fun x hx=>?_⟩
 rcases List.mem_or_eq_of_mem_set hx with hx|rfl
 ·exact JQ.1 h1.2 x hx
 ·exact hy.2
theorem Z51 {b:Z6} (hg:b.rng) {k j:Nat} {s:Z4} {c:Z6} (hs:b.steps[k]? = some s) (hc:s.kids[j]? = some c):c.rng:=by
 rw [Z6.rng_eq,TM] at hg
 have h1:=hg s (Y7 hs)
 rw [Z4.rng_eq] at h1
 exact JQ.1 h1.2 c (Y7 hc)
theorem Z54 {b:Z6} (hg:b.rng) {k:Nat} {s:Z4} (hs:b.steps[k]? = some s):s.rng:=by
 rw [Z6.rng_eq,TM] at hg
 exact hg s (Y7 hs)
structure ZS (n:Zx) (q l:Nat):Prop where
 decls:AD n.decls
 len:1<=n.routines.length/\n.routines.length<=4
 rt:∀r∈n.routines,r.params.length<=3/\r.lent.length<=l/\r.body.sz<=q/\r.body.rng
theorem ZN.zs {n:Zx} {q:Nat} (h:ZN n q):ZS n q 10:=⟨h.decls,h.len,fun r hr=>⟨(h.rt r hr).params,(h.rt r hr).lent,(h.rt r hr).body,(h.rt r hr).rng⟩⟩
theorem ZS.le {n:Zx} {q q2 l l2:Nat} (h:ZS n q l) (hq:q<=q2) (hl:l<=l2):ZS n q2 l2:=⟨h.decls,h.len,fun r hr=>by obtain ⟨a,b,c,d⟩:=h.rt r hr;exact ⟨a,by omega,by omega,d⟩⟩
theorem ZS.sz {n:Zx} {q l:Nat} (h:ZS n q l) (hq:q<=10000000) (hl:l<=1000):TC n:=
 ⟨⟨by have:=h.decls.1;omega,fun d hd=>by have:=(h.decls.2 d hd).1;omega,fun d hd c hc=>by have:=(h.decls.2 d hd).2 c hc;omega⟩,by have:=h.len;omega,fun r hr=>by have:=(h.rt r hr).1;omega,fun r hr=>by have:=(h.rt r hr).2.1;omega,fun r hr=>by have:=(h.rt r hr).2.2.1;omega⟩
theorem ZS.set {n:Zx} {q l q2 l2:Nat} {f:Nat} {rt:Yb} {ls:List Int} {b:Z6} (h:ZS n q l) (hr:n.routines[f]? = some rt) (hq:q<=q2) (hl:l<=l2) (hls:ls.length<=l2) (hb:b.sz<=q2) (hg:b.rng):ZS ⟨n.decls,n.routines.set f ⟨rt.params,ls,rt.result,b⟩⟩ q2 l2:=by
 refine ⟨h.decls,by show 1<=(n.routines.set _ _).length/\(n.routines.set _ _).length<=4;rw [UU];exact h.len,fun r hm=>?_⟩
 rcases List.mem_or_eq_of_mem_set hm with hm|rfl
 ·exact (h.le hq hl).rt r hm
 ·have:=h.rt rt (Y7 hr)
  exact ⟨this.1,hls,hb,hg⟩
theorem ZS.ds {n:Zx} {q l:Nat} {ds:List Zf} (h:ZS n q l) (hd:AD ds):ZS ⟨ds,n.routines⟩ q l:=⟨hd,h.len,h.rt⟩
def BJ (g l c m kk:Nat):Value:=.slice (some ⟨g,(if c-m=0 then 0 else m*kk),none⟩) (l-m) (c-m)
def Hc (P:Program) (ops:Array Oper) (F:Fr) (k:Nat):Option (AV × Int × Nat):=
 match (ZB ops k).op with
 | .slice t x (some lo) none none=>match P.underlying t with
  | some (.slice e)=>match P.info? e with
   | some i=>match F.ev lo with
    | .val (.int _ m)=>some (F.ev x,m,i.size)
    | _=>none
   | none=>none
  | _=>none
 | _=>none
section
variable {P:Program} {n:Nat} {ops:Array Oper} {k:Nat} {F:Fr} {h h2:List Res}
theorem Z7w (j:Nat) {g l c m kk:Nat} {ls:List AV} (hi:Hc P ops F k=some (.val (.slice (some ⟨g,0,none⟩) l c),(m:Int),kk)) (hj:h[j]? = some (.row (.slice (some ⟨g,0,none⟩) l c) kk ls)) (hle:m<=l) :
  Xy P (ZB ops k) F h [] (.val (BJ g l c m kk)):=by
 unfold Hc at hi
 generalize hoo:ZB ops k=o at hi
 obtain ⟨dst,op,type,pos,after,guard⟩:=o
 cases op<;>simp only at hi<;>try (cases hi)
 rename_i t x lo hi' mx
 cases lo with
 | none=>simp at hi
 | some y=>
  cases hi' with
  | some _=>simp at hi
  | none=>
   cases mx with
   | some _=>simp at hi
   | none=>
    simp only at hi
    split at hi
    ·rename_i e ht
     split at hi
     ·rename_i inf hinf
      split at hi
      ·rename_i ik m' hm
       simp only [XV,Prod.mk.injEq] at hi
       obtain ⟨hx,rfl,hkk⟩:=hi
       intro n w G a hF hh
       have v1:=hF.ev x
       rw [hx] at v1
       have v1:=v1.val_inv
       have v2:=hF.ev y
       rw [hm] at v2
       have v2:=v2.val_inv
       have hcap:l<=c:=by
        rcases hh.ok _ (Y7 hj) with ⟨h0,_⟩|⟨g',l',c',cur,el,h0,_,hc,_⟩
        ·cases h0
        ·cases h0;exact hc
       refine ⟨_,.val,fun w' _ _=>?_⟩
       simp only [execOp,v1,v2,Ax,Option.map_none]
       refine V0 ?_
       simp only [Instr.sliceAt,Sem.run_bind,Vs ht,Result.andThen_ok,Instr.slice]
       have hmm:(Instr.sliceBounds true l c (some (.int ik (m:Int))) none none).run P w'=.ok (m,l,c) w':=by
        have YE:=BU (P:=P) (c:=BoundsCode.sliceB) (v:=.int ik (m:Int)) (y:=l) rfl om om w'
        simp [Instr.sliceBounds,YE]
       rw [hmm]
       simp only [Result.andThen_ok,TL hinf,BJ,hkk]
       by_cases h0:c-m=0
       ·have e0:c=m:=by omega
        simp [e0]
       ·have e0:¬c=m:=fun z=>h0 om
        simp [e0,h0,Addr.add]
        exact fun z=>z.symm
      ·cases hi
     ·cases hi
    ·cases hi
theorem LI (j g l c m kk:Nat) (ls:List AV) (hle:m<=l:=by omega) (hi:Hc P ops F k=some (.val (.slice (some ⟨g,0,none⟩) l c),(m:Int),kk):=by kernel_rfl) (hj:h[j]? = some (.row (.slice (some ⟨g,0,none⟩) l c) kk ls):=by kernel_rfl) :
  Xy P (ZB ops k) F h [] (.val (BJ g l c m kk)):=Z7w j hi hj hle
theorem Z40 {K:Fr->List Res->Prop} {g len cap i m sz:Nat} {ls:List AV} (hd:WW n (ZB ops k)=true) (ha:U1 P ops F k=some (.val (.slice (some ⟨g,0,none⟩) i cap),.val (BJ g len cap m sz),sz))
  (hone:ls.all AV.one=true) (him:i<=m) (hml:m<=len)
  (hK:K (F.put (ZB ops k).dst (.val (.slice (some ⟨g,0,none⟩) (i+(len-m)) cap))) (.row (.slice (some ⟨g,0,none⟩) (i+(len-m)) cap) sz (ls.take (i*sz)++ls.drop (m*sz))::h2)):We P n (ZB ops k) F (.row (.slice (some ⟨g,0,none⟩) len cap) sz ls::h2) K:=by
 unfold U1 at ha
 generalize hoo:ZB ops k=o at ha hd hK
 obtain ⟨dst,op,type,pos,after,guard⟩:=o
 cases op<;>simp only at ha<;>try (cases ha)
 rename_i c
 obtain ⟨callee,args,tys⟩:=c
 simp only at ha
 split at ha
 case h_2=>cases ha
 rename_i s x t t' hargs htys
 split at ha
 case h_2=>cases ha
 rename_i e htt ht
 have:=U0 htt
 subst this
 split at ha
 case h_2=>cases ha
 rename_i inf hinfo
 split at ha
 case h_2=>cases ha
 rename_i z hz
 split at ha
 case h_2=>cases ha
 rename_i hb
 simp only [XL] at hb
 simp only [XV,Prod.mk.injEq] at ha
 obtain ⟨h3,h4,hk1⟩:=ha
 have e1:args=#[s,x]:=by rw [<-VJ (xs:=args),hargs]
 have e2:tys=#[t,t]:=by rw [<-VJ (xs:=tys),htys]
 subst e1;subst e2
 intro Q w G a hF hh
 have v1:=hF.ev s
 have v2:=hF.ev x
 rw [h3] at v1
 rw [h4] at v2
 have v1:=v1.val_inv
 have v2:=v2.val_inv
 rcases hh.ok _ (Xh ..) with ⟨h0,_⟩|⟨g',len',cap',cur,el,h0,hrow,hlc,hcur,hll,hcells⟩
 ·cases h0
 ·cases h0
  have q5:len*sz<=cap*sz:=TS _ hlc
  have q6:m*sz<=len*sz:=TS _ hml
  have q7:i*sz<=m*sz:=TS _ him
  have q8:(len-m)*sz=len*sz-m*sz:=Nat.sub_mul ..
  have q9:(i+(len-m))*sz=i*sz+(len-m)*sz:=TB ..
  have hcl:cur.toList.length=cap*sz:=by rw [Qv,hcur]
  have h1:(cur.toList.take (len*sz)).length=len*sz:=by rw [Ww,hcl,Vq q5]
  have hnl:((cur.toList.take (len*sz)).drop (m*sz)).length=(len-m)*sz:=by rw [At,h1];omega
  have hr:=Er (P:=P) w t type e el inf ht hinfo g i cap cur hrow ⟨g,(if cap-m=0 then 0 else m*sz),none⟩ (len-m) (cap-m) ((cur.toList.take (len*sz)).drop (m*sz)) (by rw [hk1];exact hnl)
   (fun j u hj=>by
    have hjl:=(XM.1 hj).1
    rw [hnl] at hjl
    have hne:¬cap-m=0:=fun z=>by
     have:len-m=0:=by omega
     rw [this] at hjl;omega
    rw [Zc hne,QA,cell_of_row w g _ cur el (0,0) hrow]
    rw [HF,Qd] at hj
    split at hj
    ·simpa using hj
    ·cases hj)
   (fun u hu=>hcells.one_cells hone u (List.mem_of_mem_drop hu)) om (by rw [hk1,hnl,hcur];omega)
  rw [hk1] at hr
  have hti:(cur.toList.take (i*sz)).length=i*sz:=by rw [Ww,hcl,Vq om]
  obtain ⟨j1,j2⟩:=hh.rgrow (ls':=ls.take (i*sz)++ls.drop (m*sz)) (len':=i+(len-m)) (cs':=(cur.toList.take (i*sz)++(cur.toList.take (len*sz)).drop (m*sz)++cur.toList.drop (i*sz+((cur.toList.take (len*sz)).drop (m*sz)).length)).toArray) hrow
   (by simp only [C1,Yz,hti,hnl,At,hcl,hcur];omega) om hcur (by rw [Yz,Ww,At,hll,q9,Vq om];omega) (by
    have:(cur.toList.take (i*sz)++(cur.toList.take (len*sz)).drop (m*sz)++cur.toList.drop (i*sz+((cur.toList.take (len*sz)).drop (m*sz)).length)).toArray.toList.take ((i+(len-m))*sz)=cur.toList.take (i*sz)++(cur.toList.take (len*sz)).drop (m*sz):=by
     rw [C2,q9,<-hnl]
     conv=>lhs;arg 1;rw [show i*sz+((cur.toList.take (len*sz)).drop (m*sz)).length=(cur.toList.take (i*sz)++(cur.toList.take (len*sz)).drop (m*sz)).length from by rw [Yz,hti]]
     exact KX
    rw [this]
    have ht1:=hcells.take (i*sz)
    rw [List.take_take,Vq om] at ht1
    exact ht1.append (hcells.drop (m*sz)))
  generalize hW:w.setRow g (cur.toList.take (i*sz)++(cur.toList.take (len*sz)).drop (m*sz)++cur.toList.drop (i*sz+((cur.toList.take (len*sz)).drop (m*sz)).length)).toArray=W at hr j1 j2
  have hrun:(execOp a.eval { dst:=dst,op:=.call { callee:=.builtin .append,args:=#[s,x],argTypes:=#[t,t] },type:=type,pos:=pos,after:=after,guard:=guard }).run P w=.ok (.value (.slice (some ⟨g,0,none⟩) (i+(len-m)) cap)) W:=by
   simp only [execOp,resolve,invoke,builtin,Sem.run_bind,Sem.run_pure,Result.andThen_ok,Bc,Un,Bb,v1,v2,BJ]
   rw [hr]
   rfl
  unfold Oper.wp
  rw [hrun]
  exact ⟨_,_,G,hK,(hF.mono (j2.agree hh)).put (U4 hd) .val,j1,j2⟩
end
section
variable {P:Program} {n:Nat} {ops:Array Oper} {B:Fr->List Res->Prop} {T:List (Nat × List Nat)} {fuel:Nat} {done:List Nat} {k:Nat} {F:Fr} {h:List Res}
theorem Iq (q j:Nat) (js bs:List Nat) (g len cap i m sz:Nat) (ls:List AV) (hone:ls.all AV.one=true)
  (H:YM P n ops B (T.filter fun t=>!WA ops q t.1) fuel (done++[q]) (F.put (ZB ops q).dst (.val (.slice (some ⟨g,0,none⟩) (i+(len-m)) cap))) (.row (.slice (some ⟨g,0,none⟩) (i+(len-m)) cap) sz (ls.take (i*sz)++ls.drop (m*sz))::XC [j] h)) (him:i<=m:=by omega) (hml:m<=len:=by omega)
  (hk:YY n ops F q=true:=by kernel_rfl) (ha:U1 P ops F q=some (.val (.slice (some ⟨g,0,none⟩) i cap),.val (BJ g len cap m sz),sz):=by kernel_rfl) (hp:W8 [j] h=some [.row (.slice (some ⟨g,0,none⟩) len cap) sz ls]:=by kernel_rfl) (ho:Vz ops q T=bs:=by kernel_rfl)
  (hj:js.map (fun z=>(Wm (XC [j] h))[z]?)=bs.map some:=by kernel_rfl):V2 P n ops B T fuel done F h q:=
 Ql [j] js bs hk (V7 hp) ho hj (Z40 (h2:=[]) (Ve hk).2.1 ha hone him hml H)
end
theorem Rz (xs:List Yb) (k:Nat) (d:Yb):YN (xs.set k d)=(YN xs).set k (WS d):=by simp [YN,List.map_set]
theorem DE (xs:List Yb):(Zl (YN xs)).length=xs.length*5:=by rw [UZ (k:=5) _ (Ue xs)];simp
theorem RY {ds:List Yb} {k:Nat} (d:Yb) (hk:k<ds.length):(Zl (YN ds)).take (k*5)++(WS d).leaves++(Zl (YN ds)).drop (k*5+5)=Zl (YN (ds.set k d)):=by
 rw [Rz];exact DH (y:=WS d) (Ue ds) rfl (by simpa using hk)
theorem Rp (xs:List Z6) (k:Nat) (d:Z6):YH (xs.set k d)=(YH xs).set k (Zs d):=by
 simp [Ur,List.map_set]
theorem Co (xs:List Z6):(Zl (YH xs)).length=xs.length*2:=by rw [UZ (k:=2) _ (T7 xs)];simp
theorem RU {ds:List Z6} {k:Nat} (d:Z6) (hk:k<ds.length):(Zl (YH ds)).take (k*2)++(Zs d).leaves++(Zl (YH ds)).drop (k*2+2)=Zl (YH (ds.set k d)):=by
 rw [Rp];exact DH (y:=Zs d) (T7 ds) (by cases d;rfl) (by simpa using hk)
theorem Zi.frzN {P:Program} {f:FuncId} {as1:List AV} {h0:List Res} {ds:List Zf} {rs:List Yb} {hs:List Res}
  (H:Zi P f as1 h0 (fun r h=>∃g c:Nat,r=.agg [Zd ds,.ms g 0 rs.length c]/\h=.row (.slice (some ⟨g,0,none⟩) rs.length c) 5 (Zl (YN rs))::hs)) :
  Zi P f as1 h0 (fun r h=>r=.agg [Zd ds,YZ rs]/\h=hs):=by
 intro w G vs hv hh
 refine (H w G vs hv hh).mono ?_
 rintro e w' ⟨u,r,h',G',he,⟨gb,c,rfl,rfl⟩,hr,hh',hx⟩
 obtain ⟨G2,h1,h2,h3⟩:=BS hh' (Ue _) om
 have hA:Vt G' w' w' G2:=h2.agree hh'
 refine ⟨u,_,hs,G2,he,⟨rfl,rfl⟩,?_,(h1.perm (List.perm_append_comm (l₁:=[_]))).left,(hx.trans h2).sub' (Aw _ _)⟩
 cases hr with
 | agg hc=>
  cases hc with
  | cons k1 t1=>
   cases t1 with
   | cons k2 t2=>
    cases t2
    have hv2:=k2.val_inv
    subst hv2
    refine .agg (.cons (k1.mono hA) (.cons ?_ .nil))
    have hw:Zg (.sl (YN rs) (some (.slice (some ⟨gb,0,none⟩) rs.length c))) (YZ rs):=Zg.forget _ _
    exact hw _ _ _ h3
theorem S3 (v:Value) (k:Nat) (ls ks:List AV) (b o:Nat):Res.fp (.row v k ks) b o=Res.fp (.vec v ls) b o:=by
 cases v with
 | slice a _ _=>cases a<;>rfl
 | _=>rfl
theorem Z8x {w:World} {G:Yc} {v:Value} {ls:List AV} {h2:List Res} (hh:YB w G (.vec v ls::h2)):YB w G (.row v 1 ls::h2)/\YU w G (.vec v ls::h2) w G (.row v 1 ls::h2):=by
 have hpw:=WP.1 hh.apart
 have hf:∀b o,Res.fp (.row v 1 ls) b o->Res.fp (.vec v ls) b o:=fun b o h=>by rw [S3 v 1 ls ls] at h;exact h
 refine ⟨⟨fun r hr=>?_,WP.2 ⟨fun r hr b o f1 f2=>hpw.1 r hr b o (hf b o f1) f2,hpw.2⟩,fun r hr b o f1 hg=>?_,hh.lt⟩,⟨rfl,rfl,rfl,X6 _,fun _ _ h=>h,fun _ _=>.inl rfl,fun _ _ _ h=>.inl h,fun b o _ ⟨r,hr,f1⟩=>?_⟩⟩
 ·rcases YQ.1 hr with rfl|hr
  ·rcases hh.ok _ (Xh ..) with h0|⟨g,cap,cur,e,h0,h1,h3,h4,h5⟩
   ·exact .inl h0
   ·exact .inr ⟨g,ls.length,cap,cur,e,h0,h1,h3,by rw [h4,Ks],by rw [Ks],by rw [Ks];exact h5⟩
  ·exact hh.ok r (XG _ hr)
 ·rcases YQ.1 hr with rfl|hr
  ·exact hh.prot _ (Xh ..) b o (hf b o f1) hg
  ·exact hh.prot r (XG _ hr) b o f1 hg
 ·rcases YQ.1 hr with rfl|hr
  ·exact ⟨_,Xh ..,hf b o f1⟩
  ·exact ⟨r,XG _ hr,f1⟩
theorem IT:∀xs:List Int,Zl (Z8 xs)=Z8 xs
 | []=>rfl
 | x::r=>Yx (AV.i x::·) (IT r)
section
variable {h:List Res}
theorem KV (j:Nat) (v:Hd) (xs:List Int) (hp:W8 [j] h=some [rV v xs]:=by kernel_rfl):T4 h (.row v.v 1 (Zl (Z8 xs))::XC [j] h):=by
 have e:Zl (Z8 xs)=Z8 xs:=IT xs
 rw [e]
 intro w G hh
 have hp':=VN (V7 hp)
 obtain ⟨a,b⟩:=Z8x (hh.perm hp')
 exact ⟨G,a,b.perm hp'.symm (Tz _)⟩
end
def Jv (bs:List Int) (p:Nat) (mx:Int):Int:=
 if mx<1∨bs.length=0 then 0 else if p<bs.length then (bs[p]?).getD 0 % mx else
  TQ ((((bs[p % bs.length]?).getD 0*131+(bs[(p*7+3) % bs.length]?).getD 0*1117)+((p*29:Nat):Int))+(((p / bs.length:Nat):Int)*53))
   (((((bs[p % bs.length]?).getD 0*131+(bs[(p*7+3) % bs.length]?).getD 0*1117)+((p*29:Nat):Int))+(((p / bs.length:Nat):Int)*53)) / 64) % mx
theorem Z4d {bs:List Int} {p:Nat} {mx:Int} (h:0<mx):0<=Jv bs p mx/\Jv bs p mx<mx:=by
 rw [Jv]
 split
 ·omega
 ·split
  ·exact ⟨Int.emod_nonneg _ om,Int.emod_lt_of_pos _ h⟩
  ·exact ⟨Int.emod_nonneg _ om,Int.emod_lt_of_pos _ h⟩
theorem RT {xs:List Z6} {k:Nat} {b:Z6} (h:xs[k]? = some b):Zl (YH (xs.take k))++Zl [Zs b]=Zl (YH (xs.take (k+1))):=by
 rw [WM h,J8,TG]
 congr 1
 rw [Ur];rfl
def CE (s:Z4) (u:Value):List AV:=[.i s.op,.i s.num,.i s.into,Z0 s.args,.val u]
def Cp (b:Z6) (k:Nat):Z4:=(b.steps[k]?).getD (Zj 0 0)
theorem DJ {b:Z6} {k:Nat} {s:Z4} (h:b.steps[k]? = some s):Cp b k=s:=by rw [Cp,h];rfl
def Wz (b:Z6) (kk:Nat) (u:Value) (k:Nat):List AV:=if k<=kk then Zl (Zv (b.steps.take k)) else Zl (Zv (b.steps.take kk))++(CE (Cp b kk) u++Zl (Zv ((b.steps.take k).drop (kk+1))))
def Ux (b:Z6) (kk k:Nat):List AV:=if k<=kk then [] else Zl (YH (Cp b kk).kids)
theorem LM {b:Z6} {kk:Nat} {u:Value}:Wz b kk u 0=[]:=by rw [Wz,Zo (K5 _),List.take_zero,Vd];rfl
theorem LP {b:Z6} {kk:Nat}:Ux b kk 0=[]:=Zo (K5 _)
theorem Gx {b:Z6} {kk k:Nat} {u:Value} (h:k<=b.steps.length):(Wz b kk u k).length=k*5:=by
 rw [Wz]
 split
 ·rw [TZ,Ww,Vq h]
 ·rename_i q
  have e:(CE (Cp b kk) u).length=5:=rfl
  rw [Yz,Yz,TZ,TZ,At,Ww,Ww,e,Vq h,Vq om]
  omega
theorem LK {b:Z6} {kk k:Nat} {u:Value} {s:Z4} (hs:b.steps[k]? = some s) (hk:¬k=kk):Wz b kk u k++Zl [Y3 s]=Wz b kk u (k+1):=by
 have hkl:=(XM.1 hs).1
 by_cases q:k<=kk
 ·rw [Wz,Zo q,Wz,Zo om]
  exact IR hs
 ·rw [Wz,Zc q,Wz,Zc om,TA,TA]
  congr 2
  rw [WM hs,List.drop_append_of_le_length (by rw [Ww];omega),Wy,TG]
  congr 1
  rw [Vd];rfl
theorem LN {b:Z6} {kk k:Nat} (hk:¬k=kk):Ux b kk k=Ux b kk (k+1):=by
 by_cases q:k<=kk
 ·rw [Ux,Zo q,Ux,Zo om]
 ·rw [Ux,Zc q,Ux,Zc om]
theorem LL {b:Z6} {kk:Nat} {u u2:Value} {s:Z4} (hs:b.steps[kk]? = some s):Wz b kk u kk++CE s u2=Wz b kk u2 (kk+1):=by
 rw [Wz,Zo (X6 _),Wz,Zc om,DJ hs,ES (by rw [Ww];omega),Vd]
 show _=_++(CE s u2++Zl [])
 rw [S1,As]
theorem LO {b:Z6} {kk:Nat} {s:Z4} (hs:b.steps[kk]? = some s):Zl (YH s.kids)=Ux b kk (kk+1):=by
 rw [Ux,Zc om,DJ hs]
end Go.Abs
