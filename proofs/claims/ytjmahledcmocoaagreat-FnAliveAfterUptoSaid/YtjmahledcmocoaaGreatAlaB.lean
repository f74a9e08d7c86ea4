/-
  A part of the proof of FnAliveAfterUptoSaid (see the last file): no condition.
-/
import Derived.Test.YtjmahledcmocoaaGreatAlaA
import Derived.Test.YtjmahledcmocoaaGreatRows
import Derived.Deep.Slices
import Derived.ChangeArms
set_option linter.all false
set_option linter.unusedVariables false
set_option linter.unusedSimpArgs false
set_option linter.unusedSectionVars false
set_option maxRecDepth 10000
set_option maxHeartbeats 4000000
namespace Go.Abs
theorem JA.mono {w:World} {G G':Yc} {v:Value} {k:Nat} {ls:List AV} (hA:VT G w w G') (h:JA w G v k ls):JA w G' v k ls:=by
 rcases h with ⟨rfl,h0⟩|⟨g,len,cap,cur,el,rfl,h1,h2,h3,h4,h5⟩
 ·exact .inl ⟨rfl,h0⟩
 ·exact .inr ⟨g,len,cap,cur,el,rfl,h1,h2,h3,h4,h5.mono hA⟩
theorem Q3.same {w:World} {G G':Yc} {r:Res} (hA:VT G w w G') (h:Q3 w G r):Q3 w G' r:=by
 cases r with
 | obj b ls=>obtain ⟨cs,e,h1,h2⟩:=h;exact ⟨cs,e,h1,h2.mono hA⟩
 | tail v k=>exact h
 | ge s=>exact h
 | vec v ls=>
  rcases h with ⟨rfl,h0⟩|⟨g,cap,cur,el,rfl,h1,h2,h3,h4⟩
  ·exact .inl ⟨rfl,h0⟩
  ·exact .inr ⟨g,cap,cur,el,rfl,h1,h2,h3,h4.mono hA⟩
 | many ts=>exact h
 | own B m=>exact h
 | row v k ls=>exact h.mono hA
theorem Yv.alloc_rrow {w:World} {G:Yc} {h:List Res} (hh:Yv w G h) (cs:Array Value) (t:TypeId) {ls:List AV} {len cap k:Nat} (hcap:len<=cap) (Xi:cs.size=cap*k) (hl:ls.length=len*k)
  (hls:YR w G ls (cs.toList.take (len*k))) :
  Yv (w.alloc (.cells cs t)) G (.row (.slice (some ⟨w.heap.size,0,none⟩) len cap) k ls::h)/\YV w G h (w.alloc (.cells cs t)) G (.row (.slice (some ⟨w.heap.size,0,none⟩) len cap) k ls::h):=by
 have hA:VT G w (w.alloc (.cells cs t)) G:=⟨fun b j hg=>DI w _ (hh.lt b j hg),fun _ _ h=>h⟩
 refine hh.alloc (.cells cs t) (h':=[.row (.slice (some ⟨w.heap.size,0,none⟩) len cap) k ls]) (fun _ _ h=>h) (fun _ _ h=>.inl h) ?_ ?_ (BE _ _) ?_
 ·intro r hr
  rw [Xv.1 hr]
  exact .inr ⟨_,len,cap,cs,t,rfl,CX w _,hcap,Xi,hl,hls.mono hA⟩
 ·intro r hr b j hf
  rw [Xv.1 hr] at hf
  exact hf
 ·intro r hr b j hf hg
  rw [Xv.1 hr] at hf
  have:=hh.lt b j hg
  have:b=w.heap.size:=hf
  omega
theorem Yv.rwrite {w:World} {G:Yc} {h2:List Res} {g len cap k:Nat} {ls ls':List AV} (hh:Yv w G (.row (.slice (some ⟨g,0,none⟩) len cap) k ls::h2)) {cs cs':Array Value} {e:TypeId}
  (hb:w.heap[g]? = some (.cells cs e (0,0))) (Xi:cs'.size=cs.size) (hle:len<=cap) (hcap:cs.size=cap*k) (hl:ls'.length=len*k) (hls:YR w G ls' (cs'.toList.take (len*k))) :
  Yv (w.setRow g cs') G (.row (.slice (some ⟨g,0,none⟩) len cap) k ls'::h2) /\
   YV w G (.row (.slice (some ⟨g,0,none⟩) len cap) k ls::h2) (w.setRow g cs') G (.row (.slice (some ⟨g,0,none⟩) len cap) k ls'::h2):=by
 have hmem:Res.row (.slice (some ⟨g,0,none⟩) len cap) k ls∈Res.row (.slice (some ⟨g,0,none⟩) len cap) k ls::h2:=Xf ..
 have hA:VT G w (w.setRow g cs') G:=⟨fun c j hg=>by
  have hne:c≠g:=fun he=>hh.prot _ hmem c j he hg
  simp [World.cell?,VR w g c cs' hne],fun _ _ h=>h⟩
 have hpw:=WH.1 hh.apart
 have hother:∀r∈h2,∀c j,r.fp c j->c≠g:=fun r hr c j hf hc=>hpw.1 r hr c j hc hf
 have e1:YV w G [.row (.slice (some ⟨g,0,none⟩) len cap) k ls] (w.setRow g cs') G [.row (.slice (some ⟨g,0,none⟩) len cap) k ls']:=by
  refine ⟨rfl,rfl,rfl,by simp [World.setRow],fun _ _ h=>h,?_,fun _ _ _ h=>.inl h,?_⟩
  ·intro c hc
   by_cases hcb:c=g
   ·subst hcb
    exact .inr ⟨cs,cs',e,(0,0),hb,setRow_heap w c cs cs' e (0,0) hb,Xi,fun j hj=>absurd ⟨_,Xf ..,rfl⟩ hj⟩
   ·exact .inl (VR w g c cs' hcb)
  ·rintro c j _ ⟨r,hr,hf⟩
   rw [Xv.1 hr] at hf
   exact ⟨_,Xf ..,hf⟩
 have e2:Yv (w.setRow g cs') G [.row (.slice (some ⟨g,0,none⟩) len cap) k ls']:=by
  refine ⟨fun r hr=>?_,BE _ _,fun r hr c j hf hg=>?_,fun c j hg=>?_⟩
  ·rw [Xv.1 hr]
   exact .inr ⟨g,len,cap,cs',e,rfl,setRow_heap w g cs cs' e (0,0) hb,hle,Xi.trans hcap,hl,hls.mono hA⟩
  ·rw [Xv.1 hr] at hf
   exact hh.prot _ hmem c j hf hg
  ·have:=hh.lt c j hg
   simpa [World.setRow] using this
 exact Yv.frame (h:=[.row (.slice (some ⟨g,0,none⟩) len cap) k ls]) (k:=h2) hh e1 e2
theorem Zce {w:World} {G:Yc} {h:List Res} {k:Nat} (hh:Yv w G h):Yv w G (.row (.slice none 0 0) k []::h)/\YV w G h w G (.row (.slice none 0 0) k []::h):=
 ⟨⟨fun r hr=>by
   rcases YB.1 hr with rfl|hr
   ·exact .inl ⟨rfl,rfl⟩
   ·exact hh.ok r hr,WH.2 ⟨fun _ _ _ _ hf=>hf.elim,hh.apart⟩,fun r hr b o hf hg=>by
   rcases YB.1 hr with rfl|hr
   ·exact hf.elim
   ·exact hh.prot r hr b o hf hg,hh.lt⟩,
  ⟨rfl,rfl,rfl,X5 _,fun _ _ h=>h,fun _ _=>.inl rfl,fun _ _ _ h=>.inl h,fun b o _ ⟨r,hr,hf⟩=>by
   rcases YB.1 hr with rfl|hr
   ·exact hf.elim
   ·exact ⟨r,hr,hf⟩⟩⟩
theorem JA.form {w:World} {G:Yc} {v:Value} {k:Nat} {ls:List AV} (h:JA w G v k ls):∃a len cap,v=.slice a len cap/\ls.length=len*k:=by
 rcases h with ⟨rfl,rfl⟩|⟨g,len,cap,cur,e,rfl,_,_,_,h4,_⟩
 ·exact ⟨none,0,0,rfl,by simp⟩
 ·exact ⟨_,len,cap,rfl,h4⟩
theorem Cf {w:World} {G:Yc} {v:Value} {k:Nat} {es:List AV} {h2:List Res} (hh:Yv w G (.row v k (Zo es)::h2)) (hes:∀y∈es,y.leaves.length=k) (hk:0<k) :
  ∃G',Yv w G' (.tail v k::h2)/\YV w G (.row v k (Zo es)::h2) w G' (.tail v k::h2)/\RV w G' (.sl es (some v)) v:=by
 have hpw:=WH.1 hh.apart
 have hfl:=TJ es hes
 rcases hh.ok _ (Xf ..) with ⟨rfl,h0⟩|⟨g,len,cap,cur,e,rfl,h1,h3,h4,h5,h6⟩
 ·have hes0:es=[]:=by
   cases es with
   | nil=>rfl
   | cons y r=>
    have h7:0<(r.length+1)*k:=Nat.mul_pos om hk
    rw [h0,YQ] at hfl
    rw [<-hfl] at h7
    simp at h7
  subst hes0
  obtain ⟨k1,k2⟩:=Mc (sz:=k) (hh.sub (BF _ _))
  refine ⟨G,k1,⟨rfl,rfl,rfl,X5 _,fun _ _ h=>h,fun _ _=>.inl rfl,fun _ _ _ h=>.inl h,?_⟩,.nil (by simp)⟩
  rintro b o _ ⟨r,hr,hf⟩
  rcases YB.1 hr with rfl|hr
  ·exact hf.elim
  ·exact ⟨r,XD _ hr,hf⟩
 ·have hlen:len=es.length:=He hk (h5.symm.trans hfl)
  subst hlen
  let G':Yc:=fun b o=>G b o∨(b=g/\o<es.length*k)
  have hA:VT G w w G':=⟨fun _ _ _=>rfl,fun _ _ h=>.inl h⟩
  have hmem:Res.row (.slice (some ⟨g,0,none⟩) es.length cap) k (Zo es)∈Res.row (.slice (some ⟨g,0,none⟩) es.length cap) k (Zo es)::h2:=Xf ..
  refine ⟨G',⟨fun r hr=>?_,WH.2 ⟨fun r hr b o f1 f2=>hpw.1 r hr b o f1.1 f2,hpw.2⟩,fun r hr b o hf hg=>?_,fun b o hg=>?_⟩,
   ⟨rfl,rfl,rfl,X5 _,fun _ _ h=>.inl h,fun _ _=>.inl rfl,fun b o _ hg=>hg.imp id fun ⟨e1,_⟩=>⟨_,hmem,e1⟩,?_⟩,?_⟩
  ·rcases YB.1 hr with rfl|hr
   ·exact .inr ⟨g,es.length,cap,cur,e,rfl,h1,h3,h4⟩
   ·exact (hh.ok r (XD _ hr)).same hA
  ·rcases YB.1 hr with rfl|hr2
   ·obtain ⟨hbg,hf2⟩:=hf
    rcases hg with hg|⟨_,hg⟩
    ·exact hh.prot _ hmem b o hbg hg
    ·omega
   ·rcases hg with hg|⟨hbg,_⟩
    ·exact hh.prot r (XD _ hr2) b o hf hg
    ·exact hpw.1 r hr2 b o hbg hf
  ·rcases hg with hg|⟨rfl,_⟩
   ·exact hh.lt b o hg
   ·exact (UP.1 h1).1
  ·rintro b o _ ⟨r,hr,hf⟩
   rcases YB.1 hr with rfl|hr
   ·exact ⟨_,hmem,hf.1⟩
   ·exact ⟨r,XD _ hr,hf⟩
  ·refine .sl (k:=k) (fun x hx=>by cases hx;rfl) h3 (Ve.of_flat es hes (Ws.of_cells (h6.mono hA) fun j u hj=>?_))
   have hjl:j<es.length*k:=by
    have:=(Xc.1 hj).1
    have h7:=h6.length
    omega
   rw [TE,Zf hjl] at hj
   refine ⟨?_,.inr ⟨rfl,by omega⟩⟩
   rw [Vd,cell_of_row w g j cur e (0,0) h1]
   simpa using hj
section
variable {P:Program} {n:Nat} {ops:Array Oper} {B:Fr->List Res->Prop} {k:Nat} {F:Fr} {h h2:List Res}
theorem SG {k:Nat}:Ts h (.row (.slice none 0 0) k []::h):=fun _ _ hh=>let ⟨a,b⟩:=Zce hh;⟨_,a,b⟩
theorem Zf3 (j:Nat) {v:Value} {kk m:Nat} {ls:List AV} (hl:D8 P ops F k=some (.val v)) (hj:h[j]? = some (.row v kk ls)) (hm:ls.length=m*kk) (hk:0<kk):Xw P (ZB ops k) F h [] (.val (.int .i64 m)):=by
 unfold D8 at hl
 generalize hoo:ZB ops k=o at hl
 obtain ⟨dst,op,type,pos,after,guard⟩:=o
 cases op<;>simp only at hl<;>try (cases hl)
 rename_i c
 obtain ⟨callee,args,tys⟩:=c
 simp only at hl
 split at hl
 ·rename_i x t hargs htys
  split at hl
  ·rename_i el hu
   simp only [Wh] at hl
   intro n w G a hF hh
   have hv:=hF.ev x
   rw [hl] at hv
   have hv:=hv.val_inv
   obtain ⟨ad,len,cap,rfl,hlen⟩:=JA.form (hh.ok _ (ZX hj))
   have:len=m:=He hk (hlen.symm.trans hm)
   subst this
   have e1:args=#[x]:=by rw [<-U6 (xs:=args),hargs]
   have e2:tys=#[t]:=by rw [<-U6 (xs:=tys),htys]
   subst e1;subst e2
   exact ⟨_,.val,fun w' _ _=>by simp [execOp,resolve,invoke,builtin,hv,Builtin.len_,VJ hu,goInt]⟩
  ·cases hl
 ·cases hl
def L6 (ops:Array Oper) (F:Fr) (k:Nat):Option (TypeId × AV):=
 match (ZB ops k).op with
 | .load t x=>some (t,F.ev x)
 | _=>none
theorem Zf4 (j:Nat) {g len cap kk o:Nat} {ls zs:List AV} {t:TypeId} {y:AV} (hl:L6 ops F k=some (t,.val (.pointer (some ⟨g,o,none⟩)))) (hj:h[j]? = some (.row (.slice (some ⟨g,0,none⟩) len cap) kk ls))
  (hz:(ls.drop o).take zs.length=zs) (hy:Av P t zs=some y):Xw P (ZB ops k) F h [g] y:=by
 unfold L6 at hl
 generalize hoo:ZB ops k=q at hl
 obtain ⟨dst,op,type,pos,after,guard⟩:=q
 cases op<;>simp only at hl<;>try (cases hl)
 rename_i t' x
 intro n w G a hF hh
 simp only [Wh,Prod.mk.injEq] at hl
 obtain ⟨rfl,hl⟩:=hl
 have hv:=hF.ev x
 rw [hl] at hv
 have hv:=hv.val_inv
 rcases hh.ok _ (ZX hj) with ⟨h0,_⟩|⟨g',len',cap',cur,e,h0,h1,h2,h3,h4,h5⟩
 ·cases h0
 ·cases h0
  have hc:=(h5.drop o).take zs.length
  rw [hz] at hc
  obtain ⟨v,j1,j2⟩:=Gz (P:=P) (b:=g) (o:=o) hy hc
  refine ⟨v,j1,fun w' _ hw=>?_⟩
  have hrow:=hw g (by simp)
  rw [h1] at hrow
  simp only [execOp,hv]
  refine Vh ?_
  simp only [Instr.loadAt,Instr.sureAddr,Sem.run_bind,Sem.run_pure,Result.andThen_ok]
  refine j2 w' fun j u hj=>?_
  rw [cell_of_row w' g (o+j) cur e (0,0) hrow]
  rw [TE] at hj
  split at hj
  ·rw [BA,TE] at hj
   split at hj
   ·simpa using hj
   ·cases hj
  ·cases hj
theorem PU {K:Fr->List Res->Prop} {g len cap kk:Nat} {ls xs:List AV} {i:Nat} (hs:storeAt P ops F k=some (g,i,xs)) (hlt:i+xs.length<=ls.length)
  (hK:K F (.row (.slice (some ⟨g,0,none⟩) len cap) kk (ls.take i++xs++ls.drop (i+xs.length))::h2)):Wx P n (ZB ops k) F (.row (.slice (some ⟨g,0,none⟩) len cap) kk ls::h2) K:=by
 unfold storeAt at hs
 generalize hoo:ZB ops k=q at hs
 obtain ⟨dst,op,type,pos,after,guard⟩:=q
 cases op<;>simp only at hs<;>try (cases hs)
 rename_i t x z
 split at hs
 ·rename_i b' o' inf hx hi
  split at hs
  ·rename_i hc
   simp only [W7] at hc
   simp only [Wh,Prod.mk.injEq] at hs
   obtain ⟨rfl,rfl,hz⟩:=hs
   intro Q w G a hF hh
   have hvx:=hF.ev x
   rw [hx] at hvx
   have hvx:=hvx.val_inv
   have hvy:=hF.ev z
   have hcs:=hvy.cells hc.2.1
   rw [hz] at hcs hc
   have hone:=hcs.one_cells hc.2.2
   have Xi:inf.size=xs.length:=UC hc.1
   have hlen:(a.eval z).cells.size=xs.length:=by have:=hcs.length;simpa using this
   rcases hh.ok (.row (.slice (some ⟨b',0,none⟩) len cap) kk ls) (Xf ..) with ⟨h0,_⟩|⟨g',len',cap',cur,e,h0,h1,h2',h3,h4,h5⟩
   ·cases h0
   ·cases h0
    have hlc:len*kk<=cap*kk:=QE _ h2'
    have hst:=run_storeCells_at P b' o' e (a.eval z).cells.toList 0 cur w h1 (by simp [hlen];omega) hone
    simp only [Cq,Kv] at hst
    have hr:(execOp a.eval { dst:=none,op:=.store t x z,type:=type,pos:=pos,after:=after,guard:=guard }).run P w =
      .ok .skip (w.setRow b' (cur.toList.take o'++(a.eval z).cells.toList++cur.toList.drop (o'+(a.eval z).cells.size)).toArray):=by
     simp only [execOp,hvx]
     simp [Instr.storeAt,Instr.sureAddr,storeVar,Qh hi,hlen,Xi,hst]
    unfold Oper.wp
    rw [hr]
    have hcl:(a.eval z).cells.toList.length=xs.length:=by simpa using hlen
    obtain ⟨j1,j2⟩:=hh.rwrite (ls':=ls.take o'++xs++ls.drop (o'+xs.length)) (cs':=(cur.toList.take o'++(a.eval z).cells.toList++cur.toList.drop (o'+(a.eval z).cells.size)).toArray) h1
     (by simp [hlen];omega) h2' h3 (by simp;omega) (by
      rw [Dw,hlen]
      have e1:(cur.toList.take o'++(a.eval z).cells.toList++cur.toList.drop (o'+xs.length)).take (len*kk) =
        (cur.toList.take (len*kk)).take o'++(a.eval z).cells.toList++(cur.toList.take (len*kk)).drop (o'+xs.length):=by
       have q1:(cur.toList.take o'++(a.eval z).cells.toList).length=o'+xs.length:=by simp [hlen];omega
       rw [List.take_append,q1,Vi om,List.take_take,VA om,List.drop_take]
      rw [e1]
      exact ((h5.take o').append hcs).append (h5.drop _))
    refine ⟨F,_,G,hK,?_,j1,j2⟩
    have:=hF.mono (j2.agree hh)
    simpa [Act.put] using this
  ·cases hs
 ·cases hs
theorem Zb3 {K:Fr->List Res->Prop} {sz:Nat} (hd:Vr n (ZB ops k)=true) (ha:TA P ops F k=some ([],0,sz))
  (hK:∀g,K (F.put (ZB ops k).dst (.val (.slice (some ⟨g,0,none⟩) 0 0))) (.row (.slice (some ⟨g,0,none⟩) 0 0) sz []::h)):Wx P n (ZB ops k) F h K:=by
 unfold TA at ha
 generalize hoo:ZB ops k=q at ha hd hK
 obtain ⟨dst,op,type,pos,after,guard⟩:=q
 cases op<;>simp only at ha<;>try (cases ha)
 rename_i t ln parts
 split at ha
 case h_2=>cases ha
 rename_i e ht
 split at ha
 case h_2=>cases ha
 rename_i i hi
 split at ha
 case h_2=>cases ha
 rename_i hc
 simp only [W7] at hc
 split at ha
 case h_2=>cases ha
 rename_i ls' hf
 simp only [Wh,Prod.mk.injEq] at ha
 obtain ⟨rfl,rfl,Xi⟩:=ha
 intro Q w G a hF hh
 obtain ⟨cs,h1,h2⟩:=Gy hF parts ht hi rfl hc.1 hc.2 hf
 have hr:(execOp a.eval { dst:=dst,op:=.buildSlice t 0 parts,type:=type,pos:=pos,after:=after,guard:=guard }).run P w =
   .ok (.value (.slice (some ⟨w.heap.size,0,none⟩) 0 0)) (w.alloc (.cells cs e)):=by
  simp only [execOp]
  exact Vh h2
 unfold Oper.wp
 rw [hr]
 have hlc:=h1.length
 simp only [Kv] at hlc
 obtain ⟨j1,j2⟩:=hh.alloc_rrow cs e (ls:=[]) (len:=0) (cap:=0) (k:=sz) (X5 _) (by simpa using hlc) (by simp) (by simpa using YR.nil)
 exact ⟨_,_,G,hK _,(hF.mono (j2.agree hh)).put (UU hd) .val,j1,j2⟩
theorem Zb1 {K:Fr->List Res->Prop} {g sz:Nat} {xs:List AV} {hx:Option Value} (hd:Vr n (ZB ops k)=true) (ha:UF P ops F k=some (.val (.slice (some ⟨g,0,none⟩) 0 0),.sl xs hx,sz))
  (hxs:∀y∈xs,y.leaves.length=sz) (hbound:xs.length<=4294967296)
  (hK:∀v:Hd,K (F.put (ZB ops k).dst (.val v.v)) (.row v.v sz (Zo xs)::h2)):Wx P n (ZB ops k) F (.row (.slice (some ⟨g,0,none⟩) 0 0) sz []::h2) K:=by
 unfold UF at ha
 generalize hoo:ZB ops k=o at ha hd hK
 obtain ⟨dst,op,type,pos,after,guard⟩:=o
 cases op<;>simp only at ha<;>try (cases ha)
 rename_i c
 obtain ⟨callee,args,tys⟩:=c
 simp only at ha
 split at ha
 case h_2=>cases ha
 rename_i s x t t' hargs htys
 split at ha
 case h_2=>cases ha
 rename_i e htt ht
 have:=UC htt
 subst this
 split at ha
 case h_2=>cases ha
 rename_i i hinfo
 split at ha
 case h_2=>cases ha
 rename_i z hz
 split at ha
 case h_2=>cases ha
 rename_i hb
 simp only [W7] at hb
 simp only [Wh,Prod.mk.injEq] at ha
 obtain ⟨h3,h4,hk1⟩:=ha
 have e1:args=#[s,x]:=by rw [<-U6 (xs:=args),hargs]
 have e2:tys=#[t,t]:=by rw [<-U6 (xs:=tys),htys]
 subst e1;subst e2
 have hzs:z.cells.size=sz:=by rw [UC hb.1,hk1]
 have hby:=V8 hb.2
 intro Q w G a hF hh
 have v1:=hF.ev s
 have v2:=hF.ev x
 rw [h3] at v1
 rw [h4] at v2
 have v1:=v1.val_inv
 have v2:=v2.forget
 have finish:∀(v':Hd) w',(Builtin.append_ #[t,t] type #[.slice (some ⟨g,0,none⟩) 0 0,a.eval x]).run P w=.ok v'.v w'->Yv w' G (.row v'.v sz (Zo xs)::h2) ->
   YV w G (.row (.slice (some ⟨g,0,none⟩) 0 0) sz []::h2) w' G (.row v'.v sz (Zo xs)::h2) ->
   ({ dst:=dst,op:=.call { callee:=.builtin .append,args:=#[s,x],argTypes:=#[t,t] },type:=type,pos:=pos,after:=after,guard:=guard }:Oper).wp P a w
    (fun a' w'=>∃F' h' G',K F' h'/\FR w' G' n F' a'/\Yv w' G' h'/\YV w G (.row (.slice (some ⟨g,0,none⟩) 0 0) sz []::h2) w' G' h') Q:=by
  intro v' w' hr j1 j2
  have hrun:(execOp a.eval { dst:=dst,op:=.call { callee:=.builtin .append,args:=#[s,x],argTypes:=#[t,t] },type:=type,pos:=pos,after:=after,guard:=guard }).run P w=.ok (.value v'.v) w':=by
   simp only [execOp,resolve,invoke,builtin,Sem.run_bind,Sem.run_pure,Result.andThen_ok,BD,Un,BC,v1,hr]
  unfold Oper.wp
  rw [hrun]
  exact ⟨_,_,G,hK v',(hF.mono (j2.agree hh)).put (UU hd) .val,j1,j2⟩
 by_cases hxe:xs=[]
 ·subst hxe
  cases v2q:a.eval x with
  | slice ad' l' c'=>
   rw [v2q] at v2
   cases v2<;>exact finish ⟨some ⟨g,0,none⟩,0,0⟩ _ (by rw [v2q];exact Di ht hinfo (X5 _) w) hh (YV.refl w G _)
  | _=>rw [v2q] at v2;cases v2
 ·generalize hax:a.eval x=ax at v2 finish
  cases v2 with
  | nil _=>exact absurd rfl hxe
  | sl hq hcc hm=>
   rename_i b o' k' c
   have hpos:0<xs.length:=Hc.2 hxe
   have hfm:=hm.flat_mem
   obtain ⟨news,hn,hnc⟩:=hfm.cells
   have hfl:=TJ xs hxs
   have hnl:news.length=xs.length*i.size:=by rw [hn.length,hfl,hk1]
   have hnews:∀j u,news[j]? = some u->w.cell? ((⟨b,o',none⟩:Addr).add j)=some u:=fun j u hj=>by rw [KD];exact (hnc j u hj).1
   have hbb:(0+xs.length)*i.bytes<=140737488355328:=by
    have:=Nat.mul_le_mul hbound hby
    rw [Vd]
    omega
   have hr:=run_append_grow (P:=P) w t type e i z ht hinfo hz ⟨g,0,none⟩ 0 0 [] (by simp) (fun j u hj=>by simp at hj) ⟨b,o',none⟩ xs.length c news hnl hnews om om (growslice_fits om hbb)
   simp only [Vd] at hr
   have Xe:=grownCap_ge w xs.length 0 e
   obtain ⟨j1,j2⟩:=hh.drew.alloc_rrow ([].toArray++news.toArray++Builtin.zeroCells z.cells (grownCap w xs.length 0 e-xs.length)) e
    (ls:=Zo xs) (len:=xs.length) (cap:=grownCap w xs.length 0 e) (k:=sz) Xe
    (by
     have q2:(grownCap w xs.length 0 e-xs.length)*sz=grownCap w xs.length 0 e*sz-xs.length*sz:=Nat.sub_mul ..
     have q3:xs.length*sz<=grownCap w xs.length 0 e*sz:=QE _ Xe
     simp only [Array.size_append,Dv,size_zeroCells,hzs,Xu,Vd,hnl,hk1]
     omega) hfl
    (by
     have q1:([].toArray++news.toArray++Builtin.zeroCells z.cells (grownCap w xs.length 0 e-xs.length)).toList.take (xs.length*sz)=news:=by
      simp only [Dt,Cp]
      rw [<-hk1,<-hnl]
      exact A0
     rw [q1]
     exact hn.mono (AX w G))
   have hs:List.Sublist (.row (.slice (some ⟨w.drew.heap.size,0,none⟩) xs.length (grownCap w xs.length 0 e)) sz (Zo xs)::h2)
     (.row (.slice (some ⟨w.drew.heap.size,0,none⟩) xs.length (grownCap w xs.length 0 e)) sz (Zo xs)::.row (.slice (some ⟨g,0,none⟩) 0 0) sz []::h2):=List.Sublist.cons_cons _ (BF _ _)
   exact finish ⟨some ⟨w.heap.size,0,none⟩,xs.length,grownCap w xs.length 0 e⟩ _ hr (j1.sub hs) ((YV.drew w G _).trans (j2.sub' hs))
theorem Rq {w:World} {G:Yc} {v:Hd} {kk m:Nat} {ls:List AV} (h:JA w G v.v kk ls) (hm:ls.length=m*kk) (hk:0<kk) (h0:0<m):∃g c,v=⟨some ⟨g,0,none⟩,m,c⟩:=by
 obtain ⟨a,l,c⟩:=v
 rcases h with ⟨h1,h2⟩|⟨g,len,cap,cur,e,h1,h2,h3,h4,h5,h6⟩
 ·subst h2
  have:=Nat.mul_pos h0 hk
  rw [Xu] at hm
  omega
 ·cases h1
  have:l=m:=He hk (h5.symm.trans hm)
  subst this
  exact ⟨g,c,rfl⟩
theorem Z0i (t j:Nat) {v:Hd} {kk:Nat} {es:List AV} {c:Code} {A:V1} (hF':F.get t=.h v) (hp:Wn [j] h=some [.row v.v kk (Zo es)]) (hes:∀y∈es,y.leaves.length=kk) (hk:0<kk)
  (H:Yz P n c A ((t,.sl es (some v.v))::F) (.tail v.v kk::XJ [j] h)):Yz P n c A F h:=by
 intro w G a hF hh
 have hp':=Ui (Vv hp)
 obtain ⟨G',h1,h2',h3⟩:=Cf (hh.perm hp') hes hk
 have e:=h2'.perm hp'.symm (Qk _)
 have hF2:=hF.mono (e.agree hh)
 have hv:=hF2.get t
 rw [hF'] at hv
 have hv:=hv.val_inv
 refine wp_mono (H w G' a ⟨hF2.defers,hF2.size,fun s=>?_⟩ h1) fun e' a' w' hc=>hc.trans e
 show RV w G' (match Nat.beq t s with|true=>_|false=>Fr.get F s) _
 cases hb:Nat.beq t s with
 | true=>
  have:=UC hb
  subst this
  rw [hv]
  exact h3
 | false=>exact hF2.get s
theorem Zfp (j i p:Nat) {u v:Value} {kk kv:Nat} {es ls:List AV} (hp:Wn [j,i] h=some [.row u kk (Zo es),.row v kv ls]) (hes:∀y∈es,y.leaves.length=kk) (hk:0<kk) (hl:ls[p]? = some (.val u)) :
  Ts h (.row v kv (ls.set p (.sl es (some u)))::.tail u kk::XJ [j,i] h):=by
 intro w G hh
 have hp':=Ui (Vv hp)
 have hh':=hh.perm hp'
 obtain ⟨G',h1,h2',h3⟩:=Cf (h2:=.row v kv ls::XJ [j,i] h) hh' hes hk
 have e:=h2'.perm hp'.symm (Qk _)
 have h1:Yv w G' (.tail u kk::.row v kv ls::XJ [j,i] h):=h1
 have perm:(Res.tail u kk::.row v kv ls::XJ [j,i] h).Perm (.row v kv ls::.tail u kk::XJ [j,i] h):=List.Perm.swap ..
 have h4:=h1.perm perm
 have e4:=e.perm (Qk _) perm
 have hset:∀{w:World} {G:Yc},RV w G (.sl es (some u)) u->JA w G v kv ls->JA w G v kv (ls.set p (.sl es (some u))):=by
  intro w G hu hr
  rcases hr with ⟨rfl,h0⟩|⟨g,len,cap,cur,el,rfl,k1,k2,k3,k4,k5⟩
  ·exact .inl ⟨rfl,by rw [h0];rfl⟩
  ·refine .inr ⟨g,len,cap,cur,el,rfl,k1,k2,k3,by rw [UQ];exact k4,?_⟩
   obtain ⟨c,c1,c2⟩:=k5.get p _ hl
   have:=c2.val_inv
   subst this
   have h6:=k5.set p hu
   rwa [show (cur.toList.take (len*kv)).set p c=cur.toList.take (len*kv) from by
    apply List.ext_getElem?
    intro q
    rw [List.getElem?_set]
    split
    ·rename_i hq;subst hq;split
     ·exact c1.symm
     ·rename_i hq2;rw [Du om]
    ·rfl] at h6
 refine ⟨G',⟨fun r hr=>?_,?_,fun r hr=>?_,h4.lt⟩,⟨e4.os,e4.tape,e4.output,e4.size,e4.sub,e4.same,e4.newG,fun b o hb ⟨r,hr,hf⟩=>e4.newfp b o hb ?_⟩⟩
 ·rcases YB.1 hr with rfl|hr
  ·exact hset h3 (h4.ok _ (Xf ..))
  ·exact h4.ok r (XD _ hr)
 ·have:=WH.1 h4.apart
  refine WH.2 ⟨fun r hr b o f1 f2=>this.1 r hr b o ?_ f2,this.2⟩
  cases v with
  | slice a _ _=>cases a with
   | none=>exact f1.elim
   | some a=>exact f1
  | _=>exact f1.elim
 ·rcases YB.1 hr with rfl|hr
  ·intro b o f1 hg
   refine h4.prot (.row v kv ls) (Xf ..) b o ?_ hg
   cases v with
   | slice a _ _=>cases a with
    | none=>exact f1.elim
    | some a=>exact f1
   | _=>exact f1.elim
  ·exact h4.prot r (XD _ hr)
 ·rcases YB.1 hr with rfl|hr
  ·refine ⟨.row v kv ls,Xf ..,?_⟩
   cases v with
   | slice a _ _=>cases a with
    | none=>exact hf.elim
    | some a=>exact hf
   | _=>exact hf.elim
  ·exact ⟨r,XD _ hr,hf⟩
def QJ:List Res->Option (List (Value × Nat))
 | []=>some []
 | .tail v k::r=>(QJ r).map ((v,k)::·)
 | .many ts::r=>(QJ r).map (ts++·)
 | _=>none
theorem BQ {b o:Nat}:∀{hs:List Res} {L:List (Value × Nat)},QJ hs=some L->((∃p∈L,Ez p.1 p.2 b o)↔V3 hs b o)
 | [],L,h=>by cases h;simp [V3]
 | .tail v k::r,L,h=>by
  rw [QJ] at h
  cases hr:QJ r with
  | none=>rw [hr] at h;cases h
  | some L'=>
   rw [hr] at h
   cases h
   have ih:=BQ (b:=b) (o:=o) hr
   have ht:Res.fp (.tail v k) b o↔Ez v k b o:=by
    cases v with
    | slice a _ _=>cases a<;>exact Iff.rfl
    | _=>exact Iff.rfl
   simp only [V3,YB,exists_eq_or_imp] at ih ⊢
   rw [ht,ih]
 | .many ts::r,L,h=>by
  rw [QJ] at h
  cases hr:QJ r with
  | none=>rw [hr] at h;cases h
  | some L'=>
   rw [hr] at h
   cases h
   have ih:=BQ (b:=b) (o:=o) hr
   simp only [V3,YB,exists_eq_or_imp] at ih ⊢
   rw [<-ih]
   simp only [X7,Res.fp]
   constructor
   ·rintro ⟨p,hp|hp,hf⟩
    ·exact .inl ⟨p,hp,hf⟩
    ·exact .inr ⟨p,hp,hf⟩
   ·rintro (⟨p,hp,hf⟩|⟨p,hp,hf⟩)
    ·exact ⟨p,.inl hp,hf⟩
    ·exact ⟨p,.inr hp,hf⟩
 | .obj _ _::_,_,h=>by cases h
 | .ge _::_,_,h=>by cases h
 | .vec _ _::_,_,h=>by cases h
 | .own _ _::_,_,h=>by cases h
 | .row _ _ _::_,_,h=>by cases h
theorem HF {w:World} {G:Yc}:∀{hs:List Res} {L:List (Value × Nat)},QJ hs=some L->(∀r∈hs,Q3 w G r)->hs.Pairwise A7->Q3 w G (.many L)
 | [],L,h,_,_=>by cases h;exact ⟨by simp,.nil⟩
 | .tail v k::r,L,h,h1,h2=>by
  rw [QJ] at h
  cases hr:QJ r with
  | none=>rw [hr] at h;cases h
  | some L'=>
   rw [hr] at h
   cases h
   have hpw:=WH.1 h2
   obtain ⟨i1,i2⟩:=HF (w:=w) (G:=G) hr (fun q hq=>h1 q (XD _ hq)) hpw.2
   refine ⟨fun p hp=>?_,WH.2 ⟨fun p hp b o f1 f2=>?_,i2⟩⟩
   ·rcases YB.1 hp with rfl|hp
    ·exact h1 (.tail v k) (Xf ..)
    ·exact i1 p hp
   ·obtain ⟨q,hq,hf⟩:=(BQ hr).1 ⟨p,hp,f2⟩
    refine hpw.1 q hq b o ?_ hf
    cases v with
    | slice a _ _=>cases a<;>exact f1
    | _=>exact f1
 | .many ts::r,L,h,h1,h2=>by
  rw [QJ] at h
  cases hr:QJ r with
  | none=>rw [hr] at h;cases h
  | some L'=>
   rw [hr] at h
   cases h
   have hpw:=WH.1 h2
   obtain ⟨i1,i2⟩:=HF (w:=w) (G:=G) hr (fun q hq=>h1 q (XD _ hq)) hpw.2
   obtain ⟨t1,t2⟩:=h1 (.many ts) (Xf ..)
   refine ⟨fun p hp=>?_,Jz.2 ⟨t2,i2,fun p hp q hq b o f1 f2=>?_⟩⟩
   ·rcases X7.1 hp with hp|hp
    ·exact t1 p hp
    ·exact i1 p hp
   ·obtain ⟨s,hs,hf⟩:=(BQ hr).1 ⟨q,hq,f2⟩
    exact hpw.1 s hs b o ⟨p,hp,f1⟩ hf
 | .obj _ _::_,_,h,_,_=>by cases h
 | .ge _::_,_,h,_,_=>by cases h
 | .vec _ _::_,_,h,_,_=>by cases h
 | .own _ _::_,_,h,_,_=>by cases h
 | .row _ _ _::_,_,h,_,_=>by cases h
theorem Zfn (is:List Nat) {L:List (Value × Nat)} {hs:List Res} (hp:Wn is h=some hs) (hb:QJ hs=some L):Ts h (.many L::XJ is h):=by
 intro w G hh
 have hp':=Ui (Vv hp)
 have hh':=hh.perm hp'
 have hpw:=Jz.1 hh'.apart
 have hmany:=HF (w:=w) (G:=G) hb (fun r hr=>hh'.ok r (X7.2 (.inl hr))) hpw.1
 refine ⟨G,⟨fun r hr=>?_,WH.2 ⟨fun r hr b o f1 f2=>?_,hpw.2.1⟩,fun r hr b o hf hg=>?_,hh'.lt⟩,
  ⟨rfl,rfl,rfl,X5 _,fun _ _ h=>h,fun _ _=>.inl rfl,fun _ _ _ h=>.inl h,fun b o _ ⟨r,hr,hf⟩=>?_⟩⟩
 ·rcases YB.1 hr with rfl|hr
  ·exact hmany
  ·exact hh'.ok r (X7.2 (.inr hr))
 ·exact hh'.cross ((BQ hb).1 f1) ⟨r,hr,f2⟩
 ·rcases YB.1 hr with rfl|hr
  ·obtain ⟨q,hq,hf⟩:=(BQ hb).1 hf
   exact hh'.prot q (X7.2 (.inl hq)) b o hf hg
  ·exact hh'.prot r (X7.2 (.inr hr)) b o hf hg
 ·refine (B8 hp').2 ?_
  rcases YB.1 hr with rfl|hr
  ·exact JN.2 (.inl ((BQ hb).1 hf))
  ·exact JN.2 (.inr ⟨r,hr,hf⟩)
end
end Go.Abs
section
namespace Go.Abs
structure Z05 where
 fields:LI
 fv:Value
structure Z06 where
 frm:Int
 to_:Int
 cons:List Z05
 cv:Value
mutual
inductive Hl where
 | mk (op num into:Int) (args:LI) (av:Value) (kids:List EI) (kv:Value)
inductive EI where
 | mk (steps:List Hl) (sv:Value) (result:Int)
end
namespace Hl
end Hl
namespace EI
end EI
structure Z08 where
 params:LI
 pv:Value
 lent:LI
 lv:Value
 result:Int
 body:EI
structure Z07 where
 decls:List Z06
 dv:Value
 routines:List Z08
 rv:Value
inductive Hh:List AV->List AV->Prop
 | nil:Hh [] []
 | cons {x y:AV} {xs ys:List AV} (hl:x.leaves.length=y.leaves.length) (h:VX x.leaves y.leaves) (t:Hh xs ys):Hh (x::xs) (y::ys)
theorem Qr {es:List AV} {k:Nat} (h:es.all (fun y=>Nat.beq y.leaves.length k)=true):∀y∈es,y.leaves.length=k:=fun y hy=>UC (Jv.1 h y hy)
abbrev rK (g:Hd) (k:Nat) (ls:List AV):Res:=.row g.v k ls
section
variable {P:Program} {n:Nat} {c:Code} {A:V1} {F:Fr} {h:List Res} {ops:Array Oper} {B:Fr->List Res->Prop} {k:Nat}
variable {T:List (Nat × List Nat)} {fuel:Nat} {done:List Nat}
theorem tB (is:List Nat) (hs:List Res) (L' L:List (Value × Nat)) (e:L'=L) (hp:Wn is h=some hs:=by kernel_rfl) (hb:QJ hs=some L':=by kernel_rfl):Ts h (.many L::XJ is h):=e▸Zfn is hp hb
theorem rr {v:Value} {q:Nat} {ls ls':List AV} {t t':List Res} (h:ls=ls') (e:t=t'):Res.row v q ls::t=.row v q ls'::t':=h▸e▸rfl
theorem Z9a (j m:Nat) (v:Hd) (kk:Nat) (ls:List AV) (hm:ls.length=m*kk) (hk:0<kk:=by omega) (hl:D8 P ops F k=some (.h v):=by kernel_rfl) (hj:h[j]? = some (rK v kk ls):=by kernel_rfl):Xw P (ZB ops k) F h [] (.i m):=
 Zf3 j hl hj hm hk
theorem Wp (b l c' q sz:Nat) (j:Int) (hq:j=(q:Int)/\q<l:=by omega) (hi:Bc P ops F k=some (.val (.slice (some ⟨b,0,none⟩) l c'),j,sz):=by kernel_rfl):Xw P (ZB ops k) F h [] (.val (.pointer (some ⟨b,q*sz,none⟩))):=by
 have:=Sp (P:=P) (F:=F) (h:=h) hi om om
 rw [hq.1,VS,Vd] at this
 exact this
theorem Vm (j g len cap kk o:Nat) (ls zs:List AV) (t:TypeId) (y:AV) (hz:(ls.drop o).take zs.length=zs) (hl:L6 ops F k=some (t,.val (.pointer (some ⟨g,o,none⟩))):=by kernel_rfl) (hj:h[j]? = some (.row (.slice (some ⟨g,0,none⟩) len cap) kk ls):=by kernel_rfl)
  (hy:Av P t zs=some y:=by kernel_rfl):Xw P (ZB ops k) F h [g] y:=Zf4 j hl hj hz hy
theorem E3 (j g len cap kk o:Nat) (xs ls:List AV) (ls':List AV) (hlt:o+xs.length<=ls.length) (he:ls.take o++xs++ls.drop (o+xs.length)=ls') (H:SI P n ops B (k+1) F (.row (.slice (some ⟨g,0,none⟩) len cap) kk ls'::XJ [j] h)) (hk:X8 n ops F k=true:=by kernel_rfl)
  (hs:storeAt P ops F k=some (g,o,xs):=by kernel_rfl) (hp:Wn [j] h=some [.row (.slice (some ⟨g,0,none⟩) len cap) kk ls]:=by kernel_rfl):SI P n ops B k F h:=
 TL hk (Wx.perm (Ui (Vv hp)) (PU hs hlt (by rw [he];exact H)))
theorem BR (i j:Nat) (js bs:List Nat) (g len cap kk o:Nat) (xs ls:List AV) (ls':List AV) (hlt:o+xs.length<=ls.length) (he:ls.take o++xs++ls.drop (o+xs.length)=ls')
  (H:YU P n ops B (T.filter fun t=>!V2 ops i t.1) fuel (done++[i]) F (.row (.slice (some ⟨g,0,none⟩) len cap) kk ls'::XJ [j] h)) (hk:X8 n ops F i=true:=by kernel_rfl)
  (hs:storeAt P ops F i=some (g,o,xs):=by kernel_rfl) (hp:Wn [j] h=some [.row (.slice (some ⟨g,0,none⟩) len cap) kk ls]:=by kernel_rfl) (ho:U4 ops i T=bs:=by kernel_rfl)
  (hj:js.map (fun q=>(WG (XJ [j] h))[q]?)=bs.map some:=by kernel_rfl):Vq P n ops B T fuel done F h i:=
 Ki [j] js bs hk (Vv hp) ho hj (PU (h2:=[]) hs hlt (by rw [he];exact H))
theorem E2 (sz:Nat) (hK:∀g,SI P n ops B (k+1) (F.put (ZB ops k).dst (.val (.slice (some ⟨g,0,none⟩) 0 0))) (.row (.slice (some ⟨g,0,none⟩) 0 0) sz []::h)) (hk:X8 n ops F k=true:=by kernel_rfl)
  (ha:TA P ops F k=some ([],0,sz):=by kernel_rfl):SI P n ops B k F h:=TL hk (Zb3 (VQ hk).2.1 ha hK)
theorem Ow (j g sz:Nat) (xs:List AV) (hx:Option Value) (hxs:∀y∈xs,y.leaves.length=sz) (hbound:xs.length<=4294967296) (hK:∀v:Hd,SI P n ops B (k+1) (F.put (ZB ops k).dst (.h v)) (rK v sz (Zo xs)::XJ [j] h))
  (hk:X8 n ops F k=true:=by kernel_rfl) (ha:UF P ops F k=some (.val (.slice (some ⟨g,0,none⟩) 0 0),.sl xs hx,sz):=by kernel_rfl) (hp:Wn [j] h=some [.row (.slice (some ⟨g,0,none⟩) 0 0) sz []]:=by kernel_rfl):SI P n ops B k F h:=
 TL hk (Wx.perm (Ui (Vv hp)) (Zb1 (VQ hk).2.1 ha hxs hbound hK))
theorem Z99 (t j:Nat) {v:Hd} {kk:Nat} (es:List AV) (hes:∀y∈es,y.leaves.length=kk) (H:Yz P n c A ((t,.sl es (some v.v))::F) (.tail v.v kk::XJ [j] h)) (hk:0<kk:=by omega) (hF':F.get t=.h v:=by kernel_rfl)
  (hp:Wn [j] h=some [rK v kk (Zo es)]:=by kernel_rfl):Yz P n c A F h:=Z0i t j hF' hp hes hk H
theorem LA {A xs ys B:List AV} {o:Nat} (hA:A.length=o) (hl:xs.length=ys.length):(A++(xs++B)).take o++ys++(A++(xs++B)).drop (o+ys.length)=A++(ys++B):=by
 subst hA
 rw [A0,<-hl,<-List.drop_drop,List.drop_left,List.drop_left,Q1]
theorem Zcc {A xs B:List AV} {o:Nat} (hA:A.length=o):((A++(xs++B)).drop o).take xs.length=xs:=by
 subst hA
 rw [List.drop_left,A0]
theorem Qn (xs ys:List AV):Zo (xs++ys)=Zo xs++Zo ys:=by simp [Zo]
theorem Z55:Zo []=[]:=rfl
theorem Mb (j:Nat) (v:Value) (q:Nat) (ls ls':List AV) (e:ls=ls') (hp:Wn [j] h=some [.row v q ls]:=by kernel_rfl):Ts h (.row v q ls'::XJ [j] h):=by
 subst e
 intro w G hh
 have hp':=Ui (Vv hp)
 exact ⟨G,hh.perm hp',(YV.refl w G h).perm (Qk _) hp'⟩
end
end Go.Abs
end
section
namespace Go.Abs
theorem Yv.rgrow {w:World} {G:Yc} {h2:List Res} {g len len' cap k:Nat} {ls ls':List AV} (hh:Yv w G (.row (.slice (some ⟨g,0,none⟩) len cap) k ls::h2)) {cs cs':Array Value} {e:TypeId}
  (hb:w.heap[g]? = some (.cells cs e (0,0))) (Xi:cs'.size=cs.size) (hle:len'<=cap) (hcap:cs.size=cap*k) (hl:ls'.length=len'*k) (hls:YR w G ls' (cs'.toList.take (len'*k))) :
  Yv (w.setRow g cs') G (.row (.slice (some ⟨g,0,none⟩) len' cap) k ls'::h2) /\
   YV w G (.row (.slice (some ⟨g,0,none⟩) len cap) k ls::h2) (w.setRow g cs') G (.row (.slice (some ⟨g,0,none⟩) len' cap) k ls'::h2):=by
 have hmem:Res.row (.slice (some ⟨g,0,none⟩) len cap) k ls∈Res.row (.slice (some ⟨g,0,none⟩) len cap) k ls::h2:=Xf ..
 have hA:VT G w (w.setRow g cs') G:=⟨fun c j hg=>by
  have hne:c≠g:=fun he=>hh.prot _ hmem c j he hg
  simp [World.cell?,VR w g c cs' hne],fun _ _ h=>h⟩
 have e1:YV w G [.row (.slice (some ⟨g,0,none⟩) len cap) k ls] (w.setRow g cs') G [.row (.slice (some ⟨g,0,none⟩) len' cap) k ls']:=by
  refine ⟨rfl,rfl,rfl,by simp [World.setRow],fun _ _ h=>h,?_,fun _ _ _ h=>.inl h,?_⟩
  ·intro c hc
   by_cases hcb:c=g
   ·subst hcb
    exact .inr ⟨cs,cs',e,(0,0),hb,setRow_heap w c cs cs' e (0,0) hb,Xi,fun j hj=>absurd ⟨_,Xf ..,rfl⟩ hj⟩
   ·exact .inl (VR w g c cs' hcb)
  ·rintro c j _ ⟨r,hr,hf⟩
   rw [Xv.1 hr] at hf
   exact ⟨_,Xf ..,hf⟩
 have e2:Yv (w.setRow g cs') G [.row (.slice (some ⟨g,0,none⟩) len' cap) k ls']:=by
  refine ⟨fun r hr=>?_,BE _ _,fun r hr c j hf hg=>?_,fun c j hg=>?_⟩
  ·rw [Xv.1 hr]
   exact .inr ⟨g,len',cap,cs',e,rfl,setRow_heap w g cs cs' e (0,0) hb,hle,Xi.trans hcap,hl,hls.mono hA⟩
  ·rw [Xv.1 hr] at hf
   exact hh.prot _ hmem c j hf hg
  ·have:=hh.lt c j hg
   simpa [World.setRow] using this
 exact Yv.frame (h:=[.row (.slice (some ⟨g,0,none⟩) len cap) k ls]) (k:=h2) hh e1 e2
section
variable {P:Program} {n:Nat} {ops:Array Oper} {k:Nat} {F:Fr} {h2:List Res}
theorem PS {K:Fr->List Res->Prop} {v:Hd} {sz m:Nat} {ls xs:List AV} {hx:Option Value} (hd:Vr n (ZB ops k)=true) (ha:UF P ops F k=some (.val v.v,.sl xs hx,sz))
  (hxs:∀y∈xs,y.leaves.length=sz) (hone:(Zo xs).all AV.one=true) (hm0:ls.length=m*sz) (hk0:0<sz) (hne:xs≠[]) (hbound:m+xs.length<=4294967296)
  (hK:∀v':Hd,K (F.put (ZB ops k).dst (.val v'.v)) (.row v'.v sz (ls++Zo xs)::h2)):Wx P n (ZB ops k) F (.row v.v sz ls::h2) K:=by
 unfold UF at ha
 generalize hoo:ZB ops k=o at ha hd hK
 obtain ⟨dst,op,type,pos,after,guard⟩:=o
 cases op<;>simp only at ha<;>try (cases ha)
 rename_i c
 obtain ⟨callee,args,tys⟩:=c
 simp only at ha
 split at ha
 case h_2=>cases ha
 rename_i s x t t' hargs htys
 split at ha
 case h_2=>cases ha
 rename_i e htt ht
 have:=UC htt
 subst this
 split at ha
 case h_2=>cases ha
 rename_i i hinfo
 split at ha
 case h_2=>cases ha
 rename_i z hz
 split at ha
 case h_2=>cases ha
 rename_i hb
 simp only [W7] at hb
 simp only [Wh,Prod.mk.injEq] at ha
 obtain ⟨h3,h4,hk1⟩:=ha
 have e1:args=#[s,x]:=by rw [<-U6 (xs:=args),hargs]
 have e2:tys=#[t,t]:=by rw [<-U6 (xs:=tys),htys]
 subst e1;subst e2
 have hzs:z.cells.size=sz:=by rw [UC hb.1,hk1]
 have hby:=V8 hb.2
 have hfl:=TJ xs hxs
 intro Q w G a hF hh
 have v1:=hF.ev s
 have v2:=hF.ev x
 rw [h3] at v1
 rw [h4] at v2
 have v1:=v1.val_inv
 have v2:=v2.forget
 have finish:∀(v':Hd) w',(Builtin.append_ #[t,t] type #[v.v,a.eval x]).run P w=.ok v'.v w'->Yv w' G (.row v'.v sz (ls++Zo xs)::h2)->YV w G (.row v.v sz ls::h2) w' G (.row v'.v sz (ls++Zo xs)::h2) ->
   ({ dst:=dst,op:=.call { callee:=.builtin .append,args:=#[s,x],argTypes:=#[t,t] },type:=type,pos:=pos,after:=after,guard:=guard }:Oper).wp P a w
    (fun a' w'=>∃F' h' G',K F' h'/\FR w' G' n F' a'/\Yv w' G' h'/\YV w G (.row v.v sz ls::h2) w' G' h') Q:=by
  intro v' w' hr j1 j2
  have hrun:(execOp a.eval { dst:=dst,op:=.call { callee:=.builtin .append,args:=#[s,x],argTypes:=#[t,t] },type:=type,pos:=pos,after:=after,guard:=guard }).run P w=.ok (.value v'.v) w':=by
   simp only [execOp,resolve,invoke,builtin,Sem.run_bind,Sem.run_pure,Result.andThen_ok,BD,Un,BC,v1,hr]
  unfold Oper.wp
  rw [hrun]
  exact ⟨_,_,G,hK v',(hF.mono (j2.agree hh)).put (UU hd) .val,j1,j2⟩
 have hrow0:=hh.ok (.row v.v sz ls) (Xf ..)
 have hsub2:∀r:Res,List.Sublist (r::h2) (r::.row v.v sz ls::h2):=fun r=>List.Sublist.cons_cons _ (BF _ _)
 have grown:∀(olds news:List Value) (old:Nat),YR w G ls olds->YR w G (Zo xs) news ->
   Yv (w.drew.alloc (.cells (olds.toArray++news.toArray++Builtin.zeroCells z.cells (grownCap w (m+xs.length) old e-(m+xs.length))) e)) G
    (.row (.slice (some ⟨w.heap.size,0,none⟩) (m+xs.length) (grownCap w (m+xs.length) old e)) sz (ls++Zo xs)::h2) /\
   YV w G (.row v.v sz ls::h2) (w.drew.alloc (.cells (olds.toArray++news.toArray++Builtin.zeroCells z.cells (grownCap w (m+xs.length) old e-(m+xs.length))) e)) G
    (.row (.slice (some ⟨w.heap.size,0,none⟩) (m+xs.length) (grownCap w (m+xs.length) old e)) sz (ls++Zo xs)::h2):=by
  intro olds news old ho hn
  have Xe:=grownCap_ge w (m+xs.length) old e
  have hol:=ho.length
  have hnl:=hn.length
  have hlen:(ls++Zo xs).length=(m+xs.length)*sz:=by rw [Yq,hm0,hfl,Ql]
  obtain ⟨j1,j2⟩:=hh.drew.alloc_rrow (olds.toArray++news.toArray++Builtin.zeroCells z.cells (grownCap w (m+xs.length) old e-(m+xs.length))) e
   (ls:=ls++Zo xs) (len:=m+xs.length) (cap:=grownCap w (m+xs.length) old e) (k:=sz) Xe
   (by
    have q2:(grownCap w (m+xs.length) old e-(m+xs.length))*sz=grownCap w (m+xs.length) old e*sz-(m+xs.length)*sz:=Nat.sub_mul ..
    have q3:(m+xs.length)*sz<=grownCap w (m+xs.length) old e*sz:=QE _ Xe
    have q4:(m+xs.length)*sz=m*sz+xs.length*sz:=Ql ..
    simp only [Array.size_append,Dv,size_zeroCells,hzs,hol,hnl,hm0,hfl]
    omega) hlen
   (by
    have:(olds.toArray++news.toArray++Builtin.zeroCells z.cells (grownCap w (m+xs.length) old e-(m+xs.length))).toList.take ((m+xs.length)*sz)=olds++news:=by
     simp only [Dt]
     rw [<-hlen,Yq,<-hol,<-hnl,<-Yq]
     exact A0
    rw [this]
    exact (ho.append hn).mono (AX w G))
  exact ⟨j1.sub (hsub2 _),(YV.drew w G _).trans (j2.sub' (hsub2 _))⟩
 generalize hax:a.eval x=ax at v2 finish
 cases v2 with
 | nil _=>exact absurd rfl hne
 | sl hq hcc hm=>
  rename_i b o' k' c
  have hpos:0<xs.length:=Hc.2 hne
  have hfm:=hm.flat_mem
  obtain ⟨news,hn,hnc⟩:=hfm.cells
  have hnl:news.length=xs.length*i.size:=by rw [hn.length,hfl,hk1]
  have hone':=hn.one_cells hone
  have hnews:∀j u,news[j]? = some u->w.cell? ((⟨b,o',none⟩:Addr).add j)=some u:=fun j u hj=>by rw [KD];exact (hnc j u hj).1
  have hbb:(m+xs.length)*i.bytes<=140737488355328:=by
   have:=Nat.mul_le_mul hbound hby
   omega
  rcases hrow0 with ⟨hv0,hl0⟩|⟨g,len,cap,cur,el,hv0,hrow,hlc,hcur,hll,hcells⟩
  ·subst hl0
   have hm1:m=0:=by
    have:m*sz=0:=by simpa using hm0.symm
    rcases Nat.mul_eq_zero.1 this with h|h
    ·exact h
    ·omega
   subst hm1
   rw [hv0] at finish hh ⊢
   have hr:=run_append_nil (P:=P) w t type e i z ht hinfo hz ⟨b,o',none⟩ xs.length c news hnl hnews hpos om (by simp only [Vd] at hbb;omega)
   obtain ⟨j1,j2⟩:=grown [] news 0 .nil hn
   simp only [Vd,Array.empty_append,Cp] at j1 j2
   rw [hv0] at j2
   exact finish ⟨some ⟨w.heap.size,0,none⟩,xs.length,grownCap w xs.length 0 e⟩ _ hr (by simpa using j1) (by simpa using j2)
  ·have hlm:len=m:=He hk0 (hll.symm.trans hm0)
   subst hlm
   rw [hv0] at finish hh ⊢
   have q5:len*sz<=cap*sz:=QE _ hlc
   have h1:(cur.toList.take (len*sz)).length=len*sz:=by rw [WC,Kv,hcur,VA q5]
   have hcl:cur.toList.length=cap*sz:=by rw [Kv,hcur]
   by_cases hroom:len+xs.length<=cap
   ·have q1:(len+xs.length)*sz<=cap*sz:=QE _ hroom
    have q2:(len+xs.length)*sz=len*sz+xs.length*sz:=Ql ..
    have hfit:len*i.size+news.length<=cur.size:=by rw [hnl,hcur,hk1];omega
    have hr:=Gx (P:=P) w t type e el i ht hinfo g len cap cur hrow ⟨b,o',none⟩ xs.length c news hnl hnews hone' hroom hfit
    rw [hk1] at hr
    have hnl':news.length=xs.length*sz:=by rw [hnl,hk1]
    obtain ⟨j1,j2⟩:=hh.rgrow (ls':=ls++Zo xs) (len':=len+xs.length) (cs':=(cur.toList.take (len*sz)++news++cur.toList.drop (len*sz+news.length)).toArray) hrow
     (by simp only [Dv,Yq,h1,hnl',BB,hcl,hcur];omega) hroom hcur (by rw [Yq,hll,hfl,q2]) (by
      have:(cur.toList.take (len*sz)++news++cur.toList.drop (len*sz+news.length)).toArray.toList.take ((len+xs.length)*sz)=cur.toList.take (len*sz)++news:=by
       rw [Dw,q2,<-hnl']
       conv=>lhs;arg 1;rw [show len*sz+news.length=(cur.toList.take (len*sz)++news).length from by rw [Yq,h1]]
       exact A0
      rw [this]
      exact hcells.append hn)
    exact finish ⟨some ⟨g,0,none⟩,len+xs.length,cap⟩ _ hr j1 j2
   ·have hr:=run_append_grow (P:=P) w t type e i z ht hinfo hz ⟨g,0,none⟩ len cap (cur.toList.take (len*sz)) (by rw [hk1];exact h1) (fun j u hj=>by
     rw [KD,cell_of_row w g _ cur el (0,0) hrow]
     rw [TE] at hj
     split at hj
     ·simpa using hj
     ·cases hj) ⟨b,o',none⟩ xs.length c news hnl hnews om om (growslice_fits om hbb)
    obtain ⟨j1,j2⟩:=grown (cur.toList.take (len*sz)) news cap hcells hn
    rw [hv0] at j2
    exact finish ⟨some ⟨w.heap.size,0,none⟩,len+xs.length,grownCap w (len+xs.length) cap e⟩ _ hr j1 j2
end
section
variable {P:Program} {n:Nat} {ops:Array Oper} {B:Fr->List Res->Prop} {k:Nat} {F:Fr} {h:List Res}
theorem FQ (j m:Nat) (v:Hd) (sz:Nat) (ls xs:List AV) (hx:Option Value) (hm0:ls.length=m*sz) (hxs:∀y∈xs,y.leaves.length=sz) (hone:(Zo xs).all AV.one=true) (hne:xs≠[]) (hbound:m+xs.length<=4294967296)
  (hK:∀v':Hd,SI P n ops B (k+1) (F.put (ZB ops k).dst (.h v')) (rK v' sz (ls++Zo xs)::XJ [j] h)) (hk0:0<sz:=by omega)
  (hk:X8 n ops F k=true:=by kernel_rfl) (ha:UF P ops F k=some (.h v,.sl xs hx,sz):=by kernel_rfl) (hp:Wn [j] h=some [rK v sz ls]:=by kernel_rfl):SI P n ops B k F h:=
 TL hk (Wx.perm (Ui (Vv hp)) (PS (VQ hk).2.1 ha hxs hone hm0 hk0 hne hbound hK))
end
end Go.Abs
namespace Go.Abs
section
variable {P:Program} {n:Nat} {ops:Array Oper} {B:Fr->List Res->Prop} {T:List (Nat × List Nat)} {fuel:Nat} {done:List Nat} {F:Fr} {h:List Res}
theorem HN (i j m:Nat) (js bs:List Nat) (v:Hd) (sz:Nat) (ls xs:List AV) (hx:Option Value) (hm0:ls.length=m*sz) (hxs:∀y∈xs,y.leaves.length=sz) (hone:(Zo xs).all AV.one=true) (hne:xs≠[]) (hbound:m+xs.length<=4294967296)
  (hK:∀v':Hd,YU P n ops B (T.filter fun t=>!V2 ops i t.1) fuel (done++[i]) (F.put (ZB ops i).dst (.h v')) (rK v' sz (ls++Zo xs)::XJ [j] h)) (hk0:0<sz:=by omega) (hk:X8 n ops F i=true:=by kernel_rfl)
  (ha:UF P ops F i=some (.h v,.sl xs hx,sz):=by kernel_rfl) (hp:Wn [j] h=some [rK v sz ls]:=by kernel_rfl) (ho:U4 ops i T=bs:=by kernel_rfl)
  (hj:js.map (fun q=>(WG (XJ [j] h))[q]?)=bs.map some:=by kernel_rfl):Vq P n ops B T fuel done F h i:=
 Ki [j] js bs hk (Vv hp) ho hj (PS (h2:=[]) (VQ hk).2.1 ha hxs hone hm0 hk0 hne hbound hK)
end
theorem WI.form {P:Program} {f:FuncId} {as1:List AV} {h0:List Res} {T:Hd->AV} {kk m:Nat} {ls:List AV} {hs:List Res} (H:WI P f as1 h0 (fun r h=>∃v:Hd,r=T v/\h=rK v kk ls::hs)) (hm:ls.length=m*kk) (hk:0<kk) (h1:0<m) :
  WI P f as1 h0 (fun r h=>∃(g c:Nat),r=T ⟨some ⟨g,0,none⟩,m,c⟩/\h=rK ⟨some ⟨g,0,none⟩,m,c⟩ kk ls::hs):=by
 intro w G vs hv hh
 refine (H w G vs hv hh).mono ?_
 rintro e w' ⟨u,r,h',G',he,⟨v,rfl,rfl⟩,hr,hh',hx⟩
 obtain ⟨g,c,rfl⟩:=Rq (hh'.ok _ (Xf ..)) hm hk h1
 exact ⟨u,_,_,G',he,⟨g,c,rfl,rfl⟩,hr,hh',hx⟩
end Go.Abs
namespace Go.Abs
section
variable {h:List Res}
theorem Zfo (j i p:Nat) {u:Value} {kk b:Nat} {es ls:List AV} (hp:Wn [j,i] h=some [.row u kk (Zo es),.obj b ls]) (hes:∀y∈es,y.leaves.length=kk) (hk:0<kk) (hl:ls[p]? = some (.val u)) :
  Ts h (.obj b (ls.set p (.sl es (some u)))::.tail u kk::XJ [j,i] h):=by
 intro w G hh
 have hp':=Ui (Vv hp)
 have hh':=hh.perm hp'
 obtain ⟨G',h1,h2',h3⟩:=Cf (h2:=.obj b ls::XJ [j,i] h) hh' hes hk
 have e:=h2'.perm hp'.symm (Qk _)
 have h1:Yv w G' (.tail u kk::.obj b ls::XJ [j,i] h):=h1
 have perm:(Res.tail u kk::.obj b ls::XJ [j,i] h).Perm (.obj b ls::.tail u kk::XJ [j,i] h):=List.Perm.swap ..
 have h4:=h1.perm perm
 have e4:=e.perm (Qk _) perm
 have hset:∀{w:World} {G:Yc},RV w G (.sl es (some u)) u->Q3 w G (.obj b ls)->Q3 w G (.obj b (ls.set p (.sl es (some u)))):=by
  intro w G hu hr
  obtain ⟨cs,el,k1,k5⟩:=hr
  refine ⟨cs,el,k1,?_⟩
  obtain ⟨c,c1,c2⟩:=k5.get p _ hl
  have:=c2.val_inv
  subst this
  have h6:=k5.set p hu
  rwa [show cs.toList.set p c=cs.toList from by
   apply List.ext_getElem?
   intro q
   rw [List.getElem?_set]
   split
   ·rename_i hq;subst hq;split
    ·exact c1.symm
    ·rename_i hq2;rw [Du om]
   ·rfl] at h6
 refine ⟨G',⟨fun r hr=>?_,?_,fun r hr=>?_,h4.lt⟩,⟨e4.os,e4.tape,e4.output,e4.size,e4.sub,e4.same,e4.newG,fun b' o hb ⟨r,hr,hf⟩=>e4.newfp b' o hb ?_⟩⟩
 ·rcases YB.1 hr with rfl|hr
  ·exact hset h3 (h4.ok _ (Xf ..))
  ·exact h4.ok r (XD _ hr)
 ·have:=WH.1 h4.apart
  exact WH.2 ⟨fun r hr b' o f1 f2=>this.1 r hr b' o f1 f2,this.2⟩
 ·rcases YB.1 hr with rfl|hr
  ·exact fun b' o f1 hg=>h4.prot (.obj b ls) (Xf ..) b' o f1 hg
  ·exact h4.prot r (XD _ hr)
 ·rcases YB.1 hr with rfl|hr
  ·exact ⟨.obj b ls,Xf ..,hf⟩
  ·exact ⟨r,XD _ hr,hf⟩
theorem Tp (j i p:Nat) (u:Value) (kk b:Nat) (es ls:List AV) (hes:∀y∈es,y.leaves.length=kk) (hl:ls[p]? = some (.val u)) (hk:0<kk:=by omega) (hp:Wn [j,i] h=some [.row u kk (Zo es),.obj b ls]:=by kernel_rfl) :
  Ts h (.obj b (ls.set p (.sl es (some u)))::.tail u kk::XJ [j,i] h):=Zfo j i p hp hes hk hl
end
end Go.Abs
namespace Go.Abs
section
variable {P:Program} {n:Nat} {ops:Array Oper} {k:Nat} {F:Fr} {h:List Res}
theorem Zf5 (j:Nat) {g l c m kk:Nat} {ls:List AV} (hi:Dl P ops F k=some (.val (.slice (some ⟨g,0,none⟩) l c),(m:Int))) (hj:h[j]? = some (.row (.slice (some ⟨g,0,none⟩) l c) kk ls)) (hle:m<=l) :
  Xw P (ZB ops k) F h [] (.val (.slice (some ⟨g,0,none⟩) m c)):=by
 unfold Dl at hi
 generalize hoo:ZB ops k=o at hi
 obtain ⟨dst,op,type,pos,after,guard⟩:=o
 cases op<;>simp only at hi<;>try (cases hi)
 rename_i t x lo hi' mx
 cases lo with
 | some _=>simp at hi
 | none=>
  cases hi' with
  | none=>simp at hi
  | some y=>
   cases mx with
   | some _=>simp at hi
   | none=>
    simp only at hi
    split at hi
    ·rename_i e ht
     split at hi
     ·rename_i inf hinf
      split at hi
      ·rename_i ik m' hm
       simp only [Wh,Prod.mk.injEq] at hi
       obtain ⟨hx,rfl⟩:=hi
       intro n w G a hF hh
       have v1:=hF.ev x
       rw [hx] at v1
       have v1:=v1.val_inv
       have v2:=hF.ev y
       rw [hm] at v2
       have v2:=v2.val_inv
       have hcap:l<=c:=by
        rcases hh.ok _ (ZX hj) with ⟨h0,_⟩|⟨g',l',c',cur,el,h0,_,hc,_⟩
        ·cases h0
        ·cases h0;exact hc
       refine ⟨_,.val,fun w' _ _=>?_⟩
       simp only [execOp,v1,v2,BH,Option.map_none]
       refine Vh ?_
       simp only [Instr.sliceAt,Sem.run_bind,VJ ht,Result.andThen_ok,Instr.slice]
       have hmm:(Instr.sliceBounds true l c none (some (.int ik (m:Int))) none).run P w'=.ok (0,m,c) w':=by
        have ZA:=fun q=>Dj (P:=P) (c:=q) (v:=.int ik (m:Int)) (y:=c) rfl om om w'
        simp [Instr.sliceBounds,ZA]
       rw [hmm]
       have hz:∀a:Addr,a.add 0=a:=fun a=>by simp [Addr.add]
       simp only [Result.andThen_ok,Qh hinf,Nat.zero_mul,hz]
       by_cases h0:c=0<;>simp [h0]
      ·cases hi
     ·cases hi
    ·cases hi
theorem IK (j g l c m kk:Nat) (ls:List AV) (hle:m<=l:=by omega) (hi:Dl P ops F k=some (.val (.slice (some ⟨g,0,none⟩) l c),(m:Int)):=by kernel_rfl) (hj:h[j]? = some (.row (.slice (some ⟨g,0,none⟩) l c) kk ls):=by kernel_rfl) :
  Xw P (ZB ops k) F h [] (.val (.slice (some ⟨g,0,none⟩) m c)):=Zf5 j hi hj hle
variable {B:Fr->List Res->Prop}
end
end Go.Abs
end
namespace Go.Abs
theorem Y7 {α:Type} {xs:List α} {k:Nat} {x:α} (h:xs[k]? = some x):xs.drop k=x::xs.drop (k+1):=by
 have hk:=(Xc.1 h).1
 rw [Z03 hk]
 congr 1
 rw [Kw hk] at h
 exact Q2 h
theorem Xh {α:Type} {xs:List α} {k:Nat} (h:xs.length<=k):xs.drop k=[]:=Ha h
theorem V7 {α:Type} {xs:List α} {k:Nat} {x:α} (h:xs[k]? = some x):xs.take (k+1)=xs.take k++[x]:=by
 rw [List.take_add_one,h];rfl
def YN:List Zg->Nat
 | []=>0
 | d::ds=>d.cons.length+YN ds
theorem DK (xs ys:List Zg):YN (xs++ys)=YN xs+YN ys:=by
 induction xs with
 | nil=>simp [YN]
 | cons d ds ih=>simp [YN,ih];omega
structure Wr (ds:List Zg):Prop where
 len:ds.length<=4
 cons:∀d∈ds,d.cons.length<=3
 fields:∀d∈ds,∀c∈d.cons,c.fields.length<=3
theorem Z35 {ds:List Zg} {m:Nat} (h:∀d∈ds,d.cons.length<=m):YN ds<=ds.length*m:=by
 induction ds with
 | nil=>simp [YN]
 | cons d ds ih=>
  have h1:=h d (by simp)
  have h2:=ih (fun x hx=>h x (by simp [hx]))
  simp only [YN,YQ,Ql];omega
theorem Wr.sum {ds:List Zg} (h:Wr ds):YN ds<=12:=by
 have:=Z35 h.cons
 have:=h.len
 have:ds.length*3<=4*3:=QE 3 h.len
 omega
theorem Wr.take {ds:List Zg} (h:Wr ds) (k:Nat):Wr (ds.take k):=
 ⟨by have:=h.len;simp;omega,fun d hd=>h.cons d (TN hd),fun d hd=>h.fields d (TN hd)⟩
theorem Wr.cons_at {ds:List Zg} (h:Wr ds) {k:Nat} {d:Zg} (hd:ds[k]? = some d):d.cons.length<=3:=h.cons d (ZX hd)
theorem Wr.fields_at {ds:List Zg} (h:Wr ds) {k j:Nat} {d:Zg} {c:Yk} (hd:ds[k]? = some d) (hc:d.cons[j]? = some c):c.fields.length<=3:=
 h.fields d (ZX hd) c (ZX hc)
def Ta (c:Int):List Zg->Nat->Nat->Int × LI
 | [],_,_=>(-1,[])
 | d::ds,i,first=>
  if (first:Int)<=c/\c<=((first+d.cons.length:Nat):Int)-1 then ((i:Int)+1,(d.cons[(c-first).toNat]?.map (·.fields)).getD []) else Ta c ds (i+1) (first+d.cons.length)
def Wg (ds:List Zg) (c:Int):Int:=(Ta c ds 0 0).1
def ZV (ds:List Zg) (c:Int):LI:=(Ta c ds 0 0).2
theorem HK {c:Int}:∀{ds:List Zg} {i first:Nat},(Ta c ds i first=(-1,[]) ∨
  ∃k d x,ds[k]? = some d/\(first+YN (ds.take k):Int)<=c/\c<first+YN (ds.take k)+d.cons.length/\d.cons[(c-(first+YN (ds.take k))).toNat]? = some x/\Ta c ds i first=((i:Int)+k+1,x.fields))
 | [],_,_=>.inl rfl
 | d::ds,i,first=>by
  rw [Ta]
  split
  ·rename_i h
   have hlt:(c-first).toNat<d.cons.length:=by omega
   refine .inr ⟨0,d,d.cons[(c-first).toNat],rfl,by simp [YN];omega,by simp [YN];omega,?_,?_⟩
   ·simp [YN]
   ·rw [Kw hlt];simp
  ·rcases HK (c:=c) (ds:=ds) (i:=i+1) (first:=first+d.cons.length) with h|⟨k,e,x,h1,h2,h3,h4,h5⟩
   ·exact .inl h
   ·refine .inr ⟨k+1,e,x,by simpa using h1,by simp [YN];omega,by simp [YN];omega,?_,?_⟩
    ·rw [<-h4];congr 3;simp [YN];omega
    ·rw [h5];congr 1;omega
theorem HL {ds:List Zg} {c:Int} (h:¬Wg ds c<1) :
  ∃k d x,ds[k]? = some d/\(YN (ds.take k):Int)<=c/\d.cons[(c-YN (ds.take k)).toNat]? = some x/\Wg ds c=(k:Int)+1/\ZV ds c=x.fields:=by
 rcases HK (c:=c) (ds:=ds) (i:=0) (first:=0) with h1|⟨k,d,x,h1,h2,_,h4,h5⟩
 ·simp [Wg,h1] at h
 ·exact ⟨k,d,x,h1,by simpa using h2,by simpa using h4,by simp [Wg,h5],by simp [ZV,h5]⟩
theorem F9 {ds:List Zg} {c:Int} (h:Wg ds c<1):ZV ds c=[]/\Wg ds c=-1:=by
 rcases HK (c:=c) (ds:=ds) (i:=0) (first:=0) with h1|⟨k,d,x,h1,h2,_,h4,h5⟩
 ·simp [ZV,Wg,h1]
 ·simp [Wg,h5] at h;omega
def Vt (first:Int):Nat->LI
 | 0=>[]
 | n+1=>first::Vt (first+1) n
theorem PG (first:Int) (n:Nat):Vt first (n+1)=Vt first n++[first+n]:=by
 induction n generalizing first with
 | zero=>simp [Vt]
 | succ n ih=>rw [Vt,ih (first+1),Vt];simp;omega
@[simp] theorem Zao (first:Int) (n:Nat):(Vt first n).length=n:=by
 induction n generalizing first with
 | zero=>rfl
 | succ n ih=>simp [Vt,ih]
def ZY (ds:List Zg) (t:Int):LI:=
 if 1<=t/\t<=ds.length then Vt (YN (ds.take (t-1).toNat)) (((ds[(t-1).toNat]?).map (·.cons.length)).getD 0) else []
def Kd (frm to_:Int):List Zg->Nat->Int
 | [],_=>-1
 | d::ds,i=>if d.cons.length=0/\d.frm=frm/\d.to_=to_ then (i:Int)+1 else Kd frm to_ ds (i+1)
def Ue (ds:List Zg) (frm to_:Int):Int:=Kd frm to_ ds 0
def XX (ds:List Zg) (t:Int):Bool:=decide (1<=t/\t<=ds.length)&&((ds[(t-1).toNat]?).map fun d=>decide (d.cons.length=0)).getD false
theorem FZ {ds:List Zg} {t:Int} {x:Zg} (h:1<=t/\t<=ds.length) (hx:ds[(t-1).toNat]? = some x):((x.cons.length:Int)==0)=XX ds t:=by
 rw [XX,hx,Xl];simp [h]
theorem IF {ds:List Zg} {t:Int} (h:¬(1<=t/\t<=ds.length)):false=XX ds t:=by
 rw [XX,Xl];simp only [Bool.false_eq_true,W7,decide_eq_true_eq,h,false_and]
def Wj (m:Nat) (xs:LI):Bool:=xs.all fun t=>decide (0<=t/\t<=m)
end Go.Abs
section
namespace Go.Abs
section
variable {h:List Res}
end
end Go.Abs
namespace Go.Abs
section
variable {P:Program} {ops:Array Oper} {k:Nat} {F:Fr} {h:List Res}
end
end Go.Abs
end
namespace Go.Abs
section
variable {P:Program} {n:Nat} {ops:Array Oper} {B:Fr->List Res->Prop} {k:Nat} {F:Fr} {h:List Res} {T:List (Nat × List Nat)} {fuel:Nat} {done:List Nat}
theorem PT {K:Fr->List Res->Prop} {ls:List AV} {len sz:Nat} (hd:Vr n (ZB ops k)=true) (ha:TA P ops F k=some (ls,len,sz)) (hlen:ls.length=len*sz)
  (hK:∀g,K (F.put (ZB ops k).dst (.val (.slice (some ⟨g,0,none⟩) len len))) (.row (.slice (some ⟨g,0,none⟩) len len) sz ls::h)):Wx P n (ZB ops k) F h K:=by
 unfold TA at ha
 generalize hoo:ZB ops k=q at ha hd hK
 obtain ⟨dst,op,type,pos,after,guard⟩:=q
 cases op<;>simp only at ha<;>try (cases ha)
 rename_i t ln parts
 split at ha
 case h_2=>cases ha
 rename_i e ht
 split at ha
 case h_2=>cases ha
 rename_i i hi
 split at ha
 case h_2=>cases ha
 rename_i hc
 simp only [W7] at hc
 split at ha
 case h_2=>cases ha
 rename_i ls' hf
 simp only [Wh,Prod.mk.injEq] at ha
 obtain ⟨rfl,rfl,Xi⟩:=ha
 intro Q w G a hF hh
 obtain ⟨cs,h1,h2⟩:=Gy hF parts ht hi rfl hc.1 hc.2 hf
 have hr:(execOp a.eval { dst:=dst,op:=.buildSlice t ln parts,type:=type,pos:=pos,after:=after,guard:=guard }).run P w =
   .ok (.value (.slice (some ⟨w.heap.size,0,none⟩) ln ln)) (w.alloc (.cells cs e)):=by
  simp only [execOp]
  exact Vh h2
 unfold Oper.wp
 rw [hr]
 have hlc:=h1.length
 simp only [Kv] at hlc
 obtain ⟨j1,j2⟩:=hh.alloc_rrow cs e (ls:=ls') (len:=ln) (cap:=ln) (k:=sz) (X5 _) (by rw [hlc];exact hlen) hlen (by rw [<-hlen,<-hlc];simpa [Vi] using h1)
 exact ⟨_,_,G,hK _,(hF.mono (j2.agree hh)).put (UU hd) .val,j1,j2⟩
theorem UJ (es es':List AV) (he:es=es') (len sz:Nat) (hK:∀v,SI P n ops B (k+1) (F.put (ZB ops k).dst (.sl es' (some v))) (.tail v sz::h)) (hk:X8 n ops F k=true:=by kernel_rfl)
  (ha:TA P ops F k=some (Zo es,len,sz):=by kernel_rfl) (hlen:es.length=len:=by kernel_rfl) (hall:Aa es sz=true:=by kernel_rfl):SI P n ops B k F h:=by
 subst he;exact iL es len sz hK hk ha hlen hall
theorem WE (i:Nat) (js bs:List Nat) (es es':List AV) (he:es=es') (len sz:Nat) (hK:∀v,YU P n ops B (T.filter fun t=>!V2 ops i t.1) fuel (done++[i]) (F.put (ZB ops i).dst (.sl es' (some v))) (.tail v sz::h))
  (hk:X8 n ops F i=true:=by kernel_rfl) (ha:TA P ops F i=some (Zo es,len,sz):=by kernel_rfl) (hlen:es.length=len:=by kernel_rfl) (hall:Aa es sz=true:=by kernel_rfl)
  (ho:U4 ops i T=bs:=by kernel_rfl) (hj:js.map (fun j=>(WG h)[j]?)=bs.map some:=by kernel_rfl):Vq P n ops B T fuel done F h i:=by
 subst he;exact dL i js bs es len sz hK hk ha hlen hall ho hj
theorem iKN (ls:List AV) (len sz:Nat) (hK:∀g,SI P n ops B (k+1) (F.put (ZB ops k).dst (.val (.slice (some ⟨g,0,none⟩) len len))) (.row (.slice (some ⟨g,0,none⟩) len len) sz ls::h)) (hlen:ls.length=len*sz:=by rfl) (hk:X8 n ops F k=true:=by kernel_rfl)
  (ha:TA P ops F k=some (ls,len,sz):=by kernel_rfl):SI P n ops B k F h:=TL hk (PT (VQ hk).2.1 ha hlen hK)
theorem dKN (i:Nat) (js bs:List Nat) (ls:List AV) (len sz:Nat) (hK:∀g,YU P n ops B (T.filter fun t=>!V2 ops i t.1) fuel (done++[i]) (F.put (ZB ops i).dst (.val (.slice (some ⟨g,0,none⟩) len len))) (.row (.slice (some ⟨g,0,none⟩) len len) sz ls::h)) (hlen:ls.length=len*sz:=by rfl)
  (hk:X8 n ops F i=true:=by kernel_rfl) (ha:TA P ops F i=some (ls,len,sz):=by kernel_rfl) (ho:U4 ops i T=bs:=by kernel_rfl) (hj:js.map (fun j=>(WG h)[j]?)=bs.map some:=by kernel_rfl):Vq P n ops B T fuel done F h i:=
 Ki (h1:=[]) (h2:=h) [] js bs hk rfl ho hj (PT (VQ hk).2.1 ha hlen hK)
end
theorem WI.frz {P:Program} {f:FuncId} {as1:List AV} {h0:List Res} {E:Type} {kk:Nat} {es:E->List AV} {hs:E->List Res} {Q:E->Prop} (H:WI P f as1 h0 (fun r h=>∃(e:E) (v:Hd),r=.h v/\h=rK v kk (Zo (es e))::hs e/\Q e)) (hes:∀e,∀y∈es e,y.leaves.length=kk) (hk:0<kk) :
  WI P f as1 h0 (fun r h=>∃(e:E) (v:Value),r=.sl (es e) (some v)/\h=.tail v kk::hs e/\Q e):=by
 intro w G vs hv hh
 refine (H w G vs hv hh).mono ?_
 rintro e w' ⟨u,r,h',G',he,⟨x,v,rfl,rfl,hq⟩,hr,hh',hx⟩
 obtain ⟨G2,h1,h2,h3⟩:=Cf hh' (hes x) hk
 have hrv:=hr.val_inv
 subst hrv
 exact ⟨_,_,_,G2,he,⟨x,v.v,rfl,rfl,hq⟩,h3,h1,hx.trans h2⟩
theorem FA {es:List AV} {sz k:Nat} {y:AV} (h:∀x∈es,x.leaves.length=sz) (hy:y.leaves.length=sz) (hk:k<es.length):(Zo es).take (k*sz)++y.leaves++(Zo es).drop (k*sz+y.leaves.length)=Zo (es.set k y):=by
 obtain ⟨x,hx⟩:=QQ (xs:=es) (j:=k) hk
 have hxl:=h x (ZX hx)
 have e1:es=es.take k++(x::es.drop (k+1)):=by rw [<-Y7 hx,UB]
 have e2:es.set k y=es.take k++(y::es.drop (k+1)):=by rw [EG,Zf hk]
 have hl:(Zo (es.take k)).length=k*sz:=by rw [TJ (k:=sz) _ (fun z hz=>h z (TN hz)),WC,VA om]
 have e3:Zo es=Zo (es.take k)++(x.leaves++Zo (es.drop (k+1))):=by
  conv=>lhs;rw [e1,Qn]
  simp [Zo]
 rw [e2,Qn,e3,LA hl (by rw [hxl,hy])]
 simp [Zo]
theorem Z4a (ds:List Zg) (k:Nat) (d:Zg):X3 (ds.set k d)=(X3 ds).set k (BL d):=by simp [X3,List.map_set]
theorem BY (xs:List Zg):(Zo (X3 xs)).length=xs.length*3:=by rw [TJ (k:=3) _ (Jk xs)];simp
theorem Fw {ds:List Zg} {k:Nat} (d:Zg) (hk:k<ds.length):(Zo (X3 ds)).take (k*3)++QV d++(Zo (X3 ds)).drop (k*3+3)=Zo (X3 (ds.set k d)):=by
 rw [Z4a];exact FA (y:=BL d) (Jk ds) rfl (by simpa using hk)
theorem Ic (xs ys:List Zg):Zo (X3 xs)++Zo (X3 ys)=Zo (X3 (xs++ys)):=by rw [Z49,Qn]
section
variable {P:Program} {n:Nat} {ops:Array Oper} {B:Fr->List Res->Prop} {k:Nat} {F:Fr} {h:List Res}
theorem FP (j m:Nat) {v:Hd} {kk:Nat} {ls:List AV} (hm:ls.length=m*kk) (h0:0<m) (H:∀g c',v=⟨some ⟨g,0,none⟩,m,c'⟩->SI P n ops B k F h) (hk:0<kk:=by omega) (hj:h[j]? = some (rK v kk ls):=by kernel_rfl):SI P n ops B k F h:=by
 intro Q w G a hF hh hq
 obtain ⟨g,c',e⟩:=Rq (hh.ok _ (ZX hj)) hm hk h0
 exact H g c' e Q w G a hF hh hq
end
section
variable {P:Program} {n:Nat} {ops:Array Oper} {B:Fr->List Res->Prop} {k:Nat} {F:Fr} {h:List Res}
def HM (P:Program) (ops:Array Oper) (F:Fr) (k:Nat):Option (IntKind × Int):=
 match (ZB ops k).op with
 | .convert s d x=>match P.underlying s,P.underlying d,F.ev x with
  | some (.int _),some (.int q),.val (.int _ z)=>some (q,z)
  | _,_,_=>none
 | _=>none
theorem kCv (q:IntKind) (z z':Int) (e:q.wrap z=z') (hc:HM P ops F k=some (q,z):=by kernel_rfl):Xw P (ZB ops k) F h [] (.val (.int q z')):=by
 unfold HM at hc
 generalize hoo:ZB ops k=o at hc
 obtain ⟨dst,op,type,pos,after,guard⟩:=o
 cases op<;>simp only at hc<;>try (cases hc)
 rename_i s d x
 split at hc
 ·rename_i q1 q2 q3 z2 h1 h2 h3
  cases hc
  intro n w G ac hF hh
  have v1:=hF.ev x
  rw [h3] at v1
  have v1:=v1.val_inv
  refine ⟨_,.val,fun w' _ _=>?_⟩
  simp only [execOp,v1]
  refine Vh ?_
  simp [convert,VJ h1,VJ h2,Conv.intToInt,e]
 ·cases hc
theorem Mo {z:Int} (h:0<=z/\z<=9223372036854775807):IntKind.i64.wrap z=z:=IntWalk.i64_in _ om
theorem D7 (z:Int) (hz:0<=z/\z<=255) (hc:HM P ops F k=some (.i64,z):=by kernel_rfl):Xw P (ZB ops k) F h [] (.i z):=kCv .i64 z z (Mo om) hc
def B0 (ops:Array Oper) (F:Fr) (k:Nat) (b:BinOp):Option (Int × Int):=
 match (ZB ops k).op with
 | .binOp c _ x y _=>if c==b then match F.ev x,F.ev y with
  | .val (.int .i64 z),.val (.int .i64 u)=>some (z,u)
  | _,_=>none else none
 | _=>none
theorem IL (a b:Int) (hb:0<b) (ha:0<=a/\a<=9223372036854775807) (hc:B0 ops F k .quo=some (a,b):=by kernel_rfl):Xw P (ZB ops k) F h [] (.i (a / b)):=by
 unfold B0 at hc
 generalize hoo:ZB ops k=o at hc
 obtain ⟨dst,op,type,pos,after,guard⟩:=o
 cases op<;>simp only at hc<;>try (cases hc)
 rename_i bop t x y yt
 cases bop<;>simp only [Zq,reduceCtorEq,if_false,if_true] at hc<;>try (cases hc)
 split at hc
 ·rename_i z yk h1 h2
  cases hc
  intro n' w G ac hF hh
  have v1:=hF.ev x
  have v2:=hF.ev y
  rw [h1] at v1
  rw [h2] at v2
  have v1:=v1.val_inv
  have v2:=v2.val_inv
  refine ⟨_,.val,fun w' _ _=>?_⟩
  simp only [execOp,v1,v2]
  refine Vh ?_
  have e1:a.tdiv b=a / b:=Int.tdiv_eq_ediv_of_nonneg ha.1
  have e2:IntKind.i64.wrap (a / b)=a / b:=Mo ⟨Int.ediv_nonneg ha.1 om,Int.le_trans (Int.ediv_le_self b ha.1) ha.2⟩
  have e3:b≠0:=by omega
  simp [eqGuard,binOp,Op.intDiv,e1,e2,e3]
 ·cases hc
theorem E5 (a b:Int) (hb:0<b) (ha:0<=a) (hc:B0 ops F k .rem=some (a,b):=by kernel_rfl):Xw P (ZB ops k) F h [] (.i (a % b)):=by
 unfold B0 at hc
 generalize hoo:ZB ops k=o at hc
 obtain ⟨dst,op,type,pos,after,guard⟩:=o
 cases op<;>simp only at hc<;>try (cases hc)
 rename_i bop t x y yt
 cases bop<;>simp only [Zq,reduceCtorEq,if_false,if_true] at hc<;>try (cases hc)
 split at hc
 ·rename_i z yk h1 h2
  cases hc
  intro n' w G ac hF hh
  have v1:=hF.ev x
  have v2:=hF.ev y
  rw [h1] at v1
  rw [h2] at v2
  have v1:=v1.val_inv
  have v2:=v2.val_inv
  refine ⟨_,.val,fun w' _ _=>?_⟩
  simp only [execOp,v1,v2]
  refine Vh ?_
  have e1:a.tmod b=a % b:=Int.tmod_eq_emod_of_nonneg ha
  have e3:b≠0:=by omega
  simp [eqGuard,binOp,Op.intDiv,e1,e3]
 ·cases hc
theorem C6 (a b:Nat) (hb:0<b) (ha:a<=9223372036854775807) (hc:B0 ops F k .quo=some ((a:Int),(b:Int)):=by kernel_rfl):Xw P (ZB ops k) F h [] (.i (a / b:Nat)):=by
 rw [Int.natCast_ediv];exact IL a b om om hc
theorem G3 (a b:Nat) (hb:0<b) (_ha:a<=9223372036854775807) (hc:B0 ops F k .rem=some ((a:Int),(b:Int)):=by kernel_rfl):Xw P (ZB ops k) F h [] (.i (a % b:Nat)):=by
 rw [Int.natCast_emod];exact E5 a b om om hc
def AJ (a b:Int):Int:=IntKind.i64.wrap ((BitVec.ofInt 64 a ^^^ BitVec.ofInt 64 b).toNat:Int)
theorem H6 {a b:Int} (ha:0<=a/\a<4611686018427387904) (hb:0<=b/\b<4611686018427387904):0<=AJ a b/\AJ a b<4611686018427387904:=by
 obtain ⟨x,rfl⟩:=Int.eq_ofNat_of_zero_le ha.1
 obtain ⟨y,rfl⟩:=Int.eq_ofNat_of_zero_le hb.1
 have h1:(BitVec.ofInt 64 (x:Int) ^^^ BitVec.ofInt 64 (y:Int)).toNat=x ^^^ y:=by
  rw [BitVec.toNat_xor,BitVec.toNat_ofInt,BitVec.toNat_ofInt]
  have e1:((x:Int) % ((2 ^ 64:Nat):Int)).toNat=x:=by omega
  have e2:((y:Int) % ((2 ^ 64:Nat):Int)).toNat=y:=by omega
  rw [e1,e2]
 have h2:x ^^^ y<2 ^ 62:=Nat.xor_lt_two_pow om om
 rw [AJ,h1,Mo om]
 omega
theorem OY (a b:Int) (hc:B0 ops F k .xor=some (a,b):=by kernel_rfl):Xw P (ZB ops k) F h [] (.i (AJ a b)):=by
 unfold B0 at hc
 generalize hoo:ZB ops k=o at hc
 obtain ⟨dst,op,type,pos,after,guard⟩:=o
 cases op<;>simp only at hc<;>try (cases hc)
 rename_i bop t x y yt
 cases bop<;>simp only [Zq,reduceCtorEq,if_false,if_true] at hc<;>try (cases hc)
 split at hc
 ·rename_i z yk h1 h2
  cases hc
  intro n' w G ac hF hh
  have v1:=hF.ev x
  have v2:=hF.ev y
  rw [h1] at v1
  rw [h2] at v2
  have v1:=v1.val_inv
  have v2:=v2.val_inv
  refine ⟨_,.val,fun w' _ _=>?_⟩
  simp only [execOp,v1,v2]
  refine Vh ?_
  simp [eqGuard,binOp,Op.intBits,IntKind.bits]
  exact Yj (fun z:Nat=>IntKind.i64.wrap (z:Int)) (by rw [BitVec.toNat_xor,BitVec.toNat_ofInt,BitVec.toNat_ofInt];rfl)
 ·cases hc
end
end Go.Abs
section
namespace Go.Abs
inductive Z2 where
 | mk (op num:Int) (kids:List Z2)
namespace Z2
def op:Z2->Int|.mk a _ _=>a
def num:Z2->Int|.mk _ a _=>a
def kids:Z2->List Z2|.mk _ _ a=>a
end Z2
structure Func where
 params:LI
 result:Int
 body:Z2
structure Wa where
 decls:List Zg
 funcs:List Func
instance:Inhabited Z2:=⟨.mk 0 0 []⟩
mutual
def I1:Z2->AV
 | .mk op num kids=>.agg [.i op,.i num,.sl (Yu kids) none]
def Yu:List Z2->List AV
 | []=>[]
 | e::r=>I1 e::Yu r
end
abbrev Y4 (e:Z2):AV:=.agg [.i e.op,.i e.num,.sl (Yu e.kids) none]
abbrev YX (e:Z2):List AV:=[.i e.op,.i e.num,.sl (Yu e.kids) none]
abbrev XA (xs:List Z2):AV:=.sl (Yu xs) none
abbrev Qt (xs:List Z2) (v:Value):AV:=.sl (Yu xs) (some v)
abbrev DC (f:Func):AV:=.agg [Z4 f.params,.i f.result,.i f.body.op,.i f.body.num,XA f.body.kids]
abbrev G6 (f:Func):List AV:=[Z4 f.params,.i f.result,.i f.body.op,.i f.body.num,XA f.body.kids]
def Xs (xs:List Func):List AV:=xs.map DC
abbrev Ge (xs:List Func):AV:=.sl (Xs xs) none
abbrev A9 (p:Wa):AV:=.agg [ZU p.decls,Ge p.funcs]
abbrev IR (p:Wa):List AV:=[ZU p.decls,Ge p.funcs]
abbrev Ho (z:Int):AV:=.val (.int .u8 z)
def TQ (xs:LI):List AV:=xs.map Ho
abbrev U3 (xs:LI):AV:=.sl (TQ xs) none
theorem Z4b (e:Z2):I1 e=Y4 e:=by cases e;rw [I1];rfl
theorem XM:∀xs:List Z2,Yu xs=xs.map Y4
 | []=>by rw [Yu];rfl
 | s::ss=>by rw [Yu,XM ss,Z4b];rfl
theorem CJ {xs:List Z2} {j:Nat} {x:Z2} (h:xs[j]? = some x):(Yu xs)[j]? = some (Y4 x):=by simp [XM,h]
theorem Fj {xs:List Func} {j:Nat} {x:Func} (h:xs[j]? = some x):(Xs xs)[j]? = some (DC x):=by simp [Xs,h]
theorem CF {xs:LI} {j:Nat} {x:Int} (h:xs[j]? = some x):(TQ xs)[j]? = some (Ho x):=by simp [TQ,h]
@[simp] theorem I2 (xs:List Z2):(Yu xs).length=xs.length:=by simp [XM]
@[simp] theorem CK (xs:List Func):(Xs xs).length=xs.length:=by simp [Xs]
@[simp] theorem KL (xs:LI):(TQ xs).length=xs.length:=by simp [TQ]
theorem JL (xs ys:List Z2):Yu (xs++ys)=Yu xs++Yu ys:=by simp [XM]
theorem Z4c (xs ys:List Func):Xs (xs++ys)=Xs xs++Xs ys:=by simp [Xs]
theorem HX (xs:LI) (n:Nat):(TQ xs).take n=TQ (xs.take n):=by simp [TQ]
theorem HW (xs:LI) (n:Nat):(TQ xs).drop n=TQ (xs.drop n):=by simp [TQ]
theorem Te (xs:List Z2):∀y∈Yu xs,y.leaves.length=3:=by intro y hy;simp only [XM,W9] at hy;obtain ⟨x,_,rfl⟩:=hy;rfl
theorem Fk (xs:List Func):∀y∈Xs xs,y.leaves.length=5:=by intro y hy;simp only [Xs,W9] at hy;obtain ⟨x,_,rfl⟩:=hy;rfl
theorem Z47 (xs:LI):∀y∈TQ xs,y.leaves.length=1:=by intro y hy;simp only [TQ,W9] at hy;obtain ⟨x,_,rfl⟩:=hy;rfl
theorem JM (xs:List Z2):(Zo (Yu xs)).all AV.one=true:=Jm fun y hy=>by simp only [XM,W9] at hy;obtain ⟨x,_,rfl⟩:=hy;rfl
end Go.Abs
end
section
namespace Go.Abs
open Go.Proofs Go.Proofs.YtjmahledcmocoaaGreat
section
variable {H:Type} {enc:TypeId × Value->H} {w:World}
def GA (w:World):Yc:=fun b _=>b<w.heap.size
abbrev Tr (enc:TypeId × Value->H) (w:World) (n:Nat) (t:TypeId) (cs:List Value) (x:DataW H × List MemPlace):Prop:=DataW.trod enc Tryz.prog w 0 (fun _=>true) true n t cs=some x
theorem Ps {w:World} {a:Addr} {v:Value} (h:w.cell? a=some v):a.block<w.heap.size/\a.spot=none:=by
 unfold World.cell? at h
 split at h
 ·rename_i c e fr hb
  split at h
  ·cases h
  ·rename_i hs
   exact ⟨(UP.1 hb).1,by simpa using hs⟩
 ·cases h
theorem N6 {α:Type} {c:α->Nat}:∀{xs:List α} {ds:List (DataW H)},xs.length=ds.length->(∀(i:Nat) a d,xs[i]? = some a->ds[i]? = some d->c a+1<=Rows.uptoBulk d)->(xs.map fun a=>c a+1).sum<=Rows.uptoBulkAll ds
 | [],[],_,_=>X5 _
 | a::r,d::ds,hl,h=>by
  have h0:=h 0 a d rfl rfl
  have h1:=N6 (c:=c) (xs:=r) (ds:=ds) (by simpa using hl) fun i a d ha hd=>h (i+1) a d (by simpa using ha) (by simpa using hd)
  rw [Un,List.sum_cons,Rows.uptoBulkAll]
  omega
theorem Ri {α:Type} {f:α->AV} {G:Yc} {k b:Nat} (hf:∀x,(f x).leaves.length=k):∀{xs:List α} {o:Nat},(∀(i:Nat) a,xs[i]? = some a->Ws w G b (o+i*k) (f a).leaves)->Ve w G k b o (xs.map f)
 | [],_,_=>.nil
 | x::r,o,h=>by
  refine .cons (hf x) (by have:=h 0 x rfl;simpa using this) (Ri hf fun i a ha=>?_)
  have:=h (i+1) a (by simpa using ha)
  rw [show o+(i+1)*k=o+k+i*k by rw [Ql];omega] at this
  exact this
theorem Zbw {α:Type} [Inhabited α] {t e k:Nat} (ht:Tryz.prog.underlying t=some (.slice e)) (hk:Tryz.prog.cellsOf e=k) (h0:0<k) (f:α->AV) (hf:∀x,(f x).leaves.length=k) (c:α->Nat) (Q:α->Prop) {n:Nat} {cs:List Value} {x:DataW H × List MemPlace}
  (h:Tr enc w n t cs x) (el:∀m cs y,m<n->Tr enc w m e cs y->∃a:α,YR w (GA w) (f a).leaves cs/\c a+1<=Rows.uptoBulk y.1/\Q a) :
  ∃(v:Value) (xs:List α),cs=[v]/\RV w (GA w) (.sl (xs.map f) none) v/\(xs.map fun a=>c a+1).sum+1<=Rows.uptoBulk x.1/\∀a∈xs,Q a:=by
 rcases DataW.trod_slice ht h with ⟨rfl,rfl⟩|⟨a,len,cap,elems,rest,m,rfl,rfl,rfl,_,hlc,_,hlen,hel,_,_⟩
 ·exact ⟨_,[],rfl,.nil (by simp),by simp [Rows.uptoBulk],by simp⟩
 ·rw [hk] at hel
  have hone:∀i,i<len->∃z:α,∃cs' y,w.cells? 0 (a.add (i*k)) k=some cs'/\elems[i]? = some y/\YR w (GA w) (f z).leaves cs'/\c z+1<=Rows.uptoBulk y.1/\Q z:=by
   intro i hi
   have h1:=hel i hi
   rw [Kw om] at h1
   obtain ⟨cs',h2,h3⟩:=Option.bind_eq_some_iff.1 h1
   obtain ⟨z,hz1,hz2,hz3⟩:=el m cs' _ om h3
   exact ⟨z,cs',_,h2,Kw om,hz1,hz2,hz3⟩
  obtain ⟨V,hV⟩:=Go.Deep.choose_lt hone
  refine ⟨_,(List.range len).map V,rfl,?_,?_,?_⟩
  ·cases hl0:len with
   | zero=>exact .nil (by simp)
   | succ q=>
    have hsp:a.spot=none:=by
     obtain ⟨cs',y,g1,_⟩:=hV 0 om
     obtain ⟨_,g2,g3⟩:=World.cells?_some g1
     have g4:=g3 0 h0
     rw [Kw om] at g4
     have g5:=(Ps g4).2
     simpa [Addr.add] using g5
    obtain ⟨b,o,sp⟩:=a
    simp only at hsp
    subst hsp
    rw [<-hl0]
    have hll:(((List.range len).map V).map f).length=len:=by simp
    have:=RV.sl (w:=w) (G:=GA w) (es:=((List.range len).map V).map f) (hv:=none) (b:=b) (o:=o) (k:=k) (cap:=cap) (by simp) (by rw [hll];exact hlc) (Ri hf fun i z hz=>by
     have hi:i<len:=by have:=(Xc.1 hz).1;simpa using this
     have hz':V i=z:=by simpa [hi] using hz
     obtain ⟨cs',y,g1,_,g2,_⟩:=hV i hi
     rw [hz'] at g2
     obtain ⟨_,g3,g4⟩:=World.cells?_some g1
     refine Ws.of_cells g2 fun j u hj=>?_
     have hjl:j<k:=by have:=(Xc.1 hj).1;omega
     have g5:=(g4 j hjl).trans hj
     rw [Addr.add_lit,Addr.add_lit] at g5
     exact ⟨g5,(Ps g5).1⟩)
    rw [hll] at this
    exact this
  ·have:=N6 (c:=c) (xs:=(List.range len).map V) (ds:=elems.map (·.1)) (by simp [hlen]) fun i z d hz hd=>by
    have hi:i<len:=by have:=(Xc.1 hz).1;simpa using this
    have hz':V i=z:=by simpa [hi] using hz
    obtain ⟨cs',y,_,g1,_,g2,_⟩:=hV i hi
    rw [T8,g1] at hd
    simp only [BH,Wh] at hd
    rw [<-hd,<-hz']
    exact g2
   simp only [Rows.uptoBulk]
   omega
  ·intro z hz
   obtain ⟨i,hi,rfl⟩:=W9.1 hz
   obtain ⟨_,_,_,_,_,_,g⟩:=hV i (List.mem_range.1 hi)
   exact g
theorem Zbu {n:Nat} {cs:List Value} {x:DataW H × List MemPlace} (h:Tr enc w n 5 cs x):∃z:Int,cs=[.int .u8 z]/\Rows.uptoBulk x.1=1/\0<=z/\z<=255:=by
 obtain ⟨z,rfl,rfl,hw⟩:=DataW.trod_int Tryz.underlying5 h
 refine ⟨z,rfl,rfl,?_⟩
 simpa [Lit.wf,IntKind.min,IntKind.max,IntKind.signed,IntKind.bits] using hw
theorem Zbv {n:Nat} {cs:List Value} {x:DataW H × List MemPlace} (h:Tr enc w n 22 cs x):∃(v:Value) (xs:LI),cs=[v]/\RV w (GA w) (U3 xs) v/\∀z∈xs,0<=z/\z<=255:=by
 obtain ⟨v,xs,h1,h2,h3,h4⟩:=Zbw Tryz.underlying22 (k:=1) kr om (fun z:Int=>Ho z) (fun _=>rfl) (fun _=>0) (fun z=>0<=z/\z<=255) h fun m cs y _ hy=>by
  obtain ⟨z,rfl,hb,hz⟩:=Zbu hy
  exact ⟨z,.cons .val .nil,Nat.le_of_eq hb.symm,hz⟩
 exact ⟨v,xs,h1,h2,h4⟩
end
end Go.Abs
end
namespace Go.Abs
structure Sg where
 params:LI
 result:Int
abbrev Mv (f:Sg):AV:=.agg [.sl (Z6 f.params) none,.i f.result,.i 0,.i 0,.sl [] none]
def Ug (fs:List Sg):List AV:=fs.map Mv
theorem I5 {xs:List Sg} {j:Nat} {x:Sg} (h:xs[j]? = some x):(Ug xs)[j]? = some (Mv x):=by simp [Ug,h]
@[simp] theorem NC (xs:List Sg):(Ug xs).length=xs.length:=by simp [Ug]
theorem NB (xs:List Sg):∀y∈Ug xs,y.leaves.length=5:=by intro y hy;simp only [Ug,W9] at hy;obtain ⟨x,_,rfl⟩:=hy;rfl
theorem Z4g (xs:List Sg):(Zo (Ug xs)).all AV.one=true:=Jm fun y hy=>by simp only [Ug,W9] at hy;obtain ⟨x,_,rfl⟩:=hy;rfl
mutual
def Z5.sz:Z5->Nat
 | .mk _ _ _ args kids=>1+args.length+X6 kids
def Z7.sz:Z7->Nat
 | .mk steps _=>1+Y6 steps
def Y6:List Z5->Nat
 | []=>0
 | s::r=>s.sz+Y6 r
def X6:List Z7->Nat
 | []=>0
 | b::r=>b.sz+X6 r
end
theorem Z5.sz_pos (s:Z5):1<=s.sz:=by cases s;rw [Z5.sz];omega
theorem Z7.sz_pos (b:Z7):1<=b.sz:=by cases b;rw [Z7.sz];omega
theorem J3 (l:List Z5):l.length<=Y6 l:=by
 induction l with
 | nil=>simp
 | cons s r ih=>have:=s.sz_pos;simp only [YQ,Y6];omega
theorem N3 (l:List Z7):l.length<=X6 l:=by
 induction l with
 | nil=>simp
 | cons s r ih=>have:=s.sz_pos;simp only [YQ,X6];omega
theorem Si {l:List Z5} {k:Nat} {s:Z5} (h:l[k]? = some s):s.sz<=Y6 l:=by
 induction l generalizing k with
 | nil=>simp at h
 | cons t r ih=>
  cases k with
  | zero=>simp at h;subst h;simp only [Y6];omega
  | succ k=>have:=ih (k:=k) (by simpa using h);simp only [Y6];omega
theorem Z22 {l:List Z7} {k:Nat} {s:Z7} (h:l[k]? = some s):s.sz<=X6 l:=by
 induction l generalizing k with
 | nil=>simp at h
 | cons t r ih=>
  cases k with
  | zero=>simp at h;subst h;simp only [X6];omega
  | succ k=>have:=ih (k:=k) (by simpa using h);simp only [X6];omega
theorem Z5.sz_eq (s:Z5):s.sz=1+s.args.length+X6 s.kids:=by cases s;rw [Z5.sz];rfl
theorem Z7.sz_eq (b:Z7):b.sz=1+Y6 b.steps:=by cases b;rw [Z7.sz];rfl
theorem J7 {b:Z7} {k:Nat} {s:Z5} (h:b.steps[k]? = some s):s.sz<b.sz:=by have:=Si h;have:=b.sz_eq;omega
theorem Tm {s:Z5} {k:Nat} {b:Z7} (h:s.kids[k]? = some b):b.sz<s.sz:=by have:=Z22 h;have:=s.sz_eq;omega
theorem Qm (s:Z5):s.args.length<s.sz:=by have:=s.sz_eq;omega
theorem Tz (s:Z5):s.kids.length<s.sz:=by have:=s.sz_eq;have:=N3 s.kids;omega
theorem VW (b:Z7):b.steps.length<b.sz:=by have:=b.sz_eq;have:=J3 b.steps;omega
structure A6 (ds:List Zg):Prop where
 len:ds.length<=4194304
 cons:∀d∈ds,d.cons.length<=4194304
 fields:∀d∈ds,∀c∈d.cons,c.fields.length<=4194304
theorem A6.cons_at {ds:List Zg} (h:A6 ds) {k:Nat} {d:Zg} (hd:ds[k]? = some d):d.cons.length<=4194304:=h.cons d (ZX hd)
def Ji (m:Nat) (c:Yk):Bool:=decide (c.fields.length<=3)&&Wj m c.fields
def QM (d:Zg):List Zg->Bool
 | []=>false
 | e::r=>if e.cons.length=0/\e.frm=d.frm/\e.to_=d.to_ then true else QM d r
def TG (m:Nat):List Yk->Bool
 | []=>true
 | c::r=>if Ji m c=true then TG m r else false
def UH (ds:List Zg) (d:Zg) (i:Nat):Bool:=
 if 0<d.cons.length then (if d.cons.length<=3/\d.frm=0/\d.to_=0 then TG ds.length d.cons else false)
 else if QM d (ds.take i)=true then false else decide (0<=d.frm/\d.frm<=ds.length)&&decide (0<=d.to_/\d.to_<=ds.length)
def BT (ds:List Zg) (i:Nat):Bool:=(ds[i]?.map fun d=>UH ds d i).getD false
theorem DL {ds:List Zg} {i:Nat} {d:Zg} (h:ds[i]? = some d):BT ds i=UH ds d i:=by rw [BT,h];rfl
def Tc (ds:List Zg):List Zg->Nat->Bool
 | [],_=>true
 | _::r,i=>if BT ds i=true then Tc ds r (i+1) else false
def WU (ds:List Zg):Bool:=decide (ds.length<=4)&&Tc ds ds 0
theorem Np {m:Nat} {cs:List Yk}:TG m cs=true↔∀c∈cs,Ji m c=true:=by
 induction cs with
 | nil=>simp [TG]
 | cons c r ih=>
  rw [TG]
  split
  ·rename_i h;simp [ih,h]
  ·rename_i h;simp [h]
theorem HP {ds:List Zg}:∀{l:List Zg} {i:Nat},Tc ds l i=true↔∀j<l.length,BT ds (i+j)=true
 | [],i=>by simp [Tc]
 | d::r,i=>by
  rw [Tc]
  split
  ·rename_i h
   rw [HP (l:=r)]
   constructor
   ·intro hq j hj
    cases j with
    | zero=>exact h
    | succ j=>have:=hq j (by simpa using hj);rwa [show i+(j+1)=i+1+j by omega]
   ·intro hq j hj
    have:=hq (j+1) (by simpa using hj)
    rwa [show i+(j+1)=i+1+j by omega] at this
  ·rename_i h
   simp only [Bool.false_eq_true,false_iff]
   intro hq
   exact h (hq 0 (by simp))
theorem Zg1 {ds:List Zg} (h:WU ds=true):Wr ds:=by
 simp only [WU,W7,decide_eq_true_eq] at h
 obtain ⟨h1,h2⟩:=h
 rw [HP] at h2
 have key:∀d∈ds,∃i,UH ds d i=true:=fun d hd=>by
  obtain ⟨i,hi⟩:=List.mem_iff_getElem?.1 hd
  have:=h2 i (Xc.1 hi).1
  rw [Vd,DL hi] at this
  exact ⟨i,this⟩
 have hc:∀d∈ds,0<d.cons.length->d.cons.length<=3/\TG ds.length d.cons=true:=fun d hd hp=>by
  obtain ⟨i,hi⟩:=key d hd
  rw [UH,Zf hp] at hi
  split at hi
  ·rename_i h;exact ⟨h.1,hi⟩
  ·cases hi
 refine ⟨h1,fun d hd=>?_,fun d hd c hc'=>?_⟩
 ·by_cases hp:0<d.cons.length
  ·exact (hc d hd hp).1
  ·omega
 ·have:=Np.1 (hc d hd (List.length_pos_of_mem hc')).2 c hc'
  simp only [Ji,W7,decide_eq_true_eq] at this
  exact this.1
def J0 (m:Nat) (f:Sg):Bool:=decide (f.params.length<=3)&&(Wj m f.params&&decide (0<=f.result/\f.result<=m))
def J1 (m:Nat):List Sg->Bool
 | []=>true
 | f::r=>if J0 m f=true then J1 m r else false
def Fv:List Sg->Bool
 | []=>false
 | f::_=>decide (f.params.length=0)&&decide (f.result=0)
theorem Z4w {fs:List Sg} {x:Sg} (h:fs[0]? = some x):Fv fs=(decide (x.params.length=0)&&decide (x.result=0)):=by
 cases fs with
 | nil=>simp at h
 | cons f r=>simp at h;subst h;rfl
def QA (ds:List Zg) (fs:List Sg):Bool:=
 WU ds&&(decide (1<=fs.length/\fs.length<=4)&&(J1 ds.length fs&&Fv fs))
def Qs (ps:LI):LI->Option Int->Bool
 | [],_=>true
 | v::r,prev=>if (0<=v/\v<=(ps.length:Int)-1)/\ps[v.toNat]?≠some 0/\(∀p,prev=some p->p<v) then Qs ps r (some v) else false
theorem IX {ps r:LI} {v:Int} {prev:Option Int} (h:(0<=v/\v<=(ps.length:Int)-1)/\ps[v.toNat]?≠some 0/\(∀p,prev=some p->p<v)):Qs ps (v::r) prev=Qs ps r (some v):=by
 rw [Qs,Zf h]
theorem G9 {ps r:LI} {v:Int} {prev:Option Int} (h:¬((0<=v/\v<=(ps.length:Int)-1)/\ps[v.toNat]?≠some 0/\(∀p,prev=some p->p<v))):Qs ps (v::r) prev=false:=by
 rw [Qs,Z8 h]
def J9 (ps ls:LI):Bool:=Qs ps ls none
def KW:List Yg->Bool
 | []=>true
 | r::rs=>if J9 r.params r.lent=true then KW rs else false
def Ux (r:Yg):Sg:=⟨r.params,r.result⟩
def VP (n:Zk):Bool:=decide (n.routines.length<=4)&&(QA n.decls (n.routines.map Ux)&&KW n.routines)
end Go.Abs
section
namespace Go.Abs
def Xx {α:Type} (xs:List α) (i:Int):Option α:=if 0<=i/\i<=(xs.length:Int)-1 then xs[i.toNat]? else none
theorem Q6 {α:Type} {xs:List α} {i:Int} {x:α} (h:0<=i/\i<=(xs.length:Int)-1) (hx:xs[i.toNat]? = some x):Xx xs i=some x:=by rw [Xx,Zf h,hx]
theorem Ke {α:Type} {xs:List α} {i:Int} (h:¬(0<=i/\i<=(xs.length:Int)-1)):Xx xs i=none:=by rw [Xx,Z8 h]
theorem KH {α:Type} {xs:List α} {i:Int} {x:α} (h:Xx xs i=some x):(0<=i/\i<=(xs.length:Int)-1)/\xs[i.toNat]? = some x:=by
 rw [Xx] at h
 split at h
 ·rename_i h1;exact ⟨h1,h⟩
 ·cases h
def T4 (vars:LI):LI->LI->Bool
 | [],[]=>true
 | a::as1,t::ts=>if Xx vars a=some t then T4 vars as1 ts else false
 | _,_=>false
def We (vars args types:LI):Bool:=T4 vars args types
theorem SJ {vars:LI}:∀{args types:LI},args.length≠types.length->T4 vars args types=false
 | [],[],h=>absurd rfl h
 | [],_::_,_=>rfl
 | _::_,[],_=>rfl
 | a::as1,t::ts,h=>by
  rw [T4]
  split
  ·exact SJ (by simpa using h)
  ·rfl
theorem Zft {vars args types:LI} {k:Nat} {a t:Int} (ha:args[k]? = some a) (ht:types[k]? = some t) (h:Xx vars a=some t) :
  T4 vars (args.drop k) (types.drop k)=T4 vars (args.drop (k+1)) (types.drop (k+1)):=by
 rw [Y7 ha,Y7 ht,T4,Zf h]
theorem SH {vars args types:LI} {k:Nat} {a t:Int} (ha:args[k]? = some a) (ht:types[k]? = some t) (h:Xx vars a≠some t) :
  T4 vars (args.drop k) (types.drop k)=false:=by
 rw [Y7 ha,Y7 ht,T4,Z8 h]
theorem Zfs {vars args types:LI} {k:Nat} (ha:args.length<=k) (ht:types.length<=k):T4 vars (args.drop k) (types.drop k)=true:=by
 rw [Xh ha,Xh ht];rfl
def VF (op:Int):Bool:=op==0||(op==6||(op==8||(op==9||op==10)))
def XQ (op:Int):Bool:=decide (0<=op/\op<=11)
def YC (op:Int):Bool:=decide (14<=op/\op<=17)
def Um (vars:LI) (op into:Int):Bool:=
 if into=0 then true else if op=6 then ((Xx vars (into-1)).map fun t=>decide (0<t)).getD false else false
def KG (ds:List Zg) (ps:LI) (res:Int):Int:=Ue ds (ps.getLast?.getD 0) res
def Kq (ds:List Zg) (vars:LI) (op:Int) (args:LI) (r:Yg):Int:=
 if op=9 then (if We vars args r.params=true then r.result else -1)
 else if r.params.length=0∨0<r.lent.length∨¬We vars args (r.params.take (r.params.length-1))=true then -1
 else KG ds r.params r.result
def TC (n:Zk) (vars:LI) (op num:Int) (args:LI):Int:=
 match Xx n.routines num with
 | none=>-1
 | some r=>Kq n.decls vars op args r
def TH (ds:List Zg) (vars:LI) (op:Int) (args:LI):Int:=
 match args with
 | [a]=>match Xx vars a with
  | some t=>if t=0 then -1 else if (op≠14/\op≠15)/\XX ds t=true then -1 else 0
  | none=>-1
 | _=>-1
def QH (ds:List Zg) (vars:LI) (args:LI):Int:=
 match args with
 | [a,b]=>match Xx vars a with
  | some t=>if XX ds t=true then
    (match ds[(t-1).toNat]? with
     | some d=>if We vars [b] [d.frm]=true then d.to_ else -1
     | none=>-1) else -1
  | none=>-1
 | _=>-1
def Xn (ds:List Zg) (op num:Int):List LI:=if op=7 then [[],[]] else (ZY ds num).map (ZV ds)
mutual
def Yb (n:Zk) (vars:LI):Z5->Int
 | .mk op num into args kids=>
  if (num≠0/\¬VF op=true)∨¬Um vars op into=true∨(0<kids.length/\op≠7/\op≠8) then -1
  else if op=0 then (if args.length=0/\(-999<=num/\num<=999) then 0 else -1)
  else if op=1∨op=2∨op=3∨op=4 then (if We vars args [0,0]=true then 0 else -1)
  else if op=5 then (if We vars args [0]=true then 0 else -1)
  else if op=6 then (if 0<Wg n.decls num/\We vars args (ZV n.decls num)=true then Wg n.decls num else -1)
  else if op=7 then (if We vars args [0]=true then (if (Xn n.decls op num).length=0∨kids.length≠(Xn n.decls op num).length then -1 else WY n vars kids (Xn n.decls op num) true 0) else -1)
  else if op=8 then (if We vars args [num]=true then (if (Xn n.decls op num).length=0∨kids.length≠(Xn n.decls op num).length then -1 else WY n vars kids (Xn n.decls op num) true 0) else -1)
  else if op=9∨op=10 then TC n vars op num args
  else if op=11 then QH n.decls vars args
  else if op=14∨op=15∨op=16∨op=17 then TH n.decls vars op args
  else -1
def WY (n:Zk) (vars:LI):List Z7->List LI->Bool->Int->Int
 | [],_,_,t=>t
 | b::bs,more,first,t=>
  match more with
  | []=>-1
  | m::ms=>if Xo n (vars++m) b<0∨(first=false/\Xo n (vars++m) b≠t) then -1 else WY n vars bs ms false (Xo n (vars++m) b)
def XB (n:Zk):List Z5->LI->Option LI
 | [],vars=>some vars
 | s::r,vars=>if Yb n vars s<0 then none else XB n r (if XQ s.op=true then vars++[Yb n vars s] else vars)
def Xo (n:Zk) (vars:LI):Z7->Int
 | .mk steps result=>match XB n steps vars with
  | none=>-1
  | some vs=>(Xx vs result).getD (-1)
end
def Ty (n:Zk) (vars:LI) (op num:Int) (kids:List Z7):Int:=
 if (Xn n.decls op num).length=0∨kids.length≠(Xn n.decls op num).length then -1 else WY n vars kids (Xn n.decls op num) true 0
mutual
def Bd:Z5->Int->Int
 | .mk _ _ _ _ kids,left=>Qe kids left
def WM:Z7->Int->Int
 | .mk steps _,left=>TT steps left
def TT:List Z5->Int->Int
 | [],left=>left
 | s::r,left=>if left<1 then -1 else if Bd s (left-1)<0 then -1 else TT r (Bd s (left-1))
def Qe:List Z7->Int->Int
 | [],left=>left
 | b::r,left=>if WM b left<0 then -1 else Qe r (WM b left)
end
def TM (b:Z7):Int:=if WM b 600<0 then -1 else 600-WM b 600
def K1 (n:Zk):List Yg->Bool
 | []=>true
 | r::rs=>if ¬TM r.body<0/\Xo n r.params r.body=r.result then K1 n rs else false
def XH (n:Zk):Bool:=VP n&&K1 n n.routines
theorem IW:(∀(s:Z5) (l:Int),0<=l->Bd s l<=l)/\(∀(b:Z7) (l:Int),0<=l->WM b l<=l):=by
 have key:∀m:Nat,(∀s:Z5,s.sz<=m->∀l:Int,0<=l->Bd s l<=l)/\(∀b:Z7,b.sz<=m->∀l:Int,0<=l->WM b l<=l):=by
  intro m
  induction m with
  | zero=>exact ⟨fun s h=>by have:=s.sz_pos;omega,fun s h=>by have:=s.sz_pos;omega⟩
  | succ m ih=>
   refine ⟨fun s hs l hl=>?_,fun b hb l hl=>?_⟩
   ·cases s with
    | mk op num into args kids=>
     rw [Bd]
     have hk:X6 kids<=m:=by rw [Z5.sz] at hs;omega
     clear hs
     induction kids generalizing l with
     | nil=>rw [Qe];exact Int.le_refl _
     | cons b r ihr=>
      rw [X6] at hk
      have:=ih.2 b om l hl
      rw [Qe]
      split
      ·omega
      ·have:=ihr (WM b l) om om;omega
   ·cases b with
    | mk steps res=>
     rw [WM]
     have hk:Y6 steps<=m:=by rw [Z7.sz] at hb;omega
     clear hb
     induction steps generalizing l with
     | nil=>rw [TT];exact Int.le_refl _
     | cons s r ihr=>
      rw [Y6] at hk
      rw [TT]
      split
      ·omega
      ·have:=ih.1 s om (l-1) om
       split
       ·omega
       ·have:=ihr (Bd s (l-1)) om om;omega
 exact ⟨fun s l hl=>(key s.sz).1 s (X5 _) l hl,fun b l hl=>(key b.sz).2 b (X5 _) l hl⟩
end Go.Abs
namespace Go.Abs
theorem Zeo {l:List Z5} {k:Nat} {s:Z5} (h:l[k]? = some s):k+s.sz<=Y6 l:=by
 induction l generalizing k with
 | nil=>simp at h
 | cons t r ih=>
  cases k with
  | zero=>simp at h;subst h;simp only [Y6];omega
  | succ k=>have:=ih (k:=k) (by simpa using h);have:=t.sz_pos;simp only [Y6];omega
theorem Ci {b:Z7} {k:Nat} {s:Z5} (h:b.steps[k]? = some s):k+s.sz<b.sz:=by have:=Zeo h;have:=b.sz_eq;omega
structure X2 (n:Zk):Prop where
 decls:Wr n.decls
 len:n.routines.length<=4
 params:∀r∈n.routines,r.params.length<=3
 lent:∀r∈n.routines,r.lent.length<=4194304
theorem X2.params_at {n:Zk} (h:X2 n) {k:Nat} {r:Yg} (hr:n.routines[k]? = some r):r.params.length<=3:=h.params r (ZX hr)
theorem X2.lent_at {n:Zk} (h:X2 n) {k:Nat} {r:Yg} (hr:n.routines[k]? = some r):r.lent.length<=4194304:=h.lent r (ZX hr)
theorem Z1f {ds:List Zg} {num:Int} {k:Nat} {x:Int} (h:(ZY ds num)[k]? = some x):(Xn ds 8 num)[k]? = some (ZV ds x):=by
 rw [Xn,Z8 om,T8,h];rfl
end Go.Abs
namespace Go.Abs
theorem Lb {ds:List Zg} (hd:Wr ds) (t:Int):(ZY ds t).length<=3:=by
 rw [ZY]
 split
 ·rename_i h
  obtain ⟨d,hd1⟩:=QQ (xs:=ds) (j:=(t-1).toNat) om
  rw [hd1,Zao]
  exact hd.cons_at hd1
 ·simp
theorem VZ {ds:List Zg} (hd:Wr ds) (c:Int):(ZV ds c).length<=3:=by
 by_cases h:Wg ds c<1
 ·rw [(F9 h).1];simp
 ·obtain ⟨k,d,x,h1,_,h3,_,h5⟩:=HL h
  rw [h5];exact hd.fields_at h1 h3
theorem ES {ds:List Zg} (hd:Wr ds) {op num:Int} {k:Nat} {m:LI} (h:(Xn ds op num)[k]? = some m):m.length<=3:=by
 have hm:=ZX h
 rw [Xn] at hm
 split at hm
 ·simp at hm;subst hm;simp
 ·obtain ⟨c,_,rfl⟩:=W9.1 hm;exact VZ hd c
theorem KE {α:Type} {xs:List α} {x:α} (h:xs.length=1) (hx:xs[0]? = some x):xs=[x]:=by
 cases xs with
 | nil=>simp at h
 | cons a r=>
  cases r with
  | nil=>simp at hx;rw [hx]
  | cons b r=>simp at h
theorem CA {ds:List Zg} {us args:LI} {op:Int} (h:args.length≠1):TH ds us op args=-1:=by
 cases args with
 | nil=>rfl
 | cons a r=>
  cases r with
  | nil=>simp at h
  | cons b r=>rfl
theorem CC {ds:List Zg} {us args:LI} {op a:Int} (h:args=[a]) (hi:¬(0<=a/\a<=(us.length:Int)-1)):TH ds us op args=-1:=by
 subst h;rw [TH];simp only [Ke hi]
theorem Cz {ds:List Zg} {us args:LI} {op a t:Int} (h:args=[a]) (hi:0<=a/\a<=(us.length:Int)-1) (ht:us[a.toNat]? = some t) :
  TH ds us op args=if t=0 then -1 else if (op≠14/\op≠15)/\XX ds t=true then -1 else 0:=by
 subst h;rw [TH];simp only [Q6 hi ht]
theorem Zca {n:Zk} {us args:LI} {op num:Int} {r:Yg} (hi:0<=num/\num<=(n.routines.length:Int)-1) (hr:n.routines[num.toNat]? = some r) :
  TC n us op num args=Kq n.decls us op args r:=by
 rw [TC];simp only [Q6 hi hr]
theorem Zcb {n:Zk} {us args:LI} {op num:Int} (hi:¬(0<=num/\num<=(n.routines.length:Int)-1)):TC n us op num args=-1:=by
 rw [TC];simp only [Ke hi]
theorem Ok {xs:LI} {x:Int} (h:xs[xs.length-1]? = some x):xs.getLast?.getD 0=x:=by
 rw [List.getLast?_eq_getElem?,h];rfl
theorem P9 {n:Zk} {us:LI} {bs:List Z7} {ms:List LI} {b:Z7} {m:LI} {k:Nat} {t:Int} (hb:bs[k]? = some b) (hm:ms[k]? = some m)
  (h:¬(Xo n (us++m) b<0∨(k:Int)>0/\Xo n (us++m) b≠t)) :
  WY n us (bs.drop k) (ms.drop k) (decide (k=0)) t=WY n us (bs.drop (k+1)) (ms.drop (k+1)) (decide (k+1=0)) (Xo n (us++m) b):=by
 rw [Y7 hb,Y7 hm,WY,Z8]
 ·simp
 ·rintro (q|⟨q1,q2⟩)
  ·exact h (.inl q)
  ·exact h (.inr ⟨by simp at q1;omega,q2⟩)
theorem P7 {n:Zk} {us:LI} {bs:List Z7} {ms:List LI} {b:Z7} {m:LI} {k:Nat} {t:Int} (hb:bs[k]? = some b) (hm:ms[k]? = some m)
  (h:Xo n (us++m) b<0∨(k:Int)>0/\Xo n (us++m) b≠t) :
  WY n us (bs.drop k) (ms.drop k) (decide (k=0)) t=-1:=by
 rw [Y7 hb,Y7 hm,WY,Zf]
 rcases h with q|⟨q1,q2⟩
 ·exact .inl q
 ·exact .inr ⟨by simp;omega,q2⟩
theorem P8 {n:Zk} {us:LI} {bs:List Z7} {ms:List LI} {k:Nat} {f:Bool} {t:Int} (hb:bs.length<=k):WY n us (bs.drop k) (ms.drop k) f t=t:=by
 rw [Xh hb,WY]
end Go.Abs
end
namespace Go.Abs
theorem JX (n:Zk) (us:LI) (s:Z5):Yb n us s =
  if (s.num≠0/\¬VF s.op=true)∨¬Um us s.op s.into=true∨(0<s.kids.length/\s.op≠7/\s.op≠8) then -1
  else if s.op=0 then (if s.args.length=0/\(-999<=s.num/\s.num<=999) then 0 else -1)
  else if s.op=1∨s.op=2∨s.op=3∨s.op=4 then (if We us s.args [0,0]=true then 0 else -1)
  else if s.op=5 then (if We us s.args [0]=true then 0 else -1)
  else if s.op=6 then (if 0<Wg n.decls s.num/\We us s.args (ZV n.decls s.num)=true then Wg n.decls s.num else -1)
  else if s.op=7 then (if We us s.args [0]=true then Ty n us s.op s.num s.kids else -1)
  else if s.op=8 then (if We us s.args [s.num]=true then Ty n us s.op s.num s.kids else -1)
  else if s.op=9∨s.op=10 then TC n us s.op s.num s.args
  else if s.op=11 then QH n.decls us s.args
  else if s.op=14∨s.op=15∨s.op=16∨s.op=17 then TH n.decls us s.op s.args
  else -1:=by
 cases s with
 | mk op num into args kids=>rw [Yb];rfl
theorem Cv (n:Zk) (us:LI) (b:Z7):Xo n us b=match XB n b.steps us with
  | none=>-1
  | some vs=>(Xx vs b.result).getD (-1):=by
 cases b with
 | mk st r=>rw [Xo];rfl
theorem MM {α:Type} {xs:List α} {x:α} (h:xs.length=2) (hx:xs[0]? = some x):∃y,xs=[x,y]:=by
 match xs,h with
 | [a,b],_=>simp at hx;subst hx;exact ⟨b,rfl⟩
theorem UR {ds:List Zg} {us args:LI} (h:args.length≠2):QH ds us args=-1:=by
 match args,h with
 | [],_=>rfl
 | [_],_=>rfl
 | [_,_],h=>simp at h
 | _::_::_::_,_=>rfl
theorem US {ds:List Zg} {us args:LI} {a:Int} (hl:args.length=2) (h:args[0]? = some a) (hi:¬(0<=a/\a<=(us.length:Int)-1)):QH ds us args=-1:=by
 obtain ⟨y,rfl⟩:=MM hl h;rw [QH];simp only [Ke hi]
theorem UG {ds:List Zg} {us args:LI} {a t:Int} (hl:args.length=2) (h:args[0]? = some a) (hi:0<=a/\a<=(us.length:Int)-1) (ht:us[a.toNat]? = some t) :
  QH ds us args=if XX ds t=true then
    (match ds[(t-1).toNat]? with
     | some d=>if We us (args.drop 1) [d.frm]=true then d.to_ else -1
     | none=>-1) else -1:=by
 obtain ⟨y,rfl⟩:=MM hl h;rw [QH];simp only [Q6 hi ht];rfl
theorem Z16 {ds:List Zg} {us args:LI} {a t:Int} {d:Zg} (hl:args.length=2) (h:args[0]? = some a) (hi:0<=a/\a<=(us.length:Int)-1) (ht:us[a.toNat]? = some t)
  (hA:XX ds t=true) (hd:ds[(t-1).toNat]? = some d):QH ds us args=if We us (args.drop 1) [d.frm]=true then d.to_ else -1:=by
 rw [UG hl h hi ht,Zf hA];simp only [hd]
theorem IG {ds:List Zg} {t:Int} (h:XX ds t=true):1<=t/\t<=ds.length:=by
 simp only [XX,W7,decide_eq_true_eq] at h;exact h.1
theorem Pl (b:Z7) (l:Int):WM b l=TT b.steps l:=by cases b;rw [WM];rfl
theorem G8 (s:Z5) (l:Int):Bd s l=Qe s.kids l:=by cases s;rw [Bd];rfl
structure VU (n:Zk):Prop where
 decls:A6 n.decls
 len:n.routines.length<=4194304
 params:∀r∈n.routines,r.params.length<=4194304
 lent:∀r∈n.routines,r.lent.length<=4194304
 body:∀r∈n.routines,r.body.sz<=10000000
theorem LQ {m:Nat} {fs:List Sg} (h:J1 m fs=true):∀f∈fs,J0 m f=true:=by
 induction fs with
 | nil=>simp
 | cons f r ih=>
  rw [J1] at h
  split at h
  ·rename_i h1
   intro g hg
   rcases YB.1 hg with rfl|hg
   ·exact h1
   ·exact ih h g hg
  ·cases h
theorem La {n:Zk} (hz:VU n) (h:VP n=true):X2 n:=by
 simp only [VP,QA,W7,decide_eq_true_eq] at h
 obtain ⟨h1,⟨h2,h3,h4,h5⟩,h6⟩:=h
 refine ⟨Zg1 h2,h1,fun r hr=>?_,hz.lent⟩
 have:=LQ h4 (Ux r) (W9.2 ⟨r,hr,rfl⟩)
 simp only [J0,W7,decide_eq_true_eq] at this
 exact this.1
def gI (xs:LI) (i:Int):Int:=xs[i.toNat]?.getD 0
theorem Vk {xs:LI} {i:Int} {x:Int} (h:xs[i.toNat]? = some x):gI xs i=x:=by rw [gI,h];rfl
structure Zp where
 vars:LI
 own:LI
 par:LI
 con:LI
 fst:LI
 tok:LI
def Zp.grow (L:Zp) (t own par:Int):Zp:=⟨L.vars++[t],L.own++[own],L.par++[par],L.con++[-1],L.fst++[-1],L.tok++[-1]⟩
def Ul (L:Zp) (v:Int):Option Zp:=if gI L.own v<1 then none else some { L with own:=L.own.set v.toNat (gI L.own v-1) }
def Q5 (own par ln:LI):Nat->Int->Bool
 | 0,_=>false
 | k+1,v=>if gI own v<1/\¬v∈ln then (if gI par v<0 then false else Q5 own par ln k (gI par v)) else true
def Xr (L:Zp) (ln:LI) (v:Int):Bool:=Q5 L.own L.par ln (v.toNat+1) v
def UD:LI->Int->LI->LI
 | own,_,[]=>own
 | own,p,f::r=>UD (if f≠0 then own.set p.toNat (gI own p+1) else own) (p+1) r
def TV (ds:List Zg) (L:Zp) (op x:Int):Option Zp:=
 if gI L.con x<0∨(op=17/\0<=gI L.tok x) then none
 else match Ul L x with
  | none=>none
  | some L1=>some { L1 with
    own:=UD L1.own (gI L.fst x) (ZV ds (gI L.con x))
    tok:=if op=17 then L.tok.set x.toNat (ZV ds (gI L.con x)).length else L.tok }
def Tb (op:Int):Bool:=op==6||(op==9||(op==10||op==11))
def Au (n:Zk) (op num:Int):LI:=if op=9 then ((n.routines[num.toNat]?).map (·.lent)).getD [] else []
def WO (n:Zk) (op num:Int) (i:Nat):Bool:=decide ((i:Int)∈Au n op num)
def TF (n:Zk) (vars:LI) (op num a:Int) (i:Nat):Bool:=Tb op&&(gI vars a != 0&&!WO n op num i)
def Tk (n:Zk) (op num:Int):LI->Nat->Zp->Option Zp
 | [],_,L=>some L
 | a::r,i,L=>if TF n L.vars op num a i=true then (match Ul L a with
   | none=>none
   | some L1=>Tk n op num r (i+1) L1) else Tk n op num r (i+1) L
def KQ (n:Zk) (op num:Int) (ln:LI) (L:Zp):LI->Nat->Bool
 | [],_=>true
 | a::r,i=>if WO n op num i=true/\¬Xr L ln a=true then false else KQ n op num ln L r (i+1)
def Kk (L:Zp) (into:Int) (m:Nat):Option Zp:=
 if 0<into then (if gI L.tok (into-1)≠m then none else some { L with tok:=L.tok.set (into-1).toNat (-1) }) else some L
def Us (n:Zk) (ln:LI) (L:Zp) (op num into:Int) (args:LI):Option Zp:=
 match Tk n op num args 0 L with
 | none=>none
 | some L1=>if KQ n op num ln L1 args 0=true then Kk L1 into args.length else none
def T7:LI->LI->Bool
 | o::os,t::ts=>if o≠0∨0<=t then false else T7 os ts
 | _,_=>true
def Zp.take (L:Zp) (m:Nat):Zp:=⟨L.vars.take m,L.own.take m,L.par.take m,L.con.take m,L.fst.take m,L.tok.take m⟩
def JI (L:Zp) (m:Nat):Option Zp:=if T7 (L.own.drop m) (L.tok.drop m)=true then some (L.take m) else none
def KO (L:Zp) (par:Int):LI->Zp
 | []=>L
 | t::r=>KO (L.grow t 0 par) par r
def KF (ds:List Zg) (L:Zp) (x c:Int):Zp:=
 KO { L with con:=L.con.set x.toNat c,fst:=L.fst.set x.toNat L.vars.length } x (ZV ds c)
def V5 (ds:List Zg) (L:Zp) (op num:Int) (args:LI) (i:Nat):Zp:=
 if op=8 then KF ds L (gI args 0) (gI (ZY ds num) i) else L
def Qf (lent:LI):LI->Nat->Zp->Zp
 | [],_,L=>L
 | t::r,i,L=>Qf lent r (i+1) (L.grow t (if t≠0/\¬(i:Int)∈lent then 1 else 0) (-1))
def VV (r:Yg):Zp:=Qf r.lent r.params 0 ⟨[],[],[],[],[],[]⟩
def JK (L:Zp) (ln:LI) (v:Int):Option Zp:=if Xr L ln v=true then some { L with own:=L.own.set v.toNat (gI L.own v+1) } else none
def TX (n:Zk) (ln:LI) (L:Zp) (op num into:Int) (args:LI) (ch:Option Zp):Option Zp:=
 if op=14 then JK L ln (gI args 0)
 else if op=15 then Ul L (gI args 0)
 else if op=16∨op=17 then TV n.decls L op (gI args 0)
 else if op=7∨op=8 then (if op=8/\¬Xr L ln (gI args 0)=true then none else ch)
 else Us n ln L op num into args
def Kj (L:Zp) (op t:Int) (r:Option Zp):Option Zp:=
 match r with
 | none=>none
 | some L1=>if XQ op=true then some (L1.grow t (if t≠0 then 1 else 0) (-1)) else some L1
def Aw (L:Zp) (first:Option Zp) (rest:Zp->Bool):Option Zp:=
 match first with
 | none=>none
 | some one=>if rest one=true then some { L with own:=one.own,tok:=one.tok } else none
def GG (one:Zp) (two:Option Zp) (rest:Bool):Bool:=
 match two with
 | none=>false
 | some two=>if one.own=two.own/\one.tok=two.tok then rest else false
def Bz (r:Option Zp) (f:Zp->Option Zp):Option Zp:=match r with|none=>none|some L=>f L
def Ur (m:Nat) (res:Int) (L:Zp):Option Zp:=Bz (if gI L.vars res≠0 then Ul L res else some L) fun L2=>JI L2 m
mutual
def Vo (n:Zk) (ln:LI) (L:Zp):Z5->Option Zp
 | .mk op num into args kids=>Kj L op (Yb n L.vars (.mk op num into args kids)) (TX n ln L op num into args (Tx n ln L op num args kids))
def Tx (n:Zk) (ln:LI) (L:Zp) (op num:Int) (args:LI):List Z7->Option Zp
 | []=>none
 | b::bs=>Aw L (Vj n ln (V5 n.decls L op num args 0) L.vars.length b) fun one=>Km n ln L op num args one bs 1
def Km (n:Zk) (ln:LI) (L:Zp) (op num:Int) (args:LI) (one:Zp):List Z7->Nat->Bool
 | [],_=>true
 | b::bs,i=>GG one (Vj n ln (V5 n.decls L op num args i) L.vars.length b) (Km n ln L op num args one bs (i+1))
def XY (n:Zk) (ln:LI) (L:Zp):List Z5->Option Zp
 | []=>some L
 | s::r=>Bz (Vo n ln L s) fun L1=>XY n ln L1 r
def Vj (n:Zk) (ln:LI) (L:Zp) (m:Nat):Z7->Option Zp
 | .mk steps result=>Bz (XY n ln L steps) (Ur m result)
end
theorem GT (n:Zk) (ln:LI) (L:Zp) (s:Z5):Vo n ln L s=Kj L s.op (Yb n L.vars s) (TX n ln L s.op s.num s.into s.args (Tx n ln L s.op s.num s.args s.kids)):=by
 cases s with
 | mk op num into args kids=>rw [Vo];rfl
theorem JG (n:Zk) (ln:LI) (L:Zp) (m:Nat) (b:Z7):Vj n ln L m b=Bz (XY n ln L b.steps) (Ur m b.result):=by
 cases b with
 | mk st r=>rw [Vj];rfl
structure Wi (L:Zp):Prop where
 own:L.own.length=L.vars.length
 par:L.par.length=L.vars.length
 con:L.con.length=L.vars.length
 fst:L.fst.length=L.vars.length
 tok:L.tok.length=L.vars.length
structure X0 (ds:List Zg) (L:Zp) (q:Int):Prop where
 len:Wi L
 down:∀j:Int,0<=j->j<L.vars.length->gI L.par j<j
 arm:∀x:Int,0<=x->x<L.vars.length->0<=gI L.con x->0<=gI L.fst x/\gI L.fst x+(ZV ds (gI L.con x)).length<=L.vars.length
 nn:∀x∈L.own,0<=x
 bd:∀x∈L.own,x<=q
end Go.Abs
section
namespace Go.Abs
end Go.Abs
namespace Go.Abs
theorem Za7 {n:Zk} {op num:Int} {r:Yg} (h:op=9) (hr:n.routines[num.toNat]? = some r):Au n op num=r.lent:=by
 rw [Au,Zf h,hr];rfl
end Go.Abs
namespace Go.Abs
theorem Z0n {own par ln:LI} {N:Int} (hd:∀j:Int,0<=j->j<N->gI par j<j):∀(k:Nat) (v:Int),0<=v->v<N->v.toNat+1<=k->Q5 own par ln k v=Q5 own par ln (v.toNat+1) v:=by
 intro k
 induction k using Nat.strongRecOn with
 | ind k ih=>
  intro v h0 hN hk
  cases k with
  | zero=>omega
  | succ k=>
   rw [Q5,Q5]
   split
   ·split
    ·rfl
    ·have hdv:=hd v h0 hN
     rw [ih k om (gI par v) om om om]
     rw [ih v.toNat om (gI par v) om om om]
   ·rfl
theorem MD {own par ln:LI} {N j x1 x2:Int} {r:Bool} (h1:gI own j=x1) (h2:gI par j=x2) (hj:0<=j/\j<N) (hx:x1<1/\¬j∈ln) (h0:¬x2<0) (hd:∀i:Int,0<=i->i<N->gI par i<i)
  (h:Q5 own par ln (j.toNat+1) j=r):Q5 own par ln (x2.toNat+1) x2=r:=by
 rw [Q5,h1,h2,Zf hx,Z8 h0] at h
 have hdv:=hd j hj.1 hj.2
 rw [<-h,Z0n hd j.toNat x2 om om om]
theorem MC {own par ln:LI} {j x1 x2:Int} {r:Bool} (h1:gI own j=x1) (h2:gI par j=x2) (hx:x1<1/\¬j∈ln) (h0:x2<0) (h:Q5 own par ln (j.toNat+1) j=r):false=r:=by
 rw [Q5,h1,h2,Zf hx,Zf h0] at h;exact h
theorem ME {own par ln:LI} {j x1:Int} {r:Bool} (h1:gI own j=x1) (hx:¬(x1<1/\¬j∈ln)) (h:Q5 own par ln (j.toNat+1) j=r):true=r:=by
 rw [Q5,h1,Z8 hx] at h;exact h
end Go.Abs
namespace Go.Abs
theorem Qj {L L':Zp} {v:Int} (h:Ul L v=some L'):1<=gI L.own v/\L'.vars=L.vars/\L'.par=L.par/\L'.con=L.con/\L'.fst=L.fst/\L'.tok=L.tok/\L'.own=L.own.set v.toNat (gI L.own v-1):=by
 rw [Ul] at h
 split at h
 ·cases h
 ·cases h;exact ⟨by omega,rfl,rfl,rfl,rfl,rfl,rfl⟩
theorem In {xs:LI} {v:Int} (h:gI xs v≠0):gI xs v∈xs:=by
 rw [gI] at h ⊢
 cases hx:xs[v.toNat]? with
 | none=>rw [hx] at h;exact absurd rfl h
 | some y=>exact ZX hx
theorem KY {xs:LI} {i:Nat} {a x:Int} (h:x∈xs.set i a):x∈xs∨x=a:=List.mem_or_eq_of_mem_set h
theorem X0.take {ds:List Zg} {L L':Zp} {q v:Int} (hk:X0 ds L q) (h:Ul L v=some L'):X0 ds L' q:=by
 obtain ⟨t1,t2,t3,t4,t5,t6,t7⟩:=Qj h
 obtain ⟨f1,f2,f3,f4,f5⟩:=hk.len
 have hm:=In (xs:=L.own) (v:=v) om
 refine ⟨⟨by rw [t7,t2,UQ];exact f1,by rw [t3,t2];exact f2,by rw [t4,t2];exact f3,by rw [t5,t2];exact f4,by rw [t6,t2];exact f5⟩,?_,?_,?_,?_⟩
 ·rw [t2,t3];exact hk.down
 ·rw [t2,t4,t5];exact hk.arm
 ·rw [t7];intro x hx
  rcases KY hx with hx|rfl
  ·exact hk.nn x hx
  ·omega
 ·rw [t7];intro x hx
  rcases KY hx with hx|rfl
  ·exact hk.bd x hx
  ·have:=hk.bd _ hm;omega
end Go.Abs
end
namespace Go.Abs
theorem Md {us:LI}:∀{args tys:LI},T4 us args tys=true->args.length=tys.length/\∀a∈args,0<=a/\a<us.length
 | [],[],_=>⟨rfl,by simp⟩
 | [],_::_,h=>by cases h
 | _::_,[],h=>by cases h
 | a::as1,t::ts,h=>by
  rw [T4] at h
  split at h
  ·rename_i h1
   obtain ⟨q1,q2⟩:=Md h
   refine ⟨by simp [q1],fun x hx=>?_⟩
   rcases YB.1 hx with rfl|hx
   ·have:=(KH h1).1;omega
   ·exact q2 x hx
  ·cases h
theorem P6 {n:Zk} {us:LI}:∀{bs:List Z7} {ms:List LI} {f:Bool} {t:Int},0<=t->0<=WY n us bs ms f t ->
  ∀(i:Nat) (b:Z7) (m:LI),bs[i]? = some b->ms[i]? = some m->0<=Xo n (us++m) b
 | [],_,_,_,_,_,i,b,m,hb,_=>by simp at hb
 | b::bs,[],_,_,_,h,_,_,_,_,hm=>by simp at hm
 | b::bs,m::ms,f,t,ht,h,i,c,l,hc,hl=>by
  rw [WY] at h
  split at h
  ·omega
  ·rename_i hq
   have h0:0<=Xo n (us++m) b:=by
    rcases Int.lt_or_le (Xo n (us++m) b) 0 with q|q
    ·exact absurd (.inl q) hq
    ·exact q
   cases i with
   | zero=>simp at hc hl;subst hc hl;exact h0
   | succ i=>exact P6 h0 h i c l (by simpa using hc) (by simpa using hl)
structure A8 (n:Zk) (us:LI) (s:Z5):Prop where
 args:∀a∈s.args,0<=a/\a<us.length
 one:(s.op=7∨s.op=8∨(14<=s.op/\s.op<=17))->∃a,s.args=[a]
 num:s.op=9->0<=s.num/\s.num<n.routines.length
 into:s.into≠0->1<=s.into/\s.into<=us.length
 kids:(s.op=7∨s.op=8)->s.kids.length=(Xn n.decls s.op s.num).length/\(Xn n.decls s.op s.num).length≠0 /\
  ∀(i:Nat) (b:Z7) (m:LI),s.kids[i]? = some b->(Xn n.decls s.op s.num)[i]? = some m->0<=Xo n (us++m) b
theorem Z9k {n:Zk} {us:LI} {op num:Int} {kids:List Z7} (h:0<=Ty n us op num kids) :
  kids.length=(Xn n.decls op num).length/\(Xn n.decls op num).length≠0/\∀(i:Nat) (b:Z7) (m:LI),kids[i]? = some b->(Xn n.decls op num)[i]? = some m->0<=Xo n (us++m) b:=by
 rw [Ty] at h
 split at h
 ·omega
 ·rename_i hq
  exact ⟨by omega,by omega,P6 (Int.le_refl 0) h⟩
theorem Pr {xs:LI} (h:xs.length=1):∃a,xs=[a]:=by
 match xs,h with
 | [a],_=>exact ⟨a,rfl⟩
theorem Dq {n:Zk} {us:LI} {s:Z5} (h:0<=Yb n us s):A8 n us s:=by
 rw [JX] at h
 split at h
 ·omega
 rename_i h0
 have hinto:s.into≠0->1<=s.into/\s.into<=us.length:=by
  intro hi
  have hv:Um us s.op s.into=true:=by
   cases q:Um us s.op s.into with
   | true=>rfl
   | false=>exact absurd (.inr (.inl (by rw [q];simp))) h0
  rw [Um,Z8 hi] at hv
  split at hv
  ·cases ha:Xx us (s.into-1) with
   | none=>rw [ha] at hv;cases hv
   | some t=>have:=(KH ha).1;omega
  ·cases hv
 have mk:(∀a∈s.args,0<=a/\a<us.length)->((s.op=7∨s.op=8∨(14<=s.op/\s.op<=17))->∃a,s.args=[a])->(s.op=9->0<=s.num/\s.num<n.routines.length) ->
   ((s.op=7∨s.op=8)->0<=Ty n us s.op s.num s.kids)->A8 n us s:=fun a b c d=>⟨a,b,c,hinto,fun q=>Z9k (d q)⟩
 have ty:∀{tys},We us s.args tys=true->s.args.length=tys.length/\∀a∈s.args,0<=a/\a<us.length:=fun q=>Md q
 split at h
 ·rename_i h1
  split at h
  ·rename_i h2
   exact mk (by rw [List.eq_nil_of_length_eq_zero h2.1];simp) om om om
  ·omega
 split at h
 ·split at h
  ·rename_i h1 h2;exact mk (ty h2).2 om om om
  ·omega
 split at h
 ·split at h
  ·rename_i h1 h2;exact mk (ty h2).2 om om om
  ·omega
 split at h
 ·split at h
  ·rename_i h1 h2;exact mk (ty h2.2).2 om om om
  ·omega
 split at h
 ·split at h
  ·rename_i h1 h2;exact mk (ty h2).2 (fun _=>Pr (by simpa using (ty h2).1)) om (fun _=>h)
  ·omega
 split at h
 ·split at h
  ·rename_i h1 h2;exact mk (ty h2).2 (fun _=>Pr (by simpa using (ty h2).1)) om (fun _=>h)
  ·omega
 split at h
 ·rename_i hop
  rw [TC] at h
  cases hr:Xx n.routines s.num with
  | none=>rw [hr] at h;simp at h
  | some r=>
   rw [hr] at h
   simp only at h
   have hn:=(KH hr).1
   rw [Kq] at h
   split at h
   ·split at h
    ·rename_i h2;exact mk (ty h2).2 om om om
    ·omega
   ·split at h
    ·omega
    ·rename_i h2
     have h3:We us s.args (r.params.take (r.params.length-1))=true:=by
      cases q:We us s.args (r.params.take (r.params.length-1)) with
      | true=>rfl
      | false=>exact absurd (.inr (.inr (by rw [q];simp))) h2
     exact mk (ty h3).2 om om om
 split at h
 ·rename_i hop
  rcases he:s.args with _|⟨a,_|⟨b,_|⟨c,r⟩⟩⟩
  ·rw [he,show QH n.decls us []=-1 from rfl] at h;omega
  ·rw [he,show QH n.decls us [a]=-1 from rfl] at h;omega
  ·rw [he,QH] at h
   cases ha:Xx us a with
   | none=>rw [ha] at h;simp at h
   | some t=>
    rw [ha] at h
    simp only at h
    split at h
    ·cases hd:n.decls[(t-1).toNat]? with
     | none=>rw [hd] at h;simp at h
     | some d=>
      rw [hd] at h
      simp only at h
      split at h
      ·rename_i h3
       have h4:=(Md h3).2 b (by simp)
       have h5:=(KH ha).1
       refine mk (fun x hx=>?_) om om om
       rw [he] at hx
       rcases YB.1 hx with rfl|hx
       ·omega
       ·rw [Xv.1 hx];exact h4
      ·omega
    ·omega
  ·rw [he,show QH n.decls us (a::b::c::r)=-1 from rfl] at h;omega
 split at h
 ·rename_i hop
  rcases he:s.args with _|⟨a,_|⟨b,r⟩⟩
  ·rw [he,show TH n.decls us s.op []=-1 from rfl] at h;omega
  ·rw [he,TH] at h
   cases ha:Xx us a with
   | none=>rw [ha] at h;simp at h
   | some t=>
    have h5:=(KH ha).1
    refine mk (fun x hx=>?_) (fun _=>⟨a,he⟩) om om
    rw [he] at hx
    rw [Xv.1 hx];omega
  ·rw [he,show TH n.decls us s.op (a::b::r)=-1 from rfl] at h;omega
 ·omega
def Qi (n:Zk) (us:LI) (s:Z5):LI:=if XQ s.op=true then us++[Yb n us s] else us
theorem Fg {L L':Zp} {ln:LI} {v:Int} (h:JK L ln v=some L'):L'.vars=L.vars/\L'.par=L.par/\L'.con=L.con/\L'.fst=L.fst/\L'.tok=L.tok/\L'.own=L.own.set v.toNat (gI L.own v+1):=by
 rw [JK] at h
 split at h
 ·cases h;exact ⟨rfl,rfl,rfl,rfl,rfl,rfl⟩
 ·cases h
theorem Hs:∀(fs:LI) (own:LI) (p:Int),(UD own p fs).length=own.length
 | [],own,p=>rfl
 | f::r,own,p=>by rw [UD,Hs r];split<;>simp
theorem Il {xs:LI} {q v:Int} (h:∀x∈xs,x<=q) (hq:0<=q):gI xs v<=q:=by
 by_cases h0:gI xs v=0
 ·omega
 ·exact h _ (In h0)
theorem Io {xs:LI} {v:Int} (h:∀x∈xs,0<=x):0<=gI xs v:=by
 by_cases h0:gI xs v=0
 ·omega
 ·exact h _ (In h0)
theorem Ht:∀(fs:LI) (own:LI) (p:Int),(∀x∈own,0<=x)->∀x∈UD own p fs,0<=x
 | [],own,p,h=>h
 | f::r,own,p,h=>by
  rw [UD]
  refine Ht r _ _ fun x hx=>?_
  split at hx
  ·rcases KY hx with hx|rfl
   ·exact h x hx
   ·have:=Io (v:=p) h;omega
  ·exact h x hx
theorem Hr:∀(fs:LI) (own:LI) (p q:Int),0<=q->(∀x∈own,x<=q)->∀x∈UD own p fs,x<=q+fs.length
 | [],own,p,q,hq,h=>by intro x hx;have:=h x hx;simp;omega
 | f::r,own,p,q,hq,h=>by
  intro x hx
  rw [UD] at hx
  have:=Hr r _ _ (q+1) om (fun y hy=>by
   split at hy
   ·rcases KY hy with hy|rfl
    ·have:=h y hy;omega
    ·have:=Il (v:=p) h hq;omega
   ·have:=h y hy;omega) x hx
  simp only [YQ];omega
theorem Gm {ds:List Zg} {L L':Zp} {op v:Int} (h:TV ds L op v=some L'):L'.vars=L.vars/\L'.par=L.par/\L'.con=L.con/\L'.fst=L.fst/\L'.tok.length=L.tok.length /\
  ∃L1,Ul L v=some L1/\L'.own=UD L1.own (gI L.fst v) (ZV ds (gI L.con v)):=by
 rw [TV] at h
 split at h
 ·cases h
 ·cases ht:Ul L v with
  | none=>rw [ht] at h;cases h
  | some L1=>
   rw [ht] at h
   simp only at h
   obtain ⟨t1,t2,t3,t4,t5,t6,t7⟩:=Qj ht
   cases h
   refine ⟨t2,t3,t4,t5,?_,L1,rfl,rfl⟩
   split
   ·rw [UQ]
   ·rfl
theorem FJ {n:Zk} {op num:Int} {ds:List Zg} {q:Int}:∀{as1:LI} {i:Nat} {L L':Zp},X0 ds L q->Tk n op num as1 i L=some L'->X0 ds L' q/\L'.vars=L.vars/\L'.par=L.par/\L'.con=L.con/\L'.fst=L.fst/\L'.tok=L.tok
 | [],i,L,L',hk,h=>by rw [Tk] at h;cases h;exact ⟨hk,rfl,rfl,rfl,rfl,rfl⟩
 | a::r,i,L,L',hk,h=>by
  rw [Tk] at h
  split at h
  ·cases ht:Ul L a with
   | none=>rw [ht] at h;cases h
   | some L1=>
    rw [ht] at h
    obtain ⟨t1,t2,t3,t4,t5,t6,t7⟩:=Qj ht
    obtain ⟨k1,k2,k3,k4,k5,k6⟩:=FJ (hk.take ht) h
    exact ⟨k1,k2.trans t2,k3.trans t3,k4.trans t4,k5.trans t5,k6.trans t6⟩
  ·exact FJ hk h
theorem X0.le {ds:List Zg} {L:Zp} {q q':Int} (h:X0 ds L q) (hq:q<=q'):X0 ds L q':=⟨h.len,h.down,h.arm,h.nn,fun x hx=>Int.le_trans (h.bd x hx) hq⟩
theorem X0.turn {ds:List Zg} {L L':Zp} {q q':Int} (hk:X0 ds L q) (h1:L'.vars=L.vars) (h2:L'.par=L.par) (h3:L'.con=L.con) (h4:L'.fst=L.fst) (h5:L'.tok.length=L.tok.length) (h6:L'.own.length=L.own.length)
  (h7:∀x∈L'.own,0<=x) (h8:∀x∈L'.own,x<=q'):X0 ds L' q':=by
 obtain ⟨f1,f2,f3,f4,f5⟩:=hk.len
 refine ⟨⟨by rw [h6,h1];exact f1,by rw [h2,h1];exact f2,by rw [h3,h1];exact f3,by rw [h4,h1];exact f4,by rw [h5,h1];exact f5⟩,?_,?_,h7,h8⟩
 ·rw [h1,h2];exact hk.down
 ·rw [h1,h3,h4];exact hk.arm
theorem Jo {xs ys:LI} {j:Int} (h:j.toNat<xs.length):gI (xs++ys) j=gI xs j:=by
 rw [gI,gI,QD h]
theorem Im {xs:LI} {y:Int} {j:Int} (h:j.toNat=xs.length):gI (xs++[y]) j=y:=by
 rw [gI,h];simp
theorem X0.grow {ds:List Zg} {L:Zp} {q t o p:Int} (hk:X0 ds L q) (hp:p<L.vars.length) (ho:0<=o/\o<=q):X0 ds (L.grow t o p) q:=by
 obtain ⟨f1,f2,f3,f4,f5⟩:=hk.len
 refine ⟨⟨by simp [Zp.grow,f1],by simp [Zp.grow,f2],by simp [Zp.grow,f3],by simp [Zp.grow,f4],by simp [Zp.grow,f5]⟩,?_,?_,?_,?_⟩
 ·intro j hj hl
  simp only [Zp.grow,Yq,EF] at hl ⊢
  by_cases hlt:j<L.vars.length
  ·rw [Jo om];exact hk.down j hj hlt
  ·rw [Im om];omega
 ·intro x hx hl
  simp only [Zp.grow,Yq,EF] at hl ⊢
  by_cases hlt:x<L.vars.length
  ·rw [Jo om,Jo om]
   intro hc
   have:=hk.arm x hx hlt hc
   exact ⟨this.1,by omega⟩
  ·rw [Im om];omega
 ·intro x hx
  simp only [Zp.grow,X7,Xv] at hx
  rcases hx with hx|rfl
  ·exact hk.nn x hx
  ·exact ho.1
 ·intro x hx
  simp only [Zp.grow,X7,Xv] at hx
  rcases hx with hx|rfl
  ·exact hk.bd x hx
  ·exact ho.2
theorem FC {xs:LI} {k:Nat} {a:Int} {j:Int} (h:xs.length<=j.toNat/\j.toNat<xs.length+k):gI (xs++List.replicate k a) j=a:=by
 rw [gI,Jy h.1,List.getElem?_replicate,Zf om];rfl
theorem CQ {xs:LI} {x j c:Int} (h:j.toNat=x.toNat) (hl:x.toNat<xs.length):gI (xs.set x.toNat c) j=c:=by
 rw [gI,h,List.getElem?_set_self hl];rfl
theorem CR {xs:LI} {x j c:Int} (h:j.toNat≠x.toNat):gI (xs.set x.toNat c) j=gI xs j:=by
 rw [gI,gI,List.getElem?_set_ne (fun q=>h q.symm)]
theorem FH {p:Int}:∀(fs:LI) (L:Zp),KO L p fs=⟨L.vars++fs,L.own++List.replicate fs.length 0,L.par++List.replicate fs.length p,L.con++List.replicate fs.length (-1),
  L.fst++List.replicate fs.length (-1),L.tok++List.replicate fs.length (-1)⟩
 | [],L=>by simp [KO]
 | t::r,L=>by rw [KO,FH r];simp [Zp.grow,Mq]
theorem Z1b {ds:List Zg} {L:Zp} {q x c:Int} (hk:X0 ds L q) (hq:0<=q) (hx:0<=x/\x<L.vars.length):X0 ds (KF ds L x c) q/\(KF ds L x c).vars=L.vars++ZV ds c:=by
 obtain ⟨f1,f2,f3,f4,f5⟩:=hk.len
 rw [KF,FH]
 refine ⟨⟨⟨by simp [f1],by simp [f2],by simp [f3],by simp [f4],by simp [f5]⟩,?_,?_,?_,?_⟩,rfl⟩
 ·intro j hj hl
  simp only [Yq] at hl ⊢
  by_cases hlt:j<L.vars.length
  ·rw [Jo om];exact hk.down j hj hlt
  ·rw [FC om];omega
 ·intro y hy hl
  simp only [Yq] at hl ⊢
  by_cases hlt:y<L.vars.length
  ·rw [Jo (by simp;omega),Jo (by simp;omega)]
   by_cases he:y.toNat=x.toNat
   ·rw [CQ he om,CQ he om]
    intro _
    exact ⟨by omega,by simp⟩
   ·rw [CR he,CR he]
    intro hc
    have:=hk.arm y hy hlt hc
    exact ⟨this.1,by omega⟩
  ·rw [FC (by simp;omega)];omega
 ·intro y hy
  simp only [X7,List.mem_replicate] at hy
  rcases hy with hy|⟨_,rfl⟩
  ·exact hk.nn y hy
  ·exact Int.le_refl 0
 ·intro y hy
  simp only [X7,List.mem_replicate] at hy
  rcases hy with hy|⟨_,rfl⟩
  ·exact hk.bd y hy
  ·exact hq
theorem C7 {n:Zk} {L:Zp} {q:Int} {s:Z5} {i:Nat} {m:LI} (hk:X0 n.decls L q) (hq:0<=q) (hf:A8 n L.vars s) (hop:s.op=7∨s.op=8) (hm:(Xn n.decls s.op s.num)[i]? = some m) :
  X0 n.decls (V5 n.decls L s.op s.num s.args i) q/\(V5 n.decls L s.op s.num s.args i).vars=L.vars++m:=by
 rw [V5]
 split
 ·rename_i h8
  obtain ⟨a,ha⟩:=hf.one om
  have hb:=hf.args a (by rw [ha];simp)
  have hg:gI s.args 0=a:=by rw [ha];rfl
  rw [Xn,Z8 om,T8] at hm
  cases hc:(ZY n.decls s.num)[i]? with
  | none=>rw [hc] at hm;cases hm
  | some c=>
   rw [hc] at hm
   cases hm
   have hgc:gI (ZY n.decls s.num) (i:Int)=c:=by rw [gI];simp [hc]
   rw [hg,hgc]
   exact Z1b hk hq hb
 ·rename_i h8
  rw [Xn,Zf om] at hm
  have:m=[]:=by
   match i,hm with
   | 0,hm=>simpa using hm.symm
   | 1,hm=>simpa using hm.symm
   | i+2,hm=>simp at hm
  subst this
  exact ⟨hk,by simp⟩
theorem Sw {n:Zk}:∀{l:List Z5} {us vs:LI},XB n l us=some vs->us.length<=vs.length
 | [],us,vs,h=>by rw [XB] at h;cases h;exact X5 _
 | s::r,us,vs,h=>by
  rw [XB] at h
  split at h
  ·cases h
  ·have:=Sw h
   split at this
   ·simp only [Yq,EF] at this;omega
   ·exact this
theorem Ol {n:Zk} {ln:LI} {L L':Zp} {op num into q:Int} {args:LI} {ds:List Zg} (hk:X0 ds L q) (h:Us n ln L op num into args=some L'):X0 ds L' q/\L'.vars=L.vars:=by
 rw [Us] at h
 cases ht:Tk n op num args 0 L with
 | none=>rw [ht] at h;cases h
 | some L1=>
  rw [ht] at h
  simp only at h
  obtain ⟨k1,k2,k3,k4,k5,k6⟩:=FJ hk ht
  split at h
  ·rw [Kk] at h
   split at h
   ·split at h
    ·cases h
    ·cases h
     exact ⟨k1.turn rfl rfl rfl rfl (by simp) rfl k1.nn k1.bd,k2⟩
   ·cases h;exact ⟨k1,k2⟩
  ·cases h
theorem Ns {L L':Zp} {m:Nat} (h:JI L m=some L'):L'=L.take m/\T7 (L.own.drop m) (L.tok.drop m)=true:=by
 rw [JI] at h
 split at h
 ·rename_i hz;cases h;exact ⟨rfl,hz⟩
 ·cases h
theorem AG {r:Option Zp} {f:Zp->Option Zp} {L:Zp} (h:Bz r f=some L):∃L1,r=some L1/\f L1=some L:=by
 cases r with
 | none=>cases h
 | some L1=>exact ⟨L1,rfl,h⟩
theorem Pj (n:Zk) (hn:X2 n) (ln:LI):∀m:Nat,
  (∀(s:Z5) (L L':Zp) (q:Int),s.sz<=m->X0 n.decls L q->0<=q->0<=Yb n L.vars s->Vo n ln L s=some L'->X0 n.decls L' (q+4*s.sz)/\L'.vars=Qi n L.vars s) /\
  (∀(b:Z7) (L O:Zp) (q:Int) (k:Nat),b.sz<=m->X0 n.decls L q->0<=q->0<=Xo n L.vars b->k<=L.vars.length->Vj n ln L k b=some O ->
   (O.own.length=k/\O.tok.length=k/\(∀x∈O.own,0<=x/\x<=q+4*b.sz))/\Wi O/\O.vars.length=k):=by
 intro m
 induction m with
 | zero=>exact ⟨fun s _ _ _ h=>by have:=s.sz_pos;omega,fun s _ _ _ _ h=>by have:=s.sz_pos;omega⟩
 | succ m ih=>
  have hs:∀(s:Z5) (L L':Zp) (q:Int),s.sz<=m+1->X0 n.decls L q->0<=q->0<=Yb n L.vars s->Vo n ln L s=some L'->X0 n.decls L' (q+4*s.sz)/\L'.vars=Qi n L.vars s:=by
   intro s L L' q Xi hk hq hty h
   have hp:=s.sz_pos
   have hf:=Dq hty
   obtain ⟨f1,f2,f3,f4,f5⟩:=hk.len
   rw [GT] at h
   unfold Kj at h
   cases hpk:TX n ln L s.op s.num s.into s.args (Tx n ln L s.op s.num s.args s.kids) with
   | none=>rw [hpk] at h;cases h
   | some L1=>
    rw [hpk] at h
    simp only at h
    have key:X0 n.decls L1 (q+4*s.sz)/\L1.vars=L.vars:=by
     rw [TX] at hpk
     split at hpk
     ·obtain ⟨d1,d2,d3,d4,d5,d6⟩:=Fg hpk
      refine ⟨hk.turn d1 d2 d3 d4 (by rw [d5]) (by rw [d6,UQ]) ?_ ?_,d1⟩
      ·rw [d6];intro x hx
       rcases KY hx with hx|rfl
       ·exact hk.nn x hx
       ·have:=Io (v:=gI s.args 0) hk.nn;omega
      ·rw [d6];intro x hx
       rcases KY hx with hx|rfl
       ·have:=hk.bd x hx;omega
       ·have:=Il (v:=gI s.args 0) hk.bd hq;omega
     split at hpk
     ·exact ⟨(hk.take hpk).le om,(Qj hpk).2.1⟩
     split at hpk
     ·rename_i hop
      obtain ⟨d1,d2,d3,d4,d5,Lt,ht,d6⟩:=Gm hpk
      have hkt:=hk.take ht
      have h3:=VZ hn.decls (gI L.con (gI s.args 0))
      refine ⟨hk.turn d1 d2 d3 d4 d5 ?_ ?_ ?_,d1⟩
      ·rw [d6,Hs,(Qj ht).2.2.2.2.2.2,UQ]
      ·rw [d6];exact Ht _ _ _ hkt.nn
      ·rw [d6];intro x hx
       have:=Hr _ _ _ q hq hkt.bd x hx;omega
     split at hpk
     ·rename_i hop
      split at hpk
      ·cases hpk
      ·cases hks:s.kids with
       | nil=>rw [hks,Tx] at hpk;cases hpk
       | cons b bs=>
        rw [hks,Tx] at hpk
        unfold Aw at hpk
        cases hb:Vj n ln (V5 n.decls L s.op s.num s.args 0) L.vars.length b with
        | none=>rw [hb] at hpk;cases hpk
        | some one=>
         rw [hb] at hpk
         simp only at hpk
         split at hpk
         ·cases hpk
          obtain ⟨q1,q2,q3⟩:=hf.kids hop
          have hks0:s.kids[0]? = some b:=by rw [hks];rfl
          obtain ⟨a0,ha0⟩:=QQ (xs:=Xn n.decls s.op s.num) (j:=0) om
          obtain ⟨k1,k2⟩:=C7 hk hq hf hop ha0
          have hbz:=Tm hks0
          obtain ⟨⟨r1,r2,r3⟩,_⟩:=ih.2 b _ one q L.vars.length om k1 hq (by rw [k2];exact q3 0 b a0 hks0 ha0) (by rw [k2];simp) hb
          refine ⟨hk.turn rfl rfl rfl rfl (by simp only;omega) (by simp only;omega) (fun x hx=>(r3 x hx).1) (fun x hx=>?_),rfl⟩
          have:=(r3 x hx).2;omega
         ·cases hpk
     ·obtain ⟨k1,k2⟩:=Ol hk hpk
      exact ⟨k1.le om,k2⟩
    split at h
    ·rename_i hd
     cases h
     refine ⟨key.1.grow om ?_,by rw [Qi,Zf hd];simp [Zp.grow,key.2]⟩
     split<;>omega
    ·rename_i hd
     cases h
     exact ⟨key.1,by rw [Qi,Z8 hd];exact key.2⟩
  refine ⟨hs,?_⟩
  intro b L O q k Xi hk hq hty hkl h
  have hsteps:∀(l:List Z5) (L L':Zp) (q:Int) (vs:LI),Y6 l<=m->X0 n.decls L q->0<=q->XB n l L.vars=some vs->XY n ln L l=some L'->X0 n.decls L' (q+4*Y6 l)/\L'.vars=vs:=by
   intro l
   induction l with
   | nil=>intro L L' q vs _ hk _ h1 h2;rw [XB] at h1;rw [XY] at h2;cases h1;cases h2;exact ⟨by simpa [Y6] using hk,rfl⟩
   | cons s r ihr=>
    intro L L' q vs hz hk hq h1 h2
    rw [Y6] at hz
    rw [XY] at h2
    obtain ⟨L1,e1,e2⟩:=AG h2
    rw [XB] at h1
    split at h1
    ·cases h1
    ·rename_i h0
     obtain ⟨k1,k2⟩:=hs s L L1 q om hk hq om e1
     obtain ⟨k3,k4⟩:=ihr L1 L' (q+4*s.sz) vs om k1 om (by rw [k2];exact h1) e2
     exact ⟨k3.le (by rw [Y6];omega),k4⟩
  have hbz:=b.sz_eq
  rw [JG] at h
  obtain ⟨L1,e1,e2⟩:=AG h
  rw [Cv] at hty
  cases hv:XB n b.steps L.vars with
  | none=>rw [hv] at hty;simp at hty
  | some vs=>
   obtain ⟨k1,k2⟩:=hsteps b.steps L L1 q vs om hk hq hv e1
   have hlen:=Sw hv
   rw [Ur] at e2
   obtain ⟨L2,e3,e4⟩:=AG e2
   have k3:X0 n.decls L2 (q+4*Y6 b.steps)/\L2.vars=L1.vars:=by
    split at e3
    ·exact ⟨k1.take e3,(Qj e3).2.1⟩
    ·cases e3;exact ⟨k1,rfl⟩
   obtain ⟨rfl,_⟩:=Ns e4
   obtain ⟨g1,g2,g3,g4,g5⟩:=k3.1.len
   have hl2:L2.vars.length=vs.length:=by rw [k3.2,k2]
   refine ⟨⟨by simp [Zp.take];omega,by simp [Zp.take];omega,fun x hx=>?_⟩,⟨by simp [Zp.take];omega,by simp [Zp.take];omega,by simp [Zp.take];omega,by simp [Zp.take];omega,by simp [Zp.take];omega⟩,by simp [Zp.take];omega⟩
   have hx':x∈L2.own:=TN hx
   have:=k3.1.nn x hx'
   have:=k3.1.bd x hx'
   omega
theorem Dp {n:Zk} (hn:X2 n) {ln:LI} {s:Z5} {L L':Zp} {q:Int} (hk:X0 n.decls L q) (hq:0<=q) (hty:0<=Yb n L.vars s) (h:Vo n ln L s=some L'):X0 n.decls L' (q+4*s.sz)/\L'.vars=Qi n L.vars s:=
 (Pj n hn ln s.sz).1 s L L' q (X5 _) hk hq hty h
theorem HB {n:Zk} (hn:X2 n) {ln:LI} {b:Z7} {L O:Zp} {q:Int} {k:Nat} (hk:X0 n.decls L q) (hq:0<=q) (hty:0<=Xo n L.vars b) (hkl:k<=L.vars.length) (h:Vj n ln L k b=some O) :
  O.own.length=k/\O.tok.length=k/\(∀x∈O.own,0<=x/\x<=q+4*b.sz):=
 ((Pj n hn ln b.sz).2 b L O q k (X5 _) hk hq hty hkl h).1
theorem Az {n:Zk} (hn:X2 n) {ln:LI} {s:Z5} {L L1:Zp} {q:Int} (hk:X0 n.decls L q) (hq:0<=q) (hf:A8 n L.vars s)
  (hpk:TX n ln L s.op s.num s.into s.args (Tx n ln L s.op s.num s.args s.kids)=some L1):X0 n.decls L1 (q+4*s.sz)/\L1.vars=L.vars:=by
 have hp:=s.sz_pos
 obtain ⟨f1,f2,f3,f4,f5⟩:=hk.len
 rw [TX] at hpk
 split at hpk
 ·obtain ⟨d1,d2,d3,d4,d5,d6⟩:=Fg hpk
  refine ⟨hk.turn d1 d2 d3 d4 (by rw [d5]) (by rw [d6,UQ]) ?_ ?_,d1⟩
  ·rw [d6];intro x hx
   rcases KY hx with hx|rfl
   ·exact hk.nn x hx
   ·have:=Io (v:=gI s.args 0) hk.nn;omega
  ·rw [d6];intro x hx
   rcases KY hx with hx|rfl
   ·have:=hk.bd x hx;omega
   ·have:=Il (v:=gI s.args 0) hk.bd hq;omega
 split at hpk
 ·exact ⟨(hk.take hpk).le om,(Qj hpk).2.1⟩
 split at hpk
 ·rename_i hop
  obtain ⟨d1,d2,d3,d4,d5,Lt,ht,d6⟩:=Gm hpk
  have hkt:=hk.take ht
  have h3:=VZ hn.decls (gI L.con (gI s.args 0))
  refine ⟨hk.turn d1 d2 d3 d4 d5 ?_ ?_ ?_,d1⟩
  ·rw [d6,Hs,(Qj ht).2.2.2.2.2.2,UQ]
  ·rw [d6];exact Ht _ _ _ hkt.nn
  ·rw [d6];intro x hx
   have:=Hr _ _ _ q hq hkt.bd x hx;omega
 split at hpk
 ·rename_i hop
  split at hpk
  ·cases hpk
  ·cases hks:s.kids with
   | nil=>rw [hks,Tx] at hpk;cases hpk
   | cons b bs=>
    rw [hks,Tx] at hpk
    unfold Aw at hpk
    cases hb:Vj n ln (V5 n.decls L s.op s.num s.args 0) L.vars.length b with
    | none=>rw [hb] at hpk;cases hpk
    | some one=>
     rw [hb] at hpk
     simp only at hpk
     split at hpk
     ·cases hpk
      obtain ⟨q1,q2,q3⟩:=hf.kids hop
      have hks0:s.kids[0]? = some b:=by rw [hks];rfl
      obtain ⟨a0,ha0⟩:=QQ (xs:=Xn n.decls s.op s.num) (j:=0) om
      obtain ⟨k1,k2⟩:=C7 hk hq hf hop ha0
      have hbz:=Tm hks0
      obtain ⟨r1,r2,r3⟩:=HB hn k1 hq (by rw [k2];exact q3 0 b a0 hks0 ha0) (by rw [k2];simp) hb
      refine ⟨hk.turn rfl rfl rfl rfl (by simp only;omega) (by simp only;omega) (fun x hx=>(r3 x hx).1) (fun x hx=>?_),rfl⟩
      have:=(r3 x hx).2;omega
     ·cases hpk
 ·obtain ⟨k1,k2⟩:=Ol hk hpk
  exact ⟨k1.le om,k2⟩
end Go.Abs
section
namespace Go.Abs
theorem HA {ds:List Zg} {op num:Int} {i:Nat} {m:LI} (h8:op=8) (h:(Xn ds op num)[i]? = some m):∃c,(ZY ds num)[i]? = some c/\m=ZV ds c:=by
 rw [Xn,Z8 om,T8] at h
 cases hc:(ZY ds num)[i]? with
 | none=>rw [hc] at h;cases h
 | some c=>rw [hc] at h;cases h;exact ⟨c,rfl,rfl⟩
theorem Z9e {ds:List Zg} {L:Zp} {op num x c:Int} {args:LI} {i:Nat} (h8:op=8) (hx:args[0]? = some x) (hc:(ZY ds num)[i]? = some c):V5 ds L op num args i=KF ds L x c:=by
 have h1:gI args 0=x:=by rw [gI];simp [hx]
 have h2:gI (ZY ds num) (i:Int)=c:=by rw [gI];simp [hc]
 rw [V5,Zf h8,h1,h2]
theorem Z9f {ds:List Zg} {L:Zp} {op num:Int} {args:LI} {i:Nat} (h8:¬op=8):V5 ds L op num args i=L:=by rw [V5,Z8 h8]
theorem Z9j {n:Zk} {ln:LI} {L:Zp} {op num:Int} {args:LI} {kids:List Z7} {kb:Z7} (h:kids[0]? = some kb) :
  Tx n ln L op num args kids=Aw L (Vj n ln (V5 n.decls L op num args 0) L.vars.length kb) fun one=>Km n ln L op num args one (kids.drop 1) 1:=by
 cases kids with
 | nil=>simp at h
 | cons b bs=>simp at h;subst h;rw [Tx];rfl
theorem E6 {n:Zk} {ln:LI} {L one:Zp} {op num:Int} {args:LI} {kids:List Z7} {kb:Z7} {k:Nat} (h:kids[k]? = some kb) :
  Km n ln L op num args one (kids.drop k) k=GG one (Vj n ln (V5 n.decls L op num args k) L.vars.length kb) (Km n ln L op num args one (kids.drop (k+1)) (k+1)):=by
 rw [Y7 h,Km]
def Jg (n:Zk) (ln:LI) (L:Zp) (s:Z5):Option Zp:=
 if s.op=8/\¬Xr L ln (gI s.args 0)=true then none else Tx n ln L s.op s.num s.args s.kids
theorem Z2f {n:Zk} {ln:LI} {L:Zp} {s:Z5} (h8:s.op=8) (ha:¬Xr L ln (gI s.args 0)=true):Jg n ln L s=none:=by rw [Jg,Zf ⟨h8,ha⟩]
theorem Nf {n:Zk} {ln:LI} {L:Zp} {s:Z5} {kb:Z7} (h:¬(s.op=8/\¬Xr L ln (gI s.args 0)=true)) (hk:s.kids[0]? = some kb) :
  Jg n ln L s=Aw L (Vj n ln (V5 n.decls L s.op s.num s.args 0) L.vars.length kb) fun one=>Km n ln L s.op s.num s.args one (s.kids.drop 1) 1:=by
 rw [Jg,Z8 h,Z9j hk]
theorem Jn {xs:LI} {x:Int} (h:xs[0]? = some x):gI xs 0=x:=by rw [gI];simp [h]
end Go.Abs
namespace Go.Abs
theorem Wi.grow {L:Zp} {t o p:Int} (h:Wi L):Wi (L.grow t o p):=by
 obtain ⟨f1,f2,f3,f4,f5⟩:=h
 exact ⟨by simp [Zp.grow,f1],by simp [Zp.grow,f2],by simp [Zp.grow,f3],by simp [Zp.grow,f4],by simp [Zp.grow,f5]⟩
theorem Wi.arm {L:Zp} {i j:Nat} {c d:Int} (h:Wi L):Wi ⟨L.vars,L.own,L.par,L.con.set i c,L.fst.set j d,L.tok⟩:=by
 obtain ⟨f1,f2,f3,f4,f5⟩:=h
 exact ⟨f1,f2,by simp [f3],by simp [f4],f5⟩
end Go.Abs
namespace Go.Abs
theorem P5 {n:Zk} (hn:X2 n) {ln:LI} {L O:Zp} {q:Int} {s:Z5} {i:Nat} {kb:Z7} {m:LI} (hk:X0 n.decls L q) (hq:0<=q) (hf:A8 n L.vars s) (hop:s.op=7∨s.op=8)
  (_:s.kids[i]? = some kb) (harm:(Xn n.decls s.op s.num)[i]? = some m) (hbt:0<=Xo n (L.vars++m) kb) (h:Vj n ln (V5 n.decls L s.op s.num s.args i) L.vars.length kb=some O) :
  O.own.length=L.vars.length/\O.tok.length=L.vars.length:=by
 obtain ⟨k1,k2⟩:=C7 hk hq hf hop harm
 obtain ⟨r1,r2,_⟩:=HB hn k1 hq (by rw [k2];exact hbt) (by rw [k2];simp) h
 exact ⟨r1,r2⟩
theorem RE {one two:Zp} {r:Bool} (h:¬(¬one.own=two.own∨¬one.tok=two.tok)):GG one (some two) r=r:=Zf ⟨Vp.1 fun q=>h (.inl q),Vp.1 fun q=>h (.inr q)⟩
theorem RD {one two:Zp} {r:Bool} (h:¬one.own=two.own∨¬one.tok=two.tok):GG one (some two) r=false:=Z8 fun q=>h.elim (fun z=>z q.1) fun z=>z q.2
theorem Pt {L one:Zp} {f:Zp->Bool} (h:f one=true):Aw L (some one) f=some ⟨L.vars,one.own,L.par,L.con,L.fst,one.tok⟩:=Zf h
theorem Eb {L one:Zp} {f:Zp->Bool} (h:f one=false):Aw L (some one) f=none:=Z8 (by rw [h];simp)
end Go.Abs
namespace Go.Abs
section
variable {n:Zk} {ln:LI} {L:Zp} {s:Z5}
abbrev Qu (n:Zk) (ln:LI) (L:Zp) (s:Z5):Option Zp:=TX n ln L s.op s.num s.into s.args (Tx n ln L s.op s.num s.args s.kids)
theorem Li {x:Int} (h:s.op=14) (hx:gI s.args 0=x):Qu n ln L s=JK L ln x:=hx▸Zf h
theorem Lj {x:Int} (h:s.op=15) (hx:gI s.args 0=x):Qu n ln L s=Ul L x:=by rw [<-hx,Qu,TX,Z8 om,Zf h]
theorem Lk {x:Int} (h:s.op=16∨s.op=17) (hx:gI s.args 0=x):Qu n ln L s=TV n.decls L s.op x:=by rw [<-hx,Qu,TX,Z8 om,Z8 om,Zf h]
theorem Gq (h:s.op=7∨s.op=8):Qu n ln L s=Jg n ln L s:=by rw [Qu,TX,Z8 om,Z8 om,Z8 om,Zf h,Jg]
theorem R3 (h1:¬s.op=14) (h2:¬s.op=15) (h3:¬(s.op=16∨s.op=17)) (h4:¬(s.op=7∨s.op=8)):Qu n ln L s=Us n ln L s.op s.num s.into s.args:=by
 rw [Qu,TX,Z8 h1,Z8 h2,Z8 h3,Z8 h4]
theorem Z40 {v:Int} (h:¬Xr L ln v=true):JK L ln v=none:=Z8 h
theorem Z41 {v x:Int} (h:¬¬Xr L ln v=true) (hx:gI L.own v=x):JK L ln v=some ⟨L.vars,L.own.set v.toNat (x+1),L.par,L.con,L.fst,L.tok⟩:=by rw [JK,Zf (Vp.1 h),hx]
theorem UA (n:Zk) (ln:LI) (L:Zp) (s:Z5):Vo n ln L s=Kj L s.op (Yb n L.vars s) (Qu n ln L s):=GT n ln L s
theorem Th {X:Zp} {op t:Int} (h:XQ op=true/\t≠0):Kj L op t (some X)=some (X.grow t 1 (-1)):=by
 unfold Kj;simp only [h.1,↓reduceIte];rw [Zf h.2]
theorem Ti {X:Zp} {op t:Int} (h:¬(XQ op=true/\t≠0)) (h2:XQ op=true):Kj L op t (some X)=some (X.grow 0 0 (-1)):=by
 have ht:t=0:=Vp.1 fun q=>h ⟨h2,q⟩
 subst ht
 unfold Kj;simp only [h2,↓reduceIte];rfl
theorem Tj {X:Zp} {op t:Int} (h:¬XQ op=true):Kj L op t (some X)=some X:=by
 unfold Kj;simp only [Z8 h]
end
end Go.Abs
namespace Go.Abs
theorem EX {n:Zk} {us:LI} {b:Z7} (h:0<=Xo n us b):∃vs t,XB n b.steps us=some vs/\Xx vs b.result=some t/\0<=t:=by
 rw [Cv] at h
 cases hv:XB n b.steps us with
 | none=>rw [hv] at h;simp at h
 | some vs=>
  rw [hv] at h
  simp only at h
  cases ha:Xx vs b.result with
  | none=>rw [ha] at h;simp at h
  | some t=>rw [ha] at h;exact ⟨vs,t,rfl,ha,h⟩
theorem Ey {n:Zk} {us vs:LI} {s:Z5} {r:List Z5} (h:XB n (s::r) us=some vs):0<=Yb n us s/\XB n r (Qi n us s)=some vs:=by
 rw [XB] at h
 split at h
 ·cases h
 ·exact ⟨by omega,h⟩
theorem GH (n:Zk) (us:LI) (s:Z5):us.length<=(Qi n us s).length/\(Qi n us s).length<=us.length+s.sz:=by
 have:=s.sz_pos
 rw [Qi];split
 ·simp only [Yq,EF];omega
 ·omega
end Go.Abs
namespace Go.Abs
theorem Z4n {X L:Zp} {m:Nat} {r x:Int} (hg:gI L.vars r=x) (h:x≠0) (ht:Ul L r=some X):Ur m r L=JI X m:=by rw [Ur,hg,Zf h,ht];rfl
theorem Z4m {L:Zp} {m:Nat} {r x:Int} (hg:gI L.vars r=x) (h:x≠0) (ht:Ul L r=none):Ur m r L=none:=by rw [Ur,hg,Zf h,ht];rfl
theorem DO {L:Zp} {m:Nat} {r x:Int} (hg:gI L.vars r=x) (h:¬x≠0):Ur m r L=JI L m:=by rw [Ur,hg,Z8 h];rfl
end Go.Abs
namespace Go.Abs
theorem PZ {ds:List Zg} {lent:LI}:∀{ps:LI} {i:Nat} {L:Zp},X0 ds L 1->X0 ds (Qf lent ps i L) 1/\(Qf lent ps i L).vars=L.vars++ps
 | [],i,L,hk=>⟨hk,by simp [Qf]⟩
 | t::r,i,L,hk=>by
  rw [Qf]
  obtain ⟨k1,k2⟩:=PZ (lent:=lent) (ps:=r) (i:=i+1) (hk.grow (t:=t) (o:=if t≠0/\¬(i:Int)∈lent then 1 else 0) (p:=-1) om (by split<;>omega))
  exact ⟨k1,by rw [k2];simp [Zp.grow]⟩
theorem Gf (ds:List Zg) (r:Yg):X0 ds (VV r) 1/\(VV r).vars=r.params:=by
 have h:X0 ds (⟨[],[],[],[],[],[]⟩:Zp) 1:=⟨⟨rfl,rfl,rfl,rfl,rfl⟩,fun j h1 h2=>by simp at h2;omega,fun j h1 h2=>by simp at h2;omega,by simp,by simp⟩
 obtain ⟨k1,k2⟩:=PZ (lent:=r.lent) (ps:=r.params) (i:=0) h
 exact ⟨k1,by rw [VV,k2];rfl⟩
end Go.Abs
namespace Go.Abs
theorem Rp {n:Zk}:∀{l:List Yg},K1 n l=true->∀r∈l,¬TM r.body<0/\Xo n r.params r.body=r.result
 | [],_,r,h=>by simp at h
 | a::l,h,r,hr=>by
  rw [K1] at h
  split at h
  ·rename_i h1
   rcases YB.1 hr with rfl|hr
   ·exact h1
   ·exact Rp h r hr
  ·cases h
theorem Cl {n:Zk} (hz:VU n) (h:XH n=true):X2 n/\∀r∈n.routines,0<=Xo n r.params r.body:=by
 simp only [XH,W7] at h
 refine ⟨La hz h.1,fun r hr=>?_⟩
 rw [(Rp h.2 r hr).2]
 have h1:=h.1
 simp only [VP,QA,W7] at h1
 have:=LQ h1.2.1.2.2.1 (Ux r) (W9.2 ⟨r,hr,rfl⟩)
 simp only [J0,W7,decide_eq_true_eq,Ux] at this
 exact (of_decide_eq_true this.2.2).1
end Go.Abs
end
section
namespace Go.Abs
theorem I3 {xs:LI} (h:Z6 xs=[]):xs=[]:=by cases xs with|nil=>rfl|cons x r=>cases h
def JQ (i:Int):LI->Nat->Int
 | [],_=>-1
 | x::r,k=>if i=x then (k:Int) else JQ i r (k+1)
def FV (xs:LI) (i:Int):Int:=JQ i xs 0
theorem OJ (i:Int):∀(xs:LI) (k:Nat),(0<=JQ i xs k↔i∈xs)/\-1<=JQ i xs k
 | [],k=>by simp [JQ]
 | x::r,k=>by
  rw [JQ]
  obtain ⟨h1,h2⟩:=OJ i r (k+1)
  split
  ·rename_i h;subst h;simp<;>omega
  ·rename_i h;simp [h1,h,h2]
theorem Z8m (xs:LI) (i:Int):decide (FV xs i>=0)=decide (i∈xs):=by
 rw [decide_eq_decide];exact (OJ i xs 0).1
end Go.Abs
namespace Go.Abs
theorem O0 (xss:List LI) (k:Nat):(xss.take k).flatten.length<=xss.flatten.length:=by
 conv=>rhs;rw [<-UB k xss,List.flatten_append,Yq]
 omega
end Go.Abs
namespace Go.Abs
theorem Ii {xss:List LI} {k:Nat} {x:LI} (h:xss[k]? = some x):(xss.take (k+1)).flatten=(xss.take k).flatten++x:=by rw [V7 h,List.flatten_append];simp
theorem NZ {xss:List LI} {k:Nat} {x:LI} (h:xss[k]? = some x):(xss.take k).flatten.length+x.length<=xss.flatten.length:=by
 have:=O0 xss (k+1)
 rw [Ii h,Yq] at this
 exact this
end Go.Abs
end
section
namespace Go.Abs
theorem Z2z {c:Int} {ds:List Zg} {k:Nat} {d:Zg} {r:Int × LI} (h:ds[k]? = some d) (hn:¬(c-YN (ds.take k)>=0/\c-YN (ds.take k)<d.cons.length))
  (hr:Ta c (ds.drop k) k (YN (ds.take k))=r):Ta c (ds.drop (k+1)) (k+1) (YN (ds.take (k+1)))=r:=by
 rw [Y7 h,Ta,Z8 om] at hr
 rw [V7 h,DK,<-hr];rfl
end Go.Abs
namespace Go.Abs
theorem Z31 {c:Int} {ds:List Zg} {k:Nat} {d:Zg} {x:Yk} (h:ds[k]? = some d) (hn:c-YN (ds.take k)>=0/\c-YN (ds.take k)<d.cons.length)
  (hx:d.cons[(c-YN (ds.take k)).toNat]? = some x):Ta c (ds.drop k) k (YN (ds.take k))=((k:Int)+1,x.fields):=by
 rw [Y7 h,Ta,Zf om,hx];rfl
def AN (c:Int) (z:Nat) (v:Int):Prop:=v=c-z∨(c<0/\c-z < -9223372036854775808/\v=c-z+18446744073709551616)
theorem Z1j {c:Int} {z l:Nat} {v:Int} (h:AN c z v) (hz:z<=100) (hl:l<=3) (hc:-9223372036854775808<=c/\c<=9223372036854775807):AN c (z+l) (Co (v-l)):=by
 unfold AN at *;rw [Co,IntKind.wrap_i64];omega
theorem Z30 {c v:Int} {ds:List Zg} {k:Nat} {d:Zg} {r:Int × LI} (h:ds[k]? = some d) (ha:AN c (YN (ds.take k)) v) (hn:¬(v>=0/\v<d.cons.length))
  (hr:Ta c (ds.drop k) k (YN (ds.take k))=r):Ta c (ds.drop (k+1)) (k+1) (YN (ds.take (k+1)))=r:=Z2z h (by unfold AN at ha;omega) hr
theorem Z32 {c v:Int} {ds:List Zg} {k:Nat} {d:Zg} {x:Yk} (h:ds[k]? = some d) (ha:AN c (YN (ds.take k)) v) (hz:YN (ds.take k)<=100) (hl:d.cons.length<=3) (hc:-9223372036854775808<=c)
  (hn:v>=0/\v<d.cons.length) (hx:d.cons[v.toNat]? = some x):Ta c (ds.drop k) k (YN (ds.take k))=((k:Int)+1,x.fields):=by
 have:v=c-(YN (ds.take k):Int):=by unfold AN at ha;omega
 subst this
 exact Z31 h hn hx
def VK (ds:List Zg) (t:Int):Zg:=if XX ds t=true then (ds[(t-1).toNat]?).getD ⟨0,0,[]⟩ else ⟨0,0,[]⟩
end Go.Abs
namespace Go.Abs
abbrev Nw (ds:List Zg) (d:Zg):Prop:=
 (((¬(0<=d.frm/\d.frm<=ds.length))∨(¬(0<=d.to_/\d.to_<=ds.length)))∨((d.cons.length:Int)>3))∨(((d.cons.length:Int)>0)/\((d.frm≠0)∨(d.to_≠0)))
theorem Z3t {ds:List Zg} {d:Zg} {i:Nat} (h:Nw ds d):UH ds d i=false:=by
 rw [UH]
 split
 ·rw [Z8];rintro ⟨h1,h2,h3⟩
  rcases h with ((h|h)|h)|h<;>omega
 ·split
  ·rfl
  ·rcases h with ((h|h)|h)|h
   ·rw [decide_eq_false h];rfl
   ·rw [decide_eq_false h,Bool.and_false]
   ·omega
   ·omega
theorem Z3u {ds:List Zg} {d:Zg} {i:Nat} (hl:0<d.cons.length) (h:TG ds.length d.cons=false):UH ds d i=false:=by
 rw [UH,Zf hl];split
 ·exact h
 ·rfl
theorem Z3v {ds:List Zg} {d:Zg} {i:Nat} (hl:d.cons.length=0) (h:QM d (ds.take i)=true):UH ds d i=false:=by
 rw [UH,Z8 om,Zf h]
theorem Z3w {ds:List Zg} {d:Zg} {i:Nat} (h1:¬Nw ds d) (h2:TG ds.length d.cons=true) (h3:d.cons.length=0->QM d (ds.take i)=false):UH ds d i=true:=by
 rw [UH]
 have ha:0<=d.frm/\d.frm<=ds.length:=Vp.1 fun q=>h1 (.inl (.inl (.inl q)))
 have hb:0<=d.to_/\d.to_<=ds.length:=Vp.1 fun q=>h1 (.inl (.inl (.inr q)))
 have hc:¬(d.cons.length:Int)>3:=fun q=>h1 (.inl (.inr q))
 split
 ·rename_i hl
  have hd:¬(d.frm≠0∨d.to_≠0):=fun q=>h1 (.inr ⟨by omega,q⟩)
  rw [Zf ⟨by omega,by omega,by omega⟩];exact h2
 ·rw [Z8 (by rw [h3 om];simp),decide_eq_true ha,decide_eq_true hb];rfl
theorem Mj {ds:List Zg} {k:Nat} {d:Zg} (h:ds[k]? = some d) (hA:UH ds d k=false) (c:Tc ds (ds.drop k) k=Tc ds ds 0):false=WU ds:=by
 rw [WU,<-c,Y7 h,Tc,DL h,hA,Z8 (by simp),Bool.and_false]
theorem Zg3 {ds:List Zg} {k:Nat} {d:Zg} {r:Bool} (h:ds[k]? = some d) (hA:UH ds d k=true) (c:Tc ds (ds.drop k) k=r):Tc ds (ds.drop (k+1)) (k+1)=r:=by
 rw [Y7 h,Tc,DL h,hA,Zf rfl] at c;exact c
theorem Zg2 {ds:List Zg} {k:Nat} (hl:ds.length<=4) (hk:ds.length<=k) (c:Tc ds (ds.drop k) k=Tc ds ds 0):true=WU ds:=by
 rw [WU,<-c,Xh hk,decide_eq_true hl];rfl
theorem Z33 {m:Nat} {c:Yk} (h:((c.fields.length:Int)>3)∨(¬(Wj m c.fields=true))):Ji m c=false:=by
 rw [Ji]
 rcases h with h|h
 ·rw [decide_eq_false om];rfl
 ·rw [Jd.2 h,Bool.and_false]
theorem Z34 {m:Nat} {c:Yk} (h:¬(((c.fields.length:Int)>3)∨(¬(Wj m c.fields=true)))):Ji m c=true:=by
 rw [Ji,Vp.1 fun q=>h (.inr q),decide_eq_true (by have:¬(c.fields.length:Int)>3:=fun q=>h (.inl q);omega)];rfl
end Go.Abs
end
section
namespace Go.Abs
structure V9 where
 pms:LI
 lnt:LI
 res:Int
abbrev Pd (f:V9):List AV:=[Z4 f.pms,Z4 f.lnt,.i f.res]
abbrev EJ (f:V9):AV:=.agg (Pd f)
def Tf (fs:List V9):List AV:=fs.map EJ
abbrev Db (xs:List V9):AV:=.sl (Tf xs) none
abbrev Gi (xs:List V9) (v:Value):AV:=.sl (Tf xs) (some v)
theorem BV {xs:List V9} {j:Nat} {x:V9} (h:xs[j]? = some x):(Tf xs)[j]? = some (EJ x):=by simp [Tf,h]
@[simp] theorem DN (xs:List V9):(Tf xs).length=xs.length:=by simp [Tf]
theorem NA (xs:List V9):∀y∈Tf xs,y.leaves.length=3:=by intro y hy;simp only [Tf,W9] at hy;obtain ⟨x,_,rfl⟩:=hy;rfl
theorem Z4f (xs:List V9):(Zo (Tf xs)).all AV.one=true:=Jm fun y hy=>by simp only [Tf,W9] at hy;obtain ⟨x,_,rfl⟩:=hy;rfl
def XV (r:Yg):V9:=⟨r.params,r.lent,r.result⟩
def JU (m:Nat) (f:V9):Bool:=J0 m ⟨f.pms,f.res⟩&&J9 f.pms f.lnt
def Kr (m:Nat):List V9->Bool
 | []=>true
 | f::r=>if JU m f=true then Kr m r else false
def Ib:List V9->Bool
 | []=>false
 | f::_=>decide (f.pms.length=0)&&decide (f.res=0)
def Ja (ds:List Zg) (fs:List V9):Bool:=WU ds&&(decide (1<=fs.length/\fs.length<=4)&&(Ib fs&&Kr ds.length fs))
theorem NT {fs:List V9} {x:V9} (h:fs[0]? = some x):Ib fs=(decide (x.pms.length=0)&&decide (x.res=0)):=by
 cases fs with
 | nil=>simp at h
 | cons f r=>simp at h;subst h;rfl
theorem RT (m:Nat):∀rs:List Yg,Kr m (rs.map XV)=(J1 m (rs.map Ux)&&KW rs)
 | []=>rfl
 | r::rs=>by
  simp only [Un,Kr,J1,KW,JU,RT m rs]
  simp only [XV,Ux]
  by_cases h1:J0 m { params:=r.params,result:=r.result }=true<;>by_cases h2:J9 r.params r.lent=true<;>simp [h1,h2]
theorem Py (n:Zk):VP n=(decide (n.routines.length<=4)&&Ja n.decls (n.routines.map XV)):=by
 have hf:Ib (n.routines.map XV)=Fv (n.routines.map Ux):=by
  cases n.routines with
  | nil=>rfl
  | cons r rs=>rfl
 rw [VP,Ja,QA,RT,hf]
 simp only [AL]
 cases decide (n.routines.length<=4)<;>cases WU n.decls<;>cases decide (1<=n.routines.length/\n.routines.length<=4)<;>cases J1 n.decls.length (n.routines.map Ux) <;>
  cases Fv (n.routines.map Ux)<;>cases KW n.routines<;>rfl
theorem GI {rs:List Yg} {j:Nat} {x:V9} (h:(rs.map XV)[j]? = some x):∃r,rs[j]? = some r/\x=XV r:=by
 rw [T8] at h
 cases hr:rs[j]? with
 | none=>rw [hr] at h;cases h
 | some r=>rw [hr] at h;cases h;exact ⟨r,rfl,rfl⟩
theorem Pp {ps ls:LI} {j:Nat} {v:Int} {r:Bool} (h:ls[j]? = some v) (hg:(0<=v/\v<=(ps.length:Int)-1)/\ps[v.toNat]?≠some 0/\(∀p,(if j=0 then none else ls[j-1]?)=some p->p<v))
  (hr:Qs ps (ls.drop j) (if j=0 then none else ls[j-1]?)=r):Qs ps (ls.drop (j+1)) (if j+1=0 then none else ls[j+1-1]?)=r:=by
 rw [Y7 h,IX hg] at hr
 rw [Z8 om,show j+1-1=j from rfl,h];exact hr
theorem IZ {ps ls:LI} {j:Nat} {v:Int} {r:Bool} (h:ls[j]? = some v) (hg:¬((0<=v/\v<=(ps.length:Int)-1)/\ps[v.toNat]?≠some 0/\(∀p,(if j=0 then none else ls[j-1]?)=some p->p<v)))
  (hr:Qs ps (ls.drop j) (if j=0 then none else ls[j-1]?)=r):r=false:=by
 rw [Y7 h,G9 hg] at hr;exact hr.symm
theorem GJ {m:Nat} {fs:List V9} {k:Nat} {f:V9} {r:Bool} (h:fs[k]? = some f) (hb:JU m f=false) (hr:Kr m (fs.drop k)=r):r=false:=by
 rw [Y7 h,Kr,hb,Z8 (by simp)] at hr;exact hr.symm
theorem Zde {m:Nat} {fs:List V9} {k:Nat} {f:V9} {r:Bool} (h:fs[k]? = some f) (hb:JU m f=true) (hr:Kr m (fs.drop k)=r):Kr m (fs.drop (k+1))=r:=by
 rw [Y7 h,Kr,Zf hb] at hr;exact hr
end Go.Abs
namespace Go.Abs
section
variable {ds:List Zg} {fs:List V9} {x:V9}
theorem Zga (h:((¬(WU ds=true))∨((fs.length:Int)<1))∨((fs.length:Int)>4)):false=Ja ds fs:=by
 rw [Ja]
 rcases h with (h|h)|h
 ·rw [Jd.2 h];rfl
 ·rw [decide_eq_false (p:=1<=fs.length/\fs.length<=4) om];simp
 ·rw [decide_eq_false (p:=1<=fs.length/\fs.length<=4) om];simp
theorem SR (hx:fs[0]? = some x) (h:((x.pms.length:Int)>0)∨x.res≠0):false=Ja ds fs:=by
 rw [Ja,NT hx]
 rcases h with h|h
 ·rw [decide_eq_false (p:=x.pms.length=0) om];simp
 ·rw [decide_eq_false (p:=x.res=0) h];simp
theorem H3 (h:Kr ds.length fs=false):false=Ja ds fs:=by rw [Ja,h];simp
theorem Zgb (h:¬(((¬(WU ds=true))∨((fs.length:Int)<1))∨((fs.length:Int)>4))) (hx:fs[0]? = some x) (h1:¬((x.pms.length:Int)>0)) (h2:¬x.res≠0) (h3:Kr ds.length fs=true) :
  true=Ja ds fs:=by
 have hv:WU ds=true:=Vp.1 fun q=>h (.inl (.inl q))
 have ha:¬(fs.length:Int)<1:=fun q=>h (.inl (.inr q))
 have hb:¬(fs.length:Int)>4:=fun q=>h (.inr q)
 rw [Ja,NT hx,hv,h3,decide_eq_true (p:=1<=fs.length/\fs.length<=4) om,decide_eq_true (p:=x.pms.length=0) om,decide_eq_true (p:=x.res=0) (Vp.1 h2)];rfl
abbrev RQ (m:Nat) (x:V9):Prop:=(((x.pms.length:Int)>3)∨(¬(Wj m x.pms=true)))∨(¬(0<=x.res/\x.res<=m))
theorem Zcv {m:Nat} (h:RQ m x):JU m x=false:=by
 rw [JU,J0]
 rcases h with (h|h)|h
 ·rw [decide_eq_false (p:=x.pms.length<=3) om];simp
 ·rw [Jd.2 h];simp
 ·rw [decide_eq_false h];simp
theorem LH {m:Nat} (h:J9 x.pms x.lnt=false):JU m x=false:=by rw [JU,h,Bool.and_false]
theorem Zcw {m:Nat} (h:¬RQ m x) (hl:J9 x.pms x.lnt=true):JU m x=true:=by
 have h1:¬(x.pms.length:Int)>3:=fun q=>h (.inl (.inl q))
 rw [JU,J0,hl,decide_eq_true (p:=x.pms.length<=3) om,Vp.1 fun q=>h (.inl (.inr q)),decide_eq_true (Vp.1 fun q=>h (.inr q))];rfl
end
end Go.Abs
namespace Go.Abs
abbrev YT (n:Zk):AV:=Db (n.routines.map XV)
end Go.Abs
end
section
namespace Go.Abs
def Wk (us:LI):LI->Option LI
 | []=>some []
 | a::r=>match Xx us a with
  | none=>none
  | some t=>match Wk us r with
   | none=>none
   | some ts=>some (t::ts)
theorem Me {us:LI}:∀{args ts:LI},Wk us args=some ts->∀tys,We us args tys=true↔ts=tys
 | [],ts,h,tys=>by
  rw [Wk] at h;cases h
  cases tys with
  | nil=>simp [We,T4]
  | cons t r=>simp [We,T4]
 | a::r,ts,h,tys=>by
  rw [Wk] at h
  cases ha:Xx us a with
  | none=>rw [ha] at h;cases h
  | some t=>
   rw [ha] at h
   cases hr:Wk us r with
   | none=>rw [hr] at h;cases h
   | some tr=>
    rw [hr] at h;cases h
    cases tys with
    | nil=>simp [We,T4]
    | cons t2 r2=>
     rw [We,T4,ha]
     have:=Me hr r2
     rw [We] at this
     by_cases he:t=t2
     ·subst he;simp [this]
     ·rw [Z8 (fun q=>he (Q2 q))];simp [he]
theorem MK {us:LI}:∀{args ts:LI},Wk us args=some ts->ts.length=args.length
 | [],ts,h=>by rw [Wk] at h;cases h;rfl
 | a::r,ts,h=>by
  rw [Wk] at h
  cases ha:Xx us a with
  | none=>rw [ha] at h;cases h
  | some t=>
   rw [ha] at h
   cases hr:Wk us r with
   | none=>rw [hr] at h;cases h
   | some tr=>rw [hr] at h;cases h;simp [MK hr]
theorem ML {us:LI} {b t:Int}:∀{xs ts:LI},Wk us xs=some ts->Xx us b=some t->Wk us (xs++[b])=some (ts++[t])
 | [],ts,h,hb=>by rw [Wk] at h;cases h;simp [Wk,hb]
 | a::r,ts,h,hb=>by
  rw [Wk] at h
  cases ha:Xx us a with
  | none=>rw [ha] at h;cases h
  | some u=>
   rw [ha] at h
   cases hr:Wk us r with
   | none=>rw [hr] at h;cases h
   | some tr=>
    rw [hr] at h;cases h
    rw [QC,Wk,ha,ML hr hb];rfl
def DF (n:Zk) (num:Int):LI->Option Int
 | [a,b]=>if XX n.decls a=true/\b=(VK n.decls a).frm/\num=0 then some (VK n.decls a).to_ else none
 | _=>none
def XG (n:Zk) (op num:Int) (ts:LI):Option Int:=
 if op=0 then (if (-999<=num/\num<=999)/\ts.length=0 then some 0 else none)
 else if op=1∨op=2∨op=3∨op=4 then (if num=0/\ts=[0,0] then some 0 else none)
 else if op=5 then (if num=0/\ts=[0] then some 0 else none)
 else if op=11 then DF n num ts
 else if op=6 then (if 0<=Wg n.decls num/\ts=ZV n.decls num then some (Wg n.decls num) else none)
 else if op=9 then (match Xx n.routines num with
  | none=>none
  | some r=>if ts=r.params then some r.result else none)
 else if op=10 then (match Xx n.routines num with
  | none=>none
  | some r=>if r.params.length≠0/\0<=KG n.decls r.params r.result/\ts=r.params.take (r.params.length-1) then some (KG n.decls r.params r.result) else none)
 else none
theorem ER {n:Zk} {num:Int} {ts:LI} (h:ts.length≠2):DF n num ts=none:=by
 match ts,h with
 | [],_=>rfl
 | [_],_=>rfl
 | [_,_],h=>simp at h
 | _::_::_::_,_=>rfl
structure KA (n:Zk):Prop where
 result:∀r∈n.routines,0<=r.result
 params:∀r∈n.routines,∀p∈r.params,0<=p
 decl:∀d∈n.decls,d.cons.length=0->0<=d.frm/\0<=d.to_
 fields:∀c,∀f∈ZV n.decls c,0<=f
abbrev OO (us:LI) (s:Z5):Prop:=s.into≠0/\(((s.op≠6∨s.into<1)∨s.into>us.length)∨gI us (s.into-1)=0)
theorem Z93 {us:LI} {op into:Int} (hnn:∀t∈us,0<=t) (h:¬(into≠0/\(((op≠6∨into<1)∨into>us.length)∨gI us (into-1)=0))):Um us op into=true:=by
 rw [Um]
 split
 ·rfl
 ·rename_i h0
  have h1:¬(((op≠6∨into<1)∨into>us.length)∨gI us (into-1)=0):=fun q=>h ⟨h0,q⟩
  have h2:op=6:=Vp.1 fun q=>h1 (.inl (.inl (.inl q)))
  have h3:¬into<1:=fun q=>h1 (.inl (.inl (.inr q)))
  have h4:¬into>us.length:=fun q=>h1 (.inl (.inr q))
  have h5:¬gI us (into-1)=0:=fun q=>h1 (.inr q)
  obtain ⟨t,ht⟩:=QQ (xs:=us) (j:=(into-1).toNat) om
  rw [Zf h2,Q6 om ht]
  rw [Vk ht] at h5
  have:=hnn t (ZX ht)
  simp;omega
theorem Z92 {us:LI} {op into:Int} (h:into≠0/\(((op≠6∨into<1)∨into>us.length)∨gI us (into-1)=0)):Um us op into=false:=by
 obtain ⟨h0,h⟩:=h
 rw [Um,Z8 h0]
 split
 ·rename_i h6
  cases ha:Xx us (into-1) with
  | none=>rfl
  | some t=>
   obtain ⟨a1,a2⟩:=KH ha
   rcases h with ((h|h)|h)|h
   ·exact absurd h6 h
   ·omega
   ·omega
   ·rw [Vk a2] at h;subst h;rfl
 ·rfl
theorem Zff {n:Zk} {us:LI} {s:Z5} (h:OO us s):Yb n us s=-1:=by
 rw [JX,Zf (.inr (.inl (by rw [Z92 h];simp)))]
end Go.Abs
namespace Go.Abs
theorem Z94 {α:Type} {c:Prop} [Decidable c] {v:α}:(if c then some v else none).isSome=decide c:=by split<;>simp_all
theorem Zdf {n:Zk} (hty:KA n) {op num:Int} {ts:LI} {x:Int} (h:XG n op num ts=some x):0<=x:=by
 unfold XG at h
 split at h
 ·split at h<;>cases h;exact Int.le_refl 0
 split at h
 ·split at h<;>cases h;exact Int.le_refl 0
 split at h
 ·split at h<;>cases h;exact Int.le_refl 0
 split at h
 ·rcases ts with _|⟨a,_|⟨b,_|⟨c,r⟩⟩⟩
  ·cases h
  ·cases h
  ·rw [DF] at h
   split at h
   ·rename_i hq
    cases h
    rw [VK,Zf hq.1]
    have hA:=hq.1
    simp only [XX,W7,decide_eq_true_eq] at hA
    cases hd:n.decls[(a-1).toNat]? with
    | none=>rw [hd] at hA;simp at hA
    | some d=>
     rw [hd] at hA
     exact (hty.decl d (ZX hd) (by simpa using hA.2)).2
   ·cases h
  ·cases h
 split at h
 ·split at h
  ·rename_i hq;cases h;exact hq.1
  ·cases h
 split at h
 ·cases ha:Xx n.routines num with
  | none=>rw [ha] at h;cases h
  | some r=>
   rw [ha] at h
   simp only at h
   split at h
   ·cases h;exact hty.result r (ZX (KH ha).2)
   ·cases h
 split at h
 ·cases ha:Xx n.routines num with
  | none=>rw [ha] at h;cases h
  | some r=>
   rw [ha] at h
   simp only at h
   split at h
   ·rename_i hq;cases h;exact hq.2.1
   ·cases h
 ·cases h
def J6 (n:Zk) (us:LI) (s:Z5) (ts:LI):Int:=
 if YC s.op=true then (match ts with
  | [t]=>if t≠0/\s.num=0/\s.kids.length=0/\¬((s.op=16∨s.op=17)/\XX n.decls t=true) then 0 else -1
  | _=>-1)
 else if s.op=7 then (if ts=[0]/\s.num=0 then Ty n us s.op s.num s.kids else -1)
 else if s.op=8 then (if ts=[s.num] then Ty n us s.op s.num s.kids else -1)
 else if 0<s.kids.length∨(s.op=10/\0<(((Xx n.routines s.num).map (·.lent)).getD []).length) then -1
 else (XG n s.op s.num ts).getD (-1)
theorem OR {p q:Prop} [Decidable p] [Decidable q] {a b:Int} (h:p↔q):ite p a b=ite q a b:=by
 by_cases hp:p
 ·rw [Zf hp,Zf (h.1 hp)]
 ·rw [Z8 hp,Z8 (fun z=>hp (h.2 z))]
theorem Bw {n:Zk} {us:LI} {s:Z5} {ts:LI} (hnn:∀t∈us,0<=t) (hts:Wk us s.args=some ts) (hi:¬OO us s):Yb n us s=J6 n us s ts:=by
 have hv:=Z93 hnn hi
 have ht:=Me hts
 have hl:=MK hts
 have hfirst:((s.num≠0/\¬VF s.op=true)∨¬Um us s.op s.into=true∨(0<s.kids.length/\s.op≠7/\s.op≠8))↔((s.num≠0/\¬VF s.op=true)∨(0<s.kids.length/\s.op≠7/\s.op≠8)):=by
  rw [hv];simp
 rw [JX,OR hfirst]
 unfold J6
 by_cases hc:YC s.op=true
 ·have hop:14<=s.op/\s.op<=17:=by simpa [YC] using hc
  have hnum:VF s.op=false:=by simp [VF];omega
  rw [Zf hc]
  by_cases hb:s.num≠0∨0<s.kids.length
  ·rw [Zf (by rcases hb with hb|hb;exact .inl ⟨hb,by rw [hnum];simp⟩;exact .inr ⟨hb,by omega,by omega⟩)]
   split
   ·rw [Z8];rintro ⟨h1,h2,h3,h4⟩;omega
   ·rfl
  ·rw [Z8 (by rintro (⟨h1,_⟩|⟨h1,_⟩)<;>exact hb (by first|exact .inl h1|exact .inr h1)),Z8 om,Z8 om,Z8 om,Z8 om,Z8 om,Z8 om,Z8 om,Z8 om,Zf om]
   have Zb:s.num=0:=Vp.1 fun q=>hb (.inl q)
   have ZA:s.kids.length=0:=by have:¬0<s.kids.length:=fun q=>hb (.inr q);omega
   rcases he:s.args with _|⟨a,_|⟨b,r⟩⟩
   ·rw [he] at hts;rw [Wk] at hts;cases hts;rfl
   ·rw [he] at hts
    rw [Wk] at hts
    cases ha:Xx us a with
    | none=>rw [ha] at hts;cases hts
    | some t=>
     rw [ha,Wk] at hts;cases hts
     rw [TH,ha]
     simp only
     by_cases ht0:t=0
     ·rw [Zf ht0,Z8 (fun q=>q.1 ht0)]
     ·rw [Z8 ht0]
      by_cases hA:XX n.decls t=true
      ·by_cases h16:s.op=16∨s.op=17
       ·rw [Zf ⟨by omega,hA⟩,Z8 (fun q=>q.2.2.2 ⟨h16,hA⟩)]
       ·rw [Z8 (by rintro ⟨q,_⟩;omega),Zf ⟨ht0,Zb,ZA,fun q=>h16 q.1⟩]
      ·rw [Z8 (fun q=>hA q.2),Zf ⟨ht0,Zb,ZA,fun q=>hA q.2⟩]
   ·rw [he] at hl
    rw [show TH n.decls us s.op (a::b::r)=-1 from rfl]
    match ts,hl with
    | [t],hl=>simp at hl
    | [],hl=>simp at hl
    | _::_::_,_=>rfl
 have hop:¬(14<=s.op/\s.op<=17):=by simpa [YC] using hc
 by_cases h7:s.op=7
 ·have hnum:VF s.op=false:=by simp [VF];omega
  conv=>rhs;rw [Z8 hc,Zf h7]
  by_cases hb:s.num=0
  ·rw [Z8 (fun q=>q.elim (fun z=>z.1 hb) fun z=>z.2.1 h7),Z8 om,Z8 om,Z8 om,Z8 om,Zf h7]
   by_cases hq:ts=[0]
   ·rw [Zf ((ht _).2 hq),Zf ⟨hq,hb⟩]
   ·rw [Z8 (fun q=>hq ((ht _).1 q)),Z8 (fun q=>hq q.1)]
  ·rw [Zf (.inl ⟨hb,by rw [hnum];simp⟩),Z8 (fun q=>hb q.2)]
 by_cases h8:s.op=8
 ·have hnum:VF s.op=true:=by simp [VF,h8]
  conv=>rhs;rw [Z8 hc,Z8 h7,Zf h8]
  rw [Z8 (fun q=>q.elim (fun z=>z.2 hnum) fun z=>z.2.2 h8),Z8 om,Z8 om,Z8 om,Z8 om,Z8 h7,Zf h8]
  by_cases hq:ts=[s.num]
  ·rw [Zf ((ht _).2 hq),Zf hq]
  ·rw [Z8 (fun q=>hq ((ht _).1 q)),Z8 hq]
 conv=>rhs;rw [Z8 hc,Z8 h7,Z8 h8]
 by_cases hk:0<s.kids.length
 ·rw [Zf (.inr ⟨hk,h7,h8⟩),Zf (.inl hk)]
 by_cases hlent:s.op=10/\0<(((Xx n.routines s.num).map (·.lent)).getD []).length
 ·conv=>rhs;rw [Zf (.inr hlent)]
  have hnum:VF s.op=true:=by simp [VF,hlent.1]
  have h10:=hlent.1
  rw [Z8 (fun q=>q.elim (fun z=>z.2 hnum) fun z=>hk z.1),Z8 om,Z8 om,Z8 om,Z8 om,Z8 h7,Z8 h8,Zf (.inr h10),TC]
  cases ha:Xx n.routines s.num with
  | none=>rfl
  | some r=>
   have h2:=hlent.2
   rw [ha] at h2
   simp only [BH,Option.getD_some] at h2
   simp only
   rw [Kq,Z8 om,Zf (.inr (.inl h2))]
 conv=>rhs;rw [Z8 (fun q=>Or.elim q hk hlent)]
 have sf:∀{X:Option Int},XG n s.op s.num ts=X->Yb n us s=X.getD (-1)->Yb n us s=(XG n s.op s.num ts).getD (-1):=fun a b=>by rw [a];exact b
 have hL:=JX n us s
 rw [OR hfirst] at hL
 rw [<-hL]
 by_cases hnb:s.num≠0/\¬VF s.op=true
 ·have hnn2:¬(s.op=0∨(s.op=6∨(s.op=8∨(s.op=9∨s.op=10)))):=fun q=>hnb.2 (by simpa [VF] using q)
  refine sf (X:=none) ?_ (by rw [hL,Zf (.inl hnb)];rfl)
  unfold XG
  rw [Z8 om]
  split
  ·rw [Z8 (fun q=>hnb.1 q.1)]
  split
  ·rw [Z8 (fun q=>hnb.1 q.1)]
  split
  ·by_cases hl2:ts.length=2
   ·match ts,hl2 with
    | [a,b],_=>exact Z8 fun q=>hnb.1 q.2.2
   ·exact ER hl2
  rw [Z8 om,Z8 om,Z8 om]
 rw [Z8 (fun q=>q.elim hnb fun z=>hk z.1)] at hL
 have hnumf:¬(s.op=0∨(s.op=6∨(s.op=8∨(s.op=9∨s.op=10))))->s.num=0:=fun q=>Vp.1 fun z=>hnb ⟨z,fun y=>q (by simpa [VF] using y)⟩
 by_cases h0:s.op=0
 ·rw [Zf h0] at hL
  by_cases hq:s.args.length=0/\(-999<=s.num/\s.num<=999)
  ·exact sf (by unfold XG;rw [Zf h0,Zf ⟨hq.2,by omega⟩]) (by rw [hL,Zf hq];rfl)
  ·exact sf (by unfold XG;rw [Zf h0,Z8 (fun q=>hq ⟨by omega,q.1⟩)]) (by rw [hL,Z8 hq];rfl)
 rw [Z8 h0] at hL
 by_cases h1:s.op=1∨s.op=2∨s.op=3∨s.op=4
 ·rw [Zf h1] at hL
  by_cases hq:ts=[0,0]
  ·exact sf (by unfold XG;rw [Z8 h0,Zf h1,Zf ⟨hnumf om,hq⟩]) (by rw [hL,Zf ((ht _).2 hq)];rfl)
  ·exact sf (by unfold XG;rw [Z8 h0,Zf h1,Z8 (fun q=>hq q.2)]) (by rw [hL,Z8 (fun q=>hq ((ht _).1 q))];rfl)
 rw [Z8 h1] at hL
 by_cases h5:s.op=5
 ·rw [Zf h5] at hL
  by_cases hq:ts=[0]
  ·exact sf (by unfold XG;rw [Z8 h0,Z8 h1,Zf h5,Zf ⟨hnumf om,hq⟩]) (by rw [hL,Zf ((ht _).2 hq)];rfl)
  ·exact sf (by unfold XG;rw [Z8 h0,Z8 h1,Zf h5,Z8 (fun q=>hq q.2)]) (by rw [hL,Z8 (fun q=>hq ((ht _).1 q))];rfl)
 rw [Z8 h5] at hL
 by_cases h6:s.op=6
 ·rw [Zf h6] at hL
  have hct:0<Wg n.decls s.num↔0<=Wg n.decls s.num:=by
   rcases Int.lt_or_le (Wg n.decls s.num) 1 with q|q
   ·have:=(F9 q).2;omega
   ·omega
  by_cases hq:0<=Wg n.decls s.num/\ts=ZV n.decls s.num
  ·exact sf (by unfold XG;rw [Z8 h0,Z8 h1,Z8 h5,Z8 om,Zf h6,Zf hq]) (by rw [hL,Zf ⟨hct.2 hq.1,(ht _).2 hq.2⟩];rfl)
  ·exact sf (by unfold XG;rw [Z8 h0,Z8 h1,Z8 h5,Z8 om,Zf h6,Z8 hq]) (by rw [hL,Z8 (fun q=>hq ⟨hct.1 q.1,(ht _).1 q.2⟩)];rfl)
 rw [Z8 h6,Z8 h7,Z8 h8] at hL
 by_cases h9:s.op=9
 ·rw [Zf (.inl h9),TC] at hL
  cases ha:Xx n.routines s.num with
  | none=>exact sf (by unfold XG;rw [Z8 h0,Z8 h1,Z8 h5,Z8 om,Z8 h6,Zf h9,ha]) (by rw [hL,ha];rfl)
  | some r=>
   rw [ha] at hL
   simp only at hL
   rw [Kq,Zf h9] at hL
   have hF:∀{X:Option Int},(if ts=r.params then some r.result else none)=X->XG n s.op s.num ts=X:=fun q=>by
    unfold XG;rw [Z8 h0,Z8 h1,Z8 h5,Z8 om,Z8 h6,Zf h9,ha];exact q
   by_cases hq:ts=r.params
   ·exact sf (hF (Zf hq)) (by rw [hL,Zf ((ht _).2 hq)];rfl)
   ·exact sf (hF (Z8 hq)) (by rw [hL,Z8 (fun q=>hq ((ht _).1 q))];rfl)
 by_cases h10:s.op=10
 ·rw [Zf (.inr h10),TC] at hL
  cases ha:Xx n.routines s.num with
  | none=>exact sf (by unfold XG;rw [Z8 h0,Z8 h1,Z8 h5,Z8 om,Z8 h6,Z8 h9,Zf h10,ha]) (by rw [hL,ha];rfl)
  | some r=>
   rw [ha] at hL hlent
   simp only [BH,Option.getD_some] at hL hlent
   rw [Kq,Z8 h9] at hL
   have hF:∀{X:Option Int},(if r.params.length≠0/\0<=KG n.decls r.params r.result/\ts=r.params.take (r.params.length-1) then some (KG n.decls r.params r.result) else none)=X->XG n s.op s.num ts=X:=fun q=>by
    unfold XG;rw [Z8 h0,Z8 h1,Z8 h5,Z8 om,Z8 h6,Z8 h9,Zf h10,ha];exact q
   by_cases hp:r.params.length=0
   ·exact sf (hF (Z8 fun q=>q.1 hp)) (by rw [hL,Zf (.inl hp)];rfl)
   by_cases hq:ts=r.params.take (r.params.length-1)
   ·rw [Z8 (fun z=>z.elim hp fun z=>z.elim (fun z=>hlent ⟨h10,z⟩) fun z=>z ((ht _).2 hq))] at hL
    by_cases har:0<=KG n.decls r.params r.result
    ·exact sf (hF (Zf ⟨hp,har,hq⟩)) hL
    ·refine sf (hF (Z8 fun q=>har q.2.1)) ?_
     have key:∀(l:List Zg) (i:Nat) (f t:Int),¬0<=Kd f t l i->Kd f t l i=-1:=by
      intro l
      induction l with
      | nil=>intro i f t _;rfl
      | cons d r ih=>
       intro i f t hn
       rw [Kd] at hn ⊢
       split
       ·rename_i hh;rw [Zf hh] at hn;omega
       ·rename_i hh;rw [Z8 hh] at hn;exact ih _ _ _ hn
     exact hL.trans (key _ _ _ _ har)
   ·exact sf (hF (Z8 fun q=>hq q.2.2)) (by rw [hL,Zf (.inr (.inr fun q=>hq ((ht _).1 q)))];rfl)
 rw [Z8 om] at hL
 by_cases h11:s.op=11
 ·rw [Zf h11] at hL
  have hn0:=hnumf om
  have hF:∀{X:Option Int},DF n s.num ts=X->XG n s.op s.num ts=X:=fun q=>by
   unfold XG;rw [Z8 h0,Z8 h1,Z8 h5,Zf h11];exact q
  rcases he:s.args with _|⟨a,_|⟨b,_|⟨c,r⟩⟩⟩
  ·rw [he] at hts hL;rw [Wk] at hts;cases hts;exact sf (hF rfl) hL
  ·rw [he] at hl hL
   exact sf (hF (ER (by simp at hl;omega))) hL
  ·rw [he] at hts hL
   rw [Wk] at hts
   cases ha:Xx us a with
   | none=>rw [ha] at hts;cases hts
   | some t=>
    rw [ha,Wk] at hts
    cases hb:Xx us b with
    | none=>rw [hb] at hts;cases hts
    | some t2=>
     rw [hb,Wk] at hts;cases hts
     rw [QH,ha] at hL
     simp only at hL
     by_cases hA:XX n.decls t=true
     ·rw [Zf hA] at hL
      have hA2:=hA
      simp only [XX,W7,decide_eq_true_eq] at hA2
      cases hd:n.decls[(t-1).toNat]? with
      | none=>rw [hd] at hA2;simp at hA2
      | some d=>
       rw [hd] at hL
       simp only at hL
       have hD:VK n.decls t=d:=by rw [VK,Zf hA,hd];rfl
       have h2:=Me (us:=us) (args:=[b]) (ts:=[t2]) (by rw [Wk,hb,Wk]) [d.frm]
       by_cases hq:t2=d.frm
       ·exact sf (hF (Zf ⟨hA,by rw [hD];exact hq,hn0⟩)) (by rw [hL,Zf (h2.2 (by rw [hq])),hD];rfl)
       ·exact sf (hF (Z8 fun q=>hq (by rw [hD] at q;exact q.2.1))) (by rw [hL,Z8 (fun q=>hq (by simpa using h2.1 q))];rfl)
     ·exact sf (hF (Z8 fun q=>hA q.1)) (by rw [hL,Z8 hA];rfl)
  ·rw [he] at hl hL
   exact sf (hF (ER (by simp at hl;omega))) hL
 rw [Z8 h11,Z8 om] at hL
 exact sf (X:=none) (by unfold XG;rw [Z8 h0,Z8 h1,Z8 h5,Z8 h11,Z8 h6,Z8 h9,Z8 h10]) hL
end Go.Abs
namespace Go.Abs
theorem PF:∀(n:Nat) (f:Int) (k:Nat) (x:Int),(Vt f n)[k]? = some x->x=f+k/\k<n
 | 0,f,k,x,h=>by simp [Vt] at h
 | n+1,f,k,x,h=>by
  rw [Vt] at h
  cases k with
  | zero=>simp at h;subst h;exact ⟨by omega,by omega⟩
  | succ k=>have:=PF n (f+1) k x (by simpa using h);exact ⟨by omega,by omega⟩
theorem Nn {ds:List Zg} (hd:Wr ds) {t:Int} {k:Nat} {x:Int} (h:(ZY ds t)[k]? = some x):0<=x/\x<=100:=by
 rw [ZY] at h
 split at h
 ·rename_i ht
  obtain ⟨d,hd1⟩:=QQ (xs:=ds) (j:=(t-1).toNat) om
  rw [hd1] at h
  have:=PF _ _ _ _ h
  have h3:=hd.cons_at hd1
  have h4:=(hd.take (t-1).toNat).sum
  simp only [BH,Option.getD_some] at this
  omega
 ·simp at h
end Go.Abs
namespace Go.Abs
section
variable {S:Option Int} {c:Prop} [Decidable c] {v:Int} {b:Bool}
theorem Bo (h:S=if c then some v else none) (hb:b=true↔c):b=S.isSome:=by rw [h,Z94,Xl,hb,decide_eq_true_iff]
theorem Bp (h:S=if c then some v else none):∀x,S=some x->v=x:=by
 intro x hx;rw [h] at hx;split at hx
 ·exact Q2 hx
 ·cases hx
theorem Eu (h:S=none):false=S.isSome:=by rw [h];rfl
theorem Ev (h:S=none):∀x,S=some x->v=x:=by intro x hx;rw [h] at hx;cases hx
end
section
variable {n:Zk} {op num:Int} {ts:LI}
theorem sf0 (h:op=0):XG n op num ts=if (-999<=num/\num<=999)/\ts.length=0 then some 0 else none:=by unfold XG;rw [Zf h]
theorem sf1 (h:op=1∨op=2∨op=3∨op=4):XG n op num ts=if num=0/\ts=[0,0] then some 0 else none:=by unfold XG;rw [Z8 om,Zf h]
theorem sf5 (h:op=5):XG n op num ts=if num=0/\ts=[0] then some 0 else none:=by unfold XG;rw [Z8 om,Z8 om,Zf h]
theorem RP (h:op=11):XG n op num ts=DF n num ts:=by unfold XG;rw [Z8 om,Z8 om,Z8 om,Zf h]
theorem Zdb (h:op=11) (hl:(ts.length:Int)≠2):XG n op num ts=none:=(RP h).trans (ER om)
theorem LN (h:op=11) {a b:Int} (hl:¬(ts.length:Int)≠2) (ha:ts[0]? = some a) (hb:ts[1]? = some b) :
  XG n op num ts=if XX n.decls a=true/\b=(VK n.decls a).frm/\num=0 then some (VK n.decls a).to_ else none:=by
 rw [RP h]
 match ts,hl,ha,hb with
 | [x,y],_,ha,hb=>simp at ha hb;subst ha;subst hb;rfl
 | [],hl,_,_=>simp at hl
 | [_],hl,_,_=>simp at hl
 | _::_::_::_,hl,_,_=>simp at hl;omega
theorem Zda (h:op=11) {a:Int} (hl:¬(ts.length:Int)≠2) (ha:ts[0]? = some a) (hn:¬XX n.decls a=true):XG n op num ts=none:=by
 obtain ⟨b,hb⟩:=QQ (xs:=ts) (j:=1) om
 rw [LN h hl ha hb,Z8 fun q=>hn q.1]
theorem sf6 (h:op=6):XG n op num ts=if 0<=Wg n.decls num/\ts=ZV n.decls num then some (Wg n.decls num) else none:=by
 unfold XG;rw [Z8 om,Z8 om,Z8 om,Z8 om,Zf h]
theorem Zdc (h:op=9∨op=10) (hr:num<0∨num>=(((n.routines.map XV).length:Nat):Int)):XG n op num ts=none:=by
 have ha:Xx n.routines num=none:=Ke (by simp at hr;omega)
 unfold XG
 rw [Z8 om,Z8 om,Z8 om,Z8 om,Z8 om]
 rcases h with h|h
 ·rw [Zf h,ha]
 ·rw [Z8 om,Zf h,ha]
theorem sf9 (h:op=9) {x:V9} (hr:¬(num<0∨num>=(((n.routines.map XV).length:Nat):Int))) (hx:(n.routines.map XV)[num.toNat]? = some x) :
  XG n op num ts=if ts=x.pms then some x.res else none:=by
 obtain ⟨r,h1,rfl⟩:=GI hx
 have ha:Xx n.routines num=some r:=Q6 (by simp at hr;omega) h1
 unfold XG
 rw [Z8 om,Z8 om,Z8 om,Z8 om,Z8 om,Zf h,ha];rfl
theorem Zd9 (h:op=10) {x:V9} (hr:¬(num<0∨num>=(((n.routines.map XV).length:Nat):Int))) (hx:(n.routines.map XV)[num.toNat]? = some x) (hp:(x.pms.length:Int)-1<0) :
  XG n op num ts=none:=by
 obtain ⟨r,h1,rfl⟩:=GI hx
 have ha:Xx n.routines num=some r:=Q6 (by simp at hr;omega) h1
 have hp':r.params.length=0:=by simp only [XV] at hp;omega
 unfold XG
 rw [Z8 om,Z8 om,Z8 om,Z8 om,Z8 om,Z8 om,Zf h,ha]
 exact Z8 fun q=>q.1 hp'
theorem Zd8 (h:op=10) {x:V9} {l:Int} (hr:¬(num<0∨num>=(((n.routines.map XV).length:Nat):Int))) (hx:(n.routines.map XV)[num.toNat]? = some x) (hp:¬(x.pms.length:Int)-1<0)
  (hl:x.pms[((x.pms.length:Int)-1).toNat]? = some l) :
  XG n op num ts=if 0<=Ue n.decls l x.res/\ts=x.pms.take ((x.pms.length:Int)-1).toNat then some (Ue n.decls l x.res) else none:=by
 obtain ⟨r,h1,rfl⟩:=GI hx
 have ha:Xx n.routines num=some r:=Q6 (by simp at hr;omega) h1
 simp only [XV] at hp hl ⊢
 have hq:((r.params.length:Int)-1).toNat=r.params.length-1:=by omega
 have ht:r.params.take ((r.params.length:Int)-1).toNat=r.params.take (r.params.length-1):=Yj (fun k=>r.params.take k) hq
 have hl':r.params[r.params.length-1]? = some l:=by rw [<-hl];exact Yj (fun k=>r.params[k]?) hq.symm
 have hlast:KG n.decls r.params r.result=Ue n.decls l r.result:=by rw [KG,Ok hl']
 unfold XG
 rw [Z8 om,Z8 om,Z8 om,Z8 om,Z8 om,Z8 om,Zf h,ha]
 simp only [hlast]
 by_cases hc:0<=Ue n.decls l r.result/\ts=r.params.take (r.params.length-1)
 ·rw [Zf ⟨by omega,hc⟩]
  exact (Zf ⟨hc.1,hc.2.trans ht.symm⟩).symm
 ·rw [Z8 fun q=>hc q.2]
  exact (Z8 (fun q=>hc ⟨q.1,q.2.trans ht⟩)).symm
theorem sfd (h0:¬op=0) (h1:¬(op=1∨op=2∨op=3∨op=4)) (h5:¬op=5) (h11:¬op=11) (h6:¬op=6) (h9:¬(op=9∨op=10)):XG n op num ts=none:=by
 unfold XG;rw [Z8 h0,Z8 h1,Z8 h5,Z8 h11,Z8 h6,Z8 om,Z8 om]
end
end Go.Abs
end
namespace Go.Abs
mutual
def Z5.rng:Z5->Prop
 | .mk _ num _ _ kids=>(-9223372036854775808<=num/\num<=9223372036854775807)/\QI kids
def Z7.rng:Z7->Prop
 | .mk steps _=>Uz steps
def Uz:List Z5->Prop
 | []=>True
 | s::r=>s.rng/\Uz r
def QI:List Z7->Prop
 | []=>True
 | b::r=>b.rng/\QI r
end
theorem Z5.rng_eq (s:Z5):s.rng=((-9223372036854775808<=s.num/\s.num<=9223372036854775807)/\QI s.kids):=by cases s;rw [Z5.rng];rfl
theorem Z7.rng_eq (b:Z7):b.rng=Uz b.steps:=by cases b;rw [Z7.rng];rfl
theorem M1:∀{xs:List Z5} {k:Nat} {s:Z5},Uz xs->xs[k]? = some s->s.rng
 | [],k,s,_,h=>by simp at h
 | x::r,0,s,hr,h=>by rw [Uz] at hr;simp at h;subst h;exact hr.1
 | x::r,k+1,s,hr,h=>by rw [Uz] at hr;exact M1 (k:=k) hr.2 (by simpa using h)
theorem EY:∀{xs:List Z7} {k:Nat} {b:Z7},QI xs->xs[k]? = some b->b.rng
 | [],k,s,_,h=>by simp at h
 | x::r,0,s,hr,h=>by rw [QI] at hr;simp at h;subst h;exact hr.1
 | x::r,k+1,s,hr,h=>by rw [QI] at hr;exact EY (k:=k) hr.2 (by simpa using h)
theorem Mf {us:LI}:∀{args:LI},Wk us args=none->∀tys,We us args tys=false
 | [],h,tys=>by rw [Wk] at h;cases h
 | a::r,h,tys=>by
  cases tys with
  | nil=>simp [We,T4]
  | cons t ts=>
   rw [Wk] at h
   rw [We,T4]
   cases ha:Xx us a with
   | none=>simp
   | some u=>
    rw [ha] at h
    cases hr:Wk us r with
    | none=>
     have:=Mf hr ts
     rw [We] at this
     by_cases he:u=t
     ·subst he;simpa using this
     ·rw [Z8 (fun q=>he (Q2 q))]
    | some tr=>rw [hr] at h;cases h
theorem Zfe {n:Zk} {us:LI} {s:Z5} (h:Wk us s.args=none):Yb n us s=-1:=by
 have ht:=Mf h
 rw [JX]
 split
 ·rfl
 split
 ·rw [Z8];rintro ⟨q,_⟩
  have:s.args=[]:=List.length_eq_zero_iff.1 q
  rw [this,Wk] at h;cases h
 split
 ·rw [Z8 (by rw [ht];simp)]
 split
 ·rw [Z8 (by rw [ht];simp)]
 split
 ·rw [Z8 (by rw [ht];simp)]
 split
 ·rw [Z8 (by rw [ht];simp)]
 split
 ·rw [Z8 (by rw [ht];simp)]
 split
 ·rw [TC]
  cases Xx n.routines s.num with
  | none=>rfl
  | some r=>
   simp only
   rw [Kq]
   split
   ·rw [Z8 (by rw [ht];simp)]
   ·rw [Zf (.inr (.inr (by rw [ht];simp)))]
 split
 ·match hA:s.args with
  | []=>rfl
  | [_]=>rfl
  | [a,b]=>
   rw [QH]
   rw [hA,Wk] at h
   cases ha:Xx us a with
   | none=>rfl
   | some t=>
    rw [ha] at h
    simp only at h ⊢
    split
    ·cases n.decls[(t-1).toNat]? with
     | none=>rfl
     | some d=>
      simp only
      rw [Z8]
      cases hb:Wk us [b] with
      | none=>rw [Mf hb];simp
      | some tr=>rw [hb] at h;cases h
    ·rfl
  | _::_::_::_=>rfl
 split
 ·match hA:s.args with
  | []=>rfl
  | [a]=>
   rw [TH]
   rw [hA,Wk] at h
   cases ha:Xx us a with
   | none=>rfl
   | some t=>rw [ha,Wk] at h;cases h
  | _::_::_=>rfl
 ·rfl
theorem MJ {us:LI} {a:Int}:∀{xs:LI} {k:Nat},xs[k]? = some a->Xx us a=none->Wk us xs=none
 | [],k,h,_=>by simp at h
 | x::r,0,h,ha=>by simp at h;subst h;rw [Wk,ha]
 | x::r,k+1,h,ha=>by
  have:=MJ (xs:=r) (k:=k) (by simpa using h) ha
  rw [Wk]
  cases Xx us x with
  | none=>rfl
  | some t=>simp only [this]
theorem Z9l {n:Zk} {us:LI} {ks:List Z7} {ms:List LI} (h:0<ks.length) (t:Int) :
  WY n us (ks.drop 0) (ms.drop 0) (decide (0=0)) t=WY n us ks ms true 0:=by
 cases ks with
 | nil=>simp at h
 | cons b bs=>
  cases ms with
  | nil=>rw [K9,K9,WY,WY]
  | cons m r=>
   simp only [K9,decide_true]
   rw [WY,WY];simp
theorem N4 {b:Z7}:∀{ks:List Z7} {k:Nat},ks[k]? = some b->b.sz<=X6 ks
 | [],k,h=>by simp at h
 | x::r,0,h=>by simp at h;subst h;rw [X6];omega
 | x::r,k+1,h=>by have:=N4 (ks:=r) (k:=k) (by simpa using h);rw [X6];omega
theorem EB (us m:LI):[us,m].flatten=us++m:=by simp
theorem O2 {xs:LI} {i:Int} (h:i.toNat<xs.length):xs[i.toNat]? = some (gI xs i):=by rw [gI,Kw h];rfl
theorem FB {xs:LI} (h:0<xs.length):xs[0]? = some (gI xs 0):=O2 (i:=0) h
def Uj (n:Zk) (num:Int):V9:=((n.routines.map XV)[num.toNat]?).getD ⟨[],[],0⟩
theorem RR {n:Zk} {i:Int} (h:i.toNat<(n.routines.map XV).length):(n.routines.map XV)[i.toNat]? = some (Uj n i):=by rw [Uj,Kw h];rfl
theorem Ec {us m:LI} (h1:∀t∈us,0<=t) (h2:∀t∈m,0<=t):∀t∈us++m,0<=t:=fun t h=>(X7.1 h).elim (h1 t) (h2 t)
theorem AZ {us:LI} {args ts:LI} {k:Nat} (h:Wk us (args.take k)=some ts) (hk:args.length<=k):Wk us args=some ts:=by
 rw [Vi hk] at h;exact h
theorem Z17 {us:LI} {args ts:LI} {k:Nat} {a t:Int} (h:Wk us (args.take k)=some ts) (ha:args[k]? = some a) (ht:Xx us a=some t):Wk us (args.take (k+1))=some (ts++[t]):=by
 rw [V7 ha];exact ML h ht
theorem PL {ts:LI} (h:(ts.length:Int)=1):ts=[gI ts 0]:=by
 match ts,h with
 | [a],_=>rfl
section
variable {n:Zk} {us ts:LI} {s:Z5}
theorem As {p1 p2 p3 p4 p5:Prop}:(p1/\(p2∨(p3∨(p4∨p5))))↔(p1/\(((p2∨p3)∨p4)∨p5)):=by simp only [or_assoc]
def F7 (n:Zk) (s:Z5) (ts:LI):Int:=match ts with
  | [t]=>if t≠0/\s.num=0/\s.kids.length=0/\¬((s.op=16∨s.op=17)/\XX n.decls t=true) then 0 else -1
  | _=>-1
theorem Bv:J6 n us s ts =
 if YC s.op=true then F7 n s ts
 else if s.op=7 then (if ts=[0]/\s.num=0 then Ty n us s.op s.num s.kids else -1)
 else if s.op=8 then (if ts=[s.num] then Ty n us s.op s.num s.kids else -1)
 else if 0<s.kids.length∨(s.op=10/\0<(((Xx n.routines s.num).map (·.lent)).getD []).length) then -1
 else (XG n s.op s.num ts).getD (-1):=by unfold J6 F7;rfl
theorem Ni (h:(ts.length:Int)=1):F7 n s ts=if gI ts 0≠0/\s.num=0/\s.kids.length=0/\¬((s.op=16∨s.op=17)/\XX n.decls (gI ts 0)=true) then 0 else -1:=by
 match ts,h with
 | [a],_=>rfl
theorem Z2p (h:(ts.length:Int)≠1):F7 n s ts=-1:=by
 match ts,h with
 | [],_=>rfl
 | [a],h=>exact absurd rfl h
 | _::_::_,_=>rfl
theorem Zeu (hS:Yb n us s=J6 n us s ts) (hc:YC s.op=true)
  (h:((((ts.length:Int)=1/\gI ts 0≠0)/\s.num=0)/\(s.kids.length:Int)=0)/\(s.op=16∨s.op=17)) :
  (!XX n.decls (gI ts 0))=decide (0<=Yb n us s):=by
 obtain ⟨⟨⟨⟨h1,h2⟩,h3⟩,h4⟩,h5⟩:=h
 have h4':s.kids.length=0:=by omega
 rw [hS,Bv,Zf hc,Ni h1]
 cases hA:XX n.decls (gI ts 0)
 ·rw [Zf ⟨h2,h3,h4',by simp⟩];rfl
 ·rw [Z8 (fun q=>q.2.2.2 ⟨h5,rfl⟩)];rfl
theorem Zev (hS:Yb n us s=J6 n us s ts) (hc:YC s.op=true)
  (h:¬(((((ts.length:Int)=1/\gI ts 0≠0)/\s.num=0)/\(s.kids.length:Int)=0)/\(s.op=16∨s.op=17))) :
  ((((((ts.length:Int)==1)&&(gI ts 0 != 0))&&(s.num==0))&&((s.kids.length:Int)==0)))=decide (0<=Yb n us s):=by
 rw [hS,Bv,Zf hc]
 by_cases h1:(ts.length:Int)=1
 ·rw [Ni h1]
  by_cases h2:(gI ts 0≠0/\s.num=0)/\(s.kids.length:Int)=0
  ·obtain ⟨⟨h2,h3⟩,h4⟩:=h2
   have h4':s.kids.length=0:=by omega
   rw [Zf ⟨h2,h3,h4',fun q=>h ⟨⟨⟨⟨h1,h2⟩,h3⟩,h4⟩,q.1⟩⟩,Zq.2 h1,Ym.2 h2,Zq.2 h3,Zq.2 h4];rfl
  ·rw [Z8 (fun q=>h2 ⟨⟨q.1,q.2.1⟩,by have:=q.2.2.1;omega⟩)]
   show _=false
   rw [Jd];intro q
   obtain ⟨⟨⟨_,q1⟩,q2⟩,q3⟩:=(YG (YG (YG Zq Ym) Zq) Zq).1 q
   exact h2 ⟨⟨q1,q2⟩,q3⟩
 ·rw [Z2p h1]
  show _=false
  rw [Jd];intro q
  obtain ⟨⟨⟨q1,_⟩,_⟩,_⟩:=(YG (YG (YG Zq Ym) Zq) Zq).1 q
  exact h1 q1
theorem Zeq (hS:Yb n us s=J6 n us s ts) (hc:¬YC s.op=true) (h7:s.op=7)
  (h:(((ts.length:Int)≠1∨gI ts 0≠0)∨s.num≠0)∨(s.kids.length:Int)≠2):Yb n us s=-1:=by
 rw [hS,Bv,Z8 hc,Zf h7]
 split
 ·rename_i q
  obtain ⟨q1,q2⟩:=q
  rw [q1] at h
  rw [Ty,Zf]
  right
  rw [Xn,Zf h7]
  have:gI [0] 0=0:=rfl
  simp [this] at h
  show s.kids.length≠2
  omega
 ·rfl
theorem Zer (hS:Yb n us s=J6 n us s ts) (hc:¬YC s.op=true) (h7:s.op=7)
  (h:¬((((ts.length:Int)≠1∨gI ts 0≠0)∨s.num≠0)∨(s.kids.length:Int)≠2)):Yb n us s=WY n us s.kids (List.replicate 2 []) true 0:=by
 have h1:(ts.length:Int)=1:=Vp.1 fun q=>h (.inl (.inl (.inl q)))
 have h2:gI ts 0=0:=Vp.1 fun q=>h (.inl (.inl (.inr q)))
 have h3:s.num=0:=Vp.1 fun q=>h (.inl (.inr q))
 have h4:(s.kids.length:Int)=2:=Vp.1 fun q=>h (.inr q)
 rw [hS,Bv,Z8 hc,Zf h7,Zf ⟨by rw [PL h1,h2],h3⟩,Ty,Z8]
 ·rw [Xn,Zf h7];rfl
 ·rw [Xn,Zf h7];simp;omega
theorem Zes (hS:Yb n us s=J6 n us s ts) (hc:¬YC s.op=true) (h7:¬s.op=7) (h8:s.op=8)
  (h:(ts.length:Int)≠1∨(gI ts 0≠s.num∨(((((ZY n.decls s.num).map (ZV n.decls)).length:Nat):Int)=0∨(s.kids.length:Int)≠((((ZY n.decls s.num).map (ZV n.decls)).length:Nat):Int)))):Yb n us s=-1:=by
 rw [hS,Bv,Z8 hc,Z8 h7,Zf h8]
 split
 ·rename_i q
  have hg:gI ts 0=s.num:=by rw [q];rfl
  have hl:(ts.length:Int)=1:=by rw [q];rfl
  rw [Ty,Zf]
  rw [Xn,Z8 h7]
  omega
 ·rfl
theorem Zet (hS:Yb n us s=J6 n us s ts) (hc:¬YC s.op=true) (h7:¬s.op=7) (h8:s.op=8)
  (h:¬((ts.length:Int)≠1∨(gI ts 0≠s.num∨(((((ZY n.decls s.num).map (ZV n.decls)).length:Nat):Int)=0∨(s.kids.length:Int)≠((((ZY n.decls s.num).map (ZV n.decls)).length:Nat):Int))))) :
  Yb n us s=WY n us s.kids ((ZY n.decls s.num).map (ZV n.decls)) true 0:=by
 have h1:(ts.length:Int)=1:=Vp.1 fun q=>h (.inl q)
 have h2:gI ts 0=s.num:=Vp.1 fun q=>h (.inr (.inl q))
 rw [hS,Bv,Z8 hc,Z8 h7,Zf h8,Zf (by rw [PL h1,h2]),Ty,Z8]
 ·rw [Xn,Z8 h7]
 ·rw [Xn,Z8 h7];omega
theorem Zab {n:Zk} {num:Int}:(((Xx n.routines num).map (·.lent)).getD []).length=if 0<=num/\num<(((n.routines.map XV).length:Nat):Int) then (Uj n num).lnt.length else 0:=by
 split
 ·rename_i h
  rw [AL] at h
  obtain ⟨r,hr⟩:=QQ (xs:=n.routines) (j:=num.toNat) om
  rw [Q6 om hr,Uj,T8,hr];rfl
 ·rename_i h
  rw [AL] at h
  rw [Ke om];rfl
theorem Sm:(0<s.kids.length∨(s.op=10/\0<(((Xx n.routines s.num).map (·.lent)).getD []).length)) ↔
  ((s.kids.length:Int)>0∨(s.op=10/\(s.num>=0/\(s.num<(((n.routines.map XV).length:Nat):Int)/\((((Uj n s.num).lnt).length:Nat):Int)>0)))):=by
 rw [Zab]
 by_cases hq:0<=s.num/\s.num<(((n.routines.map XV).length:Nat):Int)
 ·rw [Zf hq];omega
 ·rw [Z8 hq];omega
theorem stB (hS:Yb n us s=J6 n us s ts) (hc:¬YC s.op=true) (h7:¬s.op=7) (h8:¬s.op=8)
  (h:((s.kids.length:Int)>0∨(s.op=10/\(s.num>=0/\(s.num<(((n.routines.map XV).length:Nat):Int)/\((((Uj n s.num).lnt).length:Nat):Int)>0))))):Yb n us s=-1:=by
 rw [hS,Bv,Z8 hc,Z8 h7,Z8 h8,Zf (Sm.2 h)]
theorem stS (hS:Yb n us s=J6 n us s ts) (hc:¬YC s.op=true) (h7:¬s.op=7) (h8:¬s.op=8)
  (h:¬((s.kids.length:Int)>0∨(s.op=10/\(s.num>=0/\(s.num<(((n.routines.map XV).length:Nat):Int)/\((((Uj n s.num).lnt).length:Nat):Int)>0))))):Yb n us s=(XG n s.op s.num ts).getD (-1):=by
 rw [hS,Bv,Z8 hc,Z8 h7,Z8 h8,Z8 (fun q=>h (Sm.1 q))]
theorem Zew (hty:KA n) (h:Yb n us s=(XG n s.op s.num ts).getD (-1)):(XG n s.op s.num ts).isSome=decide (0<=Yb n us s):=by
 rw [h]
 cases hs:XG n s.op s.num ts with
 | none=>rfl
 | some x=>have:=Zdf hty hs;simp [this]
theorem Zex {t:Int} (h:Yb n us s=(XG n s.op s.num ts).getD (-1)) (hp:∀x,XG n s.op s.num ts=some x->t=x):¬YC s.op=true->0<=Yb n us s->t=Yb n us s:=by
 intro _ h0
 rw [h] at h0 ⊢
 cases hs:XG n s.op s.num ts with
 | none=>rw [hs] at h0;exact absurd h0 (by decide)
 | some x=>exact hp x hs
end
theorem Zfd {n:Zk} {us:LI} {s:Z5} (h:0<=Yb n us s):(0<=s.op/\s.op<=11)∨(14<=s.op/\s.op<=17):=by
 rw [JX] at h
 by_cases hq:(0<=s.op/\s.op<=11)∨(14<=s.op/\s.op<=17)
 ·exact hq
 ·exfalso
  split at h
  ·omega
  rw [Z8 om,Z8 om,Z8 om,Z8 om,Z8 om,Z8 om,Z8 om,Z8 om,Z8 om] at h
  omega
theorem Ff {n:Zk} {us:LI} {s:Z5} (h:0<=Yb n us s):XQ s.op=!YC s.op:=by
 have:=Zfd h
 rw [XQ,YC,Xl];simp;omega
theorem Zfh {n:Zk} {xs:List Z5} {vs:LI} {k:Nat} {s:Z5} {t:Int} {r:Option LI} (hs:xs[k]? = some s) (h:0<=Yb n vs s) (ht:¬YC s.op=true->0<=Yb n vs s->t=Yb n vs s)
  (hr:XB n (xs.drop k) vs=r):XB n (xs.drop (k+1)) (if YC s.op=true then vs else vs++[t])=r:=by
 rw [Y7 hs,XB,Z8 om] at hr
 rw [<-hr,Ff h]
 by_cases hc:YC s.op=true
 ·rw [Zf hc,hc];rfl
 ·rw [Z8 hc,Zf (by simpa using hc),ht hc h]
theorem Zfi {n:Zk} {xs:List Z5} {vs:LI} {k:Nat} {s:Z5} {r:Option LI} (hs:xs[k]? = some s) (h:¬0<=Yb n vs s) (hr:XB n (xs.drop k) vs=r):r=none:=by
 rw [Y7 hs,XB,Zf om] at hr;exact hr.symm
theorem Zai {c:Prop} [Decidable c] {vs:LI} {t:Int} (h:∀x∈vs,0<=x) (ht:¬c->0<=t):∀x∈(if c then vs else vs++[t]),0<=x:=by
 split
 ·exact h
 ·rename_i hc
  exact Ec h (fun x hx=>by rw [Xv.1 hx];exact ht hc)
theorem MF {m:Nat} {xs:LI} (h:Wj m xs=true):∀x∈xs,0<=x/\x<=m:=by
 rw [Wj,Jv] at h
 exact fun x hx=>of_decide_eq_true (h x hx)
theorem PA {n:Zk} (h:VP n=true):KA n:=by
 simp only [VP,QA,W7,decide_eq_true_eq] at h
 obtain ⟨h1,⟨h2,h3,h4,h5⟩,h6⟩:=h
 have hs:∀r∈n.routines,Wj n.decls.length r.params=true/\0<=r.result:=fun r hr=>by
  have:=LQ h4 (Ux r) (W9.2 ⟨r,hr,rfl⟩)
  simp only [J0,W7,decide_eq_true_eq] at this
  exact ⟨this.2.1,this.2.2.1⟩
 simp only [WU,W7,decide_eq_true_eq] at h2
 obtain ⟨h2a,h2b⟩:=h2
 rw [HP] at h2b
 have key:∀(i:Nat) (d:Zg),n.decls[i]? = some d->UH n.decls d i=true:=fun i d hi=>by
  have:=h2b i (Xc.1 hi).1
  rwa [Vd,DL hi] at this
 refine ⟨fun r hr=>(hs r hr).2,fun r hr p hp=>(MF (hs r hr).1 p hp).1,fun d hd h0=>?_,fun c f hf=>?_⟩
 ·obtain ⟨i,hi⟩:=List.mem_iff_getElem?.1 hd
  have:=key i d hi
  rw [UH,Z8 om] at this
  split at this
  ·cases this
  ·simp only [W7,decide_eq_true_eq] at this;omega
 ·by_cases hc:Wg n.decls c<1
  ·rw [(F9 hc).1] at hf;cases hf
  ·obtain ⟨k,d,x,q1,q2,q3,q4,q5⟩:=HL hc
   rw [q5] at hf
   have:=key k d q1
   have hp:0<d.cons.length:=by have:=(Xc.1 q3).1;omega
   rw [UH,Zf hp] at this
   split at this
   ·have:=Np.1 this x (ZX q3)
    simp only [Ji,W7] at this
    exact (MF this.2 f hf).1
   ·cases this
end Go.Abs
section
namespace Go.Abs
structure Xm where
 mat:Int
 fst:Int
 fds:LI
 chg:Bool
abbrev Pb (a:Xm):List AV:=[.i a.mat,.i a.fst,Z4 a.fds,.b a.chg]
abbrev Mu (a:Xm):AV:=.agg (Pb a)
def WK (xs:List Xm):List AV:=xs.map Mu
abbrev Xa (xs:List Xm):AV:=.sl (WK xs) none
abbrev Lc (xs:List Xm) (v:Value):AV:=.sl (WK xs) (some v)
theorem Z42 {xs:List Xm} {j:Nat} {x:Xm} (h:xs[j]? = some x):(WK xs)[j]? = some (Mu x):=by simp [WK,h]
@[simp] theorem Z43 (xs:List Xm):(WK xs).length=xs.length:=by simp [WK]
theorem Ny (xs ys:List Xm):WK (xs++ys)=WK xs++WK ys:=by simp [WK]
theorem CE (xs:List Xm):∀y∈WK xs,y.leaves.length=4:=by intro y hy;simp only [WK,W9] at hy;obtain ⟨x,_,rfl⟩:=hy;rfl
theorem HS (xs:List Xm):(Zo (WK xs)).all AV.one=true:=Jm fun y hy=>by simp only [WK,W9] at hy;obtain ⟨x,_,rfl⟩:=hy;rfl
theorem Z44 {xs:List Xm} (h:WK xs=[]):xs=[]:=by cases xs with|nil=>rfl|cons x r=>cases h
abbrev V0:=Zp
def U1:LI->Int->LI
 | [],_=>[]
 | t::r,p=>if t≠0 then p::U1 r (p+1) else U1 r (p+1)
theorem Z7i {xs:LI} {k:Nat} {t p:Int} {acc r:LI} (h:xs[k]? = some t) (ha:acc++U1 (xs.drop k) (p+k)=r) :
  (if t≠0 then acc++[p+k] else acc)++U1 (xs.drop (k+1)) (p+((k+1:Nat):Int))=r:=by
 rw [Y7 h,U1] at ha
 rw [show p+((k+1:Nat):Int)=p+k+1 by omega]
 split
 ·rename_i q;rw [Zf q] at ha;rw [Q1];exact ha
 ·rename_i q;rw [Z8 q] at ha;exact ha
theorem Z7h {xs:LI} {k:Nat} {p:Int} {acc r:LI} (h:xs.length<=k) (ha:acc++U1 (xs.drop k) (p+k)=r):acc=r:=by
 rw [Xh h,U1,Jw] at ha;exact ha
theorem Ix:∀(xs:LI) (p:Int) (own:LI),UD own p xs=(U1 xs p).foldl (fun o f=>o.set f.toNat (gI o f+1)) own
 | [],_,_=>rfl
 | t::r,p,own=>by
  rw [UD,U1]
  split
  ·rw [List.foldl_cons];exact Ix r _ _
  ·exact Ix r _ _
theorem Iy:∀{xs:LI} {p f:Int},f∈U1 xs p->p<=f/\f<p+xs.length
 | [],_,_,h=>by simp [U1] at h
 | t::r,p,f,h=>by
  rw [U1] at h
  split at h
  ·rcases YB.1 h with rfl|h
   ·simp only [YQ];omega
   ·have:=Iy h;simp only [YQ];omega
  ·have:=Iy h;simp only [YQ];omega
theorem Oq:∀(xs:LI) (p:Int),(U1 xs p).length<=xs.length
 | [],_=>by simp [U1]
 | t::r,p=>by
  have:=Oq r (p+1)
  rw [U1];split<;>simp<;>omega
def Uu:List Xm->Int->Option Xm
 | [],_=>none
 | a::r,v=>match Uu r v with
  | some x=>some x
  | none=>if a.mat=v then some a else none
theorem PK {a:Xm}:∀{as1:List Xm} {v:Int},Uu (as1++[a]) v=if a.mat=v then some a else Uu as1 v
 | [],v=>rfl
 | x::r,v=>by
  rw [QC,Uu,PK]
  by_cases h:a.mat=v
  ·rw [Zf h,Zf h]
  ·rw [Z8 h,Z8 h];rfl
theorem Eh {v:Int}:∀{as1:List Xm},(∀a∈as1,a.mat≠v)->Uu as1 v=none
 | [],_=>rfl
 | x::r,h=>by rw [Uu,Eh (fun a ha=>h a (XD _ ha))];exact Z8 (h x (Xf ..))
theorem PJ {v:Int} {a:Xm}:∀{as1:List Xm},Uu as1 v=some a->a∈as1/\a.mat=v
 | [],h=>by cases h
 | x::r,h=>by
  rw [Uu] at h
  cases hr:Uu r v with
  | some y=>rw [hr] at h;cases h;have:=PJ hr;exact ⟨XD _ this.1,this.2⟩
  | none=>
   rw [hr] at h
   simp only at h
   split at h
   ·cases h;exact ⟨Xf ..,by assumption⟩
   ·cases h
structure WP (ds:List Zg) (L:Zp) (as1:List Xm):Prop where
 rng:∀a∈as1,0<=a.mat/\a.mat<a.fst/\a.fst+a.fds.length<=L.vars.length
 par:∀a∈as1,∀v:Int,a.fst<=v->v<a.fst+a.fds.length->gI L.par v=a.mat
 non:∀v:Int,0<=v->v<L.vars.length->0<=gI L.par v->∃a∈as1,a.fst<=v/\v<a.fst+a.fds.length
 off:∀v:Int,0<=v->v<L.vars.length->match Uu as1 v with
  | none=>gI L.con v<0
  | some a=>0<=gI L.con v/\a.fst=gI L.fst v/\a.fds=ZV ds (gI L.con v)
theorem WP.same {ds:List Zg} {L M:Zp} {as1:List Xm} (h:WP ds L as1) (h1:M.vars.length=L.vars.length) (h2:M.par=L.par) (h3:M.con=L.con) (h4:M.fst=L.fst):WP ds M as1:=by
 refine ⟨?_,?_,?_,?_⟩
 ·rw [h1];exact h.rng
 ·rw [h2];exact h.par
 ·rw [h1,h2];exact h.non
 ·rw [h1,h3,h4];exact h.off
theorem WP.grow {ds:List Zg} {L:Zp} {as1:List Xm} {t o:Int} (h:WP ds L as1) (hl:Wi L):WP ds (L.grow t o (-1)) as1:=by
 obtain ⟨e1,e2,e3,e4,e5⟩:=hl
 have key:∀{xs:LI} {y v:Int},xs.length=L.vars.length->0<=v->v<L.vars.length->gI (xs++[y]) v=gI xs v:=fun hx h0 h1=>Jo om
 have kend:∀{xs:LI} {y v:Int},xs.length=L.vars.length->v=(L.vars.length:Int)->gI (xs++[y]) v=y:=fun hx h1=>Im om
 have hlen:(L.grow t o (-1)).vars.length=L.vars.length+1:=by simp [Zp.grow]
 refine ⟨fun a ha=>?_,fun a ha v h1 h2=>?_,fun v h0 h1 h2=>?_,fun v h0 h1=>?_⟩
 ·have:=h.rng a ha;omega
 ·have:=h.rng a ha
  show gI (L.par++[-1]) v=a.mat
  rw [key e2 om om];exact h.par a ha v h1 h2
 ·have h2':0<=gI (L.par++[-1]) v:=h2
  by_cases hv:v<L.vars.length
  ·rw [key e2 h0 hv] at h2';exact h.non v h0 hv h2'
  ·rw [kend e2 om] at h2';omega
 ·show match Uu as1 v with
   | none=>gI (L.con++[-1]) v<0
   | some a=>0<=gI (L.con++[-1]) v/\a.fst=gI (L.fst++[-1]) v/\a.fds=ZV ds (gI (L.con++[-1]) v)
  by_cases hv:v<L.vars.length
  ·rw [key e3 h0 hv,key e4 h0 hv];exact h.off v h0 hv
  ·rw [Eh (fun a ha=>by have:=h.rng a ha;omega)]
   show gI (L.con++[-1]) v<0
   rw [kend e3 om];omega
theorem WP.arm {ds:List Zg} {L:Zp} {as1:List Xm} {x c:Int} (h:WP ds L as1) (hl:Wi L) (hx:0<=x/\x<L.vars.length) (hc:0<=c) :
  WP ds (KF ds L x c) (as1++[⟨x,(L.vars.length:Nat),ZV ds c,false⟩]):=by
 obtain ⟨e1,e2,e3,e4,e5⟩:=hl
 rw [KF,FH]
 have hnew:∀{xs:LI} {y v:Int},xs.length=L.vars.length->(L.vars.length:Int)<=v->v<L.vars.length+(ZV ds c).length->gI (xs++List.replicate (ZV ds c).length y) v=y:=fun hx h0 h1=>FC om
 have QS:∀{xs:LI} {y v:Int},xs.length=L.vars.length->0<=v->v<L.vars.length->gI (xs++List.replicate (ZV ds c).length y) v=gI xs v:=fun hx h0 h1=>Jo om
 refine ⟨fun a ha=>?_,fun a ha v h1 h2=>?_,fun v h0 h1 h2=>?_,fun v h0 h1=>?_⟩
 ·simp only [Yq]
  rcases X7.1 ha with ha|ha
  ·have:=h.rng a ha;omega
  ·rw [Xv.1 ha]
   show 0<=x/\x<(L.vars.length:Nat)/\(L.vars.length:Int)+((ZV ds c).length:Nat)<=_
   omega
 ·show gI (L.par++List.replicate _ x) v=a.mat
  rcases X7.1 ha with ha|ha
  ·have:=h.rng a ha
   rw [QS e2 om om];exact h.par a ha v h1 h2
  ·rw [Xv.1 ha] at h1 h2 ⊢
   exact hnew e2 h1 h2
 ·simp only [Yq] at h1
  have h2':0<=gI (L.par++List.replicate (ZV ds c).length x) v:=h2
  by_cases hv:v<L.vars.length
  ·rw [QS e2 h0 hv] at h2'
   obtain ⟨a,ha,q⟩:=h.non v h0 hv h2'
   exact ⟨a,List.mem_append_left _ ha,q⟩
  ·exact ⟨_,List.mem_append_right _ (Xv.2 rfl),by show (L.vars.length:Int)<=v;omega,by show v<(L.vars.length:Int)+(ZV ds c).length;omega⟩
 ·simp only [Yq] at h1
  show match Uu (as1++[⟨x,(L.vars.length:Nat),ZV ds c,false⟩]) v with
   | none=>gI (L.con.set x.toNat c++List.replicate (ZV ds c).length (-1)) v<0
   | some a=>0<=gI (L.con.set x.toNat c++List.replicate (ZV ds c).length (-1)) v/\a.fst=gI (L.fst.set x.toNat L.vars.length++List.replicate (ZV ds c).length (-1)) v /\
     a.fds=ZV ds (gI (L.con.set x.toNat c++List.replicate (ZV ds c).length (-1)) v)
  rw [PK]
  by_cases hv:v<L.vars.length
  ·rw [QS (by simp [e3]) h0 hv,QS (by simp [e4]) h0 hv]
   by_cases he:x=v
   ·rw [Zf he]
    show 0<=gI (L.con.set x.toNat c) v/\(L.vars.length:Int)=gI (L.fst.set x.toNat L.vars.length) v/\ZV ds c=ZV ds (gI (L.con.set x.toNat c) v)
    rw [CQ om om,CQ om om]
    exact ⟨hc,rfl,rfl⟩
   ·rw [Z8 he,CR om,CR om];exact h.off v h0 hv
  ·rw [hnew (by simp [e3]) om om]
   rw [Z8 (by show ¬x=v;omega),Eh (fun a ha=>by have:=h.rng a ha;omega)]
   show (-1:Int)<0
   omega
theorem Z0r {L:Zp} {ln:LI} {v:Int} {p:Int} (hv:0<=v/\v<L.vars.length) (hd:∀i:Int,0<=i->i<L.vars.length->gI L.par i<i) (h:¬(gI L.own v>0∨v∈ln)) (hp:gI L.par v=p) (h0:0<=p):Xr L ln v=Xr L ln p:=
 (MD (N:=L.vars.length) rfl hp hv ⟨by omega,fun q=>h (.inr q)⟩ om hd rfl).symm
theorem Z0q {L:Zp} {ln:LI} {v:Int} (h:¬(gI L.own v>0∨v∈ln)) (hp:gI L.par v<0):Xr L ln v=false:=
 (MC rfl rfl ⟨by omega,fun q=>h (.inr q)⟩ hp rfl).symm
theorem Z0s {L:Zp} {ln:LI} {v:Int} (h:gI L.own v>0∨v∈ln):Xr L ln v=true:=
 (ME rfl (fun q=>h.elim (fun z=>by omega) q.2) rfl).symm
end Go.Abs
namespace Go.Abs
def XI (L:Zp) (v:Int):Zp:={ L with own:=L.own.set v.toNat (gI L.own v-1) }
theorem AF {L:Zp} {v:Int}:Ul L v=if 1<=gI L.own v then some (XI L v) else none:=by
 rw [Ul]
 by_cases h:gI L.own v<1
 ·rw [Zf h,Z8 om]
 ·rw [Z8 h,Zf om];rfl
end Go.Abs
namespace Go.Abs
def Wd (L:Zp) (r:Int):Zp:=if gI L.vars r≠0 then XI L r else L
theorem NI {L:Zp} {m:Nat} {r:Int} (ho:gI L.vars r≠0->1<=gI L.own r) (hz:T7 ((Wd L r).own.drop m) ((Wd L r).tok.drop m)=true):Ur m r L=some ((Wd L r).take m):=by
 rw [Ur]
 by_cases h:gI L.vars r≠0
 ·rw [Zf h,AF,Zf (ho h)]
  have e:Wd L r=XI L r:=Zf h
  rw [e] at hz ⊢
  exact Zf hz
 ·rw [Z8 h]
  have e:Wd L r=L:=Z8 h
  rw [e] at hz ⊢
  exact Zf hz
theorem Z4l {L:Zp} {m:Nat} {r:Int} (h:gI L.vars r≠0) (ho:¬1<=gI L.own r):Ur m r L=none:=by
 rw [Ur,Zf h,AF,Z8 ho];rfl
theorem Fp {L:Zp} {m:Nat} {r:Int} (hz:T7 ((Wd L r).own.drop m) ((Wd L r).tok.drop m)=false):Ur m r L=none:=by
 rw [Ur]
 by_cases h:gI L.vars r≠0
 ·rw [Zf h,AF]
  have e:Wd L r=XI L r:=Zf h
  rw [e] at hz
  split
  ·exact Z8 (by rw [hz];simp)
  ·rfl
 ·rw [Z8 h]
  have e:Wd L r=L:=Z8 h
  rw [e] at hz
  exact Z8 (by rw [hz];simp)
theorem H7 {os ts:LI} {k:Nat} {o t:Int} {r:Bool} (h1:os[k]? = some o) (h2:ts[k]? = some t) (h:o≠0∨0<=t) (hr:T7 (os.drop k) (ts.drop k)=r):r=false:=by
 rw [Y7 h1,Y7 h2,T7,Zf h] at hr;exact hr.symm
theorem H8 {os ts:LI} {k:Nat} {o t:Int} {r:Bool} (h1:os[k]? = some o) (h2:ts[k]? = some t) (h:¬(o≠0∨0<=t)) (hr:T7 (os.drop k) (ts.drop k)=r):T7 (os.drop (k+1)) (ts.drop (k+1))=r:=by
 rw [Y7 h1,Y7 h2,T7,Z8 h] at hr;exact hr
theorem Z02 {os ts:LI} {k:Nat} {r:Bool} (h1:os.length<=k) (hr:T7 (os.drop k) (ts.drop k)=r):r=true:=by
 rw [Xh h1] at hr;rw [<-hr];simp [T7]
end Go.Abs
namespace Go.Abs
def Cx (o:LI) (fs:LI):LI:=fs.foldl (fun o f=>o.set f.toNat (gI o f+1)) o
theorem Z23 {p:Int} {xs own:LI}:Cx own (U1 xs p)=UD own p xs:=(Ix xs p own).symm
theorem Z24 {fs o r:LI} {k:Nat} {f x:Int} (h:fs[k]? = some f) (hx:gI o f=x) (hr:Cx o (fs.drop k)=r):Cx (o.set f.toNat (x+1)) (fs.drop (k+1))=r:=by
 rw [Y7 h,Cx,List.foldl_cons,hx] at hr;exact hr
theorem N7 {fs o r:LI} {k:Nat} (h:fs.length<=k) (hr:Cx o (fs.drop k)=r):o=r:=by
 rw [Xh h] at hr;exact hr
def QL (n:Zk) (ln:LI) (L:Zp) (op v:Int):Option Zp:=if op=14 then JK L ln v else if op=15 then Ul L v else TV n.decls L op v
section
variable {n:Zk} {ln:LI} {L:Zp} {op v:Int} {am:List Xm} {a:Xm}
theorem Z2q (h:op=14) (ha:¬Xr L ln v=true):QL n ln L op v=none:=by rw [QL,Zf h,JK,Z8 ha]
theorem Z2r (h:op=14) (ha:Xr L ln v=true) {x:Int} (hx:gI L.own v=x):QL n ln L op v=some { L with own:=L.own.set v.toNat (x+1) }:=by rw [QL,Zf h,JK,Zf ha,hx]
theorem Z2t (h:op=15) (ht:1<=gI L.own v):QL n ln L op v=some (XI L v):=by rw [QL,Z8 om,Zf h,AF,Zf ht]
theorem Z2s (h:op=15) (ht:¬1<=gI L.own v):QL n ln L op v=none:=by rw [QL,Z8 om,Zf h,AF,Z8 ht]
theorem Nj (h1:¬op=14) (h2:¬op=15):QL n ln L op v=TV n.decls L op v:=by rw [QL,Z8 h1,Z8 h2]
theorem Zb6 {ds:List Zg} (har:WP ds L am) (hv:0<=v/\v<L.vars.length) (ho:Uu am v=none):TV ds L op v=none:=by
 have:=har.off v hv.1 hv.2
 rw [ho] at this
 rw [TV,Zf (.inl this)]
theorem Zb5 {ds:List Zg} (har:WP ds L am) (hv:0<=v/\v<L.vars.length) (ho:Uu am v=some a) {xt:Int} (hxt:gI L.tok v=xt):TV ds L op v=if ¬1<=gI L.own v∨(op=17/\xt>=0) then none else
  some { XI L v with own:=UD (XI L v).own a.fst a.fds,tok:=if op=17 then L.tok.set v.toNat a.fds.length else L.tok }:=by
 have:=har.off v hv.1 hv.2
 rw [ho] at this
 obtain ⟨h1,h2,h3⟩:=this
 have hcon:¬gI L.con v<0:=by omega
 rw [TV,AF,hxt,<-h2,<-h3]
 by_cases ht:1<=gI L.own v
 ·rw [Zf ht]
  by_cases h17:op=17/\xt>=0
  ·have c1:gI L.con v<0∨(op=17/\0<=xt):=.inr h17
   have c2:¬1<=gI L.own v∨(op=17/\xt>=0):=.inr h17
   rw [Zf c1,Zf c2]
  ·have c1:¬(gI L.con v<0∨(op=17/\0<=xt)):=fun q=>q.elim hcon h17
   have c2:¬(¬1<=gI L.own v∨(op=17/\xt>=0)):=fun q=>q.elim (fun z=>z ht) h17
   rw [Z8 c1,Z8 c2]
 ·rw [Z8 ht]
  have c2:¬1<=gI L.own v∨(op=17/\xt>=0):=.inl ht
  rw [Zf c2]
  split<;>rfl
end
end Go.Abs
namespace Go.Abs
theorem Z3s {ds:List Zg} {L:Zp} {q v:Int} (hk:X0 ds L q) (h1:1<=gI L.own v) (hv:0<=v/\v<L.vars.length):∀y∈(XI L v).own,0<=y/\y<=q:=by
 intro y hy
 rcases KY hy with hy|rfl
 ·exact ⟨hk.nn y hy,hk.bd y hy⟩
 ·obtain ⟨x,hx⟩:=QQ (xs:=L.own) (j:=v.toNat) (by have:=hk.len.own;omega)
  have hg:=Vk hx
  have:=hk.bd x (ZX hx)
  omega
end Go.Abs
end
section
namespace Go.Abs
def WZ (n:Zk) (us:LI) (op num:Int):LI->Nat->LI
 | [],_=>[]
 | a::r,i=>if TF n us op num a i=true then (i:Int)::WZ n us op num r (i+1) else WZ n us op num r (i+1)
section
variable {n:Zk} {us:LI} {op num:Int}
theorem Zbn {args acc r:LI} {k:Nat} {a:Int} (h:args[k]? = some a) (hc:TF n us op num a k=true) (hr:acc++WZ n us op num (args.drop k) k=r) :
  (acc++[(k:Int)])++WZ n us op num (args.drop (k+1)) (k+1)=r:=by
 rw [Y7 h,WZ,Zf hc] at hr;rw [Q1];exact hr
theorem R5 {args acc r:LI} {k:Nat} {a:Int} (h:args[k]? = some a) (hc:¬TF n us op num a k=true) (hr:acc++WZ n us op num (args.drop k) k=r) :
  acc++WZ n us op num (args.drop (k+1)) (k+1)=r:=by
 rw [Y7 h,WZ,Z8 hc] at hr;exact hr
theorem Zbm {args acc r:LI} {k:Nat} (h:args.length<=k) (hr:acc++WZ n us op num (args.drop k) k=r):acc=r:=by
 rw [Xh h,WZ,Jw] at hr;exact hr
theorem Ln (h:¬Tb op=true):∀(args:LI) (i:Nat),WZ n us op num args i=[]
 | [],_=>rfl
 | a::r,i=>by
  have hb:Tb op=false:=by simpa using h
  rw [WZ,Z8 (by rw [TF,hb];simp)];exact Ln h r (i+1)
theorem Lm:∀{args:LI} {i:Nat} {p:Int},p∈WZ n us op num args i->(i:Int)<=p/\p<i+args.length
 | [],_,_,h=>by simp [WZ] at h
 | a::r,i,p,h=>by
  rw [WZ] at h
  simp only [YQ]
  split at h
  ·rcases YB.1 h with rfl|h
   ·omega
   ·have:=Lm h;omega
  ·have:=Lm h;omega
theorem R4:∀(args:LI) (i:Nat),(WZ n us op num args i).length<=args.length
 | [],_=>by simp [WZ]
 | a::r,i=>by
  have:=R4 r (i+1)
  rw [WZ];split<;>simp<;>omega
theorem Pq (h:¬Tb op=true) (i:Nat):¬WO n op num i=true:=by
 have:op≠9:=fun q=>h (by rw [q];rfl)
 rw [WO,Au,Z8 this];simp
def AP (n:Zk) (op num:Int) (args:LI) (k:Nat) (ls:LI):Prop:=∀x,x∈ls↔∃i,i<k/\args[i]? = some x/\WO n op num i=true
theorem Po {args ls:LI} {k:Nat} (h:AP n op num args k ls) (hl:¬WO n op num k=true):AP n op num args (k+1) ls:=by
 intro x;rw [h x]
 constructor
 ·rintro ⟨i,q1,q2⟩;exact ⟨i,by omega,q2⟩
 ·rintro ⟨i,q1,q2,q3⟩
  rcases A1 i k with q|q
  ·exact ⟨i,q,q2,q3⟩
  ·have:i=k:=by omega
   subst this;exact absurd q3 hl
theorem Za3 {args ls ls2:LI} {k:Nat} {a:Int} (ha:args[k]? = some a) (h:AP n op num args k ls) (hl:WO n op num k=true) (h2:∀x,x∈ls2↔x∈ls∨x=a):AP n op num args (k+1) ls2:=by
 intro x;rw [h2 x,h x]
 constructor
 ·rintro (⟨i,q1,q2⟩|rfl)
  ·exact ⟨i,by omega,q2⟩
  ·exact ⟨k,by omega,ha,hl⟩
 ·rintro ⟨i,q1,q2,q3⟩
  rcases A1 i k with q|q
  ·exact .inl ⟨i,q,q2,q3⟩
  ·have:i=k:=by omega
   subst this;rw [ha] at q2;exact .inr (Q2 q2).symm
theorem Za5 {args:LI}:AP n op num args 0 []:=by intro x;simp
theorem Za4 {args ls:LI} {k:Nat} (h:AP n op num args k ls) (hk:args.length<=k):∀x,x∈ls↔∃i,args[i]? = some x/\WO n op num i=true:=by
 intro x;rw [h x]
 constructor
 ·rintro ⟨i,_,q⟩;exact ⟨i,q⟩
 ·rintro ⟨i,q⟩;exact ⟨i,by have:=(Xc.1 q.1).1;omega,q⟩
end
def K5 (args:LI):LI->Zp->Option Zp
 | [],L=>some L
 | k::r,L=>match Ul L (gI args k) with
  | none=>none
  | some L1=>K5 args r L1
theorem EA {n:Zk} {op num:Int} {all:LI}:∀{args:LI} {i:Nat} {L:Zp},all.drop i=args->Tk n op num args i L=K5 all (WZ n L.vars op num args i) L
 | [],i,L,_=>rfl
 | a::r,i,L,h=>by
  have hr:all.drop (i+1)=r:=by rw [<-List.drop_drop,h];rfl
  have ha:gI all (i:Int)=a:=by
   have:(all.drop i)[0]? = some a:=by rw [h];rfl
   rw [BA] at this
   exact Vk (by simpa using this)
  rw [Tk,WZ]
  split
  ·rw [K5,ha]
   cases ht:Ul L a with
   | none=>rfl
   | some L1=>
    simp only
    rw [EA hr,(Qj ht).2.1]
  ·exact EA hr
theorem Zfl {args ps:LI} {k:Nat} {L:Zp} {p x:Int} {r:Option Zp} (h:ps[k]? = some p) (hx:gI args p=x) (ht:1<=gI L.own x) (hr:K5 args (ps.drop k) L=r):K5 args (ps.drop (k+1)) (XI L x)=r:=by
 rw [Y7 h,K5,hx,AF,Zf ht] at hr;exact hr
theorem Zfm {args ps:LI} {k:Nat} {L:Zp} {p x:Int} {r:Option Zp} (h:ps[k]? = some p) (hx:gI args p=x) (ht:¬1<=gI L.own x) (hr:K5 args (ps.drop k) L=r):r=none:=by
 rw [Y7 h,K5,hx,AF,Z8 ht] at hr;exact hr.symm
theorem Zfk {args ps:LI} {k:Nat} {L:Zp} {r:Option Zp} (h:ps.length<=k) (hr:K5 args (ps.drop k) L=r):r=some L:=by
 rw [Xh h,K5] at hr;exact hr.symm
theorem FI {n:Zk} {op num:Int} {ln:LI} {L:Zp} {all:LI}:∀{args:LI} {i:Nat},all.drop i=args ->
  (KQ n op num ln L args i=true↔∀j x,i<=j->all[j]? = some x->WO n op num j=true->Xr L ln x=true)
 | [],i,h=>by
  simp only [KQ,true_iff]
  intro j x hj hx _
  have:=(Xc.1 hx).1
  have hl:=Yj List.length h
  simp at hl;omega
 | a::r,i,h=>by
  have hr:all.drop (i+1)=r:=by rw [<-List.drop_drop,h];rfl
  have ha:all[i]? = some a:=by
   have:(all.drop i)[0]? = some a:=by rw [h];rfl
   rw [BA] at this;simpa using this
  rw [KQ]
  split
  ·rename_i q
   simp only [Bool.false_eq_true,false_iff]
   exact fun z=>q.2 (z i a (X5 _) ha q.1)
  ·rename_i q
   rw [FI hr]
   constructor
   ·intro z j x hj hx hl
    rcases A1 i j with hij|hij
    ·exact z j x hij hx hl
    ·have:j=i:=by omega
     subst this;rw [ha] at hx;cases hx
     exact Vp.1 fun y=>q ⟨hl,y⟩
   ·exact fun z j x hj=>z j x om
theorem Om {n:Zk} {ln:LI} {L L1:Zp} {op num into:Int} {args ls:LI} (h1:K5 args (WZ n L.vars op num args 0) L=some L1) (hl:∀x,x∈ls↔∃i,args[i]? = some x/\WO n op num i=true) :
  ((∀x∈ls,Xr L1 ln x=true)->Us n ln L op num into args=Kk L1 into args.length)/\((∃x∈ls,¬Xr L1 ln x=true)->Us n ln L op num into args=none):=by
 rw [Us,EA (all:=args) (args:=args) (i:=0) rfl,h1]
 simp only
 constructor
 ·intro h
  rw [Zf ((FI (all:=args) (args:=args) (i:=0) rfl).2 fun j x _ hx hj=>h x ((hl x).2 ⟨j,hx,hj⟩))]
 ·rintro ⟨x,hx,hd⟩
  rw [Z8]
  intro z
  obtain ⟨j,q1,q2⟩:=(hl x).1 hx
  exact hd ((FI (all:=args) (args:=args) (i:=0) rfl).1 z j x (Ka _) q1 q2)
theorem Z7b {n:Zk} {ln:LI} {L:Zp} {op num into:Int} {args:LI} (h1:K5 args (WZ n L.vars op num args 0) L=none):Us n ln L op num into args=none:=by
 rw [Us,EA (all:=args) (args:=args) (i:=0) rfl,h1]
end Go.Abs
namespace Go.Abs
theorem Zdd {n:Zk} (hn:X2 n) (num:Int):(Uj n num).lnt.length<=4194304:=by
 rw [Uj,T8]
 cases h:n.routines[num.toNat]? with
 | none=>simp
 | some r=>exact hn.lent r (ZX h)
theorem Za2 {n:Zk} {op num:Int} {k:Nat}:WO n op num k=true↔(op=9/\(k:Int)∈(Uj n num).lnt):=by
 rw [WO,Au,decide_eq_true_iff]
 by_cases h:op=9
 ·rw [Zf h,Uj,T8]
  cases n.routines[num.toNat]? with
  | none=>simp
  | some r=>simp [h,XV]
 ·rw [Z8 h];simp [h]
end Go.Abs
namespace Go.Abs
theorem clS {xs:LI} {p:LI->Prop}:Dy fun r h=>∃(vp vl:Value) (ls:LI),r=.tup [ZM xs vp,ZM ls vl]/\h=[.tail vp 1,.tail vl 1]/\p ls:=by
 rintro _ _ ⟨vp,vl,ls,rfl,rfl,_⟩
 refine ⟨.tup fun y hy=>?_,by simp [Dz]⟩
 simp only [YB,List.not_mem_nil,or_false] at hy
 rcases hy with rfl|rfl
 ·exact .own (k:=1) (H2 _) (by simp)
 ·exact .own (k:=1) (H2 _) (by simp)
end Go.Abs
end
section
namespace Go.Abs
section
variable {n:Zk} {ln:LI}
theorem Z7c {L L':Zp} {op num into q:Int} {args:LI} {ds:List Zg} (hk:X0 ds L q) (h:Us n ln L op num into args=some L'):L'.vars=L.vars/\L'.par=L.par/\L'.con=L.con/\L'.fst=L.fst:=by
 rw [Us] at h
 cases ht:Tk n op num args 0 L with
 | none=>rw [ht] at h;cases h
 | some L1=>
  rw [ht] at h
  obtain ⟨_,h1,h2,h3,h4,_⟩:=FJ hk ht
  simp only at h
  split at h
  ·rw [Kk] at h
   split at h
   ·split at h
    ·cases h
    ·cases h;exact ⟨h1,h2,h3,h4⟩
   ·cases h;exact ⟨h1,h2,h3,h4⟩
  ·cases h
theorem Zbk {L L1:Zp} {s:Z5} {q:Int} {ds:List Zg} (hk:X0 ds L q) (h:TX n ln L s.op s.num s.into s.args (Tx n ln L s.op s.num s.args s.kids)=some L1):L1.vars=L.vars/\L1.par=L.par/\L1.con=L.con/\L1.fst=L.fst:=by
 rw [TX] at h
 split at h
 ·obtain ⟨h1,h2,h3,h4,_⟩:=Fg h;exact ⟨h1,h2,h3,h4⟩
 split at h
 ·obtain ⟨_,h1,h2,h3,h4,_⟩:=Qj h;exact ⟨h1,h2,h3,h4⟩
 split at h
 ·obtain ⟨h1,h2,h3,h4,_⟩:=Gm h;exact ⟨h1,h2,h3,h4⟩
 split at h
 ·split at h
  ·cases h
  ·cases hks:s.kids with
   | nil=>rw [hks,Tx] at h;cases h
   | cons b bs=>
    rw [hks,Tx] at h
    unfold Aw at h
    cases hb:Vj n ln (V5 n.decls L s.op s.num s.args 0) L.vars.length b with
    | none=>rw [hb] at h;cases h
    | some one=>
     rw [hb] at h
     simp only at h
     split at h
     ·cases h;exact ⟨rfl,rfl,rfl,rfl⟩
     ·cases h
 ·exact Z7c hk h
theorem Ss (hn:X2 n) {s:Z5} {L L':Zp} {q:Int} {am:List Xm} (hk:X0 n.decls L q) (hq:0<=q) (hty:0<=Yb n L.vars s) (h:Vo n ln L s=some L') (ha:WP n.decls L am):WP n.decls L' am:=by
 rw [GT] at h
 cases hp:TX n ln L s.op s.num s.into s.args (Tx n ln L s.op s.num s.args s.kids) with
 | none=>rw [hp] at h;cases h
 | some L1=>
  rw [hp] at h
  obtain ⟨h1,h2,h3,h4⟩:=Zbk hk hp
  have hk1:=(Az hn hk hq (Dq hty) hp).1
  have ha1:WP n.decls L1 am:=ha.same (by rw [h1]) h2 h3 h4
  rw [Kj] at h
  split at h
  ·cases h;exact ha1.grow hk1.len
  ·cases h;exact ha1
theorem GV (hn:X2 n) {am:List Xm}:∀{xs:List Z5} {L L':Zp} {q:Int} {vs:LI},X0 n.decls L q->0<=q->WP n.decls L am->XB n xs L.vars=some vs->XY n ln L xs=some L' ->
  X0 n.decls L' (q+4*Y6 xs)/\L'.vars=vs/\WP n.decls L' am
 | [],L,L',q,vs,hk,hq,ha,ht,h=>by
  rw [XY] at h;rw [XB] at ht;cases h;cases ht
  exact ⟨by simpa [Y6] using hk,rfl,ha⟩
 | s::r,L,L',q,vs,hk,hq,ha,ht,h=>by
  rw [XY] at h
  cases hs:Vo n ln L s with
  | none=>rw [hs] at h;cases h
  | some L1=>
   rw [hs] at h
   obtain ⟨g1,g2⟩:=Ey ht
   obtain ⟨k1,k2⟩:=Dp hn hk hq g1 hs
   have:=GV hn (xs:=r) k1 (by have:=s.sz_pos;omega) (Ss hn hk hq g1 hs ha) (by rw [k2];exact g2) h
   refine ⟨?_,this.2⟩
   rw [show q+4*Y6 (s::r)=q+4*s.sz+4*Y6 r by rw [Y6];omega]
   exact this.1
end
end Go.Abs
namespace Go.Abs
def Cr (n:Zk):Prop:=∀r∈n.routines,∀i:Nat,(i:Int)∈r.lent->∃t,r.params[i]? = some t/\t≠0
theorem IY {ps:LI}:∀{ls:LI} {prev:Option Int},Qs ps ls prev=true->∀v∈ls,(0<=v/\v<=(ps.length:Int)-1)/\ps[v.toNat]?≠some 0
 | [],_,_,v,h=>by cases h
 | x::r,prev,h,v,hv=>by
  rw [Qs] at h
  split at h
  ·rename_i q
   rcases YB.1 hv with rfl|hv
   ·exact ⟨q.1,q.2.1⟩
   ·exact IY h v hv
  ·cases h
theorem L4:∀{rs:List Yg},KW rs=true->∀r∈rs,J9 r.params r.lent=true
 | [],_,r,h=>by cases h
 | x::rs,h,r,hr=>by
  rw [KW] at h
  split at h
  ·rcases YB.1 hr with rfl|hr
   ·assumption
   ·exact L4 h r hr
  ·cases h
theorem Pz {n:Zk} (h:VP n=true):Cr n:=by
 simp only [VP,QA,W7,decide_eq_true_eq] at h
 obtain ⟨_,_,h6⟩:=h
 intro r hr i hi
 obtain ⟨h1,h2⟩:=IY (L4 h6 r hr) i hi
 obtain ⟨t,ht⟩:=QQ (xs:=r.params) (j:=i) om
 refine ⟨t,ht,fun q=>h2 ?_⟩
 rw [VS,ht,q]
theorem GY {us:LI}:∀{args tys:LI} {i:Nat} {a t:Int},T4 us args tys=true->args[i]? = some a->tys[i]? = some t->Xx us a=some t
 | [],_,i,a,t,_,h,_=>by simp at h
 | x::r,[],i,a,t,_,_,h=>by simp at h
 | x::r,y::ys,i,a,t,h,ha,ht=>by
  rw [T4] at h
  split at h
  ·rename_i hq
   cases i with
   | zero=>simp at ha ht;subst ha;subst ht;exact hq
   | succ i=>exact GY h (by simpa using ha) (by simpa using ht)
  ·cases h
theorem Za6 {n:Zk} (hl:Cr n) {us:LI} {s:Z5} (h:0<=Yb n us s):∀(i:Nat) (a:Int),s.args[i]? = some a->WO n s.op s.num i=true->gI us a≠0:=by
 intro i a ha hla
 rw [WO,Au,decide_eq_true_iff] at hla
 by_cases h9:s.op=9
 ·rw [Zf h9] at hla
  have hn:=(Dq h).num h9
  obtain ⟨r,hr⟩:=QQ (xs:=n.routines) (j:=s.num.toNat) om
  rw [hr] at hla
  obtain ⟨t,ht,h0⟩:=hl r (ZX hr) i hla
  rw [JX] at h
  split at h
  ·omega
  rw [Z8 om,Z8 om,Z8 om,Z8 om,Z8 om,Z8 om,Zf (.inl h9),TC,Q6 om hr] at h
  simp only [Kq] at h
  rw [Zf h9] at h
  split at h
  ·rename_i hty
   rw [We] at hty
   have hq:Xx us a=some t:=by
    first
    | exact GY hty ha ht
    | exact GY (Bool.and_eq_true_iff.1 hty).2 ha ht
    | exact GY (Bool.and_eq_true_iff.1 hty).1 ha ht
   rw [Vk (KH hq).2];exact h0
  ·omega
 ·rw [Z8 h9] at hla;cases hla
end Go.Abs
namespace Go.Abs
theorem Zd7 {n:Zk} {us:LI} {s:Z5} (h:∀t∈us,0<=t) (h0:0<=Yb n us s):∀t∈Qi n us s,0<=t:=by
 rw [Qi];split
 ·exact Ec h fun t ht=>by rw [Xv.1 ht];exact h0
 ·exact h
end Go.Abs
namespace Go.Abs
theorem HI {c:Bool} {ok:Int->Prop}:Dy fun r h=>∃t:Int,r=.tup [.i t,.b c]/\h=[]/\ok t:=by
 rintro _ _ ⟨t,rfl,rfl,_⟩
 refine ⟨.tup fun y hy=>?_,by simp⟩
 simp only [YB,List.not_mem_nil,or_false] at hy
 rcases hy with rfl|rfl<;>exact .val
section
variable {n:Zk} {ln:LI} {L:Zp} {s:Z5}
theorem Z4v {op t:Int} {r:Option Zp} (h:¬XQ op=true):Kj L op t r=r:=by
 cases r with
 | none=>rfl
 | some X=>exact Z8 h
theorem Su {x:Int} (hc:YC s.op=true) (hx:gI s.args 0=x):Vo n ln L s=QL n ln L s.op x:=by
 have hop:14<=s.op/\s.op<=17:=by simpa [YC] using hc
 have hd:¬XQ s.op=true:=by rw [XQ];simp;omega
 rw [UA,Z4v hd,QL]
 by_cases h14:s.op=14
 ·rw [Zf h14];exact Li h14 hx
 rw [Z8 h14]
 by_cases h15:s.op=15
 ·rw [Zf h15];exact Lj h15 hx
 rw [Z8 h15]
 exact Lk om hx
theorem M5 {L1:Zp} {t:Int} (hP:Qu n ln L s=some L1) (h0:0<=Yb n L.vars s) (hnc:¬YC s.op=true) (ht:t=Yb n L.vars s):Vo n ln L s=some (L1.grow t (min t 1) (-1)):=by
 have hd:XQ s.op=true:=by rw [Ff h0];simpa using hnc
 rw [UA,hP]
 show (if XQ s.op=true then _ else _)=_
 rw [Zf hd,ht,show (if Yb n L.vars s≠0 then (1:Int) else 0)=min (Yb n L.vars s) 1 by split<;>omega]
theorem Sv (hP:Qu n ln L s=none):Vo n ln L s=none:=by rw [UA,hP];rfl
theorem Ll (h1:¬YC s.op=true) (h2:¬(s.op=7∨s.op=8)):Qu n ln L s=Us n ln L s.op s.num s.into s.args:=by
 have hop:¬(14<=s.op/\s.op<=17):=by simpa [YC] using h1
 rw [Qu,TX,Z8 om,Z8 om,Z8 om,Z8 h2]
theorem Zbj (h1:¬YC s.op=true) (h2:¬(s.op=7∨s.op=8)) (h3:¬Tb s.op=true) (h0:0<=Yb n L.vars s):Qu n ln L s=some L:=by
 rw [Ll h1 h2,Us,EA (all:=s.args) (args:=s.args) (i:=0) rfl,Ln h3]
 show (if KQ n s.op s.num ln L s.args 0=true then Kk L s.into s.args.length else none)=some L
 rw [Zf ((FI (all:=s.args) (args:=s.args) (i:=0) rfl).2 fun j x _ _ hl=>absurd hl (Pq h3 j)),Kk]
 have hi:¬0<s.into:=by
  intro hi
  rw [JX] at h0
  split at h0
  ·omega
  ·rename_i hq
   have hv:Um L.vars s.op s.into=true:=Vp.1 fun z=>hq (.inr (.inl z))
   rw [Um,Z8 om] at hv
   split at hv
   ·rename_i h6;exact h3 (by rw [h6];rfl)
   ·cases hv
 rw [Z8 hi]
end
end Go.Abs
namespace Go.Abs
def Tu (L:Zp) (am:List Xm) (s:Z5) (m:LI):List Xm:=if s.op=8 then am++[⟨gI s.args 0,(L.vars.length:Nat),m,false⟩] else am
def J5 (n:Zk) (L:Zp) (s:Z5) (k:Nat):Zp:=if s.op=8 then { L with con:=L.con.set (gI s.args 0).toNat (gI (ZY n.decls s.num) k),fst:=L.fst.set (gI s.args 0).toNat L.vars.length } else L
theorem Bu {n:Zk} {L:Zp} {s:Z5} {k:Nat}:(J5 n L s k).vars=L.vars:=by rw [J5];split<;>rfl
theorem Dn {n:Zk} {L:Zp} {s:Z5} {k:Nat}:(J5 n L s k).own=L.own:=by rw [J5];split<;>rfl
theorem Do {n:Zk} {L:Zp} {s:Z5} {k:Nat}:(J5 n L s k).tok=L.tok:=by rw [J5];split<;>rfl
theorem Sr {n:Zk} {L:Zp} {s:Z5} {k:Nat} (h:Wi L):Wi (J5 n L s k):=by rw [J5];split;exact h.arm;exact h
theorem Sq {n:Zk} {L:Zp} {s:Z5} {k:Nat} {m:LI} (hop:s.op=7∨s.op=8) (hm:(Xn n.decls s.op s.num)[k]? = some m):KO (J5 n L s k) (gI s.args 0) m=V5 n.decls L s.op s.num s.args k:=by
 rw [J5,V5]
 by_cases h8:s.op=8
 ·rw [Zf h8,Zf h8]
  obtain ⟨c,hc,rfl⟩:=HA h8 hm
  have hgc:gI (ZY n.decls s.num) (k:Int)=c:=by rw [gI];simp [hc]
  rw [KF,hgc]
 ·rw [Z8 h8,Z8 h8]
  rw [Xn,Zf om] at hm
  have:m=[]:=by
   match k,hm with
   | 0,hm=>simpa using hm.symm
   | 1,hm=>simpa using hm.symm
   | k+2,hm=>simp at hm
  rw [this];rfl
theorem MO {n:Zk} {L:Zp} {am:List Xm} {s:Z5} {k:Nat} {m:LI} (hn:X2 n) (ha:WP n.decls L am) (hl:Wi L) (hop:s.op=7∨s.op=8) (hx:0<=gI s.args 0/\gI s.args 0<L.vars.length) (hm:(Xn n.decls s.op s.num)[k]? = some m) :
  WP n.decls (V5 n.decls L s.op s.num s.args k) (Tu L am s m):=by
 rw [Tu,V5]
 by_cases h8:s.op=8
 ·rw [Zf h8,Zf h8]
  obtain ⟨c,hc,rfl⟩:=HA h8 hm
  have hgc:gI (ZY n.decls s.num) (k:Int)=c:=by rw [gI];simp [hc]
  rw [hgc]
  exact ha.arm hl hx (Nn hn.decls hc).1
 ·rw [Z8 h8,Z8 h8];exact ha
end Go.Abs
namespace Go.Abs
theorem GU {n:Zk}:∀{xs:List Z5} {us vs:LI},XB n xs us=some vs->us.length<=vs.length/\vs.length<=us.length+Y6 xs
 | [],us,vs,h=>by rw [XB] at h;cases h;simp [Y6]
 | s::r,us,vs,h=>by
  obtain ⟨_,g2⟩:=Ey h
  have:=GU g2
  have h2:=GH n us s
  rw [Y6];omega
theorem MN {L:Zp} {am:List Xm} {s:Z5} {m:LI}:(Tu L am s m).length<=am.length+1:=by rw [Tu];split<;>simp
theorem MP {n:Zk} (hty:KA n) {op num:Int} {k:Nat} {m:LI} (h:(Xn n.decls op num)[k]? = some m):∀f∈m,0<=f:=by
 by_cases h7:op=7
 ·rw [Xn,Zf h7] at h
  have:m=[]:=by
   match k,h with
   | 0,h=>simpa using h.symm
   | 1,h=>simpa using h.symm
   | k+2,h=>simp at h
  rw [this];intro f hf;cases hf
 ·rw [Xn,Z8 h7,T8] at h
  cases hc:(ZY n.decls num)[k]? with
  | none=>rw [hc] at h;cases h
  | some c=>rw [hc] at h;cases h;exact hty.fields c
theorem Fo {L:Zp} {r:Int}:(Wd L r).own.length=L.own.length/\(Wd L r).tok.length=L.tok.length/\(Wd L r).vars=L.vars:=by
 rw [Wd];split
 ·exact ⟨UQ,rfl,rfl⟩
 ·exact ⟨rfl,rfl,rfl⟩
end Go.Abs
namespace Go.Abs
theorem GW {L M:Zp} {n:Zk} {ln:LI} {xs:List Z5} {f:Zp->Option Zp} (h:XY n ln L xs=some M):Bz (XY n ln L xs) f=f M:=by rw [h];rfl
end Go.Abs
end
section
namespace Go.Abs
end Go.Abs
namespace Go.Abs
theorem LM {xs:LI} {k:Nat} {a b:Int} (h:xs.length=k):(xs++[a]).set k b=xs++[b]:=by subst h;simp
end Go.Abs
namespace Go.Abs
theorem Z1d {ds:List Zg}:WP ds ⟨[],[],[],[],[],[]⟩ []:=⟨fun a ha=>(nomatch ha),fun a ha=>(nomatch ha),fun v h0 h1=>(by have h2:v<((0:Nat):Int):=h1;omega),fun v h0 h1=>(by have h2:v<((0:Nat):Int):=h1;omega)⟩
theorem R0 {ds:List Zg} {lent:LI}:∀{ps:LI} {i:Nat} {L:Zp},Wi L->WP ds L []->WP ds (Qf lent ps i L) []
 | [],_,_,_,h=>h
 | t::r,i,L,hl,h=>by rw [Qf];exact R0 hl.grow (h.grow hl)
theorem Px {ds:List Zg} (rt:Yg):WP ds (VV rt) []:=R0 ⟨rfl,rfl,rfl,rfl,rfl⟩ Z1d
end Go.Abs
end
section
namespace Go.Abs
end Go.Abs
namespace Go.Abs
end Go.Abs
namespace Go.Abs
end Go.Abs
namespace Go.Abs
end Go.Abs
end
namespace Go.Abs
def Zx (op v:Int):Z5:=.mk op 0 0 [v] []
def UY (ds:List Zg) (num:Int) (k:Nat):LI:=((ZY ds num).map (ZV ds))[k]?.getD []
section
variable {ds:List Zg} {am:List Xm} {m:Nat}
end
theorem NR {ds:List Zg} {num:Int} {k:Nat} {m:LI} (h:((ZY ds num).map (ZV ds))[k]? = some m):UY ds num k=m:=by rw [UY,h];rfl
theorem Z4u {ds:List Zg} (hd:Wr ds) (num:Int) (k:Nat):(UY ds num k).length<=3:=by
 rw [UY,T8]
 cases (ZY ds num)[k]? with
 | none=>simp
 | some c=>exact VZ hd c
theorem M4 {xs:List Z5} {k:Nat} {s:Z5} (h:xs[k]? = some s):Y6 (xs.take (k+1))=Y6 (xs.take k)+s.sz:=by
 induction xs generalizing k with
 | nil=>simp at h
 | cons t r ih=>
  cases k with
  | zero=>simp at h;subst h;simp [Y6]
  | succ k=>rw [BG,BG,Y6,Y6,ih (by simpa using h)];omega
theorem Qy (xs:List Z5) (k:Nat):Y6 (xs.take k)<=Y6 xs:=by
 induction xs generalizing k with
 | nil=>simp
 | cons t r ih=>
  cases k with
  | zero=>simp [Y6]
  | succ k=>have:=ih k;rw [BG,Y6,Y6];omega
theorem Zd5 {n:Zk} {us:LI} {s:Z5} (g:0<=Yb n us s) (h:YC s.op=true):Qi n us s=us:=by rw [Qi,Ff g,h];rfl
theorem Zd4 {n:Zk} {us:LI} {s:Z5} (g:0<=Yb n us s) (h:¬YC s.op=true):(Qi n us s).length=us.length+1:=by
 rw [Qi,Ff g,Jd.2 h];simp
theorem Zd6 {n:Zk} {us:LI} {s:Z5} (g:0<=Yb n us s):(Qi n us s).length=if YC s.op=true then us.length else us.length+1:=by
 split
 ·rw [Zd5 g (by assumption)]
 ·exact Zd4 g (by assumption)

theorem TD:∀(xs ys:List Z5),Y6 (xs++ys)=Y6 xs+Y6 ys
 | [],ys=>by simp [Y6]
 | x::r,ys=>by rw [QC,Y6,Y6,TD r ys];omega
theorem F8 (op v:Int):(Zx op v).sz=2:=by rw [Zx,Z5.sz];simp [X6]
theorem M2 (op:Int):∀l:LI,Y6 (l.map (Zx op))=2*l.length
 | []=>by simp [Y6]
 | x::r=>by rw [Un,Y6,F8,M2 op r,YQ];omega
section
variable {ds:List Zg} (hd:Wr ds)
include hd
end
section
variable {ds:List Zg} {cons first:LI}
end
section
variable {ds:List Zg} (hd:Wr ds)
include hd
end
def XU:List Z5->Nat
 | []=>0
 | s::r=>if s.op=14∨s.op=15 then XU r+1 else 0
def WD (op:Int):List Z5->LI
 | []=>[]
 | s::r=>if s.op=op then gI s.args 0::WD op r else WD op r
def T3:LI->Int->LI->LI->LI × LI
 | [],_,D,R=>(D,R)
 | f::r,q,D,R=>if f≠0/\q∈D then T3 r (q+1) (D.erase q) R else if f≠0 then T3 r (q+1) D (R++[q]) else T3 r (q+1) D R
def Ay (xs:List Z5) (x:Int) (fs:LI) (q:Int):LI × LI:=T3 fs q (WD 14 (xs.take (XU xs))) ((WD 15 (xs.take (XU xs))).erase x)
def JC (xs:List Z5) (x:Int) (fs:LI) (q:Int):List Z5:=
 if x∈WD 15 (xs.take (XU xs))/\fs.length≠0 then (Ay xs x fs q).1.map (Zx 14)++[Zx 16 x]++(Ay xs x fs q).2.map (Zx 15)++xs.drop (XU xs) else xs
def Je (b:Z7) (x:Int) (fs:LI) (q:Int):Z7:=.mk (JC b.steps x fs q) b.result
theorem Gw:∀xs:List Z5,XU xs<=xs.length
 | []=>X5 _
 | s::r=>by have:=Gw r;rw [XU];split<;>simp<;>omega
theorem Rz:∀{xs:List Z5} {s:Z5},s∈xs.take (XU xs)->s.op=14∨s.op=15
 | [],s,h=>by simp [XU] at h
 | t::r,s,h=>by
  rw [XU] at h
  split at h
  ·rename_i q
   rw [BG] at h
   rcases YB.1 h with rfl|h
   ·exact q
   ·exact Rz h
  ·simp at h
theorem Hz:∀xs:List Z5,(WD 14 xs).length+(WD 15 xs).length<=xs.length
 | []=>by simp [WD]
 | s::r=>by
  have:=Hz r
  rw [WD,WD]
  by_cases h:s.op=14
  ·rw [Zf h,Z8 om];simp;omega
  ·rw [Z8 h];split<;>simp<;>omega
theorem Gn:∀(fs:LI) (q:Int) (D R:LI),(T3 fs q D R).1.length+(T3 fs q D R).2.length<=D.length+R.length+fs.length
 | [],q,D,R=>by simp [T3]
 | f::r,q,D,R=>by
  rw [T3,YQ]
  split
  ·have:=Gn r (q+1) (D.erase q) R
   have h2:=List.length_erase_le (a:=q) (l:=D)
   omega
  ·split
   ·have:=Gn r (q+1) D (R++[q])
    simp only [Yq,YQ,Xu] at this
    omega
   ·have:=Gn r (q+1) D R
    omega
theorem Zb8 {xs:List Z5} {x:Int} {fs:LI} {q:Int} (h:x∈WD 15 (xs.take (XU xs))) (hf:fs.length<=3):(Ay xs x fs q).1.length+(Ay xs x fs q).2.length<=XU xs+2:=by
 have h1:=Gn fs q (WD 14 (xs.take (XU xs))) ((WD 15 (xs.take (XU xs))).erase x)
 have h2:=Hz (xs.take (XU xs))
 have h3:=List.length_pos_of_mem h
 rw [List.length_erase_of_mem h] at h1
 rw [WC] at h2
 have h4:=Gw xs
 unfold Ay
 omega
theorem Zep (xs:List Z5) (k:Nat):Y6 xs=Y6 (xs.take k)+Y6 (xs.drop k):=by rw [<-TD,UB]
theorem Sl:∀xs:List Z5,(∀s∈xs,2<=s.sz)->2*xs.length<=Y6 xs
 | [],_=>by simp
 | s::r,h=>by
  have h1:=Sl r fun t ht=>h t (XD _ ht)
  have h2:=h s (Xf ..)
  rw [Y6,YQ];omega
theorem Z0z {xs:List Z5} {x:Int} {fs:LI} {q:Int} (hf:fs.length<=3) (h:∀s∈xs,s.op=14∨s.op=15->2<=s.sz):Y6 (JC xs x fs q)<=Y6 xs+6:=by
 rw [JC]
 split
 ·rename_i hc
  have h1:=Zb8 (q:=q) hc.1 hf
  have h2:=Sl (xs.take (XU xs)) fun s hs=>h s (TN hs) (Rz hs)
  have h3:=Zep xs (XU xs)
  have h4:=Gw xs
  rw [WC] at h2
  rw [TD,TD,TD,M2,M2,Y6,Y6,F8]
  omega
 ·omega
def Cn (s:Z5):Prop:=s=Zx s.op (gI s.args 0)
theorem Z0y {xs:List Z5} {m:Int} {fs:LI} {q:Int} (h:¬(m∈WD 15 (xs.take (XU xs))/\fs.length≠0)):JC xs m fs q=xs:=Z8 h
end Go.Abs
section
namespace Go.Abs
mutual
def AC (ds:List Zg) (m:Nat):Z5->Z5
 | .mk op num into args kids=>.mk op num into args (To ds m op num args kids 0)
def To (ds:List Zg) (m:Nat) (op num:Int) (args:LI):List Z7->Nat->List Z7
 | [],_=>[]
 | b::r,k=>(if op=8 then Je (V6 ds (m+(UY ds num k).length) b) (gI args 0) (UY ds num k) m else V6 ds m b)::To ds m op num args r (k+1)
def Uy (ds:List Zg) (m:Nat):List Z5->List Z5
 | []=>[]
 | s::r=>AC ds m s::Uy ds (if YC s.op=true then m else m+1) r
def V6 (ds:List Zg) (m:Nat):Z7->Z7
 | .mk steps result=>.mk (Uy ds m steps) result
end
def GN (ds:List Zg) (m:Nat) (op num:Int) (args:LI) (k:Nat) (b:Z7):Z7:=if op=8 then Je (V6 ds (m+(UY ds num k).length) b) (gI args 0) (UY ds num k) m else V6 ds m b
theorem LU (ds:List Zg) (m:Nat) (s:Z5):AC ds m s=.mk s.op s.num s.into s.args (To ds m s.op s.num s.args s.kids 0):=by cases s;rw [AC];rfl
theorem GK (ds:List Zg) (m:Nat) (b:Z7):V6 ds m b=.mk (Uy ds m b.steps) b.result:=by cases b;rw [V6];rfl
section
variable {ds:List Zg} {m:Nat}
theorem Zdp {xs acc r:List Z5} {k:Nat} {s:Z5} (h:xs[k]? = some s) (ha:acc++Uy ds m (xs.drop k)=r) :
  (acc++[.mk s.op s.num s.into s.args (To ds m s.op s.num s.args s.kids 0)])++Uy ds (if YC s.op=true then m else m+1) (xs.drop (k+1))=r:=by
 rw [Y7 h,Uy,LU] at ha
 rw [<-ha];simp
theorem Zdo {xs acc r:List Z5} {k:Nat} (h:xs.length<=k) (ha:acc++Uy ds m (xs.drop k)=r):acc=r:=by
 rw [Xh h,Uy,Jw] at ha;exact ha
theorem RU {op num:Int} {args:LI} {bs acc r:List Z7} {k:Nat} {b:Z7} (h:bs[k]? = some b) (ha:acc++To ds m op num args (bs.drop k) k=r) :
  (acc++[GN ds m op num args k b])++To ds m op num args (bs.drop (k+1)) (k+1)=r:=by
 rw [Y7 h,To] at ha
 rw [<-ha,GN];simp
theorem Zdl {op num:Int} {args:LI} {bs acc r:List Z7} {k j:Nat} (h:bs.length<=k) (ha:acc++To ds m op num args (bs.drop k) j=r):acc=r:=by
 rw [Xh h,To,Jw] at ha;exact ha
end
mutual
def wS (ds:List Zg):Z5->Prop
 | .mk op num into args kids=>(XQ op=!YC op)/\(YC op=true->num=0/\into=0/\kids=[]/\∃a,args=[a])/\(op=8->(∃a,args=[a]/\0<=a/\a<=900000000)/\kids.length=(ZY ds num).length)/\AH ds kids
def AH (ds:List Zg):List Z7->Prop
 | []=>True
 | b::r=>wB ds b/\AH ds r
def K8 (ds:List Zg):List Z5->Prop
 | []=>True
 | s::r=>wS ds s/\K8 ds r
def wB (ds:List Zg):Z7->Prop
 | .mk steps _=>K8 ds steps
end
section
variable {ds:List Zg}
theorem Ju (s:Z5):wS ds s↔(XQ s.op=!YC s.op)/\(YC s.op=true->s.num=0/\s.into=0/\s.kids=[]/\∃a,s.args=[a])/\(s.op=8->(∃a,s.args=[a]/\0<=a/\a<=900000000)/\s.kids.length=(ZY ds s.num).length)/\AH ds s.kids:=by cases s;rw [wS];rfl
theorem Jc (b:Z7):wB ds b↔K8 ds b.steps:=by cases b;rw [wB];rfl
theorem AI:∀{xs:List Z5},K8 ds xs↔∀s∈xs,wS ds s
 | []=>by simp [K8]
 | s::r=>by rw [K8,AI];simp
theorem H4:∀{xs:List Z7},AH ds xs↔∀s∈xs,wB ds s
 | []=>by simp [AH]
 | s::r=>by rw [AH,H4];simp
theorem SW {b:Z7} {k:Nat} {s:Z5} (h:wB ds b) (hs:b.steps[k]? = some s):wS ds s:=AI.1 ((Jc b).1 h) s (ZX hs)
theorem Ml {s:Z5} {k:Nat} {b:Z7} (h:wS ds s) (hb:s.kids[k]? = some b):wB ds b:=H4.1 ((Ju s).1 h).2.2.2 b (ZX hb)
theorem H5 {s:Z5} (h:wS ds s) (hc:YC s.op=true):Cn s/\s.kids=[]/\∃a,s.args=[a]:=by
 obtain ⟨h1,h2,h3,a,h4⟩:=((Ju s).1 h).2.1 hc
 refine ⟨?_,h3,a,h4⟩
 cases s with
 | mk op num into args kids=>
  simp only [Z5.num,Z5.into,Z5.kids,Z5.args] at h1 h2 h3 h4
  subst h1 h2 h3 h4
  rfl
theorem Zgf {op v:Int} (h:op=14∨op=15∨op=16):wS ds (Zx op v):=(Ju _).2 ⟨by show XQ op=!YC op;rcases h with rfl|rfl|rfl<;>rfl,fun _=>⟨rfl,rfl,rfl,v,rfl⟩,fun e=>absurd e (show op≠8 by omega),True.intro⟩
theorem Zgg {s:Z5} (h:wS ds s):XQ s.op=!YC s.op:=((Ju s).1 h).1
theorem ED {s:Z5} (h:wS ds s) (h8:s.op=8):(∃a,s.args=[a]/\0<=a/\a<=900000000)/\s.kids.length=(ZY ds s.num).length:=((Ju s).1 h).2.2.1 h8
theorem Hg {xs:List Z5} (h:K8 ds xs):∀s∈xs,YC s.op=true->Cn s:=fun s hs hc=>(H5 (AI.1 h s hs) hc).1
end
section
variable {n:Zk}
end
mutual
def Z5.pz:Z5->Nat
 | .mk _ _ _ args kids=>1+args.length+Dg kids
def Z7.pz:Z7->Nat
 | .mk steps _=>1+Dh steps
def Dh:List Z5->Nat
 | []=>0
 | s::r=>s.pz+Dh r
def Dg:List Z7->Nat
 | []=>0
 | b::r=>b.pz+8+Dg r
end
mutual
theorem Z5.pz_le:∀s:Z5,s.pz<=9*s.sz
 | .mk _ _ _ args kids=>by have:=R7 kids;rw [Z5.pz,Z5.sz];omega
theorem Z7.pz_le:∀b:Z7,b.pz+8<=9*b.sz
 | .mk steps _=>by have:=R8 steps;rw [Z7.pz,Z7.sz];omega
theorem R8:∀xs:List Z5,Dh xs<=9*Y6 xs
 | []=>Ka _
 | s::r=>by have:=s.pz_le;have:=R8 r;rw [Dh,Y6];omega
theorem R7:∀xs:List Z7,Dg xs<=9*X6 xs
 | []=>Ka _
 | s::r=>by have:=s.pz_le;have:=R7 r;rw [Dg,X6];omega
end
section
variable {ds:List Zg}
theorem Z2m {op:Int} (h:op=14∨op=15):YC op=true:=by rw [YC];simp;omega
theorem Zdq {xs:List Z5}:∀{m:Nat},K8 ds xs->∀s∈Uy ds m xs,s.op=14∨s.op=15->2<=s.sz:=by
 induction xs with
 | nil=>intro m _ s hs;simp [Uy] at hs
 | cons t r ih=>
  intro m h s hs ho
  rw [Uy] at hs
  rcases YB.1 hs with rfl|hs
  ·rw [LU] at ho ⊢
   obtain ⟨_,_,a,ha⟩:=H5 h.1 (Z2m ho)
   rw [Z5.sz,ha];simp
  ·exact ih h.2 s hs ho
variable (hd:Wr ds)
include hd
mutual
theorem Zdm:∀(s:Z5) {m:Nat},wS ds s->(AC ds m s).sz<=s.pz
 | .mk op num into args kids,m,h=>by
  have:=RX kids (m:=m) (op:=op) (num:=num) (args:=args) (k:=0) h.2.2.2
  rw [AC,Z5.sz,Z5.pz];omega
theorem RX:∀(bs:List Z7) {m:Nat} {op num:Int} {args:LI} {k:Nat},AH ds bs->X6 (To ds m op num args bs k)<=Dg bs
 | [],_,_,_,_,_,_=>X5 _
 | b::r,m,op,num,args,k,h=>by
  have h2:=RX r (m:=m) (op:=op) (num:=num) (args:=args) (k:=k+1) h.2
  rw [To,X6,Dg]
  split
  ·have h1:=GM b (m:=m+(UY ds num k).length) h.1
   have h3:=Z0z (xs:=(V6 ds (m+(UY ds num k).length) b).steps) (x:=gI args 0) (q:=(m:Int)) (Z4u hd num k) (by rw [GK];exact Zdq ((Jc b).1 h.1))
   rw [Je,Z7.sz]
   rw [Z7.sz_eq] at h1
   omega
  ·have h1:=GM b (m:=m) h.1
   omega
theorem RY:∀(xs:List Z5) {m:Nat},K8 ds xs->Y6 (Uy ds m xs)<=Dh xs
 | [],_,_=>X5 _
 | s::r,m,h=>by
  have h1:=Zdm s (m:=m) h.1
  have h2:=RY r (m:=if YC s.op=true then m else m+1) h.2
  rw [Uy,Y6,Dh];omega
theorem GM:∀(b:Z7) {m:Nat},wB ds b->(V6 ds m b).sz<=b.pz
 | .mk steps result,m,h=>by
  have:=RY steps (m:=m) h
  rw [V6,Z7.sz,Z7.pz];omega
end
end
section
variable {ds:List Zg} {m:Nat}
end
def Bq (ds:List Zg) (r:Yg):Yg:=⟨r.params,r.lent,r.result,V6 ds r.params.length r.body⟩
def GO (n:Zk):Zk:=⟨n.decls,n.routines.map (Bq n.decls)⟩
end Go.Abs
namespace Go.Abs
theorem Zcp {xs:List Z5} {k:Nat} {s:Z5} {r:Nat} (h:xs[k]? = some s) (hs:s.op=14∨s.op=15) (ha:k+XU (xs.drop k)=r):k+1+XU (xs.drop (k+1))=r:=by
 rw [Y7 h,XU,Zf hs] at ha;omega
theorem Zcq {xs:List Z5} {k:Nat} {s:Z5} {r:Nat} (h:xs[k]? = some s) (hs:¬(s.op=14∨s.op=15)) (ha:k+XU (xs.drop k)=r):k=r:=by
 rw [Y7 h,XU,Z8 hs] at ha;omega
theorem Zco {xs:List Z5} {k:Nat} {r:Nat} (h:xs.length<=k) (ha:k+XU (xs.drop k)=r):k=r:=by
 rw [Xh h,XU] at ha;omega
theorem Z1a {op:Int} {xs:List Z5} {acc r:LI} {k:Nat} {s:Z5} (h:xs[k]? = some s) (hs:s.op=op) (ha:acc++WD op (xs.drop k)=r):(acc++[gI s.args 0])++WD op (xs.drop (k+1))=r:=by
 rw [Y7 h,WD,Zf hs] at ha;rw [<-ha];simp
theorem Z19 {op:Int} {xs:List Z5} {acc r:LI} {k:Nat} {s:Z5} (h:xs[k]? = some s) (hs:¬s.op=op) (ha:acc++WD op (xs.drop k)=r):acc++WD op (xs.drop (k+1))=r:=by
 rw [Y7 h,WD,Z8 hs] at ha;exact ha
theorem Z18 {op:Int} {xs:List Z5} {acc r:LI} {k:Nat} (h:xs.length<=k) (ha:acc++WD op (xs.drop k)=r):acc=r:=by
 rw [Xh h,WD,Jw] at ha;exact ha
theorem Z4q {xs acc r:LI} {y:Int} {k:Nat} {x:Int} {d:Bool} (h:xs[k]? = some x) (ha:acc++(if d=true then xs.drop k else (xs.drop k).erase y)=r) :
  (if x=y/\¬d=true then acc else acc++[x])++(if ((x==y&&!d)||d)=true then xs.drop (k+1) else (xs.drop (k+1)).erase y)=r:=by
 rw [Y7 h] at ha
 rw [<-ha]
 by_cases hd:d=true
 ·simp [hd]
 ·by_cases hx:x=y
  ·simp [hd,hx]
  ·rw [Z8 (fun z=>hx z.1),Z8 hd,List.erase_cons_tail (by simpa using hx)]
   simp [hd,hx]
theorem Z4p {xs acc r:LI} {y:Int} {k:Nat} {d:Bool} (h:xs.length<=k) (ha:acc++(if d=true then xs.drop k else (xs.drop k).erase y)=r):acc=r:=by
 rw [Xh h] at ha;simpa using ha
section
variable {fs D R:LI} {q k:Nat} {f:Int} {r:LI × LI}
theorem Zba (h:fs[k]? = some f) (h0:f≠0) (hm:((q+k:Nat):Int)∈D) (ha:T3 (fs.drop k) (q+k) D R=r):T3 (fs.drop (k+1)) (q+((k+1:Nat):Int)) (D.erase ((q+k:Nat):Int)) R=r:=by
 rw [Y7 h,T3,Zf ⟨h0,by rw [<-Int.natCast_add];exact hm⟩,<-Int.natCast_add] at ha
 rw [<-ha];congr 1
theorem Zbb (h:fs[k]? = some f) (h0:f≠0) (hm:¬((q+k:Nat):Int)∈D) (ha:T3 (fs.drop k) (q+k) D R=r):T3 (fs.drop (k+1)) (q+((k+1:Nat):Int)) D (R++[((q+k:Nat):Int)])=r:=by
 rw [Y7 h,T3,Z8 (fun z=>hm (by rw [Int.natCast_add];exact z.2)),Zf h0,<-Int.natCast_add] at ha
 rw [<-ha];congr 1
theorem Zbc (h:fs[k]? = some f) (h0:¬f≠0) (ha:T3 (fs.drop k) (q+k) D R=r):T3 (fs.drop (k+1)) (q+((k+1:Nat):Int)) D R=r:=by
 rw [Y7 h,T3,Z8 (fun z=>h0 z.1),Z8 h0] at ha
 rw [<-ha];congr 1
theorem Zb9 (h:fs.length<=k) (ha:T3 (fs.drop k) (q+k) D R=r):r=(D,R):=by
 rw [Xh h,T3] at ha;exact ha.symm
end
theorem Z10 {xs:List Z5} {x:Int} {fs:LI} {q:Int} {D R:LI} (h1:x∈WD 15 (xs.take (XU xs))) (h2:fs.length≠0) (hr:Ay xs x fs q=(D,R)):D.map (Zx 14)++[Zx 16 x]++R.map (Zx 15)++xs.drop (XU xs)=JC xs x fs q:=by
 rw [JC,Zf ⟨h1,h2⟩,hr]
theorem Zdn {ds:List Zg} {xs:List Z5}:∀{m:Nat},K8 ds xs->∀s∈Uy ds m xs,YC s.op=true->∃a,s.args=[a]:=by
 induction xs with
 | nil=>intro m _ s hs;simp [Uy] at hs
 | cons t r ih=>
  intro m h s hs ho
  rw [Uy] at hs
  rcases YB.1 hs with rfl|hs
  ·rw [LU] at ho ⊢
   exact (H5 h.1 ho).2.2
  ·exact ih h.2 s hs ho
end Go.Abs
end
namespace Go.Abs
mutual
def Z2.sz:Z2->Nat
 | .mk _ _ kids=>1+Xy kids
def Xy:List Z2->Nat
 | []=>0
 | e::r=>e.sz+Xy r
end
theorem Z2.sz_eq (e:Z2):e.sz=1+Xy e.kids:=by cases e;rw [Z2.sz];rfl
theorem DP:∀xs ys:List Z2,Xy (xs++ys)=Xy xs+Xy ys
 | [],ys=>by simp [Xy]
 | x::r,ys=>by rw [QC,Xy,Xy,DP r];omega
theorem BX:∀{xs:List Z2} {k:Nat} {e:Z2},xs[k]? = some e->e.sz<=Xy xs
 | [],k,e,h=>by simp at h
 | x::r,0,e,h=>by simp at h;subst h;rw [Xy];omega
 | x::r,k+1,e,h=>by have:=BX (xs:=r) (k:=k) (by simpa using h);rw [Xy];omega
theorem NK:∀{xs:List Z2},xs.length<=Xy xs
 | []=>Ka _
 | x::r=>by have:=NK (xs:=r);have:=x.sz_eq;rw [Xy,YQ];omega
def Ae:Zg:=⟨0,0,[⟨[]⟩,⟨[0,1]⟩]⟩
def Af:Zg:=⟨0,0,[⟨[]⟩,⟨[3,0,3]⟩]⟩
def Nu:List Zg:=[⟨0,0,[⟨[1,3]⟩]⟩,⟨1,0,[]⟩,⟨0,0,[⟨[1,1,0]⟩,⟨[0]⟩,⟨[3]⟩]⟩,⟨0,1,[]⟩]
def An:List (List Zg):=[[Ae,⟨0,0,[]⟩,Af],[Ae,⟨0,0,[]⟩,Af,⟨0,0,[⟨[1,3]⟩]⟩],[Ae,⟨0,0,[]⟩,Af,⟨1,0,[]⟩],[Ae,⟨0,0,[]⟩,Af,⟨0,0,[⟨[1,1,0]⟩,⟨[0]⟩,⟨[3]⟩]⟩],[Ae,⟨0,0,[]⟩,Af,⟨0,1,[]⟩]]
def GD (ds:List Zg):Prop:=ds∈An
theorem GD.ok {ds:List Zg} (h:GD ds):Wr ds:=by
 have k:=(by decide:∀ds∈An,ds.length<=4/\(∀d∈ds,d.cons.length<=3)/\∀d∈ds,∀c∈d.cons,c.fields.length<=3) ds h
 exact ⟨k.1,k.2.1,k.2.2⟩
theorem GD.len {ds:List Zg} (h:GD ds):3<=ds.length/\ds.length<=4:=by
 exact (by decide:∀ds∈An,3<=ds.length/\ds.length<=4) ds h
def KX (t:Int):Prop:=t=0∨t=1∨t=3
instance (t:Int):Decidable (KX t):=inferInstanceAs (Decidable (_∨_∨_))
theorem GD.low {ds:List Zg} (h:GD ds):ZY ds 0=[]/\ZY ds 1=[0,1]/\ZY ds 2=[]/\ZY ds 3=[2,3]/\ZV ds 0=[]/\ZV ds 1=[0,1]/\ZV ds 2=[]/\ZV ds 3=[3,0,3]:=
 (by decide:∀ds∈An,ZY ds 0=[]/\ZY ds 1=[0,1]/\ZY ds 2=[]/\ZY ds 3=[2,3]/\ZV ds 0=[]/\ZV ds 1=[0,1]/\ZV ds 2=[]/\ZV ds 3=[3,0,3]) ds h
theorem GD.fields {ds:List Zg} (h:GD ds):∀c∈ZY ds 1++(ZY ds 3++ZY ds 4),∀t∈ZV ds c,KX t:=
 (by decide:∀ds∈An,∀c∈ZY ds 1++(ZY ds 3++ZY ds 4),∀t∈ZV ds c,KX t) ds h
theorem GD.cons_cases {ds:List Zg} (h:GD ds) {t:Int} {c:Int} (hc:c∈ZY ds t):(0<=c/\c<=9)/\(t=1∨t=3∨t=4)/\(ZV ds c).length<=3/\∀u∈ZV ds c,KX u:=by
 have ht:1<=t/\t<=ds.length:=by
  by_cases q:1<=t/\t<=ds.length
  ·exact q
  ·rw [ZY,Z8 q] at hc;cases hc
 have hl:=h.len
 have hlow:=h.low
 have key:∀c∈ZY ds 1++(ZY ds 3++ZY ds 4),0<=c/\c<=9:=
  (by decide:∀ds∈An,∀c∈ZY ds 1++(ZY ds 3++ZY ds 4),0<=c/\c<=9) ds h
 have h4:t=1∨t=2∨t=3∨t=4:=by omega
 have hf:=h.fields
 have hd:=VZ h.ok c
 rcases h4 with rfl|rfl|rfl|rfl
 ·exact ⟨key c (X7.2 (.inl hc)),.inl rfl,hd,hf c (X7.2 (.inl hc))⟩
 ·rw [hlow.2.2.1] at hc;cases hc
 ·exact ⟨key c (X7.2 (.inr (X7.2 (.inl hc)))),.inr (.inl rfl),hd,hf c (X7.2 (.inr (X7.2 (.inl hc))))⟩
 ·exact ⟨key c (X7.2 (.inr (X7.2 (.inr hc)))),.inr (.inr rfl),hd,hf c (X7.2 (.inr (X7.2 (.inr hc))))⟩
def JB:List (LI × Int):=[([],0),([1],0),([1,1],1),([1],1),([1,0],1),([2,1],1),([1,1],0),([3],0),([0],1),([0,1],1),([3,0],3),([3],1),([1,3,0],0),([0],0),([0,0],0),([1,0],0)]
def Tq (f:Func):Prop:=(f.params,f.result)∈JB
theorem Tq.bd {f:Func} (h:Tq f):f.params.length<=3/\(∀t∈f.params,0<=t/\t<=3)/\KX f.result:=by
 have key:∀q∈JB,q.1.length<=3/\(∀t∈q.1,0<=t/\t<=3)/\KX q.2:=by decide
 exact key _ h
theorem Tq.clo {ds:List Zg} {f:Func} (hd:GD ds) (h:Tq f) (hp:0<Ue ds (gI f.params ((f.params.length:Int)-1)) f.result):∀t∈f.params.dropLast,KX t:=by
 have key:∀q∈JB,0<Ue ds (gI q.1 ((q.1.length:Int)-1)) q.2->∀t∈q.1.dropLast,KX t:=
  (by decide +kernel:∀ds∈An,∀q∈JB,0<Ue ds (gI q.1 ((q.1.length:Int)-1)) q.2->∀t∈q.1.dropLast,KX t) ds hd
 exact key _ h hp
structure GP (p:Wa):Prop where
 decls:GD p.decls
 len:1<=p.funcs.length/\p.funcs.length<=4
 sigs:∀f∈p.funcs,Tq f
def TZ (ds:List Zg) (op num:Int) (m:Nat) (k:Nat):Nat:=
 if op=13 then m+k else if op=8 then (if k=0 then m else m+(ZV ds (gI (ZY ds num) ((k:Int)-1))).length) else m
mutual
def eW (ds:List Zg) (nf:Nat):Nat->Z2->Prop
 | m,.mk op num kids=>(0<=op/\op<=13)/\(op=12->kids=[]/\0<=num/\num<m)/\(op=13->kids.length=2)/\(op=7->kids.length=3)/\(op=8->kids.length=1+(ZY ds num).length)/\(op=9->0<=num/\num<nf)/\(-2000<=num/\num<=2000)/\kids.length<=4 /\
  QN ds nf (TZ ds op num m) 0 kids
def QN (ds:List Zg) (nf:Nat) (sc:Nat->Nat):Nat->List Z2->Prop
 | _,[]=>True
 | k,e::r=>eW ds nf (sc k) e/\QN ds nf sc (k+1) r
end
theorem Z4i {ds:List Zg} {nf m:Nat} (e:Z2):eW ds nf m e↔(0<=e.op/\e.op<=13)/\(e.op=12->e.kids=[]/\0<=e.num/\e.num<m)/\(e.op=13->e.kids.length=2)/\(e.op=7->e.kids.length=3)/\(e.op=8->e.kids.length=1+(ZY ds e.num).length)/\(e.op=9->0<=e.num/\e.num<nf)/\(-2000<=e.num/\e.num<=2000)/\e.kids.length<=4 /\
  QN ds nf (TZ ds e.op e.num m) 0 e.kids:=by cases e;rw [eW];rfl
theorem CM {ds:List Zg} {nf:Nat} {sc:Nat->Nat}:∀{xs:List Z2} {j k:Nat} {e:Z2},QN ds nf sc j xs->xs[k]? = some e->eW ds nf (sc (j+k)) e
 | [],j,k,e,_,h=>by simp at h
 | x::r,j,0,e,hw,h=>by simp at h;subst h;exact hw.1
 | x::r,j,k+1,e,hw,h=>by
  have:=CM (xs:=r) (j:=j+1) (k:=k) hw.2 (by simpa using h)
  rw [show j+(k+1)=j+1+k by omega];exact this
theorem NF {ds:List Zg} {nf:Nat} {sc:Nat->Nat}:∀{xs ys:List Z2} {j:Nat},QN ds nf sc j (xs++ys)↔QN ds nf sc j xs/\QN ds nf sc (j+xs.length) ys
 | [],ys,j=>by simp [QN]
 | x::r,ys,j=>by
  rw [QC,QN,QN,NF (xs:=r),and_assoc,YQ,show j+1+r.length=j+(r.length+1) by omega]
theorem I8 {ds:List Zg} {nf m:Nat} {sc:Nat->Nat} (hs:∀k,sc k=m):∀{xs:List Z2} {j:Nat},(∀e∈xs,eW ds nf m e)->QN ds nf sc j xs
 | [],_,_=>True.intro
 | x::r,j,h=>⟨by rw [hs];exact h x (Xf ..),I8 hs fun e he=>h e (XD _ he)⟩
theorem BW {ds:List Zg} {nf m:Nat} {op num:Int} {kids:List Z2} (ho:0<=op/\op<=11/\op≠7/\op≠8) (hc:op=9->0<=num/\num<nf) (hn:-2000<=num/\num<=2000) (hl:kids.length<=4) (hk:∀e∈kids,eW ds nf m e):eW ds nf m (.mk op num kids):=by
 rw [eW]
 refine ⟨by omega,fun h=>by omega,fun h=>by omega,fun h=>by omega,fun h=>by omega,hc,hn,hl,I8 (m:=m) (fun k=>?_) hk⟩
 rw [TZ,Z8 om,Z8 om]
theorem Z4j {ds:List Zg} {nf m:Nat} {z:Int} (hz:-2000<=z/\z<=2000):eW ds nf m (.mk 0 z []):=BW om (fun h=>by omega) hz (by simp) (fun e he=>by cases he)
theorem Z4k {ds:List Zg} {nf m:Nat} {z:Int} (hz:0<=z/\z<m) (hm:m<=2000):eW ds nf m (.mk 12 z []):=by
 rw [eW]
 exact ⟨by omega,fun _=>⟨rfl,hz⟩,fun h=>by omega,fun h=>by omega,fun h=>by omega,fun h=>by omega,by omega,by simp,True.intro⟩
theorem ND {ds:List Zg} {nf m:Nat} {num:Int} {kids:List Z2} (hn:-2000<=num/\num<=2000) (hl:kids.length=3) (hk:∀e∈kids,eW ds nf m e):eW ds nf m (.mk 7 num kids):=by
 rw [eW]
 refine ⟨by omega,fun h=>by omega,fun h=>by omega,fun _=>hl,fun h=>by omega,fun h=>by omega,hn,by omega,I8 (m:=m) (fun k=>?_) hk⟩
 rw [TZ,Z8 om,Z8 om]
theorem NE {ds:List Zg} {nf m:Nat} {num:Int} {a b:Z2} (hn:-2000<=num/\num<=2000) (ha:eW ds nf m a) (hb:eW ds nf (m+1) b):eW ds nf m (.mk 13 num [a,b]):=by
 rw [eW]
 exact ⟨by omega,fun h=>by omega,fun _=>rfl,fun h=>by omega,fun h=>by omega,fun h=>by omega,hn,by simp,ha,hb,True.intro⟩
theorem I7 {ds:List Zg} {nf m:Nat} {num:Int} {a:Z2} {arms:List Z2} (hn:-2000<=num/\num<=2000) (h3:arms.length<=3) (hl:arms.length=(ZY ds num).length) (ha:eW ds nf m a) (hk:QN ds nf (TZ ds 8 num m) 1 arms):eW ds nf m (.mk 8 num (a::arms)):=by
 rw [eW]
 refine ⟨by omega,fun h=>by omega,fun h=>by omega,fun h=>by omega,fun _=>by rw [YQ];omega,fun h=>by omega,hn,by rw [YQ];omega,?_,hk⟩
 rw [TZ,Z8 om,Zf rfl,Zf rfl]
 exact ha
def bS (b:Nat):Nat:=max 4 (10*b-10)
def bC (b:Nat):Nat:=max 40 (100*b-100)
def YZ:List Z5->Nat
 | []=>0
 | s::r=>(if YC s.op=true then 0 else 1)+YZ r
theorem Jj:∀xs ys:List Z5,YZ (xs++ys)=YZ xs+YZ ys
 | [],ys=>by simp [YZ]
 | x::r,ys=>by rw [QC,YZ,YZ,Jj r];omega
theorem B3:∀xs:List Z5,YZ xs<=xs.length
 | []=>X5 _
 | x::r=>by have:=B3 r;rw [YZ,YQ];split<;>omega
def UL (ds:List Zg) (op num:Int) (m:Nat) (k:Nat):Nat:=if op=8 then m+(ZV ds (gI (ZY ds num) k)).length else m
mutual
def fS (ds:List Zg) (nf:Nat):Nat->Z5->Prop
 | m,.mk op num into args kids=>((0<=op/\op<=11)∨(14<=op/\op<=17))/\(∀a∈args,0<=a/\a<m)/\(14<=op->num=0/\into=0/\kids=[]/\∃a,args=[a])/\(op=7->kids.length=2)/\(op=8->kids.length=(ZY ds num).length)/\(op=7∨op=8->∃a,args=[a]) /\
  (op=9->0<=num/\num<nf)/\(-2000<=num/\num<=2000)/\(0<=into/\into<=m)/\args.length<=4/\(op≠7/\op≠8->kids=[])/\TI ds nf (UL ds op num m) 0 kids
def TI (ds:List Zg) (nf:Nat) (sc:Nat->Nat):Nat->List Z7->Prop
 | _,[]=>True
 | k,b::r=>fB ds nf (sc k) b/\TI ds nf sc (k+1) r
def Tg (ds:List Zg) (nf:Nat):Nat->List Z5->Prop
 | _,[]=>True
 | m,s::r=>fS ds nf m s/\Tg ds nf (if YC s.op=true then m else m+1) r
def fB (ds:List Zg) (nf:Nat):Nat->Z7->Prop
 | m,.mk steps result=>Tg ds nf m steps/\0<=result/\result<(m+YZ steps:Nat)
end
section
variable {ds:List Zg} {nf:Nat}
structure FS (ds:List Zg) (nf m:Nat) (s:Z5):Prop where
 op:(0<=s.op/\s.op<=11)∨(14<=s.op/\s.op<=17)
 args:∀a∈s.args,0<=a/\a<m
 cnt:14<=s.op->s.num=0/\s.into=0/\s.kids=[]/\∃a,s.args=[a]
 k7:s.op=7->s.kids.length=2
 k8:s.op=8->s.kids.length=(ZY ds s.num).length
 one:s.op=7∨s.op=8->∃a,s.args=[a]
 call:s.op=9->0<=s.num/\s.num<nf
 num:-2000<=s.num/\s.num<=2000
 into:0<=s.into/\s.into<=m
 alen:s.args.length<=4
 kn:s.op≠7/\s.op≠8->s.kids=[]
 kids:TI ds nf (UL ds s.op s.num m) 0 s.kids
theorem Ft {m:Nat} (s:Z5):fS ds nf m s↔FS ds nf m s:=by
 cases s
 rw [fS]
 exact ⟨fun ⟨h1,h2,h3,h4,h5,h6,h7,h8,h9,h10,h11,h12⟩=>⟨h1,h2,h3,h4,h5,h6,h7,h8,h9,h10,h11,h12⟩,fun h=>⟨h.op,h.args,h.cnt,h.k7,h.k8,h.one,h.call,h.num,h.into,h.alen,h.kn,h.kids⟩⟩
theorem DR {m:Nat} (b:Z7):fB ds nf m b↔Tg ds nf m b.steps/\0<=b.result/\b.result<(m+YZ b.steps:Nat):=by cases b;rw [fB];rfl
theorem DS {sc:Nat->Nat}:∀{xs:List Z7} {j k:Nat} {b:Z7},TI ds nf sc j xs->xs[k]? = some b->fB ds nf (sc (j+k)) b
 | [],j,k,b,_,h=>by simp at h
 | x::r,j,0,b,hw,h=>by simp at h;subst h;exact hw.1
 | x::r,j,k+1,b,hw,h=>by
  have:=DS (xs:=r) (j:=j+1) (k:=k) hw.2 (by simpa using h)
  rw [show j+(k+1)=j+1+k by omega];exact this
theorem NN {sc:Nat->Nat}:∀{xs ys:List Z7} {j:Nat},TI ds nf sc j (xs++ys)↔TI ds nf sc j xs/\TI ds nf sc (j+xs.length) ys
 | [],ys,j=>by simp [TI]
 | x::r,ys,j=>by
  rw [QC,TI,TI,NN (xs:=r),and_assoc,YQ,show j+1+r.length=j+(r.length+1) by omega]
theorem NO {sc:Nat->Nat} {xs:List Z7} {b:Z7} (h:TI ds nf sc 0 xs) (hb:fB ds nf (sc xs.length) b):TI ds nf sc 0 (xs++[b]):=
 NN.2 ⟨h,by rw [Vd];exact hb,True.intro⟩
theorem CO:∀{xs ys:List Z5} {m:Nat},Tg ds nf m (xs++ys)↔Tg ds nf m xs/\Tg ds nf (m+YZ xs) ys
 | [],ys,m=>by simp [Tg,YZ]
 | x::r,ys,m=>by
  rw [QC,Tg,Tg,CO (xs:=r),and_assoc,YZ]
  by_cases h:YC x.op=true
  ·rw [Zf h,Zf h,Vd]
  ·rw [Z8 h,Z8 h,AM]
theorem Fu {xs:List Z5} {s:Z5} {m:Nat} (h:Tg ds nf m xs) (hs:fS ds nf (m+YZ xs) s):Tg ds nf m (xs++[s]):=CO.2 ⟨h,hs,True.intro⟩
theorem DT:∀{xs:List Z5} {k m:Nat} {s:Z5},Tg ds nf m xs->xs[k]? = some s->fS ds nf (m+YZ (xs.take k)) s
 | [],k,m,s,_,h=>by simp at h
 | x::r,0,m,s,hw,h=>by simp at h;subst h;exact hw.1
 | x::r,k+1,m,s,hw,h=>by
  have:=DT (xs:=r) (k:=k) hw.2 (by simpa using h)
  rw [BG,YZ]
  by_cases hc:YC x.op=true
  ·rw [Zf hc] at this ⊢;rw [Vd];exact this
  ·rw [Z8 hc] at this ⊢;rw [<-AM];exact this
mutual
theorem Zgi:∀(s:Z5) {m:Nat},fS ds nf m s->m+4*s.sz<=900000000->Wr ds->wS ds s
 | .mk op num into args kids,m,h,hb,hd=>by
  rw [fS] at h
  obtain ⟨h1,h2,h3,h4,h5,h6,h7,h8,h9,h10,h11,h12⟩:=h
  rw [Z5.sz] at hb
  rw [wS]
  refine ⟨?_,fun hc=>h3 (show 14<=op/\op<=17 by simpa [YC] using hc).1,fun h8'=>⟨?_,h5 h8'⟩,SY kids h12 (fun k=>?_) hd⟩
  ·rcases h1 with h1|h1
   ·have e1:YC op=false:=by simp [YC];omega
    have e2:XQ op=true:=by simp [XQ];omega
    rw [e1,e2];rfl
   ·have e1:YC op=true:=by simp [YC];omega
    have e2:XQ op=false:=by simp [XQ];omega
    rw [e1,e2];rfl
  ·obtain ⟨a,ha⟩:=h6 (.inr h8')
   have:=h2 a (by rw [ha];exact Xv.2 rfl)
   exact ⟨a,ha,by omega⟩
  ·have hf:=VZ hd (gI (ZY ds num) k)
   show UL ds op num m k+4*X6 kids<=900000003
   rw [UL];split<;>omega
theorem SY:∀(bs:List Z7) {sc:Nat->Nat} {k:Nat},TI ds nf sc k bs->(∀k,sc k+4*X6 bs<=900000003)->Wr ds->AH ds bs
 | [],_,_,_,_,_=>True.intro
 | b::r,sc,k,h,hb,hd=>by
  have hp:=b.sz_eq
  exact ⟨SX b h.1 (by have:=hb k;rw [X6] at this;omega) hd,SY r h.2 (fun j=>by have:=hb j;rw [X6] at this;omega) hd⟩
theorem SZ:∀(xs:List Z5) {m:Nat},Tg ds nf m xs->m+4*Y6 xs<=900000000->Wr ds->K8 ds xs
 | [],_,_,_,_=>True.intro
 | s::r,m,h,hb,hd=>by
  rw [Y6] at hb
  have hp:=s.sz_pos
  refine ⟨Zgi s h.1 om hd,SZ r h.2 ?_ hd⟩
  split<;>omega
theorem SX:∀(b:Z7) {m:Nat},fB ds nf m b->m+4*b.sz<=900000004->Wr ds->wB ds b
 | .mk steps result,m,h,hb,hd=>by
  rw [Z7.sz] at hb
  rw [fB] at h
  rw [wB]
  exact SZ steps h.1 om hd
end
mutual
theorem Zc5:∀(s:Z5) {m:Nat},fS ds nf m s->s.rng
 | .mk op num into args kids,m,h=>by
  rw [fS] at h
  obtain ⟨h1,h2,h3,h4,h5,h6,h7,h8,h9,h10,h11,h12⟩:=h
  rw [Z5.rng]
  exact ⟨by omega,Rl kids h12⟩
theorem Rl:∀(bs:List Z7) {sc:Nat->Nat} {k:Nat},TI ds nf sc k bs->QI bs
 | [],_,_,_=>True.intro
 | b::r,sc,k,h=>⟨Lx b h.1,Rl r h.2⟩
theorem Rm:∀(xs:List Z5) {m:Nat},Tg ds nf m xs->Uz xs
 | [],_,_=>True.intro
 | s::r,m,h=>⟨Zc5 s h.1,Rm r h.2⟩
theorem Lx:∀(b:Z7) {m:Nat},fB ds nf m b->b.rng
 | .mk steps result,m,h=>by rw [fB] at h;rw [Z7.rng];exact Rm steps h.1
end
end
structure FN (n:Zk) (q:Nat):Prop where
 decls:GD n.decls
 len:1<=n.routines.length/\n.routines.length<=4
 sigs:∀r∈n.routines,(r.params,r.result)∈JB
 lent:∀r∈n.routines,r.lent.length<=3/\∀i∈r.lent,0<=i/\i<r.params.length
 body:∀r∈n.routines,fB n.decls n.routines.length r.params.length r.body/\r.body.sz<=q
theorem FN.ok {n:Zk} {q:Nat} (h:FN n q):X2 n:=
 ⟨h.decls.ok,h.len.2,fun r hr=>(Tq.bd (f:=⟨r.params,r.result,default⟩) (h.sigs r hr)).1,fun r hr=>by have:=(h.lent r hr).1;omega⟩
def Pk (n k:Int):Prop:=0<=k/\(0<n->k<n)/\(n<=0->k=0)
theorem Pk.lt {n k:Int} (h:Pk n k) (hn:0<n):0<=k/\k<n:=⟨h.1,h.2.1 hn⟩
theorem Pk.zero {n:Int}:Pk n 0:=⟨Int.le_refl _,fun h=>h,fun _=>rfl⟩
theorem Pk.rem {n a:Int} (ha:0<=a) (hn:0<n):Pk n (a % n):=⟨Int.emod_nonneg _ om,fun _=>Int.emod_lt_of_pos _ hn,fun _=>by omega⟩
def AD (ds:List Zg):Prop:=ds.length<=8/\∀d∈ds,d.cons.length<=4/\∀c∈d.cons,c.fields.length<=4
theorem GD.ad {ds:List Zg} (h:GD ds):AD ds:=(by decide:∀ds∈An,ds.length<=8/\∀d∈ds,d.cons.length<=4/\∀c∈d.cons,c.fields.length<=4) ds h
theorem AD.set {ds:List Zg} (h:AD ds) (k:Nat) {d:Zg} (hd:d.cons.length<=4/\∀c∈d.cons,c.fields.length<=4):AD (ds.set k d):=
 ⟨by rw [UQ];exact h.1,fun x hx=>(List.mem_or_eq_of_mem_set hx).elim (h.2 x) fun e=>by rw [e];exact hd⟩
theorem AD.app {ds es:List Zg} (h:AD ds) (hl:ds.length+es.length<=8) (hd:∀d∈es,d.cons.length<=4/\∀c∈d.cons,c.fields.length<=4):AD (ds++es):=
 ⟨by rw [Yq];exact hl,fun x hx=>(X7.1 hx).elim (h.2 x) (hd x)⟩
theorem GD.three:GD [Ae,⟨0,0,[]⟩,Af]:=List.Mem.head _
theorem GD.four:∀{k:Nat} {x:Zg},Nu[k]? = some x->GD ([Ae,⟨0,0,[]⟩,Af]++[x])
 | 0,x,h=>by cases h;exact .tail _ (.head _)
 | 1,x,h=>by cases h;exact .tail _ (.tail _ (.head _))
 | 2,x,h=>by cases h;exact .tail _ (.tail _ (.tail _ (.head _)))
 | 3,x,h=>by cases h;exact .tail _ (.tail _ (.tail _ (.tail _ (.head _))))
 | k+4,x,h=>by simp [Nu] at h
theorem Bk {l:LI} {z a b:Int} (h:z∈l) (hl:l.all (fun x=>decide (a<=x/\x<=b))=true):a<=z/\z<=b:=by
 have:=Jv.1 hl z h
 exact of_decide_eq_true this
def rk (t:Int):Nat:=if KX t then 0 else 1
theorem Lw (t:Int):rk t<=1:=by rw [rk];split<;>omega
theorem Rk {t:Int} (h:KX t):rk t=0:=Zf h
def SE (g:Wa) (q:Nat) (e:Z2):Prop:=(∀m,eW g.decls g.funcs.length m e)/\e.sz<=q
def GE (g:Wa) (m q:Nat) (e:Z2):Prop:=eW g.decls g.funcs.length m e/\e.sz<=q
theorem SE.ge {g:Wa} {q q' m:Nat} {e:Z2} (h:SE g q e) (hq:q<=q'):GE g m q' e:=⟨h.1 m,Vz h.2 hq⟩
theorem GE.le {g:Wa} {m q q':Nat} {e:Z2} (h:GE g m q e) (hq:q<=q'):GE g m q' e:=⟨h.1,Vz h.2 hq⟩
theorem Fs {m:Nat}:∀{xs:List Z2},(∀e∈xs,e.sz<=m)->Xy xs<=xs.length*m
 | [],_=>Ka _
 | x::r,h=>by
  have h1:=h x (Xf ..)
  have h2:=Fs (xs:=r) fun e he=>h e (XD _ he)
  rw [Xy,YQ,Ql];omega
theorem XC {α:Type} {p:α->Prop} {xs:List α} {a:α} (h:∀x∈xs,p x) (ha:p a):∀x∈xs++[a],p x:=fun x hx=>(X7.1 hx).elim (h x) fun q=>by rw [Xv.1 q];exact ha
theorem SE.int {g:Wa} {z:Int} {q:Nat} (hz:-2000<=z/\z<=2000) (hq:1<=q):SE g q (.mk 0 z []):=⟨fun _=>Z4j hz,by simpa [Z2.sz,Xy] using hq⟩
theorem SE.node {g:Wa} {op num:Int} {ys:List Z2} {q k:Nat} (ho:op=6∨op=10) (hn:0<=num/\num<=2000) (hy:∀e∈ys,SE g 1 e) (hl:ys.length<=k) (hk:k<=3) (hq:1+k<=q):SE g q (.mk op num ys):=by
 refine ⟨fun m=>BW om (fun h=>by omega) om om fun e he=>(hy e he).1 m,?_⟩
 have:=Fs (xs:=ys) (m:=1) fun e he=>(hy e he).2
 rw [Z2.sz];omega
def AR (ds:List Zg) (t c:Int):Prop:=(0<=c/\c<=9)/\(ZV ds c).length<=3*rk t/\∀u∈ZV ds c,KX u
instance (ds:List Zg) (t c:Int):Decidable (AR ds t c):=inferInstanceAs (Decidable (_/\_/\_))
theorem RJ {ds:List Zg} (h:GD ds):∀t∈[(1:Int),2,3,4],∀c∈ZY ds t,(t∈ZV ds c->∀c0,(ZY ds t)[0]? = some c0->AR ds t c0)/\(¬t∈ZV ds c->AR ds t c):=by
 intro t ht c hc
 have k1:=(by decide:∀ds∈An,∀t∈[(1:Int),2,3,4],∀c∈ZY ds t,(t∈ZV ds c->AR ds t (gI (ZY ds t) 0))/\(¬t∈ZV ds c->AR ds t c)) ds h t ht c hc
 refine ⟨fun q c0 h0=>?_,k1.2⟩
 have:=k1.1 q
 rwa [Vk (i:=0) h0] at this
theorem Nq {ds:List Zg} (h:GD ds) {t c:Int} (hc:c∈ZY ds t):t∈[(1:Int),2,3,4]:=by
 obtain ⟨_,h2,_⟩:=h.cons_cases hc
 rcases h2 with rfl|rfl|rfl<;>simp
theorem Zd3 {ds:List Zg} (h:GD ds) {t c c0:Int} (hc:c∈ZY ds t) (ht:t∈ZV ds c) (h0:(ZY ds t)[0]? = some c0):AR ds t c0:=(RJ h t (Nq h hc) c hc).1 ht c0 h0
theorem Zd2 {ds:List Zg} (h:GD ds) {t c:Int} (hc:c∈ZY ds t) (ht:¬t∈ZV ds c):AR ds t c:=(RJ h t (Nq h hc) c hc).2 ht
theorem Zc4 {ds:List Zg} (h:GD ds) {t:Int} (h0:(ZY ds t).length=0) (ht:0<t):rk t=1:=by
 rw [rk,Z8]
 rintro (q|q|q)
 ·omega
 ·rw [q,h.low.2.1] at h0;cases h0
 ·rw [q,h.low.2.2.2.1] at h0;cases h0
def A3 (g:Wa) (t i:Int):Prop:=0<=i/\∃f,g.funcs[i.toNat]? = some f/\0<f.params.length/\Ue g.decls (gI f.params ((f.params.length:Int)-1)) f.result=t
theorem A3.lt {g:Wa} {t i:Int} (h:A3 g t i):0<=i/\i<g.funcs.length:=by
 obtain ⟨h1,f,h2,_⟩:=h
 have:=(Xc.1 h2).1
 omega
theorem A3.mk {g:Wa} {t x2:Int} {k:Nat} {f:Func} (hf:g.funcs[k]? = some f) (hl:0<f.params.length) (hx:f.params[f.params.length-1]? = some x2) (ha:Ue g.decls x2 f.result=t):A3 g t (k:Int):=by
 refine ⟨by omega,f,by simpa using hf,hl,?_⟩
 rw [Vk (i:=(f.params.length:Int)-1) (by rw [show ((f.params.length:Int)-1).toNat=f.params.length-1 by omega];exact hx)]
 exact ha
theorem A3.low {g:Wa} {t i u:Int} {f:Func} {j:Nat} (hg:GP g) (h:A3 g t i) (ht:0<t) (hf:g.funcs[i.toNat]? = some f) (hj:j+1<f.params.length) (hu:f.params[j]? = some u):rk u=0:=by
 obtain ⟨_,f',h2,_,h4⟩:=h
 have e:f'=f:=Q2 (h2.symm.trans hf)
 subst e
 have h5:=(hg.sigs f' (ZX hf)).clo hg.decls (by rw [h4];exact ht)
 refine Rk (h5 u ?_)
 rw [List.dropLast_eq_take]
 exact ZX (i:=j) (by rw [List.getElem?_take_of_lt om];exact hu)
end Go.Abs
section
namespace Go.Abs
theorem JF (b:Nat):bS b=max 4 (10*b-10):=rfl
theorem JE (b:Nat):bC b=max 40 (100*b-100):=rfl
theorem Ed {L q b:Nat} (hL:L<=3) (hb:3<=b) (hq:L*q<=b-1):1+L*bS q<=bS b:=by
 rw [JF,JF]
 have:L=0∨L=1∨L=2∨L=3:=by omega
 rcases this with rfl|rfl|rfl|rfl<;>omega
theorem Zaf {L q b:Nat} (hL:L<=3) (hb:3<=b) (hq:L*q<=b-2):5+L*bS q<=bS b:=by
 rw [JF,JF]
 have:L=0∨L=1∨L=2∨L=3:=by omega
 rcases this with rfl|rfl|rfl|rfl<;>omega
theorem Za9 {b:Nat} (hb:3<=b):1+(bS (b / 2)+bS (b / 2))<=bS b:=by rw [JF,JF];omega
theorem Z12 {b:Nat} (hb:3<=b):5+bS (b-2)<=bS b:=by rw [JF,JF];omega
theorem Ax {L q b:Nat} (hL:L<=3) (hb:3<=b) (hq:L*q<=b-1):10+L*bC q<=bC b:=by
 rw [JE,JE]
 have:L=0∨L=1∨L=2∨L=3:=by omega
 rcases this with rfl|rfl|rfl|rfl<;>omega
theorem Zae {L q b:Nat} (hL:L<=3) (hb:3<=b) (hq:L*q<=b-2):40+L*bC q<=bC b:=by
 rw [JE,JE]
 have:L=0∨L=1∨L=2∨L=3:=by omega
 rcases this with rfl|rfl|rfl|rfl<;>omega
theorem Za8 {b:Nat} (hb:3<=b):10+(bC (b / 2)+bC (b / 2))<=bC b:=by rw [JE,JE];omega
theorem Z11 {b:Nat} (hb:3<=b):40+bC (b-2)<=bC b:=by rw [JE,JE];omega
theorem MY (b:Nat):4<=bS b:=by rw [JF];omega
theorem MX (b:Nat):40<=bC b:=by rw [JE];omega
theorem Q7 (L b:Nat):L*(b / L)<=b:=Nat.mul_div_le b L
theorem Pw {k L C:Nat} (h:k<L):(k+1)*C=k*C+C/\(k+1)*C<=L*C:=⟨by rw [Ql,Nat.one_mul],QE C h⟩
theorem Dk {ds:List Zg} {d x:Int} {m k:Nat} (h:(ZY ds d)[k]? = some x):TZ ds 8 d m (1+k)=m+(ZV ds x).length:=by
 rw [TZ,Z8 om,Zf rfl,Z8 om,Vk (i:=((1+k:Nat):Int)-1) (by rw [show (((1+k:Nat):Int)-1).toNat=k by omega];exact h)]
section
variable {g:Wa} {m:Nat}
theorem GE.var {z:Int} {q:Nat} (hz:0<=z/\z<m) (hm:m<=2000) (hq:1<=q):GE g m q (.mk 12 z []):=⟨Z4k hz hm,by simpa [Z2.sz,Xy] using hq⟩
theorem GE.list {ys:List Z2} {L s:Nat} (h:∀e∈ys,GE g m s e) (hl:ys.length=L):Xy ys<=L*s:=by rw [<-hl];exact Fs fun e he=>(h e he).2
theorem GE.node {op num:Int} {ys:List Z2} {L s q:Nat} (ho:0<=op/\op<=11/\op≠7/\op≠8) (hc:op=9->0<=num/\num<g.funcs.length) (hn:-2000<=num/\num<=2000) (h:∀e∈ys,GE g m s e) (hl:ys.length=L) (hL:L<=3) (hq:1+L*s<=q):GE g m q (.mk op num ys):=by
 have:=GE.list h hl
 exact ⟨BW ho hc hn om fun e he=>(h e he).1,by rw [Z2.sz];omega⟩
theorem GE.if_ {num:Int} {ys:List Z2} {s q:Nat} (hn:-2000<=num/\num<=2000) (h:∀e∈ys,GE g m s e) (hl:ys.length=3) (hq:1+3*s<=q):GE g m q (.mk 7 num ys):=by
 have:=GE.list h hl
 exact ⟨ND hn hl fun e he=>(h e he).1,by rw [Z2.sz];omega⟩
theorem GE.let_ {a b:Z2} {s q:Nat} (ha:GE g m s a) (hb:GE g (m+1) s b) (hq:1+(s+s)<=q):GE g m q (.mk 13 0 [a,b]):=by
 refine ⟨NE om ha.1 hb.1,?_⟩
 have h1:=ha.2
 have h2:=hb.2
 simp only [Z2.sz,Xy];omega
theorem GE.two {op num:Int} {a b:Z2} {s1 s2 q:Nat} (ho:0<=op/\op<=11/\op≠7/\op≠8/\op≠9) (hn:-2000<=num/\num<=2000) (ha:GE g m s1 a) (hb:GE g m s2 b) (hq:1+(s1+s2)<=q):GE g m q (.mk op num [a,b]):=by
 refine ⟨BW om (fun h=>by omega) hn (by simp) fun e he=>?_,?_⟩
 ·rcases YB.1 he with rfl|he
  ·exact ha.1
  ·rw [Xv.1 he];exact hb.1
 ·have h1:=ha.2
  have h2:=hb.2
  simp only [Z2.sz,Xy];omega
theorem GE.match_ {d:Int} {e:Z2} {ys:List Z2} {L s q:Nat} (hd:-2000<=d/\d<=2000) (he:GE g m 4 e) (hw:QN g.decls g.funcs.length (TZ g.decls 8 d m) 1 ys) (hs:∀e∈ys,e.sz<=s) (hl:ys.length=L) (hL:L=(ZY g.decls d).length) (h3:L<=3) (hq:5+L*s<=q):GE g m q (.mk 8 d (e::ys)):=by
 refine ⟨I7 hd om om he.1 hw,?_⟩
 have h1:=Fs hs
 rw [hl] at h1
 have h2:=he.2
 rw [Z2.sz,Xy];omega
end
def NL (s:Nat) (left w:Int):Prop:=((s:Int)<=left/\w=left-s)∨(left<s/\w=-1)
end Go.Abs
namespace Go.Abs
theorem C8 {L b p pp M:Nat} (hL:L<=3) (hb:3<=b) (h:pp<=p+8) (hp:p+(bC b-1)<=M):pp+L*bC ((b-1) / L)<=M:=by
 have:=Ax hL hb (Q7 L (b-1))
 omega
end Go.Abs
end
namespace Go.Abs
theorem Z4r (a b:Z2):Xy [a,b]=a.sz+b.sz:=by simp only [Xy];omega
theorem Fq (a b c:Z2):Xy [a,b,c]=a.sz+b.sz+c.sz:=by simp only [Xy];omega
theorem DG:bS 3=20/\bS 4=30/\bS 12=110/\bS 16=150/\bS 18=170/\bC 3=200/\bC 4=300/\bC 16=1500:=by decide
theorem ET {b:Nat} (h:b<=20):bS b<=190/\bC b<=1900/\(b<=2->bS b<=10):=by rw [JF,JE];omega
section
variable {g:Wa} {m:Nat}
theorem SE.ofs {op num:Int} {ys:List Z2} {q:Nat} (ho:0<=op/\op<=11/\op≠7/\op≠8/\op≠9) (hn:-2000<=num/\num<=2000) (hl:ys.length<=4) (hy:∀e∈ys,∃s,SE g s e) (hq:1+Xy ys<=q):SE g q (.mk op num ys):=
 ⟨fun m=>BW om (fun h=>by omega) hn hl fun e he=>let ⟨_,h⟩:=hy e he;h.1 m,by rw [Z2.sz];exact hq⟩
theorem SE.nil {op num:Int} {q:Nat} (ho:0<=op/\op<=11/\op≠7/\op≠8/\op≠9) (hn:-2000<=num/\num<=2000) (hq:1<=q):SE g q (.mk op num []):=
 SE.ofs ho hn (by simp) (fun e he=>by cases he) (by simpa [Xy] using hq)
theorem SE.two {op num:Int} {a b:Z2} {s1 s2 q:Nat} (ho:0<=op/\op<=11/\op≠7/\op≠8/\op≠9) (hn:-2000<=num/\num<=2000) (ha:SE g s1 a) (hb:SE g s2 b) (hq:1+(s1+s2)<=q):SE g q (.mk op num [a,b]):=by
 refine SE.ofs ho hn (by simp) (fun e he=>?_) ?_
 ·rcases YB.1 he with rfl|he
  ·exact ⟨_,ha⟩
  ·rw [Xv.1 he];exact ⟨_,hb⟩
 ·have h1:=ha.2
  have h2:=hb.2
  rw [Z4r];omega
theorem SE.three {op num:Int} {a b c:Z2} {s1 s2 s3 q:Nat} (ho:0<=op/\op<=11/\op≠7/\op≠8/\op≠9) (hn:-2000<=num/\num<=2000) (ha:SE g s1 a) (hb:SE g s2 b) (hc:SE g s3 c) (hq:1+(s1+s2+s3)<=q):SE g q (.mk op num [a,b,c]):=by
 refine SE.ofs ho hn (by simp) (fun e he=>?_) ?_
 ·rcases YB.1 he with rfl|he
  ·exact ⟨_,ha⟩
  ·rcases YB.1 he with rfl|he
   ·exact ⟨_,hb⟩
   ·rw [Xv.1 he];exact ⟨_,hc⟩
 ·have h1:=ha.2
  have h2:=hb.2
  have h3:=hc.2
  rw [Fq];omega
theorem GE.int {z:Int} {q:Nat} (hz:-2000<=z/\z<=2000) (hq:1<=q):GE g m q (.mk 0 z []):=(SE.int (g:=g) (q:=q) hz hq).ge (X5 _)
theorem GE.three {op num:Int} {a b c:Z2} {s1 s2 s3 q:Nat} (ho:0<=op/\op<=11/\op≠8/\op≠9) (hn:-2000<=num/\num<=2000) (ha:GE g m s1 a) (hb:GE g m s2 b) (hc:GE g m s3 c) (hq:1+(s1+s2+s3)<=q):GE g m q (.mk op num [a,b,c]):=by
 have hk:∀e∈[a,b,c],eW g.decls g.funcs.length m e:=fun e he=>by
  rcases YB.1 he with rfl|he
  ·exact ha.1
  ·rcases YB.1 he with rfl|he
   ·exact hb.1
   ·rw [Xv.1 he];exact hc.1
 refine ⟨?_,?_⟩
 ·by_cases h7:op=7
  ·subst h7;exact ND hn rfl hk
  ·exact BW om (fun h=>by omega) hn (by simp) hk
 ·have h1:=ha.2
  have h2:=hb.2
  have h3:=hc.2
  rw [Z2.sz,Fq];omega
theorem GE.one {op num:Int} {a:Z2} {s1 q:Nat} (ho:0<=op/\op<=11/\op≠7/\op≠8/\op≠9) (hn:-2000<=num/\num<=2000) (ha:GE g m s1 a) (hq:1+s1<=q):GE g m q (.mk op num [a]):=by
 refine ⟨BW om (fun h=>by omega) hn (by simp) fun e he=>?_,?_⟩
 ·rw [Xv.1 he];exact ha.1
 ·have h1:=ha.2
  simp only [Z2.sz,Xy];omega
theorem GE.letS {a b:Z2} {s1 s2 q:Nat} (ha:GE g m s1 a) (hb:GE g (m+1) s2 b) (hq:1+(s1+s2)<=q):GE g m q (.mk 13 0 [a,b]):=by
 refine ⟨NE om ha.1 hb.1,?_⟩
 have h1:=ha.2
 have h2:=hb.2
 simp only [Z2.sz,Xy];omega
theorem GE.matchL (hg:GP g) {e a b:Z2} {s1 s2 s3 q:Nat} (he:GE g m s1 e) (ha:GE g m s2 a) (hb:GE g (m+2) s3 b) (hq:1+(s1+s2+s3)<=q):GE g m q (.mk 8 1 [e,a,b]):=by
 have hl:=hg.decls.low
 refine ⟨I7 om (by simp) (by rw [hl.2.1];rfl) he.1 ⟨?_,?_,True.intro⟩,?_⟩
 ·rw [Dk (k:=0) (x:=0) (by rw [hl.2.1];rfl),hl.2.2.2.2.1];exact ha.1
 ·rw [Dk (k:=1) (x:=1) (by rw [hl.2.1];rfl),hl.2.2.2.2.2.1];exact hb.1
 ·have h1:=he.2
  have h2:=ha.2
  have h3:=hb.2
  rw [Z2.sz,Fq];omega
theorem GE.matchT (hg:GP g) {e a b:Z2} {s1 s2 s3 q:Nat} (he:GE g m s1 e) (ha:GE g m s2 a) (hb:GE g (m+3) s3 b) (hq:1+(s1+s2+s3)<=q):GE g m q (.mk 8 3 [e,a,b]):=by
 have hl:=hg.decls.low
 refine ⟨I7 om (by simp) (by rw [hl.2.2.2.1];rfl) he.1 ⟨?_,?_,True.intro⟩,?_⟩
 ·rw [Dk (k:=0) (x:=2) (by rw [hl.2.2.2.1];rfl),hl.2.2.2.2.2.2.1];exact ha.1
 ·rw [Dk (k:=1) (x:=3) (by rw [hl.2.2.2.1];rfl),hl.2.2.2.2.2.2.2];exact hb.1
 ·have h1:=he.2
  have h2:=ha.2
  have h3:=hb.2
  rw [Z2.sz,Fq];omega
theorem Hv {α:Type} {p:α->Prop} {a:α} (h:p a):∀x∈[a],p x:=fun x hx=>by rw [Xv.1 hx];exact h
end
structure Hk (g:Wa):Prop where
 gp:GP g
 body:∀f∈g.funcs,eW g.decls g.funcs.length f.params.length f.body/\f.body.sz<=30
structure GL (ds:List Zg) (k j:Nat) (rq:List Func):Prop where
 len:rq.length=4
 sigs:∀f∈rq,Tq f
 zero:∀f,rq[0]? = some f->f.params.length=0
 body:∀i f,j<=i->i<k->rq[i]? = some f->eW ds k f.params.length f.body/\f.body.sz<=30
theorem GL.gp {ds:List Zg} {k j:Nat} {rq:List Func} (h:GL ds k j rq) (hd:GD ds) (hk:1<=k/\k<=4):GP ⟨ds,rq.take k⟩:=
 ⟨hd,by show 1<=(rq.take k).length/\_;rw [WC,h.len];omega,fun f hf=>h.sigs f (TN hf)⟩
theorem GL.len_take {ds:List Zg} {k j:Nat} {rq:List Func} (h:GL ds k j rq) (hk:k<=4):(rq.take k).length=k:=by rw [WC,h.len];omega
theorem GL.set {ds:List Zg} {k j:Nat} {rq:List Func} {f:Func} {e:Z2} (h:GL ds k j rq) (hj:1<=j) (hf:rq[j-1]? = some f) (he:eW ds k f.params.length e/\e.sz<=30):GL ds k (j-1) (rq.set (j-1) ⟨f.params,f.result,e⟩):=by
 have hl:=(Xc.1 hf).1
 refine ⟨by rw [UQ];exact h.len,fun x hx=>?_,fun x hx=>?_,fun i x h1 h2 hx=>?_⟩
 ·rcases List.mem_or_eq_of_mem_set hx with hx|rfl
  ·exact h.sigs x hx
  ·exact h.sigs f (ZX hf)
 ·rw [List.getElem?_set] at hx
  split at hx
  ·rename_i h0
   cases hx
   exact h.zero f (by rw [<-h0];exact hf)
  ·exact h.zero x hx
 ·rw [List.getElem?_set] at hx
  split at hx
  ·cases hx
   exact he
  ·exact h.body i x om h2 hx
theorem GL.done {ds:List Zg} {k:Nat} {rq:List Func} (h:GL ds k 0 rq) (hd:GD ds) (hk:1<=k/\k<=4):Hk ⟨ds,rq.take k⟩:=by
 refine ⟨h.gp hd hk,fun f hf=>?_⟩
 show eW ds (rq.take k).length _ _/\_
 rw [h.len_take hk.2]
 obtain ⟨i,hi⟩:=Mp hf
 have hi2:i<(rq.take k).length:=(Xc.1 hi).1
 rw [h.len_take hk.2] at hi2
 rw [List.getElem?_take_of_lt hi2] at hi
 exact h.body i f om hi2 hi
theorem LP {l:List Func} {f:Func} {k:Nat} (h:l[k]? = some f) (hl:l.all (fun f=>decide ((f.params,f.result)∈JB))=true):Tq f:=show (f.params,f.result)∈JB from of_decide_eq_true (Jv.1 hl f (ZX h))
theorem GL.start {ds:List Zg} {k:Nat} {e:Z2} {a b c:Func} (ha:Tq a) (hb:Tq b) (hc:Tq c):GL ds k k [⟨[],0,e⟩,a,b,c]:=by
 refine ⟨rfl,fun f hf=>?_,fun f hf=>?_,fun i f h1 h2=>by omega⟩
 ·rcases YB.1 hf with rfl|hf
  ·exact List.Mem.head _
  ·rcases YB.1 hf with rfl|hf
   ·exact ha
   ·rcases YB.1 hf with rfl|hf
    ·exact hb
    ·rw [Xv.1 hf];exact hc
 ·cases hf;rfl
theorem Zar {l:LI} {k:Nat} {a b:Nat} (h:(k:Int)∈l) (hl:l.all (fun x=>decide ((a:Int)<=x/\x<=b))=true):a<=k/\k<=b:=by
 have:=of_decide_eq_true (Jv.1 hl _ h)
 omega
mutual
def QZ (p:Int->Prop):Z5->Prop
 | .mk op _ _ _ kids=>p op/\QY p kids
def QY (p:Int->Prop):List Z7->Prop
 | []=>True
 | b::r=>Vn p b/\QY p r
def TU (p:Int->Prop):List Z5->Prop
 | []=>True
 | s::r=>QZ p s/\TU p r
def Vn (p:Int->Prop):Z7->Prop
 | .mk steps _=>TU p steps
end
section
variable {p q:Int->Prop}
theorem Ei (s:Z5):QZ p s↔p s.op/\QY p s.kids:=by cases s;rw [QZ];rfl
theorem Gj (b:Z7):Vn p b↔TU p b.steps:=by cases b;rw [Vn];rfl
theorem Dd:∀{xs:List Z7},QY p xs↔∀b∈xs,Vn p b
 | []=>by simp [QY]
 | b::r=>by rw [QY,Dd];simp
theorem Cb:∀{xs:List Z5},TU p xs↔∀b∈xs,QZ p b
 | []=>by simp [TU]
 | b::r=>by rw [TU,Cb];simp
theorem Gk {xs ys:List Z5}:TU p (xs++ys)↔TU p xs/\TU p ys:=by simp only [Cb,X7];exact ⟨fun h=>⟨fun b hb=>h b (.inl hb),fun b hb=>h b (.inr hb)⟩,fun h b hb=>hb.elim (h.1 b) (h.2 b)⟩
theorem PO {xs:List Z7} {b:Z7} (h:QY p xs) (hb:Vn p b):QY p (xs++[b]):=Dd.2 (XC (Dd.1 h) hb)
theorem Gl {xs:List Z5} {b:Z5} (h:TU p xs) (hb:QZ p b):TU p (xs++[b]):=Cb.2 (XC (Cb.1 h) hb)
end
def WQ (op:Int):Prop:=op<=11
def VB (op:Int):Prop:=op<=15
end Go.Abs
section
namespace Go.Abs
structure LW (ds:List Zg) (nf q:Nat) (e:Z2) (ys:List Z5) (v:Int):Prop where
 fs:Tg ds nf q ys
 v:0<=v/\v<(q+YZ ys:Nat)
 sz:Y6 ys<=6*e.sz
 op:TU WQ ys
theorem LW.dn {ds:List Zg} {nf q:Nat} {e:Z2} {ys:List Z5} {v:Int} (h:LW ds nf q e ys v):YZ ys<=6*e.sz/\ys.length<=6*e.sz:=by
 have h1:=B3 ys
 have h2:=J3 ys
 have h3:=h.sz
 omega
structure LB (ds:List Zg) (nf q:Nat) (e:Z2) (b:Z7):Prop where
 fb:fB ds nf q b
 sz:b.sz<=1+6*e.sz
 op:Vn WQ b
section
variable {ds:List Zg} {nf q:Nat}
theorem DH:∀xs ys:List Z7,X6 (xs++ys)=X6 xs+X6 ys
 | [],ys=>by simp [X6]
 | x::r,ys=>by rw [QC,X6,X6,DH r];omega
theorem LW.block {e:Z2} {ys:List Z5} {v:Int} (h:LW ds nf q e ys v):LB ds nf q e ⟨ys,v⟩:=
 ⟨by rw [fB];exact ⟨h.fs,h.v⟩,by rw [Z7.sz];have:=h.sz;omega,by rw [Vn];exact h.op⟩
theorem LW.var {e:Z2} {v:Int} (hv:0<=v/\v<q):LW ds nf q e [] v:=⟨True.intro,by simpa [YZ] using hv,by simp [Y6],True.intro⟩
theorem LW.let_ {e a b:Z2} {ys zs:List Z5} {v1 v2:Int} (ha:LW ds nf q a ys v1) (hb:LW ds nf (q+YZ ys) b zs v2) (he:a.sz+b.sz<e.sz):LW ds nf q e (ys++zs) v2:=by
 refine ⟨CO.2 ⟨ha.fs,hb.fs⟩,by rw [Jj,<-AM];exact hb.v,?_,Gk.2 ⟨ha.op,hb.op⟩⟩
 have h1:=ha.sz
 have h2:=hb.sz
 rw [TD];omega
theorem DM {ys:List Z5} {s:Z5} (h:YC s.op=false):YZ (ys++[s])=YZ ys+1:=by
 rw [Jj]
 simp [YZ,h]
theorem LW.node {e:Z2} {ys:List Z5} {as1:LI} (ho:0<=e.op/\e.op<=11/\e.op≠7/\e.op≠8) (hc:e.op=9->0<=e.num/\e.num<nf) (hn:-2000<=e.num/\e.num<=2000) (hf:Tg ds nf q ys) (ha:∀a∈as1,0<=a/\a<(q+YZ ys:Nat)) (hl:as1.length<=4) (hs:Y6 ys<=6*Xy e.kids) (hop:TU WQ ys) :
  LW ds nf q e (ys++[⟨e.op,e.num,0,as1,[]⟩]) ((q+YZ ys:Nat):Int):=by
 have hcb:YC e.op=false:=by simp [YC];omega
 refine ⟨Fu hf ?_,?_,?_,Gl hop (by rw [QZ];exact ⟨by show e.op<=11;omega,True.intro⟩)⟩
 ·rw [fS]
  exact ⟨.inl ⟨by omega,by omega⟩,ha,fun h=>by omega,fun h=>by omega,fun h=>by omega,fun h=>by omega,hc,hn,by omega,hl,fun _=>rfl,True.intro⟩
 ·rw [DM (show YC (Z5.mk e.op e.num 0 as1 []).op=false from hcb)];omega
 ·rw [TD,e.sz_eq]
  simp only [Y6,Z5.sz,X6]
  omega
theorem LW.branch {e:Z2} {ys:List Z5} {v:Int} {bs:List Z7} {s0 sr:Nat} (ho:e.op=7∨e.op=8) (h7:e.op=7->bs.length=2) (h8:e.op=8->bs.length=(ZY ds e.num).length) (hn:-2000<=e.num/\e.num<=2000) (hf:Tg ds nf q ys) (hv:0<=v/\v<(q+YZ ys:Nat))
  (hb:TI ds nf (UL ds e.op e.num (q+YZ ys)) 0 bs) (hl:bs.length<=3) (h0:Y6 ys<=6*s0) (h1:X6 bs<=bs.length+6*sr) (hs:s0+sr<=Xy e.kids) (hop:TU WQ ys) (hob:QY WQ bs):LW ds nf q e (ys++[⟨e.op,e.num,0,[v],bs⟩]) ((q+YZ ys:Nat):Int):=by
 have hcb:YC e.op=false:=by simp [YC];omega
 refine ⟨Fu hf ?_,?_,?_,Gl hop (by rw [QZ];exact ⟨by show e.op<=11;omega,hob⟩)⟩
 ·rw [fS]
  exact ⟨.inl ⟨by omega,by omega⟩,fun a ha=>by rw [Xv.1 ha];exact hv,fun h=>by omega,h7,h8,fun _=>⟨v,rfl⟩,fun h=>by omega,hn,by omega,by simp,fun h=>by omega,hb⟩
 ·rw [DM (show YC (Z5.mk e.op e.num 0 [v] bs).op=false from hcb)];omega
 ·rw [TD,e.sz_eq]
  simp only [Y6,Z5.sz,YQ,Xu]
  omega
theorem RH {ds:List Zg} {op num:Int} {m k:Nat} (h:op=13):TZ ds op num m k=m+k:=Zf h
theorem Zd0 {ds:List Zg} {op num:Int} {m:Nat} (h:op≠13):TZ ds op num m 0=m:=by simp [TZ,h]
theorem RI {ds:List Zg} {op num:Int} {m k:Nat} (h:op≠13/\op≠8):TZ ds op num m k=m:=by simp [TZ,h.1,h.2]
theorem Zd1 {ds:List Zg} {op num x:Int} {m k j:Nat} (h:op=8) (hk:k=j+1) (hx:(ZY ds num)[j]? = some x):TZ ds op num m k=m+(ZV ds x).length:=by
 subst h;subst hk;rw [Nat.add_comm j 1];exact Dk hx
theorem LK {ds:List Zg} {op num x:Int} {m j:Nat} (h:op=8) (hx:(ZY ds num)[j]? = some x):UL ds op num m j=m+(ZV ds x).length:=by
 rw [UL,Zf h,Vk (i:=(j:Int)) (by simpa using hx)]
theorem LL {ds:List Zg} {op num:Int} {m j:Nat} (h:op≠8):UL ds op num m j=m:=Z8 h
theorem B7 {xs:List Z2} {k:Nat} {e:Z2} (h:xs[k]? = some e):Xy (xs.take (k+1))=Xy (xs.take k)+e.sz:=by rw [V7 h,DP,Xy,Xy];rfl
theorem Aj {xs:List Z2} (k:Nat):Xy (xs.take k)<=Xy xs:=by
 have h:=Yj Xy (UB k xs)
 rw [DP] at h;omega
theorem NM {xs:List Z2} {a b:Z2} (ha:xs[0]? = some a) (hb:xs[1]? = some b):a.sz+b.sz<=Xy xs:=by
 have h1:Xy (xs.take 1)=Xy (xs.take 0)+a.sz:=B7 ha
 have h2:Xy (xs.take 2)=Xy (xs.take 1)+b.sz:=B7 hb
 have h3:=Aj (xs:=xs) 2
 omega
theorem EC {us:LI} {v:Int} {d:Nat} (hu:∀a∈us,0<=a/\a<(q:Int)) (hv:0<=v/\v<(q+d:Nat)):∀a∈us++[v],0<=a/\a<((q+d:Nat):Int):=
 XC (fun a ha=>by have:=hu a ha;omega) hv
theorem H1 {us:LI} {d:Nat} (hu:∀a∈us,0<=a/\a<(q:Int)):∀a∈us,0<=a/\a<((q+d:Nat):Int):=fun a ha=>by have:=hu a ha;omega
theorem Zg0 {us ns:LI} {d mf:Nat} (hu:∀a∈us,0<=a/\a<(q:Int)) (hn:∀i∈ns,((q+d:Nat):Int)<=i/\i<((q+d:Nat):Int)+mf):∀a∈us++ns,0<=a/\a<((q+d+mf:Nat):Int):=fun a ha=>by
 rcases X7.1 ha with h|h
 ·have:=hu a h;omega
 ·have:=hn a h;omega
theorem EZ:∀bs:List Z7,bs.length<=X6 bs
 | []=>X5 _
 | b::r=>by have:=EZ r;have:=b.sz_pos;rw [X6,YQ];omega
end
end Go.Abs
namespace Go.Abs
structure RF (ds:List Zg) (nf q:Nat) (p:Int->Prop) (r:Yg):Prop where
 sig:(r.params,r.result)∈JB
 lent:r.lent.length<=3/\∀i∈r.lent,0<=i/\i<r.params.length
 body:fB ds nf r.params.length r.body/\r.body.sz<=q
 op:Vn p r.body
structure FO (n:Zk) (q:Nat) (p:Int->Prop):Prop where
 fn:FN n q
 op:∀r∈n.routines,Vn p r.body
theorem FO.rf {n:Zk} {q:Nat} {p:Int->Prop} (h:FO n q p) {r:Yg} (hr:r∈n.routines):RF n.decls n.routines.length q p r:=⟨h.fn.sigs r hr,h.fn.lent r hr,h.fn.body r hr,h.op r hr⟩
theorem FO.all {n:Zk} {q:Nat} {p:Int->Prop} (hd:GD n.decls) (hl:1<=n.routines.length/\n.routines.length<=4) (h:∀r∈n.routines,RF n.decls n.routines.length q p r):FO n q p:=
 ⟨⟨hd,hl,fun r hr=>(h r hr).sig,fun r hr=>(h r hr).lent,fun r hr=>(h r hr).body⟩,fun r hr=>(h r hr).op⟩
structure RN (ds:List Zg) (nf:Nat) (r:Yg):Prop where
 sig:(r.params,r.result)∈JB
 lent:r.lent=[]
 body:fB ds nf r.params.length r.body/\r.body.sz<=181
 op:Vn WQ r.body
theorem RN.all {n:Zk} {q:Nat} (hd:GD n.decls) (hl:1<=n.routines.length/\n.routines.length<=4) (h:∀r∈n.routines,RN n.decls n.routines.length r) (hq:181<=q):FO n q WQ:=
 FO.all hd hl fun r hr=>⟨(h r hr).sig,by rw [(h r hr).lent];exact ⟨by simp,fun i hi=>by cases hi⟩,⟨(h r hr).body.1,Vz (h r hr).body.2 hq⟩,(h r hr).op⟩
end Go.Abs
namespace Go.Abs
theorem RN.of {ds:List Zg} {nf:Nat} {ps:LI} {rt:Int} {b:Z7} {e:Z2} (hs:(ps,rt)∈JB) (h:LB ds nf ps.length e b) (he:e.sz<=30):RN ds nf ⟨ps,[],rt,Z7.mk b.steps b.result⟩:=by
 have e1:Z7.mk b.steps b.result=b:=by cases b;rfl
 rw [e1]
 exact ⟨hs,rfl,⟨h.fb,by have:=h.sz;show b.sz<=181;omega⟩,h.op⟩
end Go.Abs
end
namespace Go.Abs
theorem M3:∀{xs:List Z5} {s:Z5},s∈xs->s.sz<=Y6 xs
 | [],s,h=>by cases h
 | x::r,s,h=>by
  rw [Y6]
  rcases YB.1 h with rfl|h
  ·omega
  ·have:=M3 h;omega
theorem HD:∀{xs:List Z7} {b:Z7},b∈xs->b.sz<=X6 xs
 | [],b,h=>by cases h
 | x::r,b,h=>by
  rw [X6]
  rcases YB.1 h with rfl|h
  ·omega
  ·have:=HD h;omega
structure LC (n:Zk) (k:Nat) (xs:List LI):Prop where
 len:xs.length=k
 ok:∀(i:Nat) (l:LI),xs[i]? = some l->l.length<=3/\∀r,n.routines[i]? = some r->∀v∈l,0<=v/\v<(r.params.length:Int)
theorem LC.nil {n:Zk}:LC n 0 []:=⟨rfl,fun i l h=>by simp at h⟩
theorem LC.snoc {n:Zk} {k:Nat} {xs:List LI} {l:LI} (h:LC n k xs) (hl:l.length<=3) (hv:∀r,n.routines[k]? = some r->∀v∈l,0<=v/\v<(r.params.length:Int)):LC n (k+1) (xs++[l]):=by
 refine ⟨by rw [Yq,h.len];rfl,fun i l' hi=>?_⟩
 by_cases hk:i<xs.length
 ·rw [QD hk] at hi
  exact h.ok i l' hi
 ·rw [Jy om] at hi
  have h0:i-xs.length=0:=by
   cases e:i-xs.length with
   | zero=>rfl
   | succ q=>rw [e] at hi;simp at hi
  rw [h0] at hi
  cases hi
  have e:i=k:=by have:=h.len;omega
  subst e
  exact ⟨hl,hv⟩
def Ub:LI->Int->LI
 | [],y=>[y]
 | x::r,y=>if x>y then y::x::r else if x=y then x::r else x::Ub r y
def Qc (d:Bool) (xs:LI) (y:Int):LI:=if d=true then xs else Ub xs y
theorem FX {xs:LI} {y:Int}:Qc true xs y=xs:=rfl
theorem FW {xs:LI} {y:Int}:Qc false xs y=Ub xs y:=rfl
theorem OL {xs acc r:LI} {y x:Int} {k:Nat} {d:Bool} (hx:xs[k]? = some x) (hd:d=true) (h:acc++Qc d (xs.drop k) y=r):(acc++[x])++Qc d (xs.drop (k+1)) y=r:=by
 subst hd
 rw [FX,Y7 hx] at h
 rw [FX,<-h];simp
theorem Z8t {xs acc r:LI} {y x:Int} {k:Nat} {d:Bool} (hx:xs[k]? = some x) (hd:¬d=true) (hl:¬x>=y) (h:acc++Qc d (xs.drop k) y=r):(acc++[x])++Qc d (xs.drop (k+1)) y=r:=by
 have hd:=Jd.2 hd
 subst hd
 rw [FW,Y7 hx,Ub,Z8 om,Z8 om] at h
 rw [FW,<-h];simp
theorem Z8u {xs acc r:LI} {y x:Int} {k:Nat} {d:Bool} (hx:xs[k]? = some x) (hd:¬d=true) (hl:x>y) (h:acc++Qc d (xs.drop k) y=r):((acc++[y])++[x])++Qc true (xs.drop (k+1)) y=r:=by
 have hd:=Jd.2 hd
 subst hd
 rw [FW,Y7 hx,Ub,Zf hl] at h
 rw [FX,<-h];simp
theorem Z8v {xs acc r:LI} {y x:Int} {k:Nat} {d:Bool} (hx:xs[k]? = some x) (hd:¬d=true) (hl:x=y) (h:acc++Qc d (xs.drop k) y=r):(acc++[x])++Qc true (xs.drop (k+1)) y=r:=by
 have hd:=Jd.2 hd
 subst hd
 rw [FW,Y7 hx,Ub,Z8 om,Zf hl] at h
 rw [FX,<-h];simp
theorem Z8s {xs acc acc2 r:LI} {y x:Int} {k:Nat} {d d2:Bool} (hx:xs[k]? = some x) (h:acc++Qc d (xs.drop k) y=r)
  (hc:(acc2=acc/\d2=d/\(d=true∨¬x>=y))∨(acc2=acc++[y]/\d2=true/\¬d=true/\x>y)∨(acc2=acc/\d2=true/\¬d=true/\x=y)):(acc2++[x])++Qc d2 (xs.drop (k+1)) y=r:=by
 rcases hc with ⟨rfl,rfl,h3⟩|⟨rfl,rfl,h3,h4⟩|⟨rfl,rfl,h3,h4⟩
 ·rcases h3 with h3|h3
  ·exact OL hx h3 h
  ·by_cases q:d2=true
   ·exact OL hx q h
   ·exact Z8t hx q h3 h
 ·exact Z8u hx h3 h4 h
 ·exact Z8v hx h3 h4 h
theorem Z8r {xs acc r:LI} {y:Int} {k:Nat} {d:Bool} (hk:xs.length<=k) (h:acc++Qc d (xs.drop k) y=r):(if d=true then acc else acc++[y])=r:=by
 rw [Xh hk] at h
 by_cases q:d=true
 ·rw [Qc,Zf q,Jw] at h;rw [Zf q];exact h
 ·rw [Qc,Z8 q,Ub] at h;rw [Z8 q];exact h
theorem D3:∀(xs:LI) (y:Int),(Ub xs y).length<=xs.length+1
 | [],y=>X5 _
 | x::r,y=>by
  have:=D3 r y
  rw [Ub]
  split
  ·simp
  ·split
   ·simp
   ·simp only [YQ];omega
theorem E4:∀{xs:LI} {y z:Int},z∈Ub xs y↔z∈xs∨z=y
 | [],y,z=>by simp [Ub]
 | x::r,y,z=>by
  rw [Ub]
  split
  ·simp only [YB];exact ⟨fun h=>h.elim .inr .inl,fun h=>h.elim .inr .inl⟩
  ·split
   ·rename_i h;subst h;simp only [YB];exact ⟨fun h=>.inl h,fun h=>h.elim id .inl⟩
   ·simp only [YB,E4 (xs:=r)];exact ⟨fun h=>by rcases h with h|h|h<;>simp [h],fun h=>by rcases h with (h|h)|h<;>simp [h]⟩
def BK (xs:LI):Prop:=xs.Pairwise (·<·)
theorem OK:∀{xs:LI} {y:Int},BK xs->BK (Ub xs y)
 | [],y,_=>by simp [Ub,BK]
 | x::r,y,h=>by
  obtain ⟨h1,h2⟩:=WH.1 h
  rw [Ub]
  split
  ·rename_i q
   refine WH.2 ⟨fun z hz=>?_,h⟩
   rcases YB.1 hz with rfl|hz
   ·omega
   ·have:=h1 z hz;omega
  ·split
   ·exact h
   ·refine WH.2 ⟨fun z hz=>?_,OK h2⟩
    rcases E4.1 hz with hz|rfl
    ·exact h1 z hz
    ·omega
def TW:LI->Int->LI
 | [],_=>[]
 | x::r,y=>if x=y then TW r y else x::TW r y
theorem Ek:∀(xs:LI) (y:Int),(TW xs y).length<=xs.length
 | [],y=>X5 _
 | x::r,y=>by
  have:=Ek r y
  rw [TW]
  split
  ·rw [YQ];omega
  ·rw [YQ,YQ];omega
theorem De:∀{xs:LI} {y z:Int},z∈TW xs y->z∈xs
 | [],y,z,h=>by rw [TW] at h;exact h
 | x::r,y,z,h=>by
  rw [TW] at h
  split at h
  ·exact XD _ (De h)
  ·rcases YB.1 h with rfl|h
   ·exact Xf ..
   ·exact XD _ (De h)
theorem Zbg {xs acc r:LI} {y x:Int} {k:Nat} (hx:xs[k]? = some x) (h:acc++TW (xs.drop k) y=r):(if x≠y then acc++[x] else acc)++TW (xs.drop (k+1)) y=r:=by
 rw [Y7 hx,TW] at h
 by_cases q:x=y
 ·rw [Zf q] at h;rw [Z8 (fun z=>z q)];exact h
 ·rw [Z8 q] at h;rw [Zf q,<-h];simp
theorem Zbf {xs acc r:LI} {y:Int} {k:Nat} (hk:xs.length<=k) (h:acc++TW (xs.drop k) y=r):acc=r:=by
 rw [Xh hk,TW,Jw] at h;exact h
def UO (n:Int) (xs:LI) (a:Int):LI:=if 0<=a/\a<n then Ub xs a else xs
def Qz (n:Int):LI->LI->LI
 | [],xs=>xs
 | a::r,xs=>Qz n r (UO n xs a)
mutual
def Jt (n:Int):Z5->LI->LI
 | .mk op _ _ args kids,xs=>if YC op=true then xs else J8 n kids (Qz n args xs)
def J8 (n:Int):List Z7->LI->LI
 | [],xs=>xs
 | b::r,xs=>J8 n r (T5 n b xs)
def T6 (n:Int):List Z5->LI->LI
 | [],xs=>xs
 | s::r,xs=>T6 n r (Jt n s xs)
def T5 (n:Int):Z7->LI->LI
 | .mk steps result,xs=>UO n (T6 n steps xs) result
end
section
variable {n:Int}
theorem SP (s:Z5) (xs:LI):Jt n s xs=if YC s.op=true then xs else J8 n s.kids (Qz n s.args xs):=by cases s;rw [Jt];rfl
theorem SN (b:Z7) (xs:LI):T5 n b xs=UO n (T6 n b.steps xs) b.result:=by cases b;rw [T5];rfl
theorem H0 (xs:LI) (a:Int):(UO n xs a).length<=xs.length+1:=by
 rw [UO];split
 ·exact D3 xs a
 ·omega
theorem SM:∀(as1 xs:LI),(Qz n as1 xs).length<=xs.length+as1.length
 | [],xs=>X5 _
 | a::r,xs=>by
  have h1:=SM r (UO n xs a)
  have h2:=H0 (n:=n) xs a
  rw [Qz,YQ];omega
mutual
theorem SQ:∀(s:Z5) (xs:LI),(Jt n s xs).length<=xs.length+s.sz
 | .mk op num into args kids,xs=>by
  have h1:=SO kids (Qz n args xs)
  have h2:=SM (n:=n) args xs
  rw [Jt,Z5.sz];split<;>omega
theorem SO:∀(bs:List Z7) (xs:LI),(J8 n bs xs).length<=xs.length+X6 bs
 | [],xs=>X5 _
 | b::r,xs=>by
  have h1:=SO r (T5 n b xs)
  have h2:=GZ b xs
  rw [J8,X6];omega
theorem Mi:∀(bs:List Z5) (xs:LI),(T6 n bs xs).length<=xs.length+Y6 bs
 | [],xs=>X5 _
 | b::r,xs=>by
  have h1:=Mi r (Jt n b xs)
  have h2:=SQ b xs
  rw [T6,Y6];omega
theorem GZ:∀(b:Z7) (xs:LI),(T5 n b xs).length<=xs.length+b.sz
 | .mk steps result,xs=>by
  have h1:=Mi steps xs
  have h2:=H0 (n:=n) (T6 n steps xs) result
  rw [T5,Z7.sz];omega
end
theorem Zfv {as1 ys r:LI} {k:Nat} {a:Int} (h:as1[k]? = some a) (ha:Qz n (as1.drop k) ys=r):Qz n (as1.drop (k+1)) (UO n ys a)=r:=by
 rw [Y7 h,Qz] at ha;exact ha
theorem Zfx {bs:List Z7} {ys r:LI} {k:Nat} {b:Z7} (h:bs[k]? = some b) (ha:J8 n (bs.drop k) ys=r):J8 n (bs.drop (k+1)) (T5 n b ys)=r:=by
 rw [Y7 h,J8] at ha;exact ha
theorem Zfz {bs:List Z5} {ys r:LI} {k:Nat} {b:Z5} (h:bs[k]? = some b) (ha:T6 n (bs.drop k) ys=r):T6 n (bs.drop (k+1)) (Jt n b ys)=r:=by
 rw [Y7 h,T6] at ha;exact ha
theorem Zfu {as1 ys r:LI} {k:Nat} (h:as1.length<=k) (ha:Qz n (as1.drop k) ys=r):ys=r:=by rw [Xh h,Qz] at ha;exact ha
theorem Zfw {bs:List Z7} {ys r:LI} {k:Nat} (h:bs.length<=k) (ha:J8 n (bs.drop k) ys=r):ys=r:=by rw [Xh h,J8] at ha;exact ha
theorem Zfy {bs:List Z5} {ys r:LI} {k:Nat} (h:bs.length<=k) (ha:T6 n (bs.drop k) ys=r):ys=r:=by rw [Xh h,T6] at ha;exact ha
end
theorem Ms {s:Z5} (h:Cn s):∃a,s.args=[a]:=⟨gI s.args 0,by have:=Yj Z5.args h;exact this⟩
section
variable {xs:LI} {v:Int} {lo hi:Nat}
end
section
variable {m:Int} {xs du dr:List Z5} {lf:LI} {d:Bool} {k:Nat} {s:Z5} {W:List Z5 × List Z5 × LI}
end
def YW:List Z5->Nat
 | []=>0
 | s::r=>if YC s.op=true then YW r+1 else 0
def Wc (op x:Int):List Z5->Int->Int
 | [],_=>-1
 | s::r,k=>if s.op=op/\gI s.args 0=x then k else Wc op x r (k+1)
def Kh (many:Nat) (s:Z5):Prop:=(s.op=6/\s.into=0)/\s.args.length=many
instance (many:Nat) (s:Z5):Decidable (Kh many s):=by unfold Kh;infer_instance
def Wv (many:Nat):List Z5->Int->Int
 | [],_=>-1
 | s::r,k=>if Kh many s then k else Wv many r (k+1)
def B9 (xs:List Z5) (i:Int):Z5:=xs[i.toNat]?.getD (Zx 0 0)
def Qq (v:Int) (s:Z5):Z5:=.mk s.op s.num v s.args s.kids
def Vu (xs:List Z5) (x:Int):Int:=Wc 16 x (xs.take (YW xs)) 0
def WJ (xs:List Z5) (many:Nat):Int:=Wv many (xs.drop (YW xs)) (YW xs)
def Ud (xs:List Z5) (x:Int) (many:Nat):List Z5:=
 if Vu xs x<0∨WJ xs many<0 then xs else (xs.set (Vu xs x).toNat (Zx 17 x)).set (WJ xs many).toNat (Qq (1+x) (B9 xs (WJ xs many)))
def U5 (b:Z7) (x:Int) (many:Nat):Z7:=.mk (Ud b.steps x many) b.result
mutual
def Qg (ds:List Zg) (kept:LI):Z5->Z5
 | .mk op num into args kids=>.mk op num into args (Uw ds kept op num args kids 0)
def Uw (ds:List Zg) (kept:LI) (op num:Int) (args:LI):List Z7->Nat->List Z7
 | [],_=>[]
 | b::r,k=>(if op=8/\¬gI args 0∈kept then U5 (WB ds (if Vu b.steps (gI args 0)<0∨WJ b.steps (UY ds num k).length<0 then kept else gI args 0::kept) b) (gI args 0) (UY ds num k).length else WB ds kept b)::Uw ds kept op num args r (k+1)
def UK (ds:List Zg) (kept:LI):List Z5->List Z5
 | []=>[]
 | s::r=>Qg ds kept s::UK ds kept r
def WB (ds:List Zg) (kept:LI):Z7->Z7
 | .mk steps result=>.mk (UK ds kept steps) result
end
def G4 (ds:List Zg) (kept:LI) (num:Int) (args:LI) (k:Nat) (b:Z7):LI:=if Vu b.steps (gI args 0)<0∨WJ b.steps (UY ds num k).length<0 then kept else gI args 0::kept
def TY (ds:List Zg) (kept:LI) (op num:Int) (args:LI) (k:Nat) (b:Z7):Z7:=if op=8/\¬gI args 0∈kept then U5 (WB ds (G4 ds kept num args k b) b) (gI args 0) (UY ds num k).length else WB ds kept b
theorem Bn (ds:List Zg) (kept:LI) (s:Z5):Qg ds kept s=.mk s.op s.num s.into s.args (Uw ds kept s.op s.num s.args s.kids 0):=by cases s;rw [Qg];rfl
theorem Gt (ds:List Zg) (kept:LI) (b:Z7):WB ds kept b=.mk (UK ds kept b.steps) b.result:=by cases b;rw [WB];rfl
theorem Gv (ds:List Zg) (kept:LI):∀xs:List Z5,UK ds kept xs=xs.map (Qg ds kept)
 | []=>rfl
 | s::r=>by rw [UK,Gv ds kept r];rfl
section
variable {ds:List Zg} {kept:LI}
theorem Zcn {xs acc r:List Z5} {k:Nat} {s:Z5} (h:xs[k]? = some s) (ha:acc++UK ds kept (xs.drop k)=r) :
  (acc++[.mk s.op s.num s.into s.args (Uw ds kept s.op s.num s.args s.kids 0)])++UK ds kept (xs.drop (k+1))=r:=by
 rw [Y7 h,UK,Bn] at ha
 rw [<-ha];simp
theorem Zcm {xs acc r:List Z5} {k:Nat} (h:xs.length<=k) (ha:acc++UK ds kept (xs.drop k)=r):acc=r:=by
 rw [Xh h,UK,Jw] at ha;exact ha
theorem Zch {op num:Int} {args:LI} {bs acc r:List Z7} {k:Nat} {b:Z7} (h:bs[k]? = some b) (ha:acc++Uw ds kept op num args (bs.drop k) k=r) :
  (acc++[TY ds kept op num args k b])++Uw ds kept op num args (bs.drop (k+1)) (k+1)=r:=by
 rw [Y7 h,Uw] at ha
 rw [<-ha,TY,G4];simp
theorem Zcg {op num:Int} {args:LI} {bs acc r:List Z7} {k j:Nat} (h:bs.length<=k) (ha:acc++Uw ds kept op num args (bs.drop k) j=r):acc=r:=by
 rw [Xh h,Uw,Jw] at ha;exact ha
end
section
variable {ds:List Zg}
mutual
theorem Zck:∀(s:Z5) {K K':LI},(∀z,z∈K↔z∈K')->Qg ds K s=Qg ds K' s
 | .mk op num into args kids,K,K',h=>by rw [Qg,Qg,Rv kids h]
theorem Rv:∀(bs:List Z7) {K K':LI} {op num:Int} {args:LI} {k:Nat},(∀z,z∈K↔z∈K')->Uw ds K op num args bs k=Uw ds K' op num args bs k
 | [],_,_,_,_,_,_,_=>by rw [Uw,Uw]
 | b::r,K,K',op,num,args,k,h=>by
  have h1:=Rv r (op:=op) (num:=num) (args:=args) (k:=k+1) h
  have h2:=LD b h
  have h3:∀z,z∈(gI args 0::K)↔z∈(gI args 0::K'):=fun z=>by rw [YB,YB,h z]
  have h4:=LD b h3
  rw [Uw,Uw,h1,h2]
  congr 1
  by_cases hq:op=8/\¬gI args 0∈K
  ·have hq':op=8/\¬gI args 0∈K':=⟨hq.1,fun z=>hq.2 ((h _).2 z)⟩
   rw [Zf hq,Zf hq']
   congr 1
   split
   ·exact h2
   ·exact h4
  ·have hq':¬(op=8/\¬gI args 0∈K'):=fun z=>hq ⟨z.1,fun y=>z.2 ((h _).1 y)⟩
   rw [Z8 hq,Z8 hq']
theorem Rx:∀(xs:List Z5) {K K':LI},(∀z,z∈K↔z∈K')->UK ds K xs=UK ds K' xs
 | [],_,_,_=>by rw [UK,UK]
 | s::r,K,K',h=>by rw [UK,UK,Zck s h,Rx r h]
theorem LD:∀(b:Z7) {K K':LI},(∀z,z∈K↔z∈K')->WB ds K b=WB ds K' b
 | .mk steps result,K,K',h=>by rw [WB,WB,Rx steps h]
end
end
theorem E8:∀xs:List Z5,YW xs<=xs.length
 | []=>X5 _
 | s::r=>by have:=E8 r;rw [YW];split<;>simp<;>omega
section
variable {f:Z5->Z5} (hop:∀s,(f s).op=s.op) (hin:∀s,(f s).into=s.into) (har:∀s,(f s).args=s.args)
include hop
theorem IT:∀xs:List Z5,YW (xs.map f)=YW xs
 | []=>rfl
 | s::r=>by rw [Un,YW,YW,hop,IT r]
include har
theorem MT {op x:Int}:∀(xs:List Z5) (k:Int),Wc op x (xs.map f) k=Wc op x xs k
 | [],_=>rfl
 | s::r,k=>by rw [Un,Wc,Wc,hop,har,MT r]
theorem Zb7 (xs:List Z5) (x:Int):Vu (xs.map f) x=Vu xs x:=by rw [Vu,IT hop,<-List.map_take,MT hop har,Vu]
include hin
theorem Nl {many:Nat}:∀(xs:List Z5) (k:Int),Wv many (xs.map f) k=Wv many xs k
 | [],_=>rfl
 | s::r,k=>by
  have e:Kh many (f s)↔Kh many s:=by rw [Kh,Kh,hop,hin,har]
  rw [Un,Wv,Wv,Nl r]
  by_cases h:Kh many s
  ·rw [Zf h,Zf (e.2 h)]
  ·rw [Z8 h,Z8 (fun z=>h (e.1 z))]
theorem Z2v (xs:List Z5) (many:Nat):WJ (xs.map f) many=WJ xs many:=by rw [WJ,IT hop,<-List.map_drop,Nl hop hin har,WJ]
end
theorem MS {op x:Int}:∀{xs:List Z5} {k:Int},¬Wc op x xs k<0->0<=k->k<=Wc op x xs k/\Wc op x xs k<k+xs.length/\∃s,xs[(Wc op x xs k-k).toNat]? = some s/\s.op=op/\gI s.args 0=x
 | [],k,h,_=>by simp [Wc] at h
 | s::r,k,h,hk=>by
  rw [Wc] at h ⊢
  split
  ·rename_i q
   refine ⟨Int.le_refl _,by rw [YQ];omega,s,?_,q⟩
   rw [Int.sub_self];rfl
  ·rename_i q
   rw [Z8 q] at h
   obtain ⟨h1,h2,t,h3,h4⟩:=MS (xs:=r) (k:=k+1) h om
   refine ⟨by omega,by rw [YQ];omega,t,?_,h4⟩
   rw [show (Wc op x r (k+1)-k).toNat=(Wc op x r (k+1)-(k+1)).toNat+1 by omega,List.getElem?_cons_succ]
   exact h3
theorem Nk {many:Nat}:∀{xs:List Z5} {k:Int},¬Wv many xs k<0->0<=k->k<=Wv many xs k/\Wv many xs k<k+xs.length/\∃s,xs[(Wv many xs k-k).toNat]? = some s/\Kh many s
 | [],k,h,_=>by simp [Wv] at h
 | s::r,k,h,hk=>by
  rw [Wv] at h ⊢
  split
  ·rename_i q
   refine ⟨Int.le_refl _,by rw [YQ];omega,s,?_,q⟩
   rw [Int.sub_self];rfl
  ·rename_i q
   rw [Z8 q] at h
   obtain ⟨h1,h2,t,h3,h4⟩:=Nk (xs:=r) (k:=k+1) h om
   refine ⟨by omega,by rw [YQ];omega,t,?_,h4⟩
   rw [show (Wv many r (k+1)-k).toNat=(Wv many r (k+1)-(k+1)).toNat+1 by omega,List.getElem?_cons_succ]
   exact h3
theorem Ej {xs:List Z5} {x:Int} (h:¬Vu xs x<0):0<=Vu xs x/\Vu xs x<YW xs/\∃s,xs[(Vu xs x).toNat]? = some s/\s.op=16/\gI s.args 0=x:=by
 obtain ⟨h1,h2,s,h3,h4⟩:=MS h (Int.le_refl 0)
 have hl:=E8 xs
 rw [WC,VA hl] at h2
 have h2':Vu xs x<YW xs:=by unfold Vu;omega
 have h1':0<=Vu xs x:=h1
 refine ⟨h1',h2',s,?_,h4⟩
 rw [Int.sub_zero] at h3
 have h5:(Vu xs x).toNat<YW xs:=by omega
 rwa [show Wc 16 x (xs.take (YW xs)) 0=Vu xs x from rfl,List.getElem?_take_of_lt h5] at h3
theorem Ac {xs:List Z5} {many:Nat} (h:¬WJ xs many<0):(YW xs:Int)<=WJ xs many/\WJ xs many<xs.length/\∃s,xs[(WJ xs many).toNat]? = some s/\Kh many s/\B9 xs (WJ xs many)=s:=by
 obtain ⟨h1,h2,s,h3,h4⟩:=Nk h om
 have hl:=E8 xs
 rw [BB] at h2
 have h1':(YW xs:Int)<=WJ xs many:=h1
 have h2':WJ xs many<xs.length:=by unfold WJ;omega
 rw [BA,show Wv many (xs.drop (YW xs)) (YW xs)=WJ xs many from rfl,show YW xs+(WJ xs many-(YW xs:Int)).toNat=(WJ xs many).toNat by omega] at h3
 exact ⟨h1',h2',s,h3,h4,by rw [B9,h3];rfl⟩
theorem Zbz {f:Z5->Z5} (hop:∀s,(f s).op=s.op) (hin:∀s,(f s).into=s.into) (har:∀s,(f s).args=s.args) (hc:∀x,f (Zx 17 x)=Zx 17 x) (hi:∀v s,f (Qq v s)=Qq v (f s)) (xs:List Z5) (x:Int) (many:Nat) :
  Ud (xs.map f) x many=(Ud xs x many).map f:=by
 rw [Ud,Zb7 hop har,Z2v hop hin har,Ud]
 split
 ·rfl
 ·rename_i hq
  obtain ⟨_,_,s,h3,_,h5⟩:=Ac (fun z=>hq (.inr z))
  have e:B9 (xs.map f) (WJ xs many)=f (B9 xs (WJ xs many)):=by rw [B9,T8,h3,h5];rfl
  rw [e,List.map_set,List.map_set,hc,hi]
theorem Rt {ds:List Zg} {K:LI} {b:Z7} {x:Int} {many:Nat}:WB ds K (U5 b x many)=U5 (WB ds K b) x many:=by
 rw [U5,WB,U5,Gt,Gv,Gv]
 show Z7.mk _ _=Z7.mk (Ud (b.steps.map (Qg ds K)) x many) b.result
 rw [Zbz (f:=Qg ds K) (fun s=>by rw [Bn];rfl) (fun s=>by rw [Bn];rfl) (fun s=>by rw [Bn];rfl) (fun x=>by rw [Bn];rfl) (fun v s=>by rw [Bn,Bn];rfl)]
structure CB (c:LI) (q:Int):Prop where
 len:c.length=4
 bd:∀x∈c,0<=x/\x<=q
mutual
def Ca:Z5->Prop
 | .mk op _ _ _ kids=>op≠17/\Bf kids
def Bf:List Z7->Prop
 | []=>True
 | b::r=>QX b/\Bf r
def Bg:List Z5->Prop
 | []=>True
 | s::r=>Ca s/\Bg r
def QX:Z7->Prop
 | .mk steps _=>Bg steps
end
theorem Dc (s:Z5):Ca s↔s.op≠17/\Bf s.kids:=by cases s;rw [Ca];rfl
theorem Ee (b:Z7):QX b↔Bg b.steps:=by cases b;rw [QX];rfl
theorem Ef:∀{xs:List Z5},Bg xs↔∀s∈xs,Ca s
 | []=>by simp [Bg]
 | s::r=>by rw [Bg,Ef];simp
theorem Gg:∀{xs:List Z7},Bf xs↔∀s∈xs,QX s
 | []=>by simp [Bf]
 | s::r=>by rw [Bf,Gg];simp
theorem GS:∀{xs:List Z5} {i:Nat} {s:Z5} (t:Z5),xs[i]? = some s->Y6 (xs.set i t)+s.sz=Y6 xs+t.sz
 | [],_,_,_,h=>by simp at h
 | x::r,0,s,t,h=>by simp at h;subst h;rw [List.set_cons_zero,Y6,Y6];omega
 | x::r,i+1,s,t,h=>by
  have:=GS (xs:=r) (i:=i) t (by simpa using h)
  rw [List.set_cons_succ,Y6,Y6];omega
theorem Z91 (v:Int) (s:Z5):(Qq v s).sz=s.sz:=by cases s;rw [Qq,Z5.sz,Z5.sz];rfl
theorem Nm {xs:List Z5} {x:Int} {many:Nat} (h:¬(Vu xs x<0∨WJ xs many<0)):(Vu xs x).toNat<(WJ xs many).toNat:=by
 obtain ⟨h1,h2,_⟩:=Ej (fun z=>h (.inl z))
 obtain ⟨h3,h4,_⟩:=Ac (fun z=>h (.inr z))
 omega
theorem Gs {xs:List Z5} {x:Int} {many:Nat} (h:¬(Vu xs x<0∨WJ xs many<0)) {t:Z5} {s:Z5} (hs:xs[(WJ xs many).toNat]? = some s):(xs.set (Vu xs x).toNat t)[(WJ xs many).toNat]? = some s:=by
 have:=Nm h
 rw [List.getElem?_set_ne om];exact hs
theorem Rj {xs:List Z5} {x:Int} {many:Nat} (h:∀s∈xs,YC s.op=true->2<=s.sz):Y6 (Ud xs x many)<=Y6 xs:=by
 rw [Ud]
 split
 ·exact X5 _
 ·rename_i hq
  obtain ⟨_,_,s,h3,h4,_⟩:=Ej (fun z=>hq (.inl z))
  obtain ⟨_,_,t,h5,_,h6⟩:=Ac (fun z=>hq (.inr z))
  have e1:=GS (Zx 17 x) h3
  have e2:=GS (Qq (1+x) (B9 xs (WJ xs many))) (Gs hq (t:=Zx 17 x) h5)
  have h7:=h s (ZX h3) (by rw [h4];rfl)
  rw [F8] at e1
  rw [Z91,h6] at e2
  rw [h6]
  omega
section
variable {ds:List Zg}
theorem Zgh {v:Int} {s:Z5} (h:wS ds s) (h6:s.op=6):wS ds (Qq v s):=by
 obtain ⟨h1,h2,h3,h4⟩:=(Ju s).1 h
 exact (Ju _).2 ⟨h1,fun hc=>absurd hc (by show ¬YC s.op=true;rw [h6];decide),h3,h4⟩
theorem Zge {v:Int}:wS ds (Zx 17 v):=(Ju _).2 ⟨rfl,fun _=>⟨rfl,rfl,rfl,v,rfl⟩,fun e=>absurd e (show (17:Int)≠8 by decide),True.intro⟩
theorem Zgd {xs:List Z5} {x:Int} {many:Nat} (h:K8 ds xs):K8 ds (Ud xs x many):=by
 rw [Ud]
 split
 ·exact h
 ·rename_i hq
  obtain ⟨_,_,t,h5,h7,h6⟩:=Ac (fun z=>hq (.inr z))
  rw [AI]
  intro s hs
  rcases List.mem_or_eq_of_mem_set hs with hs|rfl
  ·rcases List.mem_or_eq_of_mem_set hs with hs|rfl
   ·exact AI.1 h s hs
   ·exact Zge
  ·rw [h6];exact Zgh (AI.1 h t (ZX h5)) h7.1.1
theorem Zgc {b:Z7} {x:Int} {many:Nat} (h:wB ds b):wB ds (U5 b x many):=by rw [U5,Jc];exact Zgd ((Jc b).1 h)
variable (hd:Wr ds)
mutual
theorem Zcl:∀(s:Z5) {K:LI},wS ds s->(Qg ds K s).sz<=s.sz
 | .mk op num into args kids,K,h=>by
  have:=Rw kids (K:=K) (op:=op) (num:=num) (args:=args) (k:=0) h.2.2.2
  rw [Qg,Z5.sz,Z5.sz];omega
theorem Rw:∀(bs:List Z7) {K:LI} {op num:Int} {args:LI} {k:Nat},AH ds bs->X6 (Uw ds K op num args bs k)<=X6 bs
 | [],_,_,_,_,_,_=>X5 _
 | b::r,K,op,num,args,k,h=>by
  have h2:=Rw r (K:=K) (op:=op) (num:=num) (args:=args) (k:=k+1) h.2
  have key:∀K2:LI,(U5 (WB ds K2 b) (gI args 0) (UY ds num k).length).sz<=b.sz:=fun K2=>by
   have h1:=LE b (K:=K2) h.1
   have h3:=Rj (xs:=(WB ds K2 b).steps) (x:=gI args 0) (many:=(UY ds num k).length) (by
    rw [Gt,Gv]
    intro s hs hc
    obtain ⟨t,ht,rfl⟩:=W9.1 hs
    rw [Bn] at hc ⊢
    obtain ⟨_,_,a,ha⟩:=H5 (AI.1 ((Jc b).1 h.1) t ht) hc
    rw [Z5.sz,ha];simp)
   rw [U5,Z7.sz]
   rw [Z7.sz_eq] at h1
   omega
  rw [Uw,X6,X6]
  split
  ·have:=key (if Vu b.steps (gI args 0)<0∨WJ b.steps (UY ds num k).length<0 then K else gI args 0::K)
   omega
  ·have:=LE b (K:=K) h.1
   omega
theorem Ry:∀(xs:List Z5) {K:LI},K8 ds xs->Y6 (UK ds K xs)<=Y6 xs
 | [],_,_=>X5 _
 | s::r,K,h=>by
  have h1:=Zcl s (K:=K) h.1
  have h2:=Ry r (K:=K) h.2
  rw [UK,Y6,Y6];omega
theorem LE:∀(b:Z7) {K:LI},wB ds b->(WB ds K b).sz<=b.sz
 | .mk steps result,K,h=>by
  have:=Ry steps (K:=K) h
  rw [WB,Z7.sz,Z7.sz];omega
end
end
theorem IU:∀{xs:List Z5} {i:Nat} {s t:Z5},xs[i]? = some s->YC t.op=YC s.op->YW (xs.set i t)=YW xs
 | [],_,_,_,h,_=>by simp at h
 | x::r,0,s,t,h,e=>by simp at h;subst h;rw [List.set_cons_zero,YW,YW,e]
 | x::r,i+1,s,t,h,e=>by
  rw [List.set_cons_succ,YW,YW,IU (xs:=r) (i:=i) (by simpa using h) e]
theorem Z9s {xs:List Z5} {x:Int} {many:Nat}:YW (Ud xs x many)=YW xs:=by
 rw [Ud]
 split
 ·rfl
 ·rename_i hq
  obtain ⟨_,_,s,h3,h4,_⟩:=Ej (fun z=>hq (.inl z))
  obtain ⟨_,_,t,h5,_,h6⟩:=Ac (fun z=>hq (.inr z))
  rw [IU (Gs hq (t:=Zx 17 x) h5) (by rw [h6];rfl),IU h3 (by rw [h4];rfl)]
theorem MV {op x:Int}:∀{xs:List Z5} {k:Int},(∀s∈xs,s.op≠op)->Wc op x xs k=-1
 | [],_,_=>rfl
 | s::r,k,h=>by
  rw [Wc,Z8 (fun z=>h s (Xf ..) z.1)]
  exact MV fun t ht=>h t (XD _ ht)
theorem MW {op x:Int}:∀{xs:List Z5} {k:Int},0<=k->(∃s∈xs,s.op=op/\gI s.args 0=x)->0<=Wc op x xs k
 | [],_,_,h=>by obtain ⟨s,hs,_⟩:=h;cases hs
 | s::r,k,hk,h=>by
  rw [Wc]
  split
  ·exact hk
  ·rename_i q
   obtain ⟨t,ht,h1⟩:=h
   rcases YB.1 ht with rfl|ht
   ·exact absurd h1 q
   ·exact MW om ⟨t,ht,h1⟩
theorem SC {xs:List Z5} {x:Int} {many:Nat} (hn:Bg xs):0<=Wc 17 x ((Ud xs x many).take (YW (Ud xs x many))) 0↔¬(Vu xs x<0∨WJ xs many<0):=by
 rw [Z9s]
 constructor
 ·intro h hq
  rw [Ud,Zf hq,MV (fun s hs=>((Dc s).1 (Ef.1 hn s (TN hs))).1)] at h
  omega
 ·intro hq
  obtain ⟨h1,h2,s,h3,h4,_⟩:=Ej (fun z=>hq (.inl z))
  have hap:=Nm hq
  refine MW (Int.le_refl 0) ⟨Zx 17 x,?_,rfl,rfl⟩
  rw [Ud,Z8 hq]
  refine ZX (i:=(Vu xs x).toNat) ?_
  rw [List.getElem?_take_of_lt om,List.getElem?_set_ne om,List.getElem?_set_self (Xc.1 h3).1]
def Bh (b:Z7):Prop:=∀s∈b.steps,Bf s.kids
theorem C9 {b:Z7} (h:QX b):Bh b:=fun s hs=>((Dc s).1 (Ef.1 ((Ee b).1 h) s hs)).2
theorem Zam {b:Z7} {k j:Nat} {s:Z5} {c:Z7} (h:Bh b) (hs:b.steps[k]? = some s) (hc:s.kids[j]? = some c):QX c:=Gg.1 (h s (ZX hs)) c (ZX hc)
theorem PE {b:Z7} {x:Int} {many:Nat} (h:QX b):Bh (U5 b x many):=by
 intro s hs
 have hs:s∈Ud b.steps x many:=hs
 rw [Ud] at hs
 split at hs
 ·exact C9 h s hs
 ·rename_i hq
  obtain ⟨_,_,t,h5,_,h6⟩:=Ac (fun z=>hq (.inr z))
  rcases List.mem_or_eq_of_mem_set hs with hs|rfl
  ·rcases List.mem_or_eq_of_mem_set hs with hs|rfl
   ·exact C9 h s hs
   ·exact True.intro
  ·rw [h6];exact C9 h t (ZX h5)
theorem Zby {ds:List Zg} {b:Z7} {x:Int} {many:Nat} (h:wB ds b):(U5 b x many).sz<=b.sz:=by
 have:=Rj (xs:=b.steps) (x:=x) (many:=many) fun s hs hc=>by
  have h7:=Hg ((Jc b).1 h) s hs hc
  rw [h7,F8];omega
 rw [U5,Z7.sz,b.sz_eq];omega
def Bm (ds:List Zg) (r:Yg):Yg:=⟨r.params,r.lent,r.result,WB ds [] r.body⟩
def Gu (n:Zk):Zk:=⟨n.decls,n.routines.map (Bm n.decls)⟩
end Go.Abs
