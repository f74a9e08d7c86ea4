/-
  A part of the proofs of several laws (see the last file): no condition.
-/
import Derived.Test.YtfjgjacklgaioaaGreatVjA
import Derived.Test.YtfjgjacklgaioaaGreatRows
import Derived.Deep.Slices
import Derived.ChangeArms
set_option linter.all false
set_option linter.unusedVariables false
set_option linter.unusedSimpArgs false
set_option linter.unusedSectionVars false
set_option maxRecDepth 10000
set_option maxHeartbeats 4000000
namespace Go.Abs
theorem JL.mono {w:World} {G G':Ye} {v:Value} {k:Nat} {ls:List AV} (hA:U6 G w w G') (h:JL w G v k ls):JL w G' v k ls:=by
 rcases h with ⟨rfl,h0⟩|⟨g,len,cap,cur,el,rfl,h1,h2,h3,h4,h5⟩
 ·exact .inl ⟨rfl,h0⟩
 ·exact .inr ⟨g,len,cap,cur,el,rfl,h1,h2,h3,h4,h5.mono hA⟩
theorem Qi.same {w:World} {G G':Ye} {r:Res} (hA:U6 G w w G') (h:Qi w G r):Qi w G' r:=by
 cases r with
 | obj b ls=>obtain ⟨cs,e,h1,h2⟩:=h;exact ⟨cs,e,h1,h2.mono hA⟩
 | tail v k=>exact h
 | ge s=>exact h
 | vec v ls=>
  rcases h with ⟨rfl,h0⟩|⟨g,cap,cur,el,rfl,h1,h2,h3,h4⟩
  ·exact .inl ⟨rfl,h0⟩
  ·exact .inr ⟨g,cap,cur,el,rfl,h1,h2,h3,h4.mono hA⟩
 | many ts=>exact h
 | own B m=>exact h
 | row v k ls=>exact h.mono hA
theorem Yu.alloc_rrow {w:World} {G:Ye} {h:List Res} (hh:Yu w G h) (cs:Array Value) (t:TypeId) {ls:List AV} {len cap k:Nat} (hcap:len<=cap) (Xr:cs.size=cap*k) (hl:ls.length=len*k)
  (hls:YV w G ls (cs.toList.take (len*k))) :
  Yu (w.alloc (.cells cs t)) G (.row (.slice (some ⟨w.heap.size,0,none⟩) len cap) k ls::h)/\YX w G h (w.alloc (.cells cs t)) G (.row (.slice (some ⟨w.heap.size,0,none⟩) len cap) k ls::h):=by
 have hA:U6 G w (w.alloc (.cells cs t)) G:=⟨fun b j hg=>DM w _ (hh.lt b j hg),fun _ _ h=>h⟩
 refine hh.alloc (.cells cs t) (h':=[.row (.slice (some ⟨w.heap.size,0,none⟩) len cap) k ls]) (fun _ _ h=>h) (fun _ _ h=>.inl h) ?_ ?_ (BJ _ _) ?_
 ·intro r hr
  rw [XI.1 hr]
  exact .inr ⟨_,len,cap,cs,t,rfl,CW w _,hcap,Xr,hl,hls.mono hA⟩
 ·intro r hr b j hf
  rw [XI.1 hr] at hf
  exact hf
 ·intro r hr b j hf hg
  rw [XI.1 hr] at hf
  have:=hh.lt b j hg
  have:b=w.heap.size:=hf
  omega
theorem Yu.rwrite {w:World} {G:Ye} {h2:List Res} {g len cap k:Nat} {ls ls':List AV} (hh:Yu w G (.row (.slice (some ⟨g,0,none⟩) len cap) k ls::h2)) {cs cs':Array Value} {e:TypeId}
  (hb:w.heap[g]? = some (.cells cs e (0,0))) (Xr:cs'.size=cs.size) (hle:len<=cap) (hcap:cs.size=cap*k) (hl:ls'.length=len*k) (hls:YV w G ls' (cs'.toList.take (len*k))) :
  Yu (w.setRow g cs') G (.row (.slice (some ⟨g,0,none⟩) len cap) k ls'::h2) /\
   YX w G (.row (.slice (some ⟨g,0,none⟩) len cap) k ls::h2) (w.setRow g cs') G (.row (.slice (some ⟨g,0,none⟩) len cap) k ls'::h2):=by
 have hmem:Res.row (.slice (some ⟨g,0,none⟩) len cap) k ls∈Res.row (.slice (some ⟨g,0,none⟩) len cap) k ls::h2:=Xs ..
 have hA:U6 G w (w.setRow g cs') G:=⟨fun c j hg=>by
  have hne:c≠g:=fun he=>hh.prot _ hmem c j he hg
  simp [World.cell?,U5 w g c cs' hne],fun _ _ h=>h⟩
 have hpw:=WZ.1 hh.apart
 have hother:∀r∈h2,∀c j,r.fp c j->c≠g:=fun r hr c j hf hc=>hpw.1 r hr c j hc hf
 have e1:YX w G [.row (.slice (some ⟨g,0,none⟩) len cap) k ls] (w.setRow g cs') G [.row (.slice (some ⟨g,0,none⟩) len cap) k ls']:=by
  refine ⟨rfl,rfl,rfl,by simp [World.setRow],fun _ _ h=>h,?_,fun _ _ _ h=>.inl h,?_⟩
  ·intro c hc
   by_cases hcb:c=g
   ·subst hcb
    exact .inr ⟨cs,cs',e,(0,0),hb,setRow_heap w c cs cs' e (0,0) hb,Xr,fun j hj=>absurd ⟨_,Xs ..,rfl⟩ hj⟩
   ·exact .inl (U5 w g c cs' hcb)
  ·rintro c j _ ⟨r,hr,hf⟩
   rw [XI.1 hr] at hf
   exact ⟨_,Xs ..,hf⟩
 have e2:Yu (w.setRow g cs') G [.row (.slice (some ⟨g,0,none⟩) len cap) k ls']:=by
  refine ⟨fun r hr=>?_,BJ _ _,fun r hr c j hf hg=>?_,fun c j hg=>?_⟩
  ·rw [XI.1 hr]
   exact .inr ⟨g,len,cap,cs',e,rfl,setRow_heap w g cs cs' e (0,0) hb,hle,Xr.trans hcap,hl,hls.mono hA⟩
  ·rw [XI.1 hr] at hf
   exact hh.prot _ hmem c j hf hg
  ·have:=hh.lt c j hg
   simpa [World.setRow] using this
 exact Yu.frame (h:=[.row (.slice (some ⟨g,0,none⟩) len cap) k ls]) (k:=h2) hh e1 e2
theorem Zdx {w:World} {G:Ye} {h:List Res} {k:Nat} (hh:Yu w G h):Yu w G (.row (.slice none 0 0) k []::h)/\YX w G h w G (.row (.slice none 0 0) k []::h):=
 ⟨⟨fun r hr=>by
   rcases YD.1 hr with rfl|hr
   ·exact .inl ⟨rfl,rfl⟩
   ·exact hh.ok r hr,WZ.2 ⟨fun _ _ _ _ hf=>hf.elim,hh.apart⟩,fun r hr b o hf hg=>by
   rcases YD.1 hr with rfl|hr
   ·exact hf.elim
   ·exact hh.prot r hr b o hf hg,hh.lt⟩,
  ⟨rfl,rfl,rfl,X7 _,fun _ _ h=>h,fun _ _=>.inl rfl,fun _ _ _ h=>.inl h,fun b o _ ⟨r,hr,hf⟩=>by
   rcases YD.1 hr with rfl|hr
   ·exact hf.elim
   ·exact ⟨r,hr,hf⟩⟩⟩
theorem JL.form {w:World} {G:Ye} {v:Value} {k:Nat} {ls:List AV} (h:JL w G v k ls):∃a len cap,v=.slice a len cap/\ls.length=len*k:=by
 rcases h with ⟨rfl,rfl⟩|⟨g,len,cap,cur,e,rfl,_,_,_,h4,_⟩
 ·exact ⟨none,0,0,rfl,by simp⟩
 ·exact ⟨_,len,cap,rfl,h4⟩
theorem Ch {w:World} {G:Ye} {v:Value} {k:Nat} {es:List AV} {h2:List Res} (hh:Yu w G (.row v k (Zp es)::h2)) (hes:∀y∈es,y.leaves.length=k) (hk:0<k) :
  ∃G',Yu w G' (.tail v k::h2)/\YX w G (.row v k (Zp es)::h2) w G' (.tail v k::h2)/\RV w G' (.sl es (some v)) v:=by
 have hpw:=WZ.1 hh.apart
 have hfl:=TT es hes
 rcases hh.ok _ (Xs ..) with ⟨rfl,h0⟩|⟨g,len,cap,cur,e,rfl,h1,h3,h4,h5,h6⟩
 ·have hes0:es=[]:=by
   cases es with
   | nil=>rfl
   | cons y r=>
    have h7:0<(r.length+1)*k:=Nat.mul_pos om hk
    rw [h0,YT] at hfl
    rw [<-hfl] at h7
    simp at h7
  subst hes0
  obtain ⟨k1,k2⟩:=Mx (sz:=k) (hh.sub (BK _ _))
  refine ⟨G,k1,⟨rfl,rfl,rfl,X7 _,fun _ _ h=>h,fun _ _=>.inl rfl,fun _ _ _ h=>.inl h,?_⟩,.nil (by simp)⟩
  rintro b o _ ⟨r,hr,hf⟩
  rcases YD.1 hr with rfl|hr
  ·exact hf.elim
  ·exact ⟨r,XL _ hr,hf⟩
 ·have hlen:len=es.length:=Hq hk (h5.symm.trans hfl)
  subst hlen
  let G':Ye:=fun b o=>G b o∨(b=g/\o<es.length*k)
  have hA:U6 G w w G':=⟨fun _ _ _=>rfl,fun _ _ h=>.inl h⟩
  have hmem:Res.row (.slice (some ⟨g,0,none⟩) es.length cap) k (Zp es)∈Res.row (.slice (some ⟨g,0,none⟩) es.length cap) k (Zp es)::h2:=Xs ..
  refine ⟨G',⟨fun r hr=>?_,WZ.2 ⟨fun r hr b o f1 f2=>hpw.1 r hr b o f1.1 f2,hpw.2⟩,fun r hr b o hf hg=>?_,fun b o hg=>?_⟩,
   ⟨rfl,rfl,rfl,X7 _,fun _ _ h=>.inl h,fun _ _=>.inl rfl,fun b o _ hg=>hg.imp id fun ⟨e1,_⟩=>⟨_,hmem,e1⟩,?_⟩,?_⟩
  ·rcases YD.1 hr with rfl|hr
   ·exact .inr ⟨g,es.length,cap,cur,e,rfl,h1,h3,h4⟩
   ·exact (hh.ok r (XL _ hr)).same hA
  ·rcases YD.1 hr with rfl|hr2
   ·obtain ⟨hbg,hf2⟩:=hf
    rcases hg with hg|⟨_,hg⟩
    ·exact hh.prot _ hmem b o hbg hg
    ·omega
   ·rcases hg with hg|⟨hbg,_⟩
    ·exact hh.prot r (XL _ hr2) b o hf hg
    ·exact hpw.1 r hr2 b o hbg hf
  ·rcases hg with hg|⟨rfl,_⟩
   ·exact hh.lt b o hg
   ·exact (T3.1 h1).1
  ·rintro b o _ ⟨r,hr,hf⟩
   rcases YD.1 hr with rfl|hr
   ·exact ⟨_,hmem,hf.1⟩
   ·exact ⟨r,XL _ hr,hf⟩
  ·refine .sl (k:=k) (fun x hx=>by cases hx;rfl) h3 (Vv.of_flat es hes (WD.of_cells (h6.mono hA) fun j u hj=>?_))
   have hjl:j<es.length*k:=by
    have:=(Xq.1 hj).1
    have h7:=h6.length
    omega
   rw [Q0,Zd hjl] at hj
   refine ⟨?_,.inr ⟨rfl,by omega⟩⟩
   rw [Vu,cell_of_row w g j cur e (0,0) h1]
   simpa using hj
section
variable {P:Program} {n:Nat} {ops:Array Oper} {B:Fr->List Res->Prop} {k:Nat} {F:Fr} {h h2:List Res}
theorem Z10 {k:Nat}:TD h (.row (.slice none 0 0) k []::h):=fun _ _ hh=>let ⟨a,b⟩:=Zdx hh;⟨_,a,b⟩
theorem Zgo (j:Nat) {v:Value} {kk m:Nat} {ls:List AV} (hl:D9 P ops F k=some (.val v)) (hj:h[j]? = some (.row v kk ls)) (hm:ls.length=m*kk) (hk:0<kk):XD P (ZA ops k) F h [] (.val (.int .i64 m)):=by
 unfold D9 at hl
 generalize hoo:ZA ops k=o at hl
 obtain ⟨dst,op,type,pos,after,guard⟩:=o
 cases op<;>simp only at hl<;>try (cases hl)
 rename_i c
 obtain ⟨callee,args,tys⟩:=c
 simp only at hl
 split at hl
 ·rename_i x t hargs htys
  split at hl
  ·rename_i el hu
   simp only [Wp] at hl
   intro n w G a hF hh
   have hv:=hF.ev x
   rw [hl] at hv
   have hv:=hv.val_inv
   obtain ⟨ad,len,cap,rfl,hlen⟩:=JL.form (hh.ok _ (ZW hj))
   have:len=m:=Hq hk (hlen.symm.trans hm)
   subst this
   have e1:args=#[x]:=by rw [<-Ul (xs:=args),hargs]
   have e2:tys=#[t]:=by rw [<-Ul (xs:=tys),htys]
   subst e1;subst e2
   exact ⟨_,.val,fun w' _ _=>by simp [execOp,resolve,invoke,builtin,hv,Builtin.len_,VD hu,goInt]⟩
  ·cases hl
 ·cases hl
def Lr (ops:Array Oper) (F:Fr) (k:Nat):Option (TypeId × AV):=
 match (ZA ops k).op with
 | .load t x=>some (t,F.ev x)
 | _=>none
theorem Zgp (j:Nat) {g len cap kk o:Nat} {ls zs:List AV} {t:TypeId} {y:AV} (hl:Lr ops F k=some (t,.val (.pointer (some ⟨g,o,none⟩)))) (hj:h[j]? = some (.row (.slice (some ⟨g,0,none⟩) len cap) kk ls))
  (hz:(ls.drop o).take zs.length=zs) (hy:AA P t zs=some y):XD P (ZA ops k) F h [g] y:=by
 unfold Lr at hl
 generalize hoo:ZA ops k=q at hl
 obtain ⟨dst,op,type,pos,after,guard⟩:=q
 cases op<;>simp only at hl<;>try (cases hl)
 rename_i t' x
 intro n w G a hF hh
 simp only [Wp,Prod.mk.injEq] at hl
 obtain ⟨rfl,hl⟩:=hl
 have hv:=hF.ev x
 rw [hl] at hv
 have hv:=hv.val_inv
 rcases hh.ok _ (ZW hj) with ⟨h0,_⟩|⟨g',len',cap',cur,e,h0,h1,h2,h3,h4,h5⟩
 ·cases h0
 ·cases h0
  have hc:=(h5.drop o).take zs.length
  rw [hz] at hc
  obtain ⟨v,j1,j2⟩:=GO (P:=P) (b:=g) (o:=o) hy hc
  refine ⟨v,j1,fun w' _ hw=>?_⟩
  have hrow:=hw g (by simp)
  rw [h1] at hrow
  simp only [execOp,hv]
  refine Vj ?_
  simp only [Instr.loadAt,Instr.sureAddr,Sem.run_bind,Sem.run_pure,Result.andThen_ok]
  refine j2 w' fun j u hj=>?_
  rw [cell_of_row w' g (o+j) cur e (0,0) hrow]
  rw [Q0] at hj
  split at hj
  ·rw [BF,Q0] at hj
   split at hj
   ·simpa using hj
   ·cases hj
  ·cases hj
theorem RI {K:Fr->List Res->Prop} {g len cap kk:Nat} {ls xs:List AV} {i:Nat} (hs:storeAt P ops F k=some (g,i,xs)) (hlt:i+xs.length<=ls.length)
  (hK:K F (.row (.slice (some ⟨g,0,none⟩) len cap) kk (ls.take i++xs++ls.drop (i+xs.length))::h2)):WL P n (ZA ops k) F (.row (.slice (some ⟨g,0,none⟩) len cap) kk ls::h2) K:=by
 unfold storeAt at hs
 generalize hoo:ZA ops k=q at hs
 obtain ⟨dst,op,type,pos,after,guard⟩:=q
 cases op<;>simp only at hs<;>try (cases hs)
 rename_i t x z
 split at hs
 ·rename_i b' o' inf hx hi
  split at hs
  ·rename_i hc
   simp only [W6] at hc
   simp only [Wp,Prod.mk.injEq] at hs
   obtain ⟨rfl,rfl,hz⟩:=hs
   intro Q w G a hF hh
   have hvx:=hF.ev x
   rw [hx] at hvx
   have hvx:=hvx.val_inv
   have hvy:=hF.ev z
   have hcs:=hvy.cells hc.2.1
   rw [hz] at hcs hc
   have hone:=hcs.one_cells hc.2.2
   have Xr:inf.size=xs.length:=UR hc.1
   have hlen:(a.eval z).cells.size=xs.length:=by have:=hcs.length;simpa using this
   rcases hh.ok (.row (.slice (some ⟨b',0,none⟩) len cap) kk ls) (Xs ..) with ⟨h0,_⟩|⟨g',len',cap',cur,e,h0,h1,h2',h3,h4,h5⟩
   ·cases h0
   ·cases h0
    have hlc:len*kk<=cap*kk:=QV _ h2'
    have hst:=run_storeCells_at P b' o' e (a.eval z).cells.toList 0 cur w h1 (by simp [hlen];omega) hone
    simp only [Cs,KR] at hst
    have hr:(execOp a.eval { dst:=none,op:=.store t x z,type:=type,pos:=pos,after:=after,guard:=guard }).run P w =
      .ok .skip (w.setRow b' (cur.toList.take o'++(a.eval z).cells.toList++cur.toList.drop (o'+(a.eval z).cells.size)).toArray):=by
     simp only [execOp,hvx]
     simp [Instr.storeAt,Instr.sureAddr,storeVar,Qv hi,hlen,Xr,hst]
    unfold Oper.wp
    rw [hr]
    have hcl:(a.eval z).cells.toList.length=xs.length:=by simpa using hlen
    obtain ⟨j1,j2⟩:=hh.rwrite (ls':=ls.take o'++xs++ls.drop (o'+xs.length)) (cs':=(cur.toList.take o'++(a.eval z).cells.toList++cur.toList.drop (o'+(a.eval z).cells.size)).toArray) h1
     (by simp [hlen];omega) h2' h3 (by simp;omega) (by
      rw [Dy,hlen]
      have e1:(cur.toList.take o'++(a.eval z).cells.toList++cur.toList.drop (o'+xs.length)).take (len*kk) =
        (cur.toList.take (len*kk)).take o'++(a.eval z).cells.toList++(cur.toList.take (len*kk)).drop (o'+xs.length):=by
       have q1:(cur.toList.take o'++(a.eval z).cells.toList).length=o'+xs.length:=by simp [hlen];omega
       rw [List.take_append,q1,Vt om,List.take_take,VV om,List.drop_take]
      rw [e1]
      exact ((h5.take o').append hcs).append (h5.drop _))
    refine ⟨F,_,G,hK,?_,j1,j2⟩
    have:=hF.mono (j2.agree hh)
    simpa [Act.put] using this
  ·cases hs
 ·cases hs
theorem Zcp {K:Fr->List Res->Prop} {sz:Nat} (hd:VG n (ZA ops k)=true) (ha:TL P ops F k=some ([],0,sz))
  (hK:∀g,K (F.put (ZA ops k).dst (.val (.slice (some ⟨g,0,none⟩) 0 0))) (.row (.slice (some ⟨g,0,none⟩) 0 0) sz []::h)):WL P n (ZA ops k) F h K:=by
 unfold TL at ha
 generalize hoo:ZA ops k=q at ha hd hK
 obtain ⟨dst,op,type,pos,after,guard⟩:=q
 cases op<;>simp only at ha<;>try (cases ha)
 rename_i t ln parts
 split at ha
 case h_2=>cases ha
 rename_i e ht
 split at ha
 case h_2=>cases ha
 rename_i i hi
 split at ha
 case h_2=>cases ha
 rename_i hc
 simp only [W6] at hc
 split at ha
 case h_2=>cases ha
 rename_i ls' hf
 simp only [Wp,Prod.mk.injEq] at ha
 obtain ⟨rfl,rfl,Xr⟩:=ha
 intro Q w G a hF hh
 obtain ⟨cs,h1,h2⟩:=GN hF parts ht hi rfl hc.1 hc.2 hf
 have hr:(execOp a.eval { dst:=dst,op:=.buildSlice t 0 parts,type:=type,pos:=pos,after:=after,guard:=guard }).run P w =
   .ok (.value (.slice (some ⟨w.heap.size,0,none⟩) 0 0)) (w.alloc (.cells cs e)):=by
  simp only [execOp]
  exact Vj h2
 unfold Oper.wp
 rw [hr]
 have hlc:=h1.length
 simp only [KR] at hlc
 obtain ⟨j1,j2⟩:=hh.alloc_rrow cs e (ls:=[]) (len:=0) (cap:=0) (k:=sz) (X7 _) (by simpa using hlc) (by simp) (by simpa using YV.nil)
 exact ⟨_,_,G,hK _,(hF.mono (j2.agree hh)).put (T8 hd) .val,j1,j2⟩
theorem Zcn {K:Fr->List Res->Prop} {g sz:Nat} {xs:List AV} {hx:Option Value} (hd:VG n (ZA ops k)=true) (ha:US P ops F k=some (.val (.slice (some ⟨g,0,none⟩) 0 0),.sl xs hx,sz))
  (hxs:∀y∈xs,y.leaves.length=sz) (hbound:xs.length<=4294967296)
  (hK:∀v:Hd,K (F.put (ZA ops k).dst (.val v.v)) (.row v.v sz (Zp xs)::h2)):WL P n (ZA ops k) F (.row (.slice (some ⟨g,0,none⟩) 0 0) sz []::h2) K:=by
 unfold US at ha
 generalize hoo:ZA ops k=o at ha hd hK
 obtain ⟨dst,op,type,pos,after,guard⟩:=o
 cases op<;>simp only at ha<;>try (cases ha)
 rename_i c
 obtain ⟨callee,args,tys⟩:=c
 simp only at ha
 split at ha
 case h_2=>cases ha
 rename_i s x t t' hargs htys
 split at ha
 case h_2=>cases ha
 rename_i e htt ht
 have:=UR htt
 subst this
 split at ha
 case h_2=>cases ha
 rename_i i hinfo
 split at ha
 case h_2=>cases ha
 rename_i z hz
 split at ha
 case h_2=>cases ha
 rename_i hb
 simp only [W6] at hb
 simp only [Wp,Prod.mk.injEq] at ha
 obtain ⟨h3,h4,hk1⟩:=ha
 have e1:args=#[s,x]:=by rw [<-Ul (xs:=args),hargs]
 have e2:tys=#[t,t]:=by rw [<-Ul (xs:=tys),htys]
 subst e1;subst e2
 have hzs:z.cells.size=sz:=by rw [UR hb.1,hk1]
 have hby:=Vn hb.2
 intro Q w G a hF hh
 have v1:=hF.ev s
 have v2:=hF.ev x
 rw [h3] at v1
 rw [h4] at v2
 have v1:=v1.val_inv
 have v2:=v2.forget
 have finish:∀(v':Hd) w',(Builtin.append_ #[t,t] type #[.slice (some ⟨g,0,none⟩) 0 0,a.eval x]).run P w=.ok v'.v w'->Yu w' G (.row v'.v sz (Zp xs)::h2) ->
   YX w G (.row (.slice (some ⟨g,0,none⟩) 0 0) sz []::h2) w' G (.row v'.v sz (Zp xs)::h2) ->
   ({ dst:=dst,op:=.call { callee:=.builtin .append,args:=#[s,x],argTypes:=#[t,t] },type:=type,pos:=pos,after:=after,guard:=guard }:Oper).wp P a w
    (fun a' w'=>∃F' h' G',K F' h'/\FR w' G' n F' a'/\Yu w' G' h'/\YX w G (.row (.slice (some ⟨g,0,none⟩) 0 0) sz []::h2) w' G' h') Q:=by
  intro v' w' hr j1 j2
  have hrun:(execOp a.eval { dst:=dst,op:=.call { callee:=.builtin .append,args:=#[s,x],argTypes:=#[t,t] },type:=type,pos:=pos,after:=after,guard:=guard }).run P w=.ok (.value v'.v) w':=by
   simp only [execOp,resolve,invoke,builtin,Sem.run_bind,Sem.run_pure,Result.andThen_ok,BH,UG,BG,v1,hr]
  unfold Oper.wp
  rw [hrun]
  exact ⟨_,_,G,hK v',(hF.mono (j2.agree hh)).put (T8 hd) .val,j1,j2⟩
 by_cases hxe:xs=[]
 ·subst hxe
  cases v2q:a.eval x with
  | slice ad' l' c'=>
   rw [v2q] at v2
   cases v2<;>exact finish ⟨some ⟨g,0,none⟩,0,0⟩ _ (by rw [v2q];exact Dk ht hinfo (X7 _) w) hh (YX.refl w G _)
  | _=>rw [v2q] at v2;cases v2
 ·generalize hax:a.eval x=ax at v2 finish
  cases v2 with
  | nil _=>exact absurd rfl hxe
  | sl hq hcc hm=>
   rename_i b o' k' c
   have hpos:0<xs.length:=Ho.2 hxe
   have hfm:=hm.flat_mem
   obtain ⟨news,hn,hnc⟩:=hfm.cells
   have hfl:=TT xs hxs
   have hnl:news.length=xs.length*i.size:=by rw [hn.length,hfl,hk1]
   have hnews:∀j u,news[j]? = some u->w.cell? ((⟨b,o',none⟩:Addr).add j)=some u:=fun j u hj=>by rw [KY];exact (hnc j u hj).1
   have hbb:(0+xs.length)*i.bytes<=140737488355328:=by
    have:=Nat.mul_le_mul hbound hby
    rw [Vu]
    omega
   have hr:=run_append_grow (P:=P) w t type e i z ht hinfo hz ⟨g,0,none⟩ 0 0 [] (by simp) (fun j u hj=>by simp at hj) ⟨b,o',none⟩ xs.length c news hnl hnews om om (growslice_fits om hbb)
   simp only [Vu] at hr
   have Xp:=grownCap_ge w xs.length 0 e
   obtain ⟨j1,j2⟩:=hh.drew.alloc_rrow ([].toArray++news.toArray++Builtin.zeroCells z.cells (grownCap w xs.length 0 e-xs.length)) e
    (ls:=Zp xs) (len:=xs.length) (cap:=grownCap w xs.length 0 e) (k:=sz) Xp
    (by
     have q2:(grownCap w xs.length 0 e-xs.length)*sz=grownCap w xs.length 0 e*sz-xs.length*sz:=Nat.sub_mul ..
     have q3:xs.length*sz<=grownCap w xs.length 0 e*sz:=QV _ Xp
     simp only [Array.size_append,Dx,size_zeroCells,hzs,XA,Vu,hnl,hk1]
     omega) hfl
    (by
     have q1:([].toArray++news.toArray++Builtin.zeroCells z.cells (grownCap w xs.length 0 e-xs.length)).toList.take (xs.length*sz)=news:=by
      simp only [Du,BI]
      rw [<-hk1,<-hnl]
      exact A9
     rw [q1]
     exact hn.mono (B0 w G))
   have hs:List.Sublist (.row (.slice (some ⟨w.drew.heap.size,0,none⟩) xs.length (grownCap w xs.length 0 e)) sz (Zp xs)::h2)
     (.row (.slice (some ⟨w.drew.heap.size,0,none⟩) xs.length (grownCap w xs.length 0 e)) sz (Zp xs)::.row (.slice (some ⟨g,0,none⟩) 0 0) sz []::h2):=List.Sublist.cons_cons _ (BK _ _)
   exact finish ⟨some ⟨w.heap.size,0,none⟩,xs.length,grownCap w xs.length 0 e⟩ _ hr (j1.sub hs) ((YX.drew w G _).trans (j2.sub' hs))
theorem Sf {w:World} {G:Ye} {v:Hd} {kk m:Nat} {ls:List AV} (h:JL w G v.v kk ls) (hm:ls.length=m*kk) (hk:0<kk) (h0:0<m):∃g c,v=⟨some ⟨g,0,none⟩,m,c⟩:=by
 obtain ⟨a,l,c⟩:=v
 rcases h with ⟨h1,h2⟩|⟨g,len,cap,cur,e,h1,h2,h3,h4,h5,h6⟩
 ·subst h2
  have:=Nat.mul_pos h0 hk
  rw [XA] at hm
  omega
 ·cases h1
  have:l=m:=Hq hk (h5.symm.trans hm)
  subst this
  exact ⟨g,c,rfl⟩
theorem Z23 (t j:Nat) {v:Hd} {kk:Nat} {es:List AV} {c:Code} {A:Vf} (hF':F.get t=.h v) (hp:Wx [j] h=some [.row v.v kk (Zp es)]) (hes:∀y∈es,y.leaves.length=kk) (hk:0<kk)
  (H:Yz P n c A ((t,.sl es (some v.v))::F) (.tail v.v kk::XQ [j] h)):Yz P n c A F h:=by
 intro w G a hF hh
 have hp':=UB (VK hp)
 obtain ⟨G',h1,h2',h3⟩:=Ch (hh.perm hp') hes hk
 have e:=h2'.perm hp'.symm (Qx _)
 have hF2:=hF.mono (e.agree hh)
 have hv:=hF2.get t
 rw [hF'] at hv
 have hv:=hv.val_inv
 refine wp_mono (H w G' a ⟨hF2.defers,hF2.size,fun s=>?_⟩ h1) fun e' a' w' hc=>hc.trans e
 show RV w G' (match Nat.beq t s with|true=>_|false=>Fr.get F s) _
 cases hb:Nat.beq t s with
 | true=>
  have:=UR hb
  subst this
  rw [hv]
  exact h3
 | false=>exact hF2.get s
theorem Zhb (j i p:Nat) {u v:Value} {kk kv:Nat} {es ls:List AV} (hp:Wx [j,i] h=some [.row u kk (Zp es),.row v kv ls]) (hes:∀y∈es,y.leaves.length=kk) (hk:0<kk) (hl:ls[p]? = some (.val u)) :
  TD h (.row v kv (ls.set p (.sl es (some u)))::.tail u kk::XQ [j,i] h):=by
 intro w G hh
 have hp':=UB (VK hp)
 have hh':=hh.perm hp'
 obtain ⟨G',h1,h2',h3⟩:=Ch (h2:=.row v kv ls::XQ [j,i] h) hh' hes hk
 have e:=h2'.perm hp'.symm (Qx _)
 have h1:Yu w G' (.tail u kk::.row v kv ls::XQ [j,i] h):=h1
 have perm:(Res.tail u kk::.row v kv ls::XQ [j,i] h).Perm (.row v kv ls::.tail u kk::XQ [j,i] h):=List.Perm.swap ..
 have h4:=h1.perm perm
 have e4:=e.perm (Qx _) perm
 have hset:∀{w:World} {G:Ye},RV w G (.sl es (some u)) u->JL w G v kv ls->JL w G v kv (ls.set p (.sl es (some u))):=by
  intro w G hu hr
  rcases hr with ⟨rfl,h0⟩|⟨g,len,cap,cur,el,rfl,k1,k2,k3,k4,k5⟩
  ·exact .inl ⟨rfl,by rw [h0];rfl⟩
  ·refine .inr ⟨g,len,cap,cur,el,rfl,k1,k2,k3,by rw [Vc];exact k4,?_⟩
   obtain ⟨c,c1,c2⟩:=k5.get p _ hl
   have:=c2.val_inv
   subst this
   have h6:=k5.set p hu
   rwa [show (cur.toList.take (len*kv)).set p c=cur.toList.take (len*kv) from by
    apply List.ext_getElem?
    intro q
    rw [List.getElem?_set]
    split
    ·rename_i hq;subst hq;split
     ·exact c1.symm
     ·rename_i hq2;rw [MK om]
    ·rfl] at h6
 refine ⟨G',⟨fun r hr=>?_,?_,fun r hr=>?_,h4.lt⟩,⟨e4.os,e4.tape,e4.output,e4.size,e4.sub,e4.same,e4.newG,fun b o hb ⟨r,hr,hf⟩=>e4.newfp b o hb ?_⟩⟩
 ·rcases YD.1 hr with rfl|hr
  ·exact hset h3 (h4.ok _ (Xs ..))
  ·exact h4.ok r (XL _ hr)
 ·have:=WZ.1 h4.apart
  refine WZ.2 ⟨fun r hr b o f1 f2=>this.1 r hr b o ?_ f2,this.2⟩
  cases v with
  | slice a _ _=>cases a with
   | none=>exact f1.elim
   | some a=>exact f1
  | _=>exact f1.elim
 ·rcases YD.1 hr with rfl|hr
  ·intro b o f1 hg
   refine h4.prot (.row v kv ls) (Xs ..) b o ?_ hg
   cases v with
   | slice a _ _=>cases a with
    | none=>exact f1.elim
    | some a=>exact f1
   | _=>exact f1.elim
  ·exact h4.prot r (XL _ hr)
 ·rcases YD.1 hr with rfl|hr
  ·refine ⟨.row v kv ls,Xs ..,?_⟩
   cases v with
   | slice a _ _=>cases a with
    | none=>exact hf.elim
    | some a=>exact hf
   | _=>exact hf.elim
  ·exact ⟨r,XL _ hr,hf⟩
def K1:List Res->Option (List (Value × Nat))
 | []=>some []
 | .tail v k::r=>(K1 r).map ((v,k)::·)
 | .many ts::r=>(K1 r).map (ts++·)
 | _=>none
theorem BU {b o:Nat}:∀{hs:List Res} {L:List (Value × Nat)},K1 hs=some L->((∃p∈L,EJ p.1 p.2 b o)↔Vh hs b o)
 | [],L,h=>by cases h;simp [Vh]
 | .tail v k::r,L,h=>by
  rw [K1] at h
  cases hr:K1 r with
  | none=>rw [hr] at h;cases h
  | some L'=>
   rw [hr] at h
   cases h
   have ih:=BU (b:=b) (o:=o) hr
   have ht:Res.fp (.tail v k) b o↔EJ v k b o:=by
    cases v with
    | slice a _ _=>cases a<;>exact Iff.rfl
    | _=>exact Iff.rfl
   simp only [Vh,YD,exists_eq_or_imp] at ih ⊢
   rw [ht,ih]
 | .many ts::r,L,h=>by
  rw [K1] at h
  cases hr:K1 r with
  | none=>rw [hr] at h;cases h
  | some L'=>
   rw [hr] at h
   cases h
   have ih:=BU (b:=b) (o:=o) hr
   simp only [Vh,YD,exists_eq_or_imp] at ih ⊢
   rw [<-ih]
   simp only [Xd,Res.fp]
   constructor
   ·rintro ⟨p,hp|hp,hf⟩
    ·exact .inl ⟨p,hp,hf⟩
    ·exact .inr ⟨p,hp,hf⟩
   ·rintro (⟨p,hp,hf⟩|⟨p,hp,hf⟩)
    ·exact ⟨p,.inl hp,hf⟩
    ·exact ⟨p,.inr hp,hf⟩
 | .obj _ _::_,_,h=>by cases h
 | .ge _::_,_,h=>by cases h
 | .vec _ _::_,_,h=>by cases h
 | .own _ _::_,_,h=>by cases h
 | .row _ _ _::_,_,h=>by cases h
theorem HP {w:World} {G:Ye}:∀{hs:List Res} {L:List (Value × Nat)},K1 hs=some L->(∀r∈hs,Qi w G r)->hs.Pairwise Ae->Qi w G (.many L)
 | [],L,h,_,_=>by cases h;exact ⟨by simp,.nil⟩
 | .tail v k::r,L,h,h1,h2=>by
  rw [K1] at h
  cases hr:K1 r with
  | none=>rw [hr] at h;cases h
  | some L'=>
   rw [hr] at h
   cases h
   have hpw:=WZ.1 h2
   obtain ⟨i1,i2⟩:=HP (w:=w) (G:=G) hr (fun q hq=>h1 q (XL _ hq)) hpw.2
   refine ⟨fun p hp=>?_,WZ.2 ⟨fun p hp b o f1 f2=>?_,i2⟩⟩
   ·rcases YD.1 hp with rfl|hp
    ·exact h1 (.tail v k) (Xs ..)
    ·exact i1 p hp
   ·obtain ⟨q,hq,hf⟩:=(BU hr).1 ⟨p,hp,f2⟩
    refine hpw.1 q hq b o ?_ hf
    cases v with
    | slice a _ _=>cases a<;>exact f1
    | _=>exact f1
 | .many ts::r,L,h,h1,h2=>by
  rw [K1] at h
  cases hr:K1 r with
  | none=>rw [hr] at h;cases h
  | some L'=>
   rw [hr] at h
   cases h
   have hpw:=WZ.1 h2
   obtain ⟨i1,i2⟩:=HP (w:=w) (G:=G) hr (fun q hq=>h1 q (XL _ hq)) hpw.2
   obtain ⟨t1,t2⟩:=h1 (.many ts) (Xs ..)
   refine ⟨fun p hp=>?_,JK.2 ⟨t2,i2,fun p hp q hq b o f1 f2=>?_⟩⟩
   ·rcases Xd.1 hp with hp|hp
    ·exact t1 p hp
    ·exact i1 p hp
   ·obtain ⟨s,hs,hf⟩:=(BU hr).1 ⟨q,hq,f2⟩
    exact hpw.1 s hs b o ⟨p,hp,f1⟩ hf
 | .obj _ _::_,_,h,_,_=>by cases h
 | .ge _::_,_,h,_,_=>by cases h
 | .vec _ _::_,_,h,_,_=>by cases h
 | .own _ _::_,_,h,_,_=>by cases h
 | .row _ _ _::_,_,h,_,_=>by cases h
theorem Zh9 (is:List Nat) {L:List (Value × Nat)} {hs:List Res} (hp:Wx is h=some hs) (hb:K1 hs=some L):TD h (.many L::XQ is h):=by
 intro w G hh
 have hp':=UB (VK hp)
 have hh':=hh.perm hp'
 have hpw:=JK.1 hh'.apart
 have hmany:=HP (w:=w) (G:=G) hb (fun r hr=>hh'.ok r (Xd.2 (.inl hr))) hpw.1
 refine ⟨G,⟨fun r hr=>?_,WZ.2 ⟨fun r hr b o f1 f2=>?_,hpw.2.1⟩,fun r hr b o hf hg=>?_,hh'.lt⟩,
  ⟨rfl,rfl,rfl,X7 _,fun _ _ h=>h,fun _ _=>.inl rfl,fun _ _ _ h=>.inl h,fun b o _ ⟨r,hr,hf⟩=>?_⟩⟩
 ·rcases YD.1 hr with rfl|hr
  ·exact hmany
  ·exact hh'.ok r (Xd.2 (.inr hr))
 ·exact hh'.cross ((BU hb).1 f1) ⟨r,hr,f2⟩
 ·rcases YD.1 hr with rfl|hr
  ·obtain ⟨q,hq,hf⟩:=(BU hb).1 hf
   exact hh'.prot q (Xd.2 (.inl hq)) b o hf hg
  ·exact hh'.prot r (Xd.2 (.inr hr)) b o hf hg
 ·refine (Bb hp').2 ?_
  rcases YD.1 hr with rfl|hr
  ·exact JW.2 (.inl ((BU hb).1 hf))
  ·exact JW.2 (.inr ⟨r,hr,hf⟩)
end
end Go.Abs
section
namespace Go.Abs
structure Z1p where
 fields:LI
 fv:Value
structure Z1q where
 frm:Int
 to_:Int
 cons:List Z1p
 cv:Value
mutual
inductive Hv where
 | mk (op num into:Int) (args:LI) (av:Value) (kids:List ER) (kv:Value)
inductive ER where
 | mk (steps:List Hv) (sv:Value) (result:Int)
end
namespace Hv
end Hv
namespace ER
end ER
structure Z1s where
 params:LI
 pv:Value
 lent:LI
 lv:Value
 result:Int
 body:ER
structure Z1r where
 decls:List Z1q
 dv:Value
 routines:List Z1s
 rv:Value
inductive Ht:List AV->List AV->Prop
 | nil:Ht [] []
 | cons {x y:AV} {xs ys:List AV} (hl:x.leaves.length=y.leaves.length) (h:Ub x.leaves y.leaves) (t:Ht xs ys):Ht (x::xs) (y::ys)
theorem QI {es:List AV} {k:Nat} (h:es.all (fun y=>Nat.beq y.leaves.length k)=true):∀y∈es,y.leaves.length=k:=fun y hy=>UR (JJ.1 h y hy)
abbrev rK (g:Hd) (k:Nat) (ls:List AV):Res:=.row g.v k ls
section
variable {P:Program} {n:Nat} {c:Code} {A:Vf} {F:Fr} {h:List Res} {ops:Array Oper} {B:Fr->List Res->Prop} {k:Nat}
variable {T:List (Nat × List Nat)} {fuel:Nat} {done:List Nat}
theorem tB (is:List Nat) (hs:List Res) (L' L:List (Value × Nat)) (e:L'=L) (hp:Wx is h=some hs:=by kernel_rfl) (hb:K1 hs=some L':=by kernel_rfl):TD h (.many L::XQ is h):=e▸Zh9 is hp hb
theorem rr {v:Value} {q:Nat} {ls ls':List AV} {t t':List Res} (h:ls=ls') (e:t=t'):Res.row v q ls::t=.row v q ls'::t':=h▸e▸rfl
theorem Zax (j m:Nat) (v:Hd) (kk:Nat) (ls:List AV) (hm:ls.length=m*kk) (hk:0<kk:=by omega) (hl:D9 P ops F k=some (.h v):=by kernel_rfl) (hj:h[j]? = some (rK v kk ls):=by kernel_rfl):XD P (ZA ops k) F h [] (.i m):=
 Zgo j hl hj hm hk
theorem Ww (b l c' q sz:Nat) (j:Int) (hq:j=(q:Int)/\q<l:=by omega) (hi:Bh P ops F k=some (.val (.slice (some ⟨b,0,none⟩) l c'),j,sz):=by kernel_rfl):XD P (ZA ops k) F h [] (.val (.pointer (some ⟨b,q*sz,none⟩))):=by
 have:=Z0f (P:=P) (F:=F) (h:=h) hi om om
 rw [hq.1,Vm,Vu] at this
 exact this
theorem VA (j g len cap kk o:Nat) (ls zs:List AV) (t:TypeId) (y:AV) (hz:(ls.drop o).take zs.length=zs) (hl:Lr ops F k=some (t,.val (.pointer (some ⟨g,o,none⟩))):=by kernel_rfl) (hj:h[j]? = some (.row (.slice (some ⟨g,0,none⟩) len cap) kk ls):=by kernel_rfl)
  (hy:AA P t zs=some y:=by kernel_rfl):XD P (ZA ops k) F h [g] y:=Zgp j hl hj hz hy
theorem E9 (j g len cap kk o:Nat) (xs ls:List AV) (ls':List AV) (hlt:o+xs.length<=ls.length) (he:ls.take o++xs++ls.drop (o+xs.length)=ls') (H:SI P n ops B (k+1) F (.row (.slice (some ⟨g,0,none⟩) len cap) kk ls'::XQ [j] h)) (hk:Xg n ops F k=true:=by kernel_rfl)
  (hs:storeAt P ops F k=some (g,o,xs):=by kernel_rfl) (hp:Wx [j] h=some [.row (.slice (some ⟨g,0,none⟩) len cap) kk ls]:=by kernel_rfl):SI P n ops B k F h:=
 TW hk (WL.perm (UB (VK hp)) (RI hs hlt (by rw [he];exact H)))
theorem B5 (i j:Nat) (js bs:List Nat) (g len cap kk o:Nat) (xs ls:List AV) (ls':List AV) (hlt:o+xs.length<=ls.length) (he:ls.take o++xs++ls.drop (o+xs.length)=ls')
  (H:YY P n ops B (T.filter fun t=>!Vg ops i t.1) fuel (done++[i]) F (.row (.slice (some ⟨g,0,none⟩) len cap) kk ls'::XQ [j] h)) (hk:Xg n ops F i=true:=by kernel_rfl)
  (hs:storeAt P ops F i=some (g,o,xs):=by kernel_rfl) (hp:Wx [j] h=some [.row (.slice (some ⟨g,0,none⟩) len cap) kk ls]:=by kernel_rfl) (ho:Ui ops i T=bs:=by kernel_rfl)
  (hj:js.map (fun q=>(WU (XQ [j] h))[q]?)=bs.map some:=by kernel_rfl):VF P n ops B T fuel done F h i:=
 KE [j] js bs hk (VK hp) ho hj (RI (h2:=[]) hs hlt (by rw [he];exact H))
theorem CY (sz:Nat) (hK:∀g,SI P n ops B (k+1) (F.put (ZA ops k).dst (.val (.slice (some ⟨g,0,none⟩) 0 0))) (.row (.slice (some ⟨g,0,none⟩) 0 0) sz []::h)) (hk:Xg n ops F k=true:=by kernel_rfl)
  (ha:TL P ops F k=some ([],0,sz):=by kernel_rfl):SI P n ops B k F h:=TW hk (Zcp (U4 hk).2.1 ha hK)
theorem IX (j g sz:Nat) (xs:List AV) (hx:Option Value) (hxs:∀y∈xs,y.leaves.length=sz) (hbound:xs.length<=4294967296) (hK:∀v:Hd,SI P n ops B (k+1) (F.put (ZA ops k).dst (.h v)) (rK v sz (Zp xs)::XQ [j] h))
  (hk:Xg n ops F k=true:=by kernel_rfl) (ha:US P ops F k=some (.val (.slice (some ⟨g,0,none⟩) 0 0),.sl xs hx,sz):=by kernel_rfl) (hp:Wx [j] h=some [.row (.slice (some ⟨g,0,none⟩) 0 0) sz []]:=by kernel_rfl):SI P n ops B k F h:=
 TW hk (WL.perm (UB (VK hp)) (Zcn (U4 hk).2.1 ha hxs hbound hK))
theorem Zaw (t j:Nat) {v:Hd} {kk:Nat} (es:List AV) (hes:∀y∈es,y.leaves.length=kk) (H:Yz P n c A ((t,.sl es (some v.v))::F) (.tail v.v kk::XQ [j] h)) (hk:0<kk:=by omega) (hF':F.get t=.h v:=by kernel_rfl)
  (hp:Wx [j] h=some [rK v kk (Zp es)]:=by kernel_rfl):Yz P n c A F h:=Z23 t j hF' hp hes hk H
theorem M0 {A xs ys B:List AV} {o:Nat} (hA:A.length=o) (hl:xs.length=ys.length):(A++(xs++B)).take o++ys++(A++(xs++B)).drop (o+ys.length)=A++(ys++B):=by
 subst hA
 rw [A9,<-hl,<-List.drop_drop,List.drop_left,List.drop_left,Qg]
theorem Zdv {A xs B:List AV} {o:Nat} (hA:A.length=o):((A++(xs++B)).drop o).take xs.length=xs:=by
 subst hA
 rw [List.drop_left,A9]
theorem QD (xs ys:List AV):Zp (xs++ys)=Zp xs++Zp ys:=by simp [Zp]
theorem Z6x:Zp []=[]:=rfl
theorem Mw (j:Nat) (v:Value) (q:Nat) (ls ls':List AV) (e:ls=ls') (hp:Wx [j] h=some [.row v q ls]:=by kernel_rfl):TD h (.row v q ls'::XQ [j] h):=by
 subst e
 intro w G hh
 have hp':=UB (VK hp)
 exact ⟨G,hh.perm hp',(YX.refl w G h).perm (Qx _) hp'⟩
end
end Go.Abs
end
section
namespace Go.Abs
theorem Yu.rgrow {w:World} {G:Ye} {h2:List Res} {g len len' cap k:Nat} {ls ls':List AV} (hh:Yu w G (.row (.slice (some ⟨g,0,none⟩) len cap) k ls::h2)) {cs cs':Array Value} {e:TypeId}
  (hb:w.heap[g]? = some (.cells cs e (0,0))) (Xr:cs'.size=cs.size) (hle:len'<=cap) (hcap:cs.size=cap*k) (hl:ls'.length=len'*k) (hls:YV w G ls' (cs'.toList.take (len'*k))) :
  Yu (w.setRow g cs') G (.row (.slice (some ⟨g,0,none⟩) len' cap) k ls'::h2) /\
   YX w G (.row (.slice (some ⟨g,0,none⟩) len cap) k ls::h2) (w.setRow g cs') G (.row (.slice (some ⟨g,0,none⟩) len' cap) k ls'::h2):=by
 have hmem:Res.row (.slice (some ⟨g,0,none⟩) len cap) k ls∈Res.row (.slice (some ⟨g,0,none⟩) len cap) k ls::h2:=Xs ..
 have hA:U6 G w (w.setRow g cs') G:=⟨fun c j hg=>by
  have hne:c≠g:=fun he=>hh.prot _ hmem c j he hg
  simp [World.cell?,U5 w g c cs' hne],fun _ _ h=>h⟩
 have e1:YX w G [.row (.slice (some ⟨g,0,none⟩) len cap) k ls] (w.setRow g cs') G [.row (.slice (some ⟨g,0,none⟩) len' cap) k ls']:=by
  refine ⟨rfl,rfl,rfl,by simp [World.setRow],fun _ _ h=>h,?_,fun _ _ _ h=>.inl h,?_⟩
  ·intro c hc
   by_cases hcb:c=g
   ·subst hcb
    exact .inr ⟨cs,cs',e,(0,0),hb,setRow_heap w c cs cs' e (0,0) hb,Xr,fun j hj=>absurd ⟨_,Xs ..,rfl⟩ hj⟩
   ·exact .inl (U5 w g c cs' hcb)
  ·rintro c j _ ⟨r,hr,hf⟩
   rw [XI.1 hr] at hf
   exact ⟨_,Xs ..,hf⟩
 have e2:Yu (w.setRow g cs') G [.row (.slice (some ⟨g,0,none⟩) len' cap) k ls']:=by
  refine ⟨fun r hr=>?_,BJ _ _,fun r hr c j hf hg=>?_,fun c j hg=>?_⟩
  ·rw [XI.1 hr]
   exact .inr ⟨g,len',cap,cs',e,rfl,setRow_heap w g cs cs' e (0,0) hb,hle,Xr.trans hcap,hl,hls.mono hA⟩
  ·rw [XI.1 hr] at hf
   exact hh.prot _ hmem c j hf hg
  ·have:=hh.lt c j hg
   simpa [World.setRow] using this
 exact Yu.frame (h:=[.row (.slice (some ⟨g,0,none⟩) len cap) k ls]) (k:=h2) hh e1 e2
section
variable {P:Program} {n:Nat} {ops:Array Oper} {k:Nat} {F:Fr} {h2:List Res}
theorem RG {K:Fr->List Res->Prop} {v:Hd} {sz m:Nat} {ls xs:List AV} {hx:Option Value} (hd:VG n (ZA ops k)=true) (ha:US P ops F k=some (.val v.v,.sl xs hx,sz))
  (hxs:∀y∈xs,y.leaves.length=sz) (hone:(Zp xs).all AV.one=true) (hm0:ls.length=m*sz) (hk0:0<sz) (hne:xs≠[]) (hbound:m+xs.length<=4294967296)
  (hK:∀v':Hd,K (F.put (ZA ops k).dst (.val v'.v)) (.row v'.v sz (ls++Zp xs)::h2)):WL P n (ZA ops k) F (.row v.v sz ls::h2) K:=by
 unfold US at ha
 generalize hoo:ZA ops k=o at ha hd hK
 obtain ⟨dst,op,type,pos,after,guard⟩:=o
 cases op<;>simp only at ha<;>try (cases ha)
 rename_i c
 obtain ⟨callee,args,tys⟩:=c
 simp only at ha
 split at ha
 case h_2=>cases ha
 rename_i s x t t' hargs htys
 split at ha
 case h_2=>cases ha
 rename_i e htt ht
 have:=UR htt
 subst this
 split at ha
 case h_2=>cases ha
 rename_i i hinfo
 split at ha
 case h_2=>cases ha
 rename_i z hz
 split at ha
 case h_2=>cases ha
 rename_i hb
 simp only [W6] at hb
 simp only [Wp,Prod.mk.injEq] at ha
 obtain ⟨h3,h4,hk1⟩:=ha
 have e1:args=#[s,x]:=by rw [<-Ul (xs:=args),hargs]
 have e2:tys=#[t,t]:=by rw [<-Ul (xs:=tys),htys]
 subst e1;subst e2
 have hzs:z.cells.size=sz:=by rw [UR hb.1,hk1]
 have hby:=Vn hb.2
 have hfl:=TT xs hxs
 intro Q w G a hF hh
 have v1:=hF.ev s
 have v2:=hF.ev x
 rw [h3] at v1
 rw [h4] at v2
 have v1:=v1.val_inv
 have v2:=v2.forget
 have finish:∀(v':Hd) w',(Builtin.append_ #[t,t] type #[v.v,a.eval x]).run P w=.ok v'.v w'->Yu w' G (.row v'.v sz (ls++Zp xs)::h2)->YX w G (.row v.v sz ls::h2) w' G (.row v'.v sz (ls++Zp xs)::h2) ->
   ({ dst:=dst,op:=.call { callee:=.builtin .append,args:=#[s,x],argTypes:=#[t,t] },type:=type,pos:=pos,after:=after,guard:=guard }:Oper).wp P a w
    (fun a' w'=>∃F' h' G',K F' h'/\FR w' G' n F' a'/\Yu w' G' h'/\YX w G (.row v.v sz ls::h2) w' G' h') Q:=by
  intro v' w' hr j1 j2
  have hrun:(execOp a.eval { dst:=dst,op:=.call { callee:=.builtin .append,args:=#[s,x],argTypes:=#[t,t] },type:=type,pos:=pos,after:=after,guard:=guard }).run P w=.ok (.value v'.v) w':=by
   simp only [execOp,resolve,invoke,builtin,Sem.run_bind,Sem.run_pure,Result.andThen_ok,BH,UG,BG,v1,hr]
  unfold Oper.wp
  rw [hrun]
  exact ⟨_,_,G,hK v',(hF.mono (j2.agree hh)).put (T8 hd) .val,j1,j2⟩
 have hrow0:=hh.ok (.row v.v sz ls) (Xs ..)
 have hsub2:∀r:Res,List.Sublist (r::h2) (r::.row v.v sz ls::h2):=fun r=>List.Sublist.cons_cons _ (BK _ _)
 have grown:∀(olds news:List Value) (old:Nat),YV w G ls olds->YV w G (Zp xs) news ->
   Yu (w.drew.alloc (.cells (olds.toArray++news.toArray++Builtin.zeroCells z.cells (grownCap w (m+xs.length) old e-(m+xs.length))) e)) G
    (.row (.slice (some ⟨w.heap.size,0,none⟩) (m+xs.length) (grownCap w (m+xs.length) old e)) sz (ls++Zp xs)::h2) /\
   YX w G (.row v.v sz ls::h2) (w.drew.alloc (.cells (olds.toArray++news.toArray++Builtin.zeroCells z.cells (grownCap w (m+xs.length) old e-(m+xs.length))) e)) G
    (.row (.slice (some ⟨w.heap.size,0,none⟩) (m+xs.length) (grownCap w (m+xs.length) old e)) sz (ls++Zp xs)::h2):=by
  intro olds news old ho hn
  have Xp:=grownCap_ge w (m+xs.length) old e
  have hol:=ho.length
  have hnl:=hn.length
  have hlen:(ls++Zp xs).length=(m+xs.length)*sz:=by rw [Yt,hm0,hfl,Qy]
  obtain ⟨j1,j2⟩:=hh.drew.alloc_rrow (olds.toArray++news.toArray++Builtin.zeroCells z.cells (grownCap w (m+xs.length) old e-(m+xs.length))) e
   (ls:=ls++Zp xs) (len:=m+xs.length) (cap:=grownCap w (m+xs.length) old e) (k:=sz) Xp
   (by
    have q2:(grownCap w (m+xs.length) old e-(m+xs.length))*sz=grownCap w (m+xs.length) old e*sz-(m+xs.length)*sz:=Nat.sub_mul ..
    have q3:(m+xs.length)*sz<=grownCap w (m+xs.length) old e*sz:=QV _ Xp
    have q4:(m+xs.length)*sz=m*sz+xs.length*sz:=Qy ..
    simp only [Array.size_append,Dx,size_zeroCells,hzs,hol,hnl,hm0,hfl]
    omega) hlen
   (by
    have:(olds.toArray++news.toArray++Builtin.zeroCells z.cells (grownCap w (m+xs.length) old e-(m+xs.length))).toList.take ((m+xs.length)*sz)=olds++news:=by
     simp only [Du]
     rw [<-hlen,Yt,<-hol,<-hnl,<-Yt]
     exact A9
    rw [this]
    exact (ho.append hn).mono (B0 w G))
  exact ⟨j1.sub (hsub2 _),(YX.drew w G _).trans (j2.sub' (hsub2 _))⟩
 generalize hax:a.eval x=ax at v2 finish
 cases v2 with
 | nil _=>exact absurd rfl hne
 | sl hq hcc hm=>
  rename_i b o' k' c
  have hpos:0<xs.length:=Ho.2 hne
  have hfm:=hm.flat_mem
  obtain ⟨news,hn,hnc⟩:=hfm.cells
  have hnl:news.length=xs.length*i.size:=by rw [hn.length,hfl,hk1]
  have hone':=hn.one_cells hone
  have hnews:∀j u,news[j]? = some u->w.cell? ((⟨b,o',none⟩:Addr).add j)=some u:=fun j u hj=>by rw [KY];exact (hnc j u hj).1
  have hbb:(m+xs.length)*i.bytes<=140737488355328:=by
   have:=Nat.mul_le_mul hbound hby
   omega
  rcases hrow0 with ⟨hv0,hl0⟩|⟨g,len,cap,cur,el,hv0,hrow,hlc,hcur,hll,hcells⟩
  ·subst hl0
   have hm1:m=0:=by
    have:m*sz=0:=by simpa using hm0.symm
    rcases Nat.mul_eq_zero.1 this with h|h
    ·exact h
    ·omega
   subst hm1
   rw [hv0] at finish hh ⊢
   have hr:=run_append_nil (P:=P) w t type e i z ht hinfo hz ⟨b,o',none⟩ xs.length c news hnl hnews hpos om (by simp only [Vu] at hbb;omega)
   obtain ⟨j1,j2⟩:=grown [] news 0 .nil hn
   simp only [Vu,Array.empty_append,BI] at j1 j2
   rw [hv0] at j2
   exact finish ⟨some ⟨w.heap.size,0,none⟩,xs.length,grownCap w xs.length 0 e⟩ _ hr (by simpa using j1) (by simpa using j2)
  ·have hlm:len=m:=Hq hk0 (hll.symm.trans hm0)
   subst hlm
   rw [hv0] at finish hh ⊢
   have q5:len*sz<=cap*sz:=QV _ hlc
   have h1:(cur.toList.take (len*sz)).length=len*sz:=by rw [WB,KR,hcur,VV q5]
   have hcl:cur.toList.length=cap*sz:=by rw [KR,hcur]
   by_cases hroom:len+xs.length<=cap
   ·have q1:(len+xs.length)*sz<=cap*sz:=QV _ hroom
    have q2:(len+xs.length)*sz=len*sz+xs.length*sz:=Qy ..
    have hfit:len*i.size+news.length<=cur.size:=by rw [hnl,hcur,hk1];omega
    have hr:=GM (P:=P) w t type e el i ht hinfo g len cap cur hrow ⟨b,o',none⟩ xs.length c news hnl hnews hone' hroom hfit
    rw [hk1] at hr
    have hnl':news.length=xs.length*sz:=by rw [hnl,hk1]
    obtain ⟨j1,j2⟩:=hh.rgrow (ls':=ls++Zp xs) (len':=len+xs.length) (cs':=(cur.toList.take (len*sz)++news++cur.toList.drop (len*sz+news.length)).toArray) hrow
     (by simp only [Dx,Yt,h1,hnl',A8,hcl,hcur];omega) hroom hcur (by rw [Yt,hll,hfl,q2]) (by
      have:(cur.toList.take (len*sz)++news++cur.toList.drop (len*sz+news.length)).toArray.toList.take ((len+xs.length)*sz)=cur.toList.take (len*sz)++news:=by
       rw [Dy,q2,<-hnl']
       conv=>lhs;arg 1;rw [show len*sz+news.length=(cur.toList.take (len*sz)++news).length from by rw [Yt,h1]]
       exact A9
      rw [this]
      exact hcells.append hn)
    exact finish ⟨some ⟨g,0,none⟩,len+xs.length,cap⟩ _ hr j1 j2
   ·have hr:=run_append_grow (P:=P) w t type e i z ht hinfo hz ⟨g,0,none⟩ len cap (cur.toList.take (len*sz)) (by rw [hk1];exact h1) (fun j u hj=>by
     rw [KY,cell_of_row w g _ cur el (0,0) hrow]
     rw [Q0] at hj
     split at hj
     ·simpa using hj
     ·cases hj) ⟨b,o',none⟩ xs.length c news hnl hnews om om (growslice_fits om hbb)
    obtain ⟨j1,j2⟩:=grown (cur.toList.take (len*sz)) news cap hcells hn
    rw [hv0] at j2
    exact finish ⟨some ⟨w.heap.size,0,none⟩,len+xs.length,grownCap w (len+xs.length) cap e⟩ _ hr j1 j2
end
section
variable {P:Program} {n:Nat} {ops:Array Oper} {B:Fr->List Res->Prop} {k:Nat} {F:Fr} {h:List Res}
theorem G0 (j m:Nat) (v:Hd) (sz:Nat) (ls xs:List AV) (hx:Option Value) (hm0:ls.length=m*sz) (hxs:∀y∈xs,y.leaves.length=sz) (hone:(Zp xs).all AV.one=true) (hne:xs≠[]) (hbound:m+xs.length<=4294967296)
  (hK:∀v':Hd,SI P n ops B (k+1) (F.put (ZA ops k).dst (.h v')) (rK v' sz (ls++Zp xs)::XQ [j] h)) (hk0:0<sz:=by omega)
  (hk:Xg n ops F k=true:=by kernel_rfl) (ha:US P ops F k=some (.h v,.sl xs hx,sz):=by kernel_rfl) (hp:Wx [j] h=some [rK v sz ls]:=by kernel_rfl):SI P n ops B k F h:=
 TW hk (WL.perm (UB (VK hp)) (RG (U4 hk).2.1 ha hxs hone hm0 hk0 hne hbound hK))
end
end Go.Abs
namespace Go.Abs
section
variable {P:Program} {n:Nat} {ops:Array Oper} {B:Fr->List Res->Prop} {T:List (Nat × List Nat)} {fuel:Nat} {done:List Nat} {F:Fr} {h:List Res}
theorem I1 (i j m:Nat) (js bs:List Nat) (v:Hd) (sz:Nat) (ls xs:List AV) (hx:Option Value) (hm0:ls.length=m*sz) (hxs:∀y∈xs,y.leaves.length=sz) (hone:(Zp xs).all AV.one=true) (hne:xs≠[]) (hbound:m+xs.length<=4294967296)
  (hK:∀v':Hd,YY P n ops B (T.filter fun t=>!Vg ops i t.1) fuel (done++[i]) (F.put (ZA ops i).dst (.h v')) (rK v' sz (ls++Zp xs)::XQ [j] h)) (hk0:0<sz:=by omega) (hk:Xg n ops F i=true:=by kernel_rfl)
  (ha:US P ops F i=some (.h v,.sl xs hx,sz):=by kernel_rfl) (hp:Wx [j] h=some [rK v sz ls]:=by kernel_rfl) (ho:Ui ops i T=bs:=by kernel_rfl)
  (hj:js.map (fun q=>(WU (XQ [j] h))[q]?)=bs.map some:=by kernel_rfl):VF P n ops B T fuel done F h i:=
 KE [j] js bs hk (VK hp) ho hj (RG (h2:=[]) (U4 hk).2.1 ha hxs hone hm0 hk0 hne hbound hK)
end
theorem WR.form {P:Program} {f:FuncId} {as1:List AV} {h0:List Res} {T:Hd->AV} {kk m:Nat} {ls:List AV} {hs:List Res} (H:WR P f as1 h0 (fun r h=>∃v:Hd,r=T v/\h=rK v kk ls::hs)) (hm:ls.length=m*kk) (hk:0<kk) (h1:0<m) :
  WR P f as1 h0 (fun r h=>∃(g c:Nat),r=T ⟨some ⟨g,0,none⟩,m,c⟩/\h=rK ⟨some ⟨g,0,none⟩,m,c⟩ kk ls::hs):=by
 intro w G vs hv hh
 refine (H w G vs hv hh).mono ?_
 rintro e w' ⟨u,r,h',G',he,⟨v,rfl,rfl⟩,hr,hh',hx⟩
 obtain ⟨g,c,rfl⟩:=Sf (hh'.ok _ (Xs ..)) hm hk h1
 exact ⟨u,_,_,G',he,⟨g,c,rfl,rfl⟩,hr,hh',hx⟩
end Go.Abs
namespace Go.Abs
section
variable {h:List Res}
theorem Zha (j i p:Nat) {u:Value} {kk b:Nat} {es ls:List AV} (hp:Wx [j,i] h=some [.row u kk (Zp es),.obj b ls]) (hes:∀y∈es,y.leaves.length=kk) (hk:0<kk) (hl:ls[p]? = some (.val u)) :
  TD h (.obj b (ls.set p (.sl es (some u)))::.tail u kk::XQ [j,i] h):=by
 intro w G hh
 have hp':=UB (VK hp)
 have hh':=hh.perm hp'
 obtain ⟨G',h1,h2',h3⟩:=Ch (h2:=.obj b ls::XQ [j,i] h) hh' hes hk
 have e:=h2'.perm hp'.symm (Qx _)
 have h1:Yu w G' (.tail u kk::.obj b ls::XQ [j,i] h):=h1
 have perm:(Res.tail u kk::.obj b ls::XQ [j,i] h).Perm (.obj b ls::.tail u kk::XQ [j,i] h):=List.Perm.swap ..
 have h4:=h1.perm perm
 have e4:=e.perm (Qx _) perm
 have hset:∀{w:World} {G:Ye},RV w G (.sl es (some u)) u->Qi w G (.obj b ls)->Qi w G (.obj b (ls.set p (.sl es (some u)))):=by
  intro w G hu hr
  obtain ⟨cs,el,k1,k5⟩:=hr
  refine ⟨cs,el,k1,?_⟩
  obtain ⟨c,c1,c2⟩:=k5.get p _ hl
  have:=c2.val_inv
  subst this
  have h6:=k5.set p hu
  rwa [show cs.toList.set p c=cs.toList from by
   apply List.ext_getElem?
   intro q
   rw [List.getElem?_set]
   split
   ·rename_i hq;subst hq;split
    ·exact c1.symm
    ·rename_i hq2;rw [MK om]
   ·rfl] at h6
 refine ⟨G',⟨fun r hr=>?_,?_,fun r hr=>?_,h4.lt⟩,⟨e4.os,e4.tape,e4.output,e4.size,e4.sub,e4.same,e4.newG,fun b' o hb ⟨r,hr,hf⟩=>e4.newfp b' o hb ?_⟩⟩
 ·rcases YD.1 hr with rfl|hr
  ·exact hset h3 (h4.ok _ (Xs ..))
  ·exact h4.ok r (XL _ hr)
 ·have:=WZ.1 h4.apart
  exact WZ.2 ⟨fun r hr b' o f1 f2=>this.1 r hr b' o f1 f2,this.2⟩
 ·rcases YD.1 hr with rfl|hr
  ·exact fun b' o f1 hg=>h4.prot (.obj b ls) (Xs ..) b' o f1 hg
  ·exact h4.prot r (XL _ hr)
 ·rcases YD.1 hr with rfl|hr
  ·exact ⟨.obj b ls,Xs ..,hf⟩
  ·exact ⟨r,XL _ hr,hf⟩
theorem TB (j i p:Nat) (u:Value) (kk b:Nat) (es ls:List AV) (hes:∀y∈es,y.leaves.length=kk) (hl:ls[p]? = some (.val u)) (hk:0<kk:=by omega) (hp:Wx [j,i] h=some [.row u kk (Zp es),.obj b ls]:=by kernel_rfl) :
  TD h (.obj b (ls.set p (.sl es (some u)))::.tail u kk::XQ [j,i] h):=Zha j i p hp hes hk hl
end
end Go.Abs
namespace Go.Abs
section
variable {P:Program} {n:Nat} {ops:Array Oper} {k:Nat} {F:Fr} {h:List Res}
theorem Zgq (j:Nat) {g l c m kk:Nat} {ls:List AV} (hi:Dn P ops F k=some (.val (.slice (some ⟨g,0,none⟩) l c),(m:Int))) (hj:h[j]? = some (.row (.slice (some ⟨g,0,none⟩) l c) kk ls)) (hle:m<=l) :
  XD P (ZA ops k) F h [] (.val (.slice (some ⟨g,0,none⟩) m c)):=by
 unfold Dn at hi
 generalize hoo:ZA ops k=o at hi
 obtain ⟨dst,op,type,pos,after,guard⟩:=o
 cases op<;>simp only at hi<;>try (cases hi)
 rename_i t x lo hi' mx
 cases lo with
 | some _=>simp at hi
 | none=>
  cases hi' with
  | none=>simp at hi
  | some y=>
   cases mx with
   | some _=>simp at hi
   | none=>
    simp only at hi
    split at hi
    ·rename_i e ht
     split at hi
     ·rename_i inf hinf
      split at hi
      ·rename_i ik m' hm
       simp only [Wp,Prod.mk.injEq] at hi
       obtain ⟨hx,rfl⟩:=hi
       intro n w G a hF hh
       have v1:=hF.ev x
       rw [hx] at v1
       have v1:=v1.val_inv
       have v2:=hF.ev y
       rw [hm] at v2
       have v2:=v2.val_inv
       have hcap:l<=c:=by
        rcases hh.ok _ (ZW hj) with ⟨h0,_⟩|⟨g',l',c',cur,el,h0,_,hc,_⟩
        ·cases h0
        ·cases h0;exact hc
       refine ⟨_,.val,fun w' _ _=>?_⟩
       simp only [execOp,v1,v2,BM,Option.map_none]
       refine Vj ?_
       simp only [Instr.sliceAt,Sem.run_bind,VD ht,Result.andThen_ok,Instr.slice]
       have hmm:(Instr.sliceBounds true l c none (some (.int ik (m:Int))) none).run P w'=.ok (0,m,c) w':=by
        have ZB:=fun q=>Dl (P:=P) (c:=q) (v:=.int ik (m:Int)) (y:=c) rfl om om w'
        simp [Instr.sliceBounds,ZB]
       rw [hmm]
       have hz:∀a:Addr,a.add 0=a:=fun a=>by simp [Addr.add]
       simp only [Result.andThen_ok,Qv hinf,Nat.zero_mul,hz]
       by_cases h0:c=0<;>simp [h0]
      ·cases hi
     ·cases hi
    ·cases hi
theorem La (j g l c m kk:Nat) (ls:List AV) (hle:m<=l:=by omega) (hi:Dn P ops F k=some (.val (.slice (some ⟨g,0,none⟩) l c),(m:Int)):=by kernel_rfl) (hj:h[j]? = some (.row (.slice (some ⟨g,0,none⟩) l c) kk ls):=by kernel_rfl) :
  XD P (ZA ops k) F h [] (.val (.slice (some ⟨g,0,none⟩) m c)):=Zgq j hi hj hle
variable {B:Fr->List Res->Prop}
end
end Go.Abs
end
namespace Go.Abs
theorem Y9 {α:Type} {xs:List α} {k:Nat} {x:α} (h:xs[k]? = some x):xs.drop k=x::xs.drop (k+1):=by
 have hk:=(Xq.1 h).1
 rw [Z1n hk]
 congr 1
 rw [QU hk] at h
 exact Qh h
theorem Xn {α:Type} {xs:List α} {k:Nat} (h:xs.length<=k):xs.drop k=[]:=Hm h
theorem Vl {α:Type} {xs:List α} {k:Nat} {x:α} (h:xs[k]? = some x):xs.take (k+1)=xs.take k++[x]:=by
 rw [List.take_add_one,h];rfl
def YP:List Zf->Nat
 | []=>0
 | d::ds=>d.cons.length+YP ds
theorem DO (xs ys:List Zf):YP (xs++ys)=YP xs+YP ys:=by
 induction xs with
 | nil=>simp [YP]
 | cons d ds ih=>simp [YP,ih];omega
structure WC (ds:List Zf):Prop where
 len:ds.length<=4
 cons:∀d∈ds,d.cons.length<=3
 fields:∀d∈ds,∀c∈d.cons,c.fields.length<=3
theorem Z4m {ds:List Zf} {m:Nat} (h:∀d∈ds,d.cons.length<=m):YP ds<=ds.length*m:=by
 induction ds with
 | nil=>simp [YP]
 | cons d ds ih=>
  have h1:=h d (by simp)
  have h2:=ih (fun x hx=>h x (by simp [hx]))
  simp only [YP,YT,Qy];omega
theorem WC.sum {ds:List Zf} (h:WC ds):YP ds<=12:=by
 have:=Z4m h.cons
 have:=h.len
 have:ds.length*3<=4*3:=QV 3 h.len
 omega
theorem WC.take {ds:List Zf} (h:WC ds) (k:Nat):WC (ds.take k):=
 ⟨by have:=h.len;simp;omega,fun d hd=>h.cons d (Q1 hd),fun d hd=>h.fields d (Q1 hd)⟩
theorem WC.cons_at {ds:List Zf} (h:WC ds) {k:Nat} {d:Zf} (hd:ds[k]? = some d):d.cons.length<=3:=h.cons d (ZW hd)
theorem WC.fields_at {ds:List Zf} (h:WC ds) {k j:Nat} {d:Zf} {c:Yn} (hd:ds[k]? = some d) (hc:d.cons[j]? = some c):c.fields.length<=3:=
 h.fields d (ZW hd) c (ZW hc)
def Tn (c:Int):List Zf->Nat->Nat->Int × LI
 | [],_,_=>(-1,[])
 | d::ds,i,first=>
  if (first:Int)<=c/\c<=((first+d.cons.length:Nat):Int)-1 then ((i:Int)+1,(d.cons[(c-first).toNat]?.map (·.fields)).getD []) else Tn c ds (i+1) (first+d.cons.length)
def Wm (ds:List Zf) (c:Int):Int:=(Tn c ds 0 0).1
def ZV (ds:List Zf) (c:Int):LI:=(Tn c ds 0 0).2
theorem HW {c:Int}:∀{ds:List Zf} {i first:Nat},(Tn c ds i first=(-1,[]) ∨
  ∃k d x,ds[k]? = some d/\(first+YP (ds.take k):Int)<=c/\c<first+YP (ds.take k)+d.cons.length/\d.cons[(c-(first+YP (ds.take k))).toNat]? = some x/\Tn c ds i first=((i:Int)+k+1,x.fields))
 | [],_,_=>.inl rfl
 | d::ds,i,first=>by
  rw [Tn]
  split
  ·rename_i h
   have hlt:(c-first).toNat<d.cons.length:=by omega
   refine .inr ⟨0,d,d.cons[(c-first).toNat],rfl,by simp [YP];omega,by simp [YP];omega,?_,?_⟩
   ·simp [YP]
   ·rw [QU hlt];simp
  ·rcases HW (c:=c) (ds:=ds) (i:=i+1) (first:=first+d.cons.length) with h|⟨k,e,x,h1,h2,h3,h4,h5⟩
   ·exact .inl h
   ·refine .inr ⟨k+1,e,x,by simpa using h1,by simp [YP];omega,by simp [YP];omega,?_,?_⟩
    ·rw [<-h4];congr 3;simp [YP];omega
    ·rw [h5];congr 1;omega
theorem HX {ds:List Zf} {c:Int} (h:¬Wm ds c<1) :
  ∃k d x,ds[k]? = some d/\(YP (ds.take k):Int)<=c/\d.cons[(c-YP (ds.take k)).toNat]? = some x/\Wm ds c=(k:Int)+1/\ZV ds c=x.fields:=by
 rcases HW (c:=c) (ds:=ds) (i:=0) (first:=0) with h1|⟨k,d,x,h1,h2,_,h4,h5⟩
 ·simp [Wm,h1] at h
 ·exact ⟨k,d,x,h1,by simpa using h2,by simpa using h4,by simp [Wm,h5],by simp [ZV,h5]⟩
theorem Fj {ds:List Zf} {c:Int} (h:Wm ds c<1):ZV ds c=[]/\Wm ds c=-1:=by
 rcases HW (c:=c) (ds:=ds) (i:=0) (first:=0) with h1|⟨k,d,x,h1,h2,_,h4,h5⟩
 ·simp [ZV,Wm,h1]
 ·simp [Wm,h5] at h;omega
def VJ (first:Int):Nat->LI
 | 0=>[]
 | n+1=>first::VJ (first+1) n
theorem Rt (first:Int) (n:Nat):VJ first (n+1)=VJ first n++[first+n]:=by
 induction n generalizing first with
 | zero=>simp [VJ]
 | succ n ih=>rw [VJ,ih (first+1),VJ];simp;omega
@[simp] theorem Zca (first:Int) (n:Nat):(VJ first n).length=n:=by
 induction n generalizing first with
 | zero=>rfl
 | succ n ih=>simp [VJ,ih]
def ZY (ds:List Zf) (t:Int):LI:=
 if 1<=t/\t<=ds.length then VJ (YP (ds.take (t-1).toNat)) (((ds[(t-1).toNat]?).map (·.cons.length)).getD 0) else []
def Ky (frm to_:Int):List Zf->Nat->Int
 | [],_=>-1
 | d::ds,i=>if d.cons.length=0/\d.frm=frm/\d.to_=to_ then (i:Int)+1 else Ky frm to_ ds (i+1)
def Ux (ds:List Zf) (frm to_:Int):Int:=Ky frm to_ ds 0
def W8 (ds:List Zf) (t:Int):Bool:=decide (1<=t/\t<=ds.length)&&((ds[(t-1).toNat]?).map fun d=>decide (d.cons.length=0)).getD false
theorem Gc {ds:List Zf} {t:Int} {x:Zf} (h:1<=t/\t<=ds.length) (hx:ds[(t-1).toNat]? = some x):((x.cons.length:Int)==0)=W8 ds t:=by
 rw [W8,hx,Xx];simp [h]
theorem L5 {ds:List Zf} {t:Int} (h:¬(1<=t/\t<=ds.length)):false=W8 ds t:=by
 rw [W8,Xx];simp only [Bool.false_eq_true,W6,decide_eq_true_eq,h,false_and]
def Ws (m:Nat) (xs:LI):Bool:=xs.all fun t=>decide (0<=t/\t<=m)
end Go.Abs
section
namespace Go.Abs
section
variable {h:List Res}
end
end Go.Abs
namespace Go.Abs
section
variable {P:Program} {ops:Array Oper} {k:Nat} {F:Fr} {h:List Res}
end
end Go.Abs
end
namespace Go.Abs
section
variable {P:Program} {n:Nat} {ops:Array Oper} {B:Fr->List Res->Prop} {k:Nat} {F:Fr} {h:List Res} {T:List (Nat × List Nat)} {fuel:Nat} {done:List Nat}
theorem RH {K:Fr->List Res->Prop} {ls:List AV} {len sz:Nat} (hd:VG n (ZA ops k)=true) (ha:TL P ops F k=some (ls,len,sz)) (hlen:ls.length=len*sz)
  (hK:∀g,K (F.put (ZA ops k).dst (.val (.slice (some ⟨g,0,none⟩) len len))) (.row (.slice (some ⟨g,0,none⟩) len len) sz ls::h)):WL P n (ZA ops k) F h K:=by
 unfold TL at ha
 generalize hoo:ZA ops k=q at ha hd hK
 obtain ⟨dst,op,type,pos,after,guard⟩:=q
 cases op<;>simp only at ha<;>try (cases ha)
 rename_i t ln parts
 split at ha
 case h_2=>cases ha
 rename_i e ht
 split at ha
 case h_2=>cases ha
 rename_i i hi
 split at ha
 case h_2=>cases ha
 rename_i hc
 simp only [W6] at hc
 split at ha
 case h_2=>cases ha
 rename_i ls' hf
 simp only [Wp,Prod.mk.injEq] at ha
 obtain ⟨rfl,rfl,Xr⟩:=ha
 intro Q w G a hF hh
 obtain ⟨cs,h1,h2⟩:=GN hF parts ht hi rfl hc.1 hc.2 hf
 have hr:(execOp a.eval { dst:=dst,op:=.buildSlice t ln parts,type:=type,pos:=pos,after:=after,guard:=guard }).run P w =
   .ok (.value (.slice (some ⟨w.heap.size,0,none⟩) ln ln)) (w.alloc (.cells cs e)):=by
  simp only [execOp]
  exact Vj h2
 unfold Oper.wp
 rw [hr]
 have hlc:=h1.length
 simp only [KR] at hlc
 obtain ⟨j1,j2⟩:=hh.alloc_rrow cs e (ls:=ls') (len:=ln) (cap:=ln) (k:=sz) (X7 _) (by rw [hlc];exact hlen) hlen (by rw [<-hlen,<-hlc];simpa [Vt] using h1)
 exact ⟨_,_,G,hK _,(hF.mono (j2.agree hh)).put (T8 hd) .val,j1,j2⟩
theorem UX (es es':List AV) (he:es=es') (len sz:Nat) (hK:∀v,SI P n ops B (k+1) (F.put (ZA ops k).dst (.sl es' (some v))) (.tail v sz::h)) (hk:Xg n ops F k=true:=by kernel_rfl)
  (ha:TL P ops F k=some (Zp es,len,sz):=by kernel_rfl) (hlen:es.length=len:=by kernel_rfl) (hall:Ah es sz=true:=by kernel_rfl):SI P n ops B k F h:=by
 subst he;exact iL es len sz hK hk ha hlen hall
theorem WK (i:Nat) (js bs:List Nat) (es es':List AV) (he:es=es') (len sz:Nat) (hK:∀v,YY P n ops B (T.filter fun t=>!Vg ops i t.1) fuel (done++[i]) (F.put (ZA ops i).dst (.sl es' (some v))) (.tail v sz::h))
  (hk:Xg n ops F i=true:=by kernel_rfl) (ha:TL P ops F i=some (Zp es,len,sz):=by kernel_rfl) (hlen:es.length=len:=by kernel_rfl) (hall:Ah es sz=true:=by kernel_rfl)
  (ho:Ui ops i T=bs:=by kernel_rfl) (hj:js.map (fun j=>(WU h)[j]?)=bs.map some:=by kernel_rfl):VF P n ops B T fuel done F h i:=by
 subst he;exact dL i js bs es len sz hK hk ha hlen hall ho hj
theorem iKN (ls:List AV) (len sz:Nat) (hK:∀g,SI P n ops B (k+1) (F.put (ZA ops k).dst (.val (.slice (some ⟨g,0,none⟩) len len))) (.row (.slice (some ⟨g,0,none⟩) len len) sz ls::h)) (hlen:ls.length=len*sz:=by rfl) (hk:Xg n ops F k=true:=by kernel_rfl)
  (ha:TL P ops F k=some (ls,len,sz):=by kernel_rfl):SI P n ops B k F h:=TW hk (RH (U4 hk).2.1 ha hlen hK)
theorem dKN (i:Nat) (js bs:List Nat) (ls:List AV) (len sz:Nat) (hK:∀g,YY P n ops B (T.filter fun t=>!Vg ops i t.1) fuel (done++[i]) (F.put (ZA ops i).dst (.val (.slice (some ⟨g,0,none⟩) len len))) (.row (.slice (some ⟨g,0,none⟩) len len) sz ls::h)) (hlen:ls.length=len*sz:=by rfl)
  (hk:Xg n ops F i=true:=by kernel_rfl) (ha:TL P ops F i=some (ls,len,sz):=by kernel_rfl) (ho:Ui ops i T=bs:=by kernel_rfl) (hj:js.map (fun j=>(WU h)[j]?)=bs.map some:=by kernel_rfl):VF P n ops B T fuel done F h i:=
 KE (h1:=[]) (h2:=h) [] js bs hk rfl ho hj (RH (U4 hk).2.1 ha hlen hK)
end
theorem WR.frz {P:Program} {f:FuncId} {as1:List AV} {h0:List Res} {E:Type} {kk:Nat} {es:E->List AV} {hs:E->List Res} {Q:E->Prop} (H:WR P f as1 h0 (fun r h=>∃(e:E) (v:Hd),r=.h v/\h=rK v kk (Zp (es e))::hs e/\Q e)) (hes:∀e,∀y∈es e,y.leaves.length=kk) (hk:0<kk) :
  WR P f as1 h0 (fun r h=>∃(e:E) (v:Value),r=.sl (es e) (some v)/\h=.tail v kk::hs e/\Q e):=by
 intro w G vs hv hh
 refine (H w G vs hv hh).mono ?_
 rintro e w' ⟨u,r,h',G',he,⟨x,v,rfl,rfl,hq⟩,hr,hh',hx⟩
 obtain ⟨G2,h1,h2,h3⟩:=Ch hh' (hes x) hk
 have hrv:=hr.val_inv
 subst hrv
 exact ⟨_,_,_,G2,he,⟨x,v.v,rfl,rfl,hq⟩,h3,h1,hx.trans h2⟩
theorem FJ {es:List AV} {sz k:Nat} {y:AV} (h:∀x∈es,x.leaves.length=sz) (hy:y.leaves.length=sz) (hk:k<es.length):(Zp es).take (k*sz)++y.leaves++(Zp es).drop (k*sz+y.leaves.length)=Zp (es.set k y):=by
 obtain ⟨x,hx⟩:=J3 (xs:=es) (j:=k) hk
 have hxl:=h x (ZW hx)
 have e1:es=es.take k++(x::es.drop (k+1)):=by rw [<-Y9 hx,UH]
 have e2:es.set k y=es.take k++(y::es.drop (k+1)):=by rw [EP,Zd hk]
 have hl:(Zp (es.take k)).length=k*sz:=by rw [TT (k:=sz) _ (fun z hz=>h z (Q1 hz)),WB,VV om]
 have e3:Zp es=Zp (es.take k)++(x.leaves++Zp (es.drop (k+1))):=by
  conv=>lhs;rw [e1,QD]
  simp [Zp]
 rw [e2,QD,e3,M0 hl (by rw [hxl,hy])]
 simp [Zp]
theorem Z64 (ds:List Zf) (k:Nat) (d:Zf):X8 (ds.set k d)=(X8 ds).set k (BR d):=by simp [X8,List.map_set]
theorem C1 (xs:List Zf):(Zp (X8 xs)).length=xs.length*3:=by rw [TT (k:=3) _ (Jy xs)];simp
theorem FG {ds:List Zf} {k:Nat} (d:Zf) (hk:k<ds.length):(Zp (X8 ds)).take (k*3)++Ke d++(Zp (X8 ds)).drop (k*3+3)=Zp (X8 (ds.set k d)):=by
 rw [Z64];exact FJ (y:=BR d) (Jy ds) rfl (by simpa using hk)
theorem Iu (xs ys:List Zf):Zp (X8 xs)++Zp (X8 ys)=Zp (X8 (xs++ys)):=by rw [Z63,QD]
section
variable {P:Program} {n:Nat} {ops:Array Oper} {B:Fr->List Res->Prop} {k:Nat} {F:Fr} {h:List Res}
theorem E8 (j m:Nat) {v:Hd} {kk:Nat} {ls:List AV} (hm:ls.length=m*kk) (h0:0<m) (H:∀g c',v=⟨some ⟨g,0,none⟩,m,c'⟩->SI P n ops B k F h) (hk:0<kk:=by omega) (hj:h[j]? = some (rK v kk ls):=by kernel_rfl):SI P n ops B k F h:=by
 intro Q w G a hF hh hq
 obtain ⟨g,c',e⟩:=Sf (hh.ok _ (ZW hj)) hm hk h0
 exact H g c' e Q w G a hF hh hq
end
section
variable {P:Program} {n:Nat} {ops:Array Oper} {B:Fr->List Res->Prop} {k:Nat} {F:Fr} {h:List Res}
def I0 (P:Program) (ops:Array Oper) (F:Fr) (k:Nat):Option (IntKind × Int):=
 match (ZA ops k).op with
 | .convert s d x=>match P.underlying s,P.underlying d,F.ev x with
  | some (.int _),some (.int q),.val (.int _ z)=>some (q,z)
  | _,_,_=>none
 | _=>none
theorem kCv (q:IntKind) (z z':Int) (e:q.wrap z=z') (hc:I0 P ops F k=some (q,z):=by kernel_rfl):XD P (ZA ops k) F h [] (.val (.int q z')):=by
 unfold I0 at hc
 generalize hoo:ZA ops k=o at hc
 obtain ⟨dst,op,type,pos,after,guard⟩:=o
 cases op<;>simp only at hc<;>try (cases hc)
 rename_i s d x
 split at hc
 ·rename_i q1 q2 q3 z2 h1 h2 h3
  cases hc
  intro n w G ac hF hh
  have v1:=hF.ev x
  rw [h3] at v1
  have v1:=v1.val_inv
  refine ⟨_,.val,fun w' _ _=>?_⟩
  simp only [execOp,v1]
  refine Vj ?_
  simp [convert,VD h1,VD h2,Conv.intToInt,e]
 ·cases hc
theorem MI {z:Int} (h:0<=z/\z<=9223372036854775807):IntKind.i64.wrap z=z:=IntWalk.i64_in _ om
theorem D7 (z:Int) (hz:0<=z/\z<=255) (hc:I0 P ops F k=some (.i64,z):=by kernel_rfl):XD P (ZA ops k) F h [] (.i z):=kCv .i64 z z (MI om) hc
def B3 (ops:Array Oper) (F:Fr) (k:Nat) (b:BinOp):Option (Int × Int):=
 match (ZA ops k).op with
 | .binOp c _ x y _=>if c==b then match F.ev x,F.ev y with
  | .val (.int .i64 z),.val (.int .i64 u)=>some (z,u)
  | _,_=>none else none
 | _=>none
theorem Lb (a b:Int) (hb:0<b) (ha:0<=a/\a<=9223372036854775807) (hc:B3 ops F k .quo=some (a,b):=by kernel_rfl):XD P (ZA ops k) F h [] (.i (a / b)):=by
 unfold B3 at hc
 generalize hoo:ZA ops k=o at hc
 obtain ⟨dst,op,type,pos,after,guard⟩:=o
 cases op<;>simp only at hc<;>try (cases hc)
 rename_i bop t x y yt
 cases bop<;>simp only [Zq,reduceCtorEq,if_false,if_true] at hc<;>try (cases hc)
 split at hc
 ·rename_i z yk h1 h2
  cases hc
  intro n' w G ac hF hh
  have v1:=hF.ev x
  have v2:=hF.ev y
  rw [h1] at v1
  rw [h2] at v2
  have v1:=v1.val_inv
  have v2:=v2.val_inv
  refine ⟨_,.val,fun w' _ _=>?_⟩
  simp only [execOp,v1,v2]
  refine Vj ?_
  have e1:a.tdiv b=a / b:=Int.tdiv_eq_ediv_of_nonneg ha.1
  have e2:IntKind.i64.wrap (a / b)=a / b:=MI ⟨Int.ediv_nonneg ha.1 om,Int.le_trans (Int.ediv_le_self b ha.1) ha.2⟩
  have e3:b≠0:=by omega
  simp [eqGuard,binOp,Op.intDiv,e1,e2,e3]
 ·cases hc
theorem Eb (a b:Int) (hb:0<b) (ha:0<=a) (hc:B3 ops F k .rem=some (a,b):=by kernel_rfl):XD P (ZA ops k) F h [] (.i (a % b)):=by
 unfold B3 at hc
 generalize hoo:ZA ops k=o at hc
 obtain ⟨dst,op,type,pos,after,guard⟩:=o
 cases op<;>simp only at hc<;>try (cases hc)
 rename_i bop t x y yt
 cases bop<;>simp only [Zq,reduceCtorEq,if_false,if_true] at hc<;>try (cases hc)
 split at hc
 ·rename_i z yk h1 h2
  cases hc
  intro n' w G ac hF hh
  have v1:=hF.ev x
  have v2:=hF.ev y
  rw [h1] at v1
  rw [h2] at v2
  have v1:=v1.val_inv
  have v2:=v2.val_inv
  refine ⟨_,.val,fun w' _ _=>?_⟩
  simp only [execOp,v1,v2]
  refine Vj ?_
  have e1:a.tmod b=a % b:=Int.tmod_eq_emod_of_nonneg ha
  have e3:b≠0:=by omega
  simp [eqGuard,binOp,Op.intDiv,e1,e3]
 ·cases hc
theorem C9 (a b:Nat) (hb:0<b) (ha:a<=9223372036854775807) (hc:B3 ops F k .quo=some ((a:Int),(b:Int)):=by kernel_rfl):XD P (ZA ops k) F h [] (.i (a / b:Nat)):=by
 rw [Int.natCast_ediv];exact Lb a b om om hc
theorem Ge (a b:Nat) (hb:0<b) (_ha:a<=9223372036854775807) (hc:B3 ops F k .rem=some ((a:Int),(b:Int)):=by kernel_rfl):XD P (ZA ops k) F h [] (.i (a % b:Nat)):=by
 rw [Int.natCast_emod];exact Eb a b om om hc
def AN (a b:Int):Int:=IntKind.i64.wrap ((BitVec.ofInt 64 a ^^^ BitVec.ofInt 64 b).toNat:Int)
theorem Hg {a b:Int} (ha:0<=a/\a<4611686018427387904) (hb:0<=b/\b<4611686018427387904):0<=AN a b/\AN a b<4611686018427387904:=by
 obtain ⟨x,rfl⟩:=Int.eq_ofNat_of_zero_le ha.1
 obtain ⟨y,rfl⟩:=Int.eq_ofNat_of_zero_le hb.1
 have h1:(BitVec.ofInt 64 (x:Int) ^^^ BitVec.ofInt 64 (y:Int)).toNat=x ^^^ y:=by
  rw [BitVec.toNat_xor,BitVec.toNat_ofInt,BitVec.toNat_ofInt]
  have e1:((x:Int) % ((2 ^ 64:Nat):Int)).toNat=x:=by omega
  have e2:((y:Int) % ((2 ^ 64:Nat):Int)).toNat=y:=by omega
  rw [e1,e2]
 have h2:x ^^^ y<2 ^ 62:=Nat.xor_lt_two_pow om om
 rw [AN,h1,MI om]
 omega
theorem PE (a b:Int) (hc:B3 ops F k .xor=some (a,b):=by kernel_rfl):XD P (ZA ops k) F h [] (.i (AN a b)):=by
 unfold B3 at hc
 generalize hoo:ZA ops k=o at hc
 obtain ⟨dst,op,type,pos,after,guard⟩:=o
 cases op<;>simp only at hc<;>try (cases hc)
 rename_i bop t x y yt
 cases bop<;>simp only [Zq,reduceCtorEq,if_false,if_true] at hc<;>try (cases hc)
 split at hc
 ·rename_i z yk h1 h2
  cases hc
  intro n' w G ac hF hh
  have v1:=hF.ev x
  have v2:=hF.ev y
  rw [h1] at v1
  rw [h2] at v2
  have v1:=v1.val_inv
  have v2:=v2.val_inv
  refine ⟨_,.val,fun w' _ _=>?_⟩
  simp only [execOp,v1,v2]
  refine Vj ?_
  simp [eqGuard,binOp,Op.intBits,IntKind.bits]
  exact Yp (fun z:Nat=>IntKind.i64.wrap (z:Int)) (by rw [BitVec.toNat_xor,BitVec.toNat_ofInt,BitVec.toNat_ofInt];rfl)
 ·cases hc
end
end Go.Abs
section
namespace Go.Abs
inductive Z1 where
 | mk (op num:Int) (kids:List Z1)
namespace Z1
def op:Z1->Int|.mk a _ _=>a
def num:Z1->Int|.mk _ a _=>a
def kids:Z1->List Z1|.mk _ _ a=>a
end Z1
structure Func where
 params:LI
 result:Int
 body:Z1
structure Wg where
 decls:List Zf
 funcs:List Func
instance:Inhabited Z1:=⟨.mk 0 0 []⟩
mutual
def Ij:Z1->AV
 | .mk op num kids=>.agg [.i op,.i num,.sl (Yx kids) none]
def Yx:List Z1->List AV
 | []=>[]
 | e::r=>Ij e::Yx r
end
abbrev Y7 (e:Z1):AV:=.agg [.i e.op,.i e.num,.sl (Yx e.kids) none]
abbrev X3 (e:Z1):List AV:=[.i e.op,.i e.num,.sl (Yx e.kids) none]
abbrev XH (xs:List Z1):AV:=.sl (Yx xs) none
abbrev QK (xs:List Z1) (v:Value):AV:=.sl (Yx xs) (some v)
abbrev DF (f:Func):AV:=.agg [Z5 f.params,.i f.result,.i f.body.op,.i f.body.num,XH f.body.kids]
abbrev Gh (f:Func):List AV:=[Z5 f.params,.i f.result,.i f.body.op,.i f.body.num,XH f.body.kids]
def Xz (xs:List Func):List AV:=xs.map DF
abbrev Gp (xs:List Func):AV:=.sl (Xz xs) none
abbrev Ag (p:Wg):AV:=.agg [ZT p.decls,Gp p.funcs]
abbrev Lg (p:Wg):List AV:=[ZT p.decls,Gp p.funcs]
abbrev Hy (z:Int):AV:=.val (.int .u8 z)
def Q5 (xs:LI):List AV:=xs.map Hy
abbrev Uh (xs:LI):AV:=.sl (Q5 xs) none
theorem Z65 (e:Z1):Ij e=Y7 e:=by cases e;rw [Ij];rfl
theorem XS:∀xs:List Z1,Yx xs=xs.map Y7
 | []=>by rw [Yx];rfl
 | s::ss=>by rw [Yx,XS ss,Z65];rfl
theorem CI {xs:List Z1} {j:Nat} {x:Z1} (h:xs[j]? = some x):(Yx xs)[j]? = some (Y7 x):=by simp [XS,h]
theorem Fv {xs:List Func} {j:Nat} {x:Func} (h:xs[j]? = some x):(Xz xs)[j]? = some (DF x):=by simp [Xz,h]
theorem CE {xs:LI} {j:Nat} {x:Int} (h:xs[j]? = some x):(Q5 xs)[j]? = some (Hy x):=by simp [Q5,h]
@[simp] theorem Ik (xs:List Z1):(Yx xs).length=xs.length:=by simp [XS]
@[simp] theorem CJ (xs:List Func):(Xz xs).length=xs.length:=by simp [Xz]
@[simp] theorem KF (xs:LI):(Q5 xs).length=xs.length:=by simp [Q5]
theorem JU (xs ys:List Z1):Yx (xs++ys)=Yx xs++Yx ys:=by simp [XS]
theorem Z66 (xs ys:List Func):Xz (xs++ys)=Xz xs++Xz ys:=by simp [Xz]
theorem If (xs:LI) (n:Nat):(Q5 xs).take n=Q5 (xs.take n):=by simp [Q5]
theorem Ie (xs:LI) (n:Nat):(Q5 xs).drop n=Q5 (xs.drop n):=by simp [Q5]
theorem Tq (xs:List Z1):∀y∈Yx xs,y.leaves.length=3:=by intro y hy;simp only [XS,Wf] at hy;obtain ⟨x,_,rfl⟩:=hy;rfl
theorem Fw (xs:List Func):∀y∈Xz xs,y.leaves.length=5:=by intro y hy;simp only [Xz,Wf] at hy;obtain ⟨x,_,rfl⟩:=hy;rfl
theorem Z61 (xs:LI):∀y∈Q5 xs,y.leaves.length=1:=by intro y hy;simp only [Q5,Wf] at hy;obtain ⟨x,_,rfl⟩:=hy;rfl
theorem JV (xs:List Z1):(Zp (Yx xs)).all AV.one=true:=JA fun y hy=>by simp only [XS,Wf] at hy;obtain ⟨x,_,rfl⟩:=hy;rfl
end Go.Abs
end
section
namespace Go.Abs
open Go.Proofs Go.Proofs.YtfjgjacklgaioaaGreat
section
variable {H:Type} {enc:TypeId × Value->H} {w:World}
def GA (w:World):Ye:=fun b _=>b<w.heap.size
abbrev Tr (enc:TypeId × Value->H) (w:World) (n:Nat) (t:TypeId) (cs:List Value) (x:DataW H × List MemPlace):Prop:=DataW.trod enc Tryz.prog w 0 (fun _=>true) true n t cs=some x
theorem Rf {w:World} {a:Addr} {v:Value} (h:w.cell? a=some v):a.block<w.heap.size/\a.spot=none:=by
 unfold World.cell? at h
 split at h
 ·rename_i c e fr hb
  split at h
  ·cases h
  ·rename_i hs
   exact ⟨(T3.1 hb).1,by simpa using hs⟩
 ·cases h
theorem Nz {α:Type} {c:α->Nat}:∀{xs:List α} {ds:List (DataW H)},xs.length=ds.length->(∀(i:Nat) a d,xs[i]? = some a->ds[i]? = some d->c a+1<=Rows.uptoBulk d)->(xs.map fun a=>c a+1).sum<=Rows.uptoBulkAll ds
 | [],[],_,_=>X7 _
 | a::r,d::ds,hl,h=>by
  have h0:=h 0 a d rfl rfl
  have h1:=Nz (c:=c) (xs:=r) (ds:=ds) (by simpa using hl) fun i a d ha hd=>h (i+1) a d (by simpa using ha) (by simpa using hd)
  rw [UG,List.sum_cons,Rows.uptoBulkAll]
  omega
theorem S6 {α:Type} {f:α->AV} {G:Ye} {k b:Nat} (hf:∀x,(f x).leaves.length=k):∀{xs:List α} {o:Nat},(∀(i:Nat) a,xs[i]? = some a->WD w G b (o+i*k) (f a).leaves)->Vv w G k b o (xs.map f)
 | [],_,_=>.nil
 | x::r,o,h=>by
  refine .cons (hf x) (by have:=h 0 x rfl;simpa using this) (S6 hf fun i a ha=>?_)
  have:=h (i+1) a (by simpa using ha)
  rw [show o+(i+1)*k=o+k+i*k by rw [Qy];omega] at this
  exact this
theorem Zde {α:Type} [Inhabited α] {t e k:Nat} (ht:Tryz.prog.underlying t=some (.slice e)) (hk:Tryz.prog.cellsOf e=k) (h0:0<k) (f:α->AV) (hf:∀x,(f x).leaves.length=k) (c:α->Nat) (Q:α->Prop) {n:Nat} {cs:List Value} {x:DataW H × List MemPlace}
  (h:Tr enc w n t cs x) (el:∀m cs y,m<n->Tr enc w m e cs y->∃a:α,YV w (GA w) (f a).leaves cs/\c a+1<=Rows.uptoBulk y.1/\Q a) :
  ∃(v:Value) (xs:List α),cs=[v]/\RV w (GA w) (.sl (xs.map f) none) v/\(xs.map fun a=>c a+1).sum+1<=Rows.uptoBulk x.1/\∀a∈xs,Q a:=by
 rcases DataW.trod_slice ht h with ⟨rfl,rfl⟩|⟨a,len,cap,elems,rest,m,rfl,rfl,rfl,_,hlc,_,hlen,hel,_,_⟩
 ·exact ⟨_,[],rfl,.nil (by simp),by simp [Rows.uptoBulk],by simp⟩
 ·rw [hk] at hel
  have hone:∀i,i<len->∃z:α,∃cs' y,w.cells? 0 (a.add (i*k)) k=some cs'/\elems[i]? = some y/\YV w (GA w) (f z).leaves cs'/\c z+1<=Rows.uptoBulk y.1/\Q z:=by
   intro i hi
   have h1:=hel i hi
   rw [QU om] at h1
   obtain ⟨cs',h2,h3⟩:=Option.bind_eq_some_iff.1 h1
   obtain ⟨z,hz1,hz2,hz3⟩:=el m cs' _ om h3
   exact ⟨z,cs',_,h2,QU om,hz1,hz2,hz3⟩
  obtain ⟨V,hV⟩:=Go.Deep.choose_lt hone
  refine ⟨_,(List.range len).map V,rfl,?_,?_,?_⟩
  ·cases hl0:len with
   | zero=>exact .nil (by simp)
   | succ q=>
    have hsp:a.spot=none:=by
     obtain ⟨cs',y,g1,_⟩:=hV 0 om
     obtain ⟨_,g2,g3⟩:=World.cells?_some g1
     have g4:=g3 0 h0
     rw [QU om] at g4
     have g5:=(Rf g4).2
     simpa [Addr.add] using g5
    obtain ⟨b,o,sp⟩:=a
    simp only at hsp
    subst hsp
    rw [<-hl0]
    have hll:(((List.range len).map V).map f).length=len:=by simp
    have:=RV.sl (w:=w) (G:=GA w) (es:=((List.range len).map V).map f) (hv:=none) (b:=b) (o:=o) (k:=k) (cap:=cap) (by simp) (by rw [hll];exact hlc) (S6 hf fun i z hz=>by
     have hi:i<len:=by have:=(Xq.1 hz).1;simpa using this
     have hz':V i=z:=by simpa [hi] using hz
     obtain ⟨cs',y,g1,_,g2,_⟩:=hV i hi
     rw [hz'] at g2
     obtain ⟨_,g3,g4⟩:=World.cells?_some g1
     refine WD.of_cells g2 fun j u hj=>?_
     have hjl:j<k:=by have:=(Xq.1 hj).1;omega
     have g5:=(g4 j hjl).trans hj
     rw [Addr.add_lit,Addr.add_lit] at g5
     exact ⟨g5,(Rf g5).1⟩)
    rw [hll] at this
    exact this
  ·have:=Nz (c:=c) (xs:=(List.range len).map V) (ds:=elems.map (·.1)) (by simp [hlen]) fun i z d hz hd=>by
    have hi:i<len:=by have:=(Xq.1 hz).1;simpa using this
    have hz':V i=z:=by simpa [hi] using hz
    obtain ⟨cs',y,_,g1,_,g2,_⟩:=hV i hi
    rw [Tl,g1] at hd
    simp only [BM,Wp] at hd
    rw [<-hd,<-hz']
    exact g2
   simp only [Rows.uptoBulk]
   omega
  ·intro z hz
   obtain ⟨i,hi,rfl⟩:=Wf.1 hz
   obtain ⟨_,_,_,_,_,_,g⟩:=hV i (List.mem_range.1 hi)
   exact g
theorem Zdd {n:Nat} {cs:List Value} {x:DataW H × List MemPlace} (h:Tr enc w n 5 cs x):∃z:Int,cs=[.int .u8 z]/\Rows.uptoBulk x.1=1/\0<=z/\z<=255:=by
 obtain ⟨z,rfl,rfl,hw⟩:=DataW.trod_int Tryz.underlying5 h
 refine ⟨z,rfl,rfl,?_⟩
 simpa [Lit.wf,IntKind.min,IntKind.max,IntKind.signed,IntKind.bits] using hw
theorem S4 {n:Nat} {cs:List Value} {x:DataW H × List MemPlace} (h:Tr enc w n 22 cs x):∃(v:Value) (xs:LI),cs=[v]/\RV w (GA w) (Uh xs) v/\∀z∈xs,0<=z/\z<=255:=by
 obtain ⟨v,xs,h1,h2,h3,h4⟩:=Zde Tryz.underlying22 (k:=1) kr om (fun z:Int=>Hy z) (fun _=>rfl) (fun _=>0) (fun z=>0<=z/\z<=255) h fun m cs y _ hy=>by
  obtain ⟨z,rfl,hb,hz⟩:=Zdd hy
  exact ⟨z,.cons .val .nil,Nat.le_of_eq hb.symm,hz⟩
 exact ⟨v,xs,h1,h2,h4⟩
end
end Go.Abs
end
namespace Go.Abs
structure Sg where
 params:LI
 result:Int
abbrev MR (f:Sg):AV:=.agg [.sl (Z7 f.params) none,.i f.result,.i 0,.i 0,.sl [] none]
def Uz (fs:List Sg):List AV:=fs.map MR
theorem In {xs:List Sg} {j:Nat} {x:Sg} (h:xs[j]? = some x):(Uz xs)[j]? = some (MR x):=by simp [Uz,h]
@[simp] theorem Oc (xs:List Sg):(Uz xs).length=xs.length:=by simp [Uz]
theorem Ob (xs:List Sg):∀y∈Uz xs,y.leaves.length=5:=by intro y hy;simp only [Uz,Wf] at hy;obtain ⟨x,_,rfl⟩:=hy;rfl
theorem Z6a (xs:List Sg):(Zp (Uz xs)).all AV.one=true:=JA fun y hy=>by simp only [Uz,Wf] at hy;obtain ⟨x,_,rfl⟩:=hy;rfl
mutual
def Z4.sz:Z4->Nat
 | .mk _ _ _ args kids=>1+args.length+Xc kids
def Z6.sz:Z6->Nat
 | .mk steps _=>1+Yb steps
def Yb:List Z4->Nat
 | []=>0
 | s::r=>s.sz+Yb r
def Xc:List Z6->Nat
 | []=>0
 | b::r=>b.sz+Xc r
end
theorem Z4.sz_pos (s:Z4):1<=s.sz:=by cases s;rw [Z4.sz];omega
theorem Z6.sz_pos (b:Z6):1<=b.sz:=by cases b;rw [Z6.sz];omega
theorem Jg (l:List Z4):l.length<=Yb l:=by
 induction l with
 | nil=>simp
 | cons s r ih=>have:=s.sz_pos;simp only [YT,Yb];omega
theorem Nw (l:List Z6):l.length<=Xc l:=by
 induction l with
 | nil=>simp
 | cons s r ih=>have:=s.sz_pos;simp only [YT,Xc];omega
theorem Z08 {l:List Z4} {k:Nat} {s:Z4} (h:l[k]? = some s):s.sz<=Yb l:=by
 induction l generalizing k with
 | nil=>simp at h
 | cons t r ih=>
  cases k with
  | zero=>simp at h;subst h;simp only [Yb];omega
  | succ k=>have:=ih (k:=k) (by simpa using h);simp only [Yb];omega
theorem Z3k {l:List Z6} {k:Nat} {s:Z6} (h:l[k]? = some s):s.sz<=Xc l:=by
 induction l generalizing k with
 | nil=>simp at h
 | cons t r ih=>
  cases k with
  | zero=>simp at h;subst h;simp only [Xc];omega
  | succ k=>have:=ih (k:=k) (by simpa using h);simp only [Xc];omega
theorem Z4.sz_eq (s:Z4):s.sz=1+s.args.length+Xc s.kids:=by cases s;rw [Z4.sz];rfl
theorem Z6.sz_eq (b:Z6):b.sz=1+Yb b.steps:=by cases b;rw [Z6.sz];rfl
theorem A5 {b:Z6} {k:Nat} {s:Z4} (h:b.steps[k]? = some s):s.sz<b.sz:=by have:=Z08 h;have:=b.sz_eq;omega
theorem Tx {s:Z4} {k:Nat} {b:Z6} (h:s.kids[k]? = some b):b.sz<s.sz:=by have:=Z3k h;have:=s.sz_eq;omega
theorem QA (s:Z4):s.args.length<s.sz:=by have:=s.sz_eq;omega
theorem TK (s:Z4):s.kids.length<s.sz:=by have:=s.sz_eq;have:=Nw s.kids;omega
theorem Uk (b:Z6):b.steps.length<b.sz:=by have:=b.sz_eq;have:=Jg b.steps;omega
structure Ad (ds:List Zf):Prop where
 len:ds.length<=4194304
 cons:∀d∈ds,d.cons.length<=4194304
 fields:∀d∈ds,∀c∈d.cons,c.fields.length<=4194304
theorem Ad.cons_at {ds:List Zf} (h:Ad ds) {k:Nat} {d:Zf} (hd:ds[k]? = some d):d.cons.length<=4194304:=h.cons d (ZW hd)
def Ju (m:Nat) (c:Yn):Bool:=decide (c.fields.length<=3)&&Ws m c.fields
def K5 (d:Zf):List Zf->Bool
 | []=>false
 | e::r=>if e.cons.length=0/\e.frm=d.frm/\e.to_=d.to_ then true else K5 d r
def TP (m:Nat):List Yn->Bool
 | []=>true
 | c::r=>if Ju m c=true then TP m r else false
def UU (ds:List Zf) (d:Zf) (i:Nat):Bool:=
 if 0<d.cons.length then (if d.cons.length<=3/\d.frm=0/\d.to_=0 then TP ds.length d.cons else false)
 else if K5 d (ds.take i)=true then false else decide (0<=d.frm/\d.frm<=ds.length)&&decide (0<=d.to_/\d.to_<=ds.length)
def BW (ds:List Zf) (i:Nat):Bool:=(ds[i]?.map fun d=>UU ds d i).getD false
theorem DQ {ds:List Zf} {i:Nat} {d:Zf} (h:ds[i]? = some d):BW ds i=UU ds d i:=by rw [BW,h];rfl
def To (ds:List Zf):List Zf->Nat->Bool
 | [],_=>true
 | _::r,i=>if BW ds i=true then To ds r (i+1) else false
def V5 (ds:List Zf):Bool:=decide (ds.length<=4)&&To ds ds 0
theorem NQ {m:Nat} {cs:List Yn}:TP m cs=true↔∀c∈cs,Ju m c=true:=by
 induction cs with
 | nil=>simp [TP]
 | cons c r ih=>
  rw [TP]
  split
  ·rename_i h;simp [ih,h]
  ·rename_i h;simp [h]
theorem I6 {ds:List Zf}:∀{l:List Zf} {i:Nat},To ds l i=true↔∀j<l.length,BW ds (i+j)=true
 | [],i=>by simp [To]
 | d::r,i=>by
  rw [To]
  split
  ·rename_i h
   rw [I6 (l:=r)]
   constructor
   ·intro hq j hj
    cases j with
    | zero=>exact h
    | succ j=>have:=hq j (by simpa using hj);rwa [show i+(j+1)=i+1+j by omega]
   ·intro hq j hj
    have:=hq (j+1) (by simpa using hj)
    rwa [show i+(j+1)=i+1+j by omega] at this
  ·rename_i h
   simp only [Bool.false_eq_true,false_iff]
   intro hq
   exact h (hq 0 (by simp))
theorem Zhn {ds:List Zf} (h:V5 ds=true):WC ds:=by
 simp only [V5,W6,decide_eq_true_eq] at h
 obtain ⟨h1,h2⟩:=h
 rw [I6] at h2
 have key:∀d∈ds,∃i,UU ds d i=true:=fun d hd=>by
  obtain ⟨i,hi⟩:=List.mem_iff_getElem?.1 hd
  have:=h2 i (Xq.1 hi).1
  rw [Vu,DQ hi] at this
  exact ⟨i,this⟩
 have hc:∀d∈ds,0<d.cons.length->d.cons.length<=3/\TP ds.length d.cons=true:=fun d hd hp=>by
  obtain ⟨i,hi⟩:=key d hd
  rw [UU,Zd hp] at hi
  split at hi
  ·rename_i h;exact ⟨h.1,hi⟩
  ·cases hi
 refine ⟨h1,fun d hd=>?_,fun d hd c hc'=>?_⟩
 ·by_cases hp:0<d.cons.length
  ·exact (hc d hd hp).1
  ·omega
 ·have:=NQ.1 (hc d hd (List.length_pos_of_mem hc')).2 c hc'
  simp only [Ju,W6,decide_eq_true_eq] at this
  exact this.1
def Jd (m:Nat) (f:Sg):Bool:=decide (f.params.length<=3)&&(Ws m f.params&&decide (0<=f.result/\f.result<=m))
def Je (m:Nat):List Sg->Bool
 | []=>true
 | f::r=>if Jd m f=true then Je m r else false
def FF:List Sg->Bool
 | []=>false
 | f::_=>decide (f.params.length=0)&&decide (f.result=0)
theorem Z6p {fs:List Sg} {x:Sg} (h:fs[0]? = some x):FF fs=(decide (x.params.length=0)&&decide (x.result=0)):=by
 cases fs with
 | nil=>simp at h
 | cons f r=>simp at h;subst h;rfl
def Ks (ds:List Zf) (fs:List Sg):Bool:=
 V5 ds&&(decide (1<=fs.length/\fs.length<=4)&&(Je ds.length fs&&FF fs))
def QJ (ps:LI):LI->Option Int->Bool
 | [],_=>true
 | v::r,prev=>if (0<=v/\v<=(ps.length:Int)-1)/\ps[v.toNat]?≠some 0/\(∀p,prev=some p->p<v) then QJ ps r (some v) else false
theorem Ln {ps r:LI} {v:Int} {prev:Option Int} (h:(0<=v/\v<=(ps.length:Int)-1)/\ps[v.toNat]?≠some 0/\(∀p,prev=some p->p<v)):QJ ps (v::r) prev=QJ ps r (some v):=by
 rw [QJ,Zd h]
theorem Gl {ps r:LI} {v:Int} {prev:Option Int} (h:¬((0<=v/\v<=(ps.length:Int)-1)/\ps[v.toNat]?≠some 0/\(∀p,prev=some p->p<v))):QJ ps (v::r) prev=false:=by
 rw [QJ,Z8 h]
def Jk (ps ls:LI):Bool:=QJ ps ls none
def J9:List Y8->Bool
 | []=>true
 | r::rs=>if Jk r.params r.lent=true then J9 rs else false
def UO (r:Y8):Sg:=⟨r.params,r.result⟩
def U3 (n:Zi):Bool:=decide (n.routines.length<=4)&&(Ks n.decls (n.routines.map UO)&&J9 n.routines)
end Go.Abs
section
namespace Go.Abs
def Xy {α:Type} (xs:List α) (i:Int):Option α:=if 0<=i/\i<=(xs.length:Int)-1 then xs[i.toNat]? else none
theorem Ql {α:Type} {xs:List α} {i:Int} {x:α} (h:0<=i/\i<=(xs.length:Int)-1) (hx:xs[i.toNat]? = some x):Xy xs i=some x:=by rw [Xy,Zd h,hx]
theorem Kz {α:Type} {xs:List α} {i:Int} (h:¬(0<=i/\i<=(xs.length:Int)-1)):Xy xs i=none:=by rw [Xy,Z8 h]
theorem J1 {α:Type} {xs:List α} {i:Int} {x:α} (h:Xy xs i=some x):(0<=i/\i<=(xs.length:Int)-1)/\xs[i.toNat]? = some x:=by
 rw [Xy] at h
 split at h
 ·rename_i h1;exact ⟨h1,h⟩
 ·cases h
def Ti (vars:LI):LI->LI->Bool
 | [],[]=>true
 | a::as1,t::ts=>if Xy vars a=some t then Ti vars as1 ts else false
 | _,_=>false
def Wj (vars args types:LI):Bool:=Ti vars args types
theorem Z12 {vars:LI}:∀{args types:LI},args.length≠types.length->Ti vars args types=false
 | [],[],h=>absurd rfl h
 | [],_::_,_=>rfl
 | _::_,[],_=>rfl
 | a::as1,t::ts,h=>by
  rw [Ti]
  split
  ·exact Z12 (by simpa using h)
  ·rfl
theorem Zhf {vars args types:LI} {k:Nat} {a t:Int} (ha:args[k]? = some a) (ht:types[k]? = some t) (h:Xy vars a=some t) :
  Ti vars (args.drop k) (types.drop k)=Ti vars (args.drop (k+1)) (types.drop (k+1)):=by
 rw [Y9 ha,Y9 ht,Ti,Zd h]
theorem Z11 {vars args types:LI} {k:Nat} {a t:Int} (ha:args[k]? = some a) (ht:types[k]? = some t) (h:Xy vars a≠some t) :
  Ti vars (args.drop k) (types.drop k)=false:=by
 rw [Y9 ha,Y9 ht,Ti,Z8 h]
theorem Zhe {vars args types:LI} {k:Nat} (ha:args.length<=k) (ht:types.length<=k):Ti vars (args.drop k) (types.drop k)=true:=by
 rw [Xn ha,Xn ht];rfl
def VQ (op:Int):Bool:=op==0||(op==6||(op==8||(op==9||op==10)))
def XR (op:Int):Bool:=decide (0<=op/\op<=11)
def YF (op:Int):Bool:=decide (14<=op/\op<=17)
def UE (vars:LI) (op into:Int):Bool:=
 if into=0 then true else if op=6 then ((Xy vars (into-1)).map fun t=>decide (0<t)).getD false else false
def J0 (ds:List Zf) (ps:LI) (res:Int):Int:=Ux ds (ps.getLast?.getD 0) res
def KL (ds:List Zf) (vars:LI) (op:Int) (args:LI) (r:Y8):Int:=
 if op=9 then (if Wj vars args r.params=true then r.result else -1)
 else if r.params.length=0∨0<r.lent.length∨¬Wj vars args (r.params.take (r.params.length-1))=true then -1
 else J0 ds r.params r.result
def Uv (n:Zi) (vars:LI) (op num:Int) (args:LI):Int:=
 match Xy n.routines num with
 | none=>-1
 | some r=>KL n.decls vars op args r
def QC (ds:List Zf) (vars:LI) (op:Int) (args:LI):Int:=
 match args with
 | [a]=>match Xy vars a with
  | some t=>if t=0 then -1 else if (op≠14/\op≠15)/\W8 ds t=true then -1 else 0
  | none=>-1
 | _=>-1
def QY (ds:List Zf) (vars:LI) (args:LI):Int:=
 match args with
 | [a,b]=>match Xy vars a with
  | some t=>if W8 ds t=true then
    (match ds[(t-1).toNat]? with
     | some d=>if Wj vars [b] [d.frm]=true then d.to_ else -1
     | none=>-1) else -1
  | none=>-1
 | _=>-1
def Xu (ds:List Zf) (op num:Int):List LI:=if op=7 then [[],[]] else (ZY ds num).map (ZV ds)
mutual
def Yc (n:Zi) (vars:LI):Z4->Int
 | .mk op num into args kids=>
  if (num≠0/\¬VQ op=true)∨¬UE vars op into=true∨(0<kids.length/\op≠7/\op≠8) then -1
  else if op=0 then (if args.length=0/\(-999<=num/\num<=999) then 0 else -1)
  else if op=1∨op=2∨op=3∨op=4 then (if Wj vars args [0,0]=true then 0 else -1)
  else if op=5 then (if Wj vars args [0]=true then 0 else -1)
  else if op=6 then (if 0<Wm n.decls num/\Wj vars args (ZV n.decls num)=true then Wm n.decls num else -1)
  else if op=7 then (if Wj vars args [0]=true then (if (Xu n.decls op num).length=0∨kids.length≠(Xu n.decls op num).length then -1 else Wy n vars kids (Xu n.decls op num) true 0) else -1)
  else if op=8 then (if Wj vars args [num]=true then (if (Xu n.decls op num).length=0∨kids.length≠(Xu n.decls op num).length then -1 else Wy n vars kids (Xu n.decls op num) true 0) else -1)
  else if op=9∨op=10 then Uv n vars op num args
  else if op=11 then QY n.decls vars args
  else if op=14∨op=15∨op=16∨op=17 then QC n.decls vars op args
  else -1
def Wy (n:Zi) (vars:LI):List Z6->List LI->Bool->Int->Int
 | [],_,_,t=>t
 | b::bs,more,first,t=>
  match more with
  | []=>-1
  | m::ms=>if Xh n (vars++m) b<0∨(first=false/\Xh n (vars++m) b≠t) then -1 else Wy n vars bs ms false (Xh n (vars++m) b)
def XC (n:Zi):List Z4->LI->Option LI
 | [],vars=>some vars
 | s::r,vars=>if Yc n vars s<0 then none else XC n r (if XR s.op=true then vars++[Yc n vars s] else vars)
def Xh (n:Zi) (vars:LI):Z6->Int
 | .mk steps result=>match XC n steps vars with
  | none=>-1
  | some vs=>(Xy vs result).getD (-1)
end
def TJ (n:Zi) (vars:LI) (op num:Int) (kids:List Z6):Int:=
 if (Xu n.decls op num).length=0∨kids.length≠(Xu n.decls op num).length then -1 else Wy n vars kids (Xu n.decls op num) true 0
mutual
def Bi:Z4->Int->Int
 | .mk _ _ _ _ kids,left=>Qt kids left
def WY:Z6->Int->Int
 | .mk steps _,left=>Qa steps left
def Qa:List Z4->Int->Int
 | [],left=>left
 | s::r,left=>if left<1 then -1 else if Bi s (left-1)<0 then -1 else Qa r (Bi s (left-1))
def Qt:List Z6->Int->Int
 | [],left=>left
 | b::r,left=>if WY b left<0 then -1 else Qt r (WY b left)
end
def TY (b:Z6):Int:=if WY b 600<0 then -1 else 600-WY b 600
def Kl (n:Zi):List Y8->Bool
 | []=>true
 | r::rs=>if ¬TY r.body<0/\Xh n r.params r.body=r.result then Kl n rs else false
def XV (n:Zi):Bool:=U3 n&&Kl n n.routines
theorem Lm:(∀(s:Z4) (l:Int),0<=l->Bi s l<=l)/\(∀(b:Z6) (l:Int),0<=l->WY b l<=l):=by
 have key:∀m:Nat,(∀s:Z4,s.sz<=m->∀l:Int,0<=l->Bi s l<=l)/\(∀b:Z6,b.sz<=m->∀l:Int,0<=l->WY b l<=l):=by
  intro m
  induction m with
  | zero=>exact ⟨fun s h=>by have:=s.sz_pos;omega,fun s h=>by have:=s.sz_pos;omega⟩
  | succ m ih=>
   refine ⟨fun s hs l hl=>?_,fun b hb l hl=>?_⟩
   ·cases s with
    | mk op num into args kids=>
     rw [Bi]
     have hk:Xc kids<=m:=by rw [Z4.sz] at hs;omega
     clear hs
     induction kids generalizing l with
     | nil=>rw [Qt];exact Int.le_refl _
     | cons b r ihr=>
      rw [Xc] at hk
      have:=ih.2 b om l hl
      rw [Qt]
      split
      ·omega
      ·have:=ihr (WY b l) om om;omega
   ·cases b with
    | mk steps res=>
     rw [WY]
     have hk:Yb steps<=m:=by rw [Z6.sz] at hb;omega
     clear hb
     induction steps generalizing l with
     | nil=>rw [Qa];exact Int.le_refl _
     | cons s r ihr=>
      rw [Yb] at hk
      rw [Qa]
      split
      ·omega
      ·have:=ih.1 s om (l-1) om
       split
       ·omega
       ·have:=ihr (Bi s (l-1)) om om;omega
 exact ⟨fun s l hl=>(key s.sz).1 s (X7 _) l hl,fun b l hl=>(key b.sz).2 b (X7 _) l hl⟩
end Go.Abs
namespace Go.Abs
theorem Zg9 {l:List Z4} {k:Nat} {s:Z4} (h:l[k]? = some s):k+s.sz<=Yb l:=by
 induction l generalizing k with
 | nil=>simp at h
 | cons t r ih=>
  cases k with
  | zero=>simp at h;subst h;simp only [Yb];omega
  | succ k=>have:=ih (k:=k) (by simpa using h);have:=t.sz_pos;simp only [Yb];omega
theorem Ck {b:Z6} {k:Nat} {s:Z4} (h:b.steps[k]? = some s):k+s.sz<b.sz:=by have:=Zg9 h;have:=b.sz_eq;omega
structure X6 (n:Zi):Prop where
 decls:WC n.decls
 len:n.routines.length<=4
 params:∀r∈n.routines,r.params.length<=3
 lent:∀r∈n.routines,r.lent.length<=4194304
theorem X6.params_at {n:Zi} (h:X6 n) {k:Nat} {r:Y8} (hr:n.routines[k]? = some r):r.params.length<=3:=h.params r (ZW hr)
theorem X6.lent_at {n:Zi} (h:X6 n) {k:Nat} {r:Y8} (hr:n.routines[k]? = some r):r.lent.length<=4194304:=h.lent r (ZW hr)
theorem Z2u {ds:List Zf} {num:Int} {k:Nat} {x:Int} (h:(ZY ds num)[k]? = some x):(Xu ds 8 num)[k]? = some (ZV ds x):=by
 rw [Xu,Z8 om,Tl,h];rfl
end Go.Abs
namespace Go.Abs
theorem Lz {ds:List Zf} (hd:WC ds) (t:Int):(ZY ds t).length<=3:=by
 rw [ZY]
 split
 ·rename_i h
  obtain ⟨d,hd1⟩:=J3 (xs:=ds) (j:=(t-1).toNat) om
  rw [hd1,Zca]
  exact hd.cons_at hd1
 ·simp
theorem Ud {ds:List Zf} (hd:WC ds) (c:Int):(ZV ds c).length<=3:=by
 by_cases h:Wm ds c<1
 ·rw [(Fj h).1];simp
 ·obtain ⟨k,d,x,h1,_,h3,_,h5⟩:=HX h
  rw [h5];exact hd.fields_at h1 h3
theorem F4 {ds:List Zf} (hd:WC ds) {op num:Int} {k:Nat} {m:LI} (h:(Xu ds op num)[k]? = some m):m.length<=3:=by
 have hm:=ZW h
 rw [Xu] at hm
 split at hm
 ·simp at hm;subst hm;simp
 ·obtain ⟨c,_,rfl⟩:=Wf.1 hm;exact Ud hd c
theorem KZ {α:Type} {xs:List α} {x:α} (h:xs.length=1) (hx:xs[0]? = some x):xs=[x]:=by
 cases xs with
 | nil=>simp at h
 | cons a r=>
  cases r with
  | nil=>simp at hx;rw [hx]
  | cons b r=>simp at h
theorem Cz {ds:List Zf} {us args:LI} {op:Int} (h:args.length≠1):QC ds us op args=-1:=by
 cases args with
 | nil=>rfl
 | cons a r=>
  cases r with
  | nil=>simp at h
  | cons b r=>rfl
theorem CA {ds:List Zf} {us args:LI} {op a:Int} (h:args=[a]) (hi:¬(0<=a/\a<=(us.length:Int)-1)):QC ds us op args=-1:=by
 subst h;rw [QC];simp only [Kz hi]
theorem Cy {ds:List Zf} {us args:LI} {op a t:Int} (h:args=[a]) (hi:0<=a/\a<=(us.length:Int)-1) (ht:us[a.toNat]? = some t) :
  QC ds us op args=if t=0 then -1 else if (op≠14/\op≠15)/\W8 ds t=true then -1 else 0:=by
 subst h;rw [QC];simp only [Ql hi ht]
theorem Zds {n:Zi} {us args:LI} {op num:Int} {r:Y8} (hi:0<=num/\num<=(n.routines.length:Int)-1) (hr:n.routines[num.toNat]? = some r) :
  Uv n us op num args=KL n.decls us op args r:=by
 rw [Uv];simp only [Ql hi hr]
theorem Zdu {n:Zi} {us args:LI} {op num:Int} (hi:¬(0<=num/\num<=(n.routines.length:Int)-1)):Uv n us op num args=-1:=by
 rw [Uv];simp only [Kz hi]
theorem P0 {xs:LI} {x:Int} (h:xs[xs.length-1]? = some x):xs.getLast?.getD 0=x:=by
 rw [List.getLast?_eq_getElem?,h];rfl
theorem PS {n:Zi} {us:LI} {bs:List Z6} {ms:List LI} {b:Z6} {m:LI} {k:Nat} {t:Int} (hb:bs[k]? = some b) (hm:ms[k]? = some m)
  (h:¬(Xh n (us++m) b<0∨(k:Int)>0/\Xh n (us++m) b≠t)) :
  Wy n us (bs.drop k) (ms.drop k) (decide (k=0)) t=Wy n us (bs.drop (k+1)) (ms.drop (k+1)) (decide (k+1=0)) (Xh n (us++m) b):=by
 rw [Y9 hb,Y9 hm,Wy,Z8]
 ·simp
 ·rintro (q|⟨q1,q2⟩)
  ·exact h (.inl q)
  ·exact h (.inr ⟨by simp at q1;omega,q2⟩)
theorem PQ {n:Zi} {us:LI} {bs:List Z6} {ms:List LI} {b:Z6} {m:LI} {k:Nat} {t:Int} (hb:bs[k]? = some b) (hm:ms[k]? = some m)
  (h:Xh n (us++m) b<0∨(k:Int)>0/\Xh n (us++m) b≠t) :
  Wy n us (bs.drop k) (ms.drop k) (decide (k=0)) t=-1:=by
 rw [Y9 hb,Y9 hm,Wy,Zd]
 rcases h with q|⟨q1,q2⟩
 ·exact .inl q
 ·exact .inr ⟨by simp;omega,q2⟩
theorem PR {n:Zi} {us:LI} {bs:List Z6} {ms:List LI} {k:Nat} {f:Bool} {t:Int} (hb:bs.length<=k):Wy n us (bs.drop k) (ms.drop k) f t=t:=by
 rw [Xn hb,Wy]
end Go.Abs
end
namespace Go.Abs
theorem AJ (n:Zi) (us:LI) (s:Z4):Yc n us s =
  if (s.num≠0/\¬VQ s.op=true)∨¬UE us s.op s.into=true∨(0<s.kids.length/\s.op≠7/\s.op≠8) then -1
  else if s.op=0 then (if s.args.length=0/\(-999<=s.num/\s.num<=999) then 0 else -1)
  else if s.op=1∨s.op=2∨s.op=3∨s.op=4 then (if Wj us s.args [0,0]=true then 0 else -1)
  else if s.op=5 then (if Wj us s.args [0]=true then 0 else -1)
  else if s.op=6 then (if 0<Wm n.decls s.num/\Wj us s.args (ZV n.decls s.num)=true then Wm n.decls s.num else -1)
  else if s.op=7 then (if Wj us s.args [0]=true then TJ n us s.op s.num s.kids else -1)
  else if s.op=8 then (if Wj us s.args [s.num]=true then TJ n us s.op s.num s.kids else -1)
  else if s.op=9∨s.op=10 then Uv n us s.op s.num s.args
  else if s.op=11 then QY n.decls us s.args
  else if s.op=14∨s.op=15∨s.op=16∨s.op=17 then QC n.decls us s.op s.args
  else -1:=by
 cases s with
 | mk op num into args kids=>rw [Yc];rfl
theorem DJ (n:Zi) (us:LI) (b:Z6):Xh n us b=match XC n b.steps us with
  | none=>-1
  | some vs=>(Xy vs b.result).getD (-1):=by
 cases b with
 | mk st r=>rw [Xh];rfl
theorem N7 {α:Type} {xs:List α} {x:α} (h:xs.length=2) (hx:xs[0]? = some x):∃y,xs=[x,y]:=by
 match xs,h with
 | [a,b],_=>simp at hx;subst hx;exact ⟨b,rfl⟩
theorem T4 {ds:List Zf} {us args:LI} (h:args.length≠2):QY ds us args=-1:=by
 match args,h with
 | [],_=>rfl
 | [_],_=>rfl
 | [_,_],h=>simp at h
 | _::_::_::_,_=>rfl
theorem T5 {ds:List Zf} {us args:LI} {a:Int} (hl:args.length=2) (h:args[0]? = some a) (hi:¬(0<=a/\a<=(us.length:Int)-1)):QY ds us args=-1:=by
 obtain ⟨y,rfl⟩:=N7 hl h;rw [QY];simp only [Kz hi]
theorem UT {ds:List Zf} {us args:LI} {a t:Int} (hl:args.length=2) (h:args[0]? = some a) (hi:0<=a/\a<=(us.length:Int)-1) (ht:us[a.toNat]? = some t) :
  QY ds us args=if W8 ds t=true then
    (match ds[(t-1).toNat]? with
     | some d=>if Wj us (args.drop 1) [d.frm]=true then d.to_ else -1
     | none=>-1) else -1:=by
 obtain ⟨y,rfl⟩:=N7 hl h;rw [QY];simp only [Ql hi ht];rfl
theorem Z2m {ds:List Zf} {us args:LI} {a t:Int} {d:Zf} (hl:args.length=2) (h:args[0]? = some a) (hi:0<=a/\a<=(us.length:Int)-1) (ht:us[a.toNat]? = some t)
  (hA:W8 ds t=true) (hd:ds[(t-1).toNat]? = some d):QY ds us args=if Wj us (args.drop 1) [d.frm]=true then d.to_ else -1:=by
 rw [UT hl h hi ht,Zd hA];simp only [hd]
theorem L6 {ds:List Zf} {t:Int} (h:W8 ds t=true):1<=t/\t<=ds.length:=by
 simp only [W8,W6,decide_eq_true_eq] at h;exact h.1
theorem R5 (b:Z6) (l:Int):WY b l=Qa b.steps l:=by cases b;rw [WY];rfl
theorem Gk (s:Z4) (l:Int):Bi s l=Qt s.kids l:=by cases s;rw [Bi];rfl
structure Un (n:Zi):Prop where
 decls:Ad n.decls
 len:n.routines.length<=4194304
 params:∀r∈n.routines,r.params.length<=4194304
 lent:∀r∈n.routines,r.lent.length<=4194304
 body:∀r∈n.routines,r.body.sz<=10000000
theorem Mf {m:Nat} {fs:List Sg} (h:Je m fs=true):∀f∈fs,Jd m f=true:=by
 induction fs with
 | nil=>simp
 | cons f r ih=>
  rw [Je] at h
  split at h
  ·rename_i h1
   intro g hg
   rcases YD.1 hg with rfl|hg
   ·exact h1
   ·exact ih h g hg
  ·cases h
theorem Lx {n:Zi} (hz:Un n) (h:U3 n=true):X6 n:=by
 simp only [U3,Ks,W6,decide_eq_true_eq] at h
 obtain ⟨h1,⟨h2,h3,h4,h5⟩,h6⟩:=h
 refine ⟨Zhn h2,h1,fun r hr=>?_,hz.lent⟩
 have:=Mf h4 (UO r) (Wf.2 ⟨r,hr,rfl⟩)
 simp only [Jd,W6,decide_eq_true_eq] at this
 exact this.1
def gI (xs:LI) (i:Int):Int:=xs[i.toNat]?.getD 0
theorem VH {xs:LI} {i:Int} {x:Int} (h:xs[i.toNat]? = some x):gI xs i=x:=by rw [gI,h];rfl
structure Zh where
 vars:LI
 own:LI
 par:LI
 con:LI
 fst:LI
 tok:LI
def Zh.grow (L:Zh) (t own par:Int):Zh:=⟨L.vars++[t],L.own++[own],L.par++[par],L.con++[-1],L.fst++[-1],L.tok++[-1]⟩
def Vs (L:Zh) (v:Int):Option Zh:=if gI L.own v<1 then none else some { L with own:=L.own.set v.toNat (gI L.own v-1) }
def QX (own par ln:LI):Nat->Int->Bool
 | 0,_=>false
 | k+1,v=>if gI own v<1/\¬v∈ln then (if gI par v<0 then false else QX own par ln k (gI par v)) else true
def XM (L:Zh) (ln:LI) (v:Int):Bool:=QX L.own L.par ln (v.toNat+1) v
def U7:LI->Int->LI->LI
 | own,_,[]=>own
 | own,p,f::r=>U7 (if f≠0 then own.set p.toNat (gI own p+1) else own) (p+1) r
def TM (ds:List Zf) (L:Zh) (op x:Int):Option Zh:=
 if gI L.con x<0∨(op=17/\0<=gI L.tok x) then none
 else match Vs L x with
  | none=>none
  | some L1=>some { L1 with
    own:=U7 L1.own (gI L.fst x) (ZV ds (gI L.con x))
    tok:=if op=17 then L.tok.set x.toNat (ZV ds (gI L.con x)).length else L.tok }
def T6 (op:Int):Bool:=op==6||(op==9||(op==10||op==11))
def J8 (n:Zi) (op num:Int):LI:=if op=9 then ((n.routines[num.toNat]?).map (·.lent)).getD [] else []
def WH (n:Zi) (op num:Int) (i:Nat):Bool:=decide ((i:Int)∈J8 n op num)
def UI (n:Zi) (vars:LI) (op num a:Int) (i:Nat):Bool:=T6 op&&(gI vars a != 0&&!WH n op num i)
def U1 (n:Zi) (op num:Int):LI->Nat->Zh->Option Zh
 | [],_,L=>some L
 | a::r,i,L=>if UI n L.vars op num a i=true then (match Vs L a with
   | none=>none
   | some L1=>U1 n op num r (i+1) L1) else U1 n op num r (i+1) L
def TU (n:Zi) (op num:Int) (ln:LI) (L:Zh):LI->Nat->Bool
 | [],_=>true
 | a::r,i=>if WH n op num i=true/\¬XM L ln a=true then false else TU n op num ln L r (i+1)
def QE (L:Zh) (into:Int) (m:Nat):Option Zh:=
 if 0<into then (if gI L.tok (into-1)≠m then none else some { L with tok:=L.tok.set (into-1).toNat (-1) }) else some L
def U9 (n:Zi) (ln:LI) (L:Zh) (op num into:Int) (args:LI):Option Zh:=
 match U1 n op num args 0 L with
 | none=>none
 | some L1=>if TU n op num ln L1 args 0=true then QE L1 into args.length else none
def WQ:LI->LI->Bool
 | o::os,t::ts=>if o≠0∨0<=t then false else WQ os ts
 | _,_=>true
def Zh.take (L:Zh) (m:Nat):Zh:=⟨L.vars.take m,L.own.take m,L.par.take m,L.con.take m,L.fst.take m,L.tok.take m⟩
def VY (L:Zh) (m:Nat):Option Zh:=if WQ (L.own.drop m) (L.tok.drop m)=true then some (L.take m) else none
def Q7 (L:Zh) (par:Int):LI->Zh
 | []=>L
 | t::r=>Q7 (L.grow t 0 par) par r
def JP (ds:List Zf) (L:Zh) (x c:Int):Zh:=
 Q7 { L with con:=L.con.set x.toNat c,fst:=L.fst.set x.toNat L.vars.length } x (ZV ds c)
def WX (ds:List Zf) (L:Zh) (op num:Int) (args:LI) (i:Nat):Zh:=
 if op=8 then JP ds L (gI args 0) (gI (ZY ds num) i) else L
def Kj (lent:LI):LI->Nat->Zh->Zh
 | [],_,L=>L
 | t::r,i,L=>Kj lent r (i+1) (L.grow t (if t≠0/\¬(i:Int)∈lent then 1 else 0) (-1))
def WO (r:Y8):Zh:=Kj r.lent r.params 0 ⟨[],[],[],[],[],[]⟩
def K6 (L:Zh) (ln:LI) (v:Int):Option Zh:=if XM L ln v=true then some { L with own:=L.own.set v.toNat (gI L.own v+1) } else none
def UY (n:Zi) (ln:LI) (L:Zh) (op num into:Int) (args:LI) (ch:Option Zh):Option Zh:=
 if op=14 then K6 L ln (gI args 0)
 else if op=15 then Vs L (gI args 0)
 else if op=16∨op=17 then TM n.decls L op (gI args 0)
 else if op=7∨op=8 then (if op=8/\¬XM L ln (gI args 0)=true then none else ch)
 else U9 n ln L op num into args
def K8 (L:Zh) (op t:Int) (r:Option Zh):Option Zh:=
 match r with
 | none=>none
 | some L1=>if XR op=true then some (L1.grow t (if t≠0 then 1 else 0) (-1)) else some L1
def AB (L:Zh) (first:Option Zh) (rest:Zh->Bool):Option Zh:=
 match first with
 | none=>none
 | some one=>if rest one=true then some { L with own:=one.own,tok:=one.tok } else none
def GS (one:Zh) (two:Option Zh) (rest:Bool):Bool:=
 match two with
 | none=>false
 | some two=>if one.own=two.own/\one.tok=two.tok then rest else false
def Cm (r:Option Zh) (f:Zh->Option Zh):Option Zh:=match r with|none=>none|some L=>f L
def U0 (m:Nat) (res:Int) (L:Zh):Option Zh:=Cm (if gI L.vars res≠0 then Vs L res else some L) fun L2=>VY L2 m
mutual
def Vb (n:Zi) (ln:LI) (L:Zh):Z4->Option Zh
 | .mk op num into args kids=>K8 L op (Yc n L.vars (.mk op num into args kids)) (UY n ln L op num into args (Ug n ln L op num args kids))
def Ug (n:Zi) (ln:LI) (L:Zh) (op num:Int) (args:LI):List Z6->Option Zh
 | []=>none
 | b::bs=>AB L (Wk n ln (WX n.decls L op num args 0) L.vars.length b) fun one=>TI n ln L op num args one bs 1
def TI (n:Zi) (ln:LI) (L:Zh) (op num:Int) (args:LI) (one:Zh):List Z6->Nat->Bool
 | [],_=>true
 | b::bs,i=>GS one (Wk n ln (WX n.decls L op num args i) L.vars.length b) (TI n ln L op num args one bs (i+1))
def XK (n:Zi) (ln:LI) (L:Zh):List Z4->Option Zh
 | []=>some L
 | s::r=>Cm (Vb n ln L s) fun L1=>XK n ln L1 r
def Wk (n:Zi) (ln:LI) (L:Zh) (m:Nat):Z6->Option Zh
 | .mk steps result=>Cm (XK n ln L steps) (U0 m result)
end
theorem H4 (n:Zi) (ln:LI) (L:Zh) (s:Z4):Vb n ln L s=K8 L s.op (Yc n L.vars s) (UY n ln L s.op s.num s.into s.args (Ug n ln L s.op s.num s.args s.kids)):=by
 cases s with
 | mk op num into args kids=>rw [Vb];rfl
theorem QB (n:Zi) (ln:LI) (L:Zh) (m:Nat) (b:Z6):Wk n ln L m b=Cm (XK n ln L b.steps) (U0 m b.result):=by
 cases b with
 | mk st r=>rw [Wk];rfl
def U8 (n:Zi) (r:Y8):Bool:=
 match Wk n r.lent (WO r) r.params.length r.body with
 | none=>false
 | some L=>(VY L 0).isSome
def QZ (n:Zi):List Y8->Bool
 | []=>true
 | r::rs=>if U8 n r=true then QZ n rs else false
def Xt (n:Zi):Bool:=XV n&&QZ n n.routines
structure Wq (L:Zh):Prop where
 own:L.own.length=L.vars.length
 par:L.par.length=L.vars.length
 con:L.con.length=L.vars.length
 fst:L.fst.length=L.vars.length
 tok:L.tok.length=L.vars.length
structure Xb (ds:List Zf) (L:Zh) (q:Int):Prop where
 len:Wq L
 down:∀j:Int,0<=j->j<L.vars.length->gI L.par j<j
 arm:∀x:Int,0<=x->x<L.vars.length->0<=gI L.con x->0<=gI L.fst x/\gI L.fst x+(ZV ds (gI L.con x)).length<=L.vars.length
 nn:∀x∈L.own,0<=x
 bd:∀x∈L.own,x<=q
end Go.Abs
section
namespace Go.Abs
end Go.Abs
namespace Go.Abs
theorem Zbv {n:Zi} {op num:Int} {r:Y8} (h:op=9) (hr:n.routines[num.toNat]? = some r):J8 n op num=r.lent:=by
 rw [J8,Zd h,hr];rfl
end Go.Abs
namespace Go.Abs
theorem Z26 {own par ln:LI} {N:Int} (hd:∀j:Int,0<=j->j<N->gI par j<j):∀(k:Nat) (v:Int),0<=v->v<N->v.toNat+1<=k->QX own par ln k v=QX own par ln (v.toNat+1) v:=by
 intro k
 induction k using Nat.strongRecOn with
 | ind k ih=>
  intro v h0 hN hk
  cases k with
  | zero=>omega
  | succ k=>
   rw [QX,QX]
   split
   ·split
    ·rfl
    ·have hdv:=hd v h0 hN
     rw [ih k om (gI par v) om om om]
     rw [ih v.toNat om (gI par v) om om om]
   ·rfl
theorem MY {own par ln:LI} {N j x1 x2:Int} {r:Bool} (h1:gI own j=x1) (h2:gI par j=x2) (hj:0<=j/\j<N) (hx:x1<1/\¬j∈ln) (h0:¬x2<0) (hd:∀i:Int,0<=i->i<N->gI par i<i)
  (h:QX own par ln (j.toNat+1) j=r):QX own par ln (x2.toNat+1) x2=r:=by
 rw [QX,h1,h2,Zd hx,Z8 h0] at h
 have hdv:=hd j hj.1 hj.2
 rw [<-h,Z26 hd j.toNat x2 om om om]
theorem MX {own par ln:LI} {j x1 x2:Int} {r:Bool} (h1:gI own j=x1) (h2:gI par j=x2) (hx:x1<1/\¬j∈ln) (h0:x2<0) (h:QX own par ln (j.toNat+1) j=r):false=r:=by
 rw [QX,h1,h2,Zd hx,Zd h0] at h;exact h
theorem MZ {own par ln:LI} {j x1:Int} {r:Bool} (h1:gI own j=x1) (hx:¬(x1<1/\¬j∈ln)) (h:QX own par ln (j.toNat+1) j=r):true=r:=by
 rw [QX,h1,Z8 hx] at h;exact h
end Go.Abs
namespace Go.Abs
theorem QP {L L':Zh} {v:Int} (h:Vs L v=some L'):1<=gI L.own v/\L'.vars=L.vars/\L'.par=L.par/\L'.con=L.con/\L'.fst=L.fst/\L'.tok=L.tok/\L'.own=L.own.set v.toNat (gI L.own v-1):=by
 rw [Vs] at h
 split at h
 ·cases h
 ·cases h;exact ⟨by omega,rfl,rfl,rfl,rfl,rfl,rfl⟩
theorem IF {xs:LI} {v:Int} (h:gI xs v≠0):gI xs v∈xs:=by
 rw [gI] at h ⊢
 cases hx:xs[v.toNat]? with
 | none=>rw [hx] at h;exact absurd rfl h
 | some y=>exact ZW hx
theorem Jb {xs:LI} {i:Nat} {a x:Int} (h:x∈xs.set i a):x∈xs∨x=a:=List.mem_or_eq_of_mem_set h
theorem Xb.take {ds:List Zf} {L L':Zh} {q v:Int} (hk:Xb ds L q) (h:Vs L v=some L'):Xb ds L' q:=by
 obtain ⟨t1,t2,t3,t4,t5,t6,t7⟩:=QP h
 obtain ⟨f1,f2,f3,f4,f5⟩:=hk.len
 have hm:=IF (xs:=L.own) (v:=v) om
 refine ⟨⟨by rw [t7,t2,Vc];exact f1,by rw [t3,t2];exact f2,by rw [t4,t2];exact f3,by rw [t5,t2];exact f4,by rw [t6,t2];exact f5⟩,?_,?_,?_,?_⟩
 ·rw [t2,t3];exact hk.down
 ·rw [t2,t4,t5];exact hk.arm
 ·rw [t7];intro x hx
  rcases Jb hx with hx|rfl
  ·exact hk.nn x hx
  ·omega
 ·rw [t7];intro x hx
  rcases Jb hx with hx|rfl
  ·exact hk.bd x hx
  ·have:=hk.bd _ hm;omega
end Go.Abs
end
namespace Go.Abs
theorem My {us:LI}:∀{args tys:LI},Ti us args tys=true->args.length=tys.length/\∀a∈args,0<=a/\a<us.length
 | [],[],_=>⟨rfl,by simp⟩
 | [],_::_,h=>by cases h
 | _::_,[],h=>by cases h
 | a::as1,t::ts,h=>by
  rw [Ti] at h
  split at h
  ·rename_i h1
   obtain ⟨q1,q2⟩:=My h
   refine ⟨by simp [q1],fun x hx=>?_⟩
   rcases YD.1 hx with rfl|hx
   ·have:=(J1 h1).1;omega
   ·exact q2 x hx
  ·cases h
theorem PO {n:Zi} {us:LI}:∀{bs:List Z6} {ms:List LI} {f:Bool} {t:Int},0<=t->0<=Wy n us bs ms f t ->
  ∀(i:Nat) (b:Z6) (m:LI),bs[i]? = some b->ms[i]? = some m->0<=Xh n (us++m) b
 | [],_,_,_,_,_,i,b,m,hb,_=>by simp at hb
 | b::bs,[],_,_,_,h,_,_,_,_,hm=>by simp at hm
 | b::bs,m::ms,f,t,ht,h,i,c,l,hc,hl=>by
  rw [Wy] at h
  split at h
  ·omega
  ·rename_i hq
   have h0:0<=Xh n (us++m) b:=by
    rcases Int.lt_or_le (Xh n (us++m) b) 0 with q|q
    ·exact absurd (.inl q) hq
    ·exact q
   cases i with
   | zero=>simp at hc hl;subst hc hl;exact h0
   | succ i=>exact PO h0 h i c l (by simpa using hc) (by simpa using hl)
structure Af (n:Zi) (us:LI) (s:Z4):Prop where
 args:∀a∈s.args,0<=a/\a<us.length
 one:(s.op=7∨s.op=8∨(14<=s.op/\s.op<=17))->∃a,s.args=[a]
 num:s.op=9->0<=s.num/\s.num<n.routines.length
 into:s.into≠0->1<=s.into/\s.into<=us.length
 kids:(s.op=7∨s.op=8)->s.kids.length=(Xu n.decls s.op s.num).length/\(Xu n.decls s.op s.num).length≠0 /\
  ∀(i:Nat) (b:Z6) (m:LI),s.kids[i]? = some b->(Xu n.decls s.op s.num)[i]? = some m->0<=Xh n (us++m) b
theorem Zb9 {n:Zi} {us:LI} {op num:Int} {kids:List Z6} (h:0<=TJ n us op num kids) :
  kids.length=(Xu n.decls op num).length/\(Xu n.decls op num).length≠0/\∀(i:Nat) (b:Z6) (m:LI),kids[i]? = some b->(Xu n.decls op num)[i]? = some m->0<=Xh n (us++m) b:=by
 rw [TJ] at h
 split at h
 ·omega
 ·rename_i hq
  exact ⟨by omega,by omega,PO (Int.le_refl 0) h⟩
theorem Re {xs:LI} (h:xs.length=1):∃a,xs=[a]:=by
 match xs,h with
 | [a],_=>exact ⟨a,rfl⟩
theorem EF {n:Zi} {us:LI} {s:Z4} (h:0<=Yc n us s):Af n us s:=by
 rw [AJ] at h
 split at h
 ·omega
 rename_i h0
 have hinto:s.into≠0->1<=s.into/\s.into<=us.length:=by
  intro hi
  have hv:UE us s.op s.into=true:=by
   cases q:UE us s.op s.into with
   | true=>rfl
   | false=>exact absurd (.inr (.inl (by rw [q];simp))) h0
  rw [UE,Z8 hi] at hv
  split at hv
  ·cases ha:Xy us (s.into-1) with
   | none=>rw [ha] at hv;cases hv
   | some t=>have:=(J1 ha).1;omega
  ·cases hv
 have mk:(∀a∈s.args,0<=a/\a<us.length)->((s.op=7∨s.op=8∨(14<=s.op/\s.op<=17))->∃a,s.args=[a])->(s.op=9->0<=s.num/\s.num<n.routines.length) ->
   ((s.op=7∨s.op=8)->0<=TJ n us s.op s.num s.kids)->Af n us s:=fun a b c d=>⟨a,b,c,hinto,fun q=>Zb9 (d q)⟩
 have ty:∀{tys},Wj us s.args tys=true->s.args.length=tys.length/\∀a∈s.args,0<=a/\a<us.length:=fun q=>My q
 split at h
 ·rename_i h1
  split at h
  ·rename_i h2
   exact mk (by rw [List.eq_nil_of_length_eq_zero h2.1];simp) om om om
  ·omega
 split at h
 ·split at h
  ·rename_i h1 h2;exact mk (ty h2).2 om om om
  ·omega
 split at h
 ·split at h
  ·rename_i h1 h2;exact mk (ty h2).2 om om om
  ·omega
 split at h
 ·split at h
  ·rename_i h1 h2;exact mk (ty h2.2).2 om om om
  ·omega
 split at h
 ·split at h
  ·rename_i h1 h2;exact mk (ty h2).2 (fun _=>Re (by simpa using (ty h2).1)) om (fun _=>h)
  ·omega
 split at h
 ·split at h
  ·rename_i h1 h2;exact mk (ty h2).2 (fun _=>Re (by simpa using (ty h2).1)) om (fun _=>h)
  ·omega
 split at h
 ·rename_i hop
  rw [Uv] at h
  cases hr:Xy n.routines s.num with
  | none=>rw [hr] at h;simp at h
  | some r=>
   rw [hr] at h
   simp only at h
   have hn:=(J1 hr).1
   rw [KL] at h
   split at h
   ·split at h
    ·rename_i h2;exact mk (ty h2).2 om om om
    ·omega
   ·split at h
    ·omega
    ·rename_i h2
     have h3:Wj us s.args (r.params.take (r.params.length-1))=true:=by
      cases q:Wj us s.args (r.params.take (r.params.length-1)) with
      | true=>rfl
      | false=>exact absurd (.inr (.inr (by rw [q];simp))) h2
     exact mk (ty h3).2 om om om
 split at h
 ·rename_i hop
  rcases he:s.args with _|⟨a,_|⟨b,_|⟨c,r⟩⟩⟩
  ·rw [he,show QY n.decls us []=-1 from rfl] at h;omega
  ·rw [he,show QY n.decls us [a]=-1 from rfl] at h;omega
  ·rw [he,QY] at h
   cases ha:Xy us a with
   | none=>rw [ha] at h;simp at h
   | some t=>
    rw [ha] at h
    simp only at h
    split at h
    ·cases hd:n.decls[(t-1).toNat]? with
     | none=>rw [hd] at h;simp at h
     | some d=>
      rw [hd] at h
      simp only at h
      split at h
      ·rename_i h3
       have h4:=(My h3).2 b (by simp)
       have h5:=(J1 ha).1
       refine mk (fun x hx=>?_) om om om
       rw [he] at hx
       rcases YD.1 hx with rfl|hx
       ·omega
       ·rw [XI.1 hx];exact h4
      ·omega
    ·omega
  ·rw [he,show QY n.decls us (a::b::c::r)=-1 from rfl] at h;omega
 split at h
 ·rename_i hop
  rcases he:s.args with _|⟨a,_|⟨b,r⟩⟩
  ·rw [he,show QC n.decls us s.op []=-1 from rfl] at h;omega
  ·rw [he,QC] at h
   cases ha:Xy us a with
   | none=>rw [ha] at h;simp at h
   | some t=>
    have h5:=(J1 ha).1
    refine mk (fun x hx=>?_) (fun _=>⟨a,he⟩) om om
    rw [he] at hx
    rw [XI.1 hx];omega
  ·rw [he,show QC n.decls us s.op (a::b::r)=-1 from rfl] at h;omega
 ·omega
def Qw (n:Zi) (us:LI) (s:Z4):LI:=if XR s.op=true then us++[Yc n us s] else us
theorem DS {L L':Zh} {ln:LI} {v:Int} (h:K6 L ln v=some L'):L'.vars=L.vars/\L'.par=L.par/\L'.con=L.con/\L'.fst=L.fst/\L'.tok=L.tok/\L'.own=L.own.set v.toNat (gI L.own v+1):=by
 rw [K6] at h
 split at h
 ·cases h;exact ⟨rfl,rfl,rfl,rfl,rfl,rfl⟩
 ·cases h
theorem EV:∀(fs:LI) (own:LI) (p:Int),(U7 own p fs).length=own.length
 | [],own,p=>rfl
 | f::r,own,p=>by rw [U7,EV r];split<;>simp
theorem ID {xs:LI} {q v:Int} (h:∀x∈xs,x<=q) (hq:0<=q):gI xs v<=q:=by
 by_cases h0:gI xs v=0
 ·omega
 ·exact h _ (IF h0)
theorem IG {xs:LI} {v:Int} (h:∀x∈xs,0<=x):0<=gI xs v:=by
 by_cases h0:gI xs v=0
 ·omega
 ·exact h _ (IF h0)
theorem HC:∀(fs:LI) (own:LI) (p:Int),(∀x∈own,0<=x)->∀x∈U7 own p fs,0<=x
 | [],own,p,h=>h
 | f::r,own,p,h=>by
  rw [U7]
  refine HC r _ _ fun x hx=>?_
  split at hx
  ·rcases Jb hx with hx|rfl
   ·exact h x hx
   ·have:=IG (v:=p) h;omega
  ·exact h x hx
theorem HB:∀(fs:LI) (own:LI) (p q:Int),0<=q->(∀x∈own,x<=q)->∀x∈U7 own p fs,x<=q+fs.length
 | [],own,p,q,hq,h=>by intro x hx;have:=h x hx;simp;omega
 | f::r,own,p,q,hq,h=>by
  intro x hx
  rw [U7] at hx
  have:=HB r _ _ (q+1) om (fun y hy=>by
   split at hy
   ·rcases Jb hy with hy|rfl
    ·have:=h y hy;omega
    ·have:=ID (v:=p) h hq;omega
   ·have:=h y hy;omega) x hx
  simp only [YT];omega
theorem LF {ds:List Zf} {L L':Zh} {op v:Int} (h:TM ds L op v=some L'):L'.vars=L.vars/\L'.par=L.par/\L'.con=L.con/\L'.fst=L.fst/\L'.tok.length=L.tok.length /\
  ∃L1,Vs L v=some L1/\L'.own=U7 L1.own (gI L.fst v) (ZV ds (gI L.con v)):=by
 rw [TM] at h
 split at h
 ·cases h
 ·cases ht:Vs L v with
  | none=>rw [ht] at h;cases h
  | some L1=>
   rw [ht] at h
   simp only at h
   obtain ⟨t1,t2,t3,t4,t5,t6,t7⟩:=QP ht
   cases h
   refine ⟨t2,t3,t4,t5,?_,L1,rfl,rfl⟩
   split
   ·rw [Vc]
   ·rfl
theorem FW {n:Zi} {op num:Int} {ds:List Zf} {q:Int}:∀{as1:LI} {i:Nat} {L L':Zh},Xb ds L q->U1 n op num as1 i L=some L'->Xb ds L' q/\L'.vars=L.vars/\L'.par=L.par/\L'.con=L.con/\L'.fst=L.fst/\L'.tok=L.tok
 | [],i,L,L',hk,h=>by rw [U1] at h;cases h;exact ⟨hk,rfl,rfl,rfl,rfl,rfl⟩
 | a::r,i,L,L',hk,h=>by
  rw [U1] at h
  split at h
  ·cases ht:Vs L a with
   | none=>rw [ht] at h;cases h
   | some L1=>
    rw [ht] at h
    obtain ⟨t1,t2,t3,t4,t5,t6,t7⟩:=QP ht
    obtain ⟨k1,k2,k3,k4,k5,k6⟩:=FW (hk.take ht) h
    exact ⟨k1,k2.trans t2,k3.trans t3,k4.trans t4,k5.trans t5,k6.trans t6⟩
  ·exact FW hk h
theorem Xb.le {ds:List Zf} {L:Zh} {q q':Int} (h:Xb ds L q) (hq:q<=q'):Xb ds L q':=⟨h.len,h.down,h.arm,h.nn,fun x hx=>Int.le_trans (h.bd x hx) hq⟩
theorem Xb.turn {ds:List Zf} {L L':Zh} {q q':Int} (hk:Xb ds L q) (h1:L'.vars=L.vars) (h2:L'.par=L.par) (h3:L'.con=L.con) (h4:L'.fst=L.fst) (h5:L'.tok.length=L.tok.length) (h6:L'.own.length=L.own.length)
  (h7:∀x∈L'.own,0<=x) (h8:∀x∈L'.own,x<=q'):Xb ds L' q':=by
 obtain ⟨f1,f2,f3,f4,f5⟩:=hk.len
 refine ⟨⟨by rw [h6,h1];exact f1,by rw [h2,h1];exact f2,by rw [h3,h1];exact f3,by rw [h4,h1];exact f4,by rw [h5,h1];exact f5⟩,?_,?_,h7,h8⟩
 ·rw [h1,h2];exact hk.down
 ·rw [h1,h3,h4];exact hk.arm
theorem Bd {xs ys:LI} {j:Int} (h:j.toNat<xs.length):gI (xs++ys) j=gI xs j:=by
 rw [gI,gI,Cr h]
theorem IE {xs:LI} {y:Int} {j:Int} (h:j.toNat=xs.length):gI (xs++[y]) j=y:=by
 rw [gI,h];simp
theorem Xb.grow {ds:List Zf} {L:Zh} {q t o p:Int} (hk:Xb ds L q) (hp:p<L.vars.length) (ho:0<=o/\o<=q):Xb ds (L.grow t o p) q:=by
 obtain ⟨f1,f2,f3,f4,f5⟩:=hk.len
 refine ⟨⟨by simp [Zh.grow,f1],by simp [Zh.grow,f2],by simp [Zh.grow,f3],by simp [Zh.grow,f4],by simp [Zh.grow,f5]⟩,?_,?_,?_,?_⟩
 ·intro j hj hl
  simp only [Zh.grow,Yt,Hp] at hl ⊢
  by_cases hlt:j<L.vars.length
  ·rw [Bd om];exact hk.down j hj hlt
  ·rw [IE om];omega
 ·intro x hx hl
  simp only [Zh.grow,Yt,Hp] at hl ⊢
  by_cases hlt:x<L.vars.length
  ·rw [Bd om,Bd om]
   intro hc
   have:=hk.arm x hx hlt hc
   exact ⟨this.1,by omega⟩
  ·rw [IE om];omega
 ·intro x hx
  simp only [Zh.grow,Xd,XI] at hx
  rcases hx with hx|rfl
  ·exact hk.nn x hx
  ·exact ho.1
 ·intro x hx
  simp only [Zh.grow,Xd,XI] at hx
  rcases hx with hx|rfl
  ·exact hk.bd x hx
  ·exact ho.2
theorem IH {xs:LI} {k:Nat} {a:Int} {j:Int} (h:xs.length<=j.toNat/\j.toNat<xs.length+k):gI (xs++List.replicate k a) j=a:=by
 rw [gI,Dw h.1,List.getElem?_replicate,Zd om];rfl
theorem FL {xs:LI} {x j c:Int} (h:j.toNat=x.toNat) (hl:x.toNat<xs.length):gI (xs.set x.toNat c) j=c:=by
 rw [gI,h,List.getElem?_set_self hl];rfl
theorem FM {xs:LI} {x j c:Int} (h:j.toNat≠x.toNat):gI (xs.set x.toNat c) j=gI xs j:=by
 rw [gI,gI,List.getElem?_set_ne (fun q=>h q.symm)]
theorem IN {p:Int}:∀(fs:LI) (L:Zh),Q7 L p fs=⟨L.vars++fs,L.own++List.replicate fs.length 0,L.par++List.replicate fs.length p,L.con++List.replicate fs.length (-1),
  L.fst++List.replicate fs.length (-1),L.tok++List.replicate fs.length (-1)⟩
 | [],L=>by simp [Q7]
 | t::r,L=>by rw [Q7,IN r];simp [Zh.grow,MM]
theorem Z2r {ds:List Zf} {L:Zh} {q x c:Int} (hk:Xb ds L q) (hq:0<=q) (hx:0<=x/\x<L.vars.length):Xb ds (JP ds L x c) q/\(JP ds L x c).vars=L.vars++ZV ds c:=by
 obtain ⟨f1,f2,f3,f4,f5⟩:=hk.len
 rw [JP,IN]
 refine ⟨⟨⟨by simp [f1],by simp [f2],by simp [f3],by simp [f4],by simp [f5]⟩,?_,?_,?_,?_⟩,rfl⟩
 ·intro j hj hl
  simp only [Yt] at hl ⊢
  by_cases hlt:j<L.vars.length
  ·rw [Bd om];exact hk.down j hj hlt
  ·rw [IH om];omega
 ·intro y hy hl
  simp only [Yt] at hl ⊢
  by_cases hlt:y<L.vars.length
  ·rw [Bd (by simp;omega),Bd (by simp;omega)]
   by_cases he:y.toNat=x.toNat
   ·rw [FL he om,FL he om]
    intro _
    exact ⟨by omega,by simp⟩
   ·rw [FM he,FM he]
    intro hc
    have:=hk.arm y hy hlt hc
    exact ⟨this.1,by omega⟩
  ·rw [IH (by simp;omega)];omega
 ·intro y hy
  simp only [Xd,List.mem_replicate] at hy
  rcases hy with hy|⟨_,rfl⟩
  ·exact hk.nn y hy
  ·exact Int.le_refl 0
 ·intro y hy
  simp only [Xd,List.mem_replicate] at hy
  rcases hy with hy|⟨_,rfl⟩
  ·exact hk.bd y hy
  ·exact hq
theorem D8 {n:Zi} {L:Zh} {q:Int} {s:Z4} {i:Nat} {m:LI} (hk:Xb n.decls L q) (hq:0<=q) (hf:Af n L.vars s) (hop:s.op=7∨s.op=8) (hm:(Xu n.decls s.op s.num)[i]? = some m) :
  Xb n.decls (WX n.decls L s.op s.num s.args i) q/\(WX n.decls L s.op s.num s.args i).vars=L.vars++m:=by
 rw [WX]
 split
 ·rename_i h8
  obtain ⟨a,ha⟩:=hf.one om
  have hb:=hf.args a (by rw [ha];simp)
  have hg:gI s.args 0=a:=by rw [ha];rfl
  rw [Xu,Z8 om,Tl] at hm
  cases hc:(ZY n.decls s.num)[i]? with
  | none=>rw [hc] at hm;cases hm
  | some c=>
   rw [hc] at hm
   cases hm
   have hgc:gI (ZY n.decls s.num) (i:Int)=c:=by rw [gI];simp [hc]
   rw [hg,hgc]
   exact Z2r hk hq hb
 ·rename_i h8
  rw [Xu,Zd om] at hm
  have:m=[]:=by
   match i,hm with
   | 0,hm=>simpa using hm.symm
   | 1,hm=>simpa using hm.symm
   | i+2,hm=>simp at hm
  subst this
  exact ⟨hk,by simp⟩
theorem Z0q {n:Zi}:∀{l:List Z4} {us vs:LI},XC n l us=some vs->us.length<=vs.length
 | [],us,vs,h=>by rw [XC] at h;cases h;exact X7 _
 | s::r,us,vs,h=>by
  rw [XC] at h
  split at h
  ·cases h
  ·have:=Z0q h
   split at this
   ·simp only [Yt,Hp] at this;omega
   ·exact this
theorem P2 {n:Zi} {ln:LI} {L L':Zh} {op num into q:Int} {args:LI} {ds:List Zf} (hk:Xb ds L q) (h:U9 n ln L op num into args=some L'):Xb ds L' q/\L'.vars=L.vars:=by
 rw [U9] at h
 cases ht:U1 n op num args 0 L with
 | none=>rw [ht] at h;cases h
 | some L1=>
  rw [ht] at h
  simp only at h
  obtain ⟨k1,k2,k3,k4,k5,k6⟩:=FW hk ht
  split at h
  ·rw [QE] at h
   split at h
   ·split at h
    ·cases h
    ·cases h
     exact ⟨k1.turn rfl rfl rfl rfl (by simp) rfl k1.nn k1.bd,k2⟩
   ·cases h;exact ⟨k1,k2⟩
  ·cases h
theorem Fm {L L':Zh} {m:Nat} (h:VY L m=some L'):L'=L.take m/\WQ (L.own.drop m) (L.tok.drop m)=true:=by
 rw [VY] at h
 split at h
 ·rename_i hz;cases h;exact ⟨rfl,hz⟩
 ·cases h
theorem QQ {r:Option Zh} {f:Zh->Option Zh} {L:Zh} (h:Cm r f=some L):∃L1,r=some L1/\f L1=some L:=by
 cases r with
 | none=>cases h
 | some L1=>exact ⟨L1,rfl,h⟩
theorem Ll (n:Zi) (hn:X6 n) (ln:LI):∀m:Nat,
  (∀(s:Z4) (L L':Zh) (q:Int),s.sz<=m->Xb n.decls L q->0<=q->0<=Yc n L.vars s->Vb n ln L s=some L'->Xb n.decls L' (q+4*s.sz)/\L'.vars=Qw n L.vars s) /\
  (∀(b:Z6) (L O:Zh) (q:Int) (k:Nat),b.sz<=m->Xb n.decls L q->0<=q->0<=Xh n L.vars b->k<=L.vars.length->Wk n ln L k b=some O ->
   (O.own.length=k/\O.tok.length=k/\(∀x∈O.own,0<=x/\x<=q+4*b.sz))/\Wq O/\O.vars.length=k):=by
 intro m
 induction m with
 | zero=>exact ⟨fun s _ _ _ h=>by have:=s.sz_pos;omega,fun s _ _ _ _ h=>by have:=s.sz_pos;omega⟩
 | succ m ih=>
  have hs:∀(s:Z4) (L L':Zh) (q:Int),s.sz<=m+1->Xb n.decls L q->0<=q->0<=Yc n L.vars s->Vb n ln L s=some L'->Xb n.decls L' (q+4*s.sz)/\L'.vars=Qw n L.vars s:=by
   intro s L L' q Xr hk hq hty h
   have hp:=s.sz_pos
   have hf:=EF hty
   obtain ⟨f1,f2,f3,f4,f5⟩:=hk.len
   rw [H4] at h
   unfold K8 at h
   cases hpk:UY n ln L s.op s.num s.into s.args (Ug n ln L s.op s.num s.args s.kids) with
   | none=>rw [hpk] at h;cases h
   | some L1=>
    rw [hpk] at h
    simp only at h
    have key:Xb n.decls L1 (q+4*s.sz)/\L1.vars=L.vars:=by
     rw [UY] at hpk
     split at hpk
     ·obtain ⟨d1,d2,d3,d4,d5,d6⟩:=DS hpk
      refine ⟨hk.turn d1 d2 d3 d4 (by rw [d5]) (by rw [d6,Vc]) ?_ ?_,d1⟩
      ·rw [d6];intro x hx
       rcases Jb hx with hx|rfl
       ·exact hk.nn x hx
       ·have:=IG (v:=gI s.args 0) hk.nn;omega
      ·rw [d6];intro x hx
       rcases Jb hx with hx|rfl
       ·have:=hk.bd x hx;omega
       ·have:=ID (v:=gI s.args 0) hk.bd hq;omega
     split at hpk
     ·exact ⟨(hk.take hpk).le om,(QP hpk).2.1⟩
     split at hpk
     ·rename_i hop
      obtain ⟨d1,d2,d3,d4,d5,Lt,ht,d6⟩:=LF hpk
      have hkt:=hk.take ht
      have h3:=Ud hn.decls (gI L.con (gI s.args 0))
      refine ⟨hk.turn d1 d2 d3 d4 d5 ?_ ?_ ?_,d1⟩
      ·rw [d6,EV,(QP ht).2.2.2.2.2.2,Vc]
      ·rw [d6];exact HC _ _ _ hkt.nn
      ·rw [d6];intro x hx
       have:=HB _ _ _ q hq hkt.bd x hx;omega
     split at hpk
     ·rename_i hop
      split at hpk
      ·cases hpk
      ·cases hks:s.kids with
       | nil=>rw [hks,Ug] at hpk;cases hpk
       | cons b bs=>
        rw [hks,Ug] at hpk
        unfold AB at hpk
        cases hb:Wk n ln (WX n.decls L s.op s.num s.args 0) L.vars.length b with
        | none=>rw [hb] at hpk;cases hpk
        | some one=>
         rw [hb] at hpk
         simp only at hpk
         split at hpk
         ·cases hpk
          obtain ⟨q1,q2,q3⟩:=hf.kids hop
          have hks0:s.kids[0]? = some b:=by rw [hks];rfl
          obtain ⟨a0,ha0⟩:=J3 (xs:=Xu n.decls s.op s.num) (j:=0) om
          obtain ⟨k1,k2⟩:=D8 hk hq hf hop ha0
          have hbz:=Tx hks0
          obtain ⟨⟨r1,r2,r3⟩,_⟩:=ih.2 b _ one q L.vars.length om k1 hq (by rw [k2];exact q3 0 b a0 hks0 ha0) (by rw [k2];simp) hb
          refine ⟨hk.turn rfl rfl rfl rfl (by simp only;omega) (by simp only;omega) (fun x hx=>(r3 x hx).1) (fun x hx=>?_),rfl⟩
          have:=(r3 x hx).2;omega
         ·cases hpk
     ·obtain ⟨k1,k2⟩:=P2 hk hpk
      exact ⟨k1.le om,k2⟩
    split at h
    ·rename_i hd
     cases h
     refine ⟨key.1.grow om ?_,by rw [Qw,Zd hd];simp [Zh.grow,key.2]⟩
     split<;>omega
    ·rename_i hd
     cases h
     exact ⟨key.1,by rw [Qw,Z8 hd];exact key.2⟩
  refine ⟨hs,?_⟩
  intro b L O q k Xr hk hq hty hkl h
  have hsteps:∀(l:List Z4) (L L':Zh) (q:Int) (vs:LI),Yb l<=m->Xb n.decls L q->0<=q->XC n l L.vars=some vs->XK n ln L l=some L'->Xb n.decls L' (q+4*Yb l)/\L'.vars=vs:=by
   intro l
   induction l with
   | nil=>intro L L' q vs _ hk _ h1 h2;rw [XC] at h1;rw [XK] at h2;cases h1;cases h2;exact ⟨by simpa [Yb] using hk,rfl⟩
   | cons s r ihr=>
    intro L L' q vs hz hk hq h1 h2
    rw [Yb] at hz
    rw [XK] at h2
    obtain ⟨L1,e1,e2⟩:=QQ h2
    rw [XC] at h1
    split at h1
    ·cases h1
    ·rename_i h0
     obtain ⟨k1,k2⟩:=hs s L L1 q om hk hq om e1
     obtain ⟨k3,k4⟩:=ihr L1 L' (q+4*s.sz) vs om k1 om (by rw [k2];exact h1) e2
     exact ⟨k3.le (by rw [Yb];omega),k4⟩
  have hbz:=b.sz_eq
  rw [QB] at h
  obtain ⟨L1,e1,e2⟩:=QQ h
  rw [DJ] at hty
  cases hv:XC n b.steps L.vars with
  | none=>rw [hv] at hty;simp at hty
  | some vs=>
   obtain ⟨k1,k2⟩:=hsteps b.steps L L1 q vs om hk hq hv e1
   have hlen:=Z0q hv
   rw [U0] at e2
   obtain ⟨L2,e3,e4⟩:=QQ e2
   have k3:Xb n.decls L2 (q+4*Yb b.steps)/\L2.vars=L1.vars:=by
    split at e3
    ·exact ⟨k1.take e3,(QP e3).2.1⟩
    ·cases e3;exact ⟨k1,rfl⟩
   obtain ⟨rfl,_⟩:=Fm e4
   obtain ⟨g1,g2,g3,g4,g5⟩:=k3.1.len
   have hl2:L2.vars.length=vs.length:=by rw [k3.2,k2]
   refine ⟨⟨by simp [Zh.take];omega,by simp [Zh.take];omega,fun x hx=>?_⟩,⟨by simp [Zh.take];omega,by simp [Zh.take];omega,by simp [Zh.take];omega,by simp [Zh.take];omega,by simp [Zh.take];omega⟩,by simp [Zh.take];omega⟩
   have hx':x∈L2.own:=Q1 hx
   have:=k3.1.nn x hx'
   have:=k3.1.bd x hx'
   omega
theorem EE {n:Zi} (hn:X6 n) {ln:LI} {s:Z4} {L L':Zh} {q:Int} (hk:Xb n.decls L q) (hq:0<=q) (hty:0<=Yc n L.vars s) (h:Vb n ln L s=some L'):Xb n.decls L' (q+4*s.sz)/\L'.vars=Qw n L.vars s:=
 (Ll n hn ln s.sz).1 s L L' q (X7 _) hk hq hty h
theorem Nt {n:Zi} (hn:X6 n) {ln:LI} {b:Z6} {L O:Zh} {q:Int} {k:Nat} (hk:Xb n.decls L q) (hq:0<=q) (hty:0<=Xh n L.vars b) (hkl:k<=L.vars.length) (h:Wk n ln L k b=some O) :
  O.own.length=k/\O.tok.length=k/\(∀x∈O.own,0<=x/\x<=q+4*b.sz):=
 ((Ll n hn ln b.sz).2 b L O q k (X7 _) hk hq hty hkl h).1
theorem Br {n:Zi} (hn:X6 n) {ln:LI} {s:Z4} {L L1:Zh} {q:Int} (hk:Xb n.decls L q) (hq:0<=q) (hf:Af n L.vars s)
  (hpk:UY n ln L s.op s.num s.into s.args (Ug n ln L s.op s.num s.args s.kids)=some L1):Xb n.decls L1 (q+4*s.sz)/\L1.vars=L.vars:=by
 have hp:=s.sz_pos
 obtain ⟨f1,f2,f3,f4,f5⟩:=hk.len
 rw [UY] at hpk
 split at hpk
 ·obtain ⟨d1,d2,d3,d4,d5,d6⟩:=DS hpk
  refine ⟨hk.turn d1 d2 d3 d4 (by rw [d5]) (by rw [d6,Vc]) ?_ ?_,d1⟩
  ·rw [d6];intro x hx
   rcases Jb hx with hx|rfl
   ·exact hk.nn x hx
   ·have:=IG (v:=gI s.args 0) hk.nn;omega
  ·rw [d6];intro x hx
   rcases Jb hx with hx|rfl
   ·have:=hk.bd x hx;omega
   ·have:=ID (v:=gI s.args 0) hk.bd hq;omega
 split at hpk
 ·exact ⟨(hk.take hpk).le om,(QP hpk).2.1⟩
 split at hpk
 ·rename_i hop
  obtain ⟨d1,d2,d3,d4,d5,Lt,ht,d6⟩:=LF hpk
  have hkt:=hk.take ht
  have h3:=Ud hn.decls (gI L.con (gI s.args 0))
  refine ⟨hk.turn d1 d2 d3 d4 d5 ?_ ?_ ?_,d1⟩
  ·rw [d6,EV,(QP ht).2.2.2.2.2.2,Vc]
  ·rw [d6];exact HC _ _ _ hkt.nn
  ·rw [d6];intro x hx
   have:=HB _ _ _ q hq hkt.bd x hx;omega
 split at hpk
 ·rename_i hop
  split at hpk
  ·cases hpk
  ·cases hks:s.kids with
   | nil=>rw [hks,Ug] at hpk;cases hpk
   | cons b bs=>
    rw [hks,Ug] at hpk
    unfold AB at hpk
    cases hb:Wk n ln (WX n.decls L s.op s.num s.args 0) L.vars.length b with
    | none=>rw [hb] at hpk;cases hpk
    | some one=>
     rw [hb] at hpk
     simp only at hpk
     split at hpk
     ·cases hpk
      obtain ⟨q1,q2,q3⟩:=hf.kids hop
      have hks0:s.kids[0]? = some b:=by rw [hks];rfl
      obtain ⟨a0,ha0⟩:=J3 (xs:=Xu n.decls s.op s.num) (j:=0) om
      obtain ⟨k1,k2⟩:=D8 hk hq hf hop ha0
      have hbz:=Tx hks0
      obtain ⟨r1,r2,r3⟩:=Nt hn k1 hq (by rw [k2];exact q3 0 b a0 hks0 ha0) (by rw [k2];simp) hb
      refine ⟨hk.turn rfl rfl rfl rfl (by simp only;omega) (by simp only;omega) (fun x hx=>(r3 x hx).1) (fun x hx=>?_),rfl⟩
      have:=(r3 x hx).2;omega
     ·cases hpk
 ·obtain ⟨k1,k2⟩:=P2 hk hpk
  exact ⟨k1.le om,k2⟩
end Go.Abs
section
namespace Go.Abs
theorem HJ {ds:List Zf} {op num:Int} {i:Nat} {m:LI} (h8:op=8) (h:(Xu ds op num)[i]? = some m):∃c,(ZY ds num)[i]? = some c/\m=ZV ds c:=by
 rw [Xu,Z8 om,Tl] at h
 cases hc:(ZY ds num)[i]? with
 | none=>rw [hc] at h;cases h
 | some c=>rw [hc] at h;cases h;exact ⟨c,rfl,rfl⟩
theorem Zb2 {ds:List Zf} {L:Zh} {op num x c:Int} {args:LI} {i:Nat} (h8:op=8) (hx:args[0]? = some x) (hc:(ZY ds num)[i]? = some c):WX ds L op num args i=JP ds L x c:=by
 have h1:gI args 0=x:=by rw [gI];simp [hx]
 have h2:gI (ZY ds num) (i:Int)=c:=by rw [gI];simp [hc]
 rw [WX,Zd h8,h1,h2]
theorem Zb3 {ds:List Zf} {L:Zh} {op num:Int} {args:LI} {i:Nat} (h8:¬op=8):WX ds L op num args i=L:=by rw [WX,Z8 h8]
theorem Zb8 {n:Zi} {ln:LI} {L:Zh} {op num:Int} {args:LI} {kids:List Z6} {kb:Z6} (h:kids[0]? = some kb) :
  Ug n ln L op num args kids=AB L (Wk n ln (WX n.decls L op num args 0) L.vars.length kb) fun one=>TI n ln L op num args one (kids.drop 1) 1:=by
 cases kids with
 | nil=>simp at h
 | cons b bs=>simp at h;subst h;rw [Ug];rfl
theorem Ec {n:Zi} {ln:LI} {L one:Zh} {op num:Int} {args:LI} {kids:List Z6} {kb:Z6} {k:Nat} (h:kids[k]? = some kb) :
  TI n ln L op num args one (kids.drop k) k=GS one (Wk n ln (WX n.decls L op num args k) L.vars.length kb) (TI n ln L op num args one (kids.drop (k+1)) (k+1)):=by
 rw [Y9 h,TI]
def Js (n:Zi) (ln:LI) (L:Zh) (s:Z4):Option Zh:=
 if s.op=8/\¬XM L ln (gI s.args 0)=true then none else Ug n ln L s.op s.num s.args s.kids
theorem Z3x {n:Zi} {ln:LI} {L:Zh} {s:Z4} (h8:s.op=8) (ha:¬XM L ln (gI s.args 0)=true):Js n ln L s=none:=by rw [Js,Zd ⟨h8,ha⟩]
theorem NG {n:Zi} {ln:LI} {L:Zh} {s:Z4} {kb:Z6} (h:¬(s.op=8/\¬XM L ln (gI s.args 0)=true)) (hk:s.kids[0]? = some kb) :
  Js n ln L s=AB L (Wk n ln (WX n.decls L s.op s.num s.args 0) L.vars.length kb) fun one=>TI n ln L s.op s.num s.args one (s.kids.drop 1) 1:=by
 rw [Js,Z8 h,Zb8 hk]
theorem JB {xs:LI} {x:Int} (h:xs[0]? = some x):gI xs 0=x:=by rw [gI];simp [h]
end Go.Abs
namespace Go.Abs
theorem Wq.grow {L:Zh} {t o p:Int} (h:Wq L):Wq (L.grow t o p):=by
 obtain ⟨f1,f2,f3,f4,f5⟩:=h
 exact ⟨by simp [Zh.grow,f1],by simp [Zh.grow,f2],by simp [Zh.grow,f3],by simp [Zh.grow,f4],by simp [Zh.grow,f5]⟩
theorem Wq.arm {L:Zh} {i j:Nat} {c d:Int} (h:Wq L):Wq ⟨L.vars,L.own,L.par,L.con.set i c,L.fst.set j d,L.tok⟩:=by
 obtain ⟨f1,f2,f3,f4,f5⟩:=h
 exact ⟨f1,f2,by simp [f3],by simp [f4],f5⟩
end Go.Abs
namespace Go.Abs
theorem PM {n:Zi} (hn:X6 n) {ln:LI} {L O:Zh} {q:Int} {s:Z4} {i:Nat} {kb:Z6} {m:LI} (hk:Xb n.decls L q) (hq:0<=q) (hf:Af n L.vars s) (hop:s.op=7∨s.op=8)
  (_:s.kids[i]? = some kb) (harm:(Xu n.decls s.op s.num)[i]? = some m) (hbt:0<=Xh n (L.vars++m) kb) (h:Wk n ln (WX n.decls L s.op s.num s.args i) L.vars.length kb=some O) :
  O.own.length=L.vars.length/\O.tok.length=L.vars.length:=by
 obtain ⟨k1,k2⟩:=D8 hk hq hf hop harm
 obtain ⟨r1,r2,_⟩:=Nt hn k1 hq (by rw [k2];exact hbt) (by rw [k2];simp) h
 exact ⟨r1,r2⟩
theorem Su {one two:Zh} {r:Bool} (h:¬(¬one.own=two.own∨¬one.tok=two.tok)):GS one (some two) r=r:=Zd ⟨Vy.1 fun q=>h (.inl q),Vy.1 fun q=>h (.inr q)⟩
theorem St {one two:Zh} {r:Bool} (h:¬one.own=two.own∨¬one.tok=two.tok):GS one (some two) r=false:=Z8 fun q=>h.elim (fun z=>z q.1) fun z=>z q.2
theorem Rg {L one:Zh} {f:Zh->Bool} (h:f one=true):AB L (some one) f=some ⟨L.vars,one.own,L.par,L.con,L.fst,one.tok⟩:=Zd h
theorem Eh {L one:Zh} {f:Zh->Bool} (h:f one=false):AB L (some one) f=none:=Z8 (by rw [h];simp)
end Go.Abs
namespace Go.Abs
section
variable {n:Zi} {ln:LI} {L:Zh} {s:Z4}
abbrev TX (n:Zi) (ln:LI) (L:Zh) (s:Z4):Option Zh:=UY n ln L s.op s.num s.into s.args (Ug n ln L s.op s.num s.args s.kids)
theorem Gy {x:Int} (h:s.op=14) (hx:gI s.args 0=x):TX n ln L s=K6 L ln x:=hx▸Zd h
theorem Gz {x:Int} (h:s.op=15) (hx:gI s.args 0=x):TX n ln L s=Vs L x:=by rw [<-hx,TX,UY,Z8 om,Zd h]
theorem LK {x:Int} (h:s.op=16∨s.op=17) (hx:gI s.args 0=x):TX n ln L s=TM n.decls L s.op x:=by rw [<-hx,TX,UY,Z8 om,Z8 om,Zd h]
theorem GC (h:s.op=7∨s.op=8):TX n ln L s=Js n ln L s:=by rw [TX,UY,Z8 om,Z8 om,Z8 om,Zd h,Js]
theorem RP (h1:¬s.op=14) (h2:¬s.op=15) (h3:¬(s.op=16∨s.op=17)) (h4:¬(s.op=7∨s.op=8)):TX n ln L s=U9 n ln L s.op s.num s.into s.args:=by
 rw [TX,UY,Z8 h1,Z8 h2,Z8 h3,Z8 h4]
theorem Z5u {v:Int} (h:¬XM L ln v=true):K6 L ln v=none:=Z8 h
theorem Z5v {v x:Int} (h:¬¬XM L ln v=true) (hx:gI L.own v=x):K6 L ln v=some ⟨L.vars,L.own.set v.toNat (x+1),L.par,L.con,L.fst,L.tok⟩:=by rw [K6,Zd (Vy.1 h),hx]
theorem Uw (n:Zi) (ln:LI) (L:Zh) (s:Z4):Vb n ln L s=K8 L s.op (Yc n L.vars s) (TX n ln L s):=H4 n ln L s
theorem Tu {X:Zh} {op t:Int} (h:XR op=true/\t≠0):K8 L op t (some X)=some (X.grow t 1 (-1)):=by
 unfold K8;simp only [h.1,↓reduceIte];rw [Zd h.2]
theorem Tv {X:Zh} {op t:Int} (h:¬(XR op=true/\t≠0)) (h2:XR op=true):K8 L op t (some X)=some (X.grow 0 0 (-1)):=by
 have ht:t=0:=Vy.1 fun q=>h ⟨h2,q⟩
 subst ht
 unfold K8;simp only [h2,↓reduceIte];rfl
theorem Tc {X:Zh} {op t:Int} (h:¬XR op=true):K8 L op t (some X)=some X:=by
 unfold K8;simp only [Z8 h]
end
end Go.Abs
namespace Go.Abs
theorem DK {n:Zi} {us:LI} {b:Z6} (h:0<=Xh n us b):∃vs t,XC n b.steps us=some vs/\Xy vs b.result=some t/\0<=t:=by
 rw [DJ] at h
 cases hv:XC n b.steps us with
 | none=>rw [hv] at h;simp at h
 | some vs=>
  rw [hv] at h
  simp only at h
  cases ha:Xy vs b.result with
  | none=>rw [ha] at h;simp at h
  | some t=>rw [ha] at h;exact ⟨vs,t,rfl,ha,h⟩
theorem EG {n:Zi} {us vs:LI} {s:Z4} {r:List Z4} (h:XC n (s::r) us=some vs):0<=Yc n us s/\XC n r (Qw n us s)=some vs:=by
 rw [XC] at h
 split at h
 ·cases h
 ·exact ⟨by omega,h⟩
theorem GT (n:Zi) (us:LI) (s:Z4):us.length<=(Qw n us s).length/\(Qw n us s).length<=us.length+s.sz:=by
 have:=s.sz_pos
 rw [Qw];split
 ·simp only [Yt,Hp];omega
 ·omega
end Go.Abs
namespace Go.Abs
theorem Z6h {X L:Zh} {m:Nat} {r x:Int} (hg:gI L.vars r=x) (h:x≠0) (ht:Vs L r=some X):U0 m r L=VY X m:=by rw [U0,hg,Zd h,ht];rfl
theorem Z6g {L:Zh} {m:Nat} {r x:Int} (hg:gI L.vars r=x) (h:x≠0) (ht:Vs L r=none):U0 m r L=none:=by rw [U0,hg,Zd h,ht];rfl
theorem DU {L:Zh} {m:Nat} {r x:Int} (hg:gI L.vars r=x) (h:¬x≠0):U0 m r L=VY L m:=by rw [U0,hg,Z8 h];rfl
end Go.Abs
namespace Go.Abs
theorem RM {ds:List Zf} {lent:LI}:∀{ps:LI} {i:Nat} {L:Zh},Xb ds L 1->Xb ds (Kj lent ps i L) 1/\(Kj lent ps i L).vars=L.vars++ps
 | [],i,L,hk=>⟨hk,by simp [Kj]⟩
 | t::r,i,L,hk=>by
  rw [Kj]
  obtain ⟨k1,k2⟩:=RM (lent:=lent) (ps:=r) (i:=i+1) (hk.grow (t:=t) (o:=if t≠0/\¬(i:Int)∈lent then 1 else 0) (p:=-1) om (by split<;>omega))
  exact ⟨k1,by rw [k2];simp [Zh.grow]⟩
theorem Ca (ds:List Zf) (r:Y8):Xb ds (WO r) 1/\(WO r).vars=r.params:=by
 have h:Xb ds (⟨[],[],[],[],[],[]⟩:Zh) 1:=⟨⟨rfl,rfl,rfl,rfl,rfl⟩,fun j h1 h2=>by simp at h2;omega,fun j h1 h2=>by simp at h2;omega,by simp,by simp⟩
 obtain ⟨k1,k2⟩:=RM (lent:=r.lent) (ps:=r.params) (i:=0) h
 exact ⟨k1,by rw [WO,k2];rfl⟩
theorem Z4t {L:Zh} (h:VY L 0=none):(VY L 0).isSome=false:=by rw [h];rfl
theorem Z4u {L L':Zh} (h:VY L 0=some L'):(VY L 0).isSome=true:=by rw [h];rfl
theorem Z3i {n:Zi} (hn:X6 n) {ln:LI} {b:Z6} {L O:Zh} {q:Int} {k:Nat} (hk:Xb n.decls L q) (hq:0<=q) (hty:0<=Xh n L.vars b) (hkl:k<=L.vars.length) (h:Wk n ln L k b=some O) :
  Wq O/\O.vars.length=k:=
 ((Ll n hn ln b.sz).2 b L O q k (X7 _) hk hq hty hkl h).2
end Go.Abs
namespace Go.Abs
theorem Se {n:Zi}:∀{l:List Y8},Kl n l=true->∀r∈l,¬TY r.body<0/\Xh n r.params r.body=r.result
 | [],_,r,h=>by simp at h
 | a::l,h,r,hr=>by
  rw [Kl] at h
  split at h
  ·rename_i h1
   rcases YD.1 hr with rfl|hr
   ·exact h1
   ·exact Se h r hr
  ·cases h
theorem Co {n:Zi} (hz:Un n) (h:XV n=true):X6 n/\∀r∈n.routines,0<=Xh n r.params r.body:=by
 simp only [XV,W6] at h
 refine ⟨Lx hz h.1,fun r hr=>?_⟩
 rw [(Se h.2 r hr).2]
 have h1:=h.1
 simp only [U3,Ks,W6] at h1
 have:=Mf h1.2.1.2.2.1 (UO r) (Wf.2 ⟨r,hr,rfl⟩)
 simp only [Jd,W6,decide_eq_true_eq,UO] at this
 exact (of_decide_eq_true this.2.2).1
end Go.Abs
end
section
namespace Go.Abs
theorem Il {xs:LI} (h:Z7 xs=[]):xs=[]:=by cases xs with|nil=>rfl|cons x r=>cases h
def JZ (i:Int):LI->Nat->Int
 | [],_=>-1
 | x::r,k=>if i=x then (k:Int) else JZ i r (k+1)
def G7 (xs:LI) (i:Int):Int:=JZ i xs 0
theorem Pm (i:Int):∀(xs:LI) (k:Nat),(0<=JZ i xs k↔i∈xs)/\-1<=JZ i xs k
 | [],k=>by simp [JZ]
 | x::r,k=>by
  rw [JZ]
  obtain ⟨h1,h2⟩:=Pm i r (k+1)
  split
  ·rename_i h;subst h;simp<;>omega
  ·rename_i h;simp [h1,h,h2]
theorem Za9 (xs:LI) (i:Int):decide (G7 xs i>=0)=decide (i∈xs):=by
 rw [decide_eq_decide];exact (Pm i xs 0).1
end Go.Abs
namespace Go.Abs
theorem OE (xss:List LI) (k:Nat):(xss.take k).flatten.length<=xss.flatten.length:=by
 conv=>rhs;rw [<-UH k xss,List.flatten_append,Yt]
 omega
end Go.Abs
namespace Go.Abs
theorem Iz {xss:List LI} {k:Nat} {x:LI} (h:xss[k]? = some x):(xss.take (k+1)).flatten=(xss.take k).flatten++x:=by rw [Vl h,List.flatten_append];simp
theorem OD {xss:List LI} {k:Nat} {x:LI} (h:xss[k]? = some x):(xss.take k).flatten.length+x.length<=xss.flatten.length:=by
 have:=OE xss (k+1)
 rw [Iz h,Yt] at this
 exact this
end Go.Abs
end
section
namespace Go.Abs
theorem Z4g {c:Int} {ds:List Zf} {k:Nat} {d:Zf} {r:Int × LI} (h:ds[k]? = some d) (hn:¬(c-YP (ds.take k)>=0/\c-YP (ds.take k)<d.cons.length))
  (hr:Tn c (ds.drop k) k (YP (ds.take k))=r):Tn c (ds.drop (k+1)) (k+1) (YP (ds.take (k+1)))=r:=by
 rw [Y9 h,Tn,Z8 om] at hr
 rw [Vl h,DO,<-hr];rfl
end Go.Abs
namespace Go.Abs
theorem Z4i {c:Int} {ds:List Zf} {k:Nat} {d:Zf} {x:Yn} (h:ds[k]? = some d) (hn:c-YP (ds.take k)>=0/\c-YP (ds.take k)<d.cons.length)
  (hx:d.cons[(c-YP (ds.take k)).toNat]? = some x):Tn c (ds.drop k) k (YP (ds.take k))=((k:Int)+1,x.fields):=by
 rw [Y9 h,Tn,Zd om,hx];rfl
def AS (c:Int) (z:Nat) (v:Int):Prop:=v=c-z∨(c<0/\c-z < -9223372036854775808/\v=c-z+18446744073709551616)
theorem Z2x {c:Int} {z l:Nat} {v:Int} (h:AS c z v) (hz:z<=100) (hl:l<=3) (hc:-9223372036854775808<=c/\c<=9223372036854775807):AS c (z+l) (Cq (v-l)):=by
 unfold AS at *;rw [Cq,IntKind.wrap_i64];omega
theorem Z4h {c v:Int} {ds:List Zf} {k:Nat} {d:Zf} {r:Int × LI} (h:ds[k]? = some d) (ha:AS c (YP (ds.take k)) v) (hn:¬(v>=0/\v<d.cons.length))
  (hr:Tn c (ds.drop k) k (YP (ds.take k))=r):Tn c (ds.drop (k+1)) (k+1) (YP (ds.take (k+1)))=r:=Z4g h (by unfold AS at ha;omega) hr
theorem Z4j {c v:Int} {ds:List Zf} {k:Nat} {d:Zf} {x:Yn} (h:ds[k]? = some d) (ha:AS c (YP (ds.take k)) v) (hz:YP (ds.take k)<=100) (hl:d.cons.length<=3) (hc:-9223372036854775808<=c)
  (hn:v>=0/\v<d.cons.length) (hx:d.cons[v.toNat]? = some x):Tn c (ds.drop k) k (YP (ds.take k))=((k:Int)+1,x.fields):=by
 have:v=c-(YP (ds.take k):Int):=by unfold AS at ha;omega
 subst this
 exact Z4i h hn hx
def VW (ds:List Zf) (t:Int):Zf:=if W8 ds t=true then (ds[(t-1).toNat]?).getD ⟨0,0,[]⟩ else ⟨0,0,[]⟩
end Go.Abs
namespace Go.Abs
abbrev O6 (ds:List Zf) (d:Zf):Prop:=
 (((¬(0<=d.frm/\d.frm<=ds.length))∨(¬(0<=d.to_/\d.to_<=ds.length)))∨((d.cons.length:Int)>3))∨(((d.cons.length:Int)>0)/\((d.frm≠0)∨(d.to_≠0)))
theorem Z5l {ds:List Zf} {d:Zf} {i:Nat} (h:O6 ds d):UU ds d i=false:=by
 rw [UU]
 split
 ·rw [Z8];rintro ⟨h1,h2,h3⟩
  rcases h with ((h|h)|h)|h<;>omega
 ·split
  ·rfl
  ·rcases h with ((h|h)|h)|h
   ·rw [decide_eq_false h];rfl
   ·rw [decide_eq_false h,Bool.and_false]
   ·omega
   ·omega
theorem Z5m {ds:List Zf} {d:Zf} {i:Nat} (hl:0<d.cons.length) (h:TP ds.length d.cons=false):UU ds d i=false:=by
 rw [UU,Zd hl];split
 ·exact h
 ·rfl
theorem Z5n {ds:List Zf} {d:Zf} {i:Nat} (hl:d.cons.length=0) (h:K5 d (ds.take i)=true):UU ds d i=false:=by
 rw [UU,Z8 om,Zd h]
theorem Z5o {ds:List Zf} {d:Zf} {i:Nat} (h1:¬O6 ds d) (h2:TP ds.length d.cons=true) (h3:d.cons.length=0->K5 d (ds.take i)=false):UU ds d i=true:=by
 rw [UU]
 have ha:0<=d.frm/\d.frm<=ds.length:=Vy.1 fun q=>h1 (.inl (.inl (.inl q)))
 have hb:0<=d.to_/\d.to_<=ds.length:=Vy.1 fun q=>h1 (.inl (.inl (.inr q)))
 have hc:¬(d.cons.length:Int)>3:=fun q=>h1 (.inl (.inr q))
 split
 ·rename_i hl
  have hd:¬(d.frm≠0∨d.to_≠0):=fun q=>h1 (.inr ⟨by omega,q⟩)
  rw [Zd ⟨by omega,by omega,by omega⟩];exact h2
 ·rw [Z8 (by rw [h3 om];simp),decide_eq_true ha,decide_eq_true hb];rfl
theorem MD {ds:List Zf} {k:Nat} {d:Zf} (h:ds[k]? = some d) (hA:UU ds d k=false) (c:To ds (ds.drop k) k=To ds ds 0):false=V5 ds:=by
 rw [V5,<-c,Y9 h,To,DQ h,hA,Z8 (by simp),Bool.and_false]
theorem Zhp {ds:List Zf} {k:Nat} {d:Zf} {r:Bool} (h:ds[k]? = some d) (hA:UU ds d k=true) (c:To ds (ds.drop k) k=r):To ds (ds.drop (k+1)) (k+1)=r:=by
 rw [Y9 h,To,DQ h,hA,Zd rfl] at c;exact c
theorem Zho {ds:List Zf} {k:Nat} (hl:ds.length<=4) (hk:ds.length<=k) (c:To ds (ds.drop k) k=To ds ds 0):true=V5 ds:=by
 rw [V5,<-c,Xn hk,decide_eq_true hl];rfl
theorem Z4k {m:Nat} {c:Yn} (h:((c.fields.length:Int)>3)∨(¬(Ws m c.fields=true))):Ju m c=false:=by
 rw [Ju]
 rcases h with h|h
 ·rw [decide_eq_false om];rfl
 ·rw [Jo.2 h,Bool.and_false]
theorem Z4l {m:Nat} {c:Yn} (h:¬(((c.fields.length:Int)>3)∨(¬(Ws m c.fields=true)))):Ju m c=true:=by
 rw [Ju,Vy.1 fun q=>h (.inr q),decide_eq_true (by have:¬(c.fields.length:Int)>3:=fun q=>h (.inl q);omega)];rfl
end Go.Abs
end
section
namespace Go.Abs
structure Vo where
 pms:LI
 lnt:LI
 res:Int
abbrev PW (f:Vo):List AV:=[Z5 f.pms,Z5 f.lnt,.i f.res]
abbrev ES (f:Vo):AV:=.agg (PW f)
def Ts (fs:List Vo):List AV:=fs.map ES
abbrev Dd (xs:List Vo):AV:=.sl (Ts xs) none
abbrev Gt (xs:List Vo) (v:Value):AV:=.sl (Ts xs) (some v)
theorem BY {xs:List Vo} {j:Nat} {x:Vo} (h:xs[j]? = some x):(Ts xs)[j]? = some (ES x):=by simp [Ts,h]
@[simp] theorem DT (xs:List Vo):(Ts xs).length=xs.length:=by simp [Ts]
theorem Oa (xs:List Vo):∀y∈Ts xs,y.leaves.length=3:=by intro y hy;simp only [Ts,Wf] at hy;obtain ⟨x,_,rfl⟩:=hy;rfl
theorem Z69 (xs:List Vo):(Zp (Ts xs)).all AV.one=true:=JA fun y hy=>by simp only [Ts,Wf] at hy;obtain ⟨x,_,rfl⟩:=hy;rfl
def W5 (r:Y8):Vo:=⟨r.params,r.lent,r.result⟩
def A1 (m:Nat) (f:Vo):Bool:=Jd m ⟨f.pms,f.res⟩&&Jk f.pms f.lnt
def KM (m:Nat):List Vo->Bool
 | []=>true
 | f::r=>if A1 m f=true then KM m r else false
def It:List Vo->Bool
 | []=>false
 | f::_=>decide (f.pms.length=0)&&decide (f.res=0)
def Jl (ds:List Zf) (fs:List Vo):Bool:=V5 ds&&(decide (1<=fs.length/\fs.length<=4)&&(It fs&&KM ds.length fs))
theorem Ow {fs:List Vo} {x:Vo} (h:fs[0]? = some x):It fs=(decide (x.pms.length=0)&&decide (x.res=0)):=by
 cases fs with
 | nil=>simp at h
 | cons f r=>simp at h;subst h;rfl
theorem SJ (m:Nat):∀rs:List Y8,KM m (rs.map W5)=(Je m (rs.map UO)&&J9 rs)
 | []=>rfl
 | r::rs=>by
  simp only [UG,KM,Je,J9,A1,SJ m rs]
  simp only [W5,UO]
  by_cases h1:Jd m { params:=r.params,result:=r.result }=true<;>by_cases h2:Jk r.params r.lent=true<;>simp [h1,h2]
theorem Rm (n:Zi):U3 n=(decide (n.routines.length<=4)&&Jl n.decls (n.routines.map W5)):=by
 have hf:It (n.routines.map W5)=FF (n.routines.map UO):=by
  cases n.routines with
  | nil=>rfl
  | cons r rs=>rfl
 rw [U3,Jl,Ks,SJ,hf]
 simp only [AP]
 cases decide (n.routines.length<=4)<;>cases V5 n.decls<;>cases decide (1<=n.routines.length/\n.routines.length<=4)<;>cases Je n.decls.length (n.routines.map UO) <;>
  cases FF (n.routines.map UO)<;>cases J9 n.routines<;>rfl
theorem GU {rs:List Y8} {j:Nat} {x:Vo} (h:(rs.map W5)[j]? = some x):∃r,rs[j]? = some r/\x=W5 r:=by
 rw [Tl] at h
 cases hr:rs[j]? with
 | none=>rw [hr] at h;cases h
 | some r=>rw [hr] at h;cases h;exact ⟨r,rfl,rfl⟩
theorem Rb {ps ls:LI} {j:Nat} {v:Int} {r:Bool} (h:ls[j]? = some v) (hg:(0<=v/\v<=(ps.length:Int)-1)/\ps[v.toNat]?≠some 0/\(∀p,(if j=0 then none else ls[j-1]?)=some p->p<v))
  (hr:QJ ps (ls.drop j) (if j=0 then none else ls[j-1]?)=r):QJ ps (ls.drop (j+1)) (if j+1=0 then none else ls[j+1-1]?)=r:=by
 rw [Y9 h,Ln hg] at hr
 rw [Z8 om,show j+1-1=j from rfl,h];exact hr
theorem Lo {ps ls:LI} {j:Nat} {v:Int} {r:Bool} (h:ls[j]? = some v) (hg:¬((0<=v/\v<=(ps.length:Int)-1)/\ps[v.toNat]?≠some 0/\(∀p,(if j=0 then none else ls[j-1]?)=some p->p<v)))
  (hr:QJ ps (ls.drop j) (if j=0 then none else ls[j-1]?)=r):r=false:=by
 rw [Y9 h,Gl hg] at hr;exact hr.symm
theorem GV {m:Nat} {fs:List Vo} {k:Nat} {f:Vo} {r:Bool} (h:fs[k]? = some f) (hb:A1 m f=false) (hr:KM m (fs.drop k)=r):r=false:=by
 rw [Y9 h,KM,hb,Z8 (by simp)] at hr;exact hr.symm
theorem Zex {m:Nat} {fs:List Vo} {k:Nat} {f:Vo} {r:Bool} (h:fs[k]? = some f) (hb:A1 m f=true) (hr:KM m (fs.drop k)=r):KM m (fs.drop (k+1))=r:=by
 rw [Y9 h,KM,Zd hb] at hr;exact hr
end Go.Abs
namespace Go.Abs
section
variable {ds:List Zf} {fs:List Vo} {x:Vo}
theorem Zhw (h:((¬(V5 ds=true))∨((fs.length:Int)<1))∨((fs.length:Int)>4)):false=Jl ds fs:=by
 rw [Jl]
 rcases h with (h|h)|h
 ·rw [Jo.2 h];rfl
 ·rw [decide_eq_false (p:=1<=fs.length/\fs.length<=4) om];simp
 ·rw [decide_eq_false (p:=1<=fs.length/\fs.length<=4) om];simp
theorem Z1a (hx:fs[0]? = some x) (h:((x.pms.length:Int)>0)∨x.res≠0):false=Jl ds fs:=by
 rw [Jl,Ow hx]
 rcases h with h|h
 ·rw [decide_eq_false (p:=x.pms.length=0) om];simp
 ·rw [decide_eq_false (p:=x.res=0) h];simp
theorem Hc (h:KM ds.length fs=false):false=Jl ds fs:=by rw [Jl,h];simp
theorem Zhx (h:¬(((¬(V5 ds=true))∨((fs.length:Int)<1))∨((fs.length:Int)>4))) (hx:fs[0]? = some x) (h1:¬((x.pms.length:Int)>0)) (h2:¬x.res≠0) (h3:KM ds.length fs=true) :
  true=Jl ds fs:=by
 have hv:V5 ds=true:=Vy.1 fun q=>h (.inl (.inl q))
 have ha:¬(fs.length:Int)<1:=fun q=>h (.inl (.inr q))
 have hb:¬(fs.length:Int)>4:=fun q=>h (.inr q)
 rw [Jl,Ow hx,hv,h3,decide_eq_true (p:=1<=fs.length/\fs.length<=4) om,decide_eq_true (p:=x.pms.length=0) om,decide_eq_true (p:=x.res=0) (Vy.1 h2)];rfl
abbrev SF (m:Nat) (x:Vo):Prop:=(((x.pms.length:Int)>3)∨(¬(Ws m x.pms=true)))∨(¬(0<=x.res/\x.res<=m))
theorem Zee {m:Nat} (h:SF m x):A1 m x=false:=by
 rw [A1,Jd]
 rcases h with (h|h)|h
 ·rw [decide_eq_false (p:=x.pms.length<=3) om];simp
 ·rw [Jo.2 h];simp
 ·rw [decide_eq_false h];simp
theorem M7 {m:Nat} (h:Jk x.pms x.lnt=false):A1 m x=false:=by rw [A1,h,Bool.and_false]
theorem Zef {m:Nat} (h:¬SF m x) (hl:Jk x.pms x.lnt=true):A1 m x=true:=by
 have h1:¬(x.pms.length:Int)>3:=fun q=>h (.inl (.inl q))
 rw [A1,Jd,hl,decide_eq_true (p:=x.pms.length<=3) om,Vy.1 fun q=>h (.inl (.inr q)),decide_eq_true (Vy.1 fun q=>h (.inr q))];rfl
end
end Go.Abs
namespace Go.Abs
abbrev YW (n:Zi):AV:=Dd (n.routines.map W5)
end Go.Abs
end
section
namespace Go.Abs
def Wt (us:LI):LI->Option LI
 | []=>some []
 | a::r=>match Xy us a with
  | none=>none
  | some t=>match Wt us r with
   | none=>none
   | some ts=>some (t::ts)
theorem Mz {us:LI}:∀{args ts:LI},Wt us args=some ts->∀tys,Wj us args tys=true↔ts=tys
 | [],ts,h,tys=>by
  rw [Wt] at h;cases h
  cases tys with
  | nil=>simp [Wj,Ti]
  | cons t r=>simp [Wj,Ti]
 | a::r,ts,h,tys=>by
  rw [Wt] at h
  cases ha:Xy us a with
  | none=>rw [ha] at h;cases h
  | some t=>
   rw [ha] at h
   cases hr:Wt us r with
   | none=>rw [hr] at h;cases h
   | some tr=>
    rw [hr] at h;cases h
    cases tys with
    | nil=>simp [Wj,Ti]
    | cons t2 r2=>
     rw [Wj,Ti,ha]
     have:=Mz hr r2
     rw [Wj] at this
     by_cases he:t=t2
     ·subst he;simp [this]
     ·rw [Z8 (fun q=>he (Qh q))];simp [he]
theorem N5 {us:LI}:∀{args ts:LI},Wt us args=some ts->ts.length=args.length
 | [],ts,h=>by rw [Wt] at h;cases h;rfl
 | a::r,ts,h=>by
  rw [Wt] at h
  cases ha:Xy us a with
  | none=>rw [ha] at h;cases h
  | some t=>
   rw [ha] at h
   cases hr:Wt us r with
   | none=>rw [hr] at h;cases h
   | some tr=>rw [hr] at h;cases h;simp [N5 hr]
theorem N6 {us:LI} {b t:Int}:∀{xs ts:LI},Wt us xs=some ts->Xy us b=some t->Wt us (xs++[b])=some (ts++[t])
 | [],ts,h,hb=>by rw [Wt] at h;cases h;simp [Wt,hb]
 | a::r,ts,h,hb=>by
  rw [Wt] at h
  cases ha:Xy us a with
  | none=>rw [ha] at h;cases h
  | some u=>
   rw [ha] at h
   cases hr:Wt us r with
   | none=>rw [hr] at h;cases h
   | some tr=>
    rw [hr] at h;cases h
    rw [QT,Wt,ha,N6 hr hb];rfl
def DG (n:Zi) (num:Int):LI->Option Int
 | [a,b]=>if W8 n.decls a=true/\b=(VW n.decls a).frm/\num=0 then some (VW n.decls a).to_ else none
 | _=>none
def XO (n:Zi) (op num:Int) (ts:LI):Option Int:=
 if op=0 then (if (-999<=num/\num<=999)/\ts.length=0 then some 0 else none)
 else if op=1∨op=2∨op=3∨op=4 then (if num=0/\ts=[0,0] then some 0 else none)
 else if op=5 then (if num=0/\ts=[0] then some 0 else none)
 else if op=11 then DG n num ts
 else if op=6 then (if 0<=Wm n.decls num/\ts=ZV n.decls num then some (Wm n.decls num) else none)
 else if op=9 then (match Xy n.routines num with
  | none=>none
  | some r=>if ts=r.params then some r.result else none)
 else if op=10 then (match Xy n.routines num with
  | none=>none
  | some r=>if r.params.length≠0/\0<=J0 n.decls r.params r.result/\ts=r.params.take (r.params.length-1) then some (J0 n.decls r.params r.result) else none)
 else none
theorem F3 {n:Zi} {num:Int} {ts:LI} (h:ts.length≠2):DG n num ts=none:=by
 match ts,h with
 | [],_=>rfl
 | [_],_=>rfl
 | [_,_],h=>simp at h
 | _::_::_::_,_=>rfl
structure Kv (n:Zi):Prop where
 result:∀r∈n.routines,0<=r.result
 params:∀r∈n.routines,∀p∈r.params,0<=p
 decl:∀d∈n.decls,d.cons.length=0->0<=d.frm/\0<=d.to_
 fields:∀c,∀f∈ZV n.decls c,0<=f
abbrev Ps (us:LI) (s:Z4):Prop:=s.into≠0/\(((s.op≠6∨s.into<1)∨s.into>us.length)∨gI us (s.into-1)=0)
theorem Zaq {us:LI} {op into:Int} (hnn:∀t∈us,0<=t) (h:¬(into≠0/\(((op≠6∨into<1)∨into>us.length)∨gI us (into-1)=0))):UE us op into=true:=by
 rw [UE]
 split
 ·rfl
 ·rename_i h0
  have h1:¬(((op≠6∨into<1)∨into>us.length)∨gI us (into-1)=0):=fun q=>h ⟨h0,q⟩
  have h2:op=6:=Vy.1 fun q=>h1 (.inl (.inl (.inl q)))
  have h3:¬into<1:=fun q=>h1 (.inl (.inl (.inr q)))
  have h4:¬into>us.length:=fun q=>h1 (.inl (.inr q))
  have h5:¬gI us (into-1)=0:=fun q=>h1 (.inr q)
  obtain ⟨t,ht⟩:=J3 (xs:=us) (j:=(into-1).toNat) om
  rw [Zd h2,Ql om ht]
  rw [VH ht] at h5
  have:=hnn t (ZW ht)
  simp;omega
theorem Zap {us:LI} {op into:Int} (h:into≠0/\(((op≠6∨into<1)∨into>us.length)∨gI us (into-1)=0)):UE us op into=false:=by
 obtain ⟨h0,h⟩:=h
 rw [UE,Z8 h0]
 split
 ·rename_i h6
  cases ha:Xy us (into-1) with
  | none=>rfl
  | some t=>
   obtain ⟨a1,a2⟩:=J1 ha
   rcases h with ((h|h)|h)|h
   ·exact absurd h6 h
   ·omega
   ·omega
   ·rw [VH a2] at h;subst h;rfl
 ·rfl
theorem Zh1 {n:Zi} {us:LI} {s:Z4} (h:Ps us s):Yc n us s=-1:=by
 rw [AJ,Zd (.inr (.inl (by rw [Zap h];simp)))]
end Go.Abs
namespace Go.Abs
theorem Zar {α:Type} {c:Prop} [Decidable c] {v:α}:(if c then some v else none).isSome=decide c:=by split<;>simp_all
theorem Zey {n:Zi} (hty:Kv n) {op num:Int} {ts:LI} {x:Int} (h:XO n op num ts=some x):0<=x:=by
 unfold XO at h
 split at h
 ·split at h<;>cases h;exact Int.le_refl 0
 split at h
 ·split at h<;>cases h;exact Int.le_refl 0
 split at h
 ·split at h<;>cases h;exact Int.le_refl 0
 split at h
 ·rcases ts with _|⟨a,_|⟨b,_|⟨c,r⟩⟩⟩
  ·cases h
  ·cases h
  ·rw [DG] at h
   split at h
   ·rename_i hq
    cases h
    rw [VW,Zd hq.1]
    have hA:=hq.1
    simp only [W8,W6,decide_eq_true_eq] at hA
    cases hd:n.decls[(a-1).toNat]? with
    | none=>rw [hd] at hA;simp at hA
    | some d=>
     rw [hd] at hA
     exact (hty.decl d (ZW hd) (by simpa using hA.2)).2
   ·cases h
  ·cases h
 split at h
 ·split at h
  ·rename_i hq;cases h;exact hq.1
  ·cases h
 split at h
 ·cases ha:Xy n.routines num with
  | none=>rw [ha] at h;cases h
  | some r=>
   rw [ha] at h
   simp only at h
   split at h
   ·cases h;exact hty.result r (ZW (J1 ha).2)
   ·cases h
 split at h
 ·cases ha:Xy n.routines num with
  | none=>rw [ha] at h;cases h
  | some r=>
   rw [ha] at h
   simp only at h
   split at h
   ·rename_i hq;cases h;exact hq.2.1
   ·cases h
 ·cases h
def Ji (n:Zi) (us:LI) (s:Z4) (ts:LI):Int:=
 if YF s.op=true then (match ts with
  | [t]=>if t≠0/\s.num=0/\s.kids.length=0/\¬((s.op=16∨s.op=17)/\W8 n.decls t=true) then 0 else -1
  | _=>-1)
 else if s.op=7 then (if ts=[0]/\s.num=0 then TJ n us s.op s.num s.kids else -1)
 else if s.op=8 then (if ts=[s.num] then TJ n us s.op s.num s.kids else -1)
 else if 0<s.kids.length∨(s.op=10/\0<(((Xy n.routines s.num).map (·.lent)).getD []).length) then -1
 else (XO n s.op s.num ts).getD (-1)
theorem Pv {p q:Prop} [Decidable p] [Decidable q] {a b:Int} (h:p↔q):ite p a b=ite q a b:=by
 by_cases hp:p
 ·rw [Zd hp,Zd (h.1 hp)]
 ·rw [Z8 hp,Z8 (fun z=>hp (h.2 z))]
theorem BD {n:Zi} {us:LI} {s:Z4} {ts:LI} (hnn:∀t∈us,0<=t) (hts:Wt us s.args=some ts) (hi:¬Ps us s):Yc n us s=Ji n us s ts:=by
 have hv:=Zaq hnn hi
 have ht:=Mz hts
 have hl:=N5 hts
 have hfirst:((s.num≠0/\¬VQ s.op=true)∨¬UE us s.op s.into=true∨(0<s.kids.length/\s.op≠7/\s.op≠8))↔((s.num≠0/\¬VQ s.op=true)∨(0<s.kids.length/\s.op≠7/\s.op≠8)):=by
  rw [hv];simp
 rw [AJ,Pv hfirst]
 unfold Ji
 by_cases hc:YF s.op=true
 ·have hop:14<=s.op/\s.op<=17:=by simpa [YF] using hc
  have hnum:VQ s.op=false:=by simp [VQ];omega
  rw [Zd hc]
  by_cases hb:s.num≠0∨0<s.kids.length
  ·rw [Zd (by rcases hb with hb|hb;exact .inl ⟨hb,by rw [hnum];simp⟩;exact .inr ⟨hb,by omega,by omega⟩)]
   split
   ·rw [Z8];rintro ⟨h1,h2,h3,h4⟩;omega
   ·rfl
  ·rw [Z8 (by rintro (⟨h1,_⟩|⟨h1,_⟩)<;>exact hb (by first|exact .inl h1|exact .inr h1)),Z8 om,Z8 om,Z8 om,Z8 om,Z8 om,Z8 om,Z8 om,Z8 om,Zd om]
   have Zb:s.num=0:=Vy.1 fun q=>hb (.inl q)
   have ZB:s.kids.length=0:=by have:¬0<s.kids.length:=fun q=>hb (.inr q);omega
   rcases he:s.args with _|⟨a,_|⟨b,r⟩⟩
   ·rw [he] at hts;rw [Wt] at hts;cases hts;rfl
   ·rw [he] at hts
    rw [Wt] at hts
    cases ha:Xy us a with
    | none=>rw [ha] at hts;cases hts
    | some t=>
     rw [ha,Wt] at hts;cases hts
     rw [QC,ha]
     simp only
     by_cases ht0:t=0
     ·rw [Zd ht0,Z8 (fun q=>q.1 ht0)]
     ·rw [Z8 ht0]
      by_cases hA:W8 n.decls t=true
      ·by_cases h16:s.op=16∨s.op=17
       ·rw [Zd ⟨by omega,hA⟩,Z8 (fun q=>q.2.2.2 ⟨h16,hA⟩)]
       ·rw [Z8 (by rintro ⟨q,_⟩;omega),Zd ⟨ht0,Zb,ZB,fun q=>h16 q.1⟩]
      ·rw [Z8 (fun q=>hA q.2),Zd ⟨ht0,Zb,ZB,fun q=>hA q.2⟩]
   ·rw [he] at hl
    rw [show QC n.decls us s.op (a::b::r)=-1 from rfl]
    match ts,hl with
    | [t],hl=>simp at hl
    | [],hl=>simp at hl
    | _::_::_,_=>rfl
 have hop:¬(14<=s.op/\s.op<=17):=by simpa [YF] using hc
 by_cases h7:s.op=7
 ·have hnum:VQ s.op=false:=by simp [VQ];omega
  conv=>rhs;rw [Z8 hc,Zd h7]
  by_cases hb:s.num=0
  ·rw [Z8 (fun q=>q.elim (fun z=>z.1 hb) fun z=>z.2.1 h7),Z8 om,Z8 om,Z8 om,Z8 om,Zd h7]
   by_cases hq:ts=[0]
   ·rw [Zd ((ht _).2 hq),Zd ⟨hq,hb⟩]
   ·rw [Z8 (fun q=>hq ((ht _).1 q)),Z8 (fun q=>hq q.1)]
  ·rw [Zd (.inl ⟨hb,by rw [hnum];simp⟩),Z8 (fun q=>hb q.2)]
 by_cases h8:s.op=8
 ·have hnum:VQ s.op=true:=by simp [VQ,h8]
  conv=>rhs;rw [Z8 hc,Z8 h7,Zd h8]
  rw [Z8 (fun q=>q.elim (fun z=>z.2 hnum) fun z=>z.2.2 h8),Z8 om,Z8 om,Z8 om,Z8 om,Z8 h7,Zd h8]
  by_cases hq:ts=[s.num]
  ·rw [Zd ((ht _).2 hq),Zd hq]
  ·rw [Z8 (fun q=>hq ((ht _).1 q)),Z8 hq]
 conv=>rhs;rw [Z8 hc,Z8 h7,Z8 h8]
 by_cases hk:0<s.kids.length
 ·rw [Zd (.inr ⟨hk,h7,h8⟩),Zd (.inl hk)]
 by_cases hlent:s.op=10/\0<(((Xy n.routines s.num).map (·.lent)).getD []).length
 ·conv=>rhs;rw [Zd (.inr hlent)]
  have hnum:VQ s.op=true:=by simp [VQ,hlent.1]
  have h10:=hlent.1
  rw [Z8 (fun q=>q.elim (fun z=>z.2 hnum) fun z=>hk z.1),Z8 om,Z8 om,Z8 om,Z8 om,Z8 h7,Z8 h8,Zd (.inr h10),Uv]
  cases ha:Xy n.routines s.num with
  | none=>rfl
  | some r=>
   have h2:=hlent.2
   rw [ha] at h2
   simp only [BM,Option.getD_some] at h2
   simp only
   rw [KL,Z8 om,Zd (.inr (.inl h2))]
 conv=>rhs;rw [Z8 (fun q=>Or.elim q hk hlent)]
 have sf:∀{X:Option Int},XO n s.op s.num ts=X->Yc n us s=X.getD (-1)->Yc n us s=(XO n s.op s.num ts).getD (-1):=fun a b=>by rw [a];exact b
 have hL:=AJ n us s
 rw [Pv hfirst] at hL
 rw [<-hL]
 by_cases hnb:s.num≠0/\¬VQ s.op=true
 ·have hnn2:¬(s.op=0∨(s.op=6∨(s.op=8∨(s.op=9∨s.op=10)))):=fun q=>hnb.2 (by simpa [VQ] using q)
  refine sf (X:=none) ?_ (by rw [hL,Zd (.inl hnb)];rfl)
  unfold XO
  rw [Z8 om]
  split
  ·rw [Z8 (fun q=>hnb.1 q.1)]
  split
  ·rw [Z8 (fun q=>hnb.1 q.1)]
  split
  ·by_cases hl2:ts.length=2
   ·match ts,hl2 with
    | [a,b],_=>exact Z8 fun q=>hnb.1 q.2.2
   ·exact F3 hl2
  rw [Z8 om,Z8 om,Z8 om]
 rw [Z8 (fun q=>q.elim hnb fun z=>hk z.1)] at hL
 have hnumf:¬(s.op=0∨(s.op=6∨(s.op=8∨(s.op=9∨s.op=10))))->s.num=0:=fun q=>Vy.1 fun z=>hnb ⟨z,fun y=>q (by simpa [VQ] using y)⟩
 by_cases h0:s.op=0
 ·rw [Zd h0] at hL
  by_cases hq:s.args.length=0/\(-999<=s.num/\s.num<=999)
  ·exact sf (by unfold XO;rw [Zd h0,Zd ⟨hq.2,by omega⟩]) (by rw [hL,Zd hq];rfl)
  ·exact sf (by unfold XO;rw [Zd h0,Z8 (fun q=>hq ⟨by omega,q.1⟩)]) (by rw [hL,Z8 hq];rfl)
 rw [Z8 h0] at hL
 by_cases h1:s.op=1∨s.op=2∨s.op=3∨s.op=4
 ·rw [Zd h1] at hL
  by_cases hq:ts=[0,0]
  ·exact sf (by unfold XO;rw [Z8 h0,Zd h1,Zd ⟨hnumf om,hq⟩]) (by rw [hL,Zd ((ht _).2 hq)];rfl)
  ·exact sf (by unfold XO;rw [Z8 h0,Zd h1,Z8 (fun q=>hq q.2)]) (by rw [hL,Z8 (fun q=>hq ((ht _).1 q))];rfl)
 rw [Z8 h1] at hL
 by_cases h5:s.op=5
 ·rw [Zd h5] at hL
  by_cases hq:ts=[0]
  ·exact sf (by unfold XO;rw [Z8 h0,Z8 h1,Zd h5,Zd ⟨hnumf om,hq⟩]) (by rw [hL,Zd ((ht _).2 hq)];rfl)
  ·exact sf (by unfold XO;rw [Z8 h0,Z8 h1,Zd h5,Z8 (fun q=>hq q.2)]) (by rw [hL,Z8 (fun q=>hq ((ht _).1 q))];rfl)
 rw [Z8 h5] at hL
 by_cases h6:s.op=6
 ·rw [Zd h6] at hL
  have hct:0<Wm n.decls s.num↔0<=Wm n.decls s.num:=by
   rcases Int.lt_or_le (Wm n.decls s.num) 1 with q|q
   ·have:=(Fj q).2;omega
   ·omega
  by_cases hq:0<=Wm n.decls s.num/\ts=ZV n.decls s.num
  ·exact sf (by unfold XO;rw [Z8 h0,Z8 h1,Z8 h5,Z8 om,Zd h6,Zd hq]) (by rw [hL,Zd ⟨hct.2 hq.1,(ht _).2 hq.2⟩];rfl)
  ·exact sf (by unfold XO;rw [Z8 h0,Z8 h1,Z8 h5,Z8 om,Zd h6,Z8 hq]) (by rw [hL,Z8 (fun q=>hq ⟨hct.1 q.1,(ht _).1 q.2⟩)];rfl)
 rw [Z8 h6,Z8 h7,Z8 h8] at hL
 by_cases h9:s.op=9
 ·rw [Zd (.inl h9),Uv] at hL
  cases ha:Xy n.routines s.num with
  | none=>exact sf (by unfold XO;rw [Z8 h0,Z8 h1,Z8 h5,Z8 om,Z8 h6,Zd h9,ha]) (by rw [hL,ha];rfl)
  | some r=>
   rw [ha] at hL
   simp only at hL
   rw [KL,Zd h9] at hL
   have hF:∀{X:Option Int},(if ts=r.params then some r.result else none)=X->XO n s.op s.num ts=X:=fun q=>by
    unfold XO;rw [Z8 h0,Z8 h1,Z8 h5,Z8 om,Z8 h6,Zd h9,ha];exact q
   by_cases hq:ts=r.params
   ·exact sf (hF (Zd hq)) (by rw [hL,Zd ((ht _).2 hq)];rfl)
   ·exact sf (hF (Z8 hq)) (by rw [hL,Z8 (fun q=>hq ((ht _).1 q))];rfl)
 by_cases h10:s.op=10
 ·rw [Zd (.inr h10),Uv] at hL
  cases ha:Xy n.routines s.num with
  | none=>exact sf (by unfold XO;rw [Z8 h0,Z8 h1,Z8 h5,Z8 om,Z8 h6,Z8 h9,Zd h10,ha]) (by rw [hL,ha];rfl)
  | some r=>
   rw [ha] at hL hlent
   simp only [BM,Option.getD_some] at hL hlent
   rw [KL,Z8 h9] at hL
   have hF:∀{X:Option Int},(if r.params.length≠0/\0<=J0 n.decls r.params r.result/\ts=r.params.take (r.params.length-1) then some (J0 n.decls r.params r.result) else none)=X->XO n s.op s.num ts=X:=fun q=>by
    unfold XO;rw [Z8 h0,Z8 h1,Z8 h5,Z8 om,Z8 h6,Z8 h9,Zd h10,ha];exact q
   by_cases hp:r.params.length=0
   ·exact sf (hF (Z8 fun q=>q.1 hp)) (by rw [hL,Zd (.inl hp)];rfl)
   by_cases hq:ts=r.params.take (r.params.length-1)
   ·rw [Z8 (fun z=>z.elim hp fun z=>z.elim (fun z=>hlent ⟨h10,z⟩) fun z=>z ((ht _).2 hq))] at hL
    by_cases har:0<=J0 n.decls r.params r.result
    ·exact sf (hF (Zd ⟨hp,har,hq⟩)) hL
    ·refine sf (hF (Z8 fun q=>har q.2.1)) ?_
     have key:∀(l:List Zf) (i:Nat) (f t:Int),¬0<=Ky f t l i->Ky f t l i=-1:=by
      intro l
      induction l with
      | nil=>intro i f t _;rfl
      | cons d r ih=>
       intro i f t hn
       rw [Ky] at hn ⊢
       split
       ·rename_i hh;rw [Zd hh] at hn;omega
       ·rename_i hh;rw [Z8 hh] at hn;exact ih _ _ _ hn
     exact hL.trans (key _ _ _ _ har)
   ·exact sf (hF (Z8 fun q=>hq q.2.2)) (by rw [hL,Zd (.inr (.inr fun q=>hq ((ht _).1 q)))];rfl)
 rw [Z8 om] at hL
 by_cases h11:s.op=11
 ·rw [Zd h11] at hL
  have hn0:=hnumf om
  have hF:∀{X:Option Int},DG n s.num ts=X->XO n s.op s.num ts=X:=fun q=>by
   unfold XO;rw [Z8 h0,Z8 h1,Z8 h5,Zd h11];exact q
  rcases he:s.args with _|⟨a,_|⟨b,_|⟨c,r⟩⟩⟩
  ·rw [he] at hts hL;rw [Wt] at hts;cases hts;exact sf (hF rfl) hL
  ·rw [he] at hl hL
   exact sf (hF (F3 (by simp at hl;omega))) hL
  ·rw [he] at hts hL
   rw [Wt] at hts
   cases ha:Xy us a with
   | none=>rw [ha] at hts;cases hts
   | some t=>
    rw [ha,Wt] at hts
    cases hb:Xy us b with
    | none=>rw [hb] at hts;cases hts
    | some t2=>
     rw [hb,Wt] at hts;cases hts
     rw [QY,ha] at hL
     simp only at hL
     by_cases hA:W8 n.decls t=true
     ·rw [Zd hA] at hL
      have hA2:=hA
      simp only [W8,W6,decide_eq_true_eq] at hA2
      cases hd:n.decls[(t-1).toNat]? with
      | none=>rw [hd] at hA2;simp at hA2
      | some d=>
       rw [hd] at hL
       simp only at hL
       have hD:VW n.decls t=d:=by rw [VW,Zd hA,hd];rfl
       have h2:=Mz (us:=us) (args:=[b]) (ts:=[t2]) (by rw [Wt,hb,Wt]) [d.frm]
       by_cases hq:t2=d.frm
       ·exact sf (hF (Zd ⟨hA,by rw [hD];exact hq,hn0⟩)) (by rw [hL,Zd (h2.2 (by rw [hq])),hD];rfl)
       ·exact sf (hF (Z8 fun q=>hq (by rw [hD] at q;exact q.2.1))) (by rw [hL,Z8 (fun q=>hq (by simpa using h2.1 q))];rfl)
     ·exact sf (hF (Z8 fun q=>hA q.1)) (by rw [hL,Z8 hA];rfl)
  ·rw [he] at hl hL
   exact sf (hF (F3 (by simp at hl;omega))) hL
 rw [Z8 h11,Z8 om] at hL
 exact sf (X:=none) (by unfold XO;rw [Z8 h0,Z8 h1,Z8 h5,Z8 h11,Z8 h6,Z8 h9,Z8 h10]) hL
end Go.Abs
namespace Go.Abs
theorem Rs:∀(n:Nat) (f:Int) (k:Nat) (x:Int),(VJ f n)[k]? = some x->x=f+k/\k<n
 | 0,f,k,x,h=>by simp [VJ] at h
 | n+1,f,k,x,h=>by
  rw [VJ] at h
  cases k with
  | zero=>simp at h;subst h;exact ⟨by omega,by omega⟩
  | succ k=>have:=Rs n (f+1) k x (by simpa using h);exact ⟨by omega,by omega⟩
theorem NP {ds:List Zf} (hd:WC ds) {t:Int} {k:Nat} {x:Int} (h:(ZY ds t)[k]? = some x):0<=x/\x<=100:=by
 rw [ZY] at h
 split at h
 ·rename_i ht
  obtain ⟨d,hd1⟩:=J3 (xs:=ds) (j:=(t-1).toNat) om
  rw [hd1] at h
  have:=Rs _ _ _ _ h
  have h3:=hd.cons_at hd1
  have h4:=(hd.take (t-1).toNat).sum
  simp only [BM,Option.getD_some] at this
  omega
 ·simp at h
end Go.Abs
namespace Go.Abs
section
variable {S:Option Int} {c:Prop} [Decidable c] {v:Int} {b:Bool}
theorem Bv (h:S=if c then some v else none) (hb:b=true↔c):b=S.isSome:=by rw [h,Zar,Xx,hb,decide_eq_true_iff]
theorem Bw (h:S=if c then some v else none):∀x,S=some x->v=x:=by
 intro x hx;rw [h] at hx;split at hx
 ·exact Qh hx
 ·cases hx
theorem EA (h:S=none):false=S.isSome:=by rw [h];rfl
theorem EB (h:S=none):∀x,S=some x->v=x:=by intro x hx;rw [h] at hx;cases hx
end
section
variable {n:Zi} {op num:Int} {ts:LI}
theorem sf0 (h:op=0):XO n op num ts=if (-999<=num/\num<=999)/\ts.length=0 then some 0 else none:=by unfold XO;rw [Zd h]
theorem sf1 (h:op=1∨op=2∨op=3∨op=4):XO n op num ts=if num=0/\ts=[0,0] then some 0 else none:=by unfold XO;rw [Z8 om,Zd h]
theorem sf5 (h:op=5):XO n op num ts=if num=0/\ts=[0] then some 0 else none:=by unfold XO;rw [Z8 om,Z8 om,Zd h]
theorem SD (h:op=11):XO n op num ts=DG n num ts:=by unfold XO;rw [Z8 om,Z8 om,Z8 om,Zd h]
theorem Zeu (h:op=11) (hl:(ts.length:Int)≠2):XO n op num ts=none:=(SD h).trans (F3 om)
theorem Mc (h:op=11) {a b:Int} (hl:¬(ts.length:Int)≠2) (ha:ts[0]? = some a) (hb:ts[1]? = some b) :
  XO n op num ts=if W8 n.decls a=true/\b=(VW n.decls a).frm/\num=0 then some (VW n.decls a).to_ else none:=by
 rw [SD h]
 match ts,hl,ha,hb with
 | [x,y],_,ha,hb=>simp at ha hb;subst ha;subst hb;rfl
 | [],hl,_,_=>simp at hl
 | [_],hl,_,_=>simp at hl
 | _::_::_::_,hl,_,_=>simp at hl;omega
theorem Zet (h:op=11) {a:Int} (hl:¬(ts.length:Int)≠2) (ha:ts[0]? = some a) (hn:¬W8 n.decls a=true):XO n op num ts=none:=by
 obtain ⟨b,hb⟩:=J3 (xs:=ts) (j:=1) om
 rw [Mc h hl ha hb,Z8 fun q=>hn q.1]
theorem sf6 (h:op=6):XO n op num ts=if 0<=Wm n.decls num/\ts=ZV n.decls num then some (Wm n.decls num) else none:=by
 unfold XO;rw [Z8 om,Z8 om,Z8 om,Z8 om,Zd h]
theorem Zev (h:op=9∨op=10) (hr:num<0∨num>=(((n.routines.map W5).length:Nat):Int)):XO n op num ts=none:=by
 have ha:Xy n.routines num=none:=Kz (by simp at hr;omega)
 unfold XO
 rw [Z8 om,Z8 om,Z8 om,Z8 om,Z8 om]
 rcases h with h|h
 ·rw [Zd h,ha]
 ·rw [Z8 om,Zd h,ha]
theorem sf9 (h:op=9) {x:Vo} (hr:¬(num<0∨num>=(((n.routines.map W5).length:Nat):Int))) (hx:(n.routines.map W5)[num.toNat]? = some x) :
  XO n op num ts=if ts=x.pms then some x.res else none:=by
 obtain ⟨r,h1,rfl⟩:=GU hx
 have ha:Xy n.routines num=some r:=Ql (by simp at hr;omega) h1
 unfold XO
 rw [Z8 om,Z8 om,Z8 om,Z8 om,Z8 om,Zd h,ha];rfl
theorem Zes (h:op=10) {x:Vo} (hr:¬(num<0∨num>=(((n.routines.map W5).length:Nat):Int))) (hx:(n.routines.map W5)[num.toNat]? = some x) (hp:(x.pms.length:Int)-1<0) :
  XO n op num ts=none:=by
 obtain ⟨r,h1,rfl⟩:=GU hx
 have ha:Xy n.routines num=some r:=Ql (by simp at hr;omega) h1
 have hp':r.params.length=0:=by simp only [W5] at hp;omega
 unfold XO
 rw [Z8 om,Z8 om,Z8 om,Z8 om,Z8 om,Z8 om,Zd h,ha]
 exact Z8 fun q=>q.1 hp'
theorem Zer (h:op=10) {x:Vo} {l:Int} (hr:¬(num<0∨num>=(((n.routines.map W5).length:Nat):Int))) (hx:(n.routines.map W5)[num.toNat]? = some x) (hp:¬(x.pms.length:Int)-1<0)
  (hl:x.pms[((x.pms.length:Int)-1).toNat]? = some l) :
  XO n op num ts=if 0<=Ux n.decls l x.res/\ts=x.pms.take ((x.pms.length:Int)-1).toNat then some (Ux n.decls l x.res) else none:=by
 obtain ⟨r,h1,rfl⟩:=GU hx
 have ha:Xy n.routines num=some r:=Ql (by simp at hr;omega) h1
 simp only [W5] at hp hl ⊢
 have hq:((r.params.length:Int)-1).toNat=r.params.length-1:=by omega
 have ht:r.params.take ((r.params.length:Int)-1).toNat=r.params.take (r.params.length-1):=Yp (fun k=>r.params.take k) hq
 have hl':r.params[r.params.length-1]? = some l:=by rw [<-hl];exact Yp (fun k=>r.params[k]?) hq.symm
 have hlast:J0 n.decls r.params r.result=Ux n.decls l r.result:=by rw [J0,P0 hl']
 unfold XO
 rw [Z8 om,Z8 om,Z8 om,Z8 om,Z8 om,Z8 om,Zd h,ha]
 simp only [hlast]
 by_cases hc:0<=Ux n.decls l r.result/\ts=r.params.take (r.params.length-1)
 ·rw [Zd ⟨by omega,hc⟩]
  exact (Zd ⟨hc.1,hc.2.trans ht.symm⟩).symm
 ·rw [Z8 fun q=>hc q.2]
  exact (Z8 (fun q=>hc ⟨q.1,q.2.trans ht⟩)).symm
theorem sfd (h0:¬op=0) (h1:¬(op=1∨op=2∨op=3∨op=4)) (h5:¬op=5) (h11:¬op=11) (h6:¬op=6) (h9:¬(op=9∨op=10)):XO n op num ts=none:=by
 unfold XO;rw [Z8 h0,Z8 h1,Z8 h5,Z8 h11,Z8 h6,Z8 om,Z8 om]
end
end Go.Abs
end
namespace Go.Abs
mutual
def Z4.rng:Z4->Prop
 | .mk _ num _ _ kids=>(-9223372036854775808<=num/\num<=9223372036854775807)/\K0 kids
def Z6.rng:Z6->Prop
 | .mk steps _=>UQ steps
def UQ:List Z4->Prop
 | []=>True
 | s::r=>s.rng/\UQ r
def K0:List Z6->Prop
 | []=>True
 | b::r=>b.rng/\K0 r
end
theorem Z4.rng_eq (s:Z4):s.rng=((-9223372036854775808<=s.num/\s.num<=9223372036854775807)/\K0 s.kids):=by cases s;rw [Z4.rng];rfl
theorem Z6.rng_eq (b:Z6):b.rng=UQ b.steps:=by cases b;rw [Z6.rng];rfl
theorem Mo:∀{xs:List Z4} {k:Nat} {s:Z4},UQ xs->xs[k]? = some s->s.rng
 | [],k,s,_,h=>by simp at h
 | x::r,0,s,hr,h=>by rw [UQ] at hr;simp at h;subst h;exact hr.1
 | x::r,k+1,s,hr,h=>by rw [UQ] at hr;exact Mo (k:=k) hr.2 (by simpa using h)
theorem Fa:∀{xs:List Z6} {k:Nat} {b:Z6},K0 xs->xs[k]? = some b->b.rng
 | [],k,s,_,h=>by simp at h
 | x::r,0,s,hr,h=>by rw [K0] at hr;simp at h;subst h;exact hr.1
 | x::r,k+1,s,hr,h=>by rw [K0] at hr;exact Fa (k:=k) hr.2 (by simpa using h)
theorem MA {us:LI}:∀{args:LI},Wt us args=none->∀tys,Wj us args tys=false
 | [],h,tys=>by rw [Wt] at h;cases h
 | a::r,h,tys=>by
  cases tys with
  | nil=>simp [Wj,Ti]
  | cons t ts=>
   rw [Wt] at h
   rw [Wj,Ti]
   cases ha:Xy us a with
   | none=>simp
   | some u=>
    rw [ha] at h
    cases hr:Wt us r with
    | none=>
     have:=MA hr ts
     rw [Wj] at this
     by_cases he:u=t
     ·subst he;simpa using this
     ·rw [Z8 (fun q=>he (Qh q))]
    | some tr=>rw [hr] at h;cases h
theorem Zh0 {n:Zi} {us:LI} {s:Z4} (h:Wt us s.args=none):Yc n us s=-1:=by
 have ht:=MA h
 rw [AJ]
 split
 ·rfl
 split
 ·rw [Z8];rintro ⟨q,_⟩
  have:s.args=[]:=List.length_eq_zero_iff.1 q
  rw [this,Wt] at h;cases h
 split
 ·rw [Z8 (by rw [ht];simp)]
 split
 ·rw [Z8 (by rw [ht];simp)]
 split
 ·rw [Z8 (by rw [ht];simp)]
 split
 ·rw [Z8 (by rw [ht];simp)]
 split
 ·rw [Z8 (by rw [ht];simp)]
 split
 ·rw [Uv]
  cases Xy n.routines s.num with
  | none=>rfl
  | some r=>
   simp only
   rw [KL]
   split
   ·rw [Z8 (by rw [ht];simp)]
   ·rw [Zd (.inr (.inr (by rw [ht];simp)))]
 split
 ·match hA:s.args with
  | []=>rfl
  | [_]=>rfl
  | [a,b]=>
   rw [QY]
   rw [hA,Wt] at h
   cases ha:Xy us a with
   | none=>rfl
   | some t=>
    rw [ha] at h
    simp only at h ⊢
    split
    ·cases n.decls[(t-1).toNat]? with
     | none=>rfl
     | some d=>
      simp only
      rw [Z8]
      cases hb:Wt us [b] with
      | none=>rw [MA hb];simp
      | some tr=>rw [hb] at h;cases h
    ·rfl
  | _::_::_::_=>rfl
 split
 ·match hA:s.args with
  | []=>rfl
  | [a]=>
   rw [QC]
   rw [hA,Wt] at h
   cases ha:Xy us a with
   | none=>rfl
   | some t=>rw [ha,Wt] at h;cases h
  | _::_::_=>rfl
 ·rfl
theorem N4 {us:LI} {a:Int}:∀{xs:LI} {k:Nat},xs[k]? = some a->Xy us a=none->Wt us xs=none
 | [],k,h,_=>by simp at h
 | x::r,0,h,ha=>by simp at h;subst h;rw [Wt,ha]
 | x::r,k+1,h,ha=>by
  have:=N4 (xs:=r) (k:=k) (by simpa using h) ha
  rw [Wt]
  cases Xy us x with
  | none=>rfl
  | some t=>simp only [this]
theorem Zba {n:Zi} {us:LI} {ks:List Z6} {ms:List LI} (h:0<ks.length) (t:Int) :
  Wy n us (ks.drop 0) (ms.drop 0) (decide (0=0)) t=Wy n us ks ms true 0:=by
 cases ks with
 | nil=>simp at h
 | cons b bs=>
  cases ms with
  | nil=>rw [TZ,TZ,Wy,Wy]
  | cons m r=>
   simp only [TZ,decide_true]
   rw [Wy,Wy];simp
theorem Nx {b:Z6}:∀{ks:List Z6} {k:Nat},ks[k]? = some b->b.sz<=Xc ks
 | [],k,h=>by simp at h
 | x::r,0,h=>by simp at h;subst h;rw [Xc];omega
 | x::r,k+1,h=>by have:=Nx (ks:=r) (k:=k) (by simpa using h);rw [Xc];omega
theorem EM (us m:LI):[us,m].flatten=us++m:=by simp
theorem OG {xs:LI} {i:Int} (h:i.toNat<xs.length):xs[i.toNat]? = some (gI xs i):=by rw [gI,QU h];rfl
theorem FK {xs:LI} (h:0<xs.length):xs[0]? = some (gI xs 0):=OG (i:=0) h
def UC (n:Zi) (num:Int):Vo:=((n.routines.map W5)[num.toNat]?).getD ⟨[],[],0⟩
theorem SG {n:Zi} {i:Int} (h:i.toNat<(n.routines.map W5).length):(n.routines.map W5)[i.toNat]? = some (UC n i):=by rw [UC,QU h];rfl
theorem Ei {us m:LI} (h1:∀t∈us,0<=t) (h2:∀t∈m,0<=t):∀t∈us++m,0<=t:=fun t h=>(Xd.1 h).elim (h1 t) (h2 t)
theorem B1 {us:LI} {args ts:LI} {k:Nat} (h:Wt us (args.take k)=some ts) (hk:args.length<=k):Wt us args=some ts:=by
 rw [Vt hk] at h;exact h
theorem Z2n {us:LI} {args ts:LI} {k:Nat} {a t:Int} (h:Wt us (args.take k)=some ts) (ha:args[k]? = some a) (ht:Xy us a=some t):Wt us (args.take (k+1))=some (ts++[t]):=by
 rw [Vl ha];exact N6 h ht
theorem Ry {ts:LI} (h:(ts.length:Int)=1):ts=[gI ts 0]:=by
 match ts,h with
 | [a],_=>rfl
section
variable {n:Zi} {us ts:LI} {s:Z4}
theorem Ay {p1 p2 p3 p4 p5:Prop}:(p1/\(p2∨(p3∨(p4∨p5))))↔(p1/\(((p2∨p3)∨p4)∨p5)):=by simp only [or_assoc]
def Fh (n:Zi) (s:Z4) (ts:LI):Int:=match ts with
  | [t]=>if t≠0/\s.num=0/\s.kids.length=0/\¬((s.op=16∨s.op=17)/\W8 n.decls t=true) then 0 else -1
  | _=>-1
theorem BC:Ji n us s ts =
 if YF s.op=true then Fh n s ts
 else if s.op=7 then (if ts=[0]/\s.num=0 then TJ n us s.op s.num s.kids else -1)
 else if s.op=8 then (if ts=[s.num] then TJ n us s.op s.num s.kids else -1)
 else if 0<s.kids.length∨(s.op=10/\0<(((Xy n.routines s.num).map (·.lent)).getD []).length) then -1
 else (XO n s.op s.num ts).getD (-1):=by unfold Ji Fh;rfl
theorem NJ (h:(ts.length:Int)=1):Fh n s ts=if gI ts 0≠0/\s.num=0/\s.kids.length=0/\¬((s.op=16∨s.op=17)/\W8 n.decls (gI ts 0)=true) then 0 else -1:=by
 match ts,h with
 | [a],_=>rfl
theorem Z46 (h:(ts.length:Int)≠1):Fh n s ts=-1:=by
 match ts,h with
 | [],_=>rfl
 | [a],h=>exact absurd rfl h
 | _::_::_,_=>rfl
theorem Zgf (hS:Yc n us s=Ji n us s ts) (hc:YF s.op=true)
  (h:((((ts.length:Int)=1/\gI ts 0≠0)/\s.num=0)/\(s.kids.length:Int)=0)/\(s.op=16∨s.op=17)) :
  (!W8 n.decls (gI ts 0))=decide (0<=Yc n us s):=by
 obtain ⟨⟨⟨⟨h1,h2⟩,h3⟩,h4⟩,h5⟩:=h
 have h4':s.kids.length=0:=by omega
 rw [hS,BC,Zd hc,NJ h1]
 cases hA:W8 n.decls (gI ts 0)
 ·rw [Zd ⟨h2,h3,h4',by simp⟩];rfl
 ·rw [Z8 (fun q=>q.2.2.2 ⟨h5,rfl⟩)];rfl
theorem Zgg (hS:Yc n us s=Ji n us s ts) (hc:YF s.op=true)
  (h:¬(((((ts.length:Int)=1/\gI ts 0≠0)/\s.num=0)/\(s.kids.length:Int)=0)/\(s.op=16∨s.op=17))) :
  ((((((ts.length:Int)==1)&&(gI ts 0 != 0))&&(s.num==0))&&((s.kids.length:Int)==0)))=decide (0<=Yc n us s):=by
 rw [hS,BC,Zd hc]
 by_cases h1:(ts.length:Int)=1
 ·rw [NJ h1]
  by_cases h2:(gI ts 0≠0/\s.num=0)/\(s.kids.length:Int)=0
  ·obtain ⟨⟨h2,h3⟩,h4⟩:=h2
   have h4':s.kids.length=0:=by omega
   rw [Zd ⟨h2,h3,h4',fun q=>h ⟨⟨⟨⟨h1,h2⟩,h3⟩,h4⟩,q.1⟩⟩,Zq.2 h1,Ym.2 h2,Zq.2 h3,Zq.2 h4];rfl
  ·rw [Z8 (fun q=>h2 ⟨⟨q.1,q.2.1⟩,by have:=q.2.2.1;omega⟩)]
   show _=false
   rw [Jo];intro q
   obtain ⟨⟨⟨_,q1⟩,q2⟩,q3⟩:=(YL (YL (YL Zq Ym) Zq) Zq).1 q
   exact h2 ⟨⟨q1,q2⟩,q3⟩
 ·rw [Z46 h1]
  show _=false
  rw [Jo];intro q
  obtain ⟨⟨⟨q1,_⟩,_⟩,_⟩:=(YL (YL (YL Zq Ym) Zq) Zq).1 q
  exact h1 q1
theorem Zgb (hS:Yc n us s=Ji n us s ts) (hc:¬YF s.op=true) (h7:s.op=7)
  (h:(((ts.length:Int)≠1∨gI ts 0≠0)∨s.num≠0)∨(s.kids.length:Int)≠2):Yc n us s=-1:=by
 rw [hS,BC,Z8 hc,Zd h7]
 split
 ·rename_i q
  obtain ⟨q1,q2⟩:=q
  rw [q1] at h
  rw [TJ,Zd]
  right
  rw [Xu,Zd h7]
  have:gI [0] 0=0:=rfl
  simp [this] at h
  show s.kids.length≠2
  omega
 ·rfl
theorem Zgc (hS:Yc n us s=Ji n us s ts) (hc:¬YF s.op=true) (h7:s.op=7)
  (h:¬((((ts.length:Int)≠1∨gI ts 0≠0)∨s.num≠0)∨(s.kids.length:Int)≠2)):Yc n us s=Wy n us s.kids (List.replicate 2 []) true 0:=by
 have h1:(ts.length:Int)=1:=Vy.1 fun q=>h (.inl (.inl (.inl q)))
 have h2:gI ts 0=0:=Vy.1 fun q=>h (.inl (.inl (.inr q)))
 have h3:s.num=0:=Vy.1 fun q=>h (.inl (.inr q))
 have h4:(s.kids.length:Int)=2:=Vy.1 fun q=>h (.inr q)
 rw [hS,BC,Z8 hc,Zd h7,Zd ⟨by rw [Ry h1,h2],h3⟩,TJ,Z8]
 ·rw [Xu,Zd h7];rfl
 ·rw [Xu,Zd h7];simp;omega
theorem Zgd (hS:Yc n us s=Ji n us s ts) (hc:¬YF s.op=true) (h7:¬s.op=7) (h8:s.op=8)
  (h:(ts.length:Int)≠1∨(gI ts 0≠s.num∨(((((ZY n.decls s.num).map (ZV n.decls)).length:Nat):Int)=0∨(s.kids.length:Int)≠((((ZY n.decls s.num).map (ZV n.decls)).length:Nat):Int)))):Yc n us s=-1:=by
 rw [hS,BC,Z8 hc,Z8 h7,Zd h8]
 split
 ·rename_i q
  have hg:gI ts 0=s.num:=by rw [q];rfl
  have hl:(ts.length:Int)=1:=by rw [q];rfl
  rw [TJ,Zd]
  rw [Xu,Z8 h7]
  omega
 ·rfl
theorem Zge (hS:Yc n us s=Ji n us s ts) (hc:¬YF s.op=true) (h7:¬s.op=7) (h8:s.op=8)
  (h:¬((ts.length:Int)≠1∨(gI ts 0≠s.num∨(((((ZY n.decls s.num).map (ZV n.decls)).length:Nat):Int)=0∨(s.kids.length:Int)≠((((ZY n.decls s.num).map (ZV n.decls)).length:Nat):Int))))) :
  Yc n us s=Wy n us s.kids ((ZY n.decls s.num).map (ZV n.decls)) true 0:=by
 have h1:(ts.length:Int)=1:=Vy.1 fun q=>h (.inl q)
 have h2:gI ts 0=s.num:=Vy.1 fun q=>h (.inr (.inl q))
 rw [hS,BC,Z8 hc,Z8 h7,Zd h8,Zd (by rw [Ry h1,h2]),TJ,Z8]
 ·rw [Xu,Z8 h7]
 ·rw [Xu,Z8 h7];omega
theorem Zby {n:Zi} {num:Int}:(((Xy n.routines num).map (·.lent)).getD []).length=if 0<=num/\num<(((n.routines.map W5).length:Nat):Int) then (UC n num).lnt.length else 0:=by
 split
 ·rename_i h
  rw [AP] at h
  obtain ⟨r,hr⟩:=J3 (xs:=n.routines) (j:=num.toNat) om
  rw [Ql om hr,UC,Tl,hr];rfl
 ·rename_i h
  rw [AP] at h
  rw [Kz om];rfl
theorem Z0c:(0<s.kids.length∨(s.op=10/\0<(((Xy n.routines s.num).map (·.lent)).getD []).length)) ↔
  ((s.kids.length:Int)>0∨(s.op=10/\(s.num>=0/\(s.num<(((n.routines.map W5).length:Nat):Int)/\((((UC n s.num).lnt).length:Nat):Int)>0)))):=by
 rw [Zby]
 by_cases hq:0<=s.num/\s.num<(((n.routines.map W5).length:Nat):Int)
 ·rw [Zd hq];omega
 ·rw [Z8 hq];omega
theorem stB (hS:Yc n us s=Ji n us s ts) (hc:¬YF s.op=true) (h7:¬s.op=7) (h8:¬s.op=8)
  (h:((s.kids.length:Int)>0∨(s.op=10/\(s.num>=0/\(s.num<(((n.routines.map W5).length:Nat):Int)/\((((UC n s.num).lnt).length:Nat):Int)>0))))):Yc n us s=-1:=by
 rw [hS,BC,Z8 hc,Z8 h7,Z8 h8,Zd (Z0c.2 h)]
theorem stS (hS:Yc n us s=Ji n us s ts) (hc:¬YF s.op=true) (h7:¬s.op=7) (h8:¬s.op=8)
  (h:¬((s.kids.length:Int)>0∨(s.op=10/\(s.num>=0/\(s.num<(((n.routines.map W5).length:Nat):Int)/\((((UC n s.num).lnt).length:Nat):Int)>0))))):Yc n us s=(XO n s.op s.num ts).getD (-1):=by
 rw [hS,BC,Z8 hc,Z8 h7,Z8 h8,Z8 (fun q=>h (Z0c.1 q))]
theorem Zgh (hty:Kv n) (h:Yc n us s=(XO n s.op s.num ts).getD (-1)):(XO n s.op s.num ts).isSome=decide (0<=Yc n us s):=by
 rw [h]
 cases hs:XO n s.op s.num ts with
 | none=>rfl
 | some x=>have:=Zey hty hs;simp [this]
theorem Zgi {t:Int} (h:Yc n us s=(XO n s.op s.num ts).getD (-1)) (hp:∀x,XO n s.op s.num ts=some x->t=x):¬YF s.op=true->0<=Yc n us s->t=Yc n us s:=by
 intro _ h0
 rw [h] at h0 ⊢
 cases hs:XO n s.op s.num ts with
 | none=>rw [hs] at h0;exact absurd h0 (by decide)
 | some x=>exact hp x hs
end
theorem Zgz {n:Zi} {us:LI} {s:Z4} (h:0<=Yc n us s):(0<=s.op/\s.op<=11)∨(14<=s.op/\s.op<=17):=by
 rw [AJ] at h
 by_cases hq:(0<=s.op/\s.op<=11)∨(14<=s.op/\s.op<=17)
 ·exact hq
 ·exfalso
  split at h
  ·omega
  rw [Z8 om,Z8 om,Z8 om,Z8 om,Z8 om,Z8 om,Z8 om,Z8 om,Z8 om] at h
  omega
theorem Fs {n:Zi} {us:LI} {s:Z4} (h:0<=Yc n us s):XR s.op=!YF s.op:=by
 have:=Zgz h
 rw [XR,YF,Xx];simp;omega
theorem Zh3 {n:Zi} {xs:List Z4} {vs:LI} {k:Nat} {s:Z4} {t:Int} {r:Option LI} (hs:xs[k]? = some s) (h:0<=Yc n vs s) (ht:¬YF s.op=true->0<=Yc n vs s->t=Yc n vs s)
  (hr:XC n (xs.drop k) vs=r):XC n (xs.drop (k+1)) (if YF s.op=true then vs else vs++[t])=r:=by
 rw [Y9 hs,XC,Z8 om] at hr
 rw [<-hr,Fs h]
 by_cases hc:YF s.op=true
 ·rw [Zd hc,hc];rfl
 ·rw [Z8 hc,Zd (by simpa using hc),ht hc h]
theorem Zh4 {n:Zi} {xs:List Z4} {vs:LI} {k:Nat} {s:Z4} {r:Option LI} (hs:xs[k]? = some s) (h:¬0<=Yc n vs s) (hr:XC n (xs.drop k) vs=r):r=none:=by
 rw [Y9 hs,XC,Zd om] at hr;exact hr.symm
theorem Zc5 {c:Prop} [Decidable c] {vs:LI} {t:Int} (h:∀x∈vs,0<=x) (ht:¬c->0<=t):∀x∈(if c then vs else vs++[t]),0<=x:=by
 split
 ·exact h
 ·rename_i hc
  exact Ei h (fun x hx=>by rw [XI.1 hx];exact ht hc)
theorem N0 {m:Nat} {xs:LI} (h:Ws m xs=true):∀x∈xs,0<=x/\x<=m:=by
 rw [Ws,JJ] at h
 exact fun x hx=>of_decide_eq_true (h x hx)
theorem Ly {n:Zi} (h:U3 n=true):Kv n:=by
 simp only [U3,Ks,W6,decide_eq_true_eq] at h
 obtain ⟨h1,⟨h2,h3,h4,h5⟩,h6⟩:=h
 have hs:∀r∈n.routines,Ws n.decls.length r.params=true/\0<=r.result:=fun r hr=>by
  have:=Mf h4 (UO r) (Wf.2 ⟨r,hr,rfl⟩)
  simp only [Jd,W6,decide_eq_true_eq] at this
  exact ⟨this.2.1,this.2.2.1⟩
 simp only [V5,W6,decide_eq_true_eq] at h2
 obtain ⟨h2a,h2b⟩:=h2
 rw [I6] at h2b
 have key:∀(i:Nat) (d:Zf),n.decls[i]? = some d->UU n.decls d i=true:=fun i d hi=>by
  have:=h2b i (Xq.1 hi).1
  rwa [Vu,DQ hi] at this
 refine ⟨fun r hr=>(hs r hr).2,fun r hr p hp=>(N0 (hs r hr).1 p hp).1,fun d hd h0=>?_,fun c f hf=>?_⟩
 ·obtain ⟨i,hi⟩:=List.mem_iff_getElem?.1 hd
  have:=key i d hi
  rw [UU,Z8 om] at this
  split at this
  ·cases this
  ·simp only [W6,decide_eq_true_eq] at this;omega
 ·by_cases hc:Wm n.decls c<1
  ·rw [(Fj hc).1] at hf;cases hf
  ·obtain ⟨k,d,x,q1,q2,q3,q4,q5⟩:=HX hc
   rw [q5] at hf
   have:=key k d q1
   have hp:0<d.cons.length:=by have:=(Xq.1 q3).1;omega
   rw [UU,Zd hp] at this
   split at this
   ·have:=NQ.1 this x (ZW q3)
    simp only [Ju,W6] at this
    exact (N0 this.2 f hf).1
   ·cases this
end Go.Abs
section
namespace Go.Abs
structure Xj where
 mat:Int
 fst:Int
 fds:LI
 chg:Bool
abbrev PU (a:Xj):List AV:=[.i a.mat,.i a.fst,Z5 a.fds,.b a.chg]
abbrev MQ (a:Xj):AV:=.agg (PU a)
def WV (xs:List Xj):List AV:=xs.map MQ
abbrev Xi (xs:List Xj):AV:=.sl (WV xs) none
abbrev LA (xs:List Xj) (v:Value):AV:=.sl (WV xs) (some v)
theorem Z5w {xs:List Xj} {j:Nat} {x:Xj} (h:xs[j]? = some x):(WV xs)[j]? = some (MQ x):=by simp [WV,h]
@[simp] theorem Z5x (xs:List Xj):(WV xs).length=xs.length:=by simp [WV]
theorem O8 (xs ys:List Xj):WV (xs++ys)=WV xs++WV ys:=by simp [WV]
theorem CD (xs:List Xj):∀y∈WV xs,y.leaves.length=4:=by intro y hy;simp only [WV,Wf] at hy;obtain ⟨x,_,rfl⟩:=hy;rfl
theorem I9 (xs:List Xj):(Zp (WV xs)).all AV.one=true:=JA fun y hy=>by simp only [WV,Wf] at hy;obtain ⟨x,_,rfl⟩:=hy;rfl
theorem Z5y {xs:List Xj} (h:WV xs=[]):xs=[]:=by cases xs with|nil=>rfl|cons x r=>cases h
abbrev Ve:=Zh
def Ua:LI->Int->LI
 | [],_=>[]
 | t::r,p=>if t≠0 then p::Ua r (p+1) else Ua r (p+1)
theorem Z95 {xs:LI} {k:Nat} {t p:Int} {acc r:LI} (h:xs[k]? = some t) (ha:acc++Ua (xs.drop k) (p+k)=r) :
  (if t≠0 then acc++[p+k] else acc)++Ua (xs.drop (k+1)) (p+((k+1:Nat):Int))=r:=by
 rw [Y9 h,Ua] at ha
 rw [show p+((k+1:Nat):Int)=p+k+1 by omega]
 split
 ·rename_i q;rw [Zd q] at ha;rw [Qg];exact ha
 ·rename_i q;rw [Z8 q] at ha;exact ha
theorem Z94 {xs:LI} {k:Nat} {p:Int} {acc r:LI} (h:xs.length<=k) (ha:acc++Ua (xs.drop k) (p+k)=r):acc=r:=by
 rw [Xn h,Ua,Jp] at ha;exact ha
theorem IS:∀(xs:LI) (p:Int) (own:LI),U7 own p xs=(Ua xs p).foldl (fun o f=>o.set f.toNat (gI o f+1)) own
 | [],_,_=>rfl
 | t::r,p,own=>by
  rw [U7,Ua]
  split
  ·rw [List.foldl_cons];exact IS r _ _
  ·exact IS r _ _
theorem IT:∀{xs:LI} {p f:Int},f∈Ua xs p->p<=f/\f<p+xs.length
 | [],_,_,h=>by simp [Ua] at h
 | t::r,p,f,h=>by
  rw [Ua] at h
  split at h
  ·rcases YD.1 h with rfl|h
   ·simp only [YT];omega
   ·have:=IT h;simp only [YT];omega
  ·have:=IT h;simp only [YT];omega
theorem P6:∀(xs:LI) (p:Int),(Ua xs p).length<=xs.length
 | [],_=>by simp [Ua]
 | t::r,p=>by
  have:=P6 r (p+1)
  rw [Ua];split<;>simp<;>omega
def UL:List Xj->Int->Option Xj
 | [],_=>none
 | a::r,v=>match UL r v with
  | some x=>some x
  | none=>if a.mat=v then some a else none
theorem Rx {a:Xj}:∀{as1:List Xj} {v:Int},UL (as1++[a]) v=if a.mat=v then some a else UL as1 v
 | [],v=>rfl
 | x::r,v=>by
  rw [QT,UL,Rx]
  by_cases h:a.mat=v
  ·rw [Zd h,Zd h]
  ·rw [Z8 h,Z8 h];rfl
theorem En {v:Int}:∀{as1:List Xj},(∀a∈as1,a.mat≠v)->UL as1 v=none
 | [],_=>rfl
 | x::r,h=>by rw [UL,En (fun a ha=>h a (XL _ ha))];exact Z8 (h x (Xs ..))
theorem Rw {v:Int} {a:Xj}:∀{as1:List Xj},UL as1 v=some a->a∈as1/\a.mat=v
 | [],h=>by cases h
 | x::r,h=>by
  rw [UL] at h
  cases hr:UL r v with
  | some y=>rw [hr] at h;cases h;have:=Rw hr;exact ⟨XL _ this.1,this.2⟩
  | none=>
   rw [hr] at h
   simp only at h
   split at h
   ·cases h;exact ⟨Xs ..,by assumption⟩
   ·cases h
structure V0 (ds:List Zf) (L:Zh) (as1:List Xj):Prop where
 rng:∀a∈as1,0<=a.mat/\a.mat<a.fst/\a.fst+a.fds.length<=L.vars.length
 par:∀a∈as1,∀v:Int,a.fst<=v->v<a.fst+a.fds.length->gI L.par v=a.mat
 non:∀v:Int,0<=v->v<L.vars.length->0<=gI L.par v->∃a∈as1,a.fst<=v/\v<a.fst+a.fds.length
 off:∀v:Int,0<=v->v<L.vars.length->match UL as1 v with
  | none=>gI L.con v<0
  | some a=>0<=gI L.con v/\a.fst=gI L.fst v/\a.fds=ZV ds (gI L.con v)
theorem V0.same {ds:List Zf} {L M:Zh} {as1:List Xj} (h:V0 ds L as1) (h1:M.vars.length=L.vars.length) (h2:M.par=L.par) (h3:M.con=L.con) (h4:M.fst=L.fst):V0 ds M as1:=by
 refine ⟨?_,?_,?_,?_⟩
 ·rw [h1];exact h.rng
 ·rw [h2];exact h.par
 ·rw [h1,h2];exact h.non
 ·rw [h1,h3,h4];exact h.off
theorem V0.grow {ds:List Zf} {L:Zh} {as1:List Xj} {t o:Int} (h:V0 ds L as1) (hl:Wq L):V0 ds (L.grow t o (-1)) as1:=by
 obtain ⟨e1,e2,e3,e4,e5⟩:=hl
 have key:∀{xs:LI} {y v:Int},xs.length=L.vars.length->0<=v->v<L.vars.length->gI (xs++[y]) v=gI xs v:=fun hx h0 h1=>Bd om
 have kend:∀{xs:LI} {y v:Int},xs.length=L.vars.length->v=(L.vars.length:Int)->gI (xs++[y]) v=y:=fun hx h1=>IE om
 have hlen:(L.grow t o (-1)).vars.length=L.vars.length+1:=by simp [Zh.grow]
 refine ⟨fun a ha=>?_,fun a ha v h1 h2=>?_,fun v h0 h1 h2=>?_,fun v h0 h1=>?_⟩
 ·have:=h.rng a ha;omega
 ·have:=h.rng a ha
  show gI (L.par++[-1]) v=a.mat
  rw [key e2 om om];exact h.par a ha v h1 h2
 ·have h2':0<=gI (L.par++[-1]) v:=h2
  by_cases hv:v<L.vars.length
  ·rw [key e2 h0 hv] at h2';exact h.non v h0 hv h2'
  ·rw [kend e2 om] at h2';omega
 ·show match UL as1 v with
   | none=>gI (L.con++[-1]) v<0
   | some a=>0<=gI (L.con++[-1]) v/\a.fst=gI (L.fst++[-1]) v/\a.fds=ZV ds (gI (L.con++[-1]) v)
  by_cases hv:v<L.vars.length
  ·rw [key e3 h0 hv,key e4 h0 hv];exact h.off v h0 hv
  ·rw [En (fun a ha=>by have:=h.rng a ha;omega)]
   show gI (L.con++[-1]) v<0
   rw [kend e3 om];omega
theorem V0.arm {ds:List Zf} {L:Zh} {as1:List Xj} {x c:Int} (h:V0 ds L as1) (hl:Wq L) (hx:0<=x/\x<L.vars.length) (hc:0<=c) :
  V0 ds (JP ds L x c) (as1++[⟨x,(L.vars.length:Nat),ZV ds c,false⟩]):=by
 obtain ⟨e1,e2,e3,e4,e5⟩:=hl
 rw [JP,IN]
 have hnew:∀{xs:LI} {y v:Int},xs.length=L.vars.length->(L.vars.length:Int)<=v->v<L.vars.length+(ZV ds c).length->gI (xs++List.replicate (ZV ds c).length y) v=y:=fun hx h0 h1=>IH om
 have Q9:∀{xs:LI} {y v:Int},xs.length=L.vars.length->0<=v->v<L.vars.length->gI (xs++List.replicate (ZV ds c).length y) v=gI xs v:=fun hx h0 h1=>Bd om
 refine ⟨fun a ha=>?_,fun a ha v h1 h2=>?_,fun v h0 h1 h2=>?_,fun v h0 h1=>?_⟩
 ·simp only [Yt]
  rcases Xd.1 ha with ha|ha
  ·have:=h.rng a ha;omega
  ·rw [XI.1 ha]
   show 0<=x/\x<(L.vars.length:Nat)/\(L.vars.length:Int)+((ZV ds c).length:Nat)<=_
   omega
 ·show gI (L.par++List.replicate _ x) v=a.mat
  rcases Xd.1 ha with ha|ha
  ·have:=h.rng a ha
   rw [Q9 e2 om om];exact h.par a ha v h1 h2
  ·rw [XI.1 ha] at h1 h2 ⊢
   exact hnew e2 h1 h2
 ·simp only [Yt] at h1
  have h2':0<=gI (L.par++List.replicate (ZV ds c).length x) v:=h2
  by_cases hv:v<L.vars.length
  ·rw [Q9 e2 h0 hv] at h2'
   obtain ⟨a,ha,q⟩:=h.non v h0 hv h2'
   exact ⟨a,List.mem_append_left _ ha,q⟩
  ·exact ⟨_,List.mem_append_right _ (XI.2 rfl),by show (L.vars.length:Int)<=v;omega,by show v<(L.vars.length:Int)+(ZV ds c).length;omega⟩
 ·simp only [Yt] at h1
  show match UL (as1++[⟨x,(L.vars.length:Nat),ZV ds c,false⟩]) v with
   | none=>gI (L.con.set x.toNat c++List.replicate (ZV ds c).length (-1)) v<0
   | some a=>0<=gI (L.con.set x.toNat c++List.replicate (ZV ds c).length (-1)) v/\a.fst=gI (L.fst.set x.toNat L.vars.length++List.replicate (ZV ds c).length (-1)) v /\
     a.fds=ZV ds (gI (L.con.set x.toNat c++List.replicate (ZV ds c).length (-1)) v)
  rw [Rx]
  by_cases hv:v<L.vars.length
  ·rw [Q9 (by simp [e3]) h0 hv,Q9 (by simp [e4]) h0 hv]
   by_cases he:x=v
   ·rw [Zd he]
    show 0<=gI (L.con.set x.toNat c) v/\(L.vars.length:Int)=gI (L.fst.set x.toNat L.vars.length) v/\ZV ds c=ZV ds (gI (L.con.set x.toNat c) v)
    rw [FL om om,FL om om]
    exact ⟨hc,rfl,rfl⟩
   ·rw [Z8 he,FM om,FM om];exact h.off v h0 hv
  ·rw [hnew (by simp [e3]) om om]
   rw [Z8 (by show ¬x=v;omega),En (fun a ha=>by have:=h.rng a ha;omega)]
   show (-1:Int)<0
   omega
theorem Z28 {L:Zh} {ln:LI} {v:Int} {p:Int} (hv:0<=v/\v<L.vars.length) (hd:∀i:Int,0<=i->i<L.vars.length->gI L.par i<i) (h:¬(gI L.own v>0∨v∈ln)) (hp:gI L.par v=p) (h0:0<=p):XM L ln v=XM L ln p:=
 (MY (N:=L.vars.length) rfl hp hv ⟨by omega,fun q=>h (.inr q)⟩ om hd rfl).symm
theorem Z27 {L:Zh} {ln:LI} {v:Int} (h:¬(gI L.own v>0∨v∈ln)) (hp:gI L.par v<0):XM L ln v=false:=
 (MX rfl rfl ⟨by omega,fun q=>h (.inr q)⟩ hp rfl).symm
theorem Z29 {L:Zh} {ln:LI} {v:Int} (h:gI L.own v>0∨v∈ln):XM L ln v=true:=
 (MZ rfl (fun q=>h.elim (fun z=>by omega) q.2) rfl).symm
end Go.Abs
namespace Go.Abs
def XP (L:Zh) (v:Int):Zh:={ L with own:=L.own.set v.toNat (gI L.own v-1) }
theorem AK {L:Zh} {v:Int}:Vs L v=if 1<=gI L.own v then some (XP L v) else none:=by
 rw [Vs]
 by_cases h:gI L.own v<1
 ·rw [Zd h,Z8 om]
 ·rw [Z8 h,Zd om];rfl
end Go.Abs
namespace Go.Abs
def Wi (L:Zh) (r:Int):Zh:=if gI L.vars r≠0 then XP L r else L
theorem Oi {L:Zh} {m:Nat} {r:Int} (ho:gI L.vars r≠0->1<=gI L.own r) (hz:WQ ((Wi L r).own.drop m) ((Wi L r).tok.drop m)=true):U0 m r L=some ((Wi L r).take m):=by
 rw [U0]
 by_cases h:gI L.vars r≠0
 ·rw [Zd h,AK,Zd (ho h)]
  have e:Wi L r=XP L r:=Zd h
  rw [e] at hz ⊢
  exact Zd hz
 ·rw [Z8 h]
  have e:Wi L r=L:=Z8 h
  rw [e] at hz ⊢
  exact Zd hz
theorem Z6f {L:Zh} {m:Nat} {r:Int} (h:gI L.vars r≠0) (ho:¬1<=gI L.own r):U0 m r L=none:=by
 rw [U0,Zd h,AK,Z8 ho];rfl
theorem FA {L:Zh} {m:Nat} {r:Int} (hz:WQ ((Wi L r).own.drop m) ((Wi L r).tok.drop m)=false):U0 m r L=none:=by
 rw [U0]
 by_cases h:gI L.vars r≠0
 ·rw [Zd h,AK]
  have e:Wi L r=XP L r:=Zd h
  rw [e] at hz
  split
  ·exact Z8 (by rw [hz];simp)
  ·rfl
 ·rw [Z8 h]
  have e:Wi L r=L:=Z8 h
  rw [e] at hz
  exact Z8 (by rw [hz];simp)
theorem Hh {os ts:LI} {k:Nat} {o t:Int} {r:Bool} (h1:os[k]? = some o) (h2:ts[k]? = some t) (h:o≠0∨0<=t) (hr:WQ (os.drop k) (ts.drop k)=r):r=false:=by
 rw [Y9 h1,Y9 h2,WQ,Zd h] at hr;exact hr.symm
theorem Hk {os ts:LI} {k:Nat} {o t:Int} {r:Bool} (h1:os[k]? = some o) (h2:ts[k]? = some t) (h:¬(o≠0∨0<=t)) (hr:WQ (os.drop k) (ts.drop k)=r):WQ (os.drop (k+1)) (ts.drop (k+1))=r:=by
 rw [Y9 h1,Y9 h2,WQ,Z8 h] at hr;exact hr
theorem Z1m {os ts:LI} {k:Nat} {r:Bool} (h1:os.length<=k) (hr:WQ (os.drop k) (ts.drop k)=r):r=true:=by
 rw [Xn h1] at hr;rw [<-hr];simp [WQ]
end Go.Abs
namespace Go.Abs
def Cw (o:LI) (fs:LI):LI:=fs.foldl (fun o f=>o.set f.toNat (gI o f+1)) o
theorem Z3l {p:Int} {xs own:LI}:Cw own (Ua xs p)=U7 own p xs:=(IS xs p own).symm
theorem Z3m {fs o r:LI} {k:Nat} {f x:Int} (h:fs[k]? = some f) (hx:gI o f=x) (hr:Cw o (fs.drop k)=r):Cw (o.set f.toNat (x+1)) (fs.drop (k+1))=r:=by
 rw [Y9 h,Cw,List.foldl_cons,hx] at hr;exact hr
theorem NA {fs o r:LI} {k:Nat} (h:fs.length<=k) (hr:Cw o (fs.drop k)=r):o=r:=by
 rw [Xn h] at hr;exact hr
def K4 (n:Zi) (ln:LI) (L:Zh) (op v:Int):Option Zh:=if op=14 then K6 L ln v else if op=15 then Vs L v else TM n.decls L op v
section
variable {n:Zi} {ln:LI} {L:Zh} {op v:Int} {am:List Xj} {a:Xj}
theorem Z47 (h:op=14) (ha:¬XM L ln v=true):K4 n ln L op v=none:=by rw [K4,Zd h,K6,Z8 ha]
theorem Z48 (h:op=14) (ha:XM L ln v=true) {x:Int} (hx:gI L.own v=x):K4 n ln L op v=some { L with own:=L.own.set v.toNat (x+1) }:=by rw [K4,Zd h,K6,Zd ha,hx]
theorem Z4b (h:op=15) (ht:1<=gI L.own v):K4 n ln L op v=some (XP L v):=by rw [K4,Z8 om,Zd h,AK,Zd ht]
theorem Z4a (h:op=15) (ht:¬1<=gI L.own v):K4 n ln L op v=none:=by rw [K4,Z8 om,Zd h,AK,Z8 ht]
theorem NK (h1:¬op=14) (h2:¬op=15):K4 n ln L op v=TM n.decls L op v:=by rw [K4,Z8 h1,Z8 h2]
theorem Zcs {ds:List Zf} (har:V0 ds L am) (hv:0<=v/\v<L.vars.length) (ho:UL am v=none):TM ds L op v=none:=by
 have:=har.off v hv.1 hv.2
 rw [ho] at this
 rw [TM,Zd (.inl this)]
theorem Zcr {ds:List Zf} (har:V0 ds L am) (hv:0<=v/\v<L.vars.length) (ho:UL am v=some a) {xt:Int} (hxt:gI L.tok v=xt):TM ds L op v=if ¬1<=gI L.own v∨(op=17/\xt>=0) then none else
  some { XP L v with own:=U7 (XP L v).own a.fst a.fds,tok:=if op=17 then L.tok.set v.toNat a.fds.length else L.tok }:=by
 have:=har.off v hv.1 hv.2
 rw [ho] at this
 obtain ⟨h1,h2,h3⟩:=this
 have hcon:¬gI L.con v<0:=by omega
 rw [TM,AK,hxt,<-h2,<-h3]
 by_cases ht:1<=gI L.own v
 ·rw [Zd ht]
  by_cases h17:op=17/\xt>=0
  ·have c1:gI L.con v<0∨(op=17/\0<=xt):=.inr h17
   have c2:¬1<=gI L.own v∨(op=17/\xt>=0):=.inr h17
   rw [Zd c1,Zd c2]
  ·have c1:¬(gI L.con v<0∨(op=17/\0<=xt)):=fun q=>q.elim hcon h17
   have c2:¬(¬1<=gI L.own v∨(op=17/\xt>=0)):=fun q=>q.elim (fun z=>z ht) h17
   rw [Z8 c1,Z8 c2]
 ·rw [Z8 ht]
  have c2:¬1<=gI L.own v∨(op=17/\xt>=0):=.inl ht
  rw [Zd c2]
  split<;>rfl
end
end Go.Abs
namespace Go.Abs
theorem Z5k {ds:List Zf} {L:Zh} {q v:Int} (hk:Xb ds L q) (h1:1<=gI L.own v) (hv:0<=v/\v<L.vars.length):∀y∈(XP L v).own,0<=y/\y<=q:=by
 intro y hy
 rcases Jb hy with hy|rfl
 ·exact ⟨hk.nn y hy,hk.bd y hy⟩
 ·obtain ⟨x,hx⟩:=J3 (xs:=L.own) (j:=v.toNat) (by have:=hk.len.own;omega)
  have hg:=VH hx
  have:=hk.bd x (ZW hx)
  omega
end Go.Abs
end
section
namespace Go.Abs
def Va (n:Zi) (us:LI) (op num:Int):LI->Nat->LI
 | [],_=>[]
 | a::r,i=>if UI n us op num a i=true then (i:Int)::Va n us op num r (i+1) else Va n us op num r (i+1)
section
variable {n:Zi} {us:LI} {op num:Int}
theorem Zd6 {args acc r:LI} {k:Nat} {a:Int} (h:args[k]? = some a) (hc:UI n us op num a k=true) (hr:acc++Va n us op num (args.drop k) k=r) :
  (acc++[(k:Int)])++Va n us op num (args.drop (k+1)) (k+1)=r:=by
 rw [Y9 h,Va,Zd hc] at hr;rw [Qg];exact hr
theorem RR {args acc r:LI} {k:Nat} {a:Int} (h:args[k]? = some a) (hc:¬UI n us op num a k=true) (hr:acc++Va n us op num (args.drop k) k=r) :
  acc++Va n us op num (args.drop (k+1)) (k+1)=r:=by
 rw [Y9 h,Va,Z8 hc] at hr;exact hr
theorem Zd5 {args acc r:LI} {k:Nat} (h:args.length<=k) (hr:acc++Va n us op num (args.drop k) k=r):acc=r:=by
 rw [Xn h,Va,Jp] at hr;exact hr
theorem LN (h:¬T6 op=true):∀(args:LI) (i:Nat),Va n us op num args i=[]
 | [],_=>rfl
 | a::r,i=>by
  have hb:T6 op=false:=by simpa using h
  rw [Va,Z8 (by rw [UI,hb];simp)];exact LN h r (i+1)
theorem LM:∀{args:LI} {i:Nat} {p:Int},p∈Va n us op num args i->(i:Int)<=p/\p<i+args.length
 | [],_,_,h=>by simp [Va] at h
 | a::r,i,p,h=>by
  rw [Va] at h
  simp only [YT]
  split at h
  ·rcases YD.1 h with rfl|h
   ·omega
   ·have:=LM h;omega
  ·have:=LM h;omega
theorem RQ:∀(args:LI) (i:Nat),(Va n us op num args i).length<=args.length
 | [],_=>by simp [Va]
 | a::r,i=>by
  have:=RQ r (i+1)
  rw [Va];split<;>simp<;>omega
theorem Rc (h:¬T6 op=true) (i:Nat):¬WH n op num i=true:=by
 have:op≠9:=fun q=>h (by rw [q];rfl)
 rw [WH,J8,Z8 this];simp
def AU (n:Zi) (op num:Int) (args:LI) (k:Nat) (ls:LI):Prop:=∀x,x∈ls↔∃i,i<k/\args[i]? = some x/\WH n op num i=true
theorem Ra {args ls:LI} {k:Nat} (h:AU n op num args k ls) (hl:¬WH n op num k=true):AU n op num args (k+1) ls:=by
 intro x;rw [h x]
 constructor
 ·rintro ⟨i,q1,q2⟩;exact ⟨i,by omega,q2⟩
 ·rintro ⟨i,q1,q2,q3⟩
  rcases BL i k with q|q
  ·exact ⟨i,q,q2,q3⟩
  ·have:i=k:=by omega
   subst this;exact absurd q3 hl
theorem Zbr {args ls ls2:LI} {k:Nat} {a:Int} (ha:args[k]? = some a) (h:AU n op num args k ls) (hl:WH n op num k=true) (h2:∀x,x∈ls2↔x∈ls∨x=a):AU n op num args (k+1) ls2:=by
 intro x;rw [h2 x,h x]
 constructor
 ·rintro (⟨i,q1,q2⟩|rfl)
  ·exact ⟨i,by omega,q2⟩
  ·exact ⟨k,by omega,ha,hl⟩
 ·rintro ⟨i,q1,q2,q3⟩
  rcases BL i k with q|q
  ·exact .inl ⟨i,q,q2,q3⟩
  ·have:i=k:=by omega
   subst this;rw [ha] at q2;exact .inr (Qh q2).symm
theorem Zbt {args:LI}:AU n op num args 0 []:=by intro x;simp
theorem Zbs {args ls:LI} {k:Nat} (h:AU n op num args k ls) (hk:args.length<=k):∀x,x∈ls↔∃i,args[i]? = some x/\WH n op num i=true:=by
 intro x;rw [h x]
 constructor
 ·rintro ⟨i,_,q⟩;exact ⟨i,q⟩
 ·rintro ⟨i,q⟩;exact ⟨i,by have:=(Xq.1 q.1).1;omega,q⟩
end
def Kq (args:LI):LI->Zh->Option Zh
 | [],L=>some L
 | k::r,L=>match Vs L (gI args k) with
  | none=>none
  | some L1=>Kq args r L1
theorem EK {n:Zi} {op num:Int} {all:LI}:∀{args:LI} {i:Nat} {L:Zh},all.drop i=args->U1 n op num args i L=Kq all (Va n L.vars op num args i) L
 | [],i,L,_=>rfl
 | a::r,i,L,h=>by
  have hr:all.drop (i+1)=r:=by rw [<-List.drop_drop,h];rfl
  have ha:gI all (i:Int)=a:=by
   have:(all.drop i)[0]? = some a:=by rw [h];rfl
   rw [BF] at this
   exact VH (by simpa using this)
  rw [U1,Va]
  split
  ·rw [Kq,ha]
   cases ht:Vs L a with
   | none=>rfl
   | some L1=>
    simp only
    rw [EK hr,(QP ht).2.1]
  ·exact EK hr
theorem Zh7 {args ps:LI} {k:Nat} {L:Zh} {p x:Int} {r:Option Zh} (h:ps[k]? = some p) (hx:gI args p=x) (ht:1<=gI L.own x) (hr:Kq args (ps.drop k) L=r):Kq args (ps.drop (k+1)) (XP L x)=r:=by
 rw [Y9 h,Kq,hx,AK,Zd ht] at hr;exact hr
theorem Zh8 {args ps:LI} {k:Nat} {L:Zh} {p x:Int} {r:Option Zh} (h:ps[k]? = some p) (hx:gI args p=x) (ht:¬1<=gI L.own x) (hr:Kq args (ps.drop k) L=r):r=none:=by
 rw [Y9 h,Kq,hx,AK,Z8 ht] at hr;exact hr.symm
theorem Zh6 {args ps:LI} {k:Nat} {L:Zh} {r:Option Zh} (h:ps.length<=k) (hr:Kq args (ps.drop k) L=r):r=some L:=by
 rw [Xn h,Kq] at hr;exact hr.symm
theorem FV {n:Zi} {op num:Int} {ln:LI} {L:Zh} {all:LI}:∀{args:LI} {i:Nat},all.drop i=args ->
  (TU n op num ln L args i=true↔∀j x,i<=j->all[j]? = some x->WH n op num j=true->XM L ln x=true)
 | [],i,h=>by
  simp only [TU,true_iff]
  intro j x hj hx _
  have:=(Xq.1 hx).1
  have hl:=Yp List.length h
  simp at hl;omega
 | a::r,i,h=>by
  have hr:all.drop (i+1)=r:=by rw [<-List.drop_drop,h];rfl
  have ha:all[i]? = some a:=by
   have:(all.drop i)[0]? = some a:=by rw [h];rfl
   rw [BF] at this;simpa using this
  rw [TU]
  split
  ·rename_i q
   simp only [Bool.false_eq_true,false_iff]
   exact fun z=>q.2 (z i a (X7 _) ha q.1)
  ·rename_i q
   rw [FV hr]
   constructor
   ·intro z j x hj hx hl
    rcases BL i j with hij|hij
    ·exact z j x hij hx hl
    ·have:j=i:=by omega
     subst this;rw [ha] at hx;cases hx
     exact Vy.1 fun y=>q ⟨hl,y⟩
   ·exact fun z j x hj=>z j x om
theorem P3 {n:Zi} {ln:LI} {L L1:Zh} {op num into:Int} {args ls:LI} (h1:Kq args (Va n L.vars op num args 0) L=some L1) (hl:∀x,x∈ls↔∃i,args[i]? = some x/\WH n op num i=true) :
  ((∀x∈ls,XM L1 ln x=true)->U9 n ln L op num into args=QE L1 into args.length)/\((∃x∈ls,¬XM L1 ln x=true)->U9 n ln L op num into args=none):=by
 rw [U9,EK (all:=args) (args:=args) (i:=0) rfl,h1]
 simp only
 constructor
 ·intro h
  rw [Zd ((FV (all:=args) (args:=args) (i:=0) rfl).2 fun j x _ hx hj=>h x ((hl x).2 ⟨j,hx,hj⟩))]
 ·rintro ⟨x,hx,hd⟩
  rw [Z8]
  intro z
  obtain ⟨j,q1,q2⟩:=(hl x).1 hx
  exact hd ((FV (all:=args) (args:=args) (i:=0) rfl).1 z j x (Ku _) q1 q2)
theorem Z8y {n:Zi} {ln:LI} {L:Zh} {op num into:Int} {args:LI} (h1:Kq args (Va n L.vars op num args 0) L=none):U9 n ln L op num into args=none:=by
 rw [U9,EK (all:=args) (args:=args) (i:=0) rfl,h1]
end Go.Abs
namespace Go.Abs
theorem Zew {n:Zi} (hn:X6 n) (num:Int):(UC n num).lnt.length<=4194304:=by
 rw [UC,Tl]
 cases h:n.routines[num.toNat]? with
 | none=>simp
 | some r=>exact hn.lent r (ZW h)
theorem Zbq {n:Zi} {op num:Int} {k:Nat}:WH n op num k=true↔(op=9/\(k:Int)∈(UC n num).lnt):=by
 rw [WH,J8,decide_eq_true_iff]
 by_cases h:op=9
 ·rw [Zd h,UC,Tl]
  cases n.routines[num.toNat]? with
  | none=>simp
  | some r=>simp [h,W5]
 ·rw [Z8 h];simp [h]
end Go.Abs
namespace Go.Abs
theorem clS {xs:LI} {p:LI->Prop}:DA fun r h=>∃(vp vl:Value) (ls:LI),r=.tup [ZQ xs vp,ZQ ls vl]/\h=[.tail vp 1,.tail vl 1]/\p ls:=by
 rintro _ _ ⟨vp,vl,ls,rfl,rfl,_⟩
 refine ⟨.tup fun y hy=>?_,by simp [DB]⟩
 simp only [YD,List.not_mem_nil,or_false] at hy
 rcases hy with rfl|rfl
 ·exact .own (k:=1) (Hb _) (by simp)
 ·exact .own (k:=1) (Hb _) (by simp)
end Go.Abs
end
section
namespace Go.Abs
section
variable {n:Zi} {ln:LI}
theorem Z8z {L L':Zh} {op num into q:Int} {args:LI} {ds:List Zf} (hk:Xb ds L q) (h:U9 n ln L op num into args=some L'):L'.vars=L.vars/\L'.par=L.par/\L'.con=L.con/\L'.fst=L.fst:=by
 rw [U9] at h
 cases ht:U1 n op num args 0 L with
 | none=>rw [ht] at h;cases h
 | some L1=>
  rw [ht] at h
  obtain ⟨_,h1,h2,h3,h4,_⟩:=FW hk ht
  simp only at h
  split at h
  ·rw [QE] at h
   split at h
   ·split at h
    ·cases h
    ·cases h;exact ⟨h1,h2,h3,h4⟩
   ·cases h;exact ⟨h1,h2,h3,h4⟩
  ·cases h
theorem Zd3 {L L1:Zh} {s:Z4} {q:Int} {ds:List Zf} (hk:Xb ds L q) (h:UY n ln L s.op s.num s.into s.args (Ug n ln L s.op s.num s.args s.kids)=some L1):L1.vars=L.vars/\L1.par=L.par/\L1.con=L.con/\L1.fst=L.fst:=by
 rw [UY] at h
 split at h
 ·obtain ⟨h1,h2,h3,h4,_⟩:=DS h;exact ⟨h1,h2,h3,h4⟩
 split at h
 ·obtain ⟨_,h1,h2,h3,h4,_⟩:=QP h;exact ⟨h1,h2,h3,h4⟩
 split at h
 ·obtain ⟨h1,h2,h3,h4,_⟩:=LF h;exact ⟨h1,h2,h3,h4⟩
 split at h
 ·split at h
  ·cases h
  ·cases hks:s.kids with
   | nil=>rw [hks,Ug] at h;cases h
   | cons b bs=>
    rw [hks,Ug] at h
    unfold AB at h
    cases hb:Wk n ln (WX n.decls L s.op s.num s.args 0) L.vars.length b with
    | none=>rw [hb] at h;cases h
    | some one=>
     rw [hb] at h
     simp only at h
     split at h
     ·cases h;exact ⟨rfl,rfl,rfl,rfl⟩
     ·cases h
 ·exact Z8z hk h
theorem Z0j (hn:X6 n) {s:Z4} {L L':Zh} {q:Int} {am:List Xj} (hk:Xb n.decls L q) (hq:0<=q) (hty:0<=Yc n L.vars s) (h:Vb n ln L s=some L') (ha:V0 n.decls L am):V0 n.decls L' am:=by
 rw [H4] at h
 cases hp:UY n ln L s.op s.num s.into s.args (Ug n ln L s.op s.num s.args s.kids) with
 | none=>rw [hp] at h;cases h
 | some L1=>
  rw [hp] at h
  obtain ⟨h1,h2,h3,h4⟩:=Zd3 hk hp
  have hk1:=(Br hn hk hq (EF hty) hp).1
  have ha1:V0 n.decls L1 am:=ha.same (by rw [h1]) h2 h3 h4
  rw [K8] at h
  split at h
  ·cases h;exact ha1.grow hk1.len
  ·cases h;exact ha1
theorem EI (hn:X6 n) {am:List Xj}:∀{xs:List Z4} {L L':Zh} {q:Int} {vs:LI},Xb n.decls L q->0<=q->V0 n.decls L am->XC n xs L.vars=some vs->XK n ln L xs=some L' ->
  Xb n.decls L' (q+4*Yb xs)/\L'.vars=vs/\V0 n.decls L' am
 | [],L,L',q,vs,hk,hq,ha,ht,h=>by
  rw [XK] at h;rw [XC] at ht;cases h;cases ht
  exact ⟨by simpa [Yb] using hk,rfl,ha⟩
 | s::r,L,L',q,vs,hk,hq,ha,ht,h=>by
  rw [XK] at h
  cases hs:Vb n ln L s with
  | none=>rw [hs] at h;cases h
  | some L1=>
   rw [hs] at h
   obtain ⟨g1,g2⟩:=EG ht
   obtain ⟨k1,k2⟩:=EE hn hk hq g1 hs
   have:=EI hn (xs:=r) k1 (by have:=s.sz_pos;omega) (Z0j hn hk hq g1 hs ha) (by rw [k2];exact g2) h
   refine ⟨?_,this.2⟩
   rw [show q+4*Yb (s::r)=q+4*s.sz+4*Yb r by rw [Yb];omega]
   exact this.1
end
end Go.Abs
namespace Go.Abs
def BQ (n:Zi):Prop:=∀r∈n.routines,∀i:Nat,(i:Int)∈r.lent->∃t,r.params[i]? = some t/\t≠0
theorem R9 {ps:LI}:∀{ls:LI} {prev:Option Int},QJ ps ls prev=true->∀v∈ls,(0<=v/\v<=(ps.length:Int)-1)/\ps[v.toNat]?≠some 0
 | [],_,_,v,h=>by cases h
 | x::r,prev,h,v,hv=>by
  rw [QJ] at h
  split at h
  ·rename_i q
   rcases YD.1 hv with rfl|hv
   ·exact ⟨q.1,q.2.1⟩
   ·exact R9 h v hv
  ·cases h
theorem Rd:∀{rs:List Y8},J9 rs=true->∀r∈rs,Jk r.params r.lent=true
 | [],_,r,h=>by cases h
 | x::rs,h,r,hr=>by
  rw [J9] at h
  split at h
  ·rcases YD.1 hr with rfl|hr
   ·assumption
   ·exact Rd h r hr
  ·cases h
theorem Rn {n:Zi} (h:U3 n=true):BQ n:=by
 simp only [U3,Ks,W6,decide_eq_true_eq] at h
 obtain ⟨_,_,h6⟩:=h
 intro r hr i hi
 obtain ⟨h1,h2⟩:=R9 (Rd h6 r hr) i hi
 obtain ⟨t,ht⟩:=J3 (xs:=r.params) (j:=i) om
 refine ⟨t,ht,fun q=>h2 ?_⟩
 rw [Vm,ht,q]
theorem H7 {us:LI}:∀{args tys:LI} {i:Nat} {a t:Int},Ti us args tys=true->args[i]? = some a->tys[i]? = some t->Xy us a=some t
 | [],_,i,a,t,_,h,_=>by simp at h
 | x::r,[],i,a,t,_,_,h=>by simp at h
 | x::r,y::ys,i,a,t,h,ha,ht=>by
  rw [Ti] at h
  split at h
  ·rename_i hq
   cases i with
   | zero=>simp at ha ht;subst ha;subst ht;exact hq
   | succ i=>exact H7 h (by simpa using ha) (by simpa using ht)
  ·cases h
theorem Zbu {n:Zi} (hl:BQ n) {us:LI} {s:Z4} (h:0<=Yc n us s):∀(i:Nat) (a:Int),s.args[i]? = some a->WH n s.op s.num i=true->gI us a≠0:=by
 intro i a ha hla
 rw [WH,J8,decide_eq_true_iff] at hla
 by_cases h9:s.op=9
 ·rw [Zd h9] at hla
  have hn:=(EF h).num h9
  obtain ⟨r,hr⟩:=J3 (xs:=n.routines) (j:=s.num.toNat) om
  rw [hr] at hla
  obtain ⟨t,ht,h0⟩:=hl r (ZW hr) i hla
  rw [AJ] at h
  split at h
  ·omega
  rw [Z8 om,Z8 om,Z8 om,Z8 om,Z8 om,Z8 om,Zd (.inl h9),Uv,Ql om hr] at h
  simp only [KL] at h
  rw [Zd h9] at h
  split at h
  ·rename_i hty
   rw [Wj] at hty
   have hq:Xy us a=some t:=by
    first
    | exact H7 hty ha ht
    | exact H7 (Bool.and_eq_true_iff.1 hty).2 ha ht
    | exact H7 (Bool.and_eq_true_iff.1 hty).1 ha ht
   rw [VH (J1 hq).2];exact h0
  ·omega
 ·rw [Z8 h9] at hla;cases hla
end Go.Abs
namespace Go.Abs
theorem Zeq {n:Zi} {us:LI} {s:Z4} (h:∀t∈us,0<=t) (h0:0<=Yc n us s):∀t∈Qw n us s,0<=t:=by
 rw [Qw];split
 ·exact Ei h fun t ht=>by rw [XI.1 ht];exact h0
 ·exact h
end Go.Abs
namespace Go.Abs
theorem HT {c:Bool} {ok:Int->Prop}:DA fun r h=>∃t:Int,r=.tup [.i t,.b c]/\h=[]/\ok t:=by
 rintro _ _ ⟨t,rfl,rfl,_⟩
 refine ⟨.tup fun y hy=>?_,by simp⟩
 simp only [YD,List.not_mem_nil,or_false] at hy
 rcases hy with rfl|rfl<;>exact .val
section
variable {n:Zi} {ln:LI} {L:Zh} {s:Z4}
theorem Z6o {op t:Int} {r:Option Zh} (h:¬XR op=true):K8 L op t r=r:=by
 cases r with
 | none=>rfl
 | some X=>exact Z8 h
theorem Z0l {x:Int} (hc:YF s.op=true) (hx:gI s.args 0=x):Vb n ln L s=K4 n ln L s.op x:=by
 have hop:14<=s.op/\s.op<=17:=by simpa [YF] using hc
 have hd:¬XR s.op=true:=by rw [XR];simp;omega
 rw [Uw,Z6o hd,K4]
 by_cases h14:s.op=14
 ·rw [Zd h14];exact Gy h14 hx
 rw [Z8 h14]
 by_cases h15:s.op=15
 ·rw [Zd h15];exact Gz h15 hx
 rw [Z8 h15]
 exact LK om hx
theorem Ms {L1:Zh} {t:Int} (hP:TX n ln L s=some L1) (h0:0<=Yc n L.vars s) (hnc:¬YF s.op=true) (ht:t=Yc n L.vars s):Vb n ln L s=some (L1.grow t (min t 1) (-1)):=by
 have hd:XR s.op=true:=by rw [Fs h0];simpa using hnc
 rw [Uw,hP]
 show (if XR s.op=true then _ else _)=_
 rw [Zd hd,ht,show (if Yc n L.vars s≠0 then (1:Int) else 0)=min (Yc n L.vars s) 1 by split<;>omega]
theorem Z0m (hP:TX n ln L s=none):Vb n ln L s=none:=by rw [Uw,hP];rfl
theorem LL (h1:¬YF s.op=true) (h2:¬(s.op=7∨s.op=8)):TX n ln L s=U9 n ln L s.op s.num s.into s.args:=by
 have hop:¬(14<=s.op/\s.op<=17):=by simpa [YF] using h1
 rw [TX,UY,Z8 om,Z8 om,Z8 om,Z8 h2]
theorem Zd2 (h1:¬YF s.op=true) (h2:¬(s.op=7∨s.op=8)) (h3:¬T6 s.op=true) (h0:0<=Yc n L.vars s):TX n ln L s=some L:=by
 rw [LL h1 h2,U9,EK (all:=s.args) (args:=s.args) (i:=0) rfl,LN h3]
 show (if TU n s.op s.num ln L s.args 0=true then QE L s.into s.args.length else none)=some L
 rw [Zd ((FV (all:=s.args) (args:=s.args) (i:=0) rfl).2 fun j x _ _ hl=>absurd hl (Rc h3 j)),QE]
 have hi:¬0<s.into:=by
  intro hi
  rw [AJ] at h0
  split at h0
  ·omega
  ·rename_i hq
   have hv:UE L.vars s.op s.into=true:=Vy.1 fun z=>hq (.inr (.inl z))
   rw [UE,Z8 om] at hv
   split at hv
   ·rename_i h6;exact h3 (by rw [h6];rfl)
   ·cases hv
 rw [Z8 hi]
end
end Go.Abs
namespace Go.Abs
def TF (L:Zh) (am:List Xj) (s:Z4) (m:LI):List Xj:=if s.op=8 then am++[⟨gI s.args 0,(L.vars.length:Nat),m,false⟩] else am
def Jh (n:Zi) (L:Zh) (s:Z4) (k:Nat):Zh:=if s.op=8 then { L with con:=L.con.set (gI s.args 0).toNat (gI (ZY n.decls s.num) k),fst:=L.fst.set (gI s.args 0).toNat L.vars.length } else L
theorem BB {n:Zi} {L:Zh} {s:Z4} {k:Nat}:(Jh n L s k).vars=L.vars:=by rw [Jh];split<;>rfl
theorem Dp {n:Zi} {L:Zh} {s:Z4} {k:Nat}:(Jh n L s k).own=L.own:=by rw [Jh];split<;>rfl
theorem Dq {n:Zi} {L:Zh} {s:Z4} {k:Nat}:(Jh n L s k).tok=L.tok:=by rw [Jh];split<;>rfl
theorem Z0h {n:Zi} {L:Zh} {s:Z4} {k:Nat} (h:Wq L):Wq (Jh n L s k):=by rw [Jh];split;exact h.arm;exact h
theorem Z0g {n:Zi} {L:Zh} {s:Z4} {k:Nat} {m:LI} (hop:s.op=7∨s.op=8) (hm:(Xu n.decls s.op s.num)[k]? = some m):Q7 (Jh n L s k) (gI s.args 0) m=WX n.decls L s.op s.num s.args k:=by
 rw [Jh,WX]
 by_cases h8:s.op=8
 ·rw [Zd h8,Zd h8]
  obtain ⟨c,hc,rfl⟩:=HJ h8 hm
  have hgc:gI (ZY n.decls s.num) (k:Int)=c:=by rw [gI];simp [hc]
  rw [JP,hgc]
 ·rw [Z8 h8,Z8 h8]
  rw [Xu,Zd om] at hm
  have:m=[]:=by
   match k,hm with
   | 0,hm=>simpa using hm.symm
   | 1,hm=>simpa using hm.symm
   | k+2,hm=>simp at hm
  rw [this];rfl
theorem N9 {n:Zi} {L:Zh} {am:List Xj} {s:Z4} {k:Nat} {m:LI} (hn:X6 n) (ha:V0 n.decls L am) (hl:Wq L) (hop:s.op=7∨s.op=8) (hx:0<=gI s.args 0/\gI s.args 0<L.vars.length) (hm:(Xu n.decls s.op s.num)[k]? = some m) :
  V0 n.decls (WX n.decls L s.op s.num s.args k) (TF L am s m):=by
 rw [TF,WX]
 by_cases h8:s.op=8
 ·rw [Zd h8,Zd h8]
  obtain ⟨c,hc,rfl⟩:=HJ h8 hm
  have hgc:gI (ZY n.decls s.num) (k:Int)=c:=by rw [gI];simp [hc]
  rw [hgc]
  exact ha.arm hl hx (NP hn.decls hc).1
 ·rw [Z8 h8,Z8 h8];exact ha
end Go.Abs
namespace Go.Abs
theorem EH {n:Zi}:∀{xs:List Z4} {us vs:LI},XC n xs us=some vs->us.length<=vs.length/\vs.length<=us.length+Yb xs
 | [],us,vs,h=>by rw [XC] at h;cases h;simp [Yb]
 | s::r,us,vs,h=>by
  obtain ⟨_,g2⟩:=EG h
  have:=EH g2
  have h2:=GT n us s
  rw [Yb];omega
theorem N8 {L:Zh} {am:List Xj} {s:Z4} {m:LI}:(TF L am s m).length<=am.length+1:=by rw [TF];split<;>simp
theorem Na {n:Zi} (hty:Kv n) {op num:Int} {k:Nat} {m:LI} (h:(Xu n.decls op num)[k]? = some m):∀f∈m,0<=f:=by
 by_cases h7:op=7
 ·rw [Xu,Zd h7] at h
  have:m=[]:=by
   match k,h with
   | 0,h=>simpa using h.symm
   | 1,h=>simpa using h.symm
   | k+2,h=>simp at h
  rw [this];intro f hf;cases hf
 ·rw [Xu,Z8 h7,Tl] at h
  cases hc:(ZY n.decls num)[k]? with
  | none=>rw [hc] at h;cases h
  | some c=>rw [hc] at h;cases h;exact hty.fields c
theorem Fz {L:Zh} {r:Int}:(Wi L r).own.length=L.own.length/\(Wi L r).tok.length=L.tok.length/\(Wi L r).vars=L.vars:=by
 rw [Wi];split
 ·exact ⟨Vc,rfl,rfl⟩
 ·exact ⟨rfl,rfl,rfl⟩
end Go.Abs
namespace Go.Abs
theorem H5 {L M:Zh} {n:Zi} {ln:LI} {xs:List Z4} {f:Zh->Option Zh} (h:XK n ln L xs=some M):Cm (XK n ln L xs) f=f M:=by rw [h];rfl
end Go.Abs
end
section
namespace Go.Abs
theorem Z1l:∀{os ts:LI} {m:Nat},os.length=ts.length->(WQ os ts=true↔WQ (os.take m) (ts.take m)=true/\WQ (os.drop m) (ts.drop m)=true)
 | [],[],m,_=>by simp [WQ]
 | [],_::_,_,h=>by simp at h
 | _::_,[],_,h=>by simp at h
 | o::os,t::ts,0,h=>by simp [WQ]
 | o::os,t::ts,m+1,h=>by
  simp only [AQ,List.drop_succ_cons]
  rw [WQ,WQ]
  split
  ·simp
  ·exact Z1l (by simpa using h)
theorem Sd {n:Zi} {r:Y8} {M:Zh} (hP:XK n r.lent (WO r) r.body.steps=some M) (hl:M.own.length=M.tok.length):U8 n r=(U0 0 r.body.result M).isSome:=by
 rw [U8,QB,hP]
 show (match U0 r.params.length r.body.result M with|none=>false|some L=>(VY L 0).isSome)=_
 rw [U0,U0]
 cases hT:(if gI M.vars r.body.result≠0 then Vs M r.body.result else some M) with
 | none=>rfl
 | some M2=>
  have h2:M2.own.length=M2.tok.length:=by
   split at hT
   ·have:=QP hT;rw [this.2.2.2.2.2.1,this.2.2.2.2.2.2,Vc];exact hl
   ·cases hT;exact hl
  show (match VY M2 r.params.length with|none=>false|some L=>(VY L 0).isSome)=(VY M2 0).isSome
  have key:=Z1l (m:=r.params.length) h2
  rw [VY,VY]
  by_cases h1:WQ (M2.own.drop r.params.length) (M2.tok.drop r.params.length)=true
  ·rw [Zd h1]
   show (VY (M2.take r.params.length) 0).isSome=_
   rw [VY]
   by_cases h3:WQ (M2.own.take r.params.length) (M2.tok.take r.params.length)=true
   ·rw [Zd (show WQ ((M2.take r.params.length).own.drop 0) ((M2.take r.params.length).tok.drop 0)=true from h3),Zd (show WQ (M2.own.drop 0) (M2.tok.drop 0)=true from key.2 ⟨h3,h1⟩)];rfl
   ·rw [Z8 (show ¬WQ ((M2.take r.params.length).own.drop 0) ((M2.take r.params.length).tok.drop 0)=true from h3),Z8 (show ¬WQ (M2.own.drop 0) (M2.tok.drop 0)=true from fun z=>h3 (key.1 z).1)]
  ·rw [Z8 h1,Z8 (show ¬WQ (M2.own.drop 0) (M2.tok.drop 0)=true from fun z=>h1 (key.1 z).2)];rfl
theorem Zdt {n:Zi} {r:Y8} (hP:XK n r.lent (WO r) r.body.steps=none):U8 n r=false:=by rw [U8,QB,hP];rfl
end Go.Abs
namespace Go.Abs
theorem Mb {xs:LI} {k:Nat} {a b:Int} (h:xs.length=k):(xs++[a]).set k b=xs++[b]:=by subst h;simp
end Go.Abs
namespace Go.Abs
theorem Z2s {ds:List Zf}:V0 ds ⟨[],[],[],[],[],[]⟩ []:=⟨fun a ha=>(nomatch ha),fun a ha=>(nomatch ha),fun v h0 h1=>(by have h2:v<((0:Nat):Int):=h1;omega),fun v h0 h1=>(by have h2:v<((0:Nat):Int):=h1;omega)⟩
theorem RO {ds:List Zf} {lent:LI}:∀{ps:LI} {i:Nat} {L:Zh},Wq L->V0 ds L []->V0 ds (Kj lent ps i L) []
 | [],_,_,_,h=>h
 | t::r,i,L,hl,h=>by rw [Kj];exact RO hl.grow (h.grow hl)
theorem Gq {ds:List Zf} (rt:Y8):V0 ds (WO rt) []:=RO ⟨rfl,rfl,rfl,rfl,rfl⟩ Z2s
end Go.Abs
end
section
namespace Go.Abs
end Go.Abs
namespace Go.Abs
end Go.Abs
namespace Go.Abs
end Go.Abs
namespace Go.Abs
end Go.Abs
end
namespace Go.Abs
def Zu (op v:Int):Z4:=.mk op 0 0 [v] []
def Tb (ds:List Zf) (num:Int) (k:Nat):LI:=((ZY ds num).map (ZV ds))[k]?.getD []
section
variable {ds:List Zf} {am:List Xj} {m:Nat}
end
theorem Ot {ds:List Zf} {num:Int} {k:Nat} {m:LI} (h:((ZY ds num).map (ZV ds))[k]? = some m):Tb ds num k=m:=by rw [Tb,h];rfl
theorem Z6n {ds:List Zf} (hd:WC ds) (num:Int) (k:Nat):(Tb ds num k).length<=3:=by
 rw [Tb,Tl]
 cases (ZY ds num)[k]? with
 | none=>simp
 | some c=>exact Ud hd c
theorem Mr {xs:List Z4} {k:Nat} {s:Z4} (h:xs[k]? = some s):Yb (xs.take (k+1))=Yb (xs.take k)+s.sz:=by
 induction xs generalizing k with
 | nil=>simp at h
 | cons t r ih=>
  cases k with
  | zero=>simp at h;subst h;simp [Yb]
  | succ k=>rw [AQ,AQ,Yb,Yb,ih (by simpa using h)];omega
theorem QO (xs:List Z4) (k:Nat):Yb (xs.take k)<=Yb xs:=by
 induction xs generalizing k with
 | nil=>simp
 | cons t r ih=>
  cases k with
  | zero=>simp [Yb]
  | succ k=>have:=ih k;rw [AQ,Yb,Yb];omega
theorem Zeo {n:Zi} {us:LI} {s:Z4} (g:0<=Yc n us s) (h:YF s.op=true):Qw n us s=us:=by rw [Qw,Fs g,h];rfl
theorem Zen {n:Zi} {us:LI} {s:Z4} (g:0<=Yc n us s) (h:¬YF s.op=true):(Qw n us s).length=us.length+1:=by
 rw [Qw,Fs g,Jo.2 h];simp
theorem Zep {n:Zi} {us:LI} {s:Z4} (g:0<=Yc n us s):(Qw n us s).length=if YF s.op=true then us.length else us.length+1:=by
 split
 ·rw [Zeo g (by assumption)]
 ·exact Zen g (by assumption)

theorem TN:∀(xs ys:List Z4),Yb (xs++ys)=Yb xs+Yb ys
 | [],ys=>by simp [Yb]
 | x::r,ys=>by rw [QT,Yb,Yb,TN r ys];omega
theorem Fi (op v:Int):(Zu op v).sz=2:=by rw [Zu,Z4.sz];simp [Xc]
theorem Mp (op:Int):∀l:LI,Yb (l.map (Zu op))=2*l.length
 | []=>by simp [Yb]
 | x::r=>by rw [UG,Yb,Fi,Mp op r,YT];omega
section
variable {ds:List Zf} (hd:WC ds)
include hd
end
section
variable {ds:List Zf} {cons first:LI}
end
section
variable {ds:List Zf} (hd:WC ds)
include hd
end
def W4:List Z4->Nat
 | []=>0
 | s::r=>if s.op=14∨s.op=15 then W4 r+1 else 0
def WE (op:Int):List Z4->LI
 | []=>[]
 | s::r=>if s.op=op then gI s.args 0::WE op r else WE op r
def Th:LI->Int->LI->LI->LI × LI
 | [],_,D,R=>(D,R)
 | f::r,q,D,R=>if f≠0/\q∈D then Th r (q+1) (D.erase q) R else if f≠0 then Th r (q+1) D (R++[q]) else Th r (q+1) D R
def AE (xs:List Z4) (x:Int) (fs:LI) (q:Int):LI × LI:=Th fs q (WE 14 (xs.take (W4 xs))) ((WE 15 (xs.take (W4 xs))).erase x)
def JN (xs:List Z4) (x:Int) (fs:LI) (q:Int):List Z4:=
 if x∈WE 15 (xs.take (W4 xs))/\fs.length≠0 then (AE xs x fs q).1.map (Zu 14)++[Zu 16 x]++(AE xs x fs q).2.map (Zu 15)++xs.drop (W4 xs) else xs
def Jq (b:Z6) (x:Int) (fs:LI) (q:Int):Z6:=.mk (JN b.steps x fs q) b.result
theorem GK:∀xs:List Z4,W4 xs<=xs.length
 | []=>X7 _
 | s::r=>by have:=GK r;rw [W4];split<;>simp<;>omega
theorem Sp:∀{xs:List Z4} {s:Z4},s∈xs.take (W4 xs)->s.op=14∨s.op=15
 | [],s,h=>by simp [W4] at h
 | t::r,s,h=>by
  rw [W4] at h
  split at h
  ·rename_i q
   rw [AQ] at h
   rcases YD.1 h with rfl|h
   ·exact q
   ·exact Sp h
  ·simp at h
theorem HI:∀xs:List Z4,(WE 14 xs).length+(WE 15 xs).length<=xs.length
 | []=>by simp [WE]
 | s::r=>by
  have:=HI r
  rw [WE,WE]
  by_cases h:s.op=14
  ·rw [Zd h,Z8 om];simp;omega
  ·rw [Z8 h];split<;>simp<;>omega
theorem Gx:∀(fs:LI) (q:Int) (D R:LI),(Th fs q D R).1.length+(Th fs q D R).2.length<=D.length+R.length+fs.length
 | [],q,D,R=>by simp [Th]
 | f::r,q,D,R=>by
  rw [Th,YT]
  split
  ·have:=Gx r (q+1) (D.erase q) R
   have h2:=List.length_erase_le (a:=q) (l:=D)
   omega
  ·split
   ·have:=Gx r (q+1) D (R++[q])
    simp only [Yt,YT,XA] at this
    omega
   ·have:=Gx r (q+1) D R
    omega
theorem Zcu {xs:List Z4} {x:Int} {fs:LI} {q:Int} (h:x∈WE 15 (xs.take (W4 xs))) (hf:fs.length<=3):(AE xs x fs q).1.length+(AE xs x fs q).2.length<=W4 xs+2:=by
 have h1:=Gx fs q (WE 14 (xs.take (W4 xs))) ((WE 15 (xs.take (W4 xs))).erase x)
 have h2:=HI (xs.take (W4 xs))
 have h3:=List.length_pos_of_mem h
 rw [List.length_erase_of_mem h] at h1
 rw [WB] at h2
 have h4:=GK xs
 unfold AE
 omega
theorem Zga (xs:List Z4) (k:Nat):Yb xs=Yb (xs.take k)+Yb (xs.drop k):=by rw [<-TN,UH]
theorem Z0b:∀xs:List Z4,(∀s∈xs,2<=s.sz)->2*xs.length<=Yb xs
 | [],_=>by simp
 | s::r,h=>by
  have h1:=Z0b r fun t ht=>h t (XL _ ht)
  have h2:=h s (Xs ..)
  rw [Yb,YT];omega
theorem Z2f {xs:List Z4} {x:Int} {fs:LI} {q:Int} (hf:fs.length<=3) (h:∀s∈xs,s.op=14∨s.op=15->2<=s.sz):Yb (JN xs x fs q)<=Yb xs+6:=by
 rw [JN]
 split
 ·rename_i hc
  have h1:=Zcu (q:=q) hc.1 hf
  have h2:=Z0b (xs.take (W4 xs)) fun s hs=>h s (Q1 hs) (Sp hs)
  have h3:=Zga xs (W4 xs)
  have h4:=GK xs
  rw [WB] at h2
  rw [TN,TN,TN,Mp,Mp,Yb,Yb,Fi]
  omega
 ·omega
def Cn (s:Z4):Prop:=s=Zu s.op (gI s.args 0)
theorem Z2e {xs:List Z4} {m:Int} {fs:LI} {q:Int} (h:¬(m∈WE 15 (xs.take (W4 xs))/\fs.length≠0)):JN xs m fs q=xs:=Z8 h
end Go.Abs
section
namespace Go.Abs
mutual
def AH (ds:List Zf) (m:Nat):Z4->Z4
 | .mk op num into args kids=>.mk op num into args (Tz ds m op num args kids 0)
def Tz (ds:List Zf) (m:Nat) (op num:Int) (args:LI):List Z6->Nat->List Z6
 | [],_=>[]
 | b::r,k=>(if op=8 then Jq (Vk ds (m+(Tb ds num k).length) b) (gI args 0) (Tb ds num k) m else Vk ds m b)::Tz ds m op num args r (k+1)
def UP (ds:List Zf) (m:Nat):List Z4->List Z4
 | []=>[]
 | s::r=>AH ds m s::UP ds (if YF s.op=true then m else m+1) r
def Vk (ds:List Zf) (m:Nat):Z6->Z6
 | .mk steps result=>.mk (UP ds m steps) result
end
def GY (ds:List Zf) (m:Nat) (op num:Int) (args:LI) (k:Nat) (b:Z6):Z6:=if op=8 then Jq (Vk ds (m+(Tb ds num k).length) b) (gI args 0) (Tb ds num k) m else Vk ds m b
theorem Mj (ds:List Zf) (m:Nat) (s:Z4):AH ds m s=.mk s.op s.num s.into s.args (Tz ds m s.op s.num s.args s.kids 0):=by cases s;rw [AH];rfl
theorem GW (ds:List Zf) (m:Nat) (b:Z6):Vk ds m b=.mk (UP ds m b.steps) b.result:=by cases b;rw [Vk];rfl
section
variable {ds:List Zf} {m:Nat}
theorem Zf8 {xs acc r:List Z4} {k:Nat} {s:Z4} (h:xs[k]? = some s) (ha:acc++UP ds m (xs.drop k)=r) :
  (acc++[.mk s.op s.num s.into s.args (Tz ds m s.op s.num s.args s.kids 0)])++UP ds (if YF s.op=true then m else m+1) (xs.drop (k+1))=r:=by
 rw [Y9 h,UP,Mj] at ha
 rw [<-ha];simp
theorem Zf7 {xs acc r:List Z4} {k:Nat} (h:xs.length<=k) (ha:acc++UP ds m (xs.drop k)=r):acc=r:=by
 rw [Xn h,UP,Jp] at ha;exact ha
theorem SK {op num:Int} {args:LI} {bs acc r:List Z6} {k:Nat} {b:Z6} (h:bs[k]? = some b) (ha:acc++Tz ds m op num args (bs.drop k) k=r) :
  (acc++[GY ds m op num args k b])++Tz ds m op num args (bs.drop (k+1)) (k+1)=r:=by
 rw [Y9 h,Tz] at ha
 rw [<-ha,GY];simp
theorem Zf4 {op num:Int} {args:LI} {bs acc r:List Z6} {k j:Nat} (h:bs.length<=k) (ha:acc++Tz ds m op num args (bs.drop k) j=r):acc=r:=by
 rw [Xn h,Tz,Jp] at ha;exact ha
end
mutual
def wS (ds:List Zf):Z4->Prop
 | .mk op num into args kids=>(XR op=!YF op)/\(YF op=true->num=0/\into=0/\kids=[]/\∃a,args=[a])/\(op=8->(∃a,args=[a]/\0<=a/\a<=900000000)/\kids.length=(ZY ds num).length)/\AL ds kids
def AL (ds:List Zf):List Z6->Prop
 | []=>True
 | b::r=>wB ds b/\AL ds r
def Kt (ds:List Zf):List Z4->Prop
 | []=>True
 | s::r=>wS ds s/\Kt ds r
def wB (ds:List Zf):Z6->Prop
 | .mk steps _=>Kt ds steps
end
section
variable {ds:List Zf}
theorem JI (s:Z4):wS ds s↔(XR s.op=!YF s.op)/\(YF s.op=true->s.num=0/\s.into=0/\s.kids=[]/\∃a,s.args=[a])/\(s.op=8->(∃a,s.args=[a]/\0<=a/\a<=900000000)/\s.kids.length=(ZY ds s.num).length)/\AL ds s.kids:=by cases s;rw [wS];rfl
theorem Jn (b:Z6):wB ds b↔Kt ds b.steps:=by cases b;rw [wB];rfl
theorem AM:∀{xs:List Z4},Kt ds xs↔∀s∈xs,wS ds s
 | []=>by simp [Kt]
 | s::r=>by rw [Kt,AM];simp
theorem He:∀{xs:List Z6},AL ds xs↔∀s∈xs,wB ds s
 | []=>by simp [AL]
 | s::r=>by rw [AL,He];simp
theorem Z1e {b:Z6} {k:Nat} {s:Z4} (h:wB ds b) (hs:b.steps[k]? = some s):wS ds s:=AM.1 ((Jn b).1 h) s (ZW hs)
theorem MF {s:Z4} {k:Nat} {b:Z6} (h:wS ds s) (hb:s.kids[k]? = some b):wB ds b:=He.1 ((JI s).1 h).2.2.2 b (ZW hb)
theorem Hf {s:Z4} (h:wS ds s) (hc:YF s.op=true):Cn s/\s.kids=[]/\∃a,s.args=[a]:=by
 obtain ⟨h1,h2,h3,a,h4⟩:=((JI s).1 h).2.1 hc
 refine ⟨?_,h3,a,h4⟩
 cases s with
 | mk op num into args kids=>
  simp only [Z4.num,Z4.into,Z4.kids,Z4.args] at h1 h2 h3 h4
  subst h1 h2 h3 h4
  rfl
theorem Zi1 {op v:Int} (h:op=14∨op=15∨op=16):wS ds (Zu op v):=(JI _).2 ⟨by show XR op=!YF op;rcases h with rfl|rfl|rfl<;>rfl,fun _=>⟨rfl,rfl,rfl,v,rfl⟩,fun e=>absurd e (show op≠8 by omega),True.intro⟩
theorem Zi2 {s:Z4} (h:wS ds s):XR s.op=!YF s.op:=((JI s).1 h).1
theorem EO {s:Z4} (h:wS ds s) (h8:s.op=8):(∃a,s.args=[a]/\0<=a/\a<=900000000)/\s.kids.length=(ZY ds s.num).length:=((JI s).1 h).2.2.1 h8
theorem Hs {xs:List Z4} (h:Kt ds xs):∀s∈xs,YF s.op=true->Cn s:=fun s hs hc=>(Hf (AM.1 h s hs) hc).1
end
section
variable {n:Zi}
end
mutual
def Z4.pz:Z4->Nat
 | .mk _ _ _ args kids=>1+args.length+Di kids
def Z6.pz:Z6->Nat
 | .mk steps _=>1+Dj steps
def Dj:List Z4->Nat
 | []=>0
 | s::r=>s.pz+Dj r
def Di:List Z6->Nat
 | []=>0
 | b::r=>b.pz+8+Di r
end
mutual
theorem Z4.pz_le:∀s:Z4,s.pz<=9*s.sz
 | .mk _ _ _ args kids=>by have:=RT kids;rw [Z4.pz,Z4.sz];omega
theorem Z6.pz_le:∀b:Z6,b.pz+8<=9*b.sz
 | .mk steps _=>by have:=RU steps;rw [Z6.pz,Z6.sz];omega
theorem RU:∀xs:List Z4,Dj xs<=9*Yb xs
 | []=>Ku _
 | s::r=>by have:=s.pz_le;have:=RU r;rw [Dj,Yb];omega
theorem RT:∀xs:List Z6,Di xs<=9*Xc xs
 | []=>Ku _
 | s::r=>by have:=s.pz_le;have:=RT r;rw [Di,Xc];omega
end
section
variable {ds:List Zf}
theorem Z43 {op:Int} (h:op=14∨op=15):YF op=true:=by rw [YF];simp;omega
theorem Zf9 {xs:List Z4}:∀{m:Nat},Kt ds xs->∀s∈UP ds m xs,s.op=14∨s.op=15->2<=s.sz:=by
 induction xs with
 | nil=>intro m _ s hs;simp [UP] at hs
 | cons t r ih=>
  intro m h s hs ho
  rw [UP] at hs
  rcases YD.1 hs with rfl|hs
  ·rw [Mj] at ho ⊢
   obtain ⟨_,_,a,ha⟩:=Hf h.1 (Z43 ho)
   rw [Z4.sz,ha];simp
  ·exact ih h.2 s hs ho
variable (hd:WC ds)
include hd
mutual
theorem Zf5:∀(s:Z4) {m:Nat},wS ds s->(AH ds m s).sz<=s.pz
 | .mk op num into args kids,m,h=>by
  have:=SN kids (m:=m) (op:=op) (num:=num) (args:=args) (k:=0) h.2.2.2
  rw [AH,Z4.sz,Z4.pz];omega
theorem SN:∀(bs:List Z6) {m:Nat} {op num:Int} {args:LI} {k:Nat},AL ds bs->Xc (Tz ds m op num args bs k)<=Di bs
 | [],_,_,_,_,_,_=>X7 _
 | b::r,m,op,num,args,k,h=>by
  have h2:=SN r (m:=m) (op:=op) (num:=num) (args:=args) (k:=k+1) h.2
  rw [Tz,Xc,Di]
  split
  ·have h1:=GX b (m:=m+(Tb ds num k).length) h.1
   have h3:=Z2f (xs:=(Vk ds (m+(Tb ds num k).length) b).steps) (x:=gI args 0) (q:=(m:Int)) (Z6n hd num k) (by rw [GW];exact Zf9 ((Jn b).1 h.1))
   rw [Jq,Z6.sz]
   rw [Z6.sz_eq] at h1
   omega
  ·have h1:=GX b (m:=m) h.1
   omega
theorem SO:∀(xs:List Z4) {m:Nat},Kt ds xs->Yb (UP ds m xs)<=Dj xs
 | [],_,_=>X7 _
 | s::r,m,h=>by
  have h1:=Zf5 s (m:=m) h.1
  have h2:=SO r (m:=if YF s.op=true then m else m+1) h.2
  rw [UP,Yb,Dj];omega
theorem GX:∀(b:Z6) {m:Nat},wB ds b->(Vk ds m b).sz<=b.pz
 | .mk steps result,m,h=>by
  have:=SO steps (m:=m) h
  rw [Vk,Z6.sz,Z6.pz];omega
end
end
section
variable {ds:List Zf} {m:Nat}
end
def By (ds:List Zf) (r:Y8):Y8:=⟨r.params,r.lent,r.result,Vk ds r.params.length r.body⟩
def GZ (n:Zi):Zi:=⟨n.decls,n.routines.map (By n.decls)⟩
end Go.Abs
namespace Go.Abs
theorem Ze8 {xs:List Z4} {k:Nat} {s:Z4} {r:Nat} (h:xs[k]? = some s) (hs:s.op=14∨s.op=15) (ha:k+W4 (xs.drop k)=r):k+1+W4 (xs.drop (k+1))=r:=by
 rw [Y9 h,W4,Zd hs] at ha;omega
theorem Ze9 {xs:List Z4} {k:Nat} {s:Z4} {r:Nat} (h:xs[k]? = some s) (hs:¬(s.op=14∨s.op=15)) (ha:k+W4 (xs.drop k)=r):k=r:=by
 rw [Y9 h,W4,Z8 hs] at ha;omega
theorem Ze7 {xs:List Z4} {k:Nat} {r:Nat} (h:xs.length<=k) (ha:k+W4 (xs.drop k)=r):k=r:=by
 rw [Xn h,W4] at ha;omega
theorem Z2q {op:Int} {xs:List Z4} {acc r:LI} {k:Nat} {s:Z4} (h:xs[k]? = some s) (hs:s.op=op) (ha:acc++WE op (xs.drop k)=r):(acc++[gI s.args 0])++WE op (xs.drop (k+1))=r:=by
 rw [Y9 h,WE,Zd hs] at ha;rw [<-ha];simp
theorem Z2p {op:Int} {xs:List Z4} {acc r:LI} {k:Nat} {s:Z4} (h:xs[k]? = some s) (hs:¬s.op=op) (ha:acc++WE op (xs.drop k)=r):acc++WE op (xs.drop (k+1))=r:=by
 rw [Y9 h,WE,Z8 hs] at ha;exact ha
theorem Z2o {op:Int} {xs:List Z4} {acc r:LI} {k:Nat} (h:xs.length<=k) (ha:acc++WE op (xs.drop k)=r):acc=r:=by
 rw [Xn h,WE,Jp] at ha;exact ha
theorem Z6j {xs acc r:LI} {y:Int} {k:Nat} {x:Int} {d:Bool} (h:xs[k]? = some x) (ha:acc++(if d=true then xs.drop k else (xs.drop k).erase y)=r) :
  (if x=y/\¬d=true then acc else acc++[x])++(if ((x==y&&!d)||d)=true then xs.drop (k+1) else (xs.drop (k+1)).erase y)=r:=by
 rw [Y9 h] at ha
 rw [<-ha]
 by_cases hd:d=true
 ·simp [hd]
 ·by_cases hx:x=y
  ·simp [hd,hx]
  ·rw [Z8 (fun z=>hx z.1),Z8 hd,List.erase_cons_tail (by simpa using hx)]
   simp [hd,hx]
theorem Z6i {xs acc r:LI} {y:Int} {k:Nat} {d:Bool} (h:xs.length<=k) (ha:acc++(if d=true then xs.drop k else (xs.drop k).erase y)=r):acc=r:=by
 rw [Xn h] at ha;simpa using ha
section
variable {fs D R:LI} {q k:Nat} {f:Int} {r:LI × LI}
theorem Zcw (h:fs[k]? = some f) (h0:f≠0) (hm:((q+k:Nat):Int)∈D) (ha:Th (fs.drop k) (q+k) D R=r):Th (fs.drop (k+1)) (q+((k+1:Nat):Int)) (D.erase ((q+k:Nat):Int)) R=r:=by
 rw [Y9 h,Th,Zd ⟨h0,by rw [<-Int.natCast_add];exact hm⟩,<-Int.natCast_add] at ha
 rw [<-ha];congr 1
theorem Zcx (h:fs[k]? = some f) (h0:f≠0) (hm:¬((q+k:Nat):Int)∈D) (ha:Th (fs.drop k) (q+k) D R=r):Th (fs.drop (k+1)) (q+((k+1:Nat):Int)) D (R++[((q+k:Nat):Int)])=r:=by
 rw [Y9 h,Th,Z8 (fun z=>hm (by rw [Int.natCast_add];exact z.2)),Zd h0,<-Int.natCast_add] at ha
 rw [<-ha];congr 1
theorem Zcy (h:fs[k]? = some f) (h0:¬f≠0) (ha:Th (fs.drop k) (q+k) D R=r):Th (fs.drop (k+1)) (q+((k+1:Nat):Int)) D R=r:=by
 rw [Y9 h,Th,Z8 (fun z=>h0 z.1),Z8 h0] at ha
 rw [<-ha];congr 1
theorem Zcv (h:fs.length<=k) (ha:Th (fs.drop k) (q+k) D R=r):r=(D,R):=by
 rw [Xn h,Th] at ha;exact ha.symm
end
theorem Z2g {xs:List Z4} {x:Int} {fs:LI} {q:Int} {D R:LI} (h1:x∈WE 15 (xs.take (W4 xs))) (h2:fs.length≠0) (hr:AE xs x fs q=(D,R)):D.map (Zu 14)++[Zu 16 x]++R.map (Zu 15)++xs.drop (W4 xs)=JN xs x fs q:=by
 rw [JN,Zd ⟨h1,h2⟩,hr]
theorem Zf6 {ds:List Zf} {xs:List Z4}:∀{m:Nat},Kt ds xs->∀s∈UP ds m xs,YF s.op=true->∃a,s.args=[a]:=by
 induction xs with
 | nil=>intro m _ s hs;simp [UP] at hs
 | cons t r ih=>
  intro m h s hs ho
  rw [UP] at hs
  rcases YD.1 hs with rfl|hs
  ·rw [Mj] at ho ⊢
   exact (Hf h.1 ho).2.2
  ·exact ih h.2 s hs ho
end Go.Abs
end
namespace Go.Abs
mutual
def Z1.sz:Z1->Nat
 | .mk _ _ kids=>1+XF kids
def XF:List Z1->Nat
 | []=>0
 | e::r=>e.sz+XF r
end
theorem Z1.sz_eq (e:Z1):e.sz=1+XF e.kids:=by cases e;rw [Z1.sz];rfl
theorem DV:∀xs ys:List Z1,XF (xs++ys)=XF xs+XF ys
 | [],ys=>by simp [XF]
 | x::r,ys=>by rw [QT,XF,XF,DV r];omega
theorem C0:∀{xs:List Z1} {k:Nat} {e:Z1},xs[k]? = some e->e.sz<=XF xs
 | [],k,e,h=>by simp at h
 | x::r,0,e,h=>by simp at h;subst h;rw [XF];omega
 | x::r,k+1,e,h=>by have:=C0 (xs:=r) (k:=k) (by simpa using h);rw [XF];omega
theorem Ok:∀{xs:List Z1},xs.length<=XF xs
 | []=>Ku _
 | x::r=>by have:=Ok (xs:=r);have:=x.sz_eq;rw [XF,YT];omega
def Al:Zf:=⟨0,0,[⟨[]⟩,⟨[0,1]⟩]⟩
def Am:Zf:=⟨0,0,[⟨[]⟩,⟨[3,0,3]⟩]⟩
def O2:List Zf:=[⟨0,0,[⟨[1,3]⟩]⟩,⟨1,0,[]⟩,⟨0,0,[⟨[1,1,0]⟩,⟨[0]⟩,⟨[3]⟩]⟩,⟨0,1,[]⟩]
def At:List (List Zf):=[[Al,⟨0,0,[]⟩,Am],[Al,⟨0,0,[]⟩,Am,⟨0,0,[⟨[1,3]⟩]⟩],[Al,⟨0,0,[]⟩,Am,⟨1,0,[]⟩],[Al,⟨0,0,[]⟩,Am,⟨0,0,[⟨[1,1,0]⟩,⟨[0]⟩,⟨[3]⟩]⟩],[Al,⟨0,0,[]⟩,Am,⟨0,1,[]⟩]]
def GD (ds:List Zf):Prop:=ds∈At
theorem GD.ok {ds:List Zf} (h:GD ds):WC ds:=by
 have k:=(by decide:∀ds∈At,ds.length<=4/\(∀d∈ds,d.cons.length<=3)/\∀d∈ds,∀c∈d.cons,c.fields.length<=3) ds h
 exact ⟨k.1,k.2.1,k.2.2⟩
theorem GD.len {ds:List Zf} (h:GD ds):3<=ds.length/\ds.length<=4:=by
 exact (by decide:∀ds∈At,3<=ds.length/\ds.length<=4) ds h
def Ja (t:Int):Prop:=t=0∨t=1∨t=3
instance (t:Int):Decidable (Ja t):=inferInstanceAs (Decidable (_∨_∨_))
theorem GD.low {ds:List Zf} (h:GD ds):ZY ds 0=[]/\ZY ds 1=[0,1]/\ZY ds 2=[]/\ZY ds 3=[2,3]/\ZV ds 0=[]/\ZV ds 1=[0,1]/\ZV ds 2=[]/\ZV ds 3=[3,0,3]:=
 (by decide:∀ds∈At,ZY ds 0=[]/\ZY ds 1=[0,1]/\ZY ds 2=[]/\ZY ds 3=[2,3]/\ZV ds 0=[]/\ZV ds 1=[0,1]/\ZV ds 2=[]/\ZV ds 3=[3,0,3]) ds h
theorem GD.fields {ds:List Zf} (h:GD ds):∀c∈ZY ds 1++(ZY ds 3++ZY ds 4),∀t∈ZV ds c,Ja t:=
 (by decide:∀ds∈At,∀c∈ZY ds 1++(ZY ds 3++ZY ds 4),∀t∈ZV ds c,Ja t) ds h
theorem GD.cons_cases {ds:List Zf} (h:GD ds) {t:Int} {c:Int} (hc:c∈ZY ds t):(0<=c/\c<=9)/\(t=1∨t=3∨t=4)/\(ZV ds c).length<=3/\∀u∈ZV ds c,Ja u:=by
 have ht:1<=t/\t<=ds.length:=by
  by_cases q:1<=t/\t<=ds.length
  ·exact q
  ·rw [ZY,Z8 q] at hc;cases hc
 have hl:=h.len
 have hlow:=h.low
 have key:∀c∈ZY ds 1++(ZY ds 3++ZY ds 4),0<=c/\c<=9:=
  (by decide:∀ds∈At,∀c∈ZY ds 1++(ZY ds 3++ZY ds 4),0<=c/\c<=9) ds h
 have h4:t=1∨t=2∨t=3∨t=4:=by omega
 have hf:=h.fields
 have hd:=Ud h.ok c
 rcases h4 with rfl|rfl|rfl|rfl
 ·exact ⟨key c (Xd.2 (.inl hc)),.inl rfl,hd,hf c (Xd.2 (.inl hc))⟩
 ·rw [hlow.2.2.1] at hc;cases hc
 ·exact ⟨key c (Xd.2 (.inr (Xd.2 (.inl hc)))),.inr (.inl rfl),hd,hf c (Xd.2 (.inr (Xd.2 (.inl hc))))⟩
 ·exact ⟨key c (Xd.2 (.inr (Xd.2 (.inr hc)))),.inr (.inr rfl),hd,hf c (Xd.2 (.inr (Xd.2 (.inr hc))))⟩
def JM:List (LI × Int):=[([],0),([1],0),([1,1],1),([1],1),([1,0],1),([2,1],1),([1,1],0),([3],0),([0],1),([0,1],1),([3,0],3),([3],1),([1,3,0],0),([0],0),([0,0],0),([1,0],0)]
def TC (f:Func):Prop:=(f.params,f.result)∈JM
theorem TC.bd {f:Func} (h:TC f):f.params.length<=3/\(∀t∈f.params,0<=t/\t<=3)/\Ja f.result:=by
 have key:∀q∈JM,q.1.length<=3/\(∀t∈q.1,0<=t/\t<=3)/\Ja q.2:=by decide
 exact key _ h
theorem TC.clo {ds:List Zf} {f:Func} (hd:GD ds) (h:TC f) (hp:0<Ux ds (gI f.params ((f.params.length:Int)-1)) f.result):∀t∈f.params.dropLast,Ja t:=by
 have key:∀q∈JM,0<Ux ds (gI q.1 ((q.1.length:Int)-1)) q.2->∀t∈q.1.dropLast,Ja t:=
  (by decide +kernel:∀ds∈At,∀q∈JM,0<Ux ds (gI q.1 ((q.1.length:Int)-1)) q.2->∀t∈q.1.dropLast,Ja t) ds hd
 exact key _ h hp
structure GP (p:Wg):Prop where
 decls:GD p.decls
 len:1<=p.funcs.length/\p.funcs.length<=4
 sigs:∀f∈p.funcs,TC f
def Qe (ds:List Zf) (op num:Int) (m:Nat) (k:Nat):Nat:=
 if op=13 then m+k else if op=8 then (if k=0 then m else m+(ZV ds (gI (ZY ds num) ((k:Int)-1))).length) else m
mutual
def eW (ds:List Zf) (nf:Nat):Nat->Z1->Prop
 | m,.mk op num kids=>(0<=op/\op<=13)/\(op=12->kids=[]/\0<=num/\num<m)/\(op=13->kids.length=2)/\(op=7->kids.length=3)/\(op=8->kids.length=1+(ZY ds num).length)/\(op=9->0<=num/\num<nf)/\(-2000<=num/\num<=2000)/\kids.length<=4 /\
  K7 ds nf (Qe ds op num m) 0 kids
def K7 (ds:List Zf) (nf:Nat) (sc:Nat->Nat):Nat->List Z1->Prop
 | _,[]=>True
 | k,e::r=>eW ds nf (sc k) e/\K7 ds nf sc (k+1) r
end
theorem Z6c {ds:List Zf} {nf m:Nat} (e:Z1):eW ds nf m e↔(0<=e.op/\e.op<=13)/\(e.op=12->e.kids=[]/\0<=e.num/\e.num<m)/\(e.op=13->e.kids.length=2)/\(e.op=7->e.kids.length=3)/\(e.op=8->e.kids.length=1+(ZY ds e.num).length)/\(e.op=9->0<=e.num/\e.num<nf)/\(-2000<=e.num/\e.num<=2000)/\e.kids.length<=4 /\
  K7 ds nf (Qe ds e.op e.num m) 0 e.kids:=by cases e;rw [eW];rfl
theorem CK {ds:List Zf} {nf:Nat} {sc:Nat->Nat}:∀{xs:List Z1} {j k:Nat} {e:Z1},K7 ds nf sc j xs->xs[k]? = some e->eW ds nf (sc (j+k)) e
 | [],j,k,e,_,h=>by simp at h
 | x::r,j,0,e,hw,h=>by simp at h;subst h;exact hw.1
 | x::r,j,k+1,e,hw,h=>by
  have:=CK (xs:=r) (j:=j+1) (k:=k) hw.2 (by simpa using h)
  rw [show j+(k+1)=j+1+k by omega];exact this
theorem Of {ds:List Zf} {nf:Nat} {sc:Nat->Nat}:∀{xs ys:List Z1} {j:Nat},K7 ds nf sc j (xs++ys)↔K7 ds nf sc j xs/\K7 ds nf sc (j+xs.length) ys
 | [],ys,j=>by simp [K7]
 | x::r,ys,j=>by
  rw [QT,K7,K7,Of (xs:=r),and_assoc,YT,show j+1+r.length=j+(r.length+1) by omega]
theorem Iq {ds:List Zf} {nf m:Nat} {sc:Nat->Nat} (hs:∀k,sc k=m):∀{xs:List Z1} {j:Nat},(∀e∈xs,eW ds nf m e)->K7 ds nf sc j xs
 | [],_,_=>True.intro
 | x::r,j,h=>⟨by rw [hs];exact h x (Xs ..),Iq hs fun e he=>h e (XL _ he)⟩
theorem BZ {ds:List Zf} {nf m:Nat} {op num:Int} {kids:List Z1} (ho:0<=op/\op<=11/\op≠7/\op≠8) (hc:op=9->0<=num/\num<nf) (hn:-2000<=num/\num<=2000) (hl:kids.length<=4) (hk:∀e∈kids,eW ds nf m e):eW ds nf m (.mk op num kids):=by
 rw [eW]
 refine ⟨by omega,fun h=>by omega,fun h=>by omega,fun h=>by omega,fun h=>by omega,hc,hn,hl,Iq (m:=m) (fun k=>?_) hk⟩
 rw [Qe,Z8 om,Z8 om]
theorem Z6d {ds:List Zf} {nf m:Nat} {z:Int} (hz:-2000<=z/\z<=2000):eW ds nf m (.mk 0 z []):=BZ om (fun h=>by omega) hz (by simp) (fun e he=>by cases he)
theorem Z6e {ds:List Zf} {nf m:Nat} {z:Int} (hz:0<=z/\z<m) (hm:m<=2000):eW ds nf m (.mk 12 z []):=by
 rw [eW]
 exact ⟨by omega,fun _=>⟨rfl,hz⟩,fun h=>by omega,fun h=>by omega,fun h=>by omega,fun h=>by omega,by omega,by simp,True.intro⟩
theorem Od {ds:List Zf} {nf m:Nat} {num:Int} {kids:List Z1} (hn:-2000<=num/\num<=2000) (hl:kids.length=3) (hk:∀e∈kids,eW ds nf m e):eW ds nf m (.mk 7 num kids):=by
 rw [eW]
 refine ⟨by omega,fun h=>by omega,fun h=>by omega,fun _=>hl,fun h=>by omega,fun h=>by omega,hn,by omega,Iq (m:=m) (fun k=>?_) hk⟩
 rw [Qe,Z8 om,Z8 om]
theorem Oe {ds:List Zf} {nf m:Nat} {num:Int} {a b:Z1} (hn:-2000<=num/\num<=2000) (ha:eW ds nf m a) (hb:eW ds nf (m+1) b):eW ds nf m (.mk 13 num [a,b]):=by
 rw [eW]
 exact ⟨by omega,fun h=>by omega,fun _=>rfl,fun h=>by omega,fun h=>by omega,fun h=>by omega,hn,by simp,ha,hb,True.intro⟩
theorem Ip {ds:List Zf} {nf m:Nat} {num:Int} {a:Z1} {arms:List Z1} (hn:-2000<=num/\num<=2000) (h3:arms.length<=3) (hl:arms.length=(ZY ds num).length) (ha:eW ds nf m a) (hk:K7 ds nf (Qe ds 8 num m) 1 arms):eW ds nf m (.mk 8 num (a::arms)):=by
 rw [eW]
 refine ⟨by omega,fun h=>by omega,fun h=>by omega,fun h=>by omega,fun _=>by rw [YT];omega,fun h=>by omega,hn,by rw [YT];omega,?_,hk⟩
 rw [Qe,Z8 om,Zd rfl,Zd rfl]
 exact ha
def bS (b:Nat):Nat:=max 4 (10*b-10)
def bC (b:Nat):Nat:=max 40 (100*b-100)
def X5:List Z4->Nat
 | []=>0
 | s::r=>(if YF s.op=true then 0 else 1)+X5 r
theorem Jw:∀xs ys:List Z4,X5 (xs++ys)=X5 xs+X5 ys
 | [],ys=>by simp [X5]
 | x::r,ys=>by rw [QT,X5,X5,Jw r];omega
theorem B6:∀xs:List Z4,X5 xs<=xs.length
 | []=>X7 _
 | x::r=>by have:=B6 r;rw [X5,YT];split<;>omega
def T0 (ds:List Zf) (op num:Int) (m:Nat) (k:Nat):Nat:=if op=8 then m+(ZV ds (gI (ZY ds num) k)).length else m
mutual
def fS (ds:List Zf) (nf:Nat):Nat->Z4->Prop
 | m,.mk op num into args kids=>((0<=op/\op<=11)∨(14<=op/\op<=17))/\(∀a∈args,0<=a/\a<m)/\(14<=op->num=0/\into=0/\kids=[]/\∃a,args=[a])/\(op=7->kids.length=2)/\(op=8->kids.length=(ZY ds num).length)/\(op=7∨op=8->∃a,args=[a]) /\
  (op=9->0<=num/\num<nf)/\(-2000<=num/\num<=2000)/\(0<=into/\into<=m)/\args.length<=4/\(op≠7/\op≠8->kids=[])/\TS ds nf (T0 ds op num m) 0 kids
def TS (ds:List Zf) (nf:Nat) (sc:Nat->Nat):Nat->List Z6->Prop
 | _,[]=>True
 | k,b::r=>fB ds nf (sc k) b/\TS ds nf sc (k+1) r
def Tt (ds:List Zf) (nf:Nat):Nat->List Z4->Prop
 | _,[]=>True
 | m,s::r=>fS ds nf m s/\Tt ds nf (if YF s.op=true then m else m+1) r
def fB (ds:List Zf) (nf:Nat):Nat->Z6->Prop
 | m,.mk steps result=>Tt ds nf m steps/\0<=result/\result<(m+X5 steps:Nat)
end
section
variable {ds:List Zf} {nf:Nat}
structure FS (ds:List Zf) (nf m:Nat) (s:Z4):Prop where
 op:(0<=s.op/\s.op<=11)∨(14<=s.op/\s.op<=17)
 args:∀a∈s.args,0<=a/\a<m
 cnt:14<=s.op->s.num=0/\s.into=0/\s.kids=[]/\∃a,s.args=[a]
 k7:s.op=7->s.kids.length=2
 k8:s.op=8->s.kids.length=(ZY ds s.num).length
 one:s.op=7∨s.op=8->∃a,s.args=[a]
 call:s.op=9->0<=s.num/\s.num<nf
 num:-2000<=s.num/\s.num<=2000
 into:0<=s.into/\s.into<=m
 alen:s.args.length<=4
 kn:s.op≠7/\s.op≠8->s.kids=[]
 kids:TS ds nf (T0 ds s.op s.num m) 0 s.kids
theorem FD {m:Nat} (s:Z4):fS ds nf m s↔FS ds nf m s:=by
 cases s
 rw [fS]
 exact ⟨fun ⟨h1,h2,h3,h4,h5,h6,h7,h8,h9,h10,h11,h12⟩=>⟨h1,h2,h3,h4,h5,h6,h7,h8,h9,h10,h11,h12⟩,fun h=>⟨h.op,h.args,h.cnt,h.k7,h.k8,h.one,h.call,h.num,h.into,h.alen,h.kn,h.kids⟩⟩
theorem DX {m:Nat} (b:Z6):fB ds nf m b↔Tt ds nf m b.steps/\0<=b.result/\b.result<(m+X5 b.steps:Nat):=by cases b;rw [fB];rfl
theorem DY {sc:Nat->Nat}:∀{xs:List Z6} {j k:Nat} {b:Z6},TS ds nf sc j xs->xs[k]? = some b->fB ds nf (sc (j+k)) b
 | [],j,k,b,_,h=>by simp at h
 | x::r,j,0,b,hw,h=>by simp at h;subst h;exact hw.1
 | x::r,j,k+1,b,hw,h=>by
  have:=DY (xs:=r) (j:=j+1) (k:=k) hw.2 (by simpa using h)
  rw [show j+(k+1)=j+1+k by omega];exact this
theorem Om {sc:Nat->Nat}:∀{xs ys:List Z6} {j:Nat},TS ds nf sc j (xs++ys)↔TS ds nf sc j xs/\TS ds nf sc (j+xs.length) ys
 | [],ys,j=>by simp [TS]
 | x::r,ys,j=>by
  rw [QT,TS,TS,Om (xs:=r),and_assoc,YT,show j+1+r.length=j+(r.length+1) by omega]
theorem On {sc:Nat->Nat} {xs:List Z6} {b:Z6} (h:TS ds nf sc 0 xs) (hb:fB ds nf (sc xs.length) b):TS ds nf sc 0 (xs++[b]):=
 Om.2 ⟨h,by rw [Vu];exact hb,True.intro⟩
theorem CN:∀{xs ys:List Z4} {m:Nat},Tt ds nf m (xs++ys)↔Tt ds nf m xs/\Tt ds nf (m+X5 xs) ys
 | [],ys,m=>by simp [Tt,X5]
 | x::r,ys,m=>by
  rw [QT,Tt,Tt,CN (xs:=r),and_assoc,X5]
  by_cases h:YF x.op=true
  ·rw [Zd h,Zd h,Vu]
  ·rw [Z8 h,Z8 h,AR]
theorem FE {xs:List Z4} {s:Z4} {m:Nat} (h:Tt ds nf m xs) (hs:fS ds nf (m+X5 xs) s):Tt ds nf m (xs++[s]):=CN.2 ⟨h,hs,True.intro⟩
theorem DZ:∀{xs:List Z4} {k m:Nat} {s:Z4},Tt ds nf m xs->xs[k]? = some s->fS ds nf (m+X5 (xs.take k)) s
 | [],k,m,s,_,h=>by simp at h
 | x::r,0,m,s,hw,h=>by simp at h;subst h;exact hw.1
 | x::r,k+1,m,s,hw,h=>by
  have:=DZ (xs:=r) (k:=k) hw.2 (by simpa using h)
  rw [AQ,X5]
  by_cases hc:YF x.op=true
  ·rw [Zd hc] at this ⊢;rw [Vu];exact this
  ·rw [Z8 hc] at this ⊢;rw [<-AR];exact this
mutual
theorem Zi4:∀(s:Z4) {m:Nat},fS ds nf m s->m+4*s.sz<=900000000->WC ds->wS ds s
 | .mk op num into args kids,m,h,hb,hd=>by
  rw [fS] at h
  obtain ⟨h1,h2,h3,h4,h5,h6,h7,h8,h9,h10,h11,h12⟩:=h
  rw [Z4.sz] at hb
  rw [wS]
  refine ⟨?_,fun hc=>h3 (show 14<=op/\op<=17 by simpa [YF] using hc).1,fun h8'=>⟨?_,h5 h8'⟩,Z1g kids h12 (fun k=>?_) hd⟩
  ·rcases h1 with h1|h1
   ·have e1:YF op=false:=by simp [YF];omega
    have e2:XR op=true:=by simp [XR];omega
    rw [e1,e2];rfl
   ·have e1:YF op=true:=by simp [YF];omega
    have e2:XR op=false:=by simp [XR];omega
    rw [e1,e2];rfl
  ·obtain ⟨a,ha⟩:=h6 (.inr h8')
   have:=h2 a (by rw [ha];exact XI.2 rfl)
   exact ⟨a,ha,by omega⟩
  ·have hf:=Ud hd (gI (ZY ds num) k)
   show T0 ds op num m k+4*Xc kids<=900000003
   rw [T0];split<;>omega
theorem Z1g:∀(bs:List Z6) {sc:Nat->Nat} {k:Nat},TS ds nf sc k bs->(∀k,sc k+4*Xc bs<=900000003)->WC ds->AL ds bs
 | [],_,_,_,_,_=>True.intro
 | b::r,sc,k,h,hb,hd=>by
  have hp:=b.sz_eq
  exact ⟨Z1f b h.1 (by have:=hb k;rw [Xc] at this;omega) hd,Z1g r h.2 (fun j=>by have:=hb j;rw [Xc] at this;omega) hd⟩
theorem Z1h:∀(xs:List Z4) {m:Nat},Tt ds nf m xs->m+4*Yb xs<=900000000->WC ds->Kt ds xs
 | [],_,_,_,_=>True.intro
 | s::r,m,h,hb,hd=>by
  rw [Yb] at hb
  have hp:=s.sz_pos
  refine ⟨Zi4 s h.1 om hd,Z1h r h.2 ?_ hd⟩
  split<;>omega
theorem Z1f:∀(b:Z6) {m:Nat},fB ds nf m b->m+4*b.sz<=900000004->WC ds->wB ds b
 | .mk steps result,m,h,hb,hd=>by
  rw [Z6.sz] at hb
  rw [fB] at h
  rw [wB]
  exact Z1h steps h.1 om hd
end
mutual
theorem Zdn:∀(s:Z4) {m:Nat},fS ds nf m s->s.rng
 | .mk op num into args kids,m,h=>by
  rw [fS] at h
  obtain ⟨h1,h2,h3,h4,h5,h6,h7,h8,h9,h10,h11,h12⟩:=h
  rw [Z4.rng]
  exact ⟨by omega,S9 kids h12⟩
theorem S9:∀(bs:List Z6) {sc:Nat->Nat} {k:Nat},TS ds nf sc k bs->K0 bs
 | [],_,_,_=>True.intro
 | b::r,sc,k,h=>⟨LX b h.1,S9 r h.2⟩
theorem Sa:∀(xs:List Z4) {m:Nat},Tt ds nf m xs->UQ xs
 | [],_,_=>True.intro
 | s::r,m,h=>⟨Zdn s h.1,Sa r h.2⟩
theorem LX:∀(b:Z6) {m:Nat},fB ds nf m b->b.rng
 | .mk steps result,m,h=>by rw [fB] at h;rw [Z6.rng];exact Sa steps h.1
end
end
structure FN (n:Zi) (q:Nat):Prop where
 decls:GD n.decls
 len:1<=n.routines.length/\n.routines.length<=4
 sigs:∀r∈n.routines,(r.params,r.result)∈JM
 lent:∀r∈n.routines,r.lent.length<=3/\∀i∈r.lent,0<=i/\i<r.params.length
 body:∀r∈n.routines,fB n.decls n.routines.length r.params.length r.body/\r.body.sz<=q
theorem FN.ok {n:Zi} {q:Nat} (h:FN n q):X6 n:=
 ⟨h.decls.ok,h.len.2,fun r hr=>(TC.bd (f:=⟨r.params,r.result,default⟩) (h.sigs r hr)).1,fun r hr=>by have:=(h.lent r hr).1;omega⟩
def Pk (n k:Int):Prop:=0<=k/\(0<n->k<n)/\(n<=0->k=0)
theorem Pk.lt {n k:Int} (h:Pk n k) (hn:0<n):0<=k/\k<n:=⟨h.1,h.2.1 hn⟩
theorem Pk.zero {n:Int}:Pk n 0:=⟨Int.le_refl _,fun h=>h,fun _=>rfl⟩
theorem Pk.rem {n a:Int} (ha:0<=a) (hn:0<n):Pk n (a % n):=⟨Int.emod_nonneg _ om,fun _=>Int.emod_lt_of_pos _ hn,fun _=>by omega⟩
def AD (ds:List Zf):Prop:=ds.length<=8/\∀d∈ds,d.cons.length<=4/\∀c∈d.cons,c.fields.length<=4
theorem GD.ad {ds:List Zf} (h:GD ds):AD ds:=(by decide:∀ds∈At,ds.length<=8/\∀d∈ds,d.cons.length<=4/\∀c∈d.cons,c.fields.length<=4) ds h
theorem AD.set {ds:List Zf} (h:AD ds) (k:Nat) {d:Zf} (hd:d.cons.length<=4/\∀c∈d.cons,c.fields.length<=4):AD (ds.set k d):=
 ⟨by rw [Vc];exact h.1,fun x hx=>(List.mem_or_eq_of_mem_set hx).elim (h.2 x) fun e=>by rw [e];exact hd⟩
theorem AD.app {ds es:List Zf} (h:AD ds) (hl:ds.length+es.length<=8) (hd:∀d∈es,d.cons.length<=4/\∀c∈d.cons,c.fields.length<=4):AD (ds++es):=
 ⟨by rw [Yt];exact hl,fun x hx=>(Xd.1 hx).elim (h.2 x) (hd x)⟩
theorem GD.three:GD [Al,⟨0,0,[]⟩,Am]:=List.Mem.head _
theorem GD.four:∀{k:Nat} {x:Zf},O2[k]? = some x->GD ([Al,⟨0,0,[]⟩,Am]++[x])
 | 0,x,h=>by cases h;exact .tail _ (.head _)
 | 1,x,h=>by cases h;exact .tail _ (.tail _ (.head _))
 | 2,x,h=>by cases h;exact .tail _ (.tail _ (.tail _ (.head _)))
 | 3,x,h=>by cases h;exact .tail _ (.tail _ (.tail _ (.tail _ (.head _))))
 | k+4,x,h=>by simp [O2] at h
theorem Bp {l:LI} {z a b:Int} (h:z∈l) (hl:l.all (fun x=>decide (a<=x/\x<=b))=true):a<=z/\z<=b:=by
 have:=JJ.1 hl z h
 exact of_decide_eq_true this
def rk (t:Int):Nat:=if Ja t then 0 else 1
theorem LV (t:Int):rk t<=1:=by rw [rk];split<;>omega
theorem S8 {t:Int} (h:Ja t):rk t=0:=Zd h
def SE (g:Wg) (q:Nat) (e:Z1):Prop:=(∀m,eW g.decls g.funcs.length m e)/\e.sz<=q
def GE (g:Wg) (m q:Nat) (e:Z1):Prop:=eW g.decls g.funcs.length m e/\e.sz<=q
theorem SE.ge {g:Wg} {q q' m:Nat} {e:Z1} (h:SE g q e) (hq:q<=q'):GE g m q' e:=⟨h.1 m,VE h.2 hq⟩
theorem GE.le {g:Wg} {m q q':Nat} {e:Z1} (h:GE g m q e) (hq:q<=q'):GE g m q' e:=⟨h.1,VE h.2 hq⟩
theorem FC {m:Nat}:∀{xs:List Z1},(∀e∈xs,e.sz<=m)->XF xs<=xs.length*m
 | [],_=>Ku _
 | x::r,h=>by
  have h1:=h x (Xs ..)
  have h2:=FC (xs:=r) fun e he=>h e (XL _ he)
  rw [XF,YT,Qy];omega
theorem XJ {α:Type} {p:α->Prop} {xs:List α} {a:α} (h:∀x∈xs,p x) (ha:p a):∀x∈xs++[a],p x:=fun x hx=>(Xd.1 hx).elim (h x) fun q=>by rw [XI.1 q];exact ha
theorem SE.int {g:Wg} {z:Int} {q:Nat} (hz:-2000<=z/\z<=2000) (hq:1<=q):SE g q (.mk 0 z []):=⟨fun _=>Z6d hz,by simpa [Z1.sz,XF] using hq⟩
theorem SE.node {g:Wg} {op num:Int} {ys:List Z1} {q k:Nat} (ho:op=6∨op=10) (hn:0<=num/\num<=2000) (hy:∀e∈ys,SE g 1 e) (hl:ys.length<=k) (hk:k<=3) (hq:1+k<=q):SE g q (.mk op num ys):=by
 refine ⟨fun m=>BZ om (fun h=>by omega) om om fun e he=>(hy e he).1 m,?_⟩
 have:=FC (xs:=ys) (m:=1) fun e he=>(hy e he).2
 rw [Z1.sz];omega
def AX (ds:List Zf) (t c:Int):Prop:=(0<=c/\c<=9)/\(ZV ds c).length<=3*rk t/\∀u∈ZV ds c,Ja u
instance (ds:List Zf) (t c:Int):Decidable (AX ds t c):=inferInstanceAs (Decidable (_/\_/\_))
theorem Sx {ds:List Zf} (h:GD ds):∀t∈[(1:Int),2,3,4],∀c∈ZY ds t,(t∈ZV ds c->∀c0,(ZY ds t)[0]? = some c0->AX ds t c0)/\(¬t∈ZV ds c->AX ds t c):=by
 intro t ht c hc
 have k1:=(by decide:∀ds∈At,∀t∈[(1:Int),2,3,4],∀c∈ZY ds t,(t∈ZV ds c->AX ds t (gI (ZY ds t) 0))/\(¬t∈ZV ds c->AX ds t c)) ds h t ht c hc
 refine ⟨fun q c0 h0=>?_,k1.2⟩
 have:=k1.1 q
 rwa [VH (i:=0) h0] at this
theorem NR {ds:List Zf} (h:GD ds) {t c:Int} (hc:c∈ZY ds t):t∈[(1:Int),2,3,4]:=by
 obtain ⟨_,h2,_⟩:=h.cons_cases hc
 rcases h2 with rfl|rfl|rfl<;>simp
theorem Zem {ds:List Zf} (h:GD ds) {t c c0:Int} (hc:c∈ZY ds t) (ht:t∈ZV ds c) (h0:(ZY ds t)[0]? = some c0):AX ds t c0:=(Sx h t (NR h hc) c hc).1 ht c0 h0
theorem Zel {ds:List Zf} (h:GD ds) {t c:Int} (hc:c∈ZY ds t) (ht:¬t∈ZV ds c):AX ds t c:=(Sx h t (NR h hc) c hc).2 ht
theorem Zdm {ds:List Zf} (h:GD ds) {t:Int} (h0:(ZY ds t).length=0) (ht:0<t):rk t=1:=by
 rw [rk,Z8]
 rintro (q|q|q)
 ·omega
 ·rw [q,h.low.2.1] at h0;cases h0
 ·rw [q,h.low.2.2.2.1] at h0;cases h0
def Aa (g:Wg) (t i:Int):Prop:=0<=i/\∃f,g.funcs[i.toNat]? = some f/\0<f.params.length/\Ux g.decls (gI f.params ((f.params.length:Int)-1)) f.result=t
theorem Aa.lt {g:Wg} {t i:Int} (h:Aa g t i):0<=i/\i<g.funcs.length:=by
 obtain ⟨h1,f,h2,_⟩:=h
 have:=(Xq.1 h2).1
 omega
theorem Aa.mk {g:Wg} {t x2:Int} {k:Nat} {f:Func} (hf:g.funcs[k]? = some f) (hl:0<f.params.length) (hx:f.params[f.params.length-1]? = some x2) (ha:Ux g.decls x2 f.result=t):Aa g t (k:Int):=by
 refine ⟨by omega,f,by simpa using hf,hl,?_⟩
 rw [VH (i:=(f.params.length:Int)-1) (by rw [show ((f.params.length:Int)-1).toNat=f.params.length-1 by omega];exact hx)]
 exact ha
theorem Aa.low {g:Wg} {t i u:Int} {f:Func} {j:Nat} (hg:GP g) (h:Aa g t i) (ht:0<t) (hf:g.funcs[i.toNat]? = some f) (hj:j+1<f.params.length) (hu:f.params[j]? = some u):rk u=0:=by
 obtain ⟨_,f',h2,_,h4⟩:=h
 have e:f'=f:=Qh (h2.symm.trans hf)
 subst e
 have h5:=(hg.sigs f' (ZW hf)).clo hg.decls (by rw [h4];exact ht)
 refine S8 (h5 u ?_)
 rw [List.dropLast_eq_take]
 exact ZW (i:=j) (by rw [List.getElem?_take_of_lt om];exact hu)
end Go.Abs
section
namespace Go.Abs
theorem JR (b:Nat):bS b=max 4 (10*b-10):=rfl
theorem JQ (b:Nat):bC b=max 40 (100*b-100):=rfl
theorem Ej {L q b:Nat} (hL:L<=3) (hb:3<=b) (hq:L*q<=b-1):1+L*bS q<=bS b:=by
 rw [JR,JR]
 have:L=0∨L=1∨L=2∨L=3:=by omega
 rcases this with rfl|rfl|rfl|rfl<;>omega
theorem Zc1 {L q b:Nat} (hL:L<=3) (hb:3<=b) (hq:L*q<=b-2):5+L*bS q<=bS b:=by
 rw [JR,JR]
 have:L=0∨L=1∨L=2∨L=3:=by omega
 rcases this with rfl|rfl|rfl|rfl<;>omega
theorem Zbx {b:Nat} (hb:3<=b):1+(bS (b / 2)+bS (b / 2))<=bS b:=by rw [JR,JR];omega
theorem Z2i {b:Nat} (hb:3<=b):5+bS (b-2)<=bS b:=by rw [JR,JR];omega
theorem AC {L q b:Nat} (hL:L<=3) (hb:3<=b) (hq:L*q<=b-1):10+L*bC q<=bC b:=by
 rw [JQ,JQ]
 have:L=0∨L=1∨L=2∨L=3:=by omega
 rcases this with rfl|rfl|rfl|rfl<;>omega
theorem Zc0 {L q b:Nat} (hL:L<=3) (hb:3<=b) (hq:L*q<=b-2):40+L*bC q<=bC b:=by
 rw [JQ,JQ]
 have:L=0∨L=1∨L=2∨L=3:=by omega
 rcases this with rfl|rfl|rfl|rfl<;>omega
theorem Zbw {b:Nat} (hb:3<=b):10+(bC (b / 2)+bC (b / 2))<=bC b:=by rw [JQ,JQ];omega
theorem Z2h {b:Nat} (hb:3<=b):40+bC (b-2)<=bC b:=by rw [JQ,JQ];omega
theorem Nl (b:Nat):4<=bS b:=by rw [JR];omega
theorem Nk (b:Nat):40<=bC b:=by rw [JQ];omega
theorem Qm (L b:Nat):L*(b / L)<=b:=Nat.mul_div_le b L
theorem Rk {k L C:Nat} (h:k<L):(k+1)*C=k*C+C/\(k+1)*C<=L*C:=⟨by rw [Qy,Nat.one_mul],QV C h⟩
theorem Dm {ds:List Zf} {d x:Int} {m k:Nat} (h:(ZY ds d)[k]? = some x):Qe ds 8 d m (1+k)=m+(ZV ds x).length:=by
 rw [Qe,Z8 om,Zd rfl,Z8 om,VH (i:=((1+k:Nat):Int)-1) (by rw [show (((1+k:Nat):Int)-1).toNat=k by omega];exact h)]
section
variable {g:Wg} {m:Nat}
theorem GE.var {z:Int} {q:Nat} (hz:0<=z/\z<m) (hm:m<=2000) (hq:1<=q):GE g m q (.mk 12 z []):=⟨Z6e hz hm,by simpa [Z1.sz,XF] using hq⟩
theorem GE.list {ys:List Z1} {L s:Nat} (h:∀e∈ys,GE g m s e) (hl:ys.length=L):XF ys<=L*s:=by rw [<-hl];exact FC fun e he=>(h e he).2
theorem GE.node {op num:Int} {ys:List Z1} {L s q:Nat} (ho:0<=op/\op<=11/\op≠7/\op≠8) (hc:op=9->0<=num/\num<g.funcs.length) (hn:-2000<=num/\num<=2000) (h:∀e∈ys,GE g m s e) (hl:ys.length=L) (hL:L<=3) (hq:1+L*s<=q):GE g m q (.mk op num ys):=by
 have:=GE.list h hl
 exact ⟨BZ ho hc hn om fun e he=>(h e he).1,by rw [Z1.sz];omega⟩
theorem GE.if_ {num:Int} {ys:List Z1} {s q:Nat} (hn:-2000<=num/\num<=2000) (h:∀e∈ys,GE g m s e) (hl:ys.length=3) (hq:1+3*s<=q):GE g m q (.mk 7 num ys):=by
 have:=GE.list h hl
 exact ⟨Od hn hl fun e he=>(h e he).1,by rw [Z1.sz];omega⟩
theorem GE.let_ {a b:Z1} {s q:Nat} (ha:GE g m s a) (hb:GE g (m+1) s b) (hq:1+(s+s)<=q):GE g m q (.mk 13 0 [a,b]):=by
 refine ⟨Oe om ha.1 hb.1,?_⟩
 have h1:=ha.2
 have h2:=hb.2
 simp only [Z1.sz,XF];omega
theorem GE.two {op num:Int} {a b:Z1} {s1 s2 q:Nat} (ho:0<=op/\op<=11/\op≠7/\op≠8/\op≠9) (hn:-2000<=num/\num<=2000) (ha:GE g m s1 a) (hb:GE g m s2 b) (hq:1+(s1+s2)<=q):GE g m q (.mk op num [a,b]):=by
 refine ⟨BZ om (fun h=>by omega) hn (by simp) fun e he=>?_,?_⟩
 ·rcases YD.1 he with rfl|he
  ·exact ha.1
  ·rw [XI.1 he];exact hb.1
 ·have h1:=ha.2
  have h2:=hb.2
  simp only [Z1.sz,XF];omega
theorem GE.match_ {d:Int} {e:Z1} {ys:List Z1} {L s q:Nat} (hd:-2000<=d/\d<=2000) (he:GE g m 4 e) (hw:K7 g.decls g.funcs.length (Qe g.decls 8 d m) 1 ys) (hs:∀e∈ys,e.sz<=s) (hl:ys.length=L) (hL:L=(ZY g.decls d).length) (h3:L<=3) (hq:5+L*s<=q):GE g m q (.mk 8 d (e::ys)):=by
 refine ⟨Ip hd om om he.1 hw,?_⟩
 have h1:=FC hs
 rw [hl] at h1
 have h2:=he.2
 rw [Z1.sz,XF];omega
end
def NL (s:Nat) (left w:Int):Prop:=((s:Int)<=left/\w=left-s)∨(left<s/\w=-1)
end Go.Abs
namespace Go.Abs
theorem Cb {L b p pp M:Nat} (hL:L<=3) (hb:3<=b) (h:pp<=p+8) (hp:p+(bC b-1)<=M):pp+L*bC ((b-1) / L)<=M:=by
 have:=AC hL hb (Qm L (b-1))
 omega
end Go.Abs
end
namespace Go.Abs
theorem Z6k (a b:Z1):XF [a,b]=a.sz+b.sz:=by simp only [XF];omega
theorem FB (a b c:Z1):XF [a,b,c]=a.sz+b.sz+c.sz:=by simp only [XF];omega
theorem DH:bS 3=20/\bS 4=30/\bS 12=110/\bS 16=150/\bS 18=170/\bC 3=200/\bC 4=300/\bC 16=1500:=by decide
theorem F5 {b:Nat} (h:b<=20):bS b<=190/\bC b<=1900/\(b<=2->bS b<=10):=by rw [JR,JQ];omega
section
variable {g:Wg} {m:Nat}
theorem SE.ofs {op num:Int} {ys:List Z1} {q:Nat} (ho:0<=op/\op<=11/\op≠7/\op≠8/\op≠9) (hn:-2000<=num/\num<=2000) (hl:ys.length<=4) (hy:∀e∈ys,∃s,SE g s e) (hq:1+XF ys<=q):SE g q (.mk op num ys):=
 ⟨fun m=>BZ om (fun h=>by omega) hn hl fun e he=>let ⟨_,h⟩:=hy e he;h.1 m,by rw [Z1.sz];exact hq⟩
theorem SE.nil {op num:Int} {q:Nat} (ho:0<=op/\op<=11/\op≠7/\op≠8/\op≠9) (hn:-2000<=num/\num<=2000) (hq:1<=q):SE g q (.mk op num []):=
 SE.ofs ho hn (by simp) (fun e he=>by cases he) (by simpa [XF] using hq)
theorem SE.two {op num:Int} {a b:Z1} {s1 s2 q:Nat} (ho:0<=op/\op<=11/\op≠7/\op≠8/\op≠9) (hn:-2000<=num/\num<=2000) (ha:SE g s1 a) (hb:SE g s2 b) (hq:1+(s1+s2)<=q):SE g q (.mk op num [a,b]):=by
 refine SE.ofs ho hn (by simp) (fun e he=>?_) ?_
 ·rcases YD.1 he with rfl|he
  ·exact ⟨_,ha⟩
  ·rw [XI.1 he];exact ⟨_,hb⟩
 ·have h1:=ha.2
  have h2:=hb.2
  rw [Z6k];omega
theorem SE.three {op num:Int} {a b c:Z1} {s1 s2 s3 q:Nat} (ho:0<=op/\op<=11/\op≠7/\op≠8/\op≠9) (hn:-2000<=num/\num<=2000) (ha:SE g s1 a) (hb:SE g s2 b) (hc:SE g s3 c) (hq:1+(s1+s2+s3)<=q):SE g q (.mk op num [a,b,c]):=by
 refine SE.ofs ho hn (by simp) (fun e he=>?_) ?_
 ·rcases YD.1 he with rfl|he
  ·exact ⟨_,ha⟩
  ·rcases YD.1 he with rfl|he
   ·exact ⟨_,hb⟩
   ·rw [XI.1 he];exact ⟨_,hc⟩
 ·have h1:=ha.2
  have h2:=hb.2
  have h3:=hc.2
  rw [FB];omega
theorem GE.int {z:Int} {q:Nat} (hz:-2000<=z/\z<=2000) (hq:1<=q):GE g m q (.mk 0 z []):=(SE.int (g:=g) (q:=q) hz hq).ge (X7 _)
theorem GE.three {op num:Int} {a b c:Z1} {s1 s2 s3 q:Nat} (ho:0<=op/\op<=11/\op≠8/\op≠9) (hn:-2000<=num/\num<=2000) (ha:GE g m s1 a) (hb:GE g m s2 b) (hc:GE g m s3 c) (hq:1+(s1+s2+s3)<=q):GE g m q (.mk op num [a,b,c]):=by
 have hk:∀e∈[a,b,c],eW g.decls g.funcs.length m e:=fun e he=>by
  rcases YD.1 he with rfl|he
  ·exact ha.1
  ·rcases YD.1 he with rfl|he
   ·exact hb.1
   ·rw [XI.1 he];exact hc.1
 refine ⟨?_,?_⟩
 ·by_cases h7:op=7
  ·subst h7;exact Od hn rfl hk
  ·exact BZ om (fun h=>by omega) hn (by simp) hk
 ·have h1:=ha.2
  have h2:=hb.2
  have h3:=hc.2
  rw [Z1.sz,FB];omega
theorem GE.one {op num:Int} {a:Z1} {s1 q:Nat} (ho:0<=op/\op<=11/\op≠7/\op≠8/\op≠9) (hn:-2000<=num/\num<=2000) (ha:GE g m s1 a) (hq:1+s1<=q):GE g m q (.mk op num [a]):=by
 refine ⟨BZ om (fun h=>by omega) hn (by simp) fun e he=>?_,?_⟩
 ·rw [XI.1 he];exact ha.1
 ·have h1:=ha.2
  simp only [Z1.sz,XF];omega
theorem GE.letS {a b:Z1} {s1 s2 q:Nat} (ha:GE g m s1 a) (hb:GE g (m+1) s2 b) (hq:1+(s1+s2)<=q):GE g m q (.mk 13 0 [a,b]):=by
 refine ⟨Oe om ha.1 hb.1,?_⟩
 have h1:=ha.2
 have h2:=hb.2
 simp only [Z1.sz,XF];omega
theorem GE.matchL (hg:GP g) {e a b:Z1} {s1 s2 s3 q:Nat} (he:GE g m s1 e) (ha:GE g m s2 a) (hb:GE g (m+2) s3 b) (hq:1+(s1+s2+s3)<=q):GE g m q (.mk 8 1 [e,a,b]):=by
 have hl:=hg.decls.low
 refine ⟨Ip om (by simp) (by rw [hl.2.1];rfl) he.1 ⟨?_,?_,True.intro⟩,?_⟩
 ·rw [Dm (k:=0) (x:=0) (by rw [hl.2.1];rfl),hl.2.2.2.2.1];exact ha.1
 ·rw [Dm (k:=1) (x:=1) (by rw [hl.2.1];rfl),hl.2.2.2.2.2.1];exact hb.1
 ·have h1:=he.2
  have h2:=ha.2
  have h3:=hb.2
  rw [Z1.sz,FB];omega
theorem GE.matchT (hg:GP g) {e a b:Z1} {s1 s2 s3 q:Nat} (he:GE g m s1 e) (ha:GE g m s2 a) (hb:GE g (m+3) s3 b) (hq:1+(s1+s2+s3)<=q):GE g m q (.mk 8 3 [e,a,b]):=by
 have hl:=hg.decls.low
 refine ⟨Ip om (by simp) (by rw [hl.2.2.2.1];rfl) he.1 ⟨?_,?_,True.intro⟩,?_⟩
 ·rw [Dm (k:=0) (x:=2) (by rw [hl.2.2.2.1];rfl),hl.2.2.2.2.2.2.1];exact ha.1
 ·rw [Dm (k:=1) (x:=3) (by rw [hl.2.2.2.1];rfl),hl.2.2.2.2.2.2.2];exact hb.1
 ·have h1:=he.2
  have h2:=ha.2
  have h3:=hb.2
  rw [Z1.sz,FB];omega
theorem HE {α:Type} {p:α->Prop} {a:α} (h:p a):∀x∈[a],p x:=fun x hx=>by rw [XI.1 hx];exact h
end
structure Hu (g:Wg):Prop where
 gp:GP g
 body:∀f∈g.funcs,eW g.decls g.funcs.length f.params.length f.body/\f.body.sz<=30
structure GL (ds:List Zf) (k j:Nat) (rq:List Func):Prop where
 len:rq.length=4
 sigs:∀f∈rq,TC f
 zero:∀f,rq[0]? = some f->f.params.length=0
 body:∀i f,j<=i->i<k->rq[i]? = some f->eW ds k f.params.length f.body/\f.body.sz<=30
theorem GL.gp {ds:List Zf} {k j:Nat} {rq:List Func} (h:GL ds k j rq) (hd:GD ds) (hk:1<=k/\k<=4):GP ⟨ds,rq.take k⟩:=
 ⟨hd,by show 1<=(rq.take k).length/\_;rw [WB,h.len];omega,fun f hf=>h.sigs f (Q1 hf)⟩
theorem GL.len_take {ds:List Zf} {k j:Nat} {rq:List Func} (h:GL ds k j rq) (hk:k<=4):(rq.take k).length=k:=by rw [WB,h.len];omega
theorem GL.set {ds:List Zf} {k j:Nat} {rq:List Func} {f:Func} {e:Z1} (h:GL ds k j rq) (hj:1<=j) (hf:rq[j-1]? = some f) (he:eW ds k f.params.length e/\e.sz<=30):GL ds k (j-1) (rq.set (j-1) ⟨f.params,f.result,e⟩):=by
 have hl:=(Xq.1 hf).1
 refine ⟨by rw [Vc];exact h.len,fun x hx=>?_,fun x hx=>?_,fun i x h1 h2 hx=>?_⟩
 ·rcases List.mem_or_eq_of_mem_set hx with hx|rfl
  ·exact h.sigs x hx
  ·exact h.sigs f (ZW hf)
 ·rw [List.getElem?_set] at hx
  split at hx
  ·rename_i h0
   cases hx
   exact h.zero f (by rw [<-h0];exact hf)
  ·exact h.zero x hx
 ·rw [List.getElem?_set] at hx
  split at hx
  ·cases hx
   exact he
  ·exact h.body i x om h2 hx
theorem GL.done {ds:List Zf} {k:Nat} {rq:List Func} (h:GL ds k 0 rq) (hd:GD ds) (hk:1<=k/\k<=4):Hu ⟨ds,rq.take k⟩:=by
 refine ⟨h.gp hd hk,fun f hf=>?_⟩
 show eW ds (rq.take k).length _ _/\_
 rw [h.len_take hk.2]
 obtain ⟨i,hi⟩:=ML hf
 have hi2:i<(rq.take k).length:=(Xq.1 hi).1
 rw [h.len_take hk.2] at hi2
 rw [List.getElem?_take_of_lt hi2] at hi
 exact h.body i f om hi2 hi
theorem Me {l:List Func} {f:Func} {k:Nat} (h:l[k]? = some f) (hl:l.all (fun f=>decide ((f.params,f.result)∈JM))=true):TC f:=show (f.params,f.result)∈JM from of_decide_eq_true (JJ.1 hl f (ZW h))
theorem GL.start {ds:List Zf} {k:Nat} {e:Z1} {a b c:Func} (ha:TC a) (hb:TC b) (hc:TC c):GL ds k k [⟨[],0,e⟩,a,b,c]:=by
 refine ⟨rfl,fun f hf=>?_,fun f hf=>?_,fun i f h1 h2=>by omega⟩
 ·rcases YD.1 hf with rfl|hf
  ·exact List.Mem.head _
  ·rcases YD.1 hf with rfl|hf
   ·exact ha
   ·rcases YD.1 hf with rfl|hf
    ·exact hb
    ·rw [XI.1 hf];exact hc
 ·cases hf;rfl
theorem Zcd {l:LI} {k:Nat} {a b:Nat} (h:(k:Int)∈l) (hl:l.all (fun x=>decide ((a:Int)<=x/\x<=b))=true):a<=k/\k<=b:=by
 have:=of_decide_eq_true (JJ.1 hl _ h)
 omega
mutual
def Ki (p:Int->Prop):Z4->Prop
 | .mk op _ _ _ kids=>p op/\Kh p kids
def Kh (p:Int->Prop):List Z6->Prop
 | []=>True
 | b::r=>VB p b/\Kh p r
def Qb (p:Int->Prop):List Z4->Prop
 | []=>True
 | s::r=>Ki p s/\Qb p r
def VB (p:Int->Prop):Z6->Prop
 | .mk steps _=>Qb p steps
end
section
variable {p q:Int->Prop}
theorem Eo (s:Z4):Ki p s↔p s.op/\Kh p s.kids:=by cases s;rw [Ki];rfl
theorem Gu (b:Z6):VB p b↔Qb p b.steps:=by cases b;rw [VB];rfl
theorem Df:∀{xs:List Z6},Kh p xs↔∀b∈xs,VB p b
 | []=>by simp [Kh]
 | b::r=>by rw [Kh,Df];simp
theorem Ce:∀{xs:List Z4},Qb p xs↔∀b∈xs,Ki p b
 | []=>by simp [Qb]
 | b::r=>by rw [Qb,Ce];simp
theorem Gv {xs ys:List Z4}:Qb p (xs++ys)↔Qb p xs/\Qb p ys:=by simp only [Ce,Xd];exact ⟨fun h=>⟨fun b hb=>h b (.inl hb),fun b hb=>h b (.inr hb)⟩,fun h b hb=>hb.elim (h.1 b) (h.2 b)⟩
theorem RB {xs:List Z6} {b:Z6} (h:Kh p xs) (hb:VB p b):Kh p (xs++[b]):=Df.2 (XJ (Df.1 h) hb)
theorem Gw {xs:List Z4} {b:Z4} (h:Qb p xs) (hb:Ki p b):Qb p (xs++[b]):=Ce.2 (XJ (Ce.1 h) hb)
end
def V1 (op:Int):Prop:=op<=11
def VM (op:Int):Prop:=op<=15
end Go.Abs
section
namespace Go.Abs
structure LW (ds:List Zf) (nf q:Nat) (e:Z1) (ys:List Z4) (v:Int):Prop where
 fs:Tt ds nf q ys
 v:0<=v/\v<(q+X5 ys:Nat)
 sz:Yb ys<=6*e.sz
 op:Qb V1 ys
theorem LW.dn {ds:List Zf} {nf q:Nat} {e:Z1} {ys:List Z4} {v:Int} (h:LW ds nf q e ys v):X5 ys<=6*e.sz/\ys.length<=6*e.sz:=by
 have h1:=B6 ys
 have h2:=Jg ys
 have h3:=h.sz
 omega
structure LB (ds:List Zf) (nf q:Nat) (e:Z1) (b:Z6):Prop where
 fb:fB ds nf q b
 sz:b.sz<=1+6*e.sz
 op:VB V1 b
section
variable {ds:List Zf} {nf q:Nat}
theorem DL:∀xs ys:List Z6,Xc (xs++ys)=Xc xs+Xc ys
 | [],ys=>by simp [Xc]
 | x::r,ys=>by rw [QT,Xc,Xc,DL r];omega
theorem LW.block {e:Z1} {ys:List Z4} {v:Int} (h:LW ds nf q e ys v):LB ds nf q e ⟨ys,v⟩:=
 ⟨by rw [fB];exact ⟨h.fs,h.v⟩,by rw [Z6.sz];have:=h.sz;omega,by rw [VB];exact h.op⟩
theorem LW.var {e:Z1} {v:Int} (hv:0<=v/\v<q):LW ds nf q e [] v:=⟨True.intro,by simpa [X5] using hv,by simp [Yb],True.intro⟩
theorem LW.let_ {e a b:Z1} {ys zs:List Z4} {v1 v2:Int} (ha:LW ds nf q a ys v1) (hb:LW ds nf (q+X5 ys) b zs v2) (he:a.sz+b.sz<e.sz):LW ds nf q e (ys++zs) v2:=by
 refine ⟨CN.2 ⟨ha.fs,hb.fs⟩,by rw [Jw,<-AR];exact hb.v,?_,Gv.2 ⟨ha.op,hb.op⟩⟩
 have h1:=ha.sz
 have h2:=hb.sz
 rw [TN];omega
theorem DR {ys:List Z4} {s:Z4} (h:YF s.op=false):X5 (ys++[s])=X5 ys+1:=by
 rw [Jw]
 simp [X5,h]
theorem LW.node {e:Z1} {ys:List Z4} {as1:LI} (ho:0<=e.op/\e.op<=11/\e.op≠7/\e.op≠8) (hc:e.op=9->0<=e.num/\e.num<nf) (hn:-2000<=e.num/\e.num<=2000) (hf:Tt ds nf q ys) (ha:∀a∈as1,0<=a/\a<(q+X5 ys:Nat)) (hl:as1.length<=4) (hs:Yb ys<=6*XF e.kids) (hop:Qb V1 ys) :
  LW ds nf q e (ys++[⟨e.op,e.num,0,as1,[]⟩]) ((q+X5 ys:Nat):Int):=by
 have hcb:YF e.op=false:=by simp [YF];omega
 refine ⟨FE hf ?_,?_,?_,Gw hop (by rw [Ki];exact ⟨by show e.op<=11;omega,True.intro⟩)⟩
 ·rw [fS]
  exact ⟨.inl ⟨by omega,by omega⟩,ha,fun h=>by omega,fun h=>by omega,fun h=>by omega,fun h=>by omega,hc,hn,by omega,hl,fun _=>rfl,True.intro⟩
 ·rw [DR (show YF (Z4.mk e.op e.num 0 as1 []).op=false from hcb)];omega
 ·rw [TN,e.sz_eq]
  simp only [Yb,Z4.sz,Xc]
  omega
theorem LW.branch {e:Z1} {ys:List Z4} {v:Int} {bs:List Z6} {s0 sr:Nat} (ho:e.op=7∨e.op=8) (h7:e.op=7->bs.length=2) (h8:e.op=8->bs.length=(ZY ds e.num).length) (hn:-2000<=e.num/\e.num<=2000) (hf:Tt ds nf q ys) (hv:0<=v/\v<(q+X5 ys:Nat))
  (hb:TS ds nf (T0 ds e.op e.num (q+X5 ys)) 0 bs) (hl:bs.length<=3) (h0:Yb ys<=6*s0) (h1:Xc bs<=bs.length+6*sr) (hs:s0+sr<=XF e.kids) (hop:Qb V1 ys) (hob:Kh V1 bs):LW ds nf q e (ys++[⟨e.op,e.num,0,[v],bs⟩]) ((q+X5 ys:Nat):Int):=by
 have hcb:YF e.op=false:=by simp [YF];omega
 refine ⟨FE hf ?_,?_,?_,Gw hop (by rw [Ki];exact ⟨by show e.op<=11;omega,hob⟩)⟩
 ·rw [fS]
  exact ⟨.inl ⟨by omega,by omega⟩,fun a ha=>by rw [XI.1 ha];exact hv,fun h=>by omega,h7,h8,fun _=>⟨v,rfl⟩,fun h=>by omega,hn,by omega,by simp,fun h=>by omega,hb⟩
 ·rw [DR (show YF (Z4.mk e.op e.num 0 [v] bs).op=false from hcb)];omega
 ·rw [TN,e.sz_eq]
  simp only [Yb,Z4.sz,YT,XA]
  omega
theorem Sv {ds:List Zf} {op num:Int} {m k:Nat} (h:op=13):Qe ds op num m k=m+k:=Zd h
theorem Zej {ds:List Zf} {op num:Int} {m:Nat} (h:op≠13):Qe ds op num m 0=m:=by simp [Qe,h]
theorem Sw {ds:List Zf} {op num:Int} {m k:Nat} (h:op≠13/\op≠8):Qe ds op num m k=m:=by simp [Qe,h.1,h.2]
theorem Zek {ds:List Zf} {op num x:Int} {m k j:Nat} (h:op=8) (hk:k=j+1) (hx:(ZY ds num)[j]? = some x):Qe ds op num m k=m+(ZV ds x).length:=by
 subst h;subst hk;rw [Nat.add_comm j 1];exact Dm hx
theorem M9 {ds:List Zf} {op num x:Int} {m j:Nat} (h:op=8) (hx:(ZY ds num)[j]? = some x):T0 ds op num m j=m+(ZV ds x).length:=by
 rw [T0,Zd h,VH (i:=(j:Int)) (by simpa using hx)]
theorem Ma {ds:List Zf} {op num:Int} {m j:Nat} (h:op≠8):T0 ds op num m j=m:=Z8 h
theorem Ba {xs:List Z1} {k:Nat} {e:Z1} (h:xs[k]? = some e):XF (xs.take (k+1))=XF (xs.take k)+e.sz:=by rw [Vl h,DV,XF,XF];rfl
theorem Aq {xs:List Z1} (k:Nat):XF (xs.take k)<=XF xs:=by
 have h:=Yp XF (UH k xs)
 rw [DV] at h;omega
theorem Ol {xs:List Z1} {a b:Z1} (ha:xs[0]? = some a) (hb:xs[1]? = some b):a.sz+b.sz<=XF xs:=by
 have h1:XF (xs.take 1)=XF (xs.take 0)+a.sz:=Ba ha
 have h2:XF (xs.take 2)=XF (xs.take 1)+b.sz:=Ba hb
 have h3:=Aq (xs:=xs) 2
 omega
theorem EN {us:LI} {v:Int} {d:Nat} (hu:∀a∈us,0<=a/\a<(q:Int)) (hv:0<=v/\v<(q+d:Nat)):∀a∈us++[v],0<=a/\a<((q+d:Nat):Int):=
 XJ (fun a ha=>by have:=hu a ha;omega) hv
theorem Ha {us:LI} {d:Nat} (hu:∀a∈us,0<=a/\a<(q:Int)):∀a∈us,0<=a/\a<((q+d:Nat):Int):=fun a ha=>by have:=hu a ha;omega
theorem Zhm {us ns:LI} {d mf:Nat} (hu:∀a∈us,0<=a/\a<(q:Int)) (hn:∀i∈ns,((q+d:Nat):Int)<=i/\i<((q+d:Nat):Int)+mf):∀a∈us++ns,0<=a/\a<((q+d+mf:Nat):Int):=fun a ha=>by
 rcases Xd.1 ha with h|h
 ·have:=hu a h;omega
 ·have:=hn a h;omega
theorem Fb:∀bs:List Z6,bs.length<=Xc bs
 | []=>X7 _
 | b::r=>by have:=Fb r;have:=b.sz_pos;rw [Xc,YT];omega
end
end Go.Abs
namespace Go.Abs
structure RF (ds:List Zf) (nf q:Nat) (p:Int->Prop) (r:Y8):Prop where
 sig:(r.params,r.result)∈JM
 lent:r.lent.length<=3/\∀i∈r.lent,0<=i/\i<r.params.length
 body:fB ds nf r.params.length r.body/\r.body.sz<=q
 op:VB p r.body
structure FO (n:Zi) (q:Nat) (p:Int->Prop):Prop where
 fn:FN n q
 op:∀r∈n.routines,VB p r.body
theorem FO.rf {n:Zi} {q:Nat} {p:Int->Prop} (h:FO n q p) {r:Y8} (hr:r∈n.routines):RF n.decls n.routines.length q p r:=⟨h.fn.sigs r hr,h.fn.lent r hr,h.fn.body r hr,h.op r hr⟩
theorem FO.all {n:Zi} {q:Nat} {p:Int->Prop} (hd:GD n.decls) (hl:1<=n.routines.length/\n.routines.length<=4) (h:∀r∈n.routines,RF n.decls n.routines.length q p r):FO n q p:=
 ⟨⟨hd,hl,fun r hr=>(h r hr).sig,fun r hr=>(h r hr).lent,fun r hr=>(h r hr).body⟩,fun r hr=>(h r hr).op⟩
structure RN (ds:List Zf) (nf:Nat) (r:Y8):Prop where
 sig:(r.params,r.result)∈JM
 lent:r.lent=[]
 body:fB ds nf r.params.length r.body/\r.body.sz<=181
 op:VB V1 r.body
theorem RN.all {n:Zi} {q:Nat} (hd:GD n.decls) (hl:1<=n.routines.length/\n.routines.length<=4) (h:∀r∈n.routines,RN n.decls n.routines.length r) (hq:181<=q):FO n q V1:=
 FO.all hd hl fun r hr=>⟨(h r hr).sig,by rw [(h r hr).lent];exact ⟨by simp,fun i hi=>by cases hi⟩,⟨(h r hr).body.1,VE (h r hr).body.2 hq⟩,(h r hr).op⟩
end Go.Abs
namespace Go.Abs
theorem RN.of {ds:List Zf} {nf:Nat} {ps:LI} {rt:Int} {b:Z6} {e:Z1} (hs:(ps,rt)∈JM) (h:LB ds nf ps.length e b) (he:e.sz<=30):RN ds nf ⟨ps,[],rt,Z6.mk b.steps b.result⟩:=by
 have e1:Z6.mk b.steps b.result=b:=by cases b;rfl
 rw [e1]
 exact ⟨hs,rfl,⟨h.fb,by have:=h.sz;show b.sz<=181;omega⟩,h.op⟩
end Go.Abs
end
namespace Go.Abs
theorem Mq:∀{xs:List Z4} {s:Z4},s∈xs->s.sz<=Yb xs
 | [],s,h=>by cases h
 | x::r,s,h=>by
  rw [Yb]
  rcases YD.1 h with rfl|h
  ·omega
  ·have:=Mq h;omega
theorem HN:∀{xs:List Z6} {b:Z6},b∈xs->b.sz<=Xc xs
 | [],b,h=>by cases h
 | x::r,b,h=>by
  rw [Xc]
  rcases YD.1 h with rfl|h
  ·omega
  ·have:=HN h;omega
structure LC (n:Zi) (k:Nat) (xs:List LI):Prop where
 len:xs.length=k
 ok:∀(i:Nat) (l:LI),xs[i]? = some l->l.length<=3/\∀r,n.routines[i]? = some r->∀v∈l,0<=v/\v<(r.params.length:Int)
theorem LC.nil {n:Zi}:LC n 0 []:=⟨rfl,fun i l h=>by simp at h⟩
theorem LC.snoc {n:Zi} {k:Nat} {xs:List LI} {l:LI} (h:LC n k xs) (hl:l.length<=3) (hv:∀r,n.routines[k]? = some r->∀v∈l,0<=v/\v<(r.params.length:Int)):LC n (k+1) (xs++[l]):=by
 refine ⟨by rw [Yt,h.len];rfl,fun i l' hi=>?_⟩
 by_cases hk:i<xs.length
 ·rw [Cr hk] at hi
  exact h.ok i l' hi
 ·rw [Dw om] at hi
  have h0:i-xs.length=0:=by
   cases e:i-xs.length with
   | zero=>rfl
   | succ q=>rw [e] at hi;simp at hi
  rw [h0] at hi
  cases hi
  have e:i=k:=by have:=h.len;omega
  subst e
  exact ⟨hl,hv⟩
def Us:LI->Int->LI
 | [],y=>[y]
 | x::r,y=>if x>y then y::x::r else if x=y then x::r else x::Us r y
def Qr (d:Bool) (xs:LI) (y:Int):LI:=if d=true then xs else Us xs y
theorem G9 {xs:LI} {y:Int}:Qr true xs y=xs:=rfl
theorem G8 {xs:LI} {y:Int}:Qr false xs y=Us xs y:=rfl
theorem Po {xs acc r:LI} {y x:Int} {k:Nat} {d:Bool} (hx:xs[k]? = some x) (hd:d=true) (h:acc++Qr d (xs.drop k) y=r):(acc++[x])++Qr d (xs.drop (k+1)) y=r:=by
 subst hd
 rw [G9,Y9 hx] at h
 rw [G9,<-h];simp
theorem Zag {xs acc r:LI} {y x:Int} {k:Nat} {d:Bool} (hx:xs[k]? = some x) (hd:¬d=true) (hl:¬x>=y) (h:acc++Qr d (xs.drop k) y=r):(acc++[x])++Qr d (xs.drop (k+1)) y=r:=by
 have hd:=Jo.2 hd
 subst hd
 rw [G8,Y9 hx,Us,Z8 om,Z8 om] at h
 rw [G8,<-h];simp
theorem Zah {xs acc r:LI} {y x:Int} {k:Nat} {d:Bool} (hx:xs[k]? = some x) (hd:¬d=true) (hl:x>y) (h:acc++Qr d (xs.drop k) y=r):((acc++[y])++[x])++Qr true (xs.drop (k+1)) y=r:=by
 have hd:=Jo.2 hd
 subst hd
 rw [G8,Y9 hx,Us,Zd hl] at h
 rw [G9,<-h];simp
theorem Zai {xs acc r:LI} {y x:Int} {k:Nat} {d:Bool} (hx:xs[k]? = some x) (hd:¬d=true) (hl:x=y) (h:acc++Qr d (xs.drop k) y=r):(acc++[x])++Qr true (xs.drop (k+1)) y=r:=by
 have hd:=Jo.2 hd
 subst hd
 rw [G8,Y9 hx,Us,Z8 om,Zd hl] at h
 rw [G9,<-h];simp
theorem Zaf {xs acc acc2 r:LI} {y x:Int} {k:Nat} {d d2:Bool} (hx:xs[k]? = some x) (h:acc++Qr d (xs.drop k) y=r)
  (hc:(acc2=acc/\d2=d/\(d=true∨¬x>=y))∨(acc2=acc++[y]/\d2=true/\¬d=true/\x>y)∨(acc2=acc/\d2=true/\¬d=true/\x=y)):(acc2++[x])++Qr d2 (xs.drop (k+1)) y=r:=by
 rcases hc with ⟨rfl,rfl,h3⟩|⟨rfl,rfl,h3,h4⟩|⟨rfl,rfl,h3,h4⟩
 ·rcases h3 with h3|h3
  ·exact Po hx h3 h
  ·by_cases q:d2=true
   ·exact Po hx q h
   ·exact Zag hx q h3 h
 ·exact Zah hx h3 h4 h
 ·exact Zai hx h3 h4 h
theorem Zae {xs acc r:LI} {y:Int} {k:Nat} {d:Bool} (hk:xs.length<=k) (h:acc++Qr d (xs.drop k) y=r):(if d=true then acc else acc++[y])=r:=by
 rw [Xn hk] at h
 by_cases q:d=true
 ·rw [Qr,Zd q,Jp] at h;rw [Zd q];exact h
 ·rw [Qr,Z8 q,Us] at h;rw [Z8 q];exact h
theorem D3:∀(xs:LI) (y:Int),(Us xs y).length<=xs.length+1
 | [],y=>X7 _
 | x::r,y=>by
  have:=D3 r y
  rw [Us]
  split
  ·simp
  ·split
   ·simp
   ·simp only [YT];omega
theorem Ea:∀{xs:LI} {y z:Int},z∈Us xs y↔z∈xs∨z=y
 | [],y,z=>by simp [Us]
 | x::r,y,z=>by
  rw [Us]
  split
  ·simp only [YD];exact ⟨fun h=>h.elim .inr .inl,fun h=>h.elim .inr .inl⟩
  ·split
   ·rename_i h;subst h;simp only [YD];exact ⟨fun h=>.inl h,fun h=>h.elim id .inl⟩
   ·simp only [YD,Ea (xs:=r)];exact ⟨fun h=>by rcases h with h|h|h<;>simp [h],fun h=>by rcases h with (h|h)|h<;>simp [h]⟩
def BP (xs:LI):Prop:=xs.Pairwise (·<·)
theorem Pn:∀{xs:LI} {y:Int},BP xs->BP (Us xs y)
 | [],y,_=>by simp [Us,BP]
 | x::r,y,h=>by
  obtain ⟨h1,h2⟩:=WZ.1 h
  rw [Us]
  split
  ·rename_i q
   refine WZ.2 ⟨fun z hz=>?_,h⟩
   rcases YD.1 hz with rfl|hz
   ·omega
   ·have:=h1 z hz;omega
  ·split
   ·exact h
   ·refine WZ.2 ⟨fun z hz=>?_,Pn h2⟩
    rcases Ea.1 hz with hz|rfl
    ·exact h1 z hz
    ·omega
def Qc:LI->Int->LI
 | [],_=>[]
 | x::r,y=>if x=y then Qc r y else x::Qc r y
theorem Er:∀(xs:LI) (y:Int),(Qc xs y).length<=xs.length
 | [],y=>X7 _
 | x::r,y=>by
  have:=Er r y
  rw [Qc]
  split
  ·rw [YT];omega
  ·rw [YT,YT];omega
theorem Dg:∀{xs:LI} {y z:Int},z∈Qc xs y->z∈xs
 | [],y,z,h=>by rw [Qc] at h;exact h
 | x::r,y,z,h=>by
  rw [Qc] at h
  split at h
  ·exact XL _ (Dg h)
  ·rcases YD.1 h with rfl|h
   ·exact Xs ..
   ·exact XL _ (Dg h)
theorem Zd0 {xs acc r:LI} {y x:Int} {k:Nat} (hx:xs[k]? = some x) (h:acc++Qc (xs.drop k) y=r):(if x≠y then acc++[x] else acc)++Qc (xs.drop (k+1)) y=r:=by
 rw [Y9 hx,Qc] at h
 by_cases q:x=y
 ·rw [Zd q] at h;rw [Z8 (fun z=>z q)];exact h
 ·rw [Z8 q] at h;rw [Zd q,<-h];simp
theorem Zcz {xs acc r:LI} {y:Int} {k:Nat} (hk:xs.length<=k) (h:acc++Qc (xs.drop k) y=r):acc=r:=by
 rw [Xn hk,Qc,Jp] at h;exact h
def T2 (n:Int) (xs:LI) (a:Int):LI:=if 0<=a/\a<n then Us xs a else xs
def QR (n:Int):LI->LI->LI
 | [],xs=>xs
 | a::r,xs=>QR n r (T2 n xs a)
mutual
def JH (n:Int):Z4->LI->LI
 | .mk op _ _ args kids,xs=>if YF op=true then xs else Jj n kids (QR n args xs)
def Jj (n:Int):List Z6->LI->LI
 | [],xs=>xs
 | b::r,xs=>Jj n r (Tj n b xs)
def Tk (n:Int):List Z4->LI->LI
 | [],xs=>xs
 | s::r,xs=>Tk n r (JH n s xs)
def Tj (n:Int):Z6->LI->LI
 | .mk steps result,xs=>T2 n (Tk n steps xs) result
end
section
variable {n:Int}
theorem Z18 (s:Z4) (xs:LI):JH n s xs=if YF s.op=true then xs else Jj n s.kids (QR n s.args xs):=by cases s;rw [JH];rfl
theorem Z16 (b:Z6) (xs:LI):Tj n b xs=T2 n (Tk n b.steps xs) b.result:=by cases b;rw [Tj];rfl
theorem H9 (xs:LI) (a:Int):(T2 n xs a).length<=xs.length+1:=by
 rw [T2];split
 ·exact D3 xs a
 ·omega
theorem Z15:∀(as1 xs:LI),(QR n as1 xs).length<=xs.length+as1.length
 | [],xs=>X7 _
 | a::r,xs=>by
  have h1:=Z15 r (T2 n xs a)
  have h2:=H9 (n:=n) xs a
  rw [QR,YT];omega
mutual
theorem Z19:∀(s:Z4) (xs:LI),(JH n s xs).length<=xs.length+s.sz
 | .mk op num into args kids,xs=>by
  have h1:=Z17 kids (QR n args xs)
  have h2:=Z15 (n:=n) args xs
  rw [JH,Z4.sz];split<;>omega
theorem Z17:∀(bs:List Z6) (xs:LI),(Jj n bs xs).length<=xs.length+Xc bs
 | [],xs=>X7 _
 | b::r,xs=>by
  have h1:=Z17 r (Tj n b xs)
  have h2:=H8 b xs
  rw [Jj,Xc];omega
theorem MC:∀(bs:List Z4) (xs:LI),(Tk n bs xs).length<=xs.length+Yb bs
 | [],xs=>X7 _
 | b::r,xs=>by
  have h1:=MC r (JH n b xs)
  have h2:=Z19 b xs
  rw [Tk,Yb];omega
theorem H8:∀(b:Z6) (xs:LI),(Tj n b xs).length<=xs.length+b.sz
 | .mk steps result,xs=>by
  have h1:=MC steps xs
  have h2:=H9 (n:=n) (Tk n steps xs) result
  rw [Tj,Z6.sz];omega
end
theorem Zhh {as1 ys r:LI} {k:Nat} {a:Int} (h:as1[k]? = some a) (ha:QR n (as1.drop k) ys=r):QR n (as1.drop (k+1)) (T2 n ys a)=r:=by
 rw [Y9 h,QR] at ha;exact ha
theorem Zhj {bs:List Z6} {ys r:LI} {k:Nat} {b:Z6} (h:bs[k]? = some b) (ha:Jj n (bs.drop k) ys=r):Jj n (bs.drop (k+1)) (Tj n b ys)=r:=by
 rw [Y9 h,Jj] at ha;exact ha
theorem Zhl {bs:List Z4} {ys r:LI} {k:Nat} {b:Z4} (h:bs[k]? = some b) (ha:Tk n (bs.drop k) ys=r):Tk n (bs.drop (k+1)) (JH n b ys)=r:=by
 rw [Y9 h,Tk] at ha;exact ha
theorem Zhg {as1 ys r:LI} {k:Nat} (h:as1.length<=k) (ha:QR n (as1.drop k) ys=r):ys=r:=by rw [Xn h,QR] at ha;exact ha
theorem Zhi {bs:List Z6} {ys r:LI} {k:Nat} (h:bs.length<=k) (ha:Jj n (bs.drop k) ys=r):ys=r:=by rw [Xn h,Jj] at ha;exact ha
theorem Zhk {bs:List Z4} {ys r:LI} {k:Nat} (h:bs.length<=k) (ha:Tk n (bs.drop k) ys=r):ys=r:=by rw [Xn h,Tk] at ha;exact ha
end
theorem MO {s:Z4} (h:Cn s):∃a,s.args=[a]:=⟨gI s.args 0,by have:=Yp Z4.args h;exact this⟩
section
variable {xs:LI} {v:Int} {lo hi:Nat}
end
section
variable {m:Int} {xs du dr:List Z4} {lf:LI} {d:Bool} {k:Nat} {s:Z4} {W:List Z4 × List Z4 × LI}
end
def YZ:List Z4->Nat
 | []=>0
 | s::r=>if YF s.op=true then YZ r+1 else 0
def Wh (op x:Int):List Z4->Int->Int
 | [],_=>-1
 | s::r,k=>if s.op=op/\gI s.args 0=x then k else Wh op x r (k+1)
def KD (many:Nat) (s:Z4):Prop:=(s.op=6/\s.into=0)/\s.args.length=many
instance (many:Nat) (s:Z4):Decidable (KD many s):=by unfold KD;infer_instance
def WJ (many:Nat):List Z4->Int->Int
 | [],_=>-1
 | s::r,k=>if KD many s then k else WJ many r (k+1)
def Be (xs:List Z4) (i:Int):Z4:=xs[i.toNat]?.getD (Zu 0 0)
def QH (v:Int) (s:Z4):Z4:=.mk s.op s.num v s.args s.kids
def VC (xs:List Z4) (x:Int):Int:=Wh 16 x (xs.take (YZ xs)) 0
def WS (xs:List Z4) (many:Nat):Int:=WJ many (xs.drop (YZ xs)) (YZ xs)
def Uu (xs:List Z4) (x:Int) (many:Nat):List Z4:=
 if VC xs x<0∨WS xs many<0 then xs else (xs.set (VC xs x).toNat (Zu 17 x)).set (WS xs many).toNat (QH (1+x) (Be xs (WS xs many)))
def Uj (b:Z6) (x:Int) (many:Nat):Z6:=.mk (Uu b.steps x many) b.result
mutual
def Qu (ds:List Zf) (kept:LI):Z4->Z4
 | .mk op num into args kids=>.mk op num into args (UN ds kept op num args kids 0)
def UN (ds:List Zf) (kept:LI) (op num:Int) (args:LI):List Z6->Nat->List Z6
 | [],_=>[]
 | b::r,k=>(if op=8/\¬gI args 0∈kept then Uj (WP ds (if VC b.steps (gI args 0)<0∨WS b.steps (Tb ds num k).length<0 then kept else gI args 0::kept) b) (gI args 0) (Tb ds num k).length else WP ds kept b)::UN ds kept op num args r (k+1)
def UZ (ds:List Zf) (kept:LI):List Z4->List Z4
 | []=>[]
 | s::r=>Qu ds kept s::UZ ds kept r
def WP (ds:List Zf) (kept:LI):Z6->Z6
 | .mk steps result=>.mk (UZ ds kept steps) result
end
def Gf (ds:List Zf) (kept:LI) (num:Int) (args:LI) (k:Nat) (b:Z6):LI:=if VC b.steps (gI args 0)<0∨WS b.steps (Tb ds num k).length<0 then kept else gI args 0::kept
def Qd (ds:List Zf) (kept:LI) (op num:Int) (args:LI) (k:Nat) (b:Z6):Z6:=if op=8/\¬gI args 0∈kept then Uj (WP ds (Gf ds kept num args k b) b) (gI args 0) (Tb ds num k).length else WP ds kept b
theorem Bu (ds:List Zf) (kept:LI) (s:Z4):Qu ds kept s=.mk s.op s.num s.into s.args (UN ds kept s.op s.num s.args s.kids 0):=by cases s;rw [Qu];rfl
theorem GH (ds:List Zf) (kept:LI) (b:Z6):WP ds kept b=.mk (UZ ds kept b.steps) b.result:=by cases b;rw [WP];rfl
theorem GJ (ds:List Zf) (kept:LI):∀xs:List Z4,UZ ds kept xs=xs.map (Qu ds kept)
 | []=>rfl
 | s::r=>by rw [UZ,GJ ds kept r];rfl
section
variable {ds:List Zf} {kept:LI}
theorem Ze6 {xs acc r:List Z4} {k:Nat} {s:Z4} (h:xs[k]? = some s) (ha:acc++UZ ds kept (xs.drop k)=r) :
  (acc++[.mk s.op s.num s.into s.args (UN ds kept s.op s.num s.args s.kids 0)])++UZ ds kept (xs.drop (k+1))=r:=by
 rw [Y9 h,UZ,Bu] at ha
 rw [<-ha];simp
theorem Ze5 {xs acc r:List Z4} {k:Nat} (h:xs.length<=k) (ha:acc++UZ ds kept (xs.drop k)=r):acc=r:=by
 rw [Xn h,UZ,Jp] at ha;exact ha
theorem Ze0 {op num:Int} {args:LI} {bs acc r:List Z6} {k:Nat} {b:Z6} (h:bs[k]? = some b) (ha:acc++UN ds kept op num args (bs.drop k) k=r) :
  (acc++[Qd ds kept op num args k b])++UN ds kept op num args (bs.drop (k+1)) (k+1)=r:=by
 rw [Y9 h,UN] at ha
 rw [<-ha,Qd,Gf];simp
theorem Zdz {op num:Int} {args:LI} {bs acc r:List Z6} {k j:Nat} (h:bs.length<=k) (ha:acc++UN ds kept op num args (bs.drop k) j=r):acc=r:=by
 rw [Xn h,UN,Jp] at ha;exact ha
end
section
variable {ds:List Zf}
mutual
theorem Ze3:∀(s:Z4) {K K':LI},(∀z,z∈K↔z∈K')->Qu ds K s=Qu ds K' s
 | .mk op num into args kids,K,K',h=>by rw [Qu,Qu,Sl kids h]
theorem Sl:∀(bs:List Z6) {K K':LI} {op num:Int} {args:LI} {k:Nat},(∀z,z∈K↔z∈K')->UN ds K op num args bs k=UN ds K' op num args bs k
 | [],_,_,_,_,_,_,_=>by rw [UN,UN]
 | b::r,K,K',op,num,args,k,h=>by
  have h1:=Sl r (op:=op) (num:=num) (args:=args) (k:=k+1) h
  have h2:=M3 b h
  have h3:∀z,z∈(gI args 0::K)↔z∈(gI args 0::K'):=fun z=>by rw [YD,YD,h z]
  have h4:=M3 b h3
  rw [UN,UN,h1,h2]
  congr 1
  by_cases hq:op=8/\¬gI args 0∈K
  ·have hq':op=8/\¬gI args 0∈K':=⟨hq.1,fun z=>hq.2 ((h _).2 z)⟩
   rw [Zd hq,Zd hq']
   congr 1
   split
   ·exact h2
   ·exact h4
  ·have hq':¬(op=8/\¬gI args 0∈K'):=fun z=>hq ⟨z.1,fun y=>z.2 ((h _).1 y)⟩
   rw [Z8 hq,Z8 hq']
theorem Sn:∀(xs:List Z4) {K K':LI},(∀z,z∈K↔z∈K')->UZ ds K xs=UZ ds K' xs
 | [],_,_,_=>by rw [UZ,UZ]
 | s::r,K,K',h=>by rw [UZ,UZ,Ze3 s h,Sn r h]
theorem M3:∀(b:Z6) {K K':LI},(∀z,z∈K↔z∈K')->WP ds K b=WP ds K' b
 | .mk steps result,K,K',h=>by rw [WP,WP,Sn steps h]
end
end
theorem Ee:∀xs:List Z4,YZ xs<=xs.length
 | []=>X7 _
 | s::r=>by have:=Ee r;rw [YZ];split<;>simp<;>omega
section
variable {f:Z4->Z4} (hop:∀s,(f s).op=s.op) (hin:∀s,(f s).into=s.into) (har:∀s,(f s).args=s.args)
include hop
theorem Lh:∀xs:List Z4,YZ (xs.map f)=YZ xs
 | []=>rfl
 | s::r=>by rw [UG,YZ,YZ,hop,Lh r]
include har
theorem Ng {op x:Int}:∀(xs:List Z4) (k:Int),Wh op x (xs.map f) k=Wh op x xs k
 | [],_=>rfl
 | s::r,k=>by rw [UG,Wh,Wh,hop,har,Ng r]
theorem Zct (xs:List Z4) (x:Int):VC (xs.map f) x=VC xs x:=by rw [VC,Lh hop,<-List.map_take,Ng hop har,VC]
include hin
theorem NN {many:Nat}:∀(xs:List Z4) (k:Int),WJ many (xs.map f) k=WJ many xs k
 | [],_=>rfl
 | s::r,k=>by
  have e:KD many (f s)↔KD many s:=by rw [KD,KD,hop,hin,har]
  rw [UG,WJ,WJ,NN r]
  by_cases h:KD many s
  ·rw [Zd h,Zd (e.2 h)]
  ·rw [Z8 h,Z8 (fun z=>h (e.1 z))]
theorem Z4c (xs:List Z4) (many:Nat):WS (xs.map f) many=WS xs many:=by rw [WS,Lh hop,<-List.map_drop,NN hop hin har,WS]
end
theorem Nf {op x:Int}:∀{xs:List Z4} {k:Int},¬Wh op x xs k<0->0<=k->k<=Wh op x xs k/\Wh op x xs k<k+xs.length/\∃s,xs[(Wh op x xs k-k).toNat]? = some s/\s.op=op/\gI s.args 0=x
 | [],k,h,_=>by simp [Wh] at h
 | s::r,k,h,hk=>by
  rw [Wh] at h ⊢
  split
  ·rename_i q
   refine ⟨Int.le_refl _,by rw [YT];omega,s,?_,q⟩
   rw [Int.sub_self];rfl
  ·rename_i q
   rw [Z8 q] at h
   obtain ⟨h1,h2,t,h3,h4⟩:=Nf (xs:=r) (k:=k+1) h om
   refine ⟨by omega,by rw [YT];omega,t,?_,h4⟩
   rw [show (Wh op x r (k+1)-k).toNat=(Wh op x r (k+1)-(k+1)).toNat+1 by omega,List.getElem?_cons_succ]
   exact h3
theorem NM {many:Nat}:∀{xs:List Z4} {k:Int},¬WJ many xs k<0->0<=k->k<=WJ many xs k/\WJ many xs k<k+xs.length/\∃s,xs[(WJ many xs k-k).toNat]? = some s/\KD many s
 | [],k,h,_=>by simp [WJ] at h
 | s::r,k,h,hk=>by
  rw [WJ] at h ⊢
  split
  ·rename_i q
   refine ⟨Int.le_refl _,by rw [YT];omega,s,?_,q⟩
   rw [Int.sub_self];rfl
  ·rename_i q
   rw [Z8 q] at h
   obtain ⟨h1,h2,t,h3,h4⟩:=NM (xs:=r) (k:=k+1) h om
   refine ⟨by omega,by rw [YT];omega,t,?_,h4⟩
   rw [show (WJ many r (k+1)-k).toNat=(WJ many r (k+1)-(k+1)).toNat+1 by omega,List.getElem?_cons_succ]
   exact h3
theorem Ep {xs:List Z4} {x:Int} (h:¬VC xs x<0):0<=VC xs x/\VC xs x<YZ xs/\∃s,xs[(VC xs x).toNat]? = some s/\s.op=16/\gI s.args 0=x:=by
 obtain ⟨h1,h2,s,h3,h4⟩:=Nf h (Int.le_refl 0)
 have hl:=Ee xs
 rw [WB,VV hl] at h2
 have h2':VC xs x<YZ xs:=by unfold VC;omega
 have h1':0<=VC xs x:=h1
 refine ⟨h1',h2',s,?_,h4⟩
 rw [Int.sub_zero] at h3
 have h5:(VC xs x).toNat<YZ xs:=by omega
 rwa [show Wh 16 x (xs.take (YZ xs)) 0=VC xs x from rfl,List.getElem?_take_of_lt h5] at h3
theorem Aj {xs:List Z4} {many:Nat} (h:¬WS xs many<0):(YZ xs:Int)<=WS xs many/\WS xs many<xs.length/\∃s,xs[(WS xs many).toNat]? = some s/\KD many s/\Be xs (WS xs many)=s:=by
 obtain ⟨h1,h2,s,h3,h4⟩:=NM h om
 have hl:=Ee xs
 rw [A8] at h2
 have h1':(YZ xs:Int)<=WS xs many:=h1
 have h2':WS xs many<xs.length:=by unfold WS;omega
 rw [BF,show WJ many (xs.drop (YZ xs)) (YZ xs)=WS xs many from rfl,show YZ xs+(WS xs many-(YZ xs:Int)).toNat=(WS xs many).toNat by omega] at h3
 exact ⟨h1',h2',s,h3,h4,by rw [Be,h3];rfl⟩
theorem Zdh {f:Z4->Z4} (hop:∀s,(f s).op=s.op) (hin:∀s,(f s).into=s.into) (har:∀s,(f s).args=s.args) (hc:∀x,f (Zu 17 x)=Zu 17 x) (hi:∀v s,f (QH v s)=QH v (f s)) (xs:List Z4) (x:Int) (many:Nat) :
  Uu (xs.map f) x many=(Uu xs x many).map f:=by
 rw [Uu,Zct hop har,Z4c hop hin har,Uu]
 split
 ·rfl
 ·rename_i hq
  obtain ⟨_,_,s,h3,_,h5⟩:=Aj (fun z=>hq (.inr z))
  have e:Be (xs.map f) (WS xs many)=f (Be xs (WS xs many)):=by rw [Be,Tl,h3,h5];rfl
  rw [e,List.map_set,List.map_set,hc,hi]
theorem Sj {ds:List Zf} {K:LI} {b:Z6} {x:Int} {many:Nat}:WP ds K (Uj b x many)=Uj (WP ds K b) x many:=by
 rw [Uj,WP,Uj,GH,GJ,GJ]
 show Z6.mk _ _=Z6.mk (Uu (b.steps.map (Qu ds K)) x many) b.result
 rw [Zdh (f:=Qu ds K) (fun s=>by rw [Bu];rfl) (fun s=>by rw [Bu];rfl) (fun s=>by rw [Bu];rfl) (fun x=>by rw [Bu];rfl) (fun v s=>by rw [Bu,Bu];rfl)]
structure CB (c:LI) (q:Int):Prop where
 len:c.length=4
 bd:∀x∈c,0<=x/\x<=q
mutual
def Cd:Z4->Prop
 | .mk op _ _ _ kids=>op≠17/\Bk kids
def Bk:List Z6->Prop
 | []=>True
 | b::r=>Kg b/\Bk r
def Bl:List Z4->Prop
 | []=>True
 | s::r=>Cd s/\Bl r
def Kg:Z6->Prop
 | .mk steps _=>Bl steps
end
theorem De (s:Z4):Cd s↔s.op≠17/\Bk s.kids:=by cases s;rw [Cd];rfl
theorem Ek (b:Z6):Kg b↔Bl b.steps:=by cases b;rw [Kg];rfl
theorem El:∀{xs:List Z4},Bl xs↔∀s∈xs,Cd s
 | []=>by simp [Bl]
 | s::r=>by rw [Bl,El];simp
theorem Gr:∀{xs:List Z6},Bk xs↔∀s∈xs,Kg s
 | []=>by simp [Bk]
 | s::r=>by rw [Bk,Gr];simp
theorem H3:∀{xs:List Z4} {i:Nat} {s:Z4} (t:Z4),xs[i]? = some s->Yb (xs.set i t)+s.sz=Yb xs+t.sz
 | [],_,_,_,h=>by simp at h
 | x::r,0,s,t,h=>by simp at h;subst h;rw [List.set_cons_zero,Yb,Yb];omega
 | x::r,i+1,s,t,h=>by
  have:=H3 (xs:=r) (i:=i) t (by simpa using h)
  rw [List.set_cons_succ,Yb,Yb];omega
theorem Zao (v:Int) (s:Z4):(QH v s).sz=s.sz:=by cases s;rw [QH,Z4.sz,Z4.sz];rfl
theorem NO {xs:List Z4} {x:Int} {many:Nat} (h:¬(VC xs x<0∨WS xs many<0)):(VC xs x).toNat<(WS xs many).toNat:=by
 obtain ⟨h1,h2,_⟩:=Ep (fun z=>h (.inl z))
 obtain ⟨h3,h4,_⟩:=Aj (fun z=>h (.inr z))
 omega
theorem GG {xs:List Z4} {x:Int} {many:Nat} (h:¬(VC xs x<0∨WS xs many<0)) {t:Z4} {s:Z4} (hs:xs[(WS xs many).toNat]? = some s):(xs.set (VC xs x).toNat t)[(WS xs many).toNat]? = some s:=by
 have:=NO h
 rw [List.getElem?_set_ne om];exact hs
theorem S7 {xs:List Z4} {x:Int} {many:Nat} (h:∀s∈xs,YF s.op=true->2<=s.sz):Yb (Uu xs x many)<=Yb xs:=by
 rw [Uu]
 split
 ·exact X7 _
 ·rename_i hq
  obtain ⟨_,_,s,h3,h4,_⟩:=Ep (fun z=>hq (.inl z))
  obtain ⟨_,_,t,h5,_,h6⟩:=Aj (fun z=>hq (.inr z))
  have e1:=H3 (Zu 17 x) h3
  have e2:=H3 (QH (1+x) (Be xs (WS xs many))) (GG hq (t:=Zu 17 x) h5)
  have h7:=h s (ZW h3) (by rw [h4];rfl)
  rw [Fi] at e1
  rw [Zao,h6] at e2
  rw [h6]
  omega
section
variable {ds:List Zf}
theorem Zi3 {v:Int} {s:Z4} (h:wS ds s) (h6:s.op=6):wS ds (QH v s):=by
 obtain ⟨h1,h2,h3,h4⟩:=(JI s).1 h
 exact (JI _).2 ⟨h1,fun hc=>absurd hc (by show ¬YF s.op=true;rw [h6];decide),h3,h4⟩
theorem Zi0 {v:Int}:wS ds (Zu 17 v):=(JI _).2 ⟨rfl,fun _=>⟨rfl,rfl,rfl,v,rfl⟩,fun e=>absurd e (show (17:Int)≠8 by decide),True.intro⟩
theorem Zhz {xs:List Z4} {x:Int} {many:Nat} (h:Kt ds xs):Kt ds (Uu xs x many):=by
 rw [Uu]
 split
 ·exact h
 ·rename_i hq
  obtain ⟨_,_,t,h5,h7,h6⟩:=Aj (fun z=>hq (.inr z))
  rw [AM]
  intro s hs
  rcases List.mem_or_eq_of_mem_set hs with hs|rfl
  ·rcases List.mem_or_eq_of_mem_set hs with hs|rfl
   ·exact AM.1 h s hs
   ·exact Zi0
  ·rw [h6];exact Zi3 (AM.1 h t (ZW h5)) h7.1.1
theorem Zhy {b:Z6} {x:Int} {many:Nat} (h:wB ds b):wB ds (Uj b x many):=by rw [Uj,Jn];exact Zhz ((Jn b).1 h)
variable (hd:WC ds)
mutual
theorem Ze4:∀(s:Z4) {K:LI},wS ds s->(Qu ds K s).sz<=s.sz
 | .mk op num into args kids,K,h=>by
  have:=Sm kids (K:=K) (op:=op) (num:=num) (args:=args) (k:=0) h.2.2.2
  rw [Qu,Z4.sz,Z4.sz];omega
theorem Sm:∀(bs:List Z6) {K:LI} {op num:Int} {args:LI} {k:Nat},AL ds bs->Xc (UN ds K op num args bs k)<=Xc bs
 | [],_,_,_,_,_,_=>X7 _
 | b::r,K,op,num,args,k,h=>by
  have h2:=Sm r (K:=K) (op:=op) (num:=num) (args:=args) (k:=k+1) h.2
  have key:∀K2:LI,(Uj (WP ds K2 b) (gI args 0) (Tb ds num k).length).sz<=b.sz:=fun K2=>by
   have h1:=M4 b (K:=K2) h.1
   have h3:=S7 (xs:=(WP ds K2 b).steps) (x:=gI args 0) (many:=(Tb ds num k).length) (by
    rw [GH,GJ]
    intro s hs hc
    obtain ⟨t,ht,rfl⟩:=Wf.1 hs
    rw [Bu] at hc ⊢
    obtain ⟨_,_,a,ha⟩:=Hf (AM.1 ((Jn b).1 h.1) t ht) hc
    rw [Z4.sz,ha];simp)
   rw [Uj,Z6.sz]
   rw [Z6.sz_eq] at h1
   omega
  rw [UN,Xc,Xc]
  split
  ·have:=key (if VC b.steps (gI args 0)<0∨WS b.steps (Tb ds num k).length<0 then K else gI args 0::K)
   omega
  ·have:=M4 b (K:=K) h.1
   omega
theorem So:∀(xs:List Z4) {K:LI},Kt ds xs->Yb (UZ ds K xs)<=Yb xs
 | [],_,_=>X7 _
 | s::r,K,h=>by
  have h1:=Ze4 s (K:=K) h.1
  have h2:=So r (K:=K) h.2
  rw [UZ,Yb,Yb];omega
theorem M4:∀(b:Z6) {K:LI},wB ds b->(WP ds K b).sz<=b.sz
 | .mk steps result,K,h=>by
  have:=So steps (K:=K) h
  rw [WP,Z6.sz,Z6.sz];omega
end
end
theorem Li:∀{xs:List Z4} {i:Nat} {s t:Z4},xs[i]? = some s->YF t.op=YF s.op->YZ (xs.set i t)=YZ xs
 | [],_,_,_,h,_=>by simp at h
 | x::r,0,s,t,h,e=>by simp at h;subst h;rw [List.set_cons_zero,YZ,YZ,e]
 | x::r,i+1,s,t,h,e=>by
  rw [List.set_cons_succ,YZ,YZ,Li (xs:=r) (i:=i) (by simpa using h) e]
theorem Zbh {xs:List Z4} {x:Int} {many:Nat}:YZ (Uu xs x many)=YZ xs:=by
 rw [Uu]
 split
 ·rfl
 ·rename_i hq
  obtain ⟨_,_,s,h3,h4,_⟩:=Ep (fun z=>hq (.inl z))
  obtain ⟨_,_,t,h5,_,h6⟩:=Aj (fun z=>hq (.inr z))
  rw [Li (GG hq (t:=Zu 17 x) h5) (by rw [h6];rfl),Li h3 (by rw [h4];rfl)]
theorem Ni {op x:Int}:∀{xs:List Z4} {k:Int},(∀s∈xs,s.op≠op)->Wh op x xs k=-1
 | [],_,_=>rfl
 | s::r,k,h=>by
  rw [Wh,Z8 (fun z=>h s (Xs ..) z.1)]
  exact Ni fun t ht=>h t (XL _ ht)
theorem Nj {op x:Int}:∀{xs:List Z4} {k:Int},0<=k->(∃s∈xs,s.op=op/\gI s.args 0=x)->0<=Wh op x xs k
 | [],_,_,h=>by obtain ⟨s,hs,_⟩:=h;cases hs
 | s::r,k,hk,h=>by
  rw [Wh]
  split
  ·exact hk
  ·rename_i q
   obtain ⟨t,ht,h1⟩:=h
   rcases YD.1 ht with rfl|ht
   ·exact absurd h1 q
   ·exact Nj om ⟨t,ht,h1⟩
theorem Z0x {xs:List Z4} {x:Int} {many:Nat} (hn:Bl xs):0<=Wh 17 x ((Uu xs x many).take (YZ (Uu xs x many))) 0↔¬(VC xs x<0∨WS xs many<0):=by
 rw [Zbh]
 constructor
 ·intro h hq
  rw [Uu,Zd hq,Ni (fun s hs=>((De s).1 (El.1 hn s (Q1 hs))).1)] at h
  omega
 ·intro hq
  obtain ⟨h1,h2,s,h3,h4,_⟩:=Ep (fun z=>hq (.inl z))
  have hap:=NO hq
  refine Nj (Int.le_refl 0) ⟨Zu 17 x,?_,rfl,rfl⟩
  rw [Uu,Z8 hq]
  refine ZW (i:=(VC xs x).toNat) ?_
  rw [List.getElem?_take_of_lt om,List.getElem?_set_ne om,List.getElem?_set_self (Xq.1 h3).1]
def Bm (b:Z6):Prop:=∀s∈b.steps,Bk s.kids
theorem Cc {b:Z6} (h:Kg b):Bm b:=fun s hs=>((De s).1 (El.1 ((Ek b).1 h) s hs)).2
theorem Zc9 {b:Z6} {k j:Nat} {s:Z4} {c:Z6} (h:Bm b) (hs:b.steps[k]? = some s) (hc:s.kids[j]? = some c):Kg c:=Gr.1 (h s (ZW hs)) c (ZW hc)
theorem Rr {b:Z6} {x:Int} {many:Nat} (h:Kg b):Bm (Uj b x many):=by
 intro s hs
 have hs:s∈Uu b.steps x many:=hs
 rw [Uu] at hs
 split at hs
 ·exact Cc h s hs
 ·rename_i hq
  obtain ⟨_,_,t,h5,_,h6⟩:=Aj (fun z=>hq (.inr z))
  rcases List.mem_or_eq_of_mem_set hs with hs|rfl
  ·rcases List.mem_or_eq_of_mem_set hs with hs|rfl
   ·exact Cc h s hs
   ·exact True.intro
  ·rw [h6];exact Cc h t (ZW h5)
theorem Zdg {ds:List Zf} {b:Z6} {x:Int} {many:Nat} (h:wB ds b):(Uj b x many).sz<=b.sz:=by
 have:=S7 (xs:=b.steps) (x:=x) (many:=many) fun s hs hc=>by
  have h7:=Hs ((Jn b).1 h) s hs hc
  rw [h7,Fi];omega
 rw [Uj,Z6.sz,b.sz_eq];omega
def Bt (ds:List Zf) (r:Y8):Y8:=⟨r.params,r.lent,r.result,WP ds [] r.body⟩
def GI (n:Zi):Zi:=⟨n.decls,n.routines.map (Bt n.decls)⟩
end Go.Abs
