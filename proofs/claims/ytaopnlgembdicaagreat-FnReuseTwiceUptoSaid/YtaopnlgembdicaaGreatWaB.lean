/-
  A part of the proofs of several laws (see the last file): no condition.
-/
import Derived.Test.YtaopnlgembdicaaGreatWaA
import Derived.Test.YtaopnlgembdicaaGreatRows
import Derived.Deep.Slices
import Derived.ChangeArms
set_option linter.all false
set_option linter.unusedVariables false
set_option linter.unusedSimpArgs false
set_option linter.unusedSectionVars false
set_option maxRecDepth 10000
set_option maxHeartbeats 4000000
namespace Go.Abs
def Az.mono {w:World} {G G':Yl} {v:Value} {k:Nat} {ls:List AV} (hA:Ur G w w G') (h:Az w G v k ls):Az w G' v k ls:=by
 rcases h with ⟨rfl,h0⟩|⟨g,len,cap,cur,el,rfl,h1,h2,h3,h4,h5⟩
 .exact .inl ⟨U,h0⟩
 .exact .inr ⟨g,len,cap,cur,el,U,h1,h2,h3,h4,h5.mono hA⟩
def QS.same {w:World} {G G':Yl} {r:Res} (hA:Ur G w w G') (h:QS w G r):QS w G' r:=by
 cases r with
 | obj b ls=>obtain ⟨cs,e,h1,h2⟩:=h;exact ⟨cs,e,h1,h2.mono hA⟩
 | tail v k=>exact h
 | ge s=>exact h
 | vec v ls=>
  rcases h with ⟨rfl,h0⟩|⟨g,cap,cur,el,rfl,h1,h2,h3,h4⟩
  .exact .inl ⟨U,h0⟩
  .exact .inr ⟨g,cap,cur,el,U,h1,h2,h3,h4.mono hA⟩
 | many ts=>exact h
 | own B m=>exact h
 | row v k ls=>exact h.mono hA
def YA.alloc_rrow {w:World} {G:Yl} {h:List Res} (hh:YA w G h) (cs:Array Value) (t:TypeId) {ls:List AV} {len cap k:Nat} (hcap:len<=cap) (Xg:cs.size=cap*k) (hl:ls.length=len*k)
  (hls:X1 w G ls (cs.toList.take (len*k))) :
  YA (w.alloc<|.cells cs t) G (.row (.slice (some ⟨w.heap.size,0,none⟩) len cap) k ls::h)/\X4 w G h (w.alloc<|.cells cs t) G (.row (.slice (some ⟨w.heap.size,0,none⟩) len cap) k ls::h):=by
 have hA:Ur G w (w.alloc<|.cells cs t) G:=⟨fun b j hg=>EU w _<|hh.lt b j hg,fun _ _ h=>h⟩;refine hh.alloc (.cells cs t) (h':=[.row (.slice (some ⟨w.heap.size,0,none⟩) len cap) k ls]) (fun _ _ h=>h) (fun _ _ h=>.inl h) ?_ ?_ (CI _ _) ?_
 .intro r hr;rw [XI.1 hr];exact .inr ⟨_,len,cap,cs,t,U,E3 w _,hcap,Xg,hl,hls.mono hA⟩
 .intro r hr b j hf;rw [XI.1 hr] at hf;exact hf
 .intro r hr b j hf hg;rw [XI.1 hr] at hf;have:=hh.lt b j hg;have:b=w.heap.size:=hf;omega
def YA.rwrite {w:World} {G:Yl} {h2:List Res} {g len cap k:Nat} {ls ls':List AV} (hh:YA w G (.row (.slice (some ⟨g,0,none⟩) len cap) k ls::h2)) {cs cs':Array Value} {e:TypeId}
  (hb:w.heap[g]? = some (.cells cs e (0,0))) (Xg:cs'.size=cs.size) (hle:len<=cap) (hcap:cs.size=cap*k) (hl:ls'.length=len*k) (hls:X1 w G ls' (cs'.toList.take (len*k))) :
  YA (w.setRow g cs') G (.row (.slice (some ⟨g,0,none⟩) len cap) k ls'::h2) /\
   X4 w G (.row (.slice (some ⟨g,0,none⟩) len cap) k ls::h2) (w.setRow g cs') G (.row (.slice (some ⟨g,0,none⟩) len cap) k ls'::h2):=by
 have hmem:Res.row (.slice (some ⟨g,0,none⟩) len cap) k ls∈Res.row (.slice (some ⟨g,0,none⟩) len cap) k ls::h2:=Xn ..
 have hA:Ur G w (w.setRow g cs') G:=⟨fun c j hg=>by
  have hne:c≠g:=fun he=>hh.prot _ hmem c j he hg
  simp [World.cell?,Up w g c cs' hne],fun _ _ h=>h⟩
 have hpw:=Vb.1 hh.apart;have hother:∀r∈h2,∀c j,r.fp c j->c≠g:=fun r hr c j hf hc=>hpw.1 r hr c j hc hf
 have e1:X4 w G [.row (.slice (some ⟨g,0,none⟩) len cap) k ls] (w.setRow g cs') G [.row (.slice (some ⟨g,0,none⟩) len cap) k ls']:=by
  refine ⟨rfl,rfl,rfl,by simp [World.setRow],fun _ _ h=>h,?_,fun _ _ _ h=>.inl h,?_⟩
  .intro c hc;by_cases hcb:c=g
   .subst hcb;exact .inr ⟨cs,cs',e,(0,0),hb,setRow_heap w c cs cs' e (0,0) hb,Xg,fun j hj=>absurd ⟨_,Xn ..,U⟩ hj⟩
   .exact .inl<|Up w g c cs' hcb
  .rintro c j _ ⟨r,hr,hf⟩;rw [XI.1 hr] at hf;exact ⟨_,Xn ..,hf⟩
 have e2:YA (w.setRow g cs') G [.row (.slice (some ⟨g,0,none⟩) len cap) k ls']:=by
  refine ⟨fun r hr=>?_,CI _ _,fun r hr c j hf hg=>?_,fun c j hg=>?_⟩
  .rw [XI.1 hr];exact .inr ⟨g,len,cap,cs',e,U,setRow_heap w g cs cs' e (0,0) hb,hle,Xg.trans hcap,hl,hls.mono hA⟩
  .rw [XI.1 hr] at hf;exact hh.prot _ hmem c j hf hg
  .have:=hh.lt c j hg
   simpa [World.setRow] using this
 exact YA.frame (h:=[.row (.slice (some ⟨g,0,none⟩) len cap) k ls]) (k:=h2) hh e1 e2
def Zjs {w:World} {G:Yl} {h:List Res} {k:Nat} (hh:YA w G h):YA w G (.row (.slice none 0 0) k []::h)/\X4 w G h w G (.row (.slice none 0 0) k []::h):=
 ⟨⟨fun r hr=>by
   rcases YM.1 hr with rfl|hr
   .exact .inl ⟨U,U⟩
   .exact hh.ok r hr,Vb.2 ⟨fun _ _ _ _ hf=>hf.elim,hh.apart⟩,fun r hr b o hf hg=>by
   rcases YM.1 hr with rfl|hr
   .exact hf.elim
   .exact hh.prot r hr b o hf hg,hh.lt⟩,
  ⟨rfl,rfl,rfl,X8 _,fun _ _ h=>h,fun _ _=>.inl rfl,fun _ _ _ h=>.inl h,fun b o _ ⟨r,hr,hf⟩=>by
   rcases YM.1 hr with rfl|hr
   .exact hf.elim
   .exact ⟨r,hr,hf⟩⟩⟩
def Az.form {w:World} {G:Yl} {v:Value} {k:Nat} {ls:List AV} (h:Az w G v k ls):∃a len cap,v=.slice a len cap/\ls.length=len*k:=by
 rcases h with ⟨rfl,rfl⟩|⟨g,len,cap,cur,e,rfl,_,_,_,h4,_⟩
 .exact ⟨none,0,0,rfl,by simp⟩
 .exact ⟨_,len,cap,U,h4⟩
def Ct {w:World} {G:Yl} {v:Value} {k:Nat} {es:List AV} {h2:List Res} (hh:YA w G (.row v k (Zc es)::h2)) (hes:∀y∈es,y.leaves.length=k) (hk:0<k) :
  ∃G',YA w G' (.tail v k::h2)/\X4 w G (.row v k (Zc es)::h2) w G' (.tail v k::h2)/\RV w G' (.sl es<|some v) v:=by
 have hpw:=Vb.1 hh.apart;have hfl:=T3 es hes;rcases hh.ok _ (Xn ..) with ⟨rfl,h0⟩|⟨g,len,cap,cur,e,rfl,h1,h3,h4,h5,h6⟩
 .have hes0:es=[]:=by
   cases es with
   | nil=>rfl
   | cons y r=>
    have h7:0<(r.length+1)*k:=Nat.mul_pos om hk;rw [h0,YR] at hfl;rw [<-hfl] at h7;simp at h7
  subst hes0;obtain ⟨k1,k2⟩:=O6 (sz:=k) (hh.sub<|B3 _ _);refine ⟨G,k1,⟨rfl,rfl,rfl,X8 _,fun _ _ h=>h,fun _ _=>.inl rfl,fun _ _ _ h=>.inl h,?_⟩,.nil<|by simp⟩;rintro b o _ ⟨r,hr,hf⟩;rcases YM.1 hr with rfl|hr
  .exact hf.elim
  .exact ⟨r,XF _ hr,hf⟩
 .have hlen:len=es.length:=ID hk (h5.symm.trans hfl);subst hlen
  let G':Yl:=fun b o=>G b o∨(b=g/\o<es.length*k)
  have hA:Ur G w w G':=⟨fun _ _ _=>rfl,fun _ _ h=>.inl h⟩;have hmem:Res.row (.slice (some ⟨g,0,none⟩) es.length cap) k (Zc es)∈Res.row (.slice (some ⟨g,0,none⟩) es.length cap) k (Zc es)::h2:=Xn ..
  refine ⟨G',⟨fun r hr=>?_,Vb.2 ⟨fun r hr b o f1 f2=>hpw.1 r hr b o f1.1 f2,hpw.2⟩,fun r hr b o hf hg=>?_,fun b o hg=>?_⟩,
   ⟨rfl,rfl,rfl,X8 _,fun _ _ h=>.inl h,fun _ _=>.inl rfl,fun b o _ hg=>hg.imp id fun ⟨e1,_⟩=>⟨_,hmem,e1⟩,?_⟩,?_⟩
  .rcases YM.1 hr with rfl|hr
   .exact .inr ⟨g,es.length,cap,cur,e,U,h1,h3,h4⟩
   .exact (hh.ok r<|XF _ hr).same hA
  .rcases YM.1 hr with rfl|hr2
   .obtain ⟨hbg,hf2⟩:=hf;rcases hg with hg|⟨_,hg⟩
    .exact hh.prot _ hmem b o hbg hg
    .omega
   .rcases hg with hg|⟨hbg,_⟩
    .exact hh.prot r (XF _ hr2) b o hf hg
    .exact hpw.1 r hr2 b o hbg hf
  .rcases hg with hg|⟨rfl,_⟩
   .exact hh.lt b o hg
   .exact (Tw.1 h1).1
  .rintro b o _ ⟨r,hr,hf⟩;rcases YM.1 hr with rfl|hr
   .exact ⟨_,hmem,hf.1⟩
   .exact ⟨r,XF _ hr,hf⟩
  .refine .sl (k:=k) (fun x hx=>by cases hx;rfl) h3<|Vp.of_flat es hes (WP.of_cells (h6.mono hA) fun j u hj=>?_);have hjl:j<es.length*k:=by
    have:=(Xv.1 hj).1;have h7:=h6.length;omega
   rw [Qp,Zg hjl] at hj;refine ⟨?_,.inr ⟨rfl,by omega⟩⟩;rw [VH,cell_of_row w g j cur e (0,0) h1]
   simpa using hj
section
variable {P:Program} {n:Nat} {ops:Array Oper} {B:Fr->List Res->Prop} {k:Nat} {F:Fr} {h h2:List Res}
def ED {k:Nat}:TN h (.row (.slice none 0 0) k []::h):=fun _ _ hh=>let ⟨a,b⟩:=Zjs hh;⟨_,a,b⟩
def Zmq (j:Nat) {v:Value} {kk m:Nat} {ls:List AV} (hl:Eg P ops F k=some (.val v)) (hj:h[j]? = some (.row v kk ls)) (hm:ls.length=m*kk) (hk:0<kk):XH P (ZG ops k) F h [] (.val<|.int .i64 m):=by
 unfold Eg at hl;generalize hoo:ZG ops k=o at hl;obtain ⟨dst,op,type,pos,after,guard⟩:=o;cases op<;>simp only at hl<;>try (cases hl)
 rename_i c;obtain ⟨callee,args,tys⟩:=c;simp only at hl
 split at hl
 .rename_i x t hargs htys
  split at hl
  .rename_i el hu;simp only [Wz] at hl;intro n w G a hF hh;have hv:=hF.ev x;rw [hl] at hv;have hv:=hv.val_inv;obtain ⟨ad,len,cap,rfl,hlen⟩:=Az.form (hh.ok _<|Y0 hj);have:len=m:=ID hk (hlen.symm.trans hm);subst this;have e1:args=#[x]:=by rw [<-UG (xs:=args),hargs]
   have e2:tys=#[t]:=by rw [<-UG (xs:=tys),htys]
   subst e1;subst e2
   exact ⟨_,.val,fun w' _ _=>by simp [execOp,resolve,invoke,builtin,hv,Builtin.len_,VX hu,goInt]⟩
  .cases hl
 .cases hl
def MW (ops:Array Oper) (F:Fr) (k:Nat):Option (TypeId × AV):=
 match (ZG ops k).op with
 | .load t x=>some (t,F.ev x)
 | _=>none
def Zmr (j:Nat) {g len cap kk o:Nat} {ls zs:List AV} {t:TypeId} {y:AV} (hl:MW ops F k=some (t,.val<|.pointer<|some ⟨g,o,none⟩)) (hj:h[j]? = some (.row (.slice (some ⟨g,0,none⟩) len cap) kk ls))
  (hz:(ls.drop o).take zs.length=zs) (hy:BD P t zs=some y):XH P (ZG ops k) F h [g] y:=by
 unfold MW at hl;generalize hoo:ZG ops k=q at hl;obtain ⟨dst,op,type,pos,after,guard⟩:=q;cases op<;>simp only at hl<;>try (cases hl)
 rename_i t' x;intro n w G a hF hh;simp only [Wz,Prod.mk.injEq] at hl;obtain ⟨rfl,hl⟩:=hl;have hv:=hF.ev x;rw [hl] at hv;have hv:=hv.val_inv;rcases hh.ok _ (Y0 hj) with ⟨h0,_⟩|⟨g',len',cap',cur,e,h0,h1,h2,h3,h4,h5⟩
 .cases h0
 .cases h0;have hc:=(h5.drop o).take zs.length;rw [hz] at hc;obtain ⟨v,j1,j2⟩:=I3 (P:=P) (b:=g) (o:=o) hy hc;refine ⟨v,j1,fun w' _ hw=>?_⟩;have hrow:=hw g (by simp);rw [h1] at hrow;simp only [execOp,hv];refine Vv ?_;simp only [Instr.loadAt,Instr.sureAddr,Sem.run_bind,Sem.run_pure,Result.andThen_ok];refine j2 w' fun j u hj=>?_
  rw [cell_of_row w' g (o+j) cur e (0,0) hrow];rw [Qp] at hj
  split at hj
  .rw [CF,Qp] at hj
   split at hj
   .simpa using hj
   .cases hj
  .cases hj
def Z1n {K:Fr->List Res->Prop} {g len cap kk:Nat} {ls xs:List AV} {i:Nat} (hs:storeAt P ops F k=some (g,i,xs)) (hlt:i+xs.length<=ls.length)
  (hK:K F (.row (.slice (some ⟨g,0,none⟩) len cap) kk (ls.take i++xs++ls.drop (i+xs.length))::h2)):WU P n (ZG ops k) F (.row (.slice (some ⟨g,0,none⟩) len cap) kk ls::h2) K:=by
 unfold storeAt at hs;generalize hoo:ZG ops k=q at hs;obtain ⟨dst,op,type,pos,after,guard⟩:=q;cases op<;>simp only at hs<;>try (cases hs)
 rename_i t x z
 split at hs
 .rename_i b' o' inf hx hi
  split at hs
  .rename_i hc;simp only [We] at hc;simp only [Wz,Prod.mk.injEq] at hs;obtain ⟨rfl,rfl,hz⟩:=hs;intro Q w G a hF hh;have hvx:=hF.ev x;rw [hx] at hvx;have hvx:=hvx.val_inv;have hvy:=hF.ev z;have hcs:=hvy.cells hc.2.1;rw [hz] at hcs hc;have hone:=hcs.one_cells hc.2.2;have Xg:inf.size=xs.length:=UZ hc.1;have hlen:(a.eval z).cells.size=xs.length:=by have:=hcs.length;simpa using this
   rcases hh.ok (.row (.slice (some ⟨b',0,none⟩) len cap) kk ls) (Xn ..) with ⟨h0,_⟩|⟨g',len',cap',cur,e,h0,h1,h2',h3,h4,h5⟩
   .cases h0
   .cases h0;have hlc:len*kk<=cap*kk:=Ky _ h2';have hst:=run_storeCells_at P b' o' e (a.eval z).cells.toList 0 cur w h1 (by simp [hlen];omega) hone;simp only [Dv,JD] at hst;have hr:(execOp a.eval { dst:=none,op:=.store t x z,type:=type,pos:=pos,after:=after,guard:=guard }).run P w =
      .ok .skip (w.setRow b' (cur.toList.take o'++(a.eval z).cells.toList++cur.toList.drop (o'+(a.eval z).cells.size)).toArray):=by
     simp only [execOp,hvx];simp [Instr.storeAt,Instr.sureAddr,storeVar,Kd hi,hlen,Xg,hst]
    unfold Oper.wp;rw [hr];have hcl:(a.eval z).cells.toList.length=xs.length:=by simpa using hlen
    obtain ⟨j1,j2⟩:=hh.rwrite (ls':=ls.take o'++xs++ls.drop (o'+xs.length)) (cs':=(cur.toList.take o'++(a.eval z).cells.toList++cur.toList.drop (o'+(a.eval z).cells.size)).toArray) h1
     (by simp [hlen];omega) h2' h3 (by simp;omega) (by
      rw [EJ,hlen];have e1:(cur.toList.take o'++(a.eval z).cells.toList++cur.toList.drop (o'+xs.length)).take (len*kk) =
        (cur.toList.take (len*kk)).take o'++(a.eval z).cells.toList++(cur.toList.take (len*kk)).drop (o'+xs.length):=by
       have q1:(cur.toList.take o'++(a.eval z).cells.toList).length=o'+xs.length:=by simp [hlen];omega
       rw [List.take_append,q1,Vc om,List.take_take,Vz om,List.drop_take]
      rw [e1]
      exact ((h5.take o').append hcs).append<|h5.drop _)
    refine ⟨F,_,G,hK,?_,j1,j2⟩;have:=hF.mono (j2.agree hh)
    simpa [Act.put] using this
  .cases hs
 .cases hs
def Zi2 {K:Fr->List Res->Prop} {sz:Nat} (hd:VS n (ZG ops k)=true) (ha:Qi P ops F k=some ([],0,sz))
  (hK:∀g,K (F.put (ZG ops k).dst<|.val<|.slice (some ⟨g,0,none⟩) 0 0) (.row (.slice (some ⟨g,0,none⟩) 0 0) sz []::h)):WU P n (ZG ops k) F h K:=by
 unfold Qi at ha;generalize hoo:ZG ops k=q at ha hd hK;obtain ⟨dst,op,type,pos,after,guard⟩:=q;cases op<;>simp only at ha<;>try (cases ha)
 rename_i t ln parts
 split at ha
 case h_2=>cases ha
 rename_i e ht
 split at ha
 case h_2=>cases ha
 rename_i i hi
 split at ha
 case h_2=>cases ha
 rename_i hc;simp only [We] at hc
 split at ha
 case h_2=>cases ha
 rename_i ls' hf;simp only [Wz,Prod.mk.injEq] at ha;obtain ⟨rfl,rfl,Xg⟩:=ha;intro Q w G a hF hh;obtain ⟨cs,h1,h2⟩:=I2 hF parts ht hi rfl hc.1 hc.2 hf;have hr:(execOp a.eval { dst:=dst,op:=.buildSlice t 0 parts,type:=type,pos:=pos,after:=after,guard:=guard }).run P w =
   .ok (.value<|.slice (some ⟨w.heap.size,0,none⟩) 0 0) (w.alloc<|.cells cs e):=by
  simp only [execOp];exact Vv h2
 unfold Oper.wp;rw [hr];have hlc:=h1.length;simp only [JD] at hlc;obtain ⟨j1,j2⟩:=hh.alloc_rrow cs e (ls:=[]) (len:=0) (cap:=0) (k:=sz) (X8 _) (by simpa using hlc) (by simp) (by simpa using X1.nil);exact ⟨_,_,G,hK _,(hF.mono<|j2.agree hh).put (Tk hd) .val,j1,j2⟩
def Zi0 {K:Fr->List Res->Prop} {g sz:Nat} {xs:List AV} {hx:Option Value} (hd:VS n (ZG ops k)=true) (ha:Tf P ops F k=some (.val<|.slice (some ⟨g,0,none⟩) 0 0,.sl xs hx,sz))
  (hxs:∀y∈xs,y.leaves.length=sz) (hbound:xs.length<=4294967296)
  (hK:∀v:Hd,K (F.put (ZG ops k).dst<|.val v.v) (.row v.v sz (Zc xs)::h2)):WU P n (ZG ops k) F (.row (.slice (some ⟨g,0,none⟩) 0 0) sz []::h2) K:=by
 unfold Tf at ha;generalize hoo:ZG ops k=o at ha hd hK;obtain ⟨dst,op,type,pos,after,guard⟩:=o;cases op<;>simp only at ha<;>try (cases ha)
 rename_i c;obtain ⟨callee,args,tys⟩:=c;simp only at ha
 split at ha
 case h_2=>cases ha
 rename_i s x t t' hargs htys
 split at ha
 case h_2=>cases ha
 rename_i e htt ht;have:=UZ htt;subst this
 split at ha
 case h_2=>cases ha
 rename_i i hinfo
 split at ha
 case h_2=>cases ha
 rename_i z hz
 split at ha
 case h_2=>cases ha
 rename_i hb;simp only [We] at hb;simp only [Wz,Prod.mk.injEq] at ha;obtain ⟨h3,h4,hk1⟩:=ha;have e1:args=#[s,x]:=by rw [<-UG (xs:=args),hargs]
 have e2:tys=#[t,t]:=by rw [<-UG (xs:=tys),htys]
 subst e1;subst e2
 have hzs:z.cells.size=sz:=by rw [UZ hb.1,hk1]
 have hby:=Vx hb.2;intro Q w G a hF hh;have v1:=hF.ev s;have v2:=hF.ev x;rw [h3] at v1;rw [h4] at v2;have v1:=v1.val_inv;have v2:=v2.forget;have finish:∀(v':Hd) w',(Builtin.append_ #[t,t] type #[.slice (some ⟨g,0,none⟩) 0 0,a.eval x]).run P w=.ok v'.v w'->YA w' G (.row v'.v sz (Zc xs)::h2) ->
   X4 w G (.row (.slice (some ⟨g,0,none⟩) 0 0) sz []::h2) w' G (.row v'.v sz (Zc xs)::h2) ->
   ({ dst:=dst,op:=.call { callee:=.builtin .append,args:=#[s,x],argTypes:=#[t,t] },type:=type,pos:=pos,after:=after,guard:=guard }:Oper).wp P a w
    (fun a' w'=>∃F' h' G',K F' h'/\FR w' G' n F' a'/\YA w' G' h'/\X4 w G (.row (.slice (some ⟨g,0,none⟩) 0 0) sz []::h2) w' G' h') Q:=by
  intro v' w' hr j1 j2;have hrun:(execOp a.eval { dst:=dst,op:=.call { callee:=.builtin .append,args:=#[s,x],argTypes:=#[t,t] },type:=type,pos:=pos,after:=after,guard:=guard }).run P w=.ok (.value v'.v) w':=by
   simp only [execOp,resolve,invoke,builtin,Sem.run_bind,Sem.run_pure,Result.andThen_ok,CH,Uh,CG,v1,hr]
  unfold Oper.wp;rw [hrun];exact ⟨_,_,G,hK v',(hF.mono<|j2.agree hh).put (Tk hd) .val,j1,j2⟩
 by_cases hxe:xs=[]
 .subst hxe
  cases v2q:a.eval x with
  | slice ad' l' c'=>
   rw [v2q] at v2;cases v2<;>exact finish ⟨some ⟨g,0,none⟩,0,0⟩ _ (by rw [v2q];exact Et ht hinfo (X8 _) w) hh<|X4.refl w G _
  | _=>rw [v2q] at v2;cases v2
 .generalize hax:a.eval x=ax at v2 finish
  cases v2 with
  | nil _=>exact absurd rfl hxe
  | sl hq hcc hm=>
   rename_i b o' k' c;have hpos:0<xs.length:=Gg.2 hxe;have hfm:=hm.flat_mem;obtain ⟨news,hn,hnc⟩:=hfm.cells;have hfl:=T3 xs hxs;have hnl:news.length=xs.length*i.size:=by rw [hn.length,hfl,hk1]
   have hnews:∀j u,news[j]? = some u->w.cell? ((⟨b,o',none⟩:Addr).add j)=some u:=fun j u hj=>by rw [JK];exact (hnc j u hj).1
   have hbb:(0+xs.length)*i.bytes<=140737488355328:=by
    have:=Nat.mul_le_mul hbound hby;rw [VH];omega
   have hr:=run_append_grow (P:=P) w t type e i z ht hinfo hz ⟨g,0,none⟩ 0 0 [] (by simp) (fun j u hj=>by simp at hj) ⟨b,o',none⟩ xs.length c news hnl hnews om om (growslice_fits om hbb);simp only [VH] at hr;have Xt:=grownCap_ge w xs.length 0 e;obtain ⟨j1,j2⟩:=hh.drew.alloc_rrow ([].toArray++news.toArray++Builtin.zeroCells z.cells (grownCap w xs.length 0 e-xs.length)) e
    (ls:=Zc xs) (len:=xs.length) (cap:=grownCap w xs.length 0 e) (k:=sz) Xt
    (by
     have q2:(grownCap w xs.length 0 e-xs.length)*sz=grownCap w xs.length 0 e*sz-xs.length*sz:=Nat.sub_mul ..;have q3:xs.length*sz<=grownCap w xs.length 0 e*sz:=Ky _ Xt;simp only [Array.size_append,EI,size_zeroCells,hzs,Xx,VH,hnl,hk1]
     omega) hfl
    (by
     have q1:([].toArray++news.toArray++Builtin.zeroCells z.cells (grownCap w xs.length 0 e-xs.length)).toList.take (xs.length*sz)=news:=by
      simp only [EH,BW];rw [<-hk1,<-hnl];exact B4
     rw [q1]
     exact hn.mono<|C4 w G)
   have hs:List.Sublist (.row (.slice (some ⟨w.drew.heap.size,0,none⟩) xs.length<|grownCap w xs.length 0 e) sz (Zc xs)::h2)
     (.row (.slice (some ⟨w.drew.heap.size,0,none⟩) xs.length<|grownCap w xs.length 0 e) sz (Zc xs)::.row (.slice (some ⟨g,0,none⟩) 0 0) sz []::h2):=List.Sublist.cons_cons _ (B3 _ _)
   exact finish ⟨some ⟨w.heap.size,0,none⟩,xs.length,grownCap w xs.length 0 e⟩ _ hr (j1.sub hs)<|(X4.drew w G _).trans<|j2.sub' hs
def Ny {w:World} {G:Yl} {v:Hd} {kk m:Nat} {ls:List AV} (h:Az w G v.v kk ls) (hm:ls.length=m*kk) (hk:0<kk) (h0:0<m):∃g c,v=⟨some ⟨g,0,none⟩,m,c⟩:=by
 obtain ⟨a,l,c⟩:=v;rcases h with ⟨h1,h2⟩|⟨g,len,cap,cur,e,h1,h2,h3,h4,h5,h6⟩
 .subst h2;have:=Nat.mul_pos h0 hk;rw [Xx] at hm;omega
 .cases h1;have:l=m:=ID hk (h5.symm.trans hm);subst this;exact ⟨g,c,U⟩
def Z6d (j m:Nat) {v:Hd} {kk:Nat} {ls:List AV} {c:Code} {A:Vh} (hj:h[j]? = some (.row v.v kk ls)) (hm:ls.length=m*kk) (hk:0<kk) (h0:0<m)
  (H:∀g c',v=⟨some ⟨g,0,none⟩,m,c'⟩->YC P n c A F h):YC P n c A F h:=by
 intro w G a hF hh;obtain ⟨g,c',e⟩:=Ny (hh.ok _ (Y0 hj)) hm hk h0;exact H g c' e w G a hF hh
def Z6c (t j:Nat) {v:Hd} {kk:Nat} {es:List AV} {c:Code} {A:Vh} (hF':F.get t=.h v) (hp:Wu [j] h=some [.row v.v kk (Zc es)]) (hes:∀y∈es,y.leaves.length=kk) (hk:0<kk)
  (H:YC P n c A ((t,.sl es<|some v.v)::F) (.tail v.v kk::XO [j] h)):YC P n c A F h:=by
 intro w G a hF hh;have hp':=UF (VL hp);obtain ⟨G',h1,h2',h3⟩:=Ct (hh.perm hp') hes hk;have e:=h2'.perm hp'.symm (QP _);have hF2:=hF.mono (e.agree hh);have hv:=hF2.get t;rw [hF'] at hv;have hv:=hv.val_inv;refine wp_mono (H w G' a ⟨hF2.defers,hF2.size,fun s=>?_⟩ h1) fun e' a' w' hc=>hc.trans e
 show RV w G' (match Nat.beq t s with|true=>_|false=>Fr.get F s) _
 cases hb:Nat.beq t s with
 | true=>
  have:=UZ hb;subst this;rw [hv];exact h3
 | false=>exact hF2.get s
def Z5b (j i p:Nat) {u v:Value} {kk kv:Nat} {es ls:List AV} (hp:Wu [j,i] h=some [.row u kk (Zc es),.row v kv ls]) (hes:∀y∈es,y.leaves.length=kk) (hk:0<kk) (hl:ls[p]? = some (.val u)) :
  TN h (.row v kv (ls.set p<|.sl es<|some u)::.tail u kk::XO [j,i] h):=by
 intro w G hh;have hp':=UF (VL hp);have hh':=hh.perm hp';obtain ⟨G',h1,h2',h3⟩:=Ct (h2:=.row v kv ls::XO [j,i] h) hh' hes hk;have e:=h2'.perm hp'.symm (QP _);have h1:YA w G' (.tail u kk::.row v kv ls::XO [j,i] h):=h1;have perm:(Res.tail u kk::.row v kv ls::XO [j,i] h).Perm (.row v kv ls::.tail u kk::XO [j,i] h):=List.Perm.swap ..;have h4:=h1.perm perm;have e4:=e.perm (QP _) perm;have hset:∀{w:World} {G:Yl},RV w G (.sl es (some u)) u->Az w G v kv ls->Az w G v kv (ls.set p (.sl es (some u))):=by
  intro w G hu hr;rcases hr with ⟨rfl,h0⟩|⟨g,len,cap,cur,el,rfl,k1,k2,k3,k4,k5⟩
  .exact .inl ⟨rfl,by rw [h0];rfl⟩
  .refine .inr ⟨g,len,cap,cur,el,rfl,k1,k2,k3,by rw [UO];exact k4,?_⟩;obtain ⟨c,c1,c2⟩:=k5.get p _ hl;have:=c2.val_inv;subst this;have h6:=k5.set p hu
   rwa [show (cur.toList.take (len*kv)).set p c=cur.toList.take (len*kv) from by
    apply List.ext_getElem?
    intro q;rw [List.getElem?_set]
    split
    .rename_i hq;subst hq;split
     .exact c1.symm
     .rename_i hq2;rw [Dt om]
    .rfl] at h6
 refine ⟨G',⟨fun r hr=>?_,?_,fun r hr=>?_,h4.lt⟩,⟨e4.os,e4.tape,e4.output,e4.size,e4.sub,e4.same,e4.newG,fun b o hb ⟨r,hr,hf⟩=>e4.newfp b o hb ?_⟩⟩
 .rcases YM.1 hr with rfl|hr
  .exact hset h3<|h4.ok _<|Xn ..
  .exact h4.ok r<|XF _ hr
 .have:=Vb.1 h4.apart;refine Vb.2 ⟨fun r hr b o f1 f2=>this.1 r hr b o ?_ f2,this.2⟩
  cases v with
  | slice a _ _=>cases a with
   | none=>exact f1.elim
   | some a=>exact f1
  | _=>exact f1.elim
 .rcases YM.1 hr with rfl|hr
  .intro b o f1 hg;refine h4.prot (.row v kv ls) (Xn ..) b o ?_ hg
   cases v with
   | slice a _ _=>cases a with
    | none=>exact f1.elim
    | some a=>exact f1
   | _=>exact f1.elim
  .exact h4.prot r<|XF _ hr
 .rcases YM.1 hr with rfl|hr
  .refine ⟨.row v kv ls,Xn ..,?_⟩
   cases v with
   | slice a _ _=>cases a with
    | none=>exact hf.elim
    | some a=>exact hf
   | _=>exact hf.elim
  .exact ⟨r,XF _ hr,hf⟩
def KF:List Res->Option (List<|Value × Nat)
 | []=>some []
 | .tail v k::r=>(KF r).map ((v,k)::·)
 | .many ts::r=>(KF r).map (ts++·)
 | _=>none
def CU {b o:Nat}:∀{hs:List Res} {L:List (Value × Nat)},KF hs=some L->((∃p∈L,G6 p.1 p.2 b o)↔Vr hs b o)
 | [],L,h=>by cases h;simp [Vr]
 | .tail v k::r,L,h=>by
  rw [KF] at h
  cases hr:KF r with
  | none=>rw [hr] at h;cases h
  | some L'=>
   rw [hr] at h;cases h;have ih:=CU (b:=b) (o:=o) hr;have ht:Res.fp (.tail v k) b o↔G6 v k b o:=by
    cases v with
    | slice a _ _=>cases a<;>exact Iff.rfl
    | _=>exact Iff.rfl
   simp only [Vr,YM,exists_eq_or_imp] at ih ⊢;rw [ht,ih]
 | .many ts::r,L,h=>by
  rw [KF] at h
  cases hr:KF r with
  | none=>rw [hr] at h;cases h
  | some L'=>
   rw [hr] at h;cases h;have ih:=CU (b:=b) (o:=o) hr;simp only [Vr,YM,exists_eq_or_imp] at ih ⊢;rw [<-ih];simp only [Xh,Res.fp];constructor
   .rintro ⟨p,hp|hp,hf⟩
    .exact .inl ⟨p,hp,hf⟩
    .exact .inr ⟨p,hp,hf⟩
   .rintro (⟨p,hp,hf⟩|⟨p,hp,hf⟩)
    .exact ⟨p,.inl hp,hf⟩
    .exact ⟨p,.inr hp,hf⟩
 | .obj _ _::_,_,h=>by cases h
 | .ge _::_,_,h=>by cases h
 | .vec _ _::_,_,h=>by cases h
 | .own _ _::_,_,h=>by cases h
 | .row _ _ _::_,_,h=>by cases h
def L6 {w:World} {G:Yl}:∀{hs:List Res} {L:List (Value × Nat)},KF hs=some L->(∀r∈hs,QS w G r)->hs.Pairwise B8->QS w G (.many L)
 | [],L,h,_,_=>by cases h;exact ⟨by simp,.nil⟩
 | .tail v k::r,L,h,h1,h2=>by
  rw [KF] at h
  cases hr:KF r with
  | none=>rw [hr] at h;cases h
  | some L'=>
   rw [hr] at h;cases h;have hpw:=Vb.1 h2;obtain ⟨i1,i2⟩:=L6 (w:=w) (G:=G) hr (fun q hq=>h1 q<|XF _ hq) hpw.2;refine ⟨fun p hp=>?_,Vb.2 ⟨fun p hp b o f1 f2=>?_,i2⟩⟩
   .rcases YM.1 hp with rfl|hp
    .exact h1 (.tail v k)<|Xn ..
    .exact i1 p hp
   .obtain ⟨q,hq,hf⟩:=(CU hr).1 ⟨p,hp,f2⟩;refine hpw.1 q hq b o ?_ hf
    cases v with
    | slice a _ _=>cases a<;>exact f1
    | _=>exact f1
 | .many ts::r,L,h,h1,h2=>by
  rw [KF] at h
  cases hr:KF r with
  | none=>rw [hr] at h;cases h
  | some L'=>
   rw [hr] at h;cases h;have hpw:=Vb.1 h2;obtain ⟨i1,i2⟩:=L6 (w:=w) (G:=G) hr (fun q hq=>h1 q<|XF _ hq) hpw.2;obtain ⟨t1,t2⟩:=h1 (.many ts) (Xn ..);refine ⟨fun p hp=>?_,Ay.2 ⟨t2,i2,fun p hp q hq b o f1 f2=>?_⟩⟩
   .rcases Xh.1 hp with hp|hp
    .exact t1 p hp
    .exact i1 p hp
   .obtain ⟨s,hs,hf⟩:=(CU hr).1 ⟨q,hq,f2⟩;exact hpw.1 s hs b o ⟨p,hp,f1⟩ hf
 | .obj _ _::_,_,h,_,_=>by cases h
 | .ge _::_,_,h,_,_=>by cases h
 | .vec _ _::_,_,h,_,_=>by cases h
 | .own _ _::_,_,h,_,_=>by cases h
 | .row _ _ _::_,_,h,_,_=>by cases h
def Znd (is:List Nat) {L:List (Value × Nat)} {hs:List Res} (hp:Wu is h=some hs) (hb:KF hs=some L):TN h (.many L::XO is h):=by
 intro w G hh;have hp':=UF (VL hp);have hh':=hh.perm hp';have hpw:=Ay.1 hh'.apart;have hmany:=L6 (w:=w) (G:=G) hb (fun r hr=>hh'.ok r (Xh.2 (.inl hr))) hpw.1
 refine ⟨G,⟨fun r hr=>?_,Vb.2 ⟨fun r hr b o f1 f2=>?_,hpw.2.1⟩,fun r hr b o hf hg=>?_,hh'.lt⟩,
  ⟨rfl,rfl,rfl,X8 _,fun _ _ h=>h,fun _ _=>.inl rfl,fun _ _ _ h=>.inl h,fun b o _ ⟨r,hr,hf⟩=>?_⟩⟩
 .rcases YM.1 hr with rfl|hr
  .exact hmany
  .exact hh'.ok r<|Xh.2<|.inr hr
 .exact hh'.cross ((CU hb).1 f1) ⟨r,hr,f2⟩
 .rcases YM.1 hr with rfl|hr
  .obtain ⟨q,hq,hf⟩:=(CU hb).1 hf;exact hh'.prot q (Xh.2 (.inl hq)) b o hf hg
  .exact hh'.prot r (Xh.2<|.inr hr) b o hf hg
 .refine (Cd hp').2 ?_;rcases YM.1 hr with rfl|hr
  .exact AM.2<|.inl<|(CU hb).1 hf
  .exact AM.2<|.inr ⟨r,hr,hf⟩
end
end Go.Abs
section
namespace Go.Abs
structure VQ where
 fields:LI
 fv:Value
structure VA where
 frm:Int
 to_:Int
 cons:List VQ
 cv:Value
mutual
inductive WA where
 | mk (op num into:Int) (args:LI) (av:Value) (kids:List XP) (kv:Value)
inductive XP where
 | mk (steps:List WA) (sv:Value) (result:Int)
end
namespace WA
def op:WA->Int|.mk a _ _ _ _ _ _=>a
def num:WA->Int|.mk _ a _ _ _ _ _=>a
def into:WA->Int|.mk _ _ a _ _ _ _=>a
def args:WA->LI|.mk _ _ _ a _ _ _=>a
def av:WA->Value|.mk _ _ _ _ a _ _=>a
def kids:WA->List XP|.mk _ _ _ _ _ a _=>a
def kv:WA->Value|.mk _ _ _ _ _ _ a=>a
end WA
namespace XP
def steps:XP->List WA|.mk a _ _=>a
def sv:XP->Value|.mk _ a _=>a
def result:XP->Int|.mk _ _ a=>a
end XP
structure Vn where
 params:LI
 pv:Value
 lent:LI
 lv:Value
 result:Int
 body:XP
structure QR where
 decls:List VA
 dv:Value
 routines:List Vn
 rv:Value
abbrev Z07 (c:VQ):List AV:=[ZT c.fields c.fv]
abbrev Ow (c:VQ):AV:=.agg (Z07 c)
def UK (cs:List VQ):List AV:=cs.map Ow
abbrev FB (xs:List VQ) (v:Value):AV:=.sl (UK xs) (some v)
abbrev Z08 (d:VA):List AV:=[.i d.frm,.i d.to_,FB d.cons d.cv]
abbrev Ox (d:VA):AV:=.agg (Z08 d)
def VJ (ds:List VA):List AV:=ds.map Ox
abbrev Dg (xs:List VA) (v:Value):AV:=.sl (VJ xs) (some v)
mutual
def LF:WA->AV
 | .mk op num into args av kids kv=>.agg [.i op,.i num,.i into,ZT args av,.sl (TT kids) (some kv)]
def LA:XP->AV
 | .mk steps sv result=>.agg [.sl (QW steps) (some sv),.i result]
def QW:List WA->List AV
 | []=>[]
 | s::ss=>LF s::QW ss
def TT:List XP->List AV
 | []=>[]
 | b::bs=>LA b::TT bs
end
abbrev El (xs:List WA) (v:Value):AV:=.sl (QW xs) (some v)
abbrev Df (xs:List XP) (v:Value):AV:=.sl (TT xs) (some v)
abbrev Z0a (s:WA):List AV:=[.i s.op,.i s.num,.i s.into,ZT s.args s.av,Df s.kids s.kv]
abbrev EO (s:WA):AV:=.agg (Z0a s)
abbrev MH (b:XP):List AV:=[El b.steps b.sv,.i b.result]
abbrev Qu (b:XP):AV:=.agg (MH b)
abbrev Z09 (r:Vn):List AV:=[ZT r.params r.pv,ZT r.lent r.lv,.i r.result,El r.body.steps r.body.sv,.i r.body.result]
abbrev Oy (r:Vn):AV:=.agg (Z09 r)
def Qm (rs:List Vn):List AV:=rs.map Oy
abbrev Zhc (xs:List Vn):AV:=.sl (Qm xs) none
abbrev FC (xs:List Vn) (v:Value):AV:=.sl (Qm xs) (some v)
abbrev MI (n:QR):List AV:=[Dg n.decls n.dv,FC n.routines n.rv]
abbrev Gi (n:QR):AV:=.agg (MI n)
def Rd (s:WA):LF s=EO s:=by cases s;rw [LF];rfl
def R9 (b:XP):LA b=Qu b:=by cases b;rw [LA];rfl
def F8:∀xs:List WA,QW xs=xs.map EO
 | []=>by rw [QW];rfl
 | s::ss=>by rw [QW,F8 ss,Rd];rfl
def CW:∀xs:List XP,TT xs=xs.map Qu
 | []=>by rw [TT];rfl
 | b::bs=>by rw [TT,CW bs,R9];rfl
@[simp] theorem Zom (xs:List VQ):(UK xs).length=xs.length:=by simp [UK]
def Za7 (xs ys:List VQ):UK (xs++ys)=UK xs++UK ys:=by simp [UK]
def Ra (xs:List VQ):∀y∈UK xs,y.leaves.length=1:=by intro y hy;simp only [UK,XG] at hy;obtain ⟨x,_,rfl⟩:=hy;rfl
@[simp] theorem Zon (xs:List VA):(VJ xs).length=xs.length:=by simp [VJ]
def Za8 (xs ys:List VA):VJ (xs++ys)=VJ xs++VJ ys:=by simp [VJ]
def Rb (xs:List VA):∀y∈VJ xs,y.leaves.length=3:=by intro y hy;simp only [VJ,XG] at hy;obtain ⟨x,_,rfl⟩:=hy;rfl
@[simp] theorem Zop (xs:List WA):(QW xs).length=xs.length:=by simp [F8]
def Zab (xs ys:List WA):QW (xs++ys)=QW xs++QW ys:=by simp [F8]
def Zac (xs:List WA):∀y∈QW xs,y.leaves.length=5:=by intro y hy;simp only [F8,XG] at hy;obtain ⟨x,_,rfl⟩:=hy;rfl
@[simp] theorem Zol (xs:List XP):(TT xs).length=xs.length:=by simp [CW]
def LD (xs ys:List XP):TT (xs++ys)=TT xs++TT ys:=by simp [CW]
def LE (xs:List XP):∀y∈TT xs,y.leaves.length=2:=by intro y hy;simp only [CW,XG] at hy;obtain ⟨x,_,rfl⟩:=hy;rfl
@[simp] theorem Zoo (xs:List Vn):(Qm xs).length=xs.length:=by simp [Qm]
def Za9 (xs ys:List Vn):Qm (xs++ys)=Qm xs++Qm ys:=by simp [Qm]
def Rc (xs:List Vn):∀y∈Qm xs,y.leaves.length=5:=by intro y hy;simp only [Qm,XG] at hy;obtain ⟨x,_,rfl⟩:=hy;rfl
def Zaa (xs:List Vn):(Zc (Qm xs)).all AV.one=true:=JS fun y hy=>by simp only [Qm,XG] at hy;obtain ⟨x,_,rfl⟩:=hy;rfl
def QD (c:VQ):List (Value × Nat):=[(c.fv,1)]
def Um (cs:List VQ):List (Value × Nat):=cs.flatMap QD
def QE (d:VA):List (Value × Nat):=Um d.cons++[(d.cv,1)]
def Ue (ds:List VA):List (Value × Nat):=ds.flatMap QE
mutual
def QG:WA->List (Value × Nat)
 | .mk _ _ _ _ av kids kv=>(av,1)::(WY kids++[(kv,2)])
def Vs:XP->List (Value × Nat)
 | .mk steps sv _=>Vt steps++[(sv,5)]
def Vt:List WA->List (Value × Nat)
 | []=>[]
 | s::r=>QG s++Vt r
def WY:List XP->List (Value × Nat)
 | []=>[]
 | b::r=>Vs b++WY r
end
def QF (r:Vn):List (Value × Nat):=(r.pv,1)::(r.lv,1)::Vs r.body
def Un (rs:List Vn):List (Value × Nat):=rs.flatMap QF
def TE (n:QR):List (Value × Nat):=Ue n.decls++((n.dv,3)::(Un n.routines++[(n.rv,5)]))
def Zdm (b:XP):Vs b=Vt b.steps++[(b.sv,5)]:=by cases b;rw [Vs];rfl
def QH:∀(xs:List WA) (ys:List WA),Vt (xs++ys)=Vt xs++Vt ys
 | [],ys=>by simp [Vt]
 | x::r,ys=>by rw [QQ,Vt,Vt,QH r ys,Uq]
def QC:∀(xs:List XP) (ys:List XP),WY (xs++ys)=WY xs++WY ys
 | [],ys=>by simp [WY]
 | x::r,ys=>by rw [QQ,WY,WY,QC r ys,Uq]
def K6:Vt []=[]:=by rw [Vt]
def K1:WY []=[]:=by rw [WY]
def K3 (xs ys:List VQ):Um (xs++ys)=Um xs++Um ys:=by simp [Um]
def K4 (xs ys:List VA):Ue (xs++ys)=Ue xs++Ue ys:=by simp [Ue]
def K5 (xs ys:List Vn):Un (xs++ys)=Un xs++Un ys:=by simp [Un]
def VQ.er (c:VQ):Yo:=⟨c.fields⟩
def VA.er (d:VA):Zh:=⟨d.frm,d.to_,d.cons.map VQ.er⟩
mutual
def WA.er:WA->Z4
 | .mk op num into args _ kids _=>.mk op num into args (KN kids)
def XP.er:XP->Z6
 | .mk steps _ result=>.mk (Jm steps) result
def Jm:List WA->List Z4
 | []=>[]
 | s::r=>s.er::Jm r
def KN:List XP->List Z6
 | []=>[]
 | b::r=>b.er::KN r
end
def Vn.er (r:Vn):Y9:=⟨r.params,r.lent,r.result,r.body.er⟩
def QR.er (n:QR):Zm:=⟨n.decls.map VA.er,n.routines.map Vn.er⟩
def LR:∀xs:List WA,Jm xs=xs.map WA.er
 | []=>by rw [Jm];rfl
 | x::r=>by rw [Jm,LR r];rfl
def LP:∀xs:List XP,KN xs=xs.map XP.er
 | []=>by rw [KN];rfl
 | x::r=>by rw [KN,LP r];rfl
inductive Q7:List AV->List AV->Prop
 | nil:Q7 [] []
 | cons {x y:AV} {xs ys:List AV} (hl:x.leaves.length=y.leaves.length) (h:Vo x.leaves y.leaves) (t:Q7 xs ys):Q7 (x::xs) (y::ys)
def Q7.length:∀{xs ys:List AV},Q7 xs ys->xs.length=ys.length
 | _,_,.nil=>rfl
 | _,_,.cons _ _ t=>by simp [t.length]
def Q7.els {w:World} {G:Yl} {k b:Nat}:∀{o:Nat} {xs ys:List AV},Q7 xs ys->Vp w G k b o xs->Vp w G k b o ys
 | _,_,_,.nil,_=>.nil
 | _,_,_,.cons hl h t,.cons hk hm r=>.cons (hl▸hk) (h.mem hm) (t.els r)
def Zd.els {es es':List AV} (hv:Option Value) (h:Q7 es es'):Zd (.sl es hv) (.sl es' none):=by
 intro w G v hr
 cases hr with
 | nil _=>cases h;exact .nil (by simp)
 | sl _ hc hm=>rw [h.length] at hc ⊢;exact .sl (by simp) hc (h.els hm)
def Q7.map {α β:Type} {f:α->AV} {g:β->AV} {e:α->β} (h:∀x,(f x).leaves.length=(g<|e x).leaves.length/\Vo (f x).leaves (g<|e x).leaves):∀xs:List α,Q7 (xs.map f)<|(xs.map e).map g
 | []=>.nil
 | x::r=>.cons (h x).1 (h x).2 (Q7.map h r)
def Zh3 (c:VQ):Vo (Z07 c) (Ee c.er):=.cons (Zd.forget _ _) .nil
def Zat (cs:List VQ):Q7 (UK cs) (XW<|cs.map VQ.er):=Q7.map (f:=Ow) (g:=Dz) (e:=VQ.er) (fun c=>⟨rfl,Zh3 c⟩) cs
def Zh4 (d:VA):Vo (Z08 d) (Qf d.er):=.cons (Zd.refl _) (.cons (Zd.refl _)<|.cons (Zd.els _<|Zat _) .nil)
def Zau (ds:List VA):Q7 (VJ ds) (YF<|ds.map VA.er):=Q7.map (f:=Ox) (g:=Ba) (e:=VA.er) (fun c=>⟨rfl,Zh4 c⟩) ds
mutual
def Zh7:∀s:WA,Vo (Z0a s)<|Xp s.er
 | .mk op num into args av kids kv=>by
  rw [WA.er];exact .cons (Zd.refl _)<|.cons (Zd.refl _)<|.cons (Zd.refl _)<|.cons (Zd.forget _ _)<|.cons (Zd.els _<|Rq kids) .nil
def Z0r:∀b:XP,Vo (MH b)<|Xb b.er
 | .mk steps sv result=>by
  rw [XP.er];exact .cons (Zd.els _<|Rr steps)<|.cons (Zd.refl _) .nil
def Rr:∀xs:List WA,Q7 (QW xs)<|Zv<|Jm xs
 | []=>by rw [QW,Jm,Zv];exact .nil
 | s::r=>by
  rw [QW,Jm,Zv,Rd,Ri];exact .cons rfl (Zh7 s)<|Rr r
def Rq:∀xs:List XP,Q7 (TT xs)<|YP<|KN xs
 | []=>by rw [TT,KN,YP];exact .nil
 | s::r=>by
  rw [TT,KN,YP,R9,R8];exact .cons rfl (Z0r s)<|Rq r
end
def Zh6 (r:Vn):Vo (Z09 r) (Qg r.er):=by
 have h:=Z0r r.body
 cases h with
 | cons h1 t=>cases t with
  | cons h2 _=>exact .cons (Zd.forget _ _) (.cons (Zd.forget _ _) (.cons (Zd.refl _) (.cons h1 (.cons h2 .nil))))
def Zav (rs:List Vn):Q7 (Qm rs) (YS<|rs.map Vn.er):=Q7.map (f:=Oy) (g:=Kh) (e:=Vn.er) (fun c=>⟨rfl,Zh6 c⟩) rs
def Zh5 (n:QR):Vo (MI n) (YI n.er):=.cons (Zd.els _<|Zau _) (.cons (Zd.els _<|Zav _) .nil)
def Z77 (n:QR):Zd (Gi n) (Yq n.er):=Zd.agg (Zh5 n)
def Wf.args_le {P:Program} {f:FuncId} {as1 xs:List AV} {h:List Res} {R:AV->List Res->Prop} (H:Wf P f xs h R) (hle:Vo as1 xs):Wf P f as1 h R:=
 fun w G vs hvs hh=>H w G vs (hle.cs hvs) hh
def Qh {es:List AV} {k:Nat} (h:es.all (fun y=>Nat.beq y.leaves.length k)=true):∀y∈es,y.leaves.length=k:=fun y hy=>UZ (Ax.1 h y hy)
abbrev rK (g:Hd) (k:Nat) (ls:List AV):Res:=.row g.v k ls
section
variable {P:Program} {n:Nat} {c:Code} {A:Vh} {F:Fr} {h:List Res} {ops:Array Oper} {B:Fr->List Res->Prop} {k:Nat}
variable {T:List (Nat × List Nat)} {fuel:Nat} {done:List Nat}
def tB (is:List Nat) (hs:List Res) (L' L:List (Value × Nat)) (e:L'=L) (hp:Wu is h=some hs:=by kernel_rfl) (hb:KF hs=some L':=by kernel_rfl):TN h (.many L::XO is h):=e▸Znd is hp hb
def rr {v:Value} {q:Nat} {ls ls':List AV} {t t':List Res} (h:ls=ls') (e:t=t'):Res.row v q ls::t=.row v q ls'::t':=h▸e▸rfl
def SQ (j m:Nat) (v:Hd) (kk:Nat) (ls:List AV) (hm:ls.length=m*kk) (hk:0<kk:=by omega) (hl:Eg P ops F k=some (.h v):=by kernel_rfl) (hj:h[j]? = some (rK v kk ls):=by kernel_rfl):XH P (ZG ops k) F h [] (.i m):=
 Zmq j hl hj hm hk
def W9 (b l c' q sz:Nat) (j:Int) (hq:j=(q:Int)/\q<l:=by omega) (hi:Ch P ops F k=some (.val<|.slice (some ⟨b,0,none⟩) l c',j,sz):=by kernel_rfl):XH P (ZG ops k) F h [] (.val<|.pointer<|some ⟨b,q*sz,none⟩):=by
 have:=Z4s (P:=P) (F:=F) (h:=h) hi om om;rw [hq.1,Ua,VH] at this;exact this
def Vj (j g len cap kk o:Nat) (ls zs:List AV) (t:TypeId) (y:AV) (hz:(ls.drop o).take zs.length=zs) (hl:MW ops F k=some (t,.val<|.pointer<|some ⟨g,o,none⟩):=by kernel_rfl) (hj:h[j]? = some (.row (.slice (some ⟨g,0,none⟩) len cap) kk ls):=by kernel_rfl)
  (hy:BD P t zs=some y:=by kernel_rfl):XH P (ZG ops k) F h [g] y:=Zmr j hl hj hz hy
def Bz (j g len cap kk o:Nat) (xs ls ls':List AV) (hlt:o+xs.length<=ls.length) (he:ls.take o++xs++ls.drop (o+xs.length)=ls') (H:SI P n ops B (k+1) F (.row (.slice (some ⟨g,0,none⟩) len cap) kk ls'::XO [j] h)) (hk:Xe n ops F k=true:=by kernel_rfl)
  (hs:storeAt P ops F k=some (g,o,xs):=by kernel_rfl) (hp:Wu [j] h=some [.row (.slice (some ⟨g,0,none⟩) len cap) kk ls]:=by kernel_rfl):SI P n ops B k F h:=
 TZ hk (WU.perm (UF<|VL hp)<|Z1n hs hlt<|by rw [he];exact H)
def C9 (i j:Nat) (js bs:List Nat) (g len cap kk o:Nat) (xs ls ls':List AV) (hlt:o+xs.length<=ls.length) (he:ls.take o++xs++ls.drop (o+xs.length)=ls')
  (H:X3 P n ops B (T.filter fun t=>!Vq ops i t.1) fuel (done++[i]) F (.row (.slice (some ⟨g,0,none⟩) len cap) kk ls'::XO [j] h)) (hk:Xe n ops F i=true:=by kernel_rfl)
  (hs:storeAt P ops F i=some (g,o,xs):=by kernel_rfl) (hp:Wu [j] h=some [.row (.slice (some ⟨g,0,none⟩) len cap) kk ls]:=by kernel_rfl) (ho:UE ops i T=bs:=by kernel_rfl)
  (hj:js.map (fun q=>(V3<|XO [j] h)[q]?)=bs.map some:=by kernel_rfl):VY P n ops B T fuel done F h i:=
 Jj [j] js bs hk (VL hp) ho hj (Z1n (h2:=[]) hs hlt<|by rw [he];exact H)
def By (sz:Nat) (hK:∀g,SI P n ops B (k+1) (F.put (ZG ops k).dst<|.val<|.slice (some ⟨g,0,none⟩) 0 0) (.row (.slice (some ⟨g,0,none⟩) 0 0) sz []::h)) (hk:Xe n ops F k=true:=by kernel_rfl)
  (ha:Qi P ops F k=some ([],0,sz):=by kernel_rfl):SI P n ops B k F h:=TZ hk (Zi2 (U5 hk).2.1 ha hK)
def E5 (j g sz:Nat) (xs:List AV) (hx:Option Value) (hxs:∀y∈xs,y.leaves.length=sz) (hbound:xs.length<=4294967296) (hK:∀v:Hd,SI P n ops B (k+1) (F.put (ZG ops k).dst<|.h v) (rK v sz (Zc xs)::XO [j] h))
  (hk:Xe n ops F k=true:=by kernel_rfl) (ha:Tf P ops F k=some (.val<|.slice (some ⟨g,0,none⟩) 0 0,.sl xs hx,sz):=by kernel_rfl) (hp:Wu [j] h=some [.row (.slice (some ⟨g,0,none⟩) 0 0) sz []]:=by kernel_rfl):SI P n ops B k F h:=
 TZ hk (WU.perm (UF<|VL hp)<|Zi0 (U5 hk).2.1 ha hxs hbound hK)
def SN (j m:Nat) {v:Hd} {kk:Nat} {ls:List AV} (hm:ls.length=m*kk) (h0:0<m) (H:∀g c',v=⟨some ⟨g,0,none⟩,m,c'⟩->YC P n c A F h) (hk:0<kk:=by omega) (hj:h[j]? = some (rK v kk ls):=by kernel_rfl):YC P n c A F h:=
 Z6d j m hj hm hk h0 H
def SP (t j:Nat) {v:Hd} {kk:Nat} (es:List AV) (hes:∀y∈es,y.leaves.length=kk) (H:YC P n c A ((t,.sl es<|some v.v)::F) (.tail v.v kk::XO [j] h)) (hk:0<kk:=by omega) (hF':F.get t=.h v:=by kernel_rfl)
  (hp:Wu [j] h=some [rK v kk (Zc es)]:=by kernel_rfl):YC P n c A F h:=Z6c t j hF' hp hes hk H
def Zn8 (j i p:Nat) (u v:Value) (kk kv:Nat) (es ls:List AV) (hes:∀y∈es,y.leaves.length=kk) (hl:ls[p]? = some (.val u)) (hk:0<kk:=by omega) (hp:Wu [j,i] h=some [.row u kk (Zc es),.row v kv ls]:=by kernel_rfl) :
  TN h (.row v kv (ls.set p<|.sl es<|some u)::.tail u kk::XO [j,i] h):=Z5b j i p hp hes hk hl
def Cu {A xs ys B:List AV} {o:Nat} (hA:A.length=o) (hl:xs.length=ys.length):(A++(xs++B)).take o++ys++(A++(xs++B)).drop (o+ys.length)=A++(ys++B):=by
 subst hA;rw [B4,<-hl,<-List.drop_drop,List.drop_left,List.drop_left,Uq]
def HV {A xs B:List AV} {o:Nat} (hA:A.length=o):((A++(xs++B)).drop o).take xs.length=xs:=by
 subst hA;rw [List.drop_left,B4]
def Uk (xs ys:List AV):Zc (xs++ys)=Zc xs++Zc ys:=by simp [Zc]
def Zbh:Zc []=[]:=rfl
def EA (j:Nat) (v:Value) (q:Nat) (ls ls':List AV) (e:ls=ls') (hp:Wu [j] h=some [.row v q ls]:=by kernel_rfl):TN h (.row v q ls'::XO [j] h):=by
 subst e;intro w G hh;have hp':=UF (VL hp);exact ⟨G,hh.perm hp',(X4.refl w G h).perm (QP _) hp'⟩
end
end Go.Abs
end
section
namespace Go.Abs
def YA.rgrow {w:World} {G:Yl} {h2:List Res} {g len len' cap k:Nat} {ls ls':List AV} (hh:YA w G (.row (.slice (some ⟨g,0,none⟩) len cap) k ls::h2)) {cs cs':Array Value} {e:TypeId}
  (hb:w.heap[g]? = some (.cells cs e (0,0))) (Xg:cs'.size=cs.size) (hle:len'<=cap) (hcap:cs.size=cap*k) (hl:ls'.length=len'*k) (hls:X1 w G ls' (cs'.toList.take (len'*k))) :
  YA (w.setRow g cs') G (.row (.slice (some ⟨g,0,none⟩) len' cap) k ls'::h2) /\
   X4 w G (.row (.slice (some ⟨g,0,none⟩) len cap) k ls::h2) (w.setRow g cs') G (.row (.slice (some ⟨g,0,none⟩) len' cap) k ls'::h2):=by
 have hmem:Res.row (.slice (some ⟨g,0,none⟩) len cap) k ls∈Res.row (.slice (some ⟨g,0,none⟩) len cap) k ls::h2:=Xn ..
 have hA:Ur G w (w.setRow g cs') G:=⟨fun c j hg=>by
  have hne:c≠g:=fun he=>hh.prot _ hmem c j he hg
  simp [World.cell?,Up w g c cs' hne],fun _ _ h=>h⟩
 have e1:X4 w G [.row (.slice (some ⟨g,0,none⟩) len cap) k ls] (w.setRow g cs') G [.row (.slice (some ⟨g,0,none⟩) len' cap) k ls']:=by
  refine ⟨rfl,rfl,rfl,by simp [World.setRow],fun _ _ h=>h,?_,fun _ _ _ h=>.inl h,?_⟩
  .intro c hc;by_cases hcb:c=g
   .subst hcb;exact .inr ⟨cs,cs',e,(0,0),hb,setRow_heap w c cs cs' e (0,0) hb,Xg,fun j hj=>absurd ⟨_,Xn ..,U⟩ hj⟩
   .exact .inl<|Up w g c cs' hcb
  .rintro c j _ ⟨r,hr,hf⟩;rw [XI.1 hr] at hf;exact ⟨_,Xn ..,hf⟩
 have e2:YA (w.setRow g cs') G [.row (.slice (some ⟨g,0,none⟩) len' cap) k ls']:=by
  refine ⟨fun r hr=>?_,CI _ _,fun r hr c j hf hg=>?_,fun c j hg=>?_⟩
  .rw [XI.1 hr];exact .inr ⟨g,len',cap,cs',e,U,setRow_heap w g cs cs' e (0,0) hb,hle,Xg.trans hcap,hl,hls.mono hA⟩
  .rw [XI.1 hr] at hf;exact hh.prot _ hmem c j hf hg
  .have:=hh.lt c j hg
   simpa [World.setRow] using this
 exact YA.frame (h:=[.row (.slice (some ⟨g,0,none⟩) len cap) k ls]) (k:=h2) hh e1 e2
section
variable {P:Program} {n:Nat} {ops:Array Oper} {k:Nat} {F:Fr} {h2:List Res}
def Z1l {K:Fr->List Res->Prop} {v:Hd} {sz m:Nat} {ls xs:List AV} {hx:Option Value} (hd:VS n (ZG ops k)=true) (ha:Tf P ops F k=some (.val v.v,.sl xs hx,sz))
  (hxs:∀y∈xs,y.leaves.length=sz) (hone:(Zc xs).all AV.one=true) (hm0:ls.length=m*sz) (hk0:0<sz) (hne:xs≠[]) (hbound:m+xs.length<=4294967296)
  (hK:∀v':Hd,K (F.put (ZG ops k).dst<|.val v'.v) (.row v'.v sz (ls++Zc xs)::h2)):WU P n (ZG ops k) F (.row v.v sz ls::h2) K:=by
 unfold Tf at ha;generalize hoo:ZG ops k=o at ha hd hK;obtain ⟨dst,op,type,pos,after,guard⟩:=o;cases op<;>simp only at ha<;>try (cases ha)
 rename_i c;obtain ⟨callee,args,tys⟩:=c;simp only at ha
 split at ha
 case h_2=>cases ha
 rename_i s x t t' hargs htys
 split at ha
 case h_2=>cases ha
 rename_i e htt ht;have:=UZ htt;subst this
 split at ha
 case h_2=>cases ha
 rename_i i hinfo
 split at ha
 case h_2=>cases ha
 rename_i z hz
 split at ha
 case h_2=>cases ha
 rename_i hb;simp only [We] at hb;simp only [Wz,Prod.mk.injEq] at ha;obtain ⟨h3,h4,hk1⟩:=ha;have e1:args=#[s,x]:=by rw [<-UG (xs:=args),hargs]
 have e2:tys=#[t,t]:=by rw [<-UG (xs:=tys),htys]
 subst e1;subst e2
 have hzs:z.cells.size=sz:=by rw [UZ hb.1,hk1]
 have hby:=Vx hb.2;have hfl:=T3 xs hxs;intro Q w G a hF hh;have v1:=hF.ev s;have v2:=hF.ev x;rw [h3] at v1;rw [h4] at v2;have v1:=v1.val_inv;have v2:=v2.forget;have finish:∀(v':Hd) w',(Builtin.append_ #[t,t] type #[v.v,a.eval x]).run P w=.ok v'.v w'->YA w' G (.row v'.v sz (ls++Zc xs)::h2)->X4 w G (.row v.v sz ls::h2) w' G (.row v'.v sz (ls++Zc xs)::h2) ->
   ({ dst:=dst,op:=.call { callee:=.builtin .append,args:=#[s,x],argTypes:=#[t,t] },type:=type,pos:=pos,after:=after,guard:=guard }:Oper).wp P a w
    (fun a' w'=>∃F' h' G',K F' h'/\FR w' G' n F' a'/\YA w' G' h'/\X4 w G (.row v.v sz ls::h2) w' G' h') Q:=by
  intro v' w' hr j1 j2;have hrun:(execOp a.eval { dst:=dst,op:=.call { callee:=.builtin .append,args:=#[s,x],argTypes:=#[t,t] },type:=type,pos:=pos,after:=after,guard:=guard }).run P w=.ok (.value v'.v) w':=by
   simp only [execOp,resolve,invoke,builtin,Sem.run_bind,Sem.run_pure,Result.andThen_ok,CH,Uh,CG,v1,hr]
  unfold Oper.wp;rw [hrun];exact ⟨_,_,G,hK v',(hF.mono<|j2.agree hh).put (Tk hd) .val,j1,j2⟩
 have hrow0:=hh.ok (.row v.v sz ls) (Xn ..);have hsub2:∀r:Res,List.Sublist (r::h2) (r::.row v.v sz ls::h2):=fun r=>List.Sublist.cons_cons _<|B3 _ _
 have grown:∀(olds news:List Value) (old:Nat),X1 w G ls olds->X1 w G (Zc xs) news ->
   YA (w.drew.alloc<|.cells (olds.toArray++news.toArray++Builtin.zeroCells z.cells (grownCap w (m+xs.length) old e-(m+xs.length))) e) G
    (.row (.slice (some ⟨w.heap.size,0,none⟩) (m+xs.length)<|grownCap w (m+xs.length) old e) sz (ls++Zc xs)::h2) /\
   X4 w G (.row v.v sz ls::h2) (w.drew.alloc<|.cells (olds.toArray++news.toArray++Builtin.zeroCells z.cells (grownCap w (m+xs.length) old e-(m+xs.length))) e) G
    (.row (.slice (some ⟨w.heap.size,0,none⟩) (m+xs.length)<|grownCap w (m+xs.length) old e) sz (ls++Zc xs)::h2):=by
  intro olds news old ho hn;have Xt:=grownCap_ge w (m+xs.length) old e;have hol:=ho.length;have hnl:=hn.length;have hlen:(ls++Zc xs).length=(m+xs.length)*sz:=by rw [Yy,hm0,hfl,Kf]
  obtain ⟨j1,j2⟩:=hh.drew.alloc_rrow (olds.toArray++news.toArray++Builtin.zeroCells z.cells (grownCap w (m+xs.length) old e-(m+xs.length))) e
   (ls:=ls++Zc xs) (len:=m+xs.length) (cap:=grownCap w (m+xs.length) old e) (k:=sz) Xt
   (by
    have q2:(grownCap w (m+xs.length) old e-(m+xs.length))*sz=grownCap w (m+xs.length) old e*sz-(m+xs.length)*sz:=Nat.sub_mul ..;have q3:(m+xs.length)*sz<=grownCap w (m+xs.length) old e*sz:=Ky _ Xt;have q4:(m+xs.length)*sz=m*sz+xs.length*sz:=Kf ..;simp only [Array.size_append,EI,size_zeroCells,hzs,hol,hnl,hm0,hfl]
    omega) hlen
   (by
    have:(olds.toArray++news.toArray++Builtin.zeroCells z.cells (grownCap w (m+xs.length) old e-(m+xs.length))).toList.take ((m+xs.length)*sz)=olds++news:=by
     simp only [EH];rw [<-hlen,Yy,<-hol,<-hnl,<-Yy];exact B4
    rw [this]
    exact (ho.append hn).mono<|C4 w G)
  exact ⟨j1.sub<|hsub2 _,(X4.drew w G _).trans<|j2.sub'<|hsub2 _⟩
 generalize hax:a.eval x=ax at v2 finish
 cases v2 with
 | nil _=>exact absurd rfl hne
 | sl hq hcc hm=>
  rename_i b o' k' c;have hpos:0<xs.length:=Gg.2 hne;have hfm:=hm.flat_mem;obtain ⟨news,hn,hnc⟩:=hfm.cells;have hnl:news.length=xs.length*i.size:=by rw [hn.length,hfl,hk1]
  have hone':=hn.one_cells hone;have hnews:∀j u,news[j]? = some u->w.cell? ((⟨b,o',none⟩:Addr).add j)=some u:=fun j u hj=>by rw [JK];exact (hnc j u hj).1
  have hbb:(m+xs.length)*i.bytes<=140737488355328:=by
   have:=Nat.mul_le_mul hbound hby;omega
  rcases hrow0 with ⟨hv0,hl0⟩|⟨g,len,cap,cur,el,hv0,hrow,hlc,hcur,hll,hcells⟩
  .subst hl0;have hm1:m=0:=by
    have:m*sz=0:=by simpa using hm0.symm
    rcases Nat.mul_eq_zero.1 this with h|h
    .exact h
    .omega
   subst hm1;rw [hv0] at finish hh ⊢;have hr:=run_append_nil (P:=P) w t type e i z ht hinfo hz ⟨b,o',none⟩ xs.length c news hnl hnews hpos om (by simp only [VH] at hbb;omega);obtain ⟨j1,j2⟩:=grown [] news 0 .nil hn;simp only [VH,Array.empty_append,BW] at j1 j2;rw [hv0] at j2;exact finish ⟨some ⟨w.heap.size,0,none⟩,xs.length,grownCap w xs.length 0 e⟩ _ hr (by simpa using j1) (by simpa using j2)
  .have hlm:len=m:=ID hk0 (hll.symm.trans hm0);subst hlm;rw [hv0] at finish hh ⊢;have q5:len*sz<=cap*sz:=Ky _ hlc;have h1:(cur.toList.take (len*sz)).length=len*sz:=by rw [WK,JD,hcur,Vz q5]
   have hcl:cur.toList.length=cap*sz:=by rw [JD,hcur]
   by_cases hroom:len+xs.length<=cap
   .have q1:(len+xs.length)*sz<=cap*sz:=Ky _ hroom;have q2:(len+xs.length)*sz=len*sz+xs.length*sz:=Kf ..;have hfit:len*i.size+news.length<=cur.size:=by rw [hnl,hcur,hk1];omega
    have hr:=I1 (P:=P) w t type e el i ht hinfo g len cap cur hrow ⟨b,o',none⟩ xs.length c news hnl hnews hone' hroom hfit;rw [hk1] at hr;have hnl':news.length=xs.length*sz:=by rw [hnl,hk1]
    obtain ⟨j1,j2⟩:=hh.rgrow (ls':=ls++Zc xs) (len':=len+xs.length) (cs':=(cur.toList.take (len*sz)++news++cur.toList.drop (len*sz+news.length)).toArray) hrow
     (by simp only [EI,Yy,h1,hnl',B1,hcl,hcur];omega) hroom hcur (by rw [Yy,hll,hfl,q2]) (by
      have:(cur.toList.take (len*sz)++news++cur.toList.drop (len*sz+news.length)).toArray.toList.take ((len+xs.length)*sz)=cur.toList.take (len*sz)++news:=by
       rw [EJ,q2,<-hnl']
       conv=>lhs;arg 1;rw [show len*sz+news.length=(cur.toList.take (len*sz)++news).length from by rw [Yy,h1]]
       exact B4
      rw [this]
      exact hcells.append hn)
    exact finish ⟨some ⟨g,0,none⟩,len+xs.length,cap⟩ _ hr j1 j2
   .have hr:=run_append_grow (P:=P) w t type e i z ht hinfo hz ⟨g,0,none⟩ len cap (cur.toList.take (len*sz)) (by rw [hk1];exact h1) (fun j u hj=>by
     rw [JK,cell_of_row w g _ cur el (0,0) hrow];rw [Qp] at hj
     split at hj
     .simpa using hj
     .cases hj) ⟨b,o',none⟩ xs.length c news hnl hnews om om (growslice_fits om hbb)
    obtain ⟨j1,j2⟩:=grown (cur.toList.take (len*sz)) news cap hcells hn;rw [hv0] at j2;exact finish ⟨some ⟨w.heap.size,0,none⟩,len+xs.length,grownCap w (len+xs.length) cap e⟩ _ hr j1 j2
end
section
variable {P:Program} {n:Nat} {ops:Array Oper} {B:Fr->List Res->Prop} {k:Nat} {F:Fr} {h:List Res}
def Hh (j m:Nat) (v:Hd) (sz:Nat) (ls xs:List AV) (hx:Option Value) (hm0:ls.length=m*sz) (hxs:∀y∈xs,y.leaves.length=sz) (hone:(Zc xs).all AV.one=true) (hne:xs≠[]) (hbound:m+xs.length<=4294967296)
  (hK:∀v':Hd,SI P n ops B (k+1) (F.put (ZG ops k).dst<|.h v') (rK v' sz (ls++Zc xs)::XO [j] h)) (hk0:0<sz:=by omega)
  (hk:Xe n ops F k=true:=by kernel_rfl) (ha:Tf P ops F k=some (.h v,.sl xs hx,sz):=by kernel_rfl) (hp:Wu [j] h=some [rK v sz ls]:=by kernel_rfl):SI P n ops B k F h:=
 TZ hk (WU.perm (UF<|VL hp)<|Z1l (U5 hk).2.1 ha hxs hone hm0 hk0 hne hbound hK)
end
end Go.Abs
namespace Go.Abs
section
variable {P:Program} {n:Nat} {ops:Array Oper} {B:Fr->List Res->Prop} {T:List (Nat × List Nat)} {fuel:Nat} {done:List Nat} {F:Fr} {h:List Res}
def EY (i j m:Nat) (js bs:List Nat) (v:Hd) (sz:Nat) (ls xs:List AV) (hx:Option Value) (hm0:ls.length=m*sz) (hxs:∀y∈xs,y.leaves.length=sz) (hone:(Zc xs).all AV.one=true) (hne:xs≠[]) (hbound:m+xs.length<=4294967296)
  (hK:∀v':Hd,X3 P n ops B (T.filter fun t=>!Vq ops i t.1) fuel (done++[i]) (F.put (ZG ops i).dst<|.h v') (rK v' sz (ls++Zc xs)::XO [j] h)) (hk0:0<sz:=by omega) (hk:Xe n ops F i=true:=by kernel_rfl)
  (ha:Tf P ops F i=some (.h v,.sl xs hx,sz):=by kernel_rfl) (hp:Wu [j] h=some [rK v sz ls]:=by kernel_rfl) (ho:UE ops i T=bs:=by kernel_rfl)
  (hj:js.map (fun q=>(V3<|XO [j] h)[q]?)=bs.map some:=by kernel_rfl):VY P n ops B T fuel done F h i:=
 Jj [j] js bs hk (VL hp) ho hj (Z1l (h2:=[]) (U5 hk).2.1 ha hxs hone hm0 hk0 hne hbound hK)
def R0 (t j:Nat) {v:Value} {kk:Nat} (es:List AV) (hes:∀y∈es,y.leaves.length=kk) (H:X3 P n ops B T fuel done ((t,.sl es<|some v)::F) (.tail v kk::XO [j] h)) (hk0:0<kk:=by omega) (hF':F.get t=.val v:=by kernel_rfl)
  (hp:Wu [j] h=some [.row v kk (Zc es)]:=by kernel_rfl):X3 P n ops B T fuel done F h:=by
 intro Q w G a SL hF hh hQ hcl hcov hk;have hp':=UF (VL hp);obtain ⟨G',h1,h2',h3⟩:=Ct (hh.perm hp') hes hk0;have e:=h2'.perm hp'.symm (QP _);have hF2:=hF.mono (e.agree hh);have hv:=hF2.get t;rw [hF'] at hv;have hv:=hv.val_inv;refine H Q w G' a SL ⟨hF2.defers,hF2.size,fun s=>?_⟩ h1 hQ hcl (fun p hp=>let ⟨t,ht,e1,f⟩:=hcov p hp;⟨t,ht,e1,fun w' hw hb=>f w' (fun b o hg=>hw b o (e.sub b o hg)) hb⟩)
  fun F2 h2'' G2 a2 w2 b1 b2 b3 b4=>hk F2 h2'' G2 a2 w2 b1 b2 b3<|e.trans b4
 show RV w G' (match Nat.beq t s with|true=>_|false=>Fr.get F s) _
 cases hb:Nat.beq t s with
 | true=>
  have:=UZ hb;subst this;rw [hv];exact h3
 | false=>exact hF2.get s
end
def Wf.form {P:Program} {f:FuncId} {as1:List AV} {h0:List Res} {T:Hd->AV} {kk m:Nat} {ls:List AV} {hs:List Res} (H:Wf P f as1 h0 fun r h=>∃v:Hd,r=T v/\h=rK v kk ls::hs) (hm:ls.length=m*kk) (hk:0<kk) (h1:0<m) :
  Wf P f as1 h0 (fun r h=>∃(g c:Nat),r=T ⟨some ⟨g,0,none⟩,m,c⟩/\h=rK ⟨some ⟨g,0,none⟩,m,c⟩ kk ls::hs):=by
 intro w G vs hv hh;refine (H w G vs hv hh).mono ?_;rintro e w' ⟨u,r,h',G',he,⟨v,rfl,rfl⟩,hr,hh',hx⟩;obtain ⟨g,c,rfl⟩:=Ny (hh'.ok _ (Xn ..)) hm hk h1;exact ⟨u,_,_,G',he,⟨g,c,U,U⟩,hr,hh',hx⟩
end Go.Abs
namespace Go.Abs
section
variable {h:List Res}
def Zne (j i p:Nat) {u:Value} {kk b:Nat} {es ls:List AV} (hp:Wu [j,i] h=some [.row u kk (Zc es),.obj b ls]) (hes:∀y∈es,y.leaves.length=kk) (hk:0<kk) (hl:ls[p]? = some (.val u)) :
  TN h (.obj b (ls.set p<|.sl es<|some u)::.tail u kk::XO [j,i] h):=by
 intro w G hh;have hp':=UF (VL hp);have hh':=hh.perm hp';obtain ⟨G',h1,h2',h3⟩:=Ct (h2:=.obj b ls::XO [j,i] h) hh' hes hk;have e:=h2'.perm hp'.symm (QP _);have h1:YA w G' (.tail u kk::.obj b ls::XO [j,i] h):=h1;have perm:(Res.tail u kk::.obj b ls::XO [j,i] h).Perm (.obj b ls::.tail u kk::XO [j,i] h):=List.Perm.swap ..;have h4:=h1.perm perm;have e4:=e.perm (QP _) perm;have hset:∀{w:World} {G:Yl},RV w G (.sl es (some u)) u->QS w G (.obj b ls)->QS w G (.obj b (ls.set p (.sl es (some u)))):=by
  intro w G hu hr;obtain ⟨cs,el,k1,k5⟩:=hr;refine ⟨cs,el,k1,?_⟩;obtain ⟨c,c1,c2⟩:=k5.get p _ hl;have:=c2.val_inv;subst this;have h6:=k5.set p hu
  rwa [show cs.toList.set p c=cs.toList from by
   apply List.ext_getElem?
   intro q;rw [List.getElem?_set]
   split
   .rename_i hq;subst hq;split
    .exact c1.symm
    .rename_i hq2;rw [Dt om]
   .rfl] at h6
 refine ⟨G',⟨fun r hr=>?_,?_,fun r hr=>?_,h4.lt⟩,⟨e4.os,e4.tape,e4.output,e4.size,e4.sub,e4.same,e4.newG,fun b' o hb ⟨r,hr,hf⟩=>e4.newfp b' o hb ?_⟩⟩
 .rcases YM.1 hr with rfl|hr
  .exact hset h3<|h4.ok _<|Xn ..
  .exact h4.ok r<|XF _ hr
 .have:=Vb.1 h4.apart;exact Vb.2 ⟨fun r hr b' o f1 f2=>this.1 r hr b' o f1 f2,this.2⟩
 .rcases YM.1 hr with rfl|hr
  .exact fun b' o f1 hg=>h4.prot (.obj b ls) (Xn ..) b' o f1 hg
  .exact h4.prot r<|XF _ hr
 .rcases YM.1 hr with rfl|hr
  .exact ⟨.obj b ls,Xn ..,hf⟩
  .exact ⟨r,XF _ hr,hf⟩
def TI (j i p:Nat) (u:Value) (kk b:Nat) (es ls:List AV) (hes:∀y∈es,y.leaves.length=kk) (hl:ls[p]? = some (.val u)) (hk:0<kk:=by omega) (hp:Wu [j,i] h=some [.row u kk (Zc es),.obj b ls]:=by kernel_rfl) :
  TN h (.obj b (ls.set p<|.sl es<|some u)::.tail u kk::XO [j,i] h):=Zne j i p hp hes hk hl
end
end Go.Abs
namespace Go.Abs
section
variable {P:Program} {n:Nat} {ops:Array Oper} {k:Nat} {F:Fr} {h:List Res}
def Zms (j:Nat) {g l c m kk:Nat} {ls:List AV} (hi:Ew P ops F k=some (.val<|.slice (some ⟨g,0,none⟩) l c,(m:Int))) (hj:h[j]? = some (.row (.slice (some ⟨g,0,none⟩) l c) kk ls)) (hle:m<=l) :
  XH P (ZG ops k) F h [] (.val<|.slice (some ⟨g,0,none⟩) m c):=by
 unfold Ew at hi;generalize hoo:ZG ops k=o at hi;obtain ⟨dst,op,type,pos,after,guard⟩:=o;cases op<;>simp only at hi<;>try (cases hi)
 rename_i t x lo hi' mx
 cases lo with
 | some _=>simp at hi
 | none=>
  cases hi' with
  | none=>simp at hi
  | some y=>
   cases mx with
   | some _=>simp at hi
   | none=>
    simp only at hi
    split at hi
    .rename_i e ht
     split at hi
     .rename_i inf hinf
      split at hi
      .rename_i ik m' hm;simp only [Wz,Prod.mk.injEq] at hi;obtain ⟨hx,rfl⟩:=hi;intro n w G a hF hh;have v1:=hF.ev x;rw [hx] at v1;have v1:=v1.val_inv;have v2:=hF.ev y;rw [hm] at v2;have v2:=v2.val_inv;have hcap:l<=c:=by
        rcases hh.ok _ (Y0 hj) with ⟨h0,_⟩|⟨g',l',c',cur,el,h0,_,hc,_⟩
        .cases h0
        .cases h0;exact hc
       refine ⟨_,.val,fun w' _ _=>?_⟩;simp only [execOp,v1,v2,CM,Option.map_none];refine Vv ?_;simp only [Instr.sliceAt,Sem.run_bind,VX ht,Result.andThen_ok,Instr.slice];have hmm:(Instr.sliceBounds true l c none (some<|.int ik (m:Int)) none).run P w'=.ok (0,m,c) w':=by
        have ZE:=fun q=>Eu (P:=P) (c:=q) (v:=.int ik (m:Int)) (y:=c) rfl om om w'
        simp [Instr.sliceBounds,ZE]
       rw [hmm];have hz:∀a:Addr,a.add 0=a:=fun a=>by simp [Addr.add]
       simp only [Result.andThen_ok,Kd hinf,Nat.zero_mul,hz];by_cases h0:c=0<;>simp [h0]
      .cases hi
     .cases hi
    .cases hi
def Ht (j g l c m kk:Nat) (ls:List AV) (hle:m<=l:=by omega) (hi:Ew P ops F k=some (.val<|.slice (some ⟨g,0,none⟩) l c,(m:Int)):=by kernel_rfl) (hj:h[j]? = some (.row (.slice (some ⟨g,0,none⟩) l c) kk ls):=by kernel_rfl) :
  XH P (ZG ops k) F h [] (.val<|.slice (some ⟨g,0,none⟩) m c):=Zms j hi hj hle
variable {B:Fr->List Res->Prop}
def iVM (l:Nat) (hK:∀v:Hd,SI P n ops B (k+1) (F.put (ZG ops k).dst<|.h v) (rV v (List.replicate l 0)::h)) (hl:l<=4294967296:=by omega) (hk:Xe n ops F k=true:=by kernel_rfl)
  (hm:BE P ops F k=some ((l:Int),(l:Int),.i 0):=by kernel_rfl):SI P n ops B k F h:=
 Zeb (Z7<|List.replicate l 0) hk hm (X8 _) hl (by simp [Z7]) fun v'=>I7 fun g hg=>by subst hg;exact hK g
end
end Go.Abs
end
namespace Go.Abs
def Yc {α:Type} {xs:List α} {k:Nat} {x:α} (h:xs[k]? = some x):xs.drop k=x::xs.drop (k+1):=by
 have hk:=(Xv.1 h).1;rw [Z60 hk]
 congr 1
 rw [J8 hk] at h;exact Qs h
def Xk {α:Type} {xs:List α} {k:Nat} (h:xs.length<=k):xs.drop k=[]:=Iz h
def WO {α:Type} {xs:List α} {k:Nat} {x:α} (h:xs[k]? = some x):xs.take (k+1)=xs.take k++[x]:=by
 rw [List.take_add_one,h];rfl
def YX:List Zh->Nat
 | []=>0
 | d::ds=>d.cons.length+YX ds
def EX (xs ys:List Zh):YX (xs++ys)=YX xs+YX ys:=by
 induction xs with
 | nil=>simp [YX]
 | cons d ds ih=>simp [YX,ih];omega
structure Wq (ds:List Zh):Prop where
 len:ds.length<=4
 cons:∀d∈ds,d.cons.length<=3
 fields:∀d∈ds,∀c∈d.cons,c.fields.length<=3
def Z8u {ds:List Zh} {m:Nat} (h:∀d∈ds,d.cons.length<=m):YX ds<=ds.length*m:=by
 induction ds with
 | nil=>simp [YX]
 | cons d ds ih=>
  have h1:=h d (by simp);have h2:=ih fun x hx=>h x (by simp [hx])
  simp only [YX,YR,Kf];omega
def Wq.sum {ds:List Zh} (h:Wq ds):YX ds<=12:=by
 have:=Z8u h.cons;have:=h.len;have:ds.length*3<=4*3:=Ky 3 h.len;omega
def Wq.take {ds:List Zh} (h:Wq ds) (k:Nat):Wq (ds.take k):=
 ⟨by have:=h.len;simp;omega,fun d hd=>h.cons d<|Qr hd,fun d hd=>h.fields d<|Qr hd⟩
def Wq.cons_at {ds:List Zh} (h:Wq ds) {k:Nat} {d:Zh} (hd:ds[k]? = some d):d.cons.length<=3:=h.cons d (Y0 hd)
def Wq.fields_at {ds:List Zh} (h:Wq ds) {k j:Nat} {d:Zh} {c:Yo} (hd:ds[k]? = some d) (hc:d.cons[j]? = some c):c.fields.length<=3:=
 h.fields d (Y0 hd) c (Y0 hc)
def TP (c:Int):List Zh->Nat->Nat->Int × LI
 | [],_,_=>(-1,[])
 | d::ds,i,first=>
  if (first:Int)<=c/\c<=((first+d.cons.length:Nat):Int)-1 then ((i:Int)+1,(d.cons[(c-first).toNat]?.map (·.fields)).getD []) else TP c ds (i+1) (first+d.cons.length)
def Wx (ds:List Zh) (c:Int):Int:=(TP c ds 0 0).1
def ZZ (ds:List Zh) (c:Int):LI:=(TP c ds 0 0).2
def Lf {c:Int}:∀{ds:List Zh} {i first:Nat},(TP c ds i first=(-1,[]) ∨
  ∃k d x,ds[k]? = some d/\(first+YX (ds.take k):Int)<=c/\c<first+YX (ds.take k)+d.cons.length/\d.cons[(c-(first+YX (ds.take k))).toNat]? = some x/\TP c ds i first=((i:Int)+k+1,x.fields))
 | [],_,_=>.inl rfl
 | d::ds,i,first=>by
  rw [TP]
  split
  .rename_i h;have hlt:(c-first).toNat<d.cons.length:=by omega
   refine .inr ⟨0,d,d.cons[(c-first).toNat],rfl,by simp [YX];omega,by simp [YX];omega,?_,?_⟩
   .simp [YX]
   .rw [J8 hlt];simp
  .rcases Lf (c:=c) (ds:=ds) (i:=i+1) (first:=first+d.cons.length) with h|⟨k,e,x,h1,h2,h3,h4,h5⟩
   .exact .inl h
   .refine .inr ⟨k+1,e,x,by simpa using h1,by simp [YX];omega,by simp [YX];omega,?_,?_⟩
    .rw [<-h4];congr 3;simp [YX];omega
    .rw [h5];congr 1;omega
def Lg {ds:List Zh} {c:Int} (h:¬Wx ds c<1) :
  ∃k d x,ds[k]? = some d/\(YX (ds.take k):Int)<=c/\d.cons[(c-YX (ds.take k)).toNat]? = some x/\Wx ds c=(k:Int)+1/\ZZ ds c=x.fields:=by
 rcases Lf (c:=c) (ds:=ds) (i:=0) (first:=0) with h1|⟨k,d,x,h1,h2,_,h4,h5⟩
 .simp [Wx,h1] at h
 .exact ⟨k,d,x,h1,by simpa using h2,by simpa using h4,by simp [Wx,h5],by simp [ZZ,h5]⟩
def GF {ds:List Zh} {c:Int} (h:Wx ds c<1):ZZ ds c=[]/\Wx ds c=-1:=by
 rcases Lf (c:=c) (ds:=ds) (i:=0) (first:=0) with h1|⟨k,d,x,h1,h2,_,h4,h5⟩
 .simp [ZZ,Wx,h1]
 .simp [Wx,h5] at h;omega
def U4 (first:Int):Nat->LI
 | 0=>[]
 | n+1=>first::U4 (first+1) n
def Z19 (first:Int) (n:Nat):U4 first (n+1)=U4 first n++[first+n]:=by
 induction n generalizing first with
 | zero=>simp [U4]
 | succ n ih=>rw [U4,ih (first+1),U4];simp;omega
@[simp] theorem Zhn (first:Int) (n:Nat):(U4 first n).length=n:=by
 induction n generalizing first with
 | zero=>rfl
 | succ n ih=>simp [U4,ih]
def Y1 (ds:List Zh) (t:Int):LI:=
 if 1<=t/\t<=ds.length then U4 (YX<|ds.take (t-1).toNat) (((ds[(t-1).toNat]?).map (·.cons.length)).getD 0) else []
def Jd (frm to_:Int):List Zh->Nat->Int
 | [],_=>-1
 | d::ds,i=>if d.cons.length=0/\d.frm=frm/\d.to_=to_ then (i:Int)+1 else Jd frm to_ ds (i+1)
def UP (ds:List Zh) (frm to_:Int):Int:=Jd frm to_ ds 0
def Wd (ds:List Zh) (t:Int):Bool:=decide (1<=t/\t<=ds.length)&&((ds[(t-1).toNat]?).map fun d=>decide (d.cons.length=0)).getD false
def Hr {ds:List Zh} {t:Int} {x:Zh} (h:1<=t/\t<=ds.length) (hx:ds[(t-1).toNat]? = some x):((x.cons.length:Int)==0)=Wd ds t:=by
 rw [Wd,hx,XE];simp [h]
def Mw {ds:List Zh} {t:Int} (h:¬(1<=t/\t<=ds.length)):false=Wd ds t:=by
 rw [Wd,XE];simp only [Bool.false_eq_true,We,decide_eq_true_eq,h,false_and]
def WB (m:Nat) (xs:LI):Bool:=xs.all fun t=>decide (0<=t/\t<=m)
end Go.Abs
section
namespace Go.Abs
section
variable {h:List Res}
end
end Go.Abs
namespace Go.Abs
section
variable {P:Program} {ops:Array Oper} {k:Nat} {F:Fr} {h:List Res}
end
end Go.Abs
end
namespace Go.Abs
section
variable {P:Program} {n:Nat} {ops:Array Oper} {B:Fr->List Res->Prop} {k:Nat} {F:Fr} {h:List Res} {T:List (Nat × List Nat)} {fuel:Nat} {done:List Nat}
def Z1m {K:Fr->List Res->Prop} {ls:List AV} {len sz:Nat} (hd:VS n (ZG ops k)=true) (ha:Qi P ops F k=some (ls,len,sz)) (hlen:ls.length=len*sz)
  (hK:∀g,K (F.put (ZG ops k).dst<|.val<|.slice (some ⟨g,0,none⟩) len len) (.row (.slice (some ⟨g,0,none⟩) len len) sz ls::h)):WU P n (ZG ops k) F h K:=by
 unfold Qi at ha;generalize hoo:ZG ops k=q at ha hd hK;obtain ⟨dst,op,type,pos,after,guard⟩:=q;cases op<;>simp only at ha<;>try (cases ha)
 rename_i t ln parts
 split at ha
 case h_2=>cases ha
 rename_i e ht
 split at ha
 case h_2=>cases ha
 rename_i i hi
 split at ha
 case h_2=>cases ha
 rename_i hc;simp only [We] at hc
 split at ha
 case h_2=>cases ha
 rename_i ls' hf;simp only [Wz,Prod.mk.injEq] at ha;obtain ⟨rfl,rfl,Xg⟩:=ha;intro Q w G a hF hh;obtain ⟨cs,h1,h2⟩:=I2 hF parts ht hi rfl hc.1 hc.2 hf;have hr:(execOp a.eval { dst:=dst,op:=.buildSlice t ln parts,type:=type,pos:=pos,after:=after,guard:=guard }).run P w =
   .ok (.value<|.slice (some ⟨w.heap.size,0,none⟩) ln ln) (w.alloc<|.cells cs e):=by
  simp only [execOp];exact Vv h2
 unfold Oper.wp;rw [hr];have hlc:=h1.length;simp only [JD] at hlc;obtain ⟨j1,j2⟩:=hh.alloc_rrow cs e (ls:=ls') (len:=ln) (cap:=ln) (k:=sz) (X8 _) (by rw [hlc];exact hlen) hlen (by rw [<-hlen,<-hlc];simpa [Vc] using h1);exact ⟨_,_,G,hK _,(hF.mono<|j2.agree hh).put (Tk hd) .val,j1,j2⟩
def Tp (es es':List AV) (he:es=es') (len sz:Nat) (hK:∀v,SI P n ops B (k+1) (F.put (ZG ops k).dst<|.sl es'<|some v) (.tail v sz::h)) (hk:Xe n ops F k=true:=by kernel_rfl)
  (ha:Qi P ops F k=some (Zc es,len,sz):=by kernel_rfl) (hlen:es.length=len:=by kernel_rfl) (hall:Bc es sz=true:=by kernel_rfl):SI P n ops B k F h:=by
 subst he;exact iL es len sz hK hk ha hlen hall
def V1 (i:Nat) (js bs:List Nat) (es es':List AV) (he:es=es') (len sz:Nat) (hK:∀v,X3 P n ops B (T.filter fun t=>!Vq ops i t.1) fuel (done++[i]) (F.put (ZG ops i).dst<|.sl es'<|some v) (.tail v sz::h))
  (hk:Xe n ops F i=true:=by kernel_rfl) (ha:Qi P ops F i=some (Zc es,len,sz):=by kernel_rfl) (hlen:es.length=len:=by kernel_rfl) (hall:Bc es sz=true:=by kernel_rfl)
  (ho:UE ops i T=bs:=by kernel_rfl) (hj:js.map (fun j=>(V3 h)[j]?)=bs.map some:=by kernel_rfl):VY P n ops B T fuel done F h i:=by
 subst he;exact dL i js bs es len sz hK hk ha hlen hall ho hj
def iKN (ls:List AV) (len sz:Nat) (hK:∀g,SI P n ops B (k+1) (F.put (ZG ops k).dst<|.val<|.slice (some ⟨g,0,none⟩) len len) (.row (.slice (some ⟨g,0,none⟩) len len) sz ls::h)) (hlen:ls.length=len*sz:=by rfl) (hk:Xe n ops F k=true:=by kernel_rfl)
  (ha:Qi P ops F k=some (ls,len,sz):=by kernel_rfl):SI P n ops B k F h:=TZ hk (Z1m (U5 hk).2.1 ha hlen hK)
def dKN (i:Nat) (js bs:List Nat) (ls:List AV) (len sz:Nat) (hK:∀g,X3 P n ops B (T.filter fun t=>!Vq ops i t.1) fuel (done++[i]) (F.put (ZG ops i).dst<|.val<|.slice (some ⟨g,0,none⟩) len len) (.row (.slice (some ⟨g,0,none⟩) len len) sz ls::h)) (hlen:ls.length=len*sz:=by rfl)
  (hk:Xe n ops F i=true:=by kernel_rfl) (ha:Qi P ops F i=some (ls,len,sz):=by kernel_rfl) (ho:UE ops i T=bs:=by kernel_rfl) (hj:js.map (fun j=>(V3 h)[j]?)=bs.map some:=by kernel_rfl):VY P n ops B T fuel done F h i:=
 Jj (h1:=[]) (h2:=h) [] js bs hk rfl ho hj (Z1m (U5 hk).2.1 ha hlen hK)
end
def Wf.frz {P:Program} {f:FuncId} {as1:List AV} {h0:List Res} {E:Type} {kk:Nat} {es:E->List AV} {hs:E->List Res} {Q:E->Prop} (H:Wf P f as1 h0 fun r h=>∃(e:E) (v:Hd),r=.h v/\h=rK v kk (Zc<|es e)::hs e/\Q e) (hes:∀e,∀y∈es e,y.leaves.length=kk) (hk:0<kk) :
  Wf P f as1 h0 (fun r h=>∃(e:E) (v:Value),r=.sl (es e) (some v)/\h=.tail v kk::hs e/\Q e):=by
 intro w G vs hv hh;refine (H w G vs hv hh).mono ?_;rintro e w' ⟨u,r,h',G',he,⟨x,v,rfl,rfl,hq⟩,hr,hh',hx⟩;obtain ⟨G2,h1,h2,h3⟩:=Ct hh' (hes x) hk;have hrv:=hr.val_inv;subst hrv;exact ⟨_,_,_,G2,he,⟨x,v.v,U,U,hq⟩,h3,h1,hx.trans h2⟩
def H5 {es:List AV} {sz k:Nat} {y:AV} (h:∀x∈es,x.leaves.length=sz) (hy:y.leaves.length=sz) (hk:k<es.length):(Zc es).take (k*sz)++y.leaves++(Zc es).drop (k*sz+y.leaves.length)=Zc (es.set k y):=by
 obtain ⟨x,hx⟩:=Jo (xs:=es) (j:=k) hk;have hxl:=h x (Y0 hx);have e1:es=es.take k++(x::es.drop (k+1)):=by rw [<-Yc hx,Ty]
 have e2:es.set k y=es.take k++(y::es.drop (k+1)):=by rw [Du,Zg hk]
 have hl:(Zc (es.take k)).length=k*sz:=by rw [T3 (k:=sz) _ fun z hz=>h z<|Qr hz,WK,Vz om]
 have e3:Zc es=Zc (es.take k)++(x.leaves++Zc (es.drop (k+1))):=by
  conv=>lhs;rw [e1,Uk]
  simp [Zc]
 rw [e2,Uk,e3,Cu hl (by rw [hxl,hy])];simp [Zc]
def Za4 (ds:List Zh) (k:Nat) (d:Zh):YF (ds.set k d)=(YF ds).set k (Ba d):=by simp [YF,List.map_set]
def D3 (xs:List Zh):(Zc (YF xs)).length=xs.length*3:=by rw [T3 (k:=3) _ (Jl xs)];simp
def H1 {ds:List Zh} {k:Nat} (d:Zh) (hk:k<ds.length):(Zc (YF ds)).take (k*3)++Qf d++(Zc (YF ds)).drop (k*3+3)=Zc (YF<|ds.set k d):=by
 rw [Za4];exact H5 (y:=Ba d) (Jl ds) rfl (by simpa using hk)
def LV (xs ys:List Zh):Zc (YF xs)++Zc (YF ys)=Zc (YF (xs++ys)):=by rw [Za2,Uk]
section
variable {P:Program} {n:Nat} {ops:Array Oper} {B:Fr->List Res->Prop} {k:Nat} {F:Fr} {h:List Res}
def Hg (j m:Nat) {v:Hd} {kk:Nat} {ls:List AV} (hm:ls.length=m*kk) (h0:0<m) (H:∀g c',v=⟨some ⟨g,0,none⟩,m,c'⟩->SI P n ops B k F h) (hk:0<kk:=by omega) (hj:h[j]? = some (rK v kk ls):=by kernel_rfl):SI P n ops B k F h:=by
 intro Q w G a hF hh hq;obtain ⟨g,c',e⟩:=Ny (hh.ok _ (Y0 hj)) hm hk h0;exact H g c' e Q w G a hF hh hq
end
section
variable {P:Program} {n:Nat} {ops:Array Oper} {B:Fr->List Res->Prop} {k:Nat} {F:Fr} {h:List Res}
def Lk (P:Program) (ops:Array Oper) (F:Fr) (k:Nat):Option (IntKind × Int):=
 match (ZG ops k).op with
 | .convert s d x=>match P.underlying s,P.underlying d,F.ev x with
  | some (.int _),some (.int q),.val (.int _ z)=>some (q,z)
  | _,_,_=>none
 | _=>none
def kCv (q:IntKind) (z z':Int) (e:q.wrap z=z') (hc:Lk P ops F k=some (q,z):=by kernel_rfl):XH P (ZG ops k) F h [] (.val<|.int q z'):=by
 unfold Lk at hc;generalize hoo:ZG ops k=o at hc;obtain ⟨dst,op,type,pos,after,guard⟩:=o;cases op<;>simp only at hc<;>try (cases hc)
 rename_i s d x
 split at hc
 .rename_i q1 q2 q3 z2 h1 h2 h3;cases hc;intro n w G ac hF hh;have v1:=hF.ev x;rw [h3] at v1;have v1:=v1.val_inv;refine ⟨_,.val,fun w' _ _=>?_⟩;simp only [execOp,v1];refine Vv ?_;simp [convert,VX h1,VX h2,Conv.intToInt,e]
 .cases hc
def Oo {z:Int} (h:0<=z/\z<=9223372036854775807):IntKind.i64.wrap z=z:=IntWalk.i64_in _ om
def Ec (z:Int) (hz:0<=z/\z<=255) (hc:Lk P ops F k=some (.i64,z):=by kernel_rfl):XH P (ZG ops k) F h [] (.i z):=kCv .i64 z z (Oo om) hc
def C6 (ops:Array Oper) (F:Fr) (k:Nat) (b:BinOp):Option (Int × Int):=
 match (ZG ops k).op with
 | .binOp c _ x y _=>if c==b then match F.ev x,F.ev y with
  | .val (.int .i64 z),.val (.int .i64 u)=>some (z,u)
  | _,_=>none else none
 | _=>none
def MB (a b:Int) (hb:0<b) (ha:0<=a/\a<=9223372036854775807) (hc:C6 ops F k .quo=some (a,b):=by kernel_rfl):XH P (ZG ops k) F h [] (.i (a / b)):=by
 unfold C6 at hc;generalize hoo:ZG ops k=o at hc;obtain ⟨dst,op,type,pos,after,guard⟩:=o;cases op<;>simp only at hc<;>try (cases hc)
 rename_i bop t x y yt;cases bop<;>simp only [Zq,reduceCtorEq,if_false,if_true] at hc<;>try (cases hc)
 split at hc
 .rename_i z yk h1 h2;cases hc;intro n' w G ac hF hh;have v1:=hF.ev x;have v2:=hF.ev y;rw [h1] at v1;rw [h2] at v2;have v1:=v1.val_inv;have v2:=v2.val_inv;refine ⟨_,.val,fun w' _ _=>?_⟩;simp only [execOp,v1,v2];refine Vv ?_;have e1:a.tdiv b=a / b:=Int.tdiv_eq_ediv_of_nonneg ha.1;have e2:IntKind.i64.wrap (a / b)=a / b:=Oo ⟨Int.ediv_nonneg ha.1 om,Int.le_trans (Int.ediv_le_self b ha.1) ha.2⟩;have e3:b≠0:=by omega
  simp [eqGuard,binOp,Op.intDiv,e1,e2,e3]
 .cases hc
def Ft (a b:Int) (hb:0<b) (ha:0<=a) (hc:C6 ops F k .rem=some (a,b):=by kernel_rfl):XH P (ZG ops k) F h [] (.i (a % b)):=by
 unfold C6 at hc;generalize hoo:ZG ops k=o at hc;obtain ⟨dst,op,type,pos,after,guard⟩:=o;cases op<;>simp only at hc<;>try (cases hc)
 rename_i bop t x y yt;cases bop<;>simp only [Zq,reduceCtorEq,if_false,if_true] at hc<;>try (cases hc)
 split at hc
 .rename_i z yk h1 h2;cases hc;intro n' w G ac hF hh;have v1:=hF.ev x;have v2:=hF.ev y;rw [h1] at v1;rw [h2] at v2;have v1:=v1.val_inv;have v2:=v2.val_inv;refine ⟨_,.val,fun w' _ _=>?_⟩;simp only [execOp,v1,v2];refine Vv ?_;have e1:a.tmod b=a % b:=Int.tmod_eq_emod_of_nonneg ha;have e3:b≠0:=by omega
  simp [eqGuard,binOp,Op.intDiv,e1,e3]
 .cases hc
def Dc (a b:Nat) (hb:0<b) (ha:a<=9223372036854775807) (hc:C6 ops F k .quo=some ((a:Int),(b:Int)):=by kernel_rfl):XH P (ZG ops k) F h [] (.i (a / b:Nat)):=by
 rw [Int.natCast_ediv];exact MB a b om om hc
def Hu (a b:Nat) (hb:0<b) (_ha:a<=9223372036854775807) (hc:C6 ops F k .rem=some ((a:Int),(b:Int)):=by kernel_rfl):XH P (ZG ops k) F h [] (.i (a % b:Nat)):=by
 rw [Int.natCast_emod];exact Ft a b om om hc
def BU (a b:Int):Int:=IntKind.i64.wrap ((BitVec.ofInt 64 a ^^^ BitVec.ofInt 64 b).toNat:Int)
def Iv {a b:Int} (ha:0<=a/\a<4611686018427387904) (hb:0<=b/\b<4611686018427387904):0<=BU a b/\BU a b<4611686018427387904:=by
 obtain ⟨x,rfl⟩:=Int.eq_ofNat_of_zero_le ha.1;obtain ⟨y,rfl⟩:=Int.eq_ofNat_of_zero_le hb.1;have h1:(BitVec.ofInt 64 (x:Int) ^^^ BitVec.ofInt 64 (y:Int)).toNat=x ^^^ y:=by
  rw [BitVec.toNat_xor,BitVec.toNat_ofInt,BitVec.toNat_ofInt];have e1:((x:Int) % ((2 ^ 64:Nat):Int)).toNat=x:=by omega
  have e2:((y:Int) % ((2 ^ 64:Nat):Int)).toNat=y:=by omega
  rw [e1,e2]
 have h2:x ^^^ y<2 ^ 62:=Nat.xor_lt_two_pow om om;rw [BU,h1,Oo om];omega
def SS (a b:Int) (hc:C6 ops F k .xor=some (a,b):=by kernel_rfl):XH P (ZG ops k) F h [] (.i<|BU a b):=by
 unfold C6 at hc;generalize hoo:ZG ops k=o at hc;obtain ⟨dst,op,type,pos,after,guard⟩:=o;cases op<;>simp only at hc<;>try (cases hc)
 rename_i bop t x y yt;cases bop<;>simp only [Zq,reduceCtorEq,if_false,if_true] at hc<;>try (cases hc)
 split at hc
 .rename_i z yk h1 h2;cases hc;intro n' w G ac hF hh;have v1:=hF.ev x;have v2:=hF.ev y;rw [h1] at v1;rw [h2] at v2;have v1:=v1.val_inv;have v2:=v2.val_inv;refine ⟨_,.val,fun w' _ _=>?_⟩;simp only [execOp,v1,v2];refine Vv ?_;simp [eqGuard,binOp,Op.intBits,IntKind.bits];exact Ys (fun z:Nat=>IntKind.i64.wrap (z:Int)) (by rw [BitVec.toNat_xor,BitVec.toNat_ofInt,BitVec.toNat_ofInt];rfl)
 .cases hc
end
end Go.Abs
section
namespace Go.Abs
inductive Z2 where
 | mk (op num:Int) (kids:List Z2)
namespace Z2
def op:Z2->Int|.mk a _ _=>a
def num:Z2->Int|.mk _ a _=>a
def kids:Z2->List Z2|.mk _ _ a=>a
end Z2
structure Func where
 params:LI
 result:Int
 body:Z2
structure Wr where
 decls:List Zh
 funcs:List Func
instance:Inhabited Z2:=⟨.mk 0 0 []⟩
mutual
def Ly:Z2->AV
 | .mk op num kids=>.agg [.i op,.i num,.sl (YB kids) none]
def YB:List Z2->List AV
 | []=>[]
 | e::r=>Ly e::YB r
end
abbrev Yd (e:Z2):AV:=.agg [.i e.op,.i e.num,.sl (YB e.kids) none]
abbrev X5 (e:Z2):List AV:=[.i e.op,.i e.num,.sl (YB e.kids) none]
abbrev XM (xs:List Z2):AV:=.sl (YB xs) none
abbrev Km (xs:List Z2) (v:Value):AV:=.sl (YB xs) (some v)
abbrev EN (f:Func):AV:=.agg [Z5 f.params,.i f.result,.i f.body.op,.i f.body.num,XM f.body.kids]
abbrev Hx (f:Func):List AV:=[Z5 f.params,.i f.result,.i f.body.op,.i f.body.num,XM f.body.kids]
def XC (xs:List Func):List AV:=xs.map EN
abbrev HG (xs:List Func):AV:=.sl (XC xs) none
abbrev Bb (p:Wr):AV:=.agg [ZQ p.decls,HG p.funcs]
abbrev MJ (p:Wr):List AV:=[ZQ p.decls,HG p.funcs]
abbrev IJ (z:Int):AV:=.val (.int .u8 z)
def Qz (xs:LI):List AV:=xs.map IJ
abbrev UD (xs:LI):AV:=.sl (Qz xs) none
def Za5 (e:Z2):Ly e=Yd e:=by cases e;rw [Ly];rfl
def XZ:∀xs:List Z2,YB xs=xs.map Yd
 | []=>by rw [YB];rfl
 | s::ss=>by rw [YB,XZ ss,Za5];rfl
def DQ {xs:List Z2} {j:Nat} {x:Z2} (h:xs[j]? = some x):(YB xs)[j]? = some (Yd x):=by simp [XZ,h]
def GO {xs:List Func} {j:Nat} {x:Func} (h:xs[j]? = some x):(XC xs)[j]? = some (EN x):=by simp [XC,h]
def DN {xs:LI} {j:Nat} {x:Int} (h:xs[j]? = some x):(Qz xs)[j]? = some (IJ x):=by simp [Qz,h]
@[simp] theorem Lz (xs:List Z2):(YB xs).length=xs.length:=by simp [XZ]
@[simp] theorem DR (xs:List Func):(XC xs).length=xs.length:=by simp [XC]
@[simp] theorem Jk (xs:LI):(Qz xs).length=xs.length:=by simp [Qz]
def AJ (xs ys:List Z2):YB (xs++ys)=YB xs++YB ys:=by simp [XZ]
def Za6 (xs ys:List Func):XC (xs++ys)=XC xs++XC ys:=by simp [XC]
def Lv (xs:LI) (n:Nat):(Qz xs).take n=Qz (xs.take n):=by simp [Qz]
def Lu (xs:LI) (n:Nat):(Qz xs).drop n=Qz (xs.drop n):=by simp [Qz]
def TS (xs:List Z2):∀y∈YB xs,y.leaves.length=3:=by intro y hy;simp only [XZ,XG] at hy;obtain ⟨x,_,rfl⟩:=hy;rfl
def GQ (xs:List Func):∀y∈XC xs,y.leaves.length=5:=by intro y hy;simp only [XC,XG] at hy;obtain ⟨x,_,rfl⟩:=hy;rfl
def Z9z (xs:LI):∀y∈Qz xs,y.leaves.length=1:=by intro y hy;simp only [Qz,XG] at hy;obtain ⟨x,_,rfl⟩:=hy;rfl
def AK (xs:List Z2):(Zc (YB xs)).all AV.one=true:=JS fun y hy=>by simp only [XZ,XG] at hy;obtain ⟨x,_,rfl⟩:=hy;rfl
end Go.Abs
end
section
namespace Go.Abs
open Go.Proofs Go.Proofs.YtaopnlgembdicaaGreat
section
variable {H:Type} {enc:TypeId × Value->H} {w:World}
def GA (w:World):Yl:=fun b _=>b<w.heap.size
abbrev Tr (enc:TypeId × Value->H) (w:World) (n:Nat) (t:TypeId) (cs:List Value) (x:DataW H × List MemPlace):Prop:=DataW.trod enc Tryz.prog w 0 (fun _=>true) true n t cs=some x
def Z0s {w:World} {a:Addr} {v:Value} (h:w.cell? a=some v):a.block<w.heap.size/\a.spot=none:=by
 unfold World.cell? at h
 split at h
 .rename_i c e fr hb
  split at h
  .cases h
  .rename_i hs;exact ⟨(Tw.1 hb).1,by simpa using hs⟩
 .cases h
def Pe {α:Type} {c:α->Nat}:∀{xs:List α} {ds:List (DataW H)},xs.length=ds.length->(∀(i:Nat) a d,xs[i]? = some a->ds[i]? = some d->c a+1<=Rows.uptoBulk d)->(xs.map fun a=>c a+1).sum<=Rows.uptoBulkAll ds
 | [],[],_,_=>X8 _
 | a::r,d::ds,hl,h=>by
  have h0:=h 0 a d rfl rfl;have h1:=Pe (c:=c) (xs:=r) (ds:=ds) (by simpa using hl) fun i a d ha hd=>h (i+1) a d (by simpa using ha) (by simpa using hd)
  rw [Uh,List.sum_cons,Rows.uptoBulkAll];omega
def Z2g {α:Type} {f:α->AV} {G:Yl} {k b:Nat} (hf:∀x,(f x).leaves.length=k):∀{xs:List α} {o:Nat},(∀(i:Nat) a,xs[i]? = some a->WP w G b (o+i*k) (f a).leaves)->Vp w G k b o (xs.map f)
 | [],_,_=>.nil
 | x::r,o,h=>by
  refine .cons (hf x) (by have:=h 0 x rfl;simpa using this) (Z2g hf fun i a ha=>?_);have:=h (i+1) a (by simpa using ha);rw [show o+(i+1)*k=o+k+i*k by rw [Kf];omega] at this;exact this
def Ziz {α:Type} [Inhabited α] {t e k:Nat} (ht:Tryz.prog.underlying t=some (.slice e)) (hk:Tryz.prog.cellsOf e=k) (h0:0<k) (f:α->AV) (hf:∀x,(f x).leaves.length=k) (c:α->Nat) (Q:α->Prop) {n:Nat} {cs:List Value} {x:DataW H × List MemPlace}
  (h:Tr enc w n t cs x) (el:∀m cs y,m<n->Tr enc w m e cs y->∃a:α,X1 w (GA w) (f a).leaves cs/\c a+1<=Rows.uptoBulk y.1/\Q a) :
  ∃(v:Value) (xs:List α),cs=[v]/\RV w (GA w) (.sl (xs.map f) none) v/\(xs.map fun a=>c a+1).sum+1<=Rows.uptoBulk x.1/\∀a∈xs,Q a:=by
 rcases DataW.trod_slice ht h with ⟨rfl,rfl⟩|⟨a,len,cap,elems,rest,m,rfl,rfl,rfl,_,hlc,_,hlen,hel,_,_⟩
 .exact ⟨_,[],rfl,.nil (by simp),by simp [Rows.uptoBulk],by simp⟩
 .rw [hk] at hel;have hone:∀i,i<len->∃z:α,∃cs' y,w.cells? 0 (a.add (i*k)) k=some cs'/\elems[i]? = some y/\X1 w (GA w) (f z).leaves cs'/\c z+1<=Rows.uptoBulk y.1/\Q z:=by
   intro i hi;have h1:=hel i hi;rw [J8 om] at h1;obtain ⟨cs',h2,h3⟩:=Option.bind_eq_some_iff.1 h1;obtain ⟨z,hz1,hz2,hz3⟩:=el m cs' _ om h3;exact ⟨z,cs',_,h2,J8 om,hz1,hz2,hz3⟩
  obtain ⟨V,hV⟩:=Go.Deep.choose_lt hone;refine ⟨_,(List.range len).map V,U,?_,?_,?_⟩
  .cases hl0:len with
   | zero=>exact .nil (by simp)
   | succ q=>
    have hsp:a.spot=none:=by
     obtain ⟨cs',y,g1,_⟩:=hV 0 om;obtain ⟨_,g2,g3⟩:=World.cells?_some g1;have g4:=g3 0 h0;rw [J8 om] at g4;have g5:=(Z0s g4).2
     simpa [Addr.add] using g5
    obtain ⟨b,o,sp⟩:=a;simp only at hsp;subst hsp;rw [<-hl0];have hll:(((List.range len).map V).map f).length=len:=by simp
    have:=RV.sl (w:=w) (G:=GA w) (es:=((List.range len).map V).map f) (hv:=none) (b:=b) (o:=o) (k:=k) (cap:=cap) (by simp) (by rw [hll];exact hlc) (Z2g hf fun i z hz=>by
     have hi:i<len:=by have:=(Xv.1 hz).1;simpa using this
     have hz':V i=z:=by simpa [hi] using hz
     obtain ⟨cs',y,g1,_,g2,_⟩:=hV i hi;rw [hz'] at g2;obtain ⟨_,g3,g4⟩:=World.cells?_some g1;refine WP.of_cells g2 fun j u hj=>?_
     have hjl:j<k:=by have:=(Xv.1 hj).1;omega
     have g5:=(g4 j hjl).trans hj;rw [Addr.add_lit,Addr.add_lit] at g5
     exact ⟨g5,(Z0s g5).1⟩)
    rw [hll] at this;exact this
  .have:=Pe (c:=c) (xs:=(List.range len).map V) (ds:=elems.map (·.1)) (by simp [hlen]) fun i z d hz hd=>by
    have hi:i<len:=by have:=(Xv.1 hz).1;simpa using this
    have hz':V i=z:=by simpa [hi] using hz
    obtain ⟨cs',y,_,g1,_,g2,_⟩:=hV i hi;rw [Tx,g1] at hd;simp only [CM,Wz] at hd;rw [<-hd,<-hz'];exact g2
   simp only [Rows.uptoBulk];omega
  .intro z hz;obtain ⟨i,hi,rfl⟩:=XG.1 hz;obtain ⟨_,_,_,_,_,_,g⟩:=hV i (List.mem_range.1 hi);exact g
def Ziy {n:Nat} {cs:List Value} {x:DataW H × List MemPlace} (h:Tr enc w n 5 cs x):∃z:Int,cs=[.int .u8 z]/\Rows.uptoBulk x.1=1/\0<=z/\z<=255:=by
 obtain ⟨z,rfl,rfl,hw⟩:=DataW.trod_int Tryz.underlying5 h;refine ⟨z,U,U,?_⟩
 simpa [Lit.wf,IntKind.min,IntKind.max,IntKind.signed,IntKind.bits] using hw
def Z2e {n:Nat} {cs:List Value} {x:DataW H × List MemPlace} (h:Tr enc w n 22 cs x):∃(v:Value) (xs:LI),cs=[v]/\RV w (GA w) (UD xs) v/\∀z∈xs,0<=z/\z<=255:=by
 obtain ⟨v,xs,h1,h2,h3,h4⟩:=Ziz Tryz.underlying22 (k:=1) kr om (fun z:Int=>IJ z) (fun _=>rfl) (fun _=>0) (fun z=>0<=z/\z<=255) h fun m cs y _ hy=>by
  obtain ⟨z,rfl,hb,hz⟩:=Ziy hy;exact ⟨z,.cons .val .nil,Nat.le_of_eq hb.symm,hz⟩
 exact ⟨v,xs,h1,h2,h4⟩
end
end Go.Abs
end
namespace Go.Abs
structure Sg where
 params:LI
 result:Int
abbrev Oz (f:Sg):AV:=.agg [.sl (Z7 f.params) none,.i f.result,.i 0,.i 0,.sl [] none]
def UT (fs:List Sg):List AV:=fs.map Oz
def LJ {xs:List Sg} {j:Nat} {x:Sg} (h:xs[j]? = some x):(UT xs)[j]? = some (Oz x):=by simp [UT,h]
@[simp] theorem Rh (xs:List Sg):(UT xs).length=xs.length:=by simp [UT]
def Rg (xs:List Sg):∀y∈UT xs,y.leaves.length=5:=by intro y hy;simp only [UT,XG] at hy;obtain ⟨x,_,rfl⟩:=hy;rfl
def Zag (xs:List Sg):(Zc (UT xs)).all AV.one=true:=JS fun y hy=>by simp only [UT,XG] at hy;obtain ⟨x,_,rfl⟩:=hy;rfl
mutual
def Z4.sz:Z4->Nat
 | .mk _ _ _ args kids=>1+args.length+YT kids
def Z6.sz:Z6->Nat
 | .mk steps _=>1+Ya steps
def Ya:List Z4->Nat
 | []=>0
 | s::r=>s.sz+Ya r
def YT:List Z6->Nat
 | []=>0
 | b::r=>b.sz+YT r
end
def Z4.sz_pos (s:Z4):1<=s.sz:=by cases s;rw [Z4.sz];omega
def Z6.sz_pos (b:Z6):1<=b.sz:=by cases b;rw [Z6.sz];omega
def A4 (l:List Z4):l.length<=Ya l:=by
 induction l with
 | nil=>simp
 | cons s r ih=>have:=s.sz_pos;simp only [YR,Ya];omega
def Pb (l:List Z6):l.length<=YT l:=by
 induction l with
 | nil=>simp
 | cons s r ih=>have:=s.sz_pos;simp only [YR,YT];omega
def Z4l {l:List Z4} {k:Nat} {s:Z4} (h:l[k]? = some s):s.sz<=Ya l:=by
 induction l generalizing k with
 | nil=>simp at h
 | cons t r ih=>
  cases k with
  | zero=>simp at h;subst h;simp only [Ya];omega
  | succ k=>have:=ih (k:=k) (by simpa using h);simp only [Ya];omega
def Pa {l:List Z6} {k:Nat} {s:Z6} (h:l[k]? = some s):s.sz<=YT l:=by
 induction l generalizing k with
 | nil=>simp at h
 | cons t r ih=>
  cases k with
  | zero=>simp at h;subst h;simp only [YT];omega
  | succ k=>have:=ih (k:=k) (by simpa using h);simp only [YT];omega
def Z4.sz_eq (s:Z4):s.sz=1+s.args.length+YT s.kids:=by cases s;rw [Z4.sz];rfl
def Z6.sz_eq (b:Z6):b.sz=1+Ya b.steps:=by cases b;rw [Z6.sz];rfl
def A7 {b:Z6} {k:Nat} {s:Z4} (h:b.steps[k]? = some s):s.sz<b.sz:=by have:=Z4l h;have:=b.sz_eq;omega
def T5 {s:Z4} {k:Nat} {b:Z6} (h:s.kids[k]? = some b):b.sz<s.sz:=by have:=Pa h;have:=s.sz_eq;omega
def Qw (s:Z4):s.args.length<s.sz:=by have:=s.sz_eq;omega
def T6 (s:Z4):s.kids.length<s.sz:=by have:=s.sz_eq;have:=Pb s.kids;omega
def U7 (b:Z6):b.steps.length<b.sz:=by have:=b.sz_eq;have:=A4 b.steps;omega
structure Ja (ds:List Zh):Prop where
 len:ds.length<=4194304
 cons:∀d∈ds,d.cons.length<=4194304
 fields:∀d∈ds,∀c∈d.cons,c.fields.length<=4194304
def Ja.cons_at {ds:List Zh} (h:Ja ds) {k:Nat} {d:Zh} (hd:ds[k]? = some d):d.cons.length<=4194304:=h.cons d (Y0 hd)
def Ja.fields_at {ds:List Zh} (h:Ja ds) {k j:Nat} {d:Zh} {c:Yo} (hd:ds[k]? = some d) (hc:d.cons[j]? = some c):c.fields.length<=4194304:=
 h.fields d (Y0 hd) c (Y0 hc)
def Aj (m:Nat) (c:Yo):Bool:=decide (c.fields.length<=3)&&WB m c.fields
def KL (d:Zh):List Zh->Bool
 | []=>false
 | e::r=>if e.cons.length=0/\e.frm=d.frm/\e.to_=d.to_ then true else KL d r
def Ql (m:Nat):List Yo->Bool
 | []=>true
 | c::r=>if Aj m c=true then Ql m r else false
def Tj (ds:List Zh) (d:Zh) (i:Nat):Bool:=
 if 0<d.cons.length then (if d.cons.length<=3/\d.frm=0/\d.to_=0 then Ql ds.length d.cons else false)
 else if KL d (ds.take i)=true then false else decide (0<=d.frm/\d.frm<=ds.length)&&decide (0<=d.to_/\d.to_<=ds.length)
def CV (ds:List Zh) (i:Nat):Bool:=(ds[i]?.map fun d=>Tj ds d i).getD false
def EZ {ds:List Zh} {i:Nat} {d:Zh} (h:ds[i]? = some d):CV ds i=Tj ds d i:=by rw [CV,h];rfl
def TQ (ds:List Zh):List Zh->Nat->Bool
 | [],_=>true
 | _::r,i=>if CV ds i=true then TQ ds r (i+1) else false
def Vf (ds:List Zh):Bool:=decide (ds.length<=4)&&TQ ds ds 0
def PO {m:Nat} {cs:List Yo}:Ql m cs=true↔∀c∈cs,Aj m c=true:=by
 induction cs with
 | nil=>simp [Ql]
 | cons c r ih=>
  rw [Ql]
  split
  .rename_i h;simp [ih,h]
  .rename_i h;simp [h]
def Lm {ds:List Zh}:∀{l:List Zh} {i:Nat},TQ ds l i=true↔∀j<l.length,CV ds (i+j)=true
 | [],i=>by simp [TQ]
 | d::r,i=>by
  rw [TQ]
  split
  .rename_i h;rw [Lm (l:=r)];constructor
   .intro hq j hj
    cases j with
    | zero=>exact h
    | succ j=>have:=hq j (by simpa using hj);rwa [show i+(j+1)=i+1+j by omega]
   .intro hq j hj;have:=hq (j+1) (by simpa using hj)
    rwa [show i+(j+1)=i+1+j by omega] at this
  .rename_i h;simp only [Bool.false_eq_true,false_iff];intro hq;exact h<|hq 0 (by simp)
def Znt {ds:List Zh} (h:Vf ds=true):Wq ds:=by
 simp only [Vf,We,decide_eq_true_eq] at h;obtain ⟨h1,h2⟩:=h;rw [Lm] at h2;have key:∀d∈ds,∃i,Tj ds d i=true:=fun d hd=>by
  obtain ⟨i,hi⟩:=List.mem_iff_getElem?.1 hd;have:=h2 i (Xv.1 hi).1;rw [VH,EZ hi] at this;exact ⟨i,this⟩
 have hc:∀d∈ds,0<d.cons.length->d.cons.length<=3/\Ql ds.length d.cons=true:=fun d hd hp=>by
  obtain ⟨i,hi⟩:=key d hd;rw [Tj,Zg hp] at hi
  split at hi
  .rename_i h;exact ⟨h.1,hi⟩
  .cases hi
 refine ⟨h1,fun d hd=>?_,fun d hd c hc'=>?_⟩
 .by_cases hp:0<d.cons.length
  .exact (hc d hd hp).1
  .omega
 .have:=PO.1 (hc d hd<|List.length_pos_of_mem hc').2 c hc';simp only [Aj,We,decide_eq_true_eq] at this;exact this.1
def A0 (m:Nat) (f:Sg):Bool:=decide (f.params.length<=3)&&(WB m f.params&&decide (0<=f.result/\f.result<=m))
def A1 (m:Nat):List Sg->Bool
 | []=>true
 | f::r=>if A0 m f=true then A1 m r else false
def H0:List Sg->Bool
 | []=>false
 | f::_=>decide (f.params.length=0)&&decide (f.result=0)
def Zb0 {fs:List Sg} {x:Sg} (h:fs[0]? = some x):H0 fs=(decide (x.params.length=0)&&decide (x.result=0)):=by
 cases fs with
 | nil=>simp at h
 | cons f r=>simp at h;subst h;rfl
def J6 (ds:List Zh) (fs:List Sg):Bool:=
 Vf ds&&(decide (1<=fs.length/\fs.length<=4)&&(A1 ds.length fs&&H0 fs))
def Kl (ps:LI):LI->Option Int->Bool
 | [],_=>true
 | v::r,prev=>if (0<=v/\v<=(ps.length:Int)-1)/\ps[v.toNat]?≠some 0/\(∀p,prev=some p->p<v) then Kl ps r (some v) else false
def MR {ps r:LI} {v:Int} {prev:Option Int} (h:(0<=v/\v<=(ps.length:Int)-1)/\ps[v.toNat]?≠some 0/\(∀p,prev=some p->p<v)):Kl ps (v::r) prev=Kl ps r (some v):=by
 rw [Kl,Zg h]
def HD {ps r:LI} {v:Int} {prev:Option Int} (h:¬((0<=v/\v<=(ps.length:Int)-1)/\ps[v.toNat]?≠some 0/\(∀p,prev=some p->p<v))):Kl ps (v::r) prev=false:=by
 rw [Kl,Z8 h]
def Ab (ps ls:LI):Bool:=Kl ps ls none
def Kb:List Y9->Bool
 | []=>true
 | r::rs=>if Ab r.1 r.2=true then Kb rs else false
def UN (r:Y9):Sg:=⟨r.1,r.result⟩
def VV (n:Zm):Bool:=decide (n.2.length<=4)&&(J6 n.1 (n.2.map UN)&&Kb n.2)
end Go.Abs
section
namespace Go.Abs
def Xq {α:Type} (xs:List α) (i:Int):Option α:=if 0<=i/\i<=(xs.length:Int)-1 then xs[i.toNat]? else none
def Qx {α:Type} {xs:List α} {i:Int} {x:α} (h:0<=i/\i<=(xs.length:Int)-1) (hx:xs[i.toNat]? = some x):Xq xs i=some x:=by rw [Xq,Zg h,hx]
def Je {α:Type} {xs:List α} {i:Int} (h:¬(0<=i/\i<=(xs.length:Int)-1)):Xq xs i=none:=by rw [Xq,Z8 h]
def KC {α:Type} {xs:List α} {i:Int} {x:α} (h:Xq xs i=some x):(0<=i/\i<=(xs.length:Int)-1)/\xs[i.toNat]? = some x:=by
 rw [Xq] at h
 split at h
 .rename_i h1;exact ⟨h1,h⟩
 .cases h
def TJ (vars:LI):LI->LI->Bool
 | [],[]=>true
 | a::as1,t::ts=>if Xq vars a=some t then TJ vars as1 ts else false
 | _,_=>false
def Wh (vars args types:LI):Bool:=TJ vars args types
def Oa {vars:LI}:∀{args types:LI},args.length≠types.length->TJ vars args types=false
 | [],[],h=>absurd rfl h
 | [],_::_,_=>rfl
 | _::_,[],_=>rfl
 | a::as1,t::ts,h=>by
  rw [TJ]
  split
  .exact Oa (by simpa using h)
  .rfl
def Znl {vars args types:LI} {k:Nat} {a t:Int} (ha:args[k]? = some a) (ht:types[k]? = some t) (h:Xq vars a=some t) :
  TJ vars (args.drop k) (types.drop k)=TJ vars (args.drop (k+1)) (types.drop (k+1)):=by
 rw [Yc ha,Yc ht,TJ,Zg h]
def Z5d {vars args types:LI} {k:Nat} {a t:Int} (ha:args[k]? = some a) (ht:types[k]? = some t) (h:Xq vars a≠some t) :
  TJ vars (args.drop k) (types.drop k)=false:=by
 rw [Yc ha,Yc ht,TJ,Z8 h]
def Znj {vars args types:LI} {k:Nat} (ha:args.length<=k) (ht:types.length<=k):TJ vars (args.drop k) (types.drop k)=true:=by
 rw [Xk ha,Xk ht];rfl
def VT (op:Int):Bool:=op==0||(op==6||(op==8||(op==9||op==10)))
def XV (op:Int):Bool:=decide (0<=op/\op<=11)
def Yv (op:Int):Bool:=decide (14<=op/\op<=17)
def U9 (vars:LI) (op into:Int):Bool:=
 if into=0 then true else if op=6 then ((Xq vars (into-1)).map fun t=>decide (0<t)).getD false else false
def JM (ds:List Zh) (ps:LI) (res:Int):Int:=UP ds (ps.getLast?.getD 0) res
def Jw (ds:List Zh) (vars:LI) (op:Int) (args:LI) (r:Y9):Int:=
 if op=9 then (if Wh vars args r.1=true then r.result else -1)
 else if r.1.length=0∨0<r.2.length∨¬Wh vars args (r.1.take (r.1.length-1))=true then -1
 else JM ds r.1 r.result
def UM (n:Zm) (vars:LI) (op num:Int) (args:LI):Int:=
 match Xq n.2 num with
 | none=>-1
 | some r=>Jw n.1 vars op args r
def QU (ds:List Zh) (vars:LI) (op:Int) (args:LI):Int:=
 match args with
 | [a]=>match Xq vars a with
  | some t=>if t=0 then -1 else if (op≠14/\op≠15)/\Wd ds t=true then -1 else 0
  | none=>-1
 | _=>-1
def KA (ds:List Zh) (vars args:LI):Int:=
 match args with
 | [a,b]=>match Xq vars a with
  | some t=>if Wd ds t=true then
    (match ds[(t-1).toNat]? with
     | some d=>if Wh vars [b] [d.frm]=true then d.to_ else -1
     | none=>-1) else -1
  | none=>-1
 | _=>-1
def Xi (ds:List Zh) (op num:Int):List LI:=if op=7 then [[],[]] else (Y1 ds num).map (ZZ ds)
mutual
def Y6 (n:Zm) (vars:LI):Z4->Int
 | .mk op num into args kids=>
  if (num≠0/\¬VT op=true)∨¬U9 vars op into=true∨(0<kids.length/\op≠7/\op≠8) then -1
  else if op=0 then (if args.length=0/\(-999<=num/\num<=999) then 0 else -1)
  else if op=1∨op=2∨op=3∨op=4 then (if Wh vars args [0,0]=true then 0 else -1)
  else if op=5 then (if Wh vars args [0]=true then 0 else -1)
  else if op=6 then (if 0<Wx n.1 num/\Wh vars args (ZZ n.1 num)=true then Wx n.1 num else -1)
  else if op=7 then (if Wh vars args [0]=true then (if (Xi n.1 op num).length=0∨kids.length≠(Xi n.1 op num).length then -1 else W6 n vars kids (Xi n.1 op num) true 0) else -1)
  else if op=8 then (if Wh vars args [num]=true then (if (Xi n.1 op num).length=0∨kids.length≠(Xi n.1 op num).length then -1 else W6 n vars kids (Xi n.1 op num) true 0) else -1)
  else if op=9∨op=10 then UM n vars op num args
  else if op=11 then KA n.1 vars args
  else if op=14∨op=15∨op=16∨op=17 then QU n.1 vars op args
  else -1
def W6 (n:Zm) (vars:LI):List Z6->List LI->Bool->Int->Int
 | [],_,_,t=>t
 | b::bs,more,first,t=>
  match more with
  | []=>-1
  | m::ms=>if YY n (vars++m) b<0∨(first=false/\YY n (vars++m) b≠t) then -1 else W6 n vars bs ms false (YY n (vars++m) b)
def XJ (n:Zm):List Z4->LI->Option LI
 | [],vars=>some vars
 | s::r,vars=>if Y6 n vars s<0 then none else XJ n r (if XV s.op=true then vars++[Y6 n vars s] else vars)
def YY (n:Zm) (vars:LI):Z6->Int
 | .mk steps result=>match XJ n steps vars with
  | none=>-1
  | some vs=>(Xq vs result).getD (-1)
end
def Qe (n:Zm) (vars:LI) (op num:Int) (kids:List Z6):Int:=
 if (Xi n.1 op num).length=0∨kids.length≠(Xi n.1 op num).length then -1 else W6 n vars kids (Xi n.1 op num) true 0
mutual
def Tq:Z4->Int->Int
 | .mk _ _ _ _ kids,left=>Q1 kids left
def Wy:Z6->Int->Int
 | .mk steps _,left=>Uf steps left
def Uf:List Z4->Int->Int
 | [],left=>left
 | s::r,left=>if left<1 then -1 else if Tq s (left-1)<0 then -1 else Uf r (Tq s (left-1))
def Q1:List Z6->Int->Int
 | [],left=>left
 | b::r,left=>if Wy b left<0 then -1 else Q1 r (Wy b left)
end
def VG (b:Z6):Int:=if Wy b 600<0 then -1 else 600-Wy b 600
def QN (n:Zm):List Y9->Bool
 | []=>true
 | r::rs=>if ¬VG r.4<0/\YY n r.1 r.4=r.result then QN n rs else false
def Wo (n:Zm):Bool:=VV n&&QN n n.2
def HB:(∀(s:Z4) (l:Int),0<=l->Tq s l<=l)/\(∀(b:Z6) (l:Int),0<=l->Wy b l<=l):=by
 have key:∀m:Nat,(∀s:Z4,s.sz<=m->∀l:Int,0<=l->Tq s l<=l)/\(∀b:Z6,b.sz<=m->∀l:Int,0<=l->Wy b l<=l):=by
  intro m
  induction m with
  | zero=>exact ⟨fun s h=>by have:=s.sz_pos;omega,fun s h=>by have:=s.sz_pos;omega⟩
  | succ m ih=>
   refine ⟨fun s hs l hl=>?_,fun b hb l hl=>?_⟩
   .cases s with
    | mk op num into args kids=>
     rw [Tq];have hk:YT kids<=m:=by rw [Z4.sz] at hs;omega
     clear hs
     induction kids generalizing l with
     | nil=>rw [Q1];exact Int.le_refl _
     | cons b r ihr=>
      rw [YT] at hk;have:=ih.2 b om l hl;rw [Q1]
      split
      .omega
      .have:=ihr (Wy b l) om om;omega
   .cases b with
    | mk steps res=>
     rw [Wy];have hk:Ya steps<=m:=by rw [Z6.sz] at hb;omega
     clear hb
     induction steps generalizing l with
     | nil=>rw [Uf];exact Int.le_refl _
     | cons s r ihr=>
      rw [Ya] at hk;rw [Uf]
      split
      .omega
      .have:=ih.1 s om (l-1) om
       split
       .omega
       .have:=ihr (Tq s (l-1)) om om;omega
 exact ⟨fun s l hl=>(key s.sz).1 s (X8 _) l hl,fun b l hl=>(key b.sz).2 b (X8 _) l hl⟩
end Go.Abs
namespace Go.Abs
def Zmb {l:List Z4} {k:Nat} {s:Z4} (h:l[k]? = some s):k+s.sz<=Ya l:=by
 induction l generalizing k with
 | nil=>simp at h
 | cons t r ih=>
  cases k with
  | zero=>simp at h;subst h;simp only [Ya];omega
  | succ k=>have:=ih (k:=k) (by simpa using h);have:=t.sz_pos;simp only [Ya];omega
def BQ {b:Z6} {k:Nat} {s:Z4} (h:b.steps[k]? = some s):k+s.sz<b.sz:=by have:=Zmb h;have:=b.sz_eq;omega
structure YZ (n:Zm):Prop where
 decls:Wq n.1
 len:n.2.length<=4
 params:∀r∈n.2,r.1.length<=3
 lent:∀r∈n.2,r.2.length<=4194304
def YZ.params_at {n:Zm} (h:YZ n) {k:Nat} {r:Y9} (hr:n.2[k]? = some r):r.1.length<=3:=h.params r (Y0 hr)
def YZ.lent_at {n:Zm} (h:YZ n) {k:Nat} {r:Y9} (hr:n.2[k]? = some r):r.2.length<=4194304:=h.lent r (Y0 hr)
def Z72 {ds:List Zh} {num:Int} {k:Nat} {x:Int} (h:(Y1 ds num)[k]? = some x):(Xi ds 8 num)[k]? = some (ZZ ds x):=by
 rw [Xi,Z8 om,Tx,h];rfl
end Go.Abs
namespace Go.Abs
def N4 {ds:List Zh} (hd:Wq ds) (t:Int):(Y1 ds t).length<=3:=by
 rw [Y1]
 split
 .rename_i h;obtain ⟨d,hd1⟩:=Jo (xs:=ds) (j:=(t-1).toNat) om;rw [hd1,Zhn];exact hd.cons_at hd1
 .simp
def Uw {ds:List Zh} (hd:Wq ds) (c:Int):(ZZ ds c).length<=3:=by
 by_cases h:Wx ds c<1
 .rw [(GF h).1];simp
 .obtain ⟨k,d,x,h1,_,h3,_,h5⟩:=Lg h;rw [h5];exact hd.fields_at h1 h3
def EQ {ds:List Zh} (hd:Wq ds) {op num:Int} {k:Nat} {m:LI} (h:(Xi ds op num)[k]? = some m):m.length<=3:=by
 have hm:=Y0 h;rw [Xi] at hm
 split at hm
 .simp at hm;subst hm;simp
 .obtain ⟨c,_,rfl⟩:=XG.1 hm;exact Uw hd c
def JL {α:Type} {xs:List α} {x:α} (h:xs.length=1) (hx:xs[0]? = some x):xs=[x]:=by
 cases xs with
 | nil=>simp at h
 | cons a r=>
  cases r with
  | nil=>simp at hx;rw [hx]
  | cons b r=>simp at h
def DK {ds:List Zh} {us args:LI} {op:Int} (h:args.length≠1):QU ds us op args=-1:=by
 cases args with
 | nil=>rfl
 | cons a r=>
  cases r with
  | nil=>simp at h
  | cons b r=>rfl
def DL {ds:List Zh} {us args:LI} {op a:Int} (h:args=[a]) (hi:¬(0<=a/\a<=(us.length:Int)-1)):QU ds us op args=-1:=by
 subst h;rw [QU];simp only [Je hi]
def DJ {ds:List Zh} {us args:LI} {op a t:Int} (h:args=[a]) (hi:0<=a/\a<=(us.length:Int)-1) (ht:us[a.toNat]? = some t) :
  QU ds us op args=if t=0 then -1 else if (op≠14/\op≠15)/\Wd ds t=true then -1 else 0:=by
 subst h;rw [QU];simp only [Qx hi ht]
def Zjg {n:Zm} {us args:LI} {op num:Int} {r:Y9} (hi:0<=num/\num<=(n.2.length:Int)-1) (hr:n.2[num.toNat]? = some r) :
  UM n us op num args=Jw n.1 us op args r:=by
 rw [UM];simp only [Qx hi hr]
def Zji {n:Zm} {us args:LI} {op num:Int} (hi:¬(0<=num/\num<=(n.2.length:Int)-1)):UM n us op num args=-1:=by
 rw [UM];simp only [Je hi]
def S7 {xs:LI} {x:Int} (h:xs[xs.length-1]? = some x):xs.getLast?.getD 0=x:=by
 rw [List.getLast?_eq_getElem?,h];rfl
def Z06 {n:Zm} {us:LI} {bs:List Z6} {ms:List LI} {b:Z6} {m:LI} {k:Nat} {t:Int} (hb:bs[k]? = some b) (hm:ms[k]? = some m)
  (h:¬(YY n (us++m) b<0∨(k:Int)>0/\YY n (us++m) b≠t)) :
  W6 n us (bs.drop k) (ms.drop k) (decide (k=0)) t=W6 n us (bs.drop (k+1)) (ms.drop (k+1)) (decide (k+1=0)) (YY n (us++m) b):=by
 rw [Yc hb,Yc hm,W6,Z8]
 .simp
 .rintro (q|⟨q1,q2⟩)
  .exact h<|.inl q
  .exact h<|.inr ⟨by simp at q1;omega,q2⟩
def Z04 {n:Zm} {us:LI} {bs:List Z6} {ms:List LI} {b:Z6} {m:LI} {k:Nat} {t:Int} (hb:bs[k]? = some b) (hm:ms[k]? = some m)
  (h:YY n (us++m) b<0∨(k:Int)>0/\YY n (us++m) b≠t) :
  W6 n us (bs.drop k) (ms.drop k) (decide (k=0)) t=-1:=by
 rw [Yc hb,Yc hm,W6,Zg];rcases h with q|⟨q1,q2⟩
 .exact .inl q
 .exact .inr ⟨by simp;omega,q2⟩
def Z05 {n:Zm} {us:LI} {bs:List Z6} {ms:List LI} {k:Nat} {f:Bool} {t:Int} (hb:bs.length<=k):W6 n us (bs.drop k) (ms.drop k) f t=t:=by
 rw [Xk hb,W6]
end Go.Abs
end
namespace Go.Abs
def Av (n:Zm) (us:LI) (s:Z4):Y6 n us s =
  if (s.num≠0/\¬VT s.op=true)∨¬U9 us s.op s.into=true∨(0<s.kids.length/\s.op≠7/\s.op≠8) then -1
  else if s.op=0 then (if s.args.length=0/\(-999<=s.num/\s.num<=999) then 0 else -1)
  else if s.op=1∨s.op=2∨s.op=3∨s.op=4 then (if Wh us s.args [0,0]=true then 0 else -1)
  else if s.op=5 then (if Wh us s.args [0]=true then 0 else -1)
  else if s.op=6 then (if 0<Wx n.1 s.num/\Wh us s.args (ZZ n.1 s.num)=true then Wx n.1 s.num else -1)
  else if s.op=7 then (if Wh us s.args [0]=true then Qe n us s.op s.num s.kids else -1)
  else if s.op=8 then (if Wh us s.args [s.num]=true then Qe n us s.op s.num s.kids else -1)
  else if s.op=9∨s.op=10 then UM n us s.op s.num s.args
  else if s.op=11 then KA n.1 us s.args
  else if s.op=14∨s.op=15∨s.op=16∨s.op=17 then QU n.1 us s.op s.args
  else -1:=by
 cases s with
 | mk op num into args kids=>rw [Y6];rfl
def DD (n:Zm) (us:LI) (b:Z6):YY n us b=match XJ n b.steps us with
  | none=>-1
  | some vs=>(Xq vs b.result).getD (-1):=by
 cases b with
 | mk st r=>rw [YY];rfl
def OL {α:Type} {xs:List α} {x:α} (h:xs.length=2) (hx:xs[0]? = some x):∃y,xs=[x,y]:=by
 match xs,h with
 | [a,b],_=>simp at hx;subst hx;exact ⟨b,rfl⟩
def Tz {ds:List Zh} {us args:LI} (h:args.length≠2):KA ds us args=-1:=by
 match args,h with
 | [],_=>rfl
 | [_],_=>rfl
 | [_,_],h=>simp at h
 | _::_::_::_,_=>rfl
def TA {ds:List Zh} {us args:LI} {a:Int} (hl:args.length=2) (h:args[0]? = some a) (hi:¬(0<=a/\a<=(us.length:Int)-1)):KA ds us args=-1:=by
 obtain ⟨y,rfl⟩:=OL hl h;rw [KA];simp only [Je hi]
def Tg {ds:List Zh} {us args:LI} {a t:Int} (hl:args.length=2) (h:args[0]? = some a) (hi:0<=a/\a<=(us.length:Int)-1) (ht:us[a.toNat]? = some t) :
  KA ds us args=if Wd ds t=true then
    (match ds[(t-1).toNat]? with
     | some d=>if Wh us (args.drop 1) [d.frm]=true then d.to_ else -1
     | none=>-1) else -1:=by
 obtain ⟨y,rfl⟩:=OL hl h;rw [KA];simp only [Qx hi ht];rfl
def Z6t {ds:List Zh} {us args:LI} {a t:Int} {d:Zh} (hl:args.length=2) (h:args[0]? = some a) (hi:0<=a/\a<=(us.length:Int)-1) (ht:us[a.toNat]? = some t)
  (hA:Wd ds t=true) (hd:ds[(t-1).toNat]? = some d):KA ds us args=if Wh us (args.drop 1) [d.frm]=true then d.to_ else -1:=by
 rw [Tg hl h hi ht,Zg hA];simp only [hd]
def Mx {ds:List Zh} {t:Int} (h:Wd ds t=true):1<=t/\t<=ds.length:=by
 simp only [Wd,We,decide_eq_true_eq] at h;exact h.1
def Z0j (b:Z6) (l:Int):Wy b l=Uf b.steps l:=by cases b;rw [Wy];rfl
def HC (s:Z4) (l:Int):Tq s l=Q1 s.kids l:=by cases s;rw [Tq];rfl
structure WF (n:Zm):Prop where
 decls:Ja n.1
 len:n.2.length<=4194304
 params:∀r∈n.2,r.1.length<=4194304
 lent:∀r∈n.2,r.2.length<=4194304
 body:∀r∈n.2,r.4.sz<=10000000
def NO {m:Nat} {fs:List Sg} (h:A1 m fs=true):∀f∈fs,A0 m f=true:=by
 induction fs with
 | nil=>simp
 | cons f r ih=>
  rw [A1] at h
  split at h
  .rename_i h1;intro g hg;rcases YM.1 hg with rfl|hg
   .exact h1
   .exact ih h g hg
  .cases h
def N2 {n:Zm} (hz:WF n) (h:VV n=true):YZ n:=by
 simp only [VV,J6,We,decide_eq_true_eq] at h;obtain ⟨h1,⟨h2,h3,h4,h5⟩,h6⟩:=h;refine ⟨Znt h2,h1,fun r hr=>?_,hz.lent⟩;have:=NO h4 (UN r) (XG.2 ⟨r,hr,rfl⟩);simp only [A0,We,decide_eq_true_eq] at this;exact this.1
def gI (xs:LI) (i:Int):Int:=xs[i.toNat]?.getD 0
def WH {xs:LI} {i x:Int} (h:xs[i.toNat]? = some x):gI xs i=x:=by rw [gI,h];rfl
structure Zy where
 vars:LI
 own:LI
 par:LI
 con:LI
 fst:LI
 tok:LI
def Zy.grow (L:Zy) (t own par:Int):Zy:=⟨L.1++[t],L.2++[own],L.3++[par],L.4++[-1],L.5++[-1],L.6++[-1]⟩
def Td (L:Zy) (v:Int):Option Zy:=if gI L.2 v<1 then none else some { L with own:=L.2.set v.toNat (gI L.2 v-1) }
def Kz (own par ln:LI):Nat->Int->Bool
 | 0,_=>false
 | k+1,v=>if gI own v<1/\¬v∈ln then (if gI par v<0 then false else Kz own par ln k (gI par v)) else true
def Ws (L:Zy) (ln:LI) (v:Int):Bool:=Kz L.2 L.3 ln (v.toNat+1) v
def TO:LI->Int->LI->LI
 | own,_,[]=>own
 | own,p,f::r=>TO (if f≠0 then own.set p.toNat (gI own p+1) else own) (p+1) r
def Kc (ds:List Zh) (L:Zy) (op x:Int):Option Zy:=
 if gI L.4 x<0∨(op=17/\0<=gI L.6 x) then none
 else match Td L x with
  | none=>none
  | some L1=>some { L1 with
    own:=TO L1.own (gI L.5 x) (ZZ ds<|gI L.4 x)
    tok:=if op=17 then L.6.set x.toNat (ZZ ds<|gI L.4 x).length else L.6 }
def TB (op:Int):Bool:=op==6||(op==9||(op==10||op==11))
def BC (n:Zm) (op num:Int):LI:=if op=9 then ((n.2[num.toNat]?).map (·.lent)).getD [] else []
def V9 (n:Zm) (op num:Int) (i:Nat):Bool:=decide ((i:Int)∈BC n op num)
def Qk (n:Zm) (vars:LI) (op num a:Int) (i:Nat):Bool:=TB op&&(gI vars a != 0&&!V9 n op num i)
def K0 (n:Zm) (op num:Int):LI->Nat->Zy->Option Zy
 | [],_,L=>some L
 | a::r,i,L=>if Qk n L.1 op num a i=true then (match Td L a with
   | none=>none
   | some L1=>K0 n op num r (i+1) L1) else K0 n op num r (i+1) L
def JV (n:Zm) (op num:Int) (ln:LI) (L:Zy):LI->Nat->Bool
 | [],_=>true
 | a::r,i=>if V9 n op num i=true/\¬Ws L ln a=true then false else JV n op num ln L r (i+1)
def JW (L:Zy) (into:Int) (m:Nat):Option Zy:=
 if 0<into then (if gI L.6 (into-1)≠m then none else some { L with tok:=L.6.set (into-1).toNat (-1) }) else some L
def Tm (n:Zm) (ln:LI) (L:Zy) (op num into:Int) (args:LI):Option Zy:=
 match K0 n op num args 0 L with
 | none=>none
 | some L1=>if JV n op num ln L1 args 0=true then JW L1 into args.length else none
def Vm:LI->LI->Bool
 | o::os,t::ts=>if o≠0∨0<=t then false else Vm os ts
 | _,_=>true
def Zy.take (L:Zy) (m:Nat):Zy:=⟨L.1.take m,L.2.take m,L.3.take m,L.4.take m,L.5.take m,L.6.take m⟩
def T1 (L:Zy) (m:Nat):Option Zy:=if Vm (L.2.drop m) (L.6.drop m)=true then some (L.take m) else none
def JT (L:Zy) (par:Int):LI->Zy
 | []=>L
 | t::r=>JT (L.grow t 0 par) par r
def AE (ds:List Zh) (L:Zy) (x c:Int):Zy:=
 JT { L with con:=L.4.set x.toNat c,fst:=L.5.set x.toNat L.1.length } x (ZZ ds c)
def U3 (ds:List Zh) (L:Zy) (op num:Int) (args:LI) (i:Nat):Zy:=
 if op=8 then AE ds L (gI args 0) (gI (Y1 ds num) i) else L
def KZ (lent:LI):LI->Nat->Zy->Zy
 | [],_,L=>L
 | t::r,i,L=>KZ lent r (i+1) (L.grow t (if t≠0/\¬(i:Int)∈lent then 1 else 0) (-1))
def T8 (r:Y9):Zy:=KZ r.2 r.1 0 ⟨[],[],[],[],[],[]⟩
def AI (L:Zy) (ln:LI) (v:Int):Option Zy:=if Ws L ln v=true then some { L with own:=L.2.set v.toNat (gI L.2 v+1) } else none
def Kn (n:Zm) (ln:LI) (L:Zy) (op num into:Int) (args:LI) (ch:Option Zy):Option Zy:=
 if op=14 then AI L ln (gI args 0)
 else if op=15 then Td L (gI args 0)
 else if op=16∨op=17 then Kc n.1 L op (gI args 0)
 else if op=7∨op=8 then (if op=8/\¬Ws L ln (gI args 0)=true then none else ch)
 else Tm n ln L op num into args
def JR (L:Zy) (op t:Int) (r:Option Zy):Option Zy:=
 match r with
 | none=>none
 | some L1=>if XV op=true then some (L1.grow t (if t≠0 then 1 else 0) (-1)) else some L1
def Cj (L:Zy) (first:Option Zy) (rest:Zy->Bool):Option Zy:=
 match first with
 | none=>none
 | some one=>if rest one=true then some { L with own:=one.own,tok:=one.tok } else none
def I6 (one:Zy) (two:Option Zy) (rest:Bool):Bool:=
 match two with
 | none=>false
 | some two=>if one.own=two.own/\one.tok=two.tok then rest else false
def EB (r:Option Zy) (f:Zy->Option Zy):Option Zy:=match r with|none=>none|some L=>f L
def UA (m:Nat) (res:Int) (L:Zy):Option Zy:=EB (if gI L.1 res≠0 then Td L res else some L) fun L2=>T1 L2 m
mutual
def UY (n:Zm) (ln:LI) (L:Zy):Z4->Option Zy
 | .mk op num into args kids=>JR L op (Y6 n L.1 (.mk op num into args kids)) (Kn n ln L op num into args (K9 n ln L op num args kids))
def K9 (n:Zm) (ln:LI) (L:Zy) (op num:Int) (args:LI):List Z6->Option Zy
 | []=>none
 | b::bs=>Cj L (VD n ln (U3 n.1 L op num args 0) L.1.length b) fun one=>Jq n ln L op num args one bs 1
def Jq (n:Zm) (ln:LI) (L:Zy) (op num:Int) (args:LI) (one:Zy):List Z6->Nat->Bool
 | [],_=>true
 | b::bs,i=>I6 one (VD n ln (U3 n.1 L op num args i) L.1.length b) (Jq n ln L op num args one bs (i+1))
def VN (n:Zm) (ln:LI) (L:Zy):List Z4->Option Zy
 | []=>some L
 | s::r=>EB (UY n ln L s) fun L1=>VN n ln L1 r
def VD (n:Zm) (ln:LI) (L:Zy) (m:Nat):Z6->Option Zy
 | .mk steps result=>EB (VN n ln L steps) (UA m result)
end
def O1 (n:Zm) (ln:LI) (L:Zy) (s:Z4):UY n ln L s=JR L s.op (Y6 n L.1 s) (Kn n ln L s.op s.num s.into s.args<|K9 n ln L s.op s.num s.args s.kids):=by
 cases s with
 | mk op num into args kids=>rw [UY];rfl
def Ag (n:Zm) (ln:LI) (L:Zy) (m:Nat) (b:Z6):VD n ln L m b=EB (VN n ln L b.steps) (UA m b.result):=by
 cases b with
 | mk st r=>rw [VD];rfl
def KD (n:Zm) (r:Y9):Bool:=
 match VD n r.2 (T8 r) r.1.length r.4 with
 | none=>false
 | some L=>(T1 L 0).isSome
def JN (n:Zm):List Y9->Bool
 | []=>true
 | r::rs=>if KD n r=true then JN n rs else false
def UQ (n:Zm):Bool:=Wo n&&JN n n.2
structure WT (L:Zy):Prop where
 own:L.2.length=L.1.length
 par:L.3.length=L.1.length
 con:L.4.length=L.1.length
 fst:L.5.length=L.1.length
 tok:L.6.length=L.1.length
structure Xf (ds:List Zh) (L:Zy) (q:Int):Prop where
 len:WT L
 down:∀j:Int,0<=j->j<L.1.length->gI L.3 j<j
 arm:∀x:Int,0<=x->x<L.1.length->0<=gI L.4 x->0<=gI L.5 x/\gI L.5 x+(ZZ ds (gI L.4 x)).length<=L.1.length
 nn:∀x∈L.2,0<=x
 bd:∀x∈L.2,x<=q
end Go.Abs
section
namespace Go.Abs
end Go.Abs
namespace Go.Abs
def Zgz {n:Zm} {op num:Int} {r:Y9} (h:op=9) (hr:n.2[num.toNat]? = some r):BC n op num=r.2:=by
 rw [BC,Zg h,hr];rfl
end Go.Abs
namespace Go.Abs
def Z6f {own par ln:LI} {N:Int} (hd:∀j:Int,0<=j->j<N->gI par j<j):∀(k:Nat) (v:Int),0<=v->v<N->v.toNat+1<=k->Kz own par ln k v=Kz own par ln (v.toNat+1) v:=by
 intro k
 induction k using Nat.strongRecOn with
 | ind k ih=>
  intro v h0 hN hk
  cases k with
  | zero=>omega
  | succ k=>
   rw [Kz,Kz]
   split
   .split
    .rfl
    .have hdv:=hd v h0 hN;rw [ih k om (gI par v) om om om];rw [ih v.toNat om (gI par v) om om om]
   .rfl
def OE {own par ln:LI} {N j x1 x2:Int} {r:Bool} (h1:gI own j=x1) (h2:gI par j=x2) (hj:0<=j/\j<N) (hx:x1<1/\¬j∈ln) (h0:¬x2<0) (hd:∀i:Int,0<=i->i<N->gI par i<i)
  (h:Kz own par ln (j.toNat+1) j=r):Kz own par ln (x2.toNat+1) x2=r:=by
 rw [Kz,h1,h2,Zg hx,Z8 h0] at h;have hdv:=hd j hj.1 hj.2;rw [<-h,Z6f hd j.toNat x2 om om om]
def OD {own par ln:LI} {j x1 x2:Int} {r:Bool} (h1:gI own j=x1) (h2:gI par j=x2) (hx:x1<1/\¬j∈ln) (h0:x2<0) (h:Kz own par ln (j.toNat+1) j=r):false=r:=by
 rw [Kz,h1,h2,Zg hx,Zg h0] at h;exact h
def OF {own par ln:LI} {j x1:Int} {r:Bool} (h1:gI own j=x1) (hx:¬(x1<1/\¬j∈ln)) (h:Kz own par ln (j.toNat+1) j=r):true=r:=by
 rw [Kz,h1,Z8 hx] at h;exact h
end Go.Abs
namespace Go.Abs
def J3 {L L':Zy} {v:Int} (h:Td L v=some L'):1<=gI L.2 v/\L'.1=L.1/\L'.3=L.3/\L'.4=L.4/\L'.5=L.5/\L'.6=L.6/\L'.2=L.2.set v.toNat (gI L.2 v-1):=by
 rw [Td] at h
 split at h
 .cases h
 .cases h;exact ⟨by omega,rfl,rfl,rfl,rfl,rfl,rfl⟩
def M8 {xs:LI} {v:Int} (h:gI xs v≠0):gI xs v∈xs:=by
 rw [gI] at h ⊢
 cases hx:xs[v.toNat]? with
 | none=>rw [hx] at h;exact absurd rfl h
 | some y=>exact Y0 hx
def Js {xs:LI} {i:Nat} {a x:Int} (h:x∈xs.set i a):x∈xs∨x=a:=List.mem_or_eq_of_mem_set h
def Xf.take {ds:List Zh} {L L':Zy} {q v:Int} (hk:Xf ds L q) (h:Td L v=some L'):Xf ds L' q:=by
 obtain ⟨t1,t2,t3,t4,t5,t6,t7⟩:=J3 h;obtain ⟨f1,f2,f3,f4,f5⟩:=hk.len;have hm:=M8 (xs:=L.2) (v:=v) om;refine ⟨⟨by rw [t7,t2,UO];exact f1,by rw [t3,t2];exact f2,by rw [t4,t2];exact f3,by rw [t5,t2];exact f4,by rw [t6,t2];exact f5⟩,?_,?_,?_,?_⟩
 .rw [t2,t3];exact hk.down
 .rw [t2,t4,t5];exact hk.arm
 .rw [t7];intro x hx
  rcases Js hx with hx|rfl
  .exact hk.nn x hx
  .omega
 .rw [t7];intro x hx
  rcases Js hx with hx|rfl
  .exact hk.bd x hx
  .have:=hk.bd _ hm;omega
end Go.Abs
end
namespace Go.Abs
def O8 {us:LI}:∀{args tys:LI},TJ us args tys=true->args.length=tys.length/\∀a∈args,0<=a/\a<us.length
 | [],[],_=>⟨rfl,by simp⟩
 | [],_::_,h=>by cases h
 | _::_,[],h=>by cases h
 | a::as1,t::ts,h=>by
  rw [TJ] at h
  split at h
  .rename_i h1;obtain ⟨q1,q2⟩:=O8 h;refine ⟨by simp [q1],fun x hx=>?_⟩;rcases YM.1 hx with rfl|hx
   .have:=(KC h1).1;omega
   .exact q2 x hx
  .cases h
def Z02 {n:Zm} {us:LI}:∀{bs:List Z6} {ms:List LI} {f:Bool} {t:Int},0<=t->0<=W6 n us bs ms f t ->
  ∀(i:Nat) (b:Z6) (m:LI),bs[i]? = some b->ms[i]? = some m->0<=YY n (us++m) b
 | [],_,_,_,_,_,i,b,m,hb,_=>by simp at hb
 | b::bs,[],_,_,_,h,_,_,_,_,hm=>by simp at hm
 | b::bs,m::ms,f,t,ht,h,i,c,l,hc,hl=>by
  rw [W6] at h
  split at h
  .omega
  .rename_i hq;have h0:0<=YY n (us++m) b:=by
    rcases Int.lt_or_le (YY n (us++m) b) 0 with q|q
    .exact absurd (.inl q) hq
    .exact q
   cases i with
   | zero=>simp at hc hl;subst hc hl;exact h0
   | succ i=>exact Z02 h0 h i c l (by simpa using hc) (by simpa using hl)
structure B9 (n:Zm) (us:LI) (s:Z4):Prop where
 args:∀a∈s.args,0<=a/\a<us.length
 one:(s.op=7∨s.op=8∨(14<=s.op/\s.op<=17))->∃a,s.args=[a]
 num:s.op=9->0<=s.num/\s.num<n.2.length
 into:s.into≠0->1<=s.into/\s.into<=us.length
 kids:(s.op=7∨s.op=8)->s.kids.length=(Xi n.1 s.op s.num).length/\(Xi n.1 s.op s.num).length≠0 /\
  ∀(i:Nat) (b:Z6) (m:LI),s.kids[i]? = some b->(Xi n.1 s.op s.num)[i]? = some m->0<=YY n (us++m) b
def Zg5 {n:Zm} {us:LI} {op num:Int} {kids:List Z6} (h:0<=Qe n us op num kids) :
  kids.length=(Xi n.1 op num).length/\(Xi n.1 op num).length≠0/\∀(i:Nat) (b:Z6) (m:LI),kids[i]? = some b->(Xi n.1 op num)[i]? = some m->0<=YY n (us++m) b:=by
 rw [Qe] at h
 split at h
 .omega
 .rename_i hq;exact ⟨by omega,by omega,Z02 (Int.le_refl 0) h⟩
def MU {xs:LI} (h:xs.length=1):∃a,xs=[a]:=by
 match xs,h with
 | [a],_=>exact ⟨a,rfl⟩
def Dn {n:Zm} {us:LI} {s:Z4} (h:0<=Y6 n us s):B9 n us s:=by
 rw [Av] at h
 split at h
 .omega
 rename_i h0;have hinto:s.into≠0->1<=s.into/\s.into<=us.length:=by
  intro hi;have hv:U9 us s.op s.into=true:=by
   cases q:U9 us s.op s.into with
   | true=>rfl
   | false=>exact absurd (.inr (.inl (by rw [q];simp))) h0
  rw [U9,Z8 hi] at hv
  split at hv
  .cases ha:Xq us (s.into-1) with
   | none=>rw [ha] at hv;cases hv
   | some t=>have:=(KC ha).1;omega
  .cases hv
 have mk:(∀a∈s.args,0<=a/\a<us.length)->((s.op=7∨s.op=8∨(14<=s.op/\s.op<=17))->∃a,s.args=[a])->(s.op=9->0<=s.num/\s.num<n.2.length) ->
   ((s.op=7∨s.op=8)->0<=Qe n us s.op s.num s.kids)->B9 n us s:=fun a b c d=>⟨a,b,c,hinto,fun q=>Zg5<|d q⟩
 have ty:∀{tys},Wh us s.args tys=true->s.args.length=tys.length/\∀a∈s.args,0<=a/\a<us.length:=fun q=>O8 q
 split at h
 .rename_i h1
  split at h
  .rename_i h2;exact mk (by rw [List.eq_nil_of_length_eq_zero h2.1];simp) om om om
  .omega
 split at h
 .split at h
  .rename_i h1 h2;exact mk (ty h2).2 om om om
  .omega
 split at h
 .split at h
  .rename_i h1 h2;exact mk (ty h2).2 om om om
  .omega
 split at h
 .split at h
  .rename_i h1 h2;exact mk (ty h2.2).2 om om om
  .omega
 split at h
 .split at h
  .rename_i h1 h2;exact mk (ty h2).2 (fun _=>MU<|by simpa using (ty h2).1) om fun _=>h
  .omega
 split at h
 .split at h
  .rename_i h1 h2;exact mk (ty h2).2 (fun _=>MU<|by simpa using (ty h2).1) om fun _=>h
  .omega
 split at h
 .rename_i hop;rw [UM] at h
  cases hr:Xq n.2 s.num with
  | none=>rw [hr] at h;simp at h
  | some r=>
   rw [hr] at h;simp only at h;have hn:=(KC hr).1;rw [Jw] at h
   split at h
   .split at h
    .rename_i h2;exact mk (ty h2).2 om om om
    .omega
   .split at h
    .omega
    .rename_i h2;have h3:Wh us s.args (r.1.take (r.1.length-1))=true:=by
      cases q:Wh us s.args (r.1.take (r.1.length-1)) with
      | true=>rfl
      | false=>exact absurd (.inr (.inr (by rw [q];simp))) h2
     exact mk (ty h3).2 om om om
 split at h
 .rename_i hop;rcases he:s.args with _|⟨a,_|⟨b,_|⟨c,r⟩⟩⟩
  .rw [he,show KA n.1 us []=-1 from rfl] at h;omega
  .rw [he,show KA n.1 us [a]=-1 from rfl] at h;omega
  .rw [he,KA] at h
   cases ha:Xq us a with
   | none=>rw [ha] at h;simp at h
   | some t=>
    rw [ha] at h;simp only at h
    split at h
    .cases hd:n.1[(t-1).toNat]? with
     | none=>rw [hd] at h;simp at h
     | some d=>
      rw [hd] at h;simp only at h
      split at h
      .rename_i h3;have h4:=(O8 h3).2 b (by simp);have h5:=(KC ha).1;refine mk (fun x hx=>?_) om om om;rw [he] at hx;rcases YM.1 hx with rfl|hx
       .omega
       .rw [XI.1 hx];exact h4
      .omega
    .omega
  .rw [he,show KA n.1 us (a::b::c::r)=-1 from rfl] at h;omega
 split at h
 .rename_i hop;rcases he:s.args with _|⟨a,_|⟨b,r⟩⟩
  .rw [he,show QU n.1 us s.op []=-1 from rfl] at h;omega
  .rw [he,QU] at h
   cases ha:Xq us a with
   | none=>rw [ha] at h;simp at h
   | some t=>
    have h5:=(KC ha).1;refine mk (fun x hx=>?_) (fun _=>⟨a,he⟩) om om;rw [he] at hx;rw [XI.1 hx];omega
  .rw [he,show QU n.1 us s.op (a::b::r)=-1 from rfl] at h;omega
 .omega
def Ke (n:Zm) (us:LI) (s:Z4):LI:=if XV s.op=true then us++[Y6 n us s] else us
def Lp {L L':Zy} {ln:LI} {v:Int} (h:AI L ln v=some L'):L'.1=L.1/\L'.3=L.3/\L'.4=L.4/\L'.5=L.5/\L'.6=L.6/\L'.2=L.2.set v.toNat (gI L.2 v+1):=by
 rw [AI] at h
 split at h
 .cases h;exact ⟨rfl,rfl,rfl,rfl,rfl,rfl⟩
 .cases h
def IN:∀(fs:LI) (own:LI) (p:Int),(TO own p fs).length=own.length
 | [],own,p=>rfl
 | f::r,own,p=>by rw [TO,IN r];split<;>simp
def M6 {xs:LI} {q v:Int} (h:∀x∈xs,x<=q) (hq:0<=q):gI xs v<=q:=by
 by_cases h0:gI xs v=0
 .omega
 .exact h _<|M8 h0
def M9 {xs:LI} {v:Int} (h:∀x∈xs,0<=x):0<=gI xs v:=by
 by_cases h0:gI xs v=0
 .omega
 .exact h _<|M8 h0
def IP:∀(fs:LI) (own:LI) (p:Int),(∀x∈own,0<=x)->∀x∈TO own p fs,0<=x
 | [],own,p,h=>h
 | f::r,own,p,h=>by
  rw [TO];refine IP r _ _ fun x hx=>?_
  split at hx
  .rcases Js hx with hx|rfl
   .exact h x hx
   .have:=M9 (v:=p) h;omega
  .exact h x hx
def IM:∀(fs:LI) (own:LI) (p q:Int),0<=q->(∀x∈own,x<=q)->∀x∈TO own p fs,x<=q+fs.length
 | [],own,p,q,hq,h=>by intro x hx;have:=h x hx;simp;omega
 | f::r,own,p,q,hq,h=>by
  intro x hx;rw [TO] at hx
  have:=IM r _ _ (q+1) om (fun y hy=>by
   split at hy
   .rcases Js hy with hy|rfl
    .have:=h y hy;omega
    .have:=M6 (v:=p) h hq;omega
   .have:=h y hy;omega) x hx
  simp only [YR];omega
def N7 {ds:List Zh} {L L':Zy} {op v:Int} (h:Kc ds L op v=some L'):L'.1=L.1/\L'.3=L.3/\L'.4=L.4/\L'.5=L.5/\L'.6.length=L.6.length /\
  ∃L1,Td L v=some L1/\L'.2=TO L1.own (gI L.5 v) (ZZ ds<|gI L.4 v):=by
 rw [Kc] at h
 split at h
 .cases h
 .cases ht:Td L v with
  | none=>rw [ht] at h;cases h
  | some L1=>
   rw [ht] at h;simp only at h;obtain ⟨t1,t2,t3,t4,t5,t6,t7⟩:=J3 ht;cases h;refine ⟨t2,t3,t4,t5,?_,L1,U,U⟩
   split
   .rw [UO]
   .rfl
def Hc {n:Zm} {op num:Int} {ds:List Zh} {q:Int}:∀{as1:LI} {i:Nat} {L L':Zy},Xf ds L q->K0 n op num as1 i L=some L'->Xf ds L' q/\L'.1=L.1/\L'.3=L.3/\L'.4=L.4/\L'.5=L.5/\L'.6=L.6
 | [],i,L,L',hk,h=>by rw [K0] at h;cases h;exact ⟨hk,rfl,rfl,rfl,rfl,rfl⟩
 | a::r,i,L,L',hk,h=>by
  rw [K0] at h
  split at h
  .cases ht:Td L a with
   | none=>rw [ht] at h;cases h
   | some L1=>
    rw [ht] at h;obtain ⟨t1,t2,t3,t4,t5,t6,t7⟩:=J3 ht;obtain ⟨k1,k2,k3,k4,k5,k6⟩:=Hc (hk.take ht) h;exact ⟨k1,k2.trans t2,k3.trans t3,k4.trans t4,k5.trans t5,k6.trans t6⟩
  .exact Hc hk h
def Xf.le {ds:List Zh} {L:Zy} {q q':Int} (h:Xf ds L q) (hq:q<=q'):Xf ds L q':=⟨h.len,h.down,h.arm,h.nn,fun x hx=>Int.le_trans (h.bd x hx) hq⟩
def Xf.turn {ds:List Zh} {L L':Zy} {q q':Int} (hk:Xf ds L q) (h1:L'.1=L.1) (h2:L'.3=L.3) (h3:L'.4=L.4) (h4:L'.5=L.5) (h5:L'.6.length=L.6.length) (h6:L'.2.length=L.2.length)
  (h7:∀x∈L'.2,0<=x) (h8:∀x∈L'.2,x<=q'):Xf ds L' q':=by
 obtain ⟨f1,f2,f3,f4,f5⟩:=hk.len;refine ⟨⟨by rw [h6,h1];exact f1,by rw [h2,h1];exact f2,by rw [h3,h1];exact f3,by rw [h4,h1];exact f4,by rw [h5,h1];exact f5⟩,?_,?_,h7,h8⟩
 .rw [h1,h2];exact hk.down
 .rw [h1,h3,h4];exact hk.arm
def Ce {xs ys:LI} {j:Int} (h:j.toNat<xs.length):gI (xs++ys) j=gI xs j:=by
 rw [gI,gI,Dr h]
def M7 {xs:LI} {y j:Int} (h:j.toNat=xs.length):gI (xs++[y]) j=y:=by
 rw [gI,h];simp
def Xf.grow {ds:List Zh} {L:Zy} {q t o p:Int} (hk:Xf ds L q) (hp:p<L.1.length) (ho:0<=o/\o<=q):Xf ds (L.grow t o p) q:=by
 obtain ⟨f1,f2,f3,f4,f5⟩:=hk.len;refine ⟨⟨by simp [Zy.grow,f1],by simp [Zy.grow,f2],by simp [Zy.grow,f3],by simp [Zy.grow,f4],by simp [Zy.grow,f5]⟩,?_,?_,?_,?_⟩
 .intro j hj hl;simp only [Zy.grow,Yy,IC] at hl ⊢;by_cases hlt:j<L.1.length
  .rw [Ce om];exact hk.down j hj hlt
  .rw [M7 om];omega
 .intro x hx hl;simp only [Zy.grow,Yy,IC] at hl ⊢;by_cases hlt:x<L.1.length
  .rw [Ce om,Ce om];intro hc;have:=hk.arm x hx hlt hc;exact ⟨this.1,by omega⟩
  .rw [M7 om];omega
 .intro x hx;simp only [Zy.grow,Xh,XI] at hx;rcases hx with hx|rfl
  .exact hk.nn x hx
  .exact ho.1
 .intro x hx;simp only [Zy.grow,Xh,XI] at hx;rcases hx with hx|rfl
  .exact hk.bd x hx
  .exact ho.2
def Ma {xs:LI} {k:Nat} {a j:Int} (h:xs.length<=j.toNat/\j.toNat<xs.length+k):gI (xs++List.replicate k a) j=a:=by
 rw [gI,Ds h.1,List.getElem?_replicate,Zg om];rfl
def Fj {xs:LI} {x j c:Int} (h:j.toNat=x.toNat) (hl:x.toNat<xs.length):gI (xs.set x.toNat c) j=c:=by
 rw [gI,h,List.getElem?_set_self hl];rfl
def Fk {xs:LI} {x j c:Int} (h:j.toNat≠x.toNat):gI (xs.set x.toNat c) j=gI xs j:=by
 rw [gI,gI,List.getElem?_set_ne (fun q=>h q.symm)]
def Mi {p:Int}:∀(fs:LI) (L:Zy),JT L p fs=⟨L.1++fs,L.2++List.replicate fs.length 0,L.3++List.replicate fs.length p,L.4++List.replicate fs.length (-1),
  L.5++List.replicate fs.length (-1),L.6++List.replicate fs.length (-1)⟩
 | [],L=>by simp [JT]
 | t::r,L=>by rw [JT,Mi r];simp [Zy.grow,Oq]
def Z6y {ds:List Zh} {L:Zy} {q x c:Int} (hk:Xf ds L q) (hq:0<=q) (hx:0<=x/\x<L.1.length):Xf ds (AE ds L x c) q/\(AE ds L x c).vars=L.1++ZZ ds c:=by
 obtain ⟨f1,f2,f3,f4,f5⟩:=hk.len;rw [AE,Mi];refine ⟨⟨⟨by simp [f1],by simp [f2],by simp [f3],by simp [f4],by simp [f5]⟩,?_,?_,?_,?_⟩,rfl⟩
 .intro j hj hl;simp only [Yy] at hl ⊢;by_cases hlt:j<L.1.length
  .rw [Ce om];exact hk.down j hj hlt
  .rw [Ma om];omega
 .intro y hy hl;simp only [Yy] at hl ⊢;by_cases hlt:y<L.1.length
  .rw [Ce (by simp;omega),Ce (by simp;omega)];by_cases he:y.toNat=x.toNat
   .rw [Fj he om,Fj he om];intro _;exact ⟨by omega,by simp⟩
   .rw [Fk he,Fk he];intro hc;have:=hk.arm y hy hlt hc;exact ⟨this.1,by omega⟩
  .rw [Ma (by simp;omega)];omega
 .intro y hy;simp only [Xh,List.mem_replicate] at hy;rcases hy with hy|⟨_,rfl⟩
  .exact hk.nn y hy
  .exact Int.le_refl 0
 .intro y hy;simp only [Xh,List.mem_replicate] at hy;rcases hy with hy|⟨_,rfl⟩
  .exact hk.bd y hy
  .exact hq
def Ed {n:Zm} {L:Zy} {q:Int} {s:Z4} {i:Nat} {m:LI} (hk:Xf n.1 L q) (hq:0<=q) (hf:B9 n L.1 s) (hop:s.op=7∨s.op=8) (hm:(Xi n.1 s.op s.num)[i]? = some m) :
  Xf n.1 (U3 n.1 L s.op s.num s.args i) q/\(U3 n.1 L s.op s.num s.args i).vars=L.1++m:=by
 rw [U3]
 split
 .rename_i h8;obtain ⟨a,ha⟩:=hf.one om;have hb:=hf.args a (by rw [ha];simp);have hg:gI s.args 0=a:=by rw [ha];rfl
  rw [Xi,Z8 om,Tx] at hm
  cases hc:(Y1 n.1 s.num)[i]? with
  | none=>rw [hc] at hm;cases hm
  | some c=>
   rw [hc] at hm;cases hm;have hgc:gI (Y1 n.1 s.num) (i:Int)=c:=by rw [gI];simp [hc]
   rw [hg,hgc];exact Z6y hk hq hb
 .rename_i h8;rw [Xi,Zg om] at hm;have:m=[]:=by
   match i,hm with
   | 0,hm=>simpa using hm.symm
   | 1,hm=>simpa using hm.symm
   | i+2,hm=>simp at hm
  subst this;exact ⟨hk,by simp⟩
def Z50 {n:Zm}:∀{l:List Z4} {us vs:LI},XJ n l us=some vs->us.length<=vs.length
 | [],us,vs,h=>by rw [XJ] at h;cases h;exact X8 _
 | s::r,us,vs,h=>by
  rw [XJ] at h
  split at h
  .cases h
  .have:=Z50 h
   split at this
   .simp only [Yy,IC] at this;omega
   .exact this
def S8 {n:Zm} {ln:LI} {L L':Zy} {op num into q:Int} {args:LI} {ds:List Zh} (hk:Xf ds L q) (h:Tm n ln L op num into args=some L'):Xf ds L' q/\L'.1=L.1:=by
 rw [Tm] at h
 cases ht:K0 n op num args 0 L with
 | none=>rw [ht] at h;cases h
 | some L1=>
  rw [ht] at h;simp only at h;obtain ⟨k1,k2,k3,k4,k5,k6⟩:=Hc hk ht
  split at h
  .rw [JW] at h
   split at h
   .split at h
    .cases h
    .cases h;exact ⟨k1.turn rfl rfl rfl rfl (by simp) rfl k1.nn k1.bd,k2⟩
   .cases h;exact ⟨k1,k2⟩
  .cases h
def Z96 {L L':Zy} {m:Nat} (h:T1 L m=some L'):L'=L.take m/\Vm (L.2.drop m) (L.6.drop m)=true:=by
 rw [T1] at h
 split at h
 .rename_i hz;cases h;exact ⟨rfl,hz⟩
 .cases h
def O7 {r:Option Zy} {f:Zy->Option Zy} {L:Zy} (h:EB r f=some L):∃L1,r=some L1/\f L1=some L:=by
 cases r with
 | none=>cases h
 | some L1=>exact ⟨L1,rfl,h⟩
def MO (n:Zm) (hn:YZ n) (ln:LI):∀m:Nat,
  (∀(s:Z4) (L L':Zy) (q:Int),s.sz<=m->Xf n.1 L q->0<=q->0<=Y6 n L.1 s->UY n ln L s=some L'->Xf n.1 L' (q+4*s.sz)/\L'.1=Ke n L.1 s) /\
  (∀(b:Z6) (L O:Zy) (q:Int) (k:Nat),b.sz<=m->Xf n.1 L q->0<=q->0<=YY n L.1 b->k<=L.1.length->VD n ln L k b=some O ->
   (O.2.length=k/\O.6.length=k/\(∀x∈O.2,0<=x/\x<=q+4*b.sz))/\WT O/\O.1.length=k):=by
 intro m
 induction m with
 | zero=>exact ⟨fun s _ _ _ h=>by have:=s.sz_pos;omega,fun s _ _ _ _ h=>by have:=s.sz_pos;omega⟩
 | succ m ih=>
  have hs:∀(s:Z4) (L L':Zy) (q:Int),s.sz<=m+1->Xf n.1 L q->0<=q->0<=Y6 n L.1 s->UY n ln L s=some L'->Xf n.1 L' (q+4*s.sz)/\L'.1=Ke n L.1 s:=by
   intro s L L' q Xg hk hq hty h;have hp:=s.sz_pos;have hf:=Dn hty;obtain ⟨f1,f2,f3,f4,f5⟩:=hk.len;rw [O1] at h;unfold JR at h
   cases hpk:Kn n ln L s.op s.num s.into s.args (K9 n ln L s.op s.num s.args s.kids) with
   | none=>rw [hpk] at h;cases h
   | some L1=>
    rw [hpk] at h;simp only at h;have key:Xf n.1 L1 (q+4*s.sz)/\L1.vars=L.1:=by
     rw [Kn] at hpk
     split at hpk
     .obtain ⟨d1,d2,d3,d4,d5,d6⟩:=Lp hpk;refine ⟨hk.turn d1 d2 d3 d4 (by rw [d5]) (by rw [d6,UO]) ?_ ?_,d1⟩
      .rw [d6];intro x hx
       rcases Js hx with hx|rfl
       .exact hk.nn x hx
       .have:=M9 (v:=gI s.args 0) hk.nn;omega
      .rw [d6];intro x hx
       rcases Js hx with hx|rfl
       .have:=hk.bd x hx;omega
       .have:=M6 (v:=gI s.args 0) hk.bd hq;omega
     split at hpk
     .exact ⟨(hk.take hpk).le om,(J3 hpk).2.1⟩
     split at hpk
     .rename_i hop;obtain ⟨d1,d2,d3,d4,d5,Lt,ht,d6⟩:=N7 hpk;have hkt:=hk.take ht;have h3:=Uw hn.decls (gI L.4<|gI s.args 0);refine ⟨hk.turn d1 d2 d3 d4 d5 ?_ ?_ ?_,d1⟩
      .rw [d6,IN,(J3 ht).2.2.2.2.2.2,UO]
      .rw [d6];exact IP _ _ _ hkt.nn
      .rw [d6];intro x hx
       have:=IM _ _ _ q hq hkt.bd x hx;omega
     split at hpk
     .rename_i hop
      split at hpk
      .cases hpk
      .cases hks:s.kids with
       | nil=>rw [hks,K9] at hpk;cases hpk
       | cons b bs=>
        rw [hks,K9] at hpk;unfold Cj at hpk
        cases hb:VD n ln (U3 n.1 L s.op s.num s.args 0) L.1.length b with
        | none=>rw [hb] at hpk;cases hpk
        | some one=>
         rw [hb] at hpk;simp only at hpk
         split at hpk
         .cases hpk;obtain ⟨q1,q2,q3⟩:=hf.kids hop;have hks0:s.kids[0]? = some b:=by rw [hks];rfl
          obtain ⟨a0,ha0⟩:=Jo (xs:=Xi n.1 s.op s.num) (j:=0) om;obtain ⟨k1,k2⟩:=Ed hk hq hf hop ha0;have hbz:=T5 hks0;obtain ⟨⟨r1,r2,r3⟩,_⟩:=ih.2 b _ one q L.1.length om k1 hq (by rw [k2];exact q3 0 b a0 hks0 ha0) (by rw [k2];simp) hb;refine ⟨hk.turn rfl rfl rfl rfl (by simp only;omega) (by simp only;omega) (fun x hx=>(r3 x hx).1) fun x hx=>?_,rfl⟩;have:=(r3 x hx).2;omega
         .cases hpk
     .obtain ⟨k1,k2⟩:=S8 hk hpk;exact ⟨k1.le om,k2⟩
    split at h
    .rename_i hd;cases h;refine ⟨key.1.grow om ?_,by rw [Ke,Zg hd];simp [Zy.grow,key.2]⟩
     split<;>omega
    .rename_i hd;cases h;exact ⟨key.1,by rw [Ke,Z8 hd];exact key.2⟩
  refine ⟨hs,?_⟩;intro b L O q k Xg hk hq hty hkl h;have hsteps:∀(l:List Z4) (L L':Zy) (q:Int) (vs:LI),Ya l<=m->Xf n.1 L q->0<=q->XJ n l L.1=some vs->VN n ln L l=some L'->Xf n.1 L' (q+4*Ya l)/\L'.1=vs:=by
   intro l
   induction l with
   | nil=>intro L L' q vs _ hk _ h1 h2;rw [XJ] at h1;rw [VN] at h2;cases h1;cases h2;exact ⟨by simpa [Ya] using hk,rfl⟩
   | cons s r ihr=>
    intro L L' q vs hz hk hq h1 h2;rw [Ya] at hz;rw [VN] at h2;obtain ⟨L1,e1,e2⟩:=O7 h2;rw [XJ] at h1
    split at h1
    .cases h1
    .rename_i h0;obtain ⟨k1,k2⟩:=hs s L L1 q om hk hq om e1;obtain ⟨k3,k4⟩:=ihr L1 L' (q+4*s.sz) vs om k1 om (by rw [k2];exact h1) e2;exact ⟨k3.le (by rw [Ya];omega),k4⟩
  have hbz:=b.sz_eq;rw [Ag] at h;obtain ⟨L1,e1,e2⟩:=O7 h;rw [DD] at hty
  cases hv:XJ n b.steps L.1 with
  | none=>rw [hv] at hty;simp at hty
  | some vs=>
   obtain ⟨k1,k2⟩:=hsteps b.steps L L1 q vs om hk hq hv e1;have hlen:=Z50 hv;rw [UA] at e2;obtain ⟨L2,e3,e4⟩:=O7 e2;have k3:Xf n.1 L2 (q+4*Ya b.steps)/\L2.1=L1.vars:=by
    split at e3
    .exact ⟨k1.take e3,(J3 e3).2.1⟩
    .cases e3;exact ⟨k1,rfl⟩
   obtain ⟨rfl,_⟩:=Z96 e4;obtain ⟨g1,g2,g3,g4,g5⟩:=k3.1.len;have hl2:L2.1.length=vs.length:=by rw [k3.2,k2]
   refine ⟨⟨by simp [Zy.take];omega,by simp [Zy.take];omega,fun x hx=>?_⟩,⟨by simp [Zy.take];omega,by simp [Zy.take];omega,by simp [Zy.take];omega,by simp [Zy.take];omega,by simp [Zy.take];omega⟩,by simp [Zy.take];omega⟩;have hx':x∈L2.2:=Qr hx;have:=k3.1.nn x hx';have:=k3.1.bd x hx';omega
def Ih {n:Zm} (hn:YZ n) {ln:LI} {s:Z4} {L L':Zy} {q:Int} (hk:Xf n.1 L q) (hq:0<=q) (hty:0<=Y6 n L.1 s) (h:UY n ln L s=some L'):Xf n.1 L' (q+4*s.sz)/\L'.1=Ke n L.1 s:=
 (MO n hn ln s.sz).1 s L L' q (X8 _) hk hq hty h
def P6 {n:Zm} (hn:YZ n) {ln:LI} {b:Z6} {L O:Zy} {q:Int} {k:Nat} (hk:Xf n.1 L q) (hq:0<=q) (hty:0<=YY n L.1 b) (hkl:k<=L.1.length) (h:VD n ln L k b=some O) :
  O.2.length=k/\O.6.length=k/\(∀x∈O.2,0<=x/\x<=q+4*b.sz):=
 ((MO n hn ln b.sz).2 b L O q k (X8 _) hk hq hty hkl h).1
def Cs {n:Zm} (hn:YZ n) {ln:LI} {s:Z4} {L L1:Zy} {q:Int} (hk:Xf n.1 L q) (hq:0<=q) (hf:B9 n L.1 s)
  (hpk:Kn n ln L s.op s.num s.into s.args (K9 n ln L s.op s.num s.args s.kids)=some L1):Xf n.1 L1 (q+4*s.sz)/\L1.vars=L.1:=by
 have hp:=s.sz_pos;obtain ⟨f1,f2,f3,f4,f5⟩:=hk.len;rw [Kn] at hpk
 split at hpk
 .obtain ⟨d1,d2,d3,d4,d5,d6⟩:=Lp hpk;refine ⟨hk.turn d1 d2 d3 d4 (by rw [d5]) (by rw [d6,UO]) ?_ ?_,d1⟩
  .rw [d6];intro x hx
   rcases Js hx with hx|rfl
   .exact hk.nn x hx
   .have:=M9 (v:=gI s.args 0) hk.nn;omega
  .rw [d6];intro x hx
   rcases Js hx with hx|rfl
   .have:=hk.bd x hx;omega
   .have:=M6 (v:=gI s.args 0) hk.bd hq;omega
 split at hpk
 .exact ⟨(hk.take hpk).le om,(J3 hpk).2.1⟩
 split at hpk
 .rename_i hop;obtain ⟨d1,d2,d3,d4,d5,Lt,ht,d6⟩:=N7 hpk;have hkt:=hk.take ht;have h3:=Uw hn.decls (gI L.4<|gI s.args 0);refine ⟨hk.turn d1 d2 d3 d4 d5 ?_ ?_ ?_,d1⟩
  .rw [d6,IN,(J3 ht).2.2.2.2.2.2,UO]
  .rw [d6];exact IP _ _ _ hkt.nn
  .rw [d6];intro x hx
   have:=IM _ _ _ q hq hkt.bd x hx;omega
 split at hpk
 .rename_i hop
  split at hpk
  .cases hpk
  .cases hks:s.kids with
   | nil=>rw [hks,K9] at hpk;cases hpk
   | cons b bs=>
    rw [hks,K9] at hpk;unfold Cj at hpk
    cases hb:VD n ln (U3 n.1 L s.op s.num s.args 0) L.1.length b with
    | none=>rw [hb] at hpk;cases hpk
    | some one=>
     rw [hb] at hpk;simp only at hpk
     split at hpk
     .cases hpk;obtain ⟨q1,q2,q3⟩:=hf.kids hop;have hks0:s.kids[0]? = some b:=by rw [hks];rfl
      obtain ⟨a0,ha0⟩:=Jo (xs:=Xi n.1 s.op s.num) (j:=0) om;obtain ⟨k1,k2⟩:=Ed hk hq hf hop ha0;have hbz:=T5 hks0;obtain ⟨r1,r2,r3⟩:=P6 hn k1 hq (by rw [k2];exact q3 0 b a0 hks0 ha0) (by rw [k2];simp) hb;refine ⟨hk.turn rfl rfl rfl rfl (by simp only;omega) (by simp only;omega) (fun x hx=>(r3 x hx).1) fun x hx=>?_,rfl⟩;have:=(r3 x hx).2;omega
     .cases hpk
 .obtain ⟨k1,k2⟩:=S8 hk hpk;exact ⟨k1.le om,k2⟩
end Go.Abs
section
namespace Go.Abs
def IV {ds:List Zh} {op num:Int} {i:Nat} {m:LI} (h8:op=8) (h:(Xi ds op num)[i]? = some m):∃c,(Y1 ds num)[i]? = some c/\m=ZZ ds c:=by
 rw [Xi,Z8 om,Tx] at h
 cases hc:(Y1 ds num)[i]? with
 | none=>rw [hc] at h;cases h
 | some c=>rw [hc] at h;cases h;exact ⟨c,rfl,rfl⟩
def Zfz {ds:List Zh} {L:Zy} {op num x c:Int} {args:LI} {i:Nat} (h8:op=8) (hx:args[0]? = some x) (hc:(Y1 ds num)[i]? = some c):U3 ds L op num args i=AE ds L x c:=by
 have h1:gI args 0=x:=by rw [gI];simp [hx]
 have h2:gI (Y1 ds num) (i:Int)=c:=by rw [gI];simp [hc]
 rw [U3,Zg h8,h1,h2]
def Zg0 {ds:List Zh} {L:Zy} {op num:Int} {args:LI} {i:Nat} (h8:¬op=8):U3 ds L op num args i=L:=by rw [U3,Z8 h8]
def Zg4 {n:Zm} {ln:LI} {L:Zy} {op num:Int} {args:LI} {kids:List Z6} {kb:Z6} (h:kids[0]? = some kb) :
  K9 n ln L op num args kids=Cj L (VD n ln (U3 n.1 L op num args 0) L.1.length kb) fun one=>Jq n ln L op num args one (kids.drop 1) 1:=by
 cases kids with
 | nil=>simp at h
 | cons b bs=>simp at h;subst h;rw [K9];rfl
def Fu {n:Zm} {ln:LI} {L one:Zy} {op num:Int} {args:LI} {kids:List Z6} {kb:Z6} {k:Nat} (h:kids[k]? = some kb) :
  Jq n ln L op num args one (kids.drop k) k=I6 one (VD n ln (U3 n.1 L op num args k) L.1.length kb) (Jq n ln L op num args one (kids.drop (k+1)) (k+1)):=by
 rw [Yc h,Jq]
def Ai (n:Zm) (ln:LI) (L:Zy) (s:Z4):Option Zy:=
 if s.op=8/\¬Ws L ln (gI s.args 0)=true then none else K9 n ln L s.op s.num s.args s.kids
def Z80 {n:Zm} {ln:LI} {L:Zy} {s:Z4} (h8:s.op=8) (ha:¬Ws L ln (gI s.args 0)=true):Ai n ln L s=none:=by rw [Ai,Zg ⟨h8,ha⟩]
def Pm {n:Zm} {ln:LI} {L:Zy} {s:Z4} {kb:Z6} (h:¬(s.op=8/\¬Ws L ln (gI s.args 0)=true)) (hk:s.kids[0]? = some kb) :
  Ai n ln L s=Cj L (VD n ln (U3 n.1 L s.op s.num s.args 0) L.1.length kb) fun one=>Jq n ln L s.op s.num s.args one (s.kids.drop 1) 1:=by
 rw [Ai,Z8 h,Zg4 hk]
def Jn {xs:LI} {x:Int} (h:xs[0]? = some x):gI xs 0=x:=by rw [gI];simp [h]
end Go.Abs
namespace Go.Abs
def WT.grow {L:Zy} {t o p:Int} (h:WT L):WT (L.grow t o p):=by
 obtain ⟨f1,f2,f3,f4,f5⟩:=h;exact ⟨by simp [Zy.grow,f1],by simp [Zy.grow,f2],by simp [Zy.grow,f3],by simp [Zy.grow,f4],by simp [Zy.grow,f5]⟩
def WT.arm {L:Zy} {i j:Nat} {c d:Int} (h:WT L):WT ⟨L.1,L.2,L.3,L.4.set i c,L.5.set j d,L.6⟩:=by
 obtain ⟨f1,f2,f3,f4,f5⟩:=h;exact ⟨f1,f2,by simp [f3],by simp [f4],f5⟩
end Go.Abs
namespace Go.Abs
def Z01 {n:Zm} (hn:YZ n) {ln:LI} {L O:Zy} {q:Int} {s:Z4} {i:Nat} {kb:Z6} {m:LI} (hk:Xf n.1 L q) (hq:0<=q) (hf:B9 n L.1 s) (hop:s.op=7∨s.op=8)
  (_:s.kids[i]? = some kb) (harm:(Xi n.1 s.op s.num)[i]? = some m) (hbt:0<=YY n (L.1++m) kb) (h:VD n ln (U3 n.1 L s.op s.num s.args i) L.1.length kb=some O) :
  O.2.length=L.1.length/\O.6.length=L.1.length:=by
 obtain ⟨k1,k2⟩:=Ed hk hq hf hop harm;obtain ⟨r1,r2,_⟩:=P6 hn k1 hq (by rw [k2];exact hbt) (by rw [k2];simp) h;exact ⟨r1,r2⟩
def Z3i {one two:Zy} {r:Bool} (h:¬(¬one.own=two.own∨¬one.tok=two.tok)):I6 one (some two) r=r:=Zg ⟨Wp.1 fun q=>h<|.inl q,Wp.1 fun q=>h<|.inr q⟩
def Z3h {one two:Zy} {r:Bool} (h:¬one.own=two.own∨¬one.tok=two.tok):I6 one (some two) r=false:=Z8 fun q=>h.elim (fun z=>z q.1) fun z=>z q.2
def Z0u {L one:Zy} {f:Zy->Bool} (h:f one=true):Cj L (some one) f=some ⟨L.1,one.own,L.3,L.4,L.5,one.tok⟩:=Zg h
def Fy {L one:Zy} {f:Zy->Bool} (h:f one=false):Cj L (some one) f=none:=Z8 (by rw [h];simp)
end Go.Abs
namespace Go.Abs
section
variable {n:Zm} {ln:LI} {L:Zy} {s:Z4}
abbrev Ko (n:Zm) (ln:LI) (L:Zy) (s:Z4):Option Zy:=Kn n ln L s.op s.num s.into s.args (K9 n ln L s.op s.num s.args s.kids)
def Nb {x:Int} (h:s.op=14) (hx:gI s.args 0=x):Ko n ln L s=AI L ln x:=hx▸Zg h
def Nc {x:Int} (h:s.op=15) (hx:gI s.args 0=x):Ko n ln L s=Td L x:=by rw [<-hx,Ko,Kn,Z8 om,Zg h]
def Nf {x:Int} (h:s.op=16∨s.op=17) (hx:gI s.args 0=x):Ko n ln L s=Kc n.1 L s.op x:=by rw [<-hx,Ko,Kn,Z8 om,Z8 om,Zg h]
def HQ (h:s.op=7∨s.op=8):Ko n ln L s=Ai n ln L s:=by rw [Ko,Kn,Z8 om,Z8 om,Z8 om,Zg h,Ai]
def Z1t (h1:¬s.op=14) (h2:¬s.op=15) (h3:¬(s.op=16∨s.op=17)) (h4:¬(s.op=7∨s.op=8)):Ko n ln L s=Tm n ln L s.op s.num s.into s.args:=by
 rw [Ko,Kn,Z8 h1,Z8 h2,Z8 h3,Z8 h4]
def Z9u {v:Int} (h:¬Ws L ln v=true):AI L ln v=none:=Z8 h
def Z9v {v x:Int} (h:¬¬Ws L ln v=true) (hx:gI L.2 v=x):AI L ln v=some ⟨L.1,L.2.set v.toNat (x+1),L.3,L.4,L.5,L.6⟩:=by rw [AI,Zg<|Wp.1 h,hx]
def Tc (n:Zm) (ln:LI) (L:Zy) (s:Z4):UY n ln L s=JR L s.op (Y6 n L.1 s) (Ko n ln L s):=O1 n ln L s
def TW {X:Zy} {op t:Int} (h:XV op=true/\t≠0):JR L op t (some X)=some (X.grow t 1 (-1)):=by
 unfold JR;simp only [h.1,↓reduceIte];rw [Zg h.2]
def TX {X:Zy} {op t:Int} (h:¬(XV op=true/\t≠0)) (h2:XV op=true):JR L op t (some X)=some (X.grow 0 0 (-1)):=by
 have ht:t=0:=Wp.1 fun q=>h ⟨h2,q⟩
 subst ht;unfold JR;simp only [h2,↓reduceIte];rfl
def TY {X:Zy} {op t:Int} (h:¬XV op=true):JR L op t (some X)=some X:=by
 unfold JR;simp only [Z8 h]
end
end Go.Abs
namespace Go.Abs
def DE {n:Zm} {us:LI} {b:Z6} (h:0<=YY n us b):∃vs t,XJ n b.steps us=some vs/\Xq vs b.result=some t/\0<=t:=by
 rw [DD] at h
 cases hv:XJ n b.steps us with
 | none=>rw [hv] at h;simp at h
 | some vs=>
  rw [hv] at h;simp only at h
  cases ha:Xq vs b.result with
  | none=>rw [ha] at h;simp at h
  | some t=>rw [ha] at h;exact ⟨vs,t,rfl,ha,h⟩
def Ez {n:Zm} {us vs:LI} {s:Z4} {r:List Z4} (h:XJ n (s::r) us=some vs):0<=Y6 n us s/\XJ n r (Ke n us s)=some vs:=by
 rw [XJ] at h
 split at h
 .cases h
 .exact ⟨by omega,h⟩
def FX (n:Zm) (us:LI) (s:Z4):us.length<=(Ke n us s).length/\(Ke n us s).length<=us.length+s.sz:=by
 have:=s.sz_pos;rw [Ke];split
 .simp only [Yy,IC];omega
 .omega
end Go.Abs
namespace Go.Abs
def Zan {X L:Zy} {m:Nat} {r x:Int} (hg:gI L.1 r=x) (h:x≠0) (ht:Td L r=some X):UA m r L=T1 X m:=by rw [UA,hg,Zg h,ht];rfl
def Zam {L:Zy} {m:Nat} {r x:Int} (hg:gI L.1 r=x) (h:x≠0) (ht:Td L r=none):UA m r L=none:=by rw [UA,hg,Zg h,ht];rfl
def Fa {L:Zy} {m:Nat} {r x:Int} (hg:gI L.1 r=x) (h:¬x≠0):UA m r L=T1 L m:=by rw [UA,hg,Z8 h];rfl
end Go.Abs
namespace Go.Abs
def Z1r {ds:List Zh} {lent:LI}:∀{ps:LI} {i:Nat} {L:Zy},Xf ds L 1->Xf ds (KZ lent ps i L) 1/\(KZ lent ps i L).vars=L.1++ps
 | [],i,L,hk=>⟨hk,by simp [KZ]⟩
 | t::r,i,L,hk=>by
  rw [KZ];obtain ⟨k1,k2⟩:=Z1r (lent:=lent) (ps:=r) (i:=i+1) (hk.grow (t:=t) (o:=if t≠0/\¬(i:Int)∈lent then 1 else 0) (p:=-1) om<|by split<;>omega);exact ⟨k1,by rw [k2];simp [Zy.grow]⟩
def N0 (ds:List Zh) (r:Y9):Xf ds (T8 r) 1/\(T8 r).vars=r.1:=by
 have h:Xf ds (⟨[],[],[],[],[],[]⟩:Zy) 1:=⟨⟨rfl,rfl,rfl,rfl,rfl⟩,fun j h1 h2=>by simp at h2;omega,fun j h1 h2=>by simp at h2;omega,by simp,by simp⟩;obtain ⟨k1,k2⟩:=Z1r (lent:=r.2) (ps:=r.1) (i:=0) h;exact ⟨k1,by rw [T8,k2];rfl⟩
def Z94 {L:Zy} (h:T1 L 0=none):(T1 L 0).isSome=false:=by rw [h];rfl
def Z95 {L L':Zy} (h:T1 L 0=some L'):(T1 L 0).isSome=true:=by rw [h];rfl
def Z7n {n:Zm} (hn:YZ n) {ln:LI} {b:Z6} {L O:Zy} {q:Int} {k:Nat} (hk:Xf n.1 L q) (hq:0<=q) (hty:0<=YY n L.1 b) (hkl:k<=L.1.length) (h:VD n ln L k b=some O) :
  WT O/\O.1.length=k:=
 ((MO n hn ln b.sz).2 b L O q k (X8 _) hk hq hty hkl h).2
end Go.Abs
namespace Go.Abs
def Nx {n:Zm}:∀{l:List Y9},QN n l=true->∀r∈l,¬VG r.4<0/\YY n r.1 r.4=r.result
 | [],_,r,h=>by simp at h
 | a::l,h,r,hr=>by
  rw [QN] at h
  split at h
  .rename_i h1;rcases YM.1 hr with rfl|hr
   .exact h1
   .exact Nx h r hr
  .cases h
def EE {n:Zm} (hz:WF n) (h:Wo n=true):YZ n/\∀r∈n.2,0<=YY n r.1 r.4:=by
 simp only [Wo,We] at h;refine ⟨N2 hz h.1,fun r hr=>?_⟩;rw [(Nx h.2 r hr).2];have h1:=h.1;simp only [VV,J6,We] at h1;have:=NO h1.2.1.2.2.1 (UN r) (XG.2 ⟨r,hr,rfl⟩);simp only [A0,We,decide_eq_true_eq,UN] at this;exact (of_decide_eq_true this.2.2).1
end Go.Abs
end
section
namespace Go.Abs
def LG {xs:LI} (h:Z7 xs=[]):xs=[]:=by cases xs with|nil=>rfl|cons x r=>cases h
def Za0 {xs:List Yo} (h:XW xs=[]):xs=[]:=by cases xs with|nil=>rfl|cons x r=>cases h
def Za3 {xs:List Zh} (h:YF xs=[]):xs=[]:=by cases xs with|nil=>rfl|cons x r=>cases h
def Zah {xs:List Z4} (h:Zv xs=[]):xs=[]:=by cases xs with|nil=>rfl|cons x r=>rw [Zv] at h;cases h
def AQ (i:Int):LI->Nat->Int
 | [],_=>-1
 | x::r,k=>if i=x then (k:Int) else AQ i r (k+1)
def Hn (xs:LI) (i:Int):Int:=AQ i xs 0
def Sv (i:Int):∀(xs:LI) (k:Nat),(0<=AQ i xs k↔i∈xs)/\-1<=AQ i xs k
 | [],k=>by simp [AQ]
 | x::r,k=>by
  rw [AQ];obtain ⟨h1,h2⟩:=Sv i r (k+1)
  split
  .rename_i h;subst h;simp<;>omega
  .rename_i h;simp [h1,h,h2]
def Zf3 (xs:LI) (i:Int):decide (Hn xs i>=0)=decide (i∈xs):=by
 rw [decide_eq_decide];exact (Sv i xs 0).1
end Go.Abs
namespace Go.Abs
def RJ (xss:List LI) (k:Nat):(xss.take k).flatten.length<=xss.flatten.length:=by
 conv=>rhs;rw [<-Ty k xss,List.flatten_append,Yy]
 omega
end Go.Abs
namespace Go.Abs
def M1 {xss:List LI} {k:Nat} {x:LI} (h:xss[k]? = some x):(xss.take (k+1)).flatten=(xss.take k).flatten++x:=by rw [WO h,List.flatten_append];simp
def RI {xss:List LI} {k:Nat} {x:LI} (h:xss[k]? = some x):(xss.take k).flatten.length+x.length<=xss.flatten.length:=by
 have:=RJ xss (k+1);rw [M1 h,Yy] at this;exact this
end Go.Abs
end
section
namespace Go.Abs
def Z8o {c:Int} {ds:List Zh} {k:Nat} {d:Zh} {r:Int × LI} (h:ds[k]? = some d) (hn:¬(c-YX (ds.take k)>=0/\c-YX (ds.take k)<d.cons.length))
  (hr:TP c (ds.drop k) k (YX<|ds.take k)=r):TP c (ds.drop (k+1)) (k+1) (YX<|ds.take (k+1))=r:=by
 rw [Yc h,TP,Z8 om] at hr;rw [WO h,EX,<-hr];rfl
end Go.Abs
namespace Go.Abs
def Z8q {c:Int} {ds:List Zh} {k:Nat} {d:Zh} {x:Yo} (h:ds[k]? = some d) (hn:c-YX (ds.take k)>=0/\c-YX (ds.take k)<d.cons.length)
  (hx:d.cons[(c-YX (ds.take k)).toNat]? = some x):TP c (ds.drop k) k (YX<|ds.take k)=((k:Int)+1,x.fields):=by
 rw [Yc h,TP,Zg om,hx];rfl
def BY (c:Int) (z:Nat) (v:Int):Prop:=v=c-z∨(c<0/\c-z < -9223372036854775808/\v=c-z+18446744073709551616)
def Z76 {c:Int} {z l:Nat} {v:Int} (h:BY c z v) (hz:z<=100) (hl:l<=3) (hc:-9223372036854775808<=c/\c<=9223372036854775807):BY c (z+l) (Dq (v-l)):=by
 unfold BY at *;rw [Dq,IntKind.wrap_i64];omega
def Z8p {c v:Int} {ds:List Zh} {k:Nat} {d:Zh} {r:Int × LI} (h:ds[k]? = some d) (ha:BY c (YX<|ds.take k) v) (hn:¬(v>=0/\v<d.cons.length))
  (hr:TP c (ds.drop k) k (YX<|ds.take k)=r):TP c (ds.drop (k+1)) (k+1) (YX<|ds.take (k+1))=r:=Z8o h (by unfold BY at ha;omega) hr
def Z8r {c v:Int} {ds:List Zh} {k:Nat} {d:Zh} {x:Yo} (h:ds[k]? = some d) (ha:BY c (YX<|ds.take k) v) (hz:YX (ds.take k)<=100) (hl:d.cons.length<=3) (hc:-9223372036854775808<=c)
  (hn:v>=0/\v<d.cons.length) (hx:d.cons[v.toNat]? = some x):TP c (ds.drop k) k (YX<|ds.take k)=((k:Int)+1,x.fields):=by
 have:v=c-(YX (ds.take k):Int):=by unfold BY at ha;omega
 subst this;exact Z8q h hn hx
def Ui (ds:List Zh) (t:Int):Zh:=if Wd ds t=true then (ds[(t-1).toNat]?).getD ⟨0,0,[]⟩ else ⟨0,0,[]⟩
end Go.Abs
namespace Go.Abs
abbrev R5 (ds:List Zh) (d:Zh):Prop:=
 (((¬(0<=d.frm/\d.frm<=ds.length))∨(¬(0<=d.to_/\d.to_<=ds.length)))∨((d.cons.length:Int)>3))∨(((d.cons.length:Int)>0)/\((d.frm≠0)∨(d.to_≠0)))
def Z9n {ds:List Zh} {d:Zh} {i:Nat} (h:R5 ds d):Tj ds d i=false:=by
 rw [Tj]
 split
 .rw [Z8];rintro ⟨h1,h2,h3⟩
  rcases h with ((h|h)|h)|h<;>omega
 .split
  .rfl
  .rcases h with ((h|h)|h)|h
   .rw [decide_eq_false h];rfl
   .rw [decide_eq_false h,Bool.and_false]
   .omega
   .omega
def Z9o {ds:List Zh} {d:Zh} {i:Nat} (hl:0<d.cons.length) (h:Ql ds.length d.cons=false):Tj ds d i=false:=by
 rw [Tj,Zg hl];split
 .exact h
 .rfl
def Z9p {ds:List Zh} {d:Zh} {i:Nat} (hl:d.cons.length=0) (h:KL d (ds.take i)=true):Tj ds d i=false:=by
 rw [Tj,Z8 om,Zg h]
def Z9q {ds:List Zh} {d:Zh} {i:Nat} (h1:¬R5 ds d) (h2:Ql ds.length d.cons=true) (h3:d.cons.length=0->KL d (ds.take i)=false):Tj ds d i=true:=by
 rw [Tj];have ha:0<=d.frm/\d.frm<=ds.length:=Wp.1 fun q=>h1<|.inl<|.inl<|.inl q
 have hb:0<=d.to_/\d.to_<=ds.length:=Wp.1 fun q=>h1<|.inl<|.inl<|.inr q
 have hc:¬(d.cons.length:Int)>3:=fun q=>h1<|.inl<|.inr q
 split
 .rename_i hl;have hd:¬(d.frm≠0∨d.to_≠0):=fun q=>h1<|.inr ⟨by omega,q⟩
  rw [Zg ⟨by omega,by omega,by omega⟩];exact h2
 .rw [Z8 (by rw [h3 om];simp),decide_eq_true ha,decide_eq_true hb];rfl
def Oe {ds:List Zh} {k:Nat} {d:Zh} (h:ds[k]? = some d) (hA:Tj ds d k=false) (c:TQ ds (ds.drop k) k=TQ ds ds 0):false=Vf ds:=by
 rw [Vf,<-c,Yc h,TQ,EZ h,hA,Z8 (by simp),Bool.and_false]
def Znv {ds:List Zh} {k:Nat} {d:Zh} {r:Bool} (h:ds[k]? = some d) (hA:Tj ds d k=true) (c:TQ ds (ds.drop k) k=r):TQ ds (ds.drop (k+1)) (k+1)=r:=by
 rw [Yc h,TQ,EZ h,hA,Zg rfl] at c;exact c
def Znu {ds:List Zh} {k:Nat} (hl:ds.length<=4) (hk:ds.length<=k) (c:TQ ds (ds.drop k) k=TQ ds ds 0):true=Vf ds:=by
 rw [Vf,<-c,Xk hk,decide_eq_true hl];rfl
def Z8s {m:Nat} {c:Yo} (h:((c.fields.length:Int)>3)∨(¬(WB m c.fields=true))):Aj m c=false:=by
 rw [Aj];rcases h with h|h
 .rw [decide_eq_false om];rfl
 .rw [JE.2 h,Bool.and_false]
def Z8t {m:Nat} {c:Yo} (h:¬(((c.fields.length:Int)>3)∨(¬(WB m c.fields=true)))):Aj m c=true:=by
 rw [Aj,Wp.1 fun q=>h<|.inr q,decide_eq_true (by have:¬(c.fields.length:Int)>3:=fun q=>h<|.inl q;omega)];rfl
end Go.Abs
end
section
namespace Go.Abs
structure VC where
 pms:LI
 lnt:LI
 res:Int
abbrev Z0b (f:VC):List AV:=[Z5 f.pms,Z5 f.lnt,.i f.res]
abbrev Gj (f:VC):AV:=.agg (Z0b f)
def TU (fs:List VC):List AV:=fs.map Gj
abbrev Ei (xs:List VC):AV:=.sl (TU xs) none
abbrev HJ (xs:List VC) (v:Value):AV:=.sl (TU xs) (some v)
def CY {xs:List VC} {j:Nat} {x:VC} (h:xs[j]? = some x):(TU xs)[j]? = some (Gj x):=by simp [TU,h]
@[simp] theorem F9 (xs:List VC):(TU xs).length=xs.length:=by simp [TU]
def Rf (xs:List VC):∀y∈TU xs,y.leaves.length=3:=by intro y hy;simp only [TU,XG] at hy;obtain ⟨x,_,rfl⟩:=hy;rfl
def Zaf (xs:List VC):(Zc (TU xs)).all AV.one=true:=JS fun y hy=>by simp only [TU,XG] at hy;obtain ⟨x,_,rfl⟩:=hy;rfl
def Wb (r:Y9):VC:=⟨r.1,r.2,r.result⟩
def AU (m:Nat) (f:VC):Bool:=A0 m ⟨f.pms,f.res⟩&&Ab f.pms f.lnt
def Jy (m:Nat):List VC->Bool
 | []=>true
 | f::r=>if AU m f=true then Jy m r else false
def LU:List VC->Bool
 | []=>false
 | f::_=>decide (f.pms.length=0)&&decide (f.res=0)
def Ac (ds:List Zh) (fs:List VC):Bool:=Vf ds&&(decide (1<=fs.length/\fs.length<=4)&&(LU fs&&Jy ds.length fs))
def Rz {fs:List VC} {x:VC} (h:fs[0]? = some x):LU fs=(decide (x.pms.length=0)&&decide (x.res=0)):=by
 cases fs with
 | nil=>simp at h
 | cons f r=>simp at h;subst h;rfl
def Z3u (m:Nat):∀rs:List Y9,Jy m (rs.map Wb)=(A1 m (rs.map UN)&&Kb rs)
 | []=>rfl
 | r::rs=>by
  simp only [Uh,Jy,A1,Kb,AU,Z3u m rs];simp only [Wb,UN];by_cases h1:A0 m { params:=r.1,result:=r.result }=true<;>by_cases h2:Ab r.1 r.2=true<;>simp [h1,h2]
def Z10 (n:Zm):VV n=(decide (n.2.length<=4)&&Ac n.1 (n.2.map Wb)):=by
 have hf:LU (n.2.map Wb)=H0 (n.2.map UN):=by
  cases n.2 with
  | nil=>rfl
  | cons r rs=>rfl
 rw [VV,Ac,J6,Z3u,hf];simp only [Qq];cases decide (n.2.length<=4)<;>cases Vf n.1<;>cases decide (1<=n.2.length/\n.2.length<=4)<;>cases A1 n.1.length (n.2.map UN) <;>
  cases H0 (n.2.map UN)<;>cases Kb n.2<;>rfl
def I8 {rs:List Y9} {j:Nat} {x:VC} (h:(rs.map Wb)[j]? = some x):∃r,rs[j]? = some r/\x=Wb r:=by
 rw [Tx] at h
 cases hr:rs[j]? with
 | none=>rw [hr] at h;cases h
 | some r=>rw [hr] at h;cases h;exact ⟨r,rfl,rfl⟩
def Z0o {ps ls:LI} {j:Nat} {v:Int} {r:Bool} (h:ls[j]? = some v) (hg:(0<=v/\v<=(ps.length:Int)-1)/\ps[v.toNat]?≠some 0/\(∀p,(if j=0 then none else ls[j-1]?)=some p->p<v))
  (hr:Kl ps (ls.drop j) (if j=0 then none else ls[j-1]?)=r):Kl ps (ls.drop (j+1)) (if j+1=0 then none else ls[j+1-1]?)=r:=by
 rw [Yc h,MR hg] at hr;rw [Z8 om,show j+1-1=j from rfl,h];exact hr
def MS {ps ls:LI} {j:Nat} {v:Int} {r:Bool} (h:ls[j]? = some v) (hg:¬((0<=v/\v<=(ps.length:Int)-1)/\ps[v.toNat]?≠some 0/\(∀p,(if j=0 then none else ls[j-1]?)=some p->p<v)))
  (hr:Kl ps (ls.drop j) (if j=0 then none else ls[j-1]?)=r):r=false:=by
 rw [Yc h,HD hg] at hr;exact hr.symm
def I9 {m:Nat} {fs:List VC} {k:Nat} {f:VC} {r:Bool} (h:fs[k]? = some f) (hb:AU m f=false) (hr:Jy m (fs.drop k)=r):r=false:=by
 rw [Yc h,Jy,hb,Z8 (by simp)] at hr;exact hr.symm
def Zkw {m:Nat} {fs:List VC} {k:Nat} {f:VC} {r:Bool} (h:fs[k]? = some f) (hb:AU m f=true) (hr:Jy m (fs.drop k)=r):Jy m (fs.drop (k+1))=r:=by
 rw [Yc h,Jy,Zg hb] at hr;exact hr
end Go.Abs
namespace Go.Abs
section
variable {ds:List Zh} {fs:List VC} {x:VC}
def Zo1 (h:((¬(Vf ds=true))∨((fs.length:Int)<1))∨((fs.length:Int)>4)):false=Ac ds fs:=by
 rw [Ac];rcases h with (h|h)|h
 .rw [JE.2 h];rfl
 .rw [decide_eq_false (p:=1<=fs.length/\fs.length<=4) om];simp
 .rw [decide_eq_false (p:=1<=fs.length/\fs.length<=4) om];simp
def Z5k (hx:fs[0]? = some x) (h:((x.pms.length:Int)>0)∨x.res≠0):false=Ac ds fs:=by
 rw [Ac,Rz hx];rcases h with h|h
 .rw [decide_eq_false (p:=x.pms.length=0) om];simp
 .rw [decide_eq_false (p:=x.res=0) h];simp
def Iq (h:Jy ds.length fs=false):false=Ac ds fs:=by rw [Ac,h];simp
def Zo2 (h:¬(((¬(Vf ds=true))∨((fs.length:Int)<1))∨((fs.length:Int)>4))) (hx:fs[0]? = some x) (h1:¬((x.pms.length:Int)>0)) (h2:¬x.res≠0) (h3:Jy ds.length fs=true) :
  true=Ac ds fs:=by
 have hv:Vf ds=true:=Wp.1 fun q=>h<|.inl<|.inl q
 have ha:¬(fs.length:Int)<1:=fun q=>h<|.inl<|.inr q
 have hb:¬(fs.length:Int)>4:=fun q=>h<|.inr q
 rw [Ac,Rz hx,hv,h3,decide_eq_true (p:=1<=fs.length/\fs.length<=4) om,decide_eq_true (p:=x.pms.length=0) om,decide_eq_true (p:=x.res=0)<|Wp.1 h2];rfl
abbrev Z3r (m:Nat) (x:VC):Prop:=(((x.pms.length:Int)>3)∨(¬(WB m x.pms=true)))∨(¬(0<=x.res/\x.res<=m))
def Zkd {m:Nat} (h:Z3r m x):AU m x=false:=by
 rw [AU,A0];rcases h with (h|h)|h
 .rw [decide_eq_false (p:=x.pms.length<=3) om];simp
 .rw [JE.2 h];simp
 .rw [decide_eq_false h];simp
def NG {m:Nat} (h:Ab x.pms x.lnt=false):AU m x=false:=by rw [AU,h,Bool.and_false]
def Zke {m:Nat} (h:¬Z3r m x) (hl:Ab x.pms x.lnt=true):AU m x=true:=by
 have h1:¬(x.pms.length:Int)>3:=fun q=>h<|.inl<|.inl q
 rw [AU,A0,hl,decide_eq_true (p:=x.pms.length<=3) om,Wp.1 fun q=>h<|.inl<|.inr q,decide_eq_true (Wp.1 fun q=>h<|.inr q)];rfl
end
end Go.Abs
namespace Go.Abs
abbrev YV (n:Zm):AV:=Ei (n.2.map Wb)
end Go.Abs
end
section
namespace Go.Abs
def WC (us:LI):LI->Option LI
 | []=>some []
 | a::r=>match Xq us a with
  | none=>none
  | some t=>match WC us r with
   | none=>none
   | some ts=>some (t::ts)
def O9 {us:LI}:∀{args ts:LI},WC us args=some ts->∀tys,Wh us args tys=true↔ts=tys
 | [],ts,h,tys=>by
  rw [WC] at h;cases h
  cases tys with
  | nil=>simp [Wh,TJ]
  | cons t r=>simp [Wh,TJ]
 | a::r,ts,h,tys=>by
  rw [WC] at h
  cases ha:Xq us a with
  | none=>rw [ha] at h;cases h
  | some t=>
   rw [ha] at h
   cases hr:WC us r with
   | none=>rw [hr] at h;cases h
   | some tr=>
    rw [hr] at h;cases h
    cases tys with
    | nil=>simp [Wh,TJ]
    | cons t2 r2=>
     rw [Wh,TJ,ha];have:=O9 hr r2;rw [Wh] at this;by_cases he:t=t2
     .subst he;simp [this]
     .rw [Z8 (fun q=>he<|Qs q)];simp [he]
def OJ {us:LI}:∀{args ts:LI},WC us args=some ts->ts.length=args.length
 | [],ts,h=>by rw [WC] at h;cases h;rfl
 | a::r,ts,h=>by
  rw [WC] at h
  cases ha:Xq us a with
  | none=>rw [ha] at h;cases h
  | some t=>
   rw [ha] at h
   cases hr:WC us r with
   | none=>rw [hr] at h;cases h
   | some tr=>rw [hr] at h;cases h;simp [OJ hr]
def OK {us:LI} {b t:Int}:∀{xs ts:LI},WC us xs=some ts->Xq us b=some t->WC us (xs++[b])=some (ts++[t])
 | [],ts,h,hb=>by rw [WC] at h;cases h;simp [WC,hb]
 | a::r,ts,h,hb=>by
  rw [WC] at h
  cases ha:Xq us a with
  | none=>rw [ha] at h;cases h
  | some u=>
   rw [ha] at h
   cases hr:WC us r with
   | none=>rw [hr] at h;cases h
   | some tr=>
    rw [hr] at h;cases h
    rw [QQ,WC,ha,OK hr hb];rfl
def EP (n:Zm) (num:Int):LI->Option Int
 | [a,b]=>if Wd n.1 a=true/\b=(Ui n.1 a).frm/\num=0 then some (Ui n.1 a).to_ else none
 | _=>none
def XT (n:Zm) (op num:Int) (ts:LI):Option Int:=
 if op=0 then (if (-999<=num/\num<=999)/\ts.length=0 then some 0 else none)
 else if op=1∨op=2∨op=3∨op=4 then (if num=0/\ts=[0,0] then some 0 else none)
 else if op=5 then (if num=0/\ts=[0] then some 0 else none)
 else if op=11 then EP n num ts
 else if op=6 then (if 0<=Wx n.1 num/\ts=ZZ n.1 num then some (Wx n.1 num) else none)
 else if op=9 then (match Xq n.2 num with
  | none=>none
  | some r=>if ts=r.1 then some r.result else none)
 else if op=10 then (match Xq n.2 num with
  | none=>none
  | some r=>if r.1.length≠0/\0<=JM n.1 r.1 r.result/\ts=r.1.take (r.1.length-1) then some (JM n.1 r.1 r.result) else none)
 else none
def Gl {n:Zm} {num:Int} {ts:LI} (h:ts.length≠2):EP n num ts=none:=by
 match ts,h with
 | [],_=>rfl
 | [_],_=>rfl
 | [_,_],h=>simp at h
 | _::_::_::_,_=>rfl
structure Jb (n:Zm):Prop where
 result:∀r∈n.2,0<=r.result
 params:∀r∈n.2,∀p∈r.1,0<=p
 decl:∀d∈n.1,d.cons.length=0->0<=d.frm/\0<=d.to_
 fields:∀c,∀f∈ZZ n.1 c,0<=f
abbrev SA (us:LI) (s:Z4):Prop:=s.into≠0/\(((s.op≠6∨s.into<1)∨s.into>us.length)∨gI us (s.into-1)=0)
def Zfp {us:LI} {op into:Int} (hnn:∀t∈us,0<=t) (h:¬(into≠0/\(((op≠6∨into<1)∨into>us.length)∨gI us (into-1)=0))):U9 us op into=true:=by
 rw [U9]
 split
 .rfl
 .rename_i h0;have h1:¬(((op≠6∨into<1)∨into>us.length)∨gI us (into-1)=0):=fun q=>h ⟨h0,q⟩
  have h2:op=6:=Wp.1 fun q=>h1<|.inl<|.inl<|.inl q
  have h3:¬into<1:=fun q=>h1<|.inl<|.inl<|.inr q
  have h4:¬into>us.length:=fun q=>h1<|.inl<|.inr q
  have h5:¬gI us (into-1)=0:=fun q=>h1<|.inr q
  obtain ⟨t,ht⟩:=Jo (xs:=us) (j:=(into-1).toNat) om;rw [Zg h2,Qx om ht];rw [WH ht] at h5;have:=hnn t (Y0 ht);simp;omega
def Zfo {us:LI} {op into:Int} (h:into≠0/\(((op≠6∨into<1)∨into>us.length)∨gI us (into-1)=0)):U9 us op into=false:=by
 obtain ⟨h0,h⟩:=h;rw [U9,Z8 h0]
 split
 .rename_i h6
  cases ha:Xq us (into-1) with
  | none=>rfl
  | some t=>
   obtain ⟨a1,a2⟩:=KC ha;rcases h with ((h|h)|h)|h
   .exact absurd h6 h
   .omega
   .omega
   .rw [WH a2] at h;subst h;rfl
 .rfl
def Zn4 {n:Zm} {us:LI} {s:Z4} (h:SA us s):Y6 n us s=-1:=by
 rw [Av,Zg<|.inr<|.inl (by rw [Zfo h];simp)]
end Go.Abs
namespace Go.Abs
def Zfq {α:Type} {c:Prop} [Decidable c] {v:α}:(if c then some v else none).isSome=decide c:=by split<;>simp_all
def Zkx {n:Zm} (hty:Jb n) {op num:Int} {ts:LI} {x:Int} (h:XT n op num ts=some x):0<=x:=by
 unfold XT at h
 split at h
 .split at h<;>cases h;exact Int.le_refl 0
 split at h
 .split at h<;>cases h;exact Int.le_refl 0
 split at h
 .split at h<;>cases h;exact Int.le_refl 0
 split at h
 .rcases ts with _|⟨a,_|⟨b,_|⟨c,r⟩⟩⟩
  .cases h
  .cases h
  .rw [EP] at h
   split at h
   .rename_i hq;cases h;rw [Ui,Zg hq.1];have hA:=hq.1;simp only [Wd,We,decide_eq_true_eq] at hA
    cases hd:n.1[(a-1).toNat]? with
    | none=>rw [hd] at hA;simp at hA
    | some d=>
     rw [hd] at hA;exact (hty.decl d (Y0 hd)<|by simpa using hA.2).2
   .cases h
  .cases h
 split at h
 .split at h
  .rename_i hq;cases h;exact hq.1
  .cases h
 split at h
 .cases ha:Xq n.2 num with
  | none=>rw [ha] at h;cases h
  | some r=>
   rw [ha] at h;simp only at h
   split at h
   .cases h;exact hty.result r (Y0 (KC ha).2)
   .cases h
 split at h
 .cases ha:Xq n.2 num with
  | none=>rw [ha] at h;cases h
  | some r=>
   rw [ha] at h;simp only at h
   split at h
   .rename_i hq;cases h;exact hq.2.1
   .cases h
 .cases h
def A6 (n:Zm) (us:LI) (s:Z4) (ts:LI):Int:=
 if Yv s.op=true then (match ts with
  | [t]=>if t≠0/\s.num=0/\s.kids.length=0/\¬((s.op=16∨s.op=17)/\Wd n.1 t=true) then 0 else -1
  | _=>-1)
 else if s.op=7 then (if ts=[0]/\s.num=0 then Qe n us s.op s.num s.kids else -1)
 else if s.op=8 then (if ts=[s.num] then Qe n us s.op s.num s.kids else -1)
 else if 0<s.kids.length∨(s.op=10/\0<(((Xq n.2 s.num).map (·.lent)).getD []).length) then -1
 else (XT n s.op s.num ts).getD (-1)
def SF {p q:Prop} [Decidable p] [Decidable q] {a b:Int} (h:p↔q):ite p a b=ite q a b:=by
 by_cases hp:p
 .rw [Zg hp,Zg<|h.1 hp]
 .rw [Z8 hp,Z8 (fun z=>hp<|h.2 z)]
def CD {n:Zm} {us:LI} {s:Z4} {ts:LI} (hnn:∀t∈us,0<=t) (hts:WC us s.args=some ts) (hi:¬SA us s):Y6 n us s=A6 n us s ts:=by
 have hv:=Zfp hnn hi;have ht:=O9 hts;have hl:=OJ hts;have hfirst:((s.num≠0/\¬VT s.op=true)∨¬U9 us s.op s.into=true∨(0<s.kids.length/\s.op≠7/\s.op≠8))↔((s.num≠0/\¬VT s.op=true)∨(0<s.kids.length/\s.op≠7/\s.op≠8)):=by
  rw [hv];simp
 rw [Av,SF hfirst];unfold A6;by_cases hc:Yv s.op=true
 .have hop:14<=s.op/\s.op<=17:=by simpa [Yv] using hc
  have hnum:VT s.op=false:=by simp [VT];omega
  rw [Zg hc];by_cases hb:s.num≠0∨0<s.kids.length
  .rw [Zg (by rcases hb with hb|hb;exact .inl ⟨hb,by rw [hnum];simp⟩;exact .inr ⟨hb,by omega,by omega⟩)]
   split
   .rw [Z8];rintro ⟨h1,h2,h3,h4⟩;omega
   .rfl
  .rw [Z8 (by rintro (⟨h1,_⟩|⟨h1,_⟩)<;>exact hb<|by first|exact .inl h1|exact .inr h1),Z8 om,Z8 om,Z8 om,Z8 om,Z8 om,Z8 om,Z8 om,Z8 om,Zg om];have Zb:s.num=0:=Wp.1 fun q=>hb<|.inl q
   have ZE:s.kids.length=0:=by have:¬0<s.kids.length:=fun q=>hb<|.inr q;omega
   rcases he:s.args with _|⟨a,_|⟨b,r⟩⟩
   .rw [he] at hts;rw [WC] at hts;cases hts;rfl
   .rw [he] at hts;rw [WC] at hts
    cases ha:Xq us a with
    | none=>rw [ha] at hts;cases hts
    | some t=>
     rw [ha,WC] at hts;cases hts
     rw [QU,ha];simp only;by_cases ht0:t=0
     .rw [Zg ht0,Z8 (fun q=>q.1 ht0)]
     .rw [Z8 ht0];by_cases hA:Wd n.1 t=true
      .by_cases h16:s.op=16∨s.op=17
       .rw [Zg ⟨by omega,hA⟩,Z8 (fun q=>q.2.2.2 ⟨h16,hA⟩)]
       .rw [Z8 (by rintro ⟨q,_⟩;omega),Zg ⟨ht0,Zb,ZE,fun q=>h16 q.1⟩]
      .rw [Z8 fun q=>hA q.2,Zg ⟨ht0,Zb,ZE,fun q=>hA q.2⟩]
   .rw [he] at hl;rw [show QU n.1 us s.op (a::b::r)=-1 from rfl]
    match ts,hl with
    | [t],hl=>simp at hl
    | [],hl=>simp at hl
    | _::_::_,_=>rfl
 have hop:¬(14<=s.op/\s.op<=17):=by simpa [Yv] using hc
 by_cases h7:s.op=7
 .have hnum:VT s.op=false:=by simp [VT];omega
  conv=>rhs;rw [Z8 hc,Zg h7]
  by_cases hb:s.num=0
  .rw [Z8 fun q=>q.elim (fun z=>z.1 hb) fun z=>z.2.1 h7,Z8 om,Z8 om,Z8 om,Z8 om,Zg h7];by_cases hq:ts=[0]
   .rw [Zg ((ht _).2 hq),Zg ⟨hq,hb⟩]
   .rw [Z8 fun q=>hq<|(ht _).1 q,Z8 (fun q=>hq q.1)]
  .rw [Zg (.inl ⟨hb,by rw [hnum];simp⟩),Z8 (fun q=>hb q.2)]
 by_cases h8:s.op=8
 .have hnum:VT s.op=true:=by simp [VT,h8]
  conv=>rhs;rw [Z8 hc,Z8 h7,Zg h8]
  rw [Z8 fun q=>q.elim (fun z=>z.2 hnum) fun z=>z.2.2 h8,Z8 om,Z8 om,Z8 om,Z8 om,Z8 h7,Zg h8];by_cases hq:ts=[s.num]
  .rw [Zg ((ht _).2 hq),Zg hq]
  .rw [Z8 fun q=>hq<|(ht _).1 q,Z8 hq]
 conv=>rhs;rw [Z8 hc,Z8 h7,Z8 h8]
 by_cases hk:0<s.kids.length
 .rw [Zg (.inr ⟨hk,h7,h8⟩),Zg<|.inl hk]
 by_cases hlent:s.op=10/\0<(((Xq n.2 s.num).map (·.lent)).getD []).length
 .conv=>rhs;rw [Zg (.inr hlent)]
  have hnum:VT s.op=true:=by simp [VT,hlent.1]
  have h10:=hlent.1;rw [Z8 fun q=>q.elim (fun z=>z.2 hnum) fun z=>hk z.1,Z8 om,Z8 om,Z8 om,Z8 om,Z8 h7,Z8 h8,Zg<|.inr h10,UM]
  cases ha:Xq n.2 s.num with
  | none=>rfl
  | some r=>
   have h2:=hlent.2;rw [ha] at h2;simp only [CM,Option.getD_some] at h2;simp only;rw [Jw,Z8 om,Zg<|.inr<|.inl h2]
 conv=>rhs;rw [Z8 (fun q=>Or.elim q hk hlent)]
 have sf:∀{X:Option Int},XT n s.op s.num ts=X->Y6 n us s=X.getD (-1)->Y6 n us s=(XT n s.op s.num ts).getD (-1):=fun a b=>by rw [a];exact b
 have hL:=Av n us s;rw [SF hfirst] at hL;rw [<-hL];by_cases hnb:s.num≠0/\¬VT s.op=true
 .have hnn2:¬(s.op=0∨(s.op=6∨(s.op=8∨(s.op=9∨s.op=10)))):=fun q=>hnb.2<|by simpa [VT] using q
  refine sf (X:=none) ?_ (by rw [hL,Zg<|.inl hnb];rfl);unfold XT;rw [Z8 om]
  split
  .rw [Z8 (fun q=>hnb.1 q.1)]
  split
  .rw [Z8 (fun q=>hnb.1 q.1)]
  split
  .by_cases hl2:ts.length=2
   .match ts,hl2 with
    | [a,b],_=>exact Z8 fun q=>hnb.1 q.2.2
   .exact Gl hl2
  rw [Z8 om,Z8 om,Z8 om]
 rw [Z8 (fun q=>q.elim hnb fun z=>hk z.1)] at hL;have hnumf:¬(s.op=0∨(s.op=6∨(s.op=8∨(s.op=9∨s.op=10))))->s.num=0:=fun q=>Wp.1 fun z=>hnb ⟨z,fun y=>q<|by simpa [VT] using y⟩
 by_cases h0:s.op=0
 .rw [Zg h0] at hL;by_cases hq:s.args.length=0/\(-999<=s.num/\s.num<=999)
  .exact sf (by unfold XT;rw [Zg h0,Zg ⟨hq.2,by omega⟩]) (by rw [hL,Zg hq];rfl)
  .exact sf (by unfold XT;rw [Zg h0,Z8 (fun q=>hq ⟨by omega,q.1⟩)]) (by rw [hL,Z8 hq];rfl)
 rw [Z8 h0] at hL;by_cases h1:s.op=1∨s.op=2∨s.op=3∨s.op=4
 .rw [Zg h1] at hL;by_cases hq:ts=[0,0]
  .exact sf (by unfold XT;rw [Z8 h0,Zg h1,Zg ⟨hnumf om,hq⟩]) (by rw [hL,Zg<|(ht _).2 hq];rfl)
  .exact sf (by unfold XT;rw [Z8 h0,Zg h1,Z8 (fun q=>hq q.2)]) (by rw [hL,Z8 (fun q=>hq<|(ht _).1 q)];rfl)
 rw [Z8 h1] at hL;by_cases h5:s.op=5
 .rw [Zg h5] at hL;by_cases hq:ts=[0]
  .exact sf (by unfold XT;rw [Z8 h0,Z8 h1,Zg h5,Zg ⟨hnumf om,hq⟩]) (by rw [hL,Zg<|(ht _).2 hq];rfl)
  .exact sf (by unfold XT;rw [Z8 h0,Z8 h1,Zg h5,Z8 (fun q=>hq q.2)]) (by rw [hL,Z8 (fun q=>hq<|(ht _).1 q)];rfl)
 rw [Z8 h5] at hL;by_cases h6:s.op=6
 .rw [Zg h6] at hL;have hct:0<Wx n.1 s.num↔0<=Wx n.1 s.num:=by
   rcases Int.lt_or_le (Wx n.1 s.num) 1 with q|q
   .have:=(GF q).2;omega
   .omega
  by_cases hq:0<=Wx n.1 s.num/\ts=ZZ n.1 s.num
  .exact sf (by unfold XT;rw [Z8 h0,Z8 h1,Z8 h5,Z8 om,Zg h6,Zg hq]) (by rw [hL,Zg ⟨hct.2 hq.1,(ht _).2 hq.2⟩];rfl)
  .exact sf (by unfold XT;rw [Z8 h0,Z8 h1,Z8 h5,Z8 om,Zg h6,Z8 hq]) (by rw [hL,Z8 (fun q=>hq ⟨hct.1 q.1,(ht _).1 q.2⟩)];rfl)
 rw [Z8 h6,Z8 h7,Z8 h8] at hL;by_cases h9:s.op=9
 .rw [Zg (.inl h9),UM] at hL
  cases ha:Xq n.2 s.num with
  | none=>exact sf (by unfold XT;rw [Z8 h0,Z8 h1,Z8 h5,Z8 om,Z8 h6,Zg h9,ha]) (by rw [hL,ha];rfl)
  | some r=>
   rw [ha] at hL;simp only at hL;rw [Jw,Zg h9] at hL;have hF:∀{X:Option Int},(if ts=r.1 then some r.result else none)=X->XT n s.op s.num ts=X:=fun q=>by
    unfold XT;rw [Z8 h0,Z8 h1,Z8 h5,Z8 om,Z8 h6,Zg h9,ha];exact q
   by_cases hq:ts=r.1
   .exact sf (hF<|Zg hq) (by rw [hL,Zg<|(ht _).2 hq];rfl)
   .exact sf (hF<|Z8 hq) (by rw [hL,Z8 (fun q=>hq<|(ht _).1 q)];rfl)
 by_cases h10:s.op=10
 .rw [Zg (.inr h10),UM] at hL
  cases ha:Xq n.2 s.num with
  | none=>exact sf (by unfold XT;rw [Z8 h0,Z8 h1,Z8 h5,Z8 om,Z8 h6,Z8 h9,Zg h10,ha]) (by rw [hL,ha];rfl)
  | some r=>
   rw [ha] at hL hlent;simp only [CM,Option.getD_some] at hL hlent;rw [Jw,Z8 h9] at hL;have hF:∀{X:Option Int},(if r.1.length≠0/\0<=JM n.1 r.1 r.result/\ts=r.1.take (r.1.length-1) then some (JM n.1 r.1 r.result) else none)=X->XT n s.op s.num ts=X:=fun q=>by
    unfold XT;rw [Z8 h0,Z8 h1,Z8 h5,Z8 om,Z8 h6,Z8 h9,Zg h10,ha];exact q
   by_cases hp:r.1.length=0
   .exact sf (hF (Z8 fun q=>q.1 hp)) (by rw [hL,Zg<|.inl hp];rfl)
   by_cases hq:ts=r.1.take (r.1.length-1)
   .rw [Z8 (fun z=>z.elim hp fun z=>z.elim (fun z=>hlent ⟨h10,z⟩) fun z=>z<|(ht _).2 hq)] at hL;by_cases har:0<=JM n.1 r.1 r.result
    .exact sf (hF<|Zg ⟨hp,har,hq⟩) hL
    .refine sf (hF (Z8 fun q=>har q.2.1)) ?_;have key:∀(l:List Zh) (i:Nat) (f t:Int),¬0<=Jd f t l i->Jd f t l i=-1:=by
      intro l
      induction l with
      | nil=>intro i f t _;rfl
      | cons d r ih=>
       intro i f t hn;rw [Jd] at hn ⊢
       split
       .rename_i hh;rw [Zg hh] at hn;omega
       .rename_i hh;rw [Z8 hh] at hn;exact ih _ _ _ hn
     exact hL.trans<|key _ _ _ _ har
   .exact sf (hF (Z8 fun q=>hq q.2.2)) (by rw [hL,Zg<|.inr (.inr fun q=>hq<|(ht _).1 q)];rfl)
 rw [Z8 om] at hL;by_cases h11:s.op=11
 .rw [Zg h11] at hL;have hn0:=hnumf om;have hF:∀{X:Option Int},EP n s.num ts=X->XT n s.op s.num ts=X:=fun q=>by
   unfold XT;rw [Z8 h0,Z8 h1,Z8 h5,Zg h11];exact q
  rcases he:s.args with _|⟨a,_|⟨b,_|⟨c,r⟩⟩⟩
  .rw [he] at hts hL;rw [WC] at hts;cases hts;exact sf (hF rfl) hL
  .rw [he] at hl hL;exact sf (hF<|Gl<|by simp at hl;omega) hL
  .rw [he] at hts hL;rw [WC] at hts
   cases ha:Xq us a with
   | none=>rw [ha] at hts;cases hts
   | some t=>
    rw [ha,WC] at hts
    cases hb:Xq us b with
    | none=>rw [hb] at hts;cases hts
    | some t2=>
     rw [hb,WC] at hts;cases hts
     rw [KA,ha] at hL;simp only at hL;by_cases hA:Wd n.1 t=true
     .rw [Zg hA] at hL;have hA2:=hA;simp only [Wd,We,decide_eq_true_eq] at hA2
      cases hd:n.1[(t-1).toNat]? with
      | none=>rw [hd] at hA2;simp at hA2
      | some d=>
       rw [hd] at hL;simp only at hL;have hD:Ui n.1 t=d:=by rw [Ui,Zg hA,hd];rfl
       have h2:=O9 (us:=us) (args:=[b]) (ts:=[t2]) (by rw [WC,hb,WC]) [d.frm];by_cases hq:t2=d.frm
       .exact sf (hF<|Zg ⟨hA,by rw [hD];exact hq,hn0⟩) (by rw [hL,Zg<|h2.2 (by rw [hq]),hD];rfl)
       .exact sf (hF (Z8 fun q=>hq<|by rw [hD] at q;exact q.2.1)) (by rw [hL,Z8 (fun q=>hq<|by simpa using h2.1 q)];rfl)
     .exact sf (hF (Z8 fun q=>hA q.1)) (by rw [hL,Z8 hA];rfl)
  .rw [he] at hl hL;exact sf (hF<|Gl<|by simp at hl;omega) hL
 rw [Z8 h11,Z8 om] at hL;exact sf (X:=none) (by unfold XT;rw [Z8 h0,Z8 h1,Z8 h5,Z8 h11,Z8 h6,Z8 h9,Z8 h10]) hL
end Go.Abs
namespace Go.Abs
def Z18:∀(n:Nat) (f:Int) (k:Nat) (x:Int),(U4 f n)[k]? = some x->x=f+k/\k<n
 | 0,f,k,x,h=>by simp [U4] at h
 | n+1,f,k,x,h=>by
  rw [U4] at h
  cases k with
  | zero=>simp at h;subst h;exact ⟨by omega,by omega⟩
  | succ k=>have:=Z18 n (f+1) k x (by simpa using h);exact ⟨by omega,by omega⟩
def PN {ds:List Zh} (hd:Wq ds) {t:Int} {k:Nat} {x:Int} (h:(Y1 ds t)[k]? = some x):0<=x/\x<=100:=by
 rw [Y1] at h
 split at h
 .rename_i ht;obtain ⟨d,hd1⟩:=Jo (xs:=ds) (j:=(t-1).toNat) om;rw [hd1] at h;have:=Z18 _ _ _ _ h;have h3:=hd.cons_at hd1;have h4:=(hd.take (t-1).toNat).sum;simp only [CM,Option.getD_some] at this;omega
 .simp at h
end Go.Abs
namespace Go.Abs
section
variable {S:Option Int} {c:Prop} [Decidable c] {v:Int} {b:Bool}
def Cv (h:S=if c then some v else none) (hb:b=true↔c):b=S.isSome:=by rw [h,Zfq,XE,hb,decide_eq_true_iff]
def Cw (h:S=if c then some v else none):∀x,S=some x->v=x:=by
 intro x hx;rw [h] at hx;split at hx
 .exact Qs hx
 .cases hx
def FY (h:S=none):false=S.isSome:=by rw [h];rfl
def FZ (h:S=none):∀x,S=some x->v=x:=by intro x hx;rw [h] at hx;cases hx
end
section
variable {n:Zm} {op num:Int} {ts:LI}
def sf0 (h:op=0):XT n op num ts=if (-999<=num/\num<=999)/\ts.length=0 then some 0 else none:=by unfold XT;rw [Zg h]
def sf1 (h:op=1∨op=2∨op=3∨op=4):XT n op num ts=if num=0/\ts=[0,0] then some 0 else none:=by unfold XT;rw [Z8 om,Zg h]
def sf5 (h:op=5):XT n op num ts=if num=0/\ts=[0] then some 0 else none:=by unfold XT;rw [Z8 om,Z8 om,Zg h]
def Z3q (h:op=11):XT n op num ts=EP n num ts:=by unfold XT;rw [Z8 om,Z8 om,Z8 om,Zg h]
def Zkt (h:op=11) (hl:(ts.length:Int)≠2):XT n op num ts=none:=(Z3q h).trans (Gl om)
def NM (h:op=11) {a b:Int} (hl:¬(ts.length:Int)≠2) (ha:ts[0]? = some a) (hb:ts[1]? = some b) :
  XT n op num ts=if Wd n.1 a=true/\b=(Ui n.1 a).frm/\num=0 then some (Ui n.1 a).to_ else none:=by
 rw [Z3q h]
 match ts,hl,ha,hb with
 | [x,y],_,ha,hb=>simp at ha hb;subst ha;subst hb;rfl
 | [],hl,_,_=>simp at hl
 | [_],hl,_,_=>simp at hl
 | _::_::_::_,hl,_,_=>simp at hl;omega
def Zks (h:op=11) {a:Int} (hl:¬(ts.length:Int)≠2) (ha:ts[0]? = some a) (hn:¬Wd n.1 a=true):XT n op num ts=none:=by
 obtain ⟨b,hb⟩:=Jo (xs:=ts) (j:=1) om;rw [NM h hl ha hb,Z8 fun q=>hn q.1]
def sf6 (h:op=6):XT n op num ts=if 0<=Wx n.1 num/\ts=ZZ n.1 num then some (Wx n.1 num) else none:=by
 unfold XT;rw [Z8 om,Z8 om,Z8 om,Z8 om,Zg h]
def Zku (h:op=9∨op=10) (hr:num<0∨num>=(((n.2.map Wb).length:Nat):Int)):XT n op num ts=none:=by
 have ha:Xq n.2 num=none:=Je (by simp at hr;omega);unfold XT;rw [Z8 om,Z8 om,Z8 om,Z8 om,Z8 om];rcases h with h|h
 .rw [Zg h,ha]
 .rw [Z8 om,Zg h,ha]
def sf9 (h:op=9) {x:VC} (hr:¬(num<0∨num>=(((n.2.map Wb).length:Nat):Int))) (hx:(n.2.map Wb)[num.toNat]? = some x) :
  XT n op num ts=if ts=x.pms then some x.res else none:=by
 obtain ⟨r,h1,rfl⟩:=I8 hx;have ha:Xq n.2 num=some r:=Qx (by simp at hr;omega) h1;unfold XT;rw [Z8 om,Z8 om,Z8 om,Z8 om,Z8 om,Zg h,ha];rfl
def Zkr (h:op=10) {x:VC} (hr:¬(num<0∨num>=(((n.2.map Wb).length:Nat):Int))) (hx:(n.2.map Wb)[num.toNat]? = some x) (hp:(x.pms.length:Int)-1<0) :
  XT n op num ts=none:=by
 obtain ⟨r,h1,rfl⟩:=I8 hx;have ha:Xq n.2 num=some r:=Qx (by simp at hr;omega) h1;have hp':r.1.length=0:=by simp only [Wb] at hp;omega
 unfold XT;rw [Z8 om,Z8 om,Z8 om,Z8 om,Z8 om,Z8 om,Zg h,ha];exact Z8 fun q=>q.1 hp'
def Zkq (h:op=10) {x:VC} {l:Int} (hr:¬(num<0∨num>=(((n.2.map Wb).length:Nat):Int))) (hx:(n.2.map Wb)[num.toNat]? = some x) (hp:¬(x.pms.length:Int)-1<0)
  (hl:x.pms[((x.pms.length:Int)-1).toNat]? = some l) :
  XT n op num ts=if 0<=UP n.1 l x.res/\ts=x.pms.take ((x.pms.length:Int)-1).toNat then some (UP n.1 l x.res) else none:=by
 obtain ⟨r,h1,rfl⟩:=I8 hx;have ha:Xq n.2 num=some r:=Qx (by simp at hr;omega) h1;simp only [Wb] at hp hl ⊢;have hq:((r.1.length:Int)-1).toNat=r.1.length-1:=by omega
 have ht:r.1.take ((r.1.length:Int)-1).toNat=r.1.take (r.1.length-1):=Ys (fun k=>r.1.take k) hq;have hl':r.1[r.1.length-1]? = some l:=by rw [<-hl];exact Ys (fun k=>r.1[k]?) hq.symm
 have hlast:JM n.1 r.1 r.result=UP n.1 l r.result:=by rw [JM,S7 hl']
 unfold XT;rw [Z8 om,Z8 om,Z8 om,Z8 om,Z8 om,Z8 om,Zg h,ha];simp only [hlast];by_cases hc:0<=UP n.1 l r.result/\ts=r.1.take (r.1.length-1)
 .rw [Zg ⟨by omega,hc⟩];exact (Zg ⟨hc.1,hc.2.trans ht.symm⟩).symm
 .rw [Z8 fun q=>hc q.2];exact (Z8 fun q=>hc ⟨q.1,q.2.trans ht⟩).symm
def sfd (h0:¬op=0) (h1:¬(op=1∨op=2∨op=3∨op=4)) (h5:¬op=5) (h11:¬op=11) (h6:¬op=6) (h9:¬(op=9∨op=10)):XT n op num ts=none:=by
 unfold XT;rw [Z8 h0,Z8 h1,Z8 h5,Z8 h11,Z8 h6,Z8 om,Z8 om]
end
end Go.Abs
end
namespace Go.Abs
mutual
def Z4.rng:Z4->Prop
 | .mk _ num _ _ kids=>(-9223372036854775808<=num/\num<=9223372036854775807)/\KE kids
def Z6.rng:Z6->Prop
 | .mk steps _=>Q6 steps
def Q6:List Z4->Prop
 | []=>True
 | s::r=>s.rng/\Q6 r
def KE:List Z6->Prop
 | []=>True
 | b::r=>b.rng/\KE r
end
def Z4.rng_eq (s:Z4):s.rng=((-9223372036854775808<=s.num/\s.num<=9223372036854775807)/\KE s.kids):=by cases s;rw [Z4.rng];rfl
def Z6.rng_eq (b:Z6):b.rng=Q6 b.steps:=by cases b;rw [Z6.rng];rfl
def NY:∀{xs:List Z4} {k:Nat} {s:Z4},Q6 xs->xs[k]? = some s->s.rng
 | [],k,s,_,h=>by simp at h
 | x::r,0,s,hr,h=>by rw [Q6] at hr;simp at h;subst h;exact hr.1
 | x::r,k+1,s,hr,h=>by rw [Q6] at hr;exact NY (k:=k) hr.2 (by simpa using h)
def Gr:∀{xs:List Z6} {k:Nat} {b:Z6},KE xs->xs[k]? = some b->b.rng
 | [],k,s,_,h=>by simp at h
 | x::r,0,s,hr,h=>by rw [KE] at hr;simp at h;subst h;exact hr.1
 | x::r,k+1,s,hr,h=>by rw [KE] at hr;exact Gr (k:=k) hr.2 (by simpa using h)
def Ob {us:LI}:∀{args:LI},WC us args=none->∀tys,Wh us args tys=false
 | [],h,tys=>by rw [WC] at h;cases h
 | a::r,h,tys=>by
  cases tys with
  | nil=>simp [Wh,TJ]
  | cons t ts=>
   rw [WC] at h;rw [Wh,TJ]
   cases ha:Xq us a with
   | none=>simp
   | some u=>
    rw [ha] at h
    cases hr:WC us r with
    | none=>
     have:=Ob hr ts;rw [Wh] at this;by_cases he:u=t
     .subst he;simpa using this
     .rw [Z8 (fun q=>he<|Qs q)]
    | some tr=>rw [hr] at h;cases h
def Zn3 {n:Zm} {us:LI} {s:Z4} (h:WC us s.args=none):Y6 n us s=-1:=by
 have ht:=Ob h;rw [Av]
 split
 .rfl
 split
 .rw [Z8];rintro ⟨q,_⟩
  have:s.args=[]:=List.length_eq_zero_iff.1 q;rw [this,WC] at h;cases h
 split
 .rw [Z8 (by rw [ht];simp)]
 split
 .rw [Z8 (by rw [ht];simp)]
 split
 .rw [Z8 (by rw [ht];simp)]
 split
 .rw [Z8 (by rw [ht];simp)]
 split
 .rw [Z8 (by rw [ht];simp)]
 split
 .rw [UM]
  cases Xq n.2 s.num with
  | none=>rfl
  | some r=>
   simp only;rw [Jw]
   split
   .rw [Z8 (by rw [ht];simp)]
   .rw [Zg (.inr<|.inr<|by rw [ht];simp)]
 split
 .match hA:s.args with
  | []=>rfl
  | [_]=>rfl
  | [a,b]=>
   rw [KA];rw [hA,WC] at h
   cases ha:Xq us a with
   | none=>rfl
   | some t=>
    rw [ha] at h;simp only at h ⊢
    split
    .cases n.1[(t-1).toNat]? with
     | none=>rfl
     | some d=>
      simp only;rw [Z8]
      cases hb:WC us [b] with
      | none=>rw [Ob hb];simp
      | some tr=>rw [hb] at h;cases h
    .rfl
  | _::_::_::_=>rfl
 split
 .match hA:s.args with
  | []=>rfl
  | [a]=>
   rw [QU];rw [hA,WC] at h
   cases ha:Xq us a with
   | none=>rfl
   | some t=>rw [ha,WC] at h;cases h
  | _::_::_=>rfl
 .rfl
def OI {us:LI} {a:Int}:∀{xs:LI} {k:Nat},xs[k]? = some a->Xq us a=none->WC us xs=none
 | [],k,h,_=>by simp at h
 | x::r,0,h,ha=>by simp at h;subst h;rw [WC,ha]
 | x::r,k+1,h,ha=>by
  have:=OI (xs:=r) (k:=k) (by simpa using h) ha;rw [WC]
  cases Xq us x with
  | none=>rfl
  | some t=>simp only [this]
def Zg6 {n:Zm} {us:LI} {ks:List Z6} {ms:List LI} (h:0<ks.length) (t:Int) :
  W6 n us (ks.drop 0) (ms.drop 0) (decide (0=0)) t=W6 n us ks ms true 0:=by
 cases ks with
 | nil=>simp at h
 | cons b bs=>
  cases ms with
  | nil=>rw [J7,J7,W6,W6]
  | cons m r=>
   simp only [J7,decide_true];rw [W6,W6];simp
def Pc {b:Z6}:∀{ks:List Z6} {k:Nat},ks[k]? = some b->b.sz<=YT ks
 | [],k,h=>by simp at h
 | x::r,0,h=>by simp at h;subst h;rw [YT];omega
 | x::r,k+1,h=>by have:=Pc (ks:=r) (k:=k) (by simpa using h);rw [YT];omega
def G9 (us m:LI):[us,m].flatten=us++m:=by simp
def RL {xs:LI} {i:Int} (h:i.toNat<xs.length):xs[i.toNat]? = some (gI xs i):=by rw [gI,J8 h];rfl
def H6 {xs:LI} (h:0<xs.length):xs[0]? = some (gI xs 0):=RL (i:=0) h
def UV (n:Zm) (num:Int):VC:=((n.2.map Wb)[num.toNat]?).getD ⟨[],[],0⟩
def Z3s {n:Zm} {i:Int} (h:i.toNat<(n.2.map Wb).length):(n.2.map Wb)[i.toNat]? = some (UV n i):=by rw [UV,J8 h];rfl
def Fz {us m:LI} (h1:∀t∈us,0<=t) (h2:∀t∈m,0<=t):∀t∈us++m,0<=t:=fun t h=>(Xh.1 h).elim (h1 t)<|h2 t
def C5 {us args ts:LI} {k:Nat} (h:WC us (args.take k)=some ts) (hk:args.length<=k):WC us args=some ts:=by
 rw [Vc hk] at h;exact h
def Z6u {us args ts:LI} {k:Nat} {a t:Int} (h:WC us (args.take k)=some ts) (ha:args[k]? = some a) (ht:Xq us a=some t):WC us (args.take (k+1))=some (ts++[t]):=by
 rw [WO ha];exact OK h ht
def Z1e {ts:LI} (h:(ts.length:Int)=1):ts=[gI ts 0]:=by
 match ts,h with
 | [a],_=>rfl
section
variable {n:Zm} {us ts:LI} {s:Z4}
def BA {p1 p2 p3 p4 p5:Prop}:(p1/\(p2∨(p3∨(p4∨p5))))↔(p1/\(((p2∨p3)∨p4)∨p5)):=by simp only [or_assoc]
def Gz (n:Zm) (s:Z4) (ts:LI):Int:=match ts with
  | [t]=>if t≠0/\s.num=0/\s.kids.length=0/\¬((s.op=16∨s.op=17)/\Wd n.1 t=true) then 0 else -1
  | _=>-1
def CC:A6 n us s ts =
 if Yv s.op=true then Gz n s ts
 else if s.op=7 then (if ts=[0]/\s.num=0 then Qe n us s.op s.num s.kids else -1)
 else if s.op=8 then (if ts=[s.num] then Qe n us s.op s.num s.kids else -1)
 else if 0<s.kids.length∨(s.op=10/\0<(((Xq n.2 s.num).map (·.lent)).getD []).length) then -1
 else (XT n s.op s.num ts).getD (-1):=by unfold A6 Gz;rfl
def PD (h:(ts.length:Int)=1):Gz n s ts=if gI ts 0≠0/\s.num=0/\s.kids.length=0/\¬((s.op=16∨s.op=17)/\Wd n.1 (gI ts 0)=true) then 0 else -1:=by
 match ts,h with
 | [a],_=>rfl
def Z8g (h:(ts.length:Int)≠1):Gz n s ts=-1:=by
 match ts,h with
 | [],_=>rfl
 | [a],h=>exact absurd rfl h
 | _::_::_,_=>rfl
def Zmh (hS:Y6 n us s=A6 n us s ts) (hc:Yv s.op=true)
  (h:((((ts.length:Int)=1/\gI ts 0≠0)/\s.num=0)/\(s.kids.length:Int)=0)/\(s.op=16∨s.op=17)) :
  (!Wd n.1 (gI ts 0))=decide (0<=Y6 n us s):=by
 obtain ⟨⟨⟨⟨h1,h2⟩,h3⟩,h4⟩,h5⟩:=h;have h4':s.kids.length=0:=by omega
 rw [hS,CC,Zg hc,PD h1];cases hA:Wd n.1 (gI ts 0)
 .rw [Zg ⟨h2,h3,h4',by simp⟩];rfl
 .rw [Z8 (fun q=>q.2.2.2 ⟨h5,rfl⟩)];rfl
def Zmi (hS:Y6 n us s=A6 n us s ts) (hc:Yv s.op=true)
  (h:¬(((((ts.length:Int)=1/\gI ts 0≠0)/\s.num=0)/\(s.kids.length:Int)=0)/\(s.op=16∨s.op=17))) :
  ((((((ts.length:Int)==1)&&(gI ts 0 != 0))&&(s.num==0))&&((s.kids.length:Int)==0)))=decide (0<=Y6 n us s):=by
 rw [hS,CC,Zg hc];by_cases h1:(ts.length:Int)=1
 .rw [PD h1];by_cases h2:(gI ts 0≠0/\s.num=0)/\(s.kids.length:Int)=0
  .obtain ⟨⟨h2,h3⟩,h4⟩:=h2;have h4':s.kids.length=0:=by omega
   rw [Zg ⟨h2,h3,h4',fun q=>h ⟨⟨⟨⟨h1,h2⟩,h3⟩,h4⟩,q.1⟩⟩,Zq.2 h1,Yb.2 h2,Zq.2 h3,Zq.2 h4];rfl
  .rw [Z8 (fun q=>h2 ⟨⟨q.1,q.2.1⟩,by have:=q.2.2.1;omega⟩)];show _=false
   rw [JE];intro q
   obtain ⟨⟨⟨_,q1⟩,q2⟩,q3⟩:=(YN (YN (YN Zq Yb) Zq) Zq).1 q;exact h2 ⟨⟨q1,q2⟩,q3⟩
 .rw [Z8g h1];show _=false
  rw [JE];intro q
  obtain ⟨⟨⟨q1,_⟩,_⟩,_⟩:=(YN (YN (YN Zq Yb) Zq) Zq).1 q;exact h1 q1
def Zmd (hS:Y6 n us s=A6 n us s ts) (hc:¬Yv s.op=true) (h7:s.op=7)
  (h:(((ts.length:Int)≠1∨gI ts 0≠0)∨s.num≠0)∨(s.kids.length:Int)≠2):Y6 n us s=-1:=by
 rw [hS,CC,Z8 hc,Zg h7]
 split
 .rename_i q;obtain ⟨q1,q2⟩:=q;rw [q1] at h;rw [Qe,Zg];right
  rw [Xi,Zg h7];have:gI [0] 0=0:=rfl;simp [this] at h;show s.kids.length≠2
  omega
 .rfl
def Zme (hS:Y6 n us s=A6 n us s ts) (hc:¬Yv s.op=true) (h7:s.op=7)
  (h:¬((((ts.length:Int)≠1∨gI ts 0≠0)∨s.num≠0)∨(s.kids.length:Int)≠2)):Y6 n us s=W6 n us s.kids (List.replicate 2 []) true 0:=by
 have h1:(ts.length:Int)=1:=Wp.1 fun q=>h<|.inl<|.inl<|.inl q
 have h2:gI ts 0=0:=Wp.1 fun q=>h<|.inl<|.inl<|.inr q
 have h3:s.num=0:=Wp.1 fun q=>h<|.inl<|.inr q
 have h4:(s.kids.length:Int)=2:=Wp.1 fun q=>h<|.inr q
 rw [hS,CC,Z8 hc,Zg h7,Zg ⟨by rw [Z1e h1,h2],h3⟩,Qe,Z8]
 .rw [Xi,Zg h7];rfl
 .rw [Xi,Zg h7];simp;omega
def Zmf (hS:Y6 n us s=A6 n us s ts) (hc:¬Yv s.op=true) (h7:¬s.op=7) (h8:s.op=8)
  (h:(ts.length:Int)≠1∨(gI ts 0≠s.num∨(((((Y1 n.1 s.num).map<|ZZ n.1).length:Nat):Int)=0∨(s.kids.length:Int)≠((((Y1 n.1 s.num).map<|ZZ n.1).length:Nat):Int)))):Y6 n us s=-1:=by
 rw [hS,CC,Z8 hc,Z8 h7,Zg h8]
 split
 .rename_i q;have hg:gI ts 0=s.num:=by rw [q];rfl
  have hl:(ts.length:Int)=1:=by rw [q];rfl
  rw [Qe,Zg];rw [Xi,Z8 h7];omega
 .rfl
def Zmg (hS:Y6 n us s=A6 n us s ts) (hc:¬Yv s.op=true) (h7:¬s.op=7) (h8:s.op=8)
  (h:¬((ts.length:Int)≠1∨(gI ts 0≠s.num∨(((((Y1 n.1 s.num).map<|ZZ n.1).length:Nat):Int)=0∨(s.kids.length:Int)≠((((Y1 n.1 s.num).map<|ZZ n.1).length:Nat):Int))))) :
  Y6 n us s=W6 n us s.kids ((Y1 n.1 s.num).map<|ZZ n.1) true 0:=by
 have h1:(ts.length:Int)=1:=Wp.1 fun q=>h<|.inl q
 have h2:gI ts 0=s.num:=Wp.1 fun q=>h<|.inr<|.inl q
 rw [hS,CC,Z8 hc,Z8 h7,Zg h8,Zg (by rw [Z1e h1,h2]),Qe,Z8]
 .rw [Xi,Z8 h7]
 .rw [Xi,Z8 h7];omega
def Zh2 {n:Zm} {num:Int}:(((Xq n.2 num).map (·.lent)).getD []).length=if 0<=num/\num<(((n.2.map Wb).length:Nat):Int) then (UV n num).lnt.length else 0:=by
 split
 .rename_i h;rw [Qq] at h;obtain ⟨r,hr⟩:=Jo (xs:=n.2) (j:=num.toNat) om;rw [Qx om hr,UV,Tx,hr];rfl
 .rename_i h;rw [Qq] at h;rw [Je om];rfl
def Z4p:(0<s.kids.length∨(s.op=10/\0<(((Xq n.2 s.num).map (·.lent)).getD []).length)) ↔
  ((s.kids.length:Int)>0∨(s.op=10/\(s.num>=0/\(s.num<(((n.2.map Wb).length:Nat):Int)/\((((UV n s.num).lnt).length:Nat):Int)>0)))):=by
 rw [Zh2];by_cases hq:0<=s.num/\s.num<(((n.2.map Wb).length:Nat):Int)
 .rw [Zg hq];omega
 .rw [Z8 hq];omega
def stB (hS:Y6 n us s=A6 n us s ts) (hc:¬Yv s.op=true) (h7:¬s.op=7) (h8:¬s.op=8)
  (h:((s.kids.length:Int)>0∨(s.op=10/\(s.num>=0/\(s.num<(((n.2.map Wb).length:Nat):Int)/\((((UV n s.num).lnt).length:Nat):Int)>0))))):Y6 n us s=-1:=by
 rw [hS,CC,Z8 hc,Z8 h7,Z8 h8,Zg<|Z4p.2 h]
def stS (hS:Y6 n us s=A6 n us s ts) (hc:¬Yv s.op=true) (h7:¬s.op=7) (h8:¬s.op=8)
  (h:¬((s.kids.length:Int)>0∨(s.op=10/\(s.num>=0/\(s.num<(((n.2.map Wb).length:Nat):Int)/\((((UV n s.num).lnt).length:Nat):Int)>0))))):Y6 n us s=(XT n s.op s.num ts).getD (-1):=by
 rw [hS,CC,Z8 hc,Z8 h7,Z8 h8,Z8 (fun q=>h<|Z4p.1 q)]
def Zmj (hty:Jb n) (h:Y6 n us s=(XT n s.op s.num ts).getD (-1)):(XT n s.op s.num ts).isSome=decide (0<=Y6 n us s):=by
 rw [h]
 cases hs:XT n s.op s.num ts with
 | none=>rfl
 | some x=>have:=Zkx hty hs;simp [this]
def Zmk {t:Int} (h:Y6 n us s=(XT n s.op s.num ts).getD (-1)) (hp:∀x,XT n s.op s.num ts=some x->t=x):¬Yv s.op=true->0<=Y6 n us s->t=Y6 n us s:=by
 intro _ h0;rw [h] at h0 ⊢
 cases hs:XT n s.op s.num ts with
 | none=>rw [hs] at h0;exact absurd h0 (by decide)
 | some x=>exact hp x hs
end
def Zn0 {n:Zm} {us:LI} {s:Z4} (h:0<=Y6 n us s):(0<=s.op/\s.op<=11)∨(14<=s.op/\s.op<=17):=by
 rw [Av] at h;by_cases hq:(0<=s.op/\s.op<=11)∨(14<=s.op/\s.op<=17)
 .exact hq
 .exfalso
  split at h
  .omega
  rw [Z8 om,Z8 om,Z8 om,Z8 om,Z8 om,Z8 om,Z8 om,Z8 om,Z8 om] at h;omega
def F3 {n:Zm} {us:LI} {s:Z4} (h:0<=Y6 n us s):XV s.op=!Yv s.op:=by
 have:=Zn0 h;rw [XV,Yv,XE];simp;omega
def Zn5 {n:Zm} {xs:List Z4} {vs:LI} {k:Nat} {s:Z4} {t:Int} {r:Option LI} (hs:xs[k]? = some s) (h:0<=Y6 n vs s) (ht:¬Yv s.op=true->0<=Y6 n vs s->t=Y6 n vs s)
  (hr:XJ n (xs.drop k) vs=r):XJ n (xs.drop (k+1)) (if Yv s.op=true then vs else vs++[t])=r:=by
 rw [Yc hs,XJ,Z8 om] at hr;rw [<-hr,F3 h];by_cases hc:Yv s.op=true
 .rw [Zg hc,hc];rfl
 .rw [Z8 hc,Zg (by simpa using hc),ht hc h]
def Zn6 {n:Zm} {xs:List Z4} {vs:LI} {k:Nat} {s:Z4} {r:Option LI} (hs:xs[k]? = some s) (h:¬0<=Y6 n vs s) (hr:XJ n (xs.drop k) vs=r):r=none:=by
 rw [Yc hs,XJ,Zg om] at hr;exact hr.symm
def Zhd {c:Prop} [Decidable c] {vs:LI} {t:Int} (h:∀x∈vs,0<=x) (ht:¬c->0<=t):∀x∈(if c then vs else vs++[t]),0<=x:=by
 split
 .exact h
 .rename_i hc;exact Fz h fun x hx=>by rw [XI.1 hx];exact ht hc
def OG {m:Nat} {xs:LI} (h:WB m xs=true):∀x∈xs,0<=x/\x<=m:=by
 rw [WB,Ax] at h;exact fun x hx=>of_decide_eq_true<|h x hx
def Z11 {n:Zm} (h:VV n=true):Jb n:=by
 simp only [VV,J6,We,decide_eq_true_eq] at h;obtain ⟨h1,⟨h2,h3,h4,h5⟩,h6⟩:=h;have hs:∀r∈n.2,WB n.1.length r.1=true/\0<=r.result:=fun r hr=>by
  have:=NO h4 (UN r) (XG.2 ⟨r,hr,rfl⟩);simp only [A0,We,decide_eq_true_eq] at this;exact ⟨this.2.1,this.2.2.1⟩
 simp only [Vf,We,decide_eq_true_eq] at h2;obtain ⟨h2a,h2b⟩:=h2;rw [Lm] at h2b;have key:∀(i:Nat) (d:Zh),n.1[i]? = some d->Tj n.1 d i=true:=fun i d hi=>by
  have:=h2b i (Xv.1 hi).1
  rwa [VH,EZ hi] at this
 refine ⟨fun r hr=>(hs r hr).2,fun r hr p hp=>(OG (hs r hr).1 p hp).1,fun d hd h0=>?_,fun c f hf=>?_⟩
 .obtain ⟨i,hi⟩:=List.mem_iff_getElem?.1 hd;have:=key i d hi;rw [Tj,Z8 om] at this
  split at this
  .cases this
  .simp only [We,decide_eq_true_eq] at this;omega
 .by_cases hc:Wx n.1 c<1
  .rw [(GF hc).1] at hf;cases hf
  .obtain ⟨k,d,x,q1,q2,q3,q4,q5⟩:=Lg hc;rw [q5] at hf;have:=key k d q1;have hp:0<d.cons.length:=by have:=(Xv.1 q3).1;omega
   rw [Tj,Zg hp] at this
   split at this
   .have:=PO.1 this x (Y0 q3);simp only [Aj,We] at this;exact (OG this.2 f hf).1
   .cases this
structure NTu (n:Zm):Prop where
 result:∀r∈n.2,r.result<=(n.1.length:Int)
 decl:∀d∈n.1,d.cons.length=0->d.to_<=(n.1.length:Int)
 fields:∀c,∀f∈ZZ n.1 c,f<=(n.1.length:Int)
section
variable {n:Zm} (hu:NTu n)
include hu
end
end Go.Abs
section
namespace Go.Abs
structure Yn where
 mat:Int
 fst:Int
 fds:LI
 chg:Bool
abbrev AR (a:Yn):List AV:=[.i a.mat,.i a.fst,Z5 a.fds,.b a.chg]
abbrev Ov (a:Yn):AV:=.agg (AR a)
def X2 (xs:List Yn):List AV:=xs.map Ov
abbrev Xc (xs:List Yn):AV:=.sl (X2 xs) none
abbrev N5 (xs:List Yn) (v:Value):AV:=.sl (X2 xs) (some v)
def Z9w {xs:List Yn} {j:Nat} {x:Yn} (h:xs[j]? = some x):(X2 xs)[j]? = some (Ov x):=by simp [X2,h]
@[simp] theorem Z9x (xs:List Yn):(X2 xs).length=xs.length:=by simp [X2]
def F5 (xs ys:List Yn):X2 (xs++ys)=X2 xs++X2 ys:=by simp [X2]
def JQ (xs:List Yn):∀y∈X2 xs,y.leaves.length=4:=by intro y hy;simp only [X2,XG] at hy;obtain ⟨x,_,rfl⟩:=hy;rfl
def F6 (xs:List Yn):(Zc (X2 xs)).all AV.one=true:=JS fun y hy=>by simp only [X2,XG] at hy;obtain ⟨x,_,rfl⟩:=hy;rfl
def R7 {xs:List Yn} (h:X2 xs=[]):xs=[]:=by cases xs with|nil=>rfl|cons x r=>cases h
abbrev VB:=Zy
def Ut:LI->Int->LI
 | [],_=>[]
 | t::r,p=>if t≠0 then p::Ut r (p+1) else Ut r (p+1)
def Zdo {xs:LI} {k:Nat} {t p:Int} {acc r:LI} (h:xs[k]? = some t) (ha:acc++Ut (xs.drop k) (p+k)=r) :
  (if t≠0 then acc++[p+k] else acc)++Ut (xs.drop (k+1)) (p+((k+1:Nat):Int))=r:=by
 rw [Yc h,Ut] at ha;rw [show p+((k+1:Nat):Int)=p+k+1 by omega]
 split
 .rename_i q;rw [Zg q] at ha;rw [Uq];exact ha
 .rename_i q;rw [Z8 q] at ha;exact ha
def Zdn {xs:LI} {k:Nat} {p:Int} {acc r:LI} (h:xs.length<=k) (ha:acc++Ut (xs.drop k) (p+k)=r):acc=r:=by
 rw [Xk h,Ut,JF] at ha;exact ha
def Ml:∀(xs:LI) (p:Int) (own:LI),TO own p xs=(Ut xs p).foldl (fun o f=>o.set f.toNat (gI o f+1)) own
 | [],_,_=>rfl
 | t::r,p,own=>by
  rw [TO,Ut]
  split
  .rw [List.foldl_cons];exact Ml r _ _
  .exact Ml r _ _
def Mm:∀{xs:LI} {p f:Int},f∈Ut xs p->p<=f/\f<p+xs.length
 | [],_,_,h=>by simp [Ut] at h
 | t::r,p,f,h=>by
  rw [Ut] at h
  split at h
  .rcases YM.1 h with rfl|h
   .simp only [YR];omega
   .have:=Mm h;simp only [YR];omega
  .have:=Mm h;simp only [YR];omega
def Sc:∀(xs:LI) (p:Int),(Ut xs p).length<=xs.length
 | [],_=>by simp [Ut]
 | t::r,p=>by
  have:=Sc r (p+1);rw [Ut];split<;>simp<;>omega
def Ta:List Yn->Int->Option Yn
 | [],_=>none
 | a::r,v=>match Ta r v with
  | some x=>some x
  | none=>if a.mat=v then some a else none
def Z1d {a:Yn}:∀{as1:List Yn} {v:Int},Ta (as1++[a]) v=if a.mat=v then some a else Ta as1 v
 | [],v=>rfl
 | x::r,v=>by
  rw [QQ,Ta,Z1d];by_cases h:a.mat=v
  .rw [Zg h,Zg h]
  .rw [Z8 h,Z8 h];rfl
def FE {v:Int}:∀{as1:List Yn},(∀a∈as1,a.mat≠v)->Ta as1 v=none
 | [],_=>rfl
 | x::r,h=>by rw [Ta,FE (fun a ha=>h a (XF _ ha))];exact Z8 (h x (Xn ..))
def Z1c {v:Int} {a:Yn}:∀{as1:List Yn},Ta as1 v=some a->a∈as1/\a.mat=v
 | [],h=>by cases h
 | x::r,h=>by
  rw [Ta] at h
  cases hr:Ta r v with
  | some y=>rw [hr] at h;cases h;have:=Z1c hr;exact ⟨XF _ this.1,this.2⟩
  | none=>
   rw [hr] at h;simp only at h
   split at h
   .cases h;exact ⟨Xn ..,by assumption⟩
   .cases h
structure Vg (ds:List Zh) (L:Zy) (as1:List Yn):Prop where
 rng:∀a∈as1,0<=a.mat/\a.mat<a.fst/\a.fst+a.fds.length<=L.1.length
 par:∀a∈as1,∀v:Int,a.fst<=v->v<a.fst+a.fds.length->gI L.3 v=a.mat
 non:∀v:Int,0<=v->v<L.1.length->0<=gI L.3 v->∃a∈as1,a.fst<=v/\v<a.fst+a.fds.length
 off:∀v:Int,0<=v->v<L.1.length->match Ta as1 v with
  | none=>gI L.4 v<0
  | some a=>0<=gI L.4 v/\a.fst=gI L.5 v/\a.fds=ZZ ds (gI L.4 v)
def Vg.same {ds:List Zh} {L M:Zy} {as1:List Yn} (h:Vg ds L as1) (h1:M.1.length=L.1.length) (h2:M.3=L.3) (h3:M.4=L.4) (h4:M.5=L.5):Vg ds M as1:=by
 refine ⟨?_,?_,?_,?_⟩
 .rw [h1];exact h.rng
 .rw [h2];exact h.par
 .rw [h1,h2];exact h.non
 .rw [h1,h3,h4];exact h.off
def Vg.grow {ds:List Zh} {L:Zy} {as1:List Yn} {t o:Int} (h:Vg ds L as1) (hl:WT L):Vg ds (L.grow t o (-1)) as1:=by
 obtain ⟨e1,e2,e3,e4,e5⟩:=hl;have key:∀{xs:LI} {y v:Int},xs.length=L.1.length->0<=v->v<L.1.length->gI (xs++[y]) v=gI xs v:=fun hx h0 h1=>Ce om
 have kend:∀{xs:LI} {y v:Int},xs.length=L.1.length->v=(L.1.length:Int)->gI (xs++[y]) v=y:=fun hx h1=>M7 om
 have hlen:(L.grow t o (-1)).vars.length=L.1.length+1:=by simp [Zy.grow]
 refine ⟨fun a ha=>?_,fun a ha v h1 h2=>?_,fun v h0 h1 h2=>?_,fun v h0 h1=>?_⟩
 .have:=h.rng a ha;omega
 .have:=h.rng a ha;show gI (L.3++[-1]) v=a.mat
  rw [key e2 om om];exact h.par a ha v h1 h2
 .have h2':0<=gI (L.3++[-1]) v:=h2;by_cases hv:v<L.1.length
  .rw [key e2 h0 hv] at h2';exact h.non v h0 hv h2'
  .rw [kend e2 om] at h2';omega
 .show match Ta as1 v with
   | none=>gI (L.4++[-1]) v<0
   | some a=>0<=gI (L.4++[-1]) v/\a.fst=gI (L.5++[-1]) v/\a.fds=ZZ ds (gI (L.4++[-1]) v)
  by_cases hv:v<L.1.length
  .rw [key e3 h0 hv,key e4 h0 hv];exact h.off v h0 hv
  .rw [FE (fun a ha=>by have:=h.rng a ha;omega)];show gI (L.4++[-1]) v<0
   rw [kend e3 om];omega
def Vg.arm {ds:List Zh} {L:Zy} {as1:List Yn} {x c:Int} (h:Vg ds L as1) (hl:WT L) (hx:0<=x/\x<L.1.length) (hc:0<=c) :
  Vg ds (AE ds L x c) (as1++[⟨x,(L.1.length:Nat),ZZ ds c,false⟩]):=by
 obtain ⟨e1,e2,e3,e4,e5⟩:=hl;rw [AE,Mi];have hnew:∀{xs:LI} {y v:Int},xs.length=L.1.length->(L.1.length:Int)<=v->v<L.1.length+(ZZ ds c).length->gI (xs++List.replicate (ZZ ds c).length y) v=y:=fun hx h0 h1=>Ma om
 have QI:∀{xs:LI} {y v:Int},xs.length=L.1.length->0<=v->v<L.1.length->gI (xs++List.replicate (ZZ ds c).length y) v=gI xs v:=fun hx h0 h1=>Ce om
 refine ⟨fun a ha=>?_,fun a ha v h1 h2=>?_,fun v h0 h1 h2=>?_,fun v h0 h1=>?_⟩
 .simp only [Yy];rcases Xh.1 ha with ha|ha
  .have:=h.rng a ha;omega
  .rw [XI.1 ha];show 0<=x/\x<(L.1.length:Nat)/\(L.1.length:Int)+((ZZ ds c).length:Nat)<=_
   omega
 .show gI (L.3++List.replicate _ x) v=a.mat
  rcases Xh.1 ha with ha|ha
  .have:=h.rng a ha;rw [QI e2 om om];exact h.par a ha v h1 h2
  .rw [XI.1 ha] at h1 h2 ⊢;exact hnew e2 h1 h2
 .simp only [Yy] at h1;have h2':0<=gI (L.3++List.replicate (ZZ ds c).length x) v:=h2;by_cases hv:v<L.1.length
  .rw [QI e2 h0 hv] at h2';obtain ⟨a,ha,q⟩:=h.non v h0 hv h2';exact ⟨a,List.mem_append_left _ ha,q⟩
  .exact ⟨_,List.mem_append_right _<|XI.2 rfl,by show (L.1.length:Int)<=v;omega,by show v<(L.1.length:Int)+(ZZ ds c).length;omega⟩
 .simp only [Yy] at h1;show match Ta (as1++[⟨x,(L.1.length:Nat),ZZ ds c,false⟩]) v with
   | none=>gI (L.4.set x.toNat c++List.replicate (ZZ ds c).length (-1)) v<0
   | some a=>0<=gI (L.4.set x.toNat c++List.replicate (ZZ ds c).length (-1)) v/\a.fst=gI (L.5.set x.toNat L.1.length++List.replicate (ZZ ds c).length (-1)) v /\
     a.fds=ZZ ds (gI (L.4.set x.toNat c++List.replicate (ZZ ds c).length (-1)) v)
  rw [Z1d];by_cases hv:v<L.1.length
  .rw [QI (by simp [e3]) h0 hv,QI (by simp [e4]) h0 hv];by_cases he:x=v
   .rw [Zg he];show 0<=gI (L.4.set x.toNat c) v/\(L.1.length:Int)=gI (L.5.set x.toNat L.1.length) v/\ZZ ds c=ZZ ds (gI (L.4.set x.toNat c) v)
    rw [Fj om om,Fj om om];exact ⟨hc,U,U⟩
   .rw [Z8 he,Fk om,Fk om];exact h.off v h0 hv
  .rw [hnew (by simp [e3]) om om];rw [Z8 (by show ¬x=v;omega),FE (fun a ha=>by have:=h.rng a ha;omega)];show (-1:Int)<0
   omega
def Z6h {L:Zy} {ln:LI} {v p:Int} (hv:0<=v/\v<L.1.length) (hd:∀i:Int,0<=i->i<L.1.length->gI L.3 i<i) (h:¬(gI L.2 v>0∨v∈ln)) (hp:gI L.3 v=p) (h0:0<=p):Ws L ln v=Ws L ln p:=
 (OE (N:=L.1.length) rfl hp hv ⟨by omega,fun q=>h<|.inr q⟩ om hd rfl).symm
def Z6g {L:Zy} {ln:LI} {v:Int} (h:¬(gI L.2 v>0∨v∈ln)) (hp:gI L.3 v<0):Ws L ln v=false:=
 (OD rfl rfl ⟨by omega,fun q=>h<|.inr q⟩ hp rfl).symm
def Z6i {L:Zy} {ln:LI} {v:Int} (h:gI L.2 v>0∨v∈ln):Ws L ln v=true:=
 (OF rfl (fun q=>h.elim (fun z=>by omega) q.2) rfl).symm
end Go.Abs
namespace Go.Abs
def XU (L:Zy) (v:Int):Zy:={ L with own:=L.2.set v.toNat (gI L.2 v-1) }
def BR {L:Zy} {v:Int}:Td L v=if 1<=gI L.2 v then some (XU L v) else none:=by
 rw [Td];by_cases h:gI L.2 v<1
 .rw [Zg h,Z8 om]
 .rw [Z8 h,Zg om];rfl
end Go.Abs
namespace Go.Abs
def Wt (L:Zy) (r:Int):Zy:=if gI L.1 r≠0 then XU L r else L
def Ro {L:Zy} {m:Nat} {r:Int} (ho:gI L.1 r≠0->1<=gI L.2 r) (hz:Vm ((Wt L r).own.drop m) ((Wt L r).tok.drop m)=true):UA m r L=some ((Wt L r).take m):=by
 rw [UA];by_cases h:gI L.1 r≠0
 .rw [Zg h,BR,Zg<|ho h];have e:Wt L r=XU L r:=Zg h;rw [e] at hz ⊢;exact Zg hz
 .rw [Z8 h];have e:Wt L r=L:=Z8 h;rw [e] at hz ⊢;exact Zg hz
def Zal {L:Zy} {m:Nat} {r:Int} (h:gI L.1 r≠0) (ho:¬1<=gI L.2 r):UA m r L=none:=by
 rw [UA,Zg h,BR,Z8 ho];rfl
def GU {L:Zy} {m:Nat} {r:Int} (hz:Vm ((Wt L r).own.drop m) ((Wt L r).tok.drop m)=false):UA m r L=none:=by
 rw [UA];by_cases h:gI L.1 r≠0
 .rw [Zg h,BR];have e:Wt L r=XU L r:=Zg h;rw [e] at hz
  split
  .exact Z8 (by rw [hz];simp)
  .rfl
 .rw [Z8 h];have e:Wt L r=L:=Z8 h;rw [e] at hz;exact Z8 (by rw [hz];simp)
def Iw {os ts:LI} {k:Nat} {o t:Int} {r:Bool} (h1:os[k]? = some o) (h2:ts[k]? = some t) (h:o≠0∨0<=t) (hr:Vm (os.drop k) (ts.drop k)=r):r=false:=by
 rw [Yc h1,Yc h2,Vm,Zg h] at hr;exact hr.symm
def Ix {os ts:LI} {k:Nat} {o t:Int} {r:Bool} (h1:os[k]? = some o) (h2:ts[k]? = some t) (h:¬(o≠0∨0<=t)) (hr:Vm (os.drop k) (ts.drop k)=r):Vm (os.drop (k+1)) (ts.drop (k+1))=r:=by
 rw [Yc h1,Yc h2,Vm,Z8 h] at hr;exact hr
def Z5z {os ts:LI} {k:Nat} {r:Bool} (h1:os.length<=k) (hr:Vm (os.drop k) (ts.drop k)=r):r=true:=by
 rw [Xk h1] at hr;rw [<-hr];simp [Vm]
end Go.Abs
namespace Go.Abs
def DH (o fs:LI):LI:=fs.foldl (fun o f=>o.set f.toNat (gI o f+1)) o
def Z7o {p:Int} {xs own:LI}:DH own (Ut xs p)=TO own p xs:=(Ml xs p own).symm
def Z7p {fs o r:LI} {k:Nat} {f x:Int} (h:fs[k]? = some f) (hx:gI o f=x) (hr:DH o (fs.drop k)=r):DH (o.set f.toNat (x+1)) (fs.drop (k+1))=r:=by
 rw [Yc h,DH,List.foldl_cons,hx] at hr;exact hr
def Pf {fs o r:LI} {k:Nat} (h:fs.length<=k) (hr:DH o (fs.drop k)=r):o=r:=by
 rw [Xk h] at hr;exact hr
def KH (n:Zm) (ln:LI) (L:Zy) (op v:Int):Option Zy:=if op=14 then AI L ln v else if op=15 then Td L v else Kc n.1 L op v
section
variable {n:Zm} {ln:LI} {L:Zy} {op v:Int} {am:List Yn} {a:Yn}
def Z8h (h:op=14) (ha:¬Ws L ln v=true):KH n ln L op v=none:=by rw [KH,Zg h,AI,Z8 ha]
def Z8i (h:op=14) (ha:Ws L ln v=true) {x:Int} (hx:gI L.2 v=x):KH n ln L op v=some { L with own:=L.2.set v.toNat (x+1) }:=by rw [KH,Zg h,AI,Zg ha,hx]
def Z8k (h:op=15) (ht:1<=gI L.2 v):KH n ln L op v=some (XU L v):=by rw [KH,Z8 om,Zg h,BR,Zg ht]
def Z8j (h:op=15) (ht:¬1<=gI L.2 v):KH n ln L op v=none:=by rw [KH,Z8 om,Zg h,BR,Z8 ht]
def PH (h1:¬op=14) (h2:¬op=15):KH n ln L op v=Kc n.1 L op v:=by rw [KH,Z8 h1,Z8 h2]
def Zi6 {ds:List Zh} (har:Vg ds L am) (hv:0<=v/\v<L.1.length) (ho:Ta am v=none):Kc ds L op v=none:=by
 have:=har.off v hv.1 hv.2;rw [ho] at this;rw [Kc,Zg<|.inl this]
def Zi5 {ds:List Zh} (har:Vg ds L am) (hv:0<=v/\v<L.1.length) (ho:Ta am v=some a) {xt:Int} (hxt:gI L.6 v=xt):Kc ds L op v=if ¬1<=gI L.2 v∨(op=17/\xt>=0) then none else
  some { XU L v with own:=TO (XU L v).own a.fst a.fds,tok:=if op=17 then L.6.set v.toNat a.fds.length else L.6 }:=by
 have:=har.off v hv.1 hv.2;rw [ho] at this;obtain ⟨h1,h2,h3⟩:=this;have hcon:¬gI L.4 v<0:=by omega
 rw [Kc,BR,hxt,<-h2,<-h3];by_cases ht:1<=gI L.2 v
 .rw [Zg ht];by_cases h17:op=17/\xt>=0
  .have c1:gI L.4 v<0∨(op=17/\0<=xt):=.inr h17;have c2:¬1<=gI L.2 v∨(op=17/\xt>=0):=.inr h17;rw [Zg c1,Zg c2]
  .have c1:¬(gI L.4 v<0∨(op=17/\0<=xt)):=fun q=>q.elim hcon h17
   have c2:¬(¬1<=gI L.2 v∨(op=17/\xt>=0)):=fun q=>q.elim (fun z=>z ht) h17
   rw [Z8 c1,Z8 c2]
 .rw [Z8 ht];have c2:¬1<=gI L.2 v∨(op=17/\xt>=0):=.inl ht;rw [Zg c2]
  split<;>rfl
end
end Go.Abs
namespace Go.Abs
def Z9m {ds:List Zh} {L:Zy} {q v:Int} (hk:Xf ds L q) (h1:1<=gI L.2 v) (hv:0<=v/\v<L.1.length):∀y∈(XU L v).own,0<=y/\y<=q:=by
 intro y hy;rcases Js hy with hy|rfl
 .exact ⟨hk.nn y hy,hk.bd y hy⟩
 .obtain ⟨x,hx⟩:=Jo (xs:=L.2) (j:=v.toNat) (by have:=hk.len.own;omega);have hg:=WH hx;have:=hk.bd x (Y0 hx);omega
end Go.Abs
end
section
namespace Go.Abs
def Vl (n:Zm) (us:LI) (op num:Int):LI->Nat->LI
 | [],_=>[]
 | a::r,i=>if Qk n us op num a i=true then (i:Int)::Vl n us op num r (i+1) else Vl n us op num r (i+1)
section
variable {n:Zm} {us:LI} {op num:Int}
def Zij {args acc r:LI} {k:Nat} {a:Int} (h:args[k]? = some a) (hc:Qk n us op num a k=true) (hr:acc++Vl n us op num (args.drop k) k=r) :
  (acc++[(k:Int)])++Vl n us op num (args.drop (k+1)) (k+1)=r:=by
 rw [Yc h,Vl,Zg hc] at hr;rw [Uq];exact hr
def Z1v {args acc r:LI} {k:Nat} {a:Int} (h:args[k]? = some a) (hc:¬Qk n us op num a k=true) (hr:acc++Vl n us op num (args.drop k) k=r) :
  acc++Vl n us op num (args.drop (k+1)) (k+1)=r:=by
 rw [Yc h,Vl,Z8 hc] at hr;exact hr
def Zii {args acc r:LI} {k:Nat} (h:args.length<=k) (hr:acc++Vl n us op num (args.drop k) k=r):acc=r:=by
 rw [Xk h,Vl,JF] at hr;exact hr
def Ni (h:¬TB op=true):∀(args:LI) (i:Nat),Vl n us op num args i=[]
 | [],_=>rfl
 | a::r,i=>by
  have hb:TB op=false:=by simpa using h
  rw [Vl,Z8 (by rw [Qk,hb];simp)];exact Ni h r (i+1)
def Nh:∀{args:LI} {i:Nat} {p:Int},p∈Vl n us op num args i->(i:Int)<=p/\p<i+args.length
 | [],_,_,h=>by simp [Vl] at h
 | a::r,i,p,h=>by
  rw [Vl] at h;simp only [YR]
  split at h
  .rcases YM.1 h with rfl|h
   .omega
   .have:=Nh h;omega
  .have:=Nh h;omega
def Z1u:∀(args:LI) (i:Nat),(Vl n us op num args i).length<=args.length
 | [],_=>by simp [Vl]
 | a::r,i=>by
  have:=Z1u r (i+1);rw [Vl];split<;>simp<;>omega
def Z0p (h:¬TB op=true) (i:Nat):¬V9 n op num i=true:=by
 have:op≠9:=fun q=>h (by rw [q];rfl)
 rw [V9,BC,Z8 this];simp
def C0 (n:Zm) (op num:Int) (args:LI) (k:Nat) (ls:LI):Prop:=∀x,x∈ls↔∃i,i<k/\args[i]? = some x/\V9 n op num i=true
def Z0n {args ls:LI} {k:Nat} (h:C0 n op num args k ls) (hl:¬V9 n op num k=true):C0 n op num args (k+1) ls:=by
 intro x;rw [h x]
 constructor
 .rintro ⟨i,q1,q2⟩;exact ⟨i,by omega,q2⟩
 .rintro ⟨i,q1,q2,q3⟩;rcases CK i k with q|q
  .exact ⟨i,q,q2,q3⟩
  .have:i=k:=by omega
   subst this;exact absurd q3 hl
def Zgv {args ls ls2:LI} {k:Nat} {a:Int} (ha:args[k]? = some a) (h:C0 n op num args k ls) (hl:V9 n op num k=true) (h2:∀x,x∈ls2↔x∈ls∨x=a):C0 n op num args (k+1) ls2:=by
 intro x;rw [h2 x,h x]
 constructor
 .rintro (⟨i,q1,q2⟩|rfl)
  .exact ⟨i,by omega,q2⟩
  .exact ⟨k,by omega,ha,hl⟩
 .rintro ⟨i,q1,q2,q3⟩;rcases CK i k with q|q
  .exact .inl ⟨i,q,q2,q3⟩
  .have:i=k:=by omega
   subst this;rw [ha] at q2;exact .inr (Qs q2).symm
def Zgx {args:LI}:C0 n op num args 0 []:=by intro x;simp
def Zgw {args ls:LI} {k:Nat} (h:C0 n op num args k ls) (hk:args.length<=k):∀x,x∈ls↔∃i,args[i]? = some x/\V9 n op num i=true:=by
 intro x;rw [h x]
 constructor
 .rintro ⟨i,_,q⟩;exact ⟨i,q⟩
 .rintro ⟨i,q⟩;exact ⟨i,by have:=(Xv.1 q.1).1;omega,q⟩
end
def J4 (args:LI):LI->Zy->Option Zy
 | [],L=>some L
 | k::r,L=>match Td L (gI args k) with
  | none=>none
  | some L1=>J4 args r L1
def G7 {n:Zm} {op num:Int} {all:LI}:∀{args:LI} {i:Nat} {L:Zy},all.drop i=args->K0 n op num args i L=J4 all (Vl n L.1 op num args i) L
 | [],i,L,_=>rfl
 | a::r,i,L,h=>by
  have hr:all.drop (i+1)=r:=by rw [<-List.drop_drop,h];rfl
  have ha:gI all (i:Int)=a:=by
   have:(all.drop i)[0]? = some a:=by rw [h];rfl
   rw [CF] at this;exact WH (by simpa using this)
  rw [K0,Vl]
  split
  .rw [J4,ha]
   cases ht:Td L a with
   | none=>rfl
   | some L1=>
    simp only;rw [G7 hr,(J3 ht).2.1]
  .exact G7 hr
def Znb {args ps:LI} {k:Nat} {L:Zy} {p x:Int} {r:Option Zy} (h:ps[k]? = some p) (hx:gI args p=x) (ht:1<=gI L.2 x) (hr:J4 args (ps.drop k) L=r):J4 args (ps.drop (k+1)) (XU L x)=r:=by
 rw [Yc h,J4,hx,BR,Zg ht] at hr;exact hr
def Znc {args ps:LI} {k:Nat} {L:Zy} {p x:Int} {r:Option Zy} (h:ps[k]? = some p) (hx:gI args p=x) (ht:¬1<=gI L.2 x) (hr:J4 args (ps.drop k) L=r):r=none:=by
 rw [Yc h,J4,hx,BR,Z8 ht] at hr;exact hr.symm
def Zna {args ps:LI} {k:Nat} {L:Zy} {r:Option Zy} (h:ps.length<=k) (hr:J4 args (ps.drop k) L=r):r=some L:=by
 rw [Xk h,J4] at hr;exact hr.symm
def Hb {n:Zm} {op num:Int} {ln:LI} {L:Zy} {all:LI}:∀{args:LI} {i:Nat},all.drop i=args ->
  (JV n op num ln L args i=true↔∀j x,i<=j->all[j]? = some x->V9 n op num j=true->Ws L ln x=true)
 | [],i,h=>by
  simp only [JV,true_iff];intro j x hj hx _;have:=(Xv.1 hx).1;have hl:=Ys List.length h;simp at hl;omega
 | a::r,i,h=>by
  have hr:all.drop (i+1)=r:=by rw [<-List.drop_drop,h];rfl
  have ha:all[i]? = some a:=by
   have:(all.drop i)[0]? = some a:=by rw [h];rfl
   rw [CF] at this;simpa using this
  rw [JV]
  split
  .rename_i q;simp only [Bool.false_eq_true,false_iff];exact fun z=>q.2 (z i a (X8 _) ha q.1)
  .rename_i q;rw [Hb hr];constructor
   .intro z j x hj hx hl;rcases CK i j with hij|hij
    .exact z j x hij hx hl
    .have:j=i:=by omega
     subst this;rw [ha] at hx;cases hx
     exact Wp.1 fun y=>q ⟨hl,y⟩
   .exact fun z j x hj=>z j x om
def S9 {n:Zm} {ln:LI} {L L1:Zy} {op num into:Int} {args ls:LI} (h1:J4 args (Vl n L.1 op num args 0) L=some L1) (hl:∀x,x∈ls↔∃i,args[i]? = some x/\V9 n op num i=true) :
  ((∀x∈ls,Ws L1 ln x=true)->Tm n ln L op num into args=JW L1 into args.length)/\((∃x∈ls,¬Ws L1 ln x=true)->Tm n ln L op num into args=none):=by
 rw [Tm,G7 (all:=args) (args:=args) (i:=0) rfl,h1];simp only;constructor
 .intro h;rw [Zg ((Hb (all:=args) (args:=args) (i:=0) rfl).2 fun j x _ hx hj=>h x ((hl x).2 ⟨j,hx,hj⟩))]
 .rintro ⟨x,hx,hd⟩;rw [Z8];intro z;obtain ⟨j,q1,q2⟩:=(hl x).1 hx;exact hd ((Hb (all:=args) (args:=args) (i:=0) rfl).1 z j x (JG _) q1 q2)
def Zdg {n:Zm} {ln:LI} {L:Zy} {op num into:Int} {args:LI} (h1:J4 args (Vl n L.1 op num args 0) L=none):Tm n ln L op num into args=none:=by
 rw [Tm,G7 (all:=args) (args:=args) (i:=0) rfl,h1]
end Go.Abs
namespace Go.Abs
def Zkv {n:Zm} (hn:YZ n) (num:Int):(UV n num).lnt.length<=4194304:=by
 rw [UV,Tx]
 cases h:n.2[num.toNat]? with
 | none=>simp
 | some r=>exact hn.lent r (Y0 h)
def Zgu {n:Zm} {op num:Int} {k:Nat}:V9 n op num k=true↔(op=9/\(k:Int)∈(UV n num).lnt):=by
 rw [V9,BC,decide_eq_true_iff];by_cases h:op=9
 .rw [Zg h,UV,Tx]
  cases n.2[num.toNat]? with
  | none=>simp
  | some r=>simp [h,Wb]
 .rw [Z8 h];simp [h]
end Go.Abs
namespace Go.Abs
def clS {xs:LI} {p:LI->Prop}:Dw fun r h=>∃(vp vl:Value) (ls:LI),r=.tup [ZT xs vp,ZT ls vl]/\h=[.tail vp 1,.tail vl 1]/\p ls:=by
 rintro _ _ ⟨vp,vl,ls,rfl,rfl,_⟩;refine ⟨.tup fun y hy=>?_,by simp [Dx]⟩;simp only [YM,List.not_mem_nil,or_false] at hy;rcases hy with rfl|rfl
 .exact .own (k:=1) (Ip _)<|by simp
 .exact .own (k:=1) (Ip _)<|by simp
end Go.Abs
end
section
namespace Go.Abs
section
variable {n:Zm} {ln:LI}
def Zdh {L L':Zy} {op num into q:Int} {args:LI} {ds:List Zh} (hk:Xf ds L q) (h:Tm n ln L op num into args=some L'):L'.1=L.1/\L'.3=L.3/\L'.4=L.4/\L'.5=L.5:=by
 rw [Tm] at h
 cases ht:K0 n op num args 0 L with
 | none=>rw [ht] at h;cases h
 | some L1=>
  rw [ht] at h;obtain ⟨_,h1,h2,h3,h4,_⟩:=Hc hk ht;simp only at h
  split at h
  .rw [JW] at h
   split at h
   .split at h
    .cases h
    .cases h;exact ⟨h1,h2,h3,h4⟩
   .cases h;exact ⟨h1,h2,h3,h4⟩
  .cases h
def Zig {L L1:Zy} {s:Z4} {q:Int} {ds:List Zh} (hk:Xf ds L q) (h:Kn n ln L s.op s.num s.into s.args (K9 n ln L s.op s.num s.args s.kids)=some L1):L1.vars=L.1/\L1.par=L.3/\L1.con=L.4/\L1.fst=L.5:=by
 rw [Kn] at h
 split at h
 .obtain ⟨h1,h2,h3,h4,_⟩:=Lp h;exact ⟨h1,h2,h3,h4⟩
 split at h
 .obtain ⟨_,h1,h2,h3,h4,_⟩:=J3 h;exact ⟨h1,h2,h3,h4⟩
 split at h
 .obtain ⟨h1,h2,h3,h4,_⟩:=N7 h;exact ⟨h1,h2,h3,h4⟩
 split at h
 .split at h
  .cases h
  .cases hks:s.kids with
   | nil=>rw [hks,K9] at h;cases h
   | cons b bs=>
    rw [hks,K9] at h;unfold Cj at h
    cases hb:VD n ln (U3 n.1 L s.op s.num s.args 0) L.1.length b with
    | none=>rw [hb] at h;cases h
    | some one=>
     rw [hb] at h;simp only at h
     split at h
     .cases h;exact ⟨rfl,rfl,rfl,rfl⟩
     .cases h
 .exact Zdh hk h
def Z4v (hn:YZ n) {s:Z4} {L L':Zy} {q:Int} {am:List Yn} (hk:Xf n.1 L q) (hq:0<=q) (hty:0<=Y6 n L.1 s) (h:UY n ln L s=some L') (ha:Vg n.1 L am):Vg n.1 L' am:=by
 rw [O1] at h
 cases hp:Kn n ln L s.op s.num s.into s.args (K9 n ln L s.op s.num s.args s.kids) with
 | none=>rw [hp] at h;cases h
 | some L1=>
  rw [hp] at h;obtain ⟨h1,h2,h3,h4⟩:=Zig hk hp;have hk1:=(Cs hn hk hq (Dn hty) hp).1;have ha1:Vg n.1 L1 am:=ha.same (by rw [h1]) h2 h3 h4;rw [JR] at h
  split at h
  .cases h;exact ha1.grow hk1.len
  .cases h;exact ha1
def Ij (hn:YZ n) {am:List Yn}:∀{xs:List Z4} {L L':Zy} {q:Int} {vs:LI},Xf n.1 L q->0<=q->Vg n.1 L am->XJ n xs L.1=some vs->VN n ln L xs=some L' ->
  Xf n.1 L' (q+4*Ya xs)/\L'.1=vs/\Vg n.1 L' am
 | [],L,L',q,vs,hk,hq,ha,ht,h=>by
  rw [VN] at h;rw [XJ] at ht;cases h;cases ht
  exact ⟨by simpa [Ya] using hk,rfl,ha⟩
 | s::r,L,L',q,vs,hk,hq,ha,ht,h=>by
  rw [VN] at h
  cases hs:UY n ln L s with
  | none=>rw [hs] at h;cases h
  | some L1=>
   rw [hs] at h;obtain ⟨g1,g2⟩:=Ez ht;obtain ⟨k1,k2⟩:=Ih hn hk hq g1 hs;have:=Ij hn (xs:=r) k1 (by have:=s.sz_pos;omega) (Z4v hn hk hq g1 hs ha) (by rw [k2];exact g2) h;refine ⟨?_,this.2⟩;rw [show q+4*Ya (s::r)=q+4*s.sz+4*Ya r by rw [Ya];omega];exact this.1
end
end Go.Abs
namespace Go.Abs
def CQ (n:Zm):Prop:=∀r∈n.2,∀i:Nat,(i:Int)∈r.2->∃t,r.1[i]? = some t/\t≠0
def Z0m {ps:LI}:∀{ls:LI} {prev:Option Int},Kl ps ls prev=true->∀v∈ls,(0<=v/\v<=(ps.length:Int)-1)/\ps[v.toNat]?≠some 0
 | [],_,_,v,h=>by cases h
 | x::r,prev,h,v,hv=>by
  rw [Kl] at h
  split at h
  .rename_i q;rcases YM.1 hv with rfl|hv
   .exact ⟨q.1,q.2.1⟩
   .exact Z0m h v hv
  .cases h
def Z0q:∀{rs:List Y9},Kb rs=true->∀r∈rs,Ab r.1 r.2=true
 | [],_,r,h=>by cases h
 | x::rs,h,r,hr=>by
  rw [Kb] at h
  split at h
  .rcases YM.1 hr with rfl|hr
   .assumption
   .exact Z0q h r hr
  .cases h
def Zhf {n:Zm} (h:VV n=true):CQ n:=by
 simp only [VV,J6,We,decide_eq_true_eq] at h;obtain ⟨_,_,h6⟩:=h;intro r hr i hi;obtain ⟨h1,h2⟩:=Z0m (Z0q h6 r hr) i hi;obtain ⟨t,ht⟩:=Jo (xs:=r.1) (j:=i) om;refine ⟨t,ht,fun q=>h2 ?_⟩;rw [Ua,ht,q]
def Ga {us:LI}:∀{args tys:LI} {i:Nat} {a t:Int},TJ us args tys=true->args[i]? = some a->tys[i]? = some t->Xq us a=some t
 | [],_,i,a,t,_,h,_=>by simp at h
 | x::r,[],i,a,t,_,_,h=>by simp at h
 | x::r,y::ys,i,a,t,h,ha,ht=>by
  rw [TJ] at h
  split at h
  .rename_i hq
   cases i with
   | zero=>simp at ha ht;subst ha;subst ht;exact hq
   | succ i=>exact Ga h (by simpa using ha) (by simpa using ht)
  .cases h
def Zgy {n:Zm} (hl:CQ n) {us:LI} {s:Z4} (h:0<=Y6 n us s):∀(i:Nat) (a:Int),s.args[i]? = some a->V9 n s.op s.num i=true->gI us a≠0:=by
 intro i a ha hla;rw [V9,BC,decide_eq_true_iff] at hla;by_cases h9:s.op=9
 .rw [Zg h9] at hla;have hn:=(Dn h).num h9;obtain ⟨r,hr⟩:=Jo (xs:=n.2) (j:=s.num.toNat) om;rw [hr] at hla;obtain ⟨t,ht,h0⟩:=hl r (Y0 hr) i hla;rw [Av] at h
  split at h
  .omega
  rw [Z8 om,Z8 om,Z8 om,Z8 om,Z8 om,Z8 om,Zg<|.inl h9,UM,Qx om hr] at h;simp only [Jw] at h;rw [Zg h9] at h
  split at h
  .rename_i hty;rw [Wh] at hty;have hq:Xq us a=some t:=by
    first
    | exact Ga hty ha ht
    | exact Ga (Bool.and_eq_true_iff.1 hty).2 ha ht
    | exact Ga (Bool.and_eq_true_iff.1 hty).1 ha ht
   rw [WH (KC hq).2];exact h0
  .omega
 .rw [Z8 h9] at hla;cases hla
end Go.Abs
namespace Go.Abs
def Zkp {n:Zm} {us:LI} {s:Z4} (h:∀t∈us,0<=t) (h0:0<=Y6 n us s):∀t∈Ke n us s,0<=t:=by
 rw [Ke];split
 .exact Fz h fun t ht=>by rw [XI.1 ht];exact h0
 .exact h
end Go.Abs
namespace Go.Abs
def La {c:Bool} {ok:Int->Prop}:Dw fun r h=>∃t:Int,r=.tup [.i t,.b c]/\h=[]/\ok t:=by
 rintro _ _ ⟨t,rfl,rfl,_⟩;refine ⟨.tup fun y hy=>?_,by simp⟩;simp only [YM,List.not_mem_nil,or_false] at hy;rcases hy with rfl|rfl<;>exact .val
section
variable {n:Zm} {ln:LI} {L:Zy} {s:Z4}
def Zaz {op t:Int} {r:Option Zy} (h:¬XV op=true):JR L op t r=r:=by
 cases r with
 | none=>rfl
 | some X=>exact Z8 h
def Z4x {x:Int} (hc:Yv s.op=true) (hx:gI s.args 0=x):UY n ln L s=KH n ln L s.op x:=by
 have hop:14<=s.op/\s.op<=17:=by simpa [Yv] using hc
 have hd:¬XV s.op=true:=by rw [XV];simp;omega
 rw [Tc,Zaz hd,KH];by_cases h14:s.op=14
 .rw [Zg h14];exact Nb h14 hx
 rw [Z8 h14];by_cases h15:s.op=15
 .rw [Zg h15];exact Nc h15 hx
 rw [Z8 h15];exact Nf om hx
def O2 {L1:Zy} {t:Int} (hP:Ko n ln L s=some L1) (h0:0<=Y6 n L.1 s) (hnc:¬Yv s.op=true) (ht:t=Y6 n L.1 s):UY n ln L s=some (L1.grow t (min t 1) (-1)):=by
 have hd:XV s.op=true:=by rw [F3 h0];simpa using hnc
 rw [Tc,hP];show (if XV s.op=true then _ else _)=_
 rw [Zg hd,ht,show (if Y6 n L.1 s≠0 then (1:Int) else 0)=min (Y6 n L.1 s) 1 by split<;>omega]
def Z4y (hP:Ko n ln L s=none):UY n ln L s=none:=by rw [Tc,hP];rfl
def Ng (h1:¬Yv s.op=true) (h2:¬(s.op=7∨s.op=8)):Ko n ln L s=Tm n ln L s.op s.num s.into s.args:=by
 have hop:¬(14<=s.op/\s.op<=17):=by simpa [Yv] using h1
 rw [Ko,Kn,Z8 om,Z8 om,Z8 om,Z8 h2]
def Zif (h1:¬Yv s.op=true) (h2:¬(s.op=7∨s.op=8)) (h3:¬TB s.op=true) (h0:0<=Y6 n L.1 s):Ko n ln L s=some L:=by
 rw [Ng h1 h2,Tm,G7 (all:=s.args) (args:=s.args) (i:=0) rfl,Ni h3];show (if JV n s.op s.num ln L s.args 0=true then JW L s.into s.args.length else none)=some L
 rw [Zg ((Hb (all:=s.args) (args:=s.args) (i:=0) rfl).2 fun j x _ _ hl=>absurd hl<|Z0p h3 j),JW];have hi:¬0<s.into:=by
  intro hi;rw [Av] at h0
  split at h0
  .omega
  .rename_i hq;have hv:U9 L.1 s.op s.into=true:=Wp.1 fun z=>hq<|.inr<|.inl z
   rw [U9,Z8 om] at hv
   split at hv
   .rename_i h6;exact h3 (by rw [h6];rfl)
   .cases hv
 rw [Z8 hi]
end
end Go.Abs
namespace Go.Abs
def Qa (L:Zy) (am:List Yn) (s:Z4) (m:LI):List Yn:=if s.op=8 then am++[⟨gI s.args 0,(L.1.length:Nat),m,false⟩] else am
def A5 (n:Zm) (L:Zy) (s:Z4) (k:Nat):Zy:=if s.op=8 then { L with con:=L.4.set (gI s.args 0).toNat (gI (Y1 n.1 s.num) k),fst:=L.5.set (gI s.args 0).toNat L.1.length } else L
def CA {n:Zm} {L:Zy} {s:Z4} {k:Nat}:(A5 n L s k).vars=L.1:=by rw [A5];split<;>rfl
def Ex {n:Zm} {L:Zy} {s:Z4} {k:Nat}:(A5 n L s k).own=L.2:=by rw [A5];split<;>rfl
def Ey {n:Zm} {L:Zy} {s:Z4} {k:Nat}:(A5 n L s k).tok=L.6:=by rw [A5];split<;>rfl
def Z4u {n:Zm} {L:Zy} {s:Z4} {k:Nat} (h:WT L):WT (A5 n L s k):=by rw [A5];split;exact h.arm;exact h
def Z4t {n:Zm} {L:Zy} {s:Z4} {k:Nat} {m:LI} (hop:s.op=7∨s.op=8) (hm:(Xi n.1 s.op s.num)[k]? = some m):JT (A5 n L s k) (gI s.args 0) m=U3 n.1 L s.op s.num s.args k:=by
 rw [A5,U3];by_cases h8:s.op=8
 .rw [Zg h8,Zg h8];obtain ⟨c,hc,rfl⟩:=IV h8 hm;have hgc:gI (Y1 n.1 s.num) (k:Int)=c:=by rw [gI];simp [hc]
  rw [AE,hgc]
 .rw [Z8 h8,Z8 h8];rw [Xi,Zg om] at hm;have:m=[]:=by
   match k,hm with
   | 0,hm=>simpa using hm.symm
   | 1,hm=>simpa using hm.symm
   | k+2,hm=>simp at hm
  rw [this];rfl
def OO {n:Zm} {L:Zy} {am:List Yn} {s:Z4} {k:Nat} {m:LI} (hn:YZ n) (ha:Vg n.1 L am) (hl:WT L) (hop:s.op=7∨s.op=8) (hx:0<=gI s.args 0/\gI s.args 0<L.1.length) (hm:(Xi n.1 s.op s.num)[k]? = some m) :
  Vg n.1 (U3 n.1 L s.op s.num s.args k) (Qa L am s m):=by
 rw [Qa,U3];by_cases h8:s.op=8
 .rw [Zg h8,Zg h8];obtain ⟨c,hc,rfl⟩:=IV h8 hm;have hgc:gI (Y1 n.1 s.num) (k:Int)=c:=by rw [gI];simp [hc]
  rw [hgc];exact ha.arm hl hx (PN hn.decls hc).1
 .rw [Z8 h8,Z8 h8];exact ha
end Go.Abs
namespace Go.Abs
def Ii {n:Zm}:∀{xs:List Z4} {us vs:LI},XJ n xs us=some vs->us.length<=vs.length/\vs.length<=us.length+Ya xs
 | [],us,vs,h=>by rw [XJ] at h;cases h;simp [Ya]
 | s::r,us,vs,h=>by
  obtain ⟨_,g2⟩:=Ez h;have:=Ii g2;have h2:=FX n us s;rw [Ya];omega
def ON {L:Zy} {am:List Yn} {s:Z4} {m:LI}:(Qa L am s m).length<=am.length+1:=by rw [Qa];split<;>simp
def OP {n:Zm} (hty:Jb n) {op num:Int} {k:Nat} {m:LI} (h:(Xi n.1 op num)[k]? = some m):∀f∈m,0<=f:=by
 by_cases h7:op=7
 .rw [Xi,Zg h7] at h;have:m=[]:=by
   match k,h with
   | 0,h=>simpa using h.symm
   | 1,h=>simpa using h.symm
   | k+2,h=>simp at h
  rw [this];intro f hf;cases hf
 .rw [Xi,Z8 h7,Tx] at h
  cases hc:(Y1 n.1 num)[k]? with
  | none=>rw [hc] at h;cases h
  | some c=>rw [hc] at h;cases h;exact hty.fields c
def GT {L:Zy} {r:Int}:(Wt L r).own.length=L.2.length/\(Wt L r).tok.length=L.6.length/\(Wt L r).vars=L.1:=by
 rw [Wt];split
 .exact ⟨UO,U,U⟩
 .exact ⟨U,U,U⟩
end Go.Abs
namespace Go.Abs
def Ik {L M:Zy} {n:Zm} {ln:LI} {xs:List Z4} {f:Zy->Option Zy} (h:VN n ln L xs=some M):EB (VN n ln L xs) f=f M:=by rw [h];rfl
end Go.Abs
end
namespace Go.Abs

end Go.Abs
section
namespace Go.Abs
def Z5y:∀{os ts:LI} {m:Nat},os.length=ts.length->(Vm os ts=true↔Vm (os.take m) (ts.take m)=true/\Vm (os.drop m) (ts.drop m)=true)
 | [],[],m,_=>by simp [Vm]
 | [],_::_,_,h=>by simp at h
 | _::_,[],_,h=>by simp at h
 | o::os,t::ts,0,h=>by simp [Vm]
 | o::os,t::ts,m+1,h=>by
  simp only [CJ,List.drop_succ_cons];rw [Vm,Vm]
  split
  .simp
  .exact Z5y<|by simpa using h
def Z2s {n:Zm} {r:Y9} {M:Zy} (hP:VN n r.2 (T8 r) r.4.steps=some M) (hl:M.2.length=M.6.length):KD n r=(UA 0 r.4.result M).isSome:=by
 rw [KD,Ag,hP];show (match UA r.1.length r.4.result M with|none=>false|some L=>(T1 L 0).isSome)=_
 rw [UA,UA]
 cases hT:(if gI M.1 r.4.result≠0 then Td M r.4.result else some M) with
 | none=>rfl
 | some M2=>
  have h2:M2.2.length=M2.6.length:=by
   split at hT
   .have:=J3 hT;rw [this.2.2.2.2.2.1,this.2.2.2.2.2.2,UO];exact hl
   .cases hT;exact hl
  show (match T1 M2 r.1.length with|none=>false|some L=>(T1 L 0).isSome)=(T1 M2 0).isSome
  have key:=Z5y (m:=r.1.length) h2;rw [T1,T1];by_cases h1:Vm (M2.2.drop r.1.length) (M2.6.drop r.1.length)=true
  .rw [Zg h1];show (T1 (M2.take r.1.length) 0).isSome=_
   rw [T1];by_cases h3:Vm (M2.2.take r.1.length) (M2.6.take r.1.length)=true
   .rw [Zg (show Vm ((M2.take r.1.length).own.drop 0) ((M2.take r.1.length).tok.drop 0)=true from h3),Zg (show Vm (M2.2.drop 0) (M2.6.drop 0)=true from key.2 ⟨h3,h1⟩)];rfl
   .rw [Z8 (show ¬Vm ((M2.take r.1.length).own.drop 0) ((M2.take r.1.length).tok.drop 0)=true from h3),Z8 (show ¬Vm (M2.2.drop 0) (M2.6.drop 0)=true from fun z=>h3 (key.1 z).1)]
  .rw [Z8 h1,Z8 (show ¬Vm (M2.2.drop 0) (M2.6.drop 0)=true from fun z=>h1 (key.1 z).2)];rfl
def Zjh {n:Zm} {r:Y9} (hP:VN n r.2 (T8 r) r.4.steps=none):KD n r=false:=by rw [KD,Ag,hP];rfl
end Go.Abs
namespace Go.Abs
def NK {xs:LI} {k:Nat} {a b:Int} (h:xs.length=k):(xs++[a]).set k b=xs++[b]:=by subst h;simp
end Go.Abs
namespace Go.Abs
def Z6z {ds:List Zh}:Vg ds ⟨[],[],[],[],[],[]⟩ []:=⟨fun a ha=>(nomatch ha),fun a ha=>(nomatch ha),fun v h0 h1=>(by have h2:v<((0:Nat):Int):=h1;omega),fun v h0 h1=>(by have h2:v<((0:Nat):Int):=h1;omega)⟩
def Z1s {ds:List Zh} {lent:LI}:∀{ps:LI} {i:Nat} {L:Zy},WT L->Vg ds L []->Vg ds (KZ lent ps i L) []
 | [],_,_,_,h=>h
 | t::r,i,L,hl,h=>by rw [KZ];exact Z1s hl.grow (h.grow hl)
def Z0y {ds:List Zh} (rt:Y9):Vg ds (T8 rt) []:=Z1s ⟨rfl,rfl,rfl,rfl,rfl⟩ Z6z
end Go.Abs
end
section
namespace Go.Abs
end Go.Abs
namespace Go.Abs
end Go.Abs
namespace Go.Abs
end Go.Abs
namespace Go.Abs
end Go.Abs
end
namespace Go.Abs
def Zz (op v:Int):Z4:=.mk op 0 0 [v] []
def VK (ds:List Zh) (num:Int) (k:Nat):LI:=((Y1 ds num).map<|ZZ ds)[k]?.getD []
section
variable {ds:List Zh} {am:List Yn} {m:Nat}
end
def GZ {ds:List Zh} {num:Int} {k:Nat} {m:LI} (h:((Y1 ds num).map (ZZ ds))[k]? = some m):VK ds num k=m:=by rw [VK,h];rfl
def LS {ds:List Zh} (hd:Wq ds) (num:Int) (k:Nat):(VK ds num k).length<=3:=by
 rw [VK,Tx]
 cases (Y1 ds num)[k]? with
 | none=>simp
 | some c=>exact Uw hd c
def Zap (xs ys:List WA):Jm (xs++ys)=Jm xs++Jm ys:=by simp [LR]
def LO (xs ys:List XP):KN (xs++ys)=KN xs++KN ys:=by simp [LP]
def Zaq (x:WA):Jm [x]=[x.er]:=by simp [LR]
def LQ (x:XP):KN [x]=[x.er]:=by simp [LP]
def G5 {xs:List Z4} {k:Nat} {s:Z4} (h:xs[k]? = some s):Ya (xs.take (k+1))=Ya (xs.take k)+s.sz:=by
 induction xs generalizing k with
 | nil=>simp at h
 | cons t r ih=>
  cases k with
  | zero=>simp at h;subst h;simp [Ya]
  | succ k=>rw [CJ,CJ,Ya,Ya,ih (by simpa using h)];omega
def Ku (xs:List Z4) (k:Nat):Ya (xs.take k)<=Ya xs:=by
 induction xs generalizing k with
 | nil=>simp
 | cons t r ih=>
  cases k with
  | zero=>simp [Ya]
  | succ k=>have:=ih k;rw [CJ,Ya,Ya];omega
def Zkn {n:Zm} {us:LI} {s:Z4} (g:0<=Y6 n us s) (h:Yv s.op=true):Ke n us s=us:=by rw [Ke,F3 g,h];rfl
def Zkm {n:Zm} {us:LI} {s:Z4} (g:0<=Y6 n us s) (h:¬Yv s.op=true):(Ke n us s).length=us.length+1:=by
 rw [Ke,F3 g,JE.2 h];simp
def Zko {n:Zm} {us:LI} {s:Z4} (g:0<=Y6 n us s):(Ke n us s).length=if Yv s.op=true then us.length else us.length+1:=by
 split
 .rw [Zkn g (by assumption)]
 .exact Zkm g<|by assumption
def Zg7 {n:Zm} {us:LI} {s:Z4} (g:0<=Y6 n us s) (h:0<s.kids.length):s.op=7∨s.op=8:=by
 rw [Av] at g
 split at g
 .omega
 .rename_i q;exact B0 fun z=>q<|.inr<|.inr ⟨h,fun e=>z<|.inl e,fun e=>z<|.inr e⟩
def D4 (ys:List VA):(Zc (VJ ys)).length=ys.length*3:=by rw [T3 _ (Rb _)];simp
def RC (ys:List VQ):(Zc (UK ys)).length=ys.length:=by rw [T3 _ (Ra _)];simp
def RB (ys:List Zh):(Zc (YF ys)).length=ys.length*3:=by rw [T3 _ (Jl _)];simp
def Zb8 (ys:List Yo):(Zc (XW ys)).length=ys.length:=by rw [T3 _ (F7 _)];simp
def Zb9 {ds:List Zh} {k:Nat} {d:Zh} (h:ds[k]? = some d):Zc (YF<|ds.drop k)=Qf d++Zc (YF<|ds.drop (k+1)):=by rw [Yc h];rfl
def Zb7 {ds:List Yo} {k:Nat} {d:Yo} (h:ds[k]? = some d):Zc (XW<|ds.drop k)=Ee d++Zc (XW<|ds.drop (k+1)):=by rw [Yc h];rfl
def Z2w {ys:List VA} {ds:List Zh} {k:Nat} {d:Zh} (h:ds[k]? = some d):Zc (VJ ys++YF (ds.drop k))=Zc (VJ ys)++(Qf d++Zc (YF<|ds.drop (k+1))):=by
 rw [Uk,Zb9 h]
def Zjl {ys:List VQ} {ds:List Yo} {k:Nat} {d:Yo} (h:ds[k]? = some d):Zc (UK ys++XW (ds.drop k))=Zc (UK ys)++(Ee d++Zc (XW<|ds.drop (k+1))):=by
 rw [Uk,Zb7 h]
def Z2v {ys:List VA} {ds:List Zh} {k:Nat} (h:ys.length=k) (hk:k<=ds.length):(Zc (VJ ys++YF (ds.drop k))).length=ds.length*3:=by
 rw [Uk,Yy,D4,RB,B1];omega
def Z2u {ys:List VQ} {ds:List Yo} {k:Nat} (h:ys.length=k) (hk:k<=ds.length):(Zc (UK ys++XW (ds.drop k))).length=ds.length*1:=by
 rw [Uk,Yy,RC,Zb8,B1];omega
def Zjn {ys:List VA} {ds:List Zh} {k:Nat} {f t:Int} {zs:List VQ} {u:Value}:Zc (VJ ys)++([.i f,.i t,FB zs u]++Zc (YF<|ds.drop (k+1)))=Zc (VJ (ys++[VA.mk f t zs u])++YF (ds.drop (k+1))):=by
 rw [Za8,Uk,Uk,Uq];rfl
def Zjk {ys:List VQ} {ds:List Yo} {k:Nat} {xs:LI} {u:Value}:Zc (UK ys)++([ZT xs u]++Zc (XW<|ds.drop (k+1)))=Zc (UK (ys++[VQ.mk xs u])++XW (ds.drop (k+1))):=by
 rw [Za7,Uk,Uk,Uq];rfl
def Zjm {ys:List VA} {ds:List Zh} {k:Nat} (h:ds.length<=k):Zc (VJ ys++YF (ds.drop k))=Zc (VJ ys):=by rw [Xk h];simp [YF]
def Zjj {ys:List VQ} {ds:List Yo} {k:Nat} (h:ds.length<=k):Zc (UK ys++XW (ds.drop k))=Zc (UK ys):=by rw [Xk h];simp [XW]
def Zjo {A B:List AV} {x y z x':AV} {o:Nat} (hA:A.length=o):(A++([x,y,z]++B)).take (o+2)++[x']++(A++([x,y,z]++B)).drop (o+2+1)=A++([x,y,x']++B):=by
 have h:=Cu (A:=A++[x,y]) (xs:=[z]) (ys:=[x']) (B:=B) (o:=o+2) (by simp [hA]) rfl
 simpa using h
def Zjp {A B:List AV} {x y z:AV} {o:Nat} (hA:A.length=o):((A++([x,y,z]++B)).drop (o+2)).take 1=[z]:=by
 have h:=HV (A:=A++[x,y]) (xs:=[z]) (B:=B) (o:=o+2) (by simp [hA])
 simpa using h
def Zjq {A B:List AV} {x y z x':AV} {o:Nat} (hA:A.length=o):(A++([x,y,z]++B)).set (o+2) x'=A++([x,y,x']++B):=by
 subst hA;rw [List.set_append_right _ _ om];simp
def Z61 {f t:Int} {zs:List VQ} {u:Value} {cs:List Yo} (h:zs.map VQ.er=cs):[VA.mk f t zs u].map VA.er=[Zh.mk f t cs]:=by
 rw [<-h];rfl
def XP.eta (y:XP):XP.mk y.steps y.sv y.result=y:=by cases y;rfl
def Zh8 {xs:List Vn} {rs:List Y9} {g:Y9->Y9} {k:Nat} {r:Y9} {R:Vn} (h:xs.map Vn.er=(rs.take k).map g) (hr:rs[k]? = some r) (hy:R.er=g r) :
  (xs++[R]).map Vn.er=(rs.take (k+1)).map g:=by
 rw [List.map_append,h,WO hr,List.map_append,Uh,hy];rfl
def Qj:∀(xs ys:List Z4),Ya (xs++ys)=Ya xs+Ya ys
 | [],ys=>by simp [Ya]
 | x::r,ys=>by rw [QQ,Ya,Ya,Qj r ys];omega
def GC (op v:Int):(Zz op v).sz=2:=by rw [Zz,Z4.sz];simp [YT]
def NZ (op:Int):∀l:LI,Ya (l.map<|Zz op)=2*l.length
 | []=>by simp [Ya]
 | x::r=>by rw [Uh,Ya,GC,NZ op r,YR];omega
section
variable {ds:List Zh} (hd:Wq ds)
include hd
end
def Ck:Zm:=⟨[],[]⟩
def Gp {n:Zm} (hz:WF n) (h:UQ n=true):YZ n/\VV n=true/\∀r∈n.2,0<=YY n r.1 r.4:=by
 rw [UQ,We] at h;obtain ⟨h1,h2⟩:=EE hz h.1;rw [Wo,We] at h;exact ⟨h1,h.1.1,h2⟩
section
variable {ds:List Zh} {cons first:LI}
end
section
variable {ds:List Zh} (hd:Wq ds)
include hd
end
def Wa:List Z4->Nat
 | []=>0
 | s::r=>if s.op=14∨s.op=15 then Wa r+1 else 0
def WQ (op:Int):List Z4->LI
 | []=>[]
 | s::r=>if s.op=op then gI s.args 0::WQ op r else WQ op r
def TG:LI->Int->LI->LI->LI × LI
 | [],_,D,R=>(D,R)
 | f::r,q,D,R=>if f≠0/\q∈D then TG r (q+1) (D.erase q) R else if f≠0 then TG r (q+1) D (R++[q]) else TG r (q+1) D R
def BG (xs:List Z4) (x:Int) (fs:LI) (q:Int):LI × LI:=TG fs q (WQ 14<|xs.take<|Wa xs) ((WQ 15<|xs.take<|Wa xs).erase x)
def AB (xs:List Z4) (x:Int) (fs:LI) (q:Int):List Z4:=
 if x∈WQ 15 (xs.take<|Wa xs)/\fs.length≠0 then (BG xs x fs q).1.map (Zz 14)++[Zz 16 x]++(BG xs x fs q).2.map (Zz 15)++xs.drop (Wa xs) else xs
def Ae (b:Z6) (x:Int) (fs:LI) (q:Int):Z6:=.mk (AB b.steps x fs q) b.result
def I0:∀xs:List Z4,Wa xs<=xs.length
 | []=>X8 _
 | s::r=>by have:=I0 r;rw [Wa];split<;>simp<;>omega
def Z3c:∀{xs:List Z4} {s:Z4},s∈xs.take (Wa xs)->s.op=14∨s.op=15
 | [],s,h=>by simp [Wa] at h
 | t::r,s,h=>by
  rw [Wa] at h
  split at h
  .rename_i q;rw [CJ] at h;rcases YM.1 h with rfl|h
   .exact q
   .exact Z3c h
  .simp at h
def IT:∀xs:List Z4,(WQ 14 xs).length+(WQ 15 xs).length<=xs.length
 | []=>by simp [WQ]
 | s::r=>by
  have:=IT r;rw [WQ,WQ];by_cases h:s.op=14
  .rw [Zg h,Z8 om];simp;omega
  .rw [Z8 h];split<;>simp<;>omega
def HP:∀(fs:LI) (q:Int) (D R:LI),(TG fs q D R).1.length+(TG fs q D R).2.length<=D.length+R.length+fs.length
 | [],q,D,R=>by simp [TG]
 | f::r,q,D,R=>by
  rw [TG,YR]
  split
  .have:=HP r (q+1) (D.erase q) R;have h2:=List.length_erase_le (a:=q) (l:=D);omega
  .split
   .have:=HP r (q+1) D (R++[q]);simp only [Yy,YR,Xx] at this;omega
   .have:=HP r (q+1) D R;omega
def Zi8 {xs:List Z4} {x:Int} {fs:LI} {q:Int} (h:x∈WQ 15 (xs.take<|Wa xs)) (hf:fs.length<=3):(BG xs x fs q).1.length+(BG xs x fs q).2.length<=Wa xs+2:=by
 have h1:=HP fs q (WQ 14<|xs.take<|Wa xs) ((WQ 15<|xs.take<|Wa xs).erase x);have h2:=IT (xs.take<|Wa xs);have h3:=List.length_pos_of_mem h;rw [List.length_erase_of_mem h] at h1;rw [WK] at h2;have h4:=I0 xs;unfold BG;omega
def Zmc (xs:List Z4) (k:Nat):Ya xs=Ya (xs.take k)+Ya (xs.drop k):=by rw [<-Qj,Ty]
def Z4o:∀xs:List Z4,(∀s∈xs,2<=s.sz)->2*xs.length<=Ya xs
 | [],_=>by simp
 | s::r,h=>by
  have h1:=Z4o r fun t ht=>h t<|XF _ ht
  have h2:=h s (Xn ..);rw [Ya,YR];omega
def Z6m {xs:List Z4} {x:Int} {fs:LI} {q:Int} (hf:fs.length<=3) (h:∀s∈xs,s.op=14∨s.op=15->2<=s.sz):Ya (AB xs x fs q)<=Ya xs+6:=by
 rw [AB]
 split
 .rename_i hc;have h1:=Zi8 (q:=q) hc.1 hf;have h2:=Z4o (xs.take<|Wa xs) fun s hs=>h s (Qr hs)<|Z3c hs
  have h3:=Zmc xs (Wa xs);have h4:=I0 xs;rw [WK] at h2;rw [Qj,Qj,Qj,NZ,NZ,Ya,Ya,GC];omega
 .omega
def Cn (s:Z4):Prop:=s=Zz s.op (gI s.args 0)
def Z6l {xs:List Z4} {m:Int} {fs:LI} {q:Int} (h:¬(m∈WQ 15 (xs.take<|Wa xs)/\fs.length≠0)):AB xs m fs q=xs:=Z8 h
end Go.Abs
section
namespace Go.Abs
mutual
def BN (ds:List Zh) (m:Nat):Z4->Z4
 | .mk op num into args kids=>.mk op num into args (Q4 ds m op num args kids 0)
def Q4 (ds:List Zh) (m:Nat) (op num:Int) (args:LI):List Z6->Nat->List Z6
 | [],_=>[]
 | b::r,k=>(if op=8 then Ae (Vw ds (m+(VK ds num k).length) b) (gI args 0) (VK ds num k) m else Vw ds m b)::Q4 ds m op num args r (k+1)
def Tb (ds:List Zh) (m:Nat):List Z4->List Z4
 | []=>[]
 | s::r=>BN ds m s::Tb ds (if Yv s.op=true then m else m+1) r
def Vw (ds:List Zh) (m:Nat):Z6->Z6
 | .mk steps result=>.mk (Tb ds m steps) result
end
def Ic (ds:List Zh) (m:Nat) (op num:Int) (args:LI) (k:Nat) (b:Z6):Z6:=if op=8 then Ae (Vw ds (m+(VK ds num k).length) b) (gI args 0) (VK ds num k) m else Vw ds m b
def NS (ds:List Zh) (m:Nat) (s:Z4):BN ds m s=.mk s.op s.num s.into s.args (Q4 ds m s.op s.num s.args s.kids 0):=by cases s;rw [BN];rfl
def Ia (ds:List Zh) (m:Nat) (b:Z6):Vw ds m b=.mk (Tb ds m b.steps) b.result:=by cases b;rw [Vw];rfl
section
variable {ds:List Zh} {m:Nat}
def Zl7 {xs acc r:List Z4} {k:Nat} {s:Z4} (h:xs[k]? = some s) (ha:acc++Tb ds m (xs.drop k)=r) :
  (acc++[.mk s.op s.num s.into s.args (Q4 ds m s.op s.num s.args s.kids 0)])++Tb ds (if Yv s.op=true then m else m+1) (xs.drop (k+1))=r:=by
 rw [Yc h,Tb,NS] at ha;rw [<-ha];simp
def Zl6 {xs acc r:List Z4} {k:Nat} (h:xs.length<=k) (ha:acc++Tb ds m (xs.drop k)=r):acc=r:=by
 rw [Xk h,Tb,JF] at ha;exact ha
def Z3y {op num:Int} {args:LI} {bs acc r:List Z6} {k:Nat} {b:Z6} (h:bs[k]? = some b) (ha:acc++Q4 ds m op num args (bs.drop k) k=r) :
  (acc++[Ic ds m op num args k b])++Q4 ds m op num args (bs.drop (k+1)) (k+1)=r:=by
 rw [Yc h,Q4] at ha;rw [<-ha,Ic];simp
def Zl3 {op num:Int} {args:LI} {bs acc r:List Z6} {k j:Nat} (h:bs.length<=k) (ha:acc++Q4 ds m op num args (bs.drop k) j=r):acc=r:=by
 rw [Xk h,Q4,JF] at ha;exact ha
end
mutual
def wS (ds:List Zh):Z4->Prop
 | .mk op num into args kids=>(XV op=!Yv op)/\(Yv op=true->num=0/\into=0/\kids=[]/\∃a,args=[a])/\(op=8->(∃a,args=[a]/\0<=a/\a<=900000000)/\kids.length=(Y1 ds num).length)/\TM ds kids
def TM (ds:List Zh):List Z6->Prop
 | []=>True
 | b::r=>wB ds b/\TM ds r
def Ug (ds:List Zh):List Z4->Prop
 | []=>True
 | s::r=>wS ds s/\Ug ds r
def wB (ds:List Zh):Z6->Prop
 | .mk steps _=>Ug ds steps
end
section
variable {ds:List Zh}
def Kx (s:Z4):wS ds s↔(XV s.op=!Yv s.op)/\(Yv s.op=true->s.num=0/\s.into=0/\s.kids=[]/\∃a,s.args=[a])/\(s.op=8->(∃a,s.args=[a]/\0<=a/\a<=900000000)/\s.kids.length=(Y1 ds s.num).length)/\TM ds s.kids:=by cases s;rw [wS];rfl
def Tv (b:Z6):wB ds b↔Ug ds b.steps:=by cases b;rw [wB];rfl
def BT:∀{xs:List Z4},Ug ds xs↔∀s∈xs,wS ds s
 | []=>by simp [Ug]
 | s::r=>by rw [Ug,BT];simp
def Is:∀{xs:List Z6},TM ds xs↔∀s∈xs,wB ds s
 | []=>by simp [TM]
 | s::r=>by rw [TM,Is];simp
def Og {b:Z6} {k:Nat} {s:Z4} (h:wB ds b) (hs:b.steps[k]? = some s):wS ds s:=BT.1 ((Tv b).1 h) s (Y0 hs)
def Iu {s:Z4} {k:Nat} {b:Z6} (h:wS ds s) (hb:s.kids[k]? = some b):wB ds b:=Is.1 ((Kx s).1 h).2.2.2 b (Y0 hb)
def It {s:Z4} (h:wS ds s) (hc:Yv s.op=true):Cn s/\s.kids=[]/\∃a,s.args=[a]:=by
 obtain ⟨h1,h2,h3,a,h4⟩:=((Kx s).1 h).2.1 hc;refine ⟨?_,h3,a,h4⟩
 cases s with
 | mk op num into args kids=>
  simp only [Z4.num,Z4.into,Z4.kids,Z4.args] at h1 h2 h3 h4;subst h1 h2 h3 h4;rfl
def Zo5 {op v:Int} (h:op=14∨op=15∨op=16):wS ds (Zz op v):=(Kx _).2 ⟨by show XV op=!Yv op;rcases h with rfl|rfl|rfl<;>rfl,fun _=>⟨rfl,rfl,rfl,v,rfl⟩,fun e=>absurd e (show op≠8 by omega),True.intro⟩
def Zo6 {s:Z4} (h:wS ds s):XV s.op=!Yv s.op:=((Kx s).1 h).1
def BS {s:Z4} (h:wS ds s) (h8:s.op=8):(∃a,s.args=[a]/\0<=a/\a<=900000000)/\s.kids.length=(Y1 ds s.num).length:=((Kx s).1 h).2.2.1 h8
def Dy {xs:List Z4} (h:Ug ds xs):∀s∈xs,Yv s.op=true->Cn s:=fun s hs hc=>(It (BT.1 h s hs) hc).1
end
section
variable {n:Zm}
def Zhm {us:LI} {s:Z4} (g:0<=Y6 n us s) (h:Yv s.op=true):s.num=0/\s.into=0/\s.kids=[]:=by
 have ho:14<=s.op/\s.op<=17:=by simpa [Yv] using h
 rw [Av] at g
 split at g
 .omega
 .rename_i q;refine ⟨B0 fun z=>q<|.inl ⟨z,?_⟩,B0 fun z=>q<|.inr<|.inl ?_,B0 fun z=>q<|.inr<|.inr ⟨Gg.2 z,by omega,by omega⟩⟩
  .rw [VT];simp;omega
  .rw [U9,Z8 z,Z8 om];simp
mutual
def Zo8:∀(s:Z4) {us:LI},us.length+4*s.sz<=900000000->Wq n.1->0<=Y6 n us s->wS n.1 s
 | .mk op num into args kids,us,hu,hd,g=>by
  have hf:=Dn g;rw [wS];refine ⟨F3 g,fun hc=>?_,fun h8=>?_,?_⟩
  .obtain ⟨h1,h2,h3⟩:=Zhm g hc;have ho:14<=op/\op<=17:=by simpa [Yv] using hc
   exact ⟨h1,h2,h3,hf.one<|.inr<|.inr ho⟩
  .obtain ⟨k1,k2,k3⟩:=hf.kids (.inr h8);obtain ⟨a,ha⟩:=hf.one (.inr (.inl h8));have hb:=hf.args a (by rw [ha];exact XI.2 rfl);refine ⟨⟨a,ha,hb.1,by omega⟩,?_⟩;have e:Xi n.1 op num=(Y1 n.1 num).map (ZZ n.1):=by rw [Xi,Z8 om]
   have k1':kids.length=(Xi n.1 op num).length:=k1;rw [k1',e,Qq]
  .refine Z5q kids hd fun i b hb=>?_
   have hl:0<kids.length:=by have:=(Xv.1 hb).1;omega
   obtain ⟨k1,k2,k3⟩:=hf.kids (Zg7 g hl);have k1':kids.length=(Xi n.1 op num).length:=k1;have hi:=(Xv.1 hb).1;obtain ⟨mk,hmk⟩:=Jo (xs:=Xi n.1 op num) (j:=i) om;have hk3:=EQ hd hmk;have ZO:=Pa hb;rw [Z4.sz] at hu;exact ⟨us++mk,by rw [Yy];omega,k3 i b mk hb hmk⟩
def Z5q:∀(bs:List Z6),Wq n.1->(∀(i:Nat) (b:Z6),bs[i]? = some b->∃us:LI,us.length+4*b.sz<=900000000/\0<=YY n us b)->TM n.1 bs
 | [],_,_=>True.intro
 | b::r,hd,h=>by
  obtain ⟨us,hq,hu⟩:=h 0 b rfl;exact ⟨Z5o b hq hd hu,Z5q r hd fun i x hx=>h (i+1) x (by simpa using hx)⟩
def Z5t:∀(xs:List Z4) {us vs:LI},us.length+4*Ya xs<=900000000->Wq n.1->XJ n xs us=some vs->Ug n.1 xs
 | [],_,_,_,_,_=>True.intro
 | s::r,us,vs,hu,hd,h=>by
  obtain ⟨g1,g2⟩:=Ez h;rw [Ya] at hu;have h1:=s.sz_pos;have h2:=FX n us s;exact ⟨Zo8 s om hd g1,Z5t r om hd g2⟩
def Z5o:∀(b:Z6) {us:LI},us.length+4*b.sz<=900000000->Wq n.1->0<=YY n us b->wB n.1 b
 | .mk steps result,us,hu,hd,h=>by
  obtain ⟨fvs,t0,hvs,_,_⟩:=DE h;rw [Z6.sz] at hu;rw [wB];exact Z5t steps om hd hvs
end
end
mutual
def Z4.pz:Z4->Nat
 | .mk _ _ _ args kids=>1+args.length+Jv kids
def Z6.pz:Z6->Nat
 | .mk steps _=>1+Q3 steps
def Q3:List Z4->Nat
 | []=>0
 | s::r=>s.pz+Q3 r
def Jv:List Z6->Nat
 | []=>0
 | b::r=>b.pz+8+Jv r
end
def Z4.pz_eq (s:Z4):s.pz=1+s.args.length+Jv s.kids:=by cases s;rw [Z4.pz];rfl
def Z6.pz_eq (b:Z6):b.pz=1+Q3 b.steps:=by cases b;rw [Z6.pz];rfl
def PG (op v:Int):(Zz op v).pz=2:=by rw [Zz,Z4.pz];simp [Jv]
def Ziq {l:List Z4} {k:Nat} {s:Z4} (h:l[k]? = some s):k+s.pz<=Q3 l:=by
 induction l generalizing k with
 | nil=>simp at h
 | cons t r ih=>
  have ht:=t.pz_eq
  cases k with
  | zero=>simp at h;subst h;simp only [Q3];omega
  | succ k=>have:=ih (k:=k) (by simpa using h);simp only [Q3];omega
def Zip {l:List Z6} {k:Nat} {b:Z6} (h:l[k]? = some b):k+b.pz+8<=Jv l:=by
 induction l generalizing k with
 | nil=>simp at h
 | cons t r ih=>
  cases k with
  | zero=>simp at h;subst h;simp only [Jv];omega
  | succ k=>have:=ih (k:=k) (by simpa using h);simp only [Jv];omega
def Z25 {b:Z6} {k:Nat} {s:Z4} (h:b.steps[k]? = some s):k+s.pz<b.pz:=by have:=Ziq h;have:=b.pz_eq;omega
def Zir {s:Z4} {k:Nat} {b:Z6} (h:s.kids[k]? = some b):k+b.pz+8<s.pz:=by have:=Zip h;have:=s.pz_eq;omega
def Z23:∀xs:List Z4,xs.length<=Q3 xs
 | []=>X8 _
 | s::r=>by have:=Z23 r;have:=s.pz_eq;rw [Q3,YR];omega
def Z21:∀xs:List Z6,xs.length<=Jv xs
 | []=>X8 _
 | s::r=>by have:=Z21 r;rw [Jv,YR];omega
def Np (b:Z6):b.steps.length<b.pz:=by have:=Z23 b.steps;have:=b.pz_eq;omega
def Z24 (s:Z4):s.args.length<s.pz:=by have:=s.pz_eq;omega
def Zis (s:Z4):s.kids.length<s.pz:=by have:=Z21 s.kids;have:=s.pz_eq;omega
mutual
def Z4.pz_le:∀s:Z4,s.pz<=9*s.sz
 | .mk _ _ _ args kids=>by have:=Z20 kids;rw [Z4.pz,Z4.sz];omega
def Z6.pz_le:∀b:Z6,b.pz+8<=9*b.sz
 | .mk steps _=>by have:=Z22 steps;rw [Z6.pz,Z6.sz];omega
def Z22:∀xs:List Z4,Q3 xs<=9*Ya xs
 | []=>JG _
 | s::r=>by have:=s.pz_le;have:=Z22 r;rw [Q3,Ya];omega
def Z20:∀xs:List Z6,Jv xs<=9*YT xs
 | []=>JG _
 | s::r=>by have:=s.pz_le;have:=Z20 r;rw [Jv,YT];omega
end
section
variable {ds:List Zh}
def Z8d {op:Int} (h:op=14∨op=15):Yv op=true:=by rw [Yv];simp;omega
def Zl8 {xs:List Z4}:∀{m:Nat},Ug ds xs->∀s∈Tb ds m xs,s.op=14∨s.op=15->2<=s.sz:=by
 induction xs with
 | nil=>intro m _ s hs;simp [Tb] at hs
 | cons t r ih=>
  intro m h s hs ho;rw [Tb] at hs;rcases YM.1 hs with rfl|hs
  .rw [NS] at ho ⊢;obtain ⟨_,_,a,ha⟩:=It h.1 (Z8d ho);rw [Z4.sz,ha];simp
  .exact ih h.2 s hs ho
variable (hd:Wq ds)
include hd
mutual
def Zl4:∀(s:Z4) {m:Nat},wS ds s->(BN ds m s).sz<=s.pz
 | .mk op num into args kids,m,h=>by
  have:=Z40 kids (m:=m) (op:=op) (num:=num) (args:=args) (k:=0) h.2.2.2;rw [BN,Z4.sz,Z4.pz];omega
def Z40:∀(bs:List Z6) {m:Nat} {op num:Int} {args:LI} {k:Nat},TM ds bs->YT (Q4 ds m op num args bs k)<=Jv bs
 | [],_,_,_,_,_,_=>X8 _
 | b::r,m,op,num,args,k,h=>by
  have h2:=Z40 r (m:=m) (op:=op) (num:=num) (args:=args) (k:=k+1) h.2;rw [Q4,YT,Jv]
  split
  .have h1:=Ib b (m:=m+(VK ds num k).length) h.1;have h3:=Z6m (xs:=(Vw ds (m+(VK ds num k).length) b).steps) (x:=gI args 0) (q:=(m:Int)) (LS hd num k) (by rw [Ia];exact Zl8<|(Tv b).1 h.1);rw [Ae,Z6.sz];rw [Z6.sz_eq] at h1;omega
  .have h1:=Ib b (m:=m) h.1;omega
def Z41:∀(xs:List Z4) {m:Nat},Ug ds xs->Ya (Tb ds m xs)<=Q3 xs
 | [],_,_=>X8 _
 | s::r,m,h=>by
  have h1:=Zl4 s (m:=m) h.1;have h2:=Z41 r (m:=if Yv s.op=true then m else m+1) h.2;rw [Tb,Ya,Q3];omega
def Ib:∀(b:Z6) {m:Nat},wB ds b->(Vw ds m b).sz<=b.pz
 | .mk steps result,m,h=>by
  have:=Z41 steps (m:=m) h;rw [Vw,Z6.sz,Z6.pz];omega
end
end
section
variable {ds:List Zh} {m:Nat}
end
def Cx (ds:List Zh) (r:Y9):Y9:=⟨r.1,r.2,r.result,Vw ds r.1.length r.4⟩
def Dl (n:Zm):Zm:=⟨n.1,n.2.map<|Cx n.1⟩
def Ir {n:Zm} (hn:YZ n) (hz:WF n) (hbt:∀r∈n.2,0<=YY n r.1 r.4):∀r∈n.2,wB n.1 r.4:=fun r hr=>Z5o r.4 (by have:=hz.body r hr;have:=hn.params r hr;omega) hn.decls<|hbt r hr
end Go.Abs
namespace Go.Abs
def Zk8 {xs:List Z4} {k:Nat} {s:Z4} {r:Nat} (h:xs[k]? = some s) (hs:s.op=14∨s.op=15) (ha:k+Wa (xs.drop k)=r):k+1+Wa (xs.drop (k+1))=r:=by
 rw [Yc h,Wa,Zg hs] at ha;omega
def Zk9 {xs:List Z4} {k:Nat} {s:Z4} {r:Nat} (h:xs[k]? = some s) (hs:¬(s.op=14∨s.op=15)) (ha:k+Wa (xs.drop k)=r):k=r:=by
 rw [Yc h,Wa,Z8 hs] at ha;omega
def Zk7 {xs:List Z4} {k r:Nat} (h:xs.length<=k) (ha:k+Wa (xs.drop k)=r):k=r:=by
 rw [Xk h,Wa] at ha;omega
def Z6x {op:Int} {xs:List Z4} {acc r:LI} {k:Nat} {s:Z4} (h:xs[k]? = some s) (hs:s.op=op) (ha:acc++WQ op (xs.drop k)=r):(acc++[gI s.args 0])++WQ op (xs.drop (k+1))=r:=by
 rw [Yc h,WQ,Zg hs] at ha;rw [<-ha];simp
def Z6w {op:Int} {xs:List Z4} {acc r:LI} {k:Nat} {s:Z4} (h:xs[k]? = some s) (hs:¬s.op=op) (ha:acc++WQ op (xs.drop k)=r):acc++WQ op (xs.drop (k+1))=r:=by
 rw [Yc h,WQ,Z8 hs] at ha;exact ha
def Z6v {op:Int} {xs:List Z4} {acc r:LI} {k:Nat} (h:xs.length<=k) (ha:acc++WQ op (xs.drop k)=r):acc=r:=by
 rw [Xk h,WQ,JF] at ha;exact ha
def Zas {xs acc r:LI} {y:Int} {k:Nat} {x:Int} {d:Bool} (h:xs[k]? = some x) (ha:acc++(if d=true then xs.drop k else (xs.drop k).erase y)=r) :
  (if x=y/\¬d=true then acc else acc++[x])++(if ((x==y&&!d)||d)=true then xs.drop (k+1) else (xs.drop (k+1)).erase y)=r:=by
 rw [Yc h] at ha;rw [<-ha];by_cases hd:d=true
 .simp [hd]
 .by_cases hx:x=y
  .simp [hd,hx]
  .rw [Z8 fun z=>hx z.1,Z8 hd,List.erase_cons_tail (by simpa using hx)];simp [hd,hx]
def Zar {xs acc r:LI} {y:Int} {k:Nat} {d:Bool} (h:xs.length<=k) (ha:acc++(if d=true then xs.drop k else (xs.drop k).erase y)=r):acc=r:=by
 rw [Xk h] at ha;simpa using ha
section
variable {fs D R:LI} {q k:Nat} {f:Int} {r:LI × LI}
def Zia (h:fs[k]? = some f) (h0:f≠0) (hm:((q+k:Nat):Int)∈D) (ha:TG (fs.drop k) (q+k) D R=r):TG (fs.drop (k+1)) (q+((k+1:Nat):Int)) (D.erase ((q+k:Nat):Int)) R=r:=by
 rw [Yc h,TG,Zg ⟨h0,by rw [<-Int.natCast_add];exact hm⟩,<-Int.natCast_add] at ha;rw [<-ha];congr 1
def Zib (h:fs[k]? = some f) (h0:f≠0) (hm:¬((q+k:Nat):Int)∈D) (ha:TG (fs.drop k) (q+k) D R=r):TG (fs.drop (k+1)) (q+((k+1:Nat):Int)) D (R++[((q+k:Nat):Int)])=r:=by
 rw [Yc h,TG,Z8 fun z=>hm (by rw [Int.natCast_add];exact z.2),Zg h0,<-Int.natCast_add] at ha;rw [<-ha];congr 1
def Zic (h:fs[k]? = some f) (h0:¬f≠0) (ha:TG (fs.drop k) (q+k) D R=r):TG (fs.drop (k+1)) (q+((k+1:Nat):Int)) D R=r:=by
 rw [Yc h,TG,Z8 fun z=>h0 z.1,Z8 h0] at ha;rw [<-ha];congr 1
def Zi9 (h:fs.length<=k) (ha:TG (fs.drop k) (q+k) D R=r):r=(D,R):=by
 rw [Xk h,TG] at ha;exact ha.symm
end
def Z6n {xs:List Z4} {x:Int} {fs:LI} {q:Int} {D R:LI} (h1:x∈WQ 15 (xs.take<|Wa xs)) (h2:fs.length≠0) (hr:BG xs x fs q=(D,R)):D.map (Zz 14)++[Zz 16 x]++R.map (Zz 15)++xs.drop (Wa xs)=AB xs x fs q:=by
 rw [AB,Zg ⟨h1,h2⟩,hr]
def Zl5 {ds:List Zh} {xs:List Z4}:∀{m:Nat},Ug ds xs->∀s∈Tb ds m xs,Yv s.op=true->∃a,s.args=[a]:=by
 induction xs with
 | nil=>intro m _ s hs;simp [Tb] at hs
 | cons t r ih=>
  intro m h s hs ho;rw [Tb] at hs;rcases YM.1 hs with rfl|hs
  .rw [NS] at ho ⊢;exact (It h.1 ho).2.2
  .exact ih h.2 s hs ho
end Go.Abs
end
namespace Go.Abs
def IF {s:Z4} (h:Cn s):∃a,s.args=[a]:=⟨gI s.args 0,by have:=Ys Z4.args h;exact this⟩
def Zn9 {α:Type} {xs:List α} {k:Nat} {x:α} {p:α->Prop} (hx:xs[k]? = some x) (h:∀s∈xs.take k,p s) (hp:p x):∀s∈xs.take (k+1),p s:=by
 rw [WO hx];intro s hs;rcases Xh.1 hs with hs|hs
 .exact h s hs
 .rw [XI.1 hs];exact hp
section
variable {xs:LI} {v:Int} {lo hi:Nat}
end
section
variable {m:Int} {xs du dr:List Z4} {lf:LI} {d:Bool} {k:Nat} {s:Z4} {W:List Z4 × List Z4 × LI}
end
def Yk:List Z4->Nat
 | []=>0
 | s::r=>if Yv s.op=true then Yk r+1 else 0
def XA (op x:Int):List Z4->Int->Int
 | [],_=>-1
 | s::r,k=>if s.op=op/\gI s.args 0=x then k else XA op x r (k+1)
def KI (many:Nat) (s:Z4):Prop:=(s.op=6/\s.into=0)/\s.args.length=many
instance (many:Nat) (s:Z4):Decidable (KI many s):=by unfold KI;infer_instance
def Xy (many:Nat):List Z4->Int->Int
 | [],_=>-1
 | s::r,k=>if KI many s then k else Xy many r (k+1)
def AN (xs:List Z4) (i:Int):Z4:=xs[i.toNat]?.getD (Zz 0 0)
def Uo (v:Int) (s:Z4):Z4:=.mk s.op s.num v s.args s.kids
def Wn (xs:List Z4) (x:Int):Int:=XA 16 x (xs.take<|Yk xs) 0
def XX (xs:List Z4) (many:Nat):Int:=Xy many (xs.drop<|Yk xs) (Yk xs)
def V4 (xs:List Z4) (x:Int) (many:Nat):List Z4:=
 if Wn xs x<0∨XX xs many<0 then xs else (xs.set (Wn xs x).toNat<|Zz 17 x).set (XX xs many).toNat (Uo (1+x)<|AN xs<|XX xs many)
def V0 (b:Z6) (x:Int) (many:Nat):Z6:=.mk (V4 b.steps x many) b.result
mutual
def ruS (ds:List Zh) (kept:LI):Z4->Z4
 | .mk op num into args kids=>.mk op num into args (ruKs ds kept op num args kids 0)
def ruKs (ds:List Zh) (kept:LI) (op num:Int) (args:LI):List Z6->Nat->List Z6
 | [],_=>[]
 | b::r,k=>(if op=8/\¬gI args 0∈kept then V0 (ruB ds (if Wn b.steps (gI args 0)<0∨XX b.steps (VK ds num k).length<0 then kept else gI args 0::kept) b) (gI args 0) (VK ds num k).length else ruB ds kept b)::ruKs ds kept op num args r (k+1)
def ruSs (ds:List Zh) (kept:LI):List Z4->List Z4
 | []=>[]
 | s::r=>ruS ds kept s::ruSs ds kept r
def ruB (ds:List Zh) (kept:LI):Z6->Z6
 | .mk steps result=>.mk (ruSs ds kept steps) result
end
def Hv (ds:List Zh) (kept:LI) (num:Int) (args:LI) (k:Nat) (b:Z6):LI:=if Wn b.steps (gI args 0)<0∨XX b.steps (VK ds num k).length<0 then kept else gI args 0::kept
def TH (ds:List Zh) (kept:LI) (op num:Int) (args:LI) (k:Nat) (b:Z6):Z6:=if op=8/\¬gI args 0∈kept then V0 (ruB ds (Hv ds kept num args k b) b) (gI args 0) (VK ds num k).length else ruB ds kept b
def BM (ds:List Zh) (kept:LI) (s:Z4):ruS ds kept s=.mk s.op s.num s.into s.args (ruKs ds kept s.op s.num s.args s.kids 0):=by cases s;rw [ruS];rfl
def FT (ds:List Zh) (kept:LI) (b:Z6):ruB ds kept b=.mk (ruSs ds kept b.steps) b.result:=by cases b;rw [ruB];rfl
def HZ (ds:List Zh) (kept:LI):∀xs:List Z4,ruSs ds kept xs=xs.map (ruS ds kept)
 | []=>rfl
 | s::r=>by rw [ruSs,HZ ds kept r];rfl
section
variable {ds:List Zh} {kept:LI}
def Z3b {xs acc r:List Z4} {k:Nat} {s:Z4} (h:xs[k]? = some s) (ha:acc++ruSs ds kept (xs.drop k)=r) :
  (acc++[.mk s.op s.num s.into s.args (ruKs ds kept s.op s.num s.args s.kids 0)])++ruSs ds kept (xs.drop (k+1))=r:=by
 rw [Yc h,ruSs,BM] at ha;rw [<-ha];simp
def Z3a {xs acc r:List Z4} {k:Nat} (h:xs.length<=k) (ha:acc++ruSs ds kept (xs.drop k)=r):acc=r:=by
 rw [Xk h,ruSs,JF] at ha;exact ha
def HX {op num:Int} {args:LI} {bs acc r:List Z6} {k:Nat} {b:Z6} (h:bs[k]? = some b) (ha:acc++ruKs ds kept op num args (bs.drop k) k=r) :
  (acc++[TH ds kept op num args k b])++ruKs ds kept op num args (bs.drop (k+1)) (k+1)=r:=by
 rw [Yc h,ruKs] at ha;rw [<-ha,TH,Hv];simp
def Z30 {op num:Int} {args:LI} {bs acc r:List Z6} {k j:Nat} (h:bs.length<=k) (ha:acc++ruKs ds kept op num args (bs.drop k) j=r):acc=r:=by
 rw [Xk h,ruKs,JF] at ha;exact ha
end
section
variable {ds:List Zh}
mutual
def Zk0:∀(s:Z4) {K K':LI},(∀z,z∈K↔z∈K')->ruS ds K s=ruS ds K' s
 | .mk op num into args kids,K,K',h=>by rw [ruS,ruS,Z33 kids h]
def Z33:∀(bs:List Z6) {K K':LI} {op num:Int} {args:LI} {k:Nat},(∀z,z∈K↔z∈K')->ruKs ds K op num args bs k=ruKs ds K' op num args bs k
 | [],_,_,_,_,_,_,_=>by rw [ruKs,ruKs]
 | b::r,K,K',op,num,args,k,h=>by
  have h1:=Z33 r (op:=op) (num:=num) (args:=args) (k:=k+1) h;have h2:=Nz b h;have h3:∀z,z∈(gI args 0::K)↔z∈(gI args 0::K'):=fun z=>by rw [YM,YM,h z]
  have h4:=Nz b h3;rw [ruKs,ruKs,h1,h2]
  congr 1
  by_cases hq:op=8/\¬gI args 0∈K
  .have hq':op=8/\¬gI args 0∈K':=⟨hq.1,fun z=>hq.2<|(h _).2 z⟩;rw [Zg hq,Zg hq']
   congr 1
   split
   .exact h2
   .exact h4
  .have hq':¬(op=8/\¬gI args 0∈K'):=fun z=>hq ⟨z.1,fun y=>z.2<|(h _).1 y⟩
   rw [Z8 hq,Z8 hq']
def Z35:∀(xs:List Z4) {K K':LI},(∀z,z∈K↔z∈K')->ruSs ds K xs=ruSs ds K' xs
 | [],_,_,_=>by rw [ruSs,ruSs]
 | s::r,K,K',h=>by rw [ruSs,ruSs,Zk0 s h,Z35 r h]
def Nz:∀(b:Z6) {K K':LI},(∀z,z∈K↔z∈K')->ruB ds K b=ruB ds K' b
 | .mk steps result,K,K',h=>by rw [ruB,ruB,Z35 steps h]
end
end
def Ef:∀xs:List Z4,Yk xs<=xs.length
 | []=>X8 _
 | s::r=>by have:=Ef r;rw [Yk];split<;>simp<;>omega
section
variable {f:Z4->Z4} (hop:∀s,(f s).op=s.op) (hin:∀s,(f s).into=s.into) (har:∀s,(f s).args=s.args)
include hop
def MK:∀xs:List Z4,Yk (xs.map f)=Yk xs
 | []=>rfl
 | s::r=>by rw [Uh,Yk,Yk,hop,MK r]
include har
def OW {op x:Int}:∀(xs:List Z4) (k:Int),XA op x (xs.map f) k=XA op x xs k
 | [],_=>rfl
 | s::r,k=>by rw [Uh,XA,XA,hop,har,OW r]
def Zi7 (xs:List Z4) (x:Int):Wn (xs.map f) x=Wn xs x:=by rw [Wn,MK hop,<-List.map_take,OW hop har,Wn]
include hin
def PK {many:Nat}:∀(xs:List Z4) (k:Int),Xy many (xs.map f) k=Xy many xs k
 | [],_=>rfl
 | s::r,k=>by
  have e:KI many (f s)↔KI many s:=by rw [KI,KI,hop,hin,har]
  rw [Uh,Xy,Xy,PK r];by_cases h:KI many s
  .rw [Zg h,Zg<|e.2 h]
  .rw [Z8 h,Z8 (fun z=>h<|e.1 z)]
def Z8l (xs:List Z4) (many:Nat):XX (xs.map f) many=XX xs many:=by rw [XX,MK hop,<-List.map_drop,PK hop hin har,XX]
end
def OV {op x:Int}:∀{xs:List Z4} {k:Int},¬XA op x xs k<0->0<=k->k<=XA op x xs k/\XA op x xs k<k+xs.length/\∃s,xs[(XA op x xs k-k).toNat]? = some s/\s.op=op/\gI s.args 0=x
 | [],k,h,_=>by simp [XA] at h
 | s::r,k,h,hk=>by
  rw [XA] at h ⊢
  split
  .rename_i q;refine ⟨Int.le_refl _,by rw [YR];omega,s,?_,q⟩;rw [Int.sub_self];rfl
  .rename_i q;rw [Z8 q] at h;obtain ⟨h1,h2,t,h3,h4⟩:=OV (xs:=r) (k:=k+1) h om;refine ⟨by omega,by rw [YR];omega,t,?_,h4⟩;rw [show (XA op x r (k+1)-k).toNat=(XA op x r (k+1)-(k+1)).toNat+1 by omega,List.getElem?_cons_succ];exact h3
def PJ {many:Nat}:∀{xs:List Z4} {k:Int},¬Xy many xs k<0->0<=k->k<=Xy many xs k/\Xy many xs k<k+xs.length/\∃s,xs[(Xy many xs k-k).toNat]? = some s/\KI many s
 | [],k,h,_=>by simp [Xy] at h
 | s::r,k,h,hk=>by
  rw [Xy] at h ⊢
  split
  .rename_i q;refine ⟨Int.le_refl _,by rw [YR];omega,s,?_,q⟩;rw [Int.sub_self];rfl
  .rename_i q;rw [Z8 q] at h;obtain ⟨h1,h2,t,h3,h4⟩:=PJ (xs:=r) (k:=k+1) h om;refine ⟨by omega,by rw [YR];omega,t,?_,h4⟩;rw [show (Xy many r (k+1)-k).toNat=(Xy many r (k+1)-(k+1)).toNat+1 by omega,List.getElem?_cons_succ];exact h3
def Le {many:Nat}:∀(xs:List Z4) (k:Int) (j:Int),0<=k->0<=j->Xy many xs (k+j)=if Xy many xs k<0 then -1 else Xy many xs k+j
 | [],k,j,_,_=>by simp [Xy]
 | s::r,k,j,hk,hj=>by
  rw [Xy,Xy]
  split
  .rw [Z8 om]
  .have:=Le (many:=many) r (k+1) j om hj;rw [<-this];congr 1;omega
def BH {xs:List Z4} {x:Int} (h:¬Wn xs x<0):0<=Wn xs x/\Wn xs x<Yk xs/\∃s,xs[(Wn xs x).toNat]? = some s/\s.op=16/\gI s.args 0=x:=by
 obtain ⟨h1,h2,s,h3,h4⟩:=OV h (Int.le_refl 0);have hl:=Ef xs;rw [WK,Vz hl] at h2;have h2':Wn xs x<Yk xs:=by unfold Wn;omega
 have h1':0<=Wn xs x:=h1;refine ⟨h1',h2',s,?_,h4⟩;rw [Int.sub_zero] at h3;have h5:(Wn xs x).toNat<Yk xs:=by omega
 rwa [show XA 16 x (xs.take<|Yk xs) 0=Wn xs x from rfl,List.getElem?_take_of_lt h5] at h3
def KJ {xs:List Z4} {many:Nat} (h:¬XX xs many<0):(Yk xs:Int)<=XX xs many/\XX xs many<xs.length/\∃s,xs[(XX xs many).toNat]? = some s/\KI many s/\AN xs (XX xs many)=s:=by
 obtain ⟨h1,h2,s,h3,h4⟩:=PJ h om;have hl:=Ef xs;rw [B1] at h2;have h1':(Yk xs:Int)<=XX xs many:=h1;have h2':XX xs many<xs.length:=by unfold XX;omega
 rw [CF,show Xy many (xs.drop<|Yk xs) (Yk xs)=XX xs many from rfl,show Yk xs+(XX xs many-(Yk xs:Int)).toNat=(XX xs many).toNat by omega] at h3;exact ⟨h1',h2',s,h3,h4,by rw [AN,h3];rfl⟩
def Zj4 {f:Z4->Z4} (hop:∀s,(f s).op=s.op) (hin:∀s,(f s).into=s.into) (har:∀s,(f s).args=s.args) (hc:∀x,f (Zz 17 x)=Zz 17 x) (hi:∀v s,f (Uo v s)=Uo v (f s)) (xs:List Z4) (x:Int) (many:Nat) :
  V4 (xs.map f) x many=(V4 xs x many).map f:=by
 rw [V4,Zi7 hop har,Z8l hop hin har,V4]
 split
 .rfl
 .rename_i hq;obtain ⟨_,_,s,h3,_,h5⟩:=KJ fun z=>hq<|.inr z
  have e:AN (xs.map f) (XX xs many)=f (AN xs<|XX xs many):=by rw [AN,Tx,h3,h5];rfl
  rw [e,List.map_set,List.map_set,hc,hi]
def Z2z {ds:List Zh} {K:LI} {b:Z6} {x:Int} {many:Nat}:ruB ds K (V0 b x many)=V0 (ruB ds K b) x many:=by
 rw [V0,ruB,V0,FT,HZ,HZ];show Z6.mk _ _=Z6.mk (V4 (b.steps.map<|ruS ds K) x many) b.result
 rw [Zj4 (f:=ruS ds K) (fun s=>by rw [BM];rfl) (fun s=>by rw [BM];rfl) (fun s=>by rw [BM];rfl) (fun x=>by rw [BM];rfl) (fun v s=>by rw [BM,BM];rfl)]
def UR (op:Int) (c:LI):LI:=if Yv op=true then c.set (op-14).toNat (gI c (op-14)+1) else c
mutual
def US:Z4->LI->LI
 | .mk op _ _ _ kids,c=>V5 kids (UR op c)
def V5:List Z6->LI->LI
 | [],c=>c
 | b::r,c=>V5 r (VE b c)
def WV:List Z4->LI->LI
 | [],c=>c
 | s::r,c=>WV r (US s c)
def VE:Z6->LI->LI
 | .mk steps _,c=>WV steps c
end
def Z8b (s:Z4) (c:LI):US s c=V5 s.kids (UR s.op c):=by cases s;rw [US];rfl
def Lc (b:Z6) (c:LI):VE b c=WV b.steps c:=by cases b;rw [VE];rfl
def Pz {xs:List Z4} {k:Nat} {s:Z4} {c r:LI} (h:xs[k]? = some s) (ha:WV (xs.drop k) c=r):WV (xs.drop (k+1)) (V5 s.kids<|UR s.op c)=r:=by
 rw [Yc h,WV,Z8b] at ha;exact ha
def Py {xs:List Z4} {k:Nat} {c r:LI} (h:xs.length<=k) (ha:WV (xs.drop k) c=r):c=r:=by
 rw [Xk h,WV] at ha;exact ha
def Ps {xs:List Z6} {k:Nat} {s:Z6} {c r:LI} (h:xs[k]? = some s) (ha:V5 (xs.drop k) c=r):V5 (xs.drop (k+1)) (VE s c)=r:=by
 rw [Yc h,V5] at ha;exact ha
def Pr {xs:List Z6} {k:Nat} {c r:LI} (h:xs.length<=k) (ha:V5 (xs.drop k) c=r):c=r:=by
 rw [Xk h,V5] at ha;exact ha
structure CB (c:LI) (q:Int):Prop where
 len:c.length=4
 bd:∀x∈c,0<=x/\x<=q
def CB.le {c:LI} {q p:Int} (h:CB c q) (hq:q<=p):CB c p:=⟨h.len,fun x hx=>by have:=h.bd x hx;omega⟩
def CB.at {c:LI} {q:Int} (h:CB c q) {i:Int} (hi:i.toNat<4):0<=gI c i/\gI c i<=q:=h.bd _ (by rw [gI,J8 (by rw [h.len];exact hi)];exact List.getElem_mem _)
def CB.one {c:LI} {q:Int} (h:CB c q) (_:0<=q) (op:Int):CB (UR op c) (q+1):=by
 rw [UR]
 split
 .rename_i ho;have ho':14<=op/\op<=17:=by simpa [Yv] using ho
  refine ⟨by rw [UO];exact h.len,fun x hx=>?_⟩;rcases Js hx with hx|rfl
  .have:=h.bd x hx;omega
  .have:=h.at (i:=op-14) om;omega
 .exact h.le om
mutual
def CB.s:∀(s:Z4) {c:LI} {q:Int},CB c q->0<=q->CB (US s c) (q+s.sz)
 | .mk op num into args kids,c,q,h,hq=>by
  have:=CB.bs kids (h.one hq op) om;rw [US,Z4.sz];exact this.le om
def CB.bs:∀(bs:List Z6) {c:LI} {q:Int},CB c q->0<=q->CB (V5 bs c) (q+YT bs)
 | [],c,q,h,hq=>by rw [V5,YT];exact h.le om
 | b::r,c,q,h,hq=>by
  have:=CB.bs r (CB.b b h hq) om;rw [V5,YT];exact this.le om
def CB.ss:∀(xs:List Z4) {c:LI} {q:Int},CB c q->0<=q->CB (WV xs c) (q+Ya xs)
 | [],c,q,h,hq=>by rw [WV,Ya];exact h.le om
 | s::r,c,q,h,hq=>by
  have:=CB.ss r (CB.s s h hq) om;rw [WV,Ya];exact this.le om
def CB.b:∀(b:Z6) {c:LI} {q:Int},CB c q->0<=q->CB (VE b c) (q+b.sz)
 | .mk steps result,c,q,h,hq=>by
  have:=CB.ss steps h hq;rw [VE,Z6.sz];exact this.le om
end
mutual
def At:Z4->Prop
 | .mk op _ _ _ kids=>op≠17/\Ju kids
def Ju:List Z6->Prop
 | []=>True
 | b::r=>T9 b/\Ju r
def KW:List Z4->Prop
 | []=>True
 | s::r=>At s/\KW r
def T9:Z6->Prop
 | .mk steps _=>KW steps
end
def De (s:Z4):At s↔s.op≠17/\Ju s.kids:=by cases s;rw [At];rfl
def Ej (b:Z6):T9 b↔KW b.steps:=by cases b;rw [T9];rfl
def Ek:∀{xs:List Z4},KW xs↔∀s∈xs,At s
 | []=>by simp [KW]
 | s::r=>by rw [KW,Ek];simp
def HH:∀{xs:List Z6},Ju xs↔∀s∈xs,T9 s
 | []=>by simp [Ju]
 | s::r=>by rw [Ju,HH];simp
def Z89 (op:Int) (c:LI):(UR op c).length=c.length:=by rw [UR];split<;>simp
def Z8a {op:Int} {c:LI} (hl:c.length=4):gI c 3<=gI (UR op c) 3/\(gI (UR op c) 3=gI c 3->op≠17):=by
 rw [UR]
 split
 .rename_i ho;have ho':14<=op/\op<=17:=by simpa [Yv] using ho
  by_cases h:op=17
  .subst h;rw [Fj (x:=17-14) (j:=3) om om];show gI c 3<=gI c 3+1/\_
   refine ⟨by omega,fun e=>?_⟩;have:gI c 3+1=gI c 3:=e;omega
  .rw [Fk om];exact ⟨Int.le_refl _,fun _=>h⟩
 .rename_i ho;exact ⟨Int.le_refl _,fun _ h=>ho<|by rw [h];rfl⟩
mutual
def Z8c:∀(s:Z4) {c:LI},c.length=4->(US s c).length=4/\gI c 3<=gI (US s c) 3/\(gI (US s c) 3=gI c 3->At s)
 | .mk op num into args kids,c,hl=>by
  have h1:=Z8a (op:=op) hl;obtain ⟨h2,h3,h4⟩:=Pu kids (c:=UR op c) (by rw [Z89];exact hl);rw [US,At];exact ⟨h2,by omega,fun e=>⟨h1.2 om,h4 om⟩⟩
def Pu:∀(bs:List Z6) {c:LI},c.length=4->(V5 bs c).length=4/\gI c 3<=gI (V5 bs c) 3/\(gI (V5 bs c) 3=gI c 3->Ju bs)
 | [],c,hl=>by rw [V5,Ju];exact ⟨hl,Int.le_refl _,fun _=>True.intro⟩
 | b::r,c,hl=>by
  obtain ⟨h2,h3,h4⟩:=Pt b hl;obtain ⟨h5,h6,h7⟩:=Pu r h2;rw [V5,Ju];exact ⟨h5,by omega,fun e=>⟨h4 om,h7 om⟩⟩
def PA:∀(xs:List Z4) {c:LI},c.length=4->(WV xs c).length=4/\gI c 3<=gI (WV xs c) 3/\(gI (WV xs c) 3=gI c 3->KW xs)
 | [],c,hl=>by rw [WV,KW];exact ⟨hl,Int.le_refl _,fun _=>True.intro⟩
 | b::r,c,hl=>by
  obtain ⟨h2,h3,h4⟩:=Z8c b hl;obtain ⟨h5,h6,h7⟩:=PA r h2;rw [WV,KW];exact ⟨h5,by omega,fun e=>⟨h4 om,h7 om⟩⟩
def Pt:∀(b:Z6) {c:LI},c.length=4->(VE b c).length=4/\gI c 3<=gI (VE b c) 3/\(gI (VE b c) 3=gI c 3->T9 b)
 | .mk steps result,c,hl=>by rw [VE,T9];exact PA steps hl
end
def Th:List Y9->LI->LI
 | [],c=>c
 | r::rs,c=>Th rs (VE r.4 c)
def Pw {xs:List Y9} {k:Nat} {s:Y9} {c r:LI} (h:xs[k]? = some s) (ha:Th (xs.drop k) c=r):Th (xs.drop (k+1)) (VE s.body c)=r:=by
 rw [Yc h,Th] at ha;exact ha
def Pv {xs:List Y9} {k:Nat} {c r:LI} (h:xs.length<=k) (ha:Th (xs.drop k) c=r):c=r:=by
 rw [Xk h,Th] at ha;exact ha
def Gy:∀(rs:List Y9) {c:LI},c.length=4->(Th rs c).length=4/\gI c 3<=gI (Th rs c) 3/\(gI (Th rs c) 3=gI c 3->∀r∈rs,T9 r.4)
 | [],c,hl=>by rw [Th];exact ⟨hl,Int.le_refl _,fun _ r hr=>by cases hr⟩
 | r::rs,c,hl=>by
  obtain ⟨h2,h3,h4⟩:=Pt r.4 hl;obtain ⟨h5,h6,h7⟩:=Gy rs h2;rw [Th];refine ⟨h5,by omega,fun e q hq=>?_⟩;rcases YM.1 hq with rfl|hq
  .exact h4 om
  .exact h7 om q hq
def Ti (n:Zm):LI:=Th n.2 [0,0,0,0]
def PE {n:Zm} (h:¬gI (Ti n) 3>0):∀r∈n.2,T9 r.4:=by
 obtain ⟨h1,h2,h3⟩:=Gy n.2 (c:=[0,0,0,0]) rfl;have e:gI [0,0,0,0] 3=0:=rfl;have h':¬gI (Th n.2 [0,0,0,0]) 3>0:=h;exact h3 om
def Ig:∀{xs:List Z4} {i:Nat} {s:Z4} (t:Z4),xs[i]? = some s->Ya (xs.set i t)+s.sz=Ya xs+t.sz
 | [],_,_,_,h=>by simp at h
 | x::r,0,s,t,h=>by simp at h;subst h;rw [List.set_cons_zero,Ya,Ya];omega
 | x::r,i+1,s,t,h=>by
  have:=Ig (xs:=r) (i:=i) t (by simpa using h);rw [List.set_cons_succ,Ya,Ya];omega
def Nn:∀{xs:List Z4} {i:Nat} {s:Z4} (t:Z4),xs[i]? = some s->Q3 (xs.set i t)+s.pz=Q3 xs+t.pz
 | [],_,_,_,h=>by simp at h
 | x::r,0,s,t,h=>by simp at h;subst h;rw [List.set_cons_zero,Q3,Q3];omega
 | x::r,i+1,s,t,h=>by
  have:=Nn (xs:=r) (i:=i) t (by simpa using h);rw [List.set_cons_succ,Q3,Q3];omega
def Zfn (v:Int) (s:Z4):(Uo v s).sz=s.sz:=by cases s;rw [Uo,Z4.sz,Z4.sz];rfl
def Zfm (v:Int) (s:Z4):(Uo v s).pz=s.pz:=by cases s;rw [Uo,Z4.pz,Z4.pz];rfl
def Lh {xs:List Z4} {x:Int} {many:Nat} (h:¬(Wn xs x<0∨XX xs many<0)):(Wn xs x).toNat<(XX xs many).toNat:=by
 obtain ⟨h1,h2,_⟩:=BH fun z=>h (.inl z)
 obtain ⟨h3,h4,_⟩:=KJ fun z=>h (.inr z)
 omega
def BK {xs:List Z4} {x:Int} {many:Nat} (h:¬(Wn xs x<0∨XX xs many<0)) {t s:Z4} (hs:xs[(XX xs many).toNat]? = some s):(xs.set (Wn xs x).toNat t)[(XX xs many).toNat]? = some s:=by
 have:=Lh h;rw [List.getElem?_set_ne om];exact hs
def Z2k {xs:List Z4} {x:Int} {many:Nat} (h:∀s∈xs,Yv s.op=true->2<=s.sz):Ya (V4 xs x many)<=Ya xs:=by
 rw [V4]
 split
 .exact X8 _
 .rename_i hq;obtain ⟨_,_,s,h3,h4,_⟩:=BH fun z=>hq<|.inl z
  obtain ⟨_,_,t,h5,_,h6⟩:=KJ fun z=>hq (.inr z)
  have e1:=Ig (Zz 17 x) h3;have e2:=Ig (Uo (1+x)<|AN xs<|XX xs many) (BK hq (t:=Zz 17 x) h5);have h7:=h s (Y0 h3) (by rw [h4];rfl);rw [GC] at e1;rw [Zfn,h6] at e2;rw [h6];omega
section
variable {ds:List Zh}
def Zj5 {xs:List Z4} {x:Int} {many:Nat} (h:Ug ds xs):Q3 (V4 xs x many)=Q3 xs:=by
 rw [V4]
 split
 .rfl
 .rename_i hq;obtain ⟨_,_,s,h3,h4,_⟩:=BH fun z=>hq<|.inl z
  obtain ⟨_,_,t,h5,_,h6⟩:=KJ fun z=>hq (.inr z)
  have e1:=Nn (Zz 17 x) h3;have e2:=Nn (Uo (1+x)<|AN xs<|XX xs many) (BK hq (t:=Zz 17 x) h5);have h7:=Dy h s (Y0 h3) (by rw [h4];rfl);have h8:s.pz=2:=by rw [h7,PG]
  rw [PG] at e1;rw [Zfm,h6] at e2;rw [h6];omega
def Zj1 {b:Z6} {x:Int} {many:Nat} (h:wB ds b):(V0 b x many).pz=b.pz:=by
 rw [V0,Z6.pz,Zj5<|(Tv b).1 h,b.pz_eq]
def Zo7 {v:Int} {s:Z4} (h:wS ds s) (h6:s.op=6):wS ds (Uo v s):=by
 obtain ⟨h1,h2,h3,h4⟩:=(Kx s).1 h;exact (Kx _).2 ⟨h1,fun hc=>absurd hc (by show ¬Yv s.op=true;rw [h6];decide),h3,h4⟩
def Zo4 {v:Int}:wS ds (Zz 17 v):=(Kx _).2 ⟨rfl,fun _=>⟨rfl,rfl,rfl,v,rfl⟩,fun e=>absurd e (show (17:Int)≠8 by decide),True.intro⟩
def Zo3 {xs:List Z4} {x:Int} {many:Nat} (h:Ug ds xs):Ug ds (V4 xs x many):=by
 rw [V4]
 split
 .exact h
 .rename_i hq;obtain ⟨_,_,t,h5,h7,h6⟩:=KJ fun z=>hq<|.inr z
  rw [BT];intro s hs;rcases List.mem_or_eq_of_mem_set hs with hs|rfl
  .rcases List.mem_or_eq_of_mem_set hs with hs|rfl
   .exact BT.1 h s hs
   .exact Zo4
  .rw [h6];exact Zo7 (BT.1 h t<|Y0 h5) h7.1.1
def Oh {b:Z6} {x:Int} {many:Nat} (h:wB ds b):wB ds (V0 b x many):=by rw [V0,Tv];exact Zo3<|(Tv b).1 h
def HO {xs:List Z4} {x:Int} (h:Ug ds xs) (ho:¬Wn xs x<0):xs[(Wn xs x).toNat]? = some (Zz 16 x):=by
 obtain ⟨_,_,s,h3,h4,h5⟩:=BH ho;have h6:=Dy h s (Y0 h3) (by rw [h4];rfl);rw [h3,h6,h4,h5]
variable (hd:Wq ds)
mutual
def Zk1:∀(s:Z4) {K:LI},wS ds s->(ruS ds K s).sz<=s.sz
 | .mk op num into args kids,K,h=>by
  have:=Z34 kids (K:=K) (op:=op) (num:=num) (args:=args) (k:=0) h.2.2.2;rw [ruS,Z4.sz,Z4.sz];omega
def Z34:∀(bs:List Z6) {K:LI} {op num:Int} {args:LI} {k:Nat},TM ds bs->YT (ruKs ds K op num args bs k)<=YT bs
 | [],_,_,_,_,_,_=>X8 _
 | b::r,K,op,num,args,k,h=>by
  have h2:=Z34 r (K:=K) (op:=op) (num:=num) (args:=args) (k:=k+1) h.2;have key:∀K2:LI,(V0 (ruB ds K2 b) (gI args 0) (VK ds num k).length).sz<=b.sz:=fun K2=>by
   have h1:=HW b (K:=K2) h.1
   have h3:=Z2k (xs:=(ruB ds K2 b).steps) (x:=gI args 0) (many:=(VK ds num k).length) (by
    rw [FT,HZ];intro s hs hc;obtain ⟨t,ht,rfl⟩:=XG.1 hs;rw [BM] at hc ⊢;obtain ⟨_,_,a,ha⟩:=It (BT.1 ((Tv b).1 h.1) t ht) hc
    rw [Z4.sz,ha];simp)
   rw [V0,Z6.sz];rw [Z6.sz_eq] at h1;omega
  rw [ruKs,YT,YT]
  split
  .have:=key (if Wn b.steps (gI args 0)<0∨XX b.steps (VK ds num k).length<0 then K else gI args 0::K);omega
  .have:=HW b (K:=K) h.1;omega
def Z36:∀(xs:List Z4) {K:LI},Ug ds xs->Ya (ruSs ds K xs)<=Ya xs
 | [],_,_=>X8 _
 | s::r,K,h=>by
  have h1:=Zk1 s (K:=K) h.1;have h2:=Z36 r (K:=K) h.2;rw [ruSs,Ya,Ya];omega
def HW:∀(b:Z6) {K:LI},wB ds b->(ruB ds K b).sz<=b.sz
 | .mk steps result,K,h=>by
  have:=Z36 steps (K:=K) h;rw [ruB,Z6.sz,Z6.sz];omega
end
end
def ML:∀{xs:List Z4} {i:Nat} {s t:Z4},xs[i]? = some s->Yv t.op=Yv s.op->Yk (xs.set i t)=Yk xs
 | [],_,_,_,h,_=>by simp at h
 | x::r,0,s,t,h,e=>by simp at h;subst h;rw [List.set_cons_zero,Yk,Yk,e]
 | x::r,i+1,s,t,h,e=>by
  rw [List.set_cons_succ,Yk,Yk,ML (xs:=r) (i:=i) (by simpa using h) e]
def Zgh {xs:List Z4} {x:Int} {many:Nat}:Yk (V4 xs x many)=Yk xs:=by
 rw [V4]
 split
 .rfl
 .rename_i hq;obtain ⟨_,_,s,h3,h4,_⟩:=BH fun z=>hq<|.inl z
  obtain ⟨_,_,t,h5,_,h6⟩:=KJ fun z=>hq (.inr z)
  rw [ML (BK hq (t:=Zz 17 x) h5) (by rw [h6];rfl),ML h3 (by rw [h4];rfl)]
def OX {op x:Int}:∀{xs:List Z4} {k:Int},(∀s∈xs,s.op≠op)->XA op x xs k=-1
 | [],_,_=>rfl
 | s::r,k,h=>by
  rw [XA,Z8 (fun z=>h s (Xn ..) z.1)];exact OX fun t ht=>h t<|XF _ ht
def OY {op x:Int}:∀{xs:List Z4} {k:Int},0<=k->(∃s∈xs,s.op=op/\gI s.args 0=x)->0<=XA op x xs k
 | [],_,_,h=>by obtain ⟨s,hs,_⟩:=h;cases hs
 | s::r,k,hk,h=>by
  rw [XA]
  split
  .exact hk
  .rename_i q;obtain ⟨t,ht,h1⟩:=h;rcases YM.1 ht with rfl|ht
   .exact absurd h1 q
   .exact OY om ⟨t,ht,h1⟩
def Z58 {xs:List Z4} {x:Int} {many:Nat} (hn:KW xs):0<=XA 17 x ((V4 xs x many).take<|Yk<|V4 xs x many) 0↔¬(Wn xs x<0∨XX xs many<0):=by
 rw [Zgh];constructor
 .intro h hq;rw [V4,Zg hq,OX (fun s hs=>((De s).1 (Ek.1 hn s (Qr hs))).1)] at h;omega
 .intro hq;obtain ⟨h1,h2,s,h3,h4,_⟩:=BH fun z=>hq (.inl z)
  have hap:=Lh hq;refine OY (Int.le_refl 0) ⟨Zz 17 x,?_,U,U⟩;rw [V4,Z8 hq];refine Y0 (i:=(Wn xs x).toNat) ?_;rw [List.getElem?_take_of_lt om,List.getElem?_set_ne om,List.getElem?_set_self (Xv.1 h3).1]
def Cm (b:Z6):Prop:=∀s∈b.steps,Ju s.kids
def Cl {b:Z6} (h:T9 b):Cm b:=fun s hs=>((De s).1<|Ek.1 ((Ej b).1 h) s hs).2
def Zhl {b:Z6} {k j:Nat} {s:Z4} {c:Z6} (h:Cm b) (hs:b.steps[k]? = some s) (hc:s.kids[j]? = some c):T9 c:=HH.1 (h s<|Y0 hs) c (Y0 hc)
def Z17 {b:Z6} {x:Int} {many:Nat} (h:T9 b):Cm (V0 b x many):=by
 intro s hs;have hs:s∈V4 b.steps x many:=hs;rw [V4] at hs
 split at hs
 .exact Cl h s hs
 .rename_i hq;obtain ⟨_,_,t,h5,_,h6⟩:=KJ fun z=>hq<|.inr z
  rcases List.mem_or_eq_of_mem_set hs with hs|rfl
  .rcases List.mem_or_eq_of_mem_set hs with hs|rfl
   .exact Cl h s hs
   .exact True.intro
  .rw [h6];exact Cl h t<|Y0 h5
def Zj2 {ds:List Zh} {b:Z6} {x:Int} {many:Nat} (h:wB ds b):(V0 b x many).sz<=b.sz:=by
 have:=Z2k (xs:=b.steps) (x:=x) (many:=many) fun s hs hc=>by
  have h7:=Dy ((Tv b).1 h) s hs hc;rw [h7,GC];omega
 rw [V0,Z6.sz,b.sz_eq];omega
def VM (ds:List Zh) (r:Y9):Y9:=⟨r.1,r.2,r.result,ruB ds [] r.4⟩
def Va (n:Zm):Zm:=⟨n.1,n.2.map<|VM n.1⟩
def ZP (n:Zm):Zm × Bool:=if UQ n=true/\¬gI (Ti n) 3>0 then (Va n,true) else (Ck,false)
def Zao {xs ys:LI} (h:xs.length=ys.length) (ha:∀i,i<xs.length->xs[i]? = ys[i]?):xs=ys:=List.ext_getElem? fun i=>by
 by_cases hi:i<xs.length
 .exact ha i hi
 .rw [Dt om,Dt om]

mutual
def Z2.sz:Z2->Nat
 | .mk _ _ kids=>1+XL kids
def XL:List Z2->Nat
 | []=>0
 | e::r=>e.sz+XL r
end
def Z2.sz_eq (e:Z2):e.sz=1+XL e.kids:=by cases e;rw [Z2.sz];rfl
def Fc:∀xs ys:List Z2,XL (xs++ys)=XL xs+XL ys
 | [],ys=>by simp [XL]
 | x::r,ys=>by rw [QQ,XL,XL,Fc r];omega
def D0:∀{xs:List Z2} {k:Nat} {e:Z2},xs[k]? = some e->e.sz<=XL xs
 | [],k,e,h=>by simp at h
 | x::r,0,e,h=>by simp at h;subst h;rw [XL];omega
 | x::r,k+1,e,h=>by have:=D0 (xs:=r) (k:=k) (by simpa using h);rw [XL];omega
def Rs:∀{xs:List Z2},xs.length<=XL xs
 | []=>JG _
 | x::r=>by have:=Rs (xs:=r);have:=x.sz_eq;rw [XL,YR];omega
def Be:Zh:=⟨0,0,[⟨[]⟩,⟨[0,1]⟩]⟩
def Bf:Zh:=⟨0,0,[⟨[]⟩,⟨[3,0,3]⟩]⟩
def R3:List Zh:=[⟨0,0,[⟨[1,3]⟩]⟩,⟨1,0,[]⟩,⟨0,0,[⟨[1,1,0]⟩,⟨[0]⟩,⟨[3]⟩]⟩,⟨0,1,[]⟩]
def Bp:List (List Zh):=[[Be,⟨0,0,[]⟩,Bf],[Be,⟨0,0,[]⟩,Bf,⟨0,0,[⟨[1,3]⟩]⟩],[Be,⟨0,0,[]⟩,Bf,⟨1,0,[]⟩],[Be,⟨0,0,[]⟩,Bf,⟨0,0,[⟨[1,1,0]⟩,⟨[0]⟩,⟨[3]⟩]⟩],[Be,⟨0,0,[]⟩,Bf,⟨0,1,[]⟩]]
def GD (ds:List Zh):Prop:=ds∈Bp
def GD.ok {ds:List Zh} (h:GD ds):Wq ds:=by
 have k:=(by decide:∀ds∈Bp,ds.length<=4/\(∀d∈ds,d.cons.length<=3)/\∀d∈ds,∀c∈d.cons,c.fields.length<=3) ds h;exact ⟨k.1,k.2.1,k.2.2⟩
def GD.len {ds:List Zh} (h:GD ds):3<=ds.length/\ds.length<=4:=by
 exact (by decide:∀ds∈Bp,3<=ds.length/\ds.length<=4) ds h
def JZ (t:Int):Prop:=t=0∨t=1∨t=3
instance (t:Int):Decidable (JZ t):=inferInstanceAs (Decidable (_∨_∨_))
def GD.low {ds:List Zh} (h:GD ds):Y1 ds 0=[]/\Y1 ds 1=[0,1]/\Y1 ds 2=[]/\Y1 ds 3=[2,3]/\ZZ ds 0=[]/\ZZ ds 1=[0,1]/\ZZ ds 2=[]/\ZZ ds 3=[3,0,3]:=
 (by decide:∀ds∈Bp,Y1 ds 0=[]/\Y1 ds 1=[0,1]/\Y1 ds 2=[]/\Y1 ds 3=[2,3]/\ZZ ds 0=[]/\ZZ ds 1=[0,1]/\ZZ ds 2=[]/\ZZ ds 3=[3,0,3]) ds h
def GD.fields {ds:List Zh} (h:GD ds):∀c∈Y1 ds 1++(Y1 ds 3++Y1 ds 4),∀t∈ZZ ds c,JZ t:=
 (by decide:∀ds∈Bp,∀c∈Y1 ds 1++(Y1 ds 3++Y1 ds 4),∀t∈ZZ ds c,JZ t) ds h
def GD.cons_cases {ds:List Zh} (h:GD ds) {t c:Int} (hc:c∈Y1 ds t):(0<=c/\c<=9)/\(t=1∨t=3∨t=4)/\(ZZ ds c).length<=3/\∀u∈ZZ ds c,JZ u:=by
 have ht:1<=t/\t<=ds.length:=by
  by_cases q:1<=t/\t<=ds.length
  .exact q
  .rw [Y1,Z8 q] at hc;cases hc
 have hl:=h.len;have hlow:=h.low;have key:∀c∈Y1 ds 1++(Y1 ds 3++Y1 ds 4),0<=c/\c<=9:=
  (by decide:∀ds∈Bp,∀c∈Y1 ds 1++(Y1 ds 3++Y1 ds 4),0<=c/\c<=9) ds h
 have h4:t=1∨t=2∨t=3∨t=4:=by omega
 have hf:=h.fields;have hd:=Uw h.ok c;rcases h4 with rfl|rfl|rfl|rfl
 .exact ⟨key c<|Xh.2<|.inl hc,.inl rfl,hd,hf c<|Xh.2<|.inl hc⟩
 .rw [hlow.2.2.1] at hc;cases hc
 .exact ⟨key c<|Xh.2<|.inr<|Xh.2<|.inl hc,.inr<|.inl rfl,hd,hf c<|Xh.2<|.inr<|Xh.2<|.inl hc⟩
 .exact ⟨key c<|Xh.2<|.inr<|Xh.2<|.inr hc,.inr<|.inr rfl,hd,hf c<|Xh.2<|.inr<|Xh.2<|.inr hc⟩
def AA:List (LI × Int):=[([],0),([1],0),([1,1],1),([1],1),([1,0],1),([2,1],1),([1,1],0),([3],0),([0],1),([0,1],1),([3,0],3),([3],1),([1,3,0],0),([0],0),([0,0],0),([1,0],0)]
def Q8 (f:Func):Prop:=(f.params,f.result)∈AA
def Q8.bd {f:Func} (h:Q8 f):f.params.length<=3/\(∀t∈f.params,0<=t/\t<=3)/\JZ f.result:=by
 have key:∀q∈AA,q.1.length<=3/\(∀t∈q.1,0<=t/\t<=3)/\JZ q.2:=by decide
 exact key _ h
def Q8.clo {ds:List Zh} {f:Func} (hd:GD ds) (h:Q8 f) (hp:0<UP ds (gI f.params ((f.params.length:Int)-1)) f.result):∀t∈f.params.dropLast,JZ t:=by
 have key:∀q∈AA,0<UP ds (gI q.1 ((q.1.length:Int)-1)) q.2->∀t∈q.1.dropLast,JZ t:=
  (by decide +kernel:∀ds∈Bp,∀q∈AA,0<UP ds (gI q.1 ((q.1.length:Int)-1)) q.2->∀t∈q.1.dropLast,JZ t) ds hd
 exact key _ h hp
structure GP (p:Wr):Prop where
 decls:GD p.decls
 len:1<=p.funcs.length/\p.funcs.length<=4
 sigs:∀f∈p.funcs,Q8 f
def QO (ds:List Zh) (op num:Int) (m k:Nat):Nat:=
 if op=13 then m+k else if op=8 then (if k=0 then m else m+(ZZ ds (gI (Y1 ds num) ((k:Int)-1))).length) else m
mutual
def eW (ds:List Zh) (nf:Nat):Nat->Z2->Prop
 | m,.mk op num kids=>(0<=op/\op<=13)/\(op=12->kids=[]/\0<=num/\num<m)/\(op=13->kids.length=2)/\(op=7->kids.length=3)/\(op=8->kids.length=1+(Y1 ds num).length)/\(op=9->0<=num/\num<nf)/\(-2000<=num/\num<=2000)/\kids.length<=4 /\
  KM ds nf (QO ds op num m) 0 kids
def KM (ds:List Zh) (nf:Nat) (sc:Nat->Nat):Nat->List Z2->Prop
 | _,[]=>True
 | k,e::r=>eW ds nf (sc k) e/\KM ds nf sc (k+1) r
end
def Zai {ds:List Zh} {nf m:Nat} (e:Z2):eW ds nf m e↔(0<=e.op/\e.op<=13)/\(e.op=12->e.kids=[]/\0<=e.num/\e.num<m)/\(e.op=13->e.kids.length=2)/\(e.op=7->e.kids.length=3)/\(e.op=8->e.kids.length=1+(Y1 ds e.num).length)/\(e.op=9->0<=e.num/\e.num<nf)/\(-2000<=e.num/\e.num<=2000)/\e.kids.length<=4 /\
  KM ds nf (QO ds e.op e.num m) 0 e.kids:=by cases e;rw [eW];rfl
def DS {ds:List Zh} {nf:Nat} {sc:Nat->Nat}:∀{xs:List Z2} {j k:Nat} {e:Z2},KM ds nf sc j xs->xs[k]? = some e->eW ds nf (sc (j+k)) e
 | [],j,k,e,_,h=>by simp at h
 | x::r,j,0,e,hw,h=>by simp at h;subst h;exact hw.1
 | x::r,j,k+1,e,hw,h=>by
  have:=DS (xs:=r) (j:=j+1) (k:=k) hw.2 (by simpa using h);rw [show j+(k+1)=j+1+k by omega];exact this
def Rl {ds:List Zh} {nf:Nat} {sc:Nat->Nat}:∀{xs ys:List Z2} {j:Nat},KM ds nf sc j (xs++ys)↔KM ds nf sc j xs/\KM ds nf sc (j+xs.length) ys
 | [],ys,j=>by simp [KM]
 | x::r,ys,j=>by
  rw [QQ,KM,KM,Rl (xs:=r),and_assoc,YR,show j+1+r.length=j+(r.length+1) by omega]
def LM {ds:List Zh} {nf m:Nat} {sc:Nat->Nat} (hs:∀k,sc k=m):∀{xs:List Z2} {j:Nat},(∀e∈xs,eW ds nf m e)->KM ds nf sc j xs
 | [],_,_=>True.intro
 | x::r,j,h=>⟨by rw [hs];exact h x (Xn ..),LM hs fun e he=>h e (XF _ he)⟩
def CZ {ds:List Zh} {nf m:Nat} {op num:Int} {kids:List Z2} (ho:0<=op/\op<=11/\op≠7/\op≠8) (hc:op=9->0<=num/\num<nf) (hn:-2000<=num/\num<=2000) (hl:kids.length<=4) (hk:∀e∈kids,eW ds nf m e):eW ds nf m (.mk op num kids):=by
 rw [eW];refine ⟨by omega,fun h=>by omega,fun h=>by omega,fun h=>by omega,fun h=>by omega,hc,hn,hl,LM (m:=m) (fun k=>?_) hk⟩;rw [QO,Z8 om,Z8 om]
def Zaj {ds:List Zh} {nf m:Nat} {z:Int} (hz:-2000<=z/\z<=2000):eW ds nf m (.mk 0 z []):=CZ om (fun h=>by omega) hz (by simp) fun e he=>by cases he
def Zak {ds:List Zh} {nf m:Nat} {z:Int} (hz:0<=z/\z<m) (hm:m<=2000):eW ds nf m (.mk 12 z []):=by
 rw [eW];exact ⟨by omega,fun _=>⟨rfl,hz⟩,fun h=>by omega,fun h=>by omega,fun h=>by omega,fun h=>by omega,by omega,by simp,True.intro⟩
def Rj {ds:List Zh} {nf m:Nat} {num:Int} {kids:List Z2} (hn:-2000<=num/\num<=2000) (hl:kids.length=3) (hk:∀e∈kids,eW ds nf m e):eW ds nf m (.mk 7 num kids):=by
 rw [eW];refine ⟨by omega,fun h=>by omega,fun h=>by omega,fun _=>hl,fun h=>by omega,fun h=>by omega,hn,by omega,LM (m:=m) (fun k=>?_) hk⟩;rw [QO,Z8 om,Z8 om]
def Rk {ds:List Zh} {nf m:Nat} {num:Int} {a b:Z2} (hn:-2000<=num/\num<=2000) (ha:eW ds nf m a) (hb:eW ds nf (m+1) b):eW ds nf m (.mk 13 num [a,b]):=by
 rw [eW];exact ⟨by omega,fun h=>by omega,fun _=>rfl,fun h=>by omega,fun h=>by omega,fun h=>by omega,hn,by simp,ha,hb,True.intro⟩
def LL {ds:List Zh} {nf m:Nat} {num:Int} {a:Z2} {arms:List Z2} (hn:-2000<=num/\num<=2000) (h3:arms.length<=3) (hl:arms.length=(Y1 ds num).length) (ha:eW ds nf m a) (hk:KM ds nf (QO ds 8 num m) 1 arms):eW ds nf m (.mk 8 num (a::arms)):=by
 rw [eW];refine ⟨by omega,fun h=>by omega,fun h=>by omega,fun h=>by omega,fun _=>by rw [YR];omega,fun h=>by omega,hn,by rw [YR];omega,?_,hk⟩;rw [QO,Z8 om,Zg rfl,Zg rfl];exact ha
def bS (b:Nat):Nat:=max 4 (10*b-10)
def bC (b:Nat):Nat:=max 40 (100*b-100)
def X9:List Z4->Nat
 | []=>0
 | s::r=>(if Yv s.op=true then 0 else 1)+X9 r
def Am:∀xs ys:List Z4,X9 (xs++ys)=X9 xs+X9 ys
 | [],ys=>by simp [X9]
 | x::r,ys=>by rw [QQ,X9,X9,Am r];omega
def Ca:∀xs:List Z4,X9 xs<=xs.length
 | []=>X8 _
 | x::r=>by have:=Ca r;rw [X9,YR];split<;>omega
def Ts (ds:List Zh) (op num:Int) (m k:Nat):Nat:=if op=8 then m+(ZZ ds (gI (Y1 ds num) k)).length else m
mutual
def fS (ds:List Zh) (nf:Nat):Nat->Z4->Prop
 | m,.mk op num into args kids=>((0<=op/\op<=11)∨(14<=op/\op<=17))/\(∀a∈args,0<=a/\a<m)/\(14<=op->num=0/\into=0/\kids=[]/\∃a,args=[a])/\(op=7->kids.length=2)/\(op=8->kids.length=(Y1 ds num).length)/\(op=7∨op=8->∃a,args=[a]) /\
  (op=9->0<=num/\num<nf)/\(-2000<=num/\num<=2000)/\(0<=into/\into<=m)/\args.length<=4/\(op≠7/\op≠8->kids=[])/\Qn ds nf (Ts ds op num m) 0 kids
def Qn (ds:List Zh) (nf:Nat) (sc:Nat->Nat):Nat->List Z6->Prop
 | _,[]=>True
 | k,b::r=>fB ds nf (sc k) b/\Qn ds nf sc (k+1) r
def TV (ds:List Zh) (nf:Nat):Nat->List Z4->Prop
 | _,[]=>True
 | m,s::r=>fS ds nf m s/\TV ds nf (if Yv s.op=true then m else m+1) r
def fB (ds:List Zh) (nf:Nat):Nat->Z6->Prop
 | m,.mk steps result=>TV ds nf m steps/\0<=result/\result<(m+X9 steps:Nat)
end
section
variable {ds:List Zh} {nf:Nat}
structure FS (ds:List Zh) (nf m:Nat) (s:Z4):Prop where
 op:(0<=s.op/\s.op<=11)∨(14<=s.op/\s.op<=17)
 args:∀a∈s.args,0<=a/\a<m
 cnt:14<=s.op->s.num=0/\s.into=0/\s.kids=[]/\∃a,s.args=[a]
 k7:s.op=7->s.kids.length=2
 k8:s.op=8->s.kids.length=(Y1 ds s.num).length
 one:s.op=7∨s.op=8->∃a,s.args=[a]
 call:s.op=9->0<=s.num/\s.num<nf
 num:-2000<=s.num/\s.num<=2000
 into:0<=s.into/\s.into<=m
 alen:s.args.length<=4
 kn:s.op≠7/\s.op≠8->s.kids=[]
 kids:Qn ds nf (Ts ds s.op s.num m) 0 s.kids
def GX {m:Nat} (s:Z4):fS ds nf m s↔FS ds nf m s:=by
 cases s;rw [fS];exact ⟨fun ⟨h1,h2,h3,h4,h5,h6,h7,h8,h9,h10,h11,h12⟩=>⟨h1,h2,h3,h4,h5,h6,h7,h8,h9,h10,h11,h12⟩,fun h=>⟨h.op,h.args,h.cnt,h.k7,h.k8,h.one,h.call,h.num,h.into,h.alen,h.kn,h.kids⟩⟩
def Fe {m:Nat} (b:Z6):fB ds nf m b↔TV ds nf m b.steps/\0<=b.result/\b.result<(m+X9 b.steps:Nat):=by cases b;rw [fB];rfl
def Ff {sc:Nat->Nat}:∀{xs:List Z6} {j k:Nat} {b:Z6},Qn ds nf sc j xs->xs[k]? = some b->fB ds nf (sc (j+k)) b
 | [],j,k,b,_,h=>by simp at h
 | x::r,j,0,b,hw,h=>by simp at h;subst h;exact hw.1
 | x::r,j,k+1,b,hw,h=>by
  have:=Ff (xs:=r) (j:=j+1) (k:=k) hw.2 (by simpa using h);rw [show j+(k+1)=j+1+k by omega];exact this
def Ru {sc:Nat->Nat}:∀{xs ys:List Z6} {j:Nat},Qn ds nf sc j (xs++ys)↔Qn ds nf sc j xs/\Qn ds nf sc (j+xs.length) ys
 | [],ys,j=>by simp [Qn]
 | x::r,ys,j=>by
  rw [QQ,Qn,Qn,Ru (xs:=r),and_assoc,YR,show j+1+r.length=j+(r.length+1) by omega]
def Rv {sc:Nat->Nat} {xs:List Z6} {b:Z6} (h:Qn ds nf sc 0 xs) (hb:fB ds nf (sc xs.length) b):Qn ds nf sc 0 (xs++[b]):=
 Ru.2 ⟨h,by rw [VH];exact hb,True.intro⟩
def DU:∀{xs ys:List Z4} {m:Nat},TV ds nf m (xs++ys)↔TV ds nf m xs/\TV ds nf (m+X9 xs) ys
 | [],ys,m=>by simp [TV,X9]
 | x::r,ys,m=>by
  rw [QQ,TV,TV,DU (xs:=r),and_assoc,X9];by_cases h:Yv x.op=true
  .rw [Zg h,Zg h,VH]
  .rw [Z8 h,Z8 h,BX]
def GY {xs:List Z4} {s:Z4} {m:Nat} (h:TV ds nf m xs) (hs:fS ds nf (m+X9 xs) s):TV ds nf m (xs++[s]):=DU.2 ⟨h,hs,True.intro⟩
def Fg:∀{xs:List Z4} {k m:Nat} {s:Z4},TV ds nf m xs->xs[k]? = some s->fS ds nf (m+X9 (xs.take k)) s
 | [],k,m,s,_,h=>by simp at h
 | x::r,0,m,s,hw,h=>by simp at h;subst h;exact hw.1
 | x::r,k+1,m,s,hw,h=>by
  have:=Fg (xs:=r) (k:=k) hw.2 (by simpa using h);rw [CJ,X9];by_cases hc:Yv x.op=true
  .rw [Zg hc] at this ⊢;rw [VH];exact this
  .rw [Z8 hc] at this ⊢;rw [<-BX];exact this
mutual
def Zo9:∀(s:Z4) {m:Nat},fS ds nf m s->m+4*s.sz<=900000000->Wq ds->wS ds s
 | .mk op num into args kids,m,h,hb,hd=>by
  rw [fS] at h;obtain ⟨h1,h2,h3,h4,h5,h6,h7,h8,h9,h10,h11,h12⟩:=h;rw [Z4.sz] at hb;rw [wS];refine ⟨?_,fun hc=>h3 (show 14<=op/\op<=17 by simpa [Yv] using hc).1,fun h8'=>⟨?_,h5 h8'⟩,Z5r kids h12 (fun k=>?_) hd⟩
  .rcases h1 with h1|h1
   .have e1:Yv op=false:=by simp [Yv];omega
    have e2:XV op=true:=by simp [XV];omega
    rw [e1,e2];rfl
   .have e1:Yv op=true:=by simp [Yv];omega
    have e2:XV op=false:=by simp [XV];omega
    rw [e1,e2];rfl
  .obtain ⟨a,ha⟩:=h6 (.inr h8');have:=h2 a (by rw [ha];exact XI.2 rfl);exact ⟨a,ha,by omega⟩
  .have hf:=Uw hd (gI (Y1 ds num) k);show Ts ds op num m k+4*YT kids<=900000003
   rw [Ts];split<;>omega
def Z5r:∀(bs:List Z6) {sc:Nat->Nat} {k:Nat},Qn ds nf sc k bs->(∀k,sc k+4*YT bs<=900000003)->Wq ds->TM ds bs
 | [],_,_,_,_,_=>True.intro
 | b::r,sc,k,h,hb,hd=>by
  have hp:=b.sz_eq;exact ⟨Z5p b h.1 (by have:=hb k;rw [YT] at this;omega) hd,Z5r r h.2 (fun j=>by have:=hb j;rw [YT] at this;omega) hd⟩
def Z5u:∀(xs:List Z4) {m:Nat},TV ds nf m xs->m+4*Ya xs<=900000000->Wq ds->Ug ds xs
 | [],_,_,_,_=>True.intro
 | s::r,m,h,hb,hd=>by
  rw [Ya] at hb;have hp:=s.sz_pos;refine ⟨Zo9 s h.1 om hd,Z5u r h.2 ?_ hd⟩
  split<;>omega
def Z5p:∀(b:Z6) {m:Nat},fB ds nf m b->m+4*b.sz<=900000004->Wq ds->wB ds b
 | .mk steps result,m,h,hb,hd=>by
  rw [Z6.sz] at hb;rw [fB] at h;rw [wB];exact Z5u steps h.1 om hd
end
mutual
def Zjb:∀(s:Z4) {m:Nat},fS ds nf m s->s.rng
 | .mk op num into args kids,m,h=>by
  rw [fS] at h;obtain ⟨h1,h2,h3,h4,h5,h6,h7,h8,h9,h10,h11,h12⟩:=h;rw [Z4.rng];exact ⟨by omega,Z2o kids h12⟩
def Z2o:∀(bs:List Z6) {sc:Nat->Nat} {k:Nat},Qn ds nf sc k bs->KE bs
 | [],_,_,_=>True.intro
 | b::r,sc,k,h=>⟨Nv b h.1,Z2o r h.2⟩
def Z2p:∀(xs:List Z4) {m:Nat},TV ds nf m xs->Q6 xs
 | [],_,_=>True.intro
 | s::r,m,h=>⟨Zjb s h.1,Z2p r h.2⟩
def Nv:∀(b:Z6) {m:Nat},fB ds nf m b->b.rng
 | .mk steps result,m,h=>by rw [fB] at h;rw [Z6.rng];exact Z2p steps h.1
end
end
structure FN (n:Zm) (q:Nat):Prop where
 decls:GD n.1
 len:1<=n.2.length/\n.2.length<=4
 sigs:∀r∈n.2,(r.1,r.result)∈AA
 lent:∀r∈n.2,r.2.length<=3/\∀i∈r.2,0<=i/\i<r.1.length
 body:∀r∈n.2,fB n.1 n.2.length r.1.length r.4/\r.4.sz<=q
def FN.ok {n:Zm} {q:Nat} (h:FN n q):YZ n:=
 ⟨h.decls.ok,h.len.2,fun r hr=>(Q8.bd (f:=⟨r.1,r.result,default⟩)<|h.sigs r hr).1,fun r hr=>by have:=(h.lent r hr).1;omega⟩
def Pk (n k:Int):Prop:=0<=k/\(0<n->k<n)/\(n<=0->k=0)
def Pk.lt {n k:Int} (h:Pk n k) (hn:0<n):0<=k/\k<n:=⟨h.1,h.2.1 hn⟩
def Pk.zero {n:Int}:Pk n 0:=⟨Int.le_refl _,fun h=>h,fun _=>rfl⟩
def Pk.rem {n a:Int} (ha:0<=a) (hn:0<n):Pk n (a % n):=⟨Int.emod_nonneg _ om,fun _=>Int.emod_lt_of_pos _ hn,fun _=>by omega⟩
def AD (ds:List Zh):Prop:=ds.length<=8/\∀d∈ds,d.cons.length<=4/\∀c∈d.cons,c.fields.length<=4
def GD.ad {ds:List Zh} (h:GD ds):AD ds:=(by decide:∀ds∈Bp,ds.length<=8/\∀d∈ds,d.cons.length<=4/\∀c∈d.cons,c.fields.length<=4) ds h
def AD.set {ds:List Zh} (h:AD ds) (k:Nat) {d:Zh} (hd:d.cons.length<=4/\∀c∈d.cons,c.fields.length<=4):AD (ds.set k d):=
 ⟨by rw [UO];exact h.1,fun x hx=>(List.mem_or_eq_of_mem_set hx).elim (h.2 x) fun e=>by rw [e];exact hd⟩
def AD.app {ds es:List Zh} (h:AD ds) (hl:ds.length+es.length<=8) (hd:∀d∈es,d.cons.length<=4/\∀c∈d.cons,c.fields.length<=4):AD (ds++es):=
 ⟨by rw [Yy];exact hl,fun x hx=>(Xh.1 hx).elim (h.2 x)<|hd x⟩
def GD.three:GD [Be,⟨0,0,[]⟩,Bf]:=List.Mem.head _
def GD.four:∀{k:Nat} {x:Zh},R3[k]? = some x->GD ([Be,⟨0,0,[]⟩,Bf]++[x])
 | 0,x,h=>by cases h;exact .tail _ (.head _)
 | 1,x,h=>by cases h;exact .tail _ (.tail _ (.head _))
 | 2,x,h=>by cases h;exact .tail _ (.tail _ (.tail _ (.head _)))
 | 3,x,h=>by cases h;exact .tail _ (.tail _ (.tail _ (.tail _ (.head _))))
 | k+4,x,h=>by simp [R3] at h
def Cq {l:LI} {z a b:Int} (h:z∈l) (hl:l.all (fun x=>decide (a<=x/\x<=b))=true):a<=z/\z<=b:=by
 have:=Ax.1 hl z h;exact of_decide_eq_true this
def rk (t:Int):Nat:=if JZ t then 0 else 1
def Nu (t:Int):rk t<=1:=by rw [rk];split<;>omega
def Z2n {t:Int} (h:JZ t):rk t=0:=Zg h
def SE (g:Wr) (q:Nat) (e:Z2):Prop:=(∀m,eW g.decls g.funcs.length m e)/\e.sz<=q
def GE (g:Wr) (m q:Nat) (e:Z2):Prop:=eW g.decls g.funcs.length m e/\e.sz<=q
def SE.ge {g:Wr} {q q' m:Nat} {e:Z2} (h:SE g q e) (hq:q<=q'):GE g m q' e:=⟨h.1 m,Vy h.2 hq⟩
def GE.le {g:Wr} {m q q':Nat} {e:Z2} (h:GE g m q e) (hq:q<=q'):GE g m q' e:=⟨h.1,Vy h.2 hq⟩
def GW {m:Nat}:∀{xs:List Z2},(∀e∈xs,e.sz<=m)->XL xs<=xs.length*m
 | [],_=>JG _
 | x::r,h=>by
  have h1:=h x (Xn ..);have h2:=GW (xs:=r) fun e he=>h e<|XF _ he
  rw [XL,YR,Kf];omega
def XN {α:Type} {p:α->Prop} {xs:List α} {a:α} (h:∀x∈xs,p x) (ha:p a):∀x∈xs++[a],p x:=fun x hx=>(Xh.1 hx).elim (h x) fun q=>by rw [XI.1 q];exact ha
def SE.int {g:Wr} {z:Int} {q:Nat} (hz:-2000<=z/\z<=2000) (hq:1<=q):SE g q (.mk 0 z []):=⟨fun _=>Zaj hz,by simpa [Z2.sz,XL] using hq⟩
def SE.node {g:Wr} {op num:Int} {ys:List Z2} {q k:Nat} (ho:op=6∨op=10) (hn:0<=num/\num<=2000) (hy:∀e∈ys,SE g 1 e) (hl:ys.length<=k) (hk:k<=3) (hq:1+k<=q):SE g q (.mk op num ys):=by
 refine ⟨fun m=>CZ om (fun h=>by omega) om om fun e he=>(hy e he).1 m,?_⟩;have:=GW (xs:=ys) (m:=1) fun e he=>(hy e he).2
 rw [Z2.sz];omega
def C2 (ds:List Zh) (t c:Int):Prop:=(0<=c/\c<=9)/\(ZZ ds c).length<=3*rk t/\∀u∈ZZ ds c,JZ u
instance (ds:List Zh) (t c:Int):Decidable (C2 ds t c):=inferInstanceAs (Decidable (_/\_/\_))
def Z3l {ds:List Zh} (h:GD ds):∀t∈[(1:Int),2,3,4],∀c∈Y1 ds t,(t∈ZZ ds c->∀c0,(Y1 ds t)[0]? = some c0->C2 ds t c0)/\(¬t∈ZZ ds c->C2 ds t c):=by
 intro t ht c hc;have k1:=(by decide:∀ds∈Bp,∀t∈[(1:Int),2,3,4],∀c∈Y1 ds t,(t∈ZZ ds c->C2 ds t (gI (Y1 ds t) 0))/\(¬t∈ZZ ds c->C2 ds t c)) ds h t ht c hc;refine ⟨fun q c0 h0=>?_,k1.2⟩;have:=k1.1 q
 rwa [WH (i:=0) h0] at this
def PP {ds:List Zh} (h:GD ds) {t c:Int} (hc:c∈Y1 ds t):t∈[(1:Int),2,3,4]:=by
 obtain ⟨_,h2,_⟩:=h.cons_cases hc;rcases h2 with rfl|rfl|rfl<;>simp
def Zkl {ds:List Zh} (h:GD ds) {t c c0:Int} (hc:c∈Y1 ds t) (ht:t∈ZZ ds c) (h0:(Y1 ds t)[0]? = some c0):C2 ds t c0:=(Z3l h t (PP h hc) c hc).1 ht c0 h0
def Zkk {ds:List Zh} (h:GD ds) {t c:Int} (hc:c∈Y1 ds t) (ht:¬t∈ZZ ds c):C2 ds t c:=(Z3l h t (PP h hc) c hc).2 ht
def Zja {ds:List Zh} (h:GD ds) {t:Int} (h0:(Y1 ds t).length=0) (ht:0<t):rk t=1:=by
 rw [rk,Z8];rintro (q|q|q)
 .omega
 .rw [q,h.low.2.1] at h0;cases h0
 .rw [q,h.low.2.2.2.1] at h0;cases h0
def B5 (g:Wr) (t i:Int):Prop:=0<=i/\∃f,g.funcs[i.toNat]? = some f/\0<f.params.length/\UP g.decls (gI f.params ((f.params.length:Int)-1)) f.result=t
def B5.lt {g:Wr} {t i:Int} (h:B5 g t i):0<=i/\i<g.funcs.length:=by
 obtain ⟨h1,f,h2,_⟩:=h;have:=(Xv.1 h2).1;omega
def B5.mk {g:Wr} {t x2:Int} {k:Nat} {f:Func} (hf:g.funcs[k]? = some f) (hl:0<f.params.length) (hx:f.params[f.params.length-1]? = some x2) (ha:UP g.decls x2 f.result=t):B5 g t (k:Int):=by
 refine ⟨by omega,f,by simpa using hf,hl,?_⟩;rw [WH (i:=(f.params.length:Int)-1) (by rw [show ((f.params.length:Int)-1).toNat=f.params.length-1 by omega];exact hx)];exact ha
def B5.low {g:Wr} {t i u:Int} {f:Func} {j:Nat} (hg:GP g) (h:B5 g t i) (ht:0<t) (hf:g.funcs[i.toNat]? = some f) (hj:j+1<f.params.length) (hu:f.params[j]? = some u):rk u=0:=by
 obtain ⟨_,f',h2,_,h4⟩:=h;have e:f'=f:=Qs (h2.symm.trans hf);subst e;have h5:=(hg.sigs f' (Y0 hf)).clo hg.decls (by rw [h4];exact ht);refine Z2n (h5 u ?_);rw [List.dropLast_eq_take];exact Y0 (i:=j) (by rw [List.getElem?_take_of_lt om];exact hu)
end Go.Abs
