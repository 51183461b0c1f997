/- Texts in one: A row is copied behind an empty one: of every program; no condition. -/
import Derived.Test.YtoibondihdhnoaaGreatDoorFRQ8
import Derived.Test.YtoibondihdhnoaaGreatDoorFRQ14
namespace Go.Proofs.YtoibondihdhnoaaGreatDoor
open Go.RowKit
section
variable {P:Program} {M0:Nat→Nat→Prop} {w0:Bas} {N:Nm} {p:Pl} {st:VS} {a:Act} {w:World} {Q:Exit→VS→Prop}
theorem GK {l:List Oper} {n:Nat} {rs:List AV} (R:Rel M0 w0 N p st a w) (hn:n≤l.length) (hd:ea (l.take n)=true) (hN:l.all (cR N)=true)
  (bh:∀ i,i < n→∀ o,l[i]? = some o→∀ t∈o.looksAt l.toArray,∀ j,j < n→∀ q,l[j]? = some q→q.dst=some t→Region.waitsFor .any l.toArray i j=true)
  (ak:∀ i j,i < n→Region.waitsFor .any l.toArray i j=true→j < i) (ep:rs.length=n)
  (i:Nat) (fa:∀ (o:Oper) (r:AV),(l.take n)[i]? = some o→rs[i]? = some r→kz P l o (aM st ((l.take n).take i) (rs.take i)) r) (hi:i < n) :
  qi P l.toArray w a n (fun i v w'=>V1 w' (Mof M0 st.h p) st.h p (rs.getD i .any) v) i:=by
 intro o ho vs w' cq hS;have aT:l[i]? = some o:=by simpa using ho
 have aV:(l.take n)[i]? = some o:=by rw [List.getElem?_take_of_lt hi];exact aT
 have R':=R.later cq;have eS:∀ q∈l.take n,∀ d,q.dst=some d→d < a.tmps.size:=fun q hq d ew=>R.size.lt (dZ (List.all_eq_true.1 hN q (List.mem_of_mem_take hq)) d ew);have hlen:(l.take n).length=n:=by simp;omega
 have cG:∀ t∈o.looksAt l.toArray,V1 w' (Mof M0 st.h p) st.h p (lkp (aM st ((l.take n).take i) (rs.take i)).s t) ((fill (fun _=>true) vs (l.take n) 0 a).tmps.getD t undef):=fun t ht=>
  Ch hd (by rw [ep,hlen]) eS (R'.slots t) (by rw [hlen];omega) fun j q hj hq=>by
   have eE:j < n:=by have:=(List.getElem?_eq_some_iff.1 hj).1;omega
   have eM:l[j]? = some q:=by rw [List.getElem?_take_of_lt eE] at hj;exact hj
   have hw:=bh i hi o aT t ht j eE q eM hq;exact ⟨ak i j hi hw,hS j eE hw⟩
 have hr:rs[i]? = some (rs.getD i .any):=by simp [List.getD,show i < rs.length by omega]
 have ao:=fa o _ aV hr;simp only [];have b8:fT P st.h (ev (aM st ((l.take n).take i) (rs.take i))) o.op (rs.getD i .any)→gives P o (fill (fun _=>true) vs (l.take n) 0 a) w' fun v w''=>V1 w'' (Mof M0 st.h p) st.h p (rs.getD i .any) v∧Below w'.heap.size w' w'':=by
  intro hg;refine pj R'.objs R'.mok R'.h0 R'.glob (fun _ _ hb=>.inl hb) (fun x hx=>?_) hg;cases x with
  | tmp t=>exact cG t (List.mem_append_left _ (List.mem_filterMap.2 ⟨.tmp t,by simpa using hx,rfl⟩))
  | const v=>exact .base _ _ (.lit v)
  | global g=>exact .base _ _ (R'.evalG g)
  | func f=>exact .base _ _ (.lit _)
 unfold kz at ao;split at ao
 ·rename_i hg;simp only [Region.wanted,hg,if_true];rw [fc] at ao;exact b8 ao
 ·rename_i j want hg;simp only [Region.wanted,hg];have hy:(∀ b,cY l (aM st ((l.take n).take i) (rs.take i)) j = .lit (.bool b)→yielded l.toArray (fill (fun _=>true) vs (l.take n) 0 a).tmps j=some b)∧(∀ us,cY l (aM st ((l.take n).take i) (rs.take i)) j = .lit (.tuple us)→yielded l.toArray (fill (fun _=>true) vs (l.take n) 0 a).tmps j=none):=by
   unfold cY yielded;cases hj:l[j]? with
   | none=>simp [hj,undef]
   | some q=>
    cases hq:q.dst with
    | none=>simp [hj,hq,undef]
    | some d=>
     have ec:d∈o.looksAt l.toArray:=by
      unfold Oper.looksAt;refine List.mem_append_right _ ?_;simp [hg,hj,hq]
     have hs:=cG d ec;have k_:d < (fill (fun _=>true) vs (l.take n) 0 a).tmps.size:=by
      rw [(y7 _ _ _).1];exact R.size.lt (dZ (List.all_eq_true.1 hN q (List.mem_of_getElem? hj)) d hq)
     have c_:(fill (fun _=>true) vs (l.take n) 0 a).tmps.getD d undef=(fill (fun _=>true) vs (l.take n) 0 a).tmps[d]:=by simp [k_]
     rw [c_] at hs;simp only [List.getElem?_toArray,hj,Option.bind_some,hq];refine ⟨fun b hb=>?_,fun us hb=>?_⟩
     ·rw [hb] at hs;have:=hs.lit_inv;simp [k_,this]
     ·rw [hb] at hs;have:=hs.lit_inv;simp [k_,this]
  split at ao
  ·rename_i b hb;rw [hy.1 b hb];split at ao
   ·rename_i hw;subst hw;rw [if_pos (by simp)];rw [fc] at ao;exact b8 ao
   ·rename_i hw;rw [if_neg (by simpa using hw),ao];exact .base _ _ (.lit _)
  ·rename_i us hb;rw [hy.2 us hb,if_neg (by simp),ao];exact .base _ _ (.lit _)
  ·exact ao.elim
theorem Ci {o:Oper} {R R':Value→World→Prop} (h:gives P o a w R) (hr:∀ v w',R v w'→R' v w') : gives P o a w R':=by
 unfold gives at h ⊢;generalize (execOp a.eval o).run P w=q at h ⊢;unfold s8 at h;split at h
 ·exact hr _ _ h
 ·exact hr _ _ h
 ·exact h.mono fun e w'' ⟨v,he,hv⟩=>⟨v,he,hr _ _ hv⟩
 ·exact h.elim
theorem GL {ops:Array Oper} {n:Nat} {S S':Nat→Value→World→Prop} {i:Nat} (h:qi P ops w a n S i) (hd:∀ j v w',S' j v w'→S j v w') (hs:∀ v w',S i v w'→S' i v w') : qi P ops w a n S' i:=by
 intro o ho vs w' hb hv;have:=h o ho vs w' hb fun j hj hw=>hd _ _ _ (hv j hj hw);split
 ·rename_i hc;rw [if_pos hc] at this;exact Ci this fun v w'' hh=>⟨hs _ _ hh.1,hh.2⟩
 ·rename_i hc;rw [if_neg hc] at this;exact hs _ _ this
theorem Rel.know (R:Rel M0 w0 N p st a w) {d:Nat} {r:AV} (hv:V1 w (Mof M0 st.h p) st.h p r (a.tmps.getD d undef)) : Rel M0 w0 N p ⟨(d,r)::st.s,st.h⟩ a w:=by
 refine ⟨R.defers,R.size,R.below,R.m0,R.x0,fun i=>?_,R.objs,R.inj⟩;simp only [lkp];split
 ·rename_i h;subst h;exact hv
 ·exact R.slots i
theorem Rel.reframe {a':Act} (R:Rel M0 w0 N p st a w) (hd:a'.defers=[]) (hs:SizeOK N a') (h:∀ i,lkp st.s i≠.any→a'.tmps.getD i undef=a.tmps.getD i undef) : Rel M0 w0 N p st a' w:=by
 refine ⟨hd,hs,R.below,R.m0,R.x0,fun i=>?_,R.objs,R.inj⟩;by_cases hi:lkp st.s i = .any
 ·rw [hi];exact .base _ _ (.any _)
 ·rw [h i hi];exact R.slots i
theorem Nw {id:Nat} {l:List Oper} (n:Nat) (ow:List Nat) (ba:Nat→Bool) (S2:VS) (T:Pl→Act→World→Nat→Value→World→Prop) (hm:P.follows .mixedOrders=true) (hB:Region.specB l.toArray n=true)
  (hT:∀ p a w i v w1 w2,T p a w i v w1→Below w1.heap.size w1 w2→T p a w i v w2)
  (h:iP P l ba (l.take n) 0 st fun aI=>
   (∀ p a w,Rel M0 w0 N p st a w→∀ i o,i < n→ba i=true→l[i]? = some o→o.guard=none∧∀ a' w',Below w.heap.size w w' →
    (∀ t∈o.looksAt l.toArray,V1 w' (Mof M0 st.h p) st.h p (lkp aI.s t) (a'.tmps.getD t undef))→(∀ t,(∀ j q,j < n→l[j]? = some q→q.dst≠some t)→a'.tmps.getD t undef=a.tmps.getD t undef) →
    (∀ j q d,j < n→ba j=true→l[j]? = some q→q.dst=some d→Region.waitsFor .any l.toArray i j=true→T p a w j (a'.tmps.getD d undef) w') →
    gives P o a' w' fun v w''=>T p a w i v w''∧Below w'.heap.size w' w'') ∧
   (∀ p a w a' w',Rel M0 w0 N p st a w→Below w.heap.size w w'→Rel M0 w0 N p aI a' w'→(∀ t,(∀ j q,j < n→l[j]? = some q→q.dst≠some t)→a'.tmps.getD t undef=a.tmps.getD t undef) →
    (∀ j q d,j < n→ba j=true→l[j]? = some q→q.dst=some d→T p a w j (a'.tmps.getD d undef) w')→∃ p2,Rel M0 w0 N p2 S2 a' w')∧dU P ow l (l.drop n) S2 (Q .normal)) :
  VWp P M0 w0 N (.region id l.toArray true) Q st:=fun jr p a w R=>by
 have hN:l.all (cR N)=true:=by simpa [e_] using jr
 obtain ⟨rs,dW,⟨nM,sj,nN⟩,hP,sk⟩:=s7 _ _ _ h;have dq:=hB;simp only [Region.specB,Bool.and_eq_true,decide_eq_true_eq] at dq;obtain ⟨⟨⟨⟨⟨⟨_,aK⟩,_⟩,_⟩,hd⟩,bh⟩,_⟩:=dq;have fb:n < l.length:=by simpa using aK
 have dw:ea (l.take n)=true:=by simpa using hd
 have hlen:(l.take n).length=n:=by simp;omega
 rw [hlen] at dW;have cG:∀ i,i < n→∀ o,l[i]? = some o→(∀ t∈o.looksAt l.toArray,∀ j,j < n→∀ q,l[j]? = some q→q.dst=some t→Region.waitsFor .any l.toArray i j=true)∧(∀ e∈o.after,Region.binds .any e=true→e.on < i):=by
  intro i hi o ho;have h:=List.all_eq_true.1 bh i (List.mem_range.2 hi);simp only [List.getElem?_toArray,ho,Bool.and_eq_true] at h;refine ⟨fun t ht j hj q hq aH=>?_,fun e he hb=>?_⟩
  ·have h1:=List.all_eq_true.1 (List.all_eq_true.1 h.1 t ht) j (List.mem_range.2 hj);simp only [hq,Option.bind_some,aH,bne_self_eq_false,Bool.false_or] at h1;exact h1
  ·have h1:=Array.all_eq_true'.1 h.2 e he;simp only [hb,Bool.not_true,Bool.false_or,decide_eq_true_eq] at h1;exact h1
 have ak:∀ i j,i < n→Region.waitsFor .any l.toArray i j=true→j < i:=by
  intro i j hi hw;obtain ⟨o,ho,e,he,hb,cL⟩:=Region.waitsFor_spec hw;rw [←cL];exact (cG i hi o (by simpa using ho)).2 e he hb
 have pd:(l.take n).all (cR N)=true:=List.all_eq_true.2 fun q hq=>List.all_eq_true.1 hN q (List.mem_of_mem_take hq);have bf:∀ {i:Nat} {o:Oper},i < n→l[i]? = some o→(l.take n)[i]? = some o:=fun {i o} hi ho=>by rw [List.getElem?_take_of_lt hi];exact ho
 have eS:∀ q∈l.take n,∀ d,q.dst=some d→d < a.tmps.size:=fun q hq d ew=>R.size.lt (dZ (List.all_eq_true.1 pd q hq) d ew);have nO:∀ i,i < n→ba i=true→rs.getD i .any = .any:=fun i hi hc=>by
  have cC:i < l.length:=by omega
  have:=sk i _ (by rw [Nat.zero_add];exact hc) (bf hi (List.getElem?_eq_getElem cC));rw [List.getD_eq_getElem?_getD,this];rfl
 have fE:∀ {vs:Nat→Value} {j d:Nat} {q:Oper},j < n→l[j]? = some q→q.dst=some d→(fill (fun _=>true) vs (l.take n) 0 a).tmps.getD d undef=vs j:=fun {vs j d q} hj hq ew=>by
  rw [y8 (l.take n) 0 a d j q dw eS (bf hj hq) ew,Nat.zero_add]
 refine xh n (fun i v w'=>V1 w' (Mof M0 st.h p) st.h p (rs.getD i .any) v∧(ba i=true→T p a w i v w')) hm hB
  (fun i _ v w1 w2 hv hb=>⟨hv.1.later hb,fun hc=>hT _ _ _ _ _ _ _ (hv.2 hc) hb⟩) (fun i hi=>?_) fun vs w' hb hv=>?_
 ·by_cases hc:ba i=true
  ·intro o ho vs w' cq hS;have aT:l[i]? = some o:=by simpa using ho
   obtain ⟨hg,hh⟩:=nM p a w R i o hi hc aT;simp only [Region.wanted,hg,if_true];refine Ci (hh _ w' cq (fun t ht=>?_) (fun t ht=>?_) fun j q d hj sn hq ew hw=>?_) fun v w'' wv=>⟨⟨?_,fun _=>wv.1⟩,wv.2⟩
   ·have R':=R.later cq;by_cases hex:∃ (j:Nat) (q:Oper),(l.take n)[j]? = some q∧q.dst=some t
    ·obtain ⟨j,q,hj,hq⟩:=hex;have eE:j < n:=by have:=(List.getElem?_eq_some_iff.1 hj).1;omega
     have eM:l[j]? = some q:=by rw [List.getElem?_take_of_lt eE] at hj;exact hj
     have hw:=(cG i hi o aT).1 t ht j eE q eM hq;rw [fE eE eM hq,mW (l.take n) rs st t j q (rs.getD j .any) dw hj (by simp [List.getD,show j < rs.length by omega]) hq];exact (hS j eE hw).1
    ·have bz:∀ o∈l.take n,o.dst≠some t:=fun o ho he=>by
      obtain ⟨j,hj⟩:=List.mem_iff_getElem?.1 ho;exact hex ⟨j,o,hj,he⟩
     have e1:=oQ (vs:=vs) (l.take n) 0 a t bz eS;rw [e1,ml _ _ _ _ bz];exact R'.slots t
   ·refine oQ (l.take n) 0 a t (fun q hq he=>?_) eS;obtain ⟨j,hj⟩:=List.mem_iff_getElem?.1 hq;have eE:j < n:=by have:=(List.getElem?_eq_some_iff.1 hj).1;omega
    exact ht j q eE (by rw [List.getElem?_take_of_lt eE] at hj;exact hj) he
   ·have:=(hS j hj hw).2 sn;have e1:=fE (vs:=vs) hj hq ew;rw [e1];exact this
   ·rw [nO i hi hc];exact .base _ _ (.any v)
  ·have gX:ba i=false:=by simpa using hc
   refine GL (GK R (Nat.le_of_lt fb) dw hN (fun i hi o ho t ht j hj q hq aH=>(cG i hi o ho).1 t ht j hj q hq aH) ak dW i (fun o r ho hr=>(hP i o r (by rw [Nat.zero_add];exact gX) ho hr).1) hi) (fun j v w' hh=>hh.1) fun v w' hh=>⟨hh,fun h=>absurd h hc⟩
 ·obtain ⟨p2,R2⟩:=sj p a w _ w' R hb (uE R dw pd (by rw [hlen];exact dW) hb (by rw [hlen];exact fun i hi=>(hv i hi).1)) (fun t ht=>by
   refine oQ (l.take n) 0 a t (fun q hq he=>?_) eS;obtain ⟨j,hj⟩:=List.mem_iff_getElem?.1 hq;have eE:j < n:=by have:=(List.getElem?_eq_some_iff.1 hj).1;omega
   exact ht j q eE (by rw [List.getElem?_take_of_lt eE] at hj;exact hj) he) fun j q d hj sn hq ew=>by
    rw [fE hj hq ew];exact (hv j hj).2 sn
  have ix:(l.drop n).all (cR N)=true:=List.all_eq_true.2 fun q hq=>List.all_eq_true.1 hN q (List.mem_of_mem_drop hq);exact mS (ow:=ow) hN (fun p st a w R h=>⟨st,p,R,h⟩) (l.drop n) p2 _ _ w' ix R2 nN
end
set_option maxRecDepth 100000
theorem OwnRow.later {w w1 w2:World} {M:Nat→Nat→Prop} {e sz:Nat} {nl:Bool} {es:List (List AV)} {v:Value} (h:OwnRow w w1 M e sz nl es v) (hb:Below w1.heap.size w1 w2) : OwnRow w w2 M e sz nl es v:=by
 unfold OwnRow at h ⊢;split
 ·rename_i hn;rwa [if_pos hn] at h
 ·rename_i hn;rw [if_neg hn] at h;obtain ⟨g,cap,cur,h1,h2,h3,h4,h5,h6,h7⟩:=h;refine ⟨g,cap,cur,h1,h2,(hb.block g (Array.getElem?_eq_some_iff.1 h3).1).trans h3,h4,h5,h6,fun k x j c hk hj=>?_⟩;obtain ⟨u,hu,hv⟩:=h7 k x j c hk hj;exact ⟨u,hu,hv.later hb⟩
theorem OwnRow.base {w w1 w2:World} {M:Nat→Nat→Prop} {e sz:Nat} {nl:Bool} {es:List (List AV)} {v:Value} (h:OwnRow w1 w2 M e sz nl es v) (hb:w.heap.size≤w1.heap.size) : OwnRow w w2 M e sz nl es v:=by
 unfold OwnRow at h ⊢;split
 ·rename_i hn;rwa [if_pos hn] at h
 ·rename_i hn;rw [if_neg hn] at h;obtain ⟨g,cap,cur,h1,h2,h3⟩:=h;exact ⟨g,cap,cur,h1,Nat.le_trans hb h2,h3⟩
theorem Nx {P:Program} {w:World} {t ty e:TypeId} {i:TypeInfo} {z:Value} {sz:Nat} (ht:P.underlying t=some (.slice e)) (hi:P.info? e=some i) (hz:i.zero=some z) (hs:i.size=sz) (gp:z.cells.size=sz) (gR:i.bytes≤100000) (aJ:0 < sz)
  {M:Nat→Nat→Prop} {es:List (List AV)} {a0:Addr} {v:Value} (hv:V0 w M (.sl sz es) v) (hn:es.length≤1000000000) :
  ∃ v' w',(Builtin.append_ #[t,t] ty #[.slice (some a0) 0 0,v]).run P w = .ok v' w'∧Below w.heap.size w w'∧OwnRow w w' M e sz (decide (es=[])) es v':=by
 have hb0:Below w.heap.size w w:=Below.refl _ w;cases hv with
 | slNil _ A c=>
  have hr:=IX (P:=P) (ty:=ty) ht hi a0 A c w;exact ⟨_,_,hr,hb0,⟨_,rfl⟩,rfl⟩
 | sl _ _ c b o u aq hb hM dB j5 h1 hc iM=>
  have cj:0 < es.length:=List.length_pos_iff.2 aq;have eC:es.length*i.bytes≤281474976710656:=by
   have:es.length*i.bytes≤1000000000*100000:=Nat.mul_le_mul hn gR;omega
  have e1:=GD (P:=P) (w:=w) (ty:=ty) ht hi a0 (some ⟨b,o,none⟩) es.length c cj eC hn;obtain ⟨N,hN⟩ : ∃ N:List Value,N=(List.range (es.length*sz)).map fun j=>u (j / sz) (j % sz):=⟨_,rfl⟩
  have y9:N.length=es.length*sz:=by rw [hN];simp
  have wx:∀ j,j < es.length*sz→N[j]? = some (u (j / sz) (j % sz)):=fun j hj=>by rw [hN];simp [hj]
  have hdiv:∀ j,j < es.length*sz→j / sz < es.length∧j % sz < sz∧j / sz*sz+j % sz=j:=fun j hj=>⟨Nat.div_lt_of_lt_mul (by rw [Nat.mul_comm];exact hj),Nat.mod_lt _ aJ,by rw [Nat.mul_comm];exact Nat.div_add_mod j sz⟩
  have aF:∀ j v,N[j]? = some v→w.cell? ((⟨b,o,none⟩ : Addr).add j)=some v:=fun j v hj=>by
   have bM:j < es.length*sz:=by rw [←y9];exact (List.getElem?_eq_some_iff.1 hj).1
   rw [wx j bM] at hj;obtain rfl:=Option.some.inj hj;obtain ⟨d1,d2,d3⟩:=hdiv j bM;have:=hc _ _ d1 d2;have e3:o+j=o+j / sz*sz+j % sz:=by omega
   rw [jv];show World.cell? _ ⟨b,o+j,none⟩=_;rw [e3];exact this
  have hr:=run_append_nil (P:=P) (w:=w) t ty e i z ht hi hz ⟨b,o,none⟩ es.length c N (by rw [y9,hs]) aF cj (by omega) eC;have dr:=grownCap_ge w es.length 0 e;have eT:=grownCap_le_maxLen w es.length 0 e (by simp only [maxLen];omega);generalize grownCap w es.length 0 e=G at *;refine ⟨_,_,e1.trans hr,?_,?_⟩
  ·exact xq hb0.drew _
  ·rw [decide_eq_false aq];unfold OwnRow;rw [if_neg (by simp)];refine ⟨w.heap.size,G,_,rfl,Nat.le_refl _,heap_alloc_new w.drew _,?_,dr,eT,fun k x j cc hk hj=>?_⟩
   ·rw [Array.size_append,size_zeroCells,gp,List.size_toArray,y9,←Nat.add_mul];congr 1;omega
   ·have cB:=(List.getElem?_eq_some_iff.1 hk).1;have bM:j < sz:=by rw [←j5 k x hk];exact (List.getElem?_eq_some_iff.1 hj).1
    have ak:k*sz+j < es.length*sz:=by
     have:(k+1)*sz≤es.length*sz:=Nat.mul_le_mul_right _ cB;rw [Nat.add_mul] at this;omega
    have hq:(k*sz+j) / sz=k∧(k*sz+j) % sz=j:=by
     rw [Nat.add_comm,Nat.add_mul_div_right _ _ aJ,Nat.add_mul_mod_self_right,Nat.div_eq_of_lt bM,Nat.mod_eq_of_lt bM];exact ⟨Nat.zero_add k,rfl⟩
    refine ⟨u k j,?_,?_⟩
    ·rw [Array.getElem?_append_left (by rw [List.size_toArray,y9];exact ak),List.getElem?_toArray,wx _ ak,hq.1,hq.2]
    ·refine (iM k x j cc hk hj).keep ((Keeps.of_below (M:=M) (xq hb0.drew _))) fun b' j' fI hn hm=>?_;rcases hm with hm|hm
     ·exact hn hm
     ·omega
end Go.Proofs.YtoibondihdhnoaaGreatDoor
