/- Texts in one: A row is copied behind an empty one: of every program; no condition. -/
import Derived.Test.YtoibondihdhnoaaDoorFRX12
import Derived.Test.YtoibondihdhnoaaDoorFRX16
namespace Go.Proofs.YtoibondihdhnoaaDoor
open Go.RowKit
section
variable {P:Program} {M0:Nat→Nat→Prop} {w0:Bas} {N:Nm} {p:Pl} {st:VS} {a:Act} {w:World} {Q:Exit→VS→Prop}
theorem b5e {l:List Oper} {n:Nat} {rs:List AV} (R:Rel M0 w0 N p st a w) (hn:n≤l.length) (hd:j5_ (l.take n)=true) (hN:l.all (q9_ N)=true)
  (hlook:∀ i,i < n→∀ o,l[i]? = some o→∀ t∈o.looksAt l.toArray,∀ j,j < n→∀ q,l[j]? = some q→q.dst=some t→Region.waitsFor .any l.toArray i j=true)
  (hlt:∀ i j,i < n→Region.waitsFor .any l.toArray i j=true→j < i) (hrs:rs.length=n)
  (i:Nat) (hst:∀ (o:Oper) (r:AV),(l.take n)[i]? = some o→rs[i]? = some r→q4_ P l o (d5_ st ((l.take n).take i) (rs.take i)) r) (hi:i < n) :
  a3q P l.toArray w a n (fun i v w'=>V1 w' (Mof M0 st.h p) st.h p (rs.getD i .any) v) i:=by
 intro o ho vs w' hbel hS;have ho':l[i]? = some o:=by simpa using ho
 have hti:(l.take n)[i]? = some o:=by rw [List.getElem?_take_of_lt hi];exact ho'
 have R':=R.later hbel;have hbnd:∀ q∈l.take n,∀ d,q.dst=some d→d < a.tmps.size:=fun q hq d hdd=>R.size.lt (f8_ (List.all_eq_true.1 hN q (List.mem_of_mem_take hq)) d hdd);have hlen:(l.take n).length=n:=by simp;omega
 have hlk:∀ t∈o.looksAt l.toArray,V1 w' (Mof M0 st.h p) st.h p (lkp (d5_ st ((l.take n).take i) (rs.take i)).s t) ((fill (fun _=>true) vs (l.take n) 0 a).tmps.getD t undef):=fun t ht=>
  b2z hd (by rw [hrs,hlen]) hbnd (R'.slots t) (by rw [hlen];omega) fun j q hj hq=>by
   have hjn:j < n:=by have:=(List.getElem?_eq_some_iff.1 hj).1;omega
   have hj':l[j]? = some q:=by rw [List.getElem?_take_of_lt hjn] at hj;exact hj
   have hw:=hlook i hi o ho' t ht j hjn q hj' hq;exact ⟨hlt i j hi hw,hS j hjn hw⟩
 have hr:rs[i]? = some (rs.getD i .any):=by simp [List.getD,show i < rs.length by omega]
 have hstep:=hst o _ hti hr;simp only [];have hgive:j2_ P st.h (ev (d5_ st ((l.take n).take i) (rs.take i))) o.op (rs.getD i .any)→gives P o (fill (fun _=>true) vs (l.take n) 0 a) w' fun v w''=>V1 w'' (Mof M0 st.h p) st.h p (rs.getD i .any) v∧Below w'.heap.size w' w'':=by
  intro hg;refine q1_ R'.objs R'.mok R'.h0 R'.glob (fun _ _ hb=>.inl hb) (fun x hx=>?_) hg;cases x with
  | tmp t=>exact hlk t (List.mem_append_left _ (List.mem_filterMap.2 ⟨.tmp t,by simpa using hx,rfl⟩))
  | const v=>exact .base _ _ (.lit v)
  | global g=>exact .base _ _ (R'.evalG g)
  | func f=>exact .base _ _ (.lit _)
 unfold q4_ at hstep;split at hstep
 ·rename_i hg;simp only [Region.wanted,hg,if_true];rw [h0_] at hstep;exact hgive hstep
 ·rename_i j want hg;simp only [Region.wanted,hg];have hy:(∀ b,e1_ l (d5_ st ((l.take n).take i) (rs.take i)) j = .lit (.bool b)→yielded l.toArray (fill (fun _=>true) vs (l.take n) 0 a).tmps j=some b)∧(∀ us,e1_ l (d5_ st ((l.take n).take i) (rs.take i)) j = .lit (.tuple us)→yielded l.toArray (fill (fun _=>true) vs (l.take n) 0 a).tmps j=none):=by
   unfold e1_ yielded;cases hj:l[j]? with
   | none=>simp [hj,undef]
   | some q=>
    cases hq:q.dst with
    | none=>simp [hj,hq,undef]
    | some d=>
     have hmem:d∈o.looksAt l.toArray:=by
      unfold Oper.looksAt;refine List.mem_append_right _ ?_;simp [hg,hj,hq]
     have hs:=hlk d hmem;have hltd:d < (fill (fun _=>true) vs (l.take n) 0 a).tmps.size:=by
      rw [(a2p _ _ _).1];exact R.size.lt (f8_ (List.all_eq_true.1 hN q (List.mem_of_getElem? hj)) d hq)
     have hget:(fill (fun _=>true) vs (l.take n) 0 a).tmps.getD d undef=(fill (fun _=>true) vs (l.take n) 0 a).tmps[d]:=by simp [hltd]
     rw [hget] at hs;simp only [List.getElem?_toArray,hj,Option.bind_some,hq];refine ⟨fun b hb=>?_,fun us hb=>?_⟩
     ·rw [hb] at hs;have:=hs.lit_inv;simp [hltd,this]
     ·rw [hb] at hs;have:=hs.lit_inv;simp [hltd,this]
  split at hstep
  ·rename_i b hb;rw [hy.1 b hb];split at hstep
   ·rename_i hw;subst hw;rw [if_pos (by simp)];rw [h0_] at hstep;exact hgive hstep
   ·rename_i hw;rw [if_neg (by simpa using hw),hstep];exact .base _ _ (.lit _)
  ·rename_i us hb;rw [hy.2 us hb,if_neg (by simp),hstep];exact .base _ _ (.lit _)
  ·exact hstep.elim
theorem a3j {o:Oper} {R R':Value→World→Prop} (h:gives P o a w R) (hr:∀ v w',R v w'→R' v w') : gives P o a w R':=by
 unfold gives at h ⊢;generalize (execOp a.eval o).run P w=q at h ⊢;unfold u8_ at h;split at h
 ·exact hr _ _ h
 ·exact hr _ _ h
 ·exact h.mono fun e w'' ⟨v,he,hv⟩=>⟨v,he,hr _ _ hv⟩
 ·exact h.elim
theorem b1d {ops:Array Oper} {n:Nat} {S S':Nat→Value→World→Prop} {i:Nat} (h:a3q P ops w a n S i) (hd:∀ j v w',S' j v w'→S j v w') (hs:∀ v w',S i v w'→S' i v w') : a3q P ops w a n S' i:=by
 intro o ho vs w' hb hv;have:=h o ho vs w' hb fun j hj hw=>hd _ _ _ (hv j hj hw);split
 ·rename_i hc;rw [if_pos hc] at this;exact a3j this fun v w'' hh=>⟨hs _ _ hh.1,hh.2⟩
 ·rename_i hc;rw [if_neg hc] at this;exact hs _ _ this
theorem Rel.know (R:Rel M0 w0 N p st a w) {d:Nat} {r:AV} (hv:V1 w (Mof M0 st.h p) st.h p r (a.tmps.getD d undef)) : Rel M0 w0 N p ⟨(d,r)::st.s,st.h⟩ a w:=by
 refine ⟨R.defers,R.size,R.below,R.m0,R.x0,fun i=>?_,R.objs,R.inj⟩;simp only [lkp];split
 ·rename_i h;subst h;exact hv
 ·exact R.slots i
theorem Rel.reframe {a':Act} (R:Rel M0 w0 N p st a w) (hd:a'.defers=[]) (hs:SizeOK N a') (h:∀ i,lkp st.s i≠.any→a'.tmps.getD i undef=a.tmps.getD i undef) : Rel M0 w0 N p st a' w:=by
 refine ⟨hd,hs,R.below,R.m0,R.x0,fun i=>?_,R.objs,R.inj⟩;by_cases hi:lkp st.s i = .any
 ·rw [hi];exact .base _ _ (.any _)
 ·rw [h i hi];exact R.slots i
theorem c6f {id:Nat} {l:List Oper} (n:Nat) (ow:List Nat) (isC:Nat→Bool) (S2:VS) (T:Pl→Act→World→Nat→Value→World→Prop) (hm:P.follows .mixedOrders=true) (hB:Region.specB l.toArray n=true)
  (hT:∀ p a w i v w1 w2,T p a w i v w1→Below w1.heap.size w1 w2→T p a w i v w2)
  (h:n1_ P l isC (l.take n) 0 st fun st'=>
   (∀ p a w,Rel M0 w0 N p st a w→∀ i o,i < n→isC i=true→l[i]? = some o→o.guard=none∧∀ a' w',Below w.heap.size w w' →
    (∀ t∈o.looksAt l.toArray,V1 w' (Mof M0 st.h p) st.h p (lkp st'.s t) (a'.tmps.getD t undef))→(∀ t,(∀ j q,j < n→l[j]? = some q→q.dst≠some t)→a'.tmps.getD t undef=a.tmps.getD t undef) →
    (∀ j q d,j < n→isC j=true→l[j]? = some q→q.dst=some d→Region.waitsFor .any l.toArray i j=true→T p a w j (a'.tmps.getD d undef) w') →
    gives P o a' w' fun v w''=>T p a w i v w''∧Below w'.heap.size w' w'') ∧
   (∀ p a w a' w',Rel M0 w0 N p st a w→Below w.heap.size w w'→Rel M0 w0 N p st' a' w'→(∀ t,(∀ j q,j < n→l[j]? = some q→q.dst≠some t)→a'.tmps.getD t undef=a.tmps.getD t undef) →
    (∀ j q d,j < n→isC j=true→l[j]? = some q→q.dst=some d→T p a w j (a'.tmps.getD d undef) w')→∃ p2,Rel M0 w0 N p2 S2 a' w')∧y2_ P ow l (l.drop n) S2 (Q .normal)) :
  VWp P M0 w0 N (.region id l.toArray true) Q st:=fun hCd p a w R=>by
 have hN:l.all (q9_ N)=true:=by simpa [n7_] using hCd
 obtain ⟨rs,hrl,⟨hTell,hEnd,hTail⟩,hP,hAny⟩:=l2_ _ _ _ h;have hB':=hB;simp only [Region.specB,Bool.and_eq_true,decide_eq_true_eq] at hB';obtain ⟨⟨⟨⟨⟨⟨_,hnl⟩,_⟩,_⟩,hd⟩,hlook⟩,_⟩:=hB';have hnl':n < l.length:=by simpa using hnl
 have hd':j5_ (l.take n)=true:=by simpa using hd
 have hlen:(l.take n).length=n:=by simp;omega
 rw [hlen] at hrl;have hlk:∀ i,i < n→∀ o,l[i]? = some o→(∀ t∈o.looksAt l.toArray,∀ j,j < n→∀ q,l[j]? = some q→q.dst=some t→Region.waitsFor .any l.toArray i j=true)∧(∀ e∈o.after,Region.binds .any e=true→e.on < i):=by
  intro i hi o ho;have h:=List.all_eq_true.1 hlook i (List.mem_range.2 hi);simp only [List.getElem?_toArray,ho,Bool.and_eq_true] at h;refine ⟨fun t ht j hj q hq hqd=>?_,fun e he hb=>?_⟩
  ·have h1:=List.all_eq_true.1 (List.all_eq_true.1 h.1 t ht) j (List.mem_range.2 hj);simp only [hq,Option.bind_some,hqd,bne_self_eq_false,Bool.false_or] at h1;exact h1
  ·have h1:=Array.all_eq_true'.1 h.2 e he;simp only [hb,Bool.not_true,Bool.false_or,decide_eq_true_eq] at h1;exact h1
 have hlt:∀ i j,i < n→Region.waitsFor .any l.toArray i j=true→j < i:=by
  intro i j hi hw;obtain ⟨o,ho,e,he,hb,hon⟩:=Region.waitsFor_spec hw;rw [←hon];exact (hlk i hi o (by simpa using ho)).2 e he hb
 have hNt:(l.take n).all (q9_ N)=true:=List.all_eq_true.2 fun q hq=>List.all_eq_true.1 hN q (List.mem_of_mem_take hq);have hat:∀ {i:Nat} {o:Oper},i < n→l[i]? = some o→(l.take n)[i]? = some o:=fun {i o} hi ho=>by rw [List.getElem?_take_of_lt hi];exact ho
 have hbnd:∀ q∈l.take n,∀ d,q.dst=some d→d < a.tmps.size:=fun q hq d hdd=>R.size.lt (f8_ (List.all_eq_true.1 hNt q hq) d hdd);have hanyi:∀ i,i < n→isC i=true→rs.getD i .any = .any:=fun i hi hc=>by
  have hil:i < l.length:=by omega
  have:=hAny i _ (by rw [Nat.zero_add];exact hc) (hat hi (List.getElem?_eq_getElem hil));rw [List.getD_eq_getElem?_getD,this];rfl
 have hval:∀ {vs:Nat→Value} {j d:Nat} {q:Oper},j < n→l[j]? = some q→q.dst=some d→(fill (fun _=>true) vs (l.take n) 0 a).tmps.getD d undef=vs j:=fun {vs j d q} hj hq hdd=>by
  rw [a8s (l.take n) 0 a d j q hd' hbnd (hat hj hq) hdd,Nat.zero_add]
 refine p8_ n (fun i v w'=>V1 w' (Mof M0 st.h p) st.h p (rs.getD i .any) v∧(isC i=true→T p a w i v w')) hm hB
  (fun i _ v w1 w2 hv hb=>⟨hv.1.later hb,fun hc=>hT _ _ _ _ _ _ _ (hv.2 hc) hb⟩) (fun i hi=>?_) fun vs w' hb hv=>?_
 ·by_cases hc:isC i=true
  ·intro o ho vs w' hbel hS;have ho':l[i]? = some o:=by simpa using ho
   obtain ⟨hg,hh⟩:=hTell p a w R i o hi hc ho';simp only [Region.wanted,hg,if_true];refine a3j (hh _ w' hbel (fun t ht=>?_) (fun t ht=>?_) fun j q d hj hcj hq hdd hw=>?_) fun v w'' hvw=>⟨⟨?_,fun _=>hvw.1⟩,hvw.2⟩
   ·have R':=R.later hbel;by_cases hex:∃ (j:Nat) (q:Oper),(l.take n)[j]? = some q∧q.dst=some t
    ·obtain ⟨j,q,hj,hq⟩:=hex;have hjn:j < n:=by have:=(List.getElem?_eq_some_iff.1 hj).1;omega
     have hj':l[j]? = some q:=by rw [List.getElem?_take_of_lt hjn] at hj;exact hj
     have hw:=(hlk i hi o ho').1 t ht j hjn q hj' hq;rw [hval hjn hj' hq,r1_ (l.take n) rs st t j q (rs.getD j .any) hd' hj (by simp [List.getD,show j < rs.length by omega]) hq];exact (hS j hjn hw).1
    ·have hno:∀ o∈l.take n,o.dst≠some t:=fun o ho he=>by
      obtain ⟨j,hj⟩:=List.mem_iff_getElem?.1 ho;exact hex ⟨j,o,hj,he⟩
     have e1:=u6_ (vs:=vs) (l.take n) 0 a t hno hbnd;rw [e1,p6_ _ _ _ _ hno];exact R'.slots t
   ·refine u6_ (l.take n) 0 a t (fun q hq he=>?_) hbnd;obtain ⟨j,hj⟩:=List.mem_iff_getElem?.1 hq;have hjn:j < n:=by have:=(List.getElem?_eq_some_iff.1 hj).1;omega
    exact ht j q hjn (by rw [List.getElem?_take_of_lt hjn] at hj;exact hj) he
   ·have:=(hS j hj hw).2 hcj;have e1:=hval (vs:=vs) hj hq hdd;rw [e1];exact this
   ·rw [hanyi i hi hc];exact .base _ _ (.any v)
  ·have hc':isC i=false:=by simpa using hc
   refine b1d (b5e R (Nat.le_of_lt hnl') hd' hN (fun i hi o ho t ht j hj q hq hqd=>(hlk i hi o ho).1 t ht j hj q hq hqd) hlt hrl i (fun o r ho hr=>(hP i o r (by rw [Nat.zero_add];exact hc') ho hr).1) hi) (fun j v w' hh=>hh.1) fun v w' hh=>⟨hh,fun h=>absurd h hc⟩
 ·obtain ⟨p2,R2⟩:=hEnd p a w _ w' R hb (q5_ R hd' hNt (by rw [hlen];exact hrl) hb (by rw [hlen];exact fun i hi=>(hv i hi).1)) (fun t ht=>by
   refine u6_ (l.take n) 0 a t (fun q hq he=>?_) hbnd;obtain ⟨j,hj⟩:=List.mem_iff_getElem?.1 hq;have hjn:j < n:=by have:=(List.getElem?_eq_some_iff.1 hj).1;omega
   exact ht j q hjn (by rw [List.getElem?_take_of_lt hjn] at hj;exact hj) he) fun j q d hj hcj hq hdd=>by
    rw [hval hj hq hdd];exact (hv j hj).2 hcj
  have hNd:(l.drop n).all (q9_ N)=true:=List.all_eq_true.2 fun q hq=>List.all_eq_true.1 hN q (List.mem_of_mem_drop hq);exact r0_ (ow:=ow) hN (fun p st a w R h=>⟨st,p,R,h⟩) (l.drop n) p2 _ _ w' hNd R2 hTail
end
set_option maxRecDepth 100000
theorem OwnRow.later {w w1 w2:World} {M:Nat→Nat→Prop} {e sz:Nat} {nl:Bool} {es:List (List AV)} {v:Value} (h:OwnRow w w1 M e sz nl es v) (hb:Below w1.heap.size w1 w2) : OwnRow w w2 M e sz nl es v:=by
 unfold OwnRow at h ⊢;split
 ·rename_i hn;rwa [if_pos hn] at h
 ·rename_i hn;rw [if_neg hn] at h;obtain ⟨g,cap,cur,h1,h2,h3,h4,h5,h6,h7⟩:=h;refine ⟨g,cap,cur,h1,h2,(hb.block g (Array.getElem?_eq_some_iff.1 h3).1).trans h3,h4,h5,h6,fun k x j c hk hj=>?_⟩;obtain ⟨u,hu,hv⟩:=h7 k x j c hk hj;exact ⟨u,hu,hv.later hb⟩
theorem OwnRow.base {w w1 w2:World} {M:Nat→Nat→Prop} {e sz:Nat} {nl:Bool} {es:List (List AV)} {v:Value} (h:OwnRow w1 w2 M e sz nl es v) (hb:w.heap.size≤w1.heap.size) : OwnRow w w2 M e sz nl es v:=by
 unfold OwnRow at h ⊢;split
 ·rename_i hn;rwa [if_pos hn] at h
 ·rename_i hn;rw [if_neg hn] at h;obtain ⟨g,cap,cur,h1,h2,h3⟩:=h;exact ⟨g,cap,cur,h1,Nat.le_trans hb h2,h3⟩
theorem b1e {P:Program} {w:World} {t ty e:TypeId} {i:TypeInfo} {z:Value} {sz:Nat} (ht:P.underlying t=some (.slice e)) (hi:P.info? e=some i) (hz:i.zero=some z) (hs:i.size=sz) (hzs:z.cells.size=sz) (hby:i.bytes≤100000) (hsz:0 < sz)
  {M:Nat→Nat→Prop} {es:List (List AV)} {a0:Addr} {v:Value} (hv:V0 w M (.sl sz es) v) (hn:es.length≤1000000000) :
  ∃ v' w',(Builtin.append_ #[t,t] ty #[.slice (some a0) 0 0,v]).run P w = .ok v' w'∧Below w.heap.size w w'∧OwnRow w w' M e sz (decide (es=[])) es v':=by
 have hb0:Below w.heap.size w w:=Below.refl _ w;cases hv with
 | slNil _ A c=>
  have hr:=a4s (P:=P) (ty:=ty) ht hi a0 A c w;exact ⟨_,_,hr,hb0,⟨_,rfl⟩,rfl⟩
 | sl _ _ c b o u hne hb hM hcap hsz' h1 hc hvv=>
  have hpos:0 < es.length:=List.length_pos_iff.2 hne;have hbytes:es.length*i.bytes≤281474976710656:=by
   have:es.length*i.bytes≤1000000000*100000:=Nat.mul_le_mul hn hby;omega
  have e1:=a5j (P:=P) (w:=w) (ty:=ty) ht hi a0 (some ⟨b,o,none⟩) es.length c hpos hbytes hn;obtain ⟨N,hN⟩ : ∃ N:List Value,N=(List.range (es.length*sz)).map fun j=>u (j / sz) (j % sz):=⟨_,rfl⟩
  have hNl:N.length=es.length*sz:=by rw [hN];simp
  have hNat:∀ j,j < es.length*sz→N[j]? = some (u (j / sz) (j % sz)):=fun j hj=>by rw [hN];simp [hj]
  have hdiv:∀ j,j < es.length*sz→j / sz < es.length∧j % sz < sz∧j / sz*sz+j % sz=j:=fun j hj=>⟨Nat.div_lt_of_lt_mul (by rw [Nat.mul_comm];exact hj),Nat.mod_lt _ hsz,by rw [Nat.mul_comm];exact Nat.div_add_mod j sz⟩
  have hcell:∀ j v,N[j]? = some v→w.cell? ((⟨b,o,none⟩ : Addr).add j)=some v:=fun j v hj=>by
   have hjl:j < es.length*sz:=by rw [←hNl];exact (List.getElem?_eq_some_iff.1 hj).1
   rw [hNat j hjl] at hj;obtain rfl:=Option.some.inj hj;obtain ⟨d1,d2,d3⟩:=hdiv j hjl;have:=hc _ _ d1 d2;have e3:o+j=o+j / sz*sz+j % sz:=by omega
   rw [g1_];show World.cell? _ ⟨b,o+j,none⟩=_;rw [e3];exact this
  have hr:=run_append_nil (P:=P) (w:=w) t ty e i z ht hi hz ⟨b,o,none⟩ es.length c N (by rw [hNl,hs]) hcell hpos (by omega) hbytes;have hge:=grownCap_ge w es.length 0 e;have hcm:=grownCap_le_maxLen w es.length 0 e (by simp only [maxLen];omega);generalize grownCap w es.length 0 e=G at *;refine ⟨_,_,e1.trans hr,?_,?_⟩
  ·exact a0g hb0.drew _
  ·rw [decide_eq_false hne];unfold OwnRow;rw [if_neg (by simp)];refine ⟨w.heap.size,G,_,rfl,Nat.le_refl _,heap_alloc_new w.drew _,?_,hge,hcm,fun k x j cc hk hj=>?_⟩
   ·rw [Array.size_append,size_zeroCells,hzs,List.size_toArray,hNl,←Nat.add_mul];congr 1;omega
   ·have hkl:=(List.getElem?_eq_some_iff.1 hk).1;have hjl:j < sz:=by rw [←hsz' k x hk];exact (List.getElem?_eq_some_iff.1 hj).1
    have hlt:k*sz+j < es.length*sz:=by
     have:(k+1)*sz≤es.length*sz:=Nat.mul_le_mul_right _ hkl;rw [Nat.add_mul] at this;omega
    have hq:(k*sz+j) / sz=k∧(k*sz+j) % sz=j:=by
     rw [Nat.add_comm,Nat.add_mul_div_right _ _ hsz,Nat.add_mul_mod_self_right,Nat.div_eq_of_lt hjl,Nat.mod_eq_of_lt hjl];exact ⟨Nat.zero_add k,rfl⟩
    refine ⟨u k j,?_,?_⟩
    ·rw [Array.getElem?_append_left (by rw [List.size_toArray,hNl];exact hlt),List.getElem?_toArray,hNat _ hlt,hq.1,hq.2]
    ·refine (hvv k x j cc hk hj).keep ((Keeps.of_below (M:=M) (a0g hb0.drew _))) fun b' j' hb' hn hm=>?_;rcases hm with hm|hm
     ·exact hn hm
     ·omega
end Go.Proofs.YtoibondihdhnoaaDoor
