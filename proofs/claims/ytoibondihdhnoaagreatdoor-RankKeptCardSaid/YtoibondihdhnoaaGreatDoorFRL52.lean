/- Texts in one: Chapter 4: nobody is lost; no condition. -/
import Derived.Test.YtoibondihdhnoaaGreatDoorFRL29
import Derived.Test.YtoibondihdhnoaaGreatDoorFRL31
namespace Go.Proofs.YtoibondihdhnoaaGreatDoor
open Go.RowKit
theorem c0i {r:Ru} {s:St} (hr:RuOK r) (hi:Inv r s) {x:Ev} (h:apE r s x=0) (c:ByteArray) :
  (c≠x.car→cnt c (doS r s x x.rank.toNat).q.flatten=cnt c s.q.flatten)∧(x.kind≠4→c=x.car→(0 < cnt c (doS r s x x.rank.toNat).q.flatten↔¬(x.kind=1∨x.kind=3))):=by
 obtain ⟨h1,h2,h3,h5,h6⟩:=parts h;have hk:x.rank.toNat < s.q.length:=by rw [hi.len];exact h6
 generalize x.rank.toNat=k at *;unfold doE at h3;unfold doS;have ho:=hi.once.q c;by_cases k0:x.kind=0
 ·rw [if_pos k0];unfold a3f;simp only;have g:=c8_ hk (qat s.q k++[x.car]) c;rw [e6_,c7_,g2_] at g;refine ⟨fun hc=>?_,fun _ hc=>⟨fun _=>by omega,fun _=>?_⟩⟩
  ·rw [if_neg (Ne.symm hc)] at g;omega
  ·rw [if_pos hc.symm] at g;omega
 rw [if_neg k0] at h3 ⊢;by_cases k1:x.kind=1
 ·rw [if_pos k1] at h3 ⊢;unfold u0_ at h3;rw [b2_] at h3;obtain ⟨t,e⟩:=k2_ h3.1;unfold a5d;simp only;have g:=c8_ hk (qat s.q k).tail c;rw [e,List.tail_cons,c7_] at g;rw [e,List.tail_cons];refine ⟨fun hc=>?_,fun _ hc=>⟨fun hp=>?_,fun hn=>absurd (.inl k1) hn⟩⟩
  ·rw [if_neg (Ne.symm hc)] at g;omega
  ·rw [if_pos hc.symm] at g;omega
 rw [if_neg k1] at h3 ⊢;by_cases k2:x.kind=2
 ·rw [if_pos k2] at h3 ⊢;obtain ⟨t,e⟩:=k2_ h3;unfold a2r o0_;simp only;have g:=c8_ hk ((qat s.q k).tail.take (y1_ r (qat s.q k).tail.length)++[x.car]++(qat s.q k).tail.drop (y1_ r (qat s.q k).tail.length)) c;have g3:=e6_ c ((qat s.q k).tail.take (y1_ r (qat s.q k).tail.length)) ((qat s.q k).tail.drop (y1_ r (qat s.q k).tail.length));rw [List.take_append_drop] at g3;rw [e6_,e6_,c7_,g2_] at g;have g4:cnt c (qat s.q k)=cnt c (qat s.q k).tail+if x.car=c then 1 else 0:=by rw [e,List.tail_cons,c7_]
  refine ⟨fun hc=>by omega,fun _ hc=>⟨fun _=>by omega,fun _=>?_⟩⟩;have g5:=a6y hk (c:=c) (by rw [e,hc];simp);rw [if_pos hc.symm] at g g4;omega
 rw [if_neg k2] at h3 ⊢;by_cases k3:x.kind=3
 ·rw [if_pos k3] at h3 ⊢;unfold a8j at h3;have hn:¬a4l (qat s.q k) x.car < 0:=fun hh=>by
   rw [if_pos hh] at h3;cases h3
  unfold a5e;simp only;rw [a8k hi.once hk x hn];have g:=c8_ hk ((qat s.q k).filter fun d=>decide (d≠x.car)) c;have hm:x.car∈qat s.q k:=Classical.byContradiction fun hc=>hn (w9_.2 hc);have h4:=g3_.2 hm;have g2:c≠x.car→cnt c ((qat s.q k).filter fun d=>decide (d≠x.car))=cnt c (qat s.q k):=fun hc=>by
   unfold cnt;rw [List.countP_filter];refine List.countP_congr fun d _=>?_;simp only [Bool.and_eq_true,decide_eq_true_eq];exact ⟨fun h=>h.1,fun h=>⟨h,h▸hc⟩⟩
  have g3:cnt x.car ((qat s.q k).filter fun d=>decide (d≠x.car))=0:=Nat.eq_zero_of_not_pos fun h=>by
   have:=(List.mem_filter.1 (g3_.1 h)).2;simp at this
  refine ⟨fun hc=>?_,fun _ hc=>⟨fun hp=>?_,fun hn=>absurd (.inr k3) hn⟩⟩
  ·have:=g2 hc;omega
  ·subst hc;omega
 rw [if_neg k3] at h3 ⊢;by_cases k4:x.kind=4
 ·rw [if_pos k4] at h3 ⊢;unfold a4o at h3;by_cases hf:(rat r.ranks k).feeder = -1
  ·rw [if_pos hf] at h3;cases h3
  ·rw [if_neg hf,b2_,b2_] at h3;have f2:=of_decide_eq_true (c9_ (by decide) h3.2.1);obtain ⟨g1,g2,g3⟩:=hr.feedN h6 hf;exact ⟨fun _=>a6m hk (by rw [hi.len];exact g3) (by omega) f2 c,fun h=>absurd k4 h⟩
 rw [if_neg k4] at h3 ⊢;unfold b7c;simp only;have g:=c8_ hk ([x.car]++qat s.q k) c;rw [e6_,c7_,g2_] at g;refine ⟨fun hc=>?_,fun _ hc=>⟨fun _=>by omega,fun _=>?_⟩⟩
 ·rw [if_neg (Ne.symm hc)] at g;omega
 ·rw [if_pos hc.symm] at g;omega
theorem c3w {r:Ru} {s:St} (hr:RuOK r) (hi:Inv r s) {x:Ev} (h:apE r s x=0) :
  (∀ c,c≠x.car→(c∈(apU r s x).1.q.flatten↔c∈s.q.flatten))∧(x.kind≠4→(x.car∈(apU r s x).1.q.flatten↔¬(x.kind=1∨x.kind=3)))∧j6_ r (apU r s x).1=0∧(apU r s x).1.time=x.time:=by
 obtain ⟨h1,h2,h3,hxr,hkr⟩:=parts h;have hd:=hi.doS hr h1 h2 hxr h3;have hup:∀ c,cnt c (apU r s x).1.q.flatten=cnt c (doS r s x x.rank.toNat).q.flatten:=fun c=>by
  have g:=a6z hr c (n1_ 0 (doS r s x x.rank.toNat).q) (atS (doS r s x x.rank.toNat) x.time) (doM r s x x.rank.toNat) hd;have g2:=(a3j (r:=r) (n1_ 0 (doS r s x x.rank.toNat).q) (atS (doS r s x x.rank.toNat) x.time) (doM r s x x.rank.toNat)).2;rw [f7_,f7_,g2] at g;unfold apU;change cnt c _+_=cnt c (doS r s x x.rank.toNat).q.flatten+cnt c (List.map (·.car) (doS r s x x.rank.toNat).tk) at g;change cnt c _+cnt c (List.map (·.car) (doS r s x x.rank.toNat).tk)=_ at g;omega
 obtain ⟨e1,e2,e3⟩:=hi.ap hr h;refine ⟨fun c hc=>?_,fun h4=>?_,a5j.2 ⟨e1,e2⟩,e3⟩
 ·rw [←g3_,←g3_,hup,(c0i hr hi h c).1 hc]
 ·rw [←g3_,hup,(c0i hr hi h x.car).2 h4 rfl]
end Go.Proofs.YtoibondihdhnoaaGreatDoor
