/- Texts in one: Walks: where a car is, who would move up, the error of an event in a state, as the reference has them. -/
import Derived.Test.YtoibondihdhnoaaDoorFRX48
namespace Go.Proofs.YtoibondihdhnoaaDoor
open Go.RowKit
set_option maxRecDepth 100000
set_option maxHeartbeats 2000000
theorem p4_ (r:Ru) (s:St) (hl:r.ranks.length≤1000000) (hr:r.ranks.length=s.q.length) (hf:q7_ r s.q.length) : VC Tryd.prog 29 [c4_ r,g8_ s.q] (I (f9_ r s)):=by
 obtain ⟨R,hR⟩ : ∃ R,f9_ r s=R:=⟨_,rfl⟩
 rw [hR];unfold f9_ at hR;have HR:=Lib.hid hR;have HF:=Lib.hid hf;clear hR hf;refine c0_ Tryd.func29 rfl (by kernel_rfl) (by kernel_rfl) rfl fun M0 w0=>?_;simp only [Tryd.ntmps29,Tryd.results29,b5_];repeat' first|(with_reducible first|apply a9_|apply a3_|apply a8_|apply a1_|refine a2_ [] ?_)|((with_reducible refine a0_ fun X Y=>?_);go_simp;refine Y _ ?_;clear Y X)
 apply y4_ [1,2] (fun k=>[(5,I k)]) (fun k=>([] : Hp)) (a0d r s) (r.ranks.length)
 ·go_simp<;>exact rfl
 ·go_simp
 ·intro k hk HB HP K hK;obtain ⟨w1,w2,w3,w4,w5,w6⟩:=ixs (m:=k) (by omega);have hk2:k < s.q.length:=by omega
  have hp:=HP.out;unfold a0d f4_ at hp;by_cases h1:(rat r.ranks k).feeder = -1
  ·clear hp;repeat' first|(with_reducible first|apply a9_|apply a3_|apply b0_|apply a8_|apply b1_|apply a1_|refine a2_ [] ?_|apply a5_)|((with_reducible refine a7_ ?_ ?_);(focus (go_simp;done)))|((with_reducible refine a6_ ?_ ?_);(focus (go_simp;done)))|((with_reducible first|refine a0_ fun X Y=>?_|refine a4_ fun X Y=>?_);go_simp;refine Y _ ?_;clear Y X)|((refine b6_ 27 27 [] rfl (by kernel_rfl) (by kernel_rfl) ?_);simp only [List.take,List.drop])
   refine hK _ ?_;go_simp
  obtain ⟨f0,fl⟩:=HF.out k hk2 h1;obtain ⟨f,hf⟩ : ∃ f:Nat,(rat r.ranks k).feeder=f:=⟨(rat r.ranks k).feeder.toNat,by omega⟩
  rw [hf] at fl h1 hp;simp only [Int.toNat_natCast] at fl hp;clear f0;cases h2:(rat r.ranks k).called
  ·rw [decide_eq_true h1,h2] at hp;simp only [Bool.not_false,Bool.true_and] at hp;by_cases h3:((qat s.q k).length:Int) < (rat r.ranks k).places
   ·rw [decide_eq_true h3,Bool.true_and,decide_eq_false_iff_not] at hp;have h4:qat s.q f=[]:=List.eq_nil_of_length_eq_zero (by omega);clear hp;repeat' first|(with_reducible first|apply a9_|apply a3_|apply b0_|apply a8_|apply b1_|apply a1_|refine a2_ [] ?_|apply a5_)|((with_reducible refine a7_ ?_ ?_);(focus (go_simp;done)))|((with_reducible refine a6_ ?_ ?_);(focus (go_simp;done)))|((with_reducible first|refine a0_ fun X Y=>?_|refine a4_ fun X Y=>?_);go_simp;refine Y _ ?_;clear Y X)|((refine b6_ 27 27 [] rfl (by kernel_rfl) (by kernel_rfl) ?_);simp only [List.take,List.drop])
    refine hK _ ?_;go_simp
   ·clear hp;repeat' first|(with_reducible first|apply a9_|apply a3_|apply b0_|apply a8_|apply b1_|apply a1_|refine a2_ [] ?_|apply a5_)|((with_reducible refine a7_ ?_ ?_);(focus (go_simp;done)))|((with_reducible refine a6_ ?_ ?_);(focus (go_simp;done)))|((with_reducible first|refine a0_ fun X Y=>?_|refine a4_ fun X Y=>?_);go_simp;refine Y _ ?_;clear Y X)|((refine b6_ 27 27 [] rfl (by kernel_rfl) (by kernel_rfl) ?_);simp only [List.take,List.drop])
    refine hK _ ?_;go_simp
  ·clear hp;repeat' first|(with_reducible first|apply a9_|apply a3_|apply b0_|apply a8_|apply b1_|apply a1_|refine a2_ [] ?_|apply a5_)|((with_reducible refine a7_ ?_ ?_);(focus (go_simp;done)))|((with_reducible refine a6_ ?_ ?_);(focus (go_simp;done)))|((with_reducible first|refine a0_ fun X Y=>?_|refine a4_ fun X Y=>?_);go_simp;refine Y _ ?_;clear Y X)|((refine b6_ 27 27 [] rfl (by kernel_rfl) (by kernel_rfl) ?_);simp only [List.take,List.drop])
   refine hK _ ?_;go_simp
 ·intro k hk HB HP K;have hk2:k < s.q.length:=by omega
  have e:=HR.out;rw [n0_ hk HB.out HP.out] at e;subst e;have hp:=HP.out;unfold a0d f4_ at hp;simp only [Bool.and_eq_true,decide_eq_true_eq,Bool.not_eq_true'] at hp;obtain ⟨⟨⟨h1,h2⟩,h3⟩,h4⟩:=hp;obtain ⟨f0,fl⟩:=HF.out k hk2 h1;obtain ⟨f,hf⟩ : ∃ f:Nat,(rat r.ranks k).feeder=f:=⟨(rat r.ranks k).feeder.toNat,by omega⟩
  rw [hf] at fl h1 h4;simp only [Int.toNat_natCast] at fl h4;have h5:¬qat s.q f=[]:=fun h=>by rw [h] at h4;simp at h4
  clear f0;repeat' first|(with_reducible first|apply a9_|apply a3_|apply b4_|apply c5_|apply b0_|apply a8_|apply c2_|apply a1_|refine a2_ [] ?_|apply a5_)|((with_reducible refine a7_ ?_ ?_);(focus (go_simp;done)))|((with_reducible first|refine a0_ fun X Y=>?_|refine a4_ fun X Y=>?_);go_simp;refine Y _ ?_;clear Y X)|((refine b6_ 27 27 [] rfl (by kernel_rfl) (by kernel_rfl) ?_);simp only [List.take,List.drop])
  go_simp
 ·intro HB K;have e:=HR.out;rw [p7_ HB.out] at e;subst e;repeat' first|(with_reducible first|apply a9_|apply a3_|apply b8_|apply c5_|apply d4_|apply b7_|apply a1_|refine a2_ [] ?_)|((with_reducible refine a6_ ?_ ?_);(focus (go_simp;done)))|((with_reducible refine a0_ fun X Y=>?_);go_simp;refine Y _ ?_;clear Y X)
  go_simp
def a6g (q:List (List ByteArray)) (c:ByteArray) : Int:=if k7_ q c < 0 then -1 else a1q (qat q (k7_ q c).toNat) c
theorem d1i (s:St) (c:ByteArray) (hl:s.q.length≤1000000) (hq:∀ k,k < s.q.length→(qat s.q k).length≤1000000) : VC Tryd.prog 63 [c9_ s,S c] (.tup [I (k7_ s.q c),I (a6g s.q c)]):=by
 obtain ⟨A,hA⟩ : ∃ A,k7_ s.q c=A:=⟨_,rfl⟩
 obtain ⟨D,hD⟩ : ∃ D,a6g s.q c=D:=⟨_,rfl⟩
 unfold a6g at hD;rw [hA] at hD;unfold a6g;rw [hA,hD];unfold k7_ at hA;have HA:=Lib.hid hA;have HD:=Lib.hid hD;have HQ:=Lib.hid hq;clear hA hD hq;refine c0_ Tryd.func63 rfl (by kernel_rfl) (by kernel_rfl) rfl fun M0 w0=>?_;simp only [Tryd.ntmps63,Tryd.results63,b5_];repeat' first|(with_reducible first|apply a9_|apply a3_|apply a8_|apply a1_|refine a2_ [] ?_)|((with_reducible refine a0_ fun X Y=>?_);go_simp;refine Y _ ?_;clear Y X)
 apply y4_ [1,2] (fun k=>[(6,I k)]) (fun k=>([] : Hp)) (inQ s.q c) (s.q.length)
 ·go_simp<;>exact rfl
 ·go_simp
 ·intro k hk HB HP K hK;obtain ⟨w1,w2,w3,w4,w5,w6⟩:=ixs (m:=k) (by omega);have hql:=HQ.out k hk;repeat' first|(with_reducible first|apply a9_|apply a3_|apply b0_|apply a8_|apply a1_|refine a2_ [] ?_)|((with_reducible refine a7_ ?_ ?_);(focus (go_simp;done)))|((with_reducible refine a0_ fun X Y=>?_);go_simp;refine Y _ ?_;clear Y X)
  apply y4_ [1,2,6] (fun k=>[(7,I k)]) (fun k=>([] : Hp)) (isT (qat s.q k) c) ((qat s.q k).length)
  ·go_simp<;>exact rfl
  ·go_simp
  ·intro j hj HB2 HP2 K2 hK2;obtain ⟨x1,x2,x3,x4,x5,x6⟩:=ixs (m:=j) (by omega);have hp:¬(qat s.q k)[j]=c:=by
    have:=HP2.out;simpa [isT,e7_ hj] using this
   repeat' first|(with_reducible first|apply a9_|apply a3_|apply b0_|apply a8_|apply b1_|apply a1_|refine a2_ [] ?_)|((with_reducible refine a7_ ?_ ?_);(focus (go_simp;done)))|((with_reducible refine a6_ ?_ ?_);(focus (go_simp;done)))|((with_reducible refine a0_ fun X Y=>?_);go_simp;refine Y _ ?_;clear Y X)
   refine hK2 _ ?_;go_simp
  ·intro j hj HB2 HP2 K2;exfalso;have h1:=HP.out;unfold inQ a1q at h1;rw [n0_ hj HB2.out HP2.out] at h1;simp at h1
  ·intro HB2 K2;repeat' first|(with_reducible first|apply a9_|apply a3_|apply b8_|apply d4_|apply b1_|apply b7_|apply a1_|refine a2_ [] ?_)|((with_reducible refine a6_ ?_ ?_);(focus (go_simp;done)))|((with_reducible refine a0_ fun X Y=>?_);go_simp;refine Y _ ?_;clear Y X)
   refine hK _ ?_;go_simp
 ·intro k hk HB HP K;obtain ⟨w1,w2,w3,w4,w5,w6⟩:=ixs (m:=k) (by omega);have hql:=HQ.out k hk;have e:=HA.out;rw [n0_ hk HB.out HP.out] at e;subst e;have e2:=HD.out;rw [if_neg (by omega),Int.toNat_natCast] at e2;have HE2:=Lib.hid e2;clear e2;repeat' first|(with_reducible first|apply a9_|apply a3_|apply b0_|apply a8_|apply a1_|refine a2_ [] ?_)|((with_reducible refine a7_ ?_ ?_);(focus (go_simp;done)))|((with_reducible refine a0_ fun X Y=>?_);go_simp;refine Y _ ?_;clear Y X)
  apply y4_ [1,2,6] (fun k=>[(7,I k)]) (fun k=>([] : Hp)) (isT (qat s.q k) c) ((qat s.q k).length)
  ·go_simp<;>exact rfl
  ·go_simp
  ·intro j hj HB2 HP2 K2 hK2;obtain ⟨x1,x2,x3,x4,x5,x6⟩:=ixs (m:=j) (by omega);have hp:¬(qat s.q k)[j]=c:=by
    have:=HP2.out;simpa [isT,e7_ hj] using this
   repeat' first|(with_reducible first|apply a9_|apply a3_|apply b0_|apply a8_|apply b1_|apply a1_|refine a2_ [] ?_)|((with_reducible refine a7_ ?_ ?_);(focus (go_simp;done)))|((with_reducible refine a6_ ?_ ?_);(focus (go_simp;done)))|((with_reducible refine a0_ fun X Y=>?_);go_simp;refine Y _ ?_;clear Y X)
   refine hK2 _ ?_;go_simp
  ·intro j hj HB2 HP2 K2;have hp:(qat s.q k)[j]=c:=by
    have:=HP2.out;simpa [isT,e7_ hj] using this
   have e3:=HE2.out;unfold a1q at e3;rw [n0_ hj HB2.out HP2.out] at e3;subst e3;repeat' first|(with_reducible first|apply a9_|apply a3_|apply b4_|apply c5_|apply b0_|apply a8_|apply c2_|apply a1_|refine a2_ [] ?_)|((with_reducible refine a7_ ?_ ?_);(focus (go_simp;done)))|((with_reducible refine a0_ fun X Y=>?_);go_simp;refine Y _ ?_;clear Y X)
   go_simp
  ·intro HB2 K2;exfalso;have h1:=HP.out;unfold inQ a1q at h1;rw [p7_ HB2.out] at h1;simp at h1
 ·intro HB K;have e:=HA.out;rw [p7_ HB.out] at e;subst e;have e2:=HD.out;rw [if_pos (by decide)] at e2;subst e2;repeat' first|(with_reducible first|apply a9_|apply a3_|apply b8_|apply c5_|apply d4_|apply b7_|apply a1_|refine a2_ [] ?_)|((with_reducible refine a6_ ?_ ?_);(focus (go_simp;done)))|((with_reducible refine a0_ fun X Y=>?_);go_simp;refine Y _ ?_;clear Y X)
  go_simp
theorem c0s (s:St) (c:ByteArray) (hl:s.tk.length≤1000000) : VC Tryd.prog 64 [c9_ s,S c] (I (a0v s.tk c)):=by
 obtain ⟨R,hR⟩ : ∃ R,a0v s.tk c=R:=⟨_,rfl⟩
 rw [hR];unfold a0v at hR;have HR:=Lib.hid hR;clear hR;refine c0_ Tryd.func64 rfl (by kernel_rfl) (by kernel_rfl) rfl fun M0 w0=>?_;simp only [Tryd.ntmps64,Tryd.results64,b5_];repeat' first|(with_reducible first|apply a9_|apply a3_|apply a8_|apply a1_|refine a2_ [] ?_)|((with_reducible refine a0_ fun X Y=>?_);go_simp;refine Y _ ?_;clear Y X)
 apply y4_ [1,2] (fun k=>[(5,I k)]) (fun k=>([] : Hp)) (c1y s.tk c) (s.tk.length)
 ·go_simp<;>exact rfl
 ·go_simp
 ·intro k hk HB HP K hK;obtain ⟨w1,w2,w3,w4,w5,w6⟩:=ixs (m:=k) (by omega);have hp:¬(d8_ s.tk k).car=c:=of_decide_eq_false HP.out;repeat' first|(with_reducible first|apply a9_|apply a3_|apply b0_|apply a8_|apply b1_|apply a1_|refine a2_ [] ?_)|((with_reducible refine a7_ ?_ ?_);(focus (go_simp;done)))|((with_reducible refine a6_ ?_ ?_);(focus (go_simp;done)))|((with_reducible refine a0_ fun X Y=>?_);go_simp;refine Y _ ?_;clear Y X)
  refine hK _ ?_;go_simp
 ·intro k hk HB HP K;have hp:(d8_ s.tk k).car=c:=of_decide_eq_true HP.out;have e:=HR.out;rw [n0_ hk HB.out HP.out] at e;subst e;repeat' first|(with_reducible first|apply a9_|apply a3_|apply b4_|apply c5_|apply b0_|apply a8_|apply c2_|apply a1_|refine a2_ [] ?_)|((with_reducible refine a7_ ?_ ?_);(focus (go_simp;done)))|((with_reducible refine a0_ fun X Y=>?_);go_simp;refine Y _ ?_;clear Y X)
  go_simp
 ·intro HB K;have e:=HR.out;rw [p7_ HB.out] at e;subst e;repeat' first|(with_reducible first|apply a9_|apply a3_|apply b8_|apply c5_|apply d4_|apply b7_|apply a1_|refine a2_ [] ?_)|((with_reducible refine a6_ ?_ ?_);(focus (go_simp;done)))|((with_reducible refine a0_ fun X Y=>?_);go_simp;refine Y _ ?_;clear Y X)
  go_simp
end Go.Proofs.YtoibondihdhnoaaDoor
