/- Texts in one: An event is carried out: what the town is behind it. -/
import Derived.Test.YtoibondihdhnoaaGreatDoorFRN27
import Derived.Test.YtoibondihdhnoaaGreatDoorFRN22
import Derived.Test.YtoibondihdhnoaaGreatDoorFRN20
namespace Go.Proofs.YtoibondihdhnoaaGreatDoor
open Go.RowKit
set_option maxRecDepth 100000
set_option maxHeartbeats 2000000
theorem b3a:∀ (q:List (List ByteArray)) (i:Nat),(∀ l∈q,l.length≤12)→o7_ i q≤q.length*(12*(i+q.length))
 | [],_,_=>by simp [o7_]
 | l::q,i,h=>by
  have h1:=b3a q (i+1) fun x hx=>h x (List.mem_cons_of_mem _ hx);have h2:=h l (List.mem_cons_self ..);rw [o7_,List.length_cons];have h3:i*l.length≤i*12:=Nat.mul_le_mul_left _ h2;have e:(q.length+1)*(12*(i+(q.length+1)))=q.length*(12*(i+1+q.length))+12*(i+1+q.length):=by
   rw [show i+(q.length+1)=i+1+q.length by omega,Nat.add_mul,Nat.one_mul]
  omega
theorem a8t {r:Ru} {s:St} (hr:RuOK r) (h:Inv r s) : o7_ 0 s.q≤500:=by
 have h1:=b3a s.q 0 fun l hl=>by
  obtain ⟨k,hk,rfl⟩:=List.getElem_of_mem hl;have:=h.fit k hk;have:=hr.pl k (by rw [←h.len];exact hk);rw [←d8_ hk];omega
 have h6:s.q.length≤6:=by rw [h.len];exact hr.n6
 have:s.q.length*(12*(0+s.q.length))≤6*(12*(0+6)):=Nat.mul_le_mul h6 (by omega);omega
def doR (r:Ru) (s:St) (x:Ev) (k:Nat) : St×List Sg:=if doE r s x k=0 then (doS r s x k,doM r s x k) else (s,[])
theorem d3s (r:Ru) (s:St) (n1:Bool) (x:Ev) (k:Nat) (hr:RuOK r) (hi:Inv r s) (hx:x.rank=k) (hk:k < s.q.length) (hkd:0≤x.kind∧x.kind≤5) (ht:0≤x.time∧x.time≤604800) :
  ∃ a b,VH Tryz.prog (224+x.kind.toNat) (e4_ r s [] n1 true) [.ref 0 0,evA x] [0] (e4_ r (doR r s x k).1 (doR r s x k).2 a b) (I (doE r s x k))∧(doE r s x k≠0→a=n1∧b=true):=by
 have hlen:r.ranks.length=s.q.length:=hi.len.symm;have hfo:z7_ r s.q.length:=by rw [hi.len];exact hr.feed
 have h6:s.q.length≤6:=by rw [hi.len];exact hr.n6
 have hqs:∀ j,j < s.q.length→(qat s.q j).length≤12:=fun j hj=>by
  have:=hi.fit j hj;have:=hr.pl j (by omega);omega
 have hqk:=hqs k hk;have htl:=hi.tkl;have hkr:k < r.ranks.length:=by omega
 unfold doR;by_cases hd:doE r s x k=0
 ·rw [if_pos hd,hd];simp only;unfold doE at hd;unfold doS doM;by_cases k0:x.kind=0
  ·rw [if_pos k0] at hd ⊢;rw [if_neg (by omega),k0];unfold a6o b1e;by_cases hf:(rat r.ranks k).feeder = -1
   ·by_cases hT:a0o s.tk x.car < 0
    ·rw [if_neg (by omega)];exact ⟨_,_,c6h r s [] n1 true x k hx hk hlen (by omega) (fun j hj=>by have:=hqs j hj;omega) (by omega) hf hT hd,fun h=>absurd rfl h⟩
    ·obtain ⟨i,e,hil,_⟩:=a3n (Classical.byContradiction fun hh=>hT (q1_.2 hh));rw [if_pos (by omega),e,Int.toNat_natCast];exact ⟨_,_,c6i r s [] n1 true x k hx hk hlen (by omega) (fun j hj=>by have:=hqs j hj;omega) (by omega) hf i e hil hd,fun h=>absurd rfl h⟩
   ·obtain ⟨p1,p2,p3⟩:=hr.feedN hkr hf;by_cases hT:a0o s.tk x.car < 0
    ·rw [if_neg (by omega)];exact ⟨_,_,c6j r s [] n1 true x k hx hk hlen (by omega) (fun j hj=>by have:=hqs j hj;omega) (by omega) (feedN r k) p1 (by omega) hT hd,fun h=>absurd rfl h⟩
    ·obtain ⟨i,e,hil,_⟩:=a3n (Classical.byContradiction fun hh=>hT (q1_.2 hh));rw [if_pos (by omega),e,Int.toNat_natCast];exact ⟨_,_,c6k r s [] n1 true x k hx hk hlen (by omega) (fun j hj=>by have:=hqs j hj;omega) (by omega) (feedN r k) p1 (by omega) i e hil hd,fun h=>absurd rfl h⟩
  rw [if_neg k0] at hd ⊢;by_cases k1:x.kind=1
  ·rw [if_pos k1] at hd ⊢;rw [if_neg (by omega),k1];exact ⟨_,_,c6a r s [] n1 true x k hx hk hlen (by omega) hd,fun h=>absurd rfl h⟩
  rw [if_neg k1] at hd ⊢;by_cases k2:x.kind=2
  ·rw [if_pos k2] at hd ⊢;rw [if_neg (by omega),k2];exact ⟨_,_,b7n r s [] n1 true x k hx hk hlen (by have:=hr.bk;omega) (by omega) hd,fun h=>absurd rfl h⟩
  rw [if_neg k2] at hd ⊢;by_cases k3:x.kind=3
  ·rw [if_pos k3] at hd ⊢;rw [if_neg (by omega),k3];unfold b2y at hd;exact ⟨_,_,c6f r s [] n1 true x k hx hk (by omega) (fun hh=>by rw [if_pos hh] at hd;cases hd),fun h=>absurd rfl h⟩
  rw [if_neg k3] at hd ⊢;by_cases k4:x.kind=4
  ·rw [if_pos k4] at hd ⊢;rw [if_pos k4,k4];have hf:(rat r.ranks k).feeder≠-1:=fun hh=>by
    unfold a6n at hd;rw [if_pos hh] at hd;cases hd
   obtain ⟨p1,p2,p3⟩:=hr.feedN hkr hf;exact ⟨_,_,c9k r s [] n1 true x k (feedN r k) hx hk hlen p1 (by omega) (by omega) (by omega) (by simp) hd,fun h=>absurd rfl h⟩
  rw [if_neg k4] at hd ⊢;rw [if_neg k4];have k5:x.kind=5:=by omega
  rw [k5];unfold b5b at hd;split at hd
  ·cases hd
  ·rename_i hor;have hT:¬a0o s.tk x.car < 0:=fun hh=>hor (.inl hh);obtain ⟨i,e,hil,_⟩:=a3n (Classical.byContradiction fun hh=>hT (q1_.2 hh));unfold d1f at hd hor;rw [e,Int.toNat_natCast] at hd hor;have h0:(d5_ s.tk i).rank=k:=Classical.byContradiction fun hh=>hor (.inr (by rw [hx];exact hh));have htm:=hi.tkt _ (show d5_ s.tk i∈s.tk by rw [e8_ hil];exact List.getElem_mem hil);have:=hi.t0;unfold c2f b1e;rw [e,Int.toNat_natCast];exact ⟨_,_,c9l r s [] n1 true x k i hx hk hlen (by omega) e hil h0 ht (by omega) (by omega) hd,fun h=>absurd rfl h⟩
 ·rw [if_neg hd];simp only;refine ⟨n1,true,?_,fun _=>⟨rfl,rfl⟩⟩;unfold doE at hd ⊢;by_cases k0:x.kind=0
  ·rw [if_pos k0] at hd ⊢;rw [k0];exact b7s r s [] n1 true x k hx hk hlen hfo (by omega) (fun j hj=>by have:=hqs j hj;omega) hd
  rw [if_neg k0] at hd ⊢;by_cases k1:x.kind=1
  ·rw [if_pos k1] at hd ⊢;rw [k1];exact c2e r s [] n1 true x k hx hk hlen (by omega) hd
  rw [if_neg k1] at hd ⊢;by_cases k2:x.kind=2
  ·rw [if_pos k2] at hd ⊢;rw [k2];exact b5a r s [] n1 true x k hx hk hlen hd
  rw [if_neg k2] at hd ⊢;by_cases k3:x.kind=3
  ·rw [if_pos k3] at hd ⊢;rw [k3];unfold b2y at hd ⊢;by_cases hh:a2n (qat s.q k) x.car < 0
   ·rw [if_pos hh];exact c2i r s [] n1 true x k hx hk (by omega) hh
   ·rw [if_neg hh] at hd;exact absurd rfl hd
  rw [if_neg k3] at hd ⊢;by_cases k4:x.kind=4
  ·rw [if_pos k4] at hd ⊢;rw [k4];exact c6g r s [] n1 true x k hx hk hlen hfo hd
  rw [if_neg k4] at hd ⊢;have k5:x.kind=5:=by omega
  rw [k5];unfold b5b at hd ⊢;by_cases hT:a0o s.tk x.car < 0
  ·rw [if_pos (.inl hT)];exact c2j r s [] n1 true x k hx (by omega) hT
  ·obtain ⟨i,e,hil,_⟩:=a3n (Classical.byContradiction fun hh=>hT (q1_.2 hh));unfold d1f at hd ⊢;rw [e,Int.toNat_natCast] at hd ⊢;by_cases h0:(d5_ s.tk i).rank=k
   ·have hc:¬((i:Int) < 0∨(d5_ s.tk i).rank≠x.rank):=by rw [hx];omega
    rw [if_neg hc] at hd ⊢;have htm:=hi.tkt _ (show d5_ s.tk i∈s.tk by rw [e8_ hil];exact List.getElem_mem hil);have:=hi.t0;exact c2l r s [] n1 true x k i hx hk hlen (by omega) e hil h0 ht (by omega) hd
   ·rw [if_pos (.inr (by rw [hx];exact h0))];exact c2k r s [] n1 true x k i hx (by omega) e hil h0
theorem c2m {a b c:Int} (h:fst [a,b]≠0) : fst [a,b,c]=fst [a,b]:=by
 by_cases h1:a=0
 ·subst h1;by_cases h2:b=0
  ·subst h2;exact absurd rfl h
  ·simp [fst,h2]
 ·simp [fst,h1]
def apR (r:Ru) (s:St) (x:Ev) : St×List Sg:=if apE r s x=0 then apU r s x else (s,[])
theorem c6l (r:Ru) (s:St) (mv:List Sg) (n1:Bool) (x:Ev) (hr:RuOK r) (hi:Inv r s) (hc:x.car.size≤1000) :
  ∃ a,VH Tryz.prog 128 (m9_ r s mv n1) [.ref 0 0,evA x] [0] (m9_ r (apR r s x).1 (apR r s x).2 a) (I (apE r s x)):=by
 have hn:r.ranks.length≤1000000:=by have:=hr.n6;omega
 unfold apR;by_cases h0:fst [evE r x,unl (decide (s.time≤x.time)) 9]=0
 ·have h0':=h0;rw [b6_,b6_] at h0';have hE:apE r s x=doE r s x x.rank.toNat:=by
   unfold apE;rw [h0'.1,h0'.2.1];simp only [fst,ne_eq,not_true_eq_false,if_false];split
   ·rfl
   ·rename_i h;exact (Classical.byContradiction h).symm
  have hxr:=c2h h0'.1;have hx:x.rank=(x.rank.toNat:Int):=by omega
  have hk:x.rank.toNat < s.q.length:=by rw [hi.len];omega
  have ht:=c6d h0'.1;have hkd:=c6c h0'.1;obtain ⟨a,b,hd,hab⟩:=d3s r s n1 x x.rank.toNat hr hi hx hk hkd ht;rw [hE];by_cases he:doE r s x x.rank.toNat=0
  ·rw [if_pos he];have hiS:=hi.doS hr h0'.1 (of_decide_eq_true (d1_ (by decide) h0'.2.1)) hx he;unfold doR at hd;rw [if_pos he] at hd;have hml:(doM r s x x.rank.toNat).length≤2:=by
    unfold doM;split
    ·simp [upM]
    ·simp
   have hhd:=a8t hr hiS;exact ⟨a,d3c r s (doS r s x x.rank.toNat) (apU r s x).1 mv (doM r s x x.rank.toNat) (apU r s x).2 n1 a b x _ hn hc h0 hkd hd
    (.inr ⟨he,hr,hiS,by change o7_ 0 (doS r s x x.rank.toNat).q≤500 at hhd;omega,⟨_,Nat.le_refl _,rfl⟩⟩)⟩
  ·rw [if_neg he];unfold doR at hd;rw [if_neg he] at hd;exact ⟨a,d3c r s s s mv [] [] n1 a b x _ hn hc h0 hkd hd (.inl ⟨he,rfl,rfl⟩)⟩
 ·have hE:apE r s x=fst [evE r x,unl (decide (s.time≤x.time)) 9]:=by
   unfold apE;exact c2m h0
  rw [hE,if_neg h0];exact ⟨n1,d1s r s mv n1 x hn hc h0⟩
end Go.Proofs.YtoibondihdhnoaaGreatDoor
