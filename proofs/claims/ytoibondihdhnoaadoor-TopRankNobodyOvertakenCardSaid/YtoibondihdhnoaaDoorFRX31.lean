/- Texts in one: An event is carried out: what the town is behind it. -/
import Derived.Test.YtoibondihdhnoaaDoorFRX24
import Derived.Test.YtoibondihdhnoaaDoorFRX23
import Derived.Test.YtoibondihdhnoaaDoorFRX30
namespace Go.Proofs.YtoibondihdhnoaaDoor
open Go.RowKit
set_option maxRecDepth 100000
set_option maxHeartbeats 2000000
theorem c3y (r:Ru) (s:St) (mv:List Sg) (n1 n2:Bool) (x:Ev) (k:Nat) (hx:x.rank=k) (hk:k < s.q.length) (hq:(qat s.q k).length≤1000000) (h0:a1q (qat s.q k) x.car < 0) :
  VH Tryd.prog 112 (f6_ r s mv n1 n2) [.ref 0 0,evA x] [0] (f6_ r s mv n1 n2) (I 6):=by
 have g1:=a8x (qat s.q k) x.car hq;unfold a1q at h0;generalize ixP (isT (qat s.q k) x.car) 0 (qat s.q k).length=A at *;obtain ⟨kd,tm,rk,car⟩:=x;simp only at hx;subst hx;simp only [evA];refine i8_ Tryd.func112 rfl (by kernel_rfl) rfl (fun _=>by kernel_rfl) fun M0 w0 vs=>?_;simp only [Tryd.ntmps112,Tryd.results112,b5_];unfold f6_;repeat' first|(with_reducible first|apply a9_|apply a3_|apply b4_|apply c5_|apply a1_|refine a2_ [] ?_|apply a5_)|((with_reducible refine a7_ ?_ ?_);(focus (go_simp;done)))|((with_reducible first|refine a0_ fun X Y=>?_|refine a4_ fun X Y=>?_);go_simp;(first|(refine ⟨_,⟨g1,rfl⟩,?_⟩)|skip);refine Y _ ?_;clear Y X)|((refine b6_ 10 10 [] rfl (by kernel_rfl) (by kernel_rfl) ?_);simp only [List.take,List.drop])
 go_simp
theorem c7o (r:Ru) (s:St) (mv:List Sg) (n1 n2:Bool) (x:Ev) (k:Nat) (hx:x.rank=k) (hk:k < s.q.length) (hq:(qat s.q k).length≤10000) (h0:¬a1q (qat s.q k) x.car < 0) :
  VH Tryd.prog 112 (f6_ r s mv n1 n2) [.ref 0 0,evA x] [0] (f6_ r (a3t s x k) mv n1 n2) (I 0):=by
 have g1:=a8x (qat s.q k) x.car (by omega);obtain ⟨i,e,hi,hh⟩:=b8l (l:=qat s.q k) (c:=x.car) (Classical.byContradiction fun hn=>h0 (a0k.2 hn));unfold a3t;rw [e,Int.toNat_natCast];unfold a1q at e;rw [e] at g1;clear e h0 hh;obtain ⟨kd,tm,rk,car⟩:=x;simp only at hx;subst hx;have hw:=ixs (m:=i) (by omega);obtain ⟨w1,w2,w3,w4,w5,w6⟩:=hw;have hi2:i≤(qat s.q k).length:=by omega
 have hi3:(i:Int)+1≤((qat s.q k).length:Int):=by omega
 have hi4:i+1≤(qat s.q k).length:=hi;have hi5:(i:Int)≤((qat s.q k).length:Int):=by omega
 simp only [evA];refine i8_ Tryd.func112 rfl (by kernel_rfl) rfl (fun _=>by kernel_rfl) fun M0 w0 vs=>?_;simp only [Tryd.ntmps112,Tryd.results112,b5_];unfold f6_;repeat' first|(with_reducible first|apply a9_|apply a3_|apply a1_|refine a2_ [] ?_)|((with_reducible refine a0_ fun X Y=>?_);go_simp;refine Y _ ?_;clear Y X)
 refine b6_ 10 10 [] rfl (by kernel_rfl) (by kernel_rfl) ?_;simp only [List.take,List.drop];repeat' first|(with_reducible first|apply a9_|apply a3_|apply b0_|apply a1_|refine a2_ [] ?_|apply a5_)|((with_reducible refine a6_ ?_ ?_);(focus (go_simp;done)))|((with_reducible first|refine a0_ fun X Y=>?_|refine a4_ fun X Y=>?_);go_simp;(first|(refine ⟨_,⟨g1,rfl⟩,?_⟩)|skip);refine Y _ ?_;clear Y X)
 refine x7_ 15 [0,22,22,23,23,24,24,25,25,26,3,27,27,28] (by kernel_rfl) (by kernel_rfl) (by kernel_rfl) (fun v=>v) a1t rfl ⟨rfl,rfl⟩ ?_;simp only [List.take];repeat' first|with_reducible apply a5_|((with_reducible refine a4_ fun X Y=>?_);go_simp;refine Y _ ?_;clear Y X)
 refine ⟨_,_,a6o (by exact rfl) (by exact rfl) (by go_simp;exact a9j _ _ (by repeat' (first|exact TxO.one _|exact TxO.map _|apply TxO.take|apply TxO.drop|apply TxO.tail)) (by repeat' (first|exact TxO.one _|exact TxO.map _|apply TxO.take|apply TxO.drop|apply TxO.tail)) (by simp;omega)) (by go_simp),?_,?_,?_⟩
 ·simp only [List.forall_mem_cons];go_simp
 ·repeat' first|with_reducible apply a5_|((with_reducible refine a4_ fun X Y=>?_);go_simp;refine Y _ ?_;clear Y X)
  simp only [List.forall_mem_cons];go_simp
 go_simp;refine b9_ [] 2 ⟨rfl,rfl⟩ ?_;simp only [List.take,List.drop];repeat' first|with_reducible apply a1_|((with_reducible refine a0_ fun X Y=>?_);go_simp;refine Y _ ?_;clear Y X)
 apply e3_;repeat' first|(with_reducible first|apply a9_|apply a3_|apply c5_|apply a1_|refine a2_ [] ?_)|((with_reducible refine a0_ fun X Y=>?_);go_simp;refine Y _ ?_;clear Y X)
 go_simp;rw [←i4_];congr 1;rw [List.eraseIdx_eq_take_drop_succ,List.map_append,List.map_take,List.map_drop]
theorem b4d:∀ (q:List (List ByteArray)) (i:Nat),(∀ l∈q,l.length≤12)→f7_ i q≤q.length*(12*(i+q.length))
 | [],_,_=>by simp [f7_]
 | l::q,i,h=>by
  have h1:=b4d q (i+1) fun x hx=>h x (List.mem_cons_of_mem _ hx);have h2:=h l (List.mem_cons_self ..);rw [f7_,List.length_cons];have h3:i*l.length≤i*12:=Nat.mul_le_mul_left _ h2;have e:(q.length+1)*(12*(i+(q.length+1)))=q.length*(12*(i+1+q.length))+12*(i+1+q.length):=by
   rw [show i+(q.length+1)=i+1+q.length by omega,Nat.add_mul,Nat.one_mul]
  omega
theorem a5g {r:Ru} {s:St} (hr:RuOK r) (h:Inv r s) : f7_ 0 s.q≤500:=by
 have h1:=b4d s.q 0 fun l hl=>by
  obtain ⟨k,hk,rfl⟩:=List.getElem_of_mem hl;have:=h.fit k hk;have:=hr.pl k (by rw [←h.len];exact hk);rw [←f3_ hk];omega
 have h6:s.q.length≤6:=by rw [h.len];exact hr.n6
 have:s.q.length*(12*(0+s.q.length))≤6*(12*(0+6)):=Nat.mul_le_mul h6 (by omega);omega
def doR (r:Ru) (s:St) (x:Ev) (k:Nat) : St×List Sg:=if doE r s x k=0 then (doS r s x k,doM r s x k) else (s,[])
theorem d5b (r:Ru) (s:St) (n1:Bool) (x:Ev) (k:Nat) (hr:RuOK r) (hi:Inv r s) (hx:x.rank=k) (hk:k < s.q.length) (hkd:0≤x.kind∧x.kind≤5) (ht:0≤x.time∧x.time≤604800) :
  ∃ a b,VH Tryd.prog (109+x.kind.toNat) (f6_ r s [] n1 true) [.ref 0 0,evA x] [0] (f6_ r (doR r s x k).1 (doR r s x k).2 a b) (I (doE r s x k))∧(doE r s x k≠0→a=n1∧b=true):=by
 have hlen:r.ranks.length=s.q.length:=hi.len.symm;have hfo:q7_ r s.q.length:=by rw [hi.len];exact hr.feed
 have h6:s.q.length≤6:=by rw [hi.len];exact hr.n6
 have hqs:∀ j,j < s.q.length→(qat s.q j).length≤12:=fun j hj=>by
  have:=hi.fit j hj;have:=hr.pl j (by omega);omega
 have hqk:=hqs k hk;have htl:=hi.tkl;have hkr:k < r.ranks.length:=by omega
 unfold doR;by_cases hd:doE r s x k=0
 ·rw [if_pos hd,hd];simp only;unfold doE at hd;unfold doS doM;by_cases k0:x.kind=0
  ·rw [if_pos k0] at hd ⊢;rw [if_neg (by omega),k0];unfold a3b b2a;by_cases hf:(rat r.ranks k).feeder = -1
   ·by_cases hT:a0v s.tk x.car < 0
    ·rw [if_neg (by omega)];exact ⟨_,_,c7c r s [] n1 true x k hx hk hlen (by omega) (fun j hj=>by have:=hqs j hj;omega) (by omega) hf hT hd,fun h=>absurd rfl h⟩
    ·obtain ⟨i,e,hil,_⟩:=a3c (Classical.byContradiction fun hh=>hT (r4_.2 hh));rw [if_pos (by omega),e,Int.toNat_natCast];exact ⟨_,_,c7d r s [] n1 true x k hx hk hlen (by omega) (fun j hj=>by have:=hqs j hj;omega) (by omega) hf i e hil hd,fun h=>absurd rfl h⟩
   ·obtain ⟨p1,p2,p3⟩:=hr.feedN hkr hf;by_cases hT:a0v s.tk x.car < 0
    ·rw [if_neg (by omega)];exact ⟨_,_,c7e r s [] n1 true x k hx hk hlen (by omega) (fun j hj=>by have:=hqs j hj;omega) (by omega) (feedN r k) p1 (by omega) hT hd,fun h=>absurd rfl h⟩
    ·obtain ⟨i,e,hil,_⟩:=a3c (Classical.byContradiction fun hh=>hT (r4_.2 hh));rw [if_pos (by omega),e,Int.toNat_natCast];exact ⟨_,_,c7f r s [] n1 true x k hx hk hlen (by omega) (fun j hj=>by have:=hqs j hj;omega) (by omega) (feedN r k) p1 (by omega) i e hil hd,fun h=>absurd rfl h⟩
  rw [if_neg k0] at hd ⊢;by_cases k1:x.kind=1
  ·rw [if_pos k1] at hd ⊢;rw [if_neg (by omega),k1];exact ⟨_,_,c6y r s [] n1 true x k hx hk hlen (by omega) hd,fun h=>absurd rfl h⟩
  rw [if_neg k1] at hd ⊢;by_cases k2:x.kind=2
  ·rw [if_pos k2] at hd ⊢;rw [if_neg (by omega),k2];exact ⟨_,_,b8p r s [] n1 true x k hx hk hlen (by have:=hr.bk;omega) (by omega) hd,fun h=>absurd rfl h⟩
  rw [if_neg k2] at hd ⊢;by_cases k3:x.kind=3
  ·rw [if_pos k3] at hd ⊢;rw [if_neg (by omega),k3];unfold a3s at hd;exact ⟨_,_,c7o r s [] n1 true x k hx hk (by omega) (fun hh=>by rw [if_pos hh] at hd;cases hd),fun h=>absurd rfl h⟩
  rw [if_neg k3] at hd ⊢;by_cases k4:x.kind=4
  ·rw [if_pos k4] at hd ⊢;rw [if_pos k4,k4];have hf:(rat r.ranks k).feeder≠-1:=fun hh=>by
    unfold w4_ at hd;rw [if_pos hh] at hd;cases hd
   obtain ⟨p1,p2,p3⟩:=hr.feedN hkr hf;exact ⟨_,_,d0j r s [] n1 true x k (feedN r k) hx hk hlen p1 (by omega) (by omega) (by omega) (by simp) hd,fun h=>absurd rfl h⟩
  rw [if_neg k4] at hd ⊢;rw [if_neg k4];have k5:x.kind=5:=by omega
  rw [k5];unfold a3z at hd;split at hd
  ·cases hd
  ·rename_i hor;have hT:¬a0v s.tk x.car < 0:=fun hh=>hor (.inl hh);obtain ⟨i,e,hil,_⟩:=a3c (Classical.byContradiction fun hh=>hT (r4_.2 hh));unfold c9w at hd hor;rw [e,Int.toNat_natCast] at hd hor;have h0:(d8_ s.tk i).rank=k:=Classical.byContradiction fun hh=>hor (.inr (by rw [hx];exact hh));have htm:=hi.tkt _ (show d8_ s.tk i∈s.tk by rw [f5_ hil];exact List.getElem_mem hil);have:=hi.t0;unfold b5x b2a;rw [e,Int.toNat_natCast];exact ⟨_,_,d0k r s [] n1 true x k i hx hk hlen (by omega) e hil h0 ht (by omega) (by omega) hd,fun h=>absurd rfl h⟩
 ·rw [if_neg hd];simp only;refine ⟨n1,true,?_,fun _=>⟨rfl,rfl⟩⟩;unfold doE at hd ⊢;by_cases k0:x.kind=0
  ·rw [if_pos k0] at hd ⊢;rw [k0];exact b8u r s [] n1 true x k hx hk hlen hfo (by omega) (fun j hj=>by have:=hqs j hj;omega) hd
  rw [if_neg k0] at hd ⊢;by_cases k1:x.kind=1
  ·rw [if_pos k1] at hd ⊢;rw [k1];exact c3b r s [] n1 true x k hx hk hlen (by omega) hd
  rw [if_neg k1] at hd ⊢;by_cases k2:x.kind=2
  ·rw [if_pos k2] at hd ⊢;rw [k2];exact b5w r s [] n1 true x k hx hk hlen hd
  rw [if_neg k2] at hd ⊢;by_cases k3:x.kind=3
  ·rw [if_pos k3] at hd ⊢;rw [k3];unfold a3s at hd ⊢;by_cases hh:a1q (qat s.q k) x.car < 0
   ·rw [if_pos hh];exact c3y r s [] n1 true x k hx hk (by omega) hh
   ·rw [if_neg hh] at hd;exact absurd rfl hd
  rw [if_neg k3] at hd ⊢;by_cases k4:x.kind=4
  ·rw [if_pos k4] at hd ⊢;rw [k4];exact c7b r s [] n1 true x k hx hk hlen hfo hd
  rw [if_neg k4] at hd ⊢;have k5:x.kind=5:=by omega
  rw [k5];unfold a3z at hd ⊢;by_cases hT:a0v s.tk x.car < 0
  ·rw [if_pos (.inl hT)];exact c3g r s [] n1 true x k hx (by omega) hT
  ·obtain ⟨i,e,hil,_⟩:=a3c (Classical.byContradiction fun hh=>hT (r4_.2 hh));unfold c9w at hd ⊢;rw [e,Int.toNat_natCast] at hd ⊢;by_cases h0:(d8_ s.tk i).rank=k
   ·have hc:¬((i:Int) < 0∨(d8_ s.tk i).rank≠x.rank):=by rw [hx];omega
    rw [if_neg hc] at hd ⊢;have htm:=hi.tkt _ (show d8_ s.tk i∈s.tk by rw [f5_ hil];exact List.getElem_mem hil);have:=hi.t0;exact c3i r s [] n1 true x k i hx hk hlen (by omega) e hil h0 ht (by omega) hd
   ·rw [if_pos (.inr (by rw [hx];exact h0))];exact c3h r s [] n1 true x k i hx (by omega) e hil h0
theorem c3z {a b c:Int} (h:fst [a,b]≠0) : fst [a,b,c]=fst [a,b]:=by
 by_cases h1:a=0
 ·subst h1;by_cases h2:b=0
  ·subst h2;exact absurd rfl h
  ·simp [fst,h2]
 ·simp [fst,h1]
def apR (r:Ru) (s:St) (x:Ev) : St×List Sg:=if apE r s x=0 then apU r s x else (s,[])
theorem b9m (r:Ru) (s:St) (mv:List Sg) (n1:Bool) (x:Ev) (hr:RuOK r) (hi:Inv r s) (hc:x.car.size≤1000) :
  ∃ a,VH Tryd.prog 36 (v4_ r s mv n1) [.ref 0 0,evA x] [0] (v4_ r (apR r s x).1 (apR r s x).2 a) (I (apE r s x)):=by
 have hn:r.ranks.length≤1000000:=by have:=hr.n6;omega
 unfold apR;by_cases h0:fst [evE r x,unl (decide (s.time≤x.time)) 9]=0
 ·have h0':=h0;rw [b2_,b2_] at h0';have hE:apE r s x=doE r s x x.rank.toNat:=by
   unfold apE;rw [h0'.1,h0'.2.1];simp only [fst,ne_eq,not_true_eq_false,if_false];split
   ·rfl
   ·rename_i h;exact (Classical.byContradiction h).symm
  have hxr:=b6a h0'.1;have hx:x.rank=(x.rank.toNat:Int):=by omega
  have hk:x.rank.toNat < s.q.length:=by rw [hi.len];omega
  have ht:=c3e h0'.1;have hkd:=b5z h0'.1;obtain ⟨a,b,hd,hab⟩:=d5b r s n1 x x.rank.toNat hr hi hx hk hkd ht;rw [hE];by_cases he:doE r s x x.rank.toNat=0
  ·rw [if_pos he];have hiS:=hi.doS hr h0'.1 (of_decide_eq_true (c7_ (by decide) h0'.2.1)) hx he;unfold doR at hd;rw [if_pos he] at hd;have hml:(doM r s x x.rank.toNat).length≤2:=by
    unfold doM;split
    ·simp [upM]
    ·simp
   have hhd:=a5g hr hiS;exact ⟨a,d4k r s (doS r s x x.rank.toNat) (apU r s x).1 mv (doM r s x x.rank.toNat) (apU r s x).2 n1 a b x _ hn hc h0 hkd hd
    (.inr ⟨he,hr,hiS,by change f7_ 0 (doS r s x x.rank.toNat).q≤500 at hhd;omega,⟨_,Nat.le_refl _,rfl⟩⟩)⟩
  ·rw [if_neg he];unfold doR at hd;rw [if_neg he] at hd;exact ⟨a,d4k r s s s mv [] [] n1 a b x _ hn hc h0 hkd hd (.inl ⟨he,rfl,rfl⟩)⟩
 ·have hE:apE r s x=fst [evE r x,unl (decide (s.time≤x.time)) 9]:=by
   unfold apE;exact c3z h0
  rw [hE,if_neg h0];exact ⟨n1,d3c r s mv n1 x hn hc h0⟩
end Go.Proofs.YtoibondihdhnoaaDoor
