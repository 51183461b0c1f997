/- Texts in one: Ranks are served in order: true whatever the input is. -/
import Derived.Test.YtoibondihdhnoaaDoorFRX61
import Derived.Test.YtoibondihdhnoaaDoorFRX7
import Derived.Test.YtoibondihdhnoaaDoorFRX33
import Derived.Test.YtoibondihdhnoaaDoorFRX49
import Derived.Test.YtoibondihdhnoaaDoorFRX16
import Derived.Test.YtoibondihdhnoaaDoorFRX53
import Derived.Test.YtoibondihdhnoaaDoorFRX48
import Derived.Test.YtoibondihdhnoaaDoorFRX65
import Derived.Test.YtoibondihdhnoaaDoorFRX41
import Derived.Test.YtoibondihdhnoaaDoorFRX59
import Derived.Lib.Bytealg
import Derived.Lib.Strings
import Derived.Lib.Slices
import Derived.Lib.Walk
import Derived.Test.YtoibondihdhnoaaDoorFRX63
import Derived.Test.YtoibondihdhnoaaDoorFRX34
namespace Go.Proofs.YtoibondihdhnoaaDoor
open Go.RowKit
set_option maxRecDepth 100000
set_option maxHeartbeats 4000000
def c2b (r:Ru) (k:Int) (j:Nat) : Bool:=decide ((rat r.ranks j).feeder=k)
def c6h (r:Ru) (k:Int) : Int:=ixP (c2b r k) 0 r.ranks.length
def kN (r:Ru) (k:Int) : Nat→Int
 | 0=>k
 | i+1=>c6h r (kN r k i)
theorem c9q {r:Ru} (hr:RuOK r) {k:Int} (hk0:0≤k) : c6h r k = -1∨0≤c6h r k∧c6h r k < k∧c6h r k < r.ranks.length:=by
 unfold c6h;rcases t8_ (c2b r k) r.ranks.length with ⟨h,_⟩|⟨j,h1,h2,h3,_⟩
 ·exact .inl h
 ·refine .inr ?_;unfold c2b at h3;rw [decide_eq_true_eq] at h3;rw [h2];have:=(hr.fd j h1 (by omega)).1;omega
theorem a8y (r:Ru) (k:Int) : ∀ i,kN r k (i+1)=kN r (c6h r k) i
 | 0=>rfl
 | i+1=>by
  have ih:=a8y r k i;rw [kN,ih];rfl
theorem chain {r:Ru} (hr:RuOK r) : ∀ (n:Nat) (k:Int),k < n→∃ m,m≤n∧kN r k m < 0∧∀ i,i < m→0≤kN r k i∧kN r k i≤k
 | 0,k,h=>⟨0,Nat.le_refl _,by simpa [kN] using h,fun i hi=>absurd hi (by omega)⟩
 | n+1,k,h=>by
  by_cases hk:k < 0
  ·exact ⟨0,by omega,hk,fun i hi=>absurd hi (by omega)⟩
  ·have hf:=c9q hr (k:=k) (by omega);obtain ⟨m,h1,h2,h3⟩:=chain hr n (c6h r k) (by omega);refine ⟨m+1,by omega,by rw [a8y];exact h2,fun i hi=>?_⟩;cases i with
   | zero=>exact ⟨by show 0≤k;omega,Int.le_refl _⟩
   | succ i=>
    have:=h3 i (by omega);rw [a8y];omega
def nxE (r:Ru) (s:St) (k:Int) : Int:=fst [ckE r s,unl (inR k 0 ((r.ranks.length:Int) - 1)) 6]
theorem d1x (r:Ru) (s:St) (k:Nat) (hn:r.ranks.length≤1000000) (hnm:∀ k,k < r.ranks.length→(rat r.ranks k).name.size≤1000) (hs:SmallS s) (h:nxE r s k=0) (hk:k < s.q.length) :
  ((qat s.q k=[])→VC Tryd.prog 13 [c4_ r,c9_ s,I (k:Int)] (.tup [S ⟨#[]⟩,I 12]))∧∀ h0:0 < (qat s.q k).length,VC Tryd.prog 13 [c4_ r,c9_ s,I (k:Int)] (.tup [S (qat s.q k)[0],I 0]):=by
 have w1:IntKind.i64.wrap ((r.ranks.length:Int) - 1)=(r.ranks.length:Int) - 1:=h3_ (by omega) (by omega);have g1:=a3y r s hn hnm hs;have g2:=i3_ k 0 ((r.ranks.length:Int) - 1);have g3:=b3_ (inR k 0 ((r.ranks.length:Int) - 1)) 6;have g4:VC Tryd.prog 30 [.sl 1 ([ckE r s,unl (inR k 0 ((r.ranks.length:Int) - 1)) 6].map y3_)] (I (nxE r s k)):=d9_ _ rfl rfl;rw [h] at g4;clear hnm hs hn h;generalize ckE r s=C at *;generalize unl (inR k 0 ((r.ranks.length:Int) - 1)) 6=U at *;generalize inR k 0 ((r.ranks.length:Int) - 1)=J at *;refine ⟨fun hq=>?_,fun h0=>?_⟩
 ·refine c0_ Tryd.func13 rfl (by kernel_rfl) (by kernel_rfl) rfl fun M0 w0=>?_;simp only [Tryd.ntmps13,Tryd.results13,b5_];repeat' first|(with_reducible first|apply a9_|apply a3_|apply b4_|apply c5_|apply b0_|apply a1_|refine a2_ [] ?_|apply a5_)|((with_reducible refine a7_ ?_ ?_);(focus (go_simp;done)))|((with_reducible refine a6_ ?_ ?_);(focus (go_simp;done)))|((with_reducible first|refine a0_ fun Y Z=>?_|refine a4_ fun Y Z=>?_);go_simp;(first|(refine ⟨_,g1,?_⟩)|(refine ⟨_,g2,?_⟩)|(refine ⟨_,g3,?_⟩)|(refine ⟨_,g4,?_⟩)|skip);refine Z _ ?_;clear Z Y)|((refine b6_ 13 13 [] rfl (by kernel_rfl) (by kernel_rfl) ?_);simp only [List.take,List.drop])
  go_simp
 ·have h1:¬(qat s.q k).length=0:=by omega
  have h2:¬qat s.q k=[]:=fun h=>h1 (by rw [h];rfl);refine c0_ Tryd.func13 rfl (by kernel_rfl) (by kernel_rfl) rfl fun M0 w0=>?_;simp only [Tryd.ntmps13,Tryd.results13,b5_];repeat' first|(with_reducible first|apply a9_|apply a3_|apply c5_|apply b0_|apply a1_|refine a2_ [] ?_|apply a5_)|((with_reducible refine a6_ ?_ ?_);(focus (go_simp;done)))|((with_reducible first|refine a0_ fun Y Z=>?_|refine a4_ fun Y Z=>?_);go_simp;(first|(refine ⟨_,g1,?_⟩)|(refine ⟨_,g2,?_⟩)|(refine ⟨_,g3,?_⟩)|(refine ⟨_,g4,?_⟩)|skip);refine Z _ ?_;clear Z Y)|((refine b6_ 13 13 [] rfl (by kernel_rfl) (by kernel_rfl) ?_);simp only [List.take,List.drop])
  go_simp
structure InS (s:St) : Prop where
 q:s.q.length≤9223372036854775807
 t:s.tk.length≤9223372036854775807
 ti:∀ t∈s.tk,i64 t.rank∧i64 t.time
 tm:i64 s.time
end Go.Proofs.YtoibondihdhnoaaDoor
namespace Go.Proofs.YtoibondihdhnoaaDoor
open Go.RowKit Go.Shelf
set_option maxRecDepth 100000
set_option maxHeartbeats 4000000
theorem Rel.nilSl {N:Nm} {M0:Nat→Nat→Prop} {w0:Bas} {p:Pl} {st:VS} {a:Act} {w:World} (R:Rel M0 w0 N p st a w) {d sz:Nat} (h:lkp st.s d=f0_) : Rel M0 w0 N p ⟨(d,.sl sz [])::st.s,st.h⟩ a w:=by
 refine R.know ?_;have hv:=R.slots d;rw [h] at hv;cases hv with
 | base _ _ h0=>
  rw [h0.lit_inv];exact .base _ _ (.slNil _ _ _)
structure GoodL (w:List ByteArray) : Prop where
 n3:3≤w.length
 nn:w.length≤2000
 sz:∀ p∈w,p.size≤1000
end Go.Proofs.YtoibondihdhnoaaDoor
namespace Go.Proofs.YtoibondihdhnoaaDoor
open Go.RowKit
set_option maxRecDepth 100000
set_option maxHeartbeats 2000000
theorem b5m {r:Ru} {l:List Ev} (h:b6x r l=0) : (d6_ r).2=0∧a3h r l=0∧l.length≤200∧(goP r 0 l (st0 r)).2.2=0:=by
 unfold b6x at h;by_cases h1:a3h r l=0
 ·rw [if_neg (by simpa using h1)] at h;obtain ⟨_,h2,h3⟩:=b2k h1;exact ⟨h2,h1,h3,h⟩
 ·rw [if_pos h1] at h;exact absurd h h1
theorem d1y {r:Ru} {l:List Ev} (h:b6x r l=0) : a8w r l=((goP r 0 l (st0 r)).1,v2_ r l (st0 r),0,0):=by
 obtain ⟨_,_,h2,h3⟩:=b5m h;unfold a8w;rw [if_neg (by omega),if_neg (by simpa using h3)]
theorem c5f:VC Tryd.prog 4 [] (B true):=by
 have g1:=c8m;have g2:=c0p;have g3:=b4r a7a b2t b6y;have g5:=b2r c4o (by decide) (fun k hk=>by
  have h2:k < 3:=hk;rcases k with _|_|_|k
  ·decide
  ·decide
  ·decide
  ·omega)
 have g8:=a8p b2u b2v;rw [c4n] at g3;rw [d1g,d1h] at g5;rw [c0q] at g8;generalize a7a=R0 at *;generalize hM:b2t=M at *;clear hM;generalize hS:b2u=S0 at *;clear hS;unfold c4o at g5;simp only [c4_,w2_,c9_,d4v,List.map_cons,List.map_nil,Sg.av] at g1 g2 g3 g5 g8;refine c0_ Tryd.func4 rfl (by kernel_rfl) (by kernel_rfl) rfl fun M0 w0=>?_;simp only [Tryd.ntmps4,Tryd.results4,b5_];repeat' first|(with_reducible first|apply a9_|apply a3_|apply c5_|apply a1_|refine a2_ [] ?_)|((with_reducible refine a0_ fun Y Z=>?_);go_simp;(first|(with_reducible refine ⟨_,g1,?_⟩)|(with_reducible refine ⟨_,g2,?_⟩)|(with_reducible refine ⟨_,g3,?_⟩)|(with_reducible refine ⟨_,g5,?_⟩)|(with_reducible refine ⟨_,g8,?_⟩)|skip);refine Z _ ?_;clear Z Y)
 go_simp
def a3o (l:List Ev) (k:Nat) : Bool:=decide ((20:Int) < ((e6_ l k).car.size:Int))
theorem c2c (r:Ru) (l:List Ev) (hl:r.ranks.length≤9223372036854775807) (hL:l.length≤9223372036854775807) : ∃ b:Bool,VC Tryd.prog 5 [c4_ r,w2_ l] (B b)∧(b=true→d0a r=true∧l.length≤20∧(∀ x∈l,x.car.size≤20)∧b6x r l=0):=by
 have gF:=d3i r hl;cases hF:d0a r
 ·refine ⟨false,?_,fun h=>by cases h⟩;rw [hF] at gF;clear hF;refine c0_ Tryd.func5 rfl (by kernel_rfl) (by kernel_rfl) rfl fun M0 w0=>?_;simp only [Tryd.ntmps5,Tryd.results5,b5_];repeat' first|(with_reducible first|apply a9_|apply a3_|apply b4_|apply c5_|apply a1_|refine a2_ [] ?_)|((with_reducible refine a7_ ?_ ?_);(focus (go_simp;done)))|((with_reducible refine a0_ fun Y Z=>?_);go_simp;(first|(refine ⟨_,gF,?_⟩)|skip);refine Z _ ?_;clear Z Y)
  go_simp
 rw [hF] at gF;by_cases h20:(20:Int) < l.length
 ·refine ⟨false,?_,fun h=>by cases h⟩;clear hF;refine c0_ Tryd.func5 rfl (by kernel_rfl) (by kernel_rfl) rfl fun M0 w0=>?_;simp only [Tryd.ntmps5,Tryd.results5,b5_];repeat' first|(with_reducible first|apply a9_|apply a3_|apply b4_|apply c5_|apply a1_|refine a2_ [] ?_)|((with_reducible refine a7_ ?_ ?_);(focus (go_simp;done)))|((with_reducible refine a0_ fun Y Z=>?_);go_simp;(first|(refine ⟨_,gF,?_⟩)|skip);refine Z _ ?_;clear Z Y)
  go_simp
 obtain ⟨h8,hnm⟩:=c6c hF;cases hA:a5w (a3o l) 0 l.length;rotate_left
 ·refine ⟨false,?_,fun h=>by cases h⟩;have HA:=Lib.hid hA;clear hF h8 hnm hA;refine c0_ Tryd.func5 rfl (by kernel_rfl) (by kernel_rfl) rfl fun M0 w0=>?_;simp only [Tryd.ntmps5,Tryd.results5,b5_];repeat' first|(with_reducible first|apply a9_|apply a3_|apply b0_|apply a8_|apply a1_|refine a2_ [] ?_)|((with_reducible refine a6_ ?_ ?_);(focus (go_simp;done)))|((with_reducible refine a0_ fun Y Z=>?_);go_simp;(first|(refine ⟨_,gF,?_⟩)|skip);refine Z _ ?_;clear Z Y)
  apply y4_ [1,2] (fun k=>[(5,I k)]) (fun k=>([] : Hp)) (a3o l) (l.length)
  ·go_simp<;>exact rfl
  ·go_simp
  ·intro k hk HB HP K hK;obtain ⟨w1,w2,w3,w4,w5,w6⟩:=ixs (m:=k) (by omega);have hp:=HP.out;rw [a3o,decide_eq_false_iff_not] at hp;repeat' first|(with_reducible first|apply a9_|apply a3_|apply b0_|apply a8_|apply b1_|apply a1_|refine a2_ [] ?_)|((with_reducible refine a7_ ?_ ?_);(focus (go_simp;done)))|((with_reducible refine a6_ ?_ ?_);(focus (go_simp;done)))|((with_reducible refine a0_ fun Y Z=>?_);go_simp;refine Z _ ?_;clear Z Y)
   refine hK _ ?_;go_simp
  ·intro k hk HB HP K;have hp:=HP.out;rw [a3o,decide_eq_true_eq] at hp;repeat' first|(with_reducible first|apply a9_|apply a3_|apply b4_|apply c5_|apply b0_|apply a8_|apply c2_|apply a1_|refine a2_ [] ?_)|((with_reducible refine a7_ ?_ ?_);(focus (go_simp;done)))|((with_reducible refine a0_ fun Y Z=>?_);go_simp;refine Z _ ?_;clear Z Y)
   go_simp
  ·intro HB K;have:=HA.out;rw [c0r HB.out] at this;cases this
 have hcar:∀ x∈l,x.car.size≤20:=fun x hx=>by
  obtain ⟨k,hk,rfl⟩:=List.getElem_of_mem hx;have hp:a3o l k=false:=by
   cases hb:a3o l k
   ·rfl
   ·rw [m7_ hk hb] at hA;cases hA
  rw [a3o,decide_eq_false_iff_not,o7_ hk] at hp;omega
 have HC:Hid (∀ k,k < l.length→a3o l k=false):=Lib.hid fun k hk=>by
  cases hb:a3o l k
  ·rfl
  ·rw [m7_ hk hb] at hA;cases hA
 have g2:=b0r r (by omega) hnm;by_cases h0:(d6_ r).2=0
 rotate_left
 ·refine ⟨false,?_,fun h=>by cases h⟩;clear hF h8 hnm hA hcar;generalize (d6_ r).1=C1 at *;generalize (d6_ r).2=C2 at *;refine c0_ Tryd.func5 rfl (by kernel_rfl) (by kernel_rfl) rfl fun M0 w0=>?_;simp only [Tryd.ntmps5,Tryd.results5,b5_];repeat' first|(with_reducible first|apply a9_|apply a3_|apply b0_|apply a8_|apply a1_|refine a2_ [] ?_)|((with_reducible refine a6_ ?_ ?_);(focus (go_simp;done)))|((with_reducible refine a0_ fun Y Z=>?_);go_simp;(first|(refine ⟨_,gF,?_⟩)|skip);refine Z _ ?_;clear Z Y)
  apply y4_ [1,2] (fun k=>[(5,I k)]) (fun k=>([] : Hp)) (a3o l) (l.length)
  ·go_simp<;>exact rfl
  ·go_simp
  ·intro k hk HB HP K hK;obtain ⟨w1,w2,w3,w4,w5,w6⟩:=ixs (m:=k) (by omega);have hp:=HP.out;rw [a3o,decide_eq_false_iff_not] at hp;repeat' first|(with_reducible first|apply a9_|apply a3_|apply b0_|apply a8_|apply b1_|apply a1_|refine a2_ [] ?_)|((with_reducible refine a7_ ?_ ?_);(focus (go_simp;done)))|((with_reducible refine a6_ ?_ ?_);(focus (go_simp;done)))|((with_reducible refine a0_ fun Y Z=>?_);go_simp;refine Z _ ?_;clear Z Y)
   refine hK _ ?_;go_simp
  ·intro k hk HB HP K;have:=HC.out k hk;rw [HP.out] at this;cases this
  ·intro HB K;repeat' first|(with_reducible first|apply a9_|apply a3_|apply b8_|apply b4_|apply c5_|apply d4_|apply b7_|apply a1_|refine a2_ [] ?_)|((with_reducible refine a7_ ?_ ?_);(focus (go_simp;done)))|((with_reducible refine a6_ ?_ ?_);(focus (go_simp;done)))|((with_reducible refine a0_ fun Y Z=>?_);go_simp;(first|(refine ⟨_,g2,?_⟩)|skip);refine Z _ ?_;clear Z Y)
   go_simp
 have g3:=c5c r l (by omega) (a2g h0).1 (by omega) (fun x hx=>by have:=hcar x hx;omega);have he:b6x r l=(a8w r l).2.2.2:=by
  rw [d1u,if_neg (by simp [h0])]
 refine ⟨decide ((a8w r l).2.2.2=0),?_,fun h=>⟨rfl,by omega,hcar,by rw [he];exact of_decide_eq_true h⟩⟩;rw [h0] at g2;clear hF h8 hnm hA hcar h0 he;generalize (d6_ r).1=C1 at *;generalize (a8w r l).1=S1 at *;generalize (a8w r l).2.1=G1 at *;generalize (a8w r l).2.2.1=N1 at *;generalize (a8w r l).2.2.2=E1 at *;refine c0_ Tryd.func5 rfl (by kernel_rfl) (by kernel_rfl) rfl fun M0 w0=>?_;simp only [Tryd.ntmps5,Tryd.results5,b5_];repeat' first|(with_reducible first|apply a9_|apply a3_|apply b0_|apply a8_|apply a1_|refine a2_ [] ?_)|((with_reducible refine a6_ ?_ ?_);(focus (go_simp;done)))|((with_reducible refine a0_ fun Y Z=>?_);go_simp;(first|(refine ⟨_,gF,?_⟩)|skip);refine Z _ ?_;clear Z Y)
 apply y4_ [1,2] (fun k=>[(5,I k)]) (fun k=>([] : Hp)) (a3o l) (l.length)
 ·go_simp<;>exact rfl
 ·go_simp
 ·intro k hk HB HP K hK;obtain ⟨w1,w2,w3,w4,w5,w6⟩:=ixs (m:=k) (by omega);have hp:=HP.out;rw [a3o,decide_eq_false_iff_not] at hp;repeat' first|(with_reducible first|apply a9_|apply a3_|apply b0_|apply a8_|apply b1_|apply a1_|refine a2_ [] ?_)|((with_reducible refine a7_ ?_ ?_);(focus (go_simp;done)))|((with_reducible refine a6_ ?_ ?_);(focus (go_simp;done)))|((with_reducible refine a0_ fun Y Z=>?_);go_simp;refine Z _ ?_;clear Z Y)
  refine hK _ ?_;go_simp
 ·intro k hk HB HP K;have:=HC.out k hk;rw [HP.out] at this;cases this
 ·intro HB K;repeat' first|(with_reducible first|apply a9_|apply a3_|apply b8_|apply c5_|apply b0_|apply d4_|apply b7_|apply a1_|refine a2_ [] ?_)|((with_reducible refine a6_ ?_ ?_);(focus (go_simp;done)))|((with_reducible refine a0_ fun Y Z=>?_);go_simp;(first|(refine ⟨_,g2,?_⟩)|(refine ⟨_,g3,?_⟩)|skip);refine Z _ ?_;clear Z Y)
  go_simp
theorem b5n:∀ (l:List Ev) (i:Nat) (a:List Sy),(∀ y∈a,0≤y.came∧y.came < i∧-1≤y.went∧y.went < i)→∀ y∈a1a i l a,0≤y.came∧y.came < ((i+l.length:Nat) : Int)∧-1≤y.went∧y.went < ((i+l.length:Nat) : Int)
 | [],i,a,h,y,hy=>h y hy
 | x::l,i,a,h,y,hy=>by
  rw [a1a] at hy;have:=b5n l (i+1) (u3_ a i x) (fun z hz=>by
   unfold u3_ at hz;split at hz
   ·have:=h z hz;omega
   ·split at hz
    ·rcases List.mem_append.1 hz with hz|hz
     ·have:=h z hz;omega
     ·rw [List.mem_singleton.1 hz];simp only;omega
    ·rcases a1j hz with hz|⟨w,hw,rfl⟩
     ·have:=h z hz;omega
     ·have:=h w hw;unfold k4_;split
      ·simp only;omega
      ·split
       ·simp only;omega
       ·split
        ·simp only;omega
        ·split
         ·simp only;omega
         ·omega) y hy
  rw [List.length_cons];omega
theorem c9r {r:Ru} {l:List Ev} (h:(goP r 0 l (st0 r)).2.2=0) {p:Nat} (hp:p < (f2_ 0 l).length) : 0≤(d2_ (f2_ 0 l) p).came∧(d2_ (f2_ 0 l) p).came < (l.length:Int)∧-1≤(d2_ (f2_ 0 l) p).went∧(d2_ (f2_ 0 l) p).went < (l.length:Int):=by
 have:=b5n l 0 [] (fun y hy=>by cases hy) (d2_ (f2_ 0 l) p) (by rw [a5h h,a4k hp];exact List.getElem_mem hp);simpa using this
theorem c5g {r:Ru} {l:List Ev} (hr:RuOK r) (h:(goP r 0 l (st0 r)).2.2=0) (h5:∀ x∈l,x.kind≠5) {p p':Nat} (hlt:p < p') (hp':p' < (f2_ 0 l).length) {n:Nat} (hn:n < r.ranks.length)
  (h1:a7j l (d2_ (f2_ 0 l) p)=n) (h2:a7j l (d2_ (f2_ 0 l) p')=n) (hf:(rat r.ranks n).feeder = -1) (hno:∀ k,k < r.ranks.length→(rat r.ranks k).feeder≠n)
  (d1:(d2_ (f2_ 0 l) p).decl≤0) (d2:(d2_ (f2_ 0 l) p').decl≤0) (hw:0≤(d2_ (f2_ 0 l) p').went) (hk:(e6_ l (d2_ (f2_ 0 l) p').went.toNat).kind=1) :
  0≤(d2_ (f2_ 0 l) p).went∧(d2_ (f2_ 0 l) p).went < (d2_ (f2_ 0 l) p').went:=by
 obtain ⟨q,K⟩:=b7h hr ⟨hf,hno⟩ hn h h5;have b1:=K.bnd p (by omega);have b2:=K.bnd p' hp';exact K.srv p p' hlt hp' h1 h2 (by omega) (by omega) hw hk
theorem a7k {r:Ru} {s:St} {k:Int} : apE r s ⟨1,s.time,k,⟨#[]⟩⟩≠0:=fun h=>by
 have:=(b2j (parts h).1).2 (show (1:Int)≠4 by decide);cases this
theorem b7k {r:Ru} {s:St} (hi:Inv r s) {k:Nat} (hk:k < s.q.length) (h0:0 < (qat s.q k).length) : apE r s ⟨1,s.time,k,(qat s.q k)[0]⟩=0∨apE r s ⟨1,s.time,k,(qat s.q k)[0]⟩=8:=by
 have hl:=hi.len;have ht:=hi.t0;have hn:c8_ (qat s.q k)[0]=true:=hi.name _ (List.mem_append_left _ (e9_.1 (u4_ hk (List.getElem_mem h0))));have hev:evE r ⟨1,s.time,k,(qat s.q k)[0]⟩=0:=by
  have e1:inR s.time 0 604800=true:=m0_.2 ht;have e2:inR (k:Int) 0 ((r.ranks.length:Int) - 1)=true:=m0_.2 (by omega);unfold evE;simp only [e1,e2,hn,Bool.or_true];rfl
 have hd:doE r s ⟨1,s.time,k,(qat s.q k)[0]⟩ k=unl (decide ((s.tk.length:Int) < 40)) 8:=by
  have e3:q8_ (qat s.q k) (qat s.q k)[0]=0:=by
   unfold q8_;rw [if_neg (by omega),e7_ h0,decide_eq_true rfl];rfl
  show o0_ s _ k=_;unfold o0_;rw [e3];simp only [fst];split<;>simp_all
 unfold apE;rw [hev];simp only [Int.toNat_natCast,hd,Int.le_refl,decide_true];by_cases h40:(s.tk.length:Int) < 40
 ·rw [decide_eq_true h40];exact .inl rfl
 ·rw [decide_eq_false h40];exact .inr rfl
set_option maxHeartbeats 4000000
theorem d4c {l:List Sy} {k:Nat} (h:k < l.length) : l[k]=d2_ l k:=(a4k h).symm
attribute [go_sem] d4c
theorem c9s (r:Ru) (n:Int) (hl:r.ranks.length≤1000000) : VC Tryd.prog 10 [c4_ r,I n] (B (a5w (c2b r n) 0 r.ranks.length)):=by
 obtain ⟨R,hR⟩ : ∃ R,a5w (c2b r n) 0 r.ranks.length=R:=⟨_,rfl⟩
 rw [hR];have HR:=Lib.hid hR;clear hR;refine c0_ Tryd.func10 rfl (by kernel_rfl) (by kernel_rfl) rfl fun M0 w0=>?_;simp only [Tryd.ntmps10,Tryd.results10,b5_];repeat' first|(with_reducible first|apply a9_|apply a3_|apply a8_|apply a1_|refine a2_ [] ?_)|((with_reducible refine a0_ fun Y Z=>?_);go_simp;refine Z _ ?_;clear Z Y)
 apply y4_ [1,2] (fun k=>[(5,I k)]) (fun k=>([] : Hp)) (c2b r n) (r.ranks.length)
 ·go_simp<;>exact rfl
 ·go_simp
 ·intro k hk HB HP K hK;obtain ⟨w1,w2,w3,w4,w5,w6⟩:=ixs (m:=k) (by omega);have hp:=HP.out;rw [c2b,decide_eq_false_iff_not] at hp;repeat' first|(with_reducible first|apply a9_|apply a3_|apply b0_|apply a8_|apply b1_|apply a1_|refine a2_ [] ?_)|((with_reducible refine a7_ ?_ ?_);(focus (go_simp;done)))|((with_reducible refine a6_ ?_ ?_);(focus (go_simp;done)))|((with_reducible refine a0_ fun Y Z=>?_);go_simp;refine Z _ ?_;clear Z Y)
  refine hK _ ?_;go_simp
 ·intro k hk HB HP K;have hp:=HP.out;rw [c2b,decide_eq_true_eq] at hp;have e:=HR.out;rw [m7_ hk HP.out] at e;subst e;repeat' first|(with_reducible first|apply a9_|apply a3_|apply b4_|apply c5_|apply b0_|apply a8_|apply c2_|apply a1_|refine a2_ [] ?_)|((with_reducible refine a7_ ?_ ?_);(focus (go_simp;done)))|((with_reducible refine a0_ fun Y Z=>?_);go_simp;refine Z _ ?_;clear Z Y)
  go_simp
 ·intro HB K;have e:=HR.out;rw [r7_ HB.out] at e;subst e;repeat' first|(with_reducible first|apply a9_|apply a3_|apply b8_|apply c5_|apply d4_|apply b7_|apply a1_|refine a2_ [] ?_)|((with_reducible refine a6_ ?_ ?_);(focus (go_simp;done)))|((with_reducible refine a0_ fun Y Z=>?_);go_simp;refine Z _ ?_;clear Z Y)
  go_simp
def kd5 (l:List Ev) (k:Nat) : Bool:=decide ((e6_ l k).kind=5)
theorem c5h {r:Ru} {s:St} (hr:RuOK r) (hi:Inv r s) (hn:r.ranks.length≤1000000) (hnm:∀ k,k < r.ranks.length→(rat r.ranks k).name.size≤1000) (hs:SmallS s) (h:ckE r s=0) {i:Nat} (hir:i < r.ranks.length) :
  (∃ c E,VC Tryd.prog 13 [c4_ r,c9_ s,I (i:Int)] (.tup [S c,I 12])∧VC Tryd.prog 15 [c4_ r,c9_ s,evA ⟨1,s.time,i,c⟩] (.tup [.agg [f0_,f0_,I 0],I E])∧E≠0) ∨
  (∃ c U,VC Tryd.prog 13 [c4_ r,c9_ s,I (i:Int)] (.tup [S c,I 0])∧VC Tryd.prog 15 [c4_ r,c9_ s,evA ⟨1,s.time,i,c⟩] (.tup [c9_ U,I 0])) ∨
  ∃ c,VC Tryd.prog 13 [c4_ r,c9_ s,I (i:Int)] (.tup [S c,I 0])∧VC Tryd.prog 15 [c4_ r,c9_ s,evA ⟨1,s.time,i,c⟩] (.tup [.agg [f0_,f0_,I 0],I 8]):=by
 have hk:i < s.q.length:=by rw [hi.len];exact hir
 have hx:nxE r s i=0:=by
  unfold nxE;rw [h,m0_.2 (show (0:Int)≤i∧(i:Int)≤(r.ranks.length:Int) - 1 by omega)];rfl
 obtain ⟨n1,n2⟩:=d1x r s i hn hnm hs hx hk;by_cases h0:0 < (qat s.q i).length
 ·have hc:(qat s.q i)[0].size≤1000:=by
   have:=a3m (hi.name _ (List.mem_append_left _ (e9_.1 (u4_ hk (List.getElem_mem h0)))));omega
  have g:=b5g r s ⟨1,s.time,i,(qat s.q i)[0]⟩ hr hi hn hnm hs h hc;rcases b7k hi hk h0 with e|e
  ·rw [if_pos e] at g;exact .inr (.inl ⟨_,_,n2 h0,g⟩)
  ·rw [if_neg (by rw [e];decide),e] at g;exact .inr (.inr ⟨_,n2 h0,g⟩)
 ·have hq:qat s.q i=[]:=List.length_eq_zero_iff.1 (by omega);have g:=b5g r s ⟨1,s.time,i,⟨#[]⟩⟩ hr hi hn hnm hs h (Nat.zero_le _);rw [if_neg a7k] at g;exact .inl ⟨_,_,n1 hq,g,a7k⟩
theorem c5i (r:Ru) (l:List Ev) (hl:r.ranks.length≤9223372036854775807) (hL:l.length≤9223372036854775807) : VC Tryd.prog 3 [c4_ r,w2_ l] (B true):=by
 have ha:=c5f;obtain ⟨b,gR,hb⟩:=c2c r l hl hL;clear hl hL;cases b
 ·clear hb;refine c0_ Tryd.func3 rfl (by kernel_rfl) (by kernel_rfl) rfl fun M0 w0=>?_;simp only [Tryd.ntmps3,Tryd.results3,b5_];repeat' first|(with_reducible first|apply a9_|apply a3_|apply b4_|apply c5_|apply b0_|apply a1_|refine a2_ [] ?_)|((with_reducible refine a7_ ?_ ?_);(focus (go_simp;done)))|((with_reducible refine a6_ ?_ ?_);(focus (go_simp;done)))|((with_reducible refine a0_ fun Y Z=>?_);go_simp;(first|(with_reducible refine ⟨_,ha,?_⟩)|(refine ⟨_,gR,?_⟩)|skip);refine Z _ ?_;clear Z Y)
  go_simp
 obtain ⟨hF,h20,hcar,herr⟩:=hb rfl;obtain ⟨h8,hnm⟩:=c6c hF;obtain ⟨e1,e2,e3,e4⟩:=b5m herr;have hr:=(a2g e1).1;have g1:=b2s r (by omega);have g2:=c0o l (by omega);have hsm:SmallL r l:=⟨by omega,hnm,fun x hx=>by have:=hcar x hx;omega⟩
 have g3:=c8l r l hsm;rw [if_pos herr,herr] at g3;have g4:=b4r r l hsm;have hrep:=d1t (l:=l) e1;rw [d1y herr] at hrep;rw [hrep] at g4;simp only at g4;obtain ⟨i1,i2⟩:=c9i hr e4;have hck:n4_ r (goP r 0 l (st0 r)).1=0:=b6k.2 ⟨i1,i2⟩;have hck2:ckE r (goP r 0 l (st0 r)).1=0:=by
  unfold ckE;rw [if_neg (by simp [e1])];exact hck
 have hsS:SmallS (goP r 0 l (st0 r)).1:=i1.small hr;have g5:=b1a r _ hr (by omega) hsS;rw [hck] at g5;have g6:=d1l _ hsS;have GN:=Lib.hid fun (i:Nat) (hir:i < r.ranks.length)=>c5h hr i1 (by omega) hnm hsS hck2 hir;have hlen:=b1j l 0;have HS:Hid (∀ p,p < (f2_ 0 l).length→∃ ca na:Nat,(d2_ (f2_ 0 l) p).came=ca∧ca < l.length∧(e6_ l ca).rank=na∧na < r.ranks.length∧-1≤(d2_ (f2_ 0 l) p).went∧(d2_ (f2_ 0 l) p).went < (l.length:Int)):=Lib.hid fun p hp=>by
  obtain ⟨q1,q2,q3,q4⟩:=c9r e4 hp;obtain ⟨ca,hca⟩ : ∃ ca:Nat,(d2_ (f2_ 0 l) p).came=ca:=⟨(d2_ (f2_ 0 l) p).came.toNat,by omega⟩
  have hcl:ca < l.length:=by omega
  have hev:evE r (e6_ l ca)=0:=by
   rw [o7_ hcl];exact b4m l 0 (st0 r) e4 _ (List.getElem_mem hcl)
  have hrk:=b6a hev;exact ⟨ca,(e6_ l ca).rank.toNat,hca,hcl,by omega,by omega,q3,q4⟩
 have HP:Hid ((∀ k,k < l.length→kd5 l k=false)→∀ p p' n:Nat,p < p'→p' < (f2_ 0 l).length→n < r.ranks.length→a7j l (d2_ (f2_ 0 l) p)=n→a7j l (d2_ (f2_ 0 l) p')=n→(rat r.ranks n).feeder = -1→a5w (c2b r n) 0 r.ranks.length=false →
   (d2_ (f2_ 0 l) p).decl≤0→(d2_ (f2_ 0 l) p').decl≤0→0≤(d2_ (f2_ 0 l) p').went→(e6_ l (d2_ (f2_ 0 l) p').went.toNat).kind=1→0≤(d2_ (f2_ 0 l) p).went∧(d2_ (f2_ 0 l) p).went < (d2_ (f2_ 0 l) p').went):=Lib.hid fun h5 p p' n hlt hp' hn h1 h2 hf hfd d1 d2 hw hk=>by
  refine c5g hr e4 (fun x hx=>?_) hlt hp' hn h1 h2 hf (fun k hk he=>?_) d1 d2 hw hk
  ·obtain ⟨k,hk,rfl⟩:=List.getElem_of_mem hx;have:=h5 k hk;rw [kd5,decide_eq_false_iff_not,o7_ hk] at this;exact this
  ·rw [m7_ hk (show c2b r n k=true from decide_eq_true he)] at hfd;cases hfd
 have GD:=Lib.hid fun n:Nat=>c9s r n (by omega);clear hb hF hcar herr hnm e1 e2 e3 e4 hr hsm hrep i1 i2 hck hck2 hsS;generalize f2_ 0 l=X at *;generalize (goP r 0 l (st0 r)).1=s at *;have hw1:IntKind.i64.wrap ((l.length:Int) - 1)=(l.length:Int) - 1:=h3_ (by omega) (by omega);have hxl:¬(l.length:Int) < (X.length:Int):=by omega
 refine c0_ Tryd.func3 rfl (by kernel_rfl) (by kernel_rfl) rfl fun M0 w0=>?_;simp only [Tryd.ntmps3,Tryd.results3,b5_];repeat' first|(with_reducible first|apply a9_|apply a3_|apply b0_|apply a8_|apply a1_|refine a2_ [] ?_)|((with_reducible refine a6_ ?_ ?_);(focus (go_simp;done)))|((with_reducible refine a0_ fun Y Z=>?_);go_simp;(first|(with_reducible refine ⟨_,ha,?_⟩)|(refine ⟨_,gR,?_⟩)|skip);refine Z _ ?_;clear Z Y)
 apply y4_ [1,2] (fun k=>[(5,I k)]) (fun k=>([] : Hp)) (kd5 l) (l.length)
 ·go_simp<;>exact rfl
 ·go_simp
 ·intro k hk HB HQ K hK;obtain ⟨w1,w2,w3,w4,w5,w6⟩:=ixs (m:=k) (by omega);have hp:=HQ.out;rw [kd5,decide_eq_false_iff_not] at hp;clear ha gR g1 g2 g3 g4 g5 g6;repeat' first|(with_reducible first|apply a9_|apply a3_|apply b0_|apply a8_|apply b1_|apply a1_|refine a2_ [] ?_)|((with_reducible refine a7_ ?_ ?_);(focus (go_simp;done)))|((with_reducible refine a6_ ?_ ?_);(focus (go_simp;done)))|((with_reducible refine a0_ fun Y Z=>?_);go_simp;refine Z _ ?_;clear Z Y)
  refine hK _ ?_;go_simp
 ·intro k hk HB HQ K;have hp:=HQ.out;rw [kd5,decide_eq_true_eq] at hp;clear ha gR g1 g2 g3 g4 g5 g6;repeat' first|(with_reducible first|apply a9_|apply a3_|apply b4_|apply c5_|apply b0_|apply a8_|apply c2_|apply a1_|refine a2_ [] ?_)|((with_reducible refine a7_ ?_ ?_);(focus (go_simp;done)))|((with_reducible refine a0_ fun Y Z=>?_);go_simp;refine Z _ ?_;clear Z Y)
  go_simp
 ·intro HB K;have HL:=Lib.hid (HP.out HB.out);clear HP;repeat' first|(with_reducible first|apply a9_|apply a3_|apply b8_|apply b0_|apply d4_|apply a8_|apply b7_|apply a1_|refine a2_ [] ?_)|((with_reducible refine a6_ ?_ ?_);(focus (go_simp;done)))|((with_reducible refine a0_ fun Y Z=>?_);go_simp;(first|(refine ⟨_,g1,?_⟩)|(refine ⟨_,g2,?_⟩)|(refine ⟨_,g3,?_⟩)|skip);refine Z _ ?_;clear Z Y)
  apply y4_ [1,2,6] (fun k=>[(8,I k)]) (fun k=>([] : Hp)) (fun _=>false) (X.length)
  ·go_simp<;>exact rfl
  ·go_simp
  ·intro k hk HB2 HQ K2 hK;obtain ⟨w1,w2,w3,w4,w5,w6⟩:=ixs (m:=k) (by omega);obtain ⟨ca,na,q1,q2,q3,q4,q5,q6⟩:=HS.out k hk;have b1:=o5_ (d2_ X k).came 0 ((l.length:Int) - 1);have b2:=o5_ (d2_ X k).went (-1) ((l.length:Int) - 1);rw [m0_.2 (by omega)] at b1 b2;clear ha gR g1 g2 g3 g4 g5 g6 q1 q3;repeat' first|(with_reducible first|apply a9_|apply a3_|apply b0_|apply a8_|apply b1_|apply a1_|refine a2_ [] ?_)|((with_reducible refine a7_ ?_ ?_);(focus (go_simp;done)))|((with_reducible refine a6_ ?_ ?_);(focus (go_simp;done)))|((with_reducible refine a0_ fun Y Z=>?_);go_simp;(first|(refine ⟨_,b1,?_⟩)|(refine ⟨_,b2,?_⟩)|skip);refine Z _ ?_;clear Z Y)
   refine hK _ ?_;go_simp
  ·intro k hk HB2 HQ K2;exact absurd HQ.out (by simp)
  ·intro HB2 K2;repeat' first|(with_reducible first|apply a9_|apply a3_|apply b8_|apply d4_|apply a8_|apply b7_|apply a1_|refine a2_ [] ?_)|((with_reducible refine a6_ ?_ ?_);(focus (go_simp;done)))|((with_reducible refine a0_ fun Y Z=>?_);go_simp;refine Z _ ?_;clear Z Y)
   apply b3d [1,2,6] (fun k=>[(9,I k)]) (fun k=>([] : Hp))  (X.length)
   ·go_simp<;>exact rfl
   ·go_simp
   ·intro i hi K3 hK;obtain ⟨w1,w2,w3,w4,w5,w6⟩:=ixs (m:=i) (by omega);obtain ⟨ca,na,q1,q2,q3,q4,q5,q6⟩:=HS.out i hi;clear ha gR g1 g2 g3 g4 g5 g6;repeat' first|(with_reducible first|apply a9_|apply a3_|apply b0_|apply a8_|apply a1_|refine a2_ [] ?_)|((with_reducible refine a7_ ?_ ?_);(focus (go_simp;done)))|((with_reducible refine a0_ fun Y Z=>?_);go_simp;refine Z _ ?_;clear Z Y)
    apply b3d [1,2,6,9] (fun k=>[(10,I ((i+1+k:Nat) : Int))]) (fun k=>([] : Hp))  (X.length - (i+1))
    ·go_simp<;>exact rfl
    ·go_simp
    ·intro k hk K4 hK4;obtain ⟨j,hj⟩ : ∃ j,i+1+k=j:=⟨_,rfl⟩
     have hj1:i+1+(k+1)=j+1:=by omega
     rw [hj1] at hK4;rw [hj];have hjX:j < X.length:=by omega
     have hij:i < j:=by omega
     obtain ⟨x1,x2,x3,x4,x5,x6⟩:=ixs (m:=j) (by omega);obtain ⟨cb,nb,p1,p2,p3,p4,p5,p6⟩:=HS.out j hjX;have hL:=HL.out i j na hij hjX q4;unfold a7j at hL;rw [q1,p1,Int.toNat_natCast,Int.toNat_natCast,q3,p3] at hL;have HL2:=Lib.hid hL;have gD:=GD.out na;clear hL hj hj1 hk hK;have fin:∀ (T:Prop),T→T:=fun _ h=>h;repeat' first|(with_reducible first|apply a9_|apply a3_|apply b0_|apply a8_|apply a1_|refine a2_ [] ?_)|((with_reducible refine a7_ ?_ ?_);(focus (go_simp;done)))|((with_reducible refine a0_ fun Y Z=>?_);go_simp;refine Z _ ?_;clear Z Y)
     refine i1_ 11 [] [⟨8,11,[.string ⟨#[]⟩,.int .i64 0,.int .i64 0,.int .i64 0],some 10,Sy.av (d2_ X i)⟩,⟨9,12,[.string ⟨#[]⟩,.int .i64 0,.int .i64 0,.int .i64 0],none,[]⟩] (by kernel_rfl) (by kernel_rfl) (by kernel_rfl) (by go_simp) (by go_simp) ?_;simp only [List.take,List.drop];repeat (first|(refine d0_ rfl ?_)|((with_reducible refine d1_ rfl fun Y Z=>?_);go_simp;refine Z _ (by go_simp) ?_;clear Z Y)|(with_reducible apply e8_))
     refine ⟨by go_simp,?_⟩;simp only [j6_,k5_,Slot.end_,List.cons_append,List.nil_append];by_cases hrk:na=nb
     rotate_left
     ·have hrk2:¬(na:Int)=(nb:Int):=by omega
      repeat' first|(with_reducible first|apply a9_|apply a3_|apply b8_|apply d4_|apply b7_|apply a1_|refine a2_ [] ?_|apply a5_)|((with_reducible refine a7_ ?_ ?_);(focus (go_simp;done)))|((with_reducible first|refine a0_ fun Y Z=>?_|refine a4_ fun Y Z=>?_);go_simp;refine Z _ ?_;clear Z Y)|((refine b6_ 39 39 [] rfl (by kernel_rfl) (by kernel_rfl) ?_);simp only [List.take,List.drop])
      refine hK4 _ ?_;go_simp
     subst hrk;by_cases hf:(rat r.ranks na).feeder = -1
     rotate_left
     ·repeat' first|(with_reducible first|apply a9_|apply a3_|apply b8_|apply d4_|apply b7_|apply a1_|refine a2_ [] ?_|apply a5_)|((with_reducible refine a7_ ?_ ?_);(focus (go_simp;done)))|((with_reducible first|refine a0_ fun Y Z=>?_|refine a4_ fun Y Z=>?_);go_simp;refine Z _ ?_;clear Z Y)|((refine b6_ 39 39 [] rfl (by kernel_rfl) (by kernel_rfl) ?_);simp only [List.take,List.drop])
      refine hK4 _ ?_;go_simp
     cases hfd:a5w (c2b r na) 0 r.ranks.length;rotate_left
     ·rw [hfd] at gD;clear hfd;repeat' first|(with_reducible first|apply a9_|apply a3_|apply b8_|apply d4_|apply b7_|apply a1_|refine a2_ [] ?_|apply a5_)|((with_reducible refine a7_ ?_ ?_);(focus (go_simp;done)))|((with_reducible first|refine a0_ fun Y Z=>?_|refine a4_ fun Y Z=>?_);go_simp;(first|(refine ⟨_,gD,?_⟩)|skip);refine Z _ ?_;clear Z Y)|((refine b6_ 39 39 [] rfl (by kernel_rfl) (by kernel_rfl) ?_);simp only [List.take,List.drop])
      refine hK4 _ ?_;go_simp
     have hL3:=HL2.out rfl rfl hf hfd;have HL3:=Lib.hid hL3;rw [hfd] at gD;clear hfd hL3;by_cases d1:0 < (d2_ X i).decl
     ·repeat' first|(with_reducible first|apply a9_|apply a3_|apply b8_|apply d4_|apply b7_|apply a1_|refine a2_ [] ?_|apply a5_)|((with_reducible refine a7_ ?_ ?_);(focus (go_simp;done)))|((with_reducible first|refine a0_ fun Y Z=>?_|refine a4_ fun Y Z=>?_);go_simp;(first|(refine ⟨_,gD,?_⟩)|skip);refine Z _ ?_;clear Z Y)|((refine b6_ 39 39 [] rfl (by kernel_rfl) (by kernel_rfl) ?_);simp only [List.take,List.drop])
      refine hK4 _ ?_;go_simp
     by_cases d2:0 < (d2_ X j).decl
     ·repeat' first|(with_reducible first|apply a9_|apply a3_|apply b8_|apply d4_|apply b7_|apply a1_|refine a2_ [] ?_|apply a5_)|((with_reducible refine a7_ ?_ ?_);(focus (go_simp;done)))|((with_reducible first|refine a0_ fun Y Z=>?_|refine a4_ fun Y Z=>?_);go_simp;(first|(refine ⟨_,gD,?_⟩)|skip);refine Z _ ?_;clear Z Y)|((refine b6_ 39 39 [] rfl (by kernel_rfl) (by kernel_rfl) ?_);simp only [List.take,List.drop])
      refine hK4 _ ?_;go_simp
     by_cases hwb:(d2_ X j).went < 0
     ·repeat' first|(with_reducible first|apply a9_|apply a3_|apply b8_|apply d4_|apply b7_|apply a1_|refine a2_ [] ?_|apply a5_)|((with_reducible refine a7_ ?_ ?_);(focus (go_simp;done)))|((with_reducible first|refine a0_ fun Y Z=>?_|refine a4_ fun Y Z=>?_);go_simp;(first|(refine ⟨_,gD,?_⟩)|skip);refine Z _ ?_;clear Z Y)|((refine b6_ 39 39 [] rfl (by kernel_rfl) (by kernel_rfl) ?_);simp only [List.take,List.drop])
      refine hK4 _ ?_;go_simp
     obtain ⟨wb,hwe⟩ : ∃ wb:Nat,(d2_ X j).went=wb:=⟨(d2_ X j).went.toNat,by omega⟩
     have hwl:wb < l.length:=by omega
     by_cases hk1:(e6_ l wb).kind=1
     rotate_left
     ·clear hwb;repeat' first|(with_reducible first|apply a9_|apply a3_|apply b8_|apply d4_|apply b7_|apply a1_|refine a2_ [] ?_|apply a5_)|((with_reducible refine a7_ ?_ ?_);(focus (go_simp;done)))|((with_reducible first|refine a0_ fun Y Z=>?_|refine a4_ fun Y Z=>?_);go_simp;(first|(refine ⟨_,gD,?_⟩)|skip);refine Z _ ?_;clear Z Y)|((refine b6_ 39 39 [] rfl (by kernel_rfl) (by kernel_rfl) ?_);simp only [List.take,List.drop])
      refine hK4 _ ?_;go_simp
     have hfin:=HL3.out (by omega) (by omega) (by omega) (by rw [hwe];exact hk1);have f1:¬(d2_ X i).went < 0:=by omega
     have f2:¬(wb:Int)≤(d2_ X i).went:=by omega
     clear hfin hwb;repeat' first|(with_reducible first|apply a9_|apply a3_|apply b0_|apply b1_|apply a1_|refine a2_ [] ?_|apply a5_)|((with_reducible refine a6_ ?_ ?_);(focus (go_simp;done)))|((with_reducible first|refine a0_ fun Y Z=>?_|refine a4_ fun Y Z=>?_);go_simp;(first|(refine ⟨_,gD,?_⟩)|skip);refine Z _ ?_;clear Z Y)|((refine b6_ 39 39 [] rfl (by kernel_rfl) (by kernel_rfl) ?_);simp only [List.take,List.drop])
     refine hK4 _ ?_;go_simp
    ·intro K4;have e:i+1+(X.length - (i+1))=X.length:=by omega
     rw [e];obtain ⟨x1,x2,x3,x4,x5,x6⟩:=ixs (m:=X.length) (by omega);repeat' first|(with_reducible first|apply a9_|apply a3_|apply b8_|apply d4_|apply b1_|apply b7_|apply a1_|refine a2_ [] ?_)|((with_reducible refine a6_ ?_ ?_);(focus (go_simp;done)))|((with_reducible refine a0_ fun Y Z=>?_);go_simp;refine Z _ ?_;clear Z Y)
     refine hK _ ?_;go_simp
   ·intro K3;repeat' first|(with_reducible first|apply a9_|apply a3_|apply b8_|apply b0_|apply d4_|apply a8_|apply b7_|apply a1_|refine a2_ [] ?_)|((with_reducible refine a6_ ?_ ?_);(focus (go_simp;done)))|((with_reducible refine a0_ fun Y Z=>?_);go_simp;(first|(refine ⟨_,g1,?_⟩)|(refine ⟨_,g2,?_⟩)|(refine ⟨_,g4,?_⟩)|(refine ⟨_,g5,?_⟩)|skip);refine Z _ ?_;clear Z Y)
    apply b3d [2,14] (fun k=>[(17,I k)]) (fun k=>([some (.box [g8_ s.q,.sl 3 (s.tk.map Tk.av),I s.time])] : Hp))  (r.ranks.length)
    ·go_simp<;>exact rfl
    ·go_simp
    ·intro i hi K4 hK;obtain ⟨w1,w2,w3,w4,w5,w6⟩:=ixs (m:=i) (by omega);have hn:=GN.out i hi;clear ha gR g2 g3 g4 g5;rcases hn with ⟨c,E,n1,n2,n3⟩|⟨c,U,n1,n2⟩|⟨c,n1,n2⟩
     ·simp only [evA] at n2;repeat' first|(with_reducible first|apply a9_|apply a3_|apply b0_|apply a8_|apply a1_|refine a2_ [] ?_)|((with_reducible refine a7_ ?_ ?_);(focus (go_simp;done)))|((with_reducible refine a0_ fun Y Z=>?_);go_simp;refine Z _ ?_;clear Z Y)
      refine b6_ 11 10 [] rfl (by kernel_rfl) (by kernel_rfl) ?_;simp only [List.take,List.drop];repeat' first|(with_reducible first|apply a9_|apply a3_|apply a1_|apply a5_)|((with_reducible first|refine a0_ fun Y Z=>?_|refine a4_ fun Y Z=>?_);go_simp;(first|(refine ⟨_,g1,?_⟩)|(refine ⟨_,g6,?_⟩)|(refine ⟨_,n1,?_⟩)|skip);refine Z _ ?_;clear Z Y)
      refine b0x 15 [] (fun i=>i == 13 || i == 14) (by kernel_rfl) (by kernel_rfl) (by kernel_rfl) (by go_simp) (by go_simp) ?_;simp only [List.take,List.drop];repeat ((with_reducible refine k2_ rfl fun Y Z=>?_);go_simp;(first|(refine ⟨_,g1,?_⟩)|(refine ⟨_,g6,?_⟩)|(refine ⟨_,n2,?_⟩)|skip);refine Z _ (by go_simp) ?_;clear Z Y)
      refine h6_ [some (.box [f0_,f0_,I 0])] none (.ref 1 0) rfl ⟨rfl,fun _=>rfl,fun _ h=>by cases h⟩ ?_ ?_
      ·intro s2 hs2;go_simp
      refine h6_ [some (.box [f0_,f0_,I 0])] none .any rfl ⟨rfl,fun _=>rfl,fun _ h=>by cases h⟩ ?_ ?_
      ·intro s2 hs2;have q1:lkp s2 20 = .ref 1 0:=(hs2 20 (by simp [Op.operands]) (by go_simp)).trans (by go_simp);have q2:lkp s2 225 = .agg [f0_,f0_,I 0]:=(hs2 225 (by simp [Op.operands]) (by go_simp)).trans (by go_simp);clear hs2;go_simp
      repeat (first|(with_reducible first|apply a9_|apply a3_|apply b0_|apply b1_|apply a1_|refine a2_ [] ?_)|((with_reducible refine a6_ ?_ ?_);(focus (go_simp;done)))|((with_reducible refine a0_ fun Y Z=>?_);go_simp;refine Z _ ?_;clear Z Y)|((with_reducible refine a0a ?_);simp only [List.cons_append,List.nil_append,a2q]))
      skip
      refine hK _ ?_;go_simp
     ·simp only [evA] at n2;repeat' first|(with_reducible first|apply a9_|apply a3_|apply b0_|apply a8_|apply a1_|refine a2_ [] ?_)|((with_reducible refine a7_ ?_ ?_);(focus (go_simp;done)))|((with_reducible refine a0_ fun Y Z=>?_);go_simp;refine Z _ ?_;clear Z Y)
      refine b6_ 11 10 [] rfl (by kernel_rfl) (by kernel_rfl) ?_;simp only [List.take,List.drop];repeat' first|(with_reducible first|apply a9_|apply a3_|apply a1_|apply a5_)|((with_reducible first|refine a0_ fun Y Z=>?_|refine a4_ fun Y Z=>?_);go_simp;(first|(refine ⟨_,g1,?_⟩)|(refine ⟨_,g6,?_⟩)|(refine ⟨_,n1,?_⟩)|skip);refine Z _ ?_;clear Z Y)
      refine b0x 15 [] (fun i=>i == 13 || i == 14) (by kernel_rfl) (by kernel_rfl) (by kernel_rfl) (by go_simp) (by go_simp) ?_;simp only [List.take,List.drop];repeat ((with_reducible refine k2_ rfl fun Y Z=>?_);go_simp;(first|(refine ⟨_,g1,?_⟩)|(refine ⟨_,g6,?_⟩)|(refine ⟨_,n2,?_⟩)|skip);refine Z _ (by go_simp) ?_;clear Z Y)
      refine h6_ [some (.box [f0_,f0_,I 0])] none (.ref 1 0) rfl ⟨rfl,fun _=>rfl,fun _ h=>by cases h⟩ ?_ ?_
      ·intro s2 hs2;go_simp
      refine h6_ [some (.box [g8_ U.q,.sl 3 (U.tk.map Tk.av),I U.time])] none .any rfl ⟨rfl,fun _=>rfl,fun _ h=>by cases h⟩ ?_ ?_
      ·intro s2 hs2;have q1:lkp s2 20 = .ref 1 0:=(hs2 20 (by simp [Op.operands]) (by go_simp)).trans (by go_simp);have q2:lkp s2 225=c9_ U:=(hs2 225 (by simp [Op.operands]) (by go_simp)).trans (by go_simp);clear hs2;go_simp
      repeat (first|(with_reducible first|apply a9_|apply a3_|apply b0_|apply b1_|apply a1_|refine a2_ [] ?_)|((with_reducible refine a6_ ?_ ?_);(focus (go_simp;done)))|((with_reducible refine a0_ fun Y Z=>?_);go_simp;refine Z _ ?_;clear Z Y)|((with_reducible refine a0a ?_);simp only [List.cons_append,List.nil_append,a2q]))
      skip
      refine hK _ ?_;go_simp
     ·simp only [evA] at n2;repeat' first|(with_reducible first|apply a9_|apply a3_|apply b0_|apply a8_|apply a1_|refine a2_ [] ?_)|((with_reducible refine a7_ ?_ ?_);(focus (go_simp;done)))|((with_reducible refine a0_ fun Y Z=>?_);go_simp;refine Z _ ?_;clear Z Y)
      refine b6_ 11 10 [] rfl (by kernel_rfl) (by kernel_rfl) ?_;simp only [List.take,List.drop];repeat' first|(with_reducible first|apply a9_|apply a3_|apply a1_|apply a5_)|((with_reducible first|refine a0_ fun Y Z=>?_|refine a4_ fun Y Z=>?_);go_simp;(first|(refine ⟨_,g1,?_⟩)|(refine ⟨_,g6,?_⟩)|(refine ⟨_,n1,?_⟩)|skip);refine Z _ ?_;clear Z Y)
      refine b0x 15 [] (fun i=>i == 13 || i == 14) (by kernel_rfl) (by kernel_rfl) (by kernel_rfl) (by go_simp) (by go_simp) ?_;simp only [List.take,List.drop];repeat ((with_reducible refine k2_ rfl fun Y Z=>?_);go_simp;(first|(refine ⟨_,g1,?_⟩)|(refine ⟨_,g6,?_⟩)|(refine ⟨_,n2,?_⟩)|skip);refine Z _ (by go_simp) ?_;clear Z Y)
      refine h6_ [some (.box [f0_,f0_,I 0])] none (.ref 1 0) rfl ⟨rfl,fun _=>rfl,fun _ h=>by cases h⟩ ?_ ?_
      ·intro s2 hs2;go_simp
      refine h6_ [some (.box [f0_,f0_,I 0])] none .any rfl ⟨rfl,fun _=>rfl,fun _ h=>by cases h⟩ ?_ ?_
      ·intro s2 hs2;have q1:lkp s2 20 = .ref 1 0:=(hs2 20 (by simp [Op.operands]) (by go_simp)).trans (by go_simp);have q2:lkp s2 225 = .agg [f0_,f0_,I 0]:=(hs2 225 (by simp [Op.operands]) (by go_simp)).trans (by go_simp);clear hs2;go_simp
      repeat (first|(with_reducible first|apply a9_|apply a3_|apply b0_|apply b1_|apply a1_|refine a2_ [] ?_)|((with_reducible refine a6_ ?_ ?_);(focus (go_simp;done)))|((with_reducible refine a0_ fun Y Z=>?_);go_simp;refine Z _ ?_;clear Z Y)|((with_reducible refine a0a ?_);simp only [List.cons_append,List.nil_append,a2q]))
      skip
      refine hK _ ?_;go_simp
    ·intro K4;repeat' first|(with_reducible first|apply a9_|apply a3_|apply b8_|apply c5_|apply d4_|apply b7_|apply a1_|refine a2_ [] ?_)|((with_reducible refine a6_ ?_ ?_);(focus (go_simp;done)))|((with_reducible refine a0_ fun Y Z=>?_);go_simp;refine Z _ ?_;clear Z Y)
     go_simp
end Go.Proofs.YtoibondihdhnoaaDoor
