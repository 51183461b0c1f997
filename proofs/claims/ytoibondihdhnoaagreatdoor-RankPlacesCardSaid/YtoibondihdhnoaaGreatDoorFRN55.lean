/- Texts in one: Walks: where a car stands, which cars stand ahead of it. -/
import Derived.Test.YtoibondihdhnoaaGreatDoorFRN54
import Derived.Test.YtoibondihdhnoaaGreatDoorFRN8
import Derived.Test.YtoibondihdhnoaaGreatDoorFRN30
import Derived.Test.YtoibondihdhnoaaGreatDoorFRN45
import Derived.Test.YtoibondihdhnoaaGreatDoorFRN13
import Derived.Test.YtoibondihdhnoaaGreatDoorFRN50
namespace Go.Proofs.YtoibondihdhnoaaGreatDoor
open Go.RowKit
set_option maxRecDepth 100000
set_option maxHeartbeats 4000000
theorem c5k (r:Ru) (s:St) (hn:r.ranks.length≤1000000) (hnm:∀ k,k < r.ranks.length→(rat r.ranks k).name.size≤1000) (hs:SmallS s) (h:ckE r s=0) (hq:s.q.length=r.ranks.length) : VC Tryz.prog 127 [c3_ r,e3_ s] (.tup [a4z r s [],I 0]):=c3z (d0q r s hn hnm hs h hq)
def whE (r:Ru) (s:St) (c:ByteArray) : Int:=fst [ckE r s,unl (c5_ c) 4]
theorem c4a (r:Ru) (s:St) (c:ByteArray) (hn:r.ranks.length≤1000000) (hnm:∀ k,k < r.ranks.length→(rat r.ranks k).name.size≤1000) (hs:SmallS s) (hc:c.size≤1000) (hck:ckE r s≠0) : VC Tryz.prog 134 [c3_ r,e3_ s,S c] (.tup [.lit (.pointer none),.agg [I 0,I 0],I (whE r s c)]):=by
 have g1:=c8f r s hn hnm hs hck;have g2:=m6_ c (by omega);have g3:=b0_ (c5_ c) 4;have g4:VC Tryz.prog 88 [.sl 1 ([ckE r s,unl (c5_ c) 4].map p9_)] (I (whE r s c)):=c6_ _ rfl rfl;have e:whE r s c=ckE r s:=by
  unfold whE;simp [fst,hck]
 rw [e] at g4 ⊢;clear hn hnm hs hc e;generalize ckE r s=C at *;generalize c5_ c=N at *;generalize unl N 4=U at *;refine c2_ Tryz.func134 rfl (by kernel_rfl) (by kernel_rfl) rfl fun M0 w0=>?_;simp only [Tryz.ntmps134,Tryz.results134,b4_];repeat' first|(with_reducible first|apply a8_|apply a3_|apply b5_|apply c4_|apply a1_|refine a2_ [] ?_)|((with_reducible refine a7_ ?_ ?_);(focus (go_simp;done)))|((with_reducible refine a0_ fun X Y=>?_);go_simp;(first|(refine ⟨_,g1,?_⟩)|(refine ⟨_,g2,?_⟩)|(refine ⟨_,g3,?_⟩)|(refine ⟨_,g4,?_⟩)|skip);refine Y _ ?_;clear Y X)
 go_simp
theorem c4b (r:Ru) (s:St) (c:ByteArray) (hn:r.ranks.length≤1000000) (hnm:∀ k,k < r.ranks.length→(rat r.ranks k).name.size≤1000) (hs:SmallS s) (hc:c.size≤1000) (hck:ckE r s=0) (hq:s.q.length=r.ranks.length) (hnc:c5_ c=false) : VC Tryz.prog 134 [c3_ r,e3_ s,S c] (.tup [.lit (.pointer none),.agg [I 0,I 0],I 4]):=by
 have g1:=c5k r s hn hnm hs hck hq;have g2:=m6_ c (by omega);have g3:=b0_ (c5_ c) 4;have g4:VC Tryz.prog 88 [.sl 1 ([0,unl (c5_ c) 4].map p9_)] (I 4):=by
  rw [hnc];exact c6_ _ rfl rfl
 rw [hnc] at g2 g3 g4;clear hn hnm hs hc hnc hck hq;generalize unl false 4=U at *;refine c2_ Tryz.func134 rfl (by kernel_rfl) (by kernel_rfl) rfl fun M0 w0=>?_;simp only [Tryz.ntmps134,Tryz.results134,b4_];repeat' first|(with_reducible first|apply a8_|apply a3_|apply b5_|apply c4_|apply a1_|refine a2_ [] ?_)|((with_reducible refine a7_ ?_ ?_);(focus (go_simp;done)))|((with_reducible refine a0_ fun X Y=>?_);go_simp;(first|(refine ⟨_,g1,?_⟩)|(refine ⟨_,g2,?_⟩)|(refine ⟨_,g3,?_⟩)|(refine ⟨_,g4,?_⟩)|skip);refine Y _ ?_;clear Y X)
 go_simp
theorem c8g (r:Ru) (s:St) (c:ByteArray) (hn:r.ranks.length≤1000000) (hnm:∀ k,k < r.ranks.length→(rat r.ranks k).name.size≤1000) (hs:SmallS s) (hc:c.size≤1000) (hck:ckE r s=0) (hq:s.q.length=r.ranks.length) (hnc:c5_ c=true) :
  VC Tryz.prog 134 [c3_ r,e3_ s,S c] (if 0≤f8_ s.q c then .tup [a4z r s [],.agg [I (f8_ s.q c),I (v1_ s.q c)],I 0] else .tup [a4z r s [],.agg [I 0,I 0],I 6]):=by
 have g1:=c5k r s hn hnm hs hck hq;have g2:=m6_ c (by omega);have hnq:=hs.nq;have g5:=a6c r s [] c (by omega) (fun k hk=>by
  have:=(hs.q1 _ (List.getElem_mem hk)).1;rw [d8_ hk];omega)
 have g4:VC Tryz.prog 88 [.sl 1 ([0,unl (c5_ c) 4].map p9_)] (I 0):=by
  rw [hnc];exact c6_ _ rfl rfl
 have g3:=b0_ (c5_ c) 4;rw [hnc] at g2 g3 g4;clear hn hnm hs hc hnc hck hq;generalize unl true 4=U at *;unfold b2l at g5;by_cases h:0≤f8_ s.q c
 ·rw [if_pos h] at g5 ⊢;have e:v1_ s.q c=a2n (qat s.q (f8_ s.q c).toNat) c:=by
   unfold v1_;rw [if_neg (by omega)]
  rw [e];have g6:VC Tryz.prog 89 [B true,I 6] (I 0):=b0_ true 6;generalize a2n (qat s.q (f8_ s.q c).toNat) c=D at *;generalize f8_ s.q c=K0 at *;clear e h;refine c2_ Tryz.func134 rfl (by kernel_rfl) (by kernel_rfl) rfl fun M0 w0=>?_;simp only [Tryz.ntmps134,Tryz.results134,b4_];repeat' first|(with_reducible first|apply a8_|apply a3_|apply c4_|apply b1_|apply a1_|refine a2_ [] ?_|apply a5_)|((with_reducible refine a6_ ?_ ?_);(focus (go_simp;done)))|((with_reducible first|refine a0_ fun X Y=>?_|refine a4_ fun X Y=>?_);go_simp;(first|(refine ⟨_,g1,?_⟩)|(refine ⟨_,g2,?_⟩)|(refine ⟨_,g3,?_⟩)|(refine ⟨_,g4,?_⟩)|(refine ⟨_,g5,?_⟩)|(refine ⟨_,g6,?_⟩)|skip);refine Y _ ?_;clear Y X)|((refine b2_ 7 5 [] rfl (by kernel_rfl) (by kernel_rfl) ?_);simp only [List.take,List.drop])
  go_simp
 ·rw [if_neg h] at g5 ⊢;have g6:VC Tryz.prog 89 [B false,I 6] (I 6):=b0_ false 6;clear h;refine c2_ Tryz.func134 rfl (by kernel_rfl) (by kernel_rfl) rfl fun M0 w0=>?_;simp only [Tryz.ntmps134,Tryz.results134,b4_];repeat' first|(with_reducible first|apply a8_|apply a3_|apply c4_|apply b1_|apply a1_|refine a2_ [] ?_|apply a5_)|((with_reducible refine a6_ ?_ ?_);(focus (go_simp;done)))|((with_reducible first|refine a0_ fun X Y=>?_|refine a4_ fun X Y=>?_);go_simp;(first|(refine ⟨_,g1,?_⟩)|(refine ⟨_,g2,?_⟩)|(refine ⟨_,g3,?_⟩)|(refine ⟨_,g4,?_⟩)|(refine ⟨_,g5,?_⟩)|(refine ⟨_,g6,?_⟩)|skip);refine Y _ ?_;clear Y X)|((refine b2_ 7 5 [] rfl (by kernel_rfl) (by kernel_rfl) ?_);simp only [List.take,List.drop])
  go_simp
def c1o (r:Ru) (k:Int) (j:Nat) : Bool:=decide ((rat r.ranks j).feeder=k)
def t0_ (r:Ru) (k:Int) : Int:=ixP (c1o r k) 0 r.ranks.length
theorem y3_ (r:Ru) (s:St) (c:ByteArray) {A:AV} {x y e:Int} (_hA:j7_ 5 A=true) (g:VC Tryz.prog 134 [c3_ r,e3_ s,S c] (.tup [A,.agg [I x,I y],I e])) : VC Tryz.prog 75 [c3_ r,e3_ s,S c] (.tup [.agg [I x,I y],I e]):=by
 refine c2_ Tryz.func75 rfl (by kernel_rfl) (by kernel_rfl) rfl fun M0 w0=>?_;simp only [Tryz.ntmps75,Tryz.results75,b4_];repeat' first|(with_reducible first|apply a8_|apply a3_|apply c4_|apply a1_|refine a2_ [] ?_)|((with_reducible refine a0_ fun X Y=>?_);go_simp;(first|(refine ⟨_,g,?_⟩)|skip);refine Y _ ?_;clear Y X)
 go_simp
theorem a7y (r:Ru) (s:St) (c:ByteArray) {A:AV} {x y e:Int} (_hA:j7_ 5 A=true) (he:e≠0) (g:VC Tryz.prog 134 [c3_ r,e3_ s,S c] (.tup [A,.agg [I x,I y],I e])) : VC Tryz.prog 76 [c3_ r,e3_ s,S c] (.tup [.lit (.slice none 0 0),I e]):=by
 refine c2_ Tryz.func76 rfl (by kernel_rfl) (by kernel_rfl) rfl fun M0 w0=>?_;simp only [Tryz.ntmps76,Tryz.results76,b4_];repeat' first|(with_reducible first|apply a8_|apply a3_|apply b5_|apply c4_|apply a1_|refine a2_ [] ?_)|((with_reducible refine a7_ ?_ ?_);(focus (go_simp;done)))|((with_reducible refine a0_ fun X Y=>?_);go_simp;(first|(refine ⟨_,g,?_⟩)|skip);refine Y _ ?_;clear Y X)
 go_simp
theorem c5l (x:Rk) (k:Int) : VC Tryz.prog 138 [.agg [S x.name,I x.places,I x.feeder,B x.called],.vp [I k]] (B (decide (x.feeder=k))):=by
 refine c2_ Tryz.func138 rfl (by kernel_rfl) (by kernel_rfl) rfl fun M0 w0=>?_;simp only [Tryz.ntmps138,Tryz.results138,b4_];repeat' first|(with_reducible first|apply a8_|apply a3_|apply c4_|apply a1_|refine a2_ [] ?_)|((with_reducible refine a0_ fun X Y=>?_);go_simp;refine Y _ ?_;clear Y X)
 go_simp
theorem c4c (r:Ru) (i:Int) (hl:r.ranks.length≤1000000) : VC Tryz.prog 137 [.sl 4 (r.ranks.map Rk.av),.fn (.func 138) [] [.vp [I i]]] (I (t0_ r i)):=by
 obtain ⟨R,hR⟩ : ∃ R,t0_ r i=R:=⟨_,rfl⟩
 rw [hR];unfold t0_ at hR;have HR:=Lib.hid hR;clear hR;generalize hL:r.ranks=l at *;refine c2_ Tryz.func137 rfl (by kernel_rfl) (by kernel_rfl) rfl fun M0 w0=>?_;simp only [Tryz.ntmps137,Tryz.results137,b4_];repeat' first|(with_reducible first|apply a8_|apply a3_|apply a9_|apply a1_|refine a2_ [] ?_)|((with_reducible refine a0_ fun X Y=>?_);go_simp;refine Y _ ?_;clear Y X)
 apply u8_ [0,1,7] (fun k=>[(8,I k)]) (fun k=>([] : Hp)) (c1o r i) (l.length)
 ·go_simp<;>exact rfl
 ·go_simp
 ·intro k hk HB HP K hK;obtain ⟨w1,w2,w3,w4,w5,w6⟩:=ixs (m:=k) (by omega);have g:=c5l (rat l k) i;have hp:=HP.out;unfold c1o at hp;rw [hL] at hp;rw [hp] at g;clear hp;repeat' first|(with_reducible first|apply a8_|apply a3_|apply b1_|apply a9_|apply b3_|apply a1_|refine a2_ [] ?_)|((with_reducible refine a7_ ?_ ?_);(focus (go_simp;done)))|((with_reducible refine a6_ ?_ ?_);(focus (go_simp;done)))|((with_reducible refine a0_ fun X Y=>?_);go_simp;(first|(refine ⟨_,g,?_⟩)|skip);refine Y _ ?_;clear Y X)
  refine hK _ ?_;go_simp
 ·intro k hk HB HP K;have g:=c5l (rat l k) i;have hp:=HP.out;unfold c1o at hp;rw [hL] at hp;rw [hp] at g;clear hp;have e:=HR.out;rw [j3_ hk HB.out HP.out] at e;subst e;repeat' first|(with_reducible first|apply a8_|apply a3_|apply b5_|apply c4_|apply b1_|apply a9_|apply c8_|apply a1_|refine a2_ [] ?_)|((with_reducible refine a7_ ?_ ?_);(focus (go_simp;done)))|((with_reducible refine a0_ fun X Y=>?_);go_simp;(first|(refine ⟨_,g,?_⟩)|skip);refine Y _ ?_;clear Y X)
  go_simp
 ·intro HB K;have e:=HR.out;rw [j8_ HB.out] at e;subst e;repeat (first|(with_reducible first|apply a8_|apply a3_|apply b8_|apply c4_|apply d0_|apply b7_|apply a1_|refine a2_ [] ?_)|((with_reducible refine a6_ ?_ ?_);(focus (go_simp;done)))|((with_reducible refine a0_ fun X Y=>?_);go_simp;refine Y _ ?_;clear Y X))
  go_simp
theorem c0l (r:Ru) (i:Int) (hl:r.ranks.length≤1000000) : VC Tryz.prog 136 [I i,.vp [.sl 4 (r.ranks.map Rk.av),I r.back,I r.ret]] (I (t0_ r i)):=by
 have g:=c4c r i hl;generalize t0_ r i=F at *;refine c2_ Tryz.func136 rfl (by kernel_rfl) (by kernel_rfl) rfl fun M0 w0=>?_;simp only [Tryz.ntmps136,Tryz.results136,b4_];repeat' first|(with_reducible first|apply a8_|apply a3_|apply c4_|apply a1_|refine a2_ [] ?_)|((with_reducible refine a0_ fun X Y=>?_);go_simp;(first|(refine ⟨_,g,?_⟩)|skip);refine Y _ ?_;clear Y X)
 go_simp
theorem d0r (r:Ru) (i:Int) (hl:r.ranks.length≤1000000) : VC Tryz.prog 139 [c3_ r,I i] (I (t0_ r i)):=by
 obtain ⟨R,hR⟩ : ∃ R,t0_ r i=R:=⟨_,rfl⟩
 rw [hR];unfold t0_ at hR;have HR:=Lib.hid hR;clear hR;refine c2_ Tryz.func139 rfl (by kernel_rfl) (by kernel_rfl) rfl fun M0 w0=>?_;simp only [Tryz.ntmps139,Tryz.results139,b4_];repeat' first|(with_reducible first|apply a8_|apply a3_|apply a9_|apply a1_|refine a2_ [] ?_)|((with_reducible refine a0_ fun X Y=>?_);go_simp;refine Y _ ?_;clear Y X)
 apply u8_ [1,2] (fun k=>[(5,I k)]) (fun k=>([] : Hp)) (c1o r i) (r.ranks.length)
 ·go_simp<;>exact rfl
 ·go_simp
 ·intro k hk HB HP K hK;obtain ⟨w1,w2,w3,w4,w5,w6⟩:=ixs (m:=k) (by omega);have hp:=HP.out;unfold c1o at hp;rw [decide_eq_false_iff_not] at hp;repeat' first|(with_reducible first|apply a8_|apply a3_|apply b1_|apply a9_|apply b3_|apply a1_|refine a2_ [] ?_)|((with_reducible refine a7_ ?_ ?_);(focus (go_simp;done)))|((with_reducible refine a6_ ?_ ?_);(focus (go_simp;done)))|((with_reducible refine a0_ fun X Y=>?_);go_simp;refine Y _ ?_;clear Y X)
  refine hK _ ?_;go_simp
 ·intro k hk HB HP K;have hp:=HP.out;unfold c1o at hp;rw [decide_eq_true_eq] at hp;have e:=HR.out;rw [j3_ hk HB.out HP.out] at e;subst e;repeat' first|(with_reducible first|apply a8_|apply a3_|apply b5_|apply c4_|apply b1_|apply a9_|apply c8_|apply a1_|refine a2_ [] ?_)|((with_reducible refine a7_ ?_ ?_);(focus (go_simp;done)))|((with_reducible refine a0_ fun X Y=>?_);go_simp;refine Y _ ?_;clear Y X)
  go_simp
 ·intro HB K;have e:=HR.out;rw [j8_ HB.out] at e;subst e;repeat' first|(with_reducible first|apply a8_|apply a3_|apply b8_|apply c4_|apply d0_|apply b7_|apply a1_|refine a2_ [] ?_)|((with_reducible refine a6_ ?_ ?_);(focus (go_simp;done)))|((with_reducible refine a0_ fun X Y=>?_);go_simp;refine Y _ ?_;clear Y X)
  go_simp
theorem d0s (s:St) (c:ByteArray) (hs:SmallS s) : VC Tryz.prog 77 [e3_ s,S c] (.tup [.agg [I (f8_ s.q c),I (v1_ s.q c)],B (decide (0≤f8_ s.q c))]):=by
 have hnq:=hs.nq;have g:=c5i s c (by omega) (fun k hk=>by
  have:=(hs.q1 _ (List.getElem_mem hk)).1;rw [d8_ hk];omega)
 clear hs hnq;generalize f8_ s.q c=A at *;generalize v1_ s.q c=D at *;refine c2_ Tryz.func77 rfl (by kernel_rfl) (by kernel_rfl) rfl fun M0 w0=>?_;simp only [Tryz.ntmps77,Tryz.results77,b4_];repeat' first|(with_reducible first|apply a8_|apply a3_|apply c4_|apply a1_|refine a2_ [] ?_)|((with_reducible refine a0_ fun X Y=>?_);go_simp;(first|(refine ⟨_,g,?_⟩)|skip);refine Y _ ?_;clear Y X)
 go_simp
def kN (r:Ru) (k:Int) : Nat→Int
 | 0=>k
 | i+1=>t0_ r (kN r k i)
def aN (r:Ru) (s:St) (k:Int) (A:List ByteArray) : Nat→List ByteArray
 | 0=>A
 | i+1=>aN r s k A i++qat s.q (kN r k i).toNat
theorem b2d {r:Ru} (hr:RuOK r) {k:Int} (hk0:0≤k) : t0_ r k = -1∨0≤t0_ r k∧t0_ r k < k∧t0_ r k < r.ranks.length:=by
 unfold t0_;rcases m8_ (c1o r k) r.ranks.length with ⟨h,_⟩|⟨j,h1,h2,h3,_⟩
 ·exact .inl h
 ·refine .inr ?_;unfold c1o at h3;rw [decide_eq_true_eq] at h3;rw [h2];have:=(hr.fd j h1 (by omega)).1;omega
theorem a7z (r:Ru) (k:Int) : ∀ i,kN r k (i+1)=kN r (t0_ r k) i
 | 0=>rfl
 | i+1=>by
  have ih:=a7z r k i;rw [kN,ih];rfl
theorem chain {r:Ru} (hr:RuOK r) : ∀ (n:Nat) (k:Int),k < n→∃ m,m≤n∧kN r k m < 0∧∀ i,i < m→0≤kN r k i∧kN r k i≤k
 | 0,k,h=>⟨0,Nat.le_refl _,by simpa [kN] using h,fun i hi=>absurd hi (by omega)⟩
 | n+1,k,h=>by
  by_cases hk:k < 0
  ·exact ⟨0,by omega,hk,fun i hi=>absurd hi (by omega)⟩
  ·have hf:=b2d hr (k:=k) (by omega);obtain ⟨m,h1,h2,h3⟩:=chain hr n (t0_ r k) (by omega);refine ⟨m+1,by omega,by rw [a7z];exact h2,fun i hi=>?_⟩;cases i with
   | zero=>exact ⟨by show 0≤k;omega,Int.le_refl _⟩
   | succ i=>
    have:=h3 i (by omega);rw [a7z];omega
theorem b4g {r:Ru} {s:St} (hs:SmallS s) {k:Int} {A:List ByteArray} (hA:A.length≤300) : ∀ (i:Nat),(∀ j,j < i→0≤kN r k j∧kN r k j < s.q.length)→(aN r s k A i).length≤300*(i+1)
 | 0,_=>by simpa [aN] using hA
 | i+1,h=>by
  have ih:=b4g hs hA i fun j hj=>h j (by omega);obtain ⟨h1,h2⟩:=h i (by omega);have hl:(kN r k i).toNat < s.q.length:=by omega
  have:=(hs.q1 _ (List.getElem_mem hl)).1;rw [aN,List.length_append,d8_ hl];omega
theorem c8h (r:Ru) (s:St) (c:ByteArray) (hn:r.ranks.length≤1000000) (hs:SmallS s) {i0 d m:Nat} (hk:f8_ s.q c=i0) (hd:v1_ s.q c=d) (hkl:i0 < s.q.length) (hdl:d≤(qat s.q i0).length) (hm:m≤10) (hm0:kN r (t0_ r i0) m < 0) (hmi:∀ j,j < m→0≤kN r (t0_ r i0) j∧kN r (t0_ r i0) j < s.q.length) :
  VCo Tryz.prog 79 [c3_ r,e3_ s,S c] 9 1 false ((aN r s (t0_ r i0) ((qat s.q i0).take d) m).map n5_):=by
 have hnq:=hs.nq;have g1:=c5i s c (by omega) (fun k hk=>by
  have:=(hs.q1 _ (List.getElem_mem hk)).1;rw [d8_ hk];omega)
 rw [hk,hd] at g1;have hq1:=(hs.q1 _ (List.getElem_mem hkl)).1;rw [←d8_ hkl] at hq1;have ht:((qat s.q i0).take d).length≤300:=by rw [List.length_take];omega
 have g2:=a4d ((qat s.q i0).take d) (by omega);have g3:=d0r r i0 hn;have GF:=Lib.hid (fun i=>d0r r i hn);have HL:=Lib.hid (fun i (hi:i≤m)=>b4g hs ht i (fun j hj=>hmi j (by omega)) (r:=r) (k:=t0_ r i0));have HQ:=Lib.hid (fun k (hk:k < s.q.length)=>(hs.q1 _ (List.getElem_mem hk)).1);have HM:=Lib.hid hmi;clear hs hk hd hmi ht;generalize t0_ r i0=F0 at *;generalize hA:(qat s.q i0).take d=A at *;have hA2:((qat s.q i0).map n5_).take d=A.map n5_:=by rw [←hA,List.map_take]
 have e0:aN r s F0 A 0=A:=rfl;have e1:kN r F0 0=F0:=rfl;clear hA;refine c0r Tryz.func79 rfl (by kernel_rfl) (by kernel_rfl) rfl Tryz.results79 (by decide) (c3y _) fun M0 w0=>?_;simp only [Tryz.ntmps79,b4_];repeat' first|(with_reducible first|apply a8_|apply a3_|apply a9_|apply a1_|refine a2_ [9,23] ?_)|((with_reducible refine a0_ fun X Y=>?_);go_simp;(first|(refine ⟨_,g1,?_⟩)|(refine ⟨_,_,.inl ⟨_,g2,?_⟩⟩)|(refine ⟨_,g3,?_⟩)|skip);refine Y _ ?_;clear Y X)
 apply b4o [3,4] (fun k=>[(7,I (kN r F0 k)),(9,.osl 0)]) (fun k=>([some (.arr 9 1 false ((aN r s F0 A k).map n5_))] : Hp))  (m)
 ·go_simp<;>exact rfl
 ·go_simp
 ·intro k hk K hK;obtain ⟨h1,h2⟩:=HM.out k hk;have hl:=HL.out k (by omega);have hs1:aN r s F0 A (k+1)=aN r s F0 A k++qat s.q (kN r F0 k).toNat:=rfl;have hs2:kN r F0 (k+1)=t0_ r (kN r F0 k):=rfl;rw [hs1,hs2] at hK;clear hs1 hs2 e0 e1 g1 g2 g3 hm0;obtain ⟨j,hj⟩ : ∃ j:Nat,kN r F0 k=j:=⟨(kN r F0 k).toNat,by omega⟩
  rw [hj] at h1 h2 hK ⊢;rw [Int.toNat_natCast] at hK;have hjl:j < s.q.length:=by omega
  have hq:=HQ.out j hjl;rw [←d8_ hjl] at hq;have hb:(aN r s F0 A k).length+(qat s.q j).length≤1000000000:=by omega
  have gf:=GF.out j;clear hj;generalize aN r s F0 A k=F at *;generalize t0_ r j=F1 at *;repeat' first|(with_reducible first|apply a8_|apply a3_|apply b1_|apply a9_|apply b3_|apply a1_|refine a2_ [] ?_)|((with_reducible refine a7_ ?_ ?_);(focus (go_simp;done)))|((with_reducible refine a0_ fun X Y=>?_);go_simp;(first|(refine ⟨_,gf,?_⟩)|skip);refine Y _ ?_;clear Y X)
  refine hK _ ?_;go_simp
 ·intro K;have hx:¬0≤kN r F0 m:=by omega
  clear e0 e1 g1 g2 g3;repeat' first|(with_reducible first|apply a8_|apply a3_|apply b8_|apply c4_|apply d0_|apply b7_|apply a1_|refine a2_ [] ?_)|((with_reducible refine a6_ ?_ ?_);(focus (go_simp;done)))|((with_reducible refine a0_ fun X Y=>?_);go_simp;refine Y _ ?_;clear Y X)
  exact ⟨0,rfl,rfl⟩
theorem c8i (r:Ru) (s:St) (c:ByteArray) (hn:r.ranks.length≤1000000) (hs:SmallS s) {i0 d m:Nat} (g1:VC Tryz.prog 134 [c3_ r,e3_ s,S c] (.tup [a4z r s [],.agg [I i0,I d],I 0])) (hkl:i0 < s.q.length) (hdl:d≤(qat s.q i0).length) (hm:m≤10) (hm0:kN r (t0_ r i0) m < 0) (hmi:∀ j,j < m→0≤kN r (t0_ r i0) j∧kN r (t0_ r i0) j < s.q.length) :
  VC Tryz.prog 76 [c3_ r,e3_ s,S c] (.tup [r5_ (aN r s (t0_ r i0) ((qat s.q i0).take d) m),I 0]):=by
 have hnq:=hs.nq;have hq1:=(hs.q1 _ (List.getElem_mem hkl)).1;rw [←d8_ hkl] at hq1;have ht:((qat s.q i0).take d).length≤300:=by rw [List.length_take];omega
 have g2:=b2v (((qat s.q i0).take d).map n5_) (fun i x hx=>TxO.map _ x (List.mem_of_getElem? hx)) (by rw [List.length_map];omega);have g3:=c0l r i0 hn;have GF:=Lib.hid (fun i=>c0l r i hn);have HL:=Lib.hid (fun i (hi:i≤m)=>b4g hs ht i (fun j hj=>hmi j (by omega)) (r:=r) (k:=t0_ r i0));have HQ:=Lib.hid (fun k (hk:k < s.q.length)=>(hs.q1 _ (List.getElem_mem hk)).1);have HM:=Lib.hid hmi;clear hs hmi ht;generalize t0_ r i0=F0 at *;generalize hA:(qat s.q i0).take d=A at *;have hA2:((qat s.q i0).map n5_).take d=A.map n5_:=by rw [←hA,List.map_take]
 have e0:aN r s F0 A 0=A:=rfl;have e1:kN r F0 0=F0:=rfl;obtain ⟨i1,hi1⟩ : ∃ i,Tryz.prog.info? 9=some i:=Option.isSome_iff_exists.1 (by kernel_rfl);have HI:=Lib.hid hi1;have ed:decide (A.map n5_=[])=decide (A=[]):=by simp
 rw [ed] at g2;clear hA hi1 ed;refine c2_ Tryz.func76 rfl (by kernel_rfl) (by kernel_rfl) rfl fun M0 w0=>?_;simp only [Tryz.ntmps76,Tryz.results76,b4_];by_cases hAe:A=[]
 ·subst hAe;have hA2':((qat s.q i0).map n5_).take d=[]:=by rw [hA2];rfl
  have hg2:VCo Tryz.prog 135 [.sl 1 []] 9 1 true []:=by simpa using g2
  clear g2 hA2;have g2:=hg2;clear hg2;repeat' first|(with_reducible first|apply a8_|apply a3_|apply b1_|apply a1_|refine a2_ [] ?_)|((with_reducible refine a6_ ?_ ?_);(focus (go_simp;done)))|((with_reducible refine a0_ fun X Y=>?_);go_simp;(first|(refine ⟨_,g1,?_⟩)|skip);refine Y _ ?_;clear Y X)
  refine a2v 12 [11,37] (by kernel_rfl) (by kernel_rfl) ?_;simp only [List.take,List.drop];repeat' first|(with_reducible first|apply a8_|apply a3_|apply a9_|apply a1_|refine a2_ [11,37] ?_|apply a5_)|((with_reducible first|refine a0_ fun X Y=>?_|refine a4_ fun X Y=>?_);go_simp;(first|(refine ⟨_,_,.inr ⟨_,g2,?_⟩⟩)|(refine ⟨_,g3,?_⟩)|skip);refine Y _ ?_;clear Y X)
  apply b4o [8,12] (fun k=>[(13,I (kN r F0 k)),(11,.osl 1)]) (fun k=>([some (.box [I i0,I d]),some (.arr 9 1 (decide (aN r s F0 [] k=[])) ((aN r s F0 [] k).map n5_))] : Hp))  (m)
  ·go_simp<;>exact rfl
  ·go_simp
  ·intro k hk K hK;obtain ⟨h1,h2⟩:=HM.out k hk;have hl:=HL.out k (by omega);have hs1:aN r s F0 [] (k+1)=aN r s F0 [] k++qat s.q (kN r F0 k).toNat:=rfl;have hs2:kN r F0 (k+1)=t0_ r (kN r F0 k):=rfl;rw [hs1,hs2] at hK;clear hs1 hs2 e0 e1 g1 g2 g3 hm0;obtain ⟨j,hj⟩ : ∃ j:Nat,kN r F0 k=j:=⟨(kN r F0 k).toNat,by omega⟩
   rw [hj] at h1 h2 hK ⊢;rw [Int.toNat_natCast] at hK;have hjl:j < s.q.length:=by omega
   have hq:=HQ.out j hjl;rw [←d8_ hjl] at hq;have hb:(aN r s F0 [] k).length+(qat s.q j).length≤1000000000:=by omega
   have gf:=GF.out j;clear hj;generalize aN r s F0 [] k=F at *;generalize t0_ r j=F1 at *;by_cases hF:F=[]
   ·subst hF;by_cases hQ:qat s.q j=[]
    ·rw [hQ] at hK;repeat' with_reducible apply a8_
     refine a2_ [] ?_;repeat' first|(with_reducible first|apply a8_|apply a3_|apply b1_|apply a9_|apply a1_)|((with_reducible refine a7_ ?_ ?_);(focus (go_simp;done)))|((with_reducible refine a0_ fun X Y=>?_);go_simp;refine Y _ ?_;clear Y X)
     refine c7_ (c0_ [] 9 ⟨rfl,rfl⟩ ?_);simp only [List.take,List.drop];repeat' first|with_reducible apply a1_|((with_reducible refine a0_ fun X Y=>?_);go_simp;refine Y _ ?_;clear Y X)
     refine b7b (sz:=1) (id:=1) (e1:=9) (es:=[]) ⟨rfl,rfl,rfl⟩ Tryz.underlying62 HI.out (by go_simp) (by go_simp) (by go_simp) ?_;refine c0_ [] 1 ⟨rfl,rfl⟩ ?_;simp only [List.take,List.drop];repeat' first|with_reducible apply a1_|((with_reducible refine a0_ fun X Y=>?_);go_simp;refine Y _ ?_;clear Y X)
     apply d6_;repeat' with_reducible first|apply a3_|apply b3_
     refine a2_ [] ?_;repeat' first|(with_reducible first|apply a3_|apply a1_)|((with_reducible refine a0_ fun X Y=>?_);go_simp;(first|(refine ⟨_,gf,?_⟩)|skip);refine Y _ ?_;clear Y X)
     refine hK _ ?_;go_simp
    ·have e1:decide (([] : List ByteArray)++qat s.q j=[])=false:=by simpa using hQ
     have h0:0 < (qat s.q j).length:=List.length_pos_iff.2 hQ;have h3:(qat s.q j).length≤1000000000:=by omega
     rw [e1] at hK;clear e1;repeat' first|(with_reducible first|apply a8_|apply a3_|apply b1_|apply a9_|apply b3_|apply a1_|refine a2_ [] ?_)|((with_reducible refine a7_ ?_ ?_);(focus (go_simp;done)))|((with_reducible refine a0_ fun X Y=>?_);go_simp;(first|(refine ⟨_,gf,?_⟩)|skip);refine Y _ ?_;clear Y X)
     refine hK _ ?_;go_simp
   ·have e1:decide (F++qat s.q j=[])=false:=by simp [hF]
    have e2:decide (F=[])=false:=by simp [hF]
    rw [e1] at hK;rw [e2];clear e1 e2;repeat' first|(with_reducible first|apply a8_|apply a3_|apply b1_|apply a9_|apply b3_|apply a1_|refine a2_ [] ?_)|((with_reducible refine a7_ ?_ ?_);(focus (go_simp;done)))|((with_reducible refine a0_ fun X Y=>?_);go_simp;(first|(refine ⟨_,gf,?_⟩)|skip);refine Y _ ?_;clear Y X)
    refine hK _ ?_;go_simp
  ·intro K;have hx:¬0≤kN r F0 m:=by omega
   clear e0 e1 g1 g2 g3;refine c0u 11 1 rfl rfl ?_;repeat' first|(with_reducible first|apply a8_|apply a3_|apply b8_|apply c4_|apply d0_|apply b7_|apply a1_|refine a2_ [] ?_)|((with_reducible refine a6_ ?_ ?_);(focus (go_simp;done)))|((with_reducible refine a0_ fun X Y=>?_);go_simp;refine Y _ ?_;clear Y X)
   go_simp
 ·have e2:decide (A=[])=false:=by simp [hAe]
  rw [e2] at g2;clear e2;repeat' first|(with_reducible first|apply a8_|apply a3_|apply b1_|apply a1_|refine a2_ [] ?_)|((with_reducible refine a6_ ?_ ?_);(focus (go_simp;done)))|((with_reducible refine a0_ fun X Y=>?_);go_simp;(first|(refine ⟨_,g1,?_⟩)|skip);refine Y _ ?_;clear Y X)
  refine a2v 12 [11,37] (by kernel_rfl) (by kernel_rfl) ?_;simp only [List.take,List.drop];repeat' first|(with_reducible first|apply a8_|apply a3_|apply a9_|apply a1_|refine a2_ [11,37] ?_|apply a5_)|((with_reducible first|refine a0_ fun X Y=>?_|refine a4_ fun X Y=>?_);go_simp;(first|(refine ⟨_,_,.inl ⟨_,g2,?_⟩⟩)|(refine ⟨_,g3,?_⟩)|skip);refine Y _ ?_;clear Y X)
  apply b4o [8,12] (fun k=>[(13,I (kN r F0 k)),(11,.osl 1)]) (fun k=>([some (.box [I i0,I d]),some (.arr 9 1 (decide (aN r s F0 A k=[])) ((aN r s F0 A k).map n5_))] : Hp))  (m)
  ·go_simp<;>exact rfl
  ·go_simp
  ·intro k hk K hK;obtain ⟨h1,h2⟩:=HM.out k hk;have hl:=HL.out k (by omega);have hs1:aN r s F0 A (k+1)=aN r s F0 A k++qat s.q (kN r F0 k).toNat:=rfl;have hs2:kN r F0 (k+1)=t0_ r (kN r F0 k):=rfl;rw [hs1,hs2] at hK;clear hs1 hs2 e0 e1 g1 g2 g3 hm0;obtain ⟨j,hj⟩ : ∃ j:Nat,kN r F0 k=j:=⟨(kN r F0 k).toNat,by omega⟩
   rw [hj] at h1 h2 hK ⊢;rw [Int.toNat_natCast] at hK;have hjl:j < s.q.length:=by omega
   have hq:=HQ.out j hjl;rw [←d8_ hjl] at hq;have hb:(aN r s F0 A k).length+(qat s.q j).length≤1000000000:=by omega
   have gf:=GF.out j;clear hj;generalize aN r s F0 A k=F at *;generalize t0_ r j=F1 at *;by_cases hF:F=[]
   ·subst hF;by_cases hQ:qat s.q j=[]
    ·rw [hQ] at hK;repeat' with_reducible apply a8_
     refine a2_ [] ?_;repeat' first|(with_reducible first|apply a8_|apply a3_|apply b1_|apply a9_|apply a1_)|((with_reducible refine a7_ ?_ ?_);(focus (go_simp;done)))|((with_reducible refine a0_ fun X Y=>?_);go_simp;refine Y _ ?_;clear Y X)
     refine c7_ (c0_ [] 9 ⟨rfl,rfl⟩ ?_);simp only [List.take,List.drop];repeat' first|with_reducible apply a1_|((with_reducible refine a0_ fun X Y=>?_);go_simp;refine Y _ ?_;clear Y X)
     refine b7b (sz:=1) (id:=1) (e1:=9) (es:=[]) ⟨rfl,rfl,rfl⟩ Tryz.underlying62 HI.out (by go_simp) (by go_simp) (by go_simp) ?_;refine c0_ [] 1 ⟨rfl,rfl⟩ ?_;simp only [List.take,List.drop];repeat' first|with_reducible apply a1_|((with_reducible refine a0_ fun X Y=>?_);go_simp;refine Y _ ?_;clear Y X)
     apply d6_;repeat' with_reducible first|apply a3_|apply b3_
     refine a2_ [] ?_;repeat' first|(with_reducible first|apply a3_|apply a1_)|((with_reducible refine a0_ fun X Y=>?_);go_simp;(first|(refine ⟨_,gf,?_⟩)|skip);refine Y _ ?_;clear Y X)
     refine hK _ ?_;go_simp
    ·have e1:decide (([] : List ByteArray)++qat s.q j=[])=false:=by simpa using hQ
     have h0:0 < (qat s.q j).length:=List.length_pos_iff.2 hQ;have h3:(qat s.q j).length≤1000000000:=by omega
     rw [e1] at hK;clear e1;repeat' first|(with_reducible first|apply a8_|apply a3_|apply b1_|apply a9_|apply b3_|apply a1_|refine a2_ [] ?_)|((with_reducible refine a7_ ?_ ?_);(focus (go_simp;done)))|((with_reducible refine a0_ fun X Y=>?_);go_simp;(first|(refine ⟨_,gf,?_⟩)|skip);refine Y _ ?_;clear Y X)
     refine hK _ ?_;go_simp
   ·have e1:decide (F++qat s.q j=[])=false:=by simp [hF]
    have e2:decide (F=[])=false:=by simp [hF]
    rw [e1] at hK;rw [e2];clear e1 e2;repeat' first|(with_reducible first|apply a8_|apply a3_|apply b1_|apply a9_|apply b3_|apply a1_|refine a2_ [] ?_)|((with_reducible refine a7_ ?_ ?_);(focus (go_simp;done)))|((with_reducible refine a0_ fun X Y=>?_);go_simp;(first|(refine ⟨_,gf,?_⟩)|skip);refine Y _ ?_;clear Y X)
    refine hK _ ?_;go_simp
  ·intro K;have hx:¬0≤kN r F0 m:=by omega
   clear e0 e1 g1 g2 g3;refine c0u 11 1 rfl rfl ?_;repeat' first|(with_reducible first|apply a8_|apply a3_|apply b8_|apply c4_|apply d0_|apply b7_|apply a1_|refine a2_ [] ?_)|((with_reducible refine a6_ ?_ ?_);(focus (go_simp;done)))|((with_reducible refine a0_ fun X Y=>?_);go_simp;refine Y _ ?_;clear Y X)
   go_simp
def nxE (r:Ru) (s:St) (k:Int) : Int:=fst [ckE r s,unl (inR k 0 ((r.ranks.length:Int) - 1)) 6]
theorem c0m (r:Ru) (s:St) (k:Int) (hn:r.ranks.length≤1000000) (hnm:∀ k,k < r.ranks.length→(rat r.ranks k).name.size≤1000) (hs:SmallS s) (h:nxE r s k≠0) : VC Tryz.prog 74 [c3_ r,e3_ s,I k] (.tup [S ⟨#[]⟩,I (nxE r s k)]):=by
 have w1:IntKind.i64.wrap ((r.ranks.length:Int) - 1)=(r.ranks.length:Int) - 1:=g0_ (by omega) (by omega);have g1:=q6_ r s hn hnm hs;have g2:=g3_ k 0 ((r.ranks.length:Int) - 1);have g3:=b0_ (inR k 0 ((r.ranks.length:Int) - 1)) 6;have g4:VC Tryz.prog 88 [.sl 1 ([ckE r s,unl (inR k 0 ((r.ranks.length:Int) - 1)) 6].map p9_)] (I (nxE r s k)):=c6_ _ rfl rfl;clear hnm hs hn;generalize nxE r s k=E at *;generalize ckE r s=C at *;generalize unl (inR k 0 ((r.ranks.length:Int) - 1)) 6=U at *;generalize inR k 0 ((r.ranks.length:Int) - 1)=J at *;refine c2_ Tryz.func74 rfl (by kernel_rfl) (by kernel_rfl) rfl fun M0 w0=>?_;simp only [Tryz.ntmps74,Tryz.results74,b4_];repeat' first|(with_reducible first|apply a8_|apply a3_|apply b5_|apply c4_|apply a1_|refine a2_ [] ?_|apply a5_)|((with_reducible refine a7_ ?_ ?_);(focus (go_simp;done)))|((with_reducible first|refine a0_ fun X Y=>?_|refine a4_ fun X Y=>?_);go_simp;(first|(refine ⟨_,g1,?_⟩)|(refine ⟨_,g2,?_⟩)|(refine ⟨_,g3,?_⟩)|(refine ⟨_,g4,?_⟩)|skip);refine Y _ ?_;clear Y X)|((refine b2_ 13 13 [] rfl (by kernel_rfl) (by kernel_rfl) ?_);simp only [List.take,List.drop])
 go_simp
theorem d0t (r:Ru) (s:St) (k:Nat) (hn:r.ranks.length≤1000000) (hnm:∀ k,k < r.ranks.length→(rat r.ranks k).name.size≤1000) (hs:SmallS s) (h:nxE r s k=0) (hk:k < s.q.length) :
  ((qat s.q k=[])→VC Tryz.prog 74 [c3_ r,e3_ s,I (k:Int)] (.tup [S ⟨#[]⟩,I 12]))∧∀ h0:0 < (qat s.q k).length,VC Tryz.prog 74 [c3_ r,e3_ s,I (k:Int)] (.tup [S (qat s.q k)[0],I 0]):=by
 have w1:IntKind.i64.wrap ((r.ranks.length:Int) - 1)=(r.ranks.length:Int) - 1:=g0_ (by omega) (by omega);have g1:=q6_ r s hn hnm hs;have g2:=g3_ k 0 ((r.ranks.length:Int) - 1);have g3:=b0_ (inR k 0 ((r.ranks.length:Int) - 1)) 6;have g4:VC Tryz.prog 88 [.sl 1 ([ckE r s,unl (inR k 0 ((r.ranks.length:Int) - 1)) 6].map p9_)] (I (nxE r s k)):=c6_ _ rfl rfl;rw [h] at g4;clear hnm hs hn h;generalize ckE r s=C at *;generalize unl (inR k 0 ((r.ranks.length:Int) - 1)) 6=U at *;generalize inR k 0 ((r.ranks.length:Int) - 1)=J at *;refine ⟨fun hq=>?_,fun h0=>?_⟩
 ·refine c2_ Tryz.func74 rfl (by kernel_rfl) (by kernel_rfl) rfl fun M0 w0=>?_;simp only [Tryz.ntmps74,Tryz.results74,b4_];repeat' first|(with_reducible first|apply a8_|apply a3_|apply b5_|apply c4_|apply b1_|apply a1_|refine a2_ [] ?_|apply a5_)|((with_reducible refine a7_ ?_ ?_);(focus (go_simp;done)))|((with_reducible refine a6_ ?_ ?_);(focus (go_simp;done)))|((with_reducible first|refine a0_ fun X Y=>?_|refine a4_ fun X Y=>?_);go_simp;(first|(refine ⟨_,g1,?_⟩)|(refine ⟨_,g2,?_⟩)|(refine ⟨_,g3,?_⟩)|(refine ⟨_,g4,?_⟩)|skip);refine Y _ ?_;clear Y X)|((refine b2_ 13 13 [] rfl (by kernel_rfl) (by kernel_rfl) ?_);simp only [List.take,List.drop])
  go_simp
 ·have h1:¬(qat s.q k).length=0:=by omega
  have h2:¬qat s.q k=[]:=fun h=>h1 (by rw [h];rfl);refine c2_ Tryz.func74 rfl (by kernel_rfl) (by kernel_rfl) rfl fun M0 w0=>?_;simp only [Tryz.ntmps74,Tryz.results74,b4_];repeat' first|(with_reducible first|apply a8_|apply a3_|apply c4_|apply b1_|apply a1_|refine a2_ [] ?_|apply a5_)|((with_reducible refine a6_ ?_ ?_);(focus (go_simp;done)))|((with_reducible first|refine a0_ fun X Y=>?_|refine a4_ fun X Y=>?_);go_simp;(first|(refine ⟨_,g1,?_⟩)|(refine ⟨_,g2,?_⟩)|(refine ⟨_,g3,?_⟩)|(refine ⟨_,g4,?_⟩)|skip);refine Y _ ?_;clear Y X)|((refine b2_ 13 13 [] rfl (by kernel_rfl) (by kernel_rfl) ?_);simp only [List.take,List.drop])
  go_simp
end Go.Proofs.YtoibondihdhnoaaGreatDoor
