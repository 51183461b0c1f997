/- Texts in one: Walks: which rules are right. -/
import Derived.Test.YtoibondihdhnoaaDoorFRX31
import Derived.Test.YtoibondihdhnoaaDoorFRX32
namespace Go.Proofs.YtoibondihdhnoaaDoor
open Go.RowKit
set_option maxRecDepth 100000
set_option maxHeartbeats 2000000
theorem b2h (p:Nat→Bool) (n:Nat) : decide (0≤ixP p 0 n)=a5w p 0 n:=by
 rcases t8_ p n with ⟨h,hn⟩|⟨k,hk,h,hp,_⟩
 ·rw [h,r7_ hn];rfl
 ·rw [h,m7_ hk hp];exact decide_eq_true (by omega)
theorem b0c {p p':Nat→Bool} : ∀ {n k:Nat},(∀ j,k≤j→j < k+n→p j=p' j)→ixP p k n=ixP p' k n
 | 0,_,_=>rfl
 | n+1,k,h=>by
  rw [ixP,ixP,h k (Nat.le_refl k) (by omega),b0c fun j h1 h2=>h j (by omega) (by omega)]
theorem d0w (f:Nat) (y:Rk) (p:Rk→Bool) (hc:∀ x:Rk,VC Tryd.prog f [.agg [S x.name,I x.places,I x.feeder,B x.called],.vp [S y.name,I y.places,I y.feeder,B y.called]] (B (p x))) (l:List Rk) (hl:l.length≤1000000) :
  VC Tryd.prog 84 [.sl 4 (l.map Rk.av),.fn (.func f) [] [.vp [S y.name,I y.places,I y.feeder,B y.called]]] (I (ixP (fun j=>p (rat l j)) 0 l.length)):=by
 obtain ⟨R,hR⟩ : ∃ R,ixP (fun j=>p (rat l j)) 0 l.length=R:=⟨_,rfl⟩
 rw [hR];have HR:=Lib.hid hR;have HC:=Lib.hid hc;clear hR hc;refine c0_ Tryd.func84 rfl (by kernel_rfl) (by kernel_rfl) rfl fun M0 w0=>?_;simp only [Tryd.ntmps84,Tryd.results84,b5_];repeat' first|(with_reducible first|apply a9_|apply a3_|apply a8_|apply a1_|refine a2_ [] ?_)|((with_reducible refine a0_ fun X Y=>?_);go_simp;refine Y _ ?_;clear Y X)
 apply y4_ [0,1,7] (fun k=>[(8,I k)]) (fun k=>([] : Hp)) (fun j=>p (rat l j)) (l.length)
 ·go_simp<;>exact rfl
 ·go_simp
 ·intro k hk HB HP K hK;obtain ⟨w1,w2,w3,w4,w5,w6⟩:=ixs (m:=k) (by omega);have g:=HC.out (rat l k);have hp:=HP.out;rw [hp] at g;clear hp;repeat' first|(with_reducible first|apply a9_|apply a3_|apply b0_|apply a8_|apply b1_|apply a1_|refine a2_ [] ?_)|((with_reducible refine a7_ ?_ ?_);(focus (go_simp;done)))|((with_reducible refine a6_ ?_ ?_);(focus (go_simp;done)))|((with_reducible refine a0_ fun X Y=>?_);go_simp;(first|(refine ⟨_,g,?_⟩)|skip);refine Y _ ?_;clear Y X)
  refine hK _ ?_;go_simp
 ·intro k hk HB HP K;have g:=HC.out (rat l k);have hp:=HP.out;rw [hp] at g;clear hp;have e:=HR.out;rw [n0_ hk HB.out HP.out] at e;subst e;repeat' first|(with_reducible first|apply a9_|apply a3_|apply b4_|apply c5_|apply b0_|apply a8_|apply c2_|apply a1_|refine a2_ [] ?_)|((with_reducible refine a7_ ?_ ?_);(focus (go_simp;done)))|((with_reducible refine a0_ fun X Y=>?_);go_simp;(first|(refine ⟨_,g,?_⟩)|skip);refine Y _ ?_;clear Y X)
  go_simp
 ·intro HB K;have e:=HR.out;rw [p7_ HB.out] at e;subst e;repeat (first|(with_reducible first|apply a9_|apply a3_|apply b8_|apply c5_|apply d4_|apply b7_|apply a1_|refine a2_ [] ?_)|((with_reducible refine a6_ ?_ ?_);(focus (go_simp;done)))|((with_reducible refine a0_ fun X Y=>?_);go_simp;refine Y _ ?_;clear Y X))
  go_simp
theorem a8i (f:Nat) (y:Rk) (p:Rk→Bool) (hc:∀ x:Rk,VC Tryd.prog f [.agg [S x.name,I x.places,I x.feeder,B x.called],.vp [S y.name,I y.places,I y.feeder,B y.called]] (B (p x))) (l:List Rk) (i:Nat) (hi:i < l.length) (hl:l.length≤1000000) :
  VC Tryd.prog 74 [.sl 4 ((l.map Rk.av).take i),.fn (.func f) [] [.vp [S y.name,I y.places,I y.feeder,B y.called]]] (B (a5w (fun j=>p (rat l j)) 0 i)):=by
 have g:=d0w f y p hc (l.take i) (by rw [List.length_take];omega);have e:ixP (fun j=>p (rat (l.take i) j)) 0 (l.take i).length=ixP (fun j=>p (rat l j)) 0 i:=by
  rw [List.length_take,Nat.min_eq_left (by omega)];refine b0c fun j _ hj=>?_;unfold rat;rw [List.getD_eq_getElem?_getD,List.getElem?_take_of_lt (by omega),List.getD_eq_getElem?_getD]
 rw [e,List.map_take] at g;rw [←b2h];generalize ixP (fun j=>p (rat l j)) 0 i=R at *;generalize List.take i (List.map Rk.av l)=T at *;refine c0_ Tryd.func74 rfl (by kernel_rfl) (by kernel_rfl) rfl fun M0 w0=>?_;simp only [Tryd.ntmps74,Tryd.results74,b5_];repeat' first|(with_reducible first|apply a9_|apply a3_|apply c5_|apply a1_|refine a2_ [] ?_)|((with_reducible refine a0_ fun X Y=>?_);go_simp;(first|(refine ⟨_,g,?_⟩)|skip);refine Y _ ?_;clear Y X)
 go_simp
theorem c5z (x:Rk) (y:Rk) : VC Tryd.prog 75 [.agg [S x.name,I x.places,I x.feeder,B x.called],.vp [S y.name,I y.places,I y.feeder,B y.called]] (B (decide (x.name=y.name))):=by
 refine c0_ Tryd.func75 rfl (by kernel_rfl) (by kernel_rfl) rfl fun M0 w0=>?_;simp only [Tryd.ntmps75,Tryd.results75,b5_];repeat' first|(with_reducible first|apply a9_|apply a3_|apply c5_|apply a1_|refine a2_ [] ?_)|((with_reducible refine a0_ fun X Y=>?_);go_simp;refine Y _ ?_;clear Y X)
 go_simp
theorem b4e (x:Rk) (y:Rk) : VC Tryd.prog 76 [.agg [S x.name,I x.places,I x.feeder,B x.called],.vp [S y.name,I y.places,I y.feeder,B y.called]] (B (decide (x.feeder=y.feeder))):=by
 refine c0_ Tryd.func76 rfl (by kernel_rfl) (by kernel_rfl) rfl fun M0 w0=>?_;simp only [Tryd.ntmps76,Tryd.results76,b5_];repeat' first|(with_reducible first|apply a9_|apply a3_|apply c5_|apply a1_|refine a2_ [] ?_)|((with_reducible refine a0_ fun X Y=>?_);go_simp;refine Y _ ?_;clear Y X)
 go_simp
theorem a2h {E:Nat→Int} : ∀ (n k i:Nat),k≤i→i < k+n→(∀ j,k≤j→j < i→E j=0)→E i≠0→i9_ E k n=(i,E i)
 | 0,k,i,h1,h2,_,_=>by omega
 | n+1,k,i,h1,h2,hb,hp=>by
  rw [i9_];by_cases he:k=i
  ·subst he;rw [if_pos hp]
  ·rw [if_neg (by simp [hb k (Nat.le_refl k) (by omega)])];exact a2h n (k+1) i (by omega) (by omega) (fun j h3 h4=>hb j (by omega) h4) hp
theorem z3_ {E:Nat→Int} {k n:Nat} (hk:k < n) (hb:∀ j,j < k→(!decide (E j=0))=false) (hp:(!decide (E k=0))=true) : i9_ E 0 n=(k,E k):=a2h n 0 k (Nat.zero_le k) (by omega) (fun j _ h=>by simpa using hb j h) (by simpa using hp)
theorem t6_ {E:Nat→Int} : ∀ (n k:Nat),(∀ j,j < k+n→(!decide (E j=0))=false)→i9_ E k n=(0,0)
 | 0,_,_=>rfl
 | n+1,k,h=>by
  rw [i9_,if_neg (by simpa using h k (by omega))];exact t6_ n (k+1) fun j hj=>h j (by omega)
theorem d0x (r:Ru) : VC Tryd.prog 32 [B ((decide (r.back = -1) || inR r.back 0 12)&&inR r.ret 0 3600),I 2] (I (c7p r)):=b3_ _ 2
theorem b0d (r:Ru) (hn:r.ranks.length≤1000000) (hnm:∀ k,k < r.ranks.length→(rat r.ranks k).name.size≤1000) : VC Tryd.prog 68 [c4_ r] (.tup [I ((d6_ r).1:Int),I (d6_ r).2]):=by
 have u1:=b3_ (decide (0 < r.ranks.length)) 10;have u2:=b3_ (decide (r.ranks.length≤6)) 8;have g5:VC Tryd.prog 30 [.sl 1 ([unl (decide (0 < r.ranks.length)) 10,unl (decide (r.ranks.length≤6)) 8].map y3_)] (I (fst [unl (decide (0 < r.ranks.length)) 10,unl (decide (r.ranks.length≤6)) 8])):=d9_ _ rfl rfl;unfold d6_;by_cases h0:r.ranks.length=0
 ·rw [if_pos h0];have d1:decide (0 < r.ranks.length)=false:=decide_eq_false (by omega);have d2:decide (r.ranks.length≤6)=true:=decide_eq_true (by omega);rw [d1] at u1 g5;rw [d2] at u2 g5;have e:fst [unl false 10,unl true 8]=10:=rfl;rw [e] at g5;generalize unl false 10=A1 at *;generalize unl true 8=A2 at *;clear d1 d2 e;refine c0_ Tryd.func68 rfl (by kernel_rfl) (by kernel_rfl) rfl fun M0 w0=>?_;simp only [Tryd.ntmps68,Tryd.results68,b5_];repeat' first|(with_reducible first|apply a9_|apply a3_|apply b4_|apply c5_|apply a1_|refine a2_ [] ?_)|((with_reducible refine a7_ ?_ ?_);(focus (go_simp;done)))|((with_reducible refine a0_ fun X Y=>?_);go_simp;(first|(with_reducible refine ⟨_,u1,?_⟩)|(with_reducible refine ⟨_,u2,?_⟩)|(refine ⟨_,g5,?_⟩)|skip);refine Y _ ?_;clear Y X)
  go_simp
 rw [if_neg h0];by_cases h6:6 < r.ranks.length
 ·rw [if_pos h6];have d1:decide (0 < r.ranks.length)=true:=decide_eq_true (by omega);have d2:decide (r.ranks.length≤6)=false:=decide_eq_false (by omega);rw [d1] at u1 g5;rw [d2] at u2 g5;have e:fst [unl true 10,unl false 8]=8:=rfl;rw [e] at g5;generalize unl true 10=A1 at *;generalize unl false 8=A2 at *;have h7:0 < r.ranks.length:=by omega
  have h8:¬r.ranks.length≤6:=by omega
  have h9:¬(r.ranks.length:Int)≤6:=by omega
  clear d1 d2 e;refine c0_ Tryd.func68 rfl (by kernel_rfl) (by kernel_rfl) rfl fun M0 w0=>?_;simp only [Tryd.ntmps68,Tryd.results68,b5_];repeat' first|(with_reducible first|apply a9_|apply a3_|apply b4_|apply c5_|apply a1_|refine a2_ [] ?_)|((with_reducible refine a7_ ?_ ?_);(focus (go_simp;done)))|((with_reducible refine a0_ fun X Y=>?_);go_simp;(first|(with_reducible refine ⟨_,u1,?_⟩)|(with_reducible refine ⟨_,u2,?_⟩)|(refine ⟨_,g5,?_⟩)|skip);refine Y _ ?_;clear Y X)
  go_simp
 rw [if_neg h6];have d1:decide (0 < r.ranks.length)=true:=decide_eq_true (by omega);have d2:decide (r.ranks.length≤6)=true:=decide_eq_true (by omega);rw [d1] at u1 g5;rw [d2] at u2 g5;have e:fst [unl true 10,unl true 8]=0:=rfl;rw [e] at g5;generalize unl true 10=A1 at *;generalize unl true 8=A2 at *;have h7:0 < r.ranks.length:=by omega
 have h8:r.ranks.length≤6:=by omega
 have h9:(r.ranks.length:Int)≤6:=by omega
 obtain ⟨R,hR⟩ : ∃ R,(if (i9_ (rkE r) 0 r.ranks.length).2≠0 then i9_ (rkE r) 0 r.ranks.length else (0,c7p r))=R:=⟨_,rfl⟩
 rw [hR];have HR:=Lib.hid hR;have HM:=Lib.hid hnm;have HE:=Lib.hid (d0x r);clear d1 d2 e h0 h6 hR hnm;refine c0_ Tryd.func68 rfl (by kernel_rfl) (by kernel_rfl) rfl fun M0 w0=>?_;simp only [Tryd.ntmps68,Tryd.results68,b5_];repeat' first|(with_reducible first|apply a9_|apply a3_|apply b0_|apply a8_|apply a1_|refine a2_ [] ?_)|((with_reducible refine a6_ ?_ ?_);(focus (go_simp;done)))|((with_reducible refine a0_ fun X Y=>?_);go_simp;(first|(with_reducible refine ⟨_,u1,?_⟩)|(with_reducible refine ⟨_,u2,?_⟩)|(refine ⟨_,g5,?_⟩)|skip);refine Y _ ?_;clear Y X)
 apply y4_ [1,4,26,27] (fun k=>[(28,I k)]) (fun k=>([] : Hp)) (fun k=>!decide (rkE r k=0)) (r.ranks.length)
 ·go_simp<;>exact rfl
 ·go_simp
 ·intro k hk HB HP K hK;obtain ⟨w1,w2,w3,w4,w5,w6⟩:=ixs (m:=k) (by omega);have hk2:k≤r.ranks.length:=by omega
  have hk3:(k:Int)≤(r.ranks.length:Int):=by omega
  have hwn:IntKind.i64.wrap ((r.ranks.length:Int) - 1)=(r.ranks.length:Int) - 1:=h3_ (by omega) (by omega);have i1:=a0u (rat r.ranks k).name (HM.out k hk);have i2:=a8i 75 (rat r.ranks k) _ (fun x=>c5z x (rat r.ranks k)) r.ranks k hk hn;have i3:=i3_ (rat r.ranks k).places 1 12;have i4:=i3_ (rat r.ranks k).feeder 0 ((r.ranks.length:Int) - 1);have i5:=a8i 76 (rat r.ranks k) _ (fun x=>b4e x (rat r.ranks k)) r.ranks k hk hn;have u1:=b3_ (c8_ (rat r.ranks k).name) 4;have u2:=b3_ (!z2_ r k) 5;have u3:=b3_ (inR (rat r.ranks k).places 1 12) 2;have u4:=b3_ (!i7_ r k || inR (rat r.ranks k).feeder 0 ((r.ranks.length:Int) - 1)) 6;have u5:=b3_ (!i7_ r k || decide ((k:Int) < (rat r.ranks k).feeder)) 9;have u6:=b3_ (!i7_ r k || !v6_ r k) 26;have u7:=b3_ (i7_ r k || !(rat r.ranks k).called) 3;have g7:VC Tryd.prog 30 [.sl 1 ([unl (c8_ (rat r.ranks k).name) 4,unl (!z2_ r k) 5,unl (inR (rat r.ranks k).places 1 12) 2,unl (!i7_ r k || inR (rat r.ranks k).feeder 0 ((r.ranks.length:Int) - 1)) 6,
   unl (!i7_ r k || decide ((k:Int) < (rat r.ranks k).feeder)) 9,unl (!i7_ r k || !v6_ r k) 26,unl (i7_ r k || !(rat r.ranks k).called) 3].map y3_)] (I (rkE r k)):=d9_ _ rfl rfl
  change VC _ _ _ (B (z2_ r k)) at i2;change VC _ _ _ (B (v6_ r k)) at i5;have hp:=HP.out;have he:rkE r k=0:=by simpa using hp
  rw [he] at g7;clear hp he;generalize rkE r k=E at *;generalize c8_ (rat r.ranks k).name=D1 at *;generalize z2_ r k=D2 at *;generalize inR (rat r.ranks k).places 1 12=D3 at *;generalize inR (rat r.ranks k).feeder 0 ((r.ranks.length:Int) - 1)=D4 at *;generalize v6_ r k=D6 at *;generalize unl D1 4=A1 at *;generalize unl (!D2) 5=A2 at *;generalize unl D3 2=A3 at *;unfold i7_ at *;by_cases hf:(rat r.ranks k).feeder = -1
  ·have ed:(!decide ((rat r.ranks k).feeder = -1))=false:=by simp [hf]
   rw [ed,Bool.not_false,Bool.true_or] at u4 u5 u6;rw [ed,Bool.false_or] at u7;rw [ed,Bool.not_false,Bool.true_or,Bool.true_or,Bool.true_or,Bool.false_or] at g7;generalize unl true 6=A4 at *;generalize unl true 9=A5 at *;generalize unl true 26=A6 at *;generalize unl (!(rat r.ranks k).called) 3=A7 at *;clear ed;rw [hf] at i2;repeat' first|(with_reducible first|apply a9_|apply a3_|apply b0_|apply a8_|apply a1_|refine a2_ [] ?_)|((with_reducible refine a7_ ?_ ?_);(focus (go_simp;done)))|((with_reducible refine a0_ fun X Y=>?_);go_simp;refine Y _ ?_;clear Y X)
   refine b6_ 51 51 [] rfl (by kernel_rfl) (by kernel_rfl) ?_;simp only [List.take,List.drop];repeat' first|(with_reducible first|apply a9_|apply a3_|apply b0_|apply b1_|apply a1_|refine a2_ [] ?_|apply a5_)|((with_reducible refine a6_ ?_ ?_);(focus (go_simp;done)))|((with_reducible first|refine a0_ fun X Y=>?_|refine a4_ fun X Y=>?_);go_simp;(first|(with_reducible refine ⟨_,i1,?_⟩)|(refine ⟨_,⟨i2,rfl⟩,?_⟩)|(with_reducible refine ⟨_,i3,?_⟩)|(with_reducible refine ⟨_,u1,?_⟩)|(with_reducible refine ⟨_,u2,?_⟩)|(with_reducible refine ⟨_,u3,?_⟩)|(with_reducible refine ⟨_,u4,?_⟩)|(with_reducible refine ⟨_,u5,?_⟩)|(with_reducible refine ⟨_,u6,?_⟩)|(with_reducible refine ⟨_,u7,?_⟩)|(refine ⟨_,g7,?_⟩)|skip);refine Y _ ?_;clear Y X)
   refine hK _ ?_;go_simp
  ·have ed:(!decide ((rat r.ranks k).feeder = -1))=true:=by simp [hf]
   rw [ed,Bool.not_true,Bool.false_or] at u4 u5 u6;rw [ed,Bool.true_or] at u7;rw [ed,Bool.not_true,Bool.false_or,Bool.false_or,Bool.false_or,Bool.true_or] at g7;generalize unl D4 6=A4 at *;generalize unl (decide ((k:Int) < (rat r.ranks k).feeder)) 9=A5 at *;generalize unl (!D6) 26=A6 at *;generalize unl true 3=A7 at *;clear ed;repeat' first|(with_reducible first|apply a9_|apply a3_|apply b0_|apply a8_|apply a1_|refine a2_ [] ?_)|((with_reducible refine a7_ ?_ ?_);(focus (go_simp;done)))|((with_reducible refine a0_ fun X Y=>?_);go_simp;refine Y _ ?_;clear Y X)
   refine b6_ 51 51 [] rfl (by kernel_rfl) (by kernel_rfl) ?_;simp only [List.take,List.drop];repeat' first|(with_reducible first|apply a9_|apply a3_|apply b0_|apply b1_|apply a1_|refine a2_ [] ?_|apply a5_)|((with_reducible refine a6_ ?_ ?_);(focus (go_simp;done)))|((with_reducible first|refine a0_ fun X Y=>?_|refine a4_ fun X Y=>?_);go_simp;(first|(with_reducible refine ⟨_,i1,?_⟩)|(refine ⟨_,⟨i2,rfl⟩,?_⟩)|(with_reducible refine ⟨_,i3,?_⟩)|(with_reducible refine ⟨_,i4,?_⟩)|(refine ⟨_,⟨i5,rfl⟩,?_⟩)|(with_reducible refine ⟨_,u1,?_⟩)|(with_reducible refine ⟨_,u2,?_⟩)|(with_reducible refine ⟨_,u3,?_⟩)|(with_reducible refine ⟨_,u4,?_⟩)|(with_reducible refine ⟨_,u5,?_⟩)|(with_reducible refine ⟨_,u6,?_⟩)|(with_reducible refine ⟨_,u7,?_⟩)|(refine ⟨_,g7,?_⟩)|skip);refine Y _ ?_;clear Y X)
   refine hK _ ?_;go_simp
 ·intro k hk HB HP K;obtain ⟨w1,w2,w3,w4,w5,w6⟩:=ixs (m:=k) (by omega);have hk2:k≤r.ranks.length:=by omega
  have hk3:(k:Int)≤(r.ranks.length:Int):=by omega
  have hwn:IntKind.i64.wrap ((r.ranks.length:Int) - 1)=(r.ranks.length:Int) - 1:=h3_ (by omega) (by omega);have i1:=a0u (rat r.ranks k).name (HM.out k hk);have i2:=a8i 75 (rat r.ranks k) _ (fun x=>c5z x (rat r.ranks k)) r.ranks k hk hn;have i3:=i3_ (rat r.ranks k).places 1 12;have i4:=i3_ (rat r.ranks k).feeder 0 ((r.ranks.length:Int) - 1);have i5:=a8i 76 (rat r.ranks k) _ (fun x=>b4e x (rat r.ranks k)) r.ranks k hk hn;have u1:=b3_ (c8_ (rat r.ranks k).name) 4;have u2:=b3_ (!z2_ r k) 5;have u3:=b3_ (inR (rat r.ranks k).places 1 12) 2;have u4:=b3_ (!i7_ r k || inR (rat r.ranks k).feeder 0 ((r.ranks.length:Int) - 1)) 6;have u5:=b3_ (!i7_ r k || decide ((k:Int) < (rat r.ranks k).feeder)) 9;have u6:=b3_ (!i7_ r k || !v6_ r k) 26;have u7:=b3_ (i7_ r k || !(rat r.ranks k).called) 3;have g7:VC Tryd.prog 30 [.sl 1 ([unl (c8_ (rat r.ranks k).name) 4,unl (!z2_ r k) 5,unl (inR (rat r.ranks k).places 1 12) 2,unl (!i7_ r k || inR (rat r.ranks k).feeder 0 ((r.ranks.length:Int) - 1)) 6,
   unl (!i7_ r k || decide ((k:Int) < (rat r.ranks k).feeder)) 9,unl (!i7_ r k || !v6_ r k) 26,unl (i7_ r k || !(rat r.ranks k).called) 3].map y3_)] (I (rkE r k)):=d9_ _ rfl rfl
  change VC _ _ _ (B (z2_ r k)) at i2;change VC _ _ _ (B (v6_ r k)) at i5;have hp:=HP.out;have e:=HR.out;rw [z3_ hk HB.out HP.out] at e;have hne:rkE r k≠0:=by simpa using hp
  rw [if_pos hne] at e;subst e;clear hp;generalize rkE r k=E at *;generalize c8_ (rat r.ranks k).name=D1 at *;generalize z2_ r k=D2 at *;generalize inR (rat r.ranks k).places 1 12=D3 at *;generalize inR (rat r.ranks k).feeder 0 ((r.ranks.length:Int) - 1)=D4 at *;generalize v6_ r k=D6 at *;generalize unl D1 4=A1 at *;generalize unl (!D2) 5=A2 at *;generalize unl D3 2=A3 at *;unfold i7_ at *;by_cases hf:(rat r.ranks k).feeder = -1
  ·have ed:(!decide ((rat r.ranks k).feeder = -1))=false:=by simp [hf]
   rw [ed,Bool.not_false,Bool.true_or] at u4 u5 u6;rw [ed,Bool.false_or] at u7;rw [ed,Bool.not_false,Bool.true_or,Bool.true_or,Bool.true_or,Bool.false_or] at g7;generalize unl true 6=A4 at *;generalize unl true 9=A5 at *;generalize unl true 26=A6 at *;generalize unl (!(rat r.ranks k).called) 3=A7 at *;clear ed;rw [hf] at i2;repeat' first|(with_reducible first|apply a9_|apply a3_|apply b0_|apply a8_|apply a1_|refine a2_ [] ?_)|((with_reducible refine a7_ ?_ ?_);(focus (go_simp;done)))|((with_reducible refine a0_ fun X Y=>?_);go_simp;refine Y _ ?_;clear Y X)
   refine b6_ 51 51 [] rfl (by kernel_rfl) (by kernel_rfl) ?_;simp only [List.take,List.drop];repeat' first|(with_reducible first|apply a9_|apply a3_|apply b4_|apply c5_|apply c2_|apply a1_|refine a2_ [] ?_|apply a5_)|((with_reducible refine a7_ ?_ ?_);(focus (go_simp;done)))|((with_reducible first|refine a0_ fun X Y=>?_|refine a4_ fun X Y=>?_);go_simp;(first|(with_reducible refine ⟨_,i1,?_⟩)|(refine ⟨_,⟨i2,rfl⟩,?_⟩)|(with_reducible refine ⟨_,i3,?_⟩)|(with_reducible refine ⟨_,u1,?_⟩)|(with_reducible refine ⟨_,u2,?_⟩)|(with_reducible refine ⟨_,u3,?_⟩)|(with_reducible refine ⟨_,u4,?_⟩)|(with_reducible refine ⟨_,u5,?_⟩)|(with_reducible refine ⟨_,u6,?_⟩)|(with_reducible refine ⟨_,u7,?_⟩)|(refine ⟨_,g7,?_⟩)|skip);refine Y _ ?_;clear Y X)
   go_simp
  ·have ed:(!decide ((rat r.ranks k).feeder = -1))=true:=by simp [hf]
   rw [ed,Bool.not_true,Bool.false_or] at u4 u5 u6;rw [ed,Bool.true_or] at u7;rw [ed,Bool.not_true,Bool.false_or,Bool.false_or,Bool.false_or,Bool.true_or] at g7;generalize unl D4 6=A4 at *;generalize unl (decide ((k:Int) < (rat r.ranks k).feeder)) 9=A5 at *;generalize unl (!D6) 26=A6 at *;generalize unl true 3=A7 at *;clear ed;repeat' first|(with_reducible first|apply a9_|apply a3_|apply b0_|apply a8_|apply a1_|refine a2_ [] ?_)|((with_reducible refine a7_ ?_ ?_);(focus (go_simp;done)))|((with_reducible refine a0_ fun X Y=>?_);go_simp;refine Y _ ?_;clear Y X)
   refine b6_ 51 51 [] rfl (by kernel_rfl) (by kernel_rfl) ?_;simp only [List.take,List.drop];repeat' first|(with_reducible first|apply a9_|apply a3_|apply b4_|apply c5_|apply c2_|apply a1_|refine a2_ [] ?_|apply a5_)|((with_reducible refine a7_ ?_ ?_);(focus (go_simp;done)))|((with_reducible first|refine a0_ fun X Y=>?_|refine a4_ fun X Y=>?_);go_simp;(first|(with_reducible refine ⟨_,i1,?_⟩)|(refine ⟨_,⟨i2,rfl⟩,?_⟩)|(with_reducible refine ⟨_,i3,?_⟩)|(with_reducible refine ⟨_,i4,?_⟩)|(refine ⟨_,⟨i5,rfl⟩,?_⟩)|(with_reducible refine ⟨_,u1,?_⟩)|(with_reducible refine ⟨_,u2,?_⟩)|(with_reducible refine ⟨_,u3,?_⟩)|(with_reducible refine ⟨_,u4,?_⟩)|(with_reducible refine ⟨_,u5,?_⟩)|(with_reducible refine ⟨_,u6,?_⟩)|(with_reducible refine ⟨_,u7,?_⟩)|(refine ⟨_,g7,?_⟩)|skip);refine Y _ ?_;clear Y X)
   go_simp
 ·intro HB K;have e:=HR.out;rw [t6_ r.ranks.length 0 (fun j hj=>HB.out j (by omega)),if_neg (by simp)] at e;subst e;have ge:=HE.out;generalize c7p r=E at *;have i1:=i3_ r.back 0 12;have i2:=i3_ r.ret 0 3600;generalize inR r.back 0 12=D1 at *;generalize inR r.ret 0 3600=D2 at *;by_cases hb:r.back = -1
  ·rw [decide_eq_true hb,Bool.true_or,Bool.true_and] at ge;repeat' first|(with_reducible first|apply a9_|apply a3_|apply b8_|apply c5_|apply d4_|apply b7_|apply a1_|refine a2_ [] ?_)|((with_reducible refine a6_ ?_ ?_);(focus (go_simp;done)))|((with_reducible refine a0_ fun X Y=>?_);go_simp;(first|(with_reducible refine ⟨_,i2,?_⟩)|(with_reducible refine ⟨_,ge,?_⟩)|skip);refine Y _ ?_;clear Y X)
   all_goals go_simp
  ·rw [decide_eq_false hb,Bool.false_or] at ge;cases D1
   ·rw [Bool.false_and] at ge;repeat' first|(with_reducible first|apply a9_|apply a3_|apply b8_|apply c5_|apply d4_|apply b7_|apply a1_|refine a2_ [] ?_)|((with_reducible refine a6_ ?_ ?_);(focus (go_simp;done)))|((with_reducible refine a0_ fun X Y=>?_);go_simp;(first|(with_reducible refine ⟨_,i1,?_⟩)|(with_reducible refine ⟨_,ge,?_⟩)|skip);refine Y _ ?_;clear Y X)
    all_goals go_simp
   ·rw [Bool.true_and] at ge;repeat' first|(with_reducible first|apply a9_|apply a3_|apply b8_|apply c5_|apply d4_|apply b7_|apply a1_|refine a2_ [] ?_)|((with_reducible refine a6_ ?_ ?_);(focus (go_simp;done)))|((with_reducible refine a0_ fun X Y=>?_);go_simp;(first|(with_reducible refine ⟨_,i1,?_⟩)|(with_reducible refine ⟨_,i2,?_⟩)|(with_reducible refine ⟨_,ge,?_⟩)|skip);refine Y _ ?_;clear Y X)
    all_goals go_simp
theorem r8_ (r:Ru) (hn:r.ranks.length≤1000000) (hnm:∀ k,k < r.ranks.length→(rat r.ranks k).name.size≤1000) : VC Tryd.prog 49 [c4_ r] (I (d6_ r).2):=by
 have g:=b0d r hn hnm;generalize (d6_ r).2=E at *;generalize ((d6_ r).1:Int)=K0 at *;refine c0_ Tryd.func49 rfl (by kernel_rfl) (by kernel_rfl) rfl fun M0 w0=>?_;simp only [Tryd.ntmps49,Tryd.results49,b5_];repeat' first|(with_reducible first|apply a9_|apply a3_|apply c5_|apply a1_|refine a2_ [] ?_)|((with_reducible refine a0_ fun X Y=>?_);go_simp;(first|(refine ⟨_,g,?_⟩)|skip);refine Y _ ?_;clear Y X)
 go_simp
def a8j (r:Ru) (s:St) (mv:List Sg) (n1 n2:Bool) : Hp:=
 [some (.bag 81 1 false none (d3_ s.q)),some (.box [.osl 0,.osl 2,I s.time,.sl 4 (r.ranks.map Rk.av),I r.back,I r.ret,.osl 3]),some (.arr 85 3 n1 (s.tk.map Tk.av)),some (.arr 60 3 n2 (mv.map Sg.av))]
theorem b0e (n:Nat) : d3_ (List.replicate n [])=List.replicate n []:=by simp [d3_]
theorem b2i (r:Ru) (hn:r.ranks.length≤1000000) : VH Tryd.prog 50 [] [c4_ r] [] (a8j r (st0 r) [] true true) (.ref 1 0):=by
 refine i8_ Tryd.func50 rfl (by kernel_rfl) rfl (fun _=>by kernel_rfl) fun M0 w0 vs=>?_;simp only [Tryd.ntmps50,Tryd.results50,b5_];unfold a8j st0;simp only [b0e];repeat' first|(with_reducible first|apply a9_|apply a3_|apply a1_|refine a2_ [] ?_)|((with_reducible refine a0_ fun X Y=>?_);go_simp;refine Y _ ?_;clear Y X)
 refine c6x 6 [10] [⟨4,7,81,[.slice none 0 0],r.ranks.length,false⟩] 5 8 [0] (.agg [.osl 0,f0_,I 0]) (by kernel_rfl) ?_ ?_ (by kernel_rfl) (by kernel_rfl) (by kernel_rfl) (by go_simp) (by go_simp) ?_
 ·intro hh E o ho hE;simp only [List.getElem?_cons_succ,List.getElem?_cons_zero,Option.some.injEq] at ho;subst ho;have e1:=hE 0 (by simp) _ rfl;simp only [Mc.av,List.length_nil,Bool.false_eq_true,if_false,Nat.zero_add] at e1;simp [j2_,go_sem,e1]
 ·intro j hj hn;simp at hj hn;omega
 simp only [List.take,List.drop];repeat (first|(refine d0_ rfl ?_)|((with_reducible refine d1_ rfl fun X Y=>?_);go_simp;refine Y _ (by go_simp) ?_;clear Y X)|(with_reducible apply e8_))
 refine ⟨by simp only [d2d,mcK,List.getElem?_cons_succ,List.getElem?_cons_zero];go_simp;omega,?_⟩;simp only [mcS,mcE,Mc.ob,Mc.av,List.cons_append,List.nil_append,Bool.false_eq_true,if_false,Nat.zero_add,List.length_cons,List.length_nil];repeat ((with_reducible refine a0_ fun X Y=>?_);go_simp;refine Y _ ?_;clear Y X)
 apply a1_;apply a3_;refine u0_ (fun p a w R=>⟨_,R.toBag (id:=0) (sz:=1) rfl (by decide) (by kernel_rfl)⟩) ?_;go_simp;refine u0_ (fun p a w R=>⟨_,R.nilCell (bi:=1) (j:=1) (e:=85) (sz:=3) rfl rfl (by decide)⟩) ?_;go_simp;refine u0_ (fun p a w R=>⟨_,R.nilCell (bi:=1) (j:=6) (e:=60) (sz:=3) rfl rfl (by decide)⟩) ?_;go_simp;repeat' with_reducible apply c5_
 go_simp
abbrev T3:Type:=St×List Sg×Bool
def d4l (r:Ru) (t:T3) (x:Ev) (a:Bool) : Prop:=VH Tryd.prog 36 (v4_ r t.1 t.2.1 t.2.2) [.ref 0 0,evA x] [0] (v4_ r (apR r t.1 x).1 (apR r t.1 x).2 a) (I (apE r t.1 x))
open Classical in
noncomputable def apFl (r:Ru) (t:T3) (x:Ev) : Bool:=if h:∃ a,d4l r t x a then Classical.choose h else false
noncomputable def stepT (r:Ru) (t:T3) (x:Ev) : T3:=((apR r t.1 x).1,(apR r t.1 x).2,apFl r t x)
abbrev b0f (r:Ru) (t:T3) : Hp:=v4_ r t.1 t.2.1 t.2.2
def t0 (r:Ru) : T3:=(st0 r,[],true)
theorem b4f (r:Ru) (t:T3) (x:Ev) (hr:RuOK r) (hi:Inv r t.1) (hc:x.car.size≤1000) : VH Tryd.prog 36 (b0f r t) [.ref 0 0,evA x] [0] (b0f r (stepT r t x)) (I (apE r t.1 x)):=by
 have h:∃ a,d4l r t x a:=b9m r t.1 t.2.1 t.2.2 x hr hi hc;have e:apFl r t x=Classical.choose h:=dif_pos h;have:=Classical.choose_spec h;rw [←e] at this;exact this
def a3h (r:Ru) (l:List Ev) : Int:=fst [(d6_ r).2,unl (decide (l.length≤200)) 8]
theorem b4g {r:Ru} : ∀ (n:Nat) (s:St) (m:List Sg),m.length≤(n2_ r n s m).2.length∧(n2_ r n s m).2.length≤m.length+2*n
 | 0,_,m=>⟨Nat.le_refl _,by rw [n2_];simp only;omega⟩
 | n+1,s,m=>by
  rw [n2_];split
  ·exact ⟨Nat.le_refl _,by simp only;omega⟩
  ·have:=b4g (r:=r) n (upS r s (f9_ r s).toNat) (m++upM s.q (f9_ r s).toNat (feedN r (f9_ r s).toNat));rw [List.length_append] at this;have e:(upM s.q (f9_ r s).toNat (feedN r (f9_ r s).toNat)).length=2:=rfl;omega
theorem d0y {r:Ru} {s:St} (hr:RuOK r) (hi:Inv r s) {x:Ev} (h:apE r s x=0) : (apU r s x).2.length≤1002∧(x.kind=4→0 < (apU r s x).2.length):=by
 unfold apE at h;rw [b2_,b2_,b2_] at h;have hxr:=b6a h.1;have hd:=hi.doS hr h.1 (of_decide_eq_true (c7_ (by decide) h.2.1)) (show x.rank=(x.rank.toNat:Int) by omega) h.2.2.1;have hh:=a5g hr hd;have hl:=b4g (r:=r) (f7_ 0 (doS r s x x.rank.toNat).q) (atS (doS r s x x.rank.toNat) x.time) (doM r s x x.rank.toNat);change f7_ 0 (doS r s x x.rank.toNat).q≤500 at hh;unfold apU;have hm:(doM r s x x.rank.toNat).length≤2:=by
  unfold doM;split
  ·simp [upM]
  ·simp
 refine ⟨by omega,fun h4=>?_⟩;have e:(doM r s x x.rank.toNat).length=2:=by
  unfold doM;rw [if_pos h4];rfl
 omega
theorem c7q (r:Ru) (t:T3) (x:Ev) (i:Int) : VH Tryd.prog 25 (b0f r t) [.ref 0 0,I i,evA x] [0] (b0f r t) (.tup []):=by
 refine i8_ Tryd.func25 rfl (by kernel_rfl) rfl (fun _=>by kernel_rfl) fun M0 w0 vs=>?_;simp only [Tryd.ntmps25,Tryd.results25,b5_];unfold b0f v4_;repeat' first|(with_reducible first|apply a1_|refine a2_ [] ?_)|((with_reducible refine a0_ fun X Y=>?_);go_simp;refine Y _ ?_;clear Y X)
 go_simp
noncomputable def runT0 (r:Ru) : Nat→List Ev→T3×(Unit)→T3×(Unit)
 | _,[],z=>z
 | k,x::l,z=>if apE r z.1.1 x≠0 then (stepT r z.1 x,z.2) else runT0 r (k+1) l (stepT r z.1 x,())
def b0g:AV:=.lit (.func (.func 25) #[] #[])
theorem b6l (r:Ru) (l:List Ev) (hn:r.ranks.length≤1000000) (hnm:∀ k,k < r.ranks.length→(rat r.ranks k).name.size≤1000) (h0:¬a3h r l=0) :
  VH Tryd.prog 24 [] [c4_ r,w2_ l,b0g] [] [] (.tup [.lit (.pointer none),I 0,I (a3h r l)]):=by
 have g1:=r8_ r hn hnm;have g2:=b3_ (decide (l.length≤200)) 8;have g3:VC Tryd.prog 30 [.sl 1 ([(d6_ r).2,unl (decide (l.length≤200)) 8].map y3_)] (I (a3h r l)):=d9_ _ rfl rfl;have ed:decide ((l.length:Int)≤200)=decide (l.length≤200):=by
  by_cases h:l.length≤200
  ·rw [decide_eq_true h,decide_eq_true (by omega)]
  ·rw [decide_eq_false h,decide_eq_false (by omega)]
 rw [←ed] at g2 g3;generalize a3h r l=E at *;generalize (d6_ r).2=A1 at *;generalize unl (decide ((l.length:Int)≤200)) 8=A2 at *;clear ed;unfold b0g;refine i8_ Tryd.func24 rfl (by kernel_rfl) rfl (fun _=>by kernel_rfl) fun M0 w0 vs=>?_;simp only [Tryd.ntmps24,Tryd.results24,b5_];repeat' first|(with_reducible first|apply a9_|apply a3_|apply b4_|apply c5_|apply a1_|refine a2_ [] ?_)|((with_reducible refine a7_ ?_ ?_);(focus (go_simp;done)))|((with_reducible refine a0_ fun X Y=>?_);go_simp;(first|(with_reducible refine ⟨_,g1,?_⟩)|(with_reducible refine ⟨_,g2,?_⟩)|(refine ⟨_,g3,?_⟩)|skip);refine Y _ ?_;clear Y X)
 go_simp
theorem b0h (r:Ru) (l:List Ev) (H:Hp) (V:AV) (hnm:∀ k,k < r.ranks.length→(rat r.ranks k).name.size≤1000) (hr:RuOK r) (hl:l.length≤200) (hc:∀ x∈l,x.car.size≤1000) (h0:a3h r l=0) (z:T3×(Unit)) (hz:runT0 r 0 l (t0 r,())=z)
  (hfin:(goP r 0 l (st0 r)).2.2≠0∧H=[]∧V = .tup [.lit (.pointer none),I ((goP r 0 l (st0 r)).2.1:Int),I (goP r 0 l (st0 r)).2.2]∨(goP r 0 l (st0 r)).2.2=0∧H=[some (.bag 81 1 false none (d3_ z.1.1.q)),some (.box [.osl 0,.osl 2,I z.1.1.time,.sl 4 (r.ranks.map Rk.av),I r.back,I r.ret,.sl 3 (z.1.2.1.map Sg.av)]),some (.arr 85 3 z.1.2.2 (z.1.1.tk.map Tk.av))]∧V = .tup [.ref 1 0,I 0,I 0]) :
  VH Tryd.prog 24 [] [c4_ r,w2_ l,b0g] [] H V:=by
 have hn:r.ranks.length≤1000000:=by have:=hr.n6;omega
 have g1:=r8_ r hn hnm;have g2:=b3_ (decide (l.length≤200)) 8;have g3:VC Tryd.prog 30 [.sl 1 ([(d6_ r).2,unl (decide (l.length≤200)) 8].map y3_)] (I (a3h r l)):=d9_ _ rfl rfl;have ed:decide ((l.length:Int)≤200)=decide (l.length≤200):=by rw [decide_eq_true hl,decide_eq_true (by omega)]
 rw [←ed] at g2 g3;rw [h0] at g3;generalize (d6_ r).2=A1 at *;generalize unl (decide ((l.length:Int)≤200)) 8=A2 at *;have ge:=b2i r hn;have HF:=Lib.hid hfin;have HR:=Lib.hid hr;have HC:=Lib.hid hc;have HZ:=Lib.hid hz;clear ed h0 hfin hr hnm hc hn hz;unfold b0g;refine i8_ Tryd.func24 rfl (by kernel_rfl) rfl (fun _=>by kernel_rfl) fun M0 w0 vs=>?_;simp only [Tryd.ntmps24,Tryd.results24,b5_];repeat' with_reducible apply a9_
 refine a2_ [] ?_;repeat' first|(with_reducible first|apply a9_|apply a3_|apply a1_)|((with_reducible refine a0_ fun X Y=>?_);go_simp;refine Y _ ?_;clear Y X)
 refine a2_ [] ?_;repeat' first|(with_reducible first|apply a9_|apply a3_|apply a1_)|((with_reducible refine a0_ fun X Y=>?_);go_simp;(first|(with_reducible refine ⟨_,g1,?_⟩)|(with_reducible refine ⟨_,g2,?_⟩)|(refine ⟨_,g3,?_⟩)|skip);refine Y _ ?_;clear Y X)
 refine a2_ [] ?_;repeat' first|(with_reducible first|apply a9_|apply a3_|apply b0_|apply a1_)|((with_reducible refine a6_ ?_ ?_);(focus (go_simp;done)))|((with_reducible refine a0_ fun X Y=>?_);go_simp;refine Y _ ?_;clear Y X)
 refine c6_ (b9_ [] 1 ⟨rfl,rfl⟩ ?_);simp only [List.take,List.drop];repeat' first|with_reducible apply a1_|((with_reducible refine a0_ fun X Y=>?_);go_simp;refine Y _ ?_;clear Y X)
 refine e5_ [] [] [] (a8j r (st0 r) [] true true) (.ref 1 0) rfl (by go_simp) ?_ ?_
 ·unfold j7_;go_simp;refine ⟨_,_,⟨_,ge⟩,?_⟩;unfold a8j;go_simp;kernel_rfl
 unfold a8j;go_simp;refine b9_ [] 1 ⟨rfl,rfl⟩ ?_;simp only [List.take,List.drop];repeat' first|with_reducible apply a1_|((with_reducible refine a0_ fun X Y=>?_);go_simp;refine Y _ ?_;clear Y X)
 apply e3_;refine d7_ 1 6 3 rfl rfl rfl ?_;repeat' with_reducible apply a9_
 refine a2_ [] ?_;repeat' first|(with_reducible first|apply a3_|apply a8_|apply a1_)|((with_reducible refine a0_ fun X Y=>?_);go_simp;refine Y _ ?_;clear Y X)
 apply a0c (α:=Nat×T3×(Unit)) [2,10,27,28] (fun (x:Nat×T3×(Unit))=>[(29,I (x.1:Int))]) (fun (x:Nat×T3×(Unit))=>([some (.bag 81 1 false none (d3_ x.2.1.1.q)),some (.box [.osl 0,.osl 2,I x.2.1.1.time,.sl 4 (r.ranks.map Rk.av),I r.back,I r.ret,.sl 3 (x.2.1.2.1.map Sg.av)]),some (.arr 85 3 x.2.1.2.2 (x.2.1.1.tk.map Tk.av))] : Hp)) (fun (x:Nat×T3×(Unit))=>Hid (Inv r x.2.1.1∧goP r x.1 (l.drop x.1) x.2.1.1=goP r 0 l (st0 r)∧runT0 r x.1 (l.drop x.1) x.2=z)∧x.1≤l.length∧Hid (True)) (fun (x:Nat×T3×(Unit))=>l.length - x.1) ((0,(st0 r,([] : List Sg),true),())) ⟨Lib.hid ⟨Inv.st0 HR.out,rfl,HZ.out⟩,Nat.zero_le _,Lib.hid (trivial)⟩
 ·(go_simp<;>exact rfl)
 ·go_simp
 rintro ⟨k,⟨s,m,a⟩,y⟩ ⟨HI,hk,HY⟩ K hK;simp only at HI hk hK HY ⊢;by_cases hkl:k < l.length
 ·obtain ⟨w1,w2,w3,w4,w5,w6⟩:=ixs (m:=k) (by omega);have el:l.drop k=e6_ l k::l.drop (k+1):=by rw [o7_ hkl,←List.drop_eq_getElem_cons hkl]
  have wa:=b4f r (s,m,a) (e6_ l k) HR.out HI.out.1 (HC.out _ (by rw [o7_ hkl];exact List.getElem_mem hkl));obtain ⟨T2,hT2⟩ : ∃ T2,stepT r (s,m,a) (e6_ l k)=T2:=⟨_,rfl⟩
  rw [hT2] at wa;obtain ⟨s2,m2,a2⟩:=T2;have hAU:apE r s (e6_ l k)=0→(apU r s (e6_ l k)).1=s2∧(apU r s (e6_ l k)).2=m2:=fun h=>by
   have e1:=congrArg (fun t:T3=>t.1) hT2;have e2:=congrArg (fun t:T3=>t.2.1) hT2;simp only [stepT,apR,if_pos h] at e1 e2;exact ⟨e1,e2⟩
  have hE:goP r k (l.drop k) s=if apE r s (e6_ l k)≠0 then (s,k,apE r s (e6_ l k)) else goP r (k+1) (l.drop (k+1)) s2:=by
   rw [el,goP];by_cases h:apE r s (e6_ l k)=0
   ·rw [if_neg (by simp [h]),if_neg (by simp [h]),(hAU h).1]
   ·rw [if_pos h,if_pos h]
  have hU:runT0 r k (l.drop k) ((s,m,a),y)=if apE r s (e6_ l k)≠0 then ((s2,m2,a2),y) else runT0 r (k+1) (l.drop (k+1)) ((s2,m2,a2),()):=by rw [el,runT0,hT2]
  have hI2:apE r s (e6_ l k)=0→Inv r s2:=fun h=>by
   rw [←(hAU h).1];exact (HI.out.1.ap HR.out h).1
  have h1:=HI.out.2.1;have h2:=HI.out.2.2;rw [hE] at h1;rw [hU] at h2;have wt:=c7q r (s2,m2,a2) (e6_ l k) (k:Int);clear hT2 HI hE hU el hAU;unfold b0f v4_ at wa;simp only at wa;unfold b0f v4_ at wt;have H1:=Lib.hid h1;have H2:=Lib.hid h2;have HI2:=Lib.hid hI2;clear h1 h2 hI2;have WT:=Lib.hid wt;clear wt;generalize apE r s (e6_ l k)=E at *;repeat' with_reducible apply a9_
  refine a2_ [] ?_;repeat' first|(with_reducible first|apply a9_|apply a3_|apply b0_|apply a8_|apply a1_)|((with_reducible refine a7_ ?_ ?_);(focus (go_simp;done)))|((with_reducible refine a0_ fun X Y=>?_);go_simp;refine Y _ ?_;clear Y X)
  refine a2_ [] ?_;repeat' first|(with_reducible first|apply a9_|apply a3_|apply a1_)|((with_reducible refine a0_ fun X Y=>?_);go_simp;refine Y _ ?_;clear Y X)
  refine c6_ (b9_ [] 2 ⟨rfl,rfl⟩ ?_);simp only [List.take,List.drop];repeat' first|with_reducible apply a1_|((with_reducible refine a0_ fun X Y=>?_);go_simp;refine Y _ ?_;clear Y X)
  refine e5_ [1,0,2] [1] [] [some (.box [.osl 1,.osl 2,I s2.time,.sl 4 (r.ranks.map Rk.av),I r.back,I r.ret,.sl 3 (m2.map Sg.av)]),some (.bag 81 1 false none (d3_ s2.q)),some (.arr 85 3 a2 (s2.tk.map Tk.av))] (I E) rfl (by go_simp) ?_ ?_
  ·unfold j7_;go_simp;refine ⟨_,_,_,wa,?_⟩;go_simp;kernel_rfl
  go_simp;refine b9_ [] 1 ⟨rfl,rfl⟩ ?_;simp only [List.take,List.drop];repeat' first|with_reducible apply a1_|((with_reducible refine a0_ fun X Y=>?_);go_simp;refine Y _ ?_;clear Y X)
  apply e3_;repeat' with_reducible first|apply a9_|apply a3_
  by_cases he:E=0
  ·subst he;have h1:=H1.out;have h2:=H2.out;rw [if_neg (by simp)] at h1 h2;have hi2:=HI2.out rfl;have wt:=WT.out;clear H1 HI2 WT H2 HY;have H1:=Lib.hid h1;have H2:=Lib.hid h2;have HI2:=Lib.hid hi2;clear h1 h2 hi2;refine a2_ [] ?_;repeat' first|(with_reducible first|apply a3_|apply b0_|apply a1_)|((with_reducible refine a6_ ?_ ?_);(focus (go_simp;done)))|((with_reducible refine a0_ fun X Y=>?_);go_simp;refine Y _ ?_;clear Y X)
   refine c6_ (b9_ [] 4 ⟨rfl,rfl⟩ ?_);simp only [List.take,List.drop];repeat' first|with_reducible apply a1_|((with_reducible refine a0_ fun X Y=>?_);go_simp;refine Y _ ?_;clear Y X)
   refine e5_ [1,0,2] [1] [] [some (.box [.osl 1,.osl 2,I s2.time,.sl 4 (r.ranks.map Rk.av),I r.back,I r.ret,.sl 3 (m2.map Sg.av)]),some (.bag 81 1 false none (d3_ s2.q)),some (.arr 85 3 a2 (s2.tk.map Tk.av))] (.tup []) rfl (by go_simp) ?_ ?_
   ·unfold j7_;go_simp;refine ⟨_,_,_,wt,?_⟩;go_simp;kernel_rfl
   go_simp;apply e3_;repeat' with_reducible first|apply a3_|apply b1_
   refine a2_ [] ?_;repeat' first|(with_reducible first|apply a3_|apply a1_)|((with_reducible refine a0_ fun X Y=>?_);go_simp;refine Y _ ?_;clear Y X)
   refine hK _ (k+1,(s2,m2,a2),()) ⟨Lib.hid ⟨HI2.out,H1.out,H2.out⟩,hkl,Lib.hid (trivial)⟩ (by simp only;omega) ?_;go_simp
  ·have h1:=H1.out;have h2:=H2.out;rw [if_pos he] at h1 h2;rcases HF.out with ⟨q1,rfl,q3⟩|⟨q1,_,_⟩
   ·rw [←h1] at q3;simp only at q3;subst q3;subst h2;clear HF H1 HI2 H2 h1 q1 hK HZ WT;refine a2_ [] ?_;repeat' first|(with_reducible first|apply a9_|apply a3_|apply a1_)|((with_reducible refine a7_ ?_ ?_);(focus (go_simp;done)))|((with_reducible refine a0_ fun X Y=>?_);go_simp;refine Y _ ?_;clear Y X)
    refine a2_ [] ?_;repeat' first|(with_reducible first|apply a3_|apply b4_|apply c5_|apply c2_|apply a1_)|((with_reducible refine a0_ fun X Y=>?_);go_simp;refine Y _ ?_;clear Y X)
    go_simp
   ·rw [←h1] at q1;exact absurd q1 he
 ·have hkE:k=l.length:=by omega
  have h1:=HI.out.2.1;have h2:=HI.out.2.2;rw [hkE,List.drop_length] at h1 h2;rw [goP] at h1;rw [runT0] at h2;rcases HF.out with ⟨q1,_,_⟩|⟨_,q2,q3⟩
  ·rw [←h1] at q1;exact absurd rfl q1
  ·subst q3;subst h2;subst q2;subst hkE;clear HF h1 HI hK HZ;repeat' with_reducible apply a9_
   refine a2_ [] ?_;repeat' first|(with_reducible first|apply a9_|apply a3_|apply b8_|apply d4_|apply b7_|apply a1_)|((with_reducible refine a6_ ?_ ?_);(focus (go_simp;done)))|((with_reducible refine a0_ fun X Y=>?_);go_simp;refine Y _ ?_;clear Y X)
   refine a2_ [] ?_;repeat' first|(with_reducible first|apply a3_|apply c5_|apply a1_)|((with_reducible refine a0_ fun X Y=>?_);go_simp;refine Y _ ?_;clear Y X)
   go_simp
noncomputable def runTS (r:Ru) : Nat→List Ev→T3×(List Sg×Bool)→T3×(List Sg×Bool)
 | _,[],z=>z
 | k,x::l,z=>if apE r z.1.1 x≠0 then (stepT r z.1 x,z.2) else runTS r (k+1) l (stepT r z.1 x,(z.2.1++b6b x++(stepT r z.1 x).2.1,false))
end Go.Proofs.YtoibondihdhnoaaDoor
