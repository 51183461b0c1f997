/- Texts in one: The law of events that are carried out: true whatever the input is. -/
import Derived.Test.YtoibondihdhnoaaGreatDoorFRK55
import Derived.Test.YtoibondihdhnoaaGreatDoorFRK32
import Derived.Test.YtoibondihdhnoaaGreatDoorFRK31
import Derived.Test.YtoibondihdhnoaaGreatDoorFRK35
import Derived.Test.YtoibondihdhnoaaGreatDoorFRK47
import Derived.Test.YtoibondihdhnoaaGreatDoorFRK15
import Derived.Test.YtoibondihdhnoaaGreatDoorFRK9
import Derived.Test.YtoibondihdhnoaaGreatDoorFRK60
import Derived.Test.YtoibondihdhnoaaGreatDoorFRK59
import Derived.Test.YtoibondihdhnoaaGreatDoorFRK51
namespace Go.Proofs.YtoibondihdhnoaaGreatDoor
open Go.RowKit
set_option maxRecDepth 100000
set_option maxHeartbeats 4000000
theorem O8 (r:Ru) (s:St) (x:Ev) (hn:r.ranks.length≤1000000) (hr:RuOK r) (hi:Inv r s) (he:apE r s x=0) : VC Tryz.prog 68 [b8 r,da s,evA x] (.tup [da (apU r s x).1,.sl 3 ((iU x++(apU r s x).2).map Sg.av)]):=by
 obtain ⟨h1,h2,h3,h5,h6⟩:=parts he;have h4:=vd h1;have dw:=hi.small hr;have dQ:r.ranks.length=s.q.length:=hi.len.symm;have hk:x.rank.toNat < s.q.length:=by rw [hi.len];exact h6
 have hS:=JA hr hi hk h4 h3;have hI:=hi.doS hr h1 h2 h5 h3;rw [←hS] at hI;have nJ:=A_ hr hI;have gH:∃ n,cB 0 (xN r s x x.rank.toNat).q≤n∧cD r n (xN r s x x.rank.toNat) (xP r s x x.rank.toNat)=((apU r s x).1,iU x++(apU r s x).2):=by
  refine ⟨cB 0 (doS r s x x.rank.toNat).q,by rw [hS];exact Nat.le_refl _,?_⟩;rw [JB,hS];rfl
 generalize (apU r s x).1=S2 at *;generalize iU x++(apU r s x).2=M2 at *;clear hS he h1 h2;have dL:∀ i,i < s.q.length→(qat s.q i).length≤1000000:=fun i jv=>by
  have h1:=hi.fit i jv;have h2:=hr.pl i (by omega);omega
 obtain ⟨kd,tm,rk,car⟩:=x;simp only at *;obtain ⟨k,rfl⟩ : ∃ k:Nat,rk=k:=⟨rk.toNat,h5⟩
 simp only [Int.toNat_natCast] at *;have rM:kd=0∨kd=1∨kd=2∨kd=3∨kd=4∨kd=5:=by omega
 rcases rM with rfl|rfl|rfl|rfl|rfl|rfl
 ·exact Ox r s S2 tm k car M2 _ _ hn hr dw hk dQ rfl rfl hI (by simp only [List.length_singleton];exact Nat.le_trans (Nat.add_le_add_left (Nat.mul_le_mul_left 2 nJ) 1) (by decide)) gH
 ·exact Oy r s S2 tm k car M2 _ _ hn hr dw hk dQ rfl rfl hI (by simp only [List.length_singleton];exact Nat.le_trans (Nat.add_le_add_left (Nat.mul_le_mul_left 2 nJ) 1) (by decide)) gH
 ·exact OA r s S2 tm k car M2 _ _ hn hr dw hk dQ _ rfl (hr.bk) rfl rfl hI (by simp only [List.length_singleton];exact Nat.le_trans (Nat.add_le_add_left (Nat.mul_le_mul_left 2 nJ) 1) (by decide)) gH
 ·exact Oz r s S2 tm k car M2 _ _ hn hr dw hk dQ rfl rfl hI (by simp only [List.length_singleton];exact Nat.le_trans (Nat.add_le_add_left (Nat.mul_le_mul_left 2 nJ) 1) (by decide)) gH
 ·have hE:jG r s k=0:=h3;have Hm:(rat r.ranks k).feeder≠-1:=fun h=>by
   unfold jG at hE;rw [if_pos h] at hE;exact absurd hE (by decide)
  obtain ⟨p1,p2,p3⟩:=hr.feedN (by omega) Hm;have hp:0 < (qat s.q (feedN r k)).length:=by
   unfold jG at hE;rw [if_neg Hm,cj,cj] at hE;exact of_decide_eq_true (ft (by decide) hE.2.1)
  have mf:(upM s.q k (feedN r k)).length=2:=rfl;exact Ow r s S2 tm k car M2 _ _ _ hn hr dw hk dQ (feedN r k) p1 (by omega) (by omega) hp dL rfl rfl rfl hI (by rw [mf];exact Nat.le_trans (Nat.add_le_add_left (Nat.mul_le_mul_left 2 nJ) 2) (by decide)) gH
 ·exact OD r s S2 tm k car M2 _ _ hn hr dw hk dQ rfl rfl hI (by simp only [List.length_singleton];exact Nat.le_trans (Nat.add_le_add_left (Nat.mul_le_mul_left 2 nJ) 1) (by decide)) gH
theorem O9 (r:Ru) (s:St) (x:Ev) (hl:r.ranks.length≤9223372036854775807) (hs:InS s) (hc:x.car.size≤9223372036854775807) : VC Tryz.prog 13 [b8 r,da s,evA x] (B true):=by
 have ha:=MS;have gF:=MZ r hl;have gS:=No s hs.q hs.t;clear hl;cases hF:vX r
 ·rw [hF] at gF;clear hF hc hs gS;refine aQ Tryz.func13 rfl (by kernel_rfl) rfl fun M0 w0=>?_;simp only [Tryz.ntmps13,Tryz.results13,aB];repeat' first|(with_reducible first|apply af|apply ae|apply aT|apply az|apply ar|apply aa|refine ah [] ?_|(apply aw;·go_simp)|(apply ak;·go_simp))|((with_reducible apply ab);intro X Y;go_simp;(first|(with_reducible refine ⟨_,ha,?_⟩)|(refine ⟨_,gF,?_⟩)|skip);apply Y;clear Y X)
  go_simp
 rw [hF] at gF;cases hS:wh s
 ·rw [hS] at gS;clear hF hS hc hs;refine aQ Tryz.func13 rfl (by kernel_rfl) rfl fun M0 w0=>?_;simp only [Tryz.ntmps13,Tryz.results13,aB];repeat' first|(with_reducible first|apply af|apply ae|apply aT|apply az|apply ar|apply aa|refine ah [] ?_|(apply aw;·go_simp)|(apply ak;·go_simp))|((with_reducible apply ab);intro X Y;go_simp;(first|(with_reducible refine ⟨_,ha,?_⟩)|(refine ⟨_,gF,?_⟩)|(refine ⟨_,gS,?_⟩)|skip);apply Y;clear Y X)
  go_simp
 rw [hS] at gS;have dw:=Np hS hs.ti hs.tm;obtain ⟨h8,ch⟩:=M5 hF;by_cases wW:x.car.size≤20
 rotate_left
 ·have k1:(20:Int) < (x.car.size:Int):=by omega
  obtain ⟨kd,tm,rk,car⟩:=x;simp only [evA] at *;clear hF hS h8 ch hs dw hc wW;refine aQ Tryz.func13 rfl (by kernel_rfl) rfl fun M0 w0=>?_;simp only [Tryz.ntmps13,Tryz.results13,aB];repeat' first|(with_reducible first|apply af|apply ae|apply aT|apply az|apply ar|apply aa|refine ah [] ?_|(apply aw;·go_simp)|(apply ak;·go_simp))|((with_reducible apply ab);intro X Y;go_simp;(first|(with_reducible refine ⟨_,ha,?_⟩)|(refine ⟨_,gF,?_⟩)|(refine ⟨_,gS,?_⟩)|skip);apply Y;clear Y X)
  go_simp
 have k1:¬(20:Int) < (x.car.size:Int):=by omega
 have g1:=ME r (by omega);have g2:=NK s dw;have g4:=Nn r s (by omega) ch dw;by_cases h:ckE r s=0
 rotate_left
 ·have g3:=OR r s x (by omega) ch dw h;have g5:=B4;obtain ⟨kd,tm,rk,car⟩:=x;simp only [evA] at *;generalize ckE r s=E at *;clear hF hS h8 ch hs dw hc wW;refine aQ Tryz.func13 rfl (by kernel_rfl) rfl fun M0 w0=>?_;simp only [Tryz.ntmps13,Tryz.results13,aB];repeat' first|(with_reducible first|apply af|apply ae|apply ar|apply aa|refine ah [] ?_|(apply ak;·go_simp))|((with_reducible apply ab);intro X Y;go_simp;(first|(with_reducible refine ⟨_,ha,?_⟩)|(refine ⟨_,gF,?_⟩)|(refine ⟨_,gS,?_⟩)|skip);apply Y;clear Y X)
  refine wK 11 [] (fun i=>i == 9 || i == 10) (by kernel_rfl) (by kernel_rfl) (by kernel_rfl) (by go_simp) (by go_simp) ?_;simp only [ax];repeat ((with_reducible refine lg rfl fun X Y=>?_);go_simp;(first|(refine ⟨_,g1,?_⟩)|(refine ⟨_,g2,?_⟩)|(refine ⟨_,g3,?_⟩)|skip);refine Y _ (by go_simp) ?_;clear Y X)
  refine lh [some (.box [aW,aW,I 0])] none (.ref 0 0) rfl ⟨rfl,fun _=>rfl,fun _ h=>by cases h⟩ ?_ ?_
  ·intro s2 cl;go_simp
  refine lh [some (.box [aW,aW,I 0])] none .any rfl ⟨rfl,fun _=>rfl,fun _ h=>by cases h⟩ ?_ ?_
  ·intro s2 cl;have q1:lkp s2 7 = .ref 0 0:=(cl 7 (by simp [Op.operands]) (by go_simp)).trans (by go_simp);have q2:lkp s2 35 = .agg [aW,aW,I 0]:=(cl 35 (by simp [Op.operands]) (by go_simp)).trans (by go_simp);clear cl;go_simp
  repeat (first|(with_reducible first|apply af|apply ae|apply aa|refine ah [] ?_|(apply ab;intro X Y;go_simp;apply Y;clear Y X))|((with_reducible refine re ?_);simp only [List.cons_append,List.nil_append,lJ]))
  repeat' first|(with_reducible first|apply af|apply ae|apply aT|apply az|apply ar|apply aa|refine ah [] ?_|(apply aw;·go_simp)|(apply ak;·go_simp))|((with_reducible apply ab);intro X Y;go_simp;(first|(refine ⟨_,g4,?_⟩)|(refine ⟨_,g5,?_⟩)|skip);apply Y;clear Y X)
  go_simp
 have lK:=h;unfold ckE at lK;have h0:(di r).2=0:=by
  apply Classical.byContradiction;intro hh;rw [if_pos hh] at lK;exact hh lK
 rw [if_neg (by simp [h0])] at lK;have hr:=(yg h0).1;have hi:=(J8.1 lK).1;have g3:=OS r s x hr hi (by omega) ch dw h (by omega);have g5:=MV r x (by omega) (by omega);rw [h] at g4;by_cases hx:evE r x=0
 rotate_left
 ·have e:apE r s x=evE r x:=by
   unfold apE;simp [fst,hx]
  have g6:=B4;rw [e,if_neg hx] at g3;obtain ⟨kd,tm,rk,car⟩:=x;simp only [evA] at *;clear e;generalize evE r ⟨kd,tm,rk,car⟩=E at *;clear hF hS h8 ch hs dw hc wW h lK h0 hr hi;refine aQ Tryz.func13 rfl (by kernel_rfl) rfl fun M0 w0=>?_;simp only [Tryz.ntmps13,Tryz.results13,aB];repeat' first|(with_reducible first|apply af|apply ae|apply ar|apply aa|refine ah [] ?_|(apply ak;·go_simp))|((with_reducible apply ab);intro X Y;go_simp;(first|(with_reducible refine ⟨_,ha,?_⟩)|(refine ⟨_,gF,?_⟩)|(refine ⟨_,gS,?_⟩)|skip);apply Y;clear Y X)
  refine wK 11 [] (fun i=>i == 9 || i == 10) (by kernel_rfl) (by kernel_rfl) (by kernel_rfl) (by go_simp) (by go_simp) ?_;simp only [ax];repeat ((with_reducible refine lg rfl fun X Y=>?_);go_simp;(first|(refine ⟨_,g1,?_⟩)|(refine ⟨_,g2,?_⟩)|(refine ⟨_,g3,?_⟩)|skip);refine Y _ (by go_simp) ?_;clear Y X)
  refine lh [some (.box [aW,aW,I 0])] none (.ref 0 0) rfl ⟨rfl,fun _=>rfl,fun _ h=>by cases h⟩ ?_ ?_
  ·intro s2 cl;go_simp
  refine lh [some (.box [aW,aW,I 0])] none .any rfl ⟨rfl,fun _=>rfl,fun _ h=>by cases h⟩ ?_ ?_
  ·intro s2 cl;have q1:lkp s2 7 = .ref 0 0:=(cl 7 (by simp [Op.operands]) (by go_simp)).trans (by go_simp);have q2:lkp s2 35 = .agg [aW,aW,I 0]:=(cl 35 (by simp [Op.operands]) (by go_simp)).trans (by go_simp);clear cl;go_simp
  repeat (first|(with_reducible first|apply af|apply ae|apply aa|refine ah [] ?_|(apply ab;intro X Y;go_simp;apply Y;clear Y X))|((with_reducible refine re ?_);simp only [List.cons_append,List.nil_append,lJ]))
  repeat' first|(with_reducible first|apply af|apply ae|apply aT|apply az|apply ar|apply aa|refine ah [] ?_|(apply aw;·go_simp)|(apply ak;·go_simp))|((with_reducible apply ab);intro X Y;go_simp;(first|(refine ⟨_,g4,?_⟩)|(refine ⟨_,g5,?_⟩)|(refine ⟨_,g6,?_⟩)|skip);apply Y;clear Y X)
  go_simp
 have g6:=N5 r s x hr hi hx;have e:apE r s x=fst [unl (decide (s.time≤x.time)) 9,doE r s x x.rank.toNat]:=by
  unfold apE;rw [hx];rfl
 rw [←e] at g6;rw [hx] at g5;clear e hx;by_cases h1:apE r s x=0
 ·have g7:=O8 r s x (by omega) hr hi h1;have g8:=MG (apU r s x).1 ((hi.ap hr h1).1.small hr);rw [if_pos h1] at g3;rw [h1] at g6;generalize iU x++(apU r s x).2=G at *;generalize (apU r s x).1=Z at *;obtain ⟨kd,tm,rk,car⟩:=x;obtain ⟨zq,Hn,zt⟩:=Z;simp only [evA] at *;clear hF hS h8 ch hs dw hc wW h lK h0 hr hi h1;refine aQ Tryz.func13 rfl (by kernel_rfl) rfl fun M0 w0=>?_;simp only [Tryz.ntmps13,Tryz.results13,aB];repeat' first|(with_reducible first|apply af|apply ae|apply ar|apply aa|refine ah [] ?_|(apply ak;·go_simp))|((with_reducible apply ab);intro X Y;go_simp;(first|(with_reducible refine ⟨_,ha,?_⟩)|(refine ⟨_,gF,?_⟩)|(refine ⟨_,gS,?_⟩)|skip);apply Y;clear Y X)
  refine wK 11 [] (fun i=>i == 9 || i == 10) (by kernel_rfl) (by kernel_rfl) (by kernel_rfl) (by go_simp) (by go_simp) ?_;simp only [ax];repeat ((with_reducible refine lg rfl fun X Y=>?_);go_simp;(first|(refine ⟨_,g1,?_⟩)|(refine ⟨_,g2,?_⟩)|(refine ⟨_,g3,?_⟩)|skip);refine Y _ (by go_simp) ?_;clear Y X)
  refine lh [some (.box [aW,aW,I 0])] none (.ref 0 0) rfl ⟨rfl,fun _=>rfl,fun _ h=>by cases h⟩ ?_ ?_
  ·intro s2 cl;go_simp
  refine lh [some (.box [hJ zq,.sl 3 (Hn.map Tk.av),I zt])] none .any rfl ⟨rfl,fun _=>rfl,fun _ h=>by cases h⟩ ?_ ?_
  ·intro s2 cl;have q1:lkp s2 7 = .ref 0 0:=(cl 7 (by simp [Op.operands]) (by go_simp)).trans (by go_simp);have q2:lkp s2 35=da ⟨zq,Hn,zt⟩:=(cl 35 (by simp [Op.operands]) (by go_simp)).trans (by go_simp);clear cl;go_simp
  repeat (first|(with_reducible first|apply af|apply ae|apply aa|refine ah [] ?_|(apply ab;intro X Y;go_simp;apply Y;clear Y X))|((with_reducible refine re ?_);simp only [List.cons_append,List.nil_append,lJ]))
  repeat' first|(with_reducible first|apply af|apply ae|apply az|apply ar|apply aa|refine ah [] ?_|(apply aw;·go_simp)|(apply ak;·go_simp))|((with_reducible apply ab);intro X Y;go_simp;(first|(refine ⟨_,g4,?_⟩)|(refine ⟨_,g5,?_⟩)|(refine ⟨_,g6,?_⟩)|(refine ⟨_,g7,?_⟩)|(refine ⟨_,g8,?_⟩)|skip);apply Y;clear Y X)
  go_simp
 ·have g7:=B4;rw [if_neg h1] at g3;obtain ⟨kd,tm,rk,car⟩:=x;simp only [evA] at *;generalize apE r s ⟨kd,tm,rk,car⟩=E at *;clear hF hS h8 ch hs dw hc wW h lK h0 hr hi;refine aQ Tryz.func13 rfl (by kernel_rfl) rfl fun M0 w0=>?_;simp only [Tryz.ntmps13,Tryz.results13,aB];repeat' first|(with_reducible first|apply af|apply ae|apply ar|apply aa|refine ah [] ?_|(apply ak;·go_simp))|((with_reducible apply ab);intro X Y;go_simp;(first|(with_reducible refine ⟨_,ha,?_⟩)|(refine ⟨_,gF,?_⟩)|(refine ⟨_,gS,?_⟩)|skip);apply Y;clear Y X)
  refine wK 11 [] (fun i=>i == 9 || i == 10) (by kernel_rfl) (by kernel_rfl) (by kernel_rfl) (by go_simp) (by go_simp) ?_;simp only [ax];repeat ((with_reducible refine lg rfl fun X Y=>?_);go_simp;(first|(refine ⟨_,g1,?_⟩)|(refine ⟨_,g2,?_⟩)|(refine ⟨_,g3,?_⟩)|skip);refine Y _ (by go_simp) ?_;clear Y X)
  refine lh [some (.box [aW,aW,I 0])] none (.ref 0 0) rfl ⟨rfl,fun _=>rfl,fun _ h=>by cases h⟩ ?_ ?_
  ·intro s2 cl;go_simp
  refine lh [some (.box [aW,aW,I 0])] none .any rfl ⟨rfl,fun _=>rfl,fun _ h=>by cases h⟩ ?_ ?_
  ·intro s2 cl;have q1:lkp s2 7 = .ref 0 0:=(cl 7 (by simp [Op.operands]) (by go_simp)).trans (by go_simp);have q2:lkp s2 35 = .agg [aW,aW,I 0]:=(cl 35 (by simp [Op.operands]) (by go_simp)).trans (by go_simp);clear cl;go_simp
  repeat (first|(with_reducible first|apply af|apply ae|apply aa|refine ah [] ?_|(apply ab;intro X Y;go_simp;apply Y;clear Y X))|((with_reducible refine re ?_);simp only [List.cons_append,List.nil_append,lJ]))
  repeat' first|(with_reducible first|apply af|apply ae|apply aT|apply az|apply aa|refine ah [] ?_|(apply aw;·go_simp))|((with_reducible apply ab);intro X Y;go_simp;(first|(refine ⟨_,g4,?_⟩)|(refine ⟨_,g5,?_⟩)|(refine ⟨_,g6,?_⟩)|(refine ⟨_,g7,?_⟩)|skip);apply Y;clear Y X)
  go_simp
end Go.Proofs.YtoibondihdhnoaaGreatDoor
