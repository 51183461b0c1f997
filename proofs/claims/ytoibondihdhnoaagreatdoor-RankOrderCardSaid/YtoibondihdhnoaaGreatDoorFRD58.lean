/- Texts in one: The law of what is seen of a log: true whatever the input is. -/
import Derived.Test.YtoibondihdhnoaaGreatDoorFRD56
import Derived.Test.YtoibondihdhnoaaGreatDoorFRD45
namespace Go.Proofs.YtoibondihdhnoaaGreatDoor
open Go.RowKit
set_option maxRecDepth 100000
set_option maxHeartbeats 2000000
def b4o (l:List Ev) (k:Nat) : Bool:=decide ((d2_ l k).kind=5)
theorem c0j {r:Ru} {l:List Ev} (h:a8o r l≠0) : a0m r l=([],a8o r l):=by
 unfold a8o at h ⊢;unfold a0m;by_cases h1:w7_ r l≠0
 ·rw [if_pos h1,if_pos h1]
 ·rw [if_neg h1] at h ⊢;rw [if_neg h1,if_pos h]
theorem b4p {r:Ru} {l:List Ev} (h:a8o r l=0) : (e9_ r).2=0∧w7_ r l=0∧l.length≤200∧(goP r 0 l (st0 r)).2.2=0:=by
 unfold a8o at h;by_cases h1:w7_ r l=0
 ·rw [if_neg (by simpa using h1)] at h;obtain ⟨_,h2,h3⟩:=a7r h1;exact ⟨h2,h1,h3,h⟩
 ·rw [if_pos h1] at h;exact absurd h h1
theorem d0s {r:Ru} {l:List Ev} (h:a8o r l=0) : b6f r l=((goP r 0 l (st0 r)).1,g3_ r l (st0 r),0,0):=by
 obtain ⟨_,_,h2,h3⟩:=b4p h;unfold b6f;rw [if_neg (by omega),if_neg (by simpa using h3)]
theorem c8d (r:Ru) (l:List Ev) (hl:r.ranks.length≤9223372036854775807) (hL:l.length≤9223372036854775807) : VC Tryz.prog 5 [c3_ r,q5_ l] (B true):=by
 have ha:=c7k;have gF:=d2h r hl;have gS:=c7l l hL;clear hl hL;cases hF:d0e r
 ·rw [hF] at gF;clear hF gS;refine b7_ Tryz.func5 rfl (by kernel_rfl) (by kernel_rfl) rfl fun M0 w0=>?_;simp only [Tryz.ntmps5,Tryz.results5,b1_];repeat' first|(with_reducible first|apply a8_|apply a3_|apply b4_|apply c1_|apply b0_|apply a1_|refine a2_ [] ?_)|((with_reducible refine a7_ ?_ ?_);(focus (go_simp;done)))|((with_reducible refine a5_ ?_ ?_);(focus (go_simp;done)))|((with_reducible refine a0_ fun X Y=>?_);go_simp;(first|(with_reducible refine ⟨_,ha,?_⟩)|(refine ⟨_,gF,?_⟩)|skip);refine Y _ ?_;clear Y X)
  go_simp
 rw [hF] at gF;cases hS:b0l l
 ·rw [hS] at gS;clear hF hS;refine b7_ Tryz.func5 rfl (by kernel_rfl) (by kernel_rfl) rfl fun M0 w0=>?_;simp only [Tryz.ntmps5,Tryz.results5,b1_];repeat' first|(with_reducible first|apply a8_|apply a3_|apply b4_|apply c1_|apply b0_|apply a1_|refine a2_ [] ?_)|((with_reducible refine a7_ ?_ ?_);(focus (go_simp;done)))|((with_reducible refine a5_ ?_ ?_);(focus (go_simp;done)))|((with_reducible refine a0_ fun X Y=>?_);go_simp;(first|(with_reducible refine ⟨_,ha,?_⟩)|(refine ⟨_,gF,?_⟩)|(refine ⟨_,gS,?_⟩)|skip);refine Y _ ?_;clear Y X)
  go_simp
 rw [hS] at gS;obtain ⟨h8,hnm⟩:=d0f hF;obtain ⟨h202,hc⟩:=c3p hS;have hsm:SmallL r l:=⟨by omega,hnm,hc⟩
 have g1:=b2d r (by omega);have g2:=b9k l (by omega);have g3:=a1r r l hsm;have g4:=c4a r l (by omega) hnm (by omega) hc;by_cases h:a8o r l=0
 ·obtain ⟨h1,h2,h3,h4⟩:=b4p h;have hr:=(a4b h1).1;have g5:=b4n r l (by omega) hr (by omega) hc;rw [d0s h] at g5;have hok:=b0s hr l _ (Inv.st0 hr);have hlaw:=fun h5=>b7n hr l h4 h5;have es:a0m r l=if (g3_ r l (st0 r)).length≤200 then (g3_ r l (st0 r),0) else ([],8):=by
   unfold a0m;rw [if_neg (by simpa using h2),if_neg (by simpa using h4)]
  rw [h] at g4;generalize g3_ r l (st0 r)=G at *;generalize (goP r 0 l (st0 r)).1=S1 at *;simp only at g5;by_cases h200:G.length≤200
  ·rw [es,if_pos h200] at g3;simp only at g3;have g6:=a4q G (by omega);have hb:¬(200:Int) < G.length:=by omega
   have hgl:G.length≤1000000000:=by omega
   have HL:=Lib.hid (fun h5=>c8c hok h200 (hlaw h5));have HC:=Lib.hid (b6g hok);clear hF hS h8 hnm h202 hc hsm h h1 h2 h4 hr hok hlaw es h200;refine b7_ Tryz.func5 rfl (by kernel_rfl) (by kernel_rfl) rfl fun M0 w0=>?_;simp only [Tryz.ntmps5,Tryz.results5,b1_];repeat' first|(with_reducible first|apply a8_|apply a3_|apply b0_|apply a9_|apply a1_|refine a2_ [] ?_)|((with_reducible refine a5_ ?_ ?_);(focus (go_simp;done)))|((with_reducible refine a0_ fun X Y=>?_);go_simp;(first|(with_reducible refine ⟨_,ha,?_⟩)|(refine ⟨_,gF,?_⟩)|(refine ⟨_,gS,?_⟩)|(refine ⟨_,g1,?_⟩)|(refine ⟨_,g2,?_⟩)|(refine ⟨_,g3,?_⟩)|(refine ⟨_,g4,?_⟩)|(refine ⟨_,g5,?_⟩)|(refine ⟨_,g6,?_⟩)|skip);refine Y _ ?_;clear Y X)
   apply a2r [1,9] (fun k=>[(12,I k)]) (fun k=>([some (.box [g0_ S1.q,.sl 3 (S1.tk.map Tk.av),I S1.time])] : Hp)) (b4o l) (l.length)
   ·go_simp<;>exact rfl
   ·go_simp
   ·intro k hk HB HP K hK;obtain ⟨w1,w2,w3,w4,w5,w6⟩:=ixs (m:=k) (by omega);have hp:=HP.out;rw [b4o,decide_eq_false_iff_not] at hp;repeat' first|(with_reducible first|apply a8_|apply a3_|apply b0_|apply a9_|apply b3_|apply a1_|refine a2_ [] ?_)|((with_reducible refine a7_ ?_ ?_);(focus (go_simp;done)))|((with_reducible refine a5_ ?_ ?_);(focus (go_simp;done)))|((with_reducible refine a0_ fun X Y=>?_);go_simp;refine Y _ ?_;clear Y X)
    refine hK _ ?_;go_simp
   ·intro k hk HB HP K;have hp:=HP.out;rw [b4o,decide_eq_true_eq] at hp;repeat' first|(with_reducible first|apply a8_|apply a3_|apply b4_|apply c1_|apply b0_|apply a9_|apply c4_|apply a1_|refine a2_ [] ?_)|((with_reducible refine a7_ ?_ ?_);(focus (go_simp;done)))|((with_reducible refine a0_ fun X Y=>?_);go_simp;refine Y _ ?_;clear Y X)
    go_simp
   ·intro HB K;obtain ⟨e1,e2⟩:=HL.out fun x hx=>by
     obtain ⟨k,hk,rfl⟩:=List.getElem_of_mem hx;have:=HB.out k hk;rw [b4o,decide_eq_false_iff_not,l5_ hk] at this;exact this
    have g7:=a4j G (by omega) HC.out;rw [e1,e2] at g7;repeat' first|(with_reducible first|apply a8_|apply a3_|apply c5_|apply c1_|apply e7_|apply b8_|apply a1_|refine a2_ [85] ?_)|((with_reducible refine a5_ ?_ ?_);(focus (go_simp;done)))|((with_reducible refine a0_ fun X Y=>?_);go_simp;(first|(refine ⟨_,⟨g7,rfl⟩,?_⟩)|skip);refine Y _ ?_;clear Y X)
    go_simp
  ·rw [es,if_neg h200] at g3;simp only at g3;have hb:(200:Int) < G.length:=by omega
   clear hF hS h8 hnm h202 hc hsm h h1 h2 h3 h4 hr hok hlaw es h200;refine b7_ Tryz.func5 rfl (by kernel_rfl) (by kernel_rfl) rfl fun M0 w0=>?_;simp only [Tryz.ntmps5,Tryz.results5,b1_];repeat' first|(with_reducible first|apply a8_|apply a3_|apply b4_|apply c1_|apply b0_|apply a1_|refine a2_ [] ?_)|((with_reducible refine a7_ ?_ ?_);(focus (go_simp;done)))|((with_reducible refine a5_ ?_ ?_);(focus (go_simp;done)))|((with_reducible refine a0_ fun X Y=>?_);go_simp;(first|(with_reducible refine ⟨_,ha,?_⟩)|(refine ⟨_,gF,?_⟩)|(refine ⟨_,gS,?_⟩)|(refine ⟨_,g1,?_⟩)|(refine ⟨_,g2,?_⟩)|(refine ⟨_,g3,?_⟩)|(refine ⟨_,g4,?_⟩)|(refine ⟨_,g5,?_⟩)|skip);refine Y _ ?_;clear Y X)
   go_simp
 ·rw [c0j h] at g3;simp only at g3;clear hF hS h8 hnm h202 hc hsm;generalize a8o r l=E at *;refine b7_ Tryz.func5 rfl (by kernel_rfl) (by kernel_rfl) rfl fun M0 w0=>?_;simp only [Tryz.ntmps5,Tryz.results5,b1_];repeat' first|(with_reducible first|apply a8_|apply a3_|apply b4_|apply c1_|apply b0_|apply a1_|refine a2_ [] ?_)|((with_reducible refine a7_ ?_ ?_);(focus (go_simp;done)))|((with_reducible refine a5_ ?_ ?_);(focus (go_simp;done)))|((with_reducible refine a0_ fun X Y=>?_);go_simp;(first|(with_reducible refine ⟨_,ha,?_⟩)|(refine ⟨_,gF,?_⟩)|(refine ⟨_,gS,?_⟩)|(refine ⟨_,g1,?_⟩)|(refine ⟨_,g2,?_⟩)|(refine ⟨_,g3,?_⟩)|(refine ⟨_,g4,?_⟩)|skip);refine Y _ ?_;clear Y X)
  go_simp
end Go.Proofs.YtoibondihdhnoaaGreatDoor
