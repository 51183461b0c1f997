/- Texts in one: The law of those that are served first: true whatever the input is. -/
import Derived.Test.YtoibondihdhnoaaGreatDoorFRF57
import Derived.Test.YtoibondihdhnoaaGreatDoorFRF46
import Derived.Test.YtoibondihdhnoaaGreatDoorFRF39
import Derived.Test.YtoibondihdhnoaaGreatDoorFRF31
namespace Go.Proofs.YtoibondihdhnoaaGreatDoor
open Go.RowKit
set_option maxRecDepth 100000
set_option maxHeartbeats 2000000
theorem a8e {r:Ru} {l:List Ev} (h:b4i r l=0) : (e9_ r).2=0∧x4_ r l=0∧l.length≤200∧(goP r 0 l (st0 r)).2.2=0:=by
 unfold b4i at h;by_cases h1:x4_ r l=0
 ·rw [if_neg (by simpa using h1)] at h;obtain ⟨_,h2,h3⟩:=a7j h1;exact ⟨h2,h1,h3,h⟩
 ·rw [if_pos h1] at h;exact absurd h h1
theorem c0v (l:List Ev) : (o9_ l 0 l).length≤l.length:=by
 rw [←c8e];exact c0l l _
set_option maxHeartbeats 4000000
def b0u (r:Ru) (n:Int) (k:Nat) : Bool:=decide ((rat r.ranks k).feeder=n)
def a4u (r:Ru) (n:Int) : Bool:=a4x (b0u r n) 0 r.ranks.length
theorem c8k (r:Ru) (n:Int) (hn:r.ranks.length≤1000000) : VC Tryz.prog 34 [c5_ r,I n] (B (a4u r n)):=by
 obtain ⟨R,hR⟩ : ∃ R,a4u r n=R:=⟨_,rfl⟩
 rw [hR];unfold a4u at hR;have HR:=Lib.hid hR;clear hR;refine b7_ Tryz.func34 rfl (by kernel_rfl) (by kernel_rfl) rfl fun M0 w0=>?_;simp only [Tryz.ntmps34,Tryz.results34,b1_];repeat' first|(with_reducible first|apply a8_|apply a3_|apply a9_|apply a1_|refine a2_ [] ?_)|((with_reducible refine a0_ fun X Y=>?_);go_simp;refine Y _ ?_;clear Y X)
 apply a1z [1,2] (fun k=>[(5,I k)]) (fun k=>([] : Hp)) (b0u r n) (r.ranks.length)
 ·go_simp<;>exact rfl
 ·go_simp
 ·intro k hk HB HP K hK;obtain ⟨w1,w2,w3,w4,w5,w6⟩:=ixs (m:=k) (by omega);have hp:=HP.out;rw [b0u,decide_eq_false_iff_not] at hp;repeat' first|(with_reducible first|apply a8_|apply a3_|apply b0_|apply a9_|apply b3_|apply a1_|refine a2_ [] ?_)|((with_reducible refine a7_ ?_ ?_);(focus (go_simp;done)))|((with_reducible refine a5_ ?_ ?_);(focus (go_simp;done)))|((with_reducible refine a0_ fun X Y=>?_);go_simp;refine Y _ ?_;clear Y X)
  refine hK _ ?_;go_simp
 ·intro k hk HB HP K;have hp:=HP.out;have e:=HR.out;rw [m9_ hk HP.out] at e;subst e;rw [b0u,decide_eq_true_eq] at hp;repeat' first|(with_reducible first|apply a8_|apply a3_|apply b2_|apply c1_|apply b0_|apply a9_|apply c0_|apply a1_|refine a2_ [] ?_)|((with_reducible refine a7_ ?_ ?_);(focus (go_simp;done)))|((with_reducible refine a0_ fun X Y=>?_);go_simp;refine Y _ ?_;clear Y X)
  go_simp
 ·intro HB K;have e:=HR.out;rw [b9q HB.out] at e;subst e;repeat' first|(with_reducible first|apply a8_|apply a3_|apply c4_|apply c1_|apply d9_|apply b6_|apply a1_|refine a2_ [] ?_)|((with_reducible refine a5_ ?_ ?_);(focus (go_simp;done)))|((with_reducible refine a0_ fun X Y=>?_);go_simp;refine Y _ ?_;clear Y X)
  go_simp
theorem a6i {n:Nat} : ∀ {l:List Ev} {k:Nat},k < l.length→k7_ n (l.take (k+1))=k7_ n (l.take k)++if (c6_ l k).kind=0∧(c6_ l k).rank=n then [(c6_ l k).car] else []
 | [],k,h=>by simp at h
 | x::l,0,_=>by
  simp only [List.take_succ_cons,List.take_zero,k7_];rfl
 | x::l,k+1,h=>by
  have ih:=a6i (n:=n) (l:=l) (k:=k) (by simpa using h);have e:c6_ (x::l) (k+1)=c6_ l k:=rfl;rw [e,List.take_succ_cons,List.take_succ_cons,k7_,k7_,ih];split<;>rfl
theorem b0v {n:Nat} : ∀ (l:List Ev),(k7_ n l).length≤l.length
 | []=>Nat.le_refl _
 | x::l=>by
  have:=b0v (n:=n) l;rw [k7_];split
  ·simp only [List.length_cons];omega
  ·simp only [List.length_cons];omega
def c5l (l:List Wt) (k:Nat) : Wt:=l.getD k default
theorem a3e {l:List Wt} {k:Nat} (h:k < l.length) : c5l l k=l[k]:=by simp [c5l,h]
def ofN (n:Nat) (w:Wt) : Bool:=decide (w.rank=(n:Int))
def b2m (W:List Wt) (n k:Nat) : Nat:=((W.take k).filter (ofN n)).length
theorem c0w {W:List Wt} {n k:Nat} (h:k < W.length) : b2m W n (k+1)=if ofN n (c5l W k)=true then b2m W n k+1 else b2m W n k:=by
 unfold b2m;rw [z4_ h,List.filter_append,List.length_append,a3e h];cases hp:ofN n W[k]<;>simp [hp]
theorem c8l {W:List Wt} {n k:Nat} (h:k < W.length) (hp:ofN n (c5l W k)=true) : (W.filter (ofN n))[b2m W n k]? = some (c5l W k):=by
 have e:W.take k++W[k]::W.drop (k+1)=W:=by rw [←List.drop_eq_getElem_cons h,List.take_append_drop]
 have hp2:ofN n W[k]=true:=by rw [←a3e h];exact hp
 have e2:W.filter (ofN n)=(W.take k).filter (ofN n)++W[k]::(W.drop (k+1)).filter (ofN n):=by
  rw [←List.filter_cons_of_pos hp2,←List.filter_append,e]
 rw [a3e h,e2];unfold b2m;rw [List.getElem?_append_right (Nat.le_refl _)];simp
theorem c8m (W:List Wt) (n k:Nat) : b2m W n k≤k:=Nat.le_trans (List.length_filter_le _ _) (by simp;omega)
theorem c4h {l:List Ev} {n k:Nat} (h:a1j n l <+: k7_ n l) (hk:k < (o9_ l 0 l).length) (hp:ofN n (c5l (o9_ l 0 l) k)=true) : ∃ hc:b2m (o9_ l 0 l) n k < (k7_ n l).length,(k7_ n l)[b2m (o9_ l 0 l) n k]=(c5l (o9_ l 0 l) k).car:=by
 have h1:=c8l hk hp;have h2:(a1j n l)[b2m (o9_ l 0 l) n k]? = some (c5l (o9_ l 0 l) k).car:=by
  rw [←a9d l n l 0];show (((o9_ l 0 l).filter (ofN n)).map (·.car))[b2m (o9_ l 0 l) n k]? = _;rw [List.getElem?_map,h1];rfl
 obtain ⟨t,ht⟩:=h;obtain ⟨h3,h4⟩:=List.getElem?_eq_some_iff.1 h2;rw [←ht];exact ⟨by rw [List.length_append];omega,by rw [List.getElem_append_left h3];exact h4⟩
def a8f (l:List Ev) (fd:Bool) (k:Nat) : Bool:=!(decide ((c6_ l k).kind=0) || decide ((c6_ l k).kind=1)) || fd
theorem c8n (r:Ru) (l:List Ev) (number:Int) (hl:r.ranks.length≤9223372036854775807) (hL:l.length≤9223372036854775807) : VC Tryz.prog 6 [c5_ r,q5_ l,I number] (B true):=by
 have ha:=c7n;have gF:=d2j r hl;have gS:=c7o l hL;clear hl hL;cases hF:d0i r
 ·rw [hF] at gF;clear hF gS;refine b7_ Tryz.func6 rfl (by kernel_rfl) (by kernel_rfl) rfl fun M0 w0=>?_;simp only [Tryz.ntmps6,Tryz.results6,b1_];repeat' first|(with_reducible first|apply a8_|apply a3_|apply b2_|apply c1_|apply b0_|apply a1_|refine a2_ [] ?_)|((with_reducible refine a7_ ?_ ?_);(focus (go_simp;done)))|((with_reducible refine a5_ ?_ ?_);(focus (go_simp;done)))|((with_reducible refine a0_ fun X Y=>?_);go_simp;(first|(with_reducible refine ⟨_,ha,?_⟩)|(refine ⟨_,gF,?_⟩)|skip);refine Y _ ?_;clear Y X)
  go_simp
 rw [hF] at gF;obtain ⟨h8,hnm⟩:=d0j hF;by_cases h20:(20:Int) < l.length
 ·clear hF h8 hnm gS;refine b7_ Tryz.func6 rfl (by kernel_rfl) (by kernel_rfl) rfl fun M0 w0=>?_;simp only [Tryz.ntmps6,Tryz.results6,b1_];repeat' first|(with_reducible first|apply a8_|apply a3_|apply b2_|apply c1_|apply b0_|apply a1_|refine a2_ [] ?_)|((with_reducible refine a7_ ?_ ?_);(focus (go_simp;done)))|((with_reducible refine a5_ ?_ ?_);(focus (go_simp;done)))|((with_reducible refine a0_ fun X Y=>?_);go_simp;(first|(with_reducible refine ⟨_,ha,?_⟩)|(refine ⟨_,gF,?_⟩)|skip);refine Y _ ?_;clear Y X)
  go_simp
 cases hS:b0i l
 ·rw [hS] at gS;clear hF hS h8 hnm;refine b7_ Tryz.func6 rfl (by kernel_rfl) (by kernel_rfl) rfl fun M0 w0=>?_;simp only [Tryz.ntmps6,Tryz.results6,b1_];repeat' first|(with_reducible first|apply a8_|apply a3_|apply b2_|apply c1_|apply b0_|apply a1_|refine a2_ [] ?_)|((with_reducible refine a7_ ?_ ?_);(focus (go_simp;done)))|((with_reducible refine a5_ ?_ ?_);(focus (go_simp;done)))|((with_reducible refine a0_ fun X Y=>?_);go_simp;(first|(with_reducible refine ⟨_,ha,?_⟩)|(refine ⟨_,gF,?_⟩)|(refine ⟨_,gS,?_⟩)|skip);refine Y _ ?_;clear Y X)
  go_simp
 rw [hS] at gS;obtain ⟨h202,hc⟩:=c3s hS;have hsm:SmallL r l:=⟨by omega,hnm,hc⟩
 have g5:=c4e r l (by omega) hnm (by omega) hc;by_cases h:b4i r l=0
 rotate_left
 ·clear hF hS h8 hnm h202 hc hsm;generalize b4i r l=E at *;refine b7_ Tryz.func6 rfl (by kernel_rfl) (by kernel_rfl) rfl fun M0 w0=>?_;simp only [Tryz.ntmps6,Tryz.results6,b1_];repeat' first|(with_reducible first|apply a8_|apply a3_|apply b2_|apply c1_|apply b0_|apply a1_|refine a2_ [] ?_)|((with_reducible refine a7_ ?_ ?_);(focus (go_simp;done)))|((with_reducible refine a5_ ?_ ?_);(focus (go_simp;done)))|((with_reducible refine a0_ fun X Y=>?_);go_simp;(first|(with_reducible refine ⟨_,ha,?_⟩)|(refine ⟨_,gF,?_⟩)|(refine ⟨_,gS,?_⟩)|(refine ⟨_,g5,?_⟩)|skip);refine Y _ ?_;clear Y X)
  go_simp
 rw [h] at g5;have gH:=a4h r number (by omega);cases hR:inR number 0 ((r.ranks.length:Int) - 1)
 ·rw [hR] at gH;clear hF hS h8 hnm h202 hc hsm h hR;refine b7_ Tryz.func6 rfl (by kernel_rfl) (by kernel_rfl) rfl fun M0 w0=>?_;simp only [Tryz.ntmps6,Tryz.results6,b1_];repeat' first|(with_reducible first|apply a8_|apply a3_|apply b2_|apply c1_|apply b0_|apply a1_|refine a2_ [] ?_)|((with_reducible refine a7_ ?_ ?_);(focus (go_simp;done)))|((with_reducible refine a5_ ?_ ?_);(focus (go_simp;done)))|((with_reducible refine a0_ fun X Y=>?_);go_simp;(first|(with_reducible refine ⟨_,ha,?_⟩)|(refine ⟨_,gF,?_⟩)|(refine ⟨_,gS,?_⟩)|(refine ⟨_,g5,?_⟩)|(refine ⟨_,gH,?_⟩)|skip);refine Y _ ?_;clear Y X)
  go_simp
 rw [hR] at gH;obtain ⟨n,rfl,hn⟩ : ∃ n:Nat,number=n∧n < r.ranks.length:=by
  simp only [inR,Bool.and_eq_true,decide_eq_true_eq] at hR;exact ⟨number.toNat,by omega,by omega⟩
 by_cases hf:(rat r.ranks n).feeder = -1
 rotate_left
 ·clear hF hS h8 hnm h202 hc hsm h hR;refine b7_ Tryz.func6 rfl (by kernel_rfl) (by kernel_rfl) rfl fun M0 w0=>?_;simp only [Tryz.ntmps6,Tryz.results6,b1_];repeat' first|(with_reducible first|apply a8_|apply a3_|apply b2_|apply c1_|apply b0_|apply a1_|refine a2_ [] ?_)|((with_reducible refine a7_ ?_ ?_);(focus (go_simp;done)))|((with_reducible refine a5_ ?_ ?_);(focus (go_simp;done)))|((with_reducible refine a0_ fun X Y=>?_);go_simp;(first|(with_reducible refine ⟨_,ha,?_⟩)|(refine ⟨_,gF,?_⟩)|(refine ⟨_,gS,?_⟩)|(refine ⟨_,g5,?_⟩)|(refine ⟨_,gH,?_⟩)|skip);refine Y _ ?_;clear Y X)
  go_simp
 have g1:=b2a r (by omega);have g2:=b9l l (by omega);have g4:=b9j r l hsm;have g6:=c8k r n (by omega);rw [if_pos h,h] at g4;have hwl:=c0v l;have hl20:l.length≤20:=by omega
 have hkd:∀ k,k < l.length→0≤(c6_ l k).kind∧(c6_ l k).kind≤5:=fun k hk=>by
  have:=b5e (c5b l 0 (st0 r) (a8e h).2.2.2 _ (List.getElem_mem hk));rwa [←j6_ hk] at this
 have HKD:=Lib.hid hkd;have HLAW:Hid ((∀ k,k < l.length→a8f l (a4u r n) k=false)→l≠[]→a1j n l <+: k7_ n l):=Lib.hid fun hs hne=>by
  have h0:0 < l.length:=List.length_pos_iff.2 hne;have hfd:a4u r n=false:=by
   have:=hs 0 h0;unfold a8f at this;simp only [Bool.or_eq_false_iff] at this;exact this.2
  refine b7x (a3t (a8e h).1).1 hn ⟨hf,fun k hk he=>?_⟩ (fun x hx=>?_) (a8e h).2.2.2
  ·have:a4u r n=true:=m9_ hk (by rw [b0u,he];simp);rw [hfd] at this;cases this
  ·obtain ⟨k,hk,rfl⟩:=List.getElem_of_mem hx;have:=hs k hk;unfold a8f at this;simp only [Bool.or_eq_false_iff,Bool.not_eq_false',Bool.or_eq_true,decide_eq_true_eq] at this;rw [←j6_ hk];exact this.1
 have ec:k7_ n (l.take l.length)=k7_ n l:=by rw [List.take_length]
 have EC:=Lib.hid ec;have hclen:=fun k=>b0v (n:=n) (l.take k);have HCL:=Lib.hid hclen;have HW0:Hid (l=[]→o9_ l 0 l=[]):=Lib.hid fun h=>by rw [h];rfl
 have HLW:=Lib.hid hwl;have HFA:=Lib.hid (fun (h:a1j n l <+: k7_ n l) (k:Nat)=>c4h (k:=k) h);have hz:k7_ n []=[]:=rfl;clear hF hS h8 hnm h202 hc hsm h hR hkd ec hclen hwl;generalize o9_ l 0 l=W at *;cases hfd:a4u r n;all_goals rw [hfd] at g6 HLAW
 ·clear hfd;refine b7_ Tryz.func6 rfl (by kernel_rfl) (by kernel_rfl) rfl fun M0 w0=>?_;simp only [Tryz.ntmps6,Tryz.results6,b1_];repeat' first|(with_reducible first|apply a8_|apply a3_|apply b0_|apply a9_|apply a1_|refine a2_ [7] ?_)|((with_reducible refine a5_ ?_ ?_);(focus (go_simp;done)))|((with_reducible refine a0_ fun X Y=>?_);go_simp;(first|(with_reducible refine ⟨_,ha,?_⟩)|(refine ⟨_,gF,?_⟩)|(refine ⟨_,gS,?_⟩)|(refine ⟨_,g5,?_⟩)|(refine ⟨_,gH,?_⟩)|skip);refine Y _ ?_;clear Y X)
  apply a1z [1,2,3] (fun k=>[(8,I k),(7,.osl 0)]) (fun k=>([some (.arr 9 1 (decide (k7_ n (l.take k)=[])) ((k7_ n (l.take k)).map i7_))] : Hp)) (a8f l false) (l.length)
  ·go_simp<;>exact rfl
  ·go_simp
  ·intro k hk HB HP K hK;obtain ⟨w1,w2,w3,w4,w5,w6⟩:=ixs (m:=k) (by omega);have hp:=HP.out;unfold a8f at hp;simp only [Bool.or_false,Bool.not_eq_false',Bool.or_eq_true,decide_eq_true_eq] at hp;have hs:=a6i (n:=n) hk;have hb:(k7_ n (l.take k)).length+1≤1000000000:=by
    have:=HCL.out k;rw [List.length_take] at this;omega
   clear hz;rcases hp with h0|h1
   ·by_cases hrk:(c6_ l k).rank=n
    ·rw [if_pos ⟨h0,hrk⟩] at hs;have HS:=Lib.hid hs;clear hs;repeat' first|(with_reducible first|apply a8_|apply a3_|apply b0_|apply a9_|apply b3_|apply a1_|refine a2_ [] ?_)|((with_reducible refine a7_ ?_ ?_);(focus (go_simp;done)))|((with_reducible refine a5_ ?_ ?_);(focus (go_simp;done)))|((with_reducible refine a0_ fun X Y=>?_);go_simp;(first|(refine ⟨_,g6,?_⟩)|skip);refine Y _ ?_;clear Y X)
     refine hK _ ?_;rw [HS.out];go_simp
    ·rw [if_neg (fun hh=>hrk hh.2),List.append_nil] at hs;have HS:=Lib.hid hs;clear hs;repeat' first|(with_reducible first|apply a8_|apply a3_|apply b0_|apply a9_|apply b3_|apply a1_|refine a2_ [] ?_)|((with_reducible refine a7_ ?_ ?_);(focus (go_simp;done)))|((with_reducible refine a5_ ?_ ?_);(focus (go_simp;done)))|((with_reducible refine a0_ fun X Y=>?_);go_simp;(first|(refine ⟨_,g6,?_⟩)|skip);refine Y _ ?_;clear Y X)
     refine hK _ ?_;rw [HS.out];go_simp
   ·rw [if_neg (fun hh=>by omega),List.append_nil] at hs;have HS:=Lib.hid hs;clear hs;repeat' first|(with_reducible first|apply a8_|apply a3_|apply b0_|apply a9_|apply b3_|apply a1_|refine a2_ [] ?_)|((with_reducible refine a7_ ?_ ?_);(focus (go_simp;done)))|((with_reducible refine a5_ ?_ ?_);(focus (go_simp;done)))|((with_reducible refine a0_ fun X Y=>?_);go_simp;(first|(refine ⟨_,g6,?_⟩)|skip);refine Y _ ?_;clear Y X)
    refine hK _ ?_;rw [HS.out];go_simp
  ·intro k hk HB HP K;obtain ⟨w1,w2,w3,w4,w5,w6⟩:=ixs (m:=k) (by omega);have hp:=HP.out;unfold a8f at hp;simp only [Bool.or_false,Bool.not_eq_true',Bool.or_eq_false_iff,decide_eq_false_iff_not] at hp;obtain ⟨k1,k2⟩:=HKD.out k hk;clear hz;have hk4:(c6_ l k).kind=2∨(c6_ l k).kind=3∨(c6_ l k).kind=5∨(c6_ l k).kind=4:=by omega
   clear hp k1 k2;rcases hk4 with h2|h2|h2|h2
   ·repeat' first|(with_reducible first|apply a8_|apply a3_|apply b2_|apply c1_|apply b0_|apply a9_|apply c0_|apply a1_|refine a2_ [] ?_)|((with_reducible refine a7_ ?_ ?_);(focus (go_simp;done)))|((with_reducible refine a0_ fun X Y=>?_);go_simp;refine Y _ ?_;clear Y X)
    go_simp
   ·repeat' first|(with_reducible first|apply a8_|apply a3_|apply b2_|apply c1_|apply b0_|apply a9_|apply c0_|apply a1_|refine a2_ [] ?_)|((with_reducible refine a7_ ?_ ?_);(focus (go_simp;done)))|((with_reducible refine a0_ fun X Y=>?_);go_simp;refine Y _ ?_;clear Y X)
    go_simp
   ·repeat' first|(with_reducible first|apply a8_|apply a3_|apply b2_|apply c1_|apply b0_|apply a9_|apply c0_|apply a1_|refine a2_ [] ?_)|((with_reducible refine a7_ ?_ ?_);(focus (go_simp;done)))|((with_reducible refine a0_ fun X Y=>?_);go_simp;refine Y _ ?_;clear Y X)
    go_simp
   ·repeat' first|(with_reducible first|apply a8_|apply a3_|apply b2_|apply c1_|apply b0_|apply a9_|apply c0_|apply a1_|refine a2_ [] ?_)|((with_reducible refine a7_ ?_ ?_);(focus (go_simp;done)))|((with_reducible refine a5_ ?_ ?_);(focus (go_simp;done)))|((with_reducible refine a0_ fun X Y=>?_);go_simp;refine Y _ ?_;clear Y X)
    go_simp
  ·intro HB K;rw [EC.out];have HP2:Hid (l≠[]→a1j n l <+: k7_ n l):=Lib.hid (HLAW.out HB.out);have e0:b2m W n 0=0:=rfl;clear hz;repeat' first|(with_reducible first|apply a8_|apply a3_|apply c4_|apply b0_|apply d9_|apply a9_|apply b6_|apply a1_|refine a2_ [] ?_)|((with_reducible refine a5_ ?_ ?_);(focus (go_simp;done)))|((with_reducible refine a0_ fun X Y=>?_);go_simp;(first|(refine ⟨_,g1,?_⟩)|(refine ⟨_,g2,?_⟩)|(refine ⟨_,g4,?_⟩)|skip);refine Y _ ?_;clear Y X)
   apply b6q [2,7,9] (fun k=>[(12,I k),(11,I (b2m W n k))]) (fun k=>([some (.arr 9 1 (decide (k7_ n l=[])) ((k7_ n l).map i7_))] : Hp))  (W.length)
   ·go_simp<;>exact rfl
   ·go_simp
   ·intro k hk K hK;obtain ⟨w1,w2,w3,w4,w5,w6⟩:=ixs (m:=k) (by have:=HLW.out;omega);have hs:=c0w (n:=n) hk;have hb:=c8m W n k;have hlw:=HLW.out;obtain ⟨v1,v2,v3,v4,v5,v6⟩:=ixs (m:=b2m W n k) (by omega);have hne:l≠[]:=fun h=>by
     have:=HLW.out;rw [h] at this;simp only [List.length_nil] at this;omega
    have hfa:=HFA.out (HP2.out hne) k hk;rw [a3e hk] at hs hfa;clear e0;by_cases hr:W[k].rank=n
    ·have ho:ofN n W[k]=true:=by rw [ofN,hr];simp
     rw [if_pos ho] at hs;obtain ⟨hc1,hc2⟩:=hfa ho;have HS:=Lib.hid hs;clear hs hfa ho;generalize b2m W n k=J at *;repeat' first|(with_reducible first|apply a8_|apply a3_|apply b0_|apply a9_|apply b3_|apply a1_|refine a2_ [] ?_|apply a6_)|((with_reducible refine a7_ ?_ ?_);(focus (go_simp;done)))|((with_reducible refine a5_ ?_ ?_);(focus (go_simp;done)))|((with_reducible first|refine a0_ fun X Y=>?_|refine a4_ fun X Y=>?_);go_simp;refine Y _ ?_;clear Y X)|((refine b5_ 16 16 [] rfl (by kernel_rfl) (by kernel_rfl) ?_);simp only [List.take,List.drop])
     refine hK _ ?_;rw [HS.out];go_simp
    ·have ho:ofN n W[k]=false:=by rw [ofN];simpa using hr
     rw [ho] at hs;simp only [Bool.false_eq_true,if_false] at hs;have HS:=Lib.hid hs;clear hs hfa ho;repeat' first|(with_reducible first|apply a8_|apply a3_|apply c4_|apply b0_|apply d9_|apply a9_|apply b6_|apply a1_|refine a2_ [] ?_)|((with_reducible refine a7_ ?_ ?_);(focus (go_simp;done)))|((with_reducible refine a0_ fun X Y=>?_);go_simp;refine Y _ ?_;clear Y X)
     refine hK _ ?_;rw [HS.out];go_simp
   ·intro K;repeat' first|(with_reducible first|apply a8_|apply a3_|apply c4_|apply c1_|apply d9_|apply b6_|apply a1_|refine a2_ [] ?_)|((with_reducible refine a5_ ?_ ?_);(focus (go_simp;done)))|((with_reducible refine a0_ fun X Y=>?_);go_simp;refine Y _ ?_;clear Y X)
    go_simp
 ·clear hfd HLAW HFA;refine b7_ Tryz.func6 rfl (by kernel_rfl) (by kernel_rfl) rfl fun M0 w0=>?_;simp only [Tryz.ntmps6,Tryz.results6,b1_];repeat' first|(with_reducible first|apply a8_|apply a3_|apply b0_|apply a9_|apply a1_|refine a2_ [7] ?_)|((with_reducible refine a5_ ?_ ?_);(focus (go_simp;done)))|((with_reducible refine a0_ fun X Y=>?_);go_simp;(first|(with_reducible refine ⟨_,ha,?_⟩)|(refine ⟨_,gF,?_⟩)|(refine ⟨_,gS,?_⟩)|(refine ⟨_,g5,?_⟩)|(refine ⟨_,gH,?_⟩)|skip);refine Y _ ?_;clear Y X)
  apply a1z [1,2,3] (fun k=>[(8,I k),(7,.osl 0)]) (fun k=>([some (.arr 9 1 (decide (k7_ n (l.take k)=[])) ((k7_ n (l.take k)).map i7_))] : Hp)) (a8f l true) (l.length)
  ·go_simp<;>exact rfl
  ·go_simp
  ·intro k hk HB HP K hK;have hp:=HP.out;unfold a8f at hp;simp only [Bool.or_true,Bool.true_eq_false] at hp
  ·intro k hk HB HP K;obtain ⟨w1,w2,w3,w4,w5,w6⟩:=ixs (m:=k) (by omega);obtain ⟨k1,k2⟩:=HKD.out k hk;have hb:(k7_ n (l.take k)).length+1≤1000000000:=by
    have:=HCL.out k;rw [List.length_take] at this;omega
   clear hz;have hk4:(c6_ l k).kind=0∨(c6_ l k).kind=1∨(c6_ l k).kind=2∨(c6_ l k).kind=3∨(c6_ l k).kind=5∨(c6_ l k).kind=4:=by omega
   clear k1 k2;rcases hk4 with h2|h2|h2|h2|h2|h2
   ·by_cases hrk:(c6_ l k).rank=n
    ·repeat' first|(with_reducible first|apply a8_|apply a3_|apply b2_|apply c1_|apply b0_|apply a9_|apply c0_|apply a1_|refine a2_ [] ?_)|((with_reducible refine a7_ ?_ ?_);(focus (go_simp;done)))|((with_reducible refine a5_ ?_ ?_);(focus (go_simp;done)))|((with_reducible refine a0_ fun X Y=>?_);go_simp;(first|(refine ⟨_,g6,?_⟩)|skip);refine Y _ ?_;clear Y X)
     go_simp
    ·repeat' first|(with_reducible first|apply a8_|apply a3_|apply b2_|apply c1_|apply b0_|apply a9_|apply c0_|apply a1_|refine a2_ [] ?_)|((with_reducible refine a7_ ?_ ?_);(focus (go_simp;done)))|((with_reducible refine a5_ ?_ ?_);(focus (go_simp;done)))|((with_reducible refine a0_ fun X Y=>?_);go_simp;(first|(refine ⟨_,g6,?_⟩)|skip);refine Y _ ?_;clear Y X)
     go_simp
   ·repeat' first|(with_reducible first|apply a8_|apply a3_|apply b2_|apply c1_|apply b0_|apply a9_|apply c0_|apply a1_|refine a2_ [] ?_)|((with_reducible refine a7_ ?_ ?_);(focus (go_simp;done)))|((with_reducible refine a5_ ?_ ?_);(focus (go_simp;done)))|((with_reducible refine a0_ fun X Y=>?_);go_simp;(first|(refine ⟨_,g6,?_⟩)|skip);refine Y _ ?_;clear Y X)
    go_simp
   ·repeat' first|(with_reducible first|apply a8_|apply a3_|apply b2_|apply c1_|apply b0_|apply a9_|apply c0_|apply a1_|refine a2_ [] ?_)|((with_reducible refine a7_ ?_ ?_);(focus (go_simp;done)))|((with_reducible refine a0_ fun X Y=>?_);go_simp;refine Y _ ?_;clear Y X)
    go_simp
   ·repeat' first|(with_reducible first|apply a8_|apply a3_|apply b2_|apply c1_|apply b0_|apply a9_|apply c0_|apply a1_|refine a2_ [] ?_)|((with_reducible refine a7_ ?_ ?_);(focus (go_simp;done)))|((with_reducible refine a0_ fun X Y=>?_);go_simp;refine Y _ ?_;clear Y X)
    go_simp
   ·repeat' first|(with_reducible first|apply a8_|apply a3_|apply b2_|apply c1_|apply b0_|apply a9_|apply c0_|apply a1_|refine a2_ [] ?_)|((with_reducible refine a7_ ?_ ?_);(focus (go_simp;done)))|((with_reducible refine a0_ fun X Y=>?_);go_simp;refine Y _ ?_;clear Y X)
    go_simp
   ·repeat' first|(with_reducible first|apply a8_|apply a3_|apply b2_|apply c1_|apply b0_|apply a9_|apply c0_|apply a1_|refine a2_ [] ?_)|((with_reducible refine a7_ ?_ ?_);(focus (go_simp;done)))|((with_reducible refine a5_ ?_ ?_);(focus (go_simp;done)))|((with_reducible refine a0_ fun X Y=>?_);go_simp;refine Y _ ?_;clear Y X)
    go_simp
  ·intro HB K;have hl0:l=[]:=by
    cases l with
    | nil=>rfl
    | cons x t=>
     have:=HB.out 0 (by simp);unfold a8f at this;simp only [Bool.or_true,Bool.true_eq_false] at this
   have hw0:=HW0.out hl0;subst hl0;subst hw0;clear hz;repeat' first|(with_reducible first|apply a8_|apply a3_|apply c4_|apply b0_|apply d9_|apply a9_|apply b6_|apply a1_|refine a2_ [] ?_)|((with_reducible refine a5_ ?_ ?_);(focus (go_simp;done)))|((with_reducible refine a0_ fun X Y=>?_);go_simp;(first|(refine ⟨_,g1,?_⟩)|(refine ⟨_,g2,?_⟩)|(refine ⟨_,g4,?_⟩)|skip);refine Y _ ?_;clear Y X)
   apply b6q [2,7,9] (fun k=>[(12,I k),(11,I 0)]) (fun k=>([some (.arr 9 1 (decide (k7_ n []=[])) ((k7_ n []).map i7_))] : Hp))  ((0:Nat))
   ·go_simp<;>exact rfl
   ·go_simp
   ·intro k hk K hK;omega
   ·intro K;repeat' first|(with_reducible first|apply a8_|apply a3_|apply c4_|apply c1_|apply d9_|apply b6_|apply a1_|refine a2_ [] ?_)|((with_reducible refine a5_ ?_ ?_);(focus (go_simp;done)))|((with_reducible refine a0_ fun X Y=>?_);go_simp;refine Y _ ?_;clear Y X)
    go_simp
end Go.Proofs.YtoibondihdhnoaaGreatDoor
