/- Texts in one: The law of the texts of states: true whatever the input is. -/
import Derived.Test.YtoibondihdhnoaaGreatDoorFRB54
import Derived.Test.YtoibondihdhnoaaGreatDoorFRB55
import Derived.Test.YtoibondihdhnoaaGreatDoorFRB50
namespace Go.Proofs.YtoibondihdhnoaaGreatDoor
open Go.RowKit
set_option maxRecDepth 100000
set_option maxHeartbeats 4000000
theorem d0j (s:St) (hnq:s.q.length≤100000) (hnt:s.tk.length≤100000) (hq:∀ l∈s.q,l.length≤100000) : VC Tryz.prog 25 [i0_ s,i0_ s] (B true):=by
 have HQ:=Lib.hid hq
 clear hq
 refine c0_ Tryz.func25 rfl (by kernel_rfl) (by kernel_rfl) rfl fun M0 w0=>?_
 simp only [Tryz.ntmps25,Tryz.results25,b4_]
 repeat' (first|(with_reducible first|apply a9_|apply a3_|apply b0_|apply a8_|apply a1_|refine a2_ [] ?_)|((with_reducible refine a5_ ?_ ?_);(focus (go_simp;done)))|((with_reducible refine a0_ fun X Y=>?_);go_simp;refine Y _ ?_;clear Y X))
 apply s5_ [2,3] (fun k=>[(5,I k)]) (fun k=>([] : Hp)) (fun _=>false) (s.q.length)
 ·go_simp<;>exact rfl
 ·go_simp
 ·intro k hk HB HP K hK
  obtain ⟨w1,w2,w3,w4,w5,w6⟩:=ixs (m:=k) (by omega)
  have g:=c1v (qat s.q k) (by rw [g4_ hk];have:=HQ.out _ (List.getElem_mem hk);omega)
  repeat' (first|(with_reducible first|apply a9_|apply a3_|apply b0_|apply a8_|apply b3_|apply a1_|refine a2_ [] ?_|apply a6_)|((with_reducible refine a7_ ?_ ?_);(focus (go_simp;done)))|((with_reducible refine a5_ ?_ ?_);(focus (go_simp;done)))|((with_reducible first|refine a0_ fun X Y=>?_|refine a4_ fun X Y=>?_);go_simp;(first|(with_reducible refine ⟨_,g,?_⟩)|skip);refine Y _ ?_;clear Y X)|((refine b9_ 12 12 [] rfl (by kernel_rfl) (by kernel_rfl) ?_);simp only [List.take,List.drop]))
  refine hK _ ?_
  go_simp
 ·intro k hk HB HP K
  exact absurd HP.out (by simp)
 ·intro HB K
  repeat' (first|(with_reducible first|apply a9_|apply a3_|apply c2_|apply d0_|apply a8_|apply b7_|apply a1_|refine a2_ [] ?_)|((with_reducible refine a5_ ?_ ?_);(focus (go_simp;done)))|((with_reducible refine a0_ fun X Y=>?_);go_simp;refine Y _ ?_;clear Y X))
  apply s5_ [2,3] (fun k=>[(6,I k)]) (fun k=>([] : Hp)) (fun _=>false) (s.tk.length)
  ·go_simp<;>exact rfl
  ·go_simp
  ·intro k hk HB HP K hK
   obtain ⟨w1,w2,w3,w4,w5,w6⟩:=ixs (m:=k) (by omega)
   repeat' (first|(with_reducible first|apply a9_|apply a3_|apply b0_|apply a8_|apply b3_|apply a1_|refine a2_ [] ?_|apply a6_)|((with_reducible refine a7_ ?_ ?_);(focus (go_simp;done)))|((with_reducible refine a5_ ?_ ?_);(focus (go_simp;done)))|((with_reducible first|refine a0_ fun X Y=>?_|refine a4_ fun X Y=>?_);go_simp;refine Y _ ?_;clear Y X)|((refine b9_ 11 11 [] rfl (by kernel_rfl) (by kernel_rfl) ?_);simp only [List.take,List.drop]))
   refine hK _ ?_
   go_simp
  ·intro k hk HB HP K
   exact absurd HP.out (by simp)
  ·intro HB K
   repeat' (first|(with_reducible first|apply a9_|apply a3_|apply c2_|apply c4_|apply d0_|apply b7_|apply a1_|refine a2_ [] ?_)|((with_reducible refine a5_ ?_ ?_);(focus (go_simp;done)))|((with_reducible refine a0_ fun X Y=>?_);go_simp;refine Y _ ?_;clear Y X))
   go_simp
theorem V0.nilSt {w:World} {M:Nat→Nat→Prop} {v:Value} (hv:V0 w M (.agg [g8_,g8_,I 0]) v) : V0 w M (i0_ ⟨[],[],0⟩) v:=by
 cases hv with
 | agg _ us hl h1 h2=>
  refine .agg _ us hl (fun c hc=>?_) fun j c u hc hu=>?_
  ·simp only [List.mem_cons,List.not_mem_nil,or_false] at hc
   rcases hc with rfl|rfl|rfl<;>rfl
  ·rcases j with _|_|_|j
   ·simp only [List.getElem?_cons_zero,Option.some.injEq] at hc
    subst hc
    exact (h2 0 _ u rfl hu).nilSl 1
   ·simp only [List.getElem?_cons_zero,List.getElem?_cons_succ,Option.some.injEq] at hc
    subst hc
    exact (h2 1 _ u rfl hu).nilSl 3
   ·exact h2 2 c u hc hu
   ·simp at hc
theorem V0.tupSt {w:World} {M:Nat→Nat→Prop} {v:Value} {e:Int} (hv:V0 w M (.tup [.agg [g8_,g8_,I 0],I e]) v) : V0 w M (.tup [i0_ ⟨[],[],0⟩,I e]) v:=by
 cases hv with
 | tup _ us hl h2=>
  refine .tup _ us hl fun j c u hc hu=>?_
  rcases j with _|_|j
  ·simp only [List.getElem?_cons_zero,Option.some.injEq] at hc
   subst hc
   exact (h2 0 _ u rfl hu).nilSt
  ·exact h2 1 c u hc hu
  ·simp at hc
theorem b1z (t:ByteArray) (ht:t.size≤1000) : VC Tryz.prog 62 [S t] (.tup [i0_ (stP (b2_ 124 t)).1,I (stP (b2_ 124 t)).2]):=by
 unfold stP
 cases hb:b6h (b2_ 124 t)
 ·rw [if_neg (by decide)]
  exact a2d t (by omega) hb
 ·rw [if_pos rfl]
  exact (a9m t ht hb).weak fun w M v hv=>hv.tupSt
theorem b2a (t:ByteArray) (ht:t.size≤1000) : VC Tryz.prog 63 [S t] (.tup [i0_ (stP (b2_ 124 t)).1,I (stP (b2_ 124 t)).2]):=by
 unfold stP
 cases hb:b6h (b2_ 124 t)
 ·rw [if_neg (by decide)]
  exact a9k t ht hb
 ·rw [if_pos rfl]
  exact (a9l t ht hb).weak fun w M v hv=>hv.tupSt
theorem a9n {s:St} {t:ByteArray} (ht:t.size≤100000) (h:stP (b2_ 124 t)=(s,0)) : VC Tryz.prog 62 [S t] (.tup [i0_ s,I 0]):=by
 unfold stP at h
 cases hb:b6h (b2_ 124 t)
 ·rw [hb,if_neg (by decide)] at h
  have g:=a2d t ht hb
  rw [(Prod.mk.inj h).1] at g
  exact g
 ·rw [hb,if_pos rfl] at h
  have:=(Prod.mk.inj h).2
  cases this
theorem c2v {t:ByteArray} (ht:t.size≤1000) : (stP (b2_ 124 t)).1.q.length≤100000∧(stP (b2_ 124 t)).1.tk.length≤100000∧∀ l∈(stP (b2_ 124 t)).1.q,l.length≤100000:=by
 have hpl:=i5_ 124 t
 have hps:∀ p∈b2_ 124 t,p.size≤1000:=fun p hp=>Nat.le_trans (g2_ hp) ht
 unfold stP
 split
 ·simp
 ·refine ⟨by rw [a3i];omega,?_,fun l hl=>?_⟩
  ·show ((k8_ (b2_ 124 t)).map tkW).length≤_
   rw [List.length_map]
   unfold k8_
   by_cases h:(b2_ 124 t).length - 1 < (b2_ 124 t).length
   ·have:=(k4_ (hps _ (a2t h))).1
    omega
   ·have e:tat (b2_ 124 t) ((b2_ 124 t).length - 1)=default:=by
     unfold tat
     rw [List.getD_eq_getElem?_getD,List.getElem?_eq_none (by omega)]
     rfl
    have hz:(tat (b2_ 124 t) ((b2_ 124 t).length - 1)).size≤1000:=by rw [e];decide
    have:=(k4_ hz).1
    omega
  ·obtain ⟨p,hp,rfl⟩:=List.mem_map.1 (show l∈(((b2_ 124 t).drop 1).take ((b2_ 124 t).length - 2)).map c1_ from hl)
   have:=(k4_ (hps p (List.mem_of_mem_drop (List.mem_of_mem_take hp)))).1
   omega
theorem c6d {r:Ru} {s:St} (h:ckE r s=0) : ToldS s:=by
 unfold ckE at h
 split at h
 ·rename_i h1
  exact absurd h h1
 ·rename_i h1
  obtain ⟨hr,-,-⟩:=a4r (r:=r) (by simpa using h1)
  obtain ⟨hi,-⟩:=b7g.1 h
  have h0:=hr.n0
  have h6:=hr.n6
  have ht:=hi.t0
  refine ⟨by rw [hi.len];omega,fun l hl c hc=>hi.name c ?_,fun t htm=>⟨hi.name _ ?_,?_,?_⟩,by omega⟩
  ·exact List.mem_append_left _ (List.mem_flatten.2 ⟨l,hl,hc⟩)
  ·exact List.mem_append_right _ (List.mem_map_of_mem htm)
  ·have:=hi.tkt t htm
   omega
  ·have:=hi.tkr t htm
   omega
theorem b2b {s:St} (h:a5o s=true) (ht:∀ t∈s.tk,i64 t.rank∧i64 t.time) (hm:i64 s.time) : (r3_ s).size≤100000:=by
 unfold a5o at h
 simp only [Bool.and_eq_true,decide_eq_true_eq,Bool.not_eq_true'] at h
 obtain ⟨⟨⟨h1,h2⟩,h3⟩,h4⟩:=h
 have hno:∀ {p:Nat→Bool} {n:Nat},t8_ p 0 n=false→∀ k,k < n→p k=false:=fun {p n} hp k hk=>by
  cases hb:p k
  ·rfl
  ·rw [f9_ hk hb] at hp
   cases hp
 have z1:(⟨#[32]⟩ : ByteArray).size=1:=rfl
 have z2:(⟨#[124]⟩ : ByteArray).size=1:=rfl
 have z3:(⟨#[58]⟩ : ByteArray).size=1:=rfl
 have r1:∀ l∈s.q,(g9_ l ⟨#[32]⟩).size≤300:=fun l hl=>by
  obtain ⟨k,hk,rfl⟩:=List.getElem_of_mem hl
  have hq:=hno h3 k hk
  unfold b3v at hq
  rw [g4_ hk,Bool.or_eq_false_iff,decide_eq_false_iff_not] at hq
  rw [f8_]
  refine Nat.le_trans (j9_ (B:=20) fun c hc=>?_) ?_
  ·obtain ⟨j,hj,rfl⟩:=List.getElem_of_mem hc
   have:=hno hq.2 j hj
   rw [a3h,decide_eq_false_iff_not,b8_ hj] at this
   omega
  ·rw [z1]
   exact Nat.le_trans (Nat.mul_le_mul_right _ (show s.q[k].length≤14 by omega)) (by decide)
 have r2:∀ t∈s.tk,(f7_ t).size≤66:=fun t htm=>by
  obtain ⟨k,hk,rfl⟩:=List.getElem_of_mem htm
  have hc:=hno h4 k hk
  rw [b3w,decide_eq_false_iff_not,d6_ hk] at hc
  have d1:=y1_ (ht _ htm).1
  have d2:=y1_ (ht _ htm).2
  unfold f7_
  rw [f8_]
  refine Nat.le_trans (j9_ (B:=21) fun x hx=>?_) (by rw [z3];simp)
  simp only [List.mem_cons,List.not_mem_nil,or_false] at hx
  rcases hx with rfl|rfl|rfl<;>omega
 have r3:(i3_ s).size≤3000:=by
  unfold i3_
  rw [f8_]
  refine Nat.le_trans (j9_ (B:=66) fun x hx=>?_) ?_
  ·obtain ⟨t,htm,rfl⟩:=List.mem_map.1 hx
   exact r2 t htm
  ·rw [List.length_map,z1]
   exact Nat.le_trans (Nat.mul_le_mul_right _ (show s.tk.length≤42 by omega)) (by decide)
 unfold r3_
 rw [f8_]
 refine Nat.le_trans (j9_ (B:=3000) fun x hx=>?_) ?_
 ·rcases List.mem_append.1 hx with hx|hx
  ·unfold d5_ at hx
   rcases List.mem_cons.1 hx with rfl|hx
   ·have:=y1_ hm
    omega
   ·obtain ⟨l,hl,rfl⟩:=List.mem_map.1 hx
    have:=r1 l (List.mem_of_mem_take hl)
    omega
  ·rw [List.mem_singleton.1 hx]
   exact r3
 ·rw [List.length_append,a2p (Nat.le_refl _),z2]
  exact Nat.le_trans (Nat.mul_le_mul_right _ (show s.q.length+1+1≤10 by omega)) (by decide)
theorem b2c (r:Ru) (s:St) (t:ByteArray) (hl:r.ranks.length≤9223372036854775807) (hs:InS s) (ht:t.size≤9223372036854775807) : VC Tryz.prog 12 [e0_ r,i0_ s,S t] (B true):=by
 have ha:=c9w
 have gF:=d4t r hl
 have gS:=d0a s hs.q hs.t
 clear hl
 cases hF:d2u r
 ·rw [hF] at gF
  clear hF ht hs gS
  refine c0_ Tryz.func12 rfl (by kernel_rfl) (by kernel_rfl) rfl fun M0 w0=>?_
  simp only [Tryz.ntmps12,Tryz.results12,b4_]
  repeat' (first|(with_reducible first|apply a9_|apply a3_|apply b1_|apply c4_|apply b0_|apply a1_|refine a2_ [] ?_)|((with_reducible refine a7_ ?_ ?_);(focus (go_simp;done)))|((with_reducible refine a5_ ?_ ?_);(focus (go_simp;done)))|((with_reducible refine a0_ fun X Y=>?_);go_simp;(first|(with_reducible refine ⟨_,ha,?_⟩)|(refine ⟨_,gF,?_⟩)|skip);refine Y _ ?_;clear Y X))
  go_simp
 rw [hF] at gF
 cases hS:a5o s
 ·rw [hS] at gS
  clear hF hS ht hs
  refine c0_ Tryz.func12 rfl (by kernel_rfl) (by kernel_rfl) rfl fun M0 w0=>?_
  simp only [Tryz.ntmps12,Tryz.results12,b4_]
  repeat' (first|(with_reducible first|apply a9_|apply a3_|apply b1_|apply c4_|apply b0_|apply a1_|refine a2_ [] ?_)|((with_reducible refine a7_ ?_ ?_);(focus (go_simp;done)))|((with_reducible refine a5_ ?_ ?_);(focus (go_simp;done)))|((with_reducible refine a0_ fun X Y=>?_);go_simp;(first|(with_reducible refine ⟨_,ha,?_⟩)|(refine ⟨_,gF,?_⟩)|(refine ⟨_,gS,?_⟩)|skip);refine Y _ ?_;clear Y X))
  go_simp
 rw [hS] at gS
 have hsm:=c5x hS hs.ti hs.tm
 have hsh:=b2b hS hs.ti hs.tm
 obtain ⟨h8,hnm⟩:=d2v hF
 by_cases h200:t.size≤200
 ·have k1:¬(200:Int) < (t.size:Int):=by omega
  have g1:=d2x s hsm
  have g2:=a1w s hsm
  have g3:=b1z t (by omega)
  have g4:=b2a t (by omega)
  have g5:=a9h s hsm
  obtain ⟨u1,u2,u3⟩:=c2v (t:=t) (by omega)
  have g6:=d0j _ u1 u2 u3
  have g7:=b8e r s (by omega) hnm hsm
  have g9:=d2q s hsm
  generalize stP (b2_ 124 t)=X at *
  obtain ⟨Y,E⟩:=X
  simp only at g3 g4 g6
  by_cases h:ckE r s=0
  ·have g8:=a9n hsh (c9h (c6d h))
   rw [h] at g7
   generalize r3_ s=TX at *
   clear hF hS h8 hnm h hs hsm hsh ht h200 u1 u2 u3
   refine c0_ Tryz.func12 rfl (by kernel_rfl) (by kernel_rfl) rfl fun M0 w0=>?_
   simp only [Tryz.ntmps12,Tryz.results12,b4_]
   repeat' (first|(with_reducible first|apply a9_|apply a3_|apply c4_|apply b0_|apply a1_|refine a2_ [] ?_)|((with_reducible refine a5_ ?_ ?_);(focus (go_simp;done)))|((with_reducible refine a0_ fun X Y=>?_);go_simp;(first|(with_reducible refine ⟨_,ha,?_⟩)|(refine ⟨_,gF,?_⟩)|(refine ⟨_,gS,?_⟩)|(refine ⟨_,g1,?_⟩)|(refine ⟨_,g2,?_⟩)|(with_reducible refine ⟨_,g3,?_⟩)|(with_reducible refine ⟨_,g4,?_⟩)|(refine ⟨_,g5,?_⟩)|(refine ⟨_,g6,?_⟩)|(refine ⟨_,g7,?_⟩)|(with_reducible refine ⟨_,g8,?_⟩)|(refine ⟨_,g9,?_⟩)|skip);refine Y _ ?_;clear Y X))
   go_simp
  ·generalize ckE r s=C at *
   generalize r3_ s=TX at *
   clear hF hS h8 hnm hs hsm hsh ht h200 u1 u2 u3
   refine c0_ Tryz.func12 rfl (by kernel_rfl) (by kernel_rfl) rfl fun M0 w0=>?_
   simp only [Tryz.ntmps12,Tryz.results12,b4_]
   repeat' (first|(with_reducible first|apply a9_|apply a3_|apply b1_|apply c4_|apply b0_|apply a1_|refine a2_ [] ?_)|((with_reducible refine a7_ ?_ ?_);(focus (go_simp;done)))|((with_reducible refine a5_ ?_ ?_);(focus (go_simp;done)))|((with_reducible refine a0_ fun X Y=>?_);go_simp;(first|(with_reducible refine ⟨_,ha,?_⟩)|(refine ⟨_,gF,?_⟩)|(refine ⟨_,gS,?_⟩)|(refine ⟨_,g1,?_⟩)|(refine ⟨_,g2,?_⟩)|(with_reducible refine ⟨_,g3,?_⟩)|(with_reducible refine ⟨_,g4,?_⟩)|(refine ⟨_,g5,?_⟩)|(refine ⟨_,g6,?_⟩)|(refine ⟨_,g7,?_⟩)|skip);refine Y _ ?_;clear Y X))
   go_simp
 ·have k1:(200:Int) < (t.size:Int):=by omega
  clear hF hS h8 hnm hs hsm hsh ht h200
  refine c0_ Tryz.func12 rfl (by kernel_rfl) (by kernel_rfl) rfl fun M0 w0=>?_
  simp only [Tryz.ntmps12,Tryz.results12,b4_]
  repeat' (first|(with_reducible first|apply a9_|apply a3_|apply b1_|apply c4_|apply b0_|apply a1_|refine a2_ [] ?_)|((with_reducible refine a7_ ?_ ?_);(focus (go_simp;done)))|((with_reducible refine a5_ ?_ ?_);(focus (go_simp;done)))|((with_reducible refine a0_ fun X Y=>?_);go_simp;(first|(with_reducible refine ⟨_,ha,?_⟩)|(refine ⟨_,gF,?_⟩)|(refine ⟨_,gS,?_⟩)|skip);refine Y _ ?_;clear Y X))
  go_simp
end Go.Proofs.YtoibondihdhnoaaGreatDoor
