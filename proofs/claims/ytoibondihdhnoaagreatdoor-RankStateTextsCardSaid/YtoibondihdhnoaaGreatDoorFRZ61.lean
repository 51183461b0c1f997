/- Texts in one: The law of the texts of states: true whatever the input is. -/
import Derived.Test.YtoibondihdhnoaaGreatDoorFRZ8
import Derived.Test.YtoibondihdhnoaaGreatDoorFRZ59
import Derived.Test.YtoibondihdhnoaaGreatDoorFRZ60
import Derived.Test.YtoibondihdhnoaaGreatDoorFRZ56
namespace Go.Proofs.YtoibondihdhnoaaGreatDoor
open Go.RowKit
set_option maxRecDepth 100000
set_option maxHeartbeats 4000000
theorem QI (s:St) (sd:s.q.length≤100000) (se:s.tk.length≤100000) (hq:∀ l∈s.q,l.length≤100000) : VC Tryz.prog 25 [ez s,ez s] (B true):=by
 have HQ:=Lib.hid hq;clear hq;refine aK Tryz.func25 rfl (by kernel_rfl) rfl fun M0 w0=>?_;simp only [Tryz.ntmps25,Tryz.results25,az];repeat' with_reducible first|apply af|apply ae|apply aj|apply ar|apply aa|refine ah [] ?_|(apply ak;·go_simp)|(apply ab;intro Z U;go_simp;apply U;clear U Z)
 apply ch [2,3] (fun k=>[(5,I k)]) (fun k=>([] : Hp)) (fun _=>false) (s.q.length)
 ·go_simp<;>exact rfl
 ·go_simp
 ·intro k hk HB HP K hK;obtain ⟨w1,w2,w3,w4,w5,w6⟩:=ixs (m:=k) (by omega);have g:=Hs (qat s.q k) (by rw [fo hk];have:=HQ.out _ (List.getElem_mem hk);omega);repeat' first|(with_reducible first|apply af|apply ae|apply aj|apply ar|apply aT|apply aa|refine ah [] ?_|apply aI|(apply ao;·go_simp)|(apply ak;·go_simp)|((first|apply ab|apply aJ);intro Z U;go_simp;(first|(refine ⟨_,g,?_⟩)|skip);apply U;clear U Z))|((refine aQ 12 12 [] rfl (by kernel_rfl) ?_);simp only [aA])
  refine hK _ ?_;go_simp
 ·intro k hk HB HP K;exact absurd HP.out (by simp)
 ·intro HB K;repeat' with_reducible first|apply af|apply ae|apply aW|apply aX|apply ar|apply aY|apply aa|refine ah [] ?_|(apply ak;·go_simp)|(apply ab;intro Z U;go_simp;apply U;clear U Z)
  apply ch [2,3] (fun k=>[(6,I k)]) (fun k=>([] : Hp)) (fun _=>false) (s.tk.length)
  ·go_simp<;>exact rfl
  ·go_simp
  ·intro k hk HB HP K hK;obtain ⟨w1,w2,w3,w4,w5,w6⟩:=ixs (m:=k) (by omega);repeat' first|(with_reducible first|apply af|apply ae|apply aj|apply ar|apply aT|apply aa|refine ah [] ?_|apply aI|(apply ao;·go_simp)|(apply ak;·go_simp)|((first|apply ab|apply aJ);intro Z U;go_simp;apply U;clear U Z))|((refine aQ 11 11 [] rfl (by kernel_rfl) ?_);simp only [aA])
   refine hK _ ?_;go_simp
  ·intro k hk HB HP K;exact absurd HP.out (by simp)
  ·intro HB K;repeat' with_reducible first|apply af|apply ae|apply aW|apply aq|apply aX|apply aY|apply aa|refine ah [] ?_|(apply ak;·go_simp)|(apply ab;intro Z U;go_simp;apply U;clear U Z)
   go_simp
theorem V0.nilSt {w:World} {M:Nat→Nat→Prop} {v:Value} (hv:V0 w M (.agg [aZ,aZ,I 0]) v) : V0 w M (ez ⟨[],[],0⟩) v:=by
 cases hv with
 | agg _ us hl h1 h2=>
  refine .agg _ us hl (fun c hc=>?_) fun j c u hc hu=>?_
  ·simp only [List.mem_cons,List.not_mem_nil,or_false] at hc;rcases hc with rfl|rfl|rfl<;>rfl
  ·rcases j with _|_|_|j
   ·simp only [List.getElem?_cons_zero,Option.some.injEq] at hc;subst hc;exact (h2 0 _ u rfl hu).nilSl 1
   ·simp only [List.getElem?_cons_zero,List.getElem?_cons_succ,Option.some.injEq] at hc;subst hc;exact (h2 1 _ u rfl hu).nilSl 3
   ·exact h2 2 c u hc hu
   ·simp at hc
theorem V0.tupSt {w:World} {M:Nat→Nat→Prop} {v:Value} {e:Int} (hv:V0 w M (.tup [.agg [aZ,aZ,I 0],I e]) v) : V0 w M (.tup [ez ⟨[],[],0⟩,I e]) v:=by
 cases hv with
 | tup _ us hl h2=>
  refine .tup _ us hl fun j c u hc hu=>?_;rcases j with _|_|j
  ·simp only [List.getElem?_cons_zero,Option.some.injEq] at hc;subst hc;exact (h2 0 _ u rfl hu).nilSt
  ·exact h2 1 c u hc hu
  ·simp at hc
theorem QJ (t:ByteArray) (ht:t.size≤1000) : VC Tryz.prog 62 [S t] (.tup [ez (stP (aP 124 t)).1,I (stP (aP 124 t)).2]):=by
 unfold stP;cases hb:k8 (aP 124 t)
 ·rw [if_neg (by decide)];exact Ja t (by omega) hb
 ·rw [if_pos rfl];exact (QH t ht hb).weak fun w M v hv=>hv.tupSt
theorem QK (t:ByteArray) (ht:t.size≤1000) : VC Tryz.prog 63 [S t] (.tup [ez (stP (aP 124 t)).1,I (stP (aP 124 t)).2]):=by
 unfold stP;cases hb:k8 (aP 124 t)
 ·rw [if_neg (by decide)];exact Qw t ht hb
 ·rw [if_pos rfl];exact (Qy t ht hb).weak fun w M v hv=>hv.tupSt
theorem QL {s:St} {t:ByteArray} (ht:t.size≤100000) (h:stP (aP 124 t)=(s,0)) : VC Tryz.prog 62 [S t] (.tup [ez s,I 0]):=by
 unfold stP at h;cases hb:k8 (aP 124 t)
 ·rw [hb,if_neg (by decide)] at h;have g:=Ja t ht hb;rw [(Prod.mk.inj h).1] at g;exact g
 ·rw [hb,if_pos rfl] at h;have:=(Prod.mk.inj h).2;cases this
theorem QM {t:ByteArray} (ht:t.size≤1000) : (stP (aP 124 t)).1.q.length≤100000∧(stP (aP 124 t)).1.tk.length≤100000∧∀ l∈(stP (aP 124 t)).1.q,l.length≤100000:=by
 have cP:=mi 124 t;have dE:∀ p∈aP 124 t,p.size≤1000:=fun p hp=>Nat.le_trans (lM hp) ht;unfold stP;split
 ·simp
 ·refine ⟨by rw [qV];omega,?_,fun l hl=>?_⟩
  ·show ((eM (aP 124 t)).map tkW).length≤_;rw [List.length_map];unfold eM;by_cases h:(aP 124 t).length - 1 < (aP 124 t).length
   ·have:=(oz (dE _ (tY h))).1;omega
   ·have e:tat (aP 124 t) ((aP 124 t).length - 1)=default:=by
     unfold tat;rw [List.getD_eq_getElem?_getD,List.getElem?_eq_none (by omega)];rfl
    have hz:(tat (aP 124 t) ((aP 124 t).length - 1)).size≤1000:=by rw [e];decide
    have:=(oz hz).1;omega
  ·obtain ⟨p,hp,rfl⟩:=List.mem_map.1 (show l∈(((aP 124 t).drop 1).take ((aP 124 t).length - 2)).map bu from hl);have:=(oz (dE p (List.mem_of_mem_drop (List.mem_of_mem_take hp)))).1;omega
theorem QN {r:Ru} {s:St} (h:ckE r s=0) : ToldS s:=by
 unfold ckE at h;split at h
 ·rename_i h1;exact absurd h h1
 ·rename_i h1;obtain ⟨hr,-,-⟩:=vl (r:=r) (by simpa using h1);obtain ⟨hi,-⟩:=KZ.1 h;have h0:=hr.n0;have h6:=hr.n6;have ht:=hi.t0;refine ⟨by rw [hi.len];omega,fun l hl c hc=>hi.name c ?_,fun t gR=>⟨hi.name _ ?_,?_,?_⟩,by omega⟩
  ·exact List.mem_append_left _ (List.mem_flatten.2 ⟨l,hl,hc⟩)
  ·exact List.mem_append_right _ (List.mem_map_of_mem gR)
  ·have:=hi.tkt t gR;omega
  ·have:=hi.tkr t gR;omega
theorem QO {s:St} (h:qU s=true) (ht:∀ t∈s.tk,i64 t.rank∧i64 t.time) (hm:i64 s.time) : (k6 s).size≤100000:=by
 unfold qU at h;simp only [Bool.and_eq_true,decide_eq_true_eq,Bool.not_eq_true'] at h;obtain ⟨⟨⟨h1,h2⟩,h3⟩,h4⟩:=h;have bw:∀ {p:Nat→Bool} {n:Nat},cQ p 0 n=false→∀ k,k < n→p k=false:=fun {p n} hp k hk=>by
  cases hb:p k
  ·rfl
  ·rw [ig hk hb] at hp;cases hp
 have z1:(⟨#[32]⟩ : ByteArray).size=1:=rfl;have z2:(⟨#[124]⟩ : ByteArray).size=1:=rfl;have z3:(⟨#[58]⟩ : ByteArray).size=1:=rfl;have r1:∀ l∈s.q,(cN l ⟨#[32]⟩).size≤300:=fun l hl=>by
  obtain ⟨k,hk,rfl⟩:=List.getElem_of_mem hl;have hq:=bw h3 k hk;unfold sQ at hq;rw [fo hk,Bool.or_eq_false_iff,decide_eq_false_iff_not] at hq;rw [kC];refine Nat.le_trans (lN (B:=20) fun c hc=>?_) ?_
  ·obtain ⟨j,hj,rfl⟩:=List.getElem_of_mem hc;have:=bw hq.2 j hj;rw [qT,decide_eq_false_iff_not,bc hj] at this;omega
  ·rw [z1];exact Nat.le_trans (Nat.mul_le_mul_right _ (show s.q[k].length≤14 by omega)) (by decide)
 have r2:∀ t∈s.tk,(ef t).size≤66:=fun t gR=>by
  obtain ⟨k,hk,rfl⟩:=List.getElem_of_mem gR;have hc:=bw h4 k hk;rw [sR,decide_eq_false_iff_not,fe hk] at hc;have d1:=jY (ht _ gR).1;have d2:=jY (ht _ gR).2;unfold ef;rw [kC];refine Nat.le_trans (lN (B:=21) fun x hx=>?_) (by rw [z3];simp);simp only [List.mem_cons,List.not_mem_nil,or_false] at hx;rcases hx with rfl|rfl|rfl<;>omega
 have r3:(jf s).size≤3000:=by
  unfold jf;rw [kC];refine Nat.le_trans (lN (B:=66) fun x hx=>?_) ?_
  ·obtain ⟨t,gR,rfl⟩:=List.mem_map.1 hx;exact r2 t gR
  ·rw [List.length_map,z1];exact Nat.le_trans (Nat.mul_le_mul_right _ (show s.tk.length≤42 by omega)) (by decide)
 unfold k6;rw [kC];refine Nat.le_trans (lN (B:=3000) fun x hx=>?_) ?_
 ·rcases List.mem_append.1 hx with hx|hx
  ·unfold ft at hx;rcases List.mem_cons.1 hx with rfl|hx
   ·have:=jY hm;omega
   ·obtain ⟨l,hl,rfl⟩:=List.mem_map.1 hx;have:=r1 l (List.mem_of_mem_take hl);omega
  ·rw [List.mem_singleton.1 hx];exact r3
 ·rw [List.length_append,tQ (Nat.le_refl _),z2];exact Nat.le_trans (Nat.mul_le_mul_right _ (show s.q.length+1+1≤10 by omega)) (by decide)
theorem QP (r:Ru) (s:St) (t:ByteArray) (hl:r.ranks.length≤9223372036854775807) (hs:InS s) (ht:t.size≤9223372036854775807) : VC Tryz.prog 12 [ct r,ez s,S t] (B true):=by
 have ha:=wK;have gF:=Dk r hl;have gS:=IS s hs.q hs.t;clear hl;cases hF:sI r
 ·rw [hF] at gF;clear hF ht hs gS;refine aK Tryz.func12 rfl (by kernel_rfl) rfl fun M0 w0=>?_;simp only [Tryz.ntmps12,Tryz.results12,az];repeat' first|(with_reducible first|apply af|apply ae|apply aF|apply aq|apply aj|apply aa|refine ah [] ?_|(apply ao;·go_simp)|(apply ak;·go_simp))|((with_reducible apply ab);intro Z U;go_simp;(first|(with_reducible refine ⟨_,ha,?_⟩)|(refine ⟨_,gF,?_⟩)|skip);apply U;clear U Z)
  go_simp
 rw [hF] at gF;cases hS:qU s
 ·rw [hS] at gS;clear hF hS ht hs;refine aK Tryz.func12 rfl (by kernel_rfl) rfl fun M0 w0=>?_;simp only [Tryz.ntmps12,Tryz.results12,az];repeat' first|(with_reducible first|apply af|apply ae|apply aF|apply aq|apply aj|apply aa|refine ah [] ?_|(apply ao;·go_simp)|(apply ak;·go_simp))|((with_reducible apply ab);intro Z U;go_simp;(first|(with_reducible refine ⟨_,ha,?_⟩)|(refine ⟨_,gF,?_⟩)|(refine ⟨_,gS,?_⟩)|skip);apply U;clear U Z)
  go_simp
 rw [hS] at gS;have kI:=IV hS hs.ti hs.tm;have dN:=QO hS hs.ti hs.tm;obtain ⟨h8,bI⟩:=Dl hF;by_cases ps:t.size≤200
 ·have k1:¬(200:Int) < (t.size:Int):=by omega
  have g1:=IY s kI;have g2:=GF s kI;have g3:=QJ t (by omega);have g4:=QK t (by omega);have g5:=Qt s kI;obtain ⟨u1,u2,u3⟩:=QM (t:=t) (by omega);have g6:=QI _ u1 u2 u3;have g7:=P8 r s (by omega) bI kI;have g9:=Ht s kI;generalize stP (aP 124 t)=X at *;obtain ⟨Y,E⟩:=X;simp only at g3 g4 g6;by_cases h:ckE r s=0
  ·have g8:=QL dN (NI (QN h));rw [h] at g7;generalize k6 s=TX at *;clear hF hS h8 bI h hs kI dN ht ps u1 u2 u3;refine aK Tryz.func12 rfl (by kernel_rfl) rfl fun M0 w0=>?_;simp only [Tryz.ntmps12,Tryz.results12,az];repeat' first|(with_reducible first|apply af|apply ae|apply aq|apply aj|apply aa|refine ah [] ?_|(apply ak;·go_simp))|((with_reducible apply ab);intro Z U;go_simp;(first|(with_reducible refine ⟨_,ha,?_⟩)|(refine ⟨_,gF,?_⟩)|(refine ⟨_,gS,?_⟩)|(refine ⟨_,g1,?_⟩)|(refine ⟨_,g2,?_⟩)|(with_reducible refine ⟨_,g3,?_⟩)|(with_reducible refine ⟨_,g4,?_⟩)|(refine ⟨_,g5,?_⟩)|(refine ⟨_,g6,?_⟩)|(refine ⟨_,g7,?_⟩)|(with_reducible refine ⟨_,g8,?_⟩)|(refine ⟨_,g9,?_⟩)|skip);apply U;clear U Z)
   go_simp
  ·generalize ckE r s=C at *;generalize k6 s=TX at *;clear hF hS h8 bI hs kI dN ht ps u1 u2 u3;refine aK Tryz.func12 rfl (by kernel_rfl) rfl fun M0 w0=>?_;simp only [Tryz.ntmps12,Tryz.results12,az];repeat' first|(with_reducible first|apply af|apply ae|apply aF|apply aq|apply aj|apply aa|refine ah [] ?_|(apply ao;·go_simp)|(apply ak;·go_simp))|((with_reducible apply ab);intro Z U;go_simp;(first|(with_reducible refine ⟨_,ha,?_⟩)|(refine ⟨_,gF,?_⟩)|(refine ⟨_,gS,?_⟩)|(refine ⟨_,g1,?_⟩)|(refine ⟨_,g2,?_⟩)|(with_reducible refine ⟨_,g3,?_⟩)|(with_reducible refine ⟨_,g4,?_⟩)|(refine ⟨_,g5,?_⟩)|(refine ⟨_,g6,?_⟩)|(refine ⟨_,g7,?_⟩)|skip);apply U;clear U Z)
   go_simp
 ·have k1:(200:Int) < (t.size:Int):=by omega
  clear hF hS h8 bI hs kI dN ht ps;refine aK Tryz.func12 rfl (by kernel_rfl) rfl fun M0 w0=>?_;simp only [Tryz.ntmps12,Tryz.results12,az];repeat' first|(with_reducible first|apply af|apply ae|apply aF|apply aq|apply aj|apply aa|refine ah [] ?_|(apply ao;·go_simp)|(apply ak;·go_simp))|((with_reducible apply ab);intro Z U;go_simp;(first|(with_reducible refine ⟨_,ha,?_⟩)|(refine ⟨_,gF,?_⟩)|(refine ⟨_,gS,?_⟩)|skip);apply U;clear U Z)
  go_simp
end Go.Proofs.YtoibondihdhnoaaGreatDoor
