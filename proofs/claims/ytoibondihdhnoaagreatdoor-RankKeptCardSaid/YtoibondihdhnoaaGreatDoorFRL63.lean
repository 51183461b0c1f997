/- Texts in one: The law of cars that are kept: true whatever the input is. -/
import Derived.Test.YtoibondihdhnoaaGreatDoorFRL54
import Derived.Test.YtoibondihdhnoaaGreatDoorFRL27
import Derived.Test.YtoibondihdhnoaaGreatDoorFRL9
import Derived.Test.YtoibondihdhnoaaGreatDoorFRL61
import Derived.Test.YtoibondihdhnoaaGreatDoorFRL60
import Derived.Test.YtoibondihdhnoaaGreatDoorFRL31
import Derived.Test.YtoibondihdhnoaaGreatDoorFRL30
import Derived.Test.YtoibondihdhnoaaGreatDoorFRL34
import Derived.Test.YtoibondihdhnoaaGreatDoorFRL46
import Derived.Test.YtoibondihdhnoaaGreatDoorFRL14
import Derived.Test.YtoibondihdhnoaaGreatDoorFRL50
import Derived.Test.YtoibondihdhnoaaGreatDoorFRL51
import Derived.Test.YtoibondihdhnoaaGreatDoorFRL52
namespace Go.Proofs.YtoibondihdhnoaaGreatDoor
open Go.RowKit
set_option maxRecDepth 100000
set_option maxHeartbeats 4000000
theorem a6b {c:ByteArray} (h:c6_ c=true) : c.size≤1000:=by
 unfold c6_ at h;simp only [Bool.and_eq_true,decide_eq_true_eq] at h;omega
theorem Inv.small {r:Ru} {s:St} (hr:RuOK r) (h:Inv r s) : SmallS s:=by
 have h6:=hr.n6;have hl:=h.len;have hfit:∀ l∈s.q,l.length≤300:=fun l hl2=>by
  obtain ⟨i,hi,rfl⟩:=List.getElem_of_mem hl2;have h1:=h.fit i hi;have h2:=hr.pl i (by omega);rw [f5_ hi] at h1;omega
 refine ⟨by omega,fun l hl2=>⟨hfit l hl2,fun c hc=>a6b (h.name c (List.mem_append_left _ (List.mem_flatten.2 ⟨l,hl2,hc⟩)))⟩,by have:=h.tkl;omega,fun t ht=>?_,?_⟩
 ·have h1:=h.tkr t ht;have h2:=h.tkt t ht;have h3:=h.t0;exact ⟨a6b (h.name _ (List.mem_append_right _ (List.mem_map.2 ⟨t,ht,rfl⟩))),⟨by omega,by omega⟩,⟨by omega,by omega⟩⟩
 ·have h3:=h.t0;exact ⟨by omega,by omega⟩
theorem b2c {l:List ByteArray} {c:ByteArray} (hc:c∈l) : a1p (isT l c) 0 l.length=true:=by
 obtain ⟨k,hk,he⟩:=List.getElem_of_mem hc;exact j4_ hk (by rw [isT,d2_ hk,he];simp)
theorem b4d {l:List ByteArray} {c:ByteArray} (hc:¬c∈l) : a1p (isT l c) 0 l.length=false:=b9q fun k hk=>by
 rw [isT,d2_ hk];refine decide_eq_false fun he=>hc ?_;rw [←he];exact List.getElem_mem hk
theorem d0j (s:St) (h:SmallS s) : VC Tryz.prog 69 [j0_ s] (a0i s.q.flatten):=b0b (d1w s h)
theorem b4e {s:St} (h:SmallS s) : s.q.flatten.length≤90000:=by
 have h1:=b1w h s.q.length (Nat.le_refl _);have h2:=h.nq;rw [c0h] at h1;omega
theorem d0k (r:Ru) (s:St) (x:Ev) (hl:r.ranks.length≤9223372036854775807) (hs:InS s) (hc:x.car.size≤9223372036854775807) : VC Tryz.prog 14 [d1_ r,j0_ s,evA x] (B true):=by
 have ha:=c7h;have gF:=d1t r hl;have gS:=c7o s hs.q hs.t;clear hl;cases hF:d0b r
 ·rw [hF] at gF;clear hF hc hs gS;refine c4_ Tryz.func14 rfl (by kernel_rfl) (by kernel_rfl) rfl fun M0 w0=>?_;simp only [Tryz.ntmps14,Tryz.results14,b4_];repeat' first|(with_reducible first|apply a8_|apply a3_|apply b3_|apply c2_|apply b1_|apply a1_|refine a2_ [] ?_)|((with_reducible refine a7_ ?_ ?_);(focus (go_simp;done)))|((with_reducible refine a6_ ?_ ?_);(focus (go_simp;done)))|((with_reducible refine a0_ fun X Y=>?_);go_simp;(first|(with_reducible refine ⟨_,ha,?_⟩)|(refine ⟨_,gF,?_⟩)|skip);refine Y _ ?_;clear Y X)
  go_simp
 rw [hF] at gF;cases hS:a9z s
 ·rw [hS] at gS;clear hF hS hc hs;refine c4_ Tryz.func14 rfl (by kernel_rfl) (by kernel_rfl) rfl fun M0 w0=>?_;simp only [Tryz.ntmps14,Tryz.results14,b4_];repeat' first|(with_reducible first|apply a8_|apply a3_|apply b3_|apply c2_|apply b1_|apply a1_|refine a2_ [] ?_)|((with_reducible refine a7_ ?_ ?_);(focus (go_simp;done)))|((with_reducible refine a6_ ?_ ?_);(focus (go_simp;done)))|((with_reducible refine a0_ fun X Y=>?_);go_simp;(first|(with_reducible refine ⟨_,ha,?_⟩)|(refine ⟨_,gF,?_⟩)|(refine ⟨_,gS,?_⟩)|skip);refine Y _ ?_;clear Y X)
  go_simp
 rw [hS] at gS;have hsm:=c3s hS hs.ti hs.tm;obtain ⟨h8,hnm⟩:=d0c hF;by_cases h20:x.car.size≤20
 rotate_left
 ·have k1:(20:Int) < (x.car.size:Int):=by omega
  obtain ⟨kd,tm,rk,car⟩:=x;simp only [evA] at *;clear hF hS h8 hnm hs hsm hc h20;refine c4_ Tryz.func14 rfl (by kernel_rfl) (by kernel_rfl) rfl fun M0 w0=>?_;simp only [Tryz.ntmps14,Tryz.results14,b4_];repeat' first|(with_reducible first|apply a8_|apply a3_|apply b3_|apply c2_|apply b1_|apply a1_|refine a2_ [] ?_)|((with_reducible refine a7_ ?_ ?_);(focus (go_simp;done)))|((with_reducible refine a6_ ?_ ?_);(focus (go_simp;done)))|((with_reducible refine a0_ fun X Y=>?_);go_simp;(first|(with_reducible refine ⟨_,ha,?_⟩)|(refine ⟨_,gF,?_⟩)|(refine ⟨_,gS,?_⟩)|skip);refine Y _ ?_;clear Y X)
  go_simp
 have k1:¬(20:Int) < (x.car.size:Int):=by omega
 have g1:=b1p r (by omega);have g2:=c5d s hsm;have g4:=b5v r s (by omega) hnm hsm;by_cases h:ckE r s=0
 rotate_left
 ·obtain ⟨kd,tm,rk,car⟩:=x;simp only [evA] at *;generalize ckE r s=E at *;clear hF hS h8 hnm hs hsm hc h20;refine c4_ Tryz.func14 rfl (by kernel_rfl) (by kernel_rfl) rfl fun M0 w0=>?_;simp only [Tryz.ntmps14,Tryz.results14,b4_];repeat' first|(with_reducible first|apply a8_|apply a3_|apply b3_|apply c2_|apply b1_|apply a1_|refine a2_ [] ?_)|((with_reducible refine a7_ ?_ ?_);(focus (go_simp;done)))|((with_reducible refine a6_ ?_ ?_);(focus (go_simp;done)))|((with_reducible refine a0_ fun X Y=>?_);go_simp;(first|(with_reducible refine ⟨_,ha,?_⟩)|(refine ⟨_,gF,?_⟩)|(refine ⟨_,gS,?_⟩)|(refine ⟨_,g4,?_⟩)|skip);refine Y _ ?_;clear Y X)
  go_simp
 have hck:=h;unfold ckE at hck;have h0:(d4_ r).2=0:=by
  apply Classical.byContradiction;intro hh;rw [if_pos hh] at hck;exact hh hck
 rw [if_neg (by simp [h0])] at hck;have hr:=(a0v h0).1;have hi:=(a5j.1 hck).1;have g3:=c4a r s x hr hi (by omega) hnm hsm h (by omega);rw [h] at g4;by_cases h1:apE r s x=0
 rotate_left
 ·have g7:=c7j;rw [if_neg h1] at g3;obtain ⟨kd,tm,rk,car⟩:=x;simp only [evA] at *;generalize apE r s ⟨kd,tm,rk,car⟩=E at *;clear hF hS h8 hnm hs hsm hc h20 h hck h0 hr hi;refine c4_ Tryz.func14 rfl (by kernel_rfl) (by kernel_rfl) rfl fun M0 w0=>?_;simp only [Tryz.ntmps14,Tryz.results14,b4_];repeat' first|(with_reducible first|apply a8_|apply a3_|apply b1_|apply a1_|refine a2_ [] ?_)|((with_reducible refine a6_ ?_ ?_);(focus (go_simp;done)))|((with_reducible refine a0_ fun X Y=>?_);go_simp;(first|(with_reducible refine ⟨_,ha,?_⟩)|(refine ⟨_,gF,?_⟩)|(refine ⟨_,gS,?_⟩)|(refine ⟨_,g4,?_⟩)|skip);refine Y _ ?_;clear Y X)
  refine c5g 11 [] (fun i=>i == 9 || i == 10) (by kernel_rfl) (by kernel_rfl) (by kernel_rfl) (by go_simp) (by go_simp) ?_;simp only [List.take,List.drop];repeat ((with_reducible refine b4b rfl fun X Y=>?_);go_simp;(first|(refine ⟨_,g1,?_⟩)|(refine ⟨_,g2,?_⟩)|(refine ⟨_,g3,?_⟩)|skip);refine Y _ (by go_simp) ?_;clear Y X)
  refine a1l [some (.box [l6_,l6_,I 0])] none (.ref 0 0) rfl ⟨rfl,fun _=>rfl,fun _ h=>by cases h⟩ ?_ ?_
  ·intro s2 hs2;go_simp
  refine a1l [some (.box [l6_,l6_,I 0])] none .any rfl ⟨rfl,fun _=>rfl,fun _ h=>by cases h⟩ ?_ ?_
  ·intro s2 hs2;have q1:lkp s2 7 = .ref 0 0:=(hs2 7 (by simp [Op.operands]) (by go_simp)).trans (by go_simp);have q2:lkp s2 43 = .agg [l6_,l6_,I 0]:=(hs2 43 (by simp [Op.operands]) (by go_simp)).trans (by go_simp);clear hs2;go_simp
  repeat (first|(with_reducible first|apply a8_|apply a3_|apply a1_|refine a2_ [] ?_)|((with_reducible refine a7_ ?_ ?_);(focus (go_simp;done)))|((with_reducible refine a0_ fun X Y=>?_);go_simp;refine Y _ ?_;clear Y X)|((with_reducible refine c0r ?_);simp only [List.cons_append,List.nil_append,b2b]))
  repeat' first|(with_reducible first|apply a3_|apply b3_|apply c2_|apply a1_)|((with_reducible refine a0_ fun X Y=>?_);go_simp;(first|(refine ⟨_,g7,?_⟩)|skip);refine Y _ ?_;clear Y X)
  go_simp
 rw [if_pos h1] at g3;obtain ⟨q1,q2,q3,q4⟩:=c3w hr hi h1;have hz:SmallS (apU r s x).1:=(hi.ap hr h1).1.small hr;have gz1:=c5d (apU r s x).1 hz;have gz2:=a2f r (apU r s x).1 (by omega) hnm hz;have gz3:=a2e r (apU r s x).1 hr (by omega) hz;have ez:ckE r (apU r s x).1=0:=by
  unfold ckE;rw [if_neg (by simp [h0]),q3]
 rw [ez] at gz2;rw [q3] at gz3;have ga:=d0j s hsm;have gb:=d0j (apU r s x).1 hz;have la:=b4e hsm;have lb:=b4e hz;clear hF hS h8 hnm hs hsm hc h20 h hck h0 hr hi h1 hz ez q3;generalize (apU r s x).1=Z at *;obtain ⟨kd,tm,rk,car⟩:=x;obtain ⟨zq,ztk,zt⟩:=Z;simp only [evA] at *;subst q4;generalize s.q.flatten=L at *;generalize zq.flatten=M at *;have Q1:=Lib.hid q1;have Q2:=Lib.hid q2;clear q1 q2;refine c4_ Tryz.func14 rfl (by kernel_rfl) (by kernel_rfl) rfl fun M0 w0=>?_;simp only [Tryz.ntmps14,Tryz.results14,b4_];repeat' first|(with_reducible first|apply a8_|apply a3_|apply b1_|apply a1_|refine a2_ [] ?_)|((with_reducible refine a6_ ?_ ?_);(focus (go_simp;done)))|((with_reducible refine a0_ fun X Y=>?_);go_simp;(first|(with_reducible refine ⟨_,ha,?_⟩)|(refine ⟨_,gF,?_⟩)|(refine ⟨_,gS,?_⟩)|(refine ⟨_,g4,?_⟩)|skip);refine Y _ ?_;clear Y X)
 refine c5g 11 [] (fun i=>i == 9 || i == 10) (by kernel_rfl) (by kernel_rfl) (by kernel_rfl) (by go_simp) (by go_simp) ?_;simp only [List.take,List.drop];repeat ((with_reducible refine b4b rfl fun X Y=>?_);go_simp;(first|(refine ⟨_,g1,?_⟩)|(refine ⟨_,g2,?_⟩)|(refine ⟨_,g3,?_⟩)|skip);refine Y _ (by go_simp) ?_;clear Y X)
 refine a1l [some (.box [l6_,l6_,I 0])] none (.ref 0 0) rfl ⟨rfl,fun _=>rfl,fun _ h=>by cases h⟩ ?_ ?_
 ·intro s2 hs2;go_simp
 refine a1l [some (.box [p2_ zq,.sl 3 (ztk.map Tk.av),I zt])] none .any rfl ⟨rfl,fun _=>rfl,fun _ h=>by cases h⟩ ?_ ?_
 ·intro s2 hs2;have q1:lkp s2 7 = .ref 0 0:=(hs2 7 (by simp [Op.operands]) (by go_simp)).trans (by go_simp);have q2:lkp s2 43=j0_ ⟨zq,ztk,zt⟩:=(hs2 43 (by simp [Op.operands]) (by go_simp)).trans (by go_simp);clear hs2;go_simp
 repeat (first|(with_reducible first|apply a8_|apply a3_|apply b1_|apply a1_|refine a2_ [] ?_)|((with_reducible refine a6_ ?_ ?_);(focus (go_simp;done)))|((with_reducible refine a0_ fun X Y=>?_);go_simp;refine Y _ ?_;clear Y X)|((with_reducible refine c0r ?_);simp only [List.cons_append,List.nil_append,b2b]))
 repeat' first|(with_reducible first|apply a8_|apply a3_|apply b1_|apply a9_|apply a1_|refine a2_ [] ?_|apply a5_)|((with_reducible refine a6_ ?_ ?_);(focus (go_simp;done)))|((with_reducible first|refine a0_ fun X Y=>?_|refine a4_ fun X Y=>?_);go_simp;(first|(refine ⟨_,g1,?_⟩)|(refine ⟨_,gz1,?_⟩)|(refine ⟨_,gz2,?_⟩)|(refine ⟨_,gz3,?_⟩)|(refine ⟨_,ga,?_⟩)|(refine ⟨_,gb,?_⟩)|skip);refine Y _ ?_;clear Y X)|((refine b7_ 6 6 [] rfl (by kernel_rfl) (by kernel_rfl) ?_);simp only [List.take,List.drop])|((refine b7_ 19 19 [] rfl (by kernel_rfl) (by kernel_rfl) ?_);simp only [List.take,List.drop])
 apply c1b [5,9,10] (fun k=>[(11,I k)]) (fun k=>([some (.box [p2_ zq,.sl 3 (ztk.map Tk.av),I zt])] : Hp))  (L.length)
 ·go_simp<;>exact rfl
 ·go_simp
 ·intro k hk K hK;obtain ⟨w1,w2,w3,w4,w5,w6⟩:=ixs (m:=k) (by omega);by_cases hcar:L[k]=car
  ·repeat' first|(with_reducible first|apply a8_|apply a3_|apply b1_|apply a9_|apply b5_|apply a1_|refine a2_ [] ?_|apply a5_)|((with_reducible refine a7_ ?_ ?_);(focus (go_simp;done)))|((with_reducible refine a6_ ?_ ?_);(focus (go_simp;done)))|((with_reducible first|refine a0_ fun X Y=>?_|refine a4_ fun X Y=>?_);go_simp;refine Y _ ?_;clear Y X)|((refine b7_ 16 16 [] rfl (by kernel_rfl) (by kernel_rfl) ?_);simp only [List.take,List.drop])
   refine hK _ ?_;go_simp
  ·have g:=m7_ M L[k] (by omega);rw [b2c ((Q1.out _ hcar).2 (List.getElem_mem hk))] at g;repeat' first|(with_reducible first|apply a8_|apply a3_|apply b1_|apply a9_|apply b5_|apply a1_|refine a2_ [] ?_|apply a5_)|((with_reducible refine a7_ ?_ ?_);(focus (go_simp;done)))|((with_reducible refine a6_ ?_ ?_);(focus (go_simp;done)))|((with_reducible first|refine a0_ fun X Y=>?_|refine a4_ fun X Y=>?_);go_simp;(first|(refine ⟨_,g,?_⟩)|skip);refine Y _ ?_;clear Y X)|((refine b7_ 16 16 [] rfl (by kernel_rfl) (by kernel_rfl) ?_);simp only [List.take,List.drop])
   refine hK _ ?_;go_simp
 ·intro K;repeat' first|(with_reducible first|apply a8_|apply a3_|apply c1_|apply e0_|apply a9_|apply b6_|apply a1_|refine a2_ [] ?_)|((with_reducible refine a6_ ?_ ?_);(focus (go_simp;done)))|((with_reducible refine a0_ fun X Y=>?_);go_simp;refine Y _ ?_;clear Y X)
  apply c1b [5,9,10] (fun k=>[(12,I k)]) (fun k=>([some (.box [p2_ zq,.sl 3 (ztk.map Tk.av),I zt])] : Hp))  (M.length)
  ·go_simp<;>exact rfl
  ·go_simp
  ·intro k hk K hK;obtain ⟨w1,w2,w3,w4,w5,w6⟩:=ixs (m:=k) (by omega);by_cases hcar:M[k]=car
   ·repeat' first|(with_reducible first|apply a8_|apply a3_|apply b1_|apply a9_|apply b5_|apply a1_|refine a2_ [] ?_|apply a5_)|((with_reducible refine a7_ ?_ ?_);(focus (go_simp;done)))|((with_reducible refine a6_ ?_ ?_);(focus (go_simp;done)))|((with_reducible first|refine a0_ fun X Y=>?_|refine a4_ fun X Y=>?_);go_simp;refine Y _ ?_;clear Y X)|((refine b7_ 16 16 [] rfl (by kernel_rfl) (by kernel_rfl) ?_);simp only [List.take,List.drop])
    refine hK _ ?_;go_simp
   ·have g:=m7_ L M[k] (by omega);rw [b2c ((Q1.out _ hcar).1 (List.getElem_mem hk))] at g;repeat' first|(with_reducible first|apply a8_|apply a3_|apply b1_|apply a9_|apply b5_|apply a1_|refine a2_ [] ?_|apply a5_)|((with_reducible refine a7_ ?_ ?_);(focus (go_simp;done)))|((with_reducible refine a6_ ?_ ?_);(focus (go_simp;done)))|((with_reducible first|refine a0_ fun X Y=>?_|refine a4_ fun X Y=>?_);go_simp;(first|(refine ⟨_,g,?_⟩)|skip);refine Y _ ?_;clear Y X)|((refine b7_ 16 16 [] rfl (by kernel_rfl) (by kernel_rfl) ?_);simp only [List.take,List.drop])
    refine hK _ ?_;go_simp
  ·intro K;have g:=m7_ M car (by omega);by_cases h4:kd=4
   ·clear g;repeat' first|(with_reducible first|apply a8_|apply a3_|apply c1_|apply c2_|apply e0_|apply b6_|apply a1_|refine a2_ [] ?_)|((with_reducible refine a6_ ?_ ?_);(focus (go_simp;done)))|((with_reducible refine a0_ fun X Y=>?_);go_simp;refine Y _ ?_;clear Y X)
    go_simp
   ·by_cases h1:kd=1
    ·rw [b4d fun hm=>(Q2.out h4).1 hm (.inl h1)] at g;repeat' first|(with_reducible first|apply a8_|apply a3_|apply c1_|apply c2_|apply e0_|apply b6_|apply a1_|refine a2_ [] ?_)|((with_reducible refine a6_ ?_ ?_);(focus (go_simp;done)))|((with_reducible refine a0_ fun X Y=>?_);go_simp;(first|(refine ⟨_,g,?_⟩)|skip);refine Y _ ?_;clear Y X)
     go_simp
    ·by_cases h3:kd=3
     ·rw [b4d fun hm=>(Q2.out h4).1 hm (.inr h3)] at g;repeat' first|(with_reducible first|apply a8_|apply a3_|apply c1_|apply c2_|apply e0_|apply b6_|apply a1_|refine a2_ [] ?_)|((with_reducible refine a6_ ?_ ?_);(focus (go_simp;done)))|((with_reducible refine a0_ fun X Y=>?_);go_simp;(first|(refine ⟨_,g,?_⟩)|skip);refine Y _ ?_;clear Y X)
      go_simp
     ·rw [b2c ((Q2.out h4).2 (fun h=>h.elim h1 h3))] at g;repeat' first|(with_reducible first|apply a8_|apply a3_|apply c1_|apply c2_|apply e0_|apply b6_|apply a1_|refine a2_ [] ?_)|((with_reducible refine a6_ ?_ ?_);(focus (go_simp;done)))|((with_reducible refine a0_ fun X Y=>?_);go_simp;(first|(refine ⟨_,g,?_⟩)|skip);refine Y _ ?_;clear Y X)
      go_simp
end Go.Proofs.YtoibondihdhnoaaGreatDoor
