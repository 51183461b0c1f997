/- Texts in one: The law of places: true whatever the input is. -/
import Derived.Test.YtoibondihdhnoaaGreatDoorFRN52
import Derived.Test.YtoibondihdhnoaaGreatDoorFRN27
import Derived.Test.YtoibondihdhnoaaGreatDoorFRN9
import Derived.Test.YtoibondihdhnoaaGreatDoorFRN60
import Derived.Test.YtoibondihdhnoaaGreatDoorFRN54
import Derived.Test.YtoibondihdhnoaaGreatDoorFRN31
import Derived.Test.YtoibondihdhnoaaGreatDoorFRN30
import Derived.Test.YtoibondihdhnoaaGreatDoorFRN34
import Derived.Test.YtoibondihdhnoaaGreatDoorFRN46
import Derived.Test.YtoibondihdhnoaaGreatDoorFRN14
import Derived.Test.YtoibondihdhnoaaGreatDoorFRN50
import Derived.Test.YtoibondihdhnoaaGreatDoorFRN55
namespace Go.Proofs.YtoibondihdhnoaaGreatDoor
open Go.RowKit
set_option maxRecDepth 100000
set_option maxHeartbeats 4000000
theorem a6b {c:ByteArray} (h:c5_ c=true) : c.size≤1000:=by
 unfold c5_ at h;simp only [Bool.and_eq_true,decide_eq_true_eq] at h;omega
theorem Inv.small {r:Ru} {s:St} (hr:RuOK r) (h:Inv r s) : SmallS s:=by
 have h6:=hr.n6;have hl:=h.len;have hfit:∀ l∈s.q,l.length≤300:=fun l hl2=>by
  obtain ⟨i,hi,rfl⟩:=List.getElem_of_mem hl2;have h1:=h.fit i hi;have h2:=hr.pl i (by omega);rw [d8_ hi] at h1;omega
 refine ⟨by omega,fun l hl2=>⟨hfit l hl2,fun c hc=>a6b (h.name c (List.mem_append_left _ (List.mem_flatten.2 ⟨l,hl2,hc⟩)))⟩,by have:=h.tkl;omega,fun t ht=>?_,?_⟩
 ·have h1:=h.tkr t ht;have h2:=h.tkt t ht;have h3:=h.t0;exact ⟨a6b (h.name _ (List.mem_append_right _ (List.mem_map.2 ⟨t,ht,rfl⟩))),⟨by omega,by omega⟩,⟨by omega,by omega⟩⟩
 ·have h3:=h.t0;exact ⟨by omega,by omega⟩
def fbN (r:Ru) (k:Int) : Nat→Bool
 | 0=>false
 | n+1=>fbN r k n || decide ((rat r.ranks n).feeder=k)
theorem b0m {r:Ru} {k:Int} : ∀ {n:Nat},fbN r k n=false→∀ j,j < n→c1o r k j=false
 | 0,_,j,hj=>absurd hj (by omega)
 | n+1,h,j,hj=>by
  rw [fbN,Bool.or_eq_false_iff] at h;rcases Nat.lt_or_ge j n with h1|h1
  ·exact b0m h.1 j h1
  ·obtain rfl:j=n:=by omega
   exact h.2
theorem c4g (r:Ru) (s:St) (n:Int) (c:ByteArray) (hl:r.ranks.length≤9223372036854775807) (hs:InS s) (hc:c.size≤9223372036854775807) : VC Tryz.prog 16 [c3_ r,e3_ s,.agg [I n,S c]] (B true):=by
 have ha:=c7q;have gF:=d2g r hl;have gS:=c7w s hs.q hs.t;clear hl;cases hF:d0l r
 ·rw [hF] at gF;clear hF hc hs gS;refine c2_ Tryz.func16 rfl (by kernel_rfl) (by kernel_rfl) rfl fun M0 w0=>?_;simp only [Tryz.ntmps16,Tryz.results16,b4_];repeat' first|(with_reducible first|apply a8_|apply a3_|apply b5_|apply c4_|apply b1_|apply a1_|refine a2_ [] ?_)|((with_reducible refine a7_ ?_ ?_);(focus (go_simp;done)))|((with_reducible refine a6_ ?_ ?_);(focus (go_simp;done)))|((with_reducible refine a0_ fun X Y=>?_);go_simp;(first|(with_reducible refine ⟨_,ha,?_⟩)|(refine ⟨_,gF,?_⟩)|skip);refine Y _ ?_;clear Y X)
  go_simp
 rw [hF] at gF;cases hS:b0f s
 ·rw [hS] at gS;clear hF hS hc hs;refine c2_ Tryz.func16 rfl (by kernel_rfl) (by kernel_rfl) rfl fun M0 w0=>?_;simp only [Tryz.ntmps16,Tryz.results16,b4_];repeat' first|(with_reducible first|apply a8_|apply a3_|apply b5_|apply c4_|apply b1_|apply a1_|refine a2_ [] ?_)|((with_reducible refine a7_ ?_ ?_);(focus (go_simp;done)))|((with_reducible refine a6_ ?_ ?_);(focus (go_simp;done)))|((with_reducible refine a0_ fun X Y=>?_);go_simp;(first|(with_reducible refine ⟨_,ha,?_⟩)|(refine ⟨_,gF,?_⟩)|(refine ⟨_,gS,?_⟩)|skip);refine Y _ ?_;clear Y X)
  go_simp
 rw [hS] at gS;have hsm:=c3v hS hs.ti hs.tm;obtain ⟨h8,hnm⟩:=d0m hF;by_cases h20:c.size≤20
 rotate_left
 ·have k1:(20:Int) < (c.size:Int):=by omega
  clear hF hS h8 hnm hs hsm hc h20;refine c2_ Tryz.func16 rfl (by kernel_rfl) (by kernel_rfl) rfl fun M0 w0=>?_;simp only [Tryz.ntmps16,Tryz.results16,b4_];repeat' first|(with_reducible first|apply a8_|apply a3_|apply b5_|apply c4_|apply b1_|apply a1_|refine a2_ [] ?_)|((with_reducible refine a7_ ?_ ?_);(focus (go_simp;done)))|((with_reducible refine a6_ ?_ ?_);(focus (go_simp;done)))|((with_reducible refine a0_ fun X Y=>?_);go_simp;(first|(with_reducible refine ⟨_,ha,?_⟩)|(refine ⟨_,gF,?_⟩)|(refine ⟨_,gS,?_⟩)|skip);refine Y _ ?_;clear Y X)
  go_simp
 have k1:¬(20:Int) < (c.size:Int):=by omega
 have g1:=b1w r (by omega);have g2:=d0o s hsm;have g4:=b6d r s (by omega) hnm hsm;by_cases h:ckE r s=0
 rotate_left
 ·have e1:nxE r s n=ckE r s:=by
   unfold nxE;simp [fst,h]
  have e2:whE r s c=ckE r s:=by
   unfold whE;simp [fst,h]
  have gn:=c0m r s n (by omega) hnm hsm (by rw [e1];exact h);have gw:=c4a r s c (by omega) hnm hsm (by omega) h;rw [e1] at gn;rw [e2] at gw;have gp:=y3_ r s c (by rfl) gw;have gA:=a7y r s c (by rfl) h gw;generalize ckE r s=E at *;clear hF hS h8 hnm hs hsm hc h20 e1 e2 gw;refine c2_ Tryz.func16 rfl (by kernel_rfl) (by kernel_rfl) rfl fun M0 w0=>?_;simp only [Tryz.ntmps16,Tryz.results16,b4_];repeat' first|(with_reducible first|apply a8_|apply a3_|apply b1_|apply a1_|refine a2_ [] ?_)|((with_reducible refine a6_ ?_ ?_);(focus (go_simp;done)))|((with_reducible refine a0_ fun X Y=>?_);go_simp;(first|(with_reducible refine ⟨_,ha,?_⟩)|(refine ⟨_,gF,?_⟩)|(refine ⟨_,gS,?_⟩)|skip);refine Y _ ?_;clear Y X)
  refine b2_ 12 11 [] rfl (by kernel_rfl) (by kernel_rfl) ?_;simp only [List.take,List.drop];repeat' first|(with_reducible first|apply a8_|apply a3_|apply a1_|apply a5_)|((with_reducible first|refine a0_ fun X Y=>?_|refine a4_ fun X Y=>?_);go_simp;(first|(refine ⟨_,g1,?_⟩)|(refine ⟨_,g2,?_⟩)|(refine ⟨_,gn,?_⟩)|skip);refine Y _ ?_;clear Y X)
  refine z6_ 12 [] (fun i=>i == 10 || i == 11) (by kernel_rfl) (by kernel_rfl) (by kernel_rfl) (by go_simp) (by go_simp) ?_;simp only [List.take,List.drop];repeat ((with_reducible refine m5_ rfl fun X Y=>?_);go_simp;(first|(refine ⟨_,g1,?_⟩)|(refine ⟨_,g2,?_⟩)|(refine ⟨_,gp,?_⟩)|skip);refine Y _ (by go_simp) ?_;clear Y X)
  refine e7_ [some (.box [I 0,I 0])] none (.ref 0 0) rfl ⟨rfl,fun _=>rfl,fun _ h=>by cases h⟩ ?_ ?_
  ·intro s2 hs2;go_simp
  refine e7_ [some (.box [I 0,I 0])] none .any rfl ⟨rfl,fun _=>rfl,fun _ h=>by cases h⟩ ?_ ?_
  ·intro s2 hs2;have q1:lkp s2 9 = .ref 0 0:=(hs2 9 (by simp [Op.operands]) (by go_simp)).trans (by go_simp);have q2:lkp s2 54 = .agg [I 0,I 0]:=(hs2 54 (by simp [Op.operands]) (by go_simp)).trans (by go_simp);clear hs2;go_simp
  repeat (first|(with_reducible first|apply a8_|apply a3_|apply a1_)|((with_reducible refine a0_ fun X Y=>?_);go_simp;refine Y _ ?_;clear Y X)|((with_reducible refine r4_ ?_);simp only [List.cons_append,List.nil_append,a0m]))
  repeat' first|(with_reducible first|apply a8_|apply a3_|apply b5_|apply c4_|apply a1_|refine a2_ [] ?_|apply a5_)|((with_reducible refine a7_ ?_ ?_);(focus (go_simp;done)))|((with_reducible first|refine a0_ fun X Y=>?_|refine a4_ fun X Y=>?_);go_simp;(first|(refine ⟨_,g1,?_⟩)|(refine ⟨_,g2,?_⟩)|(refine ⟨_,gA,?_⟩)|(refine ⟨_,g4,?_⟩)|skip);refine Y _ ?_;clear Y X)|((refine b2_ 12 12 [] rfl (by kernel_rfl) (by kernel_rfl) ?_);simp only [List.take,List.drop])
  go_simp
 have hck:=h;unfold ckE at hck;have h0:(d2_ r).2=0:=by
  apply Classical.byContradiction;intro hh;rw [if_pos hh] at hck;exact hh hck
 rw [if_neg (by simp [h0])] at hck;have hr:=(a1a h0).1;have hi:=(b5f.1 hck).1;have hlen:=hi.len;rw [h] at g4;have gh:=a1l r n (by omega);have g5:=d0s s c hsm;have g6:=u2_ c (by omega);have HB:(c5_ c=false∧VC Tryz.prog 75 [c3_ r,e3_ s,S c] (.tup [.agg [I 0,I 0],I 4])∧VC Tryz.prog 76 [c3_ r,e3_ s,S c] (.tup [.lit (.slice none 0 0),I 4])) ∨
   (c5_ c=true∧decide (0≤f8_ s.q c)=false∧VC Tryz.prog 75 [c3_ r,e3_ s,S c] (.tup [.agg [I 0,I 0],I 6])∧VC Tryz.prog 76 [c3_ r,e3_ s,S c] (.tup [.lit (.slice none 0 0),I 6])) ∨
   ∃ (i0 d:Nat) (m:Nat) (L0:List ByteArray),c5_ c=true∧VC Tryz.prog 77 [e3_ s,S c] (.tup [.agg [I (i0:Int),I (d:Int)],B true])∧VC Tryz.prog 75 [c3_ r,e3_ s,S c] (.tup [.agg [I (i0:Int),I (d:Int)],I 0])∧VC Tryz.prog 76 [c3_ r,e3_ s,S c] (.tup [r5_ L0,I 0]) ∧
    VC Tryz.prog 79 [c3_ r,e3_ s,S c] (r5_ L0)∧VC Tryz.prog 78 [r5_ L0,r5_ L0] (B true)∧(d=0→fbN r i0 r.ranks.length=false→L0=[]):=by
  cases hnc:c5_ c
  ·have gw:=c4b r s c (by omega) hnm hsm (by omega) h hlen hnc;exact .inl ⟨rfl,y3_ r s c (by rfl) gw,a7y r s c (by rfl) (by decide) gw⟩
  ·have gw:=c8g r s c (by omega) hnm hsm (by omega) h hlen hnc;by_cases hsp:0≤f8_ s.q c
   ·rw [if_pos hsp] at gw;refine .inr (.inr ?_);obtain ⟨i0,hi0,hil⟩ : ∃ i0:Nat,f8_ s.q c=i0∧i0 < s.q.length∧inQ s.q c i0=true:=by
     rcases m8_ (inQ s.q c) s.q.length with ⟨e,_⟩|⟨k,e1,e2,e3,_⟩
     ·have e':f8_ s.q c = -1:=e;omega
     ·exact ⟨k,e2,e1,e3⟩
    obtain ⟨hil,hin⟩:=hil;obtain ⟨d,hd,hdl⟩ : ∃ d:Nat,v1_ s.q c=d∧d < (qat s.q i0).length:=by
     unfold v1_;rw [hi0,if_neg (by omega),Int.toNat_natCast];unfold inQ at hin;rw [decide_eq_true_eq] at hin;rcases m8_ (isT (qat s.q i0) c) (qat s.q i0).length with ⟨e,_⟩|⟨k,e1,e2,_,_⟩
     ·have e':a2n (qat s.q i0) c = -1:=e;omega
     ·exact ⟨k,e2,e1⟩
    have hn6:=hr.n6;obtain ⟨m,m1,m2,m3⟩:=chain hr 10 (t0_ r i0) (by have:=b2d hr (k:=(i0:Int)) (by omega);omega);have hmi:∀ j,j < m→0≤kN r (t0_ r i0) j∧kN r (t0_ r i0) j < s.q.length:=fun j hj=>by
     have h1:=m3 j hj;have h2:=b2d hr (k:=(i0:Int)) (by omega);omega
    rw [hi0,hd] at g5 gw;have hl:=b4g hsm (A:=(qat s.q i0).take d) (by
     have:=(hsm.q1 _ (List.getElem_mem hil)).1;rw [List.length_take,d8_ hil];omega) m hmi
    refine ⟨i0,d,m,aN r s (t0_ r i0) ((qat s.q i0).take d) m,rfl,by rwa [decide_eq_true (by omega)] at g5,y3_ r s c (by rfl) gw,c8i r s c (by omega) hsm gw hil (by omega) m1 m2 hmi,b0h (c8h r s c (by omega) hsm hi0 hd hil (by omega) m1 m2 hmi),c7n _ (by omega),fun h0 hf=>?_⟩;have hfk:t0_ r i0 = -1:=by
     unfold t0_;exact j8_ (b0m hf)
    have hm0:m=0:=by
     apply Classical.byContradiction;intro hm;have:=(m3 0 (by omega)).1;rw [kN,hfk] at this;omega
    subst h0;subst hm0;rfl
   ·rw [if_neg hsp] at gw;exact .inr (.inl ⟨rfl,decide_eq_false hsp,y3_ r s c (by rfl) gw,a7y r s c (by rfl) (by decide) gw⟩)
 have hn6:=hr.n6;cases hin:inR n 0 ((r.ranks.length:Int) - 1)
 ·have e1:nxE r s n=6:=by
   unfold nxE;simp [fst,h,hin,unl]
  have gn:=c0m r s n (by omega) hnm hsm (by rw [e1];decide);rw [e1] at gn;rw [hin] at gh;clear hF hS h8 hnm hs hsm hc h20 h hck h0 hr hi hlen hin e1;rcases HB with ⟨b1,b2,b3⟩|⟨b1,b2,b3,b4⟩|⟨i0,d,m,L0,b1,b2,b3,b4,b5,b6,b7⟩
  ·rw [b1] at g6;have gp:=b2;have gA:=b3;clear b1 b2 b3;generalize f8_ s.q c=K0 at *;generalize v1_ s.q c=D0 at *;generalize decide (0≤K0)=Z0 at *;refine c2_ Tryz.func16 rfl (by kernel_rfl) (by kernel_rfl) rfl fun M0 w0=>?_;simp only [Tryz.ntmps16,Tryz.results16,b4_];repeat' first|(with_reducible first|apply a8_|apply a3_|apply b1_|apply a1_|refine a2_ [] ?_)|((with_reducible refine a6_ ?_ ?_);(focus (go_simp;done)))|((with_reducible refine a0_ fun X Y=>?_);go_simp;(first|(with_reducible refine ⟨_,ha,?_⟩)|(refine ⟨_,gF,?_⟩)|(refine ⟨_,gS,?_⟩)|skip);refine Y _ ?_;clear Y X)
   refine b2_ 12 11 [] rfl (by kernel_rfl) (by kernel_rfl) ?_;simp only [List.take,List.drop];repeat' first|(with_reducible first|apply a8_|apply a3_|apply a1_|apply a5_)|((with_reducible first|refine a0_ fun X Y=>?_|refine a4_ fun X Y=>?_);go_simp;(first|(refine ⟨_,g1,?_⟩)|(refine ⟨_,g2,?_⟩)|(refine ⟨_,gn,?_⟩)|skip);refine Y _ ?_;clear Y X)
   refine z6_ 12 [] (fun i=>i == 10 || i == 11) (by kernel_rfl) (by kernel_rfl) (by kernel_rfl) (by go_simp) (by go_simp) ?_;simp only [List.take,List.drop];repeat ((with_reducible refine m5_ rfl fun X Y=>?_);go_simp;(first|(refine ⟨_,g1,?_⟩)|(refine ⟨_,g2,?_⟩)|(refine ⟨_,gp,?_⟩)|skip);refine Y _ (by go_simp) ?_;clear Y X)
   refine e7_ [some (.box [I 0,I 0])] none (.ref 0 0) rfl ⟨rfl,fun _=>rfl,fun _ h=>by cases h⟩ ?_ ?_
   ·intro s2 hs2;go_simp
   refine e7_ [some (.box [I 0,I 0])] none .any rfl ⟨rfl,fun _=>rfl,fun _ h=>by cases h⟩ ?_ ?_
   ·intro s2 hs2;have q1:lkp s2 9 = .ref 0 0:=(hs2 9 (by simp [Op.operands]) (by go_simp)).trans (by go_simp);have q2:lkp s2 54 = .agg [I 0,I 0]:=(hs2 54 (by simp [Op.operands]) (by go_simp)).trans (by go_simp);clear hs2;go_simp
   repeat (first|(with_reducible first|apply a8_|apply a3_|apply a1_)|((with_reducible refine a0_ fun X Y=>?_);go_simp;refine Y _ ?_;clear Y X)|((with_reducible refine r4_ ?_);simp only [List.cons_append,List.nil_append,a0m]))
   repeat' first|(with_reducible first|apply a8_|apply a3_|apply b5_|apply c4_|apply b1_|apply a1_|refine a2_ [] ?_|apply a5_)|((with_reducible refine a7_ ?_ ?_);(focus (go_simp;done)))|((with_reducible refine a6_ ?_ ?_);(focus (go_simp;done)))|((with_reducible first|refine a0_ fun X Y=>?_|refine a4_ fun X Y=>?_);go_simp;(first|(refine ⟨_,g1,?_⟩)|(refine ⟨_,g2,?_⟩)|(refine ⟨_,gA,?_⟩)|(refine ⟨_,g4,?_⟩)|(refine ⟨_,gh,?_⟩)|(refine ⟨_,g5,?_⟩)|(refine ⟨_,g6,?_⟩)|skip);refine Y _ ?_;clear Y X)|((refine b2_ 12 12 [] rfl (by kernel_rfl) (by kernel_rfl) ?_);simp only [List.take,List.drop])
   go_simp
  ·rw [b1] at g6;rw [b2] at g5;have gp:=b3;have gA:=b4;clear b1 b2 b3 b4;generalize f8_ s.q c=K0 at *;generalize v1_ s.q c=D0 at *;refine c2_ Tryz.func16 rfl (by kernel_rfl) (by kernel_rfl) rfl fun M0 w0=>?_;simp only [Tryz.ntmps16,Tryz.results16,b4_];repeat' first|(with_reducible first|apply a8_|apply a3_|apply b1_|apply a1_|refine a2_ [] ?_)|((with_reducible refine a6_ ?_ ?_);(focus (go_simp;done)))|((with_reducible refine a0_ fun X Y=>?_);go_simp;(first|(with_reducible refine ⟨_,ha,?_⟩)|(refine ⟨_,gF,?_⟩)|(refine ⟨_,gS,?_⟩)|skip);refine Y _ ?_;clear Y X)
   refine b2_ 12 11 [] rfl (by kernel_rfl) (by kernel_rfl) ?_;simp only [List.take,List.drop];repeat' first|(with_reducible first|apply a8_|apply a3_|apply a1_|apply a5_)|((with_reducible first|refine a0_ fun X Y=>?_|refine a4_ fun X Y=>?_);go_simp;(first|(refine ⟨_,g1,?_⟩)|(refine ⟨_,g2,?_⟩)|(refine ⟨_,gn,?_⟩)|skip);refine Y _ ?_;clear Y X)
   refine z6_ 12 [] (fun i=>i == 10 || i == 11) (by kernel_rfl) (by kernel_rfl) (by kernel_rfl) (by go_simp) (by go_simp) ?_;simp only [List.take,List.drop];repeat ((with_reducible refine m5_ rfl fun X Y=>?_);go_simp;(first|(refine ⟨_,g1,?_⟩)|(refine ⟨_,g2,?_⟩)|(refine ⟨_,gp,?_⟩)|skip);refine Y _ (by go_simp) ?_;clear Y X)
   refine e7_ [some (.box [I 0,I 0])] none (.ref 0 0) rfl ⟨rfl,fun _=>rfl,fun _ h=>by cases h⟩ ?_ ?_
   ·intro s2 hs2;go_simp
   refine e7_ [some (.box [I 0,I 0])] none .any rfl ⟨rfl,fun _=>rfl,fun _ h=>by cases h⟩ ?_ ?_
   ·intro s2 hs2;have q1:lkp s2 9 = .ref 0 0:=(hs2 9 (by simp [Op.operands]) (by go_simp)).trans (by go_simp);have q2:lkp s2 54 = .agg [I 0,I 0]:=(hs2 54 (by simp [Op.operands]) (by go_simp)).trans (by go_simp);clear hs2;go_simp
   repeat (first|(with_reducible first|apply a8_|apply a3_|apply a1_)|((with_reducible refine a0_ fun X Y=>?_);go_simp;refine Y _ ?_;clear Y X)|((with_reducible refine r4_ ?_);simp only [List.cons_append,List.nil_append,a0m]))
   repeat' first|(with_reducible first|apply a8_|apply a3_|apply b5_|apply c4_|apply b1_|apply a1_|refine a2_ [] ?_|apply a5_)|((with_reducible refine a7_ ?_ ?_);(focus (go_simp;done)))|((with_reducible refine a6_ ?_ ?_);(focus (go_simp;done)))|((with_reducible first|refine a0_ fun X Y=>?_|refine a4_ fun X Y=>?_);go_simp;(first|(refine ⟨_,g1,?_⟩)|(refine ⟨_,g2,?_⟩)|(refine ⟨_,gA,?_⟩)|(refine ⟨_,g4,?_⟩)|(refine ⟨_,gh,?_⟩)|(refine ⟨_,g5,?_⟩)|(refine ⟨_,g6,?_⟩)|skip);refine Y _ ?_;clear Y X)|((refine b2_ 12 12 [] rfl (by kernel_rfl) (by kernel_rfl) ?_);simp only [List.take,List.drop])
   go_simp
  ·rw [b1] at g6;have g5:=b2;have gp:=b3;have gA:=b4;have gR:=b5;have gT:=b6;have HL0:=Lib.hid b7;clear b1 b2 b3 b4 b5 b6 b7;refine c2_ Tryz.func16 rfl (by kernel_rfl) (by kernel_rfl) rfl fun M0 w0=>?_;simp only [Tryz.ntmps16,Tryz.results16,b4_];repeat' first|(with_reducible first|apply a8_|apply a3_|apply b1_|apply a1_|refine a2_ [] ?_)|((with_reducible refine a6_ ?_ ?_);(focus (go_simp;done)))|((with_reducible refine a0_ fun X Y=>?_);go_simp;(first|(with_reducible refine ⟨_,ha,?_⟩)|(refine ⟨_,gF,?_⟩)|(refine ⟨_,gS,?_⟩)|skip);refine Y _ ?_;clear Y X)
   refine b2_ 12 11 [] rfl (by kernel_rfl) (by kernel_rfl) ?_;simp only [List.take,List.drop];repeat' first|(with_reducible first|apply a8_|apply a3_|apply a1_|apply a5_)|((with_reducible first|refine a0_ fun X Y=>?_|refine a4_ fun X Y=>?_);go_simp;(first|(refine ⟨_,g1,?_⟩)|(refine ⟨_,g2,?_⟩)|(refine ⟨_,gn,?_⟩)|skip);refine Y _ ?_;clear Y X)
   refine z6_ 12 [] (fun i=>i == 10 || i == 11) (by kernel_rfl) (by kernel_rfl) (by kernel_rfl) (by go_simp) (by go_simp) ?_;simp only [List.take,List.drop];repeat ((with_reducible refine m5_ rfl fun X Y=>?_);go_simp;(first|(refine ⟨_,g1,?_⟩)|(refine ⟨_,g2,?_⟩)|(refine ⟨_,gp,?_⟩)|skip);refine Y _ (by go_simp) ?_;clear Y X)
   refine e7_ [some (.box [I 0,I 0])] none (.ref 0 0) rfl ⟨rfl,fun _=>rfl,fun _ h=>by cases h⟩ ?_ ?_
   ·intro s2 hs2;go_simp
   refine e7_ [some (.box [I (i0:Int),I (d:Int)])] none .any rfl ⟨rfl,fun _=>rfl,fun _ h=>by cases h⟩ ?_ ?_
   ·intro s2 hs2;have q1:lkp s2 9 = .ref 0 0:=(hs2 9 (by simp [Op.operands]) (by go_simp)).trans (by go_simp);have q2:lkp s2 54 = .agg [I (i0:Int),I (d:Int)]:=(hs2 54 (by simp [Op.operands]) (by go_simp)).trans (by go_simp);clear hs2;go_simp
   repeat (first|(with_reducible first|apply a8_|apply a3_|apply a1_)|((with_reducible refine a0_ fun X Y=>?_);go_simp;refine Y _ ?_;clear Y X)|((with_reducible refine r4_ ?_);simp only [List.cons_append,List.nil_append,a0m]))
   repeat' first|(with_reducible first|apply a8_|apply a3_|apply b1_|apply a9_|apply a1_|refine a2_ [] ?_|apply a5_)|((with_reducible refine a7_ ?_ ?_);(focus (go_simp;done)))|((with_reducible refine a6_ ?_ ?_);(focus (go_simp;done)))|((with_reducible first|refine a0_ fun X Y=>?_|refine a4_ fun X Y=>?_);go_simp;(first|(refine ⟨_,g1,?_⟩)|(refine ⟨_,g2,?_⟩)|(refine ⟨_,gA,?_⟩)|(refine ⟨_,g4,?_⟩)|(refine ⟨_,gh,?_⟩)|(refine ⟨_,g5,?_⟩)|(refine ⟨_,g6,?_⟩)|(refine ⟨_,gR,?_⟩)|(refine ⟨_,gT,?_⟩)|skip);refine Y _ ?_;clear Y X)|((refine b2_ 12 12 [] rfl (by kernel_rfl) (by kernel_rfl) ?_);simp only [List.take,List.drop])
   have hz:fbN r (i0:Int) 0=false:=rfl;apply b4o [3,9,11] (fun k=>[(19,I k),(18,B (fbN r i0 k))]) (fun k=>([some (.box [I (i0:Int),I (d:Int)])] : Hp))  (r.ranks.length)
   ·go_simp<;>exact rfl
   ·go_simp
   ·intro k hk K hK;obtain ⟨w1,w2,w3,w4,w5,w6⟩:=ixs (m:=k) (by omega);have hs1:fbN r i0 (k+1)=(fbN r i0 k || decide ((rat r.ranks k).feeder=i0)):=rfl;rw [hs1] at hK;clear hs1 hz;cases hb:fbN r i0 k
    ·rw [hb] at hK;repeat' first|(with_reducible first|apply a8_|apply a3_|apply b1_|apply a9_|apply b3_|apply a1_|refine a2_ [] ?_|apply a5_)|((with_reducible refine a7_ ?_ ?_);(focus (go_simp;done)))|((with_reducible first|refine a0_ fun X Y=>?_|refine a4_ fun X Y=>?_);go_simp;refine Y _ ?_;clear Y X)|((refine b2_ 13 12 [] rfl (by kernel_rfl) (by kernel_rfl) ?_);simp only [List.take,List.drop])
     refine hK _ ?_;go_simp
    ·rw [hb] at hK;repeat' first|(with_reducible first|apply a8_|apply a3_|apply b1_|apply a9_|apply b3_|apply a1_|refine a2_ [] ?_|apply a5_)|((with_reducible refine a7_ ?_ ?_);(focus (go_simp;done)))|((with_reducible first|refine a0_ fun X Y=>?_|refine a4_ fun X Y=>?_);go_simp;refine Y _ ?_;clear Y X)|((refine b2_ 13 12 [] rfl (by kernel_rfl) (by kernel_rfl) ?_);simp only [List.take,List.drop])
     refine hK _ ?_;go_simp
   ·intro K;have hL0:=HL0.out;clear hz;by_cases hd:(d:Int)=0
    ·cases hb:fbN r i0 r.ranks.length
     ·have e0:L0=[]:=hL0 (by omega) hb;clear hL0;subst e0;repeat' first|(with_reducible first|apply a8_|apply a3_|apply b8_|apply c4_|apply d0_|apply b7_|apply a1_|refine a2_ [] ?_)|((with_reducible refine a6_ ?_ ?_);(focus (go_simp;done)))|((with_reducible refine a0_ fun X Y=>?_);go_simp;refine Y _ ?_;clear Y X)
      go_simp
     ·clear hL0;repeat' first|(with_reducible first|apply a8_|apply a3_|apply b8_|apply c4_|apply d0_|apply b7_|apply a1_|refine a2_ [] ?_)|((with_reducible refine a6_ ?_ ?_);(focus (go_simp;done)))|((with_reducible refine a0_ fun X Y=>?_);go_simp;refine Y _ ?_;clear Y X)
      go_simp
    ·clear hL0;have hd2:¬d=0:=by omega
     repeat' first|(with_reducible first|apply a8_|apply a3_|apply b8_|apply c4_|apply d0_|apply b7_|apply a1_|refine a2_ [] ?_)|((with_reducible refine a6_ ?_ ?_);(focus (go_simp;done)))|((with_reducible refine a0_ fun X Y=>?_);go_simp;refine Y _ ?_;clear Y X)
     go_simp
 ·obtain ⟨q,rfl,hql⟩ : ∃ q:Nat,n=q∧q < r.ranks.length:=by
   simp only [inR,Bool.and_eq_true,decide_eq_true_eq] at hin;exact ⟨n.toNat,by omega,by omega⟩
  have e1:nxE r s q=0:=by
   unfold nxE;simp [fst,h,hin,unl]
  obtain ⟨gn1,gn2⟩:=d0t r s q (by omega) hnm hsm e1 (by omega);rw [hin] at gh;by_cases hq:qat s.q q=[]
  ·have gn:=gn1 hq;clear hF hS h8 hnm hs hsm hc h20 h hck h0 hr hi hin e1 gn1 gn2;rcases HB with ⟨b1,b2,b3⟩|⟨b1,b2,b3,b4⟩|⟨i0,d,m,L0,b1,b2,b3,b4,b5,b6,b7⟩
   ·rw [b1] at g6;have gp:=b2;have gA:=b3;clear b1 b2 b3;generalize f8_ s.q c=K0 at *;generalize v1_ s.q c=D0 at *;generalize decide (0≤K0)=Z0 at *;refine c2_ Tryz.func16 rfl (by kernel_rfl) (by kernel_rfl) rfl fun M0 w0=>?_;simp only [Tryz.ntmps16,Tryz.results16,b4_];repeat' first|(with_reducible first|apply a8_|apply a3_|apply b1_|apply a1_|refine a2_ [] ?_)|((with_reducible refine a6_ ?_ ?_);(focus (go_simp;done)))|((with_reducible refine a0_ fun X Y=>?_);go_simp;(first|(with_reducible refine ⟨_,ha,?_⟩)|(refine ⟨_,gF,?_⟩)|(refine ⟨_,gS,?_⟩)|skip);refine Y _ ?_;clear Y X)
    refine b2_ 12 11 [] rfl (by kernel_rfl) (by kernel_rfl) ?_;simp only [List.take,List.drop];repeat' first|(with_reducible first|apply a8_|apply a3_|apply a1_|apply a5_)|((with_reducible first|refine a0_ fun X Y=>?_|refine a4_ fun X Y=>?_);go_simp;(first|(refine ⟨_,g1,?_⟩)|(refine ⟨_,g2,?_⟩)|(refine ⟨_,gn,?_⟩)|skip);refine Y _ ?_;clear Y X)
    refine z6_ 12 [] (fun i=>i == 10 || i == 11) (by kernel_rfl) (by kernel_rfl) (by kernel_rfl) (by go_simp) (by go_simp) ?_;simp only [List.take,List.drop];repeat ((with_reducible refine m5_ rfl fun X Y=>?_);go_simp;(first|(refine ⟨_,g1,?_⟩)|(refine ⟨_,g2,?_⟩)|(refine ⟨_,gp,?_⟩)|skip);refine Y _ (by go_simp) ?_;clear Y X)
    refine e7_ [some (.box [I 0,I 0])] none (.ref 0 0) rfl ⟨rfl,fun _=>rfl,fun _ h=>by cases h⟩ ?_ ?_
    ·intro s2 hs2;go_simp
    refine e7_ [some (.box [I 0,I 0])] none .any rfl ⟨rfl,fun _=>rfl,fun _ h=>by cases h⟩ ?_ ?_
    ·intro s2 hs2;have q1:lkp s2 9 = .ref 0 0:=(hs2 9 (by simp [Op.operands]) (by go_simp)).trans (by go_simp);have q2:lkp s2 54 = .agg [I 0,I 0]:=(hs2 54 (by simp [Op.operands]) (by go_simp)).trans (by go_simp);clear hs2;go_simp
    repeat (first|(with_reducible first|apply a8_|apply a3_|apply a1_)|((with_reducible refine a0_ fun X Y=>?_);go_simp;refine Y _ ?_;clear Y X)|((with_reducible refine r4_ ?_);simp only [List.cons_append,List.nil_append,a0m]))
    repeat' first|(with_reducible first|apply a8_|apply a3_|apply b5_|apply c4_|apply b1_|apply a1_|refine a2_ [] ?_|apply a5_)|((with_reducible refine a7_ ?_ ?_);(focus (go_simp;done)))|((with_reducible refine a6_ ?_ ?_);(focus (go_simp;done)))|((with_reducible first|refine a0_ fun X Y=>?_|refine a4_ fun X Y=>?_);go_simp;(first|(refine ⟨_,g1,?_⟩)|(refine ⟨_,g2,?_⟩)|(refine ⟨_,gA,?_⟩)|(refine ⟨_,g4,?_⟩)|(refine ⟨_,gh,?_⟩)|(refine ⟨_,g5,?_⟩)|(refine ⟨_,g6,?_⟩)|skip);refine Y _ ?_;clear Y X)|((refine b2_ 12 12 [] rfl (by kernel_rfl) (by kernel_rfl) ?_);simp only [List.take,List.drop])
    go_simp
   ·rw [b1] at g6;rw [b2] at g5;have gp:=b3;have gA:=b4;clear b1 b2 b3 b4;generalize f8_ s.q c=K0 at *;generalize v1_ s.q c=D0 at *;refine c2_ Tryz.func16 rfl (by kernel_rfl) (by kernel_rfl) rfl fun M0 w0=>?_;simp only [Tryz.ntmps16,Tryz.results16,b4_];repeat' first|(with_reducible first|apply a8_|apply a3_|apply b1_|apply a1_|refine a2_ [] ?_)|((with_reducible refine a6_ ?_ ?_);(focus (go_simp;done)))|((with_reducible refine a0_ fun X Y=>?_);go_simp;(first|(with_reducible refine ⟨_,ha,?_⟩)|(refine ⟨_,gF,?_⟩)|(refine ⟨_,gS,?_⟩)|skip);refine Y _ ?_;clear Y X)
    refine b2_ 12 11 [] rfl (by kernel_rfl) (by kernel_rfl) ?_;simp only [List.take,List.drop];repeat' first|(with_reducible first|apply a8_|apply a3_|apply a1_|apply a5_)|((with_reducible first|refine a0_ fun X Y=>?_|refine a4_ fun X Y=>?_);go_simp;(first|(refine ⟨_,g1,?_⟩)|(refine ⟨_,g2,?_⟩)|(refine ⟨_,gn,?_⟩)|skip);refine Y _ ?_;clear Y X)
    refine z6_ 12 [] (fun i=>i == 10 || i == 11) (by kernel_rfl) (by kernel_rfl) (by kernel_rfl) (by go_simp) (by go_simp) ?_;simp only [List.take,List.drop];repeat ((with_reducible refine m5_ rfl fun X Y=>?_);go_simp;(first|(refine ⟨_,g1,?_⟩)|(refine ⟨_,g2,?_⟩)|(refine ⟨_,gp,?_⟩)|skip);refine Y _ (by go_simp) ?_;clear Y X)
    refine e7_ [some (.box [I 0,I 0])] none (.ref 0 0) rfl ⟨rfl,fun _=>rfl,fun _ h=>by cases h⟩ ?_ ?_
    ·intro s2 hs2;go_simp
    refine e7_ [some (.box [I 0,I 0])] none .any rfl ⟨rfl,fun _=>rfl,fun _ h=>by cases h⟩ ?_ ?_
    ·intro s2 hs2;have q1:lkp s2 9 = .ref 0 0:=(hs2 9 (by simp [Op.operands]) (by go_simp)).trans (by go_simp);have q2:lkp s2 54 = .agg [I 0,I 0]:=(hs2 54 (by simp [Op.operands]) (by go_simp)).trans (by go_simp);clear hs2;go_simp
    repeat (first|(with_reducible first|apply a8_|apply a3_|apply a1_)|((with_reducible refine a0_ fun X Y=>?_);go_simp;refine Y _ ?_;clear Y X)|((with_reducible refine r4_ ?_);simp only [List.cons_append,List.nil_append,a0m]))
    repeat' first|(with_reducible first|apply a8_|apply a3_|apply b5_|apply c4_|apply b1_|apply a1_|refine a2_ [] ?_|apply a5_)|((with_reducible refine a7_ ?_ ?_);(focus (go_simp;done)))|((with_reducible refine a6_ ?_ ?_);(focus (go_simp;done)))|((with_reducible first|refine a0_ fun X Y=>?_|refine a4_ fun X Y=>?_);go_simp;(first|(refine ⟨_,g1,?_⟩)|(refine ⟨_,g2,?_⟩)|(refine ⟨_,gA,?_⟩)|(refine ⟨_,g4,?_⟩)|(refine ⟨_,gh,?_⟩)|(refine ⟨_,g5,?_⟩)|(refine ⟨_,g6,?_⟩)|skip);refine Y _ ?_;clear Y X)|((refine b2_ 12 12 [] rfl (by kernel_rfl) (by kernel_rfl) ?_);simp only [List.take,List.drop])
    go_simp
   ·rw [b1] at g6;have g5:=b2;have gp:=b3;have gA:=b4;have gR:=b5;have gT:=b6;have HL0:=Lib.hid b7;clear b1 b2 b3 b4 b5 b6 b7;refine c2_ Tryz.func16 rfl (by kernel_rfl) (by kernel_rfl) rfl fun M0 w0=>?_;simp only [Tryz.ntmps16,Tryz.results16,b4_];repeat' first|(with_reducible first|apply a8_|apply a3_|apply b1_|apply a1_|refine a2_ [] ?_)|((with_reducible refine a6_ ?_ ?_);(focus (go_simp;done)))|((with_reducible refine a0_ fun X Y=>?_);go_simp;(first|(with_reducible refine ⟨_,ha,?_⟩)|(refine ⟨_,gF,?_⟩)|(refine ⟨_,gS,?_⟩)|skip);refine Y _ ?_;clear Y X)
    refine b2_ 12 11 [] rfl (by kernel_rfl) (by kernel_rfl) ?_;simp only [List.take,List.drop];repeat' first|(with_reducible first|apply a8_|apply a3_|apply a1_|apply a5_)|((with_reducible first|refine a0_ fun X Y=>?_|refine a4_ fun X Y=>?_);go_simp;(first|(refine ⟨_,g1,?_⟩)|(refine ⟨_,g2,?_⟩)|(refine ⟨_,gn,?_⟩)|skip);refine Y _ ?_;clear Y X)
    refine z6_ 12 [] (fun i=>i == 10 || i == 11) (by kernel_rfl) (by kernel_rfl) (by kernel_rfl) (by go_simp) (by go_simp) ?_;simp only [List.take,List.drop];repeat ((with_reducible refine m5_ rfl fun X Y=>?_);go_simp;(first|(refine ⟨_,g1,?_⟩)|(refine ⟨_,g2,?_⟩)|(refine ⟨_,gp,?_⟩)|skip);refine Y _ (by go_simp) ?_;clear Y X)
    refine e7_ [some (.box [I 0,I 0])] none (.ref 0 0) rfl ⟨rfl,fun _=>rfl,fun _ h=>by cases h⟩ ?_ ?_
    ·intro s2 hs2;go_simp
    refine e7_ [some (.box [I (i0:Int),I (d:Int)])] none .any rfl ⟨rfl,fun _=>rfl,fun _ h=>by cases h⟩ ?_ ?_
    ·intro s2 hs2;have q1:lkp s2 9 = .ref 0 0:=(hs2 9 (by simp [Op.operands]) (by go_simp)).trans (by go_simp);have q2:lkp s2 54 = .agg [I (i0:Int),I (d:Int)]:=(hs2 54 (by simp [Op.operands]) (by go_simp)).trans (by go_simp);clear hs2;go_simp
    repeat (first|(with_reducible first|apply a8_|apply a3_|apply a1_)|((with_reducible refine a0_ fun X Y=>?_);go_simp;refine Y _ ?_;clear Y X)|((with_reducible refine r4_ ?_);simp only [List.cons_append,List.nil_append,a0m]))
    repeat' first|(with_reducible first|apply a8_|apply a3_|apply b1_|apply a9_|apply a1_|refine a2_ [] ?_|apply a5_)|((with_reducible refine a6_ ?_ ?_);(focus (go_simp;done)))|((with_reducible first|refine a0_ fun X Y=>?_|refine a4_ fun X Y=>?_);go_simp;(first|(refine ⟨_,g1,?_⟩)|(refine ⟨_,g2,?_⟩)|(refine ⟨_,gA,?_⟩)|(refine ⟨_,g4,?_⟩)|(refine ⟨_,gh,?_⟩)|(refine ⟨_,g5,?_⟩)|(refine ⟨_,g6,?_⟩)|(refine ⟨_,gR,?_⟩)|(refine ⟨_,gT,?_⟩)|skip);refine Y _ ?_;clear Y X)|((refine b2_ 12 12 [] rfl (by kernel_rfl) (by kernel_rfl) ?_);simp only [List.take,List.drop])
    have hz:fbN r (i0:Int) 0=false:=rfl;apply b4o [3,9,11] (fun k=>[(19,I k),(18,B (fbN r i0 k))]) (fun k=>([some (.box [I (i0:Int),I (d:Int)])] : Hp))  (r.ranks.length)
    ·go_simp<;>exact rfl
    ·go_simp
    ·intro k hk K hK;obtain ⟨w1,w2,w3,w4,w5,w6⟩:=ixs (m:=k) (by omega);have hs1:fbN r i0 (k+1)=(fbN r i0 k || decide ((rat r.ranks k).feeder=i0)):=rfl;rw [hs1] at hK;clear hs1 hz;cases hb:fbN r i0 k
     ·rw [hb] at hK;repeat' first|(with_reducible first|apply a8_|apply a3_|apply b1_|apply a9_|apply b3_|apply a1_|refine a2_ [] ?_|apply a5_)|((with_reducible refine a7_ ?_ ?_);(focus (go_simp;done)))|((with_reducible first|refine a0_ fun X Y=>?_|refine a4_ fun X Y=>?_);go_simp;refine Y _ ?_;clear Y X)|((refine b2_ 13 12 [] rfl (by kernel_rfl) (by kernel_rfl) ?_);simp only [List.take,List.drop])
      refine hK _ ?_;go_simp
     ·rw [hb] at hK;repeat' first|(with_reducible first|apply a8_|apply a3_|apply b1_|apply a9_|apply b3_|apply a1_|refine a2_ [] ?_|apply a5_)|((with_reducible refine a7_ ?_ ?_);(focus (go_simp;done)))|((with_reducible first|refine a0_ fun X Y=>?_|refine a4_ fun X Y=>?_);go_simp;refine Y _ ?_;clear Y X)|((refine b2_ 13 12 [] rfl (by kernel_rfl) (by kernel_rfl) ?_);simp only [List.take,List.drop])
      refine hK _ ?_;go_simp
    ·intro K;have hL0:=HL0.out;clear hz;by_cases hd:(d:Int)=0
     ·cases hb:fbN r i0 r.ranks.length
      ·have e0:L0=[]:=hL0 (by omega) hb;clear hL0;subst e0;repeat' first|(with_reducible first|apply a8_|apply a3_|apply b8_|apply c4_|apply d0_|apply b7_|apply a1_|refine a2_ [] ?_)|((with_reducible refine a6_ ?_ ?_);(focus (go_simp;done)))|((with_reducible refine a0_ fun X Y=>?_);go_simp;refine Y _ ?_;clear Y X)
       go_simp
      ·clear hL0;repeat' first|(with_reducible first|apply a8_|apply a3_|apply b8_|apply c4_|apply d0_|apply b7_|apply a1_|refine a2_ [] ?_)|((with_reducible refine a6_ ?_ ?_);(focus (go_simp;done)))|((with_reducible refine a0_ fun X Y=>?_);go_simp;refine Y _ ?_;clear Y X)
       go_simp
     ·clear hL0;have hd2:¬d=0:=by omega
      repeat' first|(with_reducible first|apply a8_|apply a3_|apply b8_|apply c4_|apply d0_|apply b7_|apply a1_|refine a2_ [] ?_)|((with_reducible refine a6_ ?_ ?_);(focus (go_simp;done)))|((with_reducible refine a0_ fun X Y=>?_);go_simp;refine Y _ ?_;clear Y X)
      go_simp
  ·have hq0:0 < (qat s.q q).length:=List.length_pos_iff.2 hq;have gn:=gn2 hq0;have hq1:¬(qat s.q q).length=0:=by omega
   clear hF hS h8 hnm hs hsm hc h20 h hck h0 hr hi hin e1 gn1 gn2;rcases HB with ⟨b1,b2,b3⟩|⟨b1,b2,b3,b4⟩|⟨i0,d,m,L0,b1,b2,b3,b4,b5,b6,b7⟩
   ·rw [b1] at g6;have gp:=b2;have gA:=b3;clear b1 b2 b3;generalize f8_ s.q c=K0 at *;generalize v1_ s.q c=D0 at *;generalize decide (0≤K0)=Z0 at *;refine c2_ Tryz.func16 rfl (by kernel_rfl) (by kernel_rfl) rfl fun M0 w0=>?_;simp only [Tryz.ntmps16,Tryz.results16,b4_];repeat' first|(with_reducible first|apply a8_|apply a3_|apply b1_|apply a1_|refine a2_ [] ?_)|((with_reducible refine a6_ ?_ ?_);(focus (go_simp;done)))|((with_reducible refine a0_ fun X Y=>?_);go_simp;(first|(with_reducible refine ⟨_,ha,?_⟩)|(refine ⟨_,gF,?_⟩)|(refine ⟨_,gS,?_⟩)|skip);refine Y _ ?_;clear Y X)
    refine b2_ 12 11 [] rfl (by kernel_rfl) (by kernel_rfl) ?_;simp only [List.take,List.drop];repeat' first|(with_reducible first|apply a8_|apply a3_|apply a1_|apply a5_)|((with_reducible first|refine a0_ fun X Y=>?_|refine a4_ fun X Y=>?_);go_simp;(first|(refine ⟨_,g1,?_⟩)|(refine ⟨_,g2,?_⟩)|(refine ⟨_,gn,?_⟩)|skip);refine Y _ ?_;clear Y X)
    refine z6_ 12 [] (fun i=>i == 10 || i == 11) (by kernel_rfl) (by kernel_rfl) (by kernel_rfl) (by go_simp) (by go_simp) ?_;simp only [List.take,List.drop];repeat ((with_reducible refine m5_ rfl fun X Y=>?_);go_simp;(first|(refine ⟨_,g1,?_⟩)|(refine ⟨_,g2,?_⟩)|(refine ⟨_,gp,?_⟩)|skip);refine Y _ (by go_simp) ?_;clear Y X)
    refine e7_ [some (.box [I 0,I 0])] none (.ref 0 0) rfl ⟨rfl,fun _=>rfl,fun _ h=>by cases h⟩ ?_ ?_
    ·intro s2 hs2;go_simp
    refine e7_ [some (.box [I 0,I 0])] none .any rfl ⟨rfl,fun _=>rfl,fun _ h=>by cases h⟩ ?_ ?_
    ·intro s2 hs2;have q1:lkp s2 9 = .ref 0 0:=(hs2 9 (by simp [Op.operands]) (by go_simp)).trans (by go_simp);have q2:lkp s2 54 = .agg [I 0,I 0]:=(hs2 54 (by simp [Op.operands]) (by go_simp)).trans (by go_simp);clear hs2;go_simp
    repeat (first|(with_reducible first|apply a8_|apply a3_|apply a1_)|((with_reducible refine a0_ fun X Y=>?_);go_simp;refine Y _ ?_;clear Y X)|((with_reducible refine r4_ ?_);simp only [List.cons_append,List.nil_append,a0m]))
    repeat' first|(with_reducible first|apply a8_|apply a3_|apply b5_|apply c4_|apply b1_|apply a1_|refine a2_ [] ?_|apply a5_)|((with_reducible refine a7_ ?_ ?_);(focus (go_simp;done)))|((with_reducible refine a6_ ?_ ?_);(focus (go_simp;done)))|((with_reducible first|refine a0_ fun X Y=>?_|refine a4_ fun X Y=>?_);go_simp;(first|(refine ⟨_,g1,?_⟩)|(refine ⟨_,g2,?_⟩)|(refine ⟨_,gA,?_⟩)|(refine ⟨_,g4,?_⟩)|(refine ⟨_,gh,?_⟩)|(refine ⟨_,g5,?_⟩)|(refine ⟨_,g6,?_⟩)|skip);refine Y _ ?_;clear Y X)|((refine b2_ 12 12 [] rfl (by kernel_rfl) (by kernel_rfl) ?_);simp only [List.take,List.drop])
    go_simp
   ·rw [b1] at g6;rw [b2] at g5;have gp:=b3;have gA:=b4;clear b1 b2 b3 b4;generalize f8_ s.q c=K0 at *;generalize v1_ s.q c=D0 at *;refine c2_ Tryz.func16 rfl (by kernel_rfl) (by kernel_rfl) rfl fun M0 w0=>?_;simp only [Tryz.ntmps16,Tryz.results16,b4_];repeat' first|(with_reducible first|apply a8_|apply a3_|apply b1_|apply a1_|refine a2_ [] ?_)|((with_reducible refine a6_ ?_ ?_);(focus (go_simp;done)))|((with_reducible refine a0_ fun X Y=>?_);go_simp;(first|(with_reducible refine ⟨_,ha,?_⟩)|(refine ⟨_,gF,?_⟩)|(refine ⟨_,gS,?_⟩)|skip);refine Y _ ?_;clear Y X)
    refine b2_ 12 11 [] rfl (by kernel_rfl) (by kernel_rfl) ?_;simp only [List.take,List.drop];repeat' first|(with_reducible first|apply a8_|apply a3_|apply a1_|apply a5_)|((with_reducible first|refine a0_ fun X Y=>?_|refine a4_ fun X Y=>?_);go_simp;(first|(refine ⟨_,g1,?_⟩)|(refine ⟨_,g2,?_⟩)|(refine ⟨_,gn,?_⟩)|skip);refine Y _ ?_;clear Y X)
    refine z6_ 12 [] (fun i=>i == 10 || i == 11) (by kernel_rfl) (by kernel_rfl) (by kernel_rfl) (by go_simp) (by go_simp) ?_;simp only [List.take,List.drop];repeat ((with_reducible refine m5_ rfl fun X Y=>?_);go_simp;(first|(refine ⟨_,g1,?_⟩)|(refine ⟨_,g2,?_⟩)|(refine ⟨_,gp,?_⟩)|skip);refine Y _ (by go_simp) ?_;clear Y X)
    refine e7_ [some (.box [I 0,I 0])] none (.ref 0 0) rfl ⟨rfl,fun _=>rfl,fun _ h=>by cases h⟩ ?_ ?_
    ·intro s2 hs2;go_simp
    refine e7_ [some (.box [I 0,I 0])] none .any rfl ⟨rfl,fun _=>rfl,fun _ h=>by cases h⟩ ?_ ?_
    ·intro s2 hs2;have q1:lkp s2 9 = .ref 0 0:=(hs2 9 (by simp [Op.operands]) (by go_simp)).trans (by go_simp);have q2:lkp s2 54 = .agg [I 0,I 0]:=(hs2 54 (by simp [Op.operands]) (by go_simp)).trans (by go_simp);clear hs2;go_simp
    repeat (first|(with_reducible first|apply a8_|apply a3_|apply a1_)|((with_reducible refine a0_ fun X Y=>?_);go_simp;refine Y _ ?_;clear Y X)|((with_reducible refine r4_ ?_);simp only [List.cons_append,List.nil_append,a0m]))
    repeat' first|(with_reducible first|apply a8_|apply a3_|apply b5_|apply c4_|apply b1_|apply a1_|refine a2_ [] ?_|apply a5_)|((with_reducible refine a7_ ?_ ?_);(focus (go_simp;done)))|((with_reducible refine a6_ ?_ ?_);(focus (go_simp;done)))|((with_reducible first|refine a0_ fun X Y=>?_|refine a4_ fun X Y=>?_);go_simp;(first|(refine ⟨_,g1,?_⟩)|(refine ⟨_,g2,?_⟩)|(refine ⟨_,gA,?_⟩)|(refine ⟨_,g4,?_⟩)|(refine ⟨_,gh,?_⟩)|(refine ⟨_,g5,?_⟩)|(refine ⟨_,g6,?_⟩)|skip);refine Y _ ?_;clear Y X)|((refine b2_ 12 12 [] rfl (by kernel_rfl) (by kernel_rfl) ?_);simp only [List.take,List.drop])
    go_simp
   ·rw [b1] at g6;have g5:=b2;have gp:=b3;have gA:=b4;have gR:=b5;have gT:=b6;have HL0:=Lib.hid b7;clear b1 b2 b3 b4 b5 b6 b7;refine c2_ Tryz.func16 rfl (by kernel_rfl) (by kernel_rfl) rfl fun M0 w0=>?_;simp only [Tryz.ntmps16,Tryz.results16,b4_];repeat' first|(with_reducible first|apply a8_|apply a3_|apply b1_|apply a1_|refine a2_ [] ?_)|((with_reducible refine a6_ ?_ ?_);(focus (go_simp;done)))|((with_reducible refine a0_ fun X Y=>?_);go_simp;(first|(with_reducible refine ⟨_,ha,?_⟩)|(refine ⟨_,gF,?_⟩)|(refine ⟨_,gS,?_⟩)|skip);refine Y _ ?_;clear Y X)
    refine b2_ 12 11 [] rfl (by kernel_rfl) (by kernel_rfl) ?_;simp only [List.take,List.drop];repeat' first|(with_reducible first|apply a8_|apply a3_|apply a1_|apply a5_)|((with_reducible first|refine a0_ fun X Y=>?_|refine a4_ fun X Y=>?_);go_simp;(first|(refine ⟨_,g1,?_⟩)|(refine ⟨_,g2,?_⟩)|(refine ⟨_,gn,?_⟩)|skip);refine Y _ ?_;clear Y X)
    refine z6_ 12 [] (fun i=>i == 10 || i == 11) (by kernel_rfl) (by kernel_rfl) (by kernel_rfl) (by go_simp) (by go_simp) ?_;simp only [List.take,List.drop];repeat ((with_reducible refine m5_ rfl fun X Y=>?_);go_simp;(first|(refine ⟨_,g1,?_⟩)|(refine ⟨_,g2,?_⟩)|(refine ⟨_,gp,?_⟩)|skip);refine Y _ (by go_simp) ?_;clear Y X)
    refine e7_ [some (.box [I 0,I 0])] none (.ref 0 0) rfl ⟨rfl,fun _=>rfl,fun _ h=>by cases h⟩ ?_ ?_
    ·intro s2 hs2;go_simp
    refine e7_ [some (.box [I (i0:Int),I (d:Int)])] none .any rfl ⟨rfl,fun _=>rfl,fun _ h=>by cases h⟩ ?_ ?_
    ·intro s2 hs2;have q1:lkp s2 9 = .ref 0 0:=(hs2 9 (by simp [Op.operands]) (by go_simp)).trans (by go_simp);have q2:lkp s2 54 = .agg [I (i0:Int),I (d:Int)]:=(hs2 54 (by simp [Op.operands]) (by go_simp)).trans (by go_simp);clear hs2;go_simp
    repeat (first|(with_reducible first|apply a8_|apply a3_|apply a1_)|((with_reducible refine a0_ fun X Y=>?_);go_simp;refine Y _ ?_;clear Y X)|((with_reducible refine r4_ ?_);simp only [List.cons_append,List.nil_append,a0m]))
    repeat' first|(with_reducible first|apply a8_|apply a3_|apply b1_|apply a9_|apply a1_|refine a2_ [] ?_|apply a5_)|((with_reducible refine a6_ ?_ ?_);(focus (go_simp;done)))|((with_reducible first|refine a0_ fun X Y=>?_|refine a4_ fun X Y=>?_);go_simp;(first|(refine ⟨_,g1,?_⟩)|(refine ⟨_,g2,?_⟩)|(refine ⟨_,gA,?_⟩)|(refine ⟨_,g4,?_⟩)|(refine ⟨_,gh,?_⟩)|(refine ⟨_,g5,?_⟩)|(refine ⟨_,g6,?_⟩)|(refine ⟨_,gR,?_⟩)|(refine ⟨_,gT,?_⟩)|skip);refine Y _ ?_;clear Y X)|((refine b2_ 12 12 [] rfl (by kernel_rfl) (by kernel_rfl) ?_);simp only [List.take,List.drop])
    have hz:fbN r (i0:Int) 0=false:=rfl;apply b4o [3,9,11] (fun k=>[(19,I k),(18,B (fbN r i0 k))]) (fun k=>([some (.box [I (i0:Int),I (d:Int)])] : Hp))  (r.ranks.length)
    ·go_simp<;>exact rfl
    ·go_simp
    ·intro k hk K hK;obtain ⟨w1,w2,w3,w4,w5,w6⟩:=ixs (m:=k) (by omega);have hs1:fbN r i0 (k+1)=(fbN r i0 k || decide ((rat r.ranks k).feeder=i0)):=rfl;rw [hs1] at hK;clear hs1 hz;cases hb:fbN r i0 k
     ·rw [hb] at hK;repeat' first|(with_reducible first|apply a8_|apply a3_|apply b1_|apply a9_|apply b3_|apply a1_|refine a2_ [] ?_|apply a5_)|((with_reducible refine a7_ ?_ ?_);(focus (go_simp;done)))|((with_reducible first|refine a0_ fun X Y=>?_|refine a4_ fun X Y=>?_);go_simp;refine Y _ ?_;clear Y X)|((refine b2_ 13 12 [] rfl (by kernel_rfl) (by kernel_rfl) ?_);simp only [List.take,List.drop])
      refine hK _ ?_;go_simp
     ·rw [hb] at hK;repeat' first|(with_reducible first|apply a8_|apply a3_|apply b1_|apply a9_|apply b3_|apply a1_|refine a2_ [] ?_|apply a5_)|((with_reducible refine a7_ ?_ ?_);(focus (go_simp;done)))|((with_reducible first|refine a0_ fun X Y=>?_|refine a4_ fun X Y=>?_);go_simp;refine Y _ ?_;clear Y X)|((refine b2_ 13 12 [] rfl (by kernel_rfl) (by kernel_rfl) ?_);simp only [List.take,List.drop])
      refine hK _ ?_;go_simp
    ·intro K;have hL0:=HL0.out;clear hz;by_cases hd:(d:Int)=0
     ·cases hb:fbN r i0 r.ranks.length
      ·have e0:L0=[]:=hL0 (by omega) hb;clear hL0;subst e0;repeat' first|(with_reducible first|apply a8_|apply a3_|apply b8_|apply c4_|apply d0_|apply b7_|apply a1_|refine a2_ [] ?_)|((with_reducible refine a6_ ?_ ?_);(focus (go_simp;done)))|((with_reducible refine a0_ fun X Y=>?_);go_simp;refine Y _ ?_;clear Y X)
       go_simp
      ·clear hL0;repeat' first|(with_reducible first|apply a8_|apply a3_|apply b8_|apply c4_|apply d0_|apply b7_|apply a1_|refine a2_ [] ?_)|((with_reducible refine a6_ ?_ ?_);(focus (go_simp;done)))|((with_reducible refine a0_ fun X Y=>?_);go_simp;refine Y _ ?_;clear Y X)
       go_simp
     ·clear hL0;have hd2:¬d=0:=by omega
      repeat' first|(with_reducible first|apply a8_|apply a3_|apply b8_|apply c4_|apply d0_|apply b7_|apply a1_|refine a2_ [] ?_)|((with_reducible refine a6_ ?_ ?_);(focus (go_simp;done)))|((with_reducible refine a0_ fun X Y=>?_);go_simp;refine Y _ ?_;clear Y X)
      go_simp
end Go.Proofs.YtoibondihdhnoaaGreatDoor
