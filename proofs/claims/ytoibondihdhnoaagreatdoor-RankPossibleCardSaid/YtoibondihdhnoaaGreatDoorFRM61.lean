/- Texts in one: The law of possible events: true whatever the input is. -/
import Derived.Test.YtoibondihdhnoaaGreatDoorFRM50
import Derived.Test.YtoibondihdhnoaaGreatDoorFRM52
import Derived.Test.YtoibondihdhnoaaGreatDoorFRM27
import Derived.Test.YtoibondihdhnoaaGreatDoorFRM9
import Derived.Test.YtoibondihdhnoaaGreatDoorFRM54
import Derived.Test.YtoibondihdhnoaaGreatDoorFRM31
import Derived.Test.YtoibondihdhnoaaGreatDoorFRM30
import Derived.Test.YtoibondihdhnoaaGreatDoorFRM34
import Derived.Test.YtoibondihdhnoaaGreatDoorFRM46
import Derived.Test.YtoibondihdhnoaaGreatDoorFRM14
namespace Go.Proofs.YtoibondihdhnoaaGreatDoor
open Go.RowKit
set_option maxRecDepth 100000
set_option maxHeartbeats 4000000
structure InS (s:St) : Prop where
 q:s.q.length≤9223372036854775807
 t:s.tk.length≤9223372036854775807
 ti:∀ t∈s.tk,i64 t.rank∧i64 t.time
 tm:i64 s.time
theorem a6b {c:ByteArray} (h:c9_ c=true) : c.size≤1000:=by
 unfold c9_ at h;simp only [Bool.and_eq_true,decide_eq_true_eq] at h;omega
theorem Inv.small {r:Ru} {s:St} (hr:RuOK r) (h:Inv r s) : SmallS s:=by
 have h6:=hr.n6;have hl:=h.len;have hfit:∀ l∈s.q,l.length≤300:=fun l hl2=>by
  obtain ⟨i,hi,rfl⟩:=List.getElem_of_mem hl2;have h1:=h.fit i hi;have h2:=hr.pl i (by omega);rw [f9_ hi] at h1;omega
 refine ⟨by omega,fun l hl2=>⟨hfit l hl2,fun c hc=>a6b (h.name c (List.mem_append_left _ (List.mem_flatten.2 ⟨l,hl2,hc⟩)))⟩,by have:=h.tkl;omega,fun t ht=>?_,?_⟩
 ·have h1:=h.tkr t ht;have h2:=h.tkt t ht;have h3:=h.t0;exact ⟨a6b (h.name _ (List.mem_append_right _ (List.mem_map.2 ⟨t,ht,rfl⟩))),⟨by omega,by omega⟩,⟨by omega,by omega⟩⟩
 ·have h3:=h.t0;exact ⟨by omega,by omega⟩
theorem b6l (r:Ru) (s:St) (t:Int) (hl:r.ranks.length≤9223372036854775807) (hs:InS s) : VC Tryz.prog 15 [c6_ r,f0_ s,I t] (B true):=by
 have ha:=c7k;have gF:=d2i r hl;have gS:=c7q s hs.q hs.t;clear hl;cases hF:d0k r
 ·rw [hF] at gF;clear hF hs gS;refine b8_ Tryz.func15 rfl (by kernel_rfl) (by kernel_rfl) rfl fun M0 w0=>?_;simp only [Tryz.ntmps15,Tryz.results15,b4_];repeat' first|(with_reducible first|apply a9_|apply a3_|apply b3_|apply c0_|apply b0_|apply a1_|refine a2_ [] ?_)|((with_reducible refine a7_ ?_ ?_);(focus (go_simp;done)))|((with_reducible refine a6_ ?_ ?_);(focus (go_simp;done)))|((with_reducible refine a0_ fun X Y=>?_);go_simp;(first|(with_reducible refine ⟨_,ha,?_⟩)|(refine ⟨_,gF,?_⟩)|skip);refine Y _ ?_;clear Y X)
  go_simp
 rw [hF] at gF;cases hS:b0c s
 ·rw [hS] at gS;clear hF hS hs;refine b8_ Tryz.func15 rfl (by kernel_rfl) (by kernel_rfl) rfl fun M0 w0=>?_;simp only [Tryz.ntmps15,Tryz.results15,b4_];repeat' first|(with_reducible first|apply a9_|apply a3_|apply b3_|apply c0_|apply b0_|apply a1_|refine a2_ [] ?_)|((with_reducible refine a7_ ?_ ?_);(focus (go_simp;done)))|((with_reducible refine a6_ ?_ ?_);(focus (go_simp;done)))|((with_reducible refine a0_ fun X Y=>?_);go_simp;(first|(with_reducible refine ⟨_,ha,?_⟩)|(refine ⟨_,gF,?_⟩)|(refine ⟨_,gS,?_⟩)|skip);refine Y _ ?_;clear Y X)
  go_simp
 rw [hS] at gS;have hsm:=c4d hS hs.ti hs.tm;obtain ⟨h8,hnm⟩:=d0l hF;have g1:=b1w r (by omega);have g2:=d0n s hsm;have g4:=b5x r s (by omega) hnm hsm;have g5:=n4_ t 0 604800;have gE:=fun h=>b2d r s t (by omega) hnm hsm h;by_cases h:ckE r s=0
 rotate_left
 ·have e:b4d r s t=ckE r s:=by
   unfold b4d;simp [fst,h]
  rw [e] at gE;have g3:=gE h;generalize ckE r s=E at *;clear hF hS h8 hnm hs hsm gE e;refine b8_ Tryz.func15 rfl (by kernel_rfl) (by kernel_rfl) rfl fun M0 w0=>?_;simp only [Tryz.ntmps15,Tryz.results15,b4_];repeat' first|(with_reducible first|apply a9_|apply a3_|apply b3_|apply c0_|apply b0_|apply a1_|refine a2_ [] ?_|apply a5_)|((with_reducible refine a7_ ?_ ?_);(focus (go_simp;done)))|((with_reducible refine a6_ ?_ ?_);(focus (go_simp;done)))|((with_reducible first|refine a0_ fun X Y=>?_|refine a4_ fun X Y=>?_);go_simp;(first|(with_reducible refine ⟨_,ha,?_⟩)|(refine ⟨_,gF,?_⟩)|(refine ⟨_,gS,?_⟩)|(refine ⟨_,g1,?_⟩)|(refine ⟨_,g2,?_⟩)|(refine ⟨_,g3,?_⟩)|(refine ⟨_,g4,?_⟩)|skip);refine Y _ ?_;clear Y X)|((refine b6_ 11 11 [] rfl (by kernel_rfl) (by kernel_rfl) ?_);simp only [List.take,List.drop])
  go_simp
 rw [h] at g4;by_cases hin:inR t 0 604800=true
 rotate_left
 ·have e:b4d r s t=2:=by
   unfold b4d;simp [fst,h,hin,unl]
  rw [e] at gE;have g3:=gE (by decide);have hin2:inR t 0 604800=false:=by simpa using hin
  rw [hin2] at g5;clear hF hS h8 hnm hs hsm gE e h hin hin2;refine b8_ Tryz.func15 rfl (by kernel_rfl) (by kernel_rfl) rfl fun M0 w0=>?_;simp only [Tryz.ntmps15,Tryz.results15,b4_];repeat' first|(with_reducible first|apply a9_|apply a3_|apply b3_|apply c0_|apply b0_|apply a1_|refine a2_ [] ?_|apply a5_)|((with_reducible refine a7_ ?_ ?_);(focus (go_simp;done)))|((with_reducible refine a6_ ?_ ?_);(focus (go_simp;done)))|((with_reducible first|refine a0_ fun X Y=>?_|refine a4_ fun X Y=>?_);go_simp;(first|(with_reducible refine ⟨_,ha,?_⟩)|(refine ⟨_,gF,?_⟩)|(refine ⟨_,gS,?_⟩)|(refine ⟨_,g1,?_⟩)|(refine ⟨_,g2,?_⟩)|(refine ⟨_,g3,?_⟩)|(refine ⟨_,g4,?_⟩)|(refine ⟨_,g5,?_⟩)|skip);refine Y _ ?_;clear Y X)|((refine b6_ 11 11 [] rfl (by kernel_rfl) (by kernel_rfl) ?_);simp only [List.take,List.drop])
  go_simp
 rw [hin] at g5;by_cases hti:s.time≤t
 rotate_left
 ·have e:b4d r s t=9:=by
   unfold b4d;simp [fst,h,hin,unl,hti]
  rw [e] at gE;have g3:=gE (by decide);have ht2:t < s.time:=by omega
  clear hF hS h8 hnm hs hsm gE e h hin hti;refine b8_ Tryz.func15 rfl (by kernel_rfl) (by kernel_rfl) rfl fun M0 w0=>?_;simp only [Tryz.ntmps15,Tryz.results15,b4_];repeat' first|(with_reducible first|apply a9_|apply a3_|apply b3_|apply c0_|apply b0_|apply a1_|refine a2_ [] ?_|apply a5_)|((with_reducible refine a7_ ?_ ?_);(focus (go_simp;done)))|((with_reducible refine a6_ ?_ ?_);(focus (go_simp;done)))|((with_reducible first|refine a0_ fun X Y=>?_|refine a4_ fun X Y=>?_);go_simp;(first|(with_reducible refine ⟨_,ha,?_⟩)|(refine ⟨_,gF,?_⟩)|(refine ⟨_,gS,?_⟩)|(refine ⟨_,g1,?_⟩)|(refine ⟨_,g2,?_⟩)|(refine ⟨_,g3,?_⟩)|(refine ⟨_,g4,?_⟩)|(refine ⟨_,g5,?_⟩)|skip);refine Y _ ?_;clear Y X)|((refine b6_ 11 11 [] rfl (by kernel_rfl) (by kernel_rfl) ?_);simp only [List.take,List.drop])
  go_simp
 have ht2:¬t < s.time:=by omega
 have hp0:b4d r s t=0:=by
  unfold b4d;simp [fst,h,hin,unl,hti]
 have hck:=h;unfold ckE at hck;have h0:(d4_ r).2=0:=by
  apply Classical.byContradiction;intro hh;rw [if_pos hh] at hck;exact hh hck
 rw [if_neg (by simp [h0])] at hck;have hr:=(a0y h0).1;have hi:=(b4z.1 hck).1;have g3:=b6g r s t hr hi (by omega) hnm hsm h hp0;have g6:=b0e (b6f r s t hr hi hsm);have hn6:=hr.n6;have hpl:=a3c r s t r.ranks.length;have g7:=b9v (h5_ r s t r.ranks.length) (by omega);have hlen:=hi.len;have GA:Hid (∀ k,k < (h5_ r s t r.ranks.length).length→∃ Z:St,VC Tryz.prog 66 [c6_ r,f0_ s,evA (e0_ (h5_ r s t r.ranks.length) k)] (.tup [f0_ Z,I 0])):=Lib.hid fun k hk=>by
  obtain ⟨e1,i,j,e2,e3,e4⟩:=c0s (List.getElem_mem hk);rw [←r5_ hk] at e1 e4;have hc:(e0_ (h5_ r s t r.ranks.length) k).car.size≤1000:=by
   rw [e4];exact c0t hsm (by omega)
  have g:=b4c r s (e0_ (h5_ r s t r.ranks.length) k) hr hi (by omega) hnm hsm h hc;rw [if_pos e1] at g;exact ⟨_,g⟩
 clear hF hS h8 hnm hs hsm gE h hin hti hp0 hck h0 hr hi hlen;generalize h5_ r s t r.ranks.length=L at *;refine b8_ Tryz.func15 rfl (by kernel_rfl) (by kernel_rfl) rfl fun M0 w0=>?_;simp only [Tryz.ntmps15,Tryz.results15,b4_];repeat' first|(with_reducible first|apply a9_|apply a3_|apply b0_|apply a8_|apply a1_|refine a2_ [] ?_|apply a5_)|((with_reducible refine a6_ ?_ ?_);(focus (go_simp;done)))|((with_reducible first|refine a0_ fun X Y=>?_|refine a4_ fun X Y=>?_);go_simp;(first|(with_reducible refine ⟨_,ha,?_⟩)|(refine ⟨_,gF,?_⟩)|(refine ⟨_,gS,?_⟩)|(refine ⟨_,g1,?_⟩)|(refine ⟨_,g2,?_⟩)|(refine ⟨_,g3,?_⟩)|(refine ⟨_,g4,?_⟩)|(refine ⟨_,g5,?_⟩)|(refine ⟨_,g6,?_⟩)|(refine ⟨_,g7,?_⟩)|skip);refine Y _ ?_;clear Y X)|((refine b6_ 11 11 [] rfl (by kernel_rfl) (by kernel_rfl) ?_);simp only [List.take,List.drop])
 apply b6p [3,4,10] (fun k=>[(11,I k)]) (fun k=>([] : Hp))  (L.length)
 ·go_simp<;>exact rfl
 ·go_simp
 ·intro k hk K hK;obtain ⟨w1,w2,w3,w4,w5,w6⟩:=ixs (m:=k) (by omega);obtain ⟨⟨zq,ztk,zt⟩,ga⟩:=GA.out k hk;simp only [evA] at ga;repeat' first|(with_reducible first|apply a9_|apply a3_|apply b0_|apply a8_|apply a1_|refine a2_ [] ?_)|((with_reducible refine a7_ ?_ ?_);(focus (go_simp;done)))|((with_reducible refine a0_ fun X Y=>?_);go_simp;refine Y _ ?_;clear Y X)
  refine d0w 14 [] (fun i=>i == 12 || i == 13) (by kernel_rfl) (by kernel_rfl) (by kernel_rfl) (by go_simp) (by go_simp) ?_;simp only [List.take,List.drop];repeat ((with_reducible refine c4i rfl fun X Y=>?_);go_simp;(first|(refine ⟨_,g1,?_⟩)|(refine ⟨_,g2,?_⟩)|(refine ⟨_,ga,?_⟩)|skip);refine Y _ (by go_simp) ?_;clear Y X)
  refine b0i [some (.box [o6_,o6_,I 0])] none (.ref 0 0) rfl ⟨rfl,fun _=>rfl,fun _ h=>by cases h⟩ ?_ ?_
  ·intro s2 hs2;go_simp
  refine b0i [some (.box [v0_ zq,.sl 3 (ztk.map Tk.av),I zt])] none .any rfl ⟨rfl,fun _=>rfl,fun _ h=>by cases h⟩ ?_ ?_
  ·intro s2 hs2;have q1:lkp s2 12 = .ref 0 0:=(hs2 12 (by simp [Op.operands]) (by go_simp)).trans (by go_simp);have q2:lkp s2 89=f0_ ⟨zq,ztk,zt⟩:=(hs2 89 (by simp [Op.operands]) (by go_simp)).trans (by go_simp);clear hs2;go_simp
  repeat (first|(with_reducible first|apply a9_|apply a3_|apply b0_|apply b2_|apply a1_|refine a2_ [] ?_)|((with_reducible refine a6_ ?_ ?_);(focus (go_simp;done)))|((with_reducible refine a0_ fun X Y=>?_);go_simp;refine Y _ ?_;clear Y X)|((with_reducible refine c8e ?_);simp only [List.cons_append,List.nil_append,b6h]))
  skip
  refine hK _ ?_;go_simp
 ·intro K;repeat' first|(with_reducible first|apply a9_|apply a3_|apply c4_|apply c0_|apply e1_|apply b7_|apply a1_|refine a2_ [] ?_)|((with_reducible refine a6_ ?_ ?_);(focus (go_simp;done)))|((with_reducible refine a0_ fun X Y=>?_);go_simp;refine Y _ ?_;clear Y X)
  go_simp
end Go.Proofs.YtoibondihdhnoaaGreatDoor
