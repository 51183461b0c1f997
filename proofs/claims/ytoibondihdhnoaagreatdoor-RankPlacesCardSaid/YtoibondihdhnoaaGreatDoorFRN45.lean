/- Texts in one: Walks: lists that are the same; of every length up to a million. -/
import Derived.Test.YtoibondihdhnoaaGreatDoorFRN44
import Derived.Test.YtoibondihdhnoaaGreatDoorFRN40
namespace Go.Proofs.YtoibondihdhnoaaGreatDoor
open Go.RowKit
set_option maxRecDepth 100000
set_option maxHeartbeats 2000000
theorem b1u (l:List Wt) (hl:l.length≤1000000) : VC Tryz.prog 43 [.sl 3 (l.map Wt.av),.sl 3 (l.map Wt.av)] (B true):=by
 refine c2_ Tryz.func43 rfl (by kernel_rfl) (by kernel_rfl) rfl fun M0 w0=>?_;simp only [Tryz.ntmps43,Tryz.results43,b4_];repeat' first|(with_reducible first|apply a8_|apply a3_|apply b1_|apply a9_|apply a1_|refine a2_ [] ?_)|((with_reducible refine a6_ ?_ ?_);(focus (go_simp;done)))|((with_reducible refine a0_ fun X Y=>?_);go_simp;refine Y _ ?_;clear Y X)
 apply u8_ [0,1] (fun k=>[(5,I k)]) (fun k=>([] : Hp)) (fun _=>false) (l.length)
 ·go_simp<;>exact rfl
 ·go_simp
 ·intro k hk HB HP K hK;obtain ⟨w1,w2,w3,w4,w5,w6⟩:=ixs (m:=k) (by omega);repeat' first|(with_reducible first|apply a8_|apply a3_|apply b1_|apply a9_|apply b3_|apply a1_|refine a2_ [] ?_|apply a5_)|((with_reducible refine a7_ ?_ ?_);(focus (go_simp;done)))|((with_reducible refine a6_ ?_ ?_);(focus (go_simp;done)))|((with_reducible first|refine a0_ fun X Y=>?_|refine a4_ fun X Y=>?_);go_simp;refine Y _ ?_;clear Y X)|((refine b2_ 9 9 [] rfl (by kernel_rfl) (by kernel_rfl) ?_);simp only [List.take,List.drop])
  refine hK _ ?_;go_simp
 ·intro k hk HB HP K;exact absurd HP.out (by simp)
 ·intro HB K;repeat' first|(with_reducible first|apply a8_|apply a3_|apply b8_|apply c4_|apply d0_|apply b7_|apply a1_|refine a2_ [] ?_)|((with_reducible refine a6_ ?_ ?_);(focus (go_simp;done)))|((with_reducible refine a0_ fun X Y=>?_);go_simp;refine Y _ ?_;clear Y X)
  go_simp
theorem a4d (l:List ByteArray) (hl:l.length≤1000000) : VCo Tryz.prog 116 [r5_ l] 9 1 false (l.map n5_):=by
 refine c0r Tryz.func116 rfl (by kernel_rfl) (by kernel_rfl) rfl Tryz.results116 (by decide) (fun k x hx=>by exact TxO.map l x (List.mem_of_getElem? hx)) fun M0 w0=>?_;simp only [Tryz.ntmps116,b4_];have hl2:l.length≤1000000000:=by omega
 repeat (first|(with_reducible first|apply a8_|apply a3_|apply c4_|apply a1_|refine a2_ [3] ?_)|((with_reducible refine a0_ fun X Y=>?_);go_simp;refine Y _ ?_;clear Y X))
 exact ⟨0,rfl,rfl⟩
theorem b1v (l:List ByteArray) (hl:l.length≤1000000) : VC Tryz.prog 116 [r5_ l] (r5_ l):=b0h (a4d l hl)
theorem b1w (r:Ru) (hl:r.ranks.length≤1000000) : VC Tryz.prog 22 [c3_ r] (c3_ r):=by
 have hl2:r.ranks.length≤1000000000:=by omega
 refine c2_ Tryz.func22 rfl (by kernel_rfl) (by kernel_rfl) rfl fun M0 w0=>?_;simp only [Tryz.ntmps22,Tryz.results22,b4_];repeat' with_reducible apply a8_
 refine a2_ [1] ?_;repeat' first|(with_reducible first|apply a8_|apply a3_|apply a1_)|((with_reducible refine a0_ fun X Y=>?_);go_simp;refine Y _ ?_;clear Y X)
 refine a2_ [3] ?_;repeat' first|(with_reducible first|apply a8_|apply a3_|apply a1_)|((with_reducible refine a0_ fun X Y=>?_);go_simp;refine Y _ ?_;clear Y X)
 refine i1_ 0 0 2 rfl rfl rfl ?_;repeat' first|(with_reducible first|apply a3_|apply c4_|apply a1_|refine a2_ [] ?_)|((with_reducible refine a0_ fun X Y=>?_);go_simp;refine Y _ ?_;clear Y X)
 go_simp
theorem w6_ (l:List ByteArray) (s:ByteArray) (hl:l.length≤1000000) : VC Tryz.prog 70 [r5_ l,S s] (B (a2w (isT l s) 0 l.length)):=by
 obtain ⟨R,hR⟩ : ∃ R,a2w (isT l s) 0 l.length=R:=⟨_,rfl⟩
 rw [hR];have HR:=Lib.hid hR;clear hR;refine c2_ Tryz.func70 rfl (by kernel_rfl) (by kernel_rfl) rfl fun M0 w0=>?_;simp only [Tryz.ntmps70,Tryz.results70,b4_];repeat' first|(with_reducible first|apply a8_|apply a3_|apply a9_|apply a1_|refine a2_ [] ?_)|((with_reducible refine a0_ fun X Y=>?_);go_simp;refine Y _ ?_;clear Y X)
 apply u8_ [0,1] (fun k=>[(5,I k)]) (fun k=>([] : Hp)) (isT l s) (l.length)
 ·go_simp<;>exact rfl
 ·go_simp
 ·intro k hk HB HP K hK;obtain ⟨w1,w2,w3,w4,w5,w6⟩:=ixs (m:=k) (by omega);have hp:¬l[k]=s:=by
   have:=HP.out;simpa [isT,c9_ hk] using this
  repeat' first|(with_reducible first|apply a8_|apply a3_|apply b1_|apply a9_|apply b3_|apply a1_|refine a2_ [] ?_)|((with_reducible refine a7_ ?_ ?_);(focus (go_simp;done)))|((with_reducible refine a6_ ?_ ?_);(focus (go_simp;done)))|((with_reducible refine a0_ fun X Y=>?_);go_simp;refine Y _ ?_;clear Y X)
  refine hK _ ?_;go_simp
 ·intro k hk HB HP K;have hp:l[k]=s:=by
   have:=HP.out;simpa [isT,c9_ hk] using this
  have e:=HR.out;rw [k3_ hk HP.out] at e;subst e;repeat' first|(with_reducible first|apply a8_|apply a3_|apply b5_|apply c4_|apply b1_|apply a9_|apply c8_|apply a1_|refine a2_ [] ?_)|((with_reducible refine a7_ ?_ ?_);(focus (go_simp;done)))|((with_reducible refine a0_ fun X Y=>?_);go_simp;refine Y _ ?_;clear Y X)
  go_simp
 ·intro HB K;have e:=HR.out;rw [m7_ HB.out] at e;subst e;repeat (first|(with_reducible first|apply a8_|apply a3_|apply b8_|apply c4_|apply d0_|apply b7_|apply a1_|refine a2_ [] ?_)|((with_reducible refine a6_ ?_ ?_);(focus (go_simp;done)))|((with_reducible refine a0_ fun X Y=>?_);go_simp;refine Y _ ?_;clear Y X))
  go_simp
theorem c7n (l:List ByteArray) (hl:l.length≤1000000) : VC Tryz.prog 78 [r5_ l,r5_ l] (B true):=by
 refine c2_ Tryz.func78 rfl (by kernel_rfl) (by kernel_rfl) rfl fun M0 w0=>?_;simp only [Tryz.ntmps78,Tryz.results78,b4_];repeat' first|(with_reducible first|apply a8_|apply a3_|apply b1_|apply a9_|apply a1_|refine a2_ [] ?_)|((with_reducible refine a6_ ?_ ?_);(focus (go_simp;done)))|((with_reducible refine a0_ fun X Y=>?_);go_simp;refine Y _ ?_;clear Y X)
 apply u8_ [0,1] (fun k=>[(5,I k)]) (fun k=>([] : Hp)) (fun _=>false) (l.length)
 ·go_simp<;>exact rfl
 ·go_simp
 ·intro k hk HB HP K hK;obtain ⟨w1,w2,w3,w4,w5,w6⟩:=ixs (m:=k) (by omega);repeat' first|(with_reducible first|apply a8_|apply a3_|apply b1_|apply a9_|apply b3_|apply a1_|refine a2_ [] ?_|apply a5_)|((with_reducible refine a7_ ?_ ?_);(focus (go_simp;done)))|((with_reducible refine a6_ ?_ ?_);(focus (go_simp;done)))|((with_reducible first|refine a0_ fun X Y=>?_|refine a4_ fun X Y=>?_);go_simp;refine Y _ ?_;clear Y X)|((refine b2_ 9 9 [] rfl (by kernel_rfl) (by kernel_rfl) ?_);simp only [List.take,List.drop])
  refine hK _ ?_;go_simp
 ·intro k hk HB HP K;exact absurd HP.out (by simp)
 ·intro HB K;repeat' first|(with_reducible first|apply a8_|apply a3_|apply b8_|apply c4_|apply d0_|apply b7_|apply a1_|refine a2_ [] ?_)|((with_reducible refine a6_ ?_ ?_);(focus (go_simp;done)))|((with_reducible refine a0_ fun X Y=>?_);go_simp;refine Y _ ?_;clear Y X)
  go_simp
def u6_:Ru:=⟨[⟨⟨#[115,116,97,110,100]⟩,2,1,false⟩,⟨⟨#[102,101,101,100,101,114]⟩,3,-1,false⟩],1,60⟩
def a0g:List Ev:=[⟨0,0,0,⟨#[97]⟩⟩,⟨0,5,0,⟨#[98]⟩⟩,⟨0,9,1,⟨#[99]⟩⟩,⟨1,20,0,⟨#[97]⟩⟩]
def b1x:St:=⟨[[⟨#[98]⟩,⟨#[99]⟩],[]],[⟨⟨#[97]⟩,0,20⟩],20⟩
theorem c7o:VC Tryz.prog 83 [] (c3_ u6_):=by
 unfold u6_;refine c2_ Tryz.func83 rfl (by kernel_rfl) (by kernel_rfl) rfl fun M0 w0=>?_;simp only [Tryz.ntmps83,Tryz.results83,b4_];repeat' first|(with_reducible first|apply a8_|apply a3_|apply c4_|apply a1_|refine a2_ [] ?_)|((with_reducible refine a0_ fun X Y=>?_);go_simp;refine Y _ ?_;clear Y X)
 go_simp
theorem b9r:VC Tryz.prog 84 [] (u9_ a0g):=by
 unfold a0g;refine c2_ Tryz.func84 rfl (by kernel_rfl) (by kernel_rfl) rfl fun M0 w0=>?_;simp only [Tryz.ntmps84,Tryz.results84,b4_];repeat' first|(with_reducible first|apply a8_|apply a3_|apply c4_|apply a1_|refine a2_ [] ?_)|((with_reducible refine a0_ fun X Y=>?_);go_simp;refine Y _ ?_;clear Y X)
 go_simp
theorem c3p:c9q u6_ a0g=(b1x,0,0):=by kernel_rfl
theorem c3q:c7l u6_ a0g=0:=by kernel_rfl
theorem b9s:b5l a0g 0 a0g=[⟨⟨#[97]⟩,0,20⟩]:=by kernel_rfl
theorem b6a:(a5u u6_ a0g).2=0∧(a5u u6_ a0g).1.length=6:=⟨by kernel_rfl,by kernel_rfl⟩
def c3r:List Sg:=[⟨0,0,⟨#[97]⟩⟩,⟨0,0,⟨#[98]⟩⟩,⟨1,0,⟨#[98]⟩⟩]
theorem d0i:ovT c3r = .agg [I 0,I 1,I 2]:=by kernel_rfl
theorem d0j:ovE c3r=0:=by kernel_rfl
def c7p:ByteArray:=⟨#[99,97,108,108,32,50,48,32,48,32,45]⟩
theorem d0k:evP (l8_ 32 c7p)=(⟨4,20,0,⟨#[]⟩⟩,0):=by kernel_rfl
theorem b9t:b8n b1x=⟨#[50,48,124,98,32,99,124,124,97,58,48,58,50,48]⟩:=by kernel_rfl
theorem a1y:SmallL u6_ a0g:=⟨by decide,fun k hk=>by
 have h2:k < 2:=hk;rcases k with _|_|k
 ·decide
 ·decide
 ·omega,fun x hx=>by
 simp only [a0g,List.mem_cons,List.not_mem_nil,or_false] at hx;rcases hx with rfl|rfl|rfl|rfl<;>decide⟩
theorem b1y:SmallS b1x:=by
 refine ⟨by decide,fun l hl=>?_,by decide,fun t ht=>?_,by unfold i64;decide⟩
 ·simp only [b1x,List.mem_cons,List.not_mem_nil,or_false] at hl;rcases hl with rfl|rfl
  ·refine ⟨by decide,fun c hc=>?_⟩;simp only [List.mem_cons,List.not_mem_nil,or_false] at hc;rcases hc with rfl|rfl<;>decide
  ·exact ⟨by decide,fun c hc=>by simp at hc⟩
 ·simp only [b1x,List.mem_cons,List.not_mem_nil,or_false] at ht;subst ht;unfold i64;decide
theorem c7q:VC Tryz.prog 18 [] (B true):=by
 have g1:=c7o;have g2:=b9r;have g3:=c2q u6_ a0g a1y;have g4:=c7m u6_ a0g a1y;have g5:=b1n c3r (by decide) (fun k hk=>by
  have h2:k < 3:=hk;rcases k with _|_|_|k
  ·decide
  ·decide
  ·decide
  ·omega)
 have g6:=a9t c7p (by decide);have g7:=a7t u6_ a0g a1y;have g8:=a7i b1x b1y;have g9:=b1u [⟨⟨#[97]⟩,0,20⟩] (by decide);obtain ⟨m1,m2⟩:=b6a;rw [c3p] at g3;rw [c3q,if_pos rfl,b9s] at g4;rw [d0i,d0j] at g5;rw [d0k] at g6;rw [m1] at g7;rw [b9t] at g8;generalize (a5u u6_ a0g).1=L at *;have m3:(L.length:Int)=6:=by omega
 clear m1 m2;generalize u6_=R0 at *;generalize hM:a0g=M at *;clear hM;generalize hS:b1x=S0 at *;clear hS;unfold c3r at g5;unfold c7p at g6;simp only [c3_,u9_,e3_,d3o,evA,List.map_cons,List.map_nil,Sg.av,Wt.av] at g1 g2 g3 g4 g5 g6 g7 g8 g9;refine c2_ Tryz.func18 rfl (by kernel_rfl) (by kernel_rfl) rfl fun M0 w0=>?_;simp only [Tryz.ntmps18,Tryz.results18,b4_];repeat' first|(with_reducible first|apply a8_|apply a3_|apply c4_|apply a1_|refine a2_ [] ?_)|((with_reducible refine a0_ fun X Y=>?_);go_simp;(first|(with_reducible refine ⟨_,g1,?_⟩)|(with_reducible refine ⟨_,g2,?_⟩)|(with_reducible refine ⟨_,g3,?_⟩)|(with_reducible refine ⟨_,g4,?_⟩)|(with_reducible refine ⟨_,g5,?_⟩)|(with_reducible refine ⟨_,g6,?_⟩)|(with_reducible refine ⟨_,g7,?_⟩)|(with_reducible refine ⟨_,g8,?_⟩)|(with_reducible refine ⟨_,g9,?_⟩)|skip);refine Y _ ?_;clear Y X)
 go_simp
theorem a1l (r:Ru) (n:Int) (hn:r.ranks.length≤1000000) : VC Tryz.prog 33 [c3_ r,I n] (B (inR n 0 ((r.ranks.length:Int) - 1))):=by
 have i1:=u1_ n 0 ((r.ranks.length:Int) - 1);have hw:IntKind.i64.wrap ((r.ranks.length:Int) - 1)=(r.ranks.length:Int) - 1:=g0_ (by omega) (by omega);generalize inR n 0 ((r.ranks.length:Int) - 1)=D at *;refine c2_ Tryz.func33 rfl (by kernel_rfl) (by kernel_rfl) rfl fun M0 w0=>?_;simp only [Tryz.ntmps33,Tryz.results33,b4_];repeat' first|(with_reducible first|apply a8_|apply a3_|apply c4_|apply a1_|refine a2_ [] ?_)|((with_reducible refine a0_ fun X Y=>?_);go_simp;(first|(with_reducible refine ⟨_,i1,?_⟩)|skip);refine Y _ ?_;clear Y X)
 go_simp
theorem a9z (r:Ru) (i:Nat) (hi:i < r.ranks.length) (hn:r.ranks.length≤1000000) (hnm:(rat r.ranks i).name.size≤1000) : VC Tryz.prog 101 [c3_ r,I (i:Int)] (I (rkE r i)):=by
 obtain ⟨E,hE⟩ : ∃ E,rkE r i=E:=⟨_,rfl⟩
 rw [hE];have i1:=u2_ (rat r.ranks i).name (by omega);have i2:=u1_ (rat r.ranks i).places 1 12;have i3:=a1l r (rat r.ranks i).feeder hn;have HE:=Lib.hid hE;clear hE hnm;obtain ⟨w1,w2,w3,w4,w5,w6⟩:=ixs (m:=i) (by omega);cases hD1:c5_ (rat r.ranks i).name
 ·have e:rkE r i=4:=by simp [rkE,fst,unl,hD1]
  rw [HE.out] at e;rw [hD1] at i1;subst e;refine c2_ Tryz.func101 rfl (by kernel_rfl) (by kernel_rfl) rfl fun M0 w0=>?_;simp only [Tryz.ntmps101,Tryz.results101,b4_];repeat' first|(with_reducible first|apply a8_|apply a3_|apply b5_|apply c4_|apply a1_|refine a2_ [] ?_)|((with_reducible refine a7_ ?_ ?_);(focus (go_simp;done)))|((with_reducible refine a0_ fun X Y=>?_);go_simp;(first|(with_reducible refine ⟨_,i1,?_⟩)|skip);refine Y _ ?_;clear Y X)
  go_simp
 rw [hD1] at i1;refine c2_ Tryz.func101 rfl (by kernel_rfl) (by kernel_rfl) rfl fun M0 w0=>?_;simp only [Tryz.ntmps101,Tryz.results101,b4_];repeat' first|(with_reducible first|apply a8_|apply a3_|apply b1_|apply a9_|apply a1_|refine a2_ [] ?_)|((with_reducible refine a6_ ?_ ?_);(focus (go_simp;done)))|((with_reducible refine a0_ fun X Y=>?_);go_simp;(first|(with_reducible refine ⟨_,i1,?_⟩)|skip);refine Y _ ?_;clear Y X)
 apply u8_ [1,2,5] (fun k=>[(6,I k)]) (fun k=>([some (.box [S (rat r.ranks i).name,I (rat r.ranks i).places,I (rat r.ranks i).feeder,B (rat r.ranks i).called])] : Hp)) (fun k=>decide ((rat r.ranks k).name=(rat r.ranks i).name)) (i)
 ·go_simp<;>exact rfl
 ·go_simp
 ·intro k hk HB HP K hK;obtain ⟨x1,x2,x3,x4,x5,x6⟩:=ixs (m:=k) (by omega);have hkn:k < r.ranks.length:=by omega
  have hp:¬(rat r.ranks k).name=(rat r.ranks i).name:=of_decide_eq_false HP.out;repeat' first|(with_reducible first|apply a8_|apply a3_|apply b1_|apply a9_|apply b3_|apply a1_|refine a2_ [] ?_|apply a5_)|((with_reducible refine a7_ ?_ ?_);(focus (go_simp;done)))|((with_reducible refine a6_ ?_ ?_);(focus (go_simp;done)))|((with_reducible first|refine a0_ fun X Y=>?_|refine a4_ fun X Y=>?_);go_simp;refine Y _ ?_;clear Y X)|((refine b2_ 9 9 [] rfl (by kernel_rfl) (by kernel_rfl) ?_);simp only [List.take,List.drop])
  refine hK _ ?_;go_simp
 ·intro k hk HB HP K;obtain ⟨x1,x2,x3,x4,x5,x6⟩:=ixs (m:=k) (by omega);have hkn:k < r.ranks.length:=by omega
  have hp:(rat r.ranks k).name=(rat r.ranks i).name:=of_decide_eq_true HP.out;have hA:v7_ r i=true:=k3_ hk HP.out;have e:rkE r i=5:=by simp [rkE,fst,unl,hD1,hA]
  rw [HE.out] at e;subst e;repeat' first|(with_reducible first|apply a8_|apply a3_|apply b5_|apply c4_|apply b1_|apply a9_|apply c8_|apply a1_|refine a2_ [] ?_|apply a5_)|((with_reducible refine a7_ ?_ ?_);(focus (go_simp;done)))|((with_reducible first|refine a0_ fun X Y=>?_|refine a4_ fun X Y=>?_);go_simp;refine Y _ ?_;clear Y X)|((refine b2_ 9 9 [] rfl (by kernel_rfl) (by kernel_rfl) ?_);simp only [List.take,List.drop])
  go_simp
 ·intro HB K;have hA:v7_ r i=false:=m7_ HB.out;cases hD2:inR (rat r.ranks i).places 1 12
  ·have e:rkE r i=2:=by simp [rkE,fst,unl,hD1,hA,hD2]
   rw [HE.out] at e;rw [hD2] at i2;subst e;repeat' first|(with_reducible first|apply a8_|apply a3_|apply b8_|apply b5_|apply c4_|apply d0_|apply b7_|apply a1_|refine a2_ [] ?_)|((with_reducible refine a7_ ?_ ?_);(focus (go_simp;done)))|((with_reducible refine a6_ ?_ ?_);(focus (go_simp;done)))|((with_reducible refine a0_ fun X Y=>?_);go_simp;(first|(with_reducible refine ⟨_,i2,?_⟩)|skip);refine Y _ ?_;clear Y X)
   go_simp
  rw [hD2] at i2;by_cases hF:(rat r.ranks i).feeder = -1
  ·have hfb:h0_ r i=false:=by simp [h0_,hF]
   cases hC:(rat r.ranks i).called
   ·have e:rkE r i=0:=by simp [rkE,fst,unl,hD1,hA,hD2,hfb,hC]
    rw [HE.out] at e;subst e;repeat' first|(with_reducible first|apply a8_|apply a3_|apply b8_|apply b5_|apply c4_|apply b1_|apply d0_|apply b7_|apply a1_|refine a2_ [] ?_)|((with_reducible refine a7_ ?_ ?_);(focus (go_simp;done)))|((with_reducible refine a6_ ?_ ?_);(focus (go_simp;done)))|((with_reducible refine a0_ fun X Y=>?_);go_simp;(first|(with_reducible refine ⟨_,i2,?_⟩)|skip);refine Y _ ?_;clear Y X)
    go_simp
   ·have e:rkE r i=3:=by simp [rkE,fst,unl,hD1,hA,hD2,hfb,hC]
    rw [HE.out] at e;subst e;repeat' first|(with_reducible first|apply a8_|apply a3_|apply b8_|apply b5_|apply c4_|apply b1_|apply d0_|apply b7_|apply a1_|refine a2_ [] ?_)|((with_reducible refine a7_ ?_ ?_);(focus (go_simp;done)))|((with_reducible refine a6_ ?_ ?_);(focus (go_simp;done)))|((with_reducible refine a0_ fun X Y=>?_);go_simp;(first|(with_reducible refine ⟨_,i2,?_⟩)|skip);refine Y _ ?_;clear Y X)
    go_simp
  have hfb:h0_ r i=true:=by simp [h0_,hF]
  cases hD3:inR (rat r.ranks i).feeder 0 ((r.ranks.length:Int) - 1)
  ·have e:rkE r i=6:=by simp [rkE,fst,unl,hD1,hA,hD2,hfb,hD3]
   rw [HE.out] at e;rw [hD3] at i3;subst e;repeat' first|(with_reducible first|apply a8_|apply a3_|apply b8_|apply b5_|apply c4_|apply b1_|apply d0_|apply b7_|apply a1_|refine a2_ [] ?_)|((with_reducible refine a7_ ?_ ?_);(focus (go_simp;done)))|((with_reducible refine a6_ ?_ ?_);(focus (go_simp;done)))|((with_reducible refine a0_ fun X Y=>?_);go_simp;(first|(with_reducible refine ⟨_,i2,?_⟩)|(refine ⟨_,i3,?_⟩)|skip);refine Y _ ?_;clear Y X)
   go_simp
  rw [hD3] at i3;by_cases hO:(i:Int) < (rat r.ranks i).feeder
  ·have hO2:¬(rat r.ranks i).feeder≤(i:Int):=by omega
   repeat' first|(with_reducible first|apply a8_|apply a3_|apply b8_|apply b1_|apply d0_|apply a9_|apply b7_|apply a1_|refine a2_ [] ?_)|((with_reducible refine a6_ ?_ ?_);(focus (go_simp;done)))|((with_reducible refine a0_ fun X Y=>?_);go_simp;(first|(with_reducible refine ⟨_,i2,?_⟩)|(refine ⟨_,i3,?_⟩)|skip);refine Y _ ?_;clear Y X)
   apply u8_ [1,2,5] (fun k=>[(7,I k)]) (fun k=>([some (.box [S (rat r.ranks i).name,I (rat r.ranks i).places,I (rat r.ranks i).feeder,B (rat r.ranks i).called])] : Hp)) (fun k=>decide ((rat r.ranks k).feeder=(rat r.ranks i).feeder)) (i)
   ·go_simp<;>exact rfl
   ·go_simp
   ·intro k hk HB HP K hK;obtain ⟨x1,x2,x3,x4,x5,x6⟩:=ixs (m:=k) (by omega);have hkn:k < r.ranks.length:=by omega
    have hp:¬(rat r.ranks k).feeder=(rat r.ranks i).feeder:=of_decide_eq_false HP.out;repeat' first|(with_reducible first|apply a8_|apply a3_|apply b1_|apply a9_|apply b3_|apply a1_|refine a2_ [] ?_|apply a5_)|((with_reducible refine a7_ ?_ ?_);(focus (go_simp;done)))|((with_reducible refine a6_ ?_ ?_);(focus (go_simp;done)))|((with_reducible first|refine a0_ fun X Y=>?_|refine a4_ fun X Y=>?_);go_simp;refine Y _ ?_;clear Y X)|((refine b2_ 9 9 [] rfl (by kernel_rfl) (by kernel_rfl) ?_);simp only [List.take,List.drop])
    refine hK _ ?_;go_simp
   ·intro k hk HB HP K;obtain ⟨x1,x2,x3,x4,x5,x6⟩:=ixs (m:=k) (by omega);have hkn:k < r.ranks.length:=by omega
    have hp:(rat r.ranks k).feeder=(rat r.ranks i).feeder:=of_decide_eq_true HP.out;have hB:s4_ r i=true:=k3_ hk HP.out;have e:rkE r i=26:=by simp [rkE,fst,unl,hD1,hA,hD2,hfb,hD3,hO,hB]
    rw [HE.out] at e;subst e;repeat' first|(with_reducible first|apply a8_|apply a3_|apply b5_|apply c4_|apply b1_|apply a9_|apply c8_|apply a1_|refine a2_ [] ?_|apply a5_)|((with_reducible refine a7_ ?_ ?_);(focus (go_simp;done)))|((with_reducible first|refine a0_ fun X Y=>?_|refine a4_ fun X Y=>?_);go_simp;refine Y _ ?_;clear Y X)|((refine b2_ 9 9 [] rfl (by kernel_rfl) (by kernel_rfl) ?_);simp only [List.take,List.drop])
    go_simp
   ·intro HB K;have hB:s4_ r i=false:=m7_ HB.out;have e:rkE r i=0:=by simp [rkE,fst,unl,hD1,hA,hD2,hfb,hD3,hO,hB]
    rw [HE.out] at e;subst e;repeat' first|(with_reducible first|apply a8_|apply a3_|apply b8_|apply c4_|apply d0_|apply b7_|apply a1_|refine a2_ [] ?_)|((with_reducible refine a6_ ?_ ?_);(focus (go_simp;done)))|((with_reducible refine a0_ fun X Y=>?_);go_simp;refine Y _ ?_;clear Y X)
    go_simp
  ·have hO2:(rat r.ranks i).feeder≤(i:Int):=by omega
   have e:rkE r i=9:=by simp [rkE,fst,unl,hD1,hA,hD2,hfb,hD3,hO]
   rw [HE.out] at e;subst e;repeat' first|(with_reducible first|apply a8_|apply a3_|apply b8_|apply b5_|apply c4_|apply b1_|apply d0_|apply b7_|apply a1_|refine a2_ [] ?_)|((with_reducible refine a7_ ?_ ?_);(focus (go_simp;done)))|((with_reducible refine a6_ ?_ ?_);(focus (go_simp;done)))|((with_reducible refine a0_ fun X Y=>?_);go_simp;(first|(with_reducible refine ⟨_,i2,?_⟩)|(refine ⟨_,i3,?_⟩)|skip);refine Y _ ?_;clear Y X)
   go_simp
theorem b0a (r:Ru) (hn:r.ranks.length≤1000000) (hnm:∀ k,k < r.ranks.length→(rat r.ranks k).name.size≤1000) : VC Tryz.prog 38 [c3_ r] (.tup [I ((d2_ r).1:Int),I (d2_ r).2]):=by
 unfold d2_;by_cases h0:r.ranks.length=0
 ·rw [if_pos h0];have h0':(r.ranks.length:Int)=0:=by omega
  refine c2_ Tryz.func38 rfl (by kernel_rfl) (by kernel_rfl) rfl fun M0 w0=>?_;simp only [Tryz.ntmps38,Tryz.results38,b4_];repeat' first|(with_reducible first|apply a8_|apply a3_|apply b5_|apply c4_|apply a1_|refine a2_ [] ?_)|((with_reducible refine a7_ ?_ ?_);(focus (go_simp;done)))|((with_reducible refine a0_ fun X Y=>?_);go_simp;refine Y _ ?_;clear Y X)
  go_simp
 rw [if_neg h0];have h0':¬r.ranks=[]:=fun h=>h0 (by rw [h];rfl);by_cases h6:6 < r.ranks.length
 ·rw [if_pos h6];have h6':(6:Int) < (r.ranks.length:Int):=by omega
  refine c2_ Tryz.func38 rfl (by kernel_rfl) (by kernel_rfl) rfl fun M0 w0=>?_;simp only [Tryz.ntmps38,Tryz.results38,b4_];repeat' first|(with_reducible first|apply a8_|apply a3_|apply b5_|apply c4_|apply b1_|apply a1_|refine a2_ [] ?_)|((with_reducible refine a7_ ?_ ?_);(focus (go_simp;done)))|((with_reducible refine a6_ ?_ ?_);(focus (go_simp;done)))|((with_reducible refine a0_ fun X Y=>?_);go_simp;refine Y _ ?_;clear Y X)
  go_simp
 rw [if_neg h6];have h6':¬(6:Int) < (r.ranks.length:Int):=by omega
 obtain ⟨R,hR⟩ : ∃ R,(if (h2_ (rkE r) 0 r.ranks.length).2≠0 then h2_ (rkE r) 0 r.ranks.length else (0,c6m r))=R:=⟨_,rfl⟩
 rw [hR];have HR:=Lib.hid hR;have HM:=Lib.hid hnm;have i1:=u1_ r.back 0 12;have i2:=u1_ r.ret 0 3600;clear hR hnm h0 h6;refine c2_ Tryz.func38 rfl (by kernel_rfl) (by kernel_rfl) rfl fun M0 w0=>?_;simp only [Tryz.ntmps38,Tryz.results38,b4_];repeat' first|(with_reducible first|apply a8_|apply a3_|apply b1_|apply a9_|apply a1_|refine a2_ [] ?_)|((with_reducible refine a6_ ?_ ?_);(focus (go_simp;done)))|((with_reducible refine a0_ fun X Y=>?_);go_simp;refine Y _ ?_;clear Y X)
 apply u8_ [1] (fun k=>[(4,I k)]) (fun k=>([] : Hp)) (fun k=>!decide (rkE r k=0)) (r.ranks.length)
 ·go_simp<;>exact rfl
 ·go_simp
 ·intro k hk HB HP K hK;obtain ⟨x1,x2,x3,x4,x5,x6⟩:=ixs (m:=k) (by omega);have g:=a9z r k hk hn (HM.out k hk);have he:rkE r k=0:=by simpa using HP.out
  rw [he] at g;clear he;repeat' first|(with_reducible first|apply a8_|apply a3_|apply b1_|apply a9_|apply b3_|apply a1_|refine a2_ [] ?_)|((with_reducible refine a7_ ?_ ?_);(focus (go_simp;done)))|((with_reducible refine a6_ ?_ ?_);(focus (go_simp;done)))|((with_reducible refine a0_ fun X Y=>?_);go_simp;(first|(refine ⟨_,g,?_⟩)|skip);refine Y _ ?_;clear Y X)
  refine hK _ ?_;go_simp
 ·intro k hk HB HP K;obtain ⟨x1,x2,x3,x4,x5,x6⟩:=ixs (m:=k) (by omega);have g:=a9z r k hk hn (HM.out k hk);have he:¬rkE r k=0:=by simpa using HP.out
  have e:=HR.out;rw [v8_ hk HB.out HP.out,if_pos he] at e;subst e;generalize rkE r k=E at *;repeat' first|(with_reducible first|apply a8_|apply a3_|apply b5_|apply c4_|apply b1_|apply a9_|apply c8_|apply a1_|refine a2_ [] ?_)|((with_reducible refine a7_ ?_ ?_);(focus (go_simp;done)))|((with_reducible refine a0_ fun X Y=>?_);go_simp;(first|(refine ⟨_,g,?_⟩)|skip);refine Y _ ?_;clear Y X)
  go_simp
 ·intro HB K;have e:=HR.out;rw [q2_ _ _ (fun j hj=>HB.out j (by omega)),if_neg (by simp)] at e;subst e;unfold c6m;by_cases hb:r.back = -1
  ·cases hD2:inR r.ret 0 3600
   ·rw [hD2] at i2;have e2:unl ((decide (r.back = -1) || inR r.back 0 12)&&false) 2=2:=by simp [unl]
    rw [e2];repeat' first|(with_reducible first|apply a8_|apply a3_|apply b8_|apply b5_|apply c4_|apply d0_|apply b7_|apply a1_|refine a2_ [] ?_)|((with_reducible refine a7_ ?_ ?_);(focus (go_simp;done)))|((with_reducible refine a6_ ?_ ?_);(focus (go_simp;done)))|((with_reducible refine a0_ fun X Y=>?_);go_simp;(first|(with_reducible refine ⟨_,i2,?_⟩)|skip);refine Y _ ?_;clear Y X)
    go_simp
   ·rw [hD2] at i2;have e2:unl ((decide (r.back = -1) || inR r.back 0 12)&&true) 2=0:=by simp [unl,hb]
    rw [e2];repeat' first|(with_reducible first|apply a8_|apply a3_|apply b8_|apply c4_|apply b1_|apply d0_|apply b7_|apply a1_|refine a2_ [] ?_)|((with_reducible refine a6_ ?_ ?_);(focus (go_simp;done)))|((with_reducible refine a0_ fun X Y=>?_);go_simp;(first|(with_reducible refine ⟨_,i2,?_⟩)|skip);refine Y _ ?_;clear Y X)
    go_simp
  ·cases hD1:inR r.back 0 12
   ·rw [hD1] at i1;have e2:unl ((decide (r.back = -1) || false)&&inR r.ret 0 3600) 2=2:=by simp [unl,hb]
    rw [e2];repeat' first|(with_reducible first|apply a8_|apply a3_|apply b8_|apply b5_|apply c4_|apply d0_|apply b7_|apply a1_|refine a2_ [] ?_)|((with_reducible refine a7_ ?_ ?_);(focus (go_simp;done)))|((with_reducible refine a6_ ?_ ?_);(focus (go_simp;done)))|((with_reducible refine a0_ fun X Y=>?_);go_simp;(first|(with_reducible refine ⟨_,i1,?_⟩)|skip);refine Y _ ?_;clear Y X)
    go_simp
   ·rw [hD1] at i1;cases hD2:inR r.ret 0 3600
    ·rw [hD2] at i2;have e2:unl ((decide (r.back = -1) || true)&&false) 2=2:=by simp [unl]
     rw [e2];repeat' first|(with_reducible first|apply a8_|apply a3_|apply b8_|apply b5_|apply c4_|apply d0_|apply b7_|apply a1_|refine a2_ [] ?_)|((with_reducible refine a7_ ?_ ?_);(focus (go_simp;done)))|((with_reducible refine a6_ ?_ ?_);(focus (go_simp;done)))|((with_reducible refine a0_ fun X Y=>?_);go_simp;(first|(with_reducible refine ⟨_,i1,?_⟩)|(with_reducible refine ⟨_,i2,?_⟩)|skip);refine Y _ ?_;clear Y X)
     go_simp
    ·rw [hD2] at i2;have e2:unl ((decide (r.back = -1) || true)&&true) 2=0:=by simp [unl]
     rw [e2];repeat' first|(with_reducible first|apply a8_|apply a3_|apply b8_|apply c4_|apply b1_|apply d0_|apply b7_|apply a1_|refine a2_ [] ?_)|((with_reducible refine a6_ ?_ ?_);(focus (go_simp;done)))|((with_reducible refine a0_ fun X Y=>?_);go_simp;(first|(with_reducible refine ⟨_,i1,?_⟩)|(with_reducible refine ⟨_,i2,?_⟩)|skip);refine Y _ ?_;clear Y X)
     go_simp
theorem c7r (r:Ru) (s:St) (hl:r.ranks.length≤1000000) (hr:r.ranks.length=s.q.length) (hf:z7_ r s.q.length) : VC Tryz.prog 118 [c3_ r,x1_ s.q] (I (i8_ r s)):=by
 obtain ⟨R,hR⟩ : ∃ R,i8_ r s=R:=⟨_,rfl⟩
 rw [hR];unfold i8_ at hR;have HR:=Lib.hid hR;have HF:=Lib.hid hf;clear hR hf;refine c2_ Tryz.func118 rfl (by kernel_rfl) (by kernel_rfl) rfl fun M0 w0=>?_;simp only [Tryz.ntmps118,Tryz.results118,b4_];repeat' first|(with_reducible first|apply a8_|apply a3_|apply a9_|apply a1_|refine a2_ [] ?_)|((with_reducible refine a0_ fun X Y=>?_);go_simp;refine Y _ ?_;clear Y X)
 apply u8_ [1,2] (fun k=>[(5,I k)]) (fun k=>([] : Hp)) (x2_ r s) (r.ranks.length)
 ·go_simp<;>exact rfl
 ·go_simp
 ·intro k hk HB HP K hK;obtain ⟨w1,w2,w3,w4,w5,w6⟩:=ixs (m:=k) (by omega);have hk2:k < s.q.length:=by omega
  have hp:=HP.out;unfold x2_ f0_ at hp;by_cases h1:(rat r.ranks k).feeder = -1
  ·clear hp;repeat' first|(with_reducible first|apply a8_|apply a3_|apply b1_|apply a9_|apply b3_|apply a1_|refine a2_ [] ?_|apply a5_)|((with_reducible refine a7_ ?_ ?_);(focus (go_simp;done)))|((with_reducible refine a6_ ?_ ?_);(focus (go_simp;done)))|((with_reducible first|refine a0_ fun X Y=>?_|refine a4_ fun X Y=>?_);go_simp;refine Y _ ?_;clear Y X)|((refine b2_ 27 27 [] rfl (by kernel_rfl) (by kernel_rfl) ?_);simp only [List.take,List.drop])
   refine hK _ ?_;go_simp
  obtain ⟨f0,fl⟩:=HF.out k hk2 h1;obtain ⟨f,hf⟩ : ∃ f:Nat,(rat r.ranks k).feeder=f:=⟨(rat r.ranks k).feeder.toNat,by omega⟩
  rw [hf] at fl h1 hp;simp only [Int.toNat_natCast] at fl hp;clear f0;cases h2:(rat r.ranks k).called
  ·rw [decide_eq_true h1,h2] at hp;simp only [Bool.not_false,Bool.true_and] at hp;by_cases h3:((qat s.q k).length:Int) < (rat r.ranks k).places
   ·rw [decide_eq_true h3,Bool.true_and,decide_eq_false_iff_not] at hp;have h4:qat s.q f=[]:=List.eq_nil_of_length_eq_zero (by omega);clear hp;repeat' first|(with_reducible first|apply a8_|apply a3_|apply b1_|apply a9_|apply b3_|apply a1_|refine a2_ [] ?_|apply a5_)|((with_reducible refine a7_ ?_ ?_);(focus (go_simp;done)))|((with_reducible refine a6_ ?_ ?_);(focus (go_simp;done)))|((with_reducible first|refine a0_ fun X Y=>?_|refine a4_ fun X Y=>?_);go_simp;refine Y _ ?_;clear Y X)|((refine b2_ 27 27 [] rfl (by kernel_rfl) (by kernel_rfl) ?_);simp only [List.take,List.drop])
    refine hK _ ?_;go_simp
   ·clear hp;repeat' first|(with_reducible first|apply a8_|apply a3_|apply b1_|apply a9_|apply b3_|apply a1_|refine a2_ [] ?_|apply a5_)|((with_reducible refine a7_ ?_ ?_);(focus (go_simp;done)))|((with_reducible refine a6_ ?_ ?_);(focus (go_simp;done)))|((with_reducible first|refine a0_ fun X Y=>?_|refine a4_ fun X Y=>?_);go_simp;refine Y _ ?_;clear Y X)|((refine b2_ 27 27 [] rfl (by kernel_rfl) (by kernel_rfl) ?_);simp only [List.take,List.drop])
    refine hK _ ?_;go_simp
  ·clear hp;repeat' first|(with_reducible first|apply a8_|apply a3_|apply b1_|apply a9_|apply b3_|apply a1_|refine a2_ [] ?_|apply a5_)|((with_reducible refine a7_ ?_ ?_);(focus (go_simp;done)))|((with_reducible refine a6_ ?_ ?_);(focus (go_simp;done)))|((with_reducible first|refine a0_ fun X Y=>?_|refine a4_ fun X Y=>?_);go_simp;refine Y _ ?_;clear Y X)|((refine b2_ 27 27 [] rfl (by kernel_rfl) (by kernel_rfl) ?_);simp only [List.take,List.drop])
   refine hK _ ?_;go_simp
 ·intro k hk HB HP K;have hk2:k < s.q.length:=by omega
  have e:=HR.out;rw [j3_ hk HB.out HP.out] at e;subst e;have hp:=HP.out;unfold x2_ f0_ at hp;simp only [Bool.and_eq_true,decide_eq_true_eq,Bool.not_eq_true'] at hp;obtain ⟨⟨⟨h1,h2⟩,h3⟩,h4⟩:=hp;obtain ⟨f0,fl⟩:=HF.out k hk2 h1;obtain ⟨f,hf⟩ : ∃ f:Nat,(rat r.ranks k).feeder=f:=⟨(rat r.ranks k).feeder.toNat,by omega⟩
  rw [hf] at fl h1 h4;simp only [Int.toNat_natCast] at fl h4;have h5:¬qat s.q f=[]:=fun h=>by rw [h] at h4;simp at h4
  clear f0;repeat' first|(with_reducible first|apply a8_|apply a3_|apply b5_|apply c4_|apply b1_|apply a9_|apply c8_|apply a1_|refine a2_ [] ?_|apply a5_)|((with_reducible refine a7_ ?_ ?_);(focus (go_simp;done)))|((with_reducible first|refine a0_ fun X Y=>?_|refine a4_ fun X Y=>?_);go_simp;refine Y _ ?_;clear Y X)|((refine b2_ 27 27 [] rfl (by kernel_rfl) (by kernel_rfl) ?_);simp only [List.take,List.drop])
  go_simp
 ·intro HB K;have e:=HR.out;rw [j8_ HB.out] at e;subst e;repeat' first|(with_reducible first|apply a8_|apply a3_|apply b8_|apply c4_|apply d0_|apply b7_|apply a1_|refine a2_ [] ?_)|((with_reducible refine a6_ ?_ ?_);(focus (go_simp;done)))|((with_reducible refine a0_ fun X Y=>?_);go_simp;refine Y _ ?_;clear Y X)
  go_simp
def v1_ (q:List (List ByteArray)) (c:ByteArray) : Int:=if f8_ q c < 0 then -1 else a2n (qat q (f8_ q c).toNat) c
theorem c5i (s:St) (c:ByteArray) (hl:s.q.length≤1000000) (hq:∀ k,k < s.q.length→(qat s.q k).length≤1000000) : VC Tryz.prog 129 [e3_ s,S c] (.tup [I (f8_ s.q c),I (v1_ s.q c)]):=by
 obtain ⟨A,hA⟩ : ∃ A,f8_ s.q c=A:=⟨_,rfl⟩
 obtain ⟨D,hD⟩ : ∃ D,v1_ s.q c=D:=⟨_,rfl⟩
 unfold v1_ at hD;rw [hA] at hD;unfold v1_;rw [hA,hD];unfold f8_ at hA;have HA:=Lib.hid hA;have HD:=Lib.hid hD;have HQ:=Lib.hid hq;clear hA hD hq;refine c2_ Tryz.func129 rfl (by kernel_rfl) (by kernel_rfl) rfl fun M0 w0=>?_;simp only [Tryz.ntmps129,Tryz.results129,b4_];repeat' first|(with_reducible first|apply a8_|apply a3_|apply a9_|apply a1_|refine a2_ [] ?_)|((with_reducible refine a0_ fun X Y=>?_);go_simp;refine Y _ ?_;clear Y X)
 apply u8_ [1,2] (fun k=>[(6,I k)]) (fun k=>([] : Hp)) (inQ s.q c) (s.q.length)
 ·go_simp<;>exact rfl
 ·go_simp
 ·intro k hk HB HP K hK;obtain ⟨w1,w2,w3,w4,w5,w6⟩:=ixs (m:=k) (by omega);have hql:=HQ.out k hk;repeat' first|(with_reducible first|apply a8_|apply a3_|apply b1_|apply a9_|apply a1_|refine a2_ [] ?_)|((with_reducible refine a7_ ?_ ?_);(focus (go_simp;done)))|((with_reducible refine a0_ fun X Y=>?_);go_simp;refine Y _ ?_;clear Y X)
  apply u8_ [1,2,6] (fun k=>[(7,I k)]) (fun k=>([] : Hp)) (isT (qat s.q k) c) ((qat s.q k).length)
  ·go_simp<;>exact rfl
  ·go_simp
  ·intro j hj HB2 HP2 K2 hK2;obtain ⟨x1,x2,x3,x4,x5,x6⟩:=ixs (m:=j) (by omega);have hp:¬(qat s.q k)[j]=c:=by
    have:=HP2.out;simpa [isT,c9_ hj] using this
   repeat' first|(with_reducible first|apply a8_|apply a3_|apply b1_|apply a9_|apply b3_|apply a1_|refine a2_ [] ?_)|((with_reducible refine a7_ ?_ ?_);(focus (go_simp;done)))|((with_reducible refine a6_ ?_ ?_);(focus (go_simp;done)))|((with_reducible refine a0_ fun X Y=>?_);go_simp;refine Y _ ?_;clear Y X)
   refine hK2 _ ?_;go_simp
  ·intro j hj HB2 HP2 K2;exfalso;have h1:=HP.out;unfold inQ a2n at h1;rw [j3_ hj HB2.out HP2.out] at h1;simp at h1
  ·intro HB2 K2;repeat' first|(with_reducible first|apply a8_|apply a3_|apply b8_|apply d0_|apply b3_|apply b7_|apply a1_|refine a2_ [] ?_)|((with_reducible refine a6_ ?_ ?_);(focus (go_simp;done)))|((with_reducible refine a0_ fun X Y=>?_);go_simp;refine Y _ ?_;clear Y X)
   refine hK _ ?_;go_simp
 ·intro k hk HB HP K;obtain ⟨w1,w2,w3,w4,w5,w6⟩:=ixs (m:=k) (by omega);have hql:=HQ.out k hk;have e:=HA.out;rw [j3_ hk HB.out HP.out] at e;subst e;have e2:=HD.out;rw [if_neg (by omega),Int.toNat_natCast] at e2;have HE2:=Lib.hid e2;clear e2;repeat' first|(with_reducible first|apply a8_|apply a3_|apply b1_|apply a9_|apply a1_|refine a2_ [] ?_)|((with_reducible refine a7_ ?_ ?_);(focus (go_simp;done)))|((with_reducible refine a0_ fun X Y=>?_);go_simp;refine Y _ ?_;clear Y X)
  apply u8_ [1,2,6] (fun k=>[(7,I k)]) (fun k=>([] : Hp)) (isT (qat s.q k) c) ((qat s.q k).length)
  ·go_simp<;>exact rfl
  ·go_simp
  ·intro j hj HB2 HP2 K2 hK2;obtain ⟨x1,x2,x3,x4,x5,x6⟩:=ixs (m:=j) (by omega);have hp:¬(qat s.q k)[j]=c:=by
    have:=HP2.out;simpa [isT,c9_ hj] using this
   repeat' first|(with_reducible first|apply a8_|apply a3_|apply b1_|apply a9_|apply b3_|apply a1_|refine a2_ [] ?_)|((with_reducible refine a7_ ?_ ?_);(focus (go_simp;done)))|((with_reducible refine a6_ ?_ ?_);(focus (go_simp;done)))|((with_reducible refine a0_ fun X Y=>?_);go_simp;refine Y _ ?_;clear Y X)
   refine hK2 _ ?_;go_simp
  ·intro j hj HB2 HP2 K2;have hp:(qat s.q k)[j]=c:=by
    have:=HP2.out;simpa [isT,c9_ hj] using this
   have e3:=HE2.out;unfold a2n at e3;rw [j3_ hj HB2.out HP2.out] at e3;subst e3;repeat' first|(with_reducible first|apply a8_|apply a3_|apply b5_|apply c4_|apply b1_|apply a9_|apply c8_|apply a1_|refine a2_ [] ?_)|((with_reducible refine a7_ ?_ ?_);(focus (go_simp;done)))|((with_reducible refine a0_ fun X Y=>?_);go_simp;refine Y _ ?_;clear Y X)
   go_simp
  ·intro HB2 K2;exfalso;have h1:=HP.out;unfold inQ a2n at h1;rw [j8_ HB2.out] at h1;simp at h1
 ·intro HB K;have e:=HA.out;rw [j8_ HB.out] at e;subst e;have e2:=HD.out;rw [if_pos (by decide)] at e2;subst e2;repeat' first|(with_reducible first|apply a8_|apply a3_|apply b8_|apply c4_|apply d0_|apply b7_|apply a1_|refine a2_ [] ?_)|((with_reducible refine a6_ ?_ ?_);(focus (go_simp;done)))|((with_reducible refine a0_ fun X Y=>?_);go_simp;refine Y _ ?_;clear Y X)
  go_simp
end Go.Proofs.YtoibondihdhnoaaGreatDoor
