/- Texts in one: Walks: lists that are the same; of every length up to a million. -/
import Derived.Test.YtoibondihdhnoaaGreatDoorFRF45
import Derived.Test.YtoibondihdhnoaaGreatDoorFRF40
namespace Go.Proofs.YtoibondihdhnoaaGreatDoor
open Go.RowKit
set_option maxRecDepth 100000
set_option maxHeartbeats 2000000
theorem b1z (l:List Wt) (hl:l.length≤1000000) : VC Tryz.prog 43 [.sl 3 (l.map Wt.av),.sl 3 (l.map Wt.av)] (B true):=by
 refine b7_ Tryz.func43 rfl (by kernel_rfl) (by kernel_rfl) rfl fun M0 w0=>?_;simp only [Tryz.ntmps43,Tryz.results43,b1_];repeat' first|(with_reducible first|apply a8_|apply a3_|apply b0_|apply a9_|apply a1_|refine a2_ [] ?_)|((with_reducible refine a5_ ?_ ?_);(focus (go_simp;done)))|((with_reducible refine a0_ fun X Y=>?_);go_simp;refine Y _ ?_;clear Y X)
 apply a1z [0,1] (fun k=>[(5,I k)]) (fun k=>([] : Hp)) (fun _=>false) (l.length)
 ·go_simp<;>exact rfl
 ·go_simp
 ·intro k hk HB HP K hK;obtain ⟨w1,w2,w3,w4,w5,w6⟩:=ixs (m:=k) (by omega);repeat' first|(with_reducible first|apply a8_|apply a3_|apply b0_|apply a9_|apply b3_|apply a1_|refine a2_ [] ?_|apply a6_)|((with_reducible refine a7_ ?_ ?_);(focus (go_simp;done)))|((with_reducible refine a5_ ?_ ?_);(focus (go_simp;done)))|((with_reducible first|refine a0_ fun X Y=>?_|refine a4_ fun X Y=>?_);go_simp;refine Y _ ?_;clear Y X)|((refine b5_ 9 9 [] rfl (by kernel_rfl) (by kernel_rfl) ?_);simp only [List.take,List.drop])
  refine hK _ ?_;go_simp
 ·intro k hk HB HP K;exact absurd HP.out (by simp)
 ·intro HB K;repeat' first|(with_reducible first|apply a8_|apply a3_|apply c4_|apply c1_|apply d9_|apply b6_|apply a1_|refine a2_ [] ?_)|((with_reducible refine a5_ ?_ ?_);(focus (go_simp;done)))|((with_reducible refine a0_ fun X Y=>?_);go_simp;refine Y _ ?_;clear Y X)
  go_simp
theorem b9k (l:List Ev) (hl:l.length≤1000000) : VCo Tryz.prog 23 [q5_ l] 58 4 false (l.map Ev.av):=by
 refine b0p Tryz.func23 rfl (by kernel_rfl) (by kernel_rfl) rfl Tryz.results23 (by decide) (fun k x hx=>by obtain ⟨y,hy,rfl⟩:=f4_ hx;exact ⟨rfl,by simp [Ev.av,f5_,Value.oneCell']⟩) fun M0 w0=>?_;simp only [Tryz.ntmps23,b1_];have hl2:l.length≤1000000000:=by omega
 repeat (first|(with_reducible first|apply a8_|apply a3_|apply c1_|apply a1_|refine a2_ [3] ?_)|((with_reducible refine a0_ fun X Y=>?_);go_simp;refine Y _ ?_;clear Y X))
 exact ⟨0,rfl,rfl⟩
theorem v1_ (l:List ByteArray) (hl:l.length≤1000000) : VCo Tryz.prog 116 [w6_ l] 9 1 false (l.map i7_):=by
 refine b0p Tryz.func116 rfl (by kernel_rfl) (by kernel_rfl) rfl Tryz.results116 (by decide) (fun k x hx=>by exact TxO.map l x (List.mem_of_getElem? hx)) fun M0 w0=>?_;simp only [Tryz.ntmps116,b1_];have hl2:l.length≤1000000000:=by omega
 repeat (first|(with_reducible first|apply a8_|apply a3_|apply c1_|apply a1_|refine a2_ [3] ?_)|((with_reducible refine a0_ fun X Y=>?_);go_simp;refine Y _ ?_;clear Y X))
 exact ⟨0,rfl,rfl⟩
theorem b9l (l:List Ev) (hl:l.length≤1000000) : VC Tryz.prog 23 [q5_ l] (q5_ l):=a1s (b9k l hl)
theorem a4g (l:List ByteArray) (hl:l.length≤1000000) : VC Tryz.prog 116 [w6_ l] (w6_ l):=a1s (v1_ l hl)
theorem b2a (r:Ru) (hl:r.ranks.length≤1000000) : VC Tryz.prog 22 [c5_ r] (c5_ r):=by
 have hl2:r.ranks.length≤1000000000:=by omega
 refine b7_ Tryz.func22 rfl (by kernel_rfl) (by kernel_rfl) rfl fun M0 w0=>?_;simp only [Tryz.ntmps22,Tryz.results22,b1_];repeat' with_reducible apply a8_
 refine a2_ [1] ?_;repeat' first|(with_reducible first|apply a8_|apply a3_|apply a1_)|((with_reducible refine a0_ fun X Y=>?_);go_simp;refine Y _ ?_;clear Y X)
 refine a2_ [3] ?_;repeat' first|(with_reducible first|apply a8_|apply a3_|apply a1_)|((with_reducible refine a0_ fun X Y=>?_);go_simp;refine Y _ ?_;clear Y X)
 refine d2_ 0 0 2 rfl rfl rfl ?_;repeat' first|(with_reducible first|apply a3_|apply c1_|apply a1_|refine a2_ [] ?_)|((with_reducible refine a0_ fun X Y=>?_);go_simp;refine Y _ ?_;clear Y X)
 go_simp
theorem b9m (l:List ByteArray) (s:ByteArray) (hl:l.length≤1000000) : VC Tryz.prog 70 [w6_ l,S s] (B (a4x (isT l s) 0 l.length)):=by
 obtain ⟨R,hR⟩ : ∃ R,a4x (isT l s) 0 l.length=R:=⟨_,rfl⟩
 rw [hR];have HR:=Lib.hid hR;clear hR;refine b7_ Tryz.func70 rfl (by kernel_rfl) (by kernel_rfl) rfl fun M0 w0=>?_;simp only [Tryz.ntmps70,Tryz.results70,b1_];repeat' first|(with_reducible first|apply a8_|apply a3_|apply a9_|apply a1_|refine a2_ [] ?_)|((with_reducible refine a0_ fun X Y=>?_);go_simp;refine Y _ ?_;clear Y X)
 apply a1z [0,1] (fun k=>[(5,I k)]) (fun k=>([] : Hp)) (isT l s) (l.length)
 ·go_simp<;>exact rfl
 ·go_simp
 ·intro k hk HB HP K hK;obtain ⟨w1,w2,w3,w4,w5,w6⟩:=ixs (m:=k) (by omega);have hp:¬l[k]=s:=by
   have:=HP.out;simpa [isT,h9_ hk] using this
  repeat' first|(with_reducible first|apply a8_|apply a3_|apply b0_|apply a9_|apply b3_|apply a1_|refine a2_ [] ?_)|((with_reducible refine a7_ ?_ ?_);(focus (go_simp;done)))|((with_reducible refine a5_ ?_ ?_);(focus (go_simp;done)))|((with_reducible refine a0_ fun X Y=>?_);go_simp;refine Y _ ?_;clear Y X)
  refine hK _ ?_;go_simp
 ·intro k hk HB HP K;have hp:l[k]=s:=by
   have:=HP.out;simpa [isT,h9_ hk] using this
  have e:=HR.out;rw [m9_ hk HP.out] at e;subst e;repeat' first|(with_reducible first|apply a8_|apply a3_|apply b2_|apply c1_|apply b0_|apply a9_|apply c0_|apply a1_|refine a2_ [] ?_)|((with_reducible refine a7_ ?_ ?_);(focus (go_simp;done)))|((with_reducible refine a0_ fun X Y=>?_);go_simp;refine Y _ ?_;clear Y X)
  go_simp
 ·intro HB K;have e:=HR.out;rw [s7_ HB.out] at e;subst e;repeat (first|(with_reducible first|apply a8_|apply a3_|apply c4_|apply c1_|apply d9_|apply b6_|apply a1_|refine a2_ [] ?_)|((with_reducible refine a5_ ?_ ?_);(focus (go_simp;done)))|((with_reducible refine a0_ fun X Y=>?_);go_simp;refine Y _ ?_;clear Y X))
  go_simp
def w0_:Ru:=⟨[⟨⟨#[115,116,97,110,100]⟩,2,1,false⟩,⟨⟨#[102,101,101,100,101,114]⟩,3,-1,false⟩],1,60⟩
def a0s:List Ev:=[⟨0,0,0,⟨#[97]⟩⟩,⟨0,5,0,⟨#[98]⟩⟩,⟨0,9,1,⟨#[99]⟩⟩,⟨1,20,0,⟨#[97]⟩⟩]
def b2b:St:=⟨[[⟨#[98]⟩,⟨#[99]⟩],[]],[⟨⟨#[97]⟩,0,20⟩],20⟩
theorem c7l:VC Tryz.prog 83 [] (c5_ w0_):=by
 unfold w0_;refine b7_ Tryz.func83 rfl (by kernel_rfl) (by kernel_rfl) rfl fun M0 w0=>?_;simp only [Tryz.ntmps83,Tryz.results83,b1_];repeat' first|(with_reducible first|apply a8_|apply a3_|apply c1_|apply a1_|refine a2_ [] ?_)|((with_reducible refine a0_ fun X Y=>?_);go_simp;refine Y _ ?_;clear Y X)
 go_simp
theorem b9n:VC Tryz.prog 84 [] (q5_ a0s):=by
 unfold a0s;refine b7_ Tryz.func84 rfl (by kernel_rfl) (by kernel_rfl) rfl fun M0 w0=>?_;simp only [Tryz.ntmps84,Tryz.results84,b1_];repeat' first|(with_reducible first|apply a8_|apply a3_|apply c1_|apply a1_|refine a2_ [] ?_)|((with_reducible refine a0_ fun X Y=>?_);go_simp;refine Y _ ?_;clear Y X)
 go_simp
theorem c3p:c9n w0_ a0s=(b2b,0,0):=by kernel_rfl
theorem c3q:b4i w0_ a0s=0:=by kernel_rfl
theorem b9o:o9_ a0s 0 a0s=[⟨⟨#[97]⟩,0,20⟩]:=by kernel_rfl
theorem b6a:(a5y w0_ a0s).2=0∧(a5y w0_ a0s).1.length=6:=⟨by kernel_rfl,by kernel_rfl⟩
def c3r:List Sg:=[⟨0,0,⟨#[97]⟩⟩,⟨0,0,⟨#[98]⟩⟩,⟨1,0,⟨#[98]⟩⟩]
theorem d0f:ovT c3r = .agg [I 0,I 1,I 2]:=by kernel_rfl
theorem d0g:ovE c3r=0:=by kernel_rfl
def c7m:ByteArray:=⟨#[99,97,108,108,32,50,48,32,48,32,45]⟩
theorem d0h:evP (n3_ 32 c7m)=(⟨4,20,0,⟨#[]⟩⟩,0):=by kernel_rfl
theorem b9p:b8i b2b=⟨#[50,48,124,98,32,99,124,124,97,58,48,58,50,48]⟩:=by kernel_rfl
theorem a2i:SmallL w0_ a0s:=⟨by decide,fun k hk=>by
 have h2:k < 2:=hk;rcases k with _|_|k
 ·decide
 ·decide
 ·omega,fun x hx=>by
 simp only [a0s,List.mem_cons,List.not_mem_nil,or_false] at hx;rcases hx with rfl|rfl|rfl|rfl<;>decide⟩
theorem b2c:SmallS b2b:=by
 refine ⟨by decide,fun l hl=>?_,by decide,fun t ht=>?_,by unfold i64;decide⟩
 ·simp only [b2b,List.mem_cons,List.not_mem_nil,or_false] at hl;rcases hl with rfl|rfl
  ·refine ⟨by decide,fun c hc=>?_⟩;simp only [List.mem_cons,List.not_mem_nil,or_false] at hc;rcases hc with rfl|rfl<;>decide
  ·exact ⟨by decide,fun c hc=>by simp at hc⟩
 ·simp only [b2b,List.mem_cons,List.not_mem_nil,or_false] at ht;subst ht;unfold i64;decide
theorem c7n:VC Tryz.prog 18 [] (B true):=by
 have g1:=c7l;have g2:=b9n;have g3:=c2q w0_ a0s a2i;have g4:=b9j w0_ a0s a2i;have g5:=b1s c3r (by decide) (fun k hk=>by
  have h2:k < 3:=hk;rcases k with _|_|_|k
  ·decide
  ·decide
  ·decide
  ·omega)
 have g6:=a9z c7m (by decide);have g7:=a7y w0_ a0s a2i;have g8:=a7n b2b b2c;have g9:=b1z [⟨⟨#[97]⟩,0,20⟩] (by decide);obtain ⟨m1,m2⟩:=b6a;rw [c3p] at g3;rw [c3q,if_pos rfl,b9o] at g4;rw [d0f,d0g] at g5;rw [d0h] at g6;rw [m1] at g7;rw [b9p] at g8;generalize (a5y w0_ a0s).1=L at *;have m3:(L.length:Int)=6:=by omega
 clear m1 m2;generalize w0_=R0 at *;generalize hM:a0s=M at *;clear hM;generalize hS:b2b=S0 at *;clear hS;unfold c3r at g5;unfold c7m at g6;simp only [c5_,q5_,f2_,d3s,evA,List.map_cons,List.map_nil,Sg.av,Wt.av] at g1 g2 g3 g4 g5 g6 g7 g8 g9;refine b7_ Tryz.func18 rfl (by kernel_rfl) (by kernel_rfl) rfl fun M0 w0=>?_;simp only [Tryz.ntmps18,Tryz.results18,b1_];repeat' first|(with_reducible first|apply a8_|apply a3_|apply c1_|apply a1_|refine a2_ [] ?_)|((with_reducible refine a0_ fun X Y=>?_);go_simp;(first|(with_reducible refine ⟨_,g1,?_⟩)|(with_reducible refine ⟨_,g2,?_⟩)|(with_reducible refine ⟨_,g3,?_⟩)|(with_reducible refine ⟨_,g4,?_⟩)|(with_reducible refine ⟨_,g5,?_⟩)|(with_reducible refine ⟨_,g6,?_⟩)|(with_reducible refine ⟨_,g7,?_⟩)|(with_reducible refine ⟨_,g8,?_⟩)|(with_reducible refine ⟨_,g9,?_⟩)|skip);refine Y _ ?_;clear Y X)
 go_simp
theorem b9q {p:Nat→Bool} {n:Nat} (h:∀ j,j < n→p j=false) : a4x p 0 n=false:=s7_ h
theorem a4h (r:Ru) (n:Int) (hn:r.ranks.length≤1000000) : VC Tryz.prog 33 [c5_ r,I n] (B (inR n 0 ((r.ranks.length:Int) - 1))):=by
 have i1:=a0e n 0 ((r.ranks.length:Int) - 1);have hw:IntKind.i64.wrap ((r.ranks.length:Int) - 1)=(r.ranks.length:Int) - 1:=g8_ (by omega) (by omega);generalize inR n 0 ((r.ranks.length:Int) - 1)=D at *;refine b7_ Tryz.func33 rfl (by kernel_rfl) (by kernel_rfl) rfl fun M0 w0=>?_;simp only [Tryz.ntmps33,Tryz.results33,b1_];repeat' first|(with_reducible first|apply a8_|apply a3_|apply c1_|apply a1_|refine a2_ [] ?_)|((with_reducible refine a0_ fun X Y=>?_);go_simp;(first|(with_reducible refine ⟨_,i1,?_⟩)|skip);refine Y _ ?_;clear Y X)
 go_simp
theorem b0f (r:Ru) (i:Nat) (hi:i < r.ranks.length) (hn:r.ranks.length≤1000000) (hnm:(rat r.ranks i).name.size≤1000) : VC Tryz.prog 101 [c5_ r,I (i:Int)] (I (rkE r i)):=by
 obtain ⟨E,hE⟩ : ∃ E,rkE r i=E:=⟨_,rfl⟩
 rw [hE];have i1:=b4r (rat r.ranks i).name (by omega);have i2:=a0e (rat r.ranks i).places 1 12;have i3:=a4h r (rat r.ranks i).feeder hn;have HE:=Lib.hid hE;clear hE hnm;obtain ⟨w1,w2,w3,w4,w5,w6⟩:=ixs (m:=i) (by omega);cases hD1:e2_ (rat r.ranks i).name
 ·have e:rkE r i=4:=by simp [rkE,fst,unl,hD1]
  rw [HE.out] at e;rw [hD1] at i1;subst e;refine b7_ Tryz.func101 rfl (by kernel_rfl) (by kernel_rfl) rfl fun M0 w0=>?_;simp only [Tryz.ntmps101,Tryz.results101,b1_];repeat' first|(with_reducible first|apply a8_|apply a3_|apply b2_|apply c1_|apply a1_|refine a2_ [] ?_)|((with_reducible refine a7_ ?_ ?_);(focus (go_simp;done)))|((with_reducible refine a0_ fun X Y=>?_);go_simp;(first|(with_reducible refine ⟨_,i1,?_⟩)|skip);refine Y _ ?_;clear Y X)
  go_simp
 rw [hD1] at i1;refine b7_ Tryz.func101 rfl (by kernel_rfl) (by kernel_rfl) rfl fun M0 w0=>?_;simp only [Tryz.ntmps101,Tryz.results101,b1_];repeat' first|(with_reducible first|apply a8_|apply a3_|apply b0_|apply a9_|apply a1_|refine a2_ [] ?_)|((with_reducible refine a5_ ?_ ?_);(focus (go_simp;done)))|((with_reducible refine a0_ fun X Y=>?_);go_simp;(first|(with_reducible refine ⟨_,i1,?_⟩)|skip);refine Y _ ?_;clear Y X)
 apply a1z [1,2,5] (fun k=>[(6,I k)]) (fun k=>([some (.box [S (rat r.ranks i).name,I (rat r.ranks i).places,I (rat r.ranks i).feeder,B (rat r.ranks i).called])] : Hp)) (fun k=>decide ((rat r.ranks k).name=(rat r.ranks i).name)) (i)
 ·go_simp<;>exact rfl
 ·go_simp
 ·intro k hk HB HP K hK;obtain ⟨x1,x2,x3,x4,x5,x6⟩:=ixs (m:=k) (by omega);have hkn:k < r.ranks.length:=by omega
  have hp:¬(rat r.ranks k).name=(rat r.ranks i).name:=of_decide_eq_false HP.out;repeat' first|(with_reducible first|apply a8_|apply a3_|apply b0_|apply a9_|apply b3_|apply a1_|refine a2_ [] ?_|apply a6_)|((with_reducible refine a7_ ?_ ?_);(focus (go_simp;done)))|((with_reducible refine a5_ ?_ ?_);(focus (go_simp;done)))|((with_reducible first|refine a0_ fun X Y=>?_|refine a4_ fun X Y=>?_);go_simp;refine Y _ ?_;clear Y X)|((refine b5_ 9 9 [] rfl (by kernel_rfl) (by kernel_rfl) ?_);simp only [List.take,List.drop])
  refine hK _ ?_;go_simp
 ·intro k hk HB HP K;obtain ⟨x1,x2,x3,x4,x5,x6⟩:=ixs (m:=k) (by omega);have hkn:k < r.ranks.length:=by omega
  have hp:(rat r.ranks k).name=(rat r.ranks i).name:=of_decide_eq_true HP.out;have hA:x2_ r i=true:=m9_ hk HP.out;have e:rkE r i=5:=by simp [rkE,fst,unl,hD1,hA]
  rw [HE.out] at e;subst e;repeat' first|(with_reducible first|apply a8_|apply a3_|apply b2_|apply c1_|apply b0_|apply a9_|apply c0_|apply a1_|refine a2_ [] ?_|apply a6_)|((with_reducible refine a7_ ?_ ?_);(focus (go_simp;done)))|((with_reducible first|refine a0_ fun X Y=>?_|refine a4_ fun X Y=>?_);go_simp;refine Y _ ?_;clear Y X)|((refine b5_ 9 9 [] rfl (by kernel_rfl) (by kernel_rfl) ?_);simp only [List.take,List.drop])
  go_simp
 ·intro HB K;have hA:x2_ r i=false:=s7_ HB.out;cases hD2:inR (rat r.ranks i).places 1 12
  ·have e:rkE r i=2:=by simp [rkE,fst,unl,hD1,hA,hD2]
   rw [HE.out] at e;rw [hD2] at i2;subst e;repeat' first|(with_reducible first|apply a8_|apply a3_|apply c4_|apply b2_|apply c1_|apply d9_|apply b6_|apply a1_|refine a2_ [] ?_)|((with_reducible refine a7_ ?_ ?_);(focus (go_simp;done)))|((with_reducible refine a5_ ?_ ?_);(focus (go_simp;done)))|((with_reducible refine a0_ fun X Y=>?_);go_simp;(first|(with_reducible refine ⟨_,i2,?_⟩)|skip);refine Y _ ?_;clear Y X)
   go_simp
  rw [hD2] at i2;by_cases hF:(rat r.ranks i).feeder = -1
  ·have hfb:g9_ r i=false:=by simp [g9_,hF]
   cases hC:(rat r.ranks i).called
   ·have e:rkE r i=0:=by simp [rkE,fst,unl,hD1,hA,hD2,hfb,hC]
    rw [HE.out] at e;subst e;repeat' first|(with_reducible first|apply a8_|apply a3_|apply c4_|apply b2_|apply c1_|apply b0_|apply d9_|apply b6_|apply a1_|refine a2_ [] ?_)|((with_reducible refine a7_ ?_ ?_);(focus (go_simp;done)))|((with_reducible refine a5_ ?_ ?_);(focus (go_simp;done)))|((with_reducible refine a0_ fun X Y=>?_);go_simp;(first|(with_reducible refine ⟨_,i2,?_⟩)|skip);refine Y _ ?_;clear Y X)
    go_simp
   ·have e:rkE r i=3:=by simp [rkE,fst,unl,hD1,hA,hD2,hfb,hC]
    rw [HE.out] at e;subst e;repeat' first|(with_reducible first|apply a8_|apply a3_|apply c4_|apply b2_|apply c1_|apply b0_|apply d9_|apply b6_|apply a1_|refine a2_ [] ?_)|((with_reducible refine a7_ ?_ ?_);(focus (go_simp;done)))|((with_reducible refine a5_ ?_ ?_);(focus (go_simp;done)))|((with_reducible refine a0_ fun X Y=>?_);go_simp;(first|(with_reducible refine ⟨_,i2,?_⟩)|skip);refine Y _ ?_;clear Y X)
    go_simp
  have hfb:g9_ r i=true:=by simp [g9_,hF]
  cases hD3:inR (rat r.ranks i).feeder 0 ((r.ranks.length:Int) - 1)
  ·have e:rkE r i=6:=by simp [rkE,fst,unl,hD1,hA,hD2,hfb,hD3]
   rw [HE.out] at e;rw [hD3] at i3;subst e;repeat' first|(with_reducible first|apply a8_|apply a3_|apply c4_|apply b2_|apply c1_|apply b0_|apply d9_|apply b6_|apply a1_|refine a2_ [] ?_)|((with_reducible refine a7_ ?_ ?_);(focus (go_simp;done)))|((with_reducible refine a5_ ?_ ?_);(focus (go_simp;done)))|((with_reducible refine a0_ fun X Y=>?_);go_simp;(first|(with_reducible refine ⟨_,i2,?_⟩)|(refine ⟨_,i3,?_⟩)|skip);refine Y _ ?_;clear Y X)
   go_simp
  rw [hD3] at i3;by_cases hO:(i:Int) < (rat r.ranks i).feeder
  ·have hO2:¬(rat r.ranks i).feeder≤(i:Int):=by omega
   repeat' first|(with_reducible first|apply a8_|apply a3_|apply c4_|apply b0_|apply d9_|apply a9_|apply b6_|apply a1_|refine a2_ [] ?_)|((with_reducible refine a5_ ?_ ?_);(focus (go_simp;done)))|((with_reducible refine a0_ fun X Y=>?_);go_simp;(first|(with_reducible refine ⟨_,i2,?_⟩)|(refine ⟨_,i3,?_⟩)|skip);refine Y _ ?_;clear Y X)
   apply a1z [1,2,5] (fun k=>[(7,I k)]) (fun k=>([some (.box [S (rat r.ranks i).name,I (rat r.ranks i).places,I (rat r.ranks i).feeder,B (rat r.ranks i).called])] : Hp)) (fun k=>decide ((rat r.ranks k).feeder=(rat r.ranks i).feeder)) (i)
   ·go_simp<;>exact rfl
   ·go_simp
   ·intro k hk HB HP K hK;obtain ⟨x1,x2,x3,x4,x5,x6⟩:=ixs (m:=k) (by omega);have hkn:k < r.ranks.length:=by omega
    have hp:¬(rat r.ranks k).feeder=(rat r.ranks i).feeder:=of_decide_eq_false HP.out;repeat' first|(with_reducible first|apply a8_|apply a3_|apply b0_|apply a9_|apply b3_|apply a1_|refine a2_ [] ?_|apply a6_)|((with_reducible refine a7_ ?_ ?_);(focus (go_simp;done)))|((with_reducible refine a5_ ?_ ?_);(focus (go_simp;done)))|((with_reducible first|refine a0_ fun X Y=>?_|refine a4_ fun X Y=>?_);go_simp;refine Y _ ?_;clear Y X)|((refine b5_ 9 9 [] rfl (by kernel_rfl) (by kernel_rfl) ?_);simp only [List.take,List.drop])
    refine hK _ ?_;go_simp
   ·intro k hk HB HP K;obtain ⟨x1,x2,x3,x4,x5,x6⟩:=ixs (m:=k) (by omega);have hkn:k < r.ranks.length:=by omega
    have hp:(rat r.ranks k).feeder=(rat r.ranks i).feeder:=of_decide_eq_true HP.out;have hB:t6_ r i=true:=m9_ hk HP.out;have e:rkE r i=26:=by simp [rkE,fst,unl,hD1,hA,hD2,hfb,hD3,hO,hB]
    rw [HE.out] at e;subst e;repeat' first|(with_reducible first|apply a8_|apply a3_|apply b2_|apply c1_|apply b0_|apply a9_|apply c0_|apply a1_|refine a2_ [] ?_|apply a6_)|((with_reducible refine a7_ ?_ ?_);(focus (go_simp;done)))|((with_reducible first|refine a0_ fun X Y=>?_|refine a4_ fun X Y=>?_);go_simp;refine Y _ ?_;clear Y X)|((refine b5_ 9 9 [] rfl (by kernel_rfl) (by kernel_rfl) ?_);simp only [List.take,List.drop])
    go_simp
   ·intro HB K;have hB:t6_ r i=false:=s7_ HB.out;have e:rkE r i=0:=by simp [rkE,fst,unl,hD1,hA,hD2,hfb,hD3,hO,hB]
    rw [HE.out] at e;subst e;repeat' first|(with_reducible first|apply a8_|apply a3_|apply c4_|apply c1_|apply d9_|apply b6_|apply a1_|refine a2_ [] ?_)|((with_reducible refine a5_ ?_ ?_);(focus (go_simp;done)))|((with_reducible refine a0_ fun X Y=>?_);go_simp;refine Y _ ?_;clear Y X)
    go_simp
  ·have hO2:(rat r.ranks i).feeder≤(i:Int):=by omega
   have e:rkE r i=9:=by simp [rkE,fst,unl,hD1,hA,hD2,hfb,hD3,hO]
   rw [HE.out] at e;subst e;repeat' first|(with_reducible first|apply a8_|apply a3_|apply c4_|apply b2_|apply c1_|apply b0_|apply d9_|apply b6_|apply a1_|refine a2_ [] ?_)|((with_reducible refine a7_ ?_ ?_);(focus (go_simp;done)))|((with_reducible refine a5_ ?_ ?_);(focus (go_simp;done)))|((with_reducible refine a0_ fun X Y=>?_);go_simp;(first|(with_reducible refine ⟨_,i2,?_⟩)|(refine ⟨_,i3,?_⟩)|skip);refine Y _ ?_;clear Y X)
   go_simp
theorem b0g (r:Ru) (hn:r.ranks.length≤1000000) (hnm:∀ k,k < r.ranks.length→(rat r.ranks k).name.size≤1000) : VC Tryz.prog 38 [c5_ r] (.tup [I ((e9_ r).1:Int),I (e9_ r).2]):=by
 unfold e9_;by_cases h0:r.ranks.length=0
 ·rw [if_pos h0];have h0':(r.ranks.length:Int)=0:=by omega
  refine b7_ Tryz.func38 rfl (by kernel_rfl) (by kernel_rfl) rfl fun M0 w0=>?_;simp only [Tryz.ntmps38,Tryz.results38,b1_];repeat' first|(with_reducible first|apply a8_|apply a3_|apply b2_|apply c1_|apply a1_|refine a2_ [] ?_)|((with_reducible refine a7_ ?_ ?_);(focus (go_simp;done)))|((with_reducible refine a0_ fun X Y=>?_);go_simp;refine Y _ ?_;clear Y X)
  go_simp
 rw [if_neg h0];have h0':¬r.ranks=[]:=fun h=>h0 (by rw [h];rfl);by_cases h6:6 < r.ranks.length
 ·rw [if_pos h6];have h6':(6:Int) < (r.ranks.length:Int):=by omega
  refine b7_ Tryz.func38 rfl (by kernel_rfl) (by kernel_rfl) rfl fun M0 w0=>?_;simp only [Tryz.ntmps38,Tryz.results38,b1_];repeat' first|(with_reducible first|apply a8_|apply a3_|apply b2_|apply c1_|apply b0_|apply a1_|refine a2_ [] ?_)|((with_reducible refine a7_ ?_ ?_);(focus (go_simp;done)))|((with_reducible refine a5_ ?_ ?_);(focus (go_simp;done)))|((with_reducible refine a0_ fun X Y=>?_);go_simp;refine Y _ ?_;clear Y X)
  go_simp
 rw [if_neg h6];have h6':¬(6:Int) < (r.ranks.length:Int):=by omega
 obtain ⟨R,hR⟩ : ∃ R,(if (h3_ (rkE r) 0 r.ranks.length).2≠0 then h3_ (rkE r) 0 r.ranks.length else (0,c6k r))=R:=⟨_,rfl⟩
 rw [hR];have HR:=Lib.hid hR;have HM:=Lib.hid hnm;have i1:=a0e r.back 0 12;have i2:=a0e r.ret 0 3600;clear hR hnm h0 h6;refine b7_ Tryz.func38 rfl (by kernel_rfl) (by kernel_rfl) rfl fun M0 w0=>?_;simp only [Tryz.ntmps38,Tryz.results38,b1_];repeat' first|(with_reducible first|apply a8_|apply a3_|apply b0_|apply a9_|apply a1_|refine a2_ [] ?_)|((with_reducible refine a5_ ?_ ?_);(focus (go_simp;done)))|((with_reducible refine a0_ fun X Y=>?_);go_simp;refine Y _ ?_;clear Y X)
 apply a1z [1] (fun k=>[(4,I k)]) (fun k=>([] : Hp)) (fun k=>!decide (rkE r k=0)) (r.ranks.length)
 ·go_simp<;>exact rfl
 ·go_simp
 ·intro k hk HB HP K hK;obtain ⟨x1,x2,x3,x4,x5,x6⟩:=ixs (m:=k) (by omega);have g:=b0f r k hk hn (HM.out k hk);have he:rkE r k=0:=by simpa using HP.out
  rw [he] at g;clear he;repeat' first|(with_reducible first|apply a8_|apply a3_|apply b0_|apply a9_|apply b3_|apply a1_|refine a2_ [] ?_)|((with_reducible refine a7_ ?_ ?_);(focus (go_simp;done)))|((with_reducible refine a5_ ?_ ?_);(focus (go_simp;done)))|((with_reducible refine a0_ fun X Y=>?_);go_simp;(first|(refine ⟨_,g,?_⟩)|skip);refine Y _ ?_;clear Y X)
  refine hK _ ?_;go_simp
 ·intro k hk HB HP K;obtain ⟨x1,x2,x3,x4,x5,x6⟩:=ixs (m:=k) (by omega);have g:=b0f r k hk hn (HM.out k hk);have he:¬rkE r k=0:=by simpa using HP.out
  have e:=HR.out;rw [x3_ hk HB.out HP.out,if_pos he] at e;subst e;generalize rkE r k=E at *;repeat' first|(with_reducible first|apply a8_|apply a3_|apply b2_|apply c1_|apply b0_|apply a9_|apply c0_|apply a1_|refine a2_ [] ?_)|((with_reducible refine a7_ ?_ ?_);(focus (go_simp;done)))|((with_reducible refine a0_ fun X Y=>?_);go_simp;(first|(refine ⟨_,g,?_⟩)|skip);refine Y _ ?_;clear Y X)
  go_simp
 ·intro HB K;have e:=HR.out;rw [s2_ _ _ (fun j hj=>HB.out j (by omega)),if_neg (by simp)] at e;subst e;unfold c6k;by_cases hb:r.back = -1
  ·cases hD2:inR r.ret 0 3600
   ·rw [hD2] at i2;have e2:unl ((decide (r.back = -1) || inR r.back 0 12)&&false) 2=2:=by simp [unl]
    rw [e2];repeat' first|(with_reducible first|apply a8_|apply a3_|apply c4_|apply b2_|apply c1_|apply d9_|apply b6_|apply a1_|refine a2_ [] ?_)|((with_reducible refine a7_ ?_ ?_);(focus (go_simp;done)))|((with_reducible refine a5_ ?_ ?_);(focus (go_simp;done)))|((with_reducible refine a0_ fun X Y=>?_);go_simp;(first|(with_reducible refine ⟨_,i2,?_⟩)|skip);refine Y _ ?_;clear Y X)
    go_simp
   ·rw [hD2] at i2;have e2:unl ((decide (r.back = -1) || inR r.back 0 12)&&true) 2=0:=by simp [unl,hb]
    rw [e2];repeat' first|(with_reducible first|apply a8_|apply a3_|apply c4_|apply c1_|apply b0_|apply d9_|apply b6_|apply a1_|refine a2_ [] ?_)|((with_reducible refine a5_ ?_ ?_);(focus (go_simp;done)))|((with_reducible refine a0_ fun X Y=>?_);go_simp;(first|(with_reducible refine ⟨_,i2,?_⟩)|skip);refine Y _ ?_;clear Y X)
    go_simp
  ·cases hD1:inR r.back 0 12
   ·rw [hD1] at i1;have e2:unl ((decide (r.back = -1) || false)&&inR r.ret 0 3600) 2=2:=by simp [unl,hb]
    rw [e2];repeat' first|(with_reducible first|apply a8_|apply a3_|apply c4_|apply b2_|apply c1_|apply d9_|apply b6_|apply a1_|refine a2_ [] ?_)|((with_reducible refine a7_ ?_ ?_);(focus (go_simp;done)))|((with_reducible refine a5_ ?_ ?_);(focus (go_simp;done)))|((with_reducible refine a0_ fun X Y=>?_);go_simp;(first|(with_reducible refine ⟨_,i1,?_⟩)|skip);refine Y _ ?_;clear Y X)
    go_simp
   ·rw [hD1] at i1;cases hD2:inR r.ret 0 3600
    ·rw [hD2] at i2;have e2:unl ((decide (r.back = -1) || true)&&false) 2=2:=by simp [unl]
     rw [e2];repeat' first|(with_reducible first|apply a8_|apply a3_|apply c4_|apply b2_|apply c1_|apply d9_|apply b6_|apply a1_|refine a2_ [] ?_)|((with_reducible refine a7_ ?_ ?_);(focus (go_simp;done)))|((with_reducible refine a5_ ?_ ?_);(focus (go_simp;done)))|((with_reducible refine a0_ fun X Y=>?_);go_simp;(first|(with_reducible refine ⟨_,i1,?_⟩)|(with_reducible refine ⟨_,i2,?_⟩)|skip);refine Y _ ?_;clear Y X)
     go_simp
    ·rw [hD2] at i2;have e2:unl ((decide (r.back = -1) || true)&&true) 2=0:=by simp [unl]
     rw [e2];repeat' first|(with_reducible first|apply a8_|apply a3_|apply c4_|apply c1_|apply b0_|apply d9_|apply b6_|apply a1_|refine a2_ [] ?_)|((with_reducible refine a5_ ?_ ?_);(focus (go_simp;done)))|((with_reducible refine a0_ fun X Y=>?_);go_simp;(first|(with_reducible refine ⟨_,i1,?_⟩)|(with_reducible refine ⟨_,i2,?_⟩)|skip);refine Y _ ?_;clear Y X)
     go_simp
theorem b0h (r:Ru) (x:Ev) (hn:r.ranks.length≤1000000) (hc:x.car.size≤1000) : VC Tryz.prog 56 [c5_ r,evA x] (I (evE r x)):=by
 obtain ⟨kd,tm,rk,car⟩:=x;simp only [evA] at *;obtain ⟨E,hE⟩ : ∃ E,evE r ⟨kd,tm,rk,car⟩=E:=⟨_,rfl⟩
 rw [hE];have i1:=a0e kd 0 5;have i2:=a0e tm 0 604800;have i3:=a4h r rk hn;have i4:=b4r car (by omega);unfold evE at hE;cases hD1:inR kd 0 5
 ·rw [hD1] at i1 hE;have e:E=15:=by rw [←hE];rfl
  subst e;clear hE;refine b7_ Tryz.func56 rfl (by kernel_rfl) (by kernel_rfl) rfl fun M0 w0=>?_;simp only [Tryz.ntmps56,Tryz.results56,b1_];repeat' first|(with_reducible first|apply a8_|apply a3_|apply b2_|apply c1_|apply a1_|refine a2_ [] ?_)|((with_reducible refine a7_ ?_ ?_);(focus (go_simp;done)))|((with_reducible refine a0_ fun X Y=>?_);go_simp;(first|(with_reducible refine ⟨_,i1,?_⟩)|skip);refine Y _ ?_;clear Y X)
  go_simp
 rw [hD1] at i1 hE;cases hD2:inR tm 0 604800
 ·rw [hD2] at i2 hE;have e:E=2:=by rw [←hE];rfl
  subst e;clear hE;refine b7_ Tryz.func56 rfl (by kernel_rfl) (by kernel_rfl) rfl fun M0 w0=>?_;simp only [Tryz.ntmps56,Tryz.results56,b1_];repeat' first|(with_reducible first|apply a8_|apply a3_|apply b2_|apply c1_|apply b0_|apply a1_|refine a2_ [] ?_)|((with_reducible refine a7_ ?_ ?_);(focus (go_simp;done)))|((with_reducible refine a5_ ?_ ?_);(focus (go_simp;done)))|((with_reducible refine a0_ fun X Y=>?_);go_simp;(first|(with_reducible refine ⟨_,i1,?_⟩)|(with_reducible refine ⟨_,i2,?_⟩)|skip);refine Y _ ?_;clear Y X)
  go_simp
 rw [hD2] at i2 hE;cases hD3:inR rk 0 ((r.ranks.length:Int) - 1)
 ·rw [hD3] at i3 hE;have e:E=6:=by rw [←hE];rfl
  subst e;clear hE;refine b7_ Tryz.func56 rfl (by kernel_rfl) (by kernel_rfl) rfl fun M0 w0=>?_;simp only [Tryz.ntmps56,Tryz.results56,b1_];repeat' first|(with_reducible first|apply a8_|apply a3_|apply b2_|apply c1_|apply b0_|apply a1_|refine a2_ [] ?_)|((with_reducible refine a7_ ?_ ?_);(focus (go_simp;done)))|((with_reducible refine a5_ ?_ ?_);(focus (go_simp;done)))|((with_reducible refine a0_ fun X Y=>?_);go_simp;(first|(with_reducible refine ⟨_,i1,?_⟩)|(with_reducible refine ⟨_,i2,?_⟩)|(refine ⟨_,i3,?_⟩)|skip);refine Y _ ?_;clear Y X)
  go_simp
 rw [hD3] at i3 hE;by_cases h4:kd=4
 ·rw [decide_eq_true h4] at hE;rw [h4] at i1;by_cases hcar:car=ByteArray.empty
  ·have e:E=0:=by rw [←hE,decide_eq_true hcar];rfl
   have hcar2:car=⟨#[]⟩:=hcar;subst e;clear hE hcar;subst hcar2;refine b7_ Tryz.func56 rfl (by kernel_rfl) (by kernel_rfl) rfl fun M0 w0=>?_;simp only [Tryz.ntmps56,Tryz.results56,b1_];repeat' first|(with_reducible first|apply a8_|apply a3_|apply b2_|apply c1_|apply b0_|apply a1_|refine a2_ [] ?_)|((with_reducible refine a7_ ?_ ?_);(focus (go_simp;done)))|((with_reducible refine a5_ ?_ ?_);(focus (go_simp;done)))|((with_reducible refine a0_ fun X Y=>?_);go_simp;(first|(with_reducible refine ⟨_,i1,?_⟩)|(with_reducible refine ⟨_,i2,?_⟩)|(refine ⟨_,i3,?_⟩)|skip);refine Y _ ?_;clear Y X)
   go_simp
  ·have e:E=3:=by rw [←hE,decide_eq_false hcar];rfl
   have hcar2:¬car=⟨#[]⟩:=hcar;subst e;clear hE;refine b7_ Tryz.func56 rfl (by kernel_rfl) (by kernel_rfl) rfl fun M0 w0=>?_;simp only [Tryz.ntmps56,Tryz.results56,b1_];repeat' first|(with_reducible first|apply a8_|apply a3_|apply b2_|apply c1_|apply b0_|apply a1_|refine a2_ [] ?_)|((with_reducible refine a7_ ?_ ?_);(focus (go_simp;done)))|((with_reducible refine a5_ ?_ ?_);(focus (go_simp;done)))|((with_reducible refine a0_ fun X Y=>?_);go_simp;(first|(with_reducible refine ⟨_,i1,?_⟩)|(with_reducible refine ⟨_,i2,?_⟩)|(refine ⟨_,i3,?_⟩)|skip);refine Y _ ?_;clear Y X)
   go_simp
 ·rw [decide_eq_false h4] at hE;cases hD4:e2_ car
  ·rw [hD4] at i4 hE;have e:E=4:=by rw [←hE];rfl
   subst e;clear hE;refine b7_ Tryz.func56 rfl (by kernel_rfl) (by kernel_rfl) rfl fun M0 w0=>?_;simp only [Tryz.ntmps56,Tryz.results56,b1_];repeat' first|(with_reducible first|apply a8_|apply a3_|apply b2_|apply c1_|apply b0_|apply a1_|refine a2_ [] ?_)|((with_reducible refine a7_ ?_ ?_);(focus (go_simp;done)))|((with_reducible refine a5_ ?_ ?_);(focus (go_simp;done)))|((with_reducible refine a0_ fun X Y=>?_);go_simp;(first|(with_reducible refine ⟨_,i1,?_⟩)|(with_reducible refine ⟨_,i2,?_⟩)|(refine ⟨_,i3,?_⟩)|(with_reducible refine ⟨_,i4,?_⟩)|skip);refine Y _ ?_;clear Y X)
   go_simp
  ·rw [hD4] at i4 hE;have e:E=0:=by rw [←hE];rfl
   subst e;clear hE;refine b7_ Tryz.func56 rfl (by kernel_rfl) (by kernel_rfl) rfl fun M0 w0=>?_;simp only [Tryz.ntmps56,Tryz.results56,b1_];repeat' first|(with_reducible first|apply a8_|apply a3_|apply c1_|apply b0_|apply a1_|refine a2_ [] ?_)|((with_reducible refine a5_ ?_ ?_);(focus (go_simp;done)))|((with_reducible refine a0_ fun X Y=>?_);go_simp;(first|(with_reducible refine ⟨_,i1,?_⟩)|(with_reducible refine ⟨_,i2,?_⟩)|(refine ⟨_,i3,?_⟩)|(with_reducible refine ⟨_,i4,?_⟩)|skip);refine Y _ ?_;clear Y X)
   go_simp
def b2d (r:Ru) (k:Nat) : Bool:=decide (20 < (rat r.ranks k).name.size)
def d0i (r:Ru) : Bool:=decide (r.ranks.length≤8)&&!a4x (b2d r) 0 r.ranks.length
theorem d2j (r:Ru) (hl:r.ranks.length≤9223372036854775807) : VC Tryz.prog 19 [c5_ r] (B (d0i r)):=by
 unfold d0i;by_cases h8:r.ranks.length≤8
 ·have h8':¬(8:Int) < (r.ranks.length:Int):=by omega
  obtain ⟨R,hR⟩ : ∃ R,a4x (b2d r) 0 r.ranks.length=R:=⟨_,rfl⟩
  rw [decide_eq_true h8,hR];have HR:=Lib.hid hR;have HL:=Lib.hid h8;clear hR h8 hl;refine b7_ Tryz.func19 rfl (by kernel_rfl) (by kernel_rfl) rfl fun M0 w0=>?_;simp only [Tryz.ntmps19,Tryz.results19,b1_];repeat' first|(with_reducible first|apply a8_|apply a3_|apply b0_|apply a9_|apply a1_|refine a2_ [] ?_)|((with_reducible refine a5_ ?_ ?_);(focus (go_simp;done)))|((with_reducible refine a0_ fun X Y=>?_);go_simp;refine Y _ ?_;clear Y X)
  apply a1z [1] (fun k=>[(3,I k)]) (fun k=>([] : Hp)) (b2d r) (r.ranks.length)
  ·go_simp<;>exact rfl
  ·go_simp
  ·intro k hk HB HP K hK;have:=HL.out;obtain ⟨w1,w2,w3,w4,w5,w6⟩:=ixs (m:=k) (by omega);have hp:=HP.out;rw [b2d,decide_eq_false_iff_not] at hp;have hp2:¬(20:Int) < ((rat r.ranks k).name.size:Int):=by omega
   clear hp this;repeat' first|(with_reducible first|apply a8_|apply a3_|apply b0_|apply a9_|apply b3_|apply a1_|refine a2_ [] ?_)|((with_reducible refine a7_ ?_ ?_);(focus (go_simp;done)))|((with_reducible refine a5_ ?_ ?_);(focus (go_simp;done)))|((with_reducible refine a0_ fun X Y=>?_);go_simp;refine Y _ ?_;clear Y X)
   refine hK _ ?_;go_simp
  ·intro k hk HB HP K;have hp:=HP.out;rw [b2d,decide_eq_true_eq] at hp;have hp2:(20:Int) < ((rat r.ranks k).name.size:Int):=by omega
   have e:=HR.out;rw [m9_ hk HP.out] at e;subst e;clear hp;repeat' first|(with_reducible first|apply a8_|apply a3_|apply b2_|apply c1_|apply b0_|apply a9_|apply c0_|apply a1_|refine a2_ [] ?_)|((with_reducible refine a7_ ?_ ?_);(focus (go_simp;done)))|((with_reducible refine a0_ fun X Y=>?_);go_simp;refine Y _ ?_;clear Y X)
   go_simp
  ·intro HB K;have e:=HR.out;rw [s7_ HB.out] at e;subst e;repeat' first|(with_reducible first|apply a8_|apply a3_|apply c4_|apply c1_|apply d9_|apply b6_|apply a1_|refine a2_ [] ?_)|((with_reducible refine a5_ ?_ ?_);(focus (go_simp;done)))|((with_reducible refine a0_ fun X Y=>?_);go_simp;refine Y _ ?_;clear Y X)
   go_simp
 ·have h8':(8:Int) < (r.ranks.length:Int):=by omega
  rw [decide_eq_false h8,Bool.false_and];clear h8 hl;refine b7_ Tryz.func19 rfl (by kernel_rfl) (by kernel_rfl) rfl fun M0 w0=>?_;simp only [Tryz.ntmps19,Tryz.results19,b1_];repeat' first|(with_reducible first|apply a8_|apply a3_|apply b2_|apply c1_|apply a1_|refine a2_ [] ?_)|((with_reducible refine a7_ ?_ ?_);(focus (go_simp;done)))|((with_reducible refine a0_ fun X Y=>?_);go_simp;refine Y _ ?_;clear Y X)
  go_simp
theorem d0j {r:Ru} (h:d0i r=true) : r.ranks.length≤8∧∀ k,k < r.ranks.length→(rat r.ranks k).name.size≤1000:=by
 unfold d0i at h;rw [Bool.and_eq_true,decide_eq_true_eq,Bool.not_eq_true'] at h;refine ⟨h.1,fun k hk=>?_⟩;by_cases hb:b2d r k=true
 ·have:=m9_ hk hb;rw [h.2] at this;cases this
 ·unfold b2d at hb;have:¬20 < (rat r.ranks k).name.size:=fun hh=>hb (decide_eq_true hh);omega
def b2e (l:List Ev) (k:Nat) : Bool:=decide (20 < (c6_ l k).car.size)
def b0i (l:List Ev) : Bool:=decide (l.length≤20∨200 < l.length∧l.length≤202)&&!a4x (b2e l) 0 l.length
theorem c7o (l:List Ev) (hl:l.length≤9223372036854775807) : VC Tryz.prog 20 [q5_ l] (B (b0i l)):=by
 unfold b0i;by_cases h8:l.length≤20∨200 < l.length∧l.length≤202
 ·have hb:((20:Int) < (l.length:Int)→¬(l.length:Int)≤200)∧¬(202:Int) < (l.length:Int):=by omega
  obtain ⟨h1,h2⟩:=hb;obtain ⟨R,hR⟩ : ∃ R,a4x (b2e l) 0 l.length=R:=⟨_,rfl⟩
  rw [decide_eq_true h8,hR];have hll:l.length≤202:=by omega
  have HR:=Lib.hid hR;have HL:=Lib.hid hll;clear hR h8 hl hll;by_cases h20:(20:Int) < (l.length:Int)
  all_goals (
   first
    | (have h200:=h1 h20)
    | skip
   clear h1;refine b7_ Tryz.func20 rfl (by kernel_rfl) (by kernel_rfl) rfl fun M0 w0=>?_;simp only [Tryz.ntmps20,Tryz.results20,b1_];repeat' first|(with_reducible first|apply a8_|apply a3_|apply b0_|apply a9_|apply a1_|refine a2_ [] ?_)|((with_reducible refine a5_ ?_ ?_);(focus (go_simp;done)))|((with_reducible refine a0_ fun X Y=>?_);go_simp;refine Y _ ?_;clear Y X)
   apply a1z [0] (fun k=>[(3,I k)]) (fun k=>([] : Hp)) (b2e l) (l.length)
   ·go_simp<;>exact rfl
   ·go_simp
   ·intro k hk HB HP K hK;have:=HL.out;obtain ⟨w1,w2,w3,w4,w5,w6⟩:=ixs (m:=k) (by omega);have hp:=HP.out;rw [b2e,decide_eq_false_iff_not] at hp;have hp2:¬(20:Int) < ((c6_ l k).car.size:Int):=by omega
    clear hp this;repeat' first|(with_reducible first|apply a8_|apply a3_|apply b0_|apply a9_|apply b3_|apply a1_|refine a2_ [] ?_)|((with_reducible refine a7_ ?_ ?_);(focus (go_simp;done)))|((with_reducible refine a5_ ?_ ?_);(focus (go_simp;done)))|((with_reducible refine a0_ fun X Y=>?_);go_simp;refine Y _ ?_;clear Y X)
    refine hK _ ?_;go_simp
   ·intro k hk HB HP K;have hp:=HP.out;rw [b2e,decide_eq_true_eq] at hp;have hp2:(20:Int) < ((c6_ l k).car.size:Int):=by omega
    have e:=HR.out;rw [m9_ hk HP.out] at e;subst e;clear hp;repeat' first|(with_reducible first|apply a8_|apply a3_|apply b2_|apply c1_|apply b0_|apply a9_|apply c0_|apply a1_|refine a2_ [] ?_)|((with_reducible refine a7_ ?_ ?_);(focus (go_simp;done)))|((with_reducible refine a0_ fun X Y=>?_);go_simp;refine Y _ ?_;clear Y X)
    go_simp
   ·intro HB K;have e:=HR.out;rw [s7_ HB.out] at e;subst e;repeat' first|(with_reducible first|apply a8_|apply a3_|apply c4_|apply c1_|apply d9_|apply b6_|apply a1_|refine a2_ [] ?_)|((with_reducible refine a5_ ?_ ?_);(focus (go_simp;done)))|((with_reducible refine a0_ fun X Y=>?_);go_simp;refine Y _ ?_;clear Y X)
    go_simp)
 ·rw [decide_eq_false h8,Bool.false_and];by_cases h2:(202:Int) < (l.length:Int)
  ·have h20:(20:Int) < (l.length:Int):=by omega
   have h200:¬(l.length:Int)≤200:=by omega
   clear h8 hl;refine b7_ Tryz.func20 rfl (by kernel_rfl) (by kernel_rfl) rfl fun M0 w0=>?_;simp only [Tryz.ntmps20,Tryz.results20,b1_];repeat' first|(with_reducible first|apply a8_|apply a3_|apply b2_|apply c1_|apply a1_|refine a2_ [] ?_)|((with_reducible refine a7_ ?_ ?_);(focus (go_simp;done)))|((with_reducible refine a0_ fun X Y=>?_);go_simp;refine Y _ ?_;clear Y X)
   go_simp
  ·have h20:(20:Int) < (l.length:Int):=by omega
   have h200:(l.length:Int)≤200:=by omega
   clear h8 hl;refine b7_ Tryz.func20 rfl (by kernel_rfl) (by kernel_rfl) rfl fun M0 w0=>?_;simp only [Tryz.ntmps20,Tryz.results20,b1_];repeat' first|(with_reducible first|apply a8_|apply a3_|apply b2_|apply c1_|apply a1_|refine a2_ [] ?_)|((with_reducible refine a7_ ?_ ?_);(focus (go_simp;done)))|((with_reducible refine a0_ fun X Y=>?_);go_simp;refine Y _ ?_;clear Y X)
   go_simp
theorem c3s {l:List Ev} (h:b0i l=true) : l.length≤202∧∀ x∈l,x.car.size≤1000:=by
 unfold b0i at h;rw [Bool.and_eq_true,decide_eq_true_eq,Bool.not_eq_true'] at h;refine ⟨by omega,fun x hx=>?_⟩;obtain ⟨k,hk,rfl⟩:=List.getElem_of_mem hx;rw [←j6_ hk];by_cases hb:b2e l k=true
 ·have:=m9_ hk hb;rw [h.2] at this;cases this
 ·unfold b2e at hb;have:¬20 < (c6_ l k).car.size:=fun hh=>hb (decide_eq_true hh);omega
theorem b6b (r:Ru) (hn:r.ranks.length≤1000000) (hnm:∀ k,k < r.ranks.length→(rat r.ranks k).name.size≤1000) : VC Tryz.prog 24 [c5_ r] (I (e9_ r).2):=by
 have g:=b0g r hn hnm;generalize (e9_ r).2=E at *;generalize ((e9_ r).1:Int)=K0 at *;refine b7_ Tryz.func24 rfl (by kernel_rfl) (by kernel_rfl) rfl fun M0 w0=>?_;simp only [Tryz.ntmps24,Tryz.results24,b1_];repeat' first|(with_reducible first|apply a8_|apply a3_|apply c1_|apply a1_|refine a2_ [] ?_)|((with_reducible refine a0_ fun X Y=>?_);go_simp;(first|(refine ⟨_,g,?_⟩)|skip);refine Y _ ?_;clear Y X)
 go_simp
theorem V0.nilTk {w:World} {M:Nat→Nat→Prop} {v:Value} {q:AV} {t:Int} (hv:V0 w M (.agg [q,i0_,I t]) v) : V0 w M (.agg [q,.sl 3 [],I t]) v:=by
 cases hv with
 | agg _ us hl h1 h2=>
  refine .agg _ us hl (fun c hc=>?_) fun j c u hc hu=>?_
  ·simp only [List.mem_cons,List.not_mem_nil,or_false] at hc;rcases hc with rfl|rfl|rfl
   ·exact h1 _ (by simp)
   ·rfl
   ·rfl
  ·rcases j with _|_|_|j
   ·exact h2 0 c u hc hu
   ·simp only [List.getElem?_cons_zero,List.getElem?_cons_succ,Option.some.injEq] at hc;subst hc;exact (h2 1 _ u rfl hu).nilSl 3
   ·exact h2 2 c u hc hu
   ·simp at hc
theorem c7p (r:Ru) (hn:r.ranks.length≤1000000) : VC Tryz.prog 39 [c5_ r] (f2_ (st0 r)):=by
 refine (?_:VC Tryz.prog 39 [c5_ r] (.agg [g3_ (st0 r).q,i0_,I 0])).weak fun w M v hv=>hv.nilTk;unfold st0;simp only [g3_,a8y];have hl2:r.ranks.length≤1000000000:=by omega
 have hl3:(r.ranks.length:Int)≤1000000000:=by omega
 refine b7_ Tryz.func39 rfl (by kernel_rfl) (by kernel_rfl) rfl fun M0 w0=>?_;simp only [Tryz.ntmps39,Tryz.results39,b1_];repeat' with_reducible apply a8_
 refine a2_ [] ?_;repeat' first|(with_reducible first|apply a8_|apply a3_|apply a1_)|((with_reducible refine a0_ fun X Y=>?_);go_simp;refine Y _ ?_;clear Y X)
 refine a2_ [6] ?_;repeat ((with_reducible refine a0_ fun X Y=>?_);go_simp;refine Y _ ?_;clear Y X)
 apply a1_;apply a3_;refine r8_ (fun p a w R=>⟨_,R.toBag (id:=1) (sz:=1) rfl (by decide) (by kernel_rfl)⟩) ?_;go_simp;refine r8_ (fun p a w R=>R.bagArr (id:=1) rfl (by kernel_rfl)) ?_;go_simp;refine d2_ 0 0 1 rfl rfl rfl ?_;repeat' with_reducible apply c1_
 go_simp
end Go.Proofs.YtoibondihdhnoaaGreatDoor
