/- Texts in one: Walks: lists that are the same; of every length up to a million. -/
import Derived.Test.YtoibondihdhnoaaGreatDoorFRL44
import Derived.Test.YtoibondihdhnoaaGreatDoorFRL40
namespace Go.Proofs.YtoibondihdhnoaaGreatDoor
open Go.RowKit
set_option maxRecDepth 100000
set_option maxHeartbeats 2000000
theorem b1m (l:List Wt) (hl:l.length≤1000000) : VC Tryz.prog 43 [.sl 3 (l.map Wt.av),.sl 3 (l.map Wt.av)] (B true):=by
 refine c4_ Tryz.func43 rfl (by kernel_rfl) (by kernel_rfl) rfl fun M0 w0=>?_;simp only [Tryz.ntmps43,Tryz.results43,b4_];repeat' first|(with_reducible first|apply a8_|apply a3_|apply b1_|apply a9_|apply a1_|refine a2_ [] ?_)|((with_reducible refine a6_ ?_ ?_);(focus (go_simp;done)))|((with_reducible refine a0_ fun X Y=>?_);go_simp;refine Y _ ?_;clear Y X)
 apply x8_ [0,1] (fun k=>[(5,I k)]) (fun k=>([] : Hp)) (fun _=>false) (l.length)
 ·go_simp<;>exact rfl
 ·go_simp
 ·intro k hk HB HP K hK;obtain ⟨w1,w2,w3,w4,w5,w6⟩:=ixs (m:=k) (by omega);repeat' first|(with_reducible first|apply a8_|apply a3_|apply b1_|apply a9_|apply b5_|apply a1_|refine a2_ [] ?_|apply a5_)|((with_reducible refine a7_ ?_ ?_);(focus (go_simp;done)))|((with_reducible refine a6_ ?_ ?_);(focus (go_simp;done)))|((with_reducible first|refine a0_ fun X Y=>?_|refine a4_ fun X Y=>?_);go_simp;refine Y _ ?_;clear Y X)|((refine b7_ 9 9 [] rfl (by kernel_rfl) (by kernel_rfl) ?_);simp only [List.take,List.drop])
  refine hK _ ?_;go_simp
 ·intro k hk HB HP K;exact absurd HP.out (by simp)
 ·intro HB K;repeat' first|(with_reducible first|apply a8_|apply a3_|apply c1_|apply c2_|apply e0_|apply b6_|apply a1_|refine a2_ [] ?_)|((with_reducible refine a6_ ?_ ?_);(focus (go_simp;done)))|((with_reducible refine a0_ fun X Y=>?_);go_simp;refine Y _ ?_;clear Y X)
  go_simp
theorem b1n (l:List ByteArray) (hl:l.length≤1000000) : VCo Tryz.prog 116 [a0i l] 9 1 false (l.map r0_):=by
 refine c0o Tryz.func116 rfl (by kernel_rfl) (by kernel_rfl) rfl Tryz.results116 (by decide) (fun k x hx=>by exact TxO.map l x (List.mem_of_getElem? hx)) fun M0 w0=>?_;simp only [Tryz.ntmps116,b4_];have hl2:l.length≤1000000000:=by omega
 repeat (first|(with_reducible first|apply a8_|apply a3_|apply c2_|apply a1_|refine a2_ [3] ?_)|((with_reducible refine a0_ fun X Y=>?_);go_simp;refine Y _ ?_;clear Y X))
 exact ⟨0,rfl,rfl⟩
theorem b1o (l:List ByteArray) (hl:l.length≤1000000) : VC Tryz.prog 116 [a0i l] (a0i l):=b0b (b1n l hl)
theorem b1p (r:Ru) (hl:r.ranks.length≤1000000) : VC Tryz.prog 22 [d1_ r] (d1_ r):=by
 have hl2:r.ranks.length≤1000000000:=by omega
 refine c4_ Tryz.func22 rfl (by kernel_rfl) (by kernel_rfl) rfl fun M0 w0=>?_;simp only [Tryz.ntmps22,Tryz.results22,b4_];repeat' with_reducible apply a8_
 refine a2_ [1] ?_;repeat' first|(with_reducible first|apply a8_|apply a3_|apply a1_)|((with_reducible refine a0_ fun X Y=>?_);go_simp;refine Y _ ?_;clear Y X)
 refine a2_ [3] ?_;repeat' first|(with_reducible first|apply a8_|apply a3_|apply a1_)|((with_reducible refine a0_ fun X Y=>?_);go_simp;refine Y _ ?_;clear Y X)
 refine f8_ 0 0 2 rfl rfl rfl ?_;repeat' first|(with_reducible first|apply a3_|apply c2_|apply a1_|refine a2_ [] ?_)|((with_reducible refine a0_ fun X Y=>?_);go_simp;refine Y _ ?_;clear Y X)
 go_simp
theorem m7_ (l:List ByteArray) (s:ByteArray) (hl:l.length≤1000000) : VC Tryz.prog 70 [a0i l,S s] (B (a1p (isT l s) 0 l.length)):=by
 obtain ⟨R,hR⟩ : ∃ R,a1p (isT l s) 0 l.length=R:=⟨_,rfl⟩
 rw [hR];have HR:=Lib.hid hR;clear hR;refine c4_ Tryz.func70 rfl (by kernel_rfl) (by kernel_rfl) rfl fun M0 w0=>?_;simp only [Tryz.ntmps70,Tryz.results70,b4_];repeat' first|(with_reducible first|apply a8_|apply a3_|apply a9_|apply a1_|refine a2_ [] ?_)|((with_reducible refine a0_ fun X Y=>?_);go_simp;refine Y _ ?_;clear Y X)
 apply x8_ [0,1] (fun k=>[(5,I k)]) (fun k=>([] : Hp)) (isT l s) (l.length)
 ·go_simp<;>exact rfl
 ·go_simp
 ·intro k hk HB HP K hK;obtain ⟨w1,w2,w3,w4,w5,w6⟩:=ixs (m:=k) (by omega);have hp:¬l[k]=s:=by
   have:=HP.out;simpa [isT,d2_ hk] using this
  repeat' first|(with_reducible first|apply a8_|apply a3_|apply b1_|apply a9_|apply b5_|apply a1_|refine a2_ [] ?_)|((with_reducible refine a7_ ?_ ?_);(focus (go_simp;done)))|((with_reducible refine a6_ ?_ ?_);(focus (go_simp;done)))|((with_reducible refine a0_ fun X Y=>?_);go_simp;refine Y _ ?_;clear Y X)
  refine hK _ ?_;go_simp
 ·intro k hk HB HP K;have hp:l[k]=s:=by
   have:=HP.out;simpa [isT,d2_ hk] using this
  have e:=HR.out;rw [j4_ hk HP.out] at e;subst e;repeat' first|(with_reducible first|apply a8_|apply a3_|apply b3_|apply c2_|apply b1_|apply a9_|apply d0_|apply a1_|refine a2_ [] ?_)|((with_reducible refine a7_ ?_ ?_);(focus (go_simp;done)))|((with_reducible refine a0_ fun X Y=>?_);go_simp;refine Y _ ?_;clear Y X)
  go_simp
 ·intro HB K;have e:=HR.out;rw [l4_ HB.out] at e;subst e;repeat (first|(with_reducible first|apply a8_|apply a3_|apply c1_|apply c2_|apply e0_|apply b6_|apply a1_|refine a2_ [] ?_)|((with_reducible refine a6_ ?_ ?_);(focus (go_simp;done)))|((with_reducible refine a0_ fun X Y=>?_);go_simp;refine Y _ ?_;clear Y X))
  go_simp
def u2_:Ru:=⟨[⟨⟨#[115,116,97,110,100]⟩,2,1,false⟩,⟨⟨#[102,101,101,100,101,114]⟩,3,-1,false⟩],1,60⟩
def a0c:List Ev:=[⟨0,0,0,⟨#[97]⟩⟩,⟨0,5,0,⟨#[98]⟩⟩,⟨0,9,1,⟨#[99]⟩⟩,⟨1,20,0,⟨#[97]⟩⟩]
def b1q:St:=⟨[[⟨#[98]⟩,⟨#[99]⟩],[]],[⟨⟨#[97]⟩,0,20⟩],20⟩
theorem c7f:VC Tryz.prog 83 [] (d1_ u2_):=by
 unfold u2_;refine c4_ Tryz.func83 rfl (by kernel_rfl) (by kernel_rfl) rfl fun M0 w0=>?_;simp only [Tryz.ntmps83,Tryz.results83,b4_];repeat' first|(with_reducible first|apply a8_|apply a3_|apply c2_|apply a1_|refine a2_ [] ?_)|((with_reducible refine a0_ fun X Y=>?_);go_simp;refine Y _ ?_;clear Y X)
 go_simp
theorem b9n:VC Tryz.prog 84 [] (u4_ a0c):=by
 unfold a0c;refine c4_ Tryz.func84 rfl (by kernel_rfl) (by kernel_rfl) rfl fun M0 w0=>?_;simp only [Tryz.ntmps84,Tryz.results84,b4_];repeat' first|(with_reducible first|apply a8_|apply a3_|apply c2_|apply a1_|refine a2_ [] ?_)|((with_reducible refine a0_ fun X Y=>?_);go_simp;refine Y _ ?_;clear Y X)
 go_simp
theorem c3m:c9g u2_ a0c=(b1q,0,0):=by kernel_rfl
theorem c3n:c7d u2_ a0c=0:=by kernel_rfl
theorem b9o:b5d a0c 0 a0c=[⟨⟨#[97]⟩,0,20⟩]:=by kernel_rfl
theorem b5s:(a5u u2_ a0c).2=0∧(a5u u2_ a0c).1.length=6:=⟨by kernel_rfl,by kernel_rfl⟩
def c3o:List Sg:=[⟨0,0,⟨#[97]⟩⟩,⟨0,0,⟨#[98]⟩⟩,⟨1,0,⟨#[98]⟩⟩]
theorem c9y:ovT c3o = .agg [I 0,I 1,I 2]:=by kernel_rfl
theorem c9z:ovE c3o=0:=by kernel_rfl
def c7g:ByteArray:=⟨#[99,97,108,108,32,50,48,32,48,32,45]⟩
theorem d0a:evP (l7_ 32 c7g)=(⟨4,20,0,⟨#[]⟩⟩,0):=by kernel_rfl
theorem b9p:b8j b1q=⟨#[50,48,124,98,32,99,124,124,97,58,48,58,50,48]⟩:=by kernel_rfl
theorem a1v:SmallL u2_ a0c:=⟨by decide,fun k hk=>by
 have h2:k < 2:=hk;rcases k with _|_|k
 ·decide
 ·decide
 ·omega,fun x hx=>by
 simp only [a0c,List.mem_cons,List.not_mem_nil,or_false] at hx;rcases hx with rfl|rfl|rfl|rfl<;>decide⟩
theorem b1r:SmallS b1q:=by
 refine ⟨by decide,fun l hl=>?_,by decide,fun t ht=>?_,by unfold i64;decide⟩
 ·simp only [b1q,List.mem_cons,List.not_mem_nil,or_false] at hl;rcases hl with rfl|rfl
  ·refine ⟨by decide,fun c hc=>?_⟩;simp only [List.mem_cons,List.not_mem_nil,or_false] at hc;rcases hc with rfl|rfl<;>decide
  ·exact ⟨by decide,fun c hc=>by simp at hc⟩
 ·simp only [b1q,List.mem_cons,List.not_mem_nil,or_false] at ht;subst ht;unfold i64;decide
theorem c7h:VC Tryz.prog 18 [] (B true):=by
 have g1:=c7f;have g2:=b9n;have g3:=c2n u2_ a0c a1v;have g4:=c7e u2_ a0c a1v;have g5:=b1e c3o (by decide) (fun k hk=>by
  have h2:k < 3:=hk;rcases k with _|_|_|k
  ·decide
  ·decide
  ·decide
  ·omega)
 have g6:=a9o c7g (by decide);have g7:=a7q u2_ a0c a1v;have g8:=a7h b1q b1r;have g9:=b1m [⟨⟨#[97]⟩,0,20⟩] (by decide);obtain ⟨m1,m2⟩:=b5s;rw [c3m] at g3;rw [c3n,if_pos rfl,b9o] at g4;rw [c9y,c9z] at g5;rw [d0a] at g6;rw [m1] at g7;rw [b9p] at g8;generalize (a5u u2_ a0c).1=L at *;have m3:(L.length:Int)=6:=by omega
 clear m1 m2;generalize u2_=R0 at *;generalize hM:a0c=M at *;clear hM;generalize hS:b1q=S0 at *;clear hS;unfold c3o at g5;unfold c7g at g6;simp only [d1_,u4_,j0_,d3b,evA,List.map_cons,List.map_nil,Sg.av,Wt.av] at g1 g2 g3 g4 g5 g6 g7 g8 g9;refine c4_ Tryz.func18 rfl (by kernel_rfl) (by kernel_rfl) rfl fun M0 w0=>?_;simp only [Tryz.ntmps18,Tryz.results18,b4_];repeat' first|(with_reducible first|apply a8_|apply a3_|apply c2_|apply a1_|refine a2_ [] ?_)|((with_reducible refine a0_ fun X Y=>?_);go_simp;(first|(with_reducible refine ⟨_,g1,?_⟩)|(with_reducible refine ⟨_,g2,?_⟩)|(with_reducible refine ⟨_,g3,?_⟩)|(with_reducible refine ⟨_,g4,?_⟩)|(with_reducible refine ⟨_,g5,?_⟩)|(with_reducible refine ⟨_,g6,?_⟩)|(with_reducible refine ⟨_,g7,?_⟩)|(with_reducible refine ⟨_,g8,?_⟩)|(with_reducible refine ⟨_,g9,?_⟩)|skip);refine Y _ ?_;clear Y X)
 go_simp
theorem b9q {p:Nat→Bool} {n:Nat} (h:∀ j,j < n→p j=false) : a1p p 0 n=false:=l4_ h
theorem a3x (r:Ru) (n:Int) (hn:r.ranks.length≤1000000) : VC Tryz.prog 33 [d1_ r,I n] (B (inR n 0 ((r.ranks.length:Int) - 1))):=by
 have i1:=t5_ n 0 ((r.ranks.length:Int) - 1);have hw:IntKind.i64.wrap ((r.ranks.length:Int) - 1)=(r.ranks.length:Int) - 1:=g5_ (by omega) (by omega);generalize inR n 0 ((r.ranks.length:Int) - 1)=D at *;refine c4_ Tryz.func33 rfl (by kernel_rfl) (by kernel_rfl) rfl fun M0 w0=>?_;simp only [Tryz.ntmps33,Tryz.results33,b4_];repeat' first|(with_reducible first|apply a8_|apply a3_|apply c2_|apply a1_|refine a2_ [] ?_)|((with_reducible refine a0_ fun X Y=>?_);go_simp;(first|(with_reducible refine ⟨_,i1,?_⟩)|skip);refine Y _ ?_;clear Y X)
 go_simp
theorem a9u (r:Ru) (i:Nat) (hi:i < r.ranks.length) (hn:r.ranks.length≤1000000) (hnm:(rat r.ranks i).name.size≤1000) : VC Tryz.prog 101 [d1_ r,I (i:Int)] (I (rkE r i)):=by
 obtain ⟨E,hE⟩ : ∃ E,rkE r i=E:=⟨_,rfl⟩
 rw [hE];have i1:=x7_ (rat r.ranks i).name (by omega);have i2:=t5_ (rat r.ranks i).places 1 12;have i3:=a3x r (rat r.ranks i).feeder hn;have HE:=Lib.hid hE;clear hE hnm;obtain ⟨w1,w2,w3,w4,w5,w6⟩:=ixs (m:=i) (by omega);cases hD1:c6_ (rat r.ranks i).name
 ·have e:rkE r i=4:=by simp [rkE,fst,unl,hD1]
  rw [HE.out] at e;rw [hD1] at i1;subst e;refine c4_ Tryz.func101 rfl (by kernel_rfl) (by kernel_rfl) rfl fun M0 w0=>?_;simp only [Tryz.ntmps101,Tryz.results101,b4_];repeat' first|(with_reducible first|apply a8_|apply a3_|apply b3_|apply c2_|apply a1_|refine a2_ [] ?_)|((with_reducible refine a7_ ?_ ?_);(focus (go_simp;done)))|((with_reducible refine a0_ fun X Y=>?_);go_simp;(first|(with_reducible refine ⟨_,i1,?_⟩)|skip);refine Y _ ?_;clear Y X)
  go_simp
 rw [hD1] at i1;refine c4_ Tryz.func101 rfl (by kernel_rfl) (by kernel_rfl) rfl fun M0 w0=>?_;simp only [Tryz.ntmps101,Tryz.results101,b4_];repeat' first|(with_reducible first|apply a8_|apply a3_|apply b1_|apply a9_|apply a1_|refine a2_ [] ?_)|((with_reducible refine a6_ ?_ ?_);(focus (go_simp;done)))|((with_reducible refine a0_ fun X Y=>?_);go_simp;(first|(with_reducible refine ⟨_,i1,?_⟩)|skip);refine Y _ ?_;clear Y X)
 apply x8_ [1,2,5] (fun k=>[(6,I k)]) (fun k=>([some (.box [S (rat r.ranks i).name,I (rat r.ranks i).places,I (rat r.ranks i).feeder,B (rat r.ranks i).called])] : Hp)) (fun k=>decide ((rat r.ranks k).name=(rat r.ranks i).name)) (i)
 ·go_simp<;>exact rfl
 ·go_simp
 ·intro k hk HB HP K hK;obtain ⟨x1,x2,x3,x4,x5,x6⟩:=ixs (m:=k) (by omega);have hkn:k < r.ranks.length:=by omega
  have hp:¬(rat r.ranks k).name=(rat r.ranks i).name:=of_decide_eq_false HP.out;repeat' first|(with_reducible first|apply a8_|apply a3_|apply b1_|apply a9_|apply b5_|apply a1_|refine a2_ [] ?_|apply a5_)|((with_reducible refine a7_ ?_ ?_);(focus (go_simp;done)))|((with_reducible refine a6_ ?_ ?_);(focus (go_simp;done)))|((with_reducible first|refine a0_ fun X Y=>?_|refine a4_ fun X Y=>?_);go_simp;refine Y _ ?_;clear Y X)|((refine b7_ 9 9 [] rfl (by kernel_rfl) (by kernel_rfl) ?_);simp only [List.take,List.drop])
  refine hK _ ?_;go_simp
 ·intro k hk HB HP K;obtain ⟨x1,x2,x3,x4,x5,x6⟩:=ixs (m:=k) (by omega);have hkn:k < r.ranks.length:=by omega
  have hp:(rat r.ranks k).name=(rat r.ranks i).name:=of_decide_eq_true HP.out;have hA:v1_ r i=true:=j4_ hk HP.out;have e:rkE r i=5:=by simp [rkE,fst,unl,hD1,hA]
  rw [HE.out] at e;subst e;repeat' first|(with_reducible first|apply a8_|apply a3_|apply b3_|apply c2_|apply b1_|apply a9_|apply d0_|apply a1_|refine a2_ [] ?_|apply a5_)|((with_reducible refine a7_ ?_ ?_);(focus (go_simp;done)))|((with_reducible first|refine a0_ fun X Y=>?_|refine a4_ fun X Y=>?_);go_simp;refine Y _ ?_;clear Y X)|((refine b7_ 9 9 [] rfl (by kernel_rfl) (by kernel_rfl) ?_);simp only [List.take,List.drop])
  go_simp
 ·intro HB K;have hA:v1_ r i=false:=l4_ HB.out;cases hD2:inR (rat r.ranks i).places 1 12
  ·have e:rkE r i=2:=by simp [rkE,fst,unl,hD1,hA,hD2]
   rw [HE.out] at e;rw [hD2] at i2;subst e;repeat' first|(with_reducible first|apply a8_|apply a3_|apply c1_|apply b3_|apply c2_|apply e0_|apply b6_|apply a1_|refine a2_ [] ?_)|((with_reducible refine a7_ ?_ ?_);(focus (go_simp;done)))|((with_reducible refine a6_ ?_ ?_);(focus (go_simp;done)))|((with_reducible refine a0_ fun X Y=>?_);go_simp;(first|(with_reducible refine ⟨_,i2,?_⟩)|skip);refine Y _ ?_;clear Y X)
   go_simp
  rw [hD2] at i2;by_cases hF:(rat r.ranks i).feeder = -1
  ·have hfb:g9_ r i=false:=by simp [g9_,hF]
   cases hC:(rat r.ranks i).called
   ·have e:rkE r i=0:=by simp [rkE,fst,unl,hD1,hA,hD2,hfb,hC]
    rw [HE.out] at e;subst e;repeat' first|(with_reducible first|apply a8_|apply a3_|apply c1_|apply b3_|apply c2_|apply b1_|apply e0_|apply b6_|apply a1_|refine a2_ [] ?_)|((with_reducible refine a7_ ?_ ?_);(focus (go_simp;done)))|((with_reducible refine a6_ ?_ ?_);(focus (go_simp;done)))|((with_reducible refine a0_ fun X Y=>?_);go_simp;(first|(with_reducible refine ⟨_,i2,?_⟩)|skip);refine Y _ ?_;clear Y X)
    go_simp
   ·have e:rkE r i=3:=by simp [rkE,fst,unl,hD1,hA,hD2,hfb,hC]
    rw [HE.out] at e;subst e;repeat' first|(with_reducible first|apply a8_|apply a3_|apply c1_|apply b3_|apply c2_|apply b1_|apply e0_|apply b6_|apply a1_|refine a2_ [] ?_)|((with_reducible refine a7_ ?_ ?_);(focus (go_simp;done)))|((with_reducible refine a6_ ?_ ?_);(focus (go_simp;done)))|((with_reducible refine a0_ fun X Y=>?_);go_simp;(first|(with_reducible refine ⟨_,i2,?_⟩)|skip);refine Y _ ?_;clear Y X)
    go_simp
  have hfb:g9_ r i=true:=by simp [g9_,hF]
  cases hD3:inR (rat r.ranks i).feeder 0 ((r.ranks.length:Int) - 1)
  ·have e:rkE r i=6:=by simp [rkE,fst,unl,hD1,hA,hD2,hfb,hD3]
   rw [HE.out] at e;rw [hD3] at i3;subst e;repeat' first|(with_reducible first|apply a8_|apply a3_|apply c1_|apply b3_|apply c2_|apply b1_|apply e0_|apply b6_|apply a1_|refine a2_ [] ?_)|((with_reducible refine a7_ ?_ ?_);(focus (go_simp;done)))|((with_reducible refine a6_ ?_ ?_);(focus (go_simp;done)))|((with_reducible refine a0_ fun X Y=>?_);go_simp;(first|(with_reducible refine ⟨_,i2,?_⟩)|(refine ⟨_,i3,?_⟩)|skip);refine Y _ ?_;clear Y X)
   go_simp
  rw [hD3] at i3;by_cases hO:(i:Int) < (rat r.ranks i).feeder
  ·have hO2:¬(rat r.ranks i).feeder≤(i:Int):=by omega
   repeat' first|(with_reducible first|apply a8_|apply a3_|apply c1_|apply b1_|apply e0_|apply a9_|apply b6_|apply a1_|refine a2_ [] ?_)|((with_reducible refine a6_ ?_ ?_);(focus (go_simp;done)))|((with_reducible refine a0_ fun X Y=>?_);go_simp;(first|(with_reducible refine ⟨_,i2,?_⟩)|(refine ⟨_,i3,?_⟩)|skip);refine Y _ ?_;clear Y X)
   apply x8_ [1,2,5] (fun k=>[(7,I k)]) (fun k=>([some (.box [S (rat r.ranks i).name,I (rat r.ranks i).places,I (rat r.ranks i).feeder,B (rat r.ranks i).called])] : Hp)) (fun k=>decide ((rat r.ranks k).feeder=(rat r.ranks i).feeder)) (i)
   ·go_simp<;>exact rfl
   ·go_simp
   ·intro k hk HB HP K hK;obtain ⟨x1,x2,x3,x4,x5,x6⟩:=ixs (m:=k) (by omega);have hkn:k < r.ranks.length:=by omega
    have hp:¬(rat r.ranks k).feeder=(rat r.ranks i).feeder:=of_decide_eq_false HP.out;repeat' first|(with_reducible first|apply a8_|apply a3_|apply b1_|apply a9_|apply b5_|apply a1_|refine a2_ [] ?_|apply a5_)|((with_reducible refine a7_ ?_ ?_);(focus (go_simp;done)))|((with_reducible refine a6_ ?_ ?_);(focus (go_simp;done)))|((with_reducible first|refine a0_ fun X Y=>?_|refine a4_ fun X Y=>?_);go_simp;refine Y _ ?_;clear Y X)|((refine b7_ 9 9 [] rfl (by kernel_rfl) (by kernel_rfl) ?_);simp only [List.take,List.drop])
    refine hK _ ?_;go_simp
   ·intro k hk HB HP K;obtain ⟨x1,x2,x3,x4,x5,x6⟩:=ixs (m:=k) (by omega);have hkn:k < r.ranks.length:=by omega
    have hp:(rat r.ranks k).feeder=(rat r.ranks i).feeder:=of_decide_eq_true HP.out;have hB:r8_ r i=true:=j4_ hk HP.out;have e:rkE r i=26:=by simp [rkE,fst,unl,hD1,hA,hD2,hfb,hD3,hO,hB]
    rw [HE.out] at e;subst e;repeat' first|(with_reducible first|apply a8_|apply a3_|apply b3_|apply c2_|apply b1_|apply a9_|apply d0_|apply a1_|refine a2_ [] ?_|apply a5_)|((with_reducible refine a7_ ?_ ?_);(focus (go_simp;done)))|((with_reducible first|refine a0_ fun X Y=>?_|refine a4_ fun X Y=>?_);go_simp;refine Y _ ?_;clear Y X)|((refine b7_ 9 9 [] rfl (by kernel_rfl) (by kernel_rfl) ?_);simp only [List.take,List.drop])
    go_simp
   ·intro HB K;have hB:r8_ r i=false:=l4_ HB.out;have e:rkE r i=0:=by simp [rkE,fst,unl,hD1,hA,hD2,hfb,hD3,hO,hB]
    rw [HE.out] at e;subst e;repeat' first|(with_reducible first|apply a8_|apply a3_|apply c1_|apply c2_|apply e0_|apply b6_|apply a1_|refine a2_ [] ?_)|((with_reducible refine a6_ ?_ ?_);(focus (go_simp;done)))|((with_reducible refine a0_ fun X Y=>?_);go_simp;refine Y _ ?_;clear Y X)
    go_simp
  ·have hO2:(rat r.ranks i).feeder≤(i:Int):=by omega
   have e:rkE r i=9:=by simp [rkE,fst,unl,hD1,hA,hD2,hfb,hD3,hO]
   rw [HE.out] at e;subst e;repeat' first|(with_reducible first|apply a8_|apply a3_|apply c1_|apply b3_|apply c2_|apply b1_|apply e0_|apply b6_|apply a1_|refine a2_ [] ?_)|((with_reducible refine a7_ ?_ ?_);(focus (go_simp;done)))|((with_reducible refine a6_ ?_ ?_);(focus (go_simp;done)))|((with_reducible refine a0_ fun X Y=>?_);go_simp;(first|(with_reducible refine ⟨_,i2,?_⟩)|(refine ⟨_,i3,?_⟩)|skip);refine Y _ ?_;clear Y X)
   go_simp
theorem a9v (r:Ru) (hn:r.ranks.length≤1000000) (hnm:∀ k,k < r.ranks.length→(rat r.ranks k).name.size≤1000) : VC Tryz.prog 38 [d1_ r] (.tup [I ((d4_ r).1:Int),I (d4_ r).2]):=by
 unfold d4_;by_cases h0:r.ranks.length=0
 ·rw [if_pos h0];have h0':(r.ranks.length:Int)=0:=by omega
  refine c4_ Tryz.func38 rfl (by kernel_rfl) (by kernel_rfl) rfl fun M0 w0=>?_;simp only [Tryz.ntmps38,Tryz.results38,b4_];repeat' first|(with_reducible first|apply a8_|apply a3_|apply b3_|apply c2_|apply a1_|refine a2_ [] ?_)|((with_reducible refine a7_ ?_ ?_);(focus (go_simp;done)))|((with_reducible refine a0_ fun X Y=>?_);go_simp;refine Y _ ?_;clear Y X)
  go_simp
 rw [if_neg h0];have h0':¬r.ranks=[]:=fun h=>h0 (by rw [h];rfl);by_cases h6:6 < r.ranks.length
 ·rw [if_pos h6];have h6':(6:Int) < (r.ranks.length:Int):=by omega
  refine c4_ Tryz.func38 rfl (by kernel_rfl) (by kernel_rfl) rfl fun M0 w0=>?_;simp only [Tryz.ntmps38,Tryz.results38,b4_];repeat' first|(with_reducible first|apply a8_|apply a3_|apply b3_|apply c2_|apply b1_|apply a1_|refine a2_ [] ?_)|((with_reducible refine a7_ ?_ ?_);(focus (go_simp;done)))|((with_reducible refine a6_ ?_ ?_);(focus (go_simp;done)))|((with_reducible refine a0_ fun X Y=>?_);go_simp;refine Y _ ?_;clear Y X)
  go_simp
 rw [if_neg h6];have h6':¬(6:Int) < (r.ranks.length:Int):=by omega
 obtain ⟨R,hR⟩ : ∃ R,(if (h1_ (rkE r) 0 r.ranks.length).2≠0 then h1_ (rkE r) 0 r.ranks.length else (0,c6e r))=R:=⟨_,rfl⟩
 rw [hR];have HR:=Lib.hid hR;have HM:=Lib.hid hnm;have i1:=t5_ r.back 0 12;have i2:=t5_ r.ret 0 3600;clear hR hnm h0 h6;refine c4_ Tryz.func38 rfl (by kernel_rfl) (by kernel_rfl) rfl fun M0 w0=>?_;simp only [Tryz.ntmps38,Tryz.results38,b4_];repeat' first|(with_reducible first|apply a8_|apply a3_|apply b1_|apply a9_|apply a1_|refine a2_ [] ?_)|((with_reducible refine a6_ ?_ ?_);(focus (go_simp;done)))|((with_reducible refine a0_ fun X Y=>?_);go_simp;refine Y _ ?_;clear Y X)
 apply x8_ [1] (fun k=>[(4,I k)]) (fun k=>([] : Hp)) (fun k=>!decide (rkE r k=0)) (r.ranks.length)
 ·go_simp<;>exact rfl
 ·go_simp
 ·intro k hk HB HP K hK;obtain ⟨x1,x2,x3,x4,x5,x6⟩:=ixs (m:=k) (by omega);have g:=a9u r k hk hn (HM.out k hk);have he:rkE r k=0:=by simpa using HP.out
  rw [he] at g;clear he;repeat' first|(with_reducible first|apply a8_|apply a3_|apply b1_|apply a9_|apply b5_|apply a1_|refine a2_ [] ?_)|((with_reducible refine a7_ ?_ ?_);(focus (go_simp;done)))|((with_reducible refine a6_ ?_ ?_);(focus (go_simp;done)))|((with_reducible refine a0_ fun X Y=>?_);go_simp;(first|(refine ⟨_,g,?_⟩)|skip);refine Y _ ?_;clear Y X)
  refine hK _ ?_;go_simp
 ·intro k hk HB HP K;obtain ⟨x1,x2,x3,x4,x5,x6⟩:=ixs (m:=k) (by omega);have g:=a9u r k hk hn (HM.out k hk);have he:¬rkE r k=0:=by simpa using HP.out
  have e:=HR.out;rw [v2_ hk HB.out HP.out,if_pos he] at e;subst e;generalize rkE r k=E at *;repeat' first|(with_reducible first|apply a8_|apply a3_|apply b3_|apply c2_|apply b1_|apply a9_|apply d0_|apply a1_|refine a2_ [] ?_)|((with_reducible refine a7_ ?_ ?_);(focus (go_simp;done)))|((with_reducible refine a0_ fun X Y=>?_);go_simp;(first|(refine ⟨_,g,?_⟩)|skip);refine Y _ ?_;clear Y X)
  go_simp
 ·intro HB K;have e:=HR.out;rw [p9_ _ _ (fun j hj=>HB.out j (by omega)),if_neg (by simp)] at e;subst e;unfold c6e;by_cases hb:r.back = -1
  ·cases hD2:inR r.ret 0 3600
   ·rw [hD2] at i2;have e2:unl ((decide (r.back = -1) || inR r.back 0 12)&&false) 2=2:=by simp [unl]
    rw [e2];repeat' first|(with_reducible first|apply a8_|apply a3_|apply c1_|apply b3_|apply c2_|apply e0_|apply b6_|apply a1_|refine a2_ [] ?_)|((with_reducible refine a7_ ?_ ?_);(focus (go_simp;done)))|((with_reducible refine a6_ ?_ ?_);(focus (go_simp;done)))|((with_reducible refine a0_ fun X Y=>?_);go_simp;(first|(with_reducible refine ⟨_,i2,?_⟩)|skip);refine Y _ ?_;clear Y X)
    go_simp
   ·rw [hD2] at i2;have e2:unl ((decide (r.back = -1) || inR r.back 0 12)&&true) 2=0:=by simp [unl,hb]
    rw [e2];repeat' first|(with_reducible first|apply a8_|apply a3_|apply c1_|apply c2_|apply b1_|apply e0_|apply b6_|apply a1_|refine a2_ [] ?_)|((with_reducible refine a6_ ?_ ?_);(focus (go_simp;done)))|((with_reducible refine a0_ fun X Y=>?_);go_simp;(first|(with_reducible refine ⟨_,i2,?_⟩)|skip);refine Y _ ?_;clear Y X)
    go_simp
  ·cases hD1:inR r.back 0 12
   ·rw [hD1] at i1;have e2:unl ((decide (r.back = -1) || false)&&inR r.ret 0 3600) 2=2:=by simp [unl,hb]
    rw [e2];repeat' first|(with_reducible first|apply a8_|apply a3_|apply c1_|apply b3_|apply c2_|apply e0_|apply b6_|apply a1_|refine a2_ [] ?_)|((with_reducible refine a7_ ?_ ?_);(focus (go_simp;done)))|((with_reducible refine a6_ ?_ ?_);(focus (go_simp;done)))|((with_reducible refine a0_ fun X Y=>?_);go_simp;(first|(with_reducible refine ⟨_,i1,?_⟩)|skip);refine Y _ ?_;clear Y X)
    go_simp
   ·rw [hD1] at i1;cases hD2:inR r.ret 0 3600
    ·rw [hD2] at i2;have e2:unl ((decide (r.back = -1) || true)&&false) 2=2:=by simp [unl]
     rw [e2];repeat' first|(with_reducible first|apply a8_|apply a3_|apply c1_|apply b3_|apply c2_|apply e0_|apply b6_|apply a1_|refine a2_ [] ?_)|((with_reducible refine a7_ ?_ ?_);(focus (go_simp;done)))|((with_reducible refine a6_ ?_ ?_);(focus (go_simp;done)))|((with_reducible refine a0_ fun X Y=>?_);go_simp;(first|(with_reducible refine ⟨_,i1,?_⟩)|(with_reducible refine ⟨_,i2,?_⟩)|skip);refine Y _ ?_;clear Y X)
     go_simp
    ·rw [hD2] at i2;have e2:unl ((decide (r.back = -1) || true)&&true) 2=0:=by simp [unl]
     rw [e2];repeat' first|(with_reducible first|apply a8_|apply a3_|apply c1_|apply c2_|apply b1_|apply e0_|apply b6_|apply a1_|refine a2_ [] ?_)|((with_reducible refine a6_ ?_ ?_);(focus (go_simp;done)))|((with_reducible refine a0_ fun X Y=>?_);go_simp;(first|(with_reducible refine ⟨_,i1,?_⟩)|(with_reducible refine ⟨_,i2,?_⟩)|skip);refine Y _ ?_;clear Y X)
     go_simp
theorem c7i (r:Ru) (s:St) (hl:r.ranks.length≤1000000) (hr:r.ranks.length=s.q.length) (hf:z2_ r s.q.length) : VC Tryz.prog 118 [d1_ r,p2_ s.q] (I (i7_ r s)):=by
 obtain ⟨R,hR⟩ : ∃ R,i7_ r s=R:=⟨_,rfl⟩
 rw [hR];unfold i7_ at hR;have HR:=Lib.hid hR;have HF:=Lib.hid hf;clear hR hf;refine c4_ Tryz.func118 rfl (by kernel_rfl) (by kernel_rfl) rfl fun M0 w0=>?_;simp only [Tryz.ntmps118,Tryz.results118,b4_];repeat' first|(with_reducible first|apply a8_|apply a3_|apply a9_|apply a1_|refine a2_ [] ?_)|((with_reducible refine a0_ fun X Y=>?_);go_simp;refine Y _ ?_;clear Y X)
 apply x8_ [1,2] (fun k=>[(5,I k)]) (fun k=>([] : Hp)) (w4_ r s) (r.ranks.length)
 ·go_simp<;>exact rfl
 ·go_simp
 ·intro k hk HB HP K hK;obtain ⟨w1,w2,w3,w4,w5,w6⟩:=ixs (m:=k) (by omega);have hk2:k < s.q.length:=by omega
  have hp:=HP.out;unfold w4_ e9_ at hp;by_cases h1:(rat r.ranks k).feeder = -1
  ·clear hp;repeat' first|(with_reducible first|apply a8_|apply a3_|apply b1_|apply a9_|apply b5_|apply a1_|refine a2_ [] ?_|apply a5_)|((with_reducible refine a7_ ?_ ?_);(focus (go_simp;done)))|((with_reducible refine a6_ ?_ ?_);(focus (go_simp;done)))|((with_reducible first|refine a0_ fun X Y=>?_|refine a4_ fun X Y=>?_);go_simp;refine Y _ ?_;clear Y X)|((refine b7_ 27 27 [] rfl (by kernel_rfl) (by kernel_rfl) ?_);simp only [List.take,List.drop])
   refine hK _ ?_;go_simp
  obtain ⟨f0,fl⟩:=HF.out k hk2 h1;obtain ⟨f,hf⟩ : ∃ f:Nat,(rat r.ranks k).feeder=f:=⟨(rat r.ranks k).feeder.toNat,by omega⟩
  rw [hf] at fl h1 hp;simp only [Int.toNat_natCast] at fl hp;clear f0;cases h2:(rat r.ranks k).called
  ·rw [decide_eq_true h1,h2] at hp;simp only [Bool.not_false,Bool.true_and] at hp;by_cases h3:((qat s.q k).length:Int) < (rat r.ranks k).places
   ·rw [decide_eq_true h3,Bool.true_and,decide_eq_false_iff_not] at hp;have h4:qat s.q f=[]:=List.eq_nil_of_length_eq_zero (by omega);clear hp;repeat' first|(with_reducible first|apply a8_|apply a3_|apply b1_|apply a9_|apply b5_|apply a1_|refine a2_ [] ?_|apply a5_)|((with_reducible refine a7_ ?_ ?_);(focus (go_simp;done)))|((with_reducible refine a6_ ?_ ?_);(focus (go_simp;done)))|((with_reducible first|refine a0_ fun X Y=>?_|refine a4_ fun X Y=>?_);go_simp;refine Y _ ?_;clear Y X)|((refine b7_ 27 27 [] rfl (by kernel_rfl) (by kernel_rfl) ?_);simp only [List.take,List.drop])
    refine hK _ ?_;go_simp
   ·clear hp;repeat' first|(with_reducible first|apply a8_|apply a3_|apply b1_|apply a9_|apply b5_|apply a1_|refine a2_ [] ?_|apply a5_)|((with_reducible refine a7_ ?_ ?_);(focus (go_simp;done)))|((with_reducible refine a6_ ?_ ?_);(focus (go_simp;done)))|((with_reducible first|refine a0_ fun X Y=>?_|refine a4_ fun X Y=>?_);go_simp;refine Y _ ?_;clear Y X)|((refine b7_ 27 27 [] rfl (by kernel_rfl) (by kernel_rfl) ?_);simp only [List.take,List.drop])
    refine hK _ ?_;go_simp
  ·clear hp;repeat' first|(with_reducible first|apply a8_|apply a3_|apply b1_|apply a9_|apply b5_|apply a1_|refine a2_ [] ?_|apply a5_)|((with_reducible refine a7_ ?_ ?_);(focus (go_simp;done)))|((with_reducible refine a6_ ?_ ?_);(focus (go_simp;done)))|((with_reducible first|refine a0_ fun X Y=>?_|refine a4_ fun X Y=>?_);go_simp;refine Y _ ?_;clear Y X)|((refine b7_ 27 27 [] rfl (by kernel_rfl) (by kernel_rfl) ?_);simp only [List.take,List.drop])
   refine hK _ ?_;go_simp
 ·intro k hk HB HP K;have hk2:k < s.q.length:=by omega
  have e:=HR.out;rw [n4_ hk HB.out HP.out] at e;subst e;have hp:=HP.out;unfold w4_ e9_ at hp;simp only [Bool.and_eq_true,decide_eq_true_eq,Bool.not_eq_true'] at hp;obtain ⟨⟨⟨h1,h2⟩,h3⟩,h4⟩:=hp;obtain ⟨f0,fl⟩:=HF.out k hk2 h1;obtain ⟨f,hf⟩ : ∃ f:Nat,(rat r.ranks k).feeder=f:=⟨(rat r.ranks k).feeder.toNat,by omega⟩
  rw [hf] at fl h1 h4;simp only [Int.toNat_natCast] at fl h4;have h5:¬qat s.q f=[]:=fun h=>by rw [h] at h4;simp at h4
  clear f0;repeat' first|(with_reducible first|apply a8_|apply a3_|apply b3_|apply c2_|apply b1_|apply a9_|apply d0_|apply a1_|refine a2_ [] ?_|apply a5_)|((with_reducible refine a7_ ?_ ?_);(focus (go_simp;done)))|((with_reducible first|refine a0_ fun X Y=>?_|refine a4_ fun X Y=>?_);go_simp;refine Y _ ?_;clear Y X)|((refine b7_ 27 27 [] rfl (by kernel_rfl) (by kernel_rfl) ?_);simp only [List.take,List.drop])
  go_simp
 ·intro HB K;have e:=HR.out;rw [p3_ HB.out] at e;subst e;repeat' first|(with_reducible first|apply a8_|apply a3_|apply c1_|apply c2_|apply e0_|apply b6_|apply a1_|refine a2_ [] ?_)|((with_reducible refine a6_ ?_ ?_);(focus (go_simp;done)))|((with_reducible refine a0_ fun X Y=>?_);go_simp;refine Y _ ?_;clear Y X)
  go_simp
end Go.Proofs.YtoibondihdhnoaaGreatDoor
