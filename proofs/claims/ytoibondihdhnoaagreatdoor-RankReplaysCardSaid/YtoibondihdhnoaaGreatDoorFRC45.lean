/- Texts in one: Walks: lists that are the same; of every length up to a million. -/
import Derived.Test.YtoibondihdhnoaaGreatDoorFRC44
import Derived.Test.YtoibondihdhnoaaGreatDoorFRC40
namespace Go.Proofs.YtoibondihdhnoaaGreatDoor
open Go.RowKit
set_option maxRecDepth 100000
set_option maxHeartbeats 2000000
theorem b1m (l:List Wt) (hl:l.length≤1000000) : VC Tryz.prog 43 [.sl 3 (l.map Wt.av),.sl 3 (l.map Wt.av)] (B true):=by
 refine b7_ Tryz.func43 rfl (by kernel_rfl) (by kernel_rfl) rfl fun M0 w0=>?_;simp only [Tryz.ntmps43,Tryz.results43,b1_];repeat' first|(with_reducible first|apply a8_|apply a3_|apply b0_|apply a9_|apply a1_|refine a2_ [] ?_)|((with_reducible refine a5_ ?_ ?_);(focus (go_simp;done)))|((with_reducible refine a0_ fun X Y=>?_);go_simp;refine Y _ ?_;clear Y X)
 apply a0r [0,1] (fun k=>[(5,I k)]) (fun k=>([] : Hp)) (fun _=>false) (l.length)
 ·go_simp<;>exact rfl
 ·go_simp
 ·intro k hk HB HP K hK;obtain ⟨w1,w2,w3,w4,w5,w6⟩:=ixs (m:=k) (by omega);repeat' first|(with_reducible first|apply a8_|apply a3_|apply b0_|apply a9_|apply b2_|apply a1_|refine a2_ [] ?_|apply a6_)|((with_reducible refine a7_ ?_ ?_);(focus (go_simp;done)))|((with_reducible refine a5_ ?_ ?_);(focus (go_simp;done)))|((with_reducible first|refine a0_ fun X Y=>?_|refine a4_ fun X Y=>?_);go_simp;refine Y _ ?_;clear Y X)|((refine b5_ 9 9 [] rfl (by kernel_rfl) (by kernel_rfl) ?_);simp only [List.take,List.drop])
  refine hK _ ?_;go_simp
 ·intro k hk HB HP K;exact absurd HP.out (by simp)
 ·intro HB K;repeat' first|(with_reducible first|apply a8_|apply a3_|apply c3_|apply c2_|apply e1_|apply b6_|apply a1_|refine a2_ [] ?_)|((with_reducible refine a5_ ?_ ?_);(focus (go_simp;done)))|((with_reducible refine a0_ fun X Y=>?_);go_simp;refine Y _ ?_;clear Y X)
  go_simp
theorem b8u (l:List Ev) (hl:l.length≤1000000) : VCo Tryz.prog 23 [r3_ l] 58 4 false (l.map Ev.av):=by
 refine b0e Tryz.func23 rfl (by kernel_rfl) (by kernel_rfl) rfl Tryz.results23 (by decide) (fun k x hx=>by obtain ⟨y,hy,rfl⟩:=f4_ hx;exact ⟨rfl,by simp [Ev.av,f5_,Value.oneCell']⟩) fun M0 w0=>?_;simp only [Tryz.ntmps23,b1_];have hl2:l.length≤1000000000:=by omega
 repeat (first|(with_reducible first|apply a8_|apply a3_|apply c2_|apply a1_|refine a2_ [3] ?_)|((with_reducible refine a0_ fun X Y=>?_);go_simp;refine Y _ ?_;clear Y X))
 exact ⟨0,rfl,rfl⟩
theorem u8_ (l:List ByteArray) (hl:l.length≤1000000) : VCo Tryz.prog 116 [t9_ l] 9 1 false (l.map j6_):=by
 refine b0e Tryz.func116 rfl (by kernel_rfl) (by kernel_rfl) rfl Tryz.results116 (by decide) (fun k x hx=>by exact TxO.map l x (List.mem_of_getElem? hx)) fun M0 w0=>?_;simp only [Tryz.ntmps116,b1_];have hl2:l.length≤1000000000:=by omega
 repeat (first|(with_reducible first|apply a8_|apply a3_|apply c2_|apply a1_|refine a2_ [3] ?_)|((with_reducible refine a0_ fun X Y=>?_);go_simp;refine Y _ ?_;clear Y X))
 exact ⟨0,rfl,rfl⟩
theorem b8v (l:List Ev) (hl:l.length≤1000000) : VC Tryz.prog 23 [r3_ l] (r3_ l):=a1n (b8u l hl)
theorem a4a (l:List ByteArray) (hl:l.length≤1000000) : VC Tryz.prog 116 [t9_ l] (t9_ l):=a1n (u8_ l hl)
theorem b1n (r:Ru) (hl:r.ranks.length≤1000000) : VC Tryz.prog 22 [c4_ r] (c4_ r):=by
 have hl2:r.ranks.length≤1000000000:=by omega
 refine b7_ Tryz.func22 rfl (by kernel_rfl) (by kernel_rfl) rfl fun M0 w0=>?_;simp only [Tryz.ntmps22,Tryz.results22,b1_];repeat' with_reducible apply a8_
 refine a2_ [1] ?_;repeat' first|(with_reducible first|apply a8_|apply a3_|apply a1_)|((with_reducible refine a0_ fun X Y=>?_);go_simp;refine Y _ ?_;clear Y X)
 refine a2_ [3] ?_;repeat' first|(with_reducible first|apply a8_|apply a3_|apply a1_)|((with_reducible refine a0_ fun X Y=>?_);go_simp;refine Y _ ?_;clear Y X)
 refine d2_ 0 0 2 rfl rfl rfl ?_;repeat' first|(with_reducible first|apply a3_|apply c2_|apply a1_|refine a2_ [] ?_)|((with_reducible refine a0_ fun X Y=>?_);go_simp;refine Y _ ?_;clear Y X)
 go_simp
theorem b8w (l:List ByteArray) (s:ByteArray) (hl:l.length≤1000000) : VC Tryz.prog 70 [t9_ l,S s] (B (a4z (isT l s) 0 l.length)):=by
 obtain ⟨R,hR⟩ : ∃ R,a4z (isT l s) 0 l.length=R:=⟨_,rfl⟩
 rw [hR];have HR:=Lib.hid hR;clear hR;refine b7_ Tryz.func70 rfl (by kernel_rfl) (by kernel_rfl) rfl fun M0 w0=>?_;simp only [Tryz.ntmps70,Tryz.results70,b1_];repeat' first|(with_reducible first|apply a8_|apply a3_|apply a9_|apply a1_|refine a2_ [] ?_)|((with_reducible refine a0_ fun X Y=>?_);go_simp;refine Y _ ?_;clear Y X)
 apply a0r [0,1] (fun k=>[(5,I k)]) (fun k=>([] : Hp)) (isT l s) (l.length)
 ·go_simp<;>exact rfl
 ·go_simp
 ·intro k hk HB HP K hK;obtain ⟨w1,w2,w3,w4,w5,w6⟩:=ixs (m:=k) (by omega);have hp:¬l[k]=s:=by
   have:=HP.out;simpa [isT,i0_ hk] using this
  repeat' first|(with_reducible first|apply a8_|apply a3_|apply b0_|apply a9_|apply b2_|apply a1_|refine a2_ [] ?_)|((with_reducible refine a7_ ?_ ?_);(focus (go_simp;done)))|((with_reducible refine a5_ ?_ ?_);(focus (go_simp;done)))|((with_reducible refine a0_ fun X Y=>?_);go_simp;refine Y _ ?_;clear Y X)
  refine hK _ ?_;go_simp
 ·intro k hk HB HP K;have hp:l[k]=s:=by
   have:=HP.out;simpa [isT,i0_ hk] using this
  have e:=HR.out;rw [p8_ hk HP.out] at e;subst e;repeat' first|(with_reducible first|apply a8_|apply a3_|apply b4_|apply c2_|apply b0_|apply a9_|apply c5_|apply a1_|refine a2_ [] ?_)|((with_reducible refine a7_ ?_ ?_);(focus (go_simp;done)))|((with_reducible refine a0_ fun X Y=>?_);go_simp;refine Y _ ?_;clear Y X)
  go_simp
 ·intro HB K;have e:=HR.out;rw [v5_ HB.out] at e;subst e;repeat (first|(with_reducible first|apply a8_|apply a3_|apply c3_|apply c2_|apply e1_|apply b6_|apply a1_|refine a2_ [] ?_)|((with_reducible refine a5_ ?_ ?_);(focus (go_simp;done)))|((with_reducible refine a0_ fun X Y=>?_);go_simp;refine Y _ ?_;clear Y X))
  go_simp
theorem c6o (l:List ByteArray) (hl:l.length≤1000000) : VC Tryz.prog 78 [t9_ l,t9_ l] (B true):=by
 refine b7_ Tryz.func78 rfl (by kernel_rfl) (by kernel_rfl) rfl fun M0 w0=>?_;simp only [Tryz.ntmps78,Tryz.results78,b1_];repeat' first|(with_reducible first|apply a8_|apply a3_|apply b0_|apply a9_|apply a1_|refine a2_ [] ?_)|((with_reducible refine a5_ ?_ ?_);(focus (go_simp;done)))|((with_reducible refine a0_ fun X Y=>?_);go_simp;refine Y _ ?_;clear Y X)
 apply a0r [0,1] (fun k=>[(5,I k)]) (fun k=>([] : Hp)) (fun _=>false) (l.length)
 ·go_simp<;>exact rfl
 ·go_simp
 ·intro k hk HB HP K hK;obtain ⟨w1,w2,w3,w4,w5,w6⟩:=ixs (m:=k) (by omega);repeat' first|(with_reducible first|apply a8_|apply a3_|apply b0_|apply a9_|apply b2_|apply a1_|refine a2_ [] ?_|apply a6_)|((with_reducible refine a7_ ?_ ?_);(focus (go_simp;done)))|((with_reducible refine a5_ ?_ ?_);(focus (go_simp;done)))|((with_reducible first|refine a0_ fun X Y=>?_|refine a4_ fun X Y=>?_);go_simp;refine Y _ ?_;clear Y X)|((refine b5_ 9 9 [] rfl (by kernel_rfl) (by kernel_rfl) ?_);simp only [List.take,List.drop])
  refine hK _ ?_;go_simp
 ·intro k hk HB HP K;exact absurd HP.out (by simp)
 ·intro HB K;repeat' first|(with_reducible first|apply a8_|apply a3_|apply c3_|apply c2_|apply e1_|apply b6_|apply a1_|refine a2_ [] ?_)|((with_reducible refine a5_ ?_ ?_);(focus (go_simp;done)))|((with_reducible refine a0_ fun X Y=>?_);go_simp;refine Y _ ?_;clear Y X)
  go_simp
theorem c9g (s:St) (h:SmallS s) : VC Tryz.prog 25 [e9_ s,e9_ s] (B true):=by
 have hq:=h.q1;have hnq:=h.nq;have hnt:=h.nt;have HQ:=Lib.hid hq;clear hq h;refine b7_ Tryz.func25 rfl (by kernel_rfl) (by kernel_rfl) rfl fun M0 w0=>?_;simp only [Tryz.ntmps25,Tryz.results25,b1_];repeat' first|(with_reducible first|apply a8_|apply a3_|apply b0_|apply a9_|apply a1_|refine a2_ [] ?_)|((with_reducible refine a5_ ?_ ?_);(focus (go_simp;done)))|((with_reducible refine a0_ fun X Y=>?_);go_simp;refine Y _ ?_;clear Y X)
 apply a0r [2,3] (fun k=>[(5,I k)]) (fun k=>([] : Hp)) (fun _=>false) (s.q.length)
 ·go_simp<;>exact rfl
 ·go_simp
 ·intro k hk HB HP K hK;obtain ⟨w1,w2,w3,w4,w5,w6⟩:=ixs (m:=k) (by omega);have g:=c6o (qat s.q k) (by rw [h0_ hk];have:=(HQ.out _ (List.getElem_mem hk)).1;omega);repeat' first|(with_reducible first|apply a8_|apply a3_|apply b0_|apply a9_|apply b2_|apply a1_|refine a2_ [] ?_|apply a6_)|((with_reducible refine a7_ ?_ ?_);(focus (go_simp;done)))|((with_reducible refine a5_ ?_ ?_);(focus (go_simp;done)))|((with_reducible first|refine a0_ fun X Y=>?_|refine a4_ fun X Y=>?_);go_simp;(first|(with_reducible refine ⟨_,g,?_⟩)|skip);refine Y _ ?_;clear Y X)|((refine b5_ 12 12 [] rfl (by kernel_rfl) (by kernel_rfl) ?_);simp only [List.take,List.drop])
  refine hK _ ?_;go_simp
 ·intro k hk HB HP K;exact absurd HP.out (by simp)
 ·intro HB K;repeat' first|(with_reducible first|apply a8_|apply a3_|apply c3_|apply e1_|apply a9_|apply b6_|apply a1_|refine a2_ [] ?_)|((with_reducible refine a5_ ?_ ?_);(focus (go_simp;done)))|((with_reducible refine a0_ fun X Y=>?_);go_simp;refine Y _ ?_;clear Y X)
  apply a0r [2,3] (fun k=>[(6,I k)]) (fun k=>([] : Hp)) (fun _=>false) (s.tk.length)
  ·go_simp<;>exact rfl
  ·go_simp
  ·intro k hk HB HP K hK;obtain ⟨w1,w2,w3,w4,w5,w6⟩:=ixs (m:=k) (by omega);repeat' first|(with_reducible first|apply a8_|apply a3_|apply b0_|apply a9_|apply b2_|apply a1_|refine a2_ [] ?_|apply a6_)|((with_reducible refine a7_ ?_ ?_);(focus (go_simp;done)))|((with_reducible refine a5_ ?_ ?_);(focus (go_simp;done)))|((with_reducible first|refine a0_ fun X Y=>?_|refine a4_ fun X Y=>?_);go_simp;refine Y _ ?_;clear Y X)|((refine b5_ 11 11 [] rfl (by kernel_rfl) (by kernel_rfl) ?_);simp only [List.take,List.drop])
   refine hK _ ?_;go_simp
  ·intro k hk HB HP K;exact absurd HP.out (by simp)
  ·intro HB K;repeat' first|(with_reducible first|apply a8_|apply a3_|apply c3_|apply c2_|apply e1_|apply b6_|apply a1_|refine a2_ [] ?_)|((with_reducible refine a5_ ?_ ?_);(focus (go_simp;done)))|((with_reducible refine a0_ fun X Y=>?_);go_simp;refine Y _ ?_;clear Y X)
   go_simp
def v8_:Ru:=⟨[⟨⟨#[115,116,97,110,100]⟩,2,1,false⟩,⟨⟨#[102,101,101,100,101,114]⟩,3,-1,false⟩],1,60⟩
def a0n:List Ev:=[⟨0,0,0,⟨#[97]⟩⟩,⟨0,5,0,⟨#[98]⟩⟩,⟨0,9,1,⟨#[99]⟩⟩,⟨1,20,0,⟨#[97]⟩⟩]
def b1o:St:=⟨[[⟨#[98]⟩,⟨#[99]⟩],[]],[⟨⟨#[97]⟩,0,20⟩],20⟩
theorem c6p:VC Tryz.prog 83 [] (c4_ v8_):=by
 unfold v8_;refine b7_ Tryz.func83 rfl (by kernel_rfl) (by kernel_rfl) rfl fun M0 w0=>?_;simp only [Tryz.ntmps83,Tryz.results83,b1_];repeat' first|(with_reducible first|apply a8_|apply a3_|apply c2_|apply a1_|refine a2_ [] ?_)|((with_reducible refine a0_ fun X Y=>?_);go_simp;refine Y _ ?_;clear Y X)
 go_simp
theorem b8x:VC Tryz.prog 84 [] (r3_ a0n):=by
 unfold a0n;refine b7_ Tryz.func84 rfl (by kernel_rfl) (by kernel_rfl) rfl fun M0 w0=>?_;simp only [Tryz.ntmps84,Tryz.results84,b1_];repeat' first|(with_reducible first|apply a8_|apply a3_|apply c2_|apply a1_|refine a2_ [] ?_)|((with_reducible refine a0_ fun X Y=>?_);go_simp;refine Y _ ?_;clear Y X)
 go_simp
theorem c2w:c1z v8_ a0n=(b1o,0,0):=by kernel_rfl
theorem c2x:c6m v8_ a0n=0:=by kernel_rfl
theorem b8y:b4u a0n 0 a0n=[⟨⟨#[97]⟩,0,20⟩]:=by kernel_rfl
theorem b5j:(a5r v8_ a0n).2=0∧(a5r v8_ a0n).1.length=6:=⟨by kernel_rfl,by kernel_rfl⟩
def c2y:List Sg:=[⟨0,0,⟨#[97]⟩⟩,⟨0,0,⟨#[98]⟩⟩,⟨1,0,⟨#[98]⟩⟩]
theorem c9h:ovT c2y = .agg [I 0,I 1,I 2]:=by kernel_rfl
theorem c9i:ovE c2y=0:=by kernel_rfl
def c6q:ByteArray:=⟨#[99,97,108,108,32,50,48,32,48,32,45]⟩
theorem c9j:evP (n0_ 32 c6q)=(⟨4,20,0,⟨#[]⟩⟩,0):=by kernel_rfl
theorem b8z:b7t b1o=⟨#[50,48,124,98,32,99,124,124,97,58,48,58,50,48]⟩:=by kernel_rfl
theorem a2c:SmallL v8_ a0n:=⟨by decide,fun k hk=>by
 have h2:k < 2:=hk;rcases k with _|_|k
 ·decide
 ·decide
 ·omega,fun x hx=>by
 simp only [a0n,List.mem_cons,List.not_mem_nil,or_false] at hx;rcases hx with rfl|rfl|rfl|rfl<;>decide⟩
theorem b1p:SmallS b1o:=by
 refine ⟨by decide,fun l hl=>?_,by decide,fun t ht=>?_,by unfold i64;decide⟩
 ·simp only [b1o,List.mem_cons,List.not_mem_nil,or_false] at hl;rcases hl with rfl|rfl
  ·refine ⟨by decide,fun c hc=>?_⟩;simp only [List.mem_cons,List.not_mem_nil,or_false] at hc;rcases hc with rfl|rfl<;>decide
  ·exact ⟨by decide,fun c hc=>by simp at hc⟩
 ·simp only [b1o,List.mem_cons,List.not_mem_nil,or_false] at ht;subst ht;unfold i64;decide
theorem c6r:VC Tryz.prog 18 [] (B true):=by
 have g1:=c6p;have g2:=b8x;have g3:=b2y v8_ a0n a2c;have g4:=c6n v8_ a0n a2c;have g5:=b1f c2y (by decide) (fun k hk=>by
  have h2:k < 3:=hk;rcases k with _|_|_|k
  ·decide
  ·decide
  ·decide
  ·omega)
 have g6:=a9m c6q (by decide);have g7:=a7p v8_ a0n a2c;have g8:=a7e b1o b1p;have g9:=b1m [⟨⟨#[97]⟩,0,20⟩] (by decide);obtain ⟨m1,m2⟩:=b5j;rw [c2w] at g3;rw [c2x,if_pos rfl,b8y] at g4;rw [c9h,c9i] at g5;rw [c9j] at g6;rw [m1] at g7;rw [b8z] at g8;generalize (a5r v8_ a0n).1=L at *;have m3:(L.length:Int)=6:=by omega
 clear m1 m2;generalize v8_=R0 at *;generalize hM:a0n=M at *;clear hM;generalize hS:b1o=S0 at *;clear hS;unfold c2y at g5;unfold c6q at g6;simp only [c4_,r3_,e9_,d2t,evA,List.map_cons,List.map_nil,Sg.av,Wt.av] at g1 g2 g3 g4 g5 g6 g7 g8 g9;refine b7_ Tryz.func18 rfl (by kernel_rfl) (by kernel_rfl) rfl fun M0 w0=>?_;simp only [Tryz.ntmps18,Tryz.results18,b1_];repeat' first|(with_reducible first|apply a8_|apply a3_|apply c2_|apply a1_|refine a2_ [] ?_)|((with_reducible refine a0_ fun X Y=>?_);go_simp;(first|(with_reducible refine ⟨_,g1,?_⟩)|(with_reducible refine ⟨_,g2,?_⟩)|(with_reducible refine ⟨_,g3,?_⟩)|(with_reducible refine ⟨_,g4,?_⟩)|(with_reducible refine ⟨_,g5,?_⟩)|(with_reducible refine ⟨_,g6,?_⟩)|(with_reducible refine ⟨_,g7,?_⟩)|(with_reducible refine ⟨_,g8,?_⟩)|(with_reducible refine ⟨_,g9,?_⟩)|skip);refine Y _ ?_;clear Y X)
 go_simp
theorem a9s (r:Ru) (n:Int) (hn:r.ranks.length≤1000000) : VC Tryz.prog 33 [c4_ r,I n] (B (inR n 0 ((r.ranks.length:Int) - 1))):=by
 have i1:=z8_ n 0 ((r.ranks.length:Int) - 1);have hw:IntKind.i64.wrap ((r.ranks.length:Int) - 1)=(r.ranks.length:Int) - 1:=g9_ (by omega) (by omega);generalize inR n 0 ((r.ranks.length:Int) - 1)=D at *;refine b7_ Tryz.func33 rfl (by kernel_rfl) (by kernel_rfl) rfl fun M0 w0=>?_;simp only [Tryz.ntmps33,Tryz.results33,b1_];repeat' first|(with_reducible first|apply a8_|apply a3_|apply c2_|apply a1_|refine a2_ [] ?_)|((with_reducible refine a0_ fun X Y=>?_);go_simp;(first|(with_reducible refine ⟨_,i1,?_⟩)|skip);refine Y _ ?_;clear Y X)
 go_simp
theorem a9t (r:Ru) (i:Nat) (hi:i < r.ranks.length) (hn:r.ranks.length≤1000000) (hnm:(rat r.ranks i).name.size≤1000) : VC Tryz.prog 101 [c4_ r,I (i:Int)] (I (rkE r i)):=by
 obtain ⟨E,hE⟩ : ∃ E,rkE r i=E:=⟨_,rfl⟩
 rw [hE];have i1:=b4d (rat r.ranks i).name (by omega);have i2:=z8_ (rat r.ranks i).places 1 12;have i3:=a9s r (rat r.ranks i).feeder hn;have HE:=Lib.hid hE;clear hE hnm;obtain ⟨w1,w2,w3,w4,w5,w6⟩:=ixs (m:=i) (by omega);cases hD1:e2_ (rat r.ranks i).name
 ·have e:rkE r i=4:=by simp [rkE,fst,unl,hD1]
  rw [HE.out] at e;rw [hD1] at i1;subst e;refine b7_ Tryz.func101 rfl (by kernel_rfl) (by kernel_rfl) rfl fun M0 w0=>?_;simp only [Tryz.ntmps101,Tryz.results101,b1_];repeat' first|(with_reducible first|apply a8_|apply a3_|apply b4_|apply c2_|apply a1_|refine a2_ [] ?_)|((with_reducible refine a7_ ?_ ?_);(focus (go_simp;done)))|((with_reducible refine a0_ fun X Y=>?_);go_simp;(first|(with_reducible refine ⟨_,i1,?_⟩)|skip);refine Y _ ?_;clear Y X)
  go_simp
 rw [hD1] at i1;refine b7_ Tryz.func101 rfl (by kernel_rfl) (by kernel_rfl) rfl fun M0 w0=>?_;simp only [Tryz.ntmps101,Tryz.results101,b1_];repeat' first|(with_reducible first|apply a8_|apply a3_|apply b0_|apply a9_|apply a1_|refine a2_ [] ?_)|((with_reducible refine a5_ ?_ ?_);(focus (go_simp;done)))|((with_reducible refine a0_ fun X Y=>?_);go_simp;(first|(with_reducible refine ⟨_,i1,?_⟩)|skip);refine Y _ ?_;clear Y X)
 apply a0r [1,2,5] (fun k=>[(6,I k)]) (fun k=>([some (.box [S (rat r.ranks i).name,I (rat r.ranks i).places,I (rat r.ranks i).feeder,B (rat r.ranks i).called])] : Hp)) (fun k=>decide ((rat r.ranks k).name=(rat r.ranks i).name)) (i)
 ·go_simp<;>exact rfl
 ·go_simp
 ·intro k hk HB HP K hK;obtain ⟨x1,x2,x3,x4,x5,x6⟩:=ixs (m:=k) (by omega);have hkn:k < r.ranks.length:=by omega
  have hp:¬(rat r.ranks k).name=(rat r.ranks i).name:=of_decide_eq_false HP.out;repeat' first|(with_reducible first|apply a8_|apply a3_|apply b0_|apply a9_|apply b2_|apply a1_|refine a2_ [] ?_|apply a6_)|((with_reducible refine a7_ ?_ ?_);(focus (go_simp;done)))|((with_reducible refine a5_ ?_ ?_);(focus (go_simp;done)))|((with_reducible first|refine a0_ fun X Y=>?_|refine a4_ fun X Y=>?_);go_simp;refine Y _ ?_;clear Y X)|((refine b5_ 9 9 [] rfl (by kernel_rfl) (by kernel_rfl) ?_);simp only [List.take,List.drop])
  refine hK _ ?_;go_simp
 ·intro k hk HB HP K;obtain ⟨x1,x2,x3,x4,x5,x6⟩:=ixs (m:=k) (by omega);have hkn:k < r.ranks.length:=by omega
  have hp:(rat r.ranks k).name=(rat r.ranks i).name:=of_decide_eq_true HP.out;have hA:w9_ r i=true:=p8_ hk HP.out;have e:rkE r i=5:=by simp [rkE,fst,unl,hD1,hA]
  rw [HE.out] at e;subst e;repeat' first|(with_reducible first|apply a8_|apply a3_|apply b4_|apply c2_|apply b0_|apply a9_|apply c5_|apply a1_|refine a2_ [] ?_|apply a6_)|((with_reducible refine a7_ ?_ ?_);(focus (go_simp;done)))|((with_reducible first|refine a0_ fun X Y=>?_|refine a4_ fun X Y=>?_);go_simp;refine Y _ ?_;clear Y X)|((refine b5_ 9 9 [] rfl (by kernel_rfl) (by kernel_rfl) ?_);simp only [List.take,List.drop])
  go_simp
 ·intro HB K;have hA:w9_ r i=false:=v5_ HB.out;cases hD2:inR (rat r.ranks i).places 1 12
  ·have e:rkE r i=2:=by simp [rkE,fst,unl,hD1,hA,hD2]
   rw [HE.out] at e;rw [hD2] at i2;subst e;repeat' first|(with_reducible first|apply a8_|apply a3_|apply c3_|apply b4_|apply c2_|apply e1_|apply b6_|apply a1_|refine a2_ [] ?_)|((with_reducible refine a7_ ?_ ?_);(focus (go_simp;done)))|((with_reducible refine a5_ ?_ ?_);(focus (go_simp;done)))|((with_reducible refine a0_ fun X Y=>?_);go_simp;(first|(with_reducible refine ⟨_,i2,?_⟩)|skip);refine Y _ ?_;clear Y X)
   go_simp
  rw [hD2] at i2;by_cases hF:(rat r.ranks i).feeder = -1
  ·have hfb:h1_ r i=false:=by simp [h1_,hF]
   cases hC:(rat r.ranks i).called
   ·have e:rkE r i=0:=by simp [rkE,fst,unl,hD1,hA,hD2,hfb,hC]
    rw [HE.out] at e;subst e;repeat' first|(with_reducible first|apply a8_|apply a3_|apply c3_|apply b4_|apply c2_|apply b0_|apply e1_|apply b6_|apply a1_|refine a2_ [] ?_)|((with_reducible refine a7_ ?_ ?_);(focus (go_simp;done)))|((with_reducible refine a5_ ?_ ?_);(focus (go_simp;done)))|((with_reducible refine a0_ fun X Y=>?_);go_simp;(first|(with_reducible refine ⟨_,i2,?_⟩)|skip);refine Y _ ?_;clear Y X)
    go_simp
   ·have e:rkE r i=3:=by simp [rkE,fst,unl,hD1,hA,hD2,hfb,hC]
    rw [HE.out] at e;subst e;repeat' first|(with_reducible first|apply a8_|apply a3_|apply c3_|apply b4_|apply c2_|apply b0_|apply e1_|apply b6_|apply a1_|refine a2_ [] ?_)|((with_reducible refine a7_ ?_ ?_);(focus (go_simp;done)))|((with_reducible refine a5_ ?_ ?_);(focus (go_simp;done)))|((with_reducible refine a0_ fun X Y=>?_);go_simp;(first|(with_reducible refine ⟨_,i2,?_⟩)|skip);refine Y _ ?_;clear Y X)
    go_simp
  have hfb:h1_ r i=true:=by simp [h1_,hF]
  cases hD3:inR (rat r.ranks i).feeder 0 ((r.ranks.length:Int) - 1)
  ·have e:rkE r i=6:=by simp [rkE,fst,unl,hD1,hA,hD2,hfb,hD3]
   rw [HE.out] at e;rw [hD3] at i3;subst e;repeat' first|(with_reducible first|apply a8_|apply a3_|apply c3_|apply b4_|apply c2_|apply b0_|apply e1_|apply b6_|apply a1_|refine a2_ [] ?_)|((with_reducible refine a7_ ?_ ?_);(focus (go_simp;done)))|((with_reducible refine a5_ ?_ ?_);(focus (go_simp;done)))|((with_reducible refine a0_ fun X Y=>?_);go_simp;(first|(with_reducible refine ⟨_,i2,?_⟩)|(refine ⟨_,i3,?_⟩)|skip);refine Y _ ?_;clear Y X)
   go_simp
  rw [hD3] at i3;by_cases hO:(i:Int) < (rat r.ranks i).feeder
  ·have hO2:¬(rat r.ranks i).feeder≤(i:Int):=by omega
   repeat' first|(with_reducible first|apply a8_|apply a3_|apply c3_|apply b0_|apply e1_|apply a9_|apply b6_|apply a1_|refine a2_ [] ?_)|((with_reducible refine a5_ ?_ ?_);(focus (go_simp;done)))|((with_reducible refine a0_ fun X Y=>?_);go_simp;(first|(with_reducible refine ⟨_,i2,?_⟩)|(refine ⟨_,i3,?_⟩)|skip);refine Y _ ?_;clear Y X)
   apply a0r [1,2,5] (fun k=>[(7,I k)]) (fun k=>([some (.box [S (rat r.ranks i).name,I (rat r.ranks i).places,I (rat r.ranks i).feeder,B (rat r.ranks i).called])] : Hp)) (fun k=>decide ((rat r.ranks k).feeder=(rat r.ranks i).feeder)) (i)
   ·go_simp<;>exact rfl
   ·go_simp
   ·intro k hk HB HP K hK;obtain ⟨x1,x2,x3,x4,x5,x6⟩:=ixs (m:=k) (by omega);have hkn:k < r.ranks.length:=by omega
    have hp:¬(rat r.ranks k).feeder=(rat r.ranks i).feeder:=of_decide_eq_false HP.out;repeat' first|(with_reducible first|apply a8_|apply a3_|apply b0_|apply a9_|apply b2_|apply a1_|refine a2_ [] ?_|apply a6_)|((with_reducible refine a7_ ?_ ?_);(focus (go_simp;done)))|((with_reducible refine a5_ ?_ ?_);(focus (go_simp;done)))|((with_reducible first|refine a0_ fun X Y=>?_|refine a4_ fun X Y=>?_);go_simp;refine Y _ ?_;clear Y X)|((refine b5_ 9 9 [] rfl (by kernel_rfl) (by kernel_rfl) ?_);simp only [List.take,List.drop])
    refine hK _ ?_;go_simp
   ·intro k hk HB HP K;obtain ⟨x1,x2,x3,x4,x5,x6⟩:=ixs (m:=k) (by omega);have hkn:k < r.ranks.length:=by omega
    have hp:(rat r.ranks k).feeder=(rat r.ranks i).feeder:=of_decide_eq_true HP.out;have hB:t2_ r i=true:=p8_ hk HP.out;have e:rkE r i=26:=by simp [rkE,fst,unl,hD1,hA,hD2,hfb,hD3,hO,hB]
    rw [HE.out] at e;subst e;repeat' first|(with_reducible first|apply a8_|apply a3_|apply b4_|apply c2_|apply b0_|apply a9_|apply c5_|apply a1_|refine a2_ [] ?_|apply a6_)|((with_reducible refine a7_ ?_ ?_);(focus (go_simp;done)))|((with_reducible first|refine a0_ fun X Y=>?_|refine a4_ fun X Y=>?_);go_simp;refine Y _ ?_;clear Y X)|((refine b5_ 9 9 [] rfl (by kernel_rfl) (by kernel_rfl) ?_);simp only [List.take,List.drop])
    go_simp
   ·intro HB K;have hB:t2_ r i=false:=v5_ HB.out;have e:rkE r i=0:=by simp [rkE,fst,unl,hD1,hA,hD2,hfb,hD3,hO,hB]
    rw [HE.out] at e;subst e;repeat' first|(with_reducible first|apply a8_|apply a3_|apply c3_|apply c2_|apply e1_|apply b6_|apply a1_|refine a2_ [] ?_)|((with_reducible refine a5_ ?_ ?_);(focus (go_simp;done)))|((with_reducible refine a0_ fun X Y=>?_);go_simp;refine Y _ ?_;clear Y X)
    go_simp
  ·have hO2:(rat r.ranks i).feeder≤(i:Int):=by omega
   have e:rkE r i=9:=by simp [rkE,fst,unl,hD1,hA,hD2,hfb,hD3,hO]
   rw [HE.out] at e;subst e;repeat' first|(with_reducible first|apply a8_|apply a3_|apply c3_|apply b4_|apply c2_|apply b0_|apply e1_|apply b6_|apply a1_|refine a2_ [] ?_)|((with_reducible refine a7_ ?_ ?_);(focus (go_simp;done)))|((with_reducible refine a5_ ?_ ?_);(focus (go_simp;done)))|((with_reducible refine a0_ fun X Y=>?_);go_simp;(first|(with_reducible refine ⟨_,i2,?_⟩)|(refine ⟨_,i3,?_⟩)|skip);refine Y _ ?_;clear Y X)
   go_simp
theorem a9u (r:Ru) (hn:r.ranks.length≤1000000) (hnm:∀ k,k < r.ranks.length→(rat r.ranks k).name.size≤1000) : VC Tryz.prog 38 [c4_ r] (.tup [I ((f2_ r).1:Int),I (f2_ r).2]):=by
 unfold f2_;by_cases h0:r.ranks.length=0
 ·rw [if_pos h0];have h0':(r.ranks.length:Int)=0:=by omega
  refine b7_ Tryz.func38 rfl (by kernel_rfl) (by kernel_rfl) rfl fun M0 w0=>?_;simp only [Tryz.ntmps38,Tryz.results38,b1_];repeat' first|(with_reducible first|apply a8_|apply a3_|apply b4_|apply c2_|apply a1_|refine a2_ [] ?_)|((with_reducible refine a7_ ?_ ?_);(focus (go_simp;done)))|((with_reducible refine a0_ fun X Y=>?_);go_simp;refine Y _ ?_;clear Y X)
  go_simp
 rw [if_neg h0];have h0':¬r.ranks=[]:=fun h=>h0 (by rw [h];rfl);by_cases h6:6 < r.ranks.length
 ·rw [if_pos h6];have h6':(6:Int) < (r.ranks.length:Int):=by omega
  refine b7_ Tryz.func38 rfl (by kernel_rfl) (by kernel_rfl) rfl fun M0 w0=>?_;simp only [Tryz.ntmps38,Tryz.results38,b1_];repeat' first|(with_reducible first|apply a8_|apply a3_|apply b4_|apply c2_|apply b0_|apply a1_|refine a2_ [] ?_)|((with_reducible refine a7_ ?_ ?_);(focus (go_simp;done)))|((with_reducible refine a5_ ?_ ?_);(focus (go_simp;done)))|((with_reducible refine a0_ fun X Y=>?_);go_simp;refine Y _ ?_;clear Y X)
  go_simp
 rw [if_neg h6];have h6':¬(6:Int) < (r.ranks.length:Int):=by omega
 obtain ⟨R,hR⟩ : ∃ R,(if (h4_ (rkE r) 0 r.ranks.length).2≠0 then h4_ (rkE r) 0 r.ranks.length else (0,c5m r))=R:=⟨_,rfl⟩
 rw [hR];have HR:=Lib.hid hR;have HM:=Lib.hid hnm;have i1:=z8_ r.back 0 12;have i2:=z8_ r.ret 0 3600;clear hR hnm h0 h6;refine b7_ Tryz.func38 rfl (by kernel_rfl) (by kernel_rfl) rfl fun M0 w0=>?_;simp only [Tryz.ntmps38,Tryz.results38,b1_];repeat' first|(with_reducible first|apply a8_|apply a3_|apply b0_|apply a9_|apply a1_|refine a2_ [] ?_)|((with_reducible refine a5_ ?_ ?_);(focus (go_simp;done)))|((with_reducible refine a0_ fun X Y=>?_);go_simp;refine Y _ ?_;clear Y X)
 apply a0r [1] (fun k=>[(4,I k)]) (fun k=>([] : Hp)) (fun k=>!decide (rkE r k=0)) (r.ranks.length)
 ·go_simp<;>exact rfl
 ·go_simp
 ·intro k hk HB HP K hK;obtain ⟨x1,x2,x3,x4,x5,x6⟩:=ixs (m:=k) (by omega);have g:=a9t r k hk hn (HM.out k hk);have he:rkE r k=0:=by simpa using HP.out
  rw [he] at g;clear he;repeat' first|(with_reducible first|apply a8_|apply a3_|apply b0_|apply a9_|apply b2_|apply a1_|refine a2_ [] ?_)|((with_reducible refine a7_ ?_ ?_);(focus (go_simp;done)))|((with_reducible refine a5_ ?_ ?_);(focus (go_simp;done)))|((with_reducible refine a0_ fun X Y=>?_);go_simp;(first|(refine ⟨_,g,?_⟩)|skip);refine Y _ ?_;clear Y X)
  refine hK _ ?_;go_simp
 ·intro k hk HB HP K;obtain ⟨x1,x2,x3,x4,x5,x6⟩:=ixs (m:=k) (by omega);have g:=a9t r k hk hn (HM.out k hk);have he:¬rkE r k=0:=by simpa using HP.out
  have e:=HR.out;rw [x0_ hk HB.out HP.out,if_pos he] at e;subst e;generalize rkE r k=E at *;repeat' first|(with_reducible first|apply a8_|apply a3_|apply b4_|apply c2_|apply b0_|apply a9_|apply c5_|apply a1_|refine a2_ [] ?_)|((with_reducible refine a7_ ?_ ?_);(focus (go_simp;done)))|((with_reducible refine a0_ fun X Y=>?_);go_simp;(first|(refine ⟨_,g,?_⟩)|skip);refine Y _ ?_;clear Y X)
  go_simp
 ·intro HB K;have e:=HR.out;rw [r9_ _ _ (fun j hj=>HB.out j (by omega)),if_neg (by simp)] at e;subst e;unfold c5m;by_cases hb:r.back = -1
  ·cases hD2:inR r.ret 0 3600
   ·rw [hD2] at i2;have e2:unl ((decide (r.back = -1) || inR r.back 0 12)&&false) 2=2:=by simp [unl]
    rw [e2];repeat' first|(with_reducible first|apply a8_|apply a3_|apply c3_|apply b4_|apply c2_|apply e1_|apply b6_|apply a1_|refine a2_ [] ?_)|((with_reducible refine a7_ ?_ ?_);(focus (go_simp;done)))|((with_reducible refine a5_ ?_ ?_);(focus (go_simp;done)))|((with_reducible refine a0_ fun X Y=>?_);go_simp;(first|(with_reducible refine ⟨_,i2,?_⟩)|skip);refine Y _ ?_;clear Y X)
    go_simp
   ·rw [hD2] at i2;have e2:unl ((decide (r.back = -1) || inR r.back 0 12)&&true) 2=0:=by simp [unl,hb]
    rw [e2];repeat' first|(with_reducible first|apply a8_|apply a3_|apply c3_|apply c2_|apply b0_|apply e1_|apply b6_|apply a1_|refine a2_ [] ?_)|((with_reducible refine a5_ ?_ ?_);(focus (go_simp;done)))|((with_reducible refine a0_ fun X Y=>?_);go_simp;(first|(with_reducible refine ⟨_,i2,?_⟩)|skip);refine Y _ ?_;clear Y X)
    go_simp
  ·cases hD1:inR r.back 0 12
   ·rw [hD1] at i1;have e2:unl ((decide (r.back = -1) || false)&&inR r.ret 0 3600) 2=2:=by simp [unl,hb]
    rw [e2];repeat' first|(with_reducible first|apply a8_|apply a3_|apply c3_|apply b4_|apply c2_|apply e1_|apply b6_|apply a1_|refine a2_ [] ?_)|((with_reducible refine a7_ ?_ ?_);(focus (go_simp;done)))|((with_reducible refine a5_ ?_ ?_);(focus (go_simp;done)))|((with_reducible refine a0_ fun X Y=>?_);go_simp;(first|(with_reducible refine ⟨_,i1,?_⟩)|skip);refine Y _ ?_;clear Y X)
    go_simp
   ·rw [hD1] at i1;cases hD2:inR r.ret 0 3600
    ·rw [hD2] at i2;have e2:unl ((decide (r.back = -1) || true)&&false) 2=2:=by simp [unl]
     rw [e2];repeat' first|(with_reducible first|apply a8_|apply a3_|apply c3_|apply b4_|apply c2_|apply e1_|apply b6_|apply a1_|refine a2_ [] ?_)|((with_reducible refine a7_ ?_ ?_);(focus (go_simp;done)))|((with_reducible refine a5_ ?_ ?_);(focus (go_simp;done)))|((with_reducible refine a0_ fun X Y=>?_);go_simp;(first|(with_reducible refine ⟨_,i1,?_⟩)|(with_reducible refine ⟨_,i2,?_⟩)|skip);refine Y _ ?_;clear Y X)
     go_simp
    ·rw [hD2] at i2;have e2:unl ((decide (r.back = -1) || true)&&true) 2=0:=by simp [unl]
     rw [e2];repeat' first|(with_reducible first|apply a8_|apply a3_|apply c3_|apply c2_|apply b0_|apply e1_|apply b6_|apply a1_|refine a2_ [] ?_)|((with_reducible refine a5_ ?_ ?_);(focus (go_simp;done)))|((with_reducible refine a0_ fun X Y=>?_);go_simp;(first|(with_reducible refine ⟨_,i1,?_⟩)|(with_reducible refine ⟨_,i2,?_⟩)|skip);refine Y _ ?_;clear Y X)
     go_simp
theorem a9v (r:Ru) (x:Ev) (hn:r.ranks.length≤1000000) (hc:x.car.size≤1000) : VC Tryz.prog 56 [c4_ r,evA x] (I (evE r x)):=by
 obtain ⟨kd,tm,rk,car⟩:=x;simp only [evA] at *;obtain ⟨E,hE⟩ : ∃ E,evE r ⟨kd,tm,rk,car⟩=E:=⟨_,rfl⟩
 rw [hE];have i1:=z8_ kd 0 5;have i2:=z8_ tm 0 604800;have i3:=a9s r rk hn;have i4:=b4d car (by omega);unfold evE at hE;cases hD1:inR kd 0 5
 ·rw [hD1] at i1 hE;have e:E=15:=by rw [←hE];rfl
  subst e;clear hE;refine b7_ Tryz.func56 rfl (by kernel_rfl) (by kernel_rfl) rfl fun M0 w0=>?_;simp only [Tryz.ntmps56,Tryz.results56,b1_];repeat' first|(with_reducible first|apply a8_|apply a3_|apply b4_|apply c2_|apply a1_|refine a2_ [] ?_)|((with_reducible refine a7_ ?_ ?_);(focus (go_simp;done)))|((with_reducible refine a0_ fun X Y=>?_);go_simp;(first|(with_reducible refine ⟨_,i1,?_⟩)|skip);refine Y _ ?_;clear Y X)
  go_simp
 rw [hD1] at i1 hE;cases hD2:inR tm 0 604800
 ·rw [hD2] at i2 hE;have e:E=2:=by rw [←hE];rfl
  subst e;clear hE;refine b7_ Tryz.func56 rfl (by kernel_rfl) (by kernel_rfl) rfl fun M0 w0=>?_;simp only [Tryz.ntmps56,Tryz.results56,b1_];repeat' first|(with_reducible first|apply a8_|apply a3_|apply b4_|apply c2_|apply b0_|apply a1_|refine a2_ [] ?_)|((with_reducible refine a7_ ?_ ?_);(focus (go_simp;done)))|((with_reducible refine a5_ ?_ ?_);(focus (go_simp;done)))|((with_reducible refine a0_ fun X Y=>?_);go_simp;(first|(with_reducible refine ⟨_,i1,?_⟩)|(with_reducible refine ⟨_,i2,?_⟩)|skip);refine Y _ ?_;clear Y X)
  go_simp
 rw [hD2] at i2 hE;cases hD3:inR rk 0 ((r.ranks.length:Int) - 1)
 ·rw [hD3] at i3 hE;have e:E=6:=by rw [←hE];rfl
  subst e;clear hE;refine b7_ Tryz.func56 rfl (by kernel_rfl) (by kernel_rfl) rfl fun M0 w0=>?_;simp only [Tryz.ntmps56,Tryz.results56,b1_];repeat' first|(with_reducible first|apply a8_|apply a3_|apply b4_|apply c2_|apply b0_|apply a1_|refine a2_ [] ?_)|((with_reducible refine a7_ ?_ ?_);(focus (go_simp;done)))|((with_reducible refine a5_ ?_ ?_);(focus (go_simp;done)))|((with_reducible refine a0_ fun X Y=>?_);go_simp;(first|(with_reducible refine ⟨_,i1,?_⟩)|(with_reducible refine ⟨_,i2,?_⟩)|(refine ⟨_,i3,?_⟩)|skip);refine Y _ ?_;clear Y X)
  go_simp
 rw [hD3] at i3 hE;by_cases h4:kd=4
 ·rw [decide_eq_true h4] at hE;rw [h4] at i1;by_cases hcar:car=ByteArray.empty
  ·have e:E=0:=by rw [←hE,decide_eq_true hcar];rfl
   have hcar2:car=⟨#[]⟩:=hcar;subst e;clear hE hcar;subst hcar2;refine b7_ Tryz.func56 rfl (by kernel_rfl) (by kernel_rfl) rfl fun M0 w0=>?_;simp only [Tryz.ntmps56,Tryz.results56,b1_];repeat' first|(with_reducible first|apply a8_|apply a3_|apply b4_|apply c2_|apply b0_|apply a1_|refine a2_ [] ?_)|((with_reducible refine a7_ ?_ ?_);(focus (go_simp;done)))|((with_reducible refine a5_ ?_ ?_);(focus (go_simp;done)))|((with_reducible refine a0_ fun X Y=>?_);go_simp;(first|(with_reducible refine ⟨_,i1,?_⟩)|(with_reducible refine ⟨_,i2,?_⟩)|(refine ⟨_,i3,?_⟩)|skip);refine Y _ ?_;clear Y X)
   go_simp
  ·have e:E=3:=by rw [←hE,decide_eq_false hcar];rfl
   have hcar2:¬car=⟨#[]⟩:=hcar;subst e;clear hE;refine b7_ Tryz.func56 rfl (by kernel_rfl) (by kernel_rfl) rfl fun M0 w0=>?_;simp only [Tryz.ntmps56,Tryz.results56,b1_];repeat' first|(with_reducible first|apply a8_|apply a3_|apply b4_|apply c2_|apply b0_|apply a1_|refine a2_ [] ?_)|((with_reducible refine a7_ ?_ ?_);(focus (go_simp;done)))|((with_reducible refine a5_ ?_ ?_);(focus (go_simp;done)))|((with_reducible refine a0_ fun X Y=>?_);go_simp;(first|(with_reducible refine ⟨_,i1,?_⟩)|(with_reducible refine ⟨_,i2,?_⟩)|(refine ⟨_,i3,?_⟩)|skip);refine Y _ ?_;clear Y X)
   go_simp
 ·rw [decide_eq_false h4] at hE;cases hD4:e2_ car
  ·rw [hD4] at i4 hE;have e:E=4:=by rw [←hE];rfl
   subst e;clear hE;refine b7_ Tryz.func56 rfl (by kernel_rfl) (by kernel_rfl) rfl fun M0 w0=>?_;simp only [Tryz.ntmps56,Tryz.results56,b1_];repeat' first|(with_reducible first|apply a8_|apply a3_|apply b4_|apply c2_|apply b0_|apply a1_|refine a2_ [] ?_)|((with_reducible refine a7_ ?_ ?_);(focus (go_simp;done)))|((with_reducible refine a5_ ?_ ?_);(focus (go_simp;done)))|((with_reducible refine a0_ fun X Y=>?_);go_simp;(first|(with_reducible refine ⟨_,i1,?_⟩)|(with_reducible refine ⟨_,i2,?_⟩)|(refine ⟨_,i3,?_⟩)|(with_reducible refine ⟨_,i4,?_⟩)|skip);refine Y _ ?_;clear Y X)
   go_simp
  ·rw [hD4] at i4 hE;have e:E=0:=by rw [←hE];rfl
   subst e;clear hE;refine b7_ Tryz.func56 rfl (by kernel_rfl) (by kernel_rfl) rfl fun M0 w0=>?_;simp only [Tryz.ntmps56,Tryz.results56,b1_];repeat' first|(with_reducible first|apply a8_|apply a3_|apply c2_|apply b0_|apply a1_|refine a2_ [] ?_)|((with_reducible refine a5_ ?_ ?_);(focus (go_simp;done)))|((with_reducible refine a0_ fun X Y=>?_);go_simp;(first|(with_reducible refine ⟨_,i1,?_⟩)|(with_reducible refine ⟨_,i2,?_⟩)|(refine ⟨_,i3,?_⟩)|(with_reducible refine ⟨_,i4,?_⟩)|skip);refine Y _ ?_;clear Y X)
   go_simp
def b1q (r:Ru) (k:Nat) : Bool:=decide (20 < (rat r.ranks k).name.size)
def c9k (r:Ru) : Bool:=decide (r.ranks.length≤8)&&!a4z (b1q r) 0 r.ranks.length
theorem d1j (r:Ru) (hl:r.ranks.length≤9223372036854775807) : VC Tryz.prog 19 [c4_ r] (B (c9k r)):=by
 unfold c9k;by_cases h8:r.ranks.length≤8
 ·have h8':¬(8:Int) < (r.ranks.length:Int):=by omega
  obtain ⟨R,hR⟩ : ∃ R,a4z (b1q r) 0 r.ranks.length=R:=⟨_,rfl⟩
  rw [decide_eq_true h8,hR];have HR:=Lib.hid hR;have HL:=Lib.hid h8;clear hR h8 hl;refine b7_ Tryz.func19 rfl (by kernel_rfl) (by kernel_rfl) rfl fun M0 w0=>?_;simp only [Tryz.ntmps19,Tryz.results19,b1_];repeat' first|(with_reducible first|apply a8_|apply a3_|apply b0_|apply a9_|apply a1_|refine a2_ [] ?_)|((with_reducible refine a5_ ?_ ?_);(focus (go_simp;done)))|((with_reducible refine a0_ fun X Y=>?_);go_simp;refine Y _ ?_;clear Y X)
  apply a0r [1] (fun k=>[(3,I k)]) (fun k=>([] : Hp)) (b1q r) (r.ranks.length)
  ·go_simp<;>exact rfl
  ·go_simp
  ·intro k hk HB HP K hK;have:=HL.out;obtain ⟨w1,w2,w3,w4,w5,w6⟩:=ixs (m:=k) (by omega);have hp:=HP.out;rw [b1q,decide_eq_false_iff_not] at hp;have hp2:¬(20:Int) < ((rat r.ranks k).name.size:Int):=by omega
   clear hp this;repeat' first|(with_reducible first|apply a8_|apply a3_|apply b0_|apply a9_|apply b2_|apply a1_|refine a2_ [] ?_)|((with_reducible refine a7_ ?_ ?_);(focus (go_simp;done)))|((with_reducible refine a5_ ?_ ?_);(focus (go_simp;done)))|((with_reducible refine a0_ fun X Y=>?_);go_simp;refine Y _ ?_;clear Y X)
   refine hK _ ?_;go_simp
  ·intro k hk HB HP K;have hp:=HP.out;rw [b1q,decide_eq_true_eq] at hp;have hp2:(20:Int) < ((rat r.ranks k).name.size:Int):=by omega
   have e:=HR.out;rw [p8_ hk HP.out] at e;subst e;clear hp;repeat' first|(with_reducible first|apply a8_|apply a3_|apply b4_|apply c2_|apply b0_|apply a9_|apply c5_|apply a1_|refine a2_ [] ?_)|((with_reducible refine a7_ ?_ ?_);(focus (go_simp;done)))|((with_reducible refine a0_ fun X Y=>?_);go_simp;refine Y _ ?_;clear Y X)
   go_simp
  ·intro HB K;have e:=HR.out;rw [v5_ HB.out] at e;subst e;repeat' first|(with_reducible first|apply a8_|apply a3_|apply c3_|apply c2_|apply e1_|apply b6_|apply a1_|refine a2_ [] ?_)|((with_reducible refine a5_ ?_ ?_);(focus (go_simp;done)))|((with_reducible refine a0_ fun X Y=>?_);go_simp;refine Y _ ?_;clear Y X)
   go_simp
 ·have h8':(8:Int) < (r.ranks.length:Int):=by omega
  rw [decide_eq_false h8,Bool.false_and];clear h8 hl;refine b7_ Tryz.func19 rfl (by kernel_rfl) (by kernel_rfl) rfl fun M0 w0=>?_;simp only [Tryz.ntmps19,Tryz.results19,b1_];repeat' first|(with_reducible first|apply a8_|apply a3_|apply b4_|apply c2_|apply a1_|refine a2_ [] ?_)|((with_reducible refine a7_ ?_ ?_);(focus (go_simp;done)))|((with_reducible refine a0_ fun X Y=>?_);go_simp;refine Y _ ?_;clear Y X)
  go_simp
theorem c9l {r:Ru} (h:c9k r=true) : r.ranks.length≤8∧∀ k,k < r.ranks.length→(rat r.ranks k).name.size≤1000:=by
 unfold c9k at h;rw [Bool.and_eq_true,decide_eq_true_eq,Bool.not_eq_true'] at h;refine ⟨h.1,fun k hk=>?_⟩;by_cases hb:b1q r k=true
 ·have:=p8_ hk hb;rw [h.2] at this;cases this
 ·unfold b1q at hb;have:¬20 < (rat r.ranks k).name.size:=fun hh=>hb (decide_eq_true hh);omega
def b1r (l:List Ev) (k:Nat) : Bool:=decide (20 < (d0_ l k).car.size)
def a9w (l:List Ev) : Bool:=decide (l.length≤20∨200 < l.length∧l.length≤202)&&!a4z (b1r l) 0 l.length
theorem c6s (l:List Ev) (hl:l.length≤9223372036854775807) : VC Tryz.prog 20 [r3_ l] (B (a9w l)):=by
 unfold a9w;by_cases h8:l.length≤20∨200 < l.length∧l.length≤202
 ·have hb:((20:Int) < (l.length:Int)→¬(l.length:Int)≤200)∧¬(202:Int) < (l.length:Int):=by omega
  obtain ⟨h1,h2⟩:=hb;obtain ⟨R,hR⟩ : ∃ R,a4z (b1r l) 0 l.length=R:=⟨_,rfl⟩
  rw [decide_eq_true h8,hR];have hll:l.length≤202:=by omega
  have HR:=Lib.hid hR;have HL:=Lib.hid hll;clear hR h8 hl hll;by_cases h20:(20:Int) < (l.length:Int)
  all_goals (
   first
    | (have h200:=h1 h20)
    | skip
   clear h1;refine b7_ Tryz.func20 rfl (by kernel_rfl) (by kernel_rfl) rfl fun M0 w0=>?_;simp only [Tryz.ntmps20,Tryz.results20,b1_];repeat' first|(with_reducible first|apply a8_|apply a3_|apply b0_|apply a9_|apply a1_|refine a2_ [] ?_)|((with_reducible refine a5_ ?_ ?_);(focus (go_simp;done)))|((with_reducible refine a0_ fun X Y=>?_);go_simp;refine Y _ ?_;clear Y X)
   apply a0r [0] (fun k=>[(3,I k)]) (fun k=>([] : Hp)) (b1r l) (l.length)
   ·go_simp<;>exact rfl
   ·go_simp
   ·intro k hk HB HP K hK;have:=HL.out;obtain ⟨w1,w2,w3,w4,w5,w6⟩:=ixs (m:=k) (by omega);have hp:=HP.out;rw [b1r,decide_eq_false_iff_not] at hp;have hp2:¬(20:Int) < ((d0_ l k).car.size:Int):=by omega
    clear hp this;repeat' first|(with_reducible first|apply a8_|apply a3_|apply b0_|apply a9_|apply b2_|apply a1_|refine a2_ [] ?_)|((with_reducible refine a7_ ?_ ?_);(focus (go_simp;done)))|((with_reducible refine a5_ ?_ ?_);(focus (go_simp;done)))|((with_reducible refine a0_ fun X Y=>?_);go_simp;refine Y _ ?_;clear Y X)
    refine hK _ ?_;go_simp
   ·intro k hk HB HP K;have hp:=HP.out;rw [b1r,decide_eq_true_eq] at hp;have hp2:(20:Int) < ((d0_ l k).car.size:Int):=by omega
    have e:=HR.out;rw [p8_ hk HP.out] at e;subst e;clear hp;repeat' first|(with_reducible first|apply a8_|apply a3_|apply b4_|apply c2_|apply b0_|apply a9_|apply c5_|apply a1_|refine a2_ [] ?_)|((with_reducible refine a7_ ?_ ?_);(focus (go_simp;done)))|((with_reducible refine a0_ fun X Y=>?_);go_simp;refine Y _ ?_;clear Y X)
    go_simp
   ·intro HB K;have e:=HR.out;rw [v5_ HB.out] at e;subst e;repeat' first|(with_reducible first|apply a8_|apply a3_|apply c3_|apply c2_|apply e1_|apply b6_|apply a1_|refine a2_ [] ?_)|((with_reducible refine a5_ ?_ ?_);(focus (go_simp;done)))|((with_reducible refine a0_ fun X Y=>?_);go_simp;refine Y _ ?_;clear Y X)
    go_simp)
 ·rw [decide_eq_false h8,Bool.false_and];by_cases h2:(202:Int) < (l.length:Int)
  ·have h20:(20:Int) < (l.length:Int):=by omega
   have h200:¬(l.length:Int)≤200:=by omega
   clear h8 hl;refine b7_ Tryz.func20 rfl (by kernel_rfl) (by kernel_rfl) rfl fun M0 w0=>?_;simp only [Tryz.ntmps20,Tryz.results20,b1_];repeat' first|(with_reducible first|apply a8_|apply a3_|apply b4_|apply c2_|apply a1_|refine a2_ [] ?_)|((with_reducible refine a7_ ?_ ?_);(focus (go_simp;done)))|((with_reducible refine a0_ fun X Y=>?_);go_simp;refine Y _ ?_;clear Y X)
   go_simp
  ·have h20:(20:Int) < (l.length:Int):=by omega
   have h200:(l.length:Int)≤200:=by omega
   clear h8 hl;refine b7_ Tryz.func20 rfl (by kernel_rfl) (by kernel_rfl) rfl fun M0 w0=>?_;simp only [Tryz.ntmps20,Tryz.results20,b1_];repeat' first|(with_reducible first|apply a8_|apply a3_|apply b4_|apply c2_|apply a1_|refine a2_ [] ?_)|((with_reducible refine a7_ ?_ ?_);(focus (go_simp;done)))|((with_reducible refine a0_ fun X Y=>?_);go_simp;refine Y _ ?_;clear Y X)
   go_simp
theorem c2z {l:List Ev} (h:a9w l=true) : l.length≤202∧∀ x∈l,x.car.size≤1000:=by
 unfold a9w at h;rw [Bool.and_eq_true,decide_eq_true_eq,Bool.not_eq_true'] at h;refine ⟨by omega,fun x hx=>?_⟩;obtain ⟨k,hk,rfl⟩:=List.getElem_of_mem hx;rw [←m6_ hk];by_cases hb:b1r l k=true
 ·have:=p8_ hk hb;rw [h.2] at this;cases this
 ·unfold b1r at hb;have:¬20 < (d0_ l k).car.size:=fun hh=>hb (decide_eq_true hh);omega
theorem b5k (r:Ru) (hn:r.ranks.length≤1000000) (hnm:∀ k,k < r.ranks.length→(rat r.ranks k).name.size≤1000) : VC Tryz.prog 24 [c4_ r] (I (f2_ r).2):=by
 have g:=a9u r hn hnm;generalize (f2_ r).2=E at *;generalize ((f2_ r).1:Int)=K0 at *;refine b7_ Tryz.func24 rfl (by kernel_rfl) (by kernel_rfl) rfl fun M0 w0=>?_;simp only [Tryz.ntmps24,Tryz.results24,b1_];repeat' first|(with_reducible first|apply a8_|apply a3_|apply c2_|apply a1_|refine a2_ [] ?_)|((with_reducible refine a0_ fun X Y=>?_);go_simp;(first|(refine ⟨_,g,?_⟩)|skip);refine Y _ ?_;clear Y X)
 go_simp
theorem V0.nilTk {w:World} {M:Nat→Nat→Prop} {v:Value} {q:AV} {t:Int} (hv:V0 w M (.agg [q,h5_,I t]) v) : V0 w M (.agg [q,.sl 3 [],I t]) v:=by
 cases hv with
 | agg _ us hl h1 h2=>
  refine .agg _ us hl (fun c hc=>?_) fun j c u hc hu=>?_
  ·simp only [List.mem_cons,List.not_mem_nil,or_false] at hc;rcases hc with rfl|rfl|rfl
   ·exact h1 _ (by simp)
   ·rfl
   ·rfl
  ·rcases j with _|_|_|j
   ·exact h2 0 c u hc hu
   ·simp only [List.getElem?_cons_zero,List.getElem?_cons_succ,Option.some.injEq] at hc;subst hc;exact (h2 1 _ u rfl hu).nilSl 3
   ·exact h2 2 c u hc hu
   ·simp at hc
theorem c6t (r:Ru) (hn:r.ranks.length≤1000000) : VC Tryz.prog 39 [c4_ r] (e9_ (st0 r)):=by
 refine (?_:VC Tryz.prog 39 [c4_ r] (.agg [g4_ (st0 r).q,h5_,I 0])).weak fun w M v hv=>hv.nilTk;unfold st0;simp only [g4_,a8m];have hl2:r.ranks.length≤1000000000:=by omega
 have hl3:(r.ranks.length:Int)≤1000000000:=by omega
 refine b7_ Tryz.func39 rfl (by kernel_rfl) (by kernel_rfl) rfl fun M0 w0=>?_;simp only [Tryz.ntmps39,Tryz.results39,b1_];repeat' with_reducible apply a8_
 refine a2_ [] ?_;repeat' first|(with_reducible first|apply a8_|apply a3_|apply a1_)|((with_reducible refine a0_ fun X Y=>?_);go_simp;refine Y _ ?_;clear Y X)
 refine a2_ [6] ?_;repeat ((with_reducible refine a0_ fun X Y=>?_);go_simp;refine Y _ ?_;clear Y X)
 apply a1_;apply a3_;refine r5_ (fun p a w R=>⟨_,R.toBag (id:=1) (sz:=1) rfl (by decide) (by kernel_rfl)⟩) ?_;go_simp;refine r5_ (fun p a w R=>R.bagArr (id:=1) rfl (by kernel_rfl)) ?_;go_simp;refine d2_ 0 0 1 rfl rfl rfl ?_;repeat' with_reducible apply c2_
 go_simp
theorem c6u:VC Tryz.prog 25 [e9_ stZ,.agg [h5_,h5_,I 0]] (B true):=by
 unfold stZ;refine b7_ Tryz.func25 rfl (by kernel_rfl) (by kernel_rfl) rfl fun M0 w0=>?_;simp only [Tryz.ntmps25,Tryz.results25,b1_];repeat' first|(with_reducible first|apply a8_|apply a3_|apply b0_|apply a9_|apply a1_|refine a2_ [] ?_)|((with_reducible refine a5_ ?_ ?_);(focus (go_simp;done)))|((with_reducible refine a0_ fun X Y=>?_);go_simp;refine Y _ ?_;clear Y X)
 apply a0r [2,3] (fun k=>[(5,I k)]) (fun k=>([] : Hp)) (fun _=>false) (0)
 ·go_simp<;>exact rfl
 ·go_simp
 ·intro k hk;omega
 ·intro k hk;omega
 ·intro HB K;repeat' first|(with_reducible first|apply a8_|apply a3_|apply c3_|apply e1_|apply a9_|apply b6_|apply a1_|refine a2_ [] ?_)|((with_reducible refine a5_ ?_ ?_);(focus (go_simp;done)))|((with_reducible refine a0_ fun X Y=>?_);go_simp;refine Y _ ?_;clear Y X)
  apply a0r [2,3] (fun k=>[(6,I k)]) (fun k=>([] : Hp)) (fun _=>false) (0)
  ·go_simp<;>exact rfl
  ·go_simp
  ·intro k hk;omega
  ·intro k hk;omega
  ·intro HB K;repeat' first|(with_reducible first|apply a8_|apply a3_|apply c3_|apply c2_|apply e1_|apply b6_|apply a1_|refine a2_ [] ?_)|((with_reducible refine a5_ ?_ ?_);(focus (go_simp;done)))|((with_reducible refine a0_ fun X Y=>?_);go_simp;refine Y _ ?_;clear Y X)
   go_simp
end Go.Proofs.YtoibondihdhnoaaGreatDoor
