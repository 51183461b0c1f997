/- Texts in one: Walks: the text of a state, of the reference. -/
import Derived.Test.YtoibondihdhnoaaGreatDoorFRB51
import Derived.Test.YtoibondihdhnoaaGreatDoorFRB38
namespace Go.Proofs.YtoibondihdhnoaaGreatDoor
open Go.RowKit Go.Shelf
set_option maxRecDepth 100000
set_option maxHeartbeats 2000000
theorem a9g (s y:List UInt8) : ∀ r:List (List UInt8),Lib.joinTail s (r++[y])=Lib.joinTail s r++(s++y)
 | []=>by simp [Lib.joinTail]
 | x::r=>by simp [Lib.joinTail,List.append_assoc]
theorem a2x {a:List ByteArray} (h:a≠[]) (x s:ByteArray) : g9_ (a++[x]) s=g9_ a s++s++x:=by
 apply a3g
 cases a with
 | nil=>exact absurd rfl h
 | cons y r=>
  simp only [c1o,a0t,List.cons_append,List.map_cons,List.map_append,List.map_nil]
  rw [Lib.join_cons,Lib.join_cons,a9g]
  simp [List.append_assoc]
theorem b1w (x s:ByteArray) : g9_ [x] s=x:=by
 apply a3g
 rw [a0t,List.map_cons,List.map_nil,Lib.join_one]
theorem b1x (s:ByteArray) : g9_ [] s=⟨#[]⟩:=by
 apply a3g
 rw [a0t,List.map_nil,Lib.join_nil]
 rfl
theorem b3z (a b c s:ByteArray) : g9_ [a,b,c] s=a++s++b++s++c:=by
 apply a3g
 simp only [c1o]
 show (Lib.join ([a,b,c].map bl) (bl s))=_
 rw [List.map_cons,Lib.join_cons]
 simp [Lib.joinTail,List.append_assoc]
theorem v4_ {l:List ByteArray} {k:Nat} (h:k < l.length) : l.take (k+1)=l.take k++[l[k]]:=by
 rw [List.take_add_one,List.getElem?_eq_getElem h]
 rfl
def y6_ (l:List ByteArray) (k:Nat) : ByteArray:=g9_ (l.take k) ⟨#[32]⟩
theorem b8h (l:List ByteArray) : y6_ l 0=⟨#[]⟩:=b1x _
theorem c2n {l:List ByteArray} (h:0 < l.length) : y6_ l (0+1)=y6_ l 0++l[0]:=by
 unfold y6_
 rw [v4_ h,List.take_zero,List.nil_append,b1w,b1x]
 apply a3g
 rw [c1o]
 rfl
theorem b8i {l:List ByteArray} {k:Nat} (h:k < l.length) (hk:0 < k) : y6_ l (k+1)=y6_ l k++⟨#[32]⟩++l[k]:=by
 unfold y6_
 rw [v4_ h,a2x]
 intro e
 have:=congrArg List.length e
 rw [List.length_take,List.length_nil] at this
 omega
theorem c6a {l:List ByteArray} (hl:l.length≤1000) (hs:∀ c∈l,c.size≤100000) (k:Nat) : (y6_ l k).size≤100001000:=by
 unfold y6_
 rw [f8_]
 refine Nat.le_trans (j9_ (B:=100000) fun x hx=>hs x (List.mem_of_mem_take hx)) ?_
 have h1:(l.take k).length≤1000:=Nat.le_trans (by rw [List.length_take];omega) hl
 have h2:(⟨#[32]⟩ : ByteArray).size=1:=rfl
 rw [h2]
 exact Nat.le_trans (Nat.mul_le_mul_right _ h1) (by decide)
theorem b6n (l:List ByteArray) (hl:l.length≤1000) (hs:∀ c∈l,c.size≤100000) : VC Tryz.prog 126 [p2_ l] (S (g9_ l ⟨#[32]⟩)):=by
 have e:g9_ l ⟨#[32]⟩=y6_ l l.length:=by rw [y6_,List.take_length]
 have HL:=Lib.hid (c6a hl hs)
 have HS:=Lib.hid hs
 rw [e]
 clear e hs
 have e0:=b8h l
 refine c0_ Tryz.func126 rfl (by kernel_rfl) (by kernel_rfl) rfl fun M0 w0=>?_
 simp only [Tryz.ntmps126,Tryz.results126,b4_]
 repeat' (first|(with_reducible first|apply a9_|apply a3_|apply a8_|apply a1_|refine a2_ [] ?_)|((with_reducible refine a0_ fun X Y=>?_);go_simp;refine Y _ ?_;clear Y X))
 apply a9p [0] (fun k=>[(4,I k),(3,S (y6_ l k))]) (fun k=>([] : Hp))  (l.length)
 ·go_simp<;>exact rfl
 ·go_simp
 ·intro k hk K hK
  obtain ⟨w1,w2,w3,w4,w5,w6⟩:=ixs (m:=k) (by omega)
  have b1:=HL.out k
  have b2:=HS.out _ (List.getElem_mem hk)
  have hs1:(⟨#[32]⟩ : ByteArray).size=1:=rfl
  by_cases h0:k=0
  ·subst h0
   have HJ:=Lib.hid (c2n hk)
   have z1:(y6_ l 0).size+l[0].size≤9223372036854775807:=by omega
   clear b1 b2 hs1 e0
   generalize y6_ l 0=J at *
   repeat' (first|(with_reducible first|apply a9_|apply a3_|apply b0_|apply a8_|apply b3_|apply a1_|refine a2_ [] ?_)|((with_reducible refine a7_ ?_ ?_);(focus (go_simp;done)))|((with_reducible refine a5_ ?_ ?_);(focus (go_simp;done)))|((with_reducible refine a0_ fun X Y=>?_);go_simp;refine Y _ ?_;clear Y X))
   refine hK _ ?_
   rw [HJ.out]
   go_simp
  ·have hp:0 < k:=by omega
   have HJ:=Lib.hid (b8i hk hp)
   have z1:(y6_ l k).size+1≤9223372036854775807:=by omega
   have z2:(y6_ l k).size+1+l[k].size≤9223372036854775807:=by omega
   clear b1 b2 hs1
   generalize y6_ l k=J at *
   repeat' (first|(with_reducible first|apply a9_|apply a3_|apply b0_|apply a8_|apply b3_|apply a1_|refine a2_ [] ?_)|((with_reducible refine a7_ ?_ ?_);(focus (go_simp;done)))|((with_reducible refine a0_ fun X Y=>?_);go_simp;refine Y _ ?_;clear Y X))
   refine hK _ ?_
   rw [HJ.out]
   go_simp
 ·intro K
  repeat' (first|(with_reducible first|apply a9_|apply a3_|apply c2_|apply c4_|apply d0_|apply b7_|apply a1_|refine a2_ [] ?_)|((with_reducible refine a5_ ?_ ?_);(focus (go_simp;done)))|((with_reducible refine a0_ fun X Y=>?_);go_simp;refine Y _ ?_;clear Y X))
  go_simp
def b8j (s:St) (k:Nat) : ByteArray:=g9_ (d5_ s k) ⟨#[124]⟩
theorem c2o (s:St) : b8j s 0=q5_ s.time:=b1w _ _
theorem c2p {s:St} {k:Nat} (h:k < s.q.length) : b8j s (k+1)=b8j s k++⟨#[124]⟩++g9_ (qat s.q k) ⟨#[32]⟩:=by
 unfold b8j
 rw [b5q h,a2x]
 unfold d5_
 simp
theorem c2q (s:St) : r3_ s=b8j s s.q.length++⟨#[124]⟩++i3_ s:=by
 unfold r3_ b8j
 rw [a2x]
 unfold d5_
 simp
theorem b6o {s:St} (h:SmallS s) {k:Nat} (hk:k < s.q.length) : (g9_ (qat s.q k) ⟨#[32]⟩).size≤301000:=by
 obtain ⟨h1,h2⟩:=h.q1 _ (List.getElem_mem hk)
 rw [f8_,g4_ hk]
 refine Nat.le_trans (j9_ h2) ?_
 have:s.q[k].length*(1000+(⟨#[32]⟩ : ByteArray).size)≤300*1001:=Nat.mul_le_mul h1 (Nat.le_refl _)
 omega
theorem d0e {s:St} (h:SmallS s) {k:Nat} (hk:k < s.tk.length) : (f7_ (e4_ s.tk k)).size≤3003:=by
 obtain ⟨h1,h2,h3⟩:=h.t1 _ (List.getElem_mem hk)
 unfold f7_
 rw [f8_,d6_ hk]
 refine Nat.le_trans (j9_ (B:=1000) fun x hx=>?_) (Nat.le_refl _)
 have d1:=y1_ h2
 have d2:=y1_ h3
 simp only [List.mem_cons,List.not_mem_nil,or_false] at hx
 rcases hx with rfl|rfl|rfl<;>omega
theorem d0f {s:St} (h:SmallS s) {k:Nat} (hk:k≤s.q.length) : (b8j s k).size≤100000000:=by
 have hn:=h.nq
 unfold b8j
 rw [f8_]
 refine Nat.le_trans (j9_ (B:=301000) fun x hx=>?_) ?_
 ·unfold d5_ at hx
  rcases List.mem_cons.1 hx with rfl|hx
  ·have:=y1_ h.tm
   omega
  ·obtain ⟨l,hl,rfl⟩:=List.mem_map.1 hx
   obtain ⟨i,hi,rfl⟩:=List.getElem_of_mem (List.mem_of_mem_take hl)
   have:=b6o h hi
   rwa [g4_ hi] at this
 ·rw [a2p hk]
  have h2:(⟨#[124]⟩ : ByteArray).size=1:=rfl
  rw [h2]
  exact Nat.le_trans (Nat.mul_le_mul_right _ (show k+1≤301 by omega)) (by decide)
theorem a9h (s:St) (h:SmallS s) : VC Tryz.prog 64 [i0_ s] (S (r3_ s)):=by
 have HA:=Lib.hid (fun k (hk:k≤s.q.length)=>d0f h hk)
 have g0:=a5d s.time h.tm
 have HQ:Hid (∀ k,k < s.q.length→VC Tryz.prog 126 [p2_ (qat s.q k)] (S (g9_ (qat s.q k) ⟨#[32]⟩))∧(g9_ (qat s.q k) ⟨#[32]⟩).size≤301000):=Lib.hid fun k hk=>by
  obtain ⟨h1,h2⟩:=h.q1 _ (List.getElem_mem hk)
  rw [←g4_ hk] at h1 h2
  exact ⟨b6n _ (by omega) fun c hc=>Nat.le_trans (h2 c hc) (by decide),b6o h hk⟩
 have HT:Hid (∀ k,k < s.tk.length→VC Tryz.prog 113 [I (e4_ s.tk k).rank] (S (q5_ (e4_ s.tk k).rank))∧VC Tryz.prog 113 [I (e4_ s.tk k).time] (S (q5_ (e4_ s.tk k).time))∧(e4_ s.tk k).car.size≤1000∧(q5_ (e4_ s.tk k).rank).size≤21∧(q5_ (e4_ s.tk k).time).size≤21∧f7_ (e4_ s.tk k)=(e4_ s.tk k).car++⟨#[58]⟩++q5_ (e4_ s.tk k).rank++⟨#[58]⟩++q5_ (e4_ s.tk k).time):=Lib.hid fun k hk=>by
  obtain ⟨h1,h2,h3⟩:=h.t1 _ (List.getElem_mem hk)
  rw [←d6_ hk] at h1 h2 h3
  exact ⟨a5d _ h2,a5d _ h3,h1,y1_ h2,y1_ h3,b3z _ _ _ _⟩
 have etk:f0_ s s.tk.length=s.tk.map f7_:=by rw [f0_,List.take_length]
 have hts:∀ c∈s.tk.map f7_,c.size≤3003:=fun c hc=>by
  obtain ⟨t,ht,rfl⟩:=List.mem_map.1 hc
  obtain ⟨i,hi,rfl⟩:=List.getElem_of_mem ht
  have:=d0e h hi
  rwa [d6_ hi] at this
 have hnt:=h.nt
 have hnq:=h.nq
 have HJ:=Lib.hid (b6n (s.tk.map f7_) (by rw [List.length_map];omega) fun c hc=>Nat.le_trans (hts c hc) (by decide))
 have HB:Hid ((g9_ (s.tk.map f7_) ⟨#[32]⟩).size≤1000000):=Lib.hid (by
  rw [f8_]
  refine Nat.le_trans (j9_ hts) ?_
  rw [List.length_map]
  have h2:(⟨#[32]⟩ : ByteArray).size=1:=rfl
  rw [h2]
  exact Nat.le_trans (Nat.mul_le_mul_right _ hnt) (by decide))
 have HE:=Lib.hid etk
 have HR:=Lib.hid (c2q s)
 obtain ⟨R,hR⟩ : ∃ R,r3_ s=R:=⟨_,rfl⟩
 rw [hR] at HR ⊢
 clear hR
 unfold i3_ at HR
 clear h etk hts
 have e0:=(c2o s).symm
 have e1:f0_ s 0=[]:=rfl
 refine c0_ Tryz.func64 rfl (by kernel_rfl) (by kernel_rfl) rfl fun M0 w0=>?_
 simp only [Tryz.ntmps64,Tryz.results64,b4_]
 repeat' (first|(with_reducible first|apply a9_|apply a3_|apply a8_|apply a1_|refine a2_ [] ?_)|((with_reducible refine a0_ fun X Y=>?_);go_simp;(first|(with_reducible refine ⟨_,g0,?_⟩)|skip);refine Y _ ?_;clear Y X))
 apply a9p [1] (fun k=>[(4,I k),(3,S (b8j s k))]) (fun k=>([] : Hp))  (s.q.length)
 ·go_simp<;>exact rfl
 ·go_simp
 ·intro k hk K hK
  obtain ⟨w1,w2,w3,w4,w5,w6⟩:=ixs (m:=k) (by omega)
  obtain ⟨gj,b1⟩:=HQ.out k hk
  have b2:=HA.out k (by omega)
  have HS:=Lib.hid (c2p hk)
  have hs1:(⟨#[124]⟩ : ByteArray).size=1:=rfl
  generalize g9_ (qat s.q k) ⟨#[32]⟩=J at *
  have z1:(b8j s k).size+1≤9223372036854775807:=by omega
  have z2:(b8j s k).size+1+J.size≤9223372036854775807:=by omega
  clear b1 b2 hs1 e0
  generalize b8j s k=A at *
  repeat' (first|(with_reducible first|apply a9_|apply a3_|apply b0_|apply a8_|apply b3_|apply a1_|refine a2_ [] ?_)|((with_reducible refine a7_ ?_ ?_);(focus (go_simp;done)))|((with_reducible refine a0_ fun X Y=>?_);go_simp;(first|(with_reducible refine ⟨_,gj,?_⟩)|skip);refine Y _ ?_;clear Y X))
  refine hK _ ?_
  rw [HS.out]
  go_simp
 ·intro K
  clear e0
  have b2:=HA.out s.q.length (Nat.le_refl _)
  clear HA
  generalize b8j s s.q.length=A at *
  repeat' (first|(with_reducible first|apply a9_|apply a3_|apply c2_|apply d0_|apply a8_|apply b7_|apply a1_|refine a2_ [5] ?_)|((with_reducible refine a5_ ?_ ?_);(focus (go_simp;done)))|((with_reducible refine a0_ fun X Y=>?_);go_simp;refine Y _ ?_;clear Y X))
  apply a9p [1,3] (fun k=>[(6,I k),(5,.osl 0)]) (fun k=>([some (.arr 9 1 (decide (f0_ s k=[])) ((f0_ s k).map p1_))] : Hp))  (s.tk.length)
  ·go_simp<;>exact rfl
  ·go_simp
  ·intro k hk K hK
   obtain ⟨w1,w2,w3,w4,w5,w6⟩:=ixs (m:=k) (by omega)
   have HS:=Lib.hid (b5r hk)
   have hnl:=a8s (s:=s) (k:=k) (by omega)
   have hb:(f0_ s k).length+1≤1000000000:=by omega
   clear hnl
   obtain ⟨g1,g2,b3,b4,b5,hT⟩:=HT.out k hk
   rw [hT] at HS
   clear hT b2
   generalize q5_ (e4_ s.tk k).rank=D1 at *
   generalize q5_ (e4_ s.tk k).time=D2 at *
   have hs1:(⟨#[58]⟩ : ByteArray).size=1:=rfl
   have z1:(e4_ s.tk k).car.size+1≤9223372036854775807:=by omega
   have z2:(e4_ s.tk k).car.size+1+D1.size≤9223372036854775807:=by omega
   have z3:(e4_ s.tk k).car.size+1+D1.size+1≤9223372036854775807:=by omega
   have z4:(e4_ s.tk k).car.size+1+D1.size+1+D2.size≤9223372036854775807:=by omega
   clear b3 b4 b5 hs1
   repeat' (first|(with_reducible first|apply a9_|apply a3_|apply b0_|apply a8_|apply b3_|apply a1_|refine a2_ [] ?_|apply a6_)|((with_reducible refine a7_ ?_ ?_);(focus (go_simp;done)))|((with_reducible first|refine a0_ fun X Y=>?_|refine a4_ fun X Y=>?_);go_simp;(first|(with_reducible refine ⟨_,g1,?_⟩)|(with_reducible refine ⟨_,g2,?_⟩)|skip);refine Y _ ?_;clear Y X)|((refine b9_ 28 26 [] rfl (by kernel_rfl) (by kernel_rfl) ?_);simp only [List.take,List.drop]))
   refine hK _ ?_
   rw [HS.out]
   go_simp
  ·intro K
   have hj:=HJ.out
   have b3:=HB.out
   have HR2:=Lib.hid HR.out
   rw [HE.out]
   clear HR HJ HB
   generalize g9_ (s.tk.map f7_) ⟨#[32]⟩=J at *
   generalize s.tk.map f7_=TT at *
   have hs1:(⟨#[124]⟩ : ByteArray).size=1:=rfl
   have z1:A.size+1≤9223372036854775807:=by omega
   have z2:A.size+1+J.size≤9223372036854775807:=by omega
   clear b2 b3 hs1
   rw [HR2.out]
   repeat' (first|(with_reducible first|apply a9_|apply a3_|apply c2_|apply c4_|apply d0_|apply b7_|apply a1_|refine a2_ [] ?_)|((with_reducible refine a5_ ?_ ?_);(focus (go_simp;done)))|((with_reducible refine a0_ fun X Y=>?_);go_simp;(first|(refine ⟨_,⟨hj,rfl⟩,?_⟩)|skip);refine Y _ ?_;clear Y X))
   go_simp
end Go.Proofs.YtoibondihdhnoaaGreatDoor
