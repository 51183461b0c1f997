/- Texts in one: Walks: the text of a state. -/
import Derived.Test.YtoibondihdhnoaaDoorFRX37
import Derived.Test.YtoibondihdhnoaaDoorFRX38
import Derived.Test.YtoibondihdhnoaaDoorFRX35
import Derived.Test.YtoibondihdhnoaaDoorFRX36
import Derived.Lib.ItoaLen
namespace Go.Proofs.YtoibondihdhnoaaDoor
open Go.RowKit
set_option maxRecDepth 100000
set_option maxHeartbeats 1000000
def txL (l:List UInt8) : List AV:=[S (mkB l)]
attribute [go_sem] txL
theorem b4v (s:ByteArray) : s.data.toList.length=s.size:=(Lib.size_eq s).symm
@[go_sem] theorem d5c:d4m 0 []=0:=c4d 0
@[go_sem] theorem d2k (c:UInt8) (l:List UInt8) : b4s c l 0=0:=rfl
@[go_sem] theorem d3e (c:UInt8) (l:List UInt8) : c7v c l 0=[]:=rfl
@[go_sem] theorem d3f:mkB []=⟨#[]⟩:=rfl
def b4w (n:Int) : ByteArray:=mkB (Lib.itoa n)
end Go.Proofs.YtoibondihdhnoaaDoor
namespace Go.Proofs.YtoibondihdhnoaaDoor
open Go.RowKit Go.Shelf
set_option maxRecDepth 100000
set_option maxHeartbeats 1000000
def d4n (c:UInt8) (s:ByteArray) : List ByteArray:=(d3d c s.data.toList).map mkB
theorem b2o (w:World) (k:Nat) (os:Array Obj) : Below w.heap.size w (Sort.grow (w.drewN k) os):=
 ⟨rfl,rfl,rfl,by show w.heap.size≤(w.heap++os).size;rw [Array.size_append];omega,fun j hj=>by show (w.heap++os)[j]? = _;rw [Array.getElem?_append_left hj]⟩
theorem c7y {f:FuncId} {a r:AV} (hg:a5f Tryd.prog f=true) (h:∀ w M v1,MOK w M→V0 w M a v1→Calls Tryd.prog f #[v1] w fun e w'=>∃ v,e = .returned v∧Below w.heap.size w w'∧V0 w' M r v) : VC Tryd.prog f [a] r:=
 ⟨hg,fun w M vs hM hl hv=>by
  obtain ⟨v1,rfl⟩:=List.length_eq_one_iff.1 hl;exact h w M v1 hM (hv 0 a v1 rfl rfl)⟩
theorem gf {w:World} {M:Nat→Nat→Prop} (h:MOK w M) : c3j w:=h.2.2.2
theorem b2p (n:Int) (h : -9223372036854775808≤n∧n≤9223372036854775807) : VC Tryd.prog 40 [I n] (S (b4w n)):=
 c7y (by kernel_rfl) fun w M v1 hM h1=>by
  obtain rfl:=V0.lit_inv h1;refine (Any.strconv_Itoa b9v n h.1 h.2 w (gf hM).2.1).mono fun e w' ⟨he,k,os,hw⟩=>⟨_,he,?_,.lit _⟩
  rw [hw];exact b2o w k os
theorem b0m:Builder.Extra Tryd.prog a3v where
 sizeBuilder:=by kernel_rfl
 liesBuilder:=by kernel_rfl
 t5:=Tryd.underlying5
 a5:=Tryd.isAgg5
 z5:=Tryd.sizeOf5
 v5:=Tryd.zeroValue5
 infoByte:=by kernel_rfl
 cellsByte:=by kernel_rfl
 sizeByte:=by kernel_rfl
 neB5:=by decide
def bl (b:ByteArray) : List UInt8:=b.data.toList
def a2l (l:List ByteArray) (sep:ByteArray) : ByteArray:=⟨(Lib.join (l.map bl) (bl sep)).toArray⟩
theorem b4x (l:List ByteArray) (sep:ByteArray) (h:(Lib.join (l.map bl) (bl sep)).length≤1000000000) (hl:l.length≤1000000000) : VC Tryd.prog 41 [a3n l,S sep] (S (a2l l sep)):=
 d1j (by kernel_rfl) fun w M v1 v2 h1 h2=>by
  obtain rfl:=V0.lit_inv h2;change V0 w M (.sl 1 (l.map l1_)) v1 at h1;generalize hes:l.map l1_=es at h1;cases h1 with
  | slNil _ A cap=>
   have hl:l=[]:=List.map_eq_nil_iff.1 hes;subst hl;exact (Any.strings_Join_none b4p b0m A cap sep w).mono fun e w' ⟨he,hw⟩=>⟨_,he,hw▸Below.refl _ _,by exact .lit _⟩
  | sl _ _ cap b o u hne hb hM hcap hsz h1 hc hv=>
   have hlen:es.length=l.length:=by rw [←hes,List.length_map]
   have hcells:∀ (j:Nat) (x:ByteArray),l[j]? = some x→w.cell? { block:=b,off:=o+j } = some (.string x):=fun j x hx=>by
    have hjl:=(List.getElem?_eq_some_iff.1 hx).1;have h3:=hv j (l1_ x) 0 (S x) (by rw [←hes];simp [hx]) rfl;have h4:=hc j 0 (by omega) (by decide);rw [V0.lit_inv h3,Nat.mul_one,Nat.add_zero] at h4;exact h4
   rw [hlen] at hcap ⊢;exact (Any.strings_Join b4p b0m b o cap l sep w hcells hb (by omega) hcap (Nat.le_trans h (by decide))).mono fun e w' ⟨he,hw⟩=>⟨_,he,hw,.lit _⟩
theorem c4f (x y:List UInt8) (r:List (List UInt8)) (s:List UInt8) : Lib.join (x::y::r) s=x++(s++Lib.join (y::r) s):=by
 rw [Lib.join_cons,Lib.join_cons];simp [Lib.joinTail]
theorem c0b (sep:List UInt8) (B:Nat) : ∀ (L:List (List UInt8)),(∀ x∈L,x.length≤B)→(Lib.join L sep).length≤L.length*(B+sep.length)
 | [],_=>by simp [Lib.join]
 | [x],h=>by
  have:=h x (by simp);have e:Lib.join [x] sep=x:=by simp [Lib.join]
  rw [e];simp;omega
 | x::y::r,h=>by
  have h1:=h x (by simp);have h2:=c0b sep B (y::r) fun z hz=>h z (List.mem_cons_of_mem _ hz);rw [c4f,List.length_append,List.length_append,List.length_cons,Nat.add_mul,Nat.one_mul];omega
def i64 (n:Int) : Prop:=-9223372036854775808≤n∧n≤9223372036854775807
structure SmallS (s:St) : Prop where
 nq:s.q.length≤300
 q1:∀ l∈s.q,l.length≤300∧∀ c∈l,c.size≤1000
 nt:s.tk.length≤300
 t1:∀ t∈s.tk,t.car.size≤1000∧i64 t.rank∧i64 t.time
 tm:i64 s.time
def x8_ (t:Tk) : ByteArray:=a2l [t.car,b4w t.rank,b4w t.time] ⟨#[58]⟩
def a1l (s:St) : ByteArray:=a2l (s.tk.map x8_) ⟨#[32]⟩
def h8_ (s:St) (k:Nat) : List ByteArray:=b4w s.time::(s.q.take k).map fun l=>a2l l ⟨#[32]⟩
def c0c (s:St) : ByteArray:=a2l (h8_ s s.q.length++[a1l s]) ⟨#[124]⟩
theorem a4j {l:List ByteArray} {s:ByteArray} {B:Nat} (h:∀ x∈l,x.size≤B) : (Lib.join (l.map bl) (bl s)).length≤l.length*(B+s.size):=by
 have:=c0b (bl s) B (l.map bl) fun x hx=>by
  obtain ⟨y,hy,rfl⟩:=List.mem_map.1 hx;have h1:=h y hy;have h2:(bl y).length=y.size:=b4v y;omega
 rw [List.length_map,show (bl s).length=s.size from b4v s] at this;exact this
theorem v8_ (l:List ByteArray) (s:ByteArray) : (a2l l s).size=(Lib.join (l.map bl) (bl s)).length:=by
 unfold a2l;rw [←b4v]
theorem c0d {n:Int} (h:i64 n) : (b4w n).size≤21:=by
 have:=Lib.itoa_length_le n h.1 h.2;rw [←b4v];exact this
theorem a8o {s:St} {k:Nat} (h:k≤s.q.length) : (h8_ s k).length=k+1:=by simp [h8_,List.length_take];omega
theorem c4g {s:St} {k:Nat} (h:k < s.q.length) : h8_ s (k+1)=h8_ s k++[a2l (qat s.q k) ⟨#[32]⟩]:=by
 rw [h8_,h8_,l0_ h,List.map_append,List.cons_append,f3_ h];rfl
def k1_ (s:St) (k:Nat) : List ByteArray:=(s.tk.take k).map x8_
theorem b2q {s:St} {k:Nat} (h:k≤s.tk.length) : (k1_ s k).length=k:=by simp [k1_,List.length_take];omega
theorem c4h {s:St} {k:Nat} (h:k < s.tk.length) : k1_ s (k+1)=k1_ s k++[x8_ (d8_ s.tk k)]:=by
 rw [k1_,k1_,l0_ h,List.map_append,f5_ h];rfl
theorem a8p (s:St) (h:SmallS s) : VC Tryd.prog 19 [c9_ s] (S (c0c s)):=by
 have hq:=h.q1;have ht:=h.t1;have hnq:=h.nq;have hnt:=h.nt;have bq:∀ k,k < s.q.length→(a2l (qat s.q k) ⟨#[32]⟩).size≤301000:=fun k hk=>by
  obtain ⟨h1,h2⟩:=hq _ (List.getElem_mem hk);rw [v8_,f3_ hk];refine Nat.le_trans (a4j h2) ?_;have:s.q[k].length*(1000+(⟨#[32]⟩ : ByteArray).size)≤300*1001:=Nat.mul_le_mul h1 (Nat.le_refl _);omega
 have bt:∀ k,k < s.tk.length→(x8_ (d8_ s.tk k)).size≤3003:=fun k hk=>by
  obtain ⟨h1,h2,h3⟩:=ht _ (List.getElem_mem hk);unfold x8_;rw [v8_,f5_ hk];refine Nat.le_trans (a4j (B:=1000) fun x hx=>?_) (Nat.le_refl _);simp only [List.mem_cons,List.not_mem_nil,or_false] at hx;rcases hx with rfl|rfl|rfl
  ·exact h1
  ·exact Nat.le_trans (c0d h2) (by omega)
  ·exact Nat.le_trans (c0d h3) (by omega)
 have etk:k1_ s s.tk.length=s.tk.map x8_:=by rw [k1_,List.take_length]
 have hts:∀ x∈k1_ s s.tk.length,x.size≤3003:=fun x hx=>by
  rw [etk] at hx;obtain ⟨y,hy,rfl⟩:=List.mem_map.1 hx;obtain ⟨k,hk,rfl⟩:=List.getElem_of_mem hy;rw [←f5_ hk];exact bt k hk
 have lts:(Lib.join ((k1_ s s.tk.length).map bl) (bl ⟨#[32]⟩)).length≤901200:=by
  refine Nat.le_trans (a4j hts) ?_;rw [b2q (Nat.le_refl _)];exact Nat.mul_le_mul hnt (Nat.le_refl _)
 have bts:(a1l s).size≤901200:=by
  unfold a1l;rw [v8_,←etk];exact lts
 have hall:∀ x∈h8_ s s.q.length++[a1l s],x.size≤1000000:=fun x hx=>by
  rcases List.mem_append.1 hx with hx|hx
  ·rw [h8_,List.take_length] at hx;rcases List.mem_cons.1 hx with rfl|hx
   ·exact Nat.le_trans (c0d h.tm) (by omega)
   ·obtain ⟨y,hy,rfl⟩:=List.mem_map.1 hx;obtain ⟨k,hk,rfl⟩:=List.getElem_of_mem hy;have:=bq k hk;rw [f3_ hk] at this;omega
  ·simp at hx;rw [hx];omega
 have lall:(Lib.join ((h8_ s s.q.length++[a1l s]).map bl) (bl ⟨#[124]⟩)).length≤1000000000:=by
  refine Nat.le_trans (a4j hall) ?_;rw [List.length_append,a8o (Nat.le_refl _)];have:(s.q.length+1+1)*(1000000+1)≤302*1000001:=Nat.mul_le_mul (by omega) (Nat.le_refl _);simp only [List.length_cons,List.length_nil];have e:(⟨#[124]⟩ : ByteArray).size=1:=rfl;rw [e];omega
 have g0:=b2p s.time h.tm;have HJ1:=Lib.hid (b4x (k1_ s s.tk.length) ⟨#[32]⟩ (by omega) (by rw [b2q (Nat.le_refl _)];omega));have HJ2:=Lib.hid (b4x (h8_ s s.q.length++[a1l s]) ⟨#[124]⟩ lall (by rw [List.length_append,a8o (Nat.le_refl _)];simp;omega));have HQ:Hid (∀ k,k < s.q.length→VC Tryd.prog 41 [a3n (qat s.q k),S ⟨#[32]⟩] (S (a2l (qat s.q k) ⟨#[32]⟩))):=Lib.hid fun k hk=>by
  obtain ⟨h1,h2⟩:=hq _ (List.getElem_mem hk);rw [←f3_ hk] at h1 h2;have:=bq k hk;rw [v8_] at this;exact b4x (qat s.q k) ⟨#[32]⟩ (Nat.le_trans this (by omega)) (by omega)
 have HT:Hid (∀ k,k < s.tk.length→VC Tryd.prog 40 [I (d8_ s.tk k).rank] (S (b4w (d8_ s.tk k).rank))∧VC Tryd.prog 40 [I (d8_ s.tk k).time] (S (b4w (d8_ s.tk k).time))∧VC Tryd.prog 41 [a3n [(d8_ s.tk k).car,b4w (d8_ s.tk k).rank,b4w (d8_ s.tk k).time],S ⟨#[58]⟩] (S (x8_ (d8_ s.tk k)))):=Lib.hid fun k hk=>by
  obtain ⟨h1,h2,h3⟩:=ht _ (List.getElem_mem hk);rw [←f5_ hk] at h2 h3;have:=bt k hk;unfold x8_ at this;rw [v8_] at this;exact ⟨b2p _ h2,b2p _ h3,b4x [(d8_ s.tk k).car,b4w (d8_ s.tk k).rank,b4w (d8_ s.tk k).time] ⟨#[58]⟩ (Nat.le_trans this (by omega)) (by simp)⟩
 have HE:=Lib.hid etk;unfold c0c;unfold a1l at *;clear hq ht bq bt hts lts bts hall lall etk h;generalize hR:a2l (h8_ s s.q.length++[a2l (s.tk.map x8_) ⟨#[32]⟩]) ⟨#[124]⟩=R at *;clear hR;refine c0_ Tryd.func19 rfl (by kernel_rfl) (by kernel_rfl) rfl fun M0 w0=>?_;simp only [Tryd.ntmps19,Tryd.results19,b5_];have e0:h8_ s 0=[b4w s.time]:=rfl;have e1:k1_ s 0=[]:=rfl;repeat' first|(with_reducible first|apply a9_|apply a3_|apply a8_|apply a1_|refine a2_ [12] ?_)|((with_reducible refine a0_ fun X Y=>?_);go_simp;(first|(with_reducible refine ⟨_,g0,?_⟩)|skip);refine Y _ ?_;clear Y X)
 apply b3d [1,14,15] (fun k=>[(16,I k),(3,.osl 0)]) (fun k=>([some (.arr 9 1 false ((h8_ s k).map l1_))] : Hp))  (s.q.length)
 ·go_simp<;>exact rfl
 ·go_simp
 ·intro k hk K hK;obtain ⟨w1,w2,w3,w4,w5,w6⟩:=ixs (m:=k) (by omega);have HS:=Lib.hid (c4g hk);have hnl:=a8o (s:=s) (k:=k) (by omega);have hb:(h8_ s k).length+1≤1000000000:=by omega
  clear hnl;have gj:=HQ.out k hk;generalize a2l (qat s.q k) ⟨#[32]⟩=J at *;repeat' first|(with_reducible first|apply a9_|apply a3_|apply b0_|apply a8_|apply b1_|apply a1_|refine a2_ [] ?_)|((with_reducible refine a7_ ?_ ?_);(focus (go_simp;done)))|((with_reducible refine a0_ fun X Y=>?_);go_simp;(first|(with_reducible refine ⟨_,gj,?_⟩)|skip);refine Y _ ?_;clear Y X)
  refine hK _ ?_;rw [HS.out];go_simp
 ·intro K;repeat' first|(with_reducible first|apply a9_|apply a3_|apply b8_|apply d4_|apply a8_|apply b7_|apply a1_|refine a2_ [6] ?_)|((with_reducible refine a6_ ?_ ?_);(focus (go_simp;done)))|((with_reducible refine a0_ fun X Y=>?_);go_simp;refine Y _ ?_;clear Y X)
  apply b3d [3,27,28] (fun k=>[(29,I k),(6,.osl 1)]) (fun k=>([some (.arr 9 1 false ((h8_ s s.q.length).map l1_)),some (.arr 9 1 (decide (k1_ s k=[])) ((k1_ s k).map l1_))] : Hp))  (s.tk.length)
  ·go_simp<;>exact rfl
  ·go_simp
  ·intro k hk K hK;obtain ⟨w1,w2,w3,w4,w5,w6⟩:=ixs (m:=k) (by omega);have HS:=Lib.hid (c4h hk);have hnl:=b2q (s:=s) (k:=k) (by omega);have hb:(k1_ s k).length+1≤1000000000:=by omega
   clear hnl;obtain ⟨g1,g2,g3⟩:=HT.out k hk;generalize x8_ (d8_ s.tk k)=J at *;generalize b4w (d8_ s.tk k).rank=D1 at *;generalize b4w (d8_ s.tk k).time=D2 at *;repeat' with_reducible apply a9_
   refine a2_ [] ?_;repeat' first|(with_reducible first|apply a9_|apply a3_|apply b0_|apply a8_|apply a1_)|((with_reducible refine a7_ ?_ ?_);(focus (go_simp;done)))|((with_reducible refine a0_ fun X Y=>?_);go_simp;refine Y _ ?_;clear Y X)
   refine a2_ [] ?_;repeat' first|(with_reducible first|apply a3_|apply a1_)|((with_reducible refine a0_ fun X Y=>?_);go_simp;refine Y _ ?_;clear Y X)
   refine a9b 12 [45] 1 [] (by kernel_rfl) (by kernel_rfl) (by kernel_rfl) (by kernel_rfl) rfl ⟨rfl,rfl⟩ rfl ?_;simp only [List.take,List.drop];repeat' first|with_reducible apply a5_|((with_reducible refine a4_ fun X Y=>?_);go_simp;(first|(with_reducible refine ⟨_,g1,?_⟩)|(with_reducible refine ⟨_,g2,?_⟩)|(refine ⟨_,g3,?_⟩)|skip);refine Y _ ?_;clear Y X)
   refine ⟨_,by go_simp,by go_simp;exact rfl,?_,?_⟩
   ·intro t ht;simp at ht
   go_simp;repeat' first|(with_reducible first|apply a3_|apply b1_|apply a1_|refine a2_ [] ?_)|((with_reducible refine a0_ fun X Y=>?_);go_simp;refine Y _ ?_;clear Y X)
   refine hK _ ?_;rw [HS.out];go_simp
  ·intro K;have hj:=HJ1.out;rw [HE.out] at hj ⊢;have hj2:=HJ2.out;generalize a2l (s.tk.map x8_) ⟨#[32]⟩=J at *;generalize s.tk.map x8_=TT at *;have hb:(h8_ s s.q.length).length+1≤1000000000:=by rw [a8o (Nat.le_refl _)];omega
   generalize h8_ s s.q.length=SP at *;have e2:(SP++[J]).map l1_=SP.map l1_++[[S J]]:=by simp [l1_]
   unfold a3n at hj2;rw [e2] at hj2;repeat' first|(with_reducible first|apply a9_|apply a3_|apply b8_|apply c5_|apply d4_|apply b7_|apply a1_|refine a2_ [] ?_)|((with_reducible refine a6_ ?_ ?_);(focus (go_simp;done)))|((with_reducible refine a0_ fun X Y=>?_);go_simp;(first|(refine ⟨_,⟨hj,rfl⟩,?_⟩)|(refine ⟨_,⟨hj2,rfl⟩,?_⟩)|skip);refine Y _ ?_;clear Y X)
   go_simp
end Go.Proofs.YtoibondihdhnoaaDoor
