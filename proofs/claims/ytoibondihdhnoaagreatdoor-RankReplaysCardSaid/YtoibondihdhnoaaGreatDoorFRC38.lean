/- Texts in one: Walks: the text of a state. -/
import Derived.Test.YtoibondihdhnoaaGreatDoorFRC37
import Derived.Lib.ItoaLen
namespace Go.Proofs.YtoibondihdhnoaaGreatDoor
open Go.RowKit Go.Shelf
set_option maxRecDepth 100000
set_option maxHeartbeats 1000000
def i64 (n:Int) : Prop:=-9223372036854775808≤n∧n≤9223372036854775807
structure SmallS (s:St) : Prop where
 nq:s.q.length≤300
 q1:∀ l∈s.q,l.length≤300∧∀ c∈l,c.size≤1000
 nt:s.tk.length≤300
 t1:∀ t∈s.tk,t.car.size≤1000∧i64 t.rank∧i64 t.time
 tm:i64 s.time
def v7_ (t:Tk) : ByteArray:=a1f [t.car,a8v t.rank,a8v t.time] ⟨#[58]⟩
def a0l (s:St) : ByteArray:=a1f (s.tk.map v7_) ⟨#[32]⟩
def g0_ (s:St) (k:Nat) : List ByteArray:=a8v s.time::(s.q.take k).map fun l=>a1f l ⟨#[32]⟩
def b7t (s:St) : ByteArray:=a1f (g0_ s s.q.length++[a0l s]) ⟨#[124]⟩
theorem a2y {l:List ByteArray} {s:ByteArray} {B:Nat} (h:∀ x∈l,x.size≤B) : (Lib.join (l.map bl) (bl s)).length≤l.length*(B+s.size):=by
 have:=b7s (bl s) B (l.map bl) fun x hx=>by
  obtain ⟨y,hy,rfl⟩:=List.mem_map.1 hx;have h1:=h y hy;have h2:(bl y).length=y.size:=a5i y;omega
 rw [List.length_map,show (bl s).length=s.size from a5i s] at this;exact this
theorem t3_ (l:List ByteArray) (s:ByteArray) : (a1f l s).size=(Lib.join (l.map bl) (bl s)).length:=by
 unfold a1f;rw [←a5i]
theorem b7u {n:Int} (h:i64 n) : (a8v n).size≤21:=by
 have:=Lib.itoa_length_le n h.1 h.2;rw [←a5i];exact this
theorem a7d {s:St} {k:Nat} (h:k≤s.q.length) : (g0_ s k).length=k+1:=by simp [g0_,List.length_take];omega
theorem c2d {s:St} {k:Nat} (h:k < s.q.length) : g0_ s (k+1)=g0_ s k++[a1f (qat s.q k) ⟨#[32]⟩]:=by
 rw [g0_,g0_,a1b h,List.map_append,List.cons_append,h0_ h];rfl
def i2_ (s:St) (k:Nat) : List ByteArray:=(s.tk.take k).map v7_
theorem b1e {s:St} {k:Nat} (h:k≤s.tk.length) : (i2_ s k).length=k:=by simp [i2_,List.length_take];omega
theorem c2e {s:St} {k:Nat} (h:k < s.tk.length) : i2_ s (k+1)=i2_ s k++[v7_ (k8_ s.tk k)]:=by
 rw [i2_,i2_,a1b h,List.map_append,j4_ h];rfl
theorem a7e (s:St) (h:SmallS s) : VC Tryz.prog 61 [e9_ s] (S (b7t s)):=by
 have hq:=h.q1;have ht:=h.t1;have hnq:=h.nq;have hnt:=h.nt;have bq:∀ k,k < s.q.length→(a1f (qat s.q k) ⟨#[32]⟩).size≤301000:=fun k hk=>by
  obtain ⟨h1,h2⟩:=hq _ (List.getElem_mem hk);rw [t3_,h0_ hk];refine Nat.le_trans (a2y h2) ?_;have:s.q[k].length*(1000+(⟨#[32]⟩ : ByteArray).size)≤300*1001:=Nat.mul_le_mul h1 (Nat.le_refl _);omega
 have bt:∀ k,k < s.tk.length→(v7_ (k8_ s.tk k)).size≤3003:=fun k hk=>by
  obtain ⟨h1,h2,h3⟩:=ht _ (List.getElem_mem hk);unfold v7_;rw [t3_,j4_ hk];refine Nat.le_trans (a2y (B:=1000) fun x hx=>?_) (Nat.le_refl _);simp only [List.mem_cons,List.not_mem_nil,or_false] at hx;rcases hx with rfl|rfl|rfl
  ·exact h1
  ·exact Nat.le_trans (b7u h2) (by omega)
  ·exact Nat.le_trans (b7u h3) (by omega)
 have etk:i2_ s s.tk.length=s.tk.map v7_:=by rw [i2_,List.take_length]
 have hts:∀ x∈i2_ s s.tk.length,x.size≤3003:=fun x hx=>by
  rw [etk] at hx;obtain ⟨y,hy,rfl⟩:=List.mem_map.1 hx;obtain ⟨k,hk,rfl⟩:=List.getElem_of_mem hy;rw [←j4_ hk];exact bt k hk
 have lts:(Lib.join ((i2_ s s.tk.length).map bl) (bl ⟨#[32]⟩)).length≤901200:=by
  refine Nat.le_trans (a2y hts) ?_;rw [b1e (Nat.le_refl _)];exact Nat.mul_le_mul hnt (Nat.le_refl _)
 have bts:(a0l s).size≤901200:=by
  unfold a0l;rw [t3_,←etk];exact lts
 have hall:∀ x∈g0_ s s.q.length++[a0l s],x.size≤1000000:=fun x hx=>by
  rcases List.mem_append.1 hx with hx|hx
  ·rw [g0_,List.take_length] at hx;rcases List.mem_cons.1 hx with rfl|hx
   ·exact Nat.le_trans (b7u h.tm) (by omega)
   ·obtain ⟨y,hy,rfl⟩:=List.mem_map.1 hx;obtain ⟨k,hk,rfl⟩:=List.getElem_of_mem hy;have:=bq k hk;rw [h0_ hk] at this;omega
  ·simp at hx;rw [hx];omega
 have lall:(Lib.join ((g0_ s s.q.length++[a0l s]).map bl) (bl ⟨#[124]⟩)).length≤1000000000:=by
  refine Nat.le_trans (a2y hall) ?_;rw [List.length_append,a7d (Nat.le_refl _)];have:(s.q.length+1+1)*(1000000+1)≤302*1000001:=Nat.mul_le_mul (by omega) (Nat.le_refl _);simp only [List.length_cons,List.length_nil];have e:(⟨#[124]⟩ : ByteArray).size=1:=rfl;rw [e];omega
 have g0:=a7c s.time h.tm;have HJ1:=Lib.hid (b3c (i2_ s s.tk.length) ⟨#[32]⟩ (by omega) (by rw [b1e (Nat.le_refl _)];omega));have HJ2:=Lib.hid (b3c (g0_ s s.q.length++[a0l s]) ⟨#[124]⟩ lall (by rw [List.length_append,a7d (Nat.le_refl _)];simp;omega));have HQ:Hid (∀ k,k < s.q.length→VC Tryz.prog 102 [t9_ (qat s.q k),S ⟨#[32]⟩] (S (a1f (qat s.q k) ⟨#[32]⟩))):=Lib.hid fun k hk=>by
  obtain ⟨h1,h2⟩:=hq _ (List.getElem_mem hk);rw [←h0_ hk] at h1 h2;have:=bq k hk;rw [t3_] at this;exact b3c (qat s.q k) ⟨#[32]⟩ (Nat.le_trans this (by omega)) (by omega)
 have HT:Hid (∀ k,k < s.tk.length→VC Tryz.prog 103 [I (k8_ s.tk k).rank] (S (a8v (k8_ s.tk k).rank))∧VC Tryz.prog 103 [I (k8_ s.tk k).time] (S (a8v (k8_ s.tk k).time))∧VC Tryz.prog 102 [t9_ [(k8_ s.tk k).car,a8v (k8_ s.tk k).rank,a8v (k8_ s.tk k).time],S ⟨#[58]⟩] (S (v7_ (k8_ s.tk k)))):=Lib.hid fun k hk=>by
  obtain ⟨h1,h2,h3⟩:=ht _ (List.getElem_mem hk);rw [←j4_ hk] at h2 h3;have:=bt k hk;unfold v7_ at this;rw [t3_] at this;exact ⟨a7c _ h2,a7c _ h3,b3c [(k8_ s.tk k).car,a8v (k8_ s.tk k).rank,a8v (k8_ s.tk k).time] ⟨#[58]⟩ (Nat.le_trans this (by omega)) (by simp)⟩
 have HE:=Lib.hid etk;unfold b7t;unfold a0l at *;clear hq ht bq bt hts lts bts hall lall etk h;generalize hR:a1f (g0_ s s.q.length++[a1f (s.tk.map v7_) ⟨#[32]⟩]) ⟨#[124]⟩=R at *;clear hR;refine b7_ Tryz.func61 rfl (by kernel_rfl) (by kernel_rfl) rfl fun M0 w0=>?_;simp only [Tryz.ntmps61,Tryz.results61,b1_];have e0:g0_ s 0=[a8v s.time]:=rfl;have e1:i2_ s 0=[]:=rfl;repeat' first|(with_reducible first|apply a8_|apply a3_|apply a9_|apply a1_|refine a2_ [12] ?_)|((with_reducible refine a0_ fun X Y=>?_);go_simp;(first|(with_reducible refine ⟨_,g0,?_⟩)|skip);refine Y _ ?_;clear Y X)
 apply c1a [1,14,15] (fun k=>[(16,I k),(3,.osl 0)]) (fun k=>([some (.arr 9 1 false ((g0_ s k).map j6_))] : Hp))  (s.q.length)
 ·go_simp<;>exact rfl
 ·go_simp
 ·intro k hk K hK;obtain ⟨w1,w2,w3,w4,w5,w6⟩:=ixs (m:=k) (by omega);have HS:=Lib.hid (c2d hk);have hnl:=a7d (s:=s) (k:=k) (by omega);have hb:(g0_ s k).length+1≤1000000000:=by omega
  clear hnl;have gj:=HQ.out k hk;generalize a1f (qat s.q k) ⟨#[32]⟩=J at *;repeat' first|(with_reducible first|apply a8_|apply a3_|apply b0_|apply a9_|apply b2_|apply a1_|refine a2_ [] ?_)|((with_reducible refine a7_ ?_ ?_);(focus (go_simp;done)))|((with_reducible refine a0_ fun X Y=>?_);go_simp;(first|(with_reducible refine ⟨_,gj,?_⟩)|skip);refine Y _ ?_;clear Y X)
  refine hK _ ?_;rw [HS.out];go_simp
 ·intro K;repeat' first|(with_reducible first|apply a8_|apply a3_|apply c3_|apply e1_|apply a9_|apply b6_|apply a1_|refine a2_ [6] ?_)|((with_reducible refine a5_ ?_ ?_);(focus (go_simp;done)))|((with_reducible refine a0_ fun X Y=>?_);go_simp;refine Y _ ?_;clear Y X)
  apply c1a [3,27,28] (fun k=>[(29,I k),(6,.osl 1)]) (fun k=>([some (.arr 9 1 false ((g0_ s s.q.length).map j6_)),some (.arr 9 1 (decide (i2_ s k=[])) ((i2_ s k).map j6_))] : Hp))  (s.tk.length)
  ·go_simp<;>exact rfl
  ·go_simp
  ·intro k hk K hK;obtain ⟨w1,w2,w3,w4,w5,w6⟩:=ixs (m:=k) (by omega);have HS:=Lib.hid (c2e hk);have hnl:=b1e (s:=s) (k:=k) (by omega);have hb:(i2_ s k).length+1≤1000000000:=by omega
   clear hnl;obtain ⟨g1,g2,g3⟩:=HT.out k hk;generalize v7_ (k8_ s.tk k)=J at *;generalize a8v (k8_ s.tk k).rank=D1 at *;generalize a8v (k8_ s.tk k).time=D2 at *;repeat' with_reducible apply a8_
   refine a2_ [] ?_;repeat' first|(with_reducible first|apply a8_|apply a3_|apply b0_|apply a9_|apply a1_)|((with_reducible refine a7_ ?_ ?_);(focus (go_simp;done)))|((with_reducible refine a0_ fun X Y=>?_);go_simp;refine Y _ ?_;clear Y X)
   refine a2_ [] ?_;repeat' first|(with_reducible first|apply a3_|apply a1_)|((with_reducible refine a0_ fun X Y=>?_);go_simp;refine Y _ ?_;clear Y X)
   refine a4q 12 [45] 1 [] (by kernel_rfl) (by kernel_rfl) (by kernel_rfl) (by kernel_rfl) rfl ⟨rfl,rfl⟩ rfl ?_;simp only [List.take,List.drop];repeat' first|with_reducible apply a6_|((with_reducible refine a4_ fun X Y=>?_);go_simp;(first|(with_reducible refine ⟨_,g1,?_⟩)|(with_reducible refine ⟨_,g2,?_⟩)|(refine ⟨_,g3,?_⟩)|skip);refine Y _ ?_;clear Y X)
   refine ⟨_,by go_simp,by go_simp;exact rfl,?_,?_⟩
   ·intro t ht;simp at ht
   go_simp;repeat' first|(with_reducible first|apply a3_|apply b2_|apply a1_|refine a2_ [] ?_)|((with_reducible refine a0_ fun X Y=>?_);go_simp;refine Y _ ?_;clear Y X)
   refine hK _ ?_;rw [HS.out];go_simp
  ·intro K;have hj:=HJ1.out;rw [HE.out] at hj ⊢;have hj2:=HJ2.out;generalize a1f (s.tk.map v7_) ⟨#[32]⟩=J at *;generalize s.tk.map v7_=TT at *;have hb:(g0_ s s.q.length).length+1≤1000000000:=by rw [a7d (Nat.le_refl _)];omega
   generalize g0_ s s.q.length=SP at *;have e2:(SP++[J]).map j6_=SP.map j6_++[[S J]]:=by simp [j6_]
   unfold t9_ at hj2;rw [e2] at hj2;repeat' first|(with_reducible first|apply a8_|apply a3_|apply c3_|apply c2_|apply e1_|apply b6_|apply a1_|refine a2_ [] ?_)|((with_reducible refine a5_ ?_ ?_);(focus (go_simp;done)))|((with_reducible refine a0_ fun X Y=>?_);go_simp;(first|(refine ⟨_,⟨hj,rfl⟩,?_⟩)|(refine ⟨_,⟨hj2,rfl⟩,?_⟩)|skip);refine Y _ ?_;clear Y X)
   go_simp
end Go.Proofs.YtoibondihdhnoaaGreatDoor
