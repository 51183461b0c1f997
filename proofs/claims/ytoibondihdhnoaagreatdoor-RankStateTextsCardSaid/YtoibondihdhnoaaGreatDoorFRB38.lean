/- Texts in one: Walks: the text of a state. -/
import Derived.Test.YtoibondihdhnoaaGreatDoorFRB37
import Derived.Lib.ItoaLen
namespace Go.Proofs.YtoibondihdhnoaaGreatDoor
open Go.RowKit Go.Shelf
set_option maxRecDepth 100000
set_option maxHeartbeats 1000000
def i64 (n:Int) : Prop:=-9223372036854775808≤n∧n≤9223372036854775807
structure SmallS (s:St) : Prop where
 nq:s.q.length≤300
 q1:∀ l∈s.q,l.length≤300∧∀ c∈l,c.size≤1000
 nt:s.tk.length≤300
 t1:∀ t∈s.tk,t.car.size≤1000∧i64 t.rank∧i64 t.time
 tm:i64 s.time
def f7_ (t:Tk) : ByteArray:=g9_ [t.car,q5_ t.rank,q5_ t.time] ⟨#[58]⟩
def i3_ (s:St) : ByteArray:=g9_ (s.tk.map f7_) ⟨#[32]⟩
def d5_ (s:St) (k:Nat) : List ByteArray:=q5_ s.time::(s.q.take k).map fun l=>g9_ l ⟨#[32]⟩
def r3_ (s:St) : ByteArray:=g9_ (d5_ s s.q.length++[i3_ s]) ⟨#[124]⟩
theorem j9_ {l:List ByteArray} {s:ByteArray} {B:Nat} (h:∀ x∈l,x.size≤B) : (Lib.join (l.map bl) (bl s)).length≤l.length*(B+s.size):=by
 have:=c0q (bl s) B (l.map bl) fun x hx=>by
  obtain ⟨y,hy,rfl⟩:=List.mem_map.1 hx
  have h1:=h y hy
  have h2:(bl y).length=y.size:=t0_ y
  omega
 rw [List.length_map,show (bl s).length=s.size from t0_ s] at this
 exact this
theorem f8_ (l:List ByteArray) (s:ByteArray) : (g9_ l s).size=(Lib.join (l.map bl) (bl s)).length:=by
 unfold g9_
 rw [←t0_]
theorem y1_ {n:Int} (h:i64 n) : (q5_ n).size≤21:=by
 have:=Lib.itoa_length_le n h.1 h.2
 rw [←t0_]
 exact this
theorem a2p {s:St} {k:Nat} (h:k≤s.q.length) : (d5_ s k).length=k+1:=by simp [d5_,List.length_take];omega
theorem b5q {s:St} {k:Nat} (h:k < s.q.length) : d5_ s (k+1)=d5_ s k++[g9_ (qat s.q k) ⟨#[32]⟩]:=by
 rw [d5_,d5_,r0_ h,List.map_append,List.cons_append,g4_ h]
 rfl
def f0_ (s:St) (k:Nat) : List ByteArray:=(s.tk.take k).map f7_
theorem a8s {s:St} {k:Nat} (h:k≤s.tk.length) : (f0_ s k).length=k:=by simp [f0_,List.length_take];omega
theorem b5r {s:St} {k:Nat} (h:k < s.tk.length) : f0_ s (k+1)=f0_ s k++[f7_ (e4_ s.tk k)]:=by
 rw [f0_,f0_,r0_ h,List.map_append,d6_ h]
 rfl
theorem a1w (s:St) (h:SmallS s) : VC Tryz.prog 61 [i0_ s] (S (r3_ s)):=by
 have hq:=h.q1
 have ht:=h.t1
 have hnq:=h.nq
 have hnt:=h.nt
 have bq:∀ k,k < s.q.length→(g9_ (qat s.q k) ⟨#[32]⟩).size≤301000:=fun k hk=>by
  obtain ⟨h1,h2⟩:=hq _ (List.getElem_mem hk)
  rw [f8_,g4_ hk]
  refine Nat.le_trans (j9_ h2) ?_
  have:s.q[k].length*(1000+(⟨#[32]⟩ : ByteArray).size)≤300*1001:=Nat.mul_le_mul h1 (Nat.le_refl _)
  omega
 have bt:∀ k,k < s.tk.length→(f7_ (e4_ s.tk k)).size≤3003:=fun k hk=>by
  obtain ⟨h1,h2,h3⟩:=ht _ (List.getElem_mem hk)
  unfold f7_
  rw [f8_,d6_ hk]
  refine Nat.le_trans (j9_ (B:=1000) fun x hx=>?_) (Nat.le_refl _)
  simp only [List.mem_cons,List.not_mem_nil,or_false] at hx
  rcases hx with rfl|rfl|rfl
  ·exact h1
  ·exact Nat.le_trans (y1_ h2) (by omega)
  ·exact Nat.le_trans (y1_ h3) (by omega)
 have etk:f0_ s s.tk.length=s.tk.map f7_:=by rw [f0_,List.take_length]
 have hts:∀ x∈f0_ s s.tk.length,x.size≤3003:=fun x hx=>by
  rw [etk] at hx
  obtain ⟨y,hy,rfl⟩:=List.mem_map.1 hx
  obtain ⟨k,hk,rfl⟩:=List.getElem_of_mem hy
  rw [←d6_ hk]
  exact bt k hk
 have lts:(Lib.join ((f0_ s s.tk.length).map bl) (bl ⟨#[32]⟩)).length≤901200:=by
  refine Nat.le_trans (j9_ hts) ?_
  rw [a8s (Nat.le_refl _)]
  exact Nat.mul_le_mul hnt (Nat.le_refl _)
 have bts:(i3_ s).size≤901200:=by
  unfold i3_
  rw [f8_,←etk]
  exact lts
 have hall:∀ x∈d5_ s s.q.length++[i3_ s],x.size≤1000000:=fun x hx=>by
  rcases List.mem_append.1 hx with hx|hx
  ·rw [d5_,List.take_length] at hx
   rcases List.mem_cons.1 hx with rfl|hx
   ·exact Nat.le_trans (y1_ h.tm) (by omega)
   ·obtain ⟨y,hy,rfl⟩:=List.mem_map.1 hx
    obtain ⟨k,hk,rfl⟩:=List.getElem_of_mem hy
    have:=bq k hk
    rw [g4_ hk] at this
    omega
  ·simp at hx
   rw [hx]
   omega
 have lall:(Lib.join ((d5_ s s.q.length++[i3_ s]).map bl) (bl ⟨#[124]⟩)).length≤1000000000:=by
  refine Nat.le_trans (j9_ hall) ?_
  rw [List.length_append,a2p (Nat.le_refl _)]
  have:(s.q.length+1+1)*(1000000+1)≤302*1000001:=Nat.mul_le_mul (by omega) (Nat.le_refl _)
  simp only [List.length_cons,List.length_nil]
  have e:(⟨#[124]⟩ : ByteArray).size=1:=rfl
  rw [e]
  omega
 have g0:=a8r s.time h.tm
 have HJ1:=Lib.hid (b5p (f0_ s s.tk.length) ⟨#[32]⟩ (by omega) (by rw [a8s (Nat.le_refl _)];omega))
 have HJ2:=Lib.hid (b5p (d5_ s s.q.length++[i3_ s]) ⟨#[124]⟩ lall (by rw [List.length_append,a2p (Nat.le_refl _)];simp;omega))
 have HQ:Hid (∀ k,k < s.q.length→VC Tryz.prog 102 [p2_ (qat s.q k),S ⟨#[32]⟩] (S (g9_ (qat s.q k) ⟨#[32]⟩))):=Lib.hid fun k hk=>by
  obtain ⟨h1,h2⟩:=hq _ (List.getElem_mem hk)
  rw [←g4_ hk] at h1 h2
  have:=bq k hk
  rw [f8_] at this
  exact b5p (qat s.q k) ⟨#[32]⟩ (Nat.le_trans this (by omega)) (by omega)
 have HT:Hid (∀ k,k < s.tk.length→VC Tryz.prog 103 [I (e4_ s.tk k).rank] (S (q5_ (e4_ s.tk k).rank))∧VC Tryz.prog 103 [I (e4_ s.tk k).time] (S (q5_ (e4_ s.tk k).time))∧VC Tryz.prog 102 [p2_ [(e4_ s.tk k).car,q5_ (e4_ s.tk k).rank,q5_ (e4_ s.tk k).time],S ⟨#[58]⟩] (S (f7_ (e4_ s.tk k)))):=Lib.hid fun k hk=>by
  obtain ⟨h1,h2,h3⟩:=ht _ (List.getElem_mem hk)
  rw [←d6_ hk] at h2 h3
  have:=bt k hk
  unfold f7_ at this
  rw [f8_] at this
  exact ⟨a8r _ h2,a8r _ h3,b5p [(e4_ s.tk k).car,q5_ (e4_ s.tk k).rank,q5_ (e4_ s.tk k).time] ⟨#[58]⟩ (Nat.le_trans this (by omega)) (by simp)⟩
 have HE:=Lib.hid etk
 unfold r3_
 unfold i3_ at *
 clear hq ht bq bt hts lts bts hall lall etk h
 generalize hR:g9_ (d5_ s s.q.length++[g9_ (s.tk.map f7_) ⟨#[32]⟩]) ⟨#[124]⟩=R at *
 clear hR
 refine c0_ Tryz.func61 rfl (by kernel_rfl) (by kernel_rfl) rfl fun M0 w0=>?_
 simp only [Tryz.ntmps61,Tryz.results61,b4_]
 have e0:d5_ s 0=[q5_ s.time]:=rfl
 have e1:f0_ s 0=[]:=rfl
 repeat' (first|(with_reducible first|apply a9_|apply a3_|apply a8_|apply a1_|refine a2_ [12] ?_)|((with_reducible refine a0_ fun X Y=>?_);go_simp;(first|(with_reducible refine ⟨_,g0,?_⟩)|skip);refine Y _ ?_;clear Y X))
 apply a9p [1,14,15] (fun k=>[(16,I k),(3,.osl 0)]) (fun k=>([some (.arr 9 1 false ((d5_ s k).map p1_))] : Hp))  (s.q.length)
 ·go_simp<;>exact rfl
 ·go_simp
 ·intro k hk K hK
  obtain ⟨w1,w2,w3,w4,w5,w6⟩:=ixs (m:=k) (by omega)
  have HS:=Lib.hid (b5q hk)
  have hnl:=a2p (s:=s) (k:=k) (by omega)
  have hb:(d5_ s k).length+1≤1000000000:=by omega
  clear hnl
  have gj:=HQ.out k hk
  generalize g9_ (qat s.q k) ⟨#[32]⟩=J at *
  repeat' (first|(with_reducible first|apply a9_|apply a3_|apply b0_|apply a8_|apply b3_|apply a1_|refine a2_ [] ?_)|((with_reducible refine a7_ ?_ ?_);(focus (go_simp;done)))|((with_reducible refine a0_ fun X Y=>?_);go_simp;(first|(with_reducible refine ⟨_,gj,?_⟩)|skip);refine Y _ ?_;clear Y X))
  refine hK _ ?_
  rw [HS.out]
  go_simp
 ·intro K
  repeat' (first|(with_reducible first|apply a9_|apply a3_|apply c2_|apply d0_|apply a8_|apply b7_|apply a1_|refine a2_ [6] ?_)|((with_reducible refine a5_ ?_ ?_);(focus (go_simp;done)))|((with_reducible refine a0_ fun X Y=>?_);go_simp;refine Y _ ?_;clear Y X))
  apply a9p [3,27,28] (fun k=>[(29,I k),(6,.osl 1)]) (fun k=>([some (.arr 9 1 false ((d5_ s s.q.length).map p1_)),some (.arr 9 1 (decide (f0_ s k=[])) ((f0_ s k).map p1_))] : Hp))  (s.tk.length)
  ·go_simp<;>exact rfl
  ·go_simp
  ·intro k hk K hK
   obtain ⟨w1,w2,w3,w4,w5,w6⟩:=ixs (m:=k) (by omega)
   have HS:=Lib.hid (b5r hk)
   have hnl:=a8s (s:=s) (k:=k) (by omega)
   have hb:(f0_ s k).length+1≤1000000000:=by omega
   clear hnl
   obtain ⟨g1,g2,g3⟩:=HT.out k hk
   generalize f7_ (e4_ s.tk k)=J at *
   generalize q5_ (e4_ s.tk k).rank=D1 at *
   generalize q5_ (e4_ s.tk k).time=D2 at *
   repeat' (with_reducible apply a9_)
   refine a2_ [] ?_
   repeat' (first|(with_reducible first|apply a9_|apply a3_|apply b0_|apply a8_|apply a1_)|((with_reducible refine a7_ ?_ ?_);(focus (go_simp;done)))|((with_reducible refine a0_ fun X Y=>?_);go_simp;refine Y _ ?_;clear Y X))
   refine a2_ [] ?_
   repeat' (first|(with_reducible first|apply a3_|apply a1_)|((with_reducible refine a0_ fun X Y=>?_);go_simp;refine Y _ ?_;clear Y X))
   refine a3l 12 [45] 1 [] (by kernel_rfl) (by kernel_rfl) (by kernel_rfl) (by kernel_rfl) rfl ⟨rfl,rfl⟩ rfl ?_
   simp only [List.take,List.drop]
   repeat' (first|(with_reducible apply a6_)|((with_reducible refine a4_ fun X Y=>?_);go_simp;(first|(with_reducible refine ⟨_,g1,?_⟩)|(with_reducible refine ⟨_,g2,?_⟩)|(refine ⟨_,g3,?_⟩)|skip);refine Y _ ?_;clear Y X))
   refine ⟨_,by go_simp,by go_simp;exact rfl,?_,?_⟩
   ·intro t ht
    simp at ht
   go_simp
   repeat' (first|(with_reducible first|apply a3_|apply b3_|apply a1_|refine a2_ [] ?_)|((with_reducible refine a0_ fun X Y=>?_);go_simp;refine Y _ ?_;clear Y X))
   refine hK _ ?_
   rw [HS.out]
   go_simp
  ·intro K
   have hj:=HJ1.out
   rw [HE.out] at hj ⊢
   have hj2:=HJ2.out
   generalize g9_ (s.tk.map f7_) ⟨#[32]⟩=J at *
   generalize s.tk.map f7_=TT at *
   have hb:(d5_ s s.q.length).length+1≤1000000000:=by rw [a2p (Nat.le_refl _)];omega
   generalize d5_ s s.q.length=SP at *
   have e2:(SP++[J]).map p1_=SP.map p1_++[[S J]]:=by simp [p1_]
   unfold p2_ at hj2
   rw [e2] at hj2
   repeat' (first|(with_reducible first|apply a9_|apply a3_|apply c2_|apply c4_|apply d0_|apply b7_|apply a1_|refine a2_ [] ?_)|((with_reducible refine a5_ ?_ ?_);(focus (go_simp;done)))|((with_reducible refine a0_ fun X Y=>?_);go_simp;(first|(refine ⟨_,⟨hj,rfl⟩,?_⟩)|(refine ⟨_,⟨hj2,rfl⟩,?_⟩)|skip);refine Y _ ?_;clear Y X))
   go_simp
end Go.Proofs.YtoibondihdhnoaaGreatDoor
