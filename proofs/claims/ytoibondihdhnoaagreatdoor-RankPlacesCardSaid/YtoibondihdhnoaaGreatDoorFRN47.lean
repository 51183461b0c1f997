/- Texts in one: Walks: which states are right, as the reference has them. -/
import Derived.Test.YtoibondihdhnoaaGreatDoorFRN45
import Derived.Test.YtoibondihdhnoaaGreatDoorFRN46
import Derived.Test.YtoibondihdhnoaaGreatDoorFRN31
import Derived.Test.YtoibondihdhnoaaGreatDoorFRN34
namespace Go.Proofs.YtoibondihdhnoaaGreatDoor
open Go.RowKit
set_option maxRecDepth 100000
set_option maxHeartbeats 4000000
theorem c7s (a b:List Int) : fst (a++b)=if fst a=0 then fst b else fst a:=by
 induction a with
 | nil=>rfl
 | cons x a ih=>
  by_cases h:x=0
  ·simp [fst,h,ih]
  ·simp [fst,h]
theorem b9u (E:Nat→Int) (n:Nat) : b5e E (n+1)=if b5e E n=0 then E n else b5e E n:=by
 unfold b5e;rw [List.range_succ,List.map_append,c7s];congr 1;simp only [List.map_cons,List.map_nil,fst];split
 ·rfl
 ·rename_i h;simp at h;rw [h]
theorem a0h {E:Nat→Int} : ∀ {n:Nat},(∀ j,j < n→(!decide (E j=0))=false)→b5e E n=0:=fun h=>x8_.2 fun j hj=>by simpa using h j hj
theorem a1m {E:Nat→Int} {k:Nat} : ∀ {n:Nat},k < n→(∀ j,j < k→(!decide (E j=0))=false)→(!decide (E k=0))=true→b5e E n=E k
 | 0,h,_,_=>by omega
 | n+1,h,hb,hp=>by
  have hne:E k≠0:=by simpa using hp
  rw [b9u];by_cases he:k=n
  ·subst he;rw [if_pos (a0h hb)]
  ·rw [a1m (by omega:k < n) hb hp,if_neg hne]
theorem b0b (l:List ByteArray) (c:ByteArray) : a2w (isT l c) 0 l.length=inL c l:=by
 rw [Bool.eq_iff_iff,v6_];constructor
 ·intro h;apply Classical.byContradiction;intro hno;rw [m7_ fun j hj=>by
   rw [isT,decide_eq_false_iff_not,c9_ hj];exact fun he=>hno (he▸List.getElem_mem hj)] at h
  cases h
 ·intro h;obtain ⟨j,hj,he⟩:=List.getElem_of_mem h;exact k3_ hj (by rw [isT,c9_ hj,he];simp)
theorem b9v {c:ByteArray} {l:List ByteArray} (h:c5_ c=false) : a5i c l=4:=by simp [a5i,fst,unl,h]
theorem b9w {c:ByteArray} {l:List ByteArray} (h:c5_ c=true) (h2:inL c l=true) : a5i c l=5:=by simp [a5i,fst,unl,h,h2]
theorem b9x {c:ByteArray} {l:List ByteArray} (h:c5_ c=true) (h2:inL c l=false) : a5i c l=0:=by simp [a5i,fst,unl,h,h2]
def f6_ (s:St) (k:Nat) : List ByteArray:=(s.q.take k).flatten
@[go_sem] theorem c7t (s:St) : f6_ s 0=[]:=by simp [f6_]
theorem a7v {s:St} (h:∀ k,k < s.q.length→(qat s.q k).length≤300) : ∀ k,k≤s.q.length→(f6_ s k).length≤k*300
 | 0,_=>by simp [f6_]
 | k+1,hk=>by
  have:=a7v h k (by omega);have h2:=h k (by omega);unfold f6_ at this ⊢;rw [a0y (by omega),List.length_append];omega
def l5_ (s:St) (k:Nat) : List ByteArray:=s.q.flatten++(s.tk.take k).map (·.car)
@[go_sem] theorem c7u (s:St) : l5_ s 0=f6_ s s.q.length:=by simp [l5_,f6_]
theorem a5v {s:St} {k:Nat} (h:k < s.tk.length) : l5_ s (k+1)=l5_ s k++[(d5_ s.tk k).car]:=by
 unfold l5_;rw [l1_ h,List.map_append,←List.append_assoc,e8_ h];rfl
theorem b4d {s:St} (h:∀ k,k < s.q.length→(qat s.q k).length≤300) (k:Nat) (hk:k≤s.tk.length) : (l5_ s k).length≤s.q.length*300+k:=by
 have:=a7v h s.q.length (Nat.le_refl _);unfold f6_ at this;rw [List.take_length] at this;unfold l5_;rw [List.length_append,List.length_map,List.length_take];omega
theorem d3h {r:Ru} {s:St} {m:Nat} (h:s.q.length=r.ranks.length) (hm:m < s.q.length) (hb:∀ j,j < m→(!decide (k4_ r s j=0))=false) (hp:(!decide (k4_ r s m=0))=true) : k5_ r s=k4_ r s m:=by
 have hne:k4_ r s m≠0:=by simpa using hp
 unfold k5_;rw [decide_eq_true h,a1m hm hb hp];simp [fst,unl,hne]
theorem d3i {r:Ru} {s:St} (h:s.q.length=r.ranks.length) (hq:∀ j,j < s.q.length→(!decide (k4_ r s j=0))=false) (h4:¬(s.tk.length:Int)≤40) : k5_ r s=8:=by
 unfold k5_;rw [decide_eq_true h,a0h hq,decide_eq_false h4];simp [fst,unl]
theorem d3j {r:Ru} {s:St} {m:Nat} (h:s.q.length=r.ranks.length) (hq:∀ j,j < s.q.length→(!decide (k4_ r s j=0))=false) (h4:(s.tk.length:Int)≤40) (hm:m < s.tk.length) (hb:∀ j,j < m→(!decide (s3_ r s j=0))=false) (hp:(!decide (s3_ r s m=0))=true) : k5_ r s=s3_ r s m:=by
 have hne:s3_ r s m≠0:=by simpa using hp
 unfold k5_;rw [decide_eq_true h,a0h hq,decide_eq_true h4,a1m hm hb hp];simp [fst,unl,hne]
theorem d3k {r:Ru} {s:St} (h:s.q.length=r.ranks.length) (hq:∀ j,j < s.q.length→(!decide (k4_ r s j=0))=false) (h4:(s.tk.length:Int)≤40) (ht:∀ j,j < s.tk.length→(!decide (s3_ r s j=0))=false) : k5_ r s=fst [unl (inR s.time 0 604800) 2,unl (decide (i8_ r s < 0)) 22]:=by
 unfold k5_;rw [decide_eq_true h,a0h hq,decide_eq_true h4,a0h ht];simp [fst,unl]
theorem b6c {r:Ru} {s:St} {k:Nat} (h:s3_ r s k=0) : (c5_ (d5_ s.tk k).car=true∧(d5_ s.tk k).car∉l5_ s k)∧inR (d5_ s.tk k).rank 0 ((r.ranks.length:Int) - 1)=true∧inR (d5_ s.tk k).time 0 s.time=true∧(k=0∨(d5_ s.tk (k - 1)).time≤(d5_ s.tk k).time):=by
 unfold s3_ at h;rw [b6_,b6_,b6_,b6_] at h;have h4:=d1_ (by decide) h.2.2.2.1;simp only [Bool.or_eq_true,decide_eq_true_eq] at h4;exact ⟨x9_.1 h.1,d1_ (by decide) h.2.1,d1_ (by decide) h.2.2.1,h4⟩
theorem b0c (r:Ru) (s:St) (hr:RuOK r) (hn:r.ranks.length≤1000000) (hs:SmallS s) : VC Tryz.prog 55 [c3_ r,e3_ s] (I (k5_ r s)):=by
 obtain ⟨E,hE⟩ : ∃ E,k5_ r s=E:=⟨_,rfl⟩
 rw [hE];have HE:=Lib.hid hE;have hq:∀ k,k < s.q.length→(qat s.q k).length≤300:=fun k hk=>by rw [d8_ hk];exact (hs.q1 _ (List.getElem_mem hk)).1
 have hqc:∀ k,k < s.q.length→∀ j,j < (qat s.q k).length→(tat (qat s.q k) j).size≤1000:=fun k hk j hj=>by
  rw [c9_ hj];refine (hs.q1 _ ?_).2 _ (List.getElem_mem hj);rw [d8_ hk];exact List.getElem_mem hk
 have htc:∀ k,k < s.tk.length→(d5_ s.tk k).car.size≤1000:=fun k hk=>by rw [e8_ hk];exact (hs.t1 _ (List.getElem_mem hk)).1
 have hle:=a7v hq;have hnq:=hs.nq;have hnt:=hs.nt;have HQ:=Lib.hid hq;have HC:=Lib.hid hqc;have HT:=Lib.hid htc;have HL:=Lib.hid hle;have HU:=Lib.hid hr;clear hE hq hqc htc hle hs hr;by_cases hsh:s.q.length=r.ranks.length
 ·have hsi:(s.q.length:Int)=(r.ranks.length:Int):=by omega
  have HF:z7_ r s.q.length:=by rw [hsh];exact HU.out.feed
  have gm:=c7r r s hn hsh.symm HF;have i5:=u1_ s.time 0 604800;have HSH:=Lib.hid hsh;have HFF:=Lib.hid HF;clear HF hsh;refine c2_ Tryz.func55 rfl (by kernel_rfl) (by kernel_rfl) rfl fun M0 w0=>?_;simp only [Tryz.ntmps55,Tryz.results55,b4_];repeat' first|(with_reducible first|apply a8_|apply a3_|apply b1_|apply a9_|apply a1_|refine a2_ [5] ?_)|((with_reducible refine a6_ ?_ ?_);(focus (go_simp;done)))|((with_reducible refine a0_ fun X Y=>?_);go_simp;refine Y _ ?_;clear Y X)
  apply u8_ [2,3] (fun k=>[(6,I k),(5,.osl 0)]) (fun k=>([some (.arr 9 1 (decide (f6_ s k=[])) ((f6_ s k).map n5_))] : Hp)) (fun k=>!decide (k4_ r s k=0)) (s.q.length)
  ·go_simp<;>exact rfl
  ·go_simp
  ·intro m hm HB HP K hK;obtain ⟨w1,w2,w3,w4,w5,w6⟩:=ixs (m:=m) (by omega);have hmr:m < r.ranks.length:=by have:=HSH.out;omega
   have hql:=HQ.out m hm;have hrl:=HL.out m (by omega);have hp:k4_ r s m=0:=by simpa using HP.out
   unfold k4_ at hp;have hpl:¬(rat r.ranks m).places < ((qat s.q m).length:Int):=fun h=>by rw [if_pos h] at hp;simp at hp
   rw [if_neg hpl,x8_] at hp;have HPP:=Lib.hid hp;have HK2:=Lib.hid (show f6_ s (m+1)=f6_ s m++qat s.q m from a0y hm);clear hp;repeat' first|(with_reducible first|apply a8_|apply a3_|apply b1_|apply a9_|apply a1_|refine a2_ [] ?_|apply a5_)|((with_reducible refine a7_ ?_ ?_);(focus (go_simp;done)))|((with_reducible refine a6_ ?_ ?_);(focus (go_simp;done)))|((with_reducible first|refine a0_ fun X Y=>?_|refine a4_ fun X Y=>?_);go_simp;refine Y _ ?_;clear Y X)|((refine b2_ 13 13 [] rfl (by kernel_rfl) (by kernel_rfl) ?_);simp only [List.take,List.drop])
   apply u8_ [2,3,6] (fun k=>[(7,I k),(5,.osl 0)]) (fun k=>([some (.arr 9 1 (decide (f6_ s m++(qat s.q m).take k=[])) ((f6_ s m++(qat s.q m).take k).map n5_))] : Hp)) (fun j=>!decide (r0_ (f6_ s m) (qat s.q m) j=0)) ((qat s.q m).length)
   ·go_simp<;>exact rfl
   ·go_simp
   ·intro j hj HB2 HP2 K2 hK2;obtain ⟨x1,x2,x3,x4,x5,x6⟩:=ixs (m:=j) (by omega);have hp2:r0_ (f6_ s m) (qat s.q m) j=0:=HPP.out j hj;unfold r0_ at hp2;have hc:=x9_.1 hp2;have g1:=u2_ (tat (qat s.q m) j) (by have:=HC.out m hm j hj;omega);have g2:=w6_ (f6_ s m++(qat s.q m).take j) (tat (qat s.q m) j) (by rw [List.length_append,List.length_take];omega);rw [b0b,show inL (tat (qat s.q m) j) (f6_ s m++(qat s.q m).take j)=false by rw [←Bool.not_eq_true,v6_];exact hc.2] at g2;rw [hc.1] at g1;have hat:=(c9_ hj).symm;have hts:(qat s.q m).take (j+1)=(qat s.q m).take j++[tat (qat s.q m) j]:=by rw [l1_ hj,c9_ hj]
    have hbl:(f6_ s m++(qat s.q m).take j).length+1≤1000000000:=by rw [List.length_append,List.length_take];omega
    rw [hts,←List.append_assoc] at hK2;clear hp2 hc hts;generalize f6_ s m++(qat s.q m).take j=L at *;generalize tat (qat s.q m) j=C at *;repeat' first|(with_reducible first|apply a8_|apply a3_|apply b1_|apply a9_|apply b3_|apply a1_|refine a2_ [] ?_)|((with_reducible refine a7_ ?_ ?_);(focus (go_simp;done)))|((with_reducible refine a6_ ?_ ?_);(focus (go_simp;done)))|((with_reducible refine a0_ fun X Y=>?_);go_simp;(first|(with_reducible refine ⟨_,g1,?_⟩)|(refine ⟨_,⟨g2,rfl⟩,?_⟩)|skip);refine Y _ ?_;clear Y X)
    refine hK2 _ ?_;go_simp
   ·intro j hj HB2 HP2 K2;have h1:r0_ (f6_ s m) (qat s.q m) j=0:=HPP.out j hj;have h2:=HP2.out;rw [h1] at h2;cases h2
   ·intro HB2 K2;rw [HK2.out] at hK;rw [List.take_length];repeat' first|(with_reducible first|apply a8_|apply a3_|apply b8_|apply d0_|apply b3_|apply b7_|apply a1_|refine a2_ [] ?_)|((with_reducible refine a6_ ?_ ?_);(focus (go_simp;done)))|((with_reducible refine a0_ fun X Y=>?_);go_simp;refine Y _ ?_;clear Y X)
    refine hK _ ?_;go_simp
  ·intro m hm HB HP K;obtain ⟨w1,w2,w3,w4,w5,w6⟩:=ixs (m:=m) (by omega);have hmr:m < r.ranks.length:=by have:=HSH.out;omega
   have hql:=HQ.out m hm;have hrl:=HL.out m (by omega);have e:=d3h HSH.out hm HB.out HP.out;have hp:¬k4_ r s m=0:=by simpa using HP.out
   rw [HE.out] at e;unfold k4_ at e hp;by_cases hpl:(rat r.ranks m).places < ((qat s.q m).length:Int)
   ·rw [if_pos hpl] at e;subst e;clear hp;repeat' first|(with_reducible first|apply a8_|apply a3_|apply b5_|apply c4_|apply b1_|apply a9_|apply c8_|apply a1_|refine a2_ [] ?_|apply a5_)|((with_reducible refine a7_ ?_ ?_);(focus (go_simp;done)))|((with_reducible first|refine a0_ fun X Y=>?_|refine a4_ fun X Y=>?_);go_simp;refine Y _ ?_;clear Y X)|((refine b2_ 13 13 [] rfl (by kernel_rfl) (by kernel_rfl) ?_);simp only [List.take,List.drop])
    go_simp
   rw [if_neg hpl] at e hp;have HEE:=Lib.hid e;have HPP:=Lib.hid hp;clear e hp;repeat' first|(with_reducible first|apply a8_|apply a3_|apply b1_|apply a9_|apply a1_|refine a2_ [] ?_|apply a5_)|((with_reducible refine a7_ ?_ ?_);(focus (go_simp;done)))|((with_reducible refine a6_ ?_ ?_);(focus (go_simp;done)))|((with_reducible first|refine a0_ fun X Y=>?_|refine a4_ fun X Y=>?_);go_simp;refine Y _ ?_;clear Y X)|((refine b2_ 13 13 [] rfl (by kernel_rfl) (by kernel_rfl) ?_);simp only [List.take,List.drop])
   apply u8_ [2,3,6] (fun k=>[(7,I k),(5,.osl 0)]) (fun k=>([some (.arr 9 1 (decide (f6_ s m++(qat s.q m).take k=[])) ((f6_ s m++(qat s.q m).take k).map n5_))] : Hp)) (fun j=>!decide (r0_ (f6_ s m) (qat s.q m) j=0)) ((qat s.q m).length)
   ·go_simp<;>exact rfl
   ·go_simp
   ·intro j hj HB2 HP2 K2 hK2;obtain ⟨x1,x2,x3,x4,x5,x6⟩:=ixs (m:=j) (by omega);have hp2:r0_ (f6_ s m) (qat s.q m) j=0:=by simpa using HP2.out
    unfold r0_ at hp2;have hc:=x9_.1 hp2;have g1:=u2_ (tat (qat s.q m) j) (by have:=HC.out m hm j hj;omega);have g2:=w6_ (f6_ s m++(qat s.q m).take j) (tat (qat s.q m) j) (by rw [List.length_append,List.length_take];omega);rw [b0b,show inL (tat (qat s.q m) j) (f6_ s m++(qat s.q m).take j)=false by rw [←Bool.not_eq_true,v6_];exact hc.2] at g2;rw [hc.1] at g1;have hat:=(c9_ hj).symm;have hts:(qat s.q m).take (j+1)=(qat s.q m).take j++[tat (qat s.q m) j]:=by rw [l1_ hj,c9_ hj]
    have hbl:(f6_ s m++(qat s.q m).take j).length+1≤1000000000:=by rw [List.length_append,List.length_take];omega
    rw [hts,←List.append_assoc] at hK2;clear hp2 hc hts;generalize f6_ s m++(qat s.q m).take j=L at *;generalize tat (qat s.q m) j=C at *;repeat' first|(with_reducible first|apply a8_|apply a3_|apply b1_|apply a9_|apply b3_|apply a1_|refine a2_ [] ?_)|((with_reducible refine a7_ ?_ ?_);(focus (go_simp;done)))|((with_reducible refine a6_ ?_ ?_);(focus (go_simp;done)))|((with_reducible refine a0_ fun X Y=>?_);go_simp;(first|(with_reducible refine ⟨_,g1,?_⟩)|(refine ⟨_,⟨g2,rfl⟩,?_⟩)|skip);refine Y _ ?_;clear Y X)
    refine hK2 _ ?_;go_simp
   ·intro j hj HB2 HP2 K2;obtain ⟨x1,x2,x3,x4,x5,x6⟩:=ixs (m:=j) (by omega);have e:E=b5e (r0_ (f6_ s m) (qat s.q m)) (qat s.q m).length:=HEE.out;rw [a1m hj HB2.out HP2.out] at e;unfold r0_ at e;have g1:=u2_ (tat (qat s.q m) j) (by have:=HC.out m hm j hj;omega);have g2:=w6_ (f6_ s m++(qat s.q m).take j) (tat (qat s.q m) j) (by rw [List.length_append,List.length_take];omega);rw [b0b] at g2;have hat:=(c9_ hj).symm;have hnz:¬a5i (tat (qat s.q m) j) (f6_ s m++(qat s.q m).take j)=0:=fun h=>by
     have h2:=HP2.out;rw [show r0_ (f6_ s m) (qat s.q m) j=0 from h] at h2;cases h2
    generalize f6_ s m++(qat s.q m).take j=L at *;generalize tat (qat s.q m) j=C at *;cases hD:c5_ C
    ·rw [b9v hD] at e;rw [hD] at g1;subst e;clear hnz;repeat' first|(with_reducible first|apply a8_|apply a3_|apply b5_|apply c4_|apply b1_|apply a9_|apply c8_|apply a1_|refine a2_ [] ?_)|((with_reducible refine a7_ ?_ ?_);(focus (go_simp;done)))|((with_reducible refine a0_ fun X Y=>?_);go_simp;(first|(with_reducible refine ⟨_,g1,?_⟩)|skip);refine Y _ ?_;clear Y X)
     go_simp
    ·rw [hD] at g1;cases hI:inL C L
     ·rw [b9x hD hI] at hnz;exact absurd rfl hnz
     ·rw [b9w hD hI] at e;rw [hI] at g2;subst e;clear hnz;repeat' first|(with_reducible first|apply a8_|apply a3_|apply b5_|apply c4_|apply b1_|apply a9_|apply c8_|apply a1_|refine a2_ [] ?_)|((with_reducible refine a7_ ?_ ?_);(focus (go_simp;done)))|((with_reducible refine a6_ ?_ ?_);(focus (go_simp;done)))|((with_reducible refine a0_ fun X Y=>?_);go_simp;(first|(with_reducible refine ⟨_,g1,?_⟩)|(refine ⟨_,⟨g2,rfl⟩,?_⟩)|skip);refine Y _ ?_;clear Y X)
      go_simp
   ·intro HB2 K2;exfalso;exact HPP.out (a0h HB2.out)
  ·intro HB K;have HBQ:=HB;clear HB;by_cases h4:(s.tk.length:Int)≤40
   ·have h40:¬(40:Int) < (s.tk.length:Int):=by omega
    have hnil:decide (f6_ s s.q.length=[])=decide (l5_ s 0=[]):=by rw [c7u]
    repeat' first|(with_reducible first|apply a8_|apply a3_|apply b8_|apply b1_|apply d0_|apply a9_|apply b7_|apply a1_|refine a2_ [] ?_)|((with_reducible refine a6_ ?_ ?_);(focus (go_simp;done)))|((with_reducible refine a0_ fun X Y=>?_);go_simp;refine Y _ ?_;clear Y X)
    apply u8_ [2,3] (fun k=>[(8,I k),(5,.osl 0)]) (fun k=>([some (.arr 9 1 (decide (l5_ s k=[])) ((l5_ s k).map n5_))] : Hp)) (fun k=>!decide (s3_ r s k=0)) (s.tk.length)
    ·go_simp<;>exact rfl
    ·go_simp
    ·intro k hk HB HP K hK;obtain ⟨w1,w2,w3,w4,w5,w6⟩:=ixs (m:=k) (by omega);have hp:s3_ r s k=0:=by simpa using HP.out
     obtain ⟨⟨c1,c2⟩,c3,c4,c5⟩:=b6c hp;have hsl:=b4d HQ.out k (by omega);have hbl:(l5_ s k).length+1≤1000000000:=by omega
     have g1:=u2_ (d5_ s.tk k).car (by have:=HT.out k hk;omega);have g2:=w6_ (l5_ s k) (d5_ s.tk k).car (by omega);have g3:=a1l r (d5_ s.tk k).rank hn;have g4:=u1_ (d5_ s.tk k).time 0 s.time;rw [b0b,show inL (d5_ s.tk k).car (l5_ s k)=false by rw [←Bool.not_eq_true,v6_];exact c2] at g2;rw [c1] at g1;rw [c3] at g3;rw [c4] at g4;rw [a5v hk] at hK;clear hp c1 c2 c3 c4 hsl;generalize l5_ s k=L at *;rcases k with _|p
     ·clear c5;repeat' first|(with_reducible first|apply a8_|apply a3_|apply b1_|apply a9_|apply b3_|apply a1_|refine a2_ [] ?_|apply a5_)|((with_reducible refine a7_ ?_ ?_);(focus (go_simp;done)))|((with_reducible refine a6_ ?_ ?_);(focus (go_simp;done)))|((with_reducible first|refine a0_ fun X Y=>?_|refine a4_ fun X Y=>?_);go_simp;(first|(with_reducible refine ⟨_,g1,?_⟩)|(refine ⟨_,⟨g2,rfl⟩,?_⟩)|(refine ⟨_,g3,?_⟩)|(with_reducible refine ⟨_,g4,?_⟩)|skip);refine Y _ ?_;clear Y X)|((refine b2_ 14 14 [] rfl (by kernel_rfl) (by kernel_rfl) ?_);simp only [List.take,List.drop])
      refine hK _ ?_;go_simp
     ·have ho:¬(d5_ s.tk (p+1)).time < (d5_ s.tk p).time:=by
       have:p+1 - 1=p:=by omega
       rw [this] at c5;omega
      obtain ⟨x1,x2,x3,x4,x5,x6⟩:=ixs (m:=p) (by omega);have hpl:p < s.tk.length:=by omega
      have hpl2:(p:Int)+1 < (s.tk.length:Int):=by omega
      have hpl3:¬(p:Int)+1≤0:=by omega
      have hpl4:(0:Int) < (p:Int)+1:=by omega
      clear c5;repeat' first|(with_reducible first|apply a8_|apply a3_|apply b1_|apply a9_|apply b3_|apply a1_|refine a2_ [] ?_|apply a5_)|((with_reducible refine a7_ ?_ ?_);(focus (go_simp;done)))|((with_reducible refine a6_ ?_ ?_);(focus (go_simp;done)))|((with_reducible first|refine a0_ fun X Y=>?_|refine a4_ fun X Y=>?_);go_simp;(first|(with_reducible refine ⟨_,g1,?_⟩)|(refine ⟨_,⟨g2,rfl⟩,?_⟩)|(refine ⟨_,g3,?_⟩)|(with_reducible refine ⟨_,g4,?_⟩)|skip);refine Y _ ?_;clear Y X)|((refine b2_ 14 14 [] rfl (by kernel_rfl) (by kernel_rfl) ?_);simp only [List.take,List.drop])
      refine hK _ ?_;go_simp
    ·intro k hk HB HP K;obtain ⟨w1,w2,w3,w4,w5,w6⟩:=ixs (m:=k) (by omega);have e:=d3j HSH.out HBQ.out h4 hk HB.out HP.out;have hp:¬s3_ r s k=0:=by simpa using HP.out
     rw [HE.out] at e;have hsl:=b4d HQ.out k (by omega);have g1:=u2_ (d5_ s.tk k).car (by have:=HT.out k hk;omega);have g2:=w6_ (l5_ s k) (d5_ s.tk k).car (by omega);have g3:=a1l r (d5_ s.tk k).rank hn;have g4:=u1_ (d5_ s.tk k).time 0 s.time;rw [b0b] at g2;unfold s3_ at e hp;rw [show s.q.flatten++(s.tk.take k).map (·.car)=l5_ s k from rfl] at e hp;clear hsl;generalize l5_ s k=L at *;cases hD:c5_ (d5_ s.tk k).car
     ·rw [b9v hD] at e;rw [hD] at g1;have e2:E=4:=by rw [e];rfl
      subst e2;clear hp e;repeat' first|(with_reducible first|apply a8_|apply a3_|apply b5_|apply c4_|apply b1_|apply a9_|apply c8_|apply a1_|refine a2_ [] ?_)|((with_reducible refine a7_ ?_ ?_);(focus (go_simp;done)))|((with_reducible refine a0_ fun X Y=>?_);go_simp;(first|(with_reducible refine ⟨_,g1,?_⟩)|skip);refine Y _ ?_;clear Y X)
      go_simp
     rw [hD] at g1;by_cases hI':inL (d5_ s.tk k).car L=true
     ·have hI:=hI';rw [b9w hD hI] at e;rw [hI] at g2;have e2:E=5:=by rw [e];rfl
      subst e2;clear hp e;repeat' first|(with_reducible first|apply a8_|apply a3_|apply b5_|apply c4_|apply b1_|apply a9_|apply c8_|apply a1_|refine a2_ [] ?_)|((with_reducible refine a7_ ?_ ?_);(focus (go_simp;done)))|((with_reducible refine a6_ ?_ ?_);(focus (go_simp;done)))|((with_reducible refine a0_ fun X Y=>?_);go_simp;(first|(with_reducible refine ⟨_,g1,?_⟩)|(refine ⟨_,⟨g2,rfl⟩,?_⟩)|skip);refine Y _ ?_;clear Y X)
      go_simp
     have hI:inL (d5_ s.tk k).car L=false:=by simpa using hI'
     clear hI';rw [b9x hD hI] at e hp;rw [hI] at g2;cases hR:inR (d5_ s.tk k).rank 0 ((r.ranks.length:Int) - 1)
     ·rw [hR] at e g3;have e2:E=6:=by rw [e];rfl
      subst e2;clear hp e;repeat' first|(with_reducible first|apply a8_|apply a3_|apply b5_|apply c4_|apply b1_|apply a9_|apply c8_|apply a1_|refine a2_ [] ?_)|((with_reducible refine a7_ ?_ ?_);(focus (go_simp;done)))|((with_reducible refine a6_ ?_ ?_);(focus (go_simp;done)))|((with_reducible refine a0_ fun X Y=>?_);go_simp;(first|(with_reducible refine ⟨_,g1,?_⟩)|(refine ⟨_,⟨g2,rfl⟩,?_⟩)|(refine ⟨_,g3,?_⟩)|skip);refine Y _ ?_;clear Y X)
      go_simp
     rw [hR] at e g3 hp;cases hM:inR (d5_ s.tk k).time 0 s.time
     ·rw [hM] at e g4;have e2:E=2:=by rw [e];rfl
      subst e2;clear hp e;repeat' first|(with_reducible first|apply a8_|apply a3_|apply b5_|apply c4_|apply b1_|apply a9_|apply c8_|apply a1_|refine a2_ [] ?_)|((with_reducible refine a7_ ?_ ?_);(focus (go_simp;done)))|((with_reducible refine a6_ ?_ ?_);(focus (go_simp;done)))|((with_reducible refine a0_ fun X Y=>?_);go_simp;(first|(with_reducible refine ⟨_,g1,?_⟩)|(refine ⟨_,⟨g2,rfl⟩,?_⟩)|(refine ⟨_,g3,?_⟩)|(with_reducible refine ⟨_,g4,?_⟩)|skip);refine Y _ ?_;clear Y X)
      go_simp
     rw [hM] at e g4 hp;rcases k with _|p
     ·exact absurd rfl hp
     ·have hsub:p+1 - 1=p:=by omega
      rw [hsub] at e hp;have ho:(d5_ s.tk (p+1)).time < (d5_ s.tk p).time:=by
       apply Classical.byContradiction;intro hh;rw [decide_eq_true (by omega:(d5_ s.tk p).time≤(d5_ s.tk (p+1)).time),Bool.or_true] at hp;exact hp rfl
      obtain ⟨x1,x2,x3,x4,x5,x6⟩:=ixs (m:=p) (by omega);have hpl:p < s.tk.length:=by omega
      have hpl2:(p:Int)+1 < (s.tk.length:Int):=by omega
      have hpl3:¬(p:Int)+1≤0:=by omega
      have hpl4:(0:Int) < (p:Int)+1:=by omega
      have e2:E=9:=by rw [e,decide_eq_false (by omega:¬(d5_ s.tk p).time≤(d5_ s.tk (p+1)).time),decide_eq_false (by omega:¬p+1=0)];rfl
      subst e2;clear hp e;repeat' first|(with_reducible first|apply a8_|apply a3_|apply b5_|apply c4_|apply b1_|apply a9_|apply c8_|apply a1_|refine a2_ [] ?_|apply a5_)|((with_reducible refine a7_ ?_ ?_);(focus (go_simp;done)))|((with_reducible refine a6_ ?_ ?_);(focus (go_simp;done)))|((with_reducible first|refine a0_ fun X Y=>?_|refine a4_ fun X Y=>?_);go_simp;(first|(with_reducible refine ⟨_,g1,?_⟩)|(refine ⟨_,⟨g2,rfl⟩,?_⟩)|(refine ⟨_,g3,?_⟩)|(with_reducible refine ⟨_,g4,?_⟩)|skip);refine Y _ ?_;clear Y X)|((refine b2_ 14 14 [] rfl (by kernel_rfl) (by kernel_rfl) ?_);simp only [List.take,List.drop])
      go_simp
    ·intro HB K;have e:=d3k HSH.out HBQ.out h4 HB.out;rw [HE.out] at e;cases hM:inR s.time 0 604800
     ·rw [hM] at e i5;have e2:E=2:=by rw [e];rfl
      subst e2;clear e;repeat' first|(with_reducible first|apply a8_|apply a3_|apply b8_|apply b5_|apply c4_|apply d0_|apply b7_|apply a1_|refine a2_ [] ?_)|((with_reducible refine a7_ ?_ ?_);(focus (go_simp;done)))|((with_reducible refine a6_ ?_ ?_);(focus (go_simp;done)))|((with_reducible refine a0_ fun X Y=>?_);go_simp;(first|(with_reducible refine ⟨_,i5,?_⟩)|skip);refine Y _ ?_;clear Y X)
      go_simp
     ·rw [hM] at e i5;by_cases hx:i8_ r s < 0
      ·rw [decide_eq_true hx] at e;have e2:E=0:=by rw [e];rfl
       subst e2;have hx2:¬0≤i8_ r s:=by omega
       clear e;generalize i8_ r s=NX at *;repeat' first|(with_reducible first|apply a8_|apply a3_|apply b8_|apply c4_|apply b1_|apply d0_|apply b7_|apply a1_|refine a2_ [] ?_)|((with_reducible refine a6_ ?_ ?_);(focus (go_simp;done)))|((with_reducible refine a0_ fun X Y=>?_);go_simp;(first|(with_reducible refine ⟨_,i5,?_⟩)|(refine ⟨_,gm,?_⟩)|skip);refine Y _ ?_;clear Y X)
       go_simp
      ·rw [decide_eq_false hx] at e;have e2:E=22:=by rw [e];rfl
       subst e2;have hx2:0≤i8_ r s:=by omega
       clear e;generalize i8_ r s=NX at *;repeat' first|(with_reducible first|apply a8_|apply a3_|apply b8_|apply b5_|apply c4_|apply b1_|apply d0_|apply b7_|apply a1_|refine a2_ [] ?_)|((with_reducible refine a7_ ?_ ?_);(focus (go_simp;done)))|((with_reducible refine a6_ ?_ ?_);(focus (go_simp;done)))|((with_reducible refine a0_ fun X Y=>?_);go_simp;(first|(with_reducible refine ⟨_,i5,?_⟩)|(refine ⟨_,gm,?_⟩)|skip);refine Y _ ?_;clear Y X)
       go_simp
   ·have h40:(40:Int) < (s.tk.length:Int):=by omega
    have e:=d3i HSH.out HBQ.out h4;rw [HE.out] at e;subst e;repeat' first|(with_reducible first|apply a8_|apply a3_|apply b8_|apply b5_|apply c4_|apply d0_|apply b7_|apply a1_|refine a2_ [] ?_)|((with_reducible refine a7_ ?_ ?_);(focus (go_simp;done)))|((with_reducible refine a6_ ?_ ?_);(focus (go_simp;done)))|((with_reducible refine a0_ fun X Y=>?_);go_simp;refine Y _ ?_;clear Y X)
    go_simp
 ·have hsi:¬(s.q.length:Int)=(r.ranks.length:Int):=by omega
  have e:k5_ r s=10:=by
   unfold k5_;rw [decide_eq_false hsh];rfl
  rw [HE.out] at e;subst e;refine c2_ Tryz.func55 rfl (by kernel_rfl) (by kernel_rfl) rfl fun M0 w0=>?_;simp only [Tryz.ntmps55,Tryz.results55,b4_];repeat' first|(with_reducible first|apply a8_|apply a3_|apply b5_|apply c4_|apply a1_|refine a2_ [] ?_)|((with_reducible refine a7_ ?_ ?_);(focus (go_simp;done)))|((with_reducible refine a0_ fun X Y=>?_);go_simp;refine Y _ ?_;clear Y X)
  go_simp
def a2t (L:List ByteArray) : KV:=L.foldl (fun m c=>a4x (.string c) (.bool true) m) []
@[go_sem] theorem d3l:a2t []=[]:=rfl
theorem b0d (L:List ByteArray) (c:ByteArray) : a2t (L++[c])=a4x (.string c) (.bool true) (a2t L):=by simp [a2t]
theorem c3s {P:List ByteArray→Prop} (h0:P []) (h1:∀ l c,P l→P (l++[c])) (l:List ByteArray) : P l:=by
 have h:∀ r:List ByteArray,P r.reverse:=fun r=>by
  induction r with
  | nil=>exact h0
  | cons c r ih=>
   rw [List.reverse_cons];exact h1 _ _ ih
 have:=h l.reverse;rwa [List.reverse_reverse] at this
theorem c3t (c d:ByteArray) (l:List ByteArray) : inL c (l++[d])=(inL c l || decide (c=d)):=by
 rw [Bool.eq_iff_iff,v6_];simp [v6_]
theorem b9y (c:ByteArray) (L:List ByteArray) : p8_ (.string c) (a2t L)=if inL c L=true then some (.bool true) else none:=by
 refine c3s (P:=fun L=>p8_ (.string c) (a2t L)=if inL c L=true then some (.bool true) else none) ?_ (fun l d ih=>?_) L
 ·rw [if_neg (by rw [v6_];simp)];rfl
 rw [b0d,a3c,ih,c3t];by_cases h:c=d
 ·rw [if_pos h,if_pos (by simp [h])]
 ·rw [if_neg h,decide_eq_false h,Bool.or_false]
theorem c3u (c:ByteArray) (L:List ByteArray) : (p8_ (.string c) (a2t L)).getD (.bool false) = .bool (inL c L):=by
 rw [b9y];cases h:inL c L<;>rfl
theorem b0e (c:ByteArray) (L:List ByteArray) (hc:c.size≤1000) : VH Tryz.prog 114 [some (.box [.mp 1]),some (.mpo (4,.i64) (a2t L))] [S c,.ref 0 0] [1] [some (.box [.mp 1]),some (.mpo (4,.i64) (a2t (L++[c])))] (I (a5i c L)):=by
 have g1:=m6_ c hc;have g2:=b0_ (c5_ c) 4;have g3:=b0_ (!inL c L) 5;have g4:VC Tryz.prog 88 [.sl 1 ([unl (c5_ c) 4,unl (!inL c L) 5].map p9_)] (I (a5i c L)):=c6_ _ rfl rfl;have hf:=c3u c L;rw [b0d];generalize a5i c L=E at *;generalize c5_ c=D1 at *;generalize inL c L=D2 at *;generalize unl D1 4=A1 at *;generalize unl (!D2) 5=A2 at *;generalize a2t L=M at *;refine g4_ Tryz.func114 rfl (by kernel_rfl) rfl (fun _=>by kernel_rfl) fun M0 w0 vs=>?_;simp only [Tryz.ntmps114,Tryz.results114,b4_];repeat' first|(with_reducible first|apply a8_|apply a3_|apply c4_|apply a1_|refine a2_ [] ?_|apply a5_)|((with_reducible first|refine a0_ fun X Y=>?_|refine a4_ fun X Y=>?_);go_simp;(first|(with_reducible refine ⟨_,g1,?_⟩)|(with_reducible refine ⟨_,g2,?_⟩)|(with_reducible refine ⟨_,g3,?_⟩)|(refine ⟨_,g4,?_⟩)|skip);refine Y _ ?_;clear Y X)|((refine b2_ 11 11 [] rfl (by kernel_rfl) (by kernel_rfl) ?_);simp only [List.take,List.drop])
 go_simp
theorem VC.args {P:Program} {f:FuncId} {args args':List AV} {r:AV} (h:VC P f args r) (hl:args'.length=args.length) (ha:∀ (i:Nat) (a a':AV),args[i]? = some a→args'[i]? = some a'→∀ (w:World) (M:Nat→Nat→Prop) (v:Value),V0 w M a' v→V0 w M a v) : VC P f args' r:=
 ⟨h.1,fun w M vs hM hvl hv=>h.2 w M vs hM (hvl.trans hl) fun i a v hi hvi=>by
  have hlt:i < args'.length:=by
   rw [hl];exact (List.getElem?_eq_some_iff.1 hi).1
  exact ha i a _ hi (List.getElem?_eq_getElem hlt) w M v (hv i _ v (List.getElem?_eq_getElem hlt) hvi)⟩
theorem V0.vpNil {w:World} {M:Nat→Nat→Prop} {v:Value} {a b c d e g:AV} (h:V0 w M (.vp [a,b,c,d,e,g,r7_]) v) : V0 w M (.vp [a,b,c,d,e,g,.sl 3 []]) v:=by
 cases h with
 | vp _ bk o u hb hM h1 hc hv=>
  refine .vp _ bk o u hb (fun j hj=>hM j (by simpa using hj)) (fun x hx=>?_) (fun j hj=>hc j (by simpa using hj)) fun j x hj=>?_
  ·simp only [List.mem_cons,List.not_mem_nil,or_false] at hx;rcases hx with rfl|rfl|rfl|rfl|rfl|rfl|rfl
   ·exact h1 _ (by simp)
   ·exact h1 _ (by simp)
   ·exact h1 _ (by simp)
   ·exact h1 _ (by simp)
   ·exact h1 _ (by simp)
   ·exact h1 _ (by simp)
   ·rfl
  ·rcases j with _|_|_|_|_|_|_|j
   ·exact hv 0 x hj
   ·exact hv 1 x hj
   ·exact hv 2 x hj
   ·exact hv 3 x hj
   ·exact hv 4 x hj
   ·exact hv 5 x hj
   ·simp only [List.getElem?_cons_zero,List.getElem?_cons_succ,Option.some.injEq] at hj;subst hj;exact (hv 6 _ rfl).nilSl 3
   ·simp at hj
theorem c7v (r:Ru) (s:St) (hl:r.ranks.length≤1000000) (hr:r.ranks.length=s.q.length) (hf:z7_ r s.q.length) : VC Tryz.prog 115 [.vp [x1_ s.q,.sl 3 (s.tk.map Tk.av),I s.time,.sl 4 (r.ranks.map Rk.av),I r.back,I r.ret,r7_]] (I (i8_ r s)):=
 (c1g r s [] hl hr hf).args rfl fun i a a' h1 h2 w M v hv=>by
  rcases i with _|i
  ·simp only [List.getElem?_cons_zero,Option.some.injEq] at h1 h2;subst h1;subst h2;exact hv.vpNil
  ·simp at h1
theorem a1n (r:Ru) (s:St) (hn:r.ranks.length≤1000000) (hnm:∀ k,k < r.ranks.length→(rat r.ranks k).name.size≤1000) (hs:SmallS s) (h:(d2_ r).2≠0∨s.q.length≠r.ranks.length) : VC Tryz.prog 52 [c3_ r,e3_ s] (I (fst [(d2_ r).2,10])):=by
 have g1:=k6_ r hn hnm;have hnq:=hs.nq;have ed:decide ((s.q.length:Int)=(r.ranks.length:Int))=decide (s.q.length=r.ranks.length):=by
  by_cases hh:s.q.length=r.ranks.length
  ·rw [decide_eq_true hh,decide_eq_true (by omega)]
  ·rw [decide_eq_false hh,decide_eq_false (by omega)]
 have g2:=b0_ (decide (s.q.length=r.ranks.length)) 10;have g3:VC Tryz.prog 88 [.sl 1 ([(d2_ r).2,unl (decide (s.q.length=r.ranks.length)) 10].map p9_)] (I (fst [(d2_ r).2,unl (decide (s.q.length=r.ranks.length)) 10])):=c6_ _ rfl rfl;have e:fst [(d2_ r).2,unl (decide (s.q.length=r.ranks.length)) 10]=fst [(d2_ r).2,10]:=by
  rcases h with h|h
  ·simp [fst,h]
  ·rw [decide_eq_false h];rfl
 have hne:fst [(d2_ r).2,10]≠0:=by
  simp only [fst];split
  ·assumption
  ·decide
 rw [e] at g3;rw [←ed] at g2 g3;generalize fst [(d2_ r).2,10]=F at *;generalize (d2_ r).2=A1 at *;clear e h;generalize unl (decide ((s.q.length:Int)=(r.ranks.length:Int))) 10=A2 at *;by_cases hq:(s.q.length:Int)=(r.ranks.length:Int)
 ·rw [decide_eq_true hq] at g2 ed;clear ed;refine c2_ Tryz.func52 rfl (by kernel_rfl) (by kernel_rfl) rfl fun M0 w0=>?_;simp only [Tryz.ntmps52,Tryz.results52,b4_];repeat' first|(with_reducible first|apply a8_|apply a3_|apply b5_|apply c4_|apply a1_|refine a2_ [] ?_|apply a5_)|((with_reducible refine a7_ ?_ ?_);(focus (go_simp;done)))|((with_reducible first|refine a0_ fun X Y=>?_|refine a4_ fun X Y=>?_);go_simp;(first|(with_reducible refine ⟨_,g1,?_⟩)|(with_reducible refine ⟨_,g2,?_⟩)|(refine ⟨_,g3,?_⟩)|skip);refine Y _ ?_;clear Y X)|((refine b2_ 13 13 [] rfl (by kernel_rfl) (by kernel_rfl) ?_);simp only [List.take,List.drop])
  go_simp
 ·rw [decide_eq_false hq] at g2 ed;clear ed;refine c2_ Tryz.func52 rfl (by kernel_rfl) (by kernel_rfl) rfl fun M0 w0=>?_;simp only [Tryz.ntmps52,Tryz.results52,b4_];repeat' first|(with_reducible first|apply a8_|apply a3_|apply b5_|apply c4_|apply a1_|refine a2_ [] ?_|apply a5_)|((with_reducible refine a7_ ?_ ?_);(focus (go_simp;done)))|((with_reducible first|refine a0_ fun X Y=>?_|refine a4_ fun X Y=>?_);go_simp;(first|(with_reducible refine ⟨_,g1,?_⟩)|(with_reducible refine ⟨_,g2,?_⟩)|(refine ⟨_,g3,?_⟩)|skip);refine Y _ ?_;clear Y X)|((refine b2_ 13 13 [] rfl (by kernel_rfl) (by kernel_rfl) ?_);simp only [List.take,List.drop])
  go_simp
theorem a7w (r:Ru) (s:St) (hn:r.ranks.length≤1000000) (hnm:∀ k,k < r.ranks.length→(rat r.ranks k).name.size≤1000) (hs:SmallS s) (h0:(d2_ r).2=0) (hsh:s.q.length=r.ranks.length) : VC Tryz.prog 52 [c3_ r,e3_ s] (I (k5_ r s)):=by
 obtain ⟨E,hE⟩ : ∃ E,k5_ r s=E:=⟨_,rfl⟩
 rw [hE];have HE:=Lib.hid hE;have g1:=k6_ r hn hnm;have g2:=b0_ true 10;have g3:VC Tryz.prog 88 [.sl 1 ([(d2_ r).2,unl true 10].map p9_)] (I (fst [(d2_ r).2,unl true 10])):=c6_ _ rfl rfl;rw [h0] at g1 g3;have e0:unl true 10=0:=rfl;have e1:fst [0,unl true 10]=0:=rfl;rw [e1] at g3;rw [e0] at g2 g3;have hr:=(a1a h0).1;have hq:∀ k,k < s.q.length→(qat s.q k).length≤300:=fun k hk=>by rw [d8_ hk];exact (hs.q1 _ (List.getElem_mem hk)).1
 have hqc:∀ k,k < s.q.length→∀ j,j < (qat s.q k).length→(tat (qat s.q k) j).size≤1000:=fun k hk j hj=>by
  rw [c9_ hj];refine (hs.q1 _ ?_).2 _ (List.getElem_mem hj);rw [d8_ hk];exact List.getElem_mem hk
 have htc:∀ k,k < s.tk.length→(d5_ s.tk k).car.size≤1000:=fun k hk=>by rw [e8_ hk];exact (hs.t1 _ (List.getElem_mem hk)).1
 have hnq:=hs.nq;have hnt:=hs.nt;have HF:z7_ r s.q.length:=by rw [hsh];exact hr.feed
 have gm:=c7v r s hn hsh.symm HF;have i5:=g3_ s.time 0 604800;have u5:=b0_ (inR s.time 0 604800) 2;have u6:=b0_ (decide (i8_ r s < 0)) 22;have g6:VC Tryz.prog 88 [.sl 1 ([unl (inR s.time 0 604800) 2,unl (decide (i8_ r s < 0)) 22].map p9_)] (I (fst [unl (inR s.time 0 604800) 2,unl (decide (i8_ r s < 0)) 22])):=c6_ _ rfl rfl;have hsi:(s.q.length:Int)=(r.ranks.length:Int):=by omega
 have HQ:=Lib.hid hq;have HC:=Lib.hid hqc;have HT:=Lib.hid htc;have HSH:=Lib.hid hsh;have HKV:Hid (a2t (f6_ s 0)=[]):=Lib.hid (by rw [c7t];rfl);clear hE hq hqc htc hr hs hsh h0 e0 e1 HF hnm;refine c2_ Tryz.func52 rfl (by kernel_rfl) (by kernel_rfl) rfl fun M0 w0=>?_;simp only [Tryz.ntmps52,Tryz.results52,b4_];repeat' first|(with_reducible first|apply a8_|apply a3_|apply b1_|apply a9_|apply a1_|refine a2_ [] ?_|apply a5_)|((with_reducible refine a6_ ?_ ?_);(focus (go_simp;done)))|((with_reducible first|refine a0_ fun X Y=>?_|refine a4_ fun X Y=>?_);go_simp;(first|(with_reducible refine ⟨_,g1,?_⟩)|(with_reducible refine ⟨_,g2,?_⟩)|(refine ⟨_,g3,?_⟩)|skip);refine Y _ ?_;clear Y X)|((refine b2_ 13 13 [] rfl (by kernel_rfl) (by kernel_rfl) ?_);simp only [List.take,List.drop])
 apply u8_ [2,3,7,35,36] (fun k=>[(37,I k)]) (fun k=>([some (.mpo (4,.i64) (a2t (f6_ s k))),some (.box [.mp 0])] : Hp)) (fun k=>!decide (k4_ r s k=0)) (s.q.length)
 ·go_simp<;>exact rfl
 ·go_simp
 ·intro m hm HB HP K hK;obtain ⟨w1,w2,w3,w4,w5,w6⟩:=ixs (m:=m) (by omega);have hmr:m < r.ranks.length:=by have:=HSH.out;omega
  have hql:=HQ.out m hm;have hp:k4_ r s m=0:=by simpa using HP.out
  unfold k4_ at hp;have hpl:¬(rat r.ranks m).places < ((qat s.q m).length:Int):=fun h=>by rw [if_pos h] at hp;simp at hp
  rw [if_neg hpl,x8_] at hp;have HPP:=Lib.hid hp;have HK2:=Lib.hid (show f6_ s (m+1)=f6_ s m++qat s.q m from a0y hm);clear hp;repeat' first|(with_reducible first|apply a8_|apply a3_|apply b1_|apply a9_|apply a1_|refine a2_ [] ?_)|((with_reducible refine a7_ ?_ ?_);(focus (go_simp;done)))|((with_reducible refine a6_ ?_ ?_);(focus (go_simp;done)))|((with_reducible refine a0_ fun X Y=>?_);go_simp;refine Y _ ?_;clear Y X)
  apply u8_ [2,3,7,35,36,37,51,52] (fun k=>[(53,I k)]) (fun k=>([some (.mpo (4,.i64) (a2t (f6_ s m++(qat s.q m).take k))),some (.box [.mp 0])] : Hp)) (fun j=>!decide (r0_ (f6_ s m) (qat s.q m) j=0)) ((qat s.q m).length)
  ·go_simp<;>exact rfl
  ·go_simp
  ·intro j hj HB2 HP2 K2 hK2;obtain ⟨x1,x2,x3,x4,x5,x6⟩:=ixs (m:=j) (by omega);have hp2:r0_ (f6_ s m) (qat s.q m) j=0:=HPP.out j hj;unfold r0_ at hp2;have hcs:=HC.out m hm j hj;have wn:=b0e (tat (qat s.q m) j) (f6_ s m++(qat s.q m).take j) hcs;rw [hp2] at wn;have hat:=(c9_ hj).symm;have hts:(qat s.q m).take (j+1)=(qat s.q m).take j++[tat (qat s.q m) j]:=by rw [l1_ hj,c9_ hj]
   rw [hts,←List.append_assoc] at hK2;clear hp2 hts;generalize f6_ s m++(qat s.q m).take j=L at *;generalize tat (qat s.q m) j=C at *;generalize a2t (L++[C])=M2 at *;generalize a2t L=M1 at *;repeat' with_reducible apply a8_
   refine a2_ [] ?_;repeat' first|(with_reducible first|apply a8_|apply a3_|apply b1_|apply a9_|apply a1_)|((with_reducible refine a7_ ?_ ?_);(focus (go_simp;done)))|((with_reducible refine a0_ fun X Y=>?_);go_simp;refine Y _ ?_;clear Y X)
   refine a2_ [] ?_;repeat' first|(with_reducible first|apply a8_|apply a3_|apply a1_)|((with_reducible refine a0_ fun X Y=>?_);go_simp;refine Y _ ?_;clear Y X)
   refine c7_ (c0_ [] 2 ⟨rfl,rfl⟩ ?_);simp only [List.take,List.drop];repeat' first|with_reducible apply a1_|((with_reducible refine a0_ fun X Y=>?_);go_simp;refine Y _ ?_;clear Y X)
   refine e0_ [1,0] [1] [] [some (.box [.mp 1]),some (.mpo (4,.i64) (M2))] (I 0) rfl (by go_simp) ?_ ?_
   ·unfold i9_;go_simp;refine ⟨_,_,_,wn,?_⟩;go_simp;kernel_rfl
   go_simp;refine c0_ [] 1 ⟨rfl,rfl⟩ ?_;simp only [List.take,List.drop];repeat' first|with_reducible apply a1_|((with_reducible refine a0_ fun X Y=>?_);go_simp;refine Y _ ?_;clear Y X)
   apply d6_;repeat' first|(with_reducible first|apply a8_|apply a3_|apply b1_|apply b3_|apply a1_|refine a2_ [] ?_)|((with_reducible refine a6_ ?_ ?_);(focus (go_simp;done)))|((with_reducible refine a0_ fun X Y=>?_);go_simp;refine Y _ ?_;clear Y X)
   refine hK2 _ ?_;go_simp
  ·intro j hj HB2 HP2 K2;have h1:r0_ (f6_ s m) (qat s.q m) j=0:=HPP.out j hj;have h2:=HP2.out;rw [h1] at h2;cases h2
  ·intro HB2 K2;rw [HK2.out] at hK;rw [List.take_length];repeat' first|(with_reducible first|apply a8_|apply a3_|apply b8_|apply d0_|apply b3_|apply b7_|apply a1_|refine a2_ [] ?_)|((with_reducible refine a6_ ?_ ?_);(focus (go_simp;done)))|((with_reducible refine a0_ fun X Y=>?_);go_simp;refine Y _ ?_;clear Y X)
   refine hK _ ?_;go_simp
 ·intro m hm HB HP K;obtain ⟨w1,w2,w3,w4,w5,w6⟩:=ixs (m:=m) (by omega);have hmr:m < r.ranks.length:=by have:=HSH.out;omega
  have hql:=HQ.out m hm;have e:=d3h HSH.out hm HB.out HP.out;have hp:¬k4_ r s m=0:=by simpa using HP.out
  rw [HE.out] at e;unfold k4_ at e hp;by_cases hpl:(rat r.ranks m).places < ((qat s.q m).length:Int)
  ·rw [if_pos hpl] at e;subst e;clear hp;repeat' first|(with_reducible first|apply a8_|apply a3_|apply b5_|apply c4_|apply b1_|apply a9_|apply c8_|apply a1_|refine a2_ [] ?_)|((with_reducible refine a7_ ?_ ?_);(focus (go_simp;done)))|((with_reducible refine a0_ fun X Y=>?_);go_simp;refine Y _ ?_;clear Y X)
   go_simp
  rw [if_neg hpl] at e hp;have HEE:=Lib.hid e;have HPP:=Lib.hid hp;clear e hp;repeat' first|(with_reducible first|apply a8_|apply a3_|apply b1_|apply a9_|apply a1_|refine a2_ [] ?_)|((with_reducible refine a7_ ?_ ?_);(focus (go_simp;done)))|((with_reducible refine a6_ ?_ ?_);(focus (go_simp;done)))|((with_reducible refine a0_ fun X Y=>?_);go_simp;refine Y _ ?_;clear Y X)
  apply u8_ [2,3,7,35,36,37,51,52] (fun k=>[(53,I k)]) (fun k=>([some (.mpo (4,.i64) (a2t (f6_ s m++(qat s.q m).take k))),some (.box [.mp 0])] : Hp)) (fun j=>!decide (r0_ (f6_ s m) (qat s.q m) j=0)) ((qat s.q m).length)
  ·go_simp<;>exact rfl
  ·go_simp
  ·intro j hj HB2 HP2 K2 hK2;obtain ⟨x1,x2,x3,x4,x5,x6⟩:=ixs (m:=j) (by omega);have hp2:r0_ (f6_ s m) (qat s.q m) j=0:=by simpa using HP2.out
   unfold r0_ at hp2;have hcs:=HC.out m hm j hj;have wn:=b0e (tat (qat s.q m) j) (f6_ s m++(qat s.q m).take j) hcs;rw [hp2] at wn;have hat:=(c9_ hj).symm;have hts:(qat s.q m).take (j+1)=(qat s.q m).take j++[tat (qat s.q m) j]:=by rw [l1_ hj,c9_ hj]
   rw [hts,←List.append_assoc] at hK2;clear hp2 hts;generalize f6_ s m++(qat s.q m).take j=L at *;generalize tat (qat s.q m) j=C at *;generalize a2t (L++[C])=M2 at *;generalize a2t L=M1 at *;repeat' with_reducible apply a8_
   refine a2_ [] ?_;repeat' first|(with_reducible first|apply a8_|apply a3_|apply b1_|apply a9_|apply a1_)|((with_reducible refine a7_ ?_ ?_);(focus (go_simp;done)))|((with_reducible refine a0_ fun X Y=>?_);go_simp;refine Y _ ?_;clear Y X)
   refine a2_ [] ?_;repeat' first|(with_reducible first|apply a8_|apply a3_|apply a1_)|((with_reducible refine a0_ fun X Y=>?_);go_simp;refine Y _ ?_;clear Y X)
   refine c7_ (c0_ [] 2 ⟨rfl,rfl⟩ ?_);simp only [List.take,List.drop];repeat' first|with_reducible apply a1_|((with_reducible refine a0_ fun X Y=>?_);go_simp;refine Y _ ?_;clear Y X)
   refine e0_ [1,0] [1] [] [some (.box [.mp 1]),some (.mpo (4,.i64) M2)] (I 0) rfl (by go_simp) ?_ ?_
   ·unfold i9_;go_simp;refine ⟨_,_,_,wn,?_⟩;go_simp;kernel_rfl
   go_simp;refine c0_ [] 1 ⟨rfl,rfl⟩ ?_;simp only [List.take,List.drop];repeat' first|with_reducible apply a1_|((with_reducible refine a0_ fun X Y=>?_);go_simp;refine Y _ ?_;clear Y X)
   apply d6_;repeat' first|(with_reducible first|apply a8_|apply a3_|apply b1_|apply b3_|apply a1_|refine a2_ [] ?_)|((with_reducible refine a6_ ?_ ?_);(focus (go_simp;done)))|((with_reducible refine a0_ fun X Y=>?_);go_simp;refine Y _ ?_;clear Y X)
   refine hK2 _ ?_;go_simp
  ·intro j hj HB2 HP2 K2;obtain ⟨x1,x2,x3,x4,x5,x6⟩:=ixs (m:=j) (by omega);have e:E=b5e (r0_ (f6_ s m) (qat s.q m)) (qat s.q m).length:=HEE.out;rw [a1m hj HB2.out HP2.out] at e;unfold r0_ at e;have hcs:=HC.out m hm j hj;have wn:=b0e (tat (qat s.q m) j) (f6_ s m++(qat s.q m).take j) hcs;have hat:=(c9_ hj).symm;have hnz:¬a5i (tat (qat s.q m) j) (f6_ s m++(qat s.q m).take j)=0:=fun h=>by
    have h2:=HP2.out;rw [show r0_ (f6_ s m) (qat s.q m) j=0 from h] at h2;cases h2
   subst e;generalize f6_ s m++(qat s.q m).take j=L at *;generalize tat (qat s.q m) j=C at *;generalize a5i C L=E2 at *;generalize a2t (L++[C])=M2 at *;generalize a2t L=M1 at *;repeat' with_reducible apply a8_
   refine a2_ [] ?_;repeat' first|(with_reducible first|apply a8_|apply a3_|apply b1_|apply a9_|apply a1_)|((with_reducible refine a7_ ?_ ?_);(focus (go_simp;done)))|((with_reducible refine a0_ fun X Y=>?_);go_simp;refine Y _ ?_;clear Y X)
   refine a2_ [] ?_;repeat' first|(with_reducible first|apply a8_|apply a3_|apply a1_)|((with_reducible refine a0_ fun X Y=>?_);go_simp;refine Y _ ?_;clear Y X)
   refine c7_ (c0_ [] 2 ⟨rfl,rfl⟩ ?_);simp only [List.take,List.drop];repeat' first|with_reducible apply a1_|((with_reducible refine a0_ fun X Y=>?_);go_simp;refine Y _ ?_;clear Y X)
   refine e0_ [1,0] [1] [] [some (.box [.mp 1]),some (.mpo (4,.i64) M2)] (I E2) rfl (by go_simp) ?_ ?_
   ·unfold i9_;go_simp;refine ⟨_,_,_,wn,?_⟩;go_simp;kernel_rfl
   go_simp;refine c0_ [] 1 ⟨rfl,rfl⟩ ?_;simp only [List.take,List.drop];repeat' first|with_reducible apply a1_|((with_reducible refine a0_ fun X Y=>?_);go_simp;refine Y _ ?_;clear Y X)
   apply d6_;repeat' first|(with_reducible first|apply a8_|apply a3_|apply b5_|apply c4_|apply c8_|apply a1_|refine a2_ [] ?_)|((with_reducible refine a7_ ?_ ?_);(focus (go_simp;done)))|((with_reducible refine a0_ fun X Y=>?_);go_simp;refine Y _ ?_;clear Y X)
   go_simp
  ·intro HB2 K2;exfalso;exact HPP.out (a0h HB2.out)
 ·intro HB K;have HBQ:=HB;clear HB;by_cases h4:(s.tk.length:Int)≤40
  ·have h40:¬(40:Int) < (s.tk.length:Int):=by omega
   repeat' first|(with_reducible first|apply a8_|apply a3_|apply b8_|apply b1_|apply d0_|apply a9_|apply b7_|apply a1_|refine a2_ [] ?_)|((with_reducible refine a6_ ?_ ?_);(focus (go_simp;done)))|((with_reducible refine a0_ fun X Y=>?_);go_simp;refine Y _ ?_;clear Y X)
   apply u8_ [2,3,7,70,71] (fun k=>[(72,I k)]) (fun k=>([some (.mpo (4,.i64) (a2t (l5_ s k))),some (.box [.mp 0])] : Hp)) (fun k=>!decide (s3_ r s k=0)) (s.tk.length)
   ·go_simp<;>exact rfl
   ·go_simp
   ·intro k hk HB HP K hK;obtain ⟨w1,w2,w3,w4,w5,w6⟩:=ixs (m:=k) (by omega);have hcs:=HT.out k hk;have wn:=b0e (d5_ s.tk k).car (l5_ s k) hcs;have i1:=g3_ (d5_ s.tk k).rank 0 ((r.ranks.length:Int) - 1);have i2:=g3_ (d5_ s.tk k).time 0 s.time;have u1:=b0_ (inR (d5_ s.tk k).rank 0 ((r.ranks.length:Int) - 1)) 6;have u2:=b0_ (inR (d5_ s.tk k).time 0 s.time) 2;have hw:IntKind.i64.wrap ((r.ranks.length:Int) - 1)=(r.ranks.length:Int) - 1:=g0_ (by omega) (by omega);have u3:=b0_ (decide (k=0) || decide ((d5_ s.tk (k - 1)).time≤(d5_ s.tk k).time)) 9;have gF:VC Tryz.prog 88 [.sl 1 ([a5i (d5_ s.tk k).car (l5_ s k),unl (inR (d5_ s.tk k).rank 0 ((r.ranks.length:Int) - 1)) 6,unl (inR (d5_ s.tk k).time 0 s.time) 2,unl (decide (k=0) || decide ((d5_ s.tk (k - 1)).time≤(d5_ s.tk k).time)) 9].map p9_)] (I (s3_ r s k)):=c6_ _ rfl rfl;have hp:s3_ r s k=0:=by simpa using HP.out
    rw [hp] at gF;rw [a5v hk] at hK;clear hp;generalize inR (d5_ s.tk k).rank 0 ((r.ranks.length:Int) - 1)=D1 at *;generalize inR (d5_ s.tk k).time 0 s.time=D2 at *;generalize unl D1 6=A1 at *;generalize unl D2 2=A2 at *;generalize a5i (d5_ s.tk k).car (l5_ s k)=CE at *;generalize a2t (l5_ s k++[(d5_ s.tk k).car])=M2 at *;generalize a2t (l5_ s k)=M1 at *;rcases k with _|p
    ·have d0:(decide (0=0) || decide ((d5_ s.tk (0 - 1)).time≤(d5_ s.tk 0).time))=true:=rfl;rw [d0] at u3 gF;generalize unl true 9=A3 at *;clear d0;repeat' with_reducible apply a8_
     refine a2_ [] ?_;repeat' first|(with_reducible first|apply a8_|apply a3_|apply b1_|apply a9_|apply a1_)|((with_reducible refine a7_ ?_ ?_);(focus (go_simp;done)))|((with_reducible refine a0_ fun X Y=>?_);go_simp;refine Y _ ?_;clear Y X)
     refine a2_ [] ?_;repeat' first|(with_reducible first|apply a8_|apply a3_|apply a1_)|((with_reducible refine a0_ fun X Y=>?_);go_simp;refine Y _ ?_;clear Y X)
     refine c7_ (c0_ [] 3 ⟨rfl,rfl⟩ ?_);simp only [List.take,List.drop];repeat' first|with_reducible apply a1_|((with_reducible refine a0_ fun X Y=>?_);go_simp;refine Y _ ?_;clear Y X)
     refine e0_ [1,0] [1] [] [some (.box [.mp 1]),some (.mpo (4,.i64) M2)] (I CE) rfl (by go_simp) ?_ ?_
     ·unfold i9_;go_simp;refine ⟨_,_,_,wn,?_⟩;go_simp;kernel_rfl
     go_simp;refine c0_ [] 1 ⟨rfl,rfl⟩ ?_;simp only [List.take,List.drop];repeat' first|with_reducible apply a1_|((with_reducible refine a0_ fun X Y=>?_);go_simp;refine Y _ ?_;clear Y X)
     apply d6_;repeat' first|(with_reducible first|apply a8_|apply a3_|apply b1_|apply b3_|apply a1_|refine a2_ [] ?_|apply a5_)|((with_reducible refine a6_ ?_ ?_);(focus (go_simp;done)))|((with_reducible first|refine a0_ fun X Y=>?_|refine a4_ fun X Y=>?_);go_simp;(first|(with_reducible refine ⟨_,i1,?_⟩)|(with_reducible refine ⟨_,i2,?_⟩)|(with_reducible refine ⟨_,u1,?_⟩)|(with_reducible refine ⟨_,u2,?_⟩)|(with_reducible refine ⟨_,u3,?_⟩)|(refine ⟨_,gF,?_⟩)|skip);refine Y _ ?_;clear Y X)|((refine b2_ 34 33 [] rfl (by kernel_rfl) (by kernel_rfl) ?_);simp only [List.take,List.drop])
     refine hK _ ?_;go_simp
    ·have hsub:p+1 - 1=p:=by omega
     rw [hsub,decide_eq_false (by omega:¬p+1=0),Bool.false_or] at u3 gF;obtain ⟨x1,x2,x3,x4,x5,x6⟩:=ixs (m:=p) (by omega);have hpl:p < s.tk.length:=by omega
     have hpl2:(p:Int)+1 < (s.tk.length:Int):=by omega
     have hpl3:¬(p:Int)+1≤0:=by omega
     have hpl4:(0:Int) < (p:Int)+1:=by omega
     have hpl5:¬(p:Int)+1=0:=by omega
     have hpl6:(0:Int)≤(p:Int):=by omega
     have hpm:(if 0 < p then (p:Int) else 0)=(p:Int):=by split<;>omega
     generalize unl (decide ((d5_ s.tk p).time≤(d5_ s.tk (p+1)).time)) 9=A3 at *;clear hsub;repeat' with_reducible apply a8_
     refine a2_ [] ?_;repeat' first|(with_reducible first|apply a8_|apply a3_|apply b1_|apply a9_|apply a1_)|((with_reducible refine a7_ ?_ ?_);(focus (go_simp;done)))|((with_reducible refine a0_ fun X Y=>?_);go_simp;refine Y _ ?_;clear Y X)
     refine a2_ [] ?_;repeat' first|(with_reducible first|apply a8_|apply a3_|apply a1_)|((with_reducible refine a0_ fun X Y=>?_);go_simp;refine Y _ ?_;clear Y X)
     refine c7_ (c0_ [] 3 ⟨rfl,rfl⟩ ?_);simp only [List.take,List.drop];repeat' first|with_reducible apply a1_|((with_reducible refine a0_ fun X Y=>?_);go_simp;refine Y _ ?_;clear Y X)
     refine e0_ [1,0] [1] [] [some (.box [.mp 1]),some (.mpo (4,.i64) M2)] (I CE) rfl (by go_simp) ?_ ?_
     ·unfold i9_;go_simp;refine ⟨_,_,_,wn,?_⟩;go_simp;kernel_rfl
     go_simp;refine c0_ [] 1 ⟨rfl,rfl⟩ ?_;simp only [List.take,List.drop];repeat' first|with_reducible apply a1_|((with_reducible refine a0_ fun X Y=>?_);go_simp;refine Y _ ?_;clear Y X)
     apply d6_;repeat' first|(with_reducible first|apply a8_|apply a3_|apply b1_|apply b3_|apply a1_|refine a2_ [] ?_|apply a5_)|((with_reducible refine a6_ ?_ ?_);(focus (go_simp;done)))|((with_reducible first|refine a0_ fun X Y=>?_|refine a4_ fun X Y=>?_);go_simp;(first|(with_reducible refine ⟨_,i1,?_⟩)|(with_reducible refine ⟨_,i2,?_⟩)|(with_reducible refine ⟨_,u1,?_⟩)|(with_reducible refine ⟨_,u2,?_⟩)|(with_reducible refine ⟨_,u3,?_⟩)|(refine ⟨_,gF,?_⟩)|skip);refine Y _ ?_;clear Y X)|((refine b2_ 34 33 [] rfl (by kernel_rfl) (by kernel_rfl) ?_);simp only [List.take,List.drop])
     refine hK _ ?_;go_simp
   ·intro k hk HB HP K;obtain ⟨w1,w2,w3,w4,w5,w6⟩:=ixs (m:=k) (by omega);have hcs:=HT.out k hk;have wn:=b0e (d5_ s.tk k).car (l5_ s k) hcs;have i1:=g3_ (d5_ s.tk k).rank 0 ((r.ranks.length:Int) - 1);have i2:=g3_ (d5_ s.tk k).time 0 s.time;have u1:=b0_ (inR (d5_ s.tk k).rank 0 ((r.ranks.length:Int) - 1)) 6;have u2:=b0_ (inR (d5_ s.tk k).time 0 s.time) 2;have hw:IntKind.i64.wrap ((r.ranks.length:Int) - 1)=(r.ranks.length:Int) - 1:=g0_ (by omega) (by omega);have u3:=b0_ (decide (k=0) || decide ((d5_ s.tk (k - 1)).time≤(d5_ s.tk k).time)) 9;have gF:VC Tryz.prog 88 [.sl 1 ([a5i (d5_ s.tk k).car (l5_ s k),unl (inR (d5_ s.tk k).rank 0 ((r.ranks.length:Int) - 1)) 6,unl (inR (d5_ s.tk k).time 0 s.time) 2,unl (decide (k=0) || decide ((d5_ s.tk (k - 1)).time≤(d5_ s.tk k).time)) 9].map p9_)] (I (s3_ r s k)):=c6_ _ rfl rfl;have e:=d3j HSH.out HBQ.out h4 hk HB.out HP.out;have hp:¬s3_ r s k=0:=by simpa using HP.out
    rw [HE.out] at e;subst e;generalize s3_ r s k=TE at *;generalize inR (d5_ s.tk k).rank 0 ((r.ranks.length:Int) - 1)=D1 at *;generalize inR (d5_ s.tk k).time 0 s.time=D2 at *;generalize unl D1 6=A1 at *;generalize unl D2 2=A2 at *;generalize a5i (d5_ s.tk k).car (l5_ s k)=CE at *;generalize a2t (l5_ s k++[(d5_ s.tk k).car])=M2 at *;generalize a2t (l5_ s k)=M1 at *;rcases k with _|p
    ·have d0:(decide (0=0) || decide ((d5_ s.tk (0 - 1)).time≤(d5_ s.tk 0).time))=true:=rfl;rw [d0] at u3 gF;generalize unl true 9=A3 at *;clear d0;repeat' with_reducible apply a8_
     refine a2_ [] ?_;repeat' first|(with_reducible first|apply a8_|apply a3_|apply b1_|apply a9_|apply a1_)|((with_reducible refine a7_ ?_ ?_);(focus (go_simp;done)))|((with_reducible refine a0_ fun X Y=>?_);go_simp;refine Y _ ?_;clear Y X)
     refine a2_ [] ?_;repeat' first|(with_reducible first|apply a8_|apply a3_|apply a1_)|((with_reducible refine a0_ fun X Y=>?_);go_simp;refine Y _ ?_;clear Y X)
     refine c7_ (c0_ [] 3 ⟨rfl,rfl⟩ ?_);simp only [List.take,List.drop];repeat' first|with_reducible apply a1_|((with_reducible refine a0_ fun X Y=>?_);go_simp;refine Y _ ?_;clear Y X)
     refine e0_ [1,0] [1] [] [some (.box [.mp 1]),some (.mpo (4,.i64) M2)] (I CE) rfl (by go_simp) ?_ ?_
     ·unfold i9_;go_simp;refine ⟨_,_,_,wn,?_⟩;go_simp;kernel_rfl
     go_simp;refine c0_ [] 1 ⟨rfl,rfl⟩ ?_;simp only [List.take,List.drop];repeat' first|with_reducible apply a1_|((with_reducible refine a0_ fun X Y=>?_);go_simp;refine Y _ ?_;clear Y X)
     apply d6_;repeat' first|(with_reducible first|apply a8_|apply a3_|apply b5_|apply c4_|apply c8_|apply a1_|refine a2_ [] ?_|apply a5_)|((with_reducible refine a7_ ?_ ?_);(focus (go_simp;done)))|((with_reducible first|refine a0_ fun X Y=>?_|refine a4_ fun X Y=>?_);go_simp;(first|(with_reducible refine ⟨_,i1,?_⟩)|(with_reducible refine ⟨_,i2,?_⟩)|(with_reducible refine ⟨_,u1,?_⟩)|(with_reducible refine ⟨_,u2,?_⟩)|(with_reducible refine ⟨_,u3,?_⟩)|(refine ⟨_,gF,?_⟩)|skip);refine Y _ ?_;clear Y X)|((refine b2_ 34 33 [] rfl (by kernel_rfl) (by kernel_rfl) ?_);simp only [List.take,List.drop])
     go_simp
    ·have hsub:p+1 - 1=p:=by omega
     rw [hsub,decide_eq_false (by omega:¬p+1=0),Bool.false_or] at u3 gF;obtain ⟨x1,x2,x3,x4,x5,x6⟩:=ixs (m:=p) (by omega);have hpl:p < s.tk.length:=by omega
     have hpl2:(p:Int)+1 < (s.tk.length:Int):=by omega
     have hpl3:¬(p:Int)+1≤0:=by omega
     have hpl4:(0:Int) < (p:Int)+1:=by omega
     have hpl5:¬(p:Int)+1=0:=by omega
     have hpl6:(0:Int)≤(p:Int):=by omega
     have hpm:(if 0 < p then (p:Int) else 0)=(p:Int):=by split<;>omega
     generalize unl (decide ((d5_ s.tk p).time≤(d5_ s.tk (p+1)).time)) 9=A3 at *;clear hsub;repeat' with_reducible apply a8_
     refine a2_ [] ?_;repeat' first|(with_reducible first|apply a8_|apply a3_|apply b1_|apply a9_|apply a1_)|((with_reducible refine a7_ ?_ ?_);(focus (go_simp;done)))|((with_reducible refine a0_ fun X Y=>?_);go_simp;refine Y _ ?_;clear Y X)
     refine a2_ [] ?_;repeat' first|(with_reducible first|apply a8_|apply a3_|apply a1_)|((with_reducible refine a0_ fun X Y=>?_);go_simp;refine Y _ ?_;clear Y X)
     refine c7_ (c0_ [] 3 ⟨rfl,rfl⟩ ?_);simp only [List.take,List.drop];repeat' first|with_reducible apply a1_|((with_reducible refine a0_ fun X Y=>?_);go_simp;refine Y _ ?_;clear Y X)
     refine e0_ [1,0] [1] [] [some (.box [.mp 1]),some (.mpo (4,.i64) M2)] (I CE) rfl (by go_simp) ?_ ?_
     ·unfold i9_;go_simp;refine ⟨_,_,_,wn,?_⟩;go_simp;kernel_rfl
     go_simp;refine c0_ [] 1 ⟨rfl,rfl⟩ ?_;simp only [List.take,List.drop];repeat' first|with_reducible apply a1_|((with_reducible refine a0_ fun X Y=>?_);go_simp;refine Y _ ?_;clear Y X)
     apply d6_;repeat' first|(with_reducible first|apply a8_|apply a3_|apply b5_|apply c4_|apply c8_|apply a1_|refine a2_ [] ?_|apply a5_)|((with_reducible refine a7_ ?_ ?_);(focus (go_simp;done)))|((with_reducible first|refine a0_ fun X Y=>?_|refine a4_ fun X Y=>?_);go_simp;(first|(with_reducible refine ⟨_,i1,?_⟩)|(with_reducible refine ⟨_,i2,?_⟩)|(with_reducible refine ⟨_,u1,?_⟩)|(with_reducible refine ⟨_,u2,?_⟩)|(with_reducible refine ⟨_,u3,?_⟩)|(refine ⟨_,gF,?_⟩)|skip);refine Y _ ?_;clear Y X)|((refine b2_ 34 33 [] rfl (by kernel_rfl) (by kernel_rfl) ?_);simp only [List.take,List.drop])
     go_simp
   ·intro HB K;have e:=d3k HSH.out HBQ.out h4 HB.out;rw [HE.out] at e;rw [←e] at g6;generalize inR s.time 0 604800=D1 at *;generalize hNX:i8_ r s=NX at *;have hdn:decide (NX < 0)=decide (NX < 0):=rfl;clear e hdn hNX;generalize unl D1 2=A1 at *;generalize unl (decide (NX < 0)) 22=A2 at *;repeat' first|(with_reducible first|apply a8_|apply a3_|apply b8_|apply c4_|apply d0_|apply b7_|apply a1_|refine a2_ [] ?_)|((with_reducible refine a6_ ?_ ?_);(focus (go_simp;done)))|((with_reducible refine a0_ fun X Y=>?_);go_simp;(first|(with_reducible refine ⟨_,i5,?_⟩)|(with_reducible refine ⟨_,u5,?_⟩)|(with_reducible refine ⟨_,gm,?_⟩)|(with_reducible refine ⟨_,u6,?_⟩)|(refine ⟨_,g6,?_⟩)|skip);refine Y _ ?_;clear Y X)
    go_simp
  ·have h40:(40:Int) < (s.tk.length:Int):=by omega
   have e:=d3i HSH.out HBQ.out h4;rw [HE.out] at e;subst e;repeat' first|(with_reducible first|apply a8_|apply a3_|apply b8_|apply b5_|apply c4_|apply d0_|apply b7_|apply a1_|refine a2_ [] ?_)|((with_reducible refine a7_ ?_ ?_);(focus (go_simp;done)))|((with_reducible refine a6_ ?_ ?_);(focus (go_simp;done)))|((with_reducible refine a0_ fun X Y=>?_);go_simp;refine Y _ ?_;clear Y X)
   go_simp
def ckE (r:Ru) (s:St) : Int:=if (d2_ r).2≠0 then (d2_ r).2 else k5_ r s
theorem q6_ (r:Ru) (s:St) (hn:r.ranks.length≤1000000) (hnm:∀ k,k < r.ranks.length→(rat r.ranks k).name.size≤1000) (hs:SmallS s) : VC Tryz.prog 52 [c3_ r,e3_ s] (I (ckE r s)):=by
 unfold ckE;by_cases h0:(d2_ r).2=0
 ·rw [if_neg (by simp [h0])];by_cases hsh:s.q.length=r.ranks.length
  ·exact a7w r s hn hnm hs h0 hsh
  ·have g:=a1n r s hn hnm hs (.inr hsh);have e:k5_ r s=10:=by
    unfold k5_;rw [decide_eq_false hsh];rfl
   rw [e];rw [h0] at g;exact g
 ·rw [if_pos h0];have g:=a1n r s hn hnm hs (.inl h0);have e:fst [(d2_ r).2,10]=(d2_ r).2:=by simp [fst,h0]
  rw [e] at g;exact g
theorem b6d (r:Ru) (s:St) (hn:r.ranks.length≤1000000) (hnm:∀ k,k < r.ranks.length→(rat r.ranks k).name.size≤1000) (hs:SmallS s) : VC Tryz.prog 65 [c3_ r,e3_ s] (I (ckE r s)):=by
 have g1:=b6b r hn hnm;unfold ckE;by_cases h0:(d2_ r).2=0
 ·rw [if_neg (by simp [h0])];have g2:=b0c r s (a1a h0).1 hn hs;rw [h0] at g1;generalize k5_ r s=C at *;clear h0 hnm hs;refine c2_ Tryz.func65 rfl (by kernel_rfl) (by kernel_rfl) rfl fun M0 w0=>?_;simp only [Tryz.ntmps65,Tryz.results65,b4_];repeat' first|(with_reducible first|apply a8_|apply a3_|apply c4_|apply b1_|apply a1_|refine a2_ [] ?_)|((with_reducible refine a6_ ?_ ?_);(focus (go_simp;done)))|((with_reducible refine a0_ fun X Y=>?_);go_simp;(first|(refine ⟨_,g1,?_⟩)|(refine ⟨_,g2,?_⟩)|skip);refine Y _ ?_;clear Y X)
  go_simp
 ·rw [if_pos h0];generalize (d2_ r).2=C at *;refine c2_ Tryz.func65 rfl (by kernel_rfl) (by kernel_rfl) rfl fun M0 w0=>?_;simp only [Tryz.ntmps65,Tryz.results65,b4_];repeat' first|(with_reducible first|apply a8_|apply a3_|apply b5_|apply c4_|apply a1_|refine a2_ [] ?_)|((with_reducible refine a7_ ?_ ?_);(focus (go_simp;done)))|((with_reducible refine a0_ fun X Y=>?_);go_simp;(first|(refine ⟨_,g1,?_⟩)|skip);refine Y _ ?_;clear Y X)
  go_simp
def a4e (l:List ByteArray) (j:Nat) : Bool:=decide (20 < (tat l j).size)
def b6e (s:St) (k:Nat) : Bool:=decide (14 < (qat s.q k).length) || a2w (a4e (qat s.q k)) 0 (qat s.q k).length
def b6f (s:St) (k:Nat) : Bool:=decide (20 < (d5_ s.tk k).car.size)
def b0f (s:St) : Bool:=decide (s.q.length≤8∧(s.tk.length≤8∨40 < s.tk.length∧s.tk.length≤42))&&!a2w (b6e s) 0 s.q.length&&!a2w (b6f s) 0 s.tk.length
theorem c7w (s:St) (hq:s.q.length≤9223372036854775807) (ht:s.tk.length≤9223372036854775807) : VC Tryz.prog 51 [e3_ s] (B (b0f s)):=by
 unfold b0f;by_cases h8:s.q.length≤8∧(s.tk.length≤8∨40 < s.tk.length∧s.tk.length≤42)
 ·obtain ⟨h1,h2⟩:=h8;rw [decide_eq_true (show s.q.length≤8∧(s.tk.length≤8∨40 < s.tk.length∧s.tk.length≤42) from ⟨h1,h2⟩),Bool.true_and];have h3:¬(8:Int) < (s.q.length:Int):=by omega
  have h42:¬(42:Int) < (s.tk.length:Int):=by omega
  have hb:(8:Int) < (s.tk.length:Int)→¬(s.tk.length:Int)≤40:=by omega
  have htl:s.tk.length≤42:=by omega
  obtain ⟨R1,hR1⟩ : ∃ R,a2w (b6e s) 0 s.q.length=R:=⟨_,rfl⟩
  obtain ⟨R2,hR2⟩ : ∃ R,a2w (b6f s) 0 s.tk.length=R:=⟨_,rfl⟩
  rw [hR1,hR2];have HR1:=Lib.hid hR1;have HR2:=Lib.hid hR2;have HQL:=Lib.hid h1;have HTL:=Lib.hid htl;clear h1 h2 hq ht hR1 hR2 htl;by_cases h5:(8:Int) < (s.tk.length:Int)
  all_goals (
   first
    | (have h6:=hb h5)
    | skip
   clear hb;refine c2_ Tryz.func51 rfl (by kernel_rfl) (by kernel_rfl) rfl fun M0 w0=>?_;simp only [Tryz.ntmps51,Tryz.results51,b4_];repeat' first|(with_reducible first|apply a8_|apply a3_|apply b1_|apply a9_|apply a1_|refine a2_ [] ?_)|((with_reducible refine a6_ ?_ ?_);(focus (go_simp;done)))|((with_reducible refine a0_ fun X Y=>?_);go_simp;refine Y _ ?_;clear Y X)
   apply u8_ [1] (fun k=>[(3,I k)]) (fun k=>([] : Hp)) (b6e s) (s.q.length)
   ·go_simp<;>exact rfl
   ·go_simp
   ·intro m hm HB HP K hK;have:=HQL.out;obtain ⟨w1,w2,w3,w4,w5,w6⟩:=ixs (m:=m) (by omega);have hp:=HP.out;unfold b6e at hp;rw [Bool.or_eq_false_iff,decide_eq_false_iff_not] at hp;obtain ⟨hp1,hp2⟩:=hp;have hp3:¬(14:Int) < ((qat s.q m).length:Int):=by omega
    have HP2:=Lib.hid hp2;have HP1:=Lib.hid hp1;clear hp1 hp2 this;repeat' first|(with_reducible first|apply a8_|apply a3_|apply b1_|apply a9_|apply a1_|refine a2_ [] ?_)|((with_reducible refine a7_ ?_ ?_);(focus (go_simp;done)))|((with_reducible refine a6_ ?_ ?_);(focus (go_simp;done)))|((with_reducible refine a0_ fun X Y=>?_);go_simp;refine Y _ ?_;clear Y X)
    apply u8_ [1,3] (fun k=>[(4,I k)]) (fun k=>([] : Hp)) (a4e (qat s.q m)) ((qat s.q m).length)
    ·go_simp<;>exact rfl
    ·go_simp
    ·intro j hj HB2 HPj K2 hK2;have:=HP1.out;obtain ⟨x1,x2,x3,x4,x5,x6⟩:=ixs (m:=j) (by omega);have hpj:=HPj.out;rw [a4e,decide_eq_false_iff_not,c9_ hj] at hpj;have hpk:¬(20:Int) < ((qat s.q m)[j].size:Int):=by omega
     clear hpj this;repeat' first|(with_reducible first|apply a8_|apply a3_|apply b1_|apply a9_|apply b3_|apply a1_|refine a2_ [] ?_)|((with_reducible refine a7_ ?_ ?_);(focus (go_simp;done)))|((with_reducible refine a6_ ?_ ?_);(focus (go_simp;done)))|((with_reducible refine a0_ fun X Y=>?_);go_simp;refine Y _ ?_;clear Y X)
     refine hK2 _ ?_;go_simp
    ·intro j hj HB2 HPj K2;have h:=HP2.out;rw [k3_ hj HPj.out] at h;cases h
    ·intro HB2 K2;repeat' first|(with_reducible first|apply a8_|apply a3_|apply b8_|apply d0_|apply b3_|apply b7_|apply a1_|refine a2_ [] ?_)|((with_reducible refine a6_ ?_ ?_);(focus (go_simp;done)))|((with_reducible refine a0_ fun X Y=>?_);go_simp;refine Y _ ?_;clear Y X)
     refine hK _ ?_;go_simp
   ·intro m hm HB HP K;have:=HQL.out;obtain ⟨w1,w2,w3,w4,w5,w6⟩:=ixs (m:=m) (by omega);have e:=HR1.out;rw [k3_ hm HP.out] at e;subst e;rw [Bool.not_true,Bool.false_and];have hp:=HP.out;unfold b6e at hp;by_cases hp1:14 < (qat s.q m).length
    ·have hp3:(14:Int) < ((qat s.q m).length:Int):=by omega
     clear hp hp1 this;repeat' first|(with_reducible first|apply a8_|apply a3_|apply b5_|apply c4_|apply b1_|apply a9_|apply c8_|apply a1_|refine a2_ [] ?_)|((with_reducible refine a7_ ?_ ?_);(focus (go_simp;done)))|((with_reducible refine a0_ fun X Y=>?_);go_simp;refine Y _ ?_;clear Y X)
     go_simp
    ·rw [decide_eq_false hp1,Bool.false_or] at hp;have hp3:¬(14:Int) < ((qat s.q m).length:Int):=by omega
     have HP2:=Lib.hid hp;have HP1:=Lib.hid hp1;clear hp hp1 this;repeat' first|(with_reducible first|apply a8_|apply a3_|apply b1_|apply a9_|apply a1_|refine a2_ [] ?_)|((with_reducible refine a7_ ?_ ?_);(focus (go_simp;done)))|((with_reducible refine a6_ ?_ ?_);(focus (go_simp;done)))|((with_reducible refine a0_ fun X Y=>?_);go_simp;refine Y _ ?_;clear Y X)
     apply u8_ [1,3] (fun k=>[(4,I k)]) (fun k=>([] : Hp)) (a4e (qat s.q m)) ((qat s.q m).length)
     ·go_simp<;>exact rfl
     ·go_simp
     ·intro j hj HB2 HPj K2 hK2;have:=HP1.out;obtain ⟨x1,x2,x3,x4,x5,x6⟩:=ixs (m:=j) (by omega);have hpj:=HPj.out;rw [a4e,decide_eq_false_iff_not,c9_ hj] at hpj;have hpk:¬(20:Int) < ((qat s.q m)[j].size:Int):=by omega
      clear hpj this;repeat' first|(with_reducible first|apply a8_|apply a3_|apply b1_|apply a9_|apply b3_|apply a1_|refine a2_ [] ?_)|((with_reducible refine a7_ ?_ ?_);(focus (go_simp;done)))|((with_reducible refine a6_ ?_ ?_);(focus (go_simp;done)))|((with_reducible refine a0_ fun X Y=>?_);go_simp;refine Y _ ?_;clear Y X)
      refine hK2 _ ?_;go_simp
     ·intro j hj HB2 HPj K2;have:=HP1.out;obtain ⟨x1,x2,x3,x4,x5,x6⟩:=ixs (m:=j) (by omega);have hpj:=HPj.out;rw [a4e,decide_eq_true_eq,c9_ hj] at hpj;have hpk:(20:Int) < ((qat s.q m)[j].size:Int):=by omega
      clear hpj this;repeat' first|(with_reducible first|apply a8_|apply a3_|apply b5_|apply c4_|apply b1_|apply a9_|apply c8_|apply a1_|refine a2_ [] ?_)|((with_reducible refine a7_ ?_ ?_);(focus (go_simp;done)))|((with_reducible refine a0_ fun X Y=>?_);go_simp;refine Y _ ?_;clear Y X)
      go_simp
     ·intro HB2 K2;have h:=HP2.out;rw [m7_ HB2.out] at h;cases h
   ·intro HB K;have e:=HR1.out;rw [m7_ HB.out] at e;subst e;rw [Bool.not_false,Bool.true_and];repeat' first|(with_reducible first|apply a8_|apply a3_|apply b8_|apply d0_|apply a9_|apply b7_|apply a1_|refine a2_ [] ?_)|((with_reducible refine a6_ ?_ ?_);(focus (go_simp;done)))|((with_reducible refine a0_ fun X Y=>?_);go_simp;refine Y _ ?_;clear Y X)
    apply u8_ [1] (fun k=>[(5,I k)]) (fun k=>([] : Hp)) (b6f s) (s.tk.length)
    ·go_simp<;>exact rfl
    ·go_simp
    ·intro k hk HB2 HP K2 hK;have:=HTL.out;obtain ⟨w1,w2,w3,w4,w5,w6⟩:=ixs (m:=k) (by omega);have hp:=HP.out;rw [b6f,decide_eq_false_iff_not] at hp;have hp2:¬(20:Int) < ((d5_ s.tk k).car.size:Int):=by omega
     clear hp this;repeat' first|(with_reducible first|apply a8_|apply a3_|apply b1_|apply a9_|apply b3_|apply a1_|refine a2_ [] ?_)|((with_reducible refine a7_ ?_ ?_);(focus (go_simp;done)))|((with_reducible refine a6_ ?_ ?_);(focus (go_simp;done)))|((with_reducible refine a0_ fun X Y=>?_);go_simp;refine Y _ ?_;clear Y X)
     refine hK _ ?_;go_simp
    ·intro k hk HB2 HP K2;have:=HTL.out;obtain ⟨w1,w2,w3,w4,w5,w6⟩:=ixs (m:=k) (by omega);have hp:=HP.out;rw [b6f,decide_eq_true_eq] at hp;have hp2:(20:Int) < ((d5_ s.tk k).car.size:Int):=by omega
     have e:=HR2.out;rw [k3_ hk HP.out] at e;subst e;clear hp this;repeat' first|(with_reducible first|apply a8_|apply a3_|apply b5_|apply c4_|apply b1_|apply a9_|apply c8_|apply a1_|refine a2_ [] ?_)|((with_reducible refine a7_ ?_ ?_);(focus (go_simp;done)))|((with_reducible refine a0_ fun X Y=>?_);go_simp;refine Y _ ?_;clear Y X)
     go_simp
    ·intro HB2 K2;have e:=HR2.out;rw [m7_ HB2.out] at e;subst e;repeat' first|(with_reducible first|apply a8_|apply a3_|apply b8_|apply c4_|apply d0_|apply b7_|apply a1_|refine a2_ [] ?_)|((with_reducible refine a6_ ?_ ?_);(focus (go_simp;done)))|((with_reducible refine a0_ fun X Y=>?_);go_simp;refine Y _ ?_;clear Y X)
     go_simp)
 ·rw [decide_eq_false h8,Bool.false_and,Bool.false_and];by_cases h1:(8:Int) < (s.q.length:Int)
  ·clear h8 hq ht;refine c2_ Tryz.func51 rfl (by kernel_rfl) (by kernel_rfl) rfl fun M0 w0=>?_;simp only [Tryz.ntmps51,Tryz.results51,b4_];repeat' first|(with_reducible first|apply a8_|apply a3_|apply b5_|apply c4_|apply a1_|refine a2_ [] ?_)|((with_reducible refine a7_ ?_ ?_);(focus (go_simp;done)))|((with_reducible refine a0_ fun X Y=>?_);go_simp;refine Y _ ?_;clear Y X)
   go_simp
  ·by_cases h2:(42:Int) < (s.tk.length:Int)
   ·have h3:(8:Int) < (s.tk.length:Int):=by omega
    have h4:¬(s.tk.length:Int)≤40:=by omega
    clear h8 hq ht;refine c2_ Tryz.func51 rfl (by kernel_rfl) (by kernel_rfl) rfl fun M0 w0=>?_;simp only [Tryz.ntmps51,Tryz.results51,b4_];repeat' first|(with_reducible first|apply a8_|apply a3_|apply b5_|apply c4_|apply a1_|refine a2_ [] ?_)|((with_reducible refine a7_ ?_ ?_);(focus (go_simp;done)))|((with_reducible refine a0_ fun X Y=>?_);go_simp;refine Y _ ?_;clear Y X)
    go_simp
   ·have h3:(8:Int) < (s.tk.length:Int):=by omega
    have h4:(s.tk.length:Int)≤40:=by omega
    clear h8 hq ht;refine c2_ Tryz.func51 rfl (by kernel_rfl) (by kernel_rfl) rfl fun M0 w0=>?_;simp only [Tryz.ntmps51,Tryz.results51,b4_];repeat' first|(with_reducible first|apply a8_|apply a3_|apply b5_|apply c4_|apply a1_|refine a2_ [] ?_)|((with_reducible refine a7_ ?_ ?_);(focus (go_simp;done)))|((with_reducible refine a0_ fun X Y=>?_);go_simp;refine Y _ ?_;clear Y X)
    go_simp
theorem c3v {s:St} (h:b0f s=true) (ht:∀ t∈s.tk,i64 t.rank∧i64 t.time) (hm:i64 s.time) : SmallS s:=by
 unfold b0f at h;simp only [Bool.and_eq_true,decide_eq_true_eq,Bool.not_eq_true'] at h;obtain ⟨⟨⟨h1,h2⟩,h3⟩,h4⟩:=h;have hno:∀ {p:Nat→Bool} {n:Nat},a2w p 0 n=false→∀ k,k < n→p k=false:=fun {p n} hp k hk=>by
  cases hb:p k
  ·rfl
  ·rw [k3_ hk hb] at hp;cases hp
 refine ⟨by omega,fun l hl=>?_,by omega,fun t htm=>?_,hm⟩
 ·obtain ⟨k,hk,rfl⟩:=List.getElem_of_mem hl;have hq:=hno h3 k hk;unfold b6e at hq;rw [d8_ hk,Bool.or_eq_false_iff,decide_eq_false_iff_not] at hq;refine ⟨by omega,fun c hc=>?_⟩;obtain ⟨j,hj,rfl⟩:=List.getElem_of_mem hc;have:=hno hq.2 j hj;rw [a4e,decide_eq_false_iff_not,c9_ hj] at this;omega
 ·obtain ⟨k,hk,rfl⟩:=List.getElem_of_mem htm;have:=hno h4 k hk;rw [b6f,decide_eq_false_iff_not,e8_ hk] at this;exact ⟨by omega,ht _ htm⟩
end Go.Proofs.YtoibondihdhnoaaGreatDoor
