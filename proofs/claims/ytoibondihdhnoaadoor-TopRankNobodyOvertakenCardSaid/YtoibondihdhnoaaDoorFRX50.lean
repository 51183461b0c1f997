/- Texts in one: Walks: which states are right, as the reference has them. -/
import Derived.Test.YtoibondihdhnoaaDoorFRX49
import Derived.Test.YtoibondihdhnoaaDoorFRX48
import Derived.Test.YtoibondihdhnoaaDoorFRX34
import Derived.Test.YtoibondihdhnoaaDoorFRX37
namespace Go.Proofs.YtoibondihdhnoaaDoor
open Go.RowKit
set_option maxRecDepth 100000
set_option maxHeartbeats 4000000
theorem c8t (a b:List Int) : fst (a++b)=if fst a=0 then fst b else fst a:=by
 induction a with
 | nil=>rfl
 | cons x a ih=>
  by_cases h:x=0
  ·simp [fst,h,ih]
  ·simp [fst,h]
theorem c1c (E:Nat→Int) (n:Nat) : b6j E (n+1)=if b6j E n=0 then E n else b6j E n:=by
 unfold b6j;rw [List.range_succ,List.map_append,c8t];congr 1;simp only [List.map_cons,List.map_nil,fst];split
 ·rfl
 ·rename_i h;simp at h;rw [h]
theorem a1n {E:Nat→Int} : ∀ {n:Nat},(∀ j,j < n→(!decide (E j=0))=false)→b6j E n=0:=fun h=>a0p.2 fun j hj=>by simpa using h j hj
theorem a2s {E:Nat→Int} {k:Nat} : ∀ {n:Nat},k < n→(∀ j,j < k→(!decide (E j=0))=false)→(!decide (E k=0))=true→b6j E n=E k
 | 0,h,_,_=>by omega
 | n+1,h,hb,hp=>by
  have hne:E k≠0:=by simpa using hp
  rw [c1c];by_cases he:k=n
  ·subst he;rw [if_pos (a1n hb)]
  ·rw [a2s (by omega:k < n) hb hp,if_neg hne]
theorem b0z (l:List ByteArray) (c:ByteArray) : a5w (isT l c) 0 l.length=inL c l:=by
 rw [Bool.eq_iff_iff,z1_];constructor
 ·intro h;apply Classical.byContradiction;intro hno;rw [r7_ fun j hj=>by
   rw [isT,decide_eq_false_iff_not,e7_ hj];exact fun he=>hno (he▸List.getElem_mem hj)] at h
  cases h
 ·intro h;obtain ⟨j,hj,he⟩:=List.getElem_of_mem h;exact m7_ hj (by rw [isT,e7_ hj,he];simp)
theorem c1d {c:ByteArray} {l:List ByteArray} (h:c8_ c=false) : a6v c l=4:=by simp [a6v,fst,unl,h]
theorem c1e {c:ByteArray} {l:List ByteArray} (h:c8_ c=true) (h2:inL c l=true) : a6v c l=5:=by simp [a6v,fst,unl,h,h2]
theorem c1f {c:ByteArray} {l:List ByteArray} (h:c8_ c=true) (h2:inL c l=false) : a6v c l=0:=by simp [a6v,fst,unl,h,h2]
def g4_ (s:St) (k:Nat) : List ByteArray:=(s.q.take k).flatten
@[go_sem] theorem c8u (s:St) : g4_ s 0=[]:=by simp [g4_]
theorem a8u {s:St} (h:∀ k,k < s.q.length→(qat s.q k).length≤300) : ∀ k,k≤s.q.length→(g4_ s k).length≤k*300
 | 0,_=>by simp [g4_]
 | k+1,hk=>by
  have:=a8u h k (by omega);have h2:=h k (by omega);unfold g4_ at this ⊢;rw [a2e (by omega),List.length_append];omega
def o6_ (s:St) (k:Nat) : List ByteArray:=s.q.flatten++(s.tk.take k).map (·.car)
@[go_sem] theorem c8v (s:St) : o6_ s 0=g4_ s s.q.length:=by simp [o6_,g4_]
theorem a7e {s:St} {k:Nat} (h:k < s.tk.length) : o6_ s (k+1)=o6_ s k++[(d8_ s.tk k).car]:=by
 unfold o6_;rw [l0_ h,List.map_append,←List.append_assoc,f5_ h];rfl
theorem b5d {s:St} (h:∀ k,k < s.q.length→(qat s.q k).length≤300) (k:Nat) (hk:k≤s.tk.length) : (o6_ s k).length≤s.q.length*300+k:=by
 have:=a8u h s.q.length (Nat.le_refl _);unfold g4_ at this;rw [List.take_length] at this;unfold o6_;rw [List.length_append,List.length_map,List.length_take];omega
theorem d4q {r:Ru} {s:St} {m:Nat} (h:s.q.length=r.ranks.length) (hm:m < s.q.length) (hb:∀ j,j < m→(!decide (n3_ r s j=0))=false) (hp:(!decide (n3_ r s m=0))=true) : n4_ r s=n3_ r s m:=by
 have hne:n3_ r s m≠0:=by simpa using hp
 unfold n4_;rw [decide_eq_true h,a2s hm hb hp];simp [fst,unl,hne]
theorem d4r {r:Ru} {s:St} (h:s.q.length=r.ranks.length) (hq:∀ j,j < s.q.length→(!decide (n3_ r s j=0))=false) (h4:¬(s.tk.length:Int)≤40) : n4_ r s=8:=by
 unfold n4_;rw [decide_eq_true h,a1n hq,decide_eq_false h4];simp [fst,unl]
theorem d4s {r:Ru} {s:St} {m:Nat} (h:s.q.length=r.ranks.length) (hq:∀ j,j < s.q.length→(!decide (n3_ r s j=0))=false) (h4:(s.tk.length:Int)≤40) (hm:m < s.tk.length) (hb:∀ j,j < m→(!decide (v5_ r s j=0))=false) (hp:(!decide (v5_ r s m=0))=true) : n4_ r s=v5_ r s m:=by
 have hne:v5_ r s m≠0:=by simpa using hp
 unfold n4_;rw [decide_eq_true h,a1n hq,decide_eq_true h4,a2s hm hb hp];simp [fst,unl,hne]
theorem d4t {r:Ru} {s:St} (h:s.q.length=r.ranks.length) (hq:∀ j,j < s.q.length→(!decide (n3_ r s j=0))=false) (h4:(s.tk.length:Int)≤40) (ht:∀ j,j < s.tk.length→(!decide (v5_ r s j=0))=false) : n4_ r s=fst [unl (inR s.time 0 604800) 2,unl (decide (f9_ r s < 0)) 22]:=by
 unfold n4_;rw [decide_eq_true h,a1n hq,decide_eq_true h4,a1n ht];simp [fst,unl]
theorem b7a {r:Ru} {s:St} {k:Nat} (h:v5_ r s k=0) : (c8_ (d8_ s.tk k).car=true∧(d8_ s.tk k).car∉o6_ s k)∧inR (d8_ s.tk k).rank 0 ((r.ranks.length:Int) - 1)=true∧inR (d8_ s.tk k).time 0 s.time=true∧(k=0∨(d8_ s.tk (k - 1)).time≤(d8_ s.tk k).time):=by
 unfold v5_ at h;rw [b2_,b2_,b2_,b2_] at h;have h4:=c7_ (by decide) h.2.2.2.1;simp only [Bool.or_eq_true,decide_eq_true_eq] at h4;exact ⟨a0q.1 h.1,c7_ (by decide) h.2.1,c7_ (by decide) h.2.2.1,h4⟩
theorem b1a (r:Ru) (s:St) (hr:RuOK r) (hn:r.ranks.length≤1000000) (hs:SmallS s) : VC Tryd.prog 12 [c4_ r,c9_ s] (I (n4_ r s)):=by
 obtain ⟨E,hE⟩ : ∃ E,n4_ r s=E:=⟨_,rfl⟩
 rw [hE];have HE:=Lib.hid hE;have hq:∀ k,k < s.q.length→(qat s.q k).length≤300:=fun k hk=>by rw [f3_ hk];exact (hs.q1 _ (List.getElem_mem hk)).1
 have hqc:∀ k,k < s.q.length→∀ j,j < (qat s.q k).length→(tat (qat s.q k) j).size≤1000:=fun k hk j hj=>by
  rw [e7_ hj];refine (hs.q1 _ ?_).2 _ (List.getElem_mem hj);rw [f3_ hk];exact List.getElem_mem hk
 have htc:∀ k,k < s.tk.length→(d8_ s.tk k).car.size≤1000:=fun k hk=>by rw [f5_ hk];exact (hs.t1 _ (List.getElem_mem hk)).1
 have hle:=a8u hq;have hnq:=hs.nq;have hnt:=hs.nt;have HQ:=Lib.hid hq;have HC:=Lib.hid hqc;have HT:=Lib.hid htc;have HL:=Lib.hid hle;have HU:=Lib.hid hr;clear hE hq hqc htc hle hs hr;by_cases hsh:s.q.length=r.ranks.length
 ·have hsi:(s.q.length:Int)=(r.ranks.length:Int):=by omega
  have HF:q7_ r s.q.length:=by rw [hsh];exact HU.out.feed
  have gm:=p4_ r s hn hsh.symm HF;have i5:=o5_ s.time 0 604800;have HSH:=Lib.hid hsh;have HFF:=Lib.hid HF;clear HF hsh;refine c0_ Tryd.func12 rfl (by kernel_rfl) (by kernel_rfl) rfl fun M0 w0=>?_;simp only [Tryd.ntmps12,Tryd.results12,b5_];repeat' first|(with_reducible first|apply a9_|apply a3_|apply b0_|apply a8_|apply a1_|refine a2_ [5] ?_)|((with_reducible refine a6_ ?_ ?_);(focus (go_simp;done)))|((with_reducible refine a0_ fun X Y=>?_);go_simp;refine Y _ ?_;clear Y X)
  apply y4_ [2,3] (fun k=>[(6,I k),(5,.osl 0)]) (fun k=>([some (.arr 9 1 (decide (g4_ s k=[])) ((g4_ s k).map l1_))] : Hp)) (fun k=>!decide (n3_ r s k=0)) (s.q.length)
  ·go_simp<;>exact rfl
  ·go_simp
  ·intro m hm HB HP K hK;obtain ⟨w1,w2,w3,w4,w5,w6⟩:=ixs (m:=m) (by omega);have hmr:m < r.ranks.length:=by have:=HSH.out;omega
   have hql:=HQ.out m hm;have hrl:=HL.out m (by omega);have hp:n3_ r s m=0:=by simpa using HP.out
   unfold n3_ at hp;have hpl:¬(rat r.ranks m).places < ((qat s.q m).length:Int):=fun h=>by rw [if_pos h] at hp;simp at hp
   rw [if_neg hpl,a0p] at hp;have HPP:=Lib.hid hp;have HK2:=Lib.hid (show g4_ s (m+1)=g4_ s m++qat s.q m from a2e hm);clear hp;repeat' first|(with_reducible first|apply a9_|apply a3_|apply b0_|apply a8_|apply a1_|refine a2_ [] ?_|apply a5_)|((with_reducible refine a7_ ?_ ?_);(focus (go_simp;done)))|((with_reducible refine a6_ ?_ ?_);(focus (go_simp;done)))|((with_reducible first|refine a0_ fun X Y=>?_|refine a4_ fun X Y=>?_);go_simp;refine Y _ ?_;clear Y X)|((refine b6_ 13 13 [] rfl (by kernel_rfl) (by kernel_rfl) ?_);simp only [List.take,List.drop])
   apply y4_ [2,3,6] (fun k=>[(7,I k),(5,.osl 0)]) (fun k=>([some (.arr 9 1 (decide (g4_ s m++(qat s.q m).take k=[])) ((g4_ s m++(qat s.q m).take k).map l1_))] : Hp)) (fun j=>!decide (u2_ (g4_ s m) (qat s.q m) j=0)) ((qat s.q m).length)
   ·go_simp<;>exact rfl
   ·go_simp
   ·intro j hj HB2 HP2 K2 hK2;obtain ⟨x1,x2,x3,x4,x5,x6⟩:=ixs (m:=j) (by omega);have hp2:u2_ (g4_ s m) (qat s.q m) j=0:=HPP.out j hj;unfold u2_ at hp2;have hc:=a0q.1 hp2;have g1:=x6_ (tat (qat s.q m) j) (by have:=HC.out m hm j hj;omega);have g2:=v9_ (g4_ s m++(qat s.q m).take j) (tat (qat s.q m) j) (by rw [List.length_append,List.length_take];omega);rw [b0z,show inL (tat (qat s.q m) j) (g4_ s m++(qat s.q m).take j)=false by rw [←Bool.not_eq_true,z1_];exact hc.2] at g2;rw [hc.1] at g1;have hat:=(e7_ hj).symm;have hts:(qat s.q m).take (j+1)=(qat s.q m).take j++[tat (qat s.q m) j]:=by rw [l0_ hj,e7_ hj]
    have hbl:(g4_ s m++(qat s.q m).take j).length+1≤1000000000:=by rw [List.length_append,List.length_take];omega
    rw [hts,←List.append_assoc] at hK2;clear hp2 hc hts;generalize g4_ s m++(qat s.q m).take j=L at *;generalize tat (qat s.q m) j=C at *;repeat' first|(with_reducible first|apply a9_|apply a3_|apply b0_|apply a8_|apply b1_|apply a1_|refine a2_ [] ?_)|((with_reducible refine a7_ ?_ ?_);(focus (go_simp;done)))|((with_reducible refine a6_ ?_ ?_);(focus (go_simp;done)))|((with_reducible refine a0_ fun X Y=>?_);go_simp;(first|(with_reducible refine ⟨_,g1,?_⟩)|(refine ⟨_,⟨g2,rfl⟩,?_⟩)|skip);refine Y _ ?_;clear Y X)
    refine hK2 _ ?_;go_simp
   ·intro j hj HB2 HP2 K2;have h1:u2_ (g4_ s m) (qat s.q m) j=0:=HPP.out j hj;have h2:=HP2.out;rw [h1] at h2;cases h2
   ·intro HB2 K2;rw [HK2.out] at hK;rw [List.take_length];repeat' first|(with_reducible first|apply a9_|apply a3_|apply b8_|apply d4_|apply b1_|apply b7_|apply a1_|refine a2_ [] ?_)|((with_reducible refine a6_ ?_ ?_);(focus (go_simp;done)))|((with_reducible refine a0_ fun X Y=>?_);go_simp;refine Y _ ?_;clear Y X)
    refine hK _ ?_;go_simp
  ·intro m hm HB HP K;obtain ⟨w1,w2,w3,w4,w5,w6⟩:=ixs (m:=m) (by omega);have hmr:m < r.ranks.length:=by have:=HSH.out;omega
   have hql:=HQ.out m hm;have hrl:=HL.out m (by omega);have e:=d4q HSH.out hm HB.out HP.out;have hp:¬n3_ r s m=0:=by simpa using HP.out
   rw [HE.out] at e;unfold n3_ at e hp;by_cases hpl:(rat r.ranks m).places < ((qat s.q m).length:Int)
   ·rw [if_pos hpl] at e;subst e;clear hp;repeat' first|(with_reducible first|apply a9_|apply a3_|apply b4_|apply c5_|apply b0_|apply a8_|apply c2_|apply a1_|refine a2_ [] ?_|apply a5_)|((with_reducible refine a7_ ?_ ?_);(focus (go_simp;done)))|((with_reducible first|refine a0_ fun X Y=>?_|refine a4_ fun X Y=>?_);go_simp;refine Y _ ?_;clear Y X)|((refine b6_ 13 13 [] rfl (by kernel_rfl) (by kernel_rfl) ?_);simp only [List.take,List.drop])
    go_simp
   rw [if_neg hpl] at e hp;have HEE:=Lib.hid e;have HPP:=Lib.hid hp;clear e hp;repeat' first|(with_reducible first|apply a9_|apply a3_|apply b0_|apply a8_|apply a1_|refine a2_ [] ?_|apply a5_)|((with_reducible refine a7_ ?_ ?_);(focus (go_simp;done)))|((with_reducible refine a6_ ?_ ?_);(focus (go_simp;done)))|((with_reducible first|refine a0_ fun X Y=>?_|refine a4_ fun X Y=>?_);go_simp;refine Y _ ?_;clear Y X)|((refine b6_ 13 13 [] rfl (by kernel_rfl) (by kernel_rfl) ?_);simp only [List.take,List.drop])
   apply y4_ [2,3,6] (fun k=>[(7,I k),(5,.osl 0)]) (fun k=>([some (.arr 9 1 (decide (g4_ s m++(qat s.q m).take k=[])) ((g4_ s m++(qat s.q m).take k).map l1_))] : Hp)) (fun j=>!decide (u2_ (g4_ s m) (qat s.q m) j=0)) ((qat s.q m).length)
   ·go_simp<;>exact rfl
   ·go_simp
   ·intro j hj HB2 HP2 K2 hK2;obtain ⟨x1,x2,x3,x4,x5,x6⟩:=ixs (m:=j) (by omega);have hp2:u2_ (g4_ s m) (qat s.q m) j=0:=by simpa using HP2.out
    unfold u2_ at hp2;have hc:=a0q.1 hp2;have g1:=x6_ (tat (qat s.q m) j) (by have:=HC.out m hm j hj;omega);have g2:=v9_ (g4_ s m++(qat s.q m).take j) (tat (qat s.q m) j) (by rw [List.length_append,List.length_take];omega);rw [b0z,show inL (tat (qat s.q m) j) (g4_ s m++(qat s.q m).take j)=false by rw [←Bool.not_eq_true,z1_];exact hc.2] at g2;rw [hc.1] at g1;have hat:=(e7_ hj).symm;have hts:(qat s.q m).take (j+1)=(qat s.q m).take j++[tat (qat s.q m) j]:=by rw [l0_ hj,e7_ hj]
    have hbl:(g4_ s m++(qat s.q m).take j).length+1≤1000000000:=by rw [List.length_append,List.length_take];omega
    rw [hts,←List.append_assoc] at hK2;clear hp2 hc hts;generalize g4_ s m++(qat s.q m).take j=L at *;generalize tat (qat s.q m) j=C at *;repeat' first|(with_reducible first|apply a9_|apply a3_|apply b0_|apply a8_|apply b1_|apply a1_|refine a2_ [] ?_)|((with_reducible refine a7_ ?_ ?_);(focus (go_simp;done)))|((with_reducible refine a6_ ?_ ?_);(focus (go_simp;done)))|((with_reducible refine a0_ fun X Y=>?_);go_simp;(first|(with_reducible refine ⟨_,g1,?_⟩)|(refine ⟨_,⟨g2,rfl⟩,?_⟩)|skip);refine Y _ ?_;clear Y X)
    refine hK2 _ ?_;go_simp
   ·intro j hj HB2 HP2 K2;obtain ⟨x1,x2,x3,x4,x5,x6⟩:=ixs (m:=j) (by omega);have e:E=b6j (u2_ (g4_ s m) (qat s.q m)) (qat s.q m).length:=HEE.out;rw [a2s hj HB2.out HP2.out] at e;unfold u2_ at e;have g1:=x6_ (tat (qat s.q m) j) (by have:=HC.out m hm j hj;omega);have g2:=v9_ (g4_ s m++(qat s.q m).take j) (tat (qat s.q m) j) (by rw [List.length_append,List.length_take];omega);rw [b0z] at g2;have hat:=(e7_ hj).symm;have hnz:¬a6v (tat (qat s.q m) j) (g4_ s m++(qat s.q m).take j)=0:=fun h=>by
     have h2:=HP2.out;rw [show u2_ (g4_ s m) (qat s.q m) j=0 from h] at h2;cases h2
    generalize g4_ s m++(qat s.q m).take j=L at *;generalize tat (qat s.q m) j=C at *;cases hD:c8_ C
    ·rw [c1d hD] at e;rw [hD] at g1;subst e;clear hnz;repeat' first|(with_reducible first|apply a9_|apply a3_|apply b4_|apply c5_|apply b0_|apply a8_|apply c2_|apply a1_|refine a2_ [] ?_)|((with_reducible refine a7_ ?_ ?_);(focus (go_simp;done)))|((with_reducible refine a0_ fun X Y=>?_);go_simp;(first|(with_reducible refine ⟨_,g1,?_⟩)|skip);refine Y _ ?_;clear Y X)
     go_simp
    ·rw [hD] at g1;cases hI:inL C L
     ·rw [c1f hD hI] at hnz;exact absurd rfl hnz
     ·rw [c1e hD hI] at e;rw [hI] at g2;subst e;clear hnz;repeat' first|(with_reducible first|apply a9_|apply a3_|apply b4_|apply c5_|apply b0_|apply a8_|apply c2_|apply a1_|refine a2_ [] ?_)|((with_reducible refine a7_ ?_ ?_);(focus (go_simp;done)))|((with_reducible refine a6_ ?_ ?_);(focus (go_simp;done)))|((with_reducible refine a0_ fun X Y=>?_);go_simp;(first|(with_reducible refine ⟨_,g1,?_⟩)|(refine ⟨_,⟨g2,rfl⟩,?_⟩)|skip);refine Y _ ?_;clear Y X)
      go_simp
   ·intro HB2 K2;exfalso;exact HPP.out (a1n HB2.out)
  ·intro HB K;have HBQ:=HB;clear HB;by_cases h4:(s.tk.length:Int)≤40
   ·have h40:¬(40:Int) < (s.tk.length:Int):=by omega
    have hnil:decide (g4_ s s.q.length=[])=decide (o6_ s 0=[]):=by rw [c8v]
    repeat' first|(with_reducible first|apply a9_|apply a3_|apply b8_|apply b0_|apply d4_|apply a8_|apply b7_|apply a1_|refine a2_ [] ?_)|((with_reducible refine a6_ ?_ ?_);(focus (go_simp;done)))|((with_reducible refine a0_ fun X Y=>?_);go_simp;refine Y _ ?_;clear Y X)
    apply y4_ [2,3] (fun k=>[(8,I k),(5,.osl 0)]) (fun k=>([some (.arr 9 1 (decide (o6_ s k=[])) ((o6_ s k).map l1_))] : Hp)) (fun k=>!decide (v5_ r s k=0)) (s.tk.length)
    ·go_simp<;>exact rfl
    ·go_simp
    ·intro k hk HB HP K hK;obtain ⟨w1,w2,w3,w4,w5,w6⟩:=ixs (m:=k) (by omega);have hp:v5_ r s k=0:=by simpa using HP.out
     obtain ⟨⟨c1,c2⟩,c3,c4,c5⟩:=b7a hp;have hsl:=b5d HQ.out k (by omega);have hbl:(o6_ s k).length+1≤1000000000:=by omega
     have g1:=x6_ (d8_ s.tk k).car (by have:=HT.out k hk;omega);have g2:=v9_ (o6_ s k) (d8_ s.tk k).car (by omega);have g3:=a2m r (d8_ s.tk k).rank hn;have g4:=o5_ (d8_ s.tk k).time 0 s.time;rw [b0z,show inL (d8_ s.tk k).car (o6_ s k)=false by rw [←Bool.not_eq_true,z1_];exact c2] at g2;rw [c1] at g1;rw [c3] at g3;rw [c4] at g4;rw [a7e hk] at hK;clear hp c1 c2 c3 c4 hsl;generalize o6_ s k=L at *;rcases k with _|p
     ·clear c5;repeat' first|(with_reducible first|apply a9_|apply a3_|apply b0_|apply a8_|apply b1_|apply a1_|refine a2_ [] ?_|apply a5_)|((with_reducible refine a7_ ?_ ?_);(focus (go_simp;done)))|((with_reducible refine a6_ ?_ ?_);(focus (go_simp;done)))|((with_reducible first|refine a0_ fun X Y=>?_|refine a4_ fun X Y=>?_);go_simp;(first|(with_reducible refine ⟨_,g1,?_⟩)|(refine ⟨_,⟨g2,rfl⟩,?_⟩)|(refine ⟨_,g3,?_⟩)|(with_reducible refine ⟨_,g4,?_⟩)|skip);refine Y _ ?_;clear Y X)|((refine b6_ 14 14 [] rfl (by kernel_rfl) (by kernel_rfl) ?_);simp only [List.take,List.drop])
      refine hK _ ?_;go_simp
     ·have ho:¬(d8_ s.tk (p+1)).time < (d8_ s.tk p).time:=by
       have:p+1 - 1=p:=by omega
       rw [this] at c5;omega
      obtain ⟨x1,x2,x3,x4,x5,x6⟩:=ixs (m:=p) (by omega);have hpl:p < s.tk.length:=by omega
      have hpl2:(p:Int)+1 < (s.tk.length:Int):=by omega
      have hpl3:¬(p:Int)+1≤0:=by omega
      have hpl4:(0:Int) < (p:Int)+1:=by omega
      clear c5;repeat' first|(with_reducible first|apply a9_|apply a3_|apply b0_|apply a8_|apply b1_|apply a1_|refine a2_ [] ?_|apply a5_)|((with_reducible refine a7_ ?_ ?_);(focus (go_simp;done)))|((with_reducible refine a6_ ?_ ?_);(focus (go_simp;done)))|((with_reducible first|refine a0_ fun X Y=>?_|refine a4_ fun X Y=>?_);go_simp;(first|(with_reducible refine ⟨_,g1,?_⟩)|(refine ⟨_,⟨g2,rfl⟩,?_⟩)|(refine ⟨_,g3,?_⟩)|(with_reducible refine ⟨_,g4,?_⟩)|skip);refine Y _ ?_;clear Y X)|((refine b6_ 14 14 [] rfl (by kernel_rfl) (by kernel_rfl) ?_);simp only [List.take,List.drop])
      refine hK _ ?_;go_simp
    ·intro k hk HB HP K;obtain ⟨w1,w2,w3,w4,w5,w6⟩:=ixs (m:=k) (by omega);have e:=d4s HSH.out HBQ.out h4 hk HB.out HP.out;have hp:¬v5_ r s k=0:=by simpa using HP.out
     rw [HE.out] at e;have hsl:=b5d HQ.out k (by omega);have g1:=x6_ (d8_ s.tk k).car (by have:=HT.out k hk;omega);have g2:=v9_ (o6_ s k) (d8_ s.tk k).car (by omega);have g3:=a2m r (d8_ s.tk k).rank hn;have g4:=o5_ (d8_ s.tk k).time 0 s.time;rw [b0z] at g2;unfold v5_ at e hp;rw [show s.q.flatten++(s.tk.take k).map (·.car)=o6_ s k from rfl] at e hp;clear hsl;generalize o6_ s k=L at *;cases hD:c8_ (d8_ s.tk k).car
     ·rw [c1d hD] at e;rw [hD] at g1;have e2:E=4:=by rw [e];rfl
      subst e2;clear hp e;repeat' first|(with_reducible first|apply a9_|apply a3_|apply b4_|apply c5_|apply b0_|apply a8_|apply c2_|apply a1_|refine a2_ [] ?_)|((with_reducible refine a7_ ?_ ?_);(focus (go_simp;done)))|((with_reducible refine a0_ fun X Y=>?_);go_simp;(first|(with_reducible refine ⟨_,g1,?_⟩)|skip);refine Y _ ?_;clear Y X)
      go_simp
     rw [hD] at g1;by_cases hI':inL (d8_ s.tk k).car L=true
     ·have hI:=hI';rw [c1e hD hI] at e;rw [hI] at g2;have e2:E=5:=by rw [e];rfl
      subst e2;clear hp e;repeat' first|(with_reducible first|apply a9_|apply a3_|apply b4_|apply c5_|apply b0_|apply a8_|apply c2_|apply a1_|refine a2_ [] ?_)|((with_reducible refine a7_ ?_ ?_);(focus (go_simp;done)))|((with_reducible refine a6_ ?_ ?_);(focus (go_simp;done)))|((with_reducible refine a0_ fun X Y=>?_);go_simp;(first|(with_reducible refine ⟨_,g1,?_⟩)|(refine ⟨_,⟨g2,rfl⟩,?_⟩)|skip);refine Y _ ?_;clear Y X)
      go_simp
     have hI:inL (d8_ s.tk k).car L=false:=by simpa using hI'
     clear hI';rw [c1f hD hI] at e hp;rw [hI] at g2;cases hR:inR (d8_ s.tk k).rank 0 ((r.ranks.length:Int) - 1)
     ·rw [hR] at e g3;have e2:E=6:=by rw [e];rfl
      subst e2;clear hp e;repeat' first|(with_reducible first|apply a9_|apply a3_|apply b4_|apply c5_|apply b0_|apply a8_|apply c2_|apply a1_|refine a2_ [] ?_)|((with_reducible refine a7_ ?_ ?_);(focus (go_simp;done)))|((with_reducible refine a6_ ?_ ?_);(focus (go_simp;done)))|((with_reducible refine a0_ fun X Y=>?_);go_simp;(first|(with_reducible refine ⟨_,g1,?_⟩)|(refine ⟨_,⟨g2,rfl⟩,?_⟩)|(refine ⟨_,g3,?_⟩)|skip);refine Y _ ?_;clear Y X)
      go_simp
     rw [hR] at e g3 hp;cases hM:inR (d8_ s.tk k).time 0 s.time
     ·rw [hM] at e g4;have e2:E=2:=by rw [e];rfl
      subst e2;clear hp e;repeat' first|(with_reducible first|apply a9_|apply a3_|apply b4_|apply c5_|apply b0_|apply a8_|apply c2_|apply a1_|refine a2_ [] ?_)|((with_reducible refine a7_ ?_ ?_);(focus (go_simp;done)))|((with_reducible refine a6_ ?_ ?_);(focus (go_simp;done)))|((with_reducible refine a0_ fun X Y=>?_);go_simp;(first|(with_reducible refine ⟨_,g1,?_⟩)|(refine ⟨_,⟨g2,rfl⟩,?_⟩)|(refine ⟨_,g3,?_⟩)|(with_reducible refine ⟨_,g4,?_⟩)|skip);refine Y _ ?_;clear Y X)
      go_simp
     rw [hM] at e g4 hp;rcases k with _|p
     ·exact absurd rfl hp
     ·have hsub:p+1 - 1=p:=by omega
      rw [hsub] at e hp;have ho:(d8_ s.tk (p+1)).time < (d8_ s.tk p).time:=by
       apply Classical.byContradiction;intro hh;rw [decide_eq_true (by omega:(d8_ s.tk p).time≤(d8_ s.tk (p+1)).time),Bool.or_true] at hp;exact hp rfl
      obtain ⟨x1,x2,x3,x4,x5,x6⟩:=ixs (m:=p) (by omega);have hpl:p < s.tk.length:=by omega
      have hpl2:(p:Int)+1 < (s.tk.length:Int):=by omega
      have hpl3:¬(p:Int)+1≤0:=by omega
      have hpl4:(0:Int) < (p:Int)+1:=by omega
      have e2:E=9:=by rw [e,decide_eq_false (by omega:¬(d8_ s.tk p).time≤(d8_ s.tk (p+1)).time),decide_eq_false (by omega:¬p+1=0)];rfl
      subst e2;clear hp e;repeat' first|(with_reducible first|apply a9_|apply a3_|apply b4_|apply c5_|apply b0_|apply a8_|apply c2_|apply a1_|refine a2_ [] ?_|apply a5_)|((with_reducible refine a7_ ?_ ?_);(focus (go_simp;done)))|((with_reducible refine a6_ ?_ ?_);(focus (go_simp;done)))|((with_reducible first|refine a0_ fun X Y=>?_|refine a4_ fun X Y=>?_);go_simp;(first|(with_reducible refine ⟨_,g1,?_⟩)|(refine ⟨_,⟨g2,rfl⟩,?_⟩)|(refine ⟨_,g3,?_⟩)|(with_reducible refine ⟨_,g4,?_⟩)|skip);refine Y _ ?_;clear Y X)|((refine b6_ 14 14 [] rfl (by kernel_rfl) (by kernel_rfl) ?_);simp only [List.take,List.drop])
      go_simp
    ·intro HB K;have e:=d4t HSH.out HBQ.out h4 HB.out;rw [HE.out] at e;cases hM:inR s.time 0 604800
     ·rw [hM] at e i5;have e2:E=2:=by rw [e];rfl
      subst e2;clear e;repeat' first|(with_reducible first|apply a9_|apply a3_|apply b8_|apply b4_|apply c5_|apply d4_|apply b7_|apply a1_|refine a2_ [] ?_)|((with_reducible refine a7_ ?_ ?_);(focus (go_simp;done)))|((with_reducible refine a6_ ?_ ?_);(focus (go_simp;done)))|((with_reducible refine a0_ fun X Y=>?_);go_simp;(first|(with_reducible refine ⟨_,i5,?_⟩)|skip);refine Y _ ?_;clear Y X)
      go_simp
     ·rw [hM] at e i5;by_cases hx:f9_ r s < 0
      ·rw [decide_eq_true hx] at e;have e2:E=0:=by rw [e];rfl
       subst e2;have hx2:¬0≤f9_ r s:=by omega
       clear e;generalize f9_ r s=NX at *;repeat' first|(with_reducible first|apply a9_|apply a3_|apply b8_|apply c5_|apply b0_|apply d4_|apply b7_|apply a1_|refine a2_ [] ?_)|((with_reducible refine a6_ ?_ ?_);(focus (go_simp;done)))|((with_reducible refine a0_ fun X Y=>?_);go_simp;(first|(with_reducible refine ⟨_,i5,?_⟩)|(refine ⟨_,gm,?_⟩)|skip);refine Y _ ?_;clear Y X)
       go_simp
      ·rw [decide_eq_false hx] at e;have e2:E=22:=by rw [e];rfl
       subst e2;have hx2:0≤f9_ r s:=by omega
       clear e;generalize f9_ r s=NX at *;repeat' first|(with_reducible first|apply a9_|apply a3_|apply b8_|apply b4_|apply c5_|apply b0_|apply d4_|apply b7_|apply a1_|refine a2_ [] ?_)|((with_reducible refine a7_ ?_ ?_);(focus (go_simp;done)))|((with_reducible refine a6_ ?_ ?_);(focus (go_simp;done)))|((with_reducible refine a0_ fun X Y=>?_);go_simp;(first|(with_reducible refine ⟨_,i5,?_⟩)|(refine ⟨_,gm,?_⟩)|skip);refine Y _ ?_;clear Y X)
       go_simp
   ·have h40:(40:Int) < (s.tk.length:Int):=by omega
    have e:=d4r HSH.out HBQ.out h4;rw [HE.out] at e;subst e;repeat' first|(with_reducible first|apply a9_|apply a3_|apply b8_|apply b4_|apply c5_|apply d4_|apply b7_|apply a1_|refine a2_ [] ?_)|((with_reducible refine a7_ ?_ ?_);(focus (go_simp;done)))|((with_reducible refine a6_ ?_ ?_);(focus (go_simp;done)))|((with_reducible refine a0_ fun X Y=>?_);go_simp;refine Y _ ?_;clear Y X)
    go_simp
 ·have hsi:¬(s.q.length:Int)=(r.ranks.length:Int):=by omega
  have e:n4_ r s=10:=by
   unfold n4_;rw [decide_eq_false hsh];rfl
  rw [HE.out] at e;subst e;refine c0_ Tryd.func12 rfl (by kernel_rfl) (by kernel_rfl) rfl fun M0 w0=>?_;simp only [Tryd.ntmps12,Tryd.results12,b5_];repeat' first|(with_reducible first|apply a9_|apply a3_|apply b4_|apply c5_|apply a1_|refine a2_ [] ?_)|((with_reducible refine a7_ ?_ ?_);(focus (go_simp;done)))|((with_reducible refine a0_ fun X Y=>?_);go_simp;refine Y _ ?_;clear Y X)
  go_simp
def a4b (L:List ByteArray) : KV:=L.foldl (fun m c=>a6c (.string c) (.bool true) m) []
@[go_sem] theorem d4u:a4b []=[]:=rfl
theorem b1b (L:List ByteArray) (c:ByteArray) : a4b (L++[c])=a6c (.string c) (.bool true) (a4b L):=by simp [a4b]
theorem c4r {P:List ByteArray→Prop} (h0:P []) (h1:∀ l c,P l→P (l++[c])) (l:List ByteArray) : P l:=by
 have h:∀ r:List ByteArray,P r.reverse:=fun r=>by
  induction r with
  | nil=>exact h0
  | cons c r ih=>
   rw [List.reverse_cons];exact h1 _ _ ih
 have:=h l.reverse;rwa [List.reverse_reverse] at this
theorem c4s (c d:ByteArray) (l:List ByteArray) : inL c (l++[d])=(inL c l || decide (c=d)):=by
 rw [Bool.eq_iff_iff,z1_];simp [z1_]
theorem c1g (c:ByteArray) (L:List ByteArray) : s9_ (.string c) (a4b L)=if inL c L=true then some (.bool true) else none:=by
 refine c4r (P:=fun L=>s9_ (.string c) (a4b L)=if inL c L=true then some (.bool true) else none) ?_ (fun l d ih=>?_) L
 ·rw [if_neg (by rw [z1_];simp)];rfl
 rw [b1b,a4i,ih,c4s];by_cases h:c=d
 ·rw [if_pos h,if_pos (by simp [h])]
 ·rw [if_neg h,decide_eq_false h,Bool.or_false]
theorem c4t (c:ByteArray) (L:List ByteArray) : (s9_ (.string c) (a4b L)).getD (.bool false) = .bool (inL c L):=by
 rw [c1g];cases h:inL c L<;>rfl
theorem b1c (c:ByteArray) (L:List ByteArray) (hc:c.size≤1000) : VH Tryd.prog 51 [some (.box [.mp 1]),some (.mpo (4,.i64) (a4b L))] [S c,.ref 0 0] [1] [some (.box [.mp 1]),some (.mpo (4,.i64) (a4b (L++[c])))] (I (a6v c L)):=by
 have g1:=a0u c hc;have g2:=b3_ (c8_ c) 4;have g3:=b3_ (!inL c L) 5;have g4:VC Tryd.prog 30 [.sl 1 ([unl (c8_ c) 4,unl (!inL c L) 5].map y3_)] (I (a6v c L)):=d9_ _ rfl rfl;have hf:=c4t c L;rw [b1b];generalize a6v c L=E at *;generalize c8_ c=D1 at *;generalize inL c L=D2 at *;generalize unl D1 4=A1 at *;generalize unl (!D2) 5=A2 at *;generalize a4b L=M at *;refine i8_ Tryd.func51 rfl (by kernel_rfl) rfl (fun _=>by kernel_rfl) fun M0 w0 vs=>?_;simp only [Tryd.ntmps51,Tryd.results51,b5_];repeat' first|(with_reducible first|apply a9_|apply a3_|apply c5_|apply a1_|refine a2_ [] ?_|apply a5_)|((with_reducible first|refine a0_ fun X Y=>?_|refine a4_ fun X Y=>?_);go_simp;(first|(with_reducible refine ⟨_,g1,?_⟩)|(with_reducible refine ⟨_,g2,?_⟩)|(with_reducible refine ⟨_,g3,?_⟩)|(refine ⟨_,g4,?_⟩)|skip);refine Y _ ?_;clear Y X)|((refine b6_ 11 11 [] rfl (by kernel_rfl) (by kernel_rfl) ?_);simp only [List.take,List.drop])
 go_simp
theorem VC.args {P:Program} {f:FuncId} {args args':List AV} {r:AV} (h:VC P f args r) (hl:args'.length=args.length) (ha:∀ (i:Nat) (a a':AV),args[i]? = some a→args'[i]? = some a'→∀ (w:World) (M:Nat→Nat→Prop) (v:Value),V0 w M a' v→V0 w M a v) : VC P f args' r:=
 ⟨h.1,fun w M vs hM hvl hv=>h.2 w M vs hM (hvl.trans hl) fun i a v hi hvi=>by
  have hlt:i < args'.length:=by
   rw [hl];exact (List.getElem?_eq_some_iff.1 hi).1
  exact ha i a _ hi (List.getElem?_eq_getElem hlt) w M v (hv i _ v (List.getElem?_eq_getElem hlt) hvi)⟩
theorem V0.vpNil {w:World} {M:Nat→Nat→Prop} {v:Value} {a b c d e g:AV} (h:V0 w M (.vp [a,b,c,d,e,g,f0_]) v) : V0 w M (.vp [a,b,c,d,e,g,.sl 3 []]) v:=by
 cases h with
 | vp _ bk o u hb hM h1 hc hv=>
  refine .vp _ bk o u hb (fun j hj=>hM j (by simpa using hj)) (fun x hx=>?_) (fun j hj=>hc j (by simpa using hj)) fun j x hj=>?_
  ·simp only [List.mem_cons,List.not_mem_nil,or_false] at hx;rcases hx with rfl|rfl|rfl|rfl|rfl|rfl|rfl
   ·exact h1 _ (by simp)
   ·exact h1 _ (by simp)
   ·exact h1 _ (by simp)
   ·exact h1 _ (by simp)
   ·exact h1 _ (by simp)
   ·exact h1 _ (by simp)
   ·rfl
  ·rcases j with _|_|_|_|_|_|_|j
   ·exact hv 0 x hj
   ·exact hv 1 x hj
   ·exact hv 2 x hj
   ·exact hv 3 x hj
   ·exact hv 4 x hj
   ·exact hv 5 x hj
   ·simp only [List.getElem?_cons_zero,List.getElem?_cons_succ,Option.some.injEq] at hj;subst hj;exact (hv 6 _ rfl).nilSl 3
   ·simp at hj
theorem c8w (r:Ru) (s:St) (hl:r.ranks.length≤1000000) (hr:r.ranks.length=s.q.length) (hf:q7_ r s.q.length) : VC Tryd.prog 52 [.vp [g8_ s.q,.sl 3 (s.tk.map Tk.av),I s.time,.sl 4 (r.ranks.map Rk.av),I r.back,I r.ret,f0_]] (I (f9_ r s)):=
 (c1x r s [] hl hr hf).args rfl fun i a a' h1 h2 w M v hv=>by
  rcases i with _|i
  ·simp only [List.getElem?_cons_zero,Option.some.injEq] at h1 h2;subst h1;subst h2;exact hv.vpNil
  ·simp at h1
theorem a2t (r:Ru) (s:St) (hn:r.ranks.length≤1000000) (hnm:∀ k,k < r.ranks.length→(rat r.ranks k).name.size≤1000) (hs:SmallS s) (h:(d6_ r).2≠0∨s.q.length≠r.ranks.length) : VC Tryd.prog 31 [c4_ r,c9_ s] (I (fst [(d6_ r).2,10])):=by
 have g1:=r8_ r hn hnm;have hnq:=hs.nq;have ed:decide ((s.q.length:Int)=(r.ranks.length:Int))=decide (s.q.length=r.ranks.length):=by
  by_cases hh:s.q.length=r.ranks.length
  ·rw [decide_eq_true hh,decide_eq_true (by omega)]
  ·rw [decide_eq_false hh,decide_eq_false (by omega)]
 have g2:=b3_ (decide (s.q.length=r.ranks.length)) 10;have g3:VC Tryd.prog 30 [.sl 1 ([(d6_ r).2,unl (decide (s.q.length=r.ranks.length)) 10].map y3_)] (I (fst [(d6_ r).2,unl (decide (s.q.length=r.ranks.length)) 10])):=d9_ _ rfl rfl;have e:fst [(d6_ r).2,unl (decide (s.q.length=r.ranks.length)) 10]=fst [(d6_ r).2,10]:=by
  rcases h with h|h
  ·simp [fst,h]
  ·rw [decide_eq_false h];rfl
 have hne:fst [(d6_ r).2,10]≠0:=by
  simp only [fst];split
  ·assumption
  ·decide
 rw [e] at g3;rw [←ed] at g2 g3;generalize fst [(d6_ r).2,10]=F at *;generalize (d6_ r).2=A1 at *;clear e h;generalize unl (decide ((s.q.length:Int)=(r.ranks.length:Int))) 10=A2 at *;by_cases hq:(s.q.length:Int)=(r.ranks.length:Int)
 ·rw [decide_eq_true hq] at g2 ed;clear ed;refine c0_ Tryd.func31 rfl (by kernel_rfl) (by kernel_rfl) rfl fun M0 w0=>?_;simp only [Tryd.ntmps31,Tryd.results31,b5_];repeat' first|(with_reducible first|apply a9_|apply a3_|apply b4_|apply c5_|apply a1_|refine a2_ [] ?_|apply a5_)|((with_reducible refine a7_ ?_ ?_);(focus (go_simp;done)))|((with_reducible first|refine a0_ fun X Y=>?_|refine a4_ fun X Y=>?_);go_simp;(first|(with_reducible refine ⟨_,g1,?_⟩)|(with_reducible refine ⟨_,g2,?_⟩)|(refine ⟨_,g3,?_⟩)|skip);refine Y _ ?_;clear Y X)|((refine b6_ 13 13 [] rfl (by kernel_rfl) (by kernel_rfl) ?_);simp only [List.take,List.drop])
  go_simp
 ·rw [decide_eq_false hq] at g2 ed;clear ed;refine c0_ Tryd.func31 rfl (by kernel_rfl) (by kernel_rfl) rfl fun M0 w0=>?_;simp only [Tryd.ntmps31,Tryd.results31,b5_];repeat' first|(with_reducible first|apply a9_|apply a3_|apply b4_|apply c5_|apply a1_|refine a2_ [] ?_|apply a5_)|((with_reducible refine a7_ ?_ ?_);(focus (go_simp;done)))|((with_reducible first|refine a0_ fun X Y=>?_|refine a4_ fun X Y=>?_);go_simp;(first|(with_reducible refine ⟨_,g1,?_⟩)|(with_reducible refine ⟨_,g2,?_⟩)|(refine ⟨_,g3,?_⟩)|skip);refine Y _ ?_;clear Y X)|((refine b6_ 13 13 [] rfl (by kernel_rfl) (by kernel_rfl) ?_);simp only [List.take,List.drop])
  go_simp
theorem a8v (r:Ru) (s:St) (hn:r.ranks.length≤1000000) (hnm:∀ k,k < r.ranks.length→(rat r.ranks k).name.size≤1000) (hs:SmallS s) (h0:(d6_ r).2=0) (hsh:s.q.length=r.ranks.length) : VC Tryd.prog 31 [c4_ r,c9_ s] (I (n4_ r s)):=by
 obtain ⟨E,hE⟩ : ∃ E,n4_ r s=E:=⟨_,rfl⟩
 rw [hE];have HE:=Lib.hid hE;have g1:=r8_ r hn hnm;have g2:=b3_ true 10;have g3:VC Tryd.prog 30 [.sl 1 ([(d6_ r).2,unl true 10].map y3_)] (I (fst [(d6_ r).2,unl true 10])):=d9_ _ rfl rfl;rw [h0] at g1 g3;have e0:unl true 10=0:=rfl;have e1:fst [0,unl true 10]=0:=rfl;rw [e1] at g3;rw [e0] at g2 g3;have hr:=(a2g h0).1;have hq:∀ k,k < s.q.length→(qat s.q k).length≤300:=fun k hk=>by rw [f3_ hk];exact (hs.q1 _ (List.getElem_mem hk)).1
 have hqc:∀ k,k < s.q.length→∀ j,j < (qat s.q k).length→(tat (qat s.q k) j).size≤1000:=fun k hk j hj=>by
  rw [e7_ hj];refine (hs.q1 _ ?_).2 _ (List.getElem_mem hj);rw [f3_ hk];exact List.getElem_mem hk
 have htc:∀ k,k < s.tk.length→(d8_ s.tk k).car.size≤1000:=fun k hk=>by rw [f5_ hk];exact (hs.t1 _ (List.getElem_mem hk)).1
 have hnq:=hs.nq;have hnt:=hs.nt;have HF:q7_ r s.q.length:=by rw [hsh];exact hr.feed
 have gm:=c8w r s hn hsh.symm HF;have i5:=i3_ s.time 0 604800;have u5:=b3_ (inR s.time 0 604800) 2;have u6:=b3_ (decide (f9_ r s < 0)) 22;have g6:VC Tryd.prog 30 [.sl 1 ([unl (inR s.time 0 604800) 2,unl (decide (f9_ r s < 0)) 22].map y3_)] (I (fst [unl (inR s.time 0 604800) 2,unl (decide (f9_ r s < 0)) 22])):=d9_ _ rfl rfl;have hsi:(s.q.length:Int)=(r.ranks.length:Int):=by omega
 have HQ:=Lib.hid hq;have HC:=Lib.hid hqc;have HT:=Lib.hid htc;have HSH:=Lib.hid hsh;have HKV:Hid (a4b (g4_ s 0)=[]):=Lib.hid (by rw [c8u];rfl);clear hE hq hqc htc hr hs hsh h0 e0 e1 HF hnm;refine c0_ Tryd.func31 rfl (by kernel_rfl) (by kernel_rfl) rfl fun M0 w0=>?_;simp only [Tryd.ntmps31,Tryd.results31,b5_];repeat' first|(with_reducible first|apply a9_|apply a3_|apply b0_|apply a8_|apply a1_|refine a2_ [] ?_|apply a5_)|((with_reducible refine a6_ ?_ ?_);(focus (go_simp;done)))|((with_reducible first|refine a0_ fun X Y=>?_|refine a4_ fun X Y=>?_);go_simp;(first|(with_reducible refine ⟨_,g1,?_⟩)|(with_reducible refine ⟨_,g2,?_⟩)|(refine ⟨_,g3,?_⟩)|skip);refine Y _ ?_;clear Y X)|((refine b6_ 13 13 [] rfl (by kernel_rfl) (by kernel_rfl) ?_);simp only [List.take,List.drop])
 apply y4_ [2,3,7,35,36] (fun k=>[(37,I k)]) (fun k=>([some (.mpo (4,.i64) (a4b (g4_ s k))),some (.box [.mp 0])] : Hp)) (fun k=>!decide (n3_ r s k=0)) (s.q.length)
 ·go_simp<;>exact rfl
 ·go_simp
 ·intro m hm HB HP K hK;obtain ⟨w1,w2,w3,w4,w5,w6⟩:=ixs (m:=m) (by omega);have hmr:m < r.ranks.length:=by have:=HSH.out;omega
  have hql:=HQ.out m hm;have hp:n3_ r s m=0:=by simpa using HP.out
  unfold n3_ at hp;have hpl:¬(rat r.ranks m).places < ((qat s.q m).length:Int):=fun h=>by rw [if_pos h] at hp;simp at hp
  rw [if_neg hpl,a0p] at hp;have HPP:=Lib.hid hp;have HK2:=Lib.hid (show g4_ s (m+1)=g4_ s m++qat s.q m from a2e hm);clear hp;repeat' first|(with_reducible first|apply a9_|apply a3_|apply b0_|apply a8_|apply a1_|refine a2_ [] ?_)|((with_reducible refine a7_ ?_ ?_);(focus (go_simp;done)))|((with_reducible refine a6_ ?_ ?_);(focus (go_simp;done)))|((with_reducible refine a0_ fun X Y=>?_);go_simp;refine Y _ ?_;clear Y X)
  apply y4_ [2,3,7,35,36,37,51,52] (fun k=>[(53,I k)]) (fun k=>([some (.mpo (4,.i64) (a4b (g4_ s m++(qat s.q m).take k))),some (.box [.mp 0])] : Hp)) (fun j=>!decide (u2_ (g4_ s m) (qat s.q m) j=0)) ((qat s.q m).length)
  ·go_simp<;>exact rfl
  ·go_simp
  ·intro j hj HB2 HP2 K2 hK2;obtain ⟨x1,x2,x3,x4,x5,x6⟩:=ixs (m:=j) (by omega);have hp2:u2_ (g4_ s m) (qat s.q m) j=0:=HPP.out j hj;unfold u2_ at hp2;have hcs:=HC.out m hm j hj;have wn:=b1c (tat (qat s.q m) j) (g4_ s m++(qat s.q m).take j) hcs;rw [hp2] at wn;have hat:=(e7_ hj).symm;have hts:(qat s.q m).take (j+1)=(qat s.q m).take j++[tat (qat s.q m) j]:=by rw [l0_ hj,e7_ hj]
   rw [hts,←List.append_assoc] at hK2;clear hp2 hts;generalize g4_ s m++(qat s.q m).take j=L at *;generalize tat (qat s.q m) j=C at *;generalize a4b (L++[C])=M2 at *;generalize a4b L=M1 at *;repeat' with_reducible apply a9_
   refine a2_ [] ?_;repeat' first|(with_reducible first|apply a9_|apply a3_|apply b0_|apply a8_|apply a1_)|((with_reducible refine a7_ ?_ ?_);(focus (go_simp;done)))|((with_reducible refine a0_ fun X Y=>?_);go_simp;refine Y _ ?_;clear Y X)
   refine a2_ [] ?_;repeat' first|(with_reducible first|apply a9_|apply a3_|apply a1_)|((with_reducible refine a0_ fun X Y=>?_);go_simp;refine Y _ ?_;clear Y X)
   refine c6_ (b9_ [] 2 ⟨rfl,rfl⟩ ?_);simp only [List.take,List.drop];repeat' first|with_reducible apply a1_|((with_reducible refine a0_ fun X Y=>?_);go_simp;refine Y _ ?_;clear Y X)
   refine e5_ [1,0] [1] [] [some (.box [.mp 1]),some (.mpo (4,.i64) (M2))] (I 0) rfl (by go_simp) ?_ ?_
   ·unfold j7_;go_simp;refine ⟨_,_,_,wn,?_⟩;go_simp;kernel_rfl
   go_simp;refine b9_ [] 1 ⟨rfl,rfl⟩ ?_;simp only [List.take,List.drop];repeat' first|with_reducible apply a1_|((with_reducible refine a0_ fun X Y=>?_);go_simp;refine Y _ ?_;clear Y X)
   apply e3_;repeat' first|(with_reducible first|apply a9_|apply a3_|apply b0_|apply b1_|apply a1_|refine a2_ [] ?_)|((with_reducible refine a6_ ?_ ?_);(focus (go_simp;done)))|((with_reducible refine a0_ fun X Y=>?_);go_simp;refine Y _ ?_;clear Y X)
   refine hK2 _ ?_;go_simp
  ·intro j hj HB2 HP2 K2;have h1:u2_ (g4_ s m) (qat s.q m) j=0:=HPP.out j hj;have h2:=HP2.out;rw [h1] at h2;cases h2
  ·intro HB2 K2;rw [HK2.out] at hK;rw [List.take_length];repeat' first|(with_reducible first|apply a9_|apply a3_|apply b8_|apply d4_|apply b1_|apply b7_|apply a1_|refine a2_ [] ?_)|((with_reducible refine a6_ ?_ ?_);(focus (go_simp;done)))|((with_reducible refine a0_ fun X Y=>?_);go_simp;refine Y _ ?_;clear Y X)
   refine hK _ ?_;go_simp
 ·intro m hm HB HP K;obtain ⟨w1,w2,w3,w4,w5,w6⟩:=ixs (m:=m) (by omega);have hmr:m < r.ranks.length:=by have:=HSH.out;omega
  have hql:=HQ.out m hm;have e:=d4q HSH.out hm HB.out HP.out;have hp:¬n3_ r s m=0:=by simpa using HP.out
  rw [HE.out] at e;unfold n3_ at e hp;by_cases hpl:(rat r.ranks m).places < ((qat s.q m).length:Int)
  ·rw [if_pos hpl] at e;subst e;clear hp;repeat' first|(with_reducible first|apply a9_|apply a3_|apply b4_|apply c5_|apply b0_|apply a8_|apply c2_|apply a1_|refine a2_ [] ?_)|((with_reducible refine a7_ ?_ ?_);(focus (go_simp;done)))|((with_reducible refine a0_ fun X Y=>?_);go_simp;refine Y _ ?_;clear Y X)
   go_simp
  rw [if_neg hpl] at e hp;have HEE:=Lib.hid e;have HPP:=Lib.hid hp;clear e hp;repeat' first|(with_reducible first|apply a9_|apply a3_|apply b0_|apply a8_|apply a1_|refine a2_ [] ?_)|((with_reducible refine a7_ ?_ ?_);(focus (go_simp;done)))|((with_reducible refine a6_ ?_ ?_);(focus (go_simp;done)))|((with_reducible refine a0_ fun X Y=>?_);go_simp;refine Y _ ?_;clear Y X)
  apply y4_ [2,3,7,35,36,37,51,52] (fun k=>[(53,I k)]) (fun k=>([some (.mpo (4,.i64) (a4b (g4_ s m++(qat s.q m).take k))),some (.box [.mp 0])] : Hp)) (fun j=>!decide (u2_ (g4_ s m) (qat s.q m) j=0)) ((qat s.q m).length)
  ·go_simp<;>exact rfl
  ·go_simp
  ·intro j hj HB2 HP2 K2 hK2;obtain ⟨x1,x2,x3,x4,x5,x6⟩:=ixs (m:=j) (by omega);have hp2:u2_ (g4_ s m) (qat s.q m) j=0:=by simpa using HP2.out
   unfold u2_ at hp2;have hcs:=HC.out m hm j hj;have wn:=b1c (tat (qat s.q m) j) (g4_ s m++(qat s.q m).take j) hcs;rw [hp2] at wn;have hat:=(e7_ hj).symm;have hts:(qat s.q m).take (j+1)=(qat s.q m).take j++[tat (qat s.q m) j]:=by rw [l0_ hj,e7_ hj]
   rw [hts,←List.append_assoc] at hK2;clear hp2 hts;generalize g4_ s m++(qat s.q m).take j=L at *;generalize tat (qat s.q m) j=C at *;generalize a4b (L++[C])=M2 at *;generalize a4b L=M1 at *;repeat' with_reducible apply a9_
   refine a2_ [] ?_;repeat' first|(with_reducible first|apply a9_|apply a3_|apply b0_|apply a8_|apply a1_)|((with_reducible refine a7_ ?_ ?_);(focus (go_simp;done)))|((with_reducible refine a0_ fun X Y=>?_);go_simp;refine Y _ ?_;clear Y X)
   refine a2_ [] ?_;repeat' first|(with_reducible first|apply a9_|apply a3_|apply a1_)|((with_reducible refine a0_ fun X Y=>?_);go_simp;refine Y _ ?_;clear Y X)
   refine c6_ (b9_ [] 2 ⟨rfl,rfl⟩ ?_);simp only [List.take,List.drop];repeat' first|with_reducible apply a1_|((with_reducible refine a0_ fun X Y=>?_);go_simp;refine Y _ ?_;clear Y X)
   refine e5_ [1,0] [1] [] [some (.box [.mp 1]),some (.mpo (4,.i64) M2)] (I 0) rfl (by go_simp) ?_ ?_
   ·unfold j7_;go_simp;refine ⟨_,_,_,wn,?_⟩;go_simp;kernel_rfl
   go_simp;refine b9_ [] 1 ⟨rfl,rfl⟩ ?_;simp only [List.take,List.drop];repeat' first|with_reducible apply a1_|((with_reducible refine a0_ fun X Y=>?_);go_simp;refine Y _ ?_;clear Y X)
   apply e3_;repeat' first|(with_reducible first|apply a9_|apply a3_|apply b0_|apply b1_|apply a1_|refine a2_ [] ?_)|((with_reducible refine a6_ ?_ ?_);(focus (go_simp;done)))|((with_reducible refine a0_ fun X Y=>?_);go_simp;refine Y _ ?_;clear Y X)
   refine hK2 _ ?_;go_simp
  ·intro j hj HB2 HP2 K2;obtain ⟨x1,x2,x3,x4,x5,x6⟩:=ixs (m:=j) (by omega);have e:E=b6j (u2_ (g4_ s m) (qat s.q m)) (qat s.q m).length:=HEE.out;rw [a2s hj HB2.out HP2.out] at e;unfold u2_ at e;have hcs:=HC.out m hm j hj;have wn:=b1c (tat (qat s.q m) j) (g4_ s m++(qat s.q m).take j) hcs;have hat:=(e7_ hj).symm;have hnz:¬a6v (tat (qat s.q m) j) (g4_ s m++(qat s.q m).take j)=0:=fun h=>by
    have h2:=HP2.out;rw [show u2_ (g4_ s m) (qat s.q m) j=0 from h] at h2;cases h2
   subst e;generalize g4_ s m++(qat s.q m).take j=L at *;generalize tat (qat s.q m) j=C at *;generalize a6v C L=E2 at *;generalize a4b (L++[C])=M2 at *;generalize a4b L=M1 at *;repeat' with_reducible apply a9_
   refine a2_ [] ?_;repeat' first|(with_reducible first|apply a9_|apply a3_|apply b0_|apply a8_|apply a1_)|((with_reducible refine a7_ ?_ ?_);(focus (go_simp;done)))|((with_reducible refine a0_ fun X Y=>?_);go_simp;refine Y _ ?_;clear Y X)
   refine a2_ [] ?_;repeat' first|(with_reducible first|apply a9_|apply a3_|apply a1_)|((with_reducible refine a0_ fun X Y=>?_);go_simp;refine Y _ ?_;clear Y X)
   refine c6_ (b9_ [] 2 ⟨rfl,rfl⟩ ?_);simp only [List.take,List.drop];repeat' first|with_reducible apply a1_|((with_reducible refine a0_ fun X Y=>?_);go_simp;refine Y _ ?_;clear Y X)
   refine e5_ [1,0] [1] [] [some (.box [.mp 1]),some (.mpo (4,.i64) M2)] (I E2) rfl (by go_simp) ?_ ?_
   ·unfold j7_;go_simp;refine ⟨_,_,_,wn,?_⟩;go_simp;kernel_rfl
   go_simp;refine b9_ [] 1 ⟨rfl,rfl⟩ ?_;simp only [List.take,List.drop];repeat' first|with_reducible apply a1_|((with_reducible refine a0_ fun X Y=>?_);go_simp;refine Y _ ?_;clear Y X)
   apply e3_;repeat' first|(with_reducible first|apply a9_|apply a3_|apply b4_|apply c5_|apply c2_|apply a1_|refine a2_ [] ?_)|((with_reducible refine a7_ ?_ ?_);(focus (go_simp;done)))|((with_reducible refine a0_ fun X Y=>?_);go_simp;refine Y _ ?_;clear Y X)
   go_simp
  ·intro HB2 K2;exfalso;exact HPP.out (a1n HB2.out)
 ·intro HB K;have HBQ:=HB;clear HB;by_cases h4:(s.tk.length:Int)≤40
  ·have h40:¬(40:Int) < (s.tk.length:Int):=by omega
   repeat' first|(with_reducible first|apply a9_|apply a3_|apply b8_|apply b0_|apply d4_|apply a8_|apply b7_|apply a1_|refine a2_ [] ?_)|((with_reducible refine a6_ ?_ ?_);(focus (go_simp;done)))|((with_reducible refine a0_ fun X Y=>?_);go_simp;refine Y _ ?_;clear Y X)
   apply y4_ [2,3,7,70,71] (fun k=>[(72,I k)]) (fun k=>([some (.mpo (4,.i64) (a4b (o6_ s k))),some (.box [.mp 0])] : Hp)) (fun k=>!decide (v5_ r s k=0)) (s.tk.length)
   ·go_simp<;>exact rfl
   ·go_simp
   ·intro k hk HB HP K hK;obtain ⟨w1,w2,w3,w4,w5,w6⟩:=ixs (m:=k) (by omega);have hcs:=HT.out k hk;have wn:=b1c (d8_ s.tk k).car (o6_ s k) hcs;have i1:=i3_ (d8_ s.tk k).rank 0 ((r.ranks.length:Int) - 1);have i2:=i3_ (d8_ s.tk k).time 0 s.time;have u1:=b3_ (inR (d8_ s.tk k).rank 0 ((r.ranks.length:Int) - 1)) 6;have u2:=b3_ (inR (d8_ s.tk k).time 0 s.time) 2;have hw:IntKind.i64.wrap ((r.ranks.length:Int) - 1)=(r.ranks.length:Int) - 1:=h3_ (by omega) (by omega);have u3:=b3_ (decide (k=0) || decide ((d8_ s.tk (k - 1)).time≤(d8_ s.tk k).time)) 9;have gF:VC Tryd.prog 30 [.sl 1 ([a6v (d8_ s.tk k).car (o6_ s k),unl (inR (d8_ s.tk k).rank 0 ((r.ranks.length:Int) - 1)) 6,unl (inR (d8_ s.tk k).time 0 s.time) 2,unl (decide (k=0) || decide ((d8_ s.tk (k - 1)).time≤(d8_ s.tk k).time)) 9].map y3_)] (I (v5_ r s k)):=d9_ _ rfl rfl;have hp:v5_ r s k=0:=by simpa using HP.out
    rw [hp] at gF;rw [a7e hk] at hK;clear hp;generalize inR (d8_ s.tk k).rank 0 ((r.ranks.length:Int) - 1)=D1 at *;generalize inR (d8_ s.tk k).time 0 s.time=D2 at *;generalize unl D1 6=A1 at *;generalize unl D2 2=A2 at *;generalize a6v (d8_ s.tk k).car (o6_ s k)=CE at *;generalize a4b (o6_ s k++[(d8_ s.tk k).car])=M2 at *;generalize a4b (o6_ s k)=M1 at *;rcases k with _|p
    ·have d0:(decide (0=0) || decide ((d8_ s.tk (0 - 1)).time≤(d8_ s.tk 0).time))=true:=rfl;rw [d0] at u3 gF;generalize unl true 9=A3 at *;clear d0;repeat' with_reducible apply a9_
     refine a2_ [] ?_;repeat' first|(with_reducible first|apply a9_|apply a3_|apply b0_|apply a8_|apply a1_)|((with_reducible refine a7_ ?_ ?_);(focus (go_simp;done)))|((with_reducible refine a0_ fun X Y=>?_);go_simp;refine Y _ ?_;clear Y X)
     refine a2_ [] ?_;repeat' first|(with_reducible first|apply a9_|apply a3_|apply a1_)|((with_reducible refine a0_ fun X Y=>?_);go_simp;refine Y _ ?_;clear Y X)
     refine c6_ (b9_ [] 3 ⟨rfl,rfl⟩ ?_);simp only [List.take,List.drop];repeat' first|with_reducible apply a1_|((with_reducible refine a0_ fun X Y=>?_);go_simp;refine Y _ ?_;clear Y X)
     refine e5_ [1,0] [1] [] [some (.box [.mp 1]),some (.mpo (4,.i64) M2)] (I CE) rfl (by go_simp) ?_ ?_
     ·unfold j7_;go_simp;refine ⟨_,_,_,wn,?_⟩;go_simp;kernel_rfl
     go_simp;refine b9_ [] 1 ⟨rfl,rfl⟩ ?_;simp only [List.take,List.drop];repeat' first|with_reducible apply a1_|((with_reducible refine a0_ fun X Y=>?_);go_simp;refine Y _ ?_;clear Y X)
     apply e3_;repeat' first|(with_reducible first|apply a9_|apply a3_|apply b0_|apply b1_|apply a1_|refine a2_ [] ?_|apply a5_)|((with_reducible refine a6_ ?_ ?_);(focus (go_simp;done)))|((with_reducible first|refine a0_ fun X Y=>?_|refine a4_ fun X Y=>?_);go_simp;(first|(with_reducible refine ⟨_,i1,?_⟩)|(with_reducible refine ⟨_,i2,?_⟩)|(with_reducible refine ⟨_,u1,?_⟩)|(with_reducible refine ⟨_,u2,?_⟩)|(with_reducible refine ⟨_,u3,?_⟩)|(refine ⟨_,gF,?_⟩)|skip);refine Y _ ?_;clear Y X)|((refine b6_ 34 33 [] rfl (by kernel_rfl) (by kernel_rfl) ?_);simp only [List.take,List.drop])
     refine hK _ ?_;go_simp
    ·have hsub:p+1 - 1=p:=by omega
     rw [hsub,decide_eq_false (by omega:¬p+1=0),Bool.false_or] at u3 gF;obtain ⟨x1,x2,x3,x4,x5,x6⟩:=ixs (m:=p) (by omega);have hpl:p < s.tk.length:=by omega
     have hpl2:(p:Int)+1 < (s.tk.length:Int):=by omega
     have hpl3:¬(p:Int)+1≤0:=by omega
     have hpl4:(0:Int) < (p:Int)+1:=by omega
     have hpl5:¬(p:Int)+1=0:=by omega
     have hpl6:(0:Int)≤(p:Int):=by omega
     have hpm:(if 0 < p then (p:Int) else 0)=(p:Int):=by split<;>omega
     generalize unl (decide ((d8_ s.tk p).time≤(d8_ s.tk (p+1)).time)) 9=A3 at *;clear hsub;repeat' with_reducible apply a9_
     refine a2_ [] ?_;repeat' first|(with_reducible first|apply a9_|apply a3_|apply b0_|apply a8_|apply a1_)|((with_reducible refine a7_ ?_ ?_);(focus (go_simp;done)))|((with_reducible refine a0_ fun X Y=>?_);go_simp;refine Y _ ?_;clear Y X)
     refine a2_ [] ?_;repeat' first|(with_reducible first|apply a9_|apply a3_|apply a1_)|((with_reducible refine a0_ fun X Y=>?_);go_simp;refine Y _ ?_;clear Y X)
     refine c6_ (b9_ [] 3 ⟨rfl,rfl⟩ ?_);simp only [List.take,List.drop];repeat' first|with_reducible apply a1_|((with_reducible refine a0_ fun X Y=>?_);go_simp;refine Y _ ?_;clear Y X)
     refine e5_ [1,0] [1] [] [some (.box [.mp 1]),some (.mpo (4,.i64) M2)] (I CE) rfl (by go_simp) ?_ ?_
     ·unfold j7_;go_simp;refine ⟨_,_,_,wn,?_⟩;go_simp;kernel_rfl
     go_simp;refine b9_ [] 1 ⟨rfl,rfl⟩ ?_;simp only [List.take,List.drop];repeat' first|with_reducible apply a1_|((with_reducible refine a0_ fun X Y=>?_);go_simp;refine Y _ ?_;clear Y X)
     apply e3_;repeat' first|(with_reducible first|apply a9_|apply a3_|apply b0_|apply b1_|apply a1_|refine a2_ [] ?_|apply a5_)|((with_reducible refine a6_ ?_ ?_);(focus (go_simp;done)))|((with_reducible first|refine a0_ fun X Y=>?_|refine a4_ fun X Y=>?_);go_simp;(first|(with_reducible refine ⟨_,i1,?_⟩)|(with_reducible refine ⟨_,i2,?_⟩)|(with_reducible refine ⟨_,u1,?_⟩)|(with_reducible refine ⟨_,u2,?_⟩)|(with_reducible refine ⟨_,u3,?_⟩)|(refine ⟨_,gF,?_⟩)|skip);refine Y _ ?_;clear Y X)|((refine b6_ 34 33 [] rfl (by kernel_rfl) (by kernel_rfl) ?_);simp only [List.take,List.drop])
     refine hK _ ?_;go_simp
   ·intro k hk HB HP K;obtain ⟨w1,w2,w3,w4,w5,w6⟩:=ixs (m:=k) (by omega);have hcs:=HT.out k hk;have wn:=b1c (d8_ s.tk k).car (o6_ s k) hcs;have i1:=i3_ (d8_ s.tk k).rank 0 ((r.ranks.length:Int) - 1);have i2:=i3_ (d8_ s.tk k).time 0 s.time;have u1:=b3_ (inR (d8_ s.tk k).rank 0 ((r.ranks.length:Int) - 1)) 6;have u2:=b3_ (inR (d8_ s.tk k).time 0 s.time) 2;have hw:IntKind.i64.wrap ((r.ranks.length:Int) - 1)=(r.ranks.length:Int) - 1:=h3_ (by omega) (by omega);have u3:=b3_ (decide (k=0) || decide ((d8_ s.tk (k - 1)).time≤(d8_ s.tk k).time)) 9;have gF:VC Tryd.prog 30 [.sl 1 ([a6v (d8_ s.tk k).car (o6_ s k),unl (inR (d8_ s.tk k).rank 0 ((r.ranks.length:Int) - 1)) 6,unl (inR (d8_ s.tk k).time 0 s.time) 2,unl (decide (k=0) || decide ((d8_ s.tk (k - 1)).time≤(d8_ s.tk k).time)) 9].map y3_)] (I (v5_ r s k)):=d9_ _ rfl rfl;have e:=d4s HSH.out HBQ.out h4 hk HB.out HP.out;have hp:¬v5_ r s k=0:=by simpa using HP.out
    rw [HE.out] at e;subst e;generalize v5_ r s k=TE at *;generalize inR (d8_ s.tk k).rank 0 ((r.ranks.length:Int) - 1)=D1 at *;generalize inR (d8_ s.tk k).time 0 s.time=D2 at *;generalize unl D1 6=A1 at *;generalize unl D2 2=A2 at *;generalize a6v (d8_ s.tk k).car (o6_ s k)=CE at *;generalize a4b (o6_ s k++[(d8_ s.tk k).car])=M2 at *;generalize a4b (o6_ s k)=M1 at *;rcases k with _|p
    ·have d0:(decide (0=0) || decide ((d8_ s.tk (0 - 1)).time≤(d8_ s.tk 0).time))=true:=rfl;rw [d0] at u3 gF;generalize unl true 9=A3 at *;clear d0;repeat' with_reducible apply a9_
     refine a2_ [] ?_;repeat' first|(with_reducible first|apply a9_|apply a3_|apply b0_|apply a8_|apply a1_)|((with_reducible refine a7_ ?_ ?_);(focus (go_simp;done)))|((with_reducible refine a0_ fun X Y=>?_);go_simp;refine Y _ ?_;clear Y X)
     refine a2_ [] ?_;repeat' first|(with_reducible first|apply a9_|apply a3_|apply a1_)|((with_reducible refine a0_ fun X Y=>?_);go_simp;refine Y _ ?_;clear Y X)
     refine c6_ (b9_ [] 3 ⟨rfl,rfl⟩ ?_);simp only [List.take,List.drop];repeat' first|with_reducible apply a1_|((with_reducible refine a0_ fun X Y=>?_);go_simp;refine Y _ ?_;clear Y X)
     refine e5_ [1,0] [1] [] [some (.box [.mp 1]),some (.mpo (4,.i64) M2)] (I CE) rfl (by go_simp) ?_ ?_
     ·unfold j7_;go_simp;refine ⟨_,_,_,wn,?_⟩;go_simp;kernel_rfl
     go_simp;refine b9_ [] 1 ⟨rfl,rfl⟩ ?_;simp only [List.take,List.drop];repeat' first|with_reducible apply a1_|((with_reducible refine a0_ fun X Y=>?_);go_simp;refine Y _ ?_;clear Y X)
     apply e3_;repeat' first|(with_reducible first|apply a9_|apply a3_|apply b4_|apply c5_|apply c2_|apply a1_|refine a2_ [] ?_|apply a5_)|((with_reducible refine a7_ ?_ ?_);(focus (go_simp;done)))|((with_reducible first|refine a0_ fun X Y=>?_|refine a4_ fun X Y=>?_);go_simp;(first|(with_reducible refine ⟨_,i1,?_⟩)|(with_reducible refine ⟨_,i2,?_⟩)|(with_reducible refine ⟨_,u1,?_⟩)|(with_reducible refine ⟨_,u2,?_⟩)|(with_reducible refine ⟨_,u3,?_⟩)|(refine ⟨_,gF,?_⟩)|skip);refine Y _ ?_;clear Y X)|((refine b6_ 34 33 [] rfl (by kernel_rfl) (by kernel_rfl) ?_);simp only [List.take,List.drop])
     go_simp
    ·have hsub:p+1 - 1=p:=by omega
     rw [hsub,decide_eq_false (by omega:¬p+1=0),Bool.false_or] at u3 gF;obtain ⟨x1,x2,x3,x4,x5,x6⟩:=ixs (m:=p) (by omega);have hpl:p < s.tk.length:=by omega
     have hpl2:(p:Int)+1 < (s.tk.length:Int):=by omega
     have hpl3:¬(p:Int)+1≤0:=by omega
     have hpl4:(0:Int) < (p:Int)+1:=by omega
     have hpl5:¬(p:Int)+1=0:=by omega
     have hpl6:(0:Int)≤(p:Int):=by omega
     have hpm:(if 0 < p then (p:Int) else 0)=(p:Int):=by split<;>omega
     generalize unl (decide ((d8_ s.tk p).time≤(d8_ s.tk (p+1)).time)) 9=A3 at *;clear hsub;repeat' with_reducible apply a9_
     refine a2_ [] ?_;repeat' first|(with_reducible first|apply a9_|apply a3_|apply b0_|apply a8_|apply a1_)|((with_reducible refine a7_ ?_ ?_);(focus (go_simp;done)))|((with_reducible refine a0_ fun X Y=>?_);go_simp;refine Y _ ?_;clear Y X)
     refine a2_ [] ?_;repeat' first|(with_reducible first|apply a9_|apply a3_|apply a1_)|((with_reducible refine a0_ fun X Y=>?_);go_simp;refine Y _ ?_;clear Y X)
     refine c6_ (b9_ [] 3 ⟨rfl,rfl⟩ ?_);simp only [List.take,List.drop];repeat' first|with_reducible apply a1_|((with_reducible refine a0_ fun X Y=>?_);go_simp;refine Y _ ?_;clear Y X)
     refine e5_ [1,0] [1] [] [some (.box [.mp 1]),some (.mpo (4,.i64) M2)] (I CE) rfl (by go_simp) ?_ ?_
     ·unfold j7_;go_simp;refine ⟨_,_,_,wn,?_⟩;go_simp;kernel_rfl
     go_simp;refine b9_ [] 1 ⟨rfl,rfl⟩ ?_;simp only [List.take,List.drop];repeat' first|with_reducible apply a1_|((with_reducible refine a0_ fun X Y=>?_);go_simp;refine Y _ ?_;clear Y X)
     apply e3_;repeat' first|(with_reducible first|apply a9_|apply a3_|apply b4_|apply c5_|apply c2_|apply a1_|refine a2_ [] ?_|apply a5_)|((with_reducible refine a7_ ?_ ?_);(focus (go_simp;done)))|((with_reducible first|refine a0_ fun X Y=>?_|refine a4_ fun X Y=>?_);go_simp;(first|(with_reducible refine ⟨_,i1,?_⟩)|(with_reducible refine ⟨_,i2,?_⟩)|(with_reducible refine ⟨_,u1,?_⟩)|(with_reducible refine ⟨_,u2,?_⟩)|(with_reducible refine ⟨_,u3,?_⟩)|(refine ⟨_,gF,?_⟩)|skip);refine Y _ ?_;clear Y X)|((refine b6_ 34 33 [] rfl (by kernel_rfl) (by kernel_rfl) ?_);simp only [List.take,List.drop])
     go_simp
   ·intro HB K;have e:=d4t HSH.out HBQ.out h4 HB.out;rw [HE.out] at e;rw [←e] at g6;generalize inR s.time 0 604800=D1 at *;generalize hNX:f9_ r s=NX at *;have hdn:decide (NX < 0)=decide (NX < 0):=rfl;clear e hdn hNX;generalize unl D1 2=A1 at *;generalize unl (decide (NX < 0)) 22=A2 at *;repeat' first|(with_reducible first|apply a9_|apply a3_|apply b8_|apply c5_|apply d4_|apply b7_|apply a1_|refine a2_ [] ?_)|((with_reducible refine a6_ ?_ ?_);(focus (go_simp;done)))|((with_reducible refine a0_ fun X Y=>?_);go_simp;(first|(with_reducible refine ⟨_,i5,?_⟩)|(with_reducible refine ⟨_,u5,?_⟩)|(with_reducible refine ⟨_,gm,?_⟩)|(with_reducible refine ⟨_,u6,?_⟩)|(refine ⟨_,g6,?_⟩)|skip);refine Y _ ?_;clear Y X)
    go_simp
  ·have h40:(40:Int) < (s.tk.length:Int):=by omega
   have e:=d4r HSH.out HBQ.out h4;rw [HE.out] at e;subst e;repeat' first|(with_reducible first|apply a9_|apply a3_|apply b8_|apply b4_|apply c5_|apply d4_|apply b7_|apply a1_|refine a2_ [] ?_)|((with_reducible refine a7_ ?_ ?_);(focus (go_simp;done)))|((with_reducible refine a6_ ?_ ?_);(focus (go_simp;done)))|((with_reducible refine a0_ fun X Y=>?_);go_simp;refine Y _ ?_;clear Y X)
   go_simp
def ckE (r:Ru) (s:St) : Int:=if (d6_ r).2≠0 then (d6_ r).2 else n4_ r s
theorem a3y (r:Ru) (s:St) (hn:r.ranks.length≤1000000) (hnm:∀ k,k < r.ranks.length→(rat r.ranks k).name.size≤1000) (hs:SmallS s) : VC Tryd.prog 31 [c4_ r,c9_ s] (I (ckE r s)):=by
 unfold ckE;by_cases h0:(d6_ r).2=0
 ·rw [if_neg (by simp [h0])];by_cases hsh:s.q.length=r.ranks.length
  ·exact a8v r s hn hnm hs h0 hsh
  ·have g:=a2t r s hn hnm hs (.inr hsh);have e:n4_ r s=10:=by
    unfold n4_;rw [decide_eq_false hsh];rfl
   rw [e];rw [h0] at g;exact g
 ·rw [if_pos h0];have g:=a2t r s hn hnm hs (.inl h0);have e:fst [(d6_ r).2,10]=(d6_ r).2:=by simp [fst,h0]
  rw [e] at g;exact g
end Go.Proofs.YtoibondihdhnoaaDoor
