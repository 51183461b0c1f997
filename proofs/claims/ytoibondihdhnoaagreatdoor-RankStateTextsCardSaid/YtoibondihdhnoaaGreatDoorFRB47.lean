/- Texts in one: Walks: which states are right, as the reference has them. -/
import Derived.Test.YtoibondihdhnoaaGreatDoorFRB45
import Derived.Test.YtoibondihdhnoaaGreatDoorFRB31
import Derived.Test.YtoibondihdhnoaaGreatDoorFRB34
namespace Go.Proofs.YtoibondihdhnoaaGreatDoor
open Go.RowKit
set_option maxRecDepth 100000
set_option maxHeartbeats 2000000
def b3u (r:Ru) (k:Nat) : Bool:=decide (20 < (rat r.ranks k).name.size)
def d2u (r:Ru) : Bool:=decide (r.ranks.length≤8)&&!t8_ (b3u r) 0 r.ranks.length
theorem d4t (r:Ru) (hl:r.ranks.length≤9223372036854775807) : VC Tryz.prog 19 [e0_ r] (B (d2u r)):=by
 unfold d2u
 by_cases h8:r.ranks.length≤8
 ·have h8':¬(8:Int) < (r.ranks.length:Int):=by omega
  obtain ⟨R,hR⟩ : ∃ R,t8_ (b3u r) 0 r.ranks.length=R:=⟨_,rfl⟩
  rw [decide_eq_true h8,hR]
  have HR:=Lib.hid hR
  have HL:=Lib.hid h8
  clear hR h8 hl
  refine c0_ Tryz.func19 rfl (by kernel_rfl) (by kernel_rfl) rfl fun M0 w0=>?_
  simp only [Tryz.ntmps19,Tryz.results19,b4_]
  repeat' (first|(with_reducible first|apply a9_|apply a3_|apply b0_|apply a8_|apply a1_|refine a2_ [] ?_)|((with_reducible refine a5_ ?_ ?_);(focus (go_simp;done)))|((with_reducible refine a0_ fun X Y=>?_);go_simp;refine Y _ ?_;clear Y X))
  apply s5_ [1] (fun k=>[(3,I k)]) (fun k=>([] : Hp)) (b3u r) (r.ranks.length)
  ·go_simp<;>exact rfl
  ·go_simp
  ·intro k hk HB HP K hK
   have:=HL.out
   obtain ⟨w1,w2,w3,w4,w5,w6⟩:=ixs (m:=k) (by omega)
   have hp:=HP.out
   rw [b3u,decide_eq_false_iff_not] at hp
   have hp2:¬(20:Int) < ((rat r.ranks k).name.size:Int):=by omega
   clear hp this
   repeat' (first|(with_reducible first|apply a9_|apply a3_|apply b0_|apply a8_|apply b3_|apply a1_|refine a2_ [] ?_)|((with_reducible refine a7_ ?_ ?_);(focus (go_simp;done)))|((with_reducible refine a5_ ?_ ?_);(focus (go_simp;done)))|((with_reducible refine a0_ fun X Y=>?_);go_simp;refine Y _ ?_;clear Y X))
   refine hK _ ?_
   go_simp
  ·intro k hk HB HP K
   have hp:=HP.out
   rw [b3u,decide_eq_true_eq] at hp
   have hp2:(20:Int) < ((rat r.ranks k).name.size:Int):=by omega
   have e:=HR.out
   rw [f9_ hk HP.out] at e
   subst e
   clear hp
   repeat' (first|(with_reducible first|apply a9_|apply a3_|apply b1_|apply c4_|apply b0_|apply a8_|apply c7_|apply a1_|refine a2_ [] ?_)|((with_reducible refine a7_ ?_ ?_);(focus (go_simp;done)))|((with_reducible refine a0_ fun X Y=>?_);go_simp;refine Y _ ?_;clear Y X))
   go_simp
  ·intro HB K
   have e:=HR.out
   rw [f1_ HB.out] at e
   subst e
   repeat' (first|(with_reducible first|apply a9_|apply a3_|apply c2_|apply c4_|apply d0_|apply b7_|apply a1_|refine a2_ [] ?_)|((with_reducible refine a5_ ?_ ?_);(focus (go_simp;done)))|((with_reducible refine a0_ fun X Y=>?_);go_simp;refine Y _ ?_;clear Y X))
   go_simp
 ·have h8':(8:Int) < (r.ranks.length:Int):=by omega
  rw [decide_eq_false h8,Bool.false_and]
  clear h8 hl
  refine c0_ Tryz.func19 rfl (by kernel_rfl) (by kernel_rfl) rfl fun M0 w0=>?_
  simp only [Tryz.ntmps19,Tryz.results19,b4_]
  repeat' (first|(with_reducible first|apply a9_|apply a3_|apply b1_|apply c4_|apply a1_|refine a2_ [] ?_)|((with_reducible refine a7_ ?_ ?_);(focus (go_simp;done)))|((with_reducible refine a0_ fun X Y=>?_);go_simp;refine Y _ ?_;clear Y X))
  go_simp
theorem d2v {r:Ru} (h:d2u r=true) : r.ranks.length≤8∧∀ k,k < r.ranks.length→(rat r.ranks k).name.size≤1000:=by
 unfold d2u at h
 rw [Bool.and_eq_true,decide_eq_true_eq,Bool.not_eq_true'] at h
 refine ⟨h.1,fun k hk=>?_⟩
 by_cases hb:b3u r k=true
 ·have:=f9_ hk hb
  rw [h.2] at this
  cases this
 ·unfold b3u at hb
  have:¬20 < (rat r.ranks k).name.size:=fun hh=>hb (decide_eq_true hh)
  omega
theorem b8b (r:Ru) (hn:r.ranks.length≤1000000) (hnm:∀ k,k < r.ranks.length→(rat r.ranks k).name.size≤1000) : VC Tryz.prog 24 [e0_ r] (I (g7_ r).2):=by
 have g:=b1r r hn hnm
 generalize (g7_ r).2=E at *
 generalize ((g7_ r).1:Int)=K0 at *
 refine c0_ Tryz.func24 rfl (by kernel_rfl) (by kernel_rfl) rfl fun M0 w0=>?_
 simp only [Tryz.ntmps24,Tryz.results24,b4_]
 repeat' (first|(with_reducible first|apply a9_|apply a3_|apply c4_|apply a1_|refine a2_ [] ?_)|((with_reducible refine a0_ fun X Y=>?_);go_simp;(first|(refine ⟨_,g,?_⟩)|skip);refine Y _ ?_;clear Y X))
 go_simp
end Go.Proofs.YtoibondihdhnoaaGreatDoor
namespace Go.Proofs.YtoibondihdhnoaaGreatDoor
open Go.RowKit
set_option maxRecDepth 100000
set_option maxHeartbeats 4000000
theorem c9y (a b:List Int) : fst (a++b)=if fst a=0 then fst b else fst a:=by
 induction a with
 | nil=>rfl
 | cons x a ih=>
  by_cases h:x=0
  ·simp [fst,h,ih]
  ·simp [fst,h]
theorem c1z (E:Nat→Int) (n:Nat) : b8u E (n+1)=if b8u E n=0 then E n else b8u E n:=by
 unfold b8u
 rw [List.range_succ,List.map_append,c9y]
 congr 1
 simp only [List.map_cons,List.map_nil,fst]
 split
 ·rfl
 ·rename_i h
  simp at h
  rw [h]
theorem a2v {E:Nat→Int} : ∀ {n:Nat},(∀ j,j < n→(!decide (E j=0))=false)→b8u E n=0:=fun h=>a1n.2 fun j hj=>by simpa using h j hj
theorem a4a {E:Nat→Int} {k:Nat} : ∀ {n:Nat},k < n→(∀ j,j < k→(!decide (E j=0))=false)→(!decide (E k=0))=true→b8u E n=E k
 | 0,h,_,_=>by omega
 | n+1,h,hb,hp=>by
  have hne:E k≠0:=by simpa using hp
  rw [c1z]
  by_cases he:k=n
  ·subst he
   rw [if_pos (a2v hb)]
  ·rw [a4a (by omega:k < n) hb hp,if_neg hne]
theorem b1s (l:List ByteArray) (c:ByteArray) : t8_ (isT l c) 0 l.length=inL c l:=by
 rw [Bool.eq_iff_iff,a4o]
 constructor
 ·intro h
  apply Classical.byContradiction
  intro hno
  rw [f1_ fun j hj=>by
   rw [isT,decide_eq_false_iff_not,b8_ hj]
   exact fun he=>hno (he▸List.getElem_mem hj)] at h
  cases h
 ·intro h
  obtain ⟨j,hj,he⟩:=List.getElem_of_mem h
  exact f9_ hj (by rw [isT,b8_ hj,he];simp)
theorem c2a {c:ByteArray} {l:List ByteArray} (h:c8_ c=false) : b9w c l=4:=by simp [b9w,fst,unl,h]
theorem c2b {c:ByteArray} {l:List ByteArray} (h:c8_ c=true) (h2:inL c l=true) : b9w c l=5:=by simp [b9w,fst,unl,h,h2]
theorem c2c {c:ByteArray} {l:List ByteArray} (h:c8_ c=true) (h2:inL c l=false) : b9w c l=0:=by simp [b9w,fst,unl,h,h2]
def j2_ (s:St) (k:Nat) : List ByteArray:=(s.q.take k).flatten
@[go_sem] theorem d4u (s:St) : j2_ s 0=[]:=by simp [j2_]
theorem a9e {s:St} (h:∀ k,k < s.q.length→(qat s.q k).length≤300) : ∀ k,k≤s.q.length→(j2_ s k).length≤k*300
 | 0,_=>by simp [j2_]
 | k+1,hk=>by
  have:=a9e h k (by omega)
  have h2:=h k (by omega)
  unfold j2_ at this ⊢
  rw [a4q (by omega),List.length_append]
  omega
def w7_ (s:St) (k:Nat) : List ByteArray:=s.q.flatten++(s.tk.take k).map (·.car)
@[go_sem] theorem c9z (s:St) : w7_ s 0=j2_ s s.q.length:=by simp [w7_,j2_]
theorem b8c {s:St} {k:Nat} (h:k < s.tk.length) : w7_ s (k+1)=w7_ s k++[(e4_ s.tk k).car]:=by
 unfold w7_
 rw [r0_ h,List.map_append,←List.append_assoc,d6_ h]
 rfl
theorem b6k {s:St} (h:∀ k,k < s.q.length→(qat s.q k).length≤300) (k:Nat) (hk:k≤s.tk.length) : (w7_ s k).length≤s.q.length*300+k:=by
 have:=a9e h s.q.length (Nat.le_refl _)
 unfold j2_ at this
 rw [List.take_length] at this
 unfold w7_
 rw [List.length_append,List.length_map,List.length_take]
 omega
theorem d6d {r:Ru} {s:St} {m:Nat} (h:s.q.length=r.ranks.length) (hm:m < s.q.length) (hb:∀ j,j < m→(!decide (p8_ r s j=0))=false) (hp:(!decide (p8_ r s m=0))=true) : o7_ r s=p8_ r s m:=by
 have hne:p8_ r s m≠0:=by simpa using hp
 unfold o7_
 rw [decide_eq_true h,a4a hm hb hp]
 simp [fst,unl,hne]
theorem d6e {r:Ru} {s:St} (h:s.q.length=r.ranks.length) (hq:∀ j,j < s.q.length→(!decide (p8_ r s j=0))=false) (h4:¬(s.tk.length:Int)≤40) : o7_ r s=8:=by
 unfold o7_
 rw [decide_eq_true h,a2v hq,decide_eq_false h4]
 simp [fst,unl]
theorem d6f {r:Ru} {s:St} {m:Nat} (h:s.q.length=r.ranks.length) (hq:∀ j,j < s.q.length→(!decide (p8_ r s j=0))=false) (h4:(s.tk.length:Int)≤40) (hm:m < s.tk.length) (hb:∀ j,j < m→(!decide (a1m r s j=0))=false) (hp:(!decide (a1m r s m=0))=true) : o7_ r s=a1m r s m:=by
 have hne:a1m r s m≠0:=by simpa using hp
 unfold o7_
 rw [decide_eq_true h,a2v hq,decide_eq_true h4,a4a hm hb hp]
 simp [fst,unl,hne]
theorem d6g {r:Ru} {s:St} (h:s.q.length=r.ranks.length) (hq:∀ j,j < s.q.length→(!decide (p8_ r s j=0))=false) (h4:(s.tk.length:Int)≤40) (ht:∀ j,j < s.tk.length→(!decide (a1m r s j=0))=false) : o7_ r s=fst [unl (inR s.time 0 604800) 2,unl (decide (k6_ r s < 0)) 22]:=by
 unfold o7_
 rw [decide_eq_true h,a2v hq,decide_eq_true h4,a2v ht]
 simp [fst,unl]
theorem b8d {r:Ru} {s:St} {k:Nat} (h:a1m r s k=0) : (c8_ (e4_ s.tk k).car=true∧(e4_ s.tk k).car∉w7_ s k)∧inR (e4_ s.tk k).rank 0 ((r.ranks.length:Int) - 1)=true∧inR (e4_ s.tk k).time 0 s.time=true∧(k=0∨(e4_ s.tk (k - 1)).time≤(e4_ s.tk k).time):=by
 unfold a1m at h
 rw [b6_,b6_,b6_,b6_] at h
 have h4:=d1_ (by decide) h.2.2.2.1
 simp only [Bool.or_eq_true,decide_eq_true_eq] at h4
 exact ⟨z6_.1 h.1,d1_ (by decide) h.2.1,d1_ (by decide) h.2.2.1,h4⟩
theorem b1t (r:Ru) (s:St) (hr:RuOK r) (hn:r.ranks.length≤1000000) (hs:SmallS s) : VC Tryz.prog 55 [e0_ r,i0_ s] (I (o7_ r s)):=by
 obtain ⟨E,hE⟩ : ∃ E,o7_ r s=E:=⟨_,rfl⟩
 rw [hE]
 have HE:=Lib.hid hE
 have hq:∀ k,k < s.q.length→(qat s.q k).length≤300:=fun k hk=>by rw [g4_ hk];exact (hs.q1 _ (List.getElem_mem hk)).1
 have hqc:∀ k,k < s.q.length→∀ j,j < (qat s.q k).length→(tat (qat s.q k) j).size≤1000:=fun k hk j hj=>by
  rw [b8_ hj]
  refine (hs.q1 _ ?_).2 _ (List.getElem_mem hj)
  rw [g4_ hk]
  exact List.getElem_mem hk
 have htc:∀ k,k < s.tk.length→(e4_ s.tk k).car.size≤1000:=fun k hk=>by rw [d6_ hk];exact (hs.t1 _ (List.getElem_mem hk)).1
 have hle:=a9e hq
 have hnq:=hs.nq
 have hnt:=hs.nt
 have HQ:=Lib.hid hq
 have HC:=Lib.hid hqc
 have HT:=Lib.hid htc
 have HL:=Lib.hid hle
 have HU:=Lib.hid hr
 clear hE hq hqc htc hle hs hr
 by_cases hsh:s.q.length=r.ranks.length
 ·have hsi:(s.q.length:Int)=(r.ranks.length:Int):=by omega
  have HF:a3k r s.q.length:=by rw [hsh];exact HU.out.feed
  have gm:=c9x r s hn hsh.symm HF
  have i5:=v9_ s.time 0 604800
  have HSH:=Lib.hid hsh
  have HFF:=Lib.hid HF
  clear HF hsh
  refine c0_ Tryz.func55 rfl (by kernel_rfl) (by kernel_rfl) rfl fun M0 w0=>?_
  simp only [Tryz.ntmps55,Tryz.results55,b4_]
  repeat' (first|(with_reducible first|apply a9_|apply a3_|apply b0_|apply a8_|apply a1_|refine a2_ [5] ?_)|((with_reducible refine a5_ ?_ ?_);(focus (go_simp;done)))|((with_reducible refine a0_ fun X Y=>?_);go_simp;refine Y _ ?_;clear Y X))
  apply s5_ [2,3] (fun k=>[(6,I k),(5,.osl 0)]) (fun k=>([some (.arr 9 1 (decide (j2_ s k=[])) ((j2_ s k).map p1_))] : Hp)) (fun k=>!decide (p8_ r s k=0)) (s.q.length)
  ·go_simp<;>exact rfl
  ·go_simp
  ·intro m hm HB HP K hK
   obtain ⟨w1,w2,w3,w4,w5,w6⟩:=ixs (m:=m) (by omega)
   have hmr:m < r.ranks.length:=by have:=HSH.out;omega
   have hql:=HQ.out m hm
   have hrl:=HL.out m (by omega)
   have hp:p8_ r s m=0:=by simpa using HP.out
   unfold p8_ at hp
   have hpl:¬(rat r.ranks m).places < ((qat s.q m).length:Int):=fun h=>by rw [if_pos h] at hp;simp at hp
   rw [if_neg hpl,a1n] at hp
   have HPP:=Lib.hid hp
   have HK2:=Lib.hid (show j2_ s (m+1)=j2_ s m++qat s.q m from a4q hm)
   clear hp
   repeat' (first|(with_reducible first|apply a9_|apply a3_|apply b0_|apply a8_|apply a1_|refine a2_ [] ?_|apply a6_)|((with_reducible refine a7_ ?_ ?_);(focus (go_simp;done)))|((with_reducible refine a5_ ?_ ?_);(focus (go_simp;done)))|((with_reducible first|refine a0_ fun X Y=>?_|refine a4_ fun X Y=>?_);go_simp;refine Y _ ?_;clear Y X)|((refine b9_ 13 13 [] rfl (by kernel_rfl) (by kernel_rfl) ?_);simp only [List.take,List.drop]))
   apply s5_ [2,3,6] (fun k=>[(7,I k),(5,.osl 0)]) (fun k=>([some (.arr 9 1 (decide (j2_ s m++(qat s.q m).take k=[])) ((j2_ s m++(qat s.q m).take k).map p1_))] : Hp)) (fun j=>!decide (a4p (j2_ s m) (qat s.q m) j=0)) ((qat s.q m).length)
   ·go_simp<;>exact rfl
   ·go_simp
   ·intro j hj HB2 HP2 K2 hK2
    obtain ⟨x1,x2,x3,x4,x5,x6⟩:=ixs (m:=j) (by omega)
    have hp2:a4p (j2_ s m) (qat s.q m) j=0:=HPP.out j hj
    unfold a4p at hp2
    have hc:=z6_.1 hp2
    have g1:=a0g (tat (qat s.q m) j) (by have:=HC.out m hm j hj;omega)
    have g2:=m0_ (j2_ s m++(qat s.q m).take j) (tat (qat s.q m) j) (by rw [List.length_append,List.length_take];omega)
    rw [b1s,show inL (tat (qat s.q m) j) (j2_ s m++(qat s.q m).take j)=false by rw [←Bool.not_eq_true,a4o];exact hc.2] at g2
    rw [hc.1] at g1
    have hat:=(b8_ hj).symm
    have hts:(qat s.q m).take (j+1)=(qat s.q m).take j++[tat (qat s.q m) j]:=by rw [r0_ hj,b8_ hj]
    have hbl:(j2_ s m++(qat s.q m).take j).length+1≤1000000000:=by rw [List.length_append,List.length_take];omega
    rw [hts,←List.append_assoc] at hK2
    clear hp2 hc hts
    generalize j2_ s m++(qat s.q m).take j=L at *
    generalize tat (qat s.q m) j=C at *
    repeat' (first|(with_reducible first|apply a9_|apply a3_|apply b0_|apply a8_|apply b3_|apply a1_|refine a2_ [] ?_)|((with_reducible refine a7_ ?_ ?_);(focus (go_simp;done)))|((with_reducible refine a5_ ?_ ?_);(focus (go_simp;done)))|((with_reducible refine a0_ fun X Y=>?_);go_simp;(first|(with_reducible refine ⟨_,g1,?_⟩)|(refine ⟨_,⟨g2,rfl⟩,?_⟩)|skip);refine Y _ ?_;clear Y X))
    refine hK2 _ ?_
    go_simp
   ·intro j hj HB2 HP2 K2
    have h1:a4p (j2_ s m) (qat s.q m) j=0:=HPP.out j hj
    have h2:=HP2.out
    rw [h1] at h2
    cases h2
   ·intro HB2 K2
    rw [HK2.out] at hK
    rw [List.take_length]
    repeat' (first|(with_reducible first|apply a9_|apply a3_|apply c2_|apply d0_|apply b3_|apply b7_|apply a1_|refine a2_ [] ?_)|((with_reducible refine a5_ ?_ ?_);(focus (go_simp;done)))|((with_reducible refine a0_ fun X Y=>?_);go_simp;refine Y _ ?_;clear Y X))
    refine hK _ ?_
    go_simp
  ·intro m hm HB HP K
   obtain ⟨w1,w2,w3,w4,w5,w6⟩:=ixs (m:=m) (by omega)
   have hmr:m < r.ranks.length:=by have:=HSH.out;omega
   have hql:=HQ.out m hm
   have hrl:=HL.out m (by omega)
   have e:=d6d HSH.out hm HB.out HP.out
   have hp:¬p8_ r s m=0:=by simpa using HP.out
   rw [HE.out] at e
   unfold p8_ at e hp
   by_cases hpl:(rat r.ranks m).places < ((qat s.q m).length:Int)
   ·rw [if_pos hpl] at e
    subst e
    clear hp
    repeat' (first|(with_reducible first|apply a9_|apply a3_|apply b1_|apply c4_|apply b0_|apply a8_|apply c7_|apply a1_|refine a2_ [] ?_|apply a6_)|((with_reducible refine a7_ ?_ ?_);(focus (go_simp;done)))|((with_reducible first|refine a0_ fun X Y=>?_|refine a4_ fun X Y=>?_);go_simp;refine Y _ ?_;clear Y X)|((refine b9_ 13 13 [] rfl (by kernel_rfl) (by kernel_rfl) ?_);simp only [List.take,List.drop]))
    go_simp
   rw [if_neg hpl] at e hp
   have HEE:=Lib.hid e
   have HPP:=Lib.hid hp
   clear e hp
   repeat' (first|(with_reducible first|apply a9_|apply a3_|apply b0_|apply a8_|apply a1_|refine a2_ [] ?_|apply a6_)|((with_reducible refine a7_ ?_ ?_);(focus (go_simp;done)))|((with_reducible refine a5_ ?_ ?_);(focus (go_simp;done)))|((with_reducible first|refine a0_ fun X Y=>?_|refine a4_ fun X Y=>?_);go_simp;refine Y _ ?_;clear Y X)|((refine b9_ 13 13 [] rfl (by kernel_rfl) (by kernel_rfl) ?_);simp only [List.take,List.drop]))
   apply s5_ [2,3,6] (fun k=>[(7,I k),(5,.osl 0)]) (fun k=>([some (.arr 9 1 (decide (j2_ s m++(qat s.q m).take k=[])) ((j2_ s m++(qat s.q m).take k).map p1_))] : Hp)) (fun j=>!decide (a4p (j2_ s m) (qat s.q m) j=0)) ((qat s.q m).length)
   ·go_simp<;>exact rfl
   ·go_simp
   ·intro j hj HB2 HP2 K2 hK2
    obtain ⟨x1,x2,x3,x4,x5,x6⟩:=ixs (m:=j) (by omega)
    have hp2:a4p (j2_ s m) (qat s.q m) j=0:=by simpa using HP2.out
    unfold a4p at hp2
    have hc:=z6_.1 hp2
    have g1:=a0g (tat (qat s.q m) j) (by have:=HC.out m hm j hj;omega)
    have g2:=m0_ (j2_ s m++(qat s.q m).take j) (tat (qat s.q m) j) (by rw [List.length_append,List.length_take];omega)
    rw [b1s,show inL (tat (qat s.q m) j) (j2_ s m++(qat s.q m).take j)=false by rw [←Bool.not_eq_true,a4o];exact hc.2] at g2
    rw [hc.1] at g1
    have hat:=(b8_ hj).symm
    have hts:(qat s.q m).take (j+1)=(qat s.q m).take j++[tat (qat s.q m) j]:=by rw [r0_ hj,b8_ hj]
    have hbl:(j2_ s m++(qat s.q m).take j).length+1≤1000000000:=by rw [List.length_append,List.length_take];omega
    rw [hts,←List.append_assoc] at hK2
    clear hp2 hc hts
    generalize j2_ s m++(qat s.q m).take j=L at *
    generalize tat (qat s.q m) j=C at *
    repeat' (first|(with_reducible first|apply a9_|apply a3_|apply b0_|apply a8_|apply b3_|apply a1_|refine a2_ [] ?_)|((with_reducible refine a7_ ?_ ?_);(focus (go_simp;done)))|((with_reducible refine a5_ ?_ ?_);(focus (go_simp;done)))|((with_reducible refine a0_ fun X Y=>?_);go_simp;(first|(with_reducible refine ⟨_,g1,?_⟩)|(refine ⟨_,⟨g2,rfl⟩,?_⟩)|skip);refine Y _ ?_;clear Y X))
    refine hK2 _ ?_
    go_simp
   ·intro j hj HB2 HP2 K2
    obtain ⟨x1,x2,x3,x4,x5,x6⟩:=ixs (m:=j) (by omega)
    have e:E=b8u (a4p (j2_ s m) (qat s.q m)) (qat s.q m).length:=HEE.out
    rw [a4a hj HB2.out HP2.out] at e
    unfold a4p at e
    have g1:=a0g (tat (qat s.q m) j) (by have:=HC.out m hm j hj;omega)
    have g2:=m0_ (j2_ s m++(qat s.q m).take j) (tat (qat s.q m) j) (by rw [List.length_append,List.length_take];omega)
    rw [b1s] at g2
    have hat:=(b8_ hj).symm
    have hnz:¬b9w (tat (qat s.q m) j) (j2_ s m++(qat s.q m).take j)=0:=fun h=>by
     have h2:=HP2.out
     rw [show a4p (j2_ s m) (qat s.q m) j=0 from h] at h2
     cases h2
    generalize j2_ s m++(qat s.q m).take j=L at *
    generalize tat (qat s.q m) j=C at *
    cases hD:c8_ C
    ·rw [c2a hD] at e
     rw [hD] at g1
     subst e
     clear hnz
     repeat' (first|(with_reducible first|apply a9_|apply a3_|apply b1_|apply c4_|apply b0_|apply a8_|apply c7_|apply a1_|refine a2_ [] ?_)|((with_reducible refine a7_ ?_ ?_);(focus (go_simp;done)))|((with_reducible refine a0_ fun X Y=>?_);go_simp;(first|(with_reducible refine ⟨_,g1,?_⟩)|skip);refine Y _ ?_;clear Y X))
     go_simp
    ·rw [hD] at g1
     cases hI:inL C L
     ·rw [c2c hD hI] at hnz
      exact absurd rfl hnz
     ·rw [c2b hD hI] at e
      rw [hI] at g2
      subst e
      clear hnz
      repeat' (first|(with_reducible first|apply a9_|apply a3_|apply b1_|apply c4_|apply b0_|apply a8_|apply c7_|apply a1_|refine a2_ [] ?_)|((with_reducible refine a7_ ?_ ?_);(focus (go_simp;done)))|((with_reducible refine a5_ ?_ ?_);(focus (go_simp;done)))|((with_reducible refine a0_ fun X Y=>?_);go_simp;(first|(with_reducible refine ⟨_,g1,?_⟩)|(refine ⟨_,⟨g2,rfl⟩,?_⟩)|skip);refine Y _ ?_;clear Y X))
      go_simp
   ·intro HB2 K2
    exfalso
    exact HPP.out (a2v HB2.out)
  ·intro HB K
   have HBQ:=HB
   clear HB
   by_cases h4:(s.tk.length:Int)≤40
   ·have h40:¬(40:Int) < (s.tk.length:Int):=by omega
    have hnil:decide (j2_ s s.q.length=[])=decide (w7_ s 0=[]):=by rw [c9z]
    repeat' (first|(with_reducible first|apply a9_|apply a3_|apply c2_|apply b0_|apply d0_|apply a8_|apply b7_|apply a1_|refine a2_ [] ?_)|((with_reducible refine a5_ ?_ ?_);(focus (go_simp;done)))|((with_reducible refine a0_ fun X Y=>?_);go_simp;refine Y _ ?_;clear Y X))
    apply s5_ [2,3] (fun k=>[(8,I k),(5,.osl 0)]) (fun k=>([some (.arr 9 1 (decide (w7_ s k=[])) ((w7_ s k).map p1_))] : Hp)) (fun k=>!decide (a1m r s k=0)) (s.tk.length)
    ·go_simp<;>exact rfl
    ·go_simp
    ·intro k hk HB HP K hK
     obtain ⟨w1,w2,w3,w4,w5,w6⟩:=ixs (m:=k) (by omega)
     have hp:a1m r s k=0:=by simpa using HP.out
     obtain ⟨⟨c1,c2⟩,c3,c4,c5⟩:=b8d hp
     have hsl:=b6k HQ.out k (by omega)
     have hbl:(w7_ s k).length+1≤1000000000:=by omega
     have g1:=a0g (e4_ s.tk k).car (by have:=HT.out k hk;omega)
     have g2:=m0_ (w7_ s k) (e4_ s.tk k).car (by omega)
     have g3:=a5n r (e4_ s.tk k).rank hn
     have g4:=v9_ (e4_ s.tk k).time 0 s.time
     rw [b1s,show inL (e4_ s.tk k).car (w7_ s k)=false by rw [←Bool.not_eq_true,a4o];exact c2] at g2
     rw [c1] at g1
     rw [c3] at g3
     rw [c4] at g4
     rw [b8c hk] at hK
     clear hp c1 c2 c3 c4 hsl
     generalize w7_ s k=L at *
     rcases k with _|p
     ·clear c5
      repeat' (first|(with_reducible first|apply a9_|apply a3_|apply b0_|apply a8_|apply b3_|apply a1_|refine a2_ [] ?_|apply a6_)|((with_reducible refine a7_ ?_ ?_);(focus (go_simp;done)))|((with_reducible refine a5_ ?_ ?_);(focus (go_simp;done)))|((with_reducible first|refine a0_ fun X Y=>?_|refine a4_ fun X Y=>?_);go_simp;(first|(with_reducible refine ⟨_,g1,?_⟩)|(refine ⟨_,⟨g2,rfl⟩,?_⟩)|(refine ⟨_,g3,?_⟩)|(with_reducible refine ⟨_,g4,?_⟩)|skip);refine Y _ ?_;clear Y X)|((refine b9_ 14 14 [] rfl (by kernel_rfl) (by kernel_rfl) ?_);simp only [List.take,List.drop]))
      refine hK _ ?_
      go_simp
     ·have ho:¬(e4_ s.tk (p+1)).time < (e4_ s.tk p).time:=by
       have:p+1 - 1=p:=by omega
       rw [this] at c5
       omega
      obtain ⟨x1,x2,x3,x4,x5,x6⟩:=ixs (m:=p) (by omega)
      have hpl:p < s.tk.length:=by omega
      have hpl2:(p:Int)+1 < (s.tk.length:Int):=by omega
      have hpl3:¬(p:Int)+1≤0:=by omega
      have hpl4:(0:Int) < (p:Int)+1:=by omega
      clear c5
      repeat' (first|(with_reducible first|apply a9_|apply a3_|apply b0_|apply a8_|apply b3_|apply a1_|refine a2_ [] ?_|apply a6_)|((with_reducible refine a7_ ?_ ?_);(focus (go_simp;done)))|((with_reducible refine a5_ ?_ ?_);(focus (go_simp;done)))|((with_reducible first|refine a0_ fun X Y=>?_|refine a4_ fun X Y=>?_);go_simp;(first|(with_reducible refine ⟨_,g1,?_⟩)|(refine ⟨_,⟨g2,rfl⟩,?_⟩)|(refine ⟨_,g3,?_⟩)|(with_reducible refine ⟨_,g4,?_⟩)|skip);refine Y _ ?_;clear Y X)|((refine b9_ 14 14 [] rfl (by kernel_rfl) (by kernel_rfl) ?_);simp only [List.take,List.drop]))
      refine hK _ ?_
      go_simp
    ·intro k hk HB HP K
     obtain ⟨w1,w2,w3,w4,w5,w6⟩:=ixs (m:=k) (by omega)
     have e:=d6f HSH.out HBQ.out h4 hk HB.out HP.out
     have hp:¬a1m r s k=0:=by simpa using HP.out
     rw [HE.out] at e
     have hsl:=b6k HQ.out k (by omega)
     have g1:=a0g (e4_ s.tk k).car (by have:=HT.out k hk;omega)
     have g2:=m0_ (w7_ s k) (e4_ s.tk k).car (by omega)
     have g3:=a5n r (e4_ s.tk k).rank hn
     have g4:=v9_ (e4_ s.tk k).time 0 s.time
     rw [b1s] at g2
     unfold a1m at e hp
     rw [show s.q.flatten++(s.tk.take k).map (·.car)=w7_ s k from rfl] at e hp
     clear hsl
     generalize w7_ s k=L at *
     cases hD:c8_ (e4_ s.tk k).car
     ·rw [c2a hD] at e
      rw [hD] at g1
      have e2:E=4:=by rw [e];rfl
      subst e2
      clear hp e
      repeat' (first|(with_reducible first|apply a9_|apply a3_|apply b1_|apply c4_|apply b0_|apply a8_|apply c7_|apply a1_|refine a2_ [] ?_)|((with_reducible refine a7_ ?_ ?_);(focus (go_simp;done)))|((with_reducible refine a0_ fun X Y=>?_);go_simp;(first|(with_reducible refine ⟨_,g1,?_⟩)|skip);refine Y _ ?_;clear Y X))
      go_simp
     rw [hD] at g1
     by_cases hI':inL (e4_ s.tk k).car L=true
     ·have hI:=hI'
      rw [c2b hD hI] at e
      rw [hI] at g2
      have e2:E=5:=by rw [e];rfl
      subst e2
      clear hp e
      repeat' (first|(with_reducible first|apply a9_|apply a3_|apply b1_|apply c4_|apply b0_|apply a8_|apply c7_|apply a1_|refine a2_ [] ?_)|((with_reducible refine a7_ ?_ ?_);(focus (go_simp;done)))|((with_reducible refine a5_ ?_ ?_);(focus (go_simp;done)))|((with_reducible refine a0_ fun X Y=>?_);go_simp;(first|(with_reducible refine ⟨_,g1,?_⟩)|(refine ⟨_,⟨g2,rfl⟩,?_⟩)|skip);refine Y _ ?_;clear Y X))
      go_simp
     have hI:inL (e4_ s.tk k).car L=false:=by simpa using hI'
     clear hI'
     rw [c2c hD hI] at e hp
     rw [hI] at g2
     cases hR:inR (e4_ s.tk k).rank 0 ((r.ranks.length:Int) - 1)
     ·rw [hR] at e g3
      have e2:E=6:=by rw [e];rfl
      subst e2
      clear hp e
      repeat' (first|(with_reducible first|apply a9_|apply a3_|apply b1_|apply c4_|apply b0_|apply a8_|apply c7_|apply a1_|refine a2_ [] ?_)|((with_reducible refine a7_ ?_ ?_);(focus (go_simp;done)))|((with_reducible refine a5_ ?_ ?_);(focus (go_simp;done)))|((with_reducible refine a0_ fun X Y=>?_);go_simp;(first|(with_reducible refine ⟨_,g1,?_⟩)|(refine ⟨_,⟨g2,rfl⟩,?_⟩)|(refine ⟨_,g3,?_⟩)|skip);refine Y _ ?_;clear Y X))
      go_simp
     rw [hR] at e g3 hp
     cases hM:inR (e4_ s.tk k).time 0 s.time
     ·rw [hM] at e g4
      have e2:E=2:=by rw [e];rfl
      subst e2
      clear hp e
      repeat' (first|(with_reducible first|apply a9_|apply a3_|apply b1_|apply c4_|apply b0_|apply a8_|apply c7_|apply a1_|refine a2_ [] ?_)|((with_reducible refine a7_ ?_ ?_);(focus (go_simp;done)))|((with_reducible refine a5_ ?_ ?_);(focus (go_simp;done)))|((with_reducible refine a0_ fun X Y=>?_);go_simp;(first|(with_reducible refine ⟨_,g1,?_⟩)|(refine ⟨_,⟨g2,rfl⟩,?_⟩)|(refine ⟨_,g3,?_⟩)|(with_reducible refine ⟨_,g4,?_⟩)|skip);refine Y _ ?_;clear Y X))
      go_simp
     rw [hM] at e g4 hp
     rcases k with _|p
     ·exact absurd rfl hp
     ·have hsub:p+1 - 1=p:=by omega
      rw [hsub] at e hp
      have ho:(e4_ s.tk (p+1)).time < (e4_ s.tk p).time:=by
       apply Classical.byContradiction
       intro hh
       rw [decide_eq_true (by omega:(e4_ s.tk p).time≤(e4_ s.tk (p+1)).time),Bool.or_true] at hp
       exact hp rfl
      obtain ⟨x1,x2,x3,x4,x5,x6⟩:=ixs (m:=p) (by omega)
      have hpl:p < s.tk.length:=by omega
      have hpl2:(p:Int)+1 < (s.tk.length:Int):=by omega
      have hpl3:¬(p:Int)+1≤0:=by omega
      have hpl4:(0:Int) < (p:Int)+1:=by omega
      have e2:E=9:=by rw [e,decide_eq_false (by omega:¬(e4_ s.tk p).time≤(e4_ s.tk (p+1)).time),decide_eq_false (by omega:¬p+1=0)];rfl
      subst e2
      clear hp e
      repeat' (first|(with_reducible first|apply a9_|apply a3_|apply b1_|apply c4_|apply b0_|apply a8_|apply c7_|apply a1_|refine a2_ [] ?_|apply a6_)|((with_reducible refine a7_ ?_ ?_);(focus (go_simp;done)))|((with_reducible refine a5_ ?_ ?_);(focus (go_simp;done)))|((with_reducible first|refine a0_ fun X Y=>?_|refine a4_ fun X Y=>?_);go_simp;(first|(with_reducible refine ⟨_,g1,?_⟩)|(refine ⟨_,⟨g2,rfl⟩,?_⟩)|(refine ⟨_,g3,?_⟩)|(with_reducible refine ⟨_,g4,?_⟩)|skip);refine Y _ ?_;clear Y X)|((refine b9_ 14 14 [] rfl (by kernel_rfl) (by kernel_rfl) ?_);simp only [List.take,List.drop]))
      go_simp
    ·intro HB K
     have e:=d6g HSH.out HBQ.out h4 HB.out
     rw [HE.out] at e
     cases hM:inR s.time 0 604800
     ·rw [hM] at e i5
      have e2:E=2:=by rw [e];rfl
      subst e2
      clear e
      repeat' (first|(with_reducible first|apply a9_|apply a3_|apply c2_|apply b1_|apply c4_|apply d0_|apply b7_|apply a1_|refine a2_ [] ?_)|((with_reducible refine a7_ ?_ ?_);(focus (go_simp;done)))|((with_reducible refine a5_ ?_ ?_);(focus (go_simp;done)))|((with_reducible refine a0_ fun X Y=>?_);go_simp;(first|(with_reducible refine ⟨_,i5,?_⟩)|skip);refine Y _ ?_;clear Y X))
      go_simp
     ·rw [hM] at e i5
      by_cases hx:k6_ r s < 0
      ·rw [decide_eq_true hx] at e
       have e2:E=0:=by rw [e];rfl
       subst e2
       have hx2:¬0≤k6_ r s:=by omega
       clear e
       generalize k6_ r s=NX at *
       repeat' (first|(with_reducible first|apply a9_|apply a3_|apply c2_|apply c4_|apply b0_|apply d0_|apply b7_|apply a1_|refine a2_ [] ?_)|((with_reducible refine a5_ ?_ ?_);(focus (go_simp;done)))|((with_reducible refine a0_ fun X Y=>?_);go_simp;(first|(with_reducible refine ⟨_,i5,?_⟩)|(refine ⟨_,gm,?_⟩)|skip);refine Y _ ?_;clear Y X))
       go_simp
      ·rw [decide_eq_false hx] at e
       have e2:E=22:=by rw [e];rfl
       subst e2
       have hx2:0≤k6_ r s:=by omega
       clear e
       generalize k6_ r s=NX at *
       repeat' (first|(with_reducible first|apply a9_|apply a3_|apply c2_|apply b1_|apply c4_|apply b0_|apply d0_|apply b7_|apply a1_|refine a2_ [] ?_)|((with_reducible refine a7_ ?_ ?_);(focus (go_simp;done)))|((with_reducible refine a5_ ?_ ?_);(focus (go_simp;done)))|((with_reducible refine a0_ fun X Y=>?_);go_simp;(first|(with_reducible refine ⟨_,i5,?_⟩)|(refine ⟨_,gm,?_⟩)|skip);refine Y _ ?_;clear Y X))
       go_simp
   ·have h40:(40:Int) < (s.tk.length:Int):=by omega
    have e:=d6e HSH.out HBQ.out h4
    rw [HE.out] at e
    subst e
    repeat' (first|(with_reducible first|apply a9_|apply a3_|apply c2_|apply b1_|apply c4_|apply d0_|apply b7_|apply a1_|refine a2_ [] ?_)|((with_reducible refine a7_ ?_ ?_);(focus (go_simp;done)))|((with_reducible refine a5_ ?_ ?_);(focus (go_simp;done)))|((with_reducible refine a0_ fun X Y=>?_);go_simp;refine Y _ ?_;clear Y X))
    go_simp
 ·have hsi:¬(s.q.length:Int)=(r.ranks.length:Int):=by omega
  have e:o7_ r s=10:=by
   unfold o7_
   rw [decide_eq_false hsh]
   rfl
  rw [HE.out] at e
  subst e
  refine c0_ Tryz.func55 rfl (by kernel_rfl) (by kernel_rfl) rfl fun M0 w0=>?_
  simp only [Tryz.ntmps55,Tryz.results55,b4_]
  repeat' (first|(with_reducible first|apply a9_|apply a3_|apply b1_|apply c4_|apply a1_|refine a2_ [] ?_)|((with_reducible refine a7_ ?_ ?_);(focus (go_simp;done)))|((with_reducible refine a0_ fun X Y=>?_);go_simp;refine Y _ ?_;clear Y X))
  go_simp
end Go.Proofs.YtoibondihdhnoaaGreatDoor
namespace Go.Proofs.YtoibondihdhnoaaGreatDoor
open Go.RowKit
set_option maxRecDepth 100000
set_option maxHeartbeats 4000000
def d6h (L:List ByteArray) : KV:=L.foldl (fun m c=>a7b (.string c) (.bool true) m) []
@[go_sem] theorem d5u:d6h []=[]:=rfl
theorem VC.args {P:Program} {f:FuncId} {args args':List AV} {r:AV} (h:VC P f args r) (hl:args'.length=args.length) (ha:∀ (i:Nat) (a a':AV),args[i]? = some a→args'[i]? = some a'→∀ (w:World) (M:Nat→Nat→Prop) (v:Value),V0 w M a' v→V0 w M a v) : VC P f args' r:=
 ⟨h.1,fun w M vs hM hvl hv=>h.2 w M vs hM (hvl.trans hl) fun i a v hi hvi=>by
  have hlt:i < args'.length:=by
   rw [hl]
   exact (List.getElem?_eq_some_iff.1 hi).1
  exact ha i a _ hi (List.getElem?_eq_getElem hlt) w M v (hv i _ v (List.getElem?_eq_getElem hlt) hvi)⟩
end Go.Proofs.YtoibondihdhnoaaGreatDoor
namespace Go.Proofs.YtoibondihdhnoaaGreatDoor
open Go.RowKit
set_option maxRecDepth 100000
set_option maxHeartbeats 4000000
end Go.Proofs.YtoibondihdhnoaaGreatDoor
namespace Go.Proofs.YtoibondihdhnoaaGreatDoor
open Go.RowKit
set_option maxRecDepth 100000
set_option maxHeartbeats 4000000
def ckE (r:Ru) (s:St) : Int:=if (g7_ r).2≠0 then (g7_ r).2 else o7_ r s
theorem b8e (r:Ru) (s:St) (hn:r.ranks.length≤1000000) (hnm:∀ k,k < r.ranks.length→(rat r.ranks k).name.size≤1000) (hs:SmallS s) : VC Tryz.prog 65 [e0_ r,i0_ s] (I (ckE r s)):=by
 have g1:=b8b r hn hnm
 unfold ckE
 by_cases h0:(g7_ r).2=0
 ·rw [if_neg (by simp [h0])]
  have g2:=b1t r s (a4r h0).1 hn hs
  rw [h0] at g1
  generalize o7_ r s=C at *
  clear h0 hnm hs
  refine c0_ Tryz.func65 rfl (by kernel_rfl) (by kernel_rfl) rfl fun M0 w0=>?_
  simp only [Tryz.ntmps65,Tryz.results65,b4_]
  repeat' (first|(with_reducible first|apply a9_|apply a3_|apply c4_|apply b0_|apply a1_|refine a2_ [] ?_)|((with_reducible refine a5_ ?_ ?_);(focus (go_simp;done)))|((with_reducible refine a0_ fun X Y=>?_);go_simp;(first|(refine ⟨_,g1,?_⟩)|(refine ⟨_,g2,?_⟩)|skip);refine Y _ ?_;clear Y X))
  go_simp
 ·rw [if_pos h0]
  generalize (g7_ r).2=C at *
  refine c0_ Tryz.func65 rfl (by kernel_rfl) (by kernel_rfl) rfl fun M0 w0=>?_
  simp only [Tryz.ntmps65,Tryz.results65,b4_]
  repeat' (first|(with_reducible first|apply a9_|apply a3_|apply b1_|apply c4_|apply a1_|refine a2_ [] ?_)|((with_reducible refine a7_ ?_ ?_);(focus (go_simp;done)))|((with_reducible refine a0_ fun X Y=>?_);go_simp;(first|(refine ⟨_,g1,?_⟩)|skip);refine Y _ ?_;clear Y X))
  go_simp
def a3h (l:List ByteArray) (j:Nat) : Bool:=decide (20 < (tat l j).size)
def b3v (s:St) (k:Nat) : Bool:=decide (14 < (qat s.q k).length) || t8_ (a3h (qat s.q k)) 0 (qat s.q k).length
def b3w (s:St) (k:Nat) : Bool:=decide (20 < (e4_ s.tk k).car.size)
def a5o (s:St) : Bool:=decide (s.q.length≤8∧(s.tk.length≤8∨40 < s.tk.length∧s.tk.length≤42))&&!t8_ (b3v s) 0 s.q.length&&!t8_ (b3w s) 0 s.tk.length
theorem d0a (s:St) (hq:s.q.length≤9223372036854775807) (ht:s.tk.length≤9223372036854775807) : VC Tryz.prog 51 [i0_ s] (B (a5o s)):=by
 unfold a5o
 by_cases h8:s.q.length≤8∧(s.tk.length≤8∨40 < s.tk.length∧s.tk.length≤42)
 ·obtain ⟨h1,h2⟩:=h8
  rw [decide_eq_true (show s.q.length≤8∧(s.tk.length≤8∨40 < s.tk.length∧s.tk.length≤42) from ⟨h1,h2⟩),Bool.true_and]
  have h3:¬(8:Int) < (s.q.length:Int):=by omega
  have h42:¬(42:Int) < (s.tk.length:Int):=by omega
  have hb:(8:Int) < (s.tk.length:Int)→¬(s.tk.length:Int)≤40:=by omega
  have htl:s.tk.length≤42:=by omega
  obtain ⟨R1,hR1⟩ : ∃ R,t8_ (b3v s) 0 s.q.length=R:=⟨_,rfl⟩
  obtain ⟨R2,hR2⟩ : ∃ R,t8_ (b3w s) 0 s.tk.length=R:=⟨_,rfl⟩
  rw [hR1,hR2]
  have HR1:=Lib.hid hR1
  have HR2:=Lib.hid hR2
  have HQL:=Lib.hid h1
  have HTL:=Lib.hid htl
  clear h1 h2 hq ht hR1 hR2 htl
  by_cases h5:(8:Int) < (s.tk.length:Int)
  all_goals (
   first
    | (have h6:=hb h5)
    | skip
   clear hb
   refine c0_ Tryz.func51 rfl (by kernel_rfl) (by kernel_rfl) rfl fun M0 w0=>?_
   simp only [Tryz.ntmps51,Tryz.results51,b4_]
   repeat' (first|(with_reducible first|apply a9_|apply a3_|apply b0_|apply a8_|apply a1_|refine a2_ [] ?_)|((with_reducible refine a5_ ?_ ?_);(focus (go_simp;done)))|((with_reducible refine a0_ fun X Y=>?_);go_simp;refine Y _ ?_;clear Y X))
   apply s5_ [1] (fun k=>[(3,I k)]) (fun k=>([] : Hp)) (b3v s) (s.q.length)
   ·go_simp<;>exact rfl
   ·go_simp
   ·intro m hm HB HP K hK
    have:=HQL.out
    obtain ⟨w1,w2,w3,w4,w5,w6⟩:=ixs (m:=m) (by omega)
    have hp:=HP.out
    unfold b3v at hp
    rw [Bool.or_eq_false_iff,decide_eq_false_iff_not] at hp
    obtain ⟨hp1,hp2⟩:=hp
    have hp3:¬(14:Int) < ((qat s.q m).length:Int):=by omega
    have HP2:=Lib.hid hp2
    have HP1:=Lib.hid hp1
    clear hp1 hp2 this
    repeat' (first|(with_reducible first|apply a9_|apply a3_|apply b0_|apply a8_|apply a1_|refine a2_ [] ?_)|((with_reducible refine a7_ ?_ ?_);(focus (go_simp;done)))|((with_reducible refine a5_ ?_ ?_);(focus (go_simp;done)))|((with_reducible refine a0_ fun X Y=>?_);go_simp;refine Y _ ?_;clear Y X))
    apply s5_ [1,3] (fun k=>[(4,I k)]) (fun k=>([] : Hp)) (a3h (qat s.q m)) ((qat s.q m).length)
    ·go_simp<;>exact rfl
    ·go_simp
    ·intro j hj HB2 HPj K2 hK2
     have:=HP1.out
     obtain ⟨x1,x2,x3,x4,x5,x6⟩:=ixs (m:=j) (by omega)
     have hpj:=HPj.out
     rw [a3h,decide_eq_false_iff_not,b8_ hj] at hpj
     have hpk:¬(20:Int) < ((qat s.q m)[j].size:Int):=by omega
     clear hpj this
     repeat' (first|(with_reducible first|apply a9_|apply a3_|apply b0_|apply a8_|apply b3_|apply a1_|refine a2_ [] ?_)|((with_reducible refine a7_ ?_ ?_);(focus (go_simp;done)))|((with_reducible refine a5_ ?_ ?_);(focus (go_simp;done)))|((with_reducible refine a0_ fun X Y=>?_);go_simp;refine Y _ ?_;clear Y X))
     refine hK2 _ ?_
     go_simp
    ·intro j hj HB2 HPj K2
     have h:=HP2.out
     rw [f9_ hj HPj.out] at h
     cases h
    ·intro HB2 K2
     repeat' (first|(with_reducible first|apply a9_|apply a3_|apply c2_|apply d0_|apply b3_|apply b7_|apply a1_|refine a2_ [] ?_)|((with_reducible refine a5_ ?_ ?_);(focus (go_simp;done)))|((with_reducible refine a0_ fun X Y=>?_);go_simp;refine Y _ ?_;clear Y X))
     refine hK _ ?_
     go_simp
   ·intro m hm HB HP K
    have:=HQL.out
    obtain ⟨w1,w2,w3,w4,w5,w6⟩:=ixs (m:=m) (by omega)
    have e:=HR1.out
    rw [f9_ hm HP.out] at e
    subst e
    rw [Bool.not_true,Bool.false_and]
    have hp:=HP.out
    unfold b3v at hp
    by_cases hp1:14 < (qat s.q m).length
    ·have hp3:(14:Int) < ((qat s.q m).length:Int):=by omega
     clear hp hp1 this
     repeat' (first|(with_reducible first|apply a9_|apply a3_|apply b1_|apply c4_|apply b0_|apply a8_|apply c7_|apply a1_|refine a2_ [] ?_)|((with_reducible refine a7_ ?_ ?_);(focus (go_simp;done)))|((with_reducible refine a0_ fun X Y=>?_);go_simp;refine Y _ ?_;clear Y X))
     go_simp
    ·rw [decide_eq_false hp1,Bool.false_or] at hp
     have hp3:¬(14:Int) < ((qat s.q m).length:Int):=by omega
     have HP2:=Lib.hid hp
     have HP1:=Lib.hid hp1
     clear hp hp1 this
     repeat' (first|(with_reducible first|apply a9_|apply a3_|apply b0_|apply a8_|apply a1_|refine a2_ [] ?_)|((with_reducible refine a7_ ?_ ?_);(focus (go_simp;done)))|((with_reducible refine a5_ ?_ ?_);(focus (go_simp;done)))|((with_reducible refine a0_ fun X Y=>?_);go_simp;refine Y _ ?_;clear Y X))
     apply s5_ [1,3] (fun k=>[(4,I k)]) (fun k=>([] : Hp)) (a3h (qat s.q m)) ((qat s.q m).length)
     ·go_simp<;>exact rfl
     ·go_simp
     ·intro j hj HB2 HPj K2 hK2
      have:=HP1.out
      obtain ⟨x1,x2,x3,x4,x5,x6⟩:=ixs (m:=j) (by omega)
      have hpj:=HPj.out
      rw [a3h,decide_eq_false_iff_not,b8_ hj] at hpj
      have hpk:¬(20:Int) < ((qat s.q m)[j].size:Int):=by omega
      clear hpj this
      repeat' (first|(with_reducible first|apply a9_|apply a3_|apply b0_|apply a8_|apply b3_|apply a1_|refine a2_ [] ?_)|((with_reducible refine a7_ ?_ ?_);(focus (go_simp;done)))|((with_reducible refine a5_ ?_ ?_);(focus (go_simp;done)))|((with_reducible refine a0_ fun X Y=>?_);go_simp;refine Y _ ?_;clear Y X))
      refine hK2 _ ?_
      go_simp
     ·intro j hj HB2 HPj K2
      have:=HP1.out
      obtain ⟨x1,x2,x3,x4,x5,x6⟩:=ixs (m:=j) (by omega)
      have hpj:=HPj.out
      rw [a3h,decide_eq_true_eq,b8_ hj] at hpj
      have hpk:(20:Int) < ((qat s.q m)[j].size:Int):=by omega
      clear hpj this
      repeat' (first|(with_reducible first|apply a9_|apply a3_|apply b1_|apply c4_|apply b0_|apply a8_|apply c7_|apply a1_|refine a2_ [] ?_)|((with_reducible refine a7_ ?_ ?_);(focus (go_simp;done)))|((with_reducible refine a0_ fun X Y=>?_);go_simp;refine Y _ ?_;clear Y X))
      go_simp
     ·intro HB2 K2
      have h:=HP2.out
      rw [f1_ HB2.out] at h
      cases h
   ·intro HB K
    have e:=HR1.out
    rw [f1_ HB.out] at e
    subst e
    rw [Bool.not_false,Bool.true_and]
    repeat' (first|(with_reducible first|apply a9_|apply a3_|apply c2_|apply d0_|apply a8_|apply b7_|apply a1_|refine a2_ [] ?_)|((with_reducible refine a5_ ?_ ?_);(focus (go_simp;done)))|((with_reducible refine a0_ fun X Y=>?_);go_simp;refine Y _ ?_;clear Y X))
    apply s5_ [1] (fun k=>[(5,I k)]) (fun k=>([] : Hp)) (b3w s) (s.tk.length)
    ·go_simp<;>exact rfl
    ·go_simp
    ·intro k hk HB2 HP K2 hK
     have:=HTL.out
     obtain ⟨w1,w2,w3,w4,w5,w6⟩:=ixs (m:=k) (by omega)
     have hp:=HP.out
     rw [b3w,decide_eq_false_iff_not] at hp
     have hp2:¬(20:Int) < ((e4_ s.tk k).car.size:Int):=by omega
     clear hp this
     repeat' (first|(with_reducible first|apply a9_|apply a3_|apply b0_|apply a8_|apply b3_|apply a1_|refine a2_ [] ?_)|((with_reducible refine a7_ ?_ ?_);(focus (go_simp;done)))|((with_reducible refine a5_ ?_ ?_);(focus (go_simp;done)))|((with_reducible refine a0_ fun X Y=>?_);go_simp;refine Y _ ?_;clear Y X))
     refine hK _ ?_
     go_simp
    ·intro k hk HB2 HP K2
     have:=HTL.out
     obtain ⟨w1,w2,w3,w4,w5,w6⟩:=ixs (m:=k) (by omega)
     have hp:=HP.out
     rw [b3w,decide_eq_true_eq] at hp
     have hp2:(20:Int) < ((e4_ s.tk k).car.size:Int):=by omega
     have e:=HR2.out
     rw [f9_ hk HP.out] at e
     subst e
     clear hp this
     repeat' (first|(with_reducible first|apply a9_|apply a3_|apply b1_|apply c4_|apply b0_|apply a8_|apply c7_|apply a1_|refine a2_ [] ?_)|((with_reducible refine a7_ ?_ ?_);(focus (go_simp;done)))|((with_reducible refine a0_ fun X Y=>?_);go_simp;refine Y _ ?_;clear Y X))
     go_simp
    ·intro HB2 K2
     have e:=HR2.out
     rw [f1_ HB2.out] at e
     subst e
     repeat' (first|(with_reducible first|apply a9_|apply a3_|apply c2_|apply c4_|apply d0_|apply b7_|apply a1_|refine a2_ [] ?_)|((with_reducible refine a5_ ?_ ?_);(focus (go_simp;done)))|((with_reducible refine a0_ fun X Y=>?_);go_simp;refine Y _ ?_;clear Y X))
     go_simp)
 ·rw [decide_eq_false h8,Bool.false_and,Bool.false_and]
  by_cases h1:(8:Int) < (s.q.length:Int)
  ·clear h8 hq ht
   refine c0_ Tryz.func51 rfl (by kernel_rfl) (by kernel_rfl) rfl fun M0 w0=>?_
   simp only [Tryz.ntmps51,Tryz.results51,b4_]
   repeat' (first|(with_reducible first|apply a9_|apply a3_|apply b1_|apply c4_|apply a1_|refine a2_ [] ?_)|((with_reducible refine a7_ ?_ ?_);(focus (go_simp;done)))|((with_reducible refine a0_ fun X Y=>?_);go_simp;refine Y _ ?_;clear Y X))
   go_simp
  ·by_cases h2:(42:Int) < (s.tk.length:Int)
   ·have h3:(8:Int) < (s.tk.length:Int):=by omega
    have h4:¬(s.tk.length:Int)≤40:=by omega
    clear h8 hq ht
    refine c0_ Tryz.func51 rfl (by kernel_rfl) (by kernel_rfl) rfl fun M0 w0=>?_
    simp only [Tryz.ntmps51,Tryz.results51,b4_]
    repeat' (first|(with_reducible first|apply a9_|apply a3_|apply b1_|apply c4_|apply a1_|refine a2_ [] ?_)|((with_reducible refine a7_ ?_ ?_);(focus (go_simp;done)))|((with_reducible refine a0_ fun X Y=>?_);go_simp;refine Y _ ?_;clear Y X))
    go_simp
   ·have h3:(8:Int) < (s.tk.length:Int):=by omega
    have h4:(s.tk.length:Int)≤40:=by omega
    clear h8 hq ht
    refine c0_ Tryz.func51 rfl (by kernel_rfl) (by kernel_rfl) rfl fun M0 w0=>?_
    simp only [Tryz.ntmps51,Tryz.results51,b4_]
    repeat' (first|(with_reducible first|apply a9_|apply a3_|apply b1_|apply c4_|apply a1_|refine a2_ [] ?_)|((with_reducible refine a7_ ?_ ?_);(focus (go_simp;done)))|((with_reducible refine a0_ fun X Y=>?_);go_simp;refine Y _ ?_;clear Y X))
    go_simp
theorem c5x {s:St} (h:a5o s=true) (ht:∀ t∈s.tk,i64 t.rank∧i64 t.time) (hm:i64 s.time) : SmallS s:=by
 unfold a5o at h
 simp only [Bool.and_eq_true,decide_eq_true_eq,Bool.not_eq_true'] at h
 obtain ⟨⟨⟨h1,h2⟩,h3⟩,h4⟩:=h
 have hno:∀ {p:Nat→Bool} {n:Nat},t8_ p 0 n=false→∀ k,k < n→p k=false:=fun {p n} hp k hk=>by
  cases hb:p k
  ·rfl
  ·rw [f9_ hk hb] at hp
   cases hp
 refine ⟨by omega,fun l hl=>?_,by omega,fun t htm=>?_,hm⟩
 ·obtain ⟨k,hk,rfl⟩:=List.getElem_of_mem hl
  have hq:=hno h3 k hk
  unfold b3v at hq
  rw [g4_ hk,Bool.or_eq_false_iff,decide_eq_false_iff_not] at hq
  refine ⟨by omega,fun c hc=>?_⟩
  obtain ⟨j,hj,rfl⟩:=List.getElem_of_mem hc
  have:=hno hq.2 j hj
  rw [a3h,decide_eq_false_iff_not,b8_ hj] at this
  omega
 ·obtain ⟨k,hk,rfl⟩:=List.getElem_of_mem htm
  have:=hno h4 k hk
  rw [b3w,decide_eq_false_iff_not,d6_ hk] at this
  exact ⟨by omega,ht _ htm⟩
end Go.Proofs.YtoibondihdhnoaaGreatDoor
