/- Texts in one: Walks: an event is carried out, and a log is gone through, as the reference has it. -/
import Derived.Test.YtoibondihdhnoaaDoorFRX57
import Derived.Test.YtoibondihdhnoaaDoorFRX34
import Derived.Test.YtoibondihdhnoaaDoorFRX33
import Derived.Test.YtoibondihdhnoaaDoorFRX37
import Derived.Test.YtoibondihdhnoaaDoorFRX48
import Derived.Test.YtoibondihdhnoaaDoorFRX58
import Derived.Test.YtoibondihdhnoaaDoorFRX47
import Derived.Test.YtoibondihdhnoaaDoorFRX42
namespace Go.Proofs.YtoibondihdhnoaaDoor
open Go.RowKit
set_option maxRecDepth 100000
set_option maxHeartbeats 4000000
theorem c9h (r:Ru) (s:St) (x:Ev) (hn:r.ranks.length≤1000000) (hr:RuOK r) (hi:Inv r s) (he:apE r s x=0) : VC Tryd.prog 46 [c4_ r,c9_ s,evA x] (.tup [c9_ (apU r s x).1,.sl 3 ((b6b x++(apU r s x).2).map Sg.av)]):=by
 obtain ⟨h1,h2,h3,h5,h6⟩:=parts he;have h4:=b5z h1;have hsm:=hi.small hr;have hrl:r.ranks.length=s.q.length:=hi.len.symm;have hk:x.rank.toNat < s.q.length:=by rw [hi.len];exact h6
 have hS:=c6z hr hi hk h4 h3;have hI:=hi.doS hr h1 h2 h5 h3;rw [←hS] at hI;have hB0:=a5g hr hI;have hnn:∃ n,f7_ 0 (d2e r s x x.rank.toNat).q≤n∧n2_ r n (d2e r s x x.rank.toNat) (c3f r s x x.rank.toNat)=((apU r s x).1,b6b x++(apU r s x).2):=by
  refine ⟨f7_ 0 (doS r s x x.rank.toNat).q,by rw [hS];exact Nat.le_refl _,?_⟩;rw [c7a,hS];rfl
 generalize (apU r s x).1=S2 at *;generalize b6b x++(apU r s x).2=M2 at *;clear hS he h1 h2;have hqs:∀ i,i < s.q.length→(qat s.q i).length≤1000000:=fun i hiq=>by
  have h1:=hi.fit i hiq;have h2:=hr.pl i (by omega);omega
 obtain ⟨kd,tm,rk,car⟩:=x;simp only at *;obtain ⟨k,rfl⟩ : ∃ k:Nat,rk=k:=⟨rk.toNat,h5⟩
 simp only [Int.toNat_natCast] at *;have hk6:kd=0∨kd=1∨kd=2∨kd=3∨kd=4∨kd=5:=by omega
 rcases hk6 with rfl|rfl|rfl|rfl|rfl|rfl
 ·exact d3q r s S2 tm k car M2 _ _ hn hr hsm hk hrl rfl rfl hI (by simp only [List.length_singleton];exact Nat.le_trans (Nat.add_le_add_left (Nat.mul_le_mul_left 2 hB0) 1) (by decide)) hnn
 ·exact d3r r s S2 tm k car M2 _ _ hn hr hsm hk hrl rfl rfl hI (by simp only [List.length_singleton];exact Nat.le_trans (Nat.add_le_add_left (Nat.mul_le_mul_left 2 hB0) 1) (by decide)) hnn
 ·exact d3t r s S2 tm k car M2 _ _ hn hr hsm hk hrl _ rfl (hr.bk) rfl rfl hI (by simp only [List.length_singleton];exact Nat.le_trans (Nat.add_le_add_left (Nat.mul_le_mul_left 2 hB0) 1) (by decide)) hnn
 ·exact d3s r s S2 tm k car M2 _ _ hn hr hsm hk hrl rfl rfl hI (by simp only [List.length_singleton];exact Nat.le_trans (Nat.add_le_add_left (Nat.mul_le_mul_left 2 hB0) 1) (by decide)) hnn
 ·have hE:w4_ r s k=0:=h3;have hff:(rat r.ranks k).feeder≠-1:=fun h=>by
   unfold w4_ at hE;rw [if_pos h] at hE;exact absurd hE (by decide)
  obtain ⟨p1,p2,p3⟩:=hr.feedN (by omega) hff;have hp:0 < (qat s.q (feedN r k)).length:=by
   unfold w4_ at hE;rw [if_neg hff,b2_,b2_] at hE;exact of_decide_eq_true (c7_ (by decide) hE.2.1)
  have hum:(upM s.q k (feedN r k)).length=2:=rfl;exact d3p r s S2 tm k car M2 _ _ _ hn hr hsm hk hrl (feedN r k) p1 (by omega) (by omega) hp hqs rfl rfl rfl hI (by rw [hum];exact Nat.le_trans (Nat.add_le_add_left (Nat.mul_le_mul_left 2 hB0) 2) (by decide)) hnn
 ·exact d3u r s S2 tm k car M2 _ _ hn hr hsm hk hrl rfl rfl hI (by simp only [List.length_singleton];exact Nat.le_trans (Nat.add_le_add_left (Nat.mul_le_mul_left 2 hB0) 1) (by decide)) hnn
def a8w (r:Ru) (l:List Ev) : St×List Sg×Nat×Int:=
 if 200 < l.length then (stZ,[],0,8) else if (goP r 0 l (st0 r)).2.2≠0 then (stZ,[],(goP r 0 l (st0 r)).2.1,(goP r 0 l (st0 r)).2.2) else ((goP r 0 l (st0 r)).1,v2_ r l (st0 r),0,0)
theorem a7h {w:World} {M:Nat→Nat→Prop} {v:Value} {n e:Int} (hv:V0 w M (.tup [.agg [f0_,f0_,I 0],f0_,I n,I e]) v) : V0 w M (.tup [c9_ stZ,.sl 3 [],I n,I e]) v:=by
 cases hv with
 | tup _ us hl hh=>
  refine .tup _ us hl fun i c u hc hu=>?_;rcases i with _|_|i
  ·simp only [List.getElem?_cons_zero,Option.some.injEq] at hc;subst hc;have h1:=hh 0 _ u rfl hu;cases h1 with
   | agg _ vs hvl h1 h2=>
    refine .agg _ vs hvl (fun c hc=>?_) fun j c2 u2 hc2 hu2=>?_
    ·simp only [List.mem_cons,List.not_mem_nil,or_false] at hc;rcases hc with rfl|rfl|rfl<;>rfl
    ·rcases j with _|_|_|j
     ·simp only [List.getElem?_cons_zero,Option.some.injEq] at hc2;subst hc2;exact (h2 0 _ u2 rfl hu2).nilSl 1
     ·simp only [List.getElem?_cons_zero,List.getElem?_cons_succ,Option.some.injEq] at hc2;subst hc2;exact (h2 1 _ u2 rfl hu2).nilSl 3
     ·simp only [List.getElem?_cons_zero,List.getElem?_cons_succ,Option.some.injEq] at hc2;subst hc2;exact h2 2 _ u2 rfl hu2
     ·simp at hc2
  ·simp only [List.getElem?_cons_zero,List.getElem?_cons_succ,Option.some.injEq] at hc;subst hc;exact (hh 1 _ u rfl hu).nilSl 3
  ·exact hh (i+2) c u hc hu
theorem c1r {r:Ru} {s:St} {x:Ev} : apE r s x=if evE r x≠0 then evE r x else fst [unl (decide (s.time≤x.time)) 9,doE r s x x.rank.toNat]:=by
 unfold apE;by_cases h:evE r x=0
 ·rw [if_neg (by simpa using h),h];rfl
 ·rw [if_pos h];simp [fst,h]
theorem b5f {r:Ru} {i:Nat} {x:Ev} {l:List Ev} {s:St} (h:apE r s x≠0) : goP r i (x::l) s=(s,i,apE r s x):=by rw [goP,if_pos h]
theorem c5a {r:Ru} {i:Nat} {x:Ev} {l:List Ev} {s:St} (h:apE r s x=0) : goP r i (x::l) s=goP r (i+1) l (apU r s x).1:=by rw [goP,if_neg (by simpa using h)]
theorem b3b {r:Ru} {x:Ev} {l:List Ev} {s:St} (h:apE r s x=0) : v2_ r (x::l) s=b6b x++(apU r s x).2++v2_ r l (apU r s x).1:=by rw [v2_,if_neg (by simpa using h)]
theorem c5b {r:Ru} {s:St} (hr:RuOK r) (hi:Inv r s) {x:Ev} (h:apE r s x=0) : 0 < (b6b x++(apU r s x).2).length∧(b6b x++(apU r s x).2).length≤1003:=by
 obtain ⟨h1,h2⟩:=d0y hr hi h;rw [List.length_append];unfold b6b;by_cases h4:x.kind=4
 ·rw [if_pos h4];have:=h2 h4;simp only [List.length_nil];omega
 ·rw [if_neg h4];by_cases h5:x.kind=5
  ·rw [if_pos h5];simp only [List.length_singleton];omega
  ·rw [if_neg h5];simp only [List.length_singleton];omega
theorem c1s (r:Ru) (l:List Ev) (hn:r.ranks.length≤1000000) (hr:RuOK r) (hl:l.length≤1000000) (hc:∀ x∈l,x.car.size≤1000) :
  VC Tryd.prog 22 [c4_ r,w2_ l] (if 200 < l.length then .tup [.agg [f0_,f0_,I 0],f0_,I 0,I 8] else if (goP r 0 l (st0 r)).2.2≠0 then .tup [.agg [f0_,f0_,I 0],f0_,I ((goP r 0 l (st0 r)).2.1:Int),I (goP r 0 l (st0 r)).2.2] else .tup [c9_ (goP r 0 l (st0 r)).1,.sl 3 ((v2_ r l (st0 r)).map Sg.av),I 0,I 0]):=by
 have gB:=c8n r hn;have hz:c9_ (st0 r) = .agg [g8_ (st0 r).q,.sl 3 ((st0 r).tk.map Tk.av),I (st0 r).time]:=rfl;have HR:=Lib.hid hr;have HC:=Lib.hid hc;have HI0:=Lib.hid (Inv.st0 hr);have HG0:Hid ((goP r 0 (l.drop 0) (st0 r)=goP r 0 l (st0 r))∧[]++v2_ r (l.drop 0) (st0 r)=v2_ r l (st0 r)):=Lib.hid ⟨rfl,rfl⟩;by_cases h200:200 < l.length
 ·rw [if_pos h200];have h201:(200:Int) < l.length:=by omega
  clear hr hc hz;refine c0_ Tryd.func22 rfl (by kernel_rfl) (by kernel_rfl) rfl fun M0 w0=>?_;simp only [Tryd.ntmps22,Tryd.results22,b5_];repeat' first|(with_reducible first|apply a9_|apply a3_|apply b4_|apply c5_|apply a1_|refine a2_ [] ?_)|((with_reducible refine a7_ ?_ ?_);(focus (go_simp;done)))|((with_reducible refine a0_ fun X Y=>?_);go_simp;refine Y _ ?_;clear Y X)
  go_simp
 rw [if_neg h200];have h201:¬(200:Int) < l.length:=by omega
 obtain ⟨RES,hRES⟩ : ∃ RES,RES=(if (goP r 0 l (st0 r)).2.2≠0 then AV.tup [.agg [f0_,f0_,I 0],f0_,I ((goP r 0 l (st0 r)).2.1:Int),I (goP r 0 l (st0 r)).2.2] else .tup [c9_ (goP r 0 l (st0 r)).1,.sl 3 ((v2_ r l (st0 r)).map Sg.av),I 0,I 0]):=⟨_,rfl⟩
 rw [←hRES];have HE:=Lib.hid hRES;rw [hz] at gB;generalize st0 r=S0 at *;obtain ⟨Q00,TK00,t00⟩:=S0;simp only at gB;clear hr hc hRES hz;refine c0_ Tryd.func22 rfl (by kernel_rfl) (by kernel_rfl) rfl fun M0 w0=>?_;simp only [Tryd.ntmps22,Tryd.results22,b5_];repeat' first|(with_reducible first|apply a9_|apply a3_|apply b0_|apply a8_|apply a1_|refine a2_ [9] ?_)|((with_reducible refine a6_ ?_ ?_);(focus (go_simp;done)))|((with_reducible refine a0_ fun X Y=>?_);go_simp;(first|(refine ⟨_,gB,?_⟩)|skip);refine Y _ ?_;clear Y X)
 apply a0c (α:=Nat×St×List Sg) [1,2,4,8] (fun (x:Nat×St×List Sg)=>[(10,I (x.1:Int)),(9,.osl 2)]) (fun (x:Nat×St×List Sg)=>([some (.box [f0_,f0_,I 0]),some (.box [g8_ x.2.1.q,.sl 3 (x.2.1.tk.map Tk.av),I x.2.1.time]),some (.arr 60 3 (decide (x.2.2=[])) (x.2.2.map Sg.av))] : Hp)) (fun (x:Nat×St×List Sg)=>x.1≤l.length∧x.2.2.length≤x.1*1003∧Hid (Inv r x.2.1)∧Hid (goP r x.1 (l.drop x.1) x.2.1=goP r 0 l ⟨Q00,TK00,t00⟩∧x.2.2++v2_ r (l.drop x.1) x.2.1=v2_ r l ⟨Q00,TK00,t00⟩)) (fun (x:Nat×St×List Sg)=>l.length - x.1) ((0,(⟨Q00,TK00,t00⟩ : St),([] : List Sg))) ⟨Nat.zero_le _,Nat.zero_le _,HI0,HG0⟩
 ·(go_simp<;>exact rfl)
 ·go_simp
 rintro ⟨k,⟨Q,TK,t⟩,g⟩ ⟨hkl,hgl,HI,HG⟩ K hK;simp only at hkl hgl HI HG hK ⊢;obtain ⟨w1,w2,w3,w4,w5,w6⟩:=ixs (m:=k) (by omega);by_cases hk:k < l.length
 ·have hcons:l.drop k=e6_ l k::l.drop (k+1):=by
   rw [o7_ hk];exact List.drop_eq_getElem_cons hk
  have hcar:=HC.out _ (List.getElem_mem hk);rw [←o7_ hk] at hcar;have ek:l[k]=e6_ l k:=(o7_ hk).symm;obtain ⟨hg1,hg2⟩:=HG.out;rw [hcons] at hg1 hg2;have g1:=b0s r (e6_ l k) hn hcar;have hki:(k:Int) < l.length:=by omega
  by_cases hv:evE r (e6_ l k)=0
  ·rw [hv] at g1;have g2:=b7c r ⟨Q,TK,t⟩ (e6_ l k) HR.out HI.out hv;have hap:=c1r (r:=r) (s:=⟨Q,TK,t⟩) (x:=e6_ l k);rw [if_neg (by simpa using hv)] at hap;rw [←hap] at g2;by_cases ha:apE r ⟨Q,TK,t⟩ (e6_ l k)=0
   ·have g3:=c9h r ⟨Q,TK,t⟩ (e6_ l k) hn HR.out HI.out ha;obtain ⟨s1,s2⟩:=c5b HR.out HI.out ha;rw [c5a ha] at hg1;rw [b3b ha,←List.append_assoc] at hg2;have hi2:=(Inv.ap HR.out HI.out ha).1;rw [ha] at g2;clear hap ha hv hcar;generalize b6b (e6_ l k)++(apU r ⟨Q,TK,t⟩ (e6_ l k)).2=U at *;generalize (apU r ⟨Q,TK,t⟩ (e6_ l k)).1=S1 at *;obtain ⟨Q1,TK1,t1⟩:=S1;have HG2:=Lib.hid (And.intro hg1 hg2);have HI2:=Lib.hid hi2;have hum:(g++U).map Sg.av=g.map Sg.av++U.map Sg.av:=List.map_append;have hne:¬g++U=[]:=fun h=>by
     rw [List.append_eq_nil_iff] at h;rw [h.2] at s1;simp at s1
    have hlen:(g++U).length≤(k+1)*1003:=by
     rw [List.length_append,Nat.add_mul];omega
    have hb:g.length+U.length≤1000000000:=by
     have:k*1003≤200*1003:=Nat.mul_le_mul_right _ (by omega);omega
    clear hg1 hg2 hi2 hcons hgl HI HG;repeat' with_reducible apply a9_
    refine a2_ [] ?_;repeat' first|(with_reducible first|apply a9_|apply a3_|apply b0_|apply a8_|apply a1_)|((with_reducible refine a7_ ?_ ?_);(focus (go_simp;done)))|((with_reducible refine a0_ fun X Y=>?_);go_simp;refine Y _ ?_;clear Y X)
    refine b6_ 7 5 [] rfl (by kernel_rfl) (by kernel_rfl) ?_;simp only [List.take,List.drop];repeat' first|(with_reducible first|apply a9_|apply a3_|apply a1_|apply a5_)|((with_reducible first|refine a0_ fun X Y=>?_|refine a4_ fun X Y=>?_);go_simp;(first|(with_reducible refine ⟨_,g1,?_⟩)|skip);refine Y _ ?_;clear Y X)
    refine a2_ [] ?_;repeat' first|(with_reducible first|apply a3_|apply a1_)|((with_reducible refine a7_ ?_ ?_);(focus (go_simp;done)))|((with_reducible refine a0_ fun X Y=>?_);go_simp;refine Y _ ?_;clear Y X)
    refine b6_ 8 6 [] rfl (by kernel_rfl) (by kernel_rfl) ?_;simp only [List.take,List.drop];repeat' first|(with_reducible first|apply a9_|apply a3_|apply a1_|apply a5_)|((with_reducible first|refine a0_ fun X Y=>?_|refine a4_ fun X Y=>?_);go_simp;(first|(with_reducible refine ⟨_,g2,?_⟩)|skip);refine Y _ ?_;clear Y X)
    refine a2_ [] ?_;repeat' first|(with_reducible first|apply a9_|apply a3_|apply b0_|apply a1_)|((with_reducible refine a6_ ?_ ?_);(focus (go_simp;done)))|((with_reducible refine a0_ fun X Y=>?_);go_simp;refine Y _ ?_;clear Y X)
    refine b0x 12 [] (fun i=>i == 10 || i == 11) (by kernel_rfl) (by kernel_rfl) (by kernel_rfl) (by go_simp) (by go_simp) ?_;simp only [List.take,List.drop];repeat ((with_reducible refine k2_ rfl fun X Y=>?_);go_simp;(first|(with_reducible refine ⟨_,g3,?_⟩)|skip);refine Y _ (by go_simp) ?_;clear Y X)
    refine h6_ [some (.box [f0_,f0_,I 0])] none (.ref 3 0) rfl ⟨rfl,fun _=>rfl,fun _ h=>by cases h⟩ ?_ ?_
    ·intro s2 hs2;go_simp
    refine h6_ [some (.box [g8_ Q1,.sl 3 (TK1.map Tk.av),I t1])] none .any rfl ⟨rfl,fun _=>rfl,fun _ h=>by cases h⟩ ?_ ?_
    ·intro s2 hs2;have q1:lkp s2 12 = .ref 3 0:=(hs2 12 (by simp [Op.operands]) (by go_simp)).trans (by go_simp);have q2:lkp s2 54=c9_ ⟨Q1,TK1,t1⟩:=(hs2 54 (by simp [Op.operands]) (by go_simp)).trans (by go_simp);clear hs2;go_simp
    repeat (first|(with_reducible first|apply a3_|apply a1_)|((with_reducible refine a0_ fun X Y=>?_);go_simp;refine Y _ ?_;clear Y X)|((with_reducible refine a0a ?_);simp only [List.cons_append,List.nil_append,a2q]))
    skip
    refine x7_ 3 [12,56] (by kernel_rfl) (by kernel_rfl) (by kernel_rfl) (purge 2) (a2z 2) rfl ⟨rfl,rfl⟩ ?_;simp only [List.take];repeat' first|with_reducible apply a5_|((with_reducible refine a4_ fun X Y=>?_);go_simp;refine Y _ ?_;clear Y X)
    refine ⟨_,_,d1s (id:=2) (sz:=3) (nl:=decide (g=[])) (es':=g.map Sg.av) (es:=U.map Sg.av) (by exact rfl) (by exact rfl) (by go_simp) (by go_simp) d5g d5f (by exact rfl) ⟨rfl,rfl,rfl,rfl,by decide⟩ (fun _=>by simpa using s1) (by simpa using hb),?_,?_,?_⟩
    ·simp only [List.forall_mem_cons];go_simp
    ·repeat' first|with_reducible apply a5_|((with_reducible refine a4_ fun X Y=>?_);go_simp;refine Y _ ?_;clear Y X)
     simp only [List.forall_mem_cons];go_simp
    go_simp;refine b9_ [] 2 ⟨rfl,rfl⟩ ?_;simp only [List.take,List.drop];repeat' first|with_reducible apply a1_|((with_reducible refine a0_ fun X Y=>?_);go_simp;refine Y _ ?_;clear Y X)
    apply e3_;repeat' with_reducible first|apply a3_|apply b1_
    refine a2_ [] ?_;repeat' first|(with_reducible first|apply a3_|apply a1_)|((with_reducible refine a0_ fun X Y=>?_);go_simp;refine Y _ ?_;clear Y X)
    refine hK _ (k+1,⟨Q1,TK1,t1⟩,g++U) ⟨hk,hlen,HI2,HG2⟩ (by simp only;omega) ?_;simp only [hum,decide_eq_false hne];go_simp
   ·have e:=HE.out;rw [b5f ha] at hg1;rw [←hg1,if_pos ha] at e;subst e;clear hg1 hg2 hap HG HE;generalize apE r ⟨Q,TK,t⟩ (e6_ l k)=A at *;repeat' first|(with_reducible first|apply a9_|apply a3_|apply b4_|apply c5_|apply b0_|apply a8_|apply c2_|apply a1_|refine a2_ [] ?_|apply a5_)|((with_reducible refine a7_ ?_ ?_);(focus (go_simp;done)))|((with_reducible first|refine a0_ fun X Y=>?_|refine a4_ fun X Y=>?_);go_simp;(first|(with_reducible refine ⟨_,g1,?_⟩)|(with_reducible refine ⟨_,g2,?_⟩)|skip);refine Y _ ?_;clear Y X)|((refine b6_ 7 7 [] rfl (by kernel_rfl) (by kernel_rfl) ?_);simp only [List.take,List.drop])|((refine b6_ 8 8 [] rfl (by kernel_rfl) (by kernel_rfl) ?_);simp only [List.take,List.drop])
    go_simp
  ·have e:=HE.out;have ha:apE r ⟨Q,TK,t⟩ (e6_ l k)=evE r (e6_ l k):=by rw [c1r,if_pos hv]
   rw [b5f (by rw [ha];exact hv),ha] at hg1;rw [←hg1,if_pos hv] at e;subst e;clear hg1 hg2 ha HG HE;generalize evE r (e6_ l k)=A at *;repeat' first|(with_reducible first|apply a9_|apply a3_|apply b4_|apply c5_|apply b0_|apply a8_|apply c2_|apply a1_|refine a2_ [] ?_|apply a5_)|((with_reducible refine a7_ ?_ ?_);(focus (go_simp;done)))|((with_reducible refine a6_ ?_ ?_);(focus (go_simp;done)))|((with_reducible first|refine a0_ fun X Y=>?_|refine a4_ fun X Y=>?_);go_simp;(first|(with_reducible refine ⟨_,g1,?_⟩)|skip);refine Y _ ?_;clear Y X)|((refine b6_ 7 7 [] rfl (by kernel_rfl) (by kernel_rfl) ?_);simp only [List.take,List.drop])
   go_simp
 ·obtain rfl:k=l.length:=by omega
  obtain ⟨hg1,hg2⟩:=HG.out;rw [List.drop_length] at hg1 hg2;have e:=HE.out;rw [←hg1,←hg2,goP,if_neg (by simp),v2_,List.append_nil] at e;subst e;clear hg1 hg2 HG HE;refine x4_ 9 2 rfl rfl ?_;repeat' first|(with_reducible first|apply a9_|apply a3_|apply b8_|apply c5_|apply d4_|apply b7_|apply a1_|refine a2_ [] ?_)|((with_reducible refine a6_ ?_ ?_);(focus (go_simp;done)))|((with_reducible refine a0_ fun X Y=>?_);go_simp;refine Y _ ?_;clear Y X)
  go_simp
theorem c5c (r:Ru) (l:List Ev) (hn:r.ranks.length≤1000000) (hr:RuOK r) (hl:l.length≤1000000) (hc:∀ x∈l,x.car.size≤1000) :
  VC Tryd.prog 22 [c4_ r,w2_ l] (.tup [c9_ (a8w r l).1,.sl 3 ((a8w r l).2.1.map Sg.av),I ((a8w r l).2.2.1:Int),I (a8w r l).2.2.2]):=by
 refine (c1s r l hn hr hl hc).weak fun w M v hv=>?_;unfold a8w;by_cases h1:200 < l.length
 ·rw [if_pos h1] at hv ⊢;exact a7h hv
 ·rw [if_neg h1] at hv ⊢;by_cases h2:(goP r 0 l (st0 r)).2.2≠0
  ·rw [if_pos h2] at hv ⊢;exact a7h hv
  ·rw [if_neg h2] at hv ⊢;exact hv
theorem b3c {r:Ru} {l:List Ev} : a3h r l=if (d6_ r).2≠0 then (d6_ r).2 else if 200 < l.length then 8 else 0:=by
 unfold a3h;by_cases h:(d6_ r).2=0
 ·rw [h,if_neg (by simp)];by_cases h2:200 < l.length
  ·rw [if_pos h2];simp [fst,unl,show ¬l.length≤200 by omega]
  ·rw [if_neg h2];simp [fst,unl,show l.length≤200 by omega]
 ·rw [if_pos h];simp [fst,h]
theorem d1t {r:Ru} {l:List Ev} (h:(d6_ r).2=0) : c7u r l=((a8w r l).1,(a8w r l).2.2.1,(a8w r l).2.2.2):=by
 have e:a3h r l=if 200 < l.length then 8 else 0:=by rw [b3c,if_neg (by simpa using h)]
 unfold c7u a8w;rw [e];by_cases h1:200 < l.length
 ·rw [if_pos h1,if_pos h1,if_pos (by decide)]
 ·rw [if_neg h1,if_neg h1,if_neg (by decide)];split<;>rfl
theorem d1u {r:Ru} {l:List Ev} : b6x r l=if (d6_ r).2≠0 then (d6_ r).2 else (a8w r l).2.2.2:=by
 unfold b6x;by_cases h:(d6_ r).2=0
 ·have hz:¬(d6_ r).2≠0:=by simpa using h
  have e:a3h r l=if 200 < l.length then 8 else 0:=by rw [b3c,if_neg hz]
  rw [e];simp only [if_neg hz];unfold a8w;by_cases h1:200 < l.length
  ·simp only [if_pos h1];rfl
  ·simp only [if_neg h1];by_cases h2:(goP r 0 l (st0 r)).2.2=0
   ·simp [h2]
   ·simp [h2]
 ·have e:a3h r l=(d6_ r).2:=by rw [b3c,if_pos h]
  rw [e,if_pos h,if_pos h]
theorem d3v {r:Ru} : f9_ r (st0 r) < 0:=by
 apply Classical.byContradiction;intro h;obtain ⟨k,e,hk,hp⟩:=l7_ h;have:=(j1_ hp).2.1;rw [show (st0 r).q=List.replicate r.ranks.length [] from rfl,b2b] at this;simp at this
theorem c9i {r:Ru} (hr:RuOK r) {l:List Ev} (h:(goP r 0 l (st0 r)).2.2=0) : Inv r (goP r 0 l (st0 r)).1∧f9_ r (goP r 0 l (st0 r)).1 < 0:=b8n hr l 0 (st0 r) (Inv.st0 hr) d3v h
end Go.Proofs.YtoibondihdhnoaaDoor
