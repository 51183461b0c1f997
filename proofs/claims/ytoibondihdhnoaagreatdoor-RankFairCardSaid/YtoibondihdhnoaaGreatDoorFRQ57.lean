/- Texts in one: Walks: an event is carried out, and a log is gone through, as the reference has it. -/
import Derived.Test.YtoibondihdhnoaaGreatDoorFRQ55
import Derived.Test.YtoibondihdhnoaaGreatDoorFRQ32
import Derived.Test.YtoibondihdhnoaaGreatDoorFRQ31
import Derived.Test.YtoibondihdhnoaaGreatDoorFRQ35
import Derived.Test.YtoibondihdhnoaaGreatDoorFRQ46
import Derived.Test.YtoibondihdhnoaaGreatDoorFRQ56
import Derived.Test.YtoibondihdhnoaaGreatDoorFRQ9
import Derived.Test.YtoibondihdhnoaaGreatDoorFRQ45
import Derived.Test.YtoibondihdhnoaaGreatDoorFRQ40
namespace Go.Proofs.YtoibondihdhnoaaGreatDoor
open Go.RowKit
set_option maxRecDepth 100000
set_option maxHeartbeats 4000000
theorem OG (r:Ru) (s:St) (x:Ev) (hn:r.ranks.length≤1000000) (hr:RuOK r) (hi:Inv r s) (he:apE r s x=0) : VC Tryz.prog 68 [bJ r,dX s,evA x] (.tup [dX (apU r s x).1,.sl 3 ((gL x++(apU r s x).2).map Sg.av)]):=by
 obtain ⟨h1,h2,h3,h5,h6⟩:=parts he;have h4:=tr h1;have dy:=hi.small hr;have dW:r.ranks.length=s.q.length:=hi.len.symm;have hk:x.rank.toNat < s.q.length:=by rw [hi.len];exact h6
 have hS:=JH hr hi hk h4 h3;have hI:=hi.doS hr h1 h2 h5 h3;rw [←hS] at hI;have nE:=AW hr hI;have gw:∃ n,cA 0 (xH r s x x.rank.toNat).q≤n∧cD r n (xH r s x x.rank.toNat) (xI r s x x.rank.toNat)=((apU r s x).1,gL x++(apU r s x).2):=by
  refine ⟨cA 0 (doS r s x x.rank.toNat).q,by rw [hS];exact Nat.le_refl _,?_⟩;rw [JI,hS];rfl
 generalize (apU r s x).1=S2 at *;generalize gL x++(apU r s x).2=M2 at *;clear hS he h1 h2;have dF:∀ i,i < s.q.length→(qat s.q i).length≤1000000:=fun i jl=>by
  have h1:=hi.fit i jl;have h2:=hr.pl i (by omega);omega
 obtain ⟨kd,tm,rk,car⟩:=x;simp only at *;obtain ⟨k,rfl⟩ : ∃ k:Nat,rk=k:=⟨rk.toNat,h5⟩
 simp only [Int.toNat_natCast] at *;have rC:kd=0∨kd=1∨kd=2∨kd=3∨kd=4∨kd=5:=by omega
 rcases rC with rfl|rfl|rfl|rfl|rfl|rfl
 ·exact Oy r s S2 tm k car M2 _ _ hn hr dy hk dW rfl rfl hI (by simp only [List.length_singleton];exact Nat.le_trans (Nat.add_le_add_left (Nat.mul_le_mul_left 2 nE) 1) (by decide)) gw
 ·exact Oz r s S2 tm k car M2 _ _ hn hr dy hk dW rfl rfl hI (by simp only [List.length_singleton];exact Nat.le_trans (Nat.add_le_add_left (Nat.mul_le_mul_left 2 nE) 1) (by decide)) gw
 ·exact OB r s S2 tm k car M2 _ _ hn hr dy hk dW _ rfl (hr.bk) rfl rfl hI (by simp only [List.length_singleton];exact Nat.le_trans (Nat.add_le_add_left (Nat.mul_le_mul_left 2 nE) 1) (by decide)) gw
 ·exact OA r s S2 tm k car M2 _ _ hn hr dy hk dW rfl rfl hI (by simp only [List.length_singleton];exact Nat.le_trans (Nat.add_le_add_left (Nat.mul_le_mul_left 2 nE) 1) (by decide)) gw
 ·have hE:jz r s k=0:=h3;have G3:(rat r.ranks k).feeder≠-1:=fun h=>by
   unfold jz at hE;rw [if_pos h] at hE;exact absurd hE (by decide)
  obtain ⟨p1,p2,p3⟩:=hr.feedN (by omega) G3;have hp:0 < (qat s.q (feedN r k)).length:=by
   unfold jz at hE;rw [if_neg G3,ch,ch] at hE;exact of_decide_eq_true (eW (by decide) hE.2.1)
  have ld:(upM s.q k (feedN r k)).length=2:=rfl;exact Ox r s S2 tm k car M2 _ _ _ hn hr dy hk dW (feedN r k) p1 (by omega) (by omega) hp dF rfl rfl rfl hI (by rw [ld];exact Nat.le_trans (Nat.add_le_add_left (Nat.mul_le_mul_left 2 nE) 2) (by decide)) gw
 ·exact OE r s S2 tm k car M2 _ _ hn hr dy hk dW rfl rfl hI (by simp only [List.length_singleton];exact Nat.le_trans (Nat.add_le_add_left (Nat.mul_le_mul_left 2 nE) 1) (by decide)) gw
def nZ (r:Ru) (l:List Ev) : St×List Sg×Nat×Int:=
 if 200 < l.length then (stZ,[],0,8) else if (goP r 0 l (st0 r)).2.2≠0 then (stZ,[],(goP r 0 l (st0 r)).2.1,(goP r 0 l (st0 r)).2.2) else ((goP r 0 l (st0 r)).1,iC r l (st0 r),0,0)
theorem G4 {w:World} {M:Nat→Nat→Prop} {v:Value} {n e:Int} (hv:V0 w M (.tup [.agg [bG,bG,I 0],bG,I n,I e]) v) : V0 w M (.tup [dX stZ,.sl 3 [],I n,I e]) v:=by
 cases hv with
 | tup _ us hl hh=>
  refine .tup _ us hl fun i c u hc hu=>?_;rcases i with _|_|i
  ·simp only [List.getElem?_cons_zero,Option.some.injEq] at hc;subst hc;have h1:=hh 0 _ u rfl hu;cases h1 with
   | agg _ vs iw h1 h2=>
    refine .agg _ vs iw (fun c hc=>?_) fun j c2 u2 fO rR=>?_
    ·simp only [List.mem_cons,List.not_mem_nil,or_false] at hc;rcases hc with rfl|rfl|rfl<;>rfl
    ·rcases j with _|_|_|j
     ·simp only [List.getElem?_cons_zero,Option.some.injEq] at fO;subst fO;exact (h2 0 _ u2 rfl rR).nilSl 1
     ·simp only [List.getElem?_cons_zero,List.getElem?_cons_succ,Option.some.injEq] at fO;subst fO;exact (h2 1 _ u2 rfl rR).nilSl 3
     ·simp only [List.getElem?_cons_zero,List.getElem?_cons_succ,Option.some.injEq] at fO;subst fO;exact h2 2 _ u2 rfl rR
     ·simp at fO
  ·simp only [List.getElem?_cons_zero,List.getElem?_cons_succ,Option.some.injEq] at hc;subst hc;exact (hh 1 _ u rfl hu).nilSl 3
  ·exact hh (i+2) c u hc hu
theorem G5 {r:Ru} {s:St} {x:Ev} : apE r s x=if evE r x≠0 then evE r x else fst [unl (decide (s.time≤x.time)) 9,doE r s x x.rank.toNat]:=by
 unfold apE;by_cases h:evE r x=0
 ·rw [if_neg (by simpa using h),h];rfl
 ·rw [if_pos h];simp [fst,h]
theorem zo {r:Ru} {i:Nat} {x:Ev} {l:List Ev} {s:St} (h:apE r s x≠0) : goP r i (x::l) s=(s,i,apE r s x):=by rw [goP,if_pos h]
theorem zp {r:Ru} {i:Nat} {x:Ev} {l:List Ev} {s:St} (h:apE r s x=0) : goP r i (x::l) s=goP r (i+1) l (apU r s x).1:=by rw [goP,if_neg (by simpa using h)]
theorem OH {r:Ru} {x:Ev} {l:List Ev} {s:St} (h:apE r s x=0) : iC r (x::l) s=gL x++(apU r s x).2++iC r l (apU r s x).1:=by rw [iC,if_neg (by simpa using h)]
theorem OI {r:Ru} {s:St} (hr:RuOK r) (hi:Inv r s) {x:Ev} (h:apE r s x=0) : 0 < (gL x++(apU r s x).2).length∧(gL x++(apU r s x).2).length≤1003:=by
 obtain ⟨h1,h2⟩:=xZ hr hi h;rw [List.length_append];unfold gL;by_cases h4:x.kind=4
 ·rw [if_pos h4];have:=h2 h4;simp only [List.length_nil];omega
 ·rw [if_neg h4];by_cases h5:x.kind=5
  ·rw [if_pos h5];simp only [List.length_singleton];omega
  ·rw [if_neg h5];simp only [List.length_singleton];omega
theorem OJ (r:Ru) (l:List Ev) (hn:r.ranks.length≤1000000) (hr:RuOK r) (hl:l.length≤1000000) (hc:∀ x∈l,x.car.size≤1000) :
  VC Tryz.prog 26 [bJ r,cp l] (if 200 < l.length then .tup [.agg [bG,bG,I 0],bG,I 0,I 8] else if (goP r 0 l (st0 r)).2.2≠0 then .tup [.agg [bG,bG,I 0],bG,I ((goP r 0 l (st0 r)).2.1:Int),I (goP r 0 l (st0 r)).2.2] else .tup [dX (goP r 0 l (st0 r)).1,.sl 3 ((iC r l (st0 r)).map Sg.av),I 0,I 0]):=by
 have gB:=Nf r hn;have hz:dX (st0 r) = .agg [hQ (st0 r).q,.sl 3 ((st0 r).tk.map Tk.av),I (st0 r).time]:=rfl;have HR:=Lib.hid hr;have HC:=Lib.hid hc;have OK:=Lib.hid (Inv.st0 hr);have OL:Hid ((goP r 0 (l.drop 0) (st0 r)=goP r 0 l (st0 r))∧[]++iC r (l.drop 0) (st0 r)=iC r l (st0 r)):=Lib.hid ⟨rfl,rfl⟩;by_cases l8:200 < l.length
 ·rw [if_pos l8];have Cx:(200:Int) < l.length:=by omega
  clear hr hc hz;refine aL Tryz.func26 rfl (by kernel_rfl) rfl fun M0 w0=>?_;simp only [Tryz.ntmps26,Tryz.results26,aC];repeat' with_reducible first|apply af|apply ae|apply aW|apply az|apply aa|refine ah [] ?_|(apply ax;·go_simp)|(apply ab;intro X Y;go_simp;apply Y;clear Y X)
  go_simp
 rw [if_neg l8];have Cx:¬(200:Int) < l.length:=by omega
 obtain ⟨G6,sB⟩ : ∃ G6,G6=(if (goP r 0 l (st0 r)).2.2≠0 then AV.tup [.agg [bG,bG,I 0],bG,I ((goP r 0 l (st0 r)).2.1:Int),I (goP r 0 l (st0 r)).2.2] else .tup [dX (goP r 0 l (st0 r)).1,.sl 3 ((iC r l (st0 r)).map Sg.av),I 0,I 0]):=⟨_,rfl⟩
 rw [←sB];have HE:=Lib.hid sB;rw [hz] at gB;generalize st0 r=S0 at *;obtain ⟨Cy,sC,Cz⟩:=S0;simp only at gB;clear hr hc sB hz;refine aL Tryz.func26 rfl (by kernel_rfl) rfl fun M0 w0=>?_;simp only [Tryz.ntmps26,Tryz.results26,aC];repeat' first|(with_reducible first|apply af|apply ae|apply aw|apply aE|apply aa|refine ah [9] ?_|(apply ar;·go_simp))|((with_reducible apply ab);intro X Y;go_simp;(first|(refine ⟨_,gB,?_⟩)|skip);apply Y;clear Y X)
 apply mz (α:=Nat×St×List Sg) [1,2,4,8] (fun (x:Nat×St×List Sg)=>[(10,I (x.1:Int)),(9,.osl 2)]) (fun (x:Nat×St×List Sg)=>([some (.box [bG,bG,I 0]),some (.box [hQ x.2.1.q,.sl 3 (x.2.1.tk.map Tk.av),I x.2.1.time]),some (.arr 45 3 (decide (x.2.2=[])) (x.2.2.map Sg.av))] : Hp)) (fun (x:Nat×St×List Sg)=>x.1≤l.length∧x.2.2.length≤x.1*1003∧Hid (Inv r x.2.1)∧Hid (goP r x.1 (l.drop x.1) x.2.1=goP r 0 l ⟨Cy,sC,Cz⟩∧x.2.2++iC r (l.drop x.1) x.2.1=iC r l ⟨Cy,sC,Cz⟩)) (fun (x:Nat×St×List Sg)=>l.length - x.1) ((0,(⟨Cy,sC,Cz⟩ : St),([] : List Sg))) ⟨Nat.zero_le _,Nat.zero_le _,OK,OL⟩
 ·(go_simp<;>exact rfl)
 ·go_simp
 rintro ⟨k,⟨Q,TK,t⟩,g⟩ ⟨cB,sr,HI,HG⟩ K hK;simp only at cB sr HI HG hK ⊢;obtain ⟨w1,w2,w3,w4,w5,w6⟩:=ixs (m:=k) (by omega);by_cases hk:k < l.length
 ·have lG:l.drop k=aA l k::l.drop (k+1):=by
   rw [jK hk];exact List.drop_eq_getElem_cons hk
  have de:=HC.out _ (List.getElem_mem hk);rw [←jK hk] at de;have ek:l[k]=aA l k:=(jK hk).symm;obtain ⟨lH,l_⟩:=HG.out;rw [lG] at lH l_;have g1:=M8 r (aA l k) hn de;have jy:(k:Int) < l.length:=by omega
  by_cases hv:evE r (aA l k)=0
  ·rw [hv] at g1;have g2:=N0 r ⟨Q,TK,t⟩ (aA l k) HR.out HI.out hv;have zq:=G5 (r:=r) (s:=⟨Q,TK,t⟩) (x:=aA l k);rw [if_neg (by simpa using hv)] at zq;rw [←zq] at g2;by_cases ha:apE r ⟨Q,TK,t⟩ (aA l k)=0
   ·have g3:=OG r ⟨Q,TK,t⟩ (aA l k) hn HR.out HI.out ha;obtain ⟨s1,s2⟩:=OI HR.out HI.out ha;rw [zp ha] at lH;rw [OH ha,←List.append_assoc] at l_;have bD:=(Inv.ap HR.out HI.out ha).1;rw [ha] at g2;clear zq ha hv de;generalize gL (aA l k)++(apU r ⟨Q,TK,t⟩ (aA l k)).2=U at *;generalize (apU r ⟨Q,TK,t⟩ (aA l k)).1=S1 at *;obtain ⟨Q1,CA,t1⟩:=S1;have OM:=Lib.hid (And.intro lH l_);have bj:=Lib.hid bD;have ld:(g++U).map Sg.av=g.map Sg.av++U.map Sg.av:=List.map_append;have aq:¬g++U=[]:=fun h=>by
     rw [List.append_eq_nil_iff] at h;rw [h.2] at s1;simp at s1
    have hlen:(g++U).length≤(k+1)*1003:=by
     rw [List.length_append,Nat.add_mul];omega
    have hb:g.length+U.length≤1000000000:=by
     have:k*1003≤200*1003:=Nat.mul_le_mul_right _ (by omega);omega
    clear lH l_ bD lG sr HI HG;repeat' with_reducible apply af
    refine ah [] ?_;repeat' with_reducible first|apply af|apply ae|apply aw|apply aE|apply aa|(apply ax;·go_simp)|(apply ab;intro X Y;go_simp;apply Y;clear Y X)
    refine bw 7 5 [] rfl (by kernel_rfl) ?_;simp only [au];repeat' with_reducible first|apply af|apply ae|apply aa|apply aQ|((first|apply ab|apply aR);intro X Y;go_simp;(first|(refine ⟨_,g1,?_⟩)|skip);apply Y;clear Y X)
    refine ah [] ?_;repeat' with_reducible first|apply ae|apply aa|(apply ax;·go_simp)|(apply ab;intro X Y;go_simp;apply Y;clear Y X)
    refine bw 8 6 [] rfl (by kernel_rfl) ?_;simp only [au];repeat' with_reducible first|apply af|apply ae|apply aa|apply aQ|((first|apply ab|apply aR);intro X Y;go_simp;(first|(refine ⟨_,g2,?_⟩)|skip);apply Y;clear Y X)
    refine ah [] ?_;repeat' with_reducible first|apply af|apply ae|apply aw|apply aa|(apply ar;·go_simp)|(apply ab;intro X Y;go_simp;apply Y;clear Y X)
    refine G2 12 [] (fun i=>i == 10 || i == 11) (by kernel_rfl) (by kernel_rfl) (by kernel_rfl) (by go_simp) (by go_simp) ?_;simp only [au];repeat ((with_reducible refine mI rfl fun X Y=>?_);go_simp;(first|(with_reducible refine ⟨_,g3,?_⟩)|skip);refine Y _ (by go_simp) ?_;clear Y X)
    refine pU [some (.box [bG,bG,I 0])] none (.ref 3 0) rfl ⟨rfl,fun _=>rfl,fun _ h=>by cases h⟩ ?_ ?_
    ·intro s2 cV;go_simp
    refine pU [some (.box [hQ Q1,.sl 3 (CA.map Tk.av),I t1])] none .any rfl ⟨rfl,fun _=>rfl,fun _ h=>by cases h⟩ ?_ ?_
    ·intro s2 cV;have q1:lkp s2 12 = .ref 3 0:=(cV 12 (by simp [Op.operands]) (by go_simp)).trans (by go_simp);have q2:lkp s2 54=dX ⟨Q1,CA,t1⟩:=(cV 54 (by simp [Op.operands]) (by go_simp)).trans (by go_simp);clear cV;go_simp
    repeat (first|(with_reducible first|apply ae|apply aa|(apply ab;intro X Y;go_simp;apply Y;clear Y X))|((with_reducible refine wH ?_);simp only [List.cons_append,List.nil_append,nV]))
    skip
    refine mV 3 [12,56] (by kernel_rfl) (by kernel_rfl) (by kernel_rfl) (purge 2) (Ah 2) rfl ⟨rfl,rfl⟩ ?_;simp only [List.take];repeat' with_reducible first|apply aQ|(apply aR;intro X Y;go_simp;apply Y;clear Y X)
    refine ⟨_,_,OF (id:=2) (sz:=3) (nl:=decide (g=[])) (es':=g.map Sg.av) (es:=U.map Sg.av) (by exact rfl) (by exact rfl) (by go_simp) (by go_simp) ON OO (by exact rfl) ⟨rfl,rfl,rfl,rfl,by decide⟩ (fun _=>by simpa using s1) (by simpa using hb),?_,?_,?_⟩
    ·simp only [List.forall_mem_cons];go_simp
    ·repeat' with_reducible first|apply aQ|(apply aR;intro X Y;go_simp;apply Y;clear Y X)
     simp only [List.forall_mem_cons];go_simp
    go_simp;refine bb [] 2 ⟨rfl,rfl⟩ ?_;simp only [au];repeat' with_reducible first|apply aa|(apply ab;intro X Y;go_simp;apply Y;clear Y X)
    apply cF;repeat' with_reducible first|apply ae|apply bc
    refine ah [] ?_;repeat' with_reducible first|apply ae|apply aa|(apply ab;intro X Y;go_simp;apply Y;clear Y X)
    refine hK _ (k+1,⟨Q1,CA,t1⟩,g++U) ⟨hk,hlen,bj,OM⟩ (by simp only;omega) ?_;simp only [ld,decide_eq_false aq];go_simp
   ·have e:=HE.out;rw [zo ha] at lH;rw [←lH,if_pos ha] at e;subst e;clear lH l_ zq HG HE;generalize apE r ⟨Q,TK,t⟩ (aA l k)=A at *;repeat' first|(with_reducible first|apply af|apply ae|apply aW|apply az|apply aw|apply aE|apply dh|apply aa|refine ah [] ?_|apply aQ|(apply ax;·go_simp)|((first|apply ab|apply aR);intro X Y;go_simp;(first|(refine ⟨_,g1,?_⟩)|(refine ⟨_,g2,?_⟩)|skip);apply Y;clear Y X))|((refine bw 7 7 [] rfl (by kernel_rfl) ?_);simp only [au])|((refine bw 8 8 [] rfl (by kernel_rfl) ?_);simp only [au])
    go_simp
  ·have e:=HE.out;have ha:apE r ⟨Q,TK,t⟩ (aA l k)=evE r (aA l k):=by rw [G5,if_pos hv]
   rw [zo (by rw [ha];exact hv),ha] at lH;rw [←lH,if_pos hv] at e;subst e;clear lH l_ ha HG HE;generalize evE r (aA l k)=A at *;repeat' first|(with_reducible first|apply af|apply ae|apply aW|apply az|apply aw|apply aE|apply dh|apply aa|refine ah [] ?_|apply aQ|(apply ax;·go_simp)|(apply ar;·go_simp)|((first|apply ab|apply aR);intro X Y;go_simp;(first|(refine ⟨_,g1,?_⟩)|skip);apply Y;clear Y X))|((refine bw 7 7 [] rfl (by kernel_rfl) ?_);simp only [au])
   go_simp
 ·obtain rfl:k=l.length:=by omega
  obtain ⟨lH,l_⟩:=HG.out;rw [List.drop_length] at lH l_;have e:=HE.out;rw [←lH,←l_,goP,if_neg (by simp),iC,List.append_nil] at e;subst e;clear lH l_ HG HE;refine oU 9 2 rfl rfl ?_;repeat' with_reducible first|apply af|apply ae|apply bU|apply az|apply bV|apply bW|apply aa|refine ah [] ?_|(apply ar;·go_simp)|(apply ab;intro X Y;go_simp;apply Y;clear Y X)
  go_simp
theorem OP (r:Ru) (l:List Ev) (hn:r.ranks.length≤1000000) (hr:RuOK r) (hl:l.length≤1000000) (hc:∀ x∈l,x.car.size≤1000) :
  VC Tryz.prog 26 [bJ r,cp l] (.tup [dX (nZ r l).1,.sl 3 ((nZ r l).2.1.map Sg.av),I ((nZ r l).2.2.1:Int),I (nZ r l).2.2.2]):=by
 refine (OJ r l hn hr hl hc).weak fun w M v hv=>?_;unfold nZ;by_cases h1:200 < l.length
 ·rw [if_pos h1] at hv ⊢;exact G4 hv
 ·rw [if_neg h1] at hv ⊢;by_cases h2:(goP r 0 l (st0 r)).2.2≠0
  ·rw [if_pos h2] at hv ⊢;exact G4 hv
  ·rw [if_neg h2] at hv ⊢;exact hv
theorem G7 {r:Ru} {l:List Ev} : eG r l=if (dR r).2≠0 then (dR r).2 else if 200 < l.length then 8 else 0:=by
 unfold eG;by_cases h:(dR r).2=0
 ·rw [h,if_neg (by simp)];by_cases h2:200 < l.length
  ·rw [if_pos h2];simp [fst,unl,show ¬l.length≤200 by omega]
  ·rw [if_neg h2];simp [fst,unl,show l.length≤200 by omega]
 ·rw [if_pos h];simp [fst,h]
theorem OQ {r:Ru} {l:List Ev} : fP r l=if (dR r).2≠0 then (dR r).2 else (nZ r l).2.2.2:=by
 unfold fP;by_cases h:(dR r).2=0
 ·have hz:¬(dR r).2≠0:=by simpa using h
  have e:eG r l=if 200 < l.length then 8 else 0:=by rw [G7,if_neg hz]
  rw [e];simp only [if_neg hz];unfold nZ;by_cases h1:200 < l.length
  ·simp only [if_pos h1];rfl
  ·simp only [if_neg h1];by_cases h2:(goP r 0 l (st0 r)).2.2=0
   ·simp [h2]
   ·simp [h2]
 ·have e:eG r l=(dR r).2:=by rw [G7,if_pos h]
  rw [e,if_pos h,if_pos h]
theorem OR {r:Ru} : di r (st0 r) < 0:=by
 apply Classical.byContradiction;intro h;obtain ⟨k,e,hk,hp⟩:=mu h;have:=(mr hp).2.1;rw [show (st0 r).q=List.replicate r.ranks.length [] from rfl,EE] at this;simp at this
theorem G8 {r:Ru} (hr:RuOK r) {l:List Ev} (h:(goP r 0 l (st0 r)).2.2=0) : Inv r (goP r 0 l (st0 r)).1∧di r (goP r 0 l (st0 r)).1 < 0:=EF hr l 0 (st0 r) (Inv.st0 hr) OR h
theorem OS (r:Ru) (l:List Ev) (hn:r.ranks.length≤1000000) (cU:∀ k,k < r.ranks.length→(rat r.ranks k).name.size≤1000) (hl:l.length≤1000000) (hc:∀ x∈l,x.car.size≤1000) : VC Tryz.prog 31 [bJ r,cp l] (I (fP r l)):=by
 have g1:=Nd r hn cU;rw [OQ];by_cases h:(dR r).2=0
 ·have g2:=OP r l hn (AU h).1 hl hc;rw [h] at g1;rw [if_neg (by simpa using h)];clear hc cU h;generalize (nZ r l).1=S1 at *;generalize (nZ r l).2.1=G1 at *;generalize (nZ r l).2.2.1=N1 at *;generalize (nZ r l).2.2.2=E1 at *;refine aL Tryz.func31 rfl (by kernel_rfl) rfl fun M0 w0=>?_;simp only [Tryz.ntmps31,Tryz.results31,aC];repeat' first|(with_reducible first|apply af|apply ae|apply az|apply aw|apply aa|refine ah [] ?_|(apply ar;·go_simp))|((with_reducible apply ab);intro X Y;go_simp;(first|(refine ⟨_,g1,?_⟩)|(refine ⟨_,g2,?_⟩)|skip);apply Y;clear Y X)
  go_simp
 ·rw [if_pos h];clear hc cU;generalize (dR r).2=E at *;refine aL Tryz.func31 rfl (by kernel_rfl) rfl fun M0 w0=>?_;simp only [Tryz.ntmps31,Tryz.results31,aC];repeat' first|(with_reducible first|apply af|apply ae|apply aW|apply az|apply aa|refine ah [] ?_|(apply ax;·go_simp))|((with_reducible apply ab);intro X Y;go_simp;(first|(refine ⟨_,g1,?_⟩)|skip);apply Y;clear Y X)
  go_simp
end Go.Proofs.YtoibondihdhnoaaGreatDoor
