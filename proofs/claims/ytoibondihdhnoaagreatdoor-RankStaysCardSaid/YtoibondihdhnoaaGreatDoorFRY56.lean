/- Texts in one: Walks: an event is carried out, and a log is gone through, as the reference has it. -/
import Derived.Test.YtoibondihdhnoaaGreatDoorFRY54
import Derived.Test.YtoibondihdhnoaaGreatDoorFRY31
import Derived.Test.YtoibondihdhnoaaGreatDoorFRY30
import Derived.Test.YtoibondihdhnoaaGreatDoorFRY34
import Derived.Test.YtoibondihdhnoaaGreatDoorFRY45
import Derived.Test.YtoibondihdhnoaaGreatDoorFRY55
import Derived.Test.YtoibondihdhnoaaGreatDoorFRY8
import Derived.Test.YtoibondihdhnoaaGreatDoorFRY44
namespace Go.Proofs.YtoibondihdhnoaaGreatDoor
open Go.RowKit
set_option maxRecDepth 100000
set_option maxHeartbeats 4000000
theorem OP (r:Ru) (s:St) (x:Ev) (hn:r.ranks.length≤1000000) (hr:RuOK r) (hi:Inv r s) (he:apE r s x=0) : VC Tryz.prog 68 [bN r,dH s,evA x] (.tup [dH (apU r s x).1,.sl 3 ((fw x++(apU r s x).2).map Sg.av)]):=by
 obtain ⟨h1,h2,h3,h5,h6⟩:=parts he;have h4:=qo h1;have cJ:=hi.small hr;have eb:r.ranks.length=s.q.length:=hi.len.symm;have hk:x.rank.toNat < s.q.length:=by rw [hi.len];exact h6
 have hS:=JC hr hi hk h4 h3;have hI:=hi.doS hr h1 h2 h5 h3;rw [←hS] at hI;have nE:=BQ hr hI;have gv:∃ n,cl 0 (xQ r s x x.rank.toNat).q≤n∧bZ r n (xQ r s x x.rank.toNat) (xR r s x x.rank.toNat)=((apU r s x).1,fw x++(apU r s x).2):=by
  refine ⟨cl 0 (doS r s x x.rank.toNat).q,by rw [hS];exact Nat.le_refl _,?_⟩;rw [JD,hS];rfl
 generalize (apU r s x).1=S2 at *;generalize fw x++(apU r s x).2=M2 at *;clear hS he h1 h2;have dC:∀ i,i < s.q.length→(qat s.q i).length≤1000000:=fun i jm=>by
  have h1:=hi.fit i jm;have h2:=hr.pl i (by omega);omega
 obtain ⟨kd,tm,rk,car⟩:=x;simp only at *;obtain ⟨k,rfl⟩ : ∃ k:Nat,rk=k:=⟨rk.toNat,h5⟩
 simp only [Int.toNat_natCast] at *;have rP:kd=0∨kd=1∨kd=2∨kd=3∨kd=4∨kd=5:=by omega
 rcases rP with rfl|rfl|rfl|rfl|rfl|rfl
 ·exact OG r s S2 tm k car M2 _ _ hn hr cJ hk eb rfl rfl hI (by simp only [List.length_singleton];exact Nat.le_trans (Nat.add_le_add_left (Nat.mul_le_mul_left 2 nE) 1) (by decide)) gv
 ·exact OH r s S2 tm k car M2 _ _ hn hr cJ hk eb rfl rfl hI (by simp only [List.length_singleton];exact Nat.le_trans (Nat.add_le_add_left (Nat.mul_le_mul_left 2 nE) 1) (by decide)) gv
 ·exact OJ r s S2 tm k car M2 _ _ hn hr cJ hk eb _ rfl (hr.bk) rfl rfl hI (by simp only [List.length_singleton];exact Nat.le_trans (Nat.add_le_add_left (Nat.mul_le_mul_left 2 nE) 1) (by decide)) gv
 ·exact OI r s S2 tm k car M2 _ _ hn hr cJ hk eb rfl rfl hI (by simp only [List.length_singleton];exact Nat.le_trans (Nat.add_le_add_left (Nat.mul_le_mul_left 2 nE) 1) (by decide)) gv
 ·have hE:iB r s k=0:=h3;have wW:(rat r.ranks k).feeder≠-1:=fun h=>by
   unfold iB at hE;rw [if_pos h] at hE;exact absurd hE (by decide)
  obtain ⟨p1,p2,p3⟩:=hr.feedN (by omega) wW;have hp:0 < (qat s.q (feedN r k)).length:=by
   unfold iB at hE;rw [if_neg wW,cm,cm] at hE;exact of_decide_eq_true (eQ (by decide) hE.2.1)
  have kY:(upM s.q k (feedN r k)).length=2:=rfl;exact OF r s S2 tm k car M2 _ _ _ hn hr cJ hk eb (feedN r k) p1 (by omega) (by omega) hp dC rfl rfl rfl hI (by rw [kY];exact Nat.le_trans (Nat.add_le_add_left (Nat.mul_le_mul_left 2 nE) 2) (by decide)) gv
 ·exact ON r s S2 tm k car M2 _ _ hn hr cJ hk eb rfl rfl hI (by simp only [List.length_singleton];exact Nat.le_trans (Nat.add_le_add_left (Nat.mul_le_mul_left 2 nE) 1) (by decide)) gv
def gQ (r:Ru) (l:List Ev) : St×List Sg×Nat×Int:=
 if 200 < l.length then (stZ,[],0,8) else if (goP r 0 l (st0 r)).2.2≠0 then (stZ,[],(goP r 0 l (st0 r)).2.1,(goP r 0 l (st0 r)).2.2) else ((goP r 0 l (st0 r)).1,fk r l (st0 r),0,0)
theorem Hn {w:World} {M:Nat→Nat→Prop} {v:Value} {n e:Int} (hv:V0 w M (.tup [.agg [bz,bz,I 0],bz,I n,I e]) v) : V0 w M (.tup [dH stZ,.sl 3 [],I n,I e]) v:=by
 cases hv with
 | tup _ us hl hh=>
  refine .tup _ us hl fun i c u hc hu=>?_;rcases i with _|_|i
  ·simp only [List.getElem?_cons_zero,Option.some.injEq] at hc;subst hc;have h1:=hh 0 _ u rfl hu;cases h1 with
   | agg _ vs ix h1 h2=>
    refine .agg _ vs ix (fun c hc=>?_) fun j c2 u2 gr sw=>?_
    ·simp only [List.mem_cons,List.not_mem_nil,or_false] at hc;rcases hc with rfl|rfl|rfl<;>rfl
    ·rcases j with _|_|_|j
     ·simp only [List.getElem?_cons_zero,Option.some.injEq] at gr;subst gr;exact (h2 0 _ u2 rfl sw).nilSl 1
     ·simp only [List.getElem?_cons_zero,List.getElem?_cons_succ,Option.some.injEq] at gr;subst gr;exact (h2 1 _ u2 rfl sw).nilSl 3
     ·simp only [List.getElem?_cons_zero,List.getElem?_cons_succ,Option.some.injEq] at gr;subst gr;exact h2 2 _ u2 rfl sw
     ·simp at gr
  ·simp only [List.getElem?_cons_zero,List.getElem?_cons_succ,Option.some.injEq] at hc;subst hc;exact (hh 1 _ u rfl hu).nilSl 3
  ·exact hh (i+2) c u hc hu
theorem Ho {r:Ru} {s:St} {x:Ev} : apE r s x=if evE r x≠0 then evE r x else fst [unl (decide (s.time≤x.time)) 9,doE r s x x.rank.toNat]:=by
 unfold apE;by_cases h:evE r x=0
 ·rw [if_neg (by simpa using h),h];rfl
 ·rw [if_pos h];simp [fst,h]
theorem Hq {r:Ru} {i:Nat} {x:Ev} {l:List Ev} {s:St} (h:apE r s x≠0) : goP r i (x::l) s=(s,i,apE r s x):=by rw [goP,if_pos h]
theorem OQ {r:Ru} {i:Nat} {x:Ev} {l:List Ev} {s:St} (h:apE r s x=0) : goP r i (x::l) s=goP r (i+1) l (apU r s x).1:=by rw [goP,if_neg (by simpa using h)]
theorem Hr {r:Ru} {x:Ev} {l:List Ev} {s:St} (h:apE r s x=0) : fk r (x::l) s=fw x++(apU r s x).2++fk r l (apU r s x).1:=by rw [fk,if_neg (by simpa using h)]
theorem OR {r:Ru} {s:St} (hr:RuOK r) (hi:Inv r s) {x:Ev} (h:apE r s x=0) : 0 < (fw x++(apU r s x).2).length∧(fw x++(apU r s x).2).length≤1003:=by
 obtain ⟨h1,h2⟩:=yO hr hi h;rw [List.length_append];unfold fw;by_cases h4:x.kind=4
 ·rw [if_pos h4];have:=h2 h4;simp only [List.length_nil];omega
 ·rw [if_neg h4];by_cases h5:x.kind=5
  ·rw [if_pos h5];simp only [List.length_singleton];omega
  ·rw [if_neg h5];simp only [List.length_singleton];omega
theorem OS (r:Ru) (l:List Ev) (hn:r.ranks.length≤1000000) (hr:RuOK r) (hl:l.length≤1000000) (hc:∀ x∈l,x.car.size≤1000) :
  VC Tryz.prog 26 [bN r,cF l] (if 200 < l.length then .tup [.agg [bz,bz,I 0],bz,I 0,I 8] else if (goP r 0 l (st0 r)).2.2≠0 then .tup [.agg [bz,bz,I 0],bz,I ((goP r 0 l (st0 r)).2.1:Int),I (goP r 0 l (st0 r)).2.2] else .tup [dH (goP r 0 l (st0 r)).1,.sl 3 ((fk r l (st0 r)).map Sg.av),I 0,I 0]):=by
 have gB:=Nl r hn;have hz:dH (st0 r) = .agg [h_ (st0 r).q,.sl 3 ((st0 r).tk.map Tk.av),I (st0 r).time]:=rfl;have HR:=Lib.hid hr;have HC:=Lib.hid hc;have OT:=Lib.hid (Inv.st0 hr);have OU:Hid ((goP r 0 (l.drop 0) (st0 r)=goP r 0 l (st0 r))∧[]++fk r (l.drop 0) (st0 r)=fk r l (st0 r)):=Lib.hid ⟨rfl,rfl⟩;by_cases hZ:200 < l.length
 ·rw [if_pos hZ];have C6:(200:Int) < l.length:=by omega
  clear hr hc hz;refine aJ Tryz.func26 rfl (by kernel_rfl) rfl fun M0 w0=>?_;simp only [Tryz.ntmps26,Tryz.results26,aC];repeat' with_reducible first|apply af|apply ae|apply aR|apply aw|apply aa|refine ah [] ?_|(apply au;·go_simp)|(apply ab;intro X Y;go_simp;apply Y;clear Y X)
  go_simp
 rw [if_neg hZ];have C6:¬(200:Int) < l.length:=by omega
 obtain ⟨Hs,sS⟩ : ∃ Hs,Hs=(if (goP r 0 l (st0 r)).2.2≠0 then AV.tup [.agg [bz,bz,I 0],bz,I ((goP r 0 l (st0 r)).2.1:Int),I (goP r 0 l (st0 r)).2.2] else .tup [dH (goP r 0 l (st0 r)).1,.sl 3 ((fk r l (st0 r)).map Sg.av),I 0,I 0]):=⟨_,rfl⟩
 rw [←sS];have HE:=Lib.hid sS;rw [hz] at gB;generalize st0 r=S0 at *;obtain ⟨C7,sT,C8⟩:=S0;simp only at gB;clear hr hc sS hz;refine aJ Tryz.func26 rfl (by kernel_rfl) rfl fun M0 w0=>?_;simp only [Tryz.ntmps26,Tryz.results26,aC];repeat' first|(with_reducible first|apply af|apply ae|apply ao|apply az|apply aa|refine ah [9] ?_|(apply aj;·go_simp))|((with_reducible apply ab);intro X Y;go_simp;(first|(refine ⟨_,gB,?_⟩)|skip);apply Y;clear Y X)
 apply lr (α:=Nat×St×List Sg) [1,2,4,8] (fun (x:Nat×St×List Sg)=>[(10,I (x.1:Int)),(9,.osl 2)]) (fun (x:Nat×St×List Sg)=>([some (.box [bz,bz,I 0]),some (.box [h_ x.2.1.q,.sl 3 (x.2.1.tk.map Tk.av),I x.2.1.time]),some (.arr 45 3 (decide (x.2.2=[])) (x.2.2.map Sg.av))] : Hp)) (fun (x:Nat×St×List Sg)=>x.1≤l.length∧x.2.2.length≤x.1*1003∧Hid (Inv r x.2.1)∧Hid (goP r x.1 (l.drop x.1) x.2.1=goP r 0 l ⟨C7,sT,C8⟩∧x.2.2++fk r (l.drop x.1) x.2.1=fk r l ⟨C7,sT,C8⟩)) (fun (x:Nat×St×List Sg)=>l.length - x.1) ((0,(⟨C7,sT,C8⟩ : St),([] : List Sg))) ⟨Nat.zero_le _,Nat.zero_le _,OT,OU⟩
 ·(go_simp<;>exact rfl)
 ·go_simp
 rintro ⟨k,⟨Q,TK,t⟩,g⟩ ⟨ca,qZ,HI,HG⟩ K hK;simp only at ca qZ HI HG hK ⊢;obtain ⟨w1,w2,w3,w4,w5,w6⟩:=ixs (m:=k) (by omega);by_cases hk:k < l.length
 ·have lF:l.drop k=aB l k::l.drop (k+1):=by
   rw [kq hk];exact List.drop_eq_getElem_cons hk
  have gG:=HC.out _ (List.getElem_mem hk);rw [←kq hk] at gG;have ek:l[k]=aB l k:=(kq hk).symm;obtain ⟨lG,l9⟩:=HG.out;rw [lF] at lG l9;have g1:=Nj r (aB l k) hn gG;have jy:(k:Int) < l.length:=by omega
  by_cases hv:evE r (aB l k)=0
  ·rw [hv] at g1;have g2:=Oa r ⟨Q,TK,t⟩ (aB l k) HR.out HI.out hv;have zJ:=Ho (r:=r) (s:=⟨Q,TK,t⟩) (x:=aB l k);rw [if_neg (by simpa using hv)] at zJ;rw [←zJ] at g2;by_cases ha:apE r ⟨Q,TK,t⟩ (aB l k)=0
   ·have g3:=OP r ⟨Q,TK,t⟩ (aB l k) hn HR.out HI.out ha;obtain ⟨s1,s2⟩:=OR HR.out HI.out ha;rw [OQ ha] at lG;rw [Hr ha,←List.append_assoc] at l9;have bJ:=(Inv.ap HR.out HI.out ha).1;rw [ha] at g2;clear zJ ha hv gG;generalize fw (aB l k)++(apU r ⟨Q,TK,t⟩ (aB l k)).2=U at *;generalize (apU r ⟨Q,TK,t⟩ (aB l k)).1=S1 at *;obtain ⟨Q1,C9,t1⟩:=S1;have j9:=Lib.hid (And.intro lG l9);have bh:=Lib.hid bJ;have kY:(g++U).map Sg.av=g.map Sg.av++U.map Sg.av:=List.map_append;have ax:¬g++U=[]:=fun h=>by
     rw [List.append_eq_nil_iff] at h;rw [h.2] at s1;simp at s1
    have hlen:(g++U).length≤(k+1)*1003:=by
     rw [List.length_append,Nat.add_mul];omega
    have hb:g.length+U.length≤1000000000:=by
     have:k*1003≤200*1003:=Nat.mul_le_mul_right _ (by omega);omega
    clear lG l9 bJ lF qZ HI HG;repeat' with_reducible apply af
    refine ah [] ?_;repeat' with_reducible first|apply af|apply ae|apply ao|apply az|apply aa|(apply au;·go_simp)|(apply ab;intro X Y;go_simp;apply Y;clear Y X)
    refine bf 7 5 [] rfl (by kernel_rfl) ?_;simp only [aA];repeat' with_reducible first|apply af|apply ae|apply aa|apply aP|((first|apply ab|apply aO);intro X Y;go_simp;(first|(refine ⟨_,g1,?_⟩)|skip);apply Y;clear Y X)
    refine ah [] ?_;repeat' with_reducible first|apply ae|apply aa|(apply au;·go_simp)|(apply ab;intro X Y;go_simp;apply Y;clear Y X)
    refine bf 8 6 [] rfl (by kernel_rfl) ?_;simp only [aA];repeat' with_reducible first|apply af|apply ae|apply aa|apply aP|((first|apply ab|apply aO);intro X Y;go_simp;(first|(refine ⟨_,g2,?_⟩)|skip);apply Y;clear Y X)
    refine ah [] ?_;repeat' with_reducible first|apply af|apply ae|apply ao|apply aa|(apply aj;·go_simp)|(apply ab;intro X Y;go_simp;apply Y;clear Y X)
    refine G4 12 [] (fun i=>i == 10 || i == 11) (by kernel_rfl) (by kernel_rfl) (by kernel_rfl) (by go_simp) (by go_simp) ?_;simp only [aA];repeat ((with_reducible refine mH rfl fun X Y=>?_);go_simp;(first|(with_reducible refine ⟨_,g3,?_⟩)|skip);refine Y _ (by go_simp) ?_;clear Y X)
    refine pY [some (.box [bz,bz,I 0])] none (.ref 3 0) rfl ⟨rfl,fun _=>rfl,fun _ h=>by cases h⟩ ?_ ?_
    ·intro s2 cV;go_simp
    refine pY [some (.box [h_ Q1,.sl 3 (C9.map Tk.av),I t1])] none .any rfl ⟨rfl,fun _=>rfl,fun _ h=>by cases h⟩ ?_ ?_
    ·intro s2 cV;have q1:lkp s2 12 = .ref 3 0:=(cV 12 (by simp [Op.operands]) (by go_simp)).trans (by go_simp);have q2:lkp s2 54=dH ⟨Q1,C9,t1⟩:=(cV 54 (by simp [Op.operands]) (by go_simp)).trans (by go_simp);clear cV;go_simp
    repeat (first|(with_reducible first|apply ae|apply aa|(apply ab;intro X Y;go_simp;apply Y;clear Y X))|((with_reducible refine wQ ?_);simp only [List.cons_append,List.nil_append,nQ]))
    skip
    refine mQ 3 [12,56] (by kernel_rfl) (by kernel_rfl) (by kernel_rfl) (purge 2) (AK 2) rfl ⟨rfl,rfl⟩ ?_;simp only [List.take];repeat' with_reducible first|apply aP|(apply aO;intro X Y;go_simp;apply Y;clear Y X)
    refine ⟨_,_,OO (id:=2) (sz:=3) (nl:=decide (g=[])) (es':=g.map Sg.av) (es:=U.map Sg.av) (by exact rfl) (by exact rfl) (by go_simp) (by go_simp) NH NI (by exact rfl) ⟨rfl,rfl,rfl,rfl,by decide⟩ (fun _=>by simpa using s1) (by simpa using hb),?_,?_,?_⟩
    ·simp only [List.forall_mem_cons];go_simp
    ·repeat' with_reducible first|apply aP|(apply aO;intro X Y;go_simp;apply Y;clear Y X)
     simp only [List.forall_mem_cons];go_simp
    go_simp;refine bM [] 2 ⟨rfl,rfl⟩ ?_;simp only [aA];repeat' with_reducible first|apply aa|(apply ab;intro X Y;go_simp;apply Y;clear Y X)
    apply da;repeat' with_reducible first|apply ae|apply aY
    refine ah [] ?_;repeat' with_reducible first|apply ae|apply aa|(apply ab;intro X Y;go_simp;apply Y;clear Y X)
    refine hK _ (k+1,⟨Q1,C9,t1⟩,g++U) ⟨hk,hlen,bh,j9⟩ (by simp only;omega) ?_;simp only [kY,decide_eq_false ax];go_simp
   ·have e:=HE.out;rw [Hq ha] at lG;rw [←lG,if_pos ha] at e;subst e;clear lG l9 zJ HG HE;generalize apE r ⟨Q,TK,t⟩ (aB l k)=A at *;repeat' first|(with_reducible first|apply af|apply ae|apply aR|apply aw|apply ao|apply az|apply cB|apply aa|refine ah [] ?_|apply aP|(apply au;·go_simp)|((first|apply ab|apply aO);intro X Y;go_simp;(first|(refine ⟨_,g1,?_⟩)|(refine ⟨_,g2,?_⟩)|skip);apply Y;clear Y X))|((refine bf 7 7 [] rfl (by kernel_rfl) ?_);simp only [aA])|((refine bf 8 8 [] rfl (by kernel_rfl) ?_);simp only [aA])
    go_simp
  ·have e:=HE.out;have ha:apE r ⟨Q,TK,t⟩ (aB l k)=evE r (aB l k):=by rw [Ho,if_pos hv]
   rw [Hq (by rw [ha];exact hv),ha] at lG;rw [←lG,if_pos hv] at e;subst e;clear lG l9 ha HG HE;generalize evE r (aB l k)=A at *;repeat' first|(with_reducible first|apply af|apply ae|apply aR|apply aw|apply ao|apply az|apply cB|apply aa|refine ah [] ?_|apply aP|(apply au;·go_simp)|(apply aj;·go_simp)|((first|apply ab|apply aO);intro X Y;go_simp;(first|(refine ⟨_,g1,?_⟩)|skip);apply Y;clear Y X))|((refine bf 7 7 [] rfl (by kernel_rfl) ?_);simp only [aA])
   go_simp
 ·obtain rfl:k=l.length:=by omega
  obtain ⟨lG,l9⟩:=HG.out;rw [List.drop_length] at lG l9;have e:=HE.out;rw [←lG,←l9,goP,if_neg (by simp),fk,List.append_nil] at e;subst e;clear lG l9 HG HE;refine nU 9 2 rfl rfl ?_;repeat' with_reducible first|apply af|apply ae|apply bE|apply aw|apply bF|apply bG|apply aa|refine ah [] ?_|(apply aj;·go_simp)|(apply ab;intro X Y;go_simp;apply Y;clear Y X)
  go_simp
theorem C_ (r:Ru) (l:List Ev) (hn:r.ranks.length≤1000000) (hr:RuOK r) (hl:l.length≤1000000) (hc:∀ x∈l,x.car.size≤1000) :
  VC Tryz.prog 26 [bN r,cF l] (.tup [dH (gQ r l).1,.sl 3 ((gQ r l).2.1.map Sg.av),I ((gQ r l).2.2.1:Int),I (gQ r l).2.2.2]):=by
 refine (OS r l hn hr hl hc).weak fun w M v hv=>?_;unfold gQ;by_cases h1:200 < l.length
 ·rw [if_pos h1] at hv ⊢;exact Hn hv
 ·rw [if_neg h1] at hv ⊢;by_cases h2:(goP r 0 l (st0 r)).2.2≠0
  ·rw [if_pos h2] at hv ⊢;exact Hn hv
  ·rw [if_neg h2] at hv ⊢;exact hv
theorem zK {r:Ru} {l:List Ev} : dR r l=if (dm r).2≠0 then (dm r).2 else if 200 < l.length then 8 else 0:=by
 unfold dR;by_cases h:(dm r).2=0
 ·rw [h,if_neg (by simp)];by_cases h2:200 < l.length
  ·rw [if_pos h2];simp [fst,unl,show ¬l.length≤200 by omega]
  ·rw [if_neg h2];simp [fst,unl,show l.length≤200 by omega]
 ·rw [if_pos h];simp [fst,h]
theorem OV {r:Ru} {l:List Ev} (h:(dm r).2≠0) : pR r l=(stZ,0,(dm r).2):=by
 have e:dR r l=(dm r).2:=by rw [zK,if_pos h]
 unfold pR;rw [e,if_pos h]
theorem OW {r:Ru} {l:List Ev} (h:(dm r).2=0) : pR r l=((gQ r l).1,(gQ r l).2.2.1,(gQ r l).2.2.2):=by
 have e:dR r l=if 200 < l.length then 8 else 0:=by rw [zK,if_neg (by simpa using h)]
 unfold pR gQ;rw [e];by_cases h1:200 < l.length
 ·rw [if_pos h1,if_pos h1,if_pos (by decide)]
 ·rw [if_neg h1,if_neg h1,if_neg (by decide)];split<;>rfl
theorem OX {r:Ru} {l:List Ev} : gE r l=if (dm r).2≠0 then (dm r).2 else (gQ r l).2.2.2:=by
 unfold gE;by_cases h:(dm r).2=0
 ·have hz:¬(dm r).2≠0:=by simpa using h
  have e:dR r l=if 200 < l.length then 8 else 0:=by rw [zK,if_neg hz]
  rw [e];simp only [if_neg hz];unfold gQ;by_cases h1:200 < l.length
  ·simp only [if_pos h1];rfl
  ·simp only [if_neg h1];by_cases h2:(goP r 0 l (st0 r)).2.2=0
   ·simp [h2]
   ·simp [h2]
 ·have e:dR r l=(dm r).2:=by rw [zK,if_pos h]
  rw [e,if_pos h,if_pos h]
theorem OY {r:Ru} : di r (st0 r) < 0:=by
 apply Classical.byContradiction;intro h;obtain ⟨k,e,hk,hp⟩:=kH h;have:=(kG hp).2.1;rw [show (st0 r).q=List.replicate r.ranks.length [] from rfl,xT] at this;simp at this
theorem OZ {r:Ru} (hr:RuOK r) {l:List Ev} (h:(goP r 0 l (st0 r)).2.2=0) : Inv r (goP r 0 l (st0 r)).1∧di r (goP r 0 l (st0 r)).1 < 0:=EE hr l 0 (st0 r) (Inv.st0 hr) OY h
theorem Ht:SmallS stZ:=⟨by decide,fun l hl=>(by cases hl),by decide,fun t ht=>(by cases ht),by show i64 0;unfold i64;decide⟩
theorem O0 {r:Ru} (hr:RuOK r) {l:List Ev} : SmallS (gQ r l).1:=by
 unfold gQ;split
 ·exact Ht
 ·split
  ·exact Ht
  ·rename_i h;exact (OZ hr (by simpa using h)).1.small hr
theorem Da (r:Ru) (l:List Ev) (hn:r.ranks.length≤1000000) (cf:∀ k,k < r.ranks.length→(rat r.ranks k).name.size≤1000) (hl:l.length≤1000000) (hc:∀ x∈l,x.car.size≤1000) : VC Tryz.prog 31 [bN r,cF l] (I (gE r l)):=by
 have g1:=GO r hn cf;rw [OX];by_cases h:(dm r).2=0
 ·have g2:=C_ r l hn (uc h).1 hl hc;rw [h] at g1;rw [if_neg (by simpa using h)];clear hc cf h;generalize (gQ r l).1=S1 at *;generalize (gQ r l).2.1=G1 at *;generalize (gQ r l).2.2.1=N1 at *;generalize (gQ r l).2.2.2=E1 at *;refine aJ Tryz.func31 rfl (by kernel_rfl) rfl fun M0 w0=>?_;simp only [Tryz.ntmps31,Tryz.results31,aC];repeat' first|(with_reducible first|apply af|apply ae|apply aw|apply ao|apply aa|refine ah [] ?_|(apply aj;·go_simp))|((with_reducible apply ab);intro X Y;go_simp;(first|(refine ⟨_,g1,?_⟩)|(refine ⟨_,g2,?_⟩)|skip);apply Y;clear Y X)
  go_simp
 ·rw [if_pos h];clear hc cf;generalize (dm r).2=E at *;refine aJ Tryz.func31 rfl (by kernel_rfl) rfl fun M0 w0=>?_;simp only [Tryz.ntmps31,Tryz.results31,aC];repeat' first|(with_reducible first|apply af|apply ae|apply aR|apply aw|apply aa|refine ah [] ?_|(apply au;·go_simp))|((with_reducible apply ab);intro X Y;go_simp;(first|(refine ⟨_,g1,?_⟩)|skip);apply Y;clear Y X)
  go_simp
set_option maxHeartbeats 2000000
theorem O3 (r:Ru) (l:List Ev) (hl:r.ranks.length≤9223372036854775807) (hL:l.length≤9223372036854775807) : VC Tryz.prog 3 [bN r,cF l] (B true):=by
 have ha:=zh;have gF:=zi r hl;have gS:=zk l hL;clear hl hL;cases hF:qW r
 ·rw [hF] at gF;clear hF gS;refine aJ Tryz.func3 rfl (by kernel_rfl) rfl fun M0 w0=>?_;simp only [Tryz.ntmps3,Tryz.results3,aC];repeat' first|(with_reducible first|apply af|apply ae|apply aR|apply aw|apply ao|apply aa|refine ah [] ?_|(apply au;·go_simp)|(apply aj;·go_simp))|((with_reducible apply ab);intro X Y;go_simp;(first|(with_reducible refine ⟨_,ha,?_⟩)|(refine ⟨_,gF,?_⟩)|skip);apply Y;clear Y X)
  go_simp
 rw [hF] at gF;cases hS:qX l
 ·rw [hS] at gS;clear hF hS;refine aJ Tryz.func3 rfl (by kernel_rfl) rfl fun M0 w0=>?_;simp only [Tryz.ntmps3,Tryz.results3,aC];repeat' first|(with_reducible first|apply af|apply ae|apply aR|apply aw|apply ao|apply aa|refine ah [] ?_|(apply au;·go_simp)|(apply aj;·go_simp))|((with_reducible apply ab);intro X Y;go_simp;(first|(with_reducible refine ⟨_,ha,?_⟩)|(refine ⟨_,gF,?_⟩)|(refine ⟨_,gS,?_⟩)|skip);apply Y;clear Y X)
  go_simp
 rw [hS] at gS;obtain ⟨h8,cf⟩:=zj hF;obtain ⟨fA,hc⟩:=zm hS;have cJ:SmallL r l:=⟨by omega,cf,hc⟩
 have g1:=zf r (by omega);have g2:=zd l (by omega);have g3:=FN r l cJ;have g4:=GO r (by omega) cf;by_cases h:(dm r).2=0
 ·have g5:=C_ r l (by omega) (uc h).1 (by omega) hc;have g6:=M4 (gQ r l).1 (O0 (uc h).1);rw [OW h] at g3;rw [h] at g4;simp only at g3;clear hF hS h8 cf fA hc cJ h;generalize (gQ r l).1=S1 at *;generalize (gQ r l).2.1=G1 at *;generalize (gQ r l).2.2.1=N1 at *;generalize (gQ r l).2.2.2=E1 at *;refine aJ Tryz.func3 rfl (by kernel_rfl) rfl fun M0 w0=>?_;simp only [Tryz.ntmps3,Tryz.results3,aC];repeat' first|(with_reducible first|apply af|apply ae|apply aw|apply ao|apply aa|refine ah [] ?_|(apply aj;·go_simp))|((with_reducible apply ab);intro X Y;go_simp;(first|(with_reducible refine ⟨_,ha,?_⟩)|(refine ⟨_,gF,?_⟩)|(refine ⟨_,gS,?_⟩)|(refine ⟨_,g1,?_⟩)|(refine ⟨_,g2,?_⟩)|(refine ⟨_,g3,?_⟩)|(refine ⟨_,g4,?_⟩)|(refine ⟨_,g5,?_⟩)|(refine ⟨_,g6,?_⟩)|skip);apply Y;clear Y X)
  go_simp
 ·have g6:=Nn;rw [OV h] at g3;simp only at g3;clear hF hS h8 cf fA hc cJ;generalize (dm r).2=E at *;refine aJ Tryz.func3 rfl (by kernel_rfl) rfl fun M0 w0=>?_;simp only [Tryz.ntmps3,Tryz.results3,aC];repeat' first|(with_reducible first|apply af|apply ae|apply aR|apply aw|apply ao|apply aa|refine ah [] ?_|(apply au;·go_simp)|(apply aj;·go_simp))|((with_reducible apply ab);intro X Y;go_simp;(first|(with_reducible refine ⟨_,ha,?_⟩)|(refine ⟨_,gF,?_⟩)|(refine ⟨_,gS,?_⟩)|(refine ⟨_,g1,?_⟩)|(refine ⟨_,g2,?_⟩)|(refine ⟨_,g3,?_⟩)|(refine ⟨_,g4,?_⟩)|(refine ⟨_,g6,?_⟩)|skip);apply Y;clear Y X)
  go_simp
end Go.Proofs.YtoibondihdhnoaaGreatDoor
