/- Texts in one: A log of ranks is told and read again: true whatever the input is. -/
import Derived.Test.YtoibondihdhnoaaGreatDoorFRP57
import Derived.Test.YtoibondihdhnoaaGreatDoorFRP32
import Derived.Test.YtoibondihdhnoaaGreatDoorFRP31
import Derived.Test.YtoibondihdhnoaaGreatDoorFRP35
import Derived.Test.YtoibondihdhnoaaGreatDoorFRP47
import Derived.Test.YtoibondihdhnoaaGreatDoorFRP58
import Derived.Test.YtoibondihdhnoaaGreatDoorFRP9
import Derived.Test.YtoibondihdhnoaaGreatDoorFRP45
import Derived.Test.YtoibondihdhnoaaGreatDoorFRP40
import Derived.Test.YtoibondihdhnoaaGreatDoorFRP48
import Derived.Test.YtoibondihdhnoaaGreatDoorFRP53
import Derived.Test.YtoibondihdhnoaaGreatDoorFRP54
import Derived.Test.YtoibondihdhnoaaGreatDoorFRP29
import Derived.Test.YtoibondihdhnoaaGreatDoorFRP30
import Derived.Test.YtoibondihdhnoaaGreatDoorFRP51
import Derived.Test.YtoibondihdhnoaaGreatDoorFRP63
import Derived.Test.YtoibondihdhnoaaGreatDoorFRP64
import Derived.Test.YtoibondihdhnoaaGreatDoorFRP46
import Derived.Test.YtoibondihdhnoaaGreatDoorFRP60
import Derived.Test.YtoibondihdhnoaaGreatDoorFRP8
namespace Go.Proofs.YtoibondihdhnoaaGreatDoor
open Go.RowKit
set_option maxRecDepth 100000
set_option maxHeartbeats 4000000
theorem Qk (r:Ru) (s:St) (x:Ev) (hn:r.ranks.length≤1000000) (hr:RuOK r) (hi:Inv r s) (he:apE r s x=0) : VC Tryz.prog 68 [cY r,cT s,evA x] (.tup [cT (apU r s x).1,.sl 3 ((mf x++(apU r s x).2).map Sg.av)]):=by
 obtain ⟨h1,h2,h3,h5,h6⟩:=parts he;have h4:=x_ h1;have dZ:=hi.small hr;have dO:r.ranks.length=s.q.length:=hi.len.symm;have hk:x.rank.toNat < s.q.length:=by rw [hi.len];exact h6
 have hS:=KH hr hi hk h4 h3;have hI:=hi.doS hr h1 h2 h5 h3;rw [←hS] at hI;have nX:=Bt hr hI;have gE:∃ n,cD 0 (xZ r s x x.rank.toNat).q≤n∧cE r n (xZ r s x x.rank.toNat) (yb r s x x.rank.toNat)=((apU r s x).1,mf x++(apU r s x).2):=by
  refine ⟨cD 0 (doS r s x x.rank.toNat).q,by rw [hS];exact Nat.le_refl _,?_⟩;rw [KJ,hS];rfl
 generalize (apU r s x).1=S2 at *;generalize mf x++(apU r s x).2=M2 at *;clear hS he h1 h2;have dJ:∀ i,i < s.q.length→(qat s.q i).length≤1000000:=fun i ju=>by
  have h1:=hi.fit i ju;have h2:=hr.pl i (by omega);omega
 obtain ⟨kd,tm,rk,car⟩:=x;simp only at *;obtain ⟨k,rfl⟩ : ∃ k:Nat,rk=k:=⟨rk.toNat,h5⟩
 simp only [Int.toNat_natCast] at *;have pJ:kd=0∨kd=1∨kd=2∨kd=3∨kd=4∨kd=5:=by omega
 rcases pJ with rfl|rfl|rfl|rfl|rfl|rfl
 ·exact PA r s S2 tm k car M2 _ _ hn hr dZ hk dO rfl rfl hI (by simp only [List.length_singleton];exact Nat.le_trans (Nat.add_le_add_left (Nat.mul_le_mul_left 2 nX) 1) (by decide)) gE
 ·exact PB r s S2 tm k car M2 _ _ hn hr dZ hk dO rfl rfl hI (by simp only [List.length_singleton];exact Nat.le_trans (Nat.add_le_add_left (Nat.mul_le_mul_left 2 nX) 1) (by decide)) gE
 ·exact PD r s S2 tm k car M2 _ _ hn hr dZ hk dO _ rfl (hr.bk) rfl rfl hI (by simp only [List.length_singleton];exact Nat.le_trans (Nat.add_le_add_left (Nat.mul_le_mul_left 2 nX) 1) (by decide)) gE
 ·exact PC r s S2 tm k car M2 _ _ hn hr dZ hk dO rfl rfl hI (by simp only [List.length_singleton];exact Nat.le_trans (Nat.add_le_add_left (Nat.mul_le_mul_left 2 nX) 1) (by decide)) gE
 ·have hE:jI r s k=0:=h3;have IK:(rat r.ranks k).feeder≠-1:=fun h=>by
   unfold jI at hE;rw [if_pos h] at hE;exact absurd hE (by decide)
  obtain ⟨p1,p2,p3⟩:=hr.feedN (by omega) IK;have hp:0 < (qat s.q (feedN r k)).length:=by
   unfold jI at hE;rw [if_neg IK,cg,cg] at hE;exact of_decide_eq_true (fx (by decide) hE.2.1)
  have lr:(upM s.q k (feedN r k)).length=2:=rfl;exact Pz r s S2 tm k car M2 _ _ _ hn hr dZ hk dO (feedN r k) p1 (by omega) (by omega) hp dJ rfl rfl rfl hI (by rw [lr];exact Nat.le_trans (Nat.add_le_add_left (Nat.mul_le_mul_left 2 nX) 2) (by decide)) gE
 ·exact PG r s S2 tm k car M2 _ _ hn hr dZ hk dO rfl rfl hI (by simp only [List.length_singleton];exact Nat.le_trans (Nat.add_le_add_left (Nat.mul_le_mul_left 2 nX) 1) (by decide)) gE
def jv (r:Ru) (l:List Ev) : St×List Sg×Nat×Int:=
 if 200 < l.length then (stZ,[],0,8) else if (goP r 0 l (st0 r)).2.2≠0 then (stZ,[],(goP r 0 l (st0 r)).2.1,(goP r 0 l (st0 r)).2.2) else ((goP r 0 l (st0 r)).1,mg r l (st0 r),0,0)
theorem IL {w:World} {M:Nat→Nat→Prop} {v:Value} {n e:Int} (hv:V0 w M (.tup [.agg [br,br,I 0],br,I n,I e]) v) : V0 w M (.tup [cT stZ,.sl 3 [],I n,I e]) v:=by
 cases hv with
 | tup _ us hl hh=>
  refine .tup _ us hl fun i c u hc hu=>?_;rcases i with _|_|i
  ·simp only [List.getElem?_cons_zero,Option.some.injEq] at hc;subst hc;have h1:=hh 0 _ u rfl hu;cases h1 with
   | agg _ vs fW h1 h2=>
    refine .agg _ vs fW (fun c hc=>?_) fun j c2 u2 eP sd=>?_
    ·simp only [List.mem_cons,List.not_mem_nil,or_false] at hc;rcases hc with rfl|rfl|rfl<;>rfl
    ·rcases j with _|_|_|j
     ·simp only [List.getElem?_cons_zero,Option.some.injEq] at eP;subst eP;exact (h2 0 _ u2 rfl sd).nilSl 1
     ·simp only [List.getElem?_cons_zero,List.getElem?_cons_succ,Option.some.injEq] at eP;subst eP;exact (h2 1 _ u2 rfl sd).nilSl 3
     ·simp only [List.getElem?_cons_zero,List.getElem?_cons_succ,Option.some.injEq] at eP;subst eP;exact h2 2 _ u2 rfl sd
     ·simp at eP
  ·simp only [List.getElem?_cons_zero,List.getElem?_cons_succ,Option.some.injEq] at hc;subst hc;exact (hh 1 _ u rfl hu).nilSl 3
  ·exact hh (i+2) c u hc hu
theorem IM {r:Ru} {s:St} {x:Ev} : apE r s x=if evE r x≠0 then evE r x else fst [unl (decide (s.time≤x.time)) 9,doE r s x x.rank.toNat]:=by
 unfold apE;by_cases h:evE r x=0
 ·rw [if_neg (by simpa using h),h];rfl
 ·rw [if_pos h];simp [fst,h]
theorem zO {r:Ru} {i:Nat} {x:Ev} {l:List Ev} {s:St} (h:apE r s x≠0) : goP r i (x::l) s=(s,i,apE r s x):=by rw [goP,if_pos h]
theorem zP {r:Ru} {i:Nat} {x:Ev} {l:List Ev} {s:St} (h:apE r s x=0) : goP r i (x::l) s=goP r (i+1) l (apU r s x).1:=by rw [goP,if_neg (by simpa using h)]
theorem Ql {r:Ru} {x:Ev} {l:List Ev} {s:St} (h:apE r s x=0) : mg r (x::l) s=mf x++(apU r s x).2++mg r l (apU r s x).1:=by rw [mg,if_neg (by simpa using h)]
theorem Qm {r:Ru} {s:St} (hr:RuOK r) (hi:Inv r s) {x:Ev} (h:apE r s x=0) : 0 < (mf x++(apU r s x).2).length∧(mf x++(apU r s x).2).length≤1003:=by
 obtain ⟨h1,h2⟩:=Lr hr hi h;rw [List.length_append];unfold mf;by_cases h4:x.kind=4
 ·rw [if_pos h4];have:=h2 h4;simp only [List.length_nil];omega
 ·rw [if_neg h4];by_cases h5:x.kind=5
  ·rw [if_pos h5];simp only [List.length_singleton];omega
  ·rw [if_neg h5];simp only [List.length_singleton];omega
theorem Qn (r:Ru) (l:List Ev) (hn:r.ranks.length≤1000000) (hr:RuOK r) (hl:l.length≤1000000) (hc:∀ x∈l,x.car.size≤1000) :
  VC Tryz.prog 26 [cY r,iZ l] (if 200 < l.length then .tup [.agg [br,br,I 0],br,I 0,I 8] else if (goP r 0 l (st0 r)).2.2≠0 then .tup [.agg [br,br,I 0],br,I ((goP r 0 l (st0 r)).2.1:Int),I (goP r 0 l (st0 r)).2.2] else .tup [cT (goP r 0 l (st0 r)).1,.sl 3 ((mg r l (st0 r)).map Sg.av),I 0,I 0]):=by
 have gB:=NV r hn;have hz:cT (st0 r) = .agg [gp (st0 r).q,.sl 3 ((st0 r).tk.map Tk.av),I (st0 r).time]:=rfl;have HR:=Lib.hid hr;have HC:=Lib.hid hc;have Qo:=Lib.hid (Inv.st0 hr);have Qp:Hid ((goP r 0 (l.drop 0) (st0 r)=goP r 0 l (st0 r))∧[]++mg r (l.drop 0) (st0 r)=mg r l (st0 r)):=Lib.hid ⟨rfl,rfl⟩;by_cases xg:200 < l.length
 ·rw [if_pos xg];have Du:(200:Int) < l.length:=by omega
  clear hr hc hz;refine aP Tryz.func26 rfl (by kernel_rfl) rfl fun M0 w0=>?_;simp only [Tryz.ntmps26,Tryz.results26,aF];repeat' with_reducible first|apply af|apply ae|apply aZ|apply ax|apply aa|refine ah [] ?_|(apply aw;·go_simp)|(apply ab;intro X Y;go_simp;apply Y;clear Y X)
  go_simp
 rw [if_neg xg];have Du:¬(200:Int) < l.length:=by omega
 obtain ⟨IN,sU⟩ : ∃ IN,IN=(if (goP r 0 l (st0 r)).2.2≠0 then AV.tup [.agg [br,br,I 0],br,I ((goP r 0 l (st0 r)).2.1:Int),I (goP r 0 l (st0 r)).2.2] else .tup [cT (goP r 0 l (st0 r)).1,.sl 3 ((mg r l (st0 r)).map Sg.av),I 0,I 0]):=⟨_,rfl⟩
 rw [←sU];have HE:=Lib.hid sU;rw [hz] at gB;generalize st0 r=S0 at *;obtain ⟨Dv,sV,Dw⟩:=S0;simp only at gB;clear hr hc sU hz;refine aP Tryz.func26 rfl (by kernel_rfl) rfl fun M0 w0=>?_;simp only [Tryz.ntmps26,Tryz.results26,aF];repeat' first|(with_reducible first|apply af|apply ae|apply au|apply aB|apply aa|refine ah [9] ?_|(apply ar;·go_simp))|((with_reducible apply ab);intro X Y;go_simp;(first|(refine ⟨_,gB,?_⟩)|skip);apply Y;clear Y X)
 apply oX (α:=Nat×St×List Sg) [1,2,4,8] (fun (x:Nat×St×List Sg)=>[(10,I (x.1:Int)),(9,.osl 2)]) (fun (x:Nat×St×List Sg)=>([some (.box [br,br,I 0]),some (.box [gp x.2.1.q,.sl 3 (x.2.1.tk.map Tk.av),I x.2.1.time]),some (.arr 45 3 (decide (x.2.2=[])) (x.2.2.map Sg.av))] : Hp)) (fun (x:Nat×St×List Sg)=>x.1≤l.length∧x.2.2.length≤x.1*1003∧Hid (Inv r x.2.1)∧Hid (goP r x.1 (l.drop x.1) x.2.1=goP r 0 l ⟨Dv,sV,Dw⟩∧x.2.2++mg r (l.drop x.1) x.2.1=mg r l ⟨Dv,sV,Dw⟩)) (fun (x:Nat×St×List Sg)=>l.length - x.1) ((0,(⟨Dv,sV,Dw⟩ : St),([] : List Sg))) ⟨Nat.zero_le _,Nat.zero_le _,Qo,Qp⟩
 ·(go_simp<;>exact rfl)
 ·go_simp
 rintro ⟨k,⟨Q,TK,t⟩,g⟩ ⟨db,sG,HI,HG⟩ K hK;simp only at db sG HI HG hK ⊢;obtain ⟨w1,w2,w3,w4,w5,w6⟩:=ixs (m:=k) (by omega);by_cases hk:k < l.length
 ·have lX:l.drop k=cl l k::l.drop (k+1):=by
   rw [mD hk];exact List.drop_eq_getElem_cons hk
  have dK:=HC.out _ (List.getElem_mem hk);rw [←mD hk] at dK;have ek:l[k]=cl l k:=(mD hk).symm;obtain ⟨l5,mu⟩:=HG.out;rw [lX] at l5 mu;have g1:=NP r (cl l k) hn dK;have jH:(k:Int) < l.length:=by omega
  by_cases hv:evE r (cl l k)=0
  ·rw [hv] at g1;have g2:=O0 r ⟨Q,TK,t⟩ (cl l k) HR.out HI.out hv;have zQ:=IM (r:=r) (s:=⟨Q,TK,t⟩) (x:=cl l k);rw [if_neg (by simpa using hv)] at zQ;rw [←zQ] at g2;by_cases ha:apE r ⟨Q,TK,t⟩ (cl l k)=0
   ·have g3:=Qk r ⟨Q,TK,t⟩ (cl l k) hn HR.out HI.out ha;obtain ⟨s1,s2⟩:=Qm HR.out HI.out ha;rw [zP ha] at l5;rw [Ql ha,←List.append_assoc] at mu;have bM:=(Inv.ap HR.out HI.out ha).1;rw [ha] at g2;clear zQ ha hv dK;generalize mf (cl l k)++(apU r ⟨Q,TK,t⟩ (cl l k)).2=U at *;generalize (apU r ⟨Q,TK,t⟩ (cl l k)).1=S1 at *;obtain ⟨Q1,Dx,t1⟩:=S1;have Qq:=Lib.hid (And.intro l5 mu);have bF:=Lib.hid bM;have lr:(g++U).map Sg.av=g.map Sg.av++U.map Sg.av:=List.map_append;have aq:¬g++U=[]:=fun h=>by
     rw [List.append_eq_nil_iff] at h;rw [h.2] at s1;simp at s1
    have hlen:(g++U).length≤(k+1)*1003:=by
     rw [List.length_append,Nat.add_mul];omega
    have hb:g.length+U.length≤1000000000:=by
     have:k*1003≤200*1003:=Nat.mul_le_mul_right _ (by omega);omega
    clear l5 mu bM lX sG HI HG;repeat' with_reducible apply af
    refine ah [] ?_;repeat' with_reducible first|apply af|apply ae|apply au|apply aB|apply aa|(apply aw;·go_simp)|(apply ab;intro X Y;go_simp;apply Y;clear Y X)
    refine bc 7 5 [] rfl (by kernel_rfl) ?_;simp only [az];repeat' with_reducible first|apply af|apply ae|apply aa|apply aT|((first|apply ab|apply aU);intro X Y;go_simp;(first|(refine ⟨_,g1,?_⟩)|skip);apply Y;clear Y X)
    refine ah [] ?_;repeat' with_reducible first|apply ae|apply aa|(apply aw;·go_simp)|(apply ab;intro X Y;go_simp;apply Y;clear Y X)
    refine bc 8 6 [] rfl (by kernel_rfl) ?_;simp only [az];repeat' with_reducible first|apply af|apply ae|apply aa|apply aT|((first|apply ab|apply aU);intro X Y;go_simp;(first|(refine ⟨_,g2,?_⟩)|skip);apply Y;clear Y X)
    refine ah [] ?_;repeat' with_reducible first|apply af|apply ae|apply au|apply aa|(apply ar;·go_simp)|(apply ab;intro X Y;go_simp;apply Y;clear Y X)
    refine Dd 12 [] (fun i=>i == 10 || i == 11) (by kernel_rfl) (by kernel_rfl) (by kernel_rfl) (by go_simp) (by go_simp) ?_;simp only [az];repeat ((with_reducible refine lY rfl fun X Y=>?_);go_simp;(first|(with_reducible refine ⟨_,g3,?_⟩)|skip);refine Y _ (by go_simp) ?_;clear Y X)
    refine oH [some (.box [br,br,I 0])] none (.ref 3 0) rfl ⟨rfl,fun _=>rfl,fun _ h=>by cases h⟩ ?_ ?_
    ·intro s2 cL;go_simp
    refine oH [some (.box [gp Q1,.sl 3 (Dx.map Tk.av),I t1])] none .any rfl ⟨rfl,fun _=>rfl,fun _ h=>by cases h⟩ ?_ ?_
    ·intro s2 cL;have q1:lkp s2 12 = .ref 3 0:=(cL 12 (by simp [Op.operands]) (by go_simp)).trans (by go_simp);have q2:lkp s2 54=cT ⟨Q1,Dx,t1⟩:=(cL 54 (by simp [Op.operands]) (by go_simp)).trans (by go_simp);clear cL;go_simp
    repeat (first|(with_reducible first|apply ae|apply aa|(apply ab;intro X Y;go_simp;apply Y;clear Y X))|((with_reducible refine ux ?_);simp only [List.cons_append,List.nil_append,nf]))
    skip
    refine mJ 3 [12,56] (by kernel_rfl) (by kernel_rfl) (by kernel_rfl) (purge 2) (AE 2) rfl ⟨rfl,rfl⟩ ?_;simp only [List.take];repeat' with_reducible first|apply aT|(apply aU;intro X Y;go_simp;apply Y;clear Y X)
    refine ⟨_,_,PH (id:=2) (sz:=3) (nl:=decide (g=[])) (es':=g.map Sg.av) (es:=U.map Sg.av) (by exact rfl) (by exact rfl) (by go_simp) (by go_simp) PW PX (by exact rfl) ⟨rfl,rfl,rfl,rfl,by decide⟩ (fun _=>by simpa using s1) (by simpa using hb),?_,?_,?_⟩
    ·simp only [List.forall_mem_cons];go_simp
    ·repeat' with_reducible first|apply aT|(apply aU;intro X Y;go_simp;apply Y;clear Y X)
     simp only [List.forall_mem_cons];go_simp
    go_simp;refine ca [] 2 ⟨rfl,rfl⟩ ?_;simp only [az];repeat' with_reducible first|apply aa|(apply ab;intro X Y;go_simp;apply Y;clear Y X)
    apply dA;repeat' with_reducible first|apply ae|apply bp
    refine ah [] ?_;repeat' with_reducible first|apply ae|apply aa|(apply ab;intro X Y;go_simp;apply Y;clear Y X)
    refine hK _ (k+1,⟨Q1,Dx,t1⟩,g++U) ⟨hk,hlen,bF,Qq⟩ (by simp only;omega) ?_;simp only [lr,decide_eq_false aq];go_simp
   ·have e:=HE.out;rw [zO ha] at l5;rw [←l5,if_pos ha] at e;subst e;clear l5 mu zQ HG HE;generalize apE r ⟨Q,TK,t⟩ (cl l k)=A at *;repeat' first|(with_reducible first|apply af|apply ae|apply aZ|apply ax|apply au|apply aB|apply cX|apply aa|refine ah [] ?_|apply aT|(apply aw;·go_simp)|((first|apply ab|apply aU);intro X Y;go_simp;(first|(refine ⟨_,g1,?_⟩)|(refine ⟨_,g2,?_⟩)|skip);apply Y;clear Y X))|((refine bc 7 7 [] rfl (by kernel_rfl) ?_);simp only [az])|((refine bc 8 8 [] rfl (by kernel_rfl) ?_);simp only [az])
    go_simp
  ·have e:=HE.out;have ha:apE r ⟨Q,TK,t⟩ (cl l k)=evE r (cl l k):=by rw [IM,if_pos hv]
   rw [zO (by rw [ha];exact hv),ha] at l5;rw [←l5,if_pos hv] at e;subst e;clear l5 mu ha HG HE;generalize evE r (cl l k)=A at *;repeat' first|(with_reducible first|apply af|apply ae|apply aZ|apply ax|apply au|apply aB|apply cX|apply aa|refine ah [] ?_|apply aT|(apply aw;·go_simp)|(apply ar;·go_simp)|((first|apply ab|apply aU);intro X Y;go_simp;(first|(refine ⟨_,g1,?_⟩)|skip);apply Y;clear Y X))|((refine bc 7 7 [] rfl (by kernel_rfl) ?_);simp only [az])
   go_simp
 ·obtain rfl:k=l.length:=by omega
  obtain ⟨l5,mu⟩:=HG.out;rw [List.drop_length] at l5 mu;have e:=HE.out;rw [←l5,←mu,goP,if_neg (by simp),mg,List.append_nil] at e;subst e;clear l5 mu HG HE;refine pr 9 2 rfl rfl ?_;repeat' with_reducible first|apply af|apply ae|apply bP|apply ax|apply bQ|apply bT|apply aa|refine ah [] ?_|(apply ar;·go_simp)|(apply ab;intro X Y;go_simp;apply Y;clear Y X)
  go_simp
theorem Qr (r:Ru) (l:List Ev) (hn:r.ranks.length≤1000000) (hr:RuOK r) (hl:l.length≤1000000) (hc:∀ x∈l,x.car.size≤1000) :
  VC Tryz.prog 26 [cY r,iZ l] (.tup [cT (jv r l).1,.sl 3 ((jv r l).2.1.map Sg.av),I ((jv r l).2.2.1:Int),I (jv r l).2.2.2]):=by
 refine (Qn r l hn hr hl hc).weak fun w M v hv=>?_;unfold jv;by_cases h1:200 < l.length
 ·rw [if_pos h1] at hv ⊢;exact IL hv
 ·rw [if_neg h1] at hv ⊢;by_cases h2:(goP r 0 l (st0 r)).2.2≠0
  ·rw [if_pos h2] at hv ⊢;exact IL hv
  ·rw [if_neg h2] at hv ⊢;exact hv
theorem Dz {r:Ru} {l:List Ev} : iA r l=if (df r).2≠0 then (df r).2 else if 200 < l.length then 8 else 0:=by
 unfold iA;by_cases h:(df r).2=0
 ·rw [h,if_neg (by simp)];by_cases h2:200 < l.length
  ·rw [if_pos h2];simp [fst,unl,show ¬l.length≤200 by omega]
  ·rw [if_neg h2];simp [fst,unl,show l.length≤200 by omega]
 ·rw [if_pos h];simp [fst,h]
theorem IP {r:Ru} {l:List Ev} (h:(df r).2=0) : sc r l=((jv r l).1,(jv r l).2.2.1,(jv r l).2.2.2):=by
 have e:iA r l=if 200 < l.length then 8 else 0:=by rw [Dz,if_neg (by simpa using h)]
 unfold sc jv;rw [e];by_cases h1:200 < l.length
 ·rw [if_pos h1,if_pos h1,if_pos (by decide)]
 ·rw [if_neg h1,if_neg h1,if_neg (by decide)];split<;>rfl
theorem Qs {r:Ru} {l:List Ev} : pj r l=if (df r).2≠0 then (df r).2 else (jv r l).2.2.2:=by
 unfold pj;by_cases h:(df r).2=0
 ·have hz:¬(df r).2≠0:=by simpa using h
  have e:iA r l=if 200 < l.length then 8 else 0:=by rw [Dz,if_neg hz]
  rw [e];simp only [if_neg hz];unfold jv;by_cases h1:200 < l.length
  ·simp only [if_pos h1];rfl
  ·simp only [if_neg h1];by_cases h2:(goP r 0 l (st0 r)).2.2=0
   ·simp [h2]
   ·simp [h2]
 ·have e:iA r l=(df r).2:=by rw [Dz,if_pos h]
  rw [e,if_pos h,if_pos h]
theorem Qt {r:Ru} : cM r (st0 r) < 0:=by
 apply Classical.byContradiction;intro h;obtain ⟨k,e,hk,hp⟩:=mS h;have:=(mR hp).2.1;rw [show (st0 r).q=List.replicate r.ranks.length [] from rfl,Fo] at this;simp at this
theorem Qu {r:Ru} (hr:RuOK r) {l:List Ev} (h:(goP r 0 l (st0 r)).2.2=0) : Inv r (goP r 0 l (st0 r)).1∧cM r (goP r 0 l (st0 r)).1 < 0:=Fp hr l 0 (st0 r) (Inv.st0 hr) Qt h
def opQ (s:St) (k:Nat) : List (List ByteArray):=s.q.take k++List.replicate (s.q.length - k) []
theorem Qv (s:St) : opQ s 0=List.replicate s.q.length []:=by simp [opQ]
theorem Qw (s:St) : opQ s s.q.length=s.q:=by simp [opQ]
theorem Qx {s:St} {k:Nat} (h:k≤s.q.length) : (opQ s k).length=s.q.length:=by
 unfold opQ;rw [List.length_append,List.length_take,List.length_replicate];omega
theorem Qy {s:St} {k:Nat} (h:k < s.q.length) : (opQ s k).set k (qat s.q k)=opQ s (k+1):=by
 unfold opQ;have e:s.q.length - k=(s.q.length - (k+1))+1:=by omega
 rw [e,List.replicate_succ,List.set_append_right _ _ (by rw [List.length_take];omega),lL h,ft h];have e2:k - (s.q.take k).length=0:=by rw [List.length_take];omega
 rw [e2,List.set_cons_zero,List.append_assoc];rfl
def DA (r:Ru) (s:St) : Hp:=
 [some (.bag 62 1 false none (bL s.q)),some (.box [.osl 0,.osl 4,I s.time,.sl 4 (r.ranks.map Rk.av),I r.back,I r.ret,.osl 3]),some (.arr 148 3 true []),some (.arr 45 3 true []),some (.arr 148 3 (decide (s.tk.map Tk.av=[])) (s.tk.map Tk.av))]
theorem Qz (r:Ru) (s:St) (hn:r.ranks.length≤1000000) (cW:∀ k,k < r.ranks.length→(rat r.ranks k).name.size≤1000) (hs:SmallS s) (h:ckE r s=0) (hq:s.q.length=r.ranks.length) : VH Tryz.prog 127 [] [cY r,cT s] [] (DA r s) (.tup [.ref 1 0,I 0]):=by
 have g:=Oj r s hn cW hs;have e0:(st0 r).q=opQ s 0:=by rw [Qv,hq];rfl
 have gw:VH Tryz.prog 100 [] [cY r] [] [some (.bag 62 1 false none (bL (opQ s 0))),some (.box [.osl 0,.osl 2,I 0,.sl 4 (r.ranks.map Rk.av),I r.back,I r.ret,.osl 3]),some (.arr 148 3 true []),some (.arr 45 3 true [])] (.ref 1 0):=by
  have:=FN r hn;unfold tL at this;rw [e0] at this;exact this
 have pn:=hs.q1;have yJ:=hs.nt;have HQ:=Lib.hid pn;have E0:=hs.nq;rw [h] at g;clear cW hs h e0 pn hq;unfold DA;refine fi Tryz.func127 rfl (by kernel_rfl) rfl (fun _=>by kernel_rfl) fun M0 w0 vs=>?_;simp only [Tryz.ntmps127,Tryz.results127,aF];repeat' with_reducible apply af
 refine ah [] ?_;repeat' with_reducible first|apply af|apply ae|apply aa|(apply ab;intro X Y;go_simp;apply Y;clear Y X)
 refine ah [] ?_;repeat' first|(with_reducible first|apply af|apply ae|apply aa)|((with_reducible apply ab);intro X Y;go_simp;(first|(refine ⟨_,g,?_⟩)|skip);apply Y;clear Y X)
 refine ah [] ?_;repeat' with_reducible first|apply af|apply ae|apply au|apply aa|(apply ar;·go_simp)|(apply ab;intro X Y;go_simp;apply Y;clear Y X)
 refine fB (ca [] 1 ⟨rfl,rfl⟩ ?_);simp only [az];repeat' with_reducible first|apply aa|(apply ab;intro X Y;go_simp;apply Y;clear Y X)
 refine fJ [] [] [] [some (.bag 62 1 false none (bL (opQ s 0))),some (.box [.osl 0,.osl 2,I 0,.sl 4 (r.ranks.map Rk.av),I r.back,I r.ret,.osl 3]),some (.arr 148 3 true []),some (.arr 45 3 true [])] (.ref 1 0) rfl (by go_simp) ?_ ?_
 ·unfold fk;go_simp;refine ⟨_,_,⟨_,gw⟩,?_⟩;go_simp;kernel_rfl
 go_simp;refine ca [] 1 ⟨rfl,rfl⟩ ?_;simp only [az];repeat' with_reducible first|apply aa|(apply ab;intro X Y;go_simp;apply Y;clear Y X)
 apply dA;repeat' with_reducible first|apply af|apply ae
 refine ah [] ?_;repeat' with_reducible first|apply ae|apply aB|apply aa|(apply ab;intro X Y;go_simp;apply Y;clear Y X)
 apply kQ [3,7,19,20] (fun k=>[(21,I k)]) (fun k=>([some (.bag 62 1 false none (bL (opQ s k))),some (.box [.osl 0,.osl 2,I 0,.sl 4 (r.ranks.map Rk.av),I r.back,I r.ret,.osl 3]),some (.arr 148 3 true []),some (.arr 45 3 true [])] : Hp))  (s.q.length)
 ·go_simp<;>exact rfl
 ·go_simp
 ·intro k hk K hK;obtain ⟨w1,w2,w3,w4,w5,w6⟩:=ixs (m:=k) (by omega);have hl:=Qx (s:=s) (k:=k) (by omega);have hs:=Qy hk;have db:(qat s.q k).length≤300:=by rw [ft hk];exact (HQ.out _ (List.getElem_mem hk)).1
  repeat' with_reducible apply af
  refine ah [] ?_;repeat' with_reducible first|apply af|apply ae|apply au|apply aB|apply aa|(apply aw;·go_simp)|(apply ab;intro X Y;go_simp;apply Y;clear Y X)
  refine ah [] ?_;repeat' with_reducible first|apply ae|apply aa|(apply ab;intro X Y;go_simp;apply Y;clear Y X)
  refine mJ 7 [7,26,26,27,27,28,28,29,29,30,8,31] (by kernel_rfl) (by kernel_rfl) (by kernel_rfl) (fun v=>v) uV rfl ⟨rfl,rfl⟩ ?_;simp only [List.take];repeat' with_reducible first|apply aT|(apply aU;intro X Y;go_simp;apply Y;clear Y X)
  refine ⟨_,_,th (by exact rfl) (by exact rfl) (by go_simp;exact Kb _ (fun i x hx=>TxO.map _ x (List.mem_of_getElem? hx)) (by rw [List.length_map];omega)) (by go_simp),?_,?_,?_⟩
  ·simp only [List.forall_mem_cons];go_simp
  ·repeat' with_reducible first|apply aT|(apply aU;intro X Y;go_simp;apply Y;clear Y X)
   simp only [List.forall_mem_cons];go_simp
  go_simp;refine ca [] 2 ⟨rfl,rfl⟩ ?_;simp only [az];repeat' with_reducible first|apply aa|(apply ab;intro X Y;go_simp;apply Y;clear Y X)
  apply dA;repeat' with_reducible first|apply ae|apply bp
  refine ah [] ?_;repeat' with_reducible first|apply ae|apply aa|(apply ab;intro X Y;go_simp;apply Y;clear Y X)
  refine hK _ ?_;rw [←hs,←lu];go_simp
 ·intro K;rw [Qw];have gk:=Kf (s.tk.map Tk.av) (fun k x hk=>by
   obtain ⟨y,_,rfl⟩:=ec hk;refine ⟨rfl,fun c hc=>?_⟩;simp only [Tk.av,List.mem_cons,List.not_mem_nil,or_false] at hc;rcases hc with rfl|rfl|rfl<;>rfl) (by rw [List.length_map];omega)
  repeat' with_reducible apply af
  refine ah [] ?_;repeat' with_reducible first|apply af|apply ae|apply bP|apply bQ|apply bT|apply aa|(apply ar;·go_simp)|(apply ab;intro X Y;go_simp;apply Y;clear Y X)
  refine Pw 10 4 [6] [] gk (by kernel_rfl) (by kernel_rfl) (by decide) (by kernel_rfl) rfl ⟨rfl,rfl⟩ rfl rfl ⟨rfl,rfl,rfl⟩ ?_;simp only [az];repeat (first|(refine fc rfl ?_)|((with_reducible refine fe rfl fun X Y=>?_);go_simp;refine Y _ (by go_simp) ?_;clear Y X)|(with_reducible apply ff))
  refine ⟨by go_simp,by go_simp,_,(by go_simp;rfl),?_,?_,?_⟩
  ·unfold ps ps;go_simp;done
  ·unfold ps ps;go_simp;done
  repeat ((with_reducible refine ab fun X Y=>?_);go_simp;refine Y _ ?_;clear Y X)
  apply aa;repeat' with_reducible first|apply af|apply ae
  refine ah [] ?_;repeat' with_reducible first|apply ae|apply ax|apply aa|(apply ab;intro X Y;go_simp;apply Y;clear Y X)
  go_simp
theorem QA (r:Ru) (s:St) (x:Ev) (hr:RuOK r) (hi:Inv r s) (hn:r.ranks.length≤1000000) (cW:∀ k,k < r.ranks.length→(rat r.ranks k).name.size≤1000) (hs:SmallS s) (h:ckE r s=0) (hc:x.car.size≤1000) : VC Tryz.prog 66 [cY r,cT s,evA x] (if apE r s x=0 then .tup [cT (apU r s x).1,I 0] else .tup [.agg [br,br,I 0],I (apE r s x)]):=by
 have gw:=Qz r s hn cW hs h hi.len;unfold DA at gw;obtain ⟨a,wa⟩:=Fz r s [] (decide (s.tk.map Tk.av=[])) x hr hi hc;have hZ:apE r s x=0→(apR r s x).1=(apU r s x).1:=fun h0=>by
  unfold apR;rw [if_pos h0]
 have HZ:=Lib.hid hZ;unfold k6 at wa;generalize decide (s.tk.map Tk.av=[])=F at gw wa;clear hr hi cW hs h hZ;generalize (apR r s x).1=Z at *;generalize (apR r s x).2=mz at *;generalize (apU r s x).1=U at *;generalize apE r s x=E at *;obtain ⟨res,hres⟩ : ∃ res,(if E=0 then AV.tup [cT U,I 0] else .tup [.agg [br,br,I 0],I E])=res:=⟨_,rfl⟩
 rw [hres];have HR:=Lib.hid hres;clear hres;refine aP Tryz.func66 rfl (by kernel_rfl) rfl fun M0 w0=>?_;simp only [Tryz.ntmps66,Tryz.results66,aF];repeat' with_reducible apply af
 refine ah [] ?_;repeat' with_reducible first|apply af|apply ae|apply aa|(apply ab;intro X Y;go_simp;apply Y;clear Y X)
 refine fB (ca [] 2 ⟨rfl,rfl⟩ ?_);simp only [az];repeat' with_reducible first|apply aa|(apply ab;intro X Y;go_simp;apply Y;clear Y X)
 refine fJ [] [] [] [some (.bag 62 1 false none (bL s.q)),some (.box [.osl 0,.osl 4,I s.time,.sl 4 (r.ranks.map Rk.av),I r.back,I r.ret,.osl 3]),some (.arr 148 3 true []),some (.arr 45 3 true []),some (.arr 148 3 F (s.tk.map Tk.av))] (.tup [.ref 1 0,I 0]) rfl (by go_simp) ?_ ?_
 ·unfold fk;go_simp;refine ⟨_,_,⟨_,gw⟩,?_⟩;go_simp;kernel_rfl
 go_simp;refine ca [] 5 ⟨rfl,rfl⟩ ?_;simp only [az];repeat' with_reducible first|apply aa|(apply ab;intro X Y;go_simp;apply Y;clear Y X)
 apply dA;refine g_ 2 6 4 rfl rfl rfl ?_;repeat' with_reducible apply af
 refine ah [] ?_;repeat' with_reducible first|apply ae|apply aa|(apply aw;·go_simp)|(apply ab;intro X Y;go_simp;apply Y;clear Y X)
 refine fB (ca [] 2 ⟨rfl,rfl⟩ ?_);simp only [az];repeat' with_reducible first|apply aa|(apply ab;intro X Y;go_simp;apply Y;clear Y X)
 refine fJ [2,1,5] [2] [] [some (.box [.osl 1,.osl 2,I Z.time,.sl 4 (r.ranks.map Rk.av),I r.back,I r.ret,.sl 3 (mz.map Sg.av)]),some (.bag 62 1 false none (bL Z.q)),some (.arr 148 3 a (Z.tk.map Tk.av))] (I E) rfl (by go_simp) ?_ ?_
 ·unfold fk;go_simp;refine ⟨_,_,_,wa,?_⟩;go_simp;kernel_rfl
 go_simp;refine ca [] 1 ⟨rfl,rfl⟩ ?_;simp only [az];repeat' with_reducible first|apply aa|(apply ab;intro X Y;go_simp;apply Y;clear Y X)
 apply dA;repeat' with_reducible first|apply af|apply ae
 by_cases he:E=0
 ·have e:=HR.out;rw [if_pos he] at e;have hz:=HZ.out he;subst he e hz;refine ah [] ?_;repeat' with_reducible first|apply af|apply ae|apply au|apply aa|(apply ar;·go_simp)|(apply ab;intro X Y;go_simp;apply Y;clear Y X)
  refine ah [] ?_;repeat ((with_reducible refine ab fun X Y=>?_);go_simp;refine Y _ ?_;clear Y X)
  apply aa;apply ae;refine jA (fun p a w R=>R.bagArr (id:=1) rfl (by kernel_rfl)) ?_;go_simp;refine g_ 0 0 1 rfl rfl rfl ?_;refine g_ 0 1 5 rfl rfl rfl ?_;repeat' with_reducible apply ax
  go_simp
 ·have e:=HR.out;rw [if_neg he] at e;subst e;refine ah [] ?_;repeat' with_reducible first|apply af|apply ae|apply aa|(apply aw;·go_simp)|(apply ab;intro X Y;go_simp;apply Y;clear Y X)
  refine ah [] ?_;repeat' with_reducible first|apply ae|apply aZ|apply ax|apply aa|(apply ab;intro X Y;go_simp;apply Y;clear Y X)
  go_simp
structure InS (s:St) : Prop where
 q:s.q.length≤9223372036854775807
 t:s.tk.length≤9223372036854775807
 ti:∀ t∈s.tk,i64 t.rank∧i64 t.time
 tm:i64 s.time
theorem QB {s:St} {t:ByteArray} (ht:t.size≤100000) (h:stP (dh 124 t)=(s,0)) : VC Tryz.prog 62 [S t] (.tup [cT s,I 0]):=by
 unfold stP at h;cases hb:tZ (dh 124 t)
 ·rw [hb,if_neg (by decide)] at h;have g:=Qj t ht hb;rw [(Prod.mk.inj h).1] at g;exact g
 ·rw [hb,if_pos rfl] at h;have:=(Prod.mk.inj h).2;cases this
theorem QC {r:Ru} {s:St} (h:ckE r s=0) : ToldS s:=by
 unfold ckE at h;split at h
 ·rename_i h1;exact absurd h h1
 ·rename_i h1;obtain ⟨hr,-,-⟩:=vB (r:=r) (by simpa using h1);obtain ⟨hi,-⟩:=FG.1 h;have h0:=hr.n0;have h6:=hr.n6;have ht:=hi.t0;refine ⟨by rw [hi.len];omega,fun l hl c hc=>hi.name c ?_,fun t iy=>⟨hi.name _ ?_,?_,?_⟩,by omega⟩
  ·exact List.mem_append_left _ (List.mem_flatten.2 ⟨l,hl,hc⟩)
  ·exact List.mem_append_right _ (List.mem_map_of_mem iy)
  ·have:=hi.tkt t iy;omega
  ·have:=hi.tkr t iy;omega
set_option maxHeartbeats 2000000
theorem DB {r:Ru} {l:List Ev} (h:pj r l=0) : (df r).2=0∧iA r l=0∧l.length≤200∧(goP r 0 l (st0 r)).2.2=0:=by
 unfold pj at h;by_cases h1:iA r l=0
 ·rw [if_neg (by simpa using h1)] at h;obtain ⟨_,h2,h3⟩:=F5 h1;exact ⟨h2,h1,h3,h⟩
 ·rw [if_pos h1] at h;exact absurd h h1
theorem IQ {r:Ru} {l:List Ev} (h:pj r l=0) : jv r l=((goP r 0 l (st0 r)).1,mg r l (st0 r),0,0):=by
 obtain ⟨_,_,h2,h3⟩:=DB h;unfold jv;rw [if_neg (by omega),if_neg (by simpa using h3)]
theorem IS (n d:Int) (hd:0 < d) : -d < n.tmod d∧n.tmod d < d:=by
 have h:(n.tmod d).natAbs < d.natAbs:=by rw [Int.natAbs_tmod];exact Nat.mod_lt _ (by omega)
 omega
def sW (n d:Int) : Int:=if n.tmod d < 0 then n.tmod d+d else n.tmod d
theorem QD (n d:Int) (hd:0 < d) : 0≤sW n d∧sW n d < d:=by
 have:=IS n d hd;unfold sW;split<;>omega
theorem QE (n d:Int) (hd:0 < d) (dC:d≤1000000000) : VC Tryz.prog 82 [I n,I d] (I (sW n d)):=by
 unfold sW;have TF:¬d=0:=by omega
 have ht:=IS n d hd;obtain ⟨q,hq⟩ : ∃ q,n.tmod d=q:=⟨_,rfl⟩
 rw [hq] at ht ⊢;have u1:=iu (x:=q) (by omega) (by omega);have u2:=iu (x:=q+d) (by omega) (by omega);clear ht;by_cases hm:q < 0
 ·rw [if_pos hm];refine aP Tryz.func82 rfl (by kernel_rfl) rfl fun M0 w0=>?_;simp only [Tryz.ntmps82,Tryz.results82,aF];repeat' with_reducible first|apply af|apply ae|apply ax|apply aa|refine ah [] ?_|(apply aw;·go_simp)|(apply ab;intro X Y;go_simp;apply Y;clear Y X)
  go_simp
 ·rw [if_neg hm];refine aP Tryz.func82 rfl (by kernel_rfl) rfl fun M0 w0=>?_;simp only [Tryz.ntmps82,Tryz.results82,aF];repeat' with_reducible first|apply af|apply ae|apply ax|apply au|apply aa|refine ah [] ?_|(apply ar;·go_simp)|(apply ab;intro X Y;go_simp;apply Y;clear Y X)
  go_simp
theorem QF:VC Tryz.prog 80 [] (B true):=by
 have g1:=ND;have g2:=NF;have g3:=BG t_ sx NK;have g5:=Ng zn (by decide) (fun k hk=>by
  have h2:k < 3:=hk;rcases k with _|_|_|k
  ·decide
  ·decide
  ·decide
  ·omega)
 have g8:=Gt sy NL;rw [NG] at g3;rw [NH,NI] at g5;rw [NJ] at g8;generalize t_=R0 at *;generalize hM:sx=M at *;clear hM;generalize hS:sy=S0 at *;clear hS;unfold zn at g5;simp only [cY,iZ,cT,D8,List.map_cons,List.map_nil,Sg.av] at g1 g2 g3 g5 g8;refine aP Tryz.func80 rfl (by kernel_rfl) rfl fun M0 w0=>?_;simp only [Tryz.ntmps80,Tryz.results80,aF];repeat' with_reducible first|apply af|apply ae|apply ax|apply aa|refine ah [] ?_|(apply ab;intro X Y;go_simp;(first|(refine ⟨_,g1,?_⟩)|(refine ⟨_,g2,?_⟩)|(refine ⟨_,g3,?_⟩)|(refine ⟨_,g5,?_⟩)|(refine ⟨_,g8,?_⟩)|skip);apply Y;clear Y X)
 go_simp
theorem DC {r:Ru} (b:List Ev) : ∀ (a:List Ev) (i:Nat) (s:St),goP r i (a++b) s=if (goP r i a s).2.2≠0 then goP r i a s else goP r (i+a.length) b (goP r i a s).1
 | [],i,s=>by simp [goP]
 | x::a,i,s=>by
  by_cases h:apE r s x=0
  ·rw [List.cons_append,zP h,zP h,DC b a (i+1),List.length_cons];have e:i+1+a.length=i+(a.length+1):=by omega
   rw [e]
  ·rw [List.cons_append,zO h,zO h,if_pos (by exact h)]
def sN (r:Ru) (l:List Ev) (k:Nat) : St:=(goP r 0 (l.take k) (st0 r)).1
theorem zR {r:Ru} {l:List Ev} (h:(goP r 0 l (st0 r)).2.2=0) (k:Nat) : (goP r 0 (l.take k) (st0 r)).2.2=0:=by
 apply Classical.byContradiction;intro hk;have:=DC (r:=r) (l.drop k) (l.take k) 0 (st0 r);rw [List.take_append_drop,if_pos hk] at this;rw [this] at h;exact hk h
theorem QG {r:Ru} {l:List Ev} (h:(goP r 0 l (st0 r)).2.2=0) {k:Nat} (hk:k < l.length) : apE r (sN r l k) (cl l k)=0∧(apU r (sN r l k) (cl l k)).1=sN r l (k+1):=by
 have h1:=zR h (k+1);have h2:=zR h k;have e:=DC (r:=r) [cl l k] (l.take k) 0 (st0 r);have et:l.take (k+1)=l.take k++[cl l k]:=by rw [mD hk,lL hk]
 rw [if_neg (by simpa using h2)] at e;rw [et,e] at h1;have h3:=BB h1;refine ⟨h3.1,?_⟩;show _=(goP r 0 (l.take (k+1)) (st0 r)).1;rw [et,e,zP h3.1];rfl
theorem QH {r:Ru} {l:List Ev} (h:pj r l=0) (k:Nat) : pj r (l.take k)=0:=by
 obtain ⟨h1,h2,h3,h4⟩:=DB h;have hl:iA r (l.take k)=0:=by
  unfold iA;have:(l.take k).length≤200:=by rw [List.length_take];omega
  rw [h1,decide_eq_true this];rfl
 unfold pj;rw [if_neg (by simp [hl])];exact zR h4 k
theorem QI {r:Ru} (hn:r.ranks.length≤6) {x:Ev} (h:evE r x=0) : evP (dh 32 (nY x))=(x,0):=by
 have DD:=rW h;have h1:=x_ h;have h2:=ya h;have hh:=h;unfold evE at hh;rw [cg,cg,cg,cg,cg] at hh;have e4:=fx (by decide) hh.2.2.2.1;have e5:=fx (by decide) hh.2.2.2.2.1;rw [Bool.or_eq_true,Bool.not_eq_true',decide_eq_false_iff_not,decide_eq_true_eq] at e4;rw [Bool.or_eq_true,decide_eq_true_eq] at e5;refine Nr h1 (by omega) (by omega) ⟨fun h4=>?_,fun hc=>?_⟩ ?_
 ·exact e4.resolve_left fun hh=>hh h4
 ·exact e5.resolve_right fun hn=>wC hn hc
 ·rcases e5 with h4|hn
  ·exact .inl (e4.resolve_left fun hh=>hh h4)
  ·exact .inr hn
def mC (l:List Ev) (k:Nat) : Bool:=decide ((20:Int) < ((cl l k).car.size:Int))
theorem QJ (r:Ru) (l:List Ev) (hl:r.ranks.length≤9223372036854775807) (hL:l.length≤9223372036854775807) : ∃ b:Bool,VC Tryz.prog 81 [cY r,iZ l] (B b)∧(b=true→ua r=true∧l.length≤20∧(∀ x∈l,x.car.size≤20)∧pj r l=0):=by
 have gF:=NT r hl;cases hF:ua r
 ·refine ⟨false,?_,fun h=>by cases h⟩;rw [hF] at gF;clear hF;refine aP Tryz.func81 rfl (by kernel_rfl) rfl fun M0 w0=>?_;simp only [Tryz.ntmps81,Tryz.results81,aF];repeat' first|(with_reducible first|apply af|apply ae|apply aZ|apply ax|apply aa|refine ah [] ?_|(apply aw;·go_simp))|((with_reducible apply ab);intro X Y;go_simp;(first|(refine ⟨_,gF,?_⟩)|skip);apply Y;clear Y X)
  go_simp
 rw [hF] at gF;by_cases QK:(20:Int) < l.length
 ·refine ⟨false,?_,fun h=>by cases h⟩;clear hF;refine aP Tryz.func81 rfl (by kernel_rfl) rfl fun M0 w0=>?_;simp only [Tryz.ntmps81,Tryz.results81,aF];repeat' first|(with_reducible first|apply af|apply ae|apply aZ|apply ax|apply aa|refine ah [] ?_|(apply aw;·go_simp))|((with_reducible apply ab);intro X Y;go_simp;(first|(refine ⟨_,gF,?_⟩)|skip);apply Y;clear Y X)
  go_simp
 obtain ⟨h8,cW⟩:=Hm hF;cases hA:fU (mC l) 0 l.length;rotate_left
 ·refine ⟨false,?_,fun h=>by cases h⟩;have HA:=Lib.hid hA;clear hF h8 cW hA;refine aP Tryz.func81 rfl (by kernel_rfl) rfl fun M0 w0=>?_;simp only [Tryz.ntmps81,Tryz.results81,aF];repeat' first|(with_reducible first|apply af|apply ae|apply au|apply aB|apply aa|refine ah [] ?_|(apply ar;·go_simp))|((with_reducible apply ab);intro X Y;go_simp;(first|(refine ⟨_,gF,?_⟩)|skip);apply Y;clear Y X)
  apply eo [1,2] (fun k=>[(5,I k)]) (fun k=>([] : Hp)) (mC l) (l.length)
  ·go_simp<;>exact rfl
  ·go_simp
  ·intro k hk HB HP K hK;obtain ⟨w1,w2,w3,w4,w5,w6⟩:=ixs (m:=k) (by omega);have hp:=HP.out;rw [mC,decide_eq_false_iff_not] at hp;repeat' with_reducible first|apply af|apply ae|apply au|apply aB|apply bp|apply aa|refine ah [] ?_|(apply aw;·go_simp)|(apply ar;·go_simp)|(apply ab;intro X Y;go_simp;apply Y;clear Y X)
   refine hK _ ?_;go_simp
  ·intro k hk HB HP K;have hp:=HP.out;rw [mC,decide_eq_true_eq] at hp;repeat' with_reducible first|apply af|apply ae|apply aZ|apply ax|apply au|apply aB|apply cX|apply aa|refine ah [] ?_|(apply aw;·go_simp)|(apply ab;intro X Y;go_simp;apply Y;clear Y X)
   go_simp
  ·intro HB K;have:=HA.out;rw [NM HB.out] at this;cases this
 have dK:∀ x∈l,x.car.size≤20:=fun x hx=>by
  obtain ⟨k,hk,rfl⟩:=List.getElem_of_mem hx;have hp:mC l k=false:=by
   cases hb:mC l k
   ·rfl
   ·rw [ni hk hb] at hA;cases hA
  rw [mC,decide_eq_false_iff_not,mD hk] at hp;omega
 have HC:Hid (∀ k,k < l.length→mC l k=false):=Lib.hid fun k hk=>by
  cases hb:mC l k
  ·rfl
  ·rw [ni hk hb] at hA;cases hA
 have g2:=NN r (by omega) cW;by_cases h0:(df r).2=0
 rotate_left
 ·refine ⟨false,?_,fun h=>by cases h⟩;clear hF h8 cW hA dK;generalize (df r).1=C1 at *;generalize (df r).2=C2 at *;refine aP Tryz.func81 rfl (by kernel_rfl) rfl fun M0 w0=>?_;simp only [Tryz.ntmps81,Tryz.results81,aF];repeat' first|(with_reducible first|apply af|apply ae|apply au|apply aB|apply aa|refine ah [] ?_|(apply ar;·go_simp))|((with_reducible apply ab);intro X Y;go_simp;(first|(refine ⟨_,gF,?_⟩)|skip);apply Y;clear Y X)
  apply eo [1,2] (fun k=>[(5,I k)]) (fun k=>([] : Hp)) (mC l) (l.length)
  ·go_simp<;>exact rfl
  ·go_simp
  ·intro k hk HB HP K hK;obtain ⟨w1,w2,w3,w4,w5,w6⟩:=ixs (m:=k) (by omega);have hp:=HP.out;rw [mC,decide_eq_false_iff_not] at hp;repeat' with_reducible first|apply af|apply ae|apply au|apply aB|apply bp|apply aa|refine ah [] ?_|(apply aw;·go_simp)|(apply ar;·go_simp)|(apply ab;intro X Y;go_simp;apply Y;clear Y X)
   refine hK _ ?_;go_simp
  ·intro k hk HB HP K;have:=HC.out k hk;rw [HP.out] at this;cases this
  ·intro HB K;repeat' first|(with_reducible first|apply af|apply ae|apply bP|apply aZ|apply ax|apply bQ|apply bT|apply aa|refine ah [] ?_|(apply aw;·go_simp)|(apply ar;·go_simp))|((with_reducible apply ab);intro X Y;go_simp;(first|(refine ⟨_,g2,?_⟩)|skip);apply Y;clear Y X)
   go_simp
 have g3:=Qr r l (by omega) (vB h0).1 (by omega) (fun x hx=>by have:=dK x hx;omega);have he:pj r l=(jv r l).2.2.2:=by
  rw [Qs,if_neg (by simp [h0])]
 refine ⟨decide ((jv r l).2.2.2=0),?_,fun h=>⟨rfl,by omega,dK,by rw [he];exact of_decide_eq_true h⟩⟩;rw [h0] at g2;clear hF h8 cW hA dK h0 he;generalize (df r).1=C1 at *;generalize (jv r l).1=S1 at *;generalize (jv r l).2.1=G1 at *;generalize (jv r l).2.2.1=N1 at *;generalize (jv r l).2.2.2=E1 at *;refine aP Tryz.func81 rfl (by kernel_rfl) rfl fun M0 w0=>?_;simp only [Tryz.ntmps81,Tryz.results81,aF];repeat' first|(with_reducible first|apply af|apply ae|apply au|apply aB|apply aa|refine ah [] ?_|(apply ar;·go_simp))|((with_reducible apply ab);intro X Y;go_simp;(first|(refine ⟨_,gF,?_⟩)|skip);apply Y;clear Y X)
 apply eo [1,2] (fun k=>[(5,I k)]) (fun k=>([] : Hp)) (mC l) (l.length)
 ·go_simp<;>exact rfl
 ·go_simp
 ·intro k hk HB HP K hK;obtain ⟨w1,w2,w3,w4,w5,w6⟩:=ixs (m:=k) (by omega);have hp:=HP.out;rw [mC,decide_eq_false_iff_not] at hp;repeat' with_reducible first|apply af|apply ae|apply au|apply aB|apply bp|apply aa|refine ah [] ?_|(apply aw;·go_simp)|(apply ar;·go_simp)|(apply ab;intro X Y;go_simp;apply Y;clear Y X)
  refine hK _ ?_;go_simp
 ·intro k hk HB HP K;have:=HC.out k hk;rw [HP.out] at this;cases this
 ·intro HB K;repeat' first|(with_reducible first|apply af|apply ae|apply bP|apply ax|apply au|apply bQ|apply bT|apply aa|refine ah [] ?_|(apply ar;·go_simp))|((with_reducible apply ab);intro X Y;go_simp;(first|(refine ⟨_,g2,?_⟩)|(refine ⟨_,g3,?_⟩)|skip);apply Y;clear Y X)
  go_simp
set_option maxHeartbeats 4000000
theorem QL {r:Ru} {s:St} (hr:RuOK r) (hi:Inv r s) : (o7 s).size≤100000:=by
 have h6:=hr.n6;have hlen:=hi.len;have h0:=hi.t0;have cW:∀ c,cu c=true→c.size≤12:=fun c h=>by
  unfold cu at h;simp only [Bool.and_eq_true,decide_eq_true_eq] at h;omega
 have ht:∀ t∈s.tk,i64 t.rank∧i64 t.time:=fun t iy=>by
  have h1:=hi.tkr t iy;have h2:=hi.tkt t iy;exact ⟨by unfold i64;omega,by unfold i64;omega⟩
 have hm:i64 s.time:=by unfold i64;omega
 have z1:(⟨#[32]⟩ : ByteArray).size=1:=rfl;have z2:(⟨#[124]⟩ : ByteArray).size=1:=rfl;have z3:(⟨#[58]⟩ : ByteArray).size=1:=rfl;have r1:∀ l∈s.q,(fh l ⟨#[32]⟩).size≤300:=fun l hl=>by
  obtain ⟨k,hk,rfl⟩:=List.getElem_of_mem hl;have hf:=hi.fit k hk;have hp:=hr.pl k (by omega);rw [ft hk] at hf;rw [o8];refine Nat.le_trans (qK (B:=20) fun c hc=>?_) ?_
  ·have:=cW c (hi.name c (List.mem_append_left _ (List.mem_flatten.2 ⟨_,List.getElem_mem hk,hc⟩)));omega
  ·rw [z1];exact Nat.le_trans (Nat.mul_le_mul_right _ (show s.q[k].length≤14 by omega)) (by decide)
 have r2:∀ t∈s.tk,(gK t).size≤66:=fun t iy=>by
  have hc:=cW t.car (hi.name _ (List.mem_append_right _ (List.mem_map.2 ⟨t,iy,rfl⟩)));have d1:=o9 (ht _ iy).1;have d2:=o9 (ht _ iy).2;unfold gK;rw [o8];refine Nat.le_trans (qK (B:=21) fun x hx=>?_) (by rw [z3];simp);simp only [List.mem_cons,List.not_mem_nil,or_false] at hx;rcases hx with rfl|rfl|rfl<;>omega
 have r3:(j8 s).size≤3000:=by
  unfold j8;rw [o8];refine Nat.le_trans (qK (B:=66) fun x hx=>?_) ?_
  ·obtain ⟨t,iy,rfl⟩:=List.mem_map.1 hx;exact r2 t iy
  ·rw [List.length_map,z1];exact Nat.le_trans (Nat.mul_le_mul_right _ (show s.tk.length≤42 by have:=hi.tkl;omega)) (by decide)
 unfold o7;rw [o8];refine Nat.le_trans (qK (B:=3000) fun x hx=>?_) ?_
 ·rcases List.mem_append.1 hx with hx|hx
  ·unfold ig at hx;rcases List.mem_cons.1 hx with rfl|hx
   ·have:=o9 hm;omega
   ·obtain ⟨l,hl,rfl⟩:=List.mem_map.1 hx;have:=r1 l (List.mem_of_mem_take hl);omega
  ·rw [List.mem_singleton.1 hx];exact r3
 ·rw [List.length_append,vW (Nat.le_refl _),z2];exact Nat.le_trans (Nat.mul_le_mul_right _ (show s.q.length+1+1≤10 by omega)) (by decide)
theorem QM (r:Ru) (l:List Ev) (n:Int) (hl:r.ranks.length≤9223372036854775807) (hL:l.length≤9223372036854775807) : VC Tryz.prog 17 [cY r,iZ l,I n] (B true):=by
 have ha:=QF;obtain ⟨b,gR,hb⟩:=QJ r l hl hL;clear hl hL;cases b
 ·clear hb;refine aP Tryz.func17 rfl (by kernel_rfl) rfl fun M0 w0=>?_;simp only [Tryz.ntmps17,Tryz.results17,aF];repeat' first|(with_reducible first|apply af|apply ae|apply aZ|apply ax|apply au|apply aa|refine ah [] ?_|(apply aw;·go_simp)|(apply ar;·go_simp))|((with_reducible apply ab);intro X Y;go_simp;(first|(with_reducible refine ⟨_,ha,?_⟩)|(refine ⟨_,gR,?_⟩)|skip);apply Y;clear Y X)
  go_simp
 obtain ⟨hF,QK,dK,qf⟩:=hb rfl;obtain ⟨h8,cW⟩:=Hm hF;obtain ⟨e1,e2,e3,e4⟩:=DB qf;have hr:=(vB e1).1;have DD:=hr.n6;have g1:=Nz r (by omega);have g2:=Hh l (by omega);have dZ:SmallL r l:=⟨by omega,cW,fun x hx=>by have:=dK x hx;omega⟩
 have g3:=BG r l dZ;have kW:=IP (l:=l) e1;rw [IQ qf] at kW;rw [kW] at g3;simp only at g3;have hd:=QD n ((l.length:Int)+1) (by omega);have gM:=QE n ((l.length:Int)+1) (by omega) (by omega);obtain ⟨m,hm⟩ : ∃ m:Nat,sW n ((l.length:Int)+1)=m:=⟨(sW n ((l.length:Int)+1)).toNat,by omega⟩
 rw [hm] at gM hd;have oP:m≤l.length:=by omega
 have rl:=QH qf m;have vz:(l.take m).length≤20:=by rw [List.length_take];omega
 have xh:SmallL r (l.take m):=⟨by omega,cW,fun x hx=>by have:=dK x (List.mem_of_mem_take hx);omega⟩
 have g4:=BG r (l.take m) xh;have oI:=IP (l:=l.take m) e1;rw [IQ rl] at oI;rw [oI] at g4;simp only at g4;have g5:=Hh (l.take m) (by omega);have g6:=Nx l (by omega);have hinv:∀ k,Inv r (sN r l k)∧cM r (sN r l k) < 0:=fun k=>Qu hr (zR e4 k);have qd:∀ k,ckE r (sN r l k)=0:=fun k=>by
  unfold ckE;rw [if_neg (by simp [e1])];exact FG.2 (hinv k)
 have zS:∀ k,SmallS (sN r l k):=fun k=>(hinv k).1.small hr;have xS:sN r l m=(goP r 0 (l.take m) (st0 r)).1:=rfl;have pa:sN r l l.length=(goP r 0 l (st0 r)).1:=by
  unfold sN;rw [List.take_length]
 have g7:=Gt (sN r l m) (zS m);have g8:=QB (s:=sN r l m) (t:=o7 (sN r l m)) (QL hr (hinv m).1) (Nv (QC (qd m)));have g9:=NC (sN r l l.length) (zS l.length);have GF:Hid (∀ k,k < l.length→VC Tryz.prog 45 [evA (cl l k)] (S (nY (cl l k)))∧VC Tryz.prog 46 [S (nY (cl l k))] (.tup [evA (cl l k),I 0])):=Lib.hid fun k hk=>by
  have jY:evE r (cl l k)=0:=by
   rw [mD hk];exact FY l 0 (st0 r) e4 _ (List.getElem_mem hk)
  have hc:(cl l k).car.size≤20:=by
   rw [mD hk];exact dK _ (List.getElem_mem hk)
  have h1:=ya jY;have h2:=rW jY;have i1:i64 (cl l k).time:=by unfold i64;omega
  have i2:i64 (cl l k).rank:=by unfold i64;omega
  have g:=Nn (nY (cl l k)) (P6 hc i1 i2);rw [QI DD jY] at g;exact ⟨P5 _ (by omega) i1 i2,g⟩
 have GA:Hid (∀ k,k < l.length→VC Tryz.prog 66 [cY r,cT (sN r l k),evA (cl l k)] (.tup [cT (sN r l (k+1)),I 0])):=Lib.hid fun k hk=>by
  obtain ⟨q1,q2⟩:=QG e4 hk;have hc:(cl l k).car.size≤1000:=by
   have:=dK _ (List.getElem_mem hk);rw [mD hk];omega
  have g:=QA r (sN r l k) (cl l k) hr (hinv k).1 (by omega) cW (zS k) (qd k) hc;rw [if_pos q1,q2] at g;exact g
 rw [←xS] at g4;rw [←pa] at g3;clear hb hF dK qf h8 cW e1 e2 e3 e4 hr DD dZ kW hm rl xh oI hinv qd zS xS pa;obtain ⟨sf,IT⟩ : ∃ sf:Nat→St,sN r l=sf:=⟨_,rfl⟩
 rw [IT] at g3 g4 g7 g8 g9 GA;generalize o7 (sf m)=TX at *;clear IT;refine aP Tryz.func17 rfl (by kernel_rfl) rfl fun M0 w0=>?_;simp only [Tryz.ntmps17,Tryz.results17,aF];repeat' first|(with_reducible first|apply af|apply ae|apply au|apply aB|apply aa|refine ah [7] ?_|(apply ar;·go_simp))|((with_reducible apply ab);intro X Y;go_simp;(first|(with_reducible refine ⟨_,ha,?_⟩)|(refine ⟨_,gR,?_⟩)|skip);apply Y;clear Y X)
 apply kQ [1,2,3] (fun k=>[(8,I k),(7,.osl 0)]) (fun k=>([some (.arr 58 4 (decide (l.take k=[])) ((l.take k).map Ev.av))] : Hp))  (l.length)
 ·go_simp<;>exact rfl
 ·go_simp
 ·intro k hk K hK;obtain ⟨w1,w2,w3,w4,w5,w6⟩:=ixs (m:=k) (by omega);obtain ⟨f1,f2⟩:=GF.out k hk;have tx:l.take (k+1)=l.take k++[cl l k]:=by rw [mD hk,lL hk]
  have hb:(l.take k).length+1≤1000000000:=by rw [List.length_take];omega
  have e1:decide (l.take k++[cl l k]=[])=false:=by simp
  rw [tx,e1] at hK;clear tx e1 g1 g2 g3 g4 g5 g6 g7 g8 g9 gM gR ha;generalize nY (cl l k)=T0 at *;generalize l.take k=P0 at *;simp only [evA] at f1 f2;repeat' first|(with_reducible first|apply af|apply ae|apply au|apply aB|apply bp|apply aa|refine ah [] ?_|(apply aw;·go_simp)|(apply ar;·go_simp))|((with_reducible apply ab);intro X Y;go_simp;(first|(refine ⟨_,f1,?_⟩)|(refine ⟨_,f2,?_⟩)|skip);apply Y;clear Y X)
  refine hK _ ?_;go_simp
 ·intro K;rw [List.take_length];refine pr 7 0 rfl rfl ?_;simp only [List.set];obtain ⟨w1,w2,w3,w4,w5,w6⟩:=ixs (m:=l.length) (by omega);obtain ⟨P1,DE⟩ : ∃ P1,l.take m=P1:=⟨_,rfl⟩
  have TG:(l.map Ev.av).take m=P1.map Ev.av:=by rw [←DE,List.map_take]
  rw [DE] at g4 g5;clear DE;repeat' first|(with_reducible first|apply af|apply ae|apply bP|apply au|apply bQ|apply bT|apply aa|refine ah [] ?_|(apply ar;·go_simp))|((with_reducible apply ab);intro X Y;go_simp;(first|(refine ⟨_,g1,?_⟩)|(refine ⟨_,g2,?_⟩)|(refine ⟨_,g3,?_⟩)|(refine ⟨_,g6,?_⟩)|(refine ⟨_,gM,?_⟩)|skip);apply Y;clear Y X)
  refine Dd 14 [] (fun i=>i == 11 || i == 12) (by kernel_rfl) (by kernel_rfl) (by kernel_rfl) (by go_simp) (by go_simp) ?_;simp only [az];repeat ((with_reducible refine lY rfl fun X Y=>?_);go_simp;(first|(refine ⟨_,g1,?_⟩)|(refine ⟨_,g5,?_⟩)|(refine ⟨_,g4,?_⟩)|skip);refine Y _ (by go_simp) ?_;clear Y X)
  refine oH [some (.box [br,br,I 0])] none (.ref 2 0) rfl ⟨rfl,fun _=>rfl,fun _ h=>by cases h⟩ ?_ ?_
  ·intro s2 cL;go_simp
  refine oH [some (.box [gp (sf m).q,.sl 3 ((sf m).tk.map Tk.av),I (sf m).time])] none .any rfl ⟨rfl,fun _=>rfl,fun _ h=>by cases h⟩ ?_ ?_
  ·intro s2 cL;have q1:lkp s2 15 = .ref 2 0:=(cL 15 (by simp [Op.operands]) (by go_simp)).trans (by go_simp);have q2:lkp s2 80=cT (sf m):=(cL 80 (by simp [Op.operands]) (by go_simp)).trans (by go_simp);clear cL;go_simp
  repeat (first|(with_reducible first|apply af|apply ae|apply au|apply aa|refine ah [] ?_|(apply ar;·go_simp)|(apply ab;intro X Y;go_simp;apply Y;clear Y X))|((with_reducible refine lY rfl fun X Y=>?_);go_simp;refine Y _ (by go_simp) ?_;clear Y X)|((with_reducible refine ux ?_);simp only [List.cons_append,List.nil_append,nf]))
  repeat' first|(with_reducible first|apply af|apply ae|apply aB|apply aa|refine ah [] ?_)|((with_reducible apply ab);intro X Y;go_simp;(first|(refine ⟨_,g7,?_⟩)|(refine ⟨_,g8,?_⟩)|skip);apply Y;clear Y X)
  apply kQ [3,7,11,15] (fun k=>[(18,I ((m+k:Nat) : Int)),(17,I 0)]) (fun k=>([none,some (.box [gp (sf l.length).q,.sl 3 ((sf l.length).tk.map Tk.av),I (sf l.length).time]),some (.box [gp (sf (m+k)).q,.sl 3 ((sf (m+k)).tk.map Tk.av),I (sf (m+k)).time])] : Hp))  (l.length - m)
  ·go_simp<;>exact rfl
  ·go_simp
  ·intro k hk K hK;obtain ⟨i,hi⟩ : ∃ i,m+k=i:=⟨_,rfl⟩
   have nZ:m+(k+1)=i+1:=by omega
   rw [nZ] at hK;rw [hi];have cz:i < l.length:=by omega
   obtain ⟨w1,w2,w3,w4,w5,w6⟩:=ixs (m:=i) (by omega);have ga:=GA.out i cz;clear hi nZ hk g2 g3 g4 g5 g6 g7 g8 g9 gM gR ha;simp only [evA,cT] at ga;repeat' with_reducible first|apply af|apply ae|apply au|apply aB|apply aa|refine ah [] ?_|(apply aw;·go_simp)|(apply ab;intro X Y;go_simp;apply Y;clear Y X)
   refine QN 11 [] [] (by kernel_rfl) (by kernel_rfl) (by kernel_rfl) rfl ⟨rfl,rfl⟩ rfl ?_;simp only [az];repeat' first|with_reducible apply aT|((with_reducible apply aU);intro X Y;go_simp;(first|(refine ⟨_,g1,?_⟩)|(refine ⟨_,ga,?_⟩)|skip);apply Y;clear Y X)
   refine ⟨_,(by go_simp;rfl),trivial,?_⟩;repeat' with_reducible first|apply ae|apply bp|apply aa|refine ah [] ?_|(apply ab;intro X Y;go_simp;apply Y;clear Y X)
   refine hK _ ?_;go_simp
  ·intro K;have e1:m+(l.length - m)=l.length:=by omega
   rw [e1];repeat' first|(with_reducible first|apply af|apply ae|apply bP|apply ax|apply bQ|apply bT|apply aa|refine ah [] ?_|(apply ar;·go_simp))|((with_reducible apply ab);intro X Y;go_simp;(first|(refine ⟨_,g9,?_⟩)|skip);apply Y;clear Y X)
   go_simp
end Go.Proofs.YtoibondihdhnoaaGreatDoor
