/- Texts in one: Walks: a state is read, as the reference has it: the cars that were taken. -/
import Derived.Test.YtoibondihdhnoaaGreatDoorFRZ8
import Derived.Test.YtoibondihdhnoaaGreatDoorFRZ51
import Derived.Test.YtoibondihdhnoaaGreatDoorFRZ38
namespace Go.Proofs.YtoibondihdhnoaaGreatDoor
open Go.RowKit Go.Shelf
set_option maxRecDepth 100000
set_option maxHeartbeats 2000000
theorem Qi (s y:List UInt8) : ∀ r:List (List UInt8),Lib.joinTail s (r++[y])=Lib.joinTail s r++(s++y)
 | []=>by simp [Lib.joinTail]
 | x::r=>by simp [Lib.joinTail,List.append_assoc]
theorem DB {a:List ByteArray} (h:a≠[]) (x s:ByteArray) : cN (a++[x]) s=cN a s++s++x:=by
 apply pq;cases a with
 | nil=>exact absurd rfl h
 | cons y r=>
  simp only [zx,sr,List.cons_append,List.map_cons,List.map_append,List.map_nil];rw [Lib.join_cons,Lib.join_cons,Qi];simp [List.append_assoc]
theorem I1 (x s:ByteArray) : cN [x] s=x:=by
 apply pq;rw [sr,List.map_cons,List.map_nil,Lib.join_one]
theorem I2 (s:ByteArray) : cN [] s=⟨#[]⟩:=by
 apply pq;rw [sr,List.map_nil,Lib.join_nil];rfl
theorem Qj (a b c s:ByteArray) : cN [a,b,c] s=a++s++b++s++c:=by
 apply pq;simp only [zx];show (Lib.join ([a,b,c].map bl) (bl s))=_;rw [List.map_cons,Lib.join_cons];simp [Lib.joinTail,List.append_assoc]
theorem DC {l:List ByteArray} {k:Nat} (h:k < l.length) : l.take (k+1)=l.take k++[l[k]]:=by
 rw [List.take_add_one,List.getElem?_eq_getElem h];rfl
def j6 (l:List ByteArray) (k:Nat) : ByteArray:=cN (l.take k) ⟨#[32]⟩
theorem Qk (l:List ByteArray) : j6 l 0=⟨#[]⟩:=I2 _
theorem Ql {l:List ByteArray} (h:0 < l.length) : j6 l (0+1)=j6 l 0++l[0]:=by
 unfold j6;rw [DC h,List.take_zero,List.nil_append,I1,I2];apply pq;rw [zx];rfl
theorem Qm {l:List ByteArray} {k:Nat} (h:k < l.length) (hk:0 < k) : j6 l (k+1)=j6 l k++⟨#[32]⟩++l[k]:=by
 unfold j6;rw [DC h,DB];intro e;have:=congrArg List.length e;rw [List.length_take,List.length_nil] at this;omega
theorem Qn {l:List ByteArray} (hl:l.length≤1000) (hs:∀ c∈l,c.size≤100000) (k:Nat) : (j6 l k).size≤100001000:=by
 unfold j6;rw [kC];refine Nat.le_trans (lN (B:=100000) fun x hx=>hs x (List.mem_of_mem_take hx)) ?_;have h1:(l.take k).length≤1000:=Nat.le_trans (by rw [List.length_take];omega) hl;have h2:(⟨#[32]⟩ : ByteArray).size=1:=rfl;rw [h2];exact Nat.le_trans (Nat.mul_le_mul_right _ h1) (by decide)
theorem I3 (l:List ByteArray) (hl:l.length≤1000) (hs:∀ c∈l,c.size≤100000) : VC Tryz.prog 126 [fr l] (S (cN l ⟨#[32]⟩)):=by
 have e:cN l ⟨#[32]⟩=j6 l l.length:=by rw [j6,List.take_length]
 have HL:=Lib.hid (Qn hl hs);have HS:=Lib.hid hs;rw [e];clear e hs;have e0:=Qk l;refine aK Tryz.func126 rfl (by kernel_rfl) rfl fun M0 w0=>?_;simp only [Tryz.ntmps126,Tryz.results126,az];repeat' with_reducible first|apply af|apply ae|apply ar|apply aa|refine ah [] ?_|(apply ab;intro X Y;go_simp;apply Y;clear Y X)
 apply iy [0] (fun k=>[(4,I k),(3,S (j6 l k))]) (fun k=>([] : Hp))  (l.length)
 ·go_simp<;>exact rfl
 ·go_simp
 ·intro k hk K hK;obtain ⟨w1,w2,w3,w4,w5,w6⟩:=ixs (m:=k) (by omega);have b1:=HL.out k;have b2:=HS.out _ (List.getElem_mem hk);have lg:(⟨#[32]⟩ : ByteArray).size=1:=rfl;by_cases h0:k=0
  ·subst h0;have HJ:=Lib.hid (Ql hk);have z1:(j6 l 0).size+l[0].size≤9223372036854775807:=by omega
   clear b1 b2 lg e0;generalize j6 l 0=J at *;repeat' with_reducible first|apply af|apply ae|apply aj|apply ar|apply aT|apply aa|refine ah [] ?_|(apply ao;·go_simp)|(apply ak;·go_simp)|(apply ab;intro X Y;go_simp;apply Y;clear Y X)
   refine hK _ ?_;rw [HJ.out];go_simp
  ·have hp:0 < k:=by omega
   have HJ:=Lib.hid (Qm hk hp);have z1:(j6 l k).size+1≤9223372036854775807:=by omega
   have z2:(j6 l k).size+1+l[k].size≤9223372036854775807:=by omega
   clear b1 b2 lg;generalize j6 l k=J at *;repeat' with_reducible first|apply af|apply ae|apply aj|apply ar|apply aT|apply aa|refine ah [] ?_|(apply ao;·go_simp)|(apply ab;intro X Y;go_simp;apply Y;clear Y X)
   refine hK _ ?_;rw [HJ.out];go_simp
 ·intro K;repeat' with_reducible first|apply af|apply ae|apply aW|apply aq|apply aX|apply aY|apply aa|refine ah [] ?_|(apply ak;·go_simp)|(apply ab;intro X Y;go_simp;apply Y;clear Y X)
  go_simp
def lV (s:St) (k:Nat) : ByteArray:=cN (ft s k) ⟨#[124]⟩
theorem Qo (s:St) : lV s 0=ca s.time:=I1 _ _
theorem Qp {s:St} {k:Nat} (h:k < s.q.length) : lV s (k+1)=lV s k++⟨#[124]⟩++cN (qat s.q k) ⟨#[32]⟩:=by
 unfold lV;rw [GC h,DB];unfold ft;simp
theorem Qq (s:St) : k6 s=lV s s.q.length++⟨#[124]⟩++jf s:=by
 unfold k6 lV;rw [DB];unfold ft;simp
theorem I4 {s:St} (h:SmallS s) {k:Nat} (hk:k < s.q.length) : (cN (qat s.q k) ⟨#[32]⟩).size≤301000:=by
 obtain ⟨h1,h2⟩:=h.q1 _ (List.getElem_mem hk);rw [kC,fo hk];refine Nat.le_trans (lN h2) ?_;have:s.q[k].length*(1000+(⟨#[32]⟩ : ByteArray).size)≤300*1001:=Nat.mul_le_mul h1 (Nat.le_refl _);omega
theorem Qr {s:St} (h:SmallS s) {k:Nat} (hk:k < s.tk.length) : (ef (aH s.tk k)).size≤3003:=by
 obtain ⟨h1,h2,h3⟩:=h.t1 _ (List.getElem_mem hk);unfold ef;rw [kC,fe hk];refine Nat.le_trans (lN (B:=1000) fun x hx=>?_) (Nat.le_refl _);have d1:=jY h2;have d2:=jY h3;simp only [List.mem_cons,List.not_mem_nil,or_false] at hx;rcases hx with rfl|rfl|rfl<;>omega
theorem Qs {s:St} (h:SmallS s) {k:Nat} (hk:k≤s.q.length) : (lV s k).size≤100000000:=by
 have hn:=h.nq;unfold lV;rw [kC];refine Nat.le_trans (lN (B:=301000) fun x hx=>?_) ?_
 ·unfold ft at hx;rcases List.mem_cons.1 hx with rfl|hx
  ·have:=jY h.tm;omega
  ·obtain ⟨l,hl,rfl⟩:=List.mem_map.1 hx;obtain ⟨i,hi,rfl⟩:=List.getElem_of_mem (List.mem_of_mem_take hl);have:=I4 h hi;rwa [fo hi] at this
 ·rw [tQ hk];have h2:(⟨#[124]⟩ : ByteArray).size=1:=rfl;rw [h2];exact Nat.le_trans (Nat.mul_le_mul_right _ (show k+1≤301 by omega)) (by decide)
theorem Qt (s:St) (h:SmallS s) : VC Tryz.prog 64 [ez s] (S (k6 s)):=by
 have HA:=Lib.hid (fun k (hk:k≤s.q.length)=>Qs h hk);have g0:=wc s.time h.tm;have HQ:Hid (∀ k,k < s.q.length→VC Tryz.prog 126 [fr (qat s.q k)] (S (cN (qat s.q k) ⟨#[32]⟩))∧(cN (qat s.q k) ⟨#[32]⟩).size≤301000):=Lib.hid fun k hk=>by
  obtain ⟨h1,h2⟩:=h.q1 _ (List.getElem_mem hk);rw [←fo hk] at h1 h2;exact ⟨I3 _ (by omega) fun c hc=>Nat.le_trans (h2 c hc) (by decide),I4 h hk⟩
 have HT:Hid (∀ k,k < s.tk.length→VC Tryz.prog 113 [I (aH s.tk k).rank] (S (ca (aH s.tk k).rank))∧VC Tryz.prog 113 [I (aH s.tk k).time] (S (ca (aH s.tk k).time))∧(aH s.tk k).car.size≤1000∧(ca (aH s.tk k).rank).size≤21∧(ca (aH s.tk k).time).size≤21∧ef (aH s.tk k)=(aH s.tk k).car++⟨#[58]⟩++ca (aH s.tk k).rank++⟨#[58]⟩++ca (aH s.tk k).time):=Lib.hid fun k hk=>by
  obtain ⟨h1,h2,h3⟩:=h.t1 _ (List.getElem_mem hk);rw [←fe hk] at h1 h2 h3;exact ⟨wc _ h2,wc _ h3,h1,jY h2,jY h3,Qj _ _ _ _⟩
 have sf:im s s.tk.length=s.tk.map ef:=by rw [im,List.take_length]
 have gq:∀ c∈s.tk.map ef,c.size≤3003:=fun c hc=>by
  obtain ⟨t,ht,rfl⟩:=List.mem_map.1 hc;obtain ⟨i,hi,rfl⟩:=List.getElem_of_mem ht;have:=Qr h hi;rwa [fe hi] at this
 have se:=h.nt;have sd:=h.nq;have HJ:=Lib.hid (I3 (s.tk.map ef) (by rw [List.length_map];omega) fun c hc=>Nat.le_trans (gq c hc) (by decide));have HB:Hid ((cN (s.tk.map ef) ⟨#[32]⟩).size≤1000000):=Lib.hid (by
  rw [kC];refine Nat.le_trans (lN gq) ?_;rw [List.length_map];have h2:(⟨#[32]⟩ : ByteArray).size=1:=rfl;rw [h2];exact Nat.le_trans (Nat.mul_le_mul_right _ se) (by decide))
 have HE:=Lib.hid sf;have HR:=Lib.hid (Qq s);obtain ⟨R,hR⟩ : ∃ R,k6 s=R:=⟨_,rfl⟩
 rw [hR] at HR ⊢;clear hR;unfold jf at HR;clear h sf gq;have e0:=(Qo s).symm;have e1:im s 0=[]:=rfl;refine aK Tryz.func64 rfl (by kernel_rfl) rfl fun M0 w0=>?_;simp only [Tryz.ntmps64,Tryz.results64,az];repeat' with_reducible first|apply af|apply ae|apply ar|apply aa|refine ah [] ?_|(apply ab;intro X Y;go_simp;(first|(refine ⟨_,g0,?_⟩)|skip);apply Y;clear Y X)
 apply iy [1] (fun k=>[(4,I k),(3,S (lV s k))]) (fun k=>([] : Hp))  (s.q.length)
 ·go_simp<;>exact rfl
 ·go_simp
 ·intro k hk K hK;obtain ⟨w1,w2,w3,w4,w5,w6⟩:=ixs (m:=k) (by omega);obtain ⟨gj,b1⟩:=HQ.out k hk;have b2:=HA.out k (by omega);have HS:=Lib.hid (Qp hk);have lg:(⟨#[124]⟩ : ByteArray).size=1:=rfl;generalize cN (qat s.q k) ⟨#[32]⟩=J at *;have z1:(lV s k).size+1≤9223372036854775807:=by omega
  have z2:(lV s k).size+1+J.size≤9223372036854775807:=by omega
  clear b1 b2 lg e0;generalize lV s k=A at *;repeat' with_reducible first|apply af|apply ae|apply aj|apply ar|apply aT|apply aa|refine ah [] ?_|(apply ao;·go_simp)|(apply ab;intro X Y;go_simp;(first|(refine ⟨_,gj,?_⟩)|skip);apply Y;clear Y X)
  refine hK _ ?_;rw [HS.out];go_simp
 ·intro K;clear e0;have b2:=HA.out s.q.length (Nat.le_refl _);clear HA;generalize lV s s.q.length=A at *;repeat' with_reducible first|apply af|apply ae|apply aW|apply aX|apply ar|apply aY|apply aa|refine ah [5] ?_|(apply ak;·go_simp)|(apply ab;intro X Y;go_simp;apply Y;clear Y X)
  apply iy [1,3] (fun k=>[(6,I k),(5,.osl 0)]) (fun k=>([some (.arr 9 1 (decide (im s k=[])) ((im s k).map cL))] : Hp))  (s.tk.length)
  ·go_simp<;>exact rfl
  ·go_simp
  ·intro k hk K hK;obtain ⟨w1,w2,w3,w4,w5,w6⟩:=ixs (m:=k) (by omega);have HS:=Lib.hid (GD hk);have bg:=zn (s:=s) (k:=k) (by omega);have hb:(im s k).length+1≤1000000000:=by omega
   clear bg;obtain ⟨g1,g2,b3,b4,b5,hT⟩:=HT.out k hk;rw [hT] at HS;clear hT b2;generalize ca (aH s.tk k).rank=D1 at *;generalize ca (aH s.tk k).time=D2 at *;have lg:(⟨#[58]⟩ : ByteArray).size=1:=rfl;have z1:(aH s.tk k).car.size+1≤9223372036854775807:=by omega
   have z2:(aH s.tk k).car.size+1+D1.size≤9223372036854775807:=by omega
   have z3:(aH s.tk k).car.size+1+D1.size+1≤9223372036854775807:=by omega
   have z4:(aH s.tk k).car.size+1+D1.size+1+D2.size≤9223372036854775807:=by omega
   clear b3 b4 b5 lg;repeat' first|(with_reducible first|apply af|apply ae|apply aj|apply ar|apply aT|apply aa|refine ah [] ?_|apply aI|(apply ao;·go_simp)|((first|apply ab|apply aJ);intro X Y;go_simp;(first|(refine ⟨_,g1,?_⟩)|(refine ⟨_,g2,?_⟩)|skip);apply Y;clear Y X))|((refine aQ 28 26 [] rfl (by kernel_rfl) ?_);simp only [aA])
   refine hK _ ?_;rw [HS.out];go_simp
  ·intro K;have hj:=HJ.out;have b3:=HB.out;have zP:=Lib.hid HR.out;rw [HE.out];clear HR HJ HB;generalize cN (s.tk.map ef) ⟨#[32]⟩=J at *;generalize s.tk.map ef=TT at *;have lg:(⟨#[124]⟩ : ByteArray).size=1:=rfl;have z1:A.size+1≤9223372036854775807:=by omega
   have z2:A.size+1+J.size≤9223372036854775807:=by omega
   clear b2 b3 lg;rw [zP.out];repeat' first|(with_reducible first|apply af|apply ae|apply aW|apply aq|apply aX|apply aY|apply aa|refine ah [] ?_|(apply ak;·go_simp))|((with_reducible apply ab);intro X Y;go_simp;(first|(refine ⟨_,⟨hj,rfl⟩,?_⟩)|skip);apply Y;clear Y X)
   go_simp
def tkN (w:List ByteArray) : Tk:=⟨tat w 0,(kh (dv (tat w 1).data.toList)).1,(kh (dv (tat w 2).data.toList)).1⟩
def tkR (w:List ByteArray) : Tk×Bool:=
 if w.length≠3 then (⟨⟨#[]⟩,0,0⟩,false) else if tat w 0=⟨#[]⟩ then (⟨⟨#[]⟩,0,0⟩,false) else
 (tkN w,(kh (dv (tat w 1).data.toList)).2&&(kh (dv (tat w 2).data.toList)).2)
theorem I5 (l:List UInt8) : (kh (dv l)).2=jd l:=by
 rw [nf];cases dv l<;>rfl
theorem DD (w:ByteArray) : (tkR (aP 58 w)).2 = !fU w:=by
 unfold tkR fU;rw [I5,I5];by_cases h:(aP 58 w).length=3
 ·rw [if_neg (by simpa using h),decide_eq_true h];by_cases h0:tat (aP 58 w) 0=⟨#[]⟩
  ·rw [if_pos h0,decide_eq_true h0];simp
  ·rw [if_neg h0,decide_eq_false h0];simp
 ·rw [if_pos h,decide_eq_false h];simp
theorem I6 {w:ByteArray} (h:fU w=false) : (tkR (aP 58 w)).1=tkW w:=by
 unfold fU at h;simp only [Bool.or_eq_false_iff,Bool.not_eq_false',decide_eq_false_iff_not,decide_eq_true_eq] at h;obtain ⟨⟨⟨h1,h2⟩,h3⟩,h4⟩:=h;unfold tkR tkW tkN;rw [if_neg (by simpa using h1),if_neg h2];rw [nf] at h3 h4;cases e1:dv (tat (aP 58 w) 1).data.toList with
 | none=>rw [e1] at h3;cases h3
 | some a=>
  cases e2:dv (tat (aP 58 w) 2).data.toList with
  | none=>rw [e2] at h4;cases h4
  | some b=>
   rw [om e1,om e2];rfl
theorem DE (s:ByteArray) (hs:s.size≤1000) : VC Tryz.prog 125 [S s] (.tup [.agg (Tk.av (tkR (aP 58 s)).1),B (tkR (aP 58 s)).2]):=by
 have g1:=qH s 58 (by omega);have lW:((58:UInt8).toNat:Int)=58:=rfl;rw [lW] at g1;have cP:=mi 58 s;have dE:∀ p∈aP 58 s,p.size≤1000:=fun p hp=>Nat.le_trans (lM hp) hs;obtain ⟨RR,k_⟩ : ∃ RR,tkR (aP 58 s)=RR:=⟨_,rfl⟩
 rw [k_];unfold tkR tkN at k_;generalize aP 58 s=w at *;by_cases h3:w.length=3
 ·have h5:(w.length:Int)=3:=by omega
  rw [if_neg (by simpa using h3)] at k_;have a0:w[0]=tat w 0:=(bc (by omega)).symm;have a1:w[1]=tat w 1:=(bc (by omega)).symm;have a2:w[2]=tat w 2:=(bc (by omega)).symm;have z1:(tat w 1).size≤1000:=by rw [←a1];exact dE _ (List.getElem_mem _)
  have z2:(tat w 2).size≤1000:=by rw [←a2];exact dE _ (List.getElem_mem _)
  have g4:=tL (tat w 1) z1;have g5:=tL (tat w 2) z2;by_cases h0:tat w 0=⟨#[]⟩
  ·rw [if_pos h0] at k_;subst k_;have Qu:tat w 0=ByteArray.empty:=h0;clear dE cP z1 z2;refine aK Tryz.func125 rfl (by kernel_rfl) rfl fun M0 w0=>?_;simp only [Tryz.ntmps125,Tryz.results125,az];repeat' with_reducible first|apply af|apply ae|apply aF|apply aq|apply aa|refine ah [] ?_|(apply ao;·go_simp)|(apply ab;intro X Y;go_simp;(first|(refine ⟨_,g1,?_⟩)|skip);apply Y;clear Y X)
   all_goals go_simp
  ·rw [if_neg h0] at k_;subst k_;have Qu:¬tat w 0=ByteArray.empty:=h0;clear dE cP z1 z2;generalize tat w 0=W0 at *;generalize kh (dv (tat w 1).data.toList)=N1 at *;generalize kh (dv (tat w 2).data.toList)=N2 at *;obtain ⟨v1,o1⟩:=N1;obtain ⟨v2,o2⟩:=N2;simp only at g4 g5 ⊢;cases o1
   ·refine aK Tryz.func125 rfl (by kernel_rfl) rfl fun M0 w0=>?_;simp only [Tryz.ntmps125,Tryz.results125,az];repeat' with_reducible first|apply af|apply ae|apply aq|apply aj|apply aa|refine ah [] ?_|(apply ak;·go_simp)|(apply ab;intro X Y;go_simp;(first|(refine ⟨_,g1,?_⟩)|(refine ⟨_,g4,?_⟩)|(refine ⟨_,g5,?_⟩)|skip);apply Y;clear Y X)
    all_goals go_simp
   ·refine aK Tryz.func125 rfl (by kernel_rfl) rfl fun M0 w0=>?_;simp only [Tryz.ntmps125,Tryz.results125,az];repeat' with_reducible first|apply af|apply ae|apply aq|apply aj|apply aa|refine ah [] ?_|(apply ak;·go_simp)|(apply ab;intro X Y;go_simp;(first|(refine ⟨_,g1,?_⟩)|(refine ⟨_,g4,?_⟩)|(refine ⟨_,g5,?_⟩)|skip);apply Y;clear Y X)
    all_goals go_simp
 ·have h5:¬(w.length:Int)=3:=by omega
  rw [if_pos h3] at k_;subst k_;clear cP dE;refine aK Tryz.func125 rfl (by kernel_rfl) rfl fun M0 w0=>?_;simp only [Tryz.ntmps125,Tryz.results125,az];repeat' with_reducible first|apply af|apply ae|apply aF|apply aq|apply aa|refine ah [] ?_|(apply ao;·go_simp)|(apply ab;intro X Y;go_simp;(first|(refine ⟨_,g1,?_⟩)|skip);apply Y;clear Y X)
  all_goals go_simp
end Go.Proofs.YtoibondihdhnoaaGreatDoor
