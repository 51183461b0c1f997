/- Texts in one: Walks: which states are right, as the reference has them. -/
import Derived.Test.YtoibondihdhnoaaGreatDoorFRZ8
import Derived.Test.YtoibondihdhnoaaGreatDoorFRZ50
import Derived.Test.YtoibondihdhnoaaGreatDoorFRZ31
import Derived.Test.YtoibondihdhnoaaGreatDoorFRZ34
namespace Go.Proofs.YtoibondihdhnoaaGreatDoor
open Go.RowKit
set_option maxRecDepth 100000
set_option maxHeartbeats 2000000
theorem PQ (r:Ru) (s:St) (hl:r.ranks.length≤1000000) (hr:r.ranks.length=s.q.length) (hf:nU r s.q.length) : VC Tryz.prog 118 [ct r,ot s.q] (I (dI r s)):=by
 obtain ⟨R,hR⟩ : ∃ R,dI r s=R:=⟨_,rfl⟩
 rw [hR];unfold dI at hR;have HR:=Lib.hid hR;have HF:=Lib.hid hf;clear hR hf;refine aK Tryz.func118 rfl (by kernel_rfl) rfl fun M0 w0=>?_;simp only [Tryz.ntmps118,Tryz.results118,az];repeat' with_reducible first|apply af|apply ae|apply ar|apply aa|refine ah [] ?_|(apply ab;intro X Y;go_simp;apply Y;clear Y X)
 apply ch [1,2] (fun k=>[(5,I k)]) (fun k=>([] : Hp)) (mP r s) (r.ranks.length)
 ·go_simp<;>exact rfl
 ·go_simp
 ·intro k hk HB HP K hK;obtain ⟨w1,w2,w3,w4,w5,w6⟩:=ixs (m:=k) (by omega);have cp:k < s.q.length:=by omega
  have hp:=HP.out;unfold mP cl at hp;by_cases h1:(rat r.ranks k).feeder = -1
  ·clear hp;repeat' first|(with_reducible first|apply af|apply ae|apply aj|apply ar|apply aT|apply aa|refine ah [] ?_|apply aI|(apply ao;·go_simp)|(apply ak;·go_simp)|((first|apply ab|apply aJ);intro X Y;go_simp;apply Y;clear Y X))|((refine aQ 27 27 [] rfl (by kernel_rfl) ?_);simp only [aA])
   refine hK _ ?_;go_simp
  obtain ⟨f0,fl⟩:=HF.out k cp h1;obtain ⟨f,hf⟩ : ∃ f:Nat,(rat r.ranks k).feeder=f:=⟨(rat r.ranks k).feeder.toNat,by omega⟩
  rw [hf] at fl h1 hp;simp only [Int.toNat_natCast] at fl hp;clear f0;cases h2:(rat r.ranks k).called
  ·rw [decide_eq_true h1,h2] at hp;simp only [Bool.not_false,Bool.true_and] at hp;by_cases h3:((qat s.q k).length:Int) < (rat r.ranks k).places
   ·rw [decide_eq_true h3,Bool.true_and,decide_eq_false_iff_not] at hp;have h4:qat s.q f=[]:=List.eq_nil_of_length_eq_zero (by omega);clear hp;repeat' first|(with_reducible first|apply af|apply ae|apply aj|apply ar|apply aT|apply aa|refine ah [] ?_|apply aI|(apply ao;·go_simp)|(apply ak;·go_simp)|((first|apply ab|apply aJ);intro X Y;go_simp;apply Y;clear Y X))|((refine aQ 27 27 [] rfl (by kernel_rfl) ?_);simp only [aA])
    refine hK _ ?_;go_simp
   ·clear hp;repeat' first|(with_reducible first|apply af|apply ae|apply aj|apply ar|apply aT|apply aa|refine ah [] ?_|apply aI|(apply ao;·go_simp)|(apply ak;·go_simp)|((first|apply ab|apply aJ);intro X Y;go_simp;apply Y;clear Y X))|((refine aQ 27 27 [] rfl (by kernel_rfl) ?_);simp only [aA])
    refine hK _ ?_;go_simp
  ·clear hp;repeat' first|(with_reducible first|apply af|apply ae|apply aj|apply ar|apply aT|apply aa|refine ah [] ?_|apply aI|(apply ao;·go_simp)|(apply ak;·go_simp)|((first|apply ab|apply aJ);intro X Y;go_simp;apply Y;clear Y X))|((refine aQ 27 27 [] rfl (by kernel_rfl) ?_);simp only [aA])
   refine hK _ ?_;go_simp
 ·intro k hk HB HP K;have cp:k < s.q.length:=by omega
  have e:=HR.out;rw [gU hk HB.out HP.out] at e;subst e;have hp:=HP.out;unfold mP cl at hp;simp only [Bool.and_eq_true,decide_eq_true_eq,Bool.not_eq_true'] at hp;obtain ⟨⟨⟨h1,h2⟩,h3⟩,h4⟩:=hp;obtain ⟨f0,fl⟩:=HF.out k cp h1;obtain ⟨f,hf⟩ : ∃ f:Nat,(rat r.ranks k).feeder=f:=⟨(rat r.ranks k).feeder.toNat,by omega⟩
  rw [hf] at fl h1 h4;simp only [Int.toNat_natCast] at fl h4;have h5:¬qat s.q f=[]:=fun h=>by rw [h] at h4;simp at h4
  clear f0;repeat' first|(with_reducible first|apply af|apply ae|apply aF|apply aq|apply aj|apply ar|apply b_|apply aa|refine ah [] ?_|apply aI|(apply ao;·go_simp)|((first|apply ab|apply aJ);intro X Y;go_simp;apply Y;clear Y X))|((refine aQ 27 27 [] rfl (by kernel_rfl) ?_);simp only [aA])
  go_simp
 ·intro HB K;have e:=HR.out;rw [jb HB.out] at e;subst e;repeat' with_reducible first|apply af|apply ae|apply aW|apply aq|apply aX|apply aY|apply aa|refine ah [] ?_|(apply ak;·go_simp)|(apply ab;intro X Y;go_simp;apply Y;clear Y X)
  go_simp
set_option maxHeartbeats 4000000
theorem PR (a b:List Int) : fst (a++b)=if fst a=0 then fst b else fst a:=by
 induction a with
 | nil=>rfl
 | cons x a ih=>
  by_cases h:x=0
  ·simp [fst,h,ih]
  ·simp [fst,h]
theorem PS (E:Nat→Int) (n:Nat) : lD E (n+1)=if lD E n=0 then E n else lD E n:=by
 unfold lD;rw [List.range_succ,List.map_append,PR];congr 1;simp only [List.map_cons,List.map_nil,fst];split
 ·rfl
 ·rename_i h;simp at h;rw [h]
theorem sK {E:Nat→Int} : ∀ {n:Nat},(∀ j,j < n→(!decide (E j=0))=false)→lD E n=0:=fun h=>tv.2 fun j hj=>by simpa using h j hj
theorem wY {E:Nat→Int} {k:Nat} : ∀ {n:Nat},k < n→(∀ j,j < k→(!decide (E j=0))=false)→(!decide (E k=0))=true→lD E n=E k
 | 0,h,_,_=>by omega
 | n+1,h,hb,hp=>by
  have aC:E k≠0:=by simpa using hp
  rw [PS];by_cases he:k=n
  ·subst he;rw [if_pos (sK hb)]
  ·rw [wY (by omega:k < n) hb hp,if_neg aC]
theorem wZ (l:List ByteArray) (c:ByteArray) : cQ (isT l c) 0 l.length=inL c l:=by
 rw [Bool.eq_iff_iff,ql];constructor
 ·intro h;apply Classical.byContradiction;intro bw;rw [gI fun j hj=>by
   rw [isT,decide_eq_false_iff_not,bc hj];exact fun he=>bw (he▸List.getElem_mem hj)] at h
  cases h
 ·intro h;obtain ⟨j,hj,he⟩:=List.getElem_of_mem h;exact ig hj (by rw [isT,bc hj,he];simp)
theorem IE {c:ByteArray} {l:List ByteArray} (h:bP c=false) : iA c l=4:=by simp [iA,fst,unl,h]
theorem IF {c:ByteArray} {l:List ByteArray} (h:bP c=true) (h2:inL c l=true) : iA c l=5:=by simp [iA,fst,unl,h,h2]
theorem IG {c:ByteArray} {l:List ByteArray} (h:bP c=true) (h2:inL c l=false) : iA c l=0:=by simp [iA,fst,unl,h,h2]
def cz (s:St) (k:Nat) : List ByteArray:=(s.q.take k).flatten
@[go_sem] theorem PT (s:St) : cz s 0=[]:=by simp [cz]
theorem Dn {s:St} (h:∀ k,k < s.q.length→(qat s.q k).length≤300) : ∀ k,k≤s.q.length→(cz s k).length≤k*300
 | 0,_=>by simp [cz]
 | k+1,hk=>by
  have:=Dn h k (by omega);have h2:=h k (by omega);unfold cz at this ⊢;rw [yu (by omega),List.length_append];omega
def e9 (s:St) (k:Nat) : List ByteArray:=s.q.flatten++(s.tk.take k).map (·.car)
@[go_sem] theorem PU (s:St) : e9 s 0=cz s s.q.length:=by simp [e9,cz]
theorem IH {s:St} {k:Nat} (h:k < s.tk.length) : e9 s (k+1)=e9 s k++[(aH s.tk k).car]:=by
 unfold e9;rw [nX h,List.map_append,←List.append_assoc,fe h];rfl
theorem II {s:St} (h:∀ k,k < s.q.length→(qat s.q k).length≤300) (k:Nat) (hk:k≤s.tk.length) : (e9 s k).length≤s.q.length*300+k:=by
 have:=Dn h s.q.length (Nat.le_refl _);unfold cz at this;rw [List.take_length] at this;unfold e9;rw [List.length_append,List.length_map,List.length_take];omega
theorem IJ {r:Ru} {s:St} {m:Nat} (h:s.q.length=r.ranks.length) (hm:m < s.q.length) (hb:∀ j,j < m→(!decide (iB r s j=0))=false) (hp:(!decide (iB r s m=0))=true) : ia r s=iB r s m:=by
 have aC:iB r s m≠0:=by simpa using hp
 unfold ia;rw [decide_eq_true h,wY hm hb hp];simp [fst,unl,aC]
theorem IK {r:Ru} {s:St} (h:s.q.length=r.ranks.length) (hq:∀ j,j < s.q.length→(!decide (iB r s j=0))=false) (h4:¬(s.tk.length:Int)≤40) : ia r s=8:=by
 unfold ia;rw [decide_eq_true h,sK hq,decide_eq_false h4];simp [fst,unl]
theorem IL {r:Ru} {s:St} {m:Nat} (h:s.q.length=r.ranks.length) (hq:∀ j,j < s.q.length→(!decide (iB r s j=0))=false) (h4:(s.tk.length:Int)≤40) (hm:m < s.tk.length) (hb:∀ j,j < m→(!decide (iC r s j=0))=false) (hp:(!decide (iC r s m=0))=true) : ia r s=iC r s m:=by
 have aC:iC r s m≠0:=by simpa using hp
 unfold ia;rw [decide_eq_true h,sK hq,decide_eq_true h4,wY hm hb hp];simp [fst,unl,aC]
theorem IM {r:Ru} {s:St} (h:s.q.length=r.ranks.length) (hq:∀ j,j < s.q.length→(!decide (iB r s j=0))=false) (h4:(s.tk.length:Int)≤40) (ht:∀ j,j < s.tk.length→(!decide (iC r s j=0))=false) : ia r s=fst [unl (inR s.time 0 604800) 2,unl (decide (dI r s < 0)) 22]:=by
 unfold ia;rw [decide_eq_true h,sK hq,decide_eq_true h4,sK ht];simp [fst,unl]
theorem PV {r:Ru} {s:St} {k:Nat} (h:iC r s k=0) : (bP (aH s.tk k).car=true∧(aH s.tk k).car∉e9 s k)∧inR (aH s.tk k).rank 0 ((r.ranks.length:Int) - 1)=true∧inR (aH s.tk k).time 0 s.time=true∧(k=0∨(aH s.tk (k - 1)).time≤(aH s.tk k).time):=by
 unfold iC at h;rw [bU,bU,bU,bU] at h;have h4:=ew (by decide) h.2.2.2.1;simp only [Bool.or_eq_true,decide_eq_true_eq] at h4;exact ⟨tw.1 h.1,ew (by decide) h.2.1,ew (by decide) h.2.2.1,h4⟩
theorem IN (r:Ru) (s:St) (hr:RuOK r) (hn:r.ranks.length≤1000000) (hs:SmallS s) : VC Tryz.prog 55 [ct r,ez s] (I (ia r s)):=by
 obtain ⟨E,hE⟩ : ∃ E,ia r s=E:=⟨_,rfl⟩
 rw [hE];have HE:=Lib.hid hE;have hq:∀ k,k < s.q.length→(qat s.q k).length≤300:=fun k hk=>by rw [fo hk];exact (hs.q1 _ (List.getElem_mem hk)).1
 have w7:∀ k,k < s.q.length→∀ j,j < (qat s.q k).length→(tat (qat s.q k) j).size≤1000:=fun k hk j hj=>by
  rw [bc hj];refine (hs.q1 _ ?_).2 _ (List.getElem_mem hj);rw [fo hk];exact List.getElem_mem hk
 have w8:∀ k,k < s.tk.length→(aH s.tk k).car.size≤1000:=fun k hk=>by rw [fe hk];exact (hs.t1 _ (List.getElem_mem hk)).1
 have hle:=Dn hq;have sd:=hs.nq;have se:=hs.nt;have HQ:=Lib.hid hq;have HC:=Lib.hid w7;have HT:=Lib.hid w8;have HL:=Lib.hid hle;have HU:=Lib.hid hr;clear hE hq w7 w8 hle hs hr;by_cases dN:s.q.length=r.ranks.length
 ·have qS:(s.q.length:Int)=(r.ranks.length:Int):=by omega
  have HF:nU r s.q.length:=by rw [dN];exact HU.out.feed
  have gm:=PQ r s hn dN.symm HF;have i5:=j3 s.time 0 604800;have lU:=Lib.hid dN;have Tr:=Lib.hid HF;clear HF dN;refine aK Tryz.func55 rfl (by kernel_rfl) rfl fun M0 w0=>?_;simp only [Tryz.ntmps55,Tryz.results55,az];repeat' with_reducible first|apply af|apply ae|apply aj|apply ar|apply aa|refine ah [5] ?_|(apply ak;·go_simp)|(apply ab;intro X Y;go_simp;apply Y;clear Y X)
  apply ch [2,3] (fun k=>[(6,I k),(5,.osl 0)]) (fun k=>([some (.arr 9 1 (decide (cz s k=[])) ((cz s k).map cL))] : Hp)) (fun k=>!decide (iB r s k=0)) (s.q.length)
  ·go_simp<;>exact rfl
  ·go_simp
  ·intro m hm HB HP K hK;obtain ⟨w1,w2,w3,w4,w5,w6⟩:=ixs (m:=m) (by omega);have Dp:m < r.ranks.length:=by have:=lU.out;omega
   have fQ:=HQ.out m hm;have fB:=HL.out m (by omega);have hp:iB r s m=0:=by simpa using HP.out
   unfold iB at hp;have cP:¬(rat r.ranks m).places < ((qat s.q m).length:Int):=fun h=>by rw [if_pos h] at hp;simp at hp
   rw [if_neg cP,tv] at hp;have px:=Lib.hid hp;have Dq:=Lib.hid (show cz s (m+1)=cz s m++qat s.q m from yu hm);clear hp;repeat' first|(with_reducible first|apply af|apply ae|apply aj|apply ar|apply aa|refine ah [] ?_|apply aI|(apply ao;·go_simp)|(apply ak;·go_simp)|((first|apply ab|apply aJ);intro X Y;go_simp;apply Y;clear Y X))|((refine aQ 13 13 [] rfl (by kernel_rfl) ?_);simp only [aA])
   apply ch [2,3,6] (fun k=>[(7,I k),(5,.osl 0)]) (fun k=>([some (.arr 9 1 (decide (cz s m++(qat s.q m).take k=[])) ((cz s m++(qat s.q m).take k).map cL))] : Hp)) (fun j=>!decide (h_ (cz s m) (qat s.q m) j=0)) ((qat s.q m).length)
   ·go_simp<;>exact rfl
   ·go_simp
   ·intro j hj cb cx K2 cB;obtain ⟨x1,x2,x3,x4,x5,x6⟩:=ixs (m:=j) (by omega);have eX:h_ (cz s m) (qat s.q m) j=0:=px.out j hj;unfold h_ at eX;have hc:=tw.1 eX;have g1:=ny (tat (qat s.q m) j) (by have:=HC.out m hm j hj;omega);have g2:=nx (cz s m++(qat s.q m).take j) (tat (qat s.q m) j) (by rw [List.length_append,List.length_take];omega);rw [wZ,show inL (tat (qat s.q m) j) (cz s m++(qat s.q m).take j)=false by rw [←Bool.not_eq_true,ql];exact hc.2] at g2;rw [hc.1] at g1;have bo:=(bc hj).symm;have gq:(qat s.q m).take (j+1)=(qat s.q m).take j++[tat (qat s.q m) j]:=by rw [nX hj,bc hj]
    have eN:(cz s m++(qat s.q m).take j).length+1≤1000000000:=by rw [List.length_append,List.length_take];omega
    rw [gq,←List.append_assoc] at cB;clear eX hc gq;generalize cz s m++(qat s.q m).take j=L at *;generalize tat (qat s.q m) j=C at *;repeat' first|(with_reducible first|apply af|apply ae|apply aj|apply ar|apply aT|apply aa|refine ah [] ?_|(apply ao;·go_simp)|(apply ak;·go_simp))|((with_reducible apply ab);intro X Y;go_simp;(first|(with_reducible refine ⟨_,g1,?_⟩)|(refine ⟨_,⟨g2,rfl⟩,?_⟩)|skip);apply Y;clear Y X)
    refine cB _ ?_;go_simp
   ·intro j hj cb cx K2;have h1:h_ (cz s m) (qat s.q m) j=0:=px.out j hj;have h2:=cx.out;rw [h1] at h2;cases h2
   ·intro cb K2;rw [Dq.out] at hK;rw [List.take_length];repeat' with_reducible first|apply af|apply ae|apply aW|apply aX|apply aT|apply aY|apply aa|refine ah [] ?_|(apply ak;·go_simp)|(apply ab;intro X Y;go_simp;apply Y;clear Y X)
    refine hK _ ?_;go_simp
  ·intro m hm HB HP K;obtain ⟨w1,w2,w3,w4,w5,w6⟩:=ixs (m:=m) (by omega);have Dp:m < r.ranks.length:=by have:=lU.out;omega
   have fQ:=HQ.out m hm;have fB:=HL.out m (by omega);have e:=IJ lU.out hm HB.out HP.out;have hp:¬iB r s m=0:=by simpa using HP.out
   rw [HE.out] at e;unfold iB at e hp;by_cases cP:(rat r.ranks m).places < ((qat s.q m).length:Int)
   ·rw [if_pos cP] at e;subst e;clear hp;repeat' first|(with_reducible first|apply af|apply ae|apply aF|apply aq|apply aj|apply ar|apply b_|apply aa|refine ah [] ?_|apply aI|(apply ao;·go_simp)|((first|apply ab|apply aJ);intro X Y;go_simp;apply Y;clear Y X))|((refine aQ 13 13 [] rfl (by kernel_rfl) ?_);simp only [aA])
    go_simp
   rw [if_neg cP] at e hp;have Dr:=Lib.hid e;have px:=Lib.hid hp;clear e hp;repeat' first|(with_reducible first|apply af|apply ae|apply aj|apply ar|apply aa|refine ah [] ?_|apply aI|(apply ao;·go_simp)|(apply ak;·go_simp)|((first|apply ab|apply aJ);intro X Y;go_simp;apply Y;clear Y X))|((refine aQ 13 13 [] rfl (by kernel_rfl) ?_);simp only [aA])
   apply ch [2,3,6] (fun k=>[(7,I k),(5,.osl 0)]) (fun k=>([some (.arr 9 1 (decide (cz s m++(qat s.q m).take k=[])) ((cz s m++(qat s.q m).take k).map cL))] : Hp)) (fun j=>!decide (h_ (cz s m) (qat s.q m) j=0)) ((qat s.q m).length)
   ·go_simp<;>exact rfl
   ·go_simp
   ·intro j hj cb cx K2 cB;obtain ⟨x1,x2,x3,x4,x5,x6⟩:=ixs (m:=j) (by omega);have eX:h_ (cz s m) (qat s.q m) j=0:=by simpa using cx.out
    unfold h_ at eX;have hc:=tw.1 eX;have g1:=ny (tat (qat s.q m) j) (by have:=HC.out m hm j hj;omega);have g2:=nx (cz s m++(qat s.q m).take j) (tat (qat s.q m) j) (by rw [List.length_append,List.length_take];omega);rw [wZ,show inL (tat (qat s.q m) j) (cz s m++(qat s.q m).take j)=false by rw [←Bool.not_eq_true,ql];exact hc.2] at g2;rw [hc.1] at g1;have bo:=(bc hj).symm;have gq:(qat s.q m).take (j+1)=(qat s.q m).take j++[tat (qat s.q m) j]:=by rw [nX hj,bc hj]
    have eN:(cz s m++(qat s.q m).take j).length+1≤1000000000:=by rw [List.length_append,List.length_take];omega
    rw [gq,←List.append_assoc] at cB;clear eX hc gq;generalize cz s m++(qat s.q m).take j=L at *;generalize tat (qat s.q m) j=C at *;repeat' first|(with_reducible first|apply af|apply ae|apply aj|apply ar|apply aT|apply aa|refine ah [] ?_|(apply ao;·go_simp)|(apply ak;·go_simp))|((with_reducible apply ab);intro X Y;go_simp;(first|(with_reducible refine ⟨_,g1,?_⟩)|(refine ⟨_,⟨g2,rfl⟩,?_⟩)|skip);apply Y;clear Y X)
    refine cB _ ?_;go_simp
   ·intro j hj cb cx K2;obtain ⟨x1,x2,x3,x4,x5,x6⟩:=ixs (m:=j) (by omega);have e:E=lD (h_ (cz s m) (qat s.q m)) (qat s.q m).length:=Dr.out;rw [wY hj cb.out cx.out] at e;unfold h_ at e;have g1:=ny (tat (qat s.q m) j) (by have:=HC.out m hm j hj;omega);have g2:=nx (cz s m++(qat s.q m).take j) (tat (qat s.q m) j) (by rw [List.length_append,List.length_take];omega);rw [wZ] at g2;have bo:=(bc hj).symm;have w9:¬iA (tat (qat s.q m) j) (cz s m++(qat s.q m).take j)=0:=fun h=>by
     have h2:=cx.out;rw [show h_ (cz s m) (qat s.q m) j=0 from h] at h2;cases h2
    generalize cz s m++(qat s.q m).take j=L at *;generalize tat (qat s.q m) j=C at *;cases hD:bP C
    ·rw [IE hD] at e;rw [hD] at g1;subst e;clear w9;repeat' with_reducible first|apply af|apply ae|apply aF|apply aq|apply aj|apply ar|apply b_|apply aa|refine ah [] ?_|(apply ao;·go_simp)|(apply ab;intro X Y;go_simp;(first|(refine ⟨_,g1,?_⟩)|skip);apply Y;clear Y X)
     go_simp
    ·rw [hD] at g1;cases hI:inL C L
     ·rw [IG hD hI] at w9;exact absurd rfl w9
     ·rw [IF hD hI] at e;rw [hI] at g2;subst e;clear w9;repeat' first|(with_reducible first|apply af|apply ae|apply aF|apply aq|apply aj|apply ar|apply b_|apply aa|refine ah [] ?_|(apply ao;·go_simp)|(apply ak;·go_simp))|((with_reducible apply ab);intro X Y;go_simp;(first|(with_reducible refine ⟨_,g1,?_⟩)|(refine ⟨_,⟨g2,rfl⟩,?_⟩)|skip);apply Y;clear Y X)
      go_simp
   ·intro cb K2;exfalso;exact px.out (sK cb.out)
  ·intro HB K;have sL:=HB;clear HB;by_cases h4:(s.tk.length:Int)≤40
   ·have uY:¬(40:Int) < (s.tk.length:Int):=by omega
    have eJ:decide (cz s s.q.length=[])=decide (e9 s 0=[]):=by rw [PU]
    repeat' with_reducible first|apply af|apply ae|apply aW|apply aj|apply aX|apply ar|apply aY|apply aa|refine ah [] ?_|(apply ak;·go_simp)|(apply ab;intro X Y;go_simp;apply Y;clear Y X)
    apply ch [2,3] (fun k=>[(8,I k),(5,.osl 0)]) (fun k=>([some (.arr 9 1 (decide (e9 s k=[])) ((e9 s k).map cL))] : Hp)) (fun k=>!decide (iC r s k=0)) (s.tk.length)
    ·go_simp<;>exact rfl
    ·go_simp
    ·intro k hk HB HP K hK;obtain ⟨w1,w2,w3,w4,w5,w6⟩:=ixs (m:=k) (by omega);have hp:iC r s k=0:=by simpa using HP.out
     obtain ⟨⟨c1,c2⟩,c3,c4,c5⟩:=PV hp;have ma:=II HQ.out k (by omega);have eN:(e9 s k).length+1≤1000000000:=by omega
     have g1:=ny (aH s.tk k).car (by have:=HT.out k hk;omega);have g2:=nx (e9 s k) (aH s.tk k).car (by omega);have g3:=zO r (aH s.tk k).rank hn;have g4:=j3 (aH s.tk k).time 0 s.time;rw [wZ,show inL (aH s.tk k).car (e9 s k)=false by rw [←Bool.not_eq_true,ql];exact c2] at g2;rw [c1] at g1;rw [c3] at g3;rw [c4] at g4;rw [IH hk] at hK;clear hp c1 c2 c3 c4 ma;generalize e9 s k=L at *;rcases k with _|p
     ·clear c5;repeat' first|(with_reducible first|apply af|apply ae|apply aj|apply ar|apply aT|apply aa|refine ah [] ?_|apply aI|(apply ao;·go_simp)|(apply ak;·go_simp))|((with_reducible first|apply ab|apply aJ);intro X Y;go_simp;(first|(with_reducible refine ⟨_,g1,?_⟩)|(refine ⟨_,⟨g2,rfl⟩,?_⟩)|(refine ⟨_,g3,?_⟩)|(with_reducible refine ⟨_,g4,?_⟩)|skip);apply Y;clear Y X)|((refine aQ 14 14 [] rfl (by kernel_rfl) ?_);simp only [aA])
      refine hK _ ?_;go_simp
     ·have ho:¬(aH s.tk (p+1)).time < (aH s.tk p).time:=by
       have:p+1 - 1=p:=by omega
       rw [this] at c5;omega
      obtain ⟨x1,x2,x3,x4,x5,x6⟩:=ixs (m:=p) (by omega);have cP:p < s.tk.length:=by omega
      have sM:(p:Int)+1 < (s.tk.length:Int):=by omega
      have sO:¬(p:Int)+1≤0:=by omega
      have sP:(0:Int) < (p:Int)+1:=by omega
      clear c5;repeat' first|(with_reducible first|apply af|apply ae|apply aj|apply ar|apply aT|apply aa|refine ah [] ?_|apply aI|(apply ao;·go_simp)|(apply ak;·go_simp))|((with_reducible first|apply ab|apply aJ);intro X Y;go_simp;(first|(with_reducible refine ⟨_,g1,?_⟩)|(refine ⟨_,⟨g2,rfl⟩,?_⟩)|(refine ⟨_,g3,?_⟩)|(with_reducible refine ⟨_,g4,?_⟩)|skip);apply Y;clear Y X)|((refine aQ 14 14 [] rfl (by kernel_rfl) ?_);simp only [aA])
      refine hK _ ?_;go_simp
    ·intro k hk HB HP K;obtain ⟨w1,w2,w3,w4,w5,w6⟩:=ixs (m:=k) (by omega);have e:=IL lU.out sL.out h4 hk HB.out HP.out;have hp:¬iC r s k=0:=by simpa using HP.out
     rw [HE.out] at e;have ma:=II HQ.out k (by omega);have g1:=ny (aH s.tk k).car (by have:=HT.out k hk;omega);have g2:=nx (e9 s k) (aH s.tk k).car (by omega);have g3:=zO r (aH s.tk k).rank hn;have g4:=j3 (aH s.tk k).time 0 s.time;rw [wZ] at g2;unfold iC at e hp;rw [show s.q.flatten++(s.tk.take k).map (·.car)=e9 s k from rfl] at e hp;clear ma;generalize e9 s k=L at *;cases hD:bP (aH s.tk k).car
     ·rw [IE hD] at e;rw [hD] at g1;have e2:E=4:=by rw [e];rfl
      subst e2;clear hp e;repeat' with_reducible first|apply af|apply ae|apply aF|apply aq|apply aj|apply ar|apply b_|apply aa|refine ah [] ?_|(apply ao;·go_simp)|(apply ab;intro X Y;go_simp;(first|(refine ⟨_,g1,?_⟩)|skip);apply Y;clear Y X)
      go_simp
     rw [hD] at g1;by_cases Ds:inL (aH s.tk k).car L=true
     ·have hI:=Ds;rw [IF hD hI] at e;rw [hI] at g2;have e2:E=5:=by rw [e];rfl
      subst e2;clear hp e;repeat' first|(with_reducible first|apply af|apply ae|apply aF|apply aq|apply aj|apply ar|apply b_|apply aa|refine ah [] ?_|(apply ao;·go_simp)|(apply ak;·go_simp))|((with_reducible apply ab);intro X Y;go_simp;(first|(with_reducible refine ⟨_,g1,?_⟩)|(refine ⟨_,⟨g2,rfl⟩,?_⟩)|skip);apply Y;clear Y X)
      go_simp
     have hI:inL (aH s.tk k).car L=false:=by simpa using Ds
     clear Ds;rw [IG hD hI] at e hp;rw [hI] at g2;cases hR:inR (aH s.tk k).rank 0 ((r.ranks.length:Int) - 1)
     ·rw [hR] at e g3;have e2:E=6:=by rw [e];rfl
      subst e2;clear hp e;repeat' first|(with_reducible first|apply af|apply ae|apply aF|apply aq|apply aj|apply ar|apply b_|apply aa|refine ah [] ?_|(apply ao;·go_simp)|(apply ak;·go_simp))|((with_reducible apply ab);intro X Y;go_simp;(first|(with_reducible refine ⟨_,g1,?_⟩)|(refine ⟨_,⟨g2,rfl⟩,?_⟩)|(refine ⟨_,g3,?_⟩)|skip);apply Y;clear Y X)
      go_simp
     rw [hR] at e g3 hp;cases hM:inR (aH s.tk k).time 0 s.time
     ·rw [hM] at e g4;have e2:E=2:=by rw [e];rfl
      subst e2;clear hp e;repeat' first|(with_reducible first|apply af|apply ae|apply aF|apply aq|apply aj|apply ar|apply b_|apply aa|refine ah [] ?_|(apply ao;·go_simp)|(apply ak;·go_simp))|((with_reducible apply ab);intro X Y;go_simp;(first|(with_reducible refine ⟨_,g1,?_⟩)|(refine ⟨_,⟨g2,rfl⟩,?_⟩)|(refine ⟨_,g3,?_⟩)|(with_reducible refine ⟨_,g4,?_⟩)|skip);apply Y;clear Y X)
      go_simp
     rw [hM] at e g4 hp;rcases k with _|p
     ·exact absurd rfl hp
     ·have cU:p+1 - 1=p:=by omega
      rw [cU] at e hp;have ho:(aH s.tk (p+1)).time < (aH s.tk p).time:=by
       apply Classical.byContradiction;intro hh;rw [decide_eq_true (by omega:(aH s.tk p).time≤(aH s.tk (p+1)).time),Bool.or_true] at hp;exact hp rfl
      obtain ⟨x1,x2,x3,x4,x5,x6⟩:=ixs (m:=p) (by omega);have cP:p < s.tk.length:=by omega
      have sM:(p:Int)+1 < (s.tk.length:Int):=by omega
      have sO:¬(p:Int)+1≤0:=by omega
      have sP:(0:Int) < (p:Int)+1:=by omega
      have e2:E=9:=by rw [e,decide_eq_false (by omega:¬(aH s.tk p).time≤(aH s.tk (p+1)).time),decide_eq_false (by omega:¬p+1=0)];rfl
      subst e2;clear hp e;repeat' first|(with_reducible first|apply af|apply ae|apply aF|apply aq|apply aj|apply ar|apply b_|apply aa|refine ah [] ?_|apply aI|(apply ao;·go_simp)|(apply ak;·go_simp))|((with_reducible first|apply ab|apply aJ);intro X Y;go_simp;(first|(with_reducible refine ⟨_,g1,?_⟩)|(refine ⟨_,⟨g2,rfl⟩,?_⟩)|(refine ⟨_,g3,?_⟩)|(with_reducible refine ⟨_,g4,?_⟩)|skip);apply Y;clear Y X)|((refine aQ 14 14 [] rfl (by kernel_rfl) ?_);simp only [aA])
      go_simp
    ·intro HB K;have e:=IM lU.out sL.out h4 HB.out;rw [HE.out] at e;cases hM:inR s.time 0 604800
     ·rw [hM] at e i5;have e2:E=2:=by rw [e];rfl
      subst e2;clear e;repeat' with_reducible first|apply af|apply ae|apply aW|apply aF|apply aq|apply aX|apply aY|apply aa|refine ah [] ?_|(apply ao;·go_simp)|(apply ak;·go_simp)|(apply ab;intro X Y;go_simp;(first|(refine ⟨_,i5,?_⟩)|skip);apply Y;clear Y X)
      go_simp
     ·rw [hM] at e i5;by_cases hx:dI r s < 0
      ·rw [decide_eq_true hx] at e;have e2:E=0:=by rw [e];rfl
       subst e2;have w_:¬0≤dI r s:=by omega
       clear e;generalize dI r s=NX at *;repeat' first|(with_reducible first|apply af|apply ae|apply aW|apply aq|apply aj|apply aX|apply aY|apply aa|refine ah [] ?_|(apply ak;·go_simp))|((with_reducible apply ab);intro X Y;go_simp;(first|(with_reducible refine ⟨_,i5,?_⟩)|(refine ⟨_,gm,?_⟩)|skip);apply Y;clear Y X)
       go_simp
      ·rw [decide_eq_false hx] at e;have e2:E=22:=by rw [e];rfl
       subst e2;have w_:0≤dI r s:=by omega
       clear e;generalize dI r s=NX at *;repeat' first|(with_reducible first|apply af|apply ae|apply aW|apply aF|apply aq|apply aj|apply aX|apply aY|apply aa|refine ah [] ?_|(apply ao;·go_simp)|(apply ak;·go_simp))|((with_reducible apply ab);intro X Y;go_simp;(first|(with_reducible refine ⟨_,i5,?_⟩)|(refine ⟨_,gm,?_⟩)|skip);apply Y;clear Y X)
       go_simp
   ·have uY:(40:Int) < (s.tk.length:Int):=by omega
    have e:=IK lU.out sL.out h4;rw [HE.out] at e;subst e;repeat' with_reducible first|apply af|apply ae|apply aW|apply aF|apply aq|apply aX|apply aY|apply aa|refine ah [] ?_|(apply ao;·go_simp)|(apply ak;·go_simp)|(apply ab;intro X Y;go_simp;apply Y;clear Y X)
    go_simp
 ·have qS:¬(s.q.length:Int)=(r.ranks.length:Int):=by omega
  have e:ia r s=10:=by
   unfold ia;rw [decide_eq_false dN];rfl
  rw [HE.out] at e;subst e;refine aK Tryz.func55 rfl (by kernel_rfl) rfl fun M0 w0=>?_;simp only [Tryz.ntmps55,Tryz.results55,az];repeat' with_reducible first|apply af|apply ae|apply aF|apply aq|apply aa|refine ah [] ?_|(apply ao;·go_simp)|(apply ab;intro X Y;go_simp;apply Y;clear Y X)
  go_simp
def fW (L:List ByteArray) : KV:=L.foldl (fun m c=>ic (.string c) (.bool true) m) []
@[go_sem] theorem Ts:fW []=[]:=rfl
theorem IP (L:List ByteArray) (c:ByteArray) : fW (L++[c])=ic (.string c) (.bool true) (fW L):=by simp [fW]
theorem PW {P:List ByteArray→Prop} (h0:P []) (h1:∀ l c,P l→P (l++[c])) (l:List ByteArray) : P l:=by
 have h:∀ r:List ByteArray,P r.reverse:=fun r=>by
  induction r with
  | nil=>exact h0
  | cons c r ih=>
   rw [List.reverse_cons];exact h1 _ _ ih
 have:=h l.reverse;rwa [List.reverse_reverse] at this
theorem PX (c d:ByteArray) (l:List ByteArray) : inL c (l++[d])=(inL c l || decide (c=d)):=by
 rw [Bool.eq_iff_iff,ql];simp [ql]
theorem PY (c:ByteArray) (L:List ByteArray) : gT (.string c) (fW L)=if inL c L=true then some (.bool true) else none:=by
 refine PW (P:=fun L=>gT (.string c) (fW L)=if inL c L=true then some (.bool true) else none) ?_ (fun l d ih=>?_) L
 ·rw [if_neg (by rw [ql];simp)];rfl
 rw [IP,zd,ih,PX];by_cases h:c=d
 ·rw [if_pos h,if_pos (by simp [h])]
 ·rw [if_neg h,decide_eq_false h,Bool.or_false]
theorem PZ (c:ByteArray) (L:List ByteArray) : (gT (.string c) (fW L)).getD (.bool false) = .bool (inL c L):=by
 rw [PY];cases h:inL c L<;>rfl
theorem xa (c:ByteArray) (L:List ByteArray) (hc:c.size≤1000) : VH Tryz.prog 114 [some (.box [.mp 1]),some (.mpo (4,.i64) (fW L))] [S c,.ref 0 0] [1] [some (.box [.mp 1]),some (.mpo (4,.i64) (fW (L++[c])))] (I (iA c L)):=by
 have g1:=rL c hc;have g2:=br (bP c) 4;have g3:=br (!inL c L) 5;have g4:VC Tryz.prog 88 [.sl 1 ([unl (bP c) 4,unl (!inL c L) 5].map dk)] (I (iA c L)):=dW _ rfl rfl;have hf:=PZ c L;rw [IP];generalize iA c L=E at *;generalize bP c=D1 at *;generalize inL c L=D2 at *;generalize unl D1 4=A1 at *;generalize unl (!D2) 5=A2 at *;generalize fW L=M at *;refine cZ Tryz.func114 rfl (by kernel_rfl) rfl (fun _=>by kernel_rfl) fun M0 w0 vs=>?_;simp only [Tryz.ntmps114,Tryz.results114,az];repeat' first|(with_reducible first|apply af|apply ae|apply aq|apply aa|refine ah [] ?_|apply aI)|((with_reducible first|apply ab|apply aJ);intro X Y;go_simp;(first|(with_reducible refine ⟨_,g1,?_⟩)|(with_reducible refine ⟨_,g2,?_⟩)|(with_reducible refine ⟨_,g3,?_⟩)|(refine ⟨_,g4,?_⟩)|skip);apply Y;clear Y X)|((refine aQ 11 11 [] rfl (by kernel_rfl) ?_);simp only [aA])
 go_simp
theorem VC.args {P:Program} {f:FuncId} {args la:List AV} {r:AV} (h:VC P f args r) (hl:la.length=args.length) (ha:∀ (i:Nat) (a a':AV),args[i]? = some a→la[i]? = some a'→∀ (w:World) (M:Nat→Nat→Prop) (v:Value),V0 w M a' v→V0 w M a v) : VC P f la r:=
 ⟨h.1,fun w M vs hM iQ hv=>h.2 w M vs hM (iQ.trans hl) fun i a v hi P0=>by
  have aw:i < la.length:=by
   rw [hl];exact (List.getElem?_eq_some_iff.1 hi).1
  exact ha i a _ hi (List.getElem?_eq_getElem aw) w M v (hv i _ v (List.getElem?_eq_getElem aw) P0)⟩
theorem V0.vpNil {w:World} {M:Nat→Nat→Prop} {v:Value} {a b c d e g:AV} (h:V0 w M (.vp [a,b,c,d,e,g,aZ]) v) : V0 w M (.vp [a,b,c,d,e,g,.sl 3 []]) v:=by
 cases h with
 | vp _ bk o u hb hM h1 hc hv=>
  refine .vp _ bk o u hb (fun j hj=>hM j (by simpa using hj)) (fun x hx=>?_) (fun j hj=>hc j (by simpa using hj)) fun j x hj=>?_
  ·simp only [List.mem_cons,List.not_mem_nil,or_false] at hx;rcases hx with rfl|rfl|rfl|rfl|rfl|rfl|rfl
   ·exact h1 _ (by simp)
   ·exact h1 _ (by simp)
   ·exact h1 _ (by simp)
   ·exact h1 _ (by simp)
   ·exact h1 _ (by simp)
   ·exact h1 _ (by simp)
   ·rfl
  ·rcases j with _|_|_|_|_|_|_|j
   ·exact hv 0 x hj
   ·exact hv 1 x hj
   ·exact hv 2 x hj
   ·exact hv 3 x hj
   ·exact hv 4 x hj
   ·exact hv 5 x hj
   ·simp only [List.getElem?_cons_zero,List.getElem?_cons_succ,Option.some.injEq] at hj;subst hj;exact (hv 6 _ rfl).nilSl 3
   ·simp at hj
theorem P1 (r:Ru) (s:St) (hl:r.ranks.length≤1000000) (hr:r.ranks.length=s.q.length) (hf:nU r s.q.length) : VC Tryz.prog 115 [.vp [ot s.q,.sl 3 (s.tk.map Tk.av),I s.time,.sl 4 (r.ranks.map Rk.av),I r.back,I r.ret,aZ]] (I (dI r s)):=
 (B6 r s [] hl hr hf).args rfl fun i a a' h1 h2 w M v hv=>by
  rcases i with _|i
  ·simp only [List.getElem?_cons_zero,Option.some.injEq] at h1 h2;subst h1;subst h2;exact hv.vpNil
  ·simp at h1
theorem IQ (r:Ru) (s:St) (hn:r.ranks.length≤1000000) (bI:∀ k,k < r.ranks.length→(rat r.ranks k).name.size≤1000) (hs:SmallS s) (h:(bY r).2≠0∨s.q.length≠r.ranks.length) : VC Tryz.prog 52 [ct r,ez s] (I (fst [(bY r).2,10])):=by
 have g1:=nc r hn bI;have sd:=hs.nq;have ed:decide ((s.q.length:Int)=(r.ranks.length:Int))=decide (s.q.length=r.ranks.length):=by
  by_cases hh:s.q.length=r.ranks.length
  ·rw [decide_eq_true hh,decide_eq_true (by omega)]
  ·rw [decide_eq_false hh,decide_eq_false (by omega)]
 have g2:=br (decide (s.q.length=r.ranks.length)) 10;have g3:VC Tryz.prog 88 [.sl 1 ([(bY r).2,unl (decide (s.q.length=r.ranks.length)) 10].map dk)] (I (fst [(bY r).2,unl (decide (s.q.length=r.ranks.length)) 10])):=dW _ rfl rfl;have e:fst [(bY r).2,unl (decide (s.q.length=r.ranks.length)) 10]=fst [(bY r).2,10]:=by
  rcases h with h|h
  ·simp [fst,h]
  ·rw [decide_eq_false h];rfl
 have aC:fst [(bY r).2,10]≠0:=by
  simp only [fst];split
  ·assumption
  ·decide
 rw [e] at g3;rw [←ed] at g2 g3;generalize fst [(bY r).2,10]=F at *;generalize (bY r).2=A1 at *;clear e h;generalize unl (decide ((s.q.length:Int)=(r.ranks.length:Int))) 10=A2 at *;by_cases hq:(s.q.length:Int)=(r.ranks.length:Int)
 ·rw [decide_eq_true hq] at g2 ed;clear ed;refine aK Tryz.func52 rfl (by kernel_rfl) rfl fun M0 w0=>?_;simp only [Tryz.ntmps52,Tryz.results52,az];repeat' first|(with_reducible first|apply af|apply ae|apply aF|apply aq|apply aa|refine ah [] ?_|apply aI|(apply ao;·go_simp))|((with_reducible first|apply ab|apply aJ);intro X Y;go_simp;(first|(with_reducible refine ⟨_,g1,?_⟩)|(with_reducible refine ⟨_,g2,?_⟩)|(refine ⟨_,g3,?_⟩)|skip);apply Y;clear Y X)|((refine aQ 13 13 [] rfl (by kernel_rfl) ?_);simp only [aA])
  go_simp
 ·rw [decide_eq_false hq] at g2 ed;clear ed;refine aK Tryz.func52 rfl (by kernel_rfl) rfl fun M0 w0=>?_;simp only [Tryz.ntmps52,Tryz.results52,az];repeat' first|(with_reducible first|apply af|apply ae|apply aF|apply aq|apply aa|refine ah [] ?_|apply aI|(apply ao;·go_simp))|((with_reducible first|apply ab|apply aJ);intro X Y;go_simp;(first|(with_reducible refine ⟨_,g1,?_⟩)|(with_reducible refine ⟨_,g2,?_⟩)|(refine ⟨_,g3,?_⟩)|skip);apply Y;clear Y X)|((refine aQ 13 13 [] rfl (by kernel_rfl) ?_);simp only [aA])
  go_simp
theorem P2 (r:Ru) (s:St) (hn:r.ranks.length≤1000000) (bI:∀ k,k < r.ranks.length→(rat r.ranks k).name.size≤1000) (hs:SmallS s) (h0:(bY r).2=0) (dN:s.q.length=r.ranks.length) : VC Tryz.prog 52 [ct r,ez s] (I (ia r s)):=by
 obtain ⟨E,hE⟩ : ∃ E,ia r s=E:=⟨_,rfl⟩
 rw [hE];have HE:=Lib.hid hE;have g1:=nc r hn bI;have g2:=br true 10;have g3:VC Tryz.prog 88 [.sl 1 ([(bY r).2,unl true 10].map dk)] (I (fst [(bY r).2,unl true 10])):=dW _ rfl rfl;rw [h0] at g1 g3;have e0:unl true 10=0:=rfl;have e1:fst [0,unl true 10]=0:=rfl;rw [e1] at g3;rw [e0] at g2 g3;have hr:=(vl h0).1;have hq:∀ k,k < s.q.length→(qat s.q k).length≤300:=fun k hk=>by rw [fo hk];exact (hs.q1 _ (List.getElem_mem hk)).1
 have w7:∀ k,k < s.q.length→∀ j,j < (qat s.q k).length→(tat (qat s.q k) j).size≤1000:=fun k hk j hj=>by
  rw [bc hj];refine (hs.q1 _ ?_).2 _ (List.getElem_mem hj);rw [fo hk];exact List.getElem_mem hk
 have w8:∀ k,k < s.tk.length→(aH s.tk k).car.size≤1000:=fun k hk=>by rw [fe hk];exact (hs.t1 _ (List.getElem_mem hk)).1
 have sd:=hs.nq;have se:=hs.nt;have HF:nU r s.q.length:=by rw [dN];exact hr.feed
 have gm:=P1 r s hn dN.symm HF;have i5:=jT s.time 0 604800;have u5:=br (inR s.time 0 604800) 2;have u6:=br (decide (dI r s < 0)) 22;have g6:VC Tryz.prog 88 [.sl 1 ([unl (inR s.time 0 604800) 2,unl (decide (dI r s < 0)) 22].map dk)] (I (fst [unl (inR s.time 0 604800) 2,unl (decide (dI r s < 0)) 22])):=dW _ rfl rfl;have qS:(s.q.length:Int)=(r.ranks.length:Int):=by omega
 have HQ:=Lib.hid hq;have HC:=Lib.hid w7;have HT:=Lib.hid w8;have lU:=Lib.hid dN;have Tt:Hid (fW (cz s 0)=[]):=Lib.hid (by rw [PT];rfl);clear hE hq w7 w8 hr hs dN h0 e0 e1 HF bI;refine aK Tryz.func52 rfl (by kernel_rfl) rfl fun M0 w0=>?_;simp only [Tryz.ntmps52,Tryz.results52,az];repeat' first|(with_reducible first|apply af|apply ae|apply aj|apply ar|apply aa|refine ah [] ?_|apply aI|(apply ak;·go_simp))|((with_reducible first|apply ab|apply aJ);intro X Y;go_simp;(first|(with_reducible refine ⟨_,g1,?_⟩)|(with_reducible refine ⟨_,g2,?_⟩)|(refine ⟨_,g3,?_⟩)|skip);apply Y;clear Y X)|((refine aQ 13 13 [] rfl (by kernel_rfl) ?_);simp only [aA])
 apply ch [2,3,7,35,36] (fun k=>[(37,I k)]) (fun k=>([some (.mpo (4,.i64) (fW (cz s k))),some (.box [.mp 0])] : Hp)) (fun k=>!decide (iB r s k=0)) (s.q.length)
 ·go_simp<;>exact rfl
 ·go_simp
 ·intro m hm HB HP K hK;obtain ⟨w1,w2,w3,w4,w5,w6⟩:=ixs (m:=m) (by omega);have Dp:m < r.ranks.length:=by have:=lU.out;omega
  have fQ:=HQ.out m hm;have hp:iB r s m=0:=by simpa using HP.out
  unfold iB at hp;have cP:¬(rat r.ranks m).places < ((qat s.q m).length:Int):=fun h=>by rw [if_pos h] at hp;simp at hp
  rw [if_neg cP,tv] at hp;have px:=Lib.hid hp;have Dq:=Lib.hid (show cz s (m+1)=cz s m++qat s.q m from yu hm);clear hp;repeat' with_reducible first|apply af|apply ae|apply aj|apply ar|apply aa|refine ah [] ?_|(apply ao;·go_simp)|(apply ak;·go_simp)|(apply ab;intro X Y;go_simp;apply Y;clear Y X)
  apply ch [2,3,7,35,36,37,51,52] (fun k=>[(53,I k)]) (fun k=>([some (.mpo (4,.i64) (fW (cz s m++(qat s.q m).take k))),some (.box [.mp 0])] : Hp)) (fun j=>!decide (h_ (cz s m) (qat s.q m) j=0)) ((qat s.q m).length)
  ·go_simp<;>exact rfl
  ·go_simp
  ·intro j hj cb cx K2 cB;obtain ⟨x1,x2,x3,x4,x5,x6⟩:=ixs (m:=j) (by omega);have eX:h_ (cz s m) (qat s.q m) j=0:=px.out j hj;unfold h_ at eX;have bV:=HC.out m hm j hj;have wn:=xa (tat (qat s.q m) j) (cz s m++(qat s.q m).take j) bV;rw [eX] at wn;have bo:=(bc hj).symm;have gq:(qat s.q m).take (j+1)=(qat s.q m).take j++[tat (qat s.q m) j]:=by rw [nX hj,bc hj]
   rw [gq,←List.append_assoc] at cB;clear eX gq;generalize cz s m++(qat s.q m).take j=L at *;generalize tat (qat s.q m) j=C at *;generalize fW (L++[C])=M2 at *;generalize fW L=M1 at *;repeat' with_reducible apply af
   refine ah [] ?_;repeat' with_reducible first|apply af|apply ae|apply aj|apply ar|apply aa|(apply ao;·go_simp)|(apply ab;intro X Y;go_simp;apply Y;clear Y X)
   refine ah [] ?_;repeat' with_reducible first|apply af|apply ae|apply aa|(apply ab;intro X Y;go_simp;apply Y;clear Y X)
   refine ec (bM [] 2 ⟨rfl,rfl⟩ ?_);simp only [aA];repeat' with_reducible first|apply aa|(apply ab;intro X Y;go_simp;apply Y;clear Y X)
   refine eo [1,0] [1] [] [some (.box [.mp 1]),some (.mpo (4,.i64) (M2))] (I 0) rfl (by go_simp) ?_ ?_
   ·unfold dM;go_simp;refine ⟨_,_,_,wn,?_⟩;go_simp;kernel_rfl
   go_simp;refine bM [] 1 ⟨rfl,rfl⟩ ?_;simp only [aA];repeat' with_reducible first|apply aa|(apply ab;intro X Y;go_simp;apply Y;clear Y X)
   apply c_;repeat' with_reducible first|apply af|apply ae|apply aj|apply aT|apply aa|refine ah [] ?_|(apply ak;·go_simp)|(apply ab;intro X Y;go_simp;apply Y;clear Y X)
   refine cB _ ?_;go_simp
  ·intro j hj cb cx K2;have h1:h_ (cz s m) (qat s.q m) j=0:=px.out j hj;have h2:=cx.out;rw [h1] at h2;cases h2
  ·intro cb K2;rw [Dq.out] at hK;rw [List.take_length];repeat' with_reducible first|apply af|apply ae|apply aW|apply aX|apply aT|apply aY|apply aa|refine ah [] ?_|(apply ak;·go_simp)|(apply ab;intro X Y;go_simp;apply Y;clear Y X)
   refine hK _ ?_;go_simp
 ·intro m hm HB HP K;obtain ⟨w1,w2,w3,w4,w5,w6⟩:=ixs (m:=m) (by omega);have Dp:m < r.ranks.length:=by have:=lU.out;omega
  have fQ:=HQ.out m hm;have e:=IJ lU.out hm HB.out HP.out;have hp:¬iB r s m=0:=by simpa using HP.out
  rw [HE.out] at e;unfold iB at e hp;by_cases cP:(rat r.ranks m).places < ((qat s.q m).length:Int)
  ·rw [if_pos cP] at e;subst e;clear hp;repeat' with_reducible first|apply af|apply ae|apply aF|apply aq|apply aj|apply ar|apply b_|apply aa|refine ah [] ?_|(apply ao;·go_simp)|(apply ab;intro X Y;go_simp;apply Y;clear Y X)
   go_simp
  rw [if_neg cP] at e hp;have Dr:=Lib.hid e;have px:=Lib.hid hp;clear e hp;repeat' with_reducible first|apply af|apply ae|apply aj|apply ar|apply aa|refine ah [] ?_|(apply ao;·go_simp)|(apply ak;·go_simp)|(apply ab;intro X Y;go_simp;apply Y;clear Y X)
  apply ch [2,3,7,35,36,37,51,52] (fun k=>[(53,I k)]) (fun k=>([some (.mpo (4,.i64) (fW (cz s m++(qat s.q m).take k))),some (.box [.mp 0])] : Hp)) (fun j=>!decide (h_ (cz s m) (qat s.q m) j=0)) ((qat s.q m).length)
  ·go_simp<;>exact rfl
  ·go_simp
  ·intro j hj cb cx K2 cB;obtain ⟨x1,x2,x3,x4,x5,x6⟩:=ixs (m:=j) (by omega);have eX:h_ (cz s m) (qat s.q m) j=0:=by simpa using cx.out
   unfold h_ at eX;have bV:=HC.out m hm j hj;have wn:=xa (tat (qat s.q m) j) (cz s m++(qat s.q m).take j) bV;rw [eX] at wn;have bo:=(bc hj).symm;have gq:(qat s.q m).take (j+1)=(qat s.q m).take j++[tat (qat s.q m) j]:=by rw [nX hj,bc hj]
   rw [gq,←List.append_assoc] at cB;clear eX gq;generalize cz s m++(qat s.q m).take j=L at *;generalize tat (qat s.q m) j=C at *;generalize fW (L++[C])=M2 at *;generalize fW L=M1 at *;repeat' with_reducible apply af
   refine ah [] ?_;repeat' with_reducible first|apply af|apply ae|apply aj|apply ar|apply aa|(apply ao;·go_simp)|(apply ab;intro X Y;go_simp;apply Y;clear Y X)
   refine ah [] ?_;repeat' with_reducible first|apply af|apply ae|apply aa|(apply ab;intro X Y;go_simp;apply Y;clear Y X)
   refine ec (bM [] 2 ⟨rfl,rfl⟩ ?_);simp only [aA];repeat' with_reducible first|apply aa|(apply ab;intro X Y;go_simp;apply Y;clear Y X)
   refine eo [1,0] [1] [] [some (.box [.mp 1]),some (.mpo (4,.i64) M2)] (I 0) rfl (by go_simp) ?_ ?_
   ·unfold dM;go_simp;refine ⟨_,_,_,wn,?_⟩;go_simp;kernel_rfl
   go_simp;refine bM [] 1 ⟨rfl,rfl⟩ ?_;simp only [aA];repeat' with_reducible first|apply aa|(apply ab;intro X Y;go_simp;apply Y;clear Y X)
   apply c_;repeat' with_reducible first|apply af|apply ae|apply aj|apply aT|apply aa|refine ah [] ?_|(apply ak;·go_simp)|(apply ab;intro X Y;go_simp;apply Y;clear Y X)
   refine cB _ ?_;go_simp
  ·intro j hj cb cx K2;obtain ⟨x1,x2,x3,x4,x5,x6⟩:=ixs (m:=j) (by omega);have e:E=lD (h_ (cz s m) (qat s.q m)) (qat s.q m).length:=Dr.out;rw [wY hj cb.out cx.out] at e;unfold h_ at e;have bV:=HC.out m hm j hj;have wn:=xa (tat (qat s.q m) j) (cz s m++(qat s.q m).take j) bV;have bo:=(bc hj).symm;have w9:¬iA (tat (qat s.q m) j) (cz s m++(qat s.q m).take j)=0:=fun h=>by
    have h2:=cx.out;rw [show h_ (cz s m) (qat s.q m) j=0 from h] at h2;cases h2
   subst e;generalize cz s m++(qat s.q m).take j=L at *;generalize tat (qat s.q m) j=C at *;generalize iA C L=E2 at *;generalize fW (L++[C])=M2 at *;generalize fW L=M1 at *;repeat' with_reducible apply af
   refine ah [] ?_;repeat' with_reducible first|apply af|apply ae|apply aj|apply ar|apply aa|(apply ao;·go_simp)|(apply ab;intro X Y;go_simp;apply Y;clear Y X)
   refine ah [] ?_;repeat' with_reducible first|apply af|apply ae|apply aa|(apply ab;intro X Y;go_simp;apply Y;clear Y X)
   refine ec (bM [] 2 ⟨rfl,rfl⟩ ?_);simp only [aA];repeat' with_reducible first|apply aa|(apply ab;intro X Y;go_simp;apply Y;clear Y X)
   refine eo [1,0] [1] [] [some (.box [.mp 1]),some (.mpo (4,.i64) M2)] (I E2) rfl (by go_simp) ?_ ?_
   ·unfold dM;go_simp;refine ⟨_,_,_,wn,?_⟩;go_simp;kernel_rfl
   go_simp;refine bM [] 1 ⟨rfl,rfl⟩ ?_;simp only [aA];repeat' with_reducible first|apply aa|(apply ab;intro X Y;go_simp;apply Y;clear Y X)
   apply c_;repeat' with_reducible first|apply af|apply ae|apply aF|apply aq|apply b_|apply aa|refine ah [] ?_|(apply ao;·go_simp)|(apply ab;intro X Y;go_simp;apply Y;clear Y X)
   go_simp
  ·intro cb K2;exfalso;exact px.out (sK cb.out)
 ·intro HB K;have sL:=HB;clear HB;by_cases h4:(s.tk.length:Int)≤40
  ·have uY:¬(40:Int) < (s.tk.length:Int):=by omega
   repeat' with_reducible first|apply af|apply ae|apply aW|apply aj|apply aX|apply ar|apply aY|apply aa|refine ah [] ?_|(apply ak;·go_simp)|(apply ab;intro X Y;go_simp;apply Y;clear Y X)
   apply ch [2,3,7,70,71] (fun k=>[(72,I k)]) (fun k=>([some (.mpo (4,.i64) (fW (e9 s k))),some (.box [.mp 0])] : Hp)) (fun k=>!decide (iC r s k=0)) (s.tk.length)
   ·go_simp<;>exact rfl
   ·go_simp
   ·intro k hk HB HP K hK;obtain ⟨w1,w2,w3,w4,w5,w6⟩:=ixs (m:=k) (by omega);have bV:=HT.out k hk;have wn:=xa (aH s.tk k).car (e9 s k) bV;have i1:=jT (aH s.tk k).rank 0 ((r.ranks.length:Int) - 1);have i2:=jT (aH s.tk k).time 0 s.time;have u1:=br (inR (aH s.tk k).rank 0 ((r.ranks.length:Int) - 1)) 6;have u2:=br (inR (aH s.tk k).time 0 s.time) 2;have hw:IntKind.i64.wrap ((r.ranks.length:Int) - 1)=(r.ranks.length:Int) - 1:=cj (by omega) (by omega);have u3:=br (decide (k=0) || decide ((aH s.tk (k - 1)).time≤(aH s.tk k).time)) 9;have gF:VC Tryz.prog 88 [.sl 1 ([iA (aH s.tk k).car (e9 s k),unl (inR (aH s.tk k).rank 0 ((r.ranks.length:Int) - 1)) 6,unl (inR (aH s.tk k).time 0 s.time) 2,unl (decide (k=0) || decide ((aH s.tk (k - 1)).time≤(aH s.tk k).time)) 9].map dk)] (I (iC r s k)):=dW _ rfl rfl;have hp:iC r s k=0:=by simpa using HP.out
    rw [hp] at gF;rw [IH hk] at hK;clear hp;generalize inR (aH s.tk k).rank 0 ((r.ranks.length:Int) - 1)=D1 at *;generalize inR (aH s.tk k).time 0 s.time=D2 at *;generalize unl D1 6=A1 at *;generalize unl D2 2=A2 at *;generalize iA (aH s.tk k).car (e9 s k)=CE at *;generalize fW (e9 s k++[(aH s.tk k).car])=M2 at *;generalize fW (e9 s k)=M1 at *;rcases k with _|p
    ·have d0:(decide (0=0) || decide ((aH s.tk (0 - 1)).time≤(aH s.tk 0).time))=true:=rfl;rw [d0] at u3 gF;generalize unl true 9=A3 at *;clear d0;repeat' with_reducible apply af
     refine ah [] ?_;repeat' with_reducible first|apply af|apply ae|apply aj|apply ar|apply aa|(apply ao;·go_simp)|(apply ab;intro X Y;go_simp;apply Y;clear Y X)
     refine ah [] ?_;repeat' with_reducible first|apply af|apply ae|apply aa|(apply ab;intro X Y;go_simp;apply Y;clear Y X)
     refine ec (bM [] 3 ⟨rfl,rfl⟩ ?_);simp only [aA];repeat' with_reducible first|apply aa|(apply ab;intro X Y;go_simp;apply Y;clear Y X)
     refine eo [1,0] [1] [] [some (.box [.mp 1]),some (.mpo (4,.i64) M2)] (I CE) rfl (by go_simp) ?_ ?_
     ·unfold dM;go_simp;refine ⟨_,_,_,wn,?_⟩;go_simp;kernel_rfl
     go_simp;refine bM [] 1 ⟨rfl,rfl⟩ ?_;simp only [aA];repeat' with_reducible first|apply aa|(apply ab;intro X Y;go_simp;apply Y;clear Y X)
     apply c_;repeat' first|(with_reducible first|apply af|apply ae|apply aj|apply aT|apply aa|refine ah [] ?_|apply aI|(apply ak;·go_simp))|((with_reducible first|apply ab|apply aJ);intro X Y;go_simp;(first|(with_reducible refine ⟨_,i1,?_⟩)|(with_reducible refine ⟨_,i2,?_⟩)|(with_reducible refine ⟨_,u1,?_⟩)|(with_reducible refine ⟨_,u2,?_⟩)|(with_reducible refine ⟨_,u3,?_⟩)|(refine ⟨_,gF,?_⟩)|skip);apply Y;clear Y X)|((refine aQ 34 33 [] rfl (by kernel_rfl) ?_);simp only [aA])
     refine hK _ ?_;go_simp
    ·have cU:p+1 - 1=p:=by omega
     rw [cU,decide_eq_false (by omega:¬p+1=0),Bool.false_or] at u3 gF;obtain ⟨x1,x2,x3,x4,x5,x6⟩:=ixs (m:=p) (by omega);have cP:p < s.tk.length:=by omega
     have sM:(p:Int)+1 < (s.tk.length:Int):=by omega
     have sO:¬(p:Int)+1≤0:=by omega
     have sP:(0:Int) < (p:Int)+1:=by omega
     have Dt:¬(p:Int)+1=0:=by omega
     have Du:(0:Int)≤(p:Int):=by omega
     have P3:(if 0 < p then (p:Int) else 0)=(p:Int):=by split<;>omega
     generalize unl (decide ((aH s.tk p).time≤(aH s.tk (p+1)).time)) 9=A3 at *;clear cU;repeat' with_reducible apply af
     refine ah [] ?_;repeat' with_reducible first|apply af|apply ae|apply aj|apply ar|apply aa|(apply ao;·go_simp)|(apply ab;intro X Y;go_simp;apply Y;clear Y X)
     refine ah [] ?_;repeat' with_reducible first|apply af|apply ae|apply aa|(apply ab;intro X Y;go_simp;apply Y;clear Y X)
     refine ec (bM [] 3 ⟨rfl,rfl⟩ ?_);simp only [aA];repeat' with_reducible first|apply aa|(apply ab;intro X Y;go_simp;apply Y;clear Y X)
     refine eo [1,0] [1] [] [some (.box [.mp 1]),some (.mpo (4,.i64) M2)] (I CE) rfl (by go_simp) ?_ ?_
     ·unfold dM;go_simp;refine ⟨_,_,_,wn,?_⟩;go_simp;kernel_rfl
     go_simp;refine bM [] 1 ⟨rfl,rfl⟩ ?_;simp only [aA];repeat' with_reducible first|apply aa|(apply ab;intro X Y;go_simp;apply Y;clear Y X)
     apply c_;repeat' first|(with_reducible first|apply af|apply ae|apply aj|apply aT|apply aa|refine ah [] ?_|apply aI|(apply ak;·go_simp))|((with_reducible first|apply ab|apply aJ);intro X Y;go_simp;(first|(with_reducible refine ⟨_,i1,?_⟩)|(with_reducible refine ⟨_,i2,?_⟩)|(with_reducible refine ⟨_,u1,?_⟩)|(with_reducible refine ⟨_,u2,?_⟩)|(with_reducible refine ⟨_,u3,?_⟩)|(refine ⟨_,gF,?_⟩)|skip);apply Y;clear Y X)|((refine aQ 34 33 [] rfl (by kernel_rfl) ?_);simp only [aA])
     refine hK _ ?_;go_simp
   ·intro k hk HB HP K;obtain ⟨w1,w2,w3,w4,w5,w6⟩:=ixs (m:=k) (by omega);have bV:=HT.out k hk;have wn:=xa (aH s.tk k).car (e9 s k) bV;have i1:=jT (aH s.tk k).rank 0 ((r.ranks.length:Int) - 1);have i2:=jT (aH s.tk k).time 0 s.time;have u1:=br (inR (aH s.tk k).rank 0 ((r.ranks.length:Int) - 1)) 6;have u2:=br (inR (aH s.tk k).time 0 s.time) 2;have hw:IntKind.i64.wrap ((r.ranks.length:Int) - 1)=(r.ranks.length:Int) - 1:=cj (by omega) (by omega);have u3:=br (decide (k=0) || decide ((aH s.tk (k - 1)).time≤(aH s.tk k).time)) 9;have gF:VC Tryz.prog 88 [.sl 1 ([iA (aH s.tk k).car (e9 s k),unl (inR (aH s.tk k).rank 0 ((r.ranks.length:Int) - 1)) 6,unl (inR (aH s.tk k).time 0 s.time) 2,unl (decide (k=0) || decide ((aH s.tk (k - 1)).time≤(aH s.tk k).time)) 9].map dk)] (I (iC r s k)):=dW _ rfl rfl;have e:=IL lU.out sL.out h4 hk HB.out HP.out;have hp:¬iC r s k=0:=by simpa using HP.out
    rw [HE.out] at e;subst e;generalize iC r s k=TE at *;generalize inR (aH s.tk k).rank 0 ((r.ranks.length:Int) - 1)=D1 at *;generalize inR (aH s.tk k).time 0 s.time=D2 at *;generalize unl D1 6=A1 at *;generalize unl D2 2=A2 at *;generalize iA (aH s.tk k).car (e9 s k)=CE at *;generalize fW (e9 s k++[(aH s.tk k).car])=M2 at *;generalize fW (e9 s k)=M1 at *;rcases k with _|p
    ·have d0:(decide (0=0) || decide ((aH s.tk (0 - 1)).time≤(aH s.tk 0).time))=true:=rfl;rw [d0] at u3 gF;generalize unl true 9=A3 at *;clear d0;repeat' with_reducible apply af
     refine ah [] ?_;repeat' with_reducible first|apply af|apply ae|apply aj|apply ar|apply aa|(apply ao;·go_simp)|(apply ab;intro X Y;go_simp;apply Y;clear Y X)
     refine ah [] ?_;repeat' with_reducible first|apply af|apply ae|apply aa|(apply ab;intro X Y;go_simp;apply Y;clear Y X)
     refine ec (bM [] 3 ⟨rfl,rfl⟩ ?_);simp only [aA];repeat' with_reducible first|apply aa|(apply ab;intro X Y;go_simp;apply Y;clear Y X)
     refine eo [1,0] [1] [] [some (.box [.mp 1]),some (.mpo (4,.i64) M2)] (I CE) rfl (by go_simp) ?_ ?_
     ·unfold dM;go_simp;refine ⟨_,_,_,wn,?_⟩;go_simp;kernel_rfl
     go_simp;refine bM [] 1 ⟨rfl,rfl⟩ ?_;simp only [aA];repeat' with_reducible first|apply aa|(apply ab;intro X Y;go_simp;apply Y;clear Y X)
     apply c_;repeat' first|(with_reducible first|apply af|apply ae|apply aF|apply aq|apply b_|apply aa|refine ah [] ?_|apply aI|(apply ao;·go_simp))|((with_reducible first|apply ab|apply aJ);intro X Y;go_simp;(first|(with_reducible refine ⟨_,i1,?_⟩)|(with_reducible refine ⟨_,i2,?_⟩)|(with_reducible refine ⟨_,u1,?_⟩)|(with_reducible refine ⟨_,u2,?_⟩)|(with_reducible refine ⟨_,u3,?_⟩)|(refine ⟨_,gF,?_⟩)|skip);apply Y;clear Y X)|((refine aQ 34 33 [] rfl (by kernel_rfl) ?_);simp only [aA])
     go_simp
    ·have cU:p+1 - 1=p:=by omega
     rw [cU,decide_eq_false (by omega:¬p+1=0),Bool.false_or] at u3 gF;obtain ⟨x1,x2,x3,x4,x5,x6⟩:=ixs (m:=p) (by omega);have cP:p < s.tk.length:=by omega
     have sM:(p:Int)+1 < (s.tk.length:Int):=by omega
     have sO:¬(p:Int)+1≤0:=by omega
     have sP:(0:Int) < (p:Int)+1:=by omega
     have Dt:¬(p:Int)+1=0:=by omega
     have Du:(0:Int)≤(p:Int):=by omega
     have P3:(if 0 < p then (p:Int) else 0)=(p:Int):=by split<;>omega
     generalize unl (decide ((aH s.tk p).time≤(aH s.tk (p+1)).time)) 9=A3 at *;clear cU;repeat' with_reducible apply af
     refine ah [] ?_;repeat' with_reducible first|apply af|apply ae|apply aj|apply ar|apply aa|(apply ao;·go_simp)|(apply ab;intro X Y;go_simp;apply Y;clear Y X)
     refine ah [] ?_;repeat' with_reducible first|apply af|apply ae|apply aa|(apply ab;intro X Y;go_simp;apply Y;clear Y X)
     refine ec (bM [] 3 ⟨rfl,rfl⟩ ?_);simp only [aA];repeat' with_reducible first|apply aa|(apply ab;intro X Y;go_simp;apply Y;clear Y X)
     refine eo [1,0] [1] [] [some (.box [.mp 1]),some (.mpo (4,.i64) M2)] (I CE) rfl (by go_simp) ?_ ?_
     ·unfold dM;go_simp;refine ⟨_,_,_,wn,?_⟩;go_simp;kernel_rfl
     go_simp;refine bM [] 1 ⟨rfl,rfl⟩ ?_;simp only [aA];repeat' with_reducible first|apply aa|(apply ab;intro X Y;go_simp;apply Y;clear Y X)
     apply c_;repeat' first|(with_reducible first|apply af|apply ae|apply aF|apply aq|apply b_|apply aa|refine ah [] ?_|apply aI|(apply ao;·go_simp))|((with_reducible first|apply ab|apply aJ);intro X Y;go_simp;(first|(with_reducible refine ⟨_,i1,?_⟩)|(with_reducible refine ⟨_,i2,?_⟩)|(with_reducible refine ⟨_,u1,?_⟩)|(with_reducible refine ⟨_,u2,?_⟩)|(with_reducible refine ⟨_,u3,?_⟩)|(refine ⟨_,gF,?_⟩)|skip);apply Y;clear Y X)|((refine aQ 34 33 [] rfl (by kernel_rfl) ?_);simp only [aA])
     go_simp
   ·intro HB K;have e:=IM lU.out sL.out h4 HB.out;rw [HE.out] at e;rw [←e] at g6;generalize inR s.time 0 604800=D1 at *;generalize P4:dI r s=NX at *;have s7:decide (NX < 0)=decide (NX < 0):=rfl;clear e s7 P4;generalize unl D1 2=A1 at *;generalize unl (decide (NX < 0)) 22=A2 at *;repeat' first|(with_reducible first|apply af|apply ae|apply aW|apply aq|apply aX|apply aY|apply aa|refine ah [] ?_|(apply ak;·go_simp))|((with_reducible apply ab);intro X Y;go_simp;(first|(with_reducible refine ⟨_,i5,?_⟩)|(with_reducible refine ⟨_,u5,?_⟩)|(with_reducible refine ⟨_,gm,?_⟩)|(with_reducible refine ⟨_,u6,?_⟩)|(refine ⟨_,g6,?_⟩)|skip);apply Y;clear Y X)
    go_simp
  ·have uY:(40:Int) < (s.tk.length:Int):=by omega
   have e:=IK lU.out sL.out h4;rw [HE.out] at e;subst e;repeat' with_reducible first|apply af|apply ae|apply aW|apply aF|apply aq|apply aX|apply aY|apply aa|refine ah [] ?_|(apply ao;·go_simp)|(apply ak;·go_simp)|(apply ab;intro X Y;go_simp;apply Y;clear Y X)
   go_simp
def ckE (r:Ru) (s:St) : Int:=if (bY r).2≠0 then (bY r).2 else ia r s
theorem P5 (r:Ru) (s:St) (hn:r.ranks.length≤1000000) (bI:∀ k,k < r.ranks.length→(rat r.ranks k).name.size≤1000) (hs:SmallS s) : VC Tryz.prog 52 [ct r,ez s] (I (ckE r s)):=by
 unfold ckE;by_cases h0:(bY r).2=0
 ·rw [if_neg (by simp [h0])];by_cases dN:s.q.length=r.ranks.length
  ·exact P2 r s hn bI hs h0 dN
  ·have g:=IQ r s hn bI hs (.inr dN);have e:ia r s=10:=by
    unfold ia;rw [decide_eq_false dN];rfl
   rw [e];rw [h0] at g;exact g
 ·rw [if_pos h0];have g:=IQ r s hn bI hs (.inl h0);have e:fst [(bY r).2,10]=(bY r).2:=by simp [fst,h0]
  rw [e] at g;exact g
theorem P6 (r:Ru) (x:Ev) (hn:r.ranks.length≤1000000) (bI:∀ k,k < r.ranks.length→(rat r.ranks k).name.size≤1000) (hc:x.car.size≤1000) : VC Tryz.prog 54 [ct r,evA x] (I (fst [(bY r).2,evE r x])):=by
 have g1:=nc r hn bI;have g2:=BC r x hn hc;have g3:VC Tryz.prog 88 [.sl 1 ([(bY r).2,evE r x].map dk)] (I (fst [(bY r).2,evE r x])):=dW _ rfl rfl;generalize fst [(bY r).2,evE r x]=F at *;generalize (bY r).2=A1 at *;generalize evE r x=A2 at *;refine il Tryz.func54 rfl (by kernel_rfl) (by kernel_rfl) rfl fun M0 w0=>?_;simp only [Tryz.ntmps54,Tryz.results54,az];repeat' first|(with_reducible first|apply af|apply ae|apply aq|apply aa|refine ah [] ?_|apply aI)|((with_reducible first|refine ab fun X Y=>?_|refine aJ fun X Y=>?_);go_simp;(first|(refine ⟨_,g1,?_⟩)|(refine ⟨_,g2,?_⟩)|(refine ⟨_,g3,?_⟩)|skip);refine Y _ ?_;clear Y X)|((refine P7 8 8 [] rfl (by kernel_rfl) (by kernel_rfl) ?_);simp only [List.take,List.drop])
 go_simp
theorem P8 (r:Ru) (s:St) (hn:r.ranks.length≤1000000) (bI:∀ k,k < r.ranks.length→(rat r.ranks k).name.size≤1000) (hs:SmallS s) : VC Tryz.prog 65 [ct r,ez s] (I (ckE r s)):=by
 have g1:=Iz r hn bI;unfold ckE;by_cases h0:(bY r).2=0
 ·rw [if_neg (by simp [h0])];have g2:=IN r s (vl h0).1 hn hs;rw [h0] at g1;generalize ia r s=C at *;clear h0 bI hs;refine il Tryz.func65 rfl (by kernel_rfl) (by kernel_rfl) rfl fun M0 w0=>?_;simp only [Tryz.ntmps65,Tryz.results65,az];repeat' first|(with_reducible first|apply af|apply ae|apply aq|apply aj|apply aa|refine ah [] ?_)|((with_reducible refine ak ?_ ?_);(focus (go_simp;done)))|((with_reducible refine ab fun X Y=>?_);go_simp;(first|(refine ⟨_,g1,?_⟩)|(refine ⟨_,g2,?_⟩)|skip);refine Y _ ?_;clear Y X)
  go_simp
 ·rw [if_pos h0];generalize (bY r).2=C at *;refine il Tryz.func65 rfl (by kernel_rfl) (by kernel_rfl) rfl fun M0 w0=>?_;simp only [Tryz.ntmps65,Tryz.results65,az];repeat' first|(with_reducible first|apply af|apply ae|apply aF|apply aq|apply aa|refine ah [] ?_)|((with_reducible refine ao ?_ ?_);(focus (go_simp;done)))|((with_reducible refine ab fun X Y=>?_);go_simp;(first|(refine ⟨_,g1,?_⟩)|skip);refine Y _ ?_;clear Y X)
  go_simp
def qT (l:List ByteArray) (j:Nat) : Bool:=decide (20 < (tat l j).size)
def sQ (s:St) (k:Nat) : Bool:=decide (14 < (qat s.q k).length) || cQ (qT (qat s.q k)) 0 (qat s.q k).length
def sR (s:St) (k:Nat) : Bool:=decide (20 < (aH s.tk k).car.size)
def qU (s:St) : Bool:=decide (s.q.length≤8∧(s.tk.length≤8∨40 < s.tk.length∧s.tk.length≤42))&&!cQ (sQ s) 0 s.q.length&&!cQ (sR s) 0 s.tk.length
theorem IS (s:St) (hq:s.q.length≤9223372036854775807) (ht:s.tk.length≤9223372036854775807) : VC Tryz.prog 51 [ez s] (B (qU s)):=by
 unfold qU;by_cases h8:s.q.length≤8∧(s.tk.length≤8∨40 < s.tk.length∧s.tk.length≤42)
 ·obtain ⟨h1,h2⟩:=h8;rw [decide_eq_true (show s.q.length≤8∧(s.tk.length≤8∨40 < s.tk.length∧s.tk.length≤42) from ⟨h1,h2⟩),Bool.true_and];have h3:¬(8:Int) < (s.q.length:Int):=by omega
  have Tu:¬(42:Int) < (s.tk.length:Int):=by omega
  have hb:(8:Int) < (s.tk.length:Int)→¬(s.tk.length:Int)≤40:=by omega
  have B8:s.tk.length≤42:=by omega
  obtain ⟨R1,fT⟩ : ∃ R,cQ (sQ s) 0 s.q.length=R:=⟨_,rfl⟩
  obtain ⟨R2,Dv⟩ : ∃ R,cQ (sR s) 0 s.tk.length=R:=⟨_,rfl⟩
  rw [fT,Dv];have IT:=Lib.hid fT;have zP:=Lib.hid Dv;have kH:=Lib.hid h1;have ng:=Lib.hid B8;clear h1 h2 hq ht fT Dv B8;by_cases h5:(8:Int) < (s.tk.length:Int)
  all_goals (
   first
    | (have h6:=hb h5)
    | skip
   clear hb;refine il Tryz.func51 rfl (by kernel_rfl) (by kernel_rfl) rfl fun M0 w0=>?_;simp only [Tryz.ntmps51,Tryz.results51,az];repeat' first|(with_reducible first|apply af|apply ae|apply aj|apply ar|apply aa|refine ah [] ?_)|((with_reducible refine ak ?_ ?_);(focus (go_simp;done)))|((with_reducible refine ab fun X Y=>?_);go_simp;refine Y _ ?_;clear Y X)
   apply ch [1] (fun k=>[(3,I k)]) (fun k=>([] : Hp)) (sQ s) (s.q.length)
   ·go_simp<;>exact rfl
   ·go_simp
   ·intro m hm HB HP K hK;have:=kH.out;obtain ⟨w1,w2,w3,w4,w5,w6⟩:=ixs (m:=m) (by omega);have hp:=HP.out;unfold sQ at hp;rw [Bool.or_eq_false_iff,decide_eq_false_iff_not] at hp;obtain ⟨l_,eX⟩:=hp;have Bo:¬(14:Int) < ((qat s.q m).length:Int):=by omega
    have cx:=Lib.hid eX;have zQ:=Lib.hid l_;clear l_ eX this;repeat' first|(with_reducible first|apply af|apply ae|apply aj|apply ar|apply aa|refine ah [] ?_)|((with_reducible refine ao ?_ ?_);(focus (go_simp;done)))|((with_reducible refine ak ?_ ?_);(focus (go_simp;done)))|((with_reducible refine ab fun X Y=>?_);go_simp;refine Y _ ?_;clear Y X)
    apply ch [1,3] (fun k=>[(4,I k)]) (fun k=>([] : Hp)) (qT (qat s.q m)) ((qat s.q m).length)
    ·go_simp<;>exact rfl
    ·go_simp
    ·intro j hj cb sS K2 cB;have:=zQ.out;obtain ⟨x1,x2,x3,x4,x5,x6⟩:=ixs (m:=j) (by omega);have lZ:=sS.out;rw [qT,decide_eq_false_iff_not,bc hj] at lZ;have IU:¬(20:Int) < ((qat s.q m)[j].size:Int):=by omega
     clear lZ this;repeat' first|(with_reducible first|apply af|apply ae|apply aj|apply ar|apply aT|apply aa|refine ah [] ?_)|((with_reducible refine ao ?_ ?_);(focus (go_simp;done)))|((with_reducible refine ak ?_ ?_);(focus (go_simp;done)))|((with_reducible refine ab fun X Y=>?_);go_simp;refine Y _ ?_;clear Y X)
     refine cB _ ?_;go_simp
    ·intro j hj cb sS K2;have h:=cx.out;rw [ig hj sS.out] at h;cases h
    ·intro cb K2;repeat' first|(with_reducible first|apply af|apply ae|apply aW|apply aX|apply aT|apply aY|apply aa|refine ah [] ?_)|((with_reducible refine ak ?_ ?_);(focus (go_simp;done)))|((with_reducible refine ab fun X Y=>?_);go_simp;refine Y _ ?_;clear Y X)
     refine hK _ ?_;go_simp
   ·intro m hm HB HP K;have:=kH.out;obtain ⟨w1,w2,w3,w4,w5,w6⟩:=ixs (m:=m) (by omega);have e:=IT.out;rw [ig hm HP.out] at e;subst e;rw [Bool.not_true,Bool.false_and];have hp:=HP.out;unfold sQ at hp;by_cases l_:14 < (qat s.q m).length
    ·have Bo:(14:Int) < ((qat s.q m).length:Int):=by omega
     clear hp l_ this;repeat' first|(with_reducible first|apply af|apply ae|apply aF|apply aq|apply aj|apply ar|apply b_|apply aa|refine ah [] ?_)|((with_reducible refine ao ?_ ?_);(focus (go_simp;done)))|((with_reducible refine ab fun X Y=>?_);go_simp;refine Y _ ?_;clear Y X)
     go_simp
    ·rw [decide_eq_false l_,Bool.false_or] at hp;have Bo:¬(14:Int) < ((qat s.q m).length:Int):=by omega
     have cx:=Lib.hid hp;have zQ:=Lib.hid l_;clear hp l_ this;repeat' first|(with_reducible first|apply af|apply ae|apply aj|apply ar|apply aa|refine ah [] ?_)|((with_reducible refine ao ?_ ?_);(focus (go_simp;done)))|((with_reducible refine ak ?_ ?_);(focus (go_simp;done)))|((with_reducible refine ab fun X Y=>?_);go_simp;refine Y _ ?_;clear Y X)
     apply ch [1,3] (fun k=>[(4,I k)]) (fun k=>([] : Hp)) (qT (qat s.q m)) ((qat s.q m).length)
     ·go_simp<;>exact rfl
     ·go_simp
     ·intro j hj cb sS K2 cB;have:=zQ.out;obtain ⟨x1,x2,x3,x4,x5,x6⟩:=ixs (m:=j) (by omega);have lZ:=sS.out;rw [qT,decide_eq_false_iff_not,bc hj] at lZ;have IU:¬(20:Int) < ((qat s.q m)[j].size:Int):=by omega
      clear lZ this;repeat' first|(with_reducible first|apply af|apply ae|apply aj|apply ar|apply aT|apply aa|refine ah [] ?_)|((with_reducible refine ao ?_ ?_);(focus (go_simp;done)))|((with_reducible refine ak ?_ ?_);(focus (go_simp;done)))|((with_reducible refine ab fun X Y=>?_);go_simp;refine Y _ ?_;clear Y X)
      refine cB _ ?_;go_simp
     ·intro j hj cb sS K2;have:=zQ.out;obtain ⟨x1,x2,x3,x4,x5,x6⟩:=ixs (m:=j) (by omega);have lZ:=sS.out;rw [qT,decide_eq_true_eq,bc hj] at lZ;have IU:(20:Int) < ((qat s.q m)[j].size:Int):=by omega
      clear lZ this;repeat' first|(with_reducible first|apply af|apply ae|apply aF|apply aq|apply aj|apply ar|apply b_|apply aa|refine ah [] ?_)|((with_reducible refine ao ?_ ?_);(focus (go_simp;done)))|((with_reducible refine ab fun X Y=>?_);go_simp;refine Y _ ?_;clear Y X)
      go_simp
     ·intro cb K2;have h:=cx.out;rw [gI cb.out] at h;cases h
   ·intro HB K;have e:=IT.out;rw [gI HB.out] at e;subst e;rw [Bool.not_false,Bool.true_and];repeat' first|(with_reducible first|apply af|apply ae|apply aW|apply aX|apply ar|apply aY|apply aa|refine ah [] ?_)|((with_reducible refine ak ?_ ?_);(focus (go_simp;done)))|((with_reducible refine ab fun X Y=>?_);go_simp;refine Y _ ?_;clear Y X)
    apply ch [1] (fun k=>[(5,I k)]) (fun k=>([] : Hp)) (sR s) (s.tk.length)
    ·go_simp<;>exact rfl
    ·go_simp
    ·intro k hk cb HP K2 hK;have:=ng.out;obtain ⟨w1,w2,w3,w4,w5,w6⟩:=ixs (m:=k) (by omega);have hp:=HP.out;rw [sR,decide_eq_false_iff_not] at hp;have eX:¬(20:Int) < ((aH s.tk k).car.size:Int):=by omega
     clear hp this;repeat' first|(with_reducible first|apply af|apply ae|apply aj|apply ar|apply aT|apply aa|refine ah [] ?_)|((with_reducible refine ao ?_ ?_);(focus (go_simp;done)))|((with_reducible refine ak ?_ ?_);(focus (go_simp;done)))|((with_reducible refine ab fun X Y=>?_);go_simp;refine Y _ ?_;clear Y X)
     refine hK _ ?_;go_simp
    ·intro k hk cb HP K2;have:=ng.out;obtain ⟨w1,w2,w3,w4,w5,w6⟩:=ixs (m:=k) (by omega);have hp:=HP.out;rw [sR,decide_eq_true_eq] at hp;have eX:(20:Int) < ((aH s.tk k).car.size:Int):=by omega
     have e:=zP.out;rw [ig hk HP.out] at e;subst e;clear hp this;repeat' first|(with_reducible first|apply af|apply ae|apply aF|apply aq|apply aj|apply ar|apply b_|apply aa|refine ah [] ?_)|((with_reducible refine ao ?_ ?_);(focus (go_simp;done)))|((with_reducible refine ab fun X Y=>?_);go_simp;refine Y _ ?_;clear Y X)
     go_simp
    ·intro cb K2;have e:=zP.out;rw [gI cb.out] at e;subst e;repeat' first|(with_reducible first|apply af|apply ae|apply aW|apply aq|apply aX|apply aY|apply aa|refine ah [] ?_)|((with_reducible refine ak ?_ ?_);(focus (go_simp;done)))|((with_reducible refine ab fun X Y=>?_);go_simp;refine Y _ ?_;clear Y X)
     go_simp)
 ·rw [decide_eq_false h8,Bool.false_and,Bool.false_and];by_cases h1:(8:Int) < (s.q.length:Int)
  ·clear h8 hq ht;refine il Tryz.func51 rfl (by kernel_rfl) (by kernel_rfl) rfl fun M0 w0=>?_;simp only [Tryz.ntmps51,Tryz.results51,az];repeat' first|(with_reducible first|apply af|apply ae|apply aF|apply aq|apply aa|refine ah [] ?_)|((with_reducible refine ao ?_ ?_);(focus (go_simp;done)))|((with_reducible refine ab fun X Y=>?_);go_simp;refine Y _ ?_;clear Y X)
   go_simp
  ·by_cases h2:(42:Int) < (s.tk.length:Int)
   ·have h3:(8:Int) < (s.tk.length:Int):=by omega
    have h4:¬(s.tk.length:Int)≤40:=by omega
    clear h8 hq ht;refine il Tryz.func51 rfl (by kernel_rfl) (by kernel_rfl) rfl fun M0 w0=>?_;simp only [Tryz.ntmps51,Tryz.results51,az];repeat' first|(with_reducible first|apply af|apply ae|apply aF|apply aq|apply aa|refine ah [] ?_)|((with_reducible refine ao ?_ ?_);(focus (go_simp;done)))|((with_reducible refine ab fun X Y=>?_);go_simp;refine Y _ ?_;clear Y X)
    go_simp
   ·have h3:(8:Int) < (s.tk.length:Int):=by omega
    have h4:(s.tk.length:Int)≤40:=by omega
    clear h8 hq ht;refine il Tryz.func51 rfl (by kernel_rfl) (by kernel_rfl) rfl fun M0 w0=>?_;simp only [Tryz.ntmps51,Tryz.results51,az];repeat' first|(with_reducible first|apply af|apply ae|apply aF|apply aq|apply aa|refine ah [] ?_)|((with_reducible refine ao ?_ ?_);(focus (go_simp;done)))|((with_reducible refine ab fun X Y=>?_);go_simp;refine Y _ ?_;clear Y X)
    go_simp
theorem IV {s:St} (h:qU s=true) (ht:∀ t∈s.tk,i64 t.rank∧i64 t.time) (hm:i64 s.time) : SmallS s:=by
 unfold qU at h;simp only [Bool.and_eq_true,decide_eq_true_eq,Bool.not_eq_true'] at h;obtain ⟨⟨⟨h1,h2⟩,h3⟩,h4⟩:=h;have bw:∀ {p:Nat→Bool} {n:Nat},cQ p 0 n=false→∀ k,k < n→p k=false:=fun {p n} hp k hk=>by
  cases hb:p k
  ·rfl
  ·rw [ig hk hb] at hp;cases hp
 refine ⟨by omega,fun l hl=>?_,by omega,fun t gR=>?_,hm⟩
 ·obtain ⟨k,hk,rfl⟩:=List.getElem_of_mem hl;have hq:=bw h3 k hk;unfold sQ at hq;rw [fo hk,Bool.or_eq_false_iff,decide_eq_false_iff_not] at hq;refine ⟨by omega,fun c hc=>?_⟩;obtain ⟨j,hj,rfl⟩:=List.getElem_of_mem hc;have:=bw hq.2 j hj;rw [qT,decide_eq_false_iff_not,bc hj] at this;omega
 ·obtain ⟨k,hk,rfl⟩:=List.getElem_of_mem gR;have:=bw h4 k hk;rw [sR,decide_eq_false_iff_not,fe hk] at this;exact ⟨by omega,ht _ gR⟩
end Go.Proofs.YtoibondihdhnoaaGreatDoor
