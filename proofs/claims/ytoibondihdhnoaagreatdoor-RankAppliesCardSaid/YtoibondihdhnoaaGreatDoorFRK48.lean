/- Texts in one: Walks: which states are right, as the reference has them. -/
import Derived.Test.YtoibondihdhnoaaGreatDoorFRK9
import Derived.Test.YtoibondihdhnoaaGreatDoorFRK46
import Derived.Test.YtoibondihdhnoaaGreatDoorFRK47
import Derived.Test.YtoibondihdhnoaaGreatDoorFRK32
import Derived.Test.YtoibondihdhnoaaGreatDoorFRK35
namespace Go.Proofs.YtoibondihdhnoaaGreatDoor
open Go.RowKit
set_option maxRecDepth 100000
set_option maxHeartbeats 4000000
theorem M7 (a b:List Int) : fst (a++b)=if fst a=0 then fst b else fst a:=by
 induction a with
 | nil=>rfl
 | cons x a ih=>
  by_cases h:x=0
  ·simp [fst,h,ih]
  ·simp [fst,h]
theorem M8 (E:Nat→Int) (n:Nat) : lY E (n+1)=if lY E n=0 then E n else lY E n:=by
 unfold lY;rw [List.range_succ,List.map_append,M7];congr 1;simp only [List.map_cons,List.map_nil,fst];split
 ·rfl
 ·rename_i h;simp at h;rw [h]
theorem sx {E:Nat→Int} : ∀ {n:Nat},(∀ j,j < n→(!decide (E j=0))=false)→lY E n=0:=fun h=>tD.2 fun j hj=>by simpa using h j hj
theorem vY {E:Nat→Int} {k:Nat} : ∀ {n:Nat},k < n→(∀ j,j < k→(!decide (E j=0))=false)→(!decide (E k=0))=true→lY E n=E k
 | 0,h,_,_=>by omega
 | n+1,h,hb,hp=>by
  have au:E k≠0:=by simpa using hp
  rw [M8];by_cases he:k=n
  ·subst he;rw [if_pos (sx hb)]
  ·rw [vY (by omega:k < n) hb hp,if_neg au]
theorem vZ (l:List ByteArray) (c:ByteArray) : gg (isT l c) 0 l.length=inL c l:=by
 rw [Bool.eq_iff_iff,qz];constructor
 ·intro h;apply Classical.byContradiction;intro bm;rw [oo fun j hj=>by
   rw [isT,decide_eq_false_iff_not,dE hj];exact fun he=>bm (he▸List.getElem_mem hj)] at h
  cases h
 ·intro h;obtain ⟨j,hj,he⟩:=List.getElem_of_mem h;exact mh hj (by rw [isT,dE hj,he];simp)
theorem Gj {c:ByteArray} {l:List ByteArray} (h:cI c=false) : iV c l=4:=by simp [iV,fst,unl,h]
theorem Gk {c:ByteArray} {l:List ByteArray} (h:cI c=true) (h2:inL c l=true) : iV c l=5:=by simp [iV,fst,unl,h,h2]
theorem Gl {c:ByteArray} {l:List ByteArray} (h:cI c=true) (h2:inL c l=false) : iV c l=0:=by simp [iV,fst,unl,h,h2]
def cU (s:St) (k:Nat) : List ByteArray:=(s.q.take k).flatten
@[go_sem] theorem M9 (s:St) : cU s 0=[]:=by simp [cU]
theorem B5 {s:St} (h:∀ k,k < s.q.length→(qat s.q k).length≤300) : ∀ k,k≤s.q.length→(cU s k).length≤k*300
 | 0,_=>by simp [cU]
 | k+1,hk=>by
  have:=B5 h k (by omega);have h2:=h k (by omega);unfold cU at this ⊢;rw [yf (by omega),List.length_append];omega
def fH (s:St) (k:Nat) : List ByteArray:=s.q.flatten++(s.tk.take k).map (·.car)
@[go_sem] theorem M_ (s:St) : fH s 0=cU s s.q.length:=by simp [fH,cU]
theorem Gm {s:St} {k:Nat} (h:k < s.tk.length) : fH s (k+1)=fH s k++[(aI s.tk k).car]:=by
 unfold fH;rw [lA h,List.map_append,←List.append_assoc,gb h];rfl
theorem Gn {s:St} (h:∀ k,k < s.q.length→(qat s.q k).length≤300) (k:Nat) (hk:k≤s.tk.length) : (fH s k).length≤s.q.length*300+k:=by
 have:=B5 h s.q.length (Nat.le_refl _);unfold cU at this;rw [List.take_length] at this;unfold fH;rw [List.length_append,List.length_map,List.length_take];omega
theorem Gp {r:Ru} {s:St} {m:Nat} (h:s.q.length=r.ranks.length) (hm:m < s.q.length) (hb:∀ j,j < m→(!decide (iW r s j=0))=false) (hp:(!decide (iW r s m=0))=true) : iY r s=iW r s m:=by
 have au:iW r s m≠0:=by simpa using hp
 unfold iY;rw [decide_eq_true h,vY hm hb hp];simp [fst,unl,au]
theorem Gq {r:Ru} {s:St} (h:s.q.length=r.ranks.length) (hq:∀ j,j < s.q.length→(!decide (iW r s j=0))=false) (h4:¬(s.tk.length:Int)≤40) : iY r s=8:=by
 unfold iY;rw [decide_eq_true h,sx hq,decide_eq_false h4];simp [fst,unl]
theorem Gr {r:Ru} {s:St} {m:Nat} (h:s.q.length=r.ranks.length) (hq:∀ j,j < s.q.length→(!decide (iW r s j=0))=false) (h4:(s.tk.length:Int)≤40) (hm:m < s.tk.length) (hb:∀ j,j < m→(!decide (iX r s j=0))=false) (hp:(!decide (iX r s m=0))=true) : iY r s=iX r s m:=by
 have au:iX r s m≠0:=by simpa using hp
 unfold iY;rw [decide_eq_true h,sx hq,decide_eq_true h4,vY hm hb hp];simp [fst,unl,au]
theorem Gs {r:Ru} {s:St} (h:s.q.length=r.ranks.length) (hq:∀ j,j < s.q.length→(!decide (iW r s j=0))=false) (h4:(s.tk.length:Int)≤40) (ht:∀ j,j < s.tk.length→(!decide (iX r s j=0))=false) : iY r s=fst [unl (inR s.time 0 604800) 2,unl (decide (cO r s < 0)) 22]:=by
 unfold iY;rw [decide_eq_true h,sx hq,decide_eq_true h4,sx ht];simp [fst,unl]
theorem Na {r:Ru} {s:St} {k:Nat} (h:iX r s k=0) : (cI (aI s.tk k).car=true∧(aI s.tk k).car∉fH s k)∧inR (aI s.tk k).rank 0 ((r.ranks.length:Int) - 1)=true∧inR (aI s.tk k).time 0 s.time=true∧(k=0∨(aI s.tk (k - 1)).time≤(aI s.tk k).time):=by
 unfold iX at h;rw [cj,cj,cj,cj] at h;have h4:=ft (by decide) h.2.2.2.1;simp only [Bool.or_eq_true,decide_eq_true_eq] at h4;exact ⟨tE.1 h.1,ft (by decide) h.2.1,ft (by decide) h.2.2.1,h4⟩
theorem Nb (r:Ru) (s:St) (hr:RuOK r) (hn:r.ranks.length≤1000000) (hs:SmallS s) : VC Tryz.prog 55 [b8 r,da s] (I (iY r s)):=by
 obtain ⟨E,hE⟩ : ∃ E,iY r s=E:=⟨_,rfl⟩
 rw [hE];have HE:=Lib.hid hE;have hq:∀ k,k < s.q.length→(qat s.q k).length≤300:=fun k hk=>by rw [eM hk];exact (hs.q1 _ (List.getElem_mem hk)).1
 have v_:∀ k,k < s.q.length→∀ j,j < (qat s.q k).length→(tat (qat s.q k) j).size≤1000:=fun k hk j hj=>by
  rw [dE hj];refine (hs.q1 _ ?_).2 _ (List.getElem_mem hj);rw [eM hk];exact List.getElem_mem hk
 have wc:∀ k,k < s.tk.length→(aI s.tk k).car.size≤1000:=fun k hk=>by rw [gb hk];exact (hs.t1 _ (List.getElem_mem hk)).1
 have hle:=B5 hq;have tS:=hs.nq;have vQ:=hs.nt;have HQ:=Lib.hid hq;have HC:=Lib.hid v_;have HT:=Lib.hid wc;have HL:=Lib.hid hle;have HU:=Lib.hid hr;clear hE hq v_ wc hle hs hr;by_cases ib:s.q.length=r.ranks.length
 ·have qR:(s.q.length:Int)=(r.ranks.length:Int):=by omega
  have HF:jO r s.q.length:=by rw [ib];exact HU.out.feed
  have gm:=l9 r s hn ib.symm HF;have i5:=pd s.time 0 604800;have l_:=Lib.hid ib;have QB:=Lib.hid HF;clear HF ib;refine aQ Tryz.func55 rfl (by kernel_rfl) rfl fun M0 w0=>?_;simp only [Tryz.ntmps55,Tryz.results55,aB];repeat' with_reducible first|apply af|apply ae|apply ar|apply aA|apply aa|refine ah [5] ?_|(apply ak;·go_simp)|(apply ab;intro X Y;go_simp;apply Y;clear Y X)
  apply dI [2,3] (fun k=>[(6,I k),(5,.osl 0)]) (fun k=>([some (.arr 9 1 (decide (cU s k=[])) ((cU s k).map bU))] : Hp)) (fun k=>!decide (iW r s k=0)) (s.q.length)
  ·go_simp<;>exact rfl
  ·go_simp
  ·intro m hm HB HP K hK;obtain ⟨w1,w2,w3,w4,w5,w6⟩:=ixs (m:=m) (by omega);have B6:m < r.ranks.length:=by have:=l_.out;omega
   have iK:=HQ.out m hm;have dQ:=HL.out m (by omega);have hp:iW r s m=0:=by simpa using HP.out
   unfold iW at hp;have gp:¬(rat r.ranks m).places < ((qat s.q m).length:Int):=fun h=>by rw [if_pos h] at hp;simp at hp
   rw [if_neg gp,tD] at hp;have pX:=Lib.hid hp;have B7:=Lib.hid (show cU s (m+1)=cU s m++qat s.q m from yf hm);clear hp;repeat' first|(with_reducible first|apply af|apply ae|apply ar|apply aA|apply aa|refine ah [] ?_|apply aR|(apply aw;·go_simp)|(apply ak;·go_simp)|((first|apply ab|apply aS);intro X Y;go_simp;apply Y;clear Y X))|((refine bg 13 13 [] rfl (by kernel_rfl) ?_);simp only [ax])
   apply dI [2,3,6] (fun k=>[(7,I k),(5,.osl 0)]) (fun k=>([some (.arr 9 1 (decide (cU s m++(qat s.q m).take k=[])) ((cU s m++(qat s.q m).take k).map bU))] : Hp)) (fun j=>!decide (iL (cU s m) (qat s.q m) j=0)) ((qat s.q m).length)
   ·go_simp<;>exact rfl
   ·go_simp
   ·intro j hj dz eB K2 fG;obtain ⟨x1,x2,x3,x4,x5,x6⟩:=ixs (m:=j) (by omega);have fX:iL (cU s m) (qat s.q m) j=0:=pX.out j hj;unfold iL at fX;have hc:=tE.1 fX;have g1:=rj (tat (qat s.q m) j) (by have:=HC.out m hm j hj;omega);have g2:=tW (cU s m++(qat s.q m).take j) (tat (qat s.q m) j) (by rw [List.length_append,List.length_take];omega);rw [vZ,show inL (tat (qat s.q m) j) (cU s m++(qat s.q m).take j)=false by rw [←Bool.not_eq_true,qz];exact hc.2] at g2;rw [hc.1] at g1;have bb:=(dE hj).symm;have ja:(qat s.q m).take (j+1)=(qat s.q m).take j++[tat (qat s.q m) j]:=by rw [lA hj,dE hj]
    have de:(cU s m++(qat s.q m).take j).length+1≤1000000000:=by rw [List.length_append,List.length_take];omega
    rw [ja,←List.append_assoc] at fG;clear fX hc ja;generalize cU s m++(qat s.q m).take j=L at *;generalize tat (qat s.q m) j=C at *;repeat' first|(with_reducible first|apply af|apply ae|apply ar|apply aA|apply bf|apply aa|refine ah [] ?_|(apply aw;·go_simp)|(apply ak;·go_simp))|((with_reducible apply ab);intro X Y;go_simp;(first|(with_reducible refine ⟨_,g1,?_⟩)|(refine ⟨_,⟨g2,rfl⟩,?_⟩)|skip);apply Y;clear Y X)
    refine fG _ ?_;go_simp
   ·intro j hj dz eB K2;have h1:iL (cU s m) (qat s.q m) j=0:=pX.out j hj;have h2:=eB.out;rw [h1] at h2;cases h2
   ·intro dz K2;rw [B7.out] at hK;rw [List.take_length];repeat' with_reducible first|apply af|apply ae|apply bP|apply bQ|apply bf|apply bT|apply aa|refine ah [] ?_|(apply ak;·go_simp)|(apply ab;intro X Y;go_simp;apply Y;clear Y X)
    refine hK _ ?_;go_simp
  ·intro m hm HB HP K;obtain ⟨w1,w2,w3,w4,w5,w6⟩:=ixs (m:=m) (by omega);have B6:m < r.ranks.length:=by have:=l_.out;omega
   have iK:=HQ.out m hm;have dQ:=HL.out m (by omega);have e:=Gp l_.out hm HB.out HP.out;have hp:¬iW r s m=0:=by simpa using HP.out
   rw [HE.out] at e;unfold iW at e hp;by_cases gp:(rat r.ranks m).places < ((qat s.q m).length:Int)
   ·rw [if_pos gp] at e;subst e;clear hp;repeat' first|(with_reducible first|apply af|apply ae|apply aT|apply az|apply ar|apply aA|apply cG|apply aa|refine ah [] ?_|apply aR|(apply aw;·go_simp)|((first|apply ab|apply aS);intro X Y;go_simp;apply Y;clear Y X))|((refine bg 13 13 [] rfl (by kernel_rfl) ?_);simp only [ax])
    go_simp
   rw [if_neg gp] at e hp;have B8:=Lib.hid e;have pX:=Lib.hid hp;clear e hp;repeat' first|(with_reducible first|apply af|apply ae|apply ar|apply aA|apply aa|refine ah [] ?_|apply aR|(apply aw;·go_simp)|(apply ak;·go_simp)|((first|apply ab|apply aS);intro X Y;go_simp;apply Y;clear Y X))|((refine bg 13 13 [] rfl (by kernel_rfl) ?_);simp only [ax])
   apply dI [2,3,6] (fun k=>[(7,I k),(5,.osl 0)]) (fun k=>([some (.arr 9 1 (decide (cU s m++(qat s.q m).take k=[])) ((cU s m++(qat s.q m).take k).map bU))] : Hp)) (fun j=>!decide (iL (cU s m) (qat s.q m) j=0)) ((qat s.q m).length)
   ·go_simp<;>exact rfl
   ·go_simp
   ·intro j hj dz eB K2 fG;obtain ⟨x1,x2,x3,x4,x5,x6⟩:=ixs (m:=j) (by omega);have fX:iL (cU s m) (qat s.q m) j=0:=by simpa using eB.out
    unfold iL at fX;have hc:=tE.1 fX;have g1:=rj (tat (qat s.q m) j) (by have:=HC.out m hm j hj;omega);have g2:=tW (cU s m++(qat s.q m).take j) (tat (qat s.q m) j) (by rw [List.length_append,List.length_take];omega);rw [vZ,show inL (tat (qat s.q m) j) (cU s m++(qat s.q m).take j)=false by rw [←Bool.not_eq_true,qz];exact hc.2] at g2;rw [hc.1] at g1;have bb:=(dE hj).symm;have ja:(qat s.q m).take (j+1)=(qat s.q m).take j++[tat (qat s.q m) j]:=by rw [lA hj,dE hj]
    have de:(cU s m++(qat s.q m).take j).length+1≤1000000000:=by rw [List.length_append,List.length_take];omega
    rw [ja,←List.append_assoc] at fG;clear fX hc ja;generalize cU s m++(qat s.q m).take j=L at *;generalize tat (qat s.q m) j=C at *;repeat' first|(with_reducible first|apply af|apply ae|apply ar|apply aA|apply bf|apply aa|refine ah [] ?_|(apply aw;·go_simp)|(apply ak;·go_simp))|((with_reducible apply ab);intro X Y;go_simp;(first|(with_reducible refine ⟨_,g1,?_⟩)|(refine ⟨_,⟨g2,rfl⟩,?_⟩)|skip);apply Y;clear Y X)
    refine fG _ ?_;go_simp
   ·intro j hj dz eB K2;obtain ⟨x1,x2,x3,x4,x5,x6⟩:=ixs (m:=j) (by omega);have e:E=lY (iL (cU s m) (qat s.q m)) (qat s.q m).length:=B8.out;rw [vY hj dz.out eB.out] at e;unfold iL at e;have g1:=rj (tat (qat s.q m) j) (by have:=HC.out m hm j hj;omega);have g2:=tW (cU s m++(qat s.q m).take j) (tat (qat s.q m) j) (by rw [List.length_append,List.length_take];omega);rw [vZ] at g2;have bb:=(dE hj).symm;have we:¬iV (tat (qat s.q m) j) (cU s m++(qat s.q m).take j)=0:=fun h=>by
     have h2:=eB.out;rw [show iL (cU s m) (qat s.q m) j=0 from h] at h2;cases h2
    generalize cU s m++(qat s.q m).take j=L at *;generalize tat (qat s.q m) j=C at *;cases hD:cI C
    ·rw [Gj hD] at e;rw [hD] at g1;subst e;clear we;repeat' with_reducible first|apply af|apply ae|apply aT|apply az|apply ar|apply aA|apply cG|apply aa|refine ah [] ?_|(apply aw;·go_simp)|(apply ab;intro X Y;go_simp;(first|(refine ⟨_,g1,?_⟩)|skip);apply Y;clear Y X)
     go_simp
    ·rw [hD] at g1;cases hI:inL C L
     ·rw [Gl hD hI] at we;exact absurd rfl we
     ·rw [Gk hD hI] at e;rw [hI] at g2;subst e;clear we;repeat' first|(with_reducible first|apply af|apply ae|apply aT|apply az|apply ar|apply aA|apply cG|apply aa|refine ah [] ?_|(apply aw;·go_simp)|(apply ak;·go_simp))|((with_reducible apply ab);intro X Y;go_simp;(first|(with_reducible refine ⟨_,g1,?_⟩)|(refine ⟨_,⟨g2,rfl⟩,?_⟩)|skip);apply Y;clear Y X)
      go_simp
   ·intro dz K2;exfalso;exact pX.out (sx dz.out)
  ·intro HB K;have sy:=HB;clear HB;by_cases h4:(s.tk.length:Int)≤40
   ·have qx:¬(40:Int) < (s.tk.length:Int):=by omega
    have dZ:decide (cU s s.q.length=[])=decide (fH s 0=[]):=by rw [M_]
    repeat' with_reducible first|apply af|apply ae|apply bP|apply ar|apply bQ|apply aA|apply bT|apply aa|refine ah [] ?_|(apply ak;·go_simp)|(apply ab;intro X Y;go_simp;apply Y;clear Y X)
    apply dI [2,3] (fun k=>[(8,I k),(5,.osl 0)]) (fun k=>([some (.arr 9 1 (decide (fH s k=[])) ((fH s k).map bU))] : Hp)) (fun k=>!decide (iX r s k=0)) (s.tk.length)
    ·go_simp<;>exact rfl
    ·go_simp
    ·intro k hk HB HP K hK;obtain ⟨w1,w2,w3,w4,w5,w6⟩:=ixs (m:=k) (by omega);have hp:iX r s k=0:=by simpa using HP.out
     obtain ⟨⟨c1,c2⟩,c3,c4,c5⟩:=Na hp;have ky:=Gn HQ.out k (by omega);have de:(fH s k).length+1≤1000000000:=by omega
     have g1:=rj (aI s.tk k).car (by have:=HT.out k hk;omega);have g2:=tW (fH s k) (aI s.tk k).car (by omega);have g3:=za r (aI s.tk k).rank hn;have g4:=pd (aI s.tk k).time 0 s.time;rw [vZ,show inL (aI s.tk k).car (fH s k)=false by rw [←Bool.not_eq_true,qz];exact c2] at g2;rw [c1] at g1;rw [c3] at g3;rw [c4] at g4;rw [Gm hk] at hK;clear hp c1 c2 c3 c4 ky;generalize fH s k=L at *;rcases k with _|p
     ·clear c5;repeat' first|(with_reducible first|apply af|apply ae|apply ar|apply aA|apply bf|apply aa|refine ah [] ?_|apply aR|(apply aw;·go_simp)|(apply ak;·go_simp))|((with_reducible first|apply ab|apply aS);intro X Y;go_simp;(first|(with_reducible refine ⟨_,g1,?_⟩)|(refine ⟨_,⟨g2,rfl⟩,?_⟩)|(refine ⟨_,g3,?_⟩)|(with_reducible refine ⟨_,g4,?_⟩)|skip);apply Y;clear Y X)|((refine bg 14 14 [] rfl (by kernel_rfl) ?_);simp only [ax])
      refine hK _ ?_;go_simp
     ·have ho:¬(aI s.tk (p+1)).time < (aI s.tk p).time:=by
       have:p+1 - 1=p:=by omega
       rw [this] at c5;omega
      obtain ⟨x1,x2,x3,x4,x5,x6⟩:=ixs (m:=p) (by omega);have gp:p < s.tk.length:=by omega
      have sA:(p:Int)+1 < (s.tk.length:Int):=by omega
      have sB:¬(p:Int)+1≤0:=by omega
      have sC:(0:Int) < (p:Int)+1:=by omega
      clear c5;repeat' first|(with_reducible first|apply af|apply ae|apply ar|apply aA|apply bf|apply aa|refine ah [] ?_|apply aR|(apply aw;·go_simp)|(apply ak;·go_simp))|((with_reducible first|apply ab|apply aS);intro X Y;go_simp;(first|(with_reducible refine ⟨_,g1,?_⟩)|(refine ⟨_,⟨g2,rfl⟩,?_⟩)|(refine ⟨_,g3,?_⟩)|(with_reducible refine ⟨_,g4,?_⟩)|skip);apply Y;clear Y X)|((refine bg 14 14 [] rfl (by kernel_rfl) ?_);simp only [ax])
      refine hK _ ?_;go_simp
    ·intro k hk HB HP K;obtain ⟨w1,w2,w3,w4,w5,w6⟩:=ixs (m:=k) (by omega);have e:=Gr l_.out sy.out h4 hk HB.out HP.out;have hp:¬iX r s k=0:=by simpa using HP.out
     rw [HE.out] at e;have ky:=Gn HQ.out k (by omega);have g1:=rj (aI s.tk k).car (by have:=HT.out k hk;omega);have g2:=tW (fH s k) (aI s.tk k).car (by omega);have g3:=za r (aI s.tk k).rank hn;have g4:=pd (aI s.tk k).time 0 s.time;rw [vZ] at g2;unfold iX at e hp;rw [show s.q.flatten++(s.tk.take k).map (·.car)=fH s k from rfl] at e hp;clear ky;generalize fH s k=L at *;cases hD:cI (aI s.tk k).car
     ·rw [Gj hD] at e;rw [hD] at g1;have e2:E=4:=by rw [e];rfl
      subst e2;clear hp e;repeat' with_reducible first|apply af|apply ae|apply aT|apply az|apply ar|apply aA|apply cG|apply aa|refine ah [] ?_|(apply aw;·go_simp)|(apply ab;intro X Y;go_simp;(first|(refine ⟨_,g1,?_⟩)|skip);apply Y;clear Y X)
      go_simp
     rw [hD] at g1;by_cases B9:inL (aI s.tk k).car L=true
     ·have hI:=B9;rw [Gk hD hI] at e;rw [hI] at g2;have e2:E=5:=by rw [e];rfl
      subst e2;clear hp e;repeat' first|(with_reducible first|apply af|apply ae|apply aT|apply az|apply ar|apply aA|apply cG|apply aa|refine ah [] ?_|(apply aw;·go_simp)|(apply ak;·go_simp))|((with_reducible apply ab);intro X Y;go_simp;(first|(with_reducible refine ⟨_,g1,?_⟩)|(refine ⟨_,⟨g2,rfl⟩,?_⟩)|skip);apply Y;clear Y X)
      go_simp
     have hI:inL (aI s.tk k).car L=false:=by simpa using B9
     clear B9;rw [Gl hD hI] at e hp;rw [hI] at g2;cases hR:inR (aI s.tk k).rank 0 ((r.ranks.length:Int) - 1)
     ·rw [hR] at e g3;have e2:E=6:=by rw [e];rfl
      subst e2;clear hp e;repeat' first|(with_reducible first|apply af|apply ae|apply aT|apply az|apply ar|apply aA|apply cG|apply aa|refine ah [] ?_|(apply aw;·go_simp)|(apply ak;·go_simp))|((with_reducible apply ab);intro X Y;go_simp;(first|(with_reducible refine ⟨_,g1,?_⟩)|(refine ⟨_,⟨g2,rfl⟩,?_⟩)|(refine ⟨_,g3,?_⟩)|skip);apply Y;clear Y X)
      go_simp
     rw [hR] at e g3 hp;cases hM:inR (aI s.tk k).time 0 s.time
     ·rw [hM] at e g4;have e2:E=2:=by rw [e];rfl
      subst e2;clear hp e;repeat' first|(with_reducible first|apply af|apply ae|apply aT|apply az|apply ar|apply aA|apply cG|apply aa|refine ah [] ?_|(apply aw;·go_simp)|(apply ak;·go_simp))|((with_reducible apply ab);intro X Y;go_simp;(first|(with_reducible refine ⟨_,g1,?_⟩)|(refine ⟨_,⟨g2,rfl⟩,?_⟩)|(refine ⟨_,g3,?_⟩)|(with_reducible refine ⟨_,g4,?_⟩)|skip);apply Y;clear Y X)
      go_simp
     rw [hM] at e g4 hp;rcases k with _|p
     ·exact absurd rfl hp
     ·have dj:p+1 - 1=p:=by omega
      rw [dj] at e hp;have ho:(aI s.tk (p+1)).time < (aI s.tk p).time:=by
       apply Classical.byContradiction;intro hh;rw [decide_eq_true (by omega:(aI s.tk p).time≤(aI s.tk (p+1)).time),Bool.or_true] at hp;exact hp rfl
      obtain ⟨x1,x2,x3,x4,x5,x6⟩:=ixs (m:=p) (by omega);have gp:p < s.tk.length:=by omega
      have sA:(p:Int)+1 < (s.tk.length:Int):=by omega
      have sB:¬(p:Int)+1≤0:=by omega
      have sC:(0:Int) < (p:Int)+1:=by omega
      have e2:E=9:=by rw [e,decide_eq_false (by omega:¬(aI s.tk p).time≤(aI s.tk (p+1)).time),decide_eq_false (by omega:¬p+1=0)];rfl
      subst e2;clear hp e;repeat' first|(with_reducible first|apply af|apply ae|apply aT|apply az|apply ar|apply aA|apply cG|apply aa|refine ah [] ?_|apply aR|(apply aw;·go_simp)|(apply ak;·go_simp))|((with_reducible first|apply ab|apply aS);intro X Y;go_simp;(first|(with_reducible refine ⟨_,g1,?_⟩)|(refine ⟨_,⟨g2,rfl⟩,?_⟩)|(refine ⟨_,g3,?_⟩)|(with_reducible refine ⟨_,g4,?_⟩)|skip);apply Y;clear Y X)|((refine bg 14 14 [] rfl (by kernel_rfl) ?_);simp only [ax])
      go_simp
    ·intro HB K;have e:=Gs l_.out sy.out h4 HB.out;rw [HE.out] at e;cases hM:inR s.time 0 604800
     ·rw [hM] at e i5;have e2:E=2:=by rw [e];rfl
      subst e2;clear e;repeat' with_reducible first|apply af|apply ae|apply bP|apply aT|apply az|apply bQ|apply bT|apply aa|refine ah [] ?_|(apply aw;·go_simp)|(apply ak;·go_simp)|(apply ab;intro X Y;go_simp;(first|(refine ⟨_,i5,?_⟩)|skip);apply Y;clear Y X)
      go_simp
     ·rw [hM] at e i5;by_cases hx:cO r s < 0
      ·rw [decide_eq_true hx] at e;have e2:E=0:=by rw [e];rfl
       subst e2;have B_:¬0≤cO r s:=by omega
       clear e;generalize cO r s=NX at *;repeat' first|(with_reducible first|apply af|apply ae|apply bP|apply az|apply ar|apply bQ|apply bT|apply aa|refine ah [] ?_|(apply ak;·go_simp))|((with_reducible apply ab);intro X Y;go_simp;(first|(with_reducible refine ⟨_,i5,?_⟩)|(refine ⟨_,gm,?_⟩)|skip);apply Y;clear Y X)
       go_simp
      ·rw [decide_eq_false hx] at e;have e2:E=22:=by rw [e];rfl
       subst e2;have B_:0≤cO r s:=by omega
       clear e;generalize cO r s=NX at *;repeat' first|(with_reducible first|apply af|apply ae|apply bP|apply aT|apply az|apply ar|apply bQ|apply bT|apply aa|refine ah [] ?_|(apply aw;·go_simp)|(apply ak;·go_simp))|((with_reducible apply ab);intro X Y;go_simp;(first|(with_reducible refine ⟨_,i5,?_⟩)|(refine ⟨_,gm,?_⟩)|skip);apply Y;clear Y X)
       go_simp
   ·have qx:(40:Int) < (s.tk.length:Int):=by omega
    have e:=Gq l_.out sy.out h4;rw [HE.out] at e;subst e;repeat' with_reducible first|apply af|apply ae|apply bP|apply aT|apply az|apply bQ|apply bT|apply aa|refine ah [] ?_|(apply aw;·go_simp)|(apply ak;·go_simp)|(apply ab;intro X Y;go_simp;apply Y;clear Y X)
    go_simp
 ·have qR:¬(s.q.length:Int)=(r.ranks.length:Int):=by omega
  have e:iY r s=10:=by
   unfold iY;rw [decide_eq_false ib];rfl
  rw [HE.out] at e;subst e;refine aQ Tryz.func55 rfl (by kernel_rfl) rfl fun M0 w0=>?_;simp only [Tryz.ntmps55,Tryz.results55,aB];repeat' with_reducible first|apply af|apply ae|apply aT|apply az|apply aa|refine ah [] ?_|(apply aw;·go_simp)|(apply ab;intro X Y;go_simp;apply Y;clear Y X)
  go_simp
def gN (L:List ByteArray) : KV:=L.foldl (fun m c=>iN (.string c) (.bool true) m) []
@[go_sem] theorem QC:gN []=[]:=rfl
theorem Gt (L:List ByteArray) (c:ByteArray) : gN (L++[c])=iN (.string c) (.bool true) (gN L):=by simp [gN]
theorem Nc {P:List ByteArray→Prop} (h0:P []) (h1:∀ l c,P l→P (l++[c])) (l:List ByteArray) : P l:=by
 have h:∀ r:List ByteArray,P r.reverse:=fun r=>by
  induction r with
  | nil=>exact h0
  | cons c r ih=>
   rw [List.reverse_cons];exact h1 _ _ ih
 have:=h l.reverse;rwa [List.reverse_reverse] at this
theorem Nd (c d:ByteArray) (l:List ByteArray) : inL c (l++[d])=(inL c l || decide (c=d)):=by
 rw [Bool.eq_iff_iff,qz];simp [qz]
theorem Nf (c:ByteArray) (L:List ByteArray) : iz (.string c) (gN L)=if inL c L=true then some (.bool true) else none:=by
 refine Nc (P:=fun L=>iz (.string c) (gN L)=if inL c L=true then some (.bool true) else none) ?_ (fun l d ih=>?_) L
 ·rw [if_neg (by rw [qz];simp)];rfl
 rw [Gt,yn,ih,Nd];by_cases h:c=d
 ·rw [if_pos h,if_pos (by simp [h])]
 ·rw [if_neg h,decide_eq_false h,Bool.or_false]
theorem Ng (c:ByteArray) (L:List ByteArray) : (iz (.string c) (gN L)).getD (.bool false) = .bool (inL c L):=by
 rw [Nf];cases h:inL c L<;>rfl
theorem wg (c:ByteArray) (L:List ByteArray) (hc:c.size≤1000) : VH Tryz.prog 114 [some (.box [.mp 1]),some (.mpo (4,.i64) (gN L))] [S c,.ref 0 0] [1] [some (.box [.mp 1]),some (.mpo (4,.i64) (gN (L++[c])))] (I (iV c L)):=by
 have g1:=ri c hc;have g2:=bH (cI c) 4;have g3:=bH (!inL c L) 5;have g4:VC Tryz.prog 88 [.sl 1 ([unl (cI c) 4,unl (!inL c L) 5].map dN)] (I (iV c L)):=eX _ rfl rfl;have hf:=Ng c L;rw [Gt];generalize iV c L=E at *;generalize cI c=D1 at *;generalize inL c L=D2 at *;generalize unl D1 4=A1 at *;generalize unl (!D2) 5=A2 at *;generalize gN L=M at *;refine dk Tryz.func114 rfl (by kernel_rfl) rfl (fun _=>by kernel_rfl) fun M0 w0 vs=>?_;simp only [Tryz.ntmps114,Tryz.results114,aB];repeat' first|(with_reducible first|apply af|apply ae|apply az|apply aa|refine ah [] ?_|apply aR)|((with_reducible first|apply ab|apply aS);intro X Y;go_simp;(first|(with_reducible refine ⟨_,g1,?_⟩)|(with_reducible refine ⟨_,g2,?_⟩)|(with_reducible refine ⟨_,g3,?_⟩)|(refine ⟨_,g4,?_⟩)|skip);apply Y;clear Y X)|((refine bg 11 11 [] rfl (by kernel_rfl) ?_);simp only [ax])
 go_simp
theorem VC.args {P:Program} {f:FuncId} {args lF:List AV} {r:AV} (h:VC P f args r) (hl:lF.length=args.length) (ha:∀ (i:Nat) (a a':AV),args[i]? = some a→lF[i]? = some a'→∀ (w:World) (M:Nat→Nat→Prop) (v:Value),V0 w M a' v→V0 w M a v) : VC P f lF r:=
 ⟨h.1,fun w M vs hM gJ hv=>h.2 w M vs hM (gJ.trans hl) fun i a v hi Nh=>by
  have aq:i < lF.length:=by
   rw [hl];exact (List.getElem?_eq_some_iff.1 hi).1
  exact ha i a _ hi (List.getElem?_eq_getElem aq) w M v (hv i _ v (List.getElem?_eq_getElem aq) Nh)⟩
theorem V0.vpNil {w:World} {M:Nat→Nat→Prop} {v:Value} {a b c d e g:AV} (h:V0 w M (.vp [a,b,c,d,e,g,aW]) v) : V0 w M (.vp [a,b,c,d,e,g,.sl 3 []]) v:=by
 cases h with
 | vp _ bk o u hb hM h1 hc hv=>
  refine .vp _ bk o u hb (fun j hj=>hM j (by simpa using hj)) (fun x hx=>?_) (fun j hj=>hc j (by simpa using hj)) fun j x hj=>?_
  ·simp only [List.mem_cons,List.not_mem_nil,or_false] at hx;rcases hx with rfl|rfl|rfl|rfl|rfl|rfl|rfl
   ·exact h1 _ (by simp)
   ·exact h1 _ (by simp)
   ·exact h1 _ (by simp)
   ·exact h1 _ (by simp)
   ·exact h1 _ (by simp)
   ·exact h1 _ (by simp)
   ·rfl
  ·rcases j with _|_|_|_|_|_|_|j
   ·exact hv 0 x hj
   ·exact hv 1 x hj
   ·exact hv 2 x hj
   ·exact hv 3 x hj
   ·exact hv 4 x hj
   ·exact hv 5 x hj
   ·simp only [List.getElem?_cons_zero,List.getElem?_cons_succ,Option.some.injEq] at hj;subst hj;exact (hv 6 _ rfl).nilSl 3
   ·simp at hj
theorem Ni (r:Ru) (s:St) (hl:r.ranks.length≤1000000) (hr:r.ranks.length=s.q.length) (hf:jO r s.q.length) : VC Tryz.prog 115 [.vp [hJ s.q,.sl 3 (s.tk.map Tk.av),I s.time,.sl 4 (r.ranks.map Rk.av),I r.back,I r.ret,aW]] (I (cO r s)):=
 (zJ r s [] hl hr hf).args rfl fun i a a' h1 h2 w M v hv=>by
  rcases i with _|i
  ·simp only [List.getElem?_cons_zero,Option.some.injEq] at h1 h2;subst h1;subst h2;exact hv.vpNil
  ·simp at h1
theorem Gu (r:Ru) (s:St) (hn:r.ranks.length≤1000000) (ch:∀ k,k < r.ranks.length→(rat r.ranks k).name.size≤1000) (hs:SmallS s) (h:(di r).2≠0∨s.q.length≠r.ranks.length) : VC Tryz.prog 52 [b8 r,da s] (I (fst [(di r).2,10])):=by
 have g1:=qA r hn ch;have tS:=hs.nq;have ed:decide ((s.q.length:Int)=(r.ranks.length:Int))=decide (s.q.length=r.ranks.length):=by
  by_cases hh:s.q.length=r.ranks.length
  ·rw [decide_eq_true hh,decide_eq_true (by omega)]
  ·rw [decide_eq_false hh,decide_eq_false (by omega)]
 have g2:=bH (decide (s.q.length=r.ranks.length)) 10;have g3:VC Tryz.prog 88 [.sl 1 ([(di r).2,unl (decide (s.q.length=r.ranks.length)) 10].map dN)] (I (fst [(di r).2,unl (decide (s.q.length=r.ranks.length)) 10])):=eX _ rfl rfl;have e:fst [(di r).2,unl (decide (s.q.length=r.ranks.length)) 10]=fst [(di r).2,10]:=by
  rcases h with h|h
  ·simp [fst,h]
  ·rw [decide_eq_false h];rfl
 have au:fst [(di r).2,10]≠0:=by
  simp only [fst];split
  ·assumption
  ·decide
 rw [e] at g3;rw [←ed] at g2 g3;generalize fst [(di r).2,10]=F at *;generalize (di r).2=A1 at *;clear e h;generalize unl (decide ((s.q.length:Int)=(r.ranks.length:Int))) 10=A2 at *;by_cases hq:(s.q.length:Int)=(r.ranks.length:Int)
 ·rw [decide_eq_true hq] at g2 ed;clear ed;refine aQ Tryz.func52 rfl (by kernel_rfl) rfl fun M0 w0=>?_;simp only [Tryz.ntmps52,Tryz.results52,aB];repeat' first|(with_reducible first|apply af|apply ae|apply aT|apply az|apply aa|refine ah [] ?_|apply aR|(apply aw;·go_simp))|((with_reducible first|apply ab|apply aS);intro X Y;go_simp;(first|(with_reducible refine ⟨_,g1,?_⟩)|(with_reducible refine ⟨_,g2,?_⟩)|(refine ⟨_,g3,?_⟩)|skip);apply Y;clear Y X)|((refine bg 13 13 [] rfl (by kernel_rfl) ?_);simp only [ax])
  go_simp
 ·rw [decide_eq_false hq] at g2 ed;clear ed;refine aQ Tryz.func52 rfl (by kernel_rfl) rfl fun M0 w0=>?_;simp only [Tryz.ntmps52,Tryz.results52,aB];repeat' first|(with_reducible first|apply af|apply ae|apply aT|apply az|apply aa|refine ah [] ?_|apply aR|(apply aw;·go_simp))|((with_reducible first|apply ab|apply aS);intro X Y;go_simp;(first|(with_reducible refine ⟨_,g1,?_⟩)|(with_reducible refine ⟨_,g2,?_⟩)|(refine ⟨_,g3,?_⟩)|skip);apply Y;clear Y X)|((refine bg 13 13 [] rfl (by kernel_rfl) ?_);simp only [ax])
  go_simp
theorem Nj (r:Ru) (s:St) (hn:r.ranks.length≤1000000) (ch:∀ k,k < r.ranks.length→(rat r.ranks k).name.size≤1000) (hs:SmallS s) (h0:(di r).2=0) (ib:s.q.length=r.ranks.length) : VC Tryz.prog 52 [b8 r,da s] (I (iY r s)):=by
 obtain ⟨E,hE⟩ : ∃ E,iY r s=E:=⟨_,rfl⟩
 rw [hE];have HE:=Lib.hid hE;have g1:=qA r hn ch;have g2:=bH true 10;have g3:VC Tryz.prog 88 [.sl 1 ([(di r).2,unl true 10].map dN)] (I (fst [(di r).2,unl true 10])):=eX _ rfl rfl;rw [h0] at g1 g3;have e0:unl true 10=0:=rfl;have e1:fst [0,unl true 10]=0:=rfl;rw [e1] at g3;rw [e0] at g2 g3;have hr:=(yg h0).1;have hq:∀ k,k < s.q.length→(qat s.q k).length≤300:=fun k hk=>by rw [eM hk];exact (hs.q1 _ (List.getElem_mem hk)).1
 have v_:∀ k,k < s.q.length→∀ j,j < (qat s.q k).length→(tat (qat s.q k) j).size≤1000:=fun k hk j hj=>by
  rw [dE hj];refine (hs.q1 _ ?_).2 _ (List.getElem_mem hj);rw [eM hk];exact List.getElem_mem hk
 have wc:∀ k,k < s.tk.length→(aI s.tk k).car.size≤1000:=fun k hk=>by rw [gb hk];exact (hs.t1 _ (List.getElem_mem hk)).1
 have tS:=hs.nq;have vQ:=hs.nt;have HF:jO r s.q.length:=by rw [ib];exact hr.feed
 have gm:=Ni r s hn ib.symm HF;have i5:=kq s.time 0 604800;have u5:=bH (inR s.time 0 604800) 2;have u6:=bH (decide (cO r s < 0)) 22;have g6:VC Tryz.prog 88 [.sl 1 ([unl (inR s.time 0 604800) 2,unl (decide (cO r s < 0)) 22].map dN)] (I (fst [unl (inR s.time 0 604800) 2,unl (decide (cO r s < 0)) 22])):=eX _ rfl rfl;have qR:(s.q.length:Int)=(r.ranks.length:Int):=by omega
 have HQ:=Lib.hid hq;have HC:=Lib.hid v_;have HT:=Lib.hid wc;have l_:=Lib.hid ib;have QD:Hid (gN (cU s 0)=[]):=Lib.hid (by rw [M9];rfl);clear hE hq v_ wc hr hs ib h0 e0 e1 HF ch;refine aQ Tryz.func52 rfl (by kernel_rfl) rfl fun M0 w0=>?_;simp only [Tryz.ntmps52,Tryz.results52,aB];repeat' first|(with_reducible first|apply af|apply ae|apply ar|apply aA|apply aa|refine ah [] ?_|apply aR|(apply ak;·go_simp))|((with_reducible first|apply ab|apply aS);intro X Y;go_simp;(first|(with_reducible refine ⟨_,g1,?_⟩)|(with_reducible refine ⟨_,g2,?_⟩)|(refine ⟨_,g3,?_⟩)|skip);apply Y;clear Y X)|((refine bg 13 13 [] rfl (by kernel_rfl) ?_);simp only [ax])
 apply dI [2,3,7,35,36] (fun k=>[(37,I k)]) (fun k=>([some (.mpo (4,.i64) (gN (cU s k))),some (.box [.mp 0])] : Hp)) (fun k=>!decide (iW r s k=0)) (s.q.length)
 ·go_simp<;>exact rfl
 ·go_simp
 ·intro m hm HB HP K hK;obtain ⟨w1,w2,w3,w4,w5,w6⟩:=ixs (m:=m) (by omega);have B6:m < r.ranks.length:=by have:=l_.out;omega
  have iK:=HQ.out m hm;have hp:iW r s m=0:=by simpa using HP.out
  unfold iW at hp;have gp:¬(rat r.ranks m).places < ((qat s.q m).length:Int):=fun h=>by rw [if_pos h] at hp;simp at hp
  rw [if_neg gp,tD] at hp;have pX:=Lib.hid hp;have B7:=Lib.hid (show cU s (m+1)=cU s m++qat s.q m from yf hm);clear hp;repeat' with_reducible first|apply af|apply ae|apply ar|apply aA|apply aa|refine ah [] ?_|(apply aw;·go_simp)|(apply ak;·go_simp)|(apply ab;intro X Y;go_simp;apply Y;clear Y X)
  apply dI [2,3,7,35,36,37,51,52] (fun k=>[(53,I k)]) (fun k=>([some (.mpo (4,.i64) (gN (cU s m++(qat s.q m).take k))),some (.box [.mp 0])] : Hp)) (fun j=>!decide (iL (cU s m) (qat s.q m) j=0)) ((qat s.q m).length)
  ·go_simp<;>exact rfl
  ·go_simp
  ·intro j hj dz eB K2 fG;obtain ⟨x1,x2,x3,x4,x5,x6⟩:=ixs (m:=j) (by omega);have fX:iL (cU s m) (qat s.q m) j=0:=pX.out j hj;unfold iL at fX;have bM:=HC.out m hm j hj;have wn:=wg (tat (qat s.q m) j) (cU s m++(qat s.q m).take j) bM;rw [fX] at wn;have bb:=(dE hj).symm;have ja:(qat s.q m).take (j+1)=(qat s.q m).take j++[tat (qat s.q m) j]:=by rw [lA hj,dE hj]
   rw [ja,←List.append_assoc] at fG;clear fX ja;generalize cU s m++(qat s.q m).take j=L at *;generalize tat (qat s.q m) j=C at *;generalize gN (L++[C])=M2 at *;generalize gN L=M1 at *;repeat' with_reducible apply af
   refine ah [] ?_;repeat' with_reducible first|apply af|apply ae|apply ar|apply aA|apply aa|(apply aw;·go_simp)|(apply ab;intro X Y;go_simp;apply Y;clear Y X)
   refine ah [] ?_;repeat' with_reducible first|apply af|apply ae|apply aa|(apply ab;intro X Y;go_simp;apply Y;clear Y X)
   refine dB (bz [] 2 ⟨rfl,rfl⟩ ?_);simp only [ax];repeat' with_reducible first|apply aa|(apply ab;intro X Y;go_simp;apply Y;clear Y X)
   refine dF [1,0] [1] [] [some (.box [.mp 1]),some (.mpo (4,.i64) (M2))] (I 0) rfl (by go_simp) ?_ ?_
   ·unfold dx;go_simp;refine ⟨_,_,_,wn,?_⟩;go_simp;kernel_rfl
   go_simp;refine bz [] 1 ⟨rfl,rfl⟩ ?_;simp only [ax];repeat' with_reducible first|apply aa|(apply ab;intro X Y;go_simp;apply Y;clear Y X)
   apply cR;repeat' with_reducible first|apply af|apply ae|apply ar|apply bf|apply aa|refine ah [] ?_|(apply ak;·go_simp)|(apply ab;intro X Y;go_simp;apply Y;clear Y X)
   refine fG _ ?_;go_simp
  ·intro j hj dz eB K2;have h1:iL (cU s m) (qat s.q m) j=0:=pX.out j hj;have h2:=eB.out;rw [h1] at h2;cases h2
  ·intro dz K2;rw [B7.out] at hK;rw [List.take_length];repeat' with_reducible first|apply af|apply ae|apply bP|apply bQ|apply bf|apply bT|apply aa|refine ah [] ?_|(apply ak;·go_simp)|(apply ab;intro X Y;go_simp;apply Y;clear Y X)
   refine hK _ ?_;go_simp
 ·intro m hm HB HP K;obtain ⟨w1,w2,w3,w4,w5,w6⟩:=ixs (m:=m) (by omega);have B6:m < r.ranks.length:=by have:=l_.out;omega
  have iK:=HQ.out m hm;have e:=Gp l_.out hm HB.out HP.out;have hp:¬iW r s m=0:=by simpa using HP.out
  rw [HE.out] at e;unfold iW at e hp;by_cases gp:(rat r.ranks m).places < ((qat s.q m).length:Int)
  ·rw [if_pos gp] at e;subst e;clear hp;repeat' with_reducible first|apply af|apply ae|apply aT|apply az|apply ar|apply aA|apply cG|apply aa|refine ah [] ?_|(apply aw;·go_simp)|(apply ab;intro X Y;go_simp;apply Y;clear Y X)
   go_simp
  rw [if_neg gp] at e hp;have B8:=Lib.hid e;have pX:=Lib.hid hp;clear e hp;repeat' with_reducible first|apply af|apply ae|apply ar|apply aA|apply aa|refine ah [] ?_|(apply aw;·go_simp)|(apply ak;·go_simp)|(apply ab;intro X Y;go_simp;apply Y;clear Y X)
  apply dI [2,3,7,35,36,37,51,52] (fun k=>[(53,I k)]) (fun k=>([some (.mpo (4,.i64) (gN (cU s m++(qat s.q m).take k))),some (.box [.mp 0])] : Hp)) (fun j=>!decide (iL (cU s m) (qat s.q m) j=0)) ((qat s.q m).length)
  ·go_simp<;>exact rfl
  ·go_simp
  ·intro j hj dz eB K2 fG;obtain ⟨x1,x2,x3,x4,x5,x6⟩:=ixs (m:=j) (by omega);have fX:iL (cU s m) (qat s.q m) j=0:=by simpa using eB.out
   unfold iL at fX;have bM:=HC.out m hm j hj;have wn:=wg (tat (qat s.q m) j) (cU s m++(qat s.q m).take j) bM;rw [fX] at wn;have bb:=(dE hj).symm;have ja:(qat s.q m).take (j+1)=(qat s.q m).take j++[tat (qat s.q m) j]:=by rw [lA hj,dE hj]
   rw [ja,←List.append_assoc] at fG;clear fX ja;generalize cU s m++(qat s.q m).take j=L at *;generalize tat (qat s.q m) j=C at *;generalize gN (L++[C])=M2 at *;generalize gN L=M1 at *;repeat' with_reducible apply af
   refine ah [] ?_;repeat' with_reducible first|apply af|apply ae|apply ar|apply aA|apply aa|(apply aw;·go_simp)|(apply ab;intro X Y;go_simp;apply Y;clear Y X)
   refine ah [] ?_;repeat' with_reducible first|apply af|apply ae|apply aa|(apply ab;intro X Y;go_simp;apply Y;clear Y X)
   refine dB (bz [] 2 ⟨rfl,rfl⟩ ?_);simp only [ax];repeat' with_reducible first|apply aa|(apply ab;intro X Y;go_simp;apply Y;clear Y X)
   refine dF [1,0] [1] [] [some (.box [.mp 1]),some (.mpo (4,.i64) M2)] (I 0) rfl (by go_simp) ?_ ?_
   ·unfold dx;go_simp;refine ⟨_,_,_,wn,?_⟩;go_simp;kernel_rfl
   go_simp;refine bz [] 1 ⟨rfl,rfl⟩ ?_;simp only [ax];repeat' with_reducible first|apply aa|(apply ab;intro X Y;go_simp;apply Y;clear Y X)
   apply cR;repeat' with_reducible first|apply af|apply ae|apply ar|apply bf|apply aa|refine ah [] ?_|(apply ak;·go_simp)|(apply ab;intro X Y;go_simp;apply Y;clear Y X)
   refine fG _ ?_;go_simp
  ·intro j hj dz eB K2;obtain ⟨x1,x2,x3,x4,x5,x6⟩:=ixs (m:=j) (by omega);have e:E=lY (iL (cU s m) (qat s.q m)) (qat s.q m).length:=B8.out;rw [vY hj dz.out eB.out] at e;unfold iL at e;have bM:=HC.out m hm j hj;have wn:=wg (tat (qat s.q m) j) (cU s m++(qat s.q m).take j) bM;have bb:=(dE hj).symm;have we:¬iV (tat (qat s.q m) j) (cU s m++(qat s.q m).take j)=0:=fun h=>by
    have h2:=eB.out;rw [show iL (cU s m) (qat s.q m) j=0 from h] at h2;cases h2
   subst e;generalize cU s m++(qat s.q m).take j=L at *;generalize tat (qat s.q m) j=C at *;generalize iV C L=E2 at *;generalize gN (L++[C])=M2 at *;generalize gN L=M1 at *;repeat' with_reducible apply af
   refine ah [] ?_;repeat' with_reducible first|apply af|apply ae|apply ar|apply aA|apply aa|(apply aw;·go_simp)|(apply ab;intro X Y;go_simp;apply Y;clear Y X)
   refine ah [] ?_;repeat' with_reducible first|apply af|apply ae|apply aa|(apply ab;intro X Y;go_simp;apply Y;clear Y X)
   refine dB (bz [] 2 ⟨rfl,rfl⟩ ?_);simp only [ax];repeat' with_reducible first|apply aa|(apply ab;intro X Y;go_simp;apply Y;clear Y X)
   refine dF [1,0] [1] [] [some (.box [.mp 1]),some (.mpo (4,.i64) M2)] (I E2) rfl (by go_simp) ?_ ?_
   ·unfold dx;go_simp;refine ⟨_,_,_,wn,?_⟩;go_simp;kernel_rfl
   go_simp;refine bz [] 1 ⟨rfl,rfl⟩ ?_;simp only [ax];repeat' with_reducible first|apply aa|(apply ab;intro X Y;go_simp;apply Y;clear Y X)
   apply cR;repeat' with_reducible first|apply af|apply ae|apply aT|apply az|apply cG|apply aa|refine ah [] ?_|(apply aw;·go_simp)|(apply ab;intro X Y;go_simp;apply Y;clear Y X)
   go_simp
  ·intro dz K2;exfalso;exact pX.out (sx dz.out)
 ·intro HB K;have sy:=HB;clear HB;by_cases h4:(s.tk.length:Int)≤40
  ·have qx:¬(40:Int) < (s.tk.length:Int):=by omega
   repeat' with_reducible first|apply af|apply ae|apply bP|apply ar|apply bQ|apply aA|apply bT|apply aa|refine ah [] ?_|(apply ak;·go_simp)|(apply ab;intro X Y;go_simp;apply Y;clear Y X)
   apply dI [2,3,7,70,71] (fun k=>[(72,I k)]) (fun k=>([some (.mpo (4,.i64) (gN (fH s k))),some (.box [.mp 0])] : Hp)) (fun k=>!decide (iX r s k=0)) (s.tk.length)
   ·go_simp<;>exact rfl
   ·go_simp
   ·intro k hk HB HP K hK;obtain ⟨w1,w2,w3,w4,w5,w6⟩:=ixs (m:=k) (by omega);have bM:=HT.out k hk;have wn:=wg (aI s.tk k).car (fH s k) bM;have i1:=kq (aI s.tk k).rank 0 ((r.ranks.length:Int) - 1);have i2:=kq (aI s.tk k).time 0 s.time;have u1:=bH (inR (aI s.tk k).rank 0 ((r.ranks.length:Int) - 1)) 6;have u2:=bH (inR (aI s.tk k).time 0 s.time) 2;have hw:IntKind.i64.wrap ((r.ranks.length:Int) - 1)=(r.ranks.length:Int) - 1:=gZ (by omega) (by omega);have u3:=bH (decide (k=0) || decide ((aI s.tk (k - 1)).time≤(aI s.tk k).time)) 9;have gF:VC Tryz.prog 88 [.sl 1 ([iV (aI s.tk k).car (fH s k),unl (inR (aI s.tk k).rank 0 ((r.ranks.length:Int) - 1)) 6,unl (inR (aI s.tk k).time 0 s.time) 2,unl (decide (k=0) || decide ((aI s.tk (k - 1)).time≤(aI s.tk k).time)) 9].map dN)] (I (iX r s k)):=eX _ rfl rfl;have hp:iX r s k=0:=by simpa using HP.out
    rw [hp] at gF;rw [Gm hk] at hK;clear hp;generalize inR (aI s.tk k).rank 0 ((r.ranks.length:Int) - 1)=D1 at *;generalize inR (aI s.tk k).time 0 s.time=D2 at *;generalize unl D1 6=A1 at *;generalize unl D2 2=A2 at *;generalize iV (aI s.tk k).car (fH s k)=CE at *;generalize gN (fH s k++[(aI s.tk k).car])=M2 at *;generalize gN (fH s k)=M1 at *;rcases k with _|p
    ·have d0:(decide (0=0) || decide ((aI s.tk (0 - 1)).time≤(aI s.tk 0).time))=true:=rfl;rw [d0] at u3 gF;generalize unl true 9=A3 at *;clear d0;repeat' with_reducible apply af
     refine ah [] ?_;repeat' with_reducible first|apply af|apply ae|apply ar|apply aA|apply aa|(apply aw;·go_simp)|(apply ab;intro X Y;go_simp;apply Y;clear Y X)
     refine ah [] ?_;repeat' with_reducible first|apply af|apply ae|apply aa|(apply ab;intro X Y;go_simp;apply Y;clear Y X)
     refine dB (bz [] 3 ⟨rfl,rfl⟩ ?_);simp only [ax];repeat' with_reducible first|apply aa|(apply ab;intro X Y;go_simp;apply Y;clear Y X)
     refine dF [1,0] [1] [] [some (.box [.mp 1]),some (.mpo (4,.i64) M2)] (I CE) rfl (by go_simp) ?_ ?_
     ·unfold dx;go_simp;refine ⟨_,_,_,wn,?_⟩;go_simp;kernel_rfl
     go_simp;refine bz [] 1 ⟨rfl,rfl⟩ ?_;simp only [ax];repeat' with_reducible first|apply aa|(apply ab;intro X Y;go_simp;apply Y;clear Y X)
     apply cR;repeat' first|(with_reducible first|apply af|apply ae|apply ar|apply bf|apply aa|refine ah [] ?_|apply aR|(apply ak;·go_simp))|((with_reducible first|apply ab|apply aS);intro X Y;go_simp;(first|(with_reducible refine ⟨_,i1,?_⟩)|(with_reducible refine ⟨_,i2,?_⟩)|(with_reducible refine ⟨_,u1,?_⟩)|(with_reducible refine ⟨_,u2,?_⟩)|(with_reducible refine ⟨_,u3,?_⟩)|(refine ⟨_,gF,?_⟩)|skip);apply Y;clear Y X)|((refine bg 34 33 [] rfl (by kernel_rfl) ?_);simp only [ax])
     refine hK _ ?_;go_simp
    ·have dj:p+1 - 1=p:=by omega
     rw [dj,decide_eq_false (by omega:¬p+1=0),Bool.false_or] at u3 gF;obtain ⟨x1,x2,x3,x4,x5,x6⟩:=ixs (m:=p) (by omega);have gp:p < s.tk.length:=by omega
     have sA:(p:Int)+1 < (s.tk.length:Int):=by omega
     have sB:¬(p:Int)+1≤0:=by omega
     have sC:(0:Int) < (p:Int)+1:=by omega
     have Ca:¬(p:Int)+1=0:=by omega
     have Cb:(0:Int)≤(p:Int):=by omega
     have Nk:(if 0 < p then (p:Int) else 0)=(p:Int):=by split<;>omega
     generalize unl (decide ((aI s.tk p).time≤(aI s.tk (p+1)).time)) 9=A3 at *;clear dj;repeat' with_reducible apply af
     refine ah [] ?_;repeat' with_reducible first|apply af|apply ae|apply ar|apply aA|apply aa|(apply aw;·go_simp)|(apply ab;intro X Y;go_simp;apply Y;clear Y X)
     refine ah [] ?_;repeat' with_reducible first|apply af|apply ae|apply aa|(apply ab;intro X Y;go_simp;apply Y;clear Y X)
     refine dB (bz [] 3 ⟨rfl,rfl⟩ ?_);simp only [ax];repeat' with_reducible first|apply aa|(apply ab;intro X Y;go_simp;apply Y;clear Y X)
     refine dF [1,0] [1] [] [some (.box [.mp 1]),some (.mpo (4,.i64) M2)] (I CE) rfl (by go_simp) ?_ ?_
     ·unfold dx;go_simp;refine ⟨_,_,_,wn,?_⟩;go_simp;kernel_rfl
     go_simp;refine bz [] 1 ⟨rfl,rfl⟩ ?_;simp only [ax];repeat' with_reducible first|apply aa|(apply ab;intro X Y;go_simp;apply Y;clear Y X)
     apply cR;repeat' first|(with_reducible first|apply af|apply ae|apply ar|apply bf|apply aa|refine ah [] ?_|apply aR|(apply ak;·go_simp))|((with_reducible first|apply ab|apply aS);intro X Y;go_simp;(first|(with_reducible refine ⟨_,i1,?_⟩)|(with_reducible refine ⟨_,i2,?_⟩)|(with_reducible refine ⟨_,u1,?_⟩)|(with_reducible refine ⟨_,u2,?_⟩)|(with_reducible refine ⟨_,u3,?_⟩)|(refine ⟨_,gF,?_⟩)|skip);apply Y;clear Y X)|((refine bg 34 33 [] rfl (by kernel_rfl) ?_);simp only [ax])
     refine hK _ ?_;go_simp
   ·intro k hk HB HP K;obtain ⟨w1,w2,w3,w4,w5,w6⟩:=ixs (m:=k) (by omega);have bM:=HT.out k hk;have wn:=wg (aI s.tk k).car (fH s k) bM;have i1:=kq (aI s.tk k).rank 0 ((r.ranks.length:Int) - 1);have i2:=kq (aI s.tk k).time 0 s.time;have u1:=bH (inR (aI s.tk k).rank 0 ((r.ranks.length:Int) - 1)) 6;have u2:=bH (inR (aI s.tk k).time 0 s.time) 2;have hw:IntKind.i64.wrap ((r.ranks.length:Int) - 1)=(r.ranks.length:Int) - 1:=gZ (by omega) (by omega);have u3:=bH (decide (k=0) || decide ((aI s.tk (k - 1)).time≤(aI s.tk k).time)) 9;have gF:VC Tryz.prog 88 [.sl 1 ([iV (aI s.tk k).car (fH s k),unl (inR (aI s.tk k).rank 0 ((r.ranks.length:Int) - 1)) 6,unl (inR (aI s.tk k).time 0 s.time) 2,unl (decide (k=0) || decide ((aI s.tk (k - 1)).time≤(aI s.tk k).time)) 9].map dN)] (I (iX r s k)):=eX _ rfl rfl;have e:=Gr l_.out sy.out h4 hk HB.out HP.out;have hp:¬iX r s k=0:=by simpa using HP.out
    rw [HE.out] at e;subst e;generalize iX r s k=TE at *;generalize inR (aI s.tk k).rank 0 ((r.ranks.length:Int) - 1)=D1 at *;generalize inR (aI s.tk k).time 0 s.time=D2 at *;generalize unl D1 6=A1 at *;generalize unl D2 2=A2 at *;generalize iV (aI s.tk k).car (fH s k)=CE at *;generalize gN (fH s k++[(aI s.tk k).car])=M2 at *;generalize gN (fH s k)=M1 at *;rcases k with _|p
    ·have d0:(decide (0=0) || decide ((aI s.tk (0 - 1)).time≤(aI s.tk 0).time))=true:=rfl;rw [d0] at u3 gF;generalize unl true 9=A3 at *;clear d0;repeat' with_reducible apply af
     refine ah [] ?_;repeat' with_reducible first|apply af|apply ae|apply ar|apply aA|apply aa|(apply aw;·go_simp)|(apply ab;intro X Y;go_simp;apply Y;clear Y X)
     refine ah [] ?_;repeat' with_reducible first|apply af|apply ae|apply aa|(apply ab;intro X Y;go_simp;apply Y;clear Y X)
     refine dB (bz [] 3 ⟨rfl,rfl⟩ ?_);simp only [ax];repeat' with_reducible first|apply aa|(apply ab;intro X Y;go_simp;apply Y;clear Y X)
     refine dF [1,0] [1] [] [some (.box [.mp 1]),some (.mpo (4,.i64) M2)] (I CE) rfl (by go_simp) ?_ ?_
     ·unfold dx;go_simp;refine ⟨_,_,_,wn,?_⟩;go_simp;kernel_rfl
     go_simp;refine bz [] 1 ⟨rfl,rfl⟩ ?_;simp only [ax];repeat' with_reducible first|apply aa|(apply ab;intro X Y;go_simp;apply Y;clear Y X)
     apply cR;repeat' first|(with_reducible first|apply af|apply ae|apply aT|apply az|apply cG|apply aa|refine ah [] ?_|apply aR|(apply aw;·go_simp))|((with_reducible first|apply ab|apply aS);intro X Y;go_simp;(first|(with_reducible refine ⟨_,i1,?_⟩)|(with_reducible refine ⟨_,i2,?_⟩)|(with_reducible refine ⟨_,u1,?_⟩)|(with_reducible refine ⟨_,u2,?_⟩)|(with_reducible refine ⟨_,u3,?_⟩)|(refine ⟨_,gF,?_⟩)|skip);apply Y;clear Y X)|((refine bg 34 33 [] rfl (by kernel_rfl) ?_);simp only [ax])
     go_simp
    ·have dj:p+1 - 1=p:=by omega
     rw [dj,decide_eq_false (by omega:¬p+1=0),Bool.false_or] at u3 gF;obtain ⟨x1,x2,x3,x4,x5,x6⟩:=ixs (m:=p) (by omega);have gp:p < s.tk.length:=by omega
     have sA:(p:Int)+1 < (s.tk.length:Int):=by omega
     have sB:¬(p:Int)+1≤0:=by omega
     have sC:(0:Int) < (p:Int)+1:=by omega
     have Ca:¬(p:Int)+1=0:=by omega
     have Cb:(0:Int)≤(p:Int):=by omega
     have Nk:(if 0 < p then (p:Int) else 0)=(p:Int):=by split<;>omega
     generalize unl (decide ((aI s.tk p).time≤(aI s.tk (p+1)).time)) 9=A3 at *;clear dj;repeat' with_reducible apply af
     refine ah [] ?_;repeat' with_reducible first|apply af|apply ae|apply ar|apply aA|apply aa|(apply aw;·go_simp)|(apply ab;intro X Y;go_simp;apply Y;clear Y X)
     refine ah [] ?_;repeat' with_reducible first|apply af|apply ae|apply aa|(apply ab;intro X Y;go_simp;apply Y;clear Y X)
     refine dB (bz [] 3 ⟨rfl,rfl⟩ ?_);simp only [ax];repeat' with_reducible first|apply aa|(apply ab;intro X Y;go_simp;apply Y;clear Y X)
     refine dF [1,0] [1] [] [some (.box [.mp 1]),some (.mpo (4,.i64) M2)] (I CE) rfl (by go_simp) ?_ ?_
     ·unfold dx;go_simp;refine ⟨_,_,_,wn,?_⟩;go_simp;kernel_rfl
     go_simp;refine bz [] 1 ⟨rfl,rfl⟩ ?_;simp only [ax];repeat' with_reducible first|apply aa|(apply ab;intro X Y;go_simp;apply Y;clear Y X)
     apply cR;repeat' first|(with_reducible first|apply af|apply ae|apply aT|apply az|apply cG|apply aa|refine ah [] ?_|apply aR|(apply aw;·go_simp))|((with_reducible first|apply ab|apply aS);intro X Y;go_simp;(first|(with_reducible refine ⟨_,i1,?_⟩)|(with_reducible refine ⟨_,i2,?_⟩)|(with_reducible refine ⟨_,u1,?_⟩)|(with_reducible refine ⟨_,u2,?_⟩)|(with_reducible refine ⟨_,u3,?_⟩)|(refine ⟨_,gF,?_⟩)|skip);apply Y;clear Y X)|((refine bg 34 33 [] rfl (by kernel_rfl) ?_);simp only [ax])
     go_simp
   ·intro HB K;have e:=Gs l_.out sy.out h4 HB.out;rw [HE.out] at e;rw [←e] at g6;generalize inR s.time 0 604800=D1 at *;generalize Nl:cO r s=NX at *;have qi:decide (NX < 0)=decide (NX < 0):=rfl;clear e qi Nl;generalize unl D1 2=A1 at *;generalize unl (decide (NX < 0)) 22=A2 at *;repeat' first|(with_reducible first|apply af|apply ae|apply bP|apply az|apply bQ|apply bT|apply aa|refine ah [] ?_|(apply ak;·go_simp))|((with_reducible apply ab);intro X Y;go_simp;(first|(with_reducible refine ⟨_,i5,?_⟩)|(with_reducible refine ⟨_,u5,?_⟩)|(with_reducible refine ⟨_,gm,?_⟩)|(with_reducible refine ⟨_,u6,?_⟩)|(refine ⟨_,g6,?_⟩)|skip);apply Y;clear Y X)
    go_simp
  ·have qx:(40:Int) < (s.tk.length:Int):=by omega
   have e:=Gq l_.out sy.out h4;rw [HE.out] at e;subst e;repeat' with_reducible first|apply af|apply ae|apply bP|apply aT|apply az|apply bQ|apply bT|apply aa|refine ah [] ?_|(apply aw;·go_simp)|(apply ak;·go_simp)|(apply ab;intro X Y;go_simp;apply Y;clear Y X)
   go_simp
def ckE (r:Ru) (s:St) : Int:=if (di r).2≠0 then (di r).2 else iY r s
theorem Gv (r:Ru) (s:St) (hn:r.ranks.length≤1000000) (ch:∀ k,k < r.ranks.length→(rat r.ranks k).name.size≤1000) (hs:SmallS s) : VC Tryz.prog 52 [b8 r,da s] (I (ckE r s)):=by
 unfold ckE;by_cases h0:(di r).2=0
 ·rw [if_neg (by simp [h0])];by_cases ib:s.q.length=r.ranks.length
  ·exact Nj r s hn ch hs h0 ib
  ·have g:=Gu r s hn ch hs (.inr ib);have e:iY r s=10:=by
    unfold iY;rw [decide_eq_false ib];rfl
   rw [e];rw [h0] at g;exact g
 ·rw [if_pos h0];have g:=Gu r s hn ch hs (.inl h0);have e:fst [(di r).2,10]=(di r).2:=by simp [fst,h0]
  rw [e] at g;exact g
theorem Nn (r:Ru) (s:St) (hn:r.ranks.length≤1000000) (ch:∀ k,k < r.ranks.length→(rat r.ranks k).name.size≤1000) (hs:SmallS s) : VC Tryz.prog 65 [b8 r,da s] (I (ckE r s)):=by
 have g1:=M6 r hn ch;unfold ckE;by_cases h0:(di r).2=0
 ·rw [if_neg (by simp [h0])];have g2:=Nb r s (yg h0).1 hn hs;rw [h0] at g1;generalize iY r s=C at *;clear h0 ch hs;refine sD Tryz.func65 rfl (by kernel_rfl) (by kernel_rfl) rfl fun M0 w0=>?_;simp only [Tryz.ntmps65,Tryz.results65,aB];repeat' first|(with_reducible first|apply af|apply ae|apply az|apply ar|apply aa|refine ah [] ?_)|((with_reducible refine ak ?_ ?_);(focus (go_simp;done)))|((with_reducible refine ab fun X Y=>?_);go_simp;(first|(refine ⟨_,g1,?_⟩)|(refine ⟨_,g2,?_⟩)|skip);refine Y _ ?_;clear Y X)
  go_simp
 ·rw [if_pos h0];generalize (di r).2=C at *;refine sD Tryz.func65 rfl (by kernel_rfl) (by kernel_rfl) rfl fun M0 w0=>?_;simp only [Tryz.ntmps65,Tryz.results65,aB];repeat' first|(with_reducible first|apply af|apply ae|apply aT|apply az|apply aa|refine ah [] ?_)|((with_reducible refine aw ?_ ?_);(focus (go_simp;done)))|((with_reducible refine ab fun X Y=>?_);go_simp;(first|(refine ⟨_,g1,?_⟩)|skip);refine Y _ ?_;clear Y X)
  go_simp
def sE (l:List ByteArray) (j:Nat) : Bool:=decide (20 < (tat l j).size)
def tX (s:St) (k:Nat) : Bool:=decide (14 < (qat s.q k).length) || gg (sE (qat s.q k)) 0 (qat s.q k).length
def tY (s:St) (k:Nat) : Bool:=decide (20 < (aI s.tk k).car.size)
def wh (s:St) : Bool:=decide (s.q.length≤8∧(s.tk.length≤8∨40 < s.tk.length∧s.tk.length≤42))&&!gg (tX s) 0 s.q.length&&!gg (tY s) 0 s.tk.length
theorem No (s:St) (hq:s.q.length≤9223372036854775807) (ht:s.tk.length≤9223372036854775807) : VC Tryz.prog 51 [da s] (B (wh s)):=by
 unfold wh;by_cases h8:s.q.length≤8∧(s.tk.length≤8∨40 < s.tk.length∧s.tk.length≤42)
 ·obtain ⟨h1,h2⟩:=h8;rw [decide_eq_true (show s.q.length≤8∧(s.tk.length≤8∨40 < s.tk.length∧s.tk.length≤42) from ⟨h1,h2⟩),Bool.true_and];have h3:¬(8:Int) < (s.q.length:Int):=by omega
  have QE:¬(42:Int) < (s.tk.length:Int):=by omega
  have hb:(8:Int) < (s.tk.length:Int)→¬(s.tk.length:Int)≤40:=by omega
  have r8:s.tk.length≤42:=by omega
  obtain ⟨R1,Cc⟩ : ∃ R,gg (tX s) 0 s.q.length=R:=⟨_,rfl⟩
  obtain ⟨R2,Cd⟩ : ∃ R,gg (tY s) 0 s.tk.length=R:=⟨_,rfl⟩
  rw [Cc,Cd];have Gw:=Lib.hid Cc;have Gx:=Lib.hid Cd;have Gy:=Lib.hid h1;have Gz:=Lib.hid r8;clear h1 h2 hq ht Cc Cd r8;by_cases h5:(8:Int) < (s.tk.length:Int)
  all_goals (
   first
    | (have h6:=hb h5)
    | skip
   clear hb;refine sD Tryz.func51 rfl (by kernel_rfl) (by kernel_rfl) rfl fun M0 w0=>?_;simp only [Tryz.ntmps51,Tryz.results51,aB];repeat' first|(with_reducible first|apply af|apply ae|apply ar|apply aA|apply aa|refine ah [] ?_)|((with_reducible refine ak ?_ ?_);(focus (go_simp;done)))|((with_reducible refine ab fun X Y=>?_);go_simp;refine Y _ ?_;clear Y X)
   apply dI [1] (fun k=>[(3,I k)]) (fun k=>([] : Hp)) (tX s) (s.q.length)
   ·go_simp<;>exact rfl
   ·go_simp
   ·intro m hm HB HP K hK;have:=Gy.out;obtain ⟨w1,w2,w3,w4,w5,w6⟩:=ixs (m:=m) (by omega);have hp:=HP.out;unfold tX at hp;rw [Bool.or_eq_false_iff,decide_eq_false_iff_not] at hp;obtain ⟨lT,fX⟩:=hp;have xS:¬(14:Int) < ((qat s.q m).length:Int):=by omega
    have eB:=Lib.hid fX;have zb:=Lib.hid lT;clear lT fX this;repeat' first|(with_reducible first|apply af|apply ae|apply ar|apply aA|apply aa|refine ah [] ?_)|((with_reducible refine aw ?_ ?_);(focus (go_simp;done)))|((with_reducible refine ak ?_ ?_);(focus (go_simp;done)))|((with_reducible refine ab fun X Y=>?_);go_simp;refine Y _ ?_;clear Y X)
    apply dI [1,3] (fun k=>[(4,I k)]) (fun k=>([] : Hp)) (sE (qat s.q m)) ((qat s.q m).length)
    ·go_simp<;>exact rfl
    ·go_simp
    ·intro j hj dz sF K2 fG;have:=zb.out;obtain ⟨x1,x2,x3,x4,x5,x6⟩:=ixs (m:=j) (by omega);have my:=sF.out;rw [sE,decide_eq_false_iff_not,dE hj] at my;have GA:¬(20:Int) < ((qat s.q m)[j].size:Int):=by omega
     clear my this;repeat' first|(with_reducible first|apply af|apply ae|apply ar|apply aA|apply bf|apply aa|refine ah [] ?_)|((with_reducible refine aw ?_ ?_);(focus (go_simp;done)))|((with_reducible refine ak ?_ ?_);(focus (go_simp;done)))|((with_reducible refine ab fun X Y=>?_);go_simp;refine Y _ ?_;clear Y X)
     refine fG _ ?_;go_simp
    ·intro j hj dz sF K2;have h:=eB.out;rw [mh hj sF.out] at h;cases h
    ·intro dz K2;repeat' first|(with_reducible first|apply af|apply ae|apply bP|apply bQ|apply bf|apply bT|apply aa|refine ah [] ?_)|((with_reducible refine ak ?_ ?_);(focus (go_simp;done)))|((with_reducible refine ab fun X Y=>?_);go_simp;refine Y _ ?_;clear Y X)
     refine hK _ ?_;go_simp
   ·intro m hm HB HP K;have:=Gy.out;obtain ⟨w1,w2,w3,w4,w5,w6⟩:=ixs (m:=m) (by omega);have e:=Gw.out;rw [mh hm HP.out] at e;subst e;rw [Bool.not_true,Bool.false_and];have hp:=HP.out;unfold tX at hp;by_cases lT:14 < (qat s.q m).length
    ·have xS:(14:Int) < ((qat s.q m).length:Int):=by omega
     clear hp lT this;repeat' first|(with_reducible first|apply af|apply ae|apply aT|apply az|apply ar|apply aA|apply cG|apply aa|refine ah [] ?_)|((with_reducible refine aw ?_ ?_);(focus (go_simp;done)))|((with_reducible refine ab fun X Y=>?_);go_simp;refine Y _ ?_;clear Y X)
     go_simp
    ·rw [decide_eq_false lT,Bool.false_or] at hp;have xS:¬(14:Int) < ((qat s.q m).length:Int):=by omega
     have eB:=Lib.hid hp;have zb:=Lib.hid lT;clear hp lT this;repeat' first|(with_reducible first|apply af|apply ae|apply ar|apply aA|apply aa|refine ah [] ?_)|((with_reducible refine aw ?_ ?_);(focus (go_simp;done)))|((with_reducible refine ak ?_ ?_);(focus (go_simp;done)))|((with_reducible refine ab fun X Y=>?_);go_simp;refine Y _ ?_;clear Y X)
     apply dI [1,3] (fun k=>[(4,I k)]) (fun k=>([] : Hp)) (sE (qat s.q m)) ((qat s.q m).length)
     ·go_simp<;>exact rfl
     ·go_simp
     ·intro j hj dz sF K2 fG;have:=zb.out;obtain ⟨x1,x2,x3,x4,x5,x6⟩:=ixs (m:=j) (by omega);have my:=sF.out;rw [sE,decide_eq_false_iff_not,dE hj] at my;have GA:¬(20:Int) < ((qat s.q m)[j].size:Int):=by omega
      clear my this;repeat' first|(with_reducible first|apply af|apply ae|apply ar|apply aA|apply bf|apply aa|refine ah [] ?_)|((with_reducible refine aw ?_ ?_);(focus (go_simp;done)))|((with_reducible refine ak ?_ ?_);(focus (go_simp;done)))|((with_reducible refine ab fun X Y=>?_);go_simp;refine Y _ ?_;clear Y X)
      refine fG _ ?_;go_simp
     ·intro j hj dz sF K2;have:=zb.out;obtain ⟨x1,x2,x3,x4,x5,x6⟩:=ixs (m:=j) (by omega);have my:=sF.out;rw [sE,decide_eq_true_eq,dE hj] at my;have GA:(20:Int) < ((qat s.q m)[j].size:Int):=by omega
      clear my this;repeat' first|(with_reducible first|apply af|apply ae|apply aT|apply az|apply ar|apply aA|apply cG|apply aa|refine ah [] ?_)|((with_reducible refine aw ?_ ?_);(focus (go_simp;done)))|((with_reducible refine ab fun X Y=>?_);go_simp;refine Y _ ?_;clear Y X)
      go_simp
     ·intro dz K2;have h:=eB.out;rw [oo dz.out] at h;cases h
   ·intro HB K;have e:=Gw.out;rw [oo HB.out] at e;subst e;rw [Bool.not_false,Bool.true_and];repeat' first|(with_reducible first|apply af|apply ae|apply bP|apply bQ|apply aA|apply bT|apply aa|refine ah [] ?_)|((with_reducible refine ak ?_ ?_);(focus (go_simp;done)))|((with_reducible refine ab fun X Y=>?_);go_simp;refine Y _ ?_;clear Y X)
    apply dI [1] (fun k=>[(5,I k)]) (fun k=>([] : Hp)) (tY s) (s.tk.length)
    ·go_simp<;>exact rfl
    ·go_simp
    ·intro k hk dz HP K2 hK;have:=Gz.out;obtain ⟨w1,w2,w3,w4,w5,w6⟩:=ixs (m:=k) (by omega);have hp:=HP.out;rw [tY,decide_eq_false_iff_not] at hp;have fX:¬(20:Int) < ((aI s.tk k).car.size:Int):=by omega
     clear hp this;repeat' first|(with_reducible first|apply af|apply ae|apply ar|apply aA|apply bf|apply aa|refine ah [] ?_)|((with_reducible refine aw ?_ ?_);(focus (go_simp;done)))|((with_reducible refine ak ?_ ?_);(focus (go_simp;done)))|((with_reducible refine ab fun X Y=>?_);go_simp;refine Y _ ?_;clear Y X)
     refine hK _ ?_;go_simp
    ·intro k hk dz HP K2;have:=Gz.out;obtain ⟨w1,w2,w3,w4,w5,w6⟩:=ixs (m:=k) (by omega);have hp:=HP.out;rw [tY,decide_eq_true_eq] at hp;have fX:(20:Int) < ((aI s.tk k).car.size:Int):=by omega
     have e:=Gx.out;rw [mh hk HP.out] at e;subst e;clear hp this;repeat' first|(with_reducible first|apply af|apply ae|apply aT|apply az|apply ar|apply aA|apply cG|apply aa|refine ah [] ?_)|((with_reducible refine aw ?_ ?_);(focus (go_simp;done)))|((with_reducible refine ab fun X Y=>?_);go_simp;refine Y _ ?_;clear Y X)
     go_simp
    ·intro dz K2;have e:=Gx.out;rw [oo dz.out] at e;subst e;repeat' first|(with_reducible first|apply af|apply ae|apply bP|apply az|apply bQ|apply bT|apply aa|refine ah [] ?_)|((with_reducible refine ak ?_ ?_);(focus (go_simp;done)))|((with_reducible refine ab fun X Y=>?_);go_simp;refine Y _ ?_;clear Y X)
     go_simp)
 ·rw [decide_eq_false h8,Bool.false_and,Bool.false_and];by_cases h1:(8:Int) < (s.q.length:Int)
  ·clear h8 hq ht;refine sD Tryz.func51 rfl (by kernel_rfl) (by kernel_rfl) rfl fun M0 w0=>?_;simp only [Tryz.ntmps51,Tryz.results51,aB];repeat' first|(with_reducible first|apply af|apply ae|apply aT|apply az|apply aa|refine ah [] ?_)|((with_reducible refine aw ?_ ?_);(focus (go_simp;done)))|((with_reducible refine ab fun X Y=>?_);go_simp;refine Y _ ?_;clear Y X)
   go_simp
  ·by_cases h2:(42:Int) < (s.tk.length:Int)
   ·have h3:(8:Int) < (s.tk.length:Int):=by omega
    have h4:¬(s.tk.length:Int)≤40:=by omega
    clear h8 hq ht;refine sD Tryz.func51 rfl (by kernel_rfl) (by kernel_rfl) rfl fun M0 w0=>?_;simp only [Tryz.ntmps51,Tryz.results51,aB];repeat' first|(with_reducible first|apply af|apply ae|apply aT|apply az|apply aa|refine ah [] ?_)|((with_reducible refine aw ?_ ?_);(focus (go_simp;done)))|((with_reducible refine ab fun X Y=>?_);go_simp;refine Y _ ?_;clear Y X)
    go_simp
   ·have h3:(8:Int) < (s.tk.length:Int):=by omega
    have h4:(s.tk.length:Int)≤40:=by omega
    clear h8 hq ht;refine sD Tryz.func51 rfl (by kernel_rfl) (by kernel_rfl) rfl fun M0 w0=>?_;simp only [Tryz.ntmps51,Tryz.results51,aB];repeat' first|(with_reducible first|apply af|apply ae|apply aT|apply az|apply aa|refine ah [] ?_)|((with_reducible refine aw ?_ ?_);(focus (go_simp;done)))|((with_reducible refine ab fun X Y=>?_);go_simp;refine Y _ ?_;clear Y X)
    go_simp
theorem Np {s:St} (h:wh s=true) (ht:∀ t∈s.tk,i64 t.rank∧i64 t.time) (hm:i64 s.time) : SmallS s:=by
 unfold wh at h;simp only [Bool.and_eq_true,decide_eq_true_eq,Bool.not_eq_true'] at h;obtain ⟨⟨⟨h1,h2⟩,h3⟩,h4⟩:=h;have bm:∀ {p:Nat→Bool} {n:Nat},gg p 0 n=false→∀ k,k < n→p k=false:=fun {p n} hp k hk=>by
  cases hb:p k
  ·rfl
  ·rw [mh hk hb] at hp;cases hp
 refine ⟨by omega,fun l hl=>?_,by omega,fun t mC=>?_,hm⟩
 ·obtain ⟨k,hk,rfl⟩:=List.getElem_of_mem hl;have hq:=bm h3 k hk;unfold tX at hq;rw [eM hk,Bool.or_eq_false_iff,decide_eq_false_iff_not] at hq;refine ⟨by omega,fun c hc=>?_⟩;obtain ⟨j,hj,rfl⟩:=List.getElem_of_mem hc;have:=bm hq.2 j hj;rw [sE,decide_eq_false_iff_not,dE hj] at this;omega
 ·obtain ⟨k,hk,rfl⟩:=List.getElem_of_mem mC;have:=bm h4 k hk;rw [tY,decide_eq_false_iff_not,gb hk] at this;exact ⟨by omega,ht _ mC⟩
end Go.Proofs.YtoibondihdhnoaaGreatDoor
