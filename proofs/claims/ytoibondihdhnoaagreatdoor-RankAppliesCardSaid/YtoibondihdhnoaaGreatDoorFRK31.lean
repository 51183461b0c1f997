/- Texts in one: Walks: which rules are right. -/
import Derived.Test.YtoibondihdhnoaaGreatDoorFRK9
import Derived.Test.YtoibondihdhnoaaGreatDoorFRK29
import Derived.Test.YtoibondihdhnoaaGreatDoorFRK30
namespace Go.Proofs.YtoibondihdhnoaaGreatDoor
open Go.RowKit
set_option maxRecDepth 100000
set_option maxHeartbeats 2000000
theorem yh (p:Nat→Bool) (n:Nat) : decide (0≤ixP p 0 n)=gg p 0 n:=by
 rcases rm p n with ⟨h,hn⟩|⟨k,hk,h,hp,_⟩
 ·rw [h,oo hn];rfl
 ·rw [h,mh hk hp];exact decide_eq_true (by omega)
theorem EV {p p':Nat→Bool} : ∀ {n k:Nat},(∀ j,k≤j→j < k+n→p j=p' j)→ixP p k n=ixP p' k n
 | 0,_,_=>rfl
 | n+1,k,h=>by
  rw [ixP,ixP,h k (Nat.le_refl k) (by omega),EV fun j h1 h2=>h j (by omega) (by omega)]
theorem Ka (f:Nat) (y:Rk) (p:Rk→Bool) (hc:∀ x:Rk,VC Tryz.prog f [.agg [S x.name,I x.places,I x.feeder,B x.called],.vp [S y.name,I y.places,I y.feeder,B y.called]] (B (p x))) (l:List Rk) (hl:l.length≤1000000) :
  VC Tryz.prog 137 [.sl 4 (l.map Rk.av),.fn (.func f) [] [.vp [S y.name,I y.places,I y.feeder,B y.called]]] (I (ixP (fun j=>p (rat l j)) 0 l.length)):=by
 obtain ⟨R,hR⟩ : ∃ R,ixP (fun j=>p (rat l j)) 0 l.length=R:=⟨_,rfl⟩
 rw [hR];have HR:=Lib.hid hR;have HC:=Lib.hid hc;clear hR hc;refine aQ Tryz.func137 rfl (by kernel_rfl) rfl fun M0 w0=>?_;simp only [Tryz.ntmps137,Tryz.results137,aB];repeat' with_reducible first|apply af|apply ae|apply aA|apply aa|refine ah [] ?_|(apply ab;intro X Y;go_simp;apply Y;clear Y X)
 apply dI [0,1,7] (fun k=>[(8,I k)]) (fun k=>([] : Hp)) (fun j=>p (rat l j)) (l.length)
 ·go_simp<;>exact rfl
 ·go_simp
 ·intro k hk HB HP K hK;obtain ⟨w1,w2,w3,w4,w5,w6⟩:=ixs (m:=k) (by omega);have g:=HC.out (rat l k);have hp:=HP.out;rw [hp] at g;clear hp;repeat' first|(with_reducible first|apply af|apply ae|apply ar|apply aA|apply bf|apply aa|refine ah [] ?_|(apply aw;·go_simp)|(apply ak;·go_simp))|((with_reducible apply ab);intro X Y;go_simp;(first|(refine ⟨_,g,?_⟩)|skip);apply Y;clear Y X)
  refine hK _ ?_;go_simp
 ·intro k hk HB HP K;have g:=HC.out (rat l k);have hp:=HP.out;rw [hp] at g;clear hp;have e:=HR.out;rw [kr hk HB.out HP.out] at e;subst e;repeat' first|(with_reducible first|apply af|apply ae|apply aT|apply az|apply ar|apply aA|apply cG|apply aa|refine ah [] ?_|(apply aw;·go_simp))|((with_reducible apply ab);intro X Y;go_simp;(first|(refine ⟨_,g,?_⟩)|skip);apply Y;clear Y X)
  go_simp
 ·intro HB K;have e:=HR.out;rw [ll HB.out] at e;subst e;repeat (with_reducible first|apply af|apply ae|apply bP|apply az|apply bQ|apply bT|apply aa|refine ah [] ?_|(apply ak;·go_simp)|(apply ab;intro X Y;go_simp;apply Y;clear Y X))
  go_simp
theorem yi (f:Nat) (y:Rk) (p:Rk→Bool) (hc:∀ x:Rk,VC Tryz.prog f [.agg [S x.name,I x.places,I x.feeder,B x.called],.vp [S y.name,I y.places,I y.feeder,B y.called]] (B (p x))) (l:List Rk) (i:Nat) (hi:i < l.length) (hl:l.length≤1000000) :
  VC Tryz.prog 96 [.sl 4 ((l.map Rk.av).take i),.fn (.func f) [] [.vp [S y.name,I y.places,I y.feeder,B y.called]]] (B (gg (fun j=>p (rat l j)) 0 i)):=by
 have g:=Ka f y p hc (l.take i) (by rw [List.length_take];omega);have e:ixP (fun j=>p (rat (l.take i) j)) 0 (l.take i).length=ixP (fun j=>p (rat l j)) 0 i:=by
  rw [List.length_take,Nat.min_eq_left (by omega)];refine EV fun j _ hj=>?_;unfold rat;rw [List.getD_eq_getElem?_getD,List.getElem?_take_of_lt (by omega),List.getD_eq_getElem?_getD]
 rw [e,List.map_take] at g;rw [←yh];generalize ixP (fun j=>p (rat l j)) 0 i=R at *;generalize List.take i (List.map Rk.av l)=T at *;refine aQ Tryz.func96 rfl (by kernel_rfl) rfl fun M0 w0=>?_;simp only [Tryz.ntmps96,Tryz.results96,aB];repeat' first|(with_reducible first|apply af|apply ae|apply az|apply aa|refine ah [] ?_)|((with_reducible apply ab);intro X Y;go_simp;(first|(refine ⟨_,g,?_⟩)|skip);apply Y;clear Y X)
 go_simp
theorem EW (x:Rk) (y:Rk) : VC Tryz.prog 97 [.agg [S x.name,I x.places,I x.feeder,B x.called],.vp [S y.name,I y.places,I y.feeder,B y.called]] (B (decide (x.name=y.name))):=by
 refine aQ Tryz.func97 rfl (by kernel_rfl) rfl fun M0 w0=>?_;simp only [Tryz.ntmps97,Tryz.results97,aB];repeat' with_reducible first|apply af|apply ae|apply az|apply aa|refine ah [] ?_|(apply ab;intro X Y;go_simp;apply Y;clear Y X)
 go_simp
theorem EX (x:Rk) (y:Rk) : VC Tryz.prog 98 [.agg [S x.name,I x.places,I x.feeder,B x.called],.vp [S y.name,I y.places,I y.feeder,B y.called]] (B (decide (x.feeder=y.feeder))):=by
 refine aQ Tryz.func98 rfl (by kernel_rfl) rfl fun M0 w0=>?_;simp only [Tryz.ntmps98,Tryz.results98,aB];repeat' with_reducible first|apply af|apply ae|apply az|apply aa|refine ah [] ?_|(apply ab;intro X Y;go_simp;apply Y;clear Y X)
 go_simp
theorem EY {E:Nat→Int} : ∀ (n k i:Nat),k≤i→i < k+n→(∀ j,k≤j→j < i→E j=0)→E i≠0→kE E k n=(i,E i)
 | 0,k,i,h1,h2,_,_=>by omega
 | n+1,k,i,h1,h2,hb,hp=>by
  rw [kE];by_cases he:k=i
  ·subst he;rw [if_pos hp]
  ·rw [if_neg (by simp [hb k (Nat.le_refl k) (by omega)])];exact EY n (k+1) i (by omega) (by omega) (fun j h3 h4=>hb j (by omega) h4) hp
theorem Ba {E:Nat→Int} {k n:Nat} (hk:k < n) (hb:∀ j,j < k→(!decide (E j=0))=false) (hp:(!decide (E k=0))=true) : kE E 0 n=(k,E k):=EY n 0 k (Nat.zero_le k) (by omega) (fun j _ h=>by simpa using hb j h) (by simpa using hp)
theorem yj {E:Nat→Int} : ∀ (n k:Nat),(∀ j,j < k+n→(!decide (E j=0))=false)→kE E k n=(0,0)
 | 0,_,_=>rfl
 | n+1,k,h=>by
  rw [kE,if_neg (by simpa using h k (by omega))];exact yj n (k+1) fun j hj=>h j (by omega)
theorem Kb (r:Ru) : VC Tryz.prog 89 [B ((decide (r.back = -1) || inR r.back 0 12)&&inR r.ret 0 3600),I 2] (I (r9 r)):=bH _ 2
theorem Kc (r:Ru) (hn:r.ranks.length≤1000000) (ch:∀ k,k < r.ranks.length→(rat r.ranks k).name.size≤1000) : VC Tryz.prog 36 [b8 r] (.tup [I ((di r).1:Int),I (di r).2]):=by
 have u1:=bH (decide (0 < r.ranks.length)) 10;have u2:=bH (decide (r.ranks.length≤6)) 8;have g5:VC Tryz.prog 88 [.sl 1 ([unl (decide (0 < r.ranks.length)) 10,unl (decide (r.ranks.length≤6)) 8].map dN)] (I (fst [unl (decide (0 < r.ranks.length)) 10,unl (decide (r.ranks.length≤6)) 8])):=eX _ rfl rfl;unfold di;by_cases h0:r.ranks.length=0
 ·rw [if_pos h0];have d1:decide (0 < r.ranks.length)=false:=decide_eq_false (by omega);have d2:decide (r.ranks.length≤6)=true:=decide_eq_true (by omega);rw [d1] at u1 g5;rw [d2] at u2 g5;have e:fst [unl false 10,unl true 8]=10:=rfl;rw [e] at g5;generalize unl false 10=A1 at *;generalize unl true 8=A2 at *;clear d1 d2 e;refine aQ Tryz.func36 rfl (by kernel_rfl) rfl fun M0 w0=>?_;simp only [Tryz.ntmps36,Tryz.results36,aB];repeat' first|(with_reducible first|apply af|apply ae|apply aT|apply az|apply aa|refine ah [] ?_|(apply aw;·go_simp))|((with_reducible apply ab);intro X Y;go_simp;(first|(with_reducible refine ⟨_,u1,?_⟩)|(with_reducible refine ⟨_,u2,?_⟩)|(refine ⟨_,g5,?_⟩)|skip);apply Y;clear Y X)
  go_simp
 rw [if_neg h0];by_cases h6:6 < r.ranks.length
 ·rw [if_pos h6];have d1:decide (0 < r.ranks.length)=true:=decide_eq_true (by omega);have d2:decide (r.ranks.length≤6)=false:=decide_eq_false (by omega);rw [d1] at u1 g5;rw [d2] at u2 g5;have e:fst [unl true 10,unl false 8]=8:=rfl;rw [e] at g5;generalize unl true 10=A1 at *;generalize unl false 8=A2 at *;have h7:0 < r.ranks.length:=by omega
  have h8:¬r.ranks.length≤6:=by omega
  have h9:¬(r.ranks.length:Int)≤6:=by omega
  clear d1 d2 e;refine aQ Tryz.func36 rfl (by kernel_rfl) rfl fun M0 w0=>?_;simp only [Tryz.ntmps36,Tryz.results36,aB];repeat' first|(with_reducible first|apply af|apply ae|apply aT|apply az|apply aa|refine ah [] ?_|(apply aw;·go_simp))|((with_reducible apply ab);intro X Y;go_simp;(first|(with_reducible refine ⟨_,u1,?_⟩)|(with_reducible refine ⟨_,u2,?_⟩)|(refine ⟨_,g5,?_⟩)|skip);apply Y;clear Y X)
  go_simp
 rw [if_neg h6];have d1:decide (0 < r.ranks.length)=true:=decide_eq_true (by omega);have d2:decide (r.ranks.length≤6)=true:=decide_eq_true (by omega);rw [d1] at u1 g5;rw [d2] at u2 g5;have e:fst [unl true 10,unl true 8]=0:=rfl;rw [e] at g5;generalize unl true 10=A1 at *;generalize unl true 8=A2 at *;have h7:0 < r.ranks.length:=by omega
 have h8:r.ranks.length≤6:=by omega
 have h9:(r.ranks.length:Int)≤6:=by omega
 obtain ⟨R,hR⟩ : ∃ R,(if (kE (rkE r) 0 r.ranks.length).2≠0 then kE (rkE r) 0 r.ranks.length else (0,r9 r))=R:=⟨_,rfl⟩
 rw [hR];have HR:=Lib.hid hR;have HM:=Lib.hid ch;have HE:=Lib.hid (Kb r);clear d1 d2 e h0 h6 hR ch;refine aQ Tryz.func36 rfl (by kernel_rfl) rfl fun M0 w0=>?_;simp only [Tryz.ntmps36,Tryz.results36,aB];repeat' first|(with_reducible first|apply af|apply ae|apply ar|apply aA|apply aa|refine ah [] ?_|(apply ak;·go_simp))|((with_reducible apply ab);intro X Y;go_simp;(first|(with_reducible refine ⟨_,u1,?_⟩)|(with_reducible refine ⟨_,u2,?_⟩)|(refine ⟨_,g5,?_⟩)|skip);apply Y;clear Y X)
 apply dI [1,4,26,27] (fun k=>[(28,I k)]) (fun k=>([] : Hp)) (fun k=>!decide (rkE r k=0)) (r.ranks.length)
 ·go_simp<;>exact rfl
 ·go_simp
 ·intro k hk HB HP K hK;obtain ⟨w1,w2,w3,w4,w5,w6⟩:=ixs (m:=k) (by omega);have cN:k≤r.ranks.length:=by omega
  have oH:(k:Int)≤(r.ranks.length:Int):=by omega
  have Ke:IntKind.i64.wrap ((r.ranks.length:Int) - 1)=(r.ranks.length:Int) - 1:=gZ (by omega) (by omega);have i1:=ri (rat r.ranks k).name (HM.out k hk);have i2:=yi 97 (rat r.ranks k) _ (fun x=>EW x (rat r.ranks k)) r.ranks k hk hn;have i3:=kq (rat r.ranks k).places 1 12;have i4:=kq (rat r.ranks k).feeder 0 ((r.ranks.length:Int) - 1);have i5:=yi 98 (rat r.ranks k) _ (fun x=>EX x (rat r.ranks k)) r.ranks k hk hn;have u1:=bH (cI (rat r.ranks k).name) 4;have u2:=bH (!nC r k) 5;have u3:=bH (inR (rat r.ranks k).places 1 12) 2;have u4:=bH (!fS r k || inR (rat r.ranks k).feeder 0 ((r.ranks.length:Int) - 1)) 6;have u5:=bH (!fS r k || decide ((k:Int) < (rat r.ranks k).feeder)) 9;have u6:=bH (!fS r k || !lZ r k) 26;have u7:=bH (fS r k || !(rat r.ranks k).called) 3;have g7:VC Tryz.prog 88 [.sl 1 ([unl (cI (rat r.ranks k).name) 4,unl (!nC r k) 5,unl (inR (rat r.ranks k).places 1 12) 2,unl (!fS r k || inR (rat r.ranks k).feeder 0 ((r.ranks.length:Int) - 1)) 6,
   unl (!fS r k || decide ((k:Int) < (rat r.ranks k).feeder)) 9,unl (!fS r k || !lZ r k) 26,unl (fS r k || !(rat r.ranks k).called) 3].map dN)] (I (rkE r k)):=eX _ rfl rfl
  change VC _ _ _ (B (nC r k)) at i2;change VC _ _ _ (B (lZ r k)) at i5;have hp:=HP.out;have he:rkE r k=0:=by simpa using hp
  rw [he] at g7;clear hp he;generalize rkE r k=E at *;generalize cI (rat r.ranks k).name=D1 at *;generalize nC r k=D2 at *;generalize inR (rat r.ranks k).places 1 12=D3 at *;generalize inR (rat r.ranks k).feeder 0 ((r.ranks.length:Int) - 1)=D4 at *;generalize lZ r k=D6 at *;generalize unl D1 4=A1 at *;generalize unl (!D2) 5=A2 at *;generalize unl D3 2=A3 at *;unfold fS at *;by_cases hf:(rat r.ranks k).feeder = -1
  ·have ed:(!decide ((rat r.ranks k).feeder = -1))=false:=by simp [hf]
   rw [ed,Bool.not_false,Bool.true_or] at u4 u5 u6;rw [ed,Bool.false_or] at u7;rw [ed,Bool.not_false,Bool.true_or,Bool.true_or,Bool.true_or,Bool.false_or] at g7;generalize unl true 6=A4 at *;generalize unl true 9=A5 at *;generalize unl true 26=A6 at *;generalize unl (!(rat r.ranks k).called) 3=A7 at *;clear ed;rw [hf] at i2;repeat' with_reducible first|apply af|apply ae|apply ar|apply aA|apply aa|refine ah [] ?_|(apply aw;·go_simp)|(apply ab;intro X Y;go_simp;apply Y;clear Y X)
   refine bg 51 51 [] rfl (by kernel_rfl) ?_;simp only [ax];repeat' first|(with_reducible first|apply af|apply ae|apply ar|apply bf|apply aa|refine ah [] ?_|apply aR|(apply ak;·go_simp))|((with_reducible first|apply ab|apply aS);intro X Y;go_simp;(first|(with_reducible refine ⟨_,i1,?_⟩)|(refine ⟨_,⟨i2,rfl⟩,?_⟩)|(with_reducible refine ⟨_,i3,?_⟩)|(with_reducible refine ⟨_,u1,?_⟩)|(with_reducible refine ⟨_,u2,?_⟩)|(with_reducible refine ⟨_,u3,?_⟩)|(with_reducible refine ⟨_,u4,?_⟩)|(with_reducible refine ⟨_,u5,?_⟩)|(with_reducible refine ⟨_,u6,?_⟩)|(with_reducible refine ⟨_,u7,?_⟩)|(refine ⟨_,g7,?_⟩)|skip);apply Y;clear Y X)
   refine hK _ ?_;go_simp
  ·have ed:(!decide ((rat r.ranks k).feeder = -1))=true:=by simp [hf]
   rw [ed,Bool.not_true,Bool.false_or] at u4 u5 u6;rw [ed,Bool.true_or] at u7;rw [ed,Bool.not_true,Bool.false_or,Bool.false_or,Bool.false_or,Bool.true_or] at g7;generalize unl D4 6=A4 at *;generalize unl (decide ((k:Int) < (rat r.ranks k).feeder)) 9=A5 at *;generalize unl (!D6) 26=A6 at *;generalize unl true 3=A7 at *;clear ed;repeat' with_reducible first|apply af|apply ae|apply ar|apply aA|apply aa|refine ah [] ?_|(apply aw;·go_simp)|(apply ab;intro X Y;go_simp;apply Y;clear Y X)
   refine bg 51 51 [] rfl (by kernel_rfl) ?_;simp only [ax];repeat' first|(with_reducible first|apply af|apply ae|apply ar|apply bf|apply aa|refine ah [] ?_|apply aR|(apply ak;·go_simp))|((with_reducible first|apply ab|apply aS);intro X Y;go_simp;(first|(with_reducible refine ⟨_,i1,?_⟩)|(refine ⟨_,⟨i2,rfl⟩,?_⟩)|(with_reducible refine ⟨_,i3,?_⟩)|(with_reducible refine ⟨_,i4,?_⟩)|(refine ⟨_,⟨i5,rfl⟩,?_⟩)|(with_reducible refine ⟨_,u1,?_⟩)|(with_reducible refine ⟨_,u2,?_⟩)|(with_reducible refine ⟨_,u3,?_⟩)|(with_reducible refine ⟨_,u4,?_⟩)|(with_reducible refine ⟨_,u5,?_⟩)|(with_reducible refine ⟨_,u6,?_⟩)|(with_reducible refine ⟨_,u7,?_⟩)|(refine ⟨_,g7,?_⟩)|skip);apply Y;clear Y X)
   refine hK _ ?_;go_simp
 ·intro k hk HB HP K;obtain ⟨w1,w2,w3,w4,w5,w6⟩:=ixs (m:=k) (by omega);have cN:k≤r.ranks.length:=by omega
  have oH:(k:Int)≤(r.ranks.length:Int):=by omega
  have Ke:IntKind.i64.wrap ((r.ranks.length:Int) - 1)=(r.ranks.length:Int) - 1:=gZ (by omega) (by omega);have i1:=ri (rat r.ranks k).name (HM.out k hk);have i2:=yi 97 (rat r.ranks k) _ (fun x=>EW x (rat r.ranks k)) r.ranks k hk hn;have i3:=kq (rat r.ranks k).places 1 12;have i4:=kq (rat r.ranks k).feeder 0 ((r.ranks.length:Int) - 1);have i5:=yi 98 (rat r.ranks k) _ (fun x=>EX x (rat r.ranks k)) r.ranks k hk hn;have u1:=bH (cI (rat r.ranks k).name) 4;have u2:=bH (!nC r k) 5;have u3:=bH (inR (rat r.ranks k).places 1 12) 2;have u4:=bH (!fS r k || inR (rat r.ranks k).feeder 0 ((r.ranks.length:Int) - 1)) 6;have u5:=bH (!fS r k || decide ((k:Int) < (rat r.ranks k).feeder)) 9;have u6:=bH (!fS r k || !lZ r k) 26;have u7:=bH (fS r k || !(rat r.ranks k).called) 3;have g7:VC Tryz.prog 88 [.sl 1 ([unl (cI (rat r.ranks k).name) 4,unl (!nC r k) 5,unl (inR (rat r.ranks k).places 1 12) 2,unl (!fS r k || inR (rat r.ranks k).feeder 0 ((r.ranks.length:Int) - 1)) 6,
   unl (!fS r k || decide ((k:Int) < (rat r.ranks k).feeder)) 9,unl (!fS r k || !lZ r k) 26,unl (fS r k || !(rat r.ranks k).called) 3].map dN)] (I (rkE r k)):=eX _ rfl rfl
  change VC _ _ _ (B (nC r k)) at i2;change VC _ _ _ (B (lZ r k)) at i5;have hp:=HP.out;have e:=HR.out;rw [Ba hk HB.out HP.out] at e;have au:rkE r k≠0:=by simpa using hp
  rw [if_pos au] at e;subst e;clear hp;generalize rkE r k=E at *;generalize cI (rat r.ranks k).name=D1 at *;generalize nC r k=D2 at *;generalize inR (rat r.ranks k).places 1 12=D3 at *;generalize inR (rat r.ranks k).feeder 0 ((r.ranks.length:Int) - 1)=D4 at *;generalize lZ r k=D6 at *;generalize unl D1 4=A1 at *;generalize unl (!D2) 5=A2 at *;generalize unl D3 2=A3 at *;unfold fS at *;by_cases hf:(rat r.ranks k).feeder = -1
  ·have ed:(!decide ((rat r.ranks k).feeder = -1))=false:=by simp [hf]
   rw [ed,Bool.not_false,Bool.true_or] at u4 u5 u6;rw [ed,Bool.false_or] at u7;rw [ed,Bool.not_false,Bool.true_or,Bool.true_or,Bool.true_or,Bool.false_or] at g7;generalize unl true 6=A4 at *;generalize unl true 9=A5 at *;generalize unl true 26=A6 at *;generalize unl (!(rat r.ranks k).called) 3=A7 at *;clear ed;rw [hf] at i2;repeat' with_reducible first|apply af|apply ae|apply ar|apply aA|apply aa|refine ah [] ?_|(apply aw;·go_simp)|(apply ab;intro X Y;go_simp;apply Y;clear Y X)
   refine bg 51 51 [] rfl (by kernel_rfl) ?_;simp only [ax];repeat' first|(with_reducible first|apply af|apply ae|apply aT|apply az|apply cG|apply aa|refine ah [] ?_|apply aR|(apply aw;·go_simp))|((with_reducible first|apply ab|apply aS);intro X Y;go_simp;(first|(with_reducible refine ⟨_,i1,?_⟩)|(refine ⟨_,⟨i2,rfl⟩,?_⟩)|(with_reducible refine ⟨_,i3,?_⟩)|(with_reducible refine ⟨_,u1,?_⟩)|(with_reducible refine ⟨_,u2,?_⟩)|(with_reducible refine ⟨_,u3,?_⟩)|(with_reducible refine ⟨_,u4,?_⟩)|(with_reducible refine ⟨_,u5,?_⟩)|(with_reducible refine ⟨_,u6,?_⟩)|(with_reducible refine ⟨_,u7,?_⟩)|(refine ⟨_,g7,?_⟩)|skip);apply Y;clear Y X)
   go_simp
  ·have ed:(!decide ((rat r.ranks k).feeder = -1))=true:=by simp [hf]
   rw [ed,Bool.not_true,Bool.false_or] at u4 u5 u6;rw [ed,Bool.true_or] at u7;rw [ed,Bool.not_true,Bool.false_or,Bool.false_or,Bool.false_or,Bool.true_or] at g7;generalize unl D4 6=A4 at *;generalize unl (decide ((k:Int) < (rat r.ranks k).feeder)) 9=A5 at *;generalize unl (!D6) 26=A6 at *;generalize unl true 3=A7 at *;clear ed;repeat' with_reducible first|apply af|apply ae|apply ar|apply aA|apply aa|refine ah [] ?_|(apply aw;·go_simp)|(apply ab;intro X Y;go_simp;apply Y;clear Y X)
   refine bg 51 51 [] rfl (by kernel_rfl) ?_;simp only [ax];repeat' first|(with_reducible first|apply af|apply ae|apply aT|apply az|apply cG|apply aa|refine ah [] ?_|apply aR|(apply aw;·go_simp))|((with_reducible first|apply ab|apply aS);intro X Y;go_simp;(first|(with_reducible refine ⟨_,i1,?_⟩)|(refine ⟨_,⟨i2,rfl⟩,?_⟩)|(with_reducible refine ⟨_,i3,?_⟩)|(with_reducible refine ⟨_,i4,?_⟩)|(refine ⟨_,⟨i5,rfl⟩,?_⟩)|(with_reducible refine ⟨_,u1,?_⟩)|(with_reducible refine ⟨_,u2,?_⟩)|(with_reducible refine ⟨_,u3,?_⟩)|(with_reducible refine ⟨_,u4,?_⟩)|(with_reducible refine ⟨_,u5,?_⟩)|(with_reducible refine ⟨_,u6,?_⟩)|(with_reducible refine ⟨_,u7,?_⟩)|(refine ⟨_,g7,?_⟩)|skip);apply Y;clear Y X)
   go_simp
 ·intro HB K;have e:=HR.out;rw [yj r.ranks.length 0 (fun j hj=>HB.out j (by omega)),if_neg (by simp)] at e;subst e;have ge:=HE.out;generalize r9 r=E at *;have i1:=kq r.back 0 12;have i2:=kq r.ret 0 3600;generalize inR r.back 0 12=D1 at *;generalize inR r.ret 0 3600=D2 at *;by_cases hb:r.back = -1
  ·rw [decide_eq_true hb,Bool.true_or,Bool.true_and] at ge;repeat' with_reducible first|apply af|apply ae|apply bP|apply az|apply bQ|apply bT|apply aa|refine ah [] ?_|(apply ak;·go_simp)|(apply ab;intro X Y;go_simp;(first|(refine ⟨_,i2,?_⟩)|(refine ⟨_,ge,?_⟩)|skip);apply Y;clear Y X)
   all_goals go_simp
  ·rw [decide_eq_false hb,Bool.false_or] at ge;cases D1
   ·rw [Bool.false_and] at ge;repeat' with_reducible first|apply af|apply ae|apply bP|apply az|apply bQ|apply bT|apply aa|refine ah [] ?_|(apply ak;·go_simp)|(apply ab;intro X Y;go_simp;(first|(refine ⟨_,i1,?_⟩)|(refine ⟨_,ge,?_⟩)|skip);apply Y;clear Y X)
    all_goals go_simp
   ·rw [Bool.true_and] at ge;repeat' with_reducible first|apply af|apply ae|apply bP|apply az|apply bQ|apply bT|apply aa|refine ah [] ?_|(apply ak;·go_simp)|(apply ab;intro X Y;go_simp;(first|(refine ⟨_,i1,?_⟩)|(refine ⟨_,i2,?_⟩)|(refine ⟨_,ge,?_⟩)|skip);apply Y;clear Y X)
    all_goals go_simp
theorem qA (r:Ru) (hn:r.ranks.length≤1000000) (ch:∀ k,k < r.ranks.length→(rat r.ranks k).name.size≤1000) : VC Tryz.prog 99 [b8 r] (I (di r).2):=by
 have g:=Kc r hn ch;generalize (di r).2=E at *;generalize ((di r).1:Int)=K0 at *;refine aQ Tryz.func99 rfl (by kernel_rfl) rfl fun M0 w0=>?_;simp only [Tryz.ntmps99,Tryz.results99,aB];repeat' first|(with_reducible first|apply af|apply ae|apply az|apply aa|refine ah [] ?_)|((with_reducible apply ab);intro X Y;go_simp;(first|(refine ⟨_,g,?_⟩)|skip);apply Y;clear Y X)
 go_simp
def mG (r:Ru) (s:St) (mv:List Sg) (n1 n2:Bool) : Hp:=
 [some (.bag 62 1 false none (bo s.q)),some (.box [.osl 0,.osl 2,I s.time,.sl 4 (r.ranks.map Rk.av),I r.back,I r.ret,.osl 3]),some (.arr 148 3 n1 (s.tk.map Tk.av)),some (.arr 45 3 n2 (mv.map Sg.av))]
theorem Kf (n:Nat) : bo (List.replicate n [])=List.replicate n []:=by simp [bo]
theorem yk (r:Ru) (hn:r.ranks.length≤1000000) : VH Tryz.prog 100 [] [b8 r] [] (mG r (st0 r) [] true true) (.ref 1 0):=by
 refine dk Tryz.func100 rfl (by kernel_rfl) rfl (fun _=>by kernel_rfl) fun M0 w0 vs=>?_;simp only [Tryz.ntmps100,Tryz.results100,aB];unfold mG st0;simp only [Kf];repeat' with_reducible first|apply af|apply ae|apply aa|refine ah [] ?_|(apply ab;intro X Y;go_simp;apply Y;clear Y X)
 refine Jb 6 [10] [⟨4,7,62,[.slice none 0 0],r.ranks.length,false⟩] 5 8 [0] (.agg [.osl 0,aW,I 0]) (by kernel_rfl) ?_ ?_ (by kernel_rfl) (by kernel_rfl) (by kernel_rfl) (by go_simp) (by go_simp) ?_
 ·intro hh E o ho hE;simp only [List.getElem?_cons_succ,List.getElem?_cons_zero,Option.some.injEq] at ho;subst ho;have e1:=hE 0 (by simp) _ rfl;simp only [Mc.av,List.length_nil,Bool.false_eq_true,if_false,Nat.zero_add] at e1;simp [dJ,go_sem,e1]
 ·intro j hj hn;simp at hj hn;omega
 simp only [ax];repeat (first|(refine fb rfl ?_)|((with_reducible refine fc rfl fun X Y=>?_);go_simp;refine Y _ (by go_simp) ?_;clear Y X)|(with_reducible apply fe))
 refine ⟨by simp only [xA,mcK,List.getElem?_cons_succ,List.getElem?_cons_zero];go_simp;omega,?_⟩;simp only [mcS,mcE,Mc.ob,Mc.av,List.cons_append,List.nil_append,Bool.false_eq_true,if_false,Nat.zero_add,List.length_cons,List.length_nil];repeat ((with_reducible refine ab fun X Y=>?_);go_simp;refine Y _ ?_;clear Y X)
 apply aa;apply ae;refine ir (fun p a w R=>⟨_,R.toBag (id:=0) (sz:=1) rfl (by decide) (by kernel_rfl)⟩) ?_;go_simp;refine ir (fun p a w R=>⟨_,R.nilCell (bi:=1) (j:=1) (e:=148) (sz:=3) rfl rfl (by decide)⟩) ?_;go_simp;refine ir (fun p a w R=>⟨_,R.nilCell (bi:=1) (j:=6) (e:=45) (sz:=3) rfl rfl (by decide)⟩) ?_;go_simp;repeat' with_reducible apply az
 go_simp
theorem Kg (r:Ru) (s:St) (mv:List Sg) (a:Bool) (out:List Sg) (n:Bool) (x:Ev) (i:Int) (hm:x.kind=4→0 < mv.length) (hl:out.length+mv.length+1≤1000000000) :
  VH Tryz.prog 94 (fY r s mv a++[some (.box [.osl 4]),some (.arr 45 3 n (out.map Sg.av))]) [.ref 0 0,I i,evA x,.ref 3 0] [0,3] (fY r s mv a++[some (.box [.osl 4]),some (.arr 45 3 false ((out++iU x++mv).map Sg.av))]) (.tup []):=by
 obtain ⟨kd,tm,rk,car⟩:=x;simp only at hm;unfold iU;simp only;simp only [evA];have xc:out.length≤999999999:=by omega
 have hQ:out.length+mv.length≤1000000000:=by omega
 have gU:out.length+1+mv.length≤1000000000:=by omega
 have Qj:out.length+(1+mv.length)≤1000000000:=by omega
 have Qk:out.length+1≤1000000000:=by omega
 by_cases h4:kd=4
 ·subst h4;have oM:=hm rfl;rw [if_pos rfl,List.append_nil];clear hm;refine dk Tryz.func94 rfl (by kernel_rfl) rfl (fun _=>by kernel_rfl) fun M0 w0 vs=>?_;simp only [Tryz.ntmps94,Tryz.results94,aB];unfold fY;simp only [List.cons_append,List.nil_append];repeat' with_reducible first|apply af|apply ae|apply ar|apply aA|apply bf|apply aa|refine ah [] ?_|(apply aw;·go_simp)|(apply ab;intro X Y;go_simp;apply Y;clear Y X)
  refine qv 5 [36] 4 [] (by kernel_rfl) (by kernel_rfl) (by kernel_rfl) (by kernel_rfl) rfl ⟨rfl,rfl⟩ rfl ?_;simp only [ax];repeat' with_reducible first|apply aR|(apply aS;intro X Y;go_simp;apply Y;clear Y X)
  refine ⟨_,by go_simp,by go_simp;exact rfl,?_,?_⟩
  ·intro t ht;simp at ht
  go_simp;repeat' with_reducible first|apply aa|(apply ab;intro X Y;go_simp;apply Y;clear Y X)
  go_simp
 ·rw [if_neg h4];by_cases h5:kd=5
  ·subst h5;rw [if_pos rfl];clear hm;refine dk Tryz.func94 rfl (by kernel_rfl) rfl (fun _=>by kernel_rfl) fun M0 w0 vs=>?_;simp only [Tryz.ntmps94,Tryz.results94,aB];unfold fY;simp only [List.cons_append,List.nil_append];repeat' with_reducible first|apply af|apply ae|apply aA|apply bf|apply aa|refine ah [] ?_|(apply aw;·go_simp)|(apply ak;·go_simp)|(apply ab;intro X Y;go_simp;apply Y;clear Y X)
   refine qv 5 [36] 4 [] (by kernel_rfl) (by kernel_rfl) (by kernel_rfl) (by kernel_rfl) rfl ⟨rfl,rfl⟩ rfl ?_;simp only [ax];repeat' with_reducible first|apply aR|(apply aS;intro X Y;go_simp;apply Y;clear Y X)
   refine ⟨_,by go_simp,by go_simp;exact rfl,?_,?_⟩
   ·intro t ht;simp at ht
   go_simp;repeat' with_reducible first|apply aa|(apply ab;intro X Y;go_simp;apply Y;clear Y X)
   go_simp
  ·rw [if_neg h5];clear hm;refine dk Tryz.func94 rfl (by kernel_rfl) rfl (fun _=>by kernel_rfl) fun M0 w0 vs=>?_;simp only [Tryz.ntmps94,Tryz.results94,aB];unfold fY;simp only [List.cons_append,List.nil_append];repeat' with_reducible first|apply af|apply ae|apply aA|apply bf|apply aa|refine ah [] ?_|(apply ak;·go_simp)|(apply ab;intro X Y;go_simp;apply Y;clear Y X)
   refine qv 5 [36] 4 [] (by kernel_rfl) (by kernel_rfl) (by kernel_rfl) (by kernel_rfl) rfl ⟨rfl,rfl⟩ rfl ?_;simp only [ax];repeat' with_reducible first|apply aR|(apply aS;intro X Y;go_simp;apply Y;clear Y X)
   refine ⟨_,by go_simp,by go_simp;exact rfl,?_,?_⟩
   ·intro t ht;simp at ht
   go_simp;repeat' with_reducible first|apply aa|(apply ab;intro X Y;go_simp;apply Y;clear Y X)
   go_simp
abbrev T3:Type:=St×List Sg×Bool
def EZ (r:Ru) (t:T3) (x:Ev) (a:Bool) : Prop:=VH Tryz.prog 128 (fY r t.1 t.2.1 t.2.2) [.ref 0 0,evA x] [0] (fY r (apR r t.1 x).1 (apR r t.1 x).2 a) (I (apE r t.1 x))
open Classical in
noncomputable def apFl (r:Ru) (t:T3) (x:Ev) : Bool:=if h:∃ a,EZ r t x a then Classical.choose h else false
noncomputable def stepT (r:Ru) (t:T3) (x:Ev) : T3:=((apR r t.1 x).1,(apR r t.1 x).2,apFl r t x)
abbrev pK (r:Ru) (t:T3) : Hp:=fY r t.1 t.2.1 t.2.2
def t0 (r:Ru) : T3:=(st0 r,[],true)
theorem Bb (r:Ru) (t:T3) (x:Ev) (hr:RuOK r) (hi:Inv r t.1) (hc:x.car.size≤1000) : VH Tryz.prog 128 (pK r t) [.ref 0 0,evA x] [0] (pK r (stepT r t x)) (I (apE r t.1 x)):=by
 have h:∃ a,EZ r t x a:=EN r t.1 t.2.1 t.2.2 x hr hi hc;have e:apFl r t x=Classical.choose h:=dif_pos h;have:=Classical.choose_spec h;rw [←e] at this;exact this
def fE (r:Ru) (l:List Ev) : Int:=fst [(di r).2,unl (decide (l.length≤200)) 8]
theorem E0 {r:Ru} : ∀ (n:Nat) (s:St) (m:List Sg),m.length≤(cD r n s m).2.length∧(cD r n s m).2.length≤m.length+2*n
 | 0,_,m=>⟨Nat.le_refl _,by rw [cD];simp only;omega⟩
 | n+1,s,m=>by
  rw [cD];split
  ·exact ⟨Nat.le_refl _,by simp only;omega⟩
  ·have:=E0 (r:=r) n (upS r s (cO r s).toNat) (m++upM s.q (cO r s).toNat (feedN r (cO r s).toNat));rw [List.length_append] at this;have e:(upM s.q (cO r s).toNat (feedN r (cO r s).toNat)).length=2:=rfl;omega
theorem Bc {r:Ru} {s:St} (hr:RuOK r) (hi:Inv r s) {x:Ev} (h:apE r s x=0) : (apU r s x).2.length≤1002∧(x.kind=4→0 < (apU r s x).2.length):=by
 unfold apE at h;rw [cj,cj,cj] at h;have J5:=ve h.1;have hd:=hi.doS hr h.1 (of_decide_eq_true (ft (by decide) h.2.1)) (show x.rank=(x.rank.toNat:Int) by omega) h.2.2.1;have hh:=A_ hr hd;have hl:=E0 (r:=r) (cB 0 (doS r s x x.rank.toNat).q) (atS (doS r s x x.rank.toNat) x.time) (doM r s x x.rank.toNat);change cB 0 (doS r s x x.rank.toNat).q≤500 at hh;unfold apU;have hm:(doM r s x x.rank.toNat).length≤2:=by
  unfold doM;split
  ·simp [upM]
  ·simp
 refine ⟨by omega,fun h4=>?_⟩;have e:(doM r s x x.rank.toNat).length=2:=by
  unfold doM;rw [if_pos h4];rfl
 omega
theorem Kh (r:Ru) (t:T3) (x:Ev) (i:Int) : VH Tryz.prog 86 (pK r t) [.ref 0 0,I i,evA x] [0] (pK r t) (.tup []):=by
 refine dk Tryz.func86 rfl (by kernel_rfl) rfl (fun _=>by kernel_rfl) fun M0 w0 vs=>?_;simp only [Tryz.ntmps86,Tryz.results86,aB];unfold pK fY;repeat' with_reducible first|apply aa|refine ah [] ?_|(apply ab;intro X Y;go_simp;apply Y;clear Y X)
 go_simp
noncomputable def runT0 (r:Ru) : Nat→List Ev→T3×(Unit)→T3×(Unit)
 | _,[],z=>z
 | k,x::l,z=>if apE r z.1.1 x≠0 then (stepT r z.1 x,z.2) else runT0 r (k+1) l (stepT r z.1 x,())
def qB:AV:=.lit (.func (.func 86) #[] #[])
theorem Ki (r:Ru) (l:List Ev) (hn:r.ranks.length≤1000000) (ch:∀ k,k < r.ranks.length→(rat r.ranks k).name.size≤1000) (h0:¬fE r l=0) :
  VH Tryz.prog 85 [] [b8 r,ee l,qB] [] [] (.tup [.lit (.pointer none),I 0,I (fE r l)]):=by
 have g1:=qA r hn ch;have g2:=bH (decide (l.length≤200)) 8;have g3:VC Tryz.prog 88 [.sl 1 ([(di r).2,unl (decide (l.length≤200)) 8].map dN)] (I (fE r l)):=eX _ rfl rfl;have ed:decide ((l.length:Int)≤200)=decide (l.length≤200):=by
  by_cases h:l.length≤200
  ·rw [decide_eq_true h,decide_eq_true (by omega)]
  ·rw [decide_eq_false h,decide_eq_false (by omega)]
 rw [←ed] at g2 g3;generalize fE r l=E at *;generalize (di r).2=A1 at *;generalize unl (decide ((l.length:Int)≤200)) 8=A2 at *;clear ed;unfold qB;refine dk Tryz.func85 rfl (by kernel_rfl) rfl (fun _=>by kernel_rfl) fun M0 w0 vs=>?_;simp only [Tryz.ntmps85,Tryz.results85,aB];repeat' first|(with_reducible first|apply af|apply ae|apply aT|apply az|apply aa|refine ah [] ?_|(apply aw;·go_simp))|((with_reducible apply ab);intro X Y;go_simp;(first|(with_reducible refine ⟨_,g1,?_⟩)|(with_reducible refine ⟨_,g2,?_⟩)|(refine ⟨_,g3,?_⟩)|skip);apply Y;clear Y X)
 go_simp
theorem E1 (r:Ru) (l:List Ev) (H:Hp) (V:AV) (ch:∀ k,k < r.ranks.length→(rat r.ranks k).name.size≤1000) (hr:RuOK r) (hl:l.length≤200) (hc:∀ x∈l,x.car.size≤1000) (h0:fE r l=0) (z:T3×(Unit)) (hz:runT0 r 0 l (t0 r,())=z)
  (iM:(goP r 0 l (st0 r)).2.2≠0∧H=[]∧V = .tup [.lit (.pointer none),I ((goP r 0 l (st0 r)).2.1:Int),I (goP r 0 l (st0 r)).2.2]∨(goP r 0 l (st0 r)).2.2=0∧H=[some (.bag 62 1 false none (bo z.1.1.q)),some (.box [.osl 0,.osl 2,I z.1.1.time,.sl 4 (r.ranks.map Rk.av),I r.back,I r.ret,.sl 3 (z.1.2.1.map Sg.av)]),some (.arr 148 3 z.1.2.2 (z.1.1.tk.map Tk.av))]∧V = .tup [.ref 1 0,I 0,I 0]) :
  VH Tryz.prog 85 [] [b8 r,ee l,qB] [] H V:=by
 have hn:r.ranks.length≤1000000:=by have:=hr.n6;omega
 have g1:=qA r hn ch;have g2:=bH (decide (l.length≤200)) 8;have g3:VC Tryz.prog 88 [.sl 1 ([(di r).2,unl (decide (l.length≤200)) 8].map dN)] (I (fE r l)):=eX _ rfl rfl;have ed:decide ((l.length:Int)≤200)=decide (l.length≤200):=by rw [decide_eq_true hl,decide_eq_true (by omega)]
 rw [←ed] at g2 g3;rw [h0] at g3;generalize (di r).2=A1 at *;generalize unl (decide ((l.length:Int)≤200)) 8=A2 at *;have ge:=yk r hn;have HF:=Lib.hid iM;have HR:=Lib.hid hr;have HC:=Lib.hid hc;have HZ:=Lib.hid hz;clear ed h0 iM hr ch hc hn hz;unfold qB;refine dk Tryz.func85 rfl (by kernel_rfl) rfl (fun _=>by kernel_rfl) fun M0 w0 vs=>?_;simp only [Tryz.ntmps85,Tryz.results85,aB];repeat' with_reducible apply af
 refine ah [] ?_;repeat' with_reducible first|apply af|apply ae|apply aa|(apply ab;intro X Y;go_simp;apply Y;clear Y X)
 refine ah [] ?_;repeat' first|(with_reducible first|apply af|apply ae|apply aa)|((with_reducible apply ab);intro X Y;go_simp;(first|(with_reducible refine ⟨_,g1,?_⟩)|(with_reducible refine ⟨_,g2,?_⟩)|(refine ⟨_,g3,?_⟩)|skip);apply Y;clear Y X)
 refine ah [] ?_;repeat' with_reducible first|apply af|apply ae|apply ar|apply aa|(apply ak;·go_simp)|(apply ab;intro X Y;go_simp;apply Y;clear Y X)
 refine dB (bz [] 1 ⟨rfl,rfl⟩ ?_);simp only [ax];repeat' with_reducible first|apply aa|(apply ab;intro X Y;go_simp;apply Y;clear Y X)
 refine dF [] [] [] (mG r (st0 r) [] true true) (.ref 1 0) rfl (by go_simp) ?_ ?_
 ·unfold dx;go_simp;refine ⟨_,_,⟨_,ge⟩,?_⟩;unfold mG;go_simp;kernel_rfl
 unfold mG;go_simp;refine bz [] 1 ⟨rfl,rfl⟩ ?_;simp only [ax];repeat' with_reducible first|apply aa|(apply ab;intro X Y;go_simp;apply Y;clear Y X)
 apply cR;refine gA 1 6 3 rfl rfl rfl ?_;repeat' with_reducible apply af
 refine ah [] ?_;repeat' with_reducible first|apply ae|apply aA|apply aa|(apply ab;intro X Y;go_simp;apply Y;clear Y X)
 apply nB (α:=Nat×T3×(Unit)) [2,10,27,28] (fun (x:Nat×T3×(Unit))=>[(29,I (x.1:Int))]) (fun (x:Nat×T3×(Unit))=>([some (.bag 62 1 false none (bo x.2.1.1.q)),some (.box [.osl 0,.osl 2,I x.2.1.1.time,.sl 4 (r.ranks.map Rk.av),I r.back,I r.ret,.sl 3 (x.2.1.2.1.map Sg.av)]),some (.arr 148 3 x.2.1.2.2 (x.2.1.1.tk.map Tk.av))] : Hp)) (fun (x:Nat×T3×(Unit))=>Hid (Inv r x.2.1.1∧goP r x.1 (l.drop x.1) x.2.1.1=goP r 0 l (st0 r)∧runT0 r x.1 (l.drop x.1) x.2=z)∧x.1≤l.length∧Hid (True)) (fun (x:Nat×T3×(Unit))=>l.length - x.1) ((0,(st0 r,([] : List Sg),true),())) ⟨Lib.hid ⟨Inv.st0 HR.out,rfl,HZ.out⟩,Nat.zero_le _,Lib.hid (trivial)⟩
 ·(go_simp<;>exact rfl)
 ·go_simp
 rintro ⟨k,⟨s,m,a⟩,y⟩ ⟨HI,hk,HY⟩ K hK;simp only at HI hk hK HY ⊢;by_cases cF:k < l.length
 ·obtain ⟨w1,w2,w3,w4,w5,w6⟩:=ixs (m:=k) (by omega);have el:l.drop k=aP l k::l.drop (k+1):=by rw [rl cF,←List.drop_eq_getElem_cons cF]
  have wa:=Bb r (s,m,a) (aP l k) HR.out HI.out.1 (HC.out _ (by rw [rl cF];exact List.getElem_mem cF));obtain ⟨T2,j4⟩ : ∃ T2,stepT r (s,m,a) (aP l k)=T2:=⟨_,rfl⟩
  rw [j4] at wa;obtain ⟨s2,m2,a2⟩:=T2;have lB:apE r s (aP l k)=0→(apU r s (aP l k)).1=s2∧(apU r s (aP l k)).2=m2:=fun h=>by
   have e1:=congrArg (fun t:T3=>t.1) j4;have e2:=congrArg (fun t:T3=>t.2.1) j4;simp only [stepT,apR,if_pos h] at e1 e2;exact ⟨e1,e2⟩
  have hE:goP r k (l.drop k) s=if apE r s (aP l k)≠0 then (s,k,apE r s (aP l k)) else goP r (k+1) (l.drop (k+1)) s2:=by
   rw [el,goP];by_cases h:apE r s (aP l k)=0
   ·rw [if_neg (by simp [h]),if_neg (by simp [h]),(lB h).1]
   ·rw [if_pos h,if_pos h]
  have hU:runT0 r k (l.drop k) ((s,m,a),y)=if apE r s (aP l k)≠0 then ((s2,m2,a2),y) else runT0 r (k+1) (l.drop (k+1)) ((s2,m2,a2),()):=by rw [el,runT0,j4]
  have qC:apE r s (aP l k)=0→Inv r s2:=fun h=>by
   rw [←(lB h).1];exact (HI.out.1.ap HR.out h).1
  have h1:=HI.out.2.1;have h2:=HI.out.2.2;rw [hE] at h1;rw [hU] at h2;have wt:=Kh r (s2,m2,a2) (aP l k) (k:Int);clear j4 HI hE hU el lB;unfold pK fY at wa;simp only at wa;unfold pK fY at wt;have H1:=Lib.hid h1;have H2:=Lib.hid h2;have bx:=Lib.hid qC;clear h1 h2 qC;have WT:=Lib.hid wt;clear wt;generalize apE r s (aP l k)=E at *;repeat' with_reducible apply af
  refine ah [] ?_;repeat' with_reducible first|apply af|apply ae|apply ar|apply aA|apply aa|(apply aw;·go_simp)|(apply ab;intro X Y;go_simp;apply Y;clear Y X)
  refine ah [] ?_;repeat' with_reducible first|apply af|apply ae|apply aa|(apply ab;intro X Y;go_simp;apply Y;clear Y X)
  refine dB (bz [] 2 ⟨rfl,rfl⟩ ?_);simp only [ax];repeat' with_reducible first|apply aa|(apply ab;intro X Y;go_simp;apply Y;clear Y X)
  refine dF [1,0,2] [1] [] [some (.box [.osl 1,.osl 2,I s2.time,.sl 4 (r.ranks.map Rk.av),I r.back,I r.ret,.sl 3 (m2.map Sg.av)]),some (.bag 62 1 false none (bo s2.q)),some (.arr 148 3 a2 (s2.tk.map Tk.av))] (I E) rfl (by go_simp) ?_ ?_
  ·unfold dx;go_simp;refine ⟨_,_,_,wa,?_⟩;go_simp;kernel_rfl
  go_simp;refine bz [] 1 ⟨rfl,rfl⟩ ?_;simp only [ax];repeat' with_reducible first|apply aa|(apply ab;intro X Y;go_simp;apply Y;clear Y X)
  apply cR;repeat' with_reducible first|apply af|apply ae
  by_cases he:E=0
  ·subst he;have h1:=H1.out;have h2:=H2.out;rw [if_neg (by simp)] at h1 h2;have bV:=bx.out rfl;have wt:=WT.out;clear H1 bx WT H2 HY;have H1:=Lib.hid h1;have H2:=Lib.hid h2;have bx:=Lib.hid bV;clear h1 h2 bV;refine ah [] ?_;repeat' with_reducible first|apply ae|apply ar|apply aa|(apply ak;·go_simp)|(apply ab;intro X Y;go_simp;apply Y;clear Y X)
   refine dB (bz [] 4 ⟨rfl,rfl⟩ ?_);simp only [ax];repeat' with_reducible first|apply aa|(apply ab;intro X Y;go_simp;apply Y;clear Y X)
   refine dF [1,0,2] [1] [] [some (.box [.osl 1,.osl 2,I s2.time,.sl 4 (r.ranks.map Rk.av),I r.back,I r.ret,.sl 3 (m2.map Sg.av)]),some (.bag 62 1 false none (bo s2.q)),some (.arr 148 3 a2 (s2.tk.map Tk.av))] (.tup []) rfl (by go_simp) ?_ ?_
   ·unfold dx;go_simp;refine ⟨_,_,_,wt,?_⟩;go_simp;kernel_rfl
   go_simp;apply cR;repeat' with_reducible first|apply ae|apply bf
   refine ah [] ?_;repeat' with_reducible first|apply ae|apply aa|(apply ab;intro X Y;go_simp;apply Y;clear Y X)
   refine hK _ (k+1,(s2,m2,a2),()) ⟨Lib.hid ⟨bx.out,H1.out,H2.out⟩,cF,Lib.hid (trivial)⟩ (by simp only;omega) ?_;go_simp
  ·have h1:=H1.out;have h2:=H2.out;rw [if_pos he] at h1 h2;rcases HF.out with ⟨q1,rfl,q3⟩|⟨q1,_,_⟩
   ·rw [←h1] at q3;simp only at q3;subst q3;subst h2;clear HF H1 bx H2 h1 q1 hK HZ WT;refine ah [] ?_;repeat' with_reducible first|apply af|apply ae|apply aa|(apply aw;·go_simp)|(apply ab;intro X Y;go_simp;apply Y;clear Y X)
    refine ah [] ?_;repeat' with_reducible first|apply ae|apply aT|apply az|apply cG|apply aa|(apply ab;intro X Y;go_simp;apply Y;clear Y X)
    go_simp
   ·rw [←h1] at q1;exact absurd q1 he
 ·have qD:k=l.length:=by omega
  have h1:=HI.out.2.1;have h2:=HI.out.2.2;rw [qD,List.drop_length] at h1 h2;rw [goP] at h1;rw [runT0] at h2;rcases HF.out with ⟨q1,_,_⟩|⟨_,q2,q3⟩
  ·rw [←h1] at q1;exact absurd rfl q1
  ·subst q3;subst h2;subst q2;subst qD;clear HF h1 HI hK HZ;repeat' with_reducible apply af
   refine ah [] ?_;repeat' with_reducible first|apply af|apply ae|apply bP|apply bQ|apply bT|apply aa|(apply ak;·go_simp)|(apply ab;intro X Y;go_simp;apply Y;clear Y X)
   refine ah [] ?_;repeat' with_reducible first|apply ae|apply az|apply aa|(apply ab;intro X Y;go_simp;apply Y;clear Y X)
   go_simp
noncomputable def runTS (r:Ru) : Nat→List Ev→T3×(List Sg×Bool)→T3×(List Sg×Bool)
 | _,[],z=>z
 | k,x::l,z=>if apE r z.1.1 x≠0 then (stepT r z.1 x,z.2) else runTS r (k+1) l (stepT r z.1 x,(z.2.1++iU x++(stepT r z.1 x).2.1,false))
def pL:AV:=.fn (.func 94) [] [.ref 0 0]
theorem Kj (r:Ru) (l:List Ev) (hn:r.ranks.length≤1000000) (ch:∀ k,k < r.ranks.length→(rat r.ranks k).name.size≤1000) (h0:¬fE r l=0) :
  VH Tryz.prog 85 [some (.box [.osl 1]),some (.arr 45 3 true [])] [b8 r,ee l,pL] [2] [some (.box [.osl 1]),some (.arr 45 3 true [])] (.tup [.lit (.pointer none),I 0,I (fE r l)]):=by
 have g1:=qA r hn ch;have g2:=bH (decide (l.length≤200)) 8;have g3:VC Tryz.prog 88 [.sl 1 ([(di r).2,unl (decide (l.length≤200)) 8].map dN)] (I (fE r l)):=eX _ rfl rfl;have ed:decide ((l.length:Int)≤200)=decide (l.length≤200):=by
  by_cases h:l.length≤200
  ·rw [decide_eq_true h,decide_eq_true (by omega)]
  ·rw [decide_eq_false h,decide_eq_false (by omega)]
 rw [←ed] at g2 g3;generalize fE r l=E at *;generalize (di r).2=A1 at *;generalize unl (decide ((l.length:Int)≤200)) 8=A2 at *;clear ed;unfold pL;refine dk Tryz.func85 rfl (by kernel_rfl) rfl (fun _=>by kernel_rfl) fun M0 w0 vs=>?_;simp only [Tryz.ntmps85,Tryz.results85,aB];repeat' first|(with_reducible first|apply af|apply ae|apply aT|apply az|apply aa|refine ah [] ?_|(apply aw;·go_simp))|((with_reducible apply ab);intro X Y;go_simp;(first|(with_reducible refine ⟨_,g1,?_⟩)|(with_reducible refine ⟨_,g2,?_⟩)|(refine ⟨_,g3,?_⟩)|skip);apply Y;clear Y X)
 go_simp
theorem E4 (r:Ru) (l:List Ev) (H:Hp) (V:AV) (ch:∀ k,k < r.ranks.length→(rat r.ranks k).name.size≤1000) (hr:RuOK r) (hl:l.length≤200) (hc:∀ x∈l,x.car.size≤1000) (h0:fE r l=0) (z:T3×(List Sg×Bool)) (hz:runTS r 0 l (t0 r,([],true))=z)
  (iM:(goP r 0 l (st0 r)).2.2≠0∧H=[some (.box [.osl 1]),some (.arr 45 3 z.2.2 (z.2.1.map Sg.av))]∧V = .tup [.lit (.pointer none),I ((goP r 0 l (st0 r)).2.1:Int),I (goP r 0 l (st0 r)).2.2]∨(goP r 0 l (st0 r)).2.2=0∧H=[some (.box [.osl 1]),some (.arr 45 3 z.2.2 (z.2.1.map Sg.av)),some (.bag 62 1 false none (bo z.1.1.q)),some (.box [.osl 2,.osl 4,I z.1.1.time,.sl 4 (r.ranks.map Rk.av),I r.back,I r.ret,.sl 3 (z.1.2.1.map Sg.av)]),some (.arr 148 3 z.1.2.2 (z.1.1.tk.map Tk.av))]∧V = .tup [.ref 3 0,I 0,I 0]) :
  VH Tryz.prog 85 [some (.box [.osl 1]),some (.arr 45 3 true [])] [b8 r,ee l,pL] [2] H V:=by
 have hn:r.ranks.length≤1000000:=by have:=hr.n6;omega
 have g1:=qA r hn ch;have g2:=bH (decide (l.length≤200)) 8;have g3:VC Tryz.prog 88 [.sl 1 ([(di r).2,unl (decide (l.length≤200)) 8].map dN)] (I (fE r l)):=eX _ rfl rfl;have ed:decide ((l.length:Int)≤200)=decide (l.length≤200):=by rw [decide_eq_true hl,decide_eq_true (by omega)]
 rw [←ed] at g2 g3;rw [h0] at g3;generalize (di r).2=A1 at *;generalize unl (decide ((l.length:Int)≤200)) 8=A2 at *;have ge:=yk r hn;have HF:=Lib.hid iM;have HR:=Lib.hid hr;have HC:=Lib.hid hc;have HZ:=Lib.hid hz;clear ed h0 iM hr ch hc hn hz;unfold pL;refine dk Tryz.func85 rfl (by kernel_rfl) rfl (fun _=>by kernel_rfl) fun M0 w0 vs=>?_;simp only [Tryz.ntmps85,Tryz.results85,aB];repeat' with_reducible apply af
 refine ah [] ?_;repeat' with_reducible first|apply af|apply ae|apply aa|(apply ab;intro X Y;go_simp;apply Y;clear Y X)
 refine ah [] ?_;repeat' first|(with_reducible first|apply af|apply ae|apply aa)|((with_reducible apply ab);intro X Y;go_simp;(first|(with_reducible refine ⟨_,g1,?_⟩)|(with_reducible refine ⟨_,g2,?_⟩)|(refine ⟨_,g3,?_⟩)|skip);apply Y;clear Y X)
 refine ah [] ?_;repeat' with_reducible first|apply af|apply ae|apply ar|apply aa|(apply ak;·go_simp)|(apply ab;intro X Y;go_simp;apply Y;clear Y X)
 refine dB (bz [] 1 ⟨rfl,rfl⟩ ?_);simp only [ax];repeat' with_reducible first|apply aa|(apply ab;intro X Y;go_simp;apply Y;clear Y X)
 refine dF [] [] [] (mG r (st0 r) [] true true) (.ref 1 0) rfl (by go_simp) ?_ ?_
 ·unfold dx;go_simp;refine ⟨_,_,⟨_,ge⟩,?_⟩;unfold mG;go_simp;kernel_rfl
 unfold mG;go_simp;refine bz [] 1 ⟨rfl,rfl⟩ ?_;simp only [ax];repeat' with_reducible first|apply aa|(apply ab;intro X Y;go_simp;apply Y;clear Y X)
 apply cR;refine gA 3 6 5 rfl rfl rfl ?_;repeat' with_reducible apply af
 refine ah [] ?_;repeat' with_reducible first|apply ae|apply aA|apply aa|(apply ab;intro X Y;go_simp;apply Y;clear Y X)
 apply nB (α:=Nat×T3×(List Sg×Bool)) [2,10,27,28] (fun (x:Nat×T3×(List Sg×Bool))=>[(29,I (x.1:Int))]) (fun (x:Nat×T3×(List Sg×Bool))=>([some (.box [.osl 1]),some (.arr 45 3 x.2.2.2 (x.2.2.1.map Sg.av)),some (.bag 62 1 false none (bo x.2.1.1.q)),some (.box [.osl 2,.osl 4,I x.2.1.1.time,.sl 4 (r.ranks.map Rk.av),I r.back,I r.ret,.sl 3 (x.2.1.2.1.map Sg.av)]),some (.arr 148 3 x.2.1.2.2 (x.2.1.1.tk.map Tk.av))] : Hp)) (fun (x:Nat×T3×(List Sg×Bool))=>Hid (Inv r x.2.1.1∧goP r x.1 (l.drop x.1) x.2.1.1=goP r 0 l (st0 r)∧runTS r x.1 (l.drop x.1) x.2=z)∧x.1≤l.length∧Hid (x.2.2.1.length≤x.1*1100)) (fun (x:Nat×T3×(List Sg×Bool))=>l.length - x.1) ((0,(st0 r,([] : List Sg),true),([],true))) ⟨Lib.hid ⟨Inv.st0 HR.out,rfl,HZ.out⟩,Nat.zero_le _,Lib.hid (Nat.zero_le _)⟩
 ·(go_simp<;>exact rfl)
 ·go_simp
 rintro ⟨k,⟨s,m,a⟩,y⟩ ⟨HI,hk,HY⟩ K hK;simp only at HI hk hK HY ⊢;by_cases cF:k < l.length
 ·obtain ⟨w1,w2,w3,w4,w5,w6⟩:=ixs (m:=k) (by omega);have el:l.drop k=aP l k::l.drop (k+1):=by rw [rl cF,←List.drop_eq_getElem_cons cF]
  have wa:=Bb r (s,m,a) (aP l k) HR.out HI.out.1 (HC.out _ (by rw [rl cF];exact List.getElem_mem cF));obtain ⟨T2,j4⟩ : ∃ T2,stepT r (s,m,a) (aP l k)=T2:=⟨_,rfl⟩
  rw [j4] at wa;obtain ⟨s2,m2,a2⟩:=T2;have lB:apE r s (aP l k)=0→(apU r s (aP l k)).1=s2∧(apU r s (aP l k)).2=m2:=fun h=>by
   have e1:=congrArg (fun t:T3=>t.1) j4;have e2:=congrArg (fun t:T3=>t.2.1) j4;simp only [stepT,apR,if_pos h] at e1 e2;exact ⟨e1,e2⟩
  have hE:goP r k (l.drop k) s=if apE r s (aP l k)≠0 then (s,k,apE r s (aP l k)) else goP r (k+1) (l.drop (k+1)) s2:=by
   rw [el,goP];by_cases h:apE r s (aP l k)=0
   ·rw [if_neg (by simp [h]),if_neg (by simp [h]),(lB h).1]
   ·rw [if_pos h,if_pos h]
  have hU:runTS r k (l.drop k) ((s,m,a),y)=if apE r s (aP l k)≠0 then ((s2,m2,a2),y) else runTS r (k+1) (l.drop (k+1)) ((s2,m2,a2),(y.1++iU (aP l k)++(s2,m2,a2).2.1,false)):=by rw [el,runTS,j4]
  have qC:apE r s (aP l k)=0→Inv r s2:=fun h=>by
   rw [←(lB h).1];exact (HI.out.1.ap HR.out h).1
  have hM:apE r s (aP l k)=0→y.1.length+m2.length+1≤1000000000∧((aP l k).kind=4→0 < m2.length):=fun h=>by
   obtain ⟨e1,e2⟩:=Bc HR.out HI.out.1 h;rw [(lB h).2] at e1 e2;have:=HY.out;exact ⟨by omega,e2⟩
  have pM:apE r s (aP l k)=0→(y.1++iU (aP l k)++m2).length≤(k+1)*1100:=fun h=>by
   obtain ⟨e1,e2⟩:=Bc HR.out HI.out.1 h;rw [(lB h).2] at e1;have:=HY.out;have e3:(iU (aP l k)).length≤1:=by
    unfold iU;split
    ·exact Nat.zero_le _
    ·split<;>exact Nat.le_refl _
   rw [List.length_append,List.length_append];omega
  have vm:=Lib.hid pM;clear pM;have h1:=HI.out.2.1;have h2:=HI.out.2.2;rw [hE] at h1;rw [hU] at h2;have wt:=fun tF:apE r s (aP l k)=0=>Kg r s2 m2 a2 y.1 y.2 (aP l k) (k:Int) (hM tF).2 (hM tF).1;clear j4 HI hE hU el lB hM;unfold pK fY at wa;simp only at wa;unfold fY at wt;simp only [List.cons_append,List.nil_append] at wt;have H1:=Lib.hid h1;have H2:=Lib.hid h2;have bx:=Lib.hid qC;clear h1 h2 qC;have WT:=Lib.hid wt;clear wt;generalize apE r s (aP l k)=E at *;repeat' with_reducible apply af
  refine ah [] ?_;repeat' with_reducible first|apply af|apply ae|apply ar|apply aA|apply aa|(apply aw;·go_simp)|(apply ab;intro X Y;go_simp;apply Y;clear Y X)
  refine ah [] ?_;repeat' with_reducible first|apply af|apply ae|apply aa|(apply ab;intro X Y;go_simp;apply Y;clear Y X)
  refine dB (bz [] 2 ⟨rfl,rfl⟩ ?_);simp only [ax];repeat' with_reducible first|apply aa|(apply ab;intro X Y;go_simp;apply Y;clear Y X)
  refine dF [3,2,4] [3] [] [some (.box [.osl 1,.osl 2,I s2.time,.sl 4 (r.ranks.map Rk.av),I r.back,I r.ret,.sl 3 (m2.map Sg.av)]),some (.bag 62 1 false none (bo s2.q)),some (.arr 148 3 a2 (s2.tk.map Tk.av))] (I E) rfl (by go_simp) ?_ ?_
  ·unfold dx;go_simp;refine ⟨_,_,_,wa,?_⟩;go_simp;kernel_rfl
  go_simp;refine bz [] 1 ⟨rfl,rfl⟩ ?_;simp only [ax];repeat' with_reducible first|apply aa|(apply ab;intro X Y;go_simp;apply Y;clear Y X)
  apply cR;repeat' with_reducible first|apply af|apply ae
  by_cases he:E=0
  ·subst he;have h1:=H1.out;have h2:=H2.out;rw [if_neg (by simp)] at h1 h2;have bV:=bx.out rfl;have wt:=WT.out rfl;have pM:=vm.out rfl;generalize y.1++iU (aP l k)++m2=O2 at *;clear H1 bx WT H2 HY vm;have H1:=Lib.hid h1;have H2:=Lib.hid h2;have bx:=Lib.hid bV;clear h1 h2 bV;refine ah [] ?_;repeat' with_reducible first|apply ae|apply ar|apply aa|(apply ak;·go_simp)|(apply ab;intro X Y;go_simp;apply Y;clear Y X)
   refine dB (bz [] 4 ⟨rfl,rfl⟩ ?_);simp only [ax];repeat' with_reducible first|apply aa|(apply ab;intro X Y;go_simp;apply Y;clear Y X)
   refine dF [3,2,4,0,1] [3,0] [] [some (.box [.osl 1,.osl 2,I s2.time,.sl 4 (r.ranks.map Rk.av),I r.back,I r.ret,.sl 3 (m2.map Sg.av)]),some (.bag 62 1 false none (bo s2.q)),some (.arr 148 3 a2 (s2.tk.map Tk.av)),some (.box [.osl 4]),some (.arr 45 3 false (O2.map Sg.av))] (.tup []) rfl (by go_simp) ?_ ?_
   ·unfold dx;go_simp;refine ⟨_,_,_,wt,?_⟩;go_simp;kernel_rfl
   go_simp;apply cR;repeat' with_reducible first|apply ae|apply bf
   refine ah [] ?_;repeat' with_reducible first|apply ae|apply aa|(apply ab;intro X Y;go_simp;apply Y;clear Y X)
   refine hK _ (k+1,(s2,m2,a2),(O2,false)) ⟨Lib.hid ⟨bx.out,H1.out,H2.out⟩,cF,Lib.hid (pM)⟩ (by simp only;omega) ?_;go_simp
  ·have h1:=H1.out;have h2:=H2.out;rw [if_pos he] at h1 h2;rcases HF.out with ⟨q1,rfl,q3⟩|⟨q1,_,_⟩
   ·rw [←h1] at q3;simp only at q3;subst q3;subst h2;clear HF H1 bx H2 h1 q1 hK HZ WT;refine ah [] ?_;repeat' with_reducible first|apply af|apply ae|apply aa|(apply aw;·go_simp)|(apply ab;intro X Y;go_simp;apply Y;clear Y X)
    refine ah [] ?_;repeat' with_reducible first|apply ae|apply aT|apply az|apply cG|apply aa|(apply ab;intro X Y;go_simp;apply Y;clear Y X)
    go_simp
   ·rw [←h1] at q1;exact absurd q1 he
 ·have qD:k=l.length:=by omega
  have h1:=HI.out.2.1;have h2:=HI.out.2.2;rw [qD,List.drop_length] at h1 h2;rw [goP] at h1;rw [runTS] at h2;rcases HF.out with ⟨q1,_,_⟩|⟨_,q2,q3⟩
  ·rw [←h1] at q1;exact absurd rfl q1
  ·subst q3;subst h2;subst q2;subst qD;clear HF h1 HI hK HZ;repeat' with_reducible apply af
   refine ah [] ?_;repeat' with_reducible first|apply af|apply ae|apply bP|apply bQ|apply bT|apply aa|(apply ak;·go_simp)|(apply ab;intro X Y;go_simp;apply Y;clear Y X)
   refine ah [] ?_;repeat' with_reducible first|apply ae|apply az|apply aa|(apply ab;intro X Y;go_simp;apply Y;clear Y X)
   go_simp
end Go.Proofs.YtoibondihdhnoaaGreatDoor
