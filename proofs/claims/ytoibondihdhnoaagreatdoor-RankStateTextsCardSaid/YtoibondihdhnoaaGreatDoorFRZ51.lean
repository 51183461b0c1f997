/- Texts in one: Walks: the text of an event. -/
import Derived.Test.YtoibondihdhnoaaGreatDoorFRZ8
import Derived.Test.YtoibondihdhnoaaGreatDoorFRZ40
import Derived.Test.YtoibondihdhnoaaGreatDoorFRZ50
namespace Go.Proofs.YtoibondihdhnoaaGreatDoor
open Go.RowKit Go.Shelf
set_option maxRecDepth 100000
set_option maxHeartbeats 2000000
theorem Pv (a:ByteArray) : (bl a).length=a.size:=kZ a
theorem Pw (a b c d s:ByteArray) : cN [a,b,c,d] s=a++s++b++s++c++s++d:=by
 apply pq;simp only [zx];show (Lib.join ([a,b,c,d].map bl) (bl s))=_;rw [List.map_cons,Lib.join_cons];simp [Lib.joinTail,List.append_assoc]
theorem IA (a b c d s:ByteArray) : (Lib.join ([a,b,c,d].map bl) (bl s)).length=a.size+s.size+b.size+s.size+c.size+s.size+d.size:=by
 simp only [←Pv];rw [List.map_cons,Lib.join_cons];simp [Lib.joinTail];omega
theorem Dm (k:Int) : (j2 k).size≤8:=by
 unfold j2;generalize k.toNat=n;rcases n with _|_|_|_|_|_|n
 all_goals first|decide|simp [ji,kdL]
def wordsL:List ByteArray:=[⟨#[97,114,114,105,118,101]⟩,⟨#[115,101,114,118,101]⟩,⟨#[100,101,99,108,105,110,101]⟩,⟨#[108,101,97,118,101]⟩,⟨#[99,97,108,108]⟩,⟨#[114,101,116,117,114,110]⟩]
theorem IB:VC Tryz.prog 111 [] (fr wordsL):=by
 unfold wordsL;refine aK Tryz.func111 rfl (by kernel_rfl) rfl fun M0 w0=>?_;simp only [Tryz.ntmps111,Tryz.results111,az];repeat' with_reducible first|apply af|apply ae|apply aq|apply aa|refine ah [] ?_|(apply ab;intro X Y;go_simp;apply Y;clear Y X)
 go_simp
theorem Px {k:Nat} (h:k < 6) : j2 (k:Int)=tat wordsL k:=by
 rcases k with _|_|_|_|_|_|k
 all_goals first|rfl|omega
theorem Py (x:Ev) (hc:x.car.size≤1000) (ht:i64 x.time) (hr:i64 x.rank) : VC Tryz.prog 48 [evA x] (S (mj x)):=by
 have i1:=j3 x.kind 0 5;have g1:=wc x.time ht;have g2:=wc x.rank hr;have s1:=jY ht;have s2:=jY hr;have gw:=IB;obtain ⟨kd,tm,rk,car⟩:=x;simp only [evA] at *;unfold mj;cases hD:inR kd 0 5
 ·rw [hD] at i1;clear hD;refine aK Tryz.func48 rfl (by kernel_rfl) rfl fun M0 w0=>?_;simp only [Tryz.ntmps48,Tryz.results48,az];repeat' with_reducible first|apply af|apply ae|apply aF|apply aq|apply aa|refine ah [] ?_|(apply ao;·go_simp)|(apply ab;intro X Y;go_simp;(first|(refine ⟨_,i1,?_⟩)|skip);apply Y;clear Y X)
  go_simp
 ·rw [hD] at i1;have hk:=jt.1 hD;simp only;rw [Pw];obtain ⟨k,rfl⟩ : ∃ k:Nat,kd=k:=⟨kd.toNat,by omega⟩
  have qb:k < 6:=by omega
  have s3:=Dm (k:Int);rw [Px qb] at s3 ⊢;have IC:wordsL.length=6:=rfl;have bJ:k < wordsL.length:=by omega
  have lg:(⟨#[32]⟩ : ByteArray).size=1:=rfl;have wC:(⟨#[45]⟩ : ByteArray).size=1:=rfl;have bo:=(bc bJ).symm;unfold jk;clear hD hk ht hr qb IC;generalize ca tm=D1 at *;generalize ca rk=D2 at *;generalize wordsL=WL at *;generalize tat WL k=W at *;have z1:W.size+1≤9223372036854775807:=by omega
  have z2:W.size+1+D1.size≤9223372036854775807:=by omega
  have z3:W.size+1+D1.size+1≤9223372036854775807:=by omega
  have z4:W.size+1+D1.size+1+D2.size≤9223372036854775807:=by omega
  have z5:W.size+1+D1.size+1+D2.size+1≤9223372036854775807:=by omega
  have z6:W.size+1+D1.size+1+D2.size+1+1≤9223372036854775807:=by omega
  have z7:W.size+1+D1.size+1+D2.size+1+car.size≤9223372036854775807:=by omega
  clear s1 s2 s3 hc;by_cases dc:car=⟨#[]⟩
  ·subst dc;refine aK Tryz.func48 rfl (by kernel_rfl) rfl fun M0 w0=>?_;simp only [Tryz.ntmps48,Tryz.results48,az];repeat' first|(with_reducible first|apply af|apply ae|apply aq|apply aj|apply aa|refine ah [] ?_|apply aI|(apply ao;·go_simp)|(apply ak;·go_simp)|((first|apply ab|apply aJ);intro X Y;go_simp;(first|(refine ⟨_,i1,?_⟩)|(refine ⟨_,gw,?_⟩)|(refine ⟨_,g1,?_⟩)|(refine ⟨_,g2,?_⟩)|skip);apply Y;clear Y X))|((refine aQ 19 19 [] rfl (by kernel_rfl) ?_);simp only [aA])
   go_simp
  ·have iH:¬car=ByteArray.empty:=dc;refine aK Tryz.func48 rfl (by kernel_rfl) rfl fun M0 w0=>?_;simp only [Tryz.ntmps48,Tryz.results48,az];repeat' first|(with_reducible first|apply af|apply ae|apply aq|apply aj|apply aa|refine ah [] ?_|apply aI|(apply ak;·go_simp)|((first|apply ab|apply aJ);intro X Y;go_simp;(first|(refine ⟨_,i1,?_⟩)|(refine ⟨_,gw,?_⟩)|(refine ⟨_,g1,?_⟩)|(refine ⟨_,g2,?_⟩)|skip);apply Y;clear Y X))|((refine aQ 19 19 [] rfl (by kernel_rfl) ?_);simp only [aA])
   go_simp
def sJ (l:List ByteArray) (j:Nat) : Bool:=!decide (tat l j=⟨#[]⟩)
def orT (l:List ByteArray) : ByteArray:=if ixP (sJ l) 0 l.length < 0 then ⟨#[]⟩ else tat l (ixP (sJ l) 0 l.length).toNat
theorem Pz (l:List ByteArray) (hl:l.length≤1000) : VC Tryz.prog 104 [fr l] (S (orT l)):=by
 obtain ⟨R,hR⟩ : ∃ R,orT l=R:=⟨_,rfl⟩
 rw [hR];unfold orT at hR;have HR:=Lib.hid hR;clear hR;refine aK Tryz.func104 rfl (by kernel_rfl) rfl fun M0 w0=>?_;simp only [Tryz.ntmps104,Tryz.results104,az];repeat' with_reducible first|apply af|apply ae|apply ar|apply aa|refine ah [] ?_|(apply ab;intro X Y;go_simp;apply Y;clear Y X)
 apply ch [3,6,7] (fun k=>[(8,I k)]) (fun k=>([] : Hp)) (sJ l) (l.length)
 ·go_simp<;>exact rfl
 ·go_simp
 ·intro k hk HB HP K hK;obtain ⟨w1,w2,w3,w4,w5,w6⟩:=ixs (m:=k) (by omega);have hp:l[k]=⟨#[]⟩:=by
   have:=HP.out;simpa [sJ,bc hk] using this
  repeat' with_reducible first|apply af|apply ae|apply aj|apply ar|apply aT|apply aa|refine ah [] ?_|(apply ao;·go_simp)|(apply ak;·go_simp)|(apply ab;intro X Y;go_simp;apply Y;clear Y X)
  refine hK _ ?_;go_simp
 ·intro k hk HB HP K;have hp:¬l[k]=⟨#[]⟩:=by
   have:=HP.out;simpa [sJ,bc hk] using this
  have eX:¬l[k]=ByteArray.empty:=hp;have e:=HR.out;rw [gU hk HB.out HP.out,if_neg (by omega),Int.toNat_natCast,bc hk] at e;subst e;repeat' with_reducible first|apply af|apply ae|apply aF|apply aq|apply aj|apply ar|apply b_|apply aa|refine ah [] ?_|(apply ao;·go_simp)|(apply ab;intro X Y;go_simp;apply Y;clear Y X)
  go_simp
 ·intro HB K;have e:=HR.out;rw [jb HB.out,if_pos (by decide)] at e;subst e;repeat' with_reducible first|apply af|apply ae|apply aW|apply aq|apply aX|apply aY|apply aa|refine ah [] ?_|(apply ak;·go_simp)|(apply ab;intro X Y;go_simp;apply Y;clear Y X)
  go_simp
theorem PA (c:ByteArray) : VC Tryz.prog 104 [fr [c,⟨#[45]⟩]] (S (jk c)):=by
 have g:=Pz [c,⟨#[45]⟩] (by simp);have e:orT [c,⟨#[45]⟩]=jk c:=by
  unfold orT jk;by_cases hc:c=⟨#[]⟩
  ·subst hc;rfl
  ·have:ixP (sJ [c,⟨#[45]⟩]) 0 [c,⟨#[45]⟩].length=0:=by simp [ixP,sJ,tat,hc]
   rw [this,if_neg (by decide),if_neg hc];rfl
 rw [e] at g;exact g
theorem PB (x:Ev) (hc:x.car.size≤1000) (ht:i64 x.time) (hr:i64 x.rank) : VC Tryz.prog 45 [evA x] (S (mj x)):=by
 have i1:=jT x.kind 0 5;have g1:=tP x.time ht;have g2:=tP x.rank hr;have g3:=PA x.car;have s1:=jY ht;have s2:=jY hr;have s3:=Dm x.kind;have s4:(jk x.car).size≤1000:=by
  unfold jk;split
  ·decide
  ·exact hc
 have g4:=wh [j2 x.kind,ca x.time,ca x.rank,jk x.car] ⟨#[32]⟩ (by
  rw [IA];have:(⟨#[32]⟩ : ByteArray).size=1:=rfl;omega) (by simp)
 obtain ⟨kd,tm,rk,car⟩:=x;simp only [evA] at *;unfold mj;clear s1 s2 s3 s4 hc ht hr;cases hD:inR kd 0 5
 ·rw [hD] at i1;clear hD g4;refine aK Tryz.func45 rfl (by kernel_rfl) rfl fun M0 w0=>?_;simp only [Tryz.ntmps45,Tryz.results45,az];repeat' with_reducible first|apply af|apply ae|apply aF|apply aq|apply aa|refine ah [] ?_|(apply ao;·go_simp)|(apply ab;intro X Y;go_simp;(first|(refine ⟨_,i1,?_⟩)|skip);apply Y;clear Y X)
  go_simp
 ·rw [hD] at i1;have hk:=jt.1 hD;have qb:kd=0∨kd=1∨kd=2∨kd=3∨kd=4∨kd=5:=by omega
  simp only;clear hD hk;generalize jk car=C at *;generalize ca tm=D1 at *;generalize ca rk=D2 at *;have e0:j2 0=⟨#[97,114,114,105,118,101]⟩:=rfl;have e1:j2 1=⟨#[115,101,114,118,101]⟩:=rfl;have e2:j2 2=⟨#[100,101,99,108,105,110,101]⟩:=rfl;have e3:j2 3=⟨#[108,101,97,118,101]⟩:=rfl;have e4:j2 4=⟨#[99,97,108,108]⟩:=rfl;have e5:j2 5=⟨#[114,101,116,117,114,110]⟩:=rfl;rcases qb with rfl|rfl|rfl|rfl|rfl|rfl
  all_goals
   first
    | rw [e0] at g4 ⊢
    | rw [e1] at g4 ⊢
    | rw [e2] at g4 ⊢
    | rw [e3] at g4 ⊢
    | rw [e4] at g4 ⊢
    | rw [e5] at g4 ⊢
   clear e0 e1 e2 e3 e4 e5;generalize cN _ ⟨#[32]⟩=T at *;refine aK Tryz.func45 rfl (by kernel_rfl) rfl fun M0 w0=>?_;simp only [Tryz.ntmps45,Tryz.results45,az];repeat' first|(with_reducible first|apply af|apply ae|apply aq|apply aj|apply aa|refine ah [] ?_|apply aI|(apply ak;·go_simp))|((with_reducible first|apply ab|apply aJ);intro X Y;go_simp;(first|(with_reducible refine ⟨_,i1,?_⟩)|(with_reducible refine ⟨_,g1,?_⟩)|(with_reducible refine ⟨_,g2,?_⟩)|(refine ⟨_,g3,?_⟩)|(refine ⟨_,g4,?_⟩)|skip);apply Y;clear Y X)|((refine aQ 18 18 [] rfl (by kernel_rfl) ?_);simp only [aA])
   go_simp
def jB (a:ByteArray) : Nat→Int
 | 0=>-1
 | k+1=>if tat wordsL k=a then (k:Int) else jB a k
@[go_sem] theorem Tq (a:ByteArray) : jB a 0 = -1:=rfl
theorem PC (a:ByteArray) : jB a 6=jA a:=by
 have e0:(ji kdL 0).1=tat wordsL 0:=rfl;have e1:(ji kdL 1).1=tat wordsL 1:=rfl;have e2:(ji kdL 2).1=tat wordsL 2:=rfl;have e3:(ji kdL 3).1=tat wordsL 3:=rfl;have e4:(ji kdL 4).1=tat wordsL 4:=rfl;have e5:(ji kdL 5).1=tat wordsL 5:=rfl;unfold jA;simp only [ixP,jB,Nat.zero_add,Nat.reduceAdd,e0,e1,e2,e3,e4,e5];by_cases h0:tat wordsL 0=a
 ·subst h0;decide
 by_cases h1:tat wordsL 1=a
 ·subst h1;decide
 by_cases h2:tat wordsL 2=a
 ·subst h2;decide
 by_cases h3:tat wordsL 3=a
 ·subst h3;decide
 by_cases h4:tat wordsL 4=a
 ·subst h4;decide
 by_cases h5:tat wordsL 5=a
 ·subst h5;decide
 simp [h0,h1,h2,h3,h4,h5]
theorem ID (a:ByteArray) : ∀ k,jB a k < k∧-1≤jB a k
 | 0=>by simp [jB]
 | k+1=>by
  have:=ID a k;rw [jB];split<;>omega
def evR (K:Int) (N1 N2:Option Int) (c:ByteArray) : Ev×Int:=
 if K < 0∨N1=none∨N2=none then (nv,7) else if K=4 then (if c=⟨#[45]⟩ then (⟨4,N1.getD 0,N2.getD 0,⟨#[]⟩⟩,0) else (nv,3)) else if bP c=true then (⟨K,N1.getD 0,N2.getD 0,c⟩,0) else (nv,4)
theorem PD {w:List ByteArray} (hb:lQ w=false) : evP w=evR (jA (tat w 0)) (dv (tat w 1).data.toList) (dv (tat w 2).data.toList) (tat w 3):=by
 unfold evP;rw [hb,if_neg (by decide)];unfold sq evR;rw [nf,nf];generalize jA (tat w 0)=K;cases h1:dv (tat w 1).data.toList with
 | none=>simp [fst,unl]
 | some a=>
  cases h2:dv (tat w 2).data.toList with
  | none=>simp [fst,unl]
  | some b=>
   rw [om h1,om h2];by_cases hK:K < 0
   ·have:decide (0≤K)=false:=decide_eq_false (by omega);simp [fst,unl,this,hK]
   ·have:decide (0≤K)=true:=decide_eq_true (by omega);by_cases h4:K=4
    ·subst h4;by_cases hc:tat w 3=⟨#[45]⟩<;>simp [fst,unl,hc]
    ·by_cases hn:bP (tat w 3)=true<;>simp [fst,unl,this,hK,h4,hn]
theorem PE (s:ByteArray) (hs:s.size≤1000) (hb:lQ (aP 32 s)=true) : VC Tryz.prog 47 [S s] (.tup [evA nv,I 7]):=by
 have g1:=tO s (by omega);have cP:=mi 32 s;have g2:=nx (aP 32 s) ⟨#[]⟩ (by omega);unfold lQ at hb;unfold nv;generalize aP 32 s=w at *;by_cases h4:w.length=4
 ·rw [decide_eq_true h4,Bool.not_true,Bool.false_or] at hb;rw [hb] at g2;have h5:(w.length:Int)=4:=by omega
  clear hb cP;refine aK Tryz.func47 rfl (by kernel_rfl) rfl fun M0 w0=>?_;simp only [Tryz.ntmps47,Tryz.results47,az];repeat' first|(with_reducible first|apply af|apply ae|apply aF|apply aq|apply aa|refine ah [] ?_|(apply ao;·go_simp))|((with_reducible apply ab);intro X Y;go_simp;(first|(with_reducible refine ⟨_,g1,?_⟩)|(refine ⟨_,g2,?_⟩)|skip);apply Y;clear Y X)
  all_goals go_simp
 ·have h5:¬(w.length:Int)=4:=by omega
  clear hb cP;refine aK Tryz.func47 rfl (by kernel_rfl) rfl fun M0 w0=>?_;simp only [Tryz.ntmps47,Tryz.results47,az];repeat' with_reducible first|apply af|apply ae|apply aF|apply aq|apply aa|refine ah [] ?_|(apply ao;·go_simp)|(apply ab;intro X Y;go_simp;(first|(refine ⟨_,g1,?_⟩)|skip);apply Y;clear Y X)
  all_goals go_simp
theorem PF (s:ByteArray) (hs:s.size≤1000) : VC Tryz.prog 47 [S s] (.tup [evA (evP (aP 32 s)).1,I (evP (aP 32 s)).2]):=by
 by_cases hb:lQ (aP 32 s)=true
 ·have h:=PE s hs hb;unfold evP;rw [if_pos hb];exact h
 have hb2:lQ (aP 32 s)=false:=by simpa using hb
 rw [PD hb2];clear hb2;have g1:=tO s (by omega);have cP:=mi 32 s;have g2:=nx (aP 32 s) ⟨#[]⟩ (by omega);have dE:∀ p∈aP 32 s,p.size≤1000:=fun p hp=>Nat.le_trans (lM hp) hs;unfold lQ at hb;generalize aP 32 s=w at *;have h4:w.length=4:=by
  by_cases h:w.length=4
  ·exact h
  ·rw [decide_eq_false h] at hb;simp at hb
 have b9:cQ (isT w ⟨#[]⟩) 0 w.length=false:=by
  rw [decide_eq_true h4] at hb;simpa using hb
 rw [b9] at g2;have h5:(w.length:Int)=4:=by omega
 have a0:w[0]=tat w 0:=(bc (by omega)).symm;have a1:w[1]=tat w 1:=(bc (by omega)).symm;have a2:w[2]=tat w 2:=(bc (by omega)).symm;have a3:w[3]=tat w 3:=(bc (by omega)).symm;have z1:(tat w 1).size≤1000:=by rw [←a1];exact dE _ (List.getElem_mem _)
 have z2:(tat w 2).size≤1000:=by rw [←a2];exact dE _ (List.getElem_mem _)
 have z3:(tat w 3).size≤1000:=by rw [←a3];exact dE _ (List.getElem_mem _)
 have g4:=tL (tat w 1) z1;have g5:=tL (tat w 2) z2;have g6:=ny (tat w 3) (by omega);have gw:=IB;have dC:=PC (tat w 0);have bJ:=ID (tat w 0);have HK:=Lib.hid bJ;rw [←dC];obtain ⟨RR,k_⟩ : ∃ RR,evR (jB (tat w 0) 6) (dv (tat w 1).data.toList) (dv (tat w 2).data.toList) (tat w 3)=RR:=⟨_,rfl⟩
 rw [k_];unfold evR nv at k_;have HR:=Lib.hid k_;have IC:wordsL.length=6:=rfl;clear b9 hb dE cP z1 z2 z3 dC k_ bJ;generalize tat w 0=W0 at *;generalize tat w 3=W3 at *;generalize dv (tat w 1).data.toList=N1 at *;generalize dv (tat w 2).data.toList=N2 at *;refine aK Tryz.func47 rfl (by kernel_rfl) rfl fun M0 w0=>?_;simp only [Tryz.ntmps47,Tryz.results47,az];repeat' first|(with_reducible first|apply af|apply ae|apply aj|apply ar|apply aa|refine ah [] ?_|(apply ak;·go_simp))|((with_reducible apply ab);intro X Y;go_simp;(first|(with_reducible refine ⟨_,g1,?_⟩)|(refine ⟨_,g2,?_⟩)|skip);apply Y;clear Y X)
 apply iy [2,4,5] (fun k=>[(6,I k)]) (fun k=>([some (.box [I 0,I 0,I 0,S ⟨#[]⟩]),some (.box [I (jB W0 k),I 0,I 0,S W3])] : Hp))  (6)
 ·go_simp<;>exact rfl
 ·go_simp
 ·intro k hk K hK;obtain ⟨w1,w2,w3,w4,w5,w6⟩:=ixs (m:=k) (by omega);have PG:k < wordsL.length:=by omega
  have PH:(k:Int) < 6:=by omega
  have bo:=(bc PG).symm;by_cases he:tat wordsL k=W0
  ·have e:jB W0 (k+1)=k:=by rw [jB,if_pos he]
   rw [e] at hK;generalize jB W0 k=X at *;repeat' first|(with_reducible first|apply af|apply ae|apply aj|apply ar|apply aT|apply aa|refine ah [] ?_|apply aI|(apply ao;·go_simp)|((first|apply ab|apply aJ);intro X Y;go_simp;(first|(refine ⟨_,gw,?_⟩)|skip);apply Y;clear Y X))|((refine aQ 8 8 [] rfl (by kernel_rfl) ?_);simp only [aA])
   refine hK _ ?_;go_simp
  ·have e:jB W0 (k+1)=jB W0 k:=by rw [jB,if_neg he]
   rw [e] at hK;generalize jB W0 k=X at *;repeat' first|(with_reducible first|apply af|apply ae|apply aj|apply ar|apply aT|apply aa|refine ah [] ?_|apply aI|(apply ao;·go_simp)|(apply ak;·go_simp)|((first|apply ab|apply aJ);intro X Y;go_simp;(first|(refine ⟨_,gw,?_⟩)|skip);apply Y;clear Y X))|((refine aQ 8 8 [] rfl (by kernel_rfl) ?_);simp only [aA])
   refine hK _ ?_;go_simp
 ·intro K;have kE:=HK.out 6;generalize jB W0 6=X at *;have hr:=HR.out;by_cases PI:X < 0
  ·rw [if_pos (.inl PI)] at hr;subst hr;repeat' with_reducible first|apply af|apply ae|apply aW|apply aF|apply aq|apply aX|apply aY|apply aa|refine ah [] ?_|(apply ao;·go_simp)|(apply ak;·go_simp)|(apply ab;intro X Y;go_simp;(first|(refine ⟨_,gw,?_⟩)|(refine ⟨_,g4,?_⟩)|(refine ⟨_,g5,?_⟩)|skip);apply Y;clear Y X)
   go_simp
  cases N1 with
  | none=>
   rw [if_pos (.inr (.inl rfl))] at hr;subst hr;simp only [kh] at g4;repeat' with_reducible first|apply af|apply ae|apply aW|apply aF|apply aq|apply aX|apply aY|apply aa|refine ah [] ?_|(apply ao;·go_simp)|(apply ak;·go_simp)|(apply ab;intro X Y;go_simp;(first|(refine ⟨_,gw,?_⟩)|(refine ⟨_,g4,?_⟩)|(refine ⟨_,g5,?_⟩)|skip);apply Y;clear Y X)
   go_simp
  | some n1=>
   simp only [kh] at g4;cases N2 with
   | none=>
    rw [if_pos (.inr (.inr rfl))] at hr;subst hr;simp only [kh] at g5;repeat' with_reducible first|apply af|apply ae|apply aW|apply aF|apply aq|apply aX|apply aY|apply aa|refine ah [] ?_|(apply ao;·go_simp)|(apply ak;·go_simp)|(apply ab;intro X Y;go_simp;(first|(refine ⟨_,gw,?_⟩)|(refine ⟨_,g4,?_⟩)|(refine ⟨_,g5,?_⟩)|skip);apply Y;clear Y X)
    go_simp
   | some n2=>
    simp only [kh] at g5;rw [if_neg (by simp;omega)] at hr;simp only [Option.getD_some] at hr;by_cases tX:X=4
    ·subst tX;rw [if_pos rfl] at hr;by_cases hc:W3=⟨#[45]⟩
     ·rw [if_pos hc] at hr;subst hr;subst hc;repeat' with_reducible first|apply af|apply ae|apply aW|apply aF|apply aq|apply aj|apply aX|apply aY|apply aa|refine ah [] ?_|(apply ao;·go_simp)|(apply ak;·go_simp)|(apply ab;intro X Y;go_simp;(first|(refine ⟨_,gw,?_⟩)|(refine ⟨_,g4,?_⟩)|(refine ⟨_,g5,?_⟩)|skip);apply Y;clear Y X)
      go_simp
     ·rw [if_neg hc] at hr;subst hr;repeat' with_reducible first|apply af|apply ae|apply aW|apply aF|apply aq|apply aj|apply aX|apply aY|apply aa|refine ah [] ?_|(apply ao;·go_simp)|(apply ak;·go_simp)|(apply ab;intro X Y;go_simp;(first|(refine ⟨_,gw,?_⟩)|(refine ⟨_,g4,?_⟩)|(refine ⟨_,g5,?_⟩)|skip);apply Y;clear Y X)
      go_simp
    ·rw [if_neg tX] at hr;cases hn:bP W3
     ·rw [hn] at g6 hr;rw [if_neg (by decide)] at hr;subst hr;repeat' with_reducible first|apply af|apply ae|apply aW|apply aF|apply aq|apply aj|apply aX|apply aY|apply aa|refine ah [] ?_|(apply ao;·go_simp)|(apply ak;·go_simp)|(apply ab;intro X Y;go_simp;(first|(refine ⟨_,gw,?_⟩)|(refine ⟨_,g4,?_⟩)|(refine ⟨_,g5,?_⟩)|(refine ⟨_,g6,?_⟩)|skip);apply Y;clear Y X)
      go_simp
     ·rw [hn] at g6 hr;rw [if_pos rfl] at hr;subst hr;repeat' with_reducible first|apply af|apply ae|apply aW|apply aq|apply aj|apply aX|apply aY|apply aa|refine ah [] ?_|(apply ak;·go_simp)|(apply ab;intro X Y;go_simp;(first|(refine ⟨_,gw,?_⟩)|(refine ⟨_,g4,?_⟩)|(refine ⟨_,g5,?_⟩)|(refine ⟨_,g6,?_⟩)|skip);apply Y;clear Y X)
      go_simp
theorem PJ {x:Ev} (hc:x.car.size≤20) (ht:i64 x.time) (hr:i64 x.rank) : (mj x).size≤1000:=by
 unfold mj;split
 ·rw [kC,IA];have s1:=jY ht;have s2:=jY hr;have s3:=Dm x.kind;have s4:(jk x.car).size≤20:=by
   unfold jk;split
   ·decide
   ·exact hc
  have:(⟨#[32]⟩ : ByteArray).size=1:=rfl;omega
 ·decide
theorem PK (x:Ev) (s:ByteArray) (hc:x.car.size≤9223372036854775807) (hs:s.size≤9223372036854775807) (ht:i64 x.time) (hr:i64 x.rank) : VC Tryz.prog 9 [evA x,S s] (B true):=by
 have ha:=wK;by_cases h1:x.car.size≤20∧s.size≤100
 ·obtain ⟨h2,h3⟩:=h1;have g1:=PB x (by omega) ht hr;have g2:=Py x (by omega) ht hr;have g3:=CS s (by omega);have g4:=PF s (by omega);have g5:=CS (mj x) (PJ h2 ht hr);have i1:=j3 x.kind 0 5;have i2:=j3 x.time (-999999999) 999999999;have i3:=j3 x.rank (-999999999) 999999999;have i4:=ny x.car (by omega);have HB:Hid (inR x.kind 0 5=true→inR x.time (-999999999) 999999999=true→inR x.rank (-999999999) 999999999=true→(x.kind=4↔x.car=⟨#[]⟩)→(x.car=⟨#[]⟩∨bP x.car=true)→evP (aP 32 (mj x))=(x,0)):=
   Lib.hid fun q1 q2 q3 q4 q5=>ND (jt.1 q1) (jt.1 q2) (jt.1 q3) q4 q5
  obtain ⟨kd,tm,rk,car⟩:=x;simp only [evA] at *;have k1:¬(20:Int) < (car.size:Int):=by omega
  have k2:¬(100:Int) < (s.size:Int):=by omega
  clear h2 h3 hc hs ht hr;obtain ⟨y,hy⟩ : ∃ y,evP (aP 32 s)=y:=⟨_,rfl⟩
  rw [hy] at g3 g4;clear hy;obtain ⟨⟨yk,yt,yr,yc⟩,ye⟩:=y;simp only [] at g3 g4;obtain ⟨z,hz⟩ : ∃ z,evP (aP 32 (mj ⟨kd,tm,rk,car⟩))=z:=⟨_,rfl⟩
  rw [hz] at g5 HB;clear hz;generalize mj ⟨kd,tm,rk,car⟩=T at *;by_cases iu:inR kd 0 5=true∧inR tm (-999999999) 999999999=true∧inR rk (-999999999) 999999999=true∧(kd=4↔car=⟨#[]⟩)∧(car=⟨#[]⟩∨bP car=true)
  ·obtain ⟨q1,q2,q3,q4,q5⟩:=iu;have e:=HB.out q1 q2 q3 q4 q5;subst e;simp only [] at g5;rw [q1] at i1;rw [q2] at i2;rw [q3] at i3;clear q1 q2 q3 HB;by_cases h4:kd=4
   ·have dc:=q4.1 h4;subst h4;subst dc;clear q4 q5;refine aK Tryz.func9 rfl (by kernel_rfl) rfl fun M0 w0=>?_;simp only [Tryz.ntmps9,Tryz.results9,az];repeat' first|(with_reducible first|apply af|apply ae|apply aq|apply aj|apply aa|refine ah [] ?_|(apply ak;·go_simp))|((with_reducible apply ab);intro X Y;go_simp;(first|(with_reducible refine ⟨_,ha,?_⟩)|(refine ⟨_,g1,?_⟩)|(refine ⟨_,g3,?_⟩)|(refine ⟨_,g4,?_⟩)|(refine ⟨_,g2,?_⟩)|(with_reducible refine ⟨_,i1,?_⟩)|(with_reducible refine ⟨_,i2,?_⟩)|(with_reducible refine ⟨_,i3,?_⟩)|(refine ⟨_,g5,?_⟩)|skip);apply Y;clear Y X)
    go_simp
   ·have dc:¬car=⟨#[]⟩:=fun h=>h4 (q4.2 h);have iH:¬car=ByteArray.empty:=dc;have hn:=q5.resolve_left dc;rw [hn] at i4;clear q4 q5 hn;refine aK Tryz.func9 rfl (by kernel_rfl) rfl fun M0 w0=>?_;simp only [Tryz.ntmps9,Tryz.results9,az];repeat' first|(with_reducible first|apply af|apply ae|apply aq|apply aj|apply aa|refine ah [] ?_|(apply ak;·go_simp))|((with_reducible apply ab);intro X Y;go_simp;(first|(with_reducible refine ⟨_,ha,?_⟩)|(refine ⟨_,g1,?_⟩)|(refine ⟨_,g3,?_⟩)|(refine ⟨_,g4,?_⟩)|(refine ⟨_,g2,?_⟩)|(with_reducible refine ⟨_,i1,?_⟩)|(with_reducible refine ⟨_,i2,?_⟩)|(with_reducible refine ⟨_,i3,?_⟩)|(with_reducible refine ⟨_,i4,?_⟩)|(refine ⟨_,g5,?_⟩)|skip);apply Y;clear Y X)
    go_simp
  ·clear HB;obtain ⟨⟨zk,zt,zr,zc⟩,ze⟩:=z;simp only [] at g5;generalize PL:inR kd 0 5=E1 at *;generalize PM:inR tm (-999999999) 999999999=E2 at *;generalize PN:inR rk (-999999999) 999999999=E3 at *;generalize PO:bP car=E4 at *;clear PL PM PN PO;cases E1
   ·clear iu;refine aK Tryz.func9 rfl (by kernel_rfl) rfl fun M0 w0=>?_;simp only [Tryz.ntmps9,Tryz.results9,az];repeat' first|(with_reducible first|apply af|apply ae|apply aF|apply aq|apply aj|apply aa|refine ah [] ?_|(apply ao;·go_simp)|(apply ak;·go_simp))|((with_reducible apply ab);intro X Y;go_simp;(first|(with_reducible refine ⟨_,ha,?_⟩)|(refine ⟨_,g1,?_⟩)|(refine ⟨_,g3,?_⟩)|(refine ⟨_,g4,?_⟩)|(refine ⟨_,g2,?_⟩)|(with_reducible refine ⟨_,i1,?_⟩)|skip);apply Y;clear Y X)
    go_simp
   cases E2
   ·clear iu;refine aK Tryz.func9 rfl (by kernel_rfl) rfl fun M0 w0=>?_;simp only [Tryz.ntmps9,Tryz.results9,az];repeat' first|(with_reducible first|apply af|apply ae|apply aF|apply aq|apply aj|apply aa|refine ah [] ?_|(apply ao;·go_simp)|(apply ak;·go_simp))|((with_reducible apply ab);intro X Y;go_simp;(first|(with_reducible refine ⟨_,ha,?_⟩)|(refine ⟨_,g1,?_⟩)|(refine ⟨_,g3,?_⟩)|(refine ⟨_,g4,?_⟩)|(refine ⟨_,g2,?_⟩)|(with_reducible refine ⟨_,i1,?_⟩)|(with_reducible refine ⟨_,i2,?_⟩)|skip);apply Y;clear Y X)
    go_simp
   cases E3
   ·clear iu;refine aK Tryz.func9 rfl (by kernel_rfl) rfl fun M0 w0=>?_;simp only [Tryz.ntmps9,Tryz.results9,az];repeat' first|(with_reducible first|apply af|apply ae|apply aF|apply aq|apply aj|apply aa|refine ah [] ?_|(apply ao;·go_simp)|(apply ak;·go_simp))|((with_reducible apply ab);intro X Y;go_simp;(first|(with_reducible refine ⟨_,ha,?_⟩)|(refine ⟨_,g1,?_⟩)|(refine ⟨_,g3,?_⟩)|(refine ⟨_,g4,?_⟩)|(refine ⟨_,g2,?_⟩)|(with_reducible refine ⟨_,i1,?_⟩)|(with_reducible refine ⟨_,i2,?_⟩)|(with_reducible refine ⟨_,i3,?_⟩)|skip);apply Y;clear Y X)
    go_simp
   by_cases h4:kd=4
   ·by_cases dc:car=⟨#[]⟩
    ·exact absurd ⟨rfl,rfl,rfl,⟨fun _=>dc,fun _=>h4⟩,.inl dc⟩ iu
    ·have iH:¬car=ByteArray.empty:=dc;subst h4;clear iu;refine aK Tryz.func9 rfl (by kernel_rfl) rfl fun M0 w0=>?_;simp only [Tryz.ntmps9,Tryz.results9,az];repeat' first|(with_reducible first|apply af|apply ae|apply aF|apply aq|apply aj|apply aa|refine ah [] ?_|(apply ao;·go_simp)|(apply ak;·go_simp))|((with_reducible apply ab);intro X Y;go_simp;(first|(with_reducible refine ⟨_,ha,?_⟩)|(refine ⟨_,g1,?_⟩)|(refine ⟨_,g3,?_⟩)|(refine ⟨_,g4,?_⟩)|(refine ⟨_,g2,?_⟩)|(with_reducible refine ⟨_,i1,?_⟩)|(with_reducible refine ⟨_,i2,?_⟩)|(with_reducible refine ⟨_,i3,?_⟩)|skip);apply Y;clear Y X)
     go_simp
   ·by_cases dc:car=⟨#[]⟩
    ·subst dc;clear iu;refine aK Tryz.func9 rfl (by kernel_rfl) rfl fun M0 w0=>?_;simp only [Tryz.ntmps9,Tryz.results9,az];repeat' first|(with_reducible first|apply af|apply ae|apply aF|apply aq|apply aj|apply aa|refine ah [] ?_|(apply ao;·go_simp)|(apply ak;·go_simp))|((with_reducible apply ab);intro X Y;go_simp;(first|(with_reducible refine ⟨_,ha,?_⟩)|(refine ⟨_,g1,?_⟩)|(refine ⟨_,g3,?_⟩)|(refine ⟨_,g4,?_⟩)|(refine ⟨_,g2,?_⟩)|(with_reducible refine ⟨_,i1,?_⟩)|(with_reducible refine ⟨_,i2,?_⟩)|(with_reducible refine ⟨_,i3,?_⟩)|skip);apply Y;clear Y X)
     go_simp
    ·have iH:¬car=ByteArray.empty:=dc;cases E4
     ·clear iu;refine aK Tryz.func9 rfl (by kernel_rfl) rfl fun M0 w0=>?_;simp only [Tryz.ntmps9,Tryz.results9,az];repeat' first|(with_reducible first|apply af|apply ae|apply aF|apply aq|apply aj|apply aa|refine ah [] ?_|(apply ao;·go_simp)|(apply ak;·go_simp))|((with_reducible apply ab);intro X Y;go_simp;(first|(with_reducible refine ⟨_,ha,?_⟩)|(refine ⟨_,g1,?_⟩)|(refine ⟨_,g3,?_⟩)|(refine ⟨_,g4,?_⟩)|(refine ⟨_,g2,?_⟩)|(with_reducible refine ⟨_,i1,?_⟩)|(with_reducible refine ⟨_,i2,?_⟩)|(with_reducible refine ⟨_,i3,?_⟩)|(with_reducible refine ⟨_,i4,?_⟩)|skip);apply Y;clear Y X)
      go_simp
     ·exact absurd ⟨rfl,rfl,rfl,⟨fun h=>absurd h h4,fun h=>absurd h dc⟩,.inr rfl⟩ iu
 ·by_cases h2:(20:Int) < (x.car.size:Int)
  ·obtain ⟨kd,tm,rk,car⟩:=x;simp only [evA] at *;clear h1 hc hs;refine aK Tryz.func9 rfl (by kernel_rfl) rfl fun M0 w0=>?_;simp only [Tryz.ntmps9,Tryz.results9,az];repeat' with_reducible first|apply af|apply ae|apply aF|apply aq|apply aj|apply aa|refine ah [] ?_|(apply ao;·go_simp)|(apply ak;·go_simp)|(apply ab;intro X Y;go_simp;(first|(refine ⟨_,ha,?_⟩)|skip);apply Y;clear Y X)
   go_simp
  ·have h3:(100:Int) < (s.size:Int):=by omega
   obtain ⟨kd,tm,rk,car⟩:=x;simp only [evA] at *;clear h1 hc hs;refine aK Tryz.func9 rfl (by kernel_rfl) rfl fun M0 w0=>?_;simp only [Tryz.ntmps9,Tryz.results9,az];repeat' with_reducible first|apply af|apply ae|apply aF|apply aq|apply aj|apply aa|refine ah [] ?_|(apply ao;·go_simp)|(apply ak;·go_simp)|(apply ab;intro X Y;go_simp;(first|(refine ⟨_,ha,?_⟩)|skip);apply Y;clear Y X)
   go_simp
end Go.Proofs.YtoibondihdhnoaaGreatDoor
