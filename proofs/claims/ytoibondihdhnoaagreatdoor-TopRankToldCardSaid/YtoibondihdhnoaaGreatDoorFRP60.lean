/- Texts in one: Walks: the text of an event. -/
import Derived.Test.YtoibondihdhnoaaGreatDoorFRP9
import Derived.Test.YtoibondihdhnoaaGreatDoorFRP41
import Derived.Test.YtoibondihdhnoaaGreatDoorFRP46
namespace Go.Proofs.YtoibondihdhnoaaGreatDoor
open Go.RowKit Go.Shelf
set_option maxRecDepth 100000
set_option maxHeartbeats 2000000
theorem PZ (a:ByteArray) : (bl a).length=a.size:=pX a
theorem IA (a b c d s:ByteArray) : (Lib.join ([a,b,c,d].map bl) (bl s)).length=a.size+s.size+b.size+s.size+c.size+s.size+d.size:=by
 simp only [←PZ];rw [List.map_cons,Lib.join_cons];simp [Lib.joinTail];omega
theorem IB (k:Int) : (kF k).size≤8:=by
 unfold kF;generalize k.toNat=n;rcases n with _|_|_|_|_|_|n
 all_goals first|decide|simp [mq,kdL]
def P2:List ByteArray:=[⟨#[97,114,114,105,118,101]⟩,⟨#[115,101,114,118,101]⟩,⟨#[100,101,99,108,105,110,101]⟩,⟨#[108,101,97,118,101]⟩,⟨#[99,97,108,108]⟩,⟨#[114,101,116,117,114,110]⟩]
def sS (l:List ByteArray) (j:Nat) : Bool:=!decide (tat l j=⟨#[]⟩)
def orT (l:List ByteArray) : ByteArray:=if ixP (sS l) 0 l.length < 0 then ⟨#[]⟩ else tat l (ixP (sS l) 0 l.length).toNat
theorem P3 (l:List ByteArray) (hl:l.length≤1000) : VC Tryz.prog 104 [gG l] (S (orT l)):=by
 obtain ⟨R,hR⟩ : ∃ R,orT l=R:=⟨_,rfl⟩
 rw [hR];unfold orT at hR;have HR:=Lib.hid hR;clear hR;refine aP Tryz.func104 rfl (by kernel_rfl) rfl fun M0 w0=>?_;simp only [Tryz.ntmps104,Tryz.results104,aF];repeat' with_reducible first|apply af|apply ae|apply aB|apply aa|refine ah [] ?_|(apply ab;intro X Y;go_simp;apply Y;clear Y X)
 apply eo [3,6,7] (fun k=>[(8,I k)]) (fun k=>([] : Hp)) (sS l) (l.length)
 ·go_simp<;>exact rfl
 ·go_simp
 ·intro k hk HB HP K hK;obtain ⟨w1,w2,w3,w4,w5,w6⟩:=ixs (m:=k) (by omega);have hp:l[k]=⟨#[]⟩:=by
   have:=HP.out;simpa [sS,dp hk] using this
  repeat' with_reducible first|apply af|apply ae|apply au|apply aB|apply bp|apply aa|refine ah [] ?_|(apply aw;·go_simp)|(apply ar;·go_simp)|(apply ab;intro X Y;go_simp;apply Y;clear Y X)
  refine hK _ ?_;go_simp
 ·intro k hk HB HP K;have hp:¬l[k]=⟨#[]⟩:=by
   have:=HP.out;simpa [sS,dp hk] using this
  have kZ:¬l[k]=ByteArray.empty:=hp;have e:=HR.out;rw [jw hk HB.out HP.out,if_neg (by omega),Int.toNat_natCast,dp hk] at e;subst e;repeat' with_reducible first|apply af|apply ae|apply aZ|apply ax|apply au|apply aB|apply cX|apply aa|refine ah [] ?_|(apply aw;·go_simp)|(apply ab;intro X Y;go_simp;apply Y;clear Y X)
  go_simp
 ·intro HB K;have e:=HR.out;rw [kr HB.out,if_pos (by decide)] at e;subst e;repeat' with_reducible first|apply af|apply ae|apply bP|apply ax|apply bQ|apply bT|apply aa|refine ah [] ?_|(apply ar;·go_simp)|(apply ab;intro X Y;go_simp;apply Y;clear Y X)
  go_simp
theorem P4 (c:ByteArray) : VC Tryz.prog 104 [gG [c,⟨#[45]⟩]] (S (jO c)):=by
 have g:=P3 [c,⟨#[45]⟩] (by simp);have e:orT [c,⟨#[45]⟩]=jO c:=by
  unfold orT jO;by_cases hc:c=⟨#[]⟩
  ·subst hc;rfl
  ·have:ixP (sS [c,⟨#[45]⟩]) 0 [c,⟨#[45]⟩].length=0:=by simp [ixP,sS,tat,hc]
   rw [this,if_neg (by decide),if_neg hc];rfl
 rw [e] at g;exact g
theorem P5 (x:Ev) (hc:x.car.size≤1000) (ht:i64 x.time) (hr:i64 x.rank) : VC Tryz.prog 45 [evA x] (S (nY x)):=by
 have i1:=jS x.kind 0 5;have g1:=tQ x.time ht;have g2:=tQ x.rank hr;have g3:=P4 x.car;have s1:=o9 ht;have s2:=o9 hr;have s3:=IB x.kind;have s4:(jO x.car).size≤1000:=by
  unfold jO;split
  ·decide
  ·exact hc
 have g4:=vT [kF x.kind,dr x.time,dr x.rank,jO x.car] ⟨#[32]⟩ (by
  rw [IA];have:(⟨#[32]⟩ : ByteArray).size=1:=rfl;omega) (by simp)
 obtain ⟨kd,tm,rk,car⟩:=x;simp only [evA] at *;unfold nY;clear s1 s2 s3 s4 hc ht hr;cases hD:inR kd 0 5
 ·rw [hD] at i1;clear hD g4;refine aP Tryz.func45 rfl (by kernel_rfl) rfl fun M0 w0=>?_;simp only [Tryz.ntmps45,Tryz.results45,aF];repeat' with_reducible first|apply af|apply ae|apply aZ|apply ax|apply aa|refine ah [] ?_|(apply aw;·go_simp)|(apply ab;intro X Y;go_simp;(first|(refine ⟨_,i1,?_⟩)|skip);apply Y;clear Y X)
  go_simp
 ·rw [hD] at i1;have hk:=lI.1 hD;have pJ:kd=0∨kd=1∨kd=2∨kd=3∨kd=4∨kd=5:=by omega
  simp only;clear hD hk;generalize jO car=C at *;generalize dr tm=D1 at *;generalize dr rk=D2 at *;have e0:kF 0=⟨#[97,114,114,105,118,101]⟩:=rfl;have e1:kF 1=⟨#[115,101,114,118,101]⟩:=rfl;have e2:kF 2=⟨#[100,101,99,108,105,110,101]⟩:=rfl;have e3:kF 3=⟨#[108,101,97,118,101]⟩:=rfl;have e4:kF 4=⟨#[99,97,108,108]⟩:=rfl;have e5:kF 5=⟨#[114,101,116,117,114,110]⟩:=rfl;rcases pJ with rfl|rfl|rfl|rfl|rfl|rfl
  all_goals
   first
    | rw [e0] at g4 ⊢
    | rw [e1] at g4 ⊢
    | rw [e2] at g4 ⊢
    | rw [e3] at g4 ⊢
    | rw [e4] at g4 ⊢
    | rw [e5] at g4 ⊢
   clear e0 e1 e2 e3 e4 e5;generalize fh _ ⟨#[32]⟩=T at *;refine aP Tryz.func45 rfl (by kernel_rfl) rfl fun M0 w0=>?_;simp only [Tryz.ntmps45,Tryz.results45,aF];repeat' first|(with_reducible first|apply af|apply ae|apply ax|apply au|apply aa|refine ah [] ?_|apply aT|(apply ar;·go_simp))|((with_reducible first|apply ab|apply aU);intro X Y;go_simp;(first|(with_reducible refine ⟨_,i1,?_⟩)|(with_reducible refine ⟨_,g1,?_⟩)|(with_reducible refine ⟨_,g2,?_⟩)|(refine ⟨_,g3,?_⟩)|(refine ⟨_,g4,?_⟩)|skip);apply Y;clear Y X)|((refine bc 18 18 [] rfl (by kernel_rfl) ?_);simp only [az])
   go_simp
def IC (a:ByteArray) : Nat→Int
 | 0=>-1
 | k+1=>if tat P2 k=a then (k:Int) else IC a k
@[go_sem] theorem TB (a:ByteArray) : IC a 0 = -1:=rfl
theorem P6 {x:Ev} (hc:x.car.size≤20) (ht:i64 x.time) (hr:i64 x.rank) : (nY x).size≤1000:=by
 unfold nY;split
 ·rw [o8,IA];have s1:=o9 ht;have s2:=o9 hr;have s3:=IB x.kind;have s4:(jO x.car).size≤20:=by
   unfold jO;split
   ·decide
   ·exact hc
  have:(⟨#[32]⟩ : ByteArray).size=1:=rfl;omega
 ·decide
end Go.Proofs.YtoibondihdhnoaaGreatDoor
