/- Texts in one: An event is carried out: what the town is behind it. -/
import Derived.Test.YtoibondihdhnoaaGreatDoorFRK9
import Derived.Test.YtoibondihdhnoaaGreatDoorFRK22
import Derived.Test.YtoibondihdhnoaaGreatDoorFRK21
import Derived.Test.YtoibondihdhnoaaGreatDoorFRK28
namespace Go.Proofs.YtoibondihdhnoaaGreatDoor
open Go.RowKit
set_option maxRecDepth 100000
set_option maxHeartbeats 2000000
theorem J1 (r:Ru) (s:St) (mv:List Sg) (n1 n2:Bool) (x:Ev) (k:Nat) (hx:x.rank=k) (hk:k < s.q.length) (hq:(qat s.q k).length≤1000000) (h0:fx (qat s.q k) x.car < 0) :
  VH Tryz.prog 227 (ct r s mv n1 n2) [.ref 0 0,evA x] [0] (ct r s mv n1 n2) (I 6):=by
 have g1:=ur (qat s.q k) x.car hq;unfold fx at h0;generalize ixP (isT (qat s.q k) x.car) 0 (qat s.q k).length=A at *;obtain ⟨kd,tm,rk,car⟩:=x;simp only at hx;subst hx;simp only [evA];refine dk Tryz.func227 rfl (by kernel_rfl) rfl (fun _=>by kernel_rfl) fun M0 w0 vs=>?_;simp only [Tryz.ntmps227,Tryz.results227,aB];unfold ct;repeat' first|(with_reducible first|apply af|apply ae|apply aT|apply az|apply aa|refine ah [] ?_|apply aR|(apply aw;·go_simp))|((with_reducible first|apply ab|apply aS);intro X Y;go_simp;(first|(refine ⟨_,⟨g1,rfl⟩,?_⟩)|skip);apply Y;clear Y X)|((refine bg 10 10 [] rfl (by kernel_rfl) ?_);simp only [ax])
 go_simp
theorem J2 (r:Ru) (s:St) (mv:List Sg) (n1 n2:Bool) (x:Ev) (k:Nat) (hx:x.rank=k) (hk:k < s.q.length) (hq:(qat s.q k).length≤10000) (h0:¬fx (qat s.q k) x.car < 0) :
  VH Tryz.prog 227 (ct r s mv n1 n2) [.ref 0 0,evA x] [0] (ct r (tu s x k) mv n1 n2) (I 0):=by
 have g1:=ur (qat s.q k) x.car (by omega);obtain ⟨i,e,hi,hh⟩:=Ey (l:=qat s.q k) (c:=x.car) (Classical.byContradiction fun hn=>h0 (vb.2 hn));unfold tu;rw [e,Int.toNat_natCast];unfold fx at e;rw [e] at g1;clear e h0 hh;obtain ⟨kd,tm,rk,car⟩:=x;simp only at hx;subst hx;have hw:=ixs (m:=i) (by omega);obtain ⟨w1,w2,w3,w4,w5,w6⟩:=hw;have bV:i≤(qat s.q k).length:=by omega
 have EL:(i:Int)+1≤((qat s.q k).length:Int):=by omega
 have x_:i+1≤(qat s.q k).length:=hi;have Qi:(i:Int)≤((qat s.q k).length:Int):=by omega
 simp only [evA];refine dk Tryz.func227 rfl (by kernel_rfl) rfl (fun _=>by kernel_rfl) fun M0 w0 vs=>?_;simp only [Tryz.ntmps227,Tryz.results227,aB];unfold ct;repeat' with_reducible first|apply af|apply ae|apply aa|refine ah [] ?_|(apply ab;intro X Y;go_simp;apply Y;clear Y X)
 refine bg 10 10 [] rfl (by kernel_rfl) ?_;simp only [ax];repeat' first|(with_reducible first|apply af|apply ae|apply ar|apply aa|refine ah [] ?_|apply aR|(apply ak;·go_simp))|((with_reducible first|apply ab|apply aS);intro X Y;go_simp;(first|(refine ⟨_,⟨g1,rfl⟩,?_⟩)|skip);apply Y;clear Y X)
 refine mZ 15 [0,22,22,23,23,24,24,25,25,26,3,27,27,28] (by kernel_rfl) (by kernel_rfl) (by kernel_rfl) (fun v=>v) uM rfl ⟨rfl,rfl⟩ ?_;simp only [List.take];repeat' with_reducible first|apply aR|(apply aS;intro X Y;go_simp;apply Y;clear Y X)
 refine ⟨_,_,ta (by exact rfl) (by exact rfl) (by go_simp;exact Ex _ _ (by repeat' (first|exact TxO.one _|exact TxO.map _|apply TxO.take|apply TxO.drop|apply TxO.tail)) (by repeat' (first|exact TxO.one _|exact TxO.map _|apply TxO.take|apply TxO.drop|apply TxO.tail)) (by simp;omega)) (by go_simp),?_,?_,?_⟩
 ·simp only [List.forall_mem_cons];go_simp
 ·repeat' with_reducible first|apply aR|(apply aS;intro X Y;go_simp;apply Y;clear Y X)
  simp only [List.forall_mem_cons];go_simp
 go_simp;refine bz [] 2 ⟨rfl,rfl⟩ ?_;simp only [ax];repeat' with_reducible first|apply aa|(apply ab;intro X Y;go_simp;apply Y;clear Y X)
 apply cR;repeat' with_reducible first|apply af|apply ae|apply az|apply aa|refine ah [] ?_|(apply ab;intro X Y;go_simp;apply Y;clear Y X)
 go_simp;rw [←lk];congr 1;rw [List.eraseIdx_eq_take_drop_succ,List.map_append,List.map_take,List.map_drop]
theorem EM:∀ (q:List (List ByteArray)) (i:Nat),(∀ l∈q,l.length≤12)→cB i q≤q.length*(12*(i+q.length))
 | [],_,_=>by simp [cB]
 | l::q,i,h=>by
  have h1:=EM q (i+1) fun x hx=>h x (List.mem_cons_of_mem _ hx);have h2:=h l (List.mem_cons_self ..);rw [cB,List.length_cons];have h3:i*l.length≤i*12:=Nat.mul_le_mul_left _ h2;have e:(q.length+1)*(12*(i+(q.length+1)))=q.length*(12*(i+1+q.length))+12*(i+1+q.length):=by
   rw [show i+(q.length+1)=i+1+q.length by omega,Nat.add_mul,Nat.one_mul]
  omega
theorem A_ {r:Ru} {s:St} (hr:RuOK r) (h:Inv r s) : cB 0 s.q≤500:=by
 have h1:=EM s.q 0 fun l hl=>by
  obtain ⟨k,hk,rfl⟩:=List.getElem_of_mem hl;have:=h.fit k hk;have:=hr.pl k (by rw [←h.len];exact hk);rw [←eM hk];omega
 have h6:s.q.length≤6:=by rw [h.len];exact hr.n6
 have:s.q.length*(12*(0+s.q.length))≤6*(12*(0+6)):=Nat.mul_le_mul h6 (by omega);omega
def doR (r:Ru) (s:St) (x:Ev) (k:Nat) : St×List Sg:=if doE r s x k=0 then (doS r s x k,doM r s x k) else (s,[])
theorem J3 (r:Ru) (s:St) (n1:Bool) (x:Ev) (k:Nat) (hr:RuOK r) (hi:Inv r s) (hx:x.rank=k) (hk:k < s.q.length) (kW:0≤x.kind∧x.kind≤5) (ht:0≤x.time∧x.time≤604800) :
  ∃ a b,VH Tryz.prog (224+x.kind.toNat) (ct r s [] n1 true) [.ref 0 0,evA x] [0] (ct r (doR r s x k).1 (doR r s x k).2 a b) (I (doE r s x k))∧(doE r s x k≠0→a=n1∧b=true):=by
 have hlen:r.ranks.length=s.q.length:=hi.len.symm;have mD:jO r s.q.length:=by rw [hi.len];exact hr.feed
 have h6:s.q.length≤6:=by rw [hi.len];exact hr.n6
 have dL:∀ j,j < s.q.length→(qat s.q j).length≤12:=fun j hj=>by
  have:=hi.fit j hj;have:=hr.pl j (by omega);omega
 have tC:=dL k hk;have r8:=hi.tkl;have qw:k < r.ranks.length:=by omega
 unfold doR;by_cases hd:doE r s x k=0
 ·rw [if_pos hd,hd];simp only;unfold doE at hd;unfold doS doM;by_cases k0:x.kind=0
  ·rw [if_pos k0] at hd ⊢;rw [if_neg (by omega),k0];unfold va rR;by_cases hf:(rat r.ranks k).feeder = -1
   ·by_cases hT:eN s.tk x.car < 0
    ·rw [if_neg (by omega)];exact ⟨_,_,JS r s [] n1 true x k hx hk hlen (by omega) (fun j hj=>by have:=dL j hj;omega) (by omega) hf hT hd,fun h=>absurd rfl h⟩
    ·obtain ⟨i,e,cC,_⟩:=tw (Classical.byContradiction fun hh=>hT (pC.2 hh));rw [if_pos (by omega),e,Int.toNat_natCast];exact ⟨_,_,JT r s [] n1 true x k hx hk hlen (by omega) (fun j hj=>by have:=dL j hj;omega) (by omega) hf i e cC hd,fun h=>absurd rfl h⟩
   ·obtain ⟨p1,p2,p3⟩:=hr.feedN qw hf;by_cases hT:eN s.tk x.car < 0
    ·rw [if_neg (by omega)];exact ⟨_,_,JU r s [] n1 true x k hx hk hlen (by omega) (fun j hj=>by have:=dL j hj;omega) (by omega) (feedN r k) p1 (by omega) hT hd,fun h=>absurd rfl h⟩
    ·obtain ⟨i,e,cC,_⟩:=tw (Classical.byContradiction fun hh=>hT (pC.2 hh));rw [if_pos (by omega),e,Int.toNat_natCast];exact ⟨_,_,JV r s [] n1 true x k hx hk hlen (by omega) (fun j hj=>by have:=dL j hj;omega) (by omega) (feedN r k) p1 (by omega) i e cC hd,fun h=>absurd rfl h⟩
  rw [if_neg k0] at hd ⊢;by_cases k1:x.kind=1
  ·rw [if_pos k1] at hd ⊢;rw [if_neg (by omega),k1];exact ⟨_,_,Jq r s [] n1 true x k hx hk hlen (by omega) hd,fun h=>absurd rfl h⟩
  rw [if_neg k1] at hd ⊢;by_cases k2:x.kind=2
  ·rw [if_pos k2] at hd ⊢;rw [if_neg (by omega),k2];exact ⟨_,_,JF r s [] n1 true x k hx hk hlen (by have:=hr.bk;omega) (by omega) hd,fun h=>absurd rfl h⟩
  rw [if_neg k2] at hd ⊢;by_cases k3:x.kind=3
  ·rw [if_pos k3] at hd ⊢;rw [if_neg (by omega),k3];unfold rQ at hd;exact ⟨_,_,J2 r s [] n1 true x k hx hk (by omega) (fun hh=>by rw [if_pos hh] at hd;cases hd),fun h=>absurd rfl h⟩
  rw [if_neg k3] at hd ⊢;by_cases k4:x.kind=4
  ·rw [if_pos k4] at hd ⊢;rw [if_pos k4,k4];have hf:(rat r.ranks k).feeder≠-1:=fun hh=>by
    unfold jG at hd;rw [if_pos hh] at hd;cases hd
   obtain ⟨p1,p2,p3⟩:=hr.feedN qw hf;exact ⟨_,_,JM r s [] n1 true x k (feedN r k) hx hk hlen p1 (by omega) (by omega) (by omega) (by simp) hd,fun h=>absurd rfl h⟩
  rw [if_neg k4] at hd ⊢;rw [if_neg k4];have k5:x.kind=5:=by omega
  rw [k5];unfold mA at hd;split at hd
  ·cases hd
  ·rename_i kU;have hT:¬eN s.tk x.car < 0:=fun hh=>kU (.inl hh);obtain ⟨i,e,cC,_⟩:=tw (Classical.byContradiction fun hh=>hT (pC.2 hh));unfold tv at hd kU;rw [e,Int.toNat_natCast] at hd kU;have h0:(aI s.tk i).rank=k:=Classical.byContradiction fun hh=>kU (.inr (by rw [hx];exact hh));have mC:=hi.tkt _ (show aI s.tk i∈s.tk by rw [gb cC];exact List.getElem_mem cC);have:=hi.t0;unfold u_ rR;rw [e,Int.toNat_natCast];exact ⟨_,_,JQ r s [] n1 true x k i hx hk hlen (by omega) e cC h0 ht (by omega) (by omega) hd,fun h=>absurd rfl h⟩
 ·rw [if_neg hd];simp only;refine ⟨n1,true,?_,fun _=>⟨rfl,rfl⟩⟩;unfold doE at hd ⊢;by_cases k0:x.kind=0
  ·rw [if_pos k0] at hd ⊢;rw [k0];exact JR r s [] n1 true x k hx hk hlen mD (by omega) (fun j hj=>by have:=dL j hj;omega) hd
  rw [if_neg k0] at hd ⊢;by_cases k1:x.kind=1
  ·rw [if_pos k1] at hd ⊢;rw [k1];exact Jp r s [] n1 true x k hx hk hlen (by omega) hd
  rw [if_neg k1] at hd ⊢;by_cases k2:x.kind=2
  ·rw [if_pos k2] at hd ⊢;rw [k2];exact Js r s [] n1 true x k hx hk hlen hd
  rw [if_neg k2] at hd ⊢;by_cases k3:x.kind=3
  ·rw [if_pos k3] at hd ⊢;rw [k3];unfold rQ at hd ⊢;by_cases hh:fx (qat s.q k) x.car < 0
   ·rw [if_pos hh];exact J1 r s [] n1 true x k hx hk (by omega) hh
   ·rw [if_neg hh] at hd;exact absurd rfl hd
  rw [if_neg k3] at hd ⊢;by_cases k4:x.kind=4
  ·rw [if_pos k4] at hd ⊢;rw [k4];exact JL r s [] n1 true x k hx hk hlen mD hd
  rw [if_neg k4] at hd ⊢;have k5:x.kind=5:=by omega
  rw [k5];unfold mA at hd ⊢;by_cases hT:eN s.tk x.car < 0
  ·rw [if_pos (.inl hT)];exact JN r s [] n1 true x k hx (by omega) hT
  ·obtain ⟨i,e,cC,_⟩:=tw (Classical.byContradiction fun hh=>hT (pC.2 hh));unfold tv at hd ⊢;rw [e,Int.toNat_natCast] at hd ⊢;by_cases h0:(aI s.tk i).rank=k
   ·have hc:¬((i:Int) < 0∨(aI s.tk i).rank≠x.rank):=by rw [hx];omega
    rw [if_neg hc] at hd ⊢;have mC:=hi.tkt _ (show aI s.tk i∈s.tk by rw [gb cC];exact List.getElem_mem cC);have:=hi.t0;exact JP r s [] n1 true x k i hx hk hlen (by omega) e cC h0 ht (by omega) hd
   ·rw [if_pos (.inr (by rw [hx];exact h0))];exact JO r s [] n1 true x k i hx (by omega) e cC h0
theorem J4 {a b c:Int} (h:fst [a,b]≠0) : fst [a,b,c]=fst [a,b]:=by
 by_cases h1:a=0
 ·subst h1;by_cases h2:b=0
  ·subst h2;exact absurd rfl h
  ·simp [fst,h2]
 ·simp [fst,h1]
def apR (r:Ru) (s:St) (x:Ev) : St×List Sg:=if apE r s x=0 then apU r s x else (s,[])
theorem EN (r:Ru) (s:St) (mv:List Sg) (n1:Bool) (x:Ev) (hr:RuOK r) (hi:Inv r s) (hc:x.car.size≤1000) :
  ∃ a,VH Tryz.prog 128 (fY r s mv n1) [.ref 0 0,evA x] [0] (fY r (apR r s x).1 (apR r s x).2 a) (I (apE r s x)):=by
 have hn:r.ranks.length≤1000000:=by have:=hr.n6;omega
 unfold apR;by_cases h0:fst [evE r x,unl (decide (s.time≤x.time)) 9]=0
 ·have oL:=h0;rw [cj,cj] at oL;have hE:apE r s x=doE r s x x.rank.toNat:=by
   unfold apE;rw [oL.1,oL.2.1];simp only [fst,ne_eq,not_true_eq_false,if_false];split
   ·rfl
   ·rename_i h;exact (Classical.byContradiction h).symm
  have J5:=ve oL.1;have hx:x.rank=(x.rank.toNat:Int):=by omega
  have hk:x.rank.toNat < s.q.length:=by rw [hi.len];omega
  have ht:=xO oL.1;have kW:=vd oL.1;obtain ⟨a,b,hd,yb⟩:=J3 r s n1 x x.rank.toNat hr hi hx hk kW ht;rw [hE];by_cases he:doE r s x x.rank.toNat=0
  ·rw [if_pos he];have EO:=hi.doS hr oL.1 (of_decide_eq_true (ft (by decide) oL.2.1)) hx he;unfold doR at hd;rw [if_pos he] at hd;have pn:(doM r s x x.rank.toNat).length≤2:=by
    unfold doM;split
    ·simp [upM]
    ·simp
   have J6:=A_ hr EO;exact ⟨a,EK r s (doS r s x x.rank.toNat) (apU r s x).1 mv (doM r s x x.rank.toNat) (apU r s x).2 n1 a b x _ hn hc h0 kW hd
    (.inr ⟨he,hr,EO,by change cB 0 (doS r s x x.rank.toNat).q≤500 at J6;omega,⟨_,Nat.le_refl _,rfl⟩⟩)⟩
  ·rw [if_neg he];unfold doR at hd;rw [if_neg he] at hd;exact ⟨a,EK r s s s mv [] [] n1 a b x _ hn hc h0 kW hd (.inl ⟨he,rfl,rfl⟩)⟩
 ·have hE:apE r s x=fst [evE r x,unl (decide (s.time≤x.time)) 9]:=by
   unfold apE;exact J4 h0
  rw [hE,if_neg h0];exact ⟨n1,JY r s mv n1 x hn hc h0⟩
end Go.Proofs.YtoibondihdhnoaaGreatDoor
