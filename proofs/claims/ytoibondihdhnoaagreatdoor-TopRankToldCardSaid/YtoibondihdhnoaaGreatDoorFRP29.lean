/- Texts in one: An event is carried out: what the town is behind it. -/
import Derived.Test.YtoibondihdhnoaaGreatDoorFRP9
import Derived.Test.YtoibondihdhnoaaGreatDoorFRP22
import Derived.Test.YtoibondihdhnoaaGreatDoorFRP21
import Derived.Test.YtoibondihdhnoaaGreatDoorFRP28
namespace Go.Proofs.YtoibondihdhnoaaGreatDoor
open Go.RowKit
set_option maxRecDepth 100000
set_option maxHeartbeats 2000000
theorem Lc (r:Ru) (s:St) (mv:List Sg) (n1 n2:Bool) (x:Ev) (k:Nat) (hx:x.rank=k) (hk:k < s.q.length) (hq:(qat s.q k).length≤1000000) (h0:fH (qat s.q k) x.car < 0) :
  VH Tryz.prog 227 (ct r s mv n1 n2) [.ref 0 0,evA x] [0] (ct r s mv n1 n2) (I 6):=by
 have g1:=uC (qat s.q k) x.car hq;unfold fH at h0;generalize ixP (isT (qat s.q k) x.car) 0 (qat s.q k).length=A at *;obtain ⟨kd,tm,rk,car⟩:=x;simp only at hx;subst hx;simp only [evA];refine fi Tryz.func227 rfl (by kernel_rfl) rfl (fun _=>by kernel_rfl) fun M0 w0 vs=>?_;simp only [Tryz.ntmps227,Tryz.results227,aF];unfold ct;repeat' first|(with_reducible first|apply af|apply ae|apply aZ|apply ax|apply aa|refine ah [] ?_|apply aT|(apply aw;·go_simp))|((with_reducible first|apply ab|apply aU);intro X Y;go_simp;(first|(refine ⟨_,⟨g1,rfl⟩,?_⟩)|skip);apply Y;clear Y X)|((refine bc 10 10 [] rfl (by kernel_rfl) ?_);simp only [az])
 go_simp
theorem Ld (r:Ru) (s:St) (mv:List Sg) (n1 n2:Bool) (x:Ev) (k:Nat) (hx:x.rank=k) (hk:k < s.q.length) (hq:(qat s.q k).length≤10000) (h0:¬fH (qat s.q k) x.car < 0) :
  VH Tryz.prog 227 (ct r s mv n1 n2) [.ref 0 0,evA x] [0] (ct r (tC s x k) mv n1 n2) (I 0):=by
 have g1:=uC (qat s.q k) x.car (by omega);obtain ⟨i,e,hi,hh⟩:=Ff (l:=qat s.q k) (c:=x.car) (Classical.byContradiction fun hn=>h0 (xV.2 hn));unfold tC;rw [e,Int.toNat_natCast];unfold fH at e;rw [e] at g1;clear e h0 hh;obtain ⟨kd,tm,rk,car⟩:=x;simp only at hx;subst hx;have hw:=ixs (m:=i) (by omega);obtain ⟨w1,w2,w3,w4,w5,w6⟩:=hw;have bM:i≤(qat s.q k).length:=by omega
 have Fw:(i:Int)+1≤((qat s.q k).length:Int):=by omega
 have Fx:i+1≤(qat s.q k).length:=hi;have RW:(i:Int)≤((qat s.q k).length:Int):=by omega
 simp only [evA];refine fi Tryz.func227 rfl (by kernel_rfl) rfl (fun _=>by kernel_rfl) fun M0 w0 vs=>?_;simp only [Tryz.ntmps227,Tryz.results227,aF];unfold ct;repeat' with_reducible first|apply af|apply ae|apply aa|refine ah [] ?_|(apply ab;intro X Y;go_simp;apply Y;clear Y X)
 refine bc 10 10 [] rfl (by kernel_rfl) ?_;simp only [az];repeat' first|(with_reducible first|apply af|apply ae|apply au|apply aa|refine ah [] ?_|apply aT|(apply ar;·go_simp))|((with_reducible first|apply ab|apply aU);intro X Y;go_simp;(first|(refine ⟨_,⟨g1,rfl⟩,?_⟩)|skip);apply Y;clear Y X)
 refine mJ 15 [0,22,22,23,23,24,24,25,25,26,3,27,27,28] (by kernel_rfl) (by kernel_rfl) (by kernel_rfl) (fun v=>v) uV rfl ⟨rfl,rfl⟩ ?_;simp only [List.take];repeat' with_reducible first|apply aT|(apply aU;intro X Y;go_simp;apply Y;clear Y X)
 refine ⟨_,_,th (by exact rfl) (by exact rfl) (by go_simp;exact Fe _ _ (by repeat' (first|exact TxO.one _|exact TxO.map _|apply TxO.take|apply TxO.drop|apply TxO.tail)) (by repeat' (first|exact TxO.one _|exact TxO.map _|apply TxO.take|apply TxO.drop|apply TxO.tail)) (by simp;omega)) (by go_simp),?_,?_,?_⟩
 ·simp only [List.forall_mem_cons];go_simp
 ·repeat' with_reducible first|apply aT|(apply aU;intro X Y;go_simp;apply Y;clear Y X)
  simp only [List.forall_mem_cons];go_simp
 go_simp;refine ca [] 2 ⟨rfl,rfl⟩ ?_;simp only [az];repeat' with_reducible first|apply aa|(apply ab;intro X Y;go_simp;apply Y;clear Y X)
 apply dA;repeat' with_reducible first|apply af|apply ae|apply ax|apply aa|refine ah [] ?_|(apply ab;intro X Y;go_simp;apply Y;clear Y X)
 go_simp;rw [←lu];congr 1;rw [List.eraseIdx_eq_take_drop_succ,List.map_append,List.map_take,List.map_drop]
theorem Fy:∀ (q:List (List ByteArray)) (i:Nat),(∀ l∈q,l.length≤12)→cD i q≤q.length*(12*(i+q.length))
 | [],_,_=>by simp [cD]
 | l::q,i,h=>by
  have h1:=Fy q (i+1) fun x hx=>h x (List.mem_cons_of_mem _ hx);have h2:=h l (List.mem_cons_self ..);rw [cD,List.length_cons];have h3:i*l.length≤i*12:=Nat.mul_le_mul_left _ h2;have e:(q.length+1)*(12*(i+(q.length+1)))=q.length*(12*(i+1+q.length))+12*(i+1+q.length):=by
   rw [show i+(q.length+1)=i+1+q.length by omega,Nat.add_mul,Nat.one_mul]
  omega
theorem Bt {r:Ru} {s:St} (hr:RuOK r) (h:Inv r s) : cD 0 s.q≤500:=by
 have h1:=Fy s.q 0 fun l hl=>by
  obtain ⟨k,hk,rfl⟩:=List.getElem_of_mem hl;have:=h.fit k hk;have:=hr.pl k (by rw [←h.len];exact hk);rw [←ft hk];omega
 have h6:s.q.length≤6:=by rw [h.len];exact hr.n6
 have:s.q.length*(12*(0+s.q.length))≤6*(12*(0+6)):=Nat.mul_le_mul h6 (by omega);omega
def doR (r:Ru) (s:St) (x:Ev) (k:Nat) : St×List Sg:=if doE r s x k=0 then (doS r s x k,doM r s x k) else (s,[])
theorem Lf (r:Ru) (s:St) (n1:Bool) (x:Ev) (k:Nat) (hr:RuOK r) (hi:Inv r s) (hx:x.rank=k) (hk:k < s.q.length) (lJ:0≤x.kind∧x.kind≤5) (ht:0≤x.time∧x.time≤604800) :
  ∃ a b,VH Tryz.prog (224+x.kind.toNat) (ct r s [] n1 true) [.ref 0 0,evA x] [0] (ct r (doR r s x k).1 (doR r s x k).2 a b) (I (doE r s x k))∧(doE r s x k≠0→a=n1∧b=true):=by
 have hlen:r.ranks.length=s.q.length:=hi.len.symm;have mT:kt r s.q.length:=by rw [hi.len];exact hr.feed
 have h6:s.q.length≤6:=by rw [hi.len];exact hr.n6
 have dJ:∀ j,j < s.q.length→(qat s.q j).length≤12:=fun j hj=>by
  have:=hi.fit j hj;have:=hr.pl j (by omega);omega
 have tK:=dJ k hk;have vz:=hi.tkl;have qE:k < r.ranks.length:=by omega
 unfold doR;by_cases hd:doE r s x k=0
 ·rw [if_pos hd,hd];simp only;unfold doE at hd;unfold doS doM;by_cases k0:x.kind=0
  ·rw [if_pos k0] at hd ⊢;rw [if_neg (by omega),k0];unfold vm rS;by_cases hf:(rat r.ranks k).feeder = -1
   ·by_cases hT:eK s.tk x.car < 0
    ·rw [if_neg (by omega)];exact ⟨_,_,K4 r s [] n1 true x k hx hk hlen (by omega) (fun j hj=>by have:=dJ j hj;omega) (by omega) hf hT hd,fun h=>absurd rfl h⟩
    ·obtain ⟨i,e,cz,_⟩:=tE (Classical.byContradiction fun hh=>hT (qD.2 hh));rw [if_pos (by omega),e,Int.toNat_natCast];exact ⟨_,_,K5 r s [] n1 true x k hx hk hlen (by omega) (fun j hj=>by have:=dJ j hj;omega) (by omega) hf i e cz hd,fun h=>absurd rfl h⟩
   ·obtain ⟨p1,p2,p3⟩:=hr.feedN qE hf;by_cases hT:eK s.tk x.car < 0
    ·rw [if_neg (by omega)];exact ⟨_,_,K6 r s [] n1 true x k hx hk hlen (by omega) (fun j hj=>by have:=dJ j hj;omega) (by omega) (feedN r k) p1 (by omega) hT hd,fun h=>absurd rfl h⟩
    ·obtain ⟨i,e,cz,_⟩:=tE (Classical.byContradiction fun hh=>hT (qD.2 hh));rw [if_pos (by omega),e,Int.toNat_natCast];exact ⟨_,_,K7 r s [] n1 true x k hx hk hlen (by omega) (fun j hj=>by have:=dJ j hj;omega) (by omega) (feedN r k) p1 (by omega) i e cz hd,fun h=>absurd rfl h⟩
  rw [if_neg k0] at hd ⊢;by_cases k1:x.kind=1
  ·rw [if_pos k1] at hd ⊢;rw [if_neg (by omega),k1];exact ⟨_,_,Ky r s [] n1 true x k hx hk hlen (by omega) hd,fun h=>absurd rfl h⟩
  rw [if_neg k1] at hd ⊢;by_cases k2:x.kind=2
  ·rw [if_pos k2] at hd ⊢;rw [if_neg (by omega),k2];exact ⟨_,_,KM r s [] n1 true x k hx hk hlen (by have:=hr.bk;omega) (by omega) hd,fun h=>absurd rfl h⟩
  rw [if_neg k2] at hd ⊢;by_cases k3:x.kind=3
  ·rw [if_pos k3] at hd ⊢;rw [if_neg (by omega),k3];unfold tB at hd;exact ⟨_,_,Ld r s [] n1 true x k hx hk (by omega) (fun hh=>by rw [if_pos hh] at hd;cases hd),fun h=>absurd rfl h⟩
  rw [if_neg k3] at hd ⊢;by_cases k4:x.kind=4
  ·rw [if_pos k4] at hd ⊢;rw [if_pos k4,k4];have hf:(rat r.ranks k).feeder≠-1:=fun hh=>by
    unfold jI at hd;rw [if_pos hh] at hd;cases hd
   obtain ⟨p1,p2,p3⟩:=hr.feedN qE hf;exact ⟨_,_,KW r s [] n1 true x k (feedN r k) hx hk hlen p1 (by omega) (by omega) (by omega) (by simp) hd,fun h=>absurd rfl h⟩
  rw [if_neg k4] at hd ⊢;rw [if_neg k4];have k5:x.kind=5:=by omega
  rw [k5];unfold nM at hd;split at hd
  ·cases hd
  ·rename_i mc;have hT:¬eK s.tk x.car < 0:=fun hh=>mc (.inl hh);obtain ⟨i,e,cz,_⟩:=tE (Classical.byContradiction fun hh=>hT (qD.2 hh));unfold tD at hd mc;rw [e,Int.toNat_natCast] at hd mc;have h0:(aS s.tk i).rank=k:=Classical.byContradiction fun hh=>mc (.inr (by rw [hx];exact hh));have iy:=hi.tkt _ (show aS s.tk i∈s.tk by rw [gS cz];exact List.getElem_mem cz);have:=hi.t0;unfold vl rS;rw [e,Int.toNat_natCast];exact ⟨_,_,K1 r s [] n1 true x k i hx hk hlen (by omega) e cz h0 ht (by omega) (by omega) hd,fun h=>absurd rfl h⟩
 ·rw [if_neg hd];simp only;refine ⟨n1,true,?_,fun _=>⟨rfl,rfl⟩⟩;unfold doE at hd ⊢;by_cases k0:x.kind=0
  ·rw [if_pos k0] at hd ⊢;rw [k0];exact K3 r s [] n1 true x k hx hk hlen mT (by omega) (fun j hj=>by have:=dJ j hj;omega) hd
  rw [if_neg k0] at hd ⊢;by_cases k1:x.kind=1
  ·rw [if_pos k1] at hd ⊢;rw [k1];exact Kx r s [] n1 true x k hx hk hlen (by omega) hd
  rw [if_neg k1] at hd ⊢;by_cases k2:x.kind=2
  ·rw [if_pos k2] at hd ⊢;rw [k2];exact KA r s [] n1 true x k hx hk hlen hd
  rw [if_neg k2] at hd ⊢;by_cases k3:x.kind=3
  ·rw [if_pos k3] at hd ⊢;rw [k3];unfold tB at hd ⊢;by_cases hh:fH (qat s.q k) x.car < 0
   ·rw [if_pos hh];exact Lc r s [] n1 true x k hx hk (by omega) hh
   ·rw [if_neg hh] at hd;exact absurd rfl hd
  rw [if_neg k3] at hd ⊢;by_cases k4:x.kind=4
  ·rw [if_pos k4] at hd ⊢;rw [k4];exact KU r s [] n1 true x k hx hk hlen mT hd
  rw [if_neg k4] at hd ⊢;have k5:x.kind=5:=by omega
  rw [k5];unfold nM at hd ⊢;by_cases hT:eK s.tk x.car < 0
  ·rw [if_pos (.inl hT)];exact KX r s [] n1 true x k hx (by omega) hT
  ·obtain ⟨i,e,cz,_⟩:=tE (Classical.byContradiction fun hh=>hT (qD.2 hh));unfold tD at hd ⊢;rw [e,Int.toNat_natCast] at hd ⊢;by_cases h0:(aS s.tk i).rank=k
   ·have hc:¬((i:Int) < 0∨(aS s.tk i).rank≠x.rank):=by rw [hx];omega
    rw [if_neg hc] at hd ⊢;have iy:=hi.tkt _ (show aS s.tk i∈s.tk by rw [gS cz];exact List.getElem_mem cz);have:=hi.t0;exact KZ r s [] n1 true x k i hx hk hlen (by omega) e cz h0 ht (by omega) hd
   ·rw [if_pos (.inr (by rw [hx];exact h0))];exact KY r s [] n1 true x k i hx (by omega) e cz h0
theorem Lg {a b c:Int} (h:fst [a,b]≠0) : fst [a,b,c]=fst [a,b]:=by
 by_cases h1:a=0
 ·subst h1;by_cases h2:b=0
  ·subst h2;exact absurd rfl h
  ·simp [fst,h2]
 ·simp [fst,h1]
def apR (r:Ru) (s:St) (x:Ev) : St×List Sg:=if apE r s x=0 then apU r s x else (s,[])
theorem Fz (r:Ru) (s:St) (mv:List Sg) (n1:Bool) (x:Ev) (hr:RuOK r) (hi:Inv r s) (hc:x.car.size≤1000) :
  ∃ a,VH Tryz.prog 128 (k6 r s mv n1) [.ref 0 0,evA x] [0] (k6 r (apR r s x).1 (apR r s x).2 a) (I (apE r s x)):=by
 have hn:r.ranks.length≤1000000:=by have:=hr.n6;omega
 unfold apR;by_cases h0:fst [evE r x,unl (decide (s.time≤x.time)) 9]=0
 ·have oY:=h0;rw [cg,cg] at oY;have hE:apE r s x=doE r s x x.rank.toNat:=by
   unfold apE;rw [oY.1,oY.2.1];simp only [fst,ne_eq,not_true_eq_false,if_false];split
   ·rfl
   ·rename_i h;exact (Classical.byContradiction h).symm
  have Lh:=rW oY.1;have hx:x.rank=(x.rank.toNat:Int):=by omega
  have hk:x.rank.toNat < s.q.length:=by rw [hi.len];omega
  have ht:=ya oY.1;have lJ:=x_ oY.1;obtain ⟨a,b,hd,yo⟩:=Lf r s n1 x x.rank.toNat hr hi hx hk lJ ht;rw [hE];by_cases he:doE r s x x.rank.toNat=0
  ·rw [if_pos he];have FA:=hi.doS hr oY.1 (of_decide_eq_true (fx (by decide) oY.2.1)) hx he;unfold doR at hd;rw [if_pos he] at hd;have oP:(doM r s x x.rank.toNat).length≤2:=by
    unfold doM;split
    ·simp [upM]
    ·simp
   have Li:=Bt hr FA;exact ⟨a,Fv r s (doS r s x x.rank.toNat) (apU r s x).1 mv (doM r s x x.rank.toNat) (apU r s x).2 n1 a b x _ hn hc h0 lJ hd
    (.inr ⟨he,hr,FA,by change cD 0 (doS r s x x.rank.toNat).q≤500 at Li;omega,⟨_,Nat.le_refl _,rfl⟩⟩)⟩
  ·rw [if_neg he];unfold doR at hd;rw [if_neg he] at hd;exact ⟨a,Fv r s s s mv [] [] n1 a b x _ hn hc h0 lJ hd (.inl ⟨he,rfl,rfl⟩)⟩
 ·have hE:apE r s x=fst [evE r x,unl (decide (s.time≤x.time)) 9]:=by
   unfold apE;exact Lg h0
  rw [hE,if_neg h0];exact ⟨n1,K_ r s mv n1 x hn hc h0⟩
end Go.Proofs.YtoibondihdhnoaaGreatDoor
