/- Texts in one: Walks: which rules are right. -/
import Derived.Test.YtoibondihdhnoaaGreatDoorFRQ21
import Derived.Test.YtoibondihdhnoaaGreatDoorFRQ9
import Derived.Test.YtoibondihdhnoaaGreatDoorFRQ22
import Derived.Test.YtoibondihdhnoaaGreatDoorFRQ28
namespace Go.Proofs.YtoibondihdhnoaaGreatDoor
open Go.RowKit
theorem tB {α:Type} {l:List α} {k:Nat} (h:k < l.length) : l.take (k+1)=l.take k++[l[k]]:=by simp
def nu (r:Ru) (i:Nat) : Bool:=iu (fun k=>decide ((rat r.ranks k).name=(rat r.ranks i).name)) 0 i
def lX (r:Ru) (i:Nat) : Bool:=iu (fun k=>decide ((rat r.ranks k).feeder=(rat r.ranks i).feeder)) 0 i
def fN (r:Ru) (i:Nat) : Bool:=!decide ((rat r.ranks i).feeder = -1)
def rkE (r:Ru) (i:Nat) : Int:=
 fst [unl (cu (rat r.ranks i).name) 4,unl (!nu r i) 5,unl (inR (rat r.ranks i).places 1 12) 2,unl (!fN r i || inR (rat r.ranks i).feeder 0 ((r.ranks.length:Int) - 1)) 6,
  unl (!fN r i || decide ((i:Int) < (rat r.ranks i).feeder)) 9,unl (!fN r i || !lX r i) 26,unl (fN r i || !(rat r.ranks i).called) 3]
def rQ (r:Ru) : Int:=unl ((decide (r.back = -1) || inR r.back 0 12)&&inR r.ret 0 3600) 2
def dR (r:Ru) : Nat×Int:=
 if r.ranks.length=0 then (0,10) else if 6 < r.ranks.length then (0,8) else if (kG (rkE r) 0 r.ranks.length).2≠0 then kG (rkE r) 0 r.ranks.length else (0,rQ r)
theorem EM {E:Nat→Int} : ∀ (n k:Nat),(kG E k n).2=0↔∀ j,k≤j→j < k+n→E j=0
 | 0,k=>⟨fun _ j h1 h2=>by omega,fun _=>rfl⟩
 | n+1,k=>by
  rw [kG];by_cases h:E k=0
  ·rw [if_neg (by simp [h]),EM n (k+1)];constructor
   ·intro hh j h1 h2;by_cases he:j=k
    ·rw [he];exact h
    ·exact hh j (by omega) (by omega)
   ·exact fun hh j h1 h2=>hh j (by omega) (by omega)
  ·rw [if_pos h];exact ⟨fun hh=>absurd hh h,fun hh=>absurd (hh k (Nat.le_refl k) (by omega)) h⟩
theorem AU {r:Ru} (h:(dR r).2=0) : RuOK r∧(∀ k,k < r.ranks.length→cu (rat r.ranks k).name=true)∧∀ k,k < r.ranks.length→(rat r.ranks k).feeder≠-1→∀ j,j < k→(rat r.ranks j).feeder≠(rat r.ranks k).feeder:=by
 unfold dR at h;split at h
 ·simp at h
 ·rename_i h0;split at h
  ·simp at h
  ·rename_i h6;split at h
   ·rename_i aq;exact absurd h aq
   ·rename_i hz;have hz:(kG (rkE r) 0 r.ranks.length).2=0:=Classical.byContradiction hz;rw [EM] at hz;simp only at h;unfold rQ at h;have he:=eW (by decide) h;simp only [Bool.and_eq_true,Bool.or_eq_true,decide_eq_true_eq,oG] at he;have hk:∀ k,k < r.ranks.length→cu (rat r.ranks k).name=true∧(1≤(rat r.ranks k).places∧(rat r.ranks k).places≤12)∧((rat r.ranks k).feeder≠-1→((k:Int) < (rat r.ranks k).feeder∧(rat r.ranks k).feeder < r.ranks.length)∧lX r k=false):=fun k hk=>by
     have:=hz k (Nat.zero_le k) (by omega);unfold rkE at this;rw [ch,ch,ch,ch,ch,ch] at this;obtain ⟨a1,_,a3,a4,a5,a6,_⟩:=this;replace a1:=eW (by decide) a1
     replace a3:=eW (by decide) a3
     replace a4:=eW (by decide) a4
     replace a5:=eW (by decide) a5
     replace a6:=eW (by decide) a6
     rw [oG] at a3;refine ⟨a1,a3,fun hf=>?_⟩;have pA:fN r k=true:=by simp [fN,hf]
     rw [pA] at a4 a5 a6;simp only [Bool.not_true,Bool.false_or,oG,decide_eq_true_eq,Bool.not_eq_true'] at a4 a5 a6;exact ⟨⟨a5,by omega⟩,a6⟩
    refine ⟨⟨by omega,by omega,fun k h=>(hk k h).2.1,fun k h hf=>((hk k h).2.2 hf).1,he.1,he.2⟩,fun k h=>(hk k h).1,fun k h hf j hj heq=>?_⟩;have:=((hk k h).2.2 hf).2;unfold lX iu at this;rw [List.any_eq_false] at this;have:=this j (List.mem_range.2 hj);simp [heq] at this
set_option maxRecDepth 100000
set_option maxHeartbeats 2000000
theorem J8 (r:Ru) (s:St) (mv:List Sg) (n1 n2:Bool) (x:Ev) (k:Nat) (hx:x.rank=k) (hk:k < s.q.length) (hq:(qat s.q k).length≤1000000) (h0:fp (qat s.q k) x.car < 0) :
  VH Tryz.prog 227 (ct r s mv n1 n2) [.ref 0 0,evA x] [0] (ct r s mv n1 n2) (I 6):=by
 have g1:=ui (qat s.q k) x.car hq;unfold fp at h0;generalize ixP (isT (qat s.q k) x.car) 0 (qat s.q k).length=A at *;obtain ⟨kd,tm,rk,car⟩:=x;simp only at hx;subst hx;simp only [evA];refine dn Tryz.func227 rfl (by kernel_rfl) rfl (fun _=>by kernel_rfl) fun M0 w0 vs=>?_;simp only [Tryz.ntmps227,Tryz.results227,aC];unfold ct;repeat' first|(with_reducible first|apply af|apply ae|apply aW|apply az|apply aa|refine ah [] ?_|apply aQ|(apply ax;·go_simp))|((with_reducible first|apply ab|apply aR);intro X Y;go_simp;(first|(refine ⟨_,⟨g1,rfl⟩,?_⟩)|skip);apply Y;clear Y X)|((refine bw 10 10 [] rfl (by kernel_rfl) ?_);simp only [au])
 go_simp
theorem J9 (r:Ru) (s:St) (mv:List Sg) (n1 n2:Bool) (x:Ev) (k:Nat) (hx:x.rank=k) (hk:k < s.q.length) (hq:(qat s.q k).length≤10000) (h0:¬fp (qat s.q k) x.car < 0) :
  VH Tryz.prog 227 (ct r s mv n1 n2) [.ref 0 0,evA x] [0] (ct r (ta s x k) mv n1 n2) (I 0):=by
 have g1:=ui (qat s.q k) x.car (by omega);obtain ⟨i,e,hi,hh⟩:=Ex (l:=qat s.q k) (c:=x.car) (Classical.byContradiction fun hn=>h0 (th.2 hn));unfold ta;rw [e,Int.toNat_natCast];unfold fp at e;rw [e] at g1;clear e h0 hh;obtain ⟨kd,tm,rk,car⟩:=x;simp only at hx;subst hx;have hw:=ixs (m:=i) (by omega);obtain ⟨w1,w2,w3,w4,w5,w6⟩:=hw;have bD:i≤(qat s.q k).length:=by omega
 have EN:(i:Int)+1≤((qat s.q k).length:Int):=by omega
 have EO:i+1≤(qat s.q k).length:=hi;have QV:(i:Int)≤((qat s.q k).length:Int):=by omega
 simp only [evA];refine dn Tryz.func227 rfl (by kernel_rfl) rfl (fun _=>by kernel_rfl) fun M0 w0 vs=>?_;simp only [Tryz.ntmps227,Tryz.results227,aC];unfold ct;repeat' with_reducible first|apply af|apply ae|apply aa|refine ah [] ?_|(apply ab;intro X Y;go_simp;apply Y;clear Y X)
 refine bw 10 10 [] rfl (by kernel_rfl) ?_;simp only [au];repeat' first|(with_reducible first|apply af|apply ae|apply aw|apply aa|refine ah [] ?_|apply aQ|(apply ar;·go_simp))|((with_reducible first|apply ab|apply aR);intro X Y;go_simp;(first|(refine ⟨_,⟨g1,rfl⟩,?_⟩)|skip);apply Y;clear Y X)
 refine mV 15 [0,22,22,23,23,24,24,25,25,26,3,27,27,28] (by kernel_rfl) (by kernel_rfl) (by kernel_rfl) (fun v=>v) xm rfl ⟨rfl,rfl⟩ ?_;simp only [List.take];repeat' with_reducible first|apply aQ|(apply aR;intro X Y;go_simp;apply Y;clear Y X)
 refine ⟨_,_,xl (by exact rfl) (by exact rfl) (by go_simp;exact Ew _ _ (by repeat' (first|exact TxO.one _|exact TxO.map _|apply TxO.take|apply TxO.drop|apply TxO.tail)) (by repeat' (first|exact TxO.one _|exact TxO.map _|apply TxO.take|apply TxO.drop|apply TxO.tail)) (by simp;omega)) (by go_simp),?_,?_,?_⟩
 ·simp only [List.forall_mem_cons];go_simp
 ·repeat' with_reducible first|apply aQ|(apply aR;intro X Y;go_simp;apply Y;clear Y X)
  simp only [List.forall_mem_cons];go_simp
 go_simp;refine bb [] 2 ⟨rfl,rfl⟩ ?_;simp only [au];repeat' with_reducible first|apply aa|(apply ab;intro X Y;go_simp;apply Y;clear Y X)
 apply cF;repeat' with_reducible first|apply af|apply ae|apply az|apply aa|refine ah [] ?_|(apply ab;intro X Y;go_simp;apply Y;clear Y X)
 go_simp;rw [←lK];congr 1;rw [List.eraseIdx_eq_take_drop_succ,List.map_append,List.map_take,List.map_drop]
theorem EP:∀ (q:List (List ByteArray)) (i:Nat),(∀ l∈q,l.length≤12)→cA i q≤q.length*(12*(i+q.length))
 | [],_,_=>by simp [cA]
 | l::q,i,h=>by
  have h1:=EP q (i+1) fun x hx=>h x (List.mem_cons_of_mem _ hx);have h2:=h l (List.mem_cons_self ..);rw [cA,List.length_cons];have h3:i*l.length≤i*12:=Nat.mul_le_mul_left _ h2;have e:(q.length+1)*(12*(i+(q.length+1)))=q.length*(12*(i+1+q.length))+12*(i+1+q.length):=by
   rw [show i+(q.length+1)=i+1+q.length by omega,Nat.add_mul,Nat.one_mul]
  omega
theorem AW {r:Ru} {s:St} (hr:RuOK r) (h:Inv r s) : cA 0 s.q≤500:=by
 have h1:=EP s.q 0 fun l hl=>by
  obtain ⟨k,hk,rfl⟩:=List.getElem_of_mem hl;have:=h.fit k hk;have:=hr.pl k (by rw [←h.len];exact hk);rw [←iJ hk];omega
 have h6:s.q.length≤6:=by rw [h.len];exact hr.n6
 have:s.q.length*(12*(0+s.q.length))≤6*(12*(0+6)):=Nat.mul_le_mul h6 (by omega);omega
def doR (r:Ru) (s:St) (x:Ev) (k:Nat) : St×List Sg:=if doE r s x k=0 then (doS r s x k,doM r s x k) else (s,[])
theorem J_ (r:Ru) (s:St) (n1:Bool) (x:Ev) (k:Nat) (hr:RuOK r) (hi:Inv r s) (hx:x.rank=k) (hk:k < s.q.length) (je:0≤x.kind∧x.kind≤5) (ht:0≤x.time∧x.time≤604800) :
  ∃ a b,VH Tryz.prog (224+x.kind.toNat) (ct r s [] n1 true) [.ref 0 0,evA x] [0] (ct r (doR r s x k).1 (doR r s x k).2 a b) (I (doE r s x k))∧(doE r s x k≠0→a=n1∧b=true):=by
 have hlen:r.ranks.length=s.q.length:=hi.len.symm;have mw:lh r s.q.length:=by rw [hi.len];exact hr.feed
 have h6:s.q.length≤6:=by rw [hi.len];exact hr.n6
 have dF:∀ j,j < s.q.length→(qat s.q j).length≤12:=fun j hj=>by
  have:=hi.fit j hj;have:=hr.pl j (by omega);omega
 have tA:=dF k hk;have xU:=hi.tkl;have pt:k < r.ranks.length:=by omega
 unfold doR;by_cases hd:doE r s x k=0
 ·rw [if_pos hd,hd];simp only;unfold doE at hd;unfold doS doM;by_cases k0:x.kind=0
  ·rw [if_pos k0] at hd ⊢;rw [if_neg (by omega),k0];unfold tg rI;by_cases hf:(rat r.ranks k).feeder = -1
   ·by_cases hT:eI s.tk x.car < 0
    ·rw [if_neg (by omega)];exact ⟨_,_,JZ r s [] n1 true x k hx hk hlen (by omega) (fun j hj=>by have:=dF j hj;omega) (by omega) hf hT hd,fun h=>absurd rfl h⟩
    ·obtain ⟨i,e,cC,_⟩:=tj (Classical.byContradiction fun hh=>hT (oF.2 hh));rw [if_pos (by omega),e,Int.toNat_natCast];exact ⟨_,_,J0 r s [] n1 true x k hx hk hlen (by omega) (fun j hj=>by have:=dF j hj;omega) (by omega) hf i e cC hd,fun h=>absurd rfl h⟩
   ·obtain ⟨p1,p2,p3⟩:=hr.feedN pt hf;by_cases hT:eI s.tk x.car < 0
    ·rw [if_neg (by omega)];exact ⟨_,_,J1 r s [] n1 true x k hx hk hlen (by omega) (fun j hj=>by have:=dF j hj;omega) (by omega) (feedN r k) p1 (by omega) hT hd,fun h=>absurd rfl h⟩
    ·obtain ⟨i,e,cC,_⟩:=tj (Classical.byContradiction fun hh=>hT (oF.2 hh));rw [if_pos (by omega),e,Int.toNat_natCast];exact ⟨_,_,J2 r s [] n1 true x k hx hk hlen (by omega) (fun j hj=>by have:=dF j hj;omega) (by omega) (feedN r k) p1 (by omega) i e cC hd,fun h=>absurd rfl h⟩
  rw [if_neg k0] at hd ⊢;by_cases k1:x.kind=1
  ·rw [if_pos k1] at hd ⊢;rw [if_neg (by omega),k1];exact ⟨_,_,Jy r s [] n1 true x k hx hk hlen (by omega) hd,fun h=>absurd rfl h⟩
  rw [if_neg k1] at hd ⊢;by_cases k2:x.kind=2
  ·rw [if_pos k2] at hd ⊢;rw [if_neg (by omega),k2];exact ⟨_,_,JL r s [] n1 true x k hx hk hlen (by have:=hr.bk;omega) (by omega) hd,fun h=>absurd rfl h⟩
  rw [if_neg k2] at hd ⊢;by_cases k3:x.kind=3
  ·rw [if_pos k3] at hd ⊢;rw [if_neg (by omega),k3];unfold qk at hd;exact ⟨_,_,J9 r s [] n1 true x k hx hk (by omega) (fun hh=>by rw [if_pos hh] at hd;cases hd),fun h=>absurd rfl h⟩
  rw [if_neg k3] at hd ⊢;by_cases k4:x.kind=4
  ·rw [if_pos k4] at hd ⊢;rw [if_pos k4,k4];have hf:(rat r.ranks k).feeder≠-1:=fun hh=>by
    unfold jz at hd;rw [if_pos hh] at hd;cases hd
   obtain ⟨p1,p2,p3⟩:=hr.feedN pt hf;exact ⟨_,_,JT r s [] n1 true x k (feedN r k) hx hk hlen p1 (by omega) (by omega) (by omega) (by simp) hd,fun h=>absurd rfl h⟩
  rw [if_neg k4] at hd ⊢;rw [if_neg k4];have k5:x.kind=5:=by omega
  rw [k5];unfold lv at hd;split at hd
  ·cases hd
  ·rename_i jc;have hT:¬eI s.tk x.car < 0:=fun hh=>jc (.inl hh);obtain ⟨i,e,cC,_⟩:=tj (Classical.byContradiction fun hh=>hT (oF.2 hh));unfold tc at hd jc;rw [e,Int.toNat_natCast] at hd jc;have h0:(cl s.tk i).rank=k:=Classical.byContradiction fun hh=>jc (.inr (by rw [hx];exact hh));have AG:=hi.tkt _ (show cl s.tk i∈s.tk by rw [lf cC];exact List.getElem_mem cC);have:=hi.t0;unfold tf rI;rw [e,Int.toNat_natCast];exact ⟨_,_,JX r s [] n1 true x k i hx hk hlen (by omega) e cC h0 ht (by omega) (by omega) hd,fun h=>absurd rfl h⟩
 ·rw [if_neg hd];simp only;refine ⟨n1,true,?_,fun _=>⟨rfl,rfl⟩⟩;unfold doE at hd ⊢;by_cases k0:x.kind=0
  ·rw [if_pos k0] at hd ⊢;rw [k0];exact JY r s [] n1 true x k hx hk hlen mw (by omega) (fun j hj=>by have:=dF j hj;omega) hd
  rw [if_neg k0] at hd ⊢;by_cases k1:x.kind=1
  ·rw [if_pos k1] at hd ⊢;rw [k1];exact Jw r s [] n1 true x k hx hk hlen (by omega) hd
  rw [if_neg k1] at hd ⊢;by_cases k2:x.kind=2
  ·rw [if_pos k2] at hd ⊢;rw [k2];exact JA r s [] n1 true x k hx hk hlen hd
  rw [if_neg k2] at hd ⊢;by_cases k3:x.kind=3
  ·rw [if_pos k3] at hd ⊢;rw [k3];unfold qk at hd ⊢;by_cases hh:fp (qat s.q k) x.car < 0
   ·rw [if_pos hh];exact J8 r s [] n1 true x k hx hk (by omega) hh
   ·rw [if_neg hh] at hd;exact absurd rfl hd
  rw [if_neg k3] at hd ⊢;by_cases k4:x.kind=4
  ·rw [if_pos k4] at hd ⊢;rw [k4];exact JS r s [] n1 true x k hx hk hlen mw hd
  rw [if_neg k4] at hd ⊢;have k5:x.kind=5:=by omega
  rw [k5];unfold lv at hd ⊢;by_cases hT:eI s.tk x.car < 0
  ·rw [if_pos (.inl hT)];exact JU r s [] n1 true x k hx (by omega) hT
  ·obtain ⟨i,e,cC,_⟩:=tj (Classical.byContradiction fun hh=>hT (oF.2 hh));unfold tc at hd ⊢;rw [e,Int.toNat_natCast] at hd ⊢;by_cases h0:(cl s.tk i).rank=k
   ·have hc:¬((i:Int) < 0∨(cl s.tk i).rank≠x.rank):=by rw [hx];omega
    rw [if_neg hc] at hd ⊢;have AG:=hi.tkt _ (show cl s.tk i∈s.tk by rw [lf cC];exact List.getElem_mem cC);have:=hi.t0;exact JW r s [] n1 true x k i hx hk hlen (by omega) e cC h0 ht (by omega) hd
   ·rw [if_pos (.inr (by rw [hx];exact h0))];exact JV r s [] n1 true x k i hx (by omega) e cC h0
theorem Ka {a b c:Int} (h:fst [a,b]≠0) : fst [a,b,c]=fst [a,b]:=by
 by_cases h1:a=0
 ·subst h1;by_cases h2:b=0
  ·subst h2;exact absurd rfl h
  ·simp [fst,h2]
 ·simp [fst,h1]
def apR (r:Ru) (s:St) (x:Ev) : St×List Sg:=if apE r s x=0 then apU r s x else (s,[])
theorem Kb (r:Ru) (s:St) (mv:List Sg) (n1:Bool) (x:Ev) (hr:RuOK r) (hi:Inv r s) (hc:x.car.size≤1000) :
  ∃ a,VH Tryz.prog 128 (gr r s mv n1) [.ref 0 0,evA x] [0] (gr r (apR r s x).1 (apR r s x).2 a) (I (apE r s x)):=by
 have hn:r.ranks.length≤1000000:=by have:=hr.n6;omega
 unfold apR;by_cases h0:fst [evE r x,unl (decide (s.time≤x.time)) 9]=0
 ·have oH:=h0;rw [ch,ch] at oH;have hE:apE r s x=doE r s x x.rank.toNat:=by
   unfold apE;rw [oH.1,oH.2.1];simp only [fst,ne_eq,not_true_eq_false,if_false];split
   ·rfl
   ·rename_i h;exact (Classical.byContradiction h).symm
  have ER:=vb oH.1;have hx:x.rank=(x.rank.toNat:Int):=by omega
  have hk:x.rank.toNat < s.q.length:=by rw [hi.len];omega
  have ht:=tt oH.1;have je:=tr oH.1;obtain ⟨a,b,hd,xV⟩:=J_ r s n1 x x.rank.toNat hr hi hx hk je ht;rw [hE];by_cases he:doE r s x x.rank.toNat=0
  ·rw [if_pos he];have ES:=hi.doS hr oH.1 (of_decide_eq_true (eW (by decide) oH.2.1)) hx he;unfold doR at hd;rw [if_pos he] at hd;have o_:(doM r s x x.rank.toNat).length≤2:=by
    unfold doM;split
    ·simp [upM]
    ·simp
   have Kc:=AW hr ES;exact ⟨a,EL r s (doS r s x x.rank.toNat) (apU r s x).1 mv (doM r s x x.rank.toNat) (apU r s x).2 n1 a b x _ hn hc h0 je hd
    (.inr ⟨he,hr,ES,by change cA 0 (doS r s x x.rank.toNat).q≤500 at Kc;omega,⟨_,Nat.le_refl _,rfl⟩⟩)⟩
  ·rw [if_neg he];unfold doR at hd;rw [if_neg he] at hd;exact ⟨a,EL r s s s mv [] [] n1 a b x _ hn hc h0 je hd (.inl ⟨he,rfl,rfl⟩)⟩
 ·have hE:apE r s x=fst [evE r x,unl (decide (s.time≤x.time)) 9]:=by
   unfold apE;exact Ka h0
  rw [hE,if_neg h0];exact ⟨n1,J5 r s mv n1 x hn hc h0⟩
theorem xW (p:Nat→Bool) (n:Nat) : decide (0≤ixP p 0 n)=iu p 0 n:=by
 rcases qY p n with ⟨h,hn⟩|⟨k,hk,h,hp,_⟩
 ·rw [h,qX hn];rfl
 ·rw [h,oX hk hp];exact decide_eq_true (by omega)
theorem ET {p p':Nat→Bool} : ∀ {n k:Nat},(∀ j,k≤j→j < k+n→p j=p' j)→ixP p k n=ixP p' k n
 | 0,_,_=>rfl
 | n+1,k,h=>by
  rw [ixP,ixP,h k (Nat.le_refl k) (by omega),ET fun j h1 h2=>h j (by omega) (by omega)]
theorem Ke (f:Nat) (y:Rk) (p:Rk→Bool) (hc:∀ x:Rk,VC Tryz.prog f [.agg [S x.name,I x.places,I x.feeder,B x.called],.vp [S y.name,I y.places,I y.feeder,B y.called]] (B (p x))) (l:List Rk) (hl:l.length≤1000000) :
  VC Tryz.prog 137 [.sl 4 (l.map Rk.av),.fn (.func f) [] [.vp [S y.name,I y.places,I y.feeder,B y.called]]] (I (ixP (fun j=>p (rat l j)) 0 l.length)):=by
 obtain ⟨R,hR⟩ : ∃ R,ixP (fun j=>p (rat l j)) 0 l.length=R:=⟨_,rfl⟩
 rw [hR];have HR:=Lib.hid hR;have HC:=Lib.hid hc;clear hR hc;refine aL Tryz.func137 rfl (by kernel_rfl) rfl fun M0 w0=>?_;simp only [Tryz.ntmps137,Tryz.results137,aC];repeat' with_reducible first|apply af|apply ae|apply aE|apply aa|refine ah [] ?_|(apply ab;intro X Y;go_simp;apply Y;clear Y X)
 apply gy [0,1,7] (fun k=>[(8,I k)]) (fun k=>([] : Hp)) (fun j=>p (rat l j)) (l.length)
 ·go_simp<;>exact rfl
 ·go_simp
 ·intro k hk HB HP K hK;obtain ⟨w1,w2,w3,w4,w5,w6⟩:=ixs (m:=k) (by omega);have g:=HC.out (rat l k);have hp:=HP.out;rw [hp] at g;clear hp;repeat' first|(with_reducible first|apply af|apply ae|apply aw|apply aE|apply bc|apply aa|refine ah [] ?_|(apply ax;·go_simp)|(apply ar;·go_simp))|((with_reducible apply ab);intro X Y;go_simp;(first|(refine ⟨_,g,?_⟩)|skip);apply Y;clear Y X)
  refine hK _ ?_;go_simp
 ·intro k hk HB HP K;have g:=HC.out (rat l k);have hp:=HP.out;rw [hp] at g;clear hp;have e:=HR.out;rw [kq hk HB.out HP.out] at e;subst e;repeat' first|(with_reducible first|apply af|apply ae|apply aW|apply az|apply aw|apply aE|apply dh|apply aa|refine ah [] ?_|(apply ax;·go_simp))|((with_reducible apply ab);intro X Y;go_simp;(first|(refine ⟨_,g,?_⟩)|skip);apply Y;clear Y X)
  go_simp
 ·intro HB K;have e:=HR.out;rw [lg HB.out] at e;subst e;repeat (with_reducible first|apply af|apply ae|apply bU|apply az|apply bV|apply bW|apply aa|refine ah [] ?_|(apply ar;·go_simp)|(apply ab;intro X Y;go_simp;apply Y;clear Y X))
  go_simp
theorem xX (f:Nat) (y:Rk) (p:Rk→Bool) (hc:∀ x:Rk,VC Tryz.prog f [.agg [S x.name,I x.places,I x.feeder,B x.called],.vp [S y.name,I y.places,I y.feeder,B y.called]] (B (p x))) (l:List Rk) (i:Nat) (hi:i < l.length) (hl:l.length≤1000000) :
  VC Tryz.prog 96 [.sl 4 ((l.map Rk.av).take i),.fn (.func f) [] [.vp [S y.name,I y.places,I y.feeder,B y.called]]] (B (iu (fun j=>p (rat l j)) 0 i)):=by
 have g:=Ke f y p hc (l.take i) (by rw [List.length_take];omega);have e:ixP (fun j=>p (rat (l.take i) j)) 0 (l.take i).length=ixP (fun j=>p (rat l j)) 0 i:=by
  rw [List.length_take,Nat.min_eq_left (by omega)];refine ET fun j _ hj=>?_;unfold rat;rw [List.getD_eq_getElem?_getD,List.getElem?_take_of_lt (by omega),List.getD_eq_getElem?_getD]
 rw [e,List.map_take] at g;rw [←xW];generalize ixP (fun j=>p (rat l j)) 0 i=R at *;generalize List.take i (List.map Rk.av l)=T at *;refine aL Tryz.func96 rfl (by kernel_rfl) rfl fun M0 w0=>?_;simp only [Tryz.ntmps96,Tryz.results96,aC];repeat' first|(with_reducible first|apply af|apply ae|apply az|apply aa|refine ah [] ?_)|((with_reducible apply ab);intro X Y;go_simp;(first|(refine ⟨_,g,?_⟩)|skip);apply Y;clear Y X)
 go_simp
theorem EU (x:Rk) (y:Rk) : VC Tryz.prog 97 [.agg [S x.name,I x.places,I x.feeder,B x.called],.vp [S y.name,I y.places,I y.feeder,B y.called]] (B (decide (x.name=y.name))):=by
 refine aL Tryz.func97 rfl (by kernel_rfl) rfl fun M0 w0=>?_;simp only [Tryz.ntmps97,Tryz.results97,aC];repeat' with_reducible first|apply af|apply ae|apply az|apply aa|refine ah [] ?_|(apply ab;intro X Y;go_simp;apply Y;clear Y X)
 go_simp
theorem EV (x:Rk) (y:Rk) : VC Tryz.prog 98 [.agg [S x.name,I x.places,I x.feeder,B x.called],.vp [S y.name,I y.places,I y.feeder,B y.called]] (B (decide (x.feeder=y.feeder))):=by
 refine aL Tryz.func98 rfl (by kernel_rfl) rfl fun M0 w0=>?_;simp only [Tryz.ntmps98,Tryz.results98,aC];repeat' with_reducible first|apply af|apply ae|apply az|apply aa|refine ah [] ?_|(apply ab;intro X Y;go_simp;apply Y;clear Y X)
 go_simp
theorem EW {E:Nat→Int} : ∀ (n k i:Nat),k≤i→i < k+n→(∀ j,k≤j→j < i→E j=0)→E i≠0→kG E k n=(i,E i)
 | 0,k,i,h1,h2,_,_=>by omega
 | n+1,k,i,h1,h2,hb,hp=>by
  rw [kG];by_cases he:k=i
  ·subst he;rw [if_pos hp]
  ·rw [if_neg (by simp [hb k (Nat.le_refl k) (by omega)])];exact EW n (k+1) i (by omega) (by omega) (fun j h3 h4=>hb j (by omega) h4) hp
theorem AX {E:Nat→Int} {k n:Nat} (hk:k < n) (hb:∀ j,j < k→(!decide (E j=0))=false) (hp:(!decide (E k=0))=true) : kG E 0 n=(k,E k):=EW n 0 k (Nat.zero_le k) (by omega) (fun j _ h=>by simpa using hb j h) (by simpa using hp)
theorem xY {E:Nat→Int} : ∀ (n k:Nat),(∀ j,j < k+n→(!decide (E j=0))=false)→kG E k n=(0,0)
 | 0,_,_=>rfl
 | n+1,k,h=>by
  rw [kG,if_neg (by simpa using h k (by omega))];exact xY n (k+1) fun j hj=>h j (by omega)
theorem Kf (r:Ru) : VC Tryz.prog 89 [B ((decide (r.back = -1) || inR r.back 0 12)&&inR r.ret 0 3600),I 2] (I (rQ r)):=bN _ 2
theorem Kg (r:Ru) (hn:r.ranks.length≤1000000) (cU:∀ k,k < r.ranks.length→(rat r.ranks k).name.size≤1000) : VC Tryz.prog 36 [bJ r] (.tup [I ((dR r).1:Int),I (dR r).2]):=by
 have u1:=bN (decide (0 < r.ranks.length)) 10;have u2:=bN (decide (r.ranks.length≤6)) 8;have g5:VC Tryz.prog 88 [.sl 1 ([unl (decide (0 < r.ranks.length)) 10,unl (decide (r.ranks.length≤6)) 8].map dt)] (I (fst [unl (decide (0 < r.ranks.length)) 10,unl (decide (r.ranks.length≤6)) 8])):=eL _ rfl rfl;unfold dR;by_cases h0:r.ranks.length=0
 ·rw [if_pos h0];have d1:decide (0 < r.ranks.length)=false:=decide_eq_false (by omega);have d2:decide (r.ranks.length≤6)=true:=decide_eq_true (by omega);rw [d1] at u1 g5;rw [d2] at u2 g5;have e:fst [unl false 10,unl true 8]=10:=rfl;rw [e] at g5;generalize unl false 10=A1 at *;generalize unl true 8=A2 at *;clear d1 d2 e;refine aL Tryz.func36 rfl (by kernel_rfl) rfl fun M0 w0=>?_;simp only [Tryz.ntmps36,Tryz.results36,aC];repeat' first|(with_reducible first|apply af|apply ae|apply aW|apply az|apply aa|refine ah [] ?_|(apply ax;·go_simp))|((with_reducible apply ab);intro X Y;go_simp;(first|(with_reducible refine ⟨_,u1,?_⟩)|(with_reducible refine ⟨_,u2,?_⟩)|(refine ⟨_,g5,?_⟩)|skip);apply Y;clear Y X)
  go_simp
 rw [if_neg h0];by_cases h6:6 < r.ranks.length
 ·rw [if_pos h6];have d1:decide (0 < r.ranks.length)=true:=decide_eq_true (by omega);have d2:decide (r.ranks.length≤6)=false:=decide_eq_false (by omega);rw [d1] at u1 g5;rw [d2] at u2 g5;have e:fst [unl true 10,unl false 8]=8:=rfl;rw [e] at g5;generalize unl true 10=A1 at *;generalize unl false 8=A2 at *;have h7:0 < r.ranks.length:=by omega
  have h8:¬r.ranks.length≤6:=by omega
  have h9:¬(r.ranks.length:Int)≤6:=by omega
  clear d1 d2 e;refine aL Tryz.func36 rfl (by kernel_rfl) rfl fun M0 w0=>?_;simp only [Tryz.ntmps36,Tryz.results36,aC];repeat' first|(with_reducible first|apply af|apply ae|apply aW|apply az|apply aa|refine ah [] ?_|(apply ax;·go_simp))|((with_reducible apply ab);intro X Y;go_simp;(first|(with_reducible refine ⟨_,u1,?_⟩)|(with_reducible refine ⟨_,u2,?_⟩)|(refine ⟨_,g5,?_⟩)|skip);apply Y;clear Y X)
  go_simp
 rw [if_neg h6];have d1:decide (0 < r.ranks.length)=true:=decide_eq_true (by omega);have d2:decide (r.ranks.length≤6)=true:=decide_eq_true (by omega);rw [d1] at u1 g5;rw [d2] at u2 g5;have e:fst [unl true 10,unl true 8]=0:=rfl;rw [e] at g5;generalize unl true 10=A1 at *;generalize unl true 8=A2 at *;have h7:0 < r.ranks.length:=by omega
 have h8:r.ranks.length≤6:=by omega
 have h9:(r.ranks.length:Int)≤6:=by omega
 obtain ⟨R,hR⟩ : ∃ R,(if (kG (rkE r) 0 r.ranks.length).2≠0 then kG (rkE r) 0 r.ranks.length else (0,rQ r))=R:=⟨_,rfl⟩
 rw [hR];have HR:=Lib.hid hR;have HM:=Lib.hid cU;have HE:=Lib.hid (Kf r);clear d1 d2 e h0 h6 hR cU;refine aL Tryz.func36 rfl (by kernel_rfl) rfl fun M0 w0=>?_;simp only [Tryz.ntmps36,Tryz.results36,aC];repeat' first|(with_reducible first|apply af|apply ae|apply aw|apply aE|apply aa|refine ah [] ?_|(apply ar;·go_simp))|((with_reducible apply ab);intro X Y;go_simp;(first|(with_reducible refine ⟨_,u1,?_⟩)|(with_reducible refine ⟨_,u2,?_⟩)|(refine ⟨_,g5,?_⟩)|skip);apply Y;clear Y X)
 apply gy [1,4,26,27] (fun k=>[(28,I k)]) (fun k=>([] : Hp)) (fun k=>!decide (rkE r k=0)) (r.ranks.length)
 ·go_simp<;>exact rfl
 ·go_simp
 ·intro k hk HB HP K hK;obtain ⟨w1,w2,w3,w4,w5,w6⟩:=ixs (m:=k) (by omega);have cI:k≤r.ranks.length:=by omega
  have oD:(k:Int)≤(r.ranks.length:Int):=by omega
  have Kh:IntKind.i64.wrap ((r.ranks.length:Int) - 1)=(r.ranks.length:Int) - 1:=gG (by omega) (by omega);have i1:=oW (rat r.ranks k).name (HM.out k hk);have i2:=xX 97 (rat r.ranks k) _ (fun x=>EU x (rat r.ranks k)) r.ranks k hk hn;have i3:=mJ (rat r.ranks k).places 1 12;have i4:=mJ (rat r.ranks k).feeder 0 ((r.ranks.length:Int) - 1);have i5:=xX 98 (rat r.ranks k) _ (fun x=>EV x (rat r.ranks k)) r.ranks k hk hn;have u1:=bN (cu (rat r.ranks k).name) 4;have u2:=bN (!nu r k) 5;have u3:=bN (inR (rat r.ranks k).places 1 12) 2;have u4:=bN (!fN r k || inR (rat r.ranks k).feeder 0 ((r.ranks.length:Int) - 1)) 6;have u5:=bN (!fN r k || decide ((k:Int) < (rat r.ranks k).feeder)) 9;have u6:=bN (!fN r k || !lX r k) 26;have u7:=bN (fN r k || !(rat r.ranks k).called) 3;have g7:VC Tryz.prog 88 [.sl 1 ([unl (cu (rat r.ranks k).name) 4,unl (!nu r k) 5,unl (inR (rat r.ranks k).places 1 12) 2,unl (!fN r k || inR (rat r.ranks k).feeder 0 ((r.ranks.length:Int) - 1)) 6,
   unl (!fN r k || decide ((k:Int) < (rat r.ranks k).feeder)) 9,unl (!fN r k || !lX r k) 26,unl (fN r k || !(rat r.ranks k).called) 3].map dt)] (I (rkE r k)):=eL _ rfl rfl
  change VC _ _ _ (B (nu r k)) at i2;change VC _ _ _ (B (lX r k)) at i5;have hp:=HP.out;have he:rkE r k=0:=by simpa using hp
  rw [he] at g7;clear hp he;generalize rkE r k=E at *;generalize cu (rat r.ranks k).name=D1 at *;generalize nu r k=D2 at *;generalize inR (rat r.ranks k).places 1 12=D3 at *;generalize inR (rat r.ranks k).feeder 0 ((r.ranks.length:Int) - 1)=D4 at *;generalize lX r k=D6 at *;generalize unl D1 4=A1 at *;generalize unl (!D2) 5=A2 at *;generalize unl D3 2=A3 at *;unfold fN at *;by_cases hf:(rat r.ranks k).feeder = -1
  ·have ed:(!decide ((rat r.ranks k).feeder = -1))=false:=by simp [hf]
   rw [ed,Bool.not_false,Bool.true_or] at u4 u5 u6;rw [ed,Bool.false_or] at u7;rw [ed,Bool.not_false,Bool.true_or,Bool.true_or,Bool.true_or,Bool.false_or] at g7;generalize unl true 6=A4 at *;generalize unl true 9=A5 at *;generalize unl true 26=A6 at *;generalize unl (!(rat r.ranks k).called) 3=A7 at *;clear ed;rw [hf] at i2;repeat' with_reducible first|apply af|apply ae|apply aw|apply aE|apply aa|refine ah [] ?_|(apply ax;·go_simp)|(apply ab;intro X Y;go_simp;apply Y;clear Y X)
   refine bw 51 51 [] rfl (by kernel_rfl) ?_;simp only [au];repeat' first|(with_reducible first|apply af|apply ae|apply aw|apply bc|apply aa|refine ah [] ?_|apply aQ|(apply ar;·go_simp))|((with_reducible first|apply ab|apply aR);intro X Y;go_simp;(first|(with_reducible refine ⟨_,i1,?_⟩)|(refine ⟨_,⟨i2,rfl⟩,?_⟩)|(with_reducible refine ⟨_,i3,?_⟩)|(with_reducible refine ⟨_,u1,?_⟩)|(with_reducible refine ⟨_,u2,?_⟩)|(with_reducible refine ⟨_,u3,?_⟩)|(with_reducible refine ⟨_,u4,?_⟩)|(with_reducible refine ⟨_,u5,?_⟩)|(with_reducible refine ⟨_,u6,?_⟩)|(with_reducible refine ⟨_,u7,?_⟩)|(refine ⟨_,g7,?_⟩)|skip);apply Y;clear Y X)
   refine hK _ ?_;go_simp
  ·have ed:(!decide ((rat r.ranks k).feeder = -1))=true:=by simp [hf]
   rw [ed,Bool.not_true,Bool.false_or] at u4 u5 u6;rw [ed,Bool.true_or] at u7;rw [ed,Bool.not_true,Bool.false_or,Bool.false_or,Bool.false_or,Bool.true_or] at g7;generalize unl D4 6=A4 at *;generalize unl (decide ((k:Int) < (rat r.ranks k).feeder)) 9=A5 at *;generalize unl (!D6) 26=A6 at *;generalize unl true 3=A7 at *;clear ed;repeat' with_reducible first|apply af|apply ae|apply aw|apply aE|apply aa|refine ah [] ?_|(apply ax;·go_simp)|(apply ab;intro X Y;go_simp;apply Y;clear Y X)
   refine bw 51 51 [] rfl (by kernel_rfl) ?_;simp only [au];repeat' first|(with_reducible first|apply af|apply ae|apply aw|apply bc|apply aa|refine ah [] ?_|apply aQ|(apply ar;·go_simp))|((with_reducible first|apply ab|apply aR);intro X Y;go_simp;(first|(with_reducible refine ⟨_,i1,?_⟩)|(refine ⟨_,⟨i2,rfl⟩,?_⟩)|(with_reducible refine ⟨_,i3,?_⟩)|(with_reducible refine ⟨_,i4,?_⟩)|(refine ⟨_,⟨i5,rfl⟩,?_⟩)|(with_reducible refine ⟨_,u1,?_⟩)|(with_reducible refine ⟨_,u2,?_⟩)|(with_reducible refine ⟨_,u3,?_⟩)|(with_reducible refine ⟨_,u4,?_⟩)|(with_reducible refine ⟨_,u5,?_⟩)|(with_reducible refine ⟨_,u6,?_⟩)|(with_reducible refine ⟨_,u7,?_⟩)|(refine ⟨_,g7,?_⟩)|skip);apply Y;clear Y X)
   refine hK _ ?_;go_simp
 ·intro k hk HB HP K;obtain ⟨w1,w2,w3,w4,w5,w6⟩:=ixs (m:=k) (by omega);have cI:k≤r.ranks.length:=by omega
  have oD:(k:Int)≤(r.ranks.length:Int):=by omega
  have Kh:IntKind.i64.wrap ((r.ranks.length:Int) - 1)=(r.ranks.length:Int) - 1:=gG (by omega) (by omega);have i1:=oW (rat r.ranks k).name (HM.out k hk);have i2:=xX 97 (rat r.ranks k) _ (fun x=>EU x (rat r.ranks k)) r.ranks k hk hn;have i3:=mJ (rat r.ranks k).places 1 12;have i4:=mJ (rat r.ranks k).feeder 0 ((r.ranks.length:Int) - 1);have i5:=xX 98 (rat r.ranks k) _ (fun x=>EV x (rat r.ranks k)) r.ranks k hk hn;have u1:=bN (cu (rat r.ranks k).name) 4;have u2:=bN (!nu r k) 5;have u3:=bN (inR (rat r.ranks k).places 1 12) 2;have u4:=bN (!fN r k || inR (rat r.ranks k).feeder 0 ((r.ranks.length:Int) - 1)) 6;have u5:=bN (!fN r k || decide ((k:Int) < (rat r.ranks k).feeder)) 9;have u6:=bN (!fN r k || !lX r k) 26;have u7:=bN (fN r k || !(rat r.ranks k).called) 3;have g7:VC Tryz.prog 88 [.sl 1 ([unl (cu (rat r.ranks k).name) 4,unl (!nu r k) 5,unl (inR (rat r.ranks k).places 1 12) 2,unl (!fN r k || inR (rat r.ranks k).feeder 0 ((r.ranks.length:Int) - 1)) 6,
   unl (!fN r k || decide ((k:Int) < (rat r.ranks k).feeder)) 9,unl (!fN r k || !lX r k) 26,unl (fN r k || !(rat r.ranks k).called) 3].map dt)] (I (rkE r k)):=eL _ rfl rfl
  change VC _ _ _ (B (nu r k)) at i2;change VC _ _ _ (B (lX r k)) at i5;have hp:=HP.out;have e:=HR.out;rw [AX hk HB.out HP.out] at e;have aq:rkE r k≠0:=by simpa using hp
  rw [if_pos aq] at e;subst e;clear hp;generalize rkE r k=E at *;generalize cu (rat r.ranks k).name=D1 at *;generalize nu r k=D2 at *;generalize inR (rat r.ranks k).places 1 12=D3 at *;generalize inR (rat r.ranks k).feeder 0 ((r.ranks.length:Int) - 1)=D4 at *;generalize lX r k=D6 at *;generalize unl D1 4=A1 at *;generalize unl (!D2) 5=A2 at *;generalize unl D3 2=A3 at *;unfold fN at *;by_cases hf:(rat r.ranks k).feeder = -1
  ·have ed:(!decide ((rat r.ranks k).feeder = -1))=false:=by simp [hf]
   rw [ed,Bool.not_false,Bool.true_or] at u4 u5 u6;rw [ed,Bool.false_or] at u7;rw [ed,Bool.not_false,Bool.true_or,Bool.true_or,Bool.true_or,Bool.false_or] at g7;generalize unl true 6=A4 at *;generalize unl true 9=A5 at *;generalize unl true 26=A6 at *;generalize unl (!(rat r.ranks k).called) 3=A7 at *;clear ed;rw [hf] at i2;repeat' with_reducible first|apply af|apply ae|apply aw|apply aE|apply aa|refine ah [] ?_|(apply ax;·go_simp)|(apply ab;intro X Y;go_simp;apply Y;clear Y X)
   refine bw 51 51 [] rfl (by kernel_rfl) ?_;simp only [au];repeat' first|(with_reducible first|apply af|apply ae|apply aW|apply az|apply dh|apply aa|refine ah [] ?_|apply aQ|(apply ax;·go_simp))|((with_reducible first|apply ab|apply aR);intro X Y;go_simp;(first|(with_reducible refine ⟨_,i1,?_⟩)|(refine ⟨_,⟨i2,rfl⟩,?_⟩)|(with_reducible refine ⟨_,i3,?_⟩)|(with_reducible refine ⟨_,u1,?_⟩)|(with_reducible refine ⟨_,u2,?_⟩)|(with_reducible refine ⟨_,u3,?_⟩)|(with_reducible refine ⟨_,u4,?_⟩)|(with_reducible refine ⟨_,u5,?_⟩)|(with_reducible refine ⟨_,u6,?_⟩)|(with_reducible refine ⟨_,u7,?_⟩)|(refine ⟨_,g7,?_⟩)|skip);apply Y;clear Y X)
   go_simp
  ·have ed:(!decide ((rat r.ranks k).feeder = -1))=true:=by simp [hf]
   rw [ed,Bool.not_true,Bool.false_or] at u4 u5 u6;rw [ed,Bool.true_or] at u7;rw [ed,Bool.not_true,Bool.false_or,Bool.false_or,Bool.false_or,Bool.true_or] at g7;generalize unl D4 6=A4 at *;generalize unl (decide ((k:Int) < (rat r.ranks k).feeder)) 9=A5 at *;generalize unl (!D6) 26=A6 at *;generalize unl true 3=A7 at *;clear ed;repeat' with_reducible first|apply af|apply ae|apply aw|apply aE|apply aa|refine ah [] ?_|(apply ax;·go_simp)|(apply ab;intro X Y;go_simp;apply Y;clear Y X)
   refine bw 51 51 [] rfl (by kernel_rfl) ?_;simp only [au];repeat' first|(with_reducible first|apply af|apply ae|apply aW|apply az|apply dh|apply aa|refine ah [] ?_|apply aQ|(apply ax;·go_simp))|((with_reducible first|apply ab|apply aR);intro X Y;go_simp;(first|(with_reducible refine ⟨_,i1,?_⟩)|(refine ⟨_,⟨i2,rfl⟩,?_⟩)|(with_reducible refine ⟨_,i3,?_⟩)|(with_reducible refine ⟨_,i4,?_⟩)|(refine ⟨_,⟨i5,rfl⟩,?_⟩)|(with_reducible refine ⟨_,u1,?_⟩)|(with_reducible refine ⟨_,u2,?_⟩)|(with_reducible refine ⟨_,u3,?_⟩)|(with_reducible refine ⟨_,u4,?_⟩)|(with_reducible refine ⟨_,u5,?_⟩)|(with_reducible refine ⟨_,u6,?_⟩)|(with_reducible refine ⟨_,u7,?_⟩)|(refine ⟨_,g7,?_⟩)|skip);apply Y;clear Y X)
   go_simp
 ·intro HB K;have e:=HR.out;rw [xY r.ranks.length 0 (fun j hj=>HB.out j (by omega)),if_neg (by simp)] at e;subst e;have ge:=HE.out;generalize rQ r=E at *;have i1:=mJ r.back 0 12;have i2:=mJ r.ret 0 3600;generalize inR r.back 0 12=D1 at *;generalize inR r.ret 0 3600=D2 at *;by_cases hb:r.back = -1
  ·rw [decide_eq_true hb,Bool.true_or,Bool.true_and] at ge;repeat' with_reducible first|apply af|apply ae|apply bU|apply az|apply bV|apply bW|apply aa|refine ah [] ?_|(apply ar;·go_simp)|(apply ab;intro X Y;go_simp;(first|(refine ⟨_,i2,?_⟩)|(refine ⟨_,ge,?_⟩)|skip);apply Y;clear Y X)
   all_goals go_simp
  ·rw [decide_eq_false hb,Bool.false_or] at ge;cases D1
   ·rw [Bool.false_and] at ge;repeat' with_reducible first|apply af|apply ae|apply bU|apply az|apply bV|apply bW|apply aa|refine ah [] ?_|(apply ar;·go_simp)|(apply ab;intro X Y;go_simp;(first|(refine ⟨_,i1,?_⟩)|(refine ⟨_,ge,?_⟩)|skip);apply Y;clear Y X)
    all_goals go_simp
   ·rw [Bool.true_and] at ge;repeat' with_reducible first|apply af|apply ae|apply bU|apply az|apply bV|apply bW|apply aa|refine ah [] ?_|(apply ar;·go_simp)|(apply ab;intro X Y;go_simp;(first|(refine ⟨_,i1,?_⟩)|(refine ⟨_,i2,?_⟩)|(refine ⟨_,ge,?_⟩)|skip);apply Y;clear Y X)
    all_goals go_simp
theorem tC (r:Ru) (hn:r.ranks.length≤1000000) (cU:∀ k,k < r.ranks.length→(rat r.ranks k).name.size≤1000) : VC Tryz.prog 99 [bJ r] (I (dR r).2):=by
 have g:=Kg r hn cU;generalize (dR r).2=E at *;generalize ((dR r).1:Int)=K0 at *;refine aL Tryz.func99 rfl (by kernel_rfl) rfl fun M0 w0=>?_;simp only [Tryz.ntmps99,Tryz.results99,aC];repeat' first|(with_reducible first|apply af|apply ae|apply az|apply aa|refine ah [] ?_)|((with_reducible apply ab);intro X Y;go_simp;(first|(refine ⟨_,g,?_⟩)|skip);apply Y;clear Y X)
 go_simp
def nv (r:Ru) (s:St) (mv:List Sg) (n1 n2:Bool) : Hp:=
 [some (.bag 62 1 false none (bA s.q)),some (.box [.osl 0,.osl 2,I s.time,.sl 4 (r.ranks.map Rk.av),I r.back,I r.ret,.osl 3]),some (.arr 148 3 n1 (s.tk.map Tk.av)),some (.arr 45 3 n2 (mv.map Sg.av))]
theorem EX (n:Nat) : bA (List.replicate n [])=List.replicate n []:=by simp [bA]
theorem AY (r:Ru) (hn:r.ranks.length≤1000000) : VH Tryz.prog 100 [] [bJ r] [] (nv r (st0 r) [] true true) (.ref 1 0):=by
 refine dn Tryz.func100 rfl (by kernel_rfl) rfl (fun _=>by kernel_rfl) fun M0 w0 vs=>?_;simp only [Tryz.ntmps100,Tryz.results100,aC];unfold nv st0;simp only [EX];repeat' with_reducible first|apply af|apply ae|apply aa|refine ah [] ?_|(apply ab;intro X Y;go_simp;apply Y;clear Y X)
 refine Jh 6 [10] [⟨4,7,62,[.slice none 0 0],r.ranks.length,false⟩] 5 8 [0] (.agg [.osl 0,bG,I 0]) (by kernel_rfl) ?_ ?_ (by kernel_rfl) (by kernel_rfl) (by kernel_rfl) (by go_simp) (by go_simp) ?_
 ·intro hh E o ho hE;simp only [List.getElem?_cons_succ,List.getElem?_cons_zero,Option.some.injEq] at ho;subst ho;have e1:=hE 0 (by simp) _ rfl;simp only [Mc.av,List.length_nil,Bool.false_eq_true,if_false,Nat.zero_add] at e1;simp [fT,go_sem,e1]
 ·intro j hj hn;simp at hj hn;omega
 simp only [au];repeat (first|(refine fi rfl ?_)|((with_reducible refine fj rfl fun X Y=>?_);go_simp;refine Y _ (by go_simp) ?_;clear Y X)|(with_reducible apply fk))
 refine ⟨by simp only [xt,mcK,List.getElem?_cons_succ,List.getElem?_cons_zero];go_simp;omega,?_⟩;simp only [mcS,mcE,Mc.ob,Mc.av,List.cons_append,List.nil_append,Bool.false_eq_true,if_false,Nat.zero_add,List.length_cons,List.length_nil];repeat ((with_reducible refine ab fun X Y=>?_);go_simp;refine Y _ ?_;clear Y X)
 apply aa;apply ae;refine hZ (fun p a w R=>⟨_,R.toBag (id:=0) (sz:=1) rfl (by decide) (by kernel_rfl)⟩) ?_;go_simp;refine hZ (fun p a w R=>⟨_,R.nilCell (bi:=1) (j:=1) (e:=148) (sz:=3) rfl rfl (by decide)⟩) ?_;go_simp;refine hZ (fun p a w R=>⟨_,R.nilCell (bi:=1) (j:=6) (e:=45) (sz:=3) rfl rfl (by decide)⟩) ?_;go_simp;repeat' with_reducible apply az
 go_simp
theorem Ki (r:Ru) (s:St) (mv:List Sg) (a:Bool) (out:List Sg) (n:Bool) (x:Ev) (i:Int) (hm:x.kind=4→0 < mv.length) (hl:out.length+mv.length+1≤1000000000) :
  VH Tryz.prog 94 (gr r s mv a++[some (.box [.osl 4]),some (.arr 45 3 n (out.map Sg.av))]) [.ref 0 0,I i,evA x,.ref 3 0] [0,3] (gr r s mv a++[some (.box [.osl 4]),some (.arr 45 3 false ((out++gL x++mv).map Sg.av))]) (.tup []):=by
 obtain ⟨kd,tm,rk,car⟩:=x;simp only at hm;unfold gL;simp only;simp only [evA];have wY:out.length≤999999999:=by omega
 have fu:out.length+mv.length≤1000000000:=by omega
 have fL:out.length+1+mv.length≤1000000000:=by omega
 have QW:out.length+(1+mv.length)≤1000000000:=by omega
 have QX:out.length+1≤1000000000:=by omega
 by_cases h4:kd=4
 ·subst h4;have qp:=hm rfl;rw [if_pos rfl,List.append_nil];clear hm;refine dn Tryz.func94 rfl (by kernel_rfl) rfl (fun _=>by kernel_rfl) fun M0 w0 vs=>?_;simp only [Tryz.ntmps94,Tryz.results94,aC];unfold gr;simp only [List.cons_append,List.nil_append];repeat' with_reducible first|apply af|apply ae|apply aw|apply aE|apply bc|apply aa|refine ah [] ?_|(apply ax;·go_simp)|(apply ab;intro X Y;go_simp;apply Y;clear Y X)
  refine rH 5 [36] 4 [] (by kernel_rfl) (by kernel_rfl) (by kernel_rfl) (by kernel_rfl) rfl ⟨rfl,rfl⟩ rfl ?_;simp only [au];repeat' with_reducible first|apply aQ|(apply aR;intro X Y;go_simp;apply Y;clear Y X)
  refine ⟨_,by go_simp,by go_simp;exact rfl,?_,?_⟩
  ·intro t ht;simp at ht
  go_simp;repeat' with_reducible first|apply aa|(apply ab;intro X Y;go_simp;apply Y;clear Y X)
  go_simp
 ·rw [if_neg h4];by_cases h5:kd=5
  ·subst h5;rw [if_pos rfl];clear hm;refine dn Tryz.func94 rfl (by kernel_rfl) rfl (fun _=>by kernel_rfl) fun M0 w0 vs=>?_;simp only [Tryz.ntmps94,Tryz.results94,aC];unfold gr;simp only [List.cons_append,List.nil_append];repeat' with_reducible first|apply af|apply ae|apply aE|apply bc|apply aa|refine ah [] ?_|(apply ax;·go_simp)|(apply ar;·go_simp)|(apply ab;intro X Y;go_simp;apply Y;clear Y X)
   refine rH 5 [36] 4 [] (by kernel_rfl) (by kernel_rfl) (by kernel_rfl) (by kernel_rfl) rfl ⟨rfl,rfl⟩ rfl ?_;simp only [au];repeat' with_reducible first|apply aQ|(apply aR;intro X Y;go_simp;apply Y;clear Y X)
   refine ⟨_,by go_simp,by go_simp;exact rfl,?_,?_⟩
   ·intro t ht;simp at ht
   go_simp;repeat' with_reducible first|apply aa|(apply ab;intro X Y;go_simp;apply Y;clear Y X)
   go_simp
  ·rw [if_neg h5];clear hm;refine dn Tryz.func94 rfl (by kernel_rfl) rfl (fun _=>by kernel_rfl) fun M0 w0 vs=>?_;simp only [Tryz.ntmps94,Tryz.results94,aC];unfold gr;simp only [List.cons_append,List.nil_append];repeat' with_reducible first|apply af|apply ae|apply aE|apply bc|apply aa|refine ah [] ?_|(apply ar;·go_simp)|(apply ab;intro X Y;go_simp;apply Y;clear Y X)
   refine rH 5 [36] 4 [] (by kernel_rfl) (by kernel_rfl) (by kernel_rfl) (by kernel_rfl) rfl ⟨rfl,rfl⟩ rfl ?_;simp only [au];repeat' with_reducible first|apply aQ|(apply aR;intro X Y;go_simp;apply Y;clear Y X)
   refine ⟨_,by go_simp,by go_simp;exact rfl,?_,?_⟩
   ·intro t ht;simp at ht
   go_simp;repeat' with_reducible first|apply aa|(apply ab;intro X Y;go_simp;apply Y;clear Y X)
   go_simp
abbrev T3:Type:=St×List Sg×Bool
def EY (r:Ru) (t:T3) (x:Ev) (a:Bool) : Prop:=VH Tryz.prog 128 (gr r t.1 t.2.1 t.2.2) [.ref 0 0,evA x] [0] (gr r (apR r t.1 x).1 (apR r t.1 x).2 a) (I (apE r t.1 x))
open Classical in
noncomputable def apFl (r:Ru) (t:T3) (x:Ev) : Bool:=if h:∃ a,EY r t x a then Classical.choose h else false
noncomputable def stepT (r:Ru) (t:T3) (x:Ev) : T3:=((apR r t.1 x).1,(apR r t.1 x).2,apFl r t x)
abbrev pB (r:Ru) (t:T3) : Hp:=gr r t.1 t.2.1 t.2.2
def t0 (r:Ru) : T3:=(st0 r,[],true)
theorem AZ (r:Ru) (t:T3) (x:Ev) (hr:RuOK r) (hi:Inv r t.1) (hc:x.car.size≤1000) : VH Tryz.prog 128 (pB r t) [.ref 0 0,evA x] [0] (pB r (stepT r t x)) (I (apE r t.1 x)):=by
 have h:∃ a,EY r t x a:=Kb r t.1 t.2.1 t.2.2 x hr hi hc;have e:apFl r t x=Classical.choose h:=dif_pos h;have:=Classical.choose_spec h;rw [←e] at this;exact this
def eG (r:Ru) (l:List Ev) : Int:=fst [(dR r).2,unl (decide (l.length≤200)) 8]
theorem EZ {r:Ru} : ∀ (n:Nat) (s:St) (m:List Sg),m.length≤(cD r n s m).2.length∧(cD r n s m).2.length≤m.length+2*n
 | 0,_,m=>⟨Nat.le_refl _,by rw [cD];simp only;omega⟩
 | n+1,s,m=>by
  rw [cD];split
  ·exact ⟨Nat.le_refl _,by simp only;omega⟩
  ·have:=EZ (r:=r) n (upS r s (di r s).toNat) (m++upM s.q (di r s).toNat (feedN r (di r s).toNat));rw [List.length_append] at this;have e:(upM s.q (di r s).toNat (feedN r (di r s).toNat)).length=2:=rfl;omega
theorem xZ {r:Ru} {s:St} (hr:RuOK r) (hi:Inv r s) {x:Ev} (h:apE r s x=0) : (apU r s x).2.length≤1002∧(x.kind=4→0 < (apU r s x).2.length):=by
 unfold apE at h;rw [ch,ch,ch] at h;have ER:=vb h.1;have hd:=hi.doS hr h.1 (of_decide_eq_true (eW (by decide) h.2.1)) (show x.rank=(x.rank.toNat:Int) by omega) h.2.2.1;have hh:=AW hr hd;have hl:=EZ (r:=r) (cA 0 (doS r s x x.rank.toNat).q) (atS (doS r s x x.rank.toNat) x.time) (doM r s x x.rank.toNat);change cA 0 (doS r s x x.rank.toNat).q≤500 at hh;unfold apU;have hm:(doM r s x x.rank.toNat).length≤2:=by
  unfold doM;split
  ·simp [upM]
  ·simp
 refine ⟨by omega,fun h4=>?_⟩;have e:(doM r s x x.rank.toNat).length=2:=by
  unfold doM;rw [if_pos h4];rfl
 omega
theorem Kj (r:Ru) (t:T3) (x:Ev) (i:Int) : VH Tryz.prog 86 (pB r t) [.ref 0 0,I i,evA x] [0] (pB r t) (.tup []):=by
 refine dn Tryz.func86 rfl (by kernel_rfl) rfl (fun _=>by kernel_rfl) fun M0 w0 vs=>?_;simp only [Tryz.ntmps86,Tryz.results86,aC];unfold pB gr;repeat' with_reducible first|apply aa|refine ah [] ?_|(apply ab;intro X Y;go_simp;apply Y;clear Y X)
 go_simp
noncomputable def runT0 (r:Ru) : Nat→List Ev→T3×(Unit)→T3×(Unit)
 | _,[],z=>z
 | k,x::l,z=>if apE r z.1.1 x≠0 then (stepT r z.1 x,z.2) else runT0 r (k+1) l (stepT r z.1 x,())
def qq:AV:=.lit (.func (.func 86) #[] #[])
theorem Kk (r:Ru) (l:List Ev) (hn:r.ranks.length≤1000000) (cU:∀ k,k < r.ranks.length→(rat r.ranks k).name.size≤1000) (h0:¬eG r l=0) :
  VH Tryz.prog 85 [] [bJ r,cp l,qq] [] [] (.tup [.lit (.pointer none),I 0,I (eG r l)]):=by
 have g1:=tC r hn cU;have g2:=bN (decide (l.length≤200)) 8;have g3:VC Tryz.prog 88 [.sl 1 ([(dR r).2,unl (decide (l.length≤200)) 8].map dt)] (I (eG r l)):=eL _ rfl rfl;have ed:decide ((l.length:Int)≤200)=decide (l.length≤200):=by
  by_cases h:l.length≤200
  ·rw [decide_eq_true h,decide_eq_true (by omega)]
  ·rw [decide_eq_false h,decide_eq_false (by omega)]
 rw [←ed] at g2 g3;generalize eG r l=E at *;generalize (dR r).2=A1 at *;generalize unl (decide ((l.length:Int)≤200)) 8=A2 at *;clear ed;unfold qq;refine dn Tryz.func85 rfl (by kernel_rfl) rfl (fun _=>by kernel_rfl) fun M0 w0 vs=>?_;simp only [Tryz.ntmps85,Tryz.results85,aC];repeat' first|(with_reducible first|apply af|apply ae|apply aW|apply az|apply aa|refine ah [] ?_|(apply ax;·go_simp))|((with_reducible apply ab);intro X Y;go_simp;(first|(with_reducible refine ⟨_,g1,?_⟩)|(with_reducible refine ⟨_,g2,?_⟩)|(refine ⟨_,g3,?_⟩)|skip);apply Y;clear Y X)
 go_simp
theorem E0 (r:Ru) (l:List Ev) (H:Hp) (V:AV) (cU:∀ k,k < r.ranks.length→(rat r.ranks k).name.size≤1000) (hr:RuOK r) (hl:l.length≤200) (hc:∀ x∈l,x.car.size≤1000) (h0:eG r l=0) (z:T3×(Unit)) (hz:runT0 r 0 l (t0 r,())=z)
  (iE:(goP r 0 l (st0 r)).2.2≠0∧H=[]∧V = .tup [.lit (.pointer none),I ((goP r 0 l (st0 r)).2.1:Int),I (goP r 0 l (st0 r)).2.2]∨(goP r 0 l (st0 r)).2.2=0∧H=[some (.bag 62 1 false none (bA z.1.1.q)),some (.box [.osl 0,.osl 2,I z.1.1.time,.sl 4 (r.ranks.map Rk.av),I r.back,I r.ret,.sl 3 (z.1.2.1.map Sg.av)]),some (.arr 148 3 z.1.2.2 (z.1.1.tk.map Tk.av))]∧V = .tup [.ref 1 0,I 0,I 0]) :
  VH Tryz.prog 85 [] [bJ r,cp l,qq] [] H V:=by
 have hn:r.ranks.length≤1000000:=by have:=hr.n6;omega
 have g1:=tC r hn cU;have g2:=bN (decide (l.length≤200)) 8;have g3:VC Tryz.prog 88 [.sl 1 ([(dR r).2,unl (decide (l.length≤200)) 8].map dt)] (I (eG r l)):=eL _ rfl rfl;have ed:decide ((l.length:Int)≤200)=decide (l.length≤200):=by rw [decide_eq_true hl,decide_eq_true (by omega)]
 rw [←ed] at g2 g3;rw [h0] at g3;generalize (dR r).2=A1 at *;generalize unl (decide ((l.length:Int)≤200)) 8=A2 at *;have ge:=AY r hn;have HF:=Lib.hid iE;have HR:=Lib.hid hr;have HC:=Lib.hid hc;have HZ:=Lib.hid hz;clear ed h0 iE hr cU hc hn hz;unfold qq;refine dn Tryz.func85 rfl (by kernel_rfl) rfl (fun _=>by kernel_rfl) fun M0 w0 vs=>?_;simp only [Tryz.ntmps85,Tryz.results85,aC];repeat' with_reducible apply af
 refine ah [] ?_;repeat' with_reducible first|apply af|apply ae|apply aa|(apply ab;intro X Y;go_simp;apply Y;clear Y X)
 refine ah [] ?_;repeat' first|(with_reducible first|apply af|apply ae|apply aa)|((with_reducible apply ab);intro X Y;go_simp;(first|(with_reducible refine ⟨_,g1,?_⟩)|(with_reducible refine ⟨_,g2,?_⟩)|(refine ⟨_,g3,?_⟩)|skip);apply Y;clear Y X)
 refine ah [] ?_;repeat' with_reducible first|apply af|apply ae|apply aw|apply aa|(apply ar;·go_simp)|(apply ab;intro X Y;go_simp;apply Y;clear Y X)
 refine dm (bb [] 1 ⟨rfl,rfl⟩ ?_);simp only [au];repeat' with_reducible first|apply aa|(apply ab;intro X Y;go_simp;apply Y;clear Y X)
 refine dI [] [] [] (nv r (st0 r) [] true true) (.ref 1 0) rfl (by go_simp) ?_ ?_
 ·unfold dv;go_simp;refine ⟨_,_,⟨_,ge⟩,?_⟩;unfold nv;go_simp;kernel_rfl
 unfold nv;go_simp;refine bb [] 1 ⟨rfl,rfl⟩ ?_;simp only [au];repeat' with_reducible first|apply aa|(apply ab;intro X Y;go_simp;apply Y;clear Y X)
 apply cF;refine gV 1 6 3 rfl rfl rfl ?_;repeat' with_reducible apply af
 refine ah [] ?_;repeat' with_reducible first|apply ae|apply aE|apply aa|(apply ab;intro X Y;go_simp;apply Y;clear Y X)
 apply mz (α:=Nat×T3×(Unit)) [2,10,27,28] (fun (x:Nat×T3×(Unit))=>[(29,I (x.1:Int))]) (fun (x:Nat×T3×(Unit))=>([some (.bag 62 1 false none (bA x.2.1.1.q)),some (.box [.osl 0,.osl 2,I x.2.1.1.time,.sl 4 (r.ranks.map Rk.av),I r.back,I r.ret,.sl 3 (x.2.1.2.1.map Sg.av)]),some (.arr 148 3 x.2.1.2.2 (x.2.1.1.tk.map Tk.av))] : Hp)) (fun (x:Nat×T3×(Unit))=>Hid (Inv r x.2.1.1∧goP r x.1 (l.drop x.1) x.2.1.1=goP r 0 l (st0 r)∧runT0 r x.1 (l.drop x.1) x.2=z)∧x.1≤l.length∧Hid (True)) (fun (x:Nat×T3×(Unit))=>l.length - x.1) ((0,(st0 r,([] : List Sg),true),())) ⟨Lib.hid ⟨Inv.st0 HR.out,rfl,HZ.out⟩,Nat.zero_le _,Lib.hid (trivial)⟩
 ·(go_simp<;>exact rfl)
 ·go_simp
 rintro ⟨k,⟨s,m,a⟩,y⟩ ⟨HI,hk,HY⟩ K hK;simp only at HI hk hK HY ⊢;by_cases cB:k < l.length
 ·obtain ⟨w1,w2,w3,w4,w5,w6⟩:=ixs (m:=k) (by omega);have el:l.drop k=aA l k::l.drop (k+1):=by rw [jK cB,←List.drop_eq_getElem_cons cB]
  have wa:=AZ r (s,m,a) (aA l k) HR.out HI.out.1 (HC.out _ (by rw [jK cB];exact List.getElem_mem cB));obtain ⟨T2,jY⟩ : ∃ T2,stepT r (s,m,a) (aA l k)=T2:=⟨_,rfl⟩
  rw [jY] at wa;obtain ⟨s2,m2,a2⟩:=T2;have lx:apE r s (aA l k)=0→(apU r s (aA l k)).1=s2∧(apU r s (aA l k)).2=m2:=fun h=>by
   have e1:=congrArg (fun t:T3=>t.1) jY;have e2:=congrArg (fun t:T3=>t.2.1) jY;simp only [stepT,apR,if_pos h] at e1 e2;exact ⟨e1,e2⟩
  have hE:goP r k (l.drop k) s=if apE r s (aA l k)≠0 then (s,k,apE r s (aA l k)) else goP r (k+1) (l.drop (k+1)) s2:=by
   rw [el,goP];by_cases h:apE r s (aA l k)=0
   ·rw [if_neg (by simp [h]),if_neg (by simp [h]),(lx h).1]
   ·rw [if_pos h,if_pos h]
  have hU:runT0 r k (l.drop k) ((s,m,a),y)=if apE r s (aA l k)≠0 then ((s2,m2,a2),y) else runT0 r (k+1) (l.drop (k+1)) ((s2,m2,a2),()):=by rw [el,runT0,jY]
  have qt:apE r s (aA l k)=0→Inv r s2:=fun h=>by
   rw [←(lx h).1];exact (HI.out.1.ap HR.out h).1
  have h1:=HI.out.2.1;have h2:=HI.out.2.2;rw [hE] at h1;rw [hU] at h2;have wt:=Kj r (s2,m2,a2) (aA l k) (k:Int);clear jY HI hE hU el lx;unfold pB gr at wa;simp only at wa;unfold pB gr at wt;have H1:=Lib.hid h1;have H2:=Lib.hid h2;have bj:=Lib.hid qt;clear h1 h2 qt;have WT:=Lib.hid wt;clear wt;generalize apE r s (aA l k)=E at *;repeat' with_reducible apply af
  refine ah [] ?_;repeat' with_reducible first|apply af|apply ae|apply aw|apply aE|apply aa|(apply ax;·go_simp)|(apply ab;intro X Y;go_simp;apply Y;clear Y X)
  refine ah [] ?_;repeat' with_reducible first|apply af|apply ae|apply aa|(apply ab;intro X Y;go_simp;apply Y;clear Y X)
  refine dm (bb [] 2 ⟨rfl,rfl⟩ ?_);simp only [au];repeat' with_reducible first|apply aa|(apply ab;intro X Y;go_simp;apply Y;clear Y X)
  refine dI [1,0,2] [1] [] [some (.box [.osl 1,.osl 2,I s2.time,.sl 4 (r.ranks.map Rk.av),I r.back,I r.ret,.sl 3 (m2.map Sg.av)]),some (.bag 62 1 false none (bA s2.q)),some (.arr 148 3 a2 (s2.tk.map Tk.av))] (I E) rfl (by go_simp) ?_ ?_
  ·unfold dv;go_simp;refine ⟨_,_,_,wa,?_⟩;go_simp;kernel_rfl
  go_simp;refine bb [] 1 ⟨rfl,rfl⟩ ?_;simp only [au];repeat' with_reducible first|apply aa|(apply ab;intro X Y;go_simp;apply Y;clear Y X)
  apply cF;repeat' with_reducible first|apply af|apply ae
  by_cases he:E=0
  ·subst he;have h1:=H1.out;have h2:=H2.out;rw [if_neg (by simp)] at h1 h2;have bD:=bj.out rfl;have wt:=WT.out;clear H1 bj WT H2 HY;have H1:=Lib.hid h1;have H2:=Lib.hid h2;have bj:=Lib.hid bD;clear h1 h2 bD;refine ah [] ?_;repeat' with_reducible first|apply ae|apply aw|apply aa|(apply ar;·go_simp)|(apply ab;intro X Y;go_simp;apply Y;clear Y X)
   refine dm (bb [] 4 ⟨rfl,rfl⟩ ?_);simp only [au];repeat' with_reducible first|apply aa|(apply ab;intro X Y;go_simp;apply Y;clear Y X)
   refine dI [1,0,2] [1] [] [some (.box [.osl 1,.osl 2,I s2.time,.sl 4 (r.ranks.map Rk.av),I r.back,I r.ret,.sl 3 (m2.map Sg.av)]),some (.bag 62 1 false none (bA s2.q)),some (.arr 148 3 a2 (s2.tk.map Tk.av))] (.tup []) rfl (by go_simp) ?_ ?_
   ·unfold dv;go_simp;refine ⟨_,_,_,wt,?_⟩;go_simp;kernel_rfl
   go_simp;apply cF;repeat' with_reducible first|apply ae|apply bc
   refine ah [] ?_;repeat' with_reducible first|apply ae|apply aa|(apply ab;intro X Y;go_simp;apply Y;clear Y X)
   refine hK _ (k+1,(s2,m2,a2),()) ⟨Lib.hid ⟨bj.out,H1.out,H2.out⟩,cB,Lib.hid (trivial)⟩ (by simp only;omega) ?_;go_simp
  ·have h1:=H1.out;have h2:=H2.out;rw [if_pos he] at h1 h2;rcases HF.out with ⟨q1,rfl,q3⟩|⟨q1,_,_⟩
   ·rw [←h1] at q3;simp only at q3;subst q3;subst h2;clear HF H1 bj H2 h1 q1 hK HZ WT;refine ah [] ?_;repeat' with_reducible first|apply af|apply ae|apply aa|(apply ax;·go_simp)|(apply ab;intro X Y;go_simp;apply Y;clear Y X)
    refine ah [] ?_;repeat' with_reducible first|apply ae|apply aW|apply az|apply dh|apply aa|(apply ab;intro X Y;go_simp;apply Y;clear Y X)
    go_simp
   ·rw [←h1] at q1;exact absurd q1 he
 ·have qu:k=l.length:=by omega
  have h1:=HI.out.2.1;have h2:=HI.out.2.2;rw [qu,List.drop_length] at h1 h2;rw [goP] at h1;rw [runT0] at h2;rcases HF.out with ⟨q1,_,_⟩|⟨_,q2,q3⟩
  ·rw [←h1] at q1;exact absurd rfl q1
  ·subst q3;subst h2;subst q2;subst qu;clear HF h1 HI hK HZ;repeat' with_reducible apply af
   refine ah [] ?_;repeat' with_reducible first|apply af|apply ae|apply bU|apply bV|apply bW|apply aa|(apply ar;·go_simp)|(apply ab;intro X Y;go_simp;apply Y;clear Y X)
   refine ah [] ?_;repeat' with_reducible first|apply ae|apply az|apply aa|(apply ab;intro X Y;go_simp;apply Y;clear Y X)
   go_simp
noncomputable def runTS (r:Ru) : Nat→List Ev→T3×(List Sg×Bool)→T3×(List Sg×Bool)
 | _,[],z=>z
 | k,x::l,z=>if apE r z.1.1 x≠0 then (stepT r z.1 x,z.2) else runTS r (k+1) l (stepT r z.1 x,(z.2.1++gL x++(stepT r z.1 x).2.1,false))
def pC:AV:=.fn (.func 94) [] [.ref 0 0]
theorem Kl (r:Ru) (l:List Ev) (hn:r.ranks.length≤1000000) (cU:∀ k,k < r.ranks.length→(rat r.ranks k).name.size≤1000) (h0:¬eG r l=0) :
  VH Tryz.prog 85 [some (.box [.osl 1]),some (.arr 45 3 true [])] [bJ r,cp l,pC] [2] [some (.box [.osl 1]),some (.arr 45 3 true [])] (.tup [.lit (.pointer none),I 0,I (eG r l)]):=by
 have g1:=tC r hn cU;have g2:=bN (decide (l.length≤200)) 8;have g3:VC Tryz.prog 88 [.sl 1 ([(dR r).2,unl (decide (l.length≤200)) 8].map dt)] (I (eG r l)):=eL _ rfl rfl;have ed:decide ((l.length:Int)≤200)=decide (l.length≤200):=by
  by_cases h:l.length≤200
  ·rw [decide_eq_true h,decide_eq_true (by omega)]
  ·rw [decide_eq_false h,decide_eq_false (by omega)]
 rw [←ed] at g2 g3;generalize eG r l=E at *;generalize (dR r).2=A1 at *;generalize unl (decide ((l.length:Int)≤200)) 8=A2 at *;clear ed;unfold pC;refine dn Tryz.func85 rfl (by kernel_rfl) rfl (fun _=>by kernel_rfl) fun M0 w0 vs=>?_;simp only [Tryz.ntmps85,Tryz.results85,aC];repeat' first|(with_reducible first|apply af|apply ae|apply aW|apply az|apply aa|refine ah [] ?_|(apply ax;·go_simp))|((with_reducible apply ab);intro X Y;go_simp;(first|(with_reducible refine ⟨_,g1,?_⟩)|(with_reducible refine ⟨_,g2,?_⟩)|(refine ⟨_,g3,?_⟩)|skip);apply Y;clear Y X)
 go_simp
theorem E2 (r:Ru) (l:List Ev) (H:Hp) (V:AV) (cU:∀ k,k < r.ranks.length→(rat r.ranks k).name.size≤1000) (hr:RuOK r) (hl:l.length≤200) (hc:∀ x∈l,x.car.size≤1000) (h0:eG r l=0) (z:T3×(List Sg×Bool)) (hz:runTS r 0 l (t0 r,([],true))=z)
  (iE:(goP r 0 l (st0 r)).2.2≠0∧H=[some (.box [.osl 1]),some (.arr 45 3 z.2.2 (z.2.1.map Sg.av))]∧V = .tup [.lit (.pointer none),I ((goP r 0 l (st0 r)).2.1:Int),I (goP r 0 l (st0 r)).2.2]∨(goP r 0 l (st0 r)).2.2=0∧H=[some (.box [.osl 1]),some (.arr 45 3 z.2.2 (z.2.1.map Sg.av)),some (.bag 62 1 false none (bA z.1.1.q)),some (.box [.osl 2,.osl 4,I z.1.1.time,.sl 4 (r.ranks.map Rk.av),I r.back,I r.ret,.sl 3 (z.1.2.1.map Sg.av)]),some (.arr 148 3 z.1.2.2 (z.1.1.tk.map Tk.av))]∧V = .tup [.ref 3 0,I 0,I 0]) :
  VH Tryz.prog 85 [some (.box [.osl 1]),some (.arr 45 3 true [])] [bJ r,cp l,pC] [2] H V:=by
 have hn:r.ranks.length≤1000000:=by have:=hr.n6;omega
 have g1:=tC r hn cU;have g2:=bN (decide (l.length≤200)) 8;have g3:VC Tryz.prog 88 [.sl 1 ([(dR r).2,unl (decide (l.length≤200)) 8].map dt)] (I (eG r l)):=eL _ rfl rfl;have ed:decide ((l.length:Int)≤200)=decide (l.length≤200):=by rw [decide_eq_true hl,decide_eq_true (by omega)]
 rw [←ed] at g2 g3;rw [h0] at g3;generalize (dR r).2=A1 at *;generalize unl (decide ((l.length:Int)≤200)) 8=A2 at *;have ge:=AY r hn;have HF:=Lib.hid iE;have HR:=Lib.hid hr;have HC:=Lib.hid hc;have HZ:=Lib.hid hz;clear ed h0 iE hr cU hc hn hz;unfold pC;refine dn Tryz.func85 rfl (by kernel_rfl) rfl (fun _=>by kernel_rfl) fun M0 w0 vs=>?_;simp only [Tryz.ntmps85,Tryz.results85,aC];repeat' with_reducible apply af
 refine ah [] ?_;repeat' with_reducible first|apply af|apply ae|apply aa|(apply ab;intro X Y;go_simp;apply Y;clear Y X)
 refine ah [] ?_;repeat' first|(with_reducible first|apply af|apply ae|apply aa)|((with_reducible apply ab);intro X Y;go_simp;(first|(with_reducible refine ⟨_,g1,?_⟩)|(with_reducible refine ⟨_,g2,?_⟩)|(refine ⟨_,g3,?_⟩)|skip);apply Y;clear Y X)
 refine ah [] ?_;repeat' with_reducible first|apply af|apply ae|apply aw|apply aa|(apply ar;·go_simp)|(apply ab;intro X Y;go_simp;apply Y;clear Y X)
 refine dm (bb [] 1 ⟨rfl,rfl⟩ ?_);simp only [au];repeat' with_reducible first|apply aa|(apply ab;intro X Y;go_simp;apply Y;clear Y X)
 refine dI [] [] [] (nv r (st0 r) [] true true) (.ref 1 0) rfl (by go_simp) ?_ ?_
 ·unfold dv;go_simp;refine ⟨_,_,⟨_,ge⟩,?_⟩;unfold nv;go_simp;kernel_rfl
 unfold nv;go_simp;refine bb [] 1 ⟨rfl,rfl⟩ ?_;simp only [au];repeat' with_reducible first|apply aa|(apply ab;intro X Y;go_simp;apply Y;clear Y X)
 apply cF;refine gV 3 6 5 rfl rfl rfl ?_;repeat' with_reducible apply af
 refine ah [] ?_;repeat' with_reducible first|apply ae|apply aE|apply aa|(apply ab;intro X Y;go_simp;apply Y;clear Y X)
 apply mz (α:=Nat×T3×(List Sg×Bool)) [2,10,27,28] (fun (x:Nat×T3×(List Sg×Bool))=>[(29,I (x.1:Int))]) (fun (x:Nat×T3×(List Sg×Bool))=>([some (.box [.osl 1]),some (.arr 45 3 x.2.2.2 (x.2.2.1.map Sg.av)),some (.bag 62 1 false none (bA x.2.1.1.q)),some (.box [.osl 2,.osl 4,I x.2.1.1.time,.sl 4 (r.ranks.map Rk.av),I r.back,I r.ret,.sl 3 (x.2.1.2.1.map Sg.av)]),some (.arr 148 3 x.2.1.2.2 (x.2.1.1.tk.map Tk.av))] : Hp)) (fun (x:Nat×T3×(List Sg×Bool))=>Hid (Inv r x.2.1.1∧goP r x.1 (l.drop x.1) x.2.1.1=goP r 0 l (st0 r)∧runTS r x.1 (l.drop x.1) x.2=z)∧x.1≤l.length∧Hid (x.2.2.1.length≤x.1*1100)) (fun (x:Nat×T3×(List Sg×Bool))=>l.length - x.1) ((0,(st0 r,([] : List Sg),true),([],true))) ⟨Lib.hid ⟨Inv.st0 HR.out,rfl,HZ.out⟩,Nat.zero_le _,Lib.hid (Nat.zero_le _)⟩
 ·(go_simp<;>exact rfl)
 ·go_simp
 rintro ⟨k,⟨s,m,a⟩,y⟩ ⟨HI,hk,HY⟩ K hK;simp only at HI hk hK HY ⊢;by_cases cB:k < l.length
 ·obtain ⟨w1,w2,w3,w4,w5,w6⟩:=ixs (m:=k) (by omega);have el:l.drop k=aA l k::l.drop (k+1):=by rw [jK cB,←List.drop_eq_getElem_cons cB]
  have wa:=AZ r (s,m,a) (aA l k) HR.out HI.out.1 (HC.out _ (by rw [jK cB];exact List.getElem_mem cB));obtain ⟨T2,jY⟩ : ∃ T2,stepT r (s,m,a) (aA l k)=T2:=⟨_,rfl⟩
  rw [jY] at wa;obtain ⟨s2,m2,a2⟩:=T2;have lx:apE r s (aA l k)=0→(apU r s (aA l k)).1=s2∧(apU r s (aA l k)).2=m2:=fun h=>by
   have e1:=congrArg (fun t:T3=>t.1) jY;have e2:=congrArg (fun t:T3=>t.2.1) jY;simp only [stepT,apR,if_pos h] at e1 e2;exact ⟨e1,e2⟩
  have hE:goP r k (l.drop k) s=if apE r s (aA l k)≠0 then (s,k,apE r s (aA l k)) else goP r (k+1) (l.drop (k+1)) s2:=by
   rw [el,goP];by_cases h:apE r s (aA l k)=0
   ·rw [if_neg (by simp [h]),if_neg (by simp [h]),(lx h).1]
   ·rw [if_pos h,if_pos h]
  have hU:runTS r k (l.drop k) ((s,m,a),y)=if apE r s (aA l k)≠0 then ((s2,m2,a2),y) else runTS r (k+1) (l.drop (k+1)) ((s2,m2,a2),(y.1++gL (aA l k)++(s2,m2,a2).2.1,false)):=by rw [el,runTS,jY]
  have qt:apE r s (aA l k)=0→Inv r s2:=fun h=>by
   rw [←(lx h).1];exact (HI.out.1.ap HR.out h).1
  have hM:apE r s (aA l k)=0→y.1.length+m2.length+1≤1000000000∧((aA l k).kind=4→0 < m2.length):=fun h=>by
   obtain ⟨e1,e2⟩:=xZ HR.out HI.out.1 h;rw [(lx h).2] at e1 e2;have:=HY.out;exact ⟨by omega,e2⟩
  have pD:apE r s (aA l k)=0→(y.1++gL (aA l k)++m2).length≤(k+1)*1100:=fun h=>by
   obtain ⟨e1,e2⟩:=xZ HR.out HI.out.1 h;rw [(lx h).2] at e1;have:=HY.out;have e3:(gL (aA l k)).length≤1:=by
    unfold gL;split
    ·exact Nat.zero_le _
    ·split<;>exact Nat.le_refl _
   rw [List.length_append,List.length_append];omega
  have vj:=Lib.hid pD;clear pD;have h1:=HI.out.2.1;have h2:=HI.out.2.2;rw [hE] at h1;rw [hU] at h2;have wt:=fun tD:apE r s (aA l k)=0=>Ki r s2 m2 a2 y.1 y.2 (aA l k) (k:Int) (hM tD).2 (hM tD).1;clear jY HI hE hU el lx hM;unfold pB gr at wa;simp only at wa;unfold gr at wt;simp only [List.cons_append,List.nil_append] at wt;have H1:=Lib.hid h1;have H2:=Lib.hid h2;have bj:=Lib.hid qt;clear h1 h2 qt;have WT:=Lib.hid wt;clear wt;generalize apE r s (aA l k)=E at *;repeat' with_reducible apply af
  refine ah [] ?_;repeat' with_reducible first|apply af|apply ae|apply aw|apply aE|apply aa|(apply ax;·go_simp)|(apply ab;intro X Y;go_simp;apply Y;clear Y X)
  refine ah [] ?_;repeat' with_reducible first|apply af|apply ae|apply aa|(apply ab;intro X Y;go_simp;apply Y;clear Y X)
  refine dm (bb [] 2 ⟨rfl,rfl⟩ ?_);simp only [au];repeat' with_reducible first|apply aa|(apply ab;intro X Y;go_simp;apply Y;clear Y X)
  refine dI [3,2,4] [3] [] [some (.box [.osl 1,.osl 2,I s2.time,.sl 4 (r.ranks.map Rk.av),I r.back,I r.ret,.sl 3 (m2.map Sg.av)]),some (.bag 62 1 false none (bA s2.q)),some (.arr 148 3 a2 (s2.tk.map Tk.av))] (I E) rfl (by go_simp) ?_ ?_
  ·unfold dv;go_simp;refine ⟨_,_,_,wa,?_⟩;go_simp;kernel_rfl
  go_simp;refine bb [] 1 ⟨rfl,rfl⟩ ?_;simp only [au];repeat' with_reducible first|apply aa|(apply ab;intro X Y;go_simp;apply Y;clear Y X)
  apply cF;repeat' with_reducible first|apply af|apply ae
  by_cases he:E=0
  ·subst he;have h1:=H1.out;have h2:=H2.out;rw [if_neg (by simp)] at h1 h2;have bD:=bj.out rfl;have wt:=WT.out rfl;have pD:=vj.out rfl;generalize y.1++gL (aA l k)++m2=O2 at *;clear H1 bj WT H2 HY vj;have H1:=Lib.hid h1;have H2:=Lib.hid h2;have bj:=Lib.hid bD;clear h1 h2 bD;refine ah [] ?_;repeat' with_reducible first|apply ae|apply aw|apply aa|(apply ar;·go_simp)|(apply ab;intro X Y;go_simp;apply Y;clear Y X)
   refine dm (bb [] 4 ⟨rfl,rfl⟩ ?_);simp only [au];repeat' with_reducible first|apply aa|(apply ab;intro X Y;go_simp;apply Y;clear Y X)
   refine dI [3,2,4,0,1] [3,0] [] [some (.box [.osl 1,.osl 2,I s2.time,.sl 4 (r.ranks.map Rk.av),I r.back,I r.ret,.sl 3 (m2.map Sg.av)]),some (.bag 62 1 false none (bA s2.q)),some (.arr 148 3 a2 (s2.tk.map Tk.av)),some (.box [.osl 4]),some (.arr 45 3 false (O2.map Sg.av))] (.tup []) rfl (by go_simp) ?_ ?_
   ·unfold dv;go_simp;refine ⟨_,_,_,wt,?_⟩;go_simp;kernel_rfl
   go_simp;apply cF;repeat' with_reducible first|apply ae|apply bc
   refine ah [] ?_;repeat' with_reducible first|apply ae|apply aa|(apply ab;intro X Y;go_simp;apply Y;clear Y X)
   refine hK _ (k+1,(s2,m2,a2),(O2,false)) ⟨Lib.hid ⟨bj.out,H1.out,H2.out⟩,cB,Lib.hid (pD)⟩ (by simp only;omega) ?_;go_simp
  ·have h1:=H1.out;have h2:=H2.out;rw [if_pos he] at h1 h2;rcases HF.out with ⟨q1,rfl,q3⟩|⟨q1,_,_⟩
   ·rw [←h1] at q3;simp only at q3;subst q3;subst h2;clear HF H1 bj H2 h1 q1 hK HZ WT;refine ah [] ?_;repeat' with_reducible first|apply af|apply ae|apply aa|(apply ax;·go_simp)|(apply ab;intro X Y;go_simp;apply Y;clear Y X)
    refine ah [] ?_;repeat' with_reducible first|apply ae|apply aW|apply az|apply dh|apply aa|(apply ab;intro X Y;go_simp;apply Y;clear Y X)
    go_simp
   ·rw [←h1] at q1;exact absurd q1 he
 ·have qu:k=l.length:=by omega
  have h1:=HI.out.2.1;have h2:=HI.out.2.2;rw [qu,List.drop_length] at h1 h2;rw [goP] at h1;rw [runTS] at h2;rcases HF.out with ⟨q1,_,_⟩|⟨_,q2,q3⟩
  ·rw [←h1] at q1;exact absurd rfl q1
  ·subst q3;subst h2;subst q2;subst qu;clear HF h1 HI hK HZ;repeat' with_reducible apply af
   refine ah [] ?_;repeat' with_reducible first|apply af|apply ae|apply bU|apply bV|apply bW|apply aa|(apply ar;·go_simp)|(apply ab;intro X Y;go_simp;apply Y;clear Y X)
   refine ah [] ?_;repeat' with_reducible first|apply ae|apply az|apply aa|(apply ab;intro X Y;go_simp;apply Y;clear Y X)
   go_simp
end Go.Proofs.YtoibondihdhnoaaGreatDoor
