/- Texts in one: Walks: which rules are right. -/
import Derived.Test.YtoibondihdhnoaaGreatDoorFRY20
import Derived.Test.YtoibondihdhnoaaGreatDoorFRY8
import Derived.Test.YtoibondihdhnoaaGreatDoorFRY21
import Derived.Test.YtoibondihdhnoaaGreatDoorFRY27
namespace Go.Proofs.YtoibondihdhnoaaGreatDoor
open Go.RowKit
theorem ub {α:Type} {l:List α} {k:Nat} (h:k < l.length) : l.take (k+1)=l.take k++[l[k]]:=by simp
theorem KP {q:List (List ByteArray)} {c:ByteArray} : c∈q.flatten↔∃ k,k < q.length∧∃ j,j < (qat q k).length∧tat (qat q k) j=c:=by
 rw [List.mem_flatten];constructor
 ·rintro ⟨l,hl,hc⟩;obtain ⟨k,hk,rfl⟩:=List.getElem_of_mem hl;obtain ⟨j,hj,rfl⟩:=List.getElem_of_mem hc;exact ⟨k,hk,j,by rw [gM hk];exact hj,by rw [gM hk,ie hj]⟩
 ·rintro ⟨k,hk,j,hj,rfl⟩;refine ⟨qat q k,by rw [gM hk];exact List.getElem_mem hk,?_⟩;rw [ie hj];exact List.getElem_mem hj
def nA (r:Ru) (i:Nat) : Bool:=gz (fun k=>decide ((rat r.ranks k).name=(rat r.ranks i).name)) 0 i
def lY (r:Ru) (i:Nat) : Bool:=gz (fun k=>decide ((rat r.ranks k).feeder=(rat r.ranks i).feeder)) 0 i
def fH (r:Ru) (i:Nat) : Bool:=!decide ((rat r.ranks i).feeder = -1)
def rkE (r:Ru) (i:Nat) : Int:=
 fst [unl (dj (rat r.ranks i).name) 4,unl (!nA r i) 5,unl (inR (rat r.ranks i).places 1 12) 2,unl (!fH r i || inR (rat r.ranks i).feeder 0 ((r.ranks.length:Int) - 1)) 6,
  unl (!fH r i || decide ((i:Int) < (rat r.ranks i).feeder)) 9,unl (!fH r i || !lY r i) 26,unl (fH r i || !(rat r.ranks i).called) 3]
def sk (r:Ru) : Int:=unl ((decide (r.back = -1) || inR r.back 0 12)&&inR r.ret 0 3600) 2
def dm (r:Ru) : Nat×Int:=
 if r.ranks.length=0 then (0,10) else if 6 < r.ranks.length then (0,8) else if (ko (rkE r) 0 r.ranks.length).2≠0 then ko (rkE r) 0 r.ranks.length else (0,sk r)
theorem BP {E:Nat→Int} : ∀ (n k:Nat),(ko E k n).2=0↔∀ j,k≤j→j < k+n→E j=0
 | 0,k=>⟨fun _ j h1 h2=>by omega,fun _=>rfl⟩
 | n+1,k=>by
  rw [ko];by_cases h:E k=0
  ·rw [if_neg (by simp [h]),BP n (k+1)];constructor
   ·intro hh j h1 h2;by_cases he:j=k
    ·rw [he];exact h
    ·exact hh j (by omega) (by omega)
   ·exact fun hh j h1 h2=>hh j (by omega) (by omega)
  ·rw [if_pos h];exact ⟨fun hh=>absurd hh h,fun hh=>absurd (hh k (Nat.le_refl k) (by omega)) h⟩
theorem uc {r:Ru} (h:(dm r).2=0) : RuOK r∧(∀ k,k < r.ranks.length→dj (rat r.ranks k).name=true)∧∀ k,k < r.ranks.length→(rat r.ranks k).feeder≠-1→∀ j,j < k→(rat r.ranks j).feeder≠(rat r.ranks k).feeder:=by
 unfold dm at h;split at h
 ·simp at h
 ·rename_i h0;split at h
  ·simp at h
  ·rename_i h6;split at h
   ·rename_i ax;exact absurd h ax
   ·rename_i hz;have hz:(ko (rkE r) 0 r.ranks.length).2=0:=Classical.byContradiction hz;rw [BP] at hz;simp only at h;unfold sk at h;have he:=eQ (by decide) h;simp only [Bool.and_eq_true,Bool.or_eq_true,decide_eq_true_eq,pw] at he;have hk:∀ k,k < r.ranks.length→dj (rat r.ranks k).name=true∧(1≤(rat r.ranks k).places∧(rat r.ranks k).places≤12)∧((rat r.ranks k).feeder≠-1→((k:Int) < (rat r.ranks k).feeder∧(rat r.ranks k).feeder < r.ranks.length)∧lY r k=false):=fun k hk=>by
     have:=hz k (Nat.zero_le k) (by omega);unfold rkE at this;rw [cm,cm,cm,cm,cm,cm] at this;obtain ⟨a1,_,a3,a4,a5,a6,_⟩:=this;replace a1:=eQ (by decide) a1
     replace a3:=eQ (by decide) a3
     replace a4:=eQ (by decide) a4
     replace a5:=eQ (by decide) a5
     replace a6:=eQ (by decide) a6
     rw [pw] at a3;refine ⟨a1,a3,fun hf=>?_⟩;have pJ:fH r k=true:=by simp [fH,hf]
     rw [pJ] at a4 a5 a6;simp only [Bool.not_true,Bool.false_or,pw,decide_eq_true_eq,Bool.not_eq_true'] at a4 a5 a6;exact ⟨⟨a5,by omega⟩,a6⟩
    refine ⟨⟨by omega,by omega,fun k h=>(hk k h).2.1,fun k h hf=>((hk k h).2.2 hf).1,he.1,he.2⟩,fun k h=>(hk k h).1,fun k h hf j hj heq=>?_⟩;have:=((hk k h).2.2 hf).2;unfold lY gz at this;rw [List.any_eq_false] at this;have:=this j (List.mem_range.2 hj);simp [heq] at this
set_option maxRecDepth 100000
set_option maxHeartbeats 2000000
theorem KQ (r:Ru) (s:St) (mv:List Sg) (n1 n2:Bool) (x:Ev) (k:Nat) (hx:x.rank=k) (hk:k < s.q.length) (hq:(qat s.q k).length≤1000000) (h0:fj (qat s.q k) x.car < 0) :
  VH Tryz.prog 227 (cq r s mv n1 n2) [.ref 0 0,evA x] [0] (cq r s mv n1 n2) (I 6):=by
 have g1:=vW (qat s.q k) x.car hq;unfold fj at h0;generalize ixP (isT (qat s.q k) x.car) 0 (qat s.q k).length=A at *;obtain ⟨kd,tm,rk,car⟩:=x;simp only at hx;subst hx;simp only [evA];refine dk Tryz.func227 rfl (by kernel_rfl) rfl (fun _=>by kernel_rfl) fun M0 w0 vs=>?_;simp only [Tryz.ntmps227,Tryz.results227,aC];unfold cq;repeat' first|(with_reducible first|apply af|apply ae|apply aR|apply aw|apply aa|refine ah [] ?_|apply aP|(apply au;·go_simp))|((with_reducible first|apply ab|apply aO);intro X Y;go_simp;(first|(refine ⟨_,⟨g1,rfl⟩,?_⟩)|skip);apply Y;clear Y X)|((refine bf 10 10 [] rfl (by kernel_rfl) ?_);simp only [aA])
 go_simp
theorem KR (r:Ru) (s:St) (mv:List Sg) (n1 n2:Bool) (x:Ev) (k:Nat) (hx:x.rank=k) (hk:k < s.q.length) (hq:(qat s.q k).length≤10000) (h0:¬fj (qat s.q k) x.car < 0) :
  VH Tryz.prog 227 (cq r s mv n1 n2) [.ref 0 0,evA x] [0] (cq r (qm s x k) mv n1 n2) (I 0):=by
 have g1:=vW (qat s.q k) x.car (by omega);obtain ⟨i,e,hi,hh⟩:=Eu (l:=qat s.q k) (c:=x.car) (Classical.byContradiction fun hn=>h0 (tN.2 hn));unfold qm;rw [e,Int.toNat_natCast];unfold fj at e;rw [e] at g1;clear e h0 hh;obtain ⟨kd,tm,rk,car⟩:=x;simp only at hx;subst hx;have hw:=ixs (m:=i) (by omega);obtain ⟨w1,w2,w3,w4,w5,w6⟩:=hw;have bJ:i≤(qat s.q k).length:=by omega
 have Fi:(i:Int)+1≤((qat s.q k).length:Int):=by omega
 have Fj:i+1≤(qat s.q k).length:=hi;have QX:(i:Int)≤((qat s.q k).length:Int):=by omega
 simp only [evA];refine dk Tryz.func227 rfl (by kernel_rfl) rfl (fun _=>by kernel_rfl) fun M0 w0 vs=>?_;simp only [Tryz.ntmps227,Tryz.results227,aC];unfold cq;repeat' with_reducible first|apply af|apply ae|apply aa|refine ah [] ?_|(apply ab;intro X Y;go_simp;apply Y;clear Y X)
 refine bf 10 10 [] rfl (by kernel_rfl) ?_;simp only [aA];repeat' first|(with_reducible first|apply af|apply ae|apply ao|apply aa|refine ah [] ?_|apply aP|(apply aj;·go_simp))|((with_reducible first|apply ab|apply aO);intro X Y;go_simp;(first|(refine ⟨_,⟨g1,rfl⟩,?_⟩)|skip);apply Y;clear Y X)
 refine mQ 15 [0,22,22,23,23,24,24,25,25,26,3,27,27,28] (by kernel_rfl) (by kernel_rfl) (by kernel_rfl) (fun v=>v) xw rfl ⟨rfl,rfl⟩ ?_;simp only [List.take];repeat' with_reducible first|apply aP|(apply aO;intro X Y;go_simp;apply Y;clear Y X)
 refine ⟨_,_,xv (by exact rfl) (by exact rfl) (by go_simp;exact Et _ _ (by repeat' (first|exact TxO.one _|exact TxO.map _|apply TxO.take|apply TxO.drop|apply TxO.tail)) (by repeat' (first|exact TxO.one _|exact TxO.map _|apply TxO.take|apply TxO.drop|apply TxO.tail)) (by simp;omega)) (by go_simp),?_,?_,?_⟩
 ·simp only [List.forall_mem_cons];go_simp
 ·repeat' with_reducible first|apply aP|(apply aO;intro X Y;go_simp;apply Y;clear Y X)
  simp only [List.forall_mem_cons];go_simp
 go_simp;refine bM [] 2 ⟨rfl,rfl⟩ ?_;simp only [aA];repeat' with_reducible first|apply aa|(apply ab;intro X Y;go_simp;apply Y;clear Y X)
 apply da;repeat' with_reducible first|apply af|apply ae|apply aw|apply aa|refine ah [] ?_|(apply ab;intro X Y;go_simp;apply Y;clear Y X)
 go_simp;rw [←lR];congr 1;rw [List.eraseIdx_eq_take_drop_succ,List.map_append,List.map_take,List.map_drop]
theorem Fk:∀ (q:List (List ByteArray)) (i:Nat),(∀ l∈q,l.length≤12)→cl i q≤q.length*(12*(i+q.length))
 | [],_,_=>by simp [cl]
 | l::q,i,h=>by
  have h1:=Fk q (i+1) fun x hx=>h x (List.mem_cons_of_mem _ hx);have h2:=h l (List.mem_cons_self ..);rw [cl,List.length_cons];have h3:i*l.length≤i*12:=Nat.mul_le_mul_left _ h2;have e:(q.length+1)*(12*(i+(q.length+1)))=q.length*(12*(i+1+q.length))+12*(i+1+q.length):=by
   rw [show i+(q.length+1)=i+1+q.length by omega,Nat.add_mul,Nat.one_mul]
  omega
theorem BQ {r:Ru} {s:St} (hr:RuOK r) (h:Inv r s) : cl 0 s.q≤500:=by
 have h1:=Fk s.q 0 fun l hl=>by
  obtain ⟨k,hk,rfl⟩:=List.getElem_of_mem hl;have:=h.fit k hk;have:=hr.pl k (by rw [←h.len];exact hk);rw [←gM hk];omega
 have h6:s.q.length≤6:=by rw [h.len];exact hr.n6
 have:s.q.length*(12*(0+s.q.length))≤6*(12*(0+6)):=Nat.mul_le_mul h6 (by omega);omega
def doR (r:Ru) (s:St) (x:Ev) (k:Nat) : St×List Sg:=if doE r s x k=0 then (doS r s x k,doM r s x k) else (s,[])
theorem KT (r:Ru) (s:St) (n1:Bool) (x:Ev) (k:Nat) (hr:RuOK r) (hi:Inv r s) (hx:x.rank=k) (hk:k < s.q.length) (iO:0≤x.kind∧x.kind≤5) (ht:0≤x.time∧x.time≤604800) :
  ∃ a b,VH Tryz.prog (224+x.kind.toNat) (cq r s [] n1 true) [.ref 0 0,evA x] [0] (cq r (doR r s x k).1 (doR r s x k).2 a b) (I (doE r s x k))∧(doE r s x k≠0→a=n1∧b=true):=by
 have hlen:r.ranks.length=s.q.length:=hi.len.symm;have mB:ll r s.q.length:=by rw [hi.len];exact hr.feed
 have h6:s.q.length≤6:=by rw [hi.len];exact hr.n6
 have dC:∀ j,j < s.q.length→(qat s.q j).length≤12:=fun j hj=>by
  have:=hi.fit j hj;have:=hr.pl j (by omega);omega
 have tV:=dC k hk;have yJ:=hi.tkl;have mA:k < r.ranks.length:=by omega
 unfold doR;by_cases hd:doE r s x k=0
 ·rw [if_pos hd,hd];simp only;unfold doE at hd;unfold doS doM;by_cases k0:x.kind=0
  ·rw [if_pos k0] at hd ⊢;rw [if_neg (by omega),k0];unfold rT rS;by_cases hf:(rat r.ranks k).feeder = -1
   ·by_cases hT:eL s.tk x.car < 0
    ·rw [if_neg (by omega)];exact ⟨_,_,JW r s [] n1 true x k hx hk hlen (by omega) (fun j hj=>by have:=dC j hj;omega) (by omega) hf hT hd,fun h=>absurd rfl h⟩
    ·obtain ⟨i,e,cu,_⟩:=tO (Classical.byContradiction fun hh=>hT (pt.2 hh));rw [if_pos (by omega),e,Int.toNat_natCast];exact ⟨_,_,JX r s [] n1 true x k hx hk hlen (by omega) (fun j hj=>by have:=dC j hj;omega) (by omega) hf i e cu hd,fun h=>absurd rfl h⟩
   ·obtain ⟨p1,p2,p3⟩:=hr.feedN mA hf;by_cases hT:eL s.tk x.car < 0
    ·rw [if_neg (by omega)];exact ⟨_,_,JY r s [] n1 true x k hx hk hlen (by omega) (fun j hj=>by have:=dC j hj;omega) (by omega) (feedN r k) p1 (by omega) hT hd,fun h=>absurd rfl h⟩
    ·obtain ⟨i,e,cu,_⟩:=tO (Classical.byContradiction fun hh=>hT (pt.2 hh));rw [if_pos (by omega),e,Int.toNat_natCast];exact ⟨_,_,JZ r s [] n1 true x k hx hk hlen (by omega) (fun j hj=>by have:=dC j hj;omega) (by omega) (feedN r k) p1 (by omega) i e cu hd,fun h=>absurd rfl h⟩
  rw [if_neg k0] at hd ⊢;by_cases k1:x.kind=1
  ·rw [if_pos k1] at hd ⊢;rw [if_neg (by omega),k1];exact ⟨_,_,Ju r s [] n1 true x k hx hk hlen (by omega) hd,fun h=>absurd rfl h⟩
  rw [if_neg k1] at hd ⊢;by_cases k2:x.kind=2
  ·rw [if_pos k2] at hd ⊢;rw [if_neg (by omega),k2];exact ⟨_,_,JI r s [] n1 true x k hx hk hlen (by have:=hr.bk;omega) (by omega) hd,fun h=>absurd rfl h⟩
  rw [if_neg k2] at hd ⊢;by_cases k3:x.kind=3
  ·rw [if_pos k3] at hd ⊢;rw [if_neg (by omega),k3];unfold ql at hd;exact ⟨_,_,KR r s [] n1 true x k hx hk (by omega) (fun hh=>by rw [if_pos hh] at hd;cases hd),fun h=>absurd rfl h⟩
  rw [if_neg k3] at hd ⊢;by_cases k4:x.kind=4
  ·rw [if_pos k4] at hd ⊢;rw [if_pos k4,k4];have hf:(rat r.ranks k).feeder≠-1:=fun hh=>by
    unfold iB at hd;rw [if_pos hh] at hd;cases hd
   obtain ⟨p1,p2,p3⟩:=hr.feedN mA hf;exact ⟨_,_,JQ r s [] n1 true x k (feedN r k) hx hk hlen p1 (by omega) (by omega) (by omega) (by simp) hd,fun h=>absurd rfl h⟩
  rw [if_neg k4] at hd ⊢;rw [if_neg k4];have k5:x.kind=5:=by omega
  rw [k5];unfold my at hd;split at hd
  ·cases hd
  ·rename_i kI;have hT:¬eL s.tk x.car < 0:=fun hh=>kI (.inl hh);obtain ⟨i,e,cu,_⟩:=tO (Classical.byContradiction fun hh=>hT (pt.2 hh));unfold tK at hd kI;rw [e,Int.toNat_natCast] at hd kI;have h0:(cj s.tk i).rank=k:=Classical.byContradiction fun hh=>kI (.inr (by rw [hx];exact hh));have Ba:=hi.tkt _ (show cj s.tk i∈s.tk by rw [lk cu];exact List.getElem_mem cu);have:=hi.t0;unfold tL rS;rw [e,Int.toNat_natCast];exact ⟨_,_,JU r s [] n1 true x k i hx hk hlen (by omega) e cu h0 ht (by omega) (by omega) hd,fun h=>absurd rfl h⟩
 ·rw [if_neg hd];simp only;refine ⟨n1,true,?_,fun _=>⟨rfl,rfl⟩⟩;unfold doE at hd ⊢;by_cases k0:x.kind=0
  ·rw [if_pos k0] at hd ⊢;rw [k0];exact JV r s [] n1 true x k hx hk hlen mB (by omega) (fun j hj=>by have:=dC j hj;omega) hd
  rw [if_neg k0] at hd ⊢;by_cases k1:x.kind=1
  ·rw [if_pos k1] at hd ⊢;rw [k1];exact Jt r s [] n1 true x k hx hk hlen (by omega) hd
  rw [if_neg k1] at hd ⊢;by_cases k2:x.kind=2
  ·rw [if_pos k2] at hd ⊢;rw [k2];exact Jw r s [] n1 true x k hx hk hlen hd
  rw [if_neg k2] at hd ⊢;by_cases k3:x.kind=3
  ·rw [if_pos k3] at hd ⊢;rw [k3];unfold ql at hd ⊢;by_cases hh:fj (qat s.q k) x.car < 0
   ·rw [if_pos hh];exact KQ r s [] n1 true x k hx hk (by omega) hh
   ·rw [if_neg hh] at hd;exact absurd rfl hd
  rw [if_neg k3] at hd ⊢;by_cases k4:x.kind=4
  ·rw [if_pos k4] at hd ⊢;rw [k4];exact JP r s [] n1 true x k hx hk hlen mB hd
  rw [if_neg k4] at hd ⊢;have k5:x.kind=5:=by omega
  rw [k5];unfold my at hd ⊢;by_cases hT:eL s.tk x.car < 0
  ·rw [if_pos (.inl hT)];exact JR r s [] n1 true x k hx (by omega) hT
  ·obtain ⟨i,e,cu,_⟩:=tO (Classical.byContradiction fun hh=>hT (pt.2 hh));unfold tK at hd ⊢;rw [e,Int.toNat_natCast] at hd ⊢;by_cases h0:(cj s.tk i).rank=k
   ·have hc:¬((i:Int) < 0∨(cj s.tk i).rank≠x.rank):=by rw [hx];omega
    rw [if_neg hc] at hd ⊢;have Ba:=hi.tkt _ (show cj s.tk i∈s.tk by rw [lk cu];exact List.getElem_mem cu);have:=hi.t0;exact JT r s [] n1 true x k i hx hk hlen (by omega) e cu h0 ht (by omega) hd
   ·rw [if_pos (.inr (by rw [hx];exact h0))];exact JS r s [] n1 true x k i hx (by omega) e cu h0
theorem KU {a b c:Int} (h:fst [a,b]≠0) : fst [a,b,c]=fst [a,b]:=by
 by_cases h1:a=0
 ·subst h1;by_cases h2:b=0
  ·subst h2;exact absurd rfl h
  ·simp [fst,h2]
 ·simp [fst,h1]
def apR (r:Ru) (s:St) (x:Ev) : St×List Sg:=if apE r s x=0 then apU r s x else (s,[])
theorem KW (r:Ru) (s:St) (mv:List Sg) (n1:Bool) (x:Ev) (hr:RuOK r) (hi:Inv r s) (hc:x.car.size≤1000) :
  ∃ a,VH Tryz.prog 128 (gk r s mv n1) [.ref 0 0,evA x] [0] (gk r (apR r s x).1 (apR r s x).2 a) (I (apE r s x)):=by
 have hn:r.ranks.length≤1000000:=by have:=hr.n6;omega
 unfold apR;by_cases h0:fst [evE r x,unl (decide (s.time≤x.time)) 9]=0
 ·have oN:=h0;rw [cm,cm] at oN;have hE:apE r s x=doE r s x x.rank.toNat:=by
   unfold apE;rw [oN.1,oN.2.1];simp only [fst,ne_eq,not_true_eq_false,if_false];split
   ·rfl
   ·rename_i h;exact (Classical.byContradiction h).symm
  have EJ:=rW oN.1;have hx:x.rank=(x.rank.toNat:Int):=by omega
  have hk:x.rank.toNat < s.q.length:=by rw [hi.len];omega
  have ht:=vu oN.1;have iO:=qo oN.1;obtain ⟨a,b,hd,yg⟩:=KT r s n1 x x.rank.toNat hr hi hx hk iO ht;rw [hE];by_cases he:doE r s x x.rank.toNat=0
  ·rw [if_pos he];have Fl:=hi.doS hr oN.1 (of_decide_eq_true (eQ (by decide) oN.2.1)) hx he;unfold doR at hd;rw [if_pos he] at hd;have pa:(doM r s x x.rank.toNat).length≤2:=by
    unfold doM;split
    ·simp [upM]
    ·simp
   have KX:=BQ hr Fl;exact ⟨a,EO r s (doS r s x x.rank.toNat) (apU r s x).1 mv (doM r s x x.rank.toNat) (apU r s x).2 n1 a b x _ hn hc h0 iO hd
    (.inr ⟨he,hr,Fl,by change cl 0 (doS r s x x.rank.toNat).q≤500 at KX;omega,⟨_,Nat.le_refl _,rfl⟩⟩)⟩
  ·rw [if_neg he];unfold doR at hd;rw [if_neg he] at hd;exact ⟨a,EO r s s s mv [] [] n1 a b x _ hn hc h0 iO hd (.inl ⟨he,rfl,rfl⟩)⟩
 ·have hE:apE r s x=fst [evE r x,unl (decide (s.time≤x.time)) 9]:=by
   unfold apE;exact KU h0
  rw [hE,if_neg h0];exact ⟨n1,J2 r s mv n1 x hn hc h0⟩
theorem yK (p:Nat→Bool) (n:Nat) : decide (0≤ixP p 0 n)=gz p 0 n:=by
 rcases qn p n with ⟨h,hn⟩|⟨k,hk,h,hp,_⟩
 ·rw [h,qC hn];rfl
 ·rw [h,nB hk hp];exact decide_eq_true (by omega)
theorem Fm {p p':Nat→Bool} : ∀ {n k:Nat},(∀ j,k≤j→j < k+n→p j=p' j)→ixP p k n=ixP p' k n
 | 0,_,_=>rfl
 | n+1,k,h=>by
  rw [ixP,ixP,h k (Nat.le_refl k) (by omega),Fm fun j h1 h2=>h j (by omega) (by omega)]
theorem KY (f:Nat) (y:Rk) (p:Rk→Bool) (hc:∀ x:Rk,VC Tryz.prog f [.agg [S x.name,I x.places,I x.feeder,B x.called],.vp [S y.name,I y.places,I y.feeder,B y.called]] (B (p x))) (l:List Rk) (hl:l.length≤1000000) :
  VC Tryz.prog 137 [.sl 4 (l.map Rk.av),.fn (.func f) [] [.vp [S y.name,I y.places,I y.feeder,B y.called]]] (I (ixP (fun j=>p (rat l j)) 0 l.length)):=by
 obtain ⟨R,hR⟩ : ∃ R,ixP (fun j=>p (rat l j)) 0 l.length=R:=⟨_,rfl⟩
 rw [hR];have HR:=Lib.hid hR;have HC:=Lib.hid hc;clear hR hc;refine aJ Tryz.func137 rfl (by kernel_rfl) rfl fun M0 w0=>?_;simp only [Tryz.ntmps137,Tryz.results137,aC];repeat' with_reducible first|apply af|apply ae|apply az|apply aa|refine ah [] ?_|(apply ab;intro X Y;go_simp;apply Y;clear Y X)
 apply ef [0,1,7] (fun k=>[(8,I k)]) (fun k=>([] : Hp)) (fun j=>p (rat l j)) (l.length)
 ·go_simp<;>exact rfl
 ·go_simp
 ·intro k hk HB HP K hK;obtain ⟨w1,w2,w3,w4,w5,w6⟩:=ixs (m:=k) (by omega);have g:=HC.out (rat l k);have hp:=HP.out;rw [hp] at g;clear hp;repeat' first|(with_reducible first|apply af|apply ae|apply ao|apply az|apply aY|apply aa|refine ah [] ?_|(apply au;·go_simp)|(apply aj;·go_simp))|((with_reducible apply ab);intro X Y;go_simp;(first|(refine ⟨_,g,?_⟩)|skip);apply Y;clear Y X)
  refine hK _ ?_;go_simp
 ·intro k hk HB HP K;have g:=HC.out (rat l k);have hp:=HP.out;rw [hp] at g;clear hp;have e:=HR.out;rw [kp hk HB.out HP.out] at e;subst e;repeat' first|(with_reducible first|apply af|apply ae|apply aR|apply aw|apply ao|apply az|apply cB|apply aa|refine ah [] ?_|(apply au;·go_simp))|((with_reducible apply ab);intro X Y;go_simp;(first|(refine ⟨_,g,?_⟩)|skip);apply Y;clear Y X)
  go_simp
 ·intro HB K;have e:=HR.out;rw [kQ HB.out] at e;subst e;repeat (with_reducible first|apply af|apply ae|apply bE|apply aw|apply bF|apply bG|apply aa|refine ah [] ?_|(apply aj;·go_simp)|(apply ab;intro X Y;go_simp;apply Y;clear Y X))
  go_simp
theorem yL (f:Nat) (y:Rk) (p:Rk→Bool) (hc:∀ x:Rk,VC Tryz.prog f [.agg [S x.name,I x.places,I x.feeder,B x.called],.vp [S y.name,I y.places,I y.feeder,B y.called]] (B (p x))) (l:List Rk) (i:Nat) (hi:i < l.length) (hl:l.length≤1000000) :
  VC Tryz.prog 96 [.sl 4 ((l.map Rk.av).take i),.fn (.func f) [] [.vp [S y.name,I y.places,I y.feeder,B y.called]]] (B (gz (fun j=>p (rat l j)) 0 i)):=by
 have g:=KY f y p hc (l.take i) (by rw [List.length_take];omega);have e:ixP (fun j=>p (rat (l.take i) j)) 0 (l.take i).length=ixP (fun j=>p (rat l j)) 0 i:=by
  rw [List.length_take,Nat.min_eq_left (by omega)];refine Fm fun j _ hj=>?_;unfold rat;rw [List.getD_eq_getElem?_getD,List.getElem?_take_of_lt (by omega),List.getD_eq_getElem?_getD]
 rw [e,List.map_take] at g;rw [←yK];generalize ixP (fun j=>p (rat l j)) 0 i=R at *;generalize List.take i (List.map Rk.av l)=T at *;refine aJ Tryz.func96 rfl (by kernel_rfl) rfl fun M0 w0=>?_;simp only [Tryz.ntmps96,Tryz.results96,aC];repeat' first|(with_reducible first|apply af|apply ae|apply aw|apply aa|refine ah [] ?_)|((with_reducible apply ab);intro X Y;go_simp;(first|(refine ⟨_,g,?_⟩)|skip);apply Y;clear Y X)
 go_simp
theorem Fo (x:Rk) (y:Rk) : VC Tryz.prog 97 [.agg [S x.name,I x.places,I x.feeder,B x.called],.vp [S y.name,I y.places,I y.feeder,B y.called]] (B (decide (x.name=y.name))):=by
 refine aJ Tryz.func97 rfl (by kernel_rfl) rfl fun M0 w0=>?_;simp only [Tryz.ntmps97,Tryz.results97,aC];repeat' with_reducible first|apply af|apply ae|apply aw|apply aa|refine ah [] ?_|(apply ab;intro X Y;go_simp;apply Y;clear Y X)
 go_simp
theorem Fp (x:Rk) (y:Rk) : VC Tryz.prog 98 [.agg [S x.name,I x.places,I x.feeder,B x.called],.vp [S y.name,I y.places,I y.feeder,B y.called]] (B (decide (x.feeder=y.feeder))):=by
 refine aJ Tryz.func98 rfl (by kernel_rfl) rfl fun M0 w0=>?_;simp only [Tryz.ntmps98,Tryz.results98,aC];repeat' with_reducible first|apply af|apply ae|apply aw|apply aa|refine ah [] ?_|(apply ab;intro X Y;go_simp;apply Y;clear Y X)
 go_simp
theorem Fq {E:Nat→Int} : ∀ (n k i:Nat),k≤i→i < k+n→(∀ j,k≤j→j < i→E j=0)→E i≠0→ko E k n=(i,E i)
 | 0,k,i,h1,h2,_,_=>by omega
 | n+1,k,i,h1,h2,hb,hp=>by
  rw [ko];by_cases he:k=i
  ·subst he;rw [if_pos hp]
  ·rw [if_neg (by simp [hb k (Nat.le_refl k) (by omega)])];exact Fq n (k+1) i (by omega) (by omega) (fun j h3 h4=>hb j (by omega) h4) hp
theorem BR {E:Nat→Int} {k n:Nat} (hk:k < n) (hb:∀ j,j < k→(!decide (E j=0))=false) (hp:(!decide (E k=0))=true) : ko E 0 n=(k,E k):=Fq n 0 k (Nat.zero_le k) (by omega) (fun j _ h=>by simpa using hb j h) (by simpa using hp)
theorem yM {E:Nat→Int} : ∀ (n k:Nat),(∀ j,j < k+n→(!decide (E j=0))=false)→ko E k n=(0,0)
 | 0,_,_=>rfl
 | n+1,k,h=>by
  rw [ko,if_neg (by simpa using h k (by omega))];exact yM n (k+1) fun j hj=>h j (by omega)
theorem KZ (r:Ru) : VC Tryz.prog 89 [B ((decide (r.back = -1) || inR r.back 0 12)&&inR r.ret 0 3600),I 2] (I (sk r)):=bY _ 2
theorem K1 (r:Ru) (hn:r.ranks.length≤1000000) (cf:∀ k,k < r.ranks.length→(rat r.ranks k).name.size≤1000) : VC Tryz.prog 36 [bN r] (.tup [I ((dm r).1:Int),I (dm r).2]):=by
 have u1:=bY (decide (0 < r.ranks.length)) 10;have u2:=bY (decide (r.ranks.length≤6)) 8;have g5:VC Tryz.prog 88 [.sl 1 ([unl (decide (0 < r.ranks.length)) 10,unl (decide (r.ranks.length≤6)) 8].map eK)] (I (fst [unl (decide (0 < r.ranks.length)) 10,unl (decide (r.ranks.length≤6)) 8])):=fF _ rfl rfl;unfold dm;by_cases h0:r.ranks.length=0
 ·rw [if_pos h0];have d1:decide (0 < r.ranks.length)=false:=decide_eq_false (by omega);have d2:decide (r.ranks.length≤6)=true:=decide_eq_true (by omega);rw [d1] at u1 g5;rw [d2] at u2 g5;have e:fst [unl false 10,unl true 8]=10:=rfl;rw [e] at g5;generalize unl false 10=A1 at *;generalize unl true 8=A2 at *;clear d1 d2 e;refine aJ Tryz.func36 rfl (by kernel_rfl) rfl fun M0 w0=>?_;simp only [Tryz.ntmps36,Tryz.results36,aC];repeat' first|(with_reducible first|apply af|apply ae|apply aR|apply aw|apply aa|refine ah [] ?_|(apply au;·go_simp))|((with_reducible apply ab);intro X Y;go_simp;(first|(with_reducible refine ⟨_,u1,?_⟩)|(with_reducible refine ⟨_,u2,?_⟩)|(refine ⟨_,g5,?_⟩)|skip);apply Y;clear Y X)
  go_simp
 rw [if_neg h0];by_cases h6:6 < r.ranks.length
 ·rw [if_pos h6];have d1:decide (0 < r.ranks.length)=true:=decide_eq_true (by omega);have d2:decide (r.ranks.length≤6)=false:=decide_eq_false (by omega);rw [d1] at u1 g5;rw [d2] at u2 g5;have e:fst [unl true 10,unl false 8]=8:=rfl;rw [e] at g5;generalize unl true 10=A1 at *;generalize unl false 8=A2 at *;have h7:0 < r.ranks.length:=by omega
  have h8:¬r.ranks.length≤6:=by omega
  have h9:¬(r.ranks.length:Int)≤6:=by omega
  clear d1 d2 e;refine aJ Tryz.func36 rfl (by kernel_rfl) rfl fun M0 w0=>?_;simp only [Tryz.ntmps36,Tryz.results36,aC];repeat' first|(with_reducible first|apply af|apply ae|apply aR|apply aw|apply aa|refine ah [] ?_|(apply au;·go_simp))|((with_reducible apply ab);intro X Y;go_simp;(first|(with_reducible refine ⟨_,u1,?_⟩)|(with_reducible refine ⟨_,u2,?_⟩)|(refine ⟨_,g5,?_⟩)|skip);apply Y;clear Y X)
  go_simp
 rw [if_neg h6];have d1:decide (0 < r.ranks.length)=true:=decide_eq_true (by omega);have d2:decide (r.ranks.length≤6)=true:=decide_eq_true (by omega);rw [d1] at u1 g5;rw [d2] at u2 g5;have e:fst [unl true 10,unl true 8]=0:=rfl;rw [e] at g5;generalize unl true 10=A1 at *;generalize unl true 8=A2 at *;have h7:0 < r.ranks.length:=by omega
 have h8:r.ranks.length≤6:=by omega
 have h9:(r.ranks.length:Int)≤6:=by omega
 obtain ⟨R,hR⟩ : ∃ R,(if (ko (rkE r) 0 r.ranks.length).2≠0 then ko (rkE r) 0 r.ranks.length else (0,sk r))=R:=⟨_,rfl⟩
 rw [hR];have HR:=Lib.hid hR;have HM:=Lib.hid cf;have HE:=Lib.hid (KZ r);clear d1 d2 e h0 h6 hR cf;refine aJ Tryz.func36 rfl (by kernel_rfl) rfl fun M0 w0=>?_;simp only [Tryz.ntmps36,Tryz.results36,aC];repeat' first|(with_reducible first|apply af|apply ae|apply ao|apply az|apply aa|refine ah [] ?_|(apply aj;·go_simp))|((with_reducible apply ab);intro X Y;go_simp;(first|(with_reducible refine ⟨_,u1,?_⟩)|(with_reducible refine ⟨_,u2,?_⟩)|(refine ⟨_,g5,?_⟩)|skip);apply Y;clear Y X)
 apply ef [1,4,26,27] (fun k=>[(28,I k)]) (fun k=>([] : Hp)) (fun k=>!decide (rkE r k=0)) (r.ranks.length)
 ·go_simp<;>exact rfl
 ·go_simp
 ·intro k hk HB HP K hK;obtain ⟨w1,w2,w3,w4,w5,w6⟩:=ixs (m:=k) (by omega);have cw:k≤r.ranks.length:=by omega
  have lg:(k:Int)≤(r.ranks.length:Int):=by omega
  have K3:IntKind.i64.wrap ((r.ranks.length:Int) - 1)=(r.ranks.length:Int) - 1:=fM (by omega) (by omega);have i1:=tW (rat r.ranks k).name (HM.out k hk);have i2:=yL 97 (rat r.ranks k) _ (fun x=>Fo x (rat r.ranks k)) r.ranks k hk hn;have i3:=np (rat r.ranks k).places 1 12;have i4:=np (rat r.ranks k).feeder 0 ((r.ranks.length:Int) - 1);have i5:=yL 98 (rat r.ranks k) _ (fun x=>Fp x (rat r.ranks k)) r.ranks k hk hn;have u1:=bY (dj (rat r.ranks k).name) 4;have u2:=bY (!nA r k) 5;have u3:=bY (inR (rat r.ranks k).places 1 12) 2;have u4:=bY (!fH r k || inR (rat r.ranks k).feeder 0 ((r.ranks.length:Int) - 1)) 6;have u5:=bY (!fH r k || decide ((k:Int) < (rat r.ranks k).feeder)) 9;have u6:=bY (!fH r k || !lY r k) 26;have u7:=bY (fH r k || !(rat r.ranks k).called) 3;have g7:VC Tryz.prog 88 [.sl 1 ([unl (dj (rat r.ranks k).name) 4,unl (!nA r k) 5,unl (inR (rat r.ranks k).places 1 12) 2,unl (!fH r k || inR (rat r.ranks k).feeder 0 ((r.ranks.length:Int) - 1)) 6,
   unl (!fH r k || decide ((k:Int) < (rat r.ranks k).feeder)) 9,unl (!fH r k || !lY r k) 26,unl (fH r k || !(rat r.ranks k).called) 3].map eK)] (I (rkE r k)):=fF _ rfl rfl
  change VC _ _ _ (B (nA r k)) at i2;change VC _ _ _ (B (lY r k)) at i5;have hp:=HP.out;have he:rkE r k=0:=by simpa using hp
  rw [he] at g7;clear hp he;generalize rkE r k=E at *;generalize dj (rat r.ranks k).name=D1 at *;generalize nA r k=D2 at *;generalize inR (rat r.ranks k).places 1 12=D3 at *;generalize inR (rat r.ranks k).feeder 0 ((r.ranks.length:Int) - 1)=D4 at *;generalize lY r k=D6 at *;generalize unl D1 4=A1 at *;generalize unl (!D2) 5=A2 at *;generalize unl D3 2=A3 at *;unfold fH at *;by_cases hf:(rat r.ranks k).feeder = -1
  ·have ed:(!decide ((rat r.ranks k).feeder = -1))=false:=by simp [hf]
   rw [ed,Bool.not_false,Bool.true_or] at u4 u5 u6;rw [ed,Bool.false_or] at u7;rw [ed,Bool.not_false,Bool.true_or,Bool.true_or,Bool.true_or,Bool.false_or] at g7;generalize unl true 6=A4 at *;generalize unl true 9=A5 at *;generalize unl true 26=A6 at *;generalize unl (!(rat r.ranks k).called) 3=A7 at *;clear ed;rw [hf] at i2;repeat' with_reducible first|apply af|apply ae|apply ao|apply az|apply aa|refine ah [] ?_|(apply au;·go_simp)|(apply ab;intro X Y;go_simp;apply Y;clear Y X)
   refine bf 51 51 [] rfl (by kernel_rfl) ?_;simp only [aA];repeat' first|(with_reducible first|apply af|apply ae|apply ao|apply aY|apply aa|refine ah [] ?_|apply aP|(apply aj;·go_simp))|((with_reducible first|apply ab|apply aO);intro X Y;go_simp;(first|(with_reducible refine ⟨_,i1,?_⟩)|(refine ⟨_,⟨i2,rfl⟩,?_⟩)|(with_reducible refine ⟨_,i3,?_⟩)|(with_reducible refine ⟨_,u1,?_⟩)|(with_reducible refine ⟨_,u2,?_⟩)|(with_reducible refine ⟨_,u3,?_⟩)|(with_reducible refine ⟨_,u4,?_⟩)|(with_reducible refine ⟨_,u5,?_⟩)|(with_reducible refine ⟨_,u6,?_⟩)|(with_reducible refine ⟨_,u7,?_⟩)|(refine ⟨_,g7,?_⟩)|skip);apply Y;clear Y X)
   refine hK _ ?_;go_simp
  ·have ed:(!decide ((rat r.ranks k).feeder = -1))=true:=by simp [hf]
   rw [ed,Bool.not_true,Bool.false_or] at u4 u5 u6;rw [ed,Bool.true_or] at u7;rw [ed,Bool.not_true,Bool.false_or,Bool.false_or,Bool.false_or,Bool.true_or] at g7;generalize unl D4 6=A4 at *;generalize unl (decide ((k:Int) < (rat r.ranks k).feeder)) 9=A5 at *;generalize unl (!D6) 26=A6 at *;generalize unl true 3=A7 at *;clear ed;repeat' with_reducible first|apply af|apply ae|apply ao|apply az|apply aa|refine ah [] ?_|(apply au;·go_simp)|(apply ab;intro X Y;go_simp;apply Y;clear Y X)
   refine bf 51 51 [] rfl (by kernel_rfl) ?_;simp only [aA];repeat' first|(with_reducible first|apply af|apply ae|apply ao|apply aY|apply aa|refine ah [] ?_|apply aP|(apply aj;·go_simp))|((with_reducible first|apply ab|apply aO);intro X Y;go_simp;(first|(with_reducible refine ⟨_,i1,?_⟩)|(refine ⟨_,⟨i2,rfl⟩,?_⟩)|(with_reducible refine ⟨_,i3,?_⟩)|(with_reducible refine ⟨_,i4,?_⟩)|(refine ⟨_,⟨i5,rfl⟩,?_⟩)|(with_reducible refine ⟨_,u1,?_⟩)|(with_reducible refine ⟨_,u2,?_⟩)|(with_reducible refine ⟨_,u3,?_⟩)|(with_reducible refine ⟨_,u4,?_⟩)|(with_reducible refine ⟨_,u5,?_⟩)|(with_reducible refine ⟨_,u6,?_⟩)|(with_reducible refine ⟨_,u7,?_⟩)|(refine ⟨_,g7,?_⟩)|skip);apply Y;clear Y X)
   refine hK _ ?_;go_simp
 ·intro k hk HB HP K;obtain ⟨w1,w2,w3,w4,w5,w6⟩:=ixs (m:=k) (by omega);have cw:k≤r.ranks.length:=by omega
  have lg:(k:Int)≤(r.ranks.length:Int):=by omega
  have K3:IntKind.i64.wrap ((r.ranks.length:Int) - 1)=(r.ranks.length:Int) - 1:=fM (by omega) (by omega);have i1:=tW (rat r.ranks k).name (HM.out k hk);have i2:=yL 97 (rat r.ranks k) _ (fun x=>Fo x (rat r.ranks k)) r.ranks k hk hn;have i3:=np (rat r.ranks k).places 1 12;have i4:=np (rat r.ranks k).feeder 0 ((r.ranks.length:Int) - 1);have i5:=yL 98 (rat r.ranks k) _ (fun x=>Fp x (rat r.ranks k)) r.ranks k hk hn;have u1:=bY (dj (rat r.ranks k).name) 4;have u2:=bY (!nA r k) 5;have u3:=bY (inR (rat r.ranks k).places 1 12) 2;have u4:=bY (!fH r k || inR (rat r.ranks k).feeder 0 ((r.ranks.length:Int) - 1)) 6;have u5:=bY (!fH r k || decide ((k:Int) < (rat r.ranks k).feeder)) 9;have u6:=bY (!fH r k || !lY r k) 26;have u7:=bY (fH r k || !(rat r.ranks k).called) 3;have g7:VC Tryz.prog 88 [.sl 1 ([unl (dj (rat r.ranks k).name) 4,unl (!nA r k) 5,unl (inR (rat r.ranks k).places 1 12) 2,unl (!fH r k || inR (rat r.ranks k).feeder 0 ((r.ranks.length:Int) - 1)) 6,
   unl (!fH r k || decide ((k:Int) < (rat r.ranks k).feeder)) 9,unl (!fH r k || !lY r k) 26,unl (fH r k || !(rat r.ranks k).called) 3].map eK)] (I (rkE r k)):=fF _ rfl rfl
  change VC _ _ _ (B (nA r k)) at i2;change VC _ _ _ (B (lY r k)) at i5;have hp:=HP.out;have e:=HR.out;rw [BR hk HB.out HP.out] at e;have ax:rkE r k≠0:=by simpa using hp
  rw [if_pos ax] at e;subst e;clear hp;generalize rkE r k=E at *;generalize dj (rat r.ranks k).name=D1 at *;generalize nA r k=D2 at *;generalize inR (rat r.ranks k).places 1 12=D3 at *;generalize inR (rat r.ranks k).feeder 0 ((r.ranks.length:Int) - 1)=D4 at *;generalize lY r k=D6 at *;generalize unl D1 4=A1 at *;generalize unl (!D2) 5=A2 at *;generalize unl D3 2=A3 at *;unfold fH at *;by_cases hf:(rat r.ranks k).feeder = -1
  ·have ed:(!decide ((rat r.ranks k).feeder = -1))=false:=by simp [hf]
   rw [ed,Bool.not_false,Bool.true_or] at u4 u5 u6;rw [ed,Bool.false_or] at u7;rw [ed,Bool.not_false,Bool.true_or,Bool.true_or,Bool.true_or,Bool.false_or] at g7;generalize unl true 6=A4 at *;generalize unl true 9=A5 at *;generalize unl true 26=A6 at *;generalize unl (!(rat r.ranks k).called) 3=A7 at *;clear ed;rw [hf] at i2;repeat' with_reducible first|apply af|apply ae|apply ao|apply az|apply aa|refine ah [] ?_|(apply au;·go_simp)|(apply ab;intro X Y;go_simp;apply Y;clear Y X)
   refine bf 51 51 [] rfl (by kernel_rfl) ?_;simp only [aA];repeat' first|(with_reducible first|apply af|apply ae|apply aR|apply aw|apply cB|apply aa|refine ah [] ?_|apply aP|(apply au;·go_simp))|((with_reducible first|apply ab|apply aO);intro X Y;go_simp;(first|(with_reducible refine ⟨_,i1,?_⟩)|(refine ⟨_,⟨i2,rfl⟩,?_⟩)|(with_reducible refine ⟨_,i3,?_⟩)|(with_reducible refine ⟨_,u1,?_⟩)|(with_reducible refine ⟨_,u2,?_⟩)|(with_reducible refine ⟨_,u3,?_⟩)|(with_reducible refine ⟨_,u4,?_⟩)|(with_reducible refine ⟨_,u5,?_⟩)|(with_reducible refine ⟨_,u6,?_⟩)|(with_reducible refine ⟨_,u7,?_⟩)|(refine ⟨_,g7,?_⟩)|skip);apply Y;clear Y X)
   go_simp
  ·have ed:(!decide ((rat r.ranks k).feeder = -1))=true:=by simp [hf]
   rw [ed,Bool.not_true,Bool.false_or] at u4 u5 u6;rw [ed,Bool.true_or] at u7;rw [ed,Bool.not_true,Bool.false_or,Bool.false_or,Bool.false_or,Bool.true_or] at g7;generalize unl D4 6=A4 at *;generalize unl (decide ((k:Int) < (rat r.ranks k).feeder)) 9=A5 at *;generalize unl (!D6) 26=A6 at *;generalize unl true 3=A7 at *;clear ed;repeat' with_reducible first|apply af|apply ae|apply ao|apply az|apply aa|refine ah [] ?_|(apply au;·go_simp)|(apply ab;intro X Y;go_simp;apply Y;clear Y X)
   refine bf 51 51 [] rfl (by kernel_rfl) ?_;simp only [aA];repeat' first|(with_reducible first|apply af|apply ae|apply aR|apply aw|apply cB|apply aa|refine ah [] ?_|apply aP|(apply au;·go_simp))|((with_reducible first|apply ab|apply aO);intro X Y;go_simp;(first|(with_reducible refine ⟨_,i1,?_⟩)|(refine ⟨_,⟨i2,rfl⟩,?_⟩)|(with_reducible refine ⟨_,i3,?_⟩)|(with_reducible refine ⟨_,i4,?_⟩)|(refine ⟨_,⟨i5,rfl⟩,?_⟩)|(with_reducible refine ⟨_,u1,?_⟩)|(with_reducible refine ⟨_,u2,?_⟩)|(with_reducible refine ⟨_,u3,?_⟩)|(with_reducible refine ⟨_,u4,?_⟩)|(with_reducible refine ⟨_,u5,?_⟩)|(with_reducible refine ⟨_,u6,?_⟩)|(with_reducible refine ⟨_,u7,?_⟩)|(refine ⟨_,g7,?_⟩)|skip);apply Y;clear Y X)
   go_simp
 ·intro HB K;have e:=HR.out;rw [yM r.ranks.length 0 (fun j hj=>HB.out j (by omega)),if_neg (by simp)] at e;subst e;have ge:=HE.out;generalize sk r=E at *;have i1:=np r.back 0 12;have i2:=np r.ret 0 3600;generalize inR r.back 0 12=D1 at *;generalize inR r.ret 0 3600=D2 at *;by_cases hb:r.back = -1
  ·rw [decide_eq_true hb,Bool.true_or,Bool.true_and] at ge;repeat' with_reducible first|apply af|apply ae|apply bE|apply aw|apply bF|apply bG|apply aa|refine ah [] ?_|(apply aj;·go_simp)|(apply ab;intro X Y;go_simp;(first|(refine ⟨_,i2,?_⟩)|(refine ⟨_,ge,?_⟩)|skip);apply Y;clear Y X)
   all_goals go_simp
  ·rw [decide_eq_false hb,Bool.false_or] at ge;cases D1
   ·rw [Bool.false_and] at ge;repeat' with_reducible first|apply af|apply ae|apply bE|apply aw|apply bF|apply bG|apply aa|refine ah [] ?_|(apply aj;·go_simp)|(apply ab;intro X Y;go_simp;(first|(refine ⟨_,i1,?_⟩)|(refine ⟨_,ge,?_⟩)|skip);apply Y;clear Y X)
    all_goals go_simp
   ·rw [Bool.true_and] at ge;repeat' with_reducible first|apply af|apply ae|apply bE|apply aw|apply bF|apply bG|apply aa|refine ah [] ?_|(apply aj;·go_simp)|(apply ab;intro X Y;go_simp;(first|(refine ⟨_,i1,?_⟩)|(refine ⟨_,i2,?_⟩)|(refine ⟨_,ge,?_⟩)|skip);apply Y;clear Y X)
    all_goals go_simp
theorem ud (r:Ru) (hn:r.ranks.length≤1000000) (cf:∀ k,k < r.ranks.length→(rat r.ranks k).name.size≤1000) : VC Tryz.prog 99 [bN r] (I (dm r).2):=by
 have g:=K1 r hn cf;generalize (dm r).2=E at *;generalize ((dm r).1:Int)=K0 at *;refine aJ Tryz.func99 rfl (by kernel_rfl) rfl fun M0 w0=>?_;simp only [Tryz.ntmps99,Tryz.results99,aC];repeat' first|(with_reducible first|apply af|apply ae|apply aw|apply aa|refine ah [] ?_)|((with_reducible apply ab);intro X Y;go_simp;(first|(refine ⟨_,g,?_⟩)|skip);apply Y;clear Y X)
 go_simp
def nC (r:Ru) (s:St) (mv:List Sg) (n1 n2:Bool) : Hp:=
 [some (.bag 62 1 false none (bx s.q)),some (.box [.osl 0,.osl 2,I s.time,.sl 4 (r.ranks.map Rk.av),I r.back,I r.ret,.osl 3]),some (.arr 148 3 n1 (s.tk.map Tk.av)),some (.arr 45 3 n2 (mv.map Sg.av))]
theorem Fs (n:Nat) : bx (List.replicate n [])=List.replicate n []:=by simp [bx]
theorem BS (r:Ru) (hn:r.ranks.length≤1000000) : VH Tryz.prog 100 [] [bN r] [] (nC r (st0 r) [] true true) (.ref 1 0):=by
 refine dk Tryz.func100 rfl (by kernel_rfl) rfl (fun _=>by kernel_rfl) fun M0 w0 vs=>?_;simp only [Tryz.ntmps100,Tryz.results100,aC];unfold nC st0;simp only [Fs];repeat' with_reducible first|apply af|apply ae|apply aa|refine ah [] ?_|(apply ab;intro X Y;go_simp;apply Y;clear Y X)
 refine Jl 6 [10] [⟨4,7,62,[.slice none 0 0],r.ranks.length,false⟩] 5 8 [0] (.agg [.osl 0,bz,I 0]) (by kernel_rfl) ?_ ?_ (by kernel_rfl) (by kernel_rfl) (by kernel_rfl) (by go_simp) (by go_simp) ?_
 ·intro hh E o ho hE;simp only [List.getElem?_cons_succ,List.getElem?_cons_zero,Option.some.injEq] at ho;subst ho;have e1:=hE 0 (by simp) _ rfl;simp only [Mc.av,List.length_nil,Bool.false_eq_true,if_false,Nat.zero_add] at e1;simp [fi,go_sem,e1]
 ·intro j hj hn;simp at hj hn;omega
 simp only [aA];repeat (first|(refine fb rfl ?_)|((with_reducible refine fc rfl fun X Y=>?_);go_simp;refine Y _ (by go_simp) ?_;clear Y X)|(with_reducible apply fe))
 refine ⟨by simp only [xC,mcK,List.getElem?_cons_succ,List.getElem?_cons_zero];go_simp;omega,?_⟩;simp only [mcS,mcE,Mc.ob,Mc.av,List.cons_append,List.nil_append,Bool.false_eq_true,if_false,Nat.zero_add,List.length_cons,List.length_nil];repeat ((with_reducible refine ab fun X Y=>?_);go_simp;refine Y _ ?_;clear Y X)
 apply aa;apply ae;refine ib (fun p a w R=>⟨_,R.toBag (id:=0) (sz:=1) rfl (by decide) (by kernel_rfl)⟩) ?_;go_simp;refine ib (fun p a w R=>⟨_,R.nilCell (bi:=1) (j:=1) (e:=148) (sz:=3) rfl rfl (by decide)⟩) ?_;go_simp;refine ib (fun p a w R=>⟨_,R.nilCell (bi:=1) (j:=6) (e:=45) (sz:=3) rfl rfl (by decide)⟩) ?_;go_simp;repeat' with_reducible apply aw
 go_simp
theorem K4 (r:Ru) (s:St) (mv:List Sg) (a:Bool) (out:List Sg) (n:Bool) (x:Ev) (i:Int) (hm:x.kind=4→0 < mv.length) (hl:out.length+mv.length+1≤1000000000) :
  VH Tryz.prog 94 (gk r s mv a++[some (.box [.osl 4]),some (.arr 45 3 n (out.map Sg.av))]) [.ref 0 0,I i,evA x,.ref 3 0] [0,3] (gk r s mv a++[some (.box [.osl 4]),some (.arr 45 3 false ((out++fw x++mv).map Sg.av))]) (.tup []):=by
 obtain ⟨kd,tm,rk,car⟩:=x;simp only at hm;unfold fw;simp only;simp only [evA];have yN:out.length≤999999999:=by omega
 have gw:out.length+mv.length≤1000000000:=by omega
 have gy:out.length+1+mv.length≤1000000000:=by omega
 have QY:out.length+(1+mv.length)≤1000000000:=by omega
 have QZ:out.length+1≤1000000000:=by omega
 by_cases h4:kd=4
 ·subst h4;have qD:=hm rfl;rw [if_pos rfl,List.append_nil];clear hm;refine dk Tryz.func94 rfl (by kernel_rfl) rfl (fun _=>by kernel_rfl) fun M0 w0 vs=>?_;simp only [Tryz.ntmps94,Tryz.results94,aC];unfold gk;simp only [List.cons_append,List.nil_append];repeat' with_reducible first|apply af|apply ae|apply ao|apply az|apply aY|apply aa|refine ah [] ?_|(apply au;·go_simp)|(apply ab;intro X Y;go_simp;apply Y;clear Y X)
  refine rR 5 [36] 4 [] (by kernel_rfl) (by kernel_rfl) (by kernel_rfl) (by kernel_rfl) rfl ⟨rfl,rfl⟩ rfl ?_;simp only [aA];repeat' with_reducible first|apply aP|(apply aO;intro X Y;go_simp;apply Y;clear Y X)
  refine ⟨_,by go_simp,by go_simp;exact rfl,?_,?_⟩
  ·intro t ht;simp at ht
  go_simp;repeat' with_reducible first|apply aa|(apply ab;intro X Y;go_simp;apply Y;clear Y X)
  go_simp
 ·rw [if_neg h4];by_cases h5:kd=5
  ·subst h5;rw [if_pos rfl];clear hm;refine dk Tryz.func94 rfl (by kernel_rfl) rfl (fun _=>by kernel_rfl) fun M0 w0 vs=>?_;simp only [Tryz.ntmps94,Tryz.results94,aC];unfold gk;simp only [List.cons_append,List.nil_append];repeat' with_reducible first|apply af|apply ae|apply az|apply aY|apply aa|refine ah [] ?_|(apply au;·go_simp)|(apply aj;·go_simp)|(apply ab;intro X Y;go_simp;apply Y;clear Y X)
   refine rR 5 [36] 4 [] (by kernel_rfl) (by kernel_rfl) (by kernel_rfl) (by kernel_rfl) rfl ⟨rfl,rfl⟩ rfl ?_;simp only [aA];repeat' with_reducible first|apply aP|(apply aO;intro X Y;go_simp;apply Y;clear Y X)
   refine ⟨_,by go_simp,by go_simp;exact rfl,?_,?_⟩
   ·intro t ht;simp at ht
   go_simp;repeat' with_reducible first|apply aa|(apply ab;intro X Y;go_simp;apply Y;clear Y X)
   go_simp
  ·rw [if_neg h5];clear hm;refine dk Tryz.func94 rfl (by kernel_rfl) rfl (fun _=>by kernel_rfl) fun M0 w0 vs=>?_;simp only [Tryz.ntmps94,Tryz.results94,aC];unfold gk;simp only [List.cons_append,List.nil_append];repeat' with_reducible first|apply af|apply ae|apply az|apply aY|apply aa|refine ah [] ?_|(apply aj;·go_simp)|(apply ab;intro X Y;go_simp;apply Y;clear Y X)
   refine rR 5 [36] 4 [] (by kernel_rfl) (by kernel_rfl) (by kernel_rfl) (by kernel_rfl) rfl ⟨rfl,rfl⟩ rfl ?_;simp only [aA];repeat' with_reducible first|apply aP|(apply aO;intro X Y;go_simp;apply Y;clear Y X)
   refine ⟨_,by go_simp,by go_simp;exact rfl,?_,?_⟩
   ·intro t ht;simp at ht
   go_simp;repeat' with_reducible first|apply aa|(apply ab;intro X Y;go_simp;apply Y;clear Y X)
   go_simp
abbrev T3:Type:=St×List Sg×Bool
def Ft (r:Ru) (t:T3) (x:Ev) (a:Bool) : Prop:=VH Tryz.prog 128 (gk r t.1 t.2.1 t.2.2) [.ref 0 0,evA x] [0] (gk r (apR r t.1 x).1 (apR r t.1 x).2 a) (I (apE r t.1 x))
open Classical in
noncomputable def apFl (r:Ru) (t:T3) (x:Ev) : Bool:=if h:∃ a,Ft r t x a then Classical.choose h else false
noncomputable def stepT (r:Ru) (t:T3) (x:Ev) : T3:=((apR r t.1 x).1,(apR r t.1 x).2,apFl r t x)
abbrev pK (r:Ru) (t:T3) : Hp:=gk r t.1 t.2.1 t.2.2
def t0 (r:Ru) : T3:=(st0 r,[],true)
theorem BT (r:Ru) (t:T3) (x:Ev) (hr:RuOK r) (hi:Inv r t.1) (hc:x.car.size≤1000) : VH Tryz.prog 128 (pK r t) [.ref 0 0,evA x] [0] (pK r (stepT r t x)) (I (apE r t.1 x)):=by
 have h:∃ a,Ft r t x a:=KW r t.1 t.2.1 t.2.2 x hr hi hc;have e:apFl r t x=Classical.choose h:=dif_pos h;have:=Classical.choose_spec h;rw [←e] at this;exact this
def dR (r:Ru) (l:List Ev) : Int:=fst [(dm r).2,unl (decide (l.length≤200)) 8]
theorem Fu {r:Ru} : ∀ (n:Nat) (s:St) (m:List Sg),m.length≤(bZ r n s m).2.length∧(bZ r n s m).2.length≤m.length+2*n
 | 0,_,m=>⟨Nat.le_refl _,by rw [bZ];simp only;omega⟩
 | n+1,s,m=>by
  rw [bZ];split
  ·exact ⟨Nat.le_refl _,by simp only;omega⟩
  ·have:=Fu (r:=r) n (upS r s (di r s).toNat) (m++upM s.q (di r s).toNat (feedN r (di r s).toNat));rw [List.length_append] at this;have e:(upM s.q (di r s).toNat (feedN r (di r s).toNat)).length=2:=rfl;omega
theorem yO {r:Ru} {s:St} (hr:RuOK r) (hi:Inv r s) {x:Ev} (h:apE r s x=0) : (apU r s x).2.length≤1002∧(x.kind=4→0 < (apU r s x).2.length):=by
 unfold apE at h;rw [cm,cm,cm] at h;have EJ:=rW h.1;have hd:=hi.doS hr h.1 (of_decide_eq_true (eQ (by decide) h.2.1)) (show x.rank=(x.rank.toNat:Int) by omega) h.2.2.1;have hh:=BQ hr hd;have hl:=Fu (r:=r) (cl 0 (doS r s x x.rank.toNat).q) (atS (doS r s x x.rank.toNat) x.time) (doM r s x x.rank.toNat);change cl 0 (doS r s x x.rank.toNat).q≤500 at hh;unfold apU;have hm:(doM r s x x.rank.toNat).length≤2:=by
  unfold doM;split
  ·simp [upM]
  ·simp
 refine ⟨by omega,fun h4=>?_⟩;have e:(doM r s x x.rank.toNat).length=2:=by
  unfold doM;rw [if_pos h4];rfl
 omega
theorem K5 (r:Ru) (t:T3) (x:Ev) (i:Int) : VH Tryz.prog 86 (pK r t) [.ref 0 0,I i,evA x] [0] (pK r t) (.tup []):=by
 refine dk Tryz.func86 rfl (by kernel_rfl) rfl (fun _=>by kernel_rfl) fun M0 w0 vs=>?_;simp only [Tryz.ntmps86,Tryz.results86,aC];unfold pK gk;repeat' with_reducible first|apply aa|refine ah [] ?_|(apply ab;intro X Y;go_simp;apply Y;clear Y X)
 go_simp
noncomputable def runT0 (r:Ru) : Nat→List Ev→T3×(Unit)→T3×(Unit)
 | _,[],z=>z
 | k,x::l,z=>if apE r z.1.1 x≠0 then (stepT r z.1 x,z.2) else runT0 r (k+1) l (stepT r z.1 x,())
def qE:AV:=.lit (.func (.func 86) #[] #[])
theorem K6 (r:Ru) (l:List Ev) (hn:r.ranks.length≤1000000) (cf:∀ k,k < r.ranks.length→(rat r.ranks k).name.size≤1000) (h0:¬dR r l=0) :
  VH Tryz.prog 85 [] [bN r,cF l,qE] [] [] (.tup [.lit (.pointer none),I 0,I (dR r l)]):=by
 have g1:=ud r hn cf;have g2:=bY (decide (l.length≤200)) 8;have g3:VC Tryz.prog 88 [.sl 1 ([(dm r).2,unl (decide (l.length≤200)) 8].map eK)] (I (dR r l)):=fF _ rfl rfl;have ed:decide ((l.length:Int)≤200)=decide (l.length≤200):=by
  by_cases h:l.length≤200
  ·rw [decide_eq_true h,decide_eq_true (by omega)]
  ·rw [decide_eq_false h,decide_eq_false (by omega)]
 rw [←ed] at g2 g3;generalize dR r l=E at *;generalize (dm r).2=A1 at *;generalize unl (decide ((l.length:Int)≤200)) 8=A2 at *;clear ed;unfold qE;refine dk Tryz.func85 rfl (by kernel_rfl) rfl (fun _=>by kernel_rfl) fun M0 w0 vs=>?_;simp only [Tryz.ntmps85,Tryz.results85,aC];repeat' first|(with_reducible first|apply af|apply ae|apply aR|apply aw|apply aa|refine ah [] ?_|(apply au;·go_simp))|((with_reducible apply ab);intro X Y;go_simp;(first|(with_reducible refine ⟨_,g1,?_⟩)|(with_reducible refine ⟨_,g2,?_⟩)|(refine ⟨_,g3,?_⟩)|skip);apply Y;clear Y X)
 go_simp
theorem Fv (r:Ru) (l:List Ev) (H:Hp) (V:AV) (cf:∀ k,k < r.ranks.length→(rat r.ranks k).name.size≤1000) (hr:RuOK r) (hl:l.length≤200) (hc:∀ x∈l,x.car.size≤1000) (h0:dR r l=0) (z:T3×(Unit)) (hz:runT0 r 0 l (t0 r,())=z)
  (iG:(goP r 0 l (st0 r)).2.2≠0∧H=[]∧V = .tup [.lit (.pointer none),I ((goP r 0 l (st0 r)).2.1:Int),I (goP r 0 l (st0 r)).2.2]∨(goP r 0 l (st0 r)).2.2=0∧H=[some (.bag 62 1 false none (bx z.1.1.q)),some (.box [.osl 0,.osl 2,I z.1.1.time,.sl 4 (r.ranks.map Rk.av),I r.back,I r.ret,.sl 3 (z.1.2.1.map Sg.av)]),some (.arr 148 3 z.1.2.2 (z.1.1.tk.map Tk.av))]∧V = .tup [.ref 1 0,I 0,I 0]) :
  VH Tryz.prog 85 [] [bN r,cF l,qE] [] H V:=by
 have hn:r.ranks.length≤1000000:=by have:=hr.n6;omega
 have g1:=ud r hn cf;have g2:=bY (decide (l.length≤200)) 8;have g3:VC Tryz.prog 88 [.sl 1 ([(dm r).2,unl (decide (l.length≤200)) 8].map eK)] (I (dR r l)):=fF _ rfl rfl;have ed:decide ((l.length:Int)≤200)=decide (l.length≤200):=by rw [decide_eq_true hl,decide_eq_true (by omega)]
 rw [←ed] at g2 g3;rw [h0] at g3;generalize (dm r).2=A1 at *;generalize unl (decide ((l.length:Int)≤200)) 8=A2 at *;have ge:=BS r hn;have HF:=Lib.hid iG;have HR:=Lib.hid hr;have HC:=Lib.hid hc;have HZ:=Lib.hid hz;clear ed h0 iG hr cf hc hn hz;unfold qE;refine dk Tryz.func85 rfl (by kernel_rfl) rfl (fun _=>by kernel_rfl) fun M0 w0 vs=>?_;simp only [Tryz.ntmps85,Tryz.results85,aC];repeat' with_reducible apply af
 refine ah [] ?_;repeat' with_reducible first|apply af|apply ae|apply aa|(apply ab;intro X Y;go_simp;apply Y;clear Y X)
 refine ah [] ?_;repeat' first|(with_reducible first|apply af|apply ae|apply aa)|((with_reducible apply ab);intro X Y;go_simp;(first|(with_reducible refine ⟨_,g1,?_⟩)|(with_reducible refine ⟨_,g2,?_⟩)|(refine ⟨_,g3,?_⟩)|skip);apply Y;clear Y X)
 refine ah [] ?_;repeat' with_reducible first|apply af|apply ae|apply ao|apply aa|(apply aj;·go_simp)|(apply ab;intro X Y;go_simp;apply Y;clear Y X)
 refine eC (bM [] 1 ⟨rfl,rfl⟩ ?_);simp only [aA];repeat' with_reducible first|apply aa|(apply ab;intro X Y;go_simp;apply Y;clear Y X)
 refine eI [] [] [] (nC r (st0 r) [] true true) (.ref 1 0) rfl (by go_simp) ?_ ?_
 ·unfold dU;go_simp;refine ⟨_,_,⟨_,ge⟩,?_⟩;unfold nC;go_simp;kernel_rfl
 unfold nC;go_simp;refine bM [] 1 ⟨rfl,rfl⟩ ?_;simp only [aA];repeat' with_reducible first|apply aa|(apply ab;intro X Y;go_simp;apply Y;clear Y X)
 apply da;refine gN 1 6 3 rfl rfl rfl ?_;repeat' with_reducible apply af
 refine ah [] ?_;repeat' with_reducible first|apply ae|apply az|apply aa|(apply ab;intro X Y;go_simp;apply Y;clear Y X)
 apply lr (α:=Nat×T3×(Unit)) [2,10,27,28] (fun (x:Nat×T3×(Unit))=>[(29,I (x.1:Int))]) (fun (x:Nat×T3×(Unit))=>([some (.bag 62 1 false none (bx x.2.1.1.q)),some (.box [.osl 0,.osl 2,I x.2.1.1.time,.sl 4 (r.ranks.map Rk.av),I r.back,I r.ret,.sl 3 (x.2.1.2.1.map Sg.av)]),some (.arr 148 3 x.2.1.2.2 (x.2.1.1.tk.map Tk.av))] : Hp)) (fun (x:Nat×T3×(Unit))=>Hid (Inv r x.2.1.1∧goP r x.1 (l.drop x.1) x.2.1.1=goP r 0 l (st0 r)∧runT0 r x.1 (l.drop x.1) x.2=z)∧x.1≤l.length∧Hid (True)) (fun (x:Nat×T3×(Unit))=>l.length - x.1) ((0,(st0 r,([] : List Sg),true),())) ⟨Lib.hid ⟨Inv.st0 HR.out,rfl,HZ.out⟩,Nat.zero_le _,Lib.hid (trivial)⟩
 ·(go_simp<;>exact rfl)
 ·go_simp
 rintro ⟨k,⟨s,m,a⟩,y⟩ ⟨HI,hk,HY⟩ K hK;simp only at HI hk hK HY ⊢;by_cases ca:k < l.length
 ·obtain ⟨w1,w2,w3,w4,w5,w6⟩:=ixs (m:=k) (by omega);have el:l.drop k=aB l k::l.drop (k+1):=by rw [kq ca,←List.drop_eq_getElem_cons ca]
  have wa:=BT r (s,m,a) (aB l k) HR.out HI.out.1 (HC.out _ (by rw [kq ca];exact List.getElem_mem ca));obtain ⟨T2,jX⟩ : ∃ T2,stepT r (s,m,a) (aB l k)=T2:=⟨_,rfl⟩
  rw [jX] at wa;obtain ⟨s2,m2,a2⟩:=T2;have lx:apE r s (aB l k)=0→(apU r s (aB l k)).1=s2∧(apU r s (aB l k)).2=m2:=fun h=>by
   have e1:=congrArg (fun t:T3=>t.1) jX;have e2:=congrArg (fun t:T3=>t.2.1) jX;simp only [stepT,apR,if_pos h] at e1 e2;exact ⟨e1,e2⟩
  have hE:goP r k (l.drop k) s=if apE r s (aB l k)≠0 then (s,k,apE r s (aB l k)) else goP r (k+1) (l.drop (k+1)) s2:=by
   rw [el,goP];by_cases h:apE r s (aB l k)=0
   ·rw [if_neg (by simp [h]),if_neg (by simp [h]),(lx h).1]
   ·rw [if_pos h,if_pos h]
  have hU:runT0 r k (l.drop k) ((s,m,a),y)=if apE r s (aB l k)≠0 then ((s2,m2,a2),y) else runT0 r (k+1) (l.drop (k+1)) ((s2,m2,a2),()):=by rw [el,runT0,jX]
  have qF:apE r s (aB l k)=0→Inv r s2:=fun h=>by
   rw [←(lx h).1];exact (HI.out.1.ap HR.out h).1
  have h1:=HI.out.2.1;have h2:=HI.out.2.2;rw [hE] at h1;rw [hU] at h2;have wt:=K5 r (s2,m2,a2) (aB l k) (k:Int);clear jX HI hE hU el lx;unfold pK gk at wa;simp only at wa;unfold pK gk at wt;have H1:=Lib.hid h1;have H2:=Lib.hid h2;have bh:=Lib.hid qF;clear h1 h2 qF;have WT:=Lib.hid wt;clear wt;generalize apE r s (aB l k)=E at *;repeat' with_reducible apply af
  refine ah [] ?_;repeat' with_reducible first|apply af|apply ae|apply ao|apply az|apply aa|(apply au;·go_simp)|(apply ab;intro X Y;go_simp;apply Y;clear Y X)
  refine ah [] ?_;repeat' with_reducible first|apply af|apply ae|apply aa|(apply ab;intro X Y;go_simp;apply Y;clear Y X)
  refine eC (bM [] 2 ⟨rfl,rfl⟩ ?_);simp only [aA];repeat' with_reducible first|apply aa|(apply ab;intro X Y;go_simp;apply Y;clear Y X)
  refine eI [1,0,2] [1] [] [some (.box [.osl 1,.osl 2,I s2.time,.sl 4 (r.ranks.map Rk.av),I r.back,I r.ret,.sl 3 (m2.map Sg.av)]),some (.bag 62 1 false none (bx s2.q)),some (.arr 148 3 a2 (s2.tk.map Tk.av))] (I E) rfl (by go_simp) ?_ ?_
  ·unfold dU;go_simp;refine ⟨_,_,_,wa,?_⟩;go_simp;kernel_rfl
  go_simp;refine bM [] 1 ⟨rfl,rfl⟩ ?_;simp only [aA];repeat' with_reducible first|apply aa|(apply ab;intro X Y;go_simp;apply Y;clear Y X)
  apply da;repeat' with_reducible first|apply af|apply ae
  by_cases he:E=0
  ·subst he;have h1:=H1.out;have h2:=H2.out;rw [if_neg (by simp)] at h1 h2;have bJ:=bh.out rfl;have wt:=WT.out;clear H1 bh WT H2 HY;have H1:=Lib.hid h1;have H2:=Lib.hid h2;have bh:=Lib.hid bJ;clear h1 h2 bJ;refine ah [] ?_;repeat' with_reducible first|apply ae|apply ao|apply aa|(apply aj;·go_simp)|(apply ab;intro X Y;go_simp;apply Y;clear Y X)
   refine eC (bM [] 4 ⟨rfl,rfl⟩ ?_);simp only [aA];repeat' with_reducible first|apply aa|(apply ab;intro X Y;go_simp;apply Y;clear Y X)
   refine eI [1,0,2] [1] [] [some (.box [.osl 1,.osl 2,I s2.time,.sl 4 (r.ranks.map Rk.av),I r.back,I r.ret,.sl 3 (m2.map Sg.av)]),some (.bag 62 1 false none (bx s2.q)),some (.arr 148 3 a2 (s2.tk.map Tk.av))] (.tup []) rfl (by go_simp) ?_ ?_
   ·unfold dU;go_simp;refine ⟨_,_,_,wt,?_⟩;go_simp;kernel_rfl
   go_simp;apply da;repeat' with_reducible first|apply ae|apply aY
   refine ah [] ?_;repeat' with_reducible first|apply ae|apply aa|(apply ab;intro X Y;go_simp;apply Y;clear Y X)
   refine hK _ (k+1,(s2,m2,a2),()) ⟨Lib.hid ⟨bh.out,H1.out,H2.out⟩,ca,Lib.hid (trivial)⟩ (by simp only;omega) ?_;go_simp
  ·have h1:=H1.out;have h2:=H2.out;rw [if_pos he] at h1 h2;rcases HF.out with ⟨q1,rfl,q3⟩|⟨q1,_,_⟩
   ·rw [←h1] at q3;simp only at q3;subst q3;subst h2;clear HF H1 bh H2 h1 q1 hK HZ WT;refine ah [] ?_;repeat' with_reducible first|apply af|apply ae|apply aa|(apply au;·go_simp)|(apply ab;intro X Y;go_simp;apply Y;clear Y X)
    refine ah [] ?_;repeat' with_reducible first|apply ae|apply aR|apply aw|apply cB|apply aa|(apply ab;intro X Y;go_simp;apply Y;clear Y X)
    go_simp
   ·rw [←h1] at q1;exact absurd q1 he
 ·have qG:k=l.length:=by omega
  have h1:=HI.out.2.1;have h2:=HI.out.2.2;rw [qG,List.drop_length] at h1 h2;rw [goP] at h1;rw [runT0] at h2;rcases HF.out with ⟨q1,_,_⟩|⟨_,q2,q3⟩
  ·rw [←h1] at q1;exact absurd rfl q1
  ·subst q3;subst h2;subst q2;subst qG;clear HF h1 HI hK HZ;repeat' with_reducible apply af
   refine ah [] ?_;repeat' with_reducible first|apply af|apply ae|apply bE|apply bF|apply bG|apply aa|(apply aj;·go_simp)|(apply ab;intro X Y;go_simp;apply Y;clear Y X)
   refine ah [] ?_;repeat' with_reducible first|apply ae|apply aw|apply aa|(apply ab;intro X Y;go_simp;apply Y;clear Y X)
   go_simp
noncomputable def runTS (r:Ru) : Nat→List Ev→T3×(List Sg×Bool)→T3×(List Sg×Bool)
 | _,[],z=>z
 | k,x::l,z=>if apE r z.1.1 x≠0 then (stepT r z.1 x,z.2) else runTS r (k+1) l (stepT r z.1 x,(z.2.1++fw x++(stepT r z.1 x).2.1,false))
def pL:AV:=.fn (.func 94) [] [.ref 0 0]
theorem K7 (r:Ru) (l:List Ev) (hn:r.ranks.length≤1000000) (cf:∀ k,k < r.ranks.length→(rat r.ranks k).name.size≤1000) (h0:¬dR r l=0) :
  VH Tryz.prog 85 [some (.box [.osl 1]),some (.arr 45 3 true [])] [bN r,cF l,pL] [2] [some (.box [.osl 1]),some (.arr 45 3 true [])] (.tup [.lit (.pointer none),I 0,I (dR r l)]):=by
 have g1:=ud r hn cf;have g2:=bY (decide (l.length≤200)) 8;have g3:VC Tryz.prog 88 [.sl 1 ([(dm r).2,unl (decide (l.length≤200)) 8].map eK)] (I (dR r l)):=fF _ rfl rfl;have ed:decide ((l.length:Int)≤200)=decide (l.length≤200):=by
  by_cases h:l.length≤200
  ·rw [decide_eq_true h,decide_eq_true (by omega)]
  ·rw [decide_eq_false h,decide_eq_false (by omega)]
 rw [←ed] at g2 g3;generalize dR r l=E at *;generalize (dm r).2=A1 at *;generalize unl (decide ((l.length:Int)≤200)) 8=A2 at *;clear ed;unfold pL;refine dk Tryz.func85 rfl (by kernel_rfl) rfl (fun _=>by kernel_rfl) fun M0 w0 vs=>?_;simp only [Tryz.ntmps85,Tryz.results85,aC];repeat' first|(with_reducible first|apply af|apply ae|apply aR|apply aw|apply aa|refine ah [] ?_|(apply au;·go_simp))|((with_reducible apply ab);intro X Y;go_simp;(first|(with_reducible refine ⟨_,g1,?_⟩)|(with_reducible refine ⟨_,g2,?_⟩)|(refine ⟨_,g3,?_⟩)|skip);apply Y;clear Y X)
 go_simp
theorem Fw (r:Ru) (l:List Ev) (H:Hp) (V:AV) (cf:∀ k,k < r.ranks.length→(rat r.ranks k).name.size≤1000) (hr:RuOK r) (hl:l.length≤200) (hc:∀ x∈l,x.car.size≤1000) (h0:dR r l=0) (z:T3×(List Sg×Bool)) (hz:runTS r 0 l (t0 r,([],true))=z)
  (iG:(goP r 0 l (st0 r)).2.2≠0∧H=[some (.box [.osl 1]),some (.arr 45 3 z.2.2 (z.2.1.map Sg.av))]∧V = .tup [.lit (.pointer none),I ((goP r 0 l (st0 r)).2.1:Int),I (goP r 0 l (st0 r)).2.2]∨(goP r 0 l (st0 r)).2.2=0∧H=[some (.box [.osl 1]),some (.arr 45 3 z.2.2 (z.2.1.map Sg.av)),some (.bag 62 1 false none (bx z.1.1.q)),some (.box [.osl 2,.osl 4,I z.1.1.time,.sl 4 (r.ranks.map Rk.av),I r.back,I r.ret,.sl 3 (z.1.2.1.map Sg.av)]),some (.arr 148 3 z.1.2.2 (z.1.1.tk.map Tk.av))]∧V = .tup [.ref 3 0,I 0,I 0]) :
  VH Tryz.prog 85 [some (.box [.osl 1]),some (.arr 45 3 true [])] [bN r,cF l,pL] [2] H V:=by
 have hn:r.ranks.length≤1000000:=by have:=hr.n6;omega
 have g1:=ud r hn cf;have g2:=bY (decide (l.length≤200)) 8;have g3:VC Tryz.prog 88 [.sl 1 ([(dm r).2,unl (decide (l.length≤200)) 8].map eK)] (I (dR r l)):=fF _ rfl rfl;have ed:decide ((l.length:Int)≤200)=decide (l.length≤200):=by rw [decide_eq_true hl,decide_eq_true (by omega)]
 rw [←ed] at g2 g3;rw [h0] at g3;generalize (dm r).2=A1 at *;generalize unl (decide ((l.length:Int)≤200)) 8=A2 at *;have ge:=BS r hn;have HF:=Lib.hid iG;have HR:=Lib.hid hr;have HC:=Lib.hid hc;have HZ:=Lib.hid hz;clear ed h0 iG hr cf hc hn hz;unfold pL;refine dk Tryz.func85 rfl (by kernel_rfl) rfl (fun _=>by kernel_rfl) fun M0 w0 vs=>?_;simp only [Tryz.ntmps85,Tryz.results85,aC];repeat' with_reducible apply af
 refine ah [] ?_;repeat' with_reducible first|apply af|apply ae|apply aa|(apply ab;intro X Y;go_simp;apply Y;clear Y X)
 refine ah [] ?_;repeat' first|(with_reducible first|apply af|apply ae|apply aa)|((with_reducible apply ab);intro X Y;go_simp;(first|(with_reducible refine ⟨_,g1,?_⟩)|(with_reducible refine ⟨_,g2,?_⟩)|(refine ⟨_,g3,?_⟩)|skip);apply Y;clear Y X)
 refine ah [] ?_;repeat' with_reducible first|apply af|apply ae|apply ao|apply aa|(apply aj;·go_simp)|(apply ab;intro X Y;go_simp;apply Y;clear Y X)
 refine eC (bM [] 1 ⟨rfl,rfl⟩ ?_);simp only [aA];repeat' with_reducible first|apply aa|(apply ab;intro X Y;go_simp;apply Y;clear Y X)
 refine eI [] [] [] (nC r (st0 r) [] true true) (.ref 1 0) rfl (by go_simp) ?_ ?_
 ·unfold dU;go_simp;refine ⟨_,_,⟨_,ge⟩,?_⟩;unfold nC;go_simp;kernel_rfl
 unfold nC;go_simp;refine bM [] 1 ⟨rfl,rfl⟩ ?_;simp only [aA];repeat' with_reducible first|apply aa|(apply ab;intro X Y;go_simp;apply Y;clear Y X)
 apply da;refine gN 3 6 5 rfl rfl rfl ?_;repeat' with_reducible apply af
 refine ah [] ?_;repeat' with_reducible first|apply ae|apply az|apply aa|(apply ab;intro X Y;go_simp;apply Y;clear Y X)
 apply lr (α:=Nat×T3×(List Sg×Bool)) [2,10,27,28] (fun (x:Nat×T3×(List Sg×Bool))=>[(29,I (x.1:Int))]) (fun (x:Nat×T3×(List Sg×Bool))=>([some (.box [.osl 1]),some (.arr 45 3 x.2.2.2 (x.2.2.1.map Sg.av)),some (.bag 62 1 false none (bx x.2.1.1.q)),some (.box [.osl 2,.osl 4,I x.2.1.1.time,.sl 4 (r.ranks.map Rk.av),I r.back,I r.ret,.sl 3 (x.2.1.2.1.map Sg.av)]),some (.arr 148 3 x.2.1.2.2 (x.2.1.1.tk.map Tk.av))] : Hp)) (fun (x:Nat×T3×(List Sg×Bool))=>Hid (Inv r x.2.1.1∧goP r x.1 (l.drop x.1) x.2.1.1=goP r 0 l (st0 r)∧runTS r x.1 (l.drop x.1) x.2=z)∧x.1≤l.length∧Hid (x.2.2.1.length≤x.1*1100)) (fun (x:Nat×T3×(List Sg×Bool))=>l.length - x.1) ((0,(st0 r,([] : List Sg),true),([],true))) ⟨Lib.hid ⟨Inv.st0 HR.out,rfl,HZ.out⟩,Nat.zero_le _,Lib.hid (Nat.zero_le _)⟩
 ·(go_simp<;>exact rfl)
 ·go_simp
 rintro ⟨k,⟨s,m,a⟩,y⟩ ⟨HI,hk,HY⟩ K hK;simp only at HI hk hK HY ⊢;by_cases ca:k < l.length
 ·obtain ⟨w1,w2,w3,w4,w5,w6⟩:=ixs (m:=k) (by omega);have el:l.drop k=aB l k::l.drop (k+1):=by rw [kq ca,←List.drop_eq_getElem_cons ca]
  have wa:=BT r (s,m,a) (aB l k) HR.out HI.out.1 (HC.out _ (by rw [kq ca];exact List.getElem_mem ca));obtain ⟨T2,jX⟩ : ∃ T2,stepT r (s,m,a) (aB l k)=T2:=⟨_,rfl⟩
  rw [jX] at wa;obtain ⟨s2,m2,a2⟩:=T2;have lx:apE r s (aB l k)=0→(apU r s (aB l k)).1=s2∧(apU r s (aB l k)).2=m2:=fun h=>by
   have e1:=congrArg (fun t:T3=>t.1) jX;have e2:=congrArg (fun t:T3=>t.2.1) jX;simp only [stepT,apR,if_pos h] at e1 e2;exact ⟨e1,e2⟩
  have hE:goP r k (l.drop k) s=if apE r s (aB l k)≠0 then (s,k,apE r s (aB l k)) else goP r (k+1) (l.drop (k+1)) s2:=by
   rw [el,goP];by_cases h:apE r s (aB l k)=0
   ·rw [if_neg (by simp [h]),if_neg (by simp [h]),(lx h).1]
   ·rw [if_pos h,if_pos h]
  have hU:runTS r k (l.drop k) ((s,m,a),y)=if apE r s (aB l k)≠0 then ((s2,m2,a2),y) else runTS r (k+1) (l.drop (k+1)) ((s2,m2,a2),(y.1++fw (aB l k)++(s2,m2,a2).2.1,false)):=by rw [el,runTS,jX]
  have qF:apE r s (aB l k)=0→Inv r s2:=fun h=>by
   rw [←(lx h).1];exact (HI.out.1.ap HR.out h).1
  have hM:apE r s (aB l k)=0→y.1.length+m2.length+1≤1000000000∧((aB l k).kind=4→0 < m2.length):=fun h=>by
   obtain ⟨e1,e2⟩:=yO HR.out HI.out.1 h;rw [(lx h).2] at e1 e2;have:=HY.out;exact ⟨by omega,e2⟩
  have pM:apE r s (aB l k)=0→(y.1++fw (aB l k)++m2).length≤(k+1)*1100:=fun h=>by
   obtain ⟨e1,e2⟩:=yO HR.out HI.out.1 h;rw [(lx h).2] at e1;have:=HY.out;have e3:(fw (aB l k)).length≤1:=by
    unfold fw;split
    ·exact Nat.zero_le _
    ·split<;>exact Nat.le_refl _
   rw [List.length_append,List.length_append];omega
  have vX:=Lib.hid pM;clear pM;have h1:=HI.out.2.1;have h2:=HI.out.2.2;rw [hE] at h1;rw [hU] at h2;have wt:=fun ue:apE r s (aB l k)=0=>K4 r s2 m2 a2 y.1 y.2 (aB l k) (k:Int) (hM ue).2 (hM ue).1;clear jX HI hE hU el lx hM;unfold pK gk at wa;simp only at wa;unfold gk at wt;simp only [List.cons_append,List.nil_append] at wt;have H1:=Lib.hid h1;have H2:=Lib.hid h2;have bh:=Lib.hid qF;clear h1 h2 qF;have WT:=Lib.hid wt;clear wt;generalize apE r s (aB l k)=E at *;repeat' with_reducible apply af
  refine ah [] ?_;repeat' with_reducible first|apply af|apply ae|apply ao|apply az|apply aa|(apply au;·go_simp)|(apply ab;intro X Y;go_simp;apply Y;clear Y X)
  refine ah [] ?_;repeat' with_reducible first|apply af|apply ae|apply aa|(apply ab;intro X Y;go_simp;apply Y;clear Y X)
  refine eC (bM [] 2 ⟨rfl,rfl⟩ ?_);simp only [aA];repeat' with_reducible first|apply aa|(apply ab;intro X Y;go_simp;apply Y;clear Y X)
  refine eI [3,2,4] [3] [] [some (.box [.osl 1,.osl 2,I s2.time,.sl 4 (r.ranks.map Rk.av),I r.back,I r.ret,.sl 3 (m2.map Sg.av)]),some (.bag 62 1 false none (bx s2.q)),some (.arr 148 3 a2 (s2.tk.map Tk.av))] (I E) rfl (by go_simp) ?_ ?_
  ·unfold dU;go_simp;refine ⟨_,_,_,wa,?_⟩;go_simp;kernel_rfl
  go_simp;refine bM [] 1 ⟨rfl,rfl⟩ ?_;simp only [aA];repeat' with_reducible first|apply aa|(apply ab;intro X Y;go_simp;apply Y;clear Y X)
  apply da;repeat' with_reducible first|apply af|apply ae
  by_cases he:E=0
  ·subst he;have h1:=H1.out;have h2:=H2.out;rw [if_neg (by simp)] at h1 h2;have bJ:=bh.out rfl;have wt:=WT.out rfl;have pM:=vX.out rfl;generalize y.1++fw (aB l k)++m2=O2 at *;clear H1 bh WT H2 HY vX;have H1:=Lib.hid h1;have H2:=Lib.hid h2;have bh:=Lib.hid bJ;clear h1 h2 bJ;refine ah [] ?_;repeat' with_reducible first|apply ae|apply ao|apply aa|(apply aj;·go_simp)|(apply ab;intro X Y;go_simp;apply Y;clear Y X)
   refine eC (bM [] 4 ⟨rfl,rfl⟩ ?_);simp only [aA];repeat' with_reducible first|apply aa|(apply ab;intro X Y;go_simp;apply Y;clear Y X)
   refine eI [3,2,4,0,1] [3,0] [] [some (.box [.osl 1,.osl 2,I s2.time,.sl 4 (r.ranks.map Rk.av),I r.back,I r.ret,.sl 3 (m2.map Sg.av)]),some (.bag 62 1 false none (bx s2.q)),some (.arr 148 3 a2 (s2.tk.map Tk.av)),some (.box [.osl 4]),some (.arr 45 3 false (O2.map Sg.av))] (.tup []) rfl (by go_simp) ?_ ?_
   ·unfold dU;go_simp;refine ⟨_,_,_,wt,?_⟩;go_simp;kernel_rfl
   go_simp;apply da;repeat' with_reducible first|apply ae|apply aY
   refine ah [] ?_;repeat' with_reducible first|apply ae|apply aa|(apply ab;intro X Y;go_simp;apply Y;clear Y X)
   refine hK _ (k+1,(s2,m2,a2),(O2,false)) ⟨Lib.hid ⟨bh.out,H1.out,H2.out⟩,ca,Lib.hid (pM)⟩ (by simp only;omega) ?_;go_simp
  ·have h1:=H1.out;have h2:=H2.out;rw [if_pos he] at h1 h2;rcases HF.out with ⟨q1,rfl,q3⟩|⟨q1,_,_⟩
   ·rw [←h1] at q3;simp only at q3;subst q3;subst h2;clear HF H1 bh H2 h1 q1 hK HZ WT;refine ah [] ?_;repeat' with_reducible first|apply af|apply ae|apply aa|(apply au;·go_simp)|(apply ab;intro X Y;go_simp;apply Y;clear Y X)
    refine ah [] ?_;repeat' with_reducible first|apply ae|apply aR|apply aw|apply cB|apply aa|(apply ab;intro X Y;go_simp;apply Y;clear Y X)
    go_simp
   ·rw [←h1] at q1;exact absurd q1 he
 ·have qG:k=l.length:=by omega
  have h1:=HI.out.2.1;have h2:=HI.out.2.2;rw [qG,List.drop_length] at h1 h2;rw [goP] at h1;rw [runTS] at h2;rcases HF.out with ⟨q1,_,_⟩|⟨_,q2,q3⟩
  ·rw [←h1] at q1;exact absurd rfl q1
  ·subst q3;subst h2;subst q2;subst qG;clear HF h1 HI hK HZ;repeat' with_reducible apply af
   refine ah [] ?_;repeat' with_reducible first|apply af|apply ae|apply bE|apply bF|apply bG|apply aa|(apply aj;·go_simp)|(apply ab;intro X Y;go_simp;apply Y;clear Y X)
   refine ah [] ?_;repeat' with_reducible first|apply ae|apply aw|apply aa|(apply ab;intro X Y;go_simp;apply Y;clear Y X)
   go_simp
end Go.Proofs.YtoibondihdhnoaaGreatDoor
