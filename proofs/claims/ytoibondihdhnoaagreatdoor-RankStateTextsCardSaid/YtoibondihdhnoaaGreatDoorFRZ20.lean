/- Texts in one: Walks on a town that changes: cars that are served. -/
import Derived.Test.YtoibondihdhnoaaGreatDoorFRZ8
import Derived.Test.YtoibondihdhnoaaGreatDoorFRZ16
import Derived.Lib.LazyBuf
import Derived.Test.YtoibondihdhnoaaGreatDoorFRZ18
import Derived.Test.YtoibondihdhnoaaGreatDoorFRZ7
import Derived.Test.YtoibondihdhnoaaGreatDoorFRZ13
namespace Go.Proofs.YtoibondihdhnoaaGreatDoor
open Go.RowKit
set_option maxRecDepth 100000
set_option maxHeartbeats 2000000
def th:List (List AV)→List Int
 | [.lit (.int _ n)]::r=>n::th r
 | _=>[]
attribute [go_sem] th
theorem dW (es:List (List AV)) (h:es=(th es).map dk) (hl:Nat.ble (th es).length 1000=true) : VC Tryz.prog 88 [.sl 1 es] (I (fst (th es))):=by
 have:=Kp (th es) (Nat.le_of_ble_eq_true hl);rwa [←h] at this
def uT (s:St) (x:Ev) (k:Nat) : St:=⟨s.q.set k (qat s.q k).tail,s.tk++[⟨x.car,x.rank,x.time⟩],s.time⟩
def mO (s:St) (x:Ev) (k:Nat) : Int:=fst [kb (qat s.q k) x.car,unl (decide ((s.tk.length:Int) < 40)) 8]
theorem Kq (r:Ru) (s:St) (mv:List Sg) (n1 n2:Bool) (x:Ev) (k:Nat) (hx:x.rank=k) (hk:k < s.q.length) (_hr:r.ranks.length=s.q.length) (_hl:s.tk.length≤1000000) (h0:¬mO s x k=0) :
  VH Tryz.prog 225 (b8 r s mv n1 n2) [.ref 0 0,evA x] [0] (b8 r s mv n1 n2) (I (mO s x k)):=by
 have g1:=xV r s mv x k hx hk;have g2:=br (decide ((s.tk.length:Int) < 40)) 8;have g3:VC Tryz.prog 88 [.sl 1 ([kb (qat s.q k) x.car,unl (decide ((s.tk.length:Int) < 40)) 8].map dk)] (I (mO s x k)):=dW _ rfl rfl;generalize mO s x k=E at *;generalize kb (qat s.q k) x.car=A at *;generalize unl (decide ((s.tk.length:Int) < 40)) 8=B' at *;obtain ⟨kd,tm,rk,car⟩:=x;simp only at hx;subst hx;simp only [evA] at g1 ⊢;refine cZ Tryz.func225 rfl (by kernel_rfl) rfl (fun _=>by kernel_rfl) fun M0 w0 vs=>?_;simp only [Tryz.ntmps225,Tryz.results225,az];unfold b8;repeat' first|(with_reducible first|apply af|apply ae|apply aF|apply aq|apply aa|refine ah [] ?_|apply aI|(apply ao;·go_simp))|((with_reducible first|apply ab|apply aJ);intro X Y;go_simp;(first|(refine ⟨_,⟨g1,rfl⟩,?_⟩)|(with_reducible refine ⟨_,g2,?_⟩)|(refine ⟨_,g3,?_⟩)|skip);apply Y;clear Y X)|((refine aQ 14 14 [] rfl (by kernel_rfl) ?_);simp only [aA])
 go_simp
theorem Ks (r:Ru) (s:St) (mv:List Sg) (n1 n2:Bool) (x:Ev) (k:Nat) (hx:x.rank=k) (hk:k < s.q.length) (_hr:r.ranks.length=s.q.length) (hl:s.tk.length≤1000000) (h0:mO s x k=0) :
  VH Tryz.prog 225 (b8 r s mv n1 n2) [.ref 0 0,evA x] [0] (b8 r (uT s x k) mv false n2) (I 0):=by
 have g1:=xV r s mv x k hx hk;have g2:=br (decide ((s.tk.length:Int) < 40)) 8;have g3:VC Tryz.prog 88 [.sl 1 ([kb (qat s.q k) x.car,unl (decide ((s.tk.length:Int) < 40)) 8].map dk)] (I (mO s x k)):=dW _ rfl rfl;rw [h0] at g3;have l_:1≤(qat s.q k).length:=by
  unfold mO kb at h0;by_cases h:(qat s.q k).length=0
  ·rw [if_pos h] at h0;exact absurd h0 (by simp [fst])
  ·omega
 generalize kb (qat s.q k) x.car=A at *;generalize unl (decide ((s.tk.length:Int) < 40)) 8=B' at *;obtain ⟨kd,tm,rk,car⟩:=x;simp only at hx;subst hx;unfold uT;simp only [evA] at g1 ⊢;have HH:=Lib.hid h0;clear h0;refine cZ Tryz.func225 rfl (by kernel_rfl) rfl (fun _=>by kernel_rfl) fun M0 w0 vs=>?_;simp only [Tryz.ntmps225,Tryz.results225,az];unfold b8;have hb:s.tk.length+1≤1000000000:=by omega
 repeat' with_reducible first|apply af|apply ae|apply aa|refine ah [] ?_|(apply ab;intro X Y;go_simp;apply Y;clear Y X)
 refine aQ 14 14 [] rfl (by kernel_rfl) ?_;simp only [aA];repeat' first|(with_reducible first|apply af|apply ae|apply aj|apply aa|refine ah [] ?_|apply aI|(apply ak;·go_simp))|((with_reducible first|apply ab|apply aJ);intro X Y;go_simp;(first|(refine ⟨_,⟨g1,rfl⟩,?_⟩)|(with_reducible refine ⟨_,g2,?_⟩)|(refine ⟨_,g3,?_⟩)|skip);apply Y;clear Y X)
 refine aQ 19 18 [] rfl (by kernel_rfl) ?_;simp only [aA];repeat' with_reducible first|apply af|apply ae|apply aa|apply aI|((first|apply ab|apply aJ);intro X Y;go_simp;apply Y;clear Y X)
 refine qc 14 [54] 2 [0,40] (by kernel_rfl) (by kernel_rfl) (by kernel_rfl) (by kernel_rfl) rfl ⟨rfl,rfl⟩ rfl ?_;simp only [aA];repeat' with_reducible first|apply aI|(apply aJ;intro X Y;go_simp;apply Y;clear Y X)
 refine ⟨_,by go_simp,by go_simp;exact rfl,?_,?_⟩
 ·intro t ht;simp only [List.mem_cons,List.not_mem_nil,or_false] at ht;rcases ht with rfl|rfl<;>rfl
 go_simp;repeat' with_reducible first|apply af|apply ae|apply aq|apply aa|refine ah [] ?_|(apply ab;intro X Y;go_simp;apply Y;clear Y X)
 go_simp;rw [xL,mG]
def TxO (A:List (List AV)) : Prop:=∀ x∈A,x.length=1∧∀ c∈x,cY c=true
theorem TxO.map (l:List ByteArray) : TxO (l.map cL):=fun x hx=>by
 obtain ⟨y,_,rfl⟩:=List.mem_map.1 hx;exact ⟨rfl,by simp [cL,cY,Value.oneCell']⟩
theorem TxO.take {A:List (List AV)} {n:Nat} (h:TxO A) : TxO (A.take n):=fun x hx=>h x (List.mem_of_mem_take hx)
theorem TxO.drop {A:List (List AV)} {n:Nat} (h:TxO A) : TxO (A.drop n):=fun x hx=>h x (List.mem_of_mem_drop hx)
theorem TxO.tail {A:List (List AV)} (h:TxO A) : TxO A.tail:=fun x hx=>h x (List.mem_of_mem_tail hx)
theorem TxO.one (c:ByteArray) : TxO [[S c]]:=TxO.map [c]
theorem TxO.app {A B:List (List AV)} (h:TxO A) (h2:TxO B) : TxO (A++B):=fun x hx=>(List.mem_append.1 hx).elim (h x) (h2 x)
theorem EK (A B:List (List AV)) (c:ByteArray) (hA:TxO A) (hB:TxO B) (hn:A.length+B.length≤90000) : VCo Tryz.prog 233 [.sl 1 [[.sl 1 A],[.sl 1 [[S c]]],[.sl 1 B]]] 9 1 false (A++([[S c]]++B)):=by
 have e : [A,[[S c]],B].flatten=A++([[S c]]++B):=by simp
 have h:=Ew [A,[[S c]],B] (by rw [e];exact hA.app ((TxO.one c).app hB)) (by rw [e];simp;omega) (by simp);rw [e,decide_eq_false (by simp)] at h;exact h
theorem EL (A B:List (List AV)) (hA:TxO A) (hB:TxO B) (hn:A.length+B.length≤90000) : VCo Tryz.prog 233 [.sl 1 [[.sl 1 A],[.sl 1 B]]] 9 1 (decide ((A++B).length=0)) (A++B):=by
 have e : [A,B].flatten=A++B:=by simp
 have h:=Ew [A,B] (by rw [e];exact hA.app hB) (by rw [e];simp;omega) (by simp);rw [e] at h;exact h
theorem Kt (B:List (List AV)) (c:ByteArray) (hB:TxO B) (hn:B.length+1≤90000) : VCo Tryz.prog 233 [.sl 1 [[.sl 1 [[S c]]],[.sl 1 B]]] 9 1 false ([[S c]]++B):=by
 have h:=EL [[S c]] B (TxO.one c) hB (by rw [List.length_singleton];omega);rwa [decide_eq_false (by simp)] at h
def mb (r:Ru) (m:Nat) : Nat:=if r.back≠-1 then (min (m:Int) r.back).toNat else m
def qd (r:Ru) (q:List ByteArray) (car:ByteArray) : List ByteArray:=q.tail.take (mb r q.tail.length)++[car]++q.tail.drop (mb r q.tail.length)
theorem Ku (r:Ru) (s:St) (mv:List Sg) (n1 n2:Bool) (x:Ev) (k:Nat) (hx:x.rank=k) (hk:k < s.q.length) (_hr:r.ranks.length=s.q.length) (h0:¬kb (qat s.q k) x.car=0) :
  VH Tryz.prog 226 (b8 r s mv n1 n2) [.ref 0 0,evA x] [0] (b8 r s mv n1 n2) (I (kb (qat s.q k) x.car)):=by
 have g1:=xV r s mv x k hx hk;generalize kb (qat s.q k) x.car=A at *;obtain ⟨kd,tm,rk,car⟩:=x;simp only at hx;subst hx;simp only [evA] at g1 ⊢;refine cZ Tryz.func226 rfl (by kernel_rfl) rfl (fun _=>by kernel_rfl) fun M0 w0 vs=>?_;simp only [Tryz.ntmps226,Tryz.results226,az];unfold b8;repeat' first|(with_reducible first|apply af|apply ae|apply aF|apply aq|apply aa|refine ah [] ?_|(apply ao;·go_simp))|((with_reducible apply ab);intro X Y;go_simp;(first|(refine ⟨_,⟨g1,rfl⟩,?_⟩)|skip);apply Y;clear Y X)
 go_simp
def xW (s:St) (x:Ev) (k:Nat) : Int:=if i_ (qat s.q k) x.car < 0 then 6 else 0
def uU (s:St) (x:Ev) (k:Nat) : St:=⟨s.q.set k ((qat s.q k).eraseIdx (i_ (qat s.q k) x.car).toNat),s.tk,s.time⟩
def feedN (r:Ru) (k:Nat) : Nat:=(rat r.ranks k).feeder.toNat
def oQ (r:Ru) (s:St) (k:Nat) : Int:=
 if (rat r.ranks k).feeder = -1 then 6 else fst [unl (rat r.ranks k).called 22,unl (decide (0 < (qat s.q (feedN r k)).length)) 12,unl (cl r s k) 16]
def upS (r:Ru) (s:St) (k:Nat) : St:=⟨upQ s.q k (feedN r k),s.tk,s.time⟩
def xX (s:St) (x:Ev) : Tk:=aH s.tk (eR s.tk x.car).toNat
def tj (r:Ru) (s:St) (x:Ev) (k:Nat) : Int:=
 if eR s.tk x.car < 0∨(xX s x).rank≠x.rank then 6 else fst [unl (decide (x.time - (xX s x).time≤r.ret)) 25,unl (cl r s k) 16]
def rF (s:St) (x:Ev) : List Tk:=s.tk.eraseIdx (eR s.tk x.car).toNat
def xY (s:St) (x:Ev) (k:Nat) : St:=⟨s.q.set k ([x.car]++qat s.q k),rF s x,s.time⟩
def kc (r:Ru) (s:St) (k:Nat) : Bool:=decide ((rat r.ranks k).feeder≠-1)&&decide (0 < (qat s.q (feedN r k)).length)
def kU (r:Ru) (s:St) (x:Ev) (k:Nat) : Int:=fst [unl (!decide (0≤fP s.q x.car)) 5,unl (!kc r s k) 13,unl (cl r s k) 16]
def xZ (s:St) (x:Ev) (k:Nat) : St:=⟨s.q.set k (qat s.q k++[x.car]),if 0≤eR s.tk x.car then rF s x else s.tk,s.time⟩
def Ba (r:Ru) (s:St) (x:Ev) (k:Nat) : St:=⟨s.q.set k (qd r (qat s.q k) x.car),s.tk,s.time⟩
def doE (r:Ru) (s:St) (x:Ev) (k:Nat) : Int:=
 if x.kind=0 then kU r s x k else if x.kind=1 then mO s x k else if x.kind=2 then kb (qat s.q k) x.car else if x.kind=3 then xW s x k else if x.kind=4 then oQ r s k else tj r s x k
def doS (r:Ru) (s:St) (x:Ev) (k:Nat) : St:=
 if x.kind=0 then xZ s x k else if x.kind=1 then uT s x k else if x.kind=2 then Ba r s x k else if x.kind=3 then uU s x k else if x.kind=4 then upS r s k else xY s x k
def doM (r:Ru) (s:St) (x:Ev) (k:Nat) : List Sg:=if x.kind=4 then upM s.q k (feedN r k) else []
def hJ (r:Ru) : Nat→St→List Sg→St×List Sg
 | 0,s,m=>(s,m)
 | n+1,s,m=>if dI r s < 0 then (s,m) else hJ r n (upS r s (dI r s).toNat) (m++upM s.q (dI r s).toNat (feedN r (dI r s).toNat))
def gG:Nat→List (List ByteArray)→Nat
 | _,[]=>0
 | i,l::r=>i*l.length+gG (i+1) r
def evE (r:Ru) (x:Ev) : Int:=
 fst [unl (inR x.kind 0 5) 15,unl (inR x.time 0 604800) 2,unl (inR x.rank 0 ((r.ranks.length:Int) - 1)) 6,unl (!decide (x.kind=4) || decide (x.car=ByteArray.empty)) 3,unl (decide (x.kind=4) || bP x.car) 4]
def apE (r:Ru) (s:St) (x:Ev) : Int:=fst [evE r x,unl (decide (s.time≤x.time)) 9,doE r s x x.rank.toNat]
def atS (s:St) (t:Int) : St:=⟨s.q,s.tk,t⟩
def apU (r:Ru) (s:St) (x:Ev) : St×List Sg:=hJ r (gG 0 (doS r s x x.rank.toNat).q) (atS (doS r s x x.rank.toNat) x.time) (doM r s x x.rank.toNat)
theorem x_ {l:List ByteArray} {c:ByteArray} : i_ l c < 0↔c∉l:=by
 unfold i_;rcases qe (isT l c) l.length with ⟨h,hn⟩|⟨k,hk,h,hp,_⟩
 ·rw [h];refine ⟨fun _ hm=>?_,fun _=>by decide⟩;obtain ⟨j,hj,rfl⟩:=List.getElem_of_mem hm;have:=hn j hj;simp [isT,bc hj] at this
 ·rw [h];refine ⟨fun hh=>by omega,fun hm=>absurd ?_ hm⟩;unfold isT at hp;rw [bc hk] at hp;rw [←of_decide_eq_true hp];exact List.getElem_mem hk
theorem Kv {l:List ByteArray} {c:ByteArray} (h:c∈l) : ∃ k:Nat,i_ l c=(k:Int)∧∃ hk:k < l.length,l[k]=c:=by
 rcases qe (isT l c) l.length with ⟨h1,hn⟩|⟨k,hk,h1,hp,_⟩
 ·obtain ⟨j,hj,rfl⟩:=List.getElem_of_mem h;have:=hn j hj;simp [isT,bc hj] at this
 ·unfold isT at hp;rw [bc hk] at hp;exact ⟨k,h1,hk,of_decide_eq_true hp⟩
theorem qf {l:List Tk} {c:ByteArray} : eR l c < 0↔c∉l.map (·.car):=by
 unfold eR;rcases qe (nT l c) l.length with ⟨h,hn⟩|⟨k,hk,h,hp,_⟩
 ·rw [h];refine ⟨fun _ hm=>?_,fun _=>by decide⟩;obtain ⟨x,hx,rfl⟩:=List.mem_map.1 hm;obtain ⟨j,hj,rfl⟩:=List.getElem_of_mem hx;have:=hn j hj;simp [nT,fe hj] at this
 ·rw [h];refine ⟨fun hh=>by omega,fun hm=>absurd ?_ hm⟩;unfold nT at hp;rw [fe hk] at hp;rw [←of_decide_eq_true hp];exact List.mem_map_of_mem (List.getElem_mem hk)
theorem uV {l:List Tk} {c:ByteArray} (h:c∈l.map (·.car)) : ∃ k:Nat,eR l c=(k:Int)∧∃ hk:k < l.length,l[k].car=c∧∀ j (hj:j < k),l[j].car≠c:=by
 rcases qe (nT l c) l.length with ⟨h1,hn⟩|⟨k,hk,h1,hp,hb⟩
 ·obtain ⟨x,hx,rfl⟩:=List.mem_map.1 h;obtain ⟨j,hj,rfl⟩:=List.getElem_of_mem hx;have:=hn j hj;simp [nT,fe hj] at this
 ·unfold nT at hp hb;rw [fe hk] at hp;refine ⟨k,h1,hk,of_decide_eq_true hp,fun j hj=>?_⟩;have:=hb j hj;rw [fe (by omega)] at this;exact of_decide_eq_false this
theorem Kw {q:List (List ByteArray)} {c:ByteArray} : fP q c < 0↔c∉q.flatten:=by
 unfold fP;rcases qe (inQ q c) q.length with ⟨h,hn⟩|⟨k,hk,h,hp,_⟩
 ·rw [h];refine ⟨fun _ hm=>?_,fun _=>by decide⟩;obtain ⟨l,hl,hc⟩:=List.mem_flatten.1 hm;obtain ⟨j,hj,rfl⟩:=List.getElem_of_mem hl;have:=of_decide_eq_false (hn j hj);rw [fo hj] at this;exact x_.1 (by omega) hc
 ·rw [h];refine ⟨fun hh=>by omega,fun hm=>absurd ?_ hm⟩;have hp:=of_decide_eq_true hp;rw [fo hk] at hp;have:c∈q[k]:=Classical.byContradiction fun hc=>by
   have:=x_.2 hc;omega
  exact List.mem_flatten.2 ⟨_,List.getElem_mem hk,this⟩
def cnt (c:ByteArray) (l:List ByteArray) : Nat:=l.countP fun x=>decide (x=c)
theorem ff (c d:ByteArray) (l:List ByteArray) : cnt c (d::l)=cnt c l+if d=c then 1 else 0:=by
 unfold cnt;rw [List.countP_cons];by_cases h:d=c<;>simp [h]
theorem gp (c:ByteArray) (a b:List ByteArray) : cnt c (a++b)=cnt c a+cnt c b:=List.countP_append
theorem ja (c:ByteArray) : cnt c []=0:=rfl
theorem jQ {c:ByteArray} {l:List ByteArray} : 0 < cnt c l↔c∈l:=by
 unfold cnt;rw [List.countP_pos_iff];exact ⟨fun ⟨a,ha,h⟩=>of_decide_eq_true h▸ha,fun h=>⟨c,h,by simp⟩⟩
def Once (l:List ByteArray) : Prop:=∀ c,cnt c l≤1
def fE (s:St) : List ByteArray:=s.q.flatten++s.tk.map (·.car)
theorem Once.tail {c:ByteArray} {l:List ByteArray} (h:Once (c::l)) : Once l:=fun d=>by
 have:=h d;rw [ff] at this;omega
theorem Once.not {c:ByteArray} {l:List ByteArray} (h:Once (c::l)) : c∉l:=fun hm=>by
 have:=h c;rw [ff,if_pos rfl] at this;have:=jQ.2 hm;omega
theorem EM {α:Type} (f:α→ByteArray) {c:ByteArray} : ∀ (l:List α) (k:Nat) (hk:k < l.length),Once (l.map f)→f l[k]=c→l.eraseIdx k=l.filter (fun x=>decide (f x≠c))
 | [],k,hk,_,_=>by simp at hk
 | x::l,0,_,h,e=>by
  simp at e;rw [List.map_cons] at h;have hn:=h.not;rw [e] at hn;rw [List.eraseIdx_zero,List.tail_cons,List.filter_cons,if_neg (by simp [e])];refine (List.filter_eq_self.2 fun y hy=>?_).symm;refine decide_eq_true fun he=>hn ?_;rw [←he];exact List.mem_map_of_mem hy
 | x::l,k+1,hk,h,e=>by
  rw [List.map_cons] at h;simp at hk e;have hx:f x≠c:=fun he=>h.not (by rw [he,←e];exact List.mem_map_of_mem (List.getElem_mem hk));rw [List.eraseIdx_cons_succ,List.filter_cons,if_pos (by simp [hx]),EM f l k hk h.tail e]
theorem jS {q:List (List ByteArray)} : ∀ {k:Nat},k < q.length→∀ (l:List ByteArray) (c:ByteArray),cnt c (q.set k l).flatten+cnt c (qat q k)=cnt c q.flatten+cnt c l:=by
 induction q with
 | nil=>intro k hk;simp at hk
 | cons x q ih=>
  intro k hk l c;cases k with
  | zero=>
   simp [qat,gp];omega
  | succ k=>
   have:=ih (k:=k) (by simpa using hk) l c;simp [qat,gp] at this ⊢;omega
theorem Once.row {q:List (List ByteArray)} {k:Nat} (hk:k < q.length) (h:Once q.flatten) : Once (qat q k):=fun c=>by
 have h1:=jS hk [] c;have:=h c;rw [ja] at h1;omega
theorem Once.left {a b:List ByteArray} (h:Once (a++b)) : Once a:=fun c=>by
 have:=h c;rw [gp] at this;omega
theorem Once.right {a b:List ByteArray} (h:Once (a++b)) : Once b:=fun c=>by
 have:=h c;rw [gp] at this;omega
structure RuOK (r:Ru) : Prop where
 n0:0 < r.ranks.length
 n6:r.ranks.length≤6
 pl:∀ k,k < r.ranks.length→1≤(rat r.ranks k).places∧(rat r.ranks k).places≤12
 fd:∀ k,k < r.ranks.length→(rat r.ranks k).feeder≠-1→(k:Int) < (rat r.ranks k).feeder∧(rat r.ranks k).feeder < r.ranks.length
 bk:r.back = -1∨0≤r.back∧r.back≤12
 rt:0≤r.ret∧r.ret≤3600
structure Inv (r:Ru) (s:St) : Prop where
 len:s.q.length=r.ranks.length
 once:Once (fE s)
 name:∀ c∈fE s,bP c=true
 fit:∀ k,k < s.q.length→((qat s.q k).length:Int)≤(rat r.ranks k).places
 tkl:s.tk.length≤40
 tkr:∀ t∈s.tk,0≤t.rank∧t.rank < r.ranks.length
 tkt:∀ t∈s.tk,0≤t.time∧t.time≤s.time
 ord:s.tk.Pairwise fun a b=>a.time≤b.time
 t0:0≤s.time∧s.time≤604800
theorem RuOK.feedN {r:Ru} (h:RuOK r) {k:Nat} (hk:k < r.ranks.length) (hf:(rat r.ranks k).feeder≠-1) : (rat r.ranks k).feeder=(feedN r k:Int)∧k < feedN r k∧feedN r k < r.ranks.length:=by
 obtain ⟨h1,h2⟩:=h.fd k hk hf;unfold Go.Proofs.YtoibondihdhnoaaGreatDoor.feedN;omega
theorem RuOK.feed {r:Ru} (h:RuOK r) : nU r r.ranks.length:=fun k hk hf=>by
 obtain ⟨h1,h2⟩:=h.fd k hk hf;omega
theorem rG {q:List (List ByteArray)} {k j:Nat} {l:List ByteArray} (hk:k < q.length) : qat (q.set k l) j=if j=k then l else qat q j:=by
 unfold qat;rw [List.getD_eq_getElem?_getD,List.getElem?_set];split
 ·rename_i h;subst h;simp
 ·rename_i h;rw [if_neg (fun he=>h he.symm),List.getD_eq_getElem?_getD]
theorem hQ (c:ByteArray) (s:St) : cnt c (fE s)=cnt c s.q.flatten+cnt c (s.tk.map (·.car)):=gp _ _ _
theorem Inv.cars {r:Ru} {s s':St} {x:ByteArray} (h:Inv r s) (hc:∀ c,cnt c (fE s')≤cnt c (fE s)∨c=x∧bP x=true∧cnt c (fE s')≤1) : Once (fE s')∧∀ c∈fE s',bP c=true:=by
 refine ⟨fun c=>?_,fun c hm=>?_⟩
 ·rcases hc c with h1|⟨_,_,h1⟩
  ·have:=h.once c;omega
  ·exact h1
 ·rcases hc c with h1|⟨rfl,h1,_⟩
  ·exact h.name c (jQ.1 (by have:=jQ.2 hm;omega))
  ·exact h1
theorem yb (c d:ByteArray) (l:List Tk) : cnt c ((l.filter fun t=>decide (t.car≠d)).map (·.car))=if c=d then 0 else cnt c (l.map (·.car)):=by
 induction l with
 | nil=>simp [ja]
 | cons t l ih=>
  rw [List.filter_cons];by_cases ht:t.car=d
  ·rw [if_neg (by simp [ht]),ih,List.map_cons,ff,ht];by_cases hc:c=d
   ·simp [hc]
   ·rw [if_neg hc,if_neg hc,if_neg (Ne.symm hc)];rfl
  ·rw [if_pos (by simp [ht]),List.map_cons,List.map_cons,ff,ff,ih];by_cases hc:c=d
   ·rw [if_pos hc,if_pos hc,hc,if_neg ht]
   ·rw [if_neg hc,if_neg hc]
theorem Once.tk {s:St} (h:Once (fE s)) : Once (s.tk.map (·.car)):=h.right
theorem Once.q {s:St} (h:Once (fE s)) : Once s.q.flatten:=h.left
theorem Bb {s:St} (h:Once (fE s)) (x:Ev) : (if 0≤eR s.tk x.car then rF s x else s.tk)=s.tk.filter fun t=>decide (t.car≠x.car):=by
 by_cases hc:x.car∈s.tk.map (·.car)
 ·obtain ⟨k,e,hk,he,_⟩:=uV hc;rw [if_pos (by omega)];unfold rF;rw [e,Int.toNat_natCast];exact EM (·.car) s.tk k hk h.tk he
 ·have:=qf.2 hc;rw [if_neg (by omega)];refine (List.filter_eq_self.2 fun t ht=>decide_eq_true (p:=t.car≠x.car) fun he=>hc ?_).symm;rw [←he];exact List.mem_map_of_mem ht
theorem EN {s:St} (h:Once (fE s)) (x:Ev) (hx:¬eR s.tk x.car < 0) : rF s x=s.tk.filter fun t=>decide (t.car≠x.car):=by
 rw [←Bb h x,if_pos (by omega)]
theorem tl {l:List ByteArray} {c:ByteArray} (h:kb l c=0) : ∃ t,l=c::t:=by
 unfold kb at h;cases l with
 | nil=>simp at h
 | cons a t=>
  rw [if_neg (by simp)] at h;have:tat (a::t) 0=a:=rfl;rw [this] at h;unfold unl at h;split at h
  ·rename_i he;exact ⟨t,by rw [of_decide_eq_true he]⟩
  ·cases h
theorem Bc (c:ByteArray) : ∀ (l:List ByteArray) (k:Nat),cnt c (l.eraseIdx k)≤cnt c l
 | [],_=>by simp
 | d::l,0=>by rw [List.eraseIdx_zero,List.tail_cons,ff];omega
 | d::l,k+1=>by
  rw [List.eraseIdx_cons_succ,ff,ff];have:=Bc c l k;omega
theorem ew {c:Bool} {e:Int} (he:e≠0) (h:unl c e=0) : c=true:=by
 unfold unl at h;split at h
 ·assumption
 ·exact absurd h he
theorem bU {x:Int} {l:List Int} : fst (x::l)=0↔x=0∧fst l=0:=by
 rw [fst];by_cases h:x=0
 ·simp [h]
 ·simp [h]
theorem Be {r:Ru} {s:St} {k:Nat} (h:cl r s k=true) : ((qat s.q k).length:Int)+1≤(rat r.ranks k).places:=by
 have:=of_decide_eq_true h;omega
theorem EO (q:List (List ByteArray)) (k f:Nat) : (upQ q k f).length=q.length:=by simp [upQ]
theorem Kx {l:List ByteArray} (h:0 < l.length) (c:ByteArray) : cnt c l.tail+(if tat l 0=c then 1 else 0)=cnt c l:=by
 cases l with
 | nil=>simp at h
 | cons a l=>rw [List.tail_cons,ff];rfl
theorem Bf {q:List (List ByteArray)} {k f:Nat} (hk:k < q.length) (hf:f < q.length) (aC:k≠f) (hp:0 < (qat q f).length) (c:ByteArray) : cnt c (upQ q k f).flatten=cnt c q.flatten:=by
 have h1:=jS hf (qat q f).tail c;have h2:=jS (q:=q.set f (qat q f).tail) (k:=k) (by simpa using hk) (qat q k++[tat (qat q f) 0]) c;have h3:=Kx hp c;rw [rG hf,if_neg aC,gp,ff,ja] at h2;unfold upQ;omega
theorem Inv.up {r:Ru} {s:St} (hr:RuOK r) (h:Inv r s) {k:Nat} (hk:k < s.q.length) (hf:(rat r.ranks k).feeder≠-1) (hp:0 < (qat s.q (feedN r k)).length) (yf:cl r s k=true) : Inv r (upS r s k):=by
 have qg:k < r.ranks.length:=by rw [←h.len];exact hk
 obtain ⟨h1,h2,h3⟩:=hr.feedN qg hf;have gg:feedN r k < s.q.length:=by rw [h.len];exact h3
 have hc:=h.cars (s':=upS r s k) (x:=ByteArray.empty) fun c=>.inl (by
  rw [hQ,hQ];show cnt c (upQ s.q k (feedN r k)).flatten+_≤_;rw [Bf hk gg (by omega) hp];exact Nat.le_refl _)
 refine ⟨?_,hc.1,hc.2,fun j hj=>?_,h.tkl,h.tkr,h.tkt,h.ord,h.t0⟩
 ·show (upQ _ _ _).length=_;rw [EO,h.len]
 ·have eK:j < s.q.length:=by
   have:j < (upQ s.q k (feedN r k)).length:=hj;rwa [EO] at this
  have:=h.fit j eK;have Ky:=Be yf;show ((qat (upQ s.q k (feedN r k)) j).length:Int)≤_;unfold upQ;rw [rG (by simpa using hk)];split
  ·rename_i he;subst he;rw [List.length_append];simp;exact Ky
  ·rw [rG gg];split
   ·rename_i he;subst he;rw [List.length_tail];omega
   ·exact this
theorem uW {r:Ru} {s:St} {k:Nat} (h:mP r s k=true) : (rat r.ranks k).feeder≠-1∧0 < (qat s.q (feedN r k)).length∧cl r s k=true:=by
 unfold mP at h;simp only [Bool.and_eq_true,decide_eq_true_eq] at h;exact ⟨h.1.1.1,h.2,h.1.2⟩
theorem uX {r:Ru} {s:St} (h:¬dI r s < 0) : ∃ k:Nat,dI r s=k∧k < r.ranks.length∧mP r s k=true:=by
 rcases qe (mP r s) r.ranks.length with ⟨h1,_⟩|⟨k,hk,h1,hp,_⟩
 ·exact absurd (show dI r s < 0 by unfold dI;rw [h1];decide) h
 ·exact ⟨k,h1,hk,hp⟩
theorem EP {q:List (List ByteArray)} : ∀ {k i:Nat},k < q.length→∀ (l:List ByteArray),gG i (q.set k l)+(i+k)*(qat q k).length=gG i q+(i+k)*l.length:=by
 induction q with
 | nil=>intro k i hk;simp at hk
 | cons x q ih=>
  intro k i hk l;cases k with
  | zero=>
   simp [qat,gG];omega
  | succ k=>
   have:=ih (k:=k) (i:=i+1) (by simpa using hk) l;rw [show i+1+k=i+(k+1) by omega] at this;simp [qat,gG] at this ⊢;omega
theorem Bg {r:Ru} {s:St} (hr:RuOK r) (hl:s.q.length=r.ranks.length) {k:Nat} (hk:k < s.q.length) (hf:(rat r.ranks k).feeder≠-1) (hp:0 < (qat s.q (feedN r k)).length) : gG 0 (upS r s k).q+1≤gG 0 s.q:=by
 have qg:k < r.ranks.length:=by rw [←hl];exact hk
 obtain ⟨h1,h2,h3⟩:=hr.feedN qg hf;have gg:feedN r k < s.q.length:=by rw [hl];exact h3
 have e1:=EP (i:=0) gg (qat s.q (feedN r k)).tail;have e2:=EP (q:=s.q.set (feedN r k) (qat s.q (feedN r k)).tail) (k:=k) (i:=0) (by simpa using hk) (qat s.q k++[tat (qat s.q (feedN r k)) 0]);rw [rG gg,if_neg (by omega),List.length_append] at e2;rw [List.length_tail] at e1;show gG 0 (upQ s.q k (feedN r k))+1≤_;unfold upQ;generalize (qat s.q (feedN r k)).length=m at *;obtain ⟨m',rfl⟩ : ∃ m',m=m'+1:=⟨m - 1,by omega⟩
 simp only [Nat.add_sub_cancel,Nat.zero_add,Nat.mul_add,Nat.mul_one,List.length_cons,List.length_nil] at e1 e2;omega
theorem ER {r:Ru} (hr:RuOK r) : ∀ (n:Nat) (s:St) (m:List Sg),Inv r s→Inv r (hJ r n s m).1
 | 0,_,_,h=>h
 | n+1,s,m,h=>by
  rw [hJ];split
  ·exact h
  ·rename_i hn;obtain ⟨k,e,hk,hp⟩:=uX hn;rw [e,Int.toNat_natCast];obtain ⟨h1,h2,h3⟩:=uW hp;exact ER hr n _ _ (h.up hr (by rw [h.len];exact hk) h1 h2 h3)
theorem ES {r:Ru} (hr:RuOK r) : ∀ (n:Nat) (s:St) (m:List Sg),Inv r s→gG 0 s.q≤n→dI r (hJ r n s m).1 < 0
 | 0,s,m,h,hn=>by
  rw [hJ];refine Classical.byContradiction fun hx=>?_;obtain ⟨k,e,hk,hp⟩:=uX hx;obtain ⟨h1,h2,h3⟩:=uW hp;have:=Bg hr h.len (by rw [h.len];exact hk) h1 h2;omega
 | n+1,s,m,h,hn=>by
  rw [hJ];split
  ·assumption
  ·rename_i hx;obtain ⟨k,e,hk,hp⟩:=uX hx;rw [e,Int.toNat_natCast];obtain ⟨h1,h2,h3⟩:=uW hp;have bJ:k < s.q.length:=by rw [h.len];exact hk
   have:=Bg hr h.len bJ h1 h2;exact ES hr n _ _ (h.up hr bJ h1 h2 h3) (by omega)
theorem ET {r:Ru} : ∀ (n:Nat) (s:St) (m:List Sg),(hJ r n s m).1.time=s.time∧(hJ r n s m).1.tk=s.tk
 | 0,_,_=>⟨rfl,rfl⟩
 | n+1,s,m=>by
  rw [hJ];split
  ·exact ⟨rfl,rfl⟩
  ·exact ET n _ _
theorem Inv.doS {r:Ru} {s:St} (hr:RuOK r) (h:Inv r s) {x:Ev} (he:evE r x=0) (ht:s.time≤x.time) {k:Nat} (hx:x.rank=k) (hd:doE r s x k=0) : Inv r (atS (doS r s x k) x.time):=by
 unfold evE at he;rw [bU,bU,bU,bU,bU] at he;obtain ⟨e1,e2,e3,e4,e5,_⟩:=he;replace e1:=ew (by decide) e1
 replace e2:=ew (by decide) e2
 replace e3:=ew (by decide) e3
 replace e5:=ew (by decide) e5
 rw [jt] at e1 e2 e3;have qg:k < r.ranks.length:=by omega
 have hk:k < s.q.length:=by rw [h.len];exact qg
 have dV:=h.fit k hk;have hT:0≤x.time∧x.time≤604800:=e2;have bI:x.kind≠4→bP x.car=true:=fun h4=>by
  rw [decide_eq_false h4] at e5;simpa using e5
 have mQ:∀ (l:List ByteArray) (tk:List Tk),(l.length:Int)≤(rat r.ranks k).places→tk.length≤40→(∀ t∈tk,0≤t.rank∧t.rank < r.ranks.length)→(∀ t∈tk,0≤t.time∧t.time≤x.time)→tk.Pairwise (fun a b=>a.time≤b.time) →
   (∀ c,cnt c (fE ⟨s.q.set k l,tk,x.time⟩)≤cnt c (fE s)∨c=x.car∧bP x.car=true∧cnt c (fE ⟨s.q.set k l,tk,x.time⟩)≤1)→Inv r ⟨s.q.set k l,tk,x.time⟩:=fun l tk hl uY Kz gR ly hc=>by
  have ei:=h.cars hc;refine ⟨by simp [h.len],ei.1,ei.2,fun j hj=>?_,uY,Kz,gR,ly,hT⟩;have eK:j < s.q.length:=by simpa using hj
  show ((qat (s.q.set k l) j).length:Int)≤_;rw [rG hk];split
  ·rename_i he;rw [he];exact hl
  ·exact h.fit j eK
 have oR:∀ t∈s.tk,0≤t.time∧t.time≤x.time:=fun t hm=>by
  have:=h.tkt t hm;omega
 have rH:∀ {t:Tk},t∈s.tk.filter (fun t=>decide (t.car≠x.car))→t∈s.tk:=fun hm=>(List.mem_filter.1 hm).1;have gg:(s.tk.filter fun t=>decide (t.car≠x.car)).length≤40:=Nat.le_trans (List.length_filter_le _ _) h.tkl;have uZ:(s.tk.filter fun t=>decide (t.car≠x.car)).Pairwise fun a b=>a.time≤b.time:=h.ord.sublist List.filter_sublist;unfold Go.Proofs.YtoibondihdhnoaaGreatDoor.doS;unfold doE at hd;by_cases k0:x.kind=0
 ·rw [if_pos k0] at hd ⊢;have hn:=bI (by omega);unfold kU at hd;rw [bU,bU,bU] at hd;have f1:=ew (by decide) hd.1;have f3:=Be (ew (by decide) hd.2.2.1);have hq:x.car∉s.q.flatten:=Kw.1 (by simpa using f1);have RE:cnt x.car s.q.flatten=0:=Nat.eq_zero_of_not_pos fun hp=>hq (jQ.1 hp);unfold xZ atS;simp only;rw [Bb h.once];refine mQ _ _ (by simp;exact f3) gg (fun t hm=>h.tkr t (rH hm)) (fun t hm=>oR t (rH hm)) uZ fun c=>?_;have h1:=jS hk (qat s.q k++[x.car]) c;rw [gp,ff,ja] at h1;rw [hQ,hQ];simp only;rw [yb];by_cases hc:c=x.car
  ·subst hc;refine .inr ⟨rfl,hn,?_⟩;rw [if_pos rfl] at h1 ⊢;omega
  ·rw [if_neg hc];rw [if_neg (Ne.symm hc)] at h1;exact .inl (by omega)
 rw [if_neg k0] at hd ⊢;by_cases k1:x.kind=1
 ·rw [if_pos k1] at hd ⊢;unfold mO at hd;rw [bU,bU] at hd;obtain ⟨t,et⟩:=tl hd.1;have f2:=of_decide_eq_true (ew (by decide) hd.2.1);unfold uT atS;simp only;refine mQ _ _ (by rw [List.length_tail];omega) (by simp;omega) (fun t hm=>?_) (fun t hm=>?_) ?_ fun c=>.inl ?_
  ·rcases List.mem_append.1 hm with hm|hm
   ·exact h.tkr t hm
   ·simp at hm;subst hm;exact ⟨by simp only;omega,by simp only;omega⟩
  ·rcases List.mem_append.1 hm with hm|hm
   ·exact oR t hm
   ·simp at hm;subst hm;exact ⟨hT.1,Int.le_refl _⟩
  ·rw [List.pairwise_append];refine ⟨h.ord,by simp,fun a ha b hb=>?_⟩;simp at hb;subst hb;exact (oR a ha).2
  ·have h1:=jS hk (qat s.q k).tail c;rw [hQ,hQ];simp only [List.map_append,List.map_cons,List.map_nil];rw [gp,ff,ja];rw [et] at h1 ⊢;rw [List.tail_cons,ff] at h1;rw [List.tail_cons];omega
 rw [if_neg k1] at hd ⊢;by_cases k2:x.kind=2
 ·rw [if_pos k2] at hd ⊢;obtain ⟨t,et⟩:=tl hd;unfold Ba atS;simp only;refine mQ _ _ ?_ h.tkl h.tkr oR h.ord fun c=>.inl ?_
  ·unfold qd;rw [et] at dV ⊢;simp only [List.tail_cons,List.length_append,List.length_take,List.length_drop,List.length_cons,List.length_nil] at dV ⊢;omega
  ·have h1:=jS hk (qd r (qat s.q k) x.car) c;rw [hQ,hQ];simp only;have h2:cnt c (qd r (qat s.q k) x.car)=cnt c (qat s.q k):=by
    unfold qd;have h3:=gp c ((qat s.q k).tail.take (mb r (qat s.q k).tail.length)) ((qat s.q k).tail.drop (mb r (qat s.q k).tail.length));rw [List.take_append_drop] at h3;rw [gp,gp,ff,ja];have h4:cnt c (qat s.q k)=cnt c (qat s.q k).tail+if x.car=c then 1 else 0:=by rw [et,List.tail_cons,ff]
    omega
   omega
 rw [if_neg k2] at hd ⊢;by_cases k3:x.kind=3
 ·rw [if_pos k3] at hd ⊢;unfold uU atS;simp only;refine mQ _ _ ?_ h.tkl h.tkr oR h.ord fun c=>.inl ?_
  ·have:=List.length_eraseIdx_le (qat s.q k) (i_ (qat s.q k) x.car).toNat;omega
  ·have h1:=jS hk ((qat s.q k).eraseIdx (i_ (qat s.q k) x.car).toNat) c;have h2:=Bc c (qat s.q k) (i_ (qat s.q k) x.car).toNat;rw [hQ,hQ];simp only;omega
 rw [if_neg k3] at hd ⊢;by_cases k4:x.kind=4
 ·rw [if_pos k4] at hd ⊢;unfold oQ at hd;by_cases hf:(rat r.ranks k).feeder = -1
  ·rw [if_pos hf] at hd;cases hd
  ·rw [if_neg hf,bU,bU,bU] at hd;have f2:=of_decide_eq_true (ew (by decide) hd.2.1);have f3:=ew (by decide) hd.2.2.1;have hu:=h.up hr hk hf f2 f3;exact ⟨hu.len,hu.once,hu.name,hu.fit,hu.tkl,hu.tkr,oR,hu.ord,hT⟩
 rw [if_neg k4] at hd ⊢;unfold tj at hd;split at hd
 ·cases hd
 ·rename_i ly;have u9:¬eR s.tk x.car < 0:=fun hh=>ly (.inl hh);rw [bU,bU] at hd;have f3:=Be (ew (by decide) hd.2.1);have hn:=bI k4;unfold xY atS;simp only;rw [EN h.once x u9];refine mQ _ _ (by simp;omega) gg (fun t hm=>h.tkr t (rH hm)) (fun t hm=>oR t (rH hm)) uZ fun c=>?_;have h1:=jS hk ([x.car]++qat s.q k) c;rw [gp,ff,ja] at h1;rw [hQ,hQ];simp only;rw [yb];have bT:x.car∈s.tk.map (·.car):=Classical.byContradiction fun hc=>u9 (qf.2 hc);have h2:=jQ.2 bT;have h3:=h.once x.car;rw [hQ] at h3;by_cases hc:c=x.car
  ·subst hc;refine .inr ⟨rfl,hn,?_⟩;rw [if_pos rfl] at h1 ⊢;omega
  ·rw [if_neg hc];rw [if_neg (Ne.symm hc)] at h1;exact .inl (by omega)
def woT (l:List ByteArray) (c:ByteArray) : List ByteArray:=l.filter fun d=>decide (d≠c)
theorem Bh {r:Ru} {x:Ev} (h:evE r x=0) : 0≤x.kind∧x.kind≤5:=by
 unfold evE at h;rw [bU] at h;exact jt.1 (ew (by decide) h.1)
theorem yg {r:Ru} {x:Ev} (h:evE r x=0) : 0≤x.rank∧x.rank < r.ranks.length:=by
 unfold evE at h;rw [bU,bU,bU] at h;have:=jt.1 (ew (by decide) h.2.2.1);omega
theorem Bi {r:Ru} {x:Ev} (h:evE r x=0) : 0≤x.time∧x.time≤604800:=by
 unfold evE at h;rw [bU,bU] at h;exact jt.1 (ew (by decide) h.2.1)
def lz (x:Ev) : List Sg:=if x.kind=4 then [] else if x.kind=5 then [⟨0,x.rank,x.car⟩] else [⟨x.kind,x.rank,x.car⟩]
def goP (r:Ru) : Nat→List Ev→St→St×Nat×Int
 | _,[],s=>(s,0,0)
 | i,x::l,s=>if apE r s x≠0 then (s,i,apE r s x) else goP r (i+1) l (apU r s x).1
def nV (r:Ru) : List Ev→St→List Sg
 | [],_=>[]
 | x::l,s=>if apE r s x≠0 then [] else lz x++(apU r s x).2++nV r l (apU r s x).1
def st0 (r:Ru) : St:=⟨List.replicate r.ranks.length [],[],0⟩
theorem Inv.ap {r:Ru} {s:St} (hr:RuOK r) (h:Inv r s) {x:Ev} (he:apE r s x=0) : Inv r (apU r s x).1∧dI r (apU r s x).1 < 0∧(apU r s x).1.time=x.time:=by
 unfold apE at he;rw [bU,bU,bU] at he;obtain ⟨h1,h2,h3,_⟩:=he;have ht:s.time≤x.time:=of_decide_eq_true (ew (by decide) h2);have hx:x.rank=(x.rank.toNat:Int):=by
  have:=yg h1;omega
 have hi:=h.doS hr h1 ht hx h3;exact ⟨ER hr _ _ _ hi,ES hr _ _ _ hi (Nat.le_refl _),(ET _ _ _).1⟩
theorem u_:∀ n:Nat,(List.replicate n ([] : List ByteArray)).flatten=[]
 | 0=>rfl
 | n+1=>by rw [List.replicate_succ,List.flatten_cons,u_ n];rfl
theorem KA (n k:Nat) : qat (List.replicate n []) k=[]:=by
 unfold qat;rw [List.getD_eq_getElem?_getD,List.getElem?_replicate];split<;>rfl
theorem Inv.st0 {r:Ru} (hr:RuOK r) : Inv r (st0 r):=by
 refine ⟨by simp [Go.Proofs.YtoibondihdhnoaaGreatDoor.st0],fun c=>?_,fun c hc=>?_,fun k hk=>?_,by simp [Go.Proofs.YtoibondihdhnoaaGreatDoor.st0],fun t ht=>?_,fun t ht=>?_,.nil,by simp [Go.Proofs.YtoibondihdhnoaaGreatDoor.st0]⟩
 ·rw [hQ];show cnt c (List.replicate _ []).flatten+cnt c []≤1;rw [u_,ja];omega
 ·have h:=jQ.2 hc;rw [hQ] at h;change 0 < cnt c (List.replicate _ []).flatten+cnt c [] at h;rw [u_,ja] at h;omega
 ·show ((qat (List.replicate _ []) k).length:Int)≤_;rw [KA];have:=hr.pl k (by simpa [Go.Proofs.YtoibondihdhnoaaGreatDoor.st0] using hk);simp;omega
 ·simp [Go.Proofs.YtoibondihdhnoaaGreatDoor.st0] at ht
 ·simp [Go.Proofs.YtoibondihdhnoaaGreatDoor.st0] at ht
inductive Mv (q:List (List ByteArray)) : Sg→List (List ByteArray)→Prop
 | arrive (R:Nat) (c:ByteArray) (hR:R < q.length) (hc:c∉q.flatten) : Mv q ⟨0,R,c⟩ (q.set R (qat q R++[c]))
 | serve (R:Nat) (c:ByteArray) (t:List ByteArray) (hR:R < q.length) (e:qat q R=c::t) : Mv q ⟨1,R,c⟩ (q.set R t)
 | decline (R:Nat) (c:ByteArray) (t:List ByteArray) (m:Nat) (hR:R < q.length) (e:qat q R=c::t) : Mv q ⟨2,R,c⟩ (q.set R (t.take m++[c]++t.drop m))
 | leave (R:Nat) (c:ByteArray) (hR:R < q.length) (hc:c∈qat q R) : Mv q ⟨3,R,c⟩ (q.set R (woT (qat q R) c))
def sAt (x:Sg) (R:Nat) (c:ByteArray) : Prop:=x.rank=R∧x.car=c
def LastAt (L:List Sg) (R:Nat) (c:ByteArray) (j:Nat) : Prop:=j < L.length∧sAt (aB L j) R c∧∀ n,j < n→n < L.length→¬sAt (aB L n) R c
def Bef (L:List Sg) (R:Nat) (a b:ByteArray) : Prop:=∀ i j,LastAt L R a i→(aB L i).kind=0→LastAt L R b j→(aB L j).kind=0→i < j
structure Jn (L:List Sg) (q:List (List ByteArray)) : Prop where
 here:∀ R c j,LastAt L R c j→(aB L j).kind=0→c∈qat q R
 ord:∀ R,(qat q R).Pairwise (Bef L R)
 once:Once q.flatten
theorem mc {L:List Sg} {x:Sg} {j:Nat} (h:j < L.length) : aB (L++[x]) j=aB L j:=by
 unfold aB;rw [List.getD_eq_getElem?_getD,List.getD_eq_getElem?_getD,List.getElem?_append_left h]
theorem yh {L:List Sg} {x:Sg} : aB (L++[x]) L.length=x:=by simp [aB]
theorem LastAt.snoc {L:List Sg} {x:Sg} {R:Nat} {c:ByteArray} {j:Nat} (h:LastAt (L++[x]) R c j) : (sAt x R c∧j=L.length)∨(¬sAt x R c∧LastAt L R c j):=by
 obtain ⟨h1,h2,h3⟩:=h;rw [List.length_append,List.length_singleton] at h1 h3;by_cases he:j=L.length
 ·subst he;rw [yh] at h2;exact .inl ⟨h2,rfl⟩
 ·refine .inr ⟨?_,by omega,?_,fun n hn hl=>?_⟩
  ·have:=h3 L.length (by omega) (by omega);rwa [yh] at this
  ·rwa [mc (by omega)] at h2
  ·have:=h3 n hn (by omega);rwa [mc hl] at this
theorem Bj {L:List Sg} {x:Sg} {R:Nat} {c:ByteArray} {j:Nat} (h:LastAt L R c j) : (aB (L++[x]) j).kind=(aB L j).kind:=by rw [mc h.1]
theorem Bef.snoc {L:List Sg} {x:Sg} {R:Nat} {a b:ByteArray} (h:¬sAt x R a→¬sAt x R b→Bef L R a b) (ha:sAt x R a→x.kind≠0) : Bef (L++[x]) R a b:=fun i j hi ki hj kj=>by
 rcases hi.snoc with ⟨h1,rfl⟩|⟨h1,bF⟩
 ·rw [yh] at ki;exact absurd ki (ha h1)
 ·rcases hj.snoc with ⟨_,rfl⟩|⟨h2,eK⟩
  ·exact bF.1
  ·rw [Bj bF] at ki;rw [Bj eK] at kj;exact h h1 h2 i j bF ki eK kj
theorem KB {α:Type} {P:α→α→Prop} {t:List α} {c:α} (m:Nat) (h:t.Pairwise P) (hc:∀ a∈t,P a c∧P c a) : (t.take m++[c]++t.drop m).Pairwise P:=by
 rw [←List.take_append_drop m t] at h;rw [List.pairwise_append] at h;obtain ⟨h1,h2,h3⟩:=h;have ht:∀ a∈t.take m,a∈t:=fun a ha=>List.mem_of_mem_take ha;have hd:∀ a∈t.drop m,a∈t:=fun a ha=>List.mem_of_mem_drop ha;rw [List.pairwise_append,List.pairwise_append];refine ⟨⟨h1,by simp,fun a ha b hb=>?_⟩,h2,fun a ha b hb=>?_⟩
 ·simp at hb;subst hb;exact (hc a (ht a ha)).1
 ·rcases List.mem_append.1 ha with ha|ha
  ·exact h3 a ha b hb
  ·simp at ha;subst ha;exact (hc b (hd b hb)).2
theorem Bl {x:Sg} {R R':Nat} {c a:ByteArray} (hx:sAt x R c) (h:R'≠R∨a≠c) : ¬sAt x R' a:=fun h2=>by
 obtain ⟨h3,h4⟩:=hx;obtain ⟨h5,h6⟩:=h2;rcases h with h|h
 ·omega
 ·exact h (h6.symm.trans h4)
theorem Jn.set {L:List Sg} {q:List (List ByteArray)} (J:Jn L q) {x:Sg} {R:Nat} {c:ByteArray} (hR:R < q.length) (hx:sAt x R c) {l:List ByteArray} (cX:Once (q.set R l).flatten)
  (hm:∀ a∈qat q R,a≠c→a∈l) (hc:x.kind=0→c∈l) (ho:l.Pairwise (Bef (L++[x]) R)) : Jn (L++[x]) (q.set R l):=by
 refine ⟨fun R' a j hj kj=>?_,fun R'=>?_,cX⟩
 ·rw [rG hR];rcases hj.snoc with ⟨h1,rfl⟩|⟨h1,eK⟩
  ·rw [yh] at kj;obtain ⟨h2,h3⟩:=h1;obtain ⟨h4,h5⟩:=hx;rw [if_pos (by omega),←h3,h5];exact hc kj
  ·rw [Bj eK] at kj;have:=J.here R' a j eK kj;split
   ·rename_i he;subst he;exact hm a this fun h=>h1 ⟨hx.1,by rw [h];exact hx.2⟩
   ·exact this
 ·rw [rG hR];split
  ·rename_i he;subst he;exact ho
  ·rename_i he;refine (J.ord R').imp fun {a b} h=>Bef.snoc (fun _ _=>h) fun h2=>absurd h2 (Bl hx (.inl he))
theorem Jn.step {L:List Sg} {q q':List (List ByteArray)} {x:Sg} (J:Jn L q) (h:Mv q x q') : Jn (L++[x]) q':=by
 cases h with
 | arrive R c hR hc=>
  have RF:cnt c q.flatten=0:=Nat.eq_zero_of_not_pos fun hp=>hc (jQ.1 hp);have EU:∀ a∈qat q R,a≠c:=fun a ha he=>hc (List.mem_flatten.2 ⟨qat q R,by rw [fo hR];exact List.getElem_mem hR,he▸ha⟩);refine J.set hR ⟨rfl,rfl⟩ (fun a=>?_) (fun a ha _=>List.mem_append_left _ ha) (fun _=>List.mem_append_right _ (by simp)) ?_
  ·have h1:=jS hR (qat q R++[c]) a;rw [gp,ff,ja] at h1;have h2:=J.once a;by_cases he:c=a
   ·subst he;rw [if_pos rfl] at h1;omega
   ·rw [if_neg he] at h1;omega
  ·rw [List.pairwise_append];refine ⟨?_,by simp,fun a ha b hb=>?_⟩
   ·refine List.Pairwise.imp_of_mem (fun {a b} ha hb h=>Bef.snoc (fun _ _=>h) fun h2=>absurd h2 (Bl ⟨rfl,rfl⟩ (.inr (EU a ha)))) (J.ord R)
   ·simp at hb;subst hb;refine Bef.snoc (fun _ h2=>absurd ⟨rfl,rfl⟩ h2) fun h2=>absurd h2 (Bl ⟨rfl,rfl⟩ (.inr (EU a ha)))
 | serve R c t hR e=>
  have hr:=Once.row hR J.once;rw [e] at hr;refine J.set hR ⟨rfl,rfl⟩ (fun a=>?_) (fun a ha hn=>?_) (fun hk=>by cases hk) ?_
  ·have h1:=jS hR t a;have h2:=J.once a;rw [e,ff] at h1;omega
  ·rw [e] at ha;exact (List.mem_cons.1 ha).resolve_left hn
  ·have:=J.ord R;rw [e] at this;exact (List.pairwise_cons.1 this).2.imp fun {a b} h=>Bef.snoc (fun _ _=>h) fun _=>by simp only;decide
 | decline R c t m hR e=>
  refine J.set hR ⟨rfl,rfl⟩ (fun a=>?_) (fun a ha hn=>?_) (fun hk=>by cases hk) ?_
  ·have h1:=jS hR (t.take m++[c]++t.drop m) a;have h2:=J.once a;have h3:=gp a (t.take m) (t.drop m);rw [List.take_append_drop] at h3;rw [e,ff,gp,gp,ff,ja] at h1;omega
  ·rw [e] at ha;have ht:=(List.mem_cons.1 ha).resolve_left hn;rw [←List.take_append_drop m t] at ht;rcases List.mem_append.1 ht with ht|ht
   ·exact List.mem_append_left _ (List.mem_append_left _ ht)
   ·exact List.mem_append_right _ ht
  ·have:=J.ord R;rw [e] at this;refine KB m ((List.pairwise_cons.1 this).2.imp fun {a b} h=>Bef.snoc (fun _ _=>h) fun _=>by simp only;decide) fun a ha=>⟨?_,?_⟩
   ·exact Bef.snoc (fun _ h2=>absurd ⟨rfl,rfl⟩ h2) fun _=>by simp only;decide
   ·exact Bef.snoc (fun h2 _=>absurd ⟨rfl,rfl⟩ h2) fun _=>by simp only;decide
 | leave R c hR hc=>
  refine J.set hR ⟨rfl,rfl⟩ (fun a=>?_) (fun a ha hn=>List.mem_filter.2 ⟨ha,by simpa using hn⟩) (fun hk=>by cases hk) ?_
  ·have h1:=jS hR (woT (qat q R) c) a;have h2:=J.once a;have h3:cnt a (woT (qat q R) c)≤cnt a (qat q R):=List.filter_sublist.countP_le;omega
  ·exact ((J.ord R).sublist List.filter_sublist).imp fun {a b} h=>Bef.snoc (fun _ _=>h) fun _=>by simp only;decide
inductive Mvs:List (List ByteArray)→List Sg→List (List ByteArray)→Prop
 | nil (q:List (List ByteArray)) : Mvs q [] q
 | cons {q q' q2:List (List ByteArray)} {x:Sg} {L:List Sg} (h:Mv q x q') (hs:Mvs q' L q2) : Mvs q (x::L) q2
theorem Mvs.app {q q' q2:List (List ByteArray)} {L L':List Sg} (h:Mvs q L q') (h2:Mvs q' L' q2) : Mvs q (L++L') q2:=by
 induction h with
 | nil=>exact h2
 | cons h _ ih=>exact .cons h (ih h2)
def rI (L:List Sg) (i k:Nat) : Prop:=∃ n,i < n∧n < k∧(aB L n).rank=(aB L i).rank∧(aB L n).car=(aB L i).car
def OverP (L:List Sg) (i j k:Nat) : Prop:=
 i < j∧j < k∧k < L.length∧(aB L k).kind=1∧(aB L i).kind=0∧(aB L i).rank=(aB L k).rank∧(aB L i).car≠(aB L k).car∧¬rI L i k ∧
  (aB L j).kind=0∧(aB L j).rank=(aB L k).rank∧(aB L j).car=(aB L k).car∧¬rI L j k
theorem KC {L:List Sg} {x:Sg} {i k:Nat} (hi:i < L.length) (hk:k≤L.length) : rI (L++[x]) i k↔rI L i k:=by
 unfold rI;constructor
 ·rintro ⟨n,h1,h2,h3,h4⟩;rw [mc (by omega),mc hi] at h3 h4;exact ⟨n,h1,h2,h3,h4⟩
 ·rintro ⟨n,h1,h2,h3,h4⟩;exact ⟨n,h1,h2,by rw [mc (by omega),mc hi];exact h3,by rw [mc (by omega),mc hi];exact h4⟩
theorem OverP.snoc {L:List Sg} {x:Sg} {i j k:Nat} (h:OverP (L++[x]) i j k) (hk:k < L.length) : OverP L i j k:=by
 obtain ⟨h1,h2,_,h4,h5,h6,h7,h8,h9,Bm,Bn,EV⟩:=h;rw [mc hk] at h4 h6 h7 Bm Bn;rw [mc (by omega)] at h5 h6 h7;rw [mc (by omega)] at h9 Bm Bn;rw [KC (by omega) (by omega)] at h8 EV;exact ⟨h1,h2,hk,h4,h5,h6,h7,h8,h9,Bm,Bn,EV⟩
end Go.Proofs.YtoibondihdhnoaaGreatDoor
