/- Texts in one: Walks on a town that changes: cars that are served. -/
import Derived.Test.YtoibondihdhnoaaGreatDoorFRY8
import Derived.Test.YtoibondihdhnoaaGreatDoorFRY16
import Derived.Lib.LazyBuf
import Derived.Test.YtoibondihdhnoaaGreatDoorFRY18
import Derived.Test.YtoibondihdhnoaaGreatDoorFRY7
import Derived.Test.YtoibondihdhnoaaGreatDoorFRY13
namespace Go.Proofs.YtoibondihdhnoaaGreatDoor
open Go.RowKit
set_option maxRecDepth 100000
set_option maxHeartbeats 2000000
def tJ:List (List AV)→List Int
 | [.lit (.int _ n)]::r=>n::tJ r
 | _=>[]
attribute [go_sem] tJ
theorem fF (es:List (List AV)) (h:es=(tJ es).map eK) (hl:Nat.ble (tJ es).length 1000=true) : VC Tryz.prog 88 [.sl 1 es] (I (fst (tJ es))):=by
 have:=Js (tJ es) (Nat.le_of_ble_eq_true hl);rwa [←h] at this
def ps (s:St) (x:Ev) (k:Nat) : St:=⟨s.q.set k (qat s.q k).tail,s.tk++[⟨x.car,x.rank,x.time⟩],s.time⟩
def jz (s:St) (x:Ev) (k:Nat) : Int:=fst [gL (qat s.q k) x.car,unl (decide ((s.tk.length:Int) < 40)) 8]
theorem Jt (r:Ru) (s:St) (mv:List Sg) (n1 n2:Bool) (x:Ev) (k:Nat) (hx:x.rank=k) (hk:k < s.q.length) (_hr:r.ranks.length=s.q.length) (_hl:s.tk.length≤1000000) (h0:¬jz s x k=0) :
  VH Tryz.prog 225 (cq r s mv n1 n2) [.ref 0 0,evA x] [0] (cq r s mv n1 n2) (I (jz s x k)):=by
 have g1:=xK r s mv x k hx hk;have g2:=bY (decide ((s.tk.length:Int) < 40)) 8;have g3:VC Tryz.prog 88 [.sl 1 ([gL (qat s.q k) x.car,unl (decide ((s.tk.length:Int) < 40)) 8].map eK)] (I (jz s x k)):=fF _ rfl rfl;generalize jz s x k=E at *;generalize gL (qat s.q k) x.car=A at *;generalize unl (decide ((s.tk.length:Int) < 40)) 8=B' at *;obtain ⟨kd,tm,rk,car⟩:=x;simp only at hx;subst hx;simp only [evA] at g1 ⊢;refine dk Tryz.func225 rfl (by kernel_rfl) rfl (fun _=>by kernel_rfl) fun M0 w0 vs=>?_;simp only [Tryz.ntmps225,Tryz.results225,aC];unfold cq;repeat' first|(with_reducible first|apply af|apply ae|apply aR|apply aw|apply aa|refine ah [] ?_|apply aP|(apply au;·go_simp))|((with_reducible first|apply ab|apply aO);intro X Y;go_simp;(first|(refine ⟨_,⟨g1,rfl⟩,?_⟩)|(with_reducible refine ⟨_,g2,?_⟩)|(refine ⟨_,g3,?_⟩)|skip);apply Y;clear Y X)|((refine bf 14 14 [] rfl (by kernel_rfl) ?_);simp only [aA])
 go_simp
theorem Ju (r:Ru) (s:St) (mv:List Sg) (n1 n2:Bool) (x:Ev) (k:Nat) (hx:x.rank=k) (hk:k < s.q.length) (_hr:r.ranks.length=s.q.length) (hl:s.tk.length≤1000000) (h0:jz s x k=0) :
  VH Tryz.prog 225 (cq r s mv n1 n2) [.ref 0 0,evA x] [0] (cq r (ps s x k) mv false n2) (I 0):=by
 have g1:=xK r s mv x k hx hk;have g2:=bY (decide ((s.tk.length:Int) < 40)) 8;have g3:VC Tryz.prog 88 [.sl 1 ([gL (qat s.q k) x.car,unl (decide ((s.tk.length:Int) < 40)) 8].map eK)] (I (jz s x k)):=fF _ rfl rfl;rw [h0] at g3;have vj:1≤(qat s.q k).length:=by
  unfold jz gL at h0;by_cases h:(qat s.q k).length=0
  ·rw [if_pos h] at h0;exact absurd h0 (by simp [fst])
  ·omega
 generalize gL (qat s.q k) x.car=A at *;generalize unl (decide ((s.tk.length:Int) < 40)) 8=B' at *;obtain ⟨kd,tm,rk,car⟩:=x;simp only at hx;subst hx;unfold ps;simp only [evA] at g1 ⊢;have HH:=Lib.hid h0;clear h0;refine dk Tryz.func225 rfl (by kernel_rfl) rfl (fun _=>by kernel_rfl) fun M0 w0 vs=>?_;simp only [Tryz.ntmps225,Tryz.results225,aC];unfold cq;have hb:s.tk.length+1≤1000000000:=by omega
 repeat' with_reducible first|apply af|apply ae|apply aa|refine ah [] ?_|(apply ab;intro X Y;go_simp;apply Y;clear Y X)
 refine bf 14 14 [] rfl (by kernel_rfl) ?_;simp only [aA];repeat' first|(with_reducible first|apply af|apply ae|apply ao|apply aa|refine ah [] ?_|apply aP|(apply aj;·go_simp))|((with_reducible first|apply ab|apply aO);intro X Y;go_simp;(first|(refine ⟨_,⟨g1,rfl⟩,?_⟩)|(with_reducible refine ⟨_,g2,?_⟩)|(refine ⟨_,g3,?_⟩)|skip);apply Y;clear Y X)
 refine bf 19 18 [] rfl (by kernel_rfl) ?_;simp only [aA];repeat' with_reducible first|apply af|apply ae|apply aa|apply aP|((first|apply ab|apply aO);intro X Y;go_simp;apply Y;clear Y X)
 refine rR 14 [54] 2 [0,40] (by kernel_rfl) (by kernel_rfl) (by kernel_rfl) (by kernel_rfl) rfl ⟨rfl,rfl⟩ rfl ?_;simp only [aA];repeat' with_reducible first|apply aP|(apply aO;intro X Y;go_simp;apply Y;clear Y X)
 refine ⟨_,by go_simp,by go_simp;exact rfl,?_,?_⟩
 ·intro t ht;simp only [List.mem_cons,List.not_mem_nil,or_false] at ht;rcases ht with rfl|rfl<;>rfl
 go_simp;repeat' with_reducible first|apply af|apply ae|apply aw|apply aa|refine ah [] ?_|(apply ab;intro X Y;go_simp;apply Y;clear Y X)
 go_simp;rw [vi,lR]
def TxO (A:List (List AV)) : Prop:=∀ x∈A,x.length=1∧∀ c∈x,cQ c=true
theorem TxO.map (l:List ByteArray) : TxO (l.map bL):=fun x hx=>by
 obtain ⟨y,_,rfl⟩:=List.mem_map.1 hx;exact ⟨rfl,by simp [bL,cQ,Value.oneCell']⟩
theorem TxO.take {A:List (List AV)} {n:Nat} (h:TxO A) : TxO (A.take n):=fun x hx=>h x (List.mem_of_mem_take hx)
theorem TxO.drop {A:List (List AV)} {n:Nat} (h:TxO A) : TxO (A.drop n):=fun x hx=>h x (List.mem_of_mem_drop hx)
theorem TxO.tail {A:List (List AV)} (h:TxO A) : TxO A.tail:=fun x hx=>h x (List.mem_of_mem_tail hx)
theorem TxO.one (c:ByteArray) : TxO [[S c]]:=TxO.map [c]
theorem TxO.app {A B:List (List AV)} (h:TxO A) (h2:TxO B) : TxO (A++B):=fun x hx=>(List.mem_append.1 hx).elim (h x) (h2 x)
theorem Es (A B:List (List AV)) (c:ByteArray) (hA:TxO A) (hB:TxO B) (hn:A.length+B.length≤90000) : VCo Tryz.prog 233 [.sl 1 [[.sl 1 A],[.sl 1 [[S c]]],[.sl 1 B]]] 9 1 false (A++([[S c]]++B)):=by
 have e : [A,[[S c]],B].flatten=A++([[S c]]++B):=by simp
 have h:=Ee [A,[[S c]],B] (by rw [e];exact hA.app ((TxO.one c).app hB)) (by rw [e];simp;omega) (by simp);rw [e,decide_eq_false (by simp)] at h;exact h
theorem Et (A B:List (List AV)) (hA:TxO A) (hB:TxO B) (hn:A.length+B.length≤90000) : VCo Tryz.prog 233 [.sl 1 [[.sl 1 A],[.sl 1 B]]] 9 1 (decide ((A++B).length=0)) (A++B):=by
 have e : [A,B].flatten=A++B:=by simp
 have h:=Ee [A,B] (by rw [e];exact hA.app hB) (by rw [e];simp;omega) (by simp);rw [e] at h;exact h
theorem Jv (B:List (List AV)) (c:ByteArray) (hB:TxO B) (hn:B.length+1≤90000) : VCo Tryz.prog 233 [.sl 1 [[.sl 1 [[S c]]],[.sl 1 B]]] 9 1 false ([[S c]]++B):=by
 have h:=Et [[S c]] B (TxO.one c) hB (by rw [List.length_singleton];omega);rwa [decide_eq_false (by simp)] at h
def lh (r:Ru) (m:Nat) : Nat:=if r.back≠-1 then (min (m:Int) r.back).toNat else m
def oD (r:Ru) (q:List ByteArray) (car:ByteArray) : List ByteArray:=q.tail.take (lh r q.tail.length)++[car]++q.tail.drop (lh r q.tail.length)
theorem Jw (r:Ru) (s:St) (mv:List Sg) (n1 n2:Bool) (x:Ev) (k:Nat) (hx:x.rank=k) (hk:k < s.q.length) (_hr:r.ranks.length=s.q.length) (h0:¬gL (qat s.q k) x.car=0) :
  VH Tryz.prog 226 (cq r s mv n1 n2) [.ref 0 0,evA x] [0] (cq r s mv n1 n2) (I (gL (qat s.q k) x.car)):=by
 have g1:=xK r s mv x k hx hk;generalize gL (qat s.q k) x.car=A at *;obtain ⟨kd,tm,rk,car⟩:=x;simp only at hx;subst hx;simp only [evA] at g1 ⊢;refine dk Tryz.func226 rfl (by kernel_rfl) rfl (fun _=>by kernel_rfl) fun M0 w0 vs=>?_;simp only [Tryz.ntmps226,Tryz.results226,aC];unfold cq;repeat' first|(with_reducible first|apply af|apply ae|apply aR|apply aw|apply aa|refine ah [] ?_|(apply au;·go_simp))|((with_reducible apply ab);intro X Y;go_simp;(first|(refine ⟨_,⟨g1,rfl⟩,?_⟩)|skip);apply Y;clear Y X)
 go_simp
def ql (s:St) (x:Ev) (k:Nat) : Int:=if fj (qat s.q k) x.car < 0 then 6 else 0
def qm (s:St) (x:Ev) (k:Nat) : St:=⟨s.q.set k ((qat s.q k).eraseIdx (fj (qat s.q k) x.car).toNat),s.tk,s.time⟩
def feedN (r:Ru) (k:Nat) : Nat:=(rat r.ranks k).feeder.toNat
def iB (r:Ru) (s:St) (k:Nat) : Int:=
 if (rat r.ranks k).feeder = -1 then 6 else fst [unl (rat r.ranks k).called 22,unl (decide (0 < (qat s.q (feedN r k)).length)) 12,unl (ch r s k) 16]
def upS (r:Ru) (s:St) (k:Nat) : St:=⟨upQ s.q k (feedN r k),s.tk,s.time⟩
def tK (s:St) (x:Ev) : Tk:=cj s.tk (eL s.tk x.car).toNat
def my (r:Ru) (s:St) (x:Ev) (k:Nat) : Int:=
 if eL s.tk x.car < 0∨(tK s x).rank≠x.rank then 6 else fst [unl (decide (x.time - (tK s x).time≤r.ret)) 25,unl (ch r s k) 16]
def rS (s:St) (x:Ev) : List Tk:=s.tk.eraseIdx (eL s.tk x.car).toNat
def tL (s:St) (x:Ev) (k:Nat) : St:=⟨s.q.set k ([x.car]++qat s.q k),rS s x,s.time⟩
def iC (r:Ru) (s:St) (k:Nat) : Bool:=decide ((rat r.ranks k).feeder≠-1)&&decide (0 < (qat s.q (feedN r k)).length)
def iD (r:Ru) (s:St) (x:Ev) (k:Nat) : Int:=fst [unl (!decide (0≤dZ s.q x.car)) 5,unl (!iC r s k) 13,unl (ch r s k) 16]
def rT (s:St) (x:Ev) (k:Nat) : St:=⟨s.q.set k (qat s.q k++[x.car]),if 0≤eL s.tk x.car then rS s x else s.tk,s.time⟩
def tM (r:Ru) (s:St) (x:Ev) (k:Nat) : St:=⟨s.q.set k (oD r (qat s.q k) x.car),s.tk,s.time⟩
def doE (r:Ru) (s:St) (x:Ev) (k:Nat) : Int:=
 if x.kind=0 then iD r s x k else if x.kind=1 then jz s x k else if x.kind=2 then gL (qat s.q k) x.car else if x.kind=3 then ql s x k else if x.kind=4 then iB r s k else my r s x k
def doS (r:Ru) (s:St) (x:Ev) (k:Nat) : St:=
 if x.kind=0 then rT s x k else if x.kind=1 then ps s x k else if x.kind=2 then tM r s x k else if x.kind=3 then qm s x k else if x.kind=4 then upS r s k else tL s x k
def doM (r:Ru) (s:St) (x:Ev) (k:Nat) : List Sg:=if x.kind=4 then upM s.q k (feedN r k) else []
def bZ (r:Ru) : Nat→St→List Sg→St×List Sg
 | 0,s,m=>(s,m)
 | n+1,s,m=>if di r s < 0 then (s,m) else bZ r n (upS r s (di r s).toNat) (m++upM s.q (di r s).toNat (feedN r (di r s).toNat))
def cl:Nat→List (List ByteArray)→Nat
 | _,[]=>0
 | i,l::r=>i*l.length+cl (i+1) r
def evE (r:Ru) (x:Ev) : Int:=
 fst [unl (inR x.kind 0 5) 15,unl (inR x.time 0 604800) 2,unl (inR x.rank 0 ((r.ranks.length:Int) - 1)) 6,unl (!decide (x.kind=4) || decide (x.car=ByteArray.empty)) 3,unl (decide (x.kind=4) || dj x.car) 4]
def apE (r:Ru) (s:St) (x:Ev) : Int:=fst [evE r x,unl (decide (s.time≤x.time)) 9,doE r s x x.rank.toNat]
def atS (s:St) (t:Int) : St:=⟨s.q,s.tk,t⟩
def apU (r:Ru) (s:St) (x:Ev) : St×List Sg:=bZ r (cl 0 (doS r s x x.rank.toNat).q) (atS (doS r s x x.rank.toNat) x.time) (doM r s x x.rank.toNat)
theorem tN {l:List ByteArray} {c:ByteArray} : fj l c < 0↔c∉l:=by
 unfold fj;rcases qn (isT l c) l.length with ⟨h,hn⟩|⟨k,hk,h,hp,_⟩
 ·rw [h];refine ⟨fun _ hm=>?_,fun _=>by decide⟩;obtain ⟨j,hj,rfl⟩:=List.getElem_of_mem hm;have:=hn j hj;simp [isT,ie hj] at this
 ·rw [h];refine ⟨fun hh=>by omega,fun hm=>absurd ?_ hm⟩;unfold isT at hp;rw [ie hk] at hp;rw [←of_decide_eq_true hp];exact List.getElem_mem hk
theorem Eu {l:List ByteArray} {c:ByteArray} (h:c∈l) : ∃ k:Nat,fj l c=(k:Int)∧∃ hk:k < l.length,l[k]=c:=by
 rcases qn (isT l c) l.length with ⟨h1,hn⟩|⟨k,hk,h1,hp,_⟩
 ·obtain ⟨j,hj,rfl⟩:=List.getElem_of_mem h;have:=hn j hj;simp [isT,ie hj] at this
 ·unfold isT at hp;rw [ie hk] at hp;exact ⟨k,h1,hk,of_decide_eq_true hp⟩
theorem pt {l:List Tk} {c:ByteArray} : eL l c < 0↔c∉l.map (·.car):=by
 unfold eL;rcases qn (ni l c) l.length with ⟨h,hn⟩|⟨k,hk,h,hp,_⟩
 ·rw [h];refine ⟨fun _ hm=>?_,fun _=>by decide⟩;obtain ⟨x,hx,rfl⟩:=List.mem_map.1 hm;obtain ⟨j,hj,rfl⟩:=List.getElem_of_mem hx;have:=hn j hj;simp [ni,lk hj] at this
 ·rw [h];refine ⟨fun hh=>by omega,fun hm=>absurd ?_ hm⟩;unfold ni at hp;rw [lk hk] at hp;rw [←of_decide_eq_true hp];exact List.mem_map_of_mem (List.getElem_mem hk)
theorem tO {l:List Tk} {c:ByteArray} (h:c∈l.map (·.car)) : ∃ k:Nat,eL l c=(k:Int)∧∃ hk:k < l.length,l[k].car=c∧∀ j (hj:j < k),l[j].car≠c:=by
 rcases qn (ni l c) l.length with ⟨h1,hn⟩|⟨k,hk,h1,hp,hb⟩
 ·obtain ⟨x,hx,rfl⟩:=List.mem_map.1 h;obtain ⟨j,hj,rfl⟩:=List.getElem_of_mem hx;have:=hn j hj;simp [ni,lk hj] at this
 ·unfold ni at hp hb;rw [lk hk] at hp;refine ⟨k,h1,hk,of_decide_eq_true hp,fun j hj=>?_⟩;have:=hb j hj;rw [lk (by omega)] at this;exact of_decide_eq_false this
theorem Ew {q:List (List ByteArray)} {c:ByteArray} : dZ q c < 0↔c∉q.flatten:=by
 unfold dZ;rcases qn (inQ q c) q.length with ⟨h,hn⟩|⟨k,hk,h,hp,_⟩
 ·rw [h];refine ⟨fun _ hm=>?_,fun _=>by decide⟩;obtain ⟨l,hl,hc⟩:=List.mem_flatten.1 hm;obtain ⟨j,hj,rfl⟩:=List.getElem_of_mem hl;have:=of_decide_eq_false (hn j hj);rw [gM hj] at this;exact tN.1 (by omega) hc
 ·rw [h];refine ⟨fun hh=>by omega,fun hm=>absurd ?_ hm⟩;have hp:=of_decide_eq_true hp;rw [gM hk] at hp;have:c∈q[k]:=Classical.byContradiction fun hc=>by
   have:=tN.2 hc;omega
  exact List.mem_flatten.2 ⟨_,List.getElem_mem hk,this⟩
def cnt (c:ByteArray) (l:List ByteArray) : Nat:=l.countP fun x=>decide (x=c)
theorem fO (c d:ByteArray) (l:List ByteArray) : cnt c (d::l)=cnt c l+if d=c then 1 else 0:=by
 unfold cnt;rw [List.countP_cons];by_cases h:d=c<;>simp [h]
theorem im (c:ByteArray) (a b:List ByteArray) : cnt c (a++b)=cnt c a+cnt c b:=List.countP_append
theorem jA (c:ByteArray) : cnt c []=0:=rfl
theorem kF {c:ByteArray} {l:List ByteArray} : 0 < cnt c l↔c∈l:=by
 unfold cnt;rw [List.countP_pos_iff];exact ⟨fun ⟨a,ha,h⟩=>of_decide_eq_true h▸ha,fun h=>⟨c,h,by simp⟩⟩
def Once (l:List ByteArray) : Prop:=∀ c,cnt c l≤1
def fP (s:St) : List ByteArray:=s.q.flatten++s.tk.map (·.car)
theorem Once.tail {c:ByteArray} {l:List ByteArray} (h:Once (c::l)) : Once l:=fun d=>by
 have:=h d;rw [fO] at this;omega
theorem Once.not {c:ByteArray} {l:List ByteArray} (h:Once (c::l)) : c∉l:=fun hm=>by
 have:=h c;rw [fO,if_pos rfl] at this;have:=kF.2 hm;omega
theorem AX {α:Type} (f:α→ByteArray) {c:ByteArray} : ∀ (l:List α) (k:Nat) (hk:k < l.length),Once (l.map f)→f l[k]=c→l.eraseIdx k=l.filter (fun x=>decide (f x≠c))
 | [],k,hk,_,_=>by simp at hk
 | x::l,0,_,h,e=>by
  simp at e;rw [List.map_cons] at h;have hn:=h.not;rw [e] at hn;rw [List.eraseIdx_zero,List.tail_cons,List.filter_cons,if_neg (by simp [e])];refine (List.filter_eq_self.2 fun y hy=>?_).symm;refine decide_eq_true fun he=>hn ?_;rw [←he];exact List.mem_map_of_mem hy
 | x::l,k+1,hk,h,e=>by
  rw [List.map_cons] at h;simp at hk e;have hx:f x≠c:=fun he=>h.not (by rw [he,←e];exact List.mem_map_of_mem (List.getElem_mem hk));rw [List.eraseIdx_cons_succ,List.filter_cons,if_pos (by simp [hx]),AX f l k hk h.tail e]
theorem jB {q:List (List ByteArray)} : ∀ {k:Nat},k < q.length→∀ (l:List ByteArray) (c:ByteArray),cnt c (q.set k l).flatten+cnt c (qat q k)=cnt c q.flatten+cnt c l:=by
 induction q with
 | nil=>intro k hk;simp at hk
 | cons x q ih=>
  intro k hk l c;cases k with
  | zero=>
   simp [qat,im];omega
  | succ k=>
   have:=ih (k:=k) (by simpa using hk) l c;simp [qat,im] at this ⊢;omega
theorem Once.row {q:List (List ByteArray)} {k:Nat} (hk:k < q.length) (h:Once q.flatten) : Once (qat q k):=fun c=>by
 have h1:=jB hk [] c;have:=h c;rw [jA] at h1;omega
theorem Once.left {a b:List ByteArray} (h:Once (a++b)) : Once a:=fun c=>by
 have:=h c;rw [im] at this;omega
theorem Once.right {a b:List ByteArray} (h:Once (a++b)) : Once b:=fun c=>by
 have:=h c;rw [im] at this;omega
structure RuOK (r:Ru) : Prop where
 n0:0 < r.ranks.length
 n6:r.ranks.length≤6
 pl:∀ k,k < r.ranks.length→1≤(rat r.ranks k).places∧(rat r.ranks k).places≤12
 fd:∀ k,k < r.ranks.length→(rat r.ranks k).feeder≠-1→(k:Int) < (rat r.ranks k).feeder∧(rat r.ranks k).feeder < r.ranks.length
 bk:r.back = -1∨0≤r.back∧r.back≤12
 rt:0≤r.ret∧r.ret≤3600
structure Inv (r:Ru) (s:St) : Prop where
 len:s.q.length=r.ranks.length
 once:Once (fP s)
 name:∀ c∈fP s,dj c=true
 fit:∀ k,k < s.q.length→((qat s.q k).length:Int)≤(rat r.ranks k).places
 tkl:s.tk.length≤40
 tkr:∀ t∈s.tk,0≤t.rank∧t.rank < r.ranks.length
 tkt:∀ t∈s.tk,0≤t.time∧t.time≤s.time
 ord:s.tk.Pairwise fun a b=>a.time≤b.time
 t0:0≤s.time∧s.time≤604800
theorem RuOK.feedN {r:Ru} (h:RuOK r) {k:Nat} (hk:k < r.ranks.length) (hf:(rat r.ranks k).feeder≠-1) : (rat r.ranks k).feeder=(feedN r k:Int)∧k < feedN r k∧feedN r k < r.ranks.length:=by
 obtain ⟨h1,h2⟩:=h.fd k hk hf;unfold Go.Proofs.YtoibondihdhnoaaGreatDoor.feedN;omega
theorem RuOK.feed {r:Ru} (h:RuOK r) : ll r r.ranks.length:=fun k hk hf=>by
 obtain ⟨h1,h2⟩:=h.fd k hk hf;omega
theorem mz {q:List (List ByteArray)} {k j:Nat} {l:List ByteArray} (hk:k < q.length) : qat (q.set k l) j=if j=k then l else qat q j:=by
 unfold qat;rw [List.getD_eq_getElem?_getD,List.getElem?_set];split
 ·rename_i h;subst h;simp
 ·rename_i h;rw [if_neg (fun he=>h he.symm),List.getD_eq_getElem?_getD]
theorem iE (c:ByteArray) (s:St) : cnt c (fP s)=cnt c s.q.flatten+cnt c (s.tk.map (·.car)):=im _ _ _
theorem Inv.cars {r:Ru} {s s':St} {x:ByteArray} (h:Inv r s) (hc:∀ c,cnt c (fP s')≤cnt c (fP s)∨c=x∧dj x=true∧cnt c (fP s')≤1) : Once (fP s')∧∀ c∈fP s',dj c=true:=by
 refine ⟨fun c=>?_,fun c hm=>?_⟩
 ·rcases hc c with h1|⟨_,_,h1⟩
  ·have:=h.once c;omega
  ·exact h1
 ·rcases hc c with h1|⟨rfl,h1,_⟩
  ·exact h.name c (kF.1 (by have:=kF.2 hm;omega))
  ·exact h1
theorem xL (c d:ByteArray) (l:List Tk) : cnt c ((l.filter fun t=>decide (t.car≠d)).map (·.car))=if c=d then 0 else cnt c (l.map (·.car)):=by
 induction l with
 | nil=>simp [jA]
 | cons t l ih=>
  rw [List.filter_cons];by_cases ht:t.car=d
  ·rw [if_neg (by simp [ht]),ih,List.map_cons,fO,ht];by_cases hc:c=d
   ·simp [hc]
   ·rw [if_neg hc,if_neg hc,if_neg (Ne.symm hc)];rfl
  ·rw [if_pos (by simp [ht]),List.map_cons,List.map_cons,fO,fO,ih];by_cases hc:c=d
   ·rw [if_pos hc,if_pos hc,hc,if_neg ht]
   ·rw [if_neg hc,if_neg hc]
theorem Once.tk {s:St} (h:Once (fP s)) : Once (s.tk.map (·.car)):=h.right
theorem Once.q {s:St} (h:Once (fP s)) : Once s.q.flatten:=h.left
theorem xM {s:St} (h:Once (fP s)) (x:Ev) : (if 0≤eL s.tk x.car then rS s x else s.tk)=s.tk.filter fun t=>decide (t.car≠x.car):=by
 by_cases hc:x.car∈s.tk.map (·.car)
 ·obtain ⟨k,e,hk,he,_⟩:=tO hc;rw [if_pos (by omega)];unfold rS;rw [e,Int.toNat_natCast];exact AX (·.car) s.tk k hk h.tk he
 ·have:=pt.2 hc;rw [if_neg (by omega)];refine (List.filter_eq_self.2 fun t ht=>decide_eq_true (p:=t.car≠x.car) fun he=>hc ?_).symm;rw [←he];exact List.mem_map_of_mem ht
theorem AY {s:St} (h:Once (fP s)) (x:Ev) (hx:¬eL s.tk x.car < 0) : rS s x=s.tk.filter fun t=>decide (t.car≠x.car):=by
 rw [←xM h x,if_pos (by omega)]
theorem Ex {s:St} (h:Once (fP s)) {k:Nat} (hk:k < s.q.length) (x:Ev) (hx:¬fj (qat s.q k) x.car < 0) : (qat s.q k).eraseIdx (fj (qat s.q k) x.car).toNat=(qat s.q k).filter fun c=>decide (c≠x.car):=by
 obtain ⟨j,e,hj,he⟩:=Eu (Classical.byContradiction fun hn=>hx (tN.2 hn));rw [e,Int.toNat_natCast];exact AX id (qat s.q k) j hj (by rw [List.map_id];exact Once.row hk h.q) he
theorem oE {l:List ByteArray} {c:ByteArray} (h:gL l c=0) : ∃ t,l=c::t:=by
 unfold gL at h;cases l with
 | nil=>simp at h
 | cons a t=>
  rw [if_neg (by simp)] at h;have:tat (a::t) 0=a:=rfl;rw [this] at h;unfold unl at h;split at h
  ·rename_i he;exact ⟨t,by rw [of_decide_eq_true he]⟩
  ·cases h
theorem Ey {s:St} (h:Once (fP s)) {k:Nat} (hk:k < s.q.length) {c:ByteArray} (hx:gL (qat s.q k) c=0) : (qat s.q k).tail=(qat s.q k).filter fun d=>decide (d≠c):=by
 obtain ⟨t,e⟩:=oE hx;have hr:=Once.row hk h.q;rw [e] at hr ⊢;rw [List.tail_cons,List.filter_cons,if_neg (by simp)];refine (List.filter_eq_self.2 fun d hd=>decide_eq_true (p:=d≠c) fun he=>hr.not (he▸hd)).symm
theorem AZ (c:ByteArray) : ∀ (l:List ByteArray) (k:Nat),cnt c (l.eraseIdx k)≤cnt c l
 | [],_=>by simp
 | d::l,0=>by rw [List.eraseIdx_zero,List.tail_cons,fO];omega
 | d::l,k+1=>by
  rw [List.eraseIdx_cons_succ,fO,fO];have:=AZ c l k;omega
theorem eQ {c:Bool} {e:Int} (he:e≠0) (h:unl c e=0) : c=true:=by
 unfold unl at h;split at h
 ·assumption
 ·exact absurd h he
theorem cm {x:Int} {l:List Int} : fst (x::l)=0↔x=0∧fst l=0:=by
 rw [fst];by_cases h:x=0
 ·simp [h]
 ·simp [h]
theorem A8 {r:Ru} {s:St} {k:Nat} (h:ch r s k=true) : ((qat s.q k).length:Int)+1≤(rat r.ranks k).places:=by
 have:=of_decide_eq_true h;omega
theorem xN (q:List (List ByteArray)) (k f:Nat) : (upQ q k f).length=q.length:=by simp [upQ]
theorem Jy {l:List ByteArray} (h:0 < l.length) (c:ByteArray) : cnt c l.tail+(if tat l 0=c then 1 else 0)=cnt c l:=by
 cases l with
 | nil=>simp at h
 | cons a l=>rw [List.tail_cons,fO];rfl
theorem A_ {q:List (List ByteArray)} {k f:Nat} (hk:k < q.length) (hf:f < q.length) (ax:k≠f) (hp:0 < (qat q f).length) (c:ByteArray) : cnt c (upQ q k f).flatten=cnt c q.flatten:=by
 have h1:=jB hf (qat q f).tail c;have h2:=jB (q:=q.set f (qat q f).tail) (k:=k) (by simpa using hk) (qat q k++[tat (qat q f) 0]) c;have h3:=Jy hp c;rw [mz hf,if_neg ax,im,fO,jA] at h2;unfold upQ;omega
theorem Inv.up {r:Ru} {s:St} (hr:RuOK r) (h:Inv r s) {k:Nat} (hk:k < s.q.length) (hf:(rat r.ranks k).feeder≠-1) (hp:0 < (qat s.q (feedN r k)).length) (xO:ch r s k=true) : Inv r (upS r s k):=by
 have mA:k < r.ranks.length:=by rw [←h.len];exact hk
 obtain ⟨h1,h2,h3⟩:=hr.feedN mA hf;have cM:feedN r k < s.q.length:=by rw [h.len];exact h3
 have hc:=h.cars (s':=upS r s k) (x:=ByteArray.empty) fun c=>.inl (by
  rw [iE,iE];show cnt c (upQ s.q k (feedN r k)).flatten+_≤_;rw [A_ hk cM (by omega) hp];exact Nat.le_refl _)
 refine ⟨?_,hc.1,hc.2,fun j hj=>?_,h.tkl,h.tkr,h.tkt,h.ord,h.t0⟩
 ·show (upQ _ _ _).length=_;rw [xN,h.len]
 ·have eM:j < s.q.length:=by
   have:j < (upQ s.q k (feedN r k)).length:=hj;rwa [xN] at this
  have:=h.fit j eM;have Jz:=A8 xO;show ((qat (upQ s.q k (feedN r k)) j).length:Int)≤_;unfold upQ;rw [mz (by simpa using hk)];split
  ·rename_i he;subst he;rw [List.length_append];simp;exact Jz
  ·rw [mz cM];split
   ·rename_i he;subst he;rw [List.length_tail];omega
   ·exact this
theorem kG {r:Ru} {s:St} {k:Nat} (h:nj r s k=true) : (rat r.ranks k).feeder≠-1∧0 < (qat s.q (feedN r k)).length∧ch r s k=true:=by
 unfold nj at h;simp only [Bool.and_eq_true,decide_eq_true_eq] at h;exact ⟨h.1.1.1,h.2,h.1.2⟩
theorem kH {r:Ru} {s:St} (h:¬di r s < 0) : ∃ k:Nat,di r s=k∧k < r.ranks.length∧nj r s k=true:=by
 rcases qn (nj r s) r.ranks.length with ⟨h1,_⟩|⟨k,hk,h1,hp,_⟩
 ·exact absurd (show di r s < 0 by unfold di;rw [h1];decide) h
 ·exact ⟨k,h1,hk,hp⟩
theorem Ez {q:List (List ByteArray)} : ∀ {k i:Nat},k < q.length→∀ (l:List ByteArray),cl i (q.set k l)+(i+k)*(qat q k).length=cl i q+(i+k)*l.length:=by
 induction q with
 | nil=>intro k i hk;simp at hk
 | cons x q ih=>
  intro k i hk l;cases k with
  | zero=>
   simp [qat,cl];omega
  | succ k=>
   have:=ih (k:=k) (i:=i+1) (by simpa using hk) l;rw [show i+1+k=i+(k+1) by omega] at this;simp [qat,cl] at this ⊢;omega
theorem pv {r:Ru} {s:St} (hr:RuOK r) (hl:s.q.length=r.ranks.length) {k:Nat} (hk:k < s.q.length) (hf:(rat r.ranks k).feeder≠-1) (hp:0 < (qat s.q (feedN r k)).length) : cl 0 (upS r s k).q+1≤cl 0 s.q:=by
 have mA:k < r.ranks.length:=by rw [←hl];exact hk
 obtain ⟨h1,h2,h3⟩:=hr.feedN mA hf;have cM:feedN r k < s.q.length:=by rw [hl];exact h3
 have e1:=Ez (i:=0) cM (qat s.q (feedN r k)).tail;have e2:=Ez (q:=s.q.set (feedN r k) (qat s.q (feedN r k)).tail) (k:=k) (i:=0) (by simpa using hk) (qat s.q k++[tat (qat s.q (feedN r k)) 0]);rw [mz cM,if_neg (by omega),List.length_append] at e2;rw [List.length_tail] at e1;show cl 0 (upQ s.q k (feedN r k))+1≤_;unfold upQ;generalize (qat s.q (feedN r k)).length=m at *;obtain ⟨m',rfl⟩ : ∃ m',m=m'+1:=⟨m - 1,by omega⟩
 simp only [Nat.add_sub_cancel,Nat.zero_add,Nat.mul_add,Nat.mul_one,List.length_cons,List.length_nil] at e1 e2;omega
theorem EA {r:Ru} (hr:RuOK r) : ∀ (n:Nat) (s:St) (m:List Sg),Inv r s→Inv r (bZ r n s m).1
 | 0,_,_,h=>h
 | n+1,s,m,h=>by
  rw [bZ];split
  ·exact h
  ·rename_i hn;obtain ⟨k,e,hk,hp⟩:=kH hn;rw [e,Int.toNat_natCast];obtain ⟨h1,h2,h3⟩:=kG hp;exact EA hr n _ _ (h.up hr (by rw [h.len];exact hk) h1 h2 h3)
theorem EB {r:Ru} (hr:RuOK r) : ∀ (n:Nat) (s:St) (m:List Sg),Inv r s→cl 0 s.q≤n→di r (bZ r n s m).1 < 0
 | 0,s,m,h,hn=>by
  rw [bZ];refine Classical.byContradiction fun hx=>?_;obtain ⟨k,e,hk,hp⟩:=kH hx;obtain ⟨h1,h2,h3⟩:=kG hp;have:=pv hr h.len (by rw [h.len];exact hk) h1 h2;omega
 | n+1,s,m,h,hn=>by
  rw [bZ];split
  ·assumption
  ·rename_i hx;obtain ⟨k,e,hk,hp⟩:=kH hx;rw [e,Int.toNat_natCast];obtain ⟨h1,h2,h3⟩:=kG hp;have ca:k < s.q.length:=by rw [h.len];exact hk
   have:=pv hr h.len ca h1 h2;exact EB hr n _ _ (h.up hr ca h1 h2 h3) (by omega)
theorem ED {r:Ru} : ∀ (n:Nat) (s:St) (m:List Sg),(bZ r n s m).1.time=s.time∧(bZ r n s m).1.tk=s.tk
 | 0,_,_=>⟨rfl,rfl⟩
 | n+1,s,m=>by
  rw [bZ];split
  ·exact ⟨rfl,rfl⟩
  ·exact ED n _ _
theorem Inv.doS {r:Ru} {s:St} (hr:RuOK r) (h:Inv r s) {x:Ev} (he:evE r x=0) (ht:s.time≤x.time) {k:Nat} (hx:x.rank=k) (hd:doE r s x k=0) : Inv r (atS (doS r s x k) x.time):=by
 unfold evE at he;rw [cm,cm,cm,cm,cm] at he;obtain ⟨e1,e2,e3,e4,e5,_⟩:=he;replace e1:=eQ (by decide) e1
 replace e2:=eQ (by decide) e2
 replace e3:=eQ (by decide) e3
 replace e5:=eQ (by decide) e5
 rw [pw] at e1 e2 e3;have mA:k < r.ranks.length:=by omega
 have hk:k < s.q.length:=by rw [h.len];exact mA
 have dJ:=h.fit k hk;have hT:0≤x.time∧x.time≤604800:=e2;have cf:x.kind≠4→dj x.car=true:=fun h4=>by
  rw [decide_eq_false h4] at e5;simpa using e5
 have nk:∀ (l:List ByteArray) (tk:List Tk),(l.length:Int)≤(rat r.ranks k).places→tk.length≤40→(∀ t∈tk,0≤t.rank∧t.rank < r.ranks.length)→(∀ t∈tk,0≤t.time∧t.time≤x.time)→tk.Pairwise (fun a b=>a.time≤b.time) →
   (∀ c,cnt c (fP ⟨s.q.set k l,tk,x.time⟩)≤cnt c (fP s)∨c=x.car∧dj x.car=true∧cnt c (fP ⟨s.q.set k l,tk,x.time⟩)≤1)→Inv r ⟨s.q.set k l,tk,x.time⟩:=fun l tk hl xP oF Ba kI hc=>by
  have cG:=h.cars hc;refine ⟨by simp [h.len],cG.1,cG.2,fun j hj=>?_,xP,oF,Ba,kI,hT⟩;have eM:j < s.q.length:=by simpa using hj
  show ((qat (s.q.set k l) j).length:Int)≤_;rw [mz hk];split
  ·rename_i he;rw [he];exact hl
  ·exact h.fit j eM
 have lS:∀ t∈s.tk,0≤t.time∧t.time≤x.time:=fun t hm=>by
  have:=h.tkt t hm;omega
 have rU:∀ {t:Tk},t∈s.tk.filter (fun t=>decide (t.car≠x.car))→t∈s.tk:=fun hm=>(List.mem_filter.1 hm).1;have cM:(s.tk.filter fun t=>decide (t.car≠x.car)).length≤40:=Nat.le_trans (List.length_filter_le _ _) h.tkl;have mB:(s.tk.filter fun t=>decide (t.car≠x.car)).Pairwise fun a b=>a.time≤b.time:=h.ord.sublist List.filter_sublist;unfold Go.Proofs.YtoibondihdhnoaaGreatDoor.doS;unfold doE at hd;by_cases k0:x.kind=0
 ·rw [if_pos k0] at hd ⊢;have hn:=cf (by omega);unfold iD at hd;rw [cm,cm,cm] at hd;have f1:=eQ (by decide) hd.1;have f3:=A8 (eQ (by decide) hd.2.2.1);have hq:x.car∉s.q.flatten:=Ew.1 (by simpa using f1);have kJ:cnt x.car s.q.flatten=0:=Nat.eq_zero_of_not_pos fun hp=>hq (kF.1 hp);unfold rT atS;simp only;rw [xM h.once];refine nk _ _ (by simp;exact f3) cM (fun t hm=>h.tkr t (rU hm)) (fun t hm=>lS t (rU hm)) mB fun c=>?_;have h1:=jB hk (qat s.q k++[x.car]) c;rw [im,fO,jA] at h1;rw [iE,iE];simp only;rw [xL];by_cases hc:c=x.car
  ·subst hc;refine .inr ⟨rfl,hn,?_⟩;rw [if_pos rfl] at h1 ⊢;omega
  ·rw [if_neg hc];rw [if_neg (Ne.symm hc)] at h1;exact .inl (by omega)
 rw [if_neg k0] at hd ⊢;by_cases k1:x.kind=1
 ·rw [if_pos k1] at hd ⊢;unfold jz at hd;rw [cm,cm] at hd;obtain ⟨t,et⟩:=oE hd.1;have f2:=of_decide_eq_true (eQ (by decide) hd.2.1);unfold ps atS;simp only;refine nk _ _ (by rw [List.length_tail];omega) (by simp;omega) (fun t hm=>?_) (fun t hm=>?_) ?_ fun c=>.inl ?_
  ·rcases List.mem_append.1 hm with hm|hm
   ·exact h.tkr t hm
   ·simp at hm;subst hm;exact ⟨by simp only;omega,by simp only;omega⟩
  ·rcases List.mem_append.1 hm with hm|hm
   ·exact lS t hm
   ·simp at hm;subst hm;exact ⟨hT.1,Int.le_refl _⟩
  ·rw [List.pairwise_append];refine ⟨h.ord,by simp,fun a ha b hb=>?_⟩;simp at hb;subst hb;exact (lS a ha).2
  ·have h1:=jB hk (qat s.q k).tail c;rw [iE,iE];simp only [List.map_append,List.map_cons,List.map_nil];rw [im,fO,jA];rw [et] at h1 ⊢;rw [List.tail_cons,fO] at h1;rw [List.tail_cons];omega
 rw [if_neg k1] at hd ⊢;by_cases k2:x.kind=2
 ·rw [if_pos k2] at hd ⊢;obtain ⟨t,et⟩:=oE hd;unfold tM atS;simp only;refine nk _ _ ?_ h.tkl h.tkr lS h.ord fun c=>.inl ?_
  ·unfold oD;rw [et] at dJ ⊢;simp only [List.tail_cons,List.length_append,List.length_take,List.length_drop,List.length_cons,List.length_nil] at dJ ⊢;omega
  ·have h1:=jB hk (oD r (qat s.q k) x.car) c;rw [iE,iE];simp only;have h2:cnt c (oD r (qat s.q k) x.car)=cnt c (qat s.q k):=by
    unfold oD;have h3:=im c ((qat s.q k).tail.take (lh r (qat s.q k).tail.length)) ((qat s.q k).tail.drop (lh r (qat s.q k).tail.length));rw [List.take_append_drop] at h3;rw [im,im,fO,jA];have h4:cnt c (qat s.q k)=cnt c (qat s.q k).tail+if x.car=c then 1 else 0:=by rw [et,List.tail_cons,fO]
    omega
   omega
 rw [if_neg k2] at hd ⊢;by_cases k3:x.kind=3
 ·rw [if_pos k3] at hd ⊢;unfold qm atS;simp only;refine nk _ _ ?_ h.tkl h.tkr lS h.ord fun c=>.inl ?_
  ·have:=List.length_eraseIdx_le (qat s.q k) (fj (qat s.q k) x.car).toNat;omega
  ·have h1:=jB hk ((qat s.q k).eraseIdx (fj (qat s.q k) x.car).toNat) c;have h2:=AZ c (qat s.q k) (fj (qat s.q k) x.car).toNat;rw [iE,iE];simp only;omega
 rw [if_neg k3] at hd ⊢;by_cases k4:x.kind=4
 ·rw [if_pos k4] at hd ⊢;unfold iB at hd;by_cases hf:(rat r.ranks k).feeder = -1
  ·rw [if_pos hf] at hd;cases hd
  ·rw [if_neg hf,cm,cm,cm] at hd;have f2:=of_decide_eq_true (eQ (by decide) hd.2.1);have f3:=eQ (by decide) hd.2.2.1;have hu:=h.up hr hk hf f2 f3;exact ⟨hu.len,hu.once,hu.name,hu.fit,hu.tkl,hu.tkr,lS,hu.ord,hT⟩
 rw [if_neg k4] at hd ⊢;unfold my at hd;split at hd
 ·cases hd
 ·rename_i kI;have vt:¬eL s.tk x.car < 0:=fun hh=>kI (.inl hh);rw [cm,cm] at hd;have f3:=A8 (eQ (by decide) hd.2.1);have hn:=cf k4;unfold tL atS;simp only;rw [AY h.once x vt];refine nk _ _ (by simp;omega) cM (fun t hm=>h.tkr t (rU hm)) (fun t hm=>lS t (rU hm)) mB fun c=>?_;have h1:=jB hk ([x.car]++qat s.q k) c;rw [im,fO,jA] at h1;rw [iE,iE];simp only;rw [xL];have bg:x.car∈s.tk.map (·.car):=Classical.byContradiction fun hc=>vt (pt.2 hc);have h2:=kF.2 bg;have h3:=h.once x.car;rw [iE] at h3;by_cases hc:c=x.car
  ·subst hc;refine .inr ⟨rfl,hn,?_⟩;rw [if_pos rfl] at h1 ⊢;omega
  ·rw [if_neg hc];rw [if_neg (Ne.symm hc)] at h1;exact .inl (by omega)
def woT (l:List ByteArray) (c:ByteArray) : List ByteArray:=l.filter fun d=>decide (d≠c)
def woK (l:List Tk) (c:ByteArray) : List Tk:=l.filter fun t=>decide (t.car≠c)
def tP (r:Ru) (m:Nat) : Nat:=if r.back = -1∨r.back > m then m else r.back.toNat
def px (q:List (List ByteArray)) (k f:Nat) : List (List ByteArray):=
 (List.range q.length).map fun i=>(if i=f then (qat q i).tail else qat q i)++if i=k then [tat (qat q f) 0] else []
def xQ (r:Ru) (s:St) (x:Ev) (k:Nat) : St:=
 if x.kind=0 then ⟨s.q.set k (qat s.q k++[x.car]),woK s.tk x.car,x.time⟩
 else if x.kind=1 then ⟨s.q.set k (woT (qat s.q k) x.car),s.tk++[⟨x.car,x.rank,x.time⟩],x.time⟩
 else if x.kind=2 then ⟨s.q.set k ((woT (qat s.q k) x.car).take (tP r (woT (qat s.q k) x.car).length)++[x.car]++(woT (qat s.q k) x.car).drop (tP r (woT (qat s.q k) x.car).length)),s.tk,x.time⟩
 else if x.kind=3 then ⟨s.q.set k (woT (qat s.q k) x.car),s.tk,x.time⟩
 else if x.kind=4 then ⟨px s.q k (feedN r k),s.tk,x.time⟩
 else if x.kind=5 then ⟨s.q.set k ([x.car]++qat s.q k),woK s.tk x.car,x.time⟩
 else ⟨s.q,s.tk,x.time⟩
theorem JA {r:Ru} (m:Nat) : tP r m=lh r m:=by
 unfold tP lh;by_cases h:r.back = -1
 ·rw [if_pos (.inl h),if_neg (by omega)]
 ·rw [if_pos h];by_cases h2:r.back > m
  ·rw [if_pos (.inr h2)];omega
  ·rw [if_neg (by omega)];omega
theorem rV {q:List (List ByteArray)} {k f:Nat} (_hk:k < q.length) (_hf:f < q.length) (ax:k≠f) : px q k f=upQ q k f:=by
 unfold px upQ;apply List.ext_getElem
 ·simp
 ·intro i h1 h2;have hi:i < q.length:=by simpa using h1
  rw [List.getElem_map,List.getElem_range,List.getElem_set];by_cases h:k=i
  ·subst h;rw [if_pos rfl,if_pos rfl,if_neg ax]
  ·rw [if_neg h,if_neg (Ne.symm h),List.getElem_set,List.append_nil];by_cases h3:f=i
   ·subst h3;rw [if_pos rfl,if_pos rfl]
   ·rw [if_neg h3,if_neg (Ne.symm h3),gM hi]
theorem JB {r:Ru} {s:St} (hr:RuOK r) (hl:s.q.length=r.ranks.length) {k:Nat} (hk:k < s.q.length) (hf:(rat r.ranks k).feeder≠-1) : px s.q k (feedN r k)=upQ s.q k (feedN r k):=by
 obtain ⟨h1,h2,h3⟩:=hr.feedN (by rw [←hl];exact hk) hf;exact rV hk (by rw [hl];exact h3) (by omega)
theorem qo {r:Ru} {x:Ev} (h:evE r x=0) : 0≤x.kind∧x.kind≤5:=by
 unfold evE at h;rw [cm] at h;exact pw.1 (eQ (by decide) h.1)
theorem rW {r:Ru} {x:Ev} (h:evE r x=0) : 0≤x.rank∧x.rank < r.ranks.length:=by
 unfold evE at h;rw [cm,cm,cm] at h;have:=pw.1 (eQ (by decide) h.2.2.1);omega
theorem vu {r:Ru} {x:Ev} (h:evE r x=0) : 0≤x.time∧x.time≤604800:=by
 unfold evE at h;rw [cm,cm] at h;exact pw.1 (eQ (by decide) h.2.1)
theorem JC {r:Ru} {s:St} (hr:RuOK r) (h:Inv r s) {x:Ev} {k:Nat} (hk:k < s.q.length) (h5:0≤x.kind∧x.kind≤5) (hd:doE r s x k=0) : xQ r s x k=atS (doS r s x k) x.time:=by
 unfold xQ doS;unfold doE at hd;by_cases k0:x.kind=0
 ·rw [if_pos k0,if_pos k0];unfold rT atS woK;simp only;rw [xM h.once]
 rw [if_neg k0] at hd;rw [if_neg k0,if_neg k0];by_cases k1:x.kind=1
 ·rw [if_pos k1] at hd;rw [if_pos k1,if_pos k1];unfold jz at hd;rw [cm] at hd;unfold ps atS woT;simp only;rw [Ey h.once hk hd.1]
 rw [if_neg k1] at hd;rw [if_neg k1,if_neg k1];by_cases k2:x.kind=2
 ·rw [if_pos k2] at hd;rw [if_pos k2,if_pos k2];unfold tM oD atS woT;simp only;rw [Ey h.once hk hd,JA]
 rw [if_neg k2] at hd;rw [if_neg k2,if_neg k2];by_cases k3:x.kind=3
 ·rw [if_pos k3] at hd;rw [if_pos k3,if_pos k3];unfold ql at hd;unfold qm atS woT;simp only;rw [Ex h.once hk x (by
   intro hh;rw [if_pos hh] at hd;cases hd)]
 rw [if_neg k3] at hd;rw [if_neg k3,if_neg k3];by_cases k4:x.kind=4
 ·rw [if_pos k4] at hd;rw [if_pos k4,if_pos k4];unfold iB at hd;by_cases hf:(rat r.ranks k).feeder = -1
  ·rw [if_pos hf] at hd;cases hd
  ·unfold upS atS;simp only;rw [JB hr h.len hk hf]
 rw [if_neg k4] at hd;rw [if_neg k4,if_neg k4,if_pos (by omega)];unfold my at hd;split at hd
 ·cases hd
 ·rename_i kI;unfold tL atS woK;simp only;rw [AY h.once x fun hh=>kI (.inl hh)]
def xR (r:Ru) (s:St) (x:Ev) (k:Nat) : List Sg:=if x.kind=4 then upM s.q k (feedN r k) else [⟨if x.kind=5 then 0 else x.kind,x.rank,x.car⟩]
def fw (x:Ev) : List Sg:=if x.kind=4 then [] else if x.kind=5 then [⟨0,x.rank,x.car⟩] else [⟨x.kind,x.rank,x.car⟩]
theorem xS {r:Ru} : ∀ (n:Nat) (s:St) (a m:List Sg),bZ r n s (a++m)=((bZ r n s m).1,a++(bZ r n s m).2)
 | 0,_,_,_=>rfl
 | n+1,s,a,m=>by
  rw [bZ,bZ];split
  ·rfl
  ·rw [List.append_assoc,xS n]
theorem JD (r:Ru) (s:St) (x:Ev) (k:Nat) (n:Nat) (s':St) : bZ r n s' (xR r s x k)=((bZ r n s' (doM r s x k)).1,fw x++(bZ r n s' (doM r s x k)).2):=by
 have e:xR r s x k=fw x++doM r s x k:=by
  unfold xR fw doM;by_cases h4:x.kind=4
  ·rw [if_pos h4,if_pos h4,if_pos h4];rfl
  ·rw [if_neg h4,if_neg h4,if_neg h4];by_cases h5:x.kind=5
   ·rw [if_pos h5,if_pos h5,List.append_nil]
   ·rw [if_neg h5,if_neg h5,List.append_nil]
 rw [e,xS]
def goP (r:Ru) : Nat→List Ev→St→St×Nat×Int
 | _,[],s=>(s,0,0)
 | i,x::l,s=>if apE r s x≠0 then (s,i,apE r s x) else goP r (i+1) l (apU r s x).1
def fk (r:Ru) : List Ev→St→List Sg
 | [],_=>[]
 | x::l,s=>if apE r s x≠0 then [] else fw x++(apU r s x).2++fk r l (apU r s x).1
def st0 (r:Ru) : St:=⟨List.replicate r.ranks.length [],[],0⟩
theorem Inv.ap {r:Ru} {s:St} (hr:RuOK r) (h:Inv r s) {x:Ev} (he:apE r s x=0) : Inv r (apU r s x).1∧di r (apU r s x).1 < 0∧(apU r s x).1.time=x.time:=by
 unfold apE at he;rw [cm,cm,cm] at he;obtain ⟨h1,h2,h3,_⟩:=he;have ht:s.time≤x.time:=of_decide_eq_true (eQ (by decide) h2);have hx:x.rank=(x.rank.toNat:Int):=by
  have:=rW h1;omega
 have hi:=h.doS hr h1 ht hx h3;exact ⟨EA hr _ _ _ hi,EB hr _ _ _ hi (Nat.le_refl _),(ED _ _ _).1⟩
theorem tQ:∀ n:Nat,(List.replicate n ([] : List ByteArray)).flatten=[]
 | 0=>rfl
 | n+1=>by rw [List.replicate_succ,List.flatten_cons,tQ n];rfl
theorem xT (n k:Nat) : qat (List.replicate n []) k=[]:=by
 unfold qat;rw [List.getD_eq_getElem?_getD,List.getElem?_replicate];split<;>rfl
theorem Inv.st0 {r:Ru} (hr:RuOK r) : Inv r (st0 r):=by
 refine ⟨by simp [Go.Proofs.YtoibondihdhnoaaGreatDoor.st0],fun c=>?_,fun c hc=>?_,fun k hk=>?_,by simp [Go.Proofs.YtoibondihdhnoaaGreatDoor.st0],fun t ht=>?_,fun t ht=>?_,.nil,by simp [Go.Proofs.YtoibondihdhnoaaGreatDoor.st0]⟩
 ·rw [iE];show cnt c (List.replicate _ []).flatten+cnt c []≤1;rw [tQ,jA];omega
 ·have h:=kF.2 hc;rw [iE] at h;change 0 < cnt c (List.replicate _ []).flatten+cnt c [] at h;rw [tQ,jA] at h;omega
 ·show ((qat (List.replicate _ []) k).length:Int)≤_;rw [xT];have:=hr.pl k (by simpa [Go.Proofs.YtoibondihdhnoaaGreatDoor.st0] using hk);simp;omega
 ·simp [Go.Proofs.YtoibondihdhnoaaGreatDoor.st0] at ht
 ·simp [Go.Proofs.YtoibondihdhnoaaGreatDoor.st0] at ht
theorem EE {r:Ru} (hr:RuOK r) : ∀ (l:List Ev) (i:Nat) (s:St),Inv r s→di r s < 0→(goP r i l s).2.2=0→Inv r (goP r i l s).1∧di r (goP r i l s).1 < 0
 | [],_,_,h,hn,_=>⟨h,hn⟩
 | x::l,i,s,h,hn,he=>by
  rw [goP] at he ⊢;by_cases ha:apE r s x=0
  ·rw [if_neg (by simp [ha])] at he ⊢;have:=h.ap hr ha;exact EE hr l (i+1) _ this.1 this.2.1 he
  ·rw [if_pos ha] at he;exact absurd he ha
inductive Mv (q:List (List ByteArray)) : Sg→List (List ByteArray)→Prop
 | arrive (R:Nat) (c:ByteArray) (hR:R < q.length) (hc:c∉q.flatten) : Mv q ⟨0,R,c⟩ (q.set R (qat q R++[c]))
 | serve (R:Nat) (c:ByteArray) (t:List ByteArray) (hR:R < q.length) (e:qat q R=c::t) : Mv q ⟨1,R,c⟩ (q.set R t)
 | decline (R:Nat) (c:ByteArray) (t:List ByteArray) (m:Nat) (hR:R < q.length) (e:qat q R=c::t) : Mv q ⟨2,R,c⟩ (q.set R (t.take m++[c]++t.drop m))
 | leave (R:Nat) (c:ByteArray) (hR:R < q.length) (hc:c∈qat q R) : Mv q ⟨3,R,c⟩ (q.set R (woT (qat q R) c))
def sAt (x:Sg) (R:Nat) (c:ByteArray) : Prop:=x.rank=R∧x.car=c
def LastAt (L:List Sg) (R:Nat) (c:ByteArray) (j:Nat) : Prop:=j < L.length∧sAt (aI L j) R c∧∀ n,j < n→n < L.length→¬sAt (aI L n) R c
def Bef (L:List Sg) (R:Nat) (a b:ByteArray) : Prop:=∀ i j,LastAt L R a i→(aI L i).kind=0→LastAt L R b j→(aI L j).kind=0→i < j
structure Jn (L:List Sg) (q:List (List ByteArray)) : Prop where
 here:∀ R c j,LastAt L R c j→(aI L j).kind=0→c∈qat q R
 ord:∀ R,(qat q R).Pairwise (Bef L R)
 once:Once q.flatten
theorem ln {L:List Sg} {x:Sg} {j:Nat} (h:j < L.length) : aI (L++[x]) j=aI L j:=by
 unfold aI;rw [List.getD_eq_getElem?_getD,List.getD_eq_getElem?_getD,List.getElem?_append_left h]
theorem vv {L:List Sg} {x:Sg} : aI (L++[x]) L.length=x:=by simp [aI]
theorem LastAt.snoc {L:List Sg} {x:Sg} {R:Nat} {c:ByteArray} {j:Nat} (h:LastAt (L++[x]) R c j) : (sAt x R c∧j=L.length)∨(¬sAt x R c∧LastAt L R c j):=by
 obtain ⟨h1,h2,h3⟩:=h;rw [List.length_append,List.length_singleton] at h1 h3;by_cases he:j=L.length
 ·subst he;rw [vv] at h2;exact .inl ⟨h2,rfl⟩
 ·refine .inr ⟨?_,by omega,?_,fun n hn hl=>?_⟩
  ·have:=h3 L.length (by omega) (by omega);rwa [vv] at this
  ·rwa [ln (by omega)] at h2
  ·have:=h3 n hn (by omega);rwa [ln hl] at this
theorem Bb {L:List Sg} {x:Sg} {R:Nat} {c:ByteArray} {j:Nat} (h:LastAt L R c j) : (aI (L++[x]) j).kind=(aI L j).kind:=by rw [ln h.1]
theorem Bef.snoc {L:List Sg} {x:Sg} {R:Nat} {a b:ByteArray} (h:¬sAt x R a→¬sAt x R b→Bef L R a b) (ha:sAt x R a→x.kind≠0) : Bef (L++[x]) R a b:=fun i j hi ki hj kj=>by
 rcases hi.snoc with ⟨h1,rfl⟩|⟨h1,br⟩
 ·rw [vv] at ki;exact absurd ki (ha h1)
 ·rcases hj.snoc with ⟨_,rfl⟩|⟨h2,eM⟩
  ·exact br.1
  ·rw [Bb br] at ki;rw [Bb eM] at kj;exact h h1 h2 i j br ki eM kj
theorem JE {α:Type} {P:α→α→Prop} {t:List α} {c:α} (m:Nat) (h:t.Pairwise P) (hc:∀ a∈t,P a c∧P c a) : (t.take m++[c]++t.drop m).Pairwise P:=by
 rw [←List.take_append_drop m t] at h;rw [List.pairwise_append] at h;obtain ⟨h1,h2,h3⟩:=h;have ht:∀ a∈t.take m,a∈t:=fun a ha=>List.mem_of_mem_take ha;have hd:∀ a∈t.drop m,a∈t:=fun a ha=>List.mem_of_mem_drop ha;rw [List.pairwise_append,List.pairwise_append];refine ⟨⟨h1,by simp,fun a ha b hb=>?_⟩,h2,fun a ha b hb=>?_⟩
 ·simp at hb;subst hb;exact (hc a (ht a ha)).1
 ·rcases List.mem_append.1 ha with ha|ha
  ·exact h3 a ha b hb
  ·simp at ha;subst ha;exact (hc b (hd b hb)).2
theorem Bc {x:Sg} {R R':Nat} {c a:ByteArray} (hx:sAt x R c) (h:R'≠R∨a≠c) : ¬sAt x R' a:=fun h2=>by
 obtain ⟨h3,h4⟩:=hx;obtain ⟨h5,h6⟩:=h2;rcases h with h|h
 ·omega
 ·exact h (h6.symm.trans h4)
theorem Jn.set {L:List Sg} {q:List (List ByteArray)} (J:Jn L q) {x:Sg} {R:Nat} {c:ByteArray} (hR:R < q.length) (hx:sAt x R c) {l:List ByteArray} (cD:Once (q.set R l).flatten)
  (hm:∀ a∈qat q R,a≠c→a∈l) (hc:x.kind=0→c∈l) (ho:l.Pairwise (Bef (L++[x]) R)) : Jn (L++[x]) (q.set R l):=by
 refine ⟨fun R' a j hj kj=>?_,fun R'=>?_,cD⟩
 ·rw [mz hR];rcases hj.snoc with ⟨h1,rfl⟩|⟨h1,eM⟩
  ·rw [vv] at kj;obtain ⟨h2,h3⟩:=h1;obtain ⟨h4,h5⟩:=hx;rw [if_pos (by omega),←h3,h5];exact hc kj
  ·rw [Bb eM] at kj;have:=J.here R' a j eM kj;split
   ·rename_i he;subst he;exact hm a this fun h=>h1 ⟨hx.1,by rw [h];exact hx.2⟩
   ·exact this
 ·rw [mz hR];split
  ·rename_i he;subst he;exact ho
  ·rename_i he;refine (J.ord R').imp fun {a b} h=>Bef.snoc (fun _ _=>h) fun h2=>absurd h2 (Bc hx (.inl he))
theorem Jn.step {L:List Sg} {q q':List (List ByteArray)} {x:Sg} (J:Jn L q) (h:Mv q x q') : Jn (L++[x]) q':=by
 cases h with
 | arrive R c hR hc=>
  have QH:cnt c q.flatten=0:=Nat.eq_zero_of_not_pos fun hp=>hc (kF.1 hp);have EF:∀ a∈qat q R,a≠c:=fun a ha he=>hc (List.mem_flatten.2 ⟨qat q R,by rw [gM hR];exact List.getElem_mem hR,he▸ha⟩);refine J.set hR ⟨rfl,rfl⟩ (fun a=>?_) (fun a ha _=>List.mem_append_left _ ha) (fun _=>List.mem_append_right _ (by simp)) ?_
  ·have h1:=jB hR (qat q R++[c]) a;rw [im,fO,jA] at h1;have h2:=J.once a;by_cases he:c=a
   ·subst he;rw [if_pos rfl] at h1;omega
   ·rw [if_neg he] at h1;omega
  ·rw [List.pairwise_append];refine ⟨?_,by simp,fun a ha b hb=>?_⟩
   ·refine List.Pairwise.imp_of_mem (fun {a b} ha hb h=>Bef.snoc (fun _ _=>h) fun h2=>absurd h2 (Bc ⟨rfl,rfl⟩ (.inr (EF a ha)))) (J.ord R)
   ·simp at hb;subst hb;refine Bef.snoc (fun _ h2=>absurd ⟨rfl,rfl⟩ h2) fun h2=>absurd h2 (Bc ⟨rfl,rfl⟩ (.inr (EF a ha)))
 | serve R c t hR e=>
  have hr:=Once.row hR J.once;rw [e] at hr;refine J.set hR ⟨rfl,rfl⟩ (fun a=>?_) (fun a ha hn=>?_) (fun hk=>by cases hk) ?_
  ·have h1:=jB hR t a;have h2:=J.once a;rw [e,fO] at h1;omega
  ·rw [e] at ha;exact (List.mem_cons.1 ha).resolve_left hn
  ·have:=J.ord R;rw [e] at this;exact (List.pairwise_cons.1 this).2.imp fun {a b} h=>Bef.snoc (fun _ _=>h) fun _=>by simp only;decide
 | decline R c t m hR e=>
  refine J.set hR ⟨rfl,rfl⟩ (fun a=>?_) (fun a ha hn=>?_) (fun hk=>by cases hk) ?_
  ·have h1:=jB hR (t.take m++[c]++t.drop m) a;have h2:=J.once a;have h3:=im a (t.take m) (t.drop m);rw [List.take_append_drop] at h3;rw [e,fO,im,im,fO,jA] at h1;omega
  ·rw [e] at ha;have ht:=(List.mem_cons.1 ha).resolve_left hn;rw [←List.take_append_drop m t] at ht;rcases List.mem_append.1 ht with ht|ht
   ·exact List.mem_append_left _ (List.mem_append_left _ ht)
   ·exact List.mem_append_right _ ht
  ·have:=J.ord R;rw [e] at this;refine JE m ((List.pairwise_cons.1 this).2.imp fun {a b} h=>Bef.snoc (fun _ _=>h) fun _=>by simp only;decide) fun a ha=>⟨?_,?_⟩
   ·exact Bef.snoc (fun _ h2=>absurd ⟨rfl,rfl⟩ h2) fun _=>by simp only;decide
   ·exact Bef.snoc (fun h2 _=>absurd ⟨rfl,rfl⟩ h2) fun _=>by simp only;decide
 | leave R c hR hc=>
  refine J.set hR ⟨rfl,rfl⟩ (fun a=>?_) (fun a ha hn=>List.mem_filter.2 ⟨ha,by simpa using hn⟩) (fun hk=>by cases hk) ?_
  ·have h1:=jB hR (woT (qat q R) c) a;have h2:=J.once a;have h3:cnt a (woT (qat q R) c)≤cnt a (qat q R):=List.filter_sublist.countP_le;omega
  ·exact ((J.ord R).sublist List.filter_sublist).imp fun {a b} h=>Bef.snoc (fun _ _=>h) fun _=>by simp only;decide
inductive Mvs:List (List ByteArray)→List Sg→List (List ByteArray)→Prop
 | nil (q:List (List ByteArray)) : Mvs q [] q
 | cons {q q' q2:List (List ByteArray)} {x:Sg} {L:List Sg} (h:Mv q x q') (hs:Mvs q' L q2) : Mvs q (x::L) q2
theorem Mvs.app {q q' q2:List (List ByteArray)} {L L':List Sg} (h:Mvs q L q') (h2:Mvs q' L' q2) : Mvs q (L++L') q2:=by
 induction h with
 | nil=>exact h2
 | cons h _ ih=>exact .cons h (ih h2)
def rX (L:List Sg) (i k:Nat) : Prop:=∃ n,i < n∧n < k∧(aI L n).rank=(aI L i).rank∧(aI L n).car=(aI L i).car
def OverP (L:List Sg) (i j k:Nat) : Prop:=
 i < j∧j < k∧k < L.length∧(aI L k).kind=1∧(aI L i).kind=0∧(aI L i).rank=(aI L k).rank∧(aI L i).car≠(aI L k).car∧¬rX L i k ∧
  (aI L j).kind=0∧(aI L j).rank=(aI L k).rank∧(aI L j).car=(aI L k).car∧¬rX L j k
theorem EG {L:List Sg} {x:Sg} {i k:Nat} (hi:i < L.length) (hk:k≤L.length) : rX (L++[x]) i k↔rX L i k:=by
 unfold rX;constructor
 ·rintro ⟨n,h1,h2,h3,h4⟩;rw [ln (by omega),ln hi] at h3 h4;exact ⟨n,h1,h2,h3,h4⟩
 ·rintro ⟨n,h1,h2,h3,h4⟩;exact ⟨n,h1,h2,by rw [ln (by omega),ln hi];exact h3,by rw [ln (by omega),ln hi];exact h4⟩
theorem OverP.snoc {L:List Sg} {x:Sg} {i j k:Nat} (h:OverP (L++[x]) i j k) (hk:k < L.length) : OverP L i j k:=by
 obtain ⟨h1,h2,_,h4,h5,h6,h7,h8,h9,pz,pA,vw⟩:=h;rw [ln hk] at h4 h6 h7 pz pA;rw [ln (by omega)] at h5 h6 h7;rw [ln (by omega)] at h9 pz pA;rw [EG (by omega) (by omega)] at h8 vw;exact ⟨h1,h2,hk,h4,h5,h6,h7,h8,h9,pz,pA,vw⟩
theorem JF {q q':List (List ByteArray)} {L L':List Sg} (h:Mvs q L' q') : Jn L q→(∀ i j k,¬OverP L i j k)→∀ i j k,¬OverP (L++L') i j k:=by
 induction h generalizing L with
 | nil=>
  intro _ hn;rwa [List.append_nil]
 | @cons q q1 q2 x L1 h _ ih=>
  intro J hn;have e:L++x::L1=(L++[x])++L1:=by simp
  rw [e];refine ih (J.step h) fun i j k ho=>?_;by_cases hk:k < L.length
  ·exact hn i j k (ho.snoc hk)
  ·obtain ⟨h1,h2,h3,h4,h5,h6,h7,h8,h9,pz,pA,vw⟩:=ho;have ca:k=L.length:=by simp at h3;omega
   subst ca;rw [vv] at h4 h6 h7 pz pA;rw [ln (by omega)] at h5 h6 h7;rw [ln (by omega)] at h9 pz pA;rw [EG (by omega) (Nat.le_refl _)] at h8 vw;cases h with
   | arrive=>cases h4
   | decline=>cases h4
   | leave=>cases h4
   | serve R c t hR et=>
    simp only at h6 h7 pz pA;have li:LastAt L R (aI L i).car i:=⟨by omega,⟨h6,rfl⟩,fun n hn hl hs=>h8 ⟨n,hn,hl,by rw [hs.1,h6],hs.2⟩⟩
    have lj:LastAt L R c j:=⟨by omega,⟨pz,pA⟩,fun n hn hl hs=>vw ⟨n,hn,hl,by rw [hs.1,pz],by rw [hs.2,pA]⟩⟩
    have hm:=J.here R _ i li h5;have ho:=J.ord R;rw [et] at hm ho;have ht:=(List.mem_cons.1 hm).resolve_left h7;have:=(List.pairwise_cons.1 ho).1 _ ht j i lj h9 li h5;omega
theorem EH {r:Ru} {s:St} (hr:RuOK r) (h:Inv r s) {k:Nat} (hk:k < s.q.length) (hf:(rat r.ranks k).feeder≠-1) (hp:0 < (qat s.q (feedN r k)).length) : Mvs s.q (upM s.q k (feedN r k)) (upS r s k).q:=by
 have mA:k < r.ranks.length:=by rw [←h.len];exact hk
 obtain ⟨h1,h2,h3⟩:=hr.feedN mA hf;have cM:feedN r k < s.q.length:=by rw [h.len];exact h3
 obtain ⟨c,t,e⟩ : ∃ c t,qat s.q (feedN r k)=c::t:=by
  cases hq:qat s.q (feedN r k) with
  | nil=>rw [hq] at hp;simp at hp
  | cons c t=>exact ⟨c,t,rfl⟩
 have e0:tat (qat s.q (feedN r k)) 0=c:=by rw [e];rfl
 have cD:=Once.row cM h.once.q;have hw:woT (qat s.q (feedN r k)) c=(qat s.q (feedN r k)).tail:=by
  rw [e] at cD ⊢;unfold woT;rw [List.filter_cons,if_neg (by simp),List.tail_cons];exact List.filter_eq_self.2 fun d hd=>decide_eq_true (p:=d≠c) fun he=>cD.not (he▸hd)
 have lp:c∉(s.q.set (feedN r k) (qat s.q (feedN r k)).tail).flatten:=fun hm=>by
  have h4:=jB cM (qat s.q (feedN r k)).tail c;have h5:=kF.2 hm;have h6:=h.once.q c;rw [e,List.tail_cons,fO,if_pos rfl] at h4;rw [e,List.tail_cons] at h5;omega
 unfold upM;show Mvs _ _ (upQ s.q k (feedN r k));unfold upQ;rw [e0];refine .cons (.leave (feedN r k) c cM (by rw [e];simp)) ?_;rw [hw];have vz:qat s.q k=qat (s.q.set (feedN r k) (qat s.q (feedN r k)).tail) k:=by rw [mz cM,if_neg (by omega)]
 rw [vz];exact .cons (.arrive k c (by simpa using hk) lp) (.nil _)
theorem EI {r:Ru} (hr:RuOK r) : ∀ (n:Nat) (s:St),Inv r s→Mvs s.q (bZ r n s []).2 (bZ r n s []).1.q
 | 0,s,_=>.nil _
 | n+1,s,h=>by
  rw [bZ];split
  ·exact .nil _
  ·rename_i hn;obtain ⟨k,e,hk,hp⟩:=kH hn;rw [e,Int.toNat_natCast];obtain ⟨h1,h2,h3⟩:=kG hp;have ca:k < s.q.length:=by rw [h.len];exact hk
   rw [List.nil_append];have e2:=xS (r:=r) n (upS r s k) (upM s.q k (feedN r k)) [];rw [List.append_nil] at e2;rw [e2];exact (EH hr h ca h1 h2).app (EI hr n _ (h.up hr ca h1 h2 h3))
theorem JG {r:Ru} {s:St} (hr:RuOK r) (h:Inv r s) {x:Ev} (he:apE r s x=0) (h5:x.kind≠5) : Mvs s.q (fw x++(apU r s x).2) (apU r s x).1.q:=by
 unfold apE at he;rw [cm,cm,cm] at he;obtain ⟨h1,h2,h3,_⟩:=he;have ht:s.time≤x.time:=of_decide_eq_true (eQ (by decide) h2);have EJ:=rW h1;have hx:x.rank=(x.rank.toNat:Int):=by omega
 have hi:=h.doS hr h1 ht hx h3;unfold apU;generalize x.rank.toNat=k at *;have hk:k < s.q.length:=by rw [h.len];omega
 have fQ:Mvs (doS r s x k).q (bZ r (cl 0 (doS r s x k).q) (atS (doS r s x k) x.time) []).2 (bZ r (cl 0 (doS r s x k).q) (atS (doS r s x k) x.time) []).1.q:=EI hr _ _ hi;have e2:=xS (r:=r) (cl 0 (doS r s x k).q) (atS (doS r s x k) x.time) (doM r s x k) [];rw [List.append_nil] at e2;rw [e2];simp only;rw [←List.append_assoc];refine Mvs.app ?_ fQ;clear fQ e2 hi;have iO:=qo h1;obtain ⟨kd,tm,rk,car⟩:=x;simp only at hx h5 iO h3 ⊢;subst hx;unfold doE at h3;unfold fw doM doS;simp only at h3 ⊢;by_cases k0:kd=0
 ·subst k0;rw [if_pos rfl] at h3 ⊢;rw [if_neg (by decide),if_neg (by decide),if_neg (by decide)];unfold iD at h3;rw [cm] at h3;have f1:=eQ (by decide) h3.1;exact .cons (.arrive k car hk (Ew.1 (by simpa using f1))) (.nil _)
 rw [if_neg k0] at h3 ⊢;by_cases k1:kd=1
 ·subst k1;rw [if_pos rfl] at h3 ⊢;rw [if_neg (by decide),if_neg (by decide),if_neg (by decide)];unfold jz at h3;rw [cm] at h3;obtain ⟨t,e⟩:=oE h3.1;refine .cons ?_ (.nil _);unfold ps;simp only;rw [e];exact .serve k car t hk e
 rw [if_neg k1] at h3 ⊢;by_cases k2:kd=2
 ·subst k2;rw [if_pos rfl] at h3 ⊢;rw [if_neg (by decide),if_neg (by decide),if_neg (by decide)];obtain ⟨t,e⟩:=oE h3;refine .cons ?_ (.nil _);unfold tM oD;simp only;rw [e];exact .decline k car t _ hk e
 rw [if_neg k2] at h3 ⊢;by_cases k3:kd=3
 ·subst k3;rw [if_pos rfl] at h3 ⊢;rw [if_neg (by decide),if_neg (by decide),if_neg (by decide)];unfold ql at h3;have hn:¬fj (qat s.q k) car < 0:=fun hh=>by
   rw [if_pos hh] at h3;cases h3
  refine .cons ?_ (.nil _);unfold qm;rw [Ex h.once hk ⟨3,tm,k,car⟩ hn];exact .leave k car hk (Classical.byContradiction fun hc=>hn (tN.2 hc))
 rw [if_neg k3] at h3 ⊢;have k4:kd=4:=by omega
 subst k4;rw [if_pos rfl] at h3 ⊢;rw [if_pos rfl,if_pos rfl];unfold iB at h3;by_cases hf:(rat r.ranks k).feeder = -1
 ·rw [if_pos hf] at h3;cases h3
 ·rw [if_neg hf,cm,cm] at h3;rw [List.nil_append];exact EH hr h hk hf (of_decide_eq_true (eQ (by decide) h3.2.1))
theorem EK {r:Ru} (hr:RuOK r) : ∀ (l:List Ev) (i:Nat) (s:St),Inv r s→(goP r i l s).2.2=0→(∀ x∈l,x.kind≠5)→Mvs s.q (fk r l s) (goP r i l s).1.q
 | [],_,_,_,_,_=>.nil _
 | x::l,i,s,h,he,h5=>by
  rw [goP] at he ⊢;rw [fk];by_cases ha:apE r s x=0
  ·rw [if_neg (by simp [ha])] at he ⊢;rw [if_neg (by simp [ha])];exact (JG hr h ha (h5 x (by simp))).app (EK hr l (i+1) _ (h.ap hr ha).1 he fun y hy=>h5 y (by simp [hy]))
  ·rw [if_pos ha] at he;exact absurd he ha
theorem JH {r:Ru} (hr:RuOK r) (l:List Ev) (he:(goP r 0 l (st0 r)).2.2=0) (h5:∀ x∈l,x.kind≠5) : ∀ i j k,¬OverP (fk r l (st0 r)) i j k:=by
 have hJ:Jn [] (st0 r).q:=by
  refine ⟨fun R c j hj=>absurd hj.1 (by simp),fun R=>?_,fun c=>?_⟩
  ·show (qat (List.replicate _ []) R).Pairwise _;rw [xT];exact .nil
  ·show cnt c (List.replicate _ []).flatten≤1;rw [tQ,jA];omega
 have:=JF (EK hr l 0 (st0 r) (Inv.st0 hr) he h5) hJ fun i j k ho=>absurd ho.2.2.1 (by simp);simpa using this
end Go.Proofs.YtoibondihdhnoaaGreatDoor
