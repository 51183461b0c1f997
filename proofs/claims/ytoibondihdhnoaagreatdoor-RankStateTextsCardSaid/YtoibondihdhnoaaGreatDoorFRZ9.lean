/- Texts in one: Walks on plain values: numbers, errors, names; texts of at most 1000 bytes. -/
import Derived.Test.YtoibondihdhnoaaGreatDoorFRZ8
import Derived.Test.YtoibondihdhnoaaGreatDoorFRZ5
import Derived.Test.YtoibondihdhnoaaGreatDoorFRZ6
namespace Go.Proofs.YtoibondihdhnoaaGreatDoor
open Go.RowKit
set_option maxRecDepth 100000
theorem jT (n lo hi:Int) : VC Tryz.prog 90 [I n,I lo,I hi] (B (inR n lo hi)):=by
 refine aK Tryz.func90 rfl (by kernel_rfl) rfl fun M0 w0=>?_;simp only [Tryz.ntmps90,Tryz.results90,az];repeat' first|(with_reducible first|apply af|apply ae|apply aq|apply aa|refine ah [] ?_|(apply ab;intro X Y;go_simp;apply Y;clear Y X))|((apply qQ rfl);(focus (go_simp<;>exact rfl));(focus (go_simp;done));(focus (intro hb0;replace hb0:=hb0.out;go_simp<;>(exact rfl)));intro X Y;go_simp;refine Y _ ?_;clear Y X)
 all_goals (first|(go_simp;done)|(go_simp;first|(simp [inR, *];done)|(simp [inR, *];omega)|(simp [inR,] at *;omega)|(rfl)))
theorem j3 (n lo hi:Int) : VC Tryz.prog 49 [I n,I lo,I hi] (B (inR n lo hi)):=by
 refine aK Tryz.func49 rfl (by kernel_rfl) rfl fun M0 w0=>?_;simp only [Tryz.ntmps49,Tryz.results49,az];repeat' first|(with_reducible first|apply af|apply ae|apply aq|apply aa|refine ah [] ?_|(apply ab;intro X Y;go_simp;apply Y;clear Y X))|((apply qQ rfl);(focus (go_simp<;>exact rfl));(focus (go_simp;done));(focus (intro hb0;replace hb0:=hb0.out;go_simp<;>(exact rfl)));intro X Y;go_simp;refine Y _ ?_;clear Y X)
 all_goals (first|(go_simp;done)|(go_simp;first|(simp [inR, *];done)|(simp [inR, *];omega)|(simp [inR,] at *;omega)|(rfl)))
theorem br (c:Bool) (e:Int) : VC Tryz.prog 89 [B c,I e] (I (unl c e)):=by
 refine aK Tryz.func89 rfl (by kernel_rfl) rfl fun M0 w0=>?_;simp only [Tryz.ntmps89,Tryz.results89,az];repeat' first|(with_reducible first|apply af|apply ae|apply aF|apply aq|apply aj|apply aa|refine ah [] ?_|(apply ab;intro X Y;go_simp;apply Y;clear Y X))|((with_reducible refine Dj ?_ (fun ht=>?_) (fun ht=>?_));(focus (go_simp;done));(all_goals (simp [go_sem] at ht;replace ht:=ht.out)))
 all_goals (first|(go_simp;done)|(go_simp;first|(simp [unl, *];done)|(simp [unl, *];omega)|(simp [unl,] at *;omega)|(rfl)))
theorem Kp (l:List Int) (hl:l.length≤1000) : VC Tryz.prog 88 [.sl 1 (l.map dk)] (I (fst l)):=by
 obtain ⟨R,hR⟩ : ∃ R,fst l=R:=⟨_,rfl⟩
 rw [hR];have HR:=Lib.hid hR;clear hR;refine aK Tryz.func88 rfl (by kernel_rfl) rfl fun M0 w0=>?_;simp only [Tryz.ntmps88,Tryz.results88,az];repeat (with_reducible first|apply af|apply ae|apply ar|apply aa|refine ah [] ?_|(apply ab;intro X Y;go_simp;apply Y;clear Y X))
 refine zI (α:=Nat) (fun k=>⟨[(7,I k),(6,I l.length),(5,.sl 1 (l.map dk))],[]⟩) (fun k=>k≤l.length∧Hid (fst (l.drop k)=R)) (fun k=>l.length - k) 0 ⟨by omega,by simpa using HR⟩ (by go_simp) ?_;rintro k ⟨hk,hf⟩ K hR;by_cases aw:k < l.length
 ·have hw:=cj (x:=(k:Int)+1) (by omega) (by omega);have e:=hf.out;rw [List.drop_eq_getElem_cons aw,fst] at e;obtain ⟨x,hx⟩ : ∃ x,l[k]=x:=⟨_,rfl⟩
  rw [hx] at e;have HE:=Lib.hid e;clear e;by_cases c:x=0
  ·subst c;repeat (with_reducible first|apply af|apply ae|apply aj|apply ar|apply aT|apply aa|refine ah [] ?_|(apply ao;·go_simp)|(apply ak;·go_simp)|(apply ab;intro X Y;go_simp;apply Y;clear Y X))
   refine hR _ (k+1) ⟨aw,Lib.hid (by simpa using HE.out)⟩ (by omega) ?_;go_simp
  ·repeat (with_reducible first|apply af|apply ae|apply aF|apply aq|apply aj|apply ar|apply b_|apply aa|refine ah [] ?_|(apply ao;·go_simp)|(apply ab;intro X Y;go_simp;apply Y;clear Y X))
   have e:=HE.out;rw [if_pos c] at e;subst e;go_simp
 ·repeat (with_reducible first|apply af|apply ae|apply aW|apply aq|apply aX|apply aY|apply aa|refine ah [] ?_|(apply ak;·go_simp)|(apply ab;intro X Y;go_simp;apply Y;clear Y X))
  have e:=hf.out;rw [List.drop_eq_nil_of_le (by omega)] at e;rw [show R=0 from e.symm];go_simp
theorem rL (s:ByteArray) (hs:s.size≤1000) : VC Tryz.prog 91 [S s] (B (bP s)):=by
 obtain ⟨R,hR⟩ : ∃ R,bP s=R:=⟨_,rfl⟩
 rw [hR];have HR:=Lib.hid hR;clear hR;refine aK Tryz.func91 rfl (by kernel_rfl) rfl fun M0 w0=>?_;simp only [Tryz.ntmps91,Tryz.results91,az];repeat (with_reducible first|apply af|apply ae|apply ar|apply aa|refine ah [] ?_|(apply ab;intro X Y;go_simp;apply Y;clear Y X))
 refine zI (α:=Nat) (fun k=>⟨[(9,I k),(8,I s.size),(7,.sl 1 ((List.range s.size).map fun i=>[.lit (.int .u8 (cR s i).toNat)])),(0,S s)],[]⟩) (fun k=>k≤s.size∧Hid (nA s k=true)) (fun k=>s.size - k) 0 ⟨by omega,Lib.hid rfl⟩ (by go_simp) ?_;rintro k ⟨hk,hf⟩ K hR;by_cases aw:k < s.size
 ·have hw:=cj (x:=(k:Int)+1) (by omega) (by omega);obtain ⟨x,hx⟩ : ∃ x:Int,((cR s k).toNat:Int)=x:=⟨_,rfl⟩
  have HX:=Lib.hid (It s k);have bw:Hid (jj k x=false→R=false):=Lib.hid fun h=>by
   rw [←HR.out];unfold bP;rw [Iu s aw (by rw [hx];exact h)];simp
  have xo:((!decide (97≤x) || !decide (x≤122))&&(!decide (65≤x) || !decide (x≤90))&&(decide (k=0) || !decide (x=45)&&(decide (x < 48) || decide (57 < x)))) = !jj k x:=by
   rw [Bool.eq_iff_iff];simp [jj]
  have HC:=Lib.hid xo;have iu:Hid (jj k x=true→nA s (k+1)=true):=Lib.hid fun h=>by rw [HX.out,hf.out,hx,h];rfl
  clear xo;repeat' first|(with_reducible first|apply af|apply ae|apply aF|apply aq|apply aj|apply ar|apply aT|apply b_|apply aa|refine ah [] ?_|(apply ao;·go_simp)|(apply ab;intro X Y;go_simp;apply Y;clear Y X))|((with_reducible refine Dj ?_ (fun ht=>?_) (fun ht=>?_));(focus (go_simp;done));(all_goals (simp [go_sem] at ht;replace ht:=ht.out)))|((apply qQ rfl);(focus (go_simp<;>exact rfl));(focus (go_simp;done));(focus (intro hb0;replace hb0:=hb0.out;go_simp<;>(exact rfl)));intro X Y;go_simp;refine Y _ ?_;clear Y X)|((apply Iq rfl);(focus (go_simp<;>exact rfl));(focus (go_simp;done));(focus (intro hb0 hb1;replace hb0:=hb0.out;replace hb1:=hb1.out;go_simp<;>(exact rfl)));intro X Y;go_simp;refine Y _ ?_;clear Y X)|((apply Ir rfl);(focus (go_simp<;>exact rfl));(focus (go_simp;done));(focus (intro hb0 hb1 hb2;replace hb0:=hb0.out;replace hb1:=hb1.out;replace hb2:=hb2.out;go_simp<;>(exact rfl)));intro X Y;go_simp;refine Y _ ?_;clear Y X)|((apply Is rfl);(focus (go_simp<;>exact rfl));(focus (go_simp;done));(focus (intro hb0 hb1 hb2 hb3;replace hb0:=hb0.out;replace hb1:=hb1.out;replace hb2:=hb2.out;replace hb3:=hb3.out;go_simp<;>(exact rfl)));intro X Y;go_simp;refine Y _ ?_;clear Y X)
  ·rw [HC.out] at ht;have e:=bw.out (by simpa using ht);subst e;go_simp
  ·rw [HC.out] at ht;refine hR _ (k+1) ⟨aw,Lib.hid (iu.out (by simpa using ht))⟩ (by omega) ?_;go_simp
 ·have kE:k=s.size:=by omega
  subst kE;have e:bP s=(decide (1≤s.size)&&decide (s.size≤12)):=by unfold bP;rw [hf.out];simp
  rw [HR.out] at e;have he:=Lib.hid e;clear e;repeat' first|(with_reducible first|apply af|apply ae|apply aW|apply aq|apply aX|apply aY|apply aa|refine ah [] ?_|(apply ak;·go_simp)|(apply ab;intro X Y;go_simp;apply Y;clear Y X))|((apply qQ rfl);(focus (go_simp<;>exact rfl));(focus (go_simp;done));(focus (intro hb0;replace hb0:=hb0.out;go_simp<;>(exact rfl)));intro X Y;go_simp;refine Y _ ?_;clear Y X)
  rw [he.out];have hz:s.size=0→s=ByteArray.empty:=fun h=>by
   cases s;rename_i a;have:a=#[]:=Array.eq_empty_of_size_eq_zero h;rw [this];rfl
  have HZ:=Lib.hid hz;clear hz;go_simp;by_cases h0:s=ByteArray.empty
  ·subst h0;rfl
  ·have h1:¬s.size=0:=fun h=>h0 (HZ.out h);have h2:¬s = { data:=#[] }:=h0;have h3:(1:Nat)≤s.size:=by omega
   have h4:decide ((s.size:Int)≤12)=decide (s.size≤12):=by
    rw [Bool.eq_iff_iff,decide_eq_true_eq,decide_eq_true_eq];omega
   rw [decide_eq_false h2,decide_eq_true h3,h4];rfl
theorem ny (s:ByteArray) (hs:s.size≤9223372036854775807) : VC Tryz.prog 50 [S s] (B (bP s)):=by
 obtain ⟨R,hR⟩ : ∃ R,bP s=R:=⟨_,rfl⟩
 rw [hR];have HR:=Lib.hid hR;clear hR;refine aK Tryz.func50 rfl (by kernel_rfl) rfl fun M0 w0=>?_;simp only [Tryz.ntmps50,Tryz.results50,az];by_cases h1:s.size < 1∨12 < s.size
 ·have e:R=false:=by
   rw [←HR.out];unfold bP;rcases h1 with h|h
   ·rw [decide_eq_false (by omega)];rfl
   ·rw [show decide (s.size≤12)=false from decide_eq_false (by omega)];simp
  subst e;have hb:(decide ((s.size:Int) < 1) || decide (12 < (s.size:Int)))=true:=by simp;omega
  repeat' first|(with_reducible first|apply af|apply ae|apply aF|apply aq|apply aa|refine ah [] ?_|(apply ao;·go_simp)|(apply ab;intro X Y;go_simp;apply Y;clear Y X))|((apply qQ rfl);(focus (go_simp<;>exact rfl));(focus (go_simp;done));(focus (intro hb0;replace hb0:=hb0.out;go_simp<;>(exact rfl)));intro X Y;go_simp;refine Y _ ?_;clear Y X)
  go_simp
 ·have hb:(decide ((s.size:Int) < 1) || decide (12 < (s.size:Int)))=false:=by simp;omega
  have FN:s.size≤12:=by omega
  have e:bP s=nA s s.size:=by
   unfold bP;rw [decide_eq_true (by omega),decide_eq_true FN];rfl
  rw [HR.out] at e;have HE:=Lib.hid e;clear e;repeat' first|(with_reducible first|apply af|apply ae|apply aj|apply ar|apply aa|refine ah [] ?_|(apply ak;·go_simp)|(apply ab;intro X Y;go_simp;apply Y;clear Y X))|((apply qQ rfl);(focus (go_simp<;>exact rfl));(focus (go_simp;done));(focus (intro hb0;replace hb0:=hb0.out;go_simp<;>(exact rfl)));intro X Y;go_simp;refine Y _ ?_;clear Y X)
  ·clear hb;refine zI (α:=Nat) (fun k=>⟨[(3,I k),(0,S s)],[]⟩) (fun k=>k≤s.size∧Hid (nA s k=true)) (fun k=>s.size - k) 0 ⟨by omega,Lib.hid rfl⟩ (by go_simp) ?_;rintro k ⟨hk,hf⟩ K hR;by_cases aw:k < s.size
   ·have lk:(k:Int) < s.size:=by omega
    have hw:=cj (x:=(k:Int)+1) (by omega) (by omega);obtain ⟨x,hx⟩ : ∃ x:Int,((cR s k).toNat:Int)=x:=⟨_,rfl⟩
    have HX:=Lib.hid (It s k);have bw:Hid (jj k x=false→R=false):=Lib.hid fun h=>by
     rw [HE.out];exact Iu s aw (by rw [hx];exact h)
    have xo:((!decide (97≤x) || !decide (x≤122))&&(!decide (65≤x) || !decide (x≤90))&&(decide (k=0) || !decide (x=45)&&(decide (x < 48) || decide (57 < x)))) = !jj k x:=by
     rw [Bool.eq_iff_iff];simp [jj]
    have HC:=Lib.hid xo;have iu:Hid (jj k x=true→nA s (k+1)=true):=Lib.hid fun h=>by rw [HX.out,hf.out,hx,h];rfl
    clear xo;repeat' first|(with_reducible first|apply af|apply ae|apply aF|apply aq|apply aj|apply ar|apply aT|apply b_|apply aa|refine ah [] ?_|(apply ao;·go_simp)|(apply ab;intro X Y;go_simp;apply Y;clear Y X))|((with_reducible refine Dj ?_ (fun ht=>?_) (fun ht=>?_));(focus (go_simp;done));(all_goals (simp [go_sem] at ht;replace ht:=ht.out)))|((apply qQ rfl);(focus (go_simp<;>exact rfl));(focus (go_simp;done));(focus (intro hb0;replace hb0:=hb0.out;go_simp<;>(exact rfl)));intro X Y;go_simp;refine Y _ ?_;clear Y X)|((apply Iq rfl);(focus (go_simp<;>exact rfl));(focus (go_simp;done));(focus (intro hb0 hb1;replace hb0:=hb0.out;replace hb1:=hb1.out;go_simp<;>(exact rfl)));intro X Y;go_simp;refine Y _ ?_;clear Y X)|((apply Ir rfl);(focus (go_simp<;>exact rfl));(focus (go_simp;done));(focus (intro hb0 hb1 hb2;replace hb0:=hb0.out;replace hb1:=hb1.out;replace hb2:=hb2.out;go_simp<;>(exact rfl)));intro X Y;go_simp;refine Y _ ?_;clear Y X)|((apply Is rfl);(focus (go_simp<;>exact rfl));(focus (go_simp;done));(focus (intro hb0 hb1 hb2 hb3;replace hb0:=hb0.out;replace hb1:=hb1.out;replace hb2:=hb2.out;replace hb3:=hb3.out;go_simp<;>(exact rfl)));intro X Y;go_simp;refine Y _ ?_;clear Y X)
    ·rw [HC.out] at ht;have e:=bw.out (by simpa using ht);subst e;go_simp
    ·rw [HC.out] at ht;refine hR _ (k+1) ⟨aw,Lib.hid (iu.out (by simpa using ht))⟩ (by omega) ?_;go_simp
   ·have kE:k=s.size:=by omega
    subst kE;repeat' with_reducible first|apply af|apply ae|apply aW|apply aq|apply aX|apply aY|apply aa|refine ah [] ?_|(apply ak;·go_simp)|(apply ab;intro X Y;go_simp;apply Y;clear Y X)
    rw [HE.out,hf.out];go_simp
structure Rk where
 name:ByteArray
 places:Int
 feeder:Int
 called:Bool
instance:Inhabited Rk:=⟨⟨ByteArray.empty,0,0,false⟩⟩
@[go_sem] def Rk.av (x:Rk) : List AV:=[S x.name,I x.places,I x.feeder,B x.called]
def rat (l:List Rk) (k:Nat) : Rk:=l.getD k default
theorem Q4 {l:List Rk} {k:Nat} (h:k < l.length) : rat l k=l[k]:=by simp [rat,h]
structure Ru where
 ranks:List Rk
 back:Int
 ret:Int
abbrev ct (r:Ru) : AV:=.agg [.sl 4 (r.ranks.map Rk.av),I r.back,I r.ret]
structure Tk where
 car:ByteArray
 rank:Int
 time:Int
instance:Inhabited Tk:=⟨⟨ByteArray.empty,0,0⟩⟩
@[go_sem] def Tk.av (x:Tk) : List AV:=[S x.car,I x.rank,I x.time]
def aH (l:List Tk) (k:Nat) : Tk:=l.getD k default
theorem fe {l:List Tk} {k:Nat} (h:k < l.length) : aH l k=l[k]:=by simp [aH,h]
structure Ev where
 kind:Int
 time:Int
 rank:Int
 car:ByteArray
instance:Inhabited Ev:=⟨⟨0,0,0,ByteArray.empty⟩⟩
@[go_sem] def Ev.av (x:Ev) : List AV:=[I x.kind,I x.time,I x.rank,S x.car]
abbrev evA (x:Ev) : AV:=.agg [I x.kind,I x.time,I x.rank,S x.car]
abbrev dD (l:List Ev) : AV:=.sl 4 (l.map Ev.av)
def aO (l:List Ev) (k:Nat) : Ev:=l.getD k default
theorem rX {l:List Ev} {k:Nat} (h:k < l.length) : aO l k=l[k]:=by simp [aO,h]
structure Sg where
 kind:Int
 rank:Int
 car:ByteArray
instance:Inhabited Sg:=⟨⟨0,0,ByteArray.empty⟩⟩
@[go_sem] def Sg.av (x:Sg) : List AV:=[I x.kind,I x.rank,S x.car]
abbrev qK (l:List Sg) : AV:=.sl 3 (l.map Sg.av)
def aB (l:List Sg) (k:Nat) : Sg:=l.getD k default
theorem GK {l:List Sg} {k:Nat} (h:k < l.length) : aB l k=l[k]:=by simp [aB,h]
abbrev fr (l:List ByteArray) : AV:=.sl 1 (l.map cL)
abbrev aZ:AV:=.lit (.slice none 0 0)
def cA (q:List (List ByteArray)) : List (List (List AV)):=q.map fun l=>l.map cL
abbrev ot (q:List (List ByteArray)) : AV:=.sl 1 ((cA q).map fun l=>[.sl 1 l])
theorem Jh (q:List (List ByteArray)) : (cA q).length=q.length:=by simp [cA]
def qat (q:List (List ByteArray)) (k:Nat) : List ByteArray:=q.getD k []
theorem fo {q:List (List ByteArray)} {k:Nat} (h:k < q.length) : qat q k=q[k]:=by simp [qat,h]
theorem Q5 {q:List (List ByteArray)} {k:Nat} : (cA q).getD k []=(qat q k).map cL:=by
 unfold cA qat;rw [List.getD_eq_getElem?_getD,List.getElem?_map,List.getD_eq_getElem?_getD];cases q[k]?<;>rfl
theorem mG {q:List (List ByteArray)} {k:Nat} {l:List ByteArray} : (cA q).set k (l.map cL)=cA (q.set k l):=by
 unfold cA;rw [List.map_set]
theorem Q6 {q:List (List ByteArray)} {k:Nat} (h:k < (cA q).length) : (cA q)[k]=(qat q k).map cL:=by
 have hq:k < q.length:=by rw [←Jh];exact h
 rw [fo hq];simp [cA]
theorem Q7 {l:List Rk} {k:Nat} (h:k < l.length) : l[k]=rat l k:=(Q4 h).symm
theorem Q8 {l:List Tk} {k:Nat} (h:k < l.length) : l[k]=aH l k:=(fe h).symm
theorem Q9 {l:List Ev} {k:Nat} (h:k < l.length) : l[k]=aO l k:=(rX h).symm
theorem Q_ {l:List Sg} {k:Nat} (h:k < l.length) : l[k]=aB l k:=(GK h).symm
attribute [go_sem] Jh Q5 Q6 Q7 Q8 Q9 Q_
structure St where
 q:List (List ByteArray)
 tk:List Tk
 time:Int
abbrev ez (s:St) : AV:=.agg [ot s.q,.sl 3 (s.tk.map Tk.av),I s.time]
abbrev ug (r:Ru) (s:St) (mv:List Sg) : AV:=.vp [ot s.q,.sl 3 (s.tk.map Tk.av),I s.time,.sl 4 (r.ranks.map Rk.av),I r.back,I r.ret,.sl 3 (mv.map Sg.av)]
theorem ixs {m:Nat} (h:m≤1000000000) : IntKind.i64.wrap (m:Int)=m∧IntKind.i64.wrap ((m:Int)+1)=m+1∧((m:Int)+1).toNat=m+1∧(0:Int)≤(m:Int)+1∧(0:Int) < (m:Int)+1∧IntKind.i64.wrap ((m:Int)+1+1)=m+1+1:=
 ⟨cj (by omega) (by omega),cj (by omega) (by omega),by omega,by omega,by omega,cj (by omega) (by omega)⟩
theorem Ra:IntKind.i64.wrap 1=1:=rfl
attribute [go_sem] Ra
def cQ (p:Nat→Bool) (k n:Nat) : Bool:=(List.range n).any fun j=>p (k+j)
theorem ig {p:Nat→Bool} {k n:Nat} (hk:k < n) (h:p k=true) : cQ p 0 n=true:=by
 unfold cQ;rw [List.any_eq_true];exact ⟨k,List.mem_range.2 hk,by simpa using h⟩
theorem gI {p:Nat→Bool} {n:Nat} (h:∀ j,j < n→p j=false) : cQ p 0 n=false:=by
 unfold cQ;rw [List.any_eq_false];intro j hj;simp [h j (List.mem_range.1 hj)]
def ixP (p:Nat→Bool) (k:Nat) : Nat→Int
 | 0=>-1
 | n+1=>if p k then k else ixP p (k+1) n
theorem Ji {p:Nat→Bool} : ∀ (n k i:Nat),k≤i→i < k+n→(∀ j,k≤j→j < i→p j=false)→p i=true→ixP p k n=i
 | 0,k,i,h1,h2,_,_=>by omega
 | n+1,k,i,h1,h2,hb,hp=>by
  rw [ixP];by_cases he:k=i
  ·subst he;rw [if_pos hp]
  ·rw [if_neg (by simp [hb k (Nat.le_refl k) (by omega)])];exact Ji n (k+1) i (by omega) (by omega) (fun j h3 h4=>hb j (by omega) h4) hp
theorem gU {p:Nat→Bool} {k n:Nat} (hk:k < n) (hb:∀ j,j < k→p j=false) (hp:p k=true) : ixP p 0 n=k:=Ji n 0 k (Nat.zero_le k) (by omega) (fun j _ h=>hb j h) hp
theorem Jj {p:Nat→Bool} : ∀ (n k:Nat),(∀ j,k≤j→j < k+n→p j=false)→ixP p k n = -1
 | 0,_,_=>rfl
 | n+1,k,h=>by
  rw [ixP,if_neg (by simp [h k (Nat.le_refl k) (by omega)])];exact Jj n (k+1) fun j h1 h2=>h j (by omega) (by omega)
theorem jb {p:Nat→Bool} {n:Nat} (h:∀ j,j < n→p j=false) : ixP p 0 n = -1:=Jj n 0 fun j _ h2=>h j (by omega)
theorem qe (p:Nat→Bool) (n:Nat) : (ixP p 0 n = -1∧∀ j,j < n→p j=false)∨∃ k,k < n∧ixP p 0 n=k∧p k=true∧∀ j,j < k→p j=false:=by
 by_cases h:∀ j,j < n→p j=false
 ·exact .inl ⟨jb h,h⟩
 ·right;have hex:∃ j,j < n∧p j=true:=by
   apply Classical.byContradiction;intro hn;refine h fun j hj=>?_;cases hp:p j
   ·rfl
   ·exact absurd ⟨j,hj,hp⟩ hn
  obtain ⟨k,hk,iK⟩ : ∃ k,(k < n∧p k=true)∧∀ j,j < k→¬(j < n∧p j=true):=by
   obtain ⟨j,hj⟩:=hex;induction j using Nat.strongRecOn with
   | ind j ih=>
    by_cases h2:∃ i,i < j∧(i < n∧p i=true)
    ·obtain ⟨i,hi,eb⟩:=h2;exact ih i hi eb
    ·exact ⟨j,hj,fun i hi eb=>h2 ⟨i,hi,eb⟩⟩
  have hb:∀ j,j < k→p j=false:=fun j hj=>by
   cases hp:p j
   ·rfl
   ·exact absurd ⟨by omega,hp⟩ (iK j hj)
  exact ⟨k,hk.1,gU hk.1 hb hk.2,hk.2,hb⟩
set_option maxHeartbeats 1000000
def tat (l:List ByteArray) (k:Nat) : ByteArray:=l.getD k ByteArray.empty
theorem bc {l:List ByteArray} {k:Nat} (h:k < l.length) : tat l k=l[k]:=by simp [tat,h]
def isT (l:List ByteArray) (s:ByteArray) (j:Nat) : Bool:=decide (tat l j=s)
theorem vE (l:List ByteArray) (s:ByteArray) (hl:l.length≤1000000) : VC Tryz.prog 149 [fr l,S s] (I (ixP (isT l s) 0 l.length)):=by
 obtain ⟨R,hR⟩ : ∃ R,ixP (isT l s) 0 l.length=R:=⟨_,rfl⟩
 rw [hR];have HR:=Lib.hid hR;clear hR;refine aK Tryz.func149 rfl (by kernel_rfl) rfl fun M0 w0=>?_;simp only [Tryz.ntmps149,Tryz.results149,az];repeat' with_reducible first|apply af|apply ae|apply ar|apply aa|refine ah [] ?_|(apply ab;intro X Y;go_simp;apply Y;clear Y X)
 apply ch [0,1,7] (fun k=>[(8,I k)]) (fun k=>([] : Hp)) (isT l s) (l.length)
 ·go_simp<;>exact rfl
 ·go_simp
 ·intro k hk HB HP K hK;obtain ⟨w1,w2,w3,w4,w5,w6⟩:=ixs (m:=k) (by omega);have hp:¬s=l[k]:=fun h=>by
   have:=HP.out;rw [isT,bc hk,h] at this;simp at this
  repeat' with_reducible first|apply af|apply ae|apply aj|apply ar|apply aT|apply aa|refine ah [] ?_|(apply ao;·go_simp)|(apply ak;·go_simp)|(apply ab;intro X Y;go_simp;apply Y;clear Y X)
  refine hK _ ?_;go_simp
 ·intro k hk HB HP K;have hp:s=l[k]:=by
   have:=HP.out;rw [isT,bc hk] at this;simpa using (of_decide_eq_true this).symm
  have e:=HR.out;rw [gU hk HB.out HP.out] at e;subst e;repeat' with_reducible first|apply af|apply ae|apply aF|apply aq|apply aj|apply ar|apply b_|apply aa|refine ah [] ?_|(apply ao;·go_simp)|(apply ab;intro X Y;go_simp;apply Y;clear Y X)
  go_simp
 ·intro HB K;have e:=HR.out;rw [jb HB.out] at e;subst e;repeat (with_reducible first|apply af|apply ae|apply aW|apply aq|apply aX|apply aY|apply aa|refine ah [] ?_|(apply ak;·go_simp)|(apply ab;intro X Y;go_simp;apply Y;clear Y X))
  go_simp
def cl (r:Ru) (s:St) (k:Nat) : Bool:=decide (((qat s.q k).length:Int) < (rat r.ranks k).places)
def mP (r:Ru) (s:St) (k:Nat) : Bool:=decide ((rat r.ranks k).feeder≠-1)&&!(rat r.ranks k).called&&cl r s k&&decide (0 < (qat s.q (rat r.ranks k).feeder.toNat).length)
def nU (r:Ru) (n:Nat) : Prop:=∀ k,k < n→(rat r.ranks k).feeder≠-1→0≤(rat r.ranks k).feeder∧(rat r.ranks k).feeder.toNat < n
theorem nW (r:Ru) (s:St) (mv:List Sg) (k:Nat) (hk:k < s.q.length) (hr:r.ranks.length=s.q.length) : VC Tryz.prog 168 [ug r s mv,I (k:Int)] (B (cl r s k)):=by
 have cp:k < r.ranks.length:=by omega
 unfold cl;refine aK Tryz.func168 rfl (by kernel_rfl) rfl fun M0 w0=>?_;simp only [Tryz.ntmps168,Tryz.results168,az];repeat' first|(with_reducible first|apply af|apply ae|apply aq|apply aa|refine ah [] ?_|apply aI|((first|apply ab|apply aJ);intro X Y;go_simp;apply Y;clear Y X))|((refine aQ 20 20 [] rfl (by kernel_rfl) ?_);simp only [aA])
 go_simp
theorem Jk (r:Ru) (s:St) (mv:List Sg) (k:Nat) (hk:k < s.q.length) (hr:r.ranks.length=s.q.length) (hf:nU r s.q.length) : VC Tryz.prog 153 [ug r s mv,I (k:Int)] (B (mP r s k)):=by
 have cp:k < r.ranks.length:=by omega
 have g:=nW r s mv k hk hr;have mR:=hf k hk;unfold mP;generalize cl r s k=F at *;clear hf;by_cases h1:(rat r.ranks k).feeder = -1
 ·clear mR;refine aK Tryz.func153 rfl (by kernel_rfl) rfl fun M0 w0=>?_;simp only [Tryz.ntmps153,Tryz.results153,az];repeat' first|(with_reducible first|apply af|apply ae|apply aq|apply aa|refine ah [] ?_|apply aI|((first|apply ab|apply aJ);intro X Y;go_simp;apply Y;clear Y X))|((refine aQ 27 27 [] rfl (by kernel_rfl) ?_);simp only [aA])
  go_simp
 ·obtain ⟨f0,fl⟩:=mR h1;clear mR;obtain ⟨f,hf⟩ : ∃ f:Nat,(rat r.ranks k).feeder=f:=⟨(rat r.ranks k).feeder.toNat,by omega⟩
  rw [hf] at fl h1;simp only [Int.toNat_natCast] at fl;clear f0;cases h2:(rat r.ranks k).called
  ·cases F
   ·refine aK Tryz.func153 rfl (by kernel_rfl) rfl fun M0 w0=>?_;simp only [Tryz.ntmps153,Tryz.results153,az];repeat' first|(with_reducible first|apply af|apply ae|apply aq|apply aa|refine ah [] ?_|apply aI|((first|apply ab|apply aJ);intro X Y;go_simp;(first|(refine ⟨_,g,?_⟩)|skip);apply Y;clear Y X))|((refine aQ 27 27 [] rfl (by kernel_rfl) ?_);simp only [aA])
    go_simp
   ·refine aK Tryz.func153 rfl (by kernel_rfl) rfl fun M0 w0=>?_;simp only [Tryz.ntmps153,Tryz.results153,az];repeat' first|(with_reducible first|apply af|apply ae|apply aq|apply aa|refine ah [] ?_|apply aI|((first|apply ab|apply aJ);intro X Y;go_simp;(first|(refine ⟨_,g,?_⟩)|skip);apply Y;clear Y X))|((refine aQ 27 27 [] rfl (by kernel_rfl) ?_);simp only [aA])
    go_simp
  ·refine aK Tryz.func153 rfl (by kernel_rfl) rfl fun M0 w0=>?_;simp only [Tryz.ntmps153,Tryz.results153,az];repeat' first|(with_reducible first|apply af|apply ae|apply aq|apply aa|refine ah [] ?_|apply aI|((first|apply ab|apply aJ);intro X Y;go_simp;apply Y;clear Y X))|((refine aQ 27 27 [] rfl (by kernel_rfl) ?_);simp only [aA])
   go_simp
def dI (r:Ru) (s:St) : Int:=ixP (mP r s) 0 r.ranks.length
theorem B6 (r:Ru) (s:St) (mv:List Sg) (hl:r.ranks.length≤1000000) (hr:r.ranks.length=s.q.length) (hf:nU r s.q.length) : VC Tryz.prog 115 [ug r s mv] (I (dI r s)):=by
 obtain ⟨R,hR⟩ : ∃ R,dI r s=R:=⟨_,rfl⟩
 rw [hR];unfold dI at hR;have HR:=Lib.hid hR;have HF:=Lib.hid hf;clear hR hf;refine aK Tryz.func115 rfl (by kernel_rfl) rfl fun M0 w0=>?_;simp only [Tryz.ntmps115,Tryz.results115,az];repeat' with_reducible first|apply af|apply ae|apply ar|apply aa|refine ah [] ?_|(apply ab;intro X Y;go_simp;apply Y;clear Y X)
 apply ch [0,9] (fun k=>[(10,I k)]) (fun k=>([] : Hp)) (mP r s) (r.ranks.length)
 ·go_simp<;>exact rfl
 ·go_simp
 ·intro k hk HB HP K hK;obtain ⟨w1,w2,w3,w4,w5,w6⟩:=ixs (m:=k) (by omega);have cp:k < s.q.length:=by omega
  have g:=Jk r s mv k cp hr HF.out;rw [HP.out] at g;repeat' with_reducible first|apply af|apply ae|apply aj|apply ar|apply aT|apply aa|refine ah [] ?_|(apply ao;·go_simp)|(apply ak;·go_simp)|(apply ab;intro X Y;go_simp;(first|(refine ⟨_,g,?_⟩)|skip);apply Y;clear Y X)
  refine hK _ ?_;go_simp
 ·intro k hk HB HP K;have cp:k < s.q.length:=by omega
  have g:=Jk r s mv k cp hr HF.out;rw [HP.out] at g;have e:=HR.out;rw [gU hk HB.out HP.out] at e;subst e;repeat' with_reducible first|apply af|apply ae|apply aF|apply aq|apply aj|apply ar|apply b_|apply aa|refine ah [] ?_|(apply ao;·go_simp)|(apply ab;intro X Y;go_simp;(first|(refine ⟨_,g,?_⟩)|skip);apply Y;clear Y X)
  go_simp
 ·intro HB K;have e:=HR.out;rw [jb HB.out] at e;subst e;repeat (with_reducible first|apply af|apply ae|apply aW|apply aq|apply aX|apply aY|apply aa|refine ah [] ?_|(apply ak;·go_simp)|(apply ab;intro X Y;go_simp;apply Y;clear Y X))
  go_simp
def i_ (l:List ByteArray) (s:ByteArray) : Int:=ixP (isT l s) 0 l.length
def inQ (q:List (List ByteArray)) (s:ByteArray) (k:Nat) : Bool:=decide (0≤i_ (qat q k) s)
def fP (q:List (List ByteArray)) (s:ByteArray) : Int:=ixP (inQ q s) 0 q.length
def tr (q:List (List ByteArray)) (s:ByteArray) : AV:=if 0≤fP q s then .tup [.agg [I (fP q s),I (i_ (qat q (fP q s).toNat) s)],B true] else .tup [.agg [I 0,I 0],B false]
theorem vk (r:Ru) (s:St) (mv:List Sg) (car:ByteArray) (hl:s.q.length≤1000000) (hq:∀ k,k < s.q.length→(qat s.q k).length≤1000000) : VC Tryz.prog 158 [ug r s mv,S car] (tr s.q car):=by
 obtain ⟨R,hR⟩ : ∃ R,tr s.q car=R:=⟨_,rfl⟩
 rw [hR];have HR:=Lib.hid hR;have HQ:=Lib.hid hq;clear hR hq;refine aK Tryz.func158 rfl (by kernel_rfl) rfl fun M0 w0=>?_;simp only [Tryz.ntmps158,Tryz.results158,az];repeat' with_reducible first|apply af|apply ae|apply ar|apply aa|refine ah [] ?_|(apply ab;intro X Y;go_simp;apply Y;clear Y X)
 apply ch [1,4,13,14] (fun k=>[(15,I k)]) (fun k=>([some (.box [I 0,I 0])] : Hp)) (inQ s.q car) (s.q.length)
 ·go_simp<;>exact rfl
 ·go_simp
 ·intro k hk HB HP K hK;obtain ⟨w1,w2,w3,w4,w5,w6⟩:=ixs (m:=k) (by omega);have g:=vE (qat s.q k) car (HQ.out k hk);have hp:¬0≤ixP (isT (qat s.q k) car) 0 (qat s.q k).length:=of_decide_eq_false HP.out;generalize ixP (isT (qat s.q k) car) 0 (qat s.q k).length=E at *;repeat' with_reducible first|apply af|apply ae|apply aj|apply ar|apply aT|apply aa|refine ah [] ?_|(apply ao;·go_simp)|(apply ak;·go_simp)|(apply ab;intro X Y;go_simp;(first|(refine ⟨_,g,?_⟩)|skip);apply Y;clear Y X)
  refine hK _ ?_;go_simp
 ·intro k hk HB HP K;have g:=vE (qat s.q k) car (HQ.out k hk);have hp:0≤ixP (isT (qat s.q k) car) 0 (qat s.q k).length:=of_decide_eq_true HP.out;have e:=HR.out;have e1:fP s.q car=k:=gU hk HB.out HP.out;unfold tr at e;rw [e1,if_pos (by omega),Int.toNat_natCast,i_] at e;generalize ixP (isT (qat s.q k) car) 0 (qat s.q k).length=E at *;subst e;repeat' with_reducible first|apply af|apply ae|apply aF|apply aq|apply aj|apply ar|apply b_|apply aa|refine ah [] ?_|(apply ao;·go_simp)|(apply ab;intro X Y;go_simp;(first|(refine ⟨_,g,?_⟩)|skip);apply Y;clear Y X)
  go_simp
 ·intro HB K;have e:=HR.out;have e1:fP s.q car = -1:=jb HB.out;unfold tr at e;rw [e1,if_neg (by decide)] at e;subst e;repeat (with_reducible first|apply af|apply ae|apply aW|apply aq|apply aX|apply aY|apply aa|refine ah [] ?_|(apply ak;·go_simp)|(apply ab;intro X Y;go_simp;apply Y;clear Y X))
  go_simp
def nT (l:List Tk) (s:ByteArray) (j:Nat) : Bool:=decide ((aH l j).car=s)
def eR (l:List Tk) (s:ByteArray) : Int:=ixP (nT l s) 0 l.length
theorem Jl (x:Tk) (s:ByteArray) : VC Tryz.prog 235 [.agg [S x.car,I x.rank,I x.time],.vp [S s]] (B (decide (x.car=s))):=by
 refine aK Tryz.func235 rfl (by kernel_rfl) rfl fun M0 w0=>?_;simp only [Tryz.ntmps235,Tryz.results235,az];repeat' with_reducible first|apply af|apply ae|apply aq|apply aa|refine ah [] ?_|(apply ab;intro X Y;go_simp;apply Y;clear Y X)
 go_simp
theorem Rb (l:List Tk) (s:ByteArray) (hl:l.length≤1000000) : VC Tryz.prog 234 [.sl 3 (l.map Tk.av),.fn (.func 235) [] [.vp [S s]]] (I (eR l s)):=by
 obtain ⟨R,hR⟩ : ∃ R,eR l s=R:=⟨_,rfl⟩
 rw [hR];unfold eR at hR;have HR:=Lib.hid hR;clear hR;refine aK Tryz.func234 rfl (by kernel_rfl) rfl fun M0 w0=>?_;simp only [Tryz.ntmps234,Tryz.results234,az];repeat' with_reducible first|apply af|apply ae|apply ar|apply aa|refine ah [] ?_|(apply ab;intro X Y;go_simp;apply Y;clear Y X)
 apply ch [0,1,7] (fun k=>[(8,I k)]) (fun k=>([] : Hp)) (nT l s) (l.length)
 ·go_simp<;>exact rfl
 ·go_simp
 ·intro k hk HB HP K hK;obtain ⟨w1,w2,w3,w4,w5,w6⟩:=ixs (m:=k) (by omega);have g:=Jl (aH l k) s;have hp:=HP.out;unfold nT at hp;rw [hp] at g;clear hp;repeat' first|(with_reducible first|apply af|apply ae|apply aj|apply ar|apply aT|apply aa|refine ah [] ?_|(apply ao;·go_simp)|(apply ak;·go_simp))|((with_reducible apply ab);intro X Y;go_simp;(first|(refine ⟨_,g,?_⟩)|skip);apply Y;clear Y X)
  refine hK _ ?_;go_simp
 ·intro k hk HB HP K;have g:=Jl (aH l k) s;have hp:=HP.out;unfold nT at hp;rw [hp] at g;clear hp;have e:=HR.out;rw [gU hk HB.out HP.out] at e;subst e;repeat' first|(with_reducible first|apply af|apply ae|apply aF|apply aq|apply aj|apply ar|apply b_|apply aa|refine ah [] ?_|(apply ao;·go_simp))|((with_reducible apply ab);intro X Y;go_simp;(first|(refine ⟨_,g,?_⟩)|skip);apply Y;clear Y X)
  go_simp
 ·intro HB K;have e:=HR.out;rw [jb HB.out] at e;subst e;repeat (with_reducible first|apply af|apply ae|apply aW|apply aq|apply aX|apply aY|apply aa|refine ah [] ?_|(apply ak;·go_simp)|(apply ab;intro X Y;go_simp;apply Y;clear Y X))
  go_simp
theorem qi (r:Ru) (s:St) (mv:List Sg) (car:ByteArray) (hl:s.tk.length≤1000000) : VC Tryz.prog 230 [ug r s mv,S car] (I (eR s.tk car)):=by
 have g:=Rb s.tk car hl;generalize eR s.tk car=E at *;refine aK Tryz.func230 rfl (by kernel_rfl) rfl fun M0 w0=>?_;simp only [Tryz.ntmps230,Tryz.results230,az];repeat' first|(with_reducible first|apply af|apply ae|apply aq|apply aa|refine ah [] ?_)|((with_reducible apply ab);intro X Y;go_simp;(first|(refine ⟨_,g,?_⟩)|skip);apply Y;clear Y X)
 go_simp
def kb (q:List ByteArray) (car:ByteArray) : Int:=if q.length=0 then 12 else unl (decide (tat q 0=car)) 13
theorem xV (r:Ru) (s:St) (mv:List Sg) (x:Ev) (k:Nat) (hx:x.rank=k) (hk:k < s.q.length) : VC Tryz.prog 232 [ug r s mv,evA x] (I (kb (qat s.q k) x.car)):=by
 unfold kb;by_cases h0:(qat s.q k).length=0
 ·rw [if_pos h0];refine aK Tryz.func232 rfl (by kernel_rfl) rfl fun M0 w0=>?_;simp only [Tryz.ntmps232,Tryz.results232,az];repeat' first|(with_reducible first|apply af|apply ae|apply aF|apply aq|apply aa|refine ah [] ?_|apply aI|(apply ao;·go_simp)|((first|apply ab|apply aJ);intro X Y;go_simp;apply Y;clear Y X))|((refine aQ 10 10 [] rfl (by kernel_rfl) ?_);simp only [aA])
  go_simp
 ·rw [if_neg h0];have hp:0 < (qat s.q k).length:=by omega
  have g:=br (decide (tat (qat s.q k) 0=x.car)) 13;have ht:=bc hp;generalize unl (decide (tat (qat s.q k) 0=x.car)) 13=E at *;rw [ht] at g;refine aK Tryz.func232 rfl (by kernel_rfl) rfl fun M0 w0=>?_;simp only [Tryz.ntmps232,Tryz.results232,az];repeat' first|(with_reducible first|apply af|apply ae|apply aq|apply aj|apply aa|refine ah [] ?_|apply aI|(apply ak;·go_simp)|((first|apply ab|apply aJ);intro X Y;go_simp;(first|(refine ⟨_,g,?_⟩)|skip);apply Y;clear Y X))|((refine aQ 8 8 [] rfl (by kernel_rfl) ?_);simp only [aA])|((refine aQ 10 10 [] rfl (by kernel_rfl) ?_);simp only [aA])
  go_simp
end Go.Proofs.YtoibondihdhnoaaGreatDoor
