/- Texts in one: Walks on plain values: numbers, errors, names; texts of at most 1000 bytes. -/
import Derived.Test.YtoibondihdhnoaaGreatDoorFRY8
import Derived.Test.YtoibondihdhnoaaGreatDoorFRY5
import Derived.Test.YtoibondihdhnoaaGreatDoorFRY6
namespace Go.Proofs.YtoibondihdhnoaaGreatDoor
open Go.RowKit
set_option maxRecDepth 100000
theorem np (n lo hi:Int) : VC Tryz.prog 90 [I n,I lo,I hi] (B (inR n lo hi)):=by
 refine aJ Tryz.func90 rfl (by kernel_rfl) rfl fun M0 w0=>?_;simp only [Tryz.ntmps90,Tryz.results90,aC];repeat' first|(with_reducible first|apply af|apply ae|apply aw|apply aa|refine ah [] ?_|(apply ab;intro X Y;go_simp;apply Y;clear Y X))|((apply qS rfl);(focus (go_simp<;>exact rfl));(focus (go_simp;done));(focus (intro hb0;replace hb0:=hb0.out;go_simp<;>(exact rfl)));intro X Y;go_simp;refine Y _ ?_;clear Y X)
 all_goals (first|(go_simp;done)|(go_simp;first|(simp [inR, *];done)|(simp [inR, *];omega)|(simp [inR,] at *;omega)|(rfl)))
theorem ux (n lo hi:Int) : VC Tryz.prog 49 [I n,I lo,I hi] (B (inR n lo hi)):=by
 refine aJ Tryz.func49 rfl (by kernel_rfl) rfl fun M0 w0=>?_;simp only [Tryz.ntmps49,Tryz.results49,aC];repeat' first|(with_reducible first|apply af|apply ae|apply aw|apply aa|refine ah [] ?_|(apply ab;intro X Y;go_simp;apply Y;clear Y X))|((apply qS rfl);(focus (go_simp<;>exact rfl));(focus (go_simp;done));(focus (intro hb0;replace hb0:=hb0.out;go_simp<;>(exact rfl)));intro X Y;go_simp;refine Y _ ?_;clear Y X)
 all_goals (first|(go_simp;done)|(go_simp;first|(simp [inR, *];done)|(simp [inR, *];omega)|(simp [inR,] at *;omega)|(rfl)))
theorem bY (c:Bool) (e:Int) : VC Tryz.prog 89 [B c,I e] (I (unl c e)):=by
 refine aJ Tryz.func89 rfl (by kernel_rfl) rfl fun M0 w0=>?_;simp only [Tryz.ntmps89,Tryz.results89,aC];repeat' first|(with_reducible first|apply af|apply ae|apply aR|apply aw|apply ao|apply aa|refine ah [] ?_|(apply ab;intro X Y;go_simp;apply Y;clear Y X))|((with_reducible refine CR ?_ (fun ht=>?_) (fun ht=>?_));(focus (go_simp;done));(all_goals (simp [go_sem] at ht;replace ht:=ht.out)))
 all_goals (first|(go_simp;done)|(go_simp;first|(simp [unl, *];done)|(simp [unl, *];omega)|(simp [unl,] at *;omega)|(rfl)))
theorem Js (l:List Int) (hl:l.length≤1000) : VC Tryz.prog 88 [.sl 1 (l.map eK)] (I (fst l)):=by
 obtain ⟨R,hR⟩ : ∃ R,fst l=R:=⟨_,rfl⟩
 rw [hR];have HR:=Lib.hid hR;clear hR;refine aJ Tryz.func88 rfl (by kernel_rfl) rfl fun M0 w0=>?_;simp only [Tryz.ntmps88,Tryz.results88,aC];repeat (with_reducible first|apply af|apply ae|apply az|apply aa|refine ah [] ?_|(apply ab;intro X Y;go_simp;apply Y;clear Y X))
 refine zt (α:=Nat) (fun k=>⟨[(7,I k),(6,I l.length),(5,.sl 1 (l.map eK))],[]⟩) (fun k=>k≤l.length∧Hid (fst (l.drop k)=R)) (fun k=>l.length - k) 0 ⟨by omega,by simpa using HR⟩ (by go_simp) ?_;rintro k ⟨hk,hf⟩ K hR;by_cases aq:k < l.length
 ·have hw:=fM (x:=(k:Int)+1) (by omega) (by omega);have e:=hf.out;rw [List.drop_eq_getElem_cons aq,fst] at e;obtain ⟨x,hx⟩ : ∃ x,l[k]=x:=⟨_,rfl⟩
  rw [hx] at e;have HE:=Lib.hid e;clear e;by_cases c:x=0
  ·subst c;repeat (with_reducible first|apply af|apply ae|apply ao|apply az|apply aY|apply aa|refine ah [] ?_|(apply au;·go_simp)|(apply aj;·go_simp)|(apply ab;intro X Y;go_simp;apply Y;clear Y X))
   refine hR _ (k+1) ⟨aq,Lib.hid (by simpa using HE.out)⟩ (by omega) ?_;go_simp
  ·repeat (with_reducible first|apply af|apply ae|apply aR|apply aw|apply ao|apply az|apply cB|apply aa|refine ah [] ?_|(apply au;·go_simp)|(apply ab;intro X Y;go_simp;apply Y;clear Y X))
   have e:=HE.out;rw [if_pos c] at e;subst e;go_simp
 ·repeat (with_reducible first|apply af|apply ae|apply bE|apply aw|apply bF|apply bG|apply aa|refine ah [] ?_|(apply aj;·go_simp)|(apply ab;intro X Y;go_simp;apply Y;clear Y X))
  have e:=hf.out;rw [List.drop_eq_nil_of_le (by omega)] at e;rw [show R=0 from e.symm];go_simp
theorem tW (s:ByteArray) (hs:s.size≤1000) : VC Tryz.prog 91 [S s] (B (dj s)):=by
 obtain ⟨R,hR⟩ : ∃ R,dj s=R:=⟨_,rfl⟩
 rw [hR];have HR:=Lib.hid hR;clear hR;refine aJ Tryz.func91 rfl (by kernel_rfl) rfl fun M0 w0=>?_;simp only [Tryz.ntmps91,Tryz.results91,aC];repeat (with_reducible first|apply af|apply ae|apply az|apply aa|refine ah [] ?_|(apply ab;intro X Y;go_simp;apply Y;clear Y X))
 refine zt (α:=Nat) (fun k=>⟨[(9,I k),(8,I s.size),(7,.sl 1 ((List.range s.size).map fun i=>[.lit (.int .u8 (lI s i).toNat)])),(0,S s)],[]⟩) (fun k=>k≤s.size∧Hid (nW s k=true)) (fun k=>s.size - k) 0 ⟨by omega,Lib.hid rfl⟩ (by go_simp) ?_;rintro k ⟨hk,hf⟩ K hR;by_cases aq:k < s.size
 ·have hw:=fM (x:=(k:Int)+1) (by omega) (by omega);obtain ⟨x,hx⟩ : ∃ x:Int,((lI s k).toNat:Int)=x:=⟨_,rfl⟩
  have HX:=Lib.hid (G9 s k);have bD:Hid (nV k x=false→R=false):=Lib.hid fun h=>by
   rw [←HR.out];unfold dj;rw [G_ s aq (by rw [hx];exact h)];simp
  have xc:((!decide (97≤x) || !decide (x≤122))&&(!decide (65≤x) || !decide (x≤90))&&(decide (k=0) || !decide (x=45)&&(decide (x < 48) || decide (57 < x)))) = !nV k x:=by
   rw [Bool.eq_iff_iff];simp [nV]
  have HC:=Lib.hid xc;have oW:Hid (nV k x=true→nW s (k+1)=true):=Lib.hid fun h=>by rw [HX.out,hf.out,hx,h];rfl
  clear xc;repeat' first|(with_reducible first|apply af|apply ae|apply aR|apply aw|apply ao|apply az|apply aY|apply cB|apply aa|refine ah [] ?_|(apply au;·go_simp)|(apply ab;intro X Y;go_simp;apply Y;clear Y X))|((with_reducible refine CR ?_ (fun ht=>?_) (fun ht=>?_));(focus (go_simp;done));(all_goals (simp [go_sem] at ht;replace ht:=ht.out)))|((apply qS rfl);(focus (go_simp<;>exact rfl));(focus (go_simp;done));(focus (intro hb0;replace hb0:=hb0.out;go_simp<;>(exact rfl)));intro X Y;go_simp;refine Y _ ?_;clear Y X)|((apply G5 rfl);(focus (go_simp<;>exact rfl));(focus (go_simp;done));(focus (intro hb0 hb1;replace hb0:=hb0.out;replace hb1:=hb1.out;go_simp<;>(exact rfl)));intro X Y;go_simp;refine Y _ ?_;clear Y X)|((apply G6 rfl);(focus (go_simp<;>exact rfl));(focus (go_simp;done));(focus (intro hb0 hb1 hb2;replace hb0:=hb0.out;replace hb1:=hb1.out;replace hb2:=hb2.out;go_simp<;>(exact rfl)));intro X Y;go_simp;refine Y _ ?_;clear Y X)|((apply G7 rfl);(focus (go_simp<;>exact rfl));(focus (go_simp;done));(focus (intro hb0 hb1 hb2 hb3;replace hb0:=hb0.out;replace hb1:=hb1.out;replace hb2:=hb2.out;replace hb3:=hb3.out;go_simp<;>(exact rfl)));intro X Y;go_simp;refine Y _ ?_;clear Y X)
  ·rw [HC.out] at ht;have e:=bD.out (by simpa using ht);subst e;go_simp
  ·rw [HC.out] at ht;refine hR _ (k+1) ⟨aq,Lib.hid (oW.out (by simpa using ht))⟩ (by omega) ?_;go_simp
 ·have qR:k=s.size:=by omega
  subst qR;have e:dj s=(decide (1≤s.size)&&decide (s.size≤12)):=by unfold dj;rw [hf.out];simp
  rw [HR.out] at e;have he:=Lib.hid e;clear e;repeat' first|(with_reducible first|apply af|apply ae|apply bE|apply aw|apply bF|apply bG|apply aa|refine ah [] ?_|(apply aj;·go_simp)|(apply ab;intro X Y;go_simp;apply Y;clear Y X))|((apply qS rfl);(focus (go_simp<;>exact rfl));(focus (go_simp;done));(focus (intro hb0;replace hb0:=hb0.out;go_simp<;>(exact rfl)));intro X Y;go_simp;refine Y _ ?_;clear Y X)
  rw [he.out];have hz:s.size=0→s=ByteArray.empty:=fun h=>by
   cases s;rename_i a;have:a=#[]:=Array.eq_empty_of_size_eq_zero h;rw [this];rfl
  have HZ:=Lib.hid hz;clear hz;go_simp;by_cases h0:s=ByteArray.empty
  ·subst h0;rfl
  ·have h1:¬s.size=0:=fun h=>h0 (HZ.out h);have h2:¬s = { data:=#[] }:=h0;have h3:(1:Nat)≤s.size:=by omega
   have h4:decide ((s.size:Int)≤12)=decide (s.size≤12):=by
    rw [Bool.eq_iff_iff,decide_eq_true_eq,decide_eq_true_eq];omega
   rw [decide_eq_false h2,decide_eq_true h3,h4];rfl
theorem GM (s:ByteArray) (hs:s.size≤9223372036854775807) : VC Tryz.prog 50 [S s] (B (dj s)):=by
 obtain ⟨R,hR⟩ : ∃ R,dj s=R:=⟨_,rfl⟩
 rw [hR];have HR:=Lib.hid hR;clear hR;refine aJ Tryz.func50 rfl (by kernel_rfl) rfl fun M0 w0=>?_;simp only [Tryz.ntmps50,Tryz.results50,aC];by_cases h1:s.size < 1∨12 < s.size
 ·have e:R=false:=by
   rw [←HR.out];unfold dj;rcases h1 with h|h
   ·rw [decide_eq_false (by omega)];rfl
   ·rw [show decide (s.size≤12)=false from decide_eq_false (by omega)];simp
  subst e;have hb:(decide ((s.size:Int) < 1) || decide (12 < (s.size:Int)))=true:=by simp;omega
  repeat' first|(with_reducible first|apply af|apply ae|apply aR|apply aw|apply aa|refine ah [] ?_|(apply au;·go_simp)|(apply ab;intro X Y;go_simp;apply Y;clear Y X))|((apply qS rfl);(focus (go_simp<;>exact rfl));(focus (go_simp;done));(focus (intro hb0;replace hb0:=hb0.out;go_simp<;>(exact rfl)));intro X Y;go_simp;refine Y _ ?_;clear Y X)
  go_simp
 ·have hb:(decide ((s.size:Int) < 1) || decide (12 < (s.size:Int)))=false:=by simp;omega
  have yN:s.size≤12:=by omega
  have e:dj s=nW s s.size:=by
   unfold dj;rw [decide_eq_true (by omega),decide_eq_true yN];rfl
  rw [HR.out] at e;have HE:=Lib.hid e;clear e;repeat' first|(with_reducible first|apply af|apply ae|apply ao|apply az|apply aa|refine ah [] ?_|(apply aj;·go_simp)|(apply ab;intro X Y;go_simp;apply Y;clear Y X))|((apply qS rfl);(focus (go_simp<;>exact rfl));(focus (go_simp;done));(focus (intro hb0;replace hb0:=hb0.out;go_simp<;>(exact rfl)));intro X Y;go_simp;refine Y _ ?_;clear Y X)
  ·clear hb;refine zt (α:=Nat) (fun k=>⟨[(3,I k),(0,S s)],[]⟩) (fun k=>k≤s.size∧Hid (nW s k=true)) (fun k=>s.size - k) 0 ⟨by omega,Lib.hid rfl⟩ (by go_simp) ?_;rintro k ⟨hk,hf⟩ K hR;by_cases aq:k < s.size
   ·have iZ:(k:Int) < s.size:=by omega
    have hw:=fM (x:=(k:Int)+1) (by omega) (by omega);obtain ⟨x,hx⟩ : ∃ x:Int,((lI s k).toNat:Int)=x:=⟨_,rfl⟩
    have HX:=Lib.hid (G9 s k);have bD:Hid (nV k x=false→R=false):=Lib.hid fun h=>by
     rw [HE.out];exact G_ s aq (by rw [hx];exact h)
    have xc:((!decide (97≤x) || !decide (x≤122))&&(!decide (65≤x) || !decide (x≤90))&&(decide (k=0) || !decide (x=45)&&(decide (x < 48) || decide (57 < x)))) = !nV k x:=by
     rw [Bool.eq_iff_iff];simp [nV]
    have HC:=Lib.hid xc;have oW:Hid (nV k x=true→nW s (k+1)=true):=Lib.hid fun h=>by rw [HX.out,hf.out,hx,h];rfl
    clear xc;repeat' first|(with_reducible first|apply af|apply ae|apply aR|apply aw|apply ao|apply az|apply aY|apply cB|apply aa|refine ah [] ?_|(apply au;·go_simp)|(apply ab;intro X Y;go_simp;apply Y;clear Y X))|((with_reducible refine CR ?_ (fun ht=>?_) (fun ht=>?_));(focus (go_simp;done));(all_goals (simp [go_sem] at ht;replace ht:=ht.out)))|((apply qS rfl);(focus (go_simp<;>exact rfl));(focus (go_simp;done));(focus (intro hb0;replace hb0:=hb0.out;go_simp<;>(exact rfl)));intro X Y;go_simp;refine Y _ ?_;clear Y X)|((apply G5 rfl);(focus (go_simp<;>exact rfl));(focus (go_simp;done));(focus (intro hb0 hb1;replace hb0:=hb0.out;replace hb1:=hb1.out;go_simp<;>(exact rfl)));intro X Y;go_simp;refine Y _ ?_;clear Y X)|((apply G6 rfl);(focus (go_simp<;>exact rfl));(focus (go_simp;done));(focus (intro hb0 hb1 hb2;replace hb0:=hb0.out;replace hb1:=hb1.out;replace hb2:=hb2.out;go_simp<;>(exact rfl)));intro X Y;go_simp;refine Y _ ?_;clear Y X)|((apply G7 rfl);(focus (go_simp<;>exact rfl));(focus (go_simp;done));(focus (intro hb0 hb1 hb2 hb3;replace hb0:=hb0.out;replace hb1:=hb1.out;replace hb2:=hb2.out;replace hb3:=hb3.out;go_simp<;>(exact rfl)));intro X Y;go_simp;refine Y _ ?_;clear Y X)
    ·rw [HC.out] at ht;have e:=bD.out (by simpa using ht);subst e;go_simp
    ·rw [HC.out] at ht;refine hR _ (k+1) ⟨aq,Lib.hid (oW.out (by simpa using ht))⟩ (by omega) ?_;go_simp
   ·have qR:k=s.size:=by omega
    subst qR;repeat' with_reducible first|apply af|apply ae|apply bE|apply aw|apply bF|apply bG|apply aa|refine ah [] ?_|(apply aj;·go_simp)|(apply ab;intro X Y;go_simp;apply Y;clear Y X)
    rw [HE.out,hf.out];go_simp
structure Rk where
 name:ByteArray
 places:Int
 feeder:Int
 called:Bool
instance:Inhabited Rk:=⟨⟨ByteArray.empty,0,0,false⟩⟩
@[go_sem] def Rk.av (x:Rk) : List AV:=[S x.name,I x.places,I x.feeder,B x.called]
def rat (l:List Rk) (k:Nat) : Rk:=l.getD k default
theorem Qc {l:List Rk} {k:Nat} (h:k < l.length) : rat l k=l[k]:=by simp [rat,h]
structure Ru where
 ranks:List Rk
 back:Int
 ret:Int
abbrev bN (r:Ru) : AV:=.agg [.sl 4 (r.ranks.map Rk.av),I r.back,I r.ret]
structure Tk where
 car:ByteArray
 rank:Int
 time:Int
instance:Inhabited Tk:=⟨⟨ByteArray.empty,0,0⟩⟩
@[go_sem] def Tk.av (x:Tk) : List AV:=[S x.car,I x.rank,I x.time]
def cj (l:List Tk) (k:Nat) : Tk:=l.getD k default
theorem lk {l:List Tk} {k:Nat} (h:k < l.length) : cj l k=l[k]:=by simp [cj,h]
structure Ev where
 kind:Int
 time:Int
 rank:Int
 car:ByteArray
instance:Inhabited Ev:=⟨⟨0,0,0,ByteArray.empty⟩⟩
@[go_sem] def Ev.av (x:Ev) : List AV:=[I x.kind,I x.time,I x.rank,S x.car]
abbrev evA (x:Ev) : AV:=.agg [I x.kind,I x.time,I x.rank,S x.car]
abbrev cF (l:List Ev) : AV:=.sl 4 (l.map Ev.av)
def aB (l:List Ev) (k:Nat) : Ev:=l.getD k default
theorem kq {l:List Ev} {k:Nat} (h:k < l.length) : aB l k=l[k]:=by simp [aB,h]
structure Sg where
 kind:Int
 rank:Int
 car:ByteArray
instance:Inhabited Sg:=⟨⟨0,0,ByteArray.empty⟩⟩
@[go_sem] def Sg.av (x:Sg) : List AV:=[I x.kind,I x.rank,S x.car]
abbrev Ge (l:List Sg) : AV:=.sl 3 (l.map Sg.av)
def aI (l:List Sg) (k:Nat) : Sg:=l.getD k default
theorem y8 {l:List Sg} {k:Nat} (h:k < l.length) : aI l k=l[k]:=by simp [aI,h]
abbrev iT (l:List ByteArray) : AV:=.sl 1 (l.map bL)
abbrev bz:AV:=.lit (.slice none 0 0)
def bx (q:List (List ByteArray)) : List (List (List AV)):=q.map fun l=>l.map bL
abbrev h_ (q:List (List ByteArray)) : AV:=.sl 1 ((bx q).map fun l=>[.sl 1 l])
theorem rh (q:List (List ByteArray)) : (bx q).length=q.length:=by simp [bx]
def qat (q:List (List ByteArray)) (k:Nat) : List ByteArray:=q.getD k []
theorem gM {q:List (List ByteArray)} {k:Nat} (h:k < q.length) : qat q k=q[k]:=by simp [qat,h]
theorem Qd {q:List (List ByteArray)} {k:Nat} : (bx q).getD k []=(qat q k).map bL:=by
 unfold bx qat;rw [List.getD_eq_getElem?_getD,List.getElem?_map,List.getD_eq_getElem?_getD];cases q[k]?<;>rfl
theorem lR {q:List (List ByteArray)} {k:Nat} {l:List ByteArray} : (bx q).set k (l.map bL)=bx (q.set k l):=by
 unfold bx;rw [List.map_set]
theorem Qe {q:List (List ByteArray)} {k:Nat} (h:k < (bx q).length) : (bx q)[k]=(qat q k).map bL:=by
 have hq:k < q.length:=by rw [←rh];exact h
 rw [gM hq];simp [bx]
theorem Qf {l:List Rk} {k:Nat} (h:k < l.length) : l[k]=rat l k:=(Qc h).symm
theorem Qg {l:List Tk} {k:Nat} (h:k < l.length) : l[k]=cj l k:=(lk h).symm
theorem Qh {l:List Ev} {k:Nat} (h:k < l.length) : l[k]=aB l k:=(kq h).symm
theorem Qi {l:List Sg} {k:Nat} (h:k < l.length) : l[k]=aI l k:=(y8 h).symm
attribute [go_sem] rh Qd Qe Qf Qg Qh Qi
structure St where
 q:List (List ByteArray)
 tk:List Tk
 time:Int
abbrev dH (s:St) : AV:=.agg [h_ s.q,.sl 3 (s.tk.map Tk.av),I s.time]
abbrev uI (r:Ru) (s:St) (mv:List Sg) : AV:=.vp [h_ s.q,.sl 3 (s.tk.map Tk.av),I s.time,.sl 4 (r.ranks.map Rk.av),I r.back,I r.ret,.sl 3 (mv.map Sg.av)]
theorem ixs {m:Nat} (h:m≤1000000000) : IntKind.i64.wrap (m:Int)=m∧IntKind.i64.wrap ((m:Int)+1)=m+1∧((m:Int)+1).toNat=m+1∧(0:Int)≤(m:Int)+1∧(0:Int) < (m:Int)+1∧IntKind.i64.wrap ((m:Int)+1+1)=m+1+1:=
 ⟨fM (by omega) (by omega),fM (by omega) (by omega),by omega,by omega,by omega,fM (by omega) (by omega)⟩
theorem Qj:IntKind.i64.wrap 1=1:=rfl
attribute [go_sem] Qj
def gz (p:Nat→Bool) (k n:Nat) : Bool:=(List.range n).any fun j=>p (k+j)
theorem nB {p:Nat→Bool} {k n:Nat} (hk:k < n) (h:p k=true) : gz p 0 n=true:=by
 unfold gz;rw [List.any_eq_true];exact ⟨k,List.mem_range.2 hk,by simpa using h⟩
theorem qC {p:Nat→Bool} {n:Nat} (h:∀ j,j < n→p j=false) : gz p 0 n=false:=by
 unfold gz;rw [List.any_eq_false];intro j hj;simp [h j (List.mem_range.1 hj)]
def ixP (p:Nat→Bool) (k:Nat) : Nat→Int
 | 0=>-1
 | n+1=>if p k then k else ixP p (k+1) n
theorem Is {p:Nat→Bool} : ∀ (n k i:Nat),k≤i→i < k+n→(∀ j,k≤j→j < i→p j=false)→p i=true→ixP p k n=i
 | 0,k,i,h1,h2,_,_=>by omega
 | n+1,k,i,h1,h2,hb,hp=>by
  rw [ixP];by_cases he:k=i
  ·subst he;rw [if_pos hp]
  ·rw [if_neg (by simp [hb k (Nat.le_refl k) (by omega)])];exact Is n (k+1) i (by omega) (by omega) (fun j h3 h4=>hb j (by omega) h4) hp
theorem kp {p:Nat→Bool} {k n:Nat} (hk:k < n) (hb:∀ j,j < k→p j=false) (hp:p k=true) : ixP p 0 n=k:=Is n 0 k (Nat.zero_le k) (by omega) (fun j _ h=>hb j h) hp
theorem It {p:Nat→Bool} : ∀ (n k:Nat),(∀ j,k≤j→j < k+n→p j=false)→ixP p k n = -1
 | 0,_,_=>rfl
 | n+1,k,h=>by
  rw [ixP,if_neg (by simp [h k (Nat.le_refl k) (by omega)])];exact It n (k+1) fun j h1 h2=>h j (by omega) (by omega)
theorem kQ {p:Nat→Bool} {n:Nat} (h:∀ j,j < n→p j=false) : ixP p 0 n = -1:=It n 0 fun j _ h2=>h j (by omega)
theorem qn (p:Nat→Bool) (n:Nat) : (ixP p 0 n = -1∧∀ j,j < n→p j=false)∨∃ k,k < n∧ixP p 0 n=k∧p k=true∧∀ j,j < k→p j=false:=by
 by_cases h:∀ j,j < n→p j=false
 ·exact .inl ⟨kQ h,h⟩
 ·right;have hex:∃ j,j < n∧p j=true:=by
   apply Classical.byContradiction;intro hn;refine h fun j hj=>?_;cases hp:p j
   ·rfl
   ·exact absurd ⟨j,hj,hp⟩ hn
  obtain ⟨k,hk,iV⟩ : ∃ k,(k < n∧p k=true)∧∀ j,j < k→¬(j < n∧p j=true):=by
   obtain ⟨j,hj⟩:=hex;induction j using Nat.strongRecOn with
   | ind j ih=>
    by_cases h2:∃ i,i < j∧(i < n∧p i=true)
    ·obtain ⟨i,hi,bJ⟩:=h2;exact ih i hi bJ
    ·exact ⟨j,hj,fun i hi bJ=>h2 ⟨i,hi,bJ⟩⟩
  have hb:∀ j,j < k→p j=false:=fun j hj=>by
   cases hp:p j
   ·rfl
   ·exact absurd ⟨by omega,hp⟩ (iV j hj)
  exact ⟨k,hk.1,kp hk.1 hb hk.2,hk.2,hb⟩
set_option maxHeartbeats 1000000
def tat (l:List ByteArray) (k:Nat) : ByteArray:=l.getD k ByteArray.empty
theorem ie {l:List ByteArray} {k:Nat} (h:k < l.length) : tat l k=l[k]:=by simp [tat,h]
def isT (l:List ByteArray) (s:ByteArray) (j:Nat) : Bool:=decide (tat l j=s)
theorem vW (l:List ByteArray) (s:ByteArray) (hl:l.length≤1000000) : VC Tryz.prog 149 [iT l,S s] (I (ixP (isT l s) 0 l.length)):=by
 obtain ⟨R,hR⟩ : ∃ R,ixP (isT l s) 0 l.length=R:=⟨_,rfl⟩
 rw [hR];have HR:=Lib.hid hR;clear hR;refine aJ Tryz.func149 rfl (by kernel_rfl) rfl fun M0 w0=>?_;simp only [Tryz.ntmps149,Tryz.results149,aC];repeat' with_reducible first|apply af|apply ae|apply az|apply aa|refine ah [] ?_|(apply ab;intro X Y;go_simp;apply Y;clear Y X)
 apply ef [0,1,7] (fun k=>[(8,I k)]) (fun k=>([] : Hp)) (isT l s) (l.length)
 ·go_simp<;>exact rfl
 ·go_simp
 ·intro k hk HB HP K hK;obtain ⟨w1,w2,w3,w4,w5,w6⟩:=ixs (m:=k) (by omega);have hp:¬s=l[k]:=fun h=>by
   have:=HP.out;rw [isT,ie hk,h] at this;simp at this
  repeat' with_reducible first|apply af|apply ae|apply ao|apply az|apply aY|apply aa|refine ah [] ?_|(apply au;·go_simp)|(apply aj;·go_simp)|(apply ab;intro X Y;go_simp;apply Y;clear Y X)
  refine hK _ ?_;go_simp
 ·intro k hk HB HP K;have hp:s=l[k]:=by
   have:=HP.out;rw [isT,ie hk] at this;simpa using (of_decide_eq_true this).symm
  have e:=HR.out;rw [kp hk HB.out HP.out] at e;subst e;repeat' with_reducible first|apply af|apply ae|apply aR|apply aw|apply ao|apply az|apply cB|apply aa|refine ah [] ?_|(apply au;·go_simp)|(apply ab;intro X Y;go_simp;apply Y;clear Y X)
  go_simp
 ·intro HB K;have e:=HR.out;rw [kQ HB.out] at e;subst e;repeat (with_reducible first|apply af|apply ae|apply bE|apply aw|apply bF|apply bG|apply aa|refine ah [] ?_|(apply aj;·go_simp)|(apply ab;intro X Y;go_simp;apply Y;clear Y X))
  go_simp
def ch (r:Ru) (s:St) (k:Nat) : Bool:=decide (((qat s.q k).length:Int) < (rat r.ranks k).places)
def nj (r:Ru) (s:St) (k:Nat) : Bool:=decide ((rat r.ranks k).feeder≠-1)&&!(rat r.ranks k).called&&ch r s k&&decide (0 < (qat s.q (rat r.ranks k).feeder.toNat).length)
def ll (r:Ru) (n:Nat) : Prop:=∀ k,k < n→(rat r.ranks k).feeder≠-1→0≤(rat r.ranks k).feeder∧(rat r.ranks k).feeder.toNat < n
theorem oH (r:Ru) (s:St) (mv:List Sg) (k:Nat) (hk:k < s.q.length) (hr:r.ranks.length=s.q.length) : VC Tryz.prog 168 [uI r s mv,I (k:Int)] (B (ch r s k)):=by
 have cw:k < r.ranks.length:=by omega
 unfold ch;refine aJ Tryz.func168 rfl (by kernel_rfl) rfl fun M0 w0=>?_;simp only [Tryz.ntmps168,Tryz.results168,aC];repeat' first|(with_reducible first|apply af|apply ae|apply aw|apply aa|refine ah [] ?_|apply aP|((first|apply ab|apply aO);intro X Y;go_simp;apply Y;clear Y X))|((refine bf 20 20 [] rfl (by kernel_rfl) ?_);simp only [aA])
 go_simp
theorem Iu (r:Ru) (s:St) (mv:List Sg) (k:Nat) (hk:k < s.q.length) (hr:r.ranks.length=s.q.length) (hf:ll r s.q.length) : VC Tryz.prog 153 [uI r s mv,I (k:Int)] (B (nj r s k)):=by
 have cw:k < r.ranks.length:=by omega
 have g:=oH r s mv k hk hr;have fR:=hf k hk;unfold nj;generalize ch r s k=F at *;clear hf;by_cases h1:(rat r.ranks k).feeder = -1
 ·clear fR;refine aJ Tryz.func153 rfl (by kernel_rfl) rfl fun M0 w0=>?_;simp only [Tryz.ntmps153,Tryz.results153,aC];repeat' first|(with_reducible first|apply af|apply ae|apply aw|apply aa|refine ah [] ?_|apply aP|((first|apply ab|apply aO);intro X Y;go_simp;apply Y;clear Y X))|((refine bf 27 27 [] rfl (by kernel_rfl) ?_);simp only [aA])
  go_simp
 ·obtain ⟨f0,fl⟩:=fR h1;clear fR;obtain ⟨f,hf⟩ : ∃ f:Nat,(rat r.ranks k).feeder=f:=⟨(rat r.ranks k).feeder.toNat,by omega⟩
  rw [hf] at fl h1;simp only [Int.toNat_natCast] at fl;clear f0;cases h2:(rat r.ranks k).called
  ·cases F
   ·refine aJ Tryz.func153 rfl (by kernel_rfl) rfl fun M0 w0=>?_;simp only [Tryz.ntmps153,Tryz.results153,aC];repeat' first|(with_reducible first|apply af|apply ae|apply aw|apply aa|refine ah [] ?_|apply aP|((first|apply ab|apply aO);intro X Y;go_simp;(first|(refine ⟨_,g,?_⟩)|skip);apply Y;clear Y X))|((refine bf 27 27 [] rfl (by kernel_rfl) ?_);simp only [aA])
    go_simp
   ·refine aJ Tryz.func153 rfl (by kernel_rfl) rfl fun M0 w0=>?_;simp only [Tryz.ntmps153,Tryz.results153,aC];repeat' first|(with_reducible first|apply af|apply ae|apply aw|apply aa|refine ah [] ?_|apply aP|((first|apply ab|apply aO);intro X Y;go_simp;(first|(refine ⟨_,g,?_⟩)|skip);apply Y;clear Y X))|((refine bf 27 27 [] rfl (by kernel_rfl) ?_);simp only [aA])
    go_simp
  ·refine aJ Tryz.func153 rfl (by kernel_rfl) rfl fun M0 w0=>?_;simp only [Tryz.ntmps153,Tryz.results153,aC];repeat' first|(with_reducible first|apply af|apply ae|apply aw|apply aa|refine ah [] ?_|apply aP|((first|apply ab|apply aO);intro X Y;go_simp;apply Y;clear Y X))|((refine bf 27 27 [] rfl (by kernel_rfl) ?_);simp only [aA])
   go_simp
def di (r:Ru) (s:St) : Int:=ixP (nj r s) 0 r.ranks.length
theorem EP (r:Ru) (s:St) (mv:List Sg) (hl:r.ranks.length≤1000000) (hr:r.ranks.length=s.q.length) (hf:ll r s.q.length) : VC Tryz.prog 115 [uI r s mv] (I (di r s)):=by
 obtain ⟨R,hR⟩ : ∃ R,di r s=R:=⟨_,rfl⟩
 rw [hR];unfold di at hR;have HR:=Lib.hid hR;have HF:=Lib.hid hf;clear hR hf;refine aJ Tryz.func115 rfl (by kernel_rfl) rfl fun M0 w0=>?_;simp only [Tryz.ntmps115,Tryz.results115,aC];repeat' with_reducible first|apply af|apply ae|apply az|apply aa|refine ah [] ?_|(apply ab;intro X Y;go_simp;apply Y;clear Y X)
 apply ef [0,9] (fun k=>[(10,I k)]) (fun k=>([] : Hp)) (nj r s) (r.ranks.length)
 ·go_simp<;>exact rfl
 ·go_simp
 ·intro k hk HB HP K hK;obtain ⟨w1,w2,w3,w4,w5,w6⟩:=ixs (m:=k) (by omega);have cw:k < s.q.length:=by omega
  have g:=Iu r s mv k cw hr HF.out;rw [HP.out] at g;repeat' with_reducible first|apply af|apply ae|apply ao|apply az|apply aY|apply aa|refine ah [] ?_|(apply au;·go_simp)|(apply aj;·go_simp)|(apply ab;intro X Y;go_simp;(first|(refine ⟨_,g,?_⟩)|skip);apply Y;clear Y X)
  refine hK _ ?_;go_simp
 ·intro k hk HB HP K;have cw:k < s.q.length:=by omega
  have g:=Iu r s mv k cw hr HF.out;rw [HP.out] at g;have e:=HR.out;rw [kp hk HB.out HP.out] at e;subst e;repeat' with_reducible first|apply af|apply ae|apply aR|apply aw|apply ao|apply az|apply cB|apply aa|refine ah [] ?_|(apply au;·go_simp)|(apply ab;intro X Y;go_simp;(first|(refine ⟨_,g,?_⟩)|skip);apply Y;clear Y X)
  go_simp
 ·intro HB K;have e:=HR.out;rw [kQ HB.out] at e;subst e;repeat (with_reducible first|apply af|apply ae|apply bE|apply aw|apply bF|apply bG|apply aa|refine ah [] ?_|(apply aj;·go_simp)|(apply ab;intro X Y;go_simp;apply Y;clear Y X))
  go_simp
def fj (l:List ByteArray) (s:ByteArray) : Int:=ixP (isT l s) 0 l.length
def inQ (q:List (List ByteArray)) (s:ByteArray) (k:Nat) : Bool:=decide (0≤fj (qat q k) s)
def dZ (q:List (List ByteArray)) (s:ByteArray) : Int:=ixP (inQ q s) 0 q.length
def tT (q:List (List ByteArray)) (s:ByteArray) : AV:=if 0≤dZ q s then .tup [.agg [I (dZ q s),I (fj (qat q (dZ q s).toNat) s)],B true] else .tup [.agg [I 0,I 0],B false]
theorem vH (r:Ru) (s:St) (mv:List Sg) (car:ByteArray) (hl:s.q.length≤1000000) (hq:∀ k,k < s.q.length→(qat s.q k).length≤1000000) : VC Tryz.prog 158 [uI r s mv,S car] (tT s.q car):=by
 obtain ⟨R,hR⟩ : ∃ R,tT s.q car=R:=⟨_,rfl⟩
 rw [hR];have HR:=Lib.hid hR;have HQ:=Lib.hid hq;clear hR hq;refine aJ Tryz.func158 rfl (by kernel_rfl) rfl fun M0 w0=>?_;simp only [Tryz.ntmps158,Tryz.results158,aC];repeat' with_reducible first|apply af|apply ae|apply az|apply aa|refine ah [] ?_|(apply ab;intro X Y;go_simp;apply Y;clear Y X)
 apply ef [1,4,13,14] (fun k=>[(15,I k)]) (fun k=>([some (.box [I 0,I 0])] : Hp)) (inQ s.q car) (s.q.length)
 ·go_simp<;>exact rfl
 ·go_simp
 ·intro k hk HB HP K hK;obtain ⟨w1,w2,w3,w4,w5,w6⟩:=ixs (m:=k) (by omega);have g:=vW (qat s.q k) car (HQ.out k hk);have hp:¬0≤ixP (isT (qat s.q k) car) 0 (qat s.q k).length:=of_decide_eq_false HP.out;generalize ixP (isT (qat s.q k) car) 0 (qat s.q k).length=E at *;repeat' with_reducible first|apply af|apply ae|apply ao|apply az|apply aY|apply aa|refine ah [] ?_|(apply au;·go_simp)|(apply aj;·go_simp)|(apply ab;intro X Y;go_simp;(first|(refine ⟨_,g,?_⟩)|skip);apply Y;clear Y X)
  refine hK _ ?_;go_simp
 ·intro k hk HB HP K;have g:=vW (qat s.q k) car (HQ.out k hk);have hp:0≤ixP (isT (qat s.q k) car) 0 (qat s.q k).length:=of_decide_eq_true HP.out;have e:=HR.out;have e1:dZ s.q car=k:=kp hk HB.out HP.out;unfold tT at e;rw [e1,if_pos (by omega),Int.toNat_natCast,fj] at e;generalize ixP (isT (qat s.q k) car) 0 (qat s.q k).length=E at *;subst e;repeat' with_reducible first|apply af|apply ae|apply aR|apply aw|apply ao|apply az|apply cB|apply aa|refine ah [] ?_|(apply au;·go_simp)|(apply ab;intro X Y;go_simp;(first|(refine ⟨_,g,?_⟩)|skip);apply Y;clear Y X)
  go_simp
 ·intro HB K;have e:=HR.out;have e1:dZ s.q car = -1:=kQ HB.out;unfold tT at e;rw [e1,if_neg (by decide)] at e;subst e;repeat (with_reducible first|apply af|apply ae|apply bE|apply aw|apply bF|apply bG|apply aa|refine ah [] ?_|(apply aj;·go_simp)|(apply ab;intro X Y;go_simp;apply Y;clear Y X))
  go_simp
def ni (l:List Tk) (s:ByteArray) (j:Nat) : Bool:=decide ((cj l j).car=s)
def eL (l:List Tk) (s:ByteArray) : Int:=ixP (ni l s) 0 l.length
theorem Iv (x:Tk) (s:ByteArray) : VC Tryz.prog 235 [.agg [S x.car,I x.rank,I x.time],.vp [S s]] (B (decide (x.car=s))):=by
 refine aJ Tryz.func235 rfl (by kernel_rfl) rfl fun M0 w0=>?_;simp only [Tryz.ntmps235,Tryz.results235,aC];repeat' with_reducible first|apply af|apply ae|apply aw|apply aa|refine ah [] ?_|(apply ab;intro X Y;go_simp;apply Y;clear Y X)
 go_simp
theorem Qk (l:List Tk) (s:ByteArray) (hl:l.length≤1000000) : VC Tryz.prog 234 [.sl 3 (l.map Tk.av),.fn (.func 235) [] [.vp [S s]]] (I (eL l s)):=by
 obtain ⟨R,hR⟩ : ∃ R,eL l s=R:=⟨_,rfl⟩
 rw [hR];unfold eL at hR;have HR:=Lib.hid hR;clear hR;refine aJ Tryz.func234 rfl (by kernel_rfl) rfl fun M0 w0=>?_;simp only [Tryz.ntmps234,Tryz.results234,aC];repeat' with_reducible first|apply af|apply ae|apply az|apply aa|refine ah [] ?_|(apply ab;intro X Y;go_simp;apply Y;clear Y X)
 apply ef [0,1,7] (fun k=>[(8,I k)]) (fun k=>([] : Hp)) (ni l s) (l.length)
 ·go_simp<;>exact rfl
 ·go_simp
 ·intro k hk HB HP K hK;obtain ⟨w1,w2,w3,w4,w5,w6⟩:=ixs (m:=k) (by omega);have g:=Iv (cj l k) s;have hp:=HP.out;unfold ni at hp;rw [hp] at g;clear hp;repeat' first|(with_reducible first|apply af|apply ae|apply ao|apply az|apply aY|apply aa|refine ah [] ?_|(apply au;·go_simp)|(apply aj;·go_simp))|((with_reducible apply ab);intro X Y;go_simp;(first|(refine ⟨_,g,?_⟩)|skip);apply Y;clear Y X)
  refine hK _ ?_;go_simp
 ·intro k hk HB HP K;have g:=Iv (cj l k) s;have hp:=HP.out;unfold ni at hp;rw [hp] at g;clear hp;have e:=HR.out;rw [kp hk HB.out HP.out] at e;subst e;repeat' first|(with_reducible first|apply af|apply ae|apply aR|apply aw|apply ao|apply az|apply cB|apply aa|refine ah [] ?_|(apply au;·go_simp))|((with_reducible apply ab);intro X Y;go_simp;(first|(refine ⟨_,g,?_⟩)|skip);apply Y;clear Y X)
  go_simp
 ·intro HB K;have e:=HR.out;rw [kQ HB.out] at e;subst e;repeat (with_reducible first|apply af|apply ae|apply bE|apply aw|apply bF|apply bG|apply aa|refine ah [] ?_|(apply aj;·go_simp)|(apply ab;intro X Y;go_simp;apply Y;clear Y X))
  go_simp
theorem qq (r:Ru) (s:St) (mv:List Sg) (car:ByteArray) (hl:s.tk.length≤1000000) : VC Tryz.prog 230 [uI r s mv,S car] (I (eL s.tk car)):=by
 have g:=Qk s.tk car hl;generalize eL s.tk car=E at *;refine aJ Tryz.func230 rfl (by kernel_rfl) rfl fun M0 w0=>?_;simp only [Tryz.ntmps230,Tryz.results230,aC];repeat' first|(with_reducible first|apply af|apply ae|apply aw|apply aa|refine ah [] ?_)|((with_reducible apply ab);intro X Y;go_simp;(first|(refine ⟨_,g,?_⟩)|skip);apply Y;clear Y X)
 go_simp
def gL (q:List ByteArray) (car:ByteArray) : Int:=if q.length=0 then 12 else unl (decide (tat q 0=car)) 13
theorem xK (r:Ru) (s:St) (mv:List Sg) (x:Ev) (k:Nat) (hx:x.rank=k) (hk:k < s.q.length) : VC Tryz.prog 232 [uI r s mv,evA x] (I (gL (qat s.q k) x.car)):=by
 unfold gL;by_cases h0:(qat s.q k).length=0
 ·rw [if_pos h0];refine aJ Tryz.func232 rfl (by kernel_rfl) rfl fun M0 w0=>?_;simp only [Tryz.ntmps232,Tryz.results232,aC];repeat' first|(with_reducible first|apply af|apply ae|apply aR|apply aw|apply aa|refine ah [] ?_|apply aP|(apply au;·go_simp)|((first|apply ab|apply aO);intro X Y;go_simp;apply Y;clear Y X))|((refine bf 10 10 [] rfl (by kernel_rfl) ?_);simp only [aA])
  go_simp
 ·rw [if_neg h0];have hp:0 < (qat s.q k).length:=by omega
  have g:=bY (decide (tat (qat s.q k) 0=x.car)) 13;have ht:=ie hp;generalize unl (decide (tat (qat s.q k) 0=x.car)) 13=E at *;rw [ht] at g;refine aJ Tryz.func232 rfl (by kernel_rfl) rfl fun M0 w0=>?_;simp only [Tryz.ntmps232,Tryz.results232,aC];repeat' first|(with_reducible first|apply af|apply ae|apply aw|apply ao|apply aa|refine ah [] ?_|apply aP|(apply aj;·go_simp)|((first|apply ab|apply aO);intro X Y;go_simp;(first|(refine ⟨_,g,?_⟩)|skip);apply Y;clear Y X))|((refine bf 8 8 [] rfl (by kernel_rfl) ?_);simp only [aA])|((refine bf 10 10 [] rfl (by kernel_rfl) ?_);simp only [aA])
  go_simp
end Go.Proofs.YtoibondihdhnoaaGreatDoor
