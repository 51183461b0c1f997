/- Texts in one: Walks: an event is read. -/
import Derived.Test.YtoibondihdhnoaaGreatDoorFRZ8
import Derived.Test.YtoibondihdhnoaaGreatDoorFRZ39
import Derived.Test.YtoibondihdhnoaaGreatDoorFRZ14
import Derived.Test.YtoibondihdhnoaaGreatDoorFRZ38
namespace Go.Proofs.YtoibondihdhnoaaGreatDoor
open Go.RowKit
set_option maxRecDepth 100000
set_option maxHeartbeats 2000000
abbrev Kd:Type:=ByteArray×Value
def CQ (q:Kd) : List AV:=[S q.1,.lit q.2]
attribute [go_sem] CQ
def ji (l:List Kd) (k:Nat) : Kd:=l.getD k (ByteArray.empty,undef)
theorem CR {l:List Kd} {k:Nat} (h:k < l.length) : ji l k=l[k]:=by simp [ji,h]
theorem Nx {l:List Kd} {k:Nat} (h:k < l.length) : l[k]=ji l k:=(CR h).symm
attribute [go_sem] Nx
def kdL:List Kd:=[(⟨#[97,114,114,105,118,101]⟩,.func (.func 224) #[] #[]),(⟨#[115,101,114,118,101]⟩,.func (.func 225) #[] #[]),(⟨#[100,101,99,108,105,110,101]⟩,.func (.func 226) #[] #[]),(⟨#[108,101,97,118,101]⟩,.func (.func 227) #[] #[]),(⟨#[99,97,108,108]⟩,.func (.func 228) #[] #[]),(⟨#[114,101,116,117,114,110]⟩,.func (.func 229) #[] #[])]
theorem G9 (q:Kd) (w:List ByteArray) (h:0 < w.length) (h1:cY (.lit q.2)=true) : VC Tryz.prog 108 [.agg [S q.1,.lit q.2],.vp [fr w]] (B (decide (q.1=tat w 0))):=by
 have e:w[0]=tat w 0:=(bc h).symm;obtain ⟨a,v⟩:=q;simp only at h1 ⊢;refine aK Tryz.func108 rfl (by kernel_rfl) rfl fun M0 w0=>?_;simp only [Tryz.ntmps108,Tryz.results108,az];repeat' first|(with_reducible first|apply af|apply ae|apply aq|apply aa|refine ah [] ?_|apply aI|((first|apply ab|apply aJ);intro X Y;go_simp;apply Y;clear Y X))|((refine aQ 7 7 [] rfl (by kernel_rfl) ?_);simp only [aA])
 go_simp
theorem Ny (l:List Kd) (w:List ByteArray) (hw:0 < w.length) (hl:l.length≤1000000) (h1:∀ q∈l,cY (.lit q.2)=true) : VC Tryz.prog 107 [.sl 2 (l.map CQ),.fn (.func 108) [] [.vp [fr w]]] (I (ixP (fun j=>decide ((ji l j).1=tat w 0)) 0 l.length)):=by
 obtain ⟨R,hR⟩ : ∃ R,ixP (fun j=>decide ((ji l j).1=tat w 0)) 0 l.length=R:=⟨_,rfl⟩
 rw [hR];have HR:=Lib.hid hR;have H1:=Lib.hid h1;clear hR h1;refine aK Tryz.func107 rfl (by kernel_rfl) rfl fun M0 w0=>?_;simp only [Tryz.ntmps107,Tryz.results107,az];repeat' with_reducible first|apply af|apply ae|apply ar|apply aa|refine ah [] ?_|(apply ab;intro X Y;go_simp;apply Y;clear Y X)
 apply ch [0,1,7] (fun k=>[(8,I k)]) (fun k=>([] : Hp)) (fun j=>decide ((ji l j).1=tat w 0)) (l.length)
 ·go_simp<;>exact rfl
 ·go_simp
 ·intro k hk HB HP K hK;obtain ⟨w1,w2,w3,w4,w5,w6⟩:=ixs (m:=k) (by omega);have ho:=H1.out _ (by rw [CR hk];exact List.getElem_mem hk:ji l k∈l);have g:=G9 (ji l k) w hw ho;have hp:=HP.out;rw [hp] at g;clear hp;repeat' first|(with_reducible first|apply af|apply ae|apply aj|apply ar|apply aT|apply aa|refine ah [] ?_|(apply ao;·go_simp)|(apply ak;·go_simp))|((with_reducible apply ab);intro X Y;go_simp;(first|(refine ⟨_,g,?_⟩)|skip);apply Y;clear Y X)
  refine hK _ ?_;go_simp
 ·intro k hk HB HP K;have ho:=H1.out _ (by rw [CR hk];exact List.getElem_mem hk:ji l k∈l);have g:=G9 (ji l k) w hw ho;have hp:=HP.out;rw [hp] at g;clear hp;have e:=HR.out;rw [gU hk HB.out HP.out] at e;subst e;repeat' first|(with_reducible first|apply af|apply ae|apply aF|apply aq|apply aj|apply ar|apply b_|apply aa|refine ah [] ?_|(apply ao;·go_simp))|((with_reducible apply ab);intro X Y;go_simp;(first|(refine ⟨_,g,?_⟩)|skip);apply Y;clear Y X)
  go_simp
 ·intro HB K;have e:=HR.out;rw [jb HB.out] at e;subst e;repeat (with_reducible first|apply af|apply ae|apply aW|apply aq|apply aX|apply aY|apply aa|refine ah [] ?_|(apply ak;·go_simp)|(apply ab;intro X Y;go_simp;apply Y;clear Y X))
  go_simp
theorem G_ (l:List ByteArray) (x:ByteArray) (hl:l.length≤1000000) : VC Tryz.prog 106 [fr l,S x] (B (cQ (isT l x) 0 l.length)):=by
 have g:=vE l x hl;rw [←y7];generalize ixP (isT l x) 0 l.length=R at *;refine aK Tryz.func106 rfl (by kernel_rfl) rfl fun M0 w0=>?_;simp only [Tryz.ntmps106,Tryz.results106,az];repeat' with_reducible first|apply af|apply ae|apply aq|apply aa|refine ah [] ?_|(apply ab;intro X Y;go_simp;(first|(refine ⟨_,g,?_⟩)|skip);apply Y;clear Y X)
 go_simp
def nv:Ev:=⟨0,0,0,⟨#[]⟩⟩
def jA (a:ByteArray) : Int:=ixP (fun j=>decide ((ji kdL j).1=a)) 0 6
def sq (w:List ByteArray) : Int:=
 fst [unl (decide (0≤jA (tat w 0))&&jd (tat w 1).data.toList&&jd (tat w 2).data.toList) 7,unl (!decide (jA (tat w 0)=4) || decide (tat w 3=⟨#[45]⟩)) 3,unl (decide (jA (tat w 0)=4) || bP (tat w 3)) 4]
def lQ (w:List ByteArray) : Bool:=!decide (w.length=4) || cQ (isT w ⟨#[]⟩) 0 w.length
def evP (w:List ByteArray) : Ev×Int:=
 if lQ w=true then (nv,7) else if sq w≠0 then (nv,sq w) else (⟨jA (tat w 0),je (tat w 1).data.toList,je (tat w 2).data.toList,if jA (tat w 0)=4 then ⟨#[]⟩ else tat w 3⟩,0)
theorem Nz (s:ByteArray) (hs:s.size≤1000) (hb:lQ (aP 32 s)=true) : VC Tryz.prog 46 [S s] (.tup [evA nv,I 7]):=by
 have g1:=qI s 32 (by omega);have cP:=mi 32 s;have g2:=G_ (aP 32 s) ⟨#[]⟩ (by omega);unfold lQ at hb;unfold nv;generalize aP 32 s=w at *;by_cases h4:w.length=4
 ·rw [decide_eq_true h4,Bool.not_true,Bool.false_or] at hb;rw [hb] at g2;have h5:(w.length:Int)=4:=by omega
  clear hb cP;refine aK Tryz.func46 rfl (by kernel_rfl) rfl fun M0 w0=>?_;simp only [Tryz.ntmps46,Tryz.results46,az];repeat' with_reducible first|apply af|apply ae|apply aF|apply aq|apply aa|refine ah [] ?_|(apply ao;·go_simp)|(apply ab;intro X Y;go_simp;(first|(refine ⟨_,g1,?_⟩)|(refine ⟨_,g2,?_⟩)|skip);apply Y;clear Y X)
  all_goals go_simp
 ·have h5:¬(w.length:Int)=4:=by omega
  clear hb cP;refine aK Tryz.func46 rfl (by kernel_rfl) rfl fun M0 w0=>?_;simp only [Tryz.ntmps46,Tryz.results46,az];repeat' with_reducible first|apply af|apply ae|apply aF|apply aq|apply aa|refine ah [] ?_|(apply ao;·go_simp)|(apply ab;intro X Y;go_simp;(first|(refine ⟨_,g1,?_⟩)|skip);apply Y;clear Y X)
  all_goals go_simp
theorem CS (s:ByteArray) (hs:s.size≤1000) : VC Tryz.prog 46 [S s] (.tup [evA (evP (aP 32 s)).1,I (evP (aP 32 s)).2]):=by
 by_cases hb:lQ (aP 32 s)=true
 ·have h:=Nz s hs hb;unfold evP;rw [if_pos hb];exact h
 unfold evP;rw [if_neg hb];have g1:=qI s 32 (by omega);have cP:=mi 32 s;have g2:=G_ (aP 32 s) ⟨#[]⟩ (by omega);have dE:∀ p∈aP 32 s,p.size≤1000:=fun p hp=>Nat.le_trans (lM hp) hs;unfold lQ at hb;generalize aP 32 s=w at *;have h4:w.length=4:=by
  by_cases h:w.length=4
  ·exact h
  ·rw [decide_eq_false h] at hb;simp at hb
 have b9:cQ (isT w ⟨#[]⟩) 0 w.length=false:=by
  rw [decide_eq_true h4] at hb;simpa using hb
 rw [b9] at g2;have h5:(w.length:Int)=4:=by omega
 have a1:w[1]=tat w 1:=(bc (by omega)).symm;have a2:w[2]=tat w 2:=(bc (by omega)).symm;have a3:w[3]=tat w 3:=(bc (by omega)).symm;have z1:(tat w 1).size≤1000:=by rw [←a1];exact dE _ (List.getElem_mem _)
 have z2:(tat w 2).size≤1000:=by rw [←a2];exact dE _ (List.getElem_mem _)
 have z3:(tat w 3).size≤1000:=by rw [←a3];exact dE _ (List.getElem_mem _)
 have g3:VC Tryz.prog 107 [.sl 2 (kdL.map CQ),.fn (.func 108) [] [.vp [fr w]]] (I (jA (tat w 0))):=Ny kdL w (by omega) (by decide) (fun q hq=>by
  simp only [kdL,List.mem_cons,List.not_mem_nil,or_false] at hq;rcases hq with rfl|rfl|rfl|rfl|rfl|rfl<;>rfl)
 have g4:=og (tat w 1) (by omega);have g5:=og (tat w 2) (by omega);have g6:=rL (tat w 3) z3;have u1:=br (decide (0≤jA (tat w 0))&&jd (tat w 1).data.toList&&jd (tat w 2).data.toList) 7;have u2:=br (!decide (jA (tat w 0)=4) || decide (tat w 3=⟨#[45]⟩)) 3;have u3:=br (decide (jA (tat w 0)=4) || bP (tat w 3)) 4;have g7:VC Tryz.prog 88 [.sl 1 ([unl (decide (0≤jA (tat w 0))&&jd (tat w 1).data.toList&&jd (tat w 2).data.toList) 7,unl (!decide (jA (tat w 0)=4) || decide (tat w 3=⟨#[45]⟩)) 3,unl (decide (jA (tat w 0)=4) || bP (tat w 3)) 4].map dk)] (I (sq w)):=dW _ rfl rfl;generalize sq w=E at *;generalize jd (tat w 1).data.toList=O1 at *;generalize jd (tat w 2).data.toList=O2 at *;generalize je (tat w 1).data.toList=N1 at *;generalize je (tat w 2).data.toList=N2 at *;generalize bP (tat w 3)=D3 at *;unfold nv;generalize jA (tat w 0)=KI at *;clear b9 hb dE cP z1 z2 z3;refine aK Tryz.func46 rfl (by kernel_rfl) rfl fun M0 w0=>?_;simp only [Tryz.ntmps46,Tryz.results46,az];repeat' with_reducible apply af
 refine ah [] ?_;repeat' with_reducible first|apply af|apply ae|apply aa|(apply ab;intro X Y;go_simp;apply Y;clear Y X)
 refine ah [] ?_;repeat' with_reducible first|apply af|apply ae|apply aa|(apply ab;intro X Y;go_simp;(first|(refine ⟨_,g1,?_⟩)|skip);apply Y;clear Y X)
 refine ah [] ?_;repeat' first|(with_reducible first|apply af|apply ae|apply aj|apply aa|(apply ak;·go_simp)|(apply ab;intro X Y;go_simp;apply Y;clear Y X))|((apply qQ rfl);(focus (go_simp<;>exact rfl));(focus (go_simp;done));(focus (intro hb0;replace hb0:=hb0.out;go_simp<;>(exact g2)));intro X Y;go_simp;refine Y _ ?_;clear Y X)
 refine ec (J3 rfl rfl NA rfl (by decide) rfl (by decide) rfl ?_);refine bM [] 3 ⟨rfl,rfl⟩ ?_;simp only [aA];repeat' first|with_reducible apply aa|((with_reducible apply ab);intro X Y;go_simp;(first|(refine ⟨_,⟨g3,rfl⟩,?_⟩)|skip);apply Y;clear Y X)
 apply c_;clear g1 g2 g3;have hE:∀ (a b:Ev),((if E≠0 then (a,E) else (b,0))=if E=0 then (b,0) else (a,E)):=fun a b=>by
  by_cases h:E=0
  ·rw [if_pos h,if_neg (by simp [h])]
  ·rw [if_neg h,if_pos h]
 rw [hE];clear hE;by_cases qa:KI=4
 ·subst qa;have d0:decide ((0:Int)≤4)=true:=rfl;have d1:decide ((4:Int)=4)=true:=rfl;rw [d0,Bool.true_and] at u1;rw [d1,Bool.not_true,Bool.false_or] at u2;rw [d1,Bool.true_or] at u3;rw [d0,d1,Bool.true_and,Bool.not_true,Bool.false_or,Bool.true_or] at g7;rw [if_pos rfl];generalize unl true 4=A3 at *;generalize unl (decide (tat w 3=⟨#[45]⟩)) 3=A2 at *;clear d0 d1;by_cases he:E=0
  ·subst he;rw [if_pos rfl];cases O1<;>cases O2;all_goals simp only [Bool.true_and,Bool.false_and] at u1 g7
   all_goals generalize unl _ 7=A1 at *
   all_goals
    repeat' first|(with_reducible first|apply af|apply ae|apply aq|apply aj|apply aa|refine ah [] ?_|(apply ao;·go_simp)|(apply ak;·go_simp))|((with_reducible apply ab);intro X Y;go_simp;(first|(with_reducible refine ⟨_,g4,?_⟩)|(with_reducible refine ⟨_,g5,?_⟩)|(with_reducible refine ⟨_,u1,?_⟩)|(with_reducible refine ⟨_,u2,?_⟩)|(with_reducible refine ⟨_,u3,?_⟩)|(refine ⟨_,g7,?_⟩)|skip);apply Y;clear Y X)
    go_simp
  ·rw [if_neg he];cases O1<;>cases O2;all_goals simp only [Bool.true_and,Bool.false_and] at u1 g7
   all_goals generalize unl _ 7=A1 at *
   all_goals
    repeat' first|(with_reducible first|apply af|apply ae|apply aF|apply aq|apply aa|refine ah [] ?_|(apply ao;·go_simp))|((with_reducible apply ab);intro X Y;go_simp;(first|(with_reducible refine ⟨_,g4,?_⟩)|(with_reducible refine ⟨_,g5,?_⟩)|(with_reducible refine ⟨_,u1,?_⟩)|(with_reducible refine ⟨_,u2,?_⟩)|(with_reducible refine ⟨_,u3,?_⟩)|(refine ⟨_,g7,?_⟩)|skip);apply Y;clear Y X)
    go_simp
 ·rw [decide_eq_false qa,Bool.not_false,Bool.true_or] at u2;rw [decide_eq_false qa,Bool.false_or] at u3;rw [decide_eq_false qa,Bool.not_false,Bool.true_or,Bool.false_or] at g7;rw [if_neg qa];generalize unl true 3=A2 at *;generalize unl D3 4=A3 at *;by_cases h0:0≤KI
  ·rw [decide_eq_true h0,Bool.true_and] at u1 g7;by_cases he:E=0
   ·subst he;rw [if_pos rfl];cases O1<;>cases O2;all_goals simp only [Bool.true_and,Bool.false_and] at u1 g7
    all_goals generalize unl _ 7=A1 at *
    all_goals
     repeat' first|(with_reducible first|apply af|apply ae|apply aq|apply aj|apply aa|refine ah [] ?_|(apply ak;·go_simp))|((with_reducible apply ab);intro X Y;go_simp;(first|(with_reducible refine ⟨_,g4,?_⟩)|(with_reducible refine ⟨_,g5,?_⟩)|(with_reducible refine ⟨_,g6,?_⟩)|(with_reducible refine ⟨_,u1,?_⟩)|(with_reducible refine ⟨_,u2,?_⟩)|(with_reducible refine ⟨_,u3,?_⟩)|(refine ⟨_,g7,?_⟩)|skip);apply Y;clear Y X)
     go_simp
   ·rw [if_neg he];cases O1<;>cases O2;all_goals simp only [Bool.true_and,Bool.false_and] at u1 g7
    all_goals generalize unl _ 7=A1 at *
    all_goals
     repeat' first|(with_reducible first|apply af|apply ae|apply aF|apply aq|apply aa|refine ah [] ?_|(apply ao;·go_simp))|((with_reducible apply ab);intro X Y;go_simp;(first|(with_reducible refine ⟨_,g4,?_⟩)|(with_reducible refine ⟨_,g5,?_⟩)|(with_reducible refine ⟨_,g6,?_⟩)|(with_reducible refine ⟨_,u1,?_⟩)|(with_reducible refine ⟨_,u2,?_⟩)|(with_reducible refine ⟨_,u3,?_⟩)|(refine ⟨_,g7,?_⟩)|skip);apply Y;clear Y X)
     go_simp
  ·rw [decide_eq_false h0,Bool.false_and,Bool.false_and] at u1 g7;generalize unl false 7=A1 at *;by_cases he:E=0
   ·subst he;rw [if_pos rfl];repeat' first|(with_reducible first|apply af|apply ae|apply aq|apply aj|apply aa|refine ah [] ?_|(apply ak;·go_simp))|((with_reducible apply ab);intro X Y;go_simp;(first|(with_reducible refine ⟨_,g4,?_⟩)|(with_reducible refine ⟨_,g5,?_⟩)|(with_reducible refine ⟨_,g6,?_⟩)|(with_reducible refine ⟨_,u1,?_⟩)|(with_reducible refine ⟨_,u2,?_⟩)|(with_reducible refine ⟨_,u3,?_⟩)|(refine ⟨_,g7,?_⟩)|skip);apply Y;clear Y X)
    go_simp
   ·rw [if_neg he];repeat' first|(with_reducible first|apply af|apply ae|apply aF|apply aq|apply aa|refine ah [] ?_|(apply ao;·go_simp))|((with_reducible apply ab);intro X Y;go_simp;(first|(with_reducible refine ⟨_,g4,?_⟩)|(with_reducible refine ⟨_,g5,?_⟩)|(with_reducible refine ⟨_,g6,?_⟩)|(with_reducible refine ⟨_,u1,?_⟩)|(with_reducible refine ⟨_,u2,?_⟩)|(with_reducible refine ⟨_,u3,?_⟩)|(refine ⟨_,g7,?_⟩)|skip);apply Y;clear Y X)
    go_simp
theorem pq {a b:ByteArray} (h:bl a=bl b) : a=b:=by
 have:a.data=b.data:=Array.toList_inj.1 h;cases a;cases b;simpa using this
theorem zx (a b:ByteArray) : bl (a++b)=bl a++bl b:=by
 show (a++b).data.toList=a.data.toList++b.data.toList;rw [ByteArray.data_append,Array.toList_append]
theorem Ha (n:Int) : bl (ca n)=Lib.itoa n:=rfl
theorem sr (l:List ByteArray) (s:ByteArray) : bl (cN l s)=Lib.join (l.map bl) (bl s):=rfl
theorem ss {c:UInt8} (n:Int) (h1:c≠45) (h2:isD c=false) : c∉bl (ca n):=by
 have hd:∀ m:Nat,c∉Lib.decDigits m:=fun m hm=>by
  have:=List.all_eq_true.1 (Cn m) c hm;rw [h2] at this;cases this
 rw [Ha];unfold Lib.itoa;split
 ·intro hm;rcases List.mem_cons.1 hm with hm|hm
  ·exact h1 hm
  ·exact hd _ hm
 ·exact hd _
theorem zy (n:Int) : ca n≠⟨#[]⟩:=by
 intro e;have h:bl (ca n)=[]:=by rw [e];rfl
 rw [Ha] at h;unfold Lib.itoa at h;split at h
 ·cases h
 ·exact Co _ h
theorem wJ {n:Int} (h : -999999999≤n∧n≤999999999) : dv (ca n).data.toList=some n:=by
 have e:(ca n).data.toList=Lib.itoa n:=rfl;rw [e];refine Gs rfl ?_;by_cases h0:0≤n
 ·obtain ⟨m,rfl⟩ : ∃ m:Nat,n=m:=⟨n.toNat,by omega⟩
  rw [Lib.itoa_nonneg];have hl:=zh 8 m (by omega);unfold Lib.trimPrefix;split
  ·rw [List.length_drop];omega
  ·exact hl
 ·have hl:=zh 8 n.natAbs (by omega);unfold Lib.itoa;rw [if_pos (by omega)];have e2:Lib.trimPrefix (45::Lib.decDigits n.natAbs) [45]=Lib.decDigits n.natAbs:=by
   unfold Lib.trimPrefix;rw [if_pos (by simp [Lib.hasPrefix])];rfl
  rw [e2];exact hl
theorem om {l:List UInt8} {v:Int} (h:dv l=some v) : je l=v:=by
 unfold je;rw [(Gr h).1]
theorem Hb {c:UInt8} : ∀ (r:List (List UInt8)) (x:List UInt8),(∀ p∈x::r,c∉p)→dK c (Lib.join (x::r) [c])=x::r
 | [],x,h=>by
  rw [Lib.join_one];exact zf (h x (by simp))
 | y::r,x,h=>by
  rw [zm];show dK c (x++c::Lib.join (y::r) [c])=_;rw [Cj (h x (by simp)),Hb r y fun p hp=>h p (List.mem_cons_of_mem _ hp)]
theorem zz {c:UInt8} {l:List ByteArray} (aC:l≠[]) (h:∀ p∈l,c∉bl p) : aP c (cN l ⟨#[c]⟩)=l:=by
 cases l with
 | nil=>exact absurd rfl aC
 | cons x r=>
  unfold aP;have e:(cN (x::r) ⟨#[c]⟩).data.toList=Lib.join (bl x::r.map bl) [c]:=rfl;rw [e,Hb _ _ fun p hp=>by
   rcases List.mem_cons.1 hp with rfl|hp
   ·exact h x (by simp)
   ·obtain ⟨q,hq,rfl⟩:=List.mem_map.1 hp;exact h q (by simp [hq])]
  show (List.map mkB ((x::r).map bl))=x::r;rw [List.map_map];exact (List.map_congr_left fun a _=>rfl).trans (List.map_id _)
theorem Hc {c d:UInt8} (vW:c≠d) : ∀ (l:List (List UInt8)),(∀ p∈l,c∉p)→c∉Lib.join l [d]
 | [],_=>by
  rw [Lib.join_nil];simp
 | [x],h=>by
  rw [Lib.join_one];exact h x (by simp)
 | x::y::r,h=>by
  rw [zm];intro hm;rcases List.mem_append.1 hm with hm|hm
  ·exact h x (by simp) hm
  ·rcases List.mem_append.1 hm with hm|hm
   ·exact vW (by simpa using hm)
   ·exact Hc vW (y::r) (fun p hp=>h p (List.mem_cons_of_mem _ hp)) hm
theorem CT {c d:UInt8} (vW:c≠d) {l:List ByteArray} (h:∀ p∈l,c∉bl p) : c∉bl (cN l ⟨#[d]⟩):=by
 rw [sr];refine Hc vW _ fun p hp=>?_;obtain ⟨q,hq,rfl⟩:=List.mem_map.1 hp;exact h q hq
theorem Hd {d:UInt8} : ∀ {l:List ByteArray},l≠[]→(∀ p∈l,p≠⟨#[]⟩)→cN l ⟨#[d]⟩≠⟨#[]⟩
 | [],h,_=>absurd rfl h
 | [x],_,h=>by
  intro e;have e2:bl (cN [x] ⟨#[d]⟩)=[]:=by rw [e];rfl
  rw [sr,List.map_cons,List.map_nil,Lib.join_one] at e2;exact h x (by simp) (pq e2)
 | x::y::r,_,h=>by
  intro e;have e2:bl (cN (x::y::r) ⟨#[d]⟩)=[]:=by rw [e];rfl
  rw [sr,List.map_cons,List.map_cons,zm] at e2;have:bl x=[]:=(List.append_eq_nil_iff.1 e2).1;exact h x (by simp) (pq this)
theorem NB (a:ByteArray) : (bl a).length=a.size:=(kZ a)
theorem tW {s:ByteArray} {c:UInt8} (h:bP s=true) (hc:∀ i,jj i c.toNat=false) : c∉bl s:=by
 intro hm;obtain ⟨i,hi,he⟩:=List.getElem_of_mem hm;have eb:i < s.size:=by rw [NB] at hi;exact hi
 simp only [bP,Bool.and_eq_true] at h;have:=List.all_eq_true.1 h.2 i (by simpa using eb);have e:cR s i=c:=by
  rw [←he];unfold cR bl;rw [List.getD,List.getElem?_eq_getElem (by rw [kZ];exact eb),Option.getD_some];rfl
 rw [e,hc] at this;cases this
def j2 (k:Int) : ByteArray:=(ji kdL k.toNat).1
def jk (c:ByteArray) : ByteArray:=if c=⟨#[]⟩ then ⟨#[45]⟩ else c
def mj (x:Ev) : ByteArray:=if inR x.kind 0 5 then cN [j2 x.kind,ca x.time,ca x.rank,jk x.car] ⟨#[32]⟩ else ⟨#[]⟩
theorem NC {k:Int} (h:0≤k∧k≤5) : jA (j2 k)=k∧(32:UInt8)∉bl (j2 k)∧j2 k≠⟨#[]⟩:=by
 have:k=0∨k=1∨k=2∨k=3∨k=4∨k=5:=by omega
 rcases this with rfl|rfl|rfl|rfl|rfl|rfl<;>exact ⟨by decide,by decide,by decide⟩
theorem CU (i:Nat) : jj i (32:UInt8).toNat=false:=by simp [jj]
theorem He (i:Nat) : jj i (58:UInt8).toNat=false:=by simp [jj]
theorem Hf (i:Nat) : jj i (124:UInt8).toNat=false:=by simp [jj]
theorem zA {s:ByteArray} (h:bP s=true) : s≠⟨#[]⟩:=by
 intro e;subst e;cases h
theorem ND {x:Ev} (hk:0≤x.kind∧x.kind≤5) (ht : -999999999≤x.time∧x.time≤999999999) (hr : -999999999≤x.rank∧x.rank≤999999999) (h4:x.kind=4↔x.car=⟨#[]⟩) (hn:x.car=⟨#[]⟩∨bP x.car=true) :
  evP (aP 32 (mj x))=(x,0):=by
 obtain ⟨k1,k2,k3⟩:=NC hk;have hd:(32:UInt8)∉bl (jk x.car)∧jk x.car≠⟨#[]⟩:=by
  unfold jk;split
  ·exact ⟨by decide,by decide⟩
  ·rename_i h;exact ⟨tW (hn.resolve_left h) CU,h⟩
 unfold mj;rw [if_pos (jt.2 hk),zz (by simp) (by
  intro p hp;simp only [List.mem_cons,List.not_mem_nil,or_false] at hp;rcases hp with rfl|rfl|rfl|rfl
  ·exact k2
  ·exact ss _ (by decide) (by decide)
  ·exact ss _ (by decide) (by decide)
  ·exact hd.1)]
 have hE:cQ (isT [j2 x.kind,ca x.time,ca x.rank,jk x.car] ⟨#[]⟩) 0 4=false:=by
  refine gI fun j hj=>?_;rw [isT,decide_eq_false_iff_not];have:j=0∨j=1∨j=2∨j=3:=by omega
  rcases this with rfl|rfl|rfl|rfl
  ·exact k3
  ·exact zy _
  ·exact zy _
  ·exact hd.2
 have hb:lQ [j2 x.kind,ca x.time,ca x.rank,jk x.car]=false:=by
  unfold lQ;simp only [List.length_cons,List.length_nil,Nat.zero_add,Nat.reduceAdd];rw [hE];rfl
 have t1:(dv (ca x.time).data.toList)=some x.time:=wJ ht;have t2:(dv (ca x.rank).data.toList)=some x.rank:=wJ hr;have cM:sq [j2 x.kind,ca x.time,ca x.rank,jk x.car]=0:=by
  unfold sq;simp only [tat,List.getD_cons_zero,List.getD_cons_succ];rw [k1,nf,nf,t1,t2,decide_eq_true hk.1];unfold jk;by_cases hc:x.car=⟨#[]⟩
  ·rw [if_pos hc,decide_eq_true (h4.2 hc)];rfl
  ·have tX:x.kind≠4:=fun h=>hc (h4.1 h);rw [if_neg hc,decide_eq_false tX,hn.resolve_left hc];rfl
 unfold evP;rw [hb,if_neg (by decide),cM,if_neg (by simp)];simp only [tat,List.getD_cons_zero,List.getD_cons_succ];rw [k1,om t1,om t2];congr 1;obtain ⟨kd,tm,rk,car⟩:=x;simp only at h4 ⊢;unfold jk;by_cases hc:car=⟨#[]⟩
 ·rw [if_pos (h4.2 hc),hc]
 ·have tX:kd≠4:=fun h=>hc (h4.1 h);rw [if_neg tX,if_neg hc]
def bu (p:ByteArray) : List ByteArray:=if p=⟨#[]⟩ then [] else aP 32 p
def lR (w:ByteArray) : Bool:=decide (w=⟨#[]⟩) || decide (1 < (aP 58 w).length)
def iq (p:ByteArray) : Bool:=cQ (fun j=>lR (tat (bu p) j)) 0 (bu p).length
def tkW (w:ByteArray) : Tk:=⟨tat (aP 58 w) 0,je (tat (aP 58 w) 1).data.toList,je (tat (aP 58 w) 2).data.toList⟩
def fU (w:ByteArray) : Bool:=!decide ((aP 58 w).length=3) || decide (tat (aP 58 w) 0=⟨#[]⟩) || !jd (tat (aP 58 w) 1).data.toList || !jd (tat (aP 58 w) 2).data.toList
def eM (l:List ByteArray) : List ByteArray:=bu (tat l (l.length - 1))
def k8 (l:List ByteArray) : Bool:=
 !decide (3≤l.length) || !jd (tat l 0).data.toList || cQ (fun k=>iq (tat l (1+k))) 0 (l.length - 2) || cQ (fun j=>fU (tat (eM l) j)) 0 (eM l).length
def dO (l:List ByteArray) : St:=⟨((l.drop 1).take (l.length - 2)).map bu,(eM l).map tkW,je (tat l 0).data.toList⟩
def stP (l:List ByteArray) : St×Int:=if k8 l=true then (⟨[],[],0⟩,7) else (dO l,0)
theorem Hg {l:List ByteArray} (h:∀ p∈l,(32:UInt8)∉bl p∧p≠⟨#[]⟩) : bu (cN l ⟨#[32]⟩)=l:=by
 unfold bu;by_cases hn:l=[]
 ·subst hn;rw [if_pos (by apply pq;rw [sr,List.map_nil,Lib.join_nil];rfl)]
 ·rw [if_neg (Hd hn fun p hp=>(h p hp).2),zz hn fun p hp=>(h p hp).1]
theorem NF {c:UInt8} {w:ByteArray} (h:c∉bl w) : aP c w=[w]:=by
 unfold aP;rw [show dK c w.data.toList=[w.data.toList] from zf h];rfl
theorem Hh {t:Tk} (hn:bP t.car=true) (ht : -999999999≤t.time∧t.time≤999999999) (hr : -999999999≤t.rank∧t.rank≤999999999) : fU (ef t)=false∧tkW (ef t)=t:=by
 have hp:aP 58 (ef t)=[t.car,ca t.rank,ca t.time]:=by
  unfold ef;refine zz (by simp) fun p hp=>?_;simp only [List.mem_cons,List.not_mem_nil,or_false] at hp;rcases hp with rfl|rfl|rfl
  ·exact tW hn He
  ·exact ss _ (by decide) (by decide)
  ·exact ss _ (by decide) (by decide)
 have t1:(dv (ca t.time).data.toList)=some t.time:=wJ ht;have t2:(dv (ca t.rank).data.toList)=some t.rank:=wJ hr;constructor
 ·unfold fU;rw [hp];simp only [tat,List.getD_cons_zero,List.getD_cons_succ];rw [nf,nf,t1,t2];simp [zA hn]
 ·unfold tkW;rw [hp];simp only [tat,List.getD_cons_zero,List.getD_cons_succ];rw [om t1,om t2]
theorem Hi {c:UInt8} {t:Tk} (hn:bP t.car=true) (h1:c≠45) (h2:isD c=false) (h3:c≠58) (ho:∀ i,jj i c.toNat=false) : c∉bl (ef t):=by
 unfold ef;refine CT h3 fun p hp=>?_;simp only [List.mem_cons,List.not_mem_nil,or_false] at hp;rcases hp with rfl|rfl|rfl
 ·exact tW hn ho
 ·exact ss _ h1 h2
 ·exact ss _ h1 h2
theorem NG {t:Tk} (hn:bP t.car=true) : ef t≠⟨#[]⟩:=by
 unfold ef;refine Hd (by simp) fun p hp=>?_;simp only [List.mem_cons,List.not_mem_nil,or_false] at hp;rcases hp with rfl|rfl|rfl
 ·exact zA hn
 ·exact zy _
 ·exact zy _
structure ToldS (s:St) : Prop where
 q1:0 < s.q.length
 q2:∀ l∈s.q,∀ c∈l,bP c=true
 t1:∀ t∈s.tk,bP t.car=true∧(-999999999≤t.time∧t.time≤999999999)∧(-999999999≤t.rank∧t.rank≤999999999)
 tm : -999999999≤s.time∧s.time≤999999999
theorem tY {l:List ByteArray} {k:Nat} (h:k < l.length) : tat l k∈l:=by
 rw [bc h];exact List.getElem_mem h
theorem NH {α:Type} (f:α→ByteArray) (l:List α) {k:Nat} (h:k < l.length) : tat (l.map f) k=f l[k]:=by
 rw [bc (by simpa using h),List.getElem_map]
theorem NI {s:St} (h:ToldS s) : stP (aP 124 (k6 s))=(s,0):=by
 have w1:∀ l∈s.q,bu (cN l ⟨#[32]⟩)=l:=fun l hl=>Hg fun p hp=>⟨tW (h.q2 l hl p hp) CU,zA (h.q2 l hl p hp)⟩
 have w2:bu (jf s)=s.tk.map ef:=Hg fun p hp=>by
  obtain ⟨t,ht,rfl⟩:=List.mem_map.1 hp;exact ⟨Hi (h.t1 t ht).1 (by decide) (by decide) (by decide) CU,NG (h.t1 t ht).1⟩
 have hp:aP 124 (k6 s)=ft s s.q.length++[jf s]:=by
  unfold k6;refine zz (by simp) fun p hp=>?_;rcases List.mem_append.1 hp with hp|hp
  ·unfold ft at hp;rcases List.mem_cons.1 hp with rfl|hp
   ·exact ss _ (by decide) (by decide)
   ·rw [List.take_length] at hp;obtain ⟨l,hl,rfl⟩:=List.mem_map.1 hp;exact CT (by decide) fun c hc=>tW (h.q2 l hl c hc) Hf
  ·rw [List.mem_singleton] at hp;subst hp;refine CT (by decide) fun p hp=>?_;obtain ⟨t,ht,rfl⟩:=List.mem_map.1 hp;exact Hi (h.t1 t ht).1 (by decide) (by decide) (by decide) Hf
 rw [hp];have e0:ft s s.q.length++[jf s]=ca s.time::(s.q.map (fun l=>cN l ⟨#[32]⟩)++[jf s]):=by
  unfold ft;rw [List.take_length,List.cons_append]
 rw [e0];generalize hL:ca s.time::(s.q.map (fun l=>cN l ⟨#[32]⟩)++[jf s])=L;have hlen:L.length=s.q.length+2:=by
  rw [←hL];simp
 have hq:=h.q1;have l0:tat L 0=ca s.time:=by rw [←hL];rfl
 have lq:∀ k (hk:k < s.q.length),tat L (1+k)=cN s.q[k] ⟨#[32]⟩:=fun k hk=>by
  rw [←hL,Nat.add_comm];unfold tat;rw [List.getD_cons_succ,List.getD_eq_getElem?_getD,List.getElem?_append_left (by simpa using hk)];simp [hk]
 have ll:tat L (L.length - 1)=jf s:=by
  rw [hlen,←hL];unfold tat;rw [show s.q.length+2 - 1=s.q.length+1 by omega,List.getD_cons_succ,List.getD_eq_getElem?_getD,List.getElem?_append_right (by simp)];simp
 have t0:(dv (ca s.time).data.toList)=some s.time:=wJ h.tm;have fH:eM L=s.tk.map ef:=by
  unfold eM;rw [ll,w2]
 have b3:cQ (fun k=>iq (tat L (1+k))) 0 (L.length - 2)=false:=by
  refine gI fun k hk=>?_;have cp:k < s.q.length:=by omega
  rw [lq k cp];unfold iq;rw [w1 _ (List.getElem_mem cp)];refine gI fun j hj=>?_;have hm:=tY hj;have bI:=h.q2 _ (List.getElem_mem cp) _ hm;unfold lR;rw [NF (tW bI He),decide_eq_false (zA bI)];rfl
 have b4:cQ (fun j=>fU (tat (eM L) j)) 0 (eM L).length=false:=by
  rw [fH];refine gI fun j hj=>?_;have kK:j < s.tk.length:=by simpa using hj
  rw [NH ef s.tk kK];have:=h.t1 _ (List.getElem_mem kK);exact (Hh this.1 this.2.1 this.2.2).1
 have hb:k8 L=false:=by
  unfold k8;rw [b3,b4,l0,nf,t0];simp;omega
 unfold stP;rw [hb,if_neg (by decide)];congr 1;unfold dO;rw [fH,l0,om t0];obtain ⟨q,tk,tm⟩:=s;congr 1
 ·rw [←hL];show ((q.map (fun l=>cN l ⟨#[32]⟩)++[jf ⟨q,tk,tm⟩]).take _).map bu=q;have e:(ca tm::(q.map (fun l=>cN l ⟨#[32]⟩)++[jf ⟨q,tk,tm⟩])).length - 2=(q.map (fun l=>cN l ⟨#[32]⟩)).length:=by simp
  simp only at e ⊢;rw [e,List.take_left,List.map_map];exact (List.map_congr_left fun l hl=>w1 l hl).trans (List.map_id _)
 ·rw [List.map_map];exact (List.map_congr_left fun t ht=>(Hh (h.t1 t ht).1 (h.t1 t ht).2.1 (h.t1 t ht).2.2).2).trans (List.map_id _)
end Go.Proofs.YtoibondihdhnoaaGreatDoor
