/- Texts in one: Walks: an event is read. -/
import Derived.Test.YtoibondihdhnoaaGreatDoorFRP9
import Derived.Test.YtoibondihdhnoaaGreatDoorFRP40
import Derived.Test.YtoibondihdhnoaaGreatDoorFRP15
import Derived.Test.YtoibondihdhnoaaGreatDoorFRP39
namespace Go.Proofs.YtoibondihdhnoaaGreatDoor
open Go.RowKit
set_option maxRecDepth 100000
set_option maxHeartbeats 2000000
abbrev Kd:Type:=ByteArray×Value
def Cm (q:Kd) : List AV:=[S q.1,.lit q.2]
attribute [go_sem] Cm
def mq (l:List Kd) (k:Nat) : Kd:=l.getD k (ByteArray.empty,undef)
theorem Cn {l:List Kd} {k:Nat} (h:k < l.length) : mq l k=l[k]:=by simp [mq,h]
theorem Nj {l:List Kd} {k:Nat} (h:k < l.length) : l[k]=mq l k:=(Cn h).symm
attribute [go_sem] Nj
def kdL:List Kd:=[(⟨#[97,114,114,105,118,101]⟩,.func (.func 224) #[] #[]),(⟨#[115,101,114,118,101]⟩,.func (.func 225) #[] #[]),(⟨#[100,101,99,108,105,110,101]⟩,.func (.func 226) #[] #[]),(⟨#[108,101,97,118,101]⟩,.func (.func 227) #[] #[]),(⟨#[99,97,108,108]⟩,.func (.func 228) #[] #[]),(⟨#[114,101,116,117,114,110]⟩,.func (.func 229) #[] #[])]
theorem G6 (q:Kd) (w:List ByteArray) (h:0 < w.length) (h1:cN (.lit q.2)=true) : VC Tryz.prog 108 [.agg [S q.1,.lit q.2],.vp [gG w]] (B (decide (q.1=tat w 0))):=by
 have e:w[0]=tat w 0:=(dp h).symm;obtain ⟨a,v⟩:=q;simp only at h1 ⊢;refine aP Tryz.func108 rfl (by kernel_rfl) rfl fun M0 w0=>?_;simp only [Tryz.ntmps108,Tryz.results108,aF];repeat' first|(with_reducible first|apply af|apply ae|apply ax|apply aa|refine ah [] ?_|apply aT|((first|apply ab|apply aU);intro X Y;go_simp;apply Y;clear Y X))|((refine bc 7 7 [] rfl (by kernel_rfl) ?_);simp only [az])
 go_simp
theorem Nk (l:List Kd) (w:List ByteArray) (hw:0 < w.length) (hl:l.length≤1000000) (h1:∀ q∈l,cN (.lit q.2)=true) : VC Tryz.prog 107 [.sl 2 (l.map Cm),.fn (.func 108) [] [.vp [gG w]]] (I (ixP (fun j=>decide ((mq l j).1=tat w 0)) 0 l.length)):=by
 obtain ⟨R,hR⟩ : ∃ R,ixP (fun j=>decide ((mq l j).1=tat w 0)) 0 l.length=R:=⟨_,rfl⟩
 rw [hR];have HR:=Lib.hid hR;have H1:=Lib.hid h1;clear hR h1;refine aP Tryz.func107 rfl (by kernel_rfl) rfl fun M0 w0=>?_;simp only [Tryz.ntmps107,Tryz.results107,aF];repeat' with_reducible first|apply af|apply ae|apply aB|apply aa|refine ah [] ?_|(apply ab;intro X Y;go_simp;apply Y;clear Y X)
 apply eo [0,1,7] (fun k=>[(8,I k)]) (fun k=>([] : Hp)) (fun j=>decide ((mq l j).1=tat w 0)) (l.length)
 ·go_simp<;>exact rfl
 ·go_simp
 ·intro k hk HB HP K hK;obtain ⟨w1,w2,w3,w4,w5,w6⟩:=ixs (m:=k) (by omega);have ho:=H1.out _ (by rw [Cn hk];exact List.getElem_mem hk:mq l k∈l);have g:=G6 (mq l k) w hw ho;have hp:=HP.out;rw [hp] at g;clear hp;repeat' first|(with_reducible first|apply af|apply ae|apply au|apply aB|apply bp|apply aa|refine ah [] ?_|(apply aw;·go_simp)|(apply ar;·go_simp))|((with_reducible apply ab);intro X Y;go_simp;(first|(refine ⟨_,g,?_⟩)|skip);apply Y;clear Y X)
  refine hK _ ?_;go_simp
 ·intro k hk HB HP K;have ho:=H1.out _ (by rw [Cn hk];exact List.getElem_mem hk:mq l k∈l);have g:=G6 (mq l k) w hw ho;have hp:=HP.out;rw [hp] at g;clear hp;have e:=HR.out;rw [jw hk HB.out HP.out] at e;subst e;repeat' first|(with_reducible first|apply af|apply ae|apply aZ|apply ax|apply au|apply aB|apply cX|apply aa|refine ah [] ?_|(apply aw;·go_simp))|((with_reducible apply ab);intro X Y;go_simp;(first|(refine ⟨_,g,?_⟩)|skip);apply Y;clear Y X)
  go_simp
 ·intro HB K;have e:=HR.out;rw [kr HB.out] at e;subst e;repeat (with_reducible first|apply af|apply ae|apply bP|apply ax|apply bQ|apply bT|apply aa|refine ah [] ?_|(apply ar;·go_simp)|(apply ab;intro X Y;go_simp;apply Y;clear Y X))
  go_simp
theorem G7 (l:List ByteArray) (x:ByteArray) (hl:l.length≤1000000) : VC Tryz.prog 106 [gG l,S x] (B (fU (isT l x) 0 l.length)):=by
 have g:=uC l x hl;rw [←vC];generalize ixP (isT l x) 0 l.length=R at *;refine aP Tryz.func106 rfl (by kernel_rfl) rfl fun M0 w0=>?_;simp only [Tryz.ntmps106,Tryz.results106,aF];repeat' with_reducible first|apply af|apply ae|apply ax|apply aa|refine ah [] ?_|(apply ab;intro X Y;go_simp;(first|(refine ⟨_,g,?_⟩)|skip);apply Y;clear Y X)
 go_simp
def wz:Ev:=⟨0,0,0,⟨#[]⟩⟩
def lS (a:ByteArray) : Int:=ixP (fun j=>decide ((mq kdL j).1=a)) 0 6
def tX (w:List ByteArray) : Int:=
 fst [unl (decide (0≤lS (tat w 0))&&kE (tat w 1).data.toList&&kE (tat w 2).data.toList) 7,unl (!decide (lS (tat w 0)=4) || decide (tat w 3=⟨#[45]⟩)) 3,unl (decide (lS (tat w 0)=4) || cu (tat w 3)) 4]
def ss (w:List ByteArray) : Bool:=!decide (w.length=4) || fU (isT w ⟨#[]⟩) 0 w.length
def evP (w:List ByteArray) : Ev×Int:=
 if ss w=true then (wz,7) else if tX w≠0 then (wz,tX w) else (⟨lS (tat w 0),lO (tat w 1).data.toList,lO (tat w 2).data.toList,if lS (tat w 0)=4 then ⟨#[]⟩ else tat w 3⟩,0)
theorem Nl (s:ByteArray) (hs:s.size≤1000) (hb:ss (dh 32 s)=true) : VC Tryz.prog 46 [S s] (.tup [evA wz,I 7]):=by
 have g1:=vR s 32 (by omega);have iF:=yD 32 s;have g2:=G7 (dh 32 s) ⟨#[]⟩ (by omega);unfold ss at hb;unfold wz;generalize dh 32 s=w at *;by_cases h4:w.length=4
 ·rw [decide_eq_true h4,Bool.not_true,Bool.false_or] at hb;rw [hb] at g2;have h5:(w.length:Int)=4:=by omega
  clear hb iF;refine aP Tryz.func46 rfl (by kernel_rfl) rfl fun M0 w0=>?_;simp only [Tryz.ntmps46,Tryz.results46,aF];repeat' with_reducible first|apply af|apply ae|apply aZ|apply ax|apply aa|refine ah [] ?_|(apply aw;·go_simp)|(apply ab;intro X Y;go_simp;(first|(refine ⟨_,g1,?_⟩)|(refine ⟨_,g2,?_⟩)|skip);apply Y;clear Y X)
  all_goals go_simp
 ·have h5:¬(w.length:Int)=4:=by omega
  clear hb iF;refine aP Tryz.func46 rfl (by kernel_rfl) rfl fun M0 w0=>?_;simp only [Tryz.ntmps46,Tryz.results46,aF];repeat' with_reducible first|apply af|apply ae|apply aZ|apply ax|apply aa|refine ah [] ?_|(apply aw;·go_simp)|(apply ab;intro X Y;go_simp;(first|(refine ⟨_,g1,?_⟩)|skip);apply Y;clear Y X)
  all_goals go_simp
theorem Nn (s:ByteArray) (hs:s.size≤1000) : VC Tryz.prog 46 [S s] (.tup [evA (evP (dh 32 s)).1,I (evP (dh 32 s)).2]):=by
 by_cases hb:ss (dh 32 s)=true
 ·have h:=Nl s hs hb;unfold evP;rw [if_pos hb];exact h
 unfold evP;rw [if_neg hb];have g1:=vR s 32 (by omega);have iF:=yD 32 s;have g2:=G7 (dh 32 s) ⟨#[]⟩ (by omega);have qU:∀ p∈dh 32 s,p.size≤1000:=fun p hp=>Nat.le_trans (yE hp) hs;unfold ss at hb;generalize dh 32 s=w at *;have h4:w.length=4:=by
  by_cases h:w.length=4
  ·exact h
  ·rw [decide_eq_false h] at hb;simp at hb
 have iJ:fU (isT w ⟨#[]⟩) 0 w.length=false:=by
  rw [decide_eq_true h4] at hb;simpa using hb
 rw [iJ] at g2;have h5:(w.length:Int)=4:=by omega
 have a1:w[1]=tat w 1:=(dp (by omega)).symm;have a2:w[2]=tat w 2:=(dp (by omega)).symm;have a3:w[3]=tat w 3:=(dp (by omega)).symm;have z1:(tat w 1).size≤1000:=by rw [←a1];exact qU _ (List.getElem_mem _)
 have z2:(tat w 2).size≤1000:=by rw [←a2];exact qU _ (List.getElem_mem _)
 have z3:(tat w 3).size≤1000:=by rw [←a3];exact qU _ (List.getElem_mem _)
 have g3:VC Tryz.prog 107 [.sl 2 (kdL.map Cm),.fn (.func 108) [] [.vp [gG w]]] (I (lS (tat w 0))):=Nk kdL w (by omega) (by decide) (fun q hq=>by
  simp only [kdL,List.mem_cons,List.not_mem_nil,or_false] at hq;rcases hq with rfl|rfl|rfl|rfl|rfl|rfl<;>rfl)
 have g4:=vU (tat w 1) (by omega);have g5:=vU (tat w 2) (by omega);have g6:=rp (tat w 3) z3;have u1:=bN (decide (0≤lS (tat w 0))&&kE (tat w 1).data.toList&&kE (tat w 2).data.toList) 7;have u2:=bN (!decide (lS (tat w 0)=4) || decide (tat w 3=⟨#[45]⟩)) 3;have u3:=bN (decide (lS (tat w 0)=4) || cu (tat w 3)) 4;have g7:VC Tryz.prog 88 [.sl 1 ([unl (decide (0≤lS (tat w 0))&&kE (tat w 1).data.toList&&kE (tat w 2).data.toList) 7,unl (!decide (lS (tat w 0)=4) || decide (tat w 3=⟨#[45]⟩)) 3,unl (decide (lS (tat w 0)=4) || cu (tat w 3)) 4].map eJ)] (I (tX w)):=fP _ rfl rfl;generalize tX w=E at *;generalize kE (tat w 1).data.toList=O1 at *;generalize kE (tat w 2).data.toList=O2 at *;generalize lO (tat w 1).data.toList=N1 at *;generalize lO (tat w 2).data.toList=N2 at *;generalize cu (tat w 3)=D3 at *;unfold wz;generalize lS (tat w 0)=KI at *;clear iJ hb qU iF z1 z2 z3;refine aP Tryz.func46 rfl (by kernel_rfl) rfl fun M0 w0=>?_;simp only [Tryz.ntmps46,Tryz.results46,aF];repeat' with_reducible apply af
 refine ah [] ?_;repeat' with_reducible first|apply af|apply ae|apply aa|(apply ab;intro X Y;go_simp;apply Y;clear Y X)
 refine ah [] ?_;repeat' with_reducible first|apply af|apply ae|apply aa|(apply ab;intro X Y;go_simp;(first|(refine ⟨_,g1,?_⟩)|skip);apply Y;clear Y X)
 refine ah [] ?_;repeat' first|(with_reducible first|apply af|apply ae|apply au|apply aa|(apply ar;·go_simp)|(apply ab;intro X Y;go_simp;apply Y;clear Y X))|((apply qi rfl);(focus (go_simp<;>exact rfl));(focus (go_simp;done));(focus (intro hb0;replace hb0:=hb0.out;go_simp<;>(exact g2)));intro X Y;go_simp;refine Y _ ?_;clear Y X)
 refine fB (JZ rfl rfl No rfl (by decide) rfl (by decide) rfl ?_);refine ca [] 3 ⟨rfl,rfl⟩ ?_;simp only [az];repeat' first|with_reducible apply aa|((with_reducible apply ab);intro X Y;go_simp;(first|(refine ⟨_,⟨g3,rfl⟩,?_⟩)|skip);apply Y;clear Y X)
 apply dA;clear g1 g2 g3;have hE:∀ (a b:Ev),((if E≠0 then (a,E) else (b,0))=if E=0 then (b,0) else (a,E)):=fun a b=>by
  by_cases h:E=0
  ·rw [if_pos h,if_neg (by simp [h])]
  ·rw [if_neg h,if_pos h]
 rw [hE];clear hE;by_cases qz:KI=4
 ·subst qz;have d0:decide ((0:Int)≤4)=true:=rfl;have d1:decide ((4:Int)=4)=true:=rfl;rw [d0,Bool.true_and] at u1;rw [d1,Bool.not_true,Bool.false_or] at u2;rw [d1,Bool.true_or] at u3;rw [d0,d1,Bool.true_and,Bool.not_true,Bool.false_or,Bool.true_or] at g7;rw [if_pos rfl];generalize unl true 4=A3 at *;generalize unl (decide (tat w 3=⟨#[45]⟩)) 3=A2 at *;clear d0 d1;by_cases he:E=0
  ·subst he;rw [if_pos rfl];cases O1<;>cases O2;all_goals simp only [Bool.true_and,Bool.false_and] at u1 g7
   all_goals generalize unl _ 7=A1 at *
   all_goals
    repeat' first|(with_reducible first|apply af|apply ae|apply ax|apply au|apply aa|refine ah [] ?_|(apply aw;·go_simp)|(apply ar;·go_simp))|((with_reducible apply ab);intro X Y;go_simp;(first|(with_reducible refine ⟨_,g4,?_⟩)|(with_reducible refine ⟨_,g5,?_⟩)|(with_reducible refine ⟨_,u1,?_⟩)|(with_reducible refine ⟨_,u2,?_⟩)|(with_reducible refine ⟨_,u3,?_⟩)|(refine ⟨_,g7,?_⟩)|skip);apply Y;clear Y X)
    go_simp
  ·rw [if_neg he];cases O1<;>cases O2;all_goals simp only [Bool.true_and,Bool.false_and] at u1 g7
   all_goals generalize unl _ 7=A1 at *
   all_goals
    repeat' first|(with_reducible first|apply af|apply ae|apply aZ|apply ax|apply aa|refine ah [] ?_|(apply aw;·go_simp))|((with_reducible apply ab);intro X Y;go_simp;(first|(with_reducible refine ⟨_,g4,?_⟩)|(with_reducible refine ⟨_,g5,?_⟩)|(with_reducible refine ⟨_,u1,?_⟩)|(with_reducible refine ⟨_,u2,?_⟩)|(with_reducible refine ⟨_,u3,?_⟩)|(refine ⟨_,g7,?_⟩)|skip);apply Y;clear Y X)
    go_simp
 ·rw [decide_eq_false qz,Bool.not_false,Bool.true_or] at u2;rw [decide_eq_false qz,Bool.false_or] at u3;rw [decide_eq_false qz,Bool.not_false,Bool.true_or,Bool.false_or] at g7;rw [if_neg qz];generalize unl true 3=A2 at *;generalize unl D3 4=A3 at *;by_cases h0:0≤KI
  ·rw [decide_eq_true h0,Bool.true_and] at u1 g7;by_cases he:E=0
   ·subst he;rw [if_pos rfl];cases O1<;>cases O2;all_goals simp only [Bool.true_and,Bool.false_and] at u1 g7
    all_goals generalize unl _ 7=A1 at *
    all_goals
     repeat' first|(with_reducible first|apply af|apply ae|apply ax|apply au|apply aa|refine ah [] ?_|(apply ar;·go_simp))|((with_reducible apply ab);intro X Y;go_simp;(first|(with_reducible refine ⟨_,g4,?_⟩)|(with_reducible refine ⟨_,g5,?_⟩)|(with_reducible refine ⟨_,g6,?_⟩)|(with_reducible refine ⟨_,u1,?_⟩)|(with_reducible refine ⟨_,u2,?_⟩)|(with_reducible refine ⟨_,u3,?_⟩)|(refine ⟨_,g7,?_⟩)|skip);apply Y;clear Y X)
     go_simp
   ·rw [if_neg he];cases O1<;>cases O2;all_goals simp only [Bool.true_and,Bool.false_and] at u1 g7
    all_goals generalize unl _ 7=A1 at *
    all_goals
     repeat' first|(with_reducible first|apply af|apply ae|apply aZ|apply ax|apply aa|refine ah [] ?_|(apply aw;·go_simp))|((with_reducible apply ab);intro X Y;go_simp;(first|(with_reducible refine ⟨_,g4,?_⟩)|(with_reducible refine ⟨_,g5,?_⟩)|(with_reducible refine ⟨_,g6,?_⟩)|(with_reducible refine ⟨_,u1,?_⟩)|(with_reducible refine ⟨_,u2,?_⟩)|(with_reducible refine ⟨_,u3,?_⟩)|(refine ⟨_,g7,?_⟩)|skip);apply Y;clear Y X)
     go_simp
  ·rw [decide_eq_false h0,Bool.false_and,Bool.false_and] at u1 g7;generalize unl false 7=A1 at *;by_cases he:E=0
   ·subst he;rw [if_pos rfl];repeat' first|(with_reducible first|apply af|apply ae|apply ax|apply au|apply aa|refine ah [] ?_|(apply ar;·go_simp))|((with_reducible apply ab);intro X Y;go_simp;(first|(with_reducible refine ⟨_,g4,?_⟩)|(with_reducible refine ⟨_,g5,?_⟩)|(with_reducible refine ⟨_,g6,?_⟩)|(with_reducible refine ⟨_,u1,?_⟩)|(with_reducible refine ⟨_,u2,?_⟩)|(with_reducible refine ⟨_,u3,?_⟩)|(refine ⟨_,g7,?_⟩)|skip);apply Y;clear Y X)
    go_simp
   ·rw [if_neg he];repeat' first|(with_reducible first|apply af|apply ae|apply aZ|apply ax|apply aa|refine ah [] ?_|(apply aw;·go_simp))|((with_reducible apply ab);intro X Y;go_simp;(first|(with_reducible refine ⟨_,g4,?_⟩)|(with_reducible refine ⟨_,g5,?_⟩)|(with_reducible refine ⟨_,g6,?_⟩)|(with_reducible refine ⟨_,u1,?_⟩)|(with_reducible refine ⟨_,u2,?_⟩)|(with_reducible refine ⟨_,u3,?_⟩)|(refine ⟨_,g7,?_⟩)|skip);apply Y;clear Y X)
    go_simp
theorem Co {a b:ByteArray} (h:bl a=bl b) : a=b:=by
 have:a.data=b.data:=Array.toList_inj.1 h;cases a;cases b;simpa using this
theorem G8 (n:Int) : bl (dr n)=Lib.itoa n:=rfl
theorem zi (l:List ByteArray) (s:ByteArray) : bl (fh l s)=Lib.join (l.map bl) (bl s):=rfl
theorem su {c:UInt8} (n:Int) (h1:c≠45) (h2:isD c=false) : c∉bl (dr n):=by
 have hd:∀ m:Nat,c∉Lib.decDigits m:=fun m hm=>by
  have:=List.all_eq_true.1 (BK m) c hm;rw [h2] at this;cases this
 rw [G8];unfold Lib.itoa;split
 ·intro hm;rcases List.mem_cons.1 hm with hm|hm
  ·exact h1 hm
  ·exact hd _ hm
 ·exact hd _
theorem zj (n:Int) : dr n≠⟨#[]⟩:=by
 intro e;have h:bl (dr n)=[]:=by rw [e];rfl
 rw [G8] at h;unfold Lib.itoa at h;split at h
 ·cases h
 ·exact BL _ h
theorem wA {n:Int} (h : -999999999≤n∧n≤999999999) : lN (dr n).data.toList=some n:=by
 have e:(dr n).data.toList=Lib.itoa n:=rfl;rw [e];refine Gq rfl ?_;by_cases h0:0≤n
 ·obtain ⟨m,rfl⟩ : ∃ m:Nat,n=m:=⟨n.toNat,by omega⟩
  rw [Lib.itoa_nonneg];have hl:=BO 8 m (by omega);unfold Lib.trimPrefix;split
  ·rw [List.length_drop];omega
  ·exact hl
 ·have hl:=BO 8 n.natAbs (by omega);unfold Lib.itoa;rw [if_pos (by omega)];have e2:Lib.trimPrefix (45::Lib.decDigits n.natAbs) [45]=Lib.decDigits n.natAbs:=by
   unfold Lib.trimPrefix;rw [if_pos (by simp [Lib.hasPrefix])];rfl
  rw [e2];exact hl
theorem wB {l:List UInt8} {v:Int} (h:lN l=some v) : lO l=v:=by
 unfold lO;rw [(Gp h).1]
theorem G9 {c:UInt8} : ∀ (r:List (List UInt8)) (x:List UInt8),(∀ p∈x::r,c∉p)→fy c (Lib.join (x::r) [c])=x::r
 | [],x,h=>by
  rw [Lib.join_one];exact yB (h x (by simp))
 | y::r,x,h=>by
  rw [yH];show fy c (x++c::Lib.join (y::r) [c])=_;rw [BH (h x (by simp)),G9 r y fun p hp=>h p (List.mem_cons_of_mem _ hp)]
theorem zk {c:UInt8} {l:List ByteArray} (aq:l≠[]) (h:∀ p∈l,c∉bl p) : dh c (fh l ⟨#[c]⟩)=l:=by
 cases l with
 | nil=>exact absurd rfl aq
 | cons x r=>
  unfold dh;have e:(fh (x::r) ⟨#[c]⟩).data.toList=Lib.join (bl x::r.map bl) [c]:=rfl;rw [e,G9 _ _ fun p hp=>by
   rcases List.mem_cons.1 hp with rfl|hp
   ·exact h x (by simp)
   ·obtain ⟨q,hq,rfl⟩:=List.mem_map.1 hp;exact h q (by simp [hq])]
  show (List.map mkB ((x::r).map bl))=x::r;rw [List.map_map];exact (List.map_congr_left fun a _=>rfl).trans (List.map_id _)
theorem G_ {c d:UInt8} (vN:c≠d) : ∀ (l:List (List UInt8)),(∀ p∈l,c∉p)→c∉Lib.join l [d]
 | [],_=>by
  rw [Lib.join_nil];simp
 | [x],h=>by
  rw [Lib.join_one];exact h x (by simp)
 | x::y::r,h=>by
  rw [yH];intro hm;rcases List.mem_append.1 hm with hm|hm
  ·exact h x (by simp) hm
  ·rcases List.mem_append.1 hm with hm|hm
   ·exact vN (by simpa using hm)
   ·exact G_ vN (y::r) (fun p hp=>h p (List.mem_cons_of_mem _ hp)) hm
theorem Cp {c d:UInt8} (vN:c≠d) {l:List ByteArray} (h:∀ p∈l,c∉bl p) : c∉bl (fh l ⟨#[d]⟩):=by
 rw [zi];refine G_ vN _ fun p hp=>?_;obtain ⟨q,hq,rfl⟩:=List.mem_map.1 hp;exact h q hq
theorem Ha {d:UInt8} : ∀ {l:List ByteArray},l≠[]→(∀ p∈l,p≠⟨#[]⟩)→fh l ⟨#[d]⟩≠⟨#[]⟩
 | [],h,_=>absurd rfl h
 | [x],_,h=>by
  intro e;have e2:bl (fh [x] ⟨#[d]⟩)=[]:=by rw [e];rfl
  rw [zi,List.map_cons,List.map_nil,Lib.join_one] at e2;exact h x (by simp) (Co e2)
 | x::y::r,_,h=>by
  intro e;have e2:bl (fh (x::y::r) ⟨#[d]⟩)=[]:=by rw [e];rfl
  rw [zi,List.map_cons,List.map_cons,yH] at e2;have:bl x=[]:=(List.append_eq_nil_iff.1 e2).1;exact h x (by simp) (Co this)
theorem Np (a:ByteArray) : (bl a).length=a.size:=(pX a)
theorem tY {s:ByteArray} {c:UInt8} (h:cu s=true) (hc:∀ i,iY i c.toNat=false) : c∉bl s:=by
 intro hm;obtain ⟨i,hi,he⟩:=List.getElem_of_mem hm;have bM:i < s.size:=by rw [Np] at hi;exact hi
 simp only [cu,Bool.and_eq_true] at h;have:=List.all_eq_true.1 h.2 i (by simpa using bM);have e:kq s i=c:=by
  rw [←he];unfold kq bl;rw [List.getD,List.getElem?_eq_getElem (by rw [pX];exact bM),Option.getD_some];rfl
 rw [e,hc] at this;cases this
def kF (k:Int) : ByteArray:=(mq kdL k.toNat).1
def jO (c:ByteArray) : ByteArray:=if c=⟨#[]⟩ then ⟨#[45]⟩ else c
def nY (x:Ev) : ByteArray:=if inR x.kind 0 5 then fh [kF x.kind,dr x.time,dr x.rank,jO x.car] ⟨#[32]⟩ else ⟨#[]⟩
theorem Nq {k:Int} (h:0≤k∧k≤5) : lS (kF k)=k∧(32:UInt8)∉bl (kF k)∧kF k≠⟨#[]⟩:=by
 have:k=0∨k=1∨k=2∨k=3∨k=4∨k=5:=by omega
 rcases this with rfl|rfl|rfl|rfl|rfl|rfl<;>exact ⟨by decide,by decide,by decide⟩
theorem Cq (i:Nat) : iY i (32:UInt8).toNat=false:=by simp [iY]
theorem Hb (i:Nat) : iY i (58:UInt8).toNat=false:=by simp [iY]
theorem Hc (i:Nat) : iY i (124:UInt8).toNat=false:=by simp [iY]
theorem wC {s:ByteArray} (h:cu s=true) : s≠⟨#[]⟩:=by
 intro e;subst e;cases h
theorem Nr {x:Ev} (hk:0≤x.kind∧x.kind≤5) (ht : -999999999≤x.time∧x.time≤999999999) (hr : -999999999≤x.rank∧x.rank≤999999999) (h4:x.kind=4↔x.car=⟨#[]⟩) (hn:x.car=⟨#[]⟩∨cu x.car=true) :
  evP (dh 32 (nY x))=(x,0):=by
 obtain ⟨k1,k2,k3⟩:=Nq hk;have hd:(32:UInt8)∉bl (jO x.car)∧jO x.car≠⟨#[]⟩:=by
  unfold jO;split
  ·exact ⟨by decide,by decide⟩
  ·rename_i h;exact ⟨tY (hn.resolve_left h) Cq,h⟩
 unfold nY;rw [if_pos (lI.2 hk),zk (by simp) (by
  intro p hp;simp only [List.mem_cons,List.not_mem_nil,or_false] at hp;rcases hp with rfl|rfl|rfl|rfl
  ·exact k2
  ·exact su _ (by decide) (by decide)
  ·exact su _ (by decide) (by decide)
  ·exact hd.1)]
 have hE:fU (isT [kF x.kind,dr x.time,dr x.rank,jO x.car] ⟨#[]⟩) 0 4=false:=by
  refine nj fun j hj=>?_;rw [isT,decide_eq_false_iff_not];have:j=0∨j=1∨j=2∨j=3:=by omega
  rcases this with rfl|rfl|rfl|rfl
  ·exact k3
  ·exact zj _
  ·exact zj _
  ·exact hd.2
 have hb:ss [kF x.kind,dr x.time,dr x.rank,jO x.car]=false:=by
  unfold ss;simp only [List.length_cons,List.length_nil,Nat.zero_add,Nat.reduceAdd];rw [hE];rfl
 have t1:(lN (dr x.time).data.toList)=some x.time:=wA ht;have t2:(lN (dr x.rank).data.toList)=some x.rank:=wA hr;have fT:tX [kF x.kind,dr x.time,dr x.rank,jO x.car]=0:=by
  unfold tX;simp only [tat,List.getD_cons_zero,List.getD_cons_succ];rw [k1,vQ,vQ,t1,t2,decide_eq_true hk.1];unfold jO;by_cases hc:x.car=⟨#[]⟩
  ·rw [if_pos hc,decide_eq_true (h4.2 hc)];rfl
  ·have Cr:x.kind≠4:=fun h=>hc (h4.1 h);rw [if_neg hc,decide_eq_false Cr,hn.resolve_left hc];rfl
 unfold evP;rw [hb,if_neg (by decide),fT,if_neg (by simp)];simp only [tat,List.getD_cons_zero,List.getD_cons_succ];rw [k1,wB t1,wB t2];congr 1;obtain ⟨kd,tm,rk,car⟩:=x;simp only at h4 ⊢;unfold jO;by_cases hc:car=⟨#[]⟩
 ·rw [if_pos (h4.2 hc),hc]
 ·have Cr:kd≠4:=fun h=>hc (h4.1 h);rw [if_neg Cr,if_neg hc]
def gD (p:ByteArray) : List ByteArray:=if p=⟨#[]⟩ then [] else dh 32 p
def qV (w:ByteArray) : Bool:=decide (w=⟨#[]⟩) || decide (1 < (dh 58 w).length)
def qW (p:ByteArray) : Bool:=fU (fun j=>qV (tat (gD p) j)) 0 (gD p).length
def tkW (w:ByteArray) : Tk:=⟨tat (dh 58 w) 0,lO (tat (dh 58 w) 1).data.toList,lO (tat (dh 58 w) 2).data.toList⟩
def sw (w:ByteArray) : Bool:=!decide ((dh 58 w).length=3) || decide (tat (dh 58 w) 0=⟨#[]⟩) || !kE (tat (dh 58 w) 1).data.toList || !kE (tat (dh 58 w) 2).data.toList
def lg (l:List ByteArray) : List ByteArray:=gD (tat l (l.length - 1))
def tZ (l:List ByteArray) : Bool:=
 !decide (3≤l.length) || !kE (tat l 0).data.toList || fU (fun k=>qW (tat l (1+k))) 0 (l.length - 2) || fU (fun j=>sw (tat (lg l) j)) 0 (lg l).length
def lh (l:List ByteArray) : St:=⟨((l.drop 1).take (l.length - 2)).map gD,(lg l).map tkW,lO (tat l 0).data.toList⟩
def stP (l:List ByteArray) : St×Int:=if tZ l=true then (⟨[],[],0⟩,7) else (lh l,0)
theorem Hd {l:List ByteArray} (h:∀ p∈l,(32:UInt8)∉bl p∧p≠⟨#[]⟩) : gD (fh l ⟨#[32]⟩)=l:=by
 unfold gD;by_cases hn:l=[]
 ·subst hn;rw [if_pos (by apply Co;rw [zi,List.map_nil,Lib.join_nil];rfl)]
 ·rw [if_neg (Ha hn fun p hp=>(h p hp).2),zk hn fun p hp=>(h p hp).1]
theorem Ns {c:UInt8} {w:ByteArray} (h:c∉bl w) : dh c w=[w]:=by
 unfold dh;rw [show fy c w.data.toList=[w.data.toList] from yB h];rfl
theorem He {t:Tk} (hn:cu t.car=true) (ht : -999999999≤t.time∧t.time≤999999999) (hr : -999999999≤t.rank∧t.rank≤999999999) : sw (gK t)=false∧tkW (gK t)=t:=by
 have hp:dh 58 (gK t)=[t.car,dr t.rank,dr t.time]:=by
  unfold gK;refine zk (by simp) fun p hp=>?_;simp only [List.mem_cons,List.not_mem_nil,or_false] at hp;rcases hp with rfl|rfl|rfl
  ·exact tY hn Hb
  ·exact su _ (by decide) (by decide)
  ·exact su _ (by decide) (by decide)
 have t1:(lN (dr t.time).data.toList)=some t.time:=wA ht;have t2:(lN (dr t.rank).data.toList)=some t.rank:=wA hr;constructor
 ·unfold sw;rw [hp];simp only [tat,List.getD_cons_zero,List.getD_cons_succ];rw [vQ,vQ,t1,t2];simp [wC hn]
 ·unfold tkW;rw [hp];simp only [tat,List.getD_cons_zero,List.getD_cons_succ];rw [wB t1,wB t2]
theorem Hf {c:UInt8} {t:Tk} (hn:cu t.car=true) (h1:c≠45) (h2:isD c=false) (h3:c≠58) (ho:∀ i,iY i c.toNat=false) : c∉bl (gK t):=by
 unfold gK;refine Cp h3 fun p hp=>?_;simp only [List.mem_cons,List.not_mem_nil,or_false] at hp;rcases hp with rfl|rfl|rfl
 ·exact tY hn ho
 ·exact su _ h1 h2
 ·exact su _ h1 h2
theorem Nt {t:Tk} (hn:cu t.car=true) : gK t≠⟨#[]⟩:=by
 unfold gK;refine Ha (by simp) fun p hp=>?_;simp only [List.mem_cons,List.not_mem_nil,or_false] at hp;rcases hp with rfl|rfl|rfl
 ·exact wC hn
 ·exact zj _
 ·exact zj _
structure ToldS (s:St) : Prop where
 q1:0 < s.q.length
 q2:∀ l∈s.q,∀ c∈l,cu c=true
 t1:∀ t∈s.tk,cu t.car=true∧(-999999999≤t.time∧t.time≤999999999)∧(-999999999≤t.rank∧t.rank≤999999999)
 tm : -999999999≤s.time∧s.time≤999999999
theorem Hg {l:List ByteArray} {k:Nat} (h:k < l.length) : tat l k∈l:=by
 rw [dp h];exact List.getElem_mem h
theorem Nu {α:Type} (f:α→ByteArray) (l:List α) {k:Nat} (h:k < l.length) : tat (l.map f) k=f l[k]:=by
 rw [dp (by simpa using h),List.getElem_map]
theorem Nv {s:St} (h:ToldS s) : stP (dh 124 (o7 s))=(s,0):=by
 have w1:∀ l∈s.q,gD (fh l ⟨#[32]⟩)=l:=fun l hl=>Hd fun p hp=>⟨tY (h.q2 l hl p hp) Cq,wC (h.q2 l hl p hp)⟩
 have w2:gD (j8 s)=s.tk.map gK:=Hd fun p hp=>by
  obtain ⟨t,ht,rfl⟩:=List.mem_map.1 hp;exact ⟨Hf (h.t1 t ht).1 (by decide) (by decide) (by decide) Cq,Nt (h.t1 t ht).1⟩
 have hp:dh 124 (o7 s)=ig s s.q.length++[j8 s]:=by
  unfold o7;refine zk (by simp) fun p hp=>?_;rcases List.mem_append.1 hp with hp|hp
  ·unfold ig at hp;rcases List.mem_cons.1 hp with rfl|hp
   ·exact su _ (by decide) (by decide)
   ·rw [List.take_length] at hp;obtain ⟨l,hl,rfl⟩:=List.mem_map.1 hp;exact Cp (by decide) fun c hc=>tY (h.q2 l hl c hc) Hc
  ·rw [List.mem_singleton] at hp;subst hp;refine Cp (by decide) fun p hp=>?_;obtain ⟨t,ht,rfl⟩:=List.mem_map.1 hp;exact Hf (h.t1 t ht).1 (by decide) (by decide) (by decide) Hc
 rw [hp];have e0:ig s s.q.length++[j8 s]=dr s.time::(s.q.map (fun l=>fh l ⟨#[32]⟩)++[j8 s]):=by
  unfold ig;rw [List.take_length,List.cons_append]
 rw [e0];generalize hL:dr s.time::(s.q.map (fun l=>fh l ⟨#[32]⟩)++[j8 s])=L;have hlen:L.length=s.q.length+2:=by
  rw [←hL];simp
 have hq:=h.q1;have l0:tat L 0=dr s.time:=by rw [←hL];rfl
 have lq:∀ k (hk:k < s.q.length),tat L (1+k)=fh s.q[k] ⟨#[32]⟩:=fun k hk=>by
  rw [←hL,Nat.add_comm];unfold tat;rw [List.getD_cons_succ,List.getD_eq_getElem?_getD,List.getElem?_append_left (by simpa using hk)];simp [hk]
 have ll:tat L (L.length - 1)=j8 s:=by
  rw [hlen,←hL];unfold tat;rw [show s.q.length+2 - 1=s.q.length+1 by omega,List.getD_cons_succ,List.getD_eq_getElem?_getD,List.getElem?_append_right (by simp)];simp
 have t0:(lN (dr s.time).data.toList)=some s.time:=wA h.tm;have qX:lg L=s.tk.map gK:=by
  unfold lg;rw [ll,w2]
 have b3:fU (fun k=>qW (tat L (1+k))) 0 (L.length - 2)=false:=by
  refine nj fun k hk=>?_;have cA:k < s.q.length:=by omega
  rw [lq k cA];unfold qW;rw [w1 _ (List.getElem_mem cA)];refine nj fun j hj=>?_;have hm:=Hg hj;have cW:=h.q2 _ (List.getElem_mem cA) _ hm;unfold qV;rw [Ns (tY cW Hb),decide_eq_false (wC cW)];rfl
 have b4:fU (fun j=>sw (tat (lg L) j)) 0 (lg L).length=false:=by
  rw [qX];refine nj fun j hj=>?_;have lG:j < s.tk.length:=by simpa using hj
  rw [Nu gK s.tk lG];have:=h.t1 _ (List.getElem_mem lG);exact (He this.1 this.2.1 this.2.2).1
 have hb:tZ L=false:=by
  unfold tZ;rw [b3,b4,l0,vQ,t0];simp;omega
 unfold stP;rw [hb,if_neg (by decide)];congr 1;unfold lh;rw [qX,l0,wB t0];obtain ⟨q,tk,tm⟩:=s;congr 1
 ·rw [←hL];show ((q.map (fun l=>fh l ⟨#[32]⟩)++[j8 ⟨q,tk,tm⟩]).take _).map gD=q;have e:(dr tm::(q.map (fun l=>fh l ⟨#[32]⟩)++[j8 ⟨q,tk,tm⟩])).length - 2=(q.map (fun l=>fh l ⟨#[32]⟩)).length:=by simp
  simp only at e ⊢;rw [e,List.take_left,List.map_map];exact (List.map_congr_left fun l hl=>w1 l hl).trans (List.map_id _)
 ·rw [List.map_map];exact (List.map_congr_left fun t ht=>(He (h.t1 t ht).1 (h.t1 t ht).2.1 (h.t1 t ht).2.2).2).trans (List.map_id _)
end Go.Proofs.YtoibondihdhnoaaGreatDoor
