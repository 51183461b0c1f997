/- Texts in one: Walks: an event is read. -/
import Derived.Test.YtoibondihdhnoaaGreatDoorFRY8
import Derived.Test.YtoibondihdhnoaaGreatDoorFRY39
import Derived.Test.YtoibondihdhnoaaGreatDoorFRY14
namespace Go.Proofs.YtoibondihdhnoaaGreatDoor
open Go.RowKit
set_option maxRecDepth 100000
set_option maxHeartbeats 2000000
abbrev Kd:Type:=ByteArray×Value
def Ct (q:Kd) : List AV:=[S q.1,.lit q.2]
attribute [go_sem] Ct
def nL (l:List Kd) (k:Nat) : Kd:=l.getD k (ByteArray.empty,undef)
theorem Cu {l:List Kd} {k:Nat} (h:k < l.length) : nL l k=l[k]:=by simp [nL,h]
theorem MA {l:List Kd} {k:Nat} (h:k < l.length) : l[k]=nL l k:=(Cu h).symm
attribute [go_sem] MA
def kdL:List Kd:=[(⟨#[97,114,114,105,118,101]⟩,.func (.func 224) #[] #[]),(⟨#[115,101,114,118,101]⟩,.func (.func 225) #[] #[]),(⟨#[100,101,99,108,105,110,101]⟩,.func (.func 226) #[] #[]),(⟨#[108,101,97,118,101]⟩,.func (.func 227) #[] #[]),(⟨#[99,97,108,108]⟩,.func (.func 228) #[] #[]),(⟨#[114,101,116,117,114,110]⟩,.func (.func 229) #[] #[])]
theorem Gw (q:Kd) (w:List ByteArray) (h:0 < w.length) (h1:cQ (.lit q.2)=true) : VC Tryz.prog 108 [.agg [S q.1,.lit q.2],.vp [iT w]] (B (decide (q.1=tat w 0))):=by
 have e:w[0]=tat w 0:=(ie h).symm;obtain ⟨a,v⟩:=q;simp only at h1 ⊢;refine aJ Tryz.func108 rfl (by kernel_rfl) rfl fun M0 w0=>?_;simp only [Tryz.ntmps108,Tryz.results108,aC];repeat' first|(with_reducible first|apply af|apply ae|apply aw|apply aa|refine ah [] ?_|apply aP|((first|apply ab|apply aO);intro X Y;go_simp;apply Y;clear Y X))|((refine bf 7 7 [] rfl (by kernel_rfl) ?_);simp only [aA])
 go_simp
theorem MB (l:List Kd) (w:List ByteArray) (hw:0 < w.length) (hl:l.length≤1000000) (h1:∀ q∈l,cQ (.lit q.2)=true) : VC Tryz.prog 107 [.sl 2 (l.map Ct),.fn (.func 108) [] [.vp [iT w]]] (I (ixP (fun j=>decide ((nL l j).1=tat w 0)) 0 l.length)):=by
 obtain ⟨R,hR⟩ : ∃ R,ixP (fun j=>decide ((nL l j).1=tat w 0)) 0 l.length=R:=⟨_,rfl⟩
 rw [hR];have HR:=Lib.hid hR;have H1:=Lib.hid h1;clear hR h1;refine aJ Tryz.func107 rfl (by kernel_rfl) rfl fun M0 w0=>?_;simp only [Tryz.ntmps107,Tryz.results107,aC];repeat' with_reducible first|apply af|apply ae|apply az|apply aa|refine ah [] ?_|(apply ab;intro X Y;go_simp;apply Y;clear Y X)
 apply ef [0,1,7] (fun k=>[(8,I k)]) (fun k=>([] : Hp)) (fun j=>decide ((nL l j).1=tat w 0)) (l.length)
 ·go_simp<;>exact rfl
 ·go_simp
 ·intro k hk HB HP K hK;obtain ⟨w1,w2,w3,w4,w5,w6⟩:=ixs (m:=k) (by omega);have ho:=H1.out _ (by rw [Cu hk];exact List.getElem_mem hk:nL l k∈l);have g:=Gw (nL l k) w hw ho;have hp:=HP.out;rw [hp] at g;clear hp;repeat' first|(with_reducible first|apply af|apply ae|apply ao|apply az|apply aY|apply aa|refine ah [] ?_|(apply au;·go_simp)|(apply aj;·go_simp))|((with_reducible apply ab);intro X Y;go_simp;(first|(refine ⟨_,g,?_⟩)|skip);apply Y;clear Y X)
  refine hK _ ?_;go_simp
 ·intro k hk HB HP K;have ho:=H1.out _ (by rw [Cu hk];exact List.getElem_mem hk:nL l k∈l);have g:=Gw (nL l k) w hw ho;have hp:=HP.out;rw [hp] at g;clear hp;have e:=HR.out;rw [kp hk HB.out HP.out] at e;subst e;repeat' first|(with_reducible first|apply af|apply ae|apply aR|apply aw|apply ao|apply az|apply cB|apply aa|refine ah [] ?_|(apply au;·go_simp))|((with_reducible apply ab);intro X Y;go_simp;(first|(refine ⟨_,g,?_⟩)|skip);apply Y;clear Y X)
  go_simp
 ·intro HB K;have e:=HR.out;rw [kQ HB.out] at e;subst e;repeat (with_reducible first|apply af|apply ae|apply bE|apply aw|apply bF|apply bG|apply aa|refine ah [] ?_|(apply aj;·go_simp)|(apply ab;intro X Y;go_simp;apply Y;clear Y X))
  go_simp
theorem Gx (l:List ByteArray) (x:ByteArray) (hl:l.length≤1000000) : VC Tryz.prog 106 [iT l,S x] (B (gz (isT l x) 0 l.length)):=by
 have g:=vW l x hl;rw [←yK];generalize ixP (isT l x) 0 l.length=R at *;refine aJ Tryz.func106 rfl (by kernel_rfl) rfl fun M0 w0=>?_;simp only [Tryz.ntmps106,Tryz.results106,aC];repeat' with_reducible first|apply af|apply ae|apply aw|apply aa|refine ah [] ?_|(apply ab;intro X Y;go_simp;(first|(refine ⟨_,g,?_⟩)|skip);apply Y;clear Y X)
 go_simp
def wE:Ev:=⟨0,0,0,⟨#[]⟩⟩
def ma (a:ByteArray) : Int:=ixP (fun j=>decide ((nL kdL j).1=a)) 0 6
def za (w:List ByteArray) : Int:=
 fst [unl (decide (0≤ma (tat w 0))&&oQ (tat w 1).data.toList&&oQ (tat w 2).data.toList) 7,unl (!decide (ma (tat w 0)=4) || decide (tat w 3=⟨#[45]⟩)) 3,unl (decide (ma (tat w 0)=4) || dj (tat w 3)) 4]
def wF (w:List ByteArray) : Bool:=!decide (w.length=4) || gz (isT w ⟨#[]⟩) 0 w.length
def evP (w:List ByteArray) : Ev×Int:=
 if wF w=true then (wE,7) else if za w≠0 then (wE,za w) else (⟨ma (tat w 0),uk (tat w 1).data.toList,uk (tat w 2).data.toList,if ma (tat w 0)=4 then ⟨#[]⟩ else tat w 3⟩,0)
theorem MC (s:ByteArray) (hs:s.size≤1000) (hb:wF (jF 32 s)=true) : VC Tryz.prog 46 [S s] (.tup [evA wE,I 7]):=by
 have g1:=F1 s 32 (by omega);have mm:=FZ 32 s;have g2:=Gx (jF 32 s) ⟨#[]⟩ (by omega);unfold wF at hb;unfold wE;generalize jF 32 s=w at *;by_cases h4:w.length=4
 ·rw [decide_eq_true h4,Bool.not_true,Bool.false_or] at hb;rw [hb] at g2;have h5:(w.length:Int)=4:=by omega
  clear hb mm;refine aJ Tryz.func46 rfl (by kernel_rfl) rfl fun M0 w0=>?_;simp only [Tryz.ntmps46,Tryz.results46,aC];repeat' with_reducible first|apply af|apply ae|apply aR|apply aw|apply aa|refine ah [] ?_|(apply au;·go_simp)|(apply ab;intro X Y;go_simp;(first|(refine ⟨_,g1,?_⟩)|(refine ⟨_,g2,?_⟩)|skip);apply Y;clear Y X)
  all_goals go_simp
 ·have h5:¬(w.length:Int)=4:=by omega
  clear hb mm;refine aJ Tryz.func46 rfl (by kernel_rfl) rfl fun M0 w0=>?_;simp only [Tryz.ntmps46,Tryz.results46,aC];repeat' with_reducible first|apply af|apply ae|apply aR|apply aw|apply aa|refine ah [] ?_|(apply au;·go_simp)|(apply ab;intro X Y;go_simp;(first|(refine ⟨_,g1,?_⟩)|skip);apply Y;clear Y X)
  all_goals go_simp
theorem MD (s:ByteArray) (hs:s.size≤1000) : VC Tryz.prog 46 [S s] (.tup [evA (evP (jF 32 s)).1,I (evP (jF 32 s)).2]):=by
 by_cases hb:wF (jF 32 s)=true
 ·have h:=MC s hs hb;unfold evP;rw [if_pos hb];exact h
 unfold evP;rw [if_neg hb];have g1:=F1 s 32 (by omega);have mm:=FZ 32 s;have g2:=Gx (jF 32 s) ⟨#[]⟩ (by omega);have zb:∀ p∈jF 32 s,p.size≤1000:=fun p hp=>Nat.le_trans (Ly hp) hs;unfold wF at hb;generalize jF 32 s=w at *;have h4:w.length=4:=by
  by_cases h:w.length=4
  ·exact h
  ·rw [decide_eq_false h] at hb;simp at hb
 have iy:gz (isT w ⟨#[]⟩) 0 w.length=false:=by
  rw [decide_eq_true h4] at hb;simpa using hb
 rw [iy] at g2;have h5:(w.length:Int)=4:=by omega
 have a1:w[1]=tat w 1:=(ie (by omega)).symm;have a2:w[2]=tat w 2:=(ie (by omega)).symm;have a3:w[3]=tat w 3:=(ie (by omega)).symm;have z1:(tat w 1).size≤1000:=by rw [←a1];exact zb _ (List.getElem_mem _)
 have z2:(tat w 2).size≤1000:=by rw [←a2];exact zb _ (List.getElem_mem _)
 have z3:(tat w 3).size≤1000:=by rw [←a3];exact zb _ (List.getElem_mem _)
 have g3:VC Tryz.prog 107 [.sl 2 (kdL.map Ct),.fn (.func 108) [] [.vp [iT w]]] (I (ma (tat w 0))):=MB kdL w (by omega) (by decide) (fun q hq=>by
  simp only [kdL,List.mem_cons,List.not_mem_nil,or_false] at hq;rcases hq with rfl|rfl|rfl|rfl|rfl|rfl<;>rfl)
 have g4:=F3 (tat w 1) (by omega);have g5:=F3 (tat w 2) (by omega);have g6:=tW (tat w 3) z3;have u1:=bY (decide (0≤ma (tat w 0))&&oQ (tat w 1).data.toList&&oQ (tat w 2).data.toList) 7;have u2:=bY (!decide (ma (tat w 0)=4) || decide (tat w 3=⟨#[45]⟩)) 3;have u3:=bY (decide (ma (tat w 0)=4) || dj (tat w 3)) 4;have g7:VC Tryz.prog 88 [.sl 1 ([unl (decide (0≤ma (tat w 0))&&oQ (tat w 1).data.toList&&oQ (tat w 2).data.toList) 7,unl (!decide (ma (tat w 0)=4) || decide (tat w 3=⟨#[45]⟩)) 3,unl (decide (ma (tat w 0)=4) || dj (tat w 3)) 4].map eK)] (I (za w)):=fF _ rfl rfl;generalize za w=E at *;generalize oQ (tat w 1).data.toList=O1 at *;generalize oQ (tat w 2).data.toList=O2 at *;generalize uk (tat w 1).data.toList=N1 at *;generalize uk (tat w 2).data.toList=N2 at *;generalize dj (tat w 3)=D3 at *;unfold wE;generalize ma (tat w 0)=KI at *;clear iy hb zb mm z1 z2 z3;refine aJ Tryz.func46 rfl (by kernel_rfl) rfl fun M0 w0=>?_;simp only [Tryz.ntmps46,Tryz.results46,aC];repeat' with_reducible apply af
 refine ah [] ?_;repeat' with_reducible first|apply af|apply ae|apply aa|(apply ab;intro X Y;go_simp;apply Y;clear Y X)
 refine ah [] ?_;repeat' with_reducible first|apply af|apply ae|apply aa|(apply ab;intro X Y;go_simp;(first|(refine ⟨_,g1,?_⟩)|skip);apply Y;clear Y X)
 refine ah [] ?_;repeat' first|(with_reducible first|apply af|apply ae|apply ao|apply aa|(apply aj;·go_simp)|(apply ab;intro X Y;go_simp;apply Y;clear Y X))|((apply qS rfl);(focus (go_simp<;>exact rfl));(focus (go_simp;done));(focus (intro hb0;replace hb0:=hb0.out;go_simp<;>(exact g2)));intro X Y;go_simp;refine Y _ ?_;clear Y X)
 refine eC (I9 rfl rfl ME rfl (by decide) rfl (by decide) rfl ?_);refine bM [] 3 ⟨rfl,rfl⟩ ?_;simp only [aA];repeat' first|with_reducible apply aa|((with_reducible apply ab);intro X Y;go_simp;(first|(refine ⟨_,⟨g3,rfl⟩,?_⟩)|skip);apply Y;clear Y X)
 apply da;clear g1 g2 g3;have hE:∀ (a b:Ev),((if E≠0 then (a,E) else (b,0))=if E=0 then (b,0) else (a,E)):=fun a b=>by
  by_cases h:E=0
  ·rw [if_pos h,if_neg (by simp [h])]
  ·rw [if_neg h,if_pos h]
 rw [hE];clear hE;by_cases mw:KI=4
 ·subst mw;have d0:decide ((0:Int)≤4)=true:=rfl;have d1:decide ((4:Int)=4)=true:=rfl;rw [d0,Bool.true_and] at u1;rw [d1,Bool.not_true,Bool.false_or] at u2;rw [d1,Bool.true_or] at u3;rw [d0,d1,Bool.true_and,Bool.not_true,Bool.false_or,Bool.true_or] at g7;rw [if_pos rfl];generalize unl true 4=A3 at *;generalize unl (decide (tat w 3=⟨#[45]⟩)) 3=A2 at *;clear d0 d1;by_cases he:E=0
  ·subst he;rw [if_pos rfl];cases O1<;>cases O2;all_goals simp only [Bool.true_and,Bool.false_and] at u1 g7
   all_goals generalize unl _ 7=A1 at *
   all_goals
    repeat' first|(with_reducible first|apply af|apply ae|apply aw|apply ao|apply aa|refine ah [] ?_|(apply au;·go_simp)|(apply aj;·go_simp))|((with_reducible apply ab);intro X Y;go_simp;(first|(with_reducible refine ⟨_,g4,?_⟩)|(with_reducible refine ⟨_,g5,?_⟩)|(with_reducible refine ⟨_,u1,?_⟩)|(with_reducible refine ⟨_,u2,?_⟩)|(with_reducible refine ⟨_,u3,?_⟩)|(refine ⟨_,g7,?_⟩)|skip);apply Y;clear Y X)
    go_simp
  ·rw [if_neg he];cases O1<;>cases O2;all_goals simp only [Bool.true_and,Bool.false_and] at u1 g7
   all_goals generalize unl _ 7=A1 at *
   all_goals
    repeat' first|(with_reducible first|apply af|apply ae|apply aR|apply aw|apply aa|refine ah [] ?_|(apply au;·go_simp))|((with_reducible apply ab);intro X Y;go_simp;(first|(with_reducible refine ⟨_,g4,?_⟩)|(with_reducible refine ⟨_,g5,?_⟩)|(with_reducible refine ⟨_,u1,?_⟩)|(with_reducible refine ⟨_,u2,?_⟩)|(with_reducible refine ⟨_,u3,?_⟩)|(refine ⟨_,g7,?_⟩)|skip);apply Y;clear Y X)
    go_simp
 ·rw [decide_eq_false mw,Bool.not_false,Bool.true_or] at u2;rw [decide_eq_false mw,Bool.false_or] at u3;rw [decide_eq_false mw,Bool.not_false,Bool.true_or,Bool.false_or] at g7;rw [if_neg mw];generalize unl true 3=A2 at *;generalize unl D3 4=A3 at *;by_cases h0:0≤KI
  ·rw [decide_eq_true h0,Bool.true_and] at u1 g7;by_cases he:E=0
   ·subst he;rw [if_pos rfl];cases O1<;>cases O2;all_goals simp only [Bool.true_and,Bool.false_and] at u1 g7
    all_goals generalize unl _ 7=A1 at *
    all_goals
     repeat' first|(with_reducible first|apply af|apply ae|apply aw|apply ao|apply aa|refine ah [] ?_|(apply aj;·go_simp))|((with_reducible apply ab);intro X Y;go_simp;(first|(with_reducible refine ⟨_,g4,?_⟩)|(with_reducible refine ⟨_,g5,?_⟩)|(with_reducible refine ⟨_,g6,?_⟩)|(with_reducible refine ⟨_,u1,?_⟩)|(with_reducible refine ⟨_,u2,?_⟩)|(with_reducible refine ⟨_,u3,?_⟩)|(refine ⟨_,g7,?_⟩)|skip);apply Y;clear Y X)
     go_simp
   ·rw [if_neg he];cases O1<;>cases O2;all_goals simp only [Bool.true_and,Bool.false_and] at u1 g7
    all_goals generalize unl _ 7=A1 at *
    all_goals
     repeat' first|(with_reducible first|apply af|apply ae|apply aR|apply aw|apply aa|refine ah [] ?_|(apply au;·go_simp))|((with_reducible apply ab);intro X Y;go_simp;(first|(with_reducible refine ⟨_,g4,?_⟩)|(with_reducible refine ⟨_,g5,?_⟩)|(with_reducible refine ⟨_,g6,?_⟩)|(with_reducible refine ⟨_,u1,?_⟩)|(with_reducible refine ⟨_,u2,?_⟩)|(with_reducible refine ⟨_,u3,?_⟩)|(refine ⟨_,g7,?_⟩)|skip);apply Y;clear Y X)
     go_simp
  ·rw [decide_eq_false h0,Bool.false_and,Bool.false_and] at u1 g7;generalize unl false 7=A1 at *;by_cases he:E=0
   ·subst he;rw [if_pos rfl];repeat' first|(with_reducible first|apply af|apply ae|apply aw|apply ao|apply aa|refine ah [] ?_|(apply aj;·go_simp))|((with_reducible apply ab);intro X Y;go_simp;(first|(with_reducible refine ⟨_,g4,?_⟩)|(with_reducible refine ⟨_,g5,?_⟩)|(with_reducible refine ⟨_,g6,?_⟩)|(with_reducible refine ⟨_,u1,?_⟩)|(with_reducible refine ⟨_,u2,?_⟩)|(with_reducible refine ⟨_,u3,?_⟩)|(refine ⟨_,g7,?_⟩)|skip);apply Y;clear Y X)
    go_simp
   ·rw [if_neg he];repeat' first|(with_reducible first|apply af|apply ae|apply aR|apply aw|apply aa|refine ah [] ?_|(apply au;·go_simp))|((with_reducible apply ab);intro X Y;go_simp;(first|(with_reducible refine ⟨_,g4,?_⟩)|(with_reducible refine ⟨_,g5,?_⟩)|(with_reducible refine ⟨_,g6,?_⟩)|(with_reducible refine ⟨_,u1,?_⟩)|(with_reducible refine ⟨_,u2,?_⟩)|(with_reducible refine ⟨_,u3,?_⟩)|(refine ⟨_,g7,?_⟩)|skip);apply Y;clear Y X)
    go_simp
end Go.Proofs.YtoibondihdhnoaaGreatDoor
