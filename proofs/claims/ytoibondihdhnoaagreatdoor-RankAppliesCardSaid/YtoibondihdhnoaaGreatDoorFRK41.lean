/- Texts in one: Walks: an event is read. -/
import Derived.Test.YtoibondihdhnoaaGreatDoorFRK9
import Derived.Test.YtoibondihdhnoaaGreatDoorFRK40
import Derived.Test.YtoibondihdhnoaaGreatDoorFRK15
namespace Go.Proofs.YtoibondihdhnoaaGreatDoor
open Go.RowKit
set_option maxRecDepth 100000
set_option maxHeartbeats 2000000
abbrev Kd:Type:=ByteArray×Value
def BX (q:Kd) : List AV:=[S q.1,.lit q.2]
attribute [go_sem] BX
def nK (l:List Kd) (k:Nat) : Kd:=l.getD k (ByteArray.empty,undef)
theorem BY {l:List Kd} {k:Nat} (h:k < l.length) : nK l k=l[k]:=by simp [nK,h]
theorem Mf {l:List Kd} {k:Nat} (h:k < l.length) : l[k]=nK l k:=(BY h).symm
attribute [go_sem] Mf
def kdL:List Kd:=[(⟨#[97,114,114,105,118,101]⟩,.func (.func 224) #[] #[]),(⟨#[115,101,114,118,101]⟩,.func (.func 225) #[] #[]),(⟨#[100,101,99,108,105,110,101]⟩,.func (.func 226) #[] #[]),(⟨#[108,101,97,118,101]⟩,.func (.func 227) #[] #[]),(⟨#[99,97,108,108]⟩,.func (.func 228) #[] #[]),(⟨#[114,101,116,117,114,110]⟩,.func (.func 229) #[] #[])]
theorem F9 (q:Kd) (w:List ByteArray) (h:0 < w.length) (h1:cV (.lit q.2)=true) : VC Tryz.prog 108 [.agg [S q.1,.lit q.2],.vp [iP w]] (B (decide (q.1=tat w 0))):=by
 have e:w[0]=tat w 0:=(dE h).symm;obtain ⟨a,v⟩:=q;simp only at h1 ⊢;refine aQ Tryz.func108 rfl (by kernel_rfl) rfl fun M0 w0=>?_;simp only [Tryz.ntmps108,Tryz.results108,aB];repeat' first|(with_reducible first|apply af|apply ae|apply az|apply aa|refine ah [] ?_|apply aR|((first|apply ab|apply aS);intro X Y;go_simp;apply Y;clear Y X))|((refine bg 7 7 [] rfl (by kernel_rfl) ?_);simp only [ax])
 go_simp
theorem Mg (l:List Kd) (w:List ByteArray) (hw:0 < w.length) (hl:l.length≤1000000) (h1:∀ q∈l,cV (.lit q.2)=true) : VC Tryz.prog 107 [.sl 2 (l.map BX),.fn (.func 108) [] [.vp [iP w]]] (I (ixP (fun j=>decide ((nK l j).1=tat w 0)) 0 l.length)):=by
 obtain ⟨R,hR⟩ : ∃ R,ixP (fun j=>decide ((nK l j).1=tat w 0)) 0 l.length=R:=⟨_,rfl⟩
 rw [hR];have HR:=Lib.hid hR;have H1:=Lib.hid h1;clear hR h1;refine aQ Tryz.func107 rfl (by kernel_rfl) rfl fun M0 w0=>?_;simp only [Tryz.ntmps107,Tryz.results107,aB];repeat' with_reducible first|apply af|apply ae|apply aA|apply aa|refine ah [] ?_|(apply ab;intro X Y;go_simp;apply Y;clear Y X)
 apply dI [0,1,7] (fun k=>[(8,I k)]) (fun k=>([] : Hp)) (fun j=>decide ((nK l j).1=tat w 0)) (l.length)
 ·go_simp<;>exact rfl
 ·go_simp
 ·intro k hk HB HP K hK;obtain ⟨w1,w2,w3,w4,w5,w6⟩:=ixs (m:=k) (by omega);have ho:=H1.out _ (by rw [BY hk];exact List.getElem_mem hk:nK l k∈l);have g:=F9 (nK l k) w hw ho;have hp:=HP.out;rw [hp] at g;clear hp;repeat' first|(with_reducible first|apply af|apply ae|apply ar|apply aA|apply bf|apply aa|refine ah [] ?_|(apply aw;·go_simp)|(apply ak;·go_simp))|((with_reducible apply ab);intro X Y;go_simp;(first|(refine ⟨_,g,?_⟩)|skip);apply Y;clear Y X)
  refine hK _ ?_;go_simp
 ·intro k hk HB HP K;have ho:=H1.out _ (by rw [BY hk];exact List.getElem_mem hk:nK l k∈l);have g:=F9 (nK l k) w hw ho;have hp:=HP.out;rw [hp] at g;clear hp;have e:=HR.out;rw [kr hk HB.out HP.out] at e;subst e;repeat' first|(with_reducible first|apply af|apply ae|apply aT|apply az|apply ar|apply aA|apply cG|apply aa|refine ah [] ?_|(apply aw;·go_simp))|((with_reducible apply ab);intro X Y;go_simp;(first|(refine ⟨_,g,?_⟩)|skip);apply Y;clear Y X)
  go_simp
 ·intro HB K;have e:=HR.out;rw [ll HB.out] at e;subst e;repeat (with_reducible first|apply af|apply ae|apply bP|apply az|apply bQ|apply bT|apply aa|refine ah [] ?_|(apply ak;·go_simp)|(apply ab;intro X Y;go_simp;apply Y;clear Y X))
  go_simp
theorem F_ (l:List ByteArray) (x:ByteArray) (hl:l.length≤1000000) : VC Tryz.prog 106 [iP l,S x] (B (gg (isT l x) 0 l.length)):=by
 have g:=ur l x hl;rw [←yh];generalize ixP (isT l x) 0 l.length=R at *;refine aQ Tryz.func106 rfl (by kernel_rfl) rfl fun M0 w0=>?_;simp only [Tryz.ntmps106,Tryz.results106,aB];repeat' with_reducible first|apply af|apply ae|apply az|apply aa|refine ah [] ?_|(apply ab;intro X Y;go_simp;(first|(refine ⟨_,g,?_⟩)|skip);apply Y;clear Y X)
 go_simp
def vV:Ev:=⟨0,0,0,⟨#[]⟩⟩
def l8 (a:ByteArray) : Int:=ixP (fun j=>decide ((nK kdL j).1=a)) 0 6
def y4 (w:List ByteArray) : Int:=
 fst [unl (decide (0≤l8 (tat w 0))&&oP (tat w 1).data.toList&&oP (tat w 2).data.toList) 7,unl (!decide (l8 (tat w 0)=4) || decide (tat w 3=⟨#[45]⟩)) 3,unl (decide (l8 (tat w 0)=4) || cI (tat w 3)) 4]
def vW (w:List ByteArray) : Bool:=!decide (w.length=4) || gg (isT w ⟨#[]⟩) 0 w.length
def evP (w:List ByteArray) : Ev×Int:=
 if vW w=true then (vV,7) else if y4 w≠0 then (vV,y4 w) else (⟨l8 (tat w 0),tR (tat w 1).data.toList,tR (tat w 2).data.toList,if l8 (tat w 0)=4 then ⟨#[]⟩ else tat w 3⟩,0)
theorem Mh (s:ByteArray) (hs:s.size≤1000) (hb:vW (jL 32 s)=true) : VC Tryz.prog 46 [S s] (.tup [evA vV,I 7]):=by
 have g1:=FX s 32 (by omega);have gp:=FV 32 s;have g2:=F_ (jL 32 s) ⟨#[]⟩ (by omega);unfold vW at hb;unfold vV;generalize jL 32 s=w at *;by_cases h4:w.length=4
 ·rw [decide_eq_true h4,Bool.not_true,Bool.false_or] at hb;rw [hb] at g2;have h5:(w.length:Int)=4:=by omega
  clear hb gp;refine aQ Tryz.func46 rfl (by kernel_rfl) rfl fun M0 w0=>?_;simp only [Tryz.ntmps46,Tryz.results46,aB];repeat' with_reducible first|apply af|apply ae|apply aT|apply az|apply aa|refine ah [] ?_|(apply aw;·go_simp)|(apply ab;intro X Y;go_simp;(first|(refine ⟨_,g1,?_⟩)|(refine ⟨_,g2,?_⟩)|skip);apply Y;clear Y X)
  all_goals go_simp
 ·have h5:¬(w.length:Int)=4:=by omega
  clear hb gp;refine aQ Tryz.func46 rfl (by kernel_rfl) rfl fun M0 w0=>?_;simp only [Tryz.ntmps46,Tryz.results46,aB];repeat' with_reducible first|apply af|apply ae|apply aT|apply az|apply aa|refine ah [] ?_|(apply aw;·go_simp)|(apply ab;intro X Y;go_simp;(first|(refine ⟨_,g1,?_⟩)|skip);apply Y;clear Y X)
  all_goals go_simp
theorem Mi (s:ByteArray) (hs:s.size≤1000) : VC Tryz.prog 46 [S s] (.tup [evA (evP (jL 32 s)).1,I (evP (jL 32 s)).2]):=by
 by_cases hb:vW (jL 32 s)=true
 ·have h:=Mh s hs hb;unfold evP;rw [if_pos hb];exact h
 unfold evP;rw [if_neg hb];have g1:=FX s 32 (by omega);have gp:=FV 32 s;have g2:=F_ (jL 32 s) ⟨#[]⟩ (by omega);have y7:∀ p∈jL 32 s,p.size≤1000:=fun p hp=>Nat.le_trans (Lu hp) hs;unfold vW at hb;generalize jL 32 s=w at *;have h4:w.length=4:=by
  by_cases h:w.length=4
  ·exact h
  ·rw [decide_eq_false h] at hb;simp at hb
 have iF:gg (isT w ⟨#[]⟩) 0 w.length=false:=by
  rw [decide_eq_true h4] at hb;simpa using hb
 rw [iF] at g2;have h5:(w.length:Int)=4:=by omega
 have a1:w[1]=tat w 1:=(dE (by omega)).symm;have a2:w[2]=tat w 2:=(dE (by omega)).symm;have a3:w[3]=tat w 3:=(dE (by omega)).symm;have z1:(tat w 1).size≤1000:=by rw [←a1];exact y7 _ (List.getElem_mem _)
 have z2:(tat w 2).size≤1000:=by rw [←a2];exact y7 _ (List.getElem_mem _)
 have z3:(tat w 3).size≤1000:=by rw [←a3];exact y7 _ (List.getElem_mem _)
 have g3:VC Tryz.prog 107 [.sl 2 (kdL.map BX),.fn (.func 108) [] [.vp [iP w]]] (I (l8 (tat w 0))):=Mg kdL w (by omega) (by decide) (fun q hq=>by
  simp only [kdL,List.mem_cons,List.not_mem_nil,or_false] at hq;rcases hq with rfl|rfl|rfl|rfl|rfl|rfl<;>rfl)
 have g4:=FZ (tat w 1) (by omega);have g5:=FZ (tat w 2) (by omega);have g6:=ri (tat w 3) z3;have u1:=bH (decide (0≤l8 (tat w 0))&&oP (tat w 1).data.toList&&oP (tat w 2).data.toList) 7;have u2:=bH (!decide (l8 (tat w 0)=4) || decide (tat w 3=⟨#[45]⟩)) 3;have u3:=bH (decide (l8 (tat w 0)=4) || cI (tat w 3)) 4;have g7:VC Tryz.prog 88 [.sl 1 ([unl (decide (0≤l8 (tat w 0))&&oP (tat w 1).data.toList&&oP (tat w 2).data.toList) 7,unl (!decide (l8 (tat w 0)=4) || decide (tat w 3=⟨#[45]⟩)) 3,unl (decide (l8 (tat w 0)=4) || cI (tat w 3)) 4].map dN)] (I (y4 w)):=eX _ rfl rfl;generalize y4 w=E at *;generalize oP (tat w 1).data.toList=O1 at *;generalize oP (tat w 2).data.toList=O2 at *;generalize tR (tat w 1).data.toList=N1 at *;generalize tR (tat w 2).data.toList=N2 at *;generalize cI (tat w 3)=D3 at *;unfold vV;generalize l8 (tat w 0)=KI at *;clear iF hb y7 gp z1 z2 z3;refine aQ Tryz.func46 rfl (by kernel_rfl) rfl fun M0 w0=>?_;simp only [Tryz.ntmps46,Tryz.results46,aB];repeat' with_reducible apply af
 refine ah [] ?_;repeat' with_reducible first|apply af|apply ae|apply aa|(apply ab;intro X Y;go_simp;apply Y;clear Y X)
 refine ah [] ?_;repeat' with_reducible first|apply af|apply ae|apply aa|(apply ab;intro X Y;go_simp;(first|(refine ⟨_,g1,?_⟩)|skip);apply Y;clear Y X)
 refine ah [] ?_;repeat' first|(with_reducible first|apply af|apply ae|apply ar|apply aa|(apply ak;·go_simp)|(apply ab;intro X Y;go_simp;apply Y;clear Y X))|((apply p_ rfl);(focus (go_simp<;>exact rfl));(focus (go_simp;done));(focus (intro hb0;replace hb0:=hb0.out;go_simp<;>(exact g2)));intro X Y;go_simp;refine Y _ ?_;clear Y X)
 refine dB (IS rfl rfl Mj rfl (by decide) rfl (by decide) rfl ?_);refine bz [] 3 ⟨rfl,rfl⟩ ?_;simp only [ax];repeat' first|with_reducible apply aa|((with_reducible apply ab);intro X Y;go_simp;(first|(refine ⟨_,⟨g3,rfl⟩,?_⟩)|skip);apply Y;clear Y X)
 apply cR;clear g1 g2 g3;have hE:∀ (a b:Ev),((if E≠0 then (a,E) else (b,0))=if E=0 then (b,0) else (a,E)):=fun a b=>by
  by_cases h:E=0
  ·rw [if_pos h,if_neg (by simp [h])]
  ·rw [if_neg h,if_pos h]
 rw [hE];clear hE;by_cases qp:KI=4
 ·subst qp;have d0:decide ((0:Int)≤4)=true:=rfl;have d1:decide ((4:Int)=4)=true:=rfl;rw [d0,Bool.true_and] at u1;rw [d1,Bool.not_true,Bool.false_or] at u2;rw [d1,Bool.true_or] at u3;rw [d0,d1,Bool.true_and,Bool.not_true,Bool.false_or,Bool.true_or] at g7;rw [if_pos rfl];generalize unl true 4=A3 at *;generalize unl (decide (tat w 3=⟨#[45]⟩)) 3=A2 at *;clear d0 d1;by_cases he:E=0
  ·subst he;rw [if_pos rfl];cases O1<;>cases O2;all_goals simp only [Bool.true_and,Bool.false_and] at u1 g7
   all_goals generalize unl _ 7=A1 at *
   all_goals
    repeat' first|(with_reducible first|apply af|apply ae|apply az|apply ar|apply aa|refine ah [] ?_|(apply aw;·go_simp)|(apply ak;·go_simp))|((with_reducible apply ab);intro X Y;go_simp;(first|(with_reducible refine ⟨_,g4,?_⟩)|(with_reducible refine ⟨_,g5,?_⟩)|(with_reducible refine ⟨_,u1,?_⟩)|(with_reducible refine ⟨_,u2,?_⟩)|(with_reducible refine ⟨_,u3,?_⟩)|(refine ⟨_,g7,?_⟩)|skip);apply Y;clear Y X)
    go_simp
  ·rw [if_neg he];cases O1<;>cases O2;all_goals simp only [Bool.true_and,Bool.false_and] at u1 g7
   all_goals generalize unl _ 7=A1 at *
   all_goals
    repeat' first|(with_reducible first|apply af|apply ae|apply aT|apply az|apply aa|refine ah [] ?_|(apply aw;·go_simp))|((with_reducible apply ab);intro X Y;go_simp;(first|(with_reducible refine ⟨_,g4,?_⟩)|(with_reducible refine ⟨_,g5,?_⟩)|(with_reducible refine ⟨_,u1,?_⟩)|(with_reducible refine ⟨_,u2,?_⟩)|(with_reducible refine ⟨_,u3,?_⟩)|(refine ⟨_,g7,?_⟩)|skip);apply Y;clear Y X)
    go_simp
 ·rw [decide_eq_false qp,Bool.not_false,Bool.true_or] at u2;rw [decide_eq_false qp,Bool.false_or] at u3;rw [decide_eq_false qp,Bool.not_false,Bool.true_or,Bool.false_or] at g7;rw [if_neg qp];generalize unl true 3=A2 at *;generalize unl D3 4=A3 at *;by_cases h0:0≤KI
  ·rw [decide_eq_true h0,Bool.true_and] at u1 g7;by_cases he:E=0
   ·subst he;rw [if_pos rfl];cases O1<;>cases O2;all_goals simp only [Bool.true_and,Bool.false_and] at u1 g7
    all_goals generalize unl _ 7=A1 at *
    all_goals
     repeat' first|(with_reducible first|apply af|apply ae|apply az|apply ar|apply aa|refine ah [] ?_|(apply ak;·go_simp))|((with_reducible apply ab);intro X Y;go_simp;(first|(with_reducible refine ⟨_,g4,?_⟩)|(with_reducible refine ⟨_,g5,?_⟩)|(with_reducible refine ⟨_,g6,?_⟩)|(with_reducible refine ⟨_,u1,?_⟩)|(with_reducible refine ⟨_,u2,?_⟩)|(with_reducible refine ⟨_,u3,?_⟩)|(refine ⟨_,g7,?_⟩)|skip);apply Y;clear Y X)
     go_simp
   ·rw [if_neg he];cases O1<;>cases O2;all_goals simp only [Bool.true_and,Bool.false_and] at u1 g7
    all_goals generalize unl _ 7=A1 at *
    all_goals
     repeat' first|(with_reducible first|apply af|apply ae|apply aT|apply az|apply aa|refine ah [] ?_|(apply aw;·go_simp))|((with_reducible apply ab);intro X Y;go_simp;(first|(with_reducible refine ⟨_,g4,?_⟩)|(with_reducible refine ⟨_,g5,?_⟩)|(with_reducible refine ⟨_,g6,?_⟩)|(with_reducible refine ⟨_,u1,?_⟩)|(with_reducible refine ⟨_,u2,?_⟩)|(with_reducible refine ⟨_,u3,?_⟩)|(refine ⟨_,g7,?_⟩)|skip);apply Y;clear Y X)
     go_simp
  ·rw [decide_eq_false h0,Bool.false_and,Bool.false_and] at u1 g7;generalize unl false 7=A1 at *;by_cases he:E=0
   ·subst he;rw [if_pos rfl];repeat' first|(with_reducible first|apply af|apply ae|apply az|apply ar|apply aa|refine ah [] ?_|(apply ak;·go_simp))|((with_reducible apply ab);intro X Y;go_simp;(first|(with_reducible refine ⟨_,g4,?_⟩)|(with_reducible refine ⟨_,g5,?_⟩)|(with_reducible refine ⟨_,g6,?_⟩)|(with_reducible refine ⟨_,u1,?_⟩)|(with_reducible refine ⟨_,u2,?_⟩)|(with_reducible refine ⟨_,u3,?_⟩)|(refine ⟨_,g7,?_⟩)|skip);apply Y;clear Y X)
    go_simp
   ·rw [if_neg he];repeat' first|(with_reducible first|apply af|apply ae|apply aT|apply az|apply aa|refine ah [] ?_|(apply aw;·go_simp))|((with_reducible apply ab);intro X Y;go_simp;(first|(with_reducible refine ⟨_,g4,?_⟩)|(with_reducible refine ⟨_,g5,?_⟩)|(with_reducible refine ⟨_,g6,?_⟩)|(with_reducible refine ⟨_,u1,?_⟩)|(with_reducible refine ⟨_,u2,?_⟩)|(with_reducible refine ⟨_,u3,?_⟩)|(refine ⟨_,g7,?_⟩)|skip);apply Y;clear Y X)
    go_simp
end Go.Proofs.YtoibondihdhnoaaGreatDoor
