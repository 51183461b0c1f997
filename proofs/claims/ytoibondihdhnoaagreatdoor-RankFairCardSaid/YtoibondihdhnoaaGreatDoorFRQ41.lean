/- Texts in one: Walks: an event is read. -/
import Derived.Test.YtoibondihdhnoaaGreatDoorFRQ9
import Derived.Test.YtoibondihdhnoaaGreatDoorFRQ40
import Derived.Test.YtoibondihdhnoaaGreatDoorFRQ15
import Derived.Test.YtoibondihdhnoaaGreatDoorFRQ39
namespace Go.Proofs.YtoibondihdhnoaaGreatDoor
open Go.RowKit
set_option maxRecDepth 100000
set_option maxHeartbeats 2000000
abbrev Kd:Type:=ByteArray×Value
def BS (q:Kd) : List AV:=[S q.1,.lit q.2]
attribute [go_sem] BS
def nF (l:List Kd) (k:Nat) : Kd:=l.getD k (ByteArray.empty,undef)
theorem BT {l:List Kd} {k:Nat} (h:k < l.length) : nF l k=l[k]:=by simp [nF,h]
theorem Mm {l:List Kd} {k:Nat} (h:k < l.length) : l[k]=nF l k:=(BT h).symm
attribute [go_sem] Mm
def kdL:List Kd:=[(⟨#[97,114,114,105,118,101]⟩,.func (.func 224) #[] #[]),(⟨#[115,101,114,118,101]⟩,.func (.func 225) #[] #[]),(⟨#[100,101,99,108,105,110,101]⟩,.func (.func 226) #[] #[]),(⟨#[108,101,97,118,101]⟩,.func (.func 227) #[] #[]),(⟨#[99,97,108,108]⟩,.func (.func 228) #[] #[]),(⟨#[114,101,116,117,114,110]⟩,.func (.func 229) #[] #[])]
theorem Ga (q:Kd) (w:List ByteArray) (h:0 < w.length) (h1:cP (.lit q.2)=true) : VC Tryz.prog 108 [.agg [S q.1,.lit q.2],.vp [jm w]] (B (decide (q.1=tat w 0))):=by
 have e:w[0]=tat w 0:=(iK h).symm;obtain ⟨a,v⟩:=q;simp only at h1 ⊢;refine aL Tryz.func108 rfl (by kernel_rfl) rfl fun M0 w0=>?_;simp only [Tryz.ntmps108,Tryz.results108,aC];repeat' first|(with_reducible first|apply af|apply ae|apply az|apply aa|refine ah [] ?_|apply aQ|((first|apply ab|apply aR);intro X Y;go_simp;apply Y;clear Y X))|((refine bw 7 7 [] rfl (by kernel_rfl) ?_);simp only [au])
 go_simp
theorem Mn (l:List Kd) (w:List ByteArray) (hw:0 < w.length) (hl:l.length≤1000000) (h1:∀ q∈l,cP (.lit q.2)=true) : VC Tryz.prog 107 [.sl 2 (l.map BS),.fn (.func 108) [] [.vp [jm w]]] (I (ixP (fun j=>decide ((nF l j).1=tat w 0)) 0 l.length)):=by
 obtain ⟨R,hR⟩ : ∃ R,ixP (fun j=>decide ((nF l j).1=tat w 0)) 0 l.length=R:=⟨_,rfl⟩
 rw [hR];have HR:=Lib.hid hR;have H1:=Lib.hid h1;clear hR h1;refine aL Tryz.func107 rfl (by kernel_rfl) rfl fun M0 w0=>?_;simp only [Tryz.ntmps107,Tryz.results107,aC];repeat' with_reducible first|apply af|apply ae|apply aE|apply aa|refine ah [] ?_|(apply ab;intro X Y;go_simp;apply Y;clear Y X)
 apply gy [0,1,7] (fun k=>[(8,I k)]) (fun k=>([] : Hp)) (fun j=>decide ((nF l j).1=tat w 0)) (l.length)
 ·go_simp<;>exact rfl
 ·go_simp
 ·intro k hk HB HP K hK;obtain ⟨w1,w2,w3,w4,w5,w6⟩:=ixs (m:=k) (by omega);have ho:=H1.out _ (by rw [BT hk];exact List.getElem_mem hk:nF l k∈l);have g:=Ga (nF l k) w hw ho;have hp:=HP.out;rw [hp] at g;clear hp;repeat' first|(with_reducible first|apply af|apply ae|apply aw|apply aE|apply bc|apply aa|refine ah [] ?_|(apply ax;·go_simp)|(apply ar;·go_simp))|((with_reducible apply ab);intro X Y;go_simp;(first|(refine ⟨_,g,?_⟩)|skip);apply Y;clear Y X)
  refine hK _ ?_;go_simp
 ·intro k hk HB HP K;have ho:=H1.out _ (by rw [BT hk];exact List.getElem_mem hk:nF l k∈l);have g:=Ga (nF l k) w hw ho;have hp:=HP.out;rw [hp] at g;clear hp;have e:=HR.out;rw [kq hk HB.out HP.out] at e;subst e;repeat' first|(with_reducible first|apply af|apply ae|apply aW|apply az|apply aw|apply aE|apply dh|apply aa|refine ah [] ?_|(apply ax;·go_simp))|((with_reducible apply ab);intro X Y;go_simp;(first|(refine ⟨_,g,?_⟩)|skip);apply Y;clear Y X)
  go_simp
 ·intro HB K;have e:=HR.out;rw [lg HB.out] at e;subst e;repeat (with_reducible first|apply af|apply ae|apply bU|apply az|apply bV|apply bW|apply aa|refine ah [] ?_|(apply ar;·go_simp)|(apply ab;intro X Y;go_simp;apply Y;clear Y X))
  go_simp
theorem Gb (l:List ByteArray) (x:ByteArray) (hl:l.length≤1000000) : VC Tryz.prog 106 [jm l,S x] (B (iu (isT l x) 0 l.length)):=by
 have g:=ui l x hl;rw [←xW];generalize ixP (isT l x) 0 l.length=R at *;refine aL Tryz.func106 rfl (by kernel_rfl) rfl fun M0 w0=>?_;simp only [Tryz.ntmps106,Tryz.results106,aC];repeat' with_reducible first|apply af|apply ae|apply az|apply aa|refine ah [] ?_|(apply ab;intro X Y;go_simp;(first|(refine ⟨_,g,?_⟩)|skip);apply Y;clear Y X)
 go_simp
def vS:Ev:=⟨0,0,0,⟨#[]⟩⟩
def l7 (a:ByteArray) : Int:=ixP (fun j=>decide ((nF kdL j).1=a)) 0 6
def yS (w:List ByteArray) : Int:=
 fst [unl (decide (0≤l7 (tat w 0))&&oJ (tat w 1).data.toList&&oJ (tat w 2).data.toList) 7,unl (!decide (l7 (tat w 0)=4) || decide (tat w 3=⟨#[45]⟩)) 3,unl (decide (l7 (tat w 0)=4) || cu (tat w 3)) 4]
def vT (w:List ByteArray) : Bool:=!decide (w.length=4) || iu (isT w ⟨#[]⟩) 0 w.length
def evP (w:List ByteArray) : Ev×Int:=
 if vT w=true then (vS,7) else if yS w≠0 then (vS,yS w) else (⟨l7 (tat w 0),tK (tat w 1).data.toList,tK (tat w 2).data.toList,if l7 (tat w 0)=4 then ⟨#[]⟩ else tat w 3⟩,0)
theorem Mo (s:ByteArray) (hs:s.size≤1000) (hb:vT (jE 32 s)=true) : VC Tryz.prog 46 [S s] (.tup [evA vS,I 7]):=by
 have g1:=Fz s 32 (by omega);have mj:=Fx 32 s;have g2:=Gb (jE 32 s) ⟨#[]⟩ (by omega);unfold vT at hb;unfold vS;generalize jE 32 s=w at *;by_cases h4:w.length=4
 ·rw [decide_eq_true h4,Bool.not_true,Bool.false_or] at hb;rw [hb] at g2;have h5:(w.length:Int)=4:=by omega
  clear hb mj;refine aL Tryz.func46 rfl (by kernel_rfl) rfl fun M0 w0=>?_;simp only [Tryz.ntmps46,Tryz.results46,aC];repeat' with_reducible first|apply af|apply ae|apply aW|apply az|apply aa|refine ah [] ?_|(apply ax;·go_simp)|(apply ab;intro X Y;go_simp;(first|(refine ⟨_,g1,?_⟩)|(refine ⟨_,g2,?_⟩)|skip);apply Y;clear Y X)
  all_goals go_simp
 ·have h5:¬(w.length:Int)=4:=by omega
  clear hb mj;refine aL Tryz.func46 rfl (by kernel_rfl) rfl fun M0 w0=>?_;simp only [Tryz.ntmps46,Tryz.results46,aC];repeat' with_reducible first|apply af|apply ae|apply aW|apply az|apply aa|refine ah [] ?_|(apply ax;·go_simp)|(apply ab;intro X Y;go_simp;(first|(refine ⟨_,g1,?_⟩)|skip);apply Y;clear Y X)
  all_goals go_simp
theorem Mp (s:ByteArray) (hs:s.size≤1000) : VC Tryz.prog 46 [S s] (.tup [evA (evP (jE 32 s)).1,I (evP (jE 32 s)).2]):=by
 by_cases hb:vT (jE 32 s)=true
 ·have h:=Mo s hs hb;unfold evP;rw [if_pos hb];exact h
 unfold evP;rw [if_neg hb];have g1:=Fz s 32 (by omega);have mj:=Fx 32 s;have g2:=Gb (jE 32 s) ⟨#[]⟩ (by omega);have yT:∀ p∈jE 32 s,p.size≤1000:=fun p hp=>Nat.le_trans (KK hp) hs;unfold vT at hb;generalize jE 32 s=w at *;have h4:w.length=4:=by
  by_cases h:w.length=4
  ·exact h
  ·rw [decide_eq_false h] at hb;simp at hb
 have iz:iu (isT w ⟨#[]⟩) 0 w.length=false:=by
  rw [decide_eq_true h4] at hb;simpa using hb
 rw [iz] at g2;have h5:(w.length:Int)=4:=by omega
 have a1:w[1]=tat w 1:=(iK (by omega)).symm;have a2:w[2]=tat w 2:=(iK (by omega)).symm;have a3:w[3]=tat w 3:=(iK (by omega)).symm;have z1:(tat w 1).size≤1000:=by rw [←a1];exact yT _ (List.getElem_mem _)
 have z2:(tat w 2).size≤1000:=by rw [←a2];exact yT _ (List.getElem_mem _)
 have z3:(tat w 3).size≤1000:=by rw [←a3];exact yT _ (List.getElem_mem _)
 have g3:VC Tryz.prog 107 [.sl 2 (kdL.map BS),.fn (.func 108) [] [.vp [jm w]]] (I (l7 (tat w 0))):=Mn kdL w (by omega) (by decide) (fun q hq=>by
  simp only [kdL,List.mem_cons,List.not_mem_nil,or_false] at hq;rcases hq with rfl|rfl|rfl|rfl|rfl|rfl<;>rfl)
 have g4:=FB (tat w 1) (by omega);have g5:=FB (tat w 2) (by omega);have g6:=oW (tat w 3) z3;have u1:=bN (decide (0≤l7 (tat w 0))&&oJ (tat w 1).data.toList&&oJ (tat w 2).data.toList) 7;have u2:=bN (!decide (l7 (tat w 0)=4) || decide (tat w 3=⟨#[45]⟩)) 3;have u3:=bN (decide (l7 (tat w 0)=4) || cu (tat w 3)) 4;have g7:VC Tryz.prog 88 [.sl 1 ([unl (decide (0≤l7 (tat w 0))&&oJ (tat w 1).data.toList&&oJ (tat w 2).data.toList) 7,unl (!decide (l7 (tat w 0)=4) || decide (tat w 3=⟨#[45]⟩)) 3,unl (decide (l7 (tat w 0)=4) || cu (tat w 3)) 4].map dt)] (I (yS w)):=eL _ rfl rfl;generalize yS w=E at *;generalize oJ (tat w 1).data.toList=O1 at *;generalize oJ (tat w 2).data.toList=O2 at *;generalize tK (tat w 1).data.toList=N1 at *;generalize tK (tat w 2).data.toList=N2 at *;generalize cu (tat w 3)=D3 at *;unfold vS;generalize l7 (tat w 0)=KI at *;clear iz hb yT mj z1 z2 z3;refine aL Tryz.func46 rfl (by kernel_rfl) rfl fun M0 w0=>?_;simp only [Tryz.ntmps46,Tryz.results46,aC];repeat' with_reducible apply af
 refine ah [] ?_;repeat' with_reducible first|apply af|apply ae|apply aa|(apply ab;intro X Y;go_simp;apply Y;clear Y X)
 refine ah [] ?_;repeat' with_reducible first|apply af|apply ae|apply aa|(apply ab;intro X Y;go_simp;(first|(refine ⟨_,g1,?_⟩)|skip);apply Y;clear Y X)
 refine ah [] ?_;repeat' first|(with_reducible first|apply af|apply ae|apply aw|apply aa|(apply ar;·go_simp)|(apply ab;intro X Y;go_simp;apply Y;clear Y X))|((apply pY rfl);(focus (go_simp<;>exact rfl));(focus (go_simp;done));(focus (intro hb0;replace hb0:=hb0.out;go_simp<;>(exact g2)));intro X Y;go_simp;refine Y _ ?_;clear Y X)
 refine dm (I4 rfl rfl Mq rfl (by decide) rfl (by decide) rfl ?_);refine bb [] 3 ⟨rfl,rfl⟩ ?_;simp only [au];repeat' first|with_reducible apply aa|((with_reducible apply ab);intro X Y;go_simp;(first|(refine ⟨_,⟨g3,rfl⟩,?_⟩)|skip);apply Y;clear Y X)
 apply cF;clear g1 g2 g3;have hE:∀ (a b:Ev),((if E≠0 then (a,E) else (b,0))=if E=0 then (b,0) else (a,E)):=fun a b=>by
  by_cases h:E=0
  ·rw [if_pos h,if_neg (by simp [h])]
  ·rw [if_neg h,if_pos h]
 rw [hE];clear hE;by_cases qg:KI=4
 ·subst qg;have d0:decide ((0:Int)≤4)=true:=rfl;have d1:decide ((4:Int)=4)=true:=rfl;rw [d0,Bool.true_and] at u1;rw [d1,Bool.not_true,Bool.false_or] at u2;rw [d1,Bool.true_or] at u3;rw [d0,d1,Bool.true_and,Bool.not_true,Bool.false_or,Bool.true_or] at g7;rw [if_pos rfl];generalize unl true 4=A3 at *;generalize unl (decide (tat w 3=⟨#[45]⟩)) 3=A2 at *;clear d0 d1;by_cases he:E=0
  ·subst he;rw [if_pos rfl];cases O1<;>cases O2;all_goals simp only [Bool.true_and,Bool.false_and] at u1 g7
   all_goals generalize unl _ 7=A1 at *
   all_goals
    repeat' first|(with_reducible first|apply af|apply ae|apply az|apply aw|apply aa|refine ah [] ?_|(apply ax;·go_simp)|(apply ar;·go_simp))|((with_reducible apply ab);intro X Y;go_simp;(first|(with_reducible refine ⟨_,g4,?_⟩)|(with_reducible refine ⟨_,g5,?_⟩)|(with_reducible refine ⟨_,u1,?_⟩)|(with_reducible refine ⟨_,u2,?_⟩)|(with_reducible refine ⟨_,u3,?_⟩)|(refine ⟨_,g7,?_⟩)|skip);apply Y;clear Y X)
    go_simp
  ·rw [if_neg he];cases O1<;>cases O2;all_goals simp only [Bool.true_and,Bool.false_and] at u1 g7
   all_goals generalize unl _ 7=A1 at *
   all_goals
    repeat' first|(with_reducible first|apply af|apply ae|apply aW|apply az|apply aa|refine ah [] ?_|(apply ax;·go_simp))|((with_reducible apply ab);intro X Y;go_simp;(first|(with_reducible refine ⟨_,g4,?_⟩)|(with_reducible refine ⟨_,g5,?_⟩)|(with_reducible refine ⟨_,u1,?_⟩)|(with_reducible refine ⟨_,u2,?_⟩)|(with_reducible refine ⟨_,u3,?_⟩)|(refine ⟨_,g7,?_⟩)|skip);apply Y;clear Y X)
    go_simp
 ·rw [decide_eq_false qg,Bool.not_false,Bool.true_or] at u2;rw [decide_eq_false qg,Bool.false_or] at u3;rw [decide_eq_false qg,Bool.not_false,Bool.true_or,Bool.false_or] at g7;rw [if_neg qg];generalize unl true 3=A2 at *;generalize unl D3 4=A3 at *;by_cases h0:0≤KI
  ·rw [decide_eq_true h0,Bool.true_and] at u1 g7;by_cases he:E=0
   ·subst he;rw [if_pos rfl];cases O1<;>cases O2;all_goals simp only [Bool.true_and,Bool.false_and] at u1 g7
    all_goals generalize unl _ 7=A1 at *
    all_goals
     repeat' first|(with_reducible first|apply af|apply ae|apply az|apply aw|apply aa|refine ah [] ?_|(apply ar;·go_simp))|((with_reducible apply ab);intro X Y;go_simp;(first|(with_reducible refine ⟨_,g4,?_⟩)|(with_reducible refine ⟨_,g5,?_⟩)|(with_reducible refine ⟨_,g6,?_⟩)|(with_reducible refine ⟨_,u1,?_⟩)|(with_reducible refine ⟨_,u2,?_⟩)|(with_reducible refine ⟨_,u3,?_⟩)|(refine ⟨_,g7,?_⟩)|skip);apply Y;clear Y X)
     go_simp
   ·rw [if_neg he];cases O1<;>cases O2;all_goals simp only [Bool.true_and,Bool.false_and] at u1 g7
    all_goals generalize unl _ 7=A1 at *
    all_goals
     repeat' first|(with_reducible first|apply af|apply ae|apply aW|apply az|apply aa|refine ah [] ?_|(apply ax;·go_simp))|((with_reducible apply ab);intro X Y;go_simp;(first|(with_reducible refine ⟨_,g4,?_⟩)|(with_reducible refine ⟨_,g5,?_⟩)|(with_reducible refine ⟨_,g6,?_⟩)|(with_reducible refine ⟨_,u1,?_⟩)|(with_reducible refine ⟨_,u2,?_⟩)|(with_reducible refine ⟨_,u3,?_⟩)|(refine ⟨_,g7,?_⟩)|skip);apply Y;clear Y X)
     go_simp
  ·rw [decide_eq_false h0,Bool.false_and,Bool.false_and] at u1 g7;generalize unl false 7=A1 at *;by_cases he:E=0
   ·subst he;rw [if_pos rfl];repeat' first|(with_reducible first|apply af|apply ae|apply az|apply aw|apply aa|refine ah [] ?_|(apply ar;·go_simp))|((with_reducible apply ab);intro X Y;go_simp;(first|(with_reducible refine ⟨_,g4,?_⟩)|(with_reducible refine ⟨_,g5,?_⟩)|(with_reducible refine ⟨_,g6,?_⟩)|(with_reducible refine ⟨_,u1,?_⟩)|(with_reducible refine ⟨_,u2,?_⟩)|(with_reducible refine ⟨_,u3,?_⟩)|(refine ⟨_,g7,?_⟩)|skip);apply Y;clear Y X)
    go_simp
   ·rw [if_neg he];repeat' first|(with_reducible first|apply af|apply ae|apply aW|apply az|apply aa|refine ah [] ?_|(apply ax;·go_simp))|((with_reducible apply ab);intro X Y;go_simp;(first|(with_reducible refine ⟨_,g4,?_⟩)|(with_reducible refine ⟨_,g5,?_⟩)|(with_reducible refine ⟨_,g6,?_⟩)|(with_reducible refine ⟨_,u1,?_⟩)|(with_reducible refine ⟨_,u2,?_⟩)|(with_reducible refine ⟨_,u3,?_⟩)|(refine ⟨_,g7,?_⟩)|skip);apply Y;clear Y X)
    go_simp
theorem BU {s:ByteArray} (h:cu s=true) : s≠⟨#[]⟩:=by
 intro e;subst e;cases h
structure ToldS (s:St) : Prop where
 q1:0 < s.q.length
 q2:∀ l∈s.q,∀ c∈l,cu c=true
 t1:∀ t∈s.tk,cu t.car=true∧(-999999999≤t.time∧t.time≤999999999)∧(-999999999≤t.rank∧t.rank≤999999999)
 tm : -999999999≤s.time∧s.time≤999999999
end Go.Proofs.YtoibondihdhnoaaGreatDoor
