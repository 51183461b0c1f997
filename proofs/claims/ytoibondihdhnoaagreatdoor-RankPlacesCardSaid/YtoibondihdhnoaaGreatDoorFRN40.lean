/- Texts in one: Walks: an event is read. -/
import Derived.Test.YtoibondihdhnoaaGreatDoorFRN39
import Derived.Test.YtoibondihdhnoaaGreatDoorFRN14
namespace Go.Proofs.YtoibondihdhnoaaGreatDoor
open Go.RowKit
set_option maxRecDepth 100000
set_option maxHeartbeats 2000000
abbrev Kd:Type:=ByteArray×Value
def d2e (q:Kd) : List AV:=[S q.1,.lit q.2]
attribute [go_sem] d2e
def b9n (l:List Kd) (k:Nat) : Kd:=l.getD k (ByteArray.empty,undef)
theorem a7r {l:List Kd} {k:Nat} (h:k < l.length) : b9n l k=l[k]:=by simp [b9n,h]
theorem d2f {l:List Kd} {k:Nat} (h:k < l.length) : l[k]=b9n l k:=(a7r h).symm
attribute [go_sem] d2f
def kdL:List Kd:=[(⟨#[97,114,114,105,118,101]⟩,.func (.func 224) #[] #[]),(⟨#[115,101,114,118,101]⟩,.func (.func 225) #[] #[]),(⟨#[100,101,99,108,105,110,101]⟩,.func (.func 226) #[] #[]),(⟨#[108,101,97,118,101]⟩,.func (.func 227) #[] #[]),(⟨#[99,97,108,108]⟩,.func (.func 228) #[] #[]),(⟨#[114,101,116,117,114,110]⟩,.func (.func 229) #[] #[])]
theorem c5h (q:Kd) (w:List ByteArray) (h:0 < w.length) (h1:f7_ (.lit q.2)=true) : VC Tryz.prog 108 [.agg [S q.1,.lit q.2],.vp [r5_ w]] (B (decide (q.1=tat w 0))):=by
 have e:w[0]=tat w 0:=(c9_ h).symm;obtain ⟨a,v⟩:=q;simp only at h1 ⊢;refine c2_ Tryz.func108 rfl (by kernel_rfl) (by kernel_rfl) rfl fun M0 w0=>?_;simp only [Tryz.ntmps108,Tryz.results108,b4_];repeat' first|(with_reducible first|apply a8_|apply a3_|apply c4_|apply a1_|refine a2_ [] ?_|apply a5_)|((with_reducible first|refine a0_ fun X Y=>?_|refine a4_ fun X Y=>?_);go_simp;refine Y _ ?_;clear Y X)|((refine b2_ 7 7 [] rfl (by kernel_rfl) (by kernel_rfl) ?_);simp only [List.take,List.drop])
 go_simp
theorem d0f (l:List Kd) (w:List ByteArray) (hw:0 < w.length) (hl:l.length≤1000000) (h1:∀ q∈l,f7_ (.lit q.2)=true) : VC Tryz.prog 107 [.sl 2 (l.map d2e),.fn (.func 108) [] [.vp [r5_ w]]] (I (ixP (fun j=>decide ((b9n l j).1=tat w 0)) 0 l.length)):=by
 obtain ⟨R,hR⟩ : ∃ R,ixP (fun j=>decide ((b9n l j).1=tat w 0)) 0 l.length=R:=⟨_,rfl⟩
 rw [hR];have HR:=Lib.hid hR;have H1:=Lib.hid h1;clear hR h1;refine c2_ Tryz.func107 rfl (by kernel_rfl) (by kernel_rfl) rfl fun M0 w0=>?_;simp only [Tryz.ntmps107,Tryz.results107,b4_];repeat' first|(with_reducible first|apply a8_|apply a3_|apply a9_|apply a1_|refine a2_ [] ?_)|((with_reducible refine a0_ fun X Y=>?_);go_simp;refine Y _ ?_;clear Y X)
 apply u8_ [0,1,7] (fun k=>[(8,I k)]) (fun k=>([] : Hp)) (fun j=>decide ((b9n l j).1=tat w 0)) (l.length)
 ·go_simp<;>exact rfl
 ·go_simp
 ·intro k hk HB HP K hK;obtain ⟨w1,w2,w3,w4,w5,w6⟩:=ixs (m:=k) (by omega);have ho:=H1.out _ (by rw [a7r hk];exact List.getElem_mem hk:b9n l k∈l);have g:=c5h (b9n l k) w hw ho;have hp:=HP.out;rw [hp] at g;clear hp;repeat' first|(with_reducible first|apply a8_|apply a3_|apply b1_|apply a9_|apply b3_|apply a1_|refine a2_ [] ?_)|((with_reducible refine a7_ ?_ ?_);(focus (go_simp;done)))|((with_reducible refine a6_ ?_ ?_);(focus (go_simp;done)))|((with_reducible refine a0_ fun X Y=>?_);go_simp;(first|(refine ⟨_,g,?_⟩)|skip);refine Y _ ?_;clear Y X)
  refine hK _ ?_;go_simp
 ·intro k hk HB HP K;have ho:=H1.out _ (by rw [a7r hk];exact List.getElem_mem hk:b9n l k∈l);have g:=c5h (b9n l k) w hw ho;have hp:=HP.out;rw [hp] at g;clear hp;have e:=HR.out;rw [j3_ hk HB.out HP.out] at e;subst e;repeat' first|(with_reducible first|apply a8_|apply a3_|apply b5_|apply c4_|apply b1_|apply a9_|apply c8_|apply a1_|refine a2_ [] ?_)|((with_reducible refine a7_ ?_ ?_);(focus (go_simp;done)))|((with_reducible refine a0_ fun X Y=>?_);go_simp;(first|(refine ⟨_,g,?_⟩)|skip);refine Y _ ?_;clear Y X)
  go_simp
 ·intro HB K;have e:=HR.out;rw [j8_ HB.out] at e;subst e;repeat (first|(with_reducible first|apply a8_|apply a3_|apply b8_|apply c4_|apply d0_|apply b7_|apply a1_|refine a2_ [] ?_)|((with_reducible refine a6_ ?_ ?_);(focus (go_simp;done)))|((with_reducible refine a0_ fun X Y=>?_);go_simp;refine Y _ ?_;clear Y X))
  go_simp
theorem a5t (l:List ByteArray) (x:ByteArray) (hl:l.length≤1000000) : VC Tryz.prog 106 [r5_ l,S x] (B (a2w (isT l x) 0 l.length)):=by
 have g:=a4p l x hl;rw [←b1h];generalize ixP (isT l x) 0 l.length=R at *;refine c2_ Tryz.func106 rfl (by kernel_rfl) (by kernel_rfl) rfl fun M0 w0=>?_;simp only [Tryz.ntmps106,Tryz.results106,b4_];repeat' first|(with_reducible first|apply a8_|apply a3_|apply c4_|apply a1_|refine a2_ [] ?_)|((with_reducible refine a0_ fun X Y=>?_);go_simp;(first|(with_reducible refine ⟨_,g,?_⟩)|skip);refine Y _ ?_;clear Y X)
 go_simp
def a9s:Ev:=⟨0,0,0,⟨#[]⟩⟩
def s6_ (a:ByteArray) : Int:=ixP (fun j=>decide ((b9n kdL j).1=a)) 0 6
def d1n (w:List ByteArray) : Int:=
 fst [unl (decide (0≤s6_ (tat w 0))&&z1_ (tat w 1).data.toList&&z1_ (tat w 2).data.toList) 7,unl (!decide (s6_ (tat w 0)=4) || decide (tat w 3=⟨#[45]⟩)) 3,unl (decide (s6_ (tat w 0)=4) || c5_ (tat w 3)) 4]
def d0g (w:List ByteArray) : Bool:=!decide (w.length=4) || a2w (isT w ⟨#[]⟩) 0 w.length
def evP (w:List ByteArray) : Ev×Int:=
 if d0g w=true then (a9s,7) else if d1n w≠0 then (a9s,d1n w) else (⟨s6_ (tat w 0),b5q (tat w 1).data.toList,b5q (tat w 2).data.toList,if s6_ (tat w 0)=4 then ⟨#[]⟩ else tat w 3⟩,0)
theorem a7s (s:ByteArray) (hs:s.size≤1000) (hb:d0g (l8_ 32 s)=true) : VC Tryz.prog 46 [S s] (.tup [evA a9s,I 7]):=by
 have g1:=b8j s 32 (by omega);have hpl:=a5l 32 s;have g2:=a5t (l8_ 32 s) ⟨#[]⟩ (by omega);unfold d0g at hb;unfold a9s;generalize l8_ 32 s=w at *;by_cases h4:w.length=4
 ·rw [decide_eq_true h4,Bool.not_true,Bool.false_or] at hb;rw [hb] at g2;have h5:(w.length:Int)=4:=by omega
  clear hb hpl;refine c2_ Tryz.func46 rfl (by kernel_rfl) (by kernel_rfl) rfl fun M0 w0=>?_;simp only [Tryz.ntmps46,Tryz.results46,b4_];repeat' first|(with_reducible first|apply a8_|apply a3_|apply b5_|apply c4_|apply a1_|refine a2_ [] ?_)|((with_reducible refine a7_ ?_ ?_);(focus (go_simp;done)))|((with_reducible refine a0_ fun X Y=>?_);go_simp;(first|(with_reducible refine ⟨_,g1,?_⟩)|(with_reducible refine ⟨_,g2,?_⟩)|skip);refine Y _ ?_;clear Y X)
  all_goals go_simp
 ·have h5:¬(w.length:Int)=4:=by omega
  clear hb hpl;refine c2_ Tryz.func46 rfl (by kernel_rfl) (by kernel_rfl) rfl fun M0 w0=>?_;simp only [Tryz.ntmps46,Tryz.results46,b4_];repeat' first|(with_reducible first|apply a8_|apply a3_|apply b5_|apply c4_|apply a1_|refine a2_ [] ?_)|((with_reducible refine a7_ ?_ ?_);(focus (go_simp;done)))|((with_reducible refine a0_ fun X Y=>?_);go_simp;(first|(with_reducible refine ⟨_,g1,?_⟩)|skip);refine Y _ ?_;clear Y X)
  all_goals go_simp
theorem a9t (s:ByteArray) (hs:s.size≤1000) : VC Tryz.prog 46 [S s] (.tup [evA (evP (l8_ 32 s)).1,I (evP (l8_ 32 s)).2]):=by
 by_cases hb:d0g (l8_ 32 s)=true
 ·have h:=a7s s hs hb;unfold evP;rw [if_pos hb];exact h
 unfold evP;rw [if_neg hb];have g1:=b8j s 32 (by omega);have hpl:=a5l 32 s;have g2:=a5t (l8_ 32 s) ⟨#[]⟩ (by omega);have hps:∀ p∈l8_ 32 s,p.size≤1000:=fun p hp=>Nat.le_trans (b1k hp) hs;unfold d0g at hb;generalize l8_ 32 s=w at *;have h4:w.length=4:=by
  by_cases h:w.length=4
  ·exact h
  ·rw [decide_eq_false h] at hb;simp at hb
 have hany:a2w (isT w ⟨#[]⟩) 0 w.length=false:=by
  rw [decide_eq_true h4] at hb;simpa using hb
 rw [hany] at g2;have h5:(w.length:Int)=4:=by omega
 have a1:w[1]=tat w 1:=(c9_ (by omega)).symm;have a2:w[2]=tat w 2:=(c9_ (by omega)).symm;have a3:w[3]=tat w 3:=(c9_ (by omega)).symm;have z1:(tat w 1).size≤1000:=by rw [←a1];exact hps _ (List.getElem_mem _)
 have z2:(tat w 2).size≤1000:=by rw [←a2];exact hps _ (List.getElem_mem _)
 have z3:(tat w 3).size≤1000:=by rw [←a3];exact hps _ (List.getElem_mem _)
 have g3:VC Tryz.prog 107 [.sl 2 (kdL.map d2e),.fn (.func 108) [] [.vp [r5_ w]]] (I (s6_ (tat w 0))):=d0f kdL w (by omega) (by decide) (fun q hq=>by
  simp only [kdL,List.mem_cons,List.not_mem_nil,or_false] at hq;rcases hq with rfl|rfl|rfl|rfl|rfl|rfl<;>rfl)
 have g4:=b3o (tat w 1) (by omega);have g5:=b3o (tat w 2) (by omega);have g6:=m6_ (tat w 3) z3;have u1:=b0_ (decide (0≤s6_ (tat w 0))&&z1_ (tat w 1).data.toList&&z1_ (tat w 2).data.toList) 7;have u2:=b0_ (!decide (s6_ (tat w 0)=4) || decide (tat w 3=⟨#[45]⟩)) 3;have u3:=b0_ (decide (s6_ (tat w 0)=4) || c5_ (tat w 3)) 4;have g7:VC Tryz.prog 88 [.sl 1 ([unl (decide (0≤s6_ (tat w 0))&&z1_ (tat w 1).data.toList&&z1_ (tat w 2).data.toList) 7,unl (!decide (s6_ (tat w 0)=4) || decide (tat w 3=⟨#[45]⟩)) 3,unl (decide (s6_ (tat w 0)=4) || c5_ (tat w 3)) 4].map p9_)] (I (d1n w)):=c6_ _ rfl rfl;generalize d1n w=E at *;generalize z1_ (tat w 1).data.toList=O1 at *;generalize z1_ (tat w 2).data.toList=O2 at *;generalize b5q (tat w 1).data.toList=N1 at *;generalize b5q (tat w 2).data.toList=N2 at *;generalize c5_ (tat w 3)=D3 at *;unfold a9s;generalize s6_ (tat w 0)=KI at *;clear hany hb hps hpl z1 z2 z3;refine c2_ Tryz.func46 rfl (by kernel_rfl) (by kernel_rfl) rfl fun M0 w0=>?_;simp only [Tryz.ntmps46,Tryz.results46,b4_];repeat' with_reducible apply a8_
 refine a2_ [] ?_;repeat' first|(with_reducible first|apply a8_|apply a3_|apply a1_)|((with_reducible refine a0_ fun X Y=>?_);go_simp;refine Y _ ?_;clear Y X)
 refine a2_ [] ?_;repeat' first|(with_reducible first|apply a8_|apply a3_|apply a1_)|((with_reducible refine a0_ fun X Y=>?_);go_simp;(first|(with_reducible refine ⟨_,g1,?_⟩)|skip);refine Y _ ?_;clear Y X)
 refine a2_ [] ?_;repeat' first|(with_reducible first|apply a8_|apply a3_|apply b1_|apply a1_)|((with_reducible refine a6_ ?_ ?_);(focus (go_simp;done)))|((with_reducible refine a0_ fun X Y=>?_);go_simp;refine Y _ ?_;clear Y X)|((apply j2_ rfl);(focus (go_simp<;>exact rfl));(focus (go_simp;done));(focus (intro hb0;replace hb0:=hb0.out;go_simp<;>(exact g2)));intro X Y;go_simp;refine Y _ ?_;clear Y X)
 refine c7_ (c9i rfl rfl d2p rfl (by decide) rfl (by decide) rfl ?_);refine c0_ [] 3 ⟨rfl,rfl⟩ ?_;simp only [List.take,List.drop];repeat' first|with_reducible apply a1_|((with_reducible refine a0_ fun X Y=>?_);go_simp;(first|(refine ⟨_,⟨g3,rfl⟩,?_⟩)|skip);refine Y _ ?_;clear Y X)
 apply d6_;clear g1 g2 g3;have hE:∀ (a b:Ev),((if E≠0 then (a,E) else (b,0))=if E=0 then (b,0) else (a,E)):=fun a b=>by
  by_cases h:E=0
  ·rw [if_pos h,if_neg (by simp [h])]
  ·rw [if_neg h,if_pos h]
 rw [hE];clear hE;by_cases hk4:KI=4
 ·subst hk4;have d0:decide ((0:Int)≤4)=true:=rfl;have d1:decide ((4:Int)=4)=true:=rfl;rw [d0,Bool.true_and] at u1;rw [d1,Bool.not_true,Bool.false_or] at u2;rw [d1,Bool.true_or] at u3;rw [d0,d1,Bool.true_and,Bool.not_true,Bool.false_or,Bool.true_or] at g7;rw [if_pos rfl];generalize unl true 4=A3 at *;generalize unl (decide (tat w 3=⟨#[45]⟩)) 3=A2 at *;clear d0 d1;by_cases he:E=0
  ·subst he;rw [if_pos rfl];cases O1<;>cases O2;all_goals simp only [Bool.true_and,Bool.false_and] at u1 g7
   all_goals generalize unl _ 7=A1 at *
   all_goals
    repeat' first|(with_reducible first|apply a8_|apply a3_|apply c4_|apply b1_|apply a1_|refine a2_ [] ?_)|((with_reducible refine a7_ ?_ ?_);(focus (go_simp;done)))|((with_reducible refine a6_ ?_ ?_);(focus (go_simp;done)))|((with_reducible refine a0_ fun X Y=>?_);go_simp;(first|(with_reducible refine ⟨_,g4,?_⟩)|(with_reducible refine ⟨_,g5,?_⟩)|(with_reducible refine ⟨_,u1,?_⟩)|(with_reducible refine ⟨_,u2,?_⟩)|(with_reducible refine ⟨_,u3,?_⟩)|(refine ⟨_,g7,?_⟩)|skip);refine Y _ ?_;clear Y X)
    go_simp
  ·rw [if_neg he];cases O1<;>cases O2;all_goals simp only [Bool.true_and,Bool.false_and] at u1 g7
   all_goals generalize unl _ 7=A1 at *
   all_goals
    repeat' first|(with_reducible first|apply a8_|apply a3_|apply b5_|apply c4_|apply a1_|refine a2_ [] ?_)|((with_reducible refine a7_ ?_ ?_);(focus (go_simp;done)))|((with_reducible refine a0_ fun X Y=>?_);go_simp;(first|(with_reducible refine ⟨_,g4,?_⟩)|(with_reducible refine ⟨_,g5,?_⟩)|(with_reducible refine ⟨_,u1,?_⟩)|(with_reducible refine ⟨_,u2,?_⟩)|(with_reducible refine ⟨_,u3,?_⟩)|(refine ⟨_,g7,?_⟩)|skip);refine Y _ ?_;clear Y X)
    go_simp
 ·rw [decide_eq_false hk4,Bool.not_false,Bool.true_or] at u2;rw [decide_eq_false hk4,Bool.false_or] at u3;rw [decide_eq_false hk4,Bool.not_false,Bool.true_or,Bool.false_or] at g7;rw [if_neg hk4];generalize unl true 3=A2 at *;generalize unl D3 4=A3 at *;by_cases h0:0≤KI
  ·rw [decide_eq_true h0,Bool.true_and] at u1 g7;by_cases he:E=0
   ·subst he;rw [if_pos rfl];cases O1<;>cases O2;all_goals simp only [Bool.true_and,Bool.false_and] at u1 g7
    all_goals generalize unl _ 7=A1 at *
    all_goals
     repeat' first|(with_reducible first|apply a8_|apply a3_|apply c4_|apply b1_|apply a1_|refine a2_ [] ?_)|((with_reducible refine a6_ ?_ ?_);(focus (go_simp;done)))|((with_reducible refine a0_ fun X Y=>?_);go_simp;(first|(with_reducible refine ⟨_,g4,?_⟩)|(with_reducible refine ⟨_,g5,?_⟩)|(with_reducible refine ⟨_,g6,?_⟩)|(with_reducible refine ⟨_,u1,?_⟩)|(with_reducible refine ⟨_,u2,?_⟩)|(with_reducible refine ⟨_,u3,?_⟩)|(refine ⟨_,g7,?_⟩)|skip);refine Y _ ?_;clear Y X)
     go_simp
   ·rw [if_neg he];cases O1<;>cases O2;all_goals simp only [Bool.true_and,Bool.false_and] at u1 g7
    all_goals generalize unl _ 7=A1 at *
    all_goals
     repeat' first|(with_reducible first|apply a8_|apply a3_|apply b5_|apply c4_|apply a1_|refine a2_ [] ?_)|((with_reducible refine a7_ ?_ ?_);(focus (go_simp;done)))|((with_reducible refine a0_ fun X Y=>?_);go_simp;(first|(with_reducible refine ⟨_,g4,?_⟩)|(with_reducible refine ⟨_,g5,?_⟩)|(with_reducible refine ⟨_,g6,?_⟩)|(with_reducible refine ⟨_,u1,?_⟩)|(with_reducible refine ⟨_,u2,?_⟩)|(with_reducible refine ⟨_,u3,?_⟩)|(refine ⟨_,g7,?_⟩)|skip);refine Y _ ?_;clear Y X)
     go_simp
  ·rw [decide_eq_false h0,Bool.false_and,Bool.false_and] at u1 g7;generalize unl false 7=A1 at *;by_cases he:E=0
   ·subst he;rw [if_pos rfl];repeat' first|(with_reducible first|apply a8_|apply a3_|apply c4_|apply b1_|apply a1_|refine a2_ [] ?_)|((with_reducible refine a6_ ?_ ?_);(focus (go_simp;done)))|((with_reducible refine a0_ fun X Y=>?_);go_simp;(first|(with_reducible refine ⟨_,g4,?_⟩)|(with_reducible refine ⟨_,g5,?_⟩)|(with_reducible refine ⟨_,g6,?_⟩)|(with_reducible refine ⟨_,u1,?_⟩)|(with_reducible refine ⟨_,u2,?_⟩)|(with_reducible refine ⟨_,u3,?_⟩)|(refine ⟨_,g7,?_⟩)|skip);refine Y _ ?_;clear Y X)
    go_simp
   ·rw [if_neg he];repeat' first|(with_reducible first|apply a8_|apply a3_|apply b5_|apply c4_|apply a1_|refine a2_ [] ?_)|((with_reducible refine a7_ ?_ ?_);(focus (go_simp;done)))|((with_reducible refine a0_ fun X Y=>?_);go_simp;(first|(with_reducible refine ⟨_,g4,?_⟩)|(with_reducible refine ⟨_,g5,?_⟩)|(with_reducible refine ⟨_,g6,?_⟩)|(with_reducible refine ⟨_,u1,?_⟩)|(with_reducible refine ⟨_,u2,?_⟩)|(with_reducible refine ⟨_,u3,?_⟩)|(refine ⟨_,g7,?_⟩)|skip);refine Y _ ?_;clear Y X)
    go_simp
end Go.Proofs.YtoibondihdhnoaaGreatDoor
