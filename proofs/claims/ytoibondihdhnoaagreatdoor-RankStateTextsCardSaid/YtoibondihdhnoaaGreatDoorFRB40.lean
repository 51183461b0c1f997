/- Texts in one: Walks: an event is read. -/
import Derived.Test.YtoibondihdhnoaaGreatDoorFRB39
import Derived.Test.YtoibondihdhnoaaGreatDoorFRB14
import Derived.Test.YtoibondihdhnoaaGreatDoorFRB38
namespace Go.Proofs.YtoibondihdhnoaaGreatDoor
open Go.RowKit
set_option maxRecDepth 100000
set_option maxHeartbeats 2000000
abbrev Kd:Type:=ByteArray×Value
def d4q (q:Kd) : List AV:=[S q.1,.lit q.2]
attribute [go_sem] d4q
def c1n (l:List Kd) (k:Nat) : Kd:=l.getD k (ByteArray.empty,undef)
theorem a8z {l:List Kd} {k:Nat} (h:k < l.length) : c1n l k=l[k]:=by simp [c1n,h]
theorem d4r {l:List Kd} {k:Nat} (h:k < l.length) : l[k]=c1n l k:=(a8z h).symm
attribute [go_sem] d4r
def kdL:List Kd:=[(⟨#[97,114,114,105,118,101]⟩,.func (.func 224) #[] #[]),(⟨#[115,101,114,118,101]⟩,.func (.func 225) #[] #[]),(⟨#[100,101,99,108,105,110,101]⟩,.func (.func 226) #[] #[]),(⟨#[108,101,97,118,101]⟩,.func (.func 227) #[] #[]),(⟨#[99,97,108,108]⟩,.func (.func 228) #[] #[]),(⟨#[114,101,116,117,114,110]⟩,.func (.func 229) #[] #[])]
theorem c7g (q:Kd) (w:List ByteArray) (h:0 < w.length) (h1:h0_ (.lit q.2)=true) : VC Tryz.prog 108 [.agg [S q.1,.lit q.2],.vp [p2_ w]] (B (decide (q.1=tat w 0))):=by
 have e:w[0]=tat w 0:=(b8_ h).symm
 obtain ⟨a,v⟩:=q
 simp only at h1 ⊢
 refine c0_ Tryz.func108 rfl (by kernel_rfl) (by kernel_rfl) rfl fun M0 w0=>?_
 simp only [Tryz.ntmps108,Tryz.results108,b4_]
 repeat' (first|(with_reducible first|apply a9_|apply a3_|apply c4_|apply a1_|refine a2_ [] ?_|apply a6_)|((with_reducible first|refine a0_ fun X Y=>?_|refine a4_ fun X Y=>?_);go_simp;refine Y _ ?_;clear Y X)|((refine b9_ 7 7 [] rfl (by kernel_rfl) (by kernel_rfl) ?_);simp only [List.take,List.drop]))
 go_simp
theorem d2k (l:List Kd) (w:List ByteArray) (hw:0 < w.length) (hl:l.length≤1000000) (h1:∀ q∈l,h0_ (.lit q.2)=true) : VC Tryz.prog 107 [.sl 2 (l.map d4q),.fn (.func 108) [] [.vp [p2_ w]]] (I (ixP (fun j=>decide ((c1n l j).1=tat w 0)) 0 l.length)):=by
 obtain ⟨R,hR⟩ : ∃ R,ixP (fun j=>decide ((c1n l j).1=tat w 0)) 0 l.length=R:=⟨_,rfl⟩
 rw [hR]
 have HR:=Lib.hid hR
 have H1:=Lib.hid h1
 clear hR h1
 refine c0_ Tryz.func107 rfl (by kernel_rfl) (by kernel_rfl) rfl fun M0 w0=>?_
 simp only [Tryz.ntmps107,Tryz.results107,b4_]
 repeat' (first|(with_reducible first|apply a9_|apply a3_|apply a8_|apply a1_|refine a2_ [] ?_)|((with_reducible refine a0_ fun X Y=>?_);go_simp;refine Y _ ?_;clear Y X))
 apply s5_ [0,1,7] (fun k=>[(8,I k)]) (fun k=>([] : Hp)) (fun j=>decide ((c1n l j).1=tat w 0)) (l.length)
 ·go_simp<;>exact rfl
 ·go_simp
 ·intro k hk HB HP K hK
  obtain ⟨w1,w2,w3,w4,w5,w6⟩:=ixs (m:=k) (by omega)
  have ho:=H1.out _ (by rw [a8z hk];exact List.getElem_mem hk:c1n l k∈l)
  have g:=c7g (c1n l k) w hw ho
  have hp:=HP.out
  rw [hp] at g
  clear hp
  repeat' (first|(with_reducible first|apply a9_|apply a3_|apply b0_|apply a8_|apply b3_|apply a1_|refine a2_ [] ?_)|((with_reducible refine a7_ ?_ ?_);(focus (go_simp;done)))|((with_reducible refine a5_ ?_ ?_);(focus (go_simp;done)))|((with_reducible refine a0_ fun X Y=>?_);go_simp;(first|(refine ⟨_,g,?_⟩)|skip);refine Y _ ?_;clear Y X))
  refine hK _ ?_
  go_simp
 ·intro k hk HB HP K
  have ho:=H1.out _ (by rw [a8z hk];exact List.getElem_mem hk:c1n l k∈l)
  have g:=c7g (c1n l k) w hw ho
  have hp:=HP.out
  rw [hp] at g
  clear hp
  have e:=HR.out
  rw [n0_ hk HB.out HP.out] at e
  subst e
  repeat' (first|(with_reducible first|apply a9_|apply a3_|apply b1_|apply c4_|apply b0_|apply a8_|apply c7_|apply a1_|refine a2_ [] ?_)|((with_reducible refine a7_ ?_ ?_);(focus (go_simp;done)))|((with_reducible refine a0_ fun X Y=>?_);go_simp;(first|(refine ⟨_,g,?_⟩)|skip);refine Y _ ?_;clear Y X))
  go_simp
 ·intro HB K
  have e:=HR.out
  rw [o4_ HB.out] at e
  subst e
  repeat (first|(with_reducible first|apply a9_|apply a3_|apply c2_|apply c4_|apply d0_|apply b7_|apply a1_|refine a2_ [] ?_)|((with_reducible refine a5_ ?_ ?_);(focus (go_simp;done)))|((with_reducible refine a0_ fun X Y=>?_);go_simp;refine Y _ ?_;clear Y X))
  go_simp
theorem a7e (l:List ByteArray) (x:ByteArray) (hl:l.length≤1000000) : VC Tryz.prog 106 [p2_ l,S x] (B (t8_ (isT l x) 0 l.length)):=by
 have g:=a5y l x hl
 rw [←a8a]
 generalize ixP (isT l x) 0 l.length=R at *
 refine c0_ Tryz.func106 rfl (by kernel_rfl) (by kernel_rfl) rfl fun M0 w0=>?_
 simp only [Tryz.ntmps106,Tryz.results106,b4_]
 repeat' (first|(with_reducible first|apply a9_|apply a3_|apply c4_|apply a1_|refine a2_ [] ?_)|((with_reducible refine a0_ fun X Y=>?_);go_simp;(first|(with_reducible refine ⟨_,g,?_⟩)|skip);refine Y _ ?_;clear Y X))
 go_simp
end Go.Proofs.YtoibondihdhnoaaGreatDoor
namespace Go.Proofs.YtoibondihdhnoaaGreatDoor
open Go.RowKit
set_option maxRecDepth 100000
set_option maxHeartbeats 2000000
def b1i:Ev:=⟨0,0,0,⟨#[]⟩⟩
def t2_ (a:ByteArray) : Int:=ixP (fun j=>decide ((c1n kdL j).1=a)) 0 6
def d3x (w:List ByteArray) : Int:=
 fst [unl (decide (0≤t2_ (tat w 0))&&l6_ (tat w 1).data.toList&&l6_ (tat w 2).data.toList) 7,unl (!decide (t2_ (tat w 0)=4) || decide (tat w 3=⟨#[45]⟩)) 3,unl (decide (t2_ (tat w 0)=4) || c8_ (tat w 3)) 4]
def d2l (w:List ByteArray) : Bool:=!decide (w.length=4) || t8_ (isT w ⟨#[]⟩) 0 w.length
def evP (w:List ByteArray) : Ev×Int:=
 if d2l w=true then (b1i,7) else if d3x w≠0 then (b1i,d3x w) else (⟨t2_ (tat w 0),u9_ (tat w 1).data.toList,u9_ (tat w 2).data.toList,if t2_ (tat w 0)=4 then ⟨#[]⟩ else tat w 3⟩,0)
theorem a9a (s:ByteArray) (hs:s.size≤1000) (hb:d2l (b2_ 32 s)=true) : VC Tryz.prog 46 [S s] (.tup [evA b1i,I 7]):=by
 have g1:=y0_ s 32 (by omega)
 have hpl:=i5_ 32 s
 have g2:=a7e (b2_ 32 s) ⟨#[]⟩ (by omega)
 unfold d2l at hb
 unfold b1i
 generalize b2_ 32 s=w at *
 by_cases h4:w.length=4
 ·rw [decide_eq_true h4,Bool.not_true,Bool.false_or] at hb
  rw [hb] at g2
  have h5:(w.length:Int)=4:=by omega
  clear hb hpl
  refine c0_ Tryz.func46 rfl (by kernel_rfl) (by kernel_rfl) rfl fun M0 w0=>?_
  simp only [Tryz.ntmps46,Tryz.results46,b4_]
  repeat' (first|(with_reducible first|apply a9_|apply a3_|apply b1_|apply c4_|apply a1_|refine a2_ [] ?_)|((with_reducible refine a7_ ?_ ?_);(focus (go_simp;done)))|((with_reducible refine a0_ fun X Y=>?_);go_simp;(first|(with_reducible refine ⟨_,g1,?_⟩)|(with_reducible refine ⟨_,g2,?_⟩)|skip);refine Y _ ?_;clear Y X))
  all_goals go_simp
 ·have h5:¬(w.length:Int)=4:=by omega
  clear hb hpl
  refine c0_ Tryz.func46 rfl (by kernel_rfl) (by kernel_rfl) rfl fun M0 w0=>?_
  simp only [Tryz.ntmps46,Tryz.results46,b4_]
  repeat' (first|(with_reducible first|apply a9_|apply a3_|apply b1_|apply c4_|apply a1_|refine a2_ [] ?_)|((with_reducible refine a7_ ?_ ?_);(focus (go_simp;done)))|((with_reducible refine a0_ fun X Y=>?_);go_simp;(first|(with_reducible refine ⟨_,g1,?_⟩)|skip);refine Y _ ?_;clear Y X))
  all_goals go_simp
theorem b1j (s:ByteArray) (hs:s.size≤1000) : VC Tryz.prog 46 [S s] (.tup [evA (evP (b2_ 32 s)).1,I (evP (b2_ 32 s)).2]):=by
 by_cases hb:d2l (b2_ 32 s)=true
 ·have h:=a9a s hs hb
  unfold evP
  rw [if_pos hb]
  exact h
 unfold evP
 rw [if_neg hb]
 have g1:=y0_ s 32 (by omega)
 have hpl:=i5_ 32 s
 have g2:=a7e (b2_ 32 s) ⟨#[]⟩ (by omega)
 have hps:∀ p∈b2_ 32 s,p.size≤1000:=fun p hp=>Nat.le_trans (g2_ hp) hs
 unfold d2l at hb
 generalize b2_ 32 s=w at *
 have h4:w.length=4:=by
  by_cases h:w.length=4
  ·exact h
  ·rw [decide_eq_false h] at hb
   simp at hb
 have hany:t8_ (isT w ⟨#[]⟩) 0 w.length=false:=by
  rw [decide_eq_true h4] at hb
  simpa using hb
 rw [hany] at g2
 have h5:(w.length:Int)=4:=by omega
 have a1:w[1]=tat w 1:=(b8_ (by omega)).symm
 have a2:w[2]=tat w 2:=(b8_ (by omega)).symm
 have a3:w[3]=tat w 3:=(b8_ (by omega)).symm
 have z1:(tat w 1).size≤1000:=by rw [←a1];exact hps _ (List.getElem_mem _)
 have z2:(tat w 2).size≤1000:=by rw [←a2];exact hps _ (List.getElem_mem _)
 have z3:(tat w 3).size≤1000:=by rw [←a3];exact hps _ (List.getElem_mem _)
 have g3:VC Tryz.prog 107 [.sl 2 (kdL.map d4q),.fn (.func 108) [] [.vp [p2_ w]]] (I (t2_ (tat w 0))):=d2k kdL w (by omega) (by decide) (fun q hq=>by
  simp only [kdL,List.mem_cons,List.not_mem_nil,or_false] at hq
  rcases hq with rfl|rfl|rfl|rfl|rfl|rfl<;>rfl)
 have g4:=n1_ (tat w 1) (by omega)
 have g5:=n1_ (tat w 2) (by omega)
 have g6:=a0f (tat w 3) z3
 have u1:=b5_ (decide (0≤t2_ (tat w 0))&&l6_ (tat w 1).data.toList&&l6_ (tat w 2).data.toList) 7
 have u2:=b5_ (!decide (t2_ (tat w 0)=4) || decide (tat w 3=⟨#[45]⟩)) 3
 have u3:=b5_ (decide (t2_ (tat w 0)=4) || c8_ (tat w 3)) 4
 have g7:VC Tryz.prog 88 [.sl 1 ([unl (decide (0≤t2_ (tat w 0))&&l6_ (tat w 1).data.toList&&l6_ (tat w 2).data.toList) 7,unl (!decide (t2_ (tat w 0)=4) || decide (tat w 3=⟨#[45]⟩)) 3,unl (decide (t2_ (tat w 0)=4) || c8_ (tat w 3)) 4].map a0e)] (I (d3x w)):=d2_ _ rfl rfl
 generalize d3x w=E at *
 generalize l6_ (tat w 1).data.toList=O1 at *
 generalize l6_ (tat w 2).data.toList=O2 at *
 generalize u9_ (tat w 1).data.toList=N1 at *
 generalize u9_ (tat w 2).data.toList=N2 at *
 generalize c8_ (tat w 3)=D3 at *
 unfold b1i
 generalize t2_ (tat w 0)=KI at *
 clear hany hb hps hpl z1 z2 z3
 refine c0_ Tryz.func46 rfl (by kernel_rfl) (by kernel_rfl) rfl fun M0 w0=>?_
 simp only [Tryz.ntmps46,Tryz.results46,b4_]
 repeat' (with_reducible apply a9_)
 refine a2_ [] ?_
 repeat' (first|(with_reducible first|apply a9_|apply a3_|apply a1_)|((with_reducible refine a0_ fun X Y=>?_);go_simp;refine Y _ ?_;clear Y X))
 refine a2_ [] ?_
 repeat' (first|(with_reducible first|apply a9_|apply a3_|apply a1_)|((with_reducible refine a0_ fun X Y=>?_);go_simp;(first|(with_reducible refine ⟨_,g1,?_⟩)|skip);refine Y _ ?_;clear Y X))
 refine a2_ [] ?_
 repeat' (first|(with_reducible first|apply a9_|apply a3_|apply b0_|apply a1_)|((with_reducible refine a5_ ?_ ?_);(focus (go_simp;done)))|((with_reducible refine a0_ fun X Y=>?_);go_simp;refine Y _ ?_;clear Y X)|((apply j4_ rfl);(focus (go_simp<;>exact rfl));(focus (go_simp;done));(focus (intro hb0;replace hb0:=hb0.out;go_simp<;>(exact g2)));intro X Y;go_simp;refine Y _ ?_;clear Y X))
 refine d8_ (d1m rfl rfl d5a rfl (by decide) rfl (by decide) rfl ?_)
 refine c9_ [] 3 ⟨rfl,rfl⟩ ?_
 simp only [List.take,List.drop]
 repeat' (first|(with_reducible apply a1_)|((with_reducible refine a0_ fun X Y=>?_);go_simp;(first|(refine ⟨_,⟨g3,rfl⟩,?_⟩)|skip);refine Y _ ?_;clear Y X))
 apply e9_
 clear g1 g2 g3
 have hE:∀ (a b:Ev),((if E≠0 then (a,E) else (b,0))=if E=0 then (b,0) else (a,E)):=fun a b=>by
  by_cases h:E=0
  ·rw [if_pos h,if_neg (by simp [h])]
  ·rw [if_neg h,if_pos h]
 rw [hE]
 clear hE
 by_cases hk4:KI=4
 ·subst hk4
  have d0:decide ((0:Int)≤4)=true:=rfl
  have d1:decide ((4:Int)=4)=true:=rfl
  rw [d0,Bool.true_and] at u1
  rw [d1,Bool.not_true,Bool.false_or] at u2
  rw [d1,Bool.true_or] at u3
  rw [d0,d1,Bool.true_and,Bool.not_true,Bool.false_or,Bool.true_or] at g7
  rw [if_pos rfl]
  generalize unl true 4=A3 at *
  generalize unl (decide (tat w 3=⟨#[45]⟩)) 3=A2 at *
  clear d0 d1
  by_cases he:E=0
  ·subst he
   rw [if_pos rfl]
   cases O1<;>cases O2
   all_goals simp only [Bool.true_and,Bool.false_and] at u1 g7
   all_goals generalize unl _ 7=A1 at *
   all_goals
    repeat' (first|(with_reducible first|apply a9_|apply a3_|apply c4_|apply b0_|apply a1_|refine a2_ [] ?_)|((with_reducible refine a7_ ?_ ?_);(focus (go_simp;done)))|((with_reducible refine a5_ ?_ ?_);(focus (go_simp;done)))|((with_reducible refine a0_ fun X Y=>?_);go_simp;(first|(with_reducible refine ⟨_,g4,?_⟩)|(with_reducible refine ⟨_,g5,?_⟩)|(with_reducible refine ⟨_,u1,?_⟩)|(with_reducible refine ⟨_,u2,?_⟩)|(with_reducible refine ⟨_,u3,?_⟩)|(refine ⟨_,g7,?_⟩)|skip);refine Y _ ?_;clear Y X))
    go_simp
  ·rw [if_neg he]
   cases O1<;>cases O2
   all_goals simp only [Bool.true_and,Bool.false_and] at u1 g7
   all_goals generalize unl _ 7=A1 at *
   all_goals
    repeat' (first|(with_reducible first|apply a9_|apply a3_|apply b1_|apply c4_|apply a1_|refine a2_ [] ?_)|((with_reducible refine a7_ ?_ ?_);(focus (go_simp;done)))|((with_reducible refine a0_ fun X Y=>?_);go_simp;(first|(with_reducible refine ⟨_,g4,?_⟩)|(with_reducible refine ⟨_,g5,?_⟩)|(with_reducible refine ⟨_,u1,?_⟩)|(with_reducible refine ⟨_,u2,?_⟩)|(with_reducible refine ⟨_,u3,?_⟩)|(refine ⟨_,g7,?_⟩)|skip);refine Y _ ?_;clear Y X))
    go_simp
 ·rw [decide_eq_false hk4,Bool.not_false,Bool.true_or] at u2
  rw [decide_eq_false hk4,Bool.false_or] at u3
  rw [decide_eq_false hk4,Bool.not_false,Bool.true_or,Bool.false_or] at g7
  rw [if_neg hk4]
  generalize unl true 3=A2 at *
  generalize unl D3 4=A3 at *
  by_cases h0:0≤KI
  ·rw [decide_eq_true h0,Bool.true_and] at u1 g7
   by_cases he:E=0
   ·subst he
    rw [if_pos rfl]
    cases O1<;>cases O2
    all_goals simp only [Bool.true_and,Bool.false_and] at u1 g7
    all_goals generalize unl _ 7=A1 at *
    all_goals
     repeat' (first|(with_reducible first|apply a9_|apply a3_|apply c4_|apply b0_|apply a1_|refine a2_ [] ?_)|((with_reducible refine a5_ ?_ ?_);(focus (go_simp;done)))|((with_reducible refine a0_ fun X Y=>?_);go_simp;(first|(with_reducible refine ⟨_,g4,?_⟩)|(with_reducible refine ⟨_,g5,?_⟩)|(with_reducible refine ⟨_,g6,?_⟩)|(with_reducible refine ⟨_,u1,?_⟩)|(with_reducible refine ⟨_,u2,?_⟩)|(with_reducible refine ⟨_,u3,?_⟩)|(refine ⟨_,g7,?_⟩)|skip);refine Y _ ?_;clear Y X))
     go_simp
   ·rw [if_neg he]
    cases O1<;>cases O2
    all_goals simp only [Bool.true_and,Bool.false_and] at u1 g7
    all_goals generalize unl _ 7=A1 at *
    all_goals
     repeat' (first|(with_reducible first|apply a9_|apply a3_|apply b1_|apply c4_|apply a1_|refine a2_ [] ?_)|((with_reducible refine a7_ ?_ ?_);(focus (go_simp;done)))|((with_reducible refine a0_ fun X Y=>?_);go_simp;(first|(with_reducible refine ⟨_,g4,?_⟩)|(with_reducible refine ⟨_,g5,?_⟩)|(with_reducible refine ⟨_,g6,?_⟩)|(with_reducible refine ⟨_,u1,?_⟩)|(with_reducible refine ⟨_,u2,?_⟩)|(with_reducible refine ⟨_,u3,?_⟩)|(refine ⟨_,g7,?_⟩)|skip);refine Y _ ?_;clear Y X))
     go_simp
  ·rw [decide_eq_false h0,Bool.false_and,Bool.false_and] at u1 g7
   generalize unl false 7=A1 at *
   by_cases he:E=0
   ·subst he
    rw [if_pos rfl]
    repeat' (first|(with_reducible first|apply a9_|apply a3_|apply c4_|apply b0_|apply a1_|refine a2_ [] ?_)|((with_reducible refine a5_ ?_ ?_);(focus (go_simp;done)))|((with_reducible refine a0_ fun X Y=>?_);go_simp;(first|(with_reducible refine ⟨_,g4,?_⟩)|(with_reducible refine ⟨_,g5,?_⟩)|(with_reducible refine ⟨_,g6,?_⟩)|(with_reducible refine ⟨_,u1,?_⟩)|(with_reducible refine ⟨_,u2,?_⟩)|(with_reducible refine ⟨_,u3,?_⟩)|(refine ⟨_,g7,?_⟩)|skip);refine Y _ ?_;clear Y X))
    go_simp
   ·rw [if_neg he]
    repeat' (first|(with_reducible first|apply a9_|apply a3_|apply b1_|apply c4_|apply a1_|refine a2_ [] ?_)|((with_reducible refine a7_ ?_ ?_);(focus (go_simp;done)))|((with_reducible refine a0_ fun X Y=>?_);go_simp;(first|(with_reducible refine ⟨_,g4,?_⟩)|(with_reducible refine ⟨_,g5,?_⟩)|(with_reducible refine ⟨_,g6,?_⟩)|(with_reducible refine ⟨_,u1,?_⟩)|(with_reducible refine ⟨_,u2,?_⟩)|(with_reducible refine ⟨_,u3,?_⟩)|(refine ⟨_,g7,?_⟩)|skip);refine Y _ ?_;clear Y X))
    go_simp
end Go.Proofs.YtoibondihdhnoaaGreatDoor
namespace Go.Proofs.YtoibondihdhnoaaGreatDoor
open Go.RowKit
set_option maxRecDepth 100000
theorem a3g {a b:ByteArray} (h:bl a=bl b) : a=b:=by
 have:a.data=b.data:=Array.toList_inj.1 h
 cases a
 cases b
 simpa using this
theorem c1o (a b:ByteArray) : bl (a++b)=bl a++bl b:=by
 show (a++b).data.toList=a.data.toList++b.data.toList
 rw [ByteArray.data_append,Array.toList_append]
theorem c7h (n:Int) : bl (q5_ n)=Lib.itoa n:=rfl
theorem a0t (l:List ByteArray) (s:ByteArray) : bl (g9_ l s)=Lib.join (l.map bl) (bl s):=rfl
theorem b1k {c:UInt8} (n:Int) (h1:c≠45) (h2:isD c=false) : c∉bl (q5_ n):=by
 have hd:∀ m:Nat,c∉Lib.decDigits m:=fun m hm=>by
  have:=List.all_eq_true.1 (a2o m) c hm
  rw [h2] at this
  cases this
 rw [c7h]
 unfold Lib.itoa
 split
 ·intro hm
  rcases List.mem_cons.1 hm with hm|hm
  ·exact h1 hm
  ·exact hd _ hm
 ·exact hd _
theorem c7i (n:Int) : q5_ n≠⟨#[]⟩:=by
 intro e
 have h:bl (q5_ n)=[]:=by rw [e];rfl
 rw [c7h] at h
 unfold Lib.itoa at h
 split at h
 ·cases h
 ·exact a4z _ h
theorem b3n {n:Int} (h : -999999999≤n∧n≤999999999) : a1t (q5_ n).data.toList=some n:=by
 have e:(q5_ n).data.toList=Lib.itoa n:=rfl
 rw [e]
 refine b5o rfl ?_
 by_cases h0:0≤n
 ·obtain ⟨m,rfl⟩ : ∃ m:Nat,n=m:=⟨n.toNat,by omega⟩
  rw [Lib.itoa_nonneg]
  have hl:=z8_ 8 m (by omega)
  unfold Lib.trimPrefix
  split
  ·rw [List.length_drop]
   omega
  ·exact hl
 ·have hl:=z8_ 8 n.natAbs (by omega)
  unfold Lib.itoa
  rw [if_pos (by omega)]
  have e2:Lib.trimPrefix (45::Lib.decDigits n.natAbs) [45]=Lib.decDigits n.natAbs:=by
   unfold Lib.trimPrefix
   rw [if_pos (by simp [Lib.hasPrefix])]
   rfl
  rw [e2]
  exact hl
theorem t3_ {l:List UInt8} {v:Int} (h:a1t l=some v) : u9_ l=v:=by
 unfold u9_
 rw [(b5n h).1]
theorem b6f {c:UInt8} : ∀ (r:List (List UInt8)) (x:List UInt8),(∀ p∈x::r,c∉p)→w6_ c (Lib.join (x::r) [c])=x::r
 | [],x,h=>by
  rw [Lib.join_one]
  exact a8o (h x (by simp))
 | y::r,x,h=>by
  rw [a3y]
  show w6_ c (x++c::Lib.join (y::r) [c])=_
  rw [b3d (h x (by simp)),b6f r y fun p hp=>h p (List.mem_cons_of_mem _ hp)]
theorem a0u {c:UInt8} {l:List ByteArray} (hne:l≠[]) (h:∀ p∈l,c∉bl p) : b2_ c (g9_ l ⟨#[c]⟩)=l:=by
 cases l with
 | nil=>exact absurd rfl hne
 | cons x r=>
  unfold b2_
  have e:(g9_ (x::r) ⟨#[c]⟩).data.toList=Lib.join (bl x::r.map bl) [c]:=rfl
  rw [e,b6f _ _ fun p hp=>by
   rcases List.mem_cons.1 hp with rfl|hp
   ·exact h x (by simp)
   ·obtain ⟨q,hq,rfl⟩:=List.mem_map.1 hp
    exact h q (by simp [hq])]
  show (List.map mkB ((x::r).map bl))=x::r
  rw [List.map_map]
  exact (List.map_congr_left fun a _=>rfl).trans (List.map_id _)
theorem c1p {c d:UInt8} (hcd:c≠d) : ∀ (l:List (List UInt8)),(∀ p∈l,c∉p)→c∉Lib.join l [d]
 | [],_=>by
  rw [Lib.join_nil]
  simp
 | [x],h=>by
  rw [Lib.join_one]
  exact h x (by simp)
 | x::y::r,h=>by
  rw [a3y]
  intro hm
  rcases List.mem_append.1 hm with hm|hm
  ·exact h x (by simp) hm
  ·rcases List.mem_append.1 hm with hm|hm
   ·exact hcd (by simpa using hm)
   ·exact c1p hcd (y::r) (fun p hp=>h p (List.mem_cons_of_mem _ hp)) hm
theorem a9b {c d:UInt8} (hcd:c≠d) {l:List ByteArray} (h:∀ p∈l,c∉bl p) : c∉bl (g9_ l ⟨#[d]⟩):=by
 rw [a0t]
 refine c1p hcd _ fun p hp=>?_
 obtain ⟨q,hq,rfl⟩:=List.mem_map.1 hp
 exact h q hq
theorem b6g {d:UInt8} : ∀ {l:List ByteArray},l≠[]→(∀ p∈l,p≠⟨#[]⟩)→g9_ l ⟨#[d]⟩≠⟨#[]⟩
 | [],h,_=>absurd rfl h
 | [x],_,h=>by
  intro e
  have e2:bl (g9_ [x] ⟨#[d]⟩)=[]:=by rw [e];rfl
  rw [a0t,List.map_cons,List.map_nil,Lib.join_one] at e2
  exact h x (by simp) (a3g e2)
 | x::y::r,_,h=>by
  intro e
  have e2:bl (g9_ (x::y::r) ⟨#[d]⟩)=[]:=by rw [e];rfl
  rw [a0t,List.map_cons,List.map_cons,a3y] at e2
  have:bl x=[]:=(List.append_eq_nil_iff.1 e2).1
  exact h x (by simp) (a3g this)
theorem d2m (a:ByteArray) : (bl a).length=a.size:=(t0_ a)
theorem a5m {s:ByteArray} {c:UInt8} (h:c8_ s=true) (hc:∀ i,m2_ i c.toNat=false) : c∉bl s:=by
 intro hm
 obtain ⟨i,hi,he⟩:=List.getElem_of_mem hm
 have hi2:i < s.size:=by rw [d2m] at hi;exact hi
 simp only [c8_,Bool.and_eq_true] at h
 have:=List.all_eq_true.1 h.2 i (by simpa using hi2)
 have e:d4_ s i=c:=by
  rw [←he]
  unfold d4_ bl
  rw [List.getD,List.getElem?_eq_getElem (by rw [t0_];exact hi2),Option.getD_some]
  rfl
 rw [e,hc] at this
 cases this
theorem d5s (i:Nat) : m2_ i (32:UInt8).toNat=false:=by simp [m2_]
theorem d5t (i:Nat) : m2_ i (58:UInt8).toNat=false:=by simp [m2_]
theorem d2n (i:Nat) : m2_ i (124:UInt8).toNat=false:=by simp [m2_]
theorem a3z {s:ByteArray} (h:c8_ s=true) : s≠⟨#[]⟩:=by
 intro e
 subst e
 cases h
def c1_ (p:ByteArray) : List ByteArray:=if p=⟨#[]⟩ then [] else b2_ 32 p
def b7y (w:ByteArray) : Bool:=decide (w=⟨#[]⟩) || decide (1 < (b2_ 58 w).length)
def a6i (p:ByteArray) : Bool:=t8_ (fun j=>b7y (tat (c1_ p) j)) 0 (c1_ p).length
def tkW (w:ByteArray) : Tk:=⟨tat (b2_ 58 w) 0,u9_ (tat (b2_ 58 w) 1).data.toList,u9_ (tat (b2_ 58 w) 2).data.toList⟩
def a3o (w:ByteArray) : Bool:=!decide ((b2_ 58 w).length=3) || decide (tat (b2_ 58 w) 0=⟨#[]⟩) || !l6_ (tat (b2_ 58 w) 1).data.toList || !l6_ (tat (b2_ 58 w) 2).data.toList
def k8_ (l:List ByteArray) : List ByteArray:=c1_ (tat l (l.length - 1))
def b6h (l:List ByteArray) : Bool:=
 !decide (3≤l.length) || !l6_ (tat l 0).data.toList || t8_ (fun k=>a6i (tat l (1+k))) 0 (l.length - 2) || t8_ (fun j=>a3o (tat (k8_ l) j)) 0 (k8_ l).length
def w8_ (l:List ByteArray) : St:=⟨((l.drop 1).take (l.length - 2)).map c1_,(k8_ l).map tkW,u9_ (tat l 0).data.toList⟩
def stP (l:List ByteArray) : St×Int:=if b6h l=true then (⟨[],[],0⟩,7) else (w8_ l,0)
theorem a7f {l:List ByteArray} (h:∀ p∈l,(32:UInt8)∉bl p∧p≠⟨#[]⟩) : c1_ (g9_ l ⟨#[32]⟩)=l:=by
 unfold c1_
 by_cases hn:l=[]
 ·subst hn
  rw [if_pos (by apply a3g;rw [a0t,List.map_nil,Lib.join_nil];rfl)]
 ·rw [if_neg (b6g hn fun p hp=>(h p hp).2),a0u hn fun p hp=>(h p hp).1]
theorem c1q {c:UInt8} {w:ByteArray} (h:c∉bl w) : b2_ c w=[w]:=by
 unfold b2_
 rw [show w6_ c w.data.toList=[w.data.toList] from a8o h]
 rfl
theorem c1r {t:Tk} (hn:c8_ t.car=true) (ht : -999999999≤t.time∧t.time≤999999999) (hr : -999999999≤t.rank∧t.rank≤999999999) : a3o (f7_ t)=false∧tkW (f7_ t)=t:=by
 have hp:b2_ 58 (f7_ t)=[t.car,q5_ t.rank,q5_ t.time]:=by
  unfold f7_
  refine a0u (by simp) fun p hp=>?_
  simp only [List.mem_cons,List.not_mem_nil,or_false] at hp
  rcases hp with rfl|rfl|rfl
  ·exact a5m hn d5t
  ·exact b1k _ (by decide) (by decide)
  ·exact b1k _ (by decide) (by decide)
 have t1:(a1t (q5_ t.time).data.toList)=some t.time:=b3n ht
 have t2:(a1t (q5_ t.rank).data.toList)=some t.rank:=b3n hr
 constructor
 ·unfold a3o
  rw [hp]
  simp only [tat,List.getD_cons_zero,List.getD_cons_succ]
  rw [q0_,q0_,t1,t2]
  simp [a3z hn]
 ·unfold tkW
  rw [hp]
  simp only [tat,List.getD_cons_zero,List.getD_cons_succ]
  rw [t3_ t1,t3_ t2]
theorem d2o {c:UInt8} {t:Tk} (hn:c8_ t.car=true) (h1:c≠45) (h2:isD c=false) (h3:c≠58) (ho:∀ i,m2_ i c.toNat=false) : c∉bl (f7_ t):=by
 unfold f7_
 refine a9b h3 fun p hp=>?_
 simp only [List.mem_cons,List.not_mem_nil,or_false] at hp
 rcases hp with rfl|rfl|rfl
 ·exact a5m hn ho
 ·exact b1k _ h1 h2
 ·exact b1k _ h1 h2
theorem d4s {t:Tk} (hn:c8_ t.car=true) : f7_ t≠⟨#[]⟩:=by
 unfold f7_
 refine b6g (by simp) fun p hp=>?_
 simp only [List.mem_cons,List.not_mem_nil,or_false] at hp
 rcases hp with rfl|rfl|rfl
 ·exact a3z hn
 ·exact c7i _
 ·exact c7i _
structure ToldS (s:St) : Prop where
 q1:0 < s.q.length
 q2:∀ l∈s.q,∀ c∈l,c8_ c=true
 t1:∀ t∈s.tk,c8_ t.car=true∧(-999999999≤t.time∧t.time≤999999999)∧(-999999999≤t.rank∧t.rank≤999999999)
 tm : -999999999≤s.time∧s.time≤999999999
theorem a2t {l:List ByteArray} {k:Nat} (h:k < l.length) : tat l k∈l:=by
 rw [b8_ h]
 exact List.getElem_mem h
theorem c5s {α:Type} (f:α→ByteArray) (l:List α) {k:Nat} (h:k < l.length) : tat (l.map f) k=f l[k]:=by
 rw [b8_ (by simpa using h),List.getElem_map]
theorem c9h {s:St} (h:ToldS s) : stP (b2_ 124 (r3_ s))=(s,0):=by
 have w1:∀ l∈s.q,c1_ (g9_ l ⟨#[32]⟩)=l:=fun l hl=>a7f fun p hp=>⟨a5m (h.q2 l hl p hp) d5s,a3z (h.q2 l hl p hp)⟩
 have w2:c1_ (i3_ s)=s.tk.map f7_:=a7f fun p hp=>by
  obtain ⟨t,ht,rfl⟩:=List.mem_map.1 hp
  exact ⟨d2o (h.t1 t ht).1 (by decide) (by decide) (by decide) d5s,d4s (h.t1 t ht).1⟩
 have hp:b2_ 124 (r3_ s)=d5_ s s.q.length++[i3_ s]:=by
  unfold r3_
  refine a0u (by simp) fun p hp=>?_
  rcases List.mem_append.1 hp with hp|hp
  ·unfold d5_ at hp
   rcases List.mem_cons.1 hp with rfl|hp
   ·exact b1k _ (by decide) (by decide)
   ·rw [List.take_length] at hp
    obtain ⟨l,hl,rfl⟩:=List.mem_map.1 hp
    exact a9b (by decide) fun c hc=>a5m (h.q2 l hl c hc) d2n
  ·rw [List.mem_singleton] at hp
   subst hp
   refine a9b (by decide) fun p hp=>?_
   obtain ⟨t,ht,rfl⟩:=List.mem_map.1 hp
   exact d2o (h.t1 t ht).1 (by decide) (by decide) (by decide) d2n
 rw [hp]
 have e0:d5_ s s.q.length++[i3_ s]=q5_ s.time::(s.q.map (fun l=>g9_ l ⟨#[32]⟩)++[i3_ s]):=by
  unfold d5_
  rw [List.take_length,List.cons_append]
 rw [e0]
 generalize hL:q5_ s.time::(s.q.map (fun l=>g9_ l ⟨#[32]⟩)++[i3_ s])=L
 have hlen:L.length=s.q.length+2:=by
  rw [←hL]
  simp
 have hq:=h.q1
 have l0:tat L 0=q5_ s.time:=by rw [←hL];rfl
 have lq:∀ k (hk:k < s.q.length),tat L (1+k)=g9_ s.q[k] ⟨#[32]⟩:=fun k hk=>by
  rw [←hL,Nat.add_comm]
  unfold tat
  rw [List.getD_cons_succ,List.getD_eq_getElem?_getD,List.getElem?_append_left (by simpa using hk)]
  simp [hk]
 have ll:tat L (L.length - 1)=i3_ s:=by
  rw [hlen,←hL]
  unfold tat
  rw [show s.q.length+2 - 1=s.q.length+1 by omega,List.getD_cons_succ,List.getD_eq_getElem?_getD,List.getElem?_append_right (by simp)]
  simp
 have t0:(a1t (q5_ s.time).data.toList)=some s.time:=b3n h.tm
 have hlast:k8_ L=s.tk.map f7_:=by
  unfold k8_
  rw [ll,w2]
 have b3:t8_ (fun k=>a6i (tat L (1+k))) 0 (L.length - 2)=false:=by
  refine f1_ fun k hk=>?_
  have hk2:k < s.q.length:=by omega
  rw [lq k hk2]
  unfold a6i
  rw [w1 _ (List.getElem_mem hk2)]
  refine f1_ fun j hj=>?_
  have hm:=a2t hj
  have hnm:=h.q2 _ (List.getElem_mem hk2) _ hm
  unfold b7y
  rw [c1q (a5m hnm d5t),decide_eq_false (a3z hnm)]
  rfl
 have b4:t8_ (fun j=>a3o (tat (k8_ L) j)) 0 (k8_ L).length=false:=by
  rw [hlast]
  refine f1_ fun j hj=>?_
  have hj2:j < s.tk.length:=by simpa using hj
  rw [c5s f7_ s.tk hj2]
  have:=h.t1 _ (List.getElem_mem hj2)
  exact (c1r this.1 this.2.1 this.2.2).1
 have hb:b6h L=false:=by
  unfold b6h
  rw [b3,b4,l0,q0_,t0]
  simp
  omega
 unfold stP
 rw [hb,if_neg (by decide)]
 congr 1
 unfold w8_
 rw [hlast,l0,t3_ t0]
 obtain ⟨q,tk,tm⟩:=s
 congr 1
 ·rw [←hL]
  show ((q.map (fun l=>g9_ l ⟨#[32]⟩)++[i3_ ⟨q,tk,tm⟩]).take _).map c1_=q
  have e:(q5_ tm::(q.map (fun l=>g9_ l ⟨#[32]⟩)++[i3_ ⟨q,tk,tm⟩])).length - 2=(q.map (fun l=>g9_ l ⟨#[32]⟩)).length:=by simp
  simp only at e ⊢
  rw [e,List.take_left,List.map_map]
  exact (List.map_congr_left fun l hl=>w1 l hl).trans (List.map_id _)
 ·rw [List.map_map]
  exact (List.map_congr_left fun t ht=>(c1r (h.t1 t ht).1 (h.t1 t ht).2.1 (h.t1 t ht).2.2).2).trans (List.map_id _)
end Go.Proofs.YtoibondihdhnoaaGreatDoor
