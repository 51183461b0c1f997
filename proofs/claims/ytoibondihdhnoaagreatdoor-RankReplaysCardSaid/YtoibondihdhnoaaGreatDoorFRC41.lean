/- Texts in one: Walks: what is seen of a log. -/
import Derived.Test.YtoibondihdhnoaaGreatDoorFRC30
import Derived.Test.YtoibondihdhnoaaGreatDoorFRC34
namespace Go.Proofs.YtoibondihdhnoaaGreatDoor
open Go.RowKit
set_option maxRecDepth 100000
set_option maxHeartbeats 2000000
theorem a1k {w:World} {M:Nat→Nat→Prop} {v:Value} {e:Int} {sz:Nat} (hv:V0 w M (.tup [h5_,I e]) v) : V0 w M (.tup [.sl sz [],I e]) v:=by
 cases hv with
 | tup _ us hl hh=>
  refine .tup _ us hl fun i c u hc hu=>?_;rcases i with _|i
  ·simp only [List.getElem?_cons_zero,Option.some.injEq] at hc;subst hc;exact (hh 0 _ u rfl hu).nilSl sz
  ·exact hh (i+1) c u hc hu
theorem b3s (r:Ru) (l:List Ev) (out:List Sg) (a:Bool) (n e:Int) (he:e≠0) (ho:out.length≤1000000000) (g:VH Tryz.prog 85 [some (.box [.osl 1]),some (.arr 45 3 true [])] [c4_ r,r3_ l,a6r] [2] [some (.box [.osl 1]),some (.arr 45 3 a (out.map Sg.av))] (.tup [.lit (.pointer none),I n,I e])) :
  VC Tryz.prog 30 [c4_ r,r3_ l] (.tup [h5_,I e]):=by
 have g2:=b3_ (decide (out.length≤200)) 8;have g3:VC Tryz.prog 88 [.sl 1 ([e,unl (decide (out.length≤200)) 8].map z7_)] (I (fst [e,unl (decide (out.length≤200)) 8])):=d1_ _ rfl rfl;rw [show fst [e,unl (decide (out.length≤200)) 8]=e by simp [fst,he]] at g3;have ed:decide ((out.length:Int)≤200)=decide (out.length≤200):=by
  by_cases h:out.length≤200
  ·rw [decide_eq_true h,decide_eq_true (by omega)]
  ·rw [decide_eq_false h,decide_eq_false (by omega)]
 rw [←ed] at g2 g3;generalize unl (decide ((out.length:Int)≤200)) 8=A2 at *;clear ed;unfold a6r at g;refine b7_ Tryz.func30 rfl (by kernel_rfl) (by kernel_rfl) rfl fun M0 w0=>?_;simp only [Tryz.ntmps30,Tryz.results30,b1_];repeat' with_reducible apply a8_
 refine a2_ [] ?_;repeat' first|(with_reducible first|apply a8_|apply a3_|apply a1_)|((with_reducible refine a0_ fun X Y=>?_);go_simp;refine Y _ ?_;clear Y X)
 refine a2_ [] ?_;repeat' first|(with_reducible first|apply a8_|apply a3_|apply a1_)|((with_reducible refine a0_ fun X Y=>?_);go_simp;refine Y _ ?_;clear Y X)
 refine r5_ (fun p a w R=>⟨_,R.nilCell (bi:=0) (j:=0) (e:=45) (sz:=3) rfl rfl (by decide)⟩) ?_;go_simp;skip
 refine c6_ (c1_ [] 3 ⟨rfl,rfl⟩ ?_);simp only [List.take,List.drop];repeat' first|with_reducible apply a1_|((with_reducible refine a0_ fun X Y=>?_);go_simp;refine Y _ ?_;clear Y X)
 refine e0_ [0,1] [0] [] [some (.box [.osl 1]),some (.arr 45 3 a (out.map Sg.av))] (.tup [.lit (.pointer none),I n,I e]) rfl (by go_simp) ?_ ?_
 ·unfold j7_;go_simp;refine ⟨_,_,_,g,?_⟩;go_simp;kernel_rfl
 go_simp;refine c1_ [] 7 ⟨rfl,rfl⟩ ?_;simp only [List.take,List.drop];repeat' first|with_reducible apply a1_|((with_reducible refine a0_ fun X Y=>?_);go_simp;refine Y _ ?_;clear Y X)
 apply d5_;repeat' with_reducible first|apply a8_|apply a3_
 refine a2_ [] ?_;repeat' first|(with_reducible first|apply a8_|apply a3_|apply a1_)|((with_reducible refine a0_ fun X Y=>?_);go_simp;(first|(with_reducible refine ⟨_,g2,?_⟩)|(refine ⟨_,g3,?_⟩)|skip);refine Y _ ?_;clear Y X)
 refine a2_ [] ?_;repeat' first|(with_reducible first|apply a8_|apply a3_|apply a1_)|((with_reducible refine a7_ ?_ ?_);(focus (go_simp;done)))|((with_reducible refine a0_ fun X Y=>?_);go_simp;refine Y _ ?_;clear Y X)
 repeat' first|(with_reducible first|apply a3_|apply b4_|apply c2_|apply a1_|refine a2_ [] ?_)|((with_reducible refine a0_ fun X Y=>?_);go_simp;refine Y _ ?_;clear Y X)
 go_simp
theorem c6c (r:Ru) (s:St) (mv:List Sg) (b:Bool) (l:List Ev) (out:List Sg) (a:Bool) (ho:out.length≤1000000000) (g:VH Tryz.prog 85 [some (.box [.osl 1]),some (.arr 45 3 true [])] [c4_ r,r3_ l,a6r] [2] [some (.box [.osl 1]),some (.arr 45 3 a (out.map Sg.av)),some (.bag 62 1 false none (c7_ s.q)),some (.box [.osl 2,.osl 4,I s.time,.sl 4 (r.ranks.map Rk.av),I r.back,I r.ret,.sl 3 (mv.map Sg.av)]),some (.arr 148 3 b (s.tk.map Tk.av))] (.tup [.ref 3 0,I 0,I 0])) :
  VC Tryz.prog 30 [c4_ r,r3_ l] (.tup [.sl 3 (if out.length≤200 then out.map Sg.av else []),I (unl (decide (out.length≤200)) 8)]):=by
 have g2:=b3_ (decide (out.length≤200)) 8;have g3:VC Tryz.prog 88 [.sl 1 ([0,unl (decide (out.length≤200)) 8].map z7_)] (I (fst [0,unl (decide (out.length≤200)) 8])):=d1_ _ rfl rfl;have ed:decide ((out.length:Int)≤200)=decide (out.length≤200):=by
  by_cases h:out.length≤200
  ·rw [decide_eq_true h,decide_eq_true (by omega)]
  ·rw [decide_eq_false h,decide_eq_false (by omega)]
 by_cases h2:out.length≤200
 ·rw [if_pos h2];have eu:unl (decide (out.length≤200)) 8=0:=by rw [decide_eq_true h2];rfl
  rw [eu] at g2 g3 ⊢;rw [show fst [0,0]=0 from rfl] at g3;rw [←ed] at g2;clear ed eu h2;unfold a6r at g;refine b7_ Tryz.func30 rfl (by kernel_rfl) (by kernel_rfl) rfl fun M0 w0=>?_;simp only [Tryz.ntmps30,Tryz.results30,b1_];repeat' with_reducible apply a8_
  refine a2_ [] ?_;repeat' first|(with_reducible first|apply a8_|apply a3_|apply a1_)|((with_reducible refine a0_ fun X Y=>?_);go_simp;refine Y _ ?_;clear Y X)
  refine a2_ [] ?_;repeat' first|(with_reducible first|apply a8_|apply a3_|apply a1_)|((with_reducible refine a0_ fun X Y=>?_);go_simp;refine Y _ ?_;clear Y X)
  refine r5_ (fun p a w R=>⟨_,R.nilCell (bi:=0) (j:=0) (e:=45) (sz:=3) rfl rfl (by decide)⟩) ?_;go_simp;skip
  refine c6_ (c1_ [] 3 ⟨rfl,rfl⟩ ?_);simp only [List.take,List.drop];repeat' first|with_reducible apply a1_|((with_reducible refine a0_ fun X Y=>?_);go_simp;refine Y _ ?_;clear Y X)
  refine e0_ [0,1] [0] [] [some (.box [.osl 1]),some (.arr 45 3 a (out.map Sg.av)),some (.bag 62 1 false none (c7_ s.q)),some (.box [.osl 2,.osl 4,I s.time,.sl 4 (r.ranks.map Rk.av),I r.back,I r.ret,.sl 3 (mv.map Sg.av)]),some (.arr 148 3 b (s.tk.map Tk.av))] (.tup [.ref 3 0,I 0,I 0]) rfl (by go_simp) ?_ ?_
  ·unfold j7_;go_simp;refine ⟨_,_,_,g,?_⟩;go_simp;kernel_rfl
  go_simp;refine c1_ [] 7 ⟨rfl,rfl⟩ ?_;simp only [List.take,List.drop];repeat' first|with_reducible apply a1_|((with_reducible refine a0_ fun X Y=>?_);go_simp;refine Y _ ?_;clear Y X)
  apply d5_;repeat' with_reducible first|apply a8_|apply a3_
  refine a2_ [] ?_;repeat' first|(with_reducible first|apply a8_|apply a3_|apply a1_)|((with_reducible refine a0_ fun X Y=>?_);go_simp;(first|(with_reducible refine ⟨_,g2,?_⟩)|(refine ⟨_,g3,?_⟩)|skip);refine Y _ ?_;clear Y X)
  refine a2_ [] ?_;repeat' first|(with_reducible first|apply a8_|apply a3_|apply b0_|apply a1_)|((with_reducible refine a5_ ?_ ?_);(focus (go_simp;done)))|((with_reducible refine a0_ fun X Y=>?_);go_simp;refine Y _ ?_;clear Y X)
  refine d2_ 0 0 1 rfl rfl rfl ?_;repeat' first|(with_reducible first|apply a3_|apply c2_|apply a1_|refine a2_ [] ?_)|((with_reducible refine a0_ fun X Y=>?_);go_simp;refine Y _ ?_;clear Y X)
  go_simp
 ·rw [if_neg h2];have eu:unl (decide (out.length≤200)) 8=8:=by rw [decide_eq_false h2];rfl
  rw [eu] at g2 g3 ⊢;rw [show fst [0,8]=8 from rfl] at g3;rw [←ed] at g2;refine VC.weak (r:=.tup [h5_,I 8]) ?_ fun w M v hv=>a1k hv;clear ed eu h2;unfold a6r at g;refine b7_ Tryz.func30 rfl (by kernel_rfl) (by kernel_rfl) rfl fun M0 w0=>?_;simp only [Tryz.ntmps30,Tryz.results30,b1_];repeat' with_reducible apply a8_
  refine a2_ [] ?_;repeat' first|(with_reducible first|apply a8_|apply a3_|apply a1_)|((with_reducible refine a0_ fun X Y=>?_);go_simp;refine Y _ ?_;clear Y X)
  refine a2_ [] ?_;repeat' first|(with_reducible first|apply a8_|apply a3_|apply a1_)|((with_reducible refine a0_ fun X Y=>?_);go_simp;refine Y _ ?_;clear Y X)
  refine r5_ (fun p a w R=>⟨_,R.nilCell (bi:=0) (j:=0) (e:=45) (sz:=3) rfl rfl (by decide)⟩) ?_;go_simp;skip
  refine c6_ (c1_ [] 3 ⟨rfl,rfl⟩ ?_);simp only [List.take,List.drop];repeat' first|with_reducible apply a1_|((with_reducible refine a0_ fun X Y=>?_);go_simp;refine Y _ ?_;clear Y X)
  refine e0_ [0,1] [0] [] [some (.box [.osl 1]),some (.arr 45 3 a (out.map Sg.av)),some (.bag 62 1 false none (c7_ s.q)),some (.box [.osl 2,.osl 4,I s.time,.sl 4 (r.ranks.map Rk.av),I r.back,I r.ret,.sl 3 (mv.map Sg.av)]),some (.arr 148 3 b (s.tk.map Tk.av))] (.tup [.ref 3 0,I 0,I 0]) rfl (by go_simp) ?_ ?_
  ·unfold j7_;go_simp;refine ⟨_,_,_,g,?_⟩;go_simp;kernel_rfl
  go_simp;refine c1_ [] 7 ⟨rfl,rfl⟩ ?_;simp only [List.take,List.drop];repeat' first|with_reducible apply a1_|((with_reducible refine a0_ fun X Y=>?_);go_simp;refine Y _ ?_;clear Y X)
  apply d5_;repeat' with_reducible first|apply a8_|apply a3_
  refine a2_ [] ?_;repeat' first|(with_reducible first|apply a8_|apply a3_|apply a1_)|((with_reducible refine a0_ fun X Y=>?_);go_simp;(first|(with_reducible refine ⟨_,g2,?_⟩)|(refine ⟨_,g3,?_⟩)|skip);refine Y _ ?_;clear Y X)
  refine a2_ [] ?_;repeat' first|(with_reducible first|apply a8_|apply a3_|apply a1_)|((with_reducible refine a7_ ?_ ?_);(focus (go_simp;done)))|((with_reducible refine a0_ fun X Y=>?_);go_simp;refine Y _ ?_;clear Y X)
  repeat' first|(with_reducible first|apply a3_|apply b4_|apply c2_|apply a1_|refine a2_ [] ?_)|((with_reducible refine a0_ fun X Y=>?_);go_simp;refine Y _ ?_;clear Y X)
  go_simp
theorem b1l {r:Ru} {t:T3} {x:Ev} (h:apE r t.1 x=0) : (stepT r t x).1=(apU r t.1 x).1∧(stepT r t x).2.1=(apU r t.1 x).2:=by
 constructor<;>simp only [stepT,apR,if_pos h]
theorem a9n {r:Ru} : ∀ (l:List Ev) (k:Nat) (t:T3) (y:List Sg×Bool),(goP r k l t.1).2.2=0→(runTS r k l (t,y)).2.1=y.1++k5_ r l t.1∧(runTS r k l (t,y)).1.1=(goP r k l t.1).1
 | [],_,_,y,_=>⟨(List.append_nil y.1).symm,rfl⟩
 | x::l,k,t,y,h=>by
  obtain ⟨h1,h2⟩:=a2w h;obtain ⟨e1,e2⟩:=b1l (t:=t) h1;rw [runTS,goP,k5_,if_neg (by simp [h1]),if_neg (by simp [h1]),if_neg (by simp [h1])];rw [←e1] at h2;obtain ⟨g1,g2⟩:=a9n l (k+1) (stepT r t x) (y.1++a2u x++(stepT r t x).2.1,false) h2;rw [g1,g2,e1,e2];exact ⟨by simp [List.append_assoc],rfl⟩
theorem a9o {r:Ru} (hr:RuOK r) : ∀ (l:List Ev) (k:Nat) (t:T3) (y:List Sg×Bool),Inv r t.1→(runTS r k l (t,y)).2.1.length≤y.1.length+l.length*1100
 | [],_,_,y,_=>by rw [runTS];exact Nat.le_add_right _ _
 | x::l,k,t,y,hi=>by
  rw [runTS];by_cases h1:apE r t.1 x=0
  ·obtain ⟨e1,e2⟩:=b1l (t:=t) h1;rw [if_neg (by simp [h1])];have h2:=(hi.ap hr h1).1;rw [←e1] at h2;have:=a9o hr l (k+1) (stepT r t x) (y.1++a2u x++(stepT r t x).2.1,false) h2;have h3:=(b2q hr hi h1).1;rw [←e2] at h3;have h4:(a2u x).length≤1:=by
    unfold a2u;split
    ·exact Nat.zero_le _
    ·split<;>exact Nat.le_refl _
   refine Nat.le_trans this ?_;rw [List.length_append,List.length_append,List.length_cons];omega
  ·rw [if_pos h1,List.length_cons];exact Nat.le_add_right _ _
def a5r (r:Ru) (l:List Ev) : List Sg×Int:=if a0b r l≠0 then ([],a0b r l) else if (goP r 0 l (st0 r)).2.2≠0 then ([],(goP r 0 l (st0 r)).2.2) else if (k5_ r l (st0 r)).length≤200 then (k5_ r l (st0 r),0) else ([],8)
theorem a7p (r:Ru) (l:List Ev) (h:SmallL r l) : VC Tryz.prog 30 [c4_ r,r3_ l] (.tup [.sl 3 ((a5r r l).1.map Sg.av),I (a5r r l).2]):=by
 unfold a5r;by_cases h0:a0b r l=0
 ·rw [if_neg (by simp [h0])];obtain ⟨hr,_,hl⟩:=b1b h0;obtain ⟨z,hz⟩ : ∃ z,runTS r 0 l (t0 r,([],true))=z:=⟨_,rfl⟩
  have hlen:=a9o hr l 0 (t0 r) ([],true) (Inv.st0 hr);rw [hz] at hlen;have hlen2:z.2.1.length≤1000000000:=by
   refine Nat.le_trans hlen ?_;show 0+_≤_;omega
  by_cases h1:(goP r 0 l (st0 r)).2.2=0
  ·rw [if_neg (by simp [h1])];have g:=a8p r l _ _ h.nm hr hl h.c h0 z hz (.inr ⟨h1,rfl,rfl⟩);have e:=a9n l 0 (t0 r) ([],true) h1;rw [hz] at e;have:=c6c r z.1.1 z.1.2.1 z.1.2.2 l z.2.1 z.2.2 hlen2 g;rw [e.1,List.nil_append] at this;by_cases h2:(k5_ r l (st0 r)).length≤200
   ·rw [if_pos h2];rw [if_pos (show (k5_ r l (t0 r).1).length≤200 from h2),decide_eq_true (show (k5_ r l (t0 r).1).length≤200 from h2)] at this;exact this
   ·rw [if_neg h2];rw [if_neg (show ¬(k5_ r l (t0 r).1).length≤200 from h2),decide_eq_false (show ¬(k5_ r l (t0 r).1).length≤200 from h2)] at this;exact this
  ·rw [if_pos h1];have g:=a8p r l _ _ h.nm hr hl h.c h0 z hz (.inl ⟨h1,rfl,rfl⟩);exact (b3s r l z.2.1 z.2.2 _ _ h1 hlen2 g).weak fun w M v hv=>a1k hv
 ·rw [if_pos h0];exact (b3s r l [] true 0 _ h0 (by decide) (b4q r l h.n h.nm h0)).weak fun w M v hv=>a1k hv
end Go.Proofs.YtoibondihdhnoaaGreatDoor
