/- Texts in one: Walks: what is seen of a log. -/
import Derived.Test.YtoibondihdhnoaaGreatDoorFRM30
import Derived.Test.YtoibondihdhnoaaGreatDoorFRM34
namespace Go.Proofs.YtoibondihdhnoaaGreatDoor
open Go.RowKit
set_option maxRecDepth 100000
set_option maxHeartbeats 2000000
theorem a1i {w:World} {M:Nat→Nat→Prop} {v:Value} {e:Int} {sz:Nat} (hv:V0 w M (.tup [o6_,I e]) v) : V0 w M (.tup [.sl sz [],I e]) v:=by
 cases hv with
 | tup _ us hl hh=>
  refine .tup _ us hl fun i c u hc hu=>?_;rcases i with _|i
  ·simp only [List.getElem?_cons_zero,Option.some.injEq] at hc;subst hc;exact (hh 0 _ u rfl hu).nilSl sz
  ·exact hh (i+1) c u hc hu
theorem b3x (r:Ru) (l:List Ev) (out:List Sg) (a:Bool) (n e:Int) (he:e≠0) (ho:out.length≤1000000000) (g:VH Tryz.prog 85 [some (.box [.osl 1]),some (.arr 45 3 true [])] [c6_ r,v5_ l,a6v] [2] [some (.box [.osl 1]),some (.arr 45 3 a (out.map Sg.av))] (.tup [.lit (.pointer none),I n,I e])) :
  VC Tryz.prog 30 [c6_ r,v5_ l] (.tup [o6_,I e]):=by
 have g2:=b1_ (decide (out.length≤200)) 8;have g3:VC Tryz.prog 88 [.sl 1 ([e,unl (decide (out.length≤200)) 8].map s3_)] (I (fst [e,unl (decide (out.length≤200)) 8])):=c8_ _ rfl rfl;rw [show fst [e,unl (decide (out.length≤200)) 8]=e by simp [fst,he]] at g3;have ed:decide ((out.length:Int)≤200)=decide (out.length≤200):=by
  by_cases h:out.length≤200
  ·rw [decide_eq_true h,decide_eq_true (by omega)]
  ·rw [decide_eq_false h,decide_eq_false (by omega)]
 rw [←ed] at g2 g3;generalize unl (decide ((out.length:Int)≤200)) 8=A2 at *;clear ed;unfold a6v at g;refine b8_ Tryz.func30 rfl (by kernel_rfl) (by kernel_rfl) rfl fun M0 w0=>?_;simp only [Tryz.ntmps30,Tryz.results30,b4_];repeat' with_reducible apply a9_
 refine a2_ [] ?_;repeat' first|(with_reducible first|apply a9_|apply a3_|apply a1_)|((with_reducible refine a0_ fun X Y=>?_);go_simp;refine Y _ ?_;clear Y X)
 refine a2_ [] ?_;repeat' first|(with_reducible first|apply a9_|apply a3_|apply a1_)|((with_reducible refine a0_ fun X Y=>?_);go_simp;refine Y _ ?_;clear Y X)
 refine z9_ (fun p a w R=>⟨_,R.nilCell (bi:=0) (j:=0) (e:=45) (sz:=3) rfl rfl (by decide)⟩) ?_;go_simp;skip
 refine c7_ (c2_ [] 3 ⟨rfl,rfl⟩ ?_);simp only [List.take,List.drop];repeat' first|with_reducible apply a1_|((with_reducible refine a0_ fun X Y=>?_);go_simp;refine Y _ ?_;clear Y X)
 refine d8_ [0,1] [0] [] [some (.box [.osl 1]),some (.arr 45 3 a (out.map Sg.av))] (.tup [.lit (.pointer none),I n,I e]) rfl (by go_simp) ?_ ?_
 ·unfold i6_;go_simp;refine ⟨_,_,_,g,?_⟩;go_simp;kernel_rfl
 go_simp;refine c2_ [] 7 ⟨rfl,rfl⟩ ?_;simp only [List.take,List.drop];repeat' first|with_reducible apply a1_|((with_reducible refine a0_ fun X Y=>?_);go_simp;refine Y _ ?_;clear Y X)
 apply d7_;repeat' with_reducible first|apply a9_|apply a3_
 refine a2_ [] ?_;repeat' first|(with_reducible first|apply a9_|apply a3_|apply a1_)|((with_reducible refine a0_ fun X Y=>?_);go_simp;(first|(with_reducible refine ⟨_,g2,?_⟩)|(refine ⟨_,g3,?_⟩)|skip);refine Y _ ?_;clear Y X)
 refine a2_ [] ?_;repeat' first|(with_reducible first|apply a9_|apply a3_|apply a1_)|((with_reducible refine a7_ ?_ ?_);(focus (go_simp;done)))|((with_reducible refine a0_ fun X Y=>?_);go_simp;refine Y _ ?_;clear Y X)
 repeat' first|(with_reducible first|apply a3_|apply b3_|apply c0_|apply a1_|refine a2_ [] ?_)|((with_reducible refine a0_ fun X Y=>?_);go_simp;refine Y _ ?_;clear Y X)
 go_simp
theorem c6w (r:Ru) (s:St) (mv:List Sg) (b:Bool) (l:List Ev) (out:List Sg) (a:Bool) (ho:out.length≤1000000000) (g:VH Tryz.prog 85 [some (.box [.osl 1]),some (.arr 45 3 true [])] [c6_ r,v5_ l,a6v] [2] [some (.box [.osl 1]),some (.arr 45 3 a (out.map Sg.av)),some (.bag 62 1 false none (e9_ s.q)),some (.box [.osl 2,.osl 4,I s.time,.sl 4 (r.ranks.map Rk.av),I r.back,I r.ret,.sl 3 (mv.map Sg.av)]),some (.arr 148 3 b (s.tk.map Tk.av))] (.tup [.ref 3 0,I 0,I 0])) :
  VC Tryz.prog 30 [c6_ r,v5_ l] (.tup [.sl 3 (if out.length≤200 then out.map Sg.av else []),I (unl (decide (out.length≤200)) 8)]):=by
 have g2:=b1_ (decide (out.length≤200)) 8;have g3:VC Tryz.prog 88 [.sl 1 ([0,unl (decide (out.length≤200)) 8].map s3_)] (I (fst [0,unl (decide (out.length≤200)) 8])):=c8_ _ rfl rfl;have ed:decide ((out.length:Int)≤200)=decide (out.length≤200):=by
  by_cases h:out.length≤200
  ·rw [decide_eq_true h,decide_eq_true (by omega)]
  ·rw [decide_eq_false h,decide_eq_false (by omega)]
 by_cases h2:out.length≤200
 ·rw [if_pos h2];have eu:unl (decide (out.length≤200)) 8=0:=by rw [decide_eq_true h2];rfl
  rw [eu] at g2 g3 ⊢;rw [show fst [0,0]=0 from rfl] at g3;rw [←ed] at g2;clear ed eu h2;unfold a6v at g;refine b8_ Tryz.func30 rfl (by kernel_rfl) (by kernel_rfl) rfl fun M0 w0=>?_;simp only [Tryz.ntmps30,Tryz.results30,b4_];repeat' with_reducible apply a9_
  refine a2_ [] ?_;repeat' first|(with_reducible first|apply a9_|apply a3_|apply a1_)|((with_reducible refine a0_ fun X Y=>?_);go_simp;refine Y _ ?_;clear Y X)
  refine a2_ [] ?_;repeat' first|(with_reducible first|apply a9_|apply a3_|apply a1_)|((with_reducible refine a0_ fun X Y=>?_);go_simp;refine Y _ ?_;clear Y X)
  refine z9_ (fun p a w R=>⟨_,R.nilCell (bi:=0) (j:=0) (e:=45) (sz:=3) rfl rfl (by decide)⟩) ?_;go_simp;skip
  refine c7_ (c2_ [] 3 ⟨rfl,rfl⟩ ?_);simp only [List.take,List.drop];repeat' first|with_reducible apply a1_|((with_reducible refine a0_ fun X Y=>?_);go_simp;refine Y _ ?_;clear Y X)
  refine d8_ [0,1] [0] [] [some (.box [.osl 1]),some (.arr 45 3 a (out.map Sg.av)),some (.bag 62 1 false none (e9_ s.q)),some (.box [.osl 2,.osl 4,I s.time,.sl 4 (r.ranks.map Rk.av),I r.back,I r.ret,.sl 3 (mv.map Sg.av)]),some (.arr 148 3 b (s.tk.map Tk.av))] (.tup [.ref 3 0,I 0,I 0]) rfl (by go_simp) ?_ ?_
  ·unfold i6_;go_simp;refine ⟨_,_,_,g,?_⟩;go_simp;kernel_rfl
  go_simp;refine c2_ [] 7 ⟨rfl,rfl⟩ ?_;simp only [List.take,List.drop];repeat' first|with_reducible apply a1_|((with_reducible refine a0_ fun X Y=>?_);go_simp;refine Y _ ?_;clear Y X)
  apply d7_;repeat' with_reducible first|apply a9_|apply a3_
  refine a2_ [] ?_;repeat' first|(with_reducible first|apply a9_|apply a3_|apply a1_)|((with_reducible refine a0_ fun X Y=>?_);go_simp;(first|(with_reducible refine ⟨_,g2,?_⟩)|(refine ⟨_,g3,?_⟩)|skip);refine Y _ ?_;clear Y X)
  refine a2_ [] ?_;repeat' first|(with_reducible first|apply a9_|apply a3_|apply b0_|apply a1_)|((with_reducible refine a6_ ?_ ?_);(focus (go_simp;done)))|((with_reducible refine a0_ fun X Y=>?_);go_simp;refine Y _ ?_;clear Y X)
  refine g1_ 0 0 1 rfl rfl rfl ?_;repeat' first|(with_reducible first|apply a3_|apply c0_|apply a1_|refine a2_ [] ?_)|((with_reducible refine a0_ fun X Y=>?_);go_simp;refine Y _ ?_;clear Y X)
  go_simp
 ·rw [if_neg h2];have eu:unl (decide (out.length≤200)) 8=8:=by rw [decide_eq_false h2];rfl
  rw [eu] at g2 g3 ⊢;rw [show fst [0,8]=8 from rfl] at g3;rw [←ed] at g2;refine VC.weak (r:=.tup [o6_,I 8]) ?_ fun w M v hv=>a1i hv;clear ed eu h2;unfold a6v at g;refine b8_ Tryz.func30 rfl (by kernel_rfl) (by kernel_rfl) rfl fun M0 w0=>?_;simp only [Tryz.ntmps30,Tryz.results30,b4_];repeat' with_reducible apply a9_
  refine a2_ [] ?_;repeat' first|(with_reducible first|apply a9_|apply a3_|apply a1_)|((with_reducible refine a0_ fun X Y=>?_);go_simp;refine Y _ ?_;clear Y X)
  refine a2_ [] ?_;repeat' first|(with_reducible first|apply a9_|apply a3_|apply a1_)|((with_reducible refine a0_ fun X Y=>?_);go_simp;refine Y _ ?_;clear Y X)
  refine z9_ (fun p a w R=>⟨_,R.nilCell (bi:=0) (j:=0) (e:=45) (sz:=3) rfl rfl (by decide)⟩) ?_;go_simp;skip
  refine c7_ (c2_ [] 3 ⟨rfl,rfl⟩ ?_);simp only [List.take,List.drop];repeat' first|with_reducible apply a1_|((with_reducible refine a0_ fun X Y=>?_);go_simp;refine Y _ ?_;clear Y X)
  refine d8_ [0,1] [0] [] [some (.box [.osl 1]),some (.arr 45 3 a (out.map Sg.av)),some (.bag 62 1 false none (e9_ s.q)),some (.box [.osl 2,.osl 4,I s.time,.sl 4 (r.ranks.map Rk.av),I r.back,I r.ret,.sl 3 (mv.map Sg.av)]),some (.arr 148 3 b (s.tk.map Tk.av))] (.tup [.ref 3 0,I 0,I 0]) rfl (by go_simp) ?_ ?_
  ·unfold i6_;go_simp;refine ⟨_,_,_,g,?_⟩;go_simp;kernel_rfl
  go_simp;refine c2_ [] 7 ⟨rfl,rfl⟩ ?_;simp only [List.take,List.drop];repeat' first|with_reducible apply a1_|((with_reducible refine a0_ fun X Y=>?_);go_simp;refine Y _ ?_;clear Y X)
  apply d7_;repeat' with_reducible first|apply a9_|apply a3_
  refine a2_ [] ?_;repeat' first|(with_reducible first|apply a9_|apply a3_|apply a1_)|((with_reducible refine a0_ fun X Y=>?_);go_simp;(first|(with_reducible refine ⟨_,g2,?_⟩)|(refine ⟨_,g3,?_⟩)|skip);refine Y _ ?_;clear Y X)
  refine a2_ [] ?_;repeat' first|(with_reducible first|apply a9_|apply a3_|apply a1_)|((with_reducible refine a7_ ?_ ?_);(focus (go_simp;done)))|((with_reducible refine a0_ fun X Y=>?_);go_simp;refine Y _ ?_;clear Y X)
  repeat' first|(with_reducible first|apply a3_|apply b3_|apply c0_|apply a1_|refine a2_ [] ?_)|((with_reducible refine a0_ fun X Y=>?_);go_simp;refine Y _ ?_;clear Y X)
  go_simp
theorem b1s {r:Ru} {t:T3} {x:Ev} (h:apE r t.1 x=0) : (stepT r t x).1=(apU r t.1 x).1∧(stepT r t x).2.1=(apU r t.1 x).2:=by
 constructor<;>simp only [stepT,apR,if_pos h]
theorem a9q {r:Ru} : ∀ (l:List Ev) (k:Nat) (t:T3) (y:List Sg×Bool),(goP r k l t.1).2.2=0→(runTS r k l (t,y)).2.1=y.1++z2_ r l t.1∧(runTS r k l (t,y)).1.1=(goP r k l t.1).1
 | [],_,_,y,_=>⟨(List.append_nil y.1).symm,rfl⟩
 | x::l,k,t,y,h=>by
  obtain ⟨h1,h2⟩:=a2x h;obtain ⟨e1,e2⟩:=b1s (t:=t) h1;rw [runTS,goP,z2_,if_neg (by simp [h1]),if_neg (by simp [h1]),if_neg (by simp [h1])];rw [←e1] at h2;obtain ⟨g1,g2⟩:=a9q l (k+1) (stepT r t x) (y.1++b4w x++(stepT r t x).2.1,false) h2;rw [g1,g2,e1,e2];exact ⟨by simp [List.append_assoc],rfl⟩
theorem a9r {r:Ru} (hr:RuOK r) : ∀ (l:List Ev) (k:Nat) (t:T3) (y:List Sg×Bool),Inv r t.1→(runTS r k l (t,y)).2.1.length≤y.1.length+l.length*1100
 | [],_,_,y,_=>by rw [runTS];exact Nat.le_add_right _ _
 | x::l,k,t,y,hi=>by
  rw [runTS];by_cases h1:apE r t.1 x=0
  ·obtain ⟨e1,e2⟩:=b1s (t:=t) h1;rw [if_neg (by simp [h1])];have h2:=(hi.ap hr h1).1;rw [←e1] at h2;have:=a9r hr l (k+1) (stepT r t x) (y.1++b4w x++(stepT r t x).2.1,false) h2;have h3:=(b8c hr hi h1).1;rw [←e2] at h3;have h4:(b4w x).length≤1:=by
    unfold b4w;split
    ·exact Nat.zero_le _
    ·split<;>exact Nat.le_refl _
   refine Nat.le_trans this ?_;rw [List.length_append,List.length_append,List.length_cons];omega
  ·rw [if_pos h1,List.length_cons];exact Nat.le_add_right _ _
def a5u (r:Ru) (l:List Ev) : List Sg×Int:=if a1a r l≠0 then ([],a1a r l) else if (goP r 0 l (st0 r)).2.2≠0 then ([],(goP r 0 l (st0 r)).2.2) else if (z2_ r l (st0 r)).length≤200 then (z2_ r l (st0 r),0) else ([],8)
theorem a7q (r:Ru) (l:List Ev) (h:SmallL r l) : VC Tryz.prog 30 [c6_ r,v5_ l] (.tup [.sl 3 ((a5u r l).1.map Sg.av),I (a5u r l).2]):=by
 unfold a5u;by_cases h0:a1a r l=0
 ·rw [if_neg (by simp [h0])];obtain ⟨hr,_,hl⟩:=b1h h0;obtain ⟨z,hz⟩ : ∃ z,runTS r 0 l (t0 r,([],true))=z:=⟨_,rfl⟩
  have hlen:=a9r hr l 0 (t0 r) ([],true) (Inv.st0 hr);rw [hz] at hlen;have hlen2:z.2.1.length≤1000000000:=by
   refine Nat.le_trans hlen ?_;show 0+_≤_;omega
  by_cases h1:(goP r 0 l (st0 r)).2.2=0
  ·rw [if_neg (by simp [h1])];have g:=a8u r l _ _ h.nm hr hl h.c h0 z hz (.inr ⟨h1,rfl,rfl⟩);have e:=a9q l 0 (t0 r) ([],true) h1;rw [hz] at e;have:=c6w r z.1.1 z.1.2.1 z.1.2.2 l z.2.1 z.2.2 hlen2 g;rw [e.1,List.nil_append] at this;by_cases h2:(z2_ r l (st0 r)).length≤200
   ·rw [if_pos h2];rw [if_pos (show (z2_ r l (t0 r).1).length≤200 from h2),decide_eq_true (show (z2_ r l (t0 r).1).length≤200 from h2)] at this;exact this
   ·rw [if_neg h2];rw [if_neg (show ¬(z2_ r l (t0 r).1).length≤200 from h2),decide_eq_false (show ¬(z2_ r l (t0 r).1).length≤200 from h2)] at this;exact this
  ·rw [if_pos h1];have g:=a8u r l _ _ h.nm hr hl h.c h0 z hz (.inl ⟨h1,rfl,rfl⟩);exact (b3x r l z.2.1 z.2.2 _ _ h1 hlen2 g).weak fun w M v hv=>a1i hv
 ·rw [if_pos h0];exact (b3x r l [] true 0 _ h0 (by decide) (b5b r l h.n h.nm h0)).weak fun w M v hv=>a1i hv
end Go.Proofs.YtoibondihdhnoaaGreatDoor
