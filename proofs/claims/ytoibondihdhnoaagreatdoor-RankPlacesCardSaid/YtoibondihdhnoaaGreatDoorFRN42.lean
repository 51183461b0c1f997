/- Texts in one: Walks: an event is noted in the diary. -/
import Derived.Test.YtoibondihdhnoaaGreatDoorFRN30
import Derived.Test.YtoibondihdhnoaaGreatDoorFRN34
import Derived.Test.YtoibondihdhnoaaGreatDoorFRN31
namespace Go.Proofs.YtoibondihdhnoaaGreatDoor
open Go.RowKit
set_option maxRecDepth 100000
set_option maxHeartbeats 2000000
theorem a1k {w:World} {M:Nat→Nat→Prop} {v:Value} {e:Int} {sz:Nat} (hv:V0 w M (.tup [r7_,I e]) v) : V0 w M (.tup [.sl sz [],I e]) v:=by
 cases hv with
 | tup _ us hl hh=>
  refine .tup _ us hl fun i c u hc hu=>?_;rcases i with _|i
  ·simp only [List.getElem?_cons_zero,Option.some.injEq] at hc;subst hc;exact (hh 0 _ u rfl hu).nilSl sz
  ·exact hh (i+1) c u hc hu
theorem b4b (r:Ru) (l:List Ev) (out:List Sg) (a:Bool) (n e:Int) (he:e≠0) (ho:out.length≤1000000000) (g:VH Tryz.prog 85 [some (.box [.osl 1]),some (.arr 45 3 true [])] [c3_ r,u9_ l,a6w] [2] [some (.box [.osl 1]),some (.arr 45 3 a (out.map Sg.av))] (.tup [.lit (.pointer none),I n,I e])) :
  VC Tryz.prog 30 [c3_ r,u9_ l] (.tup [r7_,I e]):=by
 have g2:=b0_ (decide (out.length≤200)) 8;have g3:VC Tryz.prog 88 [.sl 1 ([e,unl (decide (out.length≤200)) 8].map p9_)] (I (fst [e,unl (decide (out.length≤200)) 8])):=c6_ _ rfl rfl;rw [show fst [e,unl (decide (out.length≤200)) 8]=e by simp [fst,he]] at g3;have ed:decide ((out.length:Int)≤200)=decide (out.length≤200):=by
  by_cases h:out.length≤200
  ·rw [decide_eq_true h,decide_eq_true (by omega)]
  ·rw [decide_eq_false h,decide_eq_false (by omega)]
 rw [←ed] at g2 g3;generalize unl (decide ((out.length:Int)≤200)) 8=A2 at *;clear ed;unfold a6w at g;refine c2_ Tryz.func30 rfl (by kernel_rfl) (by kernel_rfl) rfl fun M0 w0=>?_;simp only [Tryz.ntmps30,Tryz.results30,b4_];repeat' with_reducible apply a8_
 refine a2_ [] ?_;repeat' first|(with_reducible first|apply a8_|apply a3_|apply a1_)|((with_reducible refine a0_ fun X Y=>?_);go_simp;refine Y _ ?_;clear Y X)
 refine a2_ [] ?_;repeat' first|(with_reducible first|apply a8_|apply a3_|apply a1_)|((with_reducible refine a0_ fun X Y=>?_);go_simp;refine Y _ ?_;clear Y X)
 refine a0p (fun p a w R=>⟨_,R.nilCell (bi:=0) (j:=0) (e:=45) (sz:=3) rfl rfl (by decide)⟩) ?_;go_simp;skip
 refine c7_ (c0_ [] 3 ⟨rfl,rfl⟩ ?_);simp only [List.take,List.drop];repeat' first|with_reducible apply a1_|((with_reducible refine a0_ fun X Y=>?_);go_simp;refine Y _ ?_;clear Y X)
 refine e0_ [0,1] [0] [] [some (.box [.osl 1]),some (.arr 45 3 a (out.map Sg.av))] (.tup [.lit (.pointer none),I n,I e]) rfl (by go_simp) ?_ ?_
 ·unfold i9_;go_simp;refine ⟨_,_,_,g,?_⟩;go_simp;kernel_rfl
 go_simp;refine c0_ [] 7 ⟨rfl,rfl⟩ ?_;simp only [List.take,List.drop];repeat' first|with_reducible apply a1_|((with_reducible refine a0_ fun X Y=>?_);go_simp;refine Y _ ?_;clear Y X)
 apply d6_;repeat' with_reducible first|apply a8_|apply a3_
 refine a2_ [] ?_;repeat' first|(with_reducible first|apply a8_|apply a3_|apply a1_)|((with_reducible refine a0_ fun X Y=>?_);go_simp;(first|(with_reducible refine ⟨_,g2,?_⟩)|(refine ⟨_,g3,?_⟩)|skip);refine Y _ ?_;clear Y X)
 refine a2_ [] ?_;repeat' first|(with_reducible first|apply a8_|apply a3_|apply a1_)|((with_reducible refine a7_ ?_ ?_);(focus (go_simp;done)))|((with_reducible refine a0_ fun X Y=>?_);go_simp;refine Y _ ?_;clear Y X)
 repeat' first|(with_reducible first|apply a3_|apply b5_|apply c4_|apply a1_|refine a2_ [] ?_)|((with_reducible refine a0_ fun X Y=>?_);go_simp;refine Y _ ?_;clear Y X)
 go_simp
theorem c7b (r:Ru) (s:St) (mv:List Sg) (b:Bool) (l:List Ev) (out:List Sg) (a:Bool) (ho:out.length≤1000000000) (g:VH Tryz.prog 85 [some (.box [.osl 1]),some (.arr 45 3 true [])] [c3_ r,u9_ l,a6w] [2] [some (.box [.osl 1]),some (.arr 45 3 a (out.map Sg.av)),some (.bag 62 1 false none (f3_ s.q)),some (.box [.osl 2,.osl 4,I s.time,.sl 4 (r.ranks.map Rk.av),I r.back,I r.ret,.sl 3 (mv.map Sg.av)]),some (.arr 148 3 b (s.tk.map Tk.av))] (.tup [.ref 3 0,I 0,I 0])) :
  VC Tryz.prog 30 [c3_ r,u9_ l] (.tup [.sl 3 (if out.length≤200 then out.map Sg.av else []),I (unl (decide (out.length≤200)) 8)]):=by
 have g2:=b0_ (decide (out.length≤200)) 8;have g3:VC Tryz.prog 88 [.sl 1 ([0,unl (decide (out.length≤200)) 8].map p9_)] (I (fst [0,unl (decide (out.length≤200)) 8])):=c6_ _ rfl rfl;have ed:decide ((out.length:Int)≤200)=decide (out.length≤200):=by
  by_cases h:out.length≤200
  ·rw [decide_eq_true h,decide_eq_true (by omega)]
  ·rw [decide_eq_false h,decide_eq_false (by omega)]
 by_cases h2:out.length≤200
 ·rw [if_pos h2];have eu:unl (decide (out.length≤200)) 8=0:=by rw [decide_eq_true h2];rfl
  rw [eu] at g2 g3 ⊢;rw [show fst [0,0]=0 from rfl] at g3;rw [←ed] at g2;clear ed eu h2;unfold a6w at g;refine c2_ Tryz.func30 rfl (by kernel_rfl) (by kernel_rfl) rfl fun M0 w0=>?_;simp only [Tryz.ntmps30,Tryz.results30,b4_];repeat' with_reducible apply a8_
  refine a2_ [] ?_;repeat' first|(with_reducible first|apply a8_|apply a3_|apply a1_)|((with_reducible refine a0_ fun X Y=>?_);go_simp;refine Y _ ?_;clear Y X)
  refine a2_ [] ?_;repeat' first|(with_reducible first|apply a8_|apply a3_|apply a1_)|((with_reducible refine a0_ fun X Y=>?_);go_simp;refine Y _ ?_;clear Y X)
  refine a0p (fun p a w R=>⟨_,R.nilCell (bi:=0) (j:=0) (e:=45) (sz:=3) rfl rfl (by decide)⟩) ?_;go_simp;skip
  refine c7_ (c0_ [] 3 ⟨rfl,rfl⟩ ?_);simp only [List.take,List.drop];repeat' first|with_reducible apply a1_|((with_reducible refine a0_ fun X Y=>?_);go_simp;refine Y _ ?_;clear Y X)
  refine e0_ [0,1] [0] [] [some (.box [.osl 1]),some (.arr 45 3 a (out.map Sg.av)),some (.bag 62 1 false none (f3_ s.q)),some (.box [.osl 2,.osl 4,I s.time,.sl 4 (r.ranks.map Rk.av),I r.back,I r.ret,.sl 3 (mv.map Sg.av)]),some (.arr 148 3 b (s.tk.map Tk.av))] (.tup [.ref 3 0,I 0,I 0]) rfl (by go_simp) ?_ ?_
  ·unfold i9_;go_simp;refine ⟨_,_,_,g,?_⟩;go_simp;kernel_rfl
  go_simp;refine c0_ [] 7 ⟨rfl,rfl⟩ ?_;simp only [List.take,List.drop];repeat' first|with_reducible apply a1_|((with_reducible refine a0_ fun X Y=>?_);go_simp;refine Y _ ?_;clear Y X)
  apply d6_;repeat' with_reducible first|apply a8_|apply a3_
  refine a2_ [] ?_;repeat' first|(with_reducible first|apply a8_|apply a3_|apply a1_)|((with_reducible refine a0_ fun X Y=>?_);go_simp;(first|(with_reducible refine ⟨_,g2,?_⟩)|(refine ⟨_,g3,?_⟩)|skip);refine Y _ ?_;clear Y X)
  refine a2_ [] ?_;repeat' first|(with_reducible first|apply a8_|apply a3_|apply b1_|apply a1_)|((with_reducible refine a6_ ?_ ?_);(focus (go_simp;done)))|((with_reducible refine a0_ fun X Y=>?_);go_simp;refine Y _ ?_;clear Y X)
  refine i1_ 0 0 1 rfl rfl rfl ?_;repeat' first|(with_reducible first|apply a3_|apply c4_|apply a1_|refine a2_ [] ?_)|((with_reducible refine a0_ fun X Y=>?_);go_simp;refine Y _ ?_;clear Y X)
  go_simp
 ·rw [if_neg h2];have eu:unl (decide (out.length≤200)) 8=8:=by rw [decide_eq_false h2];rfl
  rw [eu] at g2 g3 ⊢;rw [show fst [0,8]=8 from rfl] at g3;rw [←ed] at g2;refine VC.weak (r:=.tup [r7_,I 8]) ?_ fun w M v hv=>a1k hv;clear ed eu h2;unfold a6w at g;refine c2_ Tryz.func30 rfl (by kernel_rfl) (by kernel_rfl) rfl fun M0 w0=>?_;simp only [Tryz.ntmps30,Tryz.results30,b4_];repeat' with_reducible apply a8_
  refine a2_ [] ?_;repeat' first|(with_reducible first|apply a8_|apply a3_|apply a1_)|((with_reducible refine a0_ fun X Y=>?_);go_simp;refine Y _ ?_;clear Y X)
  refine a2_ [] ?_;repeat' first|(with_reducible first|apply a8_|apply a3_|apply a1_)|((with_reducible refine a0_ fun X Y=>?_);go_simp;refine Y _ ?_;clear Y X)
  refine a0p (fun p a w R=>⟨_,R.nilCell (bi:=0) (j:=0) (e:=45) (sz:=3) rfl rfl (by decide)⟩) ?_;go_simp;skip
  refine c7_ (c0_ [] 3 ⟨rfl,rfl⟩ ?_);simp only [List.take,List.drop];repeat' first|with_reducible apply a1_|((with_reducible refine a0_ fun X Y=>?_);go_simp;refine Y _ ?_;clear Y X)
  refine e0_ [0,1] [0] [] [some (.box [.osl 1]),some (.arr 45 3 a (out.map Sg.av)),some (.bag 62 1 false none (f3_ s.q)),some (.box [.osl 2,.osl 4,I s.time,.sl 4 (r.ranks.map Rk.av),I r.back,I r.ret,.sl 3 (mv.map Sg.av)]),some (.arr 148 3 b (s.tk.map Tk.av))] (.tup [.ref 3 0,I 0,I 0]) rfl (by go_simp) ?_ ?_
  ·unfold i9_;go_simp;refine ⟨_,_,_,g,?_⟩;go_simp;kernel_rfl
  go_simp;refine c0_ [] 7 ⟨rfl,rfl⟩ ?_;simp only [List.take,List.drop];repeat' first|with_reducible apply a1_|((with_reducible refine a0_ fun X Y=>?_);go_simp;refine Y _ ?_;clear Y X)
  apply d6_;repeat' with_reducible first|apply a8_|apply a3_
  refine a2_ [] ?_;repeat' first|(with_reducible first|apply a8_|apply a3_|apply a1_)|((with_reducible refine a0_ fun X Y=>?_);go_simp;(first|(with_reducible refine ⟨_,g2,?_⟩)|(refine ⟨_,g3,?_⟩)|skip);refine Y _ ?_;clear Y X)
  refine a2_ [] ?_;repeat' first|(with_reducible first|apply a8_|apply a3_|apply a1_)|((with_reducible refine a7_ ?_ ?_);(focus (go_simp;done)))|((with_reducible refine a0_ fun X Y=>?_);go_simp;refine Y _ ?_;clear Y X)
  repeat' first|(with_reducible first|apply a3_|apply b5_|apply c4_|apply a1_|refine a2_ [] ?_)|((with_reducible refine a0_ fun X Y=>?_);go_simp;refine Y _ ?_;clear Y X)
  go_simp
theorem b1t {r:Ru} {t:T3} {x:Ev} (h:apE r t.1 x=0) : (stepT r t x).1=(apU r t.1 x).1∧(stepT r t x).2.1=(apU r t.1 x).2:=by
 constructor<;>simp only [stepT,apR,if_pos h]
theorem a9u {r:Ru} : ∀ (l:List Ev) (k:Nat) (t:T3) (y:List Sg×Bool),(goP r k l t.1).2.2=0→(runTS r k l (t,y)).2.1=y.1++z0_ r l t.1∧(runTS r k l (t,y)).1.1=(goP r k l t.1).1
 | [],_,_,y,_=>⟨(List.append_nil y.1).symm,rfl⟩
 | x::l,k,t,y,h=>by
  obtain ⟨h1,h2⟩:=a3b h;obtain ⟨e1,e2⟩:=b1t (t:=t) h1;rw [runTS,goP,z0_,if_neg (by simp [h1]),if_neg (by simp [h1]),if_neg (by simp [h1])];rw [←e1] at h2;obtain ⟨g1,g2⟩:=a9u l (k+1) (stepT r t x) (y.1++b5c x++(stepT r t x).2.1,false) h2;rw [g1,g2,e1,e2];exact ⟨by simp [List.append_assoc],rfl⟩
theorem a9v {r:Ru} (hr:RuOK r) : ∀ (l:List Ev) (k:Nat) (t:T3) (y:List Sg×Bool),Inv r t.1→(runTS r k l (t,y)).2.1.length≤y.1.length+l.length*1100
 | [],_,_,y,_=>by rw [runTS];exact Nat.le_add_right _ _
 | x::l,k,t,y,hi=>by
  rw [runTS];by_cases h1:apE r t.1 x=0
  ·obtain ⟨e1,e2⟩:=b1t (t:=t) h1;rw [if_neg (by simp [h1])];have h2:=(hi.ap hr h1).1;rw [←e1] at h2;have:=a9v hr l (k+1) (stepT r t x) (y.1++b5c x++(stepT r t x).2.1,false) h2;have h3:=(b7y hr hi h1).1;rw [←e2] at h3;have h4:(b5c x).length≤1:=by
    unfold b5c;split
    ·exact Nat.zero_le _
    ·split<;>exact Nat.le_refl _
   refine Nat.le_trans this ?_;rw [List.length_append,List.length_append,List.length_cons];omega
  ·rw [if_pos h1,List.length_cons];exact Nat.le_add_right _ _
def a5u (r:Ru) (l:List Ev) : List Sg×Int:=if a1c r l≠0 then ([],a1c r l) else if (goP r 0 l (st0 r)).2.2≠0 then ([],(goP r 0 l (st0 r)).2.2) else if (z0_ r l (st0 r)).length≤200 then (z0_ r l (st0 r),0) else ([],8)
theorem a7t (r:Ru) (l:List Ev) (h:SmallL r l) : VC Tryz.prog 30 [c3_ r,u9_ l] (.tup [.sl 3 ((a5u r l).1.map Sg.av),I (a5u r l).2]):=by
 unfold a5u;by_cases h0:a1c r l=0
 ·rw [if_neg (by simp [h0])];obtain ⟨hr,_,hl⟩:=b1j h0;obtain ⟨z,hz⟩ : ∃ z,runTS r 0 l (t0 r,([],true))=z:=⟨_,rfl⟩
  have hlen:=a9v hr l 0 (t0 r) ([],true) (Inv.st0 hr);rw [hz] at hlen;have hlen2:z.2.1.length≤1000000000:=by
   refine Nat.le_trans hlen ?_;show 0+_≤_;omega
  by_cases h1:(goP r 0 l (st0 r)).2.2=0
  ·rw [if_neg (by simp [h1])];have g:=a8y r l _ _ h.nm hr hl h.c h0 z hz (.inr ⟨h1,rfl,rfl⟩);have e:=a9u l 0 (t0 r) ([],true) h1;rw [hz] at e;have:=c7b r z.1.1 z.1.2.1 z.1.2.2 l z.2.1 z.2.2 hlen2 g;rw [e.1,List.nil_append] at this;by_cases h2:(z0_ r l (st0 r)).length≤200
   ·rw [if_pos h2];rw [if_pos (show (z0_ r l (t0 r).1).length≤200 from h2),decide_eq_true (show (z0_ r l (t0 r).1).length≤200 from h2)] at this;exact this
   ·rw [if_neg h2];rw [if_neg (show ¬(z0_ r l (t0 r).1).length≤200 from h2),decide_eq_false (show ¬(z0_ r l (t0 r).1).length≤200 from h2)] at this;exact this
  ·rw [if_pos h1];have g:=a8y r l _ _ h.nm hr hl h.c h0 z hz (.inl ⟨h1,rfl,rfl⟩);exact (b4b r l z.2.1 z.2.2 _ _ h1 hlen2 g).weak fun w M v hv=>a1k hv
 ·rw [if_pos h0];exact (b4b r l [] true 0 _ h0 (by decide) (b5h r l h.n h.nm h0)).weak fun w M v hv=>a1k hv
def k0_ (d:Dy) (a b:Bool) : Hp:=[some (.box [.osl 1,.mp 2,.osl 3,.mp 4]),some (.arr 167 4 a (d.st.map Sy.av)),some (.mpo (4,.i64) d.op),some (.arr 67 3 b (d.wt.map Wt.av)),some (.mpo (4,.i64) d.sv)]
theorem c7c (log:List Ev) (d:Dy) (a b:Bool) (i:Nat) (hi:i < log.length) (hl:log.length≤1000000) (h4:(d9_ log i).kind=4) :
  VH Tryz.prog 143 (k0_ d a b) [.ref 0 0,u9_ log,I (i:Int)] [0] (k0_ d a b) (.tup []):=by
 obtain ⟨w1,w2,w3,w4,w5,w6⟩:=ixs (m:=i) (by omega);refine g4_ Tryz.func143 rfl (by kernel_rfl) rfl (fun _=>by kernel_rfl) fun M0 w0 vs=>?_;simp only [Tryz.ntmps143,Tryz.results143,b4_];unfold k0_;repeat' first|(with_reducible first|apply a8_|apply a3_|apply b5_|apply c4_|apply a1_|refine a2_ [] ?_)|((with_reducible refine a7_ ?_ ?_);(focus (go_simp;done)))|((with_reducible refine a0_ fun X Y=>?_);go_simp;refine Y _ ?_;clear Y X)
 go_simp
theorem c7d (log:List Ev) (d:Dy) (a b:Bool) (i:Nat) (hi:i < log.length) (hl:log.length≤1000000) (h0:(d9_ log i).kind=0) (hs:d.st.length≤i) (hv:NumOK d.sv i) :
  VH Tryz.prog 143 (k0_ d a b) [.ref 0 0,u9_ log,I (i:Int)] [0] (k0_ (l2_ log d i (d9_ log i)) false b) (.tup []):=by
 obtain ⟨w1,w2,w3,w4,w5,w6⟩:=ixs (m:=i) (by omega);unfold l2_;rw [if_neg (by omega),if_pos h0];obtain ⟨n1,n2,n3⟩:=hv.at_ (d9_ log i).car;unfold c6p;generalize c1n d.sv (d9_ log i).car=V at *;have n4:IntKind.i64.wrap V=V:=g0_ (by omega) (by omega);have n5:d.st.length+1≤1000000000:=by omega
 refine g4_ Tryz.func143 rfl (by kernel_rfl) rfl (fun _=>by kernel_rfl) fun M0 w0 vs=>?_;simp only [Tryz.ntmps143,Tryz.results143,b4_];unfold k0_;repeat' first|(with_reducible first|apply a8_|apply a3_|apply b1_|apply a1_|refine a2_ [] ?_)|((with_reducible refine a7_ ?_ ?_);(focus (go_simp;done)))|((with_reducible refine a6_ ?_ ?_);(focus (go_simp;done)))|((with_reducible refine a0_ fun X Y=>?_);go_simp;refine Y _ ?_;clear Y X)
 refine a2v 11 [] (by kernel_rfl) (by kernel_rfl) ?_;simp only [List.take,List.drop];repeat' first|(with_reducible first|apply a8_|apply a3_|apply a1_|apply a5_)|((with_reducible first|refine a0_ fun X Y=>?_|refine a4_ fun X Y=>?_);go_simp;refine Y _ ?_;clear Y X)
 refine a2o 10 [39] 1 [0,29] (by kernel_rfl) (by kernel_rfl) (by kernel_rfl) (by kernel_rfl) rfl ⟨rfl,rfl⟩ rfl ?_;simp only [List.take,List.drop];repeat' first|with_reducible apply a5_|((with_reducible refine a4_ fun X Y=>?_);go_simp;refine Y _ ?_;clear Y X)
 refine ⟨_,by go_simp,by go_simp;exact rfl,?_,?_⟩
 ·intro t ht;simp only [List.mem_cons,List.not_mem_nil,or_false] at ht;rcases ht with rfl|rfl<;>rfl
 go_simp;repeat' first|(with_reducible first|apply a8_|apply a3_|apply a1_)|((with_reducible refine a0_ fun X Y=>?_);go_simp;refine Y _ ?_;clear Y X)
 refine a2v 8 [] (by kernel_rfl) (by kernel_rfl) ?_;simp only [List.take,List.drop];repeat' first|(with_reducible first|apply a3_|apply b5_|apply c4_|apply a1_|apply a5_)|((with_reducible first|refine a0_ fun X Y=>?_|refine a4_ fun X Y=>?_);go_simp;refine Y _ ?_;clear Y X)
 go_simp
theorem c7e (log:List Ev) (d:Dy) (a b:Bool) (i:Nat) (hi:i < log.length) (hl:log.length≤1000000) (hk:(d9_ log i).kind=2) (h:DyOK log i d) (hh:i5_ (d9_ log i).car d.st=true) :
  VH Tryz.prog 143 (k0_ d a b) [.ref 0 0,u9_ log,I (i:Int)] [0] (k0_ (l2_ log d i (d9_ log i)) a b) (.tup []):=by
 obtain ⟨w1,w2,w3,w4,w5,w6⟩:=ixs (m:=i) (by omega);have ho:=h.op _ hh;obtain ⟨j,hj,hjl,hjc,hju⟩:=n0_ d.st 0 hh;rw [Nat.zero_add] at hj;unfold l2_;rw [if_neg (by omega),if_neg (by omega),hju];rw [hj] at ho;have hcame:=h.st _ (List.getElem_mem hjl);obtain ⟨c1,c2,c3,c4,c5⟩:=hcame;obtain ⟨y,hy⟩ : ∃ y,d.st[j]=y:=⟨_,rfl⟩
 rw [hy] at hjc c1 c2 c3 c4 c5 ⊢;have e1:∀ hh:j < (d.st.map Sy.av).length,(d.st.map Sy.av)[j]'hh=Sy.av y:=fun hh=>by rw [List.getElem_map,hy]
 have e2:j < (d.st.map Sy.av).length:=by simpa using hjl
 have ej:((j:Int)).toNat=j:=by omega
 have HY:=Lib.hid hy;obtain ⟨yc,ya,yw,yd⟩:=y;simp only [Sy.av] at e1;simp only at hjc c1 c2 c3 c4 c5;have e3:(d.st.set j (p7_ (d9_ log i) i ⟨yc,ya,yw,yd⟩)).map Sy.av=(d.st.map Sy.av).set j [S yc,I ya,I yw,I (yd+1)]:=by
  rw [List.map_set];unfold p7_;rw [hk];rfl
 have e4:o8_ log d.st (d9_ log i)=[]:=by unfold o8_;rw [if_neg (by omega)]
 rw [if_neg (by omega),if_neg (by omega),e4,List.append_nil];have e5:IntKind.i64.wrap (yd+1)=yd+1:=g0_ (by omega) (by omega);unfold k0_;simp only;rw [e3];generalize d.st.map Sy.av=E at *;clear h hh hj hju e3 e4 HY c1 c2 c3 c4 c5 hjc;refine g4_ Tryz.func143 rfl (by kernel_rfl) rfl (fun _=>by kernel_rfl) fun M0 w0 vs=>?_;simp only [Tryz.ntmps143,Tryz.results143,b4_];repeat' first|(with_reducible first|apply a8_|apply a3_|apply b1_|apply a1_|refine a2_ [] ?_)|((with_reducible refine a6_ ?_ ?_);(focus (go_simp;done)))|((with_reducible refine a0_ fun X Y=>?_);go_simp;refine Y _ ?_;clear Y X)
 refine a2v 13 [] (by kernel_rfl) (by kernel_rfl) ?_;simp only [List.take,List.drop];repeat' first|(with_reducible first|apply a8_|apply a3_|apply a1_|apply a5_)|((with_reducible refine a4_ fun X Y=>?_);go_simp;refine Y _ ?_;clear Y X)
 repeat' first|(with_reducible first|apply a8_|apply a3_|apply a9_|apply b3_|apply a1_|refine a2_ [] ?_)|((with_reducible refine a7_ ?_ ?_);(focus (go_simp;done)))|((with_reducible refine a6_ ?_ ?_);(focus (go_simp;done)))|((with_reducible refine a0_ fun X Y=>?_);go_simp;refine Y _ ?_;clear Y X)
 go_simp
theorem c7f (log:List Ev) (d:Dy) (a b:Bool) (i:Nat) (hi:i < log.length) (hl:log.length≤1000000) (hk:(d9_ log i).kind=3) (h:DyOK log i d) (hh:i5_ (d9_ log i).car d.st=true) :
  VH Tryz.prog 143 (k0_ d a b) [.ref 0 0,u9_ log,I (i:Int)] [0] (k0_ (l2_ log d i (d9_ log i)) a b) (.tup []):=by
 obtain ⟨w1,w2,w3,w4,w5,w6⟩:=ixs (m:=i) (by omega);have ho:=h.op _ hh;obtain ⟨j,hj,hjl,hjc,hju⟩:=n0_ d.st 0 hh;rw [Nat.zero_add] at hj;unfold l2_;rw [if_neg (by omega),if_neg (by omega),hju];rw [hj] at ho;have hcame:=h.st _ (List.getElem_mem hjl);obtain ⟨c1,c2,c3,c4,c5⟩:=hcame;obtain ⟨y,hy⟩ : ∃ y,d.st[j]=y:=⟨_,rfl⟩
 rw [hy] at hjc c1 c2 c3 c4 c5 ⊢;have e1:∀ hh:j < (d.st.map Sy.av).length,(d.st.map Sy.av)[j]'hh=Sy.av y:=fun hh=>by rw [List.getElem_map,hy]
 have e2:j < (d.st.map Sy.av).length:=by simpa using hjl
 have ej:((j:Int)).toNat=j:=by omega
 have HY:=Lib.hid hy;obtain ⟨yc,ya,yw,yd⟩:=y;simp only [Sy.av] at e1;simp only at hjc c1 c2 c3 c4 c5;have e3:(d.st.set j (p7_ (d9_ log i) i ⟨yc,ya,yw,yd⟩)).map Sy.av=(d.st.map Sy.av).set j [S yc,I ya,I (i:Int),I yd]:=by
  rw [List.map_set];unfold p7_;rw [hk];rfl
 have e4:o8_ log d.st (d9_ log i)=[]:=by unfold o8_;rw [if_neg (by omega)]
 rw [if_neg (by omega),if_neg (by omega),e4,List.append_nil];unfold k0_;simp only;rw [e3];generalize d.st.map Sy.av=E at *;clear h hh hj hju e3 e4 HY c1 c2 c3 c4 c5 hjc;refine g4_ Tryz.func143 rfl (by kernel_rfl) rfl (fun _=>by kernel_rfl) fun M0 w0 vs=>?_;simp only [Tryz.ntmps143,Tryz.results143,b4_];repeat' first|(with_reducible first|apply a8_|apply a3_|apply b1_|apply a1_|refine a2_ [] ?_)|((with_reducible refine a6_ ?_ ?_);(focus (go_simp;done)))|((with_reducible refine a0_ fun X Y=>?_);go_simp;refine Y _ ?_;clear Y X)
 refine a2v 13 [] (by kernel_rfl) (by kernel_rfl) ?_;simp only [List.take,List.drop];repeat' first|(with_reducible first|apply a8_|apply a3_|apply a1_|apply a5_)|((with_reducible refine a4_ fun X Y=>?_);go_simp;refine Y _ ?_;clear Y X)
 repeat' first|(with_reducible first|apply a8_|apply a3_|apply a9_|apply b3_|apply a1_|refine a2_ [] ?_)|((with_reducible refine a7_ ?_ ?_);(focus (go_simp;done)))|((with_reducible refine a6_ ?_ ?_);(focus (go_simp;done)))|((with_reducible refine a0_ fun X Y=>?_);go_simp;refine Y _ ?_;clear Y X)
 go_simp
theorem c7g (log:List Ev) (d:Dy) (a b:Bool) (i:Nat) (hi:i < log.length) (hl:log.length≤1000000) (hk:(d9_ log i).kind=5) (h:DyOK log i d) (hh:i5_ (d9_ log i).car d.st=true) :
  VH Tryz.prog 143 (k0_ d a b) [.ref 0 0,u9_ log,I (i:Int)] [0] (k0_ (l2_ log d i (d9_ log i)) a b) (.tup []):=by
 obtain ⟨w1,w2,w3,w4,w5,w6⟩:=ixs (m:=i) (by omega);have ho:=h.op _ hh;obtain ⟨j,hj,hjl,hjc,hju⟩:=n0_ d.st 0 hh;rw [Nat.zero_add] at hj;unfold l2_;rw [if_neg (by omega),if_neg (by omega),hju];rw [hj] at ho;have hcame:=h.st _ (List.getElem_mem hjl);obtain ⟨c1,c2,c3,c4,c5⟩:=hcame;obtain ⟨y,hy⟩ : ∃ y,d.st[j]=y:=⟨_,rfl⟩
 rw [hy] at hjc c1 c2 c3 c4 c5 ⊢;have e1:∀ hh:j < (d.st.map Sy.av).length,(d.st.map Sy.av)[j]'hh=Sy.av y:=fun hh=>by rw [List.getElem_map,hy]
 have e2:j < (d.st.map Sy.av).length:=by simpa using hjl
 have ej:((j:Int)).toNat=j:=by omega
 have HY:=Lib.hid hy;obtain ⟨yc,ya,yw,yd⟩:=y;simp only [Sy.av] at e1;simp only at hjc c1 c2 c3 c4 c5;have e3:(d.st.set j (p7_ (d9_ log i) i ⟨yc,ya,yw,yd⟩)).map Sy.av=(d.st.map Sy.av).set j [S yc,I ya,I (-1),I yd]:=by
  rw [List.map_set];unfold p7_;rw [hk];rfl
 have e4:o8_ log d.st (d9_ log i)=[]:=by unfold o8_;rw [if_neg (by omega)]
 rw [if_neg (by omega),if_pos hk,e4,List.append_nil];obtain ⟨n1,n2,n3⟩:=h.sv.at_ (d9_ log i).car;unfold c6p;rw [show c1n d.sv (d9_ log i).car+(-1)=c1n d.sv (d9_ log i).car - 1 by omega];generalize c1n d.sv (d9_ log i).car=V at *;have n4:IntKind.i64.wrap (V - 1)=V - 1:=g0_ (by omega) (by omega);unfold k0_;simp only;rw [e3];generalize d.st.map Sy.av=E at *;clear h hh hj hju e3 e4 HY c1 c2 c3 c4 c5 hjc;refine g4_ Tryz.func143 rfl (by kernel_rfl) rfl (fun _=>by kernel_rfl) fun M0 w0 vs=>?_;simp only [Tryz.ntmps143,Tryz.results143,b4_];repeat' first|(with_reducible first|apply a8_|apply a3_|apply b1_|apply a1_|refine a2_ [] ?_)|((with_reducible refine a6_ ?_ ?_);(focus (go_simp;done)))|((with_reducible refine a0_ fun X Y=>?_);go_simp;refine Y _ ?_;clear Y X)
 refine a2v 13 [] (by kernel_rfl) (by kernel_rfl) ?_;simp only [List.take,List.drop];repeat' first|(with_reducible first|apply a8_|apply a3_|apply a1_|apply a5_)|((with_reducible refine a4_ fun X Y=>?_);go_simp;refine Y _ ?_;clear Y X)
 repeat' first|(with_reducible first|apply a8_|apply a3_|apply a9_|apply a1_|refine a2_ [] ?_)|((with_reducible refine a7_ ?_ ?_);(focus (go_simp;done)))|((with_reducible refine a6_ ?_ ?_);(focus (go_simp;done)))|((with_reducible refine a0_ fun X Y=>?_);go_simp;refine Y _ ?_;clear Y X)
 refine a2v 8 [] (by kernel_rfl) (by kernel_rfl) ?_;simp only [List.take,List.drop];repeat' first|(with_reducible first|apply b3_|apply a1_|apply a5_)|((with_reducible first|refine a0_ fun X Y=>?_|refine a4_ fun X Y=>?_);go_simp;refine Y _ ?_;clear Y X)
 go_simp
theorem c7h (log:List Ev) (d:Dy) (a b:Bool) (i:Nat) (hi:i < log.length) (hl:log.length≤1000000) (hk:(d9_ log i).kind=1) (ht:0≤(d9_ log i).time∧(d9_ log i).time≤604800) (h:DyOK log i d) (hh:i5_ (d9_ log i).car d.st=true) :
  VH Tryz.prog 143 (k0_ d a b) [.ref 0 0,u9_ log,I (i:Int)] [0] (k0_ (l2_ log d i (d9_ log i)) a false) (.tup []):=by
 obtain ⟨w1,w2,w3,w4,w5,w6⟩:=ixs (m:=i) (by omega);have ho:=h.op _ hh;obtain ⟨j,hj,hjl,hjc,hju⟩:=n0_ d.st 0 hh;rw [Nat.zero_add] at hj;unfold l2_;rw [if_neg (by omega),if_neg (by omega),hju];rw [hj] at ho;have hcame:=h.st _ (List.getElem_mem hjl);obtain ⟨c1,c2,c3,c4,c5⟩:=hcame;obtain ⟨y,hy⟩ : ∃ y,d.st[j]=y:=⟨_,rfl⟩
 rw [hy] at hjc c1 c2 c3 c4 c5 ⊢;have e1:∀ hh:j < (d.st.map Sy.av).length,(d.st.map Sy.av)[j]'hh=Sy.av y:=fun hh=>by rw [List.getElem_map,hy]
 have e2:j < (d.st.map Sy.av).length:=by simpa using hjl
 have ej:((j:Int)).toNat=j:=by omega
 have HY:=Lib.hid hy;obtain ⟨yc,ya,yw,yd⟩:=y;simp only [Sy.av] at e1;simp only at hjc c1 c2 c3 c4 c5;have e3:(d.st.set j (p7_ (d9_ log i) i ⟨yc,ya,yw,yd⟩)).map Sy.av=(d.st.map Sy.av).set j [S yc,I ya,I (i:Int),I yd]:=by
  rw [List.map_set];unfold p7_;rw [hk];rfl
 have e4:o8_ log d.st (d9_ log i)=[⟨(d9_ log i).car,(d9_ log i).rank,(d9_ log i).time - (d9_ log ya.toNat).time⟩]:=by
  unfold o8_ a1d;rw [if_pos hk,hj,Int.toNat_natCast,List.getD_eq_getElem?_getD,List.getElem?_eq_getElem hjl,HY.out];rfl
 rw [if_pos hk,e4];obtain ⟨n1,n2,n3⟩:=h.sv.at_ (d9_ log i).car;unfold c6p;generalize c1n d.sv (d9_ log i).car=V at *;have n4:IntKind.i64.wrap (V+1)=V+1:=g0_ (by omega) (by omega);obtain ⟨m,hm⟩ : ∃ m:Nat,ya=m:=⟨ya.toNat,by omega⟩
 subst hm;have m1:m < log.length:=by omega
 have m2:((m:Int)).toNat=m:=by omega
 rw [m2] at c3 ⊢;have n5:IntKind.i64.wrap ((d9_ log i).time - (d9_ log m).time)=(d9_ log i).time - (d9_ log m).time:=g0_ (by omega) (by omega);have n6:d.wt.length+1≤1000000000:=by have:=h.wl;omega
 unfold k0_;simp only;rw [e3,List.map_append];generalize d.st.map Sy.av=E at *;clear h hh hj hju e3 e4 HY c1 c2 c3 c4 c5 hjc;refine g4_ Tryz.func143 rfl (by kernel_rfl) rfl (fun _=>by kernel_rfl) fun M0 w0 vs=>?_;simp only [Tryz.ntmps143,Tryz.results143,b4_];repeat' first|(with_reducible first|apply a8_|apply a3_|apply b1_|apply a1_|refine a2_ [] ?_)|((with_reducible refine a6_ ?_ ?_);(focus (go_simp;done)))|((with_reducible refine a0_ fun X Y=>?_);go_simp;refine Y _ ?_;clear Y X)
 refine a2v 13 [] (by kernel_rfl) (by kernel_rfl) ?_;simp only [List.take,List.drop];repeat' first|(with_reducible first|apply a8_|apply a3_|apply a1_|apply a5_)|((with_reducible refine a4_ fun X Y=>?_);go_simp;refine Y _ ?_;clear Y X)
 repeat' first|(with_reducible first|apply a8_|apply a3_|apply a9_|apply a1_|refine a2_ [] ?_)|((with_reducible refine a7_ ?_ ?_);(focus (go_simp;done)))|((with_reducible refine a0_ fun X Y=>?_);go_simp;refine Y _ ?_;clear Y X)
 refine a2v 8 [] (by kernel_rfl) (by kernel_rfl) ?_;simp only [List.take,List.drop];repeat' first|(with_reducible first|apply a3_|apply a1_|apply a5_)|((with_reducible first|refine a0_ fun X Y=>?_|refine a4_ fun X Y=>?_);go_simp;refine Y _ ?_;clear Y X)
 refine a2o 22 [100] 3 [0,78] (by kernel_rfl) (by kernel_rfl) (by kernel_rfl) (by kernel_rfl) rfl ⟨rfl,rfl⟩ rfl ?_;simp only [List.take,List.drop];repeat' first|with_reducible apply a5_|((with_reducible refine a4_ fun X Y=>?_);go_simp;refine Y _ ?_;clear Y X)
 refine ⟨_,by go_simp,by go_simp;exact rfl,?_,?_⟩
 ·intro t ht;simp only [List.mem_cons,List.not_mem_nil,or_false] at ht;rcases ht with rfl|rfl<;>rfl
 go_simp;repeat' first|(with_reducible first|apply b3_|apply a1_)|((with_reducible refine a0_ fun X Y=>?_);go_simp;refine Y _ ?_;clear Y X)
 go_simp
def a7u (a:Bool×Bool) (x:Ev) : Bool×Bool:=(if x.kind=0 then false else a.1,if x.kind=1 then false else a.2)
theorem d0h (log:List Ev) (d:Dy) (a:Bool×Bool) (i:Nat) (hi:i < log.length) (hl:log.length≤1000000) (hk:0≤(d9_ log i).kind∧(d9_ log i).kind≤5) (ht:0≤(d9_ log i).time∧(d9_ log i).time≤604800) (h:DyOK log i d) (hh:(d9_ log i).kind≠0→(d9_ log i).kind≠4→i5_ (d9_ log i).car d.st=true) :
  VH Tryz.prog 143 (k0_ d a.1 a.2) [.ref 0 0,u9_ log,I (i:Int)] [0] (k0_ (l2_ log d i (d9_ log i)) (a7u a (d9_ log i)).1 (a7u a (d9_ log i)).2) (.tup []):=by
 obtain ⟨a,b⟩:=a;unfold a7u;simp only;by_cases h4:(d9_ log i).kind=4
 ·rw [if_neg (by omega),if_neg (by omega),show l2_ log d i (d9_ log i)=d by unfold l2_;rw [if_pos h4]];exact c7c log d a b i hi hl h4
 by_cases h0:(d9_ log i).kind=0
 ·rw [if_pos h0,if_neg (by omega)];exact c7d log d a b i hi hl h0 h.sl h.sv
 rw [if_neg h0];have hs:=hh h0 h4;by_cases h1:(d9_ log i).kind=1
 ·rw [if_pos h1];exact c7h log d a b i hi hl h1 ht h hs
 rw [if_neg h1];by_cases h2:(d9_ log i).kind=2
 ·exact c7e log d a b i hi hl h2 h hs
 by_cases h3:(d9_ log i).kind=3
 ·exact c7f log d a b i hi hl h3 h hs
 exact c7g log d a b i hi hl (by omega) h hs
theorem c7i (r:Ru) (s:St) (mv:List Sg) (n:Bool) (log:List Ev) (d:Dy) (a:Bool×Bool) (x:Ev) (i:Nat) (hx:x=d9_ log i) (hi:i < log.length) (hl:log.length≤1000000) (hk:0≤(d9_ log i).kind∧(d9_ log i).kind≤5) (ht:0≤(d9_ log i).time∧(d9_ log i).time≤604800) (h:DyOK log i d) (hh:(d9_ log i).kind≠0→(d9_ log i).kind≠4→i5_ (d9_ log i).car d.st=true) :
  VH Tryz.prog 142 (m9_ r s mv n++[some (.box [.ref 4 0]),some (.box [.osl 5,.mp 6,.osl 7,.mp 8]),some (.arr 167 4 a.1 (d.st.map Sy.av)),some (.mpo (4,.i64) d.op),some (.arr 67 3 a.2 (d.wt.map Wt.av)),some (.mpo (4,.i64) d.sv)]) [.ref 0 0,I (i:Int),evA x,.ref 3 0,.vp [u9_ log]] [0,3]
   (m9_ r s mv n++[some (.box [.ref 4 0]),some (.box [.osl 5,.mp 6,.osl 7,.mp 8]),some (.arr 167 4 (a7u a x).1 ((l2_ log d i x).st.map Sy.av)),some (.mpo (4,.i64) (l2_ log d i x).op),some (.arr 67 3 (a7u a x).2 ((l2_ log d i x).wt.map Wt.av)),some (.mpo (4,.i64) (l2_ log d i x).sv)]) (.tup []):=by
 have wn:=d0h log d a i hi hl hk ht h hh;rw [←hx] at wn;unfold k0_ at wn;generalize l2_ log d i x=D2 at *;generalize a7u a x=A2 at *;clear hx hh h ht hk;obtain ⟨kd,tm,rk,car⟩:=x;simp only [evA];refine g4_ Tryz.func142 rfl (by kernel_rfl) rfl (fun _=>by kernel_rfl) fun M0 w0 vs=>?_;simp only [Tryz.ntmps142,Tryz.results142,b4_];unfold m9_;simp only [List.cons_append,List.nil_append];repeat' with_reducible apply a8_
 refine a2_ [] ?_;repeat' first|(with_reducible first|apply a3_|apply a1_)|((with_reducible refine a0_ fun X Y=>?_);go_simp;refine Y _ ?_;clear Y X)
 refine c7_ (c0_ [] 3 ⟨rfl,rfl⟩ ?_);simp only [List.take,List.drop];repeat' first|with_reducible apply a1_|((with_reducible refine a0_ fun X Y=>?_);go_simp;refine Y _ ?_;clear Y X)
 refine e0_ [4,5,6,7,8] [4] [] [some (.box [.osl 1,.mp 2,.osl 3,.mp 4]),some (.arr 167 4 A2.1 (D2.st.map Sy.av)),some (.mpo (4,.i64) D2.op),some (.arr 67 3 A2.2 (D2.wt.map Wt.av)),some (.mpo (4,.i64) D2.sv)] (.tup []) rfl (by go_simp) ?_ ?_
 ·unfold i9_;go_simp;refine ⟨_,_,_,wn,?_⟩;go_simp;kernel_rfl
 go_simp;apply d6_;skip
 go_simp
theorem b9o (r:Ru) : Known (st0 r) []:=fun c hc=>by
 have h:=b8a.1 hc;change 0 < cnt c (List.replicate _ []).flatten+cnt c [] at h;rw [a0s,h7_] at h;omega
noncomputable def runTD (l0:List Ev) (r:Ru) : Nat→List Ev→T3×(Dy×Bool×Bool)→T3×(Dy×Bool×Bool)
 | _,[],z=>z
 | k,x::l,z=>if apE r z.1.1 x≠0 then (stepT r z.1 x,z.2) else runTD l0 r (k+1) l (stepT r z.1 x,(l2_ l0 z.2.1 k x,a7u z.2.2 x))
def a9w (l:List Ev) : AV:=.fn (.func 142) [] [.ref 0 0,.vp [u9_ l]]
theorem b5z (r:Ru) (l:List Ev) (hn:r.ranks.length≤1000000) (hnm:∀ k,k < r.ranks.length→(rat r.ranks k).name.size≤1000) (h0:¬a1c r l=0) :
  VH Tryz.prog 85 [some (.box [.ref 1 0]),some (.box [.osl 2,.mp 3,.osl 4,.mp 5]),some (.arr 167 4 true []),some (.mpo (4,.i64) []),some (.arr 67 3 true []),some (.mpo (4,.i64) [])] [c3_ r,u9_ l,a9w l] [2] [some (.box [.ref 1 0]),some (.box [.osl 2,.mp 3,.osl 4,.mp 5]),some (.arr 167 4 true []),some (.mpo (4,.i64) []),some (.arr 67 3 true []),some (.mpo (4,.i64) [])] (.tup [.lit (.pointer none),I 0,I (a1c r l)]):=by
 have g1:=k6_ r hn hnm;have g2:=b0_ (decide (l.length≤200)) 8;have g3:VC Tryz.prog 88 [.sl 1 ([(d2_ r).2,unl (decide (l.length≤200)) 8].map p9_)] (I (a1c r l)):=c6_ _ rfl rfl;have ed:decide ((l.length:Int)≤200)=decide (l.length≤200):=by
  by_cases h:l.length≤200
  ·rw [decide_eq_true h,decide_eq_true (by omega)]
  ·rw [decide_eq_false h,decide_eq_false (by omega)]
 rw [←ed] at g2 g3;generalize a1c r l=E at *;generalize (d2_ r).2=A1 at *;generalize unl (decide ((l.length:Int)≤200)) 8=A2 at *;clear ed;unfold a9w;refine g4_ Tryz.func85 rfl (by kernel_rfl) rfl (fun _=>by kernel_rfl) fun M0 w0 vs=>?_;simp only [Tryz.ntmps85,Tryz.results85,b4_];repeat' first|(with_reducible first|apply a8_|apply a3_|apply b5_|apply c4_|apply a1_|refine a2_ [] ?_)|((with_reducible refine a7_ ?_ ?_);(focus (go_simp;done)))|((with_reducible refine a0_ fun X Y=>?_);go_simp;(first|(with_reducible refine ⟨_,g1,?_⟩)|(with_reducible refine ⟨_,g2,?_⟩)|(refine ⟨_,g3,?_⟩)|skip);refine Y _ ?_;clear Y X)
 go_simp
theorem a9x (r:Ru) (l:List Ev) (H:Hp) (V:AV) (hnm:∀ k,k < r.ranks.length→(rat r.ranks k).name.size≤1000) (hr:RuOK r) (hl:l.length≤200) (hc:∀ x∈l,x.car.size≤1000) (h0:a1c r l=0) (z:T3×(Dy×Bool×Bool)) (hz:runTD l r 0 l (t0 r,(⟨[],[],[],[]⟩,true,true))=z)
  (hfin:(goP r 0 l (st0 r)).2.2≠0∧H=[some (.box [.ref 1 0]),some (.box [.osl 2,.mp 3,.osl 4,.mp 5]),some (.arr 167 4 z.2.2.1 (z.2.1.st.map Sy.av)),some (.mpo (4,.i64) z.2.1.op),some (.arr 67 3 z.2.2.2 (z.2.1.wt.map Wt.av)),some (.mpo (4,.i64) z.2.1.sv)]∧V = .tup [.lit (.pointer none),I ((goP r 0 l (st0 r)).2.1:Int),I (goP r 0 l (st0 r)).2.2]∨(goP r 0 l (st0 r)).2.2=0∧H=[some (.box [.ref 1 0]),some (.box [.osl 2,.mp 3,.osl 4,.mp 5]),some (.arr 167 4 z.2.2.1 (z.2.1.st.map Sy.av)),some (.mpo (4,.i64) z.2.1.op),some (.arr 67 3 z.2.2.2 (z.2.1.wt.map Wt.av)),some (.mpo (4,.i64) z.2.1.sv),some (.bag 62 1 false none (f3_ z.1.1.q)),some (.box [.osl 6,.osl 8,I z.1.1.time,.sl 4 (r.ranks.map Rk.av),I r.back,I r.ret,.sl 3 (z.1.2.1.map Sg.av)]),some (.arr 148 3 z.1.2.2 (z.1.1.tk.map Tk.av))]∧V = .tup [.ref 7 0,I 0,I 0]) :
  VH Tryz.prog 85 [some (.box [.ref 1 0]),some (.box [.osl 2,.mp 3,.osl 4,.mp 5]),some (.arr 167 4 true []),some (.mpo (4,.i64) []),some (.arr 67 3 true []),some (.mpo (4,.i64) [])] [c3_ r,u9_ l,a9w l] [2] H V:=by
 have hn:r.ranks.length≤1000000:=by have:=hr.n6;omega
 have g1:=k6_ r hn hnm;have g2:=b0_ (decide (l.length≤200)) 8;have g3:VC Tryz.prog 88 [.sl 1 ([(d2_ r).2,unl (decide (l.length≤200)) 8].map p9_)] (I (a1c r l)):=c6_ _ rfl rfl;have ed:decide ((l.length:Int)≤200)=decide (l.length≤200):=by rw [decide_eq_true hl,decide_eq_true (by omega)]
 rw [←ed] at g2 g3;rw [h0] at g3;generalize (d2_ r).2=A1 at *;generalize unl (decide ((l.length:Int)≤200)) 8=A2 at *;have ge:=a6t r hn;have HF:=Lib.hid hfin;have HR:=Lib.hid hr;have HC:=Lib.hid hc;have HZ:=Lib.hid hz;clear ed h0 hfin hr hnm hc hn hz;unfold a9w;refine g4_ Tryz.func85 rfl (by kernel_rfl) rfl (fun _=>by kernel_rfl) fun M0 w0 vs=>?_;simp only [Tryz.ntmps85,Tryz.results85,b4_];repeat' with_reducible apply a8_
 refine a2_ [] ?_;repeat' first|(with_reducible first|apply a8_|apply a3_|apply a1_)|((with_reducible refine a0_ fun X Y=>?_);go_simp;refine Y _ ?_;clear Y X)
 refine a2_ [] ?_;repeat' first|(with_reducible first|apply a8_|apply a3_|apply a1_)|((with_reducible refine a0_ fun X Y=>?_);go_simp;(first|(with_reducible refine ⟨_,g1,?_⟩)|(with_reducible refine ⟨_,g2,?_⟩)|(refine ⟨_,g3,?_⟩)|skip);refine Y _ ?_;clear Y X)
 refine a2_ [] ?_;repeat' first|(with_reducible first|apply a8_|apply a3_|apply b1_|apply a1_)|((with_reducible refine a6_ ?_ ?_);(focus (go_simp;done)))|((with_reducible refine a0_ fun X Y=>?_);go_simp;refine Y _ ?_;clear Y X)
 refine c7_ (c0_ [] 1 ⟨rfl,rfl⟩ ?_);simp only [List.take,List.drop];repeat' first|with_reducible apply a1_|((with_reducible refine a0_ fun X Y=>?_);go_simp;refine Y _ ?_;clear Y X)
 refine e0_ [] [] [] (a2q r (st0 r) [] true true) (.ref 1 0) rfl (by go_simp) ?_ ?_
 ·unfold i9_;go_simp;refine ⟨_,_,⟨_,ge⟩,?_⟩;unfold a2q;go_simp;kernel_rfl
 unfold a2q;go_simp;refine c0_ [] 1 ⟨rfl,rfl⟩ ?_;simp only [List.take,List.drop];repeat' first|with_reducible apply a1_|((with_reducible refine a0_ fun X Y=>?_);go_simp;refine Y _ ?_;clear Y X)
 apply d6_;refine i1_ 7 6 9 rfl rfl rfl ?_;repeat' with_reducible apply a8_
 refine a2_ [] ?_;repeat' first|(with_reducible first|apply a3_|apply a9_|apply a1_)|((with_reducible refine a0_ fun X Y=>?_);go_simp;refine Y _ ?_;clear Y X)
 apply b0p (α:=Nat×T3×(Dy×Bool×Bool)) [2,10,27,28] (fun (x:Nat×T3×(Dy×Bool×Bool))=>[(29,I (x.1:Int))]) (fun (x:Nat×T3×(Dy×Bool×Bool))=>([some (.box [.ref 1 0]),some (.box [.osl 2,.mp 3,.osl 4,.mp 5]),some (.arr 167 4 x.2.2.2.1 (x.2.2.1.st.map Sy.av)),some (.mpo (4,.i64) x.2.2.1.op),some (.arr 67 3 x.2.2.2.2 (x.2.2.1.wt.map Wt.av)),some (.mpo (4,.i64) x.2.2.1.sv),some (.bag 62 1 false none (f3_ x.2.1.1.q)),some (.box [.osl 6,.osl 8,I x.2.1.1.time,.sl 4 (r.ranks.map Rk.av),I r.back,I r.ret,.sl 3 (x.2.1.2.1.map Sg.av)]),some (.arr 148 3 x.2.1.2.2 (x.2.1.1.tk.map Tk.av))] : Hp)) (fun (x:Nat×T3×(Dy×Bool×Bool))=>Hid (Inv r x.2.1.1∧goP r x.1 (l.drop x.1) x.2.1.1=goP r 0 l (st0 r)∧runTD l r x.1 (l.drop x.1) x.2=z)∧x.1≤l.length∧Hid (DyOK l x.1 x.2.2.1∧Known x.2.1.1 x.2.2.1.st)) (fun (x:Nat×T3×(Dy×Bool×Bool))=>l.length - x.1) ((0,(st0 r,([] : List Sg),true),(⟨[],[],[],[]⟩,true,true))) ⟨Lib.hid ⟨Inv.st0 HR.out,rfl,HZ.out⟩,Nat.zero_le _,Lib.hid (⟨DyOK.zero l,b9o r⟩)⟩
 ·(go_simp<;>exact rfl)
 ·go_simp
 rintro ⟨k,⟨s,m,a⟩,y⟩ ⟨HI,hk,HY⟩ K hK;simp only at HI hk hK HY ⊢;by_cases hkl:k < l.length
 ·obtain ⟨w1,w2,w3,w4,w5,w6⟩:=ixs (m:=k) (by omega);have el:l.drop k=d9_ l k::l.drop (k+1):=by rw [u4_ hkl,←List.drop_eq_getElem_cons hkl]
  have wa:=a6v r (s,m,a) (d9_ l k) HR.out HI.out.1 (HC.out _ (by rw [u4_ hkl];exact List.getElem_mem hkl));obtain ⟨T2,hT2⟩ : ∃ T2,stepT r (s,m,a) (d9_ l k)=T2:=⟨_,rfl⟩
  rw [hT2] at wa;obtain ⟨s2,m2,a2⟩:=T2;have hAU:apE r s (d9_ l k)=0→(apU r s (d9_ l k)).1=s2∧(apU r s (d9_ l k)).2=m2:=fun h=>by
   have e1:=congrArg (fun t:T3=>t.1) hT2;have e2:=congrArg (fun t:T3=>t.2.1) hT2;simp only [stepT,apR,if_pos h] at e1 e2;exact ⟨e1,e2⟩
  have hE:goP r k (l.drop k) s=if apE r s (d9_ l k)≠0 then (s,k,apE r s (d9_ l k)) else goP r (k+1) (l.drop (k+1)) s2:=by
   rw [el,goP];by_cases h:apE r s (d9_ l k)=0
   ·rw [if_neg (by simp [h]),if_neg (by simp [h]),(hAU h).1]
   ·rw [if_pos h,if_pos h]
  have hU:runTD l r k (l.drop k) ((s,m,a),y)=if apE r s (d9_ l k)≠0 then ((s2,m2,a2),y) else runTD l r (k+1) (l.drop (k+1)) ((s2,m2,a2),(l2_ l y.1 k (d9_ l k),a7u y.2 (d9_ l k))):=by rw [el,runTD,hT2]
  have hI2:apE r s (d9_ l k)=0→Inv r s2:=fun h=>by
   rw [←(hAU h).1];exact (HI.out.1.ap HR.out h).1
  have hY2:apE r s (d9_ l k)=0→DyOK l (k+1) (l2_ l y.1 k (d9_ l k))∧Known s2 (l2_ l y.1 k (d9_ l k)).st:=fun h=>by
   refine ⟨HY.out.1.step rfl (c6d (parts h).1),?_⟩;rw [b3h,←(hAU h).1];exact Known.step HR.out HI.out.1 HY.out.2 h k
  have HY2:=Lib.hid hY2;clear hY2;have h1:=HI.out.2.1;have h2:=HI.out.2.2;rw [hE] at h1;rw [hU] at h2;have wt:=fun hE0:apE r s (d9_ l k)=0=>c7i r s2 m2 a2 l y.1 y.2 (d9_ l k) k rfl hkl (by omega) (c6c (parts hE0).1) (c6d (parts hE0).1) HY.out.1 (fun h0 h4=>HY.out.2 _ (c5d HI.out.1.len hE0 h0 h4));clear hT2 HI hE hU el hAU;unfold a6u m9_ at wa;simp only at wa;unfold m9_ at wt;simp only [List.cons_append,List.nil_append] at wt;have H1:=Lib.hid h1;have H2:=Lib.hid h2;have HI2:=Lib.hid hI2;clear h1 h2 hI2;have WT:=Lib.hid wt;clear wt;generalize apE r s (d9_ l k)=E at *;repeat' with_reducible apply a8_
  refine a2_ [] ?_;repeat' first|(with_reducible first|apply a8_|apply a3_|apply b1_|apply a9_|apply a1_)|((with_reducible refine a7_ ?_ ?_);(focus (go_simp;done)))|((with_reducible refine a0_ fun X Y=>?_);go_simp;refine Y _ ?_;clear Y X)
  refine a2_ [] ?_;repeat' first|(with_reducible first|apply a8_|apply a3_|apply a1_)|((with_reducible refine a0_ fun X Y=>?_);go_simp;refine Y _ ?_;clear Y X)
  refine c7_ (c0_ [] 2 ⟨rfl,rfl⟩ ?_);simp only [List.take,List.drop];repeat' first|with_reducible apply a1_|((with_reducible refine a0_ fun X Y=>?_);go_simp;refine Y _ ?_;clear Y X)
  refine e0_ [7,6,8] [7] [] [some (.box [.osl 1,.osl 2,I s2.time,.sl 4 (r.ranks.map Rk.av),I r.back,I r.ret,.sl 3 (m2.map Sg.av)]),some (.bag 62 1 false none (f3_ s2.q)),some (.arr 148 3 a2 (s2.tk.map Tk.av))] (I E) rfl (by go_simp) ?_ ?_
  ·unfold i9_;go_simp;refine ⟨_,_,_,wa,?_⟩;go_simp;kernel_rfl
  go_simp;refine c0_ [] 1 ⟨rfl,rfl⟩ ?_;simp only [List.take,List.drop];repeat' first|with_reducible apply a1_|((with_reducible refine a0_ fun X Y=>?_);go_simp;refine Y _ ?_;clear Y X)
  apply d6_;repeat' with_reducible first|apply a8_|apply a3_
  by_cases he:E=0
  ·subst he;have h1:=H1.out;have h2:=H2.out;rw [if_neg (by simp)] at h1 h2;have hi2:=HI2.out rfl;have wt:=WT.out rfl;have hY2:=HY2.out rfl;generalize l2_ l y.1 k (d9_ l k)=O2 at *;generalize a7u y.2 (d9_ l k)=A2 at *;clear H1 HI2 WT H2 HY HY2;have H1:=Lib.hid h1;have H2:=Lib.hid h2;have HI2:=Lib.hid hi2;clear h1 h2 hi2;refine a2_ [] ?_;repeat' first|(with_reducible first|apply a3_|apply b1_|apply a1_)|((with_reducible refine a6_ ?_ ?_);(focus (go_simp;done)))|((with_reducible refine a0_ fun X Y=>?_);go_simp;refine Y _ ?_;clear Y X)
   refine c7_ (c0_ [] 4 ⟨rfl,rfl⟩ ?_);simp only [List.take,List.drop];repeat' first|with_reducible apply a1_|((with_reducible refine a0_ fun X Y=>?_);go_simp;refine Y _ ?_;clear Y X)
   refine e0_ [7,6,8,0,1,2,3,4,5] [7,0] [] [some (.box [.osl 1,.osl 2,I s2.time,.sl 4 (r.ranks.map Rk.av),I r.back,I r.ret,.sl 3 (m2.map Sg.av)]),some (.bag 62 1 false none (f3_ s2.q)),some (.arr 148 3 a2 (s2.tk.map Tk.av)),some (.box [.ref 4 0]),some (.box [.osl 5,.mp 6,.osl 7,.mp 8]),some (.arr 167 4 A2.1 (O2.st.map Sy.av)),some (.mpo (4,.i64) O2.op),some (.arr 67 3 A2.2 (O2.wt.map Wt.av)),some (.mpo (4,.i64) O2.sv)] (.tup []) rfl (by go_simp) ?_ ?_
   ·unfold i9_;go_simp;refine ⟨_,_,_,wt,?_⟩;go_simp;kernel_rfl
   go_simp;apply d6_;repeat' with_reducible first|apply a3_|apply b3_
   refine a2_ [] ?_;repeat' first|(with_reducible first|apply a3_|apply a1_)|((with_reducible refine a0_ fun X Y=>?_);go_simp;refine Y _ ?_;clear Y X)
   refine hK _ (k+1,(s2,m2,a2),(O2,A2)) ⟨Lib.hid ⟨HI2.out,H1.out,H2.out⟩,hkl,Lib.hid (hY2)⟩ (by simp only;omega) ?_;go_simp
  ·have h1:=H1.out;have h2:=H2.out;rw [if_pos he] at h1 h2;rcases HF.out with ⟨q1,rfl,q3⟩|⟨q1,_,_⟩
   ·rw [←h1] at q3;simp only at q3;subst q3;subst h2;clear HF H1 HI2 H2 h1 q1 hK HZ WT;refine a2_ [] ?_;repeat' first|(with_reducible first|apply a8_|apply a3_|apply a1_)|((with_reducible refine a7_ ?_ ?_);(focus (go_simp;done)))|((with_reducible refine a0_ fun X Y=>?_);go_simp;refine Y _ ?_;clear Y X)
    refine a2_ [] ?_;repeat' first|(with_reducible first|apply a3_|apply b5_|apply c4_|apply c8_|apply a1_)|((with_reducible refine a0_ fun X Y=>?_);go_simp;refine Y _ ?_;clear Y X)
    go_simp
   ·rw [←h1] at q1;exact absurd q1 he
 ·have hkE:k=l.length:=by omega
  have h1:=HI.out.2.1;have h2:=HI.out.2.2;rw [hkE,List.drop_length] at h1 h2;rw [goP] at h1;rw [runTD] at h2;rcases HF.out with ⟨q1,_,_⟩|⟨_,q2,q3⟩
  ·rw [←h1] at q1;exact absurd rfl q1
  ·subst q3;subst h2;subst q2;subst hkE;clear HF h1 HI hK HZ;repeat' with_reducible apply a8_
   refine a2_ [] ?_;repeat' first|(with_reducible first|apply a8_|apply a3_|apply b8_|apply d0_|apply b7_|apply a1_)|((with_reducible refine a6_ ?_ ?_);(focus (go_simp;done)))|((with_reducible refine a0_ fun X Y=>?_);go_simp;refine Y _ ?_;clear Y X)
   refine a2_ [] ?_;repeat' first|(with_reducible first|apply a3_|apply c4_|apply a1_)|((with_reducible refine a0_ fun X Y=>?_);go_simp;refine Y _ ?_;clear Y X)
   go_simp
def z4_ (d:Dy) (a:Bool×Bool) : Hp:=[some (.mpo (4,.i64) d.op),some (.mpo (4,.i64) d.sv),some (.box [.osl 4,.mp 0,.osl 5,.mp 1]),some (.box [.ref 2 0]),some (.arr 167 4 a.1 (d.st.map Sy.av)),some (.arr 67 3 a.2 (d.wt.map Wt.av))]
theorem b4c (r:Ru) (l:List Ev) (d:Dy) (a:Bool×Bool) (n e:Int) (g:VH Tryz.prog 85 [some (.box [.ref 1 0]),some (.box [.osl 2,.mp 3,.osl 4,.mp 5]),some (.arr 167 4 true []),some (.mpo (4,.i64) []),some (.arr 67 3 true []),some (.mpo (4,.i64) [])] [c3_ r,u9_ l,a9w l] [2] [some (.box [.ref 1 0]),some (.box [.osl 2,.mp 3,.osl 4,.mp 5]),some (.arr 167 4 a.1 (d.st.map Sy.av)),some (.mpo (4,.i64) d.op),some (.arr 67 3 a.2 (d.wt.map Wt.av)),some (.mpo (4,.i64) d.sv)] (.tup [.lit (.pointer none),I n,I e])) :
  VH Tryz.prog 95 [] [c3_ r,u9_ l] [] (z4_ d a) (.tup [.ref 2 0,I e]):=by
 unfold a9w at g;refine g4_ Tryz.func95 rfl (by kernel_rfl) rfl (fun _=>by kernel_rfl) fun M0 w0 vs=>?_;simp only [Tryz.ntmps95,Tryz.results95,b4_];repeat' with_reducible apply a8_
 refine a2_ [] ?_;repeat' first|(with_reducible first|apply a8_|apply a3_|apply a1_)|((with_reducible refine a0_ fun X Y=>?_);go_simp;refine Y _ ?_;clear Y X)
 refine a2_ [13] ?_;repeat' first|(with_reducible first|apply a8_|apply a3_|apply a1_)|((with_reducible refine a0_ fun X Y=>?_);go_simp;refine Y _ ?_;clear Y X)
 refine a0p (fun p a w R=>⟨_,R.nilCell (bi:=2) (j:=0) (e:=167) (sz:=4) rfl rfl (by decide)⟩) ?_;go_simp;refine a0p (fun p a w R=>⟨_,R.nilCell (bi:=2) (j:=2) (e:=67) (sz:=3) rfl rfl (by decide)⟩) ?_;go_simp;skip
 refine c7_ (c0_ [] 3 ⟨rfl,rfl⟩ ?_);simp only [List.take,List.drop];repeat' first|with_reducible apply a1_|((with_reducible refine a0_ fun X Y=>?_);go_simp;refine Y _ ?_;clear Y X)
 refine e0_ [3,2,4,0,5,1] [3] [] [some (.box [.ref 1 0]),some (.box [.osl 2,.mp 3,.osl 4,.mp 5]),some (.arr 167 4 a.1 (d.st.map Sy.av)),some (.mpo (4,.i64) d.op),some (.arr 67 3 a.2 (d.wt.map Wt.av)),some (.mpo (4,.i64) d.sv)] (.tup [.lit (.pointer none),I n,I e]) rfl (by go_simp) ?_ ?_
 ·unfold i9_;go_simp;refine ⟨_,_,_,g,?_⟩;go_simp;kernel_rfl
 go_simp;refine c0_ [] 7 ⟨rfl,rfl⟩ ?_;simp only [List.take,List.drop];repeat' first|with_reducible apply a1_|((with_reducible refine a0_ fun X Y=>?_);go_simp;refine Y _ ?_;clear Y X)
 apply d6_;repeat' with_reducible first|apply a8_|apply a3_
 refine a2_ [] ?_;repeat' first|(with_reducible first|apply a3_|apply c4_|apply a1_)|((with_reducible refine a0_ fun X Y=>?_);go_simp;refine Y _ ?_;clear Y X)
 unfold z4_;go_simp
theorem c7j (r:Ru) (l:List Ev) (d:Dy) (a:Bool×Bool) (s:St) (mv:List Sg) (b:Bool) (g:VH Tryz.prog 85 [some (.box [.ref 1 0]),some (.box [.osl 2,.mp 3,.osl 4,.mp 5]),some (.arr 167 4 true []),some (.mpo (4,.i64) []),some (.arr 67 3 true []),some (.mpo (4,.i64) [])] [c3_ r,u9_ l,a9w l] [2] [some (.box [.ref 1 0]),some (.box [.osl 2,.mp 3,.osl 4,.mp 5]),some (.arr 167 4 a.1 (d.st.map Sy.av)),some (.mpo (4,.i64) d.op),some (.arr 67 3 a.2 (d.wt.map Wt.av)),some (.mpo (4,.i64) d.sv),some (.bag 62 1 false none (f3_ s.q)),some (.box [.osl 6,.osl 8,I s.time,.sl 4 (r.ranks.map Rk.av),I r.back,I r.ret,.sl 3 (mv.map Sg.av)]),some (.arr 148 3 b (s.tk.map Tk.av))] (.tup [.ref 7 0,I 0,I 0])) :
  VH Tryz.prog 95 [] [c3_ r,u9_ l] [] (z4_ d a++[some (.bag 62 1 false none (f3_ s.q)),some (.box [.osl 6,.osl 8,I s.time,.sl 4 (r.ranks.map Rk.av),I r.back,I r.ret,.sl 3 (mv.map Sg.av)]),some (.arr 148 3 b (s.tk.map Tk.av))]) (.tup [.ref 2 0,I 0]):=by
 unfold a9w at g;refine g4_ Tryz.func95 rfl (by kernel_rfl) rfl (fun _=>by kernel_rfl) fun M0 w0 vs=>?_;simp only [Tryz.ntmps95,Tryz.results95,b4_];repeat' with_reducible apply a8_
 refine a2_ [] ?_;repeat' first|(with_reducible first|apply a8_|apply a3_|apply a1_)|((with_reducible refine a0_ fun X Y=>?_);go_simp;refine Y _ ?_;clear Y X)
 refine a2_ [13] ?_;repeat' first|(with_reducible first|apply a8_|apply a3_|apply a1_)|((with_reducible refine a0_ fun X Y=>?_);go_simp;refine Y _ ?_;clear Y X)
 refine a0p (fun p a w R=>⟨_,R.nilCell (bi:=2) (j:=0) (e:=167) (sz:=4) rfl rfl (by decide)⟩) ?_;go_simp;refine a0p (fun p a w R=>⟨_,R.nilCell (bi:=2) (j:=2) (e:=67) (sz:=3) rfl rfl (by decide)⟩) ?_;go_simp;skip
 refine c7_ (c0_ [] 3 ⟨rfl,rfl⟩ ?_);simp only [List.take,List.drop];repeat' first|with_reducible apply a1_|((with_reducible refine a0_ fun X Y=>?_);go_simp;refine Y _ ?_;clear Y X)
 refine e0_ [3,2,4,0,5,1] [3] [] [some (.box [.ref 1 0]),some (.box [.osl 2,.mp 3,.osl 4,.mp 5]),some (.arr 167 4 a.1 (d.st.map Sy.av)),some (.mpo (4,.i64) d.op),some (.arr 67 3 a.2 (d.wt.map Wt.av)),some (.mpo (4,.i64) d.sv),some (.bag 62 1 false none (f3_ s.q)),some (.box [.osl 6,.osl 8,I s.time,.sl 4 (r.ranks.map Rk.av),I r.back,I r.ret,.sl 3 (mv.map Sg.av)]),some (.arr 148 3 b (s.tk.map Tk.av))] (.tup [.ref 7 0,I 0,I 0]) rfl (by go_simp) ?_ ?_
 ·unfold i9_;go_simp;refine ⟨_,_,_,g,?_⟩;go_simp;kernel_rfl
 go_simp;refine c0_ [] 7 ⟨rfl,rfl⟩ ?_;simp only [List.take,List.drop];repeat' first|with_reducible apply a1_|((with_reducible refine a0_ fun X Y=>?_);go_simp;refine Y _ ?_;clear Y X)
 apply d6_;repeat' with_reducible first|apply a8_|apply a3_
 refine a2_ [] ?_;repeat' first|(with_reducible first|apply a3_|apply c4_|apply a1_)|((with_reducible refine a0_ fun X Y=>?_);go_simp;refine Y _ ?_;clear Y X)
 unfold z4_;go_simp
theorem c3o (r:Ru) (l:List Ev) (d:Dy) (a:Bool×Bool) (e:Int) (he:e≠0) (g:VH Tryz.prog 95 [] [c3_ r,u9_ l] [] (z4_ d a) (.tup [.ref 2 0,I e])) :
  VC Tryz.prog 35 [c3_ r,u9_ l] (.tup [r7_,I e]):=by
 unfold z4_ at g;refine c2_ Tryz.func35 rfl (by kernel_rfl) (by kernel_rfl) rfl fun M0 w0=>?_;simp only [Tryz.ntmps35,Tryz.results35,b4_];repeat' with_reducible apply a8_
 refine a2_ [] ?_;repeat' first|(with_reducible first|apply a8_|apply a3_|apply a1_)|((with_reducible refine a0_ fun X Y=>?_);go_simp;refine Y _ ?_;clear Y X)
 refine c7_ (c0_ [] 2 ⟨rfl,rfl⟩ ?_);simp only [List.take,List.drop];repeat' first|with_reducible apply a1_|((with_reducible refine a0_ fun X Y=>?_);go_simp;refine Y _ ?_;clear Y X)
 refine e0_ [] [] [] [some (.mpo (4,.i64) d.op),some (.mpo (4,.i64) d.sv),some (.box [.osl 4,.mp 0,.osl 5,.mp 1]),some (.box [.ref 2 0]),some (.arr 167 4 a.1 (d.st.map Sy.av)),some (.arr 67 3 a.2 (d.wt.map Wt.av))] (.tup [.ref 2 0,I e]) rfl (by go_simp) ?_ ?_
 ·unfold i9_;go_simp;refine ⟨_,_,⟨_,g⟩,?_⟩;go_simp;kernel_rfl
 go_simp;refine c0_ [] 5 ⟨rfl,rfl⟩ ?_;simp only [List.take,List.drop];repeat' first|with_reducible apply a1_|((with_reducible refine a0_ fun X Y=>?_);go_simp;refine Y _ ?_;clear Y X)
 apply d6_;repeat' first|(with_reducible first|apply a8_|apply a3_|apply b5_|apply c4_|apply a1_|refine a2_ [] ?_)|((with_reducible refine a7_ ?_ ?_);(focus (go_simp;done)))|((with_reducible refine a0_ fun X Y=>?_);go_simp;refine Y _ ?_;clear Y X)
 go_simp
theorem c7k (r:Ru) (l:List Ev) (d:Dy) (a:Bool×Bool) (s:St) (mv:List Sg) (b:Bool) (g:VH Tryz.prog 95 [] [c3_ r,u9_ l] [] (z4_ d a++[some (.bag 62 1 false none (f3_ s.q)),some (.box [.osl 6,.osl 8,I s.time,.sl 4 (r.ranks.map Rk.av),I r.back,I r.ret,.sl 3 (mv.map Sg.av)]),some (.arr 148 3 b (s.tk.map Tk.av))]) (.tup [.ref 2 0,I 0])) :
  VC Tryz.prog 35 [c3_ r,u9_ l] (.tup [.sl 3 (d.wt.map Wt.av),I 0]):=by
 unfold z4_ at g;simp only [List.cons_append,List.nil_append] at g;refine c2_ Tryz.func35 rfl (by kernel_rfl) (by kernel_rfl) rfl fun M0 w0=>?_;simp only [Tryz.ntmps35,Tryz.results35,b4_];repeat' with_reducible apply a8_
 refine a2_ [] ?_;repeat' first|(with_reducible first|apply a8_|apply a3_|apply a1_)|((with_reducible refine a0_ fun X Y=>?_);go_simp;refine Y _ ?_;clear Y X)
 refine c7_ (c0_ [] 2 ⟨rfl,rfl⟩ ?_);simp only [List.take,List.drop];repeat' first|with_reducible apply a1_|((with_reducible refine a0_ fun X Y=>?_);go_simp;refine Y _ ?_;clear Y X)
 refine e0_ [] [] [] [some (.mpo (4,.i64) d.op),some (.mpo (4,.i64) d.sv),some (.box [.osl 4,.mp 0,.osl 5,.mp 1]),some (.box [.ref 2 0]),some (.arr 167 4 a.1 (d.st.map Sy.av)),some (.arr 67 3 a.2 (d.wt.map Wt.av)),some (.bag 62 1 false none (f3_ s.q)),some (.box [.osl 6,.osl 8,I s.time,.sl 4 (r.ranks.map Rk.av),I r.back,I r.ret,.sl 3 (mv.map Sg.av)]),some (.arr 148 3 b (s.tk.map Tk.av))] (.tup [.ref 2 0,I 0]) rfl (by go_simp) ?_ ?_
 ·unfold i9_;go_simp;refine ⟨_,_,⟨_,g⟩,?_⟩;go_simp;kernel_rfl
 go_simp;refine c0_ [] 5 ⟨rfl,rfl⟩ ?_;simp only [List.take,List.drop];repeat' first|with_reducible apply a1_|((with_reducible refine a0_ fun X Y=>?_);go_simp;refine Y _ ?_;clear Y X)
 apply d6_;repeat' with_reducible first|apply a8_|apply a3_
 refine a2_ [] ?_;repeat' first|(with_reducible first|apply a8_|apply a3_|apply b1_|apply a1_)|((with_reducible refine a6_ ?_ ?_);(focus (go_simp;done)))|((with_reducible refine a0_ fun X Y=>?_);go_simp;refine Y _ ?_;clear Y X)
 refine i1_ 2 2 5 rfl rfl rfl ?_;refine a2_ [] ?_;repeat' first|(with_reducible first|apply a3_|apply c4_|apply a1_)|((with_reducible refine a0_ fun X Y=>?_);go_simp;refine Y _ ?_;clear Y X)
 go_simp
end Go.Proofs.YtoibondihdhnoaaGreatDoor
