/- Texts in one: Walks: a state is copied. -/
import Derived.Test.YtoibondihdhnoaaDoorFRX50
import Derived.Test.YtoibondihdhnoaaDoorFRX52
import Derived.Test.YtoibondihdhnoaaDoorFRX23
import Derived.Test.YtoibondihdhnoaaDoorFRX28
namespace Go.Proofs.YtoibondihdhnoaaDoor
open Go.RowKit
set_option maxRecDepth 100000
set_option maxHeartbeats 4000000
def cpT (es:List (List AV)) (tm:Int) (M:Nat→Nat→Prop) (w:World) (i:Nat) (v:Value) (w':World) : Prop:=
 if i=2 then ∃ b,v = .slice (some b) 0 0
 else if i=5 then OwnRow w w' M 85 3 (decide (es=[])) es v
 else if i=6 then ∃ v5,v = .agg #[.slice none 0 0,v5,.int .i64 tm]∧OwnRow w w' M 85 3 (decide (es=[])) es v5
 else ∃ b,v = .pointer (some ⟨b,0,none⟩)∧w.heap.size≤b∧w'.heap[b]? = some (.cells #[.slice none 0 0,.slice none 0 0,.int .i64 0] 45 (0,0))
theorem b1f (es:List (List AV)) (tm:Int) (M:Nat→Nat→Prop) (w:World) (i:Nat) (v:Value) (w1 w2:World) (h:cpT es tm M w i v w1) (hb:Below w1.heap.size w1 w2) : cpT es tm M w i v w2:=by
 unfold cpT at h ⊢;split
 ·rename_i h2;rwa [if_pos h2] at h
 rename_i h2;rw [if_neg h2] at h;split
 ·rename_i h5;rw [if_pos h5] at h;exact h.later hb
 rename_i h5;rw [if_neg h5] at h;split
 ·rename_i h6;rw [if_pos h6] at h;obtain ⟨v5,e,h⟩:=h;exact ⟨v5,e,h.later hb⟩
 ·rename_i h6;rw [if_neg h6] at h;obtain ⟨b,e,h1,h3⟩:=h;exact ⟨b,e,h1,(hb.block b (Array.getElem?_eq_some_iff.1 h3).1).trans h3⟩
theorem OwnRow.lits {w w':World} {M M':Nat→Nat→Prop} {e sz:Nat} {nl:Bool} {α:Type} {F:α→List AV} {l:List α} {v:Value} (h:OwnRow w w' M e sz nl (l.map F) v) (hF:∀ x,(F x).length=sz∧∀ c∈F x,∃ u,c = .lit u∧u.oneCell'=true)
  (hM:∀ g cur j,w.heap.size≤g→w'.heap[g]? = some (.cells cur e (0,0))→¬M' g j) : V0 w' M' (.sl sz (l.map F)) v:=by
 unfold OwnRow at h;split at h
 ·obtain ⟨⟨A,rfl⟩,he⟩:=h;rw [he];exact .slNil _ _ _
 ·obtain ⟨g,cap,cur,rfl,h2,h3,h4,h5,h6,h7⟩:=h;by_cases hne:l.map F=[]
  ·rw [hne];exact .slNil _ _ _
  ·refine .sl sz _ cap g 0 (fun k j=>cur.getD (k*sz+j) undef) hne (Array.getElem?_eq_some_iff.1 h3).1 (fun k j _ _=>hM g cur _ h2 h3) h5 (fun k x hk=>?_) (fun k x j c hk hj=>?_) (fun k j hk hj=>?_) fun k x j c hk hj=>?_
   ·obtain ⟨y,hy,rfl⟩:=g2_ hk;exact (hF y).1
   ·obtain ⟨y,hy,rfl⟩:=g2_ hk;obtain ⟨u,rfl,hu⟩:=(hF y).2 c (List.mem_of_getElem? hj);exact hu
   ·rw [cell_of_row w' g _ cur e (0,0) h3,Nat.zero_add];have:(k+1)*sz≤cap*sz:=Nat.mul_le_mul_right _ (by omega);rw [Nat.add_mul] at this;have:k*sz+j < cur.size:=by omega
    simp [this]
   ·obtain ⟨u,hu,hv⟩:=h7 k x j c hk hj;obtain ⟨y,hy,rfl⟩:=g2_ hk;obtain ⟨u',rfl,_⟩:=(hF y).2 c (List.mem_of_getElem? hj);have:cur.getD (k*sz+j) undef=u:=by simp [hu]
    rw [this,hv.lit_inv];exact .lit _
theorem c1h (x:Tk) : (Tk.av x).length=3∧∀ c∈Tk.av x,∃ u,c = .lit u∧u.oneCell'=true:=by
 refine ⟨rfl,fun c hc=>?_⟩;simp only [Tk.av,List.mem_cons,List.not_mem_nil,or_false] at hc;rcases hc with rfl|rfl|rfl<;>exact ⟨_,rfl,rfl⟩
theorem d3l:(n0 31).has 3:=⟨by decide,by decide⟩
def a4c (s:St) (k:Nat) : List (List AV):=(d3_ (s.q.take k)).map fun l=>[AV.sl 1 l]
theorem b7b {s:St} {k:Nat} (h:k < s.q.length) : a4c s (k+1)=a4c s k++[[.sl 1 ((qat s.q k).map l1_)]]:=by
 unfold a4c d3_;rw [l0_ h,List.map_append,List.map_append,f3_ h];rfl
theorem c1i {s:St} {k:Nat} (h:k≤s.q.length) : (a4c s k).length=k:=by
 unfold a4c d3_;rw [List.length_map,List.length_map,List.length_take];omega
@[go_sem] theorem d3m (s:St) : a4c s 0=[]:=rfl
theorem c1j (s:St) : a4c s s.q.length=(d3_ s.q).map fun l=>[AV.sl 1 l]:=by
 unfold a4c;rw [List.take_length]
theorem d1l (s:St) (h:SmallS s) : VC Tryd.prog 14 [c9_ s] (c9_ s):=by
 refine c0_ Tryd.func14 rfl (by kernel_rfl) (by kernel_rfl) rfl fun M0 w0=>?_;simp only [Tryd.ntmps14,Tryd.results14,b5_];repeat' with_reducible apply a9_
 refine a2_ [] ?_;repeat' first|(with_reducible first|apply a9_|apply a3_|apply a1_)|((with_reducible refine a0_ fun X Y=>?_);go_simp;refine Y _ ?_;clear Y X)
 refine c6f 8 [] (fun i=>i == 2 || i == 5 || i == 6 || i == 7) ⟨[(11,.agg [f0_,.sl 3 (s.tk.map Tk.av),I s.time]),(3,.ref 1 0),(2,.ref 0 0),(1,.vp [g8_ s.q,.sl 3 (s.tk.map Tk.av),I s.time]),(0,c9_ s)],[some (.box [f0_,f0_,I 0]),some (.box [f0_,f0_,I 0])]⟩ (fun p a w i v w'=>cpT (s.tk.map Tk.av) s.time (Mof M0 [some (.box [f0_,f0_,I 0])] p) w i v w') (by kernel_rfl) (by kernel_rfl) (fun p a w i v w1 w2 hv hb=>b1f _ _ _ _ _ _ _ _ hv hb) ?_;simp only [List.take,List.drop];repeat (first|(refine d0_ rfl ?_)|((with_reducible refine d1_ rfl fun X Y=>?_);go_simp;refine Y _ (by go_simp) ?_;clear Y X)|(with_reducible apply e8_))
 refine ⟨?_,?_,?_⟩
 ·intro p a w R i o hi hc ho;have hi4:i=2∨i=5∨i=6∨i=7:=by simpa [or_assoc] using hc
  rcases hi4 with rfl|rfl|rfl|rfl
  all_goals
   simp only [List.getElem?_cons_zero,List.getElem?_cons_succ,Option.some.injEq] at ho;subst ho;refine ⟨rfl,fun a' w' hb hlk hold hdep=>?_⟩
  ·obtain ⟨us,hrun,_⟩:=a9x (P:=Tryd.prog) (w:=w') (M:=fun _ _=>False) (h:=[]) (p:=p) (t:=43) (n:=0) (parts:=[]) (vals:=#[]) (cs:=[]) (ti:=⟨1,1,24,85,3,0,.i64,[],[.slice none 0 0]⟩) rfl (fun i a v h=>by simp at h) (by kernel_rfl);unfold gives;simp only [execOp,Sem.run_bind,List.map_toArray,List.map_nil,hrun,Result.andThen_ok,Sem.run_pure];exact ⟨⟨_,rfl⟩,g9_ _ _⟩
  ·have h7:=hdep 2 _ 7 (by decide) rfl rfl rfl (by kernel_rfl);unfold cpT at h7;rw [if_pos rfl] at h7;obtain ⟨b7,e7⟩:=h7;have hy:V1 w' (Mof M0 [some (.box [f0_,f0_,I 0])] p) [some (.box [f0_,f0_,I 0])] p (.sl 3 (s.tk.map Tk.av)) (a'.eval (.tmp 9)):=hlk 9 (by simp [Oper.looksAt,Op.operands,Call.operands]);have ex:a'.eval (.tmp 7) = .slice (some b7) 0 0:=e7;obtain ⟨d,i0,z,hd,hi,hz,h1z,hti⟩:=c1_ d2m;injection hti with q1 q2 q3 q4 q5 q6 q7 q8 q9
   have hzs:z.cells.size=3:=by
    rw [←Array.length_toList,←q9];rfl
   obtain ⟨v',w2,hr,hbl,ho⟩:=b1e (P:=Tryd.prog) (ty:=43) (a0:=b7) Tryd.underlying43 hi hz q2.symm hzs (by rw [←q3];decide) (by decide) hy.sl_inv (by have:=h.nt;rw [List.length_map];omega);rw [←ex] at hr;unfold gives;simp only [execOp,resolve,invoke,builtin,Sem.run_bind,Sem.run_pure,Result.andThen_ok,List.map_toArray,List.map_cons,List.map_nil,hr];refine ⟨?_,hbl⟩;unfold cpT;rw [if_neg (by decide),if_pos rfl];exact ho.base hb.size
  ·have h5:=hdep 5 _ 10 (by decide) rfl rfl rfl (by kernel_rfl);unfold cpT at h5;rw [if_neg (by decide),if_pos rfl] at h5;have hy:V1 w' (Mof M0 [some (.box [f0_,f0_,I 0])] p) [some (.box [f0_,f0_,I 0])] p (I s.time) (a'.eval (.tmp 6)):=hlk 6 (by simp [Oper.looksAt,Op.operands]);have e6:a'.eval (.tmp 6) = .int .i64 s.time:=hy.lit_inv;obtain ⟨A,m,c,e10⟩ : ∃ A m c,a'.eval (.tmp 10) = .slice A m c:=by
    unfold OwnRow at h5;split at h5
    ·obtain ⟨⟨A,h5⟩,_⟩:=h5;exact ⟨A,0,0,h5⟩
    ·obtain ⟨g,cap,cur,h5,_⟩:=h5;exact ⟨_,_,_,h5⟩
   have h5':OwnRow w w' (Mof M0 [some (.box [f0_,f0_,I 0])] p) 85 3 (decide (s.tk.map Tk.av=[])) (s.tk.map Tk.av) (.slice A m c):=by
    rw [←e10];exact h5
   obtain ⟨u,hrun,hu⟩:=a8a (P:=Tryd.prog) (w:=w') (M:=fun _ _=>False) (h:=[]) (p:=p) (t:=45) (parts:=[(2,I s.time),(1,.lit (.slice A m c))]) (vals:=#[(2,.int .i64 s.time),(1,.slice A m c)]) (r:=.agg [f0_,.lit (.slice A m c),I s.time]) rfl (fun i a v h1 h2=>by
    rcases i with _|_|i
    ·simp at h1 h2;subst h1;subst h2;exact .base _ _ (.lit _)
    ·simp at h1 h2;subst h1;subst h2;exact .base _ _ (.lit _)
    ·simp at h1) (by go_simp)
   have hue:u = .agg #[.slice none 0 0,.slice A m c,.int .i64 s.time]:=by
    have h0:=hu;cases h0 with
    | base _ _ h0=>
     cases h0 with
     | agg _ us hl h1 h2=>
      rcases us with _|⟨u0,_|⟨u1,_|⟨u2,_|⟨_,_⟩⟩⟩⟩
      ·simp at hl
      ·simp at hl
      ·simp at hl
      ·have k0:=(h2 0 _ u0 rfl rfl).lit_inv;have k1:=(h2 1 _ u1 rfl rfl).lit_inv;have k2:=(h2 2 _ u2 rfl rfl).lit_inv;subst k0;subst k1;subst k2;rfl
      ·simp at hl
    | agg _ us hl h1 h2=>
     rcases us with _|⟨u0,_|⟨u1,_|⟨u2,_|⟨_,_⟩⟩⟩⟩
     ·simp at hl
     ·simp at hl
     ·simp at hl
     ·have k0:=(h2 0 _ u0 rfl rfl).lit_inv;have k1:=(h2 1 _ u1 rfl rfl).lit_inv;have k2:=(h2 2 _ u2 rfl rfl).lit_inv;subst k0;subst k1;subst k2;rfl
     ·simp at hl
   unfold gives;simp only [execOp,Sem.run_bind,List.map_toArray,List.map_cons,List.map_nil,e6,e10,hrun,Result.andThen_ok,Sem.run_pure];refine ⟨?_,Below.refl _ _⟩;unfold cpT;rw [if_neg (by decide),if_neg (by decide),if_pos rfl,hue];exact ⟨_,rfl,h5'⟩
  ·obtain ⟨z,hz,hz1,hzr⟩:=u1_ d4p;have hzc:z.cells=#[.slice none 0 0,.slice none 0 0,.int .i64 0]:=by
    apply Array.toList_inj.1;exact hz
   unfold gives;simp only [execOp,Instr.alloc,Sem.run_bind,hzr,Result.andThen_ok];simp only [newVar,newRow];refine ⟨?_,g9_ w' _⟩;unfold cpT;rw [if_neg (by decide),if_neg (by decide),if_neg (by decide)];exact ⟨_,rfl,hb.size,by simp [hzc,-World.alloc_eq]⟩
 ·intro p a w a' w' R hb R' hold hT;have h6:=hT 6 _ 11 (by decide) rfl rfl rfl;have h7:=hT 7 _ 3 (by decide) rfl rfl rfl;unfold cpT at h6 h7;rw [if_neg (by decide),if_neg (by decide),if_pos rfl] at h6;rw [if_neg (by decide),if_neg (by decide),if_neg (by decide)] at h7;obtain ⟨v5,e6,ho⟩:=h6;obtain ⟨b,e7,hbz,hbc⟩:=h7;have hpn:=(k0_ p 1 b).1;have R1:=R.grow (ob:=.box [f0_,f0_,I 0]) (b:=b) (d:=3) (av:=.ref 1 0) (v:=.pointer (some ⟨b,0,none⟩)) hb d3l (fun _=>hbz) (fun _ _ _ _ _ h=>by cases h)
   ⟨a1k (Nat.le_trans R.below.size hbz),_,45,by simp only [List.length_cons,List.length_nil,Nat.zero_add];rw [hpn];exact hbc,rfl,fun c hc=>by
    simp only [List.mem_cons,List.not_mem_nil,or_false] at hc;rcases hc with rfl|rfl|rfl<;>rfl,fun j c hj=>by
    rcases j with _|_|_|j
    ·simp only [List.getElem?_cons_zero,Option.some.injEq] at hj;subst hj;exact ⟨_,rfl,.base _ _ (.lit _)⟩
    ·simp only [List.getElem?_cons_zero,List.getElem?_cons_succ,Option.some.injEq] at hj;subst hj;exact ⟨_,rfl,.base _ _ (.lit _)⟩
    ·simp only [List.getElem?_cons_zero,List.getElem?_cons_succ,Option.some.injEq] at hj;subst hj;exact ⟨_,rfl,.base _ _ (.lit _)⟩
    ·simp at hj⟩
   (by
    have:=V1.ref (w:=w') (M:=Mof M0 [some (.box [f0_,f0_,I 0]),some (.box [f0_,f0_,I 0])] (p1_ p 1 b)) (h:=[some (.box [f0_,f0_,I 0]),some (.box [f0_,f0_,I 0])]) (p:=p1_ p 1 b) 1 0 (by simp);rwa [hpn] at this)
  have R2:=R1.reframe (a':=a') R'.defers R'.size fun i hi=>by
   by_cases h3:i=3
   ·subst h3;rw [k9_ a 3 _ 3 (R.size.lt d3l),if_pos rfl];exact e7
   ·rw [k9_ a 3 _ i (R.size.lt d3l),if_neg (Ne.symm h3)];have hi2:i=2∨i=1∨i=0:=by
     apply Classical.byContradiction;intro hn;apply hi;simp only [lkp];rw [if_neg (Ne.symm h3),if_neg (by omega),if_neg (by omega),if_neg (by omega)]
    refine hold i fun j q hj hq he=>?_;have hj8:j=0∨j=1∨j=2∨j=3∨j=4∨j=5∨j=6∨j=7:=by omega
    rcases hj8 with rfl|rfl|rfl|rfl|rfl|rfl|rfl|rfl
    all_goals
     simp only [List.getElem?_cons_zero,List.getElem?_cons_succ,Option.some.injEq] at hq;subst hq;simp only [Option.some.injEq] at he;omega
  refine ⟨_,R2.know (d:=11) (r:=.agg [f0_,.sl 3 (s.tk.map Tk.av),I s.time]) ?_⟩;rw [e6];refine .base _ _ (.agg _ [.slice none 0 0,v5,.int .i64 s.time] rfl (fun c hc=>?_) fun j c u hc hu=>?_)
  ·simp only [List.mem_cons,List.not_mem_nil,or_false] at hc;rcases hc with rfl|rfl|rfl<;>rfl
  ·rcases j with _|_|_|j
   ·simp only [List.getElem?_cons_zero,Option.some.injEq] at hc hu;subst hc;subst hu;exact .lit _
   ·simp only [List.getElem?_cons_zero,List.getElem?_cons_succ,Option.some.injEq] at hc hu;subst hc;subst hu;refine ho.lits c1h fun g cur j hg hgc hm=>?_;rcases hm with hm|⟨id,ob,hid,hl,hO⟩
    ·exact R.h0 _ _ hm (.inl (Nat.le_trans R.below.size hg))
    ·rcases id with _|_|id
     ·simp only [List.cons_append,List.nil_append,List.getElem?_cons_zero,Option.some.injEq] at hid;subst hid;have:=((R.objs 0 _ rfl).own hl g j ((o4_ (show (0:Nat)≠1 by decide)).1 hO)).2;omega
     ·have:=p3_ hO;subst this;rw [hbc] at hgc;injection hgc with hgc
      injection hgc with q1 q2 q3
      exact absurd q2 (by decide)
     ·simp at hid
   ·simp only [List.getElem?_cons_zero,List.getElem?_cons_succ,Option.some.injEq] at hc hu;subst hc;subst hu;exact .lit _
   ·simp at hc
 ·have hq:=h.q1;have hnq:=h.nq;have HQ:=Lib.hid hq;clear hq h;repeat' first|(with_reducible first|apply a9_|apply a3_|apply a1_)|((with_reducible refine a0_ fun X Y=>?_);go_simp;refine Y _ ?_;clear Y X)
  refine a2_ [] ?_;repeat' first|(with_reducible first|apply a3_|apply a8_|apply a1_)|((with_reducible refine a0_ fun X Y=>?_);go_simp;refine Y _ ?_;clear Y X)
  refine u0_ (fun p a w R=>⟨_,R.nilCell (bi:=1) (j:=0) (e:=81) (sz:=1) rfl rfl (by decide)⟩) ?_;go_simp;apply b3d [1,2,3] (fun k=>[(4,I k)]) (fun k=>([some (.box [f0_,f0_,I 0]),some (.box [.osl 2,.sl 3 (s.tk.map Tk.av),I s.time]),some (.arr 81 1 (decide (a4c s k=[])) (a4c s k))] : Hp))  (s.q.length)
  ·go_simp<;>exact rfl
  ·go_simp
  ·intro k hk K hK;obtain ⟨w1,w2,w3,w4,w5,w6⟩:=ixs (m:=k) (by omega);have g:=a1m (qat s.q k) (by rw [f3_ hk];have:=(HQ.out _ (List.getElem_mem hk)).1;omega);have hs:=b7b hk;have hl:=c1i (s:=s) (k:=k) (by omega);have hb:(a4c s k).length+1≤1000000000:=by omega
   rw [hs] at hK;clear hs hl;generalize a4c s k=RV at *;repeat' with_reducible apply a9_
   refine a2_ [] ?_;repeat' first|(with_reducible first|apply a9_|apply a3_|apply b0_|apply a8_|apply a1_)|((with_reducible refine a7_ ?_ ?_);(focus (go_simp;done)))|((with_reducible refine a0_ fun X Y=>?_);go_simp;refine Y _ ?_;clear Y X)
   refine a9b 9 [] 2 [] (by kernel_rfl) (by kernel_rfl) (by kernel_rfl) (by kernel_rfl) rfl ⟨rfl,rfl⟩ rfl ?_;simp only [List.take,List.drop];repeat' first|with_reducible apply a5_|((with_reducible refine a4_ fun X Y=>?_);go_simp;(first|(with_reducible refine ⟨_,g,?_⟩)|skip);refine Y _ ?_;clear Y X)
   refine ⟨_,by go_simp,by go_simp;exact rfl,?_,?_⟩
   ·intro t ht;simp at ht
   go_simp;repeat' first|(with_reducible first|apply a3_|apply b1_|apply a1_)|((with_reducible refine a0_ fun X Y=>?_);go_simp;refine Y _ ?_;clear Y X)
   refine a2_ [] ?_;repeat' first|(with_reducible first|apply a3_|apply a1_)|((with_reducible refine a0_ fun X Y=>?_);go_simp;refine Y _ ?_;clear Y X)
   refine hK _ ?_;go_simp
  ·intro K;rw [c1j];repeat' with_reducible apply a9_
   refine a2_ [] ?_;repeat' first|(with_reducible first|apply a9_|apply a3_|apply b8_|apply d4_|apply b7_|apply a1_)|((with_reducible refine a6_ ?_ ?_);(focus (go_simp;done)))|((with_reducible refine a0_ fun X Y=>?_);go_simp;refine Y _ ?_;clear Y X)
   refine d7_ 1 0 2 rfl rfl rfl ?_;repeat' first|(with_reducible first|apply a3_|apply c5_|apply a1_|refine a2_ [] ?_)|((with_reducible refine a0_ fun X Y=>?_);go_simp;refine Y _ ?_;clear Y X)
   go_simp
def woN (l:List ByteArray) (s:ByteArray) (k:Nat) : List ByteArray:=woT (l.take k) s
theorem c4u {l:List ByteArray} {s:ByteArray} {k:Nat} (h:k < l.length) : woN l s (k+1)=if l[k]=s then woN l s k else woN l s k++[l[k]]:=by
 unfold woN woT;rw [l0_ h,List.filter_append];by_cases e:l[k]=s
 ·simp [e]
 ·simp [e]
theorem c8x (l:List ByteArray) (s:ByteArray) (k:Nat) : (woN l s k).length≤k:=by
 unfold woN woT;exact Nat.le_trans (List.length_filter_le _ _) (by simp;omega)
theorem c8y (l:List ByteArray) (s:ByteArray) : woN l s l.length=woT l s:=by
 unfold woN;rw [List.take_length]
def wkN (l:List Tk) (s:ByteArray) (k:Nat) : List Tk:=woK (l.take k) s
theorem c4v {l:List Tk} {s:ByteArray} {k:Nat} (h:k < l.length) : wkN l s (k+1)=if (d8_ l k).car=s then wkN l s k else wkN l s k++[d8_ l k]:=by
 rw [f5_ h];unfold wkN woK;rw [l0_ h,List.filter_append];by_cases e:l[k].car=s
 ·simp [e]
 ·simp [e]
theorem c8z (l:List Tk) (s:ByteArray) (k:Nat) : (wkN l s k).length≤k:=by
 unfold wkN woK;exact Nat.le_trans (List.length_filter_le _ _) (by simp;omega)
theorem c9a (l:List Tk) (s:ByteArray) : wkN l s l.length=woK l s:=by
 unfold wkN;rw [List.take_length]
theorem c4w (l:List ByteArray) : ∀ (k:Nat) (x:List AV),(l.map l1_)[k]? = some x→x.length=1∧∀ c∈x,g6_ c=true:=fun k x hx=>by
 obtain ⟨y,hy,rfl⟩:=g2_ hx;exact ⟨rfl,by simp [l1_,g6_,Value.oneCell']⟩
theorem c9b (l:List Tk) : ∀ (k:Nat) (x:List AV),(l.map Tk.av)[k]? = some x→x.length=3∧∀ c∈x,g6_ c=true:=fun k x hx=>by
 obtain ⟨y,hy,rfl⟩:=g2_ hx;exact ⟨rfl,by simp [Tk.av,g6_,Value.oneCell']⟩
theorem c1k (l:List ByteArray) (s:ByteArray) (hl:l.length≤1000000) : VCo Tryd.prog 66 [a3n l,S s] 9 1 (decide (woT l s=[])) ((woT l s).map l1_):=by
 rw [←c8y];have e0:woN l s 0=[]:=rfl;refine b0t Tryd.func66 rfl (by kernel_rfl) (by kernel_rfl) rfl Tryd.results66 (by decide) (c4w _) fun M0 w0=>?_;simp only [Tryd.ntmps66,b5_];repeat' first|(with_reducible first|apply a9_|apply a3_|apply a8_|apply a1_|refine a2_ [5] ?_)|((with_reducible refine a0_ fun X Y=>?_);go_simp;refine Y _ ?_;clear Y X)
 apply b3d [0,1] (fun k=>[(6,I k),(5,.osl 0)]) (fun k=>([some (.arr 9 1 (decide (woN l s k=[])) ((woN l s k).map l1_))] : Hp))  (l.length)
 ·go_simp<;>exact rfl
 ·go_simp
 ·intro k hk K hK;obtain ⟨w1,w2,w3,w4,w5,w6⟩:=ixs (m:=k) (by omega);have hs:=c4u (s:=s) hk;have hb:(woN l s k).length+1≤1000000000:=by have:=c8x l s k;omega
  clear e0;by_cases e:l[k]=s
  ·rw [if_pos e] at hs;have HS:=Lib.hid hs;clear hs;repeat' first|(with_reducible first|apply a9_|apply a3_|apply b0_|apply a8_|apply b1_|apply a1_|refine a2_ [] ?_)|((with_reducible refine a7_ ?_ ?_);(focus (go_simp;done)))|((with_reducible refine a6_ ?_ ?_);(focus (go_simp;done)))|((with_reducible refine a0_ fun X Y=>?_);go_simp;refine Y _ ?_;clear Y X)
   refine hK _ ?_;rw [HS.out];go_simp
  ·rw [if_neg e] at hs;have HS:=Lib.hid hs;clear hs;repeat' first|(with_reducible first|apply a9_|apply a3_|apply b0_|apply a8_|apply b1_|apply a1_|refine a2_ [] ?_)|((with_reducible refine a7_ ?_ ?_);(focus (go_simp;done)))|((with_reducible refine a0_ fun X Y=>?_);go_simp;refine Y _ ?_;clear Y X)
   refine hK _ ?_;rw [HS.out];go_simp
 ·intro K;clear e0;repeat' first|(with_reducible first|apply a9_|apply a3_|apply b8_|apply c5_|apply d4_|apply b7_|apply a1_|refine a2_ [] ?_)|((with_reducible refine a6_ ?_ ?_);(focus (go_simp;done)))|((with_reducible refine a0_ fun X Y=>?_);go_simp;refine Y _ ?_;clear Y X)
  exact ⟨0,rfl,rfl⟩
theorem c1l (l:List Tk) (s:ByteArray) (hl:l.length≤1000000) : VCo Tryd.prog 65 [.sl 3 (l.map Tk.av),S s] 85 3 (decide (woK l s=[])) ((woK l s).map Tk.av):=by
 rw [←c9a];have e0:wkN l s 0=[]:=rfl;refine b0t Tryd.func65 rfl (by kernel_rfl) (by kernel_rfl) rfl Tryd.results65 (by decide) (c9b _) fun M0 w0=>?_;simp only [Tryd.ntmps65,b5_];repeat' first|(with_reducible first|apply a9_|apply a3_|apply a8_|apply a1_|refine a2_ [5] ?_)|((with_reducible refine a0_ fun X Y=>?_);go_simp;refine Y _ ?_;clear Y X)
 apply b3d [0,1] (fun k=>[(6,I k),(5,.osl 0)]) (fun k=>([some (.arr 85 3 (decide (wkN l s k=[])) ((wkN l s k).map Tk.av))] : Hp))  (l.length)
 ·go_simp<;>exact rfl
 ·go_simp
 ·intro k hk K hK;obtain ⟨w1,w2,w3,w4,w5,w6⟩:=ixs (m:=k) (by omega);have hs:=c4v (s:=s) hk;have hb:(wkN l s k).length+1≤1000000000:=by have:=c8z l s k;omega
  clear e0;by_cases e:(d8_ l k).car=s
  ·rw [if_pos e] at hs;have HS:=Lib.hid hs;clear hs;repeat' first|(with_reducible first|apply a9_|apply a3_|apply b0_|apply a8_|apply b1_|apply a1_|refine a2_ [] ?_)|((with_reducible refine a7_ ?_ ?_);(focus (go_simp;done)))|((with_reducible refine a6_ ?_ ?_);(focus (go_simp;done)))|((with_reducible refine a0_ fun X Y=>?_);go_simp;refine Y _ ?_;clear Y X)
   refine hK _ ?_;rw [HS.out];go_simp
  ·rw [if_neg e] at hs;have HS:=Lib.hid hs;clear hs;repeat' first|(with_reducible first|apply a9_|apply a3_|apply b0_|apply a8_|apply b1_|apply a1_|refine a2_ [] ?_)|((with_reducible refine a7_ ?_ ?_);(focus (go_simp;done)))|((with_reducible refine a0_ fun X Y=>?_);go_simp;refine Y _ ?_;clear Y X)
   refine hK _ ?_;rw [HS.out];go_simp
 ·intro K;clear e0;repeat' first|(with_reducible first|apply a9_|apply a3_|apply b8_|apply c5_|apply d4_|apply b7_|apply a1_|refine a2_ [] ?_)|((with_reducible refine a6_ ?_ ?_);(focus (go_simp;done)))|((with_reducible refine a0_ fun X Y=>?_);go_simp;refine Y _ ?_;clear Y X)
  exact ⟨0,rfl,rfl⟩
theorem a5v (l:List ByteArray) (s:ByteArray) (hl:l.length≤1000000) : VC Tryd.prog 66 [a3n l,S s] (a3n (woT l s)):=a2o (c1k l s hl)
theorem b1g (l:List Tk) (s:ByteArray) (hl:l.length≤1000000) : VC Tryd.prog 65 [.sl 3 (l.map Tk.av),S s] (.sl 3 ((woK l s).map Tk.av)):=a2o (c1l l s hl)
theorem d1m (r:Ru) (s:St) (tm:Int) (k:Nat) (car:ByteArray) (hk:k < s.q.length) (hr:r.ranks.length=s.q.length) (hf:q7_ r s.q.length) (hql:s.q.length≤1000000) (hqs:∀ k,k < s.q.length→(qat s.q k).length≤1000000) (_htl:s.tk.length≤1000000) : VC Tryd.prog 45 [c4_ r,c9_ s,.agg [I 0,I tm,I (k:Int),S car]] (I (fst [unl (decide (s.time≤tm)) 9,doE r s ⟨0,tm,(k:Int),car⟩ k])):=by
 have hk2:k < r.ranks.length:=by omega
 have hfk:=hf k hk;clear hf;by_cases ht:s.time≤tm
 ·have ht2:¬tm < s.time:=by omega
  have g:=d1i s car hql hqs;by_cases hsp:0≤k7_ s.q car
  ·rw [show fst [unl (decide (s.time≤tm)) 9,doE r s ⟨0,tm,(k:Int),car⟩ k]=5 by simp [doE,i5_,fst,unl,hsp,ht]];generalize k7_ s.q car=SK at *;generalize a6g s.q car=FP at *;refine c0_ Tryd.func45 rfl (by kernel_rfl) (by kernel_rfl) rfl fun M0 w0=>?_;simp only [Tryd.ntmps45,Tryd.results45,b5_];repeat' first|(with_reducible first|apply a9_|apply a3_|apply b0_|apply a1_|refine a2_ [] ?_)|((with_reducible refine a6_ ?_ ?_);(focus (go_simp;done)))|((with_reducible refine a0_ fun X Y=>?_);go_simp;refine Y _ ?_;clear Y X)
   refine i1_ 14 [] [⟨12,8,[.string ⟨#[]⟩,.int .i64 0,.int .i64 0,.bool false],none,[]⟩] (by kernel_rfl) (by kernel_rfl) (by kernel_rfl) (by go_simp) (by go_simp) ?_;simp only [List.take,List.drop];repeat (first|(refine d0_ rfl ?_)|((with_reducible refine d1_ rfl fun X Y=>?_);go_simp;refine Y _ (by go_simp) ?_;clear Y X)|(with_reducible apply e8_))
   refine ⟨by go_simp,?_⟩;simp only [j6_,k5_,Slot.end_,List.cons_append,List.nil_append];repeat' first|(with_reducible first|apply a9_|apply a3_|apply b4_|apply c5_|apply a8_|apply c2_|apply a1_|refine a2_ [] ?_)|((with_reducible refine a7_ ?_ ?_);(focus (go_simp;done)))|((with_reducible refine a0_ fun X Y=>?_);go_simp;(first|(with_reducible refine ⟨_,g,?_⟩)|skip);refine Y _ ?_;clear Y X)
   go_simp
  by_cases h1:(rat r.ranks k).feeder = -1
  ·clear hfk;by_cases hfull:((qat s.q k).length:Int) < (rat r.ranks k).places
   ·have hfu:¬(rat r.ranks k).places≤(qat s.q k).length:=by omega
    rw [show fst [unl (decide (s.time≤tm)) 9,doE r s ⟨0,tm,(k:Int),car⟩ k]=0 by simp [doE,i5_,m2_,f4_,feedN,fst,unl,hsp,h1,hfull,ht]];generalize k7_ s.q car=SK at *;generalize a6g s.q car=FP at *;refine c0_ Tryd.func45 rfl (by kernel_rfl) (by kernel_rfl) rfl fun M0 w0=>?_;simp only [Tryd.ntmps45,Tryd.results45,b5_];repeat' first|(with_reducible first|apply a9_|apply a3_|apply b0_|apply a1_|refine a2_ [] ?_)|((with_reducible refine a6_ ?_ ?_);(focus (go_simp;done)))|((with_reducible refine a0_ fun X Y=>?_);go_simp;refine Y _ ?_;clear Y X)
    refine i1_ 14 [] [⟨12,8,[.string ⟨#[]⟩,.int .i64 0,.int .i64 0,.bool false],none,[]⟩] (by kernel_rfl) (by kernel_rfl) (by kernel_rfl) (by go_simp) (by go_simp) ?_;simp only [List.take,List.drop];repeat (first|(refine d0_ rfl ?_)|((with_reducible refine d1_ rfl fun X Y=>?_);go_simp;refine Y _ (by go_simp) ?_;clear Y X)|(with_reducible apply e8_))
    refine ⟨by go_simp,?_⟩;simp only [j6_,k5_,Slot.end_,List.cons_append,List.nil_append];repeat' first|(with_reducible first|apply a9_|apply a3_|apply c5_|apply b0_|apply a8_|apply b1_|apply a1_|refine a2_ [] ?_)|((with_reducible refine a7_ ?_ ?_);(focus (go_simp;done)))|((with_reducible refine a6_ ?_ ?_);(focus (go_simp;done)))|((with_reducible refine a0_ fun X Y=>?_);go_simp;(first|(with_reducible refine ⟨_,g,?_⟩)|skip);refine Y _ ?_;clear Y X)
    go_simp
   ·have hfu:(rat r.ranks k).places≤(qat s.q k).length:=by omega
    rw [show fst [unl (decide (s.time≤tm)) 9,doE r s ⟨0,tm,(k:Int),car⟩ k]=16 by simp [doE,i5_,m2_,f4_,feedN,fst,unl,hsp,h1,hfull,ht]];generalize k7_ s.q car=SK at *;generalize a6g s.q car=FP at *;refine c0_ Tryd.func45 rfl (by kernel_rfl) (by kernel_rfl) rfl fun M0 w0=>?_;simp only [Tryd.ntmps45,Tryd.results45,b5_];repeat' first|(with_reducible first|apply a9_|apply a3_|apply b0_|apply a1_|refine a2_ [] ?_)|((with_reducible refine a6_ ?_ ?_);(focus (go_simp;done)))|((with_reducible refine a0_ fun X Y=>?_);go_simp;refine Y _ ?_;clear Y X)
    refine i1_ 14 [] [⟨12,8,[.string ⟨#[]⟩,.int .i64 0,.int .i64 0,.bool false],none,[]⟩] (by kernel_rfl) (by kernel_rfl) (by kernel_rfl) (by go_simp) (by go_simp) ?_;simp only [List.take,List.drop];repeat (first|(refine d0_ rfl ?_)|((with_reducible refine d1_ rfl fun X Y=>?_);go_simp;refine Y _ (by go_simp) ?_;clear Y X)|(with_reducible apply e8_))
    refine ⟨by go_simp,?_⟩;simp only [j6_,k5_,Slot.end_,List.cons_append,List.nil_append];repeat' first|(with_reducible first|apply a9_|apply a3_|apply b4_|apply c5_|apply b0_|apply a8_|apply c2_|apply a1_|refine a2_ [] ?_)|((with_reducible refine a7_ ?_ ?_);(focus (go_simp;done)))|((with_reducible refine a6_ ?_ ?_);(focus (go_simp;done)))|((with_reducible refine a0_ fun X Y=>?_);go_simp;(first|(with_reducible refine ⟨_,g,?_⟩)|skip);refine Y _ ?_;clear Y X)
    go_simp
  obtain ⟨f0,fl⟩:=hfk h1;clear hfk;obtain ⟨f,hfe⟩ : ∃ f:Nat,(rat r.ranks k).feeder=f:=⟨(rat r.ranks k).feeder.toNat,by omega⟩
  rw [hfe] at fl h1;simp only [Int.toNat_natCast] at fl;clear f0;by_cases h4:0 < (qat s.q f).length
  ·have h5:¬qat s.q f=[]:=fun h=>by rw [h] at h4;simp at h4
   rw [show fst [unl (decide (s.time≤tm)) 9,doE r s ⟨0,tm,(k:Int),car⟩ k]=13 by simp [doE,i5_,m2_,feedN,fst,unl,hsp,h1,hfe,h4,ht]];generalize k7_ s.q car=SK at *;generalize a6g s.q car=FP at *;refine c0_ Tryd.func45 rfl (by kernel_rfl) (by kernel_rfl) rfl fun M0 w0=>?_;simp only [Tryd.ntmps45,Tryd.results45,b5_];repeat' first|(with_reducible first|apply a9_|apply a3_|apply b0_|apply a1_|refine a2_ [] ?_)|((with_reducible refine a6_ ?_ ?_);(focus (go_simp;done)))|((with_reducible refine a0_ fun X Y=>?_);go_simp;refine Y _ ?_;clear Y X)
   refine i1_ 14 [] [⟨12,8,[.string ⟨#[]⟩,.int .i64 0,.int .i64 0,.bool false],none,[]⟩] (by kernel_rfl) (by kernel_rfl) (by kernel_rfl) (by go_simp) (by go_simp) ?_;simp only [List.take,List.drop];repeat (first|(refine d0_ rfl ?_)|((with_reducible refine d1_ rfl fun X Y=>?_);go_simp;refine Y _ (by go_simp) ?_;clear Y X)|(with_reducible apply e8_))
   refine ⟨by go_simp,?_⟩;simp only [j6_,k5_,Slot.end_,List.cons_append,List.nil_append];repeat' first|(with_reducible first|apply a9_|apply a3_|apply b4_|apply c5_|apply b0_|apply a8_|apply c2_|apply a1_|refine a2_ [] ?_)|((with_reducible refine a7_ ?_ ?_);(focus (go_simp;done)))|((with_reducible refine a6_ ?_ ?_);(focus (go_simp;done)))|((with_reducible refine a0_ fun X Y=>?_);go_simp;(first|(with_reducible refine ⟨_,g,?_⟩)|skip);refine Y _ ?_;clear Y X)
   go_simp
  ·have h5:qat s.q f=[]:=List.eq_nil_of_length_eq_zero (by omega);by_cases hfull:((qat s.q k).length:Int) < (rat r.ranks k).places
   ·have hfu:¬(rat r.ranks k).places≤(qat s.q k).length:=by omega
    rw [show fst [unl (decide (s.time≤tm)) 9,doE r s ⟨0,tm,(k:Int),car⟩ k]=0 by simp [doE,i5_,m2_,f4_,feedN,fst,unl,hsp,h1,hfe,h5,hfull,ht]];generalize k7_ s.q car=SK at *;generalize a6g s.q car=FP at *;refine c0_ Tryd.func45 rfl (by kernel_rfl) (by kernel_rfl) rfl fun M0 w0=>?_;simp only [Tryd.ntmps45,Tryd.results45,b5_];repeat' first|(with_reducible first|apply a9_|apply a3_|apply b0_|apply a1_|refine a2_ [] ?_)|((with_reducible refine a6_ ?_ ?_);(focus (go_simp;done)))|((with_reducible refine a0_ fun X Y=>?_);go_simp;refine Y _ ?_;clear Y X)
    refine i1_ 14 [] [⟨12,8,[.string ⟨#[]⟩,.int .i64 0,.int .i64 0,.bool false],none,[]⟩] (by kernel_rfl) (by kernel_rfl) (by kernel_rfl) (by go_simp) (by go_simp) ?_;simp only [List.take,List.drop];repeat (first|(refine d0_ rfl ?_)|((with_reducible refine d1_ rfl fun X Y=>?_);go_simp;refine Y _ (by go_simp) ?_;clear Y X)|(with_reducible apply e8_))
    refine ⟨by go_simp,?_⟩;simp only [j6_,k5_,Slot.end_,List.cons_append,List.nil_append];repeat' first|(with_reducible first|apply a9_|apply a3_|apply c5_|apply b0_|apply a8_|apply b1_|apply a1_|refine a2_ [] ?_)|((with_reducible refine a7_ ?_ ?_);(focus (go_simp;done)))|((with_reducible refine a6_ ?_ ?_);(focus (go_simp;done)))|((with_reducible refine a0_ fun X Y=>?_);go_simp;(first|(with_reducible refine ⟨_,g,?_⟩)|skip);refine Y _ ?_;clear Y X)
    go_simp
   ·have hfu:(rat r.ranks k).places≤(qat s.q k).length:=by omega
    rw [show fst [unl (decide (s.time≤tm)) 9,doE r s ⟨0,tm,(k:Int),car⟩ k]=16 by simp [doE,i5_,m2_,f4_,feedN,fst,unl,hsp,h1,hfe,h5,hfull,ht]];generalize k7_ s.q car=SK at *;generalize a6g s.q car=FP at *;refine c0_ Tryd.func45 rfl (by kernel_rfl) (by kernel_rfl) rfl fun M0 w0=>?_;simp only [Tryd.ntmps45,Tryd.results45,b5_];repeat' first|(with_reducible first|apply a9_|apply a3_|apply b0_|apply a1_|refine a2_ [] ?_)|((with_reducible refine a6_ ?_ ?_);(focus (go_simp;done)))|((with_reducible refine a0_ fun X Y=>?_);go_simp;refine Y _ ?_;clear Y X)
    refine i1_ 14 [] [⟨12,8,[.string ⟨#[]⟩,.int .i64 0,.int .i64 0,.bool false],none,[]⟩] (by kernel_rfl) (by kernel_rfl) (by kernel_rfl) (by go_simp) (by go_simp) ?_;simp only [List.take,List.drop];repeat (first|(refine d0_ rfl ?_)|((with_reducible refine d1_ rfl fun X Y=>?_);go_simp;refine Y _ (by go_simp) ?_;clear Y X)|(with_reducible apply e8_))
    refine ⟨by go_simp,?_⟩;simp only [j6_,k5_,Slot.end_,List.cons_append,List.nil_append];repeat' first|(with_reducible first|apply a9_|apply a3_|apply b4_|apply c5_|apply b0_|apply a8_|apply c2_|apply a1_|refine a2_ [] ?_)|((with_reducible refine a7_ ?_ ?_);(focus (go_simp;done)))|((with_reducible refine a6_ ?_ ?_);(focus (go_simp;done)))|((with_reducible refine a0_ fun X Y=>?_);go_simp;(first|(with_reducible refine ⟨_,g,?_⟩)|skip);refine Y _ ?_;clear Y X)
    go_simp
 ·have ht2:tm < s.time:=by omega
  rw [show fst [unl (decide (s.time≤tm)) 9,doE r s ⟨0,tm,(k:Int),car⟩ k]=9 by simp [fst,unl,ht]];refine c0_ Tryd.func45 rfl (by kernel_rfl) (by kernel_rfl) rfl fun M0 w0=>?_;simp only [Tryd.ntmps45,Tryd.results45,b5_];repeat' first|(with_reducible first|apply a9_|apply a3_|apply b4_|apply c5_|apply a1_|refine a2_ [] ?_)|((with_reducible refine a7_ ?_ ?_);(focus (go_simp;done)))|((with_reducible refine a0_ fun X Y=>?_);go_simp;refine Y _ ?_;clear Y X)
  go_simp
theorem d1n (r:Ru) (s:St) (tm:Int) (k:Nat) (car:ByteArray) (hk:k < s.q.length) (hr:r.ranks.length=s.q.length) (hf:q7_ r s.q.length) (_hql:s.q.length≤1000000) (_hqs:∀ k,k < s.q.length→(qat s.q k).length≤1000000) (htl:s.tk.length≤1000000) : VC Tryd.prog 45 [c4_ r,c9_ s,.agg [I 1,I tm,I (k:Int),S car]] (I (fst [unl (decide (s.time≤tm)) 9,doE r s ⟨1,tm,(k:Int),car⟩ k])):=by
 have hk2:k < r.ranks.length:=by omega
 have hfk:=hf k hk;clear hf;by_cases ht:s.time≤tm
 ·have ht2:¬tm < s.time:=by omega
  clear hfk;by_cases hq0:(qat s.q k).length=0
  ·have hq1:qat s.q k=[]:=List.eq_nil_of_length_eq_zero hq0;rw [show fst [unl (decide (s.time≤tm)) 9,doE r s ⟨1,tm,(k:Int),car⟩ k]=12 by simp [doE,o0_,q8_,fst,unl,hq1,ht]];refine c0_ Tryd.func45 rfl (by kernel_rfl) (by kernel_rfl) rfl fun M0 w0=>?_;simp only [Tryd.ntmps45,Tryd.results45,b5_];repeat' first|(with_reducible first|apply a9_|apply a3_|apply b0_|apply a1_|refine a2_ [] ?_)|((with_reducible refine a6_ ?_ ?_);(focus (go_simp;done)))|((with_reducible refine a0_ fun X Y=>?_);go_simp;refine Y _ ?_;clear Y X)
   refine i1_ 14 [] [⟨12,8,[.string ⟨#[]⟩,.int .i64 0,.int .i64 0,.bool false],none,[]⟩] (by kernel_rfl) (by kernel_rfl) (by kernel_rfl) (by go_simp) (by go_simp) ?_;simp only [List.take,List.drop];repeat (first|(refine d0_ rfl ?_)|((with_reducible refine d1_ rfl fun X Y=>?_);go_simp;refine Y _ (by go_simp) ?_;clear Y X)|(with_reducible apply e8_))
   refine ⟨by go_simp,?_⟩;simp only [j6_,k5_,Slot.end_,List.cons_append,List.nil_append];repeat' first|(with_reducible first|apply a9_|apply a3_|apply b4_|apply c5_|apply b0_|apply a8_|apply c2_|apply a1_|refine a2_ [] ?_)|((with_reducible refine a7_ ?_ ?_);(focus (go_simp;done)))|((with_reducible refine a6_ ?_ ?_);(focus (go_simp;done)))|((with_reducible refine a0_ fun X Y=>?_);go_simp;refine Y _ ?_;clear Y X)
   go_simp
  have hq1:¬qat s.q k=[]:=fun h=>by rw [h] at hq0;simp at hq0
  have hq2:0 < (qat s.q k).length:=by omega
  have e0:(qat s.q k)[0]=tat (qat s.q k) 0:=(e7_ hq2).symm;by_cases hh:tat (qat s.q k) 0=car
  ·by_cases h40:(s.tk.length:Int) < 40
   ·have h41:¬40≤(s.tk.length:Int):=by omega
    rw [show fst [unl (decide (s.time≤tm)) 9,doE r s ⟨1,tm,(k:Int),car⟩ k]=0 by simp [doE,o0_,q8_,fst,unl,hq0,hh,h40,ht]];refine c0_ Tryd.func45 rfl (by kernel_rfl) (by kernel_rfl) rfl fun M0 w0=>?_;simp only [Tryd.ntmps45,Tryd.results45,b5_];repeat' first|(with_reducible first|apply a9_|apply a3_|apply b0_|apply a1_|refine a2_ [] ?_)|((with_reducible refine a6_ ?_ ?_);(focus (go_simp;done)))|((with_reducible refine a0_ fun X Y=>?_);go_simp;refine Y _ ?_;clear Y X)
    refine i1_ 14 [] [⟨12,8,[.string ⟨#[]⟩,.int .i64 0,.int .i64 0,.bool false],none,[]⟩] (by kernel_rfl) (by kernel_rfl) (by kernel_rfl) (by go_simp) (by go_simp) ?_;simp only [List.take,List.drop];repeat (first|(refine d0_ rfl ?_)|((with_reducible refine d1_ rfl fun X Y=>?_);go_simp;refine Y _ (by go_simp) ?_;clear Y X)|(with_reducible apply e8_))
    refine ⟨by go_simp,?_⟩;simp only [j6_,k5_,Slot.end_,List.cons_append,List.nil_append];repeat' first|(with_reducible first|apply a9_|apply a3_|apply c5_|apply b0_|apply a8_|apply b1_|apply a1_|refine a2_ [] ?_|apply a5_)|((with_reducible refine a7_ ?_ ?_);(focus (go_simp;done)))|((with_reducible refine a6_ ?_ ?_);(focus (go_simp;done)))|((with_reducible first|refine a0_ fun X Y=>?_|refine a4_ fun X Y=>?_);go_simp;refine Y _ ?_;clear Y X)|((refine b6_ 6 6 [] rfl (by kernel_rfl) (by kernel_rfl) ?_);simp only [List.take,List.drop])
    go_simp
   ·have h41:40≤(s.tk.length:Int):=by omega
    rw [show fst [unl (decide (s.time≤tm)) 9,doE r s ⟨1,tm,(k:Int),car⟩ k]=8 by simp [doE,o0_,q8_,fst,unl,hq0,hh,h40,ht]];refine c0_ Tryd.func45 rfl (by kernel_rfl) (by kernel_rfl) rfl fun M0 w0=>?_;simp only [Tryd.ntmps45,Tryd.results45,b5_];repeat' first|(with_reducible first|apply a9_|apply a3_|apply b0_|apply a1_|refine a2_ [] ?_)|((with_reducible refine a6_ ?_ ?_);(focus (go_simp;done)))|((with_reducible refine a0_ fun X Y=>?_);go_simp;refine Y _ ?_;clear Y X)
    refine i1_ 14 [] [⟨12,8,[.string ⟨#[]⟩,.int .i64 0,.int .i64 0,.bool false],none,[]⟩] (by kernel_rfl) (by kernel_rfl) (by kernel_rfl) (by go_simp) (by go_simp) ?_;simp only [List.take,List.drop];repeat (first|(refine d0_ rfl ?_)|((with_reducible refine d1_ rfl fun X Y=>?_);go_simp;refine Y _ (by go_simp) ?_;clear Y X)|(with_reducible apply e8_))
    refine ⟨by go_simp,?_⟩;simp only [j6_,k5_,Slot.end_,List.cons_append,List.nil_append];repeat' first|(with_reducible first|apply a9_|apply a3_|apply b4_|apply c5_|apply b0_|apply a8_|apply c2_|apply a1_|refine a2_ [] ?_|apply a5_)|((with_reducible refine a7_ ?_ ?_);(focus (go_simp;done)))|((with_reducible refine a6_ ?_ ?_);(focus (go_simp;done)))|((with_reducible first|refine a0_ fun X Y=>?_|refine a4_ fun X Y=>?_);go_simp;refine Y _ ?_;clear Y X)|((refine b6_ 6 6 [] rfl (by kernel_rfl) (by kernel_rfl) ?_);simp only [List.take,List.drop])
    go_simp
  ·rw [show fst [unl (decide (s.time≤tm)) 9,doE r s ⟨1,tm,(k:Int),car⟩ k]=13 by simp [doE,o0_,q8_,fst,unl,hq0,hh,ht]];refine c0_ Tryd.func45 rfl (by kernel_rfl) (by kernel_rfl) rfl fun M0 w0=>?_;simp only [Tryd.ntmps45,Tryd.results45,b5_];repeat' first|(with_reducible first|apply a9_|apply a3_|apply b0_|apply a1_|refine a2_ [] ?_)|((with_reducible refine a6_ ?_ ?_);(focus (go_simp;done)))|((with_reducible refine a0_ fun X Y=>?_);go_simp;refine Y _ ?_;clear Y X)
   refine i1_ 14 [] [⟨12,8,[.string ⟨#[]⟩,.int .i64 0,.int .i64 0,.bool false],none,[]⟩] (by kernel_rfl) (by kernel_rfl) (by kernel_rfl) (by go_simp) (by go_simp) ?_;simp only [List.take,List.drop];repeat (first|(refine d0_ rfl ?_)|((with_reducible refine d1_ rfl fun X Y=>?_);go_simp;refine Y _ (by go_simp) ?_;clear Y X)|(with_reducible apply e8_))
   refine ⟨by go_simp,?_⟩;simp only [j6_,k5_,Slot.end_,List.cons_append,List.nil_append];repeat' first|(with_reducible first|apply a9_|apply a3_|apply b4_|apply c5_|apply b0_|apply a8_|apply c2_|apply a1_|refine a2_ [] ?_|apply a5_)|((with_reducible refine a7_ ?_ ?_);(focus (go_simp;done)))|((with_reducible refine a6_ ?_ ?_);(focus (go_simp;done)))|((with_reducible first|refine a0_ fun X Y=>?_|refine a4_ fun X Y=>?_);go_simp;refine Y _ ?_;clear Y X)|((refine b6_ 6 6 [] rfl (by kernel_rfl) (by kernel_rfl) ?_);simp only [List.take,List.drop])
   go_simp
 ·have ht2:tm < s.time:=by omega
  rw [show fst [unl (decide (s.time≤tm)) 9,doE r s ⟨1,tm,(k:Int),car⟩ k]=9 by simp [fst,unl,ht]];refine c0_ Tryd.func45 rfl (by kernel_rfl) (by kernel_rfl) rfl fun M0 w0=>?_;simp only [Tryd.ntmps45,Tryd.results45,b5_];repeat' first|(with_reducible first|apply a9_|apply a3_|apply b4_|apply c5_|apply a1_|refine a2_ [] ?_)|((with_reducible refine a7_ ?_ ?_);(focus (go_simp;done)))|((with_reducible refine a0_ fun X Y=>?_);go_simp;refine Y _ ?_;clear Y X)
  go_simp
theorem d1o (r:Ru) (s:St) (tm:Int) (k:Nat) (car:ByteArray) (hk:k < s.q.length) (hr:r.ranks.length=s.q.length) (hf:q7_ r s.q.length) (_hql:s.q.length≤1000000) (_hqs:∀ k,k < s.q.length→(qat s.q k).length≤1000000) (_htl:s.tk.length≤1000000) : VC Tryd.prog 45 [c4_ r,c9_ s,.agg [I 2,I tm,I (k:Int),S car]] (I (fst [unl (decide (s.time≤tm)) 9,doE r s ⟨2,tm,(k:Int),car⟩ k])):=by
 have hk2:k < r.ranks.length:=by omega
 have hfk:=hf k hk;clear hf;by_cases ht:s.time≤tm
 ·have ht2:¬tm < s.time:=by omega
  clear hfk;by_cases hq0:(qat s.q k).length=0
  ·have hq1:qat s.q k=[]:=List.eq_nil_of_length_eq_zero hq0;rw [show fst [unl (decide (s.time≤tm)) 9,doE r s ⟨2,tm,(k:Int),car⟩ k]=12 by simp [doE,q8_,fst,unl,hq1,ht]];refine c0_ Tryd.func45 rfl (by kernel_rfl) (by kernel_rfl) rfl fun M0 w0=>?_;simp only [Tryd.ntmps45,Tryd.results45,b5_];repeat' first|(with_reducible first|apply a9_|apply a3_|apply b0_|apply a1_|refine a2_ [] ?_)|((with_reducible refine a6_ ?_ ?_);(focus (go_simp;done)))|((with_reducible refine a0_ fun X Y=>?_);go_simp;refine Y _ ?_;clear Y X)
   refine i1_ 14 [] [⟨12,8,[.string ⟨#[]⟩,.int .i64 0,.int .i64 0,.bool false],none,[]⟩] (by kernel_rfl) (by kernel_rfl) (by kernel_rfl) (by go_simp) (by go_simp) ?_;simp only [List.take,List.drop];repeat (first|(refine d0_ rfl ?_)|((with_reducible refine d1_ rfl fun X Y=>?_);go_simp;refine Y _ (by go_simp) ?_;clear Y X)|(with_reducible apply e8_))
   refine ⟨by go_simp,?_⟩;simp only [j6_,k5_,Slot.end_,List.cons_append,List.nil_append];repeat' first|(with_reducible first|apply a9_|apply a3_|apply b4_|apply c5_|apply a8_|apply c2_|apply a1_|refine a2_ [] ?_)|((with_reducible refine a7_ ?_ ?_);(focus (go_simp;done)))|((with_reducible refine a6_ ?_ ?_);(focus (go_simp;done)))|((with_reducible refine a0_ fun X Y=>?_);go_simp;refine Y _ ?_;clear Y X)
   go_simp
  have hq1:¬qat s.q k=[]:=fun h=>by rw [h] at hq0;simp at hq0
  have hq2:0 < (qat s.q k).length:=by omega
  have e0:(qat s.q k)[0]=tat (qat s.q k) 0:=(e7_ hq2).symm;by_cases hh:tat (qat s.q k) 0=car
  ·rw [show fst [unl (decide (s.time≤tm)) 9,doE r s ⟨2,tm,(k:Int),car⟩ k]=0 by simp [doE,q8_,fst,unl,hq0,hh,ht]];refine c0_ Tryd.func45 rfl (by kernel_rfl) (by kernel_rfl) rfl fun M0 w0=>?_;simp only [Tryd.ntmps45,Tryd.results45,b5_];repeat' first|(with_reducible first|apply a9_|apply a3_|apply b0_|apply a1_|refine a2_ [] ?_)|((with_reducible refine a6_ ?_ ?_);(focus (go_simp;done)))|((with_reducible refine a0_ fun X Y=>?_);go_simp;refine Y _ ?_;clear Y X)
   refine i1_ 14 [] [⟨12,8,[.string ⟨#[]⟩,.int .i64 0,.int .i64 0,.bool false],none,[]⟩] (by kernel_rfl) (by kernel_rfl) (by kernel_rfl) (by go_simp) (by go_simp) ?_;simp only [List.take,List.drop];repeat (first|(refine d0_ rfl ?_)|((with_reducible refine d1_ rfl fun X Y=>?_);go_simp;refine Y _ (by go_simp) ?_;clear Y X)|(with_reducible apply e8_))
   refine ⟨by go_simp,?_⟩;simp only [j6_,k5_,Slot.end_,List.cons_append,List.nil_append];repeat' first|(with_reducible first|apply a9_|apply a3_|apply c5_|apply b0_|apply a8_|apply b1_|apply a1_|refine a2_ [] ?_|apply a5_)|((with_reducible refine a7_ ?_ ?_);(focus (go_simp;done)))|((with_reducible refine a6_ ?_ ?_);(focus (go_simp;done)))|((with_reducible first|refine a0_ fun X Y=>?_|refine a4_ fun X Y=>?_);go_simp;refine Y _ ?_;clear Y X)|((refine b6_ 6 6 [] rfl (by kernel_rfl) (by kernel_rfl) ?_);simp only [List.take,List.drop])
   go_simp
  ·rw [show fst [unl (decide (s.time≤tm)) 9,doE r s ⟨2,tm,(k:Int),car⟩ k]=13 by simp [doE,q8_,fst,unl,hq0,hh,ht]];refine c0_ Tryd.func45 rfl (by kernel_rfl) (by kernel_rfl) rfl fun M0 w0=>?_;simp only [Tryd.ntmps45,Tryd.results45,b5_];repeat' first|(with_reducible first|apply a9_|apply a3_|apply b0_|apply a1_|refine a2_ [] ?_)|((with_reducible refine a6_ ?_ ?_);(focus (go_simp;done)))|((with_reducible refine a0_ fun X Y=>?_);go_simp;refine Y _ ?_;clear Y X)
   refine i1_ 14 [] [⟨12,8,[.string ⟨#[]⟩,.int .i64 0,.int .i64 0,.bool false],none,[]⟩] (by kernel_rfl) (by kernel_rfl) (by kernel_rfl) (by go_simp) (by go_simp) ?_;simp only [List.take,List.drop];repeat (first|(refine d0_ rfl ?_)|((with_reducible refine d1_ rfl fun X Y=>?_);go_simp;refine Y _ (by go_simp) ?_;clear Y X)|(with_reducible apply e8_))
   refine ⟨by go_simp,?_⟩;simp only [j6_,k5_,Slot.end_,List.cons_append,List.nil_append];repeat' first|(with_reducible first|apply a9_|apply a3_|apply b4_|apply c5_|apply b0_|apply a8_|apply c2_|apply a1_|refine a2_ [] ?_|apply a5_)|((with_reducible refine a7_ ?_ ?_);(focus (go_simp;done)))|((with_reducible refine a6_ ?_ ?_);(focus (go_simp;done)))|((with_reducible first|refine a0_ fun X Y=>?_|refine a4_ fun X Y=>?_);go_simp;refine Y _ ?_;clear Y X)|((refine b6_ 6 6 [] rfl (by kernel_rfl) (by kernel_rfl) ?_);simp only [List.take,List.drop])
   go_simp
 ·have ht2:tm < s.time:=by omega
  rw [show fst [unl (decide (s.time≤tm)) 9,doE r s ⟨2,tm,(k:Int),car⟩ k]=9 by simp [fst,unl,ht]];refine c0_ Tryd.func45 rfl (by kernel_rfl) (by kernel_rfl) rfl fun M0 w0=>?_;simp only [Tryd.ntmps45,Tryd.results45,b5_];repeat' first|(with_reducible first|apply a9_|apply a3_|apply b4_|apply c5_|apply a1_|refine a2_ [] ?_)|((with_reducible refine a7_ ?_ ?_);(focus (go_simp;done)))|((with_reducible refine a0_ fun X Y=>?_);go_simp;refine Y _ ?_;clear Y X)
  go_simp
theorem d1p (r:Ru) (s:St) (tm:Int) (k:Nat) (car:ByteArray) (hk:k < s.q.length) (hr:r.ranks.length=s.q.length) (hf:q7_ r s.q.length) (_hql:s.q.length≤1000000) (hqs:∀ k,k < s.q.length→(qat s.q k).length≤1000000) (_htl:s.tk.length≤1000000) : VC Tryd.prog 45 [c4_ r,c9_ s,.agg [I 3,I tm,I (k:Int),S car]] (I (fst [unl (decide (s.time≤tm)) 9,doE r s ⟨3,tm,(k:Int),car⟩ k])):=by
 have hk2:k < r.ranks.length:=by omega
 have hfk:=hf k hk;clear hf;by_cases ht:s.time≤tm
 ·have ht2:¬tm < s.time:=by omega
  clear hfk;have g:=v9_ (qat s.q k) car (hqs k hk);have hany:a5w (isT (qat s.q k) car) 0 (qat s.q k).length=decide (0≤a1q (qat s.q k) car):=(b2h _ _).symm;rw [hany] at g;by_cases hi:a1q (qat s.q k) car < 0
  ·have hi2:¬0≤a1q (qat s.q k) car:=by omega
   rw [decide_eq_false hi2] at g;rw [show fst [unl (decide (s.time≤tm)) 9,doE r s ⟨3,tm,(k:Int),car⟩ k]=6 by simp [doE,a3s,fst,unl,hi,ht]];refine c0_ Tryd.func45 rfl (by kernel_rfl) (by kernel_rfl) rfl fun M0 w0=>?_;simp only [Tryd.ntmps45,Tryd.results45,b5_];repeat' first|(with_reducible first|apply a9_|apply a3_|apply b0_|apply a1_|refine a2_ [] ?_)|((with_reducible refine a6_ ?_ ?_);(focus (go_simp;done)))|((with_reducible refine a0_ fun X Y=>?_);go_simp;refine Y _ ?_;clear Y X)
   refine i1_ 14 [] [⟨12,8,[.string ⟨#[]⟩,.int .i64 0,.int .i64 0,.bool false],none,[]⟩] (by kernel_rfl) (by kernel_rfl) (by kernel_rfl) (by go_simp) (by go_simp) ?_;simp only [List.take,List.drop];repeat (first|(refine d0_ rfl ?_)|((with_reducible refine d1_ rfl fun X Y=>?_);go_simp;refine Y _ (by go_simp) ?_;clear Y X)|(with_reducible apply e8_))
   refine ⟨by go_simp,?_⟩;simp only [j6_,k5_,Slot.end_,List.cons_append,List.nil_append];repeat' first|(with_reducible first|apply a9_|apply a3_|apply b4_|apply c5_|apply a8_|apply c2_|apply a1_|refine a2_ [] ?_)|((with_reducible refine a7_ ?_ ?_);(focus (go_simp;done)))|((with_reducible refine a6_ ?_ ?_);(focus (go_simp;done)))|((with_reducible refine a0_ fun X Y=>?_);go_simp;(first|(with_reducible refine ⟨_,g,?_⟩)|skip);refine Y _ ?_;clear Y X)
   go_simp
  ·have hi2:0≤a1q (qat s.q k) car:=by omega
   rw [decide_eq_true hi2] at g;rw [show fst [unl (decide (s.time≤tm)) 9,doE r s ⟨3,tm,(k:Int),car⟩ k]=0 by simp [doE,a3s,fst,unl,hi,ht]];refine c0_ Tryd.func45 rfl (by kernel_rfl) (by kernel_rfl) rfl fun M0 w0=>?_;simp only [Tryd.ntmps45,Tryd.results45,b5_];repeat' first|(with_reducible first|apply a9_|apply a3_|apply b0_|apply a1_|refine a2_ [] ?_)|((with_reducible refine a6_ ?_ ?_);(focus (go_simp;done)))|((with_reducible refine a0_ fun X Y=>?_);go_simp;refine Y _ ?_;clear Y X)
   refine i1_ 14 [] [⟨12,8,[.string ⟨#[]⟩,.int .i64 0,.int .i64 0,.bool false],none,[]⟩] (by kernel_rfl) (by kernel_rfl) (by kernel_rfl) (by go_simp) (by go_simp) ?_;simp only [List.take,List.drop];repeat (first|(refine d0_ rfl ?_)|((with_reducible refine d1_ rfl fun X Y=>?_);go_simp;refine Y _ (by go_simp) ?_;clear Y X)|(with_reducible apply e8_))
   refine ⟨by go_simp,?_⟩;simp only [j6_,k5_,Slot.end_,List.cons_append,List.nil_append];repeat' first|(with_reducible first|apply a9_|apply a3_|apply c5_|apply b0_|apply a8_|apply b1_|apply a1_|refine a2_ [] ?_)|((with_reducible refine a7_ ?_ ?_);(focus (go_simp;done)))|((with_reducible refine a6_ ?_ ?_);(focus (go_simp;done)))|((with_reducible refine a0_ fun X Y=>?_);go_simp;(first|(with_reducible refine ⟨_,g,?_⟩)|skip);refine Y _ ?_;clear Y X)
   go_simp
 ·have ht2:tm < s.time:=by omega
  rw [show fst [unl (decide (s.time≤tm)) 9,doE r s ⟨3,tm,(k:Int),car⟩ k]=9 by simp [fst,unl,ht]];refine c0_ Tryd.func45 rfl (by kernel_rfl) (by kernel_rfl) rfl fun M0 w0=>?_;simp only [Tryd.ntmps45,Tryd.results45,b5_];repeat' first|(with_reducible first|apply a9_|apply a3_|apply b4_|apply c5_|apply a1_|refine a2_ [] ?_)|((with_reducible refine a7_ ?_ ?_);(focus (go_simp;done)))|((with_reducible refine a0_ fun X Y=>?_);go_simp;refine Y _ ?_;clear Y X)
  go_simp
theorem d1q (r:Ru) (s:St) (tm:Int) (k:Nat) (car:ByteArray) (hk:k < s.q.length) (hr:r.ranks.length=s.q.length) (hf:q7_ r s.q.length) (_hql:s.q.length≤1000000) (_hqs:∀ k,k < s.q.length→(qat s.q k).length≤1000000) (_htl:s.tk.length≤1000000) : VC Tryd.prog 45 [c4_ r,c9_ s,.agg [I 4,I tm,I (k:Int),S car]] (I (fst [unl (decide (s.time≤tm)) 9,doE r s ⟨4,tm,(k:Int),car⟩ k])):=by
 have hk2:k < r.ranks.length:=by omega
 have hfk:=hf k hk;clear hf;by_cases ht:s.time≤tm
 ·have ht2:¬tm < s.time:=by omega
  by_cases h1:(rat r.ranks k).feeder = -1
  ·clear hfk;rw [show fst [unl (decide (s.time≤tm)) 9,doE r s ⟨4,tm,(k:Int),car⟩ k]=6 by simp [doE,w4_,fst,unl,h1,ht]];refine c0_ Tryd.func45 rfl (by kernel_rfl) (by kernel_rfl) rfl fun M0 w0=>?_;simp only [Tryd.ntmps45,Tryd.results45,b5_];repeat' first|(with_reducible first|apply a9_|apply a3_|apply b0_|apply a1_|refine a2_ [] ?_)|((with_reducible refine a6_ ?_ ?_);(focus (go_simp;done)))|((with_reducible refine a0_ fun X Y=>?_);go_simp;refine Y _ ?_;clear Y X)
   refine i1_ 14 [] [⟨12,8,[.string ⟨#[]⟩,.int .i64 0,.int .i64 0,.bool false],none,[]⟩] (by kernel_rfl) (by kernel_rfl) (by kernel_rfl) (by go_simp) (by go_simp) ?_;simp only [List.take,List.drop];repeat (first|(refine d0_ rfl ?_)|((with_reducible refine d1_ rfl fun X Y=>?_);go_simp;refine Y _ (by go_simp) ?_;clear Y X)|(with_reducible apply e8_))
   refine ⟨by go_simp,?_⟩;simp only [j6_,k5_,Slot.end_,List.cons_append,List.nil_append];repeat' first|(with_reducible first|apply a9_|apply a3_|apply b4_|apply c5_|apply a8_|apply c2_|apply a1_|refine a2_ [] ?_)|((with_reducible refine a7_ ?_ ?_);(focus (go_simp;done)))|((with_reducible refine a6_ ?_ ?_);(focus (go_simp;done)))|((with_reducible refine a0_ fun X Y=>?_);go_simp;refine Y _ ?_;clear Y X)
   go_simp
  obtain ⟨f0,fl⟩:=hfk h1;clear hfk;obtain ⟨f,hfe⟩ : ∃ f:Nat,(rat r.ranks k).feeder=f:=⟨(rat r.ranks k).feeder.toNat,by omega⟩
  rw [hfe] at fl h1;simp only [Int.toNat_natCast] at fl;clear f0;cases h2:(rat r.ranks k).called
  ·rw [show fst [unl (decide (s.time≤tm)) 9,doE r s ⟨4,tm,(k:Int),car⟩ k]=22 by simp [doE,w4_,fst,unl,h1,h2,hfe,ht]];refine c0_ Tryd.func45 rfl (by kernel_rfl) (by kernel_rfl) rfl fun M0 w0=>?_;simp only [Tryd.ntmps45,Tryd.results45,b5_];repeat' first|(with_reducible first|apply a9_|apply a3_|apply b0_|apply a1_|refine a2_ [] ?_)|((with_reducible refine a6_ ?_ ?_);(focus (go_simp;done)))|((with_reducible refine a0_ fun X Y=>?_);go_simp;refine Y _ ?_;clear Y X)
   refine i1_ 14 [] [⟨12,8,[.string ⟨#[]⟩,.int .i64 0,.int .i64 0,.bool false],none,[]⟩] (by kernel_rfl) (by kernel_rfl) (by kernel_rfl) (by go_simp) (by go_simp) ?_;simp only [List.take,List.drop];repeat (first|(refine d0_ rfl ?_)|((with_reducible refine d1_ rfl fun X Y=>?_);go_simp;refine Y _ (by go_simp) ?_;clear Y X)|(with_reducible apply e8_))
   refine ⟨by go_simp,?_⟩;simp only [j6_,k5_,Slot.end_,List.cons_append,List.nil_append];repeat' first|(with_reducible first|apply a9_|apply a3_|apply b4_|apply c5_|apply b0_|apply a8_|apply c2_|apply a1_|refine a2_ [] ?_)|((with_reducible refine a7_ ?_ ?_);(focus (go_simp;done)))|((with_reducible refine a6_ ?_ ?_);(focus (go_simp;done)))|((with_reducible refine a0_ fun X Y=>?_);go_simp;refine Y _ ?_;clear Y X)
   go_simp
  by_cases h4:0 < (qat s.q f).length
  ·have h5:¬qat s.q f=[]:=fun h=>by rw [h] at h4;simp at h4
   by_cases hfull:((qat s.q k).length:Int) < (rat r.ranks k).places
   ·have hfu:¬(rat r.ranks k).places≤(qat s.q k).length:=by omega
    rw [show fst [unl (decide (s.time≤tm)) 9,doE r s ⟨4,tm,(k:Int),car⟩ k]=0 by simp [doE,w4_,f4_,feedN,fst,unl,h1,h2,hfe,h4,hfull,ht]];refine c0_ Tryd.func45 rfl (by kernel_rfl) (by kernel_rfl) rfl fun M0 w0=>?_;simp only [Tryd.ntmps45,Tryd.results45,b5_];repeat' first|(with_reducible first|apply a9_|apply a3_|apply b0_|apply a1_|refine a2_ [] ?_)|((with_reducible refine a6_ ?_ ?_);(focus (go_simp;done)))|((with_reducible refine a0_ fun X Y=>?_);go_simp;refine Y _ ?_;clear Y X)
    refine i1_ 14 [] [⟨12,8,[.string ⟨#[]⟩,.int .i64 0,.int .i64 0,.bool false],none,[]⟩] (by kernel_rfl) (by kernel_rfl) (by kernel_rfl) (by go_simp) (by go_simp) ?_;simp only [List.take,List.drop];repeat (first|(refine d0_ rfl ?_)|((with_reducible refine d1_ rfl fun X Y=>?_);go_simp;refine Y _ (by go_simp) ?_;clear Y X)|(with_reducible apply e8_))
    refine ⟨by go_simp,?_⟩;simp only [j6_,k5_,Slot.end_,List.cons_append,List.nil_append];repeat' first|(with_reducible first|apply a9_|apply a3_|apply c5_|apply b0_|apply a8_|apply b1_|apply a1_|refine a2_ [] ?_)|((with_reducible refine a7_ ?_ ?_);(focus (go_simp;done)))|((with_reducible refine a6_ ?_ ?_);(focus (go_simp;done)))|((with_reducible refine a0_ fun X Y=>?_);go_simp;refine Y _ ?_;clear Y X)
    go_simp
   ·have hfu:(rat r.ranks k).places≤(qat s.q k).length:=by omega
    rw [show fst [unl (decide (s.time≤tm)) 9,doE r s ⟨4,tm,(k:Int),car⟩ k]=16 by simp [doE,w4_,f4_,feedN,fst,unl,h1,h2,hfe,h4,hfull,ht]];refine c0_ Tryd.func45 rfl (by kernel_rfl) (by kernel_rfl) rfl fun M0 w0=>?_;simp only [Tryd.ntmps45,Tryd.results45,b5_];repeat' first|(with_reducible first|apply a9_|apply a3_|apply b0_|apply a1_|refine a2_ [] ?_)|((with_reducible refine a6_ ?_ ?_);(focus (go_simp;done)))|((with_reducible refine a0_ fun X Y=>?_);go_simp;refine Y _ ?_;clear Y X)
    refine i1_ 14 [] [⟨12,8,[.string ⟨#[]⟩,.int .i64 0,.int .i64 0,.bool false],none,[]⟩] (by kernel_rfl) (by kernel_rfl) (by kernel_rfl) (by go_simp) (by go_simp) ?_;simp only [List.take,List.drop];repeat (first|(refine d0_ rfl ?_)|((with_reducible refine d1_ rfl fun X Y=>?_);go_simp;refine Y _ (by go_simp) ?_;clear Y X)|(with_reducible apply e8_))
    refine ⟨by go_simp,?_⟩;simp only [j6_,k5_,Slot.end_,List.cons_append,List.nil_append];repeat' first|(with_reducible first|apply a9_|apply a3_|apply b4_|apply c5_|apply b0_|apply a8_|apply c2_|apply a1_|refine a2_ [] ?_)|((with_reducible refine a7_ ?_ ?_);(focus (go_simp;done)))|((with_reducible refine a6_ ?_ ?_);(focus (go_simp;done)))|((with_reducible refine a0_ fun X Y=>?_);go_simp;refine Y _ ?_;clear Y X)
    go_simp
  ·have h5:qat s.q f=[]:=List.eq_nil_of_length_eq_zero (by omega);rw [show fst [unl (decide (s.time≤tm)) 9,doE r s ⟨4,tm,(k:Int),car⟩ k]=12 by simp [doE,w4_,feedN,fst,unl,h1,h2,hfe,h5,ht]];refine c0_ Tryd.func45 rfl (by kernel_rfl) (by kernel_rfl) rfl fun M0 w0=>?_;simp only [Tryd.ntmps45,Tryd.results45,b5_];repeat' first|(with_reducible first|apply a9_|apply a3_|apply b0_|apply a1_|refine a2_ [] ?_)|((with_reducible refine a6_ ?_ ?_);(focus (go_simp;done)))|((with_reducible refine a0_ fun X Y=>?_);go_simp;refine Y _ ?_;clear Y X)
   refine i1_ 14 [] [⟨12,8,[.string ⟨#[]⟩,.int .i64 0,.int .i64 0,.bool false],none,[]⟩] (by kernel_rfl) (by kernel_rfl) (by kernel_rfl) (by go_simp) (by go_simp) ?_;simp only [List.take,List.drop];repeat (first|(refine d0_ rfl ?_)|((with_reducible refine d1_ rfl fun X Y=>?_);go_simp;refine Y _ (by go_simp) ?_;clear Y X)|(with_reducible apply e8_))
   refine ⟨by go_simp,?_⟩;simp only [j6_,k5_,Slot.end_,List.cons_append,List.nil_append];repeat' first|(with_reducible first|apply a9_|apply a3_|apply b4_|apply c5_|apply b0_|apply a8_|apply c2_|apply a1_|refine a2_ [] ?_)|((with_reducible refine a7_ ?_ ?_);(focus (go_simp;done)))|((with_reducible refine a6_ ?_ ?_);(focus (go_simp;done)))|((with_reducible refine a0_ fun X Y=>?_);go_simp;refine Y _ ?_;clear Y X)
   go_simp
 ·have ht2:tm < s.time:=by omega
  rw [show fst [unl (decide (s.time≤tm)) 9,doE r s ⟨4,tm,(k:Int),car⟩ k]=9 by simp [fst,unl,ht]];refine c0_ Tryd.func45 rfl (by kernel_rfl) (by kernel_rfl) rfl fun M0 w0=>?_;simp only [Tryd.ntmps45,Tryd.results45,b5_];repeat' first|(with_reducible first|apply a9_|apply a3_|apply b4_|apply c5_|apply a1_|refine a2_ [] ?_)|((with_reducible refine a7_ ?_ ?_);(focus (go_simp;done)))|((with_reducible refine a0_ fun X Y=>?_);go_simp;refine Y _ ?_;clear Y X)
  go_simp
theorem d1r (r:Ru) (s:St) (tm:Int) (k:Nat) (car:ByteArray) (hk:k < s.q.length) (hr:r.ranks.length=s.q.length) (hf:q7_ r s.q.length) (_hql:s.q.length≤1000000) (_hqs:∀ k,k < s.q.length→(qat s.q k).length≤1000000) (htl:s.tk.length≤1000000) (hto:∀ i,i < s.tk.length→IntKind.i64.wrap (tm - (d8_ s.tk i).time)=tm - (d8_ s.tk i).time) : VC Tryd.prog 45 [c4_ r,c9_ s,.agg [I 5,I tm,I (k:Int),S car]] (I (fst [unl (decide (s.time≤tm)) 9,doE r s ⟨5,tm,(k:Int),car⟩ k])):=by
 have hk2:k < r.ranks.length:=by omega
 have hfk:=hf k hk;clear hf;by_cases ht:s.time≤tm
 ·have ht2:¬tm < s.time:=by omega
  clear hfk;have g:=c0s s car htl;by_cases hi:a0v s.tk car < 0
  ·rw [show fst [unl (decide (s.time≤tm)) 9,doE r s ⟨5,tm,(k:Int),car⟩ k]=6 by simp [doE,a3z,fst,unl,hi,ht]];refine c0_ Tryd.func45 rfl (by kernel_rfl) (by kernel_rfl) rfl fun M0 w0=>?_;simp only [Tryd.ntmps45,Tryd.results45,b5_];repeat' first|(with_reducible first|apply a9_|apply a3_|apply b0_|apply a1_|refine a2_ [] ?_)|((with_reducible refine a6_ ?_ ?_);(focus (go_simp;done)))|((with_reducible refine a0_ fun X Y=>?_);go_simp;refine Y _ ?_;clear Y X)
   refine i1_ 14 [] [⟨12,8,[.string ⟨#[]⟩,.int .i64 0,.int .i64 0,.bool false],none,[]⟩] (by kernel_rfl) (by kernel_rfl) (by kernel_rfl) (by go_simp) (by go_simp) ?_;simp only [List.take,List.drop];repeat (first|(refine d0_ rfl ?_)|((with_reducible refine d1_ rfl fun X Y=>?_);go_simp;refine Y _ (by go_simp) ?_;clear Y X)|(with_reducible apply e8_))
   refine ⟨by go_simp,?_⟩;simp only [j6_,k5_,Slot.end_,List.cons_append,List.nil_append];repeat' first|(with_reducible first|apply a9_|apply a3_|apply b4_|apply c5_|apply a8_|apply c2_|apply a1_|refine a2_ [] ?_|apply a5_)|((with_reducible refine a7_ ?_ ?_);(focus (go_simp;done)))|((with_reducible refine a6_ ?_ ?_);(focus (go_simp;done)))|((with_reducible first|refine a0_ fun X Y=>?_|refine a4_ fun X Y=>?_);go_simp;(first|(with_reducible refine ⟨_,g,?_⟩)|skip);refine Y _ ?_;clear Y X)|((refine b6_ 13 13 [] rfl (by kernel_rfl) (by kernel_rfl) ?_);simp only [List.take,List.drop])
   go_simp
  obtain ⟨i,ei,hil,_⟩:=a3c (Classical.byContradiction fun hh=>hi (r4_.2 hh));have eto:c9w s ⟨5,tm,(k:Int),car⟩=d8_ s.tk i:=by unfold c9w;rw [ei,Int.toNat_natCast]
  rw [ei] at g;have hi0:¬(i:Int) < 0:=by omega
  by_cases hrk:(d8_ s.tk i).rank=k
  ·have hwr:=hto i hil;by_cases hlt:tm - (d8_ s.tk i).time≤r.ret
   ·have hlt2:¬r.ret < tm - (d8_ s.tk i).time:=by omega
    by_cases hfull:((qat s.q k).length:Int) < (rat r.ranks k).places
    ·have hfu:¬(rat r.ranks k).places≤(qat s.q k).length:=by omega
     rw [show fst [unl (decide (s.time≤tm)) 9,doE r s ⟨5,tm,(k:Int),car⟩ k]=0 by simp [doE,a3z,f4_,fst,unl,ei,hi0,eto,hrk,hlt,hfull,ht]];refine c0_ Tryd.func45 rfl (by kernel_rfl) (by kernel_rfl) rfl fun M0 w0=>?_;simp only [Tryd.ntmps45,Tryd.results45,b5_];repeat' first|(with_reducible first|apply a9_|apply a3_|apply b0_|apply a1_|refine a2_ [] ?_)|((with_reducible refine a6_ ?_ ?_);(focus (go_simp;done)))|((with_reducible refine a0_ fun X Y=>?_);go_simp;refine Y _ ?_;clear Y X)
     refine i1_ 14 [] [⟨12,8,[.string ⟨#[]⟩,.int .i64 0,.int .i64 0,.bool false],none,[]⟩] (by kernel_rfl) (by kernel_rfl) (by kernel_rfl) (by go_simp) (by go_simp) ?_;simp only [List.take,List.drop];repeat (first|(refine d0_ rfl ?_)|((with_reducible refine d1_ rfl fun X Y=>?_);go_simp;refine Y _ (by go_simp) ?_;clear Y X)|(with_reducible apply e8_))
     refine ⟨by go_simp,?_⟩;simp only [j6_,k5_,Slot.end_,List.cons_append,List.nil_append];repeat' first|(with_reducible first|apply a9_|apply a3_|apply c5_|apply b0_|apply a8_|apply b1_|apply a1_|refine a2_ [] ?_|apply a5_)|((with_reducible refine a7_ ?_ ?_);(focus (go_simp;done)))|((with_reducible refine a6_ ?_ ?_);(focus (go_simp;done)))|((with_reducible first|refine a0_ fun X Y=>?_|refine a4_ fun X Y=>?_);go_simp;(first|(with_reducible refine ⟨_,g,?_⟩)|skip);refine Y _ ?_;clear Y X)|((refine b6_ 12 12 [] rfl (by kernel_rfl) (by kernel_rfl) ?_);simp only [List.take,List.drop])|((refine b6_ 13 13 [] rfl (by kernel_rfl) (by kernel_rfl) ?_);simp only [List.take,List.drop])
     go_simp
    ·have hfu:(rat r.ranks k).places≤(qat s.q k).length:=by omega
     rw [show fst [unl (decide (s.time≤tm)) 9,doE r s ⟨5,tm,(k:Int),car⟩ k]=16 by simp [doE,a3z,f4_,fst,unl,ei,hi0,eto,hrk,hlt,hfull,ht]];refine c0_ Tryd.func45 rfl (by kernel_rfl) (by kernel_rfl) rfl fun M0 w0=>?_;simp only [Tryd.ntmps45,Tryd.results45,b5_];repeat' first|(with_reducible first|apply a9_|apply a3_|apply b0_|apply a1_|refine a2_ [] ?_)|((with_reducible refine a6_ ?_ ?_);(focus (go_simp;done)))|((with_reducible refine a0_ fun X Y=>?_);go_simp;refine Y _ ?_;clear Y X)
     refine i1_ 14 [] [⟨12,8,[.string ⟨#[]⟩,.int .i64 0,.int .i64 0,.bool false],none,[]⟩] (by kernel_rfl) (by kernel_rfl) (by kernel_rfl) (by go_simp) (by go_simp) ?_;simp only [List.take,List.drop];repeat (first|(refine d0_ rfl ?_)|((with_reducible refine d1_ rfl fun X Y=>?_);go_simp;refine Y _ (by go_simp) ?_;clear Y X)|(with_reducible apply e8_))
     refine ⟨by go_simp,?_⟩;simp only [j6_,k5_,Slot.end_,List.cons_append,List.nil_append];repeat' first|(with_reducible first|apply a9_|apply a3_|apply b4_|apply c5_|apply b0_|apply a8_|apply c2_|apply a1_|refine a2_ [] ?_|apply a5_)|((with_reducible refine a7_ ?_ ?_);(focus (go_simp;done)))|((with_reducible refine a6_ ?_ ?_);(focus (go_simp;done)))|((with_reducible first|refine a0_ fun X Y=>?_|refine a4_ fun X Y=>?_);go_simp;(first|(with_reducible refine ⟨_,g,?_⟩)|skip);refine Y _ ?_;clear Y X)|((refine b6_ 12 12 [] rfl (by kernel_rfl) (by kernel_rfl) ?_);simp only [List.take,List.drop])|((refine b6_ 13 13 [] rfl (by kernel_rfl) (by kernel_rfl) ?_);simp only [List.take,List.drop])
     go_simp
   ·have hlt2:r.ret < tm - (d8_ s.tk i).time:=by omega
    rw [show fst [unl (decide (s.time≤tm)) 9,doE r s ⟨5,tm,(k:Int),car⟩ k]=25 by simp [doE,a3z,fst,unl,ei,hi0,eto,hrk,hlt,ht]];refine c0_ Tryd.func45 rfl (by kernel_rfl) (by kernel_rfl) rfl fun M0 w0=>?_;simp only [Tryd.ntmps45,Tryd.results45,b5_];repeat' first|(with_reducible first|apply a9_|apply a3_|apply b0_|apply a1_|refine a2_ [] ?_)|((with_reducible refine a6_ ?_ ?_);(focus (go_simp;done)))|((with_reducible refine a0_ fun X Y=>?_);go_simp;refine Y _ ?_;clear Y X)
    refine i1_ 14 [] [⟨12,8,[.string ⟨#[]⟩,.int .i64 0,.int .i64 0,.bool false],none,[]⟩] (by kernel_rfl) (by kernel_rfl) (by kernel_rfl) (by go_simp) (by go_simp) ?_;simp only [List.take,List.drop];repeat (first|(refine d0_ rfl ?_)|((with_reducible refine d1_ rfl fun X Y=>?_);go_simp;refine Y _ (by go_simp) ?_;clear Y X)|(with_reducible apply e8_))
    refine ⟨by go_simp,?_⟩;simp only [j6_,k5_,Slot.end_,List.cons_append,List.nil_append];repeat' first|(with_reducible first|apply a9_|apply a3_|apply b4_|apply c5_|apply b0_|apply a8_|apply c2_|apply a1_|refine a2_ [] ?_|apply a5_)|((with_reducible refine a7_ ?_ ?_);(focus (go_simp;done)))|((with_reducible refine a6_ ?_ ?_);(focus (go_simp;done)))|((with_reducible first|refine a0_ fun X Y=>?_|refine a4_ fun X Y=>?_);go_simp;(first|(with_reducible refine ⟨_,g,?_⟩)|skip);refine Y _ ?_;clear Y X)|((refine b6_ 12 12 [] rfl (by kernel_rfl) (by kernel_rfl) ?_);simp only [List.take,List.drop])|((refine b6_ 13 13 [] rfl (by kernel_rfl) (by kernel_rfl) ?_);simp only [List.take,List.drop])
    go_simp
  ·rw [show fst [unl (decide (s.time≤tm)) 9,doE r s ⟨5,tm,(k:Int),car⟩ k]=6 by simp [doE,a3z,fst,unl,ei,hi0,eto,hrk,ht]];refine c0_ Tryd.func45 rfl (by kernel_rfl) (by kernel_rfl) rfl fun M0 w0=>?_;simp only [Tryd.ntmps45,Tryd.results45,b5_];repeat' first|(with_reducible first|apply a9_|apply a3_|apply b0_|apply a1_|refine a2_ [] ?_)|((with_reducible refine a6_ ?_ ?_);(focus (go_simp;done)))|((with_reducible refine a0_ fun X Y=>?_);go_simp;refine Y _ ?_;clear Y X)
   refine i1_ 14 [] [⟨12,8,[.string ⟨#[]⟩,.int .i64 0,.int .i64 0,.bool false],none,[]⟩] (by kernel_rfl) (by kernel_rfl) (by kernel_rfl) (by go_simp) (by go_simp) ?_;simp only [List.take,List.drop];repeat (first|(refine d0_ rfl ?_)|((with_reducible refine d1_ rfl fun X Y=>?_);go_simp;refine Y _ (by go_simp) ?_;clear Y X)|(with_reducible apply e8_))
   refine ⟨by go_simp,?_⟩;simp only [j6_,k5_,Slot.end_,List.cons_append,List.nil_append];repeat' first|(with_reducible first|apply a9_|apply a3_|apply b4_|apply c5_|apply a8_|apply c2_|apply a1_|refine a2_ [] ?_|apply a5_)|((with_reducible refine a7_ ?_ ?_);(focus (go_simp;done)))|((with_reducible refine a6_ ?_ ?_);(focus (go_simp;done)))|((with_reducible first|refine a0_ fun X Y=>?_|refine a4_ fun X Y=>?_);go_simp;(first|(with_reducible refine ⟨_,g,?_⟩)|skip);refine Y _ ?_;clear Y X)|((refine b6_ 13 13 [] rfl (by kernel_rfl) (by kernel_rfl) ?_);simp only [List.take,List.drop])
   go_simp
 ·have ht2:tm < s.time:=by omega
  rw [show fst [unl (decide (s.time≤tm)) 9,doE r s ⟨5,tm,(k:Int),car⟩ k]=9 by simp [fst,unl,ht]];refine c0_ Tryd.func45 rfl (by kernel_rfl) (by kernel_rfl) rfl fun M0 w0=>?_;simp only [Tryd.ntmps45,Tryd.results45,b5_];repeat' first|(with_reducible first|apply a9_|apply a3_|apply b4_|apply c5_|apply a1_|refine a2_ [] ?_)|((with_reducible refine a7_ ?_ ?_);(focus (go_simp;done)))|((with_reducible refine a0_ fun X Y=>?_);go_simp;refine Y _ ?_;clear Y X)
  go_simp
theorem b7c (r:Ru) (s:St) (x:Ev) (hr:RuOK r) (hi:Inv r s) (hx:evE r x=0) : VC Tryd.prog 45 [c4_ r,c9_ s,evA x] (I (fst [unl (decide (s.time≤x.time)) 9,doE r s x x.rank.toNat])):=by
 have h1:=b5z hx;obtain ⟨h2,h3⟩:=b6a hx;have h4:=c3e hx;have hk:x.rank.toNat < s.q.length:=by rw [hi.len];omega
 have hlen:r.ranks.length=s.q.length:=hi.len.symm;have hfo:q7_ r s.q.length:=by rw [hi.len];exact hr.feed
 have h6:s.q.length≤6:=by rw [hi.len];exact hr.n6
 have hqs:∀ j,j < s.q.length→(qat s.q j).length≤1000000:=fun j hj=>by
  have:=hi.fit j hj;have:=hr.pl j (by omega);omega
 have htl:=hi.tkl;have hto:∀ i,i < s.tk.length→IntKind.i64.wrap (x.time - (d8_ s.tk i).time)=x.time - (d8_ s.tk i).time:=fun i hil=>by
  have:=hi.tkt _ (List.getElem_mem hil);rw [←f5_ hil] at this;have:=hi.t0;exact h3_ (by omega) (by omega)
 obtain ⟨kd,tm,rk,car⟩:=x;simp only at h1 h2 h3 h4 hk hto ⊢;obtain ⟨k,rfl⟩ : ∃ k:Nat,rk=k:=⟨rk.toNat,by omega⟩
 rw [Int.toNat_natCast] at hk ⊢;have hk6:kd=0∨kd=1∨kd=2∨kd=3∨kd=4∨kd=5:=by omega
 rcases hk6 with rfl|rfl|rfl|rfl|rfl|rfl
 ·exact d1m r s tm k car hk hlen hfo (by omega) hqs (by omega)
 ·exact d1n r s tm k car hk hlen hfo (by omega) hqs (by omega)
 ·exact d1o r s tm k car hk hlen hfo (by omega) hqs (by omega)
 ·exact d1p r s tm k car hk hlen hfo (by omega) hqs (by omega)
 ·exact d1q r s tm k car hk hlen hfo (by omega) hqs (by omega)
 ·exact d1r r s tm k car hk hlen hfo (by omega) hqs (by omega) hto
end Go.Proofs.YtoibondihdhnoaaDoor
