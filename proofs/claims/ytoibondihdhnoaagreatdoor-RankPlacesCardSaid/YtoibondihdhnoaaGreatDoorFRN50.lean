/- Texts in one: Walks: a state is copied. -/
import Derived.Test.YtoibondihdhnoaaGreatDoorFRN47
import Derived.Test.YtoibondihdhnoaaGreatDoorFRN49
import Derived.Test.YtoibondihdhnoaaGreatDoorFRN20
import Derived.Test.YtoibondihdhnoaaGreatDoorFRN25
namespace Go.Proofs.YtoibondihdhnoaaGreatDoor
open Go.RowKit
set_option maxRecDepth 100000
set_option maxHeartbeats 4000000
def cpT (es:List (List AV)) (tm:Int) (M:Nat→Nat→Prop) (w:World) (i:Nat) (v:Value) (w':World) : Prop:=
 if i=2 then ∃ b,v = .slice (some b) 0 0
 else if i=5 then OwnRow w w' M 148 3 (decide (es=[])) es v
 else if i=6 then ∃ v5,v = .agg #[.slice none 0 0,v5,.int .i64 tm]∧OwnRow w w' M 148 3 (decide (es=[])) es v5
 else ∃ b,v = .pointer (some ⟨b,0,none⟩)∧w.heap.size≤b∧w'.heap[b]? = some (.cells #[.slice none 0 0,.slice none 0 0,.int .i64 0] 32 (0,0))
theorem c0h (es:List (List AV)) (tm:Int) (M:Nat→Nat→Prop) (w:World) (i:Nat) (v:Value) (w1 w2:World) (h:cpT es tm M w i v w1) (hb:Below w1.heap.size w1 w2) : cpT es tm M w i v w2:=by
 unfold cpT at h ⊢;split
 ·rename_i h2;rwa [if_pos h2] at h
 rename_i h2;rw [if_neg h2] at h;split
 ·rename_i h5;rw [if_pos h5] at h;exact h.later hb
 rename_i h5;rw [if_neg h5] at h;split
 ·rename_i h6;rw [if_pos h6] at h;obtain ⟨v5,e,h⟩:=h;exact ⟨v5,e,h.later hb⟩
 ·rename_i h6;rw [if_neg h6] at h;obtain ⟨b,e,h1,h3⟩:=h;exact ⟨b,e,h1,(hb.block b (Array.getElem?_eq_some_iff.1 h3).1).trans h3⟩
theorem OwnRow.lits {w w':World} {M M':Nat→Nat→Prop} {e sz:Nat} {nl:Bool} {α:Type} {F:α→List AV} {l:List α} {v:Value} (h:OwnRow w w' M e sz nl (l.map F) v) (hF:∀ x,(F x).length=sz∧∀ c∈F x,∃ u,c = .lit u∧u.oneCell'=true)
  (hM:∀ g cur j,w.heap.size≤g→w'.heap[g]? = some (.cells cur e (0,0))→¬M' g j) : V0 w' M' (.sl sz (l.map F)) v:=by
 unfold OwnRow at h;split at h
 ·obtain ⟨⟨A,rfl⟩,he⟩:=h;rw [he];exact .slNil _ _ _
 ·obtain ⟨g,cap,cur,rfl,h2,h3,h4,h5,h6,h7⟩:=h;by_cases hne:l.map F=[]
  ·rw [hne];exact .slNil _ _ _
  ·refine .sl sz _ cap g 0 (fun k j=>cur.getD (k*sz+j) undef) hne (Array.getElem?_eq_some_iff.1 h3).1 (fun k j _ _=>hM g cur _ h2 h3) h5 (fun k x hk=>?_) (fun k x j c hk hj=>?_) (fun k j hk hj=>?_) fun k x j c hk hj=>?_
   ·obtain ⟨y,hy,rfl⟩:=f2_ hk;exact (hF y).1
   ·obtain ⟨y,hy,rfl⟩:=f2_ hk;obtain ⟨u,rfl,hu⟩:=(hF y).2 c (List.mem_of_getElem? hj);exact hu
   ·rw [cell_of_row w' g _ cur e (0,0) h3,Nat.zero_add];have:(k+1)*sz≤cap*sz:=Nat.mul_le_mul_right _ (by omega);rw [Nat.add_mul] at this;have:k*sz+j < cur.size:=by omega
    simp [this]
   ·obtain ⟨u,hu,hv⟩:=h7 k x j c hk hj;obtain ⟨y,hy,rfl⟩:=f2_ hk;obtain ⟨u',rfl,_⟩:=(hF y).2 c (List.mem_of_getElem? hj);have:cur.getD (k*sz+j) undef=u:=by simp [hu]
    rw [this,hv.lit_inv];exact .lit _
theorem c7z (x:Tk) : (Tk.av x).length=3∧∀ c∈Tk.av x,∃ u,c = .lit u∧u.oneCell'=true:=by
 refine ⟨rfl,fun c hc=>?_⟩;simp only [Tk.av,List.mem_cons,List.not_mem_nil,or_false] at hc;rcases hc with rfl|rfl|rfl<;>exact ⟨_,rfl,rfl⟩
theorem d2h:(n0 31).has 3:=⟨by decide,by decide⟩
def a2u (s:St) (k:Nat) : List (List AV):=(f3_ (s.q.take k)).map fun l=>[AV.sl 1 l]
theorem b6i {s:St} {k:Nat} (h:k < s.q.length) : a2u s (k+1)=a2u s k++[[.sl 1 ((qat s.q k).map n5_)]]:=by
 unfold a2u f3_;rw [l1_ h,List.map_append,List.map_append,d8_ h];rfl
theorem c0i {s:St} {k:Nat} (h:k≤s.q.length) : (a2u s k).length=k:=by
 unfold a2u f3_;rw [List.length_map,List.length_map,List.length_take];omega
@[go_sem] theorem d2i (s:St) : a2u s 0=[]:=rfl
theorem c0j (s:St) : a2u s s.q.length=(f3_ s.q).map fun l=>[AV.sl 1 l]:=by
 unfold a2u;rw [List.take_length]
theorem d0o (s:St) (h:SmallS s) : VC Tryz.prog 53 [e3_ s] (e3_ s):=by
 refine c2_ Tryz.func53 rfl (by kernel_rfl) (by kernel_rfl) rfl fun M0 w0=>?_;simp only [Tryz.ntmps53,Tryz.results53,b4_];repeat' with_reducible apply a8_
 refine a2_ [] ?_;repeat' first|(with_reducible first|apply a8_|apply a3_|apply a1_)|((with_reducible refine a0_ fun X Y=>?_);go_simp;refine Y _ ?_;clear Y X)
 refine d0n 8 [] (fun i=>i == 2 || i == 5 || i == 6 || i == 7) ⟨[(11,.agg [r7_,.sl 3 (s.tk.map Tk.av),I s.time]),(3,.ref 1 0),(2,.ref 0 0),(1,.vp [x1_ s.q,.sl 3 (s.tk.map Tk.av),I s.time]),(0,e3_ s)],[some (.box [r7_,r7_,I 0]),some (.box [r7_,r7_,I 0])]⟩ (fun p a w i v w'=>cpT (s.tk.map Tk.av) s.time (Mof M0 [some (.box [r7_,r7_,I 0])] p) w i v w') (by kernel_rfl) (by kernel_rfl) (fun p a w i v w1 w2 hv hb=>c0h _ _ _ _ _ _ _ _ hv hb) ?_;simp only [List.take,List.drop];repeat (first|(refine y5_ rfl ?_)|((with_reducible refine y6_ rfl fun X Y=>?_);go_simp;refine Y _ (by go_simp) ?_;clear Y X)|(with_reducible apply a2b))
 refine ⟨?_,?_,?_⟩
 ·intro p a w R i o hi hc ho;have hi4:i=2∨i=5∨i=6∨i=7:=by simpa [or_assoc] using hc
  rcases hi4 with rfl|rfl|rfl|rfl
  all_goals
   simp only [List.getElem?_cons_zero,List.getElem?_cons_succ,Option.some.injEq] at ho;subst ho;refine ⟨rfl,fun a' w' hb hlk hold hdep=>?_⟩
  ·obtain ⟨us,hrun,_⟩:=b9k (P:=Tryz.prog) (w:=w') (M:=fun _ _=>False) (h:=[]) (p:=p) (t:=30) (n:=0) (parts:=[]) (vals:=#[]) (cs:=[]) (ti:=⟨1,1,24,148,3,0,.i64,[],[.slice none 0 0]⟩) rfl (fun i a v h=>by simp at h) (by kernel_rfl);unfold gives;simp only [execOp,Sem.run_bind,List.map_toArray,List.map_nil,hrun,Result.andThen_ok,Sem.run_pure];exact ⟨⟨_,rfl⟩,i3_ _ _⟩
  ·have h7:=hdep 2 _ 7 (by decide) rfl rfl rfl (by kernel_rfl);unfold cpT at h7;rw [if_pos rfl] at h7;obtain ⟨b7,e7⟩:=h7;have hy:V1 w' (Mof M0 [some (.box [r7_,r7_,I 0])] p) [some (.box [r7_,r7_,I 0])] p (.sl 3 (s.tk.map Tk.av)) (a'.eval (.tmp 9)):=hlk 9 (by simp [Oper.looksAt,Op.operands,Call.operands]);have ex:a'.eval (.tmp 7) = .slice (some b7) 0 0:=e7;obtain ⟨d,i0,z,hd,hi,hz,h1z,hti⟩:=c1_ c8m;injection hti with q1 q2 q3 q4 q5 q6 q7 q8 q9
   have hzs:z.cells.size=3:=by
    rw [←Array.length_toList,←q9];rfl
   obtain ⟨v',w2,hr,hbl,ho⟩:=c0a (P:=Tryz.prog) (ty:=30) (a0:=b7) Tryz.underlying30 hi hz q2.symm hzs (by rw [←q3];decide) (by decide) hy.sl_inv (by have:=h.nt;rw [List.length_map];omega);rw [←ex] at hr;unfold gives;simp only [execOp,resolve,invoke,builtin,Sem.run_bind,Sem.run_pure,Result.andThen_ok,List.map_toArray,List.map_cons,List.map_nil,hr];refine ⟨?_,hbl⟩;unfold cpT;rw [if_neg (by decide),if_pos rfl];exact ho.base hb.size
  ·have h5:=hdep 5 _ 10 (by decide) rfl rfl rfl (by kernel_rfl);unfold cpT at h5;rw [if_neg (by decide),if_pos rfl] at h5;have hy:V1 w' (Mof M0 [some (.box [r7_,r7_,I 0])] p) [some (.box [r7_,r7_,I 0])] p (I s.time) (a'.eval (.tmp 6)):=hlk 6 (by simp [Oper.looksAt,Op.operands]);have e6:a'.eval (.tmp 6) = .int .i64 s.time:=hy.lit_inv;obtain ⟨A,m,c,e10⟩ : ∃ A m c,a'.eval (.tmp 10) = .slice A m c:=by
    unfold OwnRow at h5;split at h5
    ·obtain ⟨⟨A,h5⟩,_⟩:=h5;exact ⟨A,0,0,h5⟩
    ·obtain ⟨g,cap,cur,h5,_⟩:=h5;exact ⟨_,_,_,h5⟩
   have h5':OwnRow w w' (Mof M0 [some (.box [r7_,r7_,I 0])] p) 148 3 (decide (s.tk.map Tk.av=[])) (s.tk.map Tk.av) (.slice A m c):=by
    rw [←e10];exact h5
   obtain ⟨u,hrun,hu⟩:=b3z (P:=Tryz.prog) (w:=w') (M:=fun _ _=>False) (h:=[]) (p:=p) (t:=32) (parts:=[(2,I s.time),(1,.lit (.slice A m c))]) (vals:=#[(2,.int .i64 s.time),(1,.slice A m c)]) (r:=.agg [r7_,.lit (.slice A m c),I s.time]) rfl (fun i a v h1 h2=>by
    rcases i with _|_|i
    ·simp at h1 h2;subst h1;subst h2;exact .base _ _ (.lit _)
    ·simp at h1 h2;subst h1;subst h2;exact .base _ _ (.lit _)
    ·simp at h1) (by go_simp)
   have hue:u = .agg #[.slice none 0 0,.slice A m c,.int .i64 s.time]:=by
    have h0:=hu;cases h0 with
    | base _ _ h0=>
     cases h0 with
     | agg _ us hl h1 h2=>
      rcases us with _|⟨u0,_|⟨u1,_|⟨u2,_|⟨_,_⟩⟩⟩⟩
      ·simp at hl
      ·simp at hl
      ·simp at hl
      ·have k0:=(h2 0 _ u0 rfl rfl).lit_inv;have k1:=(h2 1 _ u1 rfl rfl).lit_inv;have k2:=(h2 2 _ u2 rfl rfl).lit_inv;subst k0;subst k1;subst k2;rfl
      ·simp at hl
    | agg _ us hl h1 h2=>
     rcases us with _|⟨u0,_|⟨u1,_|⟨u2,_|⟨_,_⟩⟩⟩⟩
     ·simp at hl
     ·simp at hl
     ·simp at hl
     ·have k0:=(h2 0 _ u0 rfl rfl).lit_inv;have k1:=(h2 1 _ u1 rfl rfl).lit_inv;have k2:=(h2 2 _ u2 rfl rfl).lit_inv;subst k0;subst k1;subst k2;rfl
     ·simp at hl
   unfold gives;simp only [execOp,Sem.run_bind,List.map_toArray,List.map_cons,List.map_nil,e6,e10,hrun,Result.andThen_ok,Sem.run_pure];refine ⟨?_,Below.refl _ _⟩;unfold cpT;rw [if_neg (by decide),if_neg (by decide),if_pos rfl,hue];exact ⟨_,rfl,h5'⟩
  ·obtain ⟨z,hz,hz1,hzr⟩:=t6_ d3u;have hzc:z.cells=#[.slice none 0 0,.slice none 0 0,.int .i64 0]:=by
    apply Array.toList_inj.1;exact hz
   unfold gives;simp only [execOp,Instr.alloc,Sem.run_bind,hzr,Result.andThen_ok];simp only [newVar,newRow];refine ⟨?_,i3_ w' _⟩;unfold cpT;rw [if_neg (by decide),if_neg (by decide),if_neg (by decide)];exact ⟨_,rfl,hb.size,by simp [hzc,-World.alloc_eq]⟩
 ·intro p a w a' w' R hb R' hold hT;have h6:=hT 6 _ 11 (by decide) rfl rfl rfl;have h7:=hT 7 _ 3 (by decide) rfl rfl rfl;unfold cpT at h6 h7;rw [if_neg (by decide),if_neg (by decide),if_pos rfl] at h6;rw [if_neg (by decide),if_neg (by decide),if_neg (by decide)] at h7;obtain ⟨v5,e6,ho⟩:=h6;obtain ⟨b,e7,hbz,hbc⟩:=h7;have hpn:=(h9_ p 1 b).1;have R1:=R.grow (ob:=.box [r7_,r7_,I 0]) (b:=b) (d:=3) (av:=.ref 1 0) (v:=.pointer (some ⟨b,0,none⟩)) hb d2h (fun _=>hbz) (fun _ _ _ _ _ h=>by cases h)
   ⟨a0i (Nat.le_trans R.below.size hbz),_,32,by simp only [List.length_cons,List.length_nil,Nat.zero_add];rw [hpn];exact hbc,rfl,fun c hc=>by
    simp only [List.mem_cons,List.not_mem_nil,or_false] at hc;rcases hc with rfl|rfl|rfl<;>rfl,fun j c hj=>by
    rcases j with _|_|_|j
    ·simp only [List.getElem?_cons_zero,Option.some.injEq] at hj;subst hj;exact ⟨_,rfl,.base _ _ (.lit _)⟩
    ·simp only [List.getElem?_cons_zero,List.getElem?_cons_succ,Option.some.injEq] at hj;subst hj;exact ⟨_,rfl,.base _ _ (.lit _)⟩
    ·simp only [List.getElem?_cons_zero,List.getElem?_cons_succ,Option.some.injEq] at hj;subst hj;exact ⟨_,rfl,.base _ _ (.lit _)⟩
    ·simp at hj⟩
   (by
    have:=V1.ref (w:=w') (M:=Mof M0 [some (.box [r7_,r7_,I 0]),some (.box [r7_,r7_,I 0])] (m0_ p 1 b)) (h:=[some (.box [r7_,r7_,I 0]),some (.box [r7_,r7_,I 0])]) (p:=m0_ p 1 b) 1 0 (by simp);rwa [hpn] at this)
  have R2:=R1.reframe (a':=a') R'.defers R'.size fun i hi=>by
   by_cases h3:i=3
   ·subst h3;rw [l4_ a 3 _ 3 (R.size.lt d2h),if_pos rfl];exact e7
   ·rw [l4_ a 3 _ i (R.size.lt d2h),if_neg (Ne.symm h3)];have hi2:i=2∨i=1∨i=0:=by
     apply Classical.byContradiction;intro hn;apply hi;simp only [lkp];rw [if_neg (Ne.symm h3),if_neg (by omega),if_neg (by omega),if_neg (by omega)]
    refine hold i fun j q hj hq he=>?_;have hj8:j=0∨j=1∨j=2∨j=3∨j=4∨j=5∨j=6∨j=7:=by omega
    rcases hj8 with rfl|rfl|rfl|rfl|rfl|rfl|rfl|rfl
    all_goals
     simp only [List.getElem?_cons_zero,List.getElem?_cons_succ,Option.some.injEq] at hq;subst hq;simp only [Option.some.injEq] at he;omega
  refine ⟨_,R2.know (d:=11) (r:=.agg [r7_,.sl 3 (s.tk.map Tk.av),I s.time]) ?_⟩;rw [e6];refine .base _ _ (.agg _ [.slice none 0 0,v5,.int .i64 s.time] rfl (fun c hc=>?_) fun j c u hc hu=>?_)
  ·simp only [List.mem_cons,List.not_mem_nil,or_false] at hc;rcases hc with rfl|rfl|rfl<;>rfl
  ·rcases j with _|_|_|j
   ·simp only [List.getElem?_cons_zero,Option.some.injEq] at hc hu;subst hc;subst hu;exact .lit _
   ·simp only [List.getElem?_cons_zero,List.getElem?_cons_succ,Option.some.injEq] at hc hu;subst hc;subst hu;refine ho.lits c7z fun g cur j hg hgc hm=>?_;rcases hm with hm|⟨id,ob,hid,hl,hO⟩
    ·exact R.h0 _ _ hm (.inl (Nat.le_trans R.below.size hg))
    ·rcases id with _|_|id
     ·simp only [List.cons_append,List.nil_append,List.getElem?_cons_zero,Option.some.injEq] at hid;subst hid;have:=((R.objs 0 _ rfl).own hl g j ((l6_ (show (0:Nat)≠1 by decide)).1 hO)).2;omega
     ·have:=m1_ hO;subst this;rw [hbc] at hgc;injection hgc with hgc
      injection hgc with q1 q2 q3
      exact absurd q2 (by decide)
     ·simp at hid
   ·simp only [List.getElem?_cons_zero,List.getElem?_cons_succ,Option.some.injEq] at hc hu;subst hc;subst hu;exact .lit _
   ·simp at hc
 ·have hq:=h.q1;have hnq:=h.nq;have HQ:=Lib.hid hq;clear hq h;repeat' first|(with_reducible first|apply a8_|apply a3_|apply a1_)|((with_reducible refine a0_ fun X Y=>?_);go_simp;refine Y _ ?_;clear Y X)
  refine a2_ [] ?_;repeat' first|(with_reducible first|apply a3_|apply a9_|apply a1_)|((with_reducible refine a0_ fun X Y=>?_);go_simp;refine Y _ ?_;clear Y X)
  refine a0p (fun p a w R=>⟨_,R.nilCell (bi:=1) (j:=0) (e:=62) (sz:=1) rfl rfl (by decide)⟩) ?_;go_simp;apply b4o [1,2,3] (fun k=>[(4,I k)]) (fun k=>([some (.box [r7_,r7_,I 0]),some (.box [.osl 2,.sl 3 (s.tk.map Tk.av),I s.time]),some (.arr 62 1 (decide (a2u s k=[])) (a2u s k))] : Hp))  (s.q.length)
  ·go_simp<;>exact rfl
  ·go_simp
  ·intro k hk K hK;obtain ⟨w1,w2,w3,w4,w5,w6⟩:=ixs (m:=k) (by omega);have g:=b1v (qat s.q k) (by rw [d8_ hk];have:=(HQ.out _ (List.getElem_mem hk)).1;omega);have hs:=b6i hk;have hl:=c0i (s:=s) (k:=k) (by omega);have hb:(a2u s k).length+1≤1000000000:=by omega
   rw [hs] at hK;clear hs hl;generalize a2u s k=RV at *;repeat' with_reducible apply a8_
   refine a2_ [] ?_;repeat' first|(with_reducible first|apply a8_|apply a3_|apply b1_|apply a9_|apply a1_)|((with_reducible refine a7_ ?_ ?_);(focus (go_simp;done)))|((with_reducible refine a0_ fun X Y=>?_);go_simp;refine Y _ ?_;clear Y X)
   refine a2o 9 [] 2 [] (by kernel_rfl) (by kernel_rfl) (by kernel_rfl) (by kernel_rfl) rfl ⟨rfl,rfl⟩ rfl ?_;simp only [List.take,List.drop];repeat' first|with_reducible apply a5_|((with_reducible refine a4_ fun X Y=>?_);go_simp;(first|(with_reducible refine ⟨_,g,?_⟩)|skip);refine Y _ ?_;clear Y X)
   refine ⟨_,by go_simp,by go_simp;exact rfl,?_,?_⟩
   ·intro t ht;simp at ht
   go_simp;repeat' first|(with_reducible first|apply a3_|apply b3_|apply a1_)|((with_reducible refine a0_ fun X Y=>?_);go_simp;refine Y _ ?_;clear Y X)
   refine a2_ [] ?_;repeat' first|(with_reducible first|apply a3_|apply a1_)|((with_reducible refine a0_ fun X Y=>?_);go_simp;refine Y _ ?_;clear Y X)
   refine hK _ ?_;go_simp
  ·intro K;rw [c0j];repeat' with_reducible apply a8_
   refine a2_ [] ?_;repeat' first|(with_reducible first|apply a8_|apply a3_|apply b8_|apply d0_|apply b7_|apply a1_)|((with_reducible refine a6_ ?_ ?_);(focus (go_simp;done)))|((with_reducible refine a0_ fun X Y=>?_);go_simp;refine Y _ ?_;clear Y X)
   refine i1_ 1 0 2 rfl rfl rfl ?_;repeat' first|(with_reducible first|apply a3_|apply c4_|apply a1_|refine a2_ [] ?_)|((with_reducible refine a0_ fun X Y=>?_);go_simp;refine Y _ ?_;clear Y X)
   go_simp
theorem c3y (l:List ByteArray) : ∀ (k:Nat) (x:List AV),(l.map n5_)[k]? = some x→x.length=1∧∀ c∈x,f7_ c=true:=fun k x hx=>by
 obtain ⟨y,hy,rfl⟩:=f2_ hx;exact ⟨rfl,by simp [n5_,f7_,Value.oneCell']⟩
end Go.Proofs.YtoibondihdhnoaaGreatDoor
