/- Texts in one: Walks: a state is copied. -/
import Derived.Test.YtoibondihdhnoaaGreatDoorFRZ8
import Derived.Test.YtoibondihdhnoaaGreatDoorFRZ53
import Derived.Test.YtoibondihdhnoaaGreatDoorFRZ55
namespace Go.Proofs.YtoibondihdhnoaaGreatDoor
open Go.RowKit
set_option maxRecDepth 100000
set_option maxHeartbeats 4000000
def cpT (es:List (List AV)) (tm:Int) (M:Nat→Nat→Prop) (w:World) (i:Nat) (v:Value) (w':World) : Prop:=
 if i=2 then ∃ b,v = .slice (some b) 0 0
 else if i=5 then OwnRow w w' M 148 3 (decide (es=[])) es v
 else if i=6 then ∃ v5,v = .agg #[.slice none 0 0,v5,.int .i64 tm]∧OwnRow w w' M 148 3 (decide (es=[])) es v5
 else ∃ b,v = .pointer (some ⟨b,0,none⟩)∧w.heap.size≤b∧w'.heap[b]? = some (.cells #[.slice none 0 0,.slice none 0 0,.int .i64 0] 32 (0,0))
theorem Qc (es:List (List AV)) (tm:Int) (M:Nat→Nat→Prop) (w:World) (i:Nat) (v:Value) (w1 w2:World) (h:cpT es tm M w i v w1) (hb:Below w1.heap.size w1 w2) : cpT es tm M w i v w2:=by
 unfold cpT at h ⊢;split
 ·rename_i h2;rwa [if_pos h2] at h
 rename_i h2;rw [if_neg h2] at h;split
 ·rename_i h5;rw [if_pos h5] at h;exact h.later hb
 rename_i h5;rw [if_neg h5] at h;split
 ·rename_i h6;rw [if_pos h6] at h;obtain ⟨v5,e,h⟩:=h;exact ⟨v5,e,h.later hb⟩
 ·rename_i h6;rw [if_neg h6] at h;obtain ⟨b,e,h1,h3⟩:=h;exact ⟨b,e,h1,(hb.block b (Array.getElem?_eq_some_iff.1 h3).1).trans h3⟩
theorem OwnRow.lits {w w':World} {M M':Nat→Nat→Prop} {e sz:Nat} {nl:Bool} {α:Type} {F:α→List AV} {l:List α} {v:Value} (h:OwnRow w w' M e sz nl (l.map F) v) (hF:∀ x,(F x).length=sz∧∀ c∈F x,∃ u,c = .lit u∧u.oneCell'=true)
  (hM:∀ g cur j,w.heap.size≤g→w'.heap[g]? = some (.cells cur e (0,0))→¬M' g j) : V0 w' M' (.sl sz (l.map F)) v:=by
 unfold OwnRow at h;split at h
 ·obtain ⟨⟨A,rfl⟩,he⟩:=h;rw [he];exact .slNil _ _ _
 ·obtain ⟨g,cap,cur,rfl,h2,h3,h4,h5,h6,h7⟩:=h;by_cases aC:l.map F=[]
  ·rw [aC];exact .slNil _ _ _
  ·refine .sl sz _ cap g 0 (fun k j=>cur.getD (k*sz+j) undef) aC (Array.getElem?_eq_some_iff.1 h3).1 (fun k j _ _=>hM g cur _ h2 h3) h5 (fun k x hk=>?_) (fun k x j c hk hj=>?_) (fun k j hk hj=>?_) fun k x j c hk hj=>?_
   ·obtain ⟨y,hy,rfl⟩:=dT hk;exact (hF y).1
   ·obtain ⟨y,hy,rfl⟩:=dT hk;obtain ⟨u,rfl,hu⟩:=(hF y).2 c (List.mem_of_getElem? hj);exact hu
   ·rw [cell_of_row w' g _ cur e (0,0) h3,Nat.zero_add];have:(k+1)*sz≤cap*sz:=Nat.mul_le_mul_right _ (by omega);rw [Nat.add_mul] at this;have:k*sz+j < cur.size:=by omega
    simp [this]
   ·obtain ⟨u,hu,hv⟩:=h7 k x j c hk hj;obtain ⟨y,hy,rfl⟩:=dT hk;obtain ⟨u',rfl,_⟩:=(hF y).2 c (List.mem_of_getElem? hj);have:cur.getD (k*sz+j) undef=u:=by simp [hu]
    rw [this,hv.lit_inv];exact .lit _
theorem Qd (x:Tk) : (Tk.av x).length=3∧∀ c∈Tk.av x,∃ u,c = .lit u∧u.oneCell'=true:=by
 refine ⟨rfl,fun c hc=>?_⟩;simp only [Tk.av,List.mem_cons,List.not_mem_nil,or_false] at hc;rcases hc with rfl|rfl|rfl<;>exact ⟨_,rfl,rfl⟩
theorem Dz:(n0 31).has 3:=⟨by decide,by decide⟩
def cF (s:St) (k:Nat) : List (List AV):=(cA (s.q.take k)).map fun l=>[AV.sl 1 l]
theorem xf {s:St} {k:Nat} (h:k < s.q.length) : cF s (k+1)=cF s k++[[.sl 1 ((qat s.q k).map cL)]]:=by
 unfold cF cA;rw [nX h,List.map_append,List.map_append,fo h];rfl
theorem uf {s:St} {k:Nat} (h:k≤s.q.length) : (cF s k).length=k:=by
 unfold cF cA;rw [List.length_map,List.length_map,List.length_take];omega
@[go_sem] theorem Tv (s:St) : cF s 0=[]:=rfl
theorem DA (s:St) : cF s s.q.length=(cA s.q).map fun l=>[AV.sl 1 l]:=by
 unfold cF;rw [List.take_length]
theorem IY (s:St) (h:SmallS s) : VC Tryz.prog 53 [ez s] (ez s):=by
 refine aK Tryz.func53 rfl (by kernel_rfl) rfl fun M0 w0=>?_;simp only [Tryz.ntmps53,Tryz.results53,az];repeat' with_reducible apply af
 refine ah [] ?_;repeat' with_reducible first|apply af|apply ae|apply aa|(apply ab;intro X Y;go_simp;apply Y;clear Y X)
 refine Qa 8 [] (fun i=>i == 2 || i == 5 || i == 6 || i == 7) ⟨[(11,.agg [aZ,.sl 3 (s.tk.map Tk.av),I s.time]),(3,.ref 1 0),(2,.ref 0 0),(1,.vp [ot s.q,.sl 3 (s.tk.map Tk.av),I s.time]),(0,ez s)],[some (.box [aZ,aZ,I 0]),some (.box [aZ,aZ,I 0])]⟩ (fun p a w i v w'=>cpT (s.tk.map Tk.av) s.time (Mof M0 [some (.box [aZ,aZ,I 0])] p) w i v w') (by kernel_rfl) (by kernel_rfl) (fun p a w i v w1 w2 hv hb=>Qc _ _ _ _ _ _ _ _ hv hb) ?_;simp only [aA];repeat (first|(refine vf rfl ?_)|((with_reducible refine vg rfl fun X Y=>?_);go_simp;refine Y _ (by go_simp) ?_;clear Y X)|(with_reducible apply vh))
 refine ⟨?_,?_,?_⟩
 ·intro p a w R i o hi hc ho;have FC:i=2∨i=5∨i=6∨i=7:=by simpa [or_assoc] using hc
  rcases FC with rfl|rfl|rfl|rfl
  all_goals
   simp only [List.getElem?_cons_zero,List.getElem?_cons_succ,Option.some.injEq] at ho;subst ho;refine ⟨rfl,fun a' w' hb cS hold xg=>?_⟩
  ·obtain ⟨us,aG,_⟩:=B0 (P:=Tryz.prog) (w:=w') (M:=fun _ _=>False) (h:=[]) (p:=p) (t:=30) (n:=0) (parts:=[]) (vals:=#[]) (cs:=[]) (ti:=⟨1,1,24,148,3,0,.i64,[],[.slice none 0 0]⟩) rfl (fun i a v h=>by simp at h) (by kernel_rfl);unfold gives;simp only [execOp,Sem.run_bind,List.map_toArray,List.map_nil,aG,Result.andThen_ok,Sem.run_pure];exact ⟨⟨_,rfl⟩,nO _ _⟩
  ·have h7:=xg 2 _ 7 (by decide) rfl rfl rfl (by kernel_rfl);unfold cpT at h7;rw [if_pos rfl] at h7;obtain ⟨b7,e7⟩:=h7;have hy:V1 w' (Mof M0 [some (.box [aZ,aZ,I 0])] p) [some (.box [aZ,aZ,I 0])] p (.sl 3 (s.tk.map Tk.av)) (a'.eval (.tmp 9)):=cS 9 (by simp [Oper.looksAt,Op.operands,Call.operands]);have ex:a'.eval (.tmp 7) = .slice (some b7) 0 0:=e7;obtain ⟨d,i0,z,hd,hi,hz,fc,aV⟩:=eQ EX;injection aV with q1 q2 q3 q4 q5 q6 q7 q8 q9
   have iJ:z.cells.size=3:=by
    rw [←Array.length_toList,←q9];rfl
   obtain ⟨v',w2,hr,eN,ho⟩:=Qb (P:=Tryz.prog) (ty:=30) (a0:=b7) Tryz.underlying30 hi hz q2.symm iJ (by rw [←q3];decide) (by decide) hy.sl_inv (by have:=h.nt;rw [List.length_map];omega);rw [←ex] at hr;unfold gives;simp only [execOp,resolve,invoke,builtin,Sem.run_bind,Sem.run_pure,Result.andThen_ok,List.map_toArray,List.map_cons,List.map_nil,hr];refine ⟨?_,eN⟩;unfold cpT;rw [if_neg (by decide),if_pos rfl];exact ho.base hb.size
  ·have h5:=xg 5 _ 10 (by decide) rfl rfl rfl (by kernel_rfl);unfold cpT at h5;rw [if_neg (by decide),if_pos rfl] at h5;have hy:V1 w' (Mof M0 [some (.box [aZ,aZ,I 0])] p) [some (.box [aZ,aZ,I 0])] p (I s.time) (a'.eval (.tmp 6)):=cS 6 (by simp [Oper.looksAt,Op.operands]);have e6:a'.eval (.tmp 6) = .int .i64 s.time:=hy.lit_inv;obtain ⟨A,m,c,IZ⟩ : ∃ A m c,a'.eval (.tmp 10) = .slice A m c:=by
    unfold OwnRow at h5;split at h5
    ·obtain ⟨⟨A,h5⟩,_⟩:=h5;exact ⟨A,0,0,h5⟩
    ·obtain ⟨g,cap,cur,h5,_⟩:=h5;exact ⟨_,_,_,h5⟩
   have Qe:OwnRow w w' (Mof M0 [some (.box [aZ,aZ,I 0])] p) 148 3 (decide (s.tk.map Tk.av=[])) (s.tk.map Tk.av) (.slice A m c):=by
    rw [←IZ];exact h5
   obtain ⟨u,aG,hu⟩:=Fu (P:=Tryz.prog) (w:=w') (M:=fun _ _=>False) (h:=[]) (p:=p) (t:=32) (parts:=[(2,I s.time),(1,.lit (.slice A m c))]) (vals:=#[(2,.int .i64 s.time),(1,.slice A m c)]) (r:=.agg [aZ,.lit (.slice A m c),I s.time]) rfl (fun i a v h1 h2=>by
    rcases i with _|_|i
    ·simp at h1 h2;subst h1;subst h2;exact .base _ _ (.lit _)
    ·simp at h1 h2;subst h1;subst h2;exact .base _ _ (.lit _)
    ·simp at h1) (by go_simp)
   have BN:u = .agg #[.slice none 0 0,.slice A m c,.int .i64 s.time]:=by
    have h0:=hu;cases h0 with
    | base _ _ h0=>
     cases h0 with
     | agg _ us hl h1 h2=>
      rcases us with _|⟨u0,_|⟨u1,_|⟨u2,_|⟨_,_⟩⟩⟩⟩
      ·simp at hl
      ·simp at hl
      ·simp at hl
      ·have k0:=(h2 0 _ u0 rfl rfl).lit_inv;have k1:=(h2 1 _ u1 rfl rfl).lit_inv;have k2:=(h2 2 _ u2 rfl rfl).lit_inv;subst k0;subst k1;subst k2;rfl
      ·simp at hl
    | agg _ us hl h1 h2=>
     rcases us with _|⟨u0,_|⟨u1,_|⟨u2,_|⟨_,_⟩⟩⟩⟩
     ·simp at hl
     ·simp at hl
     ·simp at hl
     ·have k0:=(h2 0 _ u0 rfl rfl).lit_inv;have k1:=(h2 1 _ u1 rfl rfl).lit_inv;have k2:=(h2 2 _ u2 rfl rfl).lit_inv;subst k0;subst k1;subst k2;rfl
     ·simp at hl
   unfold gives;simp only [execOp,Sem.run_bind,List.map_toArray,List.map_cons,List.map_nil,e6,IZ,aG,Result.andThen_ok,Sem.run_pure];refine ⟨?_,Below.refl _ _⟩;unfold cpT;rw [if_neg (by decide),if_neg (by decide),if_pos rfl,BN];exact ⟨_,rfl,Qe⟩
  ·obtain ⟨z,hz,iX,ka⟩:=oP Pj;have Qf:z.cells=#[.slice none 0 0,.slice none 0 0,.int .i64 0]:=by
    apply Array.toList_inj.1;exact hz
   unfold gives;simp only [execOp,Instr.alloc,Sem.run_bind,ka,Result.andThen_ok];simp only [newVar,newRow];refine ⟨?_,nO w' _⟩;unfold cpT;rw [if_neg (by decide),if_neg (by decide),if_neg (by decide)];exact ⟨_,rfl,hb.size,by simp [Qf,-World.alloc_eq]⟩
 ·intro p a w a' w' R hb R' hold hT;have h6:=hT 6 _ 11 (by decide) rfl rfl rfl;have h7:=hT 7 _ 3 (by decide) rfl rfl rfl;unfold cpT at h6 h7;rw [if_neg (by decide),if_neg (by decide),if_pos rfl] at h6;rw [if_neg (by decide),if_neg (by decide),if_neg (by decide)] at h7;obtain ⟨v5,e6,ho⟩:=h6;obtain ⟨b,e7,I0,uO⟩:=h7;have jP:=(ko p 1 b).1;have R1:=R.grow (ob:=.box [aZ,aZ,I 0]) (b:=b) (d:=3) (av:=.ref 1 0) (v:=.pointer (some ⟨b,0,none⟩)) hb Dz (fun _=>I0) (fun _ _ _ _ _ h=>by cases h)
   ⟨rB (Nat.le_trans R.below.size I0),_,32,by simp only [List.length_cons,List.length_nil,Nat.zero_add];rw [jP];exact uO,rfl,fun c hc=>by
    simp only [List.mem_cons,List.not_mem_nil,or_false] at hc;rcases hc with rfl|rfl|rfl<;>rfl,fun j c hj=>by
    rcases j with _|_|_|j
    ·simp only [List.getElem?_cons_zero,Option.some.injEq] at hj;subst hj;exact ⟨_,rfl,.base _ _ (.lit _)⟩
    ·simp only [List.getElem?_cons_zero,List.getElem?_cons_succ,Option.some.injEq] at hj;subst hj;exact ⟨_,rfl,.base _ _ (.lit _)⟩
    ·simp only [List.getElem?_cons_zero,List.getElem?_cons_succ,Option.some.injEq] at hj;subst hj;exact ⟨_,rfl,.base _ _ (.lit _)⟩
    ·simp at hj⟩
   (by
    have:=V1.ref (w:=w') (M:=Mof M0 [some (.box [aZ,aZ,I 0]),some (.box [aZ,aZ,I 0])] (cq p 1 b)) (h:=[some (.box [aZ,aZ,I 0]),some (.box [aZ,aZ,I 0])]) (p:=cq p 1 b) 1 0 (by simp);rwa [jP] at this)
  have R2:=R1.reframe (a':=a') R'.defers R'.size fun i hi=>by
   by_cases h3:i=3
   ·subst h3;rw [mI a 3 _ 3 (R.size.lt Dz),if_pos rfl];exact e7
   ·rw [mI a 3 _ i (R.size.lt Dz),if_neg (Ne.symm h3)];have eb:i=2∨i=1∨i=0:=by
     apply Classical.byContradiction;intro hn;apply hi;simp only [lkp];rw [if_neg (Ne.symm h3),if_neg (by omega),if_neg (by omega),if_neg (by omega)]
    refine hold i fun j q hj hq he=>?_;have Qg:j=0∨j=1∨j=2∨j=3∨j=4∨j=5∨j=6∨j=7:=by omega
    rcases Qg with rfl|rfl|rfl|rfl|rfl|rfl|rfl|rfl
    all_goals
     simp only [List.getElem?_cons_zero,List.getElem?_cons_succ,Option.some.injEq] at hq;subst hq;simp only [Option.some.injEq] at he;omega
  refine ⟨_,R2.know (d:=11) (r:=.agg [aZ,.sl 3 (s.tk.map Tk.av),I s.time]) ?_⟩;rw [e6];refine .base _ _ (.agg _ [.slice none 0 0,v5,.int .i64 s.time] rfl (fun c hc=>?_) fun j c u hc hu=>?_)
  ·simp only [List.mem_cons,List.not_mem_nil,or_false] at hc;rcases hc with rfl|rfl|rfl<;>rfl
  ·rcases j with _|_|_|j
   ·simp only [List.getElem?_cons_zero,Option.some.injEq] at hc hu;subst hc;subst hu;exact .lit _
   ·simp only [List.getElem?_cons_zero,List.getElem?_cons_succ,Option.some.injEq] at hc hu;subst hc;subst hu;refine ho.lits Qd fun g cur j hg sC hm=>?_;rcases hm with hm|⟨id,ob,hid,hl,hO⟩
    ·exact R.h0 _ _ hm (.inl (Nat.le_trans R.below.size hg))
    ·rcases id with _|_|id
     ·simp only [List.cons_append,List.nil_append,List.getElem?_cons_zero,Option.some.injEq] at hid;subst hid;have:=((R.objs 0 _ rfl).own hl g j ((iY (show (0:Nat)≠1 by decide)).1 hO)).2;omega
     ·have:=lx hO;subst this;rw [uO] at sC;injection sC with sC
      injection sC with q1 q2 q3
      exact absurd q2 (by decide)
     ·simp at hid
   ·simp only [List.getElem?_cons_zero,List.getElem?_cons_succ,Option.some.injEq] at hc hu;subst hc;subst hu;exact .lit _
   ·simp at hc
 ·have hq:=h.q1;have sd:=h.nq;have HQ:=Lib.hid hq;clear hq h;repeat' with_reducible first|apply af|apply ae|apply aa|(apply ab;intro X Y;go_simp;apply Y;clear Y X)
  refine ah [] ?_;repeat' with_reducible first|apply ae|apply ar|apply aa|(apply ab;intro X Y;go_simp;apply Y;clear Y X)
  refine fa (fun p a w R=>⟨_,R.nilCell (bi:=1) (j:=0) (e:=62) (sz:=1) rfl rfl (by decide)⟩) ?_;go_simp;apply iy [1,2,3] (fun k=>[(4,I k)]) (fun k=>([some (.box [aZ,aZ,I 0]),some (.box [.osl 2,.sl 3 (s.tk.map Tk.av),I s.time]),some (.arr 62 1 (decide (cF s k=[])) (cF s k))] : Hp))  (s.q.length)
  ·go_simp<;>exact rfl
  ·go_simp
  ·intro k hk K hK;obtain ⟨w1,w2,w3,w4,w5,w6⟩:=ixs (m:=k) (by omega);have g:=N5 (qat s.q k) (by rw [fo hk];have:=(HQ.out _ (List.getElem_mem hk)).1;omega);have hs:=xf hk;have hl:=uf (s:=s) (k:=k) (by omega);have hb:(cF s k).length+1≤1000000000:=by omega
   rw [hs] at hK;clear hs hl;generalize cF s k=RV at *;repeat' with_reducible apply af
   refine ah [] ?_;repeat' with_reducible first|apply af|apply ae|apply aj|apply ar|apply aa|(apply ao;·go_simp)|(apply ab;intro X Y;go_simp;apply Y;clear Y X)
   refine qc 9 [] 2 [] (by kernel_rfl) (by kernel_rfl) (by kernel_rfl) (by kernel_rfl) rfl ⟨rfl,rfl⟩ rfl ?_;simp only [aA];repeat' with_reducible first|apply aI|(apply aJ;intro X Y;go_simp;(first|(refine ⟨_,g,?_⟩)|skip);apply Y;clear Y X)
   refine ⟨_,by go_simp,by go_simp;exact rfl,?_,?_⟩
   ·intro t ht;simp at ht
   go_simp;repeat' with_reducible first|apply ae|apply aT|apply aa|(apply ab;intro X Y;go_simp;apply Y;clear Y X)
   refine ah [] ?_;repeat' with_reducible first|apply ae|apply aa|(apply ab;intro X Y;go_simp;apply Y;clear Y X)
   refine hK _ ?_;go_simp
  ·intro K;rw [DA];repeat' with_reducible apply af
   refine ah [] ?_;repeat' with_reducible first|apply af|apply ae|apply aW|apply aX|apply aY|apply aa|(apply ak;·go_simp)|(apply ab;intro X Y;go_simp;apply Y;clear Y X)
   refine hZ 1 0 2 rfl rfl rfl ?_;repeat' with_reducible first|apply ae|apply aq|apply aa|refine ah [] ?_|(apply ab;intro X Y;go_simp;apply Y;clear Y X)
   go_simp
structure InS (s:St) : Prop where
 q:s.q.length≤9223372036854775807
 t:s.tk.length≤9223372036854775807
 ti:∀ t∈s.tk,i64 t.rank∧i64 t.time
 tm:i64 s.time
theorem Qh (r:Ru) (s:St) (x:Ev) (hl:r.ranks.length≤9223372036854775807) (hs:InS s) (hc:x.car.size≤9223372036854775807) : VC Tryz.prog 10 [ct r,ez s,evA x] (B true):=by
 have ha:=wK;have gF:=Dk r hl;have gS:=IS s hs.q hs.t;clear hl;cases hF:sI r
 ·rw [hF] at gF;clear hF hc hs gS;refine aK Tryz.func10 rfl (by kernel_rfl) rfl fun M0 w0=>?_;simp only [Tryz.ntmps10,Tryz.results10,az];repeat' first|(with_reducible first|apply af|apply ae|apply aF|apply aq|apply aj|apply aa|refine ah [] ?_|(apply ao;·go_simp)|(apply ak;·go_simp))|((with_reducible apply ab);intro X Y;go_simp;(first|(with_reducible refine ⟨_,ha,?_⟩)|(refine ⟨_,gF,?_⟩)|skip);apply Y;clear Y X)
  go_simp
 rw [hF] at gF;cases hS:qU s
 ·rw [hS] at gS;clear hF hS hc hs;refine aK Tryz.func10 rfl (by kernel_rfl) rfl fun M0 w0=>?_;simp only [Tryz.ntmps10,Tryz.results10,az];repeat' first|(with_reducible first|apply af|apply ae|apply aF|apply aq|apply aj|apply aa|refine ah [] ?_|(apply ao;·go_simp)|(apply ak;·go_simp))|((with_reducible apply ab);intro X Y;go_simp;(first|(with_reducible refine ⟨_,ha,?_⟩)|(refine ⟨_,gF,?_⟩)|(refine ⟨_,gS,?_⟩)|skip);apply Y;clear Y X)
  go_simp
 rw [hS] at gS;have kI:=IV hS hs.ti hs.tm;obtain ⟨h8,bI⟩:=Dl hF;by_cases wL:x.car.size≤20
 ·have k1:¬(20:Int) < (x.car.size:Int):=by omega
  have g1:=Hr r (by omega);have g2:=IY s kI;have g3:=P5 r s (by omega) bI kI;have g4:=P6 r x (by omega) bI (by omega);have g5:=Iz r (by omega) bI;have g7:=Pn r x (by omega) (by omega);obtain ⟨kd,tm,rk,car⟩:=x;simp only [evA] at *;unfold ckE at g3;by_cases h:(bY r).2=0
  ·have g6:=IN r s (vl h).1 (by omega) kI;rw [if_neg (by simp [h])] at g3;rw [h] at g5;have e:fst [(bY r).2,evE r ⟨kd,tm,rk,car⟩]=evE r ⟨kd,tm,rk,car⟩:=by
    rw [h];simp only [fst,ne_eq,not_true_eq_false,if_false];split
    ·rfl
    ·rename_i hh;have h0:evE r ⟨kd,tm,rk,car⟩=0:=by simpa using hh
     exact h0.symm
   rw [e] at g4;generalize ia r s=C at *;generalize evE r ⟨kd,tm,rk,car⟩=D at *;clear hF hS h8 bI h hs kI hc wL e;refine aK Tryz.func10 rfl (by kernel_rfl) rfl fun M0 w0=>?_;simp only [Tryz.ntmps10,Tryz.results10,az];repeat' first|(with_reducible first|apply af|apply ae|apply aq|apply aj|apply aa|refine ah [] ?_|apply aI|(apply ak;·go_simp))|((with_reducible first|apply ab|apply aJ);intro X Y;go_simp;(first|(with_reducible refine ⟨_,ha,?_⟩)|(refine ⟨_,gF,?_⟩)|(refine ⟨_,gS,?_⟩)|(refine ⟨_,g1,?_⟩)|(refine ⟨_,g2,?_⟩)|(refine ⟨_,g3,?_⟩)|(refine ⟨_,g4,?_⟩)|(refine ⟨_,g5,?_⟩)|(refine ⟨_,g6,?_⟩)|(refine ⟨_,g7,?_⟩)|skip);apply Y;clear Y X)|((refine aQ 5 5 [] rfl (by kernel_rfl) ?_);simp only [aA])|((refine aQ 6 6 [] rfl (by kernel_rfl) ?_);simp only [aA])
   go_simp
  ·rw [if_pos h] at g3;have e:fst [(bY r).2,evE r ⟨kd,tm,rk,car⟩]=(bY r).2:=by simp [fst,h]
   rw [e] at g4;generalize (bY r).2=E at *;clear hF hS h8 bI hs kI hc wL e g7;refine aK Tryz.func10 rfl (by kernel_rfl) rfl fun M0 w0=>?_;simp only [Tryz.ntmps10,Tryz.results10,az];repeat' first|(with_reducible first|apply af|apply ae|apply aF|apply aq|apply aj|apply aa|refine ah [] ?_|apply aI|(apply ao;·go_simp)|(apply ak;·go_simp))|((with_reducible first|apply ab|apply aJ);intro X Y;go_simp;(first|(with_reducible refine ⟨_,ha,?_⟩)|(refine ⟨_,gF,?_⟩)|(refine ⟨_,gS,?_⟩)|(refine ⟨_,g1,?_⟩)|(refine ⟨_,g2,?_⟩)|(refine ⟨_,g3,?_⟩)|(refine ⟨_,g4,?_⟩)|(refine ⟨_,g5,?_⟩)|skip);apply Y;clear Y X)|((refine aQ 5 5 [] rfl (by kernel_rfl) ?_);simp only [aA])|((refine aQ 6 6 [] rfl (by kernel_rfl) ?_);simp only [aA])
   go_simp
 ·have k1:(20:Int) < (x.car.size:Int):=by omega
  obtain ⟨kd,tm,rk,car⟩:=x;simp only [evA] at *;clear hF hS h8 bI hs kI hc wL;refine aK Tryz.func10 rfl (by kernel_rfl) rfl fun M0 w0=>?_;simp only [Tryz.ntmps10,Tryz.results10,az];repeat' first|(with_reducible first|apply af|apply ae|apply aF|apply aq|apply aj|apply aa|refine ah [] ?_|(apply ao;·go_simp)|(apply ak;·go_simp))|((with_reducible apply ab);intro X Y;go_simp;(first|(with_reducible refine ⟨_,ha,?_⟩)|(refine ⟨_,gF,?_⟩)|(refine ⟨_,gS,?_⟩)|skip);apply Y;clear Y X)
  go_simp
end Go.Proofs.YtoibondihdhnoaaGreatDoor
